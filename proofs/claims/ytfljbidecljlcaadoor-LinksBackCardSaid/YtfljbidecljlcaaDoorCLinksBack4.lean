/-
  Part of the proof that LinksBack answers true: texts put together (wip/bundle.py).
-/
import Derived.Test.YtfljbidecljlcaaDoorCLinksBack3
import Derived.Deep.RegionHeld3
import Derived.Shelf.SlGeneric
import Derived.Shelf.SlIter.Nil
import Derived.Shelf.SortM.Plain
import Derived.Shelf.SortM.SortNone
import Derived.Ground.GgzProg
import Derived.Ground.SlgmProg
import Derived.Test.YtfljbidecljlcaaDoorProg
import Derived.Laws.MakeOwn
namespace Go.Proofs.YtfljbidecljlcaaDoor.Print
open Go.RowKit Go.Proofs.YtfljbidecljlcaaDoorW.PrintWords Go.Proofs.YtfljbidecljlcaaDoorW.PrintLast Go.Proofs.YtfljbidecljlcaaDoorW.PrintMore
attribute [local go_sem] max2_int min2_int max_two min_two max_three min_three max_four min_four   -- for this text's walks alone
set_option linter.unusedVariables false
set_option linter.unusedSimpArgs false
abbrev q30_0 : Array Bool := #[false, false, false, false, false, false, false, false, false, false, false, false, false, false, false, false, false, false, false, false, false, false, false]
abbrev q30_1 : Array Bool := #[true, false, false, false, false, false, false, false, false, false, false, false, false, false, false, false, false, false, false, false, false, false, false]
abbrev q30_2 : Array Bool := #[true, true, false, false, false, false, false, false, false, false, false, false, false, false, false, false, false, false, false, false, false, false, false]
abbrev q30_3 : Array Bool := #[true, true, true, false, false, false, false, false, false, false, false, false, false, false, false, false, false, false, false, false, false, false, false]
abbrev q30_4 : Array Bool := #[true, true, true, true, false, false, false, false, false, false, false, false, false, false, false, false, false, false, false, false, false, false, false]
abbrev q30_5 : Array Bool := #[true, true, true, true, false, true, false, false, false, false, false, false, false, false, false, false, false, false, false, false, false, false, false]
abbrev q30_6 : Array Bool := #[true, true, true, true, false, true, true, false, false, false, false, false, false, false, false, false, false, false, false, false, false, false, false]
abbrev q30_7 : Array Bool := #[true, true, true, true, false, true, true, true, false, false, false, false, false, false, false, false, false, false, false, false, false, false, false]
abbrev q30_8 : Array Bool := #[true, true, true, true, false, true, true, true, true, false, false, false, false, false, false, false, false, false, false, false, false, false, false]
abbrev q30_9 : Array Bool := #[true, true, true, true, true, true, true, true, true, false, false, false, false, false, false, false, false, false, false, false, false, false, false]
abbrev q30_10 : Array Bool := #[true, true, true, true, true, true, true, true, true, true, false, false, false, false, false, false, false, false, false, false, false, false, false]
abbrev q30_11 : Array Bool := #[true, true, true, true, true, true, true, true, true, true, true, false, false, false, false, false, false, false, false, false, false, false, false]
abbrev q30_12 : Array Bool := #[true, true, true, true, true, true, true, true, true, true, true, true, false, false, false, false, false, false, false, false, false, false, false]
abbrev q30_13 : Array Bool := #[true, true, true, true, true, true, true, true, true, true, true, true, true, false, false, false, false, false, false, false, false, false, false]
abbrev q30_14 : Array Bool := #[true, true, true, true, true, true, true, true, true, true, true, true, true, true, false, false, false, false, false, false, false, false, false]
abbrev q30_15 : Array Bool := #[true, true, true, true, true, true, true, true, true, true, true, true, true, true, true, false, false, false, false, false, false, false, false]
abbrev q30_16 : Array Bool := #[true, true, true, true, true, true, true, true, true, true, true, true, true, true, true, true, false, false, false, false, false, false, false]
abbrev q30_17 : Array Bool := #[true, true, true, true, true, true, true, true, true, true, true, true, true, true, true, true, true, false, false, false, false, false, false]
abbrev q30_18 : Array Bool := #[true, true, true, true, true, true, true, true, true, true, true, true, true, true, true, true, true, true, false, false, false, false, false]
abbrev q30_19 : Array Bool := #[true, true, true, true, true, true, true, true, true, true, true, true, true, true, true, true, true, true, true, false, false, false, false]
abbrev q30_20 : Array Bool := #[true, true, true, true, true, true, true, true, true, true, true, true, true, true, true, true, true, true, true, true, false, false, false]
abbrev q30_21 : Array Bool := #[true, true, true, true, true, true, true, true, true, true, true, true, true, true, true, true, true, true, true, true, true, false, false]
abbrev q30_22 : Array Bool := #[true, true, true, true, true, true, true, true, true, true, true, true, true, true, true, true, true, true, true, true, true, true, false]
abbrev q30_23 : Array Bool := #[true, true, true, true, true, true, true, true, true, true, true, true, true, true, true, true, true, true, true, true, true, true, true]
abbrev q30_24 : Array Bool := #[true, true, true, true, true, true, true, true, true, true, true, true, true, true, true, false, true, false, false, false, false, false, false]
abbrev q30_25 : Array Bool := #[true, true, true, true, true, true, true, true, true, true, true, true, true, true, true, false, true, true, false, false, false, false, false]
abbrev q30_26 : Array Bool := #[true, true, true, true, true, true, true, true, true, true, true, true, true, true, true, false, true, true, true, false, false, false, false]
def bindleref08_SameTree.l0 : Nat → List (S40) → List (S40) → Int → Option (Bool)
 | 0, _, _, _ => none
 | k + 1, x0, x1, x5 => if x5 < (x0.length : Int) then (if 0 ≤ x5 then (if x5 < (x1.length : Int) then (if ((rd_T40 x0 x5).f2).toList = ((rd_T40 x1 x5).f2).toList then ((bindleref08_Equal.f ((rd_T40 x0 x5).f0) ((rd_T40 x0 x5).f1) ((rd_T40 x0 x5).f2) ((rd_T40 x0 x5).f3) ((rd_T40 x0 x5).f4.f0) ((rd_T40 x0 x5).f4.f1) ((rd_T40 x0 x5).f4.f2) ((rd_T40 x0 x5).f4.f3) ((rd_T40 x0 x5).f5) ((rd_T40 x1 x5).f0) ((rd_T40 x1 x5).f1) ((rd_T40 x1 x5).f2) ((rd_T40 x1 x5).f3) ((rd_T40 x1 x5).f4.f0) ((rd_T40 x1 x5).f4.f1) ((rd_T40 x1 x5).f4.f2) ((rd_T40 x1 x5).f4.f3) ((rd_T40 x1 x5).f5)).bind fun t397 => (if t397 = true then (bindleref08_SameTree.l0 k x0 x1 (wrap64 (x5 + 1))) else (some false))) else (some false)) else (none)) else (none)) else (some true)
def bindleref08_SameTree.f (k : Nat) (l0 : List (S40)) (l1 : List (S40)) : Option (Bool) := if (l0.length : Int) = (l1.length : Int) then (bindleref08_SameTree.l0 k l0 l1 0) else (some false)
def bindleref08_SameTree.T6 : Bool × List (List Nat × List Nat) := (true, [([], []), ([], []), ([0, 1], [0, 1]), ([2], [2]), ([3], [3]), ([], []), ([], []), ([5, 6], [5, 6]), ([7], [7]), ([8], [8]), ([4, 9], [4, 9]), ([10], [10]), ([11], [11]), ([11], [11]), ([12, 13, 11], [11, 12, 13]), ([14, 11], [11, 14]), ([11], [11]), ([11], [11]), ([16, 17, 11], [11, 16, 17]), ([18, 11], [11, 18]), ([15, 19, 11, 11], [11, 15, 19]), ([20, 11], [11, 20]), ([11, 21], [11, 21])])
def bindleref08_SameTree.B6 : List Nat := [0, 0, 3, 7, 15, 0, 0, 96, 224, 480, 1023, 2047, 4095, 4095, 16383, 32767, 4095, 4095, 200703, 462847, 1048575, 2097151, 4194303]
theorem bindleref08_SameTree.tab6 : rtab .any (opsOf Tryd.f30 6) = bindleref08_SameTree.T6 := by kernel_rfl
theorem bindleref08_SameTree.bits6 : waitsOk bindleref08_SameTree.T6.2 bindleref08_SameTree.B6 = true := by kernel_rfl
set_option maxHeartbeats 8000000 in
set_option maxRecDepth 100000 in
theorem bindleref08_SameTree.calls (k : Nat) (A0 : Option Addr) (c0 : Nat) (l0 : List (S40)) (A1 : Option Addr) (c1 : Nat) (l1 : List (S40)) (r : Bool) (w : World) (hr0 : Kd.C k40 w A0 l0.length l0) (hc0 : l0.length ≤ c0) (hr1 : Kd.C k40 w A1 l1.length l1) (hc1 : l1.length ≤ c1) (h : bindleref08_SameTree.f k l0 l1 = some r) :
  Calls Tryd.prog 30 #[.slice A0 l0.length c0, .slice A1 l1.length c1] w fun e w' => e = .returned (.bool r) ∧ Below w.heap.size w w' := by
 have hu40 := Tryd.underlying40
 have HR0 := A0_ hr0
 have HC0 := A0_ hc0
 clear hr0 hc0
 have HR1 := A0_ hr1
 have HC1 := A0_ hc1
 clear hr1 hc1
 have HB := A0_ (Below.refl w.heap.size w)
 have H : (if (l0.length : Int) = (l1.length : Int) then (bindleref08_SameTree.l0 k l0 l1 0) else (some false)) = some r := h
 clear h
 by_cases c3 : (l0.length : Int) = (l1.length : Int)
 rotate_left
 ·rw [if_neg c3] at H
  have c3b0 : ((l0.length : Int) == (l1.length : Int)) = false := beq_eq_false_iff_ne.mpr c3
  have c3b1 : ((l0.length : Int) != (l1.length : Int)) = true := bne_iff_ne.mpr c3
  have c3b2 : (l0.length == l1.length) = false := by first | simpa using c3 | (simp at c3 ⊢; omega)
  obtain rfl := Option.some.inj H
  go_enter Tryd.func30, Tryd.ntmps30
  go_wp2
  go_ret
  exact ⟨we_, wb_ HB.out⟩
 rw [if_pos c3] at H
 have c3b0 : ((l0.length : Int) == (l1.length : Int)) = true := beq_iff_eq.mpr c3
 have c3b1 : ((l0.length : Int) != (l1.length : Int)) = false := bne_eq_false_iff_eq.mpr c3
 have c3b2 : (l0.length == l1.length) = true := by first | simpa using c3 | (simp at c3 ⊢; omega)
 clear c3
 have H' := A0_ H
 clear H
 go_enter Tryd.func30, Tryd.ntmps30
 go_wp2
 go_loopg [5] k (fun kq v5 w' => ∃ (x5_1 : Int), v5 = .int .i64 x5_1 ∧ Aside0 (bindleref08_SameTree.l0 kq l0 l1 x5_1 = some r) ∧ Aside0 (kq ≤ k) ∧ Aside0 (Below w.heap.size w w'))
 case atStart => exact ⟨(0), wr_, H', ⟨Nat.le_refl _⟩, ⟨wb_ HB.out⟩⟩
 case round =>
  clear H'
  try clear c1
  try clear p2
  try clear c3
  try clear c3b0
  try clear c3b1
  try clear c3b2
  obtain ⟨x5_1, rfl, HA, HK1, HB⟩ := hrel
  cases gk with
  | zero => exact absurd HA.out (by simp [bindleref08_SameTree.l0])
  | succ k1 =>
   have H := HA.out
   clear HA
   simp only [bindleref08_SameTree.l0] at H
   by_cases c4 : x5_1 < (l0.length : Int)
   rotate_left
   ·rw [if_neg c4] at H
    have c4b0 : decide (x5_1 < (l0.length : Int)) = false := decide_eq_false c4
    clear c4
    obtain rfl := Option.some.inj H
    go_wp2
    go_ret
    exact ⟨we_, wb_ HB.out⟩
   rw [if_pos c4] at H
   have c4b0 : decide (x5_1 < (l0.length : Int)) = true := decide_eq_true c4
   clear c4
   by_cases c5 : 0 ≤ x5_1
   rotate_left
   ·rw [if_neg c5] at H
    exact absurd H (by simp)
   rw [if_pos c5] at H
   have c5b0 : decide (0 ≤ x5_1) = true := decide_eq_true c5
   clear c5
   by_cases c6 : x5_1 < (l1.length : Int)
   rotate_left
   ·rw [if_neg c6] at H
    exact absurd H (by simp)
   rw [if_pos c6] at H
   have c6b0 : decide (x5_1 < (l1.length : Int)) = true := decide_eq_true c6
   clear c6
   by_cases c7 : ((rd_T40 l0 x5_1).f2).toList = ((rd_T40 l1 x5_1).f2).toList
   rotate_left
   ·rw [if_neg c7] at H
    have c7b0 : (((rd_T40 l0 x5_1).f2).toList == ((rd_T40 l1 x5_1).f2).toList) = false := beq_eq_false_iff_ne.mpr c7
    have c7b1 : (((rd_T40 l0 x5_1).f2).toList != ((rd_T40 l1 x5_1).f2).toList) = true := bne_iff_ne.mpr c7
    obtain rfl := Option.some.inj H
    try go_wp2
    have n0_ := A0_ (b1_ HB.out)
    clear HB
    have HB := n0_
    clear n0_
    have p393 : 0 ≤ (x5_1 : Int) := wd_
    have q393 : x5_1 < (l0.length : Int) := wd_
    obtain ⟨ad393, A393_8, c393_8, e393, hx393_0, hx393_1, hx393_2, hx393_3, hx393_4, hx393_5, hx393_6, hx393_7, hx393_8, hl393_8, hi393_8⟩ := at_T40 HR0.out x5_1 p393 q393
    have hw393_8 := hx393_8
    have hw393_7 := hx393_7
    have hw393_6 := hx393_6
    have hw393_5 := hx393_5
    have hw393_4 := hx393_4
    have hw393_3 := hx393_3
    have hw393_2 := hx393_2
    have hw393_1 := hx393_1
    have hw393_0 := hx393_0
    cases e393
    replace hx393_0 := (HB.out.cell (World.block_lt_of_cell? w _ hx393_0)).trans hx393_0
    replace hx393_1 := (HB.out.cell (World.block_lt_of_cell? w _ hx393_1)).trans hx393_1
    replace hx393_2 := (HB.out.cell (World.block_lt_of_cell? w _ hx393_2)).trans hx393_2
    replace hx393_3 := (HB.out.cell (World.block_lt_of_cell? w _ hx393_3)).trans hx393_3
    replace hx393_4 := (HB.out.cell (World.block_lt_of_cell? w _ hx393_4)).trans hx393_4
    replace hx393_5 := (HB.out.cell (World.block_lt_of_cell? w _ hx393_5)).trans hx393_5
    replace hx393_6 := (HB.out.cell (World.block_lt_of_cell? w _ hx393_6)).trans hx393_6
    replace hx393_7 := (HB.out.cell (World.block_lt_of_cell? w _ hx393_7)).trans hx393_7
    replace hx393_8 := (HB.out.cell (World.block_lt_of_cell? w _ hx393_8)).trans hx393_8
    have HR393_8 := A0_ hi393_8
    have HC393_8 := A0_ hl393_8
    clear hi393_8 hl393_8
    replace p393 := eq_true p393
    replace q393 := eq_true q393
    have p394 : 0 ≤ (x5_1 : Int) := wd_
    have q394 : x5_1 < (l1.length : Int) := wd_
    obtain ⟨ad394, A394_8, c394_8, e394, hx394_0, hx394_1, hx394_2, hx394_3, hx394_4, hx394_5, hx394_6, hx394_7, hx394_8, hl394_8, hi394_8⟩ := at_T40 HR1.out x5_1 p394 q394
    have hw394_8 := hx394_8
    have hw394_7 := hx394_7
    have hw394_6 := hx394_6
    have hw394_5 := hx394_5
    have hw394_4 := hx394_4
    have hw394_3 := hx394_3
    have hw394_2 := hx394_2
    have hw394_1 := hx394_1
    have hw394_0 := hx394_0
    cases e394
    replace hx394_0 := (HB.out.cell (World.block_lt_of_cell? w _ hx394_0)).trans hx394_0
    replace hx394_1 := (HB.out.cell (World.block_lt_of_cell? w _ hx394_1)).trans hx394_1
    replace hx394_2 := (HB.out.cell (World.block_lt_of_cell? w _ hx394_2)).trans hx394_2
    replace hx394_3 := (HB.out.cell (World.block_lt_of_cell? w _ hx394_3)).trans hx394_3
    replace hx394_4 := (HB.out.cell (World.block_lt_of_cell? w _ hx394_4)).trans hx394_4
    replace hx394_5 := (HB.out.cell (World.block_lt_of_cell? w _ hx394_5)).trans hx394_5
    replace hx394_6 := (HB.out.cell (World.block_lt_of_cell? w _ hx394_6)).trans hx394_6
    replace hx394_7 := (HB.out.cell (World.block_lt_of_cell? w _ hx394_7)).trans hx394_7
    replace hx394_8 := (HB.out.cell (World.block_lt_of_cell? w _ hx394_8)).trans hx394_8
    have HR394_8 := A0_ hi394_8
    have HC394_8 := A0_ hl394_8
    clear hi394_8 hl394_8
    replace p394 := eq_true p394
    replace q394 := eq_true q394
    refine start_ (n := 23) (S := fun w' => w'.cell? (ad393.add ((x5_1).toNat * 9)) = some (.string ((rd_T40 l0 x5_1).f0)) ∧ w'.cell? ⟨(ad393.add ((x5_1).toNat * 9)).block, (ad393.add ((x5_1).toNat * 9)).off + 1, none⟩ = some (.string ((rd_T40 l0 x5_1).f1)) ∧ w'.cell? ⟨(ad393.add ((x5_1).toNat * 9)).block, (ad393.add ((x5_1).toNat * 9)).off + 2, none⟩ = some (.string ((rd_T40 l0 x5_1).f2)) ∧ w'.cell? ⟨(ad393.add ((x5_1).toNat * 9)).block, (ad393.add ((x5_1).toNat * 9)).off + 3, none⟩ = some (.int .u8 ((rd_T40 l0 x5_1).f3)) ∧ w'.cell? ⟨(ad393.add ((x5_1).toNat * 9)).block, (ad393.add ((x5_1).toNat * 9)).off + 4, none⟩ = some (.int .i64 ((rd_T40 l0 x5_1).f4.f0)) ∧ w'.cell? ⟨(ad393.add ((x5_1).toNat * 9)).block, (ad393.add ((x5_1).toNat * 9)).off + 5, none⟩ = some (.int .i64 ((rd_T40 l0 x5_1).f4.f1)) ∧ w'.cell? ⟨(ad393.add ((x5_1).toNat * 9)).block, (ad393.add ((x5_1).toNat * 9)).off + 6, none⟩ = some (.int .i64 ((rd_T40 l0 x5_1).f4.f2)) ∧ w'.cell? ⟨(ad393.add ((x5_1).toNat * 9)).block, (ad393.add ((x5_1).toNat * 9)).off + 7, none⟩ = some (.int .i64 ((rd_T40 l0 x5_1).f4.f3)) ∧ w'.cell? ⟨(ad393.add ((x5_1).toNat * 9)).block, (ad393.add ((x5_1).toNat * 9)).off + 8, none⟩ = some (.slice A393_8 ((rd_T40 l0 x5_1).f5).length c393_8) ∧ w'.cell? (ad394.add ((x5_1).toNat * 9)) = some (.string ((rd_T40 l1 x5_1).f0)) ∧ w'.cell? ⟨(ad394.add ((x5_1).toNat * 9)).block, (ad394.add ((x5_1).toNat * 9)).off + 1, none⟩ = some (.string ((rd_T40 l1 x5_1).f1)) ∧ w'.cell? ⟨(ad394.add ((x5_1).toNat * 9)).block, (ad394.add ((x5_1).toNat * 9)).off + 2, none⟩ = some (.string ((rd_T40 l1 x5_1).f2)) ∧ w'.cell? ⟨(ad394.add ((x5_1).toNat * 9)).block, (ad394.add ((x5_1).toNat * 9)).off + 3, none⟩ = some (.int .u8 ((rd_T40 l1 x5_1).f3)) ∧ w'.cell? ⟨(ad394.add ((x5_1).toNat * 9)).block, (ad394.add ((x5_1).toNat * 9)).off + 4, none⟩ = some (.int .i64 ((rd_T40 l1 x5_1).f4.f0)) ∧ w'.cell? ⟨(ad394.add ((x5_1).toNat * 9)).block, (ad394.add ((x5_1).toNat * 9)).off + 5, none⟩ = some (.int .i64 ((rd_T40 l1 x5_1).f4.f1)) ∧ w'.cell? ⟨(ad394.add ((x5_1).toNat * 9)).block, (ad394.add ((x5_1).toNat * 9)).off + 6, none⟩ = some (.int .i64 ((rd_T40 l1 x5_1).f4.f2)) ∧ w'.cell? ⟨(ad394.add ((x5_1).toNat * 9)).block, (ad394.add ((x5_1).toNat * 9)).off + 7, none⟩ = some (.int .i64 ((rd_T40 l1 x5_1).f4.f3)) ∧ w'.cell? ⟨(ad394.add ((x5_1).toNat * 9)).block, (ad394.add ((x5_1).toNat * 9)).off + 8, none⟩ = some (.slice A394_8 ((rd_T40 l1 x5_1).f5).length c394_8)) (ds := []) q30_0 (by kernel_rfl) rfl rfl ⟨((HB.out.cell (World.block_lt_of_cell? w _ hw393_0)).trans hw393_0), ((HB.out.cell (World.block_lt_of_cell? w _ hw393_1)).trans hw393_1), ((HB.out.cell (World.block_lt_of_cell? w _ hw393_2)).trans hw393_2), ((HB.out.cell (World.block_lt_of_cell? w _ hw393_3)).trans hw393_3), ((HB.out.cell (World.block_lt_of_cell? w _ hw393_4)).trans hw393_4), ((HB.out.cell (World.block_lt_of_cell? w _ hw393_5)).trans hw393_5), ((HB.out.cell (World.block_lt_of_cell? w _ hw393_6)).trans hw393_6), ((HB.out.cell (World.block_lt_of_cell? w _ hw393_7)).trans hw393_7), ((HB.out.cell (World.block_lt_of_cell? w _ hw393_8)).trans hw393_8), ((HB.out.cell (World.block_lt_of_cell? w _ hw394_0)).trans hw394_0), ((HB.out.cell (World.block_lt_of_cell? w _ hw394_1)).trans hw394_1), ((HB.out.cell (World.block_lt_of_cell? w _ hw394_2)).trans hw394_2), ((HB.out.cell (World.block_lt_of_cell? w _ hw394_3)).trans hw394_3), ((HB.out.cell (World.block_lt_of_cell? w _ hw394_4)).trans hw394_4), ((HB.out.cell (World.block_lt_of_cell? w _ hw394_5)).trans hw394_5), ((HB.out.cell (World.block_lt_of_cell? w _ hw394_6)).trans hw394_6), ((HB.out.cell (World.block_lt_of_cell? w _ hw394_7)).trans hw394_7), ((HB.out.cell (World.block_lt_of_cell? w _ hw394_8)).trans hw394_8)⟩ (fun hHeld => ?_); refine with_tabW bindleref08_SameTree.tab6 bindleref08_SameTree.bits6 (fun HT_ HW_ => ?_)
    generalize wr.drew = w14 at HB HR393_8 HR394_8 hx393_0 hx393_1 hx393_2 hx393_3 hx393_4 hx393_5 hx393_6 hx393_7 hx393_8 hx394_0 hx394_1 hx394_2 hx394_3 hx394_4 hx394_5 hx394_6 hx394_7 hx394_8 hHeld ⊢
    refine pur_ (i := 0) (N := some 17) q30_1 (any_of HT_.out (by kernel_rfl)) ?_
    refine pur_ (i := 1) (N := some 18) q30_2 (any_of HT_.out (by kernel_rfl)) ?_
    refine pur_ (i := 2) (N := some 19) q30_3 (any_of HT_.out (by kernel_rfl)) ?_
    refine pur_ (i := 3) (N := some 20) q30_4 (any_of HT_.out (by kernel_rfl)) ?_
    refine pur_ (i := 5) (N := some 22) q30_5 (any_of HT_.out (by kernel_rfl)) ?_
    refine pur_ (i := 6) (N := some 23) q30_6 (any_of HT_.out (by kernel_rfl)) ?_
    refine pur_ (i := 7) (N := some 24) q30_7 (any_of HT_.out (by kernel_rfl)) ?_
    refine pur_ (i := 8) (N := some 25) q30_8 (any_of HT_.out (by kernel_rfl)) ?_
    refine take_ (i := 4) (N := some 21) (v := ?_) (a' := ?_) q30_9 rfl rfl (take_ofW HT_.out HW_.out (by kernel_rfl)) (fun _ _ _ h => h) (Or.inl ⟨by rfl, ?_⟩) hHeld ?_ ?_
    rotate_left
    ·rintro w' ⟨s0, s1, s2, s3, s4, s5, s6, s7, s8, s9, s10, s11, s12, s13, s14, s15, s16, s17⟩
     go_simp
     with_reducible rfl
    rotate_left
    ·simp only [Act.put, List.setIfInBounds_toArray, List.set_cons_zero, List.set_cons_succ, i64_w, i32_w]
     rfl
    refine take_ (i := 9) (N := some 26) (v := ?_) (a' := ?_) q30_10 rfl rfl (take_ofW HT_.out HW_.out (by kernel_rfl)) (fun _ _ _ h => h) (Or.inl ⟨by rfl, ?_⟩) hHeld ?_ ?_
    rotate_left
    ·rintro w' ⟨s0, s1, s2, s3, s4, s5, s6, s7, s8, s9, s10, s11, s12, s13, s14, s15, s16, s17⟩
     go_simp
     with_reducible rfl
    rotate_left
    ·simp only [Act.put, List.setIfInBounds_toArray, List.set_cons_zero, List.set_cons_succ, i64_w, i32_w]
     rfl
    refine pur_ (i := 10) (N := some 27) q30_11 (any_of HT_.out (by kernel_rfl)) ?_
    refine pur_ (i := 11) (N := some 28) q30_12 (any_of HT_.out (by kernel_rfl)) ?_
    refine puu_ (i := 12) (N := some 29) q30_13 (any_of HT_.out (by kernel_rfl)) ?_
    refine puu_ (i := 13) (N := some 30) q30_14 (any_of HT_.out (by kernel_rfl)) ?_
    refine puu_ (i := 14) (N := some 31) q30_15 (any_of HT_.out (by kernel_rfl)) ?_
    refine puu_ (i := 15) (N := some 32) q30_16 (any_of HT_.out (by kernel_rfl)) ?_
    refine puu_ (i := 16) (N := some 33) q30_17 (any_of HT_.out (by kernel_rfl)) ?_
    refine puu_ (i := 17) (N := some 34) q30_18 (any_of HT_.out (by kernel_rfl)) ?_
    refine puu_ (i := 18) (N := some 35) q30_19 (any_of HT_.out (by kernel_rfl)) ?_
    refine puu_ (i := 19) (N := some 36) q30_20 (any_of HT_.out (by kernel_rfl)) ?_
    refine puu_ (i := 20) (N := some 37) q30_21 (any_of HT_.out (by kernel_rfl)) ?_
    refine puu_ (i := 21) (N := some 38) q30_22 (any_of HT_.out (by kernel_rfl)) ?_
    refine pur_ (i := 22) (N := some 39) q30_23 (any_of HT_.out (by kernel_rfl)) ?_
    refine done_ (done_of HT_.out (by kernel_rfl)) ?_
    try go_wp2
    go_ret
    exact ⟨we_, wb_ HB.out⟩
   rw [if_pos c7] at H
   have c7b0 : (((rd_T40 l0 x5_1).f2).toList == ((rd_T40 l1 x5_1).f2).toList) = true := beq_iff_eq.mpr c7
   have c7b1 : (((rd_T40 l0 x5_1).f2).toList != ((rd_T40 l1 x5_1).f2).toList) = false := bne_eq_false_iff_eq.mpr c7
   clear c7
   replace H := Option.bind_eq_some_iff.mp H
   obtain ⟨t397, A80, H⟩ := H
   replace H : (if t397 = true then (bindleref08_SameTree.l0 k1 l0 l1 (wrap64 (x5_1 + 1))) else (some false)) = some r := H
   have A8 := A0_ A80
   clear A80
   by_cases c9 : t397 = true
   rotate_left
   ·replace c9 := Bool.eq_false_iff.mpr c9
    subst c9
    have H1 : (some false) = some r := by rw [if_neg (show ¬ (false = true) by decide)] at H; exact H
    clear H
    have H := H1
    clear H1
    obtain rfl := Option.some.inj H
    try go_wp2
    have n0_ := A0_ (b1_ HB.out)
    clear HB
    have HB := n0_
    clear n0_
    have p393 : 0 ≤ (x5_1 : Int) := wd_
    have q393 : x5_1 < (l0.length : Int) := wd_
    obtain ⟨ad393, A393_8, c393_8, e393, hx393_0, hx393_1, hx393_2, hx393_3, hx393_4, hx393_5, hx393_6, hx393_7, hx393_8, hl393_8, hi393_8⟩ := at_T40 HR0.out x5_1 p393 q393
    have hw393_8 := hx393_8
    have hw393_7 := hx393_7
    have hw393_6 := hx393_6
    have hw393_5 := hx393_5
    have hw393_4 := hx393_4
    have hw393_3 := hx393_3
    have hw393_2 := hx393_2
    have hw393_1 := hx393_1
    have hw393_0 := hx393_0
    cases e393
    replace hx393_0 := (HB.out.cell (World.block_lt_of_cell? w _ hx393_0)).trans hx393_0
    replace hx393_1 := (HB.out.cell (World.block_lt_of_cell? w _ hx393_1)).trans hx393_1
    replace hx393_2 := (HB.out.cell (World.block_lt_of_cell? w _ hx393_2)).trans hx393_2
    replace hx393_3 := (HB.out.cell (World.block_lt_of_cell? w _ hx393_3)).trans hx393_3
    replace hx393_4 := (HB.out.cell (World.block_lt_of_cell? w _ hx393_4)).trans hx393_4
    replace hx393_5 := (HB.out.cell (World.block_lt_of_cell? w _ hx393_5)).trans hx393_5
    replace hx393_6 := (HB.out.cell (World.block_lt_of_cell? w _ hx393_6)).trans hx393_6
    replace hx393_7 := (HB.out.cell (World.block_lt_of_cell? w _ hx393_7)).trans hx393_7
    replace hx393_8 := (HB.out.cell (World.block_lt_of_cell? w _ hx393_8)).trans hx393_8
    have HR393_8 := A0_ hi393_8
    have HC393_8 := A0_ hl393_8
    clear hi393_8 hl393_8
    replace p393 := eq_true p393
    replace q393 := eq_true q393
    have p394 : 0 ≤ (x5_1 : Int) := wd_
    have q394 : x5_1 < (l1.length : Int) := wd_
    obtain ⟨ad394, A394_8, c394_8, e394, hx394_0, hx394_1, hx394_2, hx394_3, hx394_4, hx394_5, hx394_6, hx394_7, hx394_8, hl394_8, hi394_8⟩ := at_T40 HR1.out x5_1 p394 q394
    have hw394_8 := hx394_8
    have hw394_7 := hx394_7
    have hw394_6 := hx394_6
    have hw394_5 := hx394_5
    have hw394_4 := hx394_4
    have hw394_3 := hx394_3
    have hw394_2 := hx394_2
    have hw394_1 := hx394_1
    have hw394_0 := hx394_0
    cases e394
    replace hx394_0 := (HB.out.cell (World.block_lt_of_cell? w _ hx394_0)).trans hx394_0
    replace hx394_1 := (HB.out.cell (World.block_lt_of_cell? w _ hx394_1)).trans hx394_1
    replace hx394_2 := (HB.out.cell (World.block_lt_of_cell? w _ hx394_2)).trans hx394_2
    replace hx394_3 := (HB.out.cell (World.block_lt_of_cell? w _ hx394_3)).trans hx394_3
    replace hx394_4 := (HB.out.cell (World.block_lt_of_cell? w _ hx394_4)).trans hx394_4
    replace hx394_5 := (HB.out.cell (World.block_lt_of_cell? w _ hx394_5)).trans hx394_5
    replace hx394_6 := (HB.out.cell (World.block_lt_of_cell? w _ hx394_6)).trans hx394_6
    replace hx394_7 := (HB.out.cell (World.block_lt_of_cell? w _ hx394_7)).trans hx394_7
    replace hx394_8 := (HB.out.cell (World.block_lt_of_cell? w _ hx394_8)).trans hx394_8
    have HR394_8 := A0_ hi394_8
    have HC394_8 := A0_ hl394_8
    clear hi394_8 hl394_8
    replace p394 := eq_true p394
    replace q394 := eq_true q394
    have p395 : 0 ≤ (x5_1 : Int) := wd_
    have q395 : x5_1 < (l0.length : Int) := wd_
    obtain ⟨ad395, A395_8, c395_8, e395, hx395_0, hx395_1, hx395_2, hx395_3, hx395_4, hx395_5, hx395_6, hx395_7, hx395_8, hl395_8, hi395_8⟩ := at_T40 HR0.out x5_1 p395 q395
    have hw395_8 := hx395_8
    have hw395_7 := hx395_7
    have hw395_6 := hx395_6
    have hw395_5 := hx395_5
    have hw395_4 := hx395_4
    have hw395_3 := hx395_3
    have hw395_2 := hx395_2
    have hw395_1 := hx395_1
    have hw395_0 := hx395_0
    obtain rfl : ad393 = ad395 := (by injection e395)
    replace hx395_0 := (HB.out.cell (World.block_lt_of_cell? w _ hx395_0)).trans hx395_0
    replace hx395_1 := (HB.out.cell (World.block_lt_of_cell? w _ hx395_1)).trans hx395_1
    replace hx395_2 := (HB.out.cell (World.block_lt_of_cell? w _ hx395_2)).trans hx395_2
    replace hx395_3 := (HB.out.cell (World.block_lt_of_cell? w _ hx395_3)).trans hx395_3
    replace hx395_4 := (HB.out.cell (World.block_lt_of_cell? w _ hx395_4)).trans hx395_4
    replace hx395_5 := (HB.out.cell (World.block_lt_of_cell? w _ hx395_5)).trans hx395_5
    replace hx395_6 := (HB.out.cell (World.block_lt_of_cell? w _ hx395_6)).trans hx395_6
    replace hx395_7 := (HB.out.cell (World.block_lt_of_cell? w _ hx395_7)).trans hx395_7
    replace hx395_8 := (HB.out.cell (World.block_lt_of_cell? w _ hx395_8)).trans hx395_8
    have HR395_8 := A0_ hi395_8
    have HC395_8 := A0_ hl395_8
    clear hi395_8 hl395_8
    replace p395 := eq_true p395
    replace q395 := eq_true q395
    have ea_ := Option.some.inj (hx393_8.symm.trans hx395_8)
    injection ea_ with ea_ en_ ec_
    subst ea_
    subst ec_
    clear en_
    have p396 : 0 ≤ (x5_1 : Int) := wd_
    have q396 : x5_1 < (l1.length : Int) := wd_
    obtain ⟨ad396, A396_8, c396_8, e396, hx396_0, hx396_1, hx396_2, hx396_3, hx396_4, hx396_5, hx396_6, hx396_7, hx396_8, hl396_8, hi396_8⟩ := at_T40 HR1.out x5_1 p396 q396
    have hw396_8 := hx396_8
    have hw396_7 := hx396_7
    have hw396_6 := hx396_6
    have hw396_5 := hx396_5
    have hw396_4 := hx396_4
    have hw396_3 := hx396_3
    have hw396_2 := hx396_2
    have hw396_1 := hx396_1
    have hw396_0 := hx396_0
    obtain rfl : ad394 = ad396 := (by injection e396)
    replace hx396_0 := (HB.out.cell (World.block_lt_of_cell? w _ hx396_0)).trans hx396_0
    replace hx396_1 := (HB.out.cell (World.block_lt_of_cell? w _ hx396_1)).trans hx396_1
    replace hx396_2 := (HB.out.cell (World.block_lt_of_cell? w _ hx396_2)).trans hx396_2
    replace hx396_3 := (HB.out.cell (World.block_lt_of_cell? w _ hx396_3)).trans hx396_3
    replace hx396_4 := (HB.out.cell (World.block_lt_of_cell? w _ hx396_4)).trans hx396_4
    replace hx396_5 := (HB.out.cell (World.block_lt_of_cell? w _ hx396_5)).trans hx396_5
    replace hx396_6 := (HB.out.cell (World.block_lt_of_cell? w _ hx396_6)).trans hx396_6
    replace hx396_7 := (HB.out.cell (World.block_lt_of_cell? w _ hx396_7)).trans hx396_7
    replace hx396_8 := (HB.out.cell (World.block_lt_of_cell? w _ hx396_8)).trans hx396_8
    have HR396_8 := A0_ hi396_8
    have HC396_8 := A0_ hl396_8
    clear hi396_8 hl396_8
    replace p396 := eq_true p396
    replace q396 := eq_true q396
    have ea_ := Option.some.inj (hx394_8.symm.trans hx396_8)
    injection ea_ with ea_ en_ ec_
    subst ea_
    subst ec_
    clear en_
    refine start_ (n := 23) (S := fun w' => w'.cell? (ad393.add ((x5_1).toNat * 9)) = some (.string ((rd_T40 l0 x5_1).f0)) ∧ w'.cell? ⟨(ad393.add ((x5_1).toNat * 9)).block, (ad393.add ((x5_1).toNat * 9)).off + 1, none⟩ = some (.string ((rd_T40 l0 x5_1).f1)) ∧ w'.cell? ⟨(ad393.add ((x5_1).toNat * 9)).block, (ad393.add ((x5_1).toNat * 9)).off + 2, none⟩ = some (.string ((rd_T40 l0 x5_1).f2)) ∧ w'.cell? ⟨(ad393.add ((x5_1).toNat * 9)).block, (ad393.add ((x5_1).toNat * 9)).off + 3, none⟩ = some (.int .u8 ((rd_T40 l0 x5_1).f3)) ∧ w'.cell? ⟨(ad393.add ((x5_1).toNat * 9)).block, (ad393.add ((x5_1).toNat * 9)).off + 4, none⟩ = some (.int .i64 ((rd_T40 l0 x5_1).f4.f0)) ∧ w'.cell? ⟨(ad393.add ((x5_1).toNat * 9)).block, (ad393.add ((x5_1).toNat * 9)).off + 5, none⟩ = some (.int .i64 ((rd_T40 l0 x5_1).f4.f1)) ∧ w'.cell? ⟨(ad393.add ((x5_1).toNat * 9)).block, (ad393.add ((x5_1).toNat * 9)).off + 6, none⟩ = some (.int .i64 ((rd_T40 l0 x5_1).f4.f2)) ∧ w'.cell? ⟨(ad393.add ((x5_1).toNat * 9)).block, (ad393.add ((x5_1).toNat * 9)).off + 7, none⟩ = some (.int .i64 ((rd_T40 l0 x5_1).f4.f3)) ∧ w'.cell? ⟨(ad393.add ((x5_1).toNat * 9)).block, (ad393.add ((x5_1).toNat * 9)).off + 8, none⟩ = some (.slice A393_8 ((rd_T40 l0 x5_1).f5).length c393_8) ∧ w'.cell? (ad394.add ((x5_1).toNat * 9)) = some (.string ((rd_T40 l1 x5_1).f0)) ∧ w'.cell? ⟨(ad394.add ((x5_1).toNat * 9)).block, (ad394.add ((x5_1).toNat * 9)).off + 1, none⟩ = some (.string ((rd_T40 l1 x5_1).f1)) ∧ w'.cell? ⟨(ad394.add ((x5_1).toNat * 9)).block, (ad394.add ((x5_1).toNat * 9)).off + 2, none⟩ = some (.string ((rd_T40 l1 x5_1).f2)) ∧ w'.cell? ⟨(ad394.add ((x5_1).toNat * 9)).block, (ad394.add ((x5_1).toNat * 9)).off + 3, none⟩ = some (.int .u8 ((rd_T40 l1 x5_1).f3)) ∧ w'.cell? ⟨(ad394.add ((x5_1).toNat * 9)).block, (ad394.add ((x5_1).toNat * 9)).off + 4, none⟩ = some (.int .i64 ((rd_T40 l1 x5_1).f4.f0)) ∧ w'.cell? ⟨(ad394.add ((x5_1).toNat * 9)).block, (ad394.add ((x5_1).toNat * 9)).off + 5, none⟩ = some (.int .i64 ((rd_T40 l1 x5_1).f4.f1)) ∧ w'.cell? ⟨(ad394.add ((x5_1).toNat * 9)).block, (ad394.add ((x5_1).toNat * 9)).off + 6, none⟩ = some (.int .i64 ((rd_T40 l1 x5_1).f4.f2)) ∧ w'.cell? ⟨(ad394.add ((x5_1).toNat * 9)).block, (ad394.add ((x5_1).toNat * 9)).off + 7, none⟩ = some (.int .i64 ((rd_T40 l1 x5_1).f4.f3)) ∧ w'.cell? ⟨(ad394.add ((x5_1).toNat * 9)).block, (ad394.add ((x5_1).toNat * 9)).off + 8, none⟩ = some (.slice A394_8 ((rd_T40 l1 x5_1).f5).length c394_8) ∧ w'.cell? (ad393.add ((x5_1).toNat * 9)) = some (.string ((rd_T40 l0 x5_1).f0)) ∧ w'.cell? ⟨(ad393.add ((x5_1).toNat * 9)).block, (ad393.add ((x5_1).toNat * 9)).off + 1, none⟩ = some (.string ((rd_T40 l0 x5_1).f1)) ∧ w'.cell? ⟨(ad393.add ((x5_1).toNat * 9)).block, (ad393.add ((x5_1).toNat * 9)).off + 2, none⟩ = some (.string ((rd_T40 l0 x5_1).f2)) ∧ w'.cell? ⟨(ad393.add ((x5_1).toNat * 9)).block, (ad393.add ((x5_1).toNat * 9)).off + 3, none⟩ = some (.int .u8 ((rd_T40 l0 x5_1).f3)) ∧ w'.cell? ⟨(ad393.add ((x5_1).toNat * 9)).block, (ad393.add ((x5_1).toNat * 9)).off + 4, none⟩ = some (.int .i64 ((rd_T40 l0 x5_1).f4.f0)) ∧ w'.cell? ⟨(ad393.add ((x5_1).toNat * 9)).block, (ad393.add ((x5_1).toNat * 9)).off + 5, none⟩ = some (.int .i64 ((rd_T40 l0 x5_1).f4.f1)) ∧ w'.cell? ⟨(ad393.add ((x5_1).toNat * 9)).block, (ad393.add ((x5_1).toNat * 9)).off + 6, none⟩ = some (.int .i64 ((rd_T40 l0 x5_1).f4.f2)) ∧ w'.cell? ⟨(ad393.add ((x5_1).toNat * 9)).block, (ad393.add ((x5_1).toNat * 9)).off + 7, none⟩ = some (.int .i64 ((rd_T40 l0 x5_1).f4.f3)) ∧ w'.cell? ⟨(ad393.add ((x5_1).toNat * 9)).block, (ad393.add ((x5_1).toNat * 9)).off + 8, none⟩ = some (.slice A393_8 ((rd_T40 l0 x5_1).f5).length c393_8) ∧ w'.cell? (ad394.add ((x5_1).toNat * 9)) = some (.string ((rd_T40 l1 x5_1).f0)) ∧ w'.cell? ⟨(ad394.add ((x5_1).toNat * 9)).block, (ad394.add ((x5_1).toNat * 9)).off + 1, none⟩ = some (.string ((rd_T40 l1 x5_1).f1)) ∧ w'.cell? ⟨(ad394.add ((x5_1).toNat * 9)).block, (ad394.add ((x5_1).toNat * 9)).off + 2, none⟩ = some (.string ((rd_T40 l1 x5_1).f2)) ∧ w'.cell? ⟨(ad394.add ((x5_1).toNat * 9)).block, (ad394.add ((x5_1).toNat * 9)).off + 3, none⟩ = some (.int .u8 ((rd_T40 l1 x5_1).f3)) ∧ w'.cell? ⟨(ad394.add ((x5_1).toNat * 9)).block, (ad394.add ((x5_1).toNat * 9)).off + 4, none⟩ = some (.int .i64 ((rd_T40 l1 x5_1).f4.f0)) ∧ w'.cell? ⟨(ad394.add ((x5_1).toNat * 9)).block, (ad394.add ((x5_1).toNat * 9)).off + 5, none⟩ = some (.int .i64 ((rd_T40 l1 x5_1).f4.f1)) ∧ w'.cell? ⟨(ad394.add ((x5_1).toNat * 9)).block, (ad394.add ((x5_1).toNat * 9)).off + 6, none⟩ = some (.int .i64 ((rd_T40 l1 x5_1).f4.f2)) ∧ w'.cell? ⟨(ad394.add ((x5_1).toNat * 9)).block, (ad394.add ((x5_1).toNat * 9)).off + 7, none⟩ = some (.int .i64 ((rd_T40 l1 x5_1).f4.f3)) ∧ w'.cell? ⟨(ad394.add ((x5_1).toNat * 9)).block, (ad394.add ((x5_1).toNat * 9)).off + 8, none⟩ = some (.slice A394_8 ((rd_T40 l1 x5_1).f5).length c394_8)) (ds := []) q30_0 (by kernel_rfl) rfl rfl ⟨((HB.out.cell (World.block_lt_of_cell? w _ hw393_0)).trans hw393_0), ((HB.out.cell (World.block_lt_of_cell? w _ hw393_1)).trans hw393_1), ((HB.out.cell (World.block_lt_of_cell? w _ hw393_2)).trans hw393_2), ((HB.out.cell (World.block_lt_of_cell? w _ hw393_3)).trans hw393_3), ((HB.out.cell (World.block_lt_of_cell? w _ hw393_4)).trans hw393_4), ((HB.out.cell (World.block_lt_of_cell? w _ hw393_5)).trans hw393_5), ((HB.out.cell (World.block_lt_of_cell? w _ hw393_6)).trans hw393_6), ((HB.out.cell (World.block_lt_of_cell? w _ hw393_7)).trans hw393_7), ((HB.out.cell (World.block_lt_of_cell? w _ hw393_8)).trans hw393_8), ((HB.out.cell (World.block_lt_of_cell? w _ hw394_0)).trans hw394_0), ((HB.out.cell (World.block_lt_of_cell? w _ hw394_1)).trans hw394_1), ((HB.out.cell (World.block_lt_of_cell? w _ hw394_2)).trans hw394_2), ((HB.out.cell (World.block_lt_of_cell? w _ hw394_3)).trans hw394_3), ((HB.out.cell (World.block_lt_of_cell? w _ hw394_4)).trans hw394_4), ((HB.out.cell (World.block_lt_of_cell? w _ hw394_5)).trans hw394_5), ((HB.out.cell (World.block_lt_of_cell? w _ hw394_6)).trans hw394_6), ((HB.out.cell (World.block_lt_of_cell? w _ hw394_7)).trans hw394_7), ((HB.out.cell (World.block_lt_of_cell? w _ hw394_8)).trans hw394_8), ((HB.out.cell (World.block_lt_of_cell? w _ hw395_0)).trans hw395_0), ((HB.out.cell (World.block_lt_of_cell? w _ hw395_1)).trans hw395_1), ((HB.out.cell (World.block_lt_of_cell? w _ hw395_2)).trans hw395_2), ((HB.out.cell (World.block_lt_of_cell? w _ hw395_3)).trans hw395_3), ((HB.out.cell (World.block_lt_of_cell? w _ hw395_4)).trans hw395_4), ((HB.out.cell (World.block_lt_of_cell? w _ hw395_5)).trans hw395_5), ((HB.out.cell (World.block_lt_of_cell? w _ hw395_6)).trans hw395_6), ((HB.out.cell (World.block_lt_of_cell? w _ hw395_7)).trans hw395_7), ((HB.out.cell (World.block_lt_of_cell? w _ hw395_8)).trans hw395_8), ((HB.out.cell (World.block_lt_of_cell? w _ hw396_0)).trans hw396_0), ((HB.out.cell (World.block_lt_of_cell? w _ hw396_1)).trans hw396_1), ((HB.out.cell (World.block_lt_of_cell? w _ hw396_2)).trans hw396_2), ((HB.out.cell (World.block_lt_of_cell? w _ hw396_3)).trans hw396_3), ((HB.out.cell (World.block_lt_of_cell? w _ hw396_4)).trans hw396_4), ((HB.out.cell (World.block_lt_of_cell? w _ hw396_5)).trans hw396_5), ((HB.out.cell (World.block_lt_of_cell? w _ hw396_6)).trans hw396_6), ((HB.out.cell (World.block_lt_of_cell? w _ hw396_7)).trans hw396_7), ((HB.out.cell (World.block_lt_of_cell? w _ hw396_8)).trans hw396_8)⟩ (fun hHeld => ?_); refine with_tabW bindleref08_SameTree.tab6 bindleref08_SameTree.bits6 (fun HT_ HW_ => ?_)
    generalize wr.drew = w12 at HB HR393_8 HR394_8 HR395_8 HR396_8 hx393_0 hx393_1 hx393_2 hx393_3 hx393_4 hx393_5 hx393_6 hx393_7 hx393_8 hx394_0 hx394_1 hx394_2 hx394_3 hx394_4 hx394_5 hx394_6 hx394_7 hx394_8 hx395_0 hx395_1 hx395_2 hx395_3 hx395_4 hx395_5 hx395_6 hx395_7 hx395_8 hx396_0 hx396_1 hx396_2 hx396_3 hx396_4 hx396_5 hx396_6 hx396_7 hx396_8 hHeld ⊢
    refine pur_ (i := 0) (N := some 17) q30_1 (any_of HT_.out (by kernel_rfl)) ?_
    refine pur_ (i := 1) (N := some 18) q30_2 (any_of HT_.out (by kernel_rfl)) ?_
    refine pur_ (i := 2) (N := some 19) q30_3 (any_of HT_.out (by kernel_rfl)) ?_
    refine pur_ (i := 3) (N := some 20) q30_4 (any_of HT_.out (by kernel_rfl)) ?_
    refine pur_ (i := 5) (N := some 22) q30_5 (any_of HT_.out (by kernel_rfl)) ?_
    refine pur_ (i := 6) (N := some 23) q30_6 (any_of HT_.out (by kernel_rfl)) ?_
    refine pur_ (i := 7) (N := some 24) q30_7 (any_of HT_.out (by kernel_rfl)) ?_
    refine pur_ (i := 8) (N := some 25) q30_8 (any_of HT_.out (by kernel_rfl)) ?_
    refine take_ (i := 4) (N := some 21) (v := ?_) (a' := ?_) q30_9 rfl rfl (take_ofW HT_.out HW_.out (by kernel_rfl)) (fun _ _ _ h => h) (Or.inl ⟨by rfl, ?_⟩) hHeld ?_ ?_
    rotate_left
    ·rintro w' ⟨s0, s1, s2, s3, s4, s5, s6, s7, s8, s9, s10, s11, s12, s13, s14, s15, s16, s17, s18, s19, s20, s21, s22, s23, s24, s25, s26, s27, s28, s29, s30, s31, s32, s33, s34, s35⟩
     go_simp
     with_reducible rfl
    rotate_left
    ·simp only [Act.put, List.setIfInBounds_toArray, List.set_cons_zero, List.set_cons_succ, i64_w, i32_w]
     rfl
    refine take_ (i := 9) (N := some 26) (v := ?_) (a' := ?_) q30_10 rfl rfl (take_ofW HT_.out HW_.out (by kernel_rfl)) (fun _ _ _ h => h) (Or.inl ⟨by rfl, ?_⟩) hHeld ?_ ?_
    rotate_left
    ·rintro w' ⟨s0, s1, s2, s3, s4, s5, s6, s7, s8, s9, s10, s11, s12, s13, s14, s15, s16, s17, s18, s19, s20, s21, s22, s23, s24, s25, s26, s27, s28, s29, s30, s31, s32, s33, s34, s35⟩
     go_simp
     with_reducible rfl
    rotate_left
    ·simp only [Act.put, List.setIfInBounds_toArray, List.set_cons_zero, List.set_cons_succ, i64_w, i32_w]
     rfl
    refine pur_ (i := 10) (N := some 27) q30_11 (any_of HT_.out (by kernel_rfl)) ?_
    refine pur_ (i := 11) (N := some 28) q30_12 (any_of HT_.out (by kernel_rfl)) ?_
    refine pur_ (i := 12) (N := some 29) q30_13 (any_of HT_.out (by kernel_rfl)) ?_
    refine pur_ (i := 13) (N := some 30) q30_14 (any_of HT_.out (by kernel_rfl)) ?_
    refine pur_ (i := 14) (N := some 31) q30_15 (any_of HT_.out (by kernel_rfl)) ?_
    refine pur_ (i := 16) (N := some 33) q30_24 (any_of HT_.out (by kernel_rfl)) ?_
    refine pur_ (i := 17) (N := some 34) q30_25 (any_of HT_.out (by kernel_rfl)) ?_
    refine pur_ (i := 18) (N := some 35) q30_26 (any_of HT_.out (by kernel_rfl)) ?_
    refine take_ (i := 15) (N := some 32) (v := ?_) (a' := ?_) q30_19 rfl rfl (take_ofW HT_.out HW_.out (by kernel_rfl)) (fun _ _ _ h => h) (Or.inl ⟨by rfl, ?_⟩) hHeld ?_ ?_
    rotate_left
    ·rintro w' ⟨s0, s1, s2, s3, s4, s5, s6, s7, s8, s9, s10, s11, s12, s13, s14, s15, s16, s17, s18, s19, s20, s21, s22, s23, s24, s25, s26, s27, s28, s29, s30, s31, s32, s33, s34, s35⟩
     go_simp
     with_reducible rfl
    rotate_left
    ·simp only [Act.put, List.setIfInBounds_toArray, List.set_cons_zero, List.set_cons_succ, i64_w, i32_w]
     rfl
    refine take_ (i := 19) (N := some 36) (v := ?_) (a' := ?_) q30_20 rfl rfl (take_ofW HT_.out HW_.out (by kernel_rfl)) (fun _ _ _ h => h) (Or.inl ⟨by rfl, ?_⟩) hHeld ?_ ?_
    rotate_left
    ·rintro w' ⟨s0, s1, s2, s3, s4, s5, s6, s7, s8, s9, s10, s11, s12, s13, s14, s15, s16, s17, s18, s19, s20, s21, s22, s23, s24, s25, s26, s27, s28, s29, s30, s31, s32, s33, s34, s35⟩
     go_simp
     with_reducible rfl
    rotate_left
    ·simp only [Act.put, List.setIfInBounds_toArray, List.set_cons_zero, List.set_cons_succ, i64_w, i32_w]
     rfl
    refine one_ (i := 20) (N := some 37) q30_21 rfl rfl (one_of HT_.out (by kernel_rfl)) (by decide) (fun K hK => ?_)
    refine goes_ Tryd.func35 (by kernel_rfl) rfl #[.agg #[.string ((rd_T40 l0 x5_1).f0), .string ((rd_T40 l0 x5_1).f1), .string ((rd_T40 l0 x5_1).f2), .int .u8 ((rd_T40 l0 x5_1).f3), .int .i64 ((rd_T40 l0 x5_1).f4.f0), .int .i64 ((rd_T40 l0 x5_1).f4.f1), .int .i64 ((rd_T40 l0 x5_1).f4.f2), .int .i64 ((rd_T40 l0 x5_1).f4.f3), .slice A393_8 ((rd_T40 l0 x5_1).f5).length c393_8], .agg #[.string ((rd_T40 l1 x5_1).f0), .string ((rd_T40 l1 x5_1).f1), .string ((rd_T40 l1 x5_1).f2), .int .u8 ((rd_T40 l1 x5_1).f3), .int .i64 ((rd_T40 l1 x5_1).f4.f0), .int .i64 ((rd_T40 l1 x5_1).f4.f1), .int .i64 ((rd_T40 l1 x5_1).f4.f2), .int .i64 ((rd_T40 l1 x5_1).f4.f3), .slice A394_8 ((rd_T40 l1 x5_1).f5).length c394_8]] (by rfl) rfl rfl wm_ ?_
    with_reducible refine (bindleref08_Equal.calls ((rd_T40 l0 x5_1).f0) ((rd_T40 l0 x5_1).f1) ((rd_T40 l0 x5_1).f2) ((rd_T40 l0 x5_1).f3) ((rd_T40 l0 x5_1).f4.f0) ((rd_T40 l0 x5_1).f4.f1) ((rd_T40 l0 x5_1).f4.f2) ((rd_T40 l0 x5_1).f4.f3) _ _ ((rd_T40 l0 x5_1).f5) ((rd_T40 l1 x5_1).f0) ((rd_T40 l1 x5_1).f1) ((rd_T40 l1 x5_1).f2) ((rd_T40 l1 x5_1).f3) ((rd_T40 l1 x5_1).f4.f0) ((rd_T40 l1 x5_1).f4.f1) ((rd_T40 l1 x5_1).f4.f2) ((rd_T40 l1 x5_1).f4.f3) _ _ ((rd_T40 l1 x5_1).f5) false _ ?side1 ?side2 ?side3 ?side4 A8.out).mono ?_
    (case side1 => exact wc_ (Kd.C_below HR395_8.out HB.out))
    (case side2 => exact HC395_8.out)
    (case side3 => exact wc_ (Kd.C_below HR396_8.out HB.out))
    (case side4 => exact HC396_8.out)
    rintro e w13 ⟨rfl, hb⟩
    refine ⟨_, rfl, ?_⟩
    have n0_ := A0_ (below_step (wb_ HB.out) hb)
    clear HB
    have HB := n0_
    clear n0_
    (try clear hb)
    (try clear hb2)
    (try clear hk)
    (try clear hi)
    refine hK.out _ _ ⟨((HB.out.cell (World.block_lt_of_cell? w _ hw393_0)).trans hw393_0), ((HB.out.cell (World.block_lt_of_cell? w _ hw393_1)).trans hw393_1), ((HB.out.cell (World.block_lt_of_cell? w _ hw393_2)).trans hw393_2), ((HB.out.cell (World.block_lt_of_cell? w _ hw393_3)).trans hw393_3), ((HB.out.cell (World.block_lt_of_cell? w _ hw393_4)).trans hw393_4), ((HB.out.cell (World.block_lt_of_cell? w _ hw393_5)).trans hw393_5), ((HB.out.cell (World.block_lt_of_cell? w _ hw393_6)).trans hw393_6), ((HB.out.cell (World.block_lt_of_cell? w _ hw393_7)).trans hw393_7), ((HB.out.cell (World.block_lt_of_cell? w _ hw393_8)).trans hw393_8), ((HB.out.cell (World.block_lt_of_cell? w _ hw394_0)).trans hw394_0), ((HB.out.cell (World.block_lt_of_cell? w _ hw394_1)).trans hw394_1), ((HB.out.cell (World.block_lt_of_cell? w _ hw394_2)).trans hw394_2), ((HB.out.cell (World.block_lt_of_cell? w _ hw394_3)).trans hw394_3), ((HB.out.cell (World.block_lt_of_cell? w _ hw394_4)).trans hw394_4), ((HB.out.cell (World.block_lt_of_cell? w _ hw394_5)).trans hw394_5), ((HB.out.cell (World.block_lt_of_cell? w _ hw394_6)).trans hw394_6), ((HB.out.cell (World.block_lt_of_cell? w _ hw394_7)).trans hw394_7), ((HB.out.cell (World.block_lt_of_cell? w _ hw394_8)).trans hw394_8), ((HB.out.cell (World.block_lt_of_cell? w _ hw395_0)).trans hw395_0), ((HB.out.cell (World.block_lt_of_cell? w _ hw395_1)).trans hw395_1), ((HB.out.cell (World.block_lt_of_cell? w _ hw395_2)).trans hw395_2), ((HB.out.cell (World.block_lt_of_cell? w _ hw395_3)).trans hw395_3), ((HB.out.cell (World.block_lt_of_cell? w _ hw395_4)).trans hw395_4), ((HB.out.cell (World.block_lt_of_cell? w _ hw395_5)).trans hw395_5), ((HB.out.cell (World.block_lt_of_cell? w _ hw395_6)).trans hw395_6), ((HB.out.cell (World.block_lt_of_cell? w _ hw395_7)).trans hw395_7), ((HB.out.cell (World.block_lt_of_cell? w _ hw395_8)).trans hw395_8), ((HB.out.cell (World.block_lt_of_cell? w _ hw396_0)).trans hw396_0), ((HB.out.cell (World.block_lt_of_cell? w _ hw396_1)).trans hw396_1), ((HB.out.cell (World.block_lt_of_cell? w _ hw396_2)).trans hw396_2), ((HB.out.cell (World.block_lt_of_cell? w _ hw396_3)).trans hw396_3), ((HB.out.cell (World.block_lt_of_cell? w _ hw396_4)).trans hw396_4), ((HB.out.cell (World.block_lt_of_cell? w _ hw396_5)).trans hw396_5), ((HB.out.cell (World.block_lt_of_cell? w _ hw396_6)).trans hw396_6), ((HB.out.cell (World.block_lt_of_cell? w _ hw396_7)).trans hw396_7), ((HB.out.cell (World.block_lt_of_cell? w _ hw396_8)).trans hw396_8)⟩ (fun hHeld => ?_)
    clear hK K
    refine norm_ (a' := ?_) ?_ ?_
    rotate_left
    ·show Act.put _ (some 37) _ = _
     simp only [Act.put, List.setIfInBounds_toArray, List.set_cons_zero, List.set_cons_succ, i64_w, i32_w]
     rfl
    refine pur_ (i := 21) (N := some 38) q30_22 (any_of HT_.out (by kernel_rfl)) ?_
    refine pur_ (i := 22) (N := some 39) q30_23 (any_of HT_.out (by kernel_rfl)) ?_
    refine done_ (done_of HT_.out (by kernel_rfl)) ?_
    try go_wp2
    go_ret
    exact ⟨we_, wb_ HB.out⟩
   subst c9
   have H1 : (bindleref08_SameTree.l0 k1 l0 l1 (wrap64 (x5_1 + 1))) = some r := by rw [if_pos rfl] at H; exact H
   clear H
   have H := H1
   clear H1
   have H' := A0_ H
   clear H
   try go_wp2
   have n0_ := A0_ (b1_ HB.out)
   clear HB
   have HB := n0_
   clear n0_
   have p393 : 0 ≤ (x5_1 : Int) := wd_
   have q393 : x5_1 < (l0.length : Int) := wd_
   obtain ⟨ad393, A393_8, c393_8, e393, hx393_0, hx393_1, hx393_2, hx393_3, hx393_4, hx393_5, hx393_6, hx393_7, hx393_8, hl393_8, hi393_8⟩ := at_T40 HR0.out x5_1 p393 q393
   have hw393_8 := hx393_8
   have hw393_7 := hx393_7
   have hw393_6 := hx393_6
   have hw393_5 := hx393_5
   have hw393_4 := hx393_4
   have hw393_3 := hx393_3
   have hw393_2 := hx393_2
   have hw393_1 := hx393_1
   have hw393_0 := hx393_0
   cases e393
   replace hx393_0 := (HB.out.cell (World.block_lt_of_cell? w _ hx393_0)).trans hx393_0
   replace hx393_1 := (HB.out.cell (World.block_lt_of_cell? w _ hx393_1)).trans hx393_1
   replace hx393_2 := (HB.out.cell (World.block_lt_of_cell? w _ hx393_2)).trans hx393_2
   replace hx393_3 := (HB.out.cell (World.block_lt_of_cell? w _ hx393_3)).trans hx393_3
   replace hx393_4 := (HB.out.cell (World.block_lt_of_cell? w _ hx393_4)).trans hx393_4
   replace hx393_5 := (HB.out.cell (World.block_lt_of_cell? w _ hx393_5)).trans hx393_5
   replace hx393_6 := (HB.out.cell (World.block_lt_of_cell? w _ hx393_6)).trans hx393_6
   replace hx393_7 := (HB.out.cell (World.block_lt_of_cell? w _ hx393_7)).trans hx393_7
   replace hx393_8 := (HB.out.cell (World.block_lt_of_cell? w _ hx393_8)).trans hx393_8
   have HR393_8 := A0_ hi393_8
   have HC393_8 := A0_ hl393_8
   clear hi393_8 hl393_8
   replace p393 := eq_true p393
   replace q393 := eq_true q393
   have p394 : 0 ≤ (x5_1 : Int) := wd_
   have q394 : x5_1 < (l1.length : Int) := wd_
   obtain ⟨ad394, A394_8, c394_8, e394, hx394_0, hx394_1, hx394_2, hx394_3, hx394_4, hx394_5, hx394_6, hx394_7, hx394_8, hl394_8, hi394_8⟩ := at_T40 HR1.out x5_1 p394 q394
   have hw394_8 := hx394_8
   have hw394_7 := hx394_7
   have hw394_6 := hx394_6
   have hw394_5 := hx394_5
   have hw394_4 := hx394_4
   have hw394_3 := hx394_3
   have hw394_2 := hx394_2
   have hw394_1 := hx394_1
   have hw394_0 := hx394_0
   cases e394
   replace hx394_0 := (HB.out.cell (World.block_lt_of_cell? w _ hx394_0)).trans hx394_0
   replace hx394_1 := (HB.out.cell (World.block_lt_of_cell? w _ hx394_1)).trans hx394_1
   replace hx394_2 := (HB.out.cell (World.block_lt_of_cell? w _ hx394_2)).trans hx394_2
   replace hx394_3 := (HB.out.cell (World.block_lt_of_cell? w _ hx394_3)).trans hx394_3
   replace hx394_4 := (HB.out.cell (World.block_lt_of_cell? w _ hx394_4)).trans hx394_4
   replace hx394_5 := (HB.out.cell (World.block_lt_of_cell? w _ hx394_5)).trans hx394_5
   replace hx394_6 := (HB.out.cell (World.block_lt_of_cell? w _ hx394_6)).trans hx394_6
   replace hx394_7 := (HB.out.cell (World.block_lt_of_cell? w _ hx394_7)).trans hx394_7
   replace hx394_8 := (HB.out.cell (World.block_lt_of_cell? w _ hx394_8)).trans hx394_8
   have HR394_8 := A0_ hi394_8
   have HC394_8 := A0_ hl394_8
   clear hi394_8 hl394_8
   replace p394 := eq_true p394
   replace q394 := eq_true q394
   have p395 : 0 ≤ (x5_1 : Int) := wd_
   have q395 : x5_1 < (l0.length : Int) := wd_
   obtain ⟨ad395, A395_8, c395_8, e395, hx395_0, hx395_1, hx395_2, hx395_3, hx395_4, hx395_5, hx395_6, hx395_7, hx395_8, hl395_8, hi395_8⟩ := at_T40 HR0.out x5_1 p395 q395
   have hw395_8 := hx395_8
   have hw395_7 := hx395_7
   have hw395_6 := hx395_6
   have hw395_5 := hx395_5
   have hw395_4 := hx395_4
   have hw395_3 := hx395_3
   have hw395_2 := hx395_2
   have hw395_1 := hx395_1
   have hw395_0 := hx395_0
   obtain rfl : ad393 = ad395 := (by injection e395)
   replace hx395_0 := (HB.out.cell (World.block_lt_of_cell? w _ hx395_0)).trans hx395_0
   replace hx395_1 := (HB.out.cell (World.block_lt_of_cell? w _ hx395_1)).trans hx395_1
   replace hx395_2 := (HB.out.cell (World.block_lt_of_cell? w _ hx395_2)).trans hx395_2
   replace hx395_3 := (HB.out.cell (World.block_lt_of_cell? w _ hx395_3)).trans hx395_3
   replace hx395_4 := (HB.out.cell (World.block_lt_of_cell? w _ hx395_4)).trans hx395_4
   replace hx395_5 := (HB.out.cell (World.block_lt_of_cell? w _ hx395_5)).trans hx395_5
   replace hx395_6 := (HB.out.cell (World.block_lt_of_cell? w _ hx395_6)).trans hx395_6
   replace hx395_7 := (HB.out.cell (World.block_lt_of_cell? w _ hx395_7)).trans hx395_7
   replace hx395_8 := (HB.out.cell (World.block_lt_of_cell? w _ hx395_8)).trans hx395_8
   have HR395_8 := A0_ hi395_8
   have HC395_8 := A0_ hl395_8
   clear hi395_8 hl395_8
   replace p395 := eq_true p395
   replace q395 := eq_true q395
   have ea_ := Option.some.inj (hx393_8.symm.trans hx395_8)
   injection ea_ with ea_ en_ ec_
   subst ea_
   subst ec_
   clear en_
   have p396 : 0 ≤ (x5_1 : Int) := wd_
   have q396 : x5_1 < (l1.length : Int) := wd_
   obtain ⟨ad396, A396_8, c396_8, e396, hx396_0, hx396_1, hx396_2, hx396_3, hx396_4, hx396_5, hx396_6, hx396_7, hx396_8, hl396_8, hi396_8⟩ := at_T40 HR1.out x5_1 p396 q396
   have hw396_8 := hx396_8
   have hw396_7 := hx396_7
   have hw396_6 := hx396_6
   have hw396_5 := hx396_5
   have hw396_4 := hx396_4
   have hw396_3 := hx396_3
   have hw396_2 := hx396_2
   have hw396_1 := hx396_1
   have hw396_0 := hx396_0
   obtain rfl : ad394 = ad396 := (by injection e396)
   replace hx396_0 := (HB.out.cell (World.block_lt_of_cell? w _ hx396_0)).trans hx396_0
   replace hx396_1 := (HB.out.cell (World.block_lt_of_cell? w _ hx396_1)).trans hx396_1
   replace hx396_2 := (HB.out.cell (World.block_lt_of_cell? w _ hx396_2)).trans hx396_2
   replace hx396_3 := (HB.out.cell (World.block_lt_of_cell? w _ hx396_3)).trans hx396_3
   replace hx396_4 := (HB.out.cell (World.block_lt_of_cell? w _ hx396_4)).trans hx396_4
   replace hx396_5 := (HB.out.cell (World.block_lt_of_cell? w _ hx396_5)).trans hx396_5
   replace hx396_6 := (HB.out.cell (World.block_lt_of_cell? w _ hx396_6)).trans hx396_6
   replace hx396_7 := (HB.out.cell (World.block_lt_of_cell? w _ hx396_7)).trans hx396_7
   replace hx396_8 := (HB.out.cell (World.block_lt_of_cell? w _ hx396_8)).trans hx396_8
   have HR396_8 := A0_ hi396_8
   have HC396_8 := A0_ hl396_8
   clear hi396_8 hl396_8
   replace p396 := eq_true p396
   replace q396 := eq_true q396
   have ea_ := Option.some.inj (hx394_8.symm.trans hx396_8)
   injection ea_ with ea_ en_ ec_
   subst ea_
   subst ec_
   clear en_
   refine start_ (n := 23) (S := fun w' => w'.cell? (ad393.add ((x5_1).toNat * 9)) = some (.string ((rd_T40 l0 x5_1).f0)) ∧ w'.cell? ⟨(ad393.add ((x5_1).toNat * 9)).block, (ad393.add ((x5_1).toNat * 9)).off + 1, none⟩ = some (.string ((rd_T40 l0 x5_1).f1)) ∧ w'.cell? ⟨(ad393.add ((x5_1).toNat * 9)).block, (ad393.add ((x5_1).toNat * 9)).off + 2, none⟩ = some (.string ((rd_T40 l0 x5_1).f2)) ∧ w'.cell? ⟨(ad393.add ((x5_1).toNat * 9)).block, (ad393.add ((x5_1).toNat * 9)).off + 3, none⟩ = some (.int .u8 ((rd_T40 l0 x5_1).f3)) ∧ w'.cell? ⟨(ad393.add ((x5_1).toNat * 9)).block, (ad393.add ((x5_1).toNat * 9)).off + 4, none⟩ = some (.int .i64 ((rd_T40 l0 x5_1).f4.f0)) ∧ w'.cell? ⟨(ad393.add ((x5_1).toNat * 9)).block, (ad393.add ((x5_1).toNat * 9)).off + 5, none⟩ = some (.int .i64 ((rd_T40 l0 x5_1).f4.f1)) ∧ w'.cell? ⟨(ad393.add ((x5_1).toNat * 9)).block, (ad393.add ((x5_1).toNat * 9)).off + 6, none⟩ = some (.int .i64 ((rd_T40 l0 x5_1).f4.f2)) ∧ w'.cell? ⟨(ad393.add ((x5_1).toNat * 9)).block, (ad393.add ((x5_1).toNat * 9)).off + 7, none⟩ = some (.int .i64 ((rd_T40 l0 x5_1).f4.f3)) ∧ w'.cell? ⟨(ad393.add ((x5_1).toNat * 9)).block, (ad393.add ((x5_1).toNat * 9)).off + 8, none⟩ = some (.slice A393_8 ((rd_T40 l0 x5_1).f5).length c393_8) ∧ w'.cell? (ad394.add ((x5_1).toNat * 9)) = some (.string ((rd_T40 l1 x5_1).f0)) ∧ w'.cell? ⟨(ad394.add ((x5_1).toNat * 9)).block, (ad394.add ((x5_1).toNat * 9)).off + 1, none⟩ = some (.string ((rd_T40 l1 x5_1).f1)) ∧ w'.cell? ⟨(ad394.add ((x5_1).toNat * 9)).block, (ad394.add ((x5_1).toNat * 9)).off + 2, none⟩ = some (.string ((rd_T40 l1 x5_1).f2)) ∧ w'.cell? ⟨(ad394.add ((x5_1).toNat * 9)).block, (ad394.add ((x5_1).toNat * 9)).off + 3, none⟩ = some (.int .u8 ((rd_T40 l1 x5_1).f3)) ∧ w'.cell? ⟨(ad394.add ((x5_1).toNat * 9)).block, (ad394.add ((x5_1).toNat * 9)).off + 4, none⟩ = some (.int .i64 ((rd_T40 l1 x5_1).f4.f0)) ∧ w'.cell? ⟨(ad394.add ((x5_1).toNat * 9)).block, (ad394.add ((x5_1).toNat * 9)).off + 5, none⟩ = some (.int .i64 ((rd_T40 l1 x5_1).f4.f1)) ∧ w'.cell? ⟨(ad394.add ((x5_1).toNat * 9)).block, (ad394.add ((x5_1).toNat * 9)).off + 6, none⟩ = some (.int .i64 ((rd_T40 l1 x5_1).f4.f2)) ∧ w'.cell? ⟨(ad394.add ((x5_1).toNat * 9)).block, (ad394.add ((x5_1).toNat * 9)).off + 7, none⟩ = some (.int .i64 ((rd_T40 l1 x5_1).f4.f3)) ∧ w'.cell? ⟨(ad394.add ((x5_1).toNat * 9)).block, (ad394.add ((x5_1).toNat * 9)).off + 8, none⟩ = some (.slice A394_8 ((rd_T40 l1 x5_1).f5).length c394_8) ∧ w'.cell? (ad393.add ((x5_1).toNat * 9)) = some (.string ((rd_T40 l0 x5_1).f0)) ∧ w'.cell? ⟨(ad393.add ((x5_1).toNat * 9)).block, (ad393.add ((x5_1).toNat * 9)).off + 1, none⟩ = some (.string ((rd_T40 l0 x5_1).f1)) ∧ w'.cell? ⟨(ad393.add ((x5_1).toNat * 9)).block, (ad393.add ((x5_1).toNat * 9)).off + 2, none⟩ = some (.string ((rd_T40 l0 x5_1).f2)) ∧ w'.cell? ⟨(ad393.add ((x5_1).toNat * 9)).block, (ad393.add ((x5_1).toNat * 9)).off + 3, none⟩ = some (.int .u8 ((rd_T40 l0 x5_1).f3)) ∧ w'.cell? ⟨(ad393.add ((x5_1).toNat * 9)).block, (ad393.add ((x5_1).toNat * 9)).off + 4, none⟩ = some (.int .i64 ((rd_T40 l0 x5_1).f4.f0)) ∧ w'.cell? ⟨(ad393.add ((x5_1).toNat * 9)).block, (ad393.add ((x5_1).toNat * 9)).off + 5, none⟩ = some (.int .i64 ((rd_T40 l0 x5_1).f4.f1)) ∧ w'.cell? ⟨(ad393.add ((x5_1).toNat * 9)).block, (ad393.add ((x5_1).toNat * 9)).off + 6, none⟩ = some (.int .i64 ((rd_T40 l0 x5_1).f4.f2)) ∧ w'.cell? ⟨(ad393.add ((x5_1).toNat * 9)).block, (ad393.add ((x5_1).toNat * 9)).off + 7, none⟩ = some (.int .i64 ((rd_T40 l0 x5_1).f4.f3)) ∧ w'.cell? ⟨(ad393.add ((x5_1).toNat * 9)).block, (ad393.add ((x5_1).toNat * 9)).off + 8, none⟩ = some (.slice A393_8 ((rd_T40 l0 x5_1).f5).length c393_8) ∧ w'.cell? (ad394.add ((x5_1).toNat * 9)) = some (.string ((rd_T40 l1 x5_1).f0)) ∧ w'.cell? ⟨(ad394.add ((x5_1).toNat * 9)).block, (ad394.add ((x5_1).toNat * 9)).off + 1, none⟩ = some (.string ((rd_T40 l1 x5_1).f1)) ∧ w'.cell? ⟨(ad394.add ((x5_1).toNat * 9)).block, (ad394.add ((x5_1).toNat * 9)).off + 2, none⟩ = some (.string ((rd_T40 l1 x5_1).f2)) ∧ w'.cell? ⟨(ad394.add ((x5_1).toNat * 9)).block, (ad394.add ((x5_1).toNat * 9)).off + 3, none⟩ = some (.int .u8 ((rd_T40 l1 x5_1).f3)) ∧ w'.cell? ⟨(ad394.add ((x5_1).toNat * 9)).block, (ad394.add ((x5_1).toNat * 9)).off + 4, none⟩ = some (.int .i64 ((rd_T40 l1 x5_1).f4.f0)) ∧ w'.cell? ⟨(ad394.add ((x5_1).toNat * 9)).block, (ad394.add ((x5_1).toNat * 9)).off + 5, none⟩ = some (.int .i64 ((rd_T40 l1 x5_1).f4.f1)) ∧ w'.cell? ⟨(ad394.add ((x5_1).toNat * 9)).block, (ad394.add ((x5_1).toNat * 9)).off + 6, none⟩ = some (.int .i64 ((rd_T40 l1 x5_1).f4.f2)) ∧ w'.cell? ⟨(ad394.add ((x5_1).toNat * 9)).block, (ad394.add ((x5_1).toNat * 9)).off + 7, none⟩ = some (.int .i64 ((rd_T40 l1 x5_1).f4.f3)) ∧ w'.cell? ⟨(ad394.add ((x5_1).toNat * 9)).block, (ad394.add ((x5_1).toNat * 9)).off + 8, none⟩ = some (.slice A394_8 ((rd_T40 l1 x5_1).f5).length c394_8)) (ds := []) q30_0 (by kernel_rfl) rfl rfl ⟨((HB.out.cell (World.block_lt_of_cell? w _ hw393_0)).trans hw393_0), ((HB.out.cell (World.block_lt_of_cell? w _ hw393_1)).trans hw393_1), ((HB.out.cell (World.block_lt_of_cell? w _ hw393_2)).trans hw393_2), ((HB.out.cell (World.block_lt_of_cell? w _ hw393_3)).trans hw393_3), ((HB.out.cell (World.block_lt_of_cell? w _ hw393_4)).trans hw393_4), ((HB.out.cell (World.block_lt_of_cell? w _ hw393_5)).trans hw393_5), ((HB.out.cell (World.block_lt_of_cell? w _ hw393_6)).trans hw393_6), ((HB.out.cell (World.block_lt_of_cell? w _ hw393_7)).trans hw393_7), ((HB.out.cell (World.block_lt_of_cell? w _ hw393_8)).trans hw393_8), ((HB.out.cell (World.block_lt_of_cell? w _ hw394_0)).trans hw394_0), ((HB.out.cell (World.block_lt_of_cell? w _ hw394_1)).trans hw394_1), ((HB.out.cell (World.block_lt_of_cell? w _ hw394_2)).trans hw394_2), ((HB.out.cell (World.block_lt_of_cell? w _ hw394_3)).trans hw394_3), ((HB.out.cell (World.block_lt_of_cell? w _ hw394_4)).trans hw394_4), ((HB.out.cell (World.block_lt_of_cell? w _ hw394_5)).trans hw394_5), ((HB.out.cell (World.block_lt_of_cell? w _ hw394_6)).trans hw394_6), ((HB.out.cell (World.block_lt_of_cell? w _ hw394_7)).trans hw394_7), ((HB.out.cell (World.block_lt_of_cell? w _ hw394_8)).trans hw394_8), ((HB.out.cell (World.block_lt_of_cell? w _ hw395_0)).trans hw395_0), ((HB.out.cell (World.block_lt_of_cell? w _ hw395_1)).trans hw395_1), ((HB.out.cell (World.block_lt_of_cell? w _ hw395_2)).trans hw395_2), ((HB.out.cell (World.block_lt_of_cell? w _ hw395_3)).trans hw395_3), ((HB.out.cell (World.block_lt_of_cell? w _ hw395_4)).trans hw395_4), ((HB.out.cell (World.block_lt_of_cell? w _ hw395_5)).trans hw395_5), ((HB.out.cell (World.block_lt_of_cell? w _ hw395_6)).trans hw395_6), ((HB.out.cell (World.block_lt_of_cell? w _ hw395_7)).trans hw395_7), ((HB.out.cell (World.block_lt_of_cell? w _ hw395_8)).trans hw395_8), ((HB.out.cell (World.block_lt_of_cell? w _ hw396_0)).trans hw396_0), ((HB.out.cell (World.block_lt_of_cell? w _ hw396_1)).trans hw396_1), ((HB.out.cell (World.block_lt_of_cell? w _ hw396_2)).trans hw396_2), ((HB.out.cell (World.block_lt_of_cell? w _ hw396_3)).trans hw396_3), ((HB.out.cell (World.block_lt_of_cell? w _ hw396_4)).trans hw396_4), ((HB.out.cell (World.block_lt_of_cell? w _ hw396_5)).trans hw396_5), ((HB.out.cell (World.block_lt_of_cell? w _ hw396_6)).trans hw396_6), ((HB.out.cell (World.block_lt_of_cell? w _ hw396_7)).trans hw396_7), ((HB.out.cell (World.block_lt_of_cell? w _ hw396_8)).trans hw396_8)⟩ (fun hHeld => ?_); refine with_tabW bindleref08_SameTree.tab6 bindleref08_SameTree.bits6 (fun HT_ HW_ => ?_)
   generalize wr.drew = w10 at HB HR393_8 HR394_8 HR395_8 HR396_8 hx393_0 hx393_1 hx393_2 hx393_3 hx393_4 hx393_5 hx393_6 hx393_7 hx393_8 hx394_0 hx394_1 hx394_2 hx394_3 hx394_4 hx394_5 hx394_6 hx394_7 hx394_8 hx395_0 hx395_1 hx395_2 hx395_3 hx395_4 hx395_5 hx395_6 hx395_7 hx395_8 hx396_0 hx396_1 hx396_2 hx396_3 hx396_4 hx396_5 hx396_6 hx396_7 hx396_8 hHeld ⊢
   refine pur_ (i := 0) (N := some 17) q30_1 (any_of HT_.out (by kernel_rfl)) ?_
   refine pur_ (i := 1) (N := some 18) q30_2 (any_of HT_.out (by kernel_rfl)) ?_
   refine pur_ (i := 2) (N := some 19) q30_3 (any_of HT_.out (by kernel_rfl)) ?_
   refine pur_ (i := 3) (N := some 20) q30_4 (any_of HT_.out (by kernel_rfl)) ?_
   refine pur_ (i := 5) (N := some 22) q30_5 (any_of HT_.out (by kernel_rfl)) ?_
   refine pur_ (i := 6) (N := some 23) q30_6 (any_of HT_.out (by kernel_rfl)) ?_
   refine pur_ (i := 7) (N := some 24) q30_7 (any_of HT_.out (by kernel_rfl)) ?_
   refine pur_ (i := 8) (N := some 25) q30_8 (any_of HT_.out (by kernel_rfl)) ?_
   refine take_ (i := 4) (N := some 21) (v := ?_) (a' := ?_) q30_9 rfl rfl (take_ofW HT_.out HW_.out (by kernel_rfl)) (fun _ _ _ h => h) (Or.inl ⟨by rfl, ?_⟩) hHeld ?_ ?_
   rotate_left
   ·rintro w' ⟨s0, s1, s2, s3, s4, s5, s6, s7, s8, s9, s10, s11, s12, s13, s14, s15, s16, s17, s18, s19, s20, s21, s22, s23, s24, s25, s26, s27, s28, s29, s30, s31, s32, s33, s34, s35⟩
    go_simp
    with_reducible rfl
   rotate_left
   ·simp only [Act.put, List.setIfInBounds_toArray, List.set_cons_zero, List.set_cons_succ, i64_w, i32_w]
    rfl
   refine take_ (i := 9) (N := some 26) (v := ?_) (a' := ?_) q30_10 rfl rfl (take_ofW HT_.out HW_.out (by kernel_rfl)) (fun _ _ _ h => h) (Or.inl ⟨by rfl, ?_⟩) hHeld ?_ ?_
   rotate_left
   ·rintro w' ⟨s0, s1, s2, s3, s4, s5, s6, s7, s8, s9, s10, s11, s12, s13, s14, s15, s16, s17, s18, s19, s20, s21, s22, s23, s24, s25, s26, s27, s28, s29, s30, s31, s32, s33, s34, s35⟩
    go_simp
    with_reducible rfl
   rotate_left
   ·simp only [Act.put, List.setIfInBounds_toArray, List.set_cons_zero, List.set_cons_succ, i64_w, i32_w]
    rfl
   refine pur_ (i := 10) (N := some 27) q30_11 (any_of HT_.out (by kernel_rfl)) ?_
   refine pur_ (i := 11) (N := some 28) q30_12 (any_of HT_.out (by kernel_rfl)) ?_
   refine pur_ (i := 12) (N := some 29) q30_13 (any_of HT_.out (by kernel_rfl)) ?_
   refine pur_ (i := 13) (N := some 30) q30_14 (any_of HT_.out (by kernel_rfl)) ?_
   refine pur_ (i := 14) (N := some 31) q30_15 (any_of HT_.out (by kernel_rfl)) ?_
   refine pur_ (i := 16) (N := some 33) q30_24 (any_of HT_.out (by kernel_rfl)) ?_
   refine pur_ (i := 17) (N := some 34) q30_25 (any_of HT_.out (by kernel_rfl)) ?_
   refine pur_ (i := 18) (N := some 35) q30_26 (any_of HT_.out (by kernel_rfl)) ?_
   refine take_ (i := 15) (N := some 32) (v := ?_) (a' := ?_) q30_19 rfl rfl (take_ofW HT_.out HW_.out (by kernel_rfl)) (fun _ _ _ h => h) (Or.inl ⟨by rfl, ?_⟩) hHeld ?_ ?_
   rotate_left
   ·rintro w' ⟨s0, s1, s2, s3, s4, s5, s6, s7, s8, s9, s10, s11, s12, s13, s14, s15, s16, s17, s18, s19, s20, s21, s22, s23, s24, s25, s26, s27, s28, s29, s30, s31, s32, s33, s34, s35⟩
    go_simp
    with_reducible rfl
   rotate_left
   ·simp only [Act.put, List.setIfInBounds_toArray, List.set_cons_zero, List.set_cons_succ, i64_w, i32_w]
    rfl
   refine take_ (i := 19) (N := some 36) (v := ?_) (a' := ?_) q30_20 rfl rfl (take_ofW HT_.out HW_.out (by kernel_rfl)) (fun _ _ _ h => h) (Or.inl ⟨by rfl, ?_⟩) hHeld ?_ ?_
   rotate_left
   ·rintro w' ⟨s0, s1, s2, s3, s4, s5, s6, s7, s8, s9, s10, s11, s12, s13, s14, s15, s16, s17, s18, s19, s20, s21, s22, s23, s24, s25, s26, s27, s28, s29, s30, s31, s32, s33, s34, s35⟩
    go_simp
    with_reducible rfl
   rotate_left
   ·simp only [Act.put, List.setIfInBounds_toArray, List.set_cons_zero, List.set_cons_succ, i64_w, i32_w]
    rfl
   refine one_ (i := 20) (N := some 37) q30_21 rfl rfl (one_of HT_.out (by kernel_rfl)) (by decide) (fun K hK => ?_)
   refine goes_ Tryd.func35 (by kernel_rfl) rfl #[.agg #[.string ((rd_T40 l0 x5_1).f0), .string ((rd_T40 l0 x5_1).f1), .string ((rd_T40 l0 x5_1).f2), .int .u8 ((rd_T40 l0 x5_1).f3), .int .i64 ((rd_T40 l0 x5_1).f4.f0), .int .i64 ((rd_T40 l0 x5_1).f4.f1), .int .i64 ((rd_T40 l0 x5_1).f4.f2), .int .i64 ((rd_T40 l0 x5_1).f4.f3), .slice A393_8 ((rd_T40 l0 x5_1).f5).length c393_8], .agg #[.string ((rd_T40 l1 x5_1).f0), .string ((rd_T40 l1 x5_1).f1), .string ((rd_T40 l1 x5_1).f2), .int .u8 ((rd_T40 l1 x5_1).f3), .int .i64 ((rd_T40 l1 x5_1).f4.f0), .int .i64 ((rd_T40 l1 x5_1).f4.f1), .int .i64 ((rd_T40 l1 x5_1).f4.f2), .int .i64 ((rd_T40 l1 x5_1).f4.f3), .slice A394_8 ((rd_T40 l1 x5_1).f5).length c394_8]] (by rfl) rfl rfl wm_ ?_
   with_reducible refine (bindleref08_Equal.calls ((rd_T40 l0 x5_1).f0) ((rd_T40 l0 x5_1).f1) ((rd_T40 l0 x5_1).f2) ((rd_T40 l0 x5_1).f3) ((rd_T40 l0 x5_1).f4.f0) ((rd_T40 l0 x5_1).f4.f1) ((rd_T40 l0 x5_1).f4.f2) ((rd_T40 l0 x5_1).f4.f3) _ _ ((rd_T40 l0 x5_1).f5) ((rd_T40 l1 x5_1).f0) ((rd_T40 l1 x5_1).f1) ((rd_T40 l1 x5_1).f2) ((rd_T40 l1 x5_1).f3) ((rd_T40 l1 x5_1).f4.f0) ((rd_T40 l1 x5_1).f4.f1) ((rd_T40 l1 x5_1).f4.f2) ((rd_T40 l1 x5_1).f4.f3) _ _ ((rd_T40 l1 x5_1).f5) true _ ?side1 ?side2 ?side3 ?side4 A8.out).mono ?_
   (case side1 => exact wc_ (Kd.C_below HR395_8.out HB.out))
   (case side2 => exact HC395_8.out)
   (case side3 => exact wc_ (Kd.C_below HR396_8.out HB.out))
   (case side4 => exact HC396_8.out)
   rintro e w11 ⟨rfl, hb⟩
   refine ⟨_, rfl, ?_⟩
   have n0_ := A0_ (below_step (wb_ HB.out) hb)
   clear HB
   have HB := n0_
   clear n0_
   (try clear hb)
   (try clear hb2)
   (try clear hk)
   (try clear hi)
   refine hK.out _ _ ⟨((HB.out.cell (World.block_lt_of_cell? w _ hw393_0)).trans hw393_0), ((HB.out.cell (World.block_lt_of_cell? w _ hw393_1)).trans hw393_1), ((HB.out.cell (World.block_lt_of_cell? w _ hw393_2)).trans hw393_2), ((HB.out.cell (World.block_lt_of_cell? w _ hw393_3)).trans hw393_3), ((HB.out.cell (World.block_lt_of_cell? w _ hw393_4)).trans hw393_4), ((HB.out.cell (World.block_lt_of_cell? w _ hw393_5)).trans hw393_5), ((HB.out.cell (World.block_lt_of_cell? w _ hw393_6)).trans hw393_6), ((HB.out.cell (World.block_lt_of_cell? w _ hw393_7)).trans hw393_7), ((HB.out.cell (World.block_lt_of_cell? w _ hw393_8)).trans hw393_8), ((HB.out.cell (World.block_lt_of_cell? w _ hw394_0)).trans hw394_0), ((HB.out.cell (World.block_lt_of_cell? w _ hw394_1)).trans hw394_1), ((HB.out.cell (World.block_lt_of_cell? w _ hw394_2)).trans hw394_2), ((HB.out.cell (World.block_lt_of_cell? w _ hw394_3)).trans hw394_3), ((HB.out.cell (World.block_lt_of_cell? w _ hw394_4)).trans hw394_4), ((HB.out.cell (World.block_lt_of_cell? w _ hw394_5)).trans hw394_5), ((HB.out.cell (World.block_lt_of_cell? w _ hw394_6)).trans hw394_6), ((HB.out.cell (World.block_lt_of_cell? w _ hw394_7)).trans hw394_7), ((HB.out.cell (World.block_lt_of_cell? w _ hw394_8)).trans hw394_8), ((HB.out.cell (World.block_lt_of_cell? w _ hw395_0)).trans hw395_0), ((HB.out.cell (World.block_lt_of_cell? w _ hw395_1)).trans hw395_1), ((HB.out.cell (World.block_lt_of_cell? w _ hw395_2)).trans hw395_2), ((HB.out.cell (World.block_lt_of_cell? w _ hw395_3)).trans hw395_3), ((HB.out.cell (World.block_lt_of_cell? w _ hw395_4)).trans hw395_4), ((HB.out.cell (World.block_lt_of_cell? w _ hw395_5)).trans hw395_5), ((HB.out.cell (World.block_lt_of_cell? w _ hw395_6)).trans hw395_6), ((HB.out.cell (World.block_lt_of_cell? w _ hw395_7)).trans hw395_7), ((HB.out.cell (World.block_lt_of_cell? w _ hw395_8)).trans hw395_8), ((HB.out.cell (World.block_lt_of_cell? w _ hw396_0)).trans hw396_0), ((HB.out.cell (World.block_lt_of_cell? w _ hw396_1)).trans hw396_1), ((HB.out.cell (World.block_lt_of_cell? w _ hw396_2)).trans hw396_2), ((HB.out.cell (World.block_lt_of_cell? w _ hw396_3)).trans hw396_3), ((HB.out.cell (World.block_lt_of_cell? w _ hw396_4)).trans hw396_4), ((HB.out.cell (World.block_lt_of_cell? w _ hw396_5)).trans hw396_5), ((HB.out.cell (World.block_lt_of_cell? w _ hw396_6)).trans hw396_6), ((HB.out.cell (World.block_lt_of_cell? w _ hw396_7)).trans hw396_7), ((HB.out.cell (World.block_lt_of_cell? w _ hw396_8)).trans hw396_8)⟩ (fun hHeld => ?_)
   clear hK K
   refine norm_ (a' := ?_) ?_ ?_
   rotate_left
   ·show Act.put _ (some 37) _ = _
    simp only [Act.put, List.setIfInBounds_toArray, List.set_cons_zero, List.set_cons_succ, i64_w, i32_w]
    rfl
   refine pur_ (i := 21) (N := some 38) q30_22 (any_of HT_.out (by kernel_rfl)) ?_
   refine pur_ (i := 22) (N := some 39) q30_23 (any_of HT_.out (by kernel_rfl)) ?_
   refine done_ (done_of HT_.out (by kernel_rfl)) ?_
   try go_wp2
   go_roundg k1
   case measure => have := HK1.out; omega
   case rel => exact ⟨(wrap64 (x5_1 + 1)), wr_, H', ⟨by have := HK1.out; omega⟩, ⟨wb_ HB.out⟩⟩
end Go.Proofs.YtfljbidecljlcaaDoor.Print

namespace Go.Proofs.YtfljbidecljlcaaDoor
open Go.RowKit Go.Proofs.YtfljbidecljlcaaDoor.Print Go.Proofs.YtfljbidecljlcaaDoorW.PrintWords
set_option linter.unusedVariables false
theorem requal_f (a b : Node) : bindleref08_Equal.f a.f0 a.f1 a.f2 a.f3 a.f4.f0 a.f4.f1 a.f4.f2 a.f4.f3 a.f5 b.f0 b.f1 b.f2 b.f3 b.f4.f0 b.f4.f1 b.f4.f2 b.f4.f3 b.f5 = some (equalB a b) := by
 unfold bindleref08_Equal.f
 exact equal_chain a b rfl
theorem rdN_nat' (l : List Node) (j : Nat) (h : j < l.length) : rd_T40 l (j : Int) = l[j] := by rw [rdN_at l j (by omega) (by omega)]; simp
theorem sameB_size : ∀ (l r : List Node), sameB l r = true → l.length = r.length
 | [], [], _ => rfl
 | [], _ :: _, h => by cases h
 | _ :: _, [], h => by cases h
 | a :: l, b :: r, h => by
  rw [sameB, Bool.and_eq_true] at h
  rw [List.length_cons, List.length_cons, sameB_size l r h.2]
theorem sameTree_l (l r : List Node) (hl : l.length = r.length) (hlen : l.length ≤ 4611686018427387904) : ∀ (d i : Nat), i + d = l.length → Ev (fun k => bindleref08_SameTree.l0 k l r (i : Int)) (sameB (l.drop i) (r.drop i)) := by
 intro d
 induction d with
 | zero =>
  intro i hi
  rw [List.drop_of_length_le (by omega), List.drop_of_length_le (by omega)]
  exact Ev.step (f := fun _ => some true) (fun k => by rw [bindleref08_SameTree.l0, if_neg (by omega)]) (Ev.now _)
 | succ d ih =>
  intro i hi
  have hil : i < l.length := by omega
  have hir : i < r.length := by omega
  rw [List.drop_eq_getElem_cons hil, List.drop_eq_getElem_cons hir, sameB]
  by_cases he : l[i].f2.toList = r[i].f2.toList
  ·rw [decide_eq_true he, Bool.true_and]
   cases hb : equalB l[i] r[i] with
   | true =>
    rw [Bool.true_and]
    refine Ev.step (fun k => ?_) (ih (i + 1) (by omega))
    rw [bindleref08_SameTree.l0, if_pos (by omega), if_pos (by omega), if_pos (by omega), rdN_nat' l i hil, rdN_nat' r i hir, if_pos he, requal_f, hb, Option.bind_some, if_pos rfl]
    rw [show wrap64 ((i : Int) + 1) = ((i + 1 : Nat) : Int) by unfold wrap64; omega]
   | false =>
    rw [Bool.false_and]
    refine Ev.step (f := fun _ => some false) (fun k => ?_) (Ev.now _)
    rw [bindleref08_SameTree.l0, if_pos (by omega), if_pos (by omega), if_pos (by omega), rdN_nat' l i hil, rdN_nat' r i hir, if_pos he, requal_f, hb, Option.bind_some, if_neg (by simp)]
  ·rw [decide_eq_false he, Bool.false_and, Bool.false_and]
   refine Ev.step (f := fun _ => some false) (fun k => ?_) (Ev.now _)
   rw [bindleref08_SameTree.l0, if_pos (by omega), if_pos (by omega), if_pos (by omega), rdN_nat' l i hil, rdN_nat' r i hir, if_neg he]
theorem sameTree_eq (l r : List Node) (hlen : l.length ≤ 4611686018427387904) : Ev (fun k => bindleref08_SameTree.f k l r) (sameB l r) := by
 by_cases hl : l.length = r.length
 ·refine Ev.congr (fun k => ?_) (sameTree_l l r hl hlen l.length 0 (by omega))
  unfold bindleref08_SameTree.f
  rw [if_pos (by omega)]
  rfl
 ·have hf : sameB l r = false := by
   rw [Bool.eq_false_iff]
   exact fun h => hl (sameB_size l r h)
  rw [hf]
  refine Ev.congr (f := fun _ => some false) (fun k => ?_) (Ev.now _)
  unfold bindleref08_SameTree.f
  rw [if_neg (by omega)]
end Go.Proofs.YtfljbidecljlcaaDoor

namespace Go.Proofs.YtfljbidecljlcaaDoor
open Go.RowKit Go.Maps Go.Proofs.YtfljbidecljlcaaDoor.Print Go.Proofs.YtfljbidecljlcaaDoorW.PrintWords Go.Proofs.YtfljbidecljlcaaDoorW.PrintLast Go.Proofs.YtfljbidecljlcaaDoorW.PrintMore
set_option linter.unusedVariables false
set_option linter.unusedSimpArgs false
theorem fcell {w : World} {p : Addr} {v : Value} (h : w.cell? p = some v) (o : Obj) : (w.alloc o).cell? p = some v := ((below_alloc (Below.refl _ _) o).cell (World.block_lt_of_cell? w _ h)).trans h
theorem fkeep {w w1 : World} {p : Addr} {v : Value} (hb : Below w.heap.size w w1) (h : w.cell? p = some v) : w1.cell? p = some v := (hb.cell (World.block_lt_of_cell? w _ h)).trans h
def thingCells (m : Mem) (v : Value) (ld : ByteArray) : Array Value := #[.int .u8 m.f2, .int .i64 m.f3.f0, .int .i64 m.f3.f1, .int .i64 m.f3.f2, .int .i64 m.f3.f3, .string m.f1, v, .string ld]
def ThingAt (w : World) (base b : Nat) (m : Mem) (ld : ByteArray) : Prop :=
 base ≤ b ∧ ∃ v, w.heap[b]? = some (.cells (thingCells m v ld) 94 (0, 0)) ∧ Kd.R (Kd.int .u8) 5 w base (fun _ => True) v m.f4
theorem blk_lt' {w : World} {b : Nat} {o : Obj} (h : w.heap[b]? = some o) : b < w.heap.size := (Array.getElem?_eq_some_iff.1 h).1
theorem ThingAt.lt {w : World} {base b : Nat} {m : Mem} {ld : ByteArray} (h : ThingAt w base b m ld) : b < w.heap.size := by
 obtain ⟨_, v, hb, _⟩ := h
 exact blk_lt' hb
theorem ThingAt.below {w w1 : World} {base b : Nat} {m : Mem} {ld : ByteArray} (h : ThingAt w base b m ld) (hb : Below w.heap.size w w1) : ThingAt w1 base b m ld := by
 obtain ⟨h0, v, h1, h2⟩ := h
 exact ⟨h0, v, (hb.block b (blk_lt' h1)).trans h1, Kd.R_below h2 hb⟩
theorem ThingAt.grown {w w1 : World} {base b g : Nat} {m : Mem} {ld : ByteArray} (h : ThingAt w base b m ld) (hg : w.grownBy w1 (some g)) (ho : ∀ cs q, w.heap[g]? = some (.cells cs q (0, 0)) → q ≠ 94 ∧ q ≠ 5) : ThingAt w1 base b m ld := by
 obtain ⟨h0, v, h1, h2⟩ := h
 refine ⟨h0, v, (hg.block b (blk_lt' h1) (fun e => by injection e with e; subst e; exact (ho _ _ h1).1 rfl)).trans h1, ?_⟩
 refine Kd.R_mono (Kd.R_grown (Kd.R_bound h2) hg (fun k hk e => ?_)) (fun _ _ => trivial)
 injection e with e
 subst e
 obtain ⟨_, _, _, q, hq, cs, hc⟩ := hk
 have hq2 : q = 5 := by
  rcases List.mem_cons.1 hq with h | h
  ·exact h
  ·cases h
 subst hq2
 exact (ho _ _ hc).2 rfl
theorem MapS.isMap {P : Program} {K : TypeId} {w : World} {b n : Nat} {f : List UInt8 → Option Value} (h : MapS P K w b n f) : ∀ cs q, w.heap[b]? = some (.cells cs q (0, 0)) → False := by
 obtain ⟨D, ⟨es, clock, hb, _⟩, _⟩ := h
 intro cs q h2
 rw [hb] at h2
 cases h2
def dirV (B : Nat → Nat) (s : PS) : List UInt8 → Option Value := fun k => (atD s k).map (fun c => Value.pointer (some ⟨B c, 0, none⟩))
def DirS (w : World) (base d i : Nat) (l : List Mem) (s : PS) (B : Nat → Nat) : Prop :=
 MapS Tryd.prog 9 w d i (dirV B s) ∧ (∀ c m, l[c]? = some m → c < i → ¬ m.f2 = 49 → ThingAt w base (B c) m emp) ∧
  (∀ c c' m m', c < c' → c' < i → l[c]? = some m → ¬ m.f2 = 49 → l[c']? = some m' → ¬ m'.f2 = 49 → B c ≠ B c')
theorem dirV_put (B : Nat → Nat) (s : PS) (p : ByteArray) (c : Nat) (t : List UInt8) : putS (dirV B s) p.data.toList (.pointer (some ⟨B c, 0, none⟩)) t = dirV B (putP s p c) t := by
 unfold putS dirV
 rw [atD_put]
 by_cases h : t = p.data.toList
 ·rw [if_pos h, if_pos h]; rfl
 ·rw [if_neg h, if_neg h]
theorem dirV_eq {B B' : Nat → Nat} {s : PS} (h : ∀ q ∈ s, B q.2 = B' q.2) (t : List UInt8) : dirV B s t = dirV B' s t := by
 unfold dirV
 cases ha : atD s t with
 | none => rfl
 | some c =>
  obtain ⟨q, hq, _, rfl⟩ := atD_mem ha
  simp [h q hq]
theorem DirS.start (w : World) (base : Nat) (l : List Mem) (B : Nat → Nat) : DirS (w.alloc (.map #[] 0)) base w.heap.size 0 l [] B :=
 ⟨(MapS.made _ _ _).ext (fun s => rfl), fun c m _ h => absurd h (Nat.not_lt_zero _), fun c c' m m' _ h => absurd h (Nat.not_lt_zero _)⟩
theorem DirS.below {w w1 : World} {base d i : Nat} {l : List Mem} {s : PS} {B : Nat → Nat} (h : DirS w base d i l s B) (hb : Below w.heap.size w w1) : DirS w1 base d i l s B :=
 ⟨h.1.below hb, fun c m hm hc h49 => (h.2.1 c m hm hc h49).below hb, h.2.2⟩
theorem DirS.name {w w1 : World} {base d i : Nat} {l : List Mem} {s : PS} {B : Nat → Nat} (h : DirS w base d i l s B) {m : Mem} (hm : l[i]? = some m) (h49 : m.f2 = 49) {p : ByteArray} {c : Nat} (hM : MapS Tryd.prog 9 w1 d (i + 1) (putS (dirV B s) p.data.toList (.pointer (some ⟨B c, 0, none⟩)))) (hg : w.grownBy w1 (some d)) :
  DirS w1 base d (i + 1) l (putP s p c) B := by
 refine ⟨hM.ext (dirV_put B s p c), fun c' m' hm' hc' hn => ?_, fun c1 c2 m1 m2 h1 h2 h3 h4 h5 h6 => ?_⟩
 ·have hlt : c' < i := by
   rcases Nat.lt_or_ge c' i with h1 | h1
   ·exact h1
   ·obtain rfl : c' = i := by omega
    rw [hm] at hm'
    cases hm'
    exact absurd h49 hn
  exact (h.2.1 c' m' hm' hlt hn).grown hg (fun cs q hc => (h.1.isMap cs q hc).elim)
 ·refine h.2.2 c1 c2 m1 m2 h1 ?_ h3 h4 h5 h6
  rcases Nat.lt_or_ge c2 i with h7 | h7
  ·exact h7
  ·obtain rfl : c2 = i := by omega
   rw [hm] at h5
   cases h5
   exact absurd h49 h6
theorem DirS.add {w w1 : World} {base d i : Nat} {l : List Mem} {s : PS} {B : Nat → Nat} (h : DirS w base d i l s B) (hI : FInv l i s) {m : Mem} (hm : l[i]? = some m) {b : Nat} (hb : ∀ c m', l[c]? = some m' → c < i → ¬ m'.f2 = 49 → B c < b) (hT : ThingAt w base b m emp)
  {p : ByteArray} (hM : MapS Tryd.prog 9 w1 d (i + 1) (putS (dirV B s) p.data.toList (.pointer (some ⟨b, 0, none⟩)))) (hg : w.grownBy w1 (some d)) :
  DirS w1 base d (i + 1) l (putP s p i) (fun c => if c = i then b else B c) := by
 have hB : ∀ q ∈ s, B q.2 = (fun c => if c = i then b else B c) q.2 := fun q hq => by
  have := (hI.cls q hq).1
  dsimp only
  rw [if_neg (by omega)]
 refine ⟨hM.ext (fun t => ?_), fun c m' hm' hc hn => ?_, fun c1 c2 m1 m2 h1 h2 h3 h4 h5 h6 => ?_⟩
 ·rw [← dirV_put]
  unfold putS
  rw [dirV_eq (B' := fun c => if c = i then b else B c) hB]
  simp
 ·by_cases e : c = i
  ·subst e
   rw [hm] at hm'
   cases hm'
   dsimp only
   rw [if_pos rfl]
   exact hT.grown hg (fun cs q hc => (h.1.isMap cs q hc).elim)
  ·dsimp only
   rw [if_neg e]
   exact (h.2.1 c m' hm' (by omega) hn).grown hg (fun cs q hc => (h.1.isMap cs q hc).elim)
 ·dsimp only
  rw [if_neg (show ¬ c1 = i by omega)]
  by_cases e : c2 = i
  ·rw [if_pos e]
   have := hb c1 m1 h3 (by omega) h4
   omega
  ·rw [if_neg e]
   exact h.2.2 c1 c2 m1 m2 h1 (by omega) h3 h4 h5 h6
theorem put_step {P : Program} {K e t : TypeId} {ops : Array Oper} {w : World} {b n : Nat} {f : List UInt8 → Option Value} {oi : Oper} {a : Act} {Kc : Act → World → Prop} {Q : Exit → Act → World → Prop} (h : MapS P K w b n f) (hw : Region.wanted oi (yielded ops a.tmps) = true) (hN : oi.dst = none) (m x v : Operand) (hop : oi.op = Op.mapUpdate t m x v)
  (hK : P.underlying K = some .string) (ht : P.underlying t = some (.map K e)) (hn : n < maxLen) (hm : a.eval m = .map (some b)) {s : ByteArray} (hx : a.eval x = .string s) (hs : s.size ≤ maxLen) {u : Value} (hv : a.eval v = u)
  (hk : ∀ w', MapS P K w' b (n + 1) (putS f s.data.toList u) → w.mapTurned w' b → Kc a w') : if Region.wanted oi (yielded ops a.tmps) = true then Oper.wp P oi a w Kc Q else Kc (a.put none undef) w := by
 obtain ⟨w', hrun, r1, r2⟩ := h.put hK ht hn hs u
 refine skip_ (w1 := w') hw hN ?_ (hk w' r1 r2)
 simp [execOp, hop, hm, hx, hv, hrun]
def LayPost (l : List Mem) (s : PS) (base d i : Nat) (W : World) (e : Ending) (W' : World) : Prop :=
 ((stepF l s i = none ∧ e = .returned (.bool false)) ∨ (∃ s' B', stepF l s i = some s' ∧ e = .returned (.bool true) ∧ DirS W' base d (i + 1) l s' B')) ∧ W.grownBy W' (some d)
theorem zeroThing (w : World) : (zeroValue 92).run Tryd.prog w = .ok (.pointer none) w := by kernel_rfl
theorem thing_cells {w : World} {b : Nat} {m : Mem} {v : Value} {ld : ByteArray} (h : w.heap[b]? = some (.cells (thingCells m v ld) 94 (0, 0))) :
  w.cell? ⟨b, 0, none⟩ = some (.int .u8 m.f2) ∧ w.cell? ⟨b, 1, none⟩ = some (.int .i64 m.f3.f0) ∧ w.cell? ⟨b, 2, none⟩ = some (.int .i64 m.f3.f1) ∧ w.cell? ⟨b, 3, none⟩ = some (.int .i64 m.f3.f2) ∧ w.cell? ⟨b, 4, none⟩ = some (.int .i64 m.f3.f3) ∧
   w.cell? ⟨b, 5, none⟩ = some (.string m.f1) ∧ w.cell? ⟨b, 6, none⟩ = some v ∧ w.cell? ⟨b, 7, none⟩ = some (.string ld) := by
 refine ⟨?_, ?_, ?_, ?_, ?_, ?_, ?_, ?_⟩ <;> · unfold World.cell?; dsimp only; rw [h]; rfl
set_option maxRecDepth 100000 in
set_option maxHeartbeats 4000000 in
theorem Lay_calls (base d i : Nat) (l : List Mem) (s : PS) (B : Nat → Nat) (x : Mem) (A : Option Addr) (c : Nat) (W : World) (hx : l[i]? = some x) (hlen : l.length ≤ 1000000000000) (hz : MemZ x) (hD : DirS W base d i l s B) (hI : FInv l i s) (hbase : base ≤ W.heap.size) (hC : Kd.C (Kd.int .u8) W A x.f4.length x.f4) :
  Calls Tryd.prog 46 #[.map (some d), .agg (memCells x (.slice A x.f4.length c))] W (LayPost l s base d i W) := by
 obtain ⟨hi, hxi⟩ := List.getElem?_eq_some_iff.1 hx
 have hst := stepF_eq l s i hi
 rw [hxi] at hst
 have hdlt : d < W.heap.size := hD.1.lt
 have hs0 : x.f0.size ≤ maxLen := by have := hz.1; unfold maxLen; omega
 have hs1 : x.f1.size ≤ maxLen := by have := hz.2.1; unfold maxLen; omega
 have hlook := fun o => (hD.1.alloc o).look_ok Tryd.underlying9 Tryd.underlying71 (zeroThing _) hs1
 have hBlt : ∀ c m, l[c]? = some m → c < i → ¬ m.f2 = 49 → B c < W.heap.size := fun c m h1 h2 h3 => (hD.2.1 c m h1 h2 h3).lt
 have HX := Aside0.mk hx
 have HZ := Aside0.mk hz
 have HD := Aside0.mk hD
 have HI := Aside0.mk hI
 have HC := Aside0.mk hC
 have HS := Aside0.mk hst
 have HBL := Aside0.mk hBlt
 have HLK := Aside0.mk hlook
 clear hx hxi hz hD hI hC hst hBlt hlook
 generalize hpost : LayPost l s base d i W = Q
 have hQ := Aside0.mk hpost
 clear hpost
 unfold memCells
 by_cases h49 : x.f2 = 49
 case neg =>
  have e49 : (x.f2 != 49) = true := bne_iff_ne.2 h49
  have H49 := Aside0.mk h49
  clear h49
  go_enter Tryd.func46, Tryd.ntmps46
  go_upto_region 2 with (fail)
  refine start_ (n := 15) (S := fun w' => w'.cell? ⟨W.heap.size, 0, none⟩ = some (.string x.f0) ∧ w'.cell? ⟨W.heap.size, 1, none⟩ = some (.string x.f1) ∧ w'.cell? ⟨W.heap.size, 2, none⟩ = some (.int .u8 x.f2) ∧ w'.cell? ⟨W.heap.size, 3, none⟩ = some (.int .i64 x.f3.f0) ∧ w'.cell? ⟨W.heap.size, 4, none⟩ = some (.int .i64 x.f3.f1) ∧ w'.cell? ⟨W.heap.size, 5, none⟩ = some (.int .i64 x.f3.f2) ∧ w'.cell? ⟨W.heap.size, 6, none⟩ = some (.int .i64 x.f3.f3) ∧ w'.cell? ⟨W.heap.size, 7, none⟩ = some (.slice A x.f4.length c)) (ds := [14]) #[false, false, false, false, false, false, false, false, false, false, false, false, false, false, false] (by kernel_rfl) rfl rfl ⟨by simp, by simp, by simp, by simp, by simp, by simp, by simp, by simp⟩ (fun hHeld => ?_)
  generalize hwq : (W.alloc (.cells #[.string x.f0, .string x.f1, .int .u8 x.f2, .int .i64 x.f3.f0, .int .i64 x.f3.f1, .int .i64 x.f3.f2, .int .i64 x.f3.f3, .slice A x.f4.length c] 45)).drew = wq at hHeld ⊢
  have hzq : W.heap.size + 1 = wq.heap.size := by rw [← hwq]; exact (World.size_alloc _ _).symm
  refine pure_ (i := 0) (N := some 10) (v := ?_) (a' := ?_) #[true, false, false, false, false, false, false, false, false, false, false, false, false, false, false] rfl rfl (by kernel_rfl) (fun _ _ _ h => h) (Or.inl ⟨by rfl, ?_⟩) ?_ ?_
  rotate_left
  ·intro w'
   go_simp
   with_reducible rfl
  rotate_left
  ·simp only [Act.put, List.setIfInBounds_toArray, List.set_cons_zero, List.set_cons_succ, i64_w, i32_w]
   rfl
  refine pure_ (i := 1) (N := some 11) (v := ?_) (a' := ?_) #[true, true, false, false, false, false, false, false, false, false, false, false, false, false, false] rfl rfl (by kernel_rfl) (fun _ _ _ h => h) (Or.inl ⟨by rfl, ?_⟩) ?_ ?_
  rotate_left
  ·intro w'
   go_simp
   with_reducible rfl
  rotate_left
  ·simp only [Act.put, List.setIfInBounds_toArray, List.set_cons_zero, List.set_cons_succ, i64_w, i32_w]
   rfl
  refine take_ (i := 2) (N := some 12) (v := ?_) (a' := ?_) #[true, true, true, false, false, false, false, false, false, false, false, false, false, false, false] rfl rfl (by kernel_rfl) (fun _ _ _ h => h) (Or.inl ⟨by rfl, ?_⟩) hHeld ?_ ?_
  rotate_left
  ·rintro w' ⟨s0, s1, s2, s3, s4, s5, s6, s7⟩
   go_simp
   with_reducible rfl
  rotate_left
  ·simp only [Act.put, List.setIfInBounds_toArray, List.set_cons_zero, List.set_cons_succ, i64_w, i32_w]
   rfl
  refine pure_ (i := 3) (N := some 13) (v := ?_) (a' := ?_) #[true, true, true, true, false, false, false, false, false, false, false, false, false, false, false] rfl rfl (by kernel_rfl) (fun _ _ _ h => h) (Or.inl ⟨by rfl, ?_⟩) ?_ ?_
  rotate_left
  ·intro w'
   go_simp
   with_reducible rfl
  rotate_left
  ·simp only [Act.put, List.setIfInBounds_toArray, List.set_cons_zero, List.set_cons_succ, i64_w, i32_w]
   rfl
  refine take_ (i := 4) (N := some 14) (v := ?_) (a' := ?_) #[true, true, true, true, true, false, false, false, false, false, false, false, false, false, false] rfl rfl (by kernel_rfl) (fun _ _ _ h => h) (Or.inl ⟨by rfl, ?_⟩) hHeld ?_ ?_
  rotate_left
  ·rintro w' ⟨s0, s1, s2, s3, s4, s5, s6, s7⟩
   go_simp
   with_reducible rfl
  rotate_left
  ·simp only [Act.put, List.setIfInBounds_toArray, List.set_cons_zero, List.set_cons_succ, i64_w, i32_w]
   rfl
  refine pure_ (i := 5) (N := some 15) (v := ?_) (a' := ?_) #[true, true, true, true, true, true, false, false, false, false, false, false, false, false, false] rfl rfl (by kernel_rfl) (fun _ _ _ h => h) (Or.inl ⟨by rfl, ?_⟩) ?_ ?_
  rotate_left
  ·intro w'
   go_simp
   with_reducible rfl
  rotate_left
  ·simp only [Act.put, List.setIfInBounds_toArray, List.set_cons_zero, List.set_cons_succ, i64_w, i32_w]
   rfl
  refine take_ (i := 6) (N := some 16) (v := ?_) (a' := ?_) #[true, true, true, true, true, true, true, false, false, false, false, false, false, false, false] rfl rfl (by kernel_rfl) (fun _ _ _ h => h) (Or.inl ⟨by rfl, ?_⟩) hHeld ?_ ?_
  rotate_left
  ·rintro w' ⟨s0, s1, s2, s3, s4, s5, s6, s7⟩
   go_simp
   with_reducible rfl
  rotate_left
  ·simp only [Act.put, List.setIfInBounds_toArray, List.set_cons_zero, List.set_cons_succ, i64_w, i32_w]
   rfl
  refine pure_ (i := 7) (N := some 17) (v := ?_) (a' := ?_) #[true, true, true, true, true, true, true, true, false, false, false, false, false, false, false] rfl rfl (by kernel_rfl) (fun _ _ _ h => h) (Or.inl ⟨by rfl, ?_⟩) ?_ ?_
  rotate_left
  ·intro w'
   go_simp
   with_reducible rfl
  rotate_left
  ·simp only [Act.put, List.setIfInBounds_toArray, List.set_cons_zero, List.set_cons_succ, i64_w, i32_w]
   rfl
  refine take_ (i := 8) (N := some 18) (v := ?_) (a' := ?_) #[true, true, true, true, true, true, true, true, true, false, false, false, false, false, false] rfl rfl (by kernel_rfl) (fun _ _ _ h => h) (Or.inl ⟨by rfl, ?_⟩) hHeld ?_ ?_
  rotate_left
  ·rintro w' ⟨s0, s1, s2, s3, s4, s5, s6, s7⟩
   go_simp
   with_reducible rfl
  rotate_left
  ·simp only [Act.put, List.setIfInBounds_toArray, List.set_cons_zero, List.set_cons_succ, i64_w, i32_w]
   rfl
  refine pure_ (i := 9) (N := some 19) (v := ?_) (a' := ?_) #[true, true, true, true, true, true, true, true, true, true, false, false, false, false, false] rfl rfl (by kernel_rfl) (fun _ _ _ h => h) (Or.inl ⟨by rfl, ?_⟩) ?_ ?_
  rotate_left
  ·intro w'
   go_simp
   with_reducible rfl
  rotate_left
  ·simp only [Act.put, List.setIfInBounds_toArray, List.set_cons_zero, List.set_cons_succ, i64_w, i32_w]
   rfl
  refine take_ (i := 10) (N := some 20) (v := ?_) (a' := ?_) #[true, true, true, true, true, true, true, true, true, true, true, false, false, false, false] rfl rfl (by kernel_rfl) (fun _ _ _ h => h) (Or.inl ⟨by rfl, ?_⟩) hHeld ?_ ?_
  rotate_left
  ·rintro w' ⟨s0, s1, s2, s3, s4, s5, s6, s7⟩
   go_simp
   with_reducible rfl
  rotate_left
  ·simp only [Act.put, List.setIfInBounds_toArray, List.set_cons_zero, List.set_cons_succ, i64_w, i32_w]
   rfl
  refine one_ (i := 11) (N := some 21) #[true, true, true, true, true, true, true, true, true, true, true, true, false, false, false] rfl rfl (by kernel_rfl) (by decide) (fun K hK => ?_)
  refine goes_ Tryd.func59 (by kernel_rfl) rfl #[.slice A x.f4.length c] (by rfl) rfl rfl (by first | rfl | (simp [Act.eval]; done)) ?_
  refine (Clone_calls A c x.f4 wq (by rw [← hwq]; exact Kd.C_drew (Kd.C_alloc HC.out _)) HZ.out.2.2).mono ?_
  rintro e w5 ⟨v, rfl, hR5, hb5⟩
  obtain ⟨Av, cv, rfl, hlv, hCv⟩ := Kd.R_reads hR5
  clear hlv hCv
  refine ⟨_, rfl, ?_⟩
  refine hK.out _ _ ⟨fkeep hb5 hHeld.1, fkeep hb5 hHeld.2.1, fkeep hb5 hHeld.2.2.1, fkeep hb5 hHeld.2.2.2.1, fkeep hb5 hHeld.2.2.2.2.1, fkeep hb5 hHeld.2.2.2.2.2.1, fkeep hb5 hHeld.2.2.2.2.2.2.1, fkeep hb5 hHeld.2.2.2.2.2.2.2⟩ (fun hHeld2 => ?_)
  clear hK K
  have HR5 := Aside0.mk hR5
  have HB5 := Aside0.mk hb5
  clear hR5
  refine norm_ (a' := ?_) ?_ ?_
  rotate_left
  ·show Act.put _ (some 21) _ = _
   simp only [Act.put, List.setIfInBounds_toArray, List.set_cons_zero, List.set_cons_succ, i64_w, i32_w]
   rfl
  refine pure_ (i := 12) (N := some 22) (v := ?_) (a' := ?_) #[true, true, true, true, true, true, true, true, true, true, true, true, true, false, false] rfl rfl (by kernel_rfl) (fun _ _ _ h => h) (Or.inl ⟨by rfl, ?_⟩) ?_ ?_
  rotate_left
  ·intro w'
   go_simp
   with_reducible rfl
  rotate_left
  ·simp only [Act.put, List.setIfInBounds_toArray, List.set_cons_zero, List.set_cons_succ, i64_w, i32_w]
   rfl
  refine one_ (i := 13) (N := some 23) #[true, true, true, true, true, true, true, true, true, true, true, true, true, true, false] rfl rfl (by kernel_rfl) (by decide) (fun K hK => ?_)
  refine value_ (w1 := ?_) (v := ?_) (by rfl) rfl ?_ ?_
  rotate_left 2
  ·go_simp
   constructor
   ·rfl
   ·rfl
  refine hK.out _ _ ⟨fcell hHeld2.1 _, fcell hHeld2.2.1 _, fcell hHeld2.2.2.1 _, fcell hHeld2.2.2.2.1 _, fcell hHeld2.2.2.2.2.1 _, fcell hHeld2.2.2.2.2.2.1 _, fcell hHeld2.2.2.2.2.2.2.1 _, fcell hHeld2.2.2.2.2.2.2.2 _⟩ (fun hHeld3 => ?_)
  clear hK K
  refine norm_ (a' := ?_) ?_ ?_
  rotate_left
  ·show Act.put _ (some 23) _ = _
   simp only [Act.put, List.setIfInBounds_toArray, List.set_cons_zero, List.set_cons_succ, i64_w, i32_w]
   rfl
  refine last_ (i := 14) (N := none) #[true, true, true, true, true, true, true, true, true, true, true, true, true, true, true] rfl rfl (by kernel_rfl) (by decide) (fun K hK => ?_)
  refine put_step (f := dirV B s) (b := d) (n := i) (s := x.f0) (((HD.out.below (show Below W.heap.size W wq from by rw [← hwq]; exact below_drew (below_alloc (Below.refl _ _) _))).below HB5.out).1.alloc _) (by rfl) rfl (.tmp 10) (.tmp 12) (.tmp 23) rfl Tryd.underlying9 Tryd.underlying71 (by unfold maxLen; omega) rfl rfl hs0 rfl ?_
  intro w6 hM6 hturn6
  refine hK.out _ _ ?_
  clear hK K
  have HM6 := Aside0.mk hM6
  have HG6 := Aside0.mk hturn6.grown
  clear hM6 hturn6 hHeld hHeld2 hHeld3 hb5
  refine done_ (by kernel_rfl) ?_
  go_wp2_with (fail)
  rw [← hQ.out]
  have hB1 : Below W.heap.size W w5 := ((show Below W.heap.size W wq from by rw [← hwq]; exact below_drew (below_alloc (Below.refl _ _) _))).trans (HB5.out.mono (by omega))
  refine ⟨.inr ⟨_, _, by rw [HS.out, if_neg H49.out], rfl, DirS.add ((HD.out.below hB1).below (below_alloc (Below.refl _ _) _)) HI.out HX.out (b := w5.heap.size) (fun c m h1 h2 h3 => by have := HBL.out c m h1 h2 h3; have := hB1.size; omega) ⟨by have := hB1.size; omega, _, blk_new _ _, Kd.R_lower (Kd.R_alloc HR5.out _) (by omega)⟩ HM6.out HG6.out⟩, ?_⟩
  exact World.grownBy.trans (grown_of_below (hB1.trans ((below_alloc (Below.refl _ _) _).mono hB1.size)) _) HG6.out
 case pos =>
  have e49 : (x.f2 != 49) = false := bne_eq_false_iff_eq.2 h49
  have hst2 := HS.out
  rw [if_pos h49] at hst2
  have H49 := Aside0.mk h49
  clear h49
  cases ha : atD s x.f1.data.toList with
  | none =>
   have hlook := fun o => HLK.out o
   rw [ha] at hst2
   have hdv : dirV B s x.f1.data.toList = none := by unfold dirV; rw [ha]; rfl
   simp only [hdv, Option.getD_none, Option.isSome_none] at hlook
   have HS2 := Aside0.mk hst2
   clear hdv ha hst2
   go_enter Tryd.func46, Tryd.ntmps46
   go_wp2
   rw [← hQ.out]
   exact ⟨.inl ⟨HS2.out, rfl⟩, grown_of_below (below_alloc (Below.refl _ _) _) _⟩
  | some k =>
   have hlook := fun o => HLK.out o
   rw [ha] at hst2
   have hdv : dirV B s x.f1.data.toList = some (.pointer (some ⟨B k, 0, none⟩)) := by unfold dirV; rw [ha]; rfl
   simp only [hdv, Option.getD_some, Option.isSome_some] at hlook
   obtain ⟨q, hq, _, rfl⟩ := atD_mem ha
   obtain ⟨hk, t, ht, ht49⟩ := HI.out.cls q hq
   dsimp only at hst2
   rw [ht] at hst2
   dsimp only at hst2
   obtain ⟨_, v, hblk, hR⟩ := HD.out.2.1 q.2 t ht hk ht49
   have hcell := fcell (thing_cells hblk).1
   have hbk := World.new_ne W ⟨B q.2, 0, none⟩ (thing_cells hblk).1
   have HHD := Aside0.mk hdv
   clear hdv ha hq hblk hR
   by_cases h48 : t.f2 = 48
   ·have e48 : (t.f2 != 48) = false := bne_eq_false_iff_eq.2 h48
    rw [if_pos h48] at hst2
    have HS2 := Aside0.mk hst2
    have HMA := Aside0.mk (fun o => HD.out.1.alloc o)
    have HDA := Aside0.mk (fun o => HD.out.below (below_alloc (Below.refl _ _) o))
    clear hst2 h48 ht ht49 hk
    go_enter Tryd.func46, Tryd.ntmps46
    go_wp2_with (at_mapUpdate; refine MapS.wpput (HMA.out _) rfl _ _ _ rfl Tryd.underlying9 Tryd.underlying71 (by unfold maxLen; omega) rfl rfl hs0 rfl ?_; intro w2 hM2 hturn; have HM2 := Aside0.mk hM2; have HG2 := Aside0.mk hturn.grown; clear hM2 hturn)
    rw [← hQ.out]
    exact ⟨.inr ⟨_, _, HS2.out, rfl, DirS.name (HDA.out _) HX.out H49.out HM2.out HG2.out⟩, World.grownBy.trans (grown_of_below (below_alloc (Below.refl _ _) _) _) HG2.out⟩
   ·have e48 : (t.f2 != 48) = true := bne_iff_ne.2 h48
    rw [if_neg h48] at hst2
    have HS2 := Aside0.mk hst2
    clear hst2 h48 ht ht49 hk
    go_enter Tryd.func46, Tryd.ntmps46
    go_wp2
    rw [← hQ.out]
    exact ⟨.inl ⟨HS2.out, rfl⟩, grown_of_below (below_alloc (Below.refl _ _) _) _⟩
end Go.Proofs.YtfljbidecljlcaaDoor

namespace Go.Proofs
open Go.Shelf
def Tryd.keys67_ren : Go.Shelf.Ren := ⟨fun | 7 => 67 | 10 => 77 | n => n, fun | 23 => 71 | 26 => 9 | 3 => 92 | 28 => 98 | 0 => 0 | 27 => 97 | 33 => 82 | 4 => 4 | n => n, fun | n => n⟩
theorem Tryd.keys67 : Go.Proofs.SlLaysZ.n7 Tryd.prog Tryd.keys67_ren := {
  mixed := by kernel_rfl
  f7 := ⟨Tryd.f67.name, by decide, Tryd.func67.trans (congrArg some (by kernel_rfl))⟩
  f10 := ⟨Tryd.f77.name, by decide, Tryd.func77.trans (congrArg some (by kernel_rfl))⟩
  t0 := Tryd.underlying0
  a0 := Tryd.isAgg0
  z0 := Tryd.sizeOf0
  v0 := Tryd.zeroValue0
  t4 := Tryd.underlying4
  a4 := Tryd.isAgg4
  z4 := Tryd.sizeOf4
  v4 := Tryd.zeroValue4
  t23 := Tryd.underlying71
  a23 := Tryd.isAgg71
  z23 := Tryd.sizeOf71
  v23 := Tryd.zeroValue71
  t26 := Tryd.underlying9
  a26 := Tryd.isAgg9
  z26 := Tryd.sizeOf9
  v26 := Tryd.zeroValue9
  t27 := Tryd.underlying97
  a27 := Tryd.isAgg97
  z27 := Tryd.sizeOf97
  v27 := Tryd.zeroValue97
  t28 := Tryd.underlying98
  a28 := Tryd.isAgg98
  z28 := Tryd.sizeOf98
  v28 := Tryd.zeroValue98
  t33 := Tryd.underlying82
  a33 := Tryd.isAgg82
  z33 := Tryd.sizeOf82
  v33 := Tryd.zeroValue82 }
def Tryd.sorted66_ren : Go.Shelf.Ren := ⟨fun | 6 => 66 | 8 => 75 | 9 => 76 | 11 => 84 | 13 => 86 | 12 => 85 | 23 => 103 | 24 => 104 | 14 => 94 | 15 => 95 | 16 => 96 | 17 => 97 | 18 => 98 | 19 => 99 | 20 => 100 | 21 => 101 | 22 => 102 | 25 => 110 | 26 => 111 | 27 => 112 | 28 => 113 | 29 => 114 | 30 => 115 | 31 => 123 | n => n, fun | 26 => 9 | 28 => 98 | 24 => 26 | 0 => 0 | 3 => 3 | 37 => 103 | 48 => 135 | 50 => 137 | 4 => 4 | 40 => 129 | 39 => 128 | 45 => 69 | 5 => 5 | 9 => 9 | 51 => 141 | 55 => 145 | 57 => 152 | 58 => 153 | 33 => 82 | n => n, fun | n => n⟩
theorem Tryd.sorted66 : Go.Proofs.SlLaysZ.n6 Tryd.prog Tryd.sorted66_ren := {
  mixed := by kernel_rfl
  f6 := ⟨Tryd.f66.name, by decide, Tryd.func66.trans (congrArg some (by kernel_rfl))⟩
  f8 := ⟨Tryd.f75.name, by decide, Tryd.func75.trans (congrArg some (by kernel_rfl))⟩
  f11 := ⟨Tryd.f84.name, by decide, Tryd.func84.trans (congrArg some (by kernel_rfl))⟩
  t0 := Tryd.underlying0
  a0 := Tryd.isAgg0
  z0 := Tryd.sizeOf0
  v0 := Tryd.zeroValue0
  t24 := Tryd.underlying26
  a24 := Tryd.isAgg26
  z24 := Tryd.sizeOf26
  v24 := Tryd.zeroValue26
  t26 := Tryd.underlying9
  a26 := Tryd.isAgg9
  z26 := Tryd.sizeOf9
  v26 := Tryd.zeroValue9
  t28 := Tryd.underlying98
  a28 := Tryd.isAgg98
  z28 := Tryd.sizeOf98
  v28 := Tryd.zeroValue98
  i26 := by kernel_rfl }
def Tryd.sort76_ren : Go.Shelf.Ren := ⟨fun | 6 => 76 | 8 => 86 | 9 => 85 | 19 => 103 | 20 => 104 | 21 => 94 | 22 => 95 | 23 => 96 | 24 => 97 | 25 => 98 | 26 => 99 | 27 => 100 | 28 => 101 | 29 => 102 | 36 => 110 | 31 => 111 | 32 => 112 | 37 => 113 | 38 => 114 | 39 => 115 | 41 => 123 | n => n, fun | 27 => 26 | 29 => 9 | 3 => 3 | 32 => 103 | 26 => 26 | 0 => 0 | 44 => 135 | 46 => 137 | 4 => 4 | 36 => 129 | 35 => 128 | 41 => 69 | 5 => 5 | 9 => 9 | 53 => 141 | 57 => 145 | 63 => 152 | 64 => 153 | n => n, fun | n => n⟩
theorem Tryd.sort76 : Go.Proofs.SlLaysM.n6 Tryd.prog Tryd.sort76_ren := {
  mixed := by kernel_rfl
  f6 := ⟨Tryd.f76.name, by decide, Tryd.func76.trans (congrArg some (by kernel_rfl))⟩
  f8 := Tryd.func86.trans (congrArg some (by kernel_rfl))
  f9 := ⟨Tryd.f85.name, by decide, Tryd.func85.trans (congrArg some (by kernel_rfl))⟩
  f19 := Tryd.func103.trans (congrArg some (by kernel_rfl))
  f20 := Tryd.func104.trans (congrArg some (by kernel_rfl))
  f21 := ⟨Tryd.f94.name, by decide, Tryd.func94.trans (congrArg some (by kernel_rfl))⟩
  f22 := ⟨Tryd.f95.name, by decide, Tryd.func95.trans (congrArg some (by kernel_rfl))⟩
  f23 := ⟨Tryd.f96.name, by decide, Tryd.func96.trans (congrArg some (by kernel_rfl))⟩
  f24 := ⟨Tryd.f97.name, by decide, Tryd.func97.trans (congrArg some (by kernel_rfl))⟩
  f25 := ⟨Tryd.f98.name, by decide, Tryd.func98.trans (congrArg some (by kernel_rfl))⟩
  f26 := ⟨Tryd.f99.name, by decide, Tryd.func99.trans (congrArg some (by kernel_rfl))⟩
  f27 := ⟨Tryd.f100.name, by decide, Tryd.func100.trans (congrArg some (by kernel_rfl))⟩
  f28 := ⟨Tryd.f101.name, by decide, Tryd.func101.trans (congrArg some (by kernel_rfl))⟩
  f29 := ⟨Tryd.f102.name, by decide, Tryd.func102.trans (congrArg some (by kernel_rfl))⟩
  f31 := Tryd.func111.trans (congrArg some (by kernel_rfl))
  f32 := Tryd.func112.trans (congrArg some (by kernel_rfl))
  f36 := ⟨Tryd.f110.name, by decide, Tryd.func110.trans (congrArg some (by kernel_rfl))⟩
  f37 := ⟨Tryd.f113.name, by decide, Tryd.func113.trans (congrArg some (by kernel_rfl))⟩
  f38 := ⟨Tryd.f114.name, by decide, Tryd.func114.trans (congrArg some (by kernel_rfl))⟩
  f39 := ⟨Tryd.f115.name, by decide, Tryd.func115.trans (congrArg some (by kernel_rfl))⟩
  f41 := ⟨Tryd.f123.name, by decide, Tryd.func123.trans (congrArg some (by kernel_rfl))⟩
  t0 := Tryd.underlying0
  a0 := Tryd.isAgg0
  z0 := Tryd.sizeOf0
  v0 := Tryd.zeroValue0
  t3 := Tryd.underlying3
  a3 := Tryd.isAgg3
  z3 := Tryd.sizeOf3
  v3 := Tryd.zeroValue3
  t4 := Tryd.underlying4
  a4 := Tryd.isAgg4
  z4 := Tryd.sizeOf4
  v4 := Tryd.zeroValue4
  t5 := Tryd.underlying5
  a5 := Tryd.isAgg5
  z5 := Tryd.sizeOf5
  v5 := Tryd.zeroValue5
  t9 := Tryd.underlying9
  a9 := Tryd.isAgg9
  z9 := Tryd.sizeOf9
  v9 := Tryd.zeroValue9
  t26 := Tryd.underlying26
  a26 := Tryd.isAgg26
  z26 := Tryd.sizeOf26
  v26 := Tryd.zeroValue26
  t27 := Tryd.underlying26
  a27 := Tryd.isAgg26
  z27 := Tryd.sizeOf26
  v27 := Tryd.zeroValue26
  t29 := Tryd.underlying9
  a29 := Tryd.isAgg9
  z29 := Tryd.sizeOf9
  v29 := Tryd.zeroValue9
  t32 := Tryd.underlying103
  a32 := Tryd.isAgg103
  z32 := Tryd.sizeOf103
  v32 := Tryd.zeroValue103
  t35 := Tryd.underlying128
  a35 := Tryd.isAgg128
  z35 := Tryd.sizeOf128
  v35 := Tryd.zeroValue128
  t36 := Tryd.underlying129
  a36 := Tryd.isAgg129
  z36 := Tryd.sizeOf129
  v36 := Tryd.zeroValue129
  t41 := Tryd.underlying69
  a41 := Tryd.isAgg69
  z41 := Tryd.sizeOf69
  v41 := Tryd.zeroValue69
  t44 := Tryd.underlying135
  a44 := Tryd.isAgg135
  z44 := Tryd.sizeOf135
  v44 := Tryd.zeroValue135
  t46 := Tryd.underlying137
  a46 := Tryd.isAgg137
  z46 := Tryd.sizeOf137
  v46 := Tryd.zeroValue137
  t53 := Tryd.underlying141
  a53 := Tryd.isAgg141
  z53 := Tryd.sizeOf141
  v53 := Tryd.zeroValue141
  t57 := Tryd.underlying145
  a57 := Tryd.isAgg145
  z57 := Tryd.sizeOf145
  v57 := Tryd.zeroValue145
  t63 := Tryd.underlying152
  a63 := Tryd.isAgg152
  z63 := Tryd.sizeOf152
  v63 := Tryd.zeroValue152
  t64 := Tryd.underlying153
  a64 := Tryd.isAgg153
  z64 := Tryd.sizeOf153
  v64 := Tryd.zeroValue153 }
open Go.RowKit Go.Maps Go.Sort
theorem Tryd.sorts66 (m : Nat) : AnyZ.SortsIn Tryd.prog Tryd.sorted66_ren Fence.wide m :=
  ⟨fun blk off cap ss W hH hblk hsz => callsIn_wide.2 (AnyM.slices_Sort_string Tryd.sort76 blk off cap ss W hH hblk hsz),
   fun p cap W => callsIn_wide.2 (AnyM.slices_Sort_string_none Tryd.sort76 p cap W)⟩
theorem Tryd.maps_Keys_67 (mb : Option Nat) (W : World) : CallsIn Fence.wide 5 Tryd.prog 67 #[.map mb] W fun e w' => e = .returned (.func (.func 77) #[] #[.pointer (some ⟨W.heap.size, 0, none⟩)]) ∧ w' = W.alloc (.cells #[.map mb] 71) :=
  AnyZ.keys_in Tryd.keys67 Fence.wide 5 trivial rfl mb W
set_option maxHeartbeats 1000000 in
theorem Tryd.slices_Sorted_keys_66_67 {H : Type} (b nn : Nat) (D0 : DataW H) (R : Value → Option (DataW H × List MemPlace)) (w : World) (hown : w.ownsMap Tryd.prog 9 R b nn D0) (hmax : Maps.size D0 ≤ maxLen) (hbytes : Maps.size D0 * 16 ≤ 140737488355328) :
    CallsIn Fence.wide 5 Tryd.prog 66 #[.func (.func 77) #[] #[.pointer (some ⟨w.heap.size, 0, none⟩)]] (w.alloc (.cells #[.map (some b)] 71)) fun e w' => ∃ (v : Value) (ss : List (List UInt8)), e = .returned v ∧ ss.Perm (strKeys D0) ∧
      w'.ownsRow (w.alloc (.cells #[.map (some b)] 71)).heap.size 9 1 v ss.length ((ss.mergeSort (fun x y => decide (x ≤ y))).map encStr) ∧ (v = .slice none 0 0 ↔ ss = []) ∧ Below (w.alloc (.cells #[.map (some b)] 71)).heap.size (w.alloc (.cells #[.map (some b)] 71)) w' := by
  have hbl := hown.lt
  have hseq : SeqGives Fence.wide 2 Tryd.prog 77 #[.pointer (some ⟨w.heap.size, 0, none⟩)] encStr (fun ss => ss.Perm (strKeys D0)) (Maps.size D0) (w.alloc (.cells #[.map (some b)] 71)) :=
    AnyZ.keys_gives (ρ := Tryd.keys67_ren) { Tryd.keys67 with } Fence.wide _ trivial rfl (by omega) w.heap.size b nn D0 _ (by simp) (by simp) (by
      obtain ⟨es, clock, hb, Ft, hs, hD⟩ := hown
      exact ⟨es, clock, (Below.heap_alloc _ _ b hbl).trans hb, Ft, hs, hD⟩)
  exact AnyZ.sorted_in Tryd.sorted66 Fence.wide 5 trivial trivial trivial trivial rfl (by omega) (Tryd.sorts66 _) (enters_of Tryd.func76 (by kernel_rfl) rfl) 77 #[.pointer (some ⟨w.heap.size, 0, none⟩)] trivial (enters_of Tryd.func77 (by kernel_rfl) rfl) _ _ hmax hbytes _ hseq
end Go.Proofs

namespace Go.Proofs.YtfljbidecljlcaaDoor
open Go.RowKit Go.Maps Go.Proofs.YtfljbidecljlcaaDoor.Print Go.Proofs.YtfljbidecljlcaaDoorW.PrintWords Go.Proofs.YtfljbidecljlcaaDoorW.PrintLast Go.Proofs.YtfljbidecljlcaaDoorW.PrintMore
set_option linter.unusedVariables false
set_option linter.unusedSimpArgs false
def ldF (m : Mem) (s : PS) (c : Nat) : ByteArray := if m.f2 = 48 then leadOf s c else emp
def ThingsS (w : World) (base : Nat) (l : List Mem) (B : Nat → Nat) (s : PS) : Prop := ∀ c m, l[c]? = some m → ¬ m.f2 = 49 → ThingAt w base (B c) m (ldF m s c)
theorem ThingsS.below {w w1 : World} {base : Nat} {l : List Mem} {B : Nat → Nat} {s : PS} (h : ThingsS w base l B s) (hb : Below w.heap.size w w1) : ThingsS w1 base l B s := fun c m h1 h2 => (h c m h1 h2).below hb
theorem ThingsS.grown {w w1 : World} {base g : Nat} {l : List Mem} {B : Nat → Nat} {s : PS} (h : ThingsS w base l B s) (hg : w.grownBy w1 (some g)) (ho : ∀ cs q, w.heap[g]? = some (.cells cs q (0, 0)) → q ≠ 94 ∧ q ≠ 5) : ThingsS w1 base l B s := fun c m h1 h2 => (h c m h1 h2).grown hg ho
theorem ThingsS.grown_none {w w1 : World} {base : Nat} {l : List Mem} {B : Nat → Nat} {s : PS} (h : ThingsS w base l B s) (hg : w.grownBy w1 none) : ThingsS w1 base l B s := fun c m h1 h2 => by
 obtain ⟨g0, v, hb, hR⟩ := h c m h1 h2
 exact ⟨g0, v, (hg.block _ (blk_lt' hb) (by simp)).trans hb, Kd.R_grown hR hg (fun k _ e => by cases e)⟩
theorem ld_same {m : Mem} {s : PS} {q : ByteArray × Nat} {c : Nat} (h : m.f2 = 48 → q.2 = c → s.any (fun r => decide (r.2 = c)) = true) : ldF m (s ++ [q]) c = ldF m s c := by
 unfold ldF
 by_cases h48 : m.f2 = 48
 ·rw [if_pos h48, if_pos h48, leadOf_snoc]
  by_cases ha : s.any (fun r => decide (r.2 = c)) = true
  ·rw [if_pos ha]
  ·rw [if_neg ha, if_neg (fun e => ha (h h48 e))]
   have ha' : s.any (fun r => decide (r.2 = c)) = false := Bool.eq_false_iff.2 ha
   exact (leadOf_take_none (fun q hq e => by rw [List.any_eq_false] at ha'; exact ha' q hq (decide_eq_true e))).symm
 ·rw [if_neg h48, if_neg h48]
theorem ld_new {m : Mem} {s : PS} {q : ByteArray × Nat} (h48 : m.f2 = 48) (h : s.any (fun r => decide (r.2 = q.2)) = false) : ldF m (s ++ [q]) q.2 = q.1 := by
 unfold ldF
 rw [if_pos h48, leadOf_snoc, if_neg (by rw [h]; simp), if_pos rfl]
theorem ThingsS.stay {w : World} {base : Nat} {l : List Mem} {B : Nat → Nat} {s : PS} {q : ByteArray × Nat} (h : ThingsS w base l B s) (hq : ∀ m, l[q.2]? = some m → m.f2 = 48 → s.any (fun r => decide (r.2 = q.2)) = true) : ThingsS w base l B (s ++ [q]) := fun c m h1 h2 => by
 rw [ld_same (fun h48 e => by subst e; exact hq m h1 h48)]
 exact h c m h1 h2
theorem ThingsS.store {w : World} {base : Nat} {l : List Mem} {B : Nat → Nat} {s : PS} {q : ByteArray × Nat} (h : ThingsS w base l B s) {m : Mem} (hm : l[q.2]? = some m) (h48 : m.f2 = 48) (hn : s.any (fun r => decide (r.2 = q.2)) = false)
  (hinj : ∀ c c' m m', c < c' → l[c]? = some m → ¬ m.f2 = 49 → l[c']? = some m' → ¬ m'.f2 = 49 → B c ≠ B c') : ThingsS (w.setCell ⟨B q.2, 7, none⟩ (.string q.1)) base l B (s ++ [q]) := fun c m' h1 h2 => by
 obtain ⟨_, v0, hb0, _⟩ := h q.2 m hm (by omega)
 obtain ⟨g0, v, hb, hR⟩ := h c m' h1 h2
 have hR' := Kd.R_set hR hb0 (fun k hk => by
  rcases List.mem_cons.1 hk with rfl | hk
  ·decide
  ·cases hk) 7 (.string q.1)
 by_cases e : c = q.2
 ·subst e
  rw [hm] at h1
  cases h1
  rw [ld_new h48 hn]
  exact ⟨g0, v, blk_put hb 7 _ rfl, hR'⟩
 ·rw [ld_same (fun _ e2 => absurd e2.symm e)]
  have hne : B c ≠ B q.2 := by
   rcases Nat.lt_trichotomy c q.2 with h3 | h3 | h3
   ·exact hinj _ _ _ _ h3 h1 h2 hm (by omega)
   ·exact absurd h3 e
   ·exact (hinj _ _ _ _ h3 hm (by omega) h1 h2).symm
  exact ⟨g0, v, (Below.heap_setCell w ⟨B q.2, 7, none⟩ _ _ hne).trans hb, hR'⟩
theorem nodeOf_ld {l : List Mem} {s : PS} {n : Nat} (hn : n < s.length) {m : Mem} (hm : l[s[n].2]? = some m) : nodeOf l s s[n] = ⟨s[n].1, m.f1, ldF m (s.take (n + 1)) s[n].2, m.f2, m.f3, m.f4⟩ := by
 unfold nodeOf ldF
 rw [List.getD_eq_getElem?_getD, hm, leadOf_take hn]
 rfl
def NodRel (l : List Mem) (s : PS) (base d : Nat) (B : Nat → Nat) (W : World) (vq : Value) (n : Int) (v : Value) (wr : World) : Prop :=
 0 ≤ n ∧ n ≤ (sortP s).length ∧ MapS Tryd.prog 9 wr d l.length (dirV B s) ∧ ThingsS wr base l B ((sortP s).take n.toNat) ∧ Kd.N k40 40 wr base (fun k => W.heap.size ≤ k) v (((sortP s).take n.toNat).map (nodeOf l (sortP s))) ∧
  Kd.R Kd.string 9 wr W.heap.size (fun _ => True) vq ((sortP s).map (fun q => q.1)) ∧ Below base W wr
def NodMid (l : List Mem) (s : PS) (base d : Nat) (B : Nat → Nat) (W : World) (vq : Value) (n : Int) (out : List Node) (v : Value) (wr : World) : Prop :=
 MapS Tryd.prog 9 wr d l.length (dirV B s) ∧ ThingsS wr base l B ((sortP s).take (n.toNat + 1)) ∧ Kd.N k40 40 wr base (fun k => W.heap.size ≤ k) v out ∧
  Kd.R Kd.string 9 wr W.heap.size (fun _ => True) vq ((sortP s).map (fun q => q.1)) ∧ Below base W wr
theorem mid_next {l : List Mem} {s : PS} {base d : Nat} {B : Nat → Nat} {W wm w5 w6 : World} {vq v v6 : Value} {n : Int} (h0 : 0 ≤ n) (hn : n.toNat < (sortP s).length) {out : List Node} (hout : ((sortP s).take n.toNat).map (nodeOf l (sortP s)) = out) (h : NodMid l s base d B W vq n out v wm) (hb5 : Below wm.heap.size wm w5) (hg : w5.grownBy w6 v.ownBlock) (hd : d < W.heap.size) (hbase : base ≤ W.heap.size) (hw : W.heap.size ≤ wm.heap.size)
  (hN : Kd.N k40 40 w6 base (fun k => W.heap.size ≤ k) v6 (out ++ [nodeOf l (sortP s) ((sortP s)[n.toNat])])) (hB : Below base W w6) : NodRel l s base d B W vq (n + 1) v6 w6 := by
 obtain ⟨hM, hT, hNv, hR, hBm⟩ := h
 have hNv5 := Kd.N_below hNv hb5
 have e1 : (n + 1).toNat = n.toNat + 1 := by omega
 have hown : ∀ k, v.ownBlock = some k → W.heap.size ≤ k := fun k hk => hNv5.1 k hk
 refine ⟨by omega, by omega, (hM.below hb5).kept hg (fun e => by have := hown d e.symm; omega), ?_, ?_, ?_, hB⟩
 ·rw [e1]
  cases hv : v.ownBlock with
  | none => exact (hT.below hb5).grown_none (by rw [hv] at hg; exact hg)
  | some g =>
   rw [hv] at hg
   refine (hT.below hb5).grown hg (fun cs q hc => ?_)
   obtain ⟨cs', hc'⟩ := Kd.N_typed hNv5 g hv
   rw [hc'] at hc
   injection hc with hc
   injection hc with _ hc
   subst hc
   decide
 ·rw [e1, List.take_succ_eq_append_getElem hn, List.map_append, hout]
  exact hN
 ·have hR5 := Kd.R_below hR hb5
  refine Kd.R_mono (Kd.R_grown (Kd.R_bound hR5) hg (fun k hk e => ?_)) (fun _ _ => trivial)
  obtain ⟨_, _, _, q, hq, cs, hc⟩ := hk
  obtain ⟨cs', hc'⟩ := Kd.N_typed hNv5 k e.symm
  rw [hc'] at hc
  injection hc with hc
  injection hc with _ hc
  rcases List.mem_cons.1 hq with h | h
  ·rw [h] at hc; exact absurd hc (by decide)
  ·cases h
theorem thing_soft {w : World} {b : Nat} {m : Mem} {v : Value} {ld : ByteArray} (h : w.heap[b]? = some (.cells (thingCells m v ld) 94 (0, 0))) (j : Nat) : w.frozen? ⟨b, j, none⟩ = false := by
 unfold World.frozen?
 dsimp only
 rw [h]
 rfl
theorem sorted_row {w : World} {b : Nat} {v : Value} {ss : List (List UInt8)} {s : PS} (h : w.ownsRow b 9 1 v ss.length ((ss.mergeSort (fun x y => decide (x ≤ y))).map encStr)) (hp : ss.Perm (keysP s)) (hn : (s.map (fun q => q.1)).Nodup) :
  (∃ A c, v = .slice A (sortP s).length c) ∧ Kd.R Kd.string 9 w b (fun _ => True) v ((sortP s).map (fun q => q.1)) := by
 have hR : Kd.R Kd.string 9 w b (fun _ => True) v ((sortP s).map (fun q => q.1)) := by
  refine Kd.R_of_own ?_ (fun _ _ => trivial)
  rw [keys_sorted hn hp] at h
  have e1 : ss.length = ((sortP s).map (fun q => q.1)).length := by rw [hp.length_eq, List.length_map, sortP_len]; unfold keysP; rw [List.length_map]
  rw [e1] at h
  have e2 : (keysP (sortP s)).map encStr = encs Value.string ((sortP s).map (fun q => q.1)) := by
   unfold keysP encs
   rw [List.map_map, List.map_map]
   refine List.map_congr_left (fun q _ => ?_)
   simp [encStr]
  rw [e2] at h
  exact h
 obtain ⟨A, c, e⟩ := Kd.R_slice hR
 exact ⟨⟨A, c, by rw [e, List.length_map]⟩, hR⟩
theorem made_N (W : World) (base n : Nat) (cur : Array Value) (hb : base ≤ W.heap.size) (hc : cur.size = n * 9) (hn : n ≤ maxLen) : Kd.N k40 40 (W.alloc (.cells cur 40)) base (fun k => W.heap.size ≤ k) (.slice (some ⟨W.heap.size, 0, none⟩) 0 n) [] :=
 ⟨fun k hk => by simp [Value.ownBlock] at hk; omega, [], rfl, ⟨fun k hk => hk.symm, [], World.ownsRow_made W cur n hb hn hc, Reps.none _ _⟩, fun j x c h => by simp at h⟩
theorem drew_below {w wq : World} (h : w.drew = wq) : Below w.heap.size w wq := by rw [← h]; exact below_drew (Below.refl _ _)
theorem rcell' {W w1 : World} {row : Option Nat} (hg : W.grownBy w1 row) {g o : Nat} {v : Value} (hne : some g ≠ row) (h : W.cell? ⟨g, o, none⟩ = some v) : w1.cell? ⟨g, o, none⟩ = some v := (World.cell?_of_block (a := ⟨g, o, none⟩) (hg.block g (World.block_lt_of_cell? W _ h) hne)).trans h
set_option maxRecDepth 100000 in
set_option maxHeartbeats 8000000 in
theorem Nodes_calls (base d : Nat) (l : List Mem) (s : PS) (B : Nat → Nat) (W : World) (hlen : l.length ≤ 1000000000000) (hz : ∀ m ∈ l, m.f4.length ≤ 140737488351232) (hD : DirS W base d l.length l s B) (hI : FInv l l.length s) (hbase : base ≤ W.heap.size) :
  Calls Tryd.prog 47 #[.map (some d)] W fun e W' => ∃ v, e = .returned v ∧ Kd.N k40 40 W' base (fun k => W.heap.size ≤ k) v ((sortP s).map (nodeOf l (sortP s))) ∧ Below base W W' := by
 have hdlt : d < W.heap.size := hD.1.lt
 have hsle : s.length ≤ 1000000000000 := by have := hI.len; omega
 have hsl : ((sortP s).length : Int) ≤ 1000000000000 := by rw [sortP_len]; omega
 have hkeys : ∀ w, MapS Tryd.prog 9 w d l.length (dirV B s) → ∃ D : DataW Value, w.ownsMap Tryd.prog 9 heldE d l.length D ∧ (keysP s).Perm (strKeys D) ∧ Maps.size D = s.length := fun w h => by
  obtain ⟨D, h1, h2, h3⟩ := h.keys Tryd.underlying9 (keysP_nodup hI.nodup) (fun k => by rw [atD_is]; unfold dirV; cases atD s k <;> rfl)
  exact ⟨D, h1, h2, by rw [h3]; unfold keysP; rw [List.length_map]⟩
 obtain ⟨D0, hown0, hperm0, hsz0⟩ := hkeys W hD.1
 obtain ⟨i0, hi0, hzz⟩ := Option.map_eq_some_iff.1 info40
 simp only [Prod.mk.injEq] at hzz
 have hmk := fun w : World => run_make (P := Tryd.prog) w 22 40 i0 _ Tryd.underlying22 hi0 hzz.1 .i64 .i64 0 (s.length : Int) (by omega) (by omega) (by rw [hzz.2.2]; omega) (by omega)
 rw [hzz.2.1] at hmk
 simp only [Int.toNat_zero, Int.toNat_natCast] at hmk
 generalize hcur : madeCells _ (s.length * 9) = cur at hmk
 have hcs : cur.size = s.length * 9 := by rw [← hcur]; exact size_madeCells _ _
 obtain ⟨D1, hown1, hperm1, hsz1⟩ := hkeys (W.alloc (.cells cur 40)) (hD.1.alloc _)
 have hN0 := made_N W base s.length cur hbase hcs (by unfold maxLen; omega)
 have hcS := callsIn_wide.1 (Tryd.slices_Sorted_keys_66_67 d l.length D1 heldE _ hown1 (by rw [hsz1]; unfold maxLen; omega) (by rw [hsz1]; omega))
 simp only [World.size_alloc] at hcS
 have HCS := Aside0.mk hcS
 have HKK := Aside0.mk hperm1
 have HN0 := Aside0.mk hN0
 have HD := Aside0.mk hD
 have HI := Aside0.mk hI
 have HZ := Aside0.mk hz
 have HO0 := Aside0.mk hown0
 have HS0 := Aside0.mk hsz0
 clear hkeys hown0 hperm0 hsz0 hi0 hzz hcur hcs hown1 hperm1 hsz1 hN0 hD hI hz hcS
 generalize hpost : (fun (e : Ending) (W' : World) => ∃ v, e = .returned v ∧ Kd.N k40 40 W' base (fun k => W.heap.size ≤ k) v ((sortP s).map (nodeOf l (sortP s))) ∧ Below base W W') = Q
 have hQ := Aside0.mk hpost
 clear hpost
 go_enter Tryd.func47, Tryd.ntmps47
 go_wp2_with (first
  | (at_len; refine wpList_len_own _ rfl _ 71 rfl 9 92 Tryd.underlying71 heldE d l.length D0 rfl HO0.out ?_; rw [HS0.out])
  | (go_at_call 67; refine (callsIn_wide.1 (Tryd.maps_Keys_67 _ _)).mono ?_; rintro e w' ⟨rfl, rfl⟩)
  | (go_at_call 66; refine HCS.out.mono ?_; rintro e w2 ⟨vq, ss, rfl, hS, hrow, hnil, hb2⟩; obtain ⟨⟨Aq, cq, rfl⟩, hRq⟩ := sorted_row hrow (hS.trans HKK.out.symm) HI.out.nodup; have HRq := Aside0.mk hRq; have HB2 := Aside0.mk hb2; clear hS hrow hnil hb2 hRq))
 have hBA := below_alloc (below_alloc (Below.refl W.heap.size W) (Obj.cells cur 40)) (Obj.cells #[Value.map (some d)] 71)
 have hB2 : Below W.heap.size W w2 := hBA.trans (HB2.out.mono (by omega))
 have hstart : NodRel l s base d B W (.slice Aq (sortP s).length cq) 0 (.slice (some ⟨W.heap.size, 0, none⟩) 0 s.length) w2 := by
  refine ⟨by omega, by omega, HD.out.1.below hB2, fun c m h1 h2 => ?_, Kd.N_below (Kd.N_alloc HN0.out _) (by rw [World.size_alloc, World.size_alloc]; exact HB2.out), Kd.R_lower HRq.out (by omega), hB2.mono hbase⟩
  have := (HD.out.2.1 c m h1 (List.getElem?_eq_some_iff.1 h1).1 h2).below hB2
  have e : ldF m ((sortP s).take (0 : Int).toNat) c = emp := by unfold ldF; split <;> rfl
  rw [e]
  exact this
 have HST := Aside0.mk hstart
 clear hstart hB2 hBA HRq HB2
 go_loopw [14, 3] (fun i o wr => ∃ n : Int, i = .int .i64 n ∧ Aside0 (NodRel l s base d B W (.slice Aq (sortP s).length cq) n o wr)) (fun i _ _ => ((sortP s).length - (intOf i)).toNat)
 case atStart => exact ⟨0, rfl, HST⟩
 case round =>
  obtain ⟨n, rfl, HR⟩ := hrel
  have h0 := HR.out.1
  have h1 := HR.out.2.1
  have HW : Aside0 (W.heap.size ≤ wr.heap.size) := ⟨HR.out.2.2.2.2.2.2.size⟩
  have hNv := HR.out.2.2.2.2.1
  generalize hout : ((sortP s).take n.toNat).map (nodeOf l (sortP s)) = out at hNv
  obtain ⟨Ao, co, rfl⟩ := Kd.N_slice hNv
  have hol : out.length = n.toNat := by rw [← hout, List.length_map, List.length_take]; omega
  have HOL := Aside0.mk hol
  have HOUT := Aside0.mk hout
  have HNV := Aside0.mk hNv
  clear hol hout hNv
  by_cases hlt : n < ((sortP s).length : Int)
  ·have c1b : decide (n < ((sortP s).length : Int)) = true := decide_eq_true hlt
   have hnl : n.toNat < (sortP s).length := by omega
   have hqm : (sortP s)[n.toNat] ∈ s := (sortP_perm s).mem_iff.1 (List.getElem_mem _)
   obtain ⟨hc, m, hm, h49⟩ := HI.out.cls _ hqm
   have hfull := HI.out.full _ hqm
   have hps : ((sortP s)[n.toNat]).1.size ≤ maxLen := by have := HI.out.small _ hqm; unfold maxLen; omega
   have hat := atD_of_mem HI.out.nodup hqm
   have hCq := (Kd.R_reads' HR.out.2.2.2.2.2.1).2.2
   rw [List.length_map] at hCq
   obtain ⟨ad, hAq, x0⟩ := Kd.at_string hCq n h0 hlt
   have hx : rdOf ByteArray.empty ((sortP s).map (fun q => q.1)) n = (sortP s)[n.toNat].1 := by
    unfold rdOf
    rw [List.getD_eq_getElem?_getD, List.getElem?_map, List.getElem?_eq_getElem hnl]
    rfl
   rw [hx] at x0
   cases hAq
   have hdv : dirV B s (sortP s)[n.toNat].1.data.toList = some (.pointer (some ⟨B (sortP s)[n.toNat].2, 0, none⟩)) := by unfold dirV; rw [hat]; rfl
   have hlook := HR.out.2.2.1.look Tryd.underlying9 Tryd.underlying71 (zeroThing _) hps
   rw [hdv] at hlook
   simp only [Option.getD_some] at hlook
   have htk := List.take_succ_eq_append_getElem hnl
   have hnode := nodeOf_ld hnl hm
   have hTs := HR.out.2.2.2.1
   obtain ⟨hg0, v, hblk, hRb⟩ := hTs _ m hm h49
   generalize hqe : (sortP s)[n.toNat] = q at hqm hc hm hfull hps hat x0 hdv hlook htk hnode hblk hRb hg0
   obtain ⟨hk0, hk1, hk2, hk3, hk4, hk5, hk6, hk7⟩ := thing_cells hblk
   have hfz := thing_soft hblk 7
   have HTK := Aside0.mk htk
   have HND := Aside0.mk hnode
   have HM := Aside0.mk hm
   have H49 := Aside0.mk h49
   have HQE := Aside0.mk hqe
   have HFU := Aside0.mk hfull
   have hBlt := blk_lt' hblk
   have hmid : ∀ wm, (wm = wr ∧ (m.f2 = 48 → ((sortP s).take n.toNat).any (fun r => decide (r.2 = q.2)) = true) ∨ wm = wr.setCell ⟨B q.2, 7, none⟩ (.string q.1) ∧ m.f2 = 48 ∧ ((sortP s).take n.toNat).any (fun r => decide (r.2 = q.2)) = false) →
     NodMid l s base d B W (.slice (some ad) (sortP s).length cq) n out (.slice Ao out.length co) wm ∧ wr.heap.size = wm.heap.size := by
    rintro wm (⟨rfl, h⟩ | ⟨rfl, h48, h⟩)
    ·refine ⟨⟨HR.out.2.2.1, ?_, HNV.out, HR.out.2.2.2.2.2.1, HR.out.2.2.2.2.2.2⟩, rfl⟩
     rw [HTK.out]
     exact hTs.stay (fun m' hm' h48 => by rw [HM.out] at hm'; cases hm'; exact h h48)
    ·refine ⟨⟨HR.out.2.2.1.setCell (a := ⟨B q.2, 7, none⟩) (fun e => ?_) _, ?_, Kd.N_far HNV.out (p := ⟨B q.2, 7, none⟩) (fun k hk e => ?_) _, Kd.R_set HR.out.2.2.2.2.2.1 hblk (fun k hk => ?_) 7 _, HR.out.2.2.2.2.2.2.setCell (p := ⟨B q.2, 7, none⟩) hg0 _⟩, (World.size_setCell _ _ _).symm⟩
     ·have e' : d = B q.2 := e
      rw [← e'] at hblk
      exact HR.out.2.2.1.isMap _ _ hblk
     ·rw [HTK.out]
      exact hTs.store HM.out h48 h (fun c c' m1 m2 h1 h2 h3 h4 h5 => HD.out.2.2 c c' m1 m2 h1 (List.getElem?_eq_some_iff.1 h4).1 h2 h3 h4 h5)
     ·have e' : k = B q.2 := e
      have h8 : B q.2 < W.heap.size := (HD.out.2.1 _ m HM.out (List.getElem?_eq_some_iff.1 HM.out).1 H49.out).lt
      omega
     ·rcases List.mem_cons.1 hk with rfl | hk
      ·decide
      ·cases hk
   have HMID := Aside0.mk hmid
   have hlf := leadOf_full (s := (sortP s).take n.toNat) (fun r hr => HI.out.full r ((sortP_perm s).mem_iff.1 (List.mem_of_mem_take hr))) q.2
   have HLF := Aside0.mk hlf
   clear hqm hc hm hat hdv htk hnode hTs hRb hqe hfull hmid hlf hCq hx hblk h49
   by_cases h48 : m.f2 = 48
   ·have e48 : (m.f2 == 48) = true := beq_iff_eq.2 h48
    have eld : ldF m ((sortP s).take n.toNat) q.2 = leadOf ((sortP s).take n.toNat) q.2 := by unfold ldF; rw [if_pos h48]
    rw [eld] at hk7
    generalize hld : leadOf ((sortP s).take n.toNat) q.2 = ld0 at hk7
    have H48 := Aside0.mk h48
    have HLD := Aside0.mk hld
    clear h48 eld hld
    cases ha : ((sortP s).take n.toNat).any (fun r => decide (r.2 = q.2)) with
    | true =>
     have hne : (ld0.toList == []) = false := by rw [beq_eq_false_iff_ne, ← HLD.out]; intro e; rw [HLF.out.1 e] at ha; cases ha
     have hne2 : ld0.toList ≠ [] := by simpa using hne
     obtain ⟨hmid, hwz⟩ := HMID.out wr (.inl ⟨rfl, fun _ => ha⟩)
     have HMM := Aside0.mk hmid
     clear ha hmid
     go_upto_region 8 with (fail)
     obtain ⟨_, vb, hbm, hRm⟩ := HMM.out.2.1 q.2 m HM.out H49.out
     obtain ⟨Ab, cb, rfl, hlb, hCb⟩ := Kd.R_reads hRm
     rw [HTK.out] at hbm
     generalize hldn : ldF m ((sortP s).take n.toNat ++ [q]) q.2 = ldn at hbm
     obtain ⟨j0, j1, j2, j3, j4, j5, j6, j7⟩ := thing_cells hbm
     have HCB := Aside0.mk hCb
     have HLB := Aside0.mk hlb
     have HLN := Aside0.mk hldn
     have HBM := Aside0.mk hbm
     have hwlt : W.heap.size ≤ wr.heap.size := HW.out
     clear hRm hCb hlb hldn hbm hk0 hk1 hk2 hk3 hk4 hk5 hk6 hk7
     refine start_ (n := 27) (S := fun w' => w'.cell? ⟨B q.2, 0, none⟩ = some (.int .u8 m.f2) ∧ w'.cell? ⟨B q.2, 1, none⟩ = some (.int .i64 m.f3.f0) ∧ w'.cell? ⟨B q.2, 2, none⟩ = some (.int .i64 m.f3.f1) ∧ w'.cell? ⟨B q.2, 3, none⟩ = some (.int .i64 m.f3.f2) ∧ w'.cell? ⟨B q.2, 4, none⟩ = some (.int .i64 m.f3.f3) ∧ w'.cell? ⟨B q.2, 5, none⟩ = some (.string m.f1) ∧ w'.cell? ⟨B q.2, 6, none⟩ = some (.slice Ab m.f4.length cb) ∧ w'.cell? ⟨B q.2, 7, none⟩ = some (.string ldn)) (ds := []) #[false, false, false, false, false, false, false, false, false, false, false, false, false, false, false, false, false, false, false, false, false, false, false, false, false, false, false] (by kernel_rfl) rfl rfl ⟨j0, j1, j2, j3, j4, j5, j6, j7⟩ (fun hHeld => ?_)
     generalize hwq : World.drew _ = wq at hHeld ⊢
     have hzq : wr.heap.size = wq.heap.size := by rw [← hwq]; exact hwz
     have HNQ : Aside0 (Kd.N k40 40 wq base (fun k => W.heap.size ≤ k) (.slice Ao out.length co) out) := ⟨by rw [← hwq]; exact Kd.N_drew HMM.out.2.2.1⟩
     have HBQ : Aside0 (Below base W wq) := ⟨by rw [← hwq]; exact below_drew HMM.out.2.2.2.2⟩
     have HOB := Aside0.mk (Kd.N_lt HNQ.out)
     have HNE : Aside0 (∀ w5 : World, Below wq.heap.size wq w5 → some (B q.2) ≠ (Value.slice Ao out.length co).ownBlock) := ⟨fun w5 hb => Kd.N_ne (cells := thingCells m (.slice Ab m.f4.length cb) ldn) (t := 94) HNQ.out (by rw [← hwq]; exact HBM.out) (by decide)⟩
     refine pure_ (i := 0) (N := some 37) (v := ?_) (a' := ?_) #[true, false, false, false, false, false, false, false, false, false, false, false, false, false, false, false, false, false, false, false, false, false, false, false, false, false, false] rfl rfl (by kernel_rfl) (fun _ _ _ h => h) (Or.inl ⟨by rfl, ?_⟩) ?_ ?_
     rotate_left
     ·intro w'
      go_simp
      with_reducible rfl
     rotate_left
     ·simp only [Act.put, List.setIfInBounds_toArray, List.set_cons_zero, List.set_cons_succ, i64_w, i32_w]
      rfl
     refine pure_ (i := 1) (N := some 38) (v := ?_) (a' := ?_) #[true, true, false, false, false, false, false, false, false, false, false, false, false, false, false, false, false, false, false, false, false, false, false, false, false, false, false] rfl rfl (by kernel_rfl) (fun _ _ _ h => h) (Or.inl ⟨by rfl, ?_⟩) ?_ ?_
     rotate_left
     ·intro w'
      go_simp
      with_reducible rfl
     rotate_left
     ·simp only [Act.put, List.setIfInBounds_toArray, List.set_cons_zero, List.set_cons_succ, i64_w, i32_w]
      rfl
     refine pure_ (i := 2) (N := some 39) (v := ?_) (a' := ?_) #[true, true, true, false, false, false, false, false, false, false, false, false, false, false, false, false, false, false, false, false, false, false, false, false, false, false, false] rfl rfl (by kernel_rfl) (fun _ _ _ h => h) (Or.inl ⟨by rfl, ?_⟩) ?_ ?_
     rotate_left
     ·intro w'
      go_simp
      with_reducible rfl
     rotate_left
     ·simp only [Act.put, List.setIfInBounds_toArray, List.set_cons_zero, List.set_cons_succ, i64_w, i32_w]
      rfl
     refine pure_ (i := 3) (N := some 40) (v := ?_) (a' := ?_) #[true, true, true, true, false, false, false, false, false, false, false, false, false, false, false, false, false, false, false, false, false, false, false, false, false, false, false] rfl rfl (by kernel_rfl) (fun _ _ _ h => h) (Or.inl ⟨by rfl, ?_⟩) ?_ ?_
     rotate_left
     ·intro w'
      go_simp
      with_reducible rfl
     rotate_left
     ·simp only [Act.put, List.setIfInBounds_toArray, List.set_cons_zero, List.set_cons_succ, i64_w, i32_w]
      rfl
     refine pure_ (i := 4) (N := some 41) (v := ?_) (a' := ?_) #[true, true, true, true, true, false, false, false, false, false, false, false, false, false, false, false, false, false, false, false, false, false, false, false, false, false, false] rfl rfl (by kernel_rfl) (fun _ _ _ h => h) (Or.inl ⟨by rfl, ?_⟩) ?_ ?_
     rotate_left
     ·intro w'
      go_simp
      with_reducible rfl
     rotate_left
     ·simp only [Act.put, List.setIfInBounds_toArray, List.set_cons_zero, List.set_cons_succ, i64_w, i32_w]
      rfl
     refine take_ (i := 5) (N := some 42) (v := ?_) (a' := ?_) #[true, true, true, true, true, true, false, false, false, false, false, false, false, false, false, false, false, false, false, false, false, false, false, false, false, false, false] rfl rfl (by kernel_rfl) (fun _ _ _ h => h) (Or.inl ⟨by rfl, ?_⟩) hHeld ?_ ?_
     rotate_left
     ·rintro w' ⟨s0, s1, s2, s3, s4, s5, s6, s7⟩
      go_simp
      with_reducible rfl
     rotate_left
     ·simp only [Act.put, List.setIfInBounds_toArray, List.set_cons_zero, List.set_cons_succ, i64_w, i32_w]
      rfl
     refine pure_ (i := 6) (N := some 43) (v := ?_) (a' := ?_) #[true, true, true, true, true, true, true, false, false, false, false, false, false, false, false, false, false, false, false, false, false, false, false, false, false, false, false] rfl rfl (by kernel_rfl) (fun _ _ _ h => h) (Or.inl ⟨by rfl, ?_⟩) ?_ ?_
     rotate_left
     ·intro w'
      go_simp
      with_reducible rfl
     rotate_left
     ·simp only [Act.put, List.setIfInBounds_toArray, List.set_cons_zero, List.set_cons_succ, i64_w, i32_w]
      rfl
     refine pure_ (i := 7) (N := some 44) (v := ?_) (a' := ?_) #[true, true, true, true, true, true, true, true, false, false, false, false, false, false, false, false, false, false, false, false, false, false, false, false, false, false, false] rfl rfl (by kernel_rfl) (fun _ _ _ h => h) (Or.inl ⟨by rfl, ?_⟩) ?_ ?_
     rotate_left
     ·intro w'
      go_simp
      with_reducible rfl
     rotate_left
     ·simp only [Act.put, List.setIfInBounds_toArray, List.set_cons_zero, List.set_cons_succ, i64_w, i32_w]
      rfl
     refine pure_ (i := 8) (N := some 45) (v := ?_) (a' := ?_) #[true, true, true, true, true, true, true, true, true, false, false, false, false, false, false, false, false, false, false, false, false, false, false, false, false, false, false] rfl rfl (by kernel_rfl) (fun _ _ _ h => h) (Or.inl ⟨by rfl, ?_⟩) ?_ ?_
     rotate_left
     ·intro w'
      go_simp
      with_reducible rfl
     rotate_left
     ·simp only [Act.put, List.setIfInBounds_toArray, List.set_cons_zero, List.set_cons_succ, i64_w, i32_w]
      rfl
     refine take_ (i := 9) (N := some 46) (v := ?_) (a' := ?_) #[true, true, true, true, true, true, true, true, true, true, false, false, false, false, false, false, false, false, false, false, false, false, false, false, false, false, false] rfl rfl (by kernel_rfl) (fun _ _ _ h => h) (Or.inl ⟨by rfl, ?_⟩) hHeld ?_ ?_
     rotate_left
     ·rintro w' ⟨s0, s1, s2, s3, s4, s5, s6, s7⟩
      go_simp
      with_reducible rfl
     rotate_left
     ·simp only [Act.put, List.setIfInBounds_toArray, List.set_cons_zero, List.set_cons_succ, i64_w, i32_w]
      rfl
     refine pure_ (i := 10) (N := some 47) (v := ?_) (a' := ?_) #[true, true, true, true, true, true, true, true, true, true, true, false, false, false, false, false, false, false, false, false, false, false, false, false, false, false, false] rfl rfl (by kernel_rfl) (fun _ _ _ h => h) (Or.inl ⟨by rfl, ?_⟩) ?_ ?_
     rotate_left
     ·intro w'
      go_simp
      with_reducible rfl
     rotate_left
     ·simp only [Act.put, List.setIfInBounds_toArray, List.set_cons_zero, List.set_cons_succ, i64_w, i32_w]
      rfl
     refine pure_ (i := 11) (N := some 48) (v := ?_) (a' := ?_) #[true, true, true, true, true, true, true, true, true, true, true, true, false, false, false, false, false, false, false, false, false, false, false, false, false, false, false] rfl rfl (by kernel_rfl) (fun _ _ _ h => h) (Or.inl ⟨by rfl, ?_⟩) ?_ ?_
     rotate_left
     ·intro w'
      go_simp
      with_reducible rfl
     rotate_left
     ·simp only [Act.put, List.setIfInBounds_toArray, List.set_cons_zero, List.set_cons_succ, i64_w, i32_w]
      rfl
     refine pure_ (i := 12) (N := some 49) (v := ?_) (a' := ?_) #[true, true, true, true, true, true, true, true, true, true, true, true, true, false, false, false, false, false, false, false, false, false, false, false, false, false, false] rfl rfl (by kernel_rfl) (fun _ _ _ h => h) (Or.inl ⟨by rfl, ?_⟩) ?_ ?_
     rotate_left
     ·intro w'
      go_simp
      with_reducible rfl
     rotate_left
     ·simp only [Act.put, List.setIfInBounds_toArray, List.set_cons_zero, List.set_cons_succ, i64_w, i32_w]
      rfl
     refine take_ (i := 13) (N := some 50) (v := ?_) (a' := ?_) #[true, true, true, true, true, true, true, true, true, true, true, true, true, true, false, false, false, false, false, false, false, false, false, false, false, false, false] rfl rfl (by kernel_rfl) (fun _ _ _ h => h) (Or.inl ⟨by rfl, ?_⟩) hHeld ?_ ?_
     rotate_left
     ·rintro w' ⟨s0, s1, s2, s3, s4, s5, s6, s7⟩
      go_simp
      with_reducible rfl
     rotate_left
     ·simp only [Act.put, List.setIfInBounds_toArray, List.set_cons_zero, List.set_cons_succ, i64_w, i32_w]
      rfl
     refine pure_ (i := 14) (N := some 51) (v := ?_) (a' := ?_) #[true, true, true, true, true, true, true, true, true, true, true, true, true, true, true, false, false, false, false, false, false, false, false, false, false, false, false] rfl rfl (by kernel_rfl) (fun _ _ _ h => h) (Or.inl ⟨by rfl, ?_⟩) ?_ ?_
     rotate_left
     ·intro w'
      go_simp
      with_reducible rfl
     rotate_left
     ·simp only [Act.put, List.setIfInBounds_toArray, List.set_cons_zero, List.set_cons_succ, i64_w, i32_w]
      rfl
     refine pure_ (i := 15) (N := some 52) (v := ?_) (a' := ?_) #[true, true, true, true, true, true, true, true, true, true, true, true, true, true, true, true, false, false, false, false, false, false, false, false, false, false, false] rfl rfl (by kernel_rfl) (fun _ _ _ h => h) (Or.inl ⟨by rfl, ?_⟩) ?_ ?_
     rotate_left
     ·intro w'
      go_simp
      with_reducible rfl
     rotate_left
     ·simp only [Act.put, List.setIfInBounds_toArray, List.set_cons_zero, List.set_cons_succ, i64_w, i32_w]
      rfl
     refine pure_ (i := 16) (N := some 53) (v := ?_) (a' := ?_) #[true, true, true, true, true, true, true, true, true, true, true, true, true, true, true, true, true, false, false, false, false, false, false, false, false, false, false] rfl rfl (by kernel_rfl) (fun _ _ _ h => h) (Or.inl ⟨by rfl, ?_⟩) ?_ ?_
     rotate_left
     ·intro w'
      go_simp
      with_reducible rfl
     rotate_left
     ·simp only [Act.put, List.setIfInBounds_toArray, List.set_cons_zero, List.set_cons_succ, i64_w, i32_w]
      rfl
     refine take_ (i := 17) (N := some 54) (v := ?_) (a' := ?_) #[true, true, true, true, true, true, true, true, true, true, true, true, true, true, true, true, true, true, false, false, false, false, false, false, false, false, false] rfl rfl (by kernel_rfl) (fun _ _ _ h => h) (Or.inl ⟨by rfl, ?_⟩) hHeld ?_ ?_
     rotate_left
     ·rintro w' ⟨s0, s1, s2, s3, s4, s5, s6, s7⟩
      go_simp
      with_reducible rfl
     rotate_left
     ·simp only [Act.put, List.setIfInBounds_toArray, List.set_cons_zero, List.set_cons_succ, i64_w, i32_w]
      rfl
     refine pure_ (i := 18) (N := some 55) (v := ?_) (a' := ?_) #[true, true, true, true, true, true, true, true, true, true, true, true, true, true, true, true, true, true, true, false, false, false, false, false, false, false, false] rfl rfl (by kernel_rfl) (fun _ _ _ h => h) (Or.inl ⟨by rfl, ?_⟩) ?_ ?_
     rotate_left
     ·intro w'
      go_simp
      with_reducible rfl
     rotate_left
     ·simp only [Act.put, List.setIfInBounds_toArray, List.set_cons_zero, List.set_cons_succ, i64_w, i32_w]
      rfl
     refine pure_ (i := 19) (N := some 56) (v := ?_) (a' := ?_) #[true, true, true, true, true, true, true, true, true, true, true, true, true, true, true, true, true, true, true, true, false, false, false, false, false, false, false] rfl rfl (by kernel_rfl) (fun _ _ _ h => h) (Or.inl ⟨by rfl, ?_⟩) ?_ ?_
     rotate_left
     ·intro w'
      go_simp
      with_reducible rfl
     rotate_left
     ·simp only [Act.put, List.setIfInBounds_toArray, List.set_cons_zero, List.set_cons_succ, i64_w, i32_w]
      rfl
     refine pure_ (i := 20) (N := some 57) (v := ?_) (a' := ?_) #[true, true, true, true, true, true, true, true, true, true, true, true, true, true, true, true, true, true, true, true, true, false, false, false, false, false, false] rfl rfl (by kernel_rfl) (fun _ _ _ h => h) (Or.inl ⟨by rfl, ?_⟩) ?_ ?_
     rotate_left
     ·intro w'
      go_simp
      with_reducible rfl
     rotate_left
     ·simp only [Act.put, List.setIfInBounds_toArray, List.set_cons_zero, List.set_cons_succ, i64_w, i32_w]
      rfl
     refine take_ (i := 21) (N := some 58) (v := ?_) (a' := ?_) #[true, true, true, true, true, true, true, true, true, true, true, true, true, true, true, true, true, true, true, true, true, true, false, false, false, false, false] rfl rfl (by kernel_rfl) (fun _ _ _ h => h) (Or.inl ⟨by rfl, ?_⟩) hHeld ?_ ?_
     rotate_left
     ·rintro w' ⟨s0, s1, s2, s3, s4, s5, s6, s7⟩
      go_simp
      with_reducible rfl
     rotate_left
     ·simp only [Act.put, List.setIfInBounds_toArray, List.set_cons_zero, List.set_cons_succ, i64_w, i32_w]
      rfl
     refine one_ (i := 22) (N := some 59) #[true, true, true, true, true, true, true, true, true, true, true, true, true, true, true, true, true, true, true, true, true, true, true, false, false, false, false] rfl rfl (by kernel_rfl) (by decide) (fun K hK => ?_)
     refine goes_ Tryd.func59 (by kernel_rfl) rfl #[.slice Ab m.f4.length cb] (by rfl) rfl rfl (by first | rfl | (simp [Act.eval]; done)) ?_
     refine (Clone_calls Ab cb m.f4 wq (by rw [← hwq]; exact Kd.C_drew HCB.out) (HZ.out m (List.mem_of_getElem? HM.out))).mono ?_
     rintro e w5 ⟨v5, rfl, hR5, hb5⟩
     obtain ⟨Av, cv, rfl, hlv, hCv⟩ := Kd.R_reads hR5
     refine ⟨_, rfl, ?_⟩
     refine hK.out _ _ ⟨fkeep hb5 hHeld.1, fkeep hb5 hHeld.2.1, fkeep hb5 hHeld.2.2.1, fkeep hb5 hHeld.2.2.2.1, fkeep hb5 hHeld.2.2.2.2.1, fkeep hb5 hHeld.2.2.2.2.2.1, fkeep hb5 hHeld.2.2.2.2.2.2.1, fkeep hb5 hHeld.2.2.2.2.2.2.2⟩ (fun hHeld2 => ?_)
     clear hK K
     have HR5 := Aside0.mk hR5
     have HB5 := Aside0.mk hb5
     have HLV := Aside0.mk hlv
     clear hR5 hCv hlv
     refine norm_ (a' := ?_) ?_ ?_
     rotate_left
     ·show Act.put _ (some 59) _ = _
      simp only [Act.put, List.setIfInBounds_toArray, List.set_cons_zero, List.set_cons_succ, i64_w, i32_w]
      rfl
     refine pure_ (i := 23) (N := some 60) (v := ?_) (a' := ?_) #[true, true, true, true, true, true, true, true, true, true, true, true, true, true, true, true, true, true, true, true, true, true, true, true, false, false, false] rfl rfl (by kernel_rfl) (fun _ _ _ h => h) (Or.inl ⟨by rfl, ?_⟩) ?_ ?_
     rotate_left
     ·intro w'
      go_simp
      with_reducible rfl
     rotate_left
     ·simp only [Act.put, List.setIfInBounds_toArray, List.set_cons_zero, List.set_cons_succ, i64_w, i32_w]
      rfl
     refine one_ (i := 24) (N := some 61) #[true, true, true, true, true, true, true, true, true, true, true, true, true, true, true, true, true, true, true, true, true, true, true, true, true, false, false] rfl rfl (by kernel_rfl) (by decide) (fun K hK => ?_)
     refine value_ (w1 := ?_) (v := ?_) (by rfl) rfl ?_ ?_
     rotate_left 2
     ·go_simp
      constructor
      ·rfl
      ·rfl
     refine hK.out _ _ ⟨fcell hHeld2.1 _, fcell hHeld2.2.1 _, fcell hHeld2.2.2.1 _, fcell hHeld2.2.2.2.1 _, fcell hHeld2.2.2.2.2.1 _, fcell hHeld2.2.2.2.2.2.1 _, fcell hHeld2.2.2.2.2.2.2.1 _, fcell hHeld2.2.2.2.2.2.2.2 _⟩ (fun hHeld3 => ?_)
     clear hK K
     refine norm_ (a' := ?_) ?_ ?_
     rotate_left
     ·show Act.put _ (some 61) _ = _
      simp only [Act.put, List.setIfInBounds_toArray, List.set_cons_zero, List.set_cons_succ, i64_w, i32_w]
      rfl
     refine one_ (i := 25) (N := some 62) #[true, true, true, true, true, true, true, true, true, true, true, true, true, true, true, true, true, true, true, true, true, true, true, true, true, true, false] rfl rfl (by kernel_rfl) (by decide) (fun K hK => ?_)
     refine Kd.N_append_step k40 (w0 := W) (W := w5) base (by rfl) (.tmp 37) (.tmp 61) 22 40 (.agg #[(.string ⟨#[]⟩), (.string ⟨#[]⟩), (.string ⟨#[]⟩), (.int .u8 0), (.int .i64 0), (.int .i64 0), (.int .i64 0), (.int .i64 0), (.slice none 0 0)]) 112 rfl Tryd.underlying22 info40 rfl (by decide) (by decide) (.slice Ao out.length co) out (⟨q.1, m.f1, ldn, m.f2, m.f3, m.f4⟩ : Node) [.string q.1, .string m.f1, .string ldn, .int .u8 m.f2, .int .i64 m.f3.f0, .int .i64 m.f3.f1, .int .i64 m.f3.f2, .int .i64 m.f3.f3, .slice Av m.f4.length cv] (fun k => W.heap.size ≤ k) (fun k => wq.heap.size ≤ k ∧ k < w5.heap.size) (by rfl) rfl (k40_mkF w5 _ _ HLV.out (Kd.R_F (Kd.R_mono (Kd.R_bound HR5.out) (fun k hk => ⟨hk.2.1, hk.2.2.1⟩)))) (fun k hk => ⟨by have := hk.1; omega, fun e => by have := HOB.out k e.symm; have := hk.1; omega⟩) (fun k hk => by have := HB5.out.size; omega) (Kd.N_below HNQ.out HB5.out) (HBQ.out.trans (HB5.out.mono (by omega))) (by have := HB5.out.size; omega) (by rw [HOL.out]; omega) ?_
     intro v6 w6 hN6 hB6 hg6 hat6
     have HN6 := Aside0.mk hN6
     have HB6 := Aside0.mk hB6
     have HG6 := Aside0.mk hg6
     clear hN6 hB6 hat6
     refine hK.out _ _ ⟨rcell' hg6 (HNE.out _ HB5.out) hHeld2.1, rcell' hg6 (HNE.out _ HB5.out) hHeld2.2.1, rcell' hg6 (HNE.out _ HB5.out) hHeld2.2.2.1, rcell' hg6 (HNE.out _ HB5.out) hHeld2.2.2.2.1, rcell' hg6 (HNE.out _ HB5.out) hHeld2.2.2.2.2.1, rcell' hg6 (HNE.out _ HB5.out) hHeld2.2.2.2.2.2.1, rcell' hg6 (HNE.out _ HB5.out) hHeld2.2.2.2.2.2.2.1, rcell' hg6 (HNE.out _ HB5.out) hHeld2.2.2.2.2.2.2.2⟩ (fun hHeld4 => ?_)
     clear hK K hg6 hHeld hHeld2 hHeld3 hb5
     refine norm_ (a' := ?_) ?_ ?_
     rotate_left
     ·show Act.put _ (some 62) _ = _
      simp only [Act.put, List.setIfInBounds_toArray, List.set_cons_zero, List.set_cons_succ, i64_w, i32_w]
      rfl
     refine pure_ (i := 26) (N := some 3) (v := ?_) (a' := ?_) #[true, true, true, true, true, true, true, true, true, true, true, true, true, true, true, true, true, true, true, true, true, true, true, true, true, true, true] rfl rfl (by kernel_rfl) (fun _ _ _ h => h) (Or.inl ⟨by rfl, ?_⟩) ?_ ?_
     rotate_left
     ·intro w'
      go_simp
      with_reducible rfl
     rotate_left
     ·simp only [Act.put, List.setIfInBounds_toArray, List.set_cons_zero, List.set_cons_succ, i64_w, i32_w]
      rfl
     refine done_ (by kernel_rfl) ?_
     have hfin : NodRel l s base d B W (.slice (some ad) (sortP s).length cq) (n + 1) v6 w6 := by
      refine mid_next h0 hnl HOUT.out HMM.out ((drew_below hwq).trans (HB5.out.mono (by rw [← hwq]; exact Nat.le_refl _))) HG6.out hdlt hbase (by omega) ?_ HB6.out
      ·have e := HND.out
       rw [HTK.out, HLN.out] at e
       rw [HQE.out, e]
       exact HN6.out
     have HFIN := Aside0.mk hfin
     clear hfin HN6 HB6 HG6 HB5 HR5 HNQ HBQ hHeld4 j0 j1 j2 j3 j4 j5 j6 j7
     go_wp2_with (fail)
     go_roundw
     case rel => exact ⟨n + 1, by go_num, HFIN⟩
     case measure => simp [intOf]; omega
    | false =>
     have hem : ld0.toList = [] := by rw [← HLD.out]; exact HLF.out.2 ha
     have hem2 : (ld0.toList == []) = true := by simpa using hem
     obtain ⟨hmid, hwz⟩ := HMID.out _ (.inr ⟨rfl, H48.out, ha⟩)
     have HMM := Aside0.mk hmid
     clear ha hmid
     go_upto_region 8 with (fail)
     obtain ⟨_, vb, hbm, hRm⟩ := HMM.out.2.1 q.2 m HM.out H49.out
     obtain ⟨Ab, cb, rfl, hlb, hCb⟩ := Kd.R_reads hRm
     rw [HTK.out] at hbm
     generalize hldn : ldF m ((sortP s).take n.toNat ++ [q]) q.2 = ldn at hbm
     obtain ⟨j0, j1, j2, j3, j4, j5, j6, j7⟩ := thing_cells hbm
     have HCB := Aside0.mk hCb
     have HLB := Aside0.mk hlb
     have HLN := Aside0.mk hldn
     have HBM := Aside0.mk hbm
     have hwlt : W.heap.size ≤ wr.heap.size := HW.out
     clear hRm hCb hlb hldn hbm hk0 hk1 hk2 hk3 hk4 hk5 hk6 hk7
     refine start_ (n := 27) (S := fun w' => w'.cell? ⟨B q.2, 0, none⟩ = some (.int .u8 m.f2) ∧ w'.cell? ⟨B q.2, 1, none⟩ = some (.int .i64 m.f3.f0) ∧ w'.cell? ⟨B q.2, 2, none⟩ = some (.int .i64 m.f3.f1) ∧ w'.cell? ⟨B q.2, 3, none⟩ = some (.int .i64 m.f3.f2) ∧ w'.cell? ⟨B q.2, 4, none⟩ = some (.int .i64 m.f3.f3) ∧ w'.cell? ⟨B q.2, 5, none⟩ = some (.string m.f1) ∧ w'.cell? ⟨B q.2, 6, none⟩ = some (.slice Ab m.f4.length cb) ∧ w'.cell? ⟨B q.2, 7, none⟩ = some (.string ldn)) (ds := []) #[false, false, false, false, false, false, false, false, false, false, false, false, false, false, false, false, false, false, false, false, false, false, false, false, false, false, false] (by kernel_rfl) rfl rfl ⟨j0, j1, j2, j3, j4, j5, j6, j7⟩ (fun hHeld => ?_)
     generalize hwq : World.drew _ = wq at hHeld ⊢
     have hzq : wr.heap.size = wq.heap.size := by rw [← hwq]; exact hwz
     have HNQ : Aside0 (Kd.N k40 40 wq base (fun k => W.heap.size ≤ k) (.slice Ao out.length co) out) := ⟨by rw [← hwq]; exact Kd.N_drew HMM.out.2.2.1⟩
     have HBQ : Aside0 (Below base W wq) := ⟨by rw [← hwq]; exact below_drew HMM.out.2.2.2.2⟩
     have HOB := Aside0.mk (Kd.N_lt HNQ.out)
     have HNE : Aside0 (∀ w5 : World, Below wq.heap.size wq w5 → some (B q.2) ≠ (Value.slice Ao out.length co).ownBlock) := ⟨fun w5 hb => Kd.N_ne (cells := thingCells m (.slice Ab m.f4.length cb) ldn) (t := 94) HNQ.out (by rw [← hwq]; exact HBM.out) (by decide)⟩
     refine pure_ (i := 0) (N := some 37) (v := ?_) (a' := ?_) #[true, false, false, false, false, false, false, false, false, false, false, false, false, false, false, false, false, false, false, false, false, false, false, false, false, false, false] rfl rfl (by kernel_rfl) (fun _ _ _ h => h) (Or.inl ⟨by rfl, ?_⟩) ?_ ?_
     rotate_left
     ·intro w'
      go_simp
      with_reducible rfl
     rotate_left
     ·simp only [Act.put, List.setIfInBounds_toArray, List.set_cons_zero, List.set_cons_succ, i64_w, i32_w]
      rfl
     refine pure_ (i := 1) (N := some 38) (v := ?_) (a' := ?_) #[true, true, false, false, false, false, false, false, false, false, false, false, false, false, false, false, false, false, false, false, false, false, false, false, false, false, false] rfl rfl (by kernel_rfl) (fun _ _ _ h => h) (Or.inl ⟨by rfl, ?_⟩) ?_ ?_
     rotate_left
     ·intro w'
      go_simp
      with_reducible rfl
     rotate_left
     ·simp only [Act.put, List.setIfInBounds_toArray, List.set_cons_zero, List.set_cons_succ, i64_w, i32_w]
      rfl
     refine pure_ (i := 2) (N := some 39) (v := ?_) (a' := ?_) #[true, true, true, false, false, false, false, false, false, false, false, false, false, false, false, false, false, false, false, false, false, false, false, false, false, false, false] rfl rfl (by kernel_rfl) (fun _ _ _ h => h) (Or.inl ⟨by rfl, ?_⟩) ?_ ?_
     rotate_left
     ·intro w'
      go_simp
      with_reducible rfl
     rotate_left
     ·simp only [Act.put, List.setIfInBounds_toArray, List.set_cons_zero, List.set_cons_succ, i64_w, i32_w]
      rfl
     refine pure_ (i := 3) (N := some 40) (v := ?_) (a' := ?_) #[true, true, true, true, false, false, false, false, false, false, false, false, false, false, false, false, false, false, false, false, false, false, false, false, false, false, false] rfl rfl (by kernel_rfl) (fun _ _ _ h => h) (Or.inl ⟨by rfl, ?_⟩) ?_ ?_
     rotate_left
     ·intro w'
      go_simp
      with_reducible rfl
     rotate_left
     ·simp only [Act.put, List.setIfInBounds_toArray, List.set_cons_zero, List.set_cons_succ, i64_w, i32_w]
      rfl
     refine pure_ (i := 4) (N := some 41) (v := ?_) (a' := ?_) #[true, true, true, true, true, false, false, false, false, false, false, false, false, false, false, false, false, false, false, false, false, false, false, false, false, false, false] rfl rfl (by kernel_rfl) (fun _ _ _ h => h) (Or.inl ⟨by rfl, ?_⟩) ?_ ?_
     rotate_left
     ·intro w'
      go_simp
      with_reducible rfl
     rotate_left
     ·simp only [Act.put, List.setIfInBounds_toArray, List.set_cons_zero, List.set_cons_succ, i64_w, i32_w]
      rfl
     refine take_ (i := 5) (N := some 42) (v := ?_) (a' := ?_) #[true, true, true, true, true, true, false, false, false, false, false, false, false, false, false, false, false, false, false, false, false, false, false, false, false, false, false] rfl rfl (by kernel_rfl) (fun _ _ _ h => h) (Or.inl ⟨by rfl, ?_⟩) hHeld ?_ ?_
     rotate_left
     ·rintro w' ⟨s0, s1, s2, s3, s4, s5, s6, s7⟩
      go_simp
      with_reducible rfl
     rotate_left
     ·simp only [Act.put, List.setIfInBounds_toArray, List.set_cons_zero, List.set_cons_succ, i64_w, i32_w]
      rfl
     refine pure_ (i := 6) (N := some 43) (v := ?_) (a' := ?_) #[true, true, true, true, true, true, true, false, false, false, false, false, false, false, false, false, false, false, false, false, false, false, false, false, false, false, false] rfl rfl (by kernel_rfl) (fun _ _ _ h => h) (Or.inl ⟨by rfl, ?_⟩) ?_ ?_
     rotate_left
     ·intro w'
      go_simp
      with_reducible rfl
     rotate_left
     ·simp only [Act.put, List.setIfInBounds_toArray, List.set_cons_zero, List.set_cons_succ, i64_w, i32_w]
      rfl
     refine pure_ (i := 7) (N := some 44) (v := ?_) (a' := ?_) #[true, true, true, true, true, true, true, true, false, false, false, false, false, false, false, false, false, false, false, false, false, false, false, false, false, false, false] rfl rfl (by kernel_rfl) (fun _ _ _ h => h) (Or.inl ⟨by rfl, ?_⟩) ?_ ?_
     rotate_left
     ·intro w'
      go_simp
      with_reducible rfl
     rotate_left
     ·simp only [Act.put, List.setIfInBounds_toArray, List.set_cons_zero, List.set_cons_succ, i64_w, i32_w]
      rfl
     refine pure_ (i := 8) (N := some 45) (v := ?_) (a' := ?_) #[true, true, true, true, true, true, true, true, true, false, false, false, false, false, false, false, false, false, false, false, false, false, false, false, false, false, false] rfl rfl (by kernel_rfl) (fun _ _ _ h => h) (Or.inl ⟨by rfl, ?_⟩) ?_ ?_
     rotate_left
     ·intro w'
      go_simp
      with_reducible rfl
     rotate_left
     ·simp only [Act.put, List.setIfInBounds_toArray, List.set_cons_zero, List.set_cons_succ, i64_w, i32_w]
      rfl
     refine take_ (i := 9) (N := some 46) (v := ?_) (a' := ?_) #[true, true, true, true, true, true, true, true, true, true, false, false, false, false, false, false, false, false, false, false, false, false, false, false, false, false, false] rfl rfl (by kernel_rfl) (fun _ _ _ h => h) (Or.inl ⟨by rfl, ?_⟩) hHeld ?_ ?_
     rotate_left
     ·rintro w' ⟨s0, s1, s2, s3, s4, s5, s6, s7⟩
      go_simp
      with_reducible rfl
     rotate_left
     ·simp only [Act.put, List.setIfInBounds_toArray, List.set_cons_zero, List.set_cons_succ, i64_w, i32_w]
      rfl
     refine pure_ (i := 10) (N := some 47) (v := ?_) (a' := ?_) #[true, true, true, true, true, true, true, true, true, true, true, false, false, false, false, false, false, false, false, false, false, false, false, false, false, false, false] rfl rfl (by kernel_rfl) (fun _ _ _ h => h) (Or.inl ⟨by rfl, ?_⟩) ?_ ?_
     rotate_left
     ·intro w'
      go_simp
      with_reducible rfl
     rotate_left
     ·simp only [Act.put, List.setIfInBounds_toArray, List.set_cons_zero, List.set_cons_succ, i64_w, i32_w]
      rfl
     refine pure_ (i := 11) (N := some 48) (v := ?_) (a' := ?_) #[true, true, true, true, true, true, true, true, true, true, true, true, false, false, false, false, false, false, false, false, false, false, false, false, false, false, false] rfl rfl (by kernel_rfl) (fun _ _ _ h => h) (Or.inl ⟨by rfl, ?_⟩) ?_ ?_
     rotate_left
     ·intro w'
      go_simp
      with_reducible rfl
     rotate_left
     ·simp only [Act.put, List.setIfInBounds_toArray, List.set_cons_zero, List.set_cons_succ, i64_w, i32_w]
      rfl
     refine pure_ (i := 12) (N := some 49) (v := ?_) (a' := ?_) #[true, true, true, true, true, true, true, true, true, true, true, true, true, false, false, false, false, false, false, false, false, false, false, false, false, false, false] rfl rfl (by kernel_rfl) (fun _ _ _ h => h) (Or.inl ⟨by rfl, ?_⟩) ?_ ?_
     rotate_left
     ·intro w'
      go_simp
      with_reducible rfl
     rotate_left
     ·simp only [Act.put, List.setIfInBounds_toArray, List.set_cons_zero, List.set_cons_succ, i64_w, i32_w]
      rfl
     refine take_ (i := 13) (N := some 50) (v := ?_) (a' := ?_) #[true, true, true, true, true, true, true, true, true, true, true, true, true, true, false, false, false, false, false, false, false, false, false, false, false, false, false] rfl rfl (by kernel_rfl) (fun _ _ _ h => h) (Or.inl ⟨by rfl, ?_⟩) hHeld ?_ ?_
     rotate_left
     ·rintro w' ⟨s0, s1, s2, s3, s4, s5, s6, s7⟩
      go_simp
      with_reducible rfl
     rotate_left
     ·simp only [Act.put, List.setIfInBounds_toArray, List.set_cons_zero, List.set_cons_succ, i64_w, i32_w]
      rfl
     refine pure_ (i := 14) (N := some 51) (v := ?_) (a' := ?_) #[true, true, true, true, true, true, true, true, true, true, true, true, true, true, true, false, false, false, false, false, false, false, false, false, false, false, false] rfl rfl (by kernel_rfl) (fun _ _ _ h => h) (Or.inl ⟨by rfl, ?_⟩) ?_ ?_
     rotate_left
     ·intro w'
      go_simp
      with_reducible rfl
     rotate_left
     ·simp only [Act.put, List.setIfInBounds_toArray, List.set_cons_zero, List.set_cons_succ, i64_w, i32_w]
      rfl
     refine pure_ (i := 15) (N := some 52) (v := ?_) (a' := ?_) #[true, true, true, true, true, true, true, true, true, true, true, true, true, true, true, true, false, false, false, false, false, false, false, false, false, false, false] rfl rfl (by kernel_rfl) (fun _ _ _ h => h) (Or.inl ⟨by rfl, ?_⟩) ?_ ?_
     rotate_left
     ·intro w'
      go_simp
      with_reducible rfl
     rotate_left
     ·simp only [Act.put, List.setIfInBounds_toArray, List.set_cons_zero, List.set_cons_succ, i64_w, i32_w]
      rfl
     refine pure_ (i := 16) (N := some 53) (v := ?_) (a' := ?_) #[true, true, true, true, true, true, true, true, true, true, true, true, true, true, true, true, true, false, false, false, false, false, false, false, false, false, false] rfl rfl (by kernel_rfl) (fun _ _ _ h => h) (Or.inl ⟨by rfl, ?_⟩) ?_ ?_
     rotate_left
     ·intro w'
      go_simp
      with_reducible rfl
     rotate_left
     ·simp only [Act.put, List.setIfInBounds_toArray, List.set_cons_zero, List.set_cons_succ, i64_w, i32_w]
      rfl
     refine take_ (i := 17) (N := some 54) (v := ?_) (a' := ?_) #[true, true, true, true, true, true, true, true, true, true, true, true, true, true, true, true, true, true, false, false, false, false, false, false, false, false, false] rfl rfl (by kernel_rfl) (fun _ _ _ h => h) (Or.inl ⟨by rfl, ?_⟩) hHeld ?_ ?_
     rotate_left
     ·rintro w' ⟨s0, s1, s2, s3, s4, s5, s6, s7⟩
      go_simp
      with_reducible rfl
     rotate_left
     ·simp only [Act.put, List.setIfInBounds_toArray, List.set_cons_zero, List.set_cons_succ, i64_w, i32_w]
      rfl
     refine pure_ (i := 18) (N := some 55) (v := ?_) (a' := ?_) #[true, true, true, true, true, true, true, true, true, true, true, true, true, true, true, true, true, true, true, false, false, false, false, false, false, false, false] rfl rfl (by kernel_rfl) (fun _ _ _ h => h) (Or.inl ⟨by rfl, ?_⟩) ?_ ?_
     rotate_left
     ·intro w'
      go_simp
      with_reducible rfl
     rotate_left
     ·simp only [Act.put, List.setIfInBounds_toArray, List.set_cons_zero, List.set_cons_succ, i64_w, i32_w]
      rfl
     refine pure_ (i := 19) (N := some 56) (v := ?_) (a' := ?_) #[true, true, true, true, true, true, true, true, true, true, true, true, true, true, true, true, true, true, true, true, false, false, false, false, false, false, false] rfl rfl (by kernel_rfl) (fun _ _ _ h => h) (Or.inl ⟨by rfl, ?_⟩) ?_ ?_
     rotate_left
     ·intro w'
      go_simp
      with_reducible rfl
     rotate_left
     ·simp only [Act.put, List.setIfInBounds_toArray, List.set_cons_zero, List.set_cons_succ, i64_w, i32_w]
      rfl
     refine pure_ (i := 20) (N := some 57) (v := ?_) (a' := ?_) #[true, true, true, true, true, true, true, true, true, true, true, true, true, true, true, true, true, true, true, true, true, false, false, false, false, false, false] rfl rfl (by kernel_rfl) (fun _ _ _ h => h) (Or.inl ⟨by rfl, ?_⟩) ?_ ?_
     rotate_left
     ·intro w'
      go_simp
      with_reducible rfl
     rotate_left
     ·simp only [Act.put, List.setIfInBounds_toArray, List.set_cons_zero, List.set_cons_succ, i64_w, i32_w]
      rfl
     refine take_ (i := 21) (N := some 58) (v := ?_) (a' := ?_) #[true, true, true, true, true, true, true, true, true, true, true, true, true, true, true, true, true, true, true, true, true, true, false, false, false, false, false] rfl rfl (by kernel_rfl) (fun _ _ _ h => h) (Or.inl ⟨by rfl, ?_⟩) hHeld ?_ ?_
     rotate_left
     ·rintro w' ⟨s0, s1, s2, s3, s4, s5, s6, s7⟩
      go_simp
      with_reducible rfl
     rotate_left
     ·simp only [Act.put, List.setIfInBounds_toArray, List.set_cons_zero, List.set_cons_succ, i64_w, i32_w]
      rfl
     refine one_ (i := 22) (N := some 59) #[true, true, true, true, true, true, true, true, true, true, true, true, true, true, true, true, true, true, true, true, true, true, true, false, false, false, false] rfl rfl (by kernel_rfl) (by decide) (fun K hK => ?_)
     refine goes_ Tryd.func59 (by kernel_rfl) rfl #[.slice Ab m.f4.length cb] (by rfl) rfl rfl (by first | rfl | (simp [Act.eval]; done)) ?_
     refine (Clone_calls Ab cb m.f4 wq (by rw [← hwq]; exact Kd.C_drew HCB.out) (HZ.out m (List.mem_of_getElem? HM.out))).mono ?_
     rintro e w5 ⟨v5, rfl, hR5, hb5⟩
     obtain ⟨Av, cv, rfl, hlv, hCv⟩ := Kd.R_reads hR5
     refine ⟨_, rfl, ?_⟩
     refine hK.out _ _ ⟨fkeep hb5 hHeld.1, fkeep hb5 hHeld.2.1, fkeep hb5 hHeld.2.2.1, fkeep hb5 hHeld.2.2.2.1, fkeep hb5 hHeld.2.2.2.2.1, fkeep hb5 hHeld.2.2.2.2.2.1, fkeep hb5 hHeld.2.2.2.2.2.2.1, fkeep hb5 hHeld.2.2.2.2.2.2.2⟩ (fun hHeld2 => ?_)
     clear hK K
     have HR5 := Aside0.mk hR5
     have HB5 := Aside0.mk hb5
     have HLV := Aside0.mk hlv
     clear hR5 hCv hlv
     refine norm_ (a' := ?_) ?_ ?_
     rotate_left
     ·show Act.put _ (some 59) _ = _
      simp only [Act.put, List.setIfInBounds_toArray, List.set_cons_zero, List.set_cons_succ, i64_w, i32_w]
      rfl
     refine pure_ (i := 23) (N := some 60) (v := ?_) (a' := ?_) #[true, true, true, true, true, true, true, true, true, true, true, true, true, true, true, true, true, true, true, true, true, true, true, true, false, false, false] rfl rfl (by kernel_rfl) (fun _ _ _ h => h) (Or.inl ⟨by rfl, ?_⟩) ?_ ?_
     rotate_left
     ·intro w'
      go_simp
      with_reducible rfl
     rotate_left
     ·simp only [Act.put, List.setIfInBounds_toArray, List.set_cons_zero, List.set_cons_succ, i64_w, i32_w]
      rfl
     refine one_ (i := 24) (N := some 61) #[true, true, true, true, true, true, true, true, true, true, true, true, true, true, true, true, true, true, true, true, true, true, true, true, true, false, false] rfl rfl (by kernel_rfl) (by decide) (fun K hK => ?_)
     refine value_ (w1 := ?_) (v := ?_) (by rfl) rfl ?_ ?_
     rotate_left 2
     ·go_simp
      constructor
      ·rfl
      ·rfl
     refine hK.out _ _ ⟨fcell hHeld2.1 _, fcell hHeld2.2.1 _, fcell hHeld2.2.2.1 _, fcell hHeld2.2.2.2.1 _, fcell hHeld2.2.2.2.2.1 _, fcell hHeld2.2.2.2.2.2.1 _, fcell hHeld2.2.2.2.2.2.2.1 _, fcell hHeld2.2.2.2.2.2.2.2 _⟩ (fun hHeld3 => ?_)
     clear hK K
     refine norm_ (a' := ?_) ?_ ?_
     rotate_left
     ·show Act.put _ (some 61) _ = _
      simp only [Act.put, List.setIfInBounds_toArray, List.set_cons_zero, List.set_cons_succ, i64_w, i32_w]
      rfl
     refine one_ (i := 25) (N := some 62) #[true, true, true, true, true, true, true, true, true, true, true, true, true, true, true, true, true, true, true, true, true, true, true, true, true, true, false] rfl rfl (by kernel_rfl) (by decide) (fun K hK => ?_)
     refine Kd.N_append_step k40 (w0 := W) (W := w5) base (by rfl) (.tmp 37) (.tmp 61) 22 40 (.agg #[(.string ⟨#[]⟩), (.string ⟨#[]⟩), (.string ⟨#[]⟩), (.int .u8 0), (.int .i64 0), (.int .i64 0), (.int .i64 0), (.int .i64 0), (.slice none 0 0)]) 112 rfl Tryd.underlying22 info40 rfl (by decide) (by decide) (.slice Ao out.length co) out (⟨q.1, m.f1, ldn, m.f2, m.f3, m.f4⟩ : Node) [.string q.1, .string m.f1, .string ldn, .int .u8 m.f2, .int .i64 m.f3.f0, .int .i64 m.f3.f1, .int .i64 m.f3.f2, .int .i64 m.f3.f3, .slice Av m.f4.length cv] (fun k => W.heap.size ≤ k) (fun k => wq.heap.size ≤ k ∧ k < w5.heap.size) (by rfl) rfl (k40_mkF w5 _ _ HLV.out (Kd.R_F (Kd.R_mono (Kd.R_bound HR5.out) (fun k hk => ⟨hk.2.1, hk.2.2.1⟩)))) (fun k hk => ⟨by have := hk.1; omega, fun e => by have := HOB.out k e.symm; have := hk.1; omega⟩) (fun k hk => by have := HB5.out.size; omega) (Kd.N_below HNQ.out HB5.out) (HBQ.out.trans (HB5.out.mono (by omega))) (by have := HB5.out.size; omega) (by rw [HOL.out]; omega) ?_
     intro v6 w6 hN6 hB6 hg6 hat6
     have HN6 := Aside0.mk hN6
     have HB6 := Aside0.mk hB6
     have HG6 := Aside0.mk hg6
     clear hN6 hB6 hat6
     refine hK.out _ _ ⟨rcell' hg6 (HNE.out _ HB5.out) hHeld2.1, rcell' hg6 (HNE.out _ HB5.out) hHeld2.2.1, rcell' hg6 (HNE.out _ HB5.out) hHeld2.2.2.1, rcell' hg6 (HNE.out _ HB5.out) hHeld2.2.2.2.1, rcell' hg6 (HNE.out _ HB5.out) hHeld2.2.2.2.2.1, rcell' hg6 (HNE.out _ HB5.out) hHeld2.2.2.2.2.2.1, rcell' hg6 (HNE.out _ HB5.out) hHeld2.2.2.2.2.2.2.1, rcell' hg6 (HNE.out _ HB5.out) hHeld2.2.2.2.2.2.2.2⟩ (fun hHeld4 => ?_)
     clear hK K hg6 hHeld hHeld2 hHeld3 hb5
     refine norm_ (a' := ?_) ?_ ?_
     rotate_left
     ·show Act.put _ (some 62) _ = _
      simp only [Act.put, List.setIfInBounds_toArray, List.set_cons_zero, List.set_cons_succ, i64_w, i32_w]
      rfl
     refine pure_ (i := 26) (N := some 3) (v := ?_) (a' := ?_) #[true, true, true, true, true, true, true, true, true, true, true, true, true, true, true, true, true, true, true, true, true, true, true, true, true, true, true] rfl rfl (by kernel_rfl) (fun _ _ _ h => h) (Or.inl ⟨by rfl, ?_⟩) ?_ ?_
     rotate_left
     ·intro w'
      go_simp
      with_reducible rfl
     rotate_left
     ·simp only [Act.put, List.setIfInBounds_toArray, List.set_cons_zero, List.set_cons_succ, i64_w, i32_w]
      rfl
     refine done_ (by kernel_rfl) ?_
     have hfin : NodRel l s base d B W (.slice (some ad) (sortP s).length cq) (n + 1) v6 w6 := by
      refine mid_next h0 hnl HOUT.out HMM.out ((drew_below hwq).trans (HB5.out.mono (by rw [← hwq]; exact Nat.le_refl _))) HG6.out hdlt hbase (by omega) ?_ HB6.out
      ·have e := HND.out
       rw [HTK.out, HLN.out] at e
       rw [HQE.out, e]
       exact HN6.out
     have HFIN := Aside0.mk hfin
     clear hfin HN6 HB6 HG6 HB5 HR5 HNQ HBQ hHeld4 j0 j1 j2 j3 j4 j5 j6 j7
     go_wp2_with (fail)
     go_roundw
     case rel => exact ⟨n + 1, by go_num, HFIN⟩
     case measure => simp [intOf]; omega
   ·have e48 : (m.f2 == 48) = false := beq_eq_false_iff_ne.2 h48
    obtain ⟨hmid, hwz⟩ := HMID.out wr (.inl ⟨rfl, fun h => absurd h h48⟩)
    have HMM := Aside0.mk hmid
    clear h48 hmid
    go_upto_region 8 with (fail)
    obtain ⟨_, vb, hbm, hRm⟩ := HMM.out.2.1 q.2 m HM.out H49.out
    obtain ⟨Ab, cb, rfl, hlb, hCb⟩ := Kd.R_reads hRm
    rw [HTK.out] at hbm
    generalize hldn : ldF m ((sortP s).take n.toNat ++ [q]) q.2 = ldn at hbm
    obtain ⟨j0, j1, j2, j3, j4, j5, j6, j7⟩ := thing_cells hbm
    have HCB := Aside0.mk hCb
    have HLB := Aside0.mk hlb
    have HLN := Aside0.mk hldn
    have HBM := Aside0.mk hbm
    have hwlt : W.heap.size ≤ wr.heap.size := HW.out
    clear hRm hCb hlb hldn hbm hk0 hk1 hk2 hk3 hk4 hk5 hk6 hk7
    refine start_ (n := 27) (S := fun w' => w'.cell? ⟨B q.2, 0, none⟩ = some (.int .u8 m.f2) ∧ w'.cell? ⟨B q.2, 1, none⟩ = some (.int .i64 m.f3.f0) ∧ w'.cell? ⟨B q.2, 2, none⟩ = some (.int .i64 m.f3.f1) ∧ w'.cell? ⟨B q.2, 3, none⟩ = some (.int .i64 m.f3.f2) ∧ w'.cell? ⟨B q.2, 4, none⟩ = some (.int .i64 m.f3.f3) ∧ w'.cell? ⟨B q.2, 5, none⟩ = some (.string m.f1) ∧ w'.cell? ⟨B q.2, 6, none⟩ = some (.slice Ab m.f4.length cb) ∧ w'.cell? ⟨B q.2, 7, none⟩ = some (.string ldn)) (ds := []) #[false, false, false, false, false, false, false, false, false, false, false, false, false, false, false, false, false, false, false, false, false, false, false, false, false, false, false] (by kernel_rfl) rfl rfl ⟨j0, j1, j2, j3, j4, j5, j6, j7⟩ (fun hHeld => ?_)
    generalize hwq : World.drew _ = wq at hHeld ⊢
    have hzq : wr.heap.size = wq.heap.size := by rw [← hwq]; exact hwz
    have HNQ : Aside0 (Kd.N k40 40 wq base (fun k => W.heap.size ≤ k) (.slice Ao out.length co) out) := ⟨by rw [← hwq]; exact Kd.N_drew HMM.out.2.2.1⟩
    have HBQ : Aside0 (Below base W wq) := ⟨by rw [← hwq]; exact below_drew HMM.out.2.2.2.2⟩
    have HOB := Aside0.mk (Kd.N_lt HNQ.out)
    have HNE : Aside0 (∀ w5 : World, Below wq.heap.size wq w5 → some (B q.2) ≠ (Value.slice Ao out.length co).ownBlock) := ⟨fun w5 hb => Kd.N_ne (cells := thingCells m (.slice Ab m.f4.length cb) ldn) (t := 94) HNQ.out (by rw [← hwq]; exact HBM.out) (by decide)⟩
    refine pure_ (i := 0) (N := some 37) (v := ?_) (a' := ?_) #[true, false, false, false, false, false, false, false, false, false, false, false, false, false, false, false, false, false, false, false, false, false, false, false, false, false, false] rfl rfl (by kernel_rfl) (fun _ _ _ h => h) (Or.inl ⟨by rfl, ?_⟩) ?_ ?_
    rotate_left
    ·intro w'
     go_simp
     with_reducible rfl
    rotate_left
    ·simp only [Act.put, List.setIfInBounds_toArray, List.set_cons_zero, List.set_cons_succ, i64_w, i32_w]
     rfl
    refine pure_ (i := 1) (N := some 38) (v := ?_) (a' := ?_) #[true, true, false, false, false, false, false, false, false, false, false, false, false, false, false, false, false, false, false, false, false, false, false, false, false, false, false] rfl rfl (by kernel_rfl) (fun _ _ _ h => h) (Or.inl ⟨by rfl, ?_⟩) ?_ ?_
    rotate_left
    ·intro w'
     go_simp
     with_reducible rfl
    rotate_left
    ·simp only [Act.put, List.setIfInBounds_toArray, List.set_cons_zero, List.set_cons_succ, i64_w, i32_w]
     rfl
    refine pure_ (i := 2) (N := some 39) (v := ?_) (a' := ?_) #[true, true, true, false, false, false, false, false, false, false, false, false, false, false, false, false, false, false, false, false, false, false, false, false, false, false, false] rfl rfl (by kernel_rfl) (fun _ _ _ h => h) (Or.inl ⟨by rfl, ?_⟩) ?_ ?_
    rotate_left
    ·intro w'
     go_simp
     with_reducible rfl
    rotate_left
    ·simp only [Act.put, List.setIfInBounds_toArray, List.set_cons_zero, List.set_cons_succ, i64_w, i32_w]
     rfl
    refine pure_ (i := 3) (N := some 40) (v := ?_) (a' := ?_) #[true, true, true, true, false, false, false, false, false, false, false, false, false, false, false, false, false, false, false, false, false, false, false, false, false, false, false] rfl rfl (by kernel_rfl) (fun _ _ _ h => h) (Or.inl ⟨by rfl, ?_⟩) ?_ ?_
    rotate_left
    ·intro w'
     go_simp
     with_reducible rfl
    rotate_left
    ·simp only [Act.put, List.setIfInBounds_toArray, List.set_cons_zero, List.set_cons_succ, i64_w, i32_w]
     rfl
    refine pure_ (i := 4) (N := some 41) (v := ?_) (a' := ?_) #[true, true, true, true, true, false, false, false, false, false, false, false, false, false, false, false, false, false, false, false, false, false, false, false, false, false, false] rfl rfl (by kernel_rfl) (fun _ _ _ h => h) (Or.inl ⟨by rfl, ?_⟩) ?_ ?_
    rotate_left
    ·intro w'
     go_simp
     with_reducible rfl
    rotate_left
    ·simp only [Act.put, List.setIfInBounds_toArray, List.set_cons_zero, List.set_cons_succ, i64_w, i32_w]
     rfl
    refine take_ (i := 5) (N := some 42) (v := ?_) (a' := ?_) #[true, true, true, true, true, true, false, false, false, false, false, false, false, false, false, false, false, false, false, false, false, false, false, false, false, false, false] rfl rfl (by kernel_rfl) (fun _ _ _ h => h) (Or.inl ⟨by rfl, ?_⟩) hHeld ?_ ?_
    rotate_left
    ·rintro w' ⟨s0, s1, s2, s3, s4, s5, s6, s7⟩
     go_simp
     with_reducible rfl
    rotate_left
    ·simp only [Act.put, List.setIfInBounds_toArray, List.set_cons_zero, List.set_cons_succ, i64_w, i32_w]
     rfl
    refine pure_ (i := 6) (N := some 43) (v := ?_) (a' := ?_) #[true, true, true, true, true, true, true, false, false, false, false, false, false, false, false, false, false, false, false, false, false, false, false, false, false, false, false] rfl rfl (by kernel_rfl) (fun _ _ _ h => h) (Or.inl ⟨by rfl, ?_⟩) ?_ ?_
    rotate_left
    ·intro w'
     go_simp
     with_reducible rfl
    rotate_left
    ·simp only [Act.put, List.setIfInBounds_toArray, List.set_cons_zero, List.set_cons_succ, i64_w, i32_w]
     rfl
    refine pure_ (i := 7) (N := some 44) (v := ?_) (a' := ?_) #[true, true, true, true, true, true, true, true, false, false, false, false, false, false, false, false, false, false, false, false, false, false, false, false, false, false, false] rfl rfl (by kernel_rfl) (fun _ _ _ h => h) (Or.inl ⟨by rfl, ?_⟩) ?_ ?_
    rotate_left
    ·intro w'
     go_simp
     with_reducible rfl
    rotate_left
    ·simp only [Act.put, List.setIfInBounds_toArray, List.set_cons_zero, List.set_cons_succ, i64_w, i32_w]
     rfl
    refine pure_ (i := 8) (N := some 45) (v := ?_) (a' := ?_) #[true, true, true, true, true, true, true, true, true, false, false, false, false, false, false, false, false, false, false, false, false, false, false, false, false, false, false] rfl rfl (by kernel_rfl) (fun _ _ _ h => h) (Or.inl ⟨by rfl, ?_⟩) ?_ ?_
    rotate_left
    ·intro w'
     go_simp
     with_reducible rfl
    rotate_left
    ·simp only [Act.put, List.setIfInBounds_toArray, List.set_cons_zero, List.set_cons_succ, i64_w, i32_w]
     rfl
    refine take_ (i := 9) (N := some 46) (v := ?_) (a' := ?_) #[true, true, true, true, true, true, true, true, true, true, false, false, false, false, false, false, false, false, false, false, false, false, false, false, false, false, false] rfl rfl (by kernel_rfl) (fun _ _ _ h => h) (Or.inl ⟨by rfl, ?_⟩) hHeld ?_ ?_
    rotate_left
    ·rintro w' ⟨s0, s1, s2, s3, s4, s5, s6, s7⟩
     go_simp
     with_reducible rfl
    rotate_left
    ·simp only [Act.put, List.setIfInBounds_toArray, List.set_cons_zero, List.set_cons_succ, i64_w, i32_w]
     rfl
    refine pure_ (i := 10) (N := some 47) (v := ?_) (a' := ?_) #[true, true, true, true, true, true, true, true, true, true, true, false, false, false, false, false, false, false, false, false, false, false, false, false, false, false, false] rfl rfl (by kernel_rfl) (fun _ _ _ h => h) (Or.inl ⟨by rfl, ?_⟩) ?_ ?_
    rotate_left
    ·intro w'
     go_simp
     with_reducible rfl
    rotate_left
    ·simp only [Act.put, List.setIfInBounds_toArray, List.set_cons_zero, List.set_cons_succ, i64_w, i32_w]
     rfl
    refine pure_ (i := 11) (N := some 48) (v := ?_) (a' := ?_) #[true, true, true, true, true, true, true, true, true, true, true, true, false, false, false, false, false, false, false, false, false, false, false, false, false, false, false] rfl rfl (by kernel_rfl) (fun _ _ _ h => h) (Or.inl ⟨by rfl, ?_⟩) ?_ ?_
    rotate_left
    ·intro w'
     go_simp
     with_reducible rfl
    rotate_left
    ·simp only [Act.put, List.setIfInBounds_toArray, List.set_cons_zero, List.set_cons_succ, i64_w, i32_w]
     rfl
    refine pure_ (i := 12) (N := some 49) (v := ?_) (a' := ?_) #[true, true, true, true, true, true, true, true, true, true, true, true, true, false, false, false, false, false, false, false, false, false, false, false, false, false, false] rfl rfl (by kernel_rfl) (fun _ _ _ h => h) (Or.inl ⟨by rfl, ?_⟩) ?_ ?_
    rotate_left
    ·intro w'
     go_simp
     with_reducible rfl
    rotate_left
    ·simp only [Act.put, List.setIfInBounds_toArray, List.set_cons_zero, List.set_cons_succ, i64_w, i32_w]
     rfl
    refine take_ (i := 13) (N := some 50) (v := ?_) (a' := ?_) #[true, true, true, true, true, true, true, true, true, true, true, true, true, true, false, false, false, false, false, false, false, false, false, false, false, false, false] rfl rfl (by kernel_rfl) (fun _ _ _ h => h) (Or.inl ⟨by rfl, ?_⟩) hHeld ?_ ?_
    rotate_left
    ·rintro w' ⟨s0, s1, s2, s3, s4, s5, s6, s7⟩
     go_simp
     with_reducible rfl
    rotate_left
    ·simp only [Act.put, List.setIfInBounds_toArray, List.set_cons_zero, List.set_cons_succ, i64_w, i32_w]
     rfl
    refine pure_ (i := 14) (N := some 51) (v := ?_) (a' := ?_) #[true, true, true, true, true, true, true, true, true, true, true, true, true, true, true, false, false, false, false, false, false, false, false, false, false, false, false] rfl rfl (by kernel_rfl) (fun _ _ _ h => h) (Or.inl ⟨by rfl, ?_⟩) ?_ ?_
    rotate_left
    ·intro w'
     go_simp
     with_reducible rfl
    rotate_left
    ·simp only [Act.put, List.setIfInBounds_toArray, List.set_cons_zero, List.set_cons_succ, i64_w, i32_w]
     rfl
    refine pure_ (i := 15) (N := some 52) (v := ?_) (a' := ?_) #[true, true, true, true, true, true, true, true, true, true, true, true, true, true, true, true, false, false, false, false, false, false, false, false, false, false, false] rfl rfl (by kernel_rfl) (fun _ _ _ h => h) (Or.inl ⟨by rfl, ?_⟩) ?_ ?_
    rotate_left
    ·intro w'
     go_simp
     with_reducible rfl
    rotate_left
    ·simp only [Act.put, List.setIfInBounds_toArray, List.set_cons_zero, List.set_cons_succ, i64_w, i32_w]
     rfl
    refine pure_ (i := 16) (N := some 53) (v := ?_) (a' := ?_) #[true, true, true, true, true, true, true, true, true, true, true, true, true, true, true, true, true, false, false, false, false, false, false, false, false, false, false] rfl rfl (by kernel_rfl) (fun _ _ _ h => h) (Or.inl ⟨by rfl, ?_⟩) ?_ ?_
    rotate_left
    ·intro w'
     go_simp
     with_reducible rfl
    rotate_left
    ·simp only [Act.put, List.setIfInBounds_toArray, List.set_cons_zero, List.set_cons_succ, i64_w, i32_w]
     rfl
    refine take_ (i := 17) (N := some 54) (v := ?_) (a' := ?_) #[true, true, true, true, true, true, true, true, true, true, true, true, true, true, true, true, true, true, false, false, false, false, false, false, false, false, false] rfl rfl (by kernel_rfl) (fun _ _ _ h => h) (Or.inl ⟨by rfl, ?_⟩) hHeld ?_ ?_
    rotate_left
    ·rintro w' ⟨s0, s1, s2, s3, s4, s5, s6, s7⟩
     go_simp
     with_reducible rfl
    rotate_left
    ·simp only [Act.put, List.setIfInBounds_toArray, List.set_cons_zero, List.set_cons_succ, i64_w, i32_w]
     rfl
    refine pure_ (i := 18) (N := some 55) (v := ?_) (a' := ?_) #[true, true, true, true, true, true, true, true, true, true, true, true, true, true, true, true, true, true, true, false, false, false, false, false, false, false, false] rfl rfl (by kernel_rfl) (fun _ _ _ h => h) (Or.inl ⟨by rfl, ?_⟩) ?_ ?_
    rotate_left
    ·intro w'
     go_simp
     with_reducible rfl
    rotate_left
    ·simp only [Act.put, List.setIfInBounds_toArray, List.set_cons_zero, List.set_cons_succ, i64_w, i32_w]
     rfl
    refine pure_ (i := 19) (N := some 56) (v := ?_) (a' := ?_) #[true, true, true, true, true, true, true, true, true, true, true, true, true, true, true, true, true, true, true, true, false, false, false, false, false, false, false] rfl rfl (by kernel_rfl) (fun _ _ _ h => h) (Or.inl ⟨by rfl, ?_⟩) ?_ ?_
    rotate_left
    ·intro w'
     go_simp
     with_reducible rfl
    rotate_left
    ·simp only [Act.put, List.setIfInBounds_toArray, List.set_cons_zero, List.set_cons_succ, i64_w, i32_w]
     rfl
    refine pure_ (i := 20) (N := some 57) (v := ?_) (a' := ?_) #[true, true, true, true, true, true, true, true, true, true, true, true, true, true, true, true, true, true, true, true, true, false, false, false, false, false, false] rfl rfl (by kernel_rfl) (fun _ _ _ h => h) (Or.inl ⟨by rfl, ?_⟩) ?_ ?_
    rotate_left
    ·intro w'
     go_simp
     with_reducible rfl
    rotate_left
    ·simp only [Act.put, List.setIfInBounds_toArray, List.set_cons_zero, List.set_cons_succ, i64_w, i32_w]
     rfl
    refine take_ (i := 21) (N := some 58) (v := ?_) (a' := ?_) #[true, true, true, true, true, true, true, true, true, true, true, true, true, true, true, true, true, true, true, true, true, true, false, false, false, false, false] rfl rfl (by kernel_rfl) (fun _ _ _ h => h) (Or.inl ⟨by rfl, ?_⟩) hHeld ?_ ?_
    rotate_left
    ·rintro w' ⟨s0, s1, s2, s3, s4, s5, s6, s7⟩
     go_simp
     with_reducible rfl
    rotate_left
    ·simp only [Act.put, List.setIfInBounds_toArray, List.set_cons_zero, List.set_cons_succ, i64_w, i32_w]
     rfl
    refine one_ (i := 22) (N := some 59) #[true, true, true, true, true, true, true, true, true, true, true, true, true, true, true, true, true, true, true, true, true, true, true, false, false, false, false] rfl rfl (by kernel_rfl) (by decide) (fun K hK => ?_)
    refine goes_ Tryd.func59 (by kernel_rfl) rfl #[.slice Ab m.f4.length cb] (by rfl) rfl rfl (by first | rfl | (simp [Act.eval]; done)) ?_
    refine (Clone_calls Ab cb m.f4 wq (by rw [← hwq]; exact Kd.C_drew HCB.out) (HZ.out m (List.mem_of_getElem? HM.out))).mono ?_
    rintro e w5 ⟨v5, rfl, hR5, hb5⟩
    obtain ⟨Av, cv, rfl, hlv, hCv⟩ := Kd.R_reads hR5
    refine ⟨_, rfl, ?_⟩
    refine hK.out _ _ ⟨fkeep hb5 hHeld.1, fkeep hb5 hHeld.2.1, fkeep hb5 hHeld.2.2.1, fkeep hb5 hHeld.2.2.2.1, fkeep hb5 hHeld.2.2.2.2.1, fkeep hb5 hHeld.2.2.2.2.2.1, fkeep hb5 hHeld.2.2.2.2.2.2.1, fkeep hb5 hHeld.2.2.2.2.2.2.2⟩ (fun hHeld2 => ?_)
    clear hK K
    have HR5 := Aside0.mk hR5
    have HB5 := Aside0.mk hb5
    have HLV := Aside0.mk hlv
    clear hR5 hCv hlv
    refine norm_ (a' := ?_) ?_ ?_
    rotate_left
    ·show Act.put _ (some 59) _ = _
     simp only [Act.put, List.setIfInBounds_toArray, List.set_cons_zero, List.set_cons_succ, i64_w, i32_w]
     rfl
    refine pure_ (i := 23) (N := some 60) (v := ?_) (a' := ?_) #[true, true, true, true, true, true, true, true, true, true, true, true, true, true, true, true, true, true, true, true, true, true, true, true, false, false, false] rfl rfl (by kernel_rfl) (fun _ _ _ h => h) (Or.inl ⟨by rfl, ?_⟩) ?_ ?_
    rotate_left
    ·intro w'
     go_simp
     with_reducible rfl
    rotate_left
    ·simp only [Act.put, List.setIfInBounds_toArray, List.set_cons_zero, List.set_cons_succ, i64_w, i32_w]
     rfl
    refine one_ (i := 24) (N := some 61) #[true, true, true, true, true, true, true, true, true, true, true, true, true, true, true, true, true, true, true, true, true, true, true, true, true, false, false] rfl rfl (by kernel_rfl) (by decide) (fun K hK => ?_)
    refine value_ (w1 := ?_) (v := ?_) (by rfl) rfl ?_ ?_
    rotate_left 2
    ·go_simp
     constructor
     ·rfl
     ·rfl
    refine hK.out _ _ ⟨fcell hHeld2.1 _, fcell hHeld2.2.1 _, fcell hHeld2.2.2.1 _, fcell hHeld2.2.2.2.1 _, fcell hHeld2.2.2.2.2.1 _, fcell hHeld2.2.2.2.2.2.1 _, fcell hHeld2.2.2.2.2.2.2.1 _, fcell hHeld2.2.2.2.2.2.2.2 _⟩ (fun hHeld3 => ?_)
    clear hK K
    refine norm_ (a' := ?_) ?_ ?_
    rotate_left
    ·show Act.put _ (some 61) _ = _
     simp only [Act.put, List.setIfInBounds_toArray, List.set_cons_zero, List.set_cons_succ, i64_w, i32_w]
     rfl
    refine one_ (i := 25) (N := some 62) #[true, true, true, true, true, true, true, true, true, true, true, true, true, true, true, true, true, true, true, true, true, true, true, true, true, true, false] rfl rfl (by kernel_rfl) (by decide) (fun K hK => ?_)
    refine Kd.N_append_step k40 (w0 := W) (W := w5) base (by rfl) (.tmp 37) (.tmp 61) 22 40 (.agg #[(.string ⟨#[]⟩), (.string ⟨#[]⟩), (.string ⟨#[]⟩), (.int .u8 0), (.int .i64 0), (.int .i64 0), (.int .i64 0), (.int .i64 0), (.slice none 0 0)]) 112 rfl Tryd.underlying22 info40 rfl (by decide) (by decide) (.slice Ao out.length co) out (⟨q.1, m.f1, ldn, m.f2, m.f3, m.f4⟩ : Node) [.string q.1, .string m.f1, .string ldn, .int .u8 m.f2, .int .i64 m.f3.f0, .int .i64 m.f3.f1, .int .i64 m.f3.f2, .int .i64 m.f3.f3, .slice Av m.f4.length cv] (fun k => W.heap.size ≤ k) (fun k => wq.heap.size ≤ k ∧ k < w5.heap.size) (by rfl) rfl (k40_mkF w5 _ _ HLV.out (Kd.R_F (Kd.R_mono (Kd.R_bound HR5.out) (fun k hk => ⟨hk.2.1, hk.2.2.1⟩)))) (fun k hk => ⟨by have := hk.1; omega, fun e => by have := HOB.out k e.symm; have := hk.1; omega⟩) (fun k hk => by have := HB5.out.size; omega) (Kd.N_below HNQ.out HB5.out) (HBQ.out.trans (HB5.out.mono (by omega))) (by have := HB5.out.size; omega) (by rw [HOL.out]; omega) ?_
    intro v6 w6 hN6 hB6 hg6 hat6
    have HN6 := Aside0.mk hN6
    have HB6 := Aside0.mk hB6
    have HG6 := Aside0.mk hg6
    clear hN6 hB6 hat6
    refine hK.out _ _ ⟨rcell' hg6 (HNE.out _ HB5.out) hHeld2.1, rcell' hg6 (HNE.out _ HB5.out) hHeld2.2.1, rcell' hg6 (HNE.out _ HB5.out) hHeld2.2.2.1, rcell' hg6 (HNE.out _ HB5.out) hHeld2.2.2.2.1, rcell' hg6 (HNE.out _ HB5.out) hHeld2.2.2.2.2.1, rcell' hg6 (HNE.out _ HB5.out) hHeld2.2.2.2.2.2.1, rcell' hg6 (HNE.out _ HB5.out) hHeld2.2.2.2.2.2.2.1, rcell' hg6 (HNE.out _ HB5.out) hHeld2.2.2.2.2.2.2.2⟩ (fun hHeld4 => ?_)
    clear hK K hg6 hHeld hHeld2 hHeld3 hb5
    refine norm_ (a' := ?_) ?_ ?_
    rotate_left
    ·show Act.put _ (some 62) _ = _
     simp only [Act.put, List.setIfInBounds_toArray, List.set_cons_zero, List.set_cons_succ, i64_w, i32_w]
     rfl
    refine pure_ (i := 26) (N := some 3) (v := ?_) (a' := ?_) #[true, true, true, true, true, true, true, true, true, true, true, true, true, true, true, true, true, true, true, true, true, true, true, true, true, true, true] rfl rfl (by kernel_rfl) (fun _ _ _ h => h) (Or.inl ⟨by rfl, ?_⟩) ?_ ?_
    rotate_left
    ·intro w'
     go_simp
     with_reducible rfl
    rotate_left
    ·simp only [Act.put, List.setIfInBounds_toArray, List.set_cons_zero, List.set_cons_succ, i64_w, i32_w]
     rfl
    refine done_ (by kernel_rfl) ?_
    have hfin : NodRel l s base d B W (.slice (some ad) (sortP s).length cq) (n + 1) v6 w6 := by
     refine mid_next h0 hnl HOUT.out HMM.out ((drew_below hwq).trans (HB5.out.mono (by rw [← hwq]; exact Nat.le_refl _))) HG6.out hdlt hbase (by omega) ?_ HB6.out
     ·have e := HND.out
      rw [HTK.out, HLN.out] at e
      rw [HQE.out, e]
      exact HN6.out
    have HFIN := Aside0.mk hfin
    clear hfin HN6 HB6 HG6 HB5 HR5 HNQ HBQ hHeld4 j0 j1 j2 j3 j4 j5 j6 j7
    go_wp2_with (fail)
    go_roundw
    case rel => exact ⟨n + 1, by go_num, HFIN⟩
    case measure => simp [intOf]; omega
  ·have c1b : decide (n < ((sortP s).length : Int)) = false := decide_eq_false hlt
   go_wp2
   rw [← hQ.out]
   have hN := HNV.out
   rw [← HOUT.out, List.take_of_length_le (by omega)] at hN
   rw [← HOUT.out, List.take_of_length_le (by omega)]
   exact ⟨_, rfl, hN, HR.out.2.2.2.2.2.2⟩
end Go.Proofs.YtfljbidecljlcaaDoor

namespace Go.Proofs.YtfljbidecljlcaaDoor
open Go.RowKit Go.Maps Go.Proofs.YtfljbidecljlcaaDoor.Print Go.Proofs.YtfljbidecljlcaaDoorW.PrintWords Go.Proofs.YtfljbidecljlcaaDoorW.PrintLast Go.Proofs.YtfljbidecljlcaaDoorW.PrintMore
set_option linter.unusedVariables false
set_option linter.unusedSimpArgs false
theorem good_full {m : Mem} (h : goodM m = true) : m.f0.toList ≠ [] := by
 intro e
 have h1 := (goodM_clean h).1
 unfold cleanOk at h1
 simp only [Bool.and_eq_true, decide_eq_true_iff] at h1
 obtain ⟨h2, h3⟩ := h1
 rw [e] at h3
 unfold cleanF at h2 h3
 split at h2
 ·cases h2
 ·rename_i c1
  rw [if_neg c1] at h3
  split at h2
  ·cases h2
  ·rename_i c2
   rw [if_neg c2] at h3
   split at h2
   ·cases h2
   ·rename_i c3
    rw [if_neg c3] at h3
    split at h2
    ·cases h2
    ·rename_i c4
     rw [if_neg c4] at h3
     apply c4
     rw [← h3]
     rfl
theorem rcell'' {W w1 : World} {row : Option Nat} (hg : W.grownBy w1 row) {g o : Nat} (hlt : g < W.heap.size) (hne : some g ≠ row) : w1.cell? ⟨g, o, none⟩ = W.cell? ⟨g, o, none⟩ := World.cell?_of_block (a := ⟨g, o, none⟩) (hg.block g hlt hne)
theorem rfroz'' {W w1 : World} {row : Option Nat} (hg : W.grownBy w1 row) {g o : Nat} (hlt : g < W.heap.size) (hne : some g ≠ row) : w1.frozen? ⟨g, o, none⟩ = W.frozen? ⟨g, o, none⟩ := World.frozen?_of_block (a := ⟨g, o, none⟩) (hg.block g hlt hne)
theorem FoldBad_calls (x : Mem) (A : Option Addr) (c : Nat) (W : World) (hT : Tabs W) (hz : MemZ x) (hx : Kd.C (Kd.int .u8) W A x.f4.length x.f4) (hc : x.f4.length ≤ c) :
  Calls Tryd.prog 45 #[.agg (memCells x (.slice A x.f4.length c))] W fun e W' => e = .returned (.bool (!goodM x)) ∧ Below W.heap.size W W' := by
 obtain ⟨kg, hkg⟩ := Ev.rounds (member_Good_eq x hz)
 generalize goodM x = g at hkg
 have HK := Aside0.mk hkg
 have HTA := Aside0.mk (fun o => Tabs.below hT (below_alloc (Below.refl _ _) o))
 have HX := Aside0.mk (fun o => Kd.C_alloc hx o)
 clear hkg hT hx hz
 unfold memCells
 go_enter Tryd.func45, Tryd.ntmps45
 go_wp2_with (go_at_call 43; (with_reducible refine (member_Good.calls kg x.f0 x.f1 x.f2 x.f3.f0 x.f3.f1 x.f3.f2 x.f3.f3 A c x.f4 g _ ⟨HTA.out _⟩ (HX.out _) hc HK.out).mono ?_); rintro e w5 ⟨rfl, hb5⟩)
 go_ret
 exact ⟨rfl, ((Below.refl _ _).alloc (Nat.le_refl _) _).trans (hb5.mono (by simp))⟩
def BadRel (l : List Mem) (W : World) (i : Int) (wr : World) : Prop := 0 ≤ i ∧ i ≤ l.length ∧ (∀ (j : Nat) (hj : j < l.length), (j : Int) < i → goodM l[j] = true) ∧ Below W.heap.size W wr
def badAt (l : List Mem) : Int := match l.findIdx? (fun m => !goodM m) with
 | some i => (i : Int)
 | none => -1
theorem badAt_some {l : List Mem} {j : Nat} (hj : j < l.length) (h : ∀ (k : Nat) (hk : k < l.length), k < j → goodM l[k] = true) (hb : goodM l[j] = false) : badAt l = (j : Int) := by
 unfold badAt
 rw [List.findIdx?_eq_some_iff_getElem.2 ⟨hj, by rw [hb]; rfl, fun k hk => by rw [h k (by omega) hk]; simp⟩]
theorem badAt_none {l : List Mem} (h : ∀ (k : Nat) (hk : k < l.length), goodM l[k] = true) : badAt l = -1 := by
 unfold badAt
 rw [List.findIdx?_eq_none_iff.2 (fun x hx => by obtain ⟨i, hi, rfl⟩ := List.getElem_of_mem hx; rw [h i hi]; rfl)]
set_option maxRecDepth 100000 in
set_option maxHeartbeats 2000000 in
theorem Bad_calls (A0 : Option Addr) (c0 : Nat) (l : List Mem) (W : World) (hT : Tabs W) (hC : Kd.C k45 W A0 l.length l) (hz : MemsZ l) :
  Calls Tryd.prog 44 #[.slice A0 l.length c0, .func (.func 45) #[] #[]] W fun e W' => e = .returned (.int .i64 (badAt l)) ∧ Below W.heap.size W W' := by
 have HC := Aside0.mk hC
 have HZ := Aside0.mk hz
 have HT := Aside0.mk hT
 have hlen : (l.length : Int) ≤ 1000000000000 := by have := hz.1; omega
 clear hC hz hT
 generalize hpost : (fun (e : Ending) (W' : World) => e = .returned (.int .i64 (badAt l)) ∧ Below W.heap.size W W') = Q
 have hQ := Aside0.mk hpost
 clear hpost
 go_enter Tryd.func44, Tryd.ntmps44
 go_wp2
 go_loopw [8] (fun i wr => ∃ n : Int, i = .int .i64 n ∧ Aside0 (BadRel l W n wr)) (fun i _ => (l.length - (intOf i)).toNat)
 case atStart => exact ⟨0, rfl, ⟨⟨by omega, by omega, fun j hj h => absurd h (by omega), Below.refl _ _⟩⟩⟩
 case round =>
  obtain ⟨n, rfl, HR⟩ := hrel
  have h0 := HR.out.1
  have h1 := HR.out.2.1
  have HB := Aside0.mk HR.out.2.2.2
  by_cases hlt : n < (l.length : Int)
  ·have c1 : decide (n < (l.length : Int)) = true := decide_eq_true hlt
   have hnl : n.toNat < l.length := by omega
   obtain ⟨ad, A7, c7, rfl, x0, x1, x2, x3, x4, x5, x6, x7, hl7, hC7⟩ := at_T45 (Kd.C_below HC.out HB.out) n h0 hlt
   have hx := rdM_at l n h0 hlt
   have hxz : MemZ (rd_T45 l n) := by rw [hx]; exact HZ.out.2 _ (List.getElem_mem _)
   generalize rd_T45 l n = x at hx hxz x0 x1 x2 x3 x4 x5 x6 x7 hl7 hC7
   have hcl := FoldBad_calls x A7 c7 wr (Tabs.below HT.out HB.out) hxz hC7 hl7
   have HX := Aside0.mk hx
   have HNL := Aside0.mk hnl
   clear hx hC7 hl7 hnl hxz
   cases hb : goodM x with
   | true =>
    rw [hb, Bool.not_true] at hcl
    unfold memCells at hcl
    have HC2 := Aside0.mk hcl
    have HLB := Aside0.mk hb
    clear hcl hb
    go_wp2_with (go_at_call 45; refine HC2.out.mono ?_; rintro e w1 ⟨rfl, hb1⟩)
    have hfin : BadRel l W (n + 1) w1 := by
     refine ⟨by omega, by omega, fun j hj hjn => ?_, HB.out.trans (hb1.mono HB.out.size)⟩
     rcases Nat.lt_or_ge j n.toNat with h | h
     ·exact HR.out.2.2.1 j hj (by omega)
     ·obtain rfl : j = n.toNat := by omega
      rw [← HX.out]; exact HLB.out
    clear hb1
    go_roundw
    case rel => exact ⟨n + 1, by go_num, ⟨hfin⟩⟩
    case measure => simp [intOf]; omega
   | false =>
    rw [hb, Bool.not_false] at hcl
    unfold memCells at hcl
    have HC2 := Aside0.mk hcl
    have HLB := Aside0.mk hb
    clear hcl hb
    go_wp2_with (go_at_call 45; refine HC2.out.mono ?_; rintro e w1 ⟨rfl, hb1⟩)
    rw [← hQ.out]
    refine ⟨?_, HB.out.trans (hb1.mono HB.out.size)⟩
    rw [badAt_some HNL.out (fun k hk hkn => HR.out.2.2.1 k hk (by omega)) (by rw [← HX.out]; exact HLB.out)]
    rw [Int.toNat_of_nonneg h0]
    rfl
  ·have c1 : decide (n < (l.length : Int)) = false := decide_eq_false hlt
   go_wp2
   rw [← hQ.out]
   refine ⟨?_, HB.out⟩
   rw [badAt_none (fun j hj => HR.out.2.2.1 j hj (by omega))]
theorem badAt_neg {l : List Mem} (h : ¬ badAt l ≥ 0) : l.findIdx? (fun m => !goodM m) = none := by
 unfold badAt at h
 cases hf : l.findIdx? (fun m => !goodM m) with
 | none => rfl
 | some i => rw [hf] at h; dsimp only at h; omega
theorem badAt_pos {l : List Mem} (h : badAt l ≥ 0) : ∃ i, l.findIdx? (fun m => !goodM m) = some i ∧ badAt l = (i : Int) := by
 unfold badAt at h ⊢
 cases hf : l.findIdx? (fun m => !goodM m) with
 | none => rw [hf] at h; dsimp only at h; omega
 | some i => exact ⟨i, rfl, rfl⟩
def FoldRel (l : List Mem) (W : World) (d : Nat) (i : Int) (wr : World) : Prop :=
 0 ≤ i ∧ i ≤ l.length ∧ (∃ s B, stepsF l i.toNat = some s ∧ FInv l i.toNat s ∧ DirS wr (W.heap.size + 1) d i.toNat l s B) ∧ Below W.heap.size W wr ∧ wr.cell? ⟨W.heap.size, 0, none⟩ = some (.int .i64 0) ∧ wr.cell? ⟨W.heap.size, 1, none⟩ = some (.int .i64 0) ∧ wr.frozen? ⟨W.heap.size, 0, none⟩ = false ∧ wr.frozen? ⟨W.heap.size, 1, none⟩ = false
def FoldPost (l : List Mem) (W : World) (e : Ending) (W' : World) : Prop := ∃ v, e = .returned (.tuple #[v, .agg #[.int .i64 (foldF l).2.1, .int .i64 (foldF l).2.2]]) ∧ Kd.V k40 40 W' W.heap.size (fun k => W.heap.size ≤ k) v (foldF l).1 ∧ Below W.heap.size W W' ∧ (0 < (foldF l).1.length → ∃ g c, v = .slice (some ⟨g, 0, none⟩) (foldF l).1.length c)
set_option maxRecDepth 100000 in
set_option maxHeartbeats 4000000 in
theorem Fold_calls (A0 : Option Addr) (c0 : Nat) (l : List Mem) (W : World) (hT : Tabs W) (hC : Kd.C k45 W A0 l.length l) (hz : MemsZ l) :
  Calls Tryd.prog 27 #[.slice A0 l.length c0] W (FoldPost l W) := by
 have hmm := @run_makeMap Tryd.prog
 have HBC := Aside0.mk (fun o => Bad_calls A0 c0 l _ (Tabs.below hT (below_alloc (Below.refl _ _) o)) (Kd.C_alloc hC o) hz)
 have HC := Aside0.mk hC
 have HZ := Aside0.mk hz
 have hlen : (l.length : Int) ≤ 1000000000000 := by have := hz.1; omega
 clear hC hz hT
 generalize hpost : FoldPost l W = Q
 have hQ := Aside0.mk hpost
 clear hpost
 by_cases hbad : badAt l ≥ 0
 ·obtain ⟨i, hi, hbi⟩ := badAt_pos hbad
  have hb2 : decide (badAt l ≥ 0) = true := decide_eq_true hbad
  have hb3 : decide (0 ≤ badAt l) = true := decide_eq_true hbad
  have HI := Aside0.mk hi
  have HBI := Aside0.mk hbi
  clear hi hbi
  go_enter Tryd.func27, Tryd.ntmps27
  go_wp2_with (go_at_call 44; refine (HBC.out _).mono ?_; rintro e w1 ⟨rfl, hb1⟩; obtain ⟨hc1, hf1⟩ := bcell hb1; have hz1 : W.heap.size < w1.heap.size := Nat.lt_of_lt_of_le (by simp) hb1.size; have HB1 := Aside0.mk hb1; clear hb1)
  have hB1 := ((Below.refl W.heap.size W).alloc (Nat.le_refl _) (.cells #[.int .i64 0, .int .i64 0] 49)).trans (HB1.out.mono (by simp))
  refine bodyPost_ret (v := .tuple #[.slice none 0 0, .agg #[.int .i64 1, .int .i64 (badAt l)]]) (by simp [results, Tryd.results27, go_sem, hc1, hz1]) rfl ?_
  rw [← hQ.out]
  refine ⟨.slice none 0 0, by rw [foldF_bad HI.out, HBI.out], by rw [foldF_bad HI.out]; exact Kd.V_nil _ _ _ _ _, ?_, by rw [foldF_bad HI.out]; intro h; cases h⟩
  repeat (with_reducible refine below_put ?_ _ _ (Nat.le_refl _) _)
  exact hB1
 ·have hg := badAt_neg hbad
  have hb2 : decide (badAt l ≥ 0) = false := decide_eq_false hbad
  have hb3 : decide (0 ≤ badAt l) = false := decide_eq_false hbad
  have HG := Aside0.mk hg
  clear hg
  go_enter Tryd.func27, Tryd.ntmps27
  go_wp2_with (go_at_call 44; refine (HBC.out _).mono ?_; rintro e w1 ⟨rfl, hb1⟩; obtain ⟨hc1, hf1⟩ := bcell hb1; have hz1 : W.heap.size < w1.heap.size := Nat.lt_of_lt_of_le (by simp) hb1.size; have HB1 := Aside0.mk hb1; clear hb1)
  have hB1 : Below W.heap.size W w1 := ((Below.refl W.heap.size W).alloc (Nat.le_refl _) (.cells #[.int .i64 0, .int .i64 0] 49)).trans (HB1.out.mono (by simp))
  have hstart : FoldRel l W w1.heap.size 0 (w1.alloc (.map #[] 0)) := by
   refine ⟨by omega, by omega, ⟨[], fun _ => 0, rfl, FInv.start l, DirS.start _ _ _ _⟩, hB1.alloc hB1.size _, ?_, ?_, ?_, ?_⟩
   ·exact fcell ((hc1 W.heap.size 0 (by simp)).trans (by simp)) _
   ·exact fcell ((hc1 W.heap.size 1 (by simp)).trans (by simp)) _
   ·exact ((below_alloc (Below.refl _ _) _).frozen (p := ⟨W.heap.size, 0, none⟩) hz1).trans ((hf1 W.heap.size 0 (by simp)).trans (by simp))
   ·exact ((below_alloc (Below.refl _ _) _).frozen (p := ⟨W.heap.size, 1, none⟩) hz1).trans ((hf1 W.heap.size 1 (by simp)).trans (by simp))
  have HST := Aside0.mk hstart
  have HDZ : Aside0 (W.heap.size < w1.heap.size) := ⟨hz1⟩
  clear hstart hB1 hc1 hf1 HB1
  go_loopw [17] (fun i wr => ∃ n : Int, i = .int .i64 n ∧ Aside0 (FoldRel l W w1.heap.size n wr)) (fun i _ => (l.length - (intOf i)).toNat)
  case atStart => exact ⟨0, rfl, HST⟩
  case round =>
   obtain ⟨n, rfl, HR⟩ := hrel
   have h0 := HR.out.1
   have h1 := HR.out.2.1
   obtain ⟨s, B, hs, hI, hD⟩ := HR.out.2.2.1
   have HB := Aside0.mk HR.out.2.2.2.1
   obtain ⟨f0, f1, f2, f3⟩ := HR.out.2.2.2.2
   have hwz := HB.out.size
   have hwlt : W.heap.size < wr.heap.size := World.block_lt_of_cell? wr _ f0
   have HS := Aside0.mk hs
   have HI := Aside0.mk hI
   have HD := Aside0.mk hD
   clear hs hI hD
   by_cases hlt : n < (l.length : Int)
   ·have c1b : decide (n < (l.length : Int)) = true := decide_eq_true hlt
    have hnl : n.toNat < l.length := by omega
    obtain ⟨ad, A7, c7, rfl, x0, x1, x2, x3, x4, x5, x6, x7, hl7, hC7⟩ := at_T45 (Kd.C_below HC.out HB.out) n h0 hlt
    have hx := rdM_at l n h0 hlt
    have hxz : MemZ (rd_T45 l n) := by rw [hx]; exact HZ.out.2 _ (List.getElem_mem _)
    have hxg : goodM (rd_T45 l n) = true := by rw [hx]; exact all_good HG.out (List.getElem_mem _)
    generalize rd_T45 l n = x at hx hxz hxg x0 x1 x2 x3 x4 x5 x6 x7 hl7 hC7
    have HLC := Aside0.mk (fun o => Lay_calls (W.heap.size + 1) w1.heap.size n.toNat l s B x A7 c7 (wr.alloc o) (by rw [hx, List.getElem?_eq_getElem hnl]) (by omega) hxz (HD.out.below (below_alloc (Below.refl _ _) o)) HI.out (by rw [World.size_alloc]; omega) (Kd.C_alloc hC7 o))
    have HX := Aside0.mk hx
    have HXZ := Aside0.mk hxz
    have HXG := Aside0.mk hxg
    have HNL := Aside0.mk hnl
    clear hx hxz hxg hnl hC7 hl7
    unfold memCells at HLC
    have hdn : ¬ W.heap.size = w1.heap.size := by have := HDZ.out; omega
    have hdlt : w1.heap.size < wr.heap.size := HD.out.1.lt
    go_wp2_with (go_at_call 46; refine (HLC.out _).mono ?_; rintro e w2 ⟨(⟨hno, rfl⟩ | ⟨s', B', hst, rfl, hD'⟩), hg2⟩; all_goals (have hc2 : ∀ j, w2.cell? ⟨W.heap.size, j, none⟩ = wr.cell? ⟨W.heap.size, j, none⟩ := (fun j => (rcell'' hg2 (by simp; omega) (fun e => by injection e with e; exact hdn e)).trans (World.cell?_of_block (a := ⟨W.heap.size, j, none⟩) ((below_alloc (Below.refl _ _) _).block _ hwlt))); have hf2 : ∀ j, w2.frozen? ⟨W.heap.size, j, none⟩ = wr.frozen? ⟨W.heap.size, j, none⟩ := (fun j => (rfroz'' hg2 (by simp; omega) (fun e => by injection e with e; exact hdn e)).trans (World.frozen?_of_block (a := ⟨W.heap.size, j, none⟩) ((below_alloc (Below.refl _ _) _).block _ hwlt))); have hz2 := hg2.size; simp only [World.size_alloc] at hz2; have HG2 := Aside0.mk hg2; clear hg2))
    ·rw [← hQ.out]
     have hB2 : Below W.heap.size W w2 := (HB.out.alloc HB.out.size _).grown HG2.out (by rw [World.size_alloc]; omega) (fun j hj => by cases hj; omega)
     have hst := foldF_stop HG.out HNL.out HS.out hno
     rw [Int.toNat_of_nonneg h0] at hst
     refine bodyPost_ret (v := .tuple #[.slice none 0 0, .agg #[.int .i64 7, .int .i64 n]]) (by simp [results, Tryd.results27, go_sem, hc2, f0, f1, hz2]) rfl ?_
     refine ⟨.slice none 0 0, by rw [hst], by rw [hst]; exact Kd.V_nil _ _ _ _ _, ?_, by rw [hst]; intro h; cases h⟩
     repeat (with_reducible refine below_put ?_ _ _ (Nat.le_refl _) _)
     exact hB2
    ·have hB2 : Below W.heap.size W w2 := (HB.out.alloc HB.out.size _).grown HG2.out (by rw [World.size_alloc]; omega) (fun j hj => by cases hj; omega)
     have hxe : l[n.toNat]'HNL.out = x := HX.out.symm
     have hfin : FoldRel l W w1.heap.size (n + 1) w2 := by
      refine ⟨by omega, by have := HNL.out; omega, ⟨s', B', ?_, ?_, ?_⟩, hB2, (hc2 0).trans f0, (hc2 1).trans f1, (hf2 0).trans f2, (hf2 1).trans f3⟩
      ·rw [show (n + 1).toNat = n.toNat + 1 from by omega, stepsF_succ HS.out]; exact hst
      ·rw [show (n + 1).toNat = n.toNat + 1 from by omega]
       exact HI.out.step HNL.out (by rw [hxe]; exact good_full HXG.out) (by rw [hxe]; exact HXZ.out.1) hst
      ·rw [show (n + 1).toNat = n.toNat + 1 from by omega]; exact hD'
     have HF := Aside0.mk hfin
     clear hfin hB2 hxe hst hD' hc2 hf2
     go_roundw
     case rel => exact ⟨n + 1, by go_num, HF⟩
     case measure => simp [intOf]; have := HNL.out; omega
   ·have c1b : decide (n < (l.length : Int)) = false := decide_eq_false hlt
    have hnl : n.toNat = l.length := by omega
    have hs := HS.out
    have hI := HI.out
    have hD := HD.out
    rw [hnl] at hs hI hD
    have hNC := Nodes_calls (W.heap.size + 1) w1.heap.size l s B wr (by omega) (fun m hm => (HZ.out.2 m hm).2.2) hD hI (by omega)
    have HNC := Aside0.mk hNC
    have HSS := Aside0.mk hs
    clear hs hI hD hNC hnl
    go_wp2_with (go_at_call 47; refine HNC.out.mono ?_; rintro e w3 ⟨v, rfl, hN, hb3⟩; obtain ⟨Av, cv, rfl⟩ := Kd.N_slice hN; have hc3 : ∀ j, w3.cell? ⟨W.heap.size, j, none⟩ = wr.cell? ⟨W.heap.size, j, none⟩ := (fun j => hb3.cell (p := ⟨W.heap.size, j, none⟩) (Nat.lt_succ_self _)); have hf3 : ∀ j, w3.frozen? ⟨W.heap.size, j, none⟩ = wr.frozen? ⟨W.heap.size, j, none⟩ := (fun j => hb3.frozen (p := ⟨W.heap.size, j, none⟩) (Nat.lt_succ_self _)); have hz3 : W.heap.size < w3.heap.size := Nat.lt_of_lt_of_le hwlt hb3.size; have HN3 := Aside0.mk hN; have HB3 := Aside0.mk hb3; clear hN hb3)
    have hst := foldF_end HG.out HSS.out
    refine bodyPost_ret (v := .tuple #[.slice Av ((sortP s).map (nodeOf l (sortP s))).length cv, .agg #[.int .i64 0, .int .i64 0]]) (by simp [results, Tryd.results27, go_sem, hc3, f0, f1, hz3]) rfl ?_
    rw [← hQ.out]
    refine ⟨_, by rw [hst], ?_, ?_, ?_⟩
    ·rw [hst]
     refine Kd.V_mono (ok := fun k => wr.heap.size ≤ k) ?_ (fun k hk => by omega)
     repeat (with_reducible refine Kd.V_far ?_ (fun k hk e => by have e' : k = W.heap.size := e; omega) _)
     exact Kd.N_V HN3.out
    ·repeat (with_reducible refine below_put ?_ _ _ (Nat.le_refl _) _)
     exact HB.out.trans (HB3.out.mono (by omega))
    ·rw [hst]
     intro hp
     obtain ⟨g, cap, he, _⟩ := Kd.N_form HN3.out hp
     exact ⟨g, cap, he⟩
end Go.Proofs.YtfljbidecljlcaaDoor

namespace Go.Proofs.YtfljbidecljlcaaDoor.Print
open Go.RowKit Go.Proofs.YtfljbidecljlcaaDoor Go.Proofs.YtfljbidecljlcaaDoorW.PrintWords Go.Proofs.YtfljbidecljlcaaDoorW.PrintLast Go.Proofs.YtfljbidecljlcaaDoorW.PrintMore
set_option linter.unusedVariables false
def tree_Fold.f (l : List S45) : Option (List S40 × Int × Int) := if memsZ l = true then some (foldF l) else none
theorem tree_Fold.calls (A0 : Option Addr) (c0 : Nat) (l0 : List S45) (r1 : List S40) (r2 r3 : Int) (w : World) (hT : Aside0 (Tabs w)) (hr0 : Kd.C k45 w A0 l0.length l0) (hc0 : l0.length ≤ c0) (h : tree_Fold.f l0 = some (r1, r2, r3)) :
  Calls Tryd.prog 27 #[.slice A0 l0.length c0] w fun e w' => ∃ v0_ : Value, e = .returned (.tuple #[v0_, .agg #[.int .i64 r2, .int .i64 r3]]) ∧ Kd.V k40 40 w' w.heap.size (fun k_ => w.heap.size ≤ k_) v0_ r1 ∧ Below w.heap.size w w' := by
 unfold tree_Fold.f at h
 split at h
 ·rename_i hc
  simp only [Option.some.injEq] at h
  refine (Fold_calls A0 c0 l0 w hT.out hr0 ((memsZ_iff l0).1 hc)).mono ?_
  rintro e w' ⟨v, rfl, hV, hB, _⟩
  rw [h] at hV ⊢
  exact ⟨v, rfl, hV, hB⟩
 ·cases h
end Go.Proofs.YtfljbidecljlcaaDoor.Print

namespace Go.Proofs.YtfljbidecljlcaaDoor.Print
open Go.RowKit Go.Proofs.YtfljbidecljlcaaDoorW.PrintWords Go.Proofs.YtfljbidecljlcaaDoorW.PrintLast Go.Proofs.YtfljbidecljlcaaDoorW.PrintMore
attribute [local go_sem] max2_int min2_int max_two min_two max_three min_three max_four min_four   -- for this text's walks alone
set_option linter.unusedVariables false
set_option linter.unusedSimpArgs false
def bindlelaw11_pair.f  : Option ((List (S40))) := some (([(⟨(⟨#[97]⟩ : ByteArray), (⟨#[]⟩ : ByteArray), (⟨#[97]⟩ : ByteArray), 48, (⟨0, 0, 0, 0⟩ : S38), ([] : List Int)⟩ : S40), (⟨(⟨#[98]⟩ : ByteArray), (⟨#[]⟩ : ByteArray), (⟨#[97]⟩ : ByteArray), 48, (⟨0, 0, 0, 0⟩ : S38), ([] : List Int)⟩ : S40)] : List (S40)))
set_option maxHeartbeats 8000000 in
set_option maxRecDepth 100000 in
theorem bindlelaw11_pair.calls  (r : List (S40)) (w : World) (h : bindlelaw11_pair.f  = some r) :
  Calls Tryd.prog 39 #[] w fun e w' => ∃ v0_ : Value, e = .returned (v0_) ∧ Kd.S k40 40 w' w.heap.size (fun _ => True) v0_ r ∧ Below w.heap.size w w' := by
 have hu40 := Tryd.underlying40
 have HB := A0_ (Below.refl w.heap.size w)
 have H : (some (([(⟨(⟨#[97]⟩ : ByteArray), (⟨#[]⟩ : ByteArray), (⟨#[97]⟩ : ByteArray), 48, (⟨0, 0, 0, 0⟩ : S38), ([] : List Int)⟩ : S40), (⟨(⟨#[98]⟩ : ByteArray), (⟨#[]⟩ : ByteArray), (⟨#[97]⟩ : ByteArray), 48, (⟨0, 0, 0, 0⟩ : S38), ([] : List Int)⟩ : S40)] : List (S40)))) = some r := h
 clear h
 obtain ⟨y103, hy103⟩ : ∃ y_ : List (S40), y_ = (([(⟨(⟨#[97]⟩ : ByteArray), (⟨#[]⟩ : ByteArray), (⟨#[97]⟩ : ByteArray), 48, (⟨0, 0, 0, 0⟩ : S38), ([] : List Int)⟩ : S40), (⟨(⟨#[98]⟩ : ByteArray), (⟨#[]⟩ : ByteArray), (⟨#[97]⟩ : ByteArray), 48, (⟨0, 0, 0, 0⟩ : S38), ([] : List Int)⟩ : S40)] : List (S40))) := ⟨_, rfl⟩
 replace H : (some y103) = some r := by first | (rw [hy103]; with_reducible exact H) | (have H2_ := (Option.bind_some _ _).symm.trans H; rw [hy103]; with_reducible exact H2_) | (have H2_ := (Option.bind_some _ _).symm.trans H; with_reducible exact H2_) | with_reducible exact H | (rw [hy103]; exact H) | exact H
 have Ny103 := A0_ hy103
 clear hy103
 obtain rfl := Option.some.inj H
 go_enter Tryd.func39, Tryd.ntmps39
 go_wp2_with (first | ((with_reducible refine gate_dst (N := 3) rfl ?_); refine Kd.S_lit k40 _ 40 ?hg (N := 3) ?hd (xs := ([(⟨(⟨#[97]⟩ : ByteArray), (⟨#[]⟩ : ByteArray), (⟨#[97]⟩ : ByteArray), 48, (⟨0, 0, 0, 0⟩ : S38), ([] : List Int)⟩ : S40), (⟨(⟨#[98]⟩ : ByteArray), (⟨#[]⟩ : ByteArray), (⟨#[97]⟩ : ByteArray), 48, (⟨0, 0, 0, 0⟩ : S38), ([] : List Int)⟩ : S40)] : List (S40))) (inner := [.string (⟨#[97]⟩ : ByteArray), .string (⟨#[]⟩ : ByteArray), .string (⟨#[97]⟩ : ByteArray), .int .u8 48, .int .i64 0, .int .i64 0, .int .i64 0, .int .i64 0, .slice none 0 0, .string (⟨#[98]⟩ : ByteArray), .string (⟨#[]⟩ : ByteArray), .string (⟨#[97]⟩ : ByteArray), .int .u8 48, .int .i64 0, .int .i64 0, .int .i64 0, .int .i64 0, .slice none 0 0]) (ok := fun _ => True) (okp := fun _ => True) ?hr ?hp (fun _ hk => hk) trivial (Below.refl _ _) (Nat.le_refl _) (by simp) ?_; (case hd => rfl); (case hg => rfl); (case hr => first | (go_simp; done) | (go_simp; rfl)); (case hp => exact (Reps.c9 (show Kd.M k40 _ _ _ (⟨(⟨#[97]⟩ : ByteArray), (⟨#[]⟩ : ByteArray), (⟨#[97]⟩ : ByteArray), 48, (⟨0, 0, 0, 0⟩ : S38), ([] : List Int)⟩ : S40) [.string (⟨#[97]⟩ : ByteArray), .string (⟨#[]⟩ : ByteArray), .string (⟨#[97]⟩ : ByteArray), .int .u8 48, .int .i64 0, .int .i64 0, .int .i64 0, .int .i64 0, .slice none 0 0] from (k40_mkM _ _ _ (⟨(⟨#[97]⟩ : ByteArray), (⟨#[]⟩ : ByteArray), (⟨#[97]⟩ : ByteArray), 48, (⟨0, 0, 0, 0⟩ : S38), ([] : List Int)⟩ : S40) (Kd.R_nil _ _ _ _ _))) (Reps.c9 (show Kd.M k40 _ _ _ (⟨(⟨#[98]⟩ : ByteArray), (⟨#[]⟩ : ByteArray), (⟨#[97]⟩ : ByteArray), 48, (⟨0, 0, 0, 0⟩ : S38), ([] : List Int)⟩ : S40) [.string (⟨#[98]⟩ : ByteArray), .string (⟨#[]⟩ : ByteArray), .string (⟨#[97]⟩ : ByteArray), .int .u8 48, .int .i64 0, .int .i64 0, .int .i64 0, .int .i64 0, .slice none 0 0] from (k40_mkM _ _ _ (⟨(⟨#[98]⟩ : ByteArray), (⟨#[]⟩ : ByteArray), (⟨#[97]⟩ : ByteArray), 48, (⟨0, 0, 0, 0⟩ : S38), ([] : List Int)⟩ : S40) (Kd.R_nil _ _ _ _ _))) (Reps.none _ _)))); intro v104 w1 ho2 hb hg_ hnew_; clear hg_ hnew_; (first | rw [← Ny103.out] at ho2 | (simp only [Int.reduceToNat] at ho2; rw [← Ny103.out] at ho2)); have n0_ := A0_ (Kd.S_lower ho2 (below_size (wb_ HB.out))); have n1_ := A0_ (below_step (wb_ HB.out) hb); clear HB; have HO105 := n0_; have HB := n1_; clear n0_ n1_; clear hb ho2))
 go_ret
 exact ⟨_, we_, wS_ HO105.out, wb_ HB.out⟩
end Go.Proofs.YtfljbidecljlcaaDoor.Print

namespace Go.Proofs.YtfljbidecljlcaaDoor.Print
open Go.RowKit Go.Proofs.YtfljbidecljlcaaDoorW.PrintWords Go.Proofs.YtfljbidecljlcaaDoorW.PrintLast Go.Proofs.YtfljbidecljlcaaDoorW.PrintMore
attribute [local go_sem] max2_int min2_int max_two min_two max_three min_three max_four min_four   -- for this text's walks alone
set_option linter.unusedVariables false
set_option linter.unusedSimpArgs false
def bindlelaw11_answers.f  : Option (Bool) := (bindlelaw11_pair.f).bind fun t106 => ((links_Members.f t106 (([(⟨#[98]⟩ : ByteArray), (⟨#[97]⟩ : ByteArray)] : List ByteArray))).bind fun bt112 => ((bindlelaw11_pair.f).bind fun t116 => ((links_Members.f t116 (([(⟨#[98]⟩ : ByteArray)] : List ByteArray))).bind fun bt122 => ((bindlelaw11_pair.f).bind fun t126 => ((links_Classes.f t126).bind fun t129 => (if bt112.2 = 0 then (if (bt112.1.length : Int) = 2 then (if 0 < (bt112.1.length : Int) then (if ((rd_T45 bt112.1 0).f2) = 48 then (if 1 < (bt112.1.length : Int) then (if ((rd_T45 bt112.1 1).f2) = 49 then (if ((rd_T45 bt112.1 1).f1).toList = ([98] : List UInt8) then (if bt122.2 = 1 then ((links_Sound.f bt112.1).bind fun t135 => (if t135 = true then ((links_Sound.f (([(⟨(⟨#[]⟩ : ByteArray), (⟨#[]⟩ : ByteArray), 0, (⟨0, 0, 0, 0⟩ : S38), ([] : List Int)⟩ : S45)] : List (S45)))).bind fun t139 => (if t139 = true then (some false) else (if (t129.length : Int) = 1 then (if 0 < (t129.length : Int) then (some (((rd_L8 t129 0).length : Int) == 2)) else (none)) else (some false)))) else (some false))) else (some false)) else (some false)) else (some false)) else (none)) else (some false)) else (none)) else (some false)) else (some false)))))))
theorem bindlelaw11_answers.val : bindlelaw11_answers.f = some true := by kernel_rfl
set_option maxHeartbeats 8000000 in
set_option maxRecDepth 100000 in
theorem bindlelaw11_answers.calls  (r : Bool) (w : World) (hT : Aside0 (Tabs w)) (h : bindlelaw11_answers.f  = some r) :
  Calls Tryd.prog 15 #[] w fun e w' => e = .returned (.bool r) ∧ Below w.heap.size w w' := by
 have hr_ : r = true := Option.some.inj (h.symm.trans bindlelaw11_answers.val)
 have hu45 := Tryd.underlying45
 have HB := A0_ (Below.refl w.heap.size w)
 have H : ((bindlelaw11_pair.f).bind fun t106 => ((links_Members.f t106 (([(⟨#[98]⟩ : ByteArray), (⟨#[97]⟩ : ByteArray)] : List ByteArray))).bind fun bt112 => ((bindlelaw11_pair.f).bind fun t116 => ((links_Members.f t116 (([(⟨#[98]⟩ : ByteArray)] : List ByteArray))).bind fun bt122 => ((bindlelaw11_pair.f).bind fun t126 => ((links_Classes.f t126).bind fun t129 => (if bt112.2 = 0 then (if (bt112.1.length : Int) = 2 then (if 0 < (bt112.1.length : Int) then (if ((rd_T45 bt112.1 0).f2) = 48 then (if 1 < (bt112.1.length : Int) then (if ((rd_T45 bt112.1 1).f2) = 49 then (if ((rd_T45 bt112.1 1).f1).toList = ([98] : List UInt8) then (if bt122.2 = 1 then ((links_Sound.f bt112.1).bind fun t135 => (if t135 = true then ((links_Sound.f (([(⟨(⟨#[]⟩ : ByteArray), (⟨#[]⟩ : ByteArray), 0, (⟨0, 0, 0, 0⟩ : S38), ([] : List Int)⟩ : S45)] : List (S45)))).bind fun t139 => (if t139 = true then (some false) else (if (t129.length : Int) = 1 then (if 0 < (t129.length : Int) then (some (((rd_L8 t129 0).length : Int) == 2)) else (none)) else (some false)))) else (some false))) else (some false)) else (some false)) else (some false)) else (none)) else (some false)) else (none)) else (some false)) else (some false)))))))) = some r := h
 clear h
 replace H := Option.bind_eq_some_iff.mp H
 obtain ⟨t106, A10, H⟩ := H
 replace H : ((links_Members.f t106 (([(⟨#[98]⟩ : ByteArray), (⟨#[97]⟩ : ByteArray)] : List ByteArray))).bind fun bt112 => ((bindlelaw11_pair.f).bind fun t116 => ((links_Members.f t116 (([(⟨#[98]⟩ : ByteArray)] : List ByteArray))).bind fun bt122 => ((bindlelaw11_pair.f).bind fun t126 => ((links_Classes.f t126).bind fun t129 => (if bt112.2 = 0 then (if (bt112.1.length : Int) = 2 then (if 0 < (bt112.1.length : Int) then (if ((rd_T45 bt112.1 0).f2) = 48 then (if 1 < (bt112.1.length : Int) then (if ((rd_T45 bt112.1 1).f2) = 49 then (if ((rd_T45 bt112.1 1).f1).toList = ([98] : List UInt8) then (if bt122.2 = 1 then ((links_Sound.f bt112.1).bind fun t135 => (if t135 = true then ((links_Sound.f (([(⟨(⟨#[]⟩ : ByteArray), (⟨#[]⟩ : ByteArray), 0, (⟨0, 0, 0, 0⟩ : S38), ([] : List Int)⟩ : S45)] : List (S45)))).bind fun t139 => (if t139 = true then (some false) else (if (t129.length : Int) = 1 then (if 0 < (t129.length : Int) then (some (((rd_L8 t129 0).length : Int) == 2)) else (none)) else (some false)))) else (some false))) else (some false)) else (some false)) else (some false)) else (none)) else (some false)) else (none)) else (some false)) else (some false))))))) = some r := H
 have A1 := A0_ A10
 clear A10
 obtain ⟨y109, hy109⟩ : ∃ y_ : List ByteArray, y_ = (([(⟨#[98]⟩ : ByteArray), (⟨#[97]⟩ : ByteArray)] : List ByteArray)) := ⟨_, rfl⟩
 replace H : ((links_Members.f t106 y109).bind fun bt112 => ((bindlelaw11_pair.f).bind fun t116 => ((links_Members.f t116 (([(⟨#[98]⟩ : ByteArray)] : List ByteArray))).bind fun bt122 => ((bindlelaw11_pair.f).bind fun t126 => ((links_Classes.f t126).bind fun t129 => (if bt112.2 = 0 then (if (bt112.1.length : Int) = 2 then (if 0 < (bt112.1.length : Int) then (if ((rd_T45 bt112.1 0).f2) = 48 then (if 1 < (bt112.1.length : Int) then (if ((rd_T45 bt112.1 1).f2) = 49 then (if ((rd_T45 bt112.1 1).f1).toList = ([98] : List UInt8) then (if bt122.2 = 1 then ((links_Sound.f bt112.1).bind fun t135 => (if t135 = true then ((links_Sound.f (([(⟨(⟨#[]⟩ : ByteArray), (⟨#[]⟩ : ByteArray), 0, (⟨0, 0, 0, 0⟩ : S38), ([] : List Int)⟩ : S45)] : List (S45)))).bind fun t139 => (if t139 = true then (some false) else (if (t129.length : Int) = 1 then (if 0 < (t129.length : Int) then (some (((rd_L8 t129 0).length : Int) == 2)) else (none)) else (some false)))) else (some false))) else (some false)) else (some false)) else (some false)) else (none)) else (some false)) else (none)) else (some false)) else (some false))))))) = some r := by first | (rw [hy109]; with_reducible exact H) | (have H2_ := (Option.bind_some _ _).symm.trans H; rw [hy109]; with_reducible exact H2_) | (have H2_ := (Option.bind_some _ _).symm.trans H; with_reducible exact H2_) | with_reducible exact H | (rw [hy109]; exact H) | exact H
 have Ny109 := A0_ hy109
 clear hy109
 replace H := Option.bind_eq_some_iff.mp H
 obtain ⟨⟨t112, t115⟩, A20, H⟩ := H
 replace H : ((bindlelaw11_pair.f).bind fun t116 => ((links_Members.f t116 (([(⟨#[98]⟩ : ByteArray)] : List ByteArray))).bind fun bt122 => ((bindlelaw11_pair.f).bind fun t126 => ((links_Classes.f t126).bind fun t129 => (if t115 = 0 then (if (t112.length : Int) = 2 then (if 0 < (t112.length : Int) then (if ((rd_T45 t112 0).f2) = 48 then (if 1 < (t112.length : Int) then (if ((rd_T45 t112 1).f2) = 49 then (if ((rd_T45 t112 1).f1).toList = ([98] : List UInt8) then (if bt122.2 = 1 then ((links_Sound.f t112).bind fun t135 => (if t135 = true then ((links_Sound.f (([(⟨(⟨#[]⟩ : ByteArray), (⟨#[]⟩ : ByteArray), 0, (⟨0, 0, 0, 0⟩ : S38), ([] : List Int)⟩ : S45)] : List (S45)))).bind fun t139 => (if t139 = true then (some false) else (if (t129.length : Int) = 1 then (if 0 < (t129.length : Int) then (some (((rd_L8 t129 0).length : Int) == 2)) else (none)) else (some false)))) else (some false))) else (some false)) else (some false)) else (some false)) else (none)) else (some false)) else (none)) else (some false)) else (some false)))))) = some r := H
 have A2 := A0_ A20
 clear A20
 replace H := Option.bind_eq_some_iff.mp H
 obtain ⟨t116, A30, H⟩ := H
 replace H : ((links_Members.f t116 (([(⟨#[98]⟩ : ByteArray)] : List ByteArray))).bind fun bt122 => ((bindlelaw11_pair.f).bind fun t126 => ((links_Classes.f t126).bind fun t129 => (if t115 = 0 then (if (t112.length : Int) = 2 then (if 0 < (t112.length : Int) then (if ((rd_T45 t112 0).f2) = 48 then (if 1 < (t112.length : Int) then (if ((rd_T45 t112 1).f2) = 49 then (if ((rd_T45 t112 1).f1).toList = ([98] : List UInt8) then (if bt122.2 = 1 then ((links_Sound.f t112).bind fun t135 => (if t135 = true then ((links_Sound.f (([(⟨(⟨#[]⟩ : ByteArray), (⟨#[]⟩ : ByteArray), 0, (⟨0, 0, 0, 0⟩ : S38), ([] : List Int)⟩ : S45)] : List (S45)))).bind fun t139 => (if t139 = true then (some false) else (if (t129.length : Int) = 1 then (if 0 < (t129.length : Int) then (some (((rd_L8 t129 0).length : Int) == 2)) else (none)) else (some false)))) else (some false))) else (some false)) else (some false)) else (some false)) else (none)) else (some false)) else (none)) else (some false)) else (some false))))) = some r := H
 have A3 := A0_ A30
 clear A30
 obtain ⟨y119, hy119⟩ : ∃ y_ : List ByteArray, y_ = (([(⟨#[98]⟩ : ByteArray)] : List ByteArray)) := ⟨_, rfl⟩
 replace H : ((links_Members.f t116 y119).bind fun bt122 => ((bindlelaw11_pair.f).bind fun t126 => ((links_Classes.f t126).bind fun t129 => (if t115 = 0 then (if (t112.length : Int) = 2 then (if 0 < (t112.length : Int) then (if ((rd_T45 t112 0).f2) = 48 then (if 1 < (t112.length : Int) then (if ((rd_T45 t112 1).f2) = 49 then (if ((rd_T45 t112 1).f1).toList = ([98] : List UInt8) then (if bt122.2 = 1 then ((links_Sound.f t112).bind fun t135 => (if t135 = true then ((links_Sound.f (([(⟨(⟨#[]⟩ : ByteArray), (⟨#[]⟩ : ByteArray), 0, (⟨0, 0, 0, 0⟩ : S38), ([] : List Int)⟩ : S45)] : List (S45)))).bind fun t139 => (if t139 = true then (some false) else (if (t129.length : Int) = 1 then (if 0 < (t129.length : Int) then (some (((rd_L8 t129 0).length : Int) == 2)) else (none)) else (some false)))) else (some false))) else (some false)) else (some false)) else (some false)) else (none)) else (some false)) else (none)) else (some false)) else (some false))))) = some r := by first | (rw [hy119]; with_reducible exact H) | (have H2_ := (Option.bind_some _ _).symm.trans H; rw [hy119]; with_reducible exact H2_) | (have H2_ := (Option.bind_some _ _).symm.trans H; with_reducible exact H2_) | with_reducible exact H | (rw [hy119]; exact H) | exact H
 have Ny119 := A0_ hy119
 clear hy119
 replace H := Option.bind_eq_some_iff.mp H
 obtain ⟨⟨t122, t125⟩, A40, H⟩ := H
 replace H : ((bindlelaw11_pair.f).bind fun t126 => ((links_Classes.f t126).bind fun t129 => (if t115 = 0 then (if (t112.length : Int) = 2 then (if 0 < (t112.length : Int) then (if ((rd_T45 t112 0).f2) = 48 then (if 1 < (t112.length : Int) then (if ((rd_T45 t112 1).f2) = 49 then (if ((rd_T45 t112 1).f1).toList = ([98] : List UInt8) then (if t125 = 1 then ((links_Sound.f t112).bind fun t135 => (if t135 = true then ((links_Sound.f (([(⟨(⟨#[]⟩ : ByteArray), (⟨#[]⟩ : ByteArray), 0, (⟨0, 0, 0, 0⟩ : S38), ([] : List Int)⟩ : S45)] : List (S45)))).bind fun t139 => (if t139 = true then (some false) else (if (t129.length : Int) = 1 then (if 0 < (t129.length : Int) then (some (((rd_L8 t129 0).length : Int) == 2)) else (none)) else (some false)))) else (some false))) else (some false)) else (some false)) else (some false)) else (none)) else (some false)) else (none)) else (some false)) else (some false)))) = some r := H
 have A4 := A0_ A40
 clear A40
 replace H := Option.bind_eq_some_iff.mp H
 obtain ⟨t126, A50, H⟩ := H
 replace H : ((links_Classes.f t126).bind fun t129 => (if t115 = 0 then (if (t112.length : Int) = 2 then (if 0 < (t112.length : Int) then (if ((rd_T45 t112 0).f2) = 48 then (if 1 < (t112.length : Int) then (if ((rd_T45 t112 1).f2) = 49 then (if ((rd_T45 t112 1).f1).toList = ([98] : List UInt8) then (if t125 = 1 then ((links_Sound.f t112).bind fun t135 => (if t135 = true then ((links_Sound.f (([(⟨(⟨#[]⟩ : ByteArray), (⟨#[]⟩ : ByteArray), 0, (⟨0, 0, 0, 0⟩ : S38), ([] : List Int)⟩ : S45)] : List (S45)))).bind fun t139 => (if t139 = true then (some false) else (if (t129.length : Int) = 1 then (if 0 < (t129.length : Int) then (some (((rd_L8 t129 0).length : Int) == 2)) else (none)) else (some false)))) else (some false))) else (some false)) else (some false)) else (some false)) else (none)) else (some false)) else (none)) else (some false)) else (some false))) = some r := H
 have A5 := A0_ A50
 clear A50
 replace H := Option.bind_eq_some_iff.mp H
 obtain ⟨t129, A60, H⟩ := H
 replace H : (if t115 = 0 then (if (t112.length : Int) = 2 then (if 0 < (t112.length : Int) then (if ((rd_T45 t112 0).f2) = 48 then (if 1 < (t112.length : Int) then (if ((rd_T45 t112 1).f2) = 49 then (if ((rd_T45 t112 1).f1).toList = ([98] : List UInt8) then (if t125 = 1 then ((links_Sound.f t112).bind fun t135 => (if t135 = true then ((links_Sound.f (([(⟨(⟨#[]⟩ : ByteArray), (⟨#[]⟩ : ByteArray), 0, (⟨0, 0, 0, 0⟩ : S38), ([] : List Int)⟩ : S45)] : List (S45)))).bind fun t139 => (if t139 = true then (some false) else (if (t129.length : Int) = 1 then (if 0 < (t129.length : Int) then (some (((rd_L8 t129 0).length : Int) == 2)) else (none)) else (some false)))) else (some false))) else (some false)) else (some false)) else (some false)) else (none)) else (some false)) else (none)) else (some false)) else (some false)) = some r := H
 have A6 := A0_ A60
 clear A60
 by_cases c7 : t115 = 0
 rotate_left
 ·rw [if_neg c7] at H
  have c7b0 : (t115 == 0) = false := beq_eq_false_iff_ne.mpr c7
  have c7b1 : (t115 != 0) = true := bne_iff_ne.mpr c7
  exact absurd ((Option.some.inj H).trans hr_) (by decide)
 rw [if_pos c7] at H
 have c7b0 : (t115 == 0) = true := beq_iff_eq.mpr c7
 have c7b1 : (t115 != 0) = false := bne_eq_false_iff_eq.mpr c7
 clear c7
 by_cases c8 : (t112.length : Int) = 2
 rotate_left
 ·rw [if_neg c8] at H
  have c8b0 : ((t112.length : Int) == 2) = false := beq_eq_false_iff_ne.mpr c8
  have c8b1 : ((t112.length : Int) != 2) = true := bne_iff_ne.mpr c8
  exact absurd ((Option.some.inj H).trans hr_) (by decide)
 rw [if_pos c8] at H
 have c8b0 : ((t112.length : Int) == 2) = true := beq_iff_eq.mpr c8
 have c8b1 : ((t112.length : Int) != 2) = false := bne_eq_false_iff_eq.mpr c8
 clear c8
 by_cases c9 : 0 < (t112.length : Int)
 rotate_left
 ·rw [if_neg c9] at H
  exact absurd H (by simp)
 rw [if_pos c9] at H
 have c9b0 : decide (0 < (t112.length : Int)) = true := decide_eq_true c9
 have c9b1 : decide (0 < t112.length) = true := decide_eq_true (by omega)
 clear c9
 by_cases c10 : ((rd_T45 t112 0).f2) = 48
 rotate_left
 ·rw [if_neg c10] at H
  have c10b0 : (((rd_T45 t112 0).f2) == 48) = false := beq_eq_false_iff_ne.mpr c10
  have c10b1 : (((rd_T45 t112 0).f2) != 48) = true := bne_iff_ne.mpr c10
  exact absurd ((Option.some.inj H).trans hr_) (by decide)
 rw [if_pos c10] at H
 have c10b0 : (((rd_T45 t112 0).f2) == 48) = true := beq_iff_eq.mpr c10
 have c10b1 : (((rd_T45 t112 0).f2) != 48) = false := bne_eq_false_iff_eq.mpr c10
 clear c10
 by_cases c11 : 1 < (t112.length : Int)
 rotate_left
 ·rw [if_neg c11] at H
  exact absurd H (by simp)
 rw [if_pos c11] at H
 have c11b0 : decide (1 < (t112.length : Int)) = true := decide_eq_true c11
 have c11b1 : decide (1 < t112.length) = true := decide_eq_true (by omega)
 clear c11
 by_cases c12 : ((rd_T45 t112 1).f2) = 49
 rotate_left
 ·rw [if_neg c12] at H
  have c12b0 : (((rd_T45 t112 1).f2) == 49) = false := beq_eq_false_iff_ne.mpr c12
  have c12b1 : (((rd_T45 t112 1).f2) != 49) = true := bne_iff_ne.mpr c12
  exact absurd ((Option.some.inj H).trans hr_) (by decide)
 rw [if_pos c12] at H
 have c12b0 : (((rd_T45 t112 1).f2) == 49) = true := beq_iff_eq.mpr c12
 have c12b1 : (((rd_T45 t112 1).f2) != 49) = false := bne_eq_false_iff_eq.mpr c12
 clear c12
 by_cases c13 : ((rd_T45 t112 1).f1).toList = ([98] : List UInt8)
 rotate_left
 ·rw [if_neg c13] at H
  have c13b0 : (((rd_T45 t112 1).f1).toList == ([98] : List UInt8)) = false := beq_eq_false_iff_ne.mpr c13
  have c13b1 : (((rd_T45 t112 1).f1).toList != ([98] : List UInt8)) = true := bne_iff_ne.mpr c13
  exact absurd ((Option.some.inj H).trans hr_) (by decide)
 rw [if_pos c13] at H
 have c13b0 : (((rd_T45 t112 1).f1).toList == ([98] : List UInt8)) = true := beq_iff_eq.mpr c13
 have c13b1 : (((rd_T45 t112 1).f1).toList != ([98] : List UInt8)) = false := bne_eq_false_iff_eq.mpr c13
 clear c13
 by_cases c14 : t125 = 1
 rotate_left
 ·rw [if_neg c14] at H
  have c14b0 : (t125 == 1) = false := beq_eq_false_iff_ne.mpr c14
  have c14b1 : (t125 != 1) = true := bne_iff_ne.mpr c14
  exact absurd ((Option.some.inj H).trans hr_) (by decide)
 rw [if_pos c14] at H
 have c14b0 : (t125 == 1) = true := beq_iff_eq.mpr c14
 have c14b1 : (t125 != 1) = false := bne_eq_false_iff_eq.mpr c14
 clear c14
 replace H := Option.bind_eq_some_iff.mp H
 obtain ⟨t135, A150, H⟩ := H
 replace H : (if t135 = true then ((links_Sound.f (([(⟨(⟨#[]⟩ : ByteArray), (⟨#[]⟩ : ByteArray), 0, (⟨0, 0, 0, 0⟩ : S38), ([] : List Int)⟩ : S45)] : List (S45)))).bind fun t139 => (if t139 = true then (some false) else (if (t129.length : Int) = 1 then (if 0 < (t129.length : Int) then (some (((rd_L8 t129 0).length : Int) == 2)) else (none)) else (some false)))) else (some false)) = some r := H
 have A15 := A0_ A150
 clear A150
 by_cases c16 : t135 = true
 rotate_left
 ·replace c16 := Bool.eq_false_iff.mpr c16
  subst c16
  have H1 : (some false) = some r := by rw [if_neg (show ¬ (false = true) by decide)] at H; exact H
  clear H
  have H := H1
  clear H1
  exact absurd ((Option.some.inj H).trans hr_) (by decide)
 subst c16
 have H1 : ((links_Sound.f (([(⟨(⟨#[]⟩ : ByteArray), (⟨#[]⟩ : ByteArray), 0, (⟨0, 0, 0, 0⟩ : S38), ([] : List Int)⟩ : S45)] : List (S45)))).bind fun t139 => (if t139 = true then (some false) else (if (t129.length : Int) = 1 then (if 0 < (t129.length : Int) then (some (((rd_L8 t129 0).length : Int) == 2)) else (none)) else (some false)))) = some r := by rw [if_pos rfl] at H; exact H
 clear H
 have H := H1
 clear H1
 obtain ⟨y136, hy136⟩ : ∃ y_ : List (S45), y_ = (([(⟨(⟨#[]⟩ : ByteArray), (⟨#[]⟩ : ByteArray), 0, (⟨0, 0, 0, 0⟩ : S38), ([] : List Int)⟩ : S45)] : List (S45))) := ⟨_, rfl⟩
 replace H : ((links_Sound.f y136).bind fun t139 => (if t139 = true then (some false) else (if (t129.length : Int) = 1 then (if 0 < (t129.length : Int) then (some (((rd_L8 t129 0).length : Int) == 2)) else (none)) else (some false)))) = some r := by first | (rw [hy136]; with_reducible exact H) | (have H2_ := (Option.bind_some _ _).symm.trans H; rw [hy136]; with_reducible exact H2_) | (have H2_ := (Option.bind_some _ _).symm.trans H; with_reducible exact H2_) | with_reducible exact H | (rw [hy136]; exact H) | exact H
 have Ny136 := A0_ hy136
 clear hy136
 replace H := Option.bind_eq_some_iff.mp H
 obtain ⟨t139, A170, H⟩ := H
 replace H : (if t139 = true then (some false) else (if (t129.length : Int) = 1 then (if 0 < (t129.length : Int) then (some (((rd_L8 t129 0).length : Int) == 2)) else (none)) else (some false))) = some r := H
 have A17 := A0_ A170
 clear A170
 by_cases c18 : t139 = true
 ·subst c18
  have H1 : (some false) = some r := by rw [if_pos rfl] at H; exact H
  clear H
  have H := H1
  clear H1
  exact absurd ((Option.some.inj H).trans hr_) (by decide)
 replace c18 := Bool.eq_false_iff.mpr c18
 subst c18
 have H1 : (if (t129.length : Int) = 1 then (if 0 < (t129.length : Int) then (some (((rd_L8 t129 0).length : Int) == 2)) else (none)) else (some false)) = some r := by rw [if_neg (show ¬ (false = true) by decide)] at H; exact H
 clear H
 have H := H1
 clear H1
 by_cases c40 : (t129.length : Int) = 1
 rotate_left
 ·rw [if_neg c40] at H
  have c40b0 : ((t129.length : Int) == 1) = false := beq_eq_false_iff_ne.mpr c40
  have c40b1 : ((t129.length : Int) != 1) = true := bne_iff_ne.mpr c40
  exact absurd ((Option.some.inj H).trans hr_) (by decide)
 rw [if_pos c40] at H
 have c40b0 : ((t129.length : Int) == 1) = true := beq_iff_eq.mpr c40
 have c40b1 : ((t129.length : Int) != 1) = false := bne_eq_false_iff_eq.mpr c40
 clear c40
 by_cases c41 : 0 < (t129.length : Int)
 rotate_left
 ·rw [if_neg c41] at H
  exact absurd H (by simp)
 rw [if_pos c41] at H
 have c41b0 : decide (0 < (t129.length : Int)) = true := decide_eq_true c41
 have c41b1 : decide (0 < t129.length) = true := decide_eq_true (by omega)
 clear c41
 clear hr_
 obtain rfl := Option.some.inj H
 go_enter Tryd.func15, Tryd.ntmps15
 go_wp2_with (first | ((with_reducible refine gate_callee (f := 39) rfl ?_); refine goesL_ (some 7) rfl rfl Tryd.func39 (by kernel_rfl) rfl #[] rfl wm_ ?_; (with_reducible refine (bindlelaw11_pair.calls  t106 _ A1.out).mono ?_); rintro e w42 ⟨v107, rfl, ho0, hb⟩; refine ⟨_, rfl, ?_⟩; have n0_ := A0_ (Kd.S_lower ho0 (below_size (wb_ HB.out))); have n1_ := A0_ (below_step (wb_ HB.out) hb); clear HB; have HO108 := n0_; have HB := n1_; clear n0_ n1_; (try clear hb); (try clear hb2); (try clear hk); (try clear hi); (try clear ho0)) | ((with_reducible refine gate_dst (N := 8) rfl ?_); (try (refine gate_guard (by rfl) ?_; dsimp only)); refine Kd.R_lit Kd.string _ 9 ?hg (N := 8) ?hd (xs := ([(⟨#[98]⟩ : ByteArray), (⟨#[97]⟩ : ByteArray)] : List ByteArray)) (inner := [.string (⟨#[98]⟩ : ByteArray), .string (⟨#[97]⟩ : ByteArray)]) (ok := fun _ => True) (okp := fun _ => True) ?hr ?hp (fun _ hk => hk) trivial (Below.refl _ _) (Nat.le_refl _) (by simp) ?_; (case hd => rfl); (case hg => rfl); (case hr => first | (go_simp; done) | (go_simp; rfl)); (case hp => exact (Reps.one (show Kd.M Kd.string _ _ _ (⟨#[98]⟩ : ByteArray) [.string (⟨#[98]⟩ : ByteArray)] from rfl) (Reps.one (show Kd.M Kd.string _ _ _ (⟨#[97]⟩ : ByteArray) [.string (⟨#[97]⟩ : ByteArray)] from rfl) (Reps.none _ _)))); intro v110 w43 ho44 hb hg_ hnew_; clear hg_ hnew_; (first | rw [← Ny109.out] at ho44 | (simp only [Int.reduceToNat] at ho44; rw [← Ny109.out] at ho44)); have n0_ := A0_ (Sb_ (wS_ HO108.out) hb); have n1_ := A0_ (Kd.R_lower ho44 (below_size (wb_ HB.out))); have n2_ := A0_ (below_step (wb_ HB.out) hb); clear HO108; clear HB; have HO108 := n0_; have HO111 := n1_; have HB := n2_; clear n0_ n1_ n2_; clear hb ho44; obtain ⟨Ao45, co45, eo45⟩ := Kd.S_slice HO108.out; subst eo45; obtain ⟨Ao46, co46, eo46⟩ := Kd.R_slice HO111.out; subst eo46) | ((with_reducible refine gate_callee (f := 17) rfl ?_); refine goesL_ (some 9) rfl rfl Tryd.func17 (by kernel_rfl) rfl #[.slice Ao45 t106.length co45, .slice Ao46 y109.length co46] rfl wm_ ?_; (with_reducible refine (links_Members.calls _ _ t106 _ _ y109 t112 t115 _ ?side1 ?side2 ?side3 ?side4 A2.out).mono ?_); (case side1 => exact wc_ (Kd.S_reads' HO108.out).2.2); (case side2 => exact (Kd.S_reads' HO108.out).2.1); (case side3 => exact wc_ (Kd.R_reads' HO111.out).2.2); (case side4 => exact (Kd.R_reads' HO111.out).2.1); rintro e w47 ⟨v113, rfl, ho0, hb⟩; refine ⟨_, rfl, ?_⟩; have n0_ := A0_ (Sb_ (wS_ HO108.out) hb); have n1_ := A0_ (Rb_ (wR_ HO111.out) hb); have n2_ := A0_ (Kd.V_lower (Kd.V_mono (ok' := fun k_ => some k_ ≠ (.slice Ao45 t106.length co45 : Value).ownBlock ∧ some k_ ≠ (.slice Ao46 y109.length co46 : Value).ownBlock) ho0 (fun k_ hk_ => ⟨(Kd.fresh' (Kd.S_lt (wS_ HO108.out)) k_ hk_), (Kd.fresh' (Kd.R_lt (wR_ HO111.out)) k_ hk_)⟩)) (below_size (wb_ HB.out))); have n3_ := A0_ (below_step (wb_ HB.out) hb); clear HO108; clear HO111; clear HB; have HO108 := n0_; have HO111 := n1_; have HO114 := n2_; have HB := n3_; clear n0_ n1_ n2_ n3_; (try clear hb); (try clear hb2); (try clear hk); (try clear hi); (try clear ho0)) | ((with_reducible refine gate_callee (f := 39) rfl ?_); refine goesL_ (some 13) rfl rfl Tryd.func39 (by kernel_rfl) rfl #[] rfl wm_ ?_; (with_reducible refine (bindlelaw11_pair.calls  t116 _ A3.out).mono ?_); rintro e w48 ⟨v117, rfl, ho0, hb⟩; refine ⟨_, rfl, ?_⟩; have n0_ := A0_ (Kd.S_elder' (wS_ HO108.out) (Kd.S_base ho0) hb); have n1_ := A0_ (Rb_ (wR_ HO111.out) hb); have n2_ := A0_ (Kd.V_elder' (wV_ HO114.out) (Kd.S_base ho0) hb); have n3_ := A0_ (Kd.S_lower (Kd.S_new' ho0 (Kd.S_lt (wS_ HO108.out))) (below_size (wb_ HB.out))); have n4_ := A0_ (below_step (wb_ HB.out) hb); clear HO108; clear HO111; clear HO114; clear HB; have HO108 := n0_; have HO111 := n1_; have HO114 := n2_; have HO118 := n3_; have HB := n4_; clear n0_ n1_ n2_ n3_ n4_; (try clear hb); (try clear hb2); (try clear hk); (try clear hi); (try clear ho0)) | ((with_reducible refine gate_dst (N := 14) rfl ?_); (try (refine gate_guard (by rfl) ?_; dsimp only)); refine Kd.R_lit Kd.string _ 9 ?hg (N := 14) ?hd (xs := ([(⟨#[98]⟩ : ByteArray)] : List ByteArray)) (inner := [.string (⟨#[98]⟩ : ByteArray)]) (ok := fun _ => True) (okp := fun _ => True) ?hr ?hp (fun _ hk => hk) trivial (Below.refl _ _) (Nat.le_refl _) (by simp) ?_; (case hd => rfl); (case hg => rfl); (case hr => first | (go_simp; done) | (go_simp; rfl)); (case hp => exact (Reps.one (show Kd.M Kd.string _ _ _ (⟨#[98]⟩ : ByteArray) [.string (⟨#[98]⟩ : ByteArray)] from rfl) (Reps.none _ _))); intro v120 w49 ho50 hb hg_ hnew_; clear hg_ hnew_; (first | rw [← Ny119.out] at ho50 | (simp only [Int.reduceToNat] at ho50; rw [← Ny119.out] at ho50)); have n0_ := A0_ (Sb_ (wS_ HO108.out) hb); have n1_ := A0_ (Kd.R_elder' (wR_ HO111.out) (Kd.R_base ho50) hb); have n2_ := A0_ (Kd.V_elder' (wV_ HO114.out) (Kd.R_base ho50) hb); have n3_ := A0_ (Sb_ (wS_ HO118.out) hb); have n4_ := A0_ (Kd.R_lower (Kd.R_new' ho50 (Kd.R_lt (wR_ HO111.out))) (below_size (wb_ HB.out))); have n5_ := A0_ (below_step (wb_ HB.out) hb); clear HO108; clear HO111; clear HO114; clear HO118; clear HB; have HO108 := n0_; have HO111 := n1_; have HO114 := n2_; have HO118 := n3_; have HO121 := n4_; have HB := n5_; clear n0_ n1_ n2_ n3_ n4_ n5_; clear hb ho50; obtain ⟨Ao51, co51, eo51⟩ := Kd.S_slice HO118.out; subst eo51; obtain ⟨Ao52, co52, eo52⟩ := Kd.R_slice HO121.out; subst eo52) | ((with_reducible refine gate_callee (f := 17) rfl ?_); refine goesL_ (some 15) rfl rfl Tryd.func17 (by kernel_rfl) rfl #[.slice Ao51 t116.length co51, .slice Ao52 y119.length co52] rfl wm_ ?_; (with_reducible refine (links_Members.calls _ _ t116 _ _ y119 t122 t125 _ ?side1 ?side2 ?side3 ?side4 A4.out).mono ?_); (case side1 => exact wc_ (Kd.S_reads' HO118.out).2.2); (case side2 => exact (Kd.S_reads' HO118.out).2.1); (case side3 => exact wc_ (Kd.R_reads' HO121.out).2.2); (case side4 => exact (Kd.R_reads' HO121.out).2.1); rintro e w53 ⟨v123, rfl, ho0, hb⟩; refine ⟨_, rfl, ?_⟩; have n0_ := A0_ (Sb_ (wS_ HO108.out) hb); have n1_ := A0_ (Rb_ (wR_ HO111.out) hb); have n2_ := A0_ (Vb_ (wV_ HO114.out) hb); have n3_ := A0_ (Sb_ (wS_ HO118.out) hb); have n4_ := A0_ (Rb_ (wR_ HO121.out) hb); have n5_ := A0_ (Kd.V_lower (Kd.V_mono (ok' := fun k_ => some k_ ≠ (.slice Ao45 t106.length co45 : Value).ownBlock ∧ some k_ ≠ (.slice Ao46 y109.length co46 : Value).ownBlock ∧ some k_ ≠ (.slice Ao51 t116.length co51 : Value).ownBlock ∧ some k_ ≠ (.slice Ao52 y119.length co52 : Value).ownBlock) ho0 (fun k_ hk_ => ⟨(Kd.fresh' (Kd.S_lt (wS_ HO108.out)) k_ hk_), (Kd.fresh' (Kd.R_lt (wR_ HO111.out)) k_ hk_), (Kd.fresh' (Kd.S_lt (wS_ HO118.out)) k_ hk_), (Kd.fresh' (Kd.R_lt (wR_ HO121.out)) k_ hk_)⟩)) (below_size (wb_ HB.out))); have n6_ := A0_ (below_step (wb_ HB.out) hb); clear HO108; clear HO111; clear HO114; clear HO118; clear HO121; clear HB; have HO108 := n0_; have HO111 := n1_; have HO114 := n2_; have HO118 := n3_; have HO121 := n4_; have HO124 := n5_; have HB := n6_; clear n0_ n1_ n2_ n3_ n4_ n5_ n6_; (try clear hb); (try clear hb2); (try clear hk); (try clear hi); (try clear ho0)) | ((with_reducible refine gate_callee (f := 39) rfl ?_); refine goesL_ (some 18) rfl rfl Tryd.func39 (by kernel_rfl) rfl #[] rfl wm_ ?_; (with_reducible refine (bindlelaw11_pair.calls  t126 _ A5.out).mono ?_); rintro e w54 ⟨v127, rfl, ho0, hb⟩; refine ⟨_, rfl, ?_⟩; have n0_ := A0_ (Kd.S_elder' (wS_ HO108.out) (Kd.S_base ho0) hb); have n1_ := A0_ (Rb_ (wR_ HO111.out) hb); have n2_ := A0_ (Kd.V_elder' (wV_ HO114.out) (Kd.S_base ho0) hb); have n3_ := A0_ (Kd.S_elder' (wS_ HO118.out) (Kd.S_base ho0) hb); have n4_ := A0_ (Rb_ (wR_ HO121.out) hb); have n5_ := A0_ (Kd.V_elder' (wV_ HO124.out) (Kd.S_base ho0) hb); have n6_ := A0_ (Kd.S_lower (Kd.S_new' (Kd.S_new' ho0 (Kd.S_lt (wS_ HO108.out))) (Kd.S_lt (wS_ HO118.out))) (below_size (wb_ HB.out))); have n7_ := A0_ (below_step (wb_ HB.out) hb); clear HO108; clear HO111; clear HO114; clear HO118; clear HO121; clear HO124; clear HB; have HO108 := n0_; have HO111 := n1_; have HO114 := n2_; have HO118 := n3_; have HO121 := n4_; have HO124 := n5_; have HO128 := n6_; have HB := n7_; clear n0_ n1_ n2_ n3_ n4_ n5_ n6_ n7_; (try clear hb); (try clear hb2); (try clear hk); (try clear hi); (try clear ho0); obtain ⟨Ao55, co55, eo55⟩ := Kd.S_slice HO128.out; subst eo55) | ((with_reducible refine gate_callee (f := 24) rfl ?_); refine goesL_ (some 19) rfl rfl Tryd.func24 (by kernel_rfl) rfl #[.slice Ao55 t126.length co55] rfl wm_ ?_; (with_reducible refine (links_Classes.calls _ _ t126 t129 _ ?side1 ?side2 A6.out).mono ?_); (case side1 => exact wc_ (Kd.S_reads' HO128.out).2.2); (case side2 => exact (Kd.S_reads' HO128.out).2.1); rintro e w56 ⟨v130, rfl, ho0, hb⟩; refine ⟨_, rfl, ?_⟩; have n0_ := A0_ (Sb_ (wS_ HO108.out) hb); have n1_ := A0_ (Rb_ (wR_ HO111.out) hb); have n2_ := A0_ (Kd.V_elder' (wV_ HO114.out) (Kd.S_base ho0) hb); have n3_ := A0_ (Sb_ (wS_ HO118.out) hb); have n4_ := A0_ (Rb_ (wR_ HO121.out) hb); have n5_ := A0_ (Kd.V_elder' (wV_ HO124.out) (Kd.S_base ho0) hb); have n6_ := A0_ (Sb_ (wS_ HO128.out) hb); have n7_ := A0_ (Kd.S_lower (Kd.S_new' (Kd.S_new' ho0 (Kd.R_lt (wR_ HO111.out))) (Kd.R_lt (wR_ HO121.out))) (below_size (wb_ HB.out))); have n8_ := A0_ (below_step (wb_ HB.out) hb); clear HO108; clear HO111; clear HO114; clear HO118; clear HO121; clear HO124; clear HO128; clear HB; have HO108 := n0_; have HO111 := n1_; have HO114 := n2_; have HO118 := n3_; have HO121 := n4_; have HO124 := n5_; have HO128 := n6_; have HO131 := n7_; have HB := n8_; clear n0_ n1_ n2_ n3_ n4_ n5_ n6_ n7_ n8_; (try clear hb); (try clear hb2); (try clear hk); (try clear hi); (try clear ho0); obtain ⟨Ao57, co57, eo57⟩ := Kd.V_slice HO114.out; subst eo57; have p132 : 0 ≤ (0 : Int) := (by omega); have q132 : 0 < (t112.length : Int) := wd_; obtain ⟨ad132, A132_7, c132_7, e132, hx132_0, hx132_1, hx132_2, hx132_3, hx132_4, hx132_5, hx132_6, hx132_7, hl132_7, hi132_7⟩ := at_T45 (Kd.V_reads' HO114.out).2.2 0 p132 q132; cases e132; obtain ⟨ce132, hce132, hMe132, hcc132⟩ := Kd.V_get HO114.out z45 0 p132 (by first | exact q132 | exact wd_ | (have e_ := (Kd.V_reads' HO114.out).1; omega)); obtain ⟨ua132_7, uc132_7, rfl, ul132_7, ge132_7⟩ := k45_openF hMe132; have hv132_7 := hcc132 7 _ rfl; rw [add_field _ _ 7 (by omega)] at hv132_7; replace hv132_7 := Option.some.inj (hv132_7.symm.trans hx132_7); injection hv132_7 with hva_ hvn_ hvc_; rw [hva_] at ge132_7; rw [hvc_] at ul132_7; have HL132_7 := A0_ (show Kd.V (Kd.int .u8) 5 _ w.heap.size _ _ ((rd_T45 t112 0).f4) from Kd.V_mk ul132_7 ge132_7); clear hva_ hvn_ hvc_ ge132_7 ul132_7; clear hcc132 hce132; have qi132 : (0 < t112.length) = True := eq_true (by omega); (try rw [show ((0 : Int)).toNat = 0 from rfl] at hx132_0); (try rw [show 0 * 8 = 0 from rfl] at hx132_0); (try rw [Addr.add_zero'] at hx132_0); (try rw [show ((0 : Int)).toNat = 0 from rfl] at hx132_1); (try rw [show 0 * 8 = 0 from rfl] at hx132_1); (try rw [Addr.add_zero'] at hx132_1); (try rw [show ((0 : Int)).toNat = 0 from rfl] at hx132_2); (try rw [show 0 * 8 = 0 from rfl] at hx132_2); (try rw [Addr.add_zero'] at hx132_2); (try rw [show ((0 : Int)).toNat = 0 from rfl] at hx132_3); (try rw [show 0 * 8 = 0 from rfl] at hx132_3); (try rw [Addr.add_zero'] at hx132_3); (try rw [show ((0 : Int)).toNat = 0 from rfl] at hx132_4); (try rw [show 0 * 8 = 0 from rfl] at hx132_4); (try rw [Addr.add_zero'] at hx132_4); (try rw [show ((0 : Int)).toNat = 0 from rfl] at hx132_5); (try rw [show 0 * 8 = 0 from rfl] at hx132_5); (try rw [Addr.add_zero'] at hx132_5); (try rw [show ((0 : Int)).toNat = 0 from rfl] at hx132_6); (try rw [show 0 * 8 = 0 from rfl] at hx132_6); (try rw [Addr.add_zero'] at hx132_6); (try rw [show ((0 : Int)).toNat = 0 from rfl] at hx132_7); (try rw [show 0 * 8 = 0 from rfl] at hx132_7); (try rw [Addr.add_zero'] at hx132_7); have HR132_7 := A0_ hi132_7; have HC132_7 := A0_ hl132_7; clear hi132_7 hl132_7; replace p132 := eq_true p132; replace q132 := eq_true q132; have p133 : 0 ≤ (1 : Int) := (by omega); have q133 : 1 < (t112.length : Int) := wd_; obtain ⟨ad133, A133_7, c133_7, e133, hx133_0, hx133_1, hx133_2, hx133_3, hx133_4, hx133_5, hx133_6, hx133_7, hl133_7, hi133_7⟩ := at_T45 (Kd.V_reads' HO114.out).2.2 1 p133 q133; obtain rfl : ad132 = ad133 := (by injection e133); obtain ⟨ce133, hce133, hMe133, hcc133⟩ := Kd.V_get HO114.out z45 1 p133 (by first | exact q133 | exact wd_ | (have e_ := (Kd.V_reads' HO114.out).1; omega)); obtain ⟨ua133_7, uc133_7, rfl, ul133_7, ge133_7⟩ := k45_openF hMe133; have hv133_7 := hcc133 7 _ rfl; rw [add_field _ _ 7 (by omega)] at hv133_7; replace hv133_7 := Option.some.inj (hv133_7.symm.trans hx133_7); injection hv133_7 with hva_ hvn_ hvc_; rw [hva_] at ge133_7; rw [hvc_] at ul133_7; have HL133_7 := A0_ (show Kd.V (Kd.int .u8) 5 _ w.heap.size _ _ ((rd_T45 t112 1).f4) from Kd.V_mk ul133_7 ge133_7); clear hva_ hvn_ hvc_ ge133_7 ul133_7; clear hcc133 hce133; (try simp only [one_n, Nat.reduceMul, Nat.reduceEqDiff, Go.Addr.add, ↓reduceIte] at hx133_0); (try simp only [one_n, Nat.reduceMul, Nat.reduceEqDiff, Go.Addr.add, ↓reduceIte] at hx133_1); (try simp only [one_n, Nat.reduceMul, Nat.reduceEqDiff, Go.Addr.add, ↓reduceIte] at hx133_2); (try simp only [one_n, Nat.reduceMul, Nat.reduceEqDiff, Go.Addr.add, ↓reduceIte] at hx133_3); (try simp only [one_n, Nat.reduceMul, Nat.reduceEqDiff, Go.Addr.add, ↓reduceIte] at hx133_4); (try simp only [one_n, Nat.reduceMul, Nat.reduceEqDiff, Go.Addr.add, ↓reduceIte] at hx133_5); (try simp only [one_n, Nat.reduceMul, Nat.reduceEqDiff, Go.Addr.add, ↓reduceIte] at hx133_6); (try simp only [one_n, Nat.reduceMul, Nat.reduceEqDiff, Go.Addr.add, ↓reduceIte] at hx133_7); have qi133 : (1 < t112.length) = True := eq_true (by omega); (try rw [show ((1 : Int)).toNat = 1 from rfl] at hx133_0); (try rw [show 1 * 8 = 8 from rfl] at hx133_0); (try rw [show ((1 : Int)).toNat = 1 from rfl] at hx133_1); (try rw [show 1 * 8 = 8 from rfl] at hx133_1); (try rw [show ((1 : Int)).toNat = 1 from rfl] at hx133_2); (try rw [show 1 * 8 = 8 from rfl] at hx133_2); (try rw [show ((1 : Int)).toNat = 1 from rfl] at hx133_3); (try rw [show 1 * 8 = 8 from rfl] at hx133_3); (try rw [show ((1 : Int)).toNat = 1 from rfl] at hx133_4); (try rw [show 1 * 8 = 8 from rfl] at hx133_4); (try rw [show ((1 : Int)).toNat = 1 from rfl] at hx133_5); (try rw [show 1 * 8 = 8 from rfl] at hx133_5); (try rw [show ((1 : Int)).toNat = 1 from rfl] at hx133_6); (try rw [show 1 * 8 = 8 from rfl] at hx133_6); (try rw [show ((1 : Int)).toNat = 1 from rfl] at hx133_7); (try rw [show 1 * 8 = 8 from rfl] at hx133_7); have HR133_7 := A0_ hi133_7; have HC133_7 := A0_ hl133_7; clear hi133_7 hl133_7; replace p133 := eq_true p133; replace q133 := eq_true q133; have p134 : 0 ≤ (1 : Int) := (by omega); have q134 : 1 < (t112.length : Int) := wd_; obtain ⟨ad134, A134_7, c134_7, e134, hx134_0, hx134_1, hx134_2, hx134_3, hx134_4, hx134_5, hx134_6, hx134_7, hl134_7, hi134_7⟩ := at_T45 (Kd.V_reads' HO114.out).2.2 1 p134 q134; obtain rfl : ad132 = ad134 := (by injection e134); obtain ⟨ce134, hce134, hMe134, hcc134⟩ := Kd.V_get HO114.out z45 1 p134 (by first | exact q134 | exact wd_ | (have e_ := (Kd.V_reads' HO114.out).1; omega)); obtain ⟨ua134_7, uc134_7, rfl, ul134_7, ge134_7⟩ := k45_openF hMe134; have hv134_7 := hcc134 7 _ rfl; rw [add_field _ _ 7 (by omega)] at hv134_7; replace hv134_7 := Option.some.inj (hv134_7.symm.trans hx134_7); injection hv134_7 with hva_ hvn_ hvc_; rw [hva_] at ge134_7; rw [hvc_] at ul134_7; have HL134_7 := A0_ (show Kd.V (Kd.int .u8) 5 _ w.heap.size _ _ ((rd_T45 t112 1).f4) from Kd.V_mk ul134_7 ge134_7); clear hva_ hvn_ hvc_ ge134_7 ul134_7; clear hcc134 hce134; (try simp only [one_n, Nat.reduceMul, Nat.reduceEqDiff, Go.Addr.add, ↓reduceIte] at hx134_0); (try simp only [one_n, Nat.reduceMul, Nat.reduceEqDiff, Go.Addr.add, ↓reduceIte] at hx134_1); (try simp only [one_n, Nat.reduceMul, Nat.reduceEqDiff, Go.Addr.add, ↓reduceIte] at hx134_2); (try simp only [one_n, Nat.reduceMul, Nat.reduceEqDiff, Go.Addr.add, ↓reduceIte] at hx134_3); (try simp only [one_n, Nat.reduceMul, Nat.reduceEqDiff, Go.Addr.add, ↓reduceIte] at hx134_4); (try simp only [one_n, Nat.reduceMul, Nat.reduceEqDiff, Go.Addr.add, ↓reduceIte] at hx134_5); (try simp only [one_n, Nat.reduceMul, Nat.reduceEqDiff, Go.Addr.add, ↓reduceIte] at hx134_6); (try simp only [one_n, Nat.reduceMul, Nat.reduceEqDiff, Go.Addr.add, ↓reduceIte] at hx134_7); have qi134 : (1 < t112.length) = True := eq_true (by omega); (try rw [show ((1 : Int)).toNat = 1 from rfl] at hx134_0); (try rw [show 1 * 8 = 8 from rfl] at hx134_0); (try rw [show ((1 : Int)).toNat = 1 from rfl] at hx134_1); (try rw [show 1 * 8 = 8 from rfl] at hx134_1); (try rw [show ((1 : Int)).toNat = 1 from rfl] at hx134_2); (try rw [show 1 * 8 = 8 from rfl] at hx134_2); (try rw [show ((1 : Int)).toNat = 1 from rfl] at hx134_3); (try rw [show 1 * 8 = 8 from rfl] at hx134_3); (try rw [show ((1 : Int)).toNat = 1 from rfl] at hx134_4); (try rw [show 1 * 8 = 8 from rfl] at hx134_4); (try rw [show ((1 : Int)).toNat = 1 from rfl] at hx134_5); (try rw [show 1 * 8 = 8 from rfl] at hx134_5); (try rw [show ((1 : Int)).toNat = 1 from rfl] at hx134_6); (try rw [show 1 * 8 = 8 from rfl] at hx134_6); (try rw [show ((1 : Int)).toNat = 1 from rfl] at hx134_7); (try rw [show 1 * 8 = 8 from rfl] at hx134_7); have HR134_7 := A0_ hi134_7; have HC134_7 := A0_ hl134_7; clear hi134_7 hl134_7; replace p134 := eq_true p134; replace q134 := eq_true q134; have ea_ := Option.some.inj (hx133_7.symm.trans hx134_7); injection ea_ with ea_ en_ ec_; subst ea_; subst ec_; clear en_) | (go_at_call 22; (with_reducible refine (links_Sound.calls _ _ t112 true _ ?side1 ?side2 ?side3 A15.out).mono ?_); (case side1 => exact A0_ (Tabs.below hT.out (wb_ HB.out))); (case side2 => exact wc_ (Kd.V_reads' HO114.out).2.2); (case side3 => exact (Kd.V_reads' HO114.out).2.1); rintro e w58 ⟨rfl, hb⟩; have n0_ := A0_ (Sb_ (wS_ HO108.out) hb); have n1_ := A0_ (Rb_ (wR_ HO111.out) hb); have n2_ := A0_ (Vb_ (wV_ HO114.out) hb); have n3_ := A0_ (Sb_ (wS_ HO118.out) hb); have n4_ := A0_ (Rb_ (wR_ HO121.out) hb); have n5_ := A0_ (Vb_ (wV_ HO124.out) hb); have n6_ := A0_ (Sb_ (wS_ HO128.out) hb); have n7_ := A0_ (Sb_ (wS_ HO131.out) hb); have n8_ := A0_ (Vb_ (wV_ HL132_7.out) hb); have n9_ := A0_ (Vb_ (wV_ HL133_7.out) hb); have n10_ := A0_ (Vb_ (wV_ HL134_7.out) hb); have n11_ := A0_ (Kd.C_below (by repeat (first | (with_reducible exact HR132_7.out) | (with_reducible refine Ca_ ?_ _) | (with_reducible refine CN_ ?_ _) | (with_reducible refine C1_ ?_) | exact HR132_7.out)) hb); have n12_ := A0_ (Kd.C_below (by repeat (first | (with_reducible exact HR133_7.out) | (with_reducible refine Ca_ ?_ _) | (with_reducible refine CN_ ?_ _) | (with_reducible refine C1_ ?_) | exact HR133_7.out)) hb); have n13_ := A0_ (Kd.C_below (by repeat (first | (with_reducible exact HR134_7.out) | (with_reducible refine Ca_ ?_ _) | (with_reducible refine CN_ ?_ _) | (with_reducible refine C1_ ?_) | exact HR134_7.out)) hb); have n14_ := A0_ (below_step (wb_ HB.out) hb); clear HO108; clear HO111; clear HO114; clear HO118; clear HO121; clear HO124; clear HO128; clear HO131; clear HL132_7; clear HL133_7; clear HL134_7; clear HR132_7; clear HR133_7; clear HR134_7; clear HB; have HO108 := n0_; have HO111 := n1_; have HO114 := n2_; have HO118 := n3_; have HO121 := n4_; have HO124 := n5_; have HO128 := n6_; have HO131 := n7_; have HL132_7 := n8_; have HL133_7 := n9_; have HL134_7 := n10_; have HR132_7 := n11_; have HR133_7 := n12_; have HR134_7 := n13_; have HB := n14_; clear n0_ n1_ n2_ n3_ n4_ n5_ n6_ n7_ n8_ n9_ n10_ n11_ n12_ n13_ n14_; (try clear hb); (try clear hb2); (try clear hk); (try clear hi)) | ((with_reducible refine gate_dst (N := 58) rfl ?_); (try (refine gate_guard (by rfl) ?_; dsimp only)); refine Kd.S_lit k45 _ 45 ?hg (N := 58) ?hd (xs := ([(⟨(⟨#[]⟩ : ByteArray), (⟨#[]⟩ : ByteArray), 0, (⟨0, 0, 0, 0⟩ : S38), ([] : List Int)⟩ : S45)] : List (S45))) (inner := [.string (⟨#[]⟩ : ByteArray), .string (⟨#[]⟩ : ByteArray), .int .u8 0, .int .i64 0, .int .i64 0, .int .i64 0, .int .i64 0, .slice none 0 0]) (ok := fun _ => True) (okp := fun _ => True) ?hr ?hp (fun _ hk => hk) trivial (Below.refl _ _) (Nat.le_refl _) (by simp) ?_; (case hd => rfl); (case hg => rfl); (case hr => first | (go_simp; done) | (go_simp; rfl)); (case hp => exact (Reps.c8 (show Kd.M k45 _ _ _ (⟨(⟨#[]⟩ : ByteArray), (⟨#[]⟩ : ByteArray), 0, (⟨0, 0, 0, 0⟩ : S38), ([] : List Int)⟩ : S45) [.string (⟨#[]⟩ : ByteArray), .string (⟨#[]⟩ : ByteArray), .int .u8 0, .int .i64 0, .int .i64 0, .int .i64 0, .int .i64 0, .slice none 0 0] from (k45_mkM _ _ _ (⟨(⟨#[]⟩ : ByteArray), (⟨#[]⟩ : ByteArray), 0, (⟨0, 0, 0, 0⟩ : S38), ([] : List Int)⟩ : S45) (Kd.R_nil _ _ _ _ _))) (Reps.none _ _))); intro v137 w59 ho60 hb hg_ hnew_; clear hg_ hnew_; (first | rw [← Ny136.out] at ho60 | (simp only [Int.reduceToNat] at ho60; rw [← Ny136.out] at ho60)); have n0_ := A0_ (Sb_ (wS_ HO108.out) hb); have n1_ := A0_ (Rb_ (wR_ HO111.out) hb); have n2_ := A0_ (Kd.V_elder' (wV_ HO114.out) (Kd.S_base ho60) hb); have n3_ := A0_ (Sb_ (wS_ HO118.out) hb); have n4_ := A0_ (Rb_ (wR_ HO121.out) hb); have n5_ := A0_ (Kd.V_elder' (wV_ HO124.out) (Kd.S_base ho60) hb); have n6_ := A0_ (Sb_ (wS_ HO128.out) hb); have n7_ := A0_ (Sb_ (wS_ HO131.out) hb); have n8_ := A0_ (Kd.V_elder' (wV_ HL132_7.out) (Kd.S_base ho60) hb); have n9_ := A0_ (Kd.V_elder' (wV_ HL133_7.out) (Kd.S_base ho60) hb); have n10_ := A0_ (Kd.V_elder' (wV_ HL134_7.out) (Kd.S_base ho60) hb); have n11_ := A0_ (Kd.S_lower ho60 (below_size (wb_ HB.out))); have n12_ := A0_ (Kd.C_below (by repeat (first | (with_reducible exact HR132_7.out) | (with_reducible refine Ca_ ?_ _) | (with_reducible refine CN_ ?_ _) | (with_reducible refine C1_ ?_) | exact HR132_7.out)) hb); have n13_ := A0_ (Kd.C_below (by repeat (first | (with_reducible exact HR133_7.out) | (with_reducible refine Ca_ ?_ _) | (with_reducible refine CN_ ?_ _) | (with_reducible refine C1_ ?_) | exact HR133_7.out)) hb); have n14_ := A0_ (Kd.C_below (by repeat (first | (with_reducible exact HR134_7.out) | (with_reducible refine Ca_ ?_ _) | (with_reducible refine CN_ ?_ _) | (with_reducible refine C1_ ?_) | exact HR134_7.out)) hb); have n15_ := A0_ (below_step (wb_ HB.out) hb); clear HO108; clear HO111; clear HO114; clear HO118; clear HO121; clear HO124; clear HO128; clear HO131; clear HL132_7; clear HL133_7; clear HL134_7; clear HR132_7; clear HR133_7; clear HR134_7; clear HB; have HO108 := n0_; have HO111 := n1_; have HO114 := n2_; have HO118 := n3_; have HO121 := n4_; have HO124 := n5_; have HO128 := n6_; have HO131 := n7_; have HL132_7 := n8_; have HL133_7 := n9_; have HL134_7 := n10_; have HO138 := n11_; have HR132_7 := n12_; have HR133_7 := n13_; have HR134_7 := n14_; have HB := n15_; clear n0_ n1_ n2_ n3_ n4_ n5_ n6_ n7_ n8_ n9_ n10_ n11_ n12_ n13_ n14_ n15_; clear hb ho60; obtain ⟨Ao61, co61, eo61⟩ := Kd.S_slice HO138.out; subst eo61) | (go_at_call 22; (with_reducible refine (links_Sound.calls _ _ y136 false _ ?side1 ?side2 ?side3 A17.out).mono ?_); (case side1 => exact A0_ (Tabs.below hT.out (wb_ HB.out))); (case side2 => exact wc_ (Kd.S_reads' HO138.out).2.2); (case side3 => exact (Kd.S_reads' HO138.out).2.1); rintro e w62 ⟨rfl, hb⟩; have n0_ := A0_ (Sb_ (wS_ HO108.out) hb); have n1_ := A0_ (Rb_ (wR_ HO111.out) hb); have n2_ := A0_ (Vb_ (wV_ HO114.out) hb); have n3_ := A0_ (Sb_ (wS_ HO118.out) hb); have n4_ := A0_ (Rb_ (wR_ HO121.out) hb); have n5_ := A0_ (Vb_ (wV_ HO124.out) hb); have n6_ := A0_ (Sb_ (wS_ HO128.out) hb); have n7_ := A0_ (Sb_ (wS_ HO131.out) hb); have n8_ := A0_ (Vb_ (wV_ HL132_7.out) hb); have n9_ := A0_ (Vb_ (wV_ HL133_7.out) hb); have n10_ := A0_ (Vb_ (wV_ HL134_7.out) hb); have n11_ := A0_ (Sb_ (wS_ HO138.out) hb); have n12_ := A0_ (Kd.C_below (by repeat (first | (with_reducible exact HR132_7.out) | (with_reducible refine Ca_ ?_ _) | (with_reducible refine CN_ ?_ _) | (with_reducible refine C1_ ?_) | exact HR132_7.out)) hb); have n13_ := A0_ (Kd.C_below (by repeat (first | (with_reducible exact HR133_7.out) | (with_reducible refine Ca_ ?_ _) | (with_reducible refine CN_ ?_ _) | (with_reducible refine C1_ ?_) | exact HR133_7.out)) hb); have n14_ := A0_ (Kd.C_below (by repeat (first | (with_reducible exact HR134_7.out) | (with_reducible refine Ca_ ?_ _) | (with_reducible refine CN_ ?_ _) | (with_reducible refine C1_ ?_) | exact HR134_7.out)) hb); have n15_ := A0_ (below_step (wb_ HB.out) hb); clear HO108; clear HO111; clear HO114; clear HO118; clear HO121; clear HO124; clear HO128; clear HO131; clear HL132_7; clear HL133_7; clear HL134_7; clear HO138; clear HR132_7; clear HR133_7; clear HR134_7; clear HB; have HO108 := n0_; have HO111 := n1_; have HO114 := n2_; have HO118 := n3_; have HO121 := n4_; have HO124 := n5_; have HO128 := n6_; have HO131 := n7_; have HL132_7 := n8_; have HL133_7 := n9_; have HL134_7 := n10_; have HO138 := n11_; have HR132_7 := n12_; have HR133_7 := n13_; have HR134_7 := n14_; have HB := n15_; clear n0_ n1_ n2_ n3_ n4_ n5_ n6_ n7_ n8_ n9_ n10_ n11_ n12_ n13_ n14_ n15_; (try clear hb); (try clear hb2); (try clear hk); (try clear hi); obtain ⟨Ao63, co63, eo63⟩ := Kd.S_slice HO131.out; subst eo63; have p140 : 0 ≤ (0 : Int) := (by omega); have q140 : 0 < (t129.length : Int) := wd_; obtain ⟨ad140, A140_0, c140_0, e140, hx140_0, hl140_0, hi140_0⟩ := at_L8 (Kd.S_reads' HO131.out).2.2 0 p140 q140; cases e140; obtain ⟨ce140, hce140, hMe140, hcc140⟩ := Kd.S_get HO131.out [] 0 p140 (by first | exact q140 | exact wd_ | (have e_ := (Kd.S_reads' HO131.out).1; omega)); obtain ⟨ve140_0, rfl, ge140_0⟩ := hMe140; have hv140_0 := hcc140 0 _ rfl; rw [Nat.add_zero, show ((Kd.slice 9 Kd.string)).sz = 1 from rfl, Nat.mul_one] at hv140_0; replace hv140_0 := Option.some.inj (hv140_0.symm.trans hx140_0); rw [hv140_0] at ge140_0; have HL140_0 := A0_ (show Kd.R Kd.string 9 _ _ _ _ (rd_L8 t129 0) from ge140_0); clear hv140_0 ge140_0; clear hcc140 hce140; have qi140 : (0 < t129.length) = True := eq_true (by omega); (try rw [show ((0 : Int)).toNat = 0 from rfl] at hx140_0); (try rw [Addr.add_zero'] at hx140_0); have HR140_0 := A0_ hi140_0; have HC140_0 := A0_ hl140_0; clear hi140_0 hl140_0; replace p140 := eq_true p140; replace q140 := eq_true q140))
 go_ret
 exact ⟨we_, wb_ HB.out⟩
end Go.Proofs.YtfljbidecljlcaaDoor.Print

namespace Go.Proofs.YtfljbidecljlcaaDoor.Print
open Go.RowKit Go.Proofs.YtfljbidecljlcaaDoorW.PrintWords Go.Proofs.YtfljbidecljlcaaDoorW.PrintLast Go.Proofs.YtfljbidecljlcaaDoorW.PrintMore
attribute [local go_sem] max2_int min2_int max_two min_two max_three min_three max_four min_four   -- for this text's walks alone
set_option linter.unusedVariables false
set_option linter.unusedSimpArgs false
def bindlelaw11_LinksBack.f (k : Nat) (l0 : List (S40)) (l1 : List Int) : Option (Bool) := (bindlelaw11_light.f k l0).bind fun t573 => (if t573 = true then ((bindlelaw11_mixed.f k l0 l1).bind fun t575 => ((links_Members.f l0 t575).bind fun bt578 => ((tree_Fold.f bt578.1).bind fun bt582 => ((bindlelaw11_answers.f).bind fun t588 => (if t588 = true then (if bt578.2 = 0 then (if bt582.2.1 = 0 then ((bindleref08_SameTree.f k l0 bt582.1).bind fun t589 => (some t589)) else (some false)) else (some false)) else (some false)))))) else ((bindlelaw11_answers.f).bind fun t574 => (some t574)))
set_option maxHeartbeats 8000000 in
set_option maxRecDepth 100000 in
theorem bindlelaw11_LinksBack.calls (k : Nat) (A0 : Option Addr) (c0 : Nat) (l0 : List (S40)) (A1 : Option Addr) (c1 : Nat) (l1 : List Int) (r : Bool) (w : World) (hT : Aside0 (Tabs w)) (hr0 : Kd.C k40 w A0 l0.length l0) (hc0 : l0.length ≤ c0) (hr1 : Kd.C (Kd.int .u8) w A1 l1.length l1) (hc1 : l1.length ≤ c1) (h : bindlelaw11_LinksBack.f k l0 l1 = some r) :
  Calls Tryd.prog 13 #[.slice A0 l0.length c0, .slice A1 l1.length c1] w fun e w' => e = .returned (.bool r) ∧ Below w.heap.size w w' := by
 have hu49 := Tryd.underlying49
 have HR0 := A0_ hr0
 have HC0 := A0_ hc0
 clear hr0 hc0
 have HR1 := A0_ hr1
 have HC1 := A0_ hc1
 clear hr1 hc1
 have HB := A0_ (Below.refl w.heap.size w)
 have H : ((bindlelaw11_light.f k l0).bind fun t573 => (if t573 = true then ((bindlelaw11_mixed.f k l0 l1).bind fun t575 => ((links_Members.f l0 t575).bind fun bt578 => ((tree_Fold.f bt578.1).bind fun bt582 => ((bindlelaw11_answers.f).bind fun t588 => (if t588 = true then (if bt578.2 = 0 then (if bt582.2.1 = 0 then ((bindleref08_SameTree.f k l0 bt582.1).bind fun t589 => (some t589)) else (some false)) else (some false)) else (some false)))))) else ((bindlelaw11_answers.f).bind fun t574 => (some t574)))) = some r := h
 clear h
 replace H := Option.bind_eq_some_iff.mp H
 obtain ⟨t573, A30, H⟩ := H
 replace H : (if t573 = true then ((bindlelaw11_mixed.f k l0 l1).bind fun t575 => ((links_Members.f l0 t575).bind fun bt578 => ((tree_Fold.f bt578.1).bind fun bt582 => ((bindlelaw11_answers.f).bind fun t588 => (if t588 = true then (if bt578.2 = 0 then (if bt582.2.1 = 0 then ((bindleref08_SameTree.f k l0 bt582.1).bind fun t589 => (some t589)) else (some false)) else (some false)) else (some false)))))) else ((bindlelaw11_answers.f).bind fun t574 => (some t574))) = some r := H
 have A3 := A0_ A30
 clear A30
 by_cases c4 : t573 = true
 rotate_left
 ·replace c4 := Bool.eq_false_iff.mpr c4
  subst c4
  have H1 : ((bindlelaw11_answers.f).bind fun t574 => (some t574)) = some r := by rw [if_neg (show ¬ (false = true) by decide)] at H; exact H
  clear H
  have H := H1
  clear H1
  replace H := Option.bind_eq_some_iff.mp H
  obtain ⟨t574, A530, H⟩ := H
  replace H : (some t574) = some r := H
  have A53 := A0_ A530
  clear A530
  obtain rfl := Option.some.inj H
  go_enter Tryd.func13, Tryd.ntmps13
  go_wp2_with (first | ((with_reducible refine gate_callee (f := 14) rfl ?_); refine goesL_ (some 10) rfl rfl Tryd.func14 (by kernel_rfl) rfl #[.slice A0 l0.length c0] rfl wm_ ?_; (with_reducible refine (bindlelaw11_light.calls k _ _ l0 false _ ?side1 ?side2 A3.out).mono ?_); (case side1 => exact wc_ HR0.out); (case side2 => exact HC0.out); rintro e w54 ⟨rfl, hb⟩; refine ⟨_, rfl, ?_⟩; have n0_ := A0_ (below_step (wb_ HB.out) hb); clear HB; have HB := n0_; clear n0_; (try clear hb); (try clear hb2); (try clear hk); (try clear hi)) | ((with_reducible refine gate_callee (f := 15) rfl ?_); refine goesL_ (some 12) rfl rfl Tryd.func15 (by kernel_rfl) rfl #[] rfl wm_ ?_; (with_reducible refine (bindlelaw11_answers.calls  t574 _ ?side1 A53.out).mono ?_); (case side1 => exact A0_ (Tabs.below hT.out (wb_ HB.out))); rintro e w55 ⟨rfl, hb⟩; refine ⟨_, rfl, ?_⟩; have n0_ := A0_ (below_step (wb_ HB.out) hb); clear HB; have HB := n0_; clear n0_; (try clear hb); (try clear hb2); (try clear hk); (try clear hi)))
  go_ret
  exact ⟨we_, wb_ HB.out⟩
 subst c4
 have H1 : ((bindlelaw11_mixed.f k l0 l1).bind fun t575 => ((links_Members.f l0 t575).bind fun bt578 => ((tree_Fold.f bt578.1).bind fun bt582 => ((bindlelaw11_answers.f).bind fun t588 => (if t588 = true then (if bt578.2 = 0 then (if bt582.2.1 = 0 then ((bindleref08_SameTree.f k l0 bt582.1).bind fun t589 => (some t589)) else (some false)) else (some false)) else (some false)))))) = some r := by rw [if_pos rfl] at H; exact H
 clear H
 have H := H1
 clear H1
 replace H := Option.bind_eq_some_iff.mp H
 obtain ⟨t575, A50, H⟩ := H
 replace H : ((links_Members.f l0 t575).bind fun bt578 => ((tree_Fold.f bt578.1).bind fun bt582 => ((bindlelaw11_answers.f).bind fun t588 => (if t588 = true then (if bt578.2 = 0 then (if bt582.2.1 = 0 then ((bindleref08_SameTree.f k l0 bt582.1).bind fun t589 => (some t589)) else (some false)) else (some false)) else (some false))))) = some r := H
 have A5 := A0_ A50
 clear A50
 replace H := Option.bind_eq_some_iff.mp H
 obtain ⟨⟨t578, t581⟩, A60, H⟩ := H
 replace H : ((tree_Fold.f t578).bind fun bt582 => ((bindlelaw11_answers.f).bind fun t588 => (if t588 = true then (if t581 = 0 then (if bt582.2.1 = 0 then ((bindleref08_SameTree.f k l0 bt582.1).bind fun t589 => (some t589)) else (some false)) else (some false)) else (some false)))) = some r := H
 have A6 := A0_ A60
 clear A60
 replace H := Option.bind_eq_some_iff.mp H
 obtain ⟨⟨t582, t585, t586⟩, A70, H⟩ := H
 replace H : ((bindlelaw11_answers.f).bind fun t588 => (if t588 = true then (if t581 = 0 then (if t585 = 0 then ((bindleref08_SameTree.f k l0 t582).bind fun t589 => (some t589)) else (some false)) else (some false)) else (some false))) = some r := H
 have A7 := A0_ A70
 clear A70
 replace H := Option.bind_eq_some_iff.mp H
 obtain ⟨t588, A80, H⟩ := H
 replace H : (if t588 = true then (if t581 = 0 then (if t585 = 0 then ((bindleref08_SameTree.f k l0 t582).bind fun t589 => (some t589)) else (some false)) else (some false)) else (some false)) = some r := H
 have A8 := A0_ A80
 clear A80
 by_cases c9 : t588 = true
 rotate_left
 ·replace c9 := Bool.eq_false_iff.mpr c9
  subst c9
  have H1 : (some false) = some r := by rw [if_neg (show ¬ (false = true) by decide)] at H; exact H
  clear H
  have H := H1
  clear H1
  obtain rfl := Option.some.inj H
  go_enter Tryd.func13, Tryd.ntmps13
  go_wp2_with (first | ((with_reducible refine gate_callee (f := 14) rfl ?_); refine goesL_ (some 10) rfl rfl Tryd.func14 (by kernel_rfl) rfl #[.slice A0 l0.length c0] rfl wm_ ?_; (with_reducible refine (bindlelaw11_light.calls k _ _ l0 true _ ?side1 ?side2 A3.out).mono ?_); (case side1 => exact wc_ HR0.out); (case side2 => exact HC0.out); rintro e w44 ⟨rfl, hb⟩; refine ⟨_, rfl, ?_⟩; have n0_ := A0_ (below_step (wb_ HB.out) hb); clear HB; have HB := n0_; clear n0_; (try clear hb); (try clear hb2); (try clear hk); (try clear hi)) | ((with_reducible refine gate_callee (f := 16) rfl ?_); refine goesL_ (some 17) rfl rfl Tryd.func16 (by kernel_rfl) rfl #[.slice A0 l0.length c0, .slice A1 l1.length c1] rfl wm_ ?_; (with_reducible refine (bindlelaw11_mixed.calls k _ _ l0 _ _ l1 t575 _ ?side1 ?side2 ?side3 ?side4 A5.out).mono ?_); (case side1 => exact wc_ (Kd.C_below HR0.out HB.out)); (case side2 => exact HC0.out); (case side3 => exact wc_ (Kd.C_below HR1.out HB.out)); (case side4 => exact HC1.out); rintro e w45 ⟨v576, rfl, ho0, hb⟩; refine ⟨_, rfl, ?_⟩; have n0_ := A0_ (Kd.R_lower ho0 (below_size (wb_ HB.out))); have n1_ := A0_ (below_step (wb_ HB.out) hb); clear HB; have HO577 := n0_; have HB := n1_; clear n0_ n1_; (try clear hb); (try clear hb2); (try clear hk); (try clear hi); (try clear ho0); obtain ⟨Ao46, co46, eo46⟩ := Kd.R_slice HO577.out; subst eo46) | ((with_reducible refine gate_callee (f := 17) rfl ?_); refine goesL_ (some 18) rfl rfl Tryd.func17 (by kernel_rfl) rfl #[.slice A0 l0.length c0, .slice Ao46 t575.length co46] rfl wm_ ?_; (with_reducible refine (links_Members.calls _ _ l0 _ _ t575 t578 t581 _ ?side1 ?side2 ?side3 ?side4 A6.out).mono ?_); (case side1 => exact wc_ (Kd.C_below HR0.out HB.out)); (case side2 => exact HC0.out); (case side3 => exact wc_ (Kd.R_reads' HO577.out).2.2); (case side4 => exact (Kd.R_reads' HO577.out).2.1); rintro e w47 ⟨v579, rfl, ho0, hb⟩; refine ⟨_, rfl, ?_⟩; have n0_ := A0_ (Rb_ (wR_ HO577.out) hb); have n1_ := A0_ (Kd.V_lower (Kd.V_mono (ok' := fun k_ => some k_ ≠ (.slice Ao46 t575.length co46 : Value).ownBlock) ho0 (fun k_ hk_ => (Kd.fresh' (Kd.R_lt (wR_ HO577.out)) k_ hk_))) (below_size (wb_ HB.out))); have n2_ := A0_ (below_step (wb_ HB.out) hb); clear HO577; clear HB; have HO577 := n0_; have HO580 := n1_; have HB := n2_; clear n0_ n1_ n2_; (try clear hb); (try clear hb2); (try clear hk); (try clear hi); (try clear ho0); obtain ⟨Ao48, co48, eo48⟩ := Kd.V_slice HO580.out; subst eo48) | ((with_reducible refine gate_callee (f := 27) rfl ?_); refine goesL_ (some 23) rfl rfl Tryd.func27 (by kernel_rfl) rfl #[.slice Ao48 t578.length co48] rfl wm_ ?_; (with_reducible refine (tree_Fold.calls _ _ t578 t582 t585 t586 _ ?side1 ?side2 ?side3 A7.out).mono ?_); (case side1 => exact A0_ (Tabs.below hT.out (wb_ HB.out))); (case side2 => exact wc_ (Kd.V_reads' HO580.out).2.2); (case side3 => exact (Kd.V_reads' HO580.out).2.1); rintro e w49 ⟨v583, rfl, ho0, hb⟩; refine ⟨_, rfl, ?_⟩; have n0_ := A0_ (Rb_ (wR_ HO577.out) hb); have n1_ := A0_ (Vb_ (wV_ HO580.out) hb); have n2_ := A0_ (Kd.V_lower (Kd.V_mono (ok' := fun k_ => some k_ ≠ (.slice Ao46 t575.length co46 : Value).ownBlock) ho0 (fun k_ hk_ => (Kd.fresh' (Kd.R_lt (wR_ HO577.out)) k_ hk_))) (below_size (wb_ HB.out))); have n3_ := A0_ (below_step (wb_ HB.out) hb); clear HO577; clear HO580; clear HB; have HO577 := n0_; have HO580 := n1_; have HO584 := n2_; have HB := n3_; clear n0_ n1_ n2_ n3_; (try clear hb); (try clear hb2); (try clear hk); (try clear hi); (try clear ho0)) | ((with_reducible refine gate_dst (N := 8) rfl ?_); refine box_event ?hg (N := 8) ?hd (cs := #[.int .i64 0, .int .i64 0]) (t := 49) ?hr ?_; (case hd => rfl); (case hg => rfl); (case hr => first | (go_simp; done) | (go_simp; rfl)); intro gb587 hg w50 hbox hb; have n0_ := A0_ (Rb_ (wR_ HO577.out) hb); have n1_ := A0_ (Vb_ (Kd.V_elderB (wV_ HO580.out) gb587 (Nat.le_of_eq hg.symm)) hb); have n2_ := A0_ (Vb_ (Kd.V_elderB (wV_ HO584.out) gb587 (Nat.le_of_eq hg.symm)) hb); have n3_ := A0_ (below_step (wb_ HB.out) hb); have n4_ := A0_ (hbox); have n5_ := A0_ ((by rw [hg]; exact (below_size (wb_ HB.out)) : w.heap.size ≤ gb587)); have n6_ := A0_ ((by rw [hg]; exact (below_size (wb_ HB.out)) : w.heap.size ≤ gb587)); clear HO577; clear HO580; clear HO584; clear HB; have HO577 := n0_; have HO580 := n1_; have HO584 := n2_; have HB := n3_; have BK587 := n4_; have GW587 := n5_; have GE587 := n6_; clear n0_ n1_ n2_ n3_ n4_ n5_ n6_; clear hb hbox hg; have hcz51_0 : w50.cell? ⟨gb587, 0, none⟩ = some (.int .i64 0) := (bc_ BK587.out 0).trans rfl; have hcz51_1 : w50.cell? ⟨gb587, 1, none⟩ = some (.int .i64 0) := (bc_ BK587.out 1).trans rfl; have hfz51_0 := bf_ BK587.out 0; have hfz51_1 := bf_ BK587.out 1) | ((with_reducible refine gate_callee (f := 15) rfl ?_); refine goesL_ (some 26) rfl rfl Tryd.func15 (by kernel_rfl) rfl #[] rfl wm_ ?_; (with_reducible refine (bindlelaw11_answers.calls  false _ ?side1 A8.out).mono ?_); (case side1 => exact A0_ (Tabs.below hT.out (wb1_ HB.out GE587.out))); rintro e w52 ⟨rfl, hb⟩; refine ⟨_, rfl, ?_⟩; have n0_ := A0_ (Rb_ (by (with_reducible repeat (first | apply Ra_ | apply RN_ | apply R1_)); exact (Kd.R_mono (Kd.R_far (p := ⟨gb587, 1, none⟩) (Kd.R_far (p := ⟨gb587, 0, none⟩) (Kd.R_types HO577.out BK587.out (by decide)) (fun _ hk => hk.2) (.int .i64 t585)) (fun _ hk => hk.2) (.int .i64 t586)) (fun _ h_ => h_.1))) hb); have n1_ := A0_ (Vb_ (by (with_reducible repeat (first | apply Va_ | apply VN_ | apply V1_)); exact (Kd.V_mono (Kd.V_far (p := ⟨gb587, 1, none⟩) (Kd.V_far (p := ⟨gb587, 0, none⟩) (Kd.V_mono HO580.out (fun k_ hk => (⟨hk, hk.2⟩ : _ ∧ k_ ≠ gb587))) (fun _ hk => hk.2) (.int .i64 t585)) (fun _ hk => hk.2) (.int .i64 t586)) (fun _ h_ => h_.1))) hb); have n2_ := A0_ (Vb_ (by (with_reducible repeat (first | apply Va_ | apply VN_ | apply V1_)); exact (Kd.V_mono (Kd.V_far (p := ⟨gb587, 1, none⟩) (Kd.V_far (p := ⟨gb587, 0, none⟩) (Kd.V_mono HO584.out (fun k_ hk => (⟨hk, hk.2⟩ : _ ∧ k_ ≠ gb587))) (fun _ hk => hk.2) (.int .i64 t585)) (fun _ hk => hk.2) (.int .i64 t586)) (fun _ h_ => h_.1))) hb); have n3_ := A0_ (blk_below (g := gb587) (o := .cells #[.int .i64 t585, .int .i64 t586] 49 (0, 0)) (by (with_reducible repeat (first | refine blk_drewN ?_ _ | refine blk_drew ?_ | refine blk_alloc ?_ _)); refine blk_put (cs := #[.int .i64 t585, .int .i64 0]) ?_ 1 _ rfl; (with_reducible repeat (first | refine blk_drewN ?_ _ | refine blk_drew ?_ | refine blk_alloc ?_ _)); refine blk_put (cs := #[.int .i64 0, .int .i64 0]) ?_ 0 _ rfl; (with_reducible repeat (first | refine blk_drewN ?_ _ | refine blk_drew ?_ | refine blk_alloc ?_ _)); exact BK587.out) hb); have n4_ := A0_ (below_step (wb1_ HB.out GE587.out) hb); clear HO577; clear HO580; clear HO584; clear BK587; clear HB; have HO577 := n0_; have HO580 := n1_; have HO584 := n2_; have BK587 := n3_; have HB := n4_; clear n0_ n1_ n2_ n3_ n4_; (try clear hb); (try clear hb2); (try clear hk); (try clear hi)))
  go_ret
  exact ⟨we_, wb1_ HB.out GE587.out⟩
 subst c9
 have H1 : (if t581 = 0 then (if t585 = 0 then ((bindleref08_SameTree.f k l0 t582).bind fun t589 => (some t589)) else (some false)) else (some false)) = some r := by rw [if_pos rfl] at H; exact H
 clear H
 have H := H1
 clear H1
 by_cases c10 : t581 = 0
 rotate_left
 ·rw [if_neg c10] at H
  have c10b0 : (t581 == 0) = false := beq_eq_false_iff_ne.mpr c10
  have c10b1 : (t581 != 0) = true := bne_iff_ne.mpr c10
  obtain rfl := Option.some.inj H
  go_enter Tryd.func13, Tryd.ntmps13
  go_wp2_with (first | ((with_reducible refine gate_callee (f := 14) rfl ?_); refine goesL_ (some 10) rfl rfl Tryd.func14 (by kernel_rfl) rfl #[.slice A0 l0.length c0] rfl wm_ ?_; (with_reducible refine (bindlelaw11_light.calls k _ _ l0 true _ ?side1 ?side2 A3.out).mono ?_); (case side1 => exact wc_ HR0.out); (case side2 => exact HC0.out); rintro e w35 ⟨rfl, hb⟩; refine ⟨_, rfl, ?_⟩; have n0_ := A0_ (below_step (wb_ HB.out) hb); clear HB; have HB := n0_; clear n0_; (try clear hb); (try clear hb2); (try clear hk); (try clear hi)) | ((with_reducible refine gate_callee (f := 16) rfl ?_); refine goesL_ (some 17) rfl rfl Tryd.func16 (by kernel_rfl) rfl #[.slice A0 l0.length c0, .slice A1 l1.length c1] rfl wm_ ?_; (with_reducible refine (bindlelaw11_mixed.calls k _ _ l0 _ _ l1 t575 _ ?side1 ?side2 ?side3 ?side4 A5.out).mono ?_); (case side1 => exact wc_ (Kd.C_below HR0.out HB.out)); (case side2 => exact HC0.out); (case side3 => exact wc_ (Kd.C_below HR1.out HB.out)); (case side4 => exact HC1.out); rintro e w36 ⟨v576, rfl, ho0, hb⟩; refine ⟨_, rfl, ?_⟩; have n0_ := A0_ (Kd.R_lower ho0 (below_size (wb_ HB.out))); have n1_ := A0_ (below_step (wb_ HB.out) hb); clear HB; have HO577 := n0_; have HB := n1_; clear n0_ n1_; (try clear hb); (try clear hb2); (try clear hk); (try clear hi); (try clear ho0); obtain ⟨Ao37, co37, eo37⟩ := Kd.R_slice HO577.out; subst eo37) | ((with_reducible refine gate_callee (f := 17) rfl ?_); refine goesL_ (some 18) rfl rfl Tryd.func17 (by kernel_rfl) rfl #[.slice A0 l0.length c0, .slice Ao37 t575.length co37] rfl wm_ ?_; (with_reducible refine (links_Members.calls _ _ l0 _ _ t575 t578 t581 _ ?side1 ?side2 ?side3 ?side4 A6.out).mono ?_); (case side1 => exact wc_ (Kd.C_below HR0.out HB.out)); (case side2 => exact HC0.out); (case side3 => exact wc_ (Kd.R_reads' HO577.out).2.2); (case side4 => exact (Kd.R_reads' HO577.out).2.1); rintro e w38 ⟨v579, rfl, ho0, hb⟩; refine ⟨_, rfl, ?_⟩; have n0_ := A0_ (Rb_ (wR_ HO577.out) hb); have n1_ := A0_ (Kd.V_lower (Kd.V_mono (ok' := fun k_ => some k_ ≠ (.slice Ao37 t575.length co37 : Value).ownBlock) ho0 (fun k_ hk_ => (Kd.fresh' (Kd.R_lt (wR_ HO577.out)) k_ hk_))) (below_size (wb_ HB.out))); have n2_ := A0_ (below_step (wb_ HB.out) hb); clear HO577; clear HB; have HO577 := n0_; have HO580 := n1_; have HB := n2_; clear n0_ n1_ n2_; (try clear hb); (try clear hb2); (try clear hk); (try clear hi); (try clear ho0); obtain ⟨Ao39, co39, eo39⟩ := Kd.V_slice HO580.out; subst eo39) | ((with_reducible refine gate_callee (f := 27) rfl ?_); refine goesL_ (some 23) rfl rfl Tryd.func27 (by kernel_rfl) rfl #[.slice Ao39 t578.length co39] rfl wm_ ?_; (with_reducible refine (tree_Fold.calls _ _ t578 t582 t585 t586 _ ?side1 ?side2 ?side3 A7.out).mono ?_); (case side1 => exact A0_ (Tabs.below hT.out (wb_ HB.out))); (case side2 => exact wc_ (Kd.V_reads' HO580.out).2.2); (case side3 => exact (Kd.V_reads' HO580.out).2.1); rintro e w40 ⟨v583, rfl, ho0, hb⟩; refine ⟨_, rfl, ?_⟩; have n0_ := A0_ (Rb_ (wR_ HO577.out) hb); have n1_ := A0_ (Vb_ (wV_ HO580.out) hb); have n2_ := A0_ (Kd.V_lower (Kd.V_mono (ok' := fun k_ => some k_ ≠ (.slice Ao37 t575.length co37 : Value).ownBlock) ho0 (fun k_ hk_ => (Kd.fresh' (Kd.R_lt (wR_ HO577.out)) k_ hk_))) (below_size (wb_ HB.out))); have n3_ := A0_ (below_step (wb_ HB.out) hb); clear HO577; clear HO580; clear HB; have HO577 := n0_; have HO580 := n1_; have HO584 := n2_; have HB := n3_; clear n0_ n1_ n2_ n3_; (try clear hb); (try clear hb2); (try clear hk); (try clear hi); (try clear ho0)) | ((with_reducible refine gate_dst (N := 8) rfl ?_); refine box_event ?hg (N := 8) ?hd (cs := #[.int .i64 0, .int .i64 0]) (t := 49) ?hr ?_; (case hd => rfl); (case hg => rfl); (case hr => first | (go_simp; done) | (go_simp; rfl)); intro gb587 hg w41 hbox hb; have n0_ := A0_ (Rb_ (wR_ HO577.out) hb); have n1_ := A0_ (Vb_ (Kd.V_elderB (wV_ HO580.out) gb587 (Nat.le_of_eq hg.symm)) hb); have n2_ := A0_ (Vb_ (Kd.V_elderB (wV_ HO584.out) gb587 (Nat.le_of_eq hg.symm)) hb); have n3_ := A0_ (below_step (wb_ HB.out) hb); have n4_ := A0_ (hbox); have n5_ := A0_ ((by rw [hg]; exact (below_size (wb_ HB.out)) : w.heap.size ≤ gb587)); have n6_ := A0_ ((by rw [hg]; exact (below_size (wb_ HB.out)) : w.heap.size ≤ gb587)); clear HO577; clear HO580; clear HO584; clear HB; have HO577 := n0_; have HO580 := n1_; have HO584 := n2_; have HB := n3_; have BK587 := n4_; have GW587 := n5_; have GE587 := n6_; clear n0_ n1_ n2_ n3_ n4_ n5_ n6_; clear hb hbox hg; have hcz42_0 : w41.cell? ⟨gb587, 0, none⟩ = some (.int .i64 0) := (bc_ BK587.out 0).trans rfl; have hcz42_1 : w41.cell? ⟨gb587, 1, none⟩ = some (.int .i64 0) := (bc_ BK587.out 1).trans rfl; have hfz42_0 := bf_ BK587.out 0; have hfz42_1 := bf_ BK587.out 1) | ((with_reducible refine gate_callee (f := 15) rfl ?_); refine goesL_ (some 26) rfl rfl Tryd.func15 (by kernel_rfl) rfl #[] rfl wm_ ?_; (with_reducible refine (bindlelaw11_answers.calls  true _ ?side1 A8.out).mono ?_); (case side1 => exact A0_ (Tabs.below hT.out (wb1_ HB.out GE587.out))); rintro e w43 ⟨rfl, hb⟩; refine ⟨_, rfl, ?_⟩; have n0_ := A0_ (Rb_ (by (with_reducible repeat (first | apply Ra_ | apply RN_ | apply R1_)); exact (Kd.R_mono (Kd.R_far (p := ⟨gb587, 1, none⟩) (Kd.R_far (p := ⟨gb587, 0, none⟩) (Kd.R_types HO577.out BK587.out (by decide)) (fun _ hk => hk.2) (.int .i64 t585)) (fun _ hk => hk.2) (.int .i64 t586)) (fun _ h_ => h_.1))) hb); have n1_ := A0_ (Vb_ (by (with_reducible repeat (first | apply Va_ | apply VN_ | apply V1_)); exact (Kd.V_mono (Kd.V_far (p := ⟨gb587, 1, none⟩) (Kd.V_far (p := ⟨gb587, 0, none⟩) (Kd.V_mono HO580.out (fun k_ hk => (⟨hk, hk.2⟩ : _ ∧ k_ ≠ gb587))) (fun _ hk => hk.2) (.int .i64 t585)) (fun _ hk => hk.2) (.int .i64 t586)) (fun _ h_ => h_.1))) hb); have n2_ := A0_ (Vb_ (by (with_reducible repeat (first | apply Va_ | apply VN_ | apply V1_)); exact (Kd.V_mono (Kd.V_far (p := ⟨gb587, 1, none⟩) (Kd.V_far (p := ⟨gb587, 0, none⟩) (Kd.V_mono HO584.out (fun k_ hk => (⟨hk, hk.2⟩ : _ ∧ k_ ≠ gb587))) (fun _ hk => hk.2) (.int .i64 t585)) (fun _ hk => hk.2) (.int .i64 t586)) (fun _ h_ => h_.1))) hb); have n3_ := A0_ (blk_below (g := gb587) (o := .cells #[.int .i64 t585, .int .i64 t586] 49 (0, 0)) (by (with_reducible repeat (first | refine blk_drewN ?_ _ | refine blk_drew ?_ | refine blk_alloc ?_ _)); refine blk_put (cs := #[.int .i64 t585, .int .i64 0]) ?_ 1 _ rfl; (with_reducible repeat (first | refine blk_drewN ?_ _ | refine blk_drew ?_ | refine blk_alloc ?_ _)); refine blk_put (cs := #[.int .i64 0, .int .i64 0]) ?_ 0 _ rfl; (with_reducible repeat (first | refine blk_drewN ?_ _ | refine blk_drew ?_ | refine blk_alloc ?_ _)); exact BK587.out) hb); have n4_ := A0_ (below_step (wb1_ HB.out GE587.out) hb); clear HO577; clear HO580; clear HO584; clear BK587; clear HB; have HO577 := n0_; have HO580 := n1_; have HO584 := n2_; have BK587 := n3_; have HB := n4_; clear n0_ n1_ n2_ n3_ n4_; (try clear hb); (try clear hb2); (try clear hk); (try clear hi)))
  go_ret
  exact ⟨we_, wb1_ HB.out GE587.out⟩
 rw [if_pos c10] at H
 have c10b0 : (t581 == 0) = true := beq_iff_eq.mpr c10
 have c10b1 : (t581 != 0) = false := bne_eq_false_iff_eq.mpr c10
 clear c10
 by_cases c11 : t585 = 0
 rotate_left
 ·rw [if_neg c11] at H
  have c11b0 : (t585 == 0) = false := beq_eq_false_iff_ne.mpr c11
  have c11b1 : (t585 != 0) = true := bne_iff_ne.mpr c11
  obtain rfl := Option.some.inj H
  go_enter Tryd.func13, Tryd.ntmps13
  go_wp2_with (first | ((with_reducible refine gate_callee (f := 14) rfl ?_); refine goesL_ (some 10) rfl rfl Tryd.func14 (by kernel_rfl) rfl #[.slice A0 l0.length c0] rfl wm_ ?_; (with_reducible refine (bindlelaw11_light.calls k _ _ l0 true _ ?side1 ?side2 A3.out).mono ?_); (case side1 => exact wc_ HR0.out); (case side2 => exact HC0.out); rintro e w25 ⟨rfl, hb⟩; refine ⟨_, rfl, ?_⟩; have n0_ := A0_ (below_step (wb_ HB.out) hb); clear HB; have HB := n0_; clear n0_; (try clear hb); (try clear hb2); (try clear hk); (try clear hi)) | ((with_reducible refine gate_callee (f := 16) rfl ?_); refine goesL_ (some 17) rfl rfl Tryd.func16 (by kernel_rfl) rfl #[.slice A0 l0.length c0, .slice A1 l1.length c1] rfl wm_ ?_; (with_reducible refine (bindlelaw11_mixed.calls k _ _ l0 _ _ l1 t575 _ ?side1 ?side2 ?side3 ?side4 A5.out).mono ?_); (case side1 => exact wc_ (Kd.C_below HR0.out HB.out)); (case side2 => exact HC0.out); (case side3 => exact wc_ (Kd.C_below HR1.out HB.out)); (case side4 => exact HC1.out); rintro e w26 ⟨v576, rfl, ho0, hb⟩; refine ⟨_, rfl, ?_⟩; have n0_ := A0_ (Kd.R_lower ho0 (below_size (wb_ HB.out))); have n1_ := A0_ (below_step (wb_ HB.out) hb); clear HB; have HO577 := n0_; have HB := n1_; clear n0_ n1_; (try clear hb); (try clear hb2); (try clear hk); (try clear hi); (try clear ho0); obtain ⟨Ao27, co27, eo27⟩ := Kd.R_slice HO577.out; subst eo27) | ((with_reducible refine gate_callee (f := 17) rfl ?_); refine goesL_ (some 18) rfl rfl Tryd.func17 (by kernel_rfl) rfl #[.slice A0 l0.length c0, .slice Ao27 t575.length co27] rfl wm_ ?_; (with_reducible refine (links_Members.calls _ _ l0 _ _ t575 t578 t581 _ ?side1 ?side2 ?side3 ?side4 A6.out).mono ?_); (case side1 => exact wc_ (Kd.C_below HR0.out HB.out)); (case side2 => exact HC0.out); (case side3 => exact wc_ (Kd.R_reads' HO577.out).2.2); (case side4 => exact (Kd.R_reads' HO577.out).2.1); rintro e w28 ⟨v579, rfl, ho0, hb⟩; refine ⟨_, rfl, ?_⟩; have n0_ := A0_ (Rb_ (wR_ HO577.out) hb); have n1_ := A0_ (Kd.V_lower (Kd.V_mono (ok' := fun k_ => some k_ ≠ (.slice Ao27 t575.length co27 : Value).ownBlock) ho0 (fun k_ hk_ => (Kd.fresh' (Kd.R_lt (wR_ HO577.out)) k_ hk_))) (below_size (wb_ HB.out))); have n2_ := A0_ (below_step (wb_ HB.out) hb); clear HO577; clear HB; have HO577 := n0_; have HO580 := n1_; have HB := n2_; clear n0_ n1_ n2_; (try clear hb); (try clear hb2); (try clear hk); (try clear hi); (try clear ho0); obtain ⟨Ao29, co29, eo29⟩ := Kd.V_slice HO580.out; subst eo29) | ((with_reducible refine gate_callee (f := 27) rfl ?_); refine goesL_ (some 23) rfl rfl Tryd.func27 (by kernel_rfl) rfl #[.slice Ao29 t578.length co29] rfl wm_ ?_; (with_reducible refine (tree_Fold.calls _ _ t578 t582 t585 t586 _ ?side1 ?side2 ?side3 A7.out).mono ?_); (case side1 => exact A0_ (Tabs.below hT.out (wb_ HB.out))); (case side2 => exact wc_ (Kd.V_reads' HO580.out).2.2); (case side3 => exact (Kd.V_reads' HO580.out).2.1); rintro e w30 ⟨v583, rfl, ho0, hb⟩; refine ⟨_, rfl, ?_⟩; have n0_ := A0_ (Rb_ (wR_ HO577.out) hb); have n1_ := A0_ (Vb_ (wV_ HO580.out) hb); have n2_ := A0_ (Kd.V_lower (Kd.V_mono (ok' := fun k_ => some k_ ≠ (.slice Ao27 t575.length co27 : Value).ownBlock) ho0 (fun k_ hk_ => (Kd.fresh' (Kd.R_lt (wR_ HO577.out)) k_ hk_))) (below_size (wb_ HB.out))); have n3_ := A0_ (below_step (wb_ HB.out) hb); clear HO577; clear HO580; clear HB; have HO577 := n0_; have HO580 := n1_; have HO584 := n2_; have HB := n3_; clear n0_ n1_ n2_ n3_; (try clear hb); (try clear hb2); (try clear hk); (try clear hi); (try clear ho0)) | ((with_reducible refine gate_dst (N := 8) rfl ?_); refine box_event ?hg (N := 8) ?hd (cs := #[.int .i64 0, .int .i64 0]) (t := 49) ?hr ?_; (case hd => rfl); (case hg => rfl); (case hr => first | (go_simp; done) | (go_simp; rfl)); intro gb587 hg w31 hbox hb; have n0_ := A0_ (Rb_ (wR_ HO577.out) hb); have n1_ := A0_ (Vb_ (Kd.V_elderB (wV_ HO580.out) gb587 (Nat.le_of_eq hg.symm)) hb); have n2_ := A0_ (Vb_ (Kd.V_elderB (wV_ HO584.out) gb587 (Nat.le_of_eq hg.symm)) hb); have n3_ := A0_ (below_step (wb_ HB.out) hb); have n4_ := A0_ (hbox); have n5_ := A0_ ((by rw [hg]; exact (below_size (wb_ HB.out)) : w.heap.size ≤ gb587)); have n6_ := A0_ ((by rw [hg]; exact (below_size (wb_ HB.out)) : w.heap.size ≤ gb587)); clear HO577; clear HO580; clear HO584; clear HB; have HO577 := n0_; have HO580 := n1_; have HO584 := n2_; have HB := n3_; have BK587 := n4_; have GW587 := n5_; have GE587 := n6_; clear n0_ n1_ n2_ n3_ n4_ n5_ n6_; clear hb hbox hg; have hcz32_0 : w31.cell? ⟨gb587, 0, none⟩ = some (.int .i64 0) := (bc_ BK587.out 0).trans rfl; have hcz32_1 : w31.cell? ⟨gb587, 1, none⟩ = some (.int .i64 0) := (bc_ BK587.out 1).trans rfl; have hfz32_0 := bf_ BK587.out 0; have hfz32_1 := bf_ BK587.out 1) | ((with_reducible refine gate_callee (f := 15) rfl ?_); refine goesL_ (some 26) rfl rfl Tryd.func15 (by kernel_rfl) rfl #[] rfl wm_ ?_; (with_reducible refine (bindlelaw11_answers.calls  true _ ?side1 A8.out).mono ?_); (case side1 => exact A0_ (Tabs.below hT.out (wb1_ HB.out GE587.out))); rintro e w33 ⟨rfl, hb⟩; refine ⟨_, rfl, ?_⟩; have n0_ := A0_ (Rb_ (by (with_reducible repeat (first | apply Ra_ | apply RN_ | apply R1_)); exact (Kd.R_mono (Kd.R_far (p := ⟨gb587, 1, none⟩) (Kd.R_far (p := ⟨gb587, 0, none⟩) (Kd.R_types HO577.out BK587.out (by decide)) (fun _ hk => hk.2) (.int .i64 t585)) (fun _ hk => hk.2) (.int .i64 t586)) (fun _ h_ => h_.1))) hb); have n1_ := A0_ (Vb_ (by (with_reducible repeat (first | apply Va_ | apply VN_ | apply V1_)); exact (Kd.V_mono (Kd.V_far (p := ⟨gb587, 1, none⟩) (Kd.V_far (p := ⟨gb587, 0, none⟩) (Kd.V_mono HO580.out (fun k_ hk => (⟨hk, hk.2⟩ : _ ∧ k_ ≠ gb587))) (fun _ hk => hk.2) (.int .i64 t585)) (fun _ hk => hk.2) (.int .i64 t586)) (fun _ h_ => h_.1))) hb); have n2_ := A0_ (Vb_ (by (with_reducible repeat (first | apply Va_ | apply VN_ | apply V1_)); exact (Kd.V_mono (Kd.V_far (p := ⟨gb587, 1, none⟩) (Kd.V_far (p := ⟨gb587, 0, none⟩) (Kd.V_mono HO584.out (fun k_ hk => (⟨hk, hk.2⟩ : _ ∧ k_ ≠ gb587))) (fun _ hk => hk.2) (.int .i64 t585)) (fun _ hk => hk.2) (.int .i64 t586)) (fun _ h_ => h_.1))) hb); have n3_ := A0_ (blk_below (g := gb587) (o := .cells #[.int .i64 t585, .int .i64 t586] 49 (0, 0)) (by (with_reducible repeat (first | refine blk_drewN ?_ _ | refine blk_drew ?_ | refine blk_alloc ?_ _)); refine blk_put (cs := #[.int .i64 t585, .int .i64 0]) ?_ 1 _ rfl; (with_reducible repeat (first | refine blk_drewN ?_ _ | refine blk_drew ?_ | refine blk_alloc ?_ _)); refine blk_put (cs := #[.int .i64 0, .int .i64 0]) ?_ 0 _ rfl; (with_reducible repeat (first | refine blk_drewN ?_ _ | refine blk_drew ?_ | refine blk_alloc ?_ _)); exact BK587.out) hb); have n4_ := A0_ (below_step (wb1_ HB.out GE587.out) hb); clear HO577; clear HO580; clear HO584; clear BK587; clear HB; have HO577 := n0_; have HO580 := n1_; have HO584 := n2_; have BK587 := n3_; have HB := n4_; clear n0_ n1_ n2_ n3_ n4_; (try clear hb); (try clear hb2); (try clear hk); (try clear hi); have hcz34_0 : w33.cell? ⟨gb587, 0, none⟩ = some (.int .i64 t585) := (bc_ BK587.out 0).trans rfl; have hcz34_1 : w33.cell? ⟨gb587, 1, none⟩ = some (.int .i64 t586) := (bc_ BK587.out 1).trans rfl; have hfz34_0 := bf_ BK587.out 0; have hfz34_1 := bf_ BK587.out 1))
  go_ret
  exact ⟨we_, wb1_ HB.out GE587.out⟩
 rw [if_pos c11] at H
 have c11b0 : (t585 == 0) = true := beq_iff_eq.mpr c11
 have c11b1 : (t585 != 0) = false := bne_eq_false_iff_eq.mpr c11
 clear c11
 replace H := Option.bind_eq_some_iff.mp H
 obtain ⟨t589, A120, H⟩ := H
 replace H : (some t589) = some r := H
 have A12 := A0_ A120
 clear A120
 obtain rfl := Option.some.inj H
 go_enter Tryd.func13, Tryd.ntmps13
 go_wp2_with (first | ((with_reducible refine gate_callee (f := 14) rfl ?_); refine goesL_ (some 10) rfl rfl Tryd.func14 (by kernel_rfl) rfl #[.slice A0 l0.length c0] rfl wm_ ?_; (with_reducible refine (bindlelaw11_light.calls k _ _ l0 true _ ?side1 ?side2 A3.out).mono ?_); (case side1 => exact wc_ HR0.out); (case side2 => exact HC0.out); rintro e w13 ⟨rfl, hb⟩; refine ⟨_, rfl, ?_⟩; have n0_ := A0_ (below_step (wb_ HB.out) hb); clear HB; have HB := n0_; clear n0_; (try clear hb); (try clear hb2); (try clear hk); (try clear hi)) | ((with_reducible refine gate_callee (f := 16) rfl ?_); refine goesL_ (some 17) rfl rfl Tryd.func16 (by kernel_rfl) rfl #[.slice A0 l0.length c0, .slice A1 l1.length c1] rfl wm_ ?_; (with_reducible refine (bindlelaw11_mixed.calls k _ _ l0 _ _ l1 t575 _ ?side1 ?side2 ?side3 ?side4 A5.out).mono ?_); (case side1 => exact wc_ (Kd.C_below HR0.out HB.out)); (case side2 => exact HC0.out); (case side3 => exact wc_ (Kd.C_below HR1.out HB.out)); (case side4 => exact HC1.out); rintro e w14 ⟨v576, rfl, ho0, hb⟩; refine ⟨_, rfl, ?_⟩; have n0_ := A0_ (Kd.R_lower ho0 (below_size (wb_ HB.out))); have n1_ := A0_ (below_step (wb_ HB.out) hb); clear HB; have HO577 := n0_; have HB := n1_; clear n0_ n1_; (try clear hb); (try clear hb2); (try clear hk); (try clear hi); (try clear ho0); obtain ⟨Ao15, co15, eo15⟩ := Kd.R_slice HO577.out; subst eo15) | ((with_reducible refine gate_callee (f := 17) rfl ?_); refine goesL_ (some 18) rfl rfl Tryd.func17 (by kernel_rfl) rfl #[.slice A0 l0.length c0, .slice Ao15 t575.length co15] rfl wm_ ?_; (with_reducible refine (links_Members.calls _ _ l0 _ _ t575 t578 t581 _ ?side1 ?side2 ?side3 ?side4 A6.out).mono ?_); (case side1 => exact wc_ (Kd.C_below HR0.out HB.out)); (case side2 => exact HC0.out); (case side3 => exact wc_ (Kd.R_reads' HO577.out).2.2); (case side4 => exact (Kd.R_reads' HO577.out).2.1); rintro e w16 ⟨v579, rfl, ho0, hb⟩; refine ⟨_, rfl, ?_⟩; have n0_ := A0_ (Rb_ (wR_ HO577.out) hb); have n1_ := A0_ (Kd.V_lower (Kd.V_mono (ok' := fun k_ => some k_ ≠ (.slice Ao15 t575.length co15 : Value).ownBlock) ho0 (fun k_ hk_ => (Kd.fresh' (Kd.R_lt (wR_ HO577.out)) k_ hk_))) (below_size (wb_ HB.out))); have n2_ := A0_ (below_step (wb_ HB.out) hb); clear HO577; clear HB; have HO577 := n0_; have HO580 := n1_; have HB := n2_; clear n0_ n1_ n2_; (try clear hb); (try clear hb2); (try clear hk); (try clear hi); (try clear ho0); obtain ⟨Ao17, co17, eo17⟩ := Kd.V_slice HO580.out; subst eo17) | ((with_reducible refine gate_callee (f := 27) rfl ?_); refine goesL_ (some 23) rfl rfl Tryd.func27 (by kernel_rfl) rfl #[.slice Ao17 t578.length co17] rfl wm_ ?_; (with_reducible refine (tree_Fold.calls _ _ t578 t582 t585 t586 _ ?side1 ?side2 ?side3 A7.out).mono ?_); (case side1 => exact A0_ (Tabs.below hT.out (wb_ HB.out))); (case side2 => exact wc_ (Kd.V_reads' HO580.out).2.2); (case side3 => exact (Kd.V_reads' HO580.out).2.1); rintro e w18 ⟨v583, rfl, ho0, hb⟩; refine ⟨_, rfl, ?_⟩; have n0_ := A0_ (Rb_ (wR_ HO577.out) hb); have n1_ := A0_ (Vb_ (wV_ HO580.out) hb); have n2_ := A0_ (Kd.V_lower (Kd.V_mono (ok' := fun k_ => some k_ ≠ (.slice Ao15 t575.length co15 : Value).ownBlock) ho0 (fun k_ hk_ => (Kd.fresh' (Kd.R_lt (wR_ HO577.out)) k_ hk_))) (below_size (wb_ HB.out))); have n3_ := A0_ (below_step (wb_ HB.out) hb); clear HO577; clear HO580; clear HB; have HO577 := n0_; have HO580 := n1_; have HO584 := n2_; have HB := n3_; clear n0_ n1_ n2_ n3_; (try clear hb); (try clear hb2); (try clear hk); (try clear hi); (try clear ho0)) | ((with_reducible refine gate_dst (N := 8) rfl ?_); refine box_event ?hg (N := 8) ?hd (cs := #[.int .i64 0, .int .i64 0]) (t := 49) ?hr ?_; (case hd => rfl); (case hg => rfl); (case hr => first | (go_simp; done) | (go_simp; rfl)); intro gb587 hg w19 hbox hb; have n0_ := A0_ (Rb_ (wR_ HO577.out) hb); have n1_ := A0_ (Vb_ (Kd.V_elderB (wV_ HO580.out) gb587 (Nat.le_of_eq hg.symm)) hb); have n2_ := A0_ (Vb_ (Kd.V_elderB (wV_ HO584.out) gb587 (Nat.le_of_eq hg.symm)) hb); have n3_ := A0_ (below_step (wb_ HB.out) hb); have n4_ := A0_ (hbox); have n5_ := A0_ ((by rw [hg]; exact (below_size (wb_ HB.out)) : w.heap.size ≤ gb587)); have n6_ := A0_ ((by rw [hg]; exact (below_size (wb_ HB.out)) : w.heap.size ≤ gb587)); clear HO577; clear HO580; clear HO584; clear HB; have HO577 := n0_; have HO580 := n1_; have HO584 := n2_; have HB := n3_; have BK587 := n4_; have GW587 := n5_; have GE587 := n6_; clear n0_ n1_ n2_ n3_ n4_ n5_ n6_; clear hb hbox hg; have hcz20_0 : w19.cell? ⟨gb587, 0, none⟩ = some (.int .i64 0) := (bc_ BK587.out 0).trans rfl; have hcz20_1 : w19.cell? ⟨gb587, 1, none⟩ = some (.int .i64 0) := (bc_ BK587.out 1).trans rfl; have hfz20_0 := bf_ BK587.out 0; have hfz20_1 := bf_ BK587.out 1) | ((with_reducible refine gate_callee (f := 15) rfl ?_); refine goesL_ (some 26) rfl rfl Tryd.func15 (by kernel_rfl) rfl #[] rfl wm_ ?_; (with_reducible refine (bindlelaw11_answers.calls  true _ ?side1 A8.out).mono ?_); (case side1 => exact A0_ (Tabs.below hT.out (wb1_ HB.out GE587.out))); rintro e w21 ⟨rfl, hb⟩; refine ⟨_, rfl, ?_⟩; have n0_ := A0_ (Rb_ (by (with_reducible repeat (first | apply Ra_ | apply RN_ | apply R1_)); exact (Kd.R_mono (Kd.R_far (p := ⟨gb587, 1, none⟩) (Kd.R_far (p := ⟨gb587, 0, none⟩) (Kd.R_types HO577.out BK587.out (by decide)) (fun _ hk => hk.2) (.int .i64 t585)) (fun _ hk => hk.2) (.int .i64 t586)) (fun _ h_ => h_.1))) hb); have n1_ := A0_ (Vb_ (by (with_reducible repeat (first | apply Va_ | apply VN_ | apply V1_)); exact (Kd.V_mono (Kd.V_far (p := ⟨gb587, 1, none⟩) (Kd.V_far (p := ⟨gb587, 0, none⟩) (Kd.V_mono HO580.out (fun k_ hk => (⟨hk, hk.2⟩ : _ ∧ k_ ≠ gb587))) (fun _ hk => hk.2) (.int .i64 t585)) (fun _ hk => hk.2) (.int .i64 t586)) (fun _ h_ => h_.1))) hb); have n2_ := A0_ (Vb_ (by (with_reducible repeat (first | apply Va_ | apply VN_ | apply V1_)); exact (Kd.V_mono (Kd.V_far (p := ⟨gb587, 1, none⟩) (Kd.V_far (p := ⟨gb587, 0, none⟩) (Kd.V_mono HO584.out (fun k_ hk => (⟨hk, hk.2⟩ : _ ∧ k_ ≠ gb587))) (fun _ hk => hk.2) (.int .i64 t585)) (fun _ hk => hk.2) (.int .i64 t586)) (fun _ h_ => h_.1))) hb); have n3_ := A0_ (blk_below (g := gb587) (o := .cells #[.int .i64 t585, .int .i64 t586] 49 (0, 0)) (by (with_reducible repeat (first | refine blk_drewN ?_ _ | refine blk_drew ?_ | refine blk_alloc ?_ _)); refine blk_put (cs := #[.int .i64 t585, .int .i64 0]) ?_ 1 _ rfl; (with_reducible repeat (first | refine blk_drewN ?_ _ | refine blk_drew ?_ | refine blk_alloc ?_ _)); refine blk_put (cs := #[.int .i64 0, .int .i64 0]) ?_ 0 _ rfl; (with_reducible repeat (first | refine blk_drewN ?_ _ | refine blk_drew ?_ | refine blk_alloc ?_ _)); exact BK587.out) hb); have n4_ := A0_ (below_step (wb1_ HB.out GE587.out) hb); clear HO577; clear HO580; clear HO584; clear BK587; clear HB; have HO577 := n0_; have HO580 := n1_; have HO584 := n2_; have BK587 := n3_; have HB := n4_; clear n0_ n1_ n2_ n3_ n4_; (try clear hb); (try clear hb2); (try clear hk); (try clear hi); have hcz22_0 : w21.cell? ⟨gb587, 0, none⟩ = some (.int .i64 t585) := (bc_ BK587.out 0).trans rfl; have hcz22_1 : w21.cell? ⟨gb587, 1, none⟩ = some (.int .i64 t586) := (bc_ BK587.out 1).trans rfl; have hfz22_0 := bf_ BK587.out 0; have hfz22_1 := bf_ BK587.out 1; obtain ⟨Ao23, co23, eo23⟩ := Kd.V_slice HO584.out; subst eo23) | (go_at_call 30; (with_reducible refine (bindleref08_SameTree.calls k _ _ l0 _ _ t582 t589 _ ?side1 ?side2 ?side3 ?side4 A12.out).mono ?_); (case side1 => exact wc_ (Kd.C_below HR0.out HB.out)); (case side2 => exact HC0.out); (case side3 => exact wc_ (Kd.V_reads' HO584.out).2.2); (case side4 => exact (Kd.V_reads' HO584.out).2.1); rintro e w24 ⟨rfl, hb⟩; have n0_ := A0_ (Rb_ (wR_ HO577.out) hb); have n1_ := A0_ (Vb_ (wV_ HO580.out) hb); have n2_ := A0_ (Vb_ (wV_ HO584.out) hb); have n3_ := A0_ (blk_below (g := gb587) (o := .cells #[.int .i64 t585, .int .i64 t586] 49 (0, 0)) (wB_ BK587.out) hb); have n4_ := A0_ (below_step (wb1_ HB.out GE587.out) hb); clear HO577; clear HO580; clear HO584; clear BK587; clear HB; have HO577 := n0_; have HO580 := n1_; have HO584 := n2_; have BK587 := n3_; have HB := n4_; clear n0_ n1_ n2_ n3_ n4_; (try clear hb); (try clear hb2); (try clear hk); (try clear hi)))
 go_ret
 exact ⟨we_, wb1_ HB.out GE587.out⟩
end Go.Proofs.YtfljbidecljlcaaDoor.Print

namespace Go.Proofs.YtfljbidecljlcaaDoor
open Go.RowKit Go.Proofs.YtfljbidecljlcaaDoor.Print Go.Proofs.YtfljbidecljlcaaDoorW.PrintWords
set_option linter.unusedVariables false
theorem answers11b : bindlelaw11_answers.f = some true := by kernel_rfl
theorem LinksBack_true (l : List Node) (u : List Int) (hz : ∀ x ∈ l, NodeZ x) (hlen : l.length ≤ 140737488351232) (hu : ∀ x ∈ u, 0 ≤ x ∧ x ≤ 255) : Ev (fun k => bindlelaw11_LinksBack.f k l u) true := by
 obtain ⟨b, h1, h2⟩ := light11 l hz hlen
 unfold bindlelaw11_LinksBack.f
 refine Ev.bind h1 ?_
 cases b with
 | false => exact Ev.congr (fun k => by rw [if_neg (by decide), answers11b]; rfl) (Ev.now _)
 | true =>
  obtain ⟨h60, hg⟩ := h2 rfl
  obtain ⟨q, h3, hq⟩ := mixed_eq l u (by omega) hu
  obtain ⟨hm, t, hf, hs⟩ := tree_back hg hq
  have hmz := members_Z hz hg (by omega) q
  have hlf : links_Members.f l q = some (membersF l q) := by unfold links_Members.f; rw [if_pos ⟨(good_parts hg).1, nodesZ_small hz (by omega)⟩]
  have hff : tree_Fold.f (membersF l q).1 = some (t, 0, 0) := by unfold tree_Fold.f; rw [if_pos hmz, hf]
  refine Ev.congr (fun k => by rw [if_pos rfl]) ?_
  refine Ev.bind h3 ?_
  refine Ev.congr (f := fun k => (bindleref08_SameTree.f k l t).bind fun t537 => some t537) (fun k => ?_) ?_
  ·rw [hlf, Option.bind_some, hff, Option.bind_some, answers11b, Option.bind_some, if_pos rfl, if_pos hm, if_pos rfl]
  ·refine Ev.bind (sameTree_eq l t (by omega)) ?_
   rw [hs]
   exact Ev.now true
end Go.Proofs.YtfljbidecljlcaaDoor

namespace Go.Proofs.YtfljbidecljlcaaDoor
open Go.RowKit Go.Lib Go.Proofs.YtfljbidecljlcaaDoorW.PrintWords
theorem laidOut : laidOutB Tryd.prog = true := by kernel_rfl
end Go.Proofs.YtfljbidecljlcaaDoor
