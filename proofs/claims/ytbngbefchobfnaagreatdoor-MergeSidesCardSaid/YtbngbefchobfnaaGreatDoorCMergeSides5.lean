/-
  Part of the proof that MergeSides answers true: texts put together (wip/bundle.py).
-/
import Derived.Test.YtbngbefchobfnaaGreatDoorCMergeSides4
import Derived.Deep.RegionHeld3
import Derived.Laws.Cover1
import Derived.Deep.LoopGhost
import Derived.Deep.DeepCutAuto
import Derived.IntWalk
import Derived.SizedLaws
import Derived.ChangeSlices
import Derived.OpenShut
namespace Go.Proofs.YtbngbefchobfnaaGreatDoor
open Go.RowKit Go.Maps Go.Proofs.YtbngbefchobfnaaGreatDoor.Print Go.Proofs.YtbngbefchobfnaaGreatDoorW.PrintWords Go.Proofs.YtbngbefchobfnaaGreatDoorW.PrintLast Go.Proofs.YtbngbefchobfnaaGreatDoorW.PrintMore
set_option linter.unusedVariables false
set_option linter.unusedSimpArgs false
abbrev goodtwA_0 : Array Bool := #[false, false, false, false, false, false, false, false, false, false, false, false, false, false, false, false, false, false, false, false, false, false, false, false, false, false, false, false, false, false, false, false, false]
abbrev goodtwA_1 : Array Bool := #[true, false, false, false, false, false, false, false, false, false, false, false, false, false, false, false, false, false, false, false, false, false, false, false, false, false, false, false, false, false, false, false, false]
abbrev goodtwA_2 : Array Bool := #[true, true, false, false, false, false, false, false, false, false, false, false, false, false, false, false, false, false, false, false, false, false, false, false, false, false, false, false, false, false, false, false, false]
abbrev goodtwA_3 : Array Bool := #[true, true, true, false, false, false, false, false, false, false, false, false, false, false, false, false, false, false, false, false, false, false, false, false, false, false, false, false, false, false, false, false, false]
abbrev goodtwA_4 : Array Bool := #[true, true, true, true, false, false, false, false, false, false, false, false, false, false, false, false, false, false, false, false, false, false, false, false, false, false, false, false, false, false, false, false, false]
abbrev goodtwA_5 : Array Bool := #[true, true, true, true, true, false, false, false, false, false, false, false, false, false, false, false, false, false, false, false, false, false, false, false, false, false, false, false, false, false, false, false, false]
abbrev goodtwA_6 : Array Bool := #[true, true, true, true, true, true, false, false, false, false, false, false, false, false, false, false, false, false, false, false, false, false, false, false, false, false, false, false, false, false, false, false, false]
abbrev goodtwA_7 : Array Bool := #[true, true, true, true, true, true, true, false, false, false, false, false, false, false, false, false, false, false, false, false, false, false, false, false, false, false, false, false, false, false, false, false, false]
abbrev goodtwA_8 : Array Bool := #[true, true, true, true, true, true, true, true, false, false, false, false, false, false, false, false, false, false, false, false, false, false, false, false, false, false, false, false, false, false, false, false, false]
abbrev goodtwA_9 : Array Bool := #[true, true, true, true, true, true, true, true, true, false, false, false, false, false, false, false, false, false, false, false, false, false, false, false, false, false, false, false, false, false, false, false, false]
abbrev goodtwA_10 : Array Bool := #[true, true, true, true, true, true, true, true, true, true, false, false, false, false, false, false, false, false, false, false, false, false, false, false, false, false, false, false, false, false, false, false, false]
abbrev goodtwA_11 : Array Bool := #[true, true, true, true, true, true, true, true, true, true, true, false, false, false, false, false, false, false, false, false, false, false, false, false, false, false, false, false, false, false, false, false, false]
abbrev goodtwA_12 : Array Bool := #[true, true, true, true, true, true, true, true, true, true, true, true, false, false, false, false, false, false, false, false, false, false, false, false, false, false, false, false, false, false, false, false, false]
abbrev goodtwA_13 : Array Bool := #[true, true, true, true, true, true, true, true, true, true, true, true, true, false, false, false, false, false, false, false, false, false, false, false, false, false, false, false, false, false, false, false, false]
abbrev goodtwA_14 : Array Bool := #[true, true, true, true, true, true, true, true, true, true, true, true, true, true, false, false, false, false, false, false, false, false, false, false, false, false, false, false, false, false, false, false, false]
abbrev goodtwA_15 : Array Bool := #[true, true, true, true, true, true, true, true, true, true, true, true, true, true, true, false, false, false, false, false, false, false, false, false, false, false, false, false, false, false, false, false, false]
abbrev goodtwA_16 : Array Bool := #[true, true, true, true, true, true, true, true, true, true, true, true, true, true, true, true, false, false, false, false, false, false, false, false, false, false, false, false, false, false, false, false, false]
abbrev goodtwA_17 : Array Bool := #[true, true, true, true, true, true, true, true, true, true, true, true, true, true, true, true, true, false, false, false, false, false, false, false, false, false, false, false, false, false, false, false, false]
abbrev goodtwA_18 : Array Bool := #[true, true, true, true, true, true, true, true, true, true, true, true, true, true, true, true, true, true, false, false, false, false, false, false, false, false, false, false, false, false, false, false, false]
abbrev goodtwA_19 : Array Bool := #[true, true, true, true, true, true, true, true, true, true, true, true, true, true, true, true, true, true, true, false, false, false, false, false, false, false, false, false, false, false, false, false, false]
abbrev goodtwA_20 : Array Bool := #[true, true, true, true, true, true, true, true, true, true, true, true, true, true, true, true, true, true, true, true, false, false, false, false, false, false, false, false, false, false, false, false, false]
abbrev goodtwA_21 : Array Bool := #[true, true, true, true, true, true, true, true, true, true, true, true, true, true, true, true, true, true, true, true, true, false, false, false, false, false, false, false, false, false, false, false, false]
abbrev goodtwA_22 : Array Bool := #[true, true, true, true, true, true, true, true, true, true, true, true, true, true, true, true, true, true, true, true, true, true, false, false, false, false, false, false, false, false, false, false, false]
abbrev goodtwA_23 : Array Bool := #[true, true, true, true, true, true, true, true, true, true, true, true, true, true, true, true, true, true, true, true, true, true, true, false, false, false, false, false, false, false, false, false, false]
abbrev goodtwA_24 : Array Bool := #[true, true, true, true, true, true, true, true, true, true, true, true, true, true, true, true, true, true, true, true, true, true, true, true, false, false, false, false, false, false, false, false, false]
abbrev goodtwA_25 : Array Bool := #[true, true, true, true, true, true, true, true, true, true, true, true, true, true, true, true, true, true, true, true, true, true, true, true, true, false, false, false, false, false, false, false, false]
abbrev goodtwA_26 : Array Bool := #[true, true, true, true, true, true, true, true, true, true, true, true, true, true, true, true, true, true, true, true, true, true, true, true, true, true, false, false, false, false, false, false, false]
abbrev goodtwA_27 : Array Bool := #[true, true, true, true, true, true, true, true, true, true, true, true, true, true, true, true, true, true, true, true, true, true, true, true, true, true, true, false, false, false, false, false, false]
abbrev goodtwA_28 : Array Bool := #[true, true, true, true, true, true, true, true, true, true, true, true, true, true, true, true, true, true, true, true, true, true, true, true, true, true, true, true, false, false, false, false, false]
abbrev goodtwA_29 : Array Bool := #[true, true, true, true, true, true, true, true, true, true, true, true, true, true, true, true, true, true, true, true, true, true, true, true, true, true, true, true, true, false, false, false, false]
abbrev goodtwA_30 : Array Bool := #[true, true, true, true, true, true, true, true, true, true, true, true, true, true, true, true, true, true, true, true, true, true, true, true, true, true, true, true, true, true, false, false, false]
abbrev goodtwA_31 : Array Bool := #[true, true, true, true, true, true, true, true, true, true, true, true, true, true, true, true, true, true, true, true, true, true, true, true, true, true, true, true, true, true, true, false, false]
abbrev goodtwA_32 : Array Bool := #[true, true, true, true, true, true, true, true, true, true, true, true, true, true, true, true, true, true, true, true, true, true, true, true, true, true, true, true, true, true, true, true, false]
abbrev goodtwA_33 : Array Bool := #[true, true, true, true, true, true, true, true, true, true, true, true, true, true, true, true, true, true, true, true, true, true, true, true, true, true, true, true, true, true, true, true, true]
abbrev gq_0 : Array Bool := goodtwA_0
abbrev gq_1 : Array Bool := goodtwA_1
abbrev gq_2 : Array Bool := goodtwA_2
abbrev gq_3 : Array Bool := goodtwA_3
abbrev gq_4 : Array Bool := goodtwA_4
abbrev gq_5 : Array Bool := goodtwA_5
abbrev gq_6 : Array Bool := goodtwA_6
abbrev gq_7 : Array Bool := goodtwA_7
abbrev gq_8 : Array Bool := goodtwA_8
abbrev gq_9 : Array Bool := goodtwA_9
abbrev gq_10 : Array Bool := goodtwA_10
abbrev gq_11 : Array Bool := goodtwA_11
abbrev gq_12 : Array Bool := goodtwA_12
abbrev gq_13 : Array Bool := goodtwA_13
abbrev gq_14 : Array Bool := goodtwA_14
abbrev gq_15 : Array Bool := goodtwA_15
abbrev gq_16 : Array Bool := goodtwA_16
abbrev gq_17 : Array Bool := goodtwA_17
abbrev gq_18 : Array Bool := goodtwA_18
abbrev gq_19 : Array Bool := goodtwA_19
abbrev gq_20 : Array Bool := goodtwA_20
abbrev gq_21 : Array Bool := goodtwA_21
abbrev gq_22 : Array Bool := goodtwA_22
abbrev gq_23 : Array Bool := goodtwA_23
abbrev gq_24 : Array Bool := goodtwA_24
abbrev gq_25 : Array Bool := goodtwA_25
abbrev gq_26 : Array Bool := goodtwA_26
abbrev gq_27 : Array Bool := goodtwA_27
abbrev gq_28 : Array Bool := goodtwA_28
abbrev gq_29 : Array Bool := goodtwA_29
abbrev gq_30 : Array Bool := goodtwA_30
abbrev gq_31 : Array Bool := goodtwA_31
abbrev gq_32 : Array Bool := goodtwA_32
abbrev gq_33 : Array Bool := goodtwA_33
theorem lt_of_alloc {w w1 : World} {o : Obj} (hb : Below (w.alloc o).heap.size (w.alloc o) w1) : w.heap.size < w1.heap.size := Nat.lt_of_lt_of_le (by rw [World.size_alloc]; exact Nat.lt_succ_self _) hb.size
def RefRel (l : List Node) (W : World) (i : Int) (wr : World) : Prop := 0 ≤ i ∧ i ≤ l.length ∧ (∀ (j : Nat) (hj : j < l.length), (j : Int) < i → nodeOk l j hj = true) ∧ Below W.heap.size W wr
def headOk (l : List Node) (i : Nat) (h : i < l.length) : Bool := (decide (i = 0) || lt (l[i - 1]'(by omega)).f0 l[i].f0) && !decide (l[i].f3 = 49) && goodM (memOf l[i])
theorem nodeOk_head (l : List Node) (i : Nat) (h : i < l.length) : nodeOk l i h = (headOk l i h && ledB (l.take (i + 1)) l[i]) := rfl
def nodeObj (x : Node) (v : Value) : Obj := .cells #[.string x.f0, .string x.f1, .string x.f2, .int .u8 x.f3, .int .i64 x.f4.f0, .int .i64 x.f4.f1, .int .i64 x.f4.f2, .int .i64 x.f4.f3, v] 42
def boxed (w : World) (g : Nat) (x : Node) (v : Value) : Prop := (w.cell? ⟨g, 0, none⟩ = some (.string x.f0) ∧ w.cell? ⟨g, 1, none⟩ = some (.string x.f1) ∧ w.cell? ⟨g, 2, none⟩ = some (.string x.f2) ∧ w.cell? ⟨g, 3, none⟩ = some (.int .u8 x.f3)) ∧ (w.cell? ⟨g, 4, none⟩ = some (.int .i64 x.f4.f0) ∧ w.cell? ⟨g, 5, none⟩ = some (.int .i64 x.f4.f1) ∧ w.cell? ⟨g, 6, none⟩ = some (.int .i64 x.f4.f2) ∧ w.cell? ⟨g, 7, none⟩ = some (.int .i64 x.f4.f3)) ∧ w.cell? ⟨g, 8, none⟩ = some v
theorem boxed.below {w w1 : World} {g : Nat} {x : Node} {v : Value} (h : boxed w g x v) (hb : Below w.heap.size w w1) : boxed w1 g x v :=
 ⟨⟨bkeep hb h.1.1, bkeep hb h.1.2.1, bkeep hb h.1.2.2.1, bkeep hb h.1.2.2.2⟩, ⟨bkeep hb h.2.1.1, bkeep hb h.2.1.2.1, bkeep hb h.2.1.2.2.1, bkeep hb h.2.1.2.2.2⟩, bkeep hb h.2.2⟩
def Mid5 (l : List Node) (n : Nat) (h : n < l.length) (g : Nat) (x : Node) (v : Value) (b : Bool) (wr wx : World) : Prop := b = !(headOk l n h) ∧ Below wr.heap.size wr wx ∧ boxed wx g x v
theorem mid5_1 {l : List Node} {W w1 : World} {n : Nat} {h : n < l.length} {g : Nat} {x : Node} {v : Value} {b : Bool} (hb : b = !(headOk l n h)) (hB : Below W.heap.size W w1)
  (hh : w1.cell? ⟨g, 0, none⟩ = some (.string x.f0) ∧ w1.cell? ⟨g, 1, none⟩ = some (.string x.f1) ∧ w1.cell? ⟨g, 2, none⟩ = some (.string x.f2) ∧ w1.cell? ⟨g, 3, none⟩ = some (.int .u8 x.f3) ∧ w1.cell? ⟨g, 4, none⟩ = some (.int .i64 x.f4.f0) ∧ w1.cell? ⟨g, 5, none⟩ = some (.int .i64 x.f4.f1) ∧ w1.cell? ⟨g, 6, none⟩ = some (.int .i64 x.f4.f2) ∧ w1.cell? ⟨g, 7, none⟩ = some (.int .i64 x.f4.f3) ∧ w1.cell? ⟨g, 8, none⟩ = some v) : Mid5 l n h g x v b W w1 :=
 ⟨hb, hB, ⟨hh.1, hh.2.1, hh.2.2.1, hh.2.2.2.1⟩, ⟨hh.2.2.2.2.1, hh.2.2.2.2.2.1, hh.2.2.2.2.2.2.1, hh.2.2.2.2.2.2.2.1⟩, hh.2.2.2.2.2.2.2.2⟩
theorem mid5_2 {l : List Node} {W w1 : World} {n : Nat} {h : n < l.length} {g : Nat} {x : Node} {v : Value} {b : Bool} {p : Prop} (hb : b = !(headOk l n h)) (hB : Below W.heap.size W w1)
  (hh : w1.cell? ⟨g, 0, none⟩ = some (.string x.f0) ∧ w1.cell? ⟨g, 1, none⟩ = some (.string x.f1) ∧ w1.cell? ⟨g, 2, none⟩ = some (.string x.f2) ∧ w1.cell? ⟨g, 3, none⟩ = some (.int .u8 x.f3) ∧ w1.cell? ⟨g, 4, none⟩ = some (.int .i64 x.f4.f0) ∧ w1.cell? ⟨g, 5, none⟩ = some (.int .i64 x.f4.f1) ∧ w1.cell? ⟨g, 6, none⟩ = some (.int .i64 x.f4.f2) ∧ w1.cell? ⟨g, 7, none⟩ = some (.int .i64 x.f4.f3) ∧ w1.cell? ⟨g, 8, none⟩ = some v ∧ p) : Mid5 l n h g x v b W w1 :=
 ⟨hb, hB, ⟨hh.1, hh.2.1, hh.2.2.1, hh.2.2.2.1⟩, ⟨hh.2.2.2.2.1, hh.2.2.2.2.2.1, hh.2.2.2.2.2.2.1, hh.2.2.2.2.2.2.2.1⟩, hh.2.2.2.2.2.2.2.2.1⟩
theorem prev_lt {l : List Node} {n j : Int} {h : j.toNat < l.length} {h' : n.toNat - 1 < l.length} {y0 x0 : ByteArray} {b : Bool} (hy : l[j.toNat].f0 = y0) (hj : j = n - 1) (hl : Op.bytesLess y0.toList x0.toList = b) : lt (l[n.toNat - 1]).f0 x0 = b := by
 subst hj
 unfold lt
 rw [← hl, ← hy]
 congr 4
 omega
theorem refRel_next {l : List Node} {W wr w1 : World} {n : Int} (h : RefRel l W n wr) (hn : n.toNat < l.length) (h1 : headOk l n.toNat hn = true) (h2 : ledB (l.take (n.toNat + 1)) l[n.toNat] = true) (hB : Below W.heap.size W w1) : RefRel l W (n + 1) w1 := by
 have h0 := h.1
 refine ⟨by omega, by omega, fun q hq hqn => ?_, hB⟩
 rcases Nat.lt_or_ge q n.toNat with hh | hh
 ·exact h.2.2.1 q hq (by omega)
 ·obtain rfl : q = n.toNat := by omega
  rw [nodeOk_head, h1, h2]; rfl
def leadB (y x : Node) : Bool := decide (y.f3 = 48 ∧ y.f2.toList = y.f0.toList ∧ y.f4.f0 = x.f4.f0 ∧ y.f4.f1 = x.f4.f1 ∧ y.f4.f2 = x.f4.f2 ∧ y.f4.f3 = x.f4.f3 ∧ (strOfNums y.f5).toList = (strOfNums x.f5).toList)
theorem leadB_4 {y x : Node} (h : (y.f4.f0 == x.f4.f0 && (y.f4.f1 == x.f4.f1 && (y.f4.f2 == x.f4.f2 && (y.f4.f3 == x.f4.f3)))) = false) : (true && leadB y x) = false := by
 rw [Bool.true_and]
 unfold leadB
 rw [decide_eq_false]
 rintro ⟨_, _, h0, h1, h2, h3, _⟩
 rw [h0, h1, h2, h3] at h
 simp at h
theorem leadB_ok {y x : Node} (h3 : y.f3 = 48) (h2 : y.f2.toList = y.f0.toList) (h : (y.f4.f0 == x.f4.f0 && (y.f4.f1 == x.f4.f1 && (y.f4.f2 == x.f4.f2 && (y.f4.f3 == x.f4.f3)))) = true) (h5 : (strOfNums y.f5).toList = (strOfNums x.f5).toList) : (true && leadB y x) = true := by
 rw [Bool.true_and]
 unfold leadB
 simp only [Bool.and_eq_true, beq_iff_eq] at h
 rw [decide_eq_true_iff]
 exact ⟨h3, h2, h.1, h.2.1, h.2.2.1, h.2.2.2, h5⟩
theorem nodeOk_lead {l : List Node} {n : Nat} {x y : Node} {b : Bool} (hn : n < l.length) (hx : x = l[n]) (hR : ∀ (j : Nat) (hj : j < l.length), j < n → nodeOk l j hj = true) (hh : headOk l n hn = true) (h48 : x.f3 = 48)
  (hm : match findF (l.take (n + 1)) x.f2 with | some z => y = z ∧ b = true | none => y = z42 ∧ b = false) : nodeOk l n hn = (b && leadB y x) := by
 rw [nodeOk_head, hh, Bool.true_and]
 rw [← hx]
 unfold ledB
 rw [if_pos h48]
 cases hf : findF (l.take (n + 1)) x.f2 with
 | none =>
  rw [hf] at hm
  rw [hm.2]; rfl
 | some z =>
  rw [hf] at hm
  obtain ⟨rfl, rfl⟩ := hm
  rw [Bool.true_and]
  unfold leadB
  dsimp only
  have hlt : lt x.f0 y.f0 = false := by
   have hmem : y ∈ l.take (n + 1) := List.mem_of_find?_eq_some hf
   obtain ⟨t, ht, he⟩ := List.getElem_of_mem hmem
   rw [List.length_take] at ht
   rw [List.getElem_take] at he
   rcases Nat.lt_or_ge t n with h | h
   ·have hr : ∀ (d s : Nat) (hs : s + d + 1 ≤ n), lt (l[s]'(by omega)).f0 (l[s + d + 1]'(by omega)).f0 = true := by
     have h1 : ∀ (s : Nat) (hs : s + 1 ≤ n), lt (l[s]'(by omega)).f0 (l[s + 1]'(by omega)).f0 = true := by
      intro s hs
      have hd : headOk l (s + 1) (by omega) = true := by
       rcases Nat.lt_or_ge (s + 1) n with h2 | h2
       ·have := hR (s + 1) (by omega) h2
        rw [nodeOk_head, Bool.and_eq_true] at this
        exact this.1
       ·obtain rfl : s + 1 = n := by omega
        exact hh
      unfold headOk at hd
      simp only [Bool.and_eq_true, Bool.or_eq_true, decide_eq_true_iff] at hd
      rcases hd.1.1 with h3 | h3
      ·omega
      ·exact h3
     intro d
     induction d with
     | zero => intro s hs; exact h1 s hs
     | succ d ih => intro s hs; exact lt_trans (ih s (by omega)) (h1 (s + d + 1) (by omega))
    have h2 := hr (n - t - 1) t (by omega)
    have h3 : t + (n - t - 1) + 1 = n := by omega
    simp only [h3] at h2
    rw [he, ← hx] at h2
    exact lt_asym h2
   ·obtain rfl : t = n := by omega
    rw [← he, hx, lt_irr]
  refine decide_eq_decide.2 ⟨fun h => ⟨h.1, h.2.1, h.2.2.2⟩, fun h => ⟨h.1, h.2.1, hlt, h.2.2⟩⟩
def Mid10 (l : List Node) (n g : Nat) (x : Node) (v : Value) (g' : Nat) (y : Node) (b : Bool) (A : Option Addr) (c : Nat) (wc wx : World) : Prop :=
 (match findF (l.take (n + 1)) x.f2 with | some z => y = z ∧ b = true | none => y = z42 ∧ b = false) ∧ Below wc.heap.size wc wx ∧ boxed wx g x v ∧ boxed wx g' y (.slice A y.f5.length c) ∧ Kd.C (Kd.int .u8) wx A y.f5.length y.f5
def putNode (w : World) (g : Nat) (x : Node) (v : Value) : World := ((((((((w.setCell ⟨g, 0, none⟩ (.string x.f0)).setCell ⟨g, 1, none⟩ (.string x.f1)).setCell ⟨g, 2, none⟩ (.string x.f2)).setCell ⟨g, 3, none⟩ (.int .u8 x.f3)).setCell ⟨g, 4, none⟩ (.int .i64 x.f4.f0)).setCell ⟨g, 5, none⟩ (.int .i64 x.f4.f1)).setCell ⟨g, 6, none⟩ (.int .i64 x.f4.f2)).setCell ⟨g, 7, none⟩ (.int .i64 x.f4.f3)).setCell ⟨g, 8, none⟩ v
theorem boxed.put {w : World} {g g' : Nat} {x y : Node} {v u : Value} (h : boxed w g x v) (hne : g ≠ g') : boxed (putNode w g' y u) g x v := by
 have e : ∀ j, (putNode w g' y u).cell? ⟨g, j, none⟩ = w.cell? ⟨g, j, none⟩ := fun j => by
  have hh : ∀ i, (⟨g', i, none⟩ : Addr) ≠ ⟨g, j, none⟩ := fun i h => by injection h with h; exact hne h.symm
  unfold putNode
  rw [World.cell?_setCell_other _ _ _ _ (hh _), World.cell?_setCell_other _ _ _ _ (hh _), World.cell?_setCell_other _ _ _ _ (hh _), World.cell?_setCell_other _ _ _ _ (hh _), World.cell?_setCell_other _ _ _ _ (hh _), World.cell?_setCell_other _ _ _ _ (hh _), World.cell?_setCell_other _ _ _ _ (hh _), World.cell?_setCell_other _ _ _ _ (hh _), World.cell?_setCell_other _ _ _ _ (hh _)]
 unfold boxed
 simp only [e]
 exact h
theorem boxed.puts {w : World} {g : Nat} {x : Node} {v : Value} (h : ∀ j, j < 9 → (w.cell? ⟨g, j, none⟩).isSome = true) : boxed (putNode w g x v) g x v := by
 obtain ⟨u0, h0⟩ := Option.isSome_iff_exists.1 (h 0 (by omega))
 obtain ⟨u1, h1⟩ := Option.isSome_iff_exists.1 (h 1 (by omega))
 obtain ⟨u2, h2⟩ := Option.isSome_iff_exists.1 (h 2 (by omega))
 obtain ⟨u3, h3⟩ := Option.isSome_iff_exists.1 (h 3 (by omega))
 obtain ⟨u4, h4⟩ := Option.isSome_iff_exists.1 (h 4 (by omega))
 obtain ⟨u5, h5⟩ := Option.isSome_iff_exists.1 (h 5 (by omega))
 obtain ⟨u6, h6⟩ := Option.isSome_iff_exists.1 (h 6 (by omega))
 obtain ⟨u7, h7⟩ := Option.isSome_iff_exists.1 (h 7 (by omega))
 obtain ⟨u8, h8⟩ := Option.isSome_iff_exists.1 (h 8 (by omega))
 clear h
 unfold boxed putNode
 simp [go_sem, h0, h1, h2, h3, h4, h5, h6, h7, h8]
theorem below_putNode {B : Nat} {a w : World} (h : Below B a w) (g : Nat) (hg : B ≤ g) (x : Node) (v : Value) : Below B a (putNode w g x v) := by
 unfold putNode
 repeat (refine below_put ?_ _ _ hg _)
 exact h
theorem mid10_a {l : List Node} {wc w1 : World} {n : Int} {g c : Nat} {x y : Node} {v : Value} {b : Bool} {A : Option Addr} (hm : match findF (l.take (n + 1).toNat) x.f2 with | some z => y = z ∧ b = true | none => y = z42 ∧ b = false) (hx : boxed wc g x v) (hb : Below wc.drew.heap.size wc.drew w1)
  (hC : Kd.F (Kd.int .u8) w1 (fun k => k < wc.heap.size ∨ wc.drew.heap.size ≤ k) A y.f5.length y.f5) (hn : 0 ≤ n) : Mid10 l n.toNat g x v w1.heap.size y b A c wc (w1.alloc (nodeObj y (.slice A y.f5.length c))) := by
 have hb' : Below wc.heap.size wc w1 := (below_drew (Below.refl _ _)).trans hb
 refine ⟨by rw [show n.toNat + 1 = (n + 1).toNat by omega]; exact hm, hb'.alloc hb'.size _, (hx.below hb').below (below_alloc (Below.refl _ _) _), ?_, Kd.F_now (Kd.F_alloc hC _)⟩
 unfold boxed nodeObj
 simp [go_sem]
theorem mid10_b {cs : Array Value} {l : List Node} {wc w1 : World} {n : Int} {g c : Nat} {x y : Node} {v : Value} {b : Bool} {A : Option Addr} (hm : match findF (l.take (n + 1).toNat) x.f2 with | some z => y = z ∧ b = true | none => y = z42 ∧ b = false) (hx : boxed wc g x v) (hb : Below (wc.drew.alloc (.cells cs 42)).heap.size (wc.drew.alloc (.cells cs 42)) w1)
  (hC : Kd.F (Kd.int .u8) w1 (fun k => k < wc.heap.size ∨ (wc.drew.alloc (.cells cs 42)).heap.size ≤ k) A y.f5.length y.f5) (hn : 0 ≤ n) (hcs : cs.size = 9) : Mid10 l n.toNat g x v wc.heap.size y b A c wc (putNode w1 wc.heap.size y (.slice A y.f5.length c)) := by
 have hs : (wc.drew.alloc (.cells cs 42)).heap.size = wc.heap.size + 1 := by rw [World.size_alloc]; rfl
 have hb' : Below wc.heap.size wc w1 := (below_alloc (below_drew (Below.refl _ _)) _).trans (hb.mono (by omega))
 have hlt : g < wc.heap.size := World.block_lt_of_cell? wc ⟨g, 2, none⟩ hx.1.2.2.1
 refine ⟨by rw [show n.toNat + 1 = (n + 1).toNat by omega]; exact hm, below_putNode hb' _ (Nat.le_refl _) _ _, (hx.below hb').put (by omega), boxed.puts (fun j hj => ?_), ?_⟩
 ·have h1 : w1.cell? ⟨wc.heap.size, j, none⟩ = (wc.drew.alloc (.cells cs 42)).cell? ⟨wc.heap.size, j, none⟩ := hb.cell (p := ⟨wc.heap.size, j, none⟩) (by rw [hs]; exact Nat.lt_succ_self _)
  rw [h1]
  have h2 : (wc.drew.alloc (.cells cs 42)).cell? ⟨wc.heap.size, j, none⟩ = cs[j]? := World.cell?_alloc_new wc.drew _ _ _
  rw [h2, Array.getElem?_eq_getElem (by omega)]
  rfl
 ·unfold putNode
  refine Kd.F_now (ok := fun k => k < wc.heap.size ∨ (wc.drew.alloc (.cells cs 42)).heap.size ≤ k) ?_
  repeat (refine Kd.F_far ?_ (p := ⟨wc.heap.size, _, none⟩) (fun k hk => by show k ≠ wc.heap.size; omega) _)
  exact hC
attribute [local go_sem high] eqA39
set_option maxRecDepth 100000 in
set_option maxHeartbeats 8000000 in
theorem RefTree_calls (A0 : Option Addr) (c0 : Nat) (l : List Node) (W : World) (hC : Kd.C k42 W A0 l.length l) (hc0 : l.length ≤ c0) (hz : NodesZ l) :
  Calls Tryz.prog 18 #[.slice A0 l.length c0] W fun e W' => e = .returned (.bool (goodTree l)) ∧ Below W.heap.size W W' := by
 have HC := Aside0.mk hC
 have HZ := Aside0.mk hz
 have HC0 := Aside0.mk hc0
 have hlen : (l.length : Int) ≤ 1000000000000 := by have := hz.1; omega
 clear hC hz hc0
 generalize hpost : (fun (e : Ending) (W' : World) => e = .returned (.bool (goodTree l)) ∧ Below W.heap.size W W') = Q
 have hQ := Aside0.mk hpost
 clear hpost
 go_enter Tryz.func18, Tryz.ntmps18
 go_wp2
 go_loopg [3] (l.length) (fun g i wr => ∃ n : Int, i = .int .i64 n ∧ Aside0 (RefRel l W n wr) ∧ Aside0 ((g : Int) + n = l.length))
 case atStart => exact ⟨0, rfl, ⟨⟨by omega, by omega, fun j hj h => absurd h (by omega), Below.refl _ _⟩⟩, ⟨by omega⟩⟩
 case round =>
  obtain ⟨n, rfl, HR, HG⟩ := hrel
  have h0 := HR.out.1
  have h1 := HR.out.2.1
  have hB := HR.out.2.2.2
  have HB := Aside0.mk hB
  by_cases hlt : n < (l.length : Int)
  ·have hnl : n.toNat < l.length := by omega
   obtain ⟨ad, A7, c7, rfl, x0, x1, x2, x3, x4, x5, x6, x7, x8, hl7, hC7⟩ := at_T42 (Kd.C_below HC.out hB) n h0 hlt
   have hx := rdN_at l n h0 hlt
   have hxz : NodeZ (rd_T42 l n) := by rw [hx]; exact HZ.out.2 _ (List.getElem_mem _)
   generalize rd_T42 l n = x at hx hxz x0 x1 x2 x3 x4 x5 x6 x7 x8 hl7 hC7
   have HX := Aside0.mk hx
   have HXZ := Aside0.mk hxz
   have HC7 := Aside0.mk hC7
   have c1b : decide (n < (l.length : Int)) = true := decide_eq_true hlt
   clear hx hxz hC7
   have hmr : MemR (memOf x) := ⟨HXZ.out.1, HXZ.out.2.1, HXZ.out.2.2.2⟩
   obtain ⟨kg, hkg⟩ := Ev.rounds (refGood_eq (memOf x) hmr)
   generalize hgd : goodM (memOf x) = gd at hkg
   have HGD := Aside0.mk hgd
   have HKG : Aside0 (bindleref08_Good.f kg x.f0 x.f1 x.f3 x.f4.f0 x.f4.f1 x.f4.f2 x.f4.f3 x.f5 = some gd) := ⟨hkg⟩
   have HCA := Aside0.mk (fun o => Kd.C_alloc HC7.out o)
   have hl7' : x.f5.length ≤ c7 := hl7
   have HNL := Aside0.mk hnl
   clear hkg hmr hl7 hgd hnl
   go_upto_region 5 with (fail)
   go_cut [49] (fun v wx => ∃ b, v = .bool b ∧ Aside0 (Mid5 l n.toNat HNL.out wr.heap.size x (.slice A7 x.f5.length c7) b wr wx))
   case first =>
    by_cases hn0 : n = 0
    ·have g1 : decide (0 < n) = false := decide_eq_false (by omega)
     have g2 : decide (n > 0) = false := decide_eq_false (by omega)
     have HN0 := Aside0.mk hn0
     clear hn0
     by_cases h49 : x.f3 = 49
     ·have e49 : (x.f3 == 49) = true := beq_iff_eq.2 h49
      have H49 := Aside0.mk h49
      clear h49
      refine start_ (n := 33) (S := fun w' => w'.cell? ⟨wr.heap.size, 0, none⟩ = some (.string x.f0) ∧ w'.cell? ⟨wr.heap.size, 1, none⟩ = some (.string x.f1) ∧ w'.cell? ⟨wr.heap.size, 2, none⟩ = some (.string x.f2) ∧ w'.cell? ⟨wr.heap.size, 3, none⟩ = some (.int .u8 x.f3) ∧ w'.cell? ⟨wr.heap.size, 4, none⟩ = some (.int .i64 x.f4.f0) ∧ w'.cell? ⟨wr.heap.size, 5, none⟩ = some (.int .i64 x.f4.f1) ∧ w'.cell? ⟨wr.heap.size, 6, none⟩ = some (.int .i64 x.f4.f2) ∧ w'.cell? ⟨wr.heap.size, 7, none⟩ = some (.int .i64 x.f4.f3) ∧ w'.cell? ⟨wr.heap.size, 8, none⟩ = some (.slice A7 x.f5.length c7)) (ds := []) gq_0 (by kernel_rfl) rfl rfl ⟨by simp, by simp, by simp, by simp, by simp, by simp, by simp, by simp, by simp⟩ (fun hHeld => ?_)
      generalize hwq : (wr.alloc (.cells #[.string x.f0, .string x.f1, .string x.f2, .int .u8 x.f3, .int .i64 x.f4.f0, .int .i64 x.f4.f1, .int .i64 x.f4.f2, .int .i64 x.f4.f3, .slice A7 x.f5.length c7] 42)).drew = wq at hHeld ⊢
      refine pur_ (i := 0) (N := some 17) gq_1 (by kernel_rfl) ?_
      refine pur_ (i := 1) (N := some 18) gq_2 (by kernel_rfl) ?_
      refine pur_ (i := 2) (N := some 19) gq_3 (by kernel_rfl) ?_
      refine puu_ (i := 3) (N := some 20) gq_4 (by kernel_rfl) ?_
      refine puu_ (i := 4) (N := some 21) gq_5 (by kernel_rfl) ?_
      refine puu_ (i := 5) (N := some 22) gq_6 (by kernel_rfl) ?_
      refine puu_ (i := 6) (N := some 23) gq_7 (by kernel_rfl) ?_
      refine puu_ (i := 7) (N := some 24) gq_8 (by kernel_rfl) ?_
      refine puu_ (i := 8) (N := some 25) gq_9 (by kernel_rfl) ?_
      refine puu_ (i := 9) (N := some 26) gq_10 (by kernel_rfl) ?_
      refine puu_ (i := 10) (N := some 27) gq_11 (by kernel_rfl) ?_
      refine puu_ (i := 11) (N := some 28) gq_12 (by kernel_rfl) ?_
      refine pur_ (i := 12) (N := some 29) gq_13 (by kernel_rfl) ?_
      refine pur_ (i := 13) (N := some 30) gq_14 (by kernel_rfl) ?_
      refine pur_ (i := 14) (N := some 31) gq_15 (by kernel_rfl) ?_
      refine tak_ (i := 15) (N := some 32) gq_16 (by kernel_rfl) hHeld ?_
      refine pur_ (i := 16) (N := some 33) gq_17 (by kernel_rfl) ?_
      refine pur_ (i := 17) (N := some 34) gq_18 (by kernel_rfl) ?_
      refine pur_ (i := 18) (N := some 35) gq_19 (by kernel_rfl) ?_
      refine puu_ (i := 19) (N := some 36) gq_20 (by kernel_rfl) ?_
      refine puu_ (i := 20) (N := some 37) gq_21 (by kernel_rfl) ?_
      refine puu_ (i := 21) (N := some 38) gq_22 (by kernel_rfl) ?_
      refine puu_ (i := 22) (N := some 39) gq_23 (by kernel_rfl) ?_
      refine puu_ (i := 23) (N := some 40) gq_24 (by kernel_rfl) ?_
      refine puu_ (i := 24) (N := some 41) gq_25 (by kernel_rfl) ?_
      refine puu_ (i := 25) (N := some 42) gq_26 (by kernel_rfl) ?_
      refine puu_ (i := 26) (N := some 43) gq_27 (by kernel_rfl) ?_
      refine puu_ (i := 27) (N := some 44) gq_28 (by kernel_rfl) ?_
      refine puu_ (i := 28) (N := some 45) gq_29 (by kernel_rfl) ?_
      refine puu_ (i := 29) (N := some 46) gq_30 (by kernel_rfl) ?_
      refine puu_ (i := 30) (N := some 47) gq_31 (by kernel_rfl) ?_
      refine puu_ (i := 31) (N := some 48) gq_32 (by kernel_rfl) ?_
      refine pur_ (i := 32) (N := some 49) gq_33 (by kernel_rfl) ?_
      refine done_ (by kernel_rfl) ?_
      go_wp2_with (fail)
      go_meet
      exact ⟨true, rfl, ⟨mid5_1 (by unfold headOk; rw [← HX.out, decide_eq_true H49.out]; simp) (by rw [← hwq]; exact below_drew (below_alloc (Below.refl _ _) _)) hHeld⟩⟩
     ·have e49 : (x.f3 == 49) = false := beq_eq_false_iff_ne.2 h49
      have H49 := Aside0.mk h49
      clear h49
      refine start_ (n := 33) (S := fun w' => w'.cell? ⟨wr.heap.size, 0, none⟩ = some (.string x.f0) ∧ w'.cell? ⟨wr.heap.size, 1, none⟩ = some (.string x.f1) ∧ w'.cell? ⟨wr.heap.size, 2, none⟩ = some (.string x.f2) ∧ w'.cell? ⟨wr.heap.size, 3, none⟩ = some (.int .u8 x.f3) ∧ w'.cell? ⟨wr.heap.size, 4, none⟩ = some (.int .i64 x.f4.f0) ∧ w'.cell? ⟨wr.heap.size, 5, none⟩ = some (.int .i64 x.f4.f1) ∧ w'.cell? ⟨wr.heap.size, 6, none⟩ = some (.int .i64 x.f4.f2) ∧ w'.cell? ⟨wr.heap.size, 7, none⟩ = some (.int .i64 x.f4.f3) ∧ w'.cell? ⟨wr.heap.size, 8, none⟩ = some (.slice A7 x.f5.length c7)) (ds := []) gq_0 (by kernel_rfl) rfl rfl ⟨by simp, by simp, by simp, by simp, by simp, by simp, by simp, by simp, by simp⟩ (fun hHeld => ?_)
      generalize hwq : (wr.alloc (.cells #[.string x.f0, .string x.f1, .string x.f2, .int .u8 x.f3, .int .i64 x.f4.f0, .int .i64 x.f4.f1, .int .i64 x.f4.f2, .int .i64 x.f4.f3, .slice A7 x.f5.length c7] 42)).drew = wq at hHeld ⊢
      refine pur_ (i := 0) (N := some 17) gq_1 (by kernel_rfl) ?_
      refine pur_ (i := 1) (N := some 18) gq_2 (by kernel_rfl) ?_
      refine pur_ (i := 2) (N := some 19) gq_3 (by kernel_rfl) ?_
      refine puu_ (i := 3) (N := some 20) gq_4 (by kernel_rfl) ?_
      refine puu_ (i := 4) (N := some 21) gq_5 (by kernel_rfl) ?_
      refine puu_ (i := 5) (N := some 22) gq_6 (by kernel_rfl) ?_
      refine puu_ (i := 6) (N := some 23) gq_7 (by kernel_rfl) ?_
      refine puu_ (i := 7) (N := some 24) gq_8 (by kernel_rfl) ?_
      refine puu_ (i := 8) (N := some 25) gq_9 (by kernel_rfl) ?_
      refine puu_ (i := 9) (N := some 26) gq_10 (by kernel_rfl) ?_
      refine puu_ (i := 10) (N := some 27) gq_11 (by kernel_rfl) ?_
      refine puu_ (i := 11) (N := some 28) gq_12 (by kernel_rfl) ?_
      refine pur_ (i := 12) (N := some 29) gq_13 (by kernel_rfl) ?_
      refine pur_ (i := 13) (N := some 30) gq_14 (by kernel_rfl) ?_
      refine pur_ (i := 14) (N := some 31) gq_15 (by kernel_rfl) ?_
      refine tak_ (i := 15) (N := some 32) gq_16 (by kernel_rfl) hHeld ?_
      refine pur_ (i := 16) (N := some 33) gq_17 (by kernel_rfl) ?_
      refine pur_ (i := 17) (N := some 34) gq_18 (by kernel_rfl) ?_
      refine pur_ (i := 18) (N := some 35) gq_19 (by kernel_rfl) ?_
      refine pur_ (i := 19) (N := some 36) gq_20 (by kernel_rfl) ?_
      refine tak_ (i := 20) (N := some 37) gq_21 (by kernel_rfl) hHeld ?_
      refine pur_ (i := 21) (N := some 38) gq_22 (by kernel_rfl) ?_
      refine tak_ (i := 22) (N := some 39) gq_23 (by kernel_rfl) hHeld ?_
      refine pur_ (i := 23) (N := some 40) gq_24 (by kernel_rfl) ?_
      refine tak_ (i := 24) (N := some 41) gq_25 (by kernel_rfl) hHeld ?_
      refine pur_ (i := 25) (N := some 42) gq_26 (by kernel_rfl) ?_
      refine tak_ (i := 26) (N := some 43) gq_27 (by kernel_rfl) hHeld ?_
      refine pur_ (i := 27) (N := some 44) gq_28 (by kernel_rfl) ?_
      refine tak_ (i := 28) (N := some 45) gq_29 (by kernel_rfl) hHeld ?_
      refine pur_ (i := 29) (N := some 46) gq_30 (by kernel_rfl) ?_
      refine one_ (i := 30) (N := some 47) gq_31 rfl rfl (by kernel_rfl) (by decide) (fun K hK => ?_)
      refine goes_ Tryz.func34 (by kernel_rfl) rfl #[.agg #[.string x.f0, .string x.f1, .int .u8 x.f3, .int .i64 x.f4.f0, .int .i64 x.f4.f1, .int .i64 x.f4.f2, .int .i64 x.f4.f3, .slice A7 x.f5.length c7]] (by rfl) rfl rfl (by first | rfl | (simp [Act.eval]; done)) ?_
      refine (bindleref08_Good.calls kg x.f0 x.f1 x.f3 x.f4.f0 x.f4.f1 x.f4.f2 x.f4.f3 A7 c7 x.f5 gd wq (by rw [← hwq]; exact Kd.C_drew (HCA.out _)) hl7' HKG.out).mono ?_
      rintro e w5 ⟨rfl, hb5⟩
      refine ⟨_, rfl, ?_⟩
      refine hK.out _ _ ⟨bkeep hb5 hHeld.1, bkeep hb5 hHeld.2.1, bkeep hb5 hHeld.2.2.1, bkeep hb5 hHeld.2.2.2.1, bkeep hb5 hHeld.2.2.2.2.1, bkeep hb5 hHeld.2.2.2.2.2.1, bkeep hb5 hHeld.2.2.2.2.2.2.1, bkeep hb5 hHeld.2.2.2.2.2.2.2.1, bkeep hb5 hHeld.2.2.2.2.2.2.2.2⟩ (fun hHeld => ?_)
      clear hK K
      refine norm_ (a' := ?_) ?_ ?_
      rotate_left
      ·show Act.put _ (some 47) _ = _
       simp only [Act.put, List.setIfInBounds_toArray, List.set_cons_zero, List.set_cons_succ, i64_w, i32_w]
       rfl
      refine pur_ (i := 31) (N := some 48) gq_32 (by kernel_rfl) ?_
      refine pur_ (i := 32) (N := some 49) gq_33 (by kernel_rfl) ?_
      refine done_ (by kernel_rfl) ?_
      go_wp2_with (fail)
      go_meet
      exact ⟨!gd, rfl, ⟨mid5_1 (by unfold headOk; rw [← HX.out, HGD.out, decide_eq_false H49.out, decide_eq_true (show n.toNat = 0 by have := HN0.out; omega)]; simp) ((show Below wr.heap.size wr wq from by rw [← hwq]; exact below_drew (below_alloc (Below.refl _ _) _)).trans (hb5.mono (by rw [← hwq]; show wr.heap.size ≤ (wr.alloc (.cells #[.string x.f0, .string x.f1, .string x.f2, .int .u8 x.f3, .int .i64 x.f4.f0, .int .i64 x.f4.f1, .int .i64 x.f4.f2, .int .i64 x.f4.f3, .slice A7 x.f5.length c7] 42)).heap.size; rw [World.size_alloc]; omega))) hHeld⟩⟩
    ·have g1 : decide (0 < n) = true := decide_eq_true (by omega)
     have g2 : decide (n > 0) = true := decide_eq_true (by omega)
     obtain ⟨j, hj⟩ : ∃ j, j = n - 1 := ⟨_, rfl⟩
     have hn1 : 0 ≤ j := by omega
     have hn2 : j < (l.length : Int) := by omega
     obtain ⟨ad', _, _, hA, hp0, _⟩ := at_T42 (Kd.C_below HC.out HB.out) j hn1 hn2
     cases hA
     have hy := rdN_at l j hn1 hn2
     generalize hy0 : (rd_T42 l j).f0 = y0 at hp0
     rw [hy] at hy0
     have HN0 := Aside0.mk hn0
     have HY := Aside0.mk hy0
     have hw64 : wrap64 (n - 1) = j := by unfold wrap64; omega
     have HJ := Aside0.mk hj
     clear hn0 hy hy0 hj
     cases hls : Op.bytesLess y0.toList x.f0.toList with
     | false =>
      refine start_ (n := 33) (S := fun w' => w'.cell? ⟨wr.heap.size, 0, none⟩ = some (.string x.f0) ∧ w'.cell? ⟨wr.heap.size, 1, none⟩ = some (.string x.f1) ∧ w'.cell? ⟨wr.heap.size, 2, none⟩ = some (.string x.f2) ∧ w'.cell? ⟨wr.heap.size, 3, none⟩ = some (.int .u8 x.f3) ∧ w'.cell? ⟨wr.heap.size, 4, none⟩ = some (.int .i64 x.f4.f0) ∧ w'.cell? ⟨wr.heap.size, 5, none⟩ = some (.int .i64 x.f4.f1) ∧ w'.cell? ⟨wr.heap.size, 6, none⟩ = some (.int .i64 x.f4.f2) ∧ w'.cell? ⟨wr.heap.size, 7, none⟩ = some (.int .i64 x.f4.f3) ∧ w'.cell? ⟨wr.heap.size, 8, none⟩ = some (.slice A7 x.f5.length c7) ∧ w'.cell? (ad.add (j.toNat * 9)) = some (.string y0)) (ds := []) gq_0 (by kernel_rfl) rfl rfl ⟨by simp, by simp, by simp, by simp, by simp, by simp, by simp, by simp, by simp, acell hp0 _⟩ (fun hHeld => ?_)
      generalize hwq : (wr.alloc (.cells #[.string x.f0, .string x.f1, .string x.f2, .int .u8 x.f3, .int .i64 x.f4.f0, .int .i64 x.f4.f1, .int .i64 x.f4.f2, .int .i64 x.f4.f3, .slice A7 x.f5.length c7] 42)).drew = wq at hHeld ⊢
      refine pur_ (i := 0) (N := some 17) gq_1 (by kernel_rfl) ?_
      refine pur_ (i := 1) (N := some 18) gq_2 (by kernel_rfl) ?_
      refine pur_ (i := 2) (N := some 19) gq_3 (by kernel_rfl) ?_
      refine pur_ (i := 3) (N := some 20) gq_4 (by kernel_rfl) ?_
      refine pur_ (i := 4) (N := some 21) gq_5 (by kernel_rfl) ?_
      refine pur_ (i := 5) (N := some 22) gq_6 (by kernel_rfl) ?_
      refine pur_ (i := 6) (N := some 23) gq_7 (by kernel_rfl) ?_
      refine pur_ (i := 7) (N := some 24) gq_8 (by kernel_rfl) ?_
      refine tak_ (i := 8) (N := some 25) gq_9 (by kernel_rfl) hHeld ?_
      refine pur_ (i := 9) (N := some 26) gq_10 (by kernel_rfl) ?_
      refine tak_ (i := 10) (N := some 27) gq_11 (by kernel_rfl) hHeld ?_
      refine pur_ (i := 11) (N := some 28) gq_12 (by kernel_rfl) ?_
      refine pur_ (i := 12) (N := some 29) gq_13 (by kernel_rfl) ?_
      refine pur_ (i := 13) (N := some 30) gq_14 (by kernel_rfl) ?_
      refine puu_ (i := 14) (N := some 31) gq_15 (by kernel_rfl) ?_
      refine puu_ (i := 15) (N := some 32) gq_16 (by kernel_rfl) ?_
      refine puu_ (i := 16) (N := some 33) gq_17 (by kernel_rfl) ?_
      refine pur_ (i := 17) (N := some 34) gq_18 (by kernel_rfl) ?_
      refine pur_ (i := 18) (N := some 35) gq_19 (by kernel_rfl) ?_
      refine puu_ (i := 19) (N := some 36) gq_20 (by kernel_rfl) ?_
      refine puu_ (i := 20) (N := some 37) gq_21 (by kernel_rfl) ?_
      refine puu_ (i := 21) (N := some 38) gq_22 (by kernel_rfl) ?_
      refine puu_ (i := 22) (N := some 39) gq_23 (by kernel_rfl) ?_
      refine puu_ (i := 23) (N := some 40) gq_24 (by kernel_rfl) ?_
      refine puu_ (i := 24) (N := some 41) gq_25 (by kernel_rfl) ?_
      refine puu_ (i := 25) (N := some 42) gq_26 (by kernel_rfl) ?_
      refine puu_ (i := 26) (N := some 43) gq_27 (by kernel_rfl) ?_
      refine puu_ (i := 27) (N := some 44) gq_28 (by kernel_rfl) ?_
      refine puu_ (i := 28) (N := some 45) gq_29 (by kernel_rfl) ?_
      refine puu_ (i := 29) (N := some 46) gq_30 (by kernel_rfl) ?_
      refine puu_ (i := 30) (N := some 47) gq_31 (by kernel_rfl) ?_
      refine puu_ (i := 31) (N := some 48) gq_32 (by kernel_rfl) ?_
      refine pur_ (i := 32) (N := some 49) gq_33 (by kernel_rfl) ?_
      refine done_ (by kernel_rfl) ?_
      clear hw64
      go_wp2_with (fail)
      go_meet
      exact ⟨true, rfl, ⟨mid5_2 (by unfold headOk; rw [← HX.out, decide_eq_false (show ¬ n.toNat = 0 by have := HN0.out; omega), show lt (l[n.toNat - 1]'(by have := HNL.out; omega)).f0 x.f0 = false from (prev_lt HY.out HJ.out hls)]; simp) (by rw [← hwq]; exact below_drew (below_alloc (Below.refl _ _) _)) hHeld⟩⟩
     | true =>
      by_cases h49 : x.f3 = 49
      ·have e49 : (x.f3 == 49) = true := beq_iff_eq.2 h49
       have H49 := Aside0.mk h49
       clear h49
       refine start_ (n := 33) (S := fun w' => w'.cell? ⟨wr.heap.size, 0, none⟩ = some (.string x.f0) ∧ w'.cell? ⟨wr.heap.size, 1, none⟩ = some (.string x.f1) ∧ w'.cell? ⟨wr.heap.size, 2, none⟩ = some (.string x.f2) ∧ w'.cell? ⟨wr.heap.size, 3, none⟩ = some (.int .u8 x.f3) ∧ w'.cell? ⟨wr.heap.size, 4, none⟩ = some (.int .i64 x.f4.f0) ∧ w'.cell? ⟨wr.heap.size, 5, none⟩ = some (.int .i64 x.f4.f1) ∧ w'.cell? ⟨wr.heap.size, 6, none⟩ = some (.int .i64 x.f4.f2) ∧ w'.cell? ⟨wr.heap.size, 7, none⟩ = some (.int .i64 x.f4.f3) ∧ w'.cell? ⟨wr.heap.size, 8, none⟩ = some (.slice A7 x.f5.length c7) ∧ w'.cell? (ad.add (j.toNat * 9)) = some (.string y0)) (ds := []) gq_0 (by kernel_rfl) rfl rfl ⟨by simp, by simp, by simp, by simp, by simp, by simp, by simp, by simp, by simp, acell hp0 _⟩ (fun hHeld => ?_)
       generalize hwq : (wr.alloc (.cells #[.string x.f0, .string x.f1, .string x.f2, .int .u8 x.f3, .int .i64 x.f4.f0, .int .i64 x.f4.f1, .int .i64 x.f4.f2, .int .i64 x.f4.f3, .slice A7 x.f5.length c7] 42)).drew = wq at hHeld ⊢
       refine pur_ (i := 0) (N := some 17) gq_1 (by kernel_rfl) ?_
       refine pur_ (i := 1) (N := some 18) gq_2 (by kernel_rfl) ?_
       refine pur_ (i := 2) (N := some 19) gq_3 (by kernel_rfl) ?_
       refine pur_ (i := 3) (N := some 20) gq_4 (by kernel_rfl) ?_
       refine pur_ (i := 4) (N := some 21) gq_5 (by kernel_rfl) ?_
       refine pur_ (i := 5) (N := some 22) gq_6 (by kernel_rfl) ?_
       refine pur_ (i := 6) (N := some 23) gq_7 (by kernel_rfl) ?_
       refine pur_ (i := 7) (N := some 24) gq_8 (by kernel_rfl) ?_
       refine tak_ (i := 8) (N := some 25) gq_9 (by kernel_rfl) hHeld ?_
       refine pur_ (i := 9) (N := some 26) gq_10 (by kernel_rfl) ?_
       refine tak_ (i := 10) (N := some 27) gq_11 (by kernel_rfl) hHeld ?_
       refine pur_ (i := 11) (N := some 28) gq_12 (by kernel_rfl) ?_
       refine pur_ (i := 12) (N := some 29) gq_13 (by kernel_rfl) ?_
       refine pur_ (i := 13) (N := some 30) gq_14 (by kernel_rfl) ?_
       refine pur_ (i := 14) (N := some 31) gq_15 (by kernel_rfl) ?_
       refine tak_ (i := 15) (N := some 32) gq_16 (by kernel_rfl) hHeld ?_
       refine pur_ (i := 16) (N := some 33) gq_17 (by kernel_rfl) ?_
       refine pur_ (i := 17) (N := some 34) gq_18 (by kernel_rfl) ?_
       refine pur_ (i := 18) (N := some 35) gq_19 (by kernel_rfl) ?_
       refine puu_ (i := 19) (N := some 36) gq_20 (by kernel_rfl) ?_
       refine puu_ (i := 20) (N := some 37) gq_21 (by kernel_rfl) ?_
       refine puu_ (i := 21) (N := some 38) gq_22 (by kernel_rfl) ?_
       refine puu_ (i := 22) (N := some 39) gq_23 (by kernel_rfl) ?_
       refine puu_ (i := 23) (N := some 40) gq_24 (by kernel_rfl) ?_
       refine puu_ (i := 24) (N := some 41) gq_25 (by kernel_rfl) ?_
       refine puu_ (i := 25) (N := some 42) gq_26 (by kernel_rfl) ?_
       refine puu_ (i := 26) (N := some 43) gq_27 (by kernel_rfl) ?_
       refine puu_ (i := 27) (N := some 44) gq_28 (by kernel_rfl) ?_
       refine puu_ (i := 28) (N := some 45) gq_29 (by kernel_rfl) ?_
       refine puu_ (i := 29) (N := some 46) gq_30 (by kernel_rfl) ?_
       refine puu_ (i := 30) (N := some 47) gq_31 (by kernel_rfl) ?_
       refine puu_ (i := 31) (N := some 48) gq_32 (by kernel_rfl) ?_
       refine pur_ (i := 32) (N := some 49) gq_33 (by kernel_rfl) ?_
       refine done_ (by kernel_rfl) ?_
       clear hw64
       go_wp2_with (fail)
       go_meet
       exact ⟨true, rfl, ⟨mid5_2 (by unfold headOk; rw [← HX.out, decide_eq_true H49.out]; simp) (by rw [← hwq]; exact below_drew (below_alloc (Below.refl _ _) _)) hHeld⟩⟩
      ·have e49 : (x.f3 == 49) = false := beq_eq_false_iff_ne.2 h49
       have H49 := Aside0.mk h49
       clear h49
       refine start_ (n := 33) (S := fun w' => w'.cell? ⟨wr.heap.size, 0, none⟩ = some (.string x.f0) ∧ w'.cell? ⟨wr.heap.size, 1, none⟩ = some (.string x.f1) ∧ w'.cell? ⟨wr.heap.size, 2, none⟩ = some (.string x.f2) ∧ w'.cell? ⟨wr.heap.size, 3, none⟩ = some (.int .u8 x.f3) ∧ w'.cell? ⟨wr.heap.size, 4, none⟩ = some (.int .i64 x.f4.f0) ∧ w'.cell? ⟨wr.heap.size, 5, none⟩ = some (.int .i64 x.f4.f1) ∧ w'.cell? ⟨wr.heap.size, 6, none⟩ = some (.int .i64 x.f4.f2) ∧ w'.cell? ⟨wr.heap.size, 7, none⟩ = some (.int .i64 x.f4.f3) ∧ w'.cell? ⟨wr.heap.size, 8, none⟩ = some (.slice A7 x.f5.length c7) ∧ w'.cell? (ad.add (j.toNat * 9)) = some (.string y0)) (ds := []) gq_0 (by kernel_rfl) rfl rfl ⟨by simp, by simp, by simp, by simp, by simp, by simp, by simp, by simp, by simp, acell hp0 _⟩ (fun hHeld => ?_)
       generalize hwq : (wr.alloc (.cells #[.string x.f0, .string x.f1, .string x.f2, .int .u8 x.f3, .int .i64 x.f4.f0, .int .i64 x.f4.f1, .int .i64 x.f4.f2, .int .i64 x.f4.f3, .slice A7 x.f5.length c7] 42)).drew = wq at hHeld ⊢
       refine pur_ (i := 0) (N := some 17) gq_1 (by kernel_rfl) ?_
       refine pur_ (i := 1) (N := some 18) gq_2 (by kernel_rfl) ?_
       refine pur_ (i := 2) (N := some 19) gq_3 (by kernel_rfl) ?_
       refine pur_ (i := 3) (N := some 20) gq_4 (by kernel_rfl) ?_
       refine pur_ (i := 4) (N := some 21) gq_5 (by kernel_rfl) ?_
       refine pur_ (i := 5) (N := some 22) gq_6 (by kernel_rfl) ?_
       refine pur_ (i := 6) (N := some 23) gq_7 (by kernel_rfl) ?_
       refine pur_ (i := 7) (N := some 24) gq_8 (by kernel_rfl) ?_
       refine tak_ (i := 8) (N := some 25) gq_9 (by kernel_rfl) hHeld ?_
       refine pur_ (i := 9) (N := some 26) gq_10 (by kernel_rfl) ?_
       refine tak_ (i := 10) (N := some 27) gq_11 (by kernel_rfl) hHeld ?_
       refine pur_ (i := 11) (N := some 28) gq_12 (by kernel_rfl) ?_
       refine pur_ (i := 12) (N := some 29) gq_13 (by kernel_rfl) ?_
       refine pur_ (i := 13) (N := some 30) gq_14 (by kernel_rfl) ?_
       refine pur_ (i := 14) (N := some 31) gq_15 (by kernel_rfl) ?_
       refine tak_ (i := 15) (N := some 32) gq_16 (by kernel_rfl) hHeld ?_
       refine pur_ (i := 16) (N := some 33) gq_17 (by kernel_rfl) ?_
       refine pur_ (i := 17) (N := some 34) gq_18 (by kernel_rfl) ?_
       refine pur_ (i := 18) (N := some 35) gq_19 (by kernel_rfl) ?_
       refine pur_ (i := 19) (N := some 36) gq_20 (by kernel_rfl) ?_
       refine tak_ (i := 20) (N := some 37) gq_21 (by kernel_rfl) hHeld ?_
       refine pur_ (i := 21) (N := some 38) gq_22 (by kernel_rfl) ?_
       refine tak_ (i := 22) (N := some 39) gq_23 (by kernel_rfl) hHeld ?_
       refine pur_ (i := 23) (N := some 40) gq_24 (by kernel_rfl) ?_
       refine tak_ (i := 24) (N := some 41) gq_25 (by kernel_rfl) hHeld ?_
       refine pur_ (i := 25) (N := some 42) gq_26 (by kernel_rfl) ?_
       refine tak_ (i := 26) (N := some 43) gq_27 (by kernel_rfl) hHeld ?_
       refine pur_ (i := 27) (N := some 44) gq_28 (by kernel_rfl) ?_
       refine tak_ (i := 28) (N := some 45) gq_29 (by kernel_rfl) hHeld ?_
       refine pur_ (i := 29) (N := some 46) gq_30 (by kernel_rfl) ?_
       refine one_ (i := 30) (N := some 47) gq_31 rfl rfl (by kernel_rfl) (by decide) (fun K hK => ?_)
       refine goes_ Tryz.func34 (by kernel_rfl) rfl #[.agg #[.string x.f0, .string x.f1, .int .u8 x.f3, .int .i64 x.f4.f0, .int .i64 x.f4.f1, .int .i64 x.f4.f2, .int .i64 x.f4.f3, .slice A7 x.f5.length c7]] (by rfl) rfl rfl (by first | rfl | (simp [Act.eval]; done)) ?_
       refine (bindleref08_Good.calls kg x.f0 x.f1 x.f3 x.f4.f0 x.f4.f1 x.f4.f2 x.f4.f3 A7 c7 x.f5 gd wq (by rw [← hwq]; exact Kd.C_drew (HCA.out _)) hl7' HKG.out).mono ?_
       rintro e w5 ⟨rfl, hb5⟩
       refine ⟨_, rfl, ?_⟩
       refine hK.out _ _ ⟨bkeep hb5 hHeld.1, bkeep hb5 hHeld.2.1, bkeep hb5 hHeld.2.2.1, bkeep hb5 hHeld.2.2.2.1, bkeep hb5 hHeld.2.2.2.2.1, bkeep hb5 hHeld.2.2.2.2.2.1, bkeep hb5 hHeld.2.2.2.2.2.2.1, bkeep hb5 hHeld.2.2.2.2.2.2.2.1, bkeep hb5 hHeld.2.2.2.2.2.2.2.2.1, bkeep hb5 hHeld.2.2.2.2.2.2.2.2.2⟩ (fun hHeld => ?_)
       clear hK K
       refine norm_ (a' := ?_) ?_ ?_
       rotate_left
       ·show Act.put _ (some 47) _ = _
        simp only [Act.put, List.setIfInBounds_toArray, List.set_cons_zero, List.set_cons_succ, i64_w, i32_w]
        rfl
       refine pur_ (i := 31) (N := some 48) gq_32 (by kernel_rfl) ?_
       refine pur_ (i := 32) (N := some 49) gq_33 (by kernel_rfl) ?_
       refine done_ (by kernel_rfl) ?_
       clear hw64
       go_wp2_with (fail)
       go_meet
       exact ⟨!gd, rfl, ⟨mid5_2 (by unfold headOk; rw [← HX.out, HGD.out, decide_eq_false H49.out, show lt (l[n.toNat - 1]'(by have := HNL.out; omega)).f0 x.f0 = true from (prev_lt HY.out HJ.out hls)]; simp) ((show Below wr.heap.size wr wq from by rw [← hwq]; exact below_drew (below_alloc (Below.refl _ _) _)).trans (hb5.mono (by rw [← hwq]; show wr.heap.size ≤ (wr.alloc (.cells #[.string x.f0, .string x.f1, .string x.f2, .int .u8 x.f3, .int .i64 x.f4.f0, .int .i64 x.f4.f1, .int .i64 x.f4.f2, .int .i64 x.f4.f3, .slice A7 x.f5.length c7] 42)).heap.size; rw [World.size_alloc]; omega))) hHeld⟩⟩
   case rest =>
    obtain ⟨b, rfl, HM⟩ := hcut
    obtain ⟨wm, rfl⟩ : ∃ wm : World, wm = wc := ⟨_, rfl⟩
    have HBW := Aside0.mk (HB.out.trans (HM.out.2.1.mono HB.out.size))
    cases b with
    | true =>
     go_wp2
     rw [← hQ.out]
     refine ⟨by rw [goodTree_not n.toNat HNL.out (by rw [nodeOk_head, show headOk l n.toNat HNL.out = false from by have := HM.out.1; simpa using this.symm]; rfl)]; rfl, HBW.out⟩
    | false =>
     obtain ⟨⟨b0, b1, b2, b3⟩, ⟨b4, b5, b6, b7⟩, b8⟩ := HM.out.2.2
     have hhd : headOk l n.toNat HNL.out = true := by have := HM.out.1; simpa using this.symm
     have HHD := Aside0.mk hhd
     clear hhd
     by_cases h48 : x.f3 = 48
     ·have e48 : (x.f3 != 48) = false := by rw [bne_eq_false_iff_eq]; exact h48
      have H48 := Aside0.mk h48
      clear h48
      have hns : (n + 1).toNat ≤ l.length := by omega
      have hnt : (l.take (n + 1).toNat).length = (n + 1).toNat := by rw [List.length_take]; omega
      have hCt : Kd.C k42 wm (some ad) (n + 1).toNat (l.take (n + 1).toNat) := by have := Kd.C_take (Kd.C_below HC.out HBW.out) hns; rw [hnt] at this; exact this
      have hs0 : (0 : Int) ≤ n + 1 := by omega
      have hs1 : n + 1 ≤ (c0 : Int) := by have := HC0.out; omega
      have hs2 : IntKind.i64.wrap (n + 1) = n + 1 := IntWalk.i64_in _ (by omega)
      have HT := Aside0.mk (Kd.C_F nodeHeap hCt)
      have HNT := Aside0.mk hnt
      have hBlt : wr.heap.size < wm.heap.size := World.block_lt_of_cell? wm ⟨wr.heap.size, 2, none⟩ b2
      have hRF : ∀ W2, Kd.F k42 W2 (fun k => k < wm.heap.size) (some ad) (n + 1).toNat (l.take (n + 1).toNat) → Calls Tryz.prog 20 #[.slice (some ad) (n + 1).toNat c0, .string x.f2] W2 fun e W' => ∃ x' b A c, (match findF (l.take (n + 1).toNat) x.f2 with | some y => x' = y ∧ b = true | none => x' = z42 ∧ b = false) ∧ e = .returned (.tuple #[.agg (nodeCells x' (.slice A x'.f5.length c)), .bool b]) ∧ x'.f5.length ≤ c ∧ Kd.F (Kd.int .u8) W' (fun k => k < wm.heap.size ∨ W2.heap.size ≤ k) A x'.f5.length x'.f5 ∧ Below W2.heap.size W2 W' := fun W2 hC2 => by
       have h := RefFind_F (fun k => k < wm.heap.size) (some ad) c0 (l.take (n + 1).toNat) x.f2 W2 (by rw [hnt]; exact hC2) (by rw [hnt]; have := HC0.out; omega) (by rw [hnt]; omega)
       rw [hnt] at h
       exact h
      have RFC := Aside0.mk hRF
      have hne1 : ¬ wr.heap.size = wm.heap.size := by omega
      have hne2 : ¬ wm.heap.size = wr.heap.size := by omega
      clear hCt hnt hRF
      go_upto_region 10 with (fail)
      go_cut [5, 6] (fun v5 v6 wx => ∃ g y b A c, v5 = .pointer (some ⟨g, 0, none⟩) ∧ v6 = .bool b ∧ Aside0 (Mid10 l n.toNat wr.heap.size x (.slice A7 x.f5.length c7) g y b A c wm wx))
      case first =>
       go_region_held3 (fun w' => w'.cell? ⟨wr.heap.size, 2, none⟩ = some (.string x.f2)) (go_keep) ((go_at_call 20; refine (RFC.out _ (by first | exact Kd.F_drew HT.out | exact Kd.F_alloc (Kd.F_drew HT.out) _)).mono ?_; rintro e w1 ⟨y, b, A, c, hm, rfl, hlc, hCy, hb⟩; have hs2b : w1.cell? ⟨wr.heap.size, 2, none⟩ = some (.string x.f2) := (by first | exact bkeep hb (show wm.drew.cell? ⟨wr.heap.size, 2, none⟩ = _ from b2) | exact bkeep hb (acell (show wm.drew.cell? ⟨wr.heap.size, 2, none⟩ = _ from b2) _)); have HM1 := Aside0.mk hm; have HLC := Aside0.mk hlc; have HCY := Aside0.mk hCy; have HB1 := Aside0.mk hb; (first | (have hz9 : wm.heap.size < w1.heap.size := lt_of_alloc hb) | skip); obtain ⟨hcb, hfb⟩ := bcell hb; clear hm hlc hCy hb; simp only [nodeCells]))
       ·go_wp2_with (fail)
        go_meet
        exact ⟨_, y, b, A, c, rfl, rfl, ⟨mid10_a HM1.out HM.out.2.2 HB1.out HCY.out h0⟩⟩
       ·go_wp2_with (fail)
        go_meet
        exact ⟨_, y, b, A, c, rfl, rfl, ⟨mid10_b HM1.out HM.out.2.2 HB1.out HCY.out h0 rfl⟩⟩
      case rest =>
       obtain ⟨g, y, b, A, c, rfl, rfl, HM2⟩ := hcut
       have hnd := nodeOk_lead (n := n.toNat) HNL.out HX.out (fun j hj hjn => HR.out.2.2.1 j hj (by omega)) HHD.out H48.out HM2.out.1
       have HND := Aside0.mk hnd
       have HBD := Aside0.mk (HBW.out.trans (HM2.out.2.1.mono HBW.out.size))
       have hno : ∀ b', (b && leadB y x) = b' → nodeOk l n.toNat HNL.out = b' := fun b' h => hnd.trans h
       have HNO := Aside0.mk hno
       clear hnd hno b0 b1 b2 b3 b4 b5 b6 b7 b8
       obtain ⟨⟨c0_, c1_, c2_, c3_⟩, ⟨c4_, c5_, c6_, c7_⟩, c8_⟩ := HM2.out.2.2.1
       obtain ⟨⟨d0, d1, d2, d3⟩, ⟨d4, d5, d6, d7⟩, d8⟩ := HM2.out.2.2.2.1
       cases b with
       | false =>
        go_wp2
        rw [← hQ.out]
        exact ⟨by rw [goodTree_not n.toNat HNL.out (HNO.out _ rfl)]; rfl, HBD.out⟩
       | true =>
        by_cases k3 : y.f3 = 48
        ·have e3 : (y.f3 != 48) = false := by rw [bne_eq_false_iff_eq]; exact k3
         have K3 := Aside0.mk k3
         clear k3
         by_cases k2 : y.f2.toList = y.f0.toList
         ·have e2 : (y.f2.toList != y.f0.toList) = false := by rw [bne_eq_false_iff_eq]; exact k2
          have e2' : (y.f2.toList == y.f0.toList) = true := by rw [beq_iff_eq]; exact k2
          have K2 := Aside0.mk k2
          clear k2
          cases k4 : (y.f4.f0 == x.f4.f0 && (y.f4.f1 == x.f4.f1 && (y.f4.f2 == x.f4.f2 && (y.f4.f3 == x.f4.f3)))) with
          | true =>
           have e4 : (!(y.f4.f0 == x.f4.f0) || (!(y.f4.f1 == x.f4.f1) || (!(y.f4.f2 == x.f4.f2) || !(y.f4.f3 == x.f4.f3)))) = false := by simpa using k4
           have K4 := Aside0.mk k4
           clear k4
           have hsx := Kd.C_string (P := Tryz.prog) (A := A7) (c := c7) Tryz.underlying40 Tryz.underlying5 Tryz.underlying9 (Kd.C_below (Kd.C_below HC7.out HM.out.2.1) HM2.out.2.1)
           have hsy := Kd.C_string (P := Tryz.prog) (A := A) (c := c) Tryz.underlying40 Tryz.underlying5 Tryz.underlying9 HM2.out.2.2.2.2
           by_cases k5 : (strOfNums y.f5).toList = (strOfNums x.f5).toList
           ·have e5 : ((strOfNums y.f5).toList != (strOfNums x.f5).toList) = false := by rw [bne_eq_false_iff_eq]; exact k5
            have e5' : ((strOfNums y.f5).toList == (strOfNums x.f5).toList) = true := by rw [beq_iff_eq]; exact k5
            have K5 := Aside0.mk k5
            clear k5
            have hok : nodeOk l n.toNat HNL.out = true := HNO.out _ (leadB_ok K3.out K2.out K4.out K5.out)
            have hfin : RefRel l W (n + 1) wc := refRel_next HR.out HNL.out HHD.out (by rw [nodeOk_head, Bool.and_eq_true] at hok; exact hok.2) HBD.out
            have HF := Aside0.mk hfin
            clear hok hfin
            go_wp2
            go_roundg (gk - 1)
            case measure => have := HG.out; omega
            case rel => exact ⟨n + 1, by go_num, HF, ⟨by have := HG.out; omega⟩⟩
           ·have e5 : ((strOfNums y.f5).toList != (strOfNums x.f5).toList) = true := by rw [bne_iff_ne]; exact k5
            have e5' : ((strOfNums y.f5).toList == (strOfNums x.f5).toList) = false := by rw [beq_eq_false_iff_ne]; exact k5
            have K5 := Aside0.mk k5
            clear k5
            go_wp2
            rw [← hQ.out]
            exact ⟨by rw [goodTree_not n.toNat HNL.out (HNO.out _ (by unfold leadB; rw [decide_eq_false (fun h => K5.out h.2.2.2.2.2.2)]; rfl))]; rfl, HBD.out⟩
          | false =>
           have e4 : (!(y.f4.f0 == x.f4.f0) || (!(y.f4.f1 == x.f4.f1) || (!(y.f4.f2 == x.f4.f2) || !(y.f4.f3 == x.f4.f3)))) = true := by cases k5 : (!(y.f4.f0 == x.f4.f0) || (!(y.f4.f1 == x.f4.f1) || (!(y.f4.f2 == x.f4.f2) || !(y.f4.f3 == x.f4.f3)))) with | true => rfl | false => (exfalso; revert k4 k5; cases (y.f4.f0 == x.f4.f0) <;> cases (y.f4.f1 == x.f4.f1) <;> cases (y.f4.f2 == x.f4.f2) <;> cases (y.f4.f3 == x.f4.f3) <;> decide)
           have K4 := Aside0.mk k4
           clear k4
           go_wp2
           all_goals (rw [← hQ.out]; exact ⟨by rw [goodTree_not n.toNat HNL.out (HNO.out _ (leadB_4 K4.out))]; rfl, HBD.out⟩)
         ·have e2 : (y.f2.toList != y.f0.toList) = true := by rw [bne_iff_ne]; exact k2
          have e2' : (y.f2.toList == y.f0.toList) = false := by rw [beq_eq_false_iff_ne]; exact k2
          have K2 := Aside0.mk k2
          clear k2
          go_wp2
          rw [← hQ.out]
          exact ⟨by rw [goodTree_not n.toNat HNL.out (HNO.out _ (by unfold leadB; rw [decide_eq_false (fun h => K2.out h.2.1)]; rfl))]; rfl, HBD.out⟩
        ·have e3 : (y.f3 != 48) = true := by rw [bne_iff_ne]; exact k3
         have K3 := Aside0.mk k3
         clear k3
         go_wp2
         rw [← hQ.out]
         exact ⟨by rw [goodTree_not n.toNat HNL.out (HNO.out _ (by unfold leadB; rw [decide_eq_false (fun h => K3.out h.1)]; rfl))]; rfl, HBD.out⟩
     ·have e48 : (x.f3 != 48) = true := by rw [bne_iff_ne]; exact h48
      have H48 := Aside0.mk h48
      clear h48
      cases hle : x.f2.toList.isEmpty with
      | false =>
       go_wp2
       rw [← hQ.out]
       refine ⟨by rw [goodTree_not n.toNat HNL.out (by unfold nodeOk; rw [← HX.out]; unfold ledB; rw [if_neg H48.out, decide_eq_false (show ¬ x.f2.toList = [] from fun e => by rw [e] at hle; cases hle)]; simp)]; rfl, HBW.out⟩
      | true =>
       have hfin : RefRel l W (n + 1) wm := refRel_next HR.out HNL.out HHD.out (by rw [← HX.out]; unfold ledB; rw [if_neg H48.out, decide_eq_true (List.isEmpty_iff.1 hle)]) HBW.out
       go_wp2
       go_roundg (gk - 1)
       case measure => have := HG.out; omega
       case rel => exact ⟨n + 1, by go_num, ⟨hfin⟩, ⟨by have := HG.out; omega⟩⟩
  ·have c1b : decide (n < (l.length : Int)) = false := decide_eq_false hlt
   go_wp2
   rw [← hQ.out]
   refine ⟨?_, HB.out⟩
   rw [goodTree_of (fun i hi => HR.out.2.2.1 i hi (by omega))]
   rw [show decide ((l.length : Int) ≤ 4096) = decide (l.length ≤ 4096) from decide_eq_decide.2 (by omega)]
end Go.Proofs.YtbngbefchobfnaaGreatDoor

namespace Go.Proofs.YtbngbefchobfnaaGreatDoor.Print
open Go.RowKit Go.Proofs.YtbngbefchobfnaaGreatDoor Go.Proofs.YtbngbefchobfnaaGreatDoorW.PrintWords Go.Proofs.YtbngbefchobfnaaGreatDoorW.PrintLast Go.Proofs.YtbngbefchobfnaaGreatDoorW.PrintMore
set_option linter.unusedVariables false
def bindleref08_GoodTree.f (l : List S42) : Option Bool := if nodesZ l = true then some (goodTree l) else none
theorem bindleref08_GoodTree.calls (A0 : Option Addr) (c0 : Nat) (l0 : List S42) (r : Bool) (w : World) (hr0 : Kd.C k42 w A0 l0.length l0) (hc0 : l0.length ≤ c0) (h : bindleref08_GoodTree.f l0 = some r) :
  Calls Tryz.prog 18 #[.slice A0 l0.length c0] w fun e w' => e = .returned (.bool r) ∧ Below w.heap.size w w' := by
 unfold bindleref08_GoodTree.f at h
 split at h
 ·rename_i hc
  simp only [Option.some.injEq] at h
  subst h
  exact RefTree_calls A0 c0 l0 w hr0 hc0 ((nodesZ_iff l0).1 hc)
 ·cases h
end Go.Proofs.YtbngbefchobfnaaGreatDoor.Print

namespace Go.Proofs.YtbngbefchobfnaaGreatDoor.Print
open Go.RowKit Go.Proofs.YtbngbefchobfnaaGreatDoorW.PrintWords Go.Proofs.YtbngbefchobfnaaGreatDoorW.PrintLast Go.Proofs.YtbngbefchobfnaaGreatDoorW.PrintMore
attribute [local go_sem] max2_int min2_int max_two min_two max_three min_three max_four min_four   -- for this text's walks alone
set_option linter.unusedVariables false
set_option linter.unusedSimpArgs false
attribute [local go_sem high] eqA39
def bindleref08_Equal.f (a0_0 : ByteArray) (a0_1 : ByteArray) (a0_2 : ByteArray) (a0_3 : Int) (a0_4 : Int) (a0_5 : Int) (a0_6 : Int) (a0_7 : Int) (l0_8 : List Int) (a1_0 : ByteArray) (a1_1 : ByteArray) (a1_2 : ByteArray) (a1_3 : Int) (a1_4 : Int) (a1_5 : Int) (a1_6 : Int) (a1_7 : Int) (l1_8 : List Int) : Option (Bool) := if a0_0.toList = a1_0.toList then (if a0_3 = a1_3 then (if (a0_4 == a1_4 && (a0_5 == a1_5 && (a0_6 == a1_6 && (a0_7 == a1_7)))) = true then (if a0_1.toList = a1_1.toList then (some ((strOfNums l0_8).toList == (strOfNums l1_8).toList)) else (some false)) else (some false)) else (some false)) else (some false)
set_option maxHeartbeats 8000000 in
set_option maxRecDepth 100000 in
theorem bindleref08_Equal.calls (a0_0 : ByteArray) (a0_1 : ByteArray) (a0_2 : ByteArray) (a0_3 : Int) (a0_4 : Int) (a0_5 : Int) (a0_6 : Int) (a0_7 : Int) (A0_8 : Option Addr) (c0_8 : Nat) (l0_8 : List Int) (a1_0 : ByteArray) (a1_1 : ByteArray) (a1_2 : ByteArray) (a1_3 : Int) (a1_4 : Int) (a1_5 : Int) (a1_6 : Int) (a1_7 : Int) (A1_8 : Option Addr) (c1_8 : Nat) (l1_8 : List Int) (r : Bool) (w : World) (hr0_8 : Kd.C (Kd.int .u8) w A0_8 l0_8.length l0_8) (hc0_8 : l0_8.length ≤ c0_8) (hr1_8 : Kd.C (Kd.int .u8) w A1_8 l1_8.length l1_8) (hc1_8 : l1_8.length ≤ c1_8) (h : bindleref08_Equal.f a0_0 a0_1 a0_2 a0_3 a0_4 a0_5 a0_6 a0_7 l0_8 a1_0 a1_1 a1_2 a1_3 a1_4 a1_5 a1_6 a1_7 l1_8 = some r) :
  Calls Tryz.prog 19 #[.agg #[.string a0_0, .string a0_1, .string a0_2, .int .u8 a0_3, .int .i64 a0_4, .int .i64 a0_5, .int .i64 a0_6, .int .i64 a0_7, .slice A0_8 l0_8.length c0_8], .agg #[.string a1_0, .string a1_1, .string a1_2, .int .u8 a1_3, .int .i64 a1_4, .int .i64 a1_5, .int .i64 a1_6, .int .i64 a1_7, .slice A1_8 l1_8.length c1_8]] w fun e w' => e = .returned (.bool r) ∧ Below w.heap.size w w' := by
 have hu42 := Tryz.underlying42
 have hu39 := Tryz.underlying39
 have HR0_8 := A0_ hr0_8
 have HC0_8 := A0_ hc0_8
 clear hr0_8 hc0_8
 have HR1_8 := A0_ hr1_8
 have HC1_8 := A0_ hc1_8
 clear hr1_8 hc1_8
 have HB := A0_ (Below.refl w.heap.size w)
 have H : (if a0_0.toList = a1_0.toList then (if a0_3 = a1_3 then (if (a0_4 == a1_4 && (a0_5 == a1_5 && (a0_6 == a1_6 && (a0_7 == a1_7)))) = true then (if a0_1.toList = a1_1.toList then (some ((strOfNums l0_8).toList == (strOfNums l1_8).toList)) else (some false)) else (some false)) else (some false)) else (some false)) = some r := h
 clear h
 by_cases c3 : a0_0.toList = a1_0.toList
 rotate_left
 ·rw [if_neg c3] at H
  have c3b0 : (a0_0.toList == a1_0.toList) = false := beq_eq_false_iff_ne.mpr c3
  have c3b1 : (a0_0.toList != a1_0.toList) = true := bne_iff_ne.mpr c3
  obtain rfl := Option.some.inj H
  go_enter Tryz.func19, Tryz.ntmps19
  go_wp2_with (first | ((with_reducible refine gate_dst (N := 2) rfl ?_); refine box_event ?hg (N := 2) ?hd (cs := #[.string a0_0, .string a0_1, .string a0_2, .int .u8 a0_3, .int .i64 a0_4, .int .i64 a0_5, .int .i64 a0_6, .int .i64 a0_7, .slice A0_8 l0_8.length c0_8]) (t := 42) ?hr ?_; (case hd => rfl); (case hg => rfl); (case hr => first | (go_simp; done) | (go_simp; rfl)); intro gb156 hg w29 hbox hb; have n0_ := A0_ (below_step (wb_ HB.out) hb); have n1_ := A0_ (hbox); have n2_ := A0_ ((by rw [hg]; exact (below_size (wb_ HB.out)) : w.heap.size ≤ gb156)); have n3_ := A0_ ((by rw [hg]; exact (below_size (wb_ HB.out)) : w.heap.size ≤ gb156)); clear HB; have HB := n0_; have BK156 := n1_; have GW156 := n2_; have GE156 := n3_; clear n0_ n1_ n2_ n3_; clear hb hbox hg) | ((with_reducible refine gate_dst (N := 3) rfl ?_); refine box_event ?hg (N := 3) ?hd (cs := #[.string a1_0, .string a1_1, .string a1_2, .int .u8 a1_3, .int .i64 a1_4, .int .i64 a1_5, .int .i64 a1_6, .int .i64 a1_7, .slice A1_8 l1_8.length c1_8]) (t := 42) ?hr ?_; (case hd => rfl); (case hg => rfl); (case hr => first | (go_simp; done) | (go_simp; rfl)); intro gb157 hg w30 hbox hb; have n0_ := A0_ (blk_below (g := gb156) (o := .cells #[.string a0_0, .string a0_1, .string a0_2, .int .u8 a0_3, .int .i64 a0_4, .int .i64 a0_5, .int .i64 a0_6, .int .i64 a0_7, .slice A0_8 l0_8.length c0_8] 42 (0, 0)) (wB_ BK156.out) hb); have n1_ := A0_ (below_step (wb1_ HB.out GE156.out) hb); have n2_ := A0_ (hbox); have n3_ := A0_ ((by rw [hg]; exact (below_size (wb1_ HB.out GE156.out)) : w.heap.size ≤ gb157)); have n4_ := A0_ ((by rw [hg]; exact (below_size (wb1_ HB.out GE156.out)) : w.heap.size ≤ gb157)); have n5_ := A0_ ((by rw [hg]; exact Nat.ne_of_lt (blk_lt (g := gb156) (o := .cells #[.string a0_0, .string a0_1, .string a0_2, .int .u8 a0_3, .int .i64 a0_4, .int .i64 a0_5, .int .i64 a0_6, .int .i64 a0_7, .slice A0_8 l0_8.length c0_8] 42 (0, 0)) (wB_ BK156.out)) : gb156 ≠ gb157)); have n6_ := A0_ ((by rw [hg]; exact Nat.ne_of_gt (blk_lt (g := gb156) (o := .cells #[.string a0_0, .string a0_1, .string a0_2, .int .u8 a0_3, .int .i64 a0_4, .int .i64 a0_5, .int .i64 a0_6, .int .i64 a0_7, .slice A0_8 l0_8.length c0_8] 42 (0, 0)) (wB_ BK156.out)) : gb157 ≠ gb156)); clear BK156; clear HB; have BK156 := n0_; have HB := n1_; have BK157 := n2_; have GW157 := n3_; have GE157 := n4_; have NB156_157 := n5_; have NB157_156 := n6_; clear n0_ n1_ n2_ n3_ n4_ n5_ n6_; clear hb hbox hg; have hnb31 := NB156_157.out; have hnc31 := NB157_156.out; have hcz32_0 : w30.cell? ⟨gb156, 0, none⟩ = some (.string a0_0) := (bc_ BK156.out 0).trans rfl; have hcz32_1 : w30.cell? ⟨gb156, 1, none⟩ = some (.string a0_1) := (bc_ BK156.out 1).trans rfl; have hcz32_2 : w30.cell? ⟨gb156, 2, none⟩ = some (.string a0_2) := (bc_ BK156.out 2).trans rfl; have hcz32_3 : w30.cell? ⟨gb156, 3, none⟩ = some (.int .u8 a0_3) := (bc_ BK156.out 3).trans rfl; have hcz32_4 : w30.cell? ⟨gb156, 4, none⟩ = some (.int .i64 a0_4) := (bc_ BK156.out 4).trans rfl; have hcz32_5 : w30.cell? ⟨gb156, 5, none⟩ = some (.int .i64 a0_5) := (bc_ BK156.out 5).trans rfl; have hcz32_6 : w30.cell? ⟨gb156, 6, none⟩ = some (.int .i64 a0_6) := (bc_ BK156.out 6).trans rfl; have hcz32_7 : w30.cell? ⟨gb156, 7, none⟩ = some (.int .i64 a0_7) := (bc_ BK156.out 7).trans rfl; have hcz32_8 : w30.cell? ⟨gb156, 8, none⟩ = some (.slice A0_8 l0_8.length c0_8) := (bc_ BK156.out 8).trans rfl; have hfz32_0 := bf_ BK156.out 0; have hfz32_1 := bf_ BK156.out 1; have hfz32_2 := bf_ BK156.out 2; have hfz32_3 := bf_ BK156.out 3; have hfz32_4 := bf_ BK156.out 4; have hfz32_5 := bf_ BK156.out 5; have hfz32_6 := bf_ BK156.out 6; have hfz32_7 := bf_ BK156.out 7; have hfz32_8 := bf_ BK156.out 8; have hcz33_0 : w30.cell? ⟨gb157, 0, none⟩ = some (.string a1_0) := (bc_ BK157.out 0).trans rfl; have hcz33_1 : w30.cell? ⟨gb157, 1, none⟩ = some (.string a1_1) := (bc_ BK157.out 1).trans rfl; have hcz33_2 : w30.cell? ⟨gb157, 2, none⟩ = some (.string a1_2) := (bc_ BK157.out 2).trans rfl; have hcz33_3 : w30.cell? ⟨gb157, 3, none⟩ = some (.int .u8 a1_3) := (bc_ BK157.out 3).trans rfl; have hcz33_4 : w30.cell? ⟨gb157, 4, none⟩ = some (.int .i64 a1_4) := (bc_ BK157.out 4).trans rfl; have hcz33_5 : w30.cell? ⟨gb157, 5, none⟩ = some (.int .i64 a1_5) := (bc_ BK157.out 5).trans rfl; have hcz33_6 : w30.cell? ⟨gb157, 6, none⟩ = some (.int .i64 a1_6) := (bc_ BK157.out 6).trans rfl; have hcz33_7 : w30.cell? ⟨gb157, 7, none⟩ = some (.int .i64 a1_7) := (bc_ BK157.out 7).trans rfl; have hcz33_8 : w30.cell? ⟨gb157, 8, none⟩ = some (.slice A1_8 l1_8.length c1_8) := (bc_ BK157.out 8).trans rfl; have hfz33_0 := bf_ BK157.out 0; have hfz33_1 := bf_ BK157.out 1; have hfz33_2 := bf_ BK157.out 2; have hfz33_3 := bf_ BK157.out 3; have hfz33_4 := bf_ BK157.out 4; have hfz33_5 := bf_ BK157.out 5; have hfz33_6 := bf_ BK157.out 6; have hfz33_7 := bf_ BK157.out 7; have hfz33_8 := bf_ BK157.out 8))
  go_ret
  exact ⟨we_, wb2_ HB.out GE156.out GE157.out⟩
 rw [if_pos c3] at H
 have c3b0 : (a0_0.toList == a1_0.toList) = true := beq_iff_eq.mpr c3
 have c3b1 : (a0_0.toList != a1_0.toList) = false := bne_eq_false_iff_eq.mpr c3
 clear c3
 by_cases c4 : a0_3 = a1_3
 rotate_left
 ·rw [if_neg c4] at H
  have c4b0 : (a0_3 == a1_3) = false := beq_eq_false_iff_ne.mpr c4
  have c4b1 : (a0_3 != a1_3) = true := bne_iff_ne.mpr c4
  obtain rfl := Option.some.inj H
  go_enter Tryz.func19, Tryz.ntmps19
  go_wp2_with (first | ((with_reducible refine gate_dst (N := 2) rfl ?_); refine box_event ?hg (N := 2) ?hd (cs := #[.string a0_0, .string a0_1, .string a0_2, .int .u8 a0_3, .int .i64 a0_4, .int .i64 a0_5, .int .i64 a0_6, .int .i64 a0_7, .slice A0_8 l0_8.length c0_8]) (t := 42) ?hr ?_; (case hd => rfl); (case hg => rfl); (case hr => first | (go_simp; done) | (go_simp; rfl)); intro gb156 hg w24 hbox hb; have n0_ := A0_ (below_step (wb_ HB.out) hb); have n1_ := A0_ (hbox); have n2_ := A0_ ((by rw [hg]; exact (below_size (wb_ HB.out)) : w.heap.size ≤ gb156)); have n3_ := A0_ ((by rw [hg]; exact (below_size (wb_ HB.out)) : w.heap.size ≤ gb156)); clear HB; have HB := n0_; have BK156 := n1_; have GW156 := n2_; have GE156 := n3_; clear n0_ n1_ n2_ n3_; clear hb hbox hg) | ((with_reducible refine gate_dst (N := 3) rfl ?_); refine box_event ?hg (N := 3) ?hd (cs := #[.string a1_0, .string a1_1, .string a1_2, .int .u8 a1_3, .int .i64 a1_4, .int .i64 a1_5, .int .i64 a1_6, .int .i64 a1_7, .slice A1_8 l1_8.length c1_8]) (t := 42) ?hr ?_; (case hd => rfl); (case hg => rfl); (case hr => first | (go_simp; done) | (go_simp; rfl)); intro gb157 hg w25 hbox hb; have n0_ := A0_ (blk_below (g := gb156) (o := .cells #[.string a0_0, .string a0_1, .string a0_2, .int .u8 a0_3, .int .i64 a0_4, .int .i64 a0_5, .int .i64 a0_6, .int .i64 a0_7, .slice A0_8 l0_8.length c0_8] 42 (0, 0)) (wB_ BK156.out) hb); have n1_ := A0_ (below_step (wb1_ HB.out GE156.out) hb); have n2_ := A0_ (hbox); have n3_ := A0_ ((by rw [hg]; exact (below_size (wb1_ HB.out GE156.out)) : w.heap.size ≤ gb157)); have n4_ := A0_ ((by rw [hg]; exact (below_size (wb1_ HB.out GE156.out)) : w.heap.size ≤ gb157)); have n5_ := A0_ ((by rw [hg]; exact Nat.ne_of_lt (blk_lt (g := gb156) (o := .cells #[.string a0_0, .string a0_1, .string a0_2, .int .u8 a0_3, .int .i64 a0_4, .int .i64 a0_5, .int .i64 a0_6, .int .i64 a0_7, .slice A0_8 l0_8.length c0_8] 42 (0, 0)) (wB_ BK156.out)) : gb156 ≠ gb157)); have n6_ := A0_ ((by rw [hg]; exact Nat.ne_of_gt (blk_lt (g := gb156) (o := .cells #[.string a0_0, .string a0_1, .string a0_2, .int .u8 a0_3, .int .i64 a0_4, .int .i64 a0_5, .int .i64 a0_6, .int .i64 a0_7, .slice A0_8 l0_8.length c0_8] 42 (0, 0)) (wB_ BK156.out)) : gb157 ≠ gb156)); clear BK156; clear HB; have BK156 := n0_; have HB := n1_; have BK157 := n2_; have GW157 := n3_; have GE157 := n4_; have NB156_157 := n5_; have NB157_156 := n6_; clear n0_ n1_ n2_ n3_ n4_ n5_ n6_; clear hb hbox hg; have hnb26 := NB156_157.out; have hnc26 := NB157_156.out; have hcz27_0 : w25.cell? ⟨gb156, 0, none⟩ = some (.string a0_0) := (bc_ BK156.out 0).trans rfl; have hcz27_1 : w25.cell? ⟨gb156, 1, none⟩ = some (.string a0_1) := (bc_ BK156.out 1).trans rfl; have hcz27_2 : w25.cell? ⟨gb156, 2, none⟩ = some (.string a0_2) := (bc_ BK156.out 2).trans rfl; have hcz27_3 : w25.cell? ⟨gb156, 3, none⟩ = some (.int .u8 a0_3) := (bc_ BK156.out 3).trans rfl; have hcz27_4 : w25.cell? ⟨gb156, 4, none⟩ = some (.int .i64 a0_4) := (bc_ BK156.out 4).trans rfl; have hcz27_5 : w25.cell? ⟨gb156, 5, none⟩ = some (.int .i64 a0_5) := (bc_ BK156.out 5).trans rfl; have hcz27_6 : w25.cell? ⟨gb156, 6, none⟩ = some (.int .i64 a0_6) := (bc_ BK156.out 6).trans rfl; have hcz27_7 : w25.cell? ⟨gb156, 7, none⟩ = some (.int .i64 a0_7) := (bc_ BK156.out 7).trans rfl; have hcz27_8 : w25.cell? ⟨gb156, 8, none⟩ = some (.slice A0_8 l0_8.length c0_8) := (bc_ BK156.out 8).trans rfl; have hfz27_0 := bf_ BK156.out 0; have hfz27_1 := bf_ BK156.out 1; have hfz27_2 := bf_ BK156.out 2; have hfz27_3 := bf_ BK156.out 3; have hfz27_4 := bf_ BK156.out 4; have hfz27_5 := bf_ BK156.out 5; have hfz27_6 := bf_ BK156.out 6; have hfz27_7 := bf_ BK156.out 7; have hfz27_8 := bf_ BK156.out 8; have hcz28_0 : w25.cell? ⟨gb157, 0, none⟩ = some (.string a1_0) := (bc_ BK157.out 0).trans rfl; have hcz28_1 : w25.cell? ⟨gb157, 1, none⟩ = some (.string a1_1) := (bc_ BK157.out 1).trans rfl; have hcz28_2 : w25.cell? ⟨gb157, 2, none⟩ = some (.string a1_2) := (bc_ BK157.out 2).trans rfl; have hcz28_3 : w25.cell? ⟨gb157, 3, none⟩ = some (.int .u8 a1_3) := (bc_ BK157.out 3).trans rfl; have hcz28_4 : w25.cell? ⟨gb157, 4, none⟩ = some (.int .i64 a1_4) := (bc_ BK157.out 4).trans rfl; have hcz28_5 : w25.cell? ⟨gb157, 5, none⟩ = some (.int .i64 a1_5) := (bc_ BK157.out 5).trans rfl; have hcz28_6 : w25.cell? ⟨gb157, 6, none⟩ = some (.int .i64 a1_6) := (bc_ BK157.out 6).trans rfl; have hcz28_7 : w25.cell? ⟨gb157, 7, none⟩ = some (.int .i64 a1_7) := (bc_ BK157.out 7).trans rfl; have hcz28_8 : w25.cell? ⟨gb157, 8, none⟩ = some (.slice A1_8 l1_8.length c1_8) := (bc_ BK157.out 8).trans rfl; have hfz28_0 := bf_ BK157.out 0; have hfz28_1 := bf_ BK157.out 1; have hfz28_2 := bf_ BK157.out 2; have hfz28_3 := bf_ BK157.out 3; have hfz28_4 := bf_ BK157.out 4; have hfz28_5 := bf_ BK157.out 5; have hfz28_6 := bf_ BK157.out 6; have hfz28_7 := bf_ BK157.out 7; have hfz28_8 := bf_ BK157.out 8))
  go_ret
  exact ⟨we_, wb2_ HB.out GE156.out GE157.out⟩
 rw [if_pos c4] at H
 have c4b0 : (a0_3 == a1_3) = true := beq_iff_eq.mpr c4
 have c4b1 : (a0_3 != a1_3) = false := bne_eq_false_iff_eq.mpr c4
 clear c4
 by_cases c5 : (a0_4 == a1_4 && (a0_5 == a1_5 && (a0_6 == a1_6 && (a0_7 == a1_7)))) = true
 rotate_left
 ·rw [if_neg c5] at H
  have c5b0 : (a0_4 == a1_4 && (a0_5 == a1_5 && (a0_6 == a1_6 && (a0_7 == a1_7)))) = false := by simpa using c5
  (try (have c5b1 : decide (a0_4 = a1_4 && (a0_5 == a1_5 && (a0_6 == a1_6 && (a0_7 == a1_7)))) = false := by simpa using c5))
  (try (have c5b2 : (a0_4 == a1_4 && (a0_5 == a1_5 && (a0_6 == a1_6 && (a0_7 == a1_7)))) = false := by simpa using c5))
  (try (have c5b3 : ¬ (a0_4 = a1_4 && (a0_5 == a1_5 && (a0_6 == a1_6 && (a0_7 == a1_7)))) := by simpa using c5))
  clear c5
  obtain rfl := Option.some.inj H
  go_enter Tryz.func19, Tryz.ntmps19
  go_wp2_with (first | ((with_reducible refine gate_dst (N := 2) rfl ?_); refine box_event ?hg (N := 2) ?hd (cs := #[.string a0_0, .string a0_1, .string a0_2, .int .u8 a0_3, .int .i64 a0_4, .int .i64 a0_5, .int .i64 a0_6, .int .i64 a0_7, .slice A0_8 l0_8.length c0_8]) (t := 42) ?hr ?_; (case hd => rfl); (case hg => rfl); (case hr => first | (go_simp; done) | (go_simp; rfl)); intro gb156 hg w19 hbox hb; have n0_ := A0_ (below_step (wb_ HB.out) hb); have n1_ := A0_ (hbox); have n2_ := A0_ ((by rw [hg]; exact (below_size (wb_ HB.out)) : w.heap.size ≤ gb156)); have n3_ := A0_ ((by rw [hg]; exact (below_size (wb_ HB.out)) : w.heap.size ≤ gb156)); clear HB; have HB := n0_; have BK156 := n1_; have GW156 := n2_; have GE156 := n3_; clear n0_ n1_ n2_ n3_; clear hb hbox hg) | ((with_reducible refine gate_dst (N := 3) rfl ?_); refine box_event ?hg (N := 3) ?hd (cs := #[.string a1_0, .string a1_1, .string a1_2, .int .u8 a1_3, .int .i64 a1_4, .int .i64 a1_5, .int .i64 a1_6, .int .i64 a1_7, .slice A1_8 l1_8.length c1_8]) (t := 42) ?hr ?_; (case hd => rfl); (case hg => rfl); (case hr => first | (go_simp; done) | (go_simp; rfl)); intro gb157 hg w20 hbox hb; have n0_ := A0_ (blk_below (g := gb156) (o := .cells #[.string a0_0, .string a0_1, .string a0_2, .int .u8 a0_3, .int .i64 a0_4, .int .i64 a0_5, .int .i64 a0_6, .int .i64 a0_7, .slice A0_8 l0_8.length c0_8] 42 (0, 0)) (wB_ BK156.out) hb); have n1_ := A0_ (below_step (wb1_ HB.out GE156.out) hb); have n2_ := A0_ (hbox); have n3_ := A0_ ((by rw [hg]; exact (below_size (wb1_ HB.out GE156.out)) : w.heap.size ≤ gb157)); have n4_ := A0_ ((by rw [hg]; exact (below_size (wb1_ HB.out GE156.out)) : w.heap.size ≤ gb157)); have n5_ := A0_ ((by rw [hg]; exact Nat.ne_of_lt (blk_lt (g := gb156) (o := .cells #[.string a0_0, .string a0_1, .string a0_2, .int .u8 a0_3, .int .i64 a0_4, .int .i64 a0_5, .int .i64 a0_6, .int .i64 a0_7, .slice A0_8 l0_8.length c0_8] 42 (0, 0)) (wB_ BK156.out)) : gb156 ≠ gb157)); have n6_ := A0_ ((by rw [hg]; exact Nat.ne_of_gt (blk_lt (g := gb156) (o := .cells #[.string a0_0, .string a0_1, .string a0_2, .int .u8 a0_3, .int .i64 a0_4, .int .i64 a0_5, .int .i64 a0_6, .int .i64 a0_7, .slice A0_8 l0_8.length c0_8] 42 (0, 0)) (wB_ BK156.out)) : gb157 ≠ gb156)); clear BK156; clear HB; have BK156 := n0_; have HB := n1_; have BK157 := n2_; have GW157 := n3_; have GE157 := n4_; have NB156_157 := n5_; have NB157_156 := n6_; clear n0_ n1_ n2_ n3_ n4_ n5_ n6_; clear hb hbox hg; have hnb21 := NB156_157.out; have hnc21 := NB157_156.out; have hcz22_0 : w20.cell? ⟨gb156, 0, none⟩ = some (.string a0_0) := (bc_ BK156.out 0).trans rfl; have hcz22_1 : w20.cell? ⟨gb156, 1, none⟩ = some (.string a0_1) := (bc_ BK156.out 1).trans rfl; have hcz22_2 : w20.cell? ⟨gb156, 2, none⟩ = some (.string a0_2) := (bc_ BK156.out 2).trans rfl; have hcz22_3 : w20.cell? ⟨gb156, 3, none⟩ = some (.int .u8 a0_3) := (bc_ BK156.out 3).trans rfl; have hcz22_4 : w20.cell? ⟨gb156, 4, none⟩ = some (.int .i64 a0_4) := (bc_ BK156.out 4).trans rfl; have hcz22_5 : w20.cell? ⟨gb156, 5, none⟩ = some (.int .i64 a0_5) := (bc_ BK156.out 5).trans rfl; have hcz22_6 : w20.cell? ⟨gb156, 6, none⟩ = some (.int .i64 a0_6) := (bc_ BK156.out 6).trans rfl; have hcz22_7 : w20.cell? ⟨gb156, 7, none⟩ = some (.int .i64 a0_7) := (bc_ BK156.out 7).trans rfl; have hcz22_8 : w20.cell? ⟨gb156, 8, none⟩ = some (.slice A0_8 l0_8.length c0_8) := (bc_ BK156.out 8).trans rfl; have hfz22_0 := bf_ BK156.out 0; have hfz22_1 := bf_ BK156.out 1; have hfz22_2 := bf_ BK156.out 2; have hfz22_3 := bf_ BK156.out 3; have hfz22_4 := bf_ BK156.out 4; have hfz22_5 := bf_ BK156.out 5; have hfz22_6 := bf_ BK156.out 6; have hfz22_7 := bf_ BK156.out 7; have hfz22_8 := bf_ BK156.out 8; have hcz23_0 : w20.cell? ⟨gb157, 0, none⟩ = some (.string a1_0) := (bc_ BK157.out 0).trans rfl; have hcz23_1 : w20.cell? ⟨gb157, 1, none⟩ = some (.string a1_1) := (bc_ BK157.out 1).trans rfl; have hcz23_2 : w20.cell? ⟨gb157, 2, none⟩ = some (.string a1_2) := (bc_ BK157.out 2).trans rfl; have hcz23_3 : w20.cell? ⟨gb157, 3, none⟩ = some (.int .u8 a1_3) := (bc_ BK157.out 3).trans rfl; have hcz23_4 : w20.cell? ⟨gb157, 4, none⟩ = some (.int .i64 a1_4) := (bc_ BK157.out 4).trans rfl; have hcz23_5 : w20.cell? ⟨gb157, 5, none⟩ = some (.int .i64 a1_5) := (bc_ BK157.out 5).trans rfl; have hcz23_6 : w20.cell? ⟨gb157, 6, none⟩ = some (.int .i64 a1_6) := (bc_ BK157.out 6).trans rfl; have hcz23_7 : w20.cell? ⟨gb157, 7, none⟩ = some (.int .i64 a1_7) := (bc_ BK157.out 7).trans rfl; have hcz23_8 : w20.cell? ⟨gb157, 8, none⟩ = some (.slice A1_8 l1_8.length c1_8) := (bc_ BK157.out 8).trans rfl; have hfz23_0 := bf_ BK157.out 0; have hfz23_1 := bf_ BK157.out 1; have hfz23_2 := bf_ BK157.out 2; have hfz23_3 := bf_ BK157.out 3; have hfz23_4 := bf_ BK157.out 4; have hfz23_5 := bf_ BK157.out 5; have hfz23_6 := bf_ BK157.out 6; have hfz23_7 := bf_ BK157.out 7; have hfz23_8 := bf_ BK157.out 8))
  go_ret
  exact ⟨we_, wb2_ HB.out GE156.out GE157.out⟩
 rw [if_pos c5] at H
 have c5b0 : (a0_4 == a1_4 && (a0_5 == a1_5 && (a0_6 == a1_6 && (a0_7 == a1_7)))) = true := c5
 (try (have c5b1 : decide (a0_4 = a1_4 && (a0_5 == a1_5 && (a0_6 == a1_6 && (a0_7 == a1_7)))) = true := by simpa using c5))
 (try (have c5b2 : (a0_4 == a1_4 && (a0_5 == a1_5 && (a0_6 == a1_6 && (a0_7 == a1_7)))) = true := by simpa using c5))
 clear c5
 by_cases c6 : a0_1.toList = a1_1.toList
 rotate_left
 ·rw [if_neg c6] at H
  have c6b0 : (a0_1.toList == a1_1.toList) = false := beq_eq_false_iff_ne.mpr c6
  have c6b1 : (a0_1.toList != a1_1.toList) = true := bne_iff_ne.mpr c6
  obtain rfl := Option.some.inj H
  go_enter Tryz.func19, Tryz.ntmps19
  go_wp2_with (first | ((with_reducible refine gate_dst (N := 2) rfl ?_); refine box_event ?hg (N := 2) ?hd (cs := #[.string a0_0, .string a0_1, .string a0_2, .int .u8 a0_3, .int .i64 a0_4, .int .i64 a0_5, .int .i64 a0_6, .int .i64 a0_7, .slice A0_8 l0_8.length c0_8]) (t := 42) ?hr ?_; (case hd => rfl); (case hg => rfl); (case hr => first | (go_simp; done) | (go_simp; rfl)); intro gb156 hg w14 hbox hb; have n0_ := A0_ (below_step (wb_ HB.out) hb); have n1_ := A0_ (hbox); have n2_ := A0_ ((by rw [hg]; exact (below_size (wb_ HB.out)) : w.heap.size ≤ gb156)); have n3_ := A0_ ((by rw [hg]; exact (below_size (wb_ HB.out)) : w.heap.size ≤ gb156)); clear HB; have HB := n0_; have BK156 := n1_; have GW156 := n2_; have GE156 := n3_; clear n0_ n1_ n2_ n3_; clear hb hbox hg) | ((with_reducible refine gate_dst (N := 3) rfl ?_); refine box_event ?hg (N := 3) ?hd (cs := #[.string a1_0, .string a1_1, .string a1_2, .int .u8 a1_3, .int .i64 a1_4, .int .i64 a1_5, .int .i64 a1_6, .int .i64 a1_7, .slice A1_8 l1_8.length c1_8]) (t := 42) ?hr ?_; (case hd => rfl); (case hg => rfl); (case hr => first | (go_simp; done) | (go_simp; rfl)); intro gb157 hg w15 hbox hb; have n0_ := A0_ (blk_below (g := gb156) (o := .cells #[.string a0_0, .string a0_1, .string a0_2, .int .u8 a0_3, .int .i64 a0_4, .int .i64 a0_5, .int .i64 a0_6, .int .i64 a0_7, .slice A0_8 l0_8.length c0_8] 42 (0, 0)) (wB_ BK156.out) hb); have n1_ := A0_ (below_step (wb1_ HB.out GE156.out) hb); have n2_ := A0_ (hbox); have n3_ := A0_ ((by rw [hg]; exact (below_size (wb1_ HB.out GE156.out)) : w.heap.size ≤ gb157)); have n4_ := A0_ ((by rw [hg]; exact (below_size (wb1_ HB.out GE156.out)) : w.heap.size ≤ gb157)); have n5_ := A0_ ((by rw [hg]; exact Nat.ne_of_lt (blk_lt (g := gb156) (o := .cells #[.string a0_0, .string a0_1, .string a0_2, .int .u8 a0_3, .int .i64 a0_4, .int .i64 a0_5, .int .i64 a0_6, .int .i64 a0_7, .slice A0_8 l0_8.length c0_8] 42 (0, 0)) (wB_ BK156.out)) : gb156 ≠ gb157)); have n6_ := A0_ ((by rw [hg]; exact Nat.ne_of_gt (blk_lt (g := gb156) (o := .cells #[.string a0_0, .string a0_1, .string a0_2, .int .u8 a0_3, .int .i64 a0_4, .int .i64 a0_5, .int .i64 a0_6, .int .i64 a0_7, .slice A0_8 l0_8.length c0_8] 42 (0, 0)) (wB_ BK156.out)) : gb157 ≠ gb156)); clear BK156; clear HB; have BK156 := n0_; have HB := n1_; have BK157 := n2_; have GW157 := n3_; have GE157 := n4_; have NB156_157 := n5_; have NB157_156 := n6_; clear n0_ n1_ n2_ n3_ n4_ n5_ n6_; clear hb hbox hg; have hnb16 := NB156_157.out; have hnc16 := NB157_156.out; have hcz17_0 : w15.cell? ⟨gb156, 0, none⟩ = some (.string a0_0) := (bc_ BK156.out 0).trans rfl; have hcz17_1 : w15.cell? ⟨gb156, 1, none⟩ = some (.string a0_1) := (bc_ BK156.out 1).trans rfl; have hcz17_2 : w15.cell? ⟨gb156, 2, none⟩ = some (.string a0_2) := (bc_ BK156.out 2).trans rfl; have hcz17_3 : w15.cell? ⟨gb156, 3, none⟩ = some (.int .u8 a0_3) := (bc_ BK156.out 3).trans rfl; have hcz17_4 : w15.cell? ⟨gb156, 4, none⟩ = some (.int .i64 a0_4) := (bc_ BK156.out 4).trans rfl; have hcz17_5 : w15.cell? ⟨gb156, 5, none⟩ = some (.int .i64 a0_5) := (bc_ BK156.out 5).trans rfl; have hcz17_6 : w15.cell? ⟨gb156, 6, none⟩ = some (.int .i64 a0_6) := (bc_ BK156.out 6).trans rfl; have hcz17_7 : w15.cell? ⟨gb156, 7, none⟩ = some (.int .i64 a0_7) := (bc_ BK156.out 7).trans rfl; have hcz17_8 : w15.cell? ⟨gb156, 8, none⟩ = some (.slice A0_8 l0_8.length c0_8) := (bc_ BK156.out 8).trans rfl; have hfz17_0 := bf_ BK156.out 0; have hfz17_1 := bf_ BK156.out 1; have hfz17_2 := bf_ BK156.out 2; have hfz17_3 := bf_ BK156.out 3; have hfz17_4 := bf_ BK156.out 4; have hfz17_5 := bf_ BK156.out 5; have hfz17_6 := bf_ BK156.out 6; have hfz17_7 := bf_ BK156.out 7; have hfz17_8 := bf_ BK156.out 8; have hcz18_0 : w15.cell? ⟨gb157, 0, none⟩ = some (.string a1_0) := (bc_ BK157.out 0).trans rfl; have hcz18_1 : w15.cell? ⟨gb157, 1, none⟩ = some (.string a1_1) := (bc_ BK157.out 1).trans rfl; have hcz18_2 : w15.cell? ⟨gb157, 2, none⟩ = some (.string a1_2) := (bc_ BK157.out 2).trans rfl; have hcz18_3 : w15.cell? ⟨gb157, 3, none⟩ = some (.int .u8 a1_3) := (bc_ BK157.out 3).trans rfl; have hcz18_4 : w15.cell? ⟨gb157, 4, none⟩ = some (.int .i64 a1_4) := (bc_ BK157.out 4).trans rfl; have hcz18_5 : w15.cell? ⟨gb157, 5, none⟩ = some (.int .i64 a1_5) := (bc_ BK157.out 5).trans rfl; have hcz18_6 : w15.cell? ⟨gb157, 6, none⟩ = some (.int .i64 a1_6) := (bc_ BK157.out 6).trans rfl; have hcz18_7 : w15.cell? ⟨gb157, 7, none⟩ = some (.int .i64 a1_7) := (bc_ BK157.out 7).trans rfl; have hcz18_8 : w15.cell? ⟨gb157, 8, none⟩ = some (.slice A1_8 l1_8.length c1_8) := (bc_ BK157.out 8).trans rfl; have hfz18_0 := bf_ BK157.out 0; have hfz18_1 := bf_ BK157.out 1; have hfz18_2 := bf_ BK157.out 2; have hfz18_3 := bf_ BK157.out 3; have hfz18_4 := bf_ BK157.out 4; have hfz18_5 := bf_ BK157.out 5; have hfz18_6 := bf_ BK157.out 6; have hfz18_7 := bf_ BK157.out 7; have hfz18_8 := bf_ BK157.out 8))
  go_ret
  exact ⟨we_, wb2_ HB.out GE156.out GE157.out⟩
 rw [if_pos c6] at H
 have c6b0 : (a0_1.toList == a1_1.toList) = true := beq_iff_eq.mpr c6
 have c6b1 : (a0_1.toList != a1_1.toList) = false := bne_eq_false_iff_eq.mpr c6
 clear c6
 obtain rfl := Option.some.inj H
 go_enter Tryz.func19, Tryz.ntmps19
 go_wp2_with (first | ((with_reducible refine gate_dst (N := 2) rfl ?_); refine box_event ?hg (N := 2) ?hd (cs := #[.string a0_0, .string a0_1, .string a0_2, .int .u8 a0_3, .int .i64 a0_4, .int .i64 a0_5, .int .i64 a0_6, .int .i64 a0_7, .slice A0_8 l0_8.length c0_8]) (t := 42) ?hr ?_; (case hd => rfl); (case hg => rfl); (case hr => first | (go_simp; done) | (go_simp; rfl)); intro gb156 hg w7 hbox hb; have n0_ := A0_ (below_step (wb_ HB.out) hb); have n1_ := A0_ (hbox); have n2_ := A0_ ((by rw [hg]; exact (below_size (wb_ HB.out)) : w.heap.size ≤ gb156)); have n3_ := A0_ ((by rw [hg]; exact (below_size (wb_ HB.out)) : w.heap.size ≤ gb156)); clear HB; have HB := n0_; have BK156 := n1_; have GW156 := n2_; have GE156 := n3_; clear n0_ n1_ n2_ n3_; clear hb hbox hg) | ((with_reducible refine gate_dst (N := 3) rfl ?_); refine box_event ?hg (N := 3) ?hd (cs := #[.string a1_0, .string a1_1, .string a1_2, .int .u8 a1_3, .int .i64 a1_4, .int .i64 a1_5, .int .i64 a1_6, .int .i64 a1_7, .slice A1_8 l1_8.length c1_8]) (t := 42) ?hr ?_; (case hd => rfl); (case hg => rfl); (case hr => first | (go_simp; done) | (go_simp; rfl)); intro gb157 hg w8 hbox hb; have n0_ := A0_ (blk_below (g := gb156) (o := .cells #[.string a0_0, .string a0_1, .string a0_2, .int .u8 a0_3, .int .i64 a0_4, .int .i64 a0_5, .int .i64 a0_6, .int .i64 a0_7, .slice A0_8 l0_8.length c0_8] 42 (0, 0)) (wB_ BK156.out) hb); have n1_ := A0_ (below_step (wb1_ HB.out GE156.out) hb); have n2_ := A0_ (hbox); have n3_ := A0_ ((by rw [hg]; exact (below_size (wb1_ HB.out GE156.out)) : w.heap.size ≤ gb157)); have n4_ := A0_ ((by rw [hg]; exact (below_size (wb1_ HB.out GE156.out)) : w.heap.size ≤ gb157)); have n5_ := A0_ ((by rw [hg]; exact Nat.ne_of_lt (blk_lt (g := gb156) (o := .cells #[.string a0_0, .string a0_1, .string a0_2, .int .u8 a0_3, .int .i64 a0_4, .int .i64 a0_5, .int .i64 a0_6, .int .i64 a0_7, .slice A0_8 l0_8.length c0_8] 42 (0, 0)) (wB_ BK156.out)) : gb156 ≠ gb157)); have n6_ := A0_ ((by rw [hg]; exact Nat.ne_of_gt (blk_lt (g := gb156) (o := .cells #[.string a0_0, .string a0_1, .string a0_2, .int .u8 a0_3, .int .i64 a0_4, .int .i64 a0_5, .int .i64 a0_6, .int .i64 a0_7, .slice A0_8 l0_8.length c0_8] 42 (0, 0)) (wB_ BK156.out)) : gb157 ≠ gb156)); clear BK156; clear HB; have BK156 := n0_; have HB := n1_; have BK157 := n2_; have GW157 := n3_; have GE157 := n4_; have NB156_157 := n5_; have NB157_156 := n6_; clear n0_ n1_ n2_ n3_ n4_ n5_ n6_; clear hb hbox hg; have hnb9 := NB156_157.out; have hnc9 := NB157_156.out; have hcz10_0 : w8.cell? ⟨gb156, 0, none⟩ = some (.string a0_0) := (bc_ BK156.out 0).trans rfl; have hcz10_1 : w8.cell? ⟨gb156, 1, none⟩ = some (.string a0_1) := (bc_ BK156.out 1).trans rfl; have hcz10_2 : w8.cell? ⟨gb156, 2, none⟩ = some (.string a0_2) := (bc_ BK156.out 2).trans rfl; have hcz10_3 : w8.cell? ⟨gb156, 3, none⟩ = some (.int .u8 a0_3) := (bc_ BK156.out 3).trans rfl; have hcz10_4 : w8.cell? ⟨gb156, 4, none⟩ = some (.int .i64 a0_4) := (bc_ BK156.out 4).trans rfl; have hcz10_5 : w8.cell? ⟨gb156, 5, none⟩ = some (.int .i64 a0_5) := (bc_ BK156.out 5).trans rfl; have hcz10_6 : w8.cell? ⟨gb156, 6, none⟩ = some (.int .i64 a0_6) := (bc_ BK156.out 6).trans rfl; have hcz10_7 : w8.cell? ⟨gb156, 7, none⟩ = some (.int .i64 a0_7) := (bc_ BK156.out 7).trans rfl; have hcz10_8 : w8.cell? ⟨gb156, 8, none⟩ = some (.slice A0_8 l0_8.length c0_8) := (bc_ BK156.out 8).trans rfl; have hfz10_0 := bf_ BK156.out 0; have hfz10_1 := bf_ BK156.out 1; have hfz10_2 := bf_ BK156.out 2; have hfz10_3 := bf_ BK156.out 3; have hfz10_4 := bf_ BK156.out 4; have hfz10_5 := bf_ BK156.out 5; have hfz10_6 := bf_ BK156.out 6; have hfz10_7 := bf_ BK156.out 7; have hfz10_8 := bf_ BK156.out 8; have hcz11_0 : w8.cell? ⟨gb157, 0, none⟩ = some (.string a1_0) := (bc_ BK157.out 0).trans rfl; have hcz11_1 : w8.cell? ⟨gb157, 1, none⟩ = some (.string a1_1) := (bc_ BK157.out 1).trans rfl; have hcz11_2 : w8.cell? ⟨gb157, 2, none⟩ = some (.string a1_2) := (bc_ BK157.out 2).trans rfl; have hcz11_3 : w8.cell? ⟨gb157, 3, none⟩ = some (.int .u8 a1_3) := (bc_ BK157.out 3).trans rfl; have hcz11_4 : w8.cell? ⟨gb157, 4, none⟩ = some (.int .i64 a1_4) := (bc_ BK157.out 4).trans rfl; have hcz11_5 : w8.cell? ⟨gb157, 5, none⟩ = some (.int .i64 a1_5) := (bc_ BK157.out 5).trans rfl; have hcz11_6 : w8.cell? ⟨gb157, 6, none⟩ = some (.int .i64 a1_6) := (bc_ BK157.out 6).trans rfl; have hcz11_7 : w8.cell? ⟨gb157, 7, none⟩ = some (.int .i64 a1_7) := (bc_ BK157.out 7).trans rfl; have hcz11_8 : w8.cell? ⟨gb157, 8, none⟩ = some (.slice A1_8 l1_8.length c1_8) := (bc_ BK157.out 8).trans rfl; have hfz11_0 := bf_ BK157.out 0; have hfz11_1 := bf_ BK157.out 1; have hfz11_2 := bf_ BK157.out 2; have hfz11_3 := bf_ BK157.out 3; have hfz11_4 := bf_ BK157.out 4; have hfz11_5 := bf_ BK157.out 5; have hfz11_6 := bf_ BK157.out 6; have hfz11_7 := bf_ BK157.out 7; have hfz11_8 := bf_ BK157.out 8; have hcv12 := Kd.C_string (P := Tryz.prog) (A := A0_8) (c := c0_8) Tryz.underlying40 Tryz.underlying5 Tryz.underlying9 (Kd.C_below HR0_8.out HB.out); have hcv13 := Kd.C_string (P := Tryz.prog) (A := A1_8) (c := c1_8) Tryz.underlying40 Tryz.underlying5 Tryz.underlying9 (Kd.C_below HR1_8.out HB.out)))
 go_ret
 exact ⟨we_, wb2_ HB.out GE156.out GE157.out⟩
end Go.Proofs.YtbngbefchobfnaaGreatDoor.Print

namespace Go.Proofs.YtbngbefchobfnaaGreatDoor.Print
open Go.RowKit Go.Proofs.YtbngbefchobfnaaGreatDoorW.PrintWords Go.Proofs.YtbngbefchobfnaaGreatDoorW.PrintLast Go.Proofs.YtbngbefchobfnaaGreatDoorW.PrintMore
attribute [local go_sem] max2_int min2_int max_two min_two max_three min_three max_four min_four   -- for this text's walks alone
set_option linter.unusedVariables false
set_option linter.unusedSimpArgs false
end Go.Proofs.YtbngbefchobfnaaGreatDoor.Print

namespace Go.Proofs.YtbngbefchobfnaaGreatDoor
open Go.RowKit Go.Proofs.YtbngbefchobfnaaGreatDoor.Print Go.Proofs.YtbngbefchobfnaaGreatDoorW.PrintWords
set_option linter.unusedVariables false
theorem requal_f (a b : Node) : bindleref08_Equal.f a.f0 a.f1 a.f2 a.f3 a.f4.f0 a.f4.f1 a.f4.f2 a.f4.f3 a.f5 b.f0 b.f1 b.f2 b.f3 b.f4.f0 b.f4.f1 b.f4.f2 b.f4.f3 b.f5 = some (equalB a b) := by
 unfold bindleref08_Equal.f
 exact equal_chain a b rfl
end Go.Proofs.YtbngbefchobfnaaGreatDoor

namespace Go.Proofs.YtbngbefchobfnaaGreatDoor.Print
open Go.RowKit Go.Proofs.YtbngbefchobfnaaGreatDoorW.PrintWords Go.Proofs.YtbngbefchobfnaaGreatDoorW.PrintLast Go.Proofs.YtbngbefchobfnaaGreatDoorW.PrintMore
attribute [local go_sem] max2_int min2_int max_two min_two max_three min_three max_four min_four   -- for this text's walks alone
set_option linter.unusedVariables false
set_option linter.unusedSimpArgs false
def bindlelaw21_three.f  : Option ((List (S42)) × (List (S42)) × (List (S42))) := some ((([(⟨(⟨#[97]⟩ : ByteArray), (⟨#[]⟩ : ByteArray), (⟨#[]⟩ : ByteArray), 53, (⟨0, 0, 0, 0⟩ : S39), ([] : List Int)⟩ : S42)] : List (S42))), (([(⟨(⟨#[97]⟩ : ByteArray), (⟨#[]⟩ : ByteArray), (⟨#[]⟩ : ByteArray), 53, (⟨1, 0, 0, 0⟩ : S39), ([] : List Int)⟩ : S42)] : List (S42))), ([] : List (S42)))
set_option maxHeartbeats 8000000 in
set_option maxRecDepth 100000 in
theorem bindlelaw21_three.calls  (r1 : List (S42)) (r2 : List (S42)) (r3 : List (S42)) (w : World) (h : bindlelaw21_three.f  = some (r1, r2, r3)) :
  Calls Tryz.prog 22 #[] w fun e w' => ∃ v0_ v1_ v2_ : Value, e = .returned (.tuple #[v0_, v1_, v2_]) ∧ Kd.S k42 42 w' w.heap.size (fun k_ => some k_ ≠ (v1_ : Value).ownBlock ∧ some k_ ≠ (v2_ : Value).ownBlock) v0_ r1 ∧ Kd.S k42 42 w' w.heap.size (fun k_ => some k_ ≠ (v0_ : Value).ownBlock ∧ some k_ ≠ (v2_ : Value).ownBlock) v1_ r2 ∧ Kd.S k42 42 w' w.heap.size (fun k_ => some k_ ≠ (v0_ : Value).ownBlock ∧ some k_ ≠ (v1_ : Value).ownBlock) v2_ r3 ∧ Below w.heap.size w w' := by
 have hu42 := Tryz.underlying42
 have hu39 := Tryz.underlying39
 have HB := A0_ (Below.refl w.heap.size w)
 have H : (some ((([(⟨(⟨#[97]⟩ : ByteArray), (⟨#[]⟩ : ByteArray), (⟨#[]⟩ : ByteArray), 53, (⟨0, 0, 0, 0⟩ : S39), ([] : List Int)⟩ : S42)] : List (S42))), (([(⟨(⟨#[97]⟩ : ByteArray), (⟨#[]⟩ : ByteArray), (⟨#[]⟩ : ByteArray), 53, (⟨1, 0, 0, 0⟩ : S39), ([] : List Int)⟩ : S42)] : List (S42))), ([] : List (S42)))) = some (r1, r2, r3) := h
 clear h
 obtain ⟨y110, hy110⟩ : ∃ y_ : List (S42), y_ = (([(⟨(⟨#[97]⟩ : ByteArray), (⟨#[]⟩ : ByteArray), (⟨#[]⟩ : ByteArray), 53, (⟨0, 0, 0, 0⟩ : S39), ([] : List Int)⟩ : S42)] : List (S42))) := ⟨_, rfl⟩
 replace H : (some (y110, (([(⟨(⟨#[97]⟩ : ByteArray), (⟨#[]⟩ : ByteArray), (⟨#[]⟩ : ByteArray), 53, (⟨1, 0, 0, 0⟩ : S39), ([] : List Int)⟩ : S42)] : List (S42))), ([] : List (S42)))) = some (r1, r2, r3) := by first | (rw [hy110]; with_reducible exact H) | (have H2_ := (Option.bind_some _ _).symm.trans H; rw [hy110]; with_reducible exact H2_) | (have H2_ := (Option.bind_some _ _).symm.trans H; with_reducible exact H2_) | with_reducible exact H | (rw [hy110]; exact H) | exact H
 have Ny110 := A0_ hy110
 clear hy110
 obtain ⟨y113, hy113⟩ : ∃ y_ : List (S42), y_ = (([(⟨(⟨#[97]⟩ : ByteArray), (⟨#[]⟩ : ByteArray), (⟨#[]⟩ : ByteArray), 53, (⟨1, 0, 0, 0⟩ : S39), ([] : List Int)⟩ : S42)] : List (S42))) := ⟨_, rfl⟩
 replace H : (some (y110, y113, ([] : List (S42)))) = some (r1, r2, r3) := by first | (rw [hy113]; with_reducible exact H) | (have H2_ := (Option.bind_some _ _).symm.trans H; rw [hy113]; with_reducible exact H2_) | (have H2_ := (Option.bind_some _ _).symm.trans H; with_reducible exact H2_) | with_reducible exact H | (rw [hy113]; exact H) | exact H
 have Ny113 := A0_ hy113
 clear hy113
 simp only [Option.some.injEq, Prod.mk.injEq] at H
 obtain ⟨rfl, rfl, rfl⟩ := H
 go_enter Tryz.func22, Tryz.ntmps22
 go_wp2_with (first | ((with_reducible refine gate_dst (N := 4) rfl ?_); refine Kd.S_lit k42 _ 42 ?hg (N := 4) ?hd (xs := ([(⟨(⟨#[97]⟩ : ByteArray), (⟨#[]⟩ : ByteArray), (⟨#[]⟩ : ByteArray), 53, (⟨0, 0, 0, 0⟩ : S39), ([] : List Int)⟩ : S42)] : List (S42))) (inner := [.string (⟨#[97]⟩ : ByteArray), .string (⟨#[]⟩ : ByteArray), .string (⟨#[]⟩ : ByteArray), .int .u8 53, .int .i64 0, .int .i64 0, .int .i64 0, .int .i64 0, .slice none 0 0]) (ok := fun _ => True) (okp := fun _ => True) ?hr ?hp (fun _ hk => hk) trivial (Below.refl _ _) (Nat.le_refl _) (by simp) ?_; (case hd => rfl); (case hg => rfl); (case hr => first | (go_simp; done) | (go_simp; rfl)); (case hp => exact (Reps.c9 (show Kd.M k42 _ _ _ (⟨(⟨#[97]⟩ : ByteArray), (⟨#[]⟩ : ByteArray), (⟨#[]⟩ : ByteArray), 53, (⟨0, 0, 0, 0⟩ : S39), ([] : List Int)⟩ : S42) [.string (⟨#[97]⟩ : ByteArray), .string (⟨#[]⟩ : ByteArray), .string (⟨#[]⟩ : ByteArray), .int .u8 53, .int .i64 0, .int .i64 0, .int .i64 0, .int .i64 0, .slice none 0 0] from (k42_mkM _ _ _ (⟨(⟨#[97]⟩ : ByteArray), (⟨#[]⟩ : ByteArray), (⟨#[]⟩ : ByteArray), 53, (⟨0, 0, 0, 0⟩ : S39), ([] : List Int)⟩ : S42) (Kd.R_nil _ _ _ _ _))) (Reps.none _ _))); intro v111 w1 ho2 hb hg_ hnew_; clear hg_ hnew_; (first | rw [← Ny110.out] at ho2 | (simp only [Int.reduceToNat] at ho2; rw [← Ny110.out] at ho2)); have n0_ := A0_ (Kd.S_lower ho2 (below_size (wb_ HB.out))); have n1_ := A0_ (below_step (wb_ HB.out) hb); clear HB; have HO112 := n0_; have HB := n1_; clear n0_ n1_; clear hb ho2) | ((with_reducible refine gate_dst (N := 7) rfl ?_); refine Kd.S_lit k42 _ 42 ?hg (N := 7) ?hd (xs := ([(⟨(⟨#[97]⟩ : ByteArray), (⟨#[]⟩ : ByteArray), (⟨#[]⟩ : ByteArray), 53, (⟨1, 0, 0, 0⟩ : S39), ([] : List Int)⟩ : S42)] : List (S42))) (inner := [.string (⟨#[97]⟩ : ByteArray), .string (⟨#[]⟩ : ByteArray), .string (⟨#[]⟩ : ByteArray), .int .u8 53, .int .i64 1, .int .i64 0, .int .i64 0, .int .i64 0, .slice none 0 0]) (ok := fun _ => True) (okp := fun _ => True) ?hr ?hp (fun _ hk => hk) trivial (Below.refl _ _) (Nat.le_refl _) (by simp) ?_; (case hd => rfl); (case hg => rfl); (case hr => first | (go_simp; done) | (go_simp; rfl)); (case hp => exact (Reps.c9 (show Kd.M k42 _ _ _ (⟨(⟨#[97]⟩ : ByteArray), (⟨#[]⟩ : ByteArray), (⟨#[]⟩ : ByteArray), 53, (⟨1, 0, 0, 0⟩ : S39), ([] : List Int)⟩ : S42) [.string (⟨#[97]⟩ : ByteArray), .string (⟨#[]⟩ : ByteArray), .string (⟨#[]⟩ : ByteArray), .int .u8 53, .int .i64 1, .int .i64 0, .int .i64 0, .int .i64 0, .slice none 0 0] from (k42_mkM _ _ _ (⟨(⟨#[97]⟩ : ByteArray), (⟨#[]⟩ : ByteArray), (⟨#[]⟩ : ByteArray), 53, (⟨1, 0, 0, 0⟩ : S39), ([] : List Int)⟩ : S42) (Kd.R_nil _ _ _ _ _))) (Reps.none _ _))); intro v114 w3 ho4 hb hg_ hnew_; clear hg_ hnew_; (first | rw [← Ny113.out] at ho4 | (simp only [Int.reduceToNat] at ho4; rw [← Ny113.out] at ho4)); have n0_ := A0_ (Kd.S_elder' (wS_ HO112.out) (Kd.S_base ho4) hb); have n1_ := A0_ (Kd.S_lower (Kd.S_new' ho4 (Kd.S_lt (wS_ HO112.out))) (below_size (wb_ HB.out))); have n2_ := A0_ (below_step (wb_ HB.out) hb); clear HO112; clear HB; have HO112 := n0_; have HO115 := n1_; have HB := n2_; clear n0_ n1_ n2_; clear hb ho4))
 go_ret3
 exact ⟨_, _, _, we_, by (with_reducible repeat (first | apply Sa_ | apply SN_ | apply S1_)); exact Kd.S_mono HO112.out (fun _ hk => ⟨hk.2, (by simp [Value.ownBlock])⟩), by (with_reducible repeat (first | apply Sa_ | apply SN_ | apply S1_)); exact Kd.S_mono HO115.out (fun _ hk => ⟨hk.2, (by simp [Value.ownBlock])⟩), by first | exact Kd.S_nil _ _ _ _ _ | exact Kd.N_nil _ _ _ _ _ | exact Kd.V_nil _ _ _ _ _ | exact Kd.Q_nil _ _ _ _ _ | exact Kd.R_nil _ _ _ _ _, wb_ HB.out⟩
end Go.Proofs.YtbngbefchobfnaaGreatDoor.Print

namespace Go.Proofs.YtbngbefchobfnaaGreatDoor.Print
open Go.RowKit Go.Proofs.YtbngbefchobfnaaGreatDoorW.PrintWords Go.Proofs.YtbngbefchobfnaaGreatDoorW.PrintLast Go.Proofs.YtbngbefchobfnaaGreatDoorW.PrintMore
attribute [local go_sem] max2_int min2_int max_two min_two max_three min_three max_four min_four   -- for this text's walks alone
set_option linter.unusedVariables false
set_option linter.unusedSimpArgs false
def bindlelaw21_answers.f  : Option (Bool) := (bindlelaw21_three.f).bind fun bt116 => ((merge_Conflicts.f bt116.1 bt116.2.1 bt116.2.2).bind fun bt125 => ((merge_Merge.f bt116.1 bt116.2.1 bt116.2.2 1).bind fun bt129 => ((merge_Merge.f bt116.1 bt116.2.1 bt116.2.2 3).bind fun bt133 => ((merge_Merge.f bt116.1 bt116.1 bt116.2.1 3).bind fun bt137 => (if bt125.2 = 0 then (if (bt125.1.length : Int) = 1 then (if 0 < (bt125.1.length : Int) then (if (rdOf ByteArray.empty bt125.1 0).toList = ([97] : List UInt8) then (if bt129.2 = 0 then (if (bt129.1.length : Int) = 1 then (if 0 < (bt129.1.length : Int) then (if ((rd_T42 bt129.1 0).f4.f0) = 1 then (if bt133.2 = 11 then (if bt137.2 = 0 then (if (bt137.1.length : Int) = 1 then (if 0 < (bt137.1.length : Int) then (some (((rd_T42 bt137.1 0).f4.f0) == 1)) else (none)) else (some false)) else (some false)) else (some false)) else (some false)) else (none)) else (some false)) else (some false)) else (some false)) else (none)) else (some false)) else (some false))))))
theorem bindlelaw21_answers.val : bindlelaw21_answers.f = some true := by kernel_rfl
set_option maxHeartbeats 8000000 in
set_option maxRecDepth 100000 in
theorem bindlelaw21_answers.calls  (r : Bool) (w : World) (hT : Aside0 (Tabs w)) (h : bindlelaw21_answers.f  = some r) :
  Calls Tryz.prog 10 #[] w fun e w' => e = .returned (.bool r) ∧ Below w.heap.size w w' := by
 have hr_ : r = true := Option.some.inj (h.symm.trans bindlelaw21_answers.val)
 have HB := A0_ (Below.refl w.heap.size w)
 have H : ((bindlelaw21_three.f).bind fun bt116 => ((merge_Conflicts.f bt116.1 bt116.2.1 bt116.2.2).bind fun bt125 => ((merge_Merge.f bt116.1 bt116.2.1 bt116.2.2 1).bind fun bt129 => ((merge_Merge.f bt116.1 bt116.2.1 bt116.2.2 3).bind fun bt133 => ((merge_Merge.f bt116.1 bt116.1 bt116.2.1 3).bind fun bt137 => (if bt125.2 = 0 then (if (bt125.1.length : Int) = 1 then (if 0 < (bt125.1.length : Int) then (if (rdOf ByteArray.empty bt125.1 0).toList = ([97] : List UInt8) then (if bt129.2 = 0 then (if (bt129.1.length : Int) = 1 then (if 0 < (bt129.1.length : Int) then (if ((rd_T42 bt129.1 0).f4.f0) = 1 then (if bt133.2 = 11 then (if bt137.2 = 0 then (if (bt137.1.length : Int) = 1 then (if 0 < (bt137.1.length : Int) then (some (((rd_T42 bt137.1 0).f4.f0) == 1)) else (none)) else (some false)) else (some false)) else (some false)) else (some false)) else (none)) else (some false)) else (some false)) else (some false)) else (none)) else (some false)) else (some false))))))) = some r := h
 clear h
 replace H := Option.bind_eq_some_iff.mp H
 obtain ⟨⟨t116, t117, t118⟩, A10, H⟩ := H
 replace H : ((merge_Conflicts.f t116 t117 t118).bind fun bt125 => ((merge_Merge.f t116 t117 t118 1).bind fun bt129 => ((merge_Merge.f t116 t117 t118 3).bind fun bt133 => ((merge_Merge.f t116 t116 t117 3).bind fun bt137 => (if bt125.2 = 0 then (if (bt125.1.length : Int) = 1 then (if 0 < (bt125.1.length : Int) then (if (rdOf ByteArray.empty bt125.1 0).toList = ([97] : List UInt8) then (if bt129.2 = 0 then (if (bt129.1.length : Int) = 1 then (if 0 < (bt129.1.length : Int) then (if ((rd_T42 bt129.1 0).f4.f0) = 1 then (if bt133.2 = 11 then (if bt137.2 = 0 then (if (bt137.1.length : Int) = 1 then (if 0 < (bt137.1.length : Int) then (some (((rd_T42 bt137.1 0).f4.f0) == 1)) else (none)) else (some false)) else (some false)) else (some false)) else (some false)) else (none)) else (some false)) else (some false)) else (some false)) else (none)) else (some false)) else (some false)))))) = some r := H
 have A1 := A0_ A10
 clear A10
 replace H := Option.bind_eq_some_iff.mp H
 obtain ⟨⟨t125, t128⟩, A20, H⟩ := H
 replace H : ((merge_Merge.f t116 t117 t118 1).bind fun bt129 => ((merge_Merge.f t116 t117 t118 3).bind fun bt133 => ((merge_Merge.f t116 t116 t117 3).bind fun bt137 => (if t128 = 0 then (if (t125.length : Int) = 1 then (if 0 < (t125.length : Int) then (if (rdOf ByteArray.empty t125 0).toList = ([97] : List UInt8) then (if bt129.2 = 0 then (if (bt129.1.length : Int) = 1 then (if 0 < (bt129.1.length : Int) then (if ((rd_T42 bt129.1 0).f4.f0) = 1 then (if bt133.2 = 11 then (if bt137.2 = 0 then (if (bt137.1.length : Int) = 1 then (if 0 < (bt137.1.length : Int) then (some (((rd_T42 bt137.1 0).f4.f0) == 1)) else (none)) else (some false)) else (some false)) else (some false)) else (some false)) else (none)) else (some false)) else (some false)) else (some false)) else (none)) else (some false)) else (some false))))) = some r := H
 have A2 := A0_ A20
 clear A20
 replace H := Option.bind_eq_some_iff.mp H
 obtain ⟨⟨t129, t132⟩, A30, H⟩ := H
 replace H : ((merge_Merge.f t116 t117 t118 3).bind fun bt133 => ((merge_Merge.f t116 t116 t117 3).bind fun bt137 => (if t128 = 0 then (if (t125.length : Int) = 1 then (if 0 < (t125.length : Int) then (if (rdOf ByteArray.empty t125 0).toList = ([97] : List UInt8) then (if t132 = 0 then (if (t129.length : Int) = 1 then (if 0 < (t129.length : Int) then (if ((rd_T42 t129 0).f4.f0) = 1 then (if bt133.2 = 11 then (if bt137.2 = 0 then (if (bt137.1.length : Int) = 1 then (if 0 < (bt137.1.length : Int) then (some (((rd_T42 bt137.1 0).f4.f0) == 1)) else (none)) else (some false)) else (some false)) else (some false)) else (some false)) else (none)) else (some false)) else (some false)) else (some false)) else (none)) else (some false)) else (some false)))) = some r := H
 have A3 := A0_ A30
 clear A30
 replace H := Option.bind_eq_some_iff.mp H
 obtain ⟨⟨t133, t136⟩, A40, H⟩ := H
 replace H : ((merge_Merge.f t116 t116 t117 3).bind fun bt137 => (if t128 = 0 then (if (t125.length : Int) = 1 then (if 0 < (t125.length : Int) then (if (rdOf ByteArray.empty t125 0).toList = ([97] : List UInt8) then (if t132 = 0 then (if (t129.length : Int) = 1 then (if 0 < (t129.length : Int) then (if ((rd_T42 t129 0).f4.f0) = 1 then (if t136 = 11 then (if bt137.2 = 0 then (if (bt137.1.length : Int) = 1 then (if 0 < (bt137.1.length : Int) then (some (((rd_T42 bt137.1 0).f4.f0) == 1)) else (none)) else (some false)) else (some false)) else (some false)) else (some false)) else (none)) else (some false)) else (some false)) else (some false)) else (none)) else (some false)) else (some false))) = some r := H
 have A4 := A0_ A40
 clear A40
 replace H := Option.bind_eq_some_iff.mp H
 obtain ⟨⟨t137, t140⟩, A50, H⟩ := H
 replace H : (if t128 = 0 then (if (t125.length : Int) = 1 then (if 0 < (t125.length : Int) then (if (rdOf ByteArray.empty t125 0).toList = ([97] : List UInt8) then (if t132 = 0 then (if (t129.length : Int) = 1 then (if 0 < (t129.length : Int) then (if ((rd_T42 t129 0).f4.f0) = 1 then (if t136 = 11 then (if t140 = 0 then (if (t137.length : Int) = 1 then (if 0 < (t137.length : Int) then (some (((rd_T42 t137 0).f4.f0) == 1)) else (none)) else (some false)) else (some false)) else (some false)) else (some false)) else (none)) else (some false)) else (some false)) else (some false)) else (none)) else (some false)) else (some false)) = some r := H
 have A5 := A0_ A50
 clear A50
 by_cases c6 : t128 = 0
 rotate_left
 ·rw [if_neg c6] at H
  have c6b0 : (t128 == 0) = false := beq_eq_false_iff_ne.mpr c6
  have c6b1 : (t128 != 0) = true := bne_iff_ne.mpr c6
  exact absurd ((Option.some.inj H).trans hr_) (by decide)
 rw [if_pos c6] at H
 have c6b0 : (t128 == 0) = true := beq_iff_eq.mpr c6
 have c6b1 : (t128 != 0) = false := bne_eq_false_iff_eq.mpr c6
 clear c6
 by_cases c7 : (t125.length : Int) = 1
 rotate_left
 ·rw [if_neg c7] at H
  have c7b0 : ((t125.length : Int) == 1) = false := beq_eq_false_iff_ne.mpr c7
  have c7b1 : ((t125.length : Int) != 1) = true := bne_iff_ne.mpr c7
  exact absurd ((Option.some.inj H).trans hr_) (by decide)
 rw [if_pos c7] at H
 have c7b0 : ((t125.length : Int) == 1) = true := beq_iff_eq.mpr c7
 have c7b1 : ((t125.length : Int) != 1) = false := bne_eq_false_iff_eq.mpr c7
 clear c7
 by_cases c8 : 0 < (t125.length : Int)
 rotate_left
 ·rw [if_neg c8] at H
  exact absurd H (by simp)
 rw [if_pos c8] at H
 have c8b0 : decide (0 < (t125.length : Int)) = true := decide_eq_true c8
 have c8b1 : decide (0 < t125.length) = true := decide_eq_true (by omega)
 clear c8
 by_cases c9 : (rdOf ByteArray.empty t125 0).toList = ([97] : List UInt8)
 rotate_left
 ·rw [if_neg c9] at H
  have c9b0 : ((rdOf ByteArray.empty t125 0).toList == ([97] : List UInt8)) = false := beq_eq_false_iff_ne.mpr c9
  have c9b1 : ((rdOf ByteArray.empty t125 0).toList != ([97] : List UInt8)) = true := bne_iff_ne.mpr c9
  exact absurd ((Option.some.inj H).trans hr_) (by decide)
 rw [if_pos c9] at H
 have c9b0 : ((rdOf ByteArray.empty t125 0).toList == ([97] : List UInt8)) = true := beq_iff_eq.mpr c9
 have c9b1 : ((rdOf ByteArray.empty t125 0).toList != ([97] : List UInt8)) = false := bne_eq_false_iff_eq.mpr c9
 clear c9
 by_cases c10 : t132 = 0
 rotate_left
 ·rw [if_neg c10] at H
  have c10b0 : (t132 == 0) = false := beq_eq_false_iff_ne.mpr c10
  have c10b1 : (t132 != 0) = true := bne_iff_ne.mpr c10
  exact absurd ((Option.some.inj H).trans hr_) (by decide)
 rw [if_pos c10] at H
 have c10b0 : (t132 == 0) = true := beq_iff_eq.mpr c10
 have c10b1 : (t132 != 0) = false := bne_eq_false_iff_eq.mpr c10
 clear c10
 by_cases c11 : (t129.length : Int) = 1
 rotate_left
 ·rw [if_neg c11] at H
  have c11b0 : ((t129.length : Int) == 1) = false := beq_eq_false_iff_ne.mpr c11
  have c11b1 : ((t129.length : Int) != 1) = true := bne_iff_ne.mpr c11
  exact absurd ((Option.some.inj H).trans hr_) (by decide)
 rw [if_pos c11] at H
 have c11b0 : ((t129.length : Int) == 1) = true := beq_iff_eq.mpr c11
 have c11b1 : ((t129.length : Int) != 1) = false := bne_eq_false_iff_eq.mpr c11
 clear c11
 by_cases c12 : 0 < (t129.length : Int)
 rotate_left
 ·rw [if_neg c12] at H
  exact absurd H (by simp)
 rw [if_pos c12] at H
 have c12b0 : decide (0 < (t129.length : Int)) = true := decide_eq_true c12
 have c12b1 : decide (0 < t129.length) = true := decide_eq_true (by omega)
 clear c12
 by_cases c13 : ((rd_T42 t129 0).f4.f0) = 1
 rotate_left
 ·rw [if_neg c13] at H
  have c13b0 : (((rd_T42 t129 0).f4.f0) == 1) = false := beq_eq_false_iff_ne.mpr c13
  have c13b1 : (((rd_T42 t129 0).f4.f0) != 1) = true := bne_iff_ne.mpr c13
  exact absurd ((Option.some.inj H).trans hr_) (by decide)
 rw [if_pos c13] at H
 have c13b0 : (((rd_T42 t129 0).f4.f0) == 1) = true := beq_iff_eq.mpr c13
 have c13b1 : (((rd_T42 t129 0).f4.f0) != 1) = false := bne_eq_false_iff_eq.mpr c13
 clear c13
 by_cases c14 : t136 = 11
 rotate_left
 ·rw [if_neg c14] at H
  have c14b0 : (t136 == 11) = false := beq_eq_false_iff_ne.mpr c14
  have c14b1 : (t136 != 11) = true := bne_iff_ne.mpr c14
  exact absurd ((Option.some.inj H).trans hr_) (by decide)
 rw [if_pos c14] at H
 have c14b0 : (t136 == 11) = true := beq_iff_eq.mpr c14
 have c14b1 : (t136 != 11) = false := bne_eq_false_iff_eq.mpr c14
 clear c14
 by_cases c15 : t140 = 0
 rotate_left
 ·rw [if_neg c15] at H
  have c15b0 : (t140 == 0) = false := beq_eq_false_iff_ne.mpr c15
  have c15b1 : (t140 != 0) = true := bne_iff_ne.mpr c15
  exact absurd ((Option.some.inj H).trans hr_) (by decide)
 rw [if_pos c15] at H
 have c15b0 : (t140 == 0) = true := beq_iff_eq.mpr c15
 have c15b1 : (t140 != 0) = false := bne_eq_false_iff_eq.mpr c15
 clear c15
 by_cases c16 : (t137.length : Int) = 1
 rotate_left
 ·rw [if_neg c16] at H
  have c16b0 : ((t137.length : Int) == 1) = false := beq_eq_false_iff_ne.mpr c16
  have c16b1 : ((t137.length : Int) != 1) = true := bne_iff_ne.mpr c16
  exact absurd ((Option.some.inj H).trans hr_) (by decide)
 rw [if_pos c16] at H
 have c16b0 : ((t137.length : Int) == 1) = true := beq_iff_eq.mpr c16
 have c16b1 : ((t137.length : Int) != 1) = false := bne_eq_false_iff_eq.mpr c16
 clear c16
 by_cases c17 : 0 < (t137.length : Int)
 rotate_left
 ·rw [if_neg c17] at H
  exact absurd H (by simp)
 rw [if_pos c17] at H
 have c17b0 : decide (0 < (t137.length : Int)) = true := decide_eq_true c17
 have c17b1 : decide (0 < t137.length) = true := decide_eq_true (by omega)
 clear c17
 clear hr_
 obtain rfl := Option.some.inj H
 go_enter Tryz.func10, Tryz.ntmps10
 go_wp2_with (first | ((with_reducible refine gate_callee (f := 22) rfl ?_); refine goesL_ (some 13) rfl rfl Tryz.func22 (by kernel_rfl) rfl #[] rfl wm_ ?_; (with_reducible refine (bindlelaw21_three.calls  t116 t117 t118 _ A1.out).mono ?_); rintro e w18 ⟨v119, v121, v123, rfl, ho0, ho1, ho2, hb⟩; refine ⟨_, rfl, ?_⟩; have n0_ := A0_ (Kd.S_lower ho0 (below_size (wb_ HB.out))); have n1_ := A0_ (Kd.S_lower ho1 (below_size (wb_ HB.out))); have n2_ := A0_ (Kd.S_lower ho2 (below_size (wb_ HB.out))); have n3_ := A0_ (below_step (wb_ HB.out) hb); clear HB; have HO120 := n0_; have HO122 := n1_; have HO124 := n2_; have HB := n3_; clear n0_ n1_ n2_ n3_; (try clear hb); (try clear hb2); (try clear hk); (try clear hi); (try clear ho0); (try clear ho1); (try clear ho2); obtain ⟨Ao19, co19, eo19⟩ := Kd.S_slice HO120.out; subst eo19; obtain ⟨Ao20, co20, eo20⟩ := Kd.S_slice HO122.out; subst eo20; obtain ⟨Ao21, co21, eo21⟩ := Kd.S_slice HO124.out; subst eo21) | ((with_reducible refine gate_callee (f := 11) rfl ?_); refine goesL_ (some 21) rfl rfl Tryz.func11 (by kernel_rfl) rfl #[.slice Ao19 t116.length co19, .slice Ao20 t117.length co20, .slice Ao21 t118.length co21] rfl wm_ ?_; (with_reducible refine (merge_Conflicts.calls _ _ t116 _ _ t117 _ _ t118 t125 t128 _ ?side1 ?side2 ?side3 ?side4 ?side5 ?side6 ?side7 A2.out).mono ?_); (case side1 => exact A0_ (Tabs.below hT.out (wb_ HB.out))); (case side2 => exact wc_ (Kd.S_reads' HO120.out).2.2); (case side3 => exact (Kd.S_reads' HO120.out).2.1); (case side4 => exact wc_ (Kd.S_reads' HO122.out).2.2); (case side5 => exact (Kd.S_reads' HO122.out).2.1); (case side6 => exact wc_ (Kd.S_reads' HO124.out).2.2); (case side7 => exact (Kd.S_reads' HO124.out).2.1); rintro e w22 ⟨v126, rfl, ho0, hb⟩; refine ⟨_, rfl, ?_⟩; have n0_ := A0_ (Sb_ (wS_ HO120.out) hb); have n1_ := A0_ (Sb_ (wS_ HO122.out) hb); have n2_ := A0_ (Sb_ (wS_ HO124.out) hb); have n3_ := A0_ (Kd.V_lower (Kd.V_mono (ok' := fun k_ => some k_ ≠ (.slice Ao19 t116.length co19 : Value).ownBlock ∧ some k_ ≠ (.slice Ao20 t117.length co20 : Value).ownBlock ∧ some k_ ≠ (.slice Ao21 t118.length co21 : Value).ownBlock) ho0 (fun k_ hk_ => ⟨(Kd.fresh' (Kd.S_lt (wS_ HO120.out)) k_ hk_), (Kd.fresh' (Kd.S_lt (wS_ HO122.out)) k_ hk_), (Kd.fresh' (Kd.S_lt (wS_ HO124.out)) k_ hk_)⟩)) (below_size (wb_ HB.out))); have n4_ := A0_ (below_step (wb_ HB.out) hb); clear HO120; clear HO122; clear HO124; clear HB; have HO120 := n0_; have HO122 := n1_; have HO124 := n2_; have HO127 := n3_; have HB := n4_; clear n0_ n1_ n2_ n3_ n4_; (try clear hb); (try clear hb2); (try clear hk); (try clear hi); (try clear ho0)) | ((with_reducible refine gate_callee (f := 15) rfl ?_); refine goesL_ (some 28) rfl rfl Tryz.func15 (by kernel_rfl) rfl #[.slice Ao19 t116.length co19, .slice Ao20 t117.length co20, .slice Ao21 t118.length co21, .int .i64 1] rfl wm_ ?_; (with_reducible refine (merge_Merge.calls _ _ t116 _ _ t117 _ _ t118 1 t129 t132 _ ?side1 ?side2 ?side3 ?side4 ?side5 ?side6 ?side7 A3.out).mono ?_); (case side1 => exact A0_ (Tabs.below hT.out (wb_ HB.out))); (case side2 => exact wc_ (Kd.S_reads' HO120.out).2.2); (case side3 => exact (Kd.S_reads' HO120.out).2.1); (case side4 => exact wc_ (Kd.S_reads' HO122.out).2.2); (case side5 => exact (Kd.S_reads' HO122.out).2.1); (case side6 => exact wc_ (Kd.S_reads' HO124.out).2.2); (case side7 => exact (Kd.S_reads' HO124.out).2.1); rintro e w23 ⟨v130, rfl, ho0, hb⟩; refine ⟨_, rfl, ?_⟩; have n0_ := A0_ (Sb_ (wS_ HO120.out) hb); have n1_ := A0_ (Sb_ (wS_ HO122.out) hb); have n2_ := A0_ (Sb_ (wS_ HO124.out) hb); have n3_ := A0_ (Vb_ (wV_ HO127.out) hb); have n4_ := A0_ (Kd.V_lower (Kd.V_mono (ok' := fun k_ => some k_ ≠ (.slice Ao19 t116.length co19 : Value).ownBlock ∧ some k_ ≠ (.slice Ao20 t117.length co20 : Value).ownBlock ∧ some k_ ≠ (.slice Ao21 t118.length co21 : Value).ownBlock) ho0 (fun k_ hk_ => ⟨(Kd.fresh' (Kd.S_lt (wS_ HO120.out)) k_ hk_), (Kd.fresh' (Kd.S_lt (wS_ HO122.out)) k_ hk_), (Kd.fresh' (Kd.S_lt (wS_ HO124.out)) k_ hk_)⟩)) (below_size (wb_ HB.out))); have n5_ := A0_ (below_step (wb_ HB.out) hb); clear HO120; clear HO122; clear HO124; clear HO127; clear HB; have HO120 := n0_; have HO122 := n1_; have HO124 := n2_; have HO127 := n3_; have HO131 := n4_; have HB := n5_; clear n0_ n1_ n2_ n3_ n4_ n5_; (try clear hb); (try clear hb2); (try clear hk); (try clear hi); (try clear ho0)) | ((with_reducible refine gate_callee (f := 15) rfl ?_); refine goesL_ (some 35) rfl rfl Tryz.func15 (by kernel_rfl) rfl #[.slice Ao19 t116.length co19, .slice Ao20 t117.length co20, .slice Ao21 t118.length co21, .int .i64 3] rfl wm_ ?_; (with_reducible refine (merge_Merge.calls _ _ t116 _ _ t117 _ _ t118 3 t133 t136 _ ?side1 ?side2 ?side3 ?side4 ?side5 ?side6 ?side7 A4.out).mono ?_); (case side1 => exact A0_ (Tabs.below hT.out (wb_ HB.out))); (case side2 => exact wc_ (Kd.S_reads' HO120.out).2.2); (case side3 => exact (Kd.S_reads' HO120.out).2.1); (case side4 => exact wc_ (Kd.S_reads' HO122.out).2.2); (case side5 => exact (Kd.S_reads' HO122.out).2.1); (case side6 => exact wc_ (Kd.S_reads' HO124.out).2.2); (case side7 => exact (Kd.S_reads' HO124.out).2.1); rintro e w24 ⟨v134, rfl, ho0, hb⟩; refine ⟨_, rfl, ?_⟩; have n0_ := A0_ (Sb_ (wS_ HO120.out) hb); have n1_ := A0_ (Sb_ (wS_ HO122.out) hb); have n2_ := A0_ (Sb_ (wS_ HO124.out) hb); have n3_ := A0_ (Vb_ (wV_ HO127.out) hb); have n4_ := A0_ (Vb_ (wV_ HO131.out) hb); have n5_ := A0_ (Kd.V_lower (Kd.V_mono (ok' := fun k_ => some k_ ≠ (.slice Ao19 t116.length co19 : Value).ownBlock ∧ some k_ ≠ (.slice Ao20 t117.length co20 : Value).ownBlock ∧ some k_ ≠ (.slice Ao21 t118.length co21 : Value).ownBlock) ho0 (fun k_ hk_ => ⟨(Kd.fresh' (Kd.S_lt (wS_ HO120.out)) k_ hk_), (Kd.fresh' (Kd.S_lt (wS_ HO122.out)) k_ hk_), (Kd.fresh' (Kd.S_lt (wS_ HO124.out)) k_ hk_)⟩)) (below_size (wb_ HB.out))); have n6_ := A0_ (below_step (wb_ HB.out) hb); clear HO120; clear HO122; clear HO124; clear HO127; clear HO131; clear HB; have HO120 := n0_; have HO122 := n1_; have HO124 := n2_; have HO127 := n3_; have HO131 := n4_; have HO135 := n5_; have HB := n6_; clear n0_ n1_ n2_ n3_ n4_ n5_ n6_; (try clear hb); (try clear hb2); (try clear hk); (try clear hi); (try clear ho0)) | ((with_reducible refine gate_callee (f := 15) rfl ?_); refine goesL_ (some 42) rfl rfl Tryz.func15 (by kernel_rfl) rfl #[.slice Ao19 t116.length co19, .slice Ao19 t116.length co19, .slice Ao20 t117.length co20, .int .i64 3] rfl wm_ ?_; (with_reducible refine (merge_Merge.calls _ _ t116 _ _ t116 _ _ t117 3 t137 t140 _ ?side1 ?side2 ?side3 ?side4 ?side5 ?side6 ?side7 A5.out).mono ?_); (case side1 => exact A0_ (Tabs.below hT.out (wb_ HB.out))); (case side2 => exact wc_ (Kd.S_reads' HO120.out).2.2); (case side3 => exact (Kd.S_reads' HO120.out).2.1); (case side4 => exact wc_ (Kd.S_reads' HO120.out).2.2); (case side5 => exact (Kd.S_reads' HO120.out).2.1); (case side6 => exact wc_ (Kd.S_reads' HO122.out).2.2); (case side7 => exact (Kd.S_reads' HO122.out).2.1); rintro e w25 ⟨v138, rfl, ho0, hb⟩; refine ⟨_, rfl, ?_⟩; have n0_ := A0_ (Sb_ (wS_ HO120.out) hb); have n1_ := A0_ (Sb_ (wS_ HO122.out) hb); have n2_ := A0_ (Sb_ (wS_ HO124.out) hb); have n3_ := A0_ (Vb_ (wV_ HO127.out) hb); have n4_ := A0_ (Vb_ (wV_ HO131.out) hb); have n5_ := A0_ (Vb_ (wV_ HO135.out) hb); have n6_ := A0_ (Kd.V_lower (Kd.V_mono (ok' := fun k_ => some k_ ≠ (.slice Ao19 t116.length co19 : Value).ownBlock ∧ some k_ ≠ (.slice Ao20 t117.length co20 : Value).ownBlock ∧ some k_ ≠ (.slice Ao21 t118.length co21 : Value).ownBlock) ho0 (fun k_ hk_ => ⟨(Kd.fresh' (Kd.S_lt (wS_ HO120.out)) k_ hk_), (Kd.fresh' (Kd.S_lt (wS_ HO122.out)) k_ hk_), (Kd.fresh' (Kd.S_lt (wS_ HO124.out)) k_ hk_)⟩)) (below_size (wb_ HB.out))); have n7_ := A0_ (below_step (wb_ HB.out) hb); clear HO120; clear HO122; clear HO124; clear HO127; clear HO131; clear HO135; clear HB; have HO120 := n0_; have HO122 := n1_; have HO124 := n2_; have HO127 := n3_; have HO131 := n4_; have HO135 := n5_; have HO139 := n6_; have HB := n7_; clear n0_ n1_ n2_ n3_ n4_ n5_ n6_ n7_; (try clear hb); (try clear hb2); (try clear hk); (try clear hi); (try clear ho0); obtain ⟨Ao26, co26, eo26⟩ := Kd.V_slice HO127.out; subst eo26; have p141 : 0 ≤ (0 : Int) := (by omega); have q141 : 0 < (t125.length : Int) := wd_; obtain ⟨ad141, e141, hx141_0⟩ := Kd.at_string (Kd.V_reads' HO127.out).2.2 0 p141 q141; cases e141; have qi141 : (0 < t125.length) = True := eq_true (by omega); (try rw [show ((0 : Int)).toNat = 0 from rfl] at hx141_0); (try rw [Addr.add_zero'] at hx141_0); replace p141 := eq_true p141; replace q141 := eq_true q141; obtain ⟨Ao27, co27, eo27⟩ := Kd.V_slice HO131.out; subst eo27; have p142 : 0 ≤ (0 : Int) := (by omega); have q142 : 0 < (t129.length : Int) := wd_; obtain ⟨ad142, A142_8, c142_8, e142, hx142_0, hx142_1, hx142_2, hx142_3, hx142_4, hx142_5, hx142_6, hx142_7, hx142_8, hl142_8, hi142_8⟩ := at_T42 (Kd.V_reads' HO131.out).2.2 0 p142 q142; cases e142; obtain ⟨ce142, hce142, hMe142, hcc142⟩ := Kd.V_get HO131.out z42 0 p142 (by first | exact q142 | exact wd_ | (have e_ := (Kd.V_reads' HO131.out).1; omega)); obtain ⟨ua142_8, uc142_8, rfl, ul142_8, ge142_8⟩ := k42_openF hMe142; have hv142_8 := hcc142 8 _ rfl; rw [add_field _ _ 8 (by omega)] at hv142_8; replace hv142_8 := Option.some.inj (hv142_8.symm.trans hx142_8); injection hv142_8 with hva_ hvn_ hvc_; rw [hva_] at ge142_8; rw [hvc_] at ul142_8; have HL142_8 := A0_ (show Kd.V (Kd.int .u8) 5 _ w.heap.size _ _ ((rd_T42 t129 0).f5) from Kd.V_mk ul142_8 ge142_8); clear hva_ hvn_ hvc_ ge142_8 ul142_8; clear hcc142 hce142; have qi142 : (0 < t129.length) = True := eq_true (by omega); (try rw [show ((0 : Int)).toNat = 0 from rfl] at hx142_0); (try rw [show 0 * 9 = 0 from rfl] at hx142_0); (try rw [Addr.add_zero'] at hx142_0); (try rw [show ((0 : Int)).toNat = 0 from rfl] at hx142_1); (try rw [show 0 * 9 = 0 from rfl] at hx142_1); (try rw [Addr.add_zero'] at hx142_1); (try rw [show ((0 : Int)).toNat = 0 from rfl] at hx142_2); (try rw [show 0 * 9 = 0 from rfl] at hx142_2); (try rw [Addr.add_zero'] at hx142_2); (try rw [show ((0 : Int)).toNat = 0 from rfl] at hx142_3); (try rw [show 0 * 9 = 0 from rfl] at hx142_3); (try rw [Addr.add_zero'] at hx142_3); (try rw [show ((0 : Int)).toNat = 0 from rfl] at hx142_4); (try rw [show 0 * 9 = 0 from rfl] at hx142_4); (try rw [Addr.add_zero'] at hx142_4); (try rw [show ((0 : Int)).toNat = 0 from rfl] at hx142_5); (try rw [show 0 * 9 = 0 from rfl] at hx142_5); (try rw [Addr.add_zero'] at hx142_5); (try rw [show ((0 : Int)).toNat = 0 from rfl] at hx142_6); (try rw [show 0 * 9 = 0 from rfl] at hx142_6); (try rw [Addr.add_zero'] at hx142_6); (try rw [show ((0 : Int)).toNat = 0 from rfl] at hx142_7); (try rw [show 0 * 9 = 0 from rfl] at hx142_7); (try rw [Addr.add_zero'] at hx142_7); (try rw [show ((0 : Int)).toNat = 0 from rfl] at hx142_8); (try rw [show 0 * 9 = 0 from rfl] at hx142_8); (try rw [Addr.add_zero'] at hx142_8); have HR142_8 := A0_ hi142_8; have HC142_8 := A0_ hl142_8; clear hi142_8 hl142_8; replace p142 := eq_true p142; replace q142 := eq_true q142; obtain ⟨Ao28, co28, eo28⟩ := Kd.V_slice HO139.out; subst eo28; have p143 : 0 ≤ (0 : Int) := (by omega); have q143 : 0 < (t137.length : Int) := wd_; obtain ⟨ad143, A143_8, c143_8, e143, hx143_0, hx143_1, hx143_2, hx143_3, hx143_4, hx143_5, hx143_6, hx143_7, hx143_8, hl143_8, hi143_8⟩ := at_T42 (Kd.V_reads' HO139.out).2.2 0 p143 q143; cases e143; obtain ⟨ce143, hce143, hMe143, hcc143⟩ := Kd.V_get HO139.out z42 0 p143 (by first | exact q143 | exact wd_ | (have e_ := (Kd.V_reads' HO139.out).1; omega)); obtain ⟨ua143_8, uc143_8, rfl, ul143_8, ge143_8⟩ := k42_openF hMe143; have hv143_8 := hcc143 8 _ rfl; rw [add_field _ _ 8 (by omega)] at hv143_8; replace hv143_8 := Option.some.inj (hv143_8.symm.trans hx143_8); injection hv143_8 with hva_ hvn_ hvc_; rw [hva_] at ge143_8; rw [hvc_] at ul143_8; have HL143_8 := A0_ (show Kd.V (Kd.int .u8) 5 _ w.heap.size _ _ ((rd_T42 t137 0).f5) from Kd.V_mk ul143_8 ge143_8); clear hva_ hvn_ hvc_ ge143_8 ul143_8; clear hcc143 hce143; have qi143 : (0 < t137.length) = True := eq_true (by omega); (try rw [show ((0 : Int)).toNat = 0 from rfl] at hx143_0); (try rw [show 0 * 9 = 0 from rfl] at hx143_0); (try rw [Addr.add_zero'] at hx143_0); (try rw [show ((0 : Int)).toNat = 0 from rfl] at hx143_1); (try rw [show 0 * 9 = 0 from rfl] at hx143_1); (try rw [Addr.add_zero'] at hx143_1); (try rw [show ((0 : Int)).toNat = 0 from rfl] at hx143_2); (try rw [show 0 * 9 = 0 from rfl] at hx143_2); (try rw [Addr.add_zero'] at hx143_2); (try rw [show ((0 : Int)).toNat = 0 from rfl] at hx143_3); (try rw [show 0 * 9 = 0 from rfl] at hx143_3); (try rw [Addr.add_zero'] at hx143_3); (try rw [show ((0 : Int)).toNat = 0 from rfl] at hx143_4); (try rw [show 0 * 9 = 0 from rfl] at hx143_4); (try rw [Addr.add_zero'] at hx143_4); (try rw [show ((0 : Int)).toNat = 0 from rfl] at hx143_5); (try rw [show 0 * 9 = 0 from rfl] at hx143_5); (try rw [Addr.add_zero'] at hx143_5); (try rw [show ((0 : Int)).toNat = 0 from rfl] at hx143_6); (try rw [show 0 * 9 = 0 from rfl] at hx143_6); (try rw [Addr.add_zero'] at hx143_6); (try rw [show ((0 : Int)).toNat = 0 from rfl] at hx143_7); (try rw [show 0 * 9 = 0 from rfl] at hx143_7); (try rw [Addr.add_zero'] at hx143_7); (try rw [show ((0 : Int)).toNat = 0 from rfl] at hx143_8); (try rw [show 0 * 9 = 0 from rfl] at hx143_8); (try rw [Addr.add_zero'] at hx143_8); have HR143_8 := A0_ hi143_8; have HC143_8 := A0_ hl143_8; clear hi143_8 hl143_8; replace p143 := eq_true p143; replace q143 := eq_true q143))
 go_ret
 exact ⟨we_, wb_ HB.out⟩
end Go.Proofs.YtbngbefchobfnaaGreatDoor.Print

namespace Go.Proofs.YtbngbefchobfnaaGreatDoor.Print
open Go.RowKit Go.Proofs.YtbngbefchobfnaaGreatDoorW.PrintWords Go.Proofs.YtbngbefchobfnaaGreatDoorW.PrintLast Go.Proofs.YtbngbefchobfnaaGreatDoorW.PrintMore
attribute [local go_sem] max2_int min2_int max_two min_two max_three min_three max_four min_four   -- for this text's walks alone
set_option linter.unusedVariables false
set_option linter.unusedSimpArgs false
def bindlelaw21_good.f (k : Nat) (l0 : List (S42)) (l1 : List (S42)) (l2 : List (S42)) : Option (Bool) := (bindlelaw21_light.f k (([l0, l1, l2] : List (List (S42))))).bind fun t147 => (if t147 = true then ((bindleref08_GoodTree.f l0).bind fun t148 => (if t148 = true then ((bindleref08_GoodTree.f l1).bind fun t149 => (if t149 = true then ((bindleref08_GoodTree.f l2).bind fun t150 => (some t150)) else (some false))) else (some false))) else (some false))
set_option maxHeartbeats 8000000 in
set_option maxRecDepth 100000 in
theorem bindlelaw21_good.calls (k : Nat) (P0_ : Nat → Prop) (A0 : Option Addr) (c0 : Nat) (l0 : List (S42)) (P1_ : Nat → Prop) (A1 : Option Addr) (c1 : Nat) (l1 : List (S42)) (P2_ : Nat → Prop) (A2 : Option Addr) (c2 : Nat) (l2 : List (S42)) (r : Bool) (w : World) (hs0 : Kd.V k42 42 w w.heap.size (fun k_ => P0_ k_) (.slice A0 l0.length c0) l0) (hs1 : Kd.V k42 42 w w.heap.size (fun k_ => P1_ k_) (.slice A1 l1.length c1) l1) (hs2 : Kd.V k42 42 w w.heap.size (fun k_ => P2_ k_) (.slice A2 l2.length c2) l2) (h : bindlelaw21_good.f k l0 l1 l2 = some r) :
  Calls Tryz.prog 12 #[.slice A0 l0.length c0, .slice A1 l1.length c1, .slice A2 l2.length c2] w fun e w' => e = .returned (.bool r) ∧ Below w.heap.size w w' := by
 have HO0 := A0_ (show Kd.V k42 42 w w.heap.size (fun k_ => ((P0_ k_ ∨ P1_ k_ ∨ P2_ k_) ∨ w.heap.size ≤ k_)) (.slice A0 l0.length c0) l0 from Kd.V_mono hs0 (fun k_ hk => .inl (.inl hk)))
 have HO1 := A0_ (show Kd.V k42 42 w w.heap.size (fun k_ => ((P0_ k_ ∨ P1_ k_ ∨ P2_ k_) ∨ w.heap.size ≤ k_)) (.slice A1 l1.length c1) l1 from Kd.V_mono hs1 (fun k_ hk => .inl (.inr (.inl hk))))
 have HO2 := A0_ (show Kd.V k42 42 w w.heap.size (fun k_ => ((P0_ k_ ∨ P1_ k_ ∨ P2_ k_) ∨ w.heap.size ≤ k_)) (.slice A2 l2.length c2) l2 from Kd.V_mono hs2 (fun k_ hk => .inl (.inr (.inr hk))))
 have HB := A0_ (Below.refl w.heap.size w)
 have H : ((bindlelaw21_light.f k (([l0, l1, l2] : List (List (S42))))).bind fun t147 => (if t147 = true then ((bindleref08_GoodTree.f l0).bind fun t148 => (if t148 = true then ((bindleref08_GoodTree.f l1).bind fun t149 => (if t149 = true then ((bindleref08_GoodTree.f l2).bind fun t150 => (some t150)) else (some false))) else (some false))) else (some false))) = some r := h
 clear h
 obtain ⟨y144, hy144⟩ : ∃ y_ : List (List (S42)), y_ = (([l0, l1, l2] : List (List (S42)))) := ⟨_, rfl⟩
 replace H : ((bindlelaw21_light.f k y144).bind fun t147 => (if t147 = true then ((bindleref08_GoodTree.f l0).bind fun t148 => (if t148 = true then ((bindleref08_GoodTree.f l1).bind fun t149 => (if t149 = true then ((bindleref08_GoodTree.f l2).bind fun t150 => (some t150)) else (some false))) else (some false))) else (some false))) = some r := by first | (rw [hy144]; with_reducible exact H) | (have H2_ := (Option.bind_some _ _).symm.trans H; rw [hy144]; with_reducible exact H2_) | (have H2_ := (Option.bind_some _ _).symm.trans H; with_reducible exact H2_) | with_reducible exact H | (rw [hy144]; exact H) | exact H
 have Ny144 := A0_ hy144
 clear hy144
 replace H := Option.bind_eq_some_iff.mp H
 obtain ⟨t147, A40, H⟩ := H
 replace H : (if t147 = true then ((bindleref08_GoodTree.f l0).bind fun t148 => (if t148 = true then ((bindleref08_GoodTree.f l1).bind fun t149 => (if t149 = true then ((bindleref08_GoodTree.f l2).bind fun t150 => (some t150)) else (some false))) else (some false))) else (some false)) = some r := H
 have A4 := A0_ A40
 clear A40
 by_cases c5 : t147 = true
 rotate_left
 ·replace c5 := Bool.eq_false_iff.mpr c5
  subst c5
  have H1 : (some false) = some r := by rw [if_neg (show ¬ (false = true) by decide)] at H; exact H
  clear H
  have H := H1
  clear H1
  obtain rfl := Option.some.inj H
  go_enter Tryz.func12, Tryz.ntmps12
  go_wp2_with (first | ((with_reducible refine gate_dst (N := 10) rfl ?_); refine Kd.N_lit (Kd.slice 42 k42) _ 22 ?hg (N' := 10) ?hd (xs := ([l0, l1, l2] : List (List (S42)))) (inner := [.slice A0 l0.length c0, .slice A1 l1.length c1, .slice A2 l2.length c2]) (ok := (fun k_ => ((P0_ k_ ∨ P1_ k_ ∨ P2_ k_) ∨ w.heap.size ≤ k_))) (okp := (fun k_ => ((P0_ k_ ∨ P1_ k_ ∨ P2_ k_) ∨ w.heap.size ≤ k_))) ?hr ?hp (fun _ hk => hk) ((show ∀ k_, w.heap.size ≤ k_ → (fun k_ => ((P0_ k_ ∨ P1_ k_ ∨ P2_ k_) ∨ w.heap.size ≤ k_)) k_ from fun k_ hk => (.inr (Nat.le_trans (below_size (wb_ HB.out)) hk))) _ (Nat.le_refl _)) (Below.refl _ _) (Nat.le_refl _) (by simp) ?_; (case hd => rfl); (case hg => rfl); (case hr => first | (go_simp; done) | (go_simp; rfl)); (case hp => exact (Reps.one (show Kd.FK (Kd.slice 42 k42) _ _ l0 [.slice A0 l0.length c0] from (Kd.FK_slice_mk (Kd.V_reads' (Kd.V_mono (ok' := (fun k_ => ((P0_ k_ ∨ P1_ k_ ∨ P2_ k_) ∨ w.heap.size ≤ k_))) (HO0.out) (fun k_ hk => hk))).2.1 (Kd.V_F (Kd.V_mono (ok' := (fun k_ => ((P0_ k_ ∨ P1_ k_ ∨ P2_ k_) ∨ w.heap.size ≤ k_))) (HO0.out) (fun k_ hk => hk))))) (Reps.one (show Kd.FK (Kd.slice 42 k42) _ _ l1 [.slice A1 l1.length c1] from (Kd.FK_slice_mk (Kd.V_reads' (Kd.V_mono (ok' := (fun k_ => ((P0_ k_ ∨ P1_ k_ ∨ P2_ k_) ∨ w.heap.size ≤ k_))) (HO1.out) (fun k_ hk => hk))).2.1 (Kd.V_F (Kd.V_mono (ok' := (fun k_ => ((P0_ k_ ∨ P1_ k_ ∨ P2_ k_) ∨ w.heap.size ≤ k_))) (HO1.out) (fun k_ hk => hk))))) (Reps.one (show Kd.FK (Kd.slice 42 k42) _ _ l2 [.slice A2 l2.length c2] from (Kd.FK_slice_mk (Kd.V_reads' (Kd.V_mono (ok' := (fun k_ => ((P0_ k_ ∨ P1_ k_ ∨ P2_ k_) ∨ w.heap.size ≤ k_))) (HO2.out) (fun k_ hk => hk))).2.1 (Kd.V_F (Kd.V_mono (ok' := (fun k_ => ((P0_ k_ ∨ P1_ k_ ∨ P2_ k_) ∨ w.heap.size ≤ k_))) (HO2.out) (fun k_ hk => hk))))) (Reps.none _ _))))); intro v145 w26 ho27 hb hg_ hnew_; clear hg_ hnew_; (first | rw [← Ny144.out] at ho27 | (simp only [Int.reduceToNat] at ho27; rw [← Ny144.out] at ho27)); have n0_ := A0_ (Kd.V_elder' (wV_ HO0.out) (Kd.N_base ho27) hb); have n1_ := A0_ (Kd.V_elder' (wV_ HO1.out) (Kd.N_base ho27) hb); have n2_ := A0_ (Kd.V_elder' (wV_ HO2.out) (Kd.N_base ho27) hb); have n3_ := A0_ (Kd.N_lower ho27 (below_size (wb_ HB.out))); have n4_ := A0_ (below_step (wb_ HB.out) hb); clear HO0; clear HO1; clear HO2; clear HB; have HO0 := n0_; have HO1 := n1_; have HO2 := n2_; have HO146 := n3_; have HB := n4_; clear n0_ n1_ n2_ n3_ n4_; clear hb ho27; obtain ⟨Ao28, co28, eo28⟩ := Kd.N_slice HO146.out; subst eo28) | ((with_reducible refine gate_callee (f := 9) rfl ?_); refine goesL_ (some 11) rfl rfl Tryz.func9 (by kernel_rfl) rfl #[.slice Ao28 y144.length co28] rfl wm_ ?_; (with_reducible refine (bindlelaw21_light.calls k _ _ y144 false _ ?side1 ?side2 A4.out).mono ?_); (case side1 => exact wc_ (Kd.N_reads' HO146.out).2.2); (case side2 => exact (Kd.N_reads' HO146.out).2.1); rintro e w' ⟨rfl, ⟨nd, rfl⟩⟩; refine ⟨_, rfl, ?_⟩))
  go_ret
  exact ⟨we_, wb_ HB.out⟩
 subst c5
 have H1 : ((bindleref08_GoodTree.f l0).bind fun t148 => (if t148 = true then ((bindleref08_GoodTree.f l1).bind fun t149 => (if t149 = true then ((bindleref08_GoodTree.f l2).bind fun t150 => (some t150)) else (some false))) else (some false))) = some r := by rw [if_pos rfl] at H; exact H
 clear H
 have H := H1
 clear H1
 replace H := Option.bind_eq_some_iff.mp H
 obtain ⟨t148, A60, H⟩ := H
 replace H : (if t148 = true then ((bindleref08_GoodTree.f l1).bind fun t149 => (if t149 = true then ((bindleref08_GoodTree.f l2).bind fun t150 => (some t150)) else (some false))) else (some false)) = some r := H
 have A6 := A0_ A60
 clear A60
 by_cases c7 : t148 = true
 rotate_left
 ·replace c7 := Bool.eq_false_iff.mpr c7
  subst c7
  have H1 : (some false) = some r := by rw [if_neg (show ¬ (false = true) by decide)] at H; exact H
  clear H
  have H := H1
  clear H1
  obtain rfl := Option.some.inj H
  go_enter Tryz.func12, Tryz.ntmps12
  go_wp2_with (first | ((with_reducible refine gate_dst (N := 10) rfl ?_); refine Kd.N_lit (Kd.slice 42 k42) _ 22 ?hg (N' := 10) ?hd (xs := ([l0, l1, l2] : List (List (S42)))) (inner := [.slice A0 l0.length c0, .slice A1 l1.length c1, .slice A2 l2.length c2]) (ok := (fun k_ => ((P0_ k_ ∨ P1_ k_ ∨ P2_ k_) ∨ w.heap.size ≤ k_))) (okp := (fun k_ => ((P0_ k_ ∨ P1_ k_ ∨ P2_ k_) ∨ w.heap.size ≤ k_))) ?hr ?hp (fun _ hk => hk) ((show ∀ k_, w.heap.size ≤ k_ → (fun k_ => ((P0_ k_ ∨ P1_ k_ ∨ P2_ k_) ∨ w.heap.size ≤ k_)) k_ from fun k_ hk => (.inr (Nat.le_trans (below_size (wb_ HB.out)) hk))) _ (Nat.le_refl _)) (Below.refl _ _) (Nat.le_refl _) (by simp) ?_; (case hd => rfl); (case hg => rfl); (case hr => first | (go_simp; done) | (go_simp; rfl)); (case hp => exact (Reps.one (show Kd.FK (Kd.slice 42 k42) _ _ l0 [.slice A0 l0.length c0] from (Kd.FK_slice_mk (Kd.V_reads' (Kd.V_mono (ok' := (fun k_ => ((P0_ k_ ∨ P1_ k_ ∨ P2_ k_) ∨ w.heap.size ≤ k_))) (HO0.out) (fun k_ hk => hk))).2.1 (Kd.V_F (Kd.V_mono (ok' := (fun k_ => ((P0_ k_ ∨ P1_ k_ ∨ P2_ k_) ∨ w.heap.size ≤ k_))) (HO0.out) (fun k_ hk => hk))))) (Reps.one (show Kd.FK (Kd.slice 42 k42) _ _ l1 [.slice A1 l1.length c1] from (Kd.FK_slice_mk (Kd.V_reads' (Kd.V_mono (ok' := (fun k_ => ((P0_ k_ ∨ P1_ k_ ∨ P2_ k_) ∨ w.heap.size ≤ k_))) (HO1.out) (fun k_ hk => hk))).2.1 (Kd.V_F (Kd.V_mono (ok' := (fun k_ => ((P0_ k_ ∨ P1_ k_ ∨ P2_ k_) ∨ w.heap.size ≤ k_))) (HO1.out) (fun k_ hk => hk))))) (Reps.one (show Kd.FK (Kd.slice 42 k42) _ _ l2 [.slice A2 l2.length c2] from (Kd.FK_slice_mk (Kd.V_reads' (Kd.V_mono (ok' := (fun k_ => ((P0_ k_ ∨ P1_ k_ ∨ P2_ k_) ∨ w.heap.size ≤ k_))) (HO2.out) (fun k_ hk => hk))).2.1 (Kd.V_F (Kd.V_mono (ok' := (fun k_ => ((P0_ k_ ∨ P1_ k_ ∨ P2_ k_) ∨ w.heap.size ≤ k_))) (HO2.out) (fun k_ hk => hk))))) (Reps.none _ _))))); intro v145 w22 ho23 hb hg_ hnew_; clear hg_ hnew_; (first | rw [← Ny144.out] at ho23 | (simp only [Int.reduceToNat] at ho23; rw [← Ny144.out] at ho23)); have n0_ := A0_ (Kd.V_elder' (wV_ HO0.out) (Kd.N_base ho23) hb); have n1_ := A0_ (Kd.V_elder' (wV_ HO1.out) (Kd.N_base ho23) hb); have n2_ := A0_ (Kd.V_elder' (wV_ HO2.out) (Kd.N_base ho23) hb); have n3_ := A0_ (Kd.N_lower ho23 (below_size (wb_ HB.out))); have n4_ := A0_ (below_step (wb_ HB.out) hb); clear HO0; clear HO1; clear HO2; clear HB; have HO0 := n0_; have HO1 := n1_; have HO2 := n2_; have HO146 := n3_; have HB := n4_; clear n0_ n1_ n2_ n3_ n4_; clear hb ho23; obtain ⟨Ao24, co24, eo24⟩ := Kd.N_slice HO146.out; subst eo24) | ((with_reducible refine gate_callee (f := 9) rfl ?_); refine goesL_ (some 11) rfl rfl Tryz.func9 (by kernel_rfl) rfl #[.slice Ao24 y144.length co24] rfl wm_ ?_; (with_reducible refine (bindlelaw21_light.calls k _ _ y144 true _ ?side1 ?side2 A4.out).mono ?_); (case side1 => exact wc_ (Kd.N_reads' HO146.out).2.2); (case side2 => exact (Kd.N_reads' HO146.out).2.1); rintro e w' ⟨rfl, ⟨nd, rfl⟩⟩; refine ⟨_, rfl, ?_⟩) | (go_at_call 18; (with_reducible refine (bindleref08_GoodTree.calls _ _ l0 false _ ?side1 ?side2 A6.out).mono ?_); (case side1 => exact wc_ (Kd.V_reads' HO0.out).2.2); (case side2 => exact (Kd.V_reads' HO0.out).2.1); rintro e w25 ⟨rfl, hb⟩; have n0_ := A0_ (Vb_ (wV_ HO0.out) hb); have n1_ := A0_ (Vb_ (wV_ HO1.out) hb); have n2_ := A0_ (Vb_ (wV_ HO2.out) hb); have n3_ := A0_ (Kd.N_below (wN_ HO146.out) hb); have n4_ := A0_ (below_step (wb_ HB.out) hb); clear HO0; clear HO1; clear HO2; clear HO146; clear HB; have HO0 := n0_; have HO1 := n1_; have HO2 := n2_; have HO146 := n3_; have HB := n4_; clear n0_ n1_ n2_ n3_ n4_; (try clear hb); (try clear hb2); (try clear hk); (try clear hi)))
  go_ret
  exact ⟨we_, wb_ HB.out⟩
 subst c7
 have H1 : ((bindleref08_GoodTree.f l1).bind fun t149 => (if t149 = true then ((bindleref08_GoodTree.f l2).bind fun t150 => (some t150)) else (some false))) = some r := by rw [if_pos rfl] at H; exact H
 clear H
 have H := H1
 clear H1
 replace H := Option.bind_eq_some_iff.mp H
 obtain ⟨t149, A80, H⟩ := H
 replace H : (if t149 = true then ((bindleref08_GoodTree.f l2).bind fun t150 => (some t150)) else (some false)) = some r := H
 have A8 := A0_ A80
 clear A80
 by_cases c9 : t149 = true
 rotate_left
 ·replace c9 := Bool.eq_false_iff.mpr c9
  subst c9
  have H1 : (some false) = some r := by rw [if_neg (show ¬ (false = true) by decide)] at H; exact H
  clear H
  have H := H1
  clear H1
  obtain rfl := Option.some.inj H
  go_enter Tryz.func12, Tryz.ntmps12
  go_wp2_with (first | ((with_reducible refine gate_dst (N := 10) rfl ?_); refine Kd.N_lit (Kd.slice 42 k42) _ 22 ?hg (N' := 10) ?hd (xs := ([l0, l1, l2] : List (List (S42)))) (inner := [.slice A0 l0.length c0, .slice A1 l1.length c1, .slice A2 l2.length c2]) (ok := (fun k_ => ((P0_ k_ ∨ P1_ k_ ∨ P2_ k_) ∨ w.heap.size ≤ k_))) (okp := (fun k_ => ((P0_ k_ ∨ P1_ k_ ∨ P2_ k_) ∨ w.heap.size ≤ k_))) ?hr ?hp (fun _ hk => hk) ((show ∀ k_, w.heap.size ≤ k_ → (fun k_ => ((P0_ k_ ∨ P1_ k_ ∨ P2_ k_) ∨ w.heap.size ≤ k_)) k_ from fun k_ hk => (.inr (Nat.le_trans (below_size (wb_ HB.out)) hk))) _ (Nat.le_refl _)) (Below.refl _ _) (Nat.le_refl _) (by simp) ?_; (case hd => rfl); (case hg => rfl); (case hr => first | (go_simp; done) | (go_simp; rfl)); (case hp => exact (Reps.one (show Kd.FK (Kd.slice 42 k42) _ _ l0 [.slice A0 l0.length c0] from (Kd.FK_slice_mk (Kd.V_reads' (Kd.V_mono (ok' := (fun k_ => ((P0_ k_ ∨ P1_ k_ ∨ P2_ k_) ∨ w.heap.size ≤ k_))) (HO0.out) (fun k_ hk => hk))).2.1 (Kd.V_F (Kd.V_mono (ok' := (fun k_ => ((P0_ k_ ∨ P1_ k_ ∨ P2_ k_) ∨ w.heap.size ≤ k_))) (HO0.out) (fun k_ hk => hk))))) (Reps.one (show Kd.FK (Kd.slice 42 k42) _ _ l1 [.slice A1 l1.length c1] from (Kd.FK_slice_mk (Kd.V_reads' (Kd.V_mono (ok' := (fun k_ => ((P0_ k_ ∨ P1_ k_ ∨ P2_ k_) ∨ w.heap.size ≤ k_))) (HO1.out) (fun k_ hk => hk))).2.1 (Kd.V_F (Kd.V_mono (ok' := (fun k_ => ((P0_ k_ ∨ P1_ k_ ∨ P2_ k_) ∨ w.heap.size ≤ k_))) (HO1.out) (fun k_ hk => hk))))) (Reps.one (show Kd.FK (Kd.slice 42 k42) _ _ l2 [.slice A2 l2.length c2] from (Kd.FK_slice_mk (Kd.V_reads' (Kd.V_mono (ok' := (fun k_ => ((P0_ k_ ∨ P1_ k_ ∨ P2_ k_) ∨ w.heap.size ≤ k_))) (HO2.out) (fun k_ hk => hk))).2.1 (Kd.V_F (Kd.V_mono (ok' := (fun k_ => ((P0_ k_ ∨ P1_ k_ ∨ P2_ k_) ∨ w.heap.size ≤ k_))) (HO2.out) (fun k_ hk => hk))))) (Reps.none _ _))))); intro v145 w17 ho18 hb hg_ hnew_; clear hg_ hnew_; (first | rw [← Ny144.out] at ho18 | (simp only [Int.reduceToNat] at ho18; rw [← Ny144.out] at ho18)); have n0_ := A0_ (Kd.V_elder' (wV_ HO0.out) (Kd.N_base ho18) hb); have n1_ := A0_ (Kd.V_elder' (wV_ HO1.out) (Kd.N_base ho18) hb); have n2_ := A0_ (Kd.V_elder' (wV_ HO2.out) (Kd.N_base ho18) hb); have n3_ := A0_ (Kd.N_lower ho18 (below_size (wb_ HB.out))); have n4_ := A0_ (below_step (wb_ HB.out) hb); clear HO0; clear HO1; clear HO2; clear HB; have HO0 := n0_; have HO1 := n1_; have HO2 := n2_; have HO146 := n3_; have HB := n4_; clear n0_ n1_ n2_ n3_ n4_; clear hb ho18; obtain ⟨Ao19, co19, eo19⟩ := Kd.N_slice HO146.out; subst eo19) | ((with_reducible refine gate_callee (f := 9) rfl ?_); refine goesL_ (some 11) rfl rfl Tryz.func9 (by kernel_rfl) rfl #[.slice Ao19 y144.length co19] rfl wm_ ?_; (with_reducible refine (bindlelaw21_light.calls k _ _ y144 true _ ?side1 ?side2 A4.out).mono ?_); (case side1 => exact wc_ (Kd.N_reads' HO146.out).2.2); (case side2 => exact (Kd.N_reads' HO146.out).2.1); rintro e w' ⟨rfl, ⟨nd, rfl⟩⟩; refine ⟨_, rfl, ?_⟩) | (go_at_call 18; (with_reducible refine (bindleref08_GoodTree.calls _ _ l0 true _ ?side1 ?side2 A6.out).mono ?_); (case side1 => exact wc_ (Kd.V_reads' HO0.out).2.2); (case side2 => exact (Kd.V_reads' HO0.out).2.1); rintro e w20 ⟨rfl, hb⟩; have n0_ := A0_ (Vb_ (wV_ HO0.out) hb); have n1_ := A0_ (Vb_ (wV_ HO1.out) hb); have n2_ := A0_ (Vb_ (wV_ HO2.out) hb); have n3_ := A0_ (Kd.N_below (wN_ HO146.out) hb); have n4_ := A0_ (below_step (wb_ HB.out) hb); clear HO0; clear HO1; clear HO2; clear HO146; clear HB; have HO0 := n0_; have HO1 := n1_; have HO2 := n2_; have HO146 := n3_; have HB := n4_; clear n0_ n1_ n2_ n3_ n4_; (try clear hb); (try clear hb2); (try clear hk); (try clear hi)) | (go_at_call 18; (with_reducible refine (bindleref08_GoodTree.calls _ _ l1 false _ ?side1 ?side2 A8.out).mono ?_); (case side1 => exact wc_ (Kd.V_reads' HO1.out).2.2); (case side2 => exact (Kd.V_reads' HO1.out).2.1); rintro e w21 ⟨rfl, hb⟩; have n0_ := A0_ (Vb_ (wV_ HO0.out) hb); have n1_ := A0_ (Vb_ (wV_ HO1.out) hb); have n2_ := A0_ (Vb_ (wV_ HO2.out) hb); have n3_ := A0_ (Kd.N_below (wN_ HO146.out) hb); have n4_ := A0_ (below_step (wb_ HB.out) hb); clear HO0; clear HO1; clear HO2; clear HO146; clear HB; have HO0 := n0_; have HO1 := n1_; have HO2 := n2_; have HO146 := n3_; have HB := n4_; clear n0_ n1_ n2_ n3_ n4_; (try clear hb); (try clear hb2); (try clear hk); (try clear hi)))
  go_ret
  exact ⟨we_, wb_ HB.out⟩
 subst c9
 have H1 : ((bindleref08_GoodTree.f l2).bind fun t150 => (some t150)) = some r := by rw [if_pos rfl] at H; exact H
 clear H
 have H := H1
 clear H1
 replace H := Option.bind_eq_some_iff.mp H
 obtain ⟨t150, A100, H⟩ := H
 replace H : (some t150) = some r := H
 have A10 := A0_ A100
 clear A100
 obtain rfl := Option.some.inj H
 go_enter Tryz.func12, Tryz.ntmps12
 go_wp2_with (first | ((with_reducible refine gate_dst (N := 10) rfl ?_); refine Kd.N_lit (Kd.slice 42 k42) _ 22 ?hg (N' := 10) ?hd (xs := ([l0, l1, l2] : List (List (S42)))) (inner := [.slice A0 l0.length c0, .slice A1 l1.length c1, .slice A2 l2.length c2]) (ok := (fun k_ => ((P0_ k_ ∨ P1_ k_ ∨ P2_ k_) ∨ w.heap.size ≤ k_))) (okp := (fun k_ => ((P0_ k_ ∨ P1_ k_ ∨ P2_ k_) ∨ w.heap.size ≤ k_))) ?hr ?hp (fun _ hk => hk) ((show ∀ k_, w.heap.size ≤ k_ → (fun k_ => ((P0_ k_ ∨ P1_ k_ ∨ P2_ k_) ∨ w.heap.size ≤ k_)) k_ from fun k_ hk => (.inr (Nat.le_trans (below_size (wb_ HB.out)) hk))) _ (Nat.le_refl _)) (Below.refl _ _) (Nat.le_refl _) (by simp) ?_; (case hd => rfl); (case hg => rfl); (case hr => first | (go_simp; done) | (go_simp; rfl)); (case hp => exact (Reps.one (show Kd.FK (Kd.slice 42 k42) _ _ l0 [.slice A0 l0.length c0] from (Kd.FK_slice_mk (Kd.V_reads' (Kd.V_mono (ok' := (fun k_ => ((P0_ k_ ∨ P1_ k_ ∨ P2_ k_) ∨ w.heap.size ≤ k_))) (HO0.out) (fun k_ hk => hk))).2.1 (Kd.V_F (Kd.V_mono (ok' := (fun k_ => ((P0_ k_ ∨ P1_ k_ ∨ P2_ k_) ∨ w.heap.size ≤ k_))) (HO0.out) (fun k_ hk => hk))))) (Reps.one (show Kd.FK (Kd.slice 42 k42) _ _ l1 [.slice A1 l1.length c1] from (Kd.FK_slice_mk (Kd.V_reads' (Kd.V_mono (ok' := (fun k_ => ((P0_ k_ ∨ P1_ k_ ∨ P2_ k_) ∨ w.heap.size ≤ k_))) (HO1.out) (fun k_ hk => hk))).2.1 (Kd.V_F (Kd.V_mono (ok' := (fun k_ => ((P0_ k_ ∨ P1_ k_ ∨ P2_ k_) ∨ w.heap.size ≤ k_))) (HO1.out) (fun k_ hk => hk))))) (Reps.one (show Kd.FK (Kd.slice 42 k42) _ _ l2 [.slice A2 l2.length c2] from (Kd.FK_slice_mk (Kd.V_reads' (Kd.V_mono (ok' := (fun k_ => ((P0_ k_ ∨ P1_ k_ ∨ P2_ k_) ∨ w.heap.size ≤ k_))) (HO2.out) (fun k_ hk => hk))).2.1 (Kd.V_F (Kd.V_mono (ok' := (fun k_ => ((P0_ k_ ∨ P1_ k_ ∨ P2_ k_) ∨ w.heap.size ≤ k_))) (HO2.out) (fun k_ hk => hk))))) (Reps.none _ _))))); intro v145 w11 ho12 hb hg_ hnew_; clear hg_ hnew_; (first | rw [← Ny144.out] at ho12 | (simp only [Int.reduceToNat] at ho12; rw [← Ny144.out] at ho12)); have n0_ := A0_ (Kd.V_elder' (wV_ HO0.out) (Kd.N_base ho12) hb); have n1_ := A0_ (Kd.V_elder' (wV_ HO1.out) (Kd.N_base ho12) hb); have n2_ := A0_ (Kd.V_elder' (wV_ HO2.out) (Kd.N_base ho12) hb); have n3_ := A0_ (Kd.N_lower ho12 (below_size (wb_ HB.out))); have n4_ := A0_ (below_step (wb_ HB.out) hb); clear HO0; clear HO1; clear HO2; clear HB; have HO0 := n0_; have HO1 := n1_; have HO2 := n2_; have HO146 := n3_; have HB := n4_; clear n0_ n1_ n2_ n3_ n4_; clear hb ho12; obtain ⟨Ao13, co13, eo13⟩ := Kd.N_slice HO146.out; subst eo13) | ((with_reducible refine gate_callee (f := 9) rfl ?_); refine goesL_ (some 11) rfl rfl Tryz.func9 (by kernel_rfl) rfl #[.slice Ao13 y144.length co13] rfl wm_ ?_; (with_reducible refine (bindlelaw21_light.calls k _ _ y144 true _ ?side1 ?side2 A4.out).mono ?_); (case side1 => exact wc_ (Kd.N_reads' HO146.out).2.2); (case side2 => exact (Kd.N_reads' HO146.out).2.1); rintro e w' ⟨rfl, ⟨nd, rfl⟩⟩; refine ⟨_, rfl, ?_⟩) | (go_at_call 18; (with_reducible refine (bindleref08_GoodTree.calls _ _ l0 true _ ?side1 ?side2 A6.out).mono ?_); (case side1 => exact wc_ (Kd.V_reads' HO0.out).2.2); (case side2 => exact (Kd.V_reads' HO0.out).2.1); rintro e w14 ⟨rfl, hb⟩; have n0_ := A0_ (Vb_ (wV_ HO0.out) hb); have n1_ := A0_ (Vb_ (wV_ HO1.out) hb); have n2_ := A0_ (Vb_ (wV_ HO2.out) hb); have n3_ := A0_ (Kd.N_below (wN_ HO146.out) hb); have n4_ := A0_ (below_step (wb_ HB.out) hb); clear HO0; clear HO1; clear HO2; clear HO146; clear HB; have HO0 := n0_; have HO1 := n1_; have HO2 := n2_; have HO146 := n3_; have HB := n4_; clear n0_ n1_ n2_ n3_ n4_; (try clear hb); (try clear hb2); (try clear hk); (try clear hi)) | (go_at_call 18; (with_reducible refine (bindleref08_GoodTree.calls _ _ l1 true _ ?side1 ?side2 A8.out).mono ?_); (case side1 => exact wc_ (Kd.V_reads' HO1.out).2.2); (case side2 => exact (Kd.V_reads' HO1.out).2.1); rintro e w15 ⟨rfl, hb⟩; have n0_ := A0_ (Vb_ (wV_ HO0.out) hb); have n1_ := A0_ (Vb_ (wV_ HO1.out) hb); have n2_ := A0_ (Vb_ (wV_ HO2.out) hb); have n3_ := A0_ (Kd.N_below (wN_ HO146.out) hb); have n4_ := A0_ (below_step (wb_ HB.out) hb); clear HO0; clear HO1; clear HO2; clear HO146; clear HB; have HO0 := n0_; have HO1 := n1_; have HO2 := n2_; have HO146 := n3_; have HB := n4_; clear n0_ n1_ n2_ n3_ n4_; (try clear hb); (try clear hb2); (try clear hk); (try clear hi)) | (go_at_call 18; (with_reducible refine (bindleref08_GoodTree.calls _ _ l2 t150 _ ?side1 ?side2 A10.out).mono ?_); (case side1 => exact wc_ (Kd.V_reads' HO2.out).2.2); (case side2 => exact (Kd.V_reads' HO2.out).2.1); rintro e w16 ⟨rfl, hb⟩; have n0_ := A0_ (Vb_ (wV_ HO0.out) hb); have n1_ := A0_ (Vb_ (wV_ HO1.out) hb); have n2_ := A0_ (Vb_ (wV_ HO2.out) hb); have n3_ := A0_ (Kd.N_below (wN_ HO146.out) hb); have n4_ := A0_ (below_step (wb_ HB.out) hb); clear HO0; clear HO1; clear HO2; clear HO146; clear HB; have HO0 := n0_; have HO1 := n1_; have HO2 := n2_; have HO146 := n3_; have HB := n4_; clear n0_ n1_ n2_ n3_ n4_; (try clear hb); (try clear hb2); (try clear hk); (try clear hi)))
 go_ret
 exact ⟨we_, wb_ HB.out⟩
end Go.Proofs.YtbngbefchobfnaaGreatDoor.Print

namespace Go.Proofs.YtbngbefchobfnaaGreatDoor.Print
open Go.RowKit Go.Proofs.YtbngbefchobfnaaGreatDoorW.PrintWords Go.Proofs.YtbngbefchobfnaaGreatDoorW.PrintLast Go.Proofs.YtbngbefchobfnaaGreatDoorW.PrintMore
attribute [local go_sem] max2_int min2_int max_two min_two max_three min_three max_four min_four   -- for this text's walks alone
set_option linter.unusedVariables false
set_option linter.unusedSimpArgs false
def bindlelaw21_texts.l0 : Nat → List ByteArray → List ByteArray → Int → Option (Bool)
 | 0, _, _, _ => none
 | k + 1, x0, x1, x5 => if x5 < (x0.length : Int) then (if 0 ≤ x5 then (if x5 < (x1.length : Int) then (if (rdOf ByteArray.empty x0 x5).toList = (rdOf ByteArray.empty x1 x5).toList then (bindlelaw21_texts.l0 k x0 x1 (wrap64 (x5 + 1))) else (some false)) else (none)) else (none)) else (some true)
def bindlelaw21_texts.f (k : Nat) (l0 : List ByteArray) (l1 : List ByteArray) : Option (Bool) := if (l0.length : Int) = (l1.length : Int) then (bindlelaw21_texts.l0 k l0 l1 0) else (some false)
set_option maxHeartbeats 8000000 in
set_option maxRecDepth 100000 in
theorem bindlelaw21_texts.calls (k : Nat) (A0 : Option Addr) (c0 : Nat) (l0 : List ByteArray) (A1 : Option Addr) (c1 : Nat) (l1 : List ByteArray) (r : Bool) (w : World) (hr0 : Kd.C Kd.string w A0 l0.length l0) (hc0 : l0.length ≤ c0) (hr1 : Kd.C Kd.string w A1 l1.length l1) (hc1 : l1.length ≤ c1) (h : bindlelaw21_texts.f k l0 l1 = some r) :
  Calls Tryz.prog 13 #[.slice A0 l0.length c0, .slice A1 l1.length c1] w fun e w' => e = .returned (.bool r) ∧ Drawn0 w w' := by
 have HR0 := A0_ hr0
 have HC0 := A0_ hc0
 clear hr0 hc0
 have HR1 := A0_ hr1
 have HC1 := A0_ hc1
 clear hr1 hc1
 have H : (if (l0.length : Int) = (l1.length : Int) then (bindlelaw21_texts.l0 k l0 l1 0) else (some false)) = some r := h
 clear h
 by_cases c3 : (l0.length : Int) = (l1.length : Int)
 rotate_left
 ·rw [if_neg c3] at H
  have c3b0 : ((l0.length : Int) == (l1.length : Int)) = false := beq_eq_false_iff_ne.mpr c3
  have c3b1 : ((l0.length : Int) != (l1.length : Int)) = true := bne_iff_ne.mpr c3
  have c3b2 : (l0.length == l1.length) = false := by first | simpa using c3 | (simp at c3 ⊢; omega)
  obtain rfl := Option.some.inj H
  go_enter Tryz.func13, Tryz.ntmps13
  go_wp2
  repeat (go_quiet (fail); try go_wp2)
  go_ret
  exact ⟨by first | rfl | (simp; done) | (simp [*]; done), by repeat (first | exact Drawn0.refl _ | apply Drawn0.step)⟩
 rw [if_pos c3] at H
 have c3b0 : ((l0.length : Int) == (l1.length : Int)) = true := beq_iff_eq.mpr c3
 have c3b1 : ((l0.length : Int) != (l1.length : Int)) = false := bne_eq_false_iff_eq.mpr c3
 have c3b2 : (l0.length == l1.length) = true := by first | simpa using c3 | (simp at c3 ⊢; omega)
 clear c3
 have H' := A0_ H
 clear H
 go_enter Tryz.func13, Tryz.ntmps13
 go_wp2
 repeat (go_quiet (fail); try go_wp2)
 go_loopg [5] k (fun kq v5 w' => ∃ (x5_1 : Int), v5 = .int .i64 x5_1 ∧ Aside0 (bindlelaw21_texts.l0 kq l0 l1 x5_1 = some r) ∧ Aside0 (kq ≤ k) ∧ Drawn0 w w')
 case atStart => exact ⟨(0), wr_, H', ⟨Nat.le_refl _⟩, by repeat (first | exact Drawn0.refl _ | apply Drawn0.step)⟩
 case round =>
  clear H'
  try clear c1
  try clear p2
  try clear c3
  try clear c3b0
  try clear c3b1
  try clear c3b2
  obtain ⟨x5_1, rfl, HA, HK1, ⟨m1, rfl⟩⟩ := hrel
  cases gk with
  | zero => exact absurd HA.out (by simp [bindlelaw21_texts.l0])
  | succ k1 =>
   have H := HA.out
   clear HA
   simp only [bindlelaw21_texts.l0] at H
   by_cases c4 : x5_1 < (l0.length : Int)
   rotate_left
   ·rw [if_neg c4] at H
    have c4b0 : decide (x5_1 < (l0.length : Int)) = false := decide_eq_false c4
    clear c4
    obtain rfl := Option.some.inj H
    go_wp2
    repeat (go_quiet (fail); try go_wp2)
    go_ret
    exact ⟨by first | rfl | (simp; done) | (simp [*]; done), by repeat (first | exact Drawn0.refl _ | apply Drawn0.step)⟩
   rw [if_pos c4] at H
   have c4b0 : decide (x5_1 < (l0.length : Int)) = true := decide_eq_true c4
   clear c4
   by_cases c5 : 0 ≤ x5_1
   rotate_left
   ·rw [if_neg c5] at H
    exact absurd H (by simp)
   rw [if_pos c5] at H
   have c5b0 : decide (0 ≤ x5_1) = true := decide_eq_true c5
   clear c5
   by_cases c6 : x5_1 < (l1.length : Int)
   rotate_left
   ·rw [if_neg c6] at H
    exact absurd H (by simp)
   rw [if_pos c6] at H
   have c6b0 : decide (x5_1 < (l1.length : Int)) = true := decide_eq_true c6
   clear c6
   by_cases c7 : (rdOf ByteArray.empty l0 x5_1).toList = (rdOf ByteArray.empty l1 x5_1).toList
   rotate_left
   ·rw [if_neg c7] at H
    have c7b0 : ((rdOf ByteArray.empty l0 x5_1).toList == (rdOf ByteArray.empty l1 x5_1).toList) = false := beq_eq_false_iff_ne.mpr c7
    have c7b1 : ((rdOf ByteArray.empty l0 x5_1).toList != (rdOf ByteArray.empty l1 x5_1).toList) = true := bne_iff_ne.mpr c7
    obtain rfl := Option.some.inj H
    have p151 : 0 ≤ (x5_1 : Int) := wd_
    have q151 : x5_1 < (l0.length : Int) := wd_
    obtain ⟨ad151, e151, hx151_0⟩ := Kd.at_string HR0.out x5_1 p151 q151
    cases e151
    replace p151 := eq_true p151
    replace q151 := eq_true q151
    have p152 : 0 ≤ (x5_1 : Int) := wd_
    have q152 : x5_1 < (l1.length : Int) := wd_
    obtain ⟨ad152, e152, hx152_0⟩ := Kd.at_string HR1.out x5_1 p152 q152
    cases e152
    replace p152 := eq_true p152
    replace q152 := eq_true q152
    go_wp2
    repeat (go_quiet (fail); try go_wp2)
    go_ret
    exact ⟨by first | rfl | (simp; done) | (simp [*]; done), by repeat (first | exact Drawn0.refl _ | apply Drawn0.step)⟩
   rw [if_pos c7] at H
   have c7b0 : ((rdOf ByteArray.empty l0 x5_1).toList == (rdOf ByteArray.empty l1 x5_1).toList) = true := beq_iff_eq.mpr c7
   have c7b1 : ((rdOf ByteArray.empty l0 x5_1).toList != (rdOf ByteArray.empty l1 x5_1).toList) = false := bne_eq_false_iff_eq.mpr c7
   clear c7
   have H' := A0_ H
   clear H
   have p151 : 0 ≤ (x5_1 : Int) := wd_
   have q151 : x5_1 < (l0.length : Int) := wd_
   obtain ⟨ad151, e151, hx151_0⟩ := Kd.at_string HR0.out x5_1 p151 q151
   cases e151
   replace p151 := eq_true p151
   replace q151 := eq_true q151
   have p152 : 0 ≤ (x5_1 : Int) := wd_
   have q152 : x5_1 < (l1.length : Int) := wd_
   obtain ⟨ad152, e152, hx152_0⟩ := Kd.at_string HR1.out x5_1 p152 q152
   cases e152
   replace p152 := eq_true p152
   replace q152 := eq_true q152
   go_wp2
   repeat (go_quiet (fail); try go_wp2)
   go_roundg k1
   case measure => have := HK1.out; omega
   case rel => exact ⟨(wrap64 (x5_1 + 1)), wr_, H', ⟨by have := HK1.out; omega⟩, by repeat (first | exact Drawn0.refl _ | apply Drawn0.step)⟩
end Go.Proofs.YtbngbefchobfnaaGreatDoor.Print

namespace Go.Proofs.YtbngbefchobfnaaGreatDoor.Print
open Go.RowKit Go.Proofs.YtbngbefchobfnaaGreatDoorW.PrintWords Go.Proofs.YtbngbefchobfnaaGreatDoorW.PrintLast Go.Proofs.YtbngbefchobfnaaGreatDoorW.PrintMore
attribute [local go_sem] max2_int min2_int max_two min_two max_three min_three max_four min_four   -- for this text's walks alone
set_option linter.unusedVariables false
set_option linter.unusedSimpArgs false
end Go.Proofs.YtbngbefchobfnaaGreatDoor.Print

namespace Go.Proofs.YtbngbefchobfnaaGreatDoor.Print
open Go.RowKit Go.Proofs.YtbngbefchobfnaaGreatDoorW.PrintWords Go.Proofs.YtbngbefchobfnaaGreatDoorW.PrintLast Go.Proofs.YtbngbefchobfnaaGreatDoorW.PrintMore
attribute [local go_sem] max2_int min2_int max_two min_two max_three min_three max_four min_four   -- for this text's walks alone
set_option linter.unusedVariables false
set_option linter.unusedSimpArgs false
abbrev q6_0 : Array Bool := #[false, false, false, false, false, false, false, false, false, false]
abbrev q6_1 : Array Bool := #[true, false, false, false, false, false, false, false, false, false]
abbrev q6_2 : Array Bool := #[true, true, false, false, false, false, false, false, false, false]
abbrev q6_3 : Array Bool := #[true, true, true, false, false, false, false, false, false, false]
abbrev q6_4 : Array Bool := #[true, true, true, false, true, false, false, false, false, false]
abbrev q6_5 : Array Bool := #[true, true, true, false, true, true, false, false, false, false]
abbrev q6_6 : Array Bool := #[true, true, true, false, true, true, true, false, false, false]
abbrev q6_7 : Array Bool := #[true, true, true, true, true, true, true, false, false, false]
abbrev q6_8 : Array Bool := #[true, true, true, true, true, true, true, true, false, false]
abbrev q6_9 : Array Bool := #[true, true, true, true, true, true, true, true, true, false]
abbrev q6_10 : Array Bool := #[true, true, true, true, true, true, true, true, true, true]
def bindlelaw21_MergeSides.l0 : Nat → List (S42) → List (S42) → List ByteArray → List ByteArray → Int → Option (Bool)
 | 0, _, _, _, _, _ => none
 | k + 1, x7, x9, x11, x13, x15 => if x15 < (x7.length : Int) then (if 0 ≤ x15 then (if x15 < (x9.length : Int) then ((bindleref08_Equal.f ((rd_T42 x7 x15).f0) ((rd_T42 x7 x15).f1) ((rd_T42 x7 x15).f2) ((rd_T42 x7 x15).f3) ((rd_T42 x7 x15).f4.f0) ((rd_T42 x7 x15).f4.f1) ((rd_T42 x7 x15).f4.f2) ((rd_T42 x7 x15).f4.f3) ((rd_T42 x7 x15).f5) ((rd_T42 x9 x15).f0) ((rd_T42 x9 x15).f1) ((rd_T42 x9 x15).f2) ((rd_T42 x9 x15).f3) ((rd_T42 x9 x15).f4.f0) ((rd_T42 x9 x15).f4.f1) ((rd_T42 x9 x15).f4.f2) ((rd_T42 x9 x15).f4.f3) ((rd_T42 x9 x15).f5)).bind fun t446 => (if t446 = true then (bindlelaw21_MergeSides.l0 k x7 x9 x11 x13 (wrap64 (x15 + 1))) else (some false))) else (none)) else (none)) else ((bindlelaw21_answers.f).bind fun t447 => (if t447 = true then ((bindlelaw21_texts.f k x11 x13).bind fun t448 => (some t448)) else (some false)))
def bindlelaw21_MergeSides.f (k : Nat) (l0 : List (S42)) (l1 : List (S42)) (l2 : List (S42)) : Option (Bool) := (bindlelaw21_good.f k l0 l1 l2).bind fun t426 => (if t426 = true then ((merge_Merge.f l0 l1 l2 1).bind fun bt428 => ((merge_Merge.f l0 l2 l1 2).bind fun bt432 => ((merge_Conflicts.f l0 l1 l2).bind fun bt436 => ((merge_Conflicts.f l0 l2 l1).bind fun bt440 => (if (bt428.1.length : Int) = (bt432.1.length : Int) then (bindlelaw21_MergeSides.l0 k bt428.1 bt432.1 bt436.1 bt440.1 0) else (some false)))))) else ((bindlelaw21_answers.f).bind fun t427 => (some t427)))
def bindlelaw21_MergeSides.T12 : Bool × List (List Nat × List Nat) := (true, [([], []), ([], []), ([0, 1], [0, 1]), ([2], [2]), ([], []), ([], []), ([4, 5], [4, 5]), ([6], [6]), ([3, 7], [3, 7]), ([8], [8])])
def bindlelaw21_MergeSides.B12 : List Nat := [0, 0, 3, 7, 0, 0, 48, 112, 255, 511]
theorem bindlelaw21_MergeSides.tab12 : rtab .any (opsOf Tryz.f6 12) = bindlelaw21_MergeSides.T12 := by kernel_rfl
theorem bindlelaw21_MergeSides.bits12 : waitsOk bindlelaw21_MergeSides.T12.2 bindlelaw21_MergeSides.B12 = true := by kernel_rfl
set_option maxHeartbeats 8000000 in
set_option maxRecDepth 100000 in
theorem bindlelaw21_MergeSides.calls (k : Nat) (A0 : Option Addr) (c0 : Nat) (l0 : List (S42)) (A1 : Option Addr) (c1 : Nat) (l1 : List (S42)) (A2 : Option Addr) (c2 : Nat) (l2 : List (S42)) (r : Bool) (w : World) (hT : Aside0 (Tabs w)) (hr0 : Kd.C k42 w A0 l0.length l0) (hc0 : l0.length ≤ c0) (hr1 : Kd.C k42 w A1 l1.length l1) (hc1 : l1.length ≤ c1) (hr2 : Kd.C k42 w A2 l2.length l2) (hc2 : l2.length ≤ c2) (h : bindlelaw21_MergeSides.f k l0 l1 l2 = some r) :
  Calls Tryz.prog 6 #[.slice A0 l0.length c0, .slice A1 l1.length c1, .slice A2 l2.length c2] w fun e w' => e = .returned (.bool r) ∧ Below w.heap.size w w' := by
 have hu42 := Tryz.underlying42
 have HR0 := A0_ hr0
 have HC0 := A0_ hc0
 clear hr0 hc0
 have HR1 := A0_ hr1
 have HC1 := A0_ hc1
 clear hr1 hc1
 have HR2 := A0_ hr2
 have HC2 := A0_ hc2
 clear hr2 hc2
 have HB := A0_ (Below.refl w.heap.size w)
 have H : ((bindlelaw21_good.f k l0 l1 l2).bind fun t426 => (if t426 = true then ((merge_Merge.f l0 l1 l2 1).bind fun bt428 => ((merge_Merge.f l0 l2 l1 2).bind fun bt432 => ((merge_Conflicts.f l0 l1 l2).bind fun bt436 => ((merge_Conflicts.f l0 l2 l1).bind fun bt440 => (if (bt428.1.length : Int) = (bt432.1.length : Int) then (bindlelaw21_MergeSides.l0 k bt428.1 bt432.1 bt436.1 bt440.1 0) else (some false)))))) else ((bindlelaw21_answers.f).bind fun t427 => (some t427)))) = some r := h
 clear h
 replace H := Option.bind_eq_some_iff.mp H
 obtain ⟨t426, A40, H⟩ := H
 replace H : (if t426 = true then ((merge_Merge.f l0 l1 l2 1).bind fun bt428 => ((merge_Merge.f l0 l2 l1 2).bind fun bt432 => ((merge_Conflicts.f l0 l1 l2).bind fun bt436 => ((merge_Conflicts.f l0 l2 l1).bind fun bt440 => (if (bt428.1.length : Int) = (bt432.1.length : Int) then (bindlelaw21_MergeSides.l0 k bt428.1 bt432.1 bt436.1 bt440.1 0) else (some false)))))) else ((bindlelaw21_answers.f).bind fun t427 => (some t427))) = some r := H
 have A4 := A0_ A40
 clear A40
 by_cases c5 : t426 = true
 rotate_left
 ·replace c5 := Bool.eq_false_iff.mpr c5
  subst c5
  have H1 : ((bindlelaw21_answers.f).bind fun t427 => (some t427)) = some r := by rw [if_neg (show ¬ (false = true) by decide)] at H; exact H
  clear H
  have H := H1
  clear H1
  replace H := Option.bind_eq_some_iff.mp H
  obtain ⟨t427, A410, H⟩ := H
  replace H : (some t427) = some r := H
  have A41 := A0_ A410
  clear A410
  obtain rfl := Option.some.inj H
  go_enter Tryz.func6, Tryz.ntmps6
  go_wp2_with (first | ((with_reducible refine gate_callee (f := 12) rfl ?_); refine goesL_ (some 19) rfl rfl Tryz.func12 (by kernel_rfl) rfl #[.slice A0 l0.length c0, .slice A1 l1.length c1, .slice A2 l2.length c2] rfl wm_ ?_; (with_reducible refine (bindlelaw21_good.calls k (fun k_ => k_ < w.heap.size) _ _ l0 (fun k_ => k_ < w.heap.size) _ _ l1 (fun k_ => k_ < w.heap.size) _ _ l2 false _ ?side1 ?side2 ?side3 A4.out).mono ?_); (case side1 => exact Kd.V_mk HC0.out (Kd.F_below (Kd.C_F k42_heap HR0.out) (wb_ HB.out))); (case side2 => exact Kd.V_mk HC1.out (Kd.F_below (Kd.C_F k42_heap HR1.out) (wb_ HB.out))); (case side3 => exact Kd.V_mk HC2.out (Kd.F_below (Kd.C_F k42_heap HR2.out) (wb_ HB.out))); rintro e w42 ⟨rfl, hb⟩; refine ⟨_, rfl, ?_⟩; have n0_ := A0_ (below_step (wb_ HB.out) hb); clear HB; have HB := n0_; clear n0_; (try clear hb); (try clear hb2); (try clear hk); (try clear hi)) | ((with_reducible refine gate_callee (f := 10) rfl ?_); refine goesL_ (some 21) rfl rfl Tryz.func10 (by kernel_rfl) rfl #[] rfl wm_ ?_; (with_reducible refine (bindlelaw21_answers.calls  t427 _ ?side1 A41.out).mono ?_); (case side1 => exact A0_ (Tabs.below hT.out (wb_ HB.out))); rintro e w43 ⟨rfl, hb⟩; refine ⟨_, rfl, ?_⟩; have n0_ := A0_ (below_step (wb_ HB.out) hb); clear HB; have HB := n0_; clear n0_; (try clear hb); (try clear hb2); (try clear hk); (try clear hi)))
  go_ret
  exact ⟨we_, wb_ HB.out⟩
 subst c5
 have H1 : ((merge_Merge.f l0 l1 l2 1).bind fun bt428 => ((merge_Merge.f l0 l2 l1 2).bind fun bt432 => ((merge_Conflicts.f l0 l1 l2).bind fun bt436 => ((merge_Conflicts.f l0 l2 l1).bind fun bt440 => (if (bt428.1.length : Int) = (bt432.1.length : Int) then (bindlelaw21_MergeSides.l0 k bt428.1 bt432.1 bt436.1 bt440.1 0) else (some false)))))) = some r := by rw [if_pos rfl] at H; exact H
 clear H
 have H := H1
 clear H1
 replace H := Option.bind_eq_some_iff.mp H
 obtain ⟨⟨t428, t431⟩, A60, H⟩ := H
 replace H : ((merge_Merge.f l0 l2 l1 2).bind fun bt432 => ((merge_Conflicts.f l0 l1 l2).bind fun bt436 => ((merge_Conflicts.f l0 l2 l1).bind fun bt440 => (if (t428.length : Int) = (bt432.1.length : Int) then (bindlelaw21_MergeSides.l0 k t428 bt432.1 bt436.1 bt440.1 0) else (some false))))) = some r := H
 have A6 := A0_ A60
 clear A60
 replace H := Option.bind_eq_some_iff.mp H
 obtain ⟨⟨t432, t435⟩, A70, H⟩ := H
 replace H : ((merge_Conflicts.f l0 l1 l2).bind fun bt436 => ((merge_Conflicts.f l0 l2 l1).bind fun bt440 => (if (t428.length : Int) = (t432.length : Int) then (bindlelaw21_MergeSides.l0 k t428 t432 bt436.1 bt440.1 0) else (some false)))) = some r := H
 have A7 := A0_ A70
 clear A70
 replace H := Option.bind_eq_some_iff.mp H
 obtain ⟨⟨t436, t439⟩, A80, H⟩ := H
 replace H : ((merge_Conflicts.f l0 l2 l1).bind fun bt440 => (if (t428.length : Int) = (t432.length : Int) then (bindlelaw21_MergeSides.l0 k t428 t432 t436 bt440.1 0) else (some false))) = some r := H
 have A8 := A0_ A80
 clear A80
 replace H := Option.bind_eq_some_iff.mp H
 obtain ⟨⟨t440, t443⟩, A90, H⟩ := H
 replace H : (if (t428.length : Int) = (t432.length : Int) then (bindlelaw21_MergeSides.l0 k t428 t432 t436 t440 0) else (some false)) = some r := H
 have A9 := A0_ A90
 clear A90
 by_cases c10 : (t428.length : Int) = (t432.length : Int)
 rotate_left
 ·rw [if_neg c10] at H
  have c10b0 : ((t428.length : Int) == (t432.length : Int)) = false := beq_eq_false_iff_ne.mpr c10
  have c10b1 : ((t428.length : Int) != (t432.length : Int)) = true := bne_iff_ne.mpr c10
  have c10b2 : (t428.length == t432.length) = false := by first | simpa using c10 | (simp at c10 ⊢; omega)
  obtain rfl := Option.some.inj H
  go_enter Tryz.func6, Tryz.ntmps6
  go_wp2_with (first | ((with_reducible refine gate_callee (f := 12) rfl ?_); refine goesL_ (some 19) rfl rfl Tryz.func12 (by kernel_rfl) rfl #[.slice A0 l0.length c0, .slice A1 l1.length c1, .slice A2 l2.length c2] rfl wm_ ?_; (with_reducible refine (bindlelaw21_good.calls k (fun k_ => k_ < w.heap.size) _ _ l0 (fun k_ => k_ < w.heap.size) _ _ l1 (fun k_ => k_ < w.heap.size) _ _ l2 true _ ?side1 ?side2 ?side3 A4.out).mono ?_); (case side1 => exact Kd.V_mk HC0.out (Kd.F_below (Kd.C_F k42_heap HR0.out) (wb_ HB.out))); (case side2 => exact Kd.V_mk HC1.out (Kd.F_below (Kd.C_F k42_heap HR1.out) (wb_ HB.out))); (case side3 => exact Kd.V_mk HC2.out (Kd.F_below (Kd.C_F k42_heap HR2.out) (wb_ HB.out))); rintro e w34 ⟨rfl, hb⟩; refine ⟨_, rfl, ?_⟩; have n0_ := A0_ (below_step (wb_ HB.out) hb); clear HB; have HB := n0_; clear n0_; (try clear hb); (try clear hb2); (try clear hk); (try clear hi)) | ((with_reducible refine gate_callee (f := 15) rfl ?_); refine goesL_ (some 26) rfl rfl Tryz.func15 (by kernel_rfl) rfl #[.slice A0 l0.length c0, .slice A1 l1.length c1, .slice A2 l2.length c2, .int .i64 1] rfl wm_ ?_; (with_reducible refine (merge_Merge.calls _ _ l0 _ _ l1 _ _ l2 1 t428 t431 _ ?side1 ?side2 ?side3 ?side4 ?side5 ?side6 ?side7 A6.out).mono ?_); (case side1 => exact A0_ (Tabs.below hT.out (wb_ HB.out))); (case side2 => exact wc_ (Kd.C_below HR0.out HB.out)); (case side3 => exact HC0.out); (case side4 => exact wc_ (Kd.C_below HR1.out HB.out)); (case side5 => exact HC1.out); (case side6 => exact wc_ (Kd.C_below HR2.out HB.out)); (case side7 => exact HC2.out); rintro e w35 ⟨v429, rfl, ho0, hb⟩; refine ⟨_, rfl, ?_⟩; have n0_ := A0_ (Kd.V_lower (Kd.V_mono (ok' := fun k_ => True) ho0 (fun k_ hk_ => trivial)) (below_size (wb_ HB.out))); have n1_ := A0_ (below_step (wb_ HB.out) hb); clear HB; have HO430 := n0_; have HB := n1_; clear n0_ n1_; (try clear hb); (try clear hb2); (try clear hk); (try clear hi); (try clear ho0)) | ((with_reducible refine gate_callee (f := 15) rfl ?_); refine goesL_ (some 33) rfl rfl Tryz.func15 (by kernel_rfl) rfl #[.slice A0 l0.length c0, .slice A2 l2.length c2, .slice A1 l1.length c1, .int .i64 2] rfl wm_ ?_; (with_reducible refine (merge_Merge.calls _ _ l0 _ _ l2 _ _ l1 2 t432 t435 _ ?side1 ?side2 ?side3 ?side4 ?side5 ?side6 ?side7 A7.out).mono ?_); (case side1 => exact A0_ (Tabs.below hT.out (wb_ HB.out))); (case side2 => exact wc_ (Kd.C_below HR0.out HB.out)); (case side3 => exact HC0.out); (case side4 => exact wc_ (Kd.C_below HR2.out HB.out)); (case side5 => exact HC2.out); (case side6 => exact wc_ (Kd.C_below HR1.out HB.out)); (case side7 => exact HC1.out); rintro e w36 ⟨v433, rfl, ho0, hb⟩; refine ⟨_, rfl, ?_⟩; have n0_ := A0_ (Vb_ (wV_ HO430.out) hb); have n1_ := A0_ (Kd.V_lower (Kd.V_mono (ok' := fun k_ => True) ho0 (fun k_ hk_ => trivial)) (below_size (wb_ HB.out))); have n2_ := A0_ (below_step (wb_ HB.out) hb); clear HO430; clear HB; have HO430 := n0_; have HO434 := n1_; have HB := n2_; clear n0_ n1_ n2_; (try clear hb); (try clear hb2); (try clear hk); (try clear hi); (try clear ho0)) | ((with_reducible refine gate_callee (f := 11) rfl ?_); refine goesL_ (some 40) rfl rfl Tryz.func11 (by kernel_rfl) rfl #[.slice A0 l0.length c0, .slice A1 l1.length c1, .slice A2 l2.length c2] rfl wm_ ?_; (with_reducible refine (merge_Conflicts.calls _ _ l0 _ _ l1 _ _ l2 t436 t439 _ ?side1 ?side2 ?side3 ?side4 ?side5 ?side6 ?side7 A8.out).mono ?_); (case side1 => exact A0_ (Tabs.below hT.out (wb_ HB.out))); (case side2 => exact wc_ (Kd.C_below HR0.out HB.out)); (case side3 => exact HC0.out); (case side4 => exact wc_ (Kd.C_below HR1.out HB.out)); (case side5 => exact HC1.out); (case side6 => exact wc_ (Kd.C_below HR2.out HB.out)); (case side7 => exact HC2.out); rintro e w37 ⟨v437, rfl, ho0, hb⟩; refine ⟨_, rfl, ?_⟩; have n0_ := A0_ (Vb_ (wV_ HO430.out) hb); have n1_ := A0_ (Vb_ (wV_ HO434.out) hb); have n2_ := A0_ (Kd.V_lower (Kd.V_mono (ok' := fun k_ => True) ho0 (fun k_ hk_ => trivial)) (below_size (wb_ HB.out))); have n3_ := A0_ (below_step (wb_ HB.out) hb); clear HO430; clear HO434; clear HB; have HO430 := n0_; have HO434 := n1_; have HO438 := n2_; have HB := n3_; clear n0_ n1_ n2_ n3_; (try clear hb); (try clear hb2); (try clear hk); (try clear hi); (try clear ho0)) | ((with_reducible refine gate_callee (f := 11) rfl ?_); refine goesL_ (some 47) rfl rfl Tryz.func11 (by kernel_rfl) rfl #[.slice A0 l0.length c0, .slice A2 l2.length c2, .slice A1 l1.length c1] rfl wm_ ?_; (with_reducible refine (merge_Conflicts.calls _ _ l0 _ _ l2 _ _ l1 t440 t443 _ ?side1 ?side2 ?side3 ?side4 ?side5 ?side6 ?side7 A9.out).mono ?_); (case side1 => exact A0_ (Tabs.below hT.out (wb_ HB.out))); (case side2 => exact wc_ (Kd.C_below HR0.out HB.out)); (case side3 => exact HC0.out); (case side4 => exact wc_ (Kd.C_below HR2.out HB.out)); (case side5 => exact HC2.out); (case side6 => exact wc_ (Kd.C_below HR1.out HB.out)); (case side7 => exact HC1.out); rintro e w38 ⟨v441, rfl, ho0, hb⟩; refine ⟨_, rfl, ?_⟩; have n0_ := A0_ (Vb_ (wV_ HO430.out) hb); have n1_ := A0_ (Vb_ (wV_ HO434.out) hb); have n2_ := A0_ (Vb_ (wV_ HO438.out) hb); have n3_ := A0_ (Kd.V_lower (Kd.V_mono (ok' := fun k_ => True) ho0 (fun k_ hk_ => trivial)) (below_size (wb_ HB.out))); have n4_ := A0_ (below_step (wb_ HB.out) hb); clear HO430; clear HO434; clear HO438; clear HB; have HO430 := n0_; have HO434 := n1_; have HO438 := n2_; have HO442 := n3_; have HB := n4_; clear n0_ n1_ n2_ n3_ n4_; (try clear hb); (try clear hb2); (try clear hk); (try clear hi); (try clear ho0); obtain ⟨Ao39, co39, eo39⟩ := Kd.V_slice HO430.out; subst eo39; obtain ⟨Ao40, co40, eo40⟩ := Kd.V_slice HO434.out; subst eo40))
  go_ret
  exact ⟨we_, wb_ HB.out⟩
 rw [if_pos c10] at H
 have c10b0 : ((t428.length : Int) == (t432.length : Int)) = true := beq_iff_eq.mpr c10
 have c10b1 : ((t428.length : Int) != (t432.length : Int)) = false := bne_eq_false_iff_eq.mpr c10
 have c10b2 : (t428.length == t432.length) = true := by first | simpa using c10 | (simp at c10 ⊢; omega)
 clear c10
 have H' := A0_ H
 clear H
 go_enter Tryz.func6, Tryz.ntmps6
 go_wp2_with (first | ((with_reducible refine gate_callee (f := 12) rfl ?_); refine goesL_ (some 19) rfl rfl Tryz.func12 (by kernel_rfl) rfl #[.slice A0 l0.length c0, .slice A1 l1.length c1, .slice A2 l2.length c2] rfl wm_ ?_; (with_reducible refine (bindlelaw21_good.calls k (fun k_ => k_ < w.heap.size) _ _ l0 (fun k_ => k_ < w.heap.size) _ _ l1 (fun k_ => k_ < w.heap.size) _ _ l2 true _ ?side1 ?side2 ?side3 A4.out).mono ?_); (case side1 => exact Kd.V_mk HC0.out (Kd.F_below (Kd.C_F k42_heap HR0.out) (wb_ HB.out))); (case side2 => exact Kd.V_mk HC1.out (Kd.F_below (Kd.C_F k42_heap HR1.out) (wb_ HB.out))); (case side3 => exact Kd.V_mk HC2.out (Kd.F_below (Kd.C_F k42_heap HR2.out) (wb_ HB.out))); rintro e w11 ⟨rfl, hb⟩; refine ⟨_, rfl, ?_⟩; have n0_ := A0_ (below_step (wb_ HB.out) hb); clear HB; have HB := n0_; clear n0_; (try clear hb); (try clear hb2); (try clear hk); (try clear hi)) | ((with_reducible refine gate_callee (f := 15) rfl ?_); refine goesL_ (some 26) rfl rfl Tryz.func15 (by kernel_rfl) rfl #[.slice A0 l0.length c0, .slice A1 l1.length c1, .slice A2 l2.length c2, .int .i64 1] rfl wm_ ?_; (with_reducible refine (merge_Merge.calls _ _ l0 _ _ l1 _ _ l2 1 t428 t431 _ ?side1 ?side2 ?side3 ?side4 ?side5 ?side6 ?side7 A6.out).mono ?_); (case side1 => exact A0_ (Tabs.below hT.out (wb_ HB.out))); (case side2 => exact wc_ (Kd.C_below HR0.out HB.out)); (case side3 => exact HC0.out); (case side4 => exact wc_ (Kd.C_below HR1.out HB.out)); (case side5 => exact HC1.out); (case side6 => exact wc_ (Kd.C_below HR2.out HB.out)); (case side7 => exact HC2.out); rintro e w12 ⟨v429, rfl, ho0, hb⟩; refine ⟨_, rfl, ?_⟩; have n0_ := A0_ (Kd.V_lower (Kd.V_mono (ok' := fun k_ => True) ho0 (fun k_ hk_ => trivial)) (below_size (wb_ HB.out))); have n1_ := A0_ (below_step (wb_ HB.out) hb); clear HB; have HO430 := n0_; have HB := n1_; clear n0_ n1_; (try clear hb); (try clear hb2); (try clear hk); (try clear hi); (try clear ho0)) | ((with_reducible refine gate_callee (f := 15) rfl ?_); refine goesL_ (some 33) rfl rfl Tryz.func15 (by kernel_rfl) rfl #[.slice A0 l0.length c0, .slice A2 l2.length c2, .slice A1 l1.length c1, .int .i64 2] rfl wm_ ?_; (with_reducible refine (merge_Merge.calls _ _ l0 _ _ l2 _ _ l1 2 t432 t435 _ ?side1 ?side2 ?side3 ?side4 ?side5 ?side6 ?side7 A7.out).mono ?_); (case side1 => exact A0_ (Tabs.below hT.out (wb_ HB.out))); (case side2 => exact wc_ (Kd.C_below HR0.out HB.out)); (case side3 => exact HC0.out); (case side4 => exact wc_ (Kd.C_below HR2.out HB.out)); (case side5 => exact HC2.out); (case side6 => exact wc_ (Kd.C_below HR1.out HB.out)); (case side7 => exact HC1.out); rintro e w13 ⟨v433, rfl, ho0, hb⟩; refine ⟨_, rfl, ?_⟩; have n0_ := A0_ (Vb_ (wV_ HO430.out) hb); have n1_ := A0_ (Kd.V_lower (Kd.V_mono (ok' := fun k_ => True) ho0 (fun k_ hk_ => trivial)) (below_size (wb_ HB.out))); have n2_ := A0_ (below_step (wb_ HB.out) hb); clear HO430; clear HB; have HO430 := n0_; have HO434 := n1_; have HB := n2_; clear n0_ n1_ n2_; (try clear hb); (try clear hb2); (try clear hk); (try clear hi); (try clear ho0)) | ((with_reducible refine gate_callee (f := 11) rfl ?_); refine goesL_ (some 40) rfl rfl Tryz.func11 (by kernel_rfl) rfl #[.slice A0 l0.length c0, .slice A1 l1.length c1, .slice A2 l2.length c2] rfl wm_ ?_; (with_reducible refine (merge_Conflicts.calls _ _ l0 _ _ l1 _ _ l2 t436 t439 _ ?side1 ?side2 ?side3 ?side4 ?side5 ?side6 ?side7 A8.out).mono ?_); (case side1 => exact A0_ (Tabs.below hT.out (wb_ HB.out))); (case side2 => exact wc_ (Kd.C_below HR0.out HB.out)); (case side3 => exact HC0.out); (case side4 => exact wc_ (Kd.C_below HR1.out HB.out)); (case side5 => exact HC1.out); (case side6 => exact wc_ (Kd.C_below HR2.out HB.out)); (case side7 => exact HC2.out); rintro e w14 ⟨v437, rfl, ho0, hb⟩; refine ⟨_, rfl, ?_⟩; have n0_ := A0_ (Vb_ (wV_ HO430.out) hb); have n1_ := A0_ (Vb_ (wV_ HO434.out) hb); have n2_ := A0_ (Kd.V_lower (Kd.V_mono (ok' := fun k_ => True) ho0 (fun k_ hk_ => trivial)) (below_size (wb_ HB.out))); have n3_ := A0_ (below_step (wb_ HB.out) hb); clear HO430; clear HO434; clear HB; have HO430 := n0_; have HO434 := n1_; have HO438 := n2_; have HB := n3_; clear n0_ n1_ n2_ n3_; (try clear hb); (try clear hb2); (try clear hk); (try clear hi); (try clear ho0)) | ((with_reducible refine gate_callee (f := 11) rfl ?_); refine goesL_ (some 47) rfl rfl Tryz.func11 (by kernel_rfl) rfl #[.slice A0 l0.length c0, .slice A2 l2.length c2, .slice A1 l1.length c1] rfl wm_ ?_; (with_reducible refine (merge_Conflicts.calls _ _ l0 _ _ l2 _ _ l1 t440 t443 _ ?side1 ?side2 ?side3 ?side4 ?side5 ?side6 ?side7 A9.out).mono ?_); (case side1 => exact A0_ (Tabs.below hT.out (wb_ HB.out))); (case side2 => exact wc_ (Kd.C_below HR0.out HB.out)); (case side3 => exact HC0.out); (case side4 => exact wc_ (Kd.C_below HR2.out HB.out)); (case side5 => exact HC2.out); (case side6 => exact wc_ (Kd.C_below HR1.out HB.out)); (case side7 => exact HC1.out); rintro e w15 ⟨v441, rfl, ho0, hb⟩; refine ⟨_, rfl, ?_⟩; have n0_ := A0_ (Vb_ (wV_ HO430.out) hb); have n1_ := A0_ (Vb_ (wV_ HO434.out) hb); have n2_ := A0_ (Vb_ (wV_ HO438.out) hb); have n3_ := A0_ (Kd.V_lower (Kd.V_mono (ok' := fun k_ => True) ho0 (fun k_ hk_ => trivial)) (below_size (wb_ HB.out))); have n4_ := A0_ (below_step (wb_ HB.out) hb); clear HO430; clear HO434; clear HO438; clear HB; have HO430 := n0_; have HO434 := n1_; have HO438 := n2_; have HO442 := n3_; have HB := n4_; clear n0_ n1_ n2_ n3_ n4_; (try clear hb); (try clear hb2); (try clear hk); (try clear hi); (try clear ho0); obtain ⟨Ao16, co16, eo16⟩ := Kd.V_slice HO430.out; subst eo16; obtain ⟨Ao17, co17, eo17⟩ := Kd.V_slice HO434.out; subst eo17))
 go_loopg [15] k (fun kq v15 w' => ∃ (x15_1 : Int), v15 = .int .i64 x15_1 ∧ Aside0 (bindlelaw21_MergeSides.l0 kq t428 t432 t436 t440 x15_1 = some r) ∧ Aside0 (kq ≤ k) ∧ Aside0 (Kd.V k42 42 w' w.heap.size (fun _ => True) (.slice Ao16 t428.length co16) t428) ∧ Aside0 (Kd.V k42 42 w' w.heap.size (fun _ => True) (.slice Ao17 t432.length co17) t432) ∧ Aside0 (Kd.V Kd.string 9 w' w.heap.size (fun _ => True) v437 t436) ∧ Aside0 (Kd.V Kd.string 9 w' w.heap.size (fun _ => True) v441 t440) ∧ Aside0 (Below w.heap.size w w'))
 case atStart => exact ⟨(0), wr_, H', ⟨Nat.le_refl _⟩, ⟨wV_ HO430.out⟩, ⟨wV_ HO434.out⟩, ⟨wV_ HO438.out⟩, ⟨wV_ HO442.out⟩, ⟨wb_ HB.out⟩⟩
 case round =>
  clear H'
  try clear c1
  try clear c2
  try clear p2
  try clear c5
  try clear c6
  try clear c10
  try clear c10b0
  try clear c10b1
  try clear c10b2
  try clear c11
  try clear c12
  try clear c15
  obtain ⟨x15_1, rfl, HA, HK1, HO_7, HO_9, HO_11, HO_13, HB⟩ := hrel
  cases gk with
  | zero => exact absurd HA.out (by simp [bindlelaw21_MergeSides.l0])
  | succ k1 =>
   have H := HA.out
   clear HA
   simp only [bindlelaw21_MergeSides.l0] at H
   by_cases c18 : x15_1 < (t428.length : Int)
   rotate_left
   ·rw [if_neg c18] at H
    have c18b0 : decide (x15_1 < (t428.length : Int)) = false := decide_eq_false c18
    clear c18
    replace H := Option.bind_eq_some_iff.mp H
    obtain ⟨t447, A270, H⟩ := H
    replace H : (if t447 = true then ((bindlelaw21_texts.f k1 t436 t440).bind fun t448 => (some t448)) else (some false)) = some r := H
    have A27 := A0_ A270
    clear A270
    by_cases c28 : t447 = true
    rotate_left
    ·replace c28 := Bool.eq_false_iff.mpr c28
     subst c28
     have H1 : (some false) = some r := by rw [if_neg (show ¬ (false = true) by decide)] at H; exact H
     clear H
     have H := H1
     clear H1
     obtain rfl := Option.some.inj H
     go_wp2_with (first | ((with_reducible refine gate_callee (f := 10) rfl ?_); refine goesL_ (some 71) rfl rfl Tryz.func10 (by kernel_rfl) rfl #[] rfl wm_ ?_; (with_reducible refine (bindlelaw21_answers.calls  false _ ?side1 A27.out).mono ?_); (case side1 => exact A0_ (Tabs.below hT.out (wb_ HB.out))); rintro e w33 ⟨rfl, hb⟩; refine ⟨_, rfl, ?_⟩; have n0_ := A0_ (Vb_ (wV_ HO_7.out) hb); have n1_ := A0_ (Vb_ (wV_ HO_9.out) hb); have n2_ := A0_ (Vb_ (wV_ HO_11.out) hb); have n3_ := A0_ (Vb_ (wV_ HO_13.out) hb); have n4_ := A0_ (below_step (wb_ HB.out) hb); clear HO_7; clear HO_9; clear HO_11; clear HO_13; clear HB; have HO_7 := n0_; have HO_9 := n1_; have HO_11 := n2_; have HO_13 := n3_; have HB := n4_; clear n0_ n1_ n2_ n3_ n4_; (try clear hb); (try clear hb2); (try clear hk); (try clear hi)))
     go_ret
     exact ⟨we_, wb_ HB.out⟩
    subst c28
    have H1 : ((bindlelaw21_texts.f k1 t436 t440).bind fun t448 => (some t448)) = some r := by rw [if_pos rfl] at H; exact H
    clear H
    have H := H1
    clear H1
    replace H := Option.bind_eq_some_iff.mp H
    obtain ⟨t448, A290, H⟩ := H
    replace H : (some t448) = some r := H
    have A29 := A0_ A290
    clear A290
    obtain rfl := Option.some.inj H
    go_wp2_with (first | ((with_reducible refine gate_callee (f := 10) rfl ?_); refine goesL_ (some 71) rfl rfl Tryz.func10 (by kernel_rfl) rfl #[] rfl wm_ ?_; (with_reducible refine (bindlelaw21_answers.calls  true _ ?side1 A27.out).mono ?_); (case side1 => exact A0_ (Tabs.below hT.out (wb_ HB.out))); rintro e w30 ⟨rfl, hb⟩; refine ⟨_, rfl, ?_⟩; have n0_ := A0_ (Vb_ (wV_ HO_7.out) hb); have n1_ := A0_ (Vb_ (wV_ HO_9.out) hb); have n2_ := A0_ (Vb_ (wV_ HO_11.out) hb); have n3_ := A0_ (Vb_ (wV_ HO_13.out) hb); have n4_ := A0_ (below_step (wb_ HB.out) hb); clear HO_7; clear HO_9; clear HO_11; clear HO_13; clear HB; have HO_7 := n0_; have HO_9 := n1_; have HO_11 := n2_; have HO_13 := n3_; have HB := n4_; clear n0_ n1_ n2_ n3_ n4_; (try clear hb); (try clear hb2); (try clear hk); (try clear hi); obtain ⟨Ao31, co31, eo31⟩ := Kd.V_slice HO_11.out; subst eo31; obtain ⟨Ao32, co32, eo32⟩ := Kd.V_slice HO_13.out; subst eo32) | (go_at_call 13; (with_reducible refine (bindlelaw21_texts.calls k1 _ _ t436 _ _ t440 t448 _ ?side1 ?side2 ?side3 ?side4 A29.out).mono ?_); (case side1 => exact wc_ (Kd.V_reads' HO_11.out).2.2); (case side2 => exact (Kd.V_reads' HO_11.out).2.1); (case side3 => exact wc_ (Kd.V_reads' HO_13.out).2.2); (case side4 => exact (Kd.V_reads' HO_13.out).2.1); rintro e w' ⟨rfl, ⟨nd, rfl⟩⟩))
    go_ret
    exact ⟨we_, wb_ HB.out⟩
   rw [if_pos c18] at H
   have c18b0 : decide (x15_1 < (t428.length : Int)) = true := decide_eq_true c18
   clear c18
   by_cases c19 : 0 ≤ x15_1
   rotate_left
   ·rw [if_neg c19] at H
    exact absurd H (by simp)
   rw [if_pos c19] at H
   have c19b0 : decide (0 ≤ x15_1) = true := decide_eq_true c19
   clear c19
   by_cases c20 : x15_1 < (t432.length : Int)
   rotate_left
   ·rw [if_neg c20] at H
    exact absurd H (by simp)
   rw [if_pos c20] at H
   have c20b0 : decide (x15_1 < (t432.length : Int)) = true := decide_eq_true c20
   clear c20
   replace H := Option.bind_eq_some_iff.mp H
   obtain ⟨t446, A210, H⟩ := H
   replace H : (if t446 = true then (bindlelaw21_MergeSides.l0 k1 t428 t432 t436 t440 (wrap64 (x15_1 + 1))) else (some false)) = some r := H
   have A21 := A0_ A210
   clear A210
   by_cases c22 : t446 = true
   rotate_left
   ·replace c22 := Bool.eq_false_iff.mpr c22
    subst c22
    have H1 : (some false) = some r := by rw [if_neg (show ¬ (false = true) by decide)] at H; exact H
    clear H
    have H := H1
    clear H1
    obtain rfl := Option.some.inj H
    try go_wp2
    have n0_ := A0_ (V1_ HO_7.out)
    have n1_ := A0_ (V1_ HO_9.out)
    have n2_ := A0_ (V1_ HO_11.out)
    have n3_ := A0_ (V1_ HO_13.out)
    have n4_ := A0_ (b1_ HB.out)
    clear HO_7
    clear HO_9
    clear HO_11
    clear HO_13
    clear HB
    have HO_7 := n0_
    have HO_9 := n1_
    have HO_11 := n2_
    have HO_13 := n3_
    have HB := n4_
    clear n0_ n1_ n2_ n3_ n4_
    have p444 : 0 ≤ (x15_1 : Int) := wd_
    have q444 : x15_1 < (t428.length : Int) := wd_
    obtain ⟨ad444, A444_8, c444_8, e444, hx444_0, hx444_1, hx444_2, hx444_3, hx444_4, hx444_5, hx444_6, hx444_7, hx444_8, hl444_8, hi444_8⟩ := at_T42 (Kd.V_reads' HO_7.out).2.2 x15_1 p444 q444
    cases e444
    obtain ⟨ce444, hce444, hMe444, hcc444⟩ := Kd.V_get HO_7.out z42 x15_1 p444 (by first | exact q444 | exact wd_ | (have e_ := (Kd.V_reads' HO_7.out).1; omega))
    obtain ⟨ua444_8, uc444_8, rfl, ul444_8, ge444_8⟩ := k42_openF hMe444
    have hv444_8 := hcc444 8 _ rfl
    rw [add_field _ _ 8 (by omega)] at hv444_8
    replace hv444_8 := Option.some.inj (hv444_8.symm.trans hx444_8)
    injection hv444_8 with hva_ hvn_ hvc_
    rw [hva_] at ge444_8
    rw [hvc_] at ul444_8
    have HL444_8 := A0_ (show Kd.V (Kd.int .u8) 5 _ w.heap.size _ _ ((rd_T42 t428 x15_1).f5) from Kd.V_mk ul444_8 ge444_8)
    clear hva_ hvn_ hvc_ ge444_8 ul444_8
    clear hcc444 hce444
    have HR444_8 := A0_ hi444_8
    have HC444_8 := A0_ hl444_8
    clear hi444_8 hl444_8
    replace p444 := eq_true p444
    replace q444 := eq_true q444
    have p445 : 0 ≤ (x15_1 : Int) := wd_
    have q445 : x15_1 < (t432.length : Int) := wd_
    obtain ⟨ad445, A445_8, c445_8, e445, hx445_0, hx445_1, hx445_2, hx445_3, hx445_4, hx445_5, hx445_6, hx445_7, hx445_8, hl445_8, hi445_8⟩ := at_T42 (Kd.V_reads' HO_9.out).2.2 x15_1 p445 q445
    cases e445
    obtain ⟨ce445, hce445, hMe445, hcc445⟩ := Kd.V_get HO_9.out z42 x15_1 p445 (by first | exact q445 | exact wd_ | (have e_ := (Kd.V_reads' HO_9.out).1; omega))
    obtain ⟨ua445_8, uc445_8, rfl, ul445_8, ge445_8⟩ := k42_openF hMe445
    have hv445_8 := hcc445 8 _ rfl
    rw [add_field _ _ 8 (by omega)] at hv445_8
    replace hv445_8 := Option.some.inj (hv445_8.symm.trans hx445_8)
    injection hv445_8 with hva_ hvn_ hvc_
    rw [hva_] at ge445_8
    rw [hvc_] at ul445_8
    have HL445_8 := A0_ (show Kd.V (Kd.int .u8) 5 _ w.heap.size _ _ ((rd_T42 t432 x15_1).f5) from Kd.V_mk ul445_8 ge445_8)
    clear hva_ hvn_ hvc_ ge445_8 ul445_8
    clear hcc445 hce445
    have HR445_8 := A0_ hi445_8
    have HC445_8 := A0_ hl445_8
    clear hi445_8 hl445_8
    replace p445 := eq_true p445
    replace q445 := eq_true q445
    refine start_ (n := 10) (S := fun w' => w'.cell? (ad444.add ((x15_1).toNat * 9)) = some (.string ((rd_T42 t428 x15_1).f0)) ∧ w'.cell? ⟨(ad444.add ((x15_1).toNat * 9)).block, (ad444.add ((x15_1).toNat * 9)).off + 1, none⟩ = some (.string ((rd_T42 t428 x15_1).f1)) ∧ w'.cell? ⟨(ad444.add ((x15_1).toNat * 9)).block, (ad444.add ((x15_1).toNat * 9)).off + 2, none⟩ = some (.string ((rd_T42 t428 x15_1).f2)) ∧ w'.cell? ⟨(ad444.add ((x15_1).toNat * 9)).block, (ad444.add ((x15_1).toNat * 9)).off + 3, none⟩ = some (.int .u8 ((rd_T42 t428 x15_1).f3)) ∧ w'.cell? ⟨(ad444.add ((x15_1).toNat * 9)).block, (ad444.add ((x15_1).toNat * 9)).off + 4, none⟩ = some (.int .i64 ((rd_T42 t428 x15_1).f4.f0)) ∧ w'.cell? ⟨(ad444.add ((x15_1).toNat * 9)).block, (ad444.add ((x15_1).toNat * 9)).off + 5, none⟩ = some (.int .i64 ((rd_T42 t428 x15_1).f4.f1)) ∧ w'.cell? ⟨(ad444.add ((x15_1).toNat * 9)).block, (ad444.add ((x15_1).toNat * 9)).off + 6, none⟩ = some (.int .i64 ((rd_T42 t428 x15_1).f4.f2)) ∧ w'.cell? ⟨(ad444.add ((x15_1).toNat * 9)).block, (ad444.add ((x15_1).toNat * 9)).off + 7, none⟩ = some (.int .i64 ((rd_T42 t428 x15_1).f4.f3)) ∧ w'.cell? ⟨(ad444.add ((x15_1).toNat * 9)).block, (ad444.add ((x15_1).toNat * 9)).off + 8, none⟩ = some (.slice A444_8 ((rd_T42 t428 x15_1).f5).length c444_8) ∧ w'.cell? (ad445.add ((x15_1).toNat * 9)) = some (.string ((rd_T42 t432 x15_1).f0)) ∧ w'.cell? ⟨(ad445.add ((x15_1).toNat * 9)).block, (ad445.add ((x15_1).toNat * 9)).off + 1, none⟩ = some (.string ((rd_T42 t432 x15_1).f1)) ∧ w'.cell? ⟨(ad445.add ((x15_1).toNat * 9)).block, (ad445.add ((x15_1).toNat * 9)).off + 2, none⟩ = some (.string ((rd_T42 t432 x15_1).f2)) ∧ w'.cell? ⟨(ad445.add ((x15_1).toNat * 9)).block, (ad445.add ((x15_1).toNat * 9)).off + 3, none⟩ = some (.int .u8 ((rd_T42 t432 x15_1).f3)) ∧ w'.cell? ⟨(ad445.add ((x15_1).toNat * 9)).block, (ad445.add ((x15_1).toNat * 9)).off + 4, none⟩ = some (.int .i64 ((rd_T42 t432 x15_1).f4.f0)) ∧ w'.cell? ⟨(ad445.add ((x15_1).toNat * 9)).block, (ad445.add ((x15_1).toNat * 9)).off + 5, none⟩ = some (.int .i64 ((rd_T42 t432 x15_1).f4.f1)) ∧ w'.cell? ⟨(ad445.add ((x15_1).toNat * 9)).block, (ad445.add ((x15_1).toNat * 9)).off + 6, none⟩ = some (.int .i64 ((rd_T42 t432 x15_1).f4.f2)) ∧ w'.cell? ⟨(ad445.add ((x15_1).toNat * 9)).block, (ad445.add ((x15_1).toNat * 9)).off + 7, none⟩ = some (.int .i64 ((rd_T42 t432 x15_1).f4.f3)) ∧ w'.cell? ⟨(ad445.add ((x15_1).toNat * 9)).block, (ad445.add ((x15_1).toNat * 9)).off + 8, none⟩ = some (.slice A445_8 ((rd_T42 t432 x15_1).f5).length c445_8)) (ds := []) q6_0 (by kernel_rfl) rfl rfl ⟨hx444_0, hx444_1, hx444_2, hx444_3, hx444_4, hx444_5, hx444_6, hx444_7, hx444_8, hx445_0, hx445_1, hx445_2, hx445_3, hx445_4, hx445_5, hx445_6, hx445_7, hx445_8⟩ (fun hHeld => ?_); refine with_tabW bindlelaw21_MergeSides.tab12 bindlelaw21_MergeSides.bits12 (fun HT_ HW_ => ?_)
    generalize wr.drew = w25 at HO_7 HO_9 HO_11 HO_13 HB HL444_8 HL445_8 HR444_8 HR445_8 hx444_0 hx444_1 hx444_2 hx444_3 hx444_4 hx444_5 hx444_6 hx444_7 hx444_8 hx445_0 hx445_1 hx445_2 hx445_3 hx445_4 hx445_5 hx445_6 hx445_7 hx445_8 hHeld ⊢
    refine pur_ (i := 0) (N := some 61) q6_1 (any_of HT_.out (by kernel_rfl)) ?_
    refine pur_ (i := 1) (N := some 62) q6_2 (any_of HT_.out (by kernel_rfl)) ?_
    refine pur_ (i := 2) (N := some 63) q6_3 (any_of HT_.out (by kernel_rfl)) ?_
    refine pur_ (i := 4) (N := some 65) q6_4 (any_of HT_.out (by kernel_rfl)) ?_
    refine pur_ (i := 5) (N := some 66) q6_5 (any_of HT_.out (by kernel_rfl)) ?_
    refine pur_ (i := 6) (N := some 67) q6_6 (any_of HT_.out (by kernel_rfl)) ?_
    refine take_ (i := 3) (N := some 64) (v := ?_) (a' := ?_) q6_7 rfl rfl (take_ofW HT_.out HW_.out (by kernel_rfl)) (fun _ _ _ h => h) (Or.inl ⟨by rfl, ?_⟩) hHeld ?_ ?_
    rotate_left
    ·rintro w' ⟨s0, s1, s2, s3, s4, s5, s6, s7, s8, s9, s10, s11, s12, s13, s14, s15, s16, s17⟩
     go_simp
     with_reducible rfl
    rotate_left
    ·simp only [Act.put, List.setIfInBounds_toArray, List.set_cons_zero, List.set_cons_succ, i64_w, i32_w]
     rfl
    refine take_ (i := 7) (N := some 68) (v := ?_) (a' := ?_) q6_8 rfl rfl (take_ofW HT_.out HW_.out (by kernel_rfl)) (fun _ _ _ h => h) (Or.inl ⟨by rfl, ?_⟩) hHeld ?_ ?_
    rotate_left
    ·rintro w' ⟨s0, s1, s2, s3, s4, s5, s6, s7, s8, s9, s10, s11, s12, s13, s14, s15, s16, s17⟩
     go_simp
     with_reducible rfl
    rotate_left
    ·simp only [Act.put, List.setIfInBounds_toArray, List.set_cons_zero, List.set_cons_succ, i64_w, i32_w]
     rfl
    refine one_ (i := 8) (N := some 69) q6_9 rfl rfl (one_of HT_.out (by kernel_rfl)) (by decide) (fun K hK => ?_)
    refine goes_ Tryz.func19 (by kernel_rfl) rfl #[.agg #[.string ((rd_T42 t428 x15_1).f0), .string ((rd_T42 t428 x15_1).f1), .string ((rd_T42 t428 x15_1).f2), .int .u8 ((rd_T42 t428 x15_1).f3), .int .i64 ((rd_T42 t428 x15_1).f4.f0), .int .i64 ((rd_T42 t428 x15_1).f4.f1), .int .i64 ((rd_T42 t428 x15_1).f4.f2), .int .i64 ((rd_T42 t428 x15_1).f4.f3), .slice A444_8 ((rd_T42 t428 x15_1).f5).length c444_8], .agg #[.string ((rd_T42 t432 x15_1).f0), .string ((rd_T42 t432 x15_1).f1), .string ((rd_T42 t432 x15_1).f2), .int .u8 ((rd_T42 t432 x15_1).f3), .int .i64 ((rd_T42 t432 x15_1).f4.f0), .int .i64 ((rd_T42 t432 x15_1).f4.f1), .int .i64 ((rd_T42 t432 x15_1).f4.f2), .int .i64 ((rd_T42 t432 x15_1).f4.f3), .slice A445_8 ((rd_T42 t432 x15_1).f5).length c445_8]] (by rfl) rfl rfl wm_ ?_
    with_reducible refine (bindleref08_Equal.calls ((rd_T42 t428 x15_1).f0) ((rd_T42 t428 x15_1).f1) ((rd_T42 t428 x15_1).f2) ((rd_T42 t428 x15_1).f3) ((rd_T42 t428 x15_1).f4.f0) ((rd_T42 t428 x15_1).f4.f1) ((rd_T42 t428 x15_1).f4.f2) ((rd_T42 t428 x15_1).f4.f3) _ _ ((rd_T42 t428 x15_1).f5) ((rd_T42 t432 x15_1).f0) ((rd_T42 t432 x15_1).f1) ((rd_T42 t432 x15_1).f2) ((rd_T42 t432 x15_1).f3) ((rd_T42 t432 x15_1).f4.f0) ((rd_T42 t432 x15_1).f4.f1) ((rd_T42 t432 x15_1).f4.f2) ((rd_T42 t432 x15_1).f4.f3) _ _ ((rd_T42 t432 x15_1).f5) false _ ?side1 ?side2 ?side3 ?side4 A21.out).mono ?_
    (case side1 => repeat (first | exact (by repeat (first | (with_reducible exact HR444_8.out) | (with_reducible refine Ca_ ?_ _) | (with_reducible refine CN_ ?_ _) | (with_reducible refine C1_ ?_) | exact HR444_8.out)) | (with_reducible refine Ca_ ?_ _) | (with_reducible refine CN_ ?_ _) | (with_reducible refine C1_ ?_)))
    (case side2 => exact HC444_8.out)
    (case side3 => repeat (first | exact (by repeat (first | (with_reducible exact HR445_8.out) | (with_reducible refine Ca_ ?_ _) | (with_reducible refine CN_ ?_ _) | (with_reducible refine C1_ ?_) | exact HR445_8.out)) | (with_reducible refine Ca_ ?_ _) | (with_reducible refine CN_ ?_ _) | (with_reducible refine C1_ ?_)))
    (case side4 => exact HC445_8.out)
    rintro e w26 ⟨rfl, hb⟩
    have HS0_ := (hb.cell (World.block_lt_of_cell? _ _ (hHeld.1))).trans (hHeld.1)
    have HS1_ := (hb.cell (World.block_lt_of_cell? _ _ (hHeld.2.1))).trans (hHeld.2.1)
    have HS2_ := (hb.cell (World.block_lt_of_cell? _ _ (hHeld.2.2.1))).trans (hHeld.2.2.1)
    have HS3_ := (hb.cell (World.block_lt_of_cell? _ _ (hHeld.2.2.2.1))).trans (hHeld.2.2.2.1)
    have HS4_ := (hb.cell (World.block_lt_of_cell? _ _ (hHeld.2.2.2.2.1))).trans (hHeld.2.2.2.2.1)
    have HS5_ := (hb.cell (World.block_lt_of_cell? _ _ (hHeld.2.2.2.2.2.1))).trans (hHeld.2.2.2.2.2.1)
    have HS6_ := (hb.cell (World.block_lt_of_cell? _ _ (hHeld.2.2.2.2.2.2.1))).trans (hHeld.2.2.2.2.2.2.1)
    have HS7_ := (hb.cell (World.block_lt_of_cell? _ _ (hHeld.2.2.2.2.2.2.2.1))).trans (hHeld.2.2.2.2.2.2.2.1)
    have HS8_ := (hb.cell (World.block_lt_of_cell? _ _ (hHeld.2.2.2.2.2.2.2.2.1))).trans (hHeld.2.2.2.2.2.2.2.2.1)
    have HS9_ := (hb.cell (World.block_lt_of_cell? _ _ (hHeld.2.2.2.2.2.2.2.2.2.1))).trans (hHeld.2.2.2.2.2.2.2.2.2.1)
    have HS10_ := (hb.cell (World.block_lt_of_cell? _ _ (hHeld.2.2.2.2.2.2.2.2.2.2.1))).trans (hHeld.2.2.2.2.2.2.2.2.2.2.1)
    have HS11_ := (hb.cell (World.block_lt_of_cell? _ _ (hHeld.2.2.2.2.2.2.2.2.2.2.2.1))).trans (hHeld.2.2.2.2.2.2.2.2.2.2.2.1)
    have HS12_ := (hb.cell (World.block_lt_of_cell? _ _ (hHeld.2.2.2.2.2.2.2.2.2.2.2.2.1))).trans (hHeld.2.2.2.2.2.2.2.2.2.2.2.2.1)
    have HS13_ := (hb.cell (World.block_lt_of_cell? _ _ (hHeld.2.2.2.2.2.2.2.2.2.2.2.2.2.1))).trans (hHeld.2.2.2.2.2.2.2.2.2.2.2.2.2.1)
    have HS14_ := (hb.cell (World.block_lt_of_cell? _ _ (hHeld.2.2.2.2.2.2.2.2.2.2.2.2.2.2.1))).trans (hHeld.2.2.2.2.2.2.2.2.2.2.2.2.2.2.1)
    have HS15_ := (hb.cell (World.block_lt_of_cell? _ _ (hHeld.2.2.2.2.2.2.2.2.2.2.2.2.2.2.2.1))).trans (hHeld.2.2.2.2.2.2.2.2.2.2.2.2.2.2.2.1)
    have HS16_ := (hb.cell (World.block_lt_of_cell? _ _ (hHeld.2.2.2.2.2.2.2.2.2.2.2.2.2.2.2.2.1))).trans (hHeld.2.2.2.2.2.2.2.2.2.2.2.2.2.2.2.2.1)
    have HS17_ := (hb.cell (World.block_lt_of_cell? _ _ (hHeld.2.2.2.2.2.2.2.2.2.2.2.2.2.2.2.2.2))).trans (hHeld.2.2.2.2.2.2.2.2.2.2.2.2.2.2.2.2.2)
    refine ⟨_, rfl, ?_⟩
    have n0_ := A0_ (Vb_ (wV_ HO_7.out) hb)
    have n1_ := A0_ (Vb_ (wV_ HO_9.out) hb)
    have n2_ := A0_ (Vb_ (wV_ HO_11.out) hb)
    have n3_ := A0_ (Vb_ (wV_ HO_13.out) hb)
    have n4_ := A0_ (Vb_ (wV_ HL444_8.out) hb)
    have n5_ := A0_ (Vb_ (wV_ HL445_8.out) hb)
    have n6_ := A0_ (Kd.C_below (by repeat (first | (with_reducible exact HR444_8.out) | (with_reducible refine Ca_ ?_ _) | (with_reducible refine CN_ ?_ _) | (with_reducible refine C1_ ?_) | exact HR444_8.out)) hb)
    have n7_ := A0_ (Kd.C_below (by repeat (first | (with_reducible exact HR445_8.out) | (with_reducible refine Ca_ ?_ _) | (with_reducible refine CN_ ?_ _) | (with_reducible refine C1_ ?_) | exact HR445_8.out)) hb)
    have n8_ := A0_ (below_step (wb_ HB.out) hb)
    clear HO_7
    clear HO_9
    clear HO_11
    clear HO_13
    clear HL444_8
    clear HL445_8
    clear HR444_8
    clear HR445_8
    clear HB
    have HO_7 := n0_
    have HO_9 := n1_
    have HO_11 := n2_
    have HO_13 := n3_
    have HL444_8 := n4_
    have HL445_8 := n5_
    have HR444_8 := n6_
    have HR445_8 := n7_
    have HB := n8_
    clear n0_ n1_ n2_ n3_ n4_ n5_ n6_ n7_ n8_
    (try clear hb)
    (try clear hb2)
    (try clear hk)
    (try clear hi)
    refine hK.out _ _ ⟨HS0_, HS1_, HS2_, HS3_, HS4_, HS5_, HS6_, HS7_, HS8_, HS9_, HS10_, HS11_, HS12_, HS13_, HS14_, HS15_, HS16_, HS17_⟩ (fun hHeld => ?_)
    clear hK K
    refine norm_ (a' := ?_) ?_ ?_
    rotate_left
    ·show Act.put _ (some 69) _ = _
     simp only [Act.put, List.setIfInBounds_toArray, List.set_cons_zero, List.set_cons_succ, i64_w, i32_w]
     rfl
    refine pur_ (i := 9) (N := some 70) q6_10 (any_of HT_.out (by kernel_rfl)) ?_
    refine done_ (done_of HT_.out (by kernel_rfl)) ?_
    try go_wp2
    go_ret
    exact ⟨we_, wb_ HB.out⟩
   subst c22
   have H1 : (bindlelaw21_MergeSides.l0 k1 t428 t432 t436 t440 (wrap64 (x15_1 + 1))) = some r := by rw [if_pos rfl] at H; exact H
   clear H
   have H := H1
   clear H1
   have H' := A0_ H
   clear H
   try go_wp2
   have n0_ := A0_ (V1_ HO_7.out)
   have n1_ := A0_ (V1_ HO_9.out)
   have n2_ := A0_ (V1_ HO_11.out)
   have n3_ := A0_ (V1_ HO_13.out)
   have n4_ := A0_ (b1_ HB.out)
   clear HO_7
   clear HO_9
   clear HO_11
   clear HO_13
   clear HB
   have HO_7 := n0_
   have HO_9 := n1_
   have HO_11 := n2_
   have HO_13 := n3_
   have HB := n4_
   clear n0_ n1_ n2_ n3_ n4_
   have p444 : 0 ≤ (x15_1 : Int) := wd_
   have q444 : x15_1 < (t428.length : Int) := wd_
   obtain ⟨ad444, A444_8, c444_8, e444, hx444_0, hx444_1, hx444_2, hx444_3, hx444_4, hx444_5, hx444_6, hx444_7, hx444_8, hl444_8, hi444_8⟩ := at_T42 (Kd.V_reads' HO_7.out).2.2 x15_1 p444 q444
   cases e444
   obtain ⟨ce444, hce444, hMe444, hcc444⟩ := Kd.V_get HO_7.out z42 x15_1 p444 (by first | exact q444 | exact wd_ | (have e_ := (Kd.V_reads' HO_7.out).1; omega))
   obtain ⟨ua444_8, uc444_8, rfl, ul444_8, ge444_8⟩ := k42_openF hMe444
   have hv444_8 := hcc444 8 _ rfl
   rw [add_field _ _ 8 (by omega)] at hv444_8
   replace hv444_8 := Option.some.inj (hv444_8.symm.trans hx444_8)
   injection hv444_8 with hva_ hvn_ hvc_
   rw [hva_] at ge444_8
   rw [hvc_] at ul444_8
   have HL444_8 := A0_ (show Kd.V (Kd.int .u8) 5 _ w.heap.size _ _ ((rd_T42 t428 x15_1).f5) from Kd.V_mk ul444_8 ge444_8)
   clear hva_ hvn_ hvc_ ge444_8 ul444_8
   clear hcc444 hce444
   have HR444_8 := A0_ hi444_8
   have HC444_8 := A0_ hl444_8
   clear hi444_8 hl444_8
   replace p444 := eq_true p444
   replace q444 := eq_true q444
   have p445 : 0 ≤ (x15_1 : Int) := wd_
   have q445 : x15_1 < (t432.length : Int) := wd_
   obtain ⟨ad445, A445_8, c445_8, e445, hx445_0, hx445_1, hx445_2, hx445_3, hx445_4, hx445_5, hx445_6, hx445_7, hx445_8, hl445_8, hi445_8⟩ := at_T42 (Kd.V_reads' HO_9.out).2.2 x15_1 p445 q445
   cases e445
   obtain ⟨ce445, hce445, hMe445, hcc445⟩ := Kd.V_get HO_9.out z42 x15_1 p445 (by first | exact q445 | exact wd_ | (have e_ := (Kd.V_reads' HO_9.out).1; omega))
   obtain ⟨ua445_8, uc445_8, rfl, ul445_8, ge445_8⟩ := k42_openF hMe445
   have hv445_8 := hcc445 8 _ rfl
   rw [add_field _ _ 8 (by omega)] at hv445_8
   replace hv445_8 := Option.some.inj (hv445_8.symm.trans hx445_8)
   injection hv445_8 with hva_ hvn_ hvc_
   rw [hva_] at ge445_8
   rw [hvc_] at ul445_8
   have HL445_8 := A0_ (show Kd.V (Kd.int .u8) 5 _ w.heap.size _ _ ((rd_T42 t432 x15_1).f5) from Kd.V_mk ul445_8 ge445_8)
   clear hva_ hvn_ hvc_ ge445_8 ul445_8
   clear hcc445 hce445
   have HR445_8 := A0_ hi445_8
   have HC445_8 := A0_ hl445_8
   clear hi445_8 hl445_8
   replace p445 := eq_true p445
   replace q445 := eq_true q445
   refine start_ (n := 10) (S := fun w' => w'.cell? (ad444.add ((x15_1).toNat * 9)) = some (.string ((rd_T42 t428 x15_1).f0)) ∧ w'.cell? ⟨(ad444.add ((x15_1).toNat * 9)).block, (ad444.add ((x15_1).toNat * 9)).off + 1, none⟩ = some (.string ((rd_T42 t428 x15_1).f1)) ∧ w'.cell? ⟨(ad444.add ((x15_1).toNat * 9)).block, (ad444.add ((x15_1).toNat * 9)).off + 2, none⟩ = some (.string ((rd_T42 t428 x15_1).f2)) ∧ w'.cell? ⟨(ad444.add ((x15_1).toNat * 9)).block, (ad444.add ((x15_1).toNat * 9)).off + 3, none⟩ = some (.int .u8 ((rd_T42 t428 x15_1).f3)) ∧ w'.cell? ⟨(ad444.add ((x15_1).toNat * 9)).block, (ad444.add ((x15_1).toNat * 9)).off + 4, none⟩ = some (.int .i64 ((rd_T42 t428 x15_1).f4.f0)) ∧ w'.cell? ⟨(ad444.add ((x15_1).toNat * 9)).block, (ad444.add ((x15_1).toNat * 9)).off + 5, none⟩ = some (.int .i64 ((rd_T42 t428 x15_1).f4.f1)) ∧ w'.cell? ⟨(ad444.add ((x15_1).toNat * 9)).block, (ad444.add ((x15_1).toNat * 9)).off + 6, none⟩ = some (.int .i64 ((rd_T42 t428 x15_1).f4.f2)) ∧ w'.cell? ⟨(ad444.add ((x15_1).toNat * 9)).block, (ad444.add ((x15_1).toNat * 9)).off + 7, none⟩ = some (.int .i64 ((rd_T42 t428 x15_1).f4.f3)) ∧ w'.cell? ⟨(ad444.add ((x15_1).toNat * 9)).block, (ad444.add ((x15_1).toNat * 9)).off + 8, none⟩ = some (.slice A444_8 ((rd_T42 t428 x15_1).f5).length c444_8) ∧ w'.cell? (ad445.add ((x15_1).toNat * 9)) = some (.string ((rd_T42 t432 x15_1).f0)) ∧ w'.cell? ⟨(ad445.add ((x15_1).toNat * 9)).block, (ad445.add ((x15_1).toNat * 9)).off + 1, none⟩ = some (.string ((rd_T42 t432 x15_1).f1)) ∧ w'.cell? ⟨(ad445.add ((x15_1).toNat * 9)).block, (ad445.add ((x15_1).toNat * 9)).off + 2, none⟩ = some (.string ((rd_T42 t432 x15_1).f2)) ∧ w'.cell? ⟨(ad445.add ((x15_1).toNat * 9)).block, (ad445.add ((x15_1).toNat * 9)).off + 3, none⟩ = some (.int .u8 ((rd_T42 t432 x15_1).f3)) ∧ w'.cell? ⟨(ad445.add ((x15_1).toNat * 9)).block, (ad445.add ((x15_1).toNat * 9)).off + 4, none⟩ = some (.int .i64 ((rd_T42 t432 x15_1).f4.f0)) ∧ w'.cell? ⟨(ad445.add ((x15_1).toNat * 9)).block, (ad445.add ((x15_1).toNat * 9)).off + 5, none⟩ = some (.int .i64 ((rd_T42 t432 x15_1).f4.f1)) ∧ w'.cell? ⟨(ad445.add ((x15_1).toNat * 9)).block, (ad445.add ((x15_1).toNat * 9)).off + 6, none⟩ = some (.int .i64 ((rd_T42 t432 x15_1).f4.f2)) ∧ w'.cell? ⟨(ad445.add ((x15_1).toNat * 9)).block, (ad445.add ((x15_1).toNat * 9)).off + 7, none⟩ = some (.int .i64 ((rd_T42 t432 x15_1).f4.f3)) ∧ w'.cell? ⟨(ad445.add ((x15_1).toNat * 9)).block, (ad445.add ((x15_1).toNat * 9)).off + 8, none⟩ = some (.slice A445_8 ((rd_T42 t432 x15_1).f5).length c445_8)) (ds := []) q6_0 (by kernel_rfl) rfl rfl ⟨hx444_0, hx444_1, hx444_2, hx444_3, hx444_4, hx444_5, hx444_6, hx444_7, hx444_8, hx445_0, hx445_1, hx445_2, hx445_3, hx445_4, hx445_5, hx445_6, hx445_7, hx445_8⟩ (fun hHeld => ?_); refine with_tabW bindlelaw21_MergeSides.tab12 bindlelaw21_MergeSides.bits12 (fun HT_ HW_ => ?_)
   generalize wr.drew = w23 at HO_7 HO_9 HO_11 HO_13 HB HL444_8 HL445_8 HR444_8 HR445_8 hx444_0 hx444_1 hx444_2 hx444_3 hx444_4 hx444_5 hx444_6 hx444_7 hx444_8 hx445_0 hx445_1 hx445_2 hx445_3 hx445_4 hx445_5 hx445_6 hx445_7 hx445_8 hHeld ⊢
   refine pur_ (i := 0) (N := some 61) q6_1 (any_of HT_.out (by kernel_rfl)) ?_
   refine pur_ (i := 1) (N := some 62) q6_2 (any_of HT_.out (by kernel_rfl)) ?_
   refine pur_ (i := 2) (N := some 63) q6_3 (any_of HT_.out (by kernel_rfl)) ?_
   refine pur_ (i := 4) (N := some 65) q6_4 (any_of HT_.out (by kernel_rfl)) ?_
   refine pur_ (i := 5) (N := some 66) q6_5 (any_of HT_.out (by kernel_rfl)) ?_
   refine pur_ (i := 6) (N := some 67) q6_6 (any_of HT_.out (by kernel_rfl)) ?_
   refine take_ (i := 3) (N := some 64) (v := ?_) (a' := ?_) q6_7 rfl rfl (take_ofW HT_.out HW_.out (by kernel_rfl)) (fun _ _ _ h => h) (Or.inl ⟨by rfl, ?_⟩) hHeld ?_ ?_
   rotate_left
   ·rintro w' ⟨s0, s1, s2, s3, s4, s5, s6, s7, s8, s9, s10, s11, s12, s13, s14, s15, s16, s17⟩
    go_simp
    with_reducible rfl
   rotate_left
   ·simp only [Act.put, List.setIfInBounds_toArray, List.set_cons_zero, List.set_cons_succ, i64_w, i32_w]
    rfl
   refine take_ (i := 7) (N := some 68) (v := ?_) (a' := ?_) q6_8 rfl rfl (take_ofW HT_.out HW_.out (by kernel_rfl)) (fun _ _ _ h => h) (Or.inl ⟨by rfl, ?_⟩) hHeld ?_ ?_
   rotate_left
   ·rintro w' ⟨s0, s1, s2, s3, s4, s5, s6, s7, s8, s9, s10, s11, s12, s13, s14, s15, s16, s17⟩
    go_simp
    with_reducible rfl
   rotate_left
   ·simp only [Act.put, List.setIfInBounds_toArray, List.set_cons_zero, List.set_cons_succ, i64_w, i32_w]
    rfl
   refine one_ (i := 8) (N := some 69) q6_9 rfl rfl (one_of HT_.out (by kernel_rfl)) (by decide) (fun K hK => ?_)
   refine goes_ Tryz.func19 (by kernel_rfl) rfl #[.agg #[.string ((rd_T42 t428 x15_1).f0), .string ((rd_T42 t428 x15_1).f1), .string ((rd_T42 t428 x15_1).f2), .int .u8 ((rd_T42 t428 x15_1).f3), .int .i64 ((rd_T42 t428 x15_1).f4.f0), .int .i64 ((rd_T42 t428 x15_1).f4.f1), .int .i64 ((rd_T42 t428 x15_1).f4.f2), .int .i64 ((rd_T42 t428 x15_1).f4.f3), .slice A444_8 ((rd_T42 t428 x15_1).f5).length c444_8], .agg #[.string ((rd_T42 t432 x15_1).f0), .string ((rd_T42 t432 x15_1).f1), .string ((rd_T42 t432 x15_1).f2), .int .u8 ((rd_T42 t432 x15_1).f3), .int .i64 ((rd_T42 t432 x15_1).f4.f0), .int .i64 ((rd_T42 t432 x15_1).f4.f1), .int .i64 ((rd_T42 t432 x15_1).f4.f2), .int .i64 ((rd_T42 t432 x15_1).f4.f3), .slice A445_8 ((rd_T42 t432 x15_1).f5).length c445_8]] (by rfl) rfl rfl wm_ ?_
   with_reducible refine (bindleref08_Equal.calls ((rd_T42 t428 x15_1).f0) ((rd_T42 t428 x15_1).f1) ((rd_T42 t428 x15_1).f2) ((rd_T42 t428 x15_1).f3) ((rd_T42 t428 x15_1).f4.f0) ((rd_T42 t428 x15_1).f4.f1) ((rd_T42 t428 x15_1).f4.f2) ((rd_T42 t428 x15_1).f4.f3) _ _ ((rd_T42 t428 x15_1).f5) ((rd_T42 t432 x15_1).f0) ((rd_T42 t432 x15_1).f1) ((rd_T42 t432 x15_1).f2) ((rd_T42 t432 x15_1).f3) ((rd_T42 t432 x15_1).f4.f0) ((rd_T42 t432 x15_1).f4.f1) ((rd_T42 t432 x15_1).f4.f2) ((rd_T42 t432 x15_1).f4.f3) _ _ ((rd_T42 t432 x15_1).f5) true _ ?side1 ?side2 ?side3 ?side4 A21.out).mono ?_
   (case side1 => repeat (first | exact (by repeat (first | (with_reducible exact HR444_8.out) | (with_reducible refine Ca_ ?_ _) | (with_reducible refine CN_ ?_ _) | (with_reducible refine C1_ ?_) | exact HR444_8.out)) | (with_reducible refine Ca_ ?_ _) | (with_reducible refine CN_ ?_ _) | (with_reducible refine C1_ ?_)))
   (case side2 => exact HC444_8.out)
   (case side3 => repeat (first | exact (by repeat (first | (with_reducible exact HR445_8.out) | (with_reducible refine Ca_ ?_ _) | (with_reducible refine CN_ ?_ _) | (with_reducible refine C1_ ?_) | exact HR445_8.out)) | (with_reducible refine Ca_ ?_ _) | (with_reducible refine CN_ ?_ _) | (with_reducible refine C1_ ?_)))
   (case side4 => exact HC445_8.out)
   rintro e w24 ⟨rfl, hb⟩
   have HS0_ := (hb.cell (World.block_lt_of_cell? _ _ (hHeld.1))).trans (hHeld.1)
   have HS1_ := (hb.cell (World.block_lt_of_cell? _ _ (hHeld.2.1))).trans (hHeld.2.1)
   have HS2_ := (hb.cell (World.block_lt_of_cell? _ _ (hHeld.2.2.1))).trans (hHeld.2.2.1)
   have HS3_ := (hb.cell (World.block_lt_of_cell? _ _ (hHeld.2.2.2.1))).trans (hHeld.2.2.2.1)
   have HS4_ := (hb.cell (World.block_lt_of_cell? _ _ (hHeld.2.2.2.2.1))).trans (hHeld.2.2.2.2.1)
   have HS5_ := (hb.cell (World.block_lt_of_cell? _ _ (hHeld.2.2.2.2.2.1))).trans (hHeld.2.2.2.2.2.1)
   have HS6_ := (hb.cell (World.block_lt_of_cell? _ _ (hHeld.2.2.2.2.2.2.1))).trans (hHeld.2.2.2.2.2.2.1)
   have HS7_ := (hb.cell (World.block_lt_of_cell? _ _ (hHeld.2.2.2.2.2.2.2.1))).trans (hHeld.2.2.2.2.2.2.2.1)
   have HS8_ := (hb.cell (World.block_lt_of_cell? _ _ (hHeld.2.2.2.2.2.2.2.2.1))).trans (hHeld.2.2.2.2.2.2.2.2.1)
   have HS9_ := (hb.cell (World.block_lt_of_cell? _ _ (hHeld.2.2.2.2.2.2.2.2.2.1))).trans (hHeld.2.2.2.2.2.2.2.2.2.1)
   have HS10_ := (hb.cell (World.block_lt_of_cell? _ _ (hHeld.2.2.2.2.2.2.2.2.2.2.1))).trans (hHeld.2.2.2.2.2.2.2.2.2.2.1)
   have HS11_ := (hb.cell (World.block_lt_of_cell? _ _ (hHeld.2.2.2.2.2.2.2.2.2.2.2.1))).trans (hHeld.2.2.2.2.2.2.2.2.2.2.2.1)
   have HS12_ := (hb.cell (World.block_lt_of_cell? _ _ (hHeld.2.2.2.2.2.2.2.2.2.2.2.2.1))).trans (hHeld.2.2.2.2.2.2.2.2.2.2.2.2.1)
   have HS13_ := (hb.cell (World.block_lt_of_cell? _ _ (hHeld.2.2.2.2.2.2.2.2.2.2.2.2.2.1))).trans (hHeld.2.2.2.2.2.2.2.2.2.2.2.2.2.1)
   have HS14_ := (hb.cell (World.block_lt_of_cell? _ _ (hHeld.2.2.2.2.2.2.2.2.2.2.2.2.2.2.1))).trans (hHeld.2.2.2.2.2.2.2.2.2.2.2.2.2.2.1)
   have HS15_ := (hb.cell (World.block_lt_of_cell? _ _ (hHeld.2.2.2.2.2.2.2.2.2.2.2.2.2.2.2.1))).trans (hHeld.2.2.2.2.2.2.2.2.2.2.2.2.2.2.2.1)
   have HS16_ := (hb.cell (World.block_lt_of_cell? _ _ (hHeld.2.2.2.2.2.2.2.2.2.2.2.2.2.2.2.2.1))).trans (hHeld.2.2.2.2.2.2.2.2.2.2.2.2.2.2.2.2.1)
   have HS17_ := (hb.cell (World.block_lt_of_cell? _ _ (hHeld.2.2.2.2.2.2.2.2.2.2.2.2.2.2.2.2.2))).trans (hHeld.2.2.2.2.2.2.2.2.2.2.2.2.2.2.2.2.2)
   refine ⟨_, rfl, ?_⟩
   have n0_ := A0_ (Vb_ (wV_ HO_7.out) hb)
   have n1_ := A0_ (Vb_ (wV_ HO_9.out) hb)
   have n2_ := A0_ (Vb_ (wV_ HO_11.out) hb)
   have n3_ := A0_ (Vb_ (wV_ HO_13.out) hb)
   have n4_ := A0_ (Vb_ (wV_ HL444_8.out) hb)
   have n5_ := A0_ (Vb_ (wV_ HL445_8.out) hb)
   have n6_ := A0_ (Kd.C_below (by repeat (first | (with_reducible exact HR444_8.out) | (with_reducible refine Ca_ ?_ _) | (with_reducible refine CN_ ?_ _) | (with_reducible refine C1_ ?_) | exact HR444_8.out)) hb)
   have n7_ := A0_ (Kd.C_below (by repeat (first | (with_reducible exact HR445_8.out) | (with_reducible refine Ca_ ?_ _) | (with_reducible refine CN_ ?_ _) | (with_reducible refine C1_ ?_) | exact HR445_8.out)) hb)
   have n8_ := A0_ (below_step (wb_ HB.out) hb)
   clear HO_7
   clear HO_9
   clear HO_11
   clear HO_13
   clear HL444_8
   clear HL445_8
   clear HR444_8
   clear HR445_8
   clear HB
   have HO_7 := n0_
   have HO_9 := n1_
   have HO_11 := n2_
   have HO_13 := n3_
   have HL444_8 := n4_
   have HL445_8 := n5_
   have HR444_8 := n6_
   have HR445_8 := n7_
   have HB := n8_
   clear n0_ n1_ n2_ n3_ n4_ n5_ n6_ n7_ n8_
   (try clear hb)
   (try clear hb2)
   (try clear hk)
   (try clear hi)
   refine hK.out _ _ ⟨HS0_, HS1_, HS2_, HS3_, HS4_, HS5_, HS6_, HS7_, HS8_, HS9_, HS10_, HS11_, HS12_, HS13_, HS14_, HS15_, HS16_, HS17_⟩ (fun hHeld => ?_)
   clear hK K
   refine norm_ (a' := ?_) ?_ ?_
   rotate_left
   ·show Act.put _ (some 69) _ = _
    simp only [Act.put, List.setIfInBounds_toArray, List.set_cons_zero, List.set_cons_succ, i64_w, i32_w]
    rfl
   refine pur_ (i := 9) (N := some 70) q6_10 (any_of HT_.out (by kernel_rfl)) ?_
   refine done_ (done_of HT_.out (by kernel_rfl)) ?_
   try go_wp2
   go_roundg k1
   case measure => have := HK1.out; omega
   case rel => exact ⟨(wrap64 (x15_1 + 1)), wr_, H', ⟨by have := HK1.out; omega⟩, ⟨wV_ HO_7.out⟩, ⟨wV_ HO_9.out⟩, ⟨wV_ HO_11.out⟩, ⟨wV_ HO_13.out⟩, ⟨wb_ HB.out⟩⟩
end Go.Proofs.YtbngbefchobfnaaGreatDoor.Print

namespace Go.Proofs.YtbngbefchobfnaaGreatDoor
open Go.RowKit Go.Proofs.YtbngbefchobfnaaGreatDoor.Print Go.Proofs.YtbngbefchobfnaaGreatDoorW.PrintWords
set_option linter.unusedVariables false
theorem mokl_z {ls : List (List Node)} (h : OkL ls) (hz : ∀ t ∈ ls, ∀ x ∈ t, NodeZ x) : ∀ t ∈ ls, TreeZ t ∧ t.length ≤ 60 := fun t ht => by
 obtain ⟨h1, h2⟩ := h t ht
 refine ⟨treeZ_of (by omega) (fun x hx => ?_), h1⟩
 have h3 := h2 x hx
 have h4 : szN x = x.f5.length + x.f0.size + x.f1.size := rfl
 exact ⟨hz t ht x hx, by omega, by omega⟩
theorem mgood_f {l : List Node} (h : TreeZ l) : bindleref08_GoodTree.f l = some (goodTree l) := by
 unfold bindleref08_GoodTree.f
 rw [if_pos ((nodesZ_iff l).2 h.2.1)]
theorem mem3 {P : List Node → Prop} {a b c : List Node} (ha : P a) (hb : P b) (hc : P c) : ∀ t ∈ [a, b, c], P t := fun t ht => by
 rcases List.mem_cons.1 ht with rfl | ht
 ·exact ha
 ·rcases List.mem_cons.1 ht with rfl | ht
  ·exact hb
  ·rw [List.mem_singleton] at ht; rw [ht]; exact hc
structure Good3 (b o t : List Node) : Prop where
 gb : goodTree b = true
 go : goodTree o = true
 gt : goodTree t = true
 zb : TreeZ b
 zo : TreeZ o
 zt : TreeZ t
 lb : b.length ≤ 60
 lo : o.length ≤ 60
 lt : t.length ≤ 60
theorem good3_eq (b o t : List Node) (hb : ∀ x ∈ b, NodeZ x) (ho : ∀ x ∈ o, NodeZ x) (ht : ∀ x ∈ t, NodeZ x) : ∃ r, Ev (fun k => bindlelaw21_good.f k b o t) r ∧ (r = true → Good3 b o t) := by
 have hzs : ∀ u ∈ [b, o, t], ∀ x ∈ u, NodeZ x := mem3 (P := fun u => ∀ x ∈ u, NodeZ x) hb ho ht
 obtain ⟨r, h1, h2⟩ := light21_eq [b, o, t] (by simp) hzs
 cases r with
 | false =>
  refine ⟨false, ?_, fun h => by cases h⟩
  unfold bindlelaw21_good.f
  refine Ev.bind h1 ?_
  exact Ev.congr (fun k => by rw [if_neg (by decide)]) (Ev.now false)
 | true =>
  have hz := mokl_z (h2 rfl) hzs
  have zb := hz b (by simp)
  have zo := hz o (by simp)
  have zt := hz t (by simp)
  refine ⟨goodTree b && (goodTree o && goodTree t), ?_, fun h => ?_⟩
  ·unfold bindlelaw21_good.f
   refine Ev.bind h1 ?_
   refine Ev.congr (f := fun _ => some (goodTree b && (goodTree o && goodTree t))) (fun k => ?_) (Ev.now _)
   rw [if_pos rfl, mgood_f zb.1, Option.bind_some, mgood_f zo.1, mgood_f zt.1]
   cases goodTree b <;> cases goodTree o <;> cases goodTree t <;> rfl
  ·simp only [Bool.and_eq_true] at h
   exact ⟨h.1, h.2.1, h.2.2, zb.1, zo.1, zt.1, zb.2, zo.2, zt.2⟩
section
variable {b o t : List Node} (h : Good3 b o t)
include h
theorem Good3.merge (q : Int) : merge_Merge.f b o t q = some (mergeF b o t q) := by
 unfold merge_Merge.f
 rw [if_pos ⟨(treeZB_iff b).2 h.zb, (treeZB_iff o).2 h.zo, (treeZB_iff t).2 h.zt⟩]
theorem Good3.conf : merge_Conflicts.f b o t = some (conflictsF b o t, 0) := by
 unfold merge_Conflicts.f
 rw [if_pos ⟨(treeZB_iff b).2 h.zb, (treeZB_iff o).2 h.zo, (treeZB_iff t).2 h.zt⟩]
 unfold confF
 rw [if_pos ⟨h.gb, h.go, h.gt⟩]
theorem Good3.len : b.length + o.length + t.length ≤ 4096 := by have := h.lb; have := h.lo; have := h.lt; omega
theorem Good3.conf_len : (conflictsF b o t).length ≤ 180 := by
 have h1 := List.length_filter_le (conflictAt b o t) (paths3 b o t)
 have h2 := paths3_len b o t
 have := h.lb
 have := h.lo
 have := h.lt
 unfold conflictsF
 omega
end
theorem merge_small {b o t : List Node} {q : Int} (h : goodTree (mergeF b o t q).1 = true) : (mergeF b o t q).1.length ≤ 1000000 := by
 have := (good_parts h).2.2.1
 omega
theorem texts_l (a : List ByteArray) (hl : a.length ≤ 1000000) : ∀ (d i : Nat), i + d = a.length → Ev (fun k => bindlelaw21_texts.l0 k a a (i : Int)) true := by
 intro d
 induction d with
 | zero =>
  intro i hi
  exact Ev.step (f := fun _ => some true) (fun k => by rw [bindlelaw21_texts.l0, if_neg (by omega)]) (Ev.now true)
 | succ d ih =>
  intro i hi
  refine Ev.step (fun k => ?_) (ih (i + 1) (by omega))
  rw [bindlelaw21_texts.l0, if_pos (by omega), if_pos (by omega), if_pos (by omega), if_pos rfl, show wrap64 ((i : Int) + 1) = ((i + 1 : Nat) : Int) from w_one i (by omega)]
theorem texts_ev (a : List ByteArray) (hl : a.length ≤ 1000000) : Ev (fun k => bindlelaw21_texts.f k a a) true := by
 unfold bindlelaw21_texts.f
 exact Ev.congr (fun k => by rw [if_pos rfl]; rfl) (texts_l a hl a.length 0 (by omega))
theorem sides_loop (x y : List Node) (c : List ByteArray) (hl : x.length = y.length) (hx : x.length ≤ 1000000) (hcl : c.length ≤ 1000000) (he : ∀ (i : Nat) (hi : i < x.length) (hi' : i < y.length), equalB x[i] y[i] = true) : ∀ (d i : Nat), i + d = x.length → Ev (fun k => bindlelaw21_MergeSides.l0 k x y c c (i : Int)) true := by
 intro d
 induction d with
 | zero =>
  intro i hi
  refine Ev.step (f := fun k => (bindlelaw21_texts.f k c c).bind fun t => (some t)) (fun k => ?_) (Ev.bind (texts_ev c hcl) (Ev.now true))
  rw [bindlelaw21_MergeSides.l0, if_neg (by omega), bindlelaw21_answers.val, Option.bind_some, if_pos rfl]
 | succ d ih =>
  intro i hi
  have hi1 : i < x.length := by omega
  have hi2 : i < y.length := by omega
  refine Ev.step (fun k => ?_) (ih (i + 1) (by omega))
  rw [bindlelaw21_MergeSides.l0, if_pos (by omega), if_pos (by omega), if_pos (by omega), rdN_n x i hi1, rdN_n y i hi2, requal_f, he i hi1 hi2, Option.bind_some, if_pos rfl, show wrap64 ((i : Int) + 1) = ((i + 1 : Nat) : Int) from w_one i (by omega)]
theorem MergeSides_true (b o t : List Node) (hb : ∀ x ∈ b, NodeZ x) (ho : ∀ x ∈ o, NodeZ x) (ht : ∀ x ∈ t, NodeZ x) : Ev (fun k => bindlelaw21_MergeSides.f k b o t) true := by
 obtain ⟨r, h1, h2⟩ := good3_eq b o t hb ho ht
 unfold bindlelaw21_MergeSides.f
 refine Ev.bind h1 ?_
 cases r with
 | false =>
  refine Ev.congr (f := fun _ => some true) (fun k => ?_) (Ev.now true)
  rw [if_neg (by decide), bindlelaw21_answers.val]
  rfl
 | true =>
  have h := h2 rfl
  have h' : Good3 b t o := ⟨h.gb, h.gt, h.go, h.zb, h.zt, h.zo, h.lb, h.lt, h.lo⟩
  obtain ⟨e1, e2⟩ := merge_sides h.gb h.go h.gt h.len
  have hg := merge_small ((merge_ours h.gb h.go h.gt h.len).2.good)
  refine Ev.congr (fun k => ?_) (sides_loop _ _ (conflictsF b o t) e1 hg (by have := h.conf_len; omega) e2 (mergeF b o t 1).1.length 0 (by omega))
  rw [if_pos rfl, h.merge 1, Option.bind_some, h'.merge 2, Option.bind_some, h.conf, Option.bind_some, h'.conf, Option.bind_some, if_pos (by omega), ← conflict_comm b o t]
  rfl
end Go.Proofs.YtbngbefchobfnaaGreatDoor

namespace Go.Proofs.YtbngbefchobfnaaGreatDoor
open Go.RowKit Go.Lib Go.Proofs.YtbngbefchobfnaaGreatDoorW.PrintWords
theorem laidOut : laidOutB Tryz.prog = true := by kernel_rfl
end Go.Proofs.YtbngbefchobfnaaGreatDoor

namespace Go.Proofs.YtbngbefchobfnaaGreatDoor
open Go.ChangeShapes Go.WideShapes Go.RowKit Go.Proofs.YtbngbefchobfnaaGreatDoorW.PrintWords
structure Opens {α : Type} (P : Program) (d : Kd α) (t : TypeId) (B : α → Prop) : Prop where
 sz : P.cellsOf t = d.sz
 get : ∀ {H : Type} {enc : TypeId × Value → H} {W : World} {fuel : Nat} {cs : List Value} {x : DataW H × List MemPlace},
  DataW.trod enc P W 0 (fun _ => true) true fuel t cs = some x → (∀ n ∈ x.1.weights P t, n ≤ reachBytes) → ∃ a, d.K W a cs ∧ B a
theorem Opens.int {P : Program} {t : TypeId} {k : IntKind} (ht : P.underlying t = some (.int k)) (hc : P.cellsOf t = 1) : Opens P (Kd.int k) t (fun n => (Lit.int k n).wf = true) :=
 ⟨hc, fun h _ => by
  obtain ⟨n, rfl, rfl, hw⟩ := DataW.trod_int ht h
  exact ⟨n, rfl, hw⟩⟩
theorem Opens.bool {P : Program} {t : TypeId} (ht : P.underlying t = some .bool) (hc : P.cellsOf t = 1) : Opens P Kd.bool t (fun _ => True) :=
 ⟨hc, fun h _ => by
  obtain ⟨n, rfl, rfl⟩ := DataW.trod_bool ht h
  exact ⟨n, rfl, trivial⟩⟩
theorem Opens.string {P : Program} {t : TypeId} (ht : P.underlying t = some .string) (hc : P.cellsOf t = 1) : Opens P Kd.string t (fun s => s.size ≤ 140737488351232) :=
 ⟨hc, fun h hw => by
  obtain ⟨s, rfl, rfl, _⟩ := DataW.trod_string ht h
  refine ⟨s, rfl, ?_⟩
  have := hw s.data.toList.length (by simp [DataW.weights])
  have e : s.data.toList.length = s.size := by simp
  rw [e] at this
  exact this⟩
theorem each_list {α : Type} {Q : Nat → α → Prop} : ∀ n : Nat, (∀ i, i < n → ∃ x, Q i x) → ∃ xs : List α, xs.length = n ∧ ∀ i x, xs[i]? = some x → Q i x := by
 intro n
 induction n with
 | zero => exact fun _ => ⟨[], rfl, fun i x h => by simp at h⟩
 | succ n ih =>
  intro h
  obtain ⟨xs, hl, hx⟩ := ih (fun i hi => h i (by omega))
  obtain ⟨y, hy⟩ := h n (by omega)
  refine ⟨xs ++ [y], by simp [hl], fun i x hi => ?_⟩
  rcases Nat.lt_or_ge i n with h1 | h1
  ·rw [List.getElem?_append_left (by omega)] at hi
   exact hx i x hi
  ·rw [List.getElem?_append_right (by omega)] at hi
   have h0 : i - xs.length = 0 := by
    have := (List.getElem?_eq_some_iff.1 hi).1
    simp at this
    omega
   rw [h0] at hi
   simp at hi
   subst hi
   obtain rfl : i = n := by omega
   exact hy
theorem weights_all {H : Type} {P : Program} {e : TypeId} : ∀ {l : List (DataW H)} {y : DataW H}, y ∈ l → ∀ n ∈ y.weights P e, n ∈ DataW.weightsAll P e l
 | z :: r, y, hy, n, hn => by
  simp only [DataW.weightsAll, List.mem_append]
  rcases List.mem_cons.1 hy with rfl | hy
  ·exact .inl hn
  ·exact .inr (weights_all hy n hn)
theorem add_add (a : Addr) (x y : Nat) : (a.add x).add y = a.add (x + y) := by
 unfold Addr.add
 split
 ·rename_i h
  subst h
  simp
 ·rename_i h
  split
  ·rename_i h2
   subst h2
   simp [h]
  ·rw [if_neg (by omega)]
   simp [Nat.add_assoc]
theorem Opens.slice {α : Type} {P : Program} {d : Kd α} {B : α → Prop} {t e : TypeId} (ht : P.underlying t = some (.slice e)) (hc : P.cellsOf t = 1) (h : Opens P d e B) :
  Opens P (Kd.slice e d) t (fun xs => xs.length * P.bytesOf e ≤ 140737488351232 ∧ ∀ x ∈ xs, B x) :=
 ⟨hc, fun {H enc W fuel cs x} hf hw => by
  rcases DataW.trod_slice ht hf with ⟨rfl, rfl⟩ | ⟨a, len, cap, elems, rest, n, _, rfl, rfl, hb, hl, hm, hlen, hel, hsp, hns⟩
  ·exact ⟨[], ⟨none, 0, rfl, Nat.le_refl _, Kd.C_nil d W⟩, by simp, fun x hx => by cases hx⟩
  ·simp only [DataW.weights, ht] at hw
   have each : ∀ i, i < len → ∃ z : α, B z ∧ ∃ c, c.length = d.sz ∧ d.K W z c ∧ ∀ j u, c[j]? = some u → W.cell? (a.add (i * d.sz + j)) = some u := by
    intro i hi
    have h1 := hel i hi
    have hi' : i < elems.length := by omega
    rw [List.getElem?_eq_getElem hi', Option.bind_eq_some_iff] at h1
    obtain ⟨c, hcs, hy⟩ := h1
    obtain ⟨-, h2, h3⟩ := World.cells?_some hcs
    obtain ⟨z, hz, hB⟩ := h.get hy (fun n hn => hw n (by
     simp only [List.mem_cons, List.mem_append]
     exact .inr (.inl (weights_all (List.mem_map.2 ⟨_, List.getElem_mem hi', rfl⟩) n hn))))
    refine ⟨z, hB, c, by rw [h2, h.sz], hz, fun j u hj => ?_⟩
    have hj' : j < P.cellsOf e := by
     have := (List.getElem?_eq_some_iff.1 hj).1
     omega
    have h4 := h3 j hj'
    rw [add_add, h.sz] at h4
    rw [h4, hj]
   obtain ⟨xs, hxl, hxs⟩ := each_list len each
   subst hxl
   have hz := hw _ (List.mem_cons_self ..)
   simp only [List.length_map] at hz
   have h5 : xs.length * P.bytesOf e ≤ (elems.length + rest.length) * P.bytesOf e := Nat.mul_le_mul_right _ (by omega)
   have h6 : reachBytes = 140737488351232 := rfl
   refine ⟨xs, ⟨some a, cap, rfl, hl, rfl, ?_, fun _ => ⟨a, rfl, fun j p hj => (hxs j p hj).2⟩⟩, by omega, fun x hx => ?_⟩
   ·have : maxLen = 9223372036854775807 := rfl
    omega
   ·obtain ⟨i, hi⟩ := List.getElem?_of_mem hx
    exact (hxs i x hi).1⟩
structure OpensF {α : Type} (P : Program) (d : Kd α) (fs : List Field) (o : Nat) (B : α → Prop) : Prop where
 get : ∀ {H : Type} {enc : TypeId × Value → H} {W : World} {n : Nat} {cs : List Value} {xs : List (DataW H × List MemPlace)}, xs.length = fs.length →
  (∀ (i : Nat) (f : Field), fs[i]? = some f → DataW.trod enc P W 0 (fun _ => true) true n f.type ((cs.drop f.offset).take (P.cellsOf f.type)) = xs[i]?) →
  (∀ m ∈ DataW.weightsEach P (fs.map (·.type)) (xs.map (·.1)), m ≤ reachBytes) → ∃ a, d.K W a ((cs.drop o).take d.sz) ∧ B a
theorem OpensF.one {α : Type} {P : Program} {d : Kd α} {B : α → Prop} {f : Field} {o : Nat} (ho : f.offset = o) (h : Opens P d f.type B) : OpensF P d [f] o B := by
 refine ⟨fun {H enc W n cs xs} hl hx hw => ?_⟩
 match xs, hl with
 | [x], _ =>
  have h0 := hx 0 f rfl
  rw [h.sz, ho] at h0
  simp only [List.getElem?_cons_zero] at h0
  exact h.get h0 (fun m hm => hw m (by simp only [List.map_cons, List.map_nil, DataW.weightsEach, List.mem_append]; exact .inl hm))
theorem OpensF.cons {α β : Type} {P : Program} {d : Kd α} {d' : Kd β} {B : α → Prop} {B' : β → Prop} {f : Field} {fs : List Field} {o : Nat} (ho : f.offset = o) (h : Opens P d f.type B) (h' : OpensF P d' fs (o + d.sz) B') :
  OpensF P (Kd.pair d d') (f :: fs) o (fun x => B x.1 ∧ B' x.2) := by
 refine ⟨fun {H enc W n cs xs} hl hx hw => ?_⟩
 match xs, hl with
 | x :: xs, hl =>
  have h0 := hx 0 f rfl
  rw [h.sz, ho] at h0
  simp only [List.getElem?_cons_zero] at h0
  obtain ⟨a, ha, hB⟩ := h.get h0 (fun m hm => hw m (by simp only [List.map_cons, DataW.weightsEach, List.mem_append]; exact .inl hm))
  obtain ⟨b, hb, hB'⟩ := h'.get (enc := enc) (W := W) (n := n) (cs := cs) (xs := xs) (by simpa using hl) (fun i g hg => by have := hx (i + 1) g (by simpa using hg); simpa using this)
   (fun m hm => hw m (by simp only [List.map_cons, DataW.weightsEach, List.mem_append]; exact .inr hm))
  refine ⟨(a, b), ⟨_, _, ?_, ha, hb⟩, hB, hB'⟩
  show (cs.drop o).take (d.sz + d'.sz) = _
  rw [List.take_add, List.drop_drop]
theorem Opens.struct {α β : Type} {P : Program} {d : Kd α} {B : α → Prop} {t : TypeId} {fs : Array Field} (ht : P.underlying t = some (.struct fs)) (hc : P.cellsOf t = d.sz) (h : OpensF P d fs.toList 0 B) (f : β → α) (g : α → β) (hg : ∀ a, f (g a) = a) :
  Opens P (Kd.iso d f) t (fun x => B (f x)) :=
 ⟨hc, fun {H enc W fuel cs x} hf hw => by
  obtain ⟨xs, n, _, rfl, hl, hlen, hx⟩ := DataW.trod_struct ht hf
  simp only [DataW.weights, ht] at hw
  obtain ⟨a, ha, hB⟩ := h.get (enc := enc) (W := W) (n := n) (cs := cs) (xs := xs) (by simpa using hlen) (fun i g hg => hx i g (by simpa using hg)) hw
  refine ⟨g a, ?_, by rw [hg]; exact hB⟩
  show d.K W (f (g a)) cs
  rw [hg]
  rw [List.drop_zero, List.take_of_length_le (by omega)] at ha
  exact ha⟩
theorem Opens.imp {α : Type} {P : Program} {d : Kd α} {t : TypeId} {B B' : α → Prop} (h : Opens P d t B) (hB : ∀ a, B a → B' a) : Opens P d t B' :=
 ⟨h.sz, fun hf hw => by obtain ⟨a, ha, hb⟩ := h.get hf hw; exact ⟨a, ha, hB a hb⟩⟩
theorem Opens.param {α : Type} {P : Program} {d : Kd α} {t : TypeId} {B : α → Prop} (h : Opens P d t B) {H : Type} {enc : TypeId × Value → H} {W : World} {v : Value} {x : DataW H} {p : List MemPlace} {ts : List TypeId} {ds : List (DataW H)} {j : Nat}
  (hsz : (DataW.weightsEach P ts ds).all (· ≤ reachBytes) = true) (hj : ts[j]? = some t) (hd : ds[j]? = some x) (ht : DataW.Trod enc P W 0 (fun _ => true) true t v x p) : ∃ a, d.K W a v.cells.toList ∧ B a := by
 obtain ⟨fuel, hf⟩ := ht
 exact h.get hf (fun n hn => by simpa using List.all_eq_true.1 hsz _ (DataW.weights_mem_each hj hd n hn))
theorem Opens.row {α : Type} {P : Program} {d : Kd α} {t e : TypeId} {B : List α → Prop} (h : Opens P (Kd.slice e d) t B) {H : Type} {enc : TypeId × Value → H} {W : World} {A : Option Addr} {n c : Nat} {x : DataW H} {p : List MemPlace} {ts : List TypeId} {ds : List (DataW H)} {j : Nat}
  (hsz : (DataW.weightsEach P ts ds).all (· ≤ reachBytes) = true) (hj : ts[j]? = some t) (hd : ds[j]? = some x) (ht : DataW.Trod enc P W 0 (fun _ => true) true t (.slice A n c) x p) :
  ∃ xs : List α, xs.length = n ∧ d.C W A n xs ∧ n ≤ c ∧ B xs := by
 obtain ⟨xs, ⟨A', c', he, hl, hC⟩, hB⟩ := h.param hsz hj hd ht
 simp [Value.cells] at he
 obtain ⟨rfl, rfl, rfl⟩ := he
 exact ⟨xs, rfl, hC, hl, hB⟩
end Go.Proofs.YtbngbefchobfnaaGreatDoor

namespace Go.Proofs.YtbngbefchobfnaaGreatDoor
open Go.RowKit Go.Proofs.YtbngbefchobfnaaGreatDoor.Print Go.Proofs.YtbngbefchobfnaaGreatDoorW.PrintWords
theorem o_str : Opens Tryz.prog Kd.string 9 (fun s => s.size ≤ 140737488351232) := Opens.string Tryz.underlying9 (by kernel_rfl)
theorem o_u8 : Opens Tryz.prog (Kd.int .u8) 5 (fun n => (Lit.int .u8 n).wf = true) := Opens.int Tryz.underlying5 (by kernel_rfl)
theorem o_int : Opens Tryz.prog (Kd.int .i64) 3 (fun n => (Lit.int .i64 n).wf = true) := Opens.int Tryz.underlying3 (by kernel_rfl)
theorem o_bytes : Opens Tryz.prog (Kd.slice 5 (Kd.int .u8)) 40 (fun xs => xs.length ≤ 140737488351232) :=
 (Opens.slice Tryz.underlying40 (by kernel_rfl) o_u8).imp (fun xs h => by
  have hb : Tryz.prog.bytesOf 5 = 1 := by kernel_rfl
  have h1 := h.1
  rw [hb] at h1
  omega)
theorem o_meta : Opens Tryz.prog k39 39 (fun _ => True) := by
 have h := Opens.struct Tryz.underlying39 (by kernel_rfl) (OpensF.cons rfl o_int (OpensF.cons rfl o_int (OpensF.cons rfl o_int (OpensF.one rfl o_int)))) (fun x : S39 => (x.f0, x.f1, x.f2, x.f3)) (fun p => ⟨p.1, p.2.1, p.2.2.1, p.2.2.2⟩) (fun _ => rfl)
 exact Opens.imp h (fun _ _ => trivial)
theorem o_node : Opens Tryz.prog k42 42 NodeZ := by
 have h := Opens.struct Tryz.underlying42 (by kernel_rfl) (OpensF.cons rfl o_str (OpensF.cons rfl o_str (OpensF.cons rfl o_str (OpensF.cons rfl o_u8 (OpensF.cons rfl o_meta (OpensF.one rfl o_bytes)))))) (fun x : S42 => (x.f0, x.f1, x.f2, x.f3, x.f4, x.f5)) (fun p => ⟨p.1, p.2.1, p.2.2.1, p.2.2.2.1, p.2.2.2.2.1, p.2.2.2.2.2⟩) (fun _ => rfl)
 exact Opens.imp h (fun _ hx => ⟨hx.1, hx.2.1, hx.2.2.1, hx.2.2.2.2.2⟩)
theorem o_nodes : Opens Tryz.prog (Kd.slice 42 k42) 22 (fun xs => (∀ x ∈ xs, NodeZ x) ∧ xs.length ≤ 140737488351232) :=
 (Opens.slice Tryz.underlying22 (by kernel_rfl) o_node).imp (fun xs h => ⟨h.2, by
  have hb : Tryz.prog.bytesOf 42 = 112 := by kernel_rfl
  have h1 := h.1
  rw [hb] at h1
  omega⟩)
end Go.Proofs.YtbngbefchobfnaaGreatDoor
