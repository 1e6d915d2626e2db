/-
  Part of the proof that MergeOne answers true: texts put together (wip/bundle.py).
-/
import Derived.Test.YtbngbefchobfnaaGreatDoorCMergeOne4
import Derived.Deep.RegionHeld3
import Derived.Laws.Cover1
import Derived.Deep.LoopGhost
import Derived.Deep.DeepCutAuto
import Derived.IntWalk
import Derived.SizedLaws
import Derived.ChangeSlices
import Derived.OpenShut
namespace Go.Proofs.YtbngbefchobfnaaGreatDoor
open Go.RowKit Go.Maps Go.Proofs.YtbngbefchobfnaaGreatDoor.Print Go.Proofs.YtbngbefchobfnaaGreatDoorW.PrintWords Go.Proofs.YtbngbefchobfnaaGreatDoorW.PrintLast Go.Proofs.YtbngbefchobfnaaGreatDoorW.PrintMore
set_option linter.unusedVariables false
set_option linter.unusedSimpArgs false
abbrev goodtwA_0 : Array Bool := #[false, false, false, false, false, false, false, false, false, false, false, false, false, false, false, false, false, false, false, false, false, false, false, false, false, false, false, false, false, false, false, false, false]
abbrev goodtwA_1 : Array Bool := tb_ 33 1
abbrev goodtwA_2 : Array Bool := tb_ 33 3
abbrev goodtwA_3 : Array Bool := tb_ 33 7
abbrev goodtwA_4 : Array Bool := tb_ 33 15
abbrev goodtwA_5 : Array Bool := tb_ 33 31
abbrev goodtwA_6 : Array Bool := tb_ 33 63
abbrev goodtwA_7 : Array Bool := tb_ 33 127
abbrev goodtwA_8 : Array Bool := tb_ 33 255
abbrev goodtwA_9 : Array Bool := tb_ 33 511
abbrev goodtwA_10 : Array Bool := tb_ 33 1023
abbrev goodtwA_11 : Array Bool := tb_ 33 2047
abbrev goodtwA_12 : Array Bool := tb_ 33 4095
abbrev goodtwA_13 : Array Bool := tb_ 33 8191
abbrev goodtwA_14 : Array Bool := tb_ 33 16383
abbrev goodtwA_15 : Array Bool := tb_ 33 32767
abbrev goodtwA_16 : Array Bool := tb_ 33 65535
abbrev goodtwA_17 : Array Bool := tb_ 33 131071
abbrev goodtwA_18 : Array Bool := tb_ 33 262143
abbrev goodtwA_19 : Array Bool := tb_ 33 524287
abbrev goodtwA_20 : Array Bool := tb_ 33 1048575
abbrev goodtwA_21 : Array Bool := tb_ 33 2097151
abbrev goodtwA_22 : Array Bool := tb_ 33 4194303
abbrev goodtwA_23 : Array Bool := tb_ 33 8388607
abbrev goodtwA_24 : Array Bool := tb_ 33 16777215
abbrev goodtwA_25 : Array Bool := tb_ 33 33554431
abbrev goodtwA_26 : Array Bool := tb_ 33 67108863
abbrev goodtwA_27 : Array Bool := tb_ 33 134217727
abbrev goodtwA_28 : Array Bool := tb_ 33 268435455
abbrev goodtwA_29 : Array Bool := tb_ 33 536870911
abbrev goodtwA_30 : Array Bool := tb_ 33 1073741823
abbrev goodtwA_31 : Array Bool := tb_ 33 2147483647
abbrev goodtwA_32 : Array Bool := tb_ 33 4294967295
abbrev goodtwA_33 : Array Bool := tb_ 33 8589934591
abbrev gq_0 : Array Bool := goodtwA_0
abbrev gq_1 : Array Bool := goodtwA_1
abbrev gq_2 : Array Bool := goodtwA_2
abbrev gq_3 : Array Bool := goodtwA_3
abbrev gq_4 : Array Bool := goodtwA_4
abbrev gq_5 : Array Bool := goodtwA_5
abbrev gq_6 : Array Bool := goodtwA_6
abbrev gq_7 : Array Bool := goodtwA_7
abbrev gq_8 : Array Bool := goodtwA_8
abbrev gq_9 : Array Bool := goodtwA_9
abbrev gq_10 : Array Bool := goodtwA_10
abbrev gq_11 : Array Bool := goodtwA_11
abbrev gq_12 : Array Bool := goodtwA_12
abbrev gq_13 : Array Bool := goodtwA_13
abbrev gq_14 : Array Bool := goodtwA_14
abbrev gq_15 : Array Bool := goodtwA_15
abbrev gq_16 : Array Bool := goodtwA_16
abbrev gq_17 : Array Bool := goodtwA_17
abbrev gq_18 : Array Bool := goodtwA_18
abbrev gq_19 : Array Bool := goodtwA_19
abbrev gq_20 : Array Bool := goodtwA_20
abbrev gq_21 : Array Bool := goodtwA_21
abbrev gq_22 : Array Bool := goodtwA_22
abbrev gq_23 : Array Bool := goodtwA_23
abbrev gq_24 : Array Bool := goodtwA_24
abbrev gq_25 : Array Bool := goodtwA_25
abbrev gq_26 : Array Bool := goodtwA_26
abbrev gq_27 : Array Bool := goodtwA_27
abbrev gq_28 : Array Bool := goodtwA_28
abbrev gq_29 : Array Bool := goodtwA_29
abbrev gq_30 : Array Bool := goodtwA_30
abbrev gq_31 : Array Bool := goodtwA_31
abbrev gq_32 : Array Bool := goodtwA_32
abbrev gq_33 : Array Bool := goodtwA_33
theorem lt_of_alloc {w w1 : World} {o : Obj} (hb : Below (w.alloc o).heap.size (w.alloc o) w1) : w.heap.size < w1.heap.size := Nat.lt_of_lt_of_le (by rw [World.size_alloc]; exact Nat.lt_succ_self _) hb.size
def RefRel (l : List Node) (W : World) (i : Int) (wr : World) : Prop := 0 ≤ i ∧ i ≤ l.length ∧ (∀ (j : Nat) (hj : j < l.length), (j : Int) < i → nodeOk l j hj = true) ∧ Below W.heap.size W wr
def headOk (l : List Node) (i : Nat) (h : i < l.length) : Bool := (decide (i = 0) || lt (l[i - 1]'(by omega)).f0 l[i].f0) && !decide (l[i].f3 = 49) && goodM (memOf l[i])
theorem nodeOk_head (l : List Node) (i : Nat) (h : i < l.length) : nodeOk l i h = (headOk l i h && ledB (l.take (i + 1)) l[i]) := rfl
def nodeObj (x : Node) (v : Value) : Obj := .cells #[.string x.f0, .string x.f1, .string x.f2, .int .u8 x.f3, .int .i64 x.f4.f0, .int .i64 x.f4.f1, .int .i64 x.f4.f2, .int .i64 x.f4.f3, v] 42
def boxed (w : World) (g : Nat) (x : Node) (v : Value) : Prop := (w.cell? ⟨g, 0, none⟩ = some (.string x.f0) ∧ w.cell? ⟨g, 1, none⟩ = some (.string x.f1) ∧ w.cell? ⟨g, 2, none⟩ = some (.string x.f2) ∧ w.cell? ⟨g, 3, none⟩ = some (.int .u8 x.f3)) ∧ (w.cell? ⟨g, 4, none⟩ = some (.int .i64 x.f4.f0) ∧ w.cell? ⟨g, 5, none⟩ = some (.int .i64 x.f4.f1) ∧ w.cell? ⟨g, 6, none⟩ = some (.int .i64 x.f4.f2) ∧ w.cell? ⟨g, 7, none⟩ = some (.int .i64 x.f4.f3)) ∧ w.cell? ⟨g, 8, none⟩ = some v
theorem boxed.below {w w1 : World} {g : Nat} {x : Node} {v : Value} (h : boxed w g x v) (hb : Below w.heap.size w w1) : boxed w1 g x v :=
 ⟨⟨bkeep hb h.1.1, bkeep hb h.1.2.1, bkeep hb h.1.2.2.1, bkeep hb h.1.2.2.2⟩, ⟨bkeep hb h.2.1.1, bkeep hb h.2.1.2.1, bkeep hb h.2.1.2.2.1, bkeep hb h.2.1.2.2.2⟩, bkeep hb h.2.2⟩
def Mid5 (l : List Node) (n : Nat) (h : n < l.length) (g : Nat) (x : Node) (v : Value) (b : Bool) (wr wx : World) : Prop := b = !(headOk l n h) ∧ Below wr.heap.size wr wx ∧ boxed wx g x v
theorem mid5_1 {l : List Node} {W w1 : World} {n : Nat} {h : n < l.length} {g : Nat} {x : Node} {v : Value} {b : Bool} (hb : b = !(headOk l n h)) (hB : Below W.heap.size W w1)
  (hh : w1.cell? ⟨g, 0, none⟩ = some (.string x.f0) ∧ w1.cell? ⟨g, 1, none⟩ = some (.string x.f1) ∧ w1.cell? ⟨g, 2, none⟩ = some (.string x.f2) ∧ w1.cell? ⟨g, 3, none⟩ = some (.int .u8 x.f3) ∧ w1.cell? ⟨g, 4, none⟩ = some (.int .i64 x.f4.f0) ∧ w1.cell? ⟨g, 5, none⟩ = some (.int .i64 x.f4.f1) ∧ w1.cell? ⟨g, 6, none⟩ = some (.int .i64 x.f4.f2) ∧ w1.cell? ⟨g, 7, none⟩ = some (.int .i64 x.f4.f3) ∧ w1.cell? ⟨g, 8, none⟩ = some v) : Mid5 l n h g x v b W w1 :=
 ⟨hb, hB, ⟨hh.1, hh.2.1, hh.2.2.1, hh.2.2.2.1⟩, ⟨hh.2.2.2.2.1, hh.2.2.2.2.2.1, hh.2.2.2.2.2.2.1, hh.2.2.2.2.2.2.2.1⟩, hh.2.2.2.2.2.2.2.2⟩
theorem mid5_2 {l : List Node} {W w1 : World} {n : Nat} {h : n < l.length} {g : Nat} {x : Node} {v : Value} {b : Bool} {p : Prop} (hb : b = !(headOk l n h)) (hB : Below W.heap.size W w1)
  (hh : w1.cell? ⟨g, 0, none⟩ = some (.string x.f0) ∧ w1.cell? ⟨g, 1, none⟩ = some (.string x.f1) ∧ w1.cell? ⟨g, 2, none⟩ = some (.string x.f2) ∧ w1.cell? ⟨g, 3, none⟩ = some (.int .u8 x.f3) ∧ w1.cell? ⟨g, 4, none⟩ = some (.int .i64 x.f4.f0) ∧ w1.cell? ⟨g, 5, none⟩ = some (.int .i64 x.f4.f1) ∧ w1.cell? ⟨g, 6, none⟩ = some (.int .i64 x.f4.f2) ∧ w1.cell? ⟨g, 7, none⟩ = some (.int .i64 x.f4.f3) ∧ w1.cell? ⟨g, 8, none⟩ = some v ∧ p) : Mid5 l n h g x v b W w1 :=
 ⟨hb, hB, ⟨hh.1, hh.2.1, hh.2.2.1, hh.2.2.2.1⟩, ⟨hh.2.2.2.2.1, hh.2.2.2.2.2.1, hh.2.2.2.2.2.2.1, hh.2.2.2.2.2.2.2.1⟩, hh.2.2.2.2.2.2.2.2.1⟩
theorem prev_lt {l : List Node} {n j : Int} {h : j.toNat < l.length} {h' : n.toNat - 1 < l.length} {y0 x0 : ByteArray} {b : Bool} (hy : l[j.toNat].f0 = y0) (hj : j = n - 1) (hl : Op.bytesLess y0.toList x0.toList = b) : lt (l[n.toNat - 1]).f0 x0 = b := by
 subst hj
 unfold lt
 rw [← hl, ← hy]
 congr 4
 omega
theorem refRel_next {l : List Node} {W wr w1 : World} {n : Int} (h : RefRel l W n wr) (hn : n.toNat < l.length) (h1 : headOk l n.toNat hn = true) (h2 : ledB (l.take (n.toNat + 1)) l[n.toNat] = true) (hB : Below W.heap.size W w1) : RefRel l W (n + 1) w1 := by
 have h0 := h.1
 refine ⟨by omega, by omega, fun q hq hqn => ?_, hB⟩
 rcases Nat.lt_or_ge q n.toNat with hh | hh
 ·exact h.2.2.1 q hq (by omega)
 ·obtain rfl : q = n.toNat := by omega
  rw [nodeOk_head, h1, h2]; rfl
def leadB (y x : Node) : Bool := decide (y.f3 = 48 ∧ y.f2.toList = y.f0.toList ∧ y.f4.f0 = x.f4.f0 ∧ y.f4.f1 = x.f4.f1 ∧ y.f4.f2 = x.f4.f2 ∧ y.f4.f3 = x.f4.f3 ∧ (strOfNums y.f5).toList = (strOfNums x.f5).toList)
theorem leadB_4 {y x : Node} (h : (y.f4.f0 == x.f4.f0 && (y.f4.f1 == x.f4.f1 && (y.f4.f2 == x.f4.f2 && (y.f4.f3 == x.f4.f3)))) = false) : (true && leadB y x) = false := by
 rw [Bool.true_and]
 unfold leadB
 rw [decide_eq_false]
 rintro ⟨_, _, h0, h1, h2, h3, _⟩
 rw [h0, h1, h2, h3] at h
 simp at h
theorem leadB_ok {y x : Node} (h3 : y.f3 = 48) (h2 : y.f2.toList = y.f0.toList) (h : (y.f4.f0 == x.f4.f0 && (y.f4.f1 == x.f4.f1 && (y.f4.f2 == x.f4.f2 && (y.f4.f3 == x.f4.f3)))) = true) (h5 : (strOfNums y.f5).toList = (strOfNums x.f5).toList) : (true && leadB y x) = true := by
 rw [Bool.true_and]
 unfold leadB
 simp only [Bool.and_eq_true, beq_iff_eq] at h
 rw [decide_eq_true_iff]
 exact ⟨h3, h2, h.1, h.2.1, h.2.2.1, h.2.2.2, h5⟩
theorem nodeOk_lead {l : List Node} {n : Nat} {x y : Node} {b : Bool} (hn : n < l.length) (hx : x = l[n]) (hR : ∀ (j : Nat) (hj : j < l.length), j < n → nodeOk l j hj = true) (hh : headOk l n hn = true) (h48 : x.f3 = 48)
  (hm : match findF (l.take (n + 1)) x.f2 with | some z => y = z ∧ b = true | none => y = z42 ∧ b = false) : nodeOk l n hn = (b && leadB y x) := by
 rw [nodeOk_head, hh, Bool.true_and]
 rw [← hx]
 unfold ledB
 rw [if_pos h48]
 cases hf : findF (l.take (n + 1)) x.f2 with
 | none =>
  rw [hf] at hm
  rw [hm.2]; rfl
 | some z =>
  rw [hf] at hm
  obtain ⟨rfl, rfl⟩ := hm
  rw [Bool.true_and]
  unfold leadB
  dsimp only
  have hlt : lt x.f0 y.f0 = false := by
   have hmem : y ∈ l.take (n + 1) := List.mem_of_find?_eq_some hf
   obtain ⟨t, ht, he⟩ := List.getElem_of_mem hmem
   rw [List.length_take] at ht
   rw [List.getElem_take] at he
   rcases Nat.lt_or_ge t n with h | h
   ·have hr : ∀ (d s : Nat) (hs : s + d + 1 ≤ n), lt (l[s]'(by omega)).f0 (l[s + d + 1]'(by omega)).f0 = true := by
     have h1 : ∀ (s : Nat) (hs : s + 1 ≤ n), lt (l[s]'(by omega)).f0 (l[s + 1]'(by omega)).f0 = true := by
      intro s hs
      have hd : headOk l (s + 1) (by omega) = true := by
       rcases Nat.lt_or_ge (s + 1) n with h2 | h2
       ·have := hR (s + 1) (by omega) h2
        rw [nodeOk_head, Bool.and_eq_true] at this
        exact this.1
       ·obtain rfl : s + 1 = n := by omega
        exact hh
      unfold headOk at hd
      simp only [Bool.and_eq_true, Bool.or_eq_true, decide_eq_true_iff] at hd
      rcases hd.1.1 with h3 | h3
      ·omega
      ·exact h3
     intro d
     induction d with
     | zero => intro s hs; exact h1 s hs
     | succ d ih => intro s hs; exact lt_trans (ih s (by omega)) (h1 (s + d + 1) (by omega))
    have h2 := hr (n - t - 1) t (by omega)
    have h3 : t + (n - t - 1) + 1 = n := by omega
    simp only [h3] at h2
    rw [he, ← hx] at h2
    exact lt_asym h2
   ·obtain rfl : t = n := by omega
    rw [← he, hx, lt_irr]
  refine decide_eq_decide.2 ⟨fun h => ⟨h.1, h.2.1, h.2.2.2⟩, fun h => ⟨h.1, h.2.1, hlt, h.2.2⟩⟩
def Mid10 (l : List Node) (n g : Nat) (x : Node) (v : Value) (g' : Nat) (y : Node) (b : Bool) (A : Option Addr) (c : Nat) (wc wx : World) : Prop :=
 (match findF (l.take (n + 1)) x.f2 with | some z => y = z ∧ b = true | none => y = z42 ∧ b = false) ∧ Below wc.heap.size wc wx ∧ boxed wx g x v ∧ boxed wx g' y (.slice A y.f5.length c) ∧ Kd.C (Kd.int .u8) wx A y.f5.length y.f5
def putNode (w : World) (g : Nat) (x : Node) (v : Value) : World := ((((((((w.setCell ⟨g, 0, none⟩ (.string x.f0)).setCell ⟨g, 1, none⟩ (.string x.f1)).setCell ⟨g, 2, none⟩ (.string x.f2)).setCell ⟨g, 3, none⟩ (.int .u8 x.f3)).setCell ⟨g, 4, none⟩ (.int .i64 x.f4.f0)).setCell ⟨g, 5, none⟩ (.int .i64 x.f4.f1)).setCell ⟨g, 6, none⟩ (.int .i64 x.f4.f2)).setCell ⟨g, 7, none⟩ (.int .i64 x.f4.f3)).setCell ⟨g, 8, none⟩ v
theorem boxed.put {w : World} {g g' : Nat} {x y : Node} {v u : Value} (h : boxed w g x v) (hne : g ≠ g') : boxed (putNode w g' y u) g x v := by
 have e : ∀ j, (putNode w g' y u).cell? ⟨g, j, none⟩ = w.cell? ⟨g, j, none⟩ := fun j => by
  have hh : ∀ i, (⟨g', i, none⟩ : Addr) ≠ ⟨g, j, none⟩ := fun i h => by injection h with h; exact hne h.symm
  unfold putNode
  rw [World.cell?_setCell_other _ _ _ _ (hh _), World.cell?_setCell_other _ _ _ _ (hh _), World.cell?_setCell_other _ _ _ _ (hh _), World.cell?_setCell_other _ _ _ _ (hh _), World.cell?_setCell_other _ _ _ _ (hh _), World.cell?_setCell_other _ _ _ _ (hh _), World.cell?_setCell_other _ _ _ _ (hh _), World.cell?_setCell_other _ _ _ _ (hh _), World.cell?_setCell_other _ _ _ _ (hh _)]
 unfold boxed
 simp only [e]
 exact h
theorem boxed.puts {w : World} {g : Nat} {x : Node} {v : Value} (h : ∀ j, j < 9 → (w.cell? ⟨g, j, none⟩).isSome = true) : boxed (putNode w g x v) g x v := by
 obtain ⟨u0, h0⟩ := Option.isSome_iff_exists.1 (h 0 (by omega))
 obtain ⟨u1, h1⟩ := Option.isSome_iff_exists.1 (h 1 (by omega))
 obtain ⟨u2, h2⟩ := Option.isSome_iff_exists.1 (h 2 (by omega))
 obtain ⟨u3, h3⟩ := Option.isSome_iff_exists.1 (h 3 (by omega))
 obtain ⟨u4, h4⟩ := Option.isSome_iff_exists.1 (h 4 (by omega))
 obtain ⟨u5, h5⟩ := Option.isSome_iff_exists.1 (h 5 (by omega))
 obtain ⟨u6, h6⟩ := Option.isSome_iff_exists.1 (h 6 (by omega))
 obtain ⟨u7, h7⟩ := Option.isSome_iff_exists.1 (h 7 (by omega))
 obtain ⟨u8, h8⟩ := Option.isSome_iff_exists.1 (h 8 (by omega))
 clear h
 unfold boxed putNode
 simp [go_sem, h0, h1, h2, h3, h4, h5, h6, h7, h8]
theorem below_putNode {B : Nat} {a w : World} (h : Below B a w) (g : Nat) (hg : B ≤ g) (x : Node) (v : Value) : Below B a (putNode w g x v) := by
 unfold putNode
 repeat (refine below_put ?_ _ _ hg _)
 exact h
theorem mid10_a {l : List Node} {wc w1 : World} {n : Int} {g c : Nat} {x y : Node} {v : Value} {b : Bool} {A : Option Addr} (hm : match findF (l.take (n + 1).toNat) x.f2 with | some z => y = z ∧ b = true | none => y = z42 ∧ b = false) (hx : boxed wc g x v) (hb : Below wc.drew.heap.size wc.drew w1)
  (hC : Kd.F (Kd.int .u8) w1 (fun k => k < wc.heap.size ∨ wc.drew.heap.size ≤ k) A y.f5.length y.f5) (hn : 0 ≤ n) : Mid10 l n.toNat g x v w1.heap.size y b A c wc (w1.alloc (nodeObj y (.slice A y.f5.length c))) := by
 have hb' : Below wc.heap.size wc w1 := (below_drew (Below.refl _ _)).trans hb
 refine ⟨by rw [show n.toNat + 1 = (n + 1).toNat by omega]; exact hm, hb'.alloc hb'.size _, (hx.below hb').below (below_alloc (Below.refl _ _) _), ?_, Kd.F_now (Kd.F_alloc hC _)⟩
 unfold boxed nodeObj
 simp [go_sem]
theorem mid10_b {cs : Array Value} {l : List Node} {wc w1 : World} {n : Int} {g c : Nat} {x y : Node} {v : Value} {b : Bool} {A : Option Addr} (hm : match findF (l.take (n + 1).toNat) x.f2 with | some z => y = z ∧ b = true | none => y = z42 ∧ b = false) (hx : boxed wc g x v) (hb : Below (wc.drew.alloc (.cells cs 42)).heap.size (wc.drew.alloc (.cells cs 42)) w1)
  (hC : Kd.F (Kd.int .u8) w1 (fun k => k < wc.heap.size ∨ (wc.drew.alloc (.cells cs 42)).heap.size ≤ k) A y.f5.length y.f5) (hn : 0 ≤ n) (hcs : cs.size = 9) : Mid10 l n.toNat g x v wc.heap.size y b A c wc (putNode w1 wc.heap.size y (.slice A y.f5.length c)) := by
 have hs : (wc.drew.alloc (.cells cs 42)).heap.size = wc.heap.size + 1 := by rw [World.size_alloc]; rfl
 have hb' : Below wc.heap.size wc w1 := (below_alloc (below_drew (Below.refl _ _)) _).trans (hb.mono (by omega))
 have hlt : g < wc.heap.size := World.block_lt_of_cell? wc ⟨g, 2, none⟩ hx.1.2.2.1
 refine ⟨by rw [show n.toNat + 1 = (n + 1).toNat by omega]; exact hm, below_putNode hb' _ (Nat.le_refl _) _ _, (hx.below hb').put (by omega), boxed.puts (fun j hj => ?_), ?_⟩
 ·have h1 : w1.cell? ⟨wc.heap.size, j, none⟩ = (wc.drew.alloc (.cells cs 42)).cell? ⟨wc.heap.size, j, none⟩ := hb.cell (p := ⟨wc.heap.size, j, none⟩) (by rw [hs]; exact Nat.lt_succ_self _)
  rw [h1]
  have h2 : (wc.drew.alloc (.cells cs 42)).cell? ⟨wc.heap.size, j, none⟩ = cs[j]? := World.cell?_alloc_new wc.drew _ _ _
  rw [h2, Array.getElem?_eq_getElem (by omega)]
  rfl
 ·unfold putNode
  refine Kd.F_now (ok := fun k => k < wc.heap.size ∨ (wc.drew.alloc (.cells cs 42)).heap.size ≤ k) ?_
  repeat (refine Kd.F_far ?_ (p := ⟨wc.heap.size, _, none⟩) (fun k hk => by show k ≠ wc.heap.size; omega) _)
  exact hC
attribute [local go_sem high] eqA39
set_option maxRecDepth 100000 in
set_option maxHeartbeats 8000000 in
theorem RefTree_calls (A0 : Option Addr) (c0 : Nat) (l : List Node) (W : World) (hC : Kd.C k42 W A0 l.length l) (hc0 : l.length ≤ c0) (hz : NodesZ l) :
  Calls Tryz.prog 18 #[.slice A0 l.length c0] W fun e W' => e = .returned (.bool (goodTree l)) ∧ Below W.heap.size W W' := by
 have HC := Aside0.mk hC
 have HZ := Aside0.mk hz
 have HC0 := Aside0.mk hc0
 have hlen : (l.length : Int) ≤ 1000000000000 := by have := hz.1; omega
 clear hC hz hc0
 generalize hpost : (fun (e : Ending) (W' : World) => e = .returned (.bool (goodTree l)) ∧ Below W.heap.size W W') = Q
 have hQ := Aside0.mk hpost
 clear hpost
 go_enter Tryz.func18, Tryz.ntmps18
 go_wp2
 go_loopg [3] (l.length) (fun g i wr => ∃ n : Int, i = .int .i64 n ∧ Aside0 (RefRel l W n wr) ∧ Aside0 ((g : Int) + n = l.length))
 case atStart => exact ⟨0, rfl, ⟨⟨by omega, by omega, fun j hj h => absurd h (by omega), Below.refl _ _⟩⟩, ⟨by omega⟩⟩
 case round =>
  obtain ⟨n, rfl, HR, HG⟩ := hrel
  have h0 := HR.out.1
  have h1 := HR.out.2.1
  have hB := HR.out.2.2.2
  have HB := Aside0.mk hB
  by_cases hlt : n < (l.length : Int)
  ·have hnl : n.toNat < l.length := by omega
   obtain ⟨ad, A7, c7, rfl, x0, x1, x2, x3, x4, x5, x6, x7, x8, hl7, hC7⟩ := at_T42 (Kd.C_below HC.out hB) n h0 hlt
   have hx := rdN_at l n h0 hlt
   have hxz : NodeZ (rd_T42 l n) := by rw [hx]; exact HZ.out.2 _ (List.getElem_mem _)
   generalize rd_T42 l n = x at hx hxz x0 x1 x2 x3 x4 x5 x6 x7 x8 hl7 hC7
   have HX := Aside0.mk hx
   have HXZ := Aside0.mk hxz
   have HC7 := Aside0.mk hC7
   have c1b : decide (n < (l.length : Int)) = true := decide_eq_true hlt
   clear hx hxz hC7
   have hmr : MemR (memOf x) := ⟨HXZ.out.1, HXZ.out.2.1, HXZ.out.2.2.2⟩
   obtain ⟨kg, hkg⟩ := Ev.rounds (refGood_eq (memOf x) hmr)
   generalize hgd : goodM (memOf x) = gd at hkg
   have HGD := Aside0.mk hgd
   have HKG : Aside0 (bindleref08_Good.f kg x.f0 x.f1 x.f3 x.f4.f0 x.f4.f1 x.f4.f2 x.f4.f3 x.f5 = some gd) := ⟨hkg⟩
   have HCA := Aside0.mk (fun o => Kd.C_alloc HC7.out o)
   have hl7' : x.f5.length ≤ c7 := hl7
   have HNL := Aside0.mk hnl
   clear hkg hmr hl7 hgd hnl
   go_upto_region 5 with (fail)
   go_cut [49] (fun v wx => ∃ b, v = .bool b ∧ Aside0 (Mid5 l n.toNat HNL.out wr.heap.size x (.slice A7 x.f5.length c7) b wr wx))
   case first =>
    by_cases hn0 : n = 0
    ·have g1 : decide (0 < n) = false := decide_eq_false (by omega)
     have g2 : decide (n > 0) = false := decide_eq_false (by omega)
     have HN0 := Aside0.mk hn0
     clear hn0
     by_cases h49 : x.f3 = 49
     ·have e49 : (x.f3 == 49) = true := beq_iff_eq.2 h49
      have H49 := Aside0.mk h49
      clear h49
      refine start_ (n := 33) (S := fun w' => w'.cell? ⟨wr.heap.size, 0, none⟩ = some (.string x.f0) ∧ w'.cell? ⟨wr.heap.size, 1, none⟩ = some (.string x.f1) ∧ w'.cell? ⟨wr.heap.size, 2, none⟩ = some (.string x.f2) ∧ w'.cell? ⟨wr.heap.size, 3, none⟩ = some (.int .u8 x.f3) ∧ w'.cell? ⟨wr.heap.size, 4, none⟩ = some (.int .i64 x.f4.f0) ∧ w'.cell? ⟨wr.heap.size, 5, none⟩ = some (.int .i64 x.f4.f1) ∧ w'.cell? ⟨wr.heap.size, 6, none⟩ = some (.int .i64 x.f4.f2) ∧ w'.cell? ⟨wr.heap.size, 7, none⟩ = some (.int .i64 x.f4.f3) ∧ w'.cell? ⟨wr.heap.size, 8, none⟩ = some (.slice A7 x.f5.length c7)) (ds := []) gq_0 (by kernel_rfl) rfl rfl ⟨by simp, by simp, by simp, by simp, by simp, by simp, by simp, by simp, by simp⟩ (fun hHeld => ?_)
      generalize hwq : (wr.alloc (.cells #[.string x.f0, .string x.f1, .string x.f2, .int .u8 x.f3, .int .i64 x.f4.f0, .int .i64 x.f4.f1, .int .i64 x.f4.f2, .int .i64 x.f4.f3, .slice A7 x.f5.length c7] 42)).drew = wq at hHeld ⊢
      refine pur_ (i := 0) (N := some 17) gq_1 (by kernel_rfl) ?_
      refine pur_ (i := 1) (N := some 18) gq_2 (by kernel_rfl) ?_
      refine pur_ (i := 2) (N := some 19) gq_3 (by kernel_rfl) ?_
      refine puu_ (i := 3) (N := some 20) gq_4 (by kernel_rfl) ?_
      refine puu_ (i := 4) (N := some 21) gq_5 (by kernel_rfl) ?_
      refine puu_ (i := 5) (N := some 22) gq_6 (by kernel_rfl) ?_
      refine puu_ (i := 6) (N := some 23) gq_7 (by kernel_rfl) ?_
      refine puu_ (i := 7) (N := some 24) gq_8 (by kernel_rfl) ?_
      refine puu_ (i := 8) (N := some 25) gq_9 (by kernel_rfl) ?_
      refine puu_ (i := 9) (N := some 26) gq_10 (by kernel_rfl) ?_
      refine puu_ (i := 10) (N := some 27) gq_11 (by kernel_rfl) ?_
      refine puu_ (i := 11) (N := some 28) gq_12 (by kernel_rfl) ?_
      refine pur_ (i := 12) (N := some 29) gq_13 (by kernel_rfl) ?_
      refine pur_ (i := 13) (N := some 30) gq_14 (by kernel_rfl) ?_
      refine pur_ (i := 14) (N := some 31) gq_15 (by kernel_rfl) ?_
      refine tak_ (i := 15) (N := some 32) gq_16 (by kernel_rfl) hHeld ?_
      refine pur_ (i := 16) (N := some 33) gq_17 (by kernel_rfl) ?_
      refine pur_ (i := 17) (N := some 34) gq_18 (by kernel_rfl) ?_
      refine pur_ (i := 18) (N := some 35) gq_19 (by kernel_rfl) ?_
      refine puu_ (i := 19) (N := some 36) gq_20 (by kernel_rfl) ?_
      refine puu_ (i := 20) (N := some 37) gq_21 (by kernel_rfl) ?_
      refine puu_ (i := 21) (N := some 38) gq_22 (by kernel_rfl) ?_
      refine puu_ (i := 22) (N := some 39) gq_23 (by kernel_rfl) ?_
      refine puu_ (i := 23) (N := some 40) gq_24 (by kernel_rfl) ?_
      refine puu_ (i := 24) (N := some 41) gq_25 (by kernel_rfl) ?_
      refine puu_ (i := 25) (N := some 42) gq_26 (by kernel_rfl) ?_
      refine puu_ (i := 26) (N := some 43) gq_27 (by kernel_rfl) ?_
      refine puu_ (i := 27) (N := some 44) gq_28 (by kernel_rfl) ?_
      refine puu_ (i := 28) (N := some 45) gq_29 (by kernel_rfl) ?_
      refine puu_ (i := 29) (N := some 46) gq_30 (by kernel_rfl) ?_
      refine puu_ (i := 30) (N := some 47) gq_31 (by kernel_rfl) ?_
      refine puu_ (i := 31) (N := some 48) gq_32 (by kernel_rfl) ?_
      refine pur_ (i := 32) (N := some 49) gq_33 (by kernel_rfl) ?_
      refine done_ (by kernel_rfl) ?_
      go_wp2_with (fail)
      go_meet
      exact ⟨true, rfl, ⟨mid5_1 (by unfold headOk; rw [← HX.out, decide_eq_true H49.out]; simp) (by rw [← hwq]; exact below_drew (below_alloc (Below.refl _ _) _)) hHeld⟩⟩
     ·have e49 : (x.f3 == 49) = false := beq_eq_false_iff_ne.2 h49
      have H49 := Aside0.mk h49
      clear h49
      refine start_ (n := 33) (S := fun w' => w'.cell? ⟨wr.heap.size, 0, none⟩ = some (.string x.f0) ∧ w'.cell? ⟨wr.heap.size, 1, none⟩ = some (.string x.f1) ∧ w'.cell? ⟨wr.heap.size, 2, none⟩ = some (.string x.f2) ∧ w'.cell? ⟨wr.heap.size, 3, none⟩ = some (.int .u8 x.f3) ∧ w'.cell? ⟨wr.heap.size, 4, none⟩ = some (.int .i64 x.f4.f0) ∧ w'.cell? ⟨wr.heap.size, 5, none⟩ = some (.int .i64 x.f4.f1) ∧ w'.cell? ⟨wr.heap.size, 6, none⟩ = some (.int .i64 x.f4.f2) ∧ w'.cell? ⟨wr.heap.size, 7, none⟩ = some (.int .i64 x.f4.f3) ∧ w'.cell? ⟨wr.heap.size, 8, none⟩ = some (.slice A7 x.f5.length c7)) (ds := []) gq_0 (by kernel_rfl) rfl rfl ⟨by simp, by simp, by simp, by simp, by simp, by simp, by simp, by simp, by simp⟩ (fun hHeld => ?_)
      generalize hwq : (wr.alloc (.cells #[.string x.f0, .string x.f1, .string x.f2, .int .u8 x.f3, .int .i64 x.f4.f0, .int .i64 x.f4.f1, .int .i64 x.f4.f2, .int .i64 x.f4.f3, .slice A7 x.f5.length c7] 42)).drew = wq at hHeld ⊢
      refine pur_ (i := 0) (N := some 17) gq_1 (by kernel_rfl) ?_
      refine pur_ (i := 1) (N := some 18) gq_2 (by kernel_rfl) ?_
      refine pur_ (i := 2) (N := some 19) gq_3 (by kernel_rfl) ?_
      refine puu_ (i := 3) (N := some 20) gq_4 (by kernel_rfl) ?_
      refine puu_ (i := 4) (N := some 21) gq_5 (by kernel_rfl) ?_
      refine puu_ (i := 5) (N := some 22) gq_6 (by kernel_rfl) ?_
      refine puu_ (i := 6) (N := some 23) gq_7 (by kernel_rfl) ?_
      refine puu_ (i := 7) (N := some 24) gq_8 (by kernel_rfl) ?_
      refine puu_ (i := 8) (N := some 25) gq_9 (by kernel_rfl) ?_
      refine puu_ (i := 9) (N := some 26) gq_10 (by kernel_rfl) ?_
      refine puu_ (i := 10) (N := some 27) gq_11 (by kernel_rfl) ?_
      refine puu_ (i := 11) (N := some 28) gq_12 (by kernel_rfl) ?_
      refine pur_ (i := 12) (N := some 29) gq_13 (by kernel_rfl) ?_
      refine pur_ (i := 13) (N := some 30) gq_14 (by kernel_rfl) ?_
      refine pur_ (i := 14) (N := some 31) gq_15 (by kernel_rfl) ?_
      refine tak_ (i := 15) (N := some 32) gq_16 (by kernel_rfl) hHeld ?_
      refine pur_ (i := 16) (N := some 33) gq_17 (by kernel_rfl) ?_
      refine pur_ (i := 17) (N := some 34) gq_18 (by kernel_rfl) ?_
      refine pur_ (i := 18) (N := some 35) gq_19 (by kernel_rfl) ?_
      refine pur_ (i := 19) (N := some 36) gq_20 (by kernel_rfl) ?_
      refine tak_ (i := 20) (N := some 37) gq_21 (by kernel_rfl) hHeld ?_
      refine pur_ (i := 21) (N := some 38) gq_22 (by kernel_rfl) ?_
      refine tak_ (i := 22) (N := some 39) gq_23 (by kernel_rfl) hHeld ?_
      refine pur_ (i := 23) (N := some 40) gq_24 (by kernel_rfl) ?_
      refine tak_ (i := 24) (N := some 41) gq_25 (by kernel_rfl) hHeld ?_
      refine pur_ (i := 25) (N := some 42) gq_26 (by kernel_rfl) ?_
      refine tak_ (i := 26) (N := some 43) gq_27 (by kernel_rfl) hHeld ?_
      refine pur_ (i := 27) (N := some 44) gq_28 (by kernel_rfl) ?_
      refine tak_ (i := 28) (N := some 45) gq_29 (by kernel_rfl) hHeld ?_
      refine pur_ (i := 29) (N := some 46) gq_30 (by kernel_rfl) ?_
      refine one_ (i := 30) (N := some 47) gq_31 rfl rfl (by kernel_rfl) (by decide) (fun K hK => ?_)
      refine goes_ Tryz.func34 (by kernel_rfl) rfl #[.agg #[.string x.f0, .string x.f1, .int .u8 x.f3, .int .i64 x.f4.f0, .int .i64 x.f4.f1, .int .i64 x.f4.f2, .int .i64 x.f4.f3, .slice A7 x.f5.length c7]] (by rfl) rfl rfl (by first | rfl | (simp [Act.eval]; done)) ?_
      refine (bindleref08_Good.calls kg x.f0 x.f1 x.f3 x.f4.f0 x.f4.f1 x.f4.f2 x.f4.f3 A7 c7 x.f5 gd wq (by rw [← hwq]; exact Kd.C_drew (HCA.out _)) hl7' HKG.out).mono ?_
      rintro e w5 ⟨rfl, hb5⟩
      refine ⟨_, rfl, ?_⟩
      refine hK.out _ _ ⟨bkeep hb5 hHeld.1, bkeep hb5 hHeld.2.1, bkeep hb5 hHeld.2.2.1, bkeep hb5 hHeld.2.2.2.1, bkeep hb5 hHeld.2.2.2.2.1, bkeep hb5 hHeld.2.2.2.2.2.1, bkeep hb5 hHeld.2.2.2.2.2.2.1, bkeep hb5 hHeld.2.2.2.2.2.2.2.1, bkeep hb5 hHeld.2.2.2.2.2.2.2.2⟩ (fun hHeld => ?_)
      clear hK K
      refine norm_ (a' := ?_) ?_ ?_
      rotate_left
      ·show Act.put _ (some 47) _ = _
       simp only [Act.put, List.setIfInBounds_toArray, List.set_cons_zero, List.set_cons_succ, i64_w, i32_w]
       rfl
      refine pur_ (i := 31) (N := some 48) gq_32 (by kernel_rfl) ?_
      refine pur_ (i := 32) (N := some 49) gq_33 (by kernel_rfl) ?_
      refine done_ (by kernel_rfl) ?_
      go_wp2_with (fail)
      go_meet
      exact ⟨!gd, rfl, ⟨mid5_1 (by unfold headOk; rw [← HX.out, HGD.out, decide_eq_false H49.out, decide_eq_true (show n.toNat = 0 by have := HN0.out; omega)]; simp) ((show Below wr.heap.size wr wq from by rw [← hwq]; exact below_drew (below_alloc (Below.refl _ _) _)).trans (hb5.mono (by rw [← hwq]; show wr.heap.size ≤ (wr.alloc (.cells #[.string x.f0, .string x.f1, .string x.f2, .int .u8 x.f3, .int .i64 x.f4.f0, .int .i64 x.f4.f1, .int .i64 x.f4.f2, .int .i64 x.f4.f3, .slice A7 x.f5.length c7] 42)).heap.size; rw [World.size_alloc]; omega))) hHeld⟩⟩
    ·have g1 : decide (0 < n) = true := decide_eq_true (by omega)
     have g2 : decide (n > 0) = true := decide_eq_true (by omega)
     obtain ⟨j, hj⟩ : ∃ j, j = n - 1 := ⟨_, rfl⟩
     have hn1 : 0 ≤ j := by omega
     have hn2 : j < (l.length : Int) := by omega
     obtain ⟨ad', _, _, hA, hp0, _⟩ := at_T42 (Kd.C_below HC.out HB.out) j hn1 hn2
     cases hA
     have hy := rdN_at l j hn1 hn2
     generalize hy0 : (rd_T42 l j).f0 = y0 at hp0
     rw [hy] at hy0
     have HN0 := Aside0.mk hn0
     have HY := Aside0.mk hy0
     have hw64 : wrap64 (n - 1) = j := by unfold wrap64; omega
     have HJ := Aside0.mk hj
     clear hn0 hy hy0 hj
     cases hls : Op.bytesLess y0.toList x.f0.toList with
     | false =>
      refine start_ (n := 33) (S := fun w' => w'.cell? ⟨wr.heap.size, 0, none⟩ = some (.string x.f0) ∧ w'.cell? ⟨wr.heap.size, 1, none⟩ = some (.string x.f1) ∧ w'.cell? ⟨wr.heap.size, 2, none⟩ = some (.string x.f2) ∧ w'.cell? ⟨wr.heap.size, 3, none⟩ = some (.int .u8 x.f3) ∧ w'.cell? ⟨wr.heap.size, 4, none⟩ = some (.int .i64 x.f4.f0) ∧ w'.cell? ⟨wr.heap.size, 5, none⟩ = some (.int .i64 x.f4.f1) ∧ w'.cell? ⟨wr.heap.size, 6, none⟩ = some (.int .i64 x.f4.f2) ∧ w'.cell? ⟨wr.heap.size, 7, none⟩ = some (.int .i64 x.f4.f3) ∧ w'.cell? ⟨wr.heap.size, 8, none⟩ = some (.slice A7 x.f5.length c7) ∧ w'.cell? (ad.add (j.toNat * 9)) = some (.string y0)) (ds := []) gq_0 (by kernel_rfl) rfl rfl ⟨by simp, by simp, by simp, by simp, by simp, by simp, by simp, by simp, by simp, acell hp0 _⟩ (fun hHeld => ?_)
      generalize hwq : (wr.alloc (.cells #[.string x.f0, .string x.f1, .string x.f2, .int .u8 x.f3, .int .i64 x.f4.f0, .int .i64 x.f4.f1, .int .i64 x.f4.f2, .int .i64 x.f4.f3, .slice A7 x.f5.length c7] 42)).drew = wq at hHeld ⊢
      refine pur_ (i := 0) (N := some 17) gq_1 (by kernel_rfl) ?_
      refine pur_ (i := 1) (N := some 18) gq_2 (by kernel_rfl) ?_
      refine pur_ (i := 2) (N := some 19) gq_3 (by kernel_rfl) ?_
      refine pur_ (i := 3) (N := some 20) gq_4 (by kernel_rfl) ?_
      refine pur_ (i := 4) (N := some 21) gq_5 (by kernel_rfl) ?_
      refine pur_ (i := 5) (N := some 22) gq_6 (by kernel_rfl) ?_
      refine pur_ (i := 6) (N := some 23) gq_7 (by kernel_rfl) ?_
      refine pur_ (i := 7) (N := some 24) gq_8 (by kernel_rfl) ?_
      refine tak_ (i := 8) (N := some 25) gq_9 (by kernel_rfl) hHeld ?_
      refine pur_ (i := 9) (N := some 26) gq_10 (by kernel_rfl) ?_
      refine tak_ (i := 10) (N := some 27) gq_11 (by kernel_rfl) hHeld ?_
      refine pur_ (i := 11) (N := some 28) gq_12 (by kernel_rfl) ?_
      refine pur_ (i := 12) (N := some 29) gq_13 (by kernel_rfl) ?_
      refine pur_ (i := 13) (N := some 30) gq_14 (by kernel_rfl) ?_
      refine puu_ (i := 14) (N := some 31) gq_15 (by kernel_rfl) ?_
      refine puu_ (i := 15) (N := some 32) gq_16 (by kernel_rfl) ?_
      refine puu_ (i := 16) (N := some 33) gq_17 (by kernel_rfl) ?_
      refine pur_ (i := 17) (N := some 34) gq_18 (by kernel_rfl) ?_
      refine pur_ (i := 18) (N := some 35) gq_19 (by kernel_rfl) ?_
      refine puu_ (i := 19) (N := some 36) gq_20 (by kernel_rfl) ?_
      refine puu_ (i := 20) (N := some 37) gq_21 (by kernel_rfl) ?_
      refine puu_ (i := 21) (N := some 38) gq_22 (by kernel_rfl) ?_
      refine puu_ (i := 22) (N := some 39) gq_23 (by kernel_rfl) ?_
      refine puu_ (i := 23) (N := some 40) gq_24 (by kernel_rfl) ?_
      refine puu_ (i := 24) (N := some 41) gq_25 (by kernel_rfl) ?_
      refine puu_ (i := 25) (N := some 42) gq_26 (by kernel_rfl) ?_
      refine puu_ (i := 26) (N := some 43) gq_27 (by kernel_rfl) ?_
      refine puu_ (i := 27) (N := some 44) gq_28 (by kernel_rfl) ?_
      refine puu_ (i := 28) (N := some 45) gq_29 (by kernel_rfl) ?_
      refine puu_ (i := 29) (N := some 46) gq_30 (by kernel_rfl) ?_
      refine puu_ (i := 30) (N := some 47) gq_31 (by kernel_rfl) ?_
      refine puu_ (i := 31) (N := some 48) gq_32 (by kernel_rfl) ?_
      refine pur_ (i := 32) (N := some 49) gq_33 (by kernel_rfl) ?_
      refine done_ (by kernel_rfl) ?_
      clear hw64
      go_wp2_with (fail)
      go_meet
      exact ⟨true, rfl, ⟨mid5_2 (by unfold headOk; rw [← HX.out, decide_eq_false (show ¬ n.toNat = 0 by have := HN0.out; omega), show lt (l[n.toNat - 1]'(by have := HNL.out; omega)).f0 x.f0 = false from (prev_lt HY.out HJ.out hls)]; simp) (by rw [← hwq]; exact below_drew (below_alloc (Below.refl _ _) _)) hHeld⟩⟩
     | true =>
      by_cases h49 : x.f3 = 49
      ·have e49 : (x.f3 == 49) = true := beq_iff_eq.2 h49
       have H49 := Aside0.mk h49
       clear h49
       refine start_ (n := 33) (S := fun w' => w'.cell? ⟨wr.heap.size, 0, none⟩ = some (.string x.f0) ∧ w'.cell? ⟨wr.heap.size, 1, none⟩ = some (.string x.f1) ∧ w'.cell? ⟨wr.heap.size, 2, none⟩ = some (.string x.f2) ∧ w'.cell? ⟨wr.heap.size, 3, none⟩ = some (.int .u8 x.f3) ∧ w'.cell? ⟨wr.heap.size, 4, none⟩ = some (.int .i64 x.f4.f0) ∧ w'.cell? ⟨wr.heap.size, 5, none⟩ = some (.int .i64 x.f4.f1) ∧ w'.cell? ⟨wr.heap.size, 6, none⟩ = some (.int .i64 x.f4.f2) ∧ w'.cell? ⟨wr.heap.size, 7, none⟩ = some (.int .i64 x.f4.f3) ∧ w'.cell? ⟨wr.heap.size, 8, none⟩ = some (.slice A7 x.f5.length c7) ∧ w'.cell? (ad.add (j.toNat * 9)) = some (.string y0)) (ds := []) gq_0 (by kernel_rfl) rfl rfl ⟨by simp, by simp, by simp, by simp, by simp, by simp, by simp, by simp, by simp, acell hp0 _⟩ (fun hHeld => ?_)
       generalize hwq : (wr.alloc (.cells #[.string x.f0, .string x.f1, .string x.f2, .int .u8 x.f3, .int .i64 x.f4.f0, .int .i64 x.f4.f1, .int .i64 x.f4.f2, .int .i64 x.f4.f3, .slice A7 x.f5.length c7] 42)).drew = wq at hHeld ⊢
       refine pur_ (i := 0) (N := some 17) gq_1 (by kernel_rfl) ?_
       refine pur_ (i := 1) (N := some 18) gq_2 (by kernel_rfl) ?_
       refine pur_ (i := 2) (N := some 19) gq_3 (by kernel_rfl) ?_
       refine pur_ (i := 3) (N := some 20) gq_4 (by kernel_rfl) ?_
       refine pur_ (i := 4) (N := some 21) gq_5 (by kernel_rfl) ?_
       refine pur_ (i := 5) (N := some 22) gq_6 (by kernel_rfl) ?_
       refine pur_ (i := 6) (N := some 23) gq_7 (by kernel_rfl) ?_
       refine pur_ (i := 7) (N := some 24) gq_8 (by kernel_rfl) ?_
       refine tak_ (i := 8) (N := some 25) gq_9 (by kernel_rfl) hHeld ?_
       refine pur_ (i := 9) (N := some 26) gq_10 (by kernel_rfl) ?_
       refine tak_ (i := 10) (N := some 27) gq_11 (by kernel_rfl) hHeld ?_
       refine pur_ (i := 11) (N := some 28) gq_12 (by kernel_rfl) ?_
       refine pur_ (i := 12) (N := some 29) gq_13 (by kernel_rfl) ?_
       refine pur_ (i := 13) (N := some 30) gq_14 (by kernel_rfl) ?_
       refine pur_ (i := 14) (N := some 31) gq_15 (by kernel_rfl) ?_
       refine tak_ (i := 15) (N := some 32) gq_16 (by kernel_rfl) hHeld ?_
       refine pur_ (i := 16) (N := some 33) gq_17 (by kernel_rfl) ?_
       refine pur_ (i := 17) (N := some 34) gq_18 (by kernel_rfl) ?_
       refine pur_ (i := 18) (N := some 35) gq_19 (by kernel_rfl) ?_
       refine puu_ (i := 19) (N := some 36) gq_20 (by kernel_rfl) ?_
       refine puu_ (i := 20) (N := some 37) gq_21 (by kernel_rfl) ?_
       refine puu_ (i := 21) (N := some 38) gq_22 (by kernel_rfl) ?_
       refine puu_ (i := 22) (N := some 39) gq_23 (by kernel_rfl) ?_
       refine puu_ (i := 23) (N := some 40) gq_24 (by kernel_rfl) ?_
       refine puu_ (i := 24) (N := some 41) gq_25 (by kernel_rfl) ?_
       refine puu_ (i := 25) (N := some 42) gq_26 (by kernel_rfl) ?_
       refine puu_ (i := 26) (N := some 43) gq_27 (by kernel_rfl) ?_
       refine puu_ (i := 27) (N := some 44) gq_28 (by kernel_rfl) ?_
       refine puu_ (i := 28) (N := some 45) gq_29 (by kernel_rfl) ?_
       refine puu_ (i := 29) (N := some 46) gq_30 (by kernel_rfl) ?_
       refine puu_ (i := 30) (N := some 47) gq_31 (by kernel_rfl) ?_
       refine puu_ (i := 31) (N := some 48) gq_32 (by kernel_rfl) ?_
       refine pur_ (i := 32) (N := some 49) gq_33 (by kernel_rfl) ?_
       refine done_ (by kernel_rfl) ?_
       clear hw64
       go_wp2_with (fail)
       go_meet
       exact ⟨true, rfl, ⟨mid5_2 (by unfold headOk; rw [← HX.out, decide_eq_true H49.out]; simp) (by rw [← hwq]; exact below_drew (below_alloc (Below.refl _ _) _)) hHeld⟩⟩
      ·have e49 : (x.f3 == 49) = false := beq_eq_false_iff_ne.2 h49
       have H49 := Aside0.mk h49
       clear h49
       refine start_ (n := 33) (S := fun w' => w'.cell? ⟨wr.heap.size, 0, none⟩ = some (.string x.f0) ∧ w'.cell? ⟨wr.heap.size, 1, none⟩ = some (.string x.f1) ∧ w'.cell? ⟨wr.heap.size, 2, none⟩ = some (.string x.f2) ∧ w'.cell? ⟨wr.heap.size, 3, none⟩ = some (.int .u8 x.f3) ∧ w'.cell? ⟨wr.heap.size, 4, none⟩ = some (.int .i64 x.f4.f0) ∧ w'.cell? ⟨wr.heap.size, 5, none⟩ = some (.int .i64 x.f4.f1) ∧ w'.cell? ⟨wr.heap.size, 6, none⟩ = some (.int .i64 x.f4.f2) ∧ w'.cell? ⟨wr.heap.size, 7, none⟩ = some (.int .i64 x.f4.f3) ∧ w'.cell? ⟨wr.heap.size, 8, none⟩ = some (.slice A7 x.f5.length c7) ∧ w'.cell? (ad.add (j.toNat * 9)) = some (.string y0)) (ds := []) gq_0 (by kernel_rfl) rfl rfl ⟨by simp, by simp, by simp, by simp, by simp, by simp, by simp, by simp, by simp, acell hp0 _⟩ (fun hHeld => ?_)
       generalize hwq : (wr.alloc (.cells #[.string x.f0, .string x.f1, .string x.f2, .int .u8 x.f3, .int .i64 x.f4.f0, .int .i64 x.f4.f1, .int .i64 x.f4.f2, .int .i64 x.f4.f3, .slice A7 x.f5.length c7] 42)).drew = wq at hHeld ⊢
       refine pur_ (i := 0) (N := some 17) gq_1 (by kernel_rfl) ?_
       refine pur_ (i := 1) (N := some 18) gq_2 (by kernel_rfl) ?_
       refine pur_ (i := 2) (N := some 19) gq_3 (by kernel_rfl) ?_
       refine pur_ (i := 3) (N := some 20) gq_4 (by kernel_rfl) ?_
       refine pur_ (i := 4) (N := some 21) gq_5 (by kernel_rfl) ?_
       refine pur_ (i := 5) (N := some 22) gq_6 (by kernel_rfl) ?_
       refine pur_ (i := 6) (N := some 23) gq_7 (by kernel_rfl) ?_
       refine pur_ (i := 7) (N := some 24) gq_8 (by kernel_rfl) ?_
       refine tak_ (i := 8) (N := some 25) gq_9 (by kernel_rfl) hHeld ?_
       refine pur_ (i := 9) (N := some 26) gq_10 (by kernel_rfl) ?_
       refine tak_ (i := 10) (N := some 27) gq_11 (by kernel_rfl) hHeld ?_
       refine pur_ (i := 11) (N := some 28) gq_12 (by kernel_rfl) ?_
       refine pur_ (i := 12) (N := some 29) gq_13 (by kernel_rfl) ?_
       refine pur_ (i := 13) (N := some 30) gq_14 (by kernel_rfl) ?_
       refine pur_ (i := 14) (N := some 31) gq_15 (by kernel_rfl) ?_
       refine tak_ (i := 15) (N := some 32) gq_16 (by kernel_rfl) hHeld ?_
       refine pur_ (i := 16) (N := some 33) gq_17 (by kernel_rfl) ?_
       refine pur_ (i := 17) (N := some 34) gq_18 (by kernel_rfl) ?_
       refine pur_ (i := 18) (N := some 35) gq_19 (by kernel_rfl) ?_
       refine pur_ (i := 19) (N := some 36) gq_20 (by kernel_rfl) ?_
       refine tak_ (i := 20) (N := some 37) gq_21 (by kernel_rfl) hHeld ?_
       refine pur_ (i := 21) (N := some 38) gq_22 (by kernel_rfl) ?_
       refine tak_ (i := 22) (N := some 39) gq_23 (by kernel_rfl) hHeld ?_
       refine pur_ (i := 23) (N := some 40) gq_24 (by kernel_rfl) ?_
       refine tak_ (i := 24) (N := some 41) gq_25 (by kernel_rfl) hHeld ?_
       refine pur_ (i := 25) (N := some 42) gq_26 (by kernel_rfl) ?_
       refine tak_ (i := 26) (N := some 43) gq_27 (by kernel_rfl) hHeld ?_
       refine pur_ (i := 27) (N := some 44) gq_28 (by kernel_rfl) ?_
       refine tak_ (i := 28) (N := some 45) gq_29 (by kernel_rfl) hHeld ?_
       refine pur_ (i := 29) (N := some 46) gq_30 (by kernel_rfl) ?_
       refine one_ (i := 30) (N := some 47) gq_31 rfl rfl (by kernel_rfl) (by decide) (fun K hK => ?_)
       refine goes_ Tryz.func34 (by kernel_rfl) rfl #[.agg #[.string x.f0, .string x.f1, .int .u8 x.f3, .int .i64 x.f4.f0, .int .i64 x.f4.f1, .int .i64 x.f4.f2, .int .i64 x.f4.f3, .slice A7 x.f5.length c7]] (by rfl) rfl rfl (by first | rfl | (simp [Act.eval]; done)) ?_
       refine (bindleref08_Good.calls kg x.f0 x.f1 x.f3 x.f4.f0 x.f4.f1 x.f4.f2 x.f4.f3 A7 c7 x.f5 gd wq (by rw [← hwq]; exact Kd.C_drew (HCA.out _)) hl7' HKG.out).mono ?_
       rintro e w5 ⟨rfl, hb5⟩
       refine ⟨_, rfl, ?_⟩
       refine hK.out _ _ ⟨bkeep hb5 hHeld.1, bkeep hb5 hHeld.2.1, bkeep hb5 hHeld.2.2.1, bkeep hb5 hHeld.2.2.2.1, bkeep hb5 hHeld.2.2.2.2.1, bkeep hb5 hHeld.2.2.2.2.2.1, bkeep hb5 hHeld.2.2.2.2.2.2.1, bkeep hb5 hHeld.2.2.2.2.2.2.2.1, bkeep hb5 hHeld.2.2.2.2.2.2.2.2.1, bkeep hb5 hHeld.2.2.2.2.2.2.2.2.2⟩ (fun hHeld => ?_)
       clear hK K
       refine norm_ (a' := ?_) ?_ ?_
       rotate_left
       ·show Act.put _ (some 47) _ = _
        simp only [Act.put, List.setIfInBounds_toArray, List.set_cons_zero, List.set_cons_succ, i64_w, i32_w]
        rfl
       refine pur_ (i := 31) (N := some 48) gq_32 (by kernel_rfl) ?_
       refine pur_ (i := 32) (N := some 49) gq_33 (by kernel_rfl) ?_
       refine done_ (by kernel_rfl) ?_
       clear hw64
       go_wp2_with (fail)
       go_meet
       exact ⟨!gd, rfl, ⟨mid5_2 (by unfold headOk; rw [← HX.out, HGD.out, decide_eq_false H49.out, show lt (l[n.toNat - 1]'(by have := HNL.out; omega)).f0 x.f0 = true from (prev_lt HY.out HJ.out hls)]; simp) ((show Below wr.heap.size wr wq from by rw [← hwq]; exact below_drew (below_alloc (Below.refl _ _) _)).trans (hb5.mono (by rw [← hwq]; show wr.heap.size ≤ (wr.alloc (.cells #[.string x.f0, .string x.f1, .string x.f2, .int .u8 x.f3, .int .i64 x.f4.f0, .int .i64 x.f4.f1, .int .i64 x.f4.f2, .int .i64 x.f4.f3, .slice A7 x.f5.length c7] 42)).heap.size; rw [World.size_alloc]; omega))) hHeld⟩⟩
   case rest =>
    obtain ⟨b, rfl, HM⟩ := hcut
    obtain ⟨wm, rfl⟩ : ∃ wm : World, wm = wc := ⟨_, rfl⟩
    have HBW := Aside0.mk (HB.out.trans (HM.out.2.1.mono HB.out.size))
    cases b with
    | true =>
     go_wp2
     rw [← hQ.out]
     refine ⟨by rw [goodTree_not n.toNat HNL.out (by rw [nodeOk_head, show headOk l n.toNat HNL.out = false from by have := HM.out.1; simpa using this.symm]; rfl)]; rfl, HBW.out⟩
    | false =>
     obtain ⟨⟨b0, b1, b2, b3⟩, ⟨b4, b5, b6, b7⟩, b8⟩ := HM.out.2.2
     have hhd : headOk l n.toNat HNL.out = true := by have := HM.out.1; simpa using this.symm
     have HHD := Aside0.mk hhd
     clear hhd
     by_cases h48 : x.f3 = 48
     ·have e48 : (x.f3 != 48) = false := by rw [bne_eq_false_iff_eq]; exact h48
      have H48 := Aside0.mk h48
      clear h48
      have hns : (n + 1).toNat ≤ l.length := by omega
      have hnt : (l.take (n + 1).toNat).length = (n + 1).toNat := by rw [List.length_take]; omega
      have hCt : Kd.C k42 wm (some ad) (n + 1).toNat (l.take (n + 1).toNat) := by have := Kd.C_take (Kd.C_below HC.out HBW.out) hns; rw [hnt] at this; exact this
      have hs0 : (0 : Int) ≤ n + 1 := by omega
      have hs1 : n + 1 ≤ (c0 : Int) := by have := HC0.out; omega
      have hs2 : IntKind.i64.wrap (n + 1) = n + 1 := IntWalk.i64_in _ (by omega)
      have HT := Aside0.mk (Kd.C_F nodeHeap hCt)
      have HNT := Aside0.mk hnt
      have hBlt : wr.heap.size < wm.heap.size := World.block_lt_of_cell? wm ⟨wr.heap.size, 2, none⟩ b2
      have hRF : ∀ W2, Kd.F k42 W2 (fun k => k < wm.heap.size) (some ad) (n + 1).toNat (l.take (n + 1).toNat) → Calls Tryz.prog 20 #[.slice (some ad) (n + 1).toNat c0, .string x.f2] W2 fun e W' => ∃ x' b A c, (match findF (l.take (n + 1).toNat) x.f2 with | some y => x' = y ∧ b = true | none => x' = z42 ∧ b = false) ∧ e = .returned (.tuple #[.agg (nodeCells x' (.slice A x'.f5.length c)), .bool b]) ∧ x'.f5.length ≤ c ∧ Kd.F (Kd.int .u8) W' (fun k => k < wm.heap.size ∨ W2.heap.size ≤ k) A x'.f5.length x'.f5 ∧ Below W2.heap.size W2 W' := fun W2 hC2 => by
       have h := RefFind_F (fun k => k < wm.heap.size) (some ad) c0 (l.take (n + 1).toNat) x.f2 W2 (by rw [hnt]; exact hC2) (by rw [hnt]; have := HC0.out; omega) (by rw [hnt]; omega)
       rw [hnt] at h
       exact h
      have RFC := Aside0.mk hRF
      have hne1 : ¬ wr.heap.size = wm.heap.size := by omega
      have hne2 : ¬ wm.heap.size = wr.heap.size := by omega
      clear hCt hnt hRF
      go_upto_region 10 with (fail)
      go_cut [5, 6] (fun v5 v6 wx => ∃ g y b A c, v5 = .pointer (some ⟨g, 0, none⟩) ∧ v6 = .bool b ∧ Aside0 (Mid10 l n.toNat wr.heap.size x (.slice A7 x.f5.length c7) g y b A c wm wx))
      case first =>
       go_region_held3 (fun w' => w'.cell? ⟨wr.heap.size, 2, none⟩ = some (.string x.f2)) (go_keep) ((go_at_call 20; refine (RFC.out _ (by first | exact Kd.F_drew HT.out | exact Kd.F_alloc (Kd.F_drew HT.out) _)).mono ?_; rintro e w1 ⟨y, b, A, c, hm, rfl, hlc, hCy, hb⟩; have hs2b : w1.cell? ⟨wr.heap.size, 2, none⟩ = some (.string x.f2) := (by first | exact bkeep hb (show wm.drew.cell? ⟨wr.heap.size, 2, none⟩ = _ from b2) | exact bkeep hb (acell (show wm.drew.cell? ⟨wr.heap.size, 2, none⟩ = _ from b2) _)); have HM1 := Aside0.mk hm; have HLC := Aside0.mk hlc; have HCY := Aside0.mk hCy; have HB1 := Aside0.mk hb; (first | (have hz9 : wm.heap.size < w1.heap.size := lt_of_alloc hb) | skip); obtain ⟨hcb, hfb⟩ := bcell hb; clear hm hlc hCy hb; simp only [nodeCells]))
       ·go_wp2_with (fail)
        go_meet
        exact ⟨_, y, b, A, c, rfl, rfl, ⟨mid10_a HM1.out HM.out.2.2 HB1.out HCY.out h0⟩⟩
       ·go_wp2_with (fail)
        go_meet
        exact ⟨_, y, b, A, c, rfl, rfl, ⟨mid10_b HM1.out HM.out.2.2 HB1.out HCY.out h0 rfl⟩⟩
      case rest =>
       obtain ⟨g, y, b, A, c, rfl, rfl, HM2⟩ := hcut
       have hnd := nodeOk_lead (n := n.toNat) HNL.out HX.out (fun j hj hjn => HR.out.2.2.1 j hj (by omega)) HHD.out H48.out HM2.out.1
       have HND := Aside0.mk hnd
       have HBD := Aside0.mk (HBW.out.trans (HM2.out.2.1.mono HBW.out.size))
       have hno : ∀ b', (b && leadB y x) = b' → nodeOk l n.toNat HNL.out = b' := fun b' h => hnd.trans h
       have HNO := Aside0.mk hno
       clear hnd hno b0 b1 b2 b3 b4 b5 b6 b7 b8
       obtain ⟨⟨c0_, c1_, c2_, c3_⟩, ⟨c4_, c5_, c6_, c7_⟩, c8_⟩ := HM2.out.2.2.1
       obtain ⟨⟨d0, d1, d2, d3⟩, ⟨d4, d5, d6, d7⟩, d8⟩ := HM2.out.2.2.2.1
       cases b with
       | false =>
        go_wp2
        rw [← hQ.out]
        exact ⟨by rw [goodTree_not n.toNat HNL.out (HNO.out _ rfl)]; rfl, HBD.out⟩
       | true =>
        by_cases k3 : y.f3 = 48
        ·have e3 : (y.f3 != 48) = false := by rw [bne_eq_false_iff_eq]; exact k3
         have K3 := Aside0.mk k3
         clear k3
         by_cases k2 : y.f2.toList = y.f0.toList
         ·have e2 : (y.f2.toList != y.f0.toList) = false := by rw [bne_eq_false_iff_eq]; exact k2
          have e2' : (y.f2.toList == y.f0.toList) = true := by rw [beq_iff_eq]; exact k2
          have K2 := Aside0.mk k2
          clear k2
          cases k4 : (y.f4.f0 == x.f4.f0 && (y.f4.f1 == x.f4.f1 && (y.f4.f2 == x.f4.f2 && (y.f4.f3 == x.f4.f3)))) with
          | true =>
           have e4 : (!(y.f4.f0 == x.f4.f0) || (!(y.f4.f1 == x.f4.f1) || (!(y.f4.f2 == x.f4.f2) || !(y.f4.f3 == x.f4.f3)))) = false := by simpa using k4
           have K4 := Aside0.mk k4
           clear k4
           have hsx := Kd.C_string (P := Tryz.prog) (A := A7) (c := c7) Tryz.underlying40 Tryz.underlying5 Tryz.underlying9 (Kd.C_below (Kd.C_below HC7.out HM.out.2.1) HM2.out.2.1)
           have hsy := Kd.C_string (P := Tryz.prog) (A := A) (c := c) Tryz.underlying40 Tryz.underlying5 Tryz.underlying9 HM2.out.2.2.2.2
           by_cases k5 : (strOfNums y.f5).toList = (strOfNums x.f5).toList
           ·have e5 : ((strOfNums y.f5).toList != (strOfNums x.f5).toList) = false := by rw [bne_eq_false_iff_eq]; exact k5
            have e5' : ((strOfNums y.f5).toList == (strOfNums x.f5).toList) = true := by rw [beq_iff_eq]; exact k5
            have K5 := Aside0.mk k5
            clear k5
            have hok : nodeOk l n.toNat HNL.out = true := HNO.out _ (leadB_ok K3.out K2.out K4.out K5.out)
            have hfin : RefRel l W (n + 1) wc := refRel_next HR.out HNL.out HHD.out (by rw [nodeOk_head, Bool.and_eq_true] at hok; exact hok.2) HBD.out
            have HF := Aside0.mk hfin
            clear hok hfin
            go_wp2
            go_roundg (gk - 1)
            case measure => have := HG.out; omega
            case rel => exact ⟨n + 1, by go_num, HF, ⟨by have := HG.out; omega⟩⟩
           ·have e5 : ((strOfNums y.f5).toList != (strOfNums x.f5).toList) = true := by rw [bne_iff_ne]; exact k5
            have e5' : ((strOfNums y.f5).toList == (strOfNums x.f5).toList) = false := by rw [beq_eq_false_iff_ne]; exact k5
            have K5 := Aside0.mk k5
            clear k5
            go_wp2
            rw [← hQ.out]
            exact ⟨by rw [goodTree_not n.toNat HNL.out (HNO.out _ (by unfold leadB; rw [decide_eq_false (fun h => K5.out h.2.2.2.2.2.2)]; rfl))]; rfl, HBD.out⟩
          | false =>
           have e4 : (!(y.f4.f0 == x.f4.f0) || (!(y.f4.f1 == x.f4.f1) || (!(y.f4.f2 == x.f4.f2) || !(y.f4.f3 == x.f4.f3)))) = true := by cases k5 : (!(y.f4.f0 == x.f4.f0) || (!(y.f4.f1 == x.f4.f1) || (!(y.f4.f2 == x.f4.f2) || !(y.f4.f3 == x.f4.f3)))) with | true => rfl | false => (exfalso; revert k4 k5; cases (y.f4.f0 == x.f4.f0) <;> cases (y.f4.f1 == x.f4.f1) <;> cases (y.f4.f2 == x.f4.f2) <;> cases (y.f4.f3 == x.f4.f3) <;> decide)
           have K4 := Aside0.mk k4
           clear k4
           go_wp2
           all_goals (rw [← hQ.out]; exact ⟨by rw [goodTree_not n.toNat HNL.out (HNO.out _ (leadB_4 K4.out))]; rfl, HBD.out⟩)
         ·have e2 : (y.f2.toList != y.f0.toList) = true := by rw [bne_iff_ne]; exact k2
          have e2' : (y.f2.toList == y.f0.toList) = false := by rw [beq_eq_false_iff_ne]; exact k2
          have K2 := Aside0.mk k2
          clear k2
          go_wp2
          rw [← hQ.out]
          exact ⟨by rw [goodTree_not n.toNat HNL.out (HNO.out _ (by unfold leadB; rw [decide_eq_false (fun h => K2.out h.2.1)]; rfl))]; rfl, HBD.out⟩
        ·have e3 : (y.f3 != 48) = true := by rw [bne_iff_ne]; exact k3
         have K3 := Aside0.mk k3
         clear k3
         go_wp2
         rw [← hQ.out]
         exact ⟨by rw [goodTree_not n.toNat HNL.out (HNO.out _ (by unfold leadB; rw [decide_eq_false (fun h => K3.out h.1)]; rfl))]; rfl, HBD.out⟩
     ·have e48 : (x.f3 != 48) = true := by rw [bne_iff_ne]; exact h48
      have H48 := Aside0.mk h48
      clear h48
      cases hle : x.f2.toList.isEmpty with
      | false =>
       go_wp2
       rw [← hQ.out]
       refine ⟨by rw [goodTree_not n.toNat HNL.out (by unfold nodeOk; rw [← HX.out]; unfold ledB; rw [if_neg H48.out, decide_eq_false (show ¬ x.f2.toList = [] from fun e => by rw [e] at hle; cases hle)]; simp)]; rfl, HBW.out⟩
      | true =>
       have hfin : RefRel l W (n + 1) wm := refRel_next HR.out HNL.out HHD.out (by rw [← HX.out]; unfold ledB; rw [if_neg H48.out, decide_eq_true (List.isEmpty_iff.1 hle)]) HBW.out
       go_wp2
       go_roundg (gk - 1)
       case measure => have := HG.out; omega
       case rel => exact ⟨n + 1, by go_num, ⟨hfin⟩, ⟨by have := HG.out; omega⟩⟩
  ·have c1b : decide (n < (l.length : Int)) = false := decide_eq_false hlt
   go_wp2
   rw [← hQ.out]
   refine ⟨?_, HB.out⟩
   rw [goodTree_of (fun i hi => HR.out.2.2.1 i hi (by omega))]
   rw [show decide ((l.length : Int) ≤ 4096) = decide (l.length ≤ 4096) from decide_eq_decide.2 (by omega)]
end Go.Proofs.YtbngbefchobfnaaGreatDoor

namespace Go.Proofs.YtbngbefchobfnaaGreatDoor.Print
open Go.RowKit Go.Proofs.YtbngbefchobfnaaGreatDoor Go.Proofs.YtbngbefchobfnaaGreatDoorW.PrintWords Go.Proofs.YtbngbefchobfnaaGreatDoorW.PrintLast Go.Proofs.YtbngbefchobfnaaGreatDoorW.PrintMore
set_option linter.unusedVariables false
def bindleref08_GoodTree.f (l : List S42) : Option Bool := if nodesZ l = true then some (goodTree l) else none
theorem bindleref08_GoodTree.calls (A0 : Option Addr) (c0 : Nat) (l0 : List S42) (r : Bool) (w : World) (hr0 : Kd.C k42 w A0 l0.length l0) (hc0 : l0.length ≤ c0) (h : bindleref08_GoodTree.f l0 = some r) :
  Calls Tryz.prog 18 #[.slice A0 l0.length c0] w fun e w' => e = .returned (.bool r) ∧ Below w.heap.size w w' := by
 unfold bindleref08_GoodTree.f at h
 split at h
 ·rename_i hc
  simp only [Option.some.injEq] at h
  subst h
  exact RefTree_calls A0 c0 l0 w hr0 hc0 ((nodesZ_iff l0).1 hc)
 ·cases h
end Go.Proofs.YtbngbefchobfnaaGreatDoor.Print

namespace Go.Proofs.YtbngbefchobfnaaGreatDoor.Print
open Go.RowKit Go.Proofs.YtbngbefchobfnaaGreatDoorW.PrintWords Go.Proofs.YtbngbefchobfnaaGreatDoorW.PrintLast Go.Proofs.YtbngbefchobfnaaGreatDoorW.PrintMore
attribute [local go_sem] max2_int min2_int max_two min_two max_three min_three max_four min_four   -- for this text's walks alone
set_option linter.unusedVariables false
set_option linter.unusedSimpArgs false
attribute [local go_sem high] eqA39
def bindleref08_Equal.f (a0_0 : ByteArray) (a0_1 : ByteArray) (a0_2 : ByteArray) (a0_3 : Int) (a0_4 : Int) (a0_5 : Int) (a0_6 : Int) (a0_7 : Int) (l0_8 : List Int) (a1_0 : ByteArray) (a1_1 : ByteArray) (a1_2 : ByteArray) (a1_3 : Int) (a1_4 : Int) (a1_5 : Int) (a1_6 : Int) (a1_7 : Int) (l1_8 : List Int) : Option (Bool) := if a0_0.toList = a1_0.toList then (if a0_3 = a1_3 then (if (a0_4 == a1_4 && (a0_5 == a1_5 && (a0_6 == a1_6 && (a0_7 == a1_7)))) = true then (if a0_1.toList = a1_1.toList then (some ((strOfNums l0_8).toList == (strOfNums l1_8).toList)) else (some false)) else (some false)) else (some false)) else (some false)
set_option maxHeartbeats 8000000 in
set_option maxRecDepth 100000 in
theorem bindleref08_Equal.calls (a0_0 : ByteArray) (a0_1 : ByteArray) (a0_2 : ByteArray) (a0_3 : Int) (a0_4 : Int) (a0_5 : Int) (a0_6 : Int) (a0_7 : Int) (A0_8 : Option Addr) (c0_8 : Nat) (l0_8 : List Int) (a1_0 : ByteArray) (a1_1 : ByteArray) (a1_2 : ByteArray) (a1_3 : Int) (a1_4 : Int) (a1_5 : Int) (a1_6 : Int) (a1_7 : Int) (A1_8 : Option Addr) (c1_8 : Nat) (l1_8 : List Int) (r : Bool) (w : World) (hr0_8 : Kd.C (Kd.int .u8) w A0_8 l0_8.length l0_8) (hc0_8 : l0_8.length ≤ c0_8) (hr1_8 : Kd.C (Kd.int .u8) w A1_8 l1_8.length l1_8) (hc1_8 : l1_8.length ≤ c1_8) (h : bindleref08_Equal.f a0_0 a0_1 a0_2 a0_3 a0_4 a0_5 a0_6 a0_7 l0_8 a1_0 a1_1 a1_2 a1_3 a1_4 a1_5 a1_6 a1_7 l1_8 = some r) :
  Calls Tryz.prog 19 #[.agg #[.string a0_0, .string a0_1, .string a0_2, .int .u8 a0_3, .int .i64 a0_4, .int .i64 a0_5, .int .i64 a0_6, .int .i64 a0_7, .slice A0_8 l0_8.length c0_8], .agg #[.string a1_0, .string a1_1, .string a1_2, .int .u8 a1_3, .int .i64 a1_4, .int .i64 a1_5, .int .i64 a1_6, .int .i64 a1_7, .slice A1_8 l1_8.length c1_8]] w fun e w' => e = .returned (.bool r) ∧ Below w.heap.size w w' := by
 have hu42 := Tryz.underlying42
 have hu39 := Tryz.underlying39
 have HR0_8 := A0_ hr0_8
 have HC0_8 := A0_ hc0_8
 clear hr0_8 hc0_8
 have HR1_8 := A0_ hr1_8
 have HC1_8 := A0_ hc1_8
 clear hr1_8 hc1_8
 have HB := A0_ (Below.refl w.heap.size w)
 have H : (if a0_0.toList = a1_0.toList then (if a0_3 = a1_3 then (if (a0_4 == a1_4 && (a0_5 == a1_5 && (a0_6 == a1_6 && (a0_7 == a1_7)))) = true then (if a0_1.toList = a1_1.toList then (some ((strOfNums l0_8).toList == (strOfNums l1_8).toList)) else (some false)) else (some false)) else (some false)) else (some false)) = some r := h
 clear h
 by_cases c3 : a0_0.toList = a1_0.toList
 rotate_left
 ·rw [if_neg c3] at H
  have c3b0 : (a0_0.toList == a1_0.toList) = false := beq_eq_false_iff_ne.mpr c3
  have c3b1 : (a0_0.toList != a1_0.toList) = true := bne_iff_ne.mpr c3
  obtain rfl := Option.some.inj H
  go_enter Tryz.func19, Tryz.ntmps19
  go_wp2_with (first | ((with_reducible refine gate_dst (N := 2) rfl ?_); refine box_event ?hg (N := 2) ?hd (cs := #[.string a0_0, .string a0_1, .string a0_2, .int .u8 a0_3, .int .i64 a0_4, .int .i64 a0_5, .int .i64 a0_6, .int .i64 a0_7, .slice A0_8 l0_8.length c0_8]) (t := 42) ?hr ?_; (case hd => rfl); (case hg => rfl); (case hr => first | (go_simp; done) | (go_simp; rfl)); intro gb156 hg w29 hbox hb; have n0_ := A0_ (below_step (wb_ HB.out) hb); have n1_ := A0_ (hbox); have n2_ := A0_ ((by rw [hg]; exact (below_size (wb_ HB.out)) : w.heap.size ≤ gb156)); have n3_ := A0_ ((by rw [hg]; exact (below_size (wb_ HB.out)) : w.heap.size ≤ gb156)); clear HB; have HB := n0_; have BK156 := n1_; have GW156 := n2_; have GE156 := n3_; clear n0_ n1_ n2_ n3_; clear hb hbox hg) | ((with_reducible refine gate_dst (N := 3) rfl ?_); refine box_event ?hg (N := 3) ?hd (cs := #[.string a1_0, .string a1_1, .string a1_2, .int .u8 a1_3, .int .i64 a1_4, .int .i64 a1_5, .int .i64 a1_6, .int .i64 a1_7, .slice A1_8 l1_8.length c1_8]) (t := 42) ?hr ?_; (case hd => rfl); (case hg => rfl); (case hr => first | (go_simp; done) | (go_simp; rfl)); intro gb157 hg w30 hbox hb; have n0_ := A0_ (blk_below (g := gb156) (o := .cells #[.string a0_0, .string a0_1, .string a0_2, .int .u8 a0_3, .int .i64 a0_4, .int .i64 a0_5, .int .i64 a0_6, .int .i64 a0_7, .slice A0_8 l0_8.length c0_8] 42 (0, 0)) (wB_ BK156.out) hb); have n1_ := A0_ (below_step (wb1_ HB.out GE156.out) hb); have n2_ := A0_ (hbox); have n3_ := A0_ ((by rw [hg]; exact (below_size (wb1_ HB.out GE156.out)) : w.heap.size ≤ gb157)); have n4_ := A0_ ((by rw [hg]; exact (below_size (wb1_ HB.out GE156.out)) : w.heap.size ≤ gb157)); have n5_ := A0_ ((by rw [hg]; exact Nat.ne_of_lt (blk_lt (g := gb156) (o := .cells #[.string a0_0, .string a0_1, .string a0_2, .int .u8 a0_3, .int .i64 a0_4, .int .i64 a0_5, .int .i64 a0_6, .int .i64 a0_7, .slice A0_8 l0_8.length c0_8] 42 (0, 0)) (wB_ BK156.out)) : gb156 ≠ gb157)); have n6_ := A0_ ((by rw [hg]; exact Nat.ne_of_gt (blk_lt (g := gb156) (o := .cells #[.string a0_0, .string a0_1, .string a0_2, .int .u8 a0_3, .int .i64 a0_4, .int .i64 a0_5, .int .i64 a0_6, .int .i64 a0_7, .slice A0_8 l0_8.length c0_8] 42 (0, 0)) (wB_ BK156.out)) : gb157 ≠ gb156)); clear BK156; clear HB; have BK156 := n0_; have HB := n1_; have BK157 := n2_; have GW157 := n3_; have GE157 := n4_; have NB156_157 := n5_; have NB157_156 := n6_; clear n0_ n1_ n2_ n3_ n4_ n5_ n6_; clear hb hbox hg; have hnb31 := NB156_157.out; have hnc31 := NB157_156.out; have hcz32_0 : w30.cell? ⟨gb156, 0, none⟩ = some (.string a0_0) := (bc_ BK156.out 0).trans rfl; have hcz32_1 : w30.cell? ⟨gb156, 1, none⟩ = some (.string a0_1) := (bc_ BK156.out 1).trans rfl; have hcz32_2 : w30.cell? ⟨gb156, 2, none⟩ = some (.string a0_2) := (bc_ BK156.out 2).trans rfl; have hcz32_3 : w30.cell? ⟨gb156, 3, none⟩ = some (.int .u8 a0_3) := (bc_ BK156.out 3).trans rfl; have hcz32_4 : w30.cell? ⟨gb156, 4, none⟩ = some (.int .i64 a0_4) := (bc_ BK156.out 4).trans rfl; have hcz32_5 : w30.cell? ⟨gb156, 5, none⟩ = some (.int .i64 a0_5) := (bc_ BK156.out 5).trans rfl; have hcz32_6 : w30.cell? ⟨gb156, 6, none⟩ = some (.int .i64 a0_6) := (bc_ BK156.out 6).trans rfl; have hcz32_7 : w30.cell? ⟨gb156, 7, none⟩ = some (.int .i64 a0_7) := (bc_ BK156.out 7).trans rfl; have hcz32_8 : w30.cell? ⟨gb156, 8, none⟩ = some (.slice A0_8 l0_8.length c0_8) := (bc_ BK156.out 8).trans rfl; have hfz32_0 := bf_ BK156.out 0; have hfz32_1 := bf_ BK156.out 1; have hfz32_2 := bf_ BK156.out 2; have hfz32_3 := bf_ BK156.out 3; have hfz32_4 := bf_ BK156.out 4; have hfz32_5 := bf_ BK156.out 5; have hfz32_6 := bf_ BK156.out 6; have hfz32_7 := bf_ BK156.out 7; have hfz32_8 := bf_ BK156.out 8; have hcz33_0 : w30.cell? ⟨gb157, 0, none⟩ = some (.string a1_0) := (bc_ BK157.out 0).trans rfl; have hcz33_1 : w30.cell? ⟨gb157, 1, none⟩ = some (.string a1_1) := (bc_ BK157.out 1).trans rfl; have hcz33_2 : w30.cell? ⟨gb157, 2, none⟩ = some (.string a1_2) := (bc_ BK157.out 2).trans rfl; have hcz33_3 : w30.cell? ⟨gb157, 3, none⟩ = some (.int .u8 a1_3) := (bc_ BK157.out 3).trans rfl; have hcz33_4 : w30.cell? ⟨gb157, 4, none⟩ = some (.int .i64 a1_4) := (bc_ BK157.out 4).trans rfl; have hcz33_5 : w30.cell? ⟨gb157, 5, none⟩ = some (.int .i64 a1_5) := (bc_ BK157.out 5).trans rfl; have hcz33_6 : w30.cell? ⟨gb157, 6, none⟩ = some (.int .i64 a1_6) := (bc_ BK157.out 6).trans rfl; have hcz33_7 : w30.cell? ⟨gb157, 7, none⟩ = some (.int .i64 a1_7) := (bc_ BK157.out 7).trans rfl; have hcz33_8 : w30.cell? ⟨gb157, 8, none⟩ = some (.slice A1_8 l1_8.length c1_8) := (bc_ BK157.out 8).trans rfl; have hfz33_0 := bf_ BK157.out 0; have hfz33_1 := bf_ BK157.out 1; have hfz33_2 := bf_ BK157.out 2; have hfz33_3 := bf_ BK157.out 3; have hfz33_4 := bf_ BK157.out 4; have hfz33_5 := bf_ BK157.out 5; have hfz33_6 := bf_ BK157.out 6; have hfz33_7 := bf_ BK157.out 7; have hfz33_8 := bf_ BK157.out 8))
  go_ret
  exact ⟨we_, wb2_ HB.out GE156.out GE157.out⟩
 rw [if_pos c3] at H
 have c3b0 : (a0_0.toList == a1_0.toList) = true := beq_iff_eq.mpr c3
 have c3b1 : (a0_0.toList != a1_0.toList) = false := bne_eq_false_iff_eq.mpr c3
 clear c3
 by_cases c4 : a0_3 = a1_3
 rotate_left
 ·rw [if_neg c4] at H
  have c4b0 : (a0_3 == a1_3) = false := beq_eq_false_iff_ne.mpr c4
  have c4b1 : (a0_3 != a1_3) = true := bne_iff_ne.mpr c4
  obtain rfl := Option.some.inj H
  go_enter Tryz.func19, Tryz.ntmps19
  go_wp2_with (first | ((with_reducible refine gate_dst (N := 2) rfl ?_); refine box_event ?hg (N := 2) ?hd (cs := #[.string a0_0, .string a0_1, .string a0_2, .int .u8 a0_3, .int .i64 a0_4, .int .i64 a0_5, .int .i64 a0_6, .int .i64 a0_7, .slice A0_8 l0_8.length c0_8]) (t := 42) ?hr ?_; (case hd => rfl); (case hg => rfl); (case hr => first | (go_simp; done) | (go_simp; rfl)); intro gb156 hg w24 hbox hb; have n0_ := A0_ (below_step (wb_ HB.out) hb); have n1_ := A0_ (hbox); have n2_ := A0_ ((by rw [hg]; exact (below_size (wb_ HB.out)) : w.heap.size ≤ gb156)); have n3_ := A0_ ((by rw [hg]; exact (below_size (wb_ HB.out)) : w.heap.size ≤ gb156)); clear HB; have HB := n0_; have BK156 := n1_; have GW156 := n2_; have GE156 := n3_; clear n0_ n1_ n2_ n3_; clear hb hbox hg) | ((with_reducible refine gate_dst (N := 3) rfl ?_); refine box_event ?hg (N := 3) ?hd (cs := #[.string a1_0, .string a1_1, .string a1_2, .int .u8 a1_3, .int .i64 a1_4, .int .i64 a1_5, .int .i64 a1_6, .int .i64 a1_7, .slice A1_8 l1_8.length c1_8]) (t := 42) ?hr ?_; (case hd => rfl); (case hg => rfl); (case hr => first | (go_simp; done) | (go_simp; rfl)); intro gb157 hg w25 hbox hb; have n0_ := A0_ (blk_below (g := gb156) (o := .cells #[.string a0_0, .string a0_1, .string a0_2, .int .u8 a0_3, .int .i64 a0_4, .int .i64 a0_5, .int .i64 a0_6, .int .i64 a0_7, .slice A0_8 l0_8.length c0_8] 42 (0, 0)) (wB_ BK156.out) hb); have n1_ := A0_ (below_step (wb1_ HB.out GE156.out) hb); have n2_ := A0_ (hbox); have n3_ := A0_ ((by rw [hg]; exact (below_size (wb1_ HB.out GE156.out)) : w.heap.size ≤ gb157)); have n4_ := A0_ ((by rw [hg]; exact (below_size (wb1_ HB.out GE156.out)) : w.heap.size ≤ gb157)); have n5_ := A0_ ((by rw [hg]; exact Nat.ne_of_lt (blk_lt (g := gb156) (o := .cells #[.string a0_0, .string a0_1, .string a0_2, .int .u8 a0_3, .int .i64 a0_4, .int .i64 a0_5, .int .i64 a0_6, .int .i64 a0_7, .slice A0_8 l0_8.length c0_8] 42 (0, 0)) (wB_ BK156.out)) : gb156 ≠ gb157)); have n6_ := A0_ ((by rw [hg]; exact Nat.ne_of_gt (blk_lt (g := gb156) (o := .cells #[.string a0_0, .string a0_1, .string a0_2, .int .u8 a0_3, .int .i64 a0_4, .int .i64 a0_5, .int .i64 a0_6, .int .i64 a0_7, .slice A0_8 l0_8.length c0_8] 42 (0, 0)) (wB_ BK156.out)) : gb157 ≠ gb156)); clear BK156; clear HB; have BK156 := n0_; have HB := n1_; have BK157 := n2_; have GW157 := n3_; have GE157 := n4_; have NB156_157 := n5_; have NB157_156 := n6_; clear n0_ n1_ n2_ n3_ n4_ n5_ n6_; clear hb hbox hg; have hnb26 := NB156_157.out; have hnc26 := NB157_156.out; have hcz27_0 : w25.cell? ⟨gb156, 0, none⟩ = some (.string a0_0) := (bc_ BK156.out 0).trans rfl; have hcz27_1 : w25.cell? ⟨gb156, 1, none⟩ = some (.string a0_1) := (bc_ BK156.out 1).trans rfl; have hcz27_2 : w25.cell? ⟨gb156, 2, none⟩ = some (.string a0_2) := (bc_ BK156.out 2).trans rfl; have hcz27_3 : w25.cell? ⟨gb156, 3, none⟩ = some (.int .u8 a0_3) := (bc_ BK156.out 3).trans rfl; have hcz27_4 : w25.cell? ⟨gb156, 4, none⟩ = some (.int .i64 a0_4) := (bc_ BK156.out 4).trans rfl; have hcz27_5 : w25.cell? ⟨gb156, 5, none⟩ = some (.int .i64 a0_5) := (bc_ BK156.out 5).trans rfl; have hcz27_6 : w25.cell? ⟨gb156, 6, none⟩ = some (.int .i64 a0_6) := (bc_ BK156.out 6).trans rfl; have hcz27_7 : w25.cell? ⟨gb156, 7, none⟩ = some (.int .i64 a0_7) := (bc_ BK156.out 7).trans rfl; have hcz27_8 : w25.cell? ⟨gb156, 8, none⟩ = some (.slice A0_8 l0_8.length c0_8) := (bc_ BK156.out 8).trans rfl; have hfz27_0 := bf_ BK156.out 0; have hfz27_1 := bf_ BK156.out 1; have hfz27_2 := bf_ BK156.out 2; have hfz27_3 := bf_ BK156.out 3; have hfz27_4 := bf_ BK156.out 4; have hfz27_5 := bf_ BK156.out 5; have hfz27_6 := bf_ BK156.out 6; have hfz27_7 := bf_ BK156.out 7; have hfz27_8 := bf_ BK156.out 8; have hcz28_0 : w25.cell? ⟨gb157, 0, none⟩ = some (.string a1_0) := (bc_ BK157.out 0).trans rfl; have hcz28_1 : w25.cell? ⟨gb157, 1, none⟩ = some (.string a1_1) := (bc_ BK157.out 1).trans rfl; have hcz28_2 : w25.cell? ⟨gb157, 2, none⟩ = some (.string a1_2) := (bc_ BK157.out 2).trans rfl; have hcz28_3 : w25.cell? ⟨gb157, 3, none⟩ = some (.int .u8 a1_3) := (bc_ BK157.out 3).trans rfl; have hcz28_4 : w25.cell? ⟨gb157, 4, none⟩ = some (.int .i64 a1_4) := (bc_ BK157.out 4).trans rfl; have hcz28_5 : w25.cell? ⟨gb157, 5, none⟩ = some (.int .i64 a1_5) := (bc_ BK157.out 5).trans rfl; have hcz28_6 : w25.cell? ⟨gb157, 6, none⟩ = some (.int .i64 a1_6) := (bc_ BK157.out 6).trans rfl; have hcz28_7 : w25.cell? ⟨gb157, 7, none⟩ = some (.int .i64 a1_7) := (bc_ BK157.out 7).trans rfl; have hcz28_8 : w25.cell? ⟨gb157, 8, none⟩ = some (.slice A1_8 l1_8.length c1_8) := (bc_ BK157.out 8).trans rfl; have hfz28_0 := bf_ BK157.out 0; have hfz28_1 := bf_ BK157.out 1; have hfz28_2 := bf_ BK157.out 2; have hfz28_3 := bf_ BK157.out 3; have hfz28_4 := bf_ BK157.out 4; have hfz28_5 := bf_ BK157.out 5; have hfz28_6 := bf_ BK157.out 6; have hfz28_7 := bf_ BK157.out 7; have hfz28_8 := bf_ BK157.out 8))
  go_ret
  exact ⟨we_, wb2_ HB.out GE156.out GE157.out⟩
 rw [if_pos c4] at H
 have c4b0 : (a0_3 == a1_3) = true := beq_iff_eq.mpr c4
 have c4b1 : (a0_3 != a1_3) = false := bne_eq_false_iff_eq.mpr c4
 clear c4
 by_cases c5 : (a0_4 == a1_4 && (a0_5 == a1_5 && (a0_6 == a1_6 && (a0_7 == a1_7)))) = true
 rotate_left
 ·rw [if_neg c5] at H
  have c5b0 : (a0_4 == a1_4 && (a0_5 == a1_5 && (a0_6 == a1_6 && (a0_7 == a1_7)))) = false := by simpa using c5
  (try (have c5b1 : decide (a0_4 = a1_4 && (a0_5 == a1_5 && (a0_6 == a1_6 && (a0_7 == a1_7)))) = false := by simpa using c5))
  (try (have c5b2 : (a0_4 == a1_4 && (a0_5 == a1_5 && (a0_6 == a1_6 && (a0_7 == a1_7)))) = false := by simpa using c5))
  (try (have c5b3 : ¬ (a0_4 = a1_4 && (a0_5 == a1_5 && (a0_6 == a1_6 && (a0_7 == a1_7)))) := by simpa using c5))
  clear c5
  obtain rfl := Option.some.inj H
  go_enter Tryz.func19, Tryz.ntmps19
  go_wp2_with (first | ((with_reducible refine gate_dst (N := 2) rfl ?_); refine box_event ?hg (N := 2) ?hd (cs := #[.string a0_0, .string a0_1, .string a0_2, .int .u8 a0_3, .int .i64 a0_4, .int .i64 a0_5, .int .i64 a0_6, .int .i64 a0_7, .slice A0_8 l0_8.length c0_8]) (t := 42) ?hr ?_; (case hd => rfl); (case hg => rfl); (case hr => first | (go_simp; done) | (go_simp; rfl)); intro gb156 hg w19 hbox hb; have n0_ := A0_ (below_step (wb_ HB.out) hb); have n1_ := A0_ (hbox); have n2_ := A0_ ((by rw [hg]; exact (below_size (wb_ HB.out)) : w.heap.size ≤ gb156)); have n3_ := A0_ ((by rw [hg]; exact (below_size (wb_ HB.out)) : w.heap.size ≤ gb156)); clear HB; have HB := n0_; have BK156 := n1_; have GW156 := n2_; have GE156 := n3_; clear n0_ n1_ n2_ n3_; clear hb hbox hg) | ((with_reducible refine gate_dst (N := 3) rfl ?_); refine box_event ?hg (N := 3) ?hd (cs := #[.string a1_0, .string a1_1, .string a1_2, .int .u8 a1_3, .int .i64 a1_4, .int .i64 a1_5, .int .i64 a1_6, .int .i64 a1_7, .slice A1_8 l1_8.length c1_8]) (t := 42) ?hr ?_; (case hd => rfl); (case hg => rfl); (case hr => first | (go_simp; done) | (go_simp; rfl)); intro gb157 hg w20 hbox hb; have n0_ := A0_ (blk_below (g := gb156) (o := .cells #[.string a0_0, .string a0_1, .string a0_2, .int .u8 a0_3, .int .i64 a0_4, .int .i64 a0_5, .int .i64 a0_6, .int .i64 a0_7, .slice A0_8 l0_8.length c0_8] 42 (0, 0)) (wB_ BK156.out) hb); have n1_ := A0_ (below_step (wb1_ HB.out GE156.out) hb); have n2_ := A0_ (hbox); have n3_ := A0_ ((by rw [hg]; exact (below_size (wb1_ HB.out GE156.out)) : w.heap.size ≤ gb157)); have n4_ := A0_ ((by rw [hg]; exact (below_size (wb1_ HB.out GE156.out)) : w.heap.size ≤ gb157)); have n5_ := A0_ ((by rw [hg]; exact Nat.ne_of_lt (blk_lt (g := gb156) (o := .cells #[.string a0_0, .string a0_1, .string a0_2, .int .u8 a0_3, .int .i64 a0_4, .int .i64 a0_5, .int .i64 a0_6, .int .i64 a0_7, .slice A0_8 l0_8.length c0_8] 42 (0, 0)) (wB_ BK156.out)) : gb156 ≠ gb157)); have n6_ := A0_ ((by rw [hg]; exact Nat.ne_of_gt (blk_lt (g := gb156) (o := .cells #[.string a0_0, .string a0_1, .string a0_2, .int .u8 a0_3, .int .i64 a0_4, .int .i64 a0_5, .int .i64 a0_6, .int .i64 a0_7, .slice A0_8 l0_8.length c0_8] 42 (0, 0)) (wB_ BK156.out)) : gb157 ≠ gb156)); clear BK156; clear HB; have BK156 := n0_; have HB := n1_; have BK157 := n2_; have GW157 := n3_; have GE157 := n4_; have NB156_157 := n5_; have NB157_156 := n6_; clear n0_ n1_ n2_ n3_ n4_ n5_ n6_; clear hb hbox hg; have hnb21 := NB156_157.out; have hnc21 := NB157_156.out; have hcz22_0 : w20.cell? ⟨gb156, 0, none⟩ = some (.string a0_0) := (bc_ BK156.out 0).trans rfl; have hcz22_1 : w20.cell? ⟨gb156, 1, none⟩ = some (.string a0_1) := (bc_ BK156.out 1).trans rfl; have hcz22_2 : w20.cell? ⟨gb156, 2, none⟩ = some (.string a0_2) := (bc_ BK156.out 2).trans rfl; have hcz22_3 : w20.cell? ⟨gb156, 3, none⟩ = some (.int .u8 a0_3) := (bc_ BK156.out 3).trans rfl; have hcz22_4 : w20.cell? ⟨gb156, 4, none⟩ = some (.int .i64 a0_4) := (bc_ BK156.out 4).trans rfl; have hcz22_5 : w20.cell? ⟨gb156, 5, none⟩ = some (.int .i64 a0_5) := (bc_ BK156.out 5).trans rfl; have hcz22_6 : w20.cell? ⟨gb156, 6, none⟩ = some (.int .i64 a0_6) := (bc_ BK156.out 6).trans rfl; have hcz22_7 : w20.cell? ⟨gb156, 7, none⟩ = some (.int .i64 a0_7) := (bc_ BK156.out 7).trans rfl; have hcz22_8 : w20.cell? ⟨gb156, 8, none⟩ = some (.slice A0_8 l0_8.length c0_8) := (bc_ BK156.out 8).trans rfl; have hfz22_0 := bf_ BK156.out 0; have hfz22_1 := bf_ BK156.out 1; have hfz22_2 := bf_ BK156.out 2; have hfz22_3 := bf_ BK156.out 3; have hfz22_4 := bf_ BK156.out 4; have hfz22_5 := bf_ BK156.out 5; have hfz22_6 := bf_ BK156.out 6; have hfz22_7 := bf_ BK156.out 7; have hfz22_8 := bf_ BK156.out 8; have hcz23_0 : w20.cell? ⟨gb157, 0, none⟩ = some (.string a1_0) := (bc_ BK157.out 0).trans rfl; have hcz23_1 : w20.cell? ⟨gb157, 1, none⟩ = some (.string a1_1) := (bc_ BK157.out 1).trans rfl; have hcz23_2 : w20.cell? ⟨gb157, 2, none⟩ = some (.string a1_2) := (bc_ BK157.out 2).trans rfl; have hcz23_3 : w20.cell? ⟨gb157, 3, none⟩ = some (.int .u8 a1_3) := (bc_ BK157.out 3).trans rfl; have hcz23_4 : w20.cell? ⟨gb157, 4, none⟩ = some (.int .i64 a1_4) := (bc_ BK157.out 4).trans rfl; have hcz23_5 : w20.cell? ⟨gb157, 5, none⟩ = some (.int .i64 a1_5) := (bc_ BK157.out 5).trans rfl; have hcz23_6 : w20.cell? ⟨gb157, 6, none⟩ = some (.int .i64 a1_6) := (bc_ BK157.out 6).trans rfl; have hcz23_7 : w20.cell? ⟨gb157, 7, none⟩ = some (.int .i64 a1_7) := (bc_ BK157.out 7).trans rfl; have hcz23_8 : w20.cell? ⟨gb157, 8, none⟩ = some (.slice A1_8 l1_8.length c1_8) := (bc_ BK157.out 8).trans rfl; have hfz23_0 := bf_ BK157.out 0; have hfz23_1 := bf_ BK157.out 1; have hfz23_2 := bf_ BK157.out 2; have hfz23_3 := bf_ BK157.out 3; have hfz23_4 := bf_ BK157.out 4; have hfz23_5 := bf_ BK157.out 5; have hfz23_6 := bf_ BK157.out 6; have hfz23_7 := bf_ BK157.out 7; have hfz23_8 := bf_ BK157.out 8))
  go_ret
  exact ⟨we_, wb2_ HB.out GE156.out GE157.out⟩
 rw [if_pos c5] at H
 have c5b0 : (a0_4 == a1_4 && (a0_5 == a1_5 && (a0_6 == a1_6 && (a0_7 == a1_7)))) = true := c5
 (try (have c5b1 : decide (a0_4 = a1_4 && (a0_5 == a1_5 && (a0_6 == a1_6 && (a0_7 == a1_7)))) = true := by simpa using c5))
 (try (have c5b2 : (a0_4 == a1_4 && (a0_5 == a1_5 && (a0_6 == a1_6 && (a0_7 == a1_7)))) = true := by simpa using c5))
 clear c5
 by_cases c6 : a0_1.toList = a1_1.toList
 rotate_left
 ·rw [if_neg c6] at H
  have c6b0 : (a0_1.toList == a1_1.toList) = false := beq_eq_false_iff_ne.mpr c6
  have c6b1 : (a0_1.toList != a1_1.toList) = true := bne_iff_ne.mpr c6
  obtain rfl := Option.some.inj H
  go_enter Tryz.func19, Tryz.ntmps19
  go_wp2_with (first | ((with_reducible refine gate_dst (N := 2) rfl ?_); refine box_event ?hg (N := 2) ?hd (cs := #[.string a0_0, .string a0_1, .string a0_2, .int .u8 a0_3, .int .i64 a0_4, .int .i64 a0_5, .int .i64 a0_6, .int .i64 a0_7, .slice A0_8 l0_8.length c0_8]) (t := 42) ?hr ?_; (case hd => rfl); (case hg => rfl); (case hr => first | (go_simp; done) | (go_simp; rfl)); intro gb156 hg w14 hbox hb; have n0_ := A0_ (below_step (wb_ HB.out) hb); have n1_ := A0_ (hbox); have n2_ := A0_ ((by rw [hg]; exact (below_size (wb_ HB.out)) : w.heap.size ≤ gb156)); have n3_ := A0_ ((by rw [hg]; exact (below_size (wb_ HB.out)) : w.heap.size ≤ gb156)); clear HB; have HB := n0_; have BK156 := n1_; have GW156 := n2_; have GE156 := n3_; clear n0_ n1_ n2_ n3_; clear hb hbox hg) | ((with_reducible refine gate_dst (N := 3) rfl ?_); refine box_event ?hg (N := 3) ?hd (cs := #[.string a1_0, .string a1_1, .string a1_2, .int .u8 a1_3, .int .i64 a1_4, .int .i64 a1_5, .int .i64 a1_6, .int .i64 a1_7, .slice A1_8 l1_8.length c1_8]) (t := 42) ?hr ?_; (case hd => rfl); (case hg => rfl); (case hr => first | (go_simp; done) | (go_simp; rfl)); intro gb157 hg w15 hbox hb; have n0_ := A0_ (blk_below (g := gb156) (o := .cells #[.string a0_0, .string a0_1, .string a0_2, .int .u8 a0_3, .int .i64 a0_4, .int .i64 a0_5, .int .i64 a0_6, .int .i64 a0_7, .slice A0_8 l0_8.length c0_8] 42 (0, 0)) (wB_ BK156.out) hb); have n1_ := A0_ (below_step (wb1_ HB.out GE156.out) hb); have n2_ := A0_ (hbox); have n3_ := A0_ ((by rw [hg]; exact (below_size (wb1_ HB.out GE156.out)) : w.heap.size ≤ gb157)); have n4_ := A0_ ((by rw [hg]; exact (below_size (wb1_ HB.out GE156.out)) : w.heap.size ≤ gb157)); have n5_ := A0_ ((by rw [hg]; exact Nat.ne_of_lt (blk_lt (g := gb156) (o := .cells #[.string a0_0, .string a0_1, .string a0_2, .int .u8 a0_3, .int .i64 a0_4, .int .i64 a0_5, .int .i64 a0_6, .int .i64 a0_7, .slice A0_8 l0_8.length c0_8] 42 (0, 0)) (wB_ BK156.out)) : gb156 ≠ gb157)); have n6_ := A0_ ((by rw [hg]; exact Nat.ne_of_gt (blk_lt (g := gb156) (o := .cells #[.string a0_0, .string a0_1, .string a0_2, .int .u8 a0_3, .int .i64 a0_4, .int .i64 a0_5, .int .i64 a0_6, .int .i64 a0_7, .slice A0_8 l0_8.length c0_8] 42 (0, 0)) (wB_ BK156.out)) : gb157 ≠ gb156)); clear BK156; clear HB; have BK156 := n0_; have HB := n1_; have BK157 := n2_; have GW157 := n3_; have GE157 := n4_; have NB156_157 := n5_; have NB157_156 := n6_; clear n0_ n1_ n2_ n3_ n4_ n5_ n6_; clear hb hbox hg; have hnb16 := NB156_157.out; have hnc16 := NB157_156.out; have hcz17_0 : w15.cell? ⟨gb156, 0, none⟩ = some (.string a0_0) := (bc_ BK156.out 0).trans rfl; have hcz17_1 : w15.cell? ⟨gb156, 1, none⟩ = some (.string a0_1) := (bc_ BK156.out 1).trans rfl; have hcz17_2 : w15.cell? ⟨gb156, 2, none⟩ = some (.string a0_2) := (bc_ BK156.out 2).trans rfl; have hcz17_3 : w15.cell? ⟨gb156, 3, none⟩ = some (.int .u8 a0_3) := (bc_ BK156.out 3).trans rfl; have hcz17_4 : w15.cell? ⟨gb156, 4, none⟩ = some (.int .i64 a0_4) := (bc_ BK156.out 4).trans rfl; have hcz17_5 : w15.cell? ⟨gb156, 5, none⟩ = some (.int .i64 a0_5) := (bc_ BK156.out 5).trans rfl; have hcz17_6 : w15.cell? ⟨gb156, 6, none⟩ = some (.int .i64 a0_6) := (bc_ BK156.out 6).trans rfl; have hcz17_7 : w15.cell? ⟨gb156, 7, none⟩ = some (.int .i64 a0_7) := (bc_ BK156.out 7).trans rfl; have hcz17_8 : w15.cell? ⟨gb156, 8, none⟩ = some (.slice A0_8 l0_8.length c0_8) := (bc_ BK156.out 8).trans rfl; have hfz17_0 := bf_ BK156.out 0; have hfz17_1 := bf_ BK156.out 1; have hfz17_2 := bf_ BK156.out 2; have hfz17_3 := bf_ BK156.out 3; have hfz17_4 := bf_ BK156.out 4; have hfz17_5 := bf_ BK156.out 5; have hfz17_6 := bf_ BK156.out 6; have hfz17_7 := bf_ BK156.out 7; have hfz17_8 := bf_ BK156.out 8; have hcz18_0 : w15.cell? ⟨gb157, 0, none⟩ = some (.string a1_0) := (bc_ BK157.out 0).trans rfl; have hcz18_1 : w15.cell? ⟨gb157, 1, none⟩ = some (.string a1_1) := (bc_ BK157.out 1).trans rfl; have hcz18_2 : w15.cell? ⟨gb157, 2, none⟩ = some (.string a1_2) := (bc_ BK157.out 2).trans rfl; have hcz18_3 : w15.cell? ⟨gb157, 3, none⟩ = some (.int .u8 a1_3) := (bc_ BK157.out 3).trans rfl; have hcz18_4 : w15.cell? ⟨gb157, 4, none⟩ = some (.int .i64 a1_4) := (bc_ BK157.out 4).trans rfl; have hcz18_5 : w15.cell? ⟨gb157, 5, none⟩ = some (.int .i64 a1_5) := (bc_ BK157.out 5).trans rfl; have hcz18_6 : w15.cell? ⟨gb157, 6, none⟩ = some (.int .i64 a1_6) := (bc_ BK157.out 6).trans rfl; have hcz18_7 : w15.cell? ⟨gb157, 7, none⟩ = some (.int .i64 a1_7) := (bc_ BK157.out 7).trans rfl; have hcz18_8 : w15.cell? ⟨gb157, 8, none⟩ = some (.slice A1_8 l1_8.length c1_8) := (bc_ BK157.out 8).trans rfl; have hfz18_0 := bf_ BK157.out 0; have hfz18_1 := bf_ BK157.out 1; have hfz18_2 := bf_ BK157.out 2; have hfz18_3 := bf_ BK157.out 3; have hfz18_4 := bf_ BK157.out 4; have hfz18_5 := bf_ BK157.out 5; have hfz18_6 := bf_ BK157.out 6; have hfz18_7 := bf_ BK157.out 7; have hfz18_8 := bf_ BK157.out 8))
  go_ret
  exact ⟨we_, wb2_ HB.out GE156.out GE157.out⟩
 rw [if_pos c6] at H
 have c6b0 : (a0_1.toList == a1_1.toList) = true := beq_iff_eq.mpr c6
 have c6b1 : (a0_1.toList != a1_1.toList) = false := bne_eq_false_iff_eq.mpr c6
 clear c6
 obtain rfl := Option.some.inj H
 go_enter Tryz.func19, Tryz.ntmps19
 go_wp2_with (first | ((with_reducible refine gate_dst (N := 2) rfl ?_); refine box_event ?hg (N := 2) ?hd (cs := #[.string a0_0, .string a0_1, .string a0_2, .int .u8 a0_3, .int .i64 a0_4, .int .i64 a0_5, .int .i64 a0_6, .int .i64 a0_7, .slice A0_8 l0_8.length c0_8]) (t := 42) ?hr ?_; (case hd => rfl); (case hg => rfl); (case hr => first | (go_simp; done) | (go_simp; rfl)); intro gb156 hg w7 hbox hb; have n0_ := A0_ (below_step (wb_ HB.out) hb); have n1_ := A0_ (hbox); have n2_ := A0_ ((by rw [hg]; exact (below_size (wb_ HB.out)) : w.heap.size ≤ gb156)); have n3_ := A0_ ((by rw [hg]; exact (below_size (wb_ HB.out)) : w.heap.size ≤ gb156)); clear HB; have HB := n0_; have BK156 := n1_; have GW156 := n2_; have GE156 := n3_; clear n0_ n1_ n2_ n3_; clear hb hbox hg) | ((with_reducible refine gate_dst (N := 3) rfl ?_); refine box_event ?hg (N := 3) ?hd (cs := #[.string a1_0, .string a1_1, .string a1_2, .int .u8 a1_3, .int .i64 a1_4, .int .i64 a1_5, .int .i64 a1_6, .int .i64 a1_7, .slice A1_8 l1_8.length c1_8]) (t := 42) ?hr ?_; (case hd => rfl); (case hg => rfl); (case hr => first | (go_simp; done) | (go_simp; rfl)); intro gb157 hg w8 hbox hb; have n0_ := A0_ (blk_below (g := gb156) (o := .cells #[.string a0_0, .string a0_1, .string a0_2, .int .u8 a0_3, .int .i64 a0_4, .int .i64 a0_5, .int .i64 a0_6, .int .i64 a0_7, .slice A0_8 l0_8.length c0_8] 42 (0, 0)) (wB_ BK156.out) hb); have n1_ := A0_ (below_step (wb1_ HB.out GE156.out) hb); have n2_ := A0_ (hbox); have n3_ := A0_ ((by rw [hg]; exact (below_size (wb1_ HB.out GE156.out)) : w.heap.size ≤ gb157)); have n4_ := A0_ ((by rw [hg]; exact (below_size (wb1_ HB.out GE156.out)) : w.heap.size ≤ gb157)); have n5_ := A0_ ((by rw [hg]; exact Nat.ne_of_lt (blk_lt (g := gb156) (o := .cells #[.string a0_0, .string a0_1, .string a0_2, .int .u8 a0_3, .int .i64 a0_4, .int .i64 a0_5, .int .i64 a0_6, .int .i64 a0_7, .slice A0_8 l0_8.length c0_8] 42 (0, 0)) (wB_ BK156.out)) : gb156 ≠ gb157)); have n6_ := A0_ ((by rw [hg]; exact Nat.ne_of_gt (blk_lt (g := gb156) (o := .cells #[.string a0_0, .string a0_1, .string a0_2, .int .u8 a0_3, .int .i64 a0_4, .int .i64 a0_5, .int .i64 a0_6, .int .i64 a0_7, .slice A0_8 l0_8.length c0_8] 42 (0, 0)) (wB_ BK156.out)) : gb157 ≠ gb156)); clear BK156; clear HB; have BK156 := n0_; have HB := n1_; have BK157 := n2_; have GW157 := n3_; have GE157 := n4_; have NB156_157 := n5_; have NB157_156 := n6_; clear n0_ n1_ n2_ n3_ n4_ n5_ n6_; clear hb hbox hg; have hnb9 := NB156_157.out; have hnc9 := NB157_156.out; have hcz10_0 : w8.cell? ⟨gb156, 0, none⟩ = some (.string a0_0) := (bc_ BK156.out 0).trans rfl; have hcz10_1 : w8.cell? ⟨gb156, 1, none⟩ = some (.string a0_1) := (bc_ BK156.out 1).trans rfl; have hcz10_2 : w8.cell? ⟨gb156, 2, none⟩ = some (.string a0_2) := (bc_ BK156.out 2).trans rfl; have hcz10_3 : w8.cell? ⟨gb156, 3, none⟩ = some (.int .u8 a0_3) := (bc_ BK156.out 3).trans rfl; have hcz10_4 : w8.cell? ⟨gb156, 4, none⟩ = some (.int .i64 a0_4) := (bc_ BK156.out 4).trans rfl; have hcz10_5 : w8.cell? ⟨gb156, 5, none⟩ = some (.int .i64 a0_5) := (bc_ BK156.out 5).trans rfl; have hcz10_6 : w8.cell? ⟨gb156, 6, none⟩ = some (.int .i64 a0_6) := (bc_ BK156.out 6).trans rfl; have hcz10_7 : w8.cell? ⟨gb156, 7, none⟩ = some (.int .i64 a0_7) := (bc_ BK156.out 7).trans rfl; have hcz10_8 : w8.cell? ⟨gb156, 8, none⟩ = some (.slice A0_8 l0_8.length c0_8) := (bc_ BK156.out 8).trans rfl; have hfz10_0 := bf_ BK156.out 0; have hfz10_1 := bf_ BK156.out 1; have hfz10_2 := bf_ BK156.out 2; have hfz10_3 := bf_ BK156.out 3; have hfz10_4 := bf_ BK156.out 4; have hfz10_5 := bf_ BK156.out 5; have hfz10_6 := bf_ BK156.out 6; have hfz10_7 := bf_ BK156.out 7; have hfz10_8 := bf_ BK156.out 8; have hcz11_0 : w8.cell? ⟨gb157, 0, none⟩ = some (.string a1_0) := (bc_ BK157.out 0).trans rfl; have hcz11_1 : w8.cell? ⟨gb157, 1, none⟩ = some (.string a1_1) := (bc_ BK157.out 1).trans rfl; have hcz11_2 : w8.cell? ⟨gb157, 2, none⟩ = some (.string a1_2) := (bc_ BK157.out 2).trans rfl; have hcz11_3 : w8.cell? ⟨gb157, 3, none⟩ = some (.int .u8 a1_3) := (bc_ BK157.out 3).trans rfl; have hcz11_4 : w8.cell? ⟨gb157, 4, none⟩ = some (.int .i64 a1_4) := (bc_ BK157.out 4).trans rfl; have hcz11_5 : w8.cell? ⟨gb157, 5, none⟩ = some (.int .i64 a1_5) := (bc_ BK157.out 5).trans rfl; have hcz11_6 : w8.cell? ⟨gb157, 6, none⟩ = some (.int .i64 a1_6) := (bc_ BK157.out 6).trans rfl; have hcz11_7 : w8.cell? ⟨gb157, 7, none⟩ = some (.int .i64 a1_7) := (bc_ BK157.out 7).trans rfl; have hcz11_8 : w8.cell? ⟨gb157, 8, none⟩ = some (.slice A1_8 l1_8.length c1_8) := (bc_ BK157.out 8).trans rfl; have hfz11_0 := bf_ BK157.out 0; have hfz11_1 := bf_ BK157.out 1; have hfz11_2 := bf_ BK157.out 2; have hfz11_3 := bf_ BK157.out 3; have hfz11_4 := bf_ BK157.out 4; have hfz11_5 := bf_ BK157.out 5; have hfz11_6 := bf_ BK157.out 6; have hfz11_7 := bf_ BK157.out 7; have hfz11_8 := bf_ BK157.out 8; have hcv12 := Kd.C_string (P := Tryz.prog) (A := A0_8) (c := c0_8) Tryz.underlying40 Tryz.underlying5 Tryz.underlying9 (Kd.C_below HR0_8.out HB.out); have hcv13 := Kd.C_string (P := Tryz.prog) (A := A1_8) (c := c1_8) Tryz.underlying40 Tryz.underlying5 Tryz.underlying9 (Kd.C_below HR1_8.out HB.out)))
 go_ret
 exact ⟨we_, wb2_ HB.out GE156.out GE157.out⟩
end Go.Proofs.YtbngbefchobfnaaGreatDoor.Print

namespace Go.Proofs.YtbngbefchobfnaaGreatDoor.Print
open Go.RowKit Go.Proofs.YtbngbefchobfnaaGreatDoorW.PrintWords Go.Proofs.YtbngbefchobfnaaGreatDoorW.PrintLast Go.Proofs.YtbngbefchobfnaaGreatDoorW.PrintMore
attribute [local go_sem] max2_int min2_int max_two min_two max_three min_three max_four min_four   -- for this text's walks alone
set_option linter.unusedVariables false
set_option linter.unusedSimpArgs false
abbrev q17_0 : Array Bool := #[false, false, false, false, false, false, false, false, false, false, false, false, false, false, false, false, false, false, false, false, false, false, false]
abbrev q17_1 : Array Bool := tb_ 23 1
abbrev q17_2 : Array Bool := tb_ 23 3
abbrev q17_3 : Array Bool := tb_ 23 7
abbrev q17_4 : Array Bool := tb_ 23 15
abbrev q17_5 : Array Bool := tb_ 23 47
abbrev q17_6 : Array Bool := tb_ 23 111
abbrev q17_7 : Array Bool := tb_ 23 239
abbrev q17_8 : Array Bool := tb_ 23 495
abbrev q17_9 : Array Bool := tb_ 23 511
abbrev q17_10 : Array Bool := tb_ 23 1023
abbrev q17_11 : Array Bool := tb_ 23 2047
abbrev q17_12 : Array Bool := tb_ 23 4095
abbrev q17_13 : Array Bool := tb_ 23 8191
abbrev q17_14 : Array Bool := tb_ 23 16383
abbrev q17_15 : Array Bool := tb_ 23 32767
abbrev q17_16 : Array Bool := tb_ 23 65535
abbrev q17_17 : Array Bool := tb_ 23 131071
abbrev q17_18 : Array Bool := tb_ 23 262143
abbrev q17_19 : Array Bool := tb_ 23 524287
abbrev q17_20 : Array Bool := tb_ 23 1048575
abbrev q17_21 : Array Bool := tb_ 23 2097151
abbrev q17_22 : Array Bool := tb_ 23 4194303
abbrev q17_23 : Array Bool := tb_ 23 8388607
abbrev q17_24 : Array Bool := tb_ 23 98303
abbrev q17_25 : Array Bool := tb_ 23 229375
abbrev q17_26 : Array Bool := tb_ 23 491519
def bindleref08_SameTree.l0 : Nat → List (S42) → List (S42) → Int → Option (Bool)
 | 0, _, _, _ => none
 | k + 1, x0, x1, x5 => if x5 < (x0.length : Int) then (if 0 ≤ x5 then (if x5 < (x1.length : Int) then (if ((rd_T42 x0 x5).f2).toList = ((rd_T42 x1 x5).f2).toList then ((bindleref08_Equal.f ((rd_T42 x0 x5).f0) ((rd_T42 x0 x5).f1) ((rd_T42 x0 x5).f2) ((rd_T42 x0 x5).f3) ((rd_T42 x0 x5).f4.f0) ((rd_T42 x0 x5).f4.f1) ((rd_T42 x0 x5).f4.f2) ((rd_T42 x0 x5).f4.f3) ((rd_T42 x0 x5).f5) ((rd_T42 x1 x5).f0) ((rd_T42 x1 x5).f1) ((rd_T42 x1 x5).f2) ((rd_T42 x1 x5).f3) ((rd_T42 x1 x5).f4.f0) ((rd_T42 x1 x5).f4.f1) ((rd_T42 x1 x5).f4.f2) ((rd_T42 x1 x5).f4.f3) ((rd_T42 x1 x5).f5)).bind fun t400 => (if t400 = true then (bindleref08_SameTree.l0 k x0 x1 (wrap64 (x5 + 1))) else (some false))) else (some false)) else (none)) else (none)) else (some true)
def bindleref08_SameTree.f (k : Nat) (l0 : List (S42)) (l1 : List (S42)) : Option (Bool) := if (l0.length : Int) = (l1.length : Int) then (bindleref08_SameTree.l0 k l0 l1 0) else (some false)
def bindleref08_SameTree.T6 : Bool × List (List Nat × List Nat) := (true, [([], []), ([], []), ([0, 1], [0, 1]), ([2], [2]), ([3], [3]), ([], []), ([], []), ([5, 6], [5, 6]), ([7], [7]), ([8], [8]), ([4, 9], [4, 9]), ([10], [10]), ([11], [11]), ([11], [11]), ([12, 13, 11], [11, 12, 13]), ([14, 11], [11, 14]), ([11], [11]), ([11], [11]), ([16, 17, 11], [11, 16, 17]), ([18, 11], [11, 18]), ([15, 19, 11, 11], [11, 15, 19]), ([20, 11], [11, 20]), ([11, 21], [11, 21])])
def bindleref08_SameTree.B6 : List Nat := [0, 0, 3, 7, 15, 0, 0, 96, 224, 480, 1023, 2047, 4095, 4095, 16383, 32767, 4095, 4095, 200703, 462847, 1048575, 2097151, 4194303]
theorem bindleref08_SameTree.tab6 : rtab .any (opsOf Tryz.f17 6) = bindleref08_SameTree.T6 := by kernel_rfl
theorem bindleref08_SameTree.bits6 : waitsOk bindleref08_SameTree.T6.2 bindleref08_SameTree.B6 = true := by kernel_rfl
set_option maxHeartbeats 8000000 in
set_option maxRecDepth 100000 in
theorem bindleref08_SameTree.calls (k : Nat) (A0 : Option Addr) (c0 : Nat) (l0 : List (S42)) (A1 : Option Addr) (c1 : Nat) (l1 : List (S42)) (r : Bool) (w : World) (hr0 : Kd.C k42 w A0 l0.length l0) (hc0 : l0.length ≤ c0) (hr1 : Kd.C k42 w A1 l1.length l1) (hc1 : l1.length ≤ c1) (h : bindleref08_SameTree.f k l0 l1 = some r) :
  Calls Tryz.prog 17 #[.slice A0 l0.length c0, .slice A1 l1.length c1] w fun e w' => e = .returned (.bool r) ∧ Below w.heap.size w w' := by
 have hu42 := Tryz.underlying42
 have HR0 := A0_ hr0
 have HC0 := A0_ hc0
 clear hr0 hc0
 have HR1 := A0_ hr1
 have HC1 := A0_ hc1
 clear hr1 hc1
 have HB := A0_ (Below.refl w.heap.size w)
 have H : (if (l0.length : Int) = (l1.length : Int) then (bindleref08_SameTree.l0 k l0 l1 0) else (some false)) = some r := h
 clear h
 by_cases c3 : (l0.length : Int) = (l1.length : Int)
 rotate_left
 ·rw [if_neg c3] at H
  have c3b0 : ((l0.length : Int) == (l1.length : Int)) = false := beq_eq_false_iff_ne.mpr c3
  have c3b1 : ((l0.length : Int) != (l1.length : Int)) = true := bne_iff_ne.mpr c3
  have c3b2 : (l0.length == l1.length) = false := by first | simpa using c3 | (simp at c3 ⊢; omega)
  obtain rfl := Option.some.inj H
  go_enter Tryz.func17, Tryz.ntmps17
  go_wp2
  go_ret
  exact ⟨we_, wb_ HB.out⟩
 rw [if_pos c3] at H
 have c3b0 : ((l0.length : Int) == (l1.length : Int)) = true := beq_iff_eq.mpr c3
 have c3b1 : ((l0.length : Int) != (l1.length : Int)) = false := bne_eq_false_iff_eq.mpr c3
 have c3b2 : (l0.length == l1.length) = true := by first | simpa using c3 | (simp at c3 ⊢; omega)
 clear c3
 have H' := A0_ H
 clear H
 go_enter Tryz.func17, Tryz.ntmps17
 go_wp2
 go_loopg [5] k (fun kq v5 w' => ∃ (x5_1 : Int), v5 = .int .i64 x5_1 ∧ Aside0 (bindleref08_SameTree.l0 kq l0 l1 x5_1 = some r) ∧ Aside0 (kq ≤ k) ∧ Aside0 (Below w.heap.size w w'))
 case atStart => exact ⟨(0), wr_, H', ⟨Nat.le_refl _⟩, ⟨wb_ HB.out⟩⟩
 case round =>
  clear H'
  try clear c1
  try clear p2
  try clear c3
  try clear c3b0
  try clear c3b1
  try clear c3b2
  obtain ⟨x5_1, rfl, HA, HK1, HB⟩ := hrel
  cases gk with
  | zero => exact absurd HA.out (by simp [bindleref08_SameTree.l0])
  | succ k1 =>
   have H := HA.out
   clear HA
   simp only [bindleref08_SameTree.l0] at H
   by_cases c4 : x5_1 < (l0.length : Int)
   rotate_left
   ·rw [if_neg c4] at H
    have c4b0 : decide (x5_1 < (l0.length : Int)) = false := decide_eq_false c4
    clear c4
    obtain rfl := Option.some.inj H
    go_wp2
    go_ret
    exact ⟨we_, wb_ HB.out⟩
   rw [if_pos c4] at H
   have c4b0 : decide (x5_1 < (l0.length : Int)) = true := decide_eq_true c4
   clear c4
   by_cases c5 : 0 ≤ x5_1
   rotate_left
   ·rw [if_neg c5] at H
    exact absurd H (by simp)
   rw [if_pos c5] at H
   have c5b0 : decide (0 ≤ x5_1) = true := decide_eq_true c5
   clear c5
   by_cases c6 : x5_1 < (l1.length : Int)
   rotate_left
   ·rw [if_neg c6] at H
    exact absurd H (by simp)
   rw [if_pos c6] at H
   have c6b0 : decide (x5_1 < (l1.length : Int)) = true := decide_eq_true c6
   clear c6
   by_cases c7 : ((rd_T42 l0 x5_1).f2).toList = ((rd_T42 l1 x5_1).f2).toList
   rotate_left
   ·rw [if_neg c7] at H
    have c7b0 : (((rd_T42 l0 x5_1).f2).toList == ((rd_T42 l1 x5_1).f2).toList) = false := beq_eq_false_iff_ne.mpr c7
    have c7b1 : (((rd_T42 l0 x5_1).f2).toList != ((rd_T42 l1 x5_1).f2).toList) = true := bne_iff_ne.mpr c7
    obtain rfl := Option.some.inj H
    try go_wp2
    have n0_ := A0_ (b1_ HB.out)
    clear HB
    have HB := n0_
    clear n0_
    have p396 : 0 ≤ (x5_1 : Int) := wd_
    have q396 : x5_1 < (l0.length : Int) := wd_
    obtain ⟨ad396, A396_8, c396_8, e396, hx396_0, hx396_1, hx396_2, hx396_3, hx396_4, hx396_5, hx396_6, hx396_7, hx396_8, hl396_8, hi396_8⟩ := at_T42 HR0.out x5_1 p396 q396
    have hw396_8 := hx396_8
    have hw396_7 := hx396_7
    have hw396_6 := hx396_6
    have hw396_5 := hx396_5
    have hw396_4 := hx396_4
    have hw396_3 := hx396_3
    have hw396_2 := hx396_2
    have hw396_1 := hx396_1
    have hw396_0 := hx396_0
    cases e396
    replace hx396_0 := (HB.out.cell (World.block_lt_of_cell? w _ hx396_0)).trans hx396_0
    replace hx396_1 := (HB.out.cell (World.block_lt_of_cell? w _ hx396_1)).trans hx396_1
    replace hx396_2 := (HB.out.cell (World.block_lt_of_cell? w _ hx396_2)).trans hx396_2
    replace hx396_3 := (HB.out.cell (World.block_lt_of_cell? w _ hx396_3)).trans hx396_3
    replace hx396_4 := (HB.out.cell (World.block_lt_of_cell? w _ hx396_4)).trans hx396_4
    replace hx396_5 := (HB.out.cell (World.block_lt_of_cell? w _ hx396_5)).trans hx396_5
    replace hx396_6 := (HB.out.cell (World.block_lt_of_cell? w _ hx396_6)).trans hx396_6
    replace hx396_7 := (HB.out.cell (World.block_lt_of_cell? w _ hx396_7)).trans hx396_7
    replace hx396_8 := (HB.out.cell (World.block_lt_of_cell? w _ hx396_8)).trans hx396_8
    have HR396_8 := A0_ hi396_8
    have HC396_8 := A0_ hl396_8
    clear hi396_8 hl396_8
    replace p396 := eq_true p396
    replace q396 := eq_true q396
    have p397 : 0 ≤ (x5_1 : Int) := wd_
    have q397 : x5_1 < (l1.length : Int) := wd_
    obtain ⟨ad397, A397_8, c397_8, e397, hx397_0, hx397_1, hx397_2, hx397_3, hx397_4, hx397_5, hx397_6, hx397_7, hx397_8, hl397_8, hi397_8⟩ := at_T42 HR1.out x5_1 p397 q397
    have hw397_8 := hx397_8
    have hw397_7 := hx397_7
    have hw397_6 := hx397_6
    have hw397_5 := hx397_5
    have hw397_4 := hx397_4
    have hw397_3 := hx397_3
    have hw397_2 := hx397_2
    have hw397_1 := hx397_1
    have hw397_0 := hx397_0
    cases e397
    replace hx397_0 := (HB.out.cell (World.block_lt_of_cell? w _ hx397_0)).trans hx397_0
    replace hx397_1 := (HB.out.cell (World.block_lt_of_cell? w _ hx397_1)).trans hx397_1
    replace hx397_2 := (HB.out.cell (World.block_lt_of_cell? w _ hx397_2)).trans hx397_2
    replace hx397_3 := (HB.out.cell (World.block_lt_of_cell? w _ hx397_3)).trans hx397_3
    replace hx397_4 := (HB.out.cell (World.block_lt_of_cell? w _ hx397_4)).trans hx397_4
    replace hx397_5 := (HB.out.cell (World.block_lt_of_cell? w _ hx397_5)).trans hx397_5
    replace hx397_6 := (HB.out.cell (World.block_lt_of_cell? w _ hx397_6)).trans hx397_6
    replace hx397_7 := (HB.out.cell (World.block_lt_of_cell? w _ hx397_7)).trans hx397_7
    replace hx397_8 := (HB.out.cell (World.block_lt_of_cell? w _ hx397_8)).trans hx397_8
    have HR397_8 := A0_ hi397_8
    have HC397_8 := A0_ hl397_8
    clear hi397_8 hl397_8
    replace p397 := eq_true p397
    replace q397 := eq_true q397
    refine start_ (n := 23) (S := fun w' => w'.cell? (ad396.add ((x5_1).toNat * 9)) = some (.string ((rd_T42 l0 x5_1).f0)) ∧ w'.cell? ⟨(ad396.add ((x5_1).toNat * 9)).block, (ad396.add ((x5_1).toNat * 9)).off + 1, none⟩ = some (.string ((rd_T42 l0 x5_1).f1)) ∧ w'.cell? ⟨(ad396.add ((x5_1).toNat * 9)).block, (ad396.add ((x5_1).toNat * 9)).off + 2, none⟩ = some (.string ((rd_T42 l0 x5_1).f2)) ∧ w'.cell? ⟨(ad396.add ((x5_1).toNat * 9)).block, (ad396.add ((x5_1).toNat * 9)).off + 3, none⟩ = some (.int .u8 ((rd_T42 l0 x5_1).f3)) ∧ w'.cell? ⟨(ad396.add ((x5_1).toNat * 9)).block, (ad396.add ((x5_1).toNat * 9)).off + 4, none⟩ = some (.int .i64 ((rd_T42 l0 x5_1).f4.f0)) ∧ w'.cell? ⟨(ad396.add ((x5_1).toNat * 9)).block, (ad396.add ((x5_1).toNat * 9)).off + 5, none⟩ = some (.int .i64 ((rd_T42 l0 x5_1).f4.f1)) ∧ w'.cell? ⟨(ad396.add ((x5_1).toNat * 9)).block, (ad396.add ((x5_1).toNat * 9)).off + 6, none⟩ = some (.int .i64 ((rd_T42 l0 x5_1).f4.f2)) ∧ w'.cell? ⟨(ad396.add ((x5_1).toNat * 9)).block, (ad396.add ((x5_1).toNat * 9)).off + 7, none⟩ = some (.int .i64 ((rd_T42 l0 x5_1).f4.f3)) ∧ w'.cell? ⟨(ad396.add ((x5_1).toNat * 9)).block, (ad396.add ((x5_1).toNat * 9)).off + 8, none⟩ = some (.slice A396_8 ((rd_T42 l0 x5_1).f5).length c396_8) ∧ w'.cell? (ad397.add ((x5_1).toNat * 9)) = some (.string ((rd_T42 l1 x5_1).f0)) ∧ w'.cell? ⟨(ad397.add ((x5_1).toNat * 9)).block, (ad397.add ((x5_1).toNat * 9)).off + 1, none⟩ = some (.string ((rd_T42 l1 x5_1).f1)) ∧ w'.cell? ⟨(ad397.add ((x5_1).toNat * 9)).block, (ad397.add ((x5_1).toNat * 9)).off + 2, none⟩ = some (.string ((rd_T42 l1 x5_1).f2)) ∧ w'.cell? ⟨(ad397.add ((x5_1).toNat * 9)).block, (ad397.add ((x5_1).toNat * 9)).off + 3, none⟩ = some (.int .u8 ((rd_T42 l1 x5_1).f3)) ∧ w'.cell? ⟨(ad397.add ((x5_1).toNat * 9)).block, (ad397.add ((x5_1).toNat * 9)).off + 4, none⟩ = some (.int .i64 ((rd_T42 l1 x5_1).f4.f0)) ∧ w'.cell? ⟨(ad397.add ((x5_1).toNat * 9)).block, (ad397.add ((x5_1).toNat * 9)).off + 5, none⟩ = some (.int .i64 ((rd_T42 l1 x5_1).f4.f1)) ∧ w'.cell? ⟨(ad397.add ((x5_1).toNat * 9)).block, (ad397.add ((x5_1).toNat * 9)).off + 6, none⟩ = some (.int .i64 ((rd_T42 l1 x5_1).f4.f2)) ∧ w'.cell? ⟨(ad397.add ((x5_1).toNat * 9)).block, (ad397.add ((x5_1).toNat * 9)).off + 7, none⟩ = some (.int .i64 ((rd_T42 l1 x5_1).f4.f3)) ∧ w'.cell? ⟨(ad397.add ((x5_1).toNat * 9)).block, (ad397.add ((x5_1).toNat * 9)).off + 8, none⟩ = some (.slice A397_8 ((rd_T42 l1 x5_1).f5).length c397_8)) (ds := []) q17_0 (by kernel_rfl) rfl rfl ⟨((HB.out.cell (World.block_lt_of_cell? w _ hw396_0)).trans hw396_0), ((HB.out.cell (World.block_lt_of_cell? w _ hw396_1)).trans hw396_1), ((HB.out.cell (World.block_lt_of_cell? w _ hw396_2)).trans hw396_2), ((HB.out.cell (World.block_lt_of_cell? w _ hw396_3)).trans hw396_3), ((HB.out.cell (World.block_lt_of_cell? w _ hw396_4)).trans hw396_4), ((HB.out.cell (World.block_lt_of_cell? w _ hw396_5)).trans hw396_5), ((HB.out.cell (World.block_lt_of_cell? w _ hw396_6)).trans hw396_6), ((HB.out.cell (World.block_lt_of_cell? w _ hw396_7)).trans hw396_7), ((HB.out.cell (World.block_lt_of_cell? w _ hw396_8)).trans hw396_8), ((HB.out.cell (World.block_lt_of_cell? w _ hw397_0)).trans hw397_0), ((HB.out.cell (World.block_lt_of_cell? w _ hw397_1)).trans hw397_1), ((HB.out.cell (World.block_lt_of_cell? w _ hw397_2)).trans hw397_2), ((HB.out.cell (World.block_lt_of_cell? w _ hw397_3)).trans hw397_3), ((HB.out.cell (World.block_lt_of_cell? w _ hw397_4)).trans hw397_4), ((HB.out.cell (World.block_lt_of_cell? w _ hw397_5)).trans hw397_5), ((HB.out.cell (World.block_lt_of_cell? w _ hw397_6)).trans hw397_6), ((HB.out.cell (World.block_lt_of_cell? w _ hw397_7)).trans hw397_7), ((HB.out.cell (World.block_lt_of_cell? w _ hw397_8)).trans hw397_8)⟩ (fun hHeld => ?_); refine with_tabW bindleref08_SameTree.tab6 bindleref08_SameTree.bits6 (fun HT_ HW_ => ?_)
    generalize wr.drew = w14 at HB HR396_8 HR397_8 hx396_0 hx396_1 hx396_2 hx396_3 hx396_4 hx396_5 hx396_6 hx396_7 hx396_8 hx397_0 hx397_1 hx397_2 hx397_3 hx397_4 hx397_5 hx397_6 hx397_7 hx397_8 hHeld ⊢
    refine pur_ (i := 0) (N := some 17) q17_1 (any_of HT_.out (by kernel_rfl)) ?_
    refine pur_ (i := 1) (N := some 18) q17_2 (any_of HT_.out (by kernel_rfl)) ?_
    refine pur_ (i := 2) (N := some 19) q17_3 (any_of HT_.out (by kernel_rfl)) ?_
    refine pur_ (i := 3) (N := some 20) q17_4 (any_of HT_.out (by kernel_rfl)) ?_
    refine pur_ (i := 5) (N := some 22) q17_5 (any_of HT_.out (by kernel_rfl)) ?_
    refine pur_ (i := 6) (N := some 23) q17_6 (any_of HT_.out (by kernel_rfl)) ?_
    refine pur_ (i := 7) (N := some 24) q17_7 (any_of HT_.out (by kernel_rfl)) ?_
    refine pur_ (i := 8) (N := some 25) q17_8 (any_of HT_.out (by kernel_rfl)) ?_
    refine take_ (i := 4) (N := some 21) (v := ?_) (a' := ?_) q17_9 rfl rfl (take_ofW HT_.out HW_.out (by kernel_rfl)) (fun _ _ _ h => h) (Or.inl ⟨by rfl, ?_⟩) hHeld ?_ ?_
    rotate_left
    ·rintro w' ⟨s0, s1, s2, s3, s4, s5, s6, s7, s8, s9, s10, s11, s12, s13, s14, s15, s16, s17⟩
     go_simp
     with_reducible rfl
    rotate_left
    ·simp only [Act.put, List.setIfInBounds_toArray, List.set_cons_zero, List.set_cons_succ, i64_w, i32_w]
     rfl
    refine take_ (i := 9) (N := some 26) (v := ?_) (a' := ?_) q17_10 rfl rfl (take_ofW HT_.out HW_.out (by kernel_rfl)) (fun _ _ _ h => h) (Or.inl ⟨by rfl, ?_⟩) hHeld ?_ ?_
    rotate_left
    ·rintro w' ⟨s0, s1, s2, s3, s4, s5, s6, s7, s8, s9, s10, s11, s12, s13, s14, s15, s16, s17⟩
     go_simp
     with_reducible rfl
    rotate_left
    ·simp only [Act.put, List.setIfInBounds_toArray, List.set_cons_zero, List.set_cons_succ, i64_w, i32_w]
     rfl
    refine pur_ (i := 10) (N := some 27) q17_11 (any_of HT_.out (by kernel_rfl)) ?_
    refine pur_ (i := 11) (N := some 28) q17_12 (any_of HT_.out (by kernel_rfl)) ?_
    refine puu_ (i := 12) (N := some 29) q17_13 (any_of HT_.out (by kernel_rfl)) ?_
    refine puu_ (i := 13) (N := some 30) q17_14 (any_of HT_.out (by kernel_rfl)) ?_
    refine puu_ (i := 14) (N := some 31) q17_15 (any_of HT_.out (by kernel_rfl)) ?_
    refine puu_ (i := 15) (N := some 32) q17_16 (any_of HT_.out (by kernel_rfl)) ?_
    refine puu_ (i := 16) (N := some 33) q17_17 (any_of HT_.out (by kernel_rfl)) ?_
    refine puu_ (i := 17) (N := some 34) q17_18 (any_of HT_.out (by kernel_rfl)) ?_
    refine puu_ (i := 18) (N := some 35) q17_19 (any_of HT_.out (by kernel_rfl)) ?_
    refine puu_ (i := 19) (N := some 36) q17_20 (any_of HT_.out (by kernel_rfl)) ?_
    refine puu_ (i := 20) (N := some 37) q17_21 (any_of HT_.out (by kernel_rfl)) ?_
    refine puu_ (i := 21) (N := some 38) q17_22 (any_of HT_.out (by kernel_rfl)) ?_
    refine pur_ (i := 22) (N := some 39) q17_23 (any_of HT_.out (by kernel_rfl)) ?_
    refine done_ (done_of HT_.out (by kernel_rfl)) ?_
    try go_wp2
    go_ret
    exact ⟨we_, wb_ HB.out⟩
   rw [if_pos c7] at H
   have c7b0 : (((rd_T42 l0 x5_1).f2).toList == ((rd_T42 l1 x5_1).f2).toList) = true := beq_iff_eq.mpr c7
   have c7b1 : (((rd_T42 l0 x5_1).f2).toList != ((rd_T42 l1 x5_1).f2).toList) = false := bne_eq_false_iff_eq.mpr c7
   clear c7
   replace H := Option.bind_eq_some_iff.mp H
   obtain ⟨t400, A80, H⟩ := H
   replace H : (if t400 = true then (bindleref08_SameTree.l0 k1 l0 l1 (wrap64 (x5_1 + 1))) else (some false)) = some r := H
   have A8 := A0_ A80
   clear A80
   by_cases c9 : t400 = true
   rotate_left
   ·replace c9 := Bool.eq_false_iff.mpr c9
    subst c9
    have H1 : (some false) = some r := by rw [if_neg (show ¬ (false = true) by decide)] at H; exact H
    clear H
    have H := H1
    clear H1
    obtain rfl := Option.some.inj H
    try go_wp2
    have n0_ := A0_ (b1_ HB.out)
    clear HB
    have HB := n0_
    clear n0_
    have p396 : 0 ≤ (x5_1 : Int) := wd_
    have q396 : x5_1 < (l0.length : Int) := wd_
    obtain ⟨ad396, A396_8, c396_8, e396, hx396_0, hx396_1, hx396_2, hx396_3, hx396_4, hx396_5, hx396_6, hx396_7, hx396_8, hl396_8, hi396_8⟩ := at_T42 HR0.out x5_1 p396 q396
    have hw396_8 := hx396_8
    have hw396_7 := hx396_7
    have hw396_6 := hx396_6
    have hw396_5 := hx396_5
    have hw396_4 := hx396_4
    have hw396_3 := hx396_3
    have hw396_2 := hx396_2
    have hw396_1 := hx396_1
    have hw396_0 := hx396_0
    cases e396
    replace hx396_0 := (HB.out.cell (World.block_lt_of_cell? w _ hx396_0)).trans hx396_0
    replace hx396_1 := (HB.out.cell (World.block_lt_of_cell? w _ hx396_1)).trans hx396_1
    replace hx396_2 := (HB.out.cell (World.block_lt_of_cell? w _ hx396_2)).trans hx396_2
    replace hx396_3 := (HB.out.cell (World.block_lt_of_cell? w _ hx396_3)).trans hx396_3
    replace hx396_4 := (HB.out.cell (World.block_lt_of_cell? w _ hx396_4)).trans hx396_4
    replace hx396_5 := (HB.out.cell (World.block_lt_of_cell? w _ hx396_5)).trans hx396_5
    replace hx396_6 := (HB.out.cell (World.block_lt_of_cell? w _ hx396_6)).trans hx396_6
    replace hx396_7 := (HB.out.cell (World.block_lt_of_cell? w _ hx396_7)).trans hx396_7
    replace hx396_8 := (HB.out.cell (World.block_lt_of_cell? w _ hx396_8)).trans hx396_8
    have HR396_8 := A0_ hi396_8
    have HC396_8 := A0_ hl396_8
    clear hi396_8 hl396_8
    replace p396 := eq_true p396
    replace q396 := eq_true q396
    have p397 : 0 ≤ (x5_1 : Int) := wd_
    have q397 : x5_1 < (l1.length : Int) := wd_
    obtain ⟨ad397, A397_8, c397_8, e397, hx397_0, hx397_1, hx397_2, hx397_3, hx397_4, hx397_5, hx397_6, hx397_7, hx397_8, hl397_8, hi397_8⟩ := at_T42 HR1.out x5_1 p397 q397
    have hw397_8 := hx397_8
    have hw397_7 := hx397_7
    have hw397_6 := hx397_6
    have hw397_5 := hx397_5
    have hw397_4 := hx397_4
    have hw397_3 := hx397_3
    have hw397_2 := hx397_2
    have hw397_1 := hx397_1
    have hw397_0 := hx397_0
    cases e397
    replace hx397_0 := (HB.out.cell (World.block_lt_of_cell? w _ hx397_0)).trans hx397_0
    replace hx397_1 := (HB.out.cell (World.block_lt_of_cell? w _ hx397_1)).trans hx397_1
    replace hx397_2 := (HB.out.cell (World.block_lt_of_cell? w _ hx397_2)).trans hx397_2
    replace hx397_3 := (HB.out.cell (World.block_lt_of_cell? w _ hx397_3)).trans hx397_3
    replace hx397_4 := (HB.out.cell (World.block_lt_of_cell? w _ hx397_4)).trans hx397_4
    replace hx397_5 := (HB.out.cell (World.block_lt_of_cell? w _ hx397_5)).trans hx397_5
    replace hx397_6 := (HB.out.cell (World.block_lt_of_cell? w _ hx397_6)).trans hx397_6
    replace hx397_7 := (HB.out.cell (World.block_lt_of_cell? w _ hx397_7)).trans hx397_7
    replace hx397_8 := (HB.out.cell (World.block_lt_of_cell? w _ hx397_8)).trans hx397_8
    have HR397_8 := A0_ hi397_8
    have HC397_8 := A0_ hl397_8
    clear hi397_8 hl397_8
    replace p397 := eq_true p397
    replace q397 := eq_true q397
    have p398 : 0 ≤ (x5_1 : Int) := wd_
    have q398 : x5_1 < (l0.length : Int) := wd_
    obtain ⟨ad398, A398_8, c398_8, e398, hx398_0, hx398_1, hx398_2, hx398_3, hx398_4, hx398_5, hx398_6, hx398_7, hx398_8, hl398_8, hi398_8⟩ := at_T42 HR0.out x5_1 p398 q398
    have hw398_8 := hx398_8
    have hw398_7 := hx398_7
    have hw398_6 := hx398_6
    have hw398_5 := hx398_5
    have hw398_4 := hx398_4
    have hw398_3 := hx398_3
    have hw398_2 := hx398_2
    have hw398_1 := hx398_1
    have hw398_0 := hx398_0
    obtain rfl : ad396 = ad398 := (by injection e398)
    replace hx398_0 := (HB.out.cell (World.block_lt_of_cell? w _ hx398_0)).trans hx398_0
    replace hx398_1 := (HB.out.cell (World.block_lt_of_cell? w _ hx398_1)).trans hx398_1
    replace hx398_2 := (HB.out.cell (World.block_lt_of_cell? w _ hx398_2)).trans hx398_2
    replace hx398_3 := (HB.out.cell (World.block_lt_of_cell? w _ hx398_3)).trans hx398_3
    replace hx398_4 := (HB.out.cell (World.block_lt_of_cell? w _ hx398_4)).trans hx398_4
    replace hx398_5 := (HB.out.cell (World.block_lt_of_cell? w _ hx398_5)).trans hx398_5
    replace hx398_6 := (HB.out.cell (World.block_lt_of_cell? w _ hx398_6)).trans hx398_6
    replace hx398_7 := (HB.out.cell (World.block_lt_of_cell? w _ hx398_7)).trans hx398_7
    replace hx398_8 := (HB.out.cell (World.block_lt_of_cell? w _ hx398_8)).trans hx398_8
    have HR398_8 := A0_ hi398_8
    have HC398_8 := A0_ hl398_8
    clear hi398_8 hl398_8
    replace p398 := eq_true p398
    replace q398 := eq_true q398
    have ea_ := Option.some.inj (hx396_8.symm.trans hx398_8)
    injection ea_ with ea_ en_ ec_
    subst ea_
    subst ec_
    clear en_
    have p399 : 0 ≤ (x5_1 : Int) := wd_
    have q399 : x5_1 < (l1.length : Int) := wd_
    obtain ⟨ad399, A399_8, c399_8, e399, hx399_0, hx399_1, hx399_2, hx399_3, hx399_4, hx399_5, hx399_6, hx399_7, hx399_8, hl399_8, hi399_8⟩ := at_T42 HR1.out x5_1 p399 q399
    have hw399_8 := hx399_8
    have hw399_7 := hx399_7
    have hw399_6 := hx399_6
    have hw399_5 := hx399_5
    have hw399_4 := hx399_4
    have hw399_3 := hx399_3
    have hw399_2 := hx399_2
    have hw399_1 := hx399_1
    have hw399_0 := hx399_0
    obtain rfl : ad397 = ad399 := (by injection e399)
    replace hx399_0 := (HB.out.cell (World.block_lt_of_cell? w _ hx399_0)).trans hx399_0
    replace hx399_1 := (HB.out.cell (World.block_lt_of_cell? w _ hx399_1)).trans hx399_1
    replace hx399_2 := (HB.out.cell (World.block_lt_of_cell? w _ hx399_2)).trans hx399_2
    replace hx399_3 := (HB.out.cell (World.block_lt_of_cell? w _ hx399_3)).trans hx399_3
    replace hx399_4 := (HB.out.cell (World.block_lt_of_cell? w _ hx399_4)).trans hx399_4
    replace hx399_5 := (HB.out.cell (World.block_lt_of_cell? w _ hx399_5)).trans hx399_5
    replace hx399_6 := (HB.out.cell (World.block_lt_of_cell? w _ hx399_6)).trans hx399_6
    replace hx399_7 := (HB.out.cell (World.block_lt_of_cell? w _ hx399_7)).trans hx399_7
    replace hx399_8 := (HB.out.cell (World.block_lt_of_cell? w _ hx399_8)).trans hx399_8
    have HR399_8 := A0_ hi399_8
    have HC399_8 := A0_ hl399_8
    clear hi399_8 hl399_8
    replace p399 := eq_true p399
    replace q399 := eq_true q399
    have ea_ := Option.some.inj (hx397_8.symm.trans hx399_8)
    injection ea_ with ea_ en_ ec_
    subst ea_
    subst ec_
    clear en_
    refine start_ (n := 23) (S := fun w' => w'.cell? (ad396.add ((x5_1).toNat * 9)) = some (.string ((rd_T42 l0 x5_1).f0)) ∧ w'.cell? ⟨(ad396.add ((x5_1).toNat * 9)).block, (ad396.add ((x5_1).toNat * 9)).off + 1, none⟩ = some (.string ((rd_T42 l0 x5_1).f1)) ∧ w'.cell? ⟨(ad396.add ((x5_1).toNat * 9)).block, (ad396.add ((x5_1).toNat * 9)).off + 2, none⟩ = some (.string ((rd_T42 l0 x5_1).f2)) ∧ w'.cell? ⟨(ad396.add ((x5_1).toNat * 9)).block, (ad396.add ((x5_1).toNat * 9)).off + 3, none⟩ = some (.int .u8 ((rd_T42 l0 x5_1).f3)) ∧ w'.cell? ⟨(ad396.add ((x5_1).toNat * 9)).block, (ad396.add ((x5_1).toNat * 9)).off + 4, none⟩ = some (.int .i64 ((rd_T42 l0 x5_1).f4.f0)) ∧ w'.cell? ⟨(ad396.add ((x5_1).toNat * 9)).block, (ad396.add ((x5_1).toNat * 9)).off + 5, none⟩ = some (.int .i64 ((rd_T42 l0 x5_1).f4.f1)) ∧ w'.cell? ⟨(ad396.add ((x5_1).toNat * 9)).block, (ad396.add ((x5_1).toNat * 9)).off + 6, none⟩ = some (.int .i64 ((rd_T42 l0 x5_1).f4.f2)) ∧ w'.cell? ⟨(ad396.add ((x5_1).toNat * 9)).block, (ad396.add ((x5_1).toNat * 9)).off + 7, none⟩ = some (.int .i64 ((rd_T42 l0 x5_1).f4.f3)) ∧ w'.cell? ⟨(ad396.add ((x5_1).toNat * 9)).block, (ad396.add ((x5_1).toNat * 9)).off + 8, none⟩ = some (.slice A396_8 ((rd_T42 l0 x5_1).f5).length c396_8) ∧ w'.cell? (ad397.add ((x5_1).toNat * 9)) = some (.string ((rd_T42 l1 x5_1).f0)) ∧ w'.cell? ⟨(ad397.add ((x5_1).toNat * 9)).block, (ad397.add ((x5_1).toNat * 9)).off + 1, none⟩ = some (.string ((rd_T42 l1 x5_1).f1)) ∧ w'.cell? ⟨(ad397.add ((x5_1).toNat * 9)).block, (ad397.add ((x5_1).toNat * 9)).off + 2, none⟩ = some (.string ((rd_T42 l1 x5_1).f2)) ∧ w'.cell? ⟨(ad397.add ((x5_1).toNat * 9)).block, (ad397.add ((x5_1).toNat * 9)).off + 3, none⟩ = some (.int .u8 ((rd_T42 l1 x5_1).f3)) ∧ w'.cell? ⟨(ad397.add ((x5_1).toNat * 9)).block, (ad397.add ((x5_1).toNat * 9)).off + 4, none⟩ = some (.int .i64 ((rd_T42 l1 x5_1).f4.f0)) ∧ w'.cell? ⟨(ad397.add ((x5_1).toNat * 9)).block, (ad397.add ((x5_1).toNat * 9)).off + 5, none⟩ = some (.int .i64 ((rd_T42 l1 x5_1).f4.f1)) ∧ w'.cell? ⟨(ad397.add ((x5_1).toNat * 9)).block, (ad397.add ((x5_1).toNat * 9)).off + 6, none⟩ = some (.int .i64 ((rd_T42 l1 x5_1).f4.f2)) ∧ w'.cell? ⟨(ad397.add ((x5_1).toNat * 9)).block, (ad397.add ((x5_1).toNat * 9)).off + 7, none⟩ = some (.int .i64 ((rd_T42 l1 x5_1).f4.f3)) ∧ w'.cell? ⟨(ad397.add ((x5_1).toNat * 9)).block, (ad397.add ((x5_1).toNat * 9)).off + 8, none⟩ = some (.slice A397_8 ((rd_T42 l1 x5_1).f5).length c397_8) ∧ w'.cell? (ad396.add ((x5_1).toNat * 9)) = some (.string ((rd_T42 l0 x5_1).f0)) ∧ w'.cell? ⟨(ad396.add ((x5_1).toNat * 9)).block, (ad396.add ((x5_1).toNat * 9)).off + 1, none⟩ = some (.string ((rd_T42 l0 x5_1).f1)) ∧ w'.cell? ⟨(ad396.add ((x5_1).toNat * 9)).block, (ad396.add ((x5_1).toNat * 9)).off + 2, none⟩ = some (.string ((rd_T42 l0 x5_1).f2)) ∧ w'.cell? ⟨(ad396.add ((x5_1).toNat * 9)).block, (ad396.add ((x5_1).toNat * 9)).off + 3, none⟩ = some (.int .u8 ((rd_T42 l0 x5_1).f3)) ∧ w'.cell? ⟨(ad396.add ((x5_1).toNat * 9)).block, (ad396.add ((x5_1).toNat * 9)).off + 4, none⟩ = some (.int .i64 ((rd_T42 l0 x5_1).f4.f0)) ∧ w'.cell? ⟨(ad396.add ((x5_1).toNat * 9)).block, (ad396.add ((x5_1).toNat * 9)).off + 5, none⟩ = some (.int .i64 ((rd_T42 l0 x5_1).f4.f1)) ∧ w'.cell? ⟨(ad396.add ((x5_1).toNat * 9)).block, (ad396.add ((x5_1).toNat * 9)).off + 6, none⟩ = some (.int .i64 ((rd_T42 l0 x5_1).f4.f2)) ∧ w'.cell? ⟨(ad396.add ((x5_1).toNat * 9)).block, (ad396.add ((x5_1).toNat * 9)).off + 7, none⟩ = some (.int .i64 ((rd_T42 l0 x5_1).f4.f3)) ∧ w'.cell? ⟨(ad396.add ((x5_1).toNat * 9)).block, (ad396.add ((x5_1).toNat * 9)).off + 8, none⟩ = some (.slice A396_8 ((rd_T42 l0 x5_1).f5).length c396_8) ∧ w'.cell? (ad397.add ((x5_1).toNat * 9)) = some (.string ((rd_T42 l1 x5_1).f0)) ∧ w'.cell? ⟨(ad397.add ((x5_1).toNat * 9)).block, (ad397.add ((x5_1).toNat * 9)).off + 1, none⟩ = some (.string ((rd_T42 l1 x5_1).f1)) ∧ w'.cell? ⟨(ad397.add ((x5_1).toNat * 9)).block, (ad397.add ((x5_1).toNat * 9)).off + 2, none⟩ = some (.string ((rd_T42 l1 x5_1).f2)) ∧ w'.cell? ⟨(ad397.add ((x5_1).toNat * 9)).block, (ad397.add ((x5_1).toNat * 9)).off + 3, none⟩ = some (.int .u8 ((rd_T42 l1 x5_1).f3)) ∧ w'.cell? ⟨(ad397.add ((x5_1).toNat * 9)).block, (ad397.add ((x5_1).toNat * 9)).off + 4, none⟩ = some (.int .i64 ((rd_T42 l1 x5_1).f4.f0)) ∧ w'.cell? ⟨(ad397.add ((x5_1).toNat * 9)).block, (ad397.add ((x5_1).toNat * 9)).off + 5, none⟩ = some (.int .i64 ((rd_T42 l1 x5_1).f4.f1)) ∧ w'.cell? ⟨(ad397.add ((x5_1).toNat * 9)).block, (ad397.add ((x5_1).toNat * 9)).off + 6, none⟩ = some (.int .i64 ((rd_T42 l1 x5_1).f4.f2)) ∧ w'.cell? ⟨(ad397.add ((x5_1).toNat * 9)).block, (ad397.add ((x5_1).toNat * 9)).off + 7, none⟩ = some (.int .i64 ((rd_T42 l1 x5_1).f4.f3)) ∧ w'.cell? ⟨(ad397.add ((x5_1).toNat * 9)).block, (ad397.add ((x5_1).toNat * 9)).off + 8, none⟩ = some (.slice A397_8 ((rd_T42 l1 x5_1).f5).length c397_8)) (ds := []) q17_0 (by kernel_rfl) rfl rfl ⟨((HB.out.cell (World.block_lt_of_cell? w _ hw396_0)).trans hw396_0), ((HB.out.cell (World.block_lt_of_cell? w _ hw396_1)).trans hw396_1), ((HB.out.cell (World.block_lt_of_cell? w _ hw396_2)).trans hw396_2), ((HB.out.cell (World.block_lt_of_cell? w _ hw396_3)).trans hw396_3), ((HB.out.cell (World.block_lt_of_cell? w _ hw396_4)).trans hw396_4), ((HB.out.cell (World.block_lt_of_cell? w _ hw396_5)).trans hw396_5), ((HB.out.cell (World.block_lt_of_cell? w _ hw396_6)).trans hw396_6), ((HB.out.cell (World.block_lt_of_cell? w _ hw396_7)).trans hw396_7), ((HB.out.cell (World.block_lt_of_cell? w _ hw396_8)).trans hw396_8), ((HB.out.cell (World.block_lt_of_cell? w _ hw397_0)).trans hw397_0), ((HB.out.cell (World.block_lt_of_cell? w _ hw397_1)).trans hw397_1), ((HB.out.cell (World.block_lt_of_cell? w _ hw397_2)).trans hw397_2), ((HB.out.cell (World.block_lt_of_cell? w _ hw397_3)).trans hw397_3), ((HB.out.cell (World.block_lt_of_cell? w _ hw397_4)).trans hw397_4), ((HB.out.cell (World.block_lt_of_cell? w _ hw397_5)).trans hw397_5), ((HB.out.cell (World.block_lt_of_cell? w _ hw397_6)).trans hw397_6), ((HB.out.cell (World.block_lt_of_cell? w _ hw397_7)).trans hw397_7), ((HB.out.cell (World.block_lt_of_cell? w _ hw397_8)).trans hw397_8), ((HB.out.cell (World.block_lt_of_cell? w _ hw398_0)).trans hw398_0), ((HB.out.cell (World.block_lt_of_cell? w _ hw398_1)).trans hw398_1), ((HB.out.cell (World.block_lt_of_cell? w _ hw398_2)).trans hw398_2), ((HB.out.cell (World.block_lt_of_cell? w _ hw398_3)).trans hw398_3), ((HB.out.cell (World.block_lt_of_cell? w _ hw398_4)).trans hw398_4), ((HB.out.cell (World.block_lt_of_cell? w _ hw398_5)).trans hw398_5), ((HB.out.cell (World.block_lt_of_cell? w _ hw398_6)).trans hw398_6), ((HB.out.cell (World.block_lt_of_cell? w _ hw398_7)).trans hw398_7), ((HB.out.cell (World.block_lt_of_cell? w _ hw398_8)).trans hw398_8), ((HB.out.cell (World.block_lt_of_cell? w _ hw399_0)).trans hw399_0), ((HB.out.cell (World.block_lt_of_cell? w _ hw399_1)).trans hw399_1), ((HB.out.cell (World.block_lt_of_cell? w _ hw399_2)).trans hw399_2), ((HB.out.cell (World.block_lt_of_cell? w _ hw399_3)).trans hw399_3), ((HB.out.cell (World.block_lt_of_cell? w _ hw399_4)).trans hw399_4), ((HB.out.cell (World.block_lt_of_cell? w _ hw399_5)).trans hw399_5), ((HB.out.cell (World.block_lt_of_cell? w _ hw399_6)).trans hw399_6), ((HB.out.cell (World.block_lt_of_cell? w _ hw399_7)).trans hw399_7), ((HB.out.cell (World.block_lt_of_cell? w _ hw399_8)).trans hw399_8)⟩ (fun hHeld => ?_); refine with_tabW bindleref08_SameTree.tab6 bindleref08_SameTree.bits6 (fun HT_ HW_ => ?_)
    generalize wr.drew = w12 at HB HR396_8 HR397_8 HR398_8 HR399_8 hx396_0 hx396_1 hx396_2 hx396_3 hx396_4 hx396_5 hx396_6 hx396_7 hx396_8 hx397_0 hx397_1 hx397_2 hx397_3 hx397_4 hx397_5 hx397_6 hx397_7 hx397_8 hx398_0 hx398_1 hx398_2 hx398_3 hx398_4 hx398_5 hx398_6 hx398_7 hx398_8 hx399_0 hx399_1 hx399_2 hx399_3 hx399_4 hx399_5 hx399_6 hx399_7 hx399_8 hHeld ⊢
    refine pur_ (i := 0) (N := some 17) q17_1 (any_of HT_.out (by kernel_rfl)) ?_
    refine pur_ (i := 1) (N := some 18) q17_2 (any_of HT_.out (by kernel_rfl)) ?_
    refine pur_ (i := 2) (N := some 19) q17_3 (any_of HT_.out (by kernel_rfl)) ?_
    refine pur_ (i := 3) (N := some 20) q17_4 (any_of HT_.out (by kernel_rfl)) ?_
    refine pur_ (i := 5) (N := some 22) q17_5 (any_of HT_.out (by kernel_rfl)) ?_
    refine pur_ (i := 6) (N := some 23) q17_6 (any_of HT_.out (by kernel_rfl)) ?_
    refine pur_ (i := 7) (N := some 24) q17_7 (any_of HT_.out (by kernel_rfl)) ?_
    refine pur_ (i := 8) (N := some 25) q17_8 (any_of HT_.out (by kernel_rfl)) ?_
    refine take_ (i := 4) (N := some 21) (v := ?_) (a' := ?_) q17_9 rfl rfl (take_ofW HT_.out HW_.out (by kernel_rfl)) (fun _ _ _ h => h) (Or.inl ⟨by rfl, ?_⟩) hHeld ?_ ?_
    rotate_left
    ·rintro w' ⟨s0, s1, s2, s3, s4, s5, s6, s7, s8, s9, s10, s11, s12, s13, s14, s15, s16, s17, s18, s19, s20, s21, s22, s23, s24, s25, s26, s27, s28, s29, s30, s31, s32, s33, s34, s35⟩
     go_simp
     with_reducible rfl
    rotate_left
    ·simp only [Act.put, List.setIfInBounds_toArray, List.set_cons_zero, List.set_cons_succ, i64_w, i32_w]
     rfl
    refine take_ (i := 9) (N := some 26) (v := ?_) (a' := ?_) q17_10 rfl rfl (take_ofW HT_.out HW_.out (by kernel_rfl)) (fun _ _ _ h => h) (Or.inl ⟨by rfl, ?_⟩) hHeld ?_ ?_
    rotate_left
    ·rintro w' ⟨s0, s1, s2, s3, s4, s5, s6, s7, s8, s9, s10, s11, s12, s13, s14, s15, s16, s17, s18, s19, s20, s21, s22, s23, s24, s25, s26, s27, s28, s29, s30, s31, s32, s33, s34, s35⟩
     go_simp
     with_reducible rfl
    rotate_left
    ·simp only [Act.put, List.setIfInBounds_toArray, List.set_cons_zero, List.set_cons_succ, i64_w, i32_w]
     rfl
    refine pur_ (i := 10) (N := some 27) q17_11 (any_of HT_.out (by kernel_rfl)) ?_
    refine pur_ (i := 11) (N := some 28) q17_12 (any_of HT_.out (by kernel_rfl)) ?_
    refine pur_ (i := 12) (N := some 29) q17_13 (any_of HT_.out (by kernel_rfl)) ?_
    refine pur_ (i := 13) (N := some 30) q17_14 (any_of HT_.out (by kernel_rfl)) ?_
    refine pur_ (i := 14) (N := some 31) q17_15 (any_of HT_.out (by kernel_rfl)) ?_
    refine pur_ (i := 16) (N := some 33) q17_24 (any_of HT_.out (by kernel_rfl)) ?_
    refine pur_ (i := 17) (N := some 34) q17_25 (any_of HT_.out (by kernel_rfl)) ?_
    refine pur_ (i := 18) (N := some 35) q17_26 (any_of HT_.out (by kernel_rfl)) ?_
    refine take_ (i := 15) (N := some 32) (v := ?_) (a' := ?_) q17_19 rfl rfl (take_ofW HT_.out HW_.out (by kernel_rfl)) (fun _ _ _ h => h) (Or.inl ⟨by rfl, ?_⟩) hHeld ?_ ?_
    rotate_left
    ·rintro w' ⟨s0, s1, s2, s3, s4, s5, s6, s7, s8, s9, s10, s11, s12, s13, s14, s15, s16, s17, s18, s19, s20, s21, s22, s23, s24, s25, s26, s27, s28, s29, s30, s31, s32, s33, s34, s35⟩
     go_simp
     with_reducible rfl
    rotate_left
    ·simp only [Act.put, List.setIfInBounds_toArray, List.set_cons_zero, List.set_cons_succ, i64_w, i32_w]
     rfl
    refine take_ (i := 19) (N := some 36) (v := ?_) (a' := ?_) q17_20 rfl rfl (take_ofW HT_.out HW_.out (by kernel_rfl)) (fun _ _ _ h => h) (Or.inl ⟨by rfl, ?_⟩) hHeld ?_ ?_
    rotate_left
    ·rintro w' ⟨s0, s1, s2, s3, s4, s5, s6, s7, s8, s9, s10, s11, s12, s13, s14, s15, s16, s17, s18, s19, s20, s21, s22, s23, s24, s25, s26, s27, s28, s29, s30, s31, s32, s33, s34, s35⟩
     go_simp
     with_reducible rfl
    rotate_left
    ·simp only [Act.put, List.setIfInBounds_toArray, List.set_cons_zero, List.set_cons_succ, i64_w, i32_w]
     rfl
    refine one_ (i := 20) (N := some 37) q17_21 rfl rfl (one_of HT_.out (by kernel_rfl)) (by decide) (fun K hK => ?_)
    refine goes_ Tryz.func19 (by kernel_rfl) rfl #[.agg #[.string ((rd_T42 l0 x5_1).f0), .string ((rd_T42 l0 x5_1).f1), .string ((rd_T42 l0 x5_1).f2), .int .u8 ((rd_T42 l0 x5_1).f3), .int .i64 ((rd_T42 l0 x5_1).f4.f0), .int .i64 ((rd_T42 l0 x5_1).f4.f1), .int .i64 ((rd_T42 l0 x5_1).f4.f2), .int .i64 ((rd_T42 l0 x5_1).f4.f3), .slice A396_8 ((rd_T42 l0 x5_1).f5).length c396_8], .agg #[.string ((rd_T42 l1 x5_1).f0), .string ((rd_T42 l1 x5_1).f1), .string ((rd_T42 l1 x5_1).f2), .int .u8 ((rd_T42 l1 x5_1).f3), .int .i64 ((rd_T42 l1 x5_1).f4.f0), .int .i64 ((rd_T42 l1 x5_1).f4.f1), .int .i64 ((rd_T42 l1 x5_1).f4.f2), .int .i64 ((rd_T42 l1 x5_1).f4.f3), .slice A397_8 ((rd_T42 l1 x5_1).f5).length c397_8]] (by rfl) rfl rfl wm_ ?_
    with_reducible refine (bindleref08_Equal.calls ((rd_T42 l0 x5_1).f0) ((rd_T42 l0 x5_1).f1) ((rd_T42 l0 x5_1).f2) ((rd_T42 l0 x5_1).f3) ((rd_T42 l0 x5_1).f4.f0) ((rd_T42 l0 x5_1).f4.f1) ((rd_T42 l0 x5_1).f4.f2) ((rd_T42 l0 x5_1).f4.f3) _ _ ((rd_T42 l0 x5_1).f5) ((rd_T42 l1 x5_1).f0) ((rd_T42 l1 x5_1).f1) ((rd_T42 l1 x5_1).f2) ((rd_T42 l1 x5_1).f3) ((rd_T42 l1 x5_1).f4.f0) ((rd_T42 l1 x5_1).f4.f1) ((rd_T42 l1 x5_1).f4.f2) ((rd_T42 l1 x5_1).f4.f3) _ _ ((rd_T42 l1 x5_1).f5) false _ ?side1 ?side2 ?side3 ?side4 A8.out).mono ?_
    (case side1 => exact wc_ (Kd.C_below HR398_8.out HB.out))
    (case side2 => exact HC398_8.out)
    (case side3 => exact wc_ (Kd.C_below HR399_8.out HB.out))
    (case side4 => exact HC399_8.out)
    rintro e w13 ⟨rfl, hb⟩
    refine ⟨_, rfl, ?_⟩
    have n0_ := A0_ (below_step (wb_ HB.out) hb)
    clear HB
    have HB := n0_
    clear n0_
    (try clear hb)
    (try clear hb2)
    (try clear hk)
    (try clear hi)
    refine hK.out _ _ ⟨((HB.out.cell (World.block_lt_of_cell? w _ hw396_0)).trans hw396_0), ((HB.out.cell (World.block_lt_of_cell? w _ hw396_1)).trans hw396_1), ((HB.out.cell (World.block_lt_of_cell? w _ hw396_2)).trans hw396_2), ((HB.out.cell (World.block_lt_of_cell? w _ hw396_3)).trans hw396_3), ((HB.out.cell (World.block_lt_of_cell? w _ hw396_4)).trans hw396_4), ((HB.out.cell (World.block_lt_of_cell? w _ hw396_5)).trans hw396_5), ((HB.out.cell (World.block_lt_of_cell? w _ hw396_6)).trans hw396_6), ((HB.out.cell (World.block_lt_of_cell? w _ hw396_7)).trans hw396_7), ((HB.out.cell (World.block_lt_of_cell? w _ hw396_8)).trans hw396_8), ((HB.out.cell (World.block_lt_of_cell? w _ hw397_0)).trans hw397_0), ((HB.out.cell (World.block_lt_of_cell? w _ hw397_1)).trans hw397_1), ((HB.out.cell (World.block_lt_of_cell? w _ hw397_2)).trans hw397_2), ((HB.out.cell (World.block_lt_of_cell? w _ hw397_3)).trans hw397_3), ((HB.out.cell (World.block_lt_of_cell? w _ hw397_4)).trans hw397_4), ((HB.out.cell (World.block_lt_of_cell? w _ hw397_5)).trans hw397_5), ((HB.out.cell (World.block_lt_of_cell? w _ hw397_6)).trans hw397_6), ((HB.out.cell (World.block_lt_of_cell? w _ hw397_7)).trans hw397_7), ((HB.out.cell (World.block_lt_of_cell? w _ hw397_8)).trans hw397_8), ((HB.out.cell (World.block_lt_of_cell? w _ hw398_0)).trans hw398_0), ((HB.out.cell (World.block_lt_of_cell? w _ hw398_1)).trans hw398_1), ((HB.out.cell (World.block_lt_of_cell? w _ hw398_2)).trans hw398_2), ((HB.out.cell (World.block_lt_of_cell? w _ hw398_3)).trans hw398_3), ((HB.out.cell (World.block_lt_of_cell? w _ hw398_4)).trans hw398_4), ((HB.out.cell (World.block_lt_of_cell? w _ hw398_5)).trans hw398_5), ((HB.out.cell (World.block_lt_of_cell? w _ hw398_6)).trans hw398_6), ((HB.out.cell (World.block_lt_of_cell? w _ hw398_7)).trans hw398_7), ((HB.out.cell (World.block_lt_of_cell? w _ hw398_8)).trans hw398_8), ((HB.out.cell (World.block_lt_of_cell? w _ hw399_0)).trans hw399_0), ((HB.out.cell (World.block_lt_of_cell? w _ hw399_1)).trans hw399_1), ((HB.out.cell (World.block_lt_of_cell? w _ hw399_2)).trans hw399_2), ((HB.out.cell (World.block_lt_of_cell? w _ hw399_3)).trans hw399_3), ((HB.out.cell (World.block_lt_of_cell? w _ hw399_4)).trans hw399_4), ((HB.out.cell (World.block_lt_of_cell? w _ hw399_5)).trans hw399_5), ((HB.out.cell (World.block_lt_of_cell? w _ hw399_6)).trans hw399_6), ((HB.out.cell (World.block_lt_of_cell? w _ hw399_7)).trans hw399_7), ((HB.out.cell (World.block_lt_of_cell? w _ hw399_8)).trans hw399_8)⟩ (fun hHeld => ?_)
    clear hK K
    refine norm_ (a' := ?_) ?_ ?_
    rotate_left
    ·show Act.put _ (some 37) _ = _
     simp only [Act.put, List.setIfInBounds_toArray, List.set_cons_zero, List.set_cons_succ, i64_w, i32_w]
     rfl
    refine pur_ (i := 21) (N := some 38) q17_22 (any_of HT_.out (by kernel_rfl)) ?_
    refine pur_ (i := 22) (N := some 39) q17_23 (any_of HT_.out (by kernel_rfl)) ?_
    refine done_ (done_of HT_.out (by kernel_rfl)) ?_
    try go_wp2
    go_ret
    exact ⟨we_, wb_ HB.out⟩
   subst c9
   have H1 : (bindleref08_SameTree.l0 k1 l0 l1 (wrap64 (x5_1 + 1))) = some r := by rw [if_pos rfl] at H; exact H
   clear H
   have H := H1
   clear H1
   have H' := A0_ H
   clear H
   try go_wp2
   have n0_ := A0_ (b1_ HB.out)
   clear HB
   have HB := n0_
   clear n0_
   have p396 : 0 ≤ (x5_1 : Int) := wd_
   have q396 : x5_1 < (l0.length : Int) := wd_
   obtain ⟨ad396, A396_8, c396_8, e396, hx396_0, hx396_1, hx396_2, hx396_3, hx396_4, hx396_5, hx396_6, hx396_7, hx396_8, hl396_8, hi396_8⟩ := at_T42 HR0.out x5_1 p396 q396
   have hw396_8 := hx396_8
   have hw396_7 := hx396_7
   have hw396_6 := hx396_6
   have hw396_5 := hx396_5
   have hw396_4 := hx396_4
   have hw396_3 := hx396_3
   have hw396_2 := hx396_2
   have hw396_1 := hx396_1
   have hw396_0 := hx396_0
   cases e396
   replace hx396_0 := (HB.out.cell (World.block_lt_of_cell? w _ hx396_0)).trans hx396_0
   replace hx396_1 := (HB.out.cell (World.block_lt_of_cell? w _ hx396_1)).trans hx396_1
   replace hx396_2 := (HB.out.cell (World.block_lt_of_cell? w _ hx396_2)).trans hx396_2
   replace hx396_3 := (HB.out.cell (World.block_lt_of_cell? w _ hx396_3)).trans hx396_3
   replace hx396_4 := (HB.out.cell (World.block_lt_of_cell? w _ hx396_4)).trans hx396_4
   replace hx396_5 := (HB.out.cell (World.block_lt_of_cell? w _ hx396_5)).trans hx396_5
   replace hx396_6 := (HB.out.cell (World.block_lt_of_cell? w _ hx396_6)).trans hx396_6
   replace hx396_7 := (HB.out.cell (World.block_lt_of_cell? w _ hx396_7)).trans hx396_7
   replace hx396_8 := (HB.out.cell (World.block_lt_of_cell? w _ hx396_8)).trans hx396_8
   have HR396_8 := A0_ hi396_8
   have HC396_8 := A0_ hl396_8
   clear hi396_8 hl396_8
   replace p396 := eq_true p396
   replace q396 := eq_true q396
   have p397 : 0 ≤ (x5_1 : Int) := wd_
   have q397 : x5_1 < (l1.length : Int) := wd_
   obtain ⟨ad397, A397_8, c397_8, e397, hx397_0, hx397_1, hx397_2, hx397_3, hx397_4, hx397_5, hx397_6, hx397_7, hx397_8, hl397_8, hi397_8⟩ := at_T42 HR1.out x5_1 p397 q397
   have hw397_8 := hx397_8
   have hw397_7 := hx397_7
   have hw397_6 := hx397_6
   have hw397_5 := hx397_5
   have hw397_4 := hx397_4
   have hw397_3 := hx397_3
   have hw397_2 := hx397_2
   have hw397_1 := hx397_1
   have hw397_0 := hx397_0
   cases e397
   replace hx397_0 := (HB.out.cell (World.block_lt_of_cell? w _ hx397_0)).trans hx397_0
   replace hx397_1 := (HB.out.cell (World.block_lt_of_cell? w _ hx397_1)).trans hx397_1
   replace hx397_2 := (HB.out.cell (World.block_lt_of_cell? w _ hx397_2)).trans hx397_2
   replace hx397_3 := (HB.out.cell (World.block_lt_of_cell? w _ hx397_3)).trans hx397_3
   replace hx397_4 := (HB.out.cell (World.block_lt_of_cell? w _ hx397_4)).trans hx397_4
   replace hx397_5 := (HB.out.cell (World.block_lt_of_cell? w _ hx397_5)).trans hx397_5
   replace hx397_6 := (HB.out.cell (World.block_lt_of_cell? w _ hx397_6)).trans hx397_6
   replace hx397_7 := (HB.out.cell (World.block_lt_of_cell? w _ hx397_7)).trans hx397_7
   replace hx397_8 := (HB.out.cell (World.block_lt_of_cell? w _ hx397_8)).trans hx397_8
   have HR397_8 := A0_ hi397_8
   have HC397_8 := A0_ hl397_8
   clear hi397_8 hl397_8
   replace p397 := eq_true p397
   replace q397 := eq_true q397
   have p398 : 0 ≤ (x5_1 : Int) := wd_
   have q398 : x5_1 < (l0.length : Int) := wd_
   obtain ⟨ad398, A398_8, c398_8, e398, hx398_0, hx398_1, hx398_2, hx398_3, hx398_4, hx398_5, hx398_6, hx398_7, hx398_8, hl398_8, hi398_8⟩ := at_T42 HR0.out x5_1 p398 q398
   have hw398_8 := hx398_8
   have hw398_7 := hx398_7
   have hw398_6 := hx398_6
   have hw398_5 := hx398_5
   have hw398_4 := hx398_4
   have hw398_3 := hx398_3
   have hw398_2 := hx398_2
   have hw398_1 := hx398_1
   have hw398_0 := hx398_0
   obtain rfl : ad396 = ad398 := (by injection e398)
   replace hx398_0 := (HB.out.cell (World.block_lt_of_cell? w _ hx398_0)).trans hx398_0
   replace hx398_1 := (HB.out.cell (World.block_lt_of_cell? w _ hx398_1)).trans hx398_1
   replace hx398_2 := (HB.out.cell (World.block_lt_of_cell? w _ hx398_2)).trans hx398_2
   replace hx398_3 := (HB.out.cell (World.block_lt_of_cell? w _ hx398_3)).trans hx398_3
   replace hx398_4 := (HB.out.cell (World.block_lt_of_cell? w _ hx398_4)).trans hx398_4
   replace hx398_5 := (HB.out.cell (World.block_lt_of_cell? w _ hx398_5)).trans hx398_5
   replace hx398_6 := (HB.out.cell (World.block_lt_of_cell? w _ hx398_6)).trans hx398_6
   replace hx398_7 := (HB.out.cell (World.block_lt_of_cell? w _ hx398_7)).trans hx398_7
   replace hx398_8 := (HB.out.cell (World.block_lt_of_cell? w _ hx398_8)).trans hx398_8
   have HR398_8 := A0_ hi398_8
   have HC398_8 := A0_ hl398_8
   clear hi398_8 hl398_8
   replace p398 := eq_true p398
   replace q398 := eq_true q398
   have ea_ := Option.some.inj (hx396_8.symm.trans hx398_8)
   injection ea_ with ea_ en_ ec_
   subst ea_
   subst ec_
   clear en_
   have p399 : 0 ≤ (x5_1 : Int) := wd_
   have q399 : x5_1 < (l1.length : Int) := wd_
   obtain ⟨ad399, A399_8, c399_8, e399, hx399_0, hx399_1, hx399_2, hx399_3, hx399_4, hx399_5, hx399_6, hx399_7, hx399_8, hl399_8, hi399_8⟩ := at_T42 HR1.out x5_1 p399 q399
   have hw399_8 := hx399_8
   have hw399_7 := hx399_7
   have hw399_6 := hx399_6
   have hw399_5 := hx399_5
   have hw399_4 := hx399_4
   have hw399_3 := hx399_3
   have hw399_2 := hx399_2
   have hw399_1 := hx399_1
   have hw399_0 := hx399_0
   obtain rfl : ad397 = ad399 := (by injection e399)
   replace hx399_0 := (HB.out.cell (World.block_lt_of_cell? w _ hx399_0)).trans hx399_0
   replace hx399_1 := (HB.out.cell (World.block_lt_of_cell? w _ hx399_1)).trans hx399_1
   replace hx399_2 := (HB.out.cell (World.block_lt_of_cell? w _ hx399_2)).trans hx399_2
   replace hx399_3 := (HB.out.cell (World.block_lt_of_cell? w _ hx399_3)).trans hx399_3
   replace hx399_4 := (HB.out.cell (World.block_lt_of_cell? w _ hx399_4)).trans hx399_4
   replace hx399_5 := (HB.out.cell (World.block_lt_of_cell? w _ hx399_5)).trans hx399_5
   replace hx399_6 := (HB.out.cell (World.block_lt_of_cell? w _ hx399_6)).trans hx399_6
   replace hx399_7 := (HB.out.cell (World.block_lt_of_cell? w _ hx399_7)).trans hx399_7
   replace hx399_8 := (HB.out.cell (World.block_lt_of_cell? w _ hx399_8)).trans hx399_8
   have HR399_8 := A0_ hi399_8
   have HC399_8 := A0_ hl399_8
   clear hi399_8 hl399_8
   replace p399 := eq_true p399
   replace q399 := eq_true q399
   have ea_ := Option.some.inj (hx397_8.symm.trans hx399_8)
   injection ea_ with ea_ en_ ec_
   subst ea_
   subst ec_
   clear en_
   refine start_ (n := 23) (S := fun w' => w'.cell? (ad396.add ((x5_1).toNat * 9)) = some (.string ((rd_T42 l0 x5_1).f0)) ∧ w'.cell? ⟨(ad396.add ((x5_1).toNat * 9)).block, (ad396.add ((x5_1).toNat * 9)).off + 1, none⟩ = some (.string ((rd_T42 l0 x5_1).f1)) ∧ w'.cell? ⟨(ad396.add ((x5_1).toNat * 9)).block, (ad396.add ((x5_1).toNat * 9)).off + 2, none⟩ = some (.string ((rd_T42 l0 x5_1).f2)) ∧ w'.cell? ⟨(ad396.add ((x5_1).toNat * 9)).block, (ad396.add ((x5_1).toNat * 9)).off + 3, none⟩ = some (.int .u8 ((rd_T42 l0 x5_1).f3)) ∧ w'.cell? ⟨(ad396.add ((x5_1).toNat * 9)).block, (ad396.add ((x5_1).toNat * 9)).off + 4, none⟩ = some (.int .i64 ((rd_T42 l0 x5_1).f4.f0)) ∧ w'.cell? ⟨(ad396.add ((x5_1).toNat * 9)).block, (ad396.add ((x5_1).toNat * 9)).off + 5, none⟩ = some (.int .i64 ((rd_T42 l0 x5_1).f4.f1)) ∧ w'.cell? ⟨(ad396.add ((x5_1).toNat * 9)).block, (ad396.add ((x5_1).toNat * 9)).off + 6, none⟩ = some (.int .i64 ((rd_T42 l0 x5_1).f4.f2)) ∧ w'.cell? ⟨(ad396.add ((x5_1).toNat * 9)).block, (ad396.add ((x5_1).toNat * 9)).off + 7, none⟩ = some (.int .i64 ((rd_T42 l0 x5_1).f4.f3)) ∧ w'.cell? ⟨(ad396.add ((x5_1).toNat * 9)).block, (ad396.add ((x5_1).toNat * 9)).off + 8, none⟩ = some (.slice A396_8 ((rd_T42 l0 x5_1).f5).length c396_8) ∧ w'.cell? (ad397.add ((x5_1).toNat * 9)) = some (.string ((rd_T42 l1 x5_1).f0)) ∧ w'.cell? ⟨(ad397.add ((x5_1).toNat * 9)).block, (ad397.add ((x5_1).toNat * 9)).off + 1, none⟩ = some (.string ((rd_T42 l1 x5_1).f1)) ∧ w'.cell? ⟨(ad397.add ((x5_1).toNat * 9)).block, (ad397.add ((x5_1).toNat * 9)).off + 2, none⟩ = some (.string ((rd_T42 l1 x5_1).f2)) ∧ w'.cell? ⟨(ad397.add ((x5_1).toNat * 9)).block, (ad397.add ((x5_1).toNat * 9)).off + 3, none⟩ = some (.int .u8 ((rd_T42 l1 x5_1).f3)) ∧ w'.cell? ⟨(ad397.add ((x5_1).toNat * 9)).block, (ad397.add ((x5_1).toNat * 9)).off + 4, none⟩ = some (.int .i64 ((rd_T42 l1 x5_1).f4.f0)) ∧ w'.cell? ⟨(ad397.add ((x5_1).toNat * 9)).block, (ad397.add ((x5_1).toNat * 9)).off + 5, none⟩ = some (.int .i64 ((rd_T42 l1 x5_1).f4.f1)) ∧ w'.cell? ⟨(ad397.add ((x5_1).toNat * 9)).block, (ad397.add ((x5_1).toNat * 9)).off + 6, none⟩ = some (.int .i64 ((rd_T42 l1 x5_1).f4.f2)) ∧ w'.cell? ⟨(ad397.add ((x5_1).toNat * 9)).block, (ad397.add ((x5_1).toNat * 9)).off + 7, none⟩ = some (.int .i64 ((rd_T42 l1 x5_1).f4.f3)) ∧ w'.cell? ⟨(ad397.add ((x5_1).toNat * 9)).block, (ad397.add ((x5_1).toNat * 9)).off + 8, none⟩ = some (.slice A397_8 ((rd_T42 l1 x5_1).f5).length c397_8) ∧ w'.cell? (ad396.add ((x5_1).toNat * 9)) = some (.string ((rd_T42 l0 x5_1).f0)) ∧ w'.cell? ⟨(ad396.add ((x5_1).toNat * 9)).block, (ad396.add ((x5_1).toNat * 9)).off + 1, none⟩ = some (.string ((rd_T42 l0 x5_1).f1)) ∧ w'.cell? ⟨(ad396.add ((x5_1).toNat * 9)).block, (ad396.add ((x5_1).toNat * 9)).off + 2, none⟩ = some (.string ((rd_T42 l0 x5_1).f2)) ∧ w'.cell? ⟨(ad396.add ((x5_1).toNat * 9)).block, (ad396.add ((x5_1).toNat * 9)).off + 3, none⟩ = some (.int .u8 ((rd_T42 l0 x5_1).f3)) ∧ w'.cell? ⟨(ad396.add ((x5_1).toNat * 9)).block, (ad396.add ((x5_1).toNat * 9)).off + 4, none⟩ = some (.int .i64 ((rd_T42 l0 x5_1).f4.f0)) ∧ w'.cell? ⟨(ad396.add ((x5_1).toNat * 9)).block, (ad396.add ((x5_1).toNat * 9)).off + 5, none⟩ = some (.int .i64 ((rd_T42 l0 x5_1).f4.f1)) ∧ w'.cell? ⟨(ad396.add ((x5_1).toNat * 9)).block, (ad396.add ((x5_1).toNat * 9)).off + 6, none⟩ = some (.int .i64 ((rd_T42 l0 x5_1).f4.f2)) ∧ w'.cell? ⟨(ad396.add ((x5_1).toNat * 9)).block, (ad396.add ((x5_1).toNat * 9)).off + 7, none⟩ = some (.int .i64 ((rd_T42 l0 x5_1).f4.f3)) ∧ w'.cell? ⟨(ad396.add ((x5_1).toNat * 9)).block, (ad396.add ((x5_1).toNat * 9)).off + 8, none⟩ = some (.slice A396_8 ((rd_T42 l0 x5_1).f5).length c396_8) ∧ w'.cell? (ad397.add ((x5_1).toNat * 9)) = some (.string ((rd_T42 l1 x5_1).f0)) ∧ w'.cell? ⟨(ad397.add ((x5_1).toNat * 9)).block, (ad397.add ((x5_1).toNat * 9)).off + 1, none⟩ = some (.string ((rd_T42 l1 x5_1).f1)) ∧ w'.cell? ⟨(ad397.add ((x5_1).toNat * 9)).block, (ad397.add ((x5_1).toNat * 9)).off + 2, none⟩ = some (.string ((rd_T42 l1 x5_1).f2)) ∧ w'.cell? ⟨(ad397.add ((x5_1).toNat * 9)).block, (ad397.add ((x5_1).toNat * 9)).off + 3, none⟩ = some (.int .u8 ((rd_T42 l1 x5_1).f3)) ∧ w'.cell? ⟨(ad397.add ((x5_1).toNat * 9)).block, (ad397.add ((x5_1).toNat * 9)).off + 4, none⟩ = some (.int .i64 ((rd_T42 l1 x5_1).f4.f0)) ∧ w'.cell? ⟨(ad397.add ((x5_1).toNat * 9)).block, (ad397.add ((x5_1).toNat * 9)).off + 5, none⟩ = some (.int .i64 ((rd_T42 l1 x5_1).f4.f1)) ∧ w'.cell? ⟨(ad397.add ((x5_1).toNat * 9)).block, (ad397.add ((x5_1).toNat * 9)).off + 6, none⟩ = some (.int .i64 ((rd_T42 l1 x5_1).f4.f2)) ∧ w'.cell? ⟨(ad397.add ((x5_1).toNat * 9)).block, (ad397.add ((x5_1).toNat * 9)).off + 7, none⟩ = some (.int .i64 ((rd_T42 l1 x5_1).f4.f3)) ∧ w'.cell? ⟨(ad397.add ((x5_1).toNat * 9)).block, (ad397.add ((x5_1).toNat * 9)).off + 8, none⟩ = some (.slice A397_8 ((rd_T42 l1 x5_1).f5).length c397_8)) (ds := []) q17_0 (by kernel_rfl) rfl rfl ⟨((HB.out.cell (World.block_lt_of_cell? w _ hw396_0)).trans hw396_0), ((HB.out.cell (World.block_lt_of_cell? w _ hw396_1)).trans hw396_1), ((HB.out.cell (World.block_lt_of_cell? w _ hw396_2)).trans hw396_2), ((HB.out.cell (World.block_lt_of_cell? w _ hw396_3)).trans hw396_3), ((HB.out.cell (World.block_lt_of_cell? w _ hw396_4)).trans hw396_4), ((HB.out.cell (World.block_lt_of_cell? w _ hw396_5)).trans hw396_5), ((HB.out.cell (World.block_lt_of_cell? w _ hw396_6)).trans hw396_6), ((HB.out.cell (World.block_lt_of_cell? w _ hw396_7)).trans hw396_7), ((HB.out.cell (World.block_lt_of_cell? w _ hw396_8)).trans hw396_8), ((HB.out.cell (World.block_lt_of_cell? w _ hw397_0)).trans hw397_0), ((HB.out.cell (World.block_lt_of_cell? w _ hw397_1)).trans hw397_1), ((HB.out.cell (World.block_lt_of_cell? w _ hw397_2)).trans hw397_2), ((HB.out.cell (World.block_lt_of_cell? w _ hw397_3)).trans hw397_3), ((HB.out.cell (World.block_lt_of_cell? w _ hw397_4)).trans hw397_4), ((HB.out.cell (World.block_lt_of_cell? w _ hw397_5)).trans hw397_5), ((HB.out.cell (World.block_lt_of_cell? w _ hw397_6)).trans hw397_6), ((HB.out.cell (World.block_lt_of_cell? w _ hw397_7)).trans hw397_7), ((HB.out.cell (World.block_lt_of_cell? w _ hw397_8)).trans hw397_8), ((HB.out.cell (World.block_lt_of_cell? w _ hw398_0)).trans hw398_0), ((HB.out.cell (World.block_lt_of_cell? w _ hw398_1)).trans hw398_1), ((HB.out.cell (World.block_lt_of_cell? w _ hw398_2)).trans hw398_2), ((HB.out.cell (World.block_lt_of_cell? w _ hw398_3)).trans hw398_3), ((HB.out.cell (World.block_lt_of_cell? w _ hw398_4)).trans hw398_4), ((HB.out.cell (World.block_lt_of_cell? w _ hw398_5)).trans hw398_5), ((HB.out.cell (World.block_lt_of_cell? w _ hw398_6)).trans hw398_6), ((HB.out.cell (World.block_lt_of_cell? w _ hw398_7)).trans hw398_7), ((HB.out.cell (World.block_lt_of_cell? w _ hw398_8)).trans hw398_8), ((HB.out.cell (World.block_lt_of_cell? w _ hw399_0)).trans hw399_0), ((HB.out.cell (World.block_lt_of_cell? w _ hw399_1)).trans hw399_1), ((HB.out.cell (World.block_lt_of_cell? w _ hw399_2)).trans hw399_2), ((HB.out.cell (World.block_lt_of_cell? w _ hw399_3)).trans hw399_3), ((HB.out.cell (World.block_lt_of_cell? w _ hw399_4)).trans hw399_4), ((HB.out.cell (World.block_lt_of_cell? w _ hw399_5)).trans hw399_5), ((HB.out.cell (World.block_lt_of_cell? w _ hw399_6)).trans hw399_6), ((HB.out.cell (World.block_lt_of_cell? w _ hw399_7)).trans hw399_7), ((HB.out.cell (World.block_lt_of_cell? w _ hw399_8)).trans hw399_8)⟩ (fun hHeld => ?_); refine with_tabW bindleref08_SameTree.tab6 bindleref08_SameTree.bits6 (fun HT_ HW_ => ?_)
   generalize wr.drew = w10 at HB HR396_8 HR397_8 HR398_8 HR399_8 hx396_0 hx396_1 hx396_2 hx396_3 hx396_4 hx396_5 hx396_6 hx396_7 hx396_8 hx397_0 hx397_1 hx397_2 hx397_3 hx397_4 hx397_5 hx397_6 hx397_7 hx397_8 hx398_0 hx398_1 hx398_2 hx398_3 hx398_4 hx398_5 hx398_6 hx398_7 hx398_8 hx399_0 hx399_1 hx399_2 hx399_3 hx399_4 hx399_5 hx399_6 hx399_7 hx399_8 hHeld ⊢
   refine pur_ (i := 0) (N := some 17) q17_1 (any_of HT_.out (by kernel_rfl)) ?_
   refine pur_ (i := 1) (N := some 18) q17_2 (any_of HT_.out (by kernel_rfl)) ?_
   refine pur_ (i := 2) (N := some 19) q17_3 (any_of HT_.out (by kernel_rfl)) ?_
   refine pur_ (i := 3) (N := some 20) q17_4 (any_of HT_.out (by kernel_rfl)) ?_
   refine pur_ (i := 5) (N := some 22) q17_5 (any_of HT_.out (by kernel_rfl)) ?_
   refine pur_ (i := 6) (N := some 23) q17_6 (any_of HT_.out (by kernel_rfl)) ?_
   refine pur_ (i := 7) (N := some 24) q17_7 (any_of HT_.out (by kernel_rfl)) ?_
   refine pur_ (i := 8) (N := some 25) q17_8 (any_of HT_.out (by kernel_rfl)) ?_
   refine take_ (i := 4) (N := some 21) (v := ?_) (a' := ?_) q17_9 rfl rfl (take_ofW HT_.out HW_.out (by kernel_rfl)) (fun _ _ _ h => h) (Or.inl ⟨by rfl, ?_⟩) hHeld ?_ ?_
   rotate_left
   ·rintro w' ⟨s0, s1, s2, s3, s4, s5, s6, s7, s8, s9, s10, s11, s12, s13, s14, s15, s16, s17, s18, s19, s20, s21, s22, s23, s24, s25, s26, s27, s28, s29, s30, s31, s32, s33, s34, s35⟩
    go_simp
    with_reducible rfl
   rotate_left
   ·simp only [Act.put, List.setIfInBounds_toArray, List.set_cons_zero, List.set_cons_succ, i64_w, i32_w]
    rfl
   refine take_ (i := 9) (N := some 26) (v := ?_) (a' := ?_) q17_10 rfl rfl (take_ofW HT_.out HW_.out (by kernel_rfl)) (fun _ _ _ h => h) (Or.inl ⟨by rfl, ?_⟩) hHeld ?_ ?_
   rotate_left
   ·rintro w' ⟨s0, s1, s2, s3, s4, s5, s6, s7, s8, s9, s10, s11, s12, s13, s14, s15, s16, s17, s18, s19, s20, s21, s22, s23, s24, s25, s26, s27, s28, s29, s30, s31, s32, s33, s34, s35⟩
    go_simp
    with_reducible rfl
   rotate_left
   ·simp only [Act.put, List.setIfInBounds_toArray, List.set_cons_zero, List.set_cons_succ, i64_w, i32_w]
    rfl
   refine pur_ (i := 10) (N := some 27) q17_11 (any_of HT_.out (by kernel_rfl)) ?_
   refine pur_ (i := 11) (N := some 28) q17_12 (any_of HT_.out (by kernel_rfl)) ?_
   refine pur_ (i := 12) (N := some 29) q17_13 (any_of HT_.out (by kernel_rfl)) ?_
   refine pur_ (i := 13) (N := some 30) q17_14 (any_of HT_.out (by kernel_rfl)) ?_
   refine pur_ (i := 14) (N := some 31) q17_15 (any_of HT_.out (by kernel_rfl)) ?_
   refine pur_ (i := 16) (N := some 33) q17_24 (any_of HT_.out (by kernel_rfl)) ?_
   refine pur_ (i := 17) (N := some 34) q17_25 (any_of HT_.out (by kernel_rfl)) ?_
   refine pur_ (i := 18) (N := some 35) q17_26 (any_of HT_.out (by kernel_rfl)) ?_
   refine take_ (i := 15) (N := some 32) (v := ?_) (a' := ?_) q17_19 rfl rfl (take_ofW HT_.out HW_.out (by kernel_rfl)) (fun _ _ _ h => h) (Or.inl ⟨by rfl, ?_⟩) hHeld ?_ ?_
   rotate_left
   ·rintro w' ⟨s0, s1, s2, s3, s4, s5, s6, s7, s8, s9, s10, s11, s12, s13, s14, s15, s16, s17, s18, s19, s20, s21, s22, s23, s24, s25, s26, s27, s28, s29, s30, s31, s32, s33, s34, s35⟩
    go_simp
    with_reducible rfl
   rotate_left
   ·simp only [Act.put, List.setIfInBounds_toArray, List.set_cons_zero, List.set_cons_succ, i64_w, i32_w]
    rfl
   refine take_ (i := 19) (N := some 36) (v := ?_) (a' := ?_) q17_20 rfl rfl (take_ofW HT_.out HW_.out (by kernel_rfl)) (fun _ _ _ h => h) (Or.inl ⟨by rfl, ?_⟩) hHeld ?_ ?_
   rotate_left
   ·rintro w' ⟨s0, s1, s2, s3, s4, s5, s6, s7, s8, s9, s10, s11, s12, s13, s14, s15, s16, s17, s18, s19, s20, s21, s22, s23, s24, s25, s26, s27, s28, s29, s30, s31, s32, s33, s34, s35⟩
    go_simp
    with_reducible rfl
   rotate_left
   ·simp only [Act.put, List.setIfInBounds_toArray, List.set_cons_zero, List.set_cons_succ, i64_w, i32_w]
    rfl
   refine one_ (i := 20) (N := some 37) q17_21 rfl rfl (one_of HT_.out (by kernel_rfl)) (by decide) (fun K hK => ?_)
   refine goes_ Tryz.func19 (by kernel_rfl) rfl #[.agg #[.string ((rd_T42 l0 x5_1).f0), .string ((rd_T42 l0 x5_1).f1), .string ((rd_T42 l0 x5_1).f2), .int .u8 ((rd_T42 l0 x5_1).f3), .int .i64 ((rd_T42 l0 x5_1).f4.f0), .int .i64 ((rd_T42 l0 x5_1).f4.f1), .int .i64 ((rd_T42 l0 x5_1).f4.f2), .int .i64 ((rd_T42 l0 x5_1).f4.f3), .slice A396_8 ((rd_T42 l0 x5_1).f5).length c396_8], .agg #[.string ((rd_T42 l1 x5_1).f0), .string ((rd_T42 l1 x5_1).f1), .string ((rd_T42 l1 x5_1).f2), .int .u8 ((rd_T42 l1 x5_1).f3), .int .i64 ((rd_T42 l1 x5_1).f4.f0), .int .i64 ((rd_T42 l1 x5_1).f4.f1), .int .i64 ((rd_T42 l1 x5_1).f4.f2), .int .i64 ((rd_T42 l1 x5_1).f4.f3), .slice A397_8 ((rd_T42 l1 x5_1).f5).length c397_8]] (by rfl) rfl rfl wm_ ?_
   with_reducible refine (bindleref08_Equal.calls ((rd_T42 l0 x5_1).f0) ((rd_T42 l0 x5_1).f1) ((rd_T42 l0 x5_1).f2) ((rd_T42 l0 x5_1).f3) ((rd_T42 l0 x5_1).f4.f0) ((rd_T42 l0 x5_1).f4.f1) ((rd_T42 l0 x5_1).f4.f2) ((rd_T42 l0 x5_1).f4.f3) _ _ ((rd_T42 l0 x5_1).f5) ((rd_T42 l1 x5_1).f0) ((rd_T42 l1 x5_1).f1) ((rd_T42 l1 x5_1).f2) ((rd_T42 l1 x5_1).f3) ((rd_T42 l1 x5_1).f4.f0) ((rd_T42 l1 x5_1).f4.f1) ((rd_T42 l1 x5_1).f4.f2) ((rd_T42 l1 x5_1).f4.f3) _ _ ((rd_T42 l1 x5_1).f5) true _ ?side1 ?side2 ?side3 ?side4 A8.out).mono ?_
   (case side1 => exact wc_ (Kd.C_below HR398_8.out HB.out))
   (case side2 => exact HC398_8.out)
   (case side3 => exact wc_ (Kd.C_below HR399_8.out HB.out))
   (case side4 => exact HC399_8.out)
   rintro e w11 ⟨rfl, hb⟩
   refine ⟨_, rfl, ?_⟩
   have n0_ := A0_ (below_step (wb_ HB.out) hb)
   clear HB
   have HB := n0_
   clear n0_
   (try clear hb)
   (try clear hb2)
   (try clear hk)
   (try clear hi)
   refine hK.out _ _ ⟨((HB.out.cell (World.block_lt_of_cell? w _ hw396_0)).trans hw396_0), ((HB.out.cell (World.block_lt_of_cell? w _ hw396_1)).trans hw396_1), ((HB.out.cell (World.block_lt_of_cell? w _ hw396_2)).trans hw396_2), ((HB.out.cell (World.block_lt_of_cell? w _ hw396_3)).trans hw396_3), ((HB.out.cell (World.block_lt_of_cell? w _ hw396_4)).trans hw396_4), ((HB.out.cell (World.block_lt_of_cell? w _ hw396_5)).trans hw396_5), ((HB.out.cell (World.block_lt_of_cell? w _ hw396_6)).trans hw396_6), ((HB.out.cell (World.block_lt_of_cell? w _ hw396_7)).trans hw396_7), ((HB.out.cell (World.block_lt_of_cell? w _ hw396_8)).trans hw396_8), ((HB.out.cell (World.block_lt_of_cell? w _ hw397_0)).trans hw397_0), ((HB.out.cell (World.block_lt_of_cell? w _ hw397_1)).trans hw397_1), ((HB.out.cell (World.block_lt_of_cell? w _ hw397_2)).trans hw397_2), ((HB.out.cell (World.block_lt_of_cell? w _ hw397_3)).trans hw397_3), ((HB.out.cell (World.block_lt_of_cell? w _ hw397_4)).trans hw397_4), ((HB.out.cell (World.block_lt_of_cell? w _ hw397_5)).trans hw397_5), ((HB.out.cell (World.block_lt_of_cell? w _ hw397_6)).trans hw397_6), ((HB.out.cell (World.block_lt_of_cell? w _ hw397_7)).trans hw397_7), ((HB.out.cell (World.block_lt_of_cell? w _ hw397_8)).trans hw397_8), ((HB.out.cell (World.block_lt_of_cell? w _ hw398_0)).trans hw398_0), ((HB.out.cell (World.block_lt_of_cell? w _ hw398_1)).trans hw398_1), ((HB.out.cell (World.block_lt_of_cell? w _ hw398_2)).trans hw398_2), ((HB.out.cell (World.block_lt_of_cell? w _ hw398_3)).trans hw398_3), ((HB.out.cell (World.block_lt_of_cell? w _ hw398_4)).trans hw398_4), ((HB.out.cell (World.block_lt_of_cell? w _ hw398_5)).trans hw398_5), ((HB.out.cell (World.block_lt_of_cell? w _ hw398_6)).trans hw398_6), ((HB.out.cell (World.block_lt_of_cell? w _ hw398_7)).trans hw398_7), ((HB.out.cell (World.block_lt_of_cell? w _ hw398_8)).trans hw398_8), ((HB.out.cell (World.block_lt_of_cell? w _ hw399_0)).trans hw399_0), ((HB.out.cell (World.block_lt_of_cell? w _ hw399_1)).trans hw399_1), ((HB.out.cell (World.block_lt_of_cell? w _ hw399_2)).trans hw399_2), ((HB.out.cell (World.block_lt_of_cell? w _ hw399_3)).trans hw399_3), ((HB.out.cell (World.block_lt_of_cell? w _ hw399_4)).trans hw399_4), ((HB.out.cell (World.block_lt_of_cell? w _ hw399_5)).trans hw399_5), ((HB.out.cell (World.block_lt_of_cell? w _ hw399_6)).trans hw399_6), ((HB.out.cell (World.block_lt_of_cell? w _ hw399_7)).trans hw399_7), ((HB.out.cell (World.block_lt_of_cell? w _ hw399_8)).trans hw399_8)⟩ (fun hHeld => ?_)
   clear hK K
   refine norm_ (a' := ?_) ?_ ?_
   rotate_left
   ·show Act.put _ (some 37) _ = _
    simp only [Act.put, List.setIfInBounds_toArray, List.set_cons_zero, List.set_cons_succ, i64_w, i32_w]
    rfl
   refine pur_ (i := 21) (N := some 38) q17_22 (any_of HT_.out (by kernel_rfl)) ?_
   refine pur_ (i := 22) (N := some 39) q17_23 (any_of HT_.out (by kernel_rfl)) ?_
   refine done_ (done_of HT_.out (by kernel_rfl)) ?_
   try go_wp2
   go_roundg k1
   case measure => have := HK1.out; omega
   case rel => exact ⟨(wrap64 (x5_1 + 1)), wr_, H', ⟨by have := HK1.out; omega⟩, ⟨wb_ HB.out⟩⟩
end Go.Proofs.YtbngbefchobfnaaGreatDoor.Print

namespace Go.Proofs.YtbngbefchobfnaaGreatDoor
open Go.RowKit Go.Proofs.YtbngbefchobfnaaGreatDoor.Print Go.Proofs.YtbngbefchobfnaaGreatDoorW.PrintWords
set_option linter.unusedVariables false
theorem requal_f (a b : Node) : bindleref08_Equal.f a.f0 a.f1 a.f2 a.f3 a.f4.f0 a.f4.f1 a.f4.f2 a.f4.f3 a.f5 b.f0 b.f1 b.f2 b.f3 b.f4.f0 b.f4.f1 b.f4.f2 b.f4.f3 b.f5 = some (equalB a b) := by
 unfold bindleref08_Equal.f
 exact equal_chain a b rfl
theorem rdN_nat' (l : List Node) (j : Nat) (h : j < l.length) : rd_T42 l (j : Int) = l[j] := by rw [rdN_at l j (by omega) (by omega)]; simp
theorem sameB_size : ∀ (l r : List Node), sameB l r = true → l.length = r.length
 | [], [], _ => rfl
 | [], _ :: _, h => by cases h
 | _ :: _, [], h => by cases h
 | a :: l, b :: r, h => by
  rw [sameB, Bool.and_eq_true] at h
  rw [List.length_cons, List.length_cons, sameB_size l r h.2]
theorem sameTree_l (l r : List Node) (hl : l.length = r.length) (hlen : l.length ≤ 4611686018427387904) : ∀ (d i : Nat), i + d = l.length → Ev (fun k => bindleref08_SameTree.l0 k l r (i : Int)) (sameB (l.drop i) (r.drop i)) := by
 intro d
 induction d with
 | zero =>
  intro i hi
  rw [List.drop_of_length_le (by omega), List.drop_of_length_le (by omega)]
  exact Ev.step (f := fun _ => some true) (fun k => by rw [bindleref08_SameTree.l0, if_neg (by omega)]) (Ev.now _)
 | succ d ih =>
  intro i hi
  have hil : i < l.length := by omega
  have hir : i < r.length := by omega
  rw [List.drop_eq_getElem_cons hil, List.drop_eq_getElem_cons hir, sameB]
  by_cases he : l[i].f2.toList = r[i].f2.toList
  ·rw [decide_eq_true he, Bool.true_and]
   cases hb : equalB l[i] r[i] with
   | true =>
    rw [Bool.true_and]
    refine Ev.step (fun k => ?_) (ih (i + 1) (by omega))
    rw [bindleref08_SameTree.l0, if_pos (by omega), if_pos (by omega), if_pos (by omega), rdN_nat' l i hil, rdN_nat' r i hir, if_pos he, requal_f, hb, Option.bind_some, if_pos rfl]
    rw [show wrap64 ((i : Int) + 1) = ((i + 1 : Nat) : Int) by unfold wrap64; omega]
   | false =>
    rw [Bool.false_and]
    refine Ev.step (f := fun _ => some false) (fun k => ?_) (Ev.now _)
    rw [bindleref08_SameTree.l0, if_pos (by omega), if_pos (by omega), if_pos (by omega), rdN_nat' l i hil, rdN_nat' r i hir, if_pos he, requal_f, hb, Option.bind_some, if_neg (by simp)]
  ·rw [decide_eq_false he, Bool.false_and, Bool.false_and]
   refine Ev.step (f := fun _ => some false) (fun k => ?_) (Ev.now _)
   rw [bindleref08_SameTree.l0, if_pos (by omega), if_pos (by omega), if_pos (by omega), rdN_nat' l i hil, rdN_nat' r i hir, if_neg he]
theorem sameTree_eq (l r : List Node) (hlen : l.length ≤ 4611686018427387904) : Ev (fun k => bindleref08_SameTree.f k l r) (sameB l r) := by
 by_cases hl : l.length = r.length
 ·refine Ev.congr (fun k => ?_) (sameTree_l l r hl hlen l.length 0 (by omega))
  unfold bindleref08_SameTree.f
  rw [if_pos (by omega)]
  rfl
 ·have hf : sameB l r = false := by
   rw [Bool.eq_false_iff]
   exact fun h => hl (sameB_size l r h)
  rw [hf]
  refine Ev.congr (f := fun _ => some false) (fun k => ?_) (Ev.now _)
  unfold bindleref08_SameTree.f
  rw [if_neg (by omega)]
end Go.Proofs.YtbngbefchobfnaaGreatDoor

namespace Go.Proofs.YtbngbefchobfnaaGreatDoor.Print
open Go.RowKit Go.Proofs.YtbngbefchobfnaaGreatDoorW.PrintWords Go.Proofs.YtbngbefchobfnaaGreatDoorW.PrintLast Go.Proofs.YtbngbefchobfnaaGreatDoorW.PrintMore
attribute [local go_sem] max2_int min2_int max_two min_two max_three min_three max_four min_four   -- for this text's walks alone
set_option linter.unusedVariables false
set_option linter.unusedSimpArgs false
def bindlelaw21_three.f  : Option ((List (S42)) × (List (S42)) × (List (S42))) := some ((([(⟨(⟨#[97]⟩ : ByteArray), (⟨#[]⟩ : ByteArray), (⟨#[]⟩ : ByteArray), 53, (⟨0, 0, 0, 0⟩ : S39), ([] : List Int)⟩ : S42)] : List (S42))), (([(⟨(⟨#[97]⟩ : ByteArray), (⟨#[]⟩ : ByteArray), (⟨#[]⟩ : ByteArray), 53, (⟨1, 0, 0, 0⟩ : S39), ([] : List Int)⟩ : S42)] : List (S42))), ([] : List (S42)))
set_option maxHeartbeats 8000000 in
set_option maxRecDepth 100000 in
theorem bindlelaw21_three.calls  (r1 : List (S42)) (r2 : List (S42)) (r3 : List (S42)) (w : World) (h : bindlelaw21_three.f  = some (r1, r2, r3)) :
  Calls Tryz.prog 22 #[] w fun e w' => ∃ v0_ v1_ v2_ : Value, e = .returned (.tuple #[v0_, v1_, v2_]) ∧ Kd.S k42 42 w' w.heap.size (fun k_ => some k_ ≠ (v1_ : Value).ownBlock ∧ some k_ ≠ (v2_ : Value).ownBlock) v0_ r1 ∧ Kd.S k42 42 w' w.heap.size (fun k_ => some k_ ≠ (v0_ : Value).ownBlock ∧ some k_ ≠ (v2_ : Value).ownBlock) v1_ r2 ∧ Kd.S k42 42 w' w.heap.size (fun k_ => some k_ ≠ (v0_ : Value).ownBlock ∧ some k_ ≠ (v1_ : Value).ownBlock) v2_ r3 ∧ Below w.heap.size w w' := by
 have hu42 := Tryz.underlying42
 have hu39 := Tryz.underlying39
 have HB := A0_ (Below.refl w.heap.size w)
 have H : (some ((([(⟨(⟨#[97]⟩ : ByteArray), (⟨#[]⟩ : ByteArray), (⟨#[]⟩ : ByteArray), 53, (⟨0, 0, 0, 0⟩ : S39), ([] : List Int)⟩ : S42)] : List (S42))), (([(⟨(⟨#[97]⟩ : ByteArray), (⟨#[]⟩ : ByteArray), (⟨#[]⟩ : ByteArray), 53, (⟨1, 0, 0, 0⟩ : S39), ([] : List Int)⟩ : S42)] : List (S42))), ([] : List (S42)))) = some (r1, r2, r3) := h
 clear h
 obtain ⟨y110, hy110⟩ : ∃ y_ : List (S42), y_ = (([(⟨(⟨#[97]⟩ : ByteArray), (⟨#[]⟩ : ByteArray), (⟨#[]⟩ : ByteArray), 53, (⟨0, 0, 0, 0⟩ : S39), ([] : List Int)⟩ : S42)] : List (S42))) := ⟨_, rfl⟩
 replace H : (some (y110, (([(⟨(⟨#[97]⟩ : ByteArray), (⟨#[]⟩ : ByteArray), (⟨#[]⟩ : ByteArray), 53, (⟨1, 0, 0, 0⟩ : S39), ([] : List Int)⟩ : S42)] : List (S42))), ([] : List (S42)))) = some (r1, r2, r3) := by first | (rw [hy110]; with_reducible exact H) | (have H2_ := (Option.bind_some _ _).symm.trans H; rw [hy110]; with_reducible exact H2_) | (have H2_ := (Option.bind_some _ _).symm.trans H; with_reducible exact H2_) | with_reducible exact H | (rw [hy110]; exact H) | exact H
 have Ny110 := A0_ hy110
 clear hy110
 obtain ⟨y113, hy113⟩ : ∃ y_ : List (S42), y_ = (([(⟨(⟨#[97]⟩ : ByteArray), (⟨#[]⟩ : ByteArray), (⟨#[]⟩ : ByteArray), 53, (⟨1, 0, 0, 0⟩ : S39), ([] : List Int)⟩ : S42)] : List (S42))) := ⟨_, rfl⟩
 replace H : (some (y110, y113, ([] : List (S42)))) = some (r1, r2, r3) := by first | (rw [hy113]; with_reducible exact H) | (have H2_ := (Option.bind_some _ _).symm.trans H; rw [hy113]; with_reducible exact H2_) | (have H2_ := (Option.bind_some _ _).symm.trans H; with_reducible exact H2_) | with_reducible exact H | (rw [hy113]; exact H) | exact H
 have Ny113 := A0_ hy113
 clear hy113
 simp only [Option.some.injEq, Prod.mk.injEq] at H
 obtain ⟨rfl, rfl, rfl⟩ := H
 go_enter Tryz.func22, Tryz.ntmps22
 go_wp2_with (first | ((with_reducible refine gate_dst (N := 4) rfl ?_); refine Kd.S_lit k42 _ 42 ?hg (N := 4) ?hd (xs := ([(⟨(⟨#[97]⟩ : ByteArray), (⟨#[]⟩ : ByteArray), (⟨#[]⟩ : ByteArray), 53, (⟨0, 0, 0, 0⟩ : S39), ([] : List Int)⟩ : S42)] : List (S42))) (inner := [.string (⟨#[97]⟩ : ByteArray), .string (⟨#[]⟩ : ByteArray), .string (⟨#[]⟩ : ByteArray), .int .u8 53, .int .i64 0, .int .i64 0, .int .i64 0, .int .i64 0, .slice none 0 0]) (ok := fun _ => True) (okp := fun _ => True) ?hr ?hp (fun _ hk => hk) trivial (Below.refl _ _) (Nat.le_refl _) (by simp) ?_; (case hd => rfl); (case hg => rfl); (case hr => first | (go_simp; done) | (go_simp; rfl)); (case hp => exact (Reps.c9 (show Kd.M k42 _ _ _ (⟨(⟨#[97]⟩ : ByteArray), (⟨#[]⟩ : ByteArray), (⟨#[]⟩ : ByteArray), 53, (⟨0, 0, 0, 0⟩ : S39), ([] : List Int)⟩ : S42) [.string (⟨#[97]⟩ : ByteArray), .string (⟨#[]⟩ : ByteArray), .string (⟨#[]⟩ : ByteArray), .int .u8 53, .int .i64 0, .int .i64 0, .int .i64 0, .int .i64 0, .slice none 0 0] from (k42_mkM _ _ _ (⟨(⟨#[97]⟩ : ByteArray), (⟨#[]⟩ : ByteArray), (⟨#[]⟩ : ByteArray), 53, (⟨0, 0, 0, 0⟩ : S39), ([] : List Int)⟩ : S42) (Kd.R_nil _ _ _ _ _))) (Reps.none _ _))); intro v111 w1 ho2 hb hg_ hnew_; clear hg_ hnew_; (first | rw [← Ny110.out] at ho2 | (simp only [Int.reduceToNat] at ho2; rw [← Ny110.out] at ho2)); have n0_ := A0_ (Kd.S_lower ho2 (below_size (wb_ HB.out))); have n1_ := A0_ (below_step (wb_ HB.out) hb); clear HB; have HO112 := n0_; have HB := n1_; clear n0_ n1_; clear hb ho2) | ((with_reducible refine gate_dst (N := 7) rfl ?_); refine Kd.S_lit k42 _ 42 ?hg (N := 7) ?hd (xs := ([(⟨(⟨#[97]⟩ : ByteArray), (⟨#[]⟩ : ByteArray), (⟨#[]⟩ : ByteArray), 53, (⟨1, 0, 0, 0⟩ : S39), ([] : List Int)⟩ : S42)] : List (S42))) (inner := [.string (⟨#[97]⟩ : ByteArray), .string (⟨#[]⟩ : ByteArray), .string (⟨#[]⟩ : ByteArray), .int .u8 53, .int .i64 1, .int .i64 0, .int .i64 0, .int .i64 0, .slice none 0 0]) (ok := fun _ => True) (okp := fun _ => True) ?hr ?hp (fun _ hk => hk) trivial (Below.refl _ _) (Nat.le_refl _) (by simp) ?_; (case hd => rfl); (case hg => rfl); (case hr => first | (go_simp; done) | (go_simp; rfl)); (case hp => exact (Reps.c9 (show Kd.M k42 _ _ _ (⟨(⟨#[97]⟩ : ByteArray), (⟨#[]⟩ : ByteArray), (⟨#[]⟩ : ByteArray), 53, (⟨1, 0, 0, 0⟩ : S39), ([] : List Int)⟩ : S42) [.string (⟨#[97]⟩ : ByteArray), .string (⟨#[]⟩ : ByteArray), .string (⟨#[]⟩ : ByteArray), .int .u8 53, .int .i64 1, .int .i64 0, .int .i64 0, .int .i64 0, .slice none 0 0] from (k42_mkM _ _ _ (⟨(⟨#[97]⟩ : ByteArray), (⟨#[]⟩ : ByteArray), (⟨#[]⟩ : ByteArray), 53, (⟨1, 0, 0, 0⟩ : S39), ([] : List Int)⟩ : S42) (Kd.R_nil _ _ _ _ _))) (Reps.none _ _))); intro v114 w3 ho4 hb hg_ hnew_; clear hg_ hnew_; (first | rw [← Ny113.out] at ho4 | (simp only [Int.reduceToNat] at ho4; rw [← Ny113.out] at ho4)); have n0_ := A0_ (Kd.S_elder' (wS_ HO112.out) (Kd.S_base ho4) hb); have n1_ := A0_ (Kd.S_lower (Kd.S_new' ho4 (Kd.S_lt (wS_ HO112.out))) (below_size (wb_ HB.out))); have n2_ := A0_ (below_step (wb_ HB.out) hb); clear HO112; clear HB; have HO112 := n0_; have HO115 := n1_; have HB := n2_; clear n0_ n1_ n2_; clear hb ho4))
 go_ret3
 exact ⟨_, _, _, we_, by (with_reducible repeat (first | apply Sa_ | apply SN_ | apply S1_)); exact Kd.S_mono HO112.out (fun _ hk => ⟨hk.2, (by simp [Value.ownBlock])⟩), by (with_reducible repeat (first | apply Sa_ | apply SN_ | apply S1_)); exact Kd.S_mono HO115.out (fun _ hk => ⟨hk.2, (by simp [Value.ownBlock])⟩), by first | exact Kd.S_nil _ _ _ _ _ | exact Kd.N_nil _ _ _ _ _ | exact Kd.V_nil _ _ _ _ _ | exact Kd.Q_nil _ _ _ _ _ | exact Kd.R_nil _ _ _ _ _, wb_ HB.out⟩
end Go.Proofs.YtbngbefchobfnaaGreatDoor.Print

namespace Go.Proofs.YtbngbefchobfnaaGreatDoor.Print
open Go.RowKit Go.Proofs.YtbngbefchobfnaaGreatDoorW.PrintWords Go.Proofs.YtbngbefchobfnaaGreatDoorW.PrintLast Go.Proofs.YtbngbefchobfnaaGreatDoorW.PrintMore
attribute [local go_sem] max2_int min2_int max_two min_two max_three min_three max_four min_four   -- for this text's walks alone
set_option linter.unusedVariables false
set_option linter.unusedSimpArgs false
def bindlelaw21_answers.f  : Option (Bool) := (bindlelaw21_three.f).bind fun bt116 => ((merge_Conflicts.f bt116.1 bt116.2.1 bt116.2.2).bind fun bt125 => ((merge_Merge.f bt116.1 bt116.2.1 bt116.2.2 1).bind fun bt129 => ((merge_Merge.f bt116.1 bt116.2.1 bt116.2.2 3).bind fun bt133 => ((merge_Merge.f bt116.1 bt116.1 bt116.2.1 3).bind fun bt137 => (if bt125.2 = 0 then (if (bt125.1.length : Int) = 1 then (if 0 < (bt125.1.length : Int) then (if (rdOf ByteArray.empty bt125.1 0).toList = ([97] : List UInt8) then (if bt129.2 = 0 then (if (bt129.1.length : Int) = 1 then (if 0 < (bt129.1.length : Int) then (if ((rd_T42 bt129.1 0).f4.f0) = 1 then (if bt133.2 = 11 then (if bt137.2 = 0 then (if (bt137.1.length : Int) = 1 then (if 0 < (bt137.1.length : Int) then (some (((rd_T42 bt137.1 0).f4.f0) == 1)) else (none)) else (some false)) else (some false)) else (some false)) else (some false)) else (none)) else (some false)) else (some false)) else (some false)) else (none)) else (some false)) else (some false))))))
theorem bindlelaw21_answers.val : bindlelaw21_answers.f = some true := by kernel_rfl
set_option maxHeartbeats 8000000 in
set_option maxRecDepth 100000 in
theorem bindlelaw21_answers.calls  (r : Bool) (w : World) (hT : Aside0 (Tabs w)) (h : bindlelaw21_answers.f  = some r) :
  Calls Tryz.prog 10 #[] w fun e w' => e = .returned (.bool r) ∧ Below w.heap.size w w' := by
 have hr_ : r = true := Option.some.inj (h.symm.trans bindlelaw21_answers.val)
 have HB := A0_ (Below.refl w.heap.size w)
 have H : ((bindlelaw21_three.f).bind fun bt116 => ((merge_Conflicts.f bt116.1 bt116.2.1 bt116.2.2).bind fun bt125 => ((merge_Merge.f bt116.1 bt116.2.1 bt116.2.2 1).bind fun bt129 => ((merge_Merge.f bt116.1 bt116.2.1 bt116.2.2 3).bind fun bt133 => ((merge_Merge.f bt116.1 bt116.1 bt116.2.1 3).bind fun bt137 => (if bt125.2 = 0 then (if (bt125.1.length : Int) = 1 then (if 0 < (bt125.1.length : Int) then (if (rdOf ByteArray.empty bt125.1 0).toList = ([97] : List UInt8) then (if bt129.2 = 0 then (if (bt129.1.length : Int) = 1 then (if 0 < (bt129.1.length : Int) then (if ((rd_T42 bt129.1 0).f4.f0) = 1 then (if bt133.2 = 11 then (if bt137.2 = 0 then (if (bt137.1.length : Int) = 1 then (if 0 < (bt137.1.length : Int) then (some (((rd_T42 bt137.1 0).f4.f0) == 1)) else (none)) else (some false)) else (some false)) else (some false)) else (some false)) else (none)) else (some false)) else (some false)) else (some false)) else (none)) else (some false)) else (some false))))))) = some r := h
 clear h
 replace H := Option.bind_eq_some_iff.mp H
 obtain ⟨⟨t116, t117, t118⟩, A10, H⟩ := H
 replace H : ((merge_Conflicts.f t116 t117 t118).bind fun bt125 => ((merge_Merge.f t116 t117 t118 1).bind fun bt129 => ((merge_Merge.f t116 t117 t118 3).bind fun bt133 => ((merge_Merge.f t116 t116 t117 3).bind fun bt137 => (if bt125.2 = 0 then (if (bt125.1.length : Int) = 1 then (if 0 < (bt125.1.length : Int) then (if (rdOf ByteArray.empty bt125.1 0).toList = ([97] : List UInt8) then (if bt129.2 = 0 then (if (bt129.1.length : Int) = 1 then (if 0 < (bt129.1.length : Int) then (if ((rd_T42 bt129.1 0).f4.f0) = 1 then (if bt133.2 = 11 then (if bt137.2 = 0 then (if (bt137.1.length : Int) = 1 then (if 0 < (bt137.1.length : Int) then (some (((rd_T42 bt137.1 0).f4.f0) == 1)) else (none)) else (some false)) else (some false)) else (some false)) else (some false)) else (none)) else (some false)) else (some false)) else (some false)) else (none)) else (some false)) else (some false)))))) = some r := H
 have A1 := A0_ A10
 clear A10
 replace H := Option.bind_eq_some_iff.mp H
 obtain ⟨⟨t125, t128⟩, A20, H⟩ := H
 replace H : ((merge_Merge.f t116 t117 t118 1).bind fun bt129 => ((merge_Merge.f t116 t117 t118 3).bind fun bt133 => ((merge_Merge.f t116 t116 t117 3).bind fun bt137 => (if t128 = 0 then (if (t125.length : Int) = 1 then (if 0 < (t125.length : Int) then (if (rdOf ByteArray.empty t125 0).toList = ([97] : List UInt8) then (if bt129.2 = 0 then (if (bt129.1.length : Int) = 1 then (if 0 < (bt129.1.length : Int) then (if ((rd_T42 bt129.1 0).f4.f0) = 1 then (if bt133.2 = 11 then (if bt137.2 = 0 then (if (bt137.1.length : Int) = 1 then (if 0 < (bt137.1.length : Int) then (some (((rd_T42 bt137.1 0).f4.f0) == 1)) else (none)) else (some false)) else (some false)) else (some false)) else (some false)) else (none)) else (some false)) else (some false)) else (some false)) else (none)) else (some false)) else (some false))))) = some r := H
 have A2 := A0_ A20
 clear A20
 replace H := Option.bind_eq_some_iff.mp H
 obtain ⟨⟨t129, t132⟩, A30, H⟩ := H
 replace H : ((merge_Merge.f t116 t117 t118 3).bind fun bt133 => ((merge_Merge.f t116 t116 t117 3).bind fun bt137 => (if t128 = 0 then (if (t125.length : Int) = 1 then (if 0 < (t125.length : Int) then (if (rdOf ByteArray.empty t125 0).toList = ([97] : List UInt8) then (if t132 = 0 then (if (t129.length : Int) = 1 then (if 0 < (t129.length : Int) then (if ((rd_T42 t129 0).f4.f0) = 1 then (if bt133.2 = 11 then (if bt137.2 = 0 then (if (bt137.1.length : Int) = 1 then (if 0 < (bt137.1.length : Int) then (some (((rd_T42 bt137.1 0).f4.f0) == 1)) else (none)) else (some false)) else (some false)) else (some false)) else (some false)) else (none)) else (some false)) else (some false)) else (some false)) else (none)) else (some false)) else (some false)))) = some r := H
 have A3 := A0_ A30
 clear A30
 replace H := Option.bind_eq_some_iff.mp H
 obtain ⟨⟨t133, t136⟩, A40, H⟩ := H
 replace H : ((merge_Merge.f t116 t116 t117 3).bind fun bt137 => (if t128 = 0 then (if (t125.length : Int) = 1 then (if 0 < (t125.length : Int) then (if (rdOf ByteArray.empty t125 0).toList = ([97] : List UInt8) then (if t132 = 0 then (if (t129.length : Int) = 1 then (if 0 < (t129.length : Int) then (if ((rd_T42 t129 0).f4.f0) = 1 then (if t136 = 11 then (if bt137.2 = 0 then (if (bt137.1.length : Int) = 1 then (if 0 < (bt137.1.length : Int) then (some (((rd_T42 bt137.1 0).f4.f0) == 1)) else (none)) else (some false)) else (some false)) else (some false)) else (some false)) else (none)) else (some false)) else (some false)) else (some false)) else (none)) else (some false)) else (some false))) = some r := H
 have A4 := A0_ A40
 clear A40
 replace H := Option.bind_eq_some_iff.mp H
 obtain ⟨⟨t137, t140⟩, A50, H⟩ := H
 replace H : (if t128 = 0 then (if (t125.length : Int) = 1 then (if 0 < (t125.length : Int) then (if (rdOf ByteArray.empty t125 0).toList = ([97] : List UInt8) then (if t132 = 0 then (if (t129.length : Int) = 1 then (if 0 < (t129.length : Int) then (if ((rd_T42 t129 0).f4.f0) = 1 then (if t136 = 11 then (if t140 = 0 then (if (t137.length : Int) = 1 then (if 0 < (t137.length : Int) then (some (((rd_T42 t137 0).f4.f0) == 1)) else (none)) else (some false)) else (some false)) else (some false)) else (some false)) else (none)) else (some false)) else (some false)) else (some false)) else (none)) else (some false)) else (some false)) = some r := H
 have A5 := A0_ A50
 clear A50
 by_cases c6 : t128 = 0
 rotate_left
 ·rw [if_neg c6] at H
  have c6b0 : (t128 == 0) = false := beq_eq_false_iff_ne.mpr c6
  have c6b1 : (t128 != 0) = true := bne_iff_ne.mpr c6
  exact absurd ((Option.some.inj H).trans hr_) (by decide)
 rw [if_pos c6] at H
 have c6b0 : (t128 == 0) = true := beq_iff_eq.mpr c6
 have c6b1 : (t128 != 0) = false := bne_eq_false_iff_eq.mpr c6
 clear c6
 by_cases c7 : (t125.length : Int) = 1
 rotate_left
 ·rw [if_neg c7] at H
  have c7b0 : ((t125.length : Int) == 1) = false := beq_eq_false_iff_ne.mpr c7
  have c7b1 : ((t125.length : Int) != 1) = true := bne_iff_ne.mpr c7
  exact absurd ((Option.some.inj H).trans hr_) (by decide)
 rw [if_pos c7] at H
 have c7b0 : ((t125.length : Int) == 1) = true := beq_iff_eq.mpr c7
 have c7b1 : ((t125.length : Int) != 1) = false := bne_eq_false_iff_eq.mpr c7
 clear c7
 by_cases c8 : 0 < (t125.length : Int)
 rotate_left
 ·rw [if_neg c8] at H
  exact absurd H (by simp)
 rw [if_pos c8] at H
 have c8b0 : decide (0 < (t125.length : Int)) = true := decide_eq_true c8
 have c8b1 : decide (0 < t125.length) = true := decide_eq_true (by omega)
 clear c8
 by_cases c9 : (rdOf ByteArray.empty t125 0).toList = ([97] : List UInt8)
 rotate_left
 ·rw [if_neg c9] at H
  have c9b0 : ((rdOf ByteArray.empty t125 0).toList == ([97] : List UInt8)) = false := beq_eq_false_iff_ne.mpr c9
  have c9b1 : ((rdOf ByteArray.empty t125 0).toList != ([97] : List UInt8)) = true := bne_iff_ne.mpr c9
  exact absurd ((Option.some.inj H).trans hr_) (by decide)
 rw [if_pos c9] at H
 have c9b0 : ((rdOf ByteArray.empty t125 0).toList == ([97] : List UInt8)) = true := beq_iff_eq.mpr c9
 have c9b1 : ((rdOf ByteArray.empty t125 0).toList != ([97] : List UInt8)) = false := bne_eq_false_iff_eq.mpr c9
 clear c9
 by_cases c10 : t132 = 0
 rotate_left
 ·rw [if_neg c10] at H
  have c10b0 : (t132 == 0) = false := beq_eq_false_iff_ne.mpr c10
  have c10b1 : (t132 != 0) = true := bne_iff_ne.mpr c10
  exact absurd ((Option.some.inj H).trans hr_) (by decide)
 rw [if_pos c10] at H
 have c10b0 : (t132 == 0) = true := beq_iff_eq.mpr c10
 have c10b1 : (t132 != 0) = false := bne_eq_false_iff_eq.mpr c10
 clear c10
 by_cases c11 : (t129.length : Int) = 1
 rotate_left
 ·rw [if_neg c11] at H
  have c11b0 : ((t129.length : Int) == 1) = false := beq_eq_false_iff_ne.mpr c11
  have c11b1 : ((t129.length : Int) != 1) = true := bne_iff_ne.mpr c11
  exact absurd ((Option.some.inj H).trans hr_) (by decide)
 rw [if_pos c11] at H
 have c11b0 : ((t129.length : Int) == 1) = true := beq_iff_eq.mpr c11
 have c11b1 : ((t129.length : Int) != 1) = false := bne_eq_false_iff_eq.mpr c11
 clear c11
 by_cases c12 : 0 < (t129.length : Int)
 rotate_left
 ·rw [if_neg c12] at H
  exact absurd H (by simp)
 rw [if_pos c12] at H
 have c12b0 : decide (0 < (t129.length : Int)) = true := decide_eq_true c12
 have c12b1 : decide (0 < t129.length) = true := decide_eq_true (by omega)
 clear c12
 by_cases c13 : ((rd_T42 t129 0).f4.f0) = 1
 rotate_left
 ·rw [if_neg c13] at H
  have c13b0 : (((rd_T42 t129 0).f4.f0) == 1) = false := beq_eq_false_iff_ne.mpr c13
  have c13b1 : (((rd_T42 t129 0).f4.f0) != 1) = true := bne_iff_ne.mpr c13
  exact absurd ((Option.some.inj H).trans hr_) (by decide)
 rw [if_pos c13] at H
 have c13b0 : (((rd_T42 t129 0).f4.f0) == 1) = true := beq_iff_eq.mpr c13
 have c13b1 : (((rd_T42 t129 0).f4.f0) != 1) = false := bne_eq_false_iff_eq.mpr c13
 clear c13
 by_cases c14 : t136 = 11
 rotate_left
 ·rw [if_neg c14] at H
  have c14b0 : (t136 == 11) = false := beq_eq_false_iff_ne.mpr c14
  have c14b1 : (t136 != 11) = true := bne_iff_ne.mpr c14
  exact absurd ((Option.some.inj H).trans hr_) (by decide)
 rw [if_pos c14] at H
 have c14b0 : (t136 == 11) = true := beq_iff_eq.mpr c14
 have c14b1 : (t136 != 11) = false := bne_eq_false_iff_eq.mpr c14
 clear c14
 by_cases c15 : t140 = 0
 rotate_left
 ·rw [if_neg c15] at H
  have c15b0 : (t140 == 0) = false := beq_eq_false_iff_ne.mpr c15
  have c15b1 : (t140 != 0) = true := bne_iff_ne.mpr c15
  exact absurd ((Option.some.inj H).trans hr_) (by decide)
 rw [if_pos c15] at H
 have c15b0 : (t140 == 0) = true := beq_iff_eq.mpr c15
 have c15b1 : (t140 != 0) = false := bne_eq_false_iff_eq.mpr c15
 clear c15
 by_cases c16 : (t137.length : Int) = 1
 rotate_left
 ·rw [if_neg c16] at H
  have c16b0 : ((t137.length : Int) == 1) = false := beq_eq_false_iff_ne.mpr c16
  have c16b1 : ((t137.length : Int) != 1) = true := bne_iff_ne.mpr c16
  exact absurd ((Option.some.inj H).trans hr_) (by decide)
 rw [if_pos c16] at H
 have c16b0 : ((t137.length : Int) == 1) = true := beq_iff_eq.mpr c16
 have c16b1 : ((t137.length : Int) != 1) = false := bne_eq_false_iff_eq.mpr c16
 clear c16
 by_cases c17 : 0 < (t137.length : Int)
 rotate_left
 ·rw [if_neg c17] at H
  exact absurd H (by simp)
 rw [if_pos c17] at H
 have c17b0 : decide (0 < (t137.length : Int)) = true := decide_eq_true c17
 have c17b1 : decide (0 < t137.length) = true := decide_eq_true (by omega)
 clear c17
 clear hr_
 obtain rfl := Option.some.inj H
 go_enter Tryz.func10, Tryz.ntmps10
 go_wp2_with (first | ((with_reducible refine gate_callee (f := 22) rfl ?_); refine goesL_ (some 13) rfl rfl Tryz.func22 (by kernel_rfl) rfl #[] rfl wm_ ?_; (with_reducible refine (bindlelaw21_three.calls  t116 t117 t118 _ A1.out).mono ?_); rintro e w18 ⟨v119, v121, v123, rfl, ho0, ho1, ho2, hb⟩; refine ⟨_, rfl, ?_⟩; have n0_ := A0_ (Kd.S_lower ho0 (below_size (wb_ HB.out))); have n1_ := A0_ (Kd.S_lower ho1 (below_size (wb_ HB.out))); have n2_ := A0_ (Kd.S_lower ho2 (below_size (wb_ HB.out))); have n3_ := A0_ (below_step (wb_ HB.out) hb); clear HB; have HO120 := n0_; have HO122 := n1_; have HO124 := n2_; have HB := n3_; clear n0_ n1_ n2_ n3_; (try clear hb); (try clear hb2); (try clear hk); (try clear hi); (try clear ho0); (try clear ho1); (try clear ho2); obtain ⟨Ao19, co19, eo19⟩ := Kd.S_slice HO120.out; subst eo19; obtain ⟨Ao20, co20, eo20⟩ := Kd.S_slice HO122.out; subst eo20; obtain ⟨Ao21, co21, eo21⟩ := Kd.S_slice HO124.out; subst eo21) | ((with_reducible refine gate_callee (f := 11) rfl ?_); refine goesL_ (some 21) rfl rfl Tryz.func11 (by kernel_rfl) rfl #[.slice Ao19 t116.length co19, .slice Ao20 t117.length co20, .slice Ao21 t118.length co21] rfl wm_ ?_; (with_reducible refine (merge_Conflicts.calls _ _ t116 _ _ t117 _ _ t118 t125 t128 _ ?side1 ?side2 ?side3 ?side4 ?side5 ?side6 ?side7 A2.out).mono ?_); (case side1 => exact A0_ (Tabs.below hT.out (wb_ HB.out))); (case side2 => exact wc_ (Kd.S_reads' HO120.out).2.2); (case side3 => exact (Kd.S_reads' HO120.out).2.1); (case side4 => exact wc_ (Kd.S_reads' HO122.out).2.2); (case side5 => exact (Kd.S_reads' HO122.out).2.1); (case side6 => exact wc_ (Kd.S_reads' HO124.out).2.2); (case side7 => exact (Kd.S_reads' HO124.out).2.1); rintro e w22 ⟨v126, rfl, ho0, hb⟩; refine ⟨_, rfl, ?_⟩; have n0_ := A0_ (Sb_ (wS_ HO120.out) hb); have n1_ := A0_ (Sb_ (wS_ HO122.out) hb); have n2_ := A0_ (Sb_ (wS_ HO124.out) hb); have n3_ := A0_ (Kd.V_lower (Kd.V_mono (ok' := fun k_ => some k_ ≠ (.slice Ao19 t116.length co19 : Value).ownBlock ∧ some k_ ≠ (.slice Ao20 t117.length co20 : Value).ownBlock ∧ some k_ ≠ (.slice Ao21 t118.length co21 : Value).ownBlock) ho0 (fun k_ hk_ => ⟨(Kd.fresh' (Kd.S_lt (wS_ HO120.out)) k_ hk_), (Kd.fresh' (Kd.S_lt (wS_ HO122.out)) k_ hk_), (Kd.fresh' (Kd.S_lt (wS_ HO124.out)) k_ hk_)⟩)) (below_size (wb_ HB.out))); have n4_ := A0_ (below_step (wb_ HB.out) hb); clear HO120; clear HO122; clear HO124; clear HB; have HO120 := n0_; have HO122 := n1_; have HO124 := n2_; have HO127 := n3_; have HB := n4_; clear n0_ n1_ n2_ n3_ n4_; (try clear hb); (try clear hb2); (try clear hk); (try clear hi); (try clear ho0)) | ((with_reducible refine gate_callee (f := 15) rfl ?_); refine goesL_ (some 28) rfl rfl Tryz.func15 (by kernel_rfl) rfl #[.slice Ao19 t116.length co19, .slice Ao20 t117.length co20, .slice Ao21 t118.length co21, .int .i64 1] rfl wm_ ?_; (with_reducible refine (merge_Merge.calls _ _ t116 _ _ t117 _ _ t118 1 t129 t132 _ ?side1 ?side2 ?side3 ?side4 ?side5 ?side6 ?side7 A3.out).mono ?_); (case side1 => exact A0_ (Tabs.below hT.out (wb_ HB.out))); (case side2 => exact wc_ (Kd.S_reads' HO120.out).2.2); (case side3 => exact (Kd.S_reads' HO120.out).2.1); (case side4 => exact wc_ (Kd.S_reads' HO122.out).2.2); (case side5 => exact (Kd.S_reads' HO122.out).2.1); (case side6 => exact wc_ (Kd.S_reads' HO124.out).2.2); (case side7 => exact (Kd.S_reads' HO124.out).2.1); rintro e w23 ⟨v130, rfl, ho0, hb⟩; refine ⟨_, rfl, ?_⟩; have n0_ := A0_ (Sb_ (wS_ HO120.out) hb); have n1_ := A0_ (Sb_ (wS_ HO122.out) hb); have n2_ := A0_ (Sb_ (wS_ HO124.out) hb); have n3_ := A0_ (Vb_ (wV_ HO127.out) hb); have n4_ := A0_ (Kd.V_lower (Kd.V_mono (ok' := fun k_ => some k_ ≠ (.slice Ao19 t116.length co19 : Value).ownBlock ∧ some k_ ≠ (.slice Ao20 t117.length co20 : Value).ownBlock ∧ some k_ ≠ (.slice Ao21 t118.length co21 : Value).ownBlock) ho0 (fun k_ hk_ => ⟨(Kd.fresh' (Kd.S_lt (wS_ HO120.out)) k_ hk_), (Kd.fresh' (Kd.S_lt (wS_ HO122.out)) k_ hk_), (Kd.fresh' (Kd.S_lt (wS_ HO124.out)) k_ hk_)⟩)) (below_size (wb_ HB.out))); have n5_ := A0_ (below_step (wb_ HB.out) hb); clear HO120; clear HO122; clear HO124; clear HO127; clear HB; have HO120 := n0_; have HO122 := n1_; have HO124 := n2_; have HO127 := n3_; have HO131 := n4_; have HB := n5_; clear n0_ n1_ n2_ n3_ n4_ n5_; (try clear hb); (try clear hb2); (try clear hk); (try clear hi); (try clear ho0)) | ((with_reducible refine gate_callee (f := 15) rfl ?_); refine goesL_ (some 35) rfl rfl Tryz.func15 (by kernel_rfl) rfl #[.slice Ao19 t116.length co19, .slice Ao20 t117.length co20, .slice Ao21 t118.length co21, .int .i64 3] rfl wm_ ?_; (with_reducible refine (merge_Merge.calls _ _ t116 _ _ t117 _ _ t118 3 t133 t136 _ ?side1 ?side2 ?side3 ?side4 ?side5 ?side6 ?side7 A4.out).mono ?_); (case side1 => exact A0_ (Tabs.below hT.out (wb_ HB.out))); (case side2 => exact wc_ (Kd.S_reads' HO120.out).2.2); (case side3 => exact (Kd.S_reads' HO120.out).2.1); (case side4 => exact wc_ (Kd.S_reads' HO122.out).2.2); (case side5 => exact (Kd.S_reads' HO122.out).2.1); (case side6 => exact wc_ (Kd.S_reads' HO124.out).2.2); (case side7 => exact (Kd.S_reads' HO124.out).2.1); rintro e w24 ⟨v134, rfl, ho0, hb⟩; refine ⟨_, rfl, ?_⟩; have n0_ := A0_ (Sb_ (wS_ HO120.out) hb); have n1_ := A0_ (Sb_ (wS_ HO122.out) hb); have n2_ := A0_ (Sb_ (wS_ HO124.out) hb); have n3_ := A0_ (Vb_ (wV_ HO127.out) hb); have n4_ := A0_ (Vb_ (wV_ HO131.out) hb); have n5_ := A0_ (Kd.V_lower (Kd.V_mono (ok' := fun k_ => some k_ ≠ (.slice Ao19 t116.length co19 : Value).ownBlock ∧ some k_ ≠ (.slice Ao20 t117.length co20 : Value).ownBlock ∧ some k_ ≠ (.slice Ao21 t118.length co21 : Value).ownBlock) ho0 (fun k_ hk_ => ⟨(Kd.fresh' (Kd.S_lt (wS_ HO120.out)) k_ hk_), (Kd.fresh' (Kd.S_lt (wS_ HO122.out)) k_ hk_), (Kd.fresh' (Kd.S_lt (wS_ HO124.out)) k_ hk_)⟩)) (below_size (wb_ HB.out))); have n6_ := A0_ (below_step (wb_ HB.out) hb); clear HO120; clear HO122; clear HO124; clear HO127; clear HO131; clear HB; have HO120 := n0_; have HO122 := n1_; have HO124 := n2_; have HO127 := n3_; have HO131 := n4_; have HO135 := n5_; have HB := n6_; clear n0_ n1_ n2_ n3_ n4_ n5_ n6_; (try clear hb); (try clear hb2); (try clear hk); (try clear hi); (try clear ho0)) | ((with_reducible refine gate_callee (f := 15) rfl ?_); refine goesL_ (some 42) rfl rfl Tryz.func15 (by kernel_rfl) rfl #[.slice Ao19 t116.length co19, .slice Ao19 t116.length co19, .slice Ao20 t117.length co20, .int .i64 3] rfl wm_ ?_; (with_reducible refine (merge_Merge.calls _ _ t116 _ _ t116 _ _ t117 3 t137 t140 _ ?side1 ?side2 ?side3 ?side4 ?side5 ?side6 ?side7 A5.out).mono ?_); (case side1 => exact A0_ (Tabs.below hT.out (wb_ HB.out))); (case side2 => exact wc_ (Kd.S_reads' HO120.out).2.2); (case side3 => exact (Kd.S_reads' HO120.out).2.1); (case side4 => exact wc_ (Kd.S_reads' HO120.out).2.2); (case side5 => exact (Kd.S_reads' HO120.out).2.1); (case side6 => exact wc_ (Kd.S_reads' HO122.out).2.2); (case side7 => exact (Kd.S_reads' HO122.out).2.1); rintro e w25 ⟨v138, rfl, ho0, hb⟩; refine ⟨_, rfl, ?_⟩; have n0_ := A0_ (Sb_ (wS_ HO120.out) hb); have n1_ := A0_ (Sb_ (wS_ HO122.out) hb); have n2_ := A0_ (Sb_ (wS_ HO124.out) hb); have n3_ := A0_ (Vb_ (wV_ HO127.out) hb); have n4_ := A0_ (Vb_ (wV_ HO131.out) hb); have n5_ := A0_ (Vb_ (wV_ HO135.out) hb); have n6_ := A0_ (Kd.V_lower (Kd.V_mono (ok' := fun k_ => some k_ ≠ (.slice Ao19 t116.length co19 : Value).ownBlock ∧ some k_ ≠ (.slice Ao20 t117.length co20 : Value).ownBlock ∧ some k_ ≠ (.slice Ao21 t118.length co21 : Value).ownBlock) ho0 (fun k_ hk_ => ⟨(Kd.fresh' (Kd.S_lt (wS_ HO120.out)) k_ hk_), (Kd.fresh' (Kd.S_lt (wS_ HO122.out)) k_ hk_), (Kd.fresh' (Kd.S_lt (wS_ HO124.out)) k_ hk_)⟩)) (below_size (wb_ HB.out))); have n7_ := A0_ (below_step (wb_ HB.out) hb); clear HO120; clear HO122; clear HO124; clear HO127; clear HO131; clear HO135; clear HB; have HO120 := n0_; have HO122 := n1_; have HO124 := n2_; have HO127 := n3_; have HO131 := n4_; have HO135 := n5_; have HO139 := n6_; have HB := n7_; clear n0_ n1_ n2_ n3_ n4_ n5_ n6_ n7_; (try clear hb); (try clear hb2); (try clear hk); (try clear hi); (try clear ho0); obtain ⟨Ao26, co26, eo26⟩ := Kd.V_slice HO127.out; subst eo26; have p141 : 0 ≤ (0 : Int) := (by omega); have q141 : 0 < (t125.length : Int) := wd_; obtain ⟨ad141, e141, hx141_0⟩ := Kd.at_string (Kd.V_reads' HO127.out).2.2 0 p141 q141; cases e141; have qi141 : (0 < t125.length) = True := eq_true (by omega); (try rw [show ((0 : Int)).toNat = 0 from rfl] at hx141_0); (try rw [Addr.add_zero'] at hx141_0); replace p141 := eq_true p141; replace q141 := eq_true q141; obtain ⟨Ao27, co27, eo27⟩ := Kd.V_slice HO131.out; subst eo27; have p142 : 0 ≤ (0 : Int) := (by omega); have q142 : 0 < (t129.length : Int) := wd_; obtain ⟨ad142, A142_8, c142_8, e142, hx142_0, hx142_1, hx142_2, hx142_3, hx142_4, hx142_5, hx142_6, hx142_7, hx142_8, hl142_8, hi142_8⟩ := at_T42 (Kd.V_reads' HO131.out).2.2 0 p142 q142; cases e142; obtain ⟨ce142, hce142, hMe142, hcc142⟩ := Kd.V_get HO131.out z42 0 p142 (by first | exact q142 | exact wd_ | (have e_ := (Kd.V_reads' HO131.out).1; omega)); obtain ⟨ua142_8, uc142_8, rfl, ul142_8, ge142_8⟩ := k42_openF hMe142; have hv142_8 := hcc142 8 _ rfl; rw [add_field _ _ 8 (by omega)] at hv142_8; replace hv142_8 := Option.some.inj (hv142_8.symm.trans hx142_8); injection hv142_8 with hva_ hvn_ hvc_; rw [hva_] at ge142_8; rw [hvc_] at ul142_8; have HL142_8 := A0_ (show Kd.V (Kd.int .u8) 5 _ w.heap.size _ _ ((rd_T42 t129 0).f5) from Kd.V_mk ul142_8 ge142_8); clear hva_ hvn_ hvc_ ge142_8 ul142_8; clear hcc142 hce142; have qi142 : (0 < t129.length) = True := eq_true (by omega); (try rw [show ((0 : Int)).toNat = 0 from rfl] at hx142_0); (try rw [show 0 * 9 = 0 from rfl] at hx142_0); (try rw [Addr.add_zero'] at hx142_0); (try rw [show ((0 : Int)).toNat = 0 from rfl] at hx142_1); (try rw [show 0 * 9 = 0 from rfl] at hx142_1); (try rw [Addr.add_zero'] at hx142_1); (try rw [show ((0 : Int)).toNat = 0 from rfl] at hx142_2); (try rw [show 0 * 9 = 0 from rfl] at hx142_2); (try rw [Addr.add_zero'] at hx142_2); (try rw [show ((0 : Int)).toNat = 0 from rfl] at hx142_3); (try rw [show 0 * 9 = 0 from rfl] at hx142_3); (try rw [Addr.add_zero'] at hx142_3); (try rw [show ((0 : Int)).toNat = 0 from rfl] at hx142_4); (try rw [show 0 * 9 = 0 from rfl] at hx142_4); (try rw [Addr.add_zero'] at hx142_4); (try rw [show ((0 : Int)).toNat = 0 from rfl] at hx142_5); (try rw [show 0 * 9 = 0 from rfl] at hx142_5); (try rw [Addr.add_zero'] at hx142_5); (try rw [show ((0 : Int)).toNat = 0 from rfl] at hx142_6); (try rw [show 0 * 9 = 0 from rfl] at hx142_6); (try rw [Addr.add_zero'] at hx142_6); (try rw [show ((0 : Int)).toNat = 0 from rfl] at hx142_7); (try rw [show 0 * 9 = 0 from rfl] at hx142_7); (try rw [Addr.add_zero'] at hx142_7); (try rw [show ((0 : Int)).toNat = 0 from rfl] at hx142_8); (try rw [show 0 * 9 = 0 from rfl] at hx142_8); (try rw [Addr.add_zero'] at hx142_8); have HR142_8 := A0_ hi142_8; have HC142_8 := A0_ hl142_8; clear hi142_8 hl142_8; replace p142 := eq_true p142; replace q142 := eq_true q142; obtain ⟨Ao28, co28, eo28⟩ := Kd.V_slice HO139.out; subst eo28; have p143 : 0 ≤ (0 : Int) := (by omega); have q143 : 0 < (t137.length : Int) := wd_; obtain ⟨ad143, A143_8, c143_8, e143, hx143_0, hx143_1, hx143_2, hx143_3, hx143_4, hx143_5, hx143_6, hx143_7, hx143_8, hl143_8, hi143_8⟩ := at_T42 (Kd.V_reads' HO139.out).2.2 0 p143 q143; cases e143; obtain ⟨ce143, hce143, hMe143, hcc143⟩ := Kd.V_get HO139.out z42 0 p143 (by first | exact q143 | exact wd_ | (have e_ := (Kd.V_reads' HO139.out).1; omega)); obtain ⟨ua143_8, uc143_8, rfl, ul143_8, ge143_8⟩ := k42_openF hMe143; have hv143_8 := hcc143 8 _ rfl; rw [add_field _ _ 8 (by omega)] at hv143_8; replace hv143_8 := Option.some.inj (hv143_8.symm.trans hx143_8); injection hv143_8 with hva_ hvn_ hvc_; rw [hva_] at ge143_8; rw [hvc_] at ul143_8; have HL143_8 := A0_ (show Kd.V (Kd.int .u8) 5 _ w.heap.size _ _ ((rd_T42 t137 0).f5) from Kd.V_mk ul143_8 ge143_8); clear hva_ hvn_ hvc_ ge143_8 ul143_8; clear hcc143 hce143; have qi143 : (0 < t137.length) = True := eq_true (by omega); (try rw [show ((0 : Int)).toNat = 0 from rfl] at hx143_0); (try rw [show 0 * 9 = 0 from rfl] at hx143_0); (try rw [Addr.add_zero'] at hx143_0); (try rw [show ((0 : Int)).toNat = 0 from rfl] at hx143_1); (try rw [show 0 * 9 = 0 from rfl] at hx143_1); (try rw [Addr.add_zero'] at hx143_1); (try rw [show ((0 : Int)).toNat = 0 from rfl] at hx143_2); (try rw [show 0 * 9 = 0 from rfl] at hx143_2); (try rw [Addr.add_zero'] at hx143_2); (try rw [show ((0 : Int)).toNat = 0 from rfl] at hx143_3); (try rw [show 0 * 9 = 0 from rfl] at hx143_3); (try rw [Addr.add_zero'] at hx143_3); (try rw [show ((0 : Int)).toNat = 0 from rfl] at hx143_4); (try rw [show 0 * 9 = 0 from rfl] at hx143_4); (try rw [Addr.add_zero'] at hx143_4); (try rw [show ((0 : Int)).toNat = 0 from rfl] at hx143_5); (try rw [show 0 * 9 = 0 from rfl] at hx143_5); (try rw [Addr.add_zero'] at hx143_5); (try rw [show ((0 : Int)).toNat = 0 from rfl] at hx143_6); (try rw [show 0 * 9 = 0 from rfl] at hx143_6); (try rw [Addr.add_zero'] at hx143_6); (try rw [show ((0 : Int)).toNat = 0 from rfl] at hx143_7); (try rw [show 0 * 9 = 0 from rfl] at hx143_7); (try rw [Addr.add_zero'] at hx143_7); (try rw [show ((0 : Int)).toNat = 0 from rfl] at hx143_8); (try rw [show 0 * 9 = 0 from rfl] at hx143_8); (try rw [Addr.add_zero'] at hx143_8); have HR143_8 := A0_ hi143_8; have HC143_8 := A0_ hl143_8; clear hi143_8 hl143_8; replace p143 := eq_true p143; replace q143 := eq_true q143))
 go_ret
 exact ⟨we_, wb_ HB.out⟩
end Go.Proofs.YtbngbefchobfnaaGreatDoor.Print

namespace Go.Proofs.YtbngbefchobfnaaGreatDoor.Print
open Go.RowKit Go.Proofs.YtbngbefchobfnaaGreatDoorW.PrintWords Go.Proofs.YtbngbefchobfnaaGreatDoorW.PrintLast Go.Proofs.YtbngbefchobfnaaGreatDoorW.PrintMore
attribute [local go_sem] max2_int min2_int max_two min_two max_three min_three max_four min_four   -- for this text's walks alone
set_option linter.unusedVariables false
set_option linter.unusedSimpArgs false
def bindlelaw21_good.f (k : Nat) (l0 : List (S42)) (l1 : List (S42)) (l2 : List (S42)) : Option (Bool) := (bindlelaw21_light.f k (([l0, l1, l2] : List (List (S42))))).bind fun t147 => (if t147 = true then ((bindleref08_GoodTree.f l0).bind fun t148 => (if t148 = true then ((bindleref08_GoodTree.f l1).bind fun t149 => (if t149 = true then ((bindleref08_GoodTree.f l2).bind fun t150 => (some t150)) else (some false))) else (some false))) else (some false))
set_option maxHeartbeats 8000000 in
set_option maxRecDepth 100000 in
theorem bindlelaw21_good.calls (k : Nat) (P0_ : Nat → Prop) (A0 : Option Addr) (c0 : Nat) (l0 : List (S42)) (P1_ : Nat → Prop) (A1 : Option Addr) (c1 : Nat) (l1 : List (S42)) (P2_ : Nat → Prop) (A2 : Option Addr) (c2 : Nat) (l2 : List (S42)) (r : Bool) (w : World) (hs0 : Kd.V k42 42 w w.heap.size (fun k_ => P0_ k_) (.slice A0 l0.length c0) l0) (hs1 : Kd.V k42 42 w w.heap.size (fun k_ => P1_ k_) (.slice A1 l1.length c1) l1) (hs2 : Kd.V k42 42 w w.heap.size (fun k_ => P2_ k_) (.slice A2 l2.length c2) l2) (h : bindlelaw21_good.f k l0 l1 l2 = some r) :
  Calls Tryz.prog 12 #[.slice A0 l0.length c0, .slice A1 l1.length c1, .slice A2 l2.length c2] w fun e w' => e = .returned (.bool r) ∧ Below w.heap.size w w' := by
 have HO0 := A0_ (show Kd.V k42 42 w w.heap.size (fun k_ => ((P0_ k_ ∨ P1_ k_ ∨ P2_ k_) ∨ w.heap.size ≤ k_)) (.slice A0 l0.length c0) l0 from Kd.V_mono hs0 (fun k_ hk => .inl (.inl hk)))
 have HO1 := A0_ (show Kd.V k42 42 w w.heap.size (fun k_ => ((P0_ k_ ∨ P1_ k_ ∨ P2_ k_) ∨ w.heap.size ≤ k_)) (.slice A1 l1.length c1) l1 from Kd.V_mono hs1 (fun k_ hk => .inl (.inr (.inl hk))))
 have HO2 := A0_ (show Kd.V k42 42 w w.heap.size (fun k_ => ((P0_ k_ ∨ P1_ k_ ∨ P2_ k_) ∨ w.heap.size ≤ k_)) (.slice A2 l2.length c2) l2 from Kd.V_mono hs2 (fun k_ hk => .inl (.inr (.inr hk))))
 have HB := A0_ (Below.refl w.heap.size w)
 have H : ((bindlelaw21_light.f k (([l0, l1, l2] : List (List (S42))))).bind fun t147 => (if t147 = true then ((bindleref08_GoodTree.f l0).bind fun t148 => (if t148 = true then ((bindleref08_GoodTree.f l1).bind fun t149 => (if t149 = true then ((bindleref08_GoodTree.f l2).bind fun t150 => (some t150)) else (some false))) else (some false))) else (some false))) = some r := h
 clear h
 obtain ⟨y144, hy144⟩ : ∃ y_ : List (List (S42)), y_ = (([l0, l1, l2] : List (List (S42)))) := ⟨_, rfl⟩
 replace H : ((bindlelaw21_light.f k y144).bind fun t147 => (if t147 = true then ((bindleref08_GoodTree.f l0).bind fun t148 => (if t148 = true then ((bindleref08_GoodTree.f l1).bind fun t149 => (if t149 = true then ((bindleref08_GoodTree.f l2).bind fun t150 => (some t150)) else (some false))) else (some false))) else (some false))) = some r := by first | (rw [hy144]; with_reducible exact H) | (have H2_ := (Option.bind_some _ _).symm.trans H; rw [hy144]; with_reducible exact H2_) | (have H2_ := (Option.bind_some _ _).symm.trans H; with_reducible exact H2_) | with_reducible exact H | (rw [hy144]; exact H) | exact H
 have Ny144 := A0_ hy144
 clear hy144
 replace H := Option.bind_eq_some_iff.mp H
 obtain ⟨t147, A40, H⟩ := H
 replace H : (if t147 = true then ((bindleref08_GoodTree.f l0).bind fun t148 => (if t148 = true then ((bindleref08_GoodTree.f l1).bind fun t149 => (if t149 = true then ((bindleref08_GoodTree.f l2).bind fun t150 => (some t150)) else (some false))) else (some false))) else (some false)) = some r := H
 have A4 := A0_ A40
 clear A40
 by_cases c5 : t147 = true
 rotate_left
 ·replace c5 := Bool.eq_false_iff.mpr c5
  subst c5
  have H1 : (some false) = some r := by rw [if_neg (show ¬ (false = true) by decide)] at H; exact H
  clear H
  have H := H1
  clear H1
  obtain rfl := Option.some.inj H
  go_enter Tryz.func12, Tryz.ntmps12
  go_wp2_with (first | ((with_reducible refine gate_dst (N := 10) rfl ?_); refine Kd.N_lit (Kd.slice 42 k42) _ 22 ?hg (N' := 10) ?hd (xs := ([l0, l1, l2] : List (List (S42)))) (inner := [.slice A0 l0.length c0, .slice A1 l1.length c1, .slice A2 l2.length c2]) (ok := (fun k_ => ((P0_ k_ ∨ P1_ k_ ∨ P2_ k_) ∨ w.heap.size ≤ k_))) (okp := (fun k_ => ((P0_ k_ ∨ P1_ k_ ∨ P2_ k_) ∨ w.heap.size ≤ k_))) ?hr ?hp (fun _ hk => hk) ((show ∀ k_, w.heap.size ≤ k_ → (fun k_ => ((P0_ k_ ∨ P1_ k_ ∨ P2_ k_) ∨ w.heap.size ≤ k_)) k_ from fun k_ hk => (.inr (Nat.le_trans (below_size (wb_ HB.out)) hk))) _ (Nat.le_refl _)) (Below.refl _ _) (Nat.le_refl _) (by simp) ?_; (case hd => rfl); (case hg => rfl); (case hr => first | (go_simp; done) | (go_simp; rfl)); (case hp => exact (Reps.one (show Kd.FK (Kd.slice 42 k42) _ _ l0 [.slice A0 l0.length c0] from (Kd.FK_slice_mk (Kd.V_reads' (Kd.V_mono (ok' := (fun k_ => ((P0_ k_ ∨ P1_ k_ ∨ P2_ k_) ∨ w.heap.size ≤ k_))) (HO0.out) (fun k_ hk => hk))).2.1 (Kd.V_F (Kd.V_mono (ok' := (fun k_ => ((P0_ k_ ∨ P1_ k_ ∨ P2_ k_) ∨ w.heap.size ≤ k_))) (HO0.out) (fun k_ hk => hk))))) (Reps.one (show Kd.FK (Kd.slice 42 k42) _ _ l1 [.slice A1 l1.length c1] from (Kd.FK_slice_mk (Kd.V_reads' (Kd.V_mono (ok' := (fun k_ => ((P0_ k_ ∨ P1_ k_ ∨ P2_ k_) ∨ w.heap.size ≤ k_))) (HO1.out) (fun k_ hk => hk))).2.1 (Kd.V_F (Kd.V_mono (ok' := (fun k_ => ((P0_ k_ ∨ P1_ k_ ∨ P2_ k_) ∨ w.heap.size ≤ k_))) (HO1.out) (fun k_ hk => hk))))) (Reps.one (show Kd.FK (Kd.slice 42 k42) _ _ l2 [.slice A2 l2.length c2] from (Kd.FK_slice_mk (Kd.V_reads' (Kd.V_mono (ok' := (fun k_ => ((P0_ k_ ∨ P1_ k_ ∨ P2_ k_) ∨ w.heap.size ≤ k_))) (HO2.out) (fun k_ hk => hk))).2.1 (Kd.V_F (Kd.V_mono (ok' := (fun k_ => ((P0_ k_ ∨ P1_ k_ ∨ P2_ k_) ∨ w.heap.size ≤ k_))) (HO2.out) (fun k_ hk => hk))))) (Reps.none _ _))))); intro v145 w26 ho27 hb hg_ hnew_; clear hg_ hnew_; (first | rw [← Ny144.out] at ho27 | (simp only [Int.reduceToNat] at ho27; rw [← Ny144.out] at ho27)); have n0_ := A0_ (Kd.V_elder' (wV_ HO0.out) (Kd.N_base ho27) hb); have n1_ := A0_ (Kd.V_elder' (wV_ HO1.out) (Kd.N_base ho27) hb); have n2_ := A0_ (Kd.V_elder' (wV_ HO2.out) (Kd.N_base ho27) hb); have n3_ := A0_ (Kd.N_lower ho27 (below_size (wb_ HB.out))); have n4_ := A0_ (below_step (wb_ HB.out) hb); clear HO0; clear HO1; clear HO2; clear HB; have HO0 := n0_; have HO1 := n1_; have HO2 := n2_; have HO146 := n3_; have HB := n4_; clear n0_ n1_ n2_ n3_ n4_; clear hb ho27; obtain ⟨Ao28, co28, eo28⟩ := Kd.N_slice HO146.out; subst eo28) | ((with_reducible refine gate_callee (f := 9) rfl ?_); refine goesL_ (some 11) rfl rfl Tryz.func9 (by kernel_rfl) rfl #[.slice Ao28 y144.length co28] rfl wm_ ?_; (with_reducible refine (bindlelaw21_light.calls k _ _ y144 false _ ?side1 ?side2 A4.out).mono ?_); (case side1 => exact wc_ (Kd.N_reads' HO146.out).2.2); (case side2 => exact (Kd.N_reads' HO146.out).2.1); rintro e w' ⟨rfl, ⟨nd, rfl⟩⟩; refine ⟨_, rfl, ?_⟩))
  go_ret
  exact ⟨we_, wb_ HB.out⟩
 subst c5
 have H1 : ((bindleref08_GoodTree.f l0).bind fun t148 => (if t148 = true then ((bindleref08_GoodTree.f l1).bind fun t149 => (if t149 = true then ((bindleref08_GoodTree.f l2).bind fun t150 => (some t150)) else (some false))) else (some false))) = some r := by rw [if_pos rfl] at H; exact H
 clear H
 have H := H1
 clear H1
 replace H := Option.bind_eq_some_iff.mp H
 obtain ⟨t148, A60, H⟩ := H
 replace H : (if t148 = true then ((bindleref08_GoodTree.f l1).bind fun t149 => (if t149 = true then ((bindleref08_GoodTree.f l2).bind fun t150 => (some t150)) else (some false))) else (some false)) = some r := H
 have A6 := A0_ A60
 clear A60
 by_cases c7 : t148 = true
 rotate_left
 ·replace c7 := Bool.eq_false_iff.mpr c7
  subst c7
  have H1 : (some false) = some r := by rw [if_neg (show ¬ (false = true) by decide)] at H; exact H
  clear H
  have H := H1
  clear H1
  obtain rfl := Option.some.inj H
  go_enter Tryz.func12, Tryz.ntmps12
  go_wp2_with (first | ((with_reducible refine gate_dst (N := 10) rfl ?_); refine Kd.N_lit (Kd.slice 42 k42) _ 22 ?hg (N' := 10) ?hd (xs := ([l0, l1, l2] : List (List (S42)))) (inner := [.slice A0 l0.length c0, .slice A1 l1.length c1, .slice A2 l2.length c2]) (ok := (fun k_ => ((P0_ k_ ∨ P1_ k_ ∨ P2_ k_) ∨ w.heap.size ≤ k_))) (okp := (fun k_ => ((P0_ k_ ∨ P1_ k_ ∨ P2_ k_) ∨ w.heap.size ≤ k_))) ?hr ?hp (fun _ hk => hk) ((show ∀ k_, w.heap.size ≤ k_ → (fun k_ => ((P0_ k_ ∨ P1_ k_ ∨ P2_ k_) ∨ w.heap.size ≤ k_)) k_ from fun k_ hk => (.inr (Nat.le_trans (below_size (wb_ HB.out)) hk))) _ (Nat.le_refl _)) (Below.refl _ _) (Nat.le_refl _) (by simp) ?_; (case hd => rfl); (case hg => rfl); (case hr => first | (go_simp; done) | (go_simp; rfl)); (case hp => exact (Reps.one (show Kd.FK (Kd.slice 42 k42) _ _ l0 [.slice A0 l0.length c0] from (Kd.FK_slice_mk (Kd.V_reads' (Kd.V_mono (ok' := (fun k_ => ((P0_ k_ ∨ P1_ k_ ∨ P2_ k_) ∨ w.heap.size ≤ k_))) (HO0.out) (fun k_ hk => hk))).2.1 (Kd.V_F (Kd.V_mono (ok' := (fun k_ => ((P0_ k_ ∨ P1_ k_ ∨ P2_ k_) ∨ w.heap.size ≤ k_))) (HO0.out) (fun k_ hk => hk))))) (Reps.one (show Kd.FK (Kd.slice 42 k42) _ _ l1 [.slice A1 l1.length c1] from (Kd.FK_slice_mk (Kd.V_reads' (Kd.V_mono (ok' := (fun k_ => ((P0_ k_ ∨ P1_ k_ ∨ P2_ k_) ∨ w.heap.size ≤ k_))) (HO1.out) (fun k_ hk => hk))).2.1 (Kd.V_F (Kd.V_mono (ok' := (fun k_ => ((P0_ k_ ∨ P1_ k_ ∨ P2_ k_) ∨ w.heap.size ≤ k_))) (HO1.out) (fun k_ hk => hk))))) (Reps.one (show Kd.FK (Kd.slice 42 k42) _ _ l2 [.slice A2 l2.length c2] from (Kd.FK_slice_mk (Kd.V_reads' (Kd.V_mono (ok' := (fun k_ => ((P0_ k_ ∨ P1_ k_ ∨ P2_ k_) ∨ w.heap.size ≤ k_))) (HO2.out) (fun k_ hk => hk))).2.1 (Kd.V_F (Kd.V_mono (ok' := (fun k_ => ((P0_ k_ ∨ P1_ k_ ∨ P2_ k_) ∨ w.heap.size ≤ k_))) (HO2.out) (fun k_ hk => hk))))) (Reps.none _ _))))); intro v145 w22 ho23 hb hg_ hnew_; clear hg_ hnew_; (first | rw [← Ny144.out] at ho23 | (simp only [Int.reduceToNat] at ho23; rw [← Ny144.out] at ho23)); have n0_ := A0_ (Kd.V_elder' (wV_ HO0.out) (Kd.N_base ho23) hb); have n1_ := A0_ (Kd.V_elder' (wV_ HO1.out) (Kd.N_base ho23) hb); have n2_ := A0_ (Kd.V_elder' (wV_ HO2.out) (Kd.N_base ho23) hb); have n3_ := A0_ (Kd.N_lower ho23 (below_size (wb_ HB.out))); have n4_ := A0_ (below_step (wb_ HB.out) hb); clear HO0; clear HO1; clear HO2; clear HB; have HO0 := n0_; have HO1 := n1_; have HO2 := n2_; have HO146 := n3_; have HB := n4_; clear n0_ n1_ n2_ n3_ n4_; clear hb ho23; obtain ⟨Ao24, co24, eo24⟩ := Kd.N_slice HO146.out; subst eo24) | ((with_reducible refine gate_callee (f := 9) rfl ?_); refine goesL_ (some 11) rfl rfl Tryz.func9 (by kernel_rfl) rfl #[.slice Ao24 y144.length co24] rfl wm_ ?_; (with_reducible refine (bindlelaw21_light.calls k _ _ y144 true _ ?side1 ?side2 A4.out).mono ?_); (case side1 => exact wc_ (Kd.N_reads' HO146.out).2.2); (case side2 => exact (Kd.N_reads' HO146.out).2.1); rintro e w' ⟨rfl, ⟨nd, rfl⟩⟩; refine ⟨_, rfl, ?_⟩) | (go_at_call 18; (with_reducible refine (bindleref08_GoodTree.calls _ _ l0 false _ ?side1 ?side2 A6.out).mono ?_); (case side1 => exact wc_ (Kd.V_reads' HO0.out).2.2); (case side2 => exact (Kd.V_reads' HO0.out).2.1); rintro e w25 ⟨rfl, hb⟩; have n0_ := A0_ (Vb_ (wV_ HO0.out) hb); have n1_ := A0_ (Vb_ (wV_ HO1.out) hb); have n2_ := A0_ (Vb_ (wV_ HO2.out) hb); have n3_ := A0_ (Kd.N_below (wN_ HO146.out) hb); have n4_ := A0_ (below_step (wb_ HB.out) hb); clear HO0; clear HO1; clear HO2; clear HO146; clear HB; have HO0 := n0_; have HO1 := n1_; have HO2 := n2_; have HO146 := n3_; have HB := n4_; clear n0_ n1_ n2_ n3_ n4_; (try clear hb); (try clear hb2); (try clear hk); (try clear hi)))
  go_ret
  exact ⟨we_, wb_ HB.out⟩
 subst c7
 have H1 : ((bindleref08_GoodTree.f l1).bind fun t149 => (if t149 = true then ((bindleref08_GoodTree.f l2).bind fun t150 => (some t150)) else (some false))) = some r := by rw [if_pos rfl] at H; exact H
 clear H
 have H := H1
 clear H1
 replace H := Option.bind_eq_some_iff.mp H
 obtain ⟨t149, A80, H⟩ := H
 replace H : (if t149 = true then ((bindleref08_GoodTree.f l2).bind fun t150 => (some t150)) else (some false)) = some r := H
 have A8 := A0_ A80
 clear A80
 by_cases c9 : t149 = true
 rotate_left
 ·replace c9 := Bool.eq_false_iff.mpr c9
  subst c9
  have H1 : (some false) = some r := by rw [if_neg (show ¬ (false = true) by decide)] at H; exact H
  clear H
  have H := H1
  clear H1
  obtain rfl := Option.some.inj H
  go_enter Tryz.func12, Tryz.ntmps12
  go_wp2_with (first | ((with_reducible refine gate_dst (N := 10) rfl ?_); refine Kd.N_lit (Kd.slice 42 k42) _ 22 ?hg (N' := 10) ?hd (xs := ([l0, l1, l2] : List (List (S42)))) (inner := [.slice A0 l0.length c0, .slice A1 l1.length c1, .slice A2 l2.length c2]) (ok := (fun k_ => ((P0_ k_ ∨ P1_ k_ ∨ P2_ k_) ∨ w.heap.size ≤ k_))) (okp := (fun k_ => ((P0_ k_ ∨ P1_ k_ ∨ P2_ k_) ∨ w.heap.size ≤ k_))) ?hr ?hp (fun _ hk => hk) ((show ∀ k_, w.heap.size ≤ k_ → (fun k_ => ((P0_ k_ ∨ P1_ k_ ∨ P2_ k_) ∨ w.heap.size ≤ k_)) k_ from fun k_ hk => (.inr (Nat.le_trans (below_size (wb_ HB.out)) hk))) _ (Nat.le_refl _)) (Below.refl _ _) (Nat.le_refl _) (by simp) ?_; (case hd => rfl); (case hg => rfl); (case hr => first | (go_simp; done) | (go_simp; rfl)); (case hp => exact (Reps.one (show Kd.FK (Kd.slice 42 k42) _ _ l0 [.slice A0 l0.length c0] from (Kd.FK_slice_mk (Kd.V_reads' (Kd.V_mono (ok' := (fun k_ => ((P0_ k_ ∨ P1_ k_ ∨ P2_ k_) ∨ w.heap.size ≤ k_))) (HO0.out) (fun k_ hk => hk))).2.1 (Kd.V_F (Kd.V_mono (ok' := (fun k_ => ((P0_ k_ ∨ P1_ k_ ∨ P2_ k_) ∨ w.heap.size ≤ k_))) (HO0.out) (fun k_ hk => hk))))) (Reps.one (show Kd.FK (Kd.slice 42 k42) _ _ l1 [.slice A1 l1.length c1] from (Kd.FK_slice_mk (Kd.V_reads' (Kd.V_mono (ok' := (fun k_ => ((P0_ k_ ∨ P1_ k_ ∨ P2_ k_) ∨ w.heap.size ≤ k_))) (HO1.out) (fun k_ hk => hk))).2.1 (Kd.V_F (Kd.V_mono (ok' := (fun k_ => ((P0_ k_ ∨ P1_ k_ ∨ P2_ k_) ∨ w.heap.size ≤ k_))) (HO1.out) (fun k_ hk => hk))))) (Reps.one (show Kd.FK (Kd.slice 42 k42) _ _ l2 [.slice A2 l2.length c2] from (Kd.FK_slice_mk (Kd.V_reads' (Kd.V_mono (ok' := (fun k_ => ((P0_ k_ ∨ P1_ k_ ∨ P2_ k_) ∨ w.heap.size ≤ k_))) (HO2.out) (fun k_ hk => hk))).2.1 (Kd.V_F (Kd.V_mono (ok' := (fun k_ => ((P0_ k_ ∨ P1_ k_ ∨ P2_ k_) ∨ w.heap.size ≤ k_))) (HO2.out) (fun k_ hk => hk))))) (Reps.none _ _))))); intro v145 w17 ho18 hb hg_ hnew_; clear hg_ hnew_; (first | rw [← Ny144.out] at ho18 | (simp only [Int.reduceToNat] at ho18; rw [← Ny144.out] at ho18)); have n0_ := A0_ (Kd.V_elder' (wV_ HO0.out) (Kd.N_base ho18) hb); have n1_ := A0_ (Kd.V_elder' (wV_ HO1.out) (Kd.N_base ho18) hb); have n2_ := A0_ (Kd.V_elder' (wV_ HO2.out) (Kd.N_base ho18) hb); have n3_ := A0_ (Kd.N_lower ho18 (below_size (wb_ HB.out))); have n4_ := A0_ (below_step (wb_ HB.out) hb); clear HO0; clear HO1; clear HO2; clear HB; have HO0 := n0_; have HO1 := n1_; have HO2 := n2_; have HO146 := n3_; have HB := n4_; clear n0_ n1_ n2_ n3_ n4_; clear hb ho18; obtain ⟨Ao19, co19, eo19⟩ := Kd.N_slice HO146.out; subst eo19) | ((with_reducible refine gate_callee (f := 9) rfl ?_); refine goesL_ (some 11) rfl rfl Tryz.func9 (by kernel_rfl) rfl #[.slice Ao19 y144.length co19] rfl wm_ ?_; (with_reducible refine (bindlelaw21_light.calls k _ _ y144 true _ ?side1 ?side2 A4.out).mono ?_); (case side1 => exact wc_ (Kd.N_reads' HO146.out).2.2); (case side2 => exact (Kd.N_reads' HO146.out).2.1); rintro e w' ⟨rfl, ⟨nd, rfl⟩⟩; refine ⟨_, rfl, ?_⟩) | (go_at_call 18; (with_reducible refine (bindleref08_GoodTree.calls _ _ l0 true _ ?side1 ?side2 A6.out).mono ?_); (case side1 => exact wc_ (Kd.V_reads' HO0.out).2.2); (case side2 => exact (Kd.V_reads' HO0.out).2.1); rintro e w20 ⟨rfl, hb⟩; have n0_ := A0_ (Vb_ (wV_ HO0.out) hb); have n1_ := A0_ (Vb_ (wV_ HO1.out) hb); have n2_ := A0_ (Vb_ (wV_ HO2.out) hb); have n3_ := A0_ (Kd.N_below (wN_ HO146.out) hb); have n4_ := A0_ (below_step (wb_ HB.out) hb); clear HO0; clear HO1; clear HO2; clear HO146; clear HB; have HO0 := n0_; have HO1 := n1_; have HO2 := n2_; have HO146 := n3_; have HB := n4_; clear n0_ n1_ n2_ n3_ n4_; (try clear hb); (try clear hb2); (try clear hk); (try clear hi)) | (go_at_call 18; (with_reducible refine (bindleref08_GoodTree.calls _ _ l1 false _ ?side1 ?side2 A8.out).mono ?_); (case side1 => exact wc_ (Kd.V_reads' HO1.out).2.2); (case side2 => exact (Kd.V_reads' HO1.out).2.1); rintro e w21 ⟨rfl, hb⟩; have n0_ := A0_ (Vb_ (wV_ HO0.out) hb); have n1_ := A0_ (Vb_ (wV_ HO1.out) hb); have n2_ := A0_ (Vb_ (wV_ HO2.out) hb); have n3_ := A0_ (Kd.N_below (wN_ HO146.out) hb); have n4_ := A0_ (below_step (wb_ HB.out) hb); clear HO0; clear HO1; clear HO2; clear HO146; clear HB; have HO0 := n0_; have HO1 := n1_; have HO2 := n2_; have HO146 := n3_; have HB := n4_; clear n0_ n1_ n2_ n3_ n4_; (try clear hb); (try clear hb2); (try clear hk); (try clear hi)))
  go_ret
  exact ⟨we_, wb_ HB.out⟩
 subst c9
 have H1 : ((bindleref08_GoodTree.f l2).bind fun t150 => (some t150)) = some r := by rw [if_pos rfl] at H; exact H
 clear H
 have H := H1
 clear H1
 replace H := Option.bind_eq_some_iff.mp H
 obtain ⟨t150, A100, H⟩ := H
 replace H : (some t150) = some r := H
 have A10 := A0_ A100
 clear A100
 obtain rfl := Option.some.inj H
 go_enter Tryz.func12, Tryz.ntmps12
 go_wp2_with (first | ((with_reducible refine gate_dst (N := 10) rfl ?_); refine Kd.N_lit (Kd.slice 42 k42) _ 22 ?hg (N' := 10) ?hd (xs := ([l0, l1, l2] : List (List (S42)))) (inner := [.slice A0 l0.length c0, .slice A1 l1.length c1, .slice A2 l2.length c2]) (ok := (fun k_ => ((P0_ k_ ∨ P1_ k_ ∨ P2_ k_) ∨ w.heap.size ≤ k_))) (okp := (fun k_ => ((P0_ k_ ∨ P1_ k_ ∨ P2_ k_) ∨ w.heap.size ≤ k_))) ?hr ?hp (fun _ hk => hk) ((show ∀ k_, w.heap.size ≤ k_ → (fun k_ => ((P0_ k_ ∨ P1_ k_ ∨ P2_ k_) ∨ w.heap.size ≤ k_)) k_ from fun k_ hk => (.inr (Nat.le_trans (below_size (wb_ HB.out)) hk))) _ (Nat.le_refl _)) (Below.refl _ _) (Nat.le_refl _) (by simp) ?_; (case hd => rfl); (case hg => rfl); (case hr => first | (go_simp; done) | (go_simp; rfl)); (case hp => exact (Reps.one (show Kd.FK (Kd.slice 42 k42) _ _ l0 [.slice A0 l0.length c0] from (Kd.FK_slice_mk (Kd.V_reads' (Kd.V_mono (ok' := (fun k_ => ((P0_ k_ ∨ P1_ k_ ∨ P2_ k_) ∨ w.heap.size ≤ k_))) (HO0.out) (fun k_ hk => hk))).2.1 (Kd.V_F (Kd.V_mono (ok' := (fun k_ => ((P0_ k_ ∨ P1_ k_ ∨ P2_ k_) ∨ w.heap.size ≤ k_))) (HO0.out) (fun k_ hk => hk))))) (Reps.one (show Kd.FK (Kd.slice 42 k42) _ _ l1 [.slice A1 l1.length c1] from (Kd.FK_slice_mk (Kd.V_reads' (Kd.V_mono (ok' := (fun k_ => ((P0_ k_ ∨ P1_ k_ ∨ P2_ k_) ∨ w.heap.size ≤ k_))) (HO1.out) (fun k_ hk => hk))).2.1 (Kd.V_F (Kd.V_mono (ok' := (fun k_ => ((P0_ k_ ∨ P1_ k_ ∨ P2_ k_) ∨ w.heap.size ≤ k_))) (HO1.out) (fun k_ hk => hk))))) (Reps.one (show Kd.FK (Kd.slice 42 k42) _ _ l2 [.slice A2 l2.length c2] from (Kd.FK_slice_mk (Kd.V_reads' (Kd.V_mono (ok' := (fun k_ => ((P0_ k_ ∨ P1_ k_ ∨ P2_ k_) ∨ w.heap.size ≤ k_))) (HO2.out) (fun k_ hk => hk))).2.1 (Kd.V_F (Kd.V_mono (ok' := (fun k_ => ((P0_ k_ ∨ P1_ k_ ∨ P2_ k_) ∨ w.heap.size ≤ k_))) (HO2.out) (fun k_ hk => hk))))) (Reps.none _ _))))); intro v145 w11 ho12 hb hg_ hnew_; clear hg_ hnew_; (first | rw [← Ny144.out] at ho12 | (simp only [Int.reduceToNat] at ho12; rw [← Ny144.out] at ho12)); have n0_ := A0_ (Kd.V_elder' (wV_ HO0.out) (Kd.N_base ho12) hb); have n1_ := A0_ (Kd.V_elder' (wV_ HO1.out) (Kd.N_base ho12) hb); have n2_ := A0_ (Kd.V_elder' (wV_ HO2.out) (Kd.N_base ho12) hb); have n3_ := A0_ (Kd.N_lower ho12 (below_size (wb_ HB.out))); have n4_ := A0_ (below_step (wb_ HB.out) hb); clear HO0; clear HO1; clear HO2; clear HB; have HO0 := n0_; have HO1 := n1_; have HO2 := n2_; have HO146 := n3_; have HB := n4_; clear n0_ n1_ n2_ n3_ n4_; clear hb ho12; obtain ⟨Ao13, co13, eo13⟩ := Kd.N_slice HO146.out; subst eo13) | ((with_reducible refine gate_callee (f := 9) rfl ?_); refine goesL_ (some 11) rfl rfl Tryz.func9 (by kernel_rfl) rfl #[.slice Ao13 y144.length co13] rfl wm_ ?_; (with_reducible refine (bindlelaw21_light.calls k _ _ y144 true _ ?side1 ?side2 A4.out).mono ?_); (case side1 => exact wc_ (Kd.N_reads' HO146.out).2.2); (case side2 => exact (Kd.N_reads' HO146.out).2.1); rintro e w' ⟨rfl, ⟨nd, rfl⟩⟩; refine ⟨_, rfl, ?_⟩) | (go_at_call 18; (with_reducible refine (bindleref08_GoodTree.calls _ _ l0 true _ ?side1 ?side2 A6.out).mono ?_); (case side1 => exact wc_ (Kd.V_reads' HO0.out).2.2); (case side2 => exact (Kd.V_reads' HO0.out).2.1); rintro e w14 ⟨rfl, hb⟩; have n0_ := A0_ (Vb_ (wV_ HO0.out) hb); have n1_ := A0_ (Vb_ (wV_ HO1.out) hb); have n2_ := A0_ (Vb_ (wV_ HO2.out) hb); have n3_ := A0_ (Kd.N_below (wN_ HO146.out) hb); have n4_ := A0_ (below_step (wb_ HB.out) hb); clear HO0; clear HO1; clear HO2; clear HO146; clear HB; have HO0 := n0_; have HO1 := n1_; have HO2 := n2_; have HO146 := n3_; have HB := n4_; clear n0_ n1_ n2_ n3_ n4_; (try clear hb); (try clear hb2); (try clear hk); (try clear hi)) | (go_at_call 18; (with_reducible refine (bindleref08_GoodTree.calls _ _ l1 true _ ?side1 ?side2 A8.out).mono ?_); (case side1 => exact wc_ (Kd.V_reads' HO1.out).2.2); (case side2 => exact (Kd.V_reads' HO1.out).2.1); rintro e w15 ⟨rfl, hb⟩; have n0_ := A0_ (Vb_ (wV_ HO0.out) hb); have n1_ := A0_ (Vb_ (wV_ HO1.out) hb); have n2_ := A0_ (Vb_ (wV_ HO2.out) hb); have n3_ := A0_ (Kd.N_below (wN_ HO146.out) hb); have n4_ := A0_ (below_step (wb_ HB.out) hb); clear HO0; clear HO1; clear HO2; clear HO146; clear HB; have HO0 := n0_; have HO1 := n1_; have HO2 := n2_; have HO146 := n3_; have HB := n4_; clear n0_ n1_ n2_ n3_ n4_; (try clear hb); (try clear hb2); (try clear hk); (try clear hi)) | (go_at_call 18; (with_reducible refine (bindleref08_GoodTree.calls _ _ l2 t150 _ ?side1 ?side2 A10.out).mono ?_); (case side1 => exact wc_ (Kd.V_reads' HO2.out).2.2); (case side2 => exact (Kd.V_reads' HO2.out).2.1); rintro e w16 ⟨rfl, hb⟩; have n0_ := A0_ (Vb_ (wV_ HO0.out) hb); have n1_ := A0_ (Vb_ (wV_ HO1.out) hb); have n2_ := A0_ (Vb_ (wV_ HO2.out) hb); have n3_ := A0_ (Kd.N_below (wN_ HO146.out) hb); have n4_ := A0_ (below_step (wb_ HB.out) hb); clear HO0; clear HO1; clear HO2; clear HO146; clear HB; have HO0 := n0_; have HO1 := n1_; have HO2 := n2_; have HO146 := n3_; have HB := n4_; clear n0_ n1_ n2_ n3_ n4_; (try clear hb); (try clear hb2); (try clear hk); (try clear hi)))
 go_ret
 exact ⟨we_, wb_ HB.out⟩
end Go.Proofs.YtbngbefchobfnaaGreatDoor.Print

namespace Go.Proofs.YtbngbefchobfnaaGreatDoor.Print
open Go.RowKit Go.Proofs.YtbngbefchobfnaaGreatDoorW.PrintWords Go.Proofs.YtbngbefchobfnaaGreatDoorW.PrintLast Go.Proofs.YtbngbefchobfnaaGreatDoorW.PrintMore
attribute [local go_sem] max2_int min2_int max_two min_two max_three min_three max_four min_four   -- for this text's walks alone
set_option linter.unusedVariables false
set_option linter.unusedSimpArgs false
end Go.Proofs.YtbngbefchobfnaaGreatDoor.Print

namespace Go.Proofs.YtbngbefchobfnaaGreatDoor.Print
open Go.RowKit Go.Proofs.YtbngbefchobfnaaGreatDoorW.PrintWords Go.Proofs.YtbngbefchobfnaaGreatDoorW.PrintLast Go.Proofs.YtbngbefchobfnaaGreatDoorW.PrintMore
attribute [local go_sem] max2_int min2_int max_two min_two max_three min_three max_four min_four   -- for this text's walks alone
set_option linter.unusedVariables false
set_option linter.unusedSimpArgs false
end Go.Proofs.YtbngbefchobfnaaGreatDoor.Print

namespace Go.Proofs.YtbngbefchobfnaaGreatDoor.Print
open Go.RowKit Go.Proofs.YtbngbefchobfnaaGreatDoorW.PrintWords Go.Proofs.YtbngbefchobfnaaGreatDoorW.PrintLast Go.Proofs.YtbngbefchobfnaaGreatDoorW.PrintMore
attribute [local go_sem] max2_int min2_int max_two min_two max_three min_three max_four min_four   -- for this text's walks alone
set_option linter.unusedVariables false
set_option linter.unusedSimpArgs false
end Go.Proofs.YtbngbefchobfnaaGreatDoor.Print

namespace Go.Proofs.YtbngbefchobfnaaGreatDoor
open Go.RowKit Go.Proofs.YtbngbefchobfnaaGreatDoor.Print Go.Proofs.YtbngbefchobfnaaGreatDoorW.PrintWords
set_option linter.unusedVariables false
theorem mokl_z {ls : List (List Node)} (h : OkL ls) (hz : ∀ t ∈ ls, ∀ x ∈ t, NodeZ x) : ∀ t ∈ ls, TreeZ t ∧ t.length ≤ 60 := fun t ht => by
 obtain ⟨h1, h2⟩ := h t ht
 refine ⟨treeZ_of (by omega) (fun x hx => ?_), h1⟩
 have h3 := h2 x hx
 have h4 : szN x = x.f5.length + x.f0.size + x.f1.size := rfl
 exact ⟨hz t ht x hx, by omega, by omega⟩
theorem mgood_f {l : List Node} (h : TreeZ l) : bindleref08_GoodTree.f l = some (goodTree l) := by
 unfold bindleref08_GoodTree.f
 rw [if_pos ((nodesZ_iff l).2 h.2.1)]
theorem mem3 {P : List Node → Prop} {a b c : List Node} (ha : P a) (hb : P b) (hc : P c) : ∀ t ∈ [a, b, c], P t := fun t ht => by
 rcases List.mem_cons.1 ht with rfl | ht
 ·exact ha
 ·rcases List.mem_cons.1 ht with rfl | ht
  ·exact hb
  ·rw [List.mem_singleton] at ht; rw [ht]; exact hc
theorem msame_ev {U V : List Node} (h : sameB U V = true) (hz : U.length ≤ 1000000) : Ev (fun k => bindleref08_SameTree.f k U V) true := by
 rw [← h]
 exact sameTree_eq U V (by omega)
structure Good3 (b o t : List Node) : Prop where
 gb : goodTree b = true
 go : goodTree o = true
 gt : goodTree t = true
 zb : TreeZ b
 zo : TreeZ o
 zt : TreeZ t
 lb : b.length ≤ 60
 lo : o.length ≤ 60
 lt : t.length ≤ 60
theorem good3_eq (b o t : List Node) (hb : ∀ x ∈ b, NodeZ x) (ho : ∀ x ∈ o, NodeZ x) (ht : ∀ x ∈ t, NodeZ x) : ∃ r, Ev (fun k => bindlelaw21_good.f k b o t) r ∧ (r = true → Good3 b o t) := by
 have hzs : ∀ u ∈ [b, o, t], ∀ x ∈ u, NodeZ x := mem3 (P := fun u => ∀ x ∈ u, NodeZ x) hb ho ht
 obtain ⟨r, h1, h2⟩ := light21_eq [b, o, t] (by simp) hzs
 cases r with
 | false =>
  refine ⟨false, ?_, fun h => by cases h⟩
  unfold bindlelaw21_good.f
  refine Ev.bind h1 ?_
  exact Ev.congr (fun k => by rw [if_neg (by decide)]) (Ev.now false)
 | true =>
  have hz := mokl_z (h2 rfl) hzs
  have zb := hz b (by simp)
  have zo := hz o (by simp)
  have zt := hz t (by simp)
  refine ⟨goodTree b && (goodTree o && goodTree t), ?_, fun h => ?_⟩
  ·unfold bindlelaw21_good.f
   refine Ev.bind h1 ?_
   refine Ev.congr (f := fun _ => some (goodTree b && (goodTree o && goodTree t))) (fun k => ?_) (Ev.now _)
   rw [if_pos rfl, mgood_f zb.1, Option.bind_some, mgood_f zo.1, mgood_f zt.1]
   cases goodTree b <;> cases goodTree o <;> cases goodTree t <;> rfl
  ·simp only [Bool.and_eq_true] at h
   exact ⟨h.1, h.2.1, h.2.2, zb.1, zo.1, zt.1, zb.2, zo.2, zt.2⟩
section
variable {b o t : List Node} (h : Good3 b o t)
include h
theorem Good3.merge (q : Int) : merge_Merge.f b o t q = some (mergeF b o t q) := by
 unfold merge_Merge.f
 rw [if_pos ⟨(treeZB_iff b).2 h.zb, (treeZB_iff o).2 h.zo, (treeZB_iff t).2 h.zt⟩]
theorem Good3.len : b.length + o.length + t.length ≤ 4096 := by have := h.lb; have := h.lo; have := h.lt; omega
end
theorem merge_small {b o t : List Node} {q : Int} (h : goodTree (mergeF b o t q).1 = true) : (mergeF b o t q).1.length ≤ 1000000 := by
 have := (good_parts h).2.2.1
 omega
end Go.Proofs.YtbngbefchobfnaaGreatDoor

namespace Go.Proofs.YtbngbefchobfnaaGreatDoor.Print
open Go.RowKit Go.Proofs.YtbngbefchobfnaaGreatDoorW.PrintWords Go.Proofs.YtbngbefchobfnaaGreatDoorW.PrintLast Go.Proofs.YtbngbefchobfnaaGreatDoorW.PrintMore
attribute [local go_sem] max2_int min2_int max_two min_two max_three min_three max_four min_four   -- for this text's walks alone
set_option linter.unusedVariables false
set_option linter.unusedSimpArgs false
abbrev q7_0 : Array Bool := #[false, false, false, false, false, false, false, false, false, false, false, false, false, false, false, false, false, false, false, false, false, false]
abbrev q7_1 : Array Bool := tb_ 22 1
abbrev q7_2 : Array Bool := tb_ 22 3
abbrev q7_3 : Array Bool := tb_ 22 7
abbrev q7_4 : Array Bool := tb_ 22 23
abbrev q7_5 : Array Bool := tb_ 22 55
abbrev q7_6 : Array Bool := tb_ 22 119
abbrev q7_7 : Array Bool := tb_ 22 127
abbrev q7_8 : Array Bool := tb_ 22 255
abbrev q7_9 : Array Bool := tb_ 22 511
abbrev q7_10 : Array Bool := tb_ 22 1023
abbrev q7_11 : Array Bool := tb_ 22 2047
abbrev q7_12 : Array Bool := tb_ 22 4095
abbrev q7_13 : Array Bool := tb_ 22 8191
abbrev q7_14 : Array Bool := tb_ 22 16383
abbrev q7_18 : Array Bool := tb_ 22 262143
abbrev q7_19 : Array Bool := tb_ 22 524287
abbrev q7_20 : Array Bool := tb_ 22 1048575
abbrev q7_21 : Array Bool := tb_ 22 2097151
abbrev q7_22 : Array Bool := tb_ 22 4194303
abbrev q7_23 : Array Bool := tb_ 22 49151
abbrev q7_24 : Array Bool := tb_ 22 114687
abbrev q7_25 : Array Bool := tb_ 22 245759
mutual
def bindlelaw21_MergeOne.j0 : Nat → List (S42) → List (S42) → Int → Bool → Option (Bool)
 | 0, _, _, _, _ => none
 | k + 1, x0, x1, x2, x25 => if x25 = true then ((bindlelaw21_answers.f).bind fun t450 => (some t450)) else ((merge_Merge.f x0 x1 x0 x2).bind fun bt451 => ((merge_Merge.f x0 x0 x1 x2).bind fun bt455 => ((merge_Merge.f x0 x1 x1 x2).bind fun bt459 => (if bt451.2 = 0 then (if bt455.2 = 0 then (if bt459.2 = 0 then ((bindleref08_SameTree.f k bt459.1 x1).bind fun t463 => (if t463 = true then (if (bt451.1.length : Int) = (x1.length : Int) then (bindlelaw21_MergeOne.j1 k x1 bt451.1 bt455.1 ((bt455.1.length : Int) != (x1.length : Int))) else (bindlelaw21_MergeOne.j1 k x1 bt451.1 bt455.1 true)) else (bindlelaw21_MergeOne.j1 k x1 bt451.1 bt455.1 true))) else (bindlelaw21_MergeOne.j1 k x1 bt451.1 bt455.1 true)) else (bindlelaw21_MergeOne.j1 k x1 bt451.1 bt455.1 true)) else (bindlelaw21_MergeOne.j1 k x1 bt451.1 bt455.1 true)))))
def bindlelaw21_MergeOne.j1 : Nat → List (S42) → List (S42) → List (S42) → Bool → Option (Bool)
 | 0, _, _, _, _ => none
 | k + 1, x1, x7, x9, x80 => if x80 = true then (some false) else (bindlelaw21_MergeOne.l0 k x1 x7 x9 0)
def bindlelaw21_MergeOne.l0 : Nat → List (S42) → List (S42) → List (S42) → Int → Option (Bool)
 | 0, _, _, _, _ => none
 | k + 1, x1, x7, x9, x13 => if x13 < (x1.length : Int) then (if 0 ≤ x13 then (if x13 < (x7.length : Int) then ((bindleref08_Equal.f ((rd_T42 x7 x13).f0) ((rd_T42 x7 x13).f1) ((rd_T42 x7 x13).f2) ((rd_T42 x7 x13).f3) ((rd_T42 x7 x13).f4.f0) ((rd_T42 x7 x13).f4.f1) ((rd_T42 x7 x13).f4.f2) ((rd_T42 x7 x13).f4.f3) ((rd_T42 x7 x13).f5) ((rd_T42 x1 x13).f0) ((rd_T42 x1 x13).f1) ((rd_T42 x1 x13).f2) ((rd_T42 x1 x13).f3) ((rd_T42 x1 x13).f4.f0) ((rd_T42 x1 x13).f4.f1) ((rd_T42 x1 x13).f4.f2) ((rd_T42 x1 x13).f4.f3) ((rd_T42 x1 x13).f5)).bind fun t467 => (if t467 = true then (if x13 < (x9.length : Int) then ((bindleref08_Equal.f ((rd_T42 x9 x13).f0) ((rd_T42 x9 x13).f1) ((rd_T42 x9 x13).f2) ((rd_T42 x9 x13).f3) ((rd_T42 x9 x13).f4.f0) ((rd_T42 x9 x13).f4.f1) ((rd_T42 x9 x13).f4.f2) ((rd_T42 x9 x13).f4.f3) ((rd_T42 x9 x13).f5) ((rd_T42 x1 x13).f0) ((rd_T42 x1 x13).f1) ((rd_T42 x1 x13).f2) ((rd_T42 x1 x13).f3) ((rd_T42 x1 x13).f4.f0) ((rd_T42 x1 x13).f4.f1) ((rd_T42 x1 x13).f4.f2) ((rd_T42 x1 x13).f4.f3) ((rd_T42 x1 x13).f5)).bind fun t470 => (if t470 = true then (bindlelaw21_MergeOne.l0 k x1 x7 x9 (wrap64 (x13 + 1))) else (some false))) else (none)) else (some false))) else (none)) else (none)) else ((bindlelaw21_answers.f).bind fun t464 => (some t464))
end
def bindlelaw21_MergeOne.f (k : Nat) (l0 : List (S42)) (l1 : List (S42)) (a2 : Int) : Option (Bool) := (bindlelaw21_good.f k l0 l1 ([] : List (S42))).bind fun t449 => (if t449 = true then (if a2 < 1 then (bindlelaw21_MergeOne.j0 k l0 l1 a2 true) else (bindlelaw21_MergeOne.j0 k l0 l1 a2 (decide (a2 > 4)))) else (bindlelaw21_MergeOne.j0 k l0 l1 a2 true))
def bindlelaw21_MergeOne.T11 : Bool × List (List Nat × List Nat) := (true, [([], []), ([], []), ([0, 1], [0, 1]), ([2], [2]), ([], []), ([], []), ([4, 5], [4, 5]), ([6], [6]), ([3, 7], [3, 7]), ([8], [8]), ([9, 8], [9]), ([10], [10]), ([10], [10]), ([11, 12, 10], [10, 11, 12]), ([13, 10], [10, 13]), ([10], [10]), ([10], [10]), ([15, 16, 10], [10, 15, 16]), ([17, 10], [10, 17]), ([14, 18, 10, 10], [10, 14, 18]), ([19, 10], [10, 19]), ([10, 20], [10, 20])])
def bindlelaw21_MergeOne.B11 : List Nat := [0, 0, 3, 7, 0, 0, 48, 112, 255, 511, 1023, 2047, 2047, 8191, 16383, 2047, 2047, 100351, 231423, 524287, 1048575, 2097151]
theorem bindlelaw21_MergeOne.tab11 : rtab .any (opsOf Tryz.f7 11) = bindlelaw21_MergeOne.T11 := by kernel_rfl
theorem bindlelaw21_MergeOne.bits11 : waitsOk bindlelaw21_MergeOne.T11.2 bindlelaw21_MergeOne.B11 = true := by kernel_rfl
set_option maxHeartbeats 8000000 in
set_option maxRecDepth 100000 in
theorem bindlelaw21_MergeOne.calls (k : Nat) (A0 : Option Addr) (c0 : Nat) (l0 : List (S42)) (A1 : Option Addr) (c1 : Nat) (l1 : List (S42)) (a2 : Int) (r : Bool) (w : World) (hT : Aside0 (Tabs w)) (hr0 : Kd.C k42 w A0 l0.length l0) (hc0 : l0.length ≤ c0) (hr1 : Kd.C k42 w A1 l1.length l1) (hc1 : l1.length ≤ c1) (h : bindlelaw21_MergeOne.f k l0 l1 a2 = some r) (hTRUE_ : Aside0 (r = true)) :
  Calls Tryz.prog 7 #[.slice A0 l0.length c0, .slice A1 l1.length c1, .int .i64 a2] w fun e w' => e = .returned (.bool r) ∧ Below w.heap.size w w' := by
 have hu42 := Tryz.underlying42
 have HR0 := A0_ hr0
 have HC0 := A0_ hc0
 clear hr0 hc0
 have HR1 := A0_ hr1
 have HC1 := A0_ hc1
 clear hr1 hc1
 have HB := A0_ (Below.refl w.heap.size w)
 have H : ((bindlelaw21_good.f k l0 l1 ([] : List (S42))).bind fun t449 => (if t449 = true then (if a2 < 1 then (bindlelaw21_MergeOne.j0 k l0 l1 a2 true) else (bindlelaw21_MergeOne.j0 k l0 l1 a2 (decide (a2 > 4)))) else (bindlelaw21_MergeOne.j0 k l0 l1 a2 true))) = some r := h
 clear h
 have HC4 := A0_ H
 clear H
 go_enter Tryz.func7, Tryz.ntmps7
 go_upto_region 1 with (fail)
 go_cut [25] (fun v25 wc => ∃ (kq : Nat) (x25_3 : Bool), v25 = .bool x25_3 ∧ Aside0 (bindlelaw21_MergeOne.j0 kq l0 l1 a2 x25_3 = some r) ∧ Aside0 (kq ≤ k) ∧ Aside0 (Below w.heap.size w wc))
 case first =>
  have H := HC4.out
  clear HC4
  replace H := Option.bind_eq_some_iff.mp H
  obtain ⟨t449, A50, H⟩ := H
  replace H : (if t449 = true then (if a2 < 1 then (bindlelaw21_MergeOne.j0 k l0 l1 a2 true) else (bindlelaw21_MergeOne.j0 k l0 l1 a2 (decide (a2 > 4)))) else (bindlelaw21_MergeOne.j0 k l0 l1 a2 true)) = some r := H
  have A5 := A0_ A50
  clear A50
  by_cases c6 : t449 = true
  rotate_left
  ·replace c6 := Bool.eq_false_iff.mpr c6
   subst c6
   have H1 : (bindlelaw21_MergeOne.j0 k l0 l1 a2 true) = some r := by rw [if_neg (show ¬ (false = true) by decide)] at H; exact H
   clear H
   have H := H1
   clear H1
   have H' := A0_ H
   clear H
   go_wp2_with (first | ((with_reducible refine gate_callee (f := 12) rfl ?_); refine goesL_ (some 16) rfl rfl Tryz.func12 (by kernel_rfl) rfl #[.slice A0 l0.length c0, .slice A1 l1.length c1, .slice none 0 0] rfl wm_ ?_; (refine (bindlelaw21_good.calls k (fun k_ => k_ < w.heap.size) _ _ l0 (fun k_ => k_ < w.heap.size) _ _ l1 (fun k_ => False) _ _ ([] : List (S42)) false _ ?side1 ?side2 ?side3 A5.out).mono ?_); (case side1 => exact Kd.V_mk HC0.out (Kd.F_below (Kd.C_F k42_heap HR0.out) (wb_ HB.out))); (case side2 => exact Kd.V_mk HC1.out (Kd.F_below (Kd.C_F k42_heap HR1.out) (wb_ HB.out))); (case side3 => exact Kd.V_nil _ _ _ _ _); rintro e w10 ⟨rfl, hb⟩; refine ⟨_, rfl, ?_⟩; have n0_ := A0_ (below_step (wb_ HB.out) hb); clear HB; have HB := n0_; clear n0_; (try clear hb); (try clear hb2); (try clear hk); (try clear hi)))
   go_meet
   case rel => exact ⟨_, (true), wr_, H', ⟨by first | omega | exact Nat.le_refl _⟩, ⟨wb_ HB.out⟩⟩
  subst c6
  have H1 : (if a2 < 1 then (bindlelaw21_MergeOne.j0 k l0 l1 a2 true) else (bindlelaw21_MergeOne.j0 k l0 l1 a2 (decide (a2 > 4)))) = some r := by rw [if_pos rfl] at H; exact H
  clear H
  have H := H1
  clear H1
  by_cases c7 : a2 < 1
  ·rw [if_pos c7] at H
   have c7b0 : decide (a2 < 1) = true := decide_eq_true c7
   clear c7
   (first | rw [c7b0] | (simp only [i64_w, i32_w]; rw [c7b0]) | skip)
   have H' := A0_ H
   clear H
   go_wp2_with (first | ((with_reducible refine gate_callee (f := 12) rfl ?_); refine goesL_ (some 16) rfl rfl Tryz.func12 (by kernel_rfl) rfl #[.slice A0 l0.length c0, .slice A1 l1.length c1, .slice none 0 0] rfl wm_ ?_; (refine (bindlelaw21_good.calls k (fun k_ => k_ < w.heap.size) _ _ l0 (fun k_ => k_ < w.heap.size) _ _ l1 (fun k_ => False) _ _ ([] : List (S42)) true _ ?side1 ?side2 ?side3 A5.out).mono ?_); (case side1 => exact Kd.V_mk HC0.out (Kd.F_below (Kd.C_F k42_heap HR0.out) (wb_ HB.out))); (case side2 => exact Kd.V_mk HC1.out (Kd.F_below (Kd.C_F k42_heap HR1.out) (wb_ HB.out))); (case side3 => exact Kd.V_nil _ _ _ _ _); rintro e w8 ⟨rfl, hb⟩; refine ⟨_, rfl, ?_⟩; have n0_ := A0_ (below_step (wb_ HB.out) hb); clear HB; have HB := n0_; clear n0_; (try clear hb); (try clear hb2); (try clear hk); (try clear hi)))
   go_meet
   case rel => exact ⟨_, (true), wr_, H', ⟨by first | omega | exact Nat.le_refl _⟩, ⟨wb_ HB.out⟩⟩
  rw [if_neg c7] at H
  have c7b0 : decide (a2 < 1) = false := decide_eq_false c7
  clear c7
  (first | rw [c7b0] | (simp only [i64_w, i32_w]; rw [c7b0]) | skip)
  have H' := A0_ H
  clear H
  go_wp2_with (first | ((with_reducible refine gate_callee (f := 12) rfl ?_); refine goesL_ (some 16) rfl rfl Tryz.func12 (by kernel_rfl) rfl #[.slice A0 l0.length c0, .slice A1 l1.length c1, .slice none 0 0] rfl wm_ ?_; (refine (bindlelaw21_good.calls k (fun k_ => k_ < w.heap.size) _ _ l0 (fun k_ => k_ < w.heap.size) _ _ l1 (fun k_ => False) _ _ ([] : List (S42)) true _ ?side1 ?side2 ?side3 A5.out).mono ?_); (case side1 => exact Kd.V_mk HC0.out (Kd.F_below (Kd.C_F k42_heap HR0.out) (wb_ HB.out))); (case side2 => exact Kd.V_mk HC1.out (Kd.F_below (Kd.C_F k42_heap HR1.out) (wb_ HB.out))); (case side3 => exact Kd.V_nil _ _ _ _ _); rintro e w9 ⟨rfl, hb⟩; refine ⟨_, rfl, ?_⟩; have n0_ := A0_ (below_step (wb_ HB.out) hb); clear HB; have HB := n0_; clear n0_; (try clear hb); (try clear hb2); (try clear hk); (try clear hi)))
  go_meet
  case rel => exact ⟨_, (decide (a2 > 4)), wr_, H', ⟨by first | omega | exact Nat.le_refl _⟩, ⟨wb_ HB.out⟩⟩
 case rest =>
  clear HC4
  try clear c1
  try clear p2
  try clear c6
  try clear c7
  try clear c7b0
  obtain ⟨kq, x25_3, rfl, HA, HJ3, HB⟩ := hcut
  cases kq with
  | zero => exact absurd HA.out (by simp [bindlelaw21_MergeOne.j0])
  | succ kj3 =>
   have H := HA.out
   clear HA
   simp only [bindlelaw21_MergeOne.j0] at H
   by_cases c11 : x25_3 = true
   ·subst c11
    have H1 : ((bindlelaw21_answers.f).bind fun t450 => (some t450)) = some r := by rw [if_pos rfl] at H; exact H
    clear H
    have H := H1
    clear H1
    replace H := Option.bind_eq_some_iff.mp H
    obtain ⟨t450, A120, H⟩ := H
    replace H : (some t450) = some r := H
    have A12 := A0_ A120
    clear A120
    obtain rfl := Option.some.inj H
    go_wp2_with (first | ((with_reducible refine gate_callee (f := 10) rfl ?_); refine goesL_ (some 26) rfl rfl Tryz.func10 (by kernel_rfl) rfl #[] rfl wm_ ?_; (with_reducible refine (bindlelaw21_answers.calls  t450 _ ?side1 A12.out).mono ?_); (case side1 => exact A0_ (Tabs.below hT.out (wb_ HB.out))); rintro e w13 ⟨rfl, hb⟩; refine ⟨_, rfl, ?_⟩; have n0_ := A0_ (below_step (wb_ HB.out) hb); clear HB; have HB := n0_; clear n0_; (try clear hb); (try clear hb2); (try clear hk); (try clear hi)))
    go_ret
    exact ⟨we_, wb_ HB.out⟩
   replace c11 := Bool.eq_false_iff.mpr c11
   subst c11
   have H1 : ((merge_Merge.f l0 l1 l0 a2).bind fun bt451 => ((merge_Merge.f l0 l0 l1 a2).bind fun bt455 => ((merge_Merge.f l0 l1 l1 a2).bind fun bt459 => (if bt451.2 = 0 then (if bt455.2 = 0 then (if bt459.2 = 0 then ((bindleref08_SameTree.f kj3 bt459.1 l1).bind fun t463 => (if t463 = true then (if (bt451.1.length : Int) = (l1.length : Int) then (bindlelaw21_MergeOne.j1 kj3 l1 bt451.1 bt455.1 ((bt455.1.length : Int) != (l1.length : Int))) else (bindlelaw21_MergeOne.j1 kj3 l1 bt451.1 bt455.1 true)) else (bindlelaw21_MergeOne.j1 kj3 l1 bt451.1 bt455.1 true))) else (bindlelaw21_MergeOne.j1 kj3 l1 bt451.1 bt455.1 true)) else (bindlelaw21_MergeOne.j1 kj3 l1 bt451.1 bt455.1 true)) else (bindlelaw21_MergeOne.j1 kj3 l1 bt451.1 bt455.1 true))))) = some r := by rw [if_neg (show ¬ (false = true) by decide)] at H; exact H
   clear H
   have H := H1
   clear H1
   replace H := Option.bind_eq_some_iff.mp H
   obtain ⟨⟨t451, t454⟩, A140, H⟩ := H
   replace H : ((merge_Merge.f l0 l0 l1 a2).bind fun bt455 => ((merge_Merge.f l0 l1 l1 a2).bind fun bt459 => (if t454 = 0 then (if bt455.2 = 0 then (if bt459.2 = 0 then ((bindleref08_SameTree.f kj3 bt459.1 l1).bind fun t463 => (if t463 = true then (if (t451.length : Int) = (l1.length : Int) then (bindlelaw21_MergeOne.j1 kj3 l1 t451 bt455.1 ((bt455.1.length : Int) != (l1.length : Int))) else (bindlelaw21_MergeOne.j1 kj3 l1 t451 bt455.1 true)) else (bindlelaw21_MergeOne.j1 kj3 l1 t451 bt455.1 true))) else (bindlelaw21_MergeOne.j1 kj3 l1 t451 bt455.1 true)) else (bindlelaw21_MergeOne.j1 kj3 l1 t451 bt455.1 true)) else (bindlelaw21_MergeOne.j1 kj3 l1 t451 bt455.1 true)))) = some r := H
   have A14 := A0_ A140
   clear A140
   replace H := Option.bind_eq_some_iff.mp H
   obtain ⟨⟨t455, t458⟩, A150, H⟩ := H
   replace H : ((merge_Merge.f l0 l1 l1 a2).bind fun bt459 => (if t454 = 0 then (if t458 = 0 then (if bt459.2 = 0 then ((bindleref08_SameTree.f kj3 bt459.1 l1).bind fun t463 => (if t463 = true then (if (t451.length : Int) = (l1.length : Int) then (bindlelaw21_MergeOne.j1 kj3 l1 t451 t455 ((t455.length : Int) != (l1.length : Int))) else (bindlelaw21_MergeOne.j1 kj3 l1 t451 t455 true)) else (bindlelaw21_MergeOne.j1 kj3 l1 t451 t455 true))) else (bindlelaw21_MergeOne.j1 kj3 l1 t451 t455 true)) else (bindlelaw21_MergeOne.j1 kj3 l1 t451 t455 true)) else (bindlelaw21_MergeOne.j1 kj3 l1 t451 t455 true))) = some r := H
   have A15 := A0_ A150
   clear A150
   replace H := Option.bind_eq_some_iff.mp H
   obtain ⟨⟨t459, t462⟩, A160, H⟩ := H
   replace H : (if t454 = 0 then (if t458 = 0 then (if t462 = 0 then ((bindleref08_SameTree.f kj3 t459 l1).bind fun t463 => (if t463 = true then (if (t451.length : Int) = (l1.length : Int) then (bindlelaw21_MergeOne.j1 kj3 l1 t451 t455 ((t455.length : Int) != (l1.length : Int))) else (bindlelaw21_MergeOne.j1 kj3 l1 t451 t455 true)) else (bindlelaw21_MergeOne.j1 kj3 l1 t451 t455 true))) else (bindlelaw21_MergeOne.j1 kj3 l1 t451 t455 true)) else (bindlelaw21_MergeOne.j1 kj3 l1 t451 t455 true)) else (bindlelaw21_MergeOne.j1 kj3 l1 t451 t455 true)) = some r := H
   have A16 := A0_ A160
   clear A160
   have HC17 := A0_ H
   clear H
   go_upto_region 6 with (first | ((with_reducible refine gate_callee (f := 15) rfl ?_); refine goesL_ (some 32) rfl rfl Tryz.func15 (by kernel_rfl) rfl #[.slice A0 l0.length c0, .slice A1 l1.length c1, .slice A0 l0.length c0, .int .i64 a2] rfl wm_ ?_; (with_reducible refine (merge_Merge.calls _ _ l0 _ _ l1 _ _ l0 a2 t451 t454 _ ?side1 ?side2 ?side3 ?side4 ?side5 ?side6 ?side7 A14.out).mono ?_); (case side1 => exact A0_ (Tabs.below hT.out (wb_ HB.out))); (case side2 => exact wc_ (Kd.C_below HR0.out HB.out)); (case side3 => exact HC0.out); (case side4 => exact wc_ (Kd.C_below HR1.out HB.out)); (case side5 => exact HC1.out); (case side6 => exact wc_ (Kd.C_below HR0.out HB.out)); (case side7 => exact HC0.out); rintro e w18 ⟨v452, rfl, ho0, hb⟩; refine ⟨_, rfl, ?_⟩; have n0_ := A0_ (Kd.V_lower (Kd.V_mono (ok' := fun k_ => True) ho0 (fun k_ hk_ => trivial)) (below_size (wb_ HB.out))); have n1_ := A0_ (below_step (wb_ HB.out) hb); clear HB; have HO453 := n0_; have HB := n1_; clear n0_ n1_; (try clear hb); (try clear hb2); (try clear hk); (try clear hi); (try clear ho0)) | ((with_reducible refine gate_callee (f := 15) rfl ?_); refine goesL_ (some 40) rfl rfl Tryz.func15 (by kernel_rfl) rfl #[.slice A0 l0.length c0, .slice A0 l0.length c0, .slice A1 l1.length c1, .int .i64 a2] rfl wm_ ?_; (with_reducible refine (merge_Merge.calls _ _ l0 _ _ l0 _ _ l1 a2 t455 t458 _ ?side1 ?side2 ?side3 ?side4 ?side5 ?side6 ?side7 A15.out).mono ?_); (case side1 => exact A0_ (Tabs.below hT.out (wb_ HB.out))); (case side2 => exact wc_ (Kd.C_below HR0.out HB.out)); (case side3 => exact HC0.out); (case side4 => exact wc_ (Kd.C_below HR0.out HB.out)); (case side5 => exact HC0.out); (case side6 => exact wc_ (Kd.C_below HR1.out HB.out)); (case side7 => exact HC1.out); rintro e w19 ⟨v456, rfl, ho0, hb⟩; refine ⟨_, rfl, ?_⟩; have n0_ := A0_ (Vb_ (wV_ HO453.out) hb); have n1_ := A0_ (Kd.V_lower (Kd.V_mono (ok' := fun k_ => True) ho0 (fun k_ hk_ => trivial)) (below_size (wb_ HB.out))); have n2_ := A0_ (below_step (wb_ HB.out) hb); clear HO453; clear HB; have HO453 := n0_; have HO457 := n1_; have HB := n2_; clear n0_ n1_ n2_; (try clear hb); (try clear hb2); (try clear hk); (try clear hi); (try clear ho0)) | ((with_reducible refine gate_callee (f := 15) rfl ?_); refine goesL_ (some 48) rfl rfl Tryz.func15 (by kernel_rfl) rfl #[.slice A0 l0.length c0, .slice A1 l1.length c1, .slice A1 l1.length c1, .int .i64 a2] rfl wm_ ?_; (with_reducible refine (merge_Merge.calls _ _ l0 _ _ l1 _ _ l1 a2 t459 t462 _ ?side1 ?side2 ?side3 ?side4 ?side5 ?side6 ?side7 A16.out).mono ?_); (case side1 => exact A0_ (Tabs.below hT.out (wb_ HB.out))); (case side2 => exact wc_ (Kd.C_below HR0.out HB.out)); (case side3 => exact HC0.out); (case side4 => exact wc_ (Kd.C_below HR1.out HB.out)); (case side5 => exact HC1.out); (case side6 => exact wc_ (Kd.C_below HR1.out HB.out)); (case side7 => exact HC1.out); rintro e w20 ⟨v460, rfl, ho0, hb⟩; refine ⟨_, rfl, ?_⟩; have n0_ := A0_ (Vb_ (wV_ HO453.out) hb); have n1_ := A0_ (Vb_ (wV_ HO457.out) hb); have n2_ := A0_ (Kd.V_lower (Kd.V_mono (ok' := fun k_ => True) ho0 (fun k_ hk_ => trivial)) (below_size (wb_ HB.out))); have n3_ := A0_ (below_step (wb_ HB.out) hb); clear HO453; clear HO457; clear HB; have HO453 := n0_; have HO457 := n1_; have HO461 := n2_; have HB := n3_; clear n0_ n1_ n2_ n3_; (try clear hb); (try clear hb2); (try clear hk); (try clear hi); (try clear ho0)))
   (try simp only [Act.put, List.setIfInBounds_toArray, List.set_cons_zero, List.set_cons_succ])
   go_cut [80] (fun v80 wc => ∃ (kq : Nat) (x80_16 : Bool), v80 = .bool x80_16 ∧ Aside0 (bindlelaw21_MergeOne.j1 kq l1 t451 t455 x80_16 = some r) ∧ Aside0 (kq ≤ kj3) ∧ Aside0 (Kd.V k42 42 wc w.heap.size (fun _ => True) v452 t451) ∧ Aside0 (Kd.V k42 42 wc w.heap.size (fun _ => True) v456 t455) ∧ Aside0 (Below w.heap.size w wc))
   case first =>
    have H := HC17.out
    clear HC17
    by_cases c21 : t454 = 0
    rotate_left
    ·rw [if_neg c21] at H
     have c21b0 : (t454 == 0) = false := beq_eq_false_iff_ne.mpr c21
     have c21b1 : (t454 != 0) = true := bne_iff_ne.mpr c21
     (first | rw [c21b0] | (simp only [i64_w, i32_w]; rw [c21b0]) | skip)
     have H' := A0_ H
     clear H
     go_wp2
     go_meet
     case rel => exact ⟨_, (true), wr_, H', ⟨by have := HJ3.out; first | omega | exact Nat.le_refl _⟩, ⟨wV_ HO453.out⟩, ⟨wV_ HO457.out⟩, ⟨wb_ HB.out⟩⟩
    rw [if_pos c21] at H
    have c21b0 : (t454 == 0) = true := beq_iff_eq.mpr c21
    have c21b1 : (t454 != 0) = false := bne_eq_false_iff_eq.mpr c21
    clear c21
    (first | rw [c21b0] | (simp only [i64_w, i32_w]; rw [c21b0]) | skip)
    by_cases c22 : t458 = 0
    rotate_left
    ·rw [if_neg c22] at H
     have c22b0 : (t458 == 0) = false := beq_eq_false_iff_ne.mpr c22
     have c22b1 : (t458 != 0) = true := bne_iff_ne.mpr c22
     have H' := A0_ H
     clear H
     go_wp2
     go_meet
     case rel => exact ⟨_, (true), wr_, H', ⟨by have := HJ3.out; first | omega | exact Nat.le_refl _⟩, ⟨wV_ HO453.out⟩, ⟨wV_ HO457.out⟩, ⟨wb_ HB.out⟩⟩
    rw [if_pos c22] at H
    have c22b0 : (t458 == 0) = true := beq_iff_eq.mpr c22
    have c22b1 : (t458 != 0) = false := bne_eq_false_iff_eq.mpr c22
    clear c22
    by_cases c23 : t462 = 0
    rotate_left
    ·rw [if_neg c23] at H
     have c23b0 : (t462 == 0) = false := beq_eq_false_iff_ne.mpr c23
     have c23b1 : (t462 != 0) = true := bne_iff_ne.mpr c23
     have H' := A0_ H
     clear H
     go_wp2
     go_meet
     case rel => exact ⟨_, (true), wr_, H', ⟨by have := HJ3.out; first | omega | exact Nat.le_refl _⟩, ⟨wV_ HO453.out⟩, ⟨wV_ HO457.out⟩, ⟨wb_ HB.out⟩⟩
    rw [if_pos c23] at H
    have c23b0 : (t462 == 0) = true := beq_iff_eq.mpr c23
    have c23b1 : (t462 != 0) = false := bne_eq_false_iff_eq.mpr c23
    clear c23
    replace H := Option.bind_eq_some_iff.mp H
    obtain ⟨t463, A240, H⟩ := H
    replace H : (if t463 = true then (if (t451.length : Int) = (l1.length : Int) then (bindlelaw21_MergeOne.j1 kj3 l1 t451 t455 ((t455.length : Int) != (l1.length : Int))) else (bindlelaw21_MergeOne.j1 kj3 l1 t451 t455 true)) else (bindlelaw21_MergeOne.j1 kj3 l1 t451 t455 true)) = some r := H
    have A24 := A0_ A240
    clear A240
    by_cases c25 : t463 = true
    rotate_left
    ·replace c25 := Bool.eq_false_iff.mpr c25
     subst c25
     have H1 : (bindlelaw21_MergeOne.j1 kj3 l1 t451 t455 true) = some r := by rw [if_neg (show ¬ (false = true) by decide)] at H; exact H
     clear H
     have H := H1
     clear H1
     have H' := A0_ H
     clear H
     obtain ⟨Ao34, co34, eo34⟩ := Kd.V_slice HO461.out
     subst eo34
     go_wp2_with (first | (go_at_call 17; (with_reducible refine (bindleref08_SameTree.calls kj3 _ _ t459 _ _ l1 false _ ?side1 ?side2 ?side3 ?side4 A24.out).mono ?_); (case side1 => exact wc_ (Kd.V_reads' HO461.out).2.2); (case side2 => exact (Kd.V_reads' HO461.out).2.1); (case side3 => exact wc_ (Kd.C_below HR1.out HB.out)); (case side4 => exact HC1.out); rintro e w35 ⟨rfl, hb⟩; have n0_ := A0_ (Vb_ (wV_ HO453.out) hb); have n1_ := A0_ (Vb_ (wV_ HO457.out) hb); have n2_ := A0_ (Vb_ (wV_ HO461.out) hb); have n3_ := A0_ (below_step (wb_ HB.out) hb); clear HO453; clear HO457; clear HO461; clear HB; have HO453 := n0_; have HO457 := n1_; have HO461 := n2_; have HB := n3_; clear n0_ n1_ n2_ n3_; (try clear hb); (try clear hb2); (try clear hk); (try clear hi)))
     go_meet
     case rel => exact ⟨_, (true), wr_, H', ⟨by have := HJ3.out; first | omega | exact Nat.le_refl _⟩, ⟨wV_ HO453.out⟩, ⟨wV_ HO457.out⟩, ⟨wb_ HB.out⟩⟩
    subst c25
    have H1 : (if (t451.length : Int) = (l1.length : Int) then (bindlelaw21_MergeOne.j1 kj3 l1 t451 t455 ((t455.length : Int) != (l1.length : Int))) else (bindlelaw21_MergeOne.j1 kj3 l1 t451 t455 true)) = some r := by rw [if_pos rfl] at H; exact H
    clear H
    have H := H1
    clear H1
    by_cases c26 : (t451.length : Int) = (l1.length : Int)
    rotate_left
    ·rw [if_neg c26] at H
     have c26b0 : ((t451.length : Int) == (l1.length : Int)) = false := beq_eq_false_iff_ne.mpr c26
     have c26b1 : ((t451.length : Int) != (l1.length : Int)) = true := bne_iff_ne.mpr c26
     have c26b2 : (t451.length == l1.length) = false := by first | simpa using c26 | (simp at c26 ⊢; omega)
     have H' := A0_ H
     clear H
     obtain ⟨Ao31, co31, eo31⟩ := Kd.V_slice HO461.out
     subst eo31
     go_wp2_with (first | (go_at_call 17; (with_reducible refine (bindleref08_SameTree.calls kj3 _ _ t459 _ _ l1 true _ ?side1 ?side2 ?side3 ?side4 A24.out).mono ?_); (case side1 => exact wc_ (Kd.V_reads' HO461.out).2.2); (case side2 => exact (Kd.V_reads' HO461.out).2.1); (case side3 => exact wc_ (Kd.C_below HR1.out HB.out)); (case side4 => exact HC1.out); rintro e w32 ⟨rfl, hb⟩; have n0_ := A0_ (Vb_ (wV_ HO453.out) hb); have n1_ := A0_ (Vb_ (wV_ HO457.out) hb); have n2_ := A0_ (Vb_ (wV_ HO461.out) hb); have n3_ := A0_ (below_step (wb_ HB.out) hb); clear HO453; clear HO457; clear HO461; clear HB; have HO453 := n0_; have HO457 := n1_; have HO461 := n2_; have HB := n3_; clear n0_ n1_ n2_ n3_; (try clear hb); (try clear hb2); (try clear hk); (try clear hi); obtain ⟨Ao33, co33, eo33⟩ := Kd.V_slice HO453.out; subst eo33))
     go_meet
     case rel => exact ⟨_, (true), wr_, H', ⟨by have := HJ3.out; first | omega | exact Nat.le_refl _⟩, ⟨wV_ HO453.out⟩, ⟨wV_ HO457.out⟩, ⟨wb_ HB.out⟩⟩
    rw [if_pos c26] at H
    have c26b0 : ((t451.length : Int) == (l1.length : Int)) = true := beq_iff_eq.mpr c26
    have c26b1 : ((t451.length : Int) != (l1.length : Int)) = false := bne_eq_false_iff_eq.mpr c26
    have c26b2 : (t451.length == l1.length) = true := by first | simpa using c26 | (simp at c26 ⊢; omega)
    clear c26
    have H' := A0_ H
    clear H
    obtain ⟨Ao27, co27, eo27⟩ := Kd.V_slice HO461.out
    subst eo27
    go_wp2_with (first | (go_at_call 17; (with_reducible refine (bindleref08_SameTree.calls kj3 _ _ t459 _ _ l1 true _ ?side1 ?side2 ?side3 ?side4 A24.out).mono ?_); (case side1 => exact wc_ (Kd.V_reads' HO461.out).2.2); (case side2 => exact (Kd.V_reads' HO461.out).2.1); (case side3 => exact wc_ (Kd.C_below HR1.out HB.out)); (case side4 => exact HC1.out); rintro e w28 ⟨rfl, hb⟩; have n0_ := A0_ (Vb_ (wV_ HO453.out) hb); have n1_ := A0_ (Vb_ (wV_ HO457.out) hb); have n2_ := A0_ (Vb_ (wV_ HO461.out) hb); have n3_ := A0_ (below_step (wb_ HB.out) hb); clear HO453; clear HO457; clear HO461; clear HB; have HO453 := n0_; have HO457 := n1_; have HO461 := n2_; have HB := n3_; clear n0_ n1_ n2_ n3_; (try clear hb); (try clear hb2); (try clear hk); (try clear hi); obtain ⟨Ao29, co29, eo29⟩ := Kd.V_slice HO453.out; subst eo29; obtain ⟨Ao30, co30, eo30⟩ := Kd.V_slice HO457.out; subst eo30))
    go_meet
    case rel => exact ⟨_, (((t455.length : Int) != (l1.length : Int))), wr_, H', ⟨by have := HJ3.out; first | omega | exact Nat.le_refl _⟩, ⟨wV_ HO453.out⟩, ⟨wV_ HO457.out⟩, ⟨wb_ HB.out⟩⟩
   case rest =>
    clear HC17
    try clear c1
    try clear c2
    try clear p2
    try clear c6
    try clear c7
    try clear c7b0
    try clear c10
    try clear c11
    try clear c12
    try clear c15
    try clear c21
    try clear c21b0
    try clear c21b1
    try clear c22
    try clear c22b0
    try clear c22b1
    try clear c23
    try clear c23b0
    try clear c23b1
    try clear c25
    try clear c26
    try clear c26b0
    try clear c26b1
    try clear c26b2
    try clear p2
    obtain ⟨kq, x80_16, rfl, HA, HJ16, HO_7, HO_9, HB⟩ := hcut
    cases kq with
    | zero => exact absurd HA.out (by simp [bindlelaw21_MergeOne.j1])
    | succ kj16 =>
     have H := HA.out
     clear HA
     simp only [bindlelaw21_MergeOne.j1] at H
     by_cases c36 : x80_16 = true
     ·subst c36
      have H1 : (some false) = some r := by rw [if_pos rfl] at H; exact H
      clear H
      have H := H1
      clear H1
      exact absurd ((Option.some.inj H).trans hTRUE_.out) (by decide)
     replace c36 := Bool.eq_false_iff.mpr c36
     subst c36
     have H1 : (bindlelaw21_MergeOne.l0 kj16 l1 t451 t455 0) = some r := by rw [if_neg (show ¬ (false = true) by decide)] at H; exact H
     clear H
     have H := H1
     clear H1
     have H' := A0_ H
     clear H
     go_wp2
     go_loopg [13] kj16 (fun kq v13 w' => ∃ (x13_3 : Int), v13 = .int .i64 x13_3 ∧ Aside0 (bindlelaw21_MergeOne.l0 kq l1 t451 t455 x13_3 = some r) ∧ Aside0 (kq ≤ kj16) ∧ Aside0 (Kd.V k42 42 w' w.heap.size (fun _ => True) v452 t451) ∧ Aside0 (Kd.V k42 42 w' w.heap.size (fun _ => True) v456 t455) ∧ Aside0 (Below w.heap.size w w'))
     case atStart => exact ⟨(0), wr_, H', ⟨Nat.le_refl _⟩, ⟨wV_ HO_7.out⟩, ⟨wV_ HO_9.out⟩, ⟨wb_ HB.out⟩⟩
     case round =>
      clear H'
      try clear c1
      try clear c2
      try clear p2
      try clear c3
      try clear c6
      try clear c7
      try clear c7b0
      try clear c10
      try clear c11
      try clear c12
      try clear c15
      try clear c21
      try clear c21b0
      try clear c21b1
      try clear c22
      try clear c22b0
      try clear c22b1
      try clear c23
      try clear c23b0
      try clear c23b1
      try clear c25
      try clear c26
      try clear c26b0
      try clear c26b1
      try clear c26b2
      try clear c36
      try clear p2
      obtain ⟨x13_3, rfl, HA, HK3, HO_7, HO_9, HB⟩ := hrel
      cases gk with
      | zero => exact absurd HA.out (by simp [bindlelaw21_MergeOne.l0])
      | succ k3 =>
       have H := HA.out
       clear HA
       simp only [bindlelaw21_MergeOne.l0] at H
       by_cases c37 : x13_3 < (l1.length : Int)
       rotate_left
       ·rw [if_neg c37] at H
        have c37b0 : decide (x13_3 < (l1.length : Int)) = false := decide_eq_false c37
        clear c37
        replace H := Option.bind_eq_some_iff.mp H
        obtain ⟨t464, A580, H⟩ := H
        replace H : (some t464) = some r := H
        have A58 := A0_ A580
        clear A580
        obtain rfl := Option.some.inj H
        go_wp2_with (first | ((with_reducible refine gate_callee (f := 10) rfl ?_); refine goesL_ (some 109) rfl rfl Tryz.func10 (by kernel_rfl) rfl #[] rfl wm_ ?_; (with_reducible refine (bindlelaw21_answers.calls  t464 _ ?side1 A58.out).mono ?_); (case side1 => exact A0_ (Tabs.below hT.out (wb_ HB.out))); rintro e w59 ⟨rfl, hb⟩; refine ⟨_, rfl, ?_⟩; have n0_ := A0_ (Vb_ (wV_ HO_7.out) hb); have n1_ := A0_ (Vb_ (wV_ HO_9.out) hb); have n2_ := A0_ (below_step (wb_ HB.out) hb); clear HO_7; clear HO_9; clear HB; have HO_7 := n0_; have HO_9 := n1_; have HB := n2_; clear n0_ n1_ n2_; (try clear hb); (try clear hb2); (try clear hk); (try clear hi)))
        go_ret
        exact ⟨we_, wb_ HB.out⟩
       rw [if_pos c37] at H
       have c37b0 : decide (x13_3 < (l1.length : Int)) = true := decide_eq_true c37
       clear c37
       by_cases c38 : 0 ≤ x13_3
       rotate_left
       ·rw [if_neg c38] at H
        exact absurd H (by simp)
       rw [if_pos c38] at H
       have c38b0 : decide (0 ≤ x13_3) = true := decide_eq_true c38
       clear c38
       by_cases c39 : x13_3 < (t451.length : Int)
       rotate_left
       ·rw [if_neg c39] at H
        exact absurd H (by simp)
       rw [if_pos c39] at H
       have c39b0 : decide (x13_3 < (t451.length : Int)) = true := decide_eq_true c39
       clear c39
       replace H := Option.bind_eq_some_iff.mp H
       obtain ⟨t467, A400, H⟩ := H
       replace H : (if t467 = true then (if x13_3 < (t455.length : Int) then ((bindleref08_Equal.f ((rd_T42 t455 x13_3).f0) ((rd_T42 t455 x13_3).f1) ((rd_T42 t455 x13_3).f2) ((rd_T42 t455 x13_3).f3) ((rd_T42 t455 x13_3).f4.f0) ((rd_T42 t455 x13_3).f4.f1) ((rd_T42 t455 x13_3).f4.f2) ((rd_T42 t455 x13_3).f4.f3) ((rd_T42 t455 x13_3).f5) ((rd_T42 l1 x13_3).f0) ((rd_T42 l1 x13_3).f1) ((rd_T42 l1 x13_3).f2) ((rd_T42 l1 x13_3).f3) ((rd_T42 l1 x13_3).f4.f0) ((rd_T42 l1 x13_3).f4.f1) ((rd_T42 l1 x13_3).f4.f2) ((rd_T42 l1 x13_3).f4.f3) ((rd_T42 l1 x13_3).f5)).bind fun t470 => (if t470 = true then (bindlelaw21_MergeOne.l0 k3 l1 t451 t455 (wrap64 (x13_3 + 1))) else (some false))) else (none)) else (some false)) = some r := H
       have A40 := A0_ A400
       clear A400
       by_cases c41 : t467 = true
       rotate_left
       ·replace c41 := Bool.eq_false_iff.mpr c41
        subst c41
        have H1 : (some false) = some r := by rw [if_neg (show ¬ (false = true) by decide)] at H; exact H
        clear H
        have H := H1
        clear H1
        exact absurd ((Option.some.inj H).trans hTRUE_.out) (by decide)
       subst c41
       have H1 : (if x13_3 < (t455.length : Int) then ((bindleref08_Equal.f ((rd_T42 t455 x13_3).f0) ((rd_T42 t455 x13_3).f1) ((rd_T42 t455 x13_3).f2) ((rd_T42 t455 x13_3).f3) ((rd_T42 t455 x13_3).f4.f0) ((rd_T42 t455 x13_3).f4.f1) ((rd_T42 t455 x13_3).f4.f2) ((rd_T42 t455 x13_3).f4.f3) ((rd_T42 t455 x13_3).f5) ((rd_T42 l1 x13_3).f0) ((rd_T42 l1 x13_3).f1) ((rd_T42 l1 x13_3).f2) ((rd_T42 l1 x13_3).f3) ((rd_T42 l1 x13_3).f4.f0) ((rd_T42 l1 x13_3).f4.f1) ((rd_T42 l1 x13_3).f4.f2) ((rd_T42 l1 x13_3).f4.f3) ((rd_T42 l1 x13_3).f5)).bind fun t470 => (if t470 = true then (bindlelaw21_MergeOne.l0 k3 l1 t451 t455 (wrap64 (x13_3 + 1))) else (some false))) else (none)) = some r := by rw [if_pos rfl] at H; exact H
       clear H
       have H := H1
       clear H1
       by_cases c42 : x13_3 < (t455.length : Int)
       rotate_left
       ·rw [if_neg c42] at H
        exact absurd H (by simp)
       rw [if_pos c42] at H
       have c42b0 : decide (x13_3 < (t455.length : Int)) = true := decide_eq_true c42
       clear c42
       replace H := Option.bind_eq_some_iff.mp H
       obtain ⟨t470, A430, H⟩ := H
       replace H : (if t470 = true then (bindlelaw21_MergeOne.l0 k3 l1 t451 t455 (wrap64 (x13_3 + 1))) else (some false)) = some r := H
       have A43 := A0_ A430
       clear A430
       by_cases c44 : t470 = true
       rotate_left
       ·replace c44 := Bool.eq_false_iff.mpr c44
        subst c44
        have H1 : (some false) = some r := by rw [if_neg (show ¬ (false = true) by decide)] at H; exact H
        clear H
        have H := H1
        clear H1
        exact absurd ((Option.some.inj H).trans hTRUE_.out) (by decide)
       subst c44
       have H1 : (bindlelaw21_MergeOne.l0 k3 l1 t451 t455 (wrap64 (x13_3 + 1))) = some r := by rw [if_pos rfl] at H; exact H
       clear H
       have H := H1
       clear H1
       have H' := A0_ H
       clear H
       try go_wp2
       have n0_ := A0_ (V1_ HO_7.out)
       have n1_ := A0_ (V1_ HO_9.out)
       have n2_ := A0_ (b1_ HB.out)
       clear HO_7
       clear HO_9
       clear HB
       have HO_7 := n0_
       have HO_9 := n1_
       have HB := n2_
       clear n0_ n1_ n2_
       obtain ⟨Ao46, co46, eo46⟩ := Kd.V_slice HO_7.out
       (first | subst eo46 | (injection eo46 with f1_ f2_ f3_; have f4_ := f1_.symm; have f5_ := f3_.symm; clear f1_ f2_ f3_; subst f4_; subst f5_))
       have p465 : 0 ≤ (x13_3 : Int) := wd_
       have q465 : x13_3 < (t451.length : Int) := wd_
       try obtain ⟨_, _, rfl⟩ := Kd.V_slice HO_7.out
       obtain ⟨ad465, A465_8, c465_8, e465, hx465_0, hx465_1, hx465_2, hx465_3, hx465_4, hx465_5, hx465_6, hx465_7, hx465_8, hl465_8, hi465_8⟩ := at_T42 (Kd.V_reads' HO_7.out).2.2 x13_3 p465 q465
       cases e465
       obtain ⟨ce465, hce465, hMe465, hcc465⟩ := Kd.V_get HO_7.out z42 x13_3 p465 (by first | exact q465 | exact wd_ | (have e_ := (Kd.V_reads' HO_7.out).1; omega))
       obtain ⟨ua465_8, uc465_8, rfl, ul465_8, ge465_8⟩ := k42_openF hMe465
       have hv465_8 := hcc465 8 _ rfl
       rw [add_field _ _ 8 (by omega)] at hv465_8
       replace hv465_8 := Option.some.inj (hv465_8.symm.trans hx465_8)
       injection hv465_8 with hva_ hvn_ hvc_
       rw [hva_] at ge465_8
       rw [hvc_] at ul465_8
       have HL465_8 := A0_ (show Kd.V (Kd.int .u8) 5 _ w.heap.size _ _ ((rd_T42 t451 x13_3).f5) from Kd.V_mk ul465_8 ge465_8)
       clear hva_ hvn_ hvc_ ge465_8 ul465_8
       clear hcc465 hce465
       have HR465_8 := A0_ hi465_8
       have HC465_8 := A0_ hl465_8
       clear hi465_8 hl465_8
       replace p465 := eq_true p465
       replace q465 := eq_true q465
       have p466 : 0 ≤ (x13_3 : Int) := wd_
       have q466 : x13_3 < (l1.length : Int) := wd_
       obtain ⟨ad466, A466_8, c466_8, e466, hx466_0, hx466_1, hx466_2, hx466_3, hx466_4, hx466_5, hx466_6, hx466_7, hx466_8, hl466_8, hi466_8⟩ := at_T42 HR1.out x13_3 p466 q466
       have hw466_8 := hx466_8
       have hw466_7 := hx466_7
       have hw466_6 := hx466_6
       have hw466_5 := hx466_5
       have hw466_4 := hx466_4
       have hw466_3 := hx466_3
       have hw466_2 := hx466_2
       have hw466_1 := hx466_1
       have hw466_0 := hx466_0
       cases e466
       replace hx466_0 := (HB.out.cell (World.block_lt_of_cell? w _ hx466_0)).trans hx466_0
       replace hx466_1 := (HB.out.cell (World.block_lt_of_cell? w _ hx466_1)).trans hx466_1
       replace hx466_2 := (HB.out.cell (World.block_lt_of_cell? w _ hx466_2)).trans hx466_2
       replace hx466_3 := (HB.out.cell (World.block_lt_of_cell? w _ hx466_3)).trans hx466_3
       replace hx466_4 := (HB.out.cell (World.block_lt_of_cell? w _ hx466_4)).trans hx466_4
       replace hx466_5 := (HB.out.cell (World.block_lt_of_cell? w _ hx466_5)).trans hx466_5
       replace hx466_6 := (HB.out.cell (World.block_lt_of_cell? w _ hx466_6)).trans hx466_6
       replace hx466_7 := (HB.out.cell (World.block_lt_of_cell? w _ hx466_7)).trans hx466_7
       replace hx466_8 := (HB.out.cell (World.block_lt_of_cell? w _ hx466_8)).trans hx466_8
       have HR466_8 := A0_ hi466_8
       have HC466_8 := A0_ hl466_8
       clear hi466_8 hl466_8
       replace p466 := eq_true p466
       replace q466 := eq_true q466
       have p468 : 0 ≤ (x13_3 : Int) := wd_
       have q468 : x13_3 < (t455.length : Int) := wd_
       try obtain ⟨_, _, rfl⟩ := Kd.V_slice HO_9.out
       obtain ⟨ad468, A468_8, c468_8, e468, hx468_0, hx468_1, hx468_2, hx468_3, hx468_4, hx468_5, hx468_6, hx468_7, hx468_8, hl468_8, hi468_8⟩ := at_T42 (Kd.V_reads' HO_9.out).2.2 x13_3 p468 q468
       cases e468
       obtain ⟨ce468, hce468, hMe468, hcc468⟩ := Kd.V_get HO_9.out z42 x13_3 p468 (by first | exact q468 | exact wd_ | (have e_ := (Kd.V_reads' HO_9.out).1; omega))
       obtain ⟨ua468_8, uc468_8, rfl, ul468_8, ge468_8⟩ := k42_openF hMe468
       have hv468_8 := hcc468 8 _ rfl
       rw [add_field _ _ 8 (by omega)] at hv468_8
       replace hv468_8 := Option.some.inj (hv468_8.symm.trans hx468_8)
       injection hv468_8 with hva_ hvn_ hvc_
       rw [hva_] at ge468_8
       rw [hvc_] at ul468_8
       have HL468_8 := A0_ (show Kd.V (Kd.int .u8) 5 _ w.heap.size _ _ ((rd_T42 t455 x13_3).f5) from Kd.V_mk ul468_8 ge468_8)
       clear hva_ hvn_ hvc_ ge468_8 ul468_8
       clear hcc468 hce468
       have HR468_8 := A0_ hi468_8
       have HC468_8 := A0_ hl468_8
       clear hi468_8 hl468_8
       replace p468 := eq_true p468
       replace q468 := eq_true q468
       have p469 : 0 ≤ (x13_3 : Int) := wd_
       have q469 : x13_3 < (l1.length : Int) := wd_
       obtain ⟨ad469, A469_8, c469_8, e469, hx469_0, hx469_1, hx469_2, hx469_3, hx469_4, hx469_5, hx469_6, hx469_7, hx469_8, hl469_8, hi469_8⟩ := at_T42 HR1.out x13_3 p469 q469
       have hw469_8 := hx469_8
       have hw469_7 := hx469_7
       have hw469_6 := hx469_6
       have hw469_5 := hx469_5
       have hw469_4 := hx469_4
       have hw469_3 := hx469_3
       have hw469_2 := hx469_2
       have hw469_1 := hx469_1
       have hw469_0 := hx469_0
       obtain rfl : ad466 = ad469 := (by injection e469)
       replace hx469_0 := (HB.out.cell (World.block_lt_of_cell? w _ hx469_0)).trans hx469_0
       replace hx469_1 := (HB.out.cell (World.block_lt_of_cell? w _ hx469_1)).trans hx469_1
       replace hx469_2 := (HB.out.cell (World.block_lt_of_cell? w _ hx469_2)).trans hx469_2
       replace hx469_3 := (HB.out.cell (World.block_lt_of_cell? w _ hx469_3)).trans hx469_3
       replace hx469_4 := (HB.out.cell (World.block_lt_of_cell? w _ hx469_4)).trans hx469_4
       replace hx469_5 := (HB.out.cell (World.block_lt_of_cell? w _ hx469_5)).trans hx469_5
       replace hx469_6 := (HB.out.cell (World.block_lt_of_cell? w _ hx469_6)).trans hx469_6
       replace hx469_7 := (HB.out.cell (World.block_lt_of_cell? w _ hx469_7)).trans hx469_7
       replace hx469_8 := (HB.out.cell (World.block_lt_of_cell? w _ hx469_8)).trans hx469_8
       have HR469_8 := A0_ hi469_8
       have HC469_8 := A0_ hl469_8
       clear hi469_8 hl469_8
       replace p469 := eq_true p469
       replace q469 := eq_true q469
       refine start_ (n := 22) (S := fun w' => w'.cell? (ad465.add ((x13_3).toNat * 9)) = some (.string ((rd_T42 t451 x13_3).f0)) ∧ w'.cell? ⟨(ad465.add ((x13_3).toNat * 9)).block, (ad465.add ((x13_3).toNat * 9)).off + 1, none⟩ = some (.string ((rd_T42 t451 x13_3).f1)) ∧ w'.cell? ⟨(ad465.add ((x13_3).toNat * 9)).block, (ad465.add ((x13_3).toNat * 9)).off + 2, none⟩ = some (.string ((rd_T42 t451 x13_3).f2)) ∧ w'.cell? ⟨(ad465.add ((x13_3).toNat * 9)).block, (ad465.add ((x13_3).toNat * 9)).off + 3, none⟩ = some (.int .u8 ((rd_T42 t451 x13_3).f3)) ∧ w'.cell? ⟨(ad465.add ((x13_3).toNat * 9)).block, (ad465.add ((x13_3).toNat * 9)).off + 4, none⟩ = some (.int .i64 ((rd_T42 t451 x13_3).f4.f0)) ∧ w'.cell? ⟨(ad465.add ((x13_3).toNat * 9)).block, (ad465.add ((x13_3).toNat * 9)).off + 5, none⟩ = some (.int .i64 ((rd_T42 t451 x13_3).f4.f1)) ∧ w'.cell? ⟨(ad465.add ((x13_3).toNat * 9)).block, (ad465.add ((x13_3).toNat * 9)).off + 6, none⟩ = some (.int .i64 ((rd_T42 t451 x13_3).f4.f2)) ∧ w'.cell? ⟨(ad465.add ((x13_3).toNat * 9)).block, (ad465.add ((x13_3).toNat * 9)).off + 7, none⟩ = some (.int .i64 ((rd_T42 t451 x13_3).f4.f3)) ∧ w'.cell? ⟨(ad465.add ((x13_3).toNat * 9)).block, (ad465.add ((x13_3).toNat * 9)).off + 8, none⟩ = some (.slice A465_8 ((rd_T42 t451 x13_3).f5).length c465_8) ∧ w'.cell? (ad466.add ((x13_3).toNat * 9)) = some (.string ((rd_T42 l1 x13_3).f0)) ∧ w'.cell? ⟨(ad466.add ((x13_3).toNat * 9)).block, (ad466.add ((x13_3).toNat * 9)).off + 1, none⟩ = some (.string ((rd_T42 l1 x13_3).f1)) ∧ w'.cell? ⟨(ad466.add ((x13_3).toNat * 9)).block, (ad466.add ((x13_3).toNat * 9)).off + 2, none⟩ = some (.string ((rd_T42 l1 x13_3).f2)) ∧ w'.cell? ⟨(ad466.add ((x13_3).toNat * 9)).block, (ad466.add ((x13_3).toNat * 9)).off + 3, none⟩ = some (.int .u8 ((rd_T42 l1 x13_3).f3)) ∧ w'.cell? ⟨(ad466.add ((x13_3).toNat * 9)).block, (ad466.add ((x13_3).toNat * 9)).off + 4, none⟩ = some (.int .i64 ((rd_T42 l1 x13_3).f4.f0)) ∧ w'.cell? ⟨(ad466.add ((x13_3).toNat * 9)).block, (ad466.add ((x13_3).toNat * 9)).off + 5, none⟩ = some (.int .i64 ((rd_T42 l1 x13_3).f4.f1)) ∧ w'.cell? ⟨(ad466.add ((x13_3).toNat * 9)).block, (ad466.add ((x13_3).toNat * 9)).off + 6, none⟩ = some (.int .i64 ((rd_T42 l1 x13_3).f4.f2)) ∧ w'.cell? ⟨(ad466.add ((x13_3).toNat * 9)).block, (ad466.add ((x13_3).toNat * 9)).off + 7, none⟩ = some (.int .i64 ((rd_T42 l1 x13_3).f4.f3)) ∧ w'.cell? ⟨(ad466.add ((x13_3).toNat * 9)).block, (ad466.add ((x13_3).toNat * 9)).off + 8, none⟩ = some (.slice A466_8 ((rd_T42 l1 x13_3).f5).length c466_8) ∧ w'.cell? (ad468.add ((x13_3).toNat * 9)) = some (.string ((rd_T42 t455 x13_3).f0)) ∧ w'.cell? ⟨(ad468.add ((x13_3).toNat * 9)).block, (ad468.add ((x13_3).toNat * 9)).off + 1, none⟩ = some (.string ((rd_T42 t455 x13_3).f1)) ∧ w'.cell? ⟨(ad468.add ((x13_3).toNat * 9)).block, (ad468.add ((x13_3).toNat * 9)).off + 2, none⟩ = some (.string ((rd_T42 t455 x13_3).f2)) ∧ w'.cell? ⟨(ad468.add ((x13_3).toNat * 9)).block, (ad468.add ((x13_3).toNat * 9)).off + 3, none⟩ = some (.int .u8 ((rd_T42 t455 x13_3).f3)) ∧ w'.cell? ⟨(ad468.add ((x13_3).toNat * 9)).block, (ad468.add ((x13_3).toNat * 9)).off + 4, none⟩ = some (.int .i64 ((rd_T42 t455 x13_3).f4.f0)) ∧ w'.cell? ⟨(ad468.add ((x13_3).toNat * 9)).block, (ad468.add ((x13_3).toNat * 9)).off + 5, none⟩ = some (.int .i64 ((rd_T42 t455 x13_3).f4.f1)) ∧ w'.cell? ⟨(ad468.add ((x13_3).toNat * 9)).block, (ad468.add ((x13_3).toNat * 9)).off + 6, none⟩ = some (.int .i64 ((rd_T42 t455 x13_3).f4.f2)) ∧ w'.cell? ⟨(ad468.add ((x13_3).toNat * 9)).block, (ad468.add ((x13_3).toNat * 9)).off + 7, none⟩ = some (.int .i64 ((rd_T42 t455 x13_3).f4.f3)) ∧ w'.cell? ⟨(ad468.add ((x13_3).toNat * 9)).block, (ad468.add ((x13_3).toNat * 9)).off + 8, none⟩ = some (.slice A468_8 ((rd_T42 t455 x13_3).f5).length c468_8) ∧ w'.cell? (ad466.add ((x13_3).toNat * 9)) = some (.string ((rd_T42 l1 x13_3).f0)) ∧ w'.cell? ⟨(ad466.add ((x13_3).toNat * 9)).block, (ad466.add ((x13_3).toNat * 9)).off + 1, none⟩ = some (.string ((rd_T42 l1 x13_3).f1)) ∧ w'.cell? ⟨(ad466.add ((x13_3).toNat * 9)).block, (ad466.add ((x13_3).toNat * 9)).off + 2, none⟩ = some (.string ((rd_T42 l1 x13_3).f2)) ∧ w'.cell? ⟨(ad466.add ((x13_3).toNat * 9)).block, (ad466.add ((x13_3).toNat * 9)).off + 3, none⟩ = some (.int .u8 ((rd_T42 l1 x13_3).f3)) ∧ w'.cell? ⟨(ad466.add ((x13_3).toNat * 9)).block, (ad466.add ((x13_3).toNat * 9)).off + 4, none⟩ = some (.int .i64 ((rd_T42 l1 x13_3).f4.f0)) ∧ w'.cell? ⟨(ad466.add ((x13_3).toNat * 9)).block, (ad466.add ((x13_3).toNat * 9)).off + 5, none⟩ = some (.int .i64 ((rd_T42 l1 x13_3).f4.f1)) ∧ w'.cell? ⟨(ad466.add ((x13_3).toNat * 9)).block, (ad466.add ((x13_3).toNat * 9)).off + 6, none⟩ = some (.int .i64 ((rd_T42 l1 x13_3).f4.f2)) ∧ w'.cell? ⟨(ad466.add ((x13_3).toNat * 9)).block, (ad466.add ((x13_3).toNat * 9)).off + 7, none⟩ = some (.int .i64 ((rd_T42 l1 x13_3).f4.f3)) ∧ w'.cell? ⟨(ad466.add ((x13_3).toNat * 9)).block, (ad466.add ((x13_3).toNat * 9)).off + 8, none⟩ = some (.slice A469_8 ((rd_T42 l1 x13_3).f5).length c469_8)) (ds := []) q7_0 (by kernel_rfl) rfl rfl ⟨hx465_0, hx465_1, hx465_2, hx465_3, hx465_4, hx465_5, hx465_6, hx465_7, hx465_8, ((HB.out.cell (World.block_lt_of_cell? w _ hw466_0)).trans hw466_0), ((HB.out.cell (World.block_lt_of_cell? w _ hw466_1)).trans hw466_1), ((HB.out.cell (World.block_lt_of_cell? w _ hw466_2)).trans hw466_2), ((HB.out.cell (World.block_lt_of_cell? w _ hw466_3)).trans hw466_3), ((HB.out.cell (World.block_lt_of_cell? w _ hw466_4)).trans hw466_4), ((HB.out.cell (World.block_lt_of_cell? w _ hw466_5)).trans hw466_5), ((HB.out.cell (World.block_lt_of_cell? w _ hw466_6)).trans hw466_6), ((HB.out.cell (World.block_lt_of_cell? w _ hw466_7)).trans hw466_7), ((HB.out.cell (World.block_lt_of_cell? w _ hw466_8)).trans hw466_8), hx468_0, hx468_1, hx468_2, hx468_3, hx468_4, hx468_5, hx468_6, hx468_7, hx468_8, ((HB.out.cell (World.block_lt_of_cell? w _ hw469_0)).trans hw469_0), ((HB.out.cell (World.block_lt_of_cell? w _ hw469_1)).trans hw469_1), ((HB.out.cell (World.block_lt_of_cell? w _ hw469_2)).trans hw469_2), ((HB.out.cell (World.block_lt_of_cell? w _ hw469_3)).trans hw469_3), ((HB.out.cell (World.block_lt_of_cell? w _ hw469_4)).trans hw469_4), ((HB.out.cell (World.block_lt_of_cell? w _ hw469_5)).trans hw469_5), ((HB.out.cell (World.block_lt_of_cell? w _ hw469_6)).trans hw469_6), ((HB.out.cell (World.block_lt_of_cell? w _ hw469_7)).trans hw469_7), ((HB.out.cell (World.block_lt_of_cell? w _ hw469_8)).trans hw469_8)⟩ (fun hHeld => ?_); refine with_tabW bindlelaw21_MergeOne.tab11 bindlelaw21_MergeOne.bits11 (fun HT_ HW_ => ?_)
       generalize wr.drew = w45 at HO_7 HO_9 HB HL465_8 HL468_8 HR465_8 HR466_8 HR468_8 HR469_8 hx465_0 hx465_1 hx465_2 hx465_3 hx465_4 hx465_5 hx465_6 hx465_7 hx465_8 hx466_0 hx466_1 hx466_2 hx466_3 hx466_4 hx466_5 hx466_6 hx466_7 hx466_8 hx468_0 hx468_1 hx468_2 hx468_3 hx468_4 hx468_5 hx468_6 hx468_7 hx468_8 hx469_0 hx469_1 hx469_2 hx469_3 hx469_4 hx469_5 hx469_6 hx469_7 hx469_8 hHeld ⊢
       refine pur_ (i := 0) (N := some 87) q7_1 (any_of HT_.out (by kernel_rfl)) ?_
       refine pur_ (i := 1) (N := some 88) q7_2 (any_of HT_.out (by kernel_rfl)) ?_
       refine pur_ (i := 2) (N := some 89) q7_3 (any_of HT_.out (by kernel_rfl)) ?_
       refine pur_ (i := 4) (N := some 91) q7_4 (any_of HT_.out (by kernel_rfl)) ?_
       refine pur_ (i := 5) (N := some 92) q7_5 (any_of HT_.out (by kernel_rfl)) ?_
       refine pur_ (i := 6) (N := some 93) q7_6 (any_of HT_.out (by kernel_rfl)) ?_
       refine take_ (i := 3) (N := some 90) (v := ?_) (a' := ?_) q7_7 rfl rfl (take_ofW HT_.out HW_.out (by kernel_rfl)) (fun _ _ _ h => h) (Or.inl ⟨by rfl, ?_⟩) hHeld ?_ ?_
       rotate_left
       ·rintro w' ⟨s0, s1, s2, s3, s4, s5, s6, s7, s8, s9, s10, s11, s12, s13, s14, s15, s16, s17, s18, s19, s20, s21, s22, s23, s24, s25, s26, s27, s28, s29, s30, s31, s32, s33, s34, s35⟩
        go_simp
        with_reducible rfl
       rotate_left
       ·simp only [Act.put, List.setIfInBounds_toArray, List.set_cons_zero, List.set_cons_succ, i64_w, i32_w]
        rfl
       refine take_ (i := 7) (N := some 94) (v := ?_) (a' := ?_) q7_8 rfl rfl (take_ofW HT_.out HW_.out (by kernel_rfl)) (fun _ _ _ h => h) (Or.inl ⟨by rfl, ?_⟩) hHeld ?_ ?_
       rotate_left
       ·rintro w' ⟨s0, s1, s2, s3, s4, s5, s6, s7, s8, s9, s10, s11, s12, s13, s14, s15, s16, s17, s18, s19, s20, s21, s22, s23, s24, s25, s26, s27, s28, s29, s30, s31, s32, s33, s34, s35⟩
        go_simp
        with_reducible rfl
       rotate_left
       ·simp only [Act.put, List.setIfInBounds_toArray, List.set_cons_zero, List.set_cons_succ, i64_w, i32_w]
        rfl
       refine one_ (i := 8) (N := some 95) q7_9 rfl rfl (one_of HT_.out (by kernel_rfl)) (by decide) (fun K hK => ?_)
       refine goes_ Tryz.func19 (by kernel_rfl) rfl #[.agg #[.string ((rd_T42 t451 x13_3).f0), .string ((rd_T42 t451 x13_3).f1), .string ((rd_T42 t451 x13_3).f2), .int .u8 ((rd_T42 t451 x13_3).f3), .int .i64 ((rd_T42 t451 x13_3).f4.f0), .int .i64 ((rd_T42 t451 x13_3).f4.f1), .int .i64 ((rd_T42 t451 x13_3).f4.f2), .int .i64 ((rd_T42 t451 x13_3).f4.f3), .slice A465_8 ((rd_T42 t451 x13_3).f5).length c465_8], .agg #[.string ((rd_T42 l1 x13_3).f0), .string ((rd_T42 l1 x13_3).f1), .string ((rd_T42 l1 x13_3).f2), .int .u8 ((rd_T42 l1 x13_3).f3), .int .i64 ((rd_T42 l1 x13_3).f4.f0), .int .i64 ((rd_T42 l1 x13_3).f4.f1), .int .i64 ((rd_T42 l1 x13_3).f4.f2), .int .i64 ((rd_T42 l1 x13_3).f4.f3), .slice A466_8 ((rd_T42 l1 x13_3).f5).length c466_8]] (by rfl) rfl rfl wm_ ?_
       with_reducible refine (bindleref08_Equal.calls ((rd_T42 t451 x13_3).f0) ((rd_T42 t451 x13_3).f1) ((rd_T42 t451 x13_3).f2) ((rd_T42 t451 x13_3).f3) ((rd_T42 t451 x13_3).f4.f0) ((rd_T42 t451 x13_3).f4.f1) ((rd_T42 t451 x13_3).f4.f2) ((rd_T42 t451 x13_3).f4.f3) _ _ ((rd_T42 t451 x13_3).f5) ((rd_T42 l1 x13_3).f0) ((rd_T42 l1 x13_3).f1) ((rd_T42 l1 x13_3).f2) ((rd_T42 l1 x13_3).f3) ((rd_T42 l1 x13_3).f4.f0) ((rd_T42 l1 x13_3).f4.f1) ((rd_T42 l1 x13_3).f4.f2) ((rd_T42 l1 x13_3).f4.f3) _ _ ((rd_T42 l1 x13_3).f5) true _ ?side1 ?side2 ?side3 ?side4 A40.out).mono ?_
       (case side1 => repeat (first | exact (by repeat (first | (with_reducible exact HR465_8.out) | (with_reducible refine Ca_ ?_ _) | (with_reducible refine CN_ ?_ _) | (with_reducible refine C1_ ?_) | exact HR465_8.out)) | (with_reducible refine Ca_ ?_ _) | (with_reducible refine CN_ ?_ _) | (with_reducible refine C1_ ?_)))
       (case side2 => exact HC465_8.out)
       (case side3 => exact wc_ (Kd.C_below HR466_8.out HB.out))
       (case side4 => exact HC466_8.out)
       rintro e w47 ⟨rfl, hb⟩
       have nx_ := A0_ (Vb_ (wV_ HL468_8.out) hb)
       have ny_ := A0_ (Kd.C_below (by repeat (first | (with_reducible exact HR468_8.out) | (with_reducible refine Ca_ ?_ _) | (with_reducible refine CN_ ?_ _) | (with_reducible refine C1_ ?_) | exact HR468_8.out)) hb)
       clear HL468_8
       clear HR468_8
       have HL468_8 := nx_
       have HR468_8 := ny_
       have HS0_ := (hb.cell (World.block_lt_of_cell? _ _ (hHeld.1))).trans (hHeld.1)
       have HS1_ := (hb.cell (World.block_lt_of_cell? _ _ (hHeld.2.1))).trans (hHeld.2.1)
       have HS2_ := (hb.cell (World.block_lt_of_cell? _ _ (hHeld.2.2.1))).trans (hHeld.2.2.1)
       have HS3_ := (hb.cell (World.block_lt_of_cell? _ _ (hHeld.2.2.2.1))).trans (hHeld.2.2.2.1)
       have HS4_ := (hb.cell (World.block_lt_of_cell? _ _ (hHeld.2.2.2.2.1))).trans (hHeld.2.2.2.2.1)
       have HS5_ := (hb.cell (World.block_lt_of_cell? _ _ (hHeld.2.2.2.2.2.1))).trans (hHeld.2.2.2.2.2.1)
       have HS6_ := (hb.cell (World.block_lt_of_cell? _ _ (hHeld.2.2.2.2.2.2.1))).trans (hHeld.2.2.2.2.2.2.1)
       have HS7_ := (hb.cell (World.block_lt_of_cell? _ _ (hHeld.2.2.2.2.2.2.2.1))).trans (hHeld.2.2.2.2.2.2.2.1)
       have HS8_ := (hb.cell (World.block_lt_of_cell? _ _ (hHeld.2.2.2.2.2.2.2.2.1))).trans (hHeld.2.2.2.2.2.2.2.2.1)
       have HS18_ := (hb.cell (World.block_lt_of_cell? _ _ (hHeld.2.2.2.2.2.2.2.2.2.2.2.2.2.2.2.2.2.2.1))).trans (hHeld.2.2.2.2.2.2.2.2.2.2.2.2.2.2.2.2.2.2.1)
       have HS19_ := (hb.cell (World.block_lt_of_cell? _ _ (hHeld.2.2.2.2.2.2.2.2.2.2.2.2.2.2.2.2.2.2.2.1))).trans (hHeld.2.2.2.2.2.2.2.2.2.2.2.2.2.2.2.2.2.2.2.1)
       have HS20_ := (hb.cell (World.block_lt_of_cell? _ _ (hHeld.2.2.2.2.2.2.2.2.2.2.2.2.2.2.2.2.2.2.2.2.1))).trans (hHeld.2.2.2.2.2.2.2.2.2.2.2.2.2.2.2.2.2.2.2.2.1)
       have HS21_ := (hb.cell (World.block_lt_of_cell? _ _ (hHeld.2.2.2.2.2.2.2.2.2.2.2.2.2.2.2.2.2.2.2.2.2.1))).trans (hHeld.2.2.2.2.2.2.2.2.2.2.2.2.2.2.2.2.2.2.2.2.2.1)
       have HS22_ := (hb.cell (World.block_lt_of_cell? _ _ (hHeld.2.2.2.2.2.2.2.2.2.2.2.2.2.2.2.2.2.2.2.2.2.2.1))).trans (hHeld.2.2.2.2.2.2.2.2.2.2.2.2.2.2.2.2.2.2.2.2.2.2.1)
       have HS23_ := (hb.cell (World.block_lt_of_cell? _ _ (hHeld.2.2.2.2.2.2.2.2.2.2.2.2.2.2.2.2.2.2.2.2.2.2.2.1))).trans (hHeld.2.2.2.2.2.2.2.2.2.2.2.2.2.2.2.2.2.2.2.2.2.2.2.1)
       have HS24_ := (hb.cell (World.block_lt_of_cell? _ _ (hHeld.2.2.2.2.2.2.2.2.2.2.2.2.2.2.2.2.2.2.2.2.2.2.2.2.1))).trans (hHeld.2.2.2.2.2.2.2.2.2.2.2.2.2.2.2.2.2.2.2.2.2.2.2.2.1)
       have HS25_ := (hb.cell (World.block_lt_of_cell? _ _ (hHeld.2.2.2.2.2.2.2.2.2.2.2.2.2.2.2.2.2.2.2.2.2.2.2.2.2.1))).trans (hHeld.2.2.2.2.2.2.2.2.2.2.2.2.2.2.2.2.2.2.2.2.2.2.2.2.2.1)
       have HS26_ := (hb.cell (World.block_lt_of_cell? _ _ (hHeld.2.2.2.2.2.2.2.2.2.2.2.2.2.2.2.2.2.2.2.2.2.2.2.2.2.2.1))).trans (hHeld.2.2.2.2.2.2.2.2.2.2.2.2.2.2.2.2.2.2.2.2.2.2.2.2.2.2.1)
       refine ⟨_, rfl, ?_⟩
       have n0_ := A0_ (Vb_ (wV_ HO_7.out) hb)
       have n1_ := A0_ (Vb_ (wV_ HO_9.out) hb)
       have n2_ := A0_ (Vb_ (wV_ HL465_8.out) hb)
       have n3_ := A0_ (Kd.C_below (by repeat (first | (with_reducible exact HR465_8.out) | (with_reducible refine Ca_ ?_ _) | (with_reducible refine CN_ ?_ _) | (with_reducible refine C1_ ?_) | exact HR465_8.out)) hb)
       have n4_ := A0_ (below_step (wb_ HB.out) hb)
       clear HO_7
       clear HO_9
       clear HL465_8
       clear HR465_8
       clear HB
       have HO_7 := n0_
       have HO_9 := n1_
       have HL465_8 := n2_
       have HR465_8 := n3_
       have HB := n4_
       clear n0_ n1_ n2_ n3_ n4_
       (try clear hb)
       (try clear hb2)
       (try clear hk)
       (try clear hi)
       obtain ⟨Ao48, co48, eo48⟩ := Kd.V_slice HO_9.out
       (first | subst eo48 | (injection eo48 with f1_ f2_ f3_; have f4_ := f1_.symm; have f5_ := f3_.symm; clear f1_ f2_ f3_; subst f4_; subst f5_))
       refine hK.out _ _ ⟨HS0_, HS1_, HS2_, HS3_, HS4_, HS5_, HS6_, HS7_, HS8_, ((HB.out.cell (World.block_lt_of_cell? w _ hw466_0)).trans hw466_0), ((HB.out.cell (World.block_lt_of_cell? w _ hw466_1)).trans hw466_1), ((HB.out.cell (World.block_lt_of_cell? w _ hw466_2)).trans hw466_2), ((HB.out.cell (World.block_lt_of_cell? w _ hw466_3)).trans hw466_3), ((HB.out.cell (World.block_lt_of_cell? w _ hw466_4)).trans hw466_4), ((HB.out.cell (World.block_lt_of_cell? w _ hw466_5)).trans hw466_5), ((HB.out.cell (World.block_lt_of_cell? w _ hw466_6)).trans hw466_6), ((HB.out.cell (World.block_lt_of_cell? w _ hw466_7)).trans hw466_7), ((HB.out.cell (World.block_lt_of_cell? w _ hw466_8)).trans hw466_8), HS18_, HS19_, HS20_, HS21_, HS22_, HS23_, HS24_, HS25_, HS26_, ((HB.out.cell (World.block_lt_of_cell? w _ hw469_0)).trans hw469_0), ((HB.out.cell (World.block_lt_of_cell? w _ hw469_1)).trans hw469_1), ((HB.out.cell (World.block_lt_of_cell? w _ hw469_2)).trans hw469_2), ((HB.out.cell (World.block_lt_of_cell? w _ hw469_3)).trans hw469_3), ((HB.out.cell (World.block_lt_of_cell? w _ hw469_4)).trans hw469_4), ((HB.out.cell (World.block_lt_of_cell? w _ hw469_5)).trans hw469_5), ((HB.out.cell (World.block_lt_of_cell? w _ hw469_6)).trans hw469_6), ((HB.out.cell (World.block_lt_of_cell? w _ hw469_7)).trans hw469_7), ((HB.out.cell (World.block_lt_of_cell? w _ hw469_8)).trans hw469_8)⟩ (fun hHeld => ?_)
       clear hK K
       refine norm_ (a' := ?_) ?_ ?_
       rotate_left
       ·show Act.put _ (some 95) _ = _
        simp only [Act.put, List.setIfInBounds_toArray, List.set_cons_zero, List.set_cons_succ, i64_w, i32_w]
        rfl
       refine pur_ (i := 9) (N := some 96) q7_10 (any_of HT_.out (by kernel_rfl)) ?_
       refine pur_ (i := 10) (N := some 97) q7_11 (any_of HT_.out (by kernel_rfl)) ?_
       refine pur_ (i := 11) (N := some 98) q7_12 (any_of HT_.out (by kernel_rfl)) ?_
       refine pur_ (i := 12) (N := some 99) q7_13 (any_of HT_.out (by kernel_rfl)) ?_
       refine pur_ (i := 13) (N := some 100) q7_14 (any_of HT_.out (by kernel_rfl)) ?_
       refine pur_ (i := 15) (N := some 102) q7_23 (any_of HT_.out (by kernel_rfl)) ?_
       refine pur_ (i := 16) (N := some 103) q7_24 (any_of HT_.out (by kernel_rfl)) ?_
       refine pur_ (i := 17) (N := some 104) q7_25 (any_of HT_.out (by kernel_rfl)) ?_
       refine take_ (i := 14) (N := some 101) (v := ?_) (a' := ?_) q7_18 rfl rfl (take_ofW HT_.out HW_.out (by kernel_rfl)) (fun _ _ _ h => h) (Or.inl ⟨by rfl, ?_⟩) hHeld ?_ ?_
       rotate_left
       ·rintro w' ⟨s0, s1, s2, s3, s4, s5, s6, s7, s8, s9, s10, s11, s12, s13, s14, s15, s16, s17, s18, s19, s20, s21, s22, s23, s24, s25, s26, s27, s28, s29, s30, s31, s32, s33, s34, s35⟩
        go_simp
        with_reducible rfl
       rotate_left
       ·simp only [Act.put, List.setIfInBounds_toArray, List.set_cons_zero, List.set_cons_succ, i64_w, i32_w]
        rfl
       refine take_ (i := 18) (N := some 105) (v := ?_) (a' := ?_) q7_19 rfl rfl (take_ofW HT_.out HW_.out (by kernel_rfl)) (fun _ _ _ h => h) (Or.inl ⟨by rfl, ?_⟩) hHeld ?_ ?_
       rotate_left
       ·rintro w' ⟨s0, s1, s2, s3, s4, s5, s6, s7, s8, s9, s10, s11, s12, s13, s14, s15, s16, s17, s18, s19, s20, s21, s22, s23, s24, s25, s26, s27, s28, s29, s30, s31, s32, s33, s34, s35⟩
        go_simp
        with_reducible rfl
       rotate_left
       ·simp only [Act.put, List.setIfInBounds_toArray, List.set_cons_zero, List.set_cons_succ, i64_w, i32_w]
        rfl
       refine one_ (i := 19) (N := some 106) q7_20 rfl rfl (one_of HT_.out (by kernel_rfl)) (by decide) (fun K hK => ?_)
       refine goes_ Tryz.func19 (by kernel_rfl) rfl #[.agg #[.string ((rd_T42 t455 x13_3).f0), .string ((rd_T42 t455 x13_3).f1), .string ((rd_T42 t455 x13_3).f2), .int .u8 ((rd_T42 t455 x13_3).f3), .int .i64 ((rd_T42 t455 x13_3).f4.f0), .int .i64 ((rd_T42 t455 x13_3).f4.f1), .int .i64 ((rd_T42 t455 x13_3).f4.f2), .int .i64 ((rd_T42 t455 x13_3).f4.f3), .slice A468_8 ((rd_T42 t455 x13_3).f5).length c468_8], .agg #[.string ((rd_T42 l1 x13_3).f0), .string ((rd_T42 l1 x13_3).f1), .string ((rd_T42 l1 x13_3).f2), .int .u8 ((rd_T42 l1 x13_3).f3), .int .i64 ((rd_T42 l1 x13_3).f4.f0), .int .i64 ((rd_T42 l1 x13_3).f4.f1), .int .i64 ((rd_T42 l1 x13_3).f4.f2), .int .i64 ((rd_T42 l1 x13_3).f4.f3), .slice A466_8 ((rd_T42 l1 x13_3).f5).length c466_8]] (by rfl) rfl rfl wm_ ?_
       with_reducible refine (bindleref08_Equal.calls ((rd_T42 t455 x13_3).f0) ((rd_T42 t455 x13_3).f1) ((rd_T42 t455 x13_3).f2) ((rd_T42 t455 x13_3).f3) ((rd_T42 t455 x13_3).f4.f0) ((rd_T42 t455 x13_3).f4.f1) ((rd_T42 t455 x13_3).f4.f2) ((rd_T42 t455 x13_3).f4.f3) _ _ ((rd_T42 t455 x13_3).f5) ((rd_T42 l1 x13_3).f0) ((rd_T42 l1 x13_3).f1) ((rd_T42 l1 x13_3).f2) ((rd_T42 l1 x13_3).f3) ((rd_T42 l1 x13_3).f4.f0) ((rd_T42 l1 x13_3).f4.f1) ((rd_T42 l1 x13_3).f4.f2) ((rd_T42 l1 x13_3).f4.f3) _ _ ((rd_T42 l1 x13_3).f5) true _ ?side1 ?side2 ?side3 ?side4 A43.out).mono ?_
       (case side1 => repeat (first | exact (by repeat (first | (with_reducible exact HR468_8.out) | (with_reducible refine Ca_ ?_ _) | (with_reducible refine CN_ ?_ _) | (with_reducible refine C1_ ?_) | exact HR468_8.out)) | (with_reducible refine Ca_ ?_ _) | (with_reducible refine CN_ ?_ _) | (with_reducible refine C1_ ?_)))
       (case side2 => exact HC468_8.out)
       (case side3 => exact wc_ (Kd.C_below HR466_8.out HB.out))
       (case side4 => exact HC466_8.out)
       rintro e w49 ⟨rfl, hb⟩
       have HS0_ := (hb.cell (World.block_lt_of_cell? _ _ (hHeld.1))).trans (hHeld.1)
       have HS1_ := (hb.cell (World.block_lt_of_cell? _ _ (hHeld.2.1))).trans (hHeld.2.1)
       have HS2_ := (hb.cell (World.block_lt_of_cell? _ _ (hHeld.2.2.1))).trans (hHeld.2.2.1)
       have HS3_ := (hb.cell (World.block_lt_of_cell? _ _ (hHeld.2.2.2.1))).trans (hHeld.2.2.2.1)
       have HS4_ := (hb.cell (World.block_lt_of_cell? _ _ (hHeld.2.2.2.2.1))).trans (hHeld.2.2.2.2.1)
       have HS5_ := (hb.cell (World.block_lt_of_cell? _ _ (hHeld.2.2.2.2.2.1))).trans (hHeld.2.2.2.2.2.1)
       have HS6_ := (hb.cell (World.block_lt_of_cell? _ _ (hHeld.2.2.2.2.2.2.1))).trans (hHeld.2.2.2.2.2.2.1)
       have HS7_ := (hb.cell (World.block_lt_of_cell? _ _ (hHeld.2.2.2.2.2.2.2.1))).trans (hHeld.2.2.2.2.2.2.2.1)
       have HS8_ := (hb.cell (World.block_lt_of_cell? _ _ (hHeld.2.2.2.2.2.2.2.2.1))).trans (hHeld.2.2.2.2.2.2.2.2.1)
       have HS18_ := (hb.cell (World.block_lt_of_cell? _ _ (hHeld.2.2.2.2.2.2.2.2.2.2.2.2.2.2.2.2.2.2.1))).trans (hHeld.2.2.2.2.2.2.2.2.2.2.2.2.2.2.2.2.2.2.1)
       have HS19_ := (hb.cell (World.block_lt_of_cell? _ _ (hHeld.2.2.2.2.2.2.2.2.2.2.2.2.2.2.2.2.2.2.2.1))).trans (hHeld.2.2.2.2.2.2.2.2.2.2.2.2.2.2.2.2.2.2.2.1)
       have HS20_ := (hb.cell (World.block_lt_of_cell? _ _ (hHeld.2.2.2.2.2.2.2.2.2.2.2.2.2.2.2.2.2.2.2.2.1))).trans (hHeld.2.2.2.2.2.2.2.2.2.2.2.2.2.2.2.2.2.2.2.2.1)
       have HS21_ := (hb.cell (World.block_lt_of_cell? _ _ (hHeld.2.2.2.2.2.2.2.2.2.2.2.2.2.2.2.2.2.2.2.2.2.1))).trans (hHeld.2.2.2.2.2.2.2.2.2.2.2.2.2.2.2.2.2.2.2.2.2.1)
       have HS22_ := (hb.cell (World.block_lt_of_cell? _ _ (hHeld.2.2.2.2.2.2.2.2.2.2.2.2.2.2.2.2.2.2.2.2.2.2.1))).trans (hHeld.2.2.2.2.2.2.2.2.2.2.2.2.2.2.2.2.2.2.2.2.2.2.1)
       have HS23_ := (hb.cell (World.block_lt_of_cell? _ _ (hHeld.2.2.2.2.2.2.2.2.2.2.2.2.2.2.2.2.2.2.2.2.2.2.2.1))).trans (hHeld.2.2.2.2.2.2.2.2.2.2.2.2.2.2.2.2.2.2.2.2.2.2.2.1)
       have HS24_ := (hb.cell (World.block_lt_of_cell? _ _ (hHeld.2.2.2.2.2.2.2.2.2.2.2.2.2.2.2.2.2.2.2.2.2.2.2.2.1))).trans (hHeld.2.2.2.2.2.2.2.2.2.2.2.2.2.2.2.2.2.2.2.2.2.2.2.2.1)
       have HS25_ := (hb.cell (World.block_lt_of_cell? _ _ (hHeld.2.2.2.2.2.2.2.2.2.2.2.2.2.2.2.2.2.2.2.2.2.2.2.2.2.1))).trans (hHeld.2.2.2.2.2.2.2.2.2.2.2.2.2.2.2.2.2.2.2.2.2.2.2.2.2.1)
       have HS26_ := (hb.cell (World.block_lt_of_cell? _ _ (hHeld.2.2.2.2.2.2.2.2.2.2.2.2.2.2.2.2.2.2.2.2.2.2.2.2.2.2.1))).trans (hHeld.2.2.2.2.2.2.2.2.2.2.2.2.2.2.2.2.2.2.2.2.2.2.2.2.2.2.1)
       refine ⟨_, rfl, ?_⟩
       have n0_ := A0_ (Vb_ (wV_ HO_7.out) hb)
       have n1_ := A0_ (Vb_ (wV_ HO_9.out) hb)
       have n2_ := A0_ (Vb_ (wV_ HL465_8.out) hb)
       have n3_ := A0_ (Vb_ (wV_ HL468_8.out) hb)
       have n4_ := A0_ (Kd.C_below (by repeat (first | (with_reducible exact HR465_8.out) | (with_reducible refine Ca_ ?_ _) | (with_reducible refine CN_ ?_ _) | (with_reducible refine C1_ ?_) | exact HR465_8.out)) hb)
       have n5_ := A0_ (Kd.C_below (by repeat (first | (with_reducible exact HR468_8.out) | (with_reducible refine Ca_ ?_ _) | (with_reducible refine CN_ ?_ _) | (with_reducible refine C1_ ?_) | exact HR468_8.out)) hb)
       have n6_ := A0_ (below_step (wb_ HB.out) hb)
       clear HO_7
       clear HO_9
       clear HL465_8
       clear HL468_8
       clear HR465_8
       clear HR468_8
       clear HB
       have HO_7 := n0_
       have HO_9 := n1_
       have HL465_8 := n2_
       have HL468_8 := n3_
       have HR465_8 := n4_
       have HR468_8 := n5_
       have HB := n6_
       clear n0_ n1_ n2_ n3_ n4_ n5_ n6_
       (try clear hb)
       (try clear hb2)
       (try clear hk)
       (try clear hi)
       refine hK.out _ _ ⟨HS0_, HS1_, HS2_, HS3_, HS4_, HS5_, HS6_, HS7_, HS8_, ((HB.out.cell (World.block_lt_of_cell? w _ hw466_0)).trans hw466_0), ((HB.out.cell (World.block_lt_of_cell? w _ hw466_1)).trans hw466_1), ((HB.out.cell (World.block_lt_of_cell? w _ hw466_2)).trans hw466_2), ((HB.out.cell (World.block_lt_of_cell? w _ hw466_3)).trans hw466_3), ((HB.out.cell (World.block_lt_of_cell? w _ hw466_4)).trans hw466_4), ((HB.out.cell (World.block_lt_of_cell? w _ hw466_5)).trans hw466_5), ((HB.out.cell (World.block_lt_of_cell? w _ hw466_6)).trans hw466_6), ((HB.out.cell (World.block_lt_of_cell? w _ hw466_7)).trans hw466_7), ((HB.out.cell (World.block_lt_of_cell? w _ hw466_8)).trans hw466_8), HS18_, HS19_, HS20_, HS21_, HS22_, HS23_, HS24_, HS25_, HS26_, ((HB.out.cell (World.block_lt_of_cell? w _ hw469_0)).trans hw469_0), ((HB.out.cell (World.block_lt_of_cell? w _ hw469_1)).trans hw469_1), ((HB.out.cell (World.block_lt_of_cell? w _ hw469_2)).trans hw469_2), ((HB.out.cell (World.block_lt_of_cell? w _ hw469_3)).trans hw469_3), ((HB.out.cell (World.block_lt_of_cell? w _ hw469_4)).trans hw469_4), ((HB.out.cell (World.block_lt_of_cell? w _ hw469_5)).trans hw469_5), ((HB.out.cell (World.block_lt_of_cell? w _ hw469_6)).trans hw469_6), ((HB.out.cell (World.block_lt_of_cell? w _ hw469_7)).trans hw469_7), ((HB.out.cell (World.block_lt_of_cell? w _ hw469_8)).trans hw469_8)⟩ (fun hHeld => ?_)
       clear hK K
       refine norm_ (a' := ?_) ?_ ?_
       rotate_left
       ·show Act.put _ (some 106) _ = _
        simp only [Act.put, List.setIfInBounds_toArray, List.set_cons_zero, List.set_cons_succ, i64_w, i32_w]
        rfl
       refine pur_ (i := 20) (N := some 107) q7_21 (any_of HT_.out (by kernel_rfl)) ?_
       refine pur_ (i := 21) (N := some 108) q7_22 (any_of HT_.out (by kernel_rfl)) ?_
       refine done_ (done_of HT_.out (by kernel_rfl)) ?_
       try go_wp2
       go_roundg k3
       case measure => have := HJ3.out; have := HJ16.out; have := HK3.out; omega
       case rel => exact ⟨(wrap64 (x13_3 + 1)), wr_, H', ⟨by have := HJ3.out; have := HJ16.out; have := HK3.out; omega⟩, ⟨wV_ HO_7.out⟩, ⟨wV_ HO_9.out⟩, ⟨wb_ HB.out⟩⟩
end Go.Proofs.YtbngbefchobfnaaGreatDoor.Print

namespace Go.Proofs.YtbngbefchobfnaaGreatDoor
open Go.RowKit Go.Proofs.YtbngbefchobfnaaGreatDoor.Print Go.Proofs.YtbngbefchobfnaaGreatDoorW.PrintWords
set_option linter.unusedVariables false
theorem one_loop (o x y : List Node) (hx : x.length = o.length) (hy : y.length = o.length) (hl : o.length ≤ 1000000) (ex : ∀ (i : Nat) (hi : i < x.length) (hi' : i < o.length), equalB x[i] o[i] = true) (ey : ∀ (i : Nat) (hi : i < y.length) (hi' : i < o.length), equalB y[i] o[i] = true) : ∀ (d i : Nat), i + d = o.length → Ev (fun k => bindlelaw21_MergeOne.l0 k o x y (i : Int)) true := by
 intro d
 induction d with
 | zero =>
  intro i hi
  refine Ev.step (f := fun _ => some true) (fun k => ?_) (Ev.now true)
  rw [bindlelaw21_MergeOne.l0, if_neg (by omega), bindlelaw21_answers.val]
  rfl
 | succ d ih =>
  intro i hi
  have hi0 : i < o.length := by omega
  have hi1 : i < x.length := by omega
  have hi2 : i < y.length := by omega
  refine Ev.step (fun k => ?_) (ih (i + 1) (by omega))
  rw [bindlelaw21_MergeOne.l0, if_pos (by omega), if_pos (by omega), if_pos (by omega), rdN_n x i hi1, rdN_n o i hi0, rdN_n y i hi2, requal_f, ex i hi1 hi0, Option.bind_some, if_pos rfl, if_pos (by omega), requal_f, ey i hi2 hi0, Option.bind_some, if_pos rfl, show wrap64 ((i : Int) + 1) = ((i + 1 : Nat) : Int) from w_one i (by omega)]
theorem one_ans (b o : List Node) (q : Int) : Ev (fun k => bindlelaw21_MergeOne.j0 k b o q true) true := by
 refine Ev.step (f := fun _ => some true) (fun k => ?_) (Ev.now true)
 rw [bindlelaw21_MergeOne.j0, if_pos rfl, bindlelaw21_answers.val]
 rfl
theorem MergeOne_true (b o : List Node) (q : Int) (hb : ∀ x ∈ b, NodeZ x) (ho : ∀ x ∈ o, NodeZ x) : Ev (fun k => bindlelaw21_MergeOne.f k b o q) true := by
 obtain ⟨r, h1, h2⟩ := good3_eq b o [] hb ho (fun x hx => by cases hx)
 unfold bindlelaw21_MergeOne.f
 refine Ev.bind h1 ?_
 cases r with
 | false => exact Ev.congr (fun k => by rw [if_neg (by decide)]) (one_ans b o q)
 | true =>
  have h := h2 rfl
  have hx : Good3 b o b := ⟨h.gb, h.go, h.gb, h.zb, h.zo, h.zb, h.lb, h.lo, h.lb⟩
  have hy : Good3 b b o := ⟨h.gb, h.gb, h.go, h.zb, h.zb, h.zo, h.lb, h.lb, h.lo⟩
  have hz : Good3 b o o := ⟨h.gb, h.go, h.go, h.zb, h.zo, h.zo, h.lb, h.lo, h.lo⟩
  by_cases q1 : q < 1
  ·exact Ev.congr (fun k => by rw [if_pos rfl, if_pos q1]) (one_ans b o q)
  ·by_cases q4 : q > 4
   ·exact Ev.congr (fun k => by rw [if_pos rfl, if_neg q1, decide_eq_true q4]) (one_ans b o q)
   ·obtain ⟨m1, m2, m3, m4, ⟨m5, m6⟩, m7, m8⟩ := merge_one h.gb h.go ⟨hx.len, hy.len, hz.len⟩ (q := q) (by omega) (by omega)
    refine Ev.congr (fun k => by rw [if_pos rfl, if_neg q1, decide_eq_false q4]) ?_
    refine Ev.step (f := fun k => (bindleref08_SameTree.f k (mergeF b o o q).1 o).bind fun t => _) (fun k => by rw [bindlelaw21_MergeOne.j0, if_neg (by decide), hx.merge q, Option.bind_some, hy.merge q, Option.bind_some, hz.merge q, Option.bind_some, if_pos m1, if_pos m2, if_pos m3]) ?_
    refine Ev.bind (msame_ev m4 (merge_small (merge_good m3))) ?_
    have hlo := h.lo
    refine Ev.congr (fun k => ?_) (Ev.step (f := fun k => bindlelaw21_MergeOne.l0 k o (mergeF b o b q).1 (mergeF b b o q).1 0) (g := fun k => bindlelaw21_MergeOne.j1 k o (mergeF b o b q).1 (mergeF b b o q).1 false) (fun k => by rw [bindlelaw21_MergeOne.j1, if_neg (by decide)]) (one_loop o _ _ m5 m7 (by omega) m6 m8 o.length 0 (by omega)))
    rw [if_pos rfl, if_pos (by omega), show (((mergeF b b o q).1.length : Int) != (o.length : Int)) = false from by rw [bne_eq_false_iff_eq]; omega]
end Go.Proofs.YtbngbefchobfnaaGreatDoor

namespace Go.Proofs.YtbngbefchobfnaaGreatDoor
open Go.RowKit Go.Lib Go.Proofs.YtbngbefchobfnaaGreatDoorW.PrintWords
theorem laidOut : laidOutB Tryz.prog = true := by kernel_rfl
end Go.Proofs.YtbngbefchobfnaaGreatDoor

namespace Go.Proofs.YtbngbefchobfnaaGreatDoor
open Go.ChangeShapes Go.WideShapes Go.RowKit Go.Proofs.YtbngbefchobfnaaGreatDoorW.PrintWords
structure Opens {α : Type} (P : Program) (d : Kd α) (t : TypeId) (B : α → Prop) : Prop where
 sz : P.cellsOf t = d.sz
 get : ∀ {H : Type} {enc : TypeId × Value → H} {W : World} {fuel : Nat} {cs : List Value} {x : DataW H × List MemPlace},
  DataW.trod enc P W 0 (fun _ => true) true fuel t cs = some x → (∀ n ∈ x.1.weights P t, n ≤ reachBytes) → ∃ a, d.K W a cs ∧ B a
theorem Opens.int {P : Program} {t : TypeId} {k : IntKind} (ht : P.underlying t = some (.int k)) (hc : P.cellsOf t = 1) : Opens P (Kd.int k) t (fun n => (Lit.int k n).wf = true) :=
 ⟨hc, fun h _ => by
  obtain ⟨n, rfl, rfl, hw⟩ := DataW.trod_int ht h
  exact ⟨n, rfl, hw⟩⟩
theorem Opens.bool {P : Program} {t : TypeId} (ht : P.underlying t = some .bool) (hc : P.cellsOf t = 1) : Opens P Kd.bool t (fun _ => True) :=
 ⟨hc, fun h _ => by
  obtain ⟨n, rfl, rfl⟩ := DataW.trod_bool ht h
  exact ⟨n, rfl, trivial⟩⟩
theorem Opens.string {P : Program} {t : TypeId} (ht : P.underlying t = some .string) (hc : P.cellsOf t = 1) : Opens P Kd.string t (fun s => s.size ≤ 140737488351232) :=
 ⟨hc, fun h hw => by
  obtain ⟨s, rfl, rfl, _⟩ := DataW.trod_string ht h
  refine ⟨s, rfl, ?_⟩
  have := hw s.data.toList.length (by simp [DataW.weights])
  have e : s.data.toList.length = s.size := by simp
  rw [e] at this
  exact this⟩
theorem each_list {α : Type} {Q : Nat → α → Prop} : ∀ n : Nat, (∀ i, i < n → ∃ x, Q i x) → ∃ xs : List α, xs.length = n ∧ ∀ i x, xs[i]? = some x → Q i x := by
 intro n
 induction n with
 | zero => exact fun _ => ⟨[], rfl, fun i x h => by simp at h⟩
 | succ n ih =>
  intro h
  obtain ⟨xs, hl, hx⟩ := ih (fun i hi => h i (by omega))
  obtain ⟨y, hy⟩ := h n (by omega)
  refine ⟨xs ++ [y], by simp [hl], fun i x hi => ?_⟩
  rcases Nat.lt_or_ge i n with h1 | h1
  ·rw [List.getElem?_append_left (by omega)] at hi
   exact hx i x hi
  ·rw [List.getElem?_append_right (by omega)] at hi
   have h0 : i - xs.length = 0 := by
    have := (List.getElem?_eq_some_iff.1 hi).1
    simp at this
    omega
   rw [h0] at hi
   simp at hi
   subst hi
   obtain rfl : i = n := by omega
   exact hy
theorem weights_all {H : Type} {P : Program} {e : TypeId} : ∀ {l : List (DataW H)} {y : DataW H}, y ∈ l → ∀ n ∈ y.weights P e, n ∈ DataW.weightsAll P e l
 | z :: r, y, hy, n, hn => by
  simp only [DataW.weightsAll, List.mem_append]
  rcases List.mem_cons.1 hy with rfl | hy
  ·exact .inl hn
  ·exact .inr (weights_all hy n hn)
theorem add_add (a : Addr) (x y : Nat) : (a.add x).add y = a.add (x + y) := by
 unfold Addr.add
 split
 ·rename_i h
  subst h
  simp
 ·rename_i h
  split
  ·rename_i h2
   subst h2
   simp [h]
  ·rw [if_neg (by omega)]
   simp [Nat.add_assoc]
theorem Opens.slice {α : Type} {P : Program} {d : Kd α} {B : α → Prop} {t e : TypeId} (ht : P.underlying t = some (.slice e)) (hc : P.cellsOf t = 1) (h : Opens P d e B) :
  Opens P (Kd.slice e d) t (fun xs => xs.length * P.bytesOf e ≤ 140737488351232 ∧ ∀ x ∈ xs, B x) :=
 ⟨hc, fun {H enc W fuel cs x} hf hw => by
  rcases DataW.trod_slice ht hf with ⟨rfl, rfl⟩ | ⟨a, len, cap, elems, rest, n, _, rfl, rfl, hb, hl, hm, hlen, hel, hsp, hns⟩
  ·exact ⟨[], ⟨none, 0, rfl, Nat.le_refl _, Kd.C_nil d W⟩, by simp, fun x hx => by cases hx⟩
  ·simp only [DataW.weights, ht] at hw
   have each : ∀ i, i < len → ∃ z : α, B z ∧ ∃ c, c.length = d.sz ∧ d.K W z c ∧ ∀ j u, c[j]? = some u → W.cell? (a.add (i * d.sz + j)) = some u := by
    intro i hi
    have h1 := hel i hi
    have hi' : i < elems.length := by omega
    rw [List.getElem?_eq_getElem hi', Option.bind_eq_some_iff] at h1
    obtain ⟨c, hcs, hy⟩ := h1
    obtain ⟨-, h2, h3⟩ := World.cells?_some hcs
    obtain ⟨z, hz, hB⟩ := h.get hy (fun n hn => hw n (by
     simp only [List.mem_cons, List.mem_append]
     exact .inr (.inl (weights_all (List.mem_map.2 ⟨_, List.getElem_mem hi', rfl⟩) n hn))))
    refine ⟨z, hB, c, by rw [h2, h.sz], hz, fun j u hj => ?_⟩
    have hj' : j < P.cellsOf e := by
     have := (List.getElem?_eq_some_iff.1 hj).1
     omega
    have h4 := h3 j hj'
    rw [add_add, h.sz] at h4
    rw [h4, hj]
   obtain ⟨xs, hxl, hxs⟩ := each_list len each
   subst hxl
   have hz := hw _ (List.mem_cons_self ..)
   simp only [List.length_map] at hz
   have h5 : xs.length * P.bytesOf e ≤ (elems.length + rest.length) * P.bytesOf e := Nat.mul_le_mul_right _ (by omega)
   have h6 : reachBytes = 140737488351232 := rfl
   refine ⟨xs, ⟨some a, cap, rfl, hl, rfl, ?_, fun _ => ⟨a, rfl, fun j p hj => (hxs j p hj).2⟩⟩, by omega, fun x hx => ?_⟩
   ·have : maxLen = 9223372036854775807 := rfl
    omega
   ·obtain ⟨i, hi⟩ := List.getElem?_of_mem hx
    exact (hxs i x hi).1⟩
structure OpensF {α : Type} (P : Program) (d : Kd α) (fs : List Field) (o : Nat) (B : α → Prop) : Prop where
 get : ∀ {H : Type} {enc : TypeId × Value → H} {W : World} {n : Nat} {cs : List Value} {xs : List (DataW H × List MemPlace)}, xs.length = fs.length →
  (∀ (i : Nat) (f : Field), fs[i]? = some f → DataW.trod enc P W 0 (fun _ => true) true n f.type ((cs.drop f.offset).take (P.cellsOf f.type)) = xs[i]?) →
  (∀ m ∈ DataW.weightsEach P (fs.map (·.type)) (xs.map (·.1)), m ≤ reachBytes) → ∃ a, d.K W a ((cs.drop o).take d.sz) ∧ B a
theorem OpensF.one {α : Type} {P : Program} {d : Kd α} {B : α → Prop} {f : Field} {o : Nat} (ho : f.offset = o) (h : Opens P d f.type B) : OpensF P d [f] o B := by
 refine ⟨fun {H enc W n cs xs} hl hx hw => ?_⟩
 match xs, hl with
 | [x], _ =>
  have h0 := hx 0 f rfl
  rw [h.sz, ho] at h0
  simp only [List.getElem?_cons_zero] at h0
  exact h.get h0 (fun m hm => hw m (by simp only [List.map_cons, List.map_nil, DataW.weightsEach, List.mem_append]; exact .inl hm))
theorem OpensF.cons {α β : Type} {P : Program} {d : Kd α} {d' : Kd β} {B : α → Prop} {B' : β → Prop} {f : Field} {fs : List Field} {o : Nat} (ho : f.offset = o) (h : Opens P d f.type B) (h' : OpensF P d' fs (o + d.sz) B') :
  OpensF P (Kd.pair d d') (f :: fs) o (fun x => B x.1 ∧ B' x.2) := by
 refine ⟨fun {H enc W n cs xs} hl hx hw => ?_⟩
 match xs, hl with
 | x :: xs, hl =>
  have h0 := hx 0 f rfl
  rw [h.sz, ho] at h0
  simp only [List.getElem?_cons_zero] at h0
  obtain ⟨a, ha, hB⟩ := h.get h0 (fun m hm => hw m (by simp only [List.map_cons, DataW.weightsEach, List.mem_append]; exact .inl hm))
  obtain ⟨b, hb, hB'⟩ := h'.get (enc := enc) (W := W) (n := n) (cs := cs) (xs := xs) (by simpa using hl) (fun i g hg => by have := hx (i + 1) g (by simpa using hg); simpa using this)
   (fun m hm => hw m (by simp only [List.map_cons, DataW.weightsEach, List.mem_append]; exact .inr hm))
  refine ⟨(a, b), ⟨_, _, ?_, ha, hb⟩, hB, hB'⟩
  show (cs.drop o).take (d.sz + d'.sz) = _
  rw [List.take_add, List.drop_drop]
theorem Opens.struct {α β : Type} {P : Program} {d : Kd α} {B : α → Prop} {t : TypeId} {fs : Array Field} (ht : P.underlying t = some (.struct fs)) (hc : P.cellsOf t = d.sz) (h : OpensF P d fs.toList 0 B) (f : β → α) (g : α → β) (hg : ∀ a, f (g a) = a) :
  Opens P (Kd.iso d f) t (fun x => B (f x)) :=
 ⟨hc, fun {H enc W fuel cs x} hf hw => by
  obtain ⟨xs, n, _, rfl, hl, hlen, hx⟩ := DataW.trod_struct ht hf
  simp only [DataW.weights, ht] at hw
  obtain ⟨a, ha, hB⟩ := h.get (enc := enc) (W := W) (n := n) (cs := cs) (xs := xs) (by simpa using hlen) (fun i g hg => hx i g (by simpa using hg)) hw
  refine ⟨g a, ?_, by rw [hg]; exact hB⟩
  show d.K W (f (g a)) cs
  rw [hg]
  rw [List.drop_zero, List.take_of_length_le (by omega)] at ha
  exact ha⟩
theorem Opens.imp {α : Type} {P : Program} {d : Kd α} {t : TypeId} {B B' : α → Prop} (h : Opens P d t B) (hB : ∀ a, B a → B' a) : Opens P d t B' :=
 ⟨h.sz, fun hf hw => by obtain ⟨a, ha, hb⟩ := h.get hf hw; exact ⟨a, ha, hB a hb⟩⟩
theorem Opens.param {α : Type} {P : Program} {d : Kd α} {t : TypeId} {B : α → Prop} (h : Opens P d t B) {H : Type} {enc : TypeId × Value → H} {W : World} {v : Value} {x : DataW H} {p : List MemPlace} {ts : List TypeId} {ds : List (DataW H)} {j : Nat}
  (hsz : (DataW.weightsEach P ts ds).all (· ≤ reachBytes) = true) (hj : ts[j]? = some t) (hd : ds[j]? = some x) (ht : DataW.Trod enc P W 0 (fun _ => true) true t v x p) : ∃ a, d.K W a v.cells.toList ∧ B a := by
 obtain ⟨fuel, hf⟩ := ht
 exact h.get hf (fun n hn => by simpa using List.all_eq_true.1 hsz _ (DataW.weights_mem_each hj hd n hn))
theorem Opens.row {α : Type} {P : Program} {d : Kd α} {t e : TypeId} {B : List α → Prop} (h : Opens P (Kd.slice e d) t B) {H : Type} {enc : TypeId × Value → H} {W : World} {A : Option Addr} {n c : Nat} {x : DataW H} {p : List MemPlace} {ts : List TypeId} {ds : List (DataW H)} {j : Nat}
  (hsz : (DataW.weightsEach P ts ds).all (· ≤ reachBytes) = true) (hj : ts[j]? = some t) (hd : ds[j]? = some x) (ht : DataW.Trod enc P W 0 (fun _ => true) true t (.slice A n c) x p) :
  ∃ xs : List α, xs.length = n ∧ d.C W A n xs ∧ n ≤ c ∧ B xs := by
 obtain ⟨xs, ⟨A', c', he, hl, hC⟩, hB⟩ := h.param hsz hj hd ht
 simp [Value.cells] at he
 obtain ⟨rfl, rfl, rfl⟩ := he
 exact ⟨xs, rfl, hC, hl, hB⟩
end Go.Proofs.YtbngbefchobfnaaGreatDoor
