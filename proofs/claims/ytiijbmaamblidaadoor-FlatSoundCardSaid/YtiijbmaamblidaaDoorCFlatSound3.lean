/-
  Part of the proof that FlatSound answers true: texts put together (wip/bundle.py).
-/
import Derived.Test.YtiijbmaamblidaaDoorCFlatSound2
import Derived.Sort.OwnSorted
import Derived.Shelf.GgSortFunc.Insertion
import Derived.Shelf.SlGeneric
import Derived.Shelf.SlSortCmp.NoneTotal
import Derived.Shelf.SlicesG.Cmp
import Derived.Ground.SlsfProg
import Derived.Ground.SlgcProg
import Derived.Test.YtiijbmaamblidaaDoorProg
import Derived.Sort.KeysCollected
import Derived.Maps.RangeWalk
import Derived.SizedLaws
import Derived.ChangeSlices
import Derived.OpenShut
namespace Go.Proofs.YtiijbmaamblidaaDoor
open Go.Sort Go.Proofs
variable {α : Type} [Inhabited α]
theorem holds_of_blockE (enc : α → Value) {w : World} {g : Nat} {cur : Array Value} {e : TypeId} {ss : List α} (hb : w.heap[g]? = some (.cells cur e (0, 0))) (ht : cur.toList.take ss.length = ss.map enc) : Holds enc w g 0 ss.toArray := by
 intro j hj
 have hj' : j < ss.length := by simpa using hj
 refine ⟨?_, by simp [World.frozen?, hb]⟩
 have h1 : (cur.toList.take ss.length)[j]? = (ss.map enc)[j]? := by rw [ht]
 rw [List.getElem?_take_of_lt hj'] at h1
 simp only [World.cell?, hb, Nat.zero_add]
 simp only [Option.isSome_none, Bool.false_eq_true, if_false]
 rw [← Array.getElem?_toList, h1]
 simp [hj']
theorem heap_sortedE (enc : α → Value) {w : World} {g n : Nat} {os : Array Obj} {cur : Array Value} {e : TypeId} {fr : Nat × Nat} (d : Array α) (hb : w.heap[g]? = some (.cells cur e fr)) :
  (sortWorld enc w g 0 n d os).heap[g]? = some (.cells (putCells enc 0 d cur) e fr) := by
 have hg : g < w.heap.size := (Array.getElem?_eq_some_iff.1 hb).1
 unfold sortWorld
 rw [heap_grow_old _ _ (by simpa using hg)]
 simp [putRow, mapBlock, Sort.ahead, Array.getElem?_modify, hb, onCells]
theorem grownBy_sortedE (enc : α → Value) {w : World} {g n : Nat} {os : Array Obj} (d : Array α) : w.grownBy (sortWorld enc w g 0 n d os) (some g) := by
 unfold sortWorld
 refine ⟨rfl, rfl, rfl, by simp, fun k hk hne => ?_⟩
 rw [heap_grow_old _ _ (by simpa using hk)]
 have : g ≠ k := fun e => hne (by rw [e])
 simp [putRow, mapBlock, Sort.ahead, Array.getElem?_modify, this]
theorem take_putCellsE (enc : α → Value) (cur : Array Value) (ts : List α) (h : ts.length ≤ cur.size) : (putCells enc 0 ts.toArray cur).toList.take ts.length = ts.map enc := by
 apply List.ext_getElem?
 intro j
 by_cases hj : j < ts.length
 ·rw [List.getElem?_take_of_lt hj, Array.getElem?_toList]
  simp [putCells, hj, show j < cur.size by omega]
 ·rw [List.getElem?_take_eq_none (by omega), List.getElem?_eq_none (by simp; omega)]
theorem ownsRow_sortedE (enc : α → Value) {w : World} {base g cap n : Nat} {e : TypeId} {os : Array Obj} {cur : Array Value} {ss ts : List α} (hl : ts.length = ss.length) (hbase : base ≤ g) (hb : w.heap[g]? = some (.cells cur e (0, 0)))
  (h1 : ss.length ≤ cap) (h2 : cap ≤ maxLen) (h3 : cur.size = cap * 1) :
  (sortWorld enc w g 0 n ts.toArray os).ownsRow base e 1 (.slice (some ⟨g, 0, none⟩) ss.length cap) ss.length (ts.map enc) :=
 ⟨by simp [hl], .inr ⟨g, cap, _, rfl, hbase, heap_sortedE enc _ hb, h1, h2, by simp [putCells, h3], by rw [Nat.mul_one, ← hl]; exact take_putCellsE enc cur ts (by omega)⟩⟩
end Go.Proofs.YtiijbmaamblidaaDoor

namespace Go.Proofs
open Go.Shelf
def Tryd.sortStr_ren : Go.Shelf.Ren := ⟨fun | 6 => 29 | 15 => 46 | 14 => 45 | 28 => 67 | 29 => 68 | 20 => 59 | 21 => 60 | 22 => 61 | 23 => 62 | 24 => 63 | 25 => 64 | 26 => 65 | 27 => 66 | 46 => 77 | 47 => 78 | 48 => 79 | 49 => 80 | 50 => 81 | 57 => 99 | n => n, fun | 22 => 47 | 24 => 9 | 25 => 62 | 3 => 3 | 39 => 83 | 0 => 0 | 53 => 101 | 55 => 103 | 4 => 4 | 46 => 95 | 45 => 94 | 50 => 89 | 5 => 5 | 9 => 9 | 66 => 109 | 70 => 113 | 76 => 135 | 77 => 136 | n => n, fun | n => n⟩
theorem Tryd.sortStr : Go.Proofs.SlLaysF.n6 Tryd.prog Tryd.sortStr_ren := {
 mixed := by kernel_rfl
 f6 := ⟨Tryd.f29.name, by decide, Tryd.func29.trans (congrArg some (by kernel_rfl))⟩
 f14 := ⟨Tryd.f45.name, by decide, Tryd.func45.trans (congrArg some (by kernel_rfl))⟩
 f15 := Tryd.func46.trans (congrArg some (by kernel_rfl))
 f20 := ⟨Tryd.f59.name, by decide, Tryd.func59.trans (congrArg some (by kernel_rfl))⟩
 f21 := ⟨Tryd.f60.name, by decide, Tryd.func60.trans (congrArg some (by kernel_rfl))⟩
 f22 := ⟨Tryd.f61.name, by decide, Tryd.func61.trans (congrArg some (by kernel_rfl))⟩
 f23 := ⟨Tryd.f62.name, by decide, Tryd.func62.trans (congrArg some (by kernel_rfl))⟩
 f24 := ⟨Tryd.f63.name, by decide, Tryd.func63.trans (congrArg some (by kernel_rfl))⟩
 f25 := ⟨Tryd.f64.name, by decide, Tryd.func64.trans (congrArg some (by kernel_rfl))⟩
 f26 := ⟨Tryd.f65.name, by decide, Tryd.func65.trans (congrArg some (by kernel_rfl))⟩
 f27 := ⟨Tryd.f66.name, by decide, Tryd.func66.trans (congrArg some (by kernel_rfl))⟩
 f28 := Tryd.func67.trans (congrArg some (by kernel_rfl))
 f29 := Tryd.func68.trans (congrArg some (by kernel_rfl))
 f46 := ⟨Tryd.f77.name, by decide, Tryd.func77.trans (congrArg some (by kernel_rfl))⟩
 f47 := Tryd.func78.trans (congrArg some (by kernel_rfl))
 f48 := Tryd.func79.trans (congrArg some (by kernel_rfl))
 f49 := ⟨Tryd.f80.name, by decide, Tryd.func80.trans (congrArg some (by kernel_rfl))⟩
 f50 := ⟨Tryd.f81.name, by decide, Tryd.func81.trans (congrArg some (by kernel_rfl))⟩
 f57 := ⟨Tryd.f99.name, by decide, Tryd.func99.trans (congrArg some (by kernel_rfl))⟩
 t0 := Tryd.underlying0
 a0 := Tryd.isAgg0
 z0 := Tryd.sizeOf0
 v0 := Tryd.zeroValue0
 t3 := Tryd.underlying3
 a3 := Tryd.isAgg3
 z3 := Tryd.sizeOf3
 v3 := Tryd.zeroValue3
 t4 := Tryd.underlying4
 a4 := Tryd.isAgg4
 z4 := Tryd.sizeOf4
 v4 := Tryd.zeroValue4
 t5 := Tryd.underlying5
 a5 := Tryd.isAgg5
 z5 := Tryd.sizeOf5
 v5 := Tryd.zeroValue5
 t9 := Tryd.underlying9
 a9 := Tryd.isAgg9
 z9 := Tryd.sizeOf9
 v9 := Tryd.zeroValue9
 t22 := Tryd.underlying47
 a22 := Tryd.isAgg47
 z22 := Tryd.sizeOf47
 v22 := Tryd.zeroValue47
 a24 := Tryd.isAgg9
 z24 := Tryd.sizeOf9
 t25 := Tryd.underlying62
 a25 := Tryd.isAgg62
 z25 := Tryd.sizeOf62
 v25 := Tryd.zeroValue62
 t39 := Tryd.underlying83
 a39 := Tryd.isAgg83
 z39 := Tryd.sizeOf83
 v39 := Tryd.zeroValue83
 t45 := Tryd.underlying94
 a45 := Tryd.isAgg94
 z45 := Tryd.sizeOf94
 v45 := Tryd.zeroValue94
 t46 := Tryd.underlying95
 a46 := Tryd.isAgg95
 z46 := Tryd.sizeOf95
 v46 := Tryd.zeroValue95
 t50 := Tryd.underlying89
 a50 := Tryd.isAgg89
 z50 := Tryd.sizeOf89
 v50 := Tryd.zeroValue89
 t53 := Tryd.underlying101
 a53 := Tryd.isAgg101
 z53 := Tryd.sizeOf101
 v53 := Tryd.zeroValue101
 t55 := Tryd.underlying103
 a55 := Tryd.isAgg103
 z55 := Tryd.sizeOf103
 v55 := Tryd.zeroValue103
 t66 := Tryd.underlying109
 a66 := Tryd.isAgg109
 z66 := Tryd.sizeOf109
 v66 := Tryd.zeroValue109
 t70 := Tryd.underlying113
 a70 := Tryd.isAgg113
 z70 := Tryd.sizeOf113
 v70 := Tryd.zeroValue113
 t76 := Tryd.underlying135
 a76 := Tryd.isAgg135
 z76 := Tryd.sizeOf135
 v76 := Tryd.zeroValue135
 t77 := Tryd.underlying136
 a77 := Tryd.isAgg136
 z77 := Tryd.sizeOf136
 v77 := Tryd.zeroValue136 }
def Tryd.cmpInt_ren : Go.Shelf.Ren := ⟨fun | 5 => 31 | 7 => 47 | n => n, fun | 22 => 3 | 3 => 3 | 4 => 4 | n => n, fun | n => n⟩
theorem Tryd.cmpInt : Go.Proofs.SlLaysC2.n5 Tryd.prog Tryd.cmpInt_ren := {
 mixed := by kernel_rfl
 f5 := ⟨Tryd.f31.name, by decide, Tryd.func31.trans (congrArg some (by kernel_rfl))⟩
 f7 := ⟨Tryd.f47.name, by decide, Tryd.func47.trans (congrArg some (by kernel_rfl))⟩
 t3 := Tryd.underlying3
 a3 := Tryd.isAgg3
 z3 := Tryd.sizeOf3
 v3 := Tryd.zeroValue3
 t4 := Tryd.underlying4
 a4 := Tryd.isAgg4
 z4 := Tryd.sizeOf4
 v4 := Tryd.zeroValue4
 t22 := Tryd.underlying3
 a22 := Tryd.isAgg3
 z22 := Tryd.sizeOf3
 v22 := Tryd.zeroValue3 }
end Go.Proofs

namespace Go.Proofs.YtiijbmaamblidaaDoor
open Go.RowKit Go.Maps Go.Shelf Go.Proofs Go.Proofs.YtiijbmaamblidaaDoor.Print Go.Proofs.YtiijbmaamblidaaDoorW.PrintWords Go.Proofs.YtiijbmaamblidaaDoorW.PrintLast Go.Proofs.YtiijbmaamblidaaDoorW.PrintMore
set_option linter.unusedVariables false
set_option linter.unusedSimpArgs false
theorem zeroIntO (w : World) : (zeroValue 3).run Tryd.prog w = .ok (.int .i64 0) w := by kernel_rfl
def lastV (l : List Mem) (n : Nat) : List UInt8 → Option Value := fun k => (lastN l n k).map (fun (i : Nat) => Value.int .i64 (i : Int))
theorem lastV_put {l : List Mem} {n : Nat} (h : n < l.length) (k : List UInt8) : putS (lastV l n) l[n].f0.data.toList (.int .i64 (n : Int)) k = lastV l (n + 1) k := by
 unfold putS lastV
 rw [lastN_succ h]
 by_cases e : k = l[n].f0.data.toList
 ·rw [if_pos e, if_pos e]; rfl
 ·rw [if_neg e, if_neg e]
theorem lastV_zero (l : List Mem) (k : List UInt8) : (none : Option Value) = lastV l 0 k := rfl
abbrev SB := {p : ByteArray // p.size ≤ maxLen}
instance : Inhabited SB := ⟨⟨⟨#[]⟩, Nat.zero_le _⟩⟩
def encB (p : SB) : Value := .string p.1
def cfO (l : List Mem) (x y : SB) : Int := Lib.compareInt (lastD l l.length x.1 : Int) (lastD l l.length y.1 : Int)
theorem ltO (l : List Mem) (x y : SB) : ltOf (cfO l) x y = decide (lastD l l.length x.1 < lastD l l.length y.1) := by
 unfold ltOf cfO Lib.compareInt
 by_cases h1 : (lastD l l.length x.1 : Int) < lastD l l.length y.1
 ·rw [if_pos h1]; simp; omega
 ·rw [if_neg h1]
  by_cases h2 : (lastD l l.length y.1 : Int) < lastD l l.length x.1
  ·rw [if_pos h2]; simp; omega
  ·rw [if_neg h2]; simp; omega
theorem swoO (l : List Mem) : Go.Sort.SWO (ltOf (cfO l)) where
 irrefl x := by rw [ltO]; simp
 trans x y z h1 h2 := by rw [ltO] at *; simp at *; omega
 ntrans x y z h1 h2 := by rw [ltO] at *; simp at *; omega
theorem OrdCmp_calls (l : List Mem) (d B kk : Nat) (x y : SB) (W : World) (hM : MapS Tryd.prog 9 W d kk (lastV l l.length)) (hc : W.cell? ⟨B, 0, none⟩ = some (.map (some d))) :
  Calls Tryd.prog 30 #[.string x.1, .string y.1, .pointer (some ⟨B, 0, none⟩)] W fun e W' => e = .returned (.int .i64 (cfO l x y)) ∧ W' = W := by
 have h1 := hM.look Tryd.underlying9 Tryd.underlying59 (zeroIntO _) x.2
 have h2 := hM.look Tryd.underlying9 Tryd.underlying59 (zeroIntO _) y.2
 have e : ∀ p : ByteArray, (lastV l l.length p.data.toList).getD (.int .i64 0) = .int .i64 (lastD l l.length p : Int) := fun p => by
  unfold lastV lastD
  cases lastN l l.length p.data.toList <;> rfl
 rw [e] at h1 h2
 have hcon := fun w => AnyG.cmp_Compare_int Tryd.cmpInt (lastD l l.length x.1 : Int) (lastD l l.length y.1 : Int) w
 change ∀ w, Calls Tryd.prog 31 _ _ _ at hcon
 unfold cfO
 generalize Lib.compareInt (lastD l l.length x.1 : Int) (lastD l l.length y.1 : Int) = r at hcon ⊢
 have HC := Aside0.mk hcon
 clear hcon hM e
 go_enter Tryd.func30, Tryd.ntmps30
 go_wp2_with (go_at_call 31; (with_reducible refine (HC.out _).mono ?_); rintro e w' ⟨rfl, rfl⟩)
 go_ret
 exact ⟨rfl, rfl⟩
theorem SortF_calls (l : List Mem) (d B kk g cap base : Nat) (ss : List SB) (cur : Array Value) (W : World) (hM : MapS Tryd.prog 9 W d kk (lastV l l.length)) (hc : W.cell? ⟨B, 0, none⟩ = some (.map (some d))) (hdg : d ≠ g) (hBg : B ≠ g)
  (hbase : base ≤ g) (hb : W.heap[g]? = some (.cells cur 9 (0, 0))) (ht : cur.toList.take ss.length = ss.map encB) (h1 : ss.length ≤ cap) (h2 : cap ≤ maxLen) (h3 : cur.size = cap * 1) (hsz : ss.length < 4611686018427387904) :
  Calls Tryd.prog 29 #[.slice (some ⟨g, 0, none⟩) ss.length cap, .func (.func 30) #[] #[.pointer (some ⟨B, 0, none⟩)]] W fun e W' => e = .returned (.tuple #[]) ∧ ∃ ts : List SB, ts.Perm ss ∧ ts.Pairwise (fun x y => lastD l l.length x.1 ≤ lastD l l.length y.1) ∧
   W'.ownsRow base 9 1 (.slice (some ⟨g, 0, none⟩) ss.length cap) ss.length (ts.map encB) ∧ W.grownBy W' (some g) := by
 have eg : ∀ args w, (callFunc 30 args).run Tryd.prog w = .ok (.enter 30 args) w := enters_of Tryd.func30 (by kernel_rfl) rfl
 have hBlt := World.block_lt_of_cell? W _ hc
 dsimp only at hBlt
 have hcmp : CmpLays1 Tryd.prog 30 #[.pointer (some ⟨B, 0, none⟩)] encB (cfO l) g 0 ss.toArray.size W := by
  intro m os dk hdk x y
  have hg := grownBy_sortedE encB (w := W) (g := g) (n := m) (os := os) dk
  have hM' := hM.kept hg (by intro e; injection e with e; exact hdg e)
  have hc' : (sortWorld encB W g 0 m dk os).cell? ⟨B, 0, none⟩ = some (.map (some d)) := (World.cell?_of_block (a := ⟨B, 0, none⟩) (hg.block B hBlt (by intro e; injection e with e; exact hBg e))).trans hc
  exact (OrdCmp_calls l d B kk x y _ hM' hc').mono fun e w' ⟨he, hw⟩ => ⟨he, 0, #[], by rw [hw, Go.Sort.grow_empty]; rfl⟩
 have hH := holds_of_blockE encB hb ht
 have hcon := Any.slices_SortFunc Tryd.sortStr encB (fun _ => rfl) (cfO l) (swoO l) 30 #[.pointer (some ⟨B, 0, none⟩)] g 0 cap ss.toArray W eg hcmp hH (Array.getElem?_eq_some_iff.1 hb).1 (by simpa using hsz)
 change Calls Tryd.prog 29 _ _ _ at hcon
 rw [List.size_toArray] at hcon
 refine hcon.mono ?_
 rintro e w' ⟨he, d', n, os, ⟨hp1, _, hp3⟩, hs, rfl⟩
 have hl : d'.size = ss.length := by rw [hp1]; simp
 have hpl : d'.toList.Perm ss := by
  have e1 : d'.extract 0 ss.length = d' := by rw [← hl, Array.extract_size]
  have e2 : ss.toArray.extract 0 ss.length = ss.toArray := by
   have := Array.extract_size (xs := ss.toArray)
   rwa [List.size_toArray] at this
  rw [e1, e2] at hp3
  simpa using hp3
 refine ⟨he, d'.toList, hpl, ?_, ?_, grownBy_sortedE encB d'⟩
 ·rw [List.pairwise_iff_getElem]
  intro i j hi hj hij
  have hij2 := hs i j (Nat.zero_le _) hij (by rw [← hl]; simpa using hj)
  rw [ltO, decide_eq_false_iff_not] at hij2
  rw [getElem!_pos d' i (by simpa using hi), getElem!_pos d' j (by simpa using hj)] at hij2
  simp only [Array.getElem_toList]
  omega
 ·have h := ownsRow_sortedE encB (os := os) (n := n) (ss := ss) (ts := d'.toList) (by rw [Array.length_toList, hl]) hbase hb h1 h2 h3
  simpa using h
def OrdRel1 (l : List Mem) (W : World) (n : Int) (wr : World) : Prop :=
 0 ≤ n ∧ n ≤ l.length ∧ MapS Tryd.prog 9 wr W.heap.size n.toNat (lastV l n.toNat) ∧ Below W.heap.size W wr ∧ wr.cell? ⟨W.heap.size + 1, 0, none⟩ = some (.map (some W.heap.size))
def keysB (ss : List (List UInt8)) : List ByteArray := ss.map (fun s => ⟨s.toArray⟩)
theorem keysB_mem {ss : List (List UInt8)} {p : ByteArray} : p ∈ keysB ss ↔ p.data.toList ∈ ss := by
 unfold keysB
 rw [List.mem_map]
 constructor
 ·rintro ⟨s, hs, rfl⟩; exact hs
 ·intro h; exact ⟨_, h, by cases p; rfl⟩
def OrdRel2 (W : World) (d k r : Nat) (D : DataW Value) (left : Lit → Bool) (cnt : Nat) (o : Value) (ss : List (List UInt8)) (wr : World) : Prop :=
 wr.ranges Tryd.prog 9 heldE d r k D left cnt ∧ Collected D left ss ∧ (∀ s ∈ ss, s.length ≤ maxLen) ∧ ss.length + cnt ≤ k ∧ Kd.R Kd.string 9 wr W.heap.size (fun k => W.heap.size + 2 ≤ k ∧ k ≠ r) o (keysB ss) ∧ Below W.heap.size W wr ∧ wr.cell? ⟨W.heap.size + 1, 0, none⟩ = some (.map (some d)) ∧ W.heap.size + 2 ≤ wr.heap.size
set_option maxRecDepth 100000 in
set_option maxHeartbeats 4000000 in
theorem Order_calls (A0 : Option Addr) (c0 : Nat) (l : List Mem) (W : World) (hC : Kd.C k27 W A0 l.length l) (hz : MemsZ l) :
  Calls Tryd.prog 17 #[.slice A0 l.length c0] W fun e W' => ∃ v, e = .returned v ∧ Kd.R Kd.string 9 W' W.heap.size (fun _ => True) v (orderF l) ∧ Below W.heap.size W W' := by
 have hmm := @run_makeMap Tryd.prog
 have HC := Aside0.mk hC
 have HZ := Aside0.mk hz
 have hlen : (l.length : Int) ≤ 1000000000000 := by have := hz.1; omega
 clear hC hz
 generalize hpost : (fun (e : Ending) (W' : World) => ∃ v, e = .returned v ∧ Kd.R Kd.string 9 W' W.heap.size (fun _ => True) v (orderF l) ∧ Below W.heap.size W W') = Q
 have hQ := Aside0.mk hpost
 clear hpost
 go_enter Tryd.func17, Tryd.ntmps17
 go_wp2
 go_loopw [11] (fun i wr => ∃ n : Int, i = .int .i64 n ∧ Aside0 (OrdRel1 l W n wr)) (fun i _ => (l.length - (intOf i)).toNat)
 case atStart =>
  refine ⟨0, rfl, ⟨⟨by omega, by omega, ((MapS.made _ _ _).alloc _).ext (lastV_zero l), ?_, by go_simp⟩⟩⟩
  exact ((Below.refl _ _).alloc (Nat.le_refl _) _).alloc (by simp) _
 case round =>
  obtain ⟨n, rfl, HR⟩ := hrel
  have h0 := HR.out.1
  have h1 := HR.out.2.1
  have HM := Aside0.mk HR.out.2.2.1
  have HB := Aside0.mk HR.out.2.2.2.1
  have hbx := HR.out.2.2.2.2
  have hwlt := World.block_lt_of_cell? wr _ hbx
  dsimp only at hwlt
  by_cases hlt : n < (l.length : Int)
  ·have c1b : decide (n < (l.length : Int)) = true := decide_eq_true hlt
   have hnl : n.toNat < l.length := by omega
   obtain ⟨ad, A7, c7, rfl, x0, x1, x2, x3, x4, x5, x6, x7, hl7, hC7⟩ := at_T27 (Kd.C_below HC.out HB.out) n h0 hlt
   have hx := rdM_at l n h0 hlt
   have hxz : MemZ (rd_T27 l n) := by rw [hx]; exact HZ.out.2 _ (List.getElem_mem _)
   generalize rd_T27 l n = x at hx hxz x0 x1 x2 x3 x4 x5 x6 x7 hl7 hC7
   have hs0 : x.f0.size ≤ maxLen := by have := hxz.1; unfold maxLen; omega
   have HX := Aside0.mk hx
   have HNL := Aside0.mk hnl
   have HS0 := Aside0.mk hs0
   clear hx hxz hl7 hC7 hs0 hnl
   go_wp2_with (at_mapUpdate; refine MapS.wpput (HM.out.alloc _) rfl _ _ _ rfl Tryd.underlying9 Tryd.underlying59 (by unfold maxLen; omega) rfl rfl HS0.out rfl ?_; intro w6 hM6 hturn6)
   have hg6 := hturn6.grown
   have hfin : OrdRel1 l W (n + 1) w6 := by
    have e1 : (n + 1).toNat = n.toNat + 1 := by omega
    have e2 : n = (n.toNat : Int) := by omega
    refine ⟨by omega, by omega, ?_, (HB.out.alloc HB.out.size _).grown hg6 (by have := HB.out.size; simp; omega) (fun j hj => by cases hj; exact Nat.le_refl _), ?_⟩
    ·rw [e1]
     have hput : ∀ s, putS (lastV l n.toNat) x.f0.data.toList (.int .i64 n) s = lastV l (n.toNat + 1) s := fun s => by
      rw [← lastV_put HNL.out, HX.out, ← e2]
     exact hM6.ext hput
    ·refine (World.cell?_of_block (a := ⟨W.heap.size + 1, 0, none⟩) (hg6.block (W.heap.size + 1) (by rw [World.size_alloc]; omega) (fun e => by injection e with e; omega))).trans ?_
     exact (World.cell?_of_block (a := ⟨W.heap.size + 1, 0, none⟩) ((below_alloc (Below.refl _ _) _).block _ hwlt)).trans hbx
   have HFIN := Aside0.mk hfin
   clear hfin hM6 hturn6 hg6
   go_roundw
   case rel => exact ⟨n + 1, by go_num, HFIN⟩
   case measure => simp [intOf]; omega
  ·have c1b : decide (n < (l.length : Int)) = false := decide_eq_false hlt
   obtain ⟨w1, rfl⟩ : ∃ w1 : World, w1 = wr := ⟨_, rfl⟩
   have en : n.toNat = l.length := by omega
   have hM := HM.out
   rw [en] at hM
   obtain ⟨D, hown, hh, ha⟩ := hM
   have HM1 : Aside0 (MapS Tryd.prog 9 w1 W.heap.size l.length (lastV l l.length)) := ⟨⟨D, hown, hh, ha⟩⟩
   have HH := Aside0.mk hh
   have hsz : Maps.size D ≤ l.length := hown.size_le
   have HSZ := Aside0.mk hsz
   have HB1 := Aside0.mk HB.out
   have HA := Aside0.mk ha
   clear ha hh hsz en
   go_wp2_with (first
    | (at_range; refine wpList_range_own _ rfl _ 59 rfl 9 3 (string_keyed Tryd.underlying9) Tryd.underlying59 heldE W.heap.size l.length _ rfl hown ?_; intro w0 hrg0 hg0 hs0)
    | go_in)
   try go_frame
   have hstart : OrdRel2 W W.heap.size l.length w1.heap.size D (Maps.has D) (Maps.size D) (.slice none 0 0) [] w0 := by
    refine ⟨hrg0, Collected.start D, fun s hs => (by cases hs), by simpa using HSZ.out, Kd.R_nil _ _ _ _ _, HB1.out.grown hg0 HB1.out.size (fun j hj => (by cases hj)), ?_, by omega⟩
    exact (World.cell?_of_block (a := ⟨W.heap.size + 1, 0, none⟩) (hg0.block (W.heap.size + 1) hwlt (by simp))).trans hbx
   have HST := Aside0.mk hstart
   clear hstart hrg0 hg0 hown
   obtain ⟨r, hr⟩ : ∃ r, r = w1.heap.size := ⟨_, rfl⟩
   rw [← hr] at HST ⊢
   have HRZ := Aside0.mk (show W.heap.size + 1 < r by omega)
   clear hs0 hwlt hbx hr
   go_loopw [6] (fun o wr => ∃ (left : Lit → Bool) (cnt : Nat) (ss : List (List UInt8)), Aside0 (OrdRel2 W W.heap.size l.length r D left cnt o ss wr)) (fun _ wr => wr.rangeLeft W.heap.size r)
   case atStart => exact ⟨_, _, _, HST⟩
   case round =>
    obtain ⟨left, cnt, ss, HR2⟩ := hrel
    have hrg := HR2.out.1
    have hbx := HR2.out.2.2.2.2.2.2.1
    obtain ⟨Ao, co, hv⟩ := Kd.R_slice HR2.out.2.2.2.2.1
    subst hv
    go_wp2_with (first
     | (at_next; refine wpList_next_ranges _ rfl _ rfl 9 (string_keyed Tryd.underlying9) heldE encStr id (fun key kl h => by obtain ⟨x, hx, _⟩ := Maps.keyOf_str Tryd.underlying9 h; exact ⟨x, hx⟩) (fun v y _ => ⟨v, rfl⟩) W.heap.size r l.length _ _ _ rfl hrg ?_ ?_)
     | go_in)
    ·intro hc0 hl0
     have hown2 := hrg.owns
     have hM2 : MapS Tryd.prog 9 wr W.heap.size l.length (lastV l l.length) := ⟨D, hown2, HH.out, HA.out⟩
     have hcol := HR2.out.2.1
     have hmem : ∀ p, p ∈ keysB ss ↔ p ∈ orderF l := fun p => by
      rw [keysB_mem, hcol.2, hl0, and_iff_left rfl, HH.out]
      have := lastN_is (l := l) (n := l.length) (Nat.le_refl _) p
      rw [List.take_length] at this
      rw [← this]
      unfold lastV
      rw [Option.isSome_map]
     have hnd : (keysB ss).Nodup := by
      unfold keysB
      rw [List.nodup_iff_pairwise_ne, List.pairwise_map]
      have := hcol.1
      rw [List.nodup_iff_pairwise_ne] at this
      exact this.imp (fun {a b} h e => h (by injection e with e; exact List.toArray_inj e))
     have hperm : (keysB ss).Perm (orderF l) := (List.perm_ext_iff_of_nodup hnd (order_nodup l)).2 hmem
     have hR2 := HR2.out.2.2.2.2.1
     have hBw := HR2.out.2.2.2.2.2.1
     have hsl : ∀ p ∈ keysB ss, p.size ≤ maxLen := fun p hp => by
      have := HR2.out.2.2.1 _ (keysB_mem.1 hp)
      rwa [Array.length_toList] at this
     have hkl : (keysB ss).length ≤ l.length := by rw [hperm.length_eq]; exact order_len l
     rcases Nat.eq_zero_or_pos (keysB ss).length with hz0 | hpos
     ·have hk0 : keysB ss = [] := List.eq_nil_of_length_eq_zero hz0
      have ho : orderF l = [] := by
       have := hperm.length_eq
       rw [hz0] at this
       exact List.eq_nil_of_length_eq_zero this.symm
      have hcon := fun w => AnyF.slices_SortFunc_none { Tryd.sortStr with } Ao co (.func (.func 30) #[] #[.pointer (some ⟨W.heap.size + 1, 0, none⟩)]) w
      change ∀ w, Calls Tryd.prog 29 _ _ _ at hcon
      rw [hk0] at hR2 ⊢
      have HCN := Aside0.mk hcon
      have HOL := Aside0.mk ho
      have HR := Aside0.mk hR2
      have HBW := Aside0.mk hBw
      clear hcon ho hR2 hBw hsl hkl hz0 hk0 hperm hnd hmem hcol hM2 hown2 hrg hc0 hl0
      go_wp2_with (go_at_call 29; (with_reducible refine (HCN.out _).mono ?_); rintro e w' ⟨rfl, rfl⟩)
      rw [← hQ.out]
      refine ⟨_, rfl, ?_, HBW.out⟩
      rw [HOL.out]
      exact Kd.R_mono HR.out (fun _ _ => trivial)
     ·obtain ⟨gA, hgA⟩ : ∃ g, Ao = some ⟨g, 0, none⟩ := by
       obtain ⟨g, cap, he, _⟩ := Kd.R_form hR2 hpos
       injection he with h1 _ _
       exact ⟨g, h1⟩
      subst hgA
      have hown3 := Kd.own_of_R (enc := Value.string) (h1 := fun _ => rfl) hR2
      rcases hown3.2 with ⟨hn, _⟩ | ⟨g, cap, cur, hv, hbase, hb, h1, h2, h3, h4⟩
      ·cases hn
      cases hv
      have hgl2 : W.heap.size + 2 ≤ gA := (hR2.1 gA rfl).1
      have hl2 : ((keysB ss).pmap Subtype.mk hsl).length = (keysB ss).length := List.length_pmap
      have hm2 : ((keysB ss).pmap Subtype.mk hsl).map encB = encs Value.string (keysB ss) := by
       unfold encs encB
       rw [List.map_pmap]
       rw [List.pmap_eq_map]
      have hcon := SortF_calls l W.heap.size (W.heap.size + 1) l.length gA co W.heap.size ((keysB ss).pmap Subtype.mk hsl) cur wr hM2 hbx (by omega) (by omega) hbase hb (by rw [hl2, hm2]; rw [Nat.mul_one] at h4; exact h4) (by rw [hl2]; exact h1) h2 h3 (by rw [hl2]; omega)
      rw [hl2] at hcon
      have hfin : ∀ ts : List SB, ts.Perm ((keysB ss).pmap Subtype.mk hsl) → ts.Pairwise (fun x y => lastD l l.length x.1 ≤ lastD l l.length y.1) → ts.map (fun x => x.1) = orderF l := fun ts hts hpw => by
       have e1 : ((keysB ss).pmap Subtype.mk hsl).map (fun x => x.1) = keysB ss := by
        rw [List.map_pmap, List.pmap_eq_map, List.map_id']
       have hp2 : (ts.map (fun x => x.1)).Perm (orderF l) := by
        have := hts.map (fun x : SB => x.1)
        rw [e1] at this
        exact this.trans hperm
       refine order_unique hp2 ?_
       have hdist : ∀ a ∈ orderF l, ∀ b ∈ orderF l, lastD l l.length a = lastD l l.length b → a = b := by
        have h5 := order_last (l := l) l.length (Nat.le_refl _)
        rw [List.take_length] at h5
        intro a ha b hb2 e
        obtain ⟨i, hi, rfl⟩ := List.getElem_of_mem ha
        obtain ⟨j, hj, rfl⟩ := List.getElem_of_mem hb2
        rw [List.pairwise_iff_getElem] at h5
        rcases Nat.lt_trichotomy i j with h6 | h6 | h6
        ·have := h5 i j hi hj h6; omega
        ·subst h6; rfl
        ·have := h5 j i hj hi h6; omega
       have hnd2 : (ts.map (fun x => x.1)).Nodup := hp2.nodup_iff.2 (order_nodup l)
       rw [List.pairwise_map]
       rw [List.nodup_iff_pairwise_ne, List.pairwise_map] at hnd2
       refine (hpw.and hnd2).imp_of_mem (fun {a b} ha hb2 h => ?_)
       have m1 := hp2.mem_iff.1 (List.mem_map.2 ⟨a, ha, rfl⟩)
       have m2 := hp2.mem_iff.1 (List.mem_map.2 ⟨b, hb2, rfl⟩)
       rcases Nat.lt_or_ge (lastD l l.length a.1) (lastD l l.length b.1) with h7 | h7
       ·exact h7
       ·exact absurd (hdist _ m1 _ m2 (by have := h.1; omega)) h.2
      have hlen3 : (keysB ss).length = (orderF l).length := hperm.length_eq
      have HCN := Aside0.mk hcon
      have HFIN := Aside0.mk hfin
      have HBW := Aside0.mk hBw
      have HL3 := Aside0.mk hlen3
      have hgle : W.heap.size + 2 ≤ gA := hgl2
      have hwz := HR2.out.2.2.2.2.2.2.2
      clear hgl2 hcon hfin hR2 hBw hlen3 hkl hperm hnd hmem hcol hM2 hown2 hrg hc0 hl0 hown3 hb h1 h2 h3 h4 hl2 hm2 hbase hpos
      go_wp2_with (go_at_call 29; refine HCN.out.mono ?_; rintro e w2 ⟨rfl, ts, hts, hpw, hor, hg2⟩; have HTS := Aside0.mk (HFIN.out ts hts hpw); have HOR := Aside0.mk hor; have HG2 := Aside0.mk hg2; clear hts hpw hor hg2)
      rw [← hQ.out]
      refine ⟨_, rfl, ?_, HBW.out.grown HG2.out (by omega) (fun j hj => by cases hj; omega)⟩
      rw [← HTS.out]
      have e5 : ts.map encB = encs Value.string (ts.map (fun x => x.1)) := by
       unfold encs
       rw [List.map_map]
       rfl
      have hor := HOR.out
      rw [e5] at hor
      have e6 : (keysB ss).length = (ts.map (fun x => x.1)).length := by rw [HTS.out]; exact HL3.out
      rw [e6] at hor ⊢
      exact Kd.R_of_own hor (fun _ _ => trivial)
    ·intro x c kl ya yb w2 cnt2 hkey hlk hheld hat hrg2 hlt2 hg2 hs2 hen
     obtain ⟨x', ex, rfl, hxl⟩ := Maps.keyOf_str Tryd.underlying9 hkey
     obtain rfl := encStr_inj ex
     have hrlt := hrg.lt
     have hR2 := HR2.out.2.2.2.2.1
     have hok := hR2.1
     have hRw := Kd.R_grown hR2 hg2 (fun k hk e => by injection e with e; exact hk.2 e)
     have hrz := HRZ.out
     have hwz := HR2.out.2.2.2.2.2.2.2
     have hBw := HR2.out.2.2.2.2.2.1.grown hg2 (by omega) (fun j hj => by cases hj; omega)
     have hkl : (keysB ss).length = ss.length := by unfold keysB; rw [List.length_map]
     have hsz := HR2.out.2.2.2.1
     have hcol := HR2.out.2.1.step hlk hat
     have hss := HR2.out.2.2.1
     have HRW := Aside0.mk hRw
     have HBW := Aside0.mk hBw
     have HOK := Aside0.mk hok
     have HCOL := Aside0.mk hcol
     have HSS := Aside0.mk hss
     have HXL := Aside0.mk hxl
     have HRG2 := Aside0.mk hrg2
     have HRG := Aside0.mk hrg
     have HKL := Aside0.mk hkl
     have hbx2 : w2.cell? ⟨W.heap.size + 1, 0, none⟩ = some (.map (some W.heap.size)) := (World.cell?_of_block (a := ⟨W.heap.size + 1, 0, none⟩) (hg2.block (W.heap.size + 1) (by omega) (fun e => by injection e with e; omega))).trans hbx
     have HBX := Aside0.mk hbx2
     have hszl : ss.length + 1 ≤ l.length := by omega
     have hcc : cnt2 < cnt := hlt2
     have hz2 : W.heap.size + 2 ≤ w2.heap.size := by omega
     have hr2 : r < w2.heap.size := by omega
     clear hRw hBw hok hcol hss hxl hrg2 hrg hkl hbx2 hbx hkey hlk hheld hat hg2 ex hR2 hlt2 hs2 hwz hrlt
     go_wp2_with (at_builtin; refine Kd.R_append Kd.string (w0 := W) (W := w2) W.heap.size rfl _ _ 47 9 (.string ⟨#[]⟩) 16 rfl Tryd.underlying47 infoStr rfl (by decide) (by decide) (.slice Ao (keysB ss).length co) (keysB ss) ⟨x.toArray⟩ [.string ⟨x.toArray⟩] (fun k => W.heap.size + 2 ≤ k ∧ k ≠ r) (fun _ => False) rfl rfl rfl (fun _ h => h.elim) (fun k hk => ⟨by omega, by omega⟩) HRW.out HBW.out (by omega) (by rw [HKL.out]; omega) ?_; intro v3 w3 hR3 hB3 hg3 hat3)
     have hne : ∀ k, (Value.slice Ao (keysB ss).length co).ownBlock = some k → W.heap.size + 2 ≤ k ∧ k ≠ r := HOK.out
     have hfin : OrdRel2 W W.heap.size l.length r D (fun z => left z && !z.sameKey (.string x)) cnt2 v3 (ss ++ [x]) w3 := by
      refine ⟨HRG2.out.kept hg3 (fun e => by have := (hne _ e.symm).1; omega) (fun e => (hne _ e.symm).2 rfl), HCOL.out, fun s hs => ?_, by rw [List.length_append, List.length_singleton]; omega, ?_, hB3, ?_, by have := hg3.size; omega⟩
      ·rcases List.mem_append.1 hs with h | h
       ·exact HSS.out s h
       ·rw [List.mem_singleton] at h; rw [h]; exact HXL.out
      ·have e : keysB (ss ++ [x]) = keysB ss ++ [⟨x.toArray⟩] := by unfold keysB; rw [List.map_append]; rfl
       rw [e]
       exact hR3
      ·exact (World.cell?_of_block (a := ⟨W.heap.size + 1, 0, none⟩) (hg3.block (W.heap.size + 1) (by omega) (fun e => by have := (hne _ e.symm).1; omega))).trans HBX.out
     have hle1 := hfin.1.left_eq
     have hle2 := HRG.out.left_eq
     have HFIN := Aside0.mk hfin
     have HL1 := Aside0.mk hle1
     have HL2 := Aside0.mk hle2
     clear hfin hR3 hB3 hg3 hat3 hle1 hle2 hne
     go_roundw
     case rel => exact ⟨_, _, _, HFIN⟩
     case measure => rw [HL1.out, HL2.out]; omega
end Go.Proofs.YtiijbmaamblidaaDoor

namespace Go.Proofs.YtiijbmaamblidaaDoor.Print
open Go.RowKit Go.Proofs.YtiijbmaamblidaaDoor Go.Proofs.YtiijbmaamblidaaDoorW.PrintWords Go.Proofs.YtiijbmaamblidaaDoorW.PrintLast Go.Proofs.YtiijbmaamblidaaDoorW.PrintMore
set_option linter.unusedVariables false
def flat_Order.f (l : List S27) : Option (List ByteArray) := if memsZ l = true then some (orderF l) else none
theorem flat_Order.calls (A0 : Option Addr) (c0 : Nat) (l0 : List S27) (r : List ByteArray) (w : World) (hr0 : Kd.C k27 w A0 l0.length l0) (hc0 : l0.length ≤ c0) (h : flat_Order.f l0 = some r) :
  Calls Tryd.prog 17 #[.slice A0 l0.length c0] w fun e w' => ∃ v0_ : Value, e = .returned (v0_) ∧ Kd.R Kd.string 9 w' w.heap.size (fun _ => True) v0_ r ∧ Below w.heap.size w w' := by
 unfold flat_Order.f at h
 split at h
 ·rename_i hc
  simp only [Option.some.injEq] at h
  subst h
  exact Order_calls A0 c0 l0 w hr0 ((memsZ_iff l0).1 hc)
 ·cases h
end Go.Proofs.YtiijbmaamblidaaDoor.Print

namespace Go.Proofs.YtiijbmaamblidaaDoor.Print
open Go.RowKit Go.Proofs.YtiijbmaamblidaaDoorW.PrintWords Go.Proofs.YtiijbmaamblidaaDoorW.PrintLast Go.Proofs.YtiijbmaamblidaaDoorW.PrintMore
attribute [local go_sem] max2_int min2_int max_two min_two max_three min_three max_four min_four   -- for this text's walks alone
set_option linter.unusedVariables false
set_option linter.unusedSimpArgs false
def bindlelaw18_light.l0 : Nat → List (S27) → Int → Int → Option (Bool)
 | 0, _, _, _ => none
 | k + 1, x0, x3, x4 => if x4 < (x0.length : Int) then (if 0 ≤ x4 then (bindlelaw18_light.l0 k x0 (wrap64 ((wrap64 ((wrap64 (x3 + (((rd_T27 x0 x4).f4).length : Int))) + (((rd_T27 x0 x4).f0).size : Int))) + (((rd_T27 x0 x4).f1).size : Int))) (wrap64 (x4 + 1))) else (none)) else (if (x0.length : Int) ≤ 60 then (some (decide (x3 ≤ 200000))) else (some false))
def bindlelaw18_light.f (k : Nat) (l0 : List (S27)) : Option (Bool) := bindlelaw18_light.l0 k l0 0 0
set_option maxHeartbeats 8000000 in
set_option maxRecDepth 100000 in
theorem bindlelaw18_light.calls (k : Nat) (A0 : Option Addr) (c0 : Nat) (l0 : List (S27)) (r : Bool) (w : World) (hr0 : Kd.C k27 w A0 l0.length l0) (hc0 : l0.length ≤ c0) (h : bindlelaw18_light.f k l0 = some r) :
  Calls Tryd.prog 14 #[.slice A0 l0.length c0] w fun e w' => e = .returned (.bool r) ∧ Drawn0 w w' := by
 have HR0 := A0_ hr0
 have HC0 := A0_ hc0
 clear hr0 hc0
 have H : (bindlelaw18_light.l0 k l0 0 0) = some r := h
 clear h
 have H' := A0_ H
 clear H
 go_enter Tryd.func14, Tryd.ntmps14
 go_wp2
 repeat (go_quiet (fail); try go_wp2)
 go_loopg [3, 4] k (fun kq v3 v4 w' => ∃ (x3_1 : Int) (x4_1 : Int), v3 = .int .i64 x3_1 ∧ v4 = .int .i64 x4_1 ∧ Aside0 (bindlelaw18_light.l0 kq l0 x3_1 x4_1 = some r) ∧ Aside0 (kq ≤ k) ∧ Drawn0 w w')
 case atStart => exact ⟨(0), (0), wr_, wr_, H', ⟨Nat.le_refl _⟩, by repeat (first | exact Drawn0.refl _ | apply Drawn0.step)⟩
 case round =>
  clear H'
  try clear c1
  obtain ⟨x3_1, x4_1, rfl, rfl, HA, HK1, ⟨m1, rfl⟩⟩ := hrel
  cases gk with
  | zero => exact absurd HA.out (by simp [bindlelaw18_light.l0])
  | succ k1 =>
   have H := HA.out
   clear HA
   simp only [bindlelaw18_light.l0] at H
   by_cases c2 : x4_1 < (l0.length : Int)
   rotate_left
   ·rw [if_neg c2] at H
    have c2b0 : decide (x4_1 < (l0.length : Int)) = false := decide_eq_false c2
    clear c2
    by_cases c4 : (l0.length : Int) ≤ 60
    ·rw [if_pos c4] at H
     have c4b0 : decide ((l0.length : Int) ≤ 60) = true := decide_eq_true c4
     have c4b1 : decide (l0.length ≤ 60) = true := decide_eq_true (by omega)
     clear c4
     obtain rfl := Option.some.inj H
     go_wp2
     repeat (go_quiet (fail); try go_wp2)
     go_ret
     exact ⟨by first | rfl | (simp; done) | (simp [*]; done), by repeat (first | exact Drawn0.refl _ | apply Drawn0.step)⟩
    rw [if_neg c4] at H
    have c4b0 : decide ((l0.length : Int) ≤ 60) = false := decide_eq_false c4
    have c4b1 : decide (l0.length ≤ 60) = false := decide_eq_false (by omega)
    clear c4
    obtain rfl := Option.some.inj H
    go_wp2
    repeat (go_quiet (fail); try go_wp2)
    go_ret
    exact ⟨by first | rfl | (simp; done) | (simp [*]; done), by repeat (first | exact Drawn0.refl _ | apply Drawn0.step)⟩
   rw [if_pos c2] at H
   have c2b0 : decide (x4_1 < (l0.length : Int)) = true := decide_eq_true c2
   clear c2
   by_cases c3 : 0 ≤ x4_1
   rotate_left
   ·rw [if_neg c3] at H
    exact absurd H (by simp)
   rw [if_pos c3] at H
   have c3b0 : decide (0 ≤ x4_1) = true := decide_eq_true c3
   clear c3
   have H' := A0_ H
   clear H
   have p224 : 0 ≤ (x4_1 : Int) := wd_
   have q224 : x4_1 < (l0.length : Int) := wd_
   obtain ⟨ad224, A224_7, c224_7, e224, hx224_0, hx224_1, hx224_2, hx224_3, hx224_4, hx224_5, hx224_6, hx224_7, hl224_7, hi224_7⟩ := at_T27 HR0.out x4_1 p224 q224
   cases e224
   have HR224_7 := A0_ hi224_7
   have HC224_7 := A0_ hl224_7
   clear hi224_7 hl224_7
   replace p224 := eq_true p224
   replace q224 := eq_true q224
   have p225 : 0 ≤ (x4_1 : Int) := wd_
   have q225 : x4_1 < (l0.length : Int) := wd_
   obtain ⟨ad225, A225_7, c225_7, e225, hx225_0, hx225_1, hx225_2, hx225_3, hx225_4, hx225_5, hx225_6, hx225_7, hl225_7, hi225_7⟩ := at_T27 HR0.out x4_1 p225 q225
   obtain rfl : ad224 = ad225 := (by injection e225)
   have HR225_7 := A0_ hi225_7
   have HC225_7 := A0_ hl225_7
   clear hi225_7 hl225_7
   replace p225 := eq_true p225
   replace q225 := eq_true q225
   have ea_ := Option.some.inj (hx224_7.symm.trans hx225_7)
   injection ea_ with ea_ en_ ec_
   subst ea_
   subst ec_
   clear en_
   have p226 : 0 ≤ (x4_1 : Int) := wd_
   have q226 : x4_1 < (l0.length : Int) := wd_
   obtain ⟨ad226, A226_7, c226_7, e226, hx226_0, hx226_1, hx226_2, hx226_3, hx226_4, hx226_5, hx226_6, hx226_7, hl226_7, hi226_7⟩ := at_T27 HR0.out x4_1 p226 q226
   obtain rfl : ad224 = ad226 := (by injection e226)
   have HR226_7 := A0_ hi226_7
   have HC226_7 := A0_ hl226_7
   clear hi226_7 hl226_7
   replace p226 := eq_true p226
   replace q226 := eq_true q226
   have ea_ := Option.some.inj (hx224_7.symm.trans hx226_7)
   injection ea_ with ea_ en_ ec_
   subst ea_
   subst ec_
   clear en_
   go_wp2
   repeat (go_quiet (fail); try go_wp2)
   go_roundg k1
   case measure => have := HK1.out; omega
   case rel => exact ⟨(wrap64 ((wrap64 ((wrap64 (x3_1 + (((rd_T27 l0 x4_1).f4).length : Int))) + (((rd_T27 l0 x4_1).f0).size : Int))) + (((rd_T27 l0 x4_1).f1).size : Int))), (wrap64 (x4_1 + 1)), wr_, wr_, H', ⟨by have := HK1.out; omega⟩, by repeat (first | exact Drawn0.refl _ | apply Drawn0.step)⟩
end Go.Proofs.YtiijbmaamblidaaDoor.Print

namespace Go.Proofs.YtiijbmaamblidaaDoor.Print
open Go.RowKit Go.Proofs.YtiijbmaamblidaaDoorW.PrintWords Go.Proofs.YtiijbmaamblidaaDoorW.PrintLast Go.Proofs.YtiijbmaamblidaaDoorW.PrintMore
attribute [local go_sem] max2_int min2_int max_two min_two max_three min_three max_four min_four   -- for this text's walks alone
set_option linter.unusedVariables false
set_option linter.unusedSimpArgs false
def flat_Flatten.f (l0 : List (S27)) : Option ((List (S27)) × Int × Int) := (tree_Fold.f l0).bind fun bt228 => (if bt228.2.1 = 0 then ((flat_Order.f l0).bind fun t234 => ((links_Members.f bt228.1 t234).bind fun bt237 => (some (bt237.1, bt237.2, 0)))) else (some (([] : List (S27)), bt228.2.1, bt228.2.2)))
set_option maxHeartbeats 8000000 in
set_option maxRecDepth 100000 in
theorem flat_Flatten.calls (A0 : Option Addr) (c0 : Nat) (l0 : List (S27)) (r1 : List (S27)) (r2 : Int) (r3 : Int) (w : World) (hT : Aside0 (Tabs w)) (hr0 : Kd.C k27 w A0 l0.length l0) (hc0 : l0.length ≤ c0) (h : flat_Flatten.f l0 = some (r1, r2, r3)) :
  Calls Tryd.prog 16 #[.slice A0 l0.length c0] w fun e w' => ∃ v0_ : Value, e = .returned (.tuple #[v0_, .agg #[.int .i64 r2, .int .i64 r3]]) ∧ Kd.V k27 27 w' w.heap.size (fun k_ => (w.heap.size ≤ k_)) v0_ r1 ∧ Below w.heap.size w w' := by
 have hu34 := Tryd.underlying34
 have HR0 := A0_ hr0
 have HC0 := A0_ hc0
 clear hr0 hc0
 have HB := A0_ (Below.refl w.heap.size w)
 have H : ((tree_Fold.f l0).bind fun bt228 => (if bt228.2.1 = 0 then ((flat_Order.f l0).bind fun t234 => ((links_Members.f bt228.1 t234).bind fun bt237 => (some (bt237.1, bt237.2, 0)))) else (some (([] : List (S27)), bt228.2.1, bt228.2.2)))) = some (r1, r2, r3) := h
 clear h
 replace H := Option.bind_eq_some_iff.mp H
 obtain ⟨⟨t228, t231, t232⟩, A20, H⟩ := H
 replace H : (if t231 = 0 then ((flat_Order.f l0).bind fun t234 => ((links_Members.f t228 t234).bind fun bt237 => (some (bt237.1, bt237.2, 0)))) else (some (([] : List (S27)), t231, t232))) = some (r1, r2, r3) := H
 have A2 := A0_ A20
 clear A20
 by_cases c3 : t231 = 0
 rotate_left
 ·rw [if_neg c3] at H
  have c3b0 : (t231 == 0) = false := beq_eq_false_iff_ne.mpr c3
  have c3b1 : (t231 != 0) = true := bne_iff_ne.mpr c3
  simp only [Option.some.injEq, Prod.mk.injEq] at H
  obtain ⟨rfl, rfl, rfl⟩ := H
  go_enter Tryd.func16, Tryd.ntmps16
  try go_wp2_with (first | ((with_reducible refine gate_dst (N := 3) rfl ?_); refine box_event ?hg (N := 3) ?hd (cs := #[.int .i64 0, .int .i64 0]) (t := 34) ?hr ?_; (case hd => rfl); (case hg => rfl); (case hr => first | (go_simp; done) | (go_simp; rfl)); intro gb227 hg w16 hbox hb; have n0_ := A0_ (below_step (wb_ HB.out) hb); have n1_ := A0_ (hbox); have n2_ := A0_ ((by rw [hg]; exact (below_size (wb_ HB.out)) : w.heap.size ≤ gb227)); have n3_ := A0_ ((by rw [hg]; exact (below_size (wb_ HB.out)) : w.heap.size ≤ gb227)); clear HB; have HB := n0_; have BK227 := n1_; have GW227 := n2_; have GE227 := n3_; clear n0_ n1_ n2_ n3_; clear hb hbox hg) | ((with_reducible refine gate_callee (f := 10) rfl ?_); refine goesL_ (some 10) rfl rfl Tryd.func10 (by kernel_rfl) rfl #[.slice A0 l0.length c0] rfl wm_ ?_; (with_reducible refine (tree_Fold.calls _ _ l0 t228 t231 t232 _ ?side1 ?side2 ?side3 A2.out).mono ?_); (case side1 => exact A0_ (Tabs.below hT.out (wb1_ HB.out GE227.out))); (case side2 => exact wc_ (Kd.C_below HR0.out HB.out)); (case side3 => exact HC0.out); rintro e w17 ⟨v229, rfl, ho0, hb⟩; refine ⟨_, rfl, ?_⟩; have n0_ := A0_ (Kd.V_lower (Kd.V_mono (ok' := fun k_ => (w.heap.size ≤ k_) ∧ k_ ≠ gb227) ho0 (fun k_ hk_ => ⟨(Nat.le_trans (below_size (wb1_ HB.out GE227.out)) hk_), (Kd.freshB (g := gb227) (o := .cells #[.int .i64 0, .int .i64 0] 34 (0, 0)) (wB_ BK227.out) k_ hk_)⟩)) (below_size (wb1_ HB.out GE227.out))); have n1_ := A0_ (blk_below (g := gb227) (o := .cells #[.int .i64 0, .int .i64 0] 34 (0, 0)) (wB_ BK227.out) hb); have n2_ := A0_ (below_step (wb1_ HB.out GE227.out) hb); clear BK227; clear HB; have HO230 := n0_; have BK227 := n1_; have HB := n2_; clear n0_ n1_ n2_; (try clear hb); (try clear hb2); (try clear hk); (try clear hi); (try clear ho0)) | ((with_reducible refine gate_dst (N := 5) rfl ?_); refine box_event ?hg (N := 5) ?hd (cs := #[.int .i64 0, .int .i64 0]) (t := 34) ?hr ?_; (case hd => rfl); (case hg => rfl); (case hr => first | (go_simp; done) | (go_simp; rfl)); intro gb233 hg w18 hbox hb; have n0_ := A0_ (Vb_ (Kd.V_elderB (wV_ HO230.out) gb233 (Nat.le_of_eq hg.symm)) hb); have n1_ := A0_ (blk_below (g := gb227) (o := .cells #[.int .i64 0, .int .i64 0] 34 (0, 0)) (wB_ BK227.out) hb); have n2_ := A0_ (below_step (wb1_ HB.out GE227.out) hb); have n3_ := A0_ (hbox); have n4_ := A0_ ((by rw [hg]; exact (below_size (wb1_ HB.out GE227.out)) : w.heap.size ≤ gb233)); have n5_ := A0_ ((by rw [hg]; exact (below_size (wb1_ HB.out GE227.out)) : w.heap.size ≤ gb233)); have n6_ := A0_ ((by rw [hg]; exact Nat.ne_of_lt (blk_lt (g := gb227) (o := .cells #[.int .i64 0, .int .i64 0] 34 (0, 0)) (wB_ BK227.out)) : gb227 ≠ gb233)); have n7_ := A0_ ((by rw [hg]; exact Nat.ne_of_gt (blk_lt (g := gb227) (o := .cells #[.int .i64 0, .int .i64 0] 34 (0, 0)) (wB_ BK227.out)) : gb233 ≠ gb227)); clear HO230; clear BK227; clear HB; have HO230 := n0_; have BK227 := n1_; have HB := n2_; have BK233 := n3_; have GW233 := n4_; have GE233 := n5_; have NB227_233 := n6_; have NB233_227 := n7_; clear n0_ n1_ n2_ n3_ n4_ n5_ n6_ n7_; clear hb hbox hg; have hnb19 := NB233_227.out; have hnc19 := NB227_233.out; have hcz20_0 : w18.cell? ⟨gb233, 0, none⟩ = some (.int .i64 0) := (bc_ BK233.out 0).trans rfl; have hcz20_1 : w18.cell? ⟨gb233, 1, none⟩ = some (.int .i64 0) := (bc_ BK233.out 1).trans rfl; have hfz20_0 := bf_ BK233.out 0; have hfz20_1 := bf_ BK233.out 1))
  have n0_ : Aside0 (Kd.V k38 38 ((w18.setCell ⟨gb233, 0, none⟩ (.int .i64 t231)).setCell ⟨gb233, 1, none⟩ (.int .i64 t232)) w.heap.size (fun k_ => (w.heap.size ≤ k_) ∧ k_ ≠ gb227 ∧ k_ ≠ gb233) v229 t228) := ⟨by (with_reducible repeat (first | apply Va_ | apply VN_ | apply V1_)); exact Kd.V_mono (Kd.V_far (p := ⟨gb233, 1, none⟩) (Kd.V_far (p := ⟨gb233, 0, none⟩) (Kd.V_mono HO230.out (fun k_ hk => (⟨hk, hk.2⟩ : _ ∧ k_ ≠ gb233))) (fun _ hk => hk.2) (.int .i64 t231)) (fun _ hk => hk.2) (.int .i64 t232)) (fun _ hk => ⟨hk.1.1.1, ⟨hk.1.1.2, hk.1.2⟩⟩)⟩
  have n1_ : Aside0 (((w18.setCell ⟨gb233, 0, none⟩ (.int .i64 t231)).setCell ⟨gb233, 1, none⟩ (.int .i64 t232)).heap[gb227]? = some (.cells #[.int .i64 0, .int .i64 0] 34 (0, 0))) := ⟨by (with_reducible repeat (first | refine blk_drewN ?_ _ | refine blk_drew ?_ | refine blk_alloc ?_ _)); refine blk_far ?_ NB227_233.out _; (with_reducible repeat (first | refine blk_drewN ?_ _ | refine blk_drew ?_ | refine blk_alloc ?_ _)); refine blk_far ?_ NB227_233.out _; (with_reducible repeat (first | refine blk_drewN ?_ _ | refine blk_drew ?_ | refine blk_alloc ?_ _)); exact BK227.out⟩
  have n2_ : Aside0 (((w18.setCell ⟨gb233, 0, none⟩ (.int .i64 t231)).setCell ⟨gb233, 1, none⟩ (.int .i64 t232)).heap[gb233]? = some (.cells #[.int .i64 t231, .int .i64 t232] 34 (0, 0))) := ⟨by (with_reducible repeat (first | refine blk_drewN ?_ _ | refine blk_drew ?_ | refine blk_alloc ?_ _)); refine blk_put (cs := #[.int .i64 t231, .int .i64 0]) ?_ 1 _ rfl; (with_reducible repeat (first | refine blk_drewN ?_ _ | refine blk_drew ?_ | refine blk_alloc ?_ _)); refine blk_put (cs := #[.int .i64 0, .int .i64 0]) ?_ 0 _ rfl; (with_reducible repeat (first | refine blk_drewN ?_ _ | refine blk_drew ?_ | refine blk_alloc ?_ _)); exact BK233.out⟩
  have n3_ : Aside0 (Below w.heap.size w ((w18.setCell ⟨gb233, 0, none⟩ (.int .i64 t231)).setCell ⟨gb233, 1, none⟩ (.int .i64 t232))) := ⟨wb2_ HB.out GE227.out GE233.out⟩
  (try clear HO230)
  (try clear BK227)
  (try clear BK233)
  (try clear HB)
  generalize ((w18.setCell ⟨gb233, 0, none⟩ (.int .i64 t231)).setCell ⟨gb233, 1, none⟩ (.int .i64 t232)) = w21 at n0_ n1_ n2_ n3_ ⊢
  have HO230 := n0_
  have BK227 := n1_
  have BK233 := n2_
  have HB := n3_
  clear n0_ n1_ n2_ n3_
  have n0_ := A0_ (V1_ HO230.out)
  have n1_ := A0_ (blk_drew BK227.out)
  have n2_ := A0_ (blk_drew BK233.out)
  have n3_ := A0_ (b1_ HB.out)
  clear HO230
  clear BK227
  clear BK233
  clear HB
  have HO230 := n0_
  have BK227 := n1_
  have BK233 := n2_
  have HB := n3_
  clear n0_ n1_ n2_ n3_
  refine start_ (n := 3) (S := fun w' => w'.cell? ⟨gb233, 0, none⟩ = some (.int .i64 t231) ∧ w'.cell? ⟨gb233, 1, none⟩ = some (.int .i64 t232)) (ds := []) #[false, false, false] (by kernel_rfl) rfl rfl ⟨(bc_ BK233.out 0).trans rfl, (bc_ BK233.out 1).trans rfl⟩ (fun hHeld => ?_)
  generalize w21.drew = w22 at HO230 BK227 BK233 HB hHeld ⊢
  refine pur_ (i := 1) (N := some 2) #[false, true, false] (by kernel_rfl) ?_
  refine tak_ (i := 0) (N := some 16) #[true, true, false] (by kernel_rfl) hHeld ?_
  refine one_ (i := 2) (N := none) #[true, true, true] rfl rfl (by kernel_rfl) (by decide) (fun K hK => ?_)
  have hs23 : w22.cell? ⟨gb227, 0, none⟩ = some (.int .i64 0) := (bc_ BK227.out 0).trans rfl
  have hfs23 := bf_ BK227.out 0
  have hns23_1 := NB233_227.out
  have hms23_1 := NB227_233.out
  have hs24 : w22.cell? ⟨gb227, 1, none⟩ = some (.int .i64 0) := (bc_ BK227.out 1).trans rfl
  have hfs24 := bf_ BK227.out 1
  have hns24_1 := NB233_227.out
  have hms24_1 := NB227_233.out
  refine skip_ (w1 := ?_) (by rfl) rfl ?_ ?_
  rotate_left
  ·go_simp
   rfl
  refine hK.out _ _ ⟨((cF_ NB233_227.out).trans (((cF_ NB233_227.out).trans (hHeld.1)))), ((cF_ NB233_227.out).trans (((cF_ NB233_227.out).trans (hHeld.2))))⟩ (fun hHeld => ?_)
  clear hK K
  refine done_ (by kernel_rfl) ?_
  try go_wp2
  refine bodyPost_ret (results_tc rfl _ _ gb227 34 #[.int .i64 t231, .int .i64 t232] (0, 0) _ rfl (by (with_reducible repeat (first | refine blk_drewN ?_ _ | refine blk_drew ?_ | refine blk_alloc ?_ _)); refine blk_put (cs := #[.int .i64 t231, .int .i64 0]) ?_ 1 _ rfl; (with_reducible repeat (first | refine blk_drewN ?_ _ | refine blk_drew ?_ | refine blk_alloc ?_ _)); refine blk_put (cs := #[.int .i64 0, .int .i64 0]) ?_ 0 _ rfl; (with_reducible repeat (first | refine blk_drewN ?_ _ | refine blk_drew ?_ | refine blk_alloc ?_ _)); exact BK227.out) Tryd.underlying34 rfl (by kernel_rfl)) rfl ?_
  exact ⟨_, we_, (Kd.V_nil _ _ _ _ _), wb2_ HB.out GE227.out GE233.out⟩
 rw [if_pos c3] at H
 have c3b0 : (t231 == 0) = true := beq_iff_eq.mpr c3
 have c3b1 : (t231 != 0) = false := bne_eq_false_iff_eq.mpr c3
 clear c3
 replace H := Option.bind_eq_some_iff.mp H
 obtain ⟨t234, A40, H⟩ := H
 replace H : ((links_Members.f t228 t234).bind fun bt237 => (some (bt237.1, bt237.2, 0))) = some (r1, r2, r3) := H
 have A4 := A0_ A40
 clear A40
 replace H := Option.bind_eq_some_iff.mp H
 obtain ⟨⟨t237, t240⟩, A50, H⟩ := H
 replace H : (some (t237, t240, 0)) = some (r1, r2, r3) := H
 have A5 := A0_ A50
 clear A50
 simp only [Option.some.injEq, Prod.mk.injEq] at H
 obtain ⟨rfl, rfl, rfl⟩ := H
 go_enter Tryd.func16, Tryd.ntmps16
 go_wp2_with (first | ((with_reducible refine gate_dst (N := 3) rfl ?_); refine box_event ?hg (N := 3) ?hd (cs := #[.int .i64 0, .int .i64 0]) (t := 34) ?hr ?_; (case hd => rfl); (case hg => rfl); (case hr => first | (go_simp; done) | (go_simp; rfl)); intro gb227 hg w6 hbox hb; have n0_ := A0_ (below_step (wb_ HB.out) hb); have n1_ := A0_ (hbox); have n2_ := A0_ ((by rw [hg]; exact (below_size (wb_ HB.out)) : w.heap.size ≤ gb227)); have n3_ := A0_ ((by rw [hg]; exact (below_size (wb_ HB.out)) : w.heap.size ≤ gb227)); clear HB; have HB := n0_; have BK227 := n1_; have GW227 := n2_; have GE227 := n3_; clear n0_ n1_ n2_ n3_; clear hb hbox hg) | ((with_reducible refine gate_callee (f := 10) rfl ?_); refine goesL_ (some 10) rfl rfl Tryd.func10 (by kernel_rfl) rfl #[.slice A0 l0.length c0] rfl wm_ ?_; (with_reducible refine (tree_Fold.calls _ _ l0 t228 t231 t232 _ ?side1 ?side2 ?side3 A2.out).mono ?_); (case side1 => exact A0_ (Tabs.below hT.out (wb1_ HB.out GE227.out))); (case side2 => exact wc_ (Kd.C_below HR0.out HB.out)); (case side3 => exact HC0.out); rintro e w7 ⟨v229, rfl, ho0, hb⟩; refine ⟨_, rfl, ?_⟩; have n0_ := A0_ (Kd.V_lower (Kd.V_mono (ok' := fun k_ => (w.heap.size ≤ k_) ∧ k_ ≠ gb227) ho0 (fun k_ hk_ => ⟨(Nat.le_trans (below_size (wb1_ HB.out GE227.out)) hk_), (Kd.freshB (g := gb227) (o := .cells #[.int .i64 0, .int .i64 0] 34 (0, 0)) (wB_ BK227.out) k_ hk_)⟩)) (below_size (wb1_ HB.out GE227.out))); have n1_ := A0_ (blk_below (g := gb227) (o := .cells #[.int .i64 0, .int .i64 0] 34 (0, 0)) (wB_ BK227.out) hb); have n2_ := A0_ (below_step (wb1_ HB.out GE227.out) hb); clear BK227; clear HB; have HO230 := n0_; have BK227 := n1_; have HB := n2_; clear n0_ n1_ n2_; (try clear hb); (try clear hb2); (try clear hk); (try clear hi); (try clear ho0)) | ((with_reducible refine gate_dst (N := 5) rfl ?_); refine box_event ?hg (N := 5) ?hd (cs := #[.int .i64 0, .int .i64 0]) (t := 34) ?hr ?_; (case hd => rfl); (case hg => rfl); (case hr => first | (go_simp; done) | (go_simp; rfl)); intro gb233 hg w8 hbox hb; have n0_ := A0_ (Vb_ (Kd.V_elderB (wV_ HO230.out) gb233 (Nat.le_of_eq hg.symm)) hb); have n1_ := A0_ (blk_below (g := gb227) (o := .cells #[.int .i64 0, .int .i64 0] 34 (0, 0)) (wB_ BK227.out) hb); have n2_ := A0_ (below_step (wb1_ HB.out GE227.out) hb); have n3_ := A0_ (hbox); have n4_ := A0_ ((by rw [hg]; exact (below_size (wb1_ HB.out GE227.out)) : w.heap.size ≤ gb233)); have n5_ := A0_ ((by rw [hg]; exact (below_size (wb1_ HB.out GE227.out)) : w.heap.size ≤ gb233)); have n6_ := A0_ ((by rw [hg]; exact Nat.ne_of_lt (blk_lt (g := gb227) (o := .cells #[.int .i64 0, .int .i64 0] 34 (0, 0)) (wB_ BK227.out)) : gb227 ≠ gb233)); have n7_ := A0_ ((by rw [hg]; exact Nat.ne_of_gt (blk_lt (g := gb227) (o := .cells #[.int .i64 0, .int .i64 0] 34 (0, 0)) (wB_ BK227.out)) : gb233 ≠ gb227)); clear HO230; clear BK227; clear HB; have HO230 := n0_; have BK227 := n1_; have HB := n2_; have BK233 := n3_; have GW233 := n4_; have GE233 := n5_; have NB227_233 := n6_; have NB233_227 := n7_; clear n0_ n1_ n2_ n3_ n4_ n5_ n6_ n7_; clear hb hbox hg; have hnb9 := NB233_227.out; have hnc9 := NB227_233.out; have hcz10_0 : w8.cell? ⟨gb233, 0, none⟩ = some (.int .i64 0) := (bc_ BK233.out 0).trans rfl; have hcz10_1 : w8.cell? ⟨gb233, 1, none⟩ = some (.int .i64 0) := (bc_ BK233.out 1).trans rfl; have hfz10_0 := bf_ BK233.out 0; have hfz10_1 := bf_ BK233.out 1) | ((with_reducible refine gate_callee (f := 17) rfl ?_); refine goesL_ (some 20) rfl rfl Tryd.func17 (by kernel_rfl) rfl #[.slice A0 l0.length c0] rfl wm_ ?_; (with_reducible refine (flat_Order.calls _ _ l0 t234 _ ?side1 ?side2 A4.out).mono ?_); (case side1 => exact Kd.C_below HR0.out (wb2_ HB.out GE227.out GE233.out)); (case side2 => exact HC0.out); rintro e w11 ⟨v235, rfl, ho0, hb⟩; refine ⟨_, rfl, ?_⟩; have n0_ := A0_ (Kd.V_elder' (by (with_reducible repeat (first | apply Va_ | apply VN_ | apply V1_)); exact (Kd.V_mono (Kd.V_far (p := ⟨gb233, 1, none⟩) (Kd.V_far (p := ⟨gb233, 0, none⟩) (Kd.V_mono HO230.out (fun k_ hk => (⟨hk, hk.2⟩ : _ ∧ k_ ≠ gb233))) (fun _ hk => hk.2) (.int .i64 t231)) (fun _ hk => hk.2) (.int .i64 t232)) (fun _ h_ => h_.1))) (Kd.R_base ho0) hb); have n1_ := A0_ (Kd.R_lower (Kd.R_newM (M := fun k_ => (w.heap.size ≤ k_)) ho0 (below_size (wb2_ HB.out GE227.out GE233.out)) (fun k_ h_ => h_)) (below_size (wb2_ HB.out GE227.out GE233.out))); have n2_ := A0_ (blk_below (g := gb227) (o := .cells #[.int .i64 0, .int .i64 0] 34 (0, 0)) (by (with_reducible repeat (first | refine blk_drewN ?_ _ | refine blk_drew ?_ | refine blk_alloc ?_ _)); refine blk_far ?_ NB227_233.out _; (with_reducible repeat (first | refine blk_drewN ?_ _ | refine blk_drew ?_ | refine blk_alloc ?_ _)); refine blk_far ?_ NB227_233.out _; (with_reducible repeat (first | refine blk_drewN ?_ _ | refine blk_drew ?_ | refine blk_alloc ?_ _)); exact BK227.out) hb); have n3_ := A0_ (blk_below (g := gb233) (o := .cells #[.int .i64 t231, .int .i64 t232] 34 (0, 0)) (by (with_reducible repeat (first | refine blk_drewN ?_ _ | refine blk_drew ?_ | refine blk_alloc ?_ _)); refine blk_put (cs := #[.int .i64 t231, .int .i64 0]) ?_ 1 _ rfl; (with_reducible repeat (first | refine blk_drewN ?_ _ | refine blk_drew ?_ | refine blk_alloc ?_ _)); refine blk_put (cs := #[.int .i64 0, .int .i64 0]) ?_ 0 _ rfl; (with_reducible repeat (first | refine blk_drewN ?_ _ | refine blk_drew ?_ | refine blk_alloc ?_ _)); exact BK233.out) hb); have n4_ := A0_ (below_step (wb2_ HB.out GE227.out GE233.out) hb); clear HO230; clear BK227; clear BK233; clear HB; have HO230 := n0_; have HO236 := n1_; have BK227 := n2_; have BK233 := n3_; have HB := n4_; clear n0_ n1_ n2_ n3_ n4_; (try clear hb); (try clear hb2); (try clear hk); (try clear hi); (try clear ho0); obtain ⟨Ao12, co12, eo12⟩ := Kd.V_slice HO230.out; subst eo12; obtain ⟨Ao13, co13, eo13⟩ := Kd.R_slice HO236.out; subst eo13) | ((with_reducible refine gate_callee (f := 28) rfl ?_); refine goesL_ (some 21) rfl rfl Tryd.func28 (by kernel_rfl) rfl #[.slice Ao12 t228.length co12, .slice Ao13 t234.length co13] rfl wm_ ?_; (with_reducible refine (links_Members.calls _ _ t228 _ _ t234 t237 t240 _ ?side1 ?side2 ?side3 ?side4 A5.out).mono ?_); (case side1 => exact wc_ (Kd.V_reads' HO230.out).2.2); (case side2 => exact (Kd.V_reads' HO230.out).2.1); (case side3 => exact wc_ (Kd.R_reads' HO236.out).2.2); (case side4 => exact (Kd.R_reads' HO236.out).2.1); rintro e w14 ⟨v238, rfl, ho0, hb⟩; refine ⟨_, rfl, ?_⟩; have n0_ := A0_ (Vb_ (wV_ HO230.out) hb); have n1_ := A0_ (Rb_ (wR_ HO236.out) hb); have n2_ := A0_ (Kd.V_lower (Kd.V_mono (ok' := fun k_ => (w.heap.size ≤ k_) ∧ some k_ ≠ (.slice Ao13 t234.length co13 : Value).ownBlock ∧ k_ ≠ gb227 ∧ k_ ≠ gb233) ho0 (fun k_ hk_ => ⟨(Nat.le_trans (below_size (wb2_ HB.out GE227.out GE233.out)) hk_), (Kd.fresh' (Kd.R_lt (wR_ HO236.out)) k_ hk_), (Kd.freshB (g := gb227) (o := .cells #[.int .i64 0, .int .i64 0] 34 (0, 0)) (wB_ BK227.out) k_ hk_), (Kd.freshB (g := gb233) (o := .cells #[.int .i64 t231, .int .i64 t232] 34 (0, 0)) (wB_ BK233.out) k_ hk_)⟩)) (below_size (wb2_ HB.out GE227.out GE233.out))); have n3_ := A0_ (blk_below (g := gb227) (o := .cells #[.int .i64 0, .int .i64 0] 34 (0, 0)) (wB_ BK227.out) hb); have n4_ := A0_ (blk_below (g := gb233) (o := .cells #[.int .i64 t231, .int .i64 t232] 34 (0, 0)) (wB_ BK233.out) hb); have n5_ := A0_ (below_step (wb2_ HB.out GE227.out GE233.out) hb); clear HO230; clear HO236; clear BK227; clear BK233; clear HB; have HO230 := n0_; have HO236 := n1_; have HO239 := n2_; have BK227 := n3_; have BK233 := n4_; have HB := n5_; clear n0_ n1_ n2_ n3_ n4_ n5_; (try clear hb); (try clear hb2); (try clear hk); (try clear hi); (try clear ho0); have hcz15_0 : w14.cell? ⟨gb227, 0, none⟩ = some (.int .i64 0) := (bc_ BK227.out 0).trans rfl; have hcz15_1 : w14.cell? ⟨gb227, 1, none⟩ = some (.int .i64 0) := (bc_ BK227.out 1).trans rfl; have hfz15_0 := bf_ BK227.out 0; have hfz15_1 := bf_ BK227.out 1))
 refine bodyPost_ret (results_tc rfl _ _ gb227 34 #[.int .i64 t240, .int .i64 0] (0, 0) _ rfl (by (with_reducible repeat (first | refine blk_drewN ?_ _ | refine blk_drew ?_ | refine blk_alloc ?_ _)); refine blk_put (cs := #[.int .i64 t240, .int .i64 0]) ?_ 1 _ rfl; (with_reducible repeat (first | refine blk_drewN ?_ _ | refine blk_drew ?_ | refine blk_alloc ?_ _)); refine blk_put (cs := #[.int .i64 0, .int .i64 0]) ?_ 0 _ rfl; (with_reducible repeat (first | refine blk_drewN ?_ _ | refine blk_drew ?_ | refine blk_alloc ?_ _)); exact BK227.out) Tryd.underlying34 rfl (by kernel_rfl)) rfl ?_
 exact ⟨_, we_, by (with_reducible repeat (first | apply Va_ | apply VN_ | apply V1_)); exact Kd.V_mono (Kd.V_far (p := ⟨gb227, 1, none⟩) (Kd.V_far (p := ⟨gb227, 0, none⟩) (Kd.V_mono HO239.out (fun k_ hk => (⟨hk, hk.2.2.1⟩ : _ ∧ k_ ≠ gb227))) (fun _ hk => hk.2) (.int .i64 t240)) (fun _ hk => hk.2) (.int .i64 0)) (fun _ hk => hk.1.1), wb2_ HB.out GE227.out GE233.out⟩
end Go.Proofs.YtiijbmaamblidaaDoor.Print

namespace Go.Proofs.YtiijbmaamblidaaDoor
open Go.RowKit Go.Proofs.YtiijbmaamblidaaDoor.Print Go.Proofs.YtiijbmaamblidaaDoorW.PrintWords
set_option linter.unusedVariables false
theorem rdM_n (l : List Mem) (j : Nat) (h : j < l.length) : rd_T27 l (j : Int) = l[j] := by rw [rdM_at l j (by omega) (by omega)]; simp
def sizeM (m : Mem) : Nat := m.f4.length + m.f0.size + m.f1.size
def sumTo (l : List Mem) (i : Nat) : Nat := ((l.take i).map sizeM).sum
theorem sumTo_succ {l : List Mem} {i : Nat} (h : i < l.length) : sumTo l (i + 1) = sumTo l i + sizeM l[i] := by
 unfold sumTo
 rw [List.take_succ_eq_append_getElem h, List.map_append, List.sum_append]
 simp
theorem sumTo_le {l : List Mem} {i j : Nat} (h : i ≤ j) (hj : j ≤ l.length) : sumTo l i ≤ sumTo l j := by
 induction j with
 | zero =>
  obtain rfl : i = 0 := (by omega)
  exact Nat.le_refl _
 | succ j ih =>
  rcases Nat.lt_or_ge i (j + 1) with h1 | h1
  ·have := ih (by omega) (by omega)
   rw [sumTo_succ (by omega)]
   omega
  ·obtain rfl : i = j + 1 := by omega
   exact Nat.le_refl _
theorem light18_no (l : List Mem) (h60 : ¬ l.length ≤ 60) (hlen : l.length ≤ 140737488351232) : ∀ (d i : Nat) (s : Int), i + d = l.length → Ev (fun k => bindlelaw18_light.l0 k l s (i : Int)) false := by
 intro d
 induction d with
 | zero =>
  intro i s hi
  exact Ev.step (f := fun _ => some false) (fun k => by rw [bindlelaw18_light.l0, if_neg (by omega), if_neg (by omega)]) (Ev.now _)
 | succ d ih =>
  intro i s hi
  refine Ev.step (fun k => ?_) (ih (i + 1) (wrap64 ((wrap64 ((wrap64 (s + (((rd_T27 l (i : Int)).f4).length : Int))) + (((rd_T27 l (i : Int)).f0).size : Int))) + (((rd_T27 l (i : Int)).f1).size : Int))) (by omega))
  rw [bindlelaw18_light.l0, if_pos (by omega), if_pos (by omega), show wrap64 ((i : Int) + 1) = ((i + 1 : Nat) : Int) by unfold wrap64; omega]
theorem w_plus {a b : Nat} (h : a + b ≤ 4611686018427387904) : wrap64 ((a : Int) + (b : Int)) = ((a + b : Nat) : Int) := by unfold wrap64; omega
theorem light18_yes (l : List Mem) (h60 : l.length ≤ 60) (hz : ∀ x ∈ l, MemR x) : ∀ (d i : Nat), i + d = l.length → sumTo l i ≤ i * 600000000000000 → Ev (fun k => bindlelaw18_light.l0 k l (sumTo l i : Int) (i : Int)) (decide (sumTo l l.length ≤ 200000)) := by
 intro d
 induction d with
 | zero =>
  intro i hi hs
  obtain rfl : i = l.length := by omega
  refine Ev.step (f := fun _ => some (decide (sumTo l l.length ≤ 200000))) (fun k => ?_) (Ev.now _)
  rw [bindlelaw18_light.l0, if_neg (by omega), if_pos (by omega)]
  congr 1
  rw [decide_eq_decide]
  omega
 | succ d ih =>
  intro i hi hs
  have hil : i < l.length := by omega
  obtain ⟨z0, z1, z2⟩ := hz l[i] (List.getElem_mem hil)
  have hsz : sizeM l[i] = l[i].f4.length + l[i].f0.size + l[i].f1.size := rfl
  have h1 := sumTo_succ hil
  have hs' : sumTo l (i + 1) ≤ (i + 1) * 600000000000000 := by omega
  refine Ev.step (fun k => ?_) (ih (i + 1) (by omega) hs')
  rw [bindlelaw18_light.l0, if_pos (by omega), if_pos (by omega), rdM_n l i hil]
  rw [show wrap64 ((i : Int) + 1) = ((i + 1 : Nat) : Int) by unfold wrap64; omega]
  rw [w_plus (by omega), w_plus (by omega), w_plus (by omega), show sumTo l i + l[i].f4.length + l[i].f0.size + l[i].f1.size = sumTo l (i + 1) by omega]
theorem light18_eq (l : List Mem) (hz : ∀ x ∈ l, MemR x) (hlen : l.length ≤ 140737488351232) : ∃ b, Ev (fun k => bindlelaw18_light.f k l) b ∧ (b = true → l.length ≤ 60 ∧ MemsZ l ∧ sumTo l l.length ≤ 200000) := by
 by_cases h60 : l.length ≤ 60
 ·refine ⟨_, light18_yes l h60 hz l.length 0 (by omega) (by unfold sumTo; simp), fun h => ?_⟩
  have h := of_decide_eq_true h
  refine ⟨h60, ⟨by omega, fun x hx => ?_⟩, h⟩
  obtain ⟨i, hi, rfl⟩ := List.getElem_of_mem hx
  have h1 := sumTo_succ hi
  have h2 := sumTo_le (l := l) (i := i + 1) (j := l.length) (by omega) (Nat.le_refl _)
  have hsz : sizeM l[i] = l[i].f4.length + l[i].f0.size + l[i].f1.size := rfl
  exact ⟨by omega, by omega, by omega⟩
 ·exact ⟨false, light18_no l h60 hlen l.length 0 0 (by omega), fun h => by cases h⟩
theorem flatten_f {l : List Mem} (hz : MemsZ l) (h4 : l.length ≤ 4096) : flat_Flatten.f l = some (flatF l) := by
 unfold flat_Flatten.f tree_Fold.f flat_Order.f
 rw [if_pos ((memsZ_iff l).2 hz), Option.bind_some]
 by_cases h0 : (foldF l).2.1 = 0
 ·have H := flat_ok hz h4 h0
  rw [if_pos h0, if_pos ((memsZ_iff l).2 hz), Option.bind_some]
  unfold links_Members.f
  rw [if_pos ⟨(good_parts H.good).1, (nodesZ_iff _).2 H.nodes.1⟩, Option.bind_some, H.is, H.zero]
 ·rw [if_neg h0, flat_bad h0]
end Go.Proofs.YtiijbmaamblidaaDoor

namespace Go.Proofs.YtiijbmaamblidaaDoor.Print
open Go.RowKit Go.Proofs.YtiijbmaamblidaaDoorW.PrintWords Go.Proofs.YtiijbmaamblidaaDoorW.PrintLast Go.Proofs.YtiijbmaamblidaaDoorW.PrintMore
attribute [local go_sem] max2_int min2_int max_two min_two max_three min_three max_four min_four   -- for this text's walks alone
set_option linter.unusedVariables false
set_option linter.unusedSimpArgs false
def bindlelaw18_answers.f  : Option (Bool) := (some (([(⟨(⟨#[97]⟩ : ByteArray), (⟨#[]⟩ : ByteArray), 48, (⟨0, 0, 0, 0⟩ : S24), ([] : List Int)⟩ : S27), (⟨(⟨#[98]⟩ : ByteArray), (⟨#[]⟩ : ByteArray), 48, (⟨0, 0, 0, 0⟩ : S24), ([] : List Int)⟩ : S27), (⟨(⟨#[97]⟩ : ByteArray), (⟨#[]⟩ : ByteArray), 48, (⟨0, 0, 0, 0⟩ : S24), ([] : List Int)⟩ : S27)] : List (S27)) : List (S27))).bind fun y241 => ((flat_Flatten.f y241).bind fun bt244 => ((flat_Flatten.f (([(⟨(⟨#[]⟩ : ByteArray), (⟨#[]⟩ : ByteArray), 0, (⟨0, 0, 0, 0⟩ : S24), ([] : List Int)⟩ : S27)] : List (S27)))).bind fun bt253 => ((flat_Order.f y241).bind fun t259 => (if bt244.2.1 = 0 then (if (bt244.1.length : Int) = 2 then (if 0 < (bt244.1.length : Int) then (if ((rd_T27 bt244.1 0).f0).toList = ([98] : List UInt8) then (if 1 < (bt244.1.length : Int) then (if ((rd_T27 bt244.1 1).f0).toList = ([97] : List UInt8) then (if bt253.2.1 = 1 then (if (t259.length : Int) = 2 then (if 1 < (t259.length : Int) then (some ((rdOf ByteArray.empty t259 1).toList == ([97] : List UInt8))) else (none)) else (some false)) else (some false)) else (some false)) else (none)) else (some false)) else (none)) else (some false)) else (some false)))))
theorem bindlelaw18_answers.val : bindlelaw18_answers.f = some true := by kernel_rfl
set_option maxHeartbeats 8000000 in
set_option maxRecDepth 100000 in
theorem bindlelaw18_answers.calls  (r : Bool) (w : World) (hT : Aside0 (Tabs w)) (h : bindlelaw18_answers.f  = some r) :
  Calls Tryd.prog 15 #[] w fun e w' => e = .returned (.bool r) ∧ Below w.heap.size w w' := by
 have hr_ : r = true := Option.some.inj (h.symm.trans bindlelaw18_answers.val)
 have hu27 := Tryd.underlying27
 have hu34 := Tryd.underlying34
 have HB := A0_ (Below.refl w.heap.size w)
 have H : ((some (([(⟨(⟨#[97]⟩ : ByteArray), (⟨#[]⟩ : ByteArray), 48, (⟨0, 0, 0, 0⟩ : S24), ([] : List Int)⟩ : S27), (⟨(⟨#[98]⟩ : ByteArray), (⟨#[]⟩ : ByteArray), 48, (⟨0, 0, 0, 0⟩ : S24), ([] : List Int)⟩ : S27), (⟨(⟨#[97]⟩ : ByteArray), (⟨#[]⟩ : ByteArray), 48, (⟨0, 0, 0, 0⟩ : S24), ([] : List Int)⟩ : S27)] : List (S27)) : List (S27))).bind fun y241 => ((flat_Flatten.f y241).bind fun bt244 => ((flat_Flatten.f (([(⟨(⟨#[]⟩ : ByteArray), (⟨#[]⟩ : ByteArray), 0, (⟨0, 0, 0, 0⟩ : S24), ([] : List Int)⟩ : S27)] : List (S27)))).bind fun bt253 => ((flat_Order.f y241).bind fun t259 => (if bt244.2.1 = 0 then (if (bt244.1.length : Int) = 2 then (if 0 < (bt244.1.length : Int) then (if ((rd_T27 bt244.1 0).f0).toList = ([98] : List UInt8) then (if 1 < (bt244.1.length : Int) then (if ((rd_T27 bt244.1 1).f0).toList = ([97] : List UInt8) then (if bt253.2.1 = 1 then (if (t259.length : Int) = 2 then (if 1 < (t259.length : Int) then (some ((rdOf ByteArray.empty t259 1).toList == ([97] : List UInt8))) else (none)) else (some false)) else (some false)) else (some false)) else (none)) else (some false)) else (none)) else (some false)) else (some false)))))) = some r := h
 clear h
 obtain ⟨y241, hy241⟩ : ∃ y_ : List (S27), y_ = (([(⟨(⟨#[97]⟩ : ByteArray), (⟨#[]⟩ : ByteArray), 48, (⟨0, 0, 0, 0⟩ : S24), ([] : List Int)⟩ : S27), (⟨(⟨#[98]⟩ : ByteArray), (⟨#[]⟩ : ByteArray), 48, (⟨0, 0, 0, 0⟩ : S24), ([] : List Int)⟩ : S27), (⟨(⟨#[97]⟩ : ByteArray), (⟨#[]⟩ : ByteArray), 48, (⟨0, 0, 0, 0⟩ : S24), ([] : List Int)⟩ : S27)] : List (S27))) := ⟨_, rfl⟩
 replace H : ((flat_Flatten.f y241).bind fun bt244 => ((flat_Flatten.f (([(⟨(⟨#[]⟩ : ByteArray), (⟨#[]⟩ : ByteArray), 0, (⟨0, 0, 0, 0⟩ : S24), ([] : List Int)⟩ : S27)] : List (S27)))).bind fun bt253 => ((flat_Order.f y241).bind fun t259 => (if bt244.2.1 = 0 then (if (bt244.1.length : Int) = 2 then (if 0 < (bt244.1.length : Int) then (if ((rd_T27 bt244.1 0).f0).toList = ([98] : List UInt8) then (if 1 < (bt244.1.length : Int) then (if ((rd_T27 bt244.1 1).f0).toList = ([97] : List UInt8) then (if bt253.2.1 = 1 then (if (t259.length : Int) = 2 then (if 1 < (t259.length : Int) then (some ((rdOf ByteArray.empty t259 1).toList == ([97] : List UInt8))) else (none)) else (some false)) else (some false)) else (some false)) else (none)) else (some false)) else (none)) else (some false)) else (some false))))) = some r := by first | (rw [hy241]; with_reducible exact H) | (have H2_ := (Option.bind_some _ _).symm.trans H; rw [hy241]; with_reducible exact H2_) | (have H2_ := (Option.bind_some _ _).symm.trans H; with_reducible exact H2_) | with_reducible exact H | (rw [hy241]; exact H) | exact H
 have Ny241 := A0_ hy241
 clear hy241
 replace H := Option.bind_eq_some_iff.mp H
 obtain ⟨⟨t244, t247, t248⟩, A10, H⟩ := H
 replace H : ((flat_Flatten.f (([(⟨(⟨#[]⟩ : ByteArray), (⟨#[]⟩ : ByteArray), 0, (⟨0, 0, 0, 0⟩ : S24), ([] : List Int)⟩ : S27)] : List (S27)))).bind fun bt253 => ((flat_Order.f y241).bind fun t259 => (if t247 = 0 then (if (t244.length : Int) = 2 then (if 0 < (t244.length : Int) then (if ((rd_T27 t244 0).f0).toList = ([98] : List UInt8) then (if 1 < (t244.length : Int) then (if ((rd_T27 t244 1).f0).toList = ([97] : List UInt8) then (if bt253.2.1 = 1 then (if (t259.length : Int) = 2 then (if 1 < (t259.length : Int) then (some ((rdOf ByteArray.empty t259 1).toList == ([97] : List UInt8))) else (none)) else (some false)) else (some false)) else (some false)) else (none)) else (some false)) else (none)) else (some false)) else (some false)))) = some r := H
 have A1 := A0_ A10
 clear A10
 obtain ⟨y250, hy250⟩ : ∃ y_ : List (S27), y_ = (([(⟨(⟨#[]⟩ : ByteArray), (⟨#[]⟩ : ByteArray), 0, (⟨0, 0, 0, 0⟩ : S24), ([] : List Int)⟩ : S27)] : List (S27))) := ⟨_, rfl⟩
 replace H : ((flat_Flatten.f y250).bind fun bt253 => ((flat_Order.f y241).bind fun t259 => (if t247 = 0 then (if (t244.length : Int) = 2 then (if 0 < (t244.length : Int) then (if ((rd_T27 t244 0).f0).toList = ([98] : List UInt8) then (if 1 < (t244.length : Int) then (if ((rd_T27 t244 1).f0).toList = ([97] : List UInt8) then (if bt253.2.1 = 1 then (if (t259.length : Int) = 2 then (if 1 < (t259.length : Int) then (some ((rdOf ByteArray.empty t259 1).toList == ([97] : List UInt8))) else (none)) else (some false)) else (some false)) else (some false)) else (none)) else (some false)) else (none)) else (some false)) else (some false)))) = some r := by first | (rw [hy250]; with_reducible exact H) | (have H2_ := (Option.bind_some _ _).symm.trans H; rw [hy250]; with_reducible exact H2_) | (have H2_ := (Option.bind_some _ _).symm.trans H; with_reducible exact H2_) | with_reducible exact H | (rw [hy250]; exact H) | exact H
 have Ny250 := A0_ hy250
 clear hy250
 replace H := Option.bind_eq_some_iff.mp H
 obtain ⟨⟨t253, t256, t257⟩, A20, H⟩ := H
 replace H : ((flat_Order.f y241).bind fun t259 => (if t247 = 0 then (if (t244.length : Int) = 2 then (if 0 < (t244.length : Int) then (if ((rd_T27 t244 0).f0).toList = ([98] : List UInt8) then (if 1 < (t244.length : Int) then (if ((rd_T27 t244 1).f0).toList = ([97] : List UInt8) then (if t256 = 1 then (if (t259.length : Int) = 2 then (if 1 < (t259.length : Int) then (some ((rdOf ByteArray.empty t259 1).toList == ([97] : List UInt8))) else (none)) else (some false)) else (some false)) else (some false)) else (none)) else (some false)) else (none)) else (some false)) else (some false))) = some r := H
 have A2 := A0_ A20
 clear A20
 replace H := Option.bind_eq_some_iff.mp H
 obtain ⟨t259, A30, H⟩ := H
 replace H : (if t247 = 0 then (if (t244.length : Int) = 2 then (if 0 < (t244.length : Int) then (if ((rd_T27 t244 0).f0).toList = ([98] : List UInt8) then (if 1 < (t244.length : Int) then (if ((rd_T27 t244 1).f0).toList = ([97] : List UInt8) then (if t256 = 1 then (if (t259.length : Int) = 2 then (if 1 < (t259.length : Int) then (some ((rdOf ByteArray.empty t259 1).toList == ([97] : List UInt8))) else (none)) else (some false)) else (some false)) else (some false)) else (none)) else (some false)) else (none)) else (some false)) else (some false)) = some r := H
 have A3 := A0_ A30
 clear A30
 by_cases c4 : t247 = 0
 rotate_left
 ·rw [if_neg c4] at H
  have c4b0 : (t247 == 0) = false := beq_eq_false_iff_ne.mpr c4
  have c4b1 : (t247 != 0) = true := bne_iff_ne.mpr c4
  exact absurd ((Option.some.inj H).trans hr_) (by decide)
 rw [if_pos c4] at H
 have c4b0 : (t247 == 0) = true := beq_iff_eq.mpr c4
 have c4b1 : (t247 != 0) = false := bne_eq_false_iff_eq.mpr c4
 clear c4
 by_cases c5 : (t244.length : Int) = 2
 rotate_left
 ·rw [if_neg c5] at H
  have c5b0 : ((t244.length : Int) == 2) = false := beq_eq_false_iff_ne.mpr c5
  have c5b1 : ((t244.length : Int) != 2) = true := bne_iff_ne.mpr c5
  exact absurd ((Option.some.inj H).trans hr_) (by decide)
 rw [if_pos c5] at H
 have c5b0 : ((t244.length : Int) == 2) = true := beq_iff_eq.mpr c5
 have c5b1 : ((t244.length : Int) != 2) = false := bne_eq_false_iff_eq.mpr c5
 clear c5
 by_cases c6 : 0 < (t244.length : Int)
 rotate_left
 ·rw [if_neg c6] at H
  exact absurd H (by simp)
 rw [if_pos c6] at H
 have c6b0 : decide (0 < (t244.length : Int)) = true := decide_eq_true c6
 have c6b1 : decide (0 < t244.length) = true := decide_eq_true (by omega)
 clear c6
 by_cases c7 : ((rd_T27 t244 0).f0).toList = ([98] : List UInt8)
 rotate_left
 ·rw [if_neg c7] at H
  have c7b0 : (((rd_T27 t244 0).f0).toList == ([98] : List UInt8)) = false := beq_eq_false_iff_ne.mpr c7
  have c7b1 : (((rd_T27 t244 0).f0).toList != ([98] : List UInt8)) = true := bne_iff_ne.mpr c7
  exact absurd ((Option.some.inj H).trans hr_) (by decide)
 rw [if_pos c7] at H
 have c7b0 : (((rd_T27 t244 0).f0).toList == ([98] : List UInt8)) = true := beq_iff_eq.mpr c7
 have c7b1 : (((rd_T27 t244 0).f0).toList != ([98] : List UInt8)) = false := bne_eq_false_iff_eq.mpr c7
 clear c7
 by_cases c8 : 1 < (t244.length : Int)
 rotate_left
 ·rw [if_neg c8] at H
  exact absurd H (by simp)
 rw [if_pos c8] at H
 have c8b0 : decide (1 < (t244.length : Int)) = true := decide_eq_true c8
 have c8b1 : decide (1 < t244.length) = true := decide_eq_true (by omega)
 clear c8
 by_cases c9 : ((rd_T27 t244 1).f0).toList = ([97] : List UInt8)
 rotate_left
 ·rw [if_neg c9] at H
  have c9b0 : (((rd_T27 t244 1).f0).toList == ([97] : List UInt8)) = false := beq_eq_false_iff_ne.mpr c9
  have c9b1 : (((rd_T27 t244 1).f0).toList != ([97] : List UInt8)) = true := bne_iff_ne.mpr c9
  exact absurd ((Option.some.inj H).trans hr_) (by decide)
 rw [if_pos c9] at H
 have c9b0 : (((rd_T27 t244 1).f0).toList == ([97] : List UInt8)) = true := beq_iff_eq.mpr c9
 have c9b1 : (((rd_T27 t244 1).f0).toList != ([97] : List UInt8)) = false := bne_eq_false_iff_eq.mpr c9
 clear c9
 by_cases c10 : t256 = 1
 rotate_left
 ·rw [if_neg c10] at H
  have c10b0 : (t256 == 1) = false := beq_eq_false_iff_ne.mpr c10
  have c10b1 : (t256 != 1) = true := bne_iff_ne.mpr c10
  exact absurd ((Option.some.inj H).trans hr_) (by decide)
 rw [if_pos c10] at H
 have c10b0 : (t256 == 1) = true := beq_iff_eq.mpr c10
 have c10b1 : (t256 != 1) = false := bne_eq_false_iff_eq.mpr c10
 clear c10
 by_cases c11 : (t259.length : Int) = 2
 rotate_left
 ·rw [if_neg c11] at H
  have c11b0 : ((t259.length : Int) == 2) = false := beq_eq_false_iff_ne.mpr c11
  have c11b1 : ((t259.length : Int) != 2) = true := bne_iff_ne.mpr c11
  exact absurd ((Option.some.inj H).trans hr_) (by decide)
 rw [if_pos c11] at H
 have c11b0 : ((t259.length : Int) == 2) = true := beq_iff_eq.mpr c11
 have c11b1 : ((t259.length : Int) != 2) = false := bne_eq_false_iff_eq.mpr c11
 clear c11
 by_cases c12 : 1 < (t259.length : Int)
 rotate_left
 ·rw [if_neg c12] at H
  exact absurd H (by simp)
 rw [if_pos c12] at H
 have c12b0 : decide (1 < (t259.length : Int)) = true := decide_eq_true c12
 have c12b1 : decide (1 < t259.length) = true := decide_eq_true (by omega)
 clear c12
 clear hr_
 obtain rfl := Option.some.inj H
 go_enter Tryd.func15, Tryd.ntmps15
 go_wp2_with (first | ((with_reducible refine gate_dst (N := 10) rfl ?_); (try (refine gate_guard (by rfl) ?_; dsimp only)); refine Kd.S_lit k27 _ 27 ?hg (N := 10) ?hd (xs := ([(⟨(⟨#[97]⟩ : ByteArray), (⟨#[]⟩ : ByteArray), 48, (⟨0, 0, 0, 0⟩ : S24), ([] : List Int)⟩ : S27), (⟨(⟨#[98]⟩ : ByteArray), (⟨#[]⟩ : ByteArray), 48, (⟨0, 0, 0, 0⟩ : S24), ([] : List Int)⟩ : S27), (⟨(⟨#[97]⟩ : ByteArray), (⟨#[]⟩ : ByteArray), 48, (⟨0, 0, 0, 0⟩ : S24), ([] : List Int)⟩ : S27)] : List (S27))) (inner := [.string (⟨#[97]⟩ : ByteArray), .string (⟨#[]⟩ : ByteArray), .int .u8 48, .int .i64 0, .int .i64 0, .int .i64 0, .int .i64 0, .slice none 0 0, .string (⟨#[98]⟩ : ByteArray), .string (⟨#[]⟩ : ByteArray), .int .u8 48, .int .i64 0, .int .i64 0, .int .i64 0, .int .i64 0, .slice none 0 0, .string (⟨#[97]⟩ : ByteArray), .string (⟨#[]⟩ : ByteArray), .int .u8 48, .int .i64 0, .int .i64 0, .int .i64 0, .int .i64 0, .slice none 0 0]) (ok := fun _ => True) (okp := fun _ => True) ?hr ?hp (fun _ hk => hk) trivial (Below.refl _ _) (Nat.le_refl _) (by simp) ?_; (case hd => rfl); (case hg => rfl); (case hr => first | (go_simp; done) | (go_simp; rfl)); (case hp => exact (Reps.c8 (show Kd.M k27 _ _ _ (⟨(⟨#[97]⟩ : ByteArray), (⟨#[]⟩ : ByteArray), 48, (⟨0, 0, 0, 0⟩ : S24), ([] : List Int)⟩ : S27) [.string (⟨#[97]⟩ : ByteArray), .string (⟨#[]⟩ : ByteArray), .int .u8 48, .int .i64 0, .int .i64 0, .int .i64 0, .int .i64 0, .slice none 0 0] from (k27_mkM _ _ _ (⟨(⟨#[97]⟩ : ByteArray), (⟨#[]⟩ : ByteArray), 48, (⟨0, 0, 0, 0⟩ : S24), ([] : List Int)⟩ : S27) (Kd.R_nil _ _ _ _ _))) (Reps.c8 (show Kd.M k27 _ _ _ (⟨(⟨#[98]⟩ : ByteArray), (⟨#[]⟩ : ByteArray), 48, (⟨0, 0, 0, 0⟩ : S24), ([] : List Int)⟩ : S27) [.string (⟨#[98]⟩ : ByteArray), .string (⟨#[]⟩ : ByteArray), .int .u8 48, .int .i64 0, .int .i64 0, .int .i64 0, .int .i64 0, .slice none 0 0] from (k27_mkM _ _ _ (⟨(⟨#[98]⟩ : ByteArray), (⟨#[]⟩ : ByteArray), 48, (⟨0, 0, 0, 0⟩ : S24), ([] : List Int)⟩ : S27) (Kd.R_nil _ _ _ _ _))) (Reps.c8 (show Kd.M k27 _ _ _ (⟨(⟨#[97]⟩ : ByteArray), (⟨#[]⟩ : ByteArray), 48, (⟨0, 0, 0, 0⟩ : S24), ([] : List Int)⟩ : S27) [.string (⟨#[97]⟩ : ByteArray), .string (⟨#[]⟩ : ByteArray), .int .u8 48, .int .i64 0, .int .i64 0, .int .i64 0, .int .i64 0, .slice none 0 0] from (k27_mkM _ _ _ (⟨(⟨#[97]⟩ : ByteArray), (⟨#[]⟩ : ByteArray), 48, (⟨0, 0, 0, 0⟩ : S24), ([] : List Int)⟩ : S27) (Kd.R_nil _ _ _ _ _))) (Reps.none _ _))))); intro v242 w13 ho14 hb hg_ hnew_; clear hg_ hnew_; (first | rw [← Ny241.out] at ho14 | (simp only [Int.reduceToNat] at ho14; rw [← Ny241.out] at ho14)); have n0_ := A0_ (Kd.S_lower ho14 (below_size (wb_ HB.out))); have n1_ := A0_ (below_step (wb_ HB.out) hb); clear HB; have HO243 := n0_; have HB := n1_; clear n0_ n1_; clear hb ho14; obtain ⟨Ao15, co15, eo15⟩ := Kd.S_slice HO243.out; subst eo15) | ((with_reducible refine gate_callee (f := 16) rfl ?_); refine goesL_ (some 13) rfl rfl Tryd.func16 (by kernel_rfl) rfl #[.slice Ao15 y241.length co15] rfl wm_ ?_; (with_reducible refine (flat_Flatten.calls _ _ y241 t244 t247 t248 _ ?side1 ?side2 ?side3 A1.out).mono ?_); (case side1 => exact A0_ (Tabs.below hT.out (wb_ HB.out))); (case side2 => exact wc_ (Kd.S_reads' HO243.out).2.2); (case side3 => exact (Kd.S_reads' HO243.out).2.1); rintro e w16 ⟨v245, rfl, ho0, hb⟩; refine ⟨_, rfl, ?_⟩; have n0_ := A0_ (Sb_ (wS_ HO243.out) hb); have n1_ := A0_ (Kd.V_lower (Kd.V_mono (ok' := fun k_ => some k_ ≠ (.slice Ao15 y241.length co15 : Value).ownBlock) ho0 (fun k_ hk_ => (Kd.fresh' (Kd.S_lt (wS_ HO243.out)) k_ hk_))) (below_size (wb_ HB.out))); have n2_ := A0_ (below_step (wb_ HB.out) hb); clear HO243; clear HB; have HO243 := n0_; have HO246 := n1_; have HB := n2_; clear n0_ n1_ n2_; (try clear hb); (try clear hb2); (try clear hk); (try clear hi); (try clear ho0)) | ((with_reducible refine gate_dst (N := 3) rfl ?_); (try (refine gate_guard (by rfl) ?_; dsimp only)); refine box_event ?hg (N := 3) ?hd (cs := #[.int .i64 0, .int .i64 0]) (t := 34) ?hr ?_; (case hd => rfl); (case hg => rfl); (case hr => first | (go_simp; done) | (go_simp; rfl)); intro gb249 hg w17 hbox hb; have n0_ := A0_ (Sb_ (wS_ HO243.out) hb); have n1_ := A0_ (Vb_ (Kd.V_elderB (wV_ HO246.out) gb249 (Nat.le_of_eq hg.symm)) hb); have n2_ := A0_ (below_step (wb_ HB.out) hb); have n3_ := A0_ (hbox); have n4_ := A0_ ((by rw [hg]; exact (below_size (wb_ HB.out)) : w.heap.size ≤ gb249)); have n5_ := A0_ ((by rw [hg]; exact (below_size (wb_ HB.out)) : w.heap.size ≤ gb249)); clear HO243; clear HO246; clear HB; have HO243 := n0_; have HO246 := n1_; have HB := n2_; have BK249 := n3_; have GW249 := n4_; have GE249 := n5_; clear n0_ n1_ n2_ n3_ n4_ n5_; clear hb hbox hg; have hcz18_0 : w17.cell? ⟨gb249, 0, none⟩ = some (.int .i64 0) := (bc_ BK249.out 0).trans rfl; have hcz18_1 : w17.cell? ⟨gb249, 1, none⟩ = some (.int .i64 0) := (bc_ BK249.out 1).trans rfl; have hfz18_0 := bf_ BK249.out 0; have hfz18_1 := bf_ BK249.out 1) | ((with_reducible refine gate_store (t := 34) (p := 3) rfl ?_); refine store_event (t := 34) (p := 3) (v := ?vo_w19) (w1 := ((w17.setCell ⟨gb249, 0, none⟩ (.int .i64 t247)).setCell ⟨gb249, 1, none⟩ (.int .i64 t248))) ?hg ?ho ?hn ?hr ?_; (case ho => rfl); (case hg => rfl); (case hn => rfl); (case hr => first | (go_simp; done) | (go_simp; rfl)); intro w19 hw; have n0_ : Aside0 (Kd.S k27 27 w19 w.heap.size (fun _ => True) (.slice Ao15 y241.length co15) y241) := ⟨(by rw [hw]; exact (by (with_reducible repeat (first | apply Sa_ | apply SN_ | apply S1_)); exact Kd.S_mono (Kd.S_far (p := ⟨gb249, 1, none⟩) (Kd.S_far (p := ⟨gb249, 0, none⟩) (Kd.S_types HO243.out BK249.out (by decide)) (fun _ hk => hk.2) (.int .i64 t247)) (fun _ hk => hk.2) (.int .i64 t248)) (fun _ hk => trivial)))⟩; have n1_ : Aside0 (Kd.V k27 27 w19 w.heap.size (fun k_ => some k_ ≠ (.slice Ao15 y241.length co15 : Value).ownBlock ∧ k_ ≠ gb249) v245 t244) := ⟨(by rw [hw]; exact (by (with_reducible repeat (first | apply Va_ | apply VN_ | apply V1_)); exact Kd.V_mono (Kd.V_far (p := ⟨gb249, 1, none⟩) (Kd.V_far (p := ⟨gb249, 0, none⟩) (Kd.V_mono HO246.out (fun k_ hk => (⟨hk, hk.2⟩ : _ ∧ k_ ≠ gb249))) (fun _ hk => hk.2) (.int .i64 t247)) (fun _ hk => hk.2) (.int .i64 t248)) (fun _ hk => ⟨hk.1.1, hk.1.2⟩)))⟩; have n2_ : Aside0 (w19.heap[gb249]? = some (.cells #[.int .i64 t247, .int .i64 t248] 34 (0, 0))) := ⟨(by rw [hw]; exact (by (with_reducible repeat (first | refine blk_drewN ?_ _ | refine blk_drew ?_ | refine blk_alloc ?_ _)); refine blk_put (cs := #[.int .i64 t247, .int .i64 0]) ?_ 1 _ rfl; (with_reducible repeat (first | refine blk_drewN ?_ _ | refine blk_drew ?_ | refine blk_alloc ?_ _)); refine blk_put (cs := #[.int .i64 0, .int .i64 0]) ?_ 0 _ rfl; (with_reducible repeat (first | refine blk_drewN ?_ _ | refine blk_drew ?_ | refine blk_alloc ?_ _)); exact BK249.out))⟩; have n3_ : Aside0 (Below w.heap.size w w19) := ⟨(by rw [hw]; exact (wb1_ HB.out GE249.out))⟩; clear hw; clear HO243; clear HO246; clear BK249; clear HB; have HO243 := n0_; have HO246 := n1_; have BK249 := n2_; have HB := n3_; clear n0_ n1_ n2_ n3_) | ((with_reducible refine gate_dst (N := 18) rfl ?_); (try (refine gate_guard (by rfl) ?_; dsimp only)); refine Kd.S_lit k27 _ 27 ?hg (N := 18) ?hd (xs := ([(⟨(⟨#[]⟩ : ByteArray), (⟨#[]⟩ : ByteArray), 0, (⟨0, 0, 0, 0⟩ : S24), ([] : List Int)⟩ : S27)] : List (S27))) (inner := [.string (⟨#[]⟩ : ByteArray), .string (⟨#[]⟩ : ByteArray), .int .u8 0, .int .i64 0, .int .i64 0, .int .i64 0, .int .i64 0, .slice none 0 0]) (ok := fun _ => True) (okp := fun _ => True) ?hr ?hp (fun _ hk => hk) trivial (Below.refl _ _) (Nat.le_refl _) (by simp) ?_; (case hd => rfl); (case hg => rfl); (case hr => first | (go_simp; done) | (go_simp; rfl)); (case hp => exact (Reps.c8 (show Kd.M k27 _ _ _ (⟨(⟨#[]⟩ : ByteArray), (⟨#[]⟩ : ByteArray), 0, (⟨0, 0, 0, 0⟩ : S24), ([] : List Int)⟩ : S27) [.string (⟨#[]⟩ : ByteArray), .string (⟨#[]⟩ : ByteArray), .int .u8 0, .int .i64 0, .int .i64 0, .int .i64 0, .int .i64 0, .slice none 0 0] from (k27_mkM _ _ _ (⟨(⟨#[]⟩ : ByteArray), (⟨#[]⟩ : ByteArray), 0, (⟨0, 0, 0, 0⟩ : S24), ([] : List Int)⟩ : S27) (Kd.R_nil _ _ _ _ _))) (Reps.none _ _))); intro v251 w20 ho21 hb hg_ hnew_; clear hg_ hnew_; (first | rw [← Ny250.out] at ho21 | (simp only [Int.reduceToNat] at ho21; rw [← Ny250.out] at ho21)); have n0_ := A0_ (Kd.S_elder' (wS_ HO243.out) (Kd.S_base ho21) hb); have n1_ := A0_ (Kd.V_elder' (wV_ HO246.out) (Kd.S_base ho21) hb); have n2_ := A0_ (Kd.S_lower (Kd.S_new' ho21 (Kd.S_lt (wS_ HO243.out))) (below_size (wb1_ HB.out GE249.out))); have n3_ := A0_ (blk_below (g := gb249) (o := .cells #[.int .i64 t247, .int .i64 t248] 34 (0, 0)) (wB_ BK249.out) hb); have n4_ := A0_ (below_step (wb1_ HB.out GE249.out) hb); clear HO243; clear HO246; clear BK249; clear HB; have HO243 := n0_; have HO246 := n1_; have HO252 := n2_; have BK249 := n3_; have HB := n4_; clear n0_ n1_ n2_ n3_ n4_; clear hb ho21; obtain ⟨Ao22, co22, eo22⟩ := Kd.S_slice HO252.out; subst eo22) | ((with_reducible refine gate_callee (f := 16) rfl ?_); refine goesL_ (some 19) rfl rfl Tryd.func16 (by kernel_rfl) rfl #[.slice Ao22 y250.length co22] rfl wm_ ?_; (with_reducible refine (flat_Flatten.calls _ _ y250 t253 t256 t257 _ ?side1 ?side2 ?side3 A2.out).mono ?_); (case side1 => exact A0_ (Tabs.below hT.out (wb1_ HB.out GE249.out))); (case side2 => exact wc_ (Kd.S_reads' HO252.out).2.2); (case side3 => exact (Kd.S_reads' HO252.out).2.1); rintro e w23 ⟨v254, rfl, ho0, hb⟩; refine ⟨_, rfl, ?_⟩; have n0_ := A0_ (Sb_ (wS_ HO243.out) hb); have n1_ := A0_ (Vb_ (wV_ HO246.out) hb); have n2_ := A0_ (Sb_ (wS_ HO252.out) hb); have n3_ := A0_ (Kd.V_lower (Kd.V_mono (ok' := fun k_ => some k_ ≠ (.slice Ao15 y241.length co15 : Value).ownBlock ∧ some k_ ≠ (.slice Ao22 y250.length co22 : Value).ownBlock ∧ k_ ≠ gb249) ho0 (fun k_ hk_ => ⟨(Kd.fresh' (Kd.S_lt (wS_ HO243.out)) k_ hk_), (Kd.fresh' (Kd.S_lt (wS_ HO252.out)) k_ hk_), (Kd.freshB (g := gb249) (o := .cells #[.int .i64 t247, .int .i64 t248] 34 (0, 0)) (wB_ BK249.out) k_ hk_)⟩)) (below_size (wb1_ HB.out GE249.out))); have n4_ := A0_ (blk_below (g := gb249) (o := .cells #[.int .i64 t247, .int .i64 t248] 34 (0, 0)) (wB_ BK249.out) hb); have n5_ := A0_ (below_step (wb1_ HB.out GE249.out) hb); clear HO243; clear HO246; clear HO252; clear BK249; clear HB; have HO243 := n0_; have HO246 := n1_; have HO252 := n2_; have HO255 := n3_; have BK249 := n4_; have HB := n5_; clear n0_ n1_ n2_ n3_ n4_ n5_; (try clear hb); (try clear hb2); (try clear hk); (try clear hi); (try clear ho0)) | ((with_reducible refine gate_dst (N := 5) rfl ?_); (try (refine gate_guard (by rfl) ?_; dsimp only)); refine box_event ?hg (N := 5) ?hd (cs := #[.int .i64 0, .int .i64 0]) (t := 34) ?hr ?_; (case hd => rfl); (case hg => rfl); (case hr => first | (go_simp; done) | (go_simp; rfl)); intro gb258 hg w24 hbox hb; have n0_ := A0_ (Sb_ (wS_ HO243.out) hb); have n1_ := A0_ (Vb_ (Kd.V_elderB (wV_ HO246.out) gb258 (Nat.le_of_eq hg.symm)) hb); have n2_ := A0_ (Sb_ (wS_ HO252.out) hb); have n3_ := A0_ (Vb_ (Kd.V_elderB (wV_ HO255.out) gb258 (Nat.le_of_eq hg.symm)) hb); have n4_ := A0_ (blk_below (g := gb249) (o := .cells #[.int .i64 t247, .int .i64 t248] 34 (0, 0)) (wB_ BK249.out) hb); have n5_ := A0_ (below_step (wb1_ HB.out GE249.out) hb); have n6_ := A0_ (hbox); have n7_ := A0_ ((by rw [hg]; exact (below_size (wb1_ HB.out GE249.out)) : w.heap.size ≤ gb258)); have n8_ := A0_ ((by rw [hg]; exact (below_size (wb1_ HB.out GE249.out)) : w.heap.size ≤ gb258)); have n9_ := A0_ ((by rw [hg]; exact Nat.ne_of_lt (blk_lt (g := gb249) (o := .cells #[.int .i64 t247, .int .i64 t248] 34 (0, 0)) (wB_ BK249.out)) : gb249 ≠ gb258)); have n10_ := A0_ ((by rw [hg]; exact Nat.ne_of_gt (blk_lt (g := gb249) (o := .cells #[.int .i64 t247, .int .i64 t248] 34 (0, 0)) (wB_ BK249.out)) : gb258 ≠ gb249)); clear HO243; clear HO246; clear HO252; clear HO255; clear BK249; clear HB; have HO243 := n0_; have HO246 := n1_; have HO252 := n2_; have HO255 := n3_; have BK249 := n4_; have HB := n5_; have BK258 := n6_; have GW258 := n7_; have GE258 := n8_; have NB249_258 := n9_; have NB258_249 := n10_; clear n0_ n1_ n2_ n3_ n4_ n5_ n6_ n7_ n8_ n9_ n10_; clear hb hbox hg; have hnb25 := NB258_249.out; have hnc25 := NB249_258.out; have hcz26_0 : w24.cell? ⟨gb258, 0, none⟩ = some (.int .i64 0) := (bc_ BK258.out 0).trans rfl; have hcz26_1 : w24.cell? ⟨gb258, 1, none⟩ = some (.int .i64 0) := (bc_ BK258.out 1).trans rfl; have hfz26_0 := bf_ BK258.out 0; have hfz26_1 := bf_ BK258.out 1) | ((with_reducible refine gate_callee (f := 17) rfl ?_); refine goesL_ (some 23) rfl rfl Tryd.func17 (by kernel_rfl) rfl #[.slice Ao15 y241.length co15] rfl wm_ ?_; (with_reducible refine (flat_Order.calls _ _ y241 t259 _ ?side1 ?side2 A3.out).mono ?_); (case side1 => refine (Kd.S_reads' (e := 27) (base := w.heap.size) (ok := fun k_ => (True ∧ some k_ ≠ (.slice Ao22 y250.length co22 : Value).ownBlock)) (n := y241.length) (c := co15) ?_).2.2; exact (by (with_reducible repeat (first | apply Sa_ | apply SN_ | apply S1_)); exact (Kd.S_mono (Kd.S_far (p := ⟨gb258, 1, none⟩) (Kd.S_far (p := ⟨gb258, 0, none⟩) (Kd.S_types HO243.out BK258.out (by decide)) (fun _ hk => hk.2) (.int .i64 t256)) (fun _ hk => hk.2) (.int .i64 t257)) (fun _ h_ => h_.1)))); (case side2 => exact (Kd.S_reads' HO243.out).2.1); rintro e w27 ⟨v260, rfl, ho0, hb⟩; refine ⟨_, rfl, ?_⟩; have n0_ := A0_ (Sb_ (by (with_reducible repeat (first | apply Sa_ | apply SN_ | apply S1_)); exact (Kd.S_mono (Kd.S_far (p := ⟨gb258, 1, none⟩) (Kd.S_far (p := ⟨gb258, 0, none⟩) (Kd.S_types HO243.out BK258.out (by decide)) (fun _ hk => hk.2) (.int .i64 t256)) (fun _ hk => hk.2) (.int .i64 t257)) (fun _ h_ => h_.1))) hb); have n1_ := A0_ (Kd.V_elder' (by (with_reducible repeat (first | apply Va_ | apply VN_ | apply V1_)); exact (Kd.V_mono (Kd.V_far (p := ⟨gb258, 1, none⟩) (Kd.V_far (p := ⟨gb258, 0, none⟩) (Kd.V_mono HO246.out (fun k_ hk => (⟨hk, hk.2⟩ : _ ∧ k_ ≠ gb258))) (fun _ hk => hk.2) (.int .i64 t256)) (fun _ hk => hk.2) (.int .i64 t257)) (fun _ h_ => h_.1))) (Kd.R_base ho0) hb); have n2_ := A0_ (Sb_ (by (with_reducible repeat (first | apply Sa_ | apply SN_ | apply S1_)); exact (Kd.S_mono (Kd.S_far (p := ⟨gb258, 1, none⟩) (Kd.S_far (p := ⟨gb258, 0, none⟩) (Kd.S_types HO252.out BK258.out (by decide)) (fun _ hk => hk.2) (.int .i64 t256)) (fun _ hk => hk.2) (.int .i64 t257)) (fun _ h_ => h_.1))) hb); have n3_ := A0_ (Kd.V_elder' (by (with_reducible repeat (first | apply Va_ | apply VN_ | apply V1_)); exact (Kd.V_mono (Kd.V_far (p := ⟨gb258, 1, none⟩) (Kd.V_far (p := ⟨gb258, 0, none⟩) (Kd.V_mono HO255.out (fun k_ hk => (⟨hk, hk.2⟩ : _ ∧ k_ ≠ gb258))) (fun _ hk => hk.2) (.int .i64 t256)) (fun _ hk => hk.2) (.int .i64 t257)) (fun _ h_ => h_.1))) (Kd.R_base ho0) hb); have n4_ := A0_ (Kd.R_lower ho0 (below_size (wb2_ HB.out GE249.out GE258.out))); have n5_ := A0_ (blk_below (g := gb249) (o := .cells #[.int .i64 t247, .int .i64 t248] 34 (0, 0)) (by (with_reducible repeat (first | refine blk_drewN ?_ _ | refine blk_drew ?_ | refine blk_alloc ?_ _)); refine blk_far ?_ NB249_258.out _; (with_reducible repeat (first | refine blk_drewN ?_ _ | refine blk_drew ?_ | refine blk_alloc ?_ _)); refine blk_far ?_ NB249_258.out _; (with_reducible repeat (first | refine blk_drewN ?_ _ | refine blk_drew ?_ | refine blk_alloc ?_ _)); exact BK249.out) hb); have n6_ := A0_ (blk_below (g := gb258) (o := .cells #[.int .i64 t256, .int .i64 t257] 34 (0, 0)) (by (with_reducible repeat (first | refine blk_drewN ?_ _ | refine blk_drew ?_ | refine blk_alloc ?_ _)); refine blk_put (cs := #[.int .i64 t256, .int .i64 0]) ?_ 1 _ rfl; (with_reducible repeat (first | refine blk_drewN ?_ _ | refine blk_drew ?_ | refine blk_alloc ?_ _)); refine blk_put (cs := #[.int .i64 0, .int .i64 0]) ?_ 0 _ rfl; (with_reducible repeat (first | refine blk_drewN ?_ _ | refine blk_drew ?_ | refine blk_alloc ?_ _)); exact BK258.out) hb); have n7_ := A0_ (below_step (wb2_ HB.out GE249.out GE258.out) hb); clear HO243; clear HO246; clear HO252; clear HO255; clear BK249; clear BK258; clear HB; have HO243 := n0_; have HO246 := n1_; have HO252 := n2_; have HO255 := n3_; have HO261 := n4_; have BK249 := n5_; have BK258 := n6_; have HB := n7_; clear n0_ n1_ n2_ n3_ n4_ n5_ n6_ n7_; (try clear hb); (try clear hb2); (try clear hk); (try clear hi); (try clear ho0); have hcz28_0 : w27.cell? ⟨gb249, 0, none⟩ = some (.int .i64 t247) := (bc_ BK249.out 0).trans rfl; have hcz28_1 : w27.cell? ⟨gb249, 1, none⟩ = some (.int .i64 t248) := (bc_ BK249.out 1).trans rfl; have hfz28_0 := bf_ BK249.out 0; have hfz28_1 := bf_ BK249.out 1; obtain ⟨Ao29, co29, eo29⟩ := Kd.V_slice HO246.out; subst eo29; have p262 : 0 ≤ (0 : Int) := (by omega); have q262 : 0 < (t244.length : Int) := wd_; obtain ⟨ad262, A262_7, c262_7, e262, hx262_0, hx262_1, hx262_2, hx262_3, hx262_4, hx262_5, hx262_6, hx262_7, hl262_7, hi262_7⟩ := at_T27 (Kd.V_reads' HO246.out).2.2 0 p262 q262; cases e262; obtain ⟨ce262, hce262, hMe262, hcc262⟩ := Kd.V_get HO246.out z27 0 p262 (by first | exact q262 | exact wd_ | (have e_ := (Kd.V_reads' HO246.out).1; omega)); obtain ⟨ua262_7, uc262_7, rfl, ul262_7, ge262_7⟩ := k27_openF hMe262; have hv262_7 := hcc262 7 _ rfl; rw [add_field _ _ 7 (by omega)] at hv262_7; replace hv262_7 := Option.some.inj (hv262_7.symm.trans hx262_7); injection hv262_7 with hva_ hvn_ hvc_; rw [hva_] at ge262_7; rw [hvc_] at ul262_7; have HL262_7 := A0_ (show Kd.V (Kd.int .u8) 5 _ w.heap.size _ _ ((rd_T27 t244 0).f4) from Kd.V_mk ul262_7 ge262_7); clear hva_ hvn_ hvc_ ge262_7 ul262_7; clear hcc262 hce262; have qi262 : (0 < t244.length) = True := eq_true (by omega); (try rw [show ((0 : Int)).toNat = 0 from rfl] at hx262_0); (try rw [show 0 * 8 = 0 from rfl] at hx262_0); (try rw [Addr.add_zero'] at hx262_0); (try rw [show ((0 : Int)).toNat = 0 from rfl] at hx262_1); (try rw [show 0 * 8 = 0 from rfl] at hx262_1); (try rw [Addr.add_zero'] at hx262_1); (try rw [show ((0 : Int)).toNat = 0 from rfl] at hx262_2); (try rw [show 0 * 8 = 0 from rfl] at hx262_2); (try rw [Addr.add_zero'] at hx262_2); (try rw [show ((0 : Int)).toNat = 0 from rfl] at hx262_3); (try rw [show 0 * 8 = 0 from rfl] at hx262_3); (try rw [Addr.add_zero'] at hx262_3); (try rw [show ((0 : Int)).toNat = 0 from rfl] at hx262_4); (try rw [show 0 * 8 = 0 from rfl] at hx262_4); (try rw [Addr.add_zero'] at hx262_4); (try rw [show ((0 : Int)).toNat = 0 from rfl] at hx262_5); (try rw [show 0 * 8 = 0 from rfl] at hx262_5); (try rw [Addr.add_zero'] at hx262_5); (try rw [show ((0 : Int)).toNat = 0 from rfl] at hx262_6); (try rw [show 0 * 8 = 0 from rfl] at hx262_6); (try rw [Addr.add_zero'] at hx262_6); (try rw [show ((0 : Int)).toNat = 0 from rfl] at hx262_7); (try rw [show 0 * 8 = 0 from rfl] at hx262_7); (try rw [Addr.add_zero'] at hx262_7); have HR262_7 := A0_ hi262_7; have HC262_7 := A0_ hl262_7; clear hi262_7 hl262_7; replace p262 := eq_true p262; replace q262 := eq_true q262; have p263 : 0 ≤ (1 : Int) := (by omega); have q263 : 1 < (t244.length : Int) := wd_; obtain ⟨ad263, A263_7, c263_7, e263, hx263_0, hx263_1, hx263_2, hx263_3, hx263_4, hx263_5, hx263_6, hx263_7, hl263_7, hi263_7⟩ := at_T27 (Kd.V_reads' HO246.out).2.2 1 p263 q263; obtain rfl : ad262 = ad263 := (by injection e263); obtain ⟨ce263, hce263, hMe263, hcc263⟩ := Kd.V_get HO246.out z27 1 p263 (by first | exact q263 | exact wd_ | (have e_ := (Kd.V_reads' HO246.out).1; omega)); obtain ⟨ua263_7, uc263_7, rfl, ul263_7, ge263_7⟩ := k27_openF hMe263; have hv263_7 := hcc263 7 _ rfl; rw [add_field _ _ 7 (by omega)] at hv263_7; replace hv263_7 := Option.some.inj (hv263_7.symm.trans hx263_7); injection hv263_7 with hva_ hvn_ hvc_; rw [hva_] at ge263_7; rw [hvc_] at ul263_7; have HL263_7 := A0_ (show Kd.V (Kd.int .u8) 5 _ w.heap.size _ _ ((rd_T27 t244 1).f4) from Kd.V_mk ul263_7 ge263_7); clear hva_ hvn_ hvc_ ge263_7 ul263_7; clear hcc263 hce263; (try simp only [one_n, Nat.reduceMul, Nat.reduceEqDiff, Go.Addr.add, ↓reduceIte] at hx263_0); (try simp only [one_n, Nat.reduceMul, Nat.reduceEqDiff, Go.Addr.add, ↓reduceIte] at hx263_1); (try simp only [one_n, Nat.reduceMul, Nat.reduceEqDiff, Go.Addr.add, ↓reduceIte] at hx263_2); (try simp only [one_n, Nat.reduceMul, Nat.reduceEqDiff, Go.Addr.add, ↓reduceIte] at hx263_3); (try simp only [one_n, Nat.reduceMul, Nat.reduceEqDiff, Go.Addr.add, ↓reduceIte] at hx263_4); (try simp only [one_n, Nat.reduceMul, Nat.reduceEqDiff, Go.Addr.add, ↓reduceIte] at hx263_5); (try simp only [one_n, Nat.reduceMul, Nat.reduceEqDiff, Go.Addr.add, ↓reduceIte] at hx263_6); (try simp only [one_n, Nat.reduceMul, Nat.reduceEqDiff, Go.Addr.add, ↓reduceIte] at hx263_7); have qi263 : (1 < t244.length) = True := eq_true (by omega); (try rw [show ((1 : Int)).toNat = 1 from rfl] at hx263_0); (try rw [show 1 * 8 = 8 from rfl] at hx263_0); (try rw [show ((1 : Int)).toNat = 1 from rfl] at hx263_1); (try rw [show 1 * 8 = 8 from rfl] at hx263_1); (try rw [show ((1 : Int)).toNat = 1 from rfl] at hx263_2); (try rw [show 1 * 8 = 8 from rfl] at hx263_2); (try rw [show ((1 : Int)).toNat = 1 from rfl] at hx263_3); (try rw [show 1 * 8 = 8 from rfl] at hx263_3); (try rw [show ((1 : Int)).toNat = 1 from rfl] at hx263_4); (try rw [show 1 * 8 = 8 from rfl] at hx263_4); (try rw [show ((1 : Int)).toNat = 1 from rfl] at hx263_5); (try rw [show 1 * 8 = 8 from rfl] at hx263_5); (try rw [show ((1 : Int)).toNat = 1 from rfl] at hx263_6); (try rw [show 1 * 8 = 8 from rfl] at hx263_6); (try rw [show ((1 : Int)).toNat = 1 from rfl] at hx263_7); (try rw [show 1 * 8 = 8 from rfl] at hx263_7); have HR263_7 := A0_ hi263_7; have HC263_7 := A0_ hl263_7; clear hi263_7 hl263_7; replace p263 := eq_true p263; replace q263 := eq_true q263; have hcz30_0 : w27.cell? ⟨gb258, 0, none⟩ = some (.int .i64 t256) := (bc_ BK258.out 0).trans rfl; have hcz30_1 : w27.cell? ⟨gb258, 1, none⟩ = some (.int .i64 t257) := (bc_ BK258.out 1).trans rfl; have hfz30_0 := bf_ BK258.out 0; have hfz30_1 := bf_ BK258.out 1; obtain ⟨Ao31, co31, eo31⟩ := Kd.R_slice HO261.out; subst eo31; have p264 : 0 ≤ (1 : Int) := (by omega); have q264 : 1 < (t259.length : Int) := wd_; obtain ⟨ad264, e264, hx264_0⟩ := Kd.at_string (Kd.R_reads' HO261.out).2.2 1 p264 q264; cases e264; (try simp only [one_n, Nat.reduceMul, Nat.reduceEqDiff, Go.Addr.add, ↓reduceIte] at hx264_0); have qi264 : (1 < t259.length) = True := eq_true (by omega); (try rw [show ((1 : Int)).toNat = 1 from rfl] at hx264_0); replace p264 := eq_true p264; replace q264 := eq_true q264))
 go_ret
 exact ⟨we_, wb2_ HB.out GE249.out GE258.out⟩
end Go.Proofs.YtiijbmaamblidaaDoor.Print

namespace Go.Proofs.YtiijbmaamblidaaDoor.Print
open Go.RowKit Go.Proofs.YtiijbmaamblidaaDoorW.PrintWords Go.Proofs.YtiijbmaamblidaaDoorW.PrintLast Go.Proofs.YtiijbmaamblidaaDoorW.PrintMore
attribute [local go_sem] max2_int min2_int max_two min_two max_three min_three max_four min_four   -- for this text's walks alone
set_option linter.unusedVariables false
set_option linter.unusedSimpArgs false
mutual
def bindlelaw18_FlatSound.l0 : Nat → List (S27) → Int → Option (Bool)
 | 0, _, _ => none
 | k + 1, x3, x5 => if x5 < (x3.length : Int) then (if 0 ≤ x5 then (bindlelaw18_FlatSound.l1 k x3 x5 (((rd_T27 x3 x5).f2) != 49) 0) else (none)) else ((bindlelaw18_answers.f).bind fun t273 => (some t273))
def bindlelaw18_FlatSound.l1 : Nat → List (S27) → Int → Bool → Int → Option (Bool)
 | 0, _, _, _, _ => none
 | k + 1, x3, x5, x6, x7 => if x7 < x5 then (if 0 ≤ x7 then (if x7 < (x3.length : Int) then (if 0 ≤ x5 then (if x5 < (x3.length : Int) then (if ((rd_T27 x3 x7).f0).toList = ((rd_T27 x3 x5).f0).toList then (some false) else (if x6 = true then (bindlelaw18_FlatSound.l1 k x3 x5 true (wrap64 (x7 + 1))) else (if ((rd_T27 x3 x7).f0).toList = ((rd_T27 x3 x5).f1).toList then (bindlelaw18_FlatSound.l1 k x3 x5 (((rd_T27 x3 x7).f2) == 48) (wrap64 (x7 + 1))) else (bindlelaw18_FlatSound.l1 k x3 x5 false (wrap64 (x7 + 1)))))) else (none)) else (none)) else (none)) else (none)) else (if x6 = true then (bindlelaw18_FlatSound.l0 k x3 (wrap64 (x5 + 1))) else (some false))
end
def bindlelaw18_FlatSound.f (k : Nat) (l0 : List (S27)) : Option (Bool) := (bindlelaw18_light.f k l0).bind fun t265 => (if t265 = true then ((flat_Flatten.f l0).bind fun bt267 => (bindlelaw18_FlatSound.l0 k bt267.1 0)) else ((bindlelaw18_answers.f).bind fun t266 => (some t266)))
set_option maxHeartbeats 8000000 in
set_option maxRecDepth 100000 in
theorem bindlelaw18_FlatSound.calls (k : Nat) (A0 : Option Addr) (c0 : Nat) (l0 : List (S27)) (r : Bool) (w : World) (hT : Aside0 (Tabs w)) (hr0 : Kd.C k27 w A0 l0.length l0) (hc0 : l0.length ≤ c0) (h : bindlelaw18_FlatSound.f k l0 = some r) :
  Calls Tryd.prog 5 #[.slice A0 l0.length c0] w fun e w' => e = .returned (.bool r) ∧ Below w.heap.size w w' := by
 have hu34 := Tryd.underlying34
 have HR0 := A0_ hr0
 have HC0 := A0_ hc0
 clear hr0 hc0
 have HB := A0_ (Below.refl w.heap.size w)
 have H : ((bindlelaw18_light.f k l0).bind fun t265 => (if t265 = true then ((flat_Flatten.f l0).bind fun bt267 => (bindlelaw18_FlatSound.l0 k bt267.1 0)) else ((bindlelaw18_answers.f).bind fun t266 => (some t266)))) = some r := h
 clear h
 replace H := Option.bind_eq_some_iff.mp H
 obtain ⟨t265, A20, H⟩ := H
 replace H : (if t265 = true then ((flat_Flatten.f l0).bind fun bt267 => (bindlelaw18_FlatSound.l0 k bt267.1 0)) else ((bindlelaw18_answers.f).bind fun t266 => (some t266))) = some r := H
 have A2 := A0_ A20
 clear A20
 by_cases c3 : t265 = true
 rotate_left
 ·replace c3 := Bool.eq_false_iff.mpr c3
  subst c3
  have H1 : ((bindlelaw18_answers.f).bind fun t266 => (some t266)) = some r := by rw [if_neg (show ¬ (false = true) by decide)] at H; exact H
  clear H
  have H := H1
  clear H1
  replace H := Option.bind_eq_some_iff.mp H
  obtain ⟨t266, A230, H⟩ := H
  replace H : (some t266) = some r := H
  have A23 := A0_ A230
  clear A230
  obtain rfl := Option.some.inj H
  go_enter Tryd.func5, Tryd.ntmps5
  go_wp2_with (first | (go_at_call 14; (with_reducible refine (bindlelaw18_light.calls k _ _ l0 false _ ?side1 ?side2 A2.out).mono ?_); (case side1 => exact wc_ HR0.out); (case side2 => exact HC0.out); rintro e w' ⟨rfl, ⟨nd, rfl⟩⟩; (try first | exact ⟨rfl, _, World.drewN_drewN _ _ _⟩ | exact ⟨rfl, _, Eq.trans (World.drewN_drewN _ _ _) (congrArg (World.drewN _) (Nat.add_assoc _ _ _))⟩)) | (go_at_call 15; (with_reducible refine (bindlelaw18_answers.calls  t266 _ ?side1 A23.out).mono ?_); (case side1 => exact A0_ (Tabs.below hT.out (wb_ HB.out))); rintro e w24 ⟨rfl, hb⟩; have n0_ := A0_ (below_step (wb_ HB.out) hb); clear HB; have HB := n0_; clear n0_; (try clear hb); (try clear hb2); (try clear hk); (try clear hi)))
  repeat (go_quiet (first | (go_at_call 14; (with_reducible refine (bindlelaw18_light.calls k _ _ l0 false _ ?side1 ?side2 A2.out).mono ?_); (case side1 => exact wc_ HR0.out); (case side2 => exact HC0.out); rintro e w' ⟨rfl, ⟨nd, rfl⟩⟩; (try first | exact ⟨rfl, _, World.drewN_drewN _ _ _⟩ | exact ⟨rfl, _, Eq.trans (World.drewN_drewN _ _ _) (congrArg (World.drewN _) (Nat.add_assoc _ _ _))⟩)) | (go_at_call 15; (with_reducible refine (bindlelaw18_answers.calls  t266 _ ?side1 A23.out).mono ?_); (case side1 => exact A0_ (Tabs.below hT.out (wb_ HB.out))); rintro e w24 ⟨rfl, hb⟩; have n0_ := A0_ (below_step (wb_ HB.out) hb); clear HB; have HB := n0_; clear n0_; (try clear hb); (try clear hb2); (try clear hk); (try clear hi))); try go_wp2_with (first | (go_at_call 14; (with_reducible refine (bindlelaw18_light.calls k _ _ l0 false _ ?side1 ?side2 A2.out).mono ?_); (case side1 => exact wc_ HR0.out); (case side2 => exact HC0.out); rintro e w' ⟨rfl, ⟨nd, rfl⟩⟩; (try first | exact ⟨rfl, _, World.drewN_drewN _ _ _⟩ | exact ⟨rfl, _, Eq.trans (World.drewN_drewN _ _ _) (congrArg (World.drewN _) (Nat.add_assoc _ _ _))⟩)) | (go_at_call 15; (with_reducible refine (bindlelaw18_answers.calls  t266 _ ?side1 A23.out).mono ?_); (case side1 => exact A0_ (Tabs.below hT.out (wb_ HB.out))); rintro e w24 ⟨rfl, hb⟩; have n0_ := A0_ (below_step (wb_ HB.out) hb); clear HB; have HB := n0_; clear n0_; (try clear hb); (try clear hb2); (try clear hk); (try clear hi))))
  go_ret
  exact ⟨we_, wb_ HB.out⟩
 subst c3
 have H1 : ((flat_Flatten.f l0).bind fun bt267 => (bindlelaw18_FlatSound.l0 k bt267.1 0)) = some r := by rw [if_pos rfl] at H; exact H
 clear H
 have H := H1
 clear H1
 replace H := Option.bind_eq_some_iff.mp H
 obtain ⟨⟨t267, t270, t271⟩, A40, H⟩ := H
 replace H : (bindlelaw18_FlatSound.l0 k t267 0) = some r := H
 have A4 := A0_ A40
 clear A40
 have H' := A0_ H
 clear H
 go_enter Tryd.func5, Tryd.ntmps5
 go_wp2_with (first | (go_at_call 14; (with_reducible refine (bindlelaw18_light.calls k _ _ l0 true _ ?side1 ?side2 A2.out).mono ?_); (case side1 => exact wc_ HR0.out); (case side2 => exact HC0.out); rintro e w' ⟨rfl, ⟨nd, rfl⟩⟩; (try first | exact ⟨rfl, _, World.drewN_drewN _ _ _⟩ | exact ⟨rfl, _, Eq.trans (World.drewN_drewN _ _ _) (congrArg (World.drewN _) (Nat.add_assoc _ _ _))⟩)) | (go_at_call 16; (with_reducible refine (flat_Flatten.calls _ _ l0 t267 t270 t271 _ ?side1 ?side2 ?side3 A4.out).mono ?_); (case side1 => exact A0_ (Tabs.below hT.out (wb_ HB.out))); (case side2 => exact wc_ HR0.out); (case side3 => exact HC0.out); rintro e w5 ⟨v268, rfl, ho0, hb⟩; have n0_ := A0_ (Kd.V_lower (Kd.V_mono (ok' := fun k_ => True) ho0 (fun k_ hk_ => trivial)) (below_size (wb_ HB.out))); have n1_ := A0_ (below_step (wb_ HB.out) hb); clear HB; have HO269 := n0_; have HB := n1_; clear n0_ n1_; (try clear hb); (try clear hb2); (try clear hk); (try clear hi); (try clear ho0)) | ((with_reducible refine gate_dst (N := 4) rfl ?_); refine box_event ?hg (N := 4) ?hd (cs := #[.int .i64 0, .int .i64 0]) (t := 34) ?hr ?_; (case hd => rfl); (case hg => rfl); (case hr => first | (go_simp; done) | (go_simp; rfl)); intro gb272 hg w6 hbox hb; have n0_ := A0_ (Vb_ (Kd.V_elderB (wV_ HO269.out) gb272 (Nat.le_of_eq hg.symm)) hb); have n1_ := A0_ (below_step (wb_ HB.out) hb); have n2_ := A0_ (hbox); have n3_ := A0_ ((by rw [hg]; exact (below_size (wb_ HB.out)) : w.heap.size ≤ gb272)); have n4_ := A0_ ((by rw [hg]; exact (below_size (wb_ HB.out)) : w.heap.size ≤ gb272)); clear HO269; clear HB; have HO269 := n0_; have HB := n1_; have BK272 := n2_; have GW272 := n3_; have GE272 := n4_; clear n0_ n1_ n2_ n3_ n4_; clear hb hbox hg; have hcz7_0 : w6.cell? ⟨gb272, 0, none⟩ = some (.int .i64 0) := (bc_ BK272.out 0).trans rfl; have hcz7_1 : w6.cell? ⟨gb272, 1, none⟩ = some (.int .i64 0) := (bc_ BK272.out 1).trans rfl; have hfz7_0 := bf_ BK272.out 0; have hfz7_1 := bf_ BK272.out 1))
 repeat (go_quiet (first | (go_at_call 14; (with_reducible refine (bindlelaw18_light.calls k _ _ l0 true _ ?side1 ?side2 A2.out).mono ?_); (case side1 => exact wc_ HR0.out); (case side2 => exact HC0.out); rintro e w' ⟨rfl, ⟨nd, rfl⟩⟩; (try first | exact ⟨rfl, _, World.drewN_drewN _ _ _⟩ | exact ⟨rfl, _, Eq.trans (World.drewN_drewN _ _ _) (congrArg (World.drewN _) (Nat.add_assoc _ _ _))⟩)) | (go_at_call 16; (with_reducible refine (flat_Flatten.calls _ _ l0 t267 t270 t271 _ ?side1 ?side2 ?side3 A4.out).mono ?_); (case side1 => exact A0_ (Tabs.below hT.out (wb_ HB.out))); (case side2 => exact wc_ HR0.out); (case side3 => exact HC0.out); rintro e w5 ⟨v268, rfl, ho0, hb⟩; have n0_ := A0_ (Kd.V_lower (Kd.V_mono (ok' := fun k_ => True) ho0 (fun k_ hk_ => trivial)) (below_size (wb_ HB.out))); have n1_ := A0_ (below_step (wb_ HB.out) hb); clear HB; have HO269 := n0_; have HB := n1_; clear n0_ n1_; (try clear hb); (try clear hb2); (try clear hk); (try clear hi); (try clear ho0)) | ((with_reducible refine gate_dst (N := 4) rfl ?_); refine box_event ?hg (N := 4) ?hd (cs := #[.int .i64 0, .int .i64 0]) (t := 34) ?hr ?_; (case hd => rfl); (case hg => rfl); (case hr => first | (go_simp; done) | (go_simp; rfl)); intro gb272 hg w6 hbox hb; have n0_ := A0_ (Vb_ (Kd.V_elderB (wV_ HO269.out) gb272 (Nat.le_of_eq hg.symm)) hb); have n1_ := A0_ (below_step (wb_ HB.out) hb); have n2_ := A0_ (hbox); have n3_ := A0_ ((by rw [hg]; exact (below_size (wb_ HB.out)) : w.heap.size ≤ gb272)); have n4_ := A0_ ((by rw [hg]; exact (below_size (wb_ HB.out)) : w.heap.size ≤ gb272)); clear HO269; clear HB; have HO269 := n0_; have HB := n1_; have BK272 := n2_; have GW272 := n3_; have GE272 := n4_; clear n0_ n1_ n2_ n3_ n4_; clear hb hbox hg; have hcz7_0 : w6.cell? ⟨gb272, 0, none⟩ = some (.int .i64 0) := (bc_ BK272.out 0).trans rfl; have hcz7_1 : w6.cell? ⟨gb272, 1, none⟩ = some (.int .i64 0) := (bc_ BK272.out 1).trans rfl; have hfz7_0 := bf_ BK272.out 0; have hfz7_1 := bf_ BK272.out 1)); try go_wp2_with (first | (go_at_call 14; (with_reducible refine (bindlelaw18_light.calls k _ _ l0 true _ ?side1 ?side2 A2.out).mono ?_); (case side1 => exact wc_ HR0.out); (case side2 => exact HC0.out); rintro e w' ⟨rfl, ⟨nd, rfl⟩⟩; (try first | exact ⟨rfl, _, World.drewN_drewN _ _ _⟩ | exact ⟨rfl, _, Eq.trans (World.drewN_drewN _ _ _) (congrArg (World.drewN _) (Nat.add_assoc _ _ _))⟩)) | (go_at_call 16; (with_reducible refine (flat_Flatten.calls _ _ l0 t267 t270 t271 _ ?side1 ?side2 ?side3 A4.out).mono ?_); (case side1 => exact A0_ (Tabs.below hT.out (wb_ HB.out))); (case side2 => exact wc_ HR0.out); (case side3 => exact HC0.out); rintro e w5 ⟨v268, rfl, ho0, hb⟩; have n0_ := A0_ (Kd.V_lower (Kd.V_mono (ok' := fun k_ => True) ho0 (fun k_ hk_ => trivial)) (below_size (wb_ HB.out))); have n1_ := A0_ (below_step (wb_ HB.out) hb); clear HB; have HO269 := n0_; have HB := n1_; clear n0_ n1_; (try clear hb); (try clear hb2); (try clear hk); (try clear hi); (try clear ho0)) | ((with_reducible refine gate_dst (N := 4) rfl ?_); refine box_event ?hg (N := 4) ?hd (cs := #[.int .i64 0, .int .i64 0]) (t := 34) ?hr ?_; (case hd => rfl); (case hg => rfl); (case hr => first | (go_simp; done) | (go_simp; rfl)); intro gb272 hg w6 hbox hb; have n0_ := A0_ (Vb_ (Kd.V_elderB (wV_ HO269.out) gb272 (Nat.le_of_eq hg.symm)) hb); have n1_ := A0_ (below_step (wb_ HB.out) hb); have n2_ := A0_ (hbox); have n3_ := A0_ ((by rw [hg]; exact (below_size (wb_ HB.out)) : w.heap.size ≤ gb272)); have n4_ := A0_ ((by rw [hg]; exact (below_size (wb_ HB.out)) : w.heap.size ≤ gb272)); clear HO269; clear HB; have HO269 := n0_; have HB := n1_; have BK272 := n2_; have GW272 := n3_; have GE272 := n4_; clear n0_ n1_ n2_ n3_ n4_; clear hb hbox hg; have hcz7_0 : w6.cell? ⟨gb272, 0, none⟩ = some (.int .i64 0) := (bc_ BK272.out 0).trans rfl; have hcz7_1 : w6.cell? ⟨gb272, 1, none⟩ = some (.int .i64 0) := (bc_ BK272.out 1).trans rfl; have hfz7_0 := bf_ BK272.out 0; have hfz7_1 := bf_ BK272.out 1)))
 go_loopg [5] k (fun kq v5 w' => ∃ (x5_1 : Int), v5 = .int .i64 x5_1 ∧ Aside0 (bindlelaw18_FlatSound.l0 kq t267 x5_1 = some r) ∧ Aside0 (kq ≤ k) ∧ Aside0 (Kd.V k27 27 w' w.heap.size (fun k_ => k_ ≠ gb272) v268 t267) ∧ Aside0 (w'.heap[gb272]? = some (.cells #[.int .i64 t270, .int .i64 t271] 34 (0, 0))) ∧ Aside0 (Below w.heap.size w w'))
 case atStart => exact ⟨(0), wr_, H', ⟨Nat.le_refl _⟩, ⟨by (with_reducible repeat (first | apply Va_ | apply VN_ | apply V1_)); exact Kd.V_mono (Kd.V_far (p := ⟨gb272, 1, none⟩) (Kd.V_far (p := ⟨gb272, 0, none⟩) (Kd.V_mono HO269.out (fun k_ hk => (⟨hk, hk.2⟩ : _ ∧ k_ ≠ gb272))) (fun _ hk => hk.2) (.int .i64 t270)) (fun _ hk => hk.2) (.int .i64 t271)) (fun _ hk => hk.1.2)⟩, ⟨by (with_reducible repeat (first | refine blk_drewN ?_ _ | refine blk_drew ?_ | refine blk_alloc ?_ _)); refine blk_put (cs := #[.int .i64 t270, .int .i64 0]) ?_ 1 _ rfl; (with_reducible repeat (first | refine blk_drewN ?_ _ | refine blk_drew ?_ | refine blk_alloc ?_ _)); refine blk_put (cs := #[.int .i64 0, .int .i64 0]) ?_ 0 _ rfl; (with_reducible repeat (first | refine blk_drewN ?_ _ | refine blk_drew ?_ | refine blk_alloc ?_ _)); exact BK272.out⟩, ⟨wb1_ HB.out GE272.out⟩⟩
 case round =>
  clear H'
  try clear p2
  try clear c3
  try clear c5
  try clear hcz7_0
  try clear hcz7_1
  try clear hfz7_0
  try clear hfz7_1
  obtain ⟨x5_1, rfl, HA, HK1, HO_3, BK272, HB⟩ := hrel
  cases gk with
  | zero => exact absurd HA.out (by simp [bindlelaw18_FlatSound.l0])
  | succ k1 =>
   have H := HA.out
   clear HA
   simp only [bindlelaw18_FlatSound.l0] at H
   by_cases c8 : x5_1 < (t267.length : Int)
   rotate_left
   ·rw [if_neg c8] at H
    have c8b0 : decide (x5_1 < (t267.length : Int)) = false := decide_eq_false c8
    clear c8
    replace H := Option.bind_eq_some_iff.mp H
    obtain ⟨t273, A200, H⟩ := H
    replace H : (some t273) = some r := H
    have A20 := A0_ A200
    clear A200
    obtain rfl := Option.some.inj H
    obtain ⟨Ao21, co21, eo21⟩ := Kd.V_slice HO_3.out
    subst eo21
    go_wp2_with (first | (go_at_call 15; (with_reducible refine (bindlelaw18_answers.calls  t273 _ ?side1 A20.out).mono ?_); (case side1 => exact A0_ (Tabs.below hT.out (wb1_ HB.out GE272.out))); rintro e w22 ⟨rfl, hb⟩; have n0_ := A0_ (Vb_ (wV_ HO_3.out) hb); have n1_ := A0_ (blk_below (g := gb272) (o := .cells #[.int .i64 t270, .int .i64 t271] 34 (0, 0)) (wB_ BK272.out) hb); have n2_ := A0_ (below_step (wb1_ HB.out GE272.out) hb); clear HO_3; clear BK272; clear HB; have HO_3 := n0_; have BK272 := n1_; have HB := n2_; clear n0_ n1_ n2_; (try clear hb); (try clear hb2); (try clear hk); (try clear hi)))
    repeat (go_quiet (first | (go_at_call 15; (with_reducible refine (bindlelaw18_answers.calls  t273 _ ?side1 A20.out).mono ?_); (case side1 => exact A0_ (Tabs.below hT.out (wb1_ HB.out GE272.out))); rintro e w22 ⟨rfl, hb⟩; have n0_ := A0_ (Vb_ (wV_ HO_3.out) hb); have n1_ := A0_ (blk_below (g := gb272) (o := .cells #[.int .i64 t270, .int .i64 t271] 34 (0, 0)) (wB_ BK272.out) hb); have n2_ := A0_ (below_step (wb1_ HB.out GE272.out) hb); clear HO_3; clear BK272; clear HB; have HO_3 := n0_; have BK272 := n1_; have HB := n2_; clear n0_ n1_ n2_; (try clear hb); (try clear hb2); (try clear hk); (try clear hi))); try go_wp2_with (first | (go_at_call 15; (with_reducible refine (bindlelaw18_answers.calls  t273 _ ?side1 A20.out).mono ?_); (case side1 => exact A0_ (Tabs.below hT.out (wb1_ HB.out GE272.out))); rintro e w22 ⟨rfl, hb⟩; have n0_ := A0_ (Vb_ (wV_ HO_3.out) hb); have n1_ := A0_ (blk_below (g := gb272) (o := .cells #[.int .i64 t270, .int .i64 t271] 34 (0, 0)) (wB_ BK272.out) hb); have n2_ := A0_ (below_step (wb1_ HB.out GE272.out) hb); clear HO_3; clear BK272; clear HB; have HO_3 := n0_; have BK272 := n1_; have HB := n2_; clear n0_ n1_ n2_; (try clear hb); (try clear hb2); (try clear hk); (try clear hi))))
    go_ret
    exact ⟨we_, wb1_ HB.out GE272.out⟩
   rw [if_pos c8] at H
   have c8b0 : decide (x5_1 < (t267.length : Int)) = true := decide_eq_true c8
   clear c8
   by_cases c9 : 0 ≤ x5_1
   rotate_left
   ·rw [if_neg c9] at H
    exact absurd H (by simp)
   rw [if_pos c9] at H
   have c9b0 : decide (0 ≤ x5_1) = true := decide_eq_true c9
   clear c9
   have H' := A0_ H
   clear H
   obtain ⟨Ao10, co10, eo10⟩ := Kd.V_slice HO_3.out
   subst eo10
   have p274 : 0 ≤ (x5_1 : Int) := wd_
   have q274 : x5_1 < (t267.length : Int) := wd_
   obtain ⟨ad274, A274_7, c274_7, e274, hx274_0, hx274_1, hx274_2, hx274_3, hx274_4, hx274_5, hx274_6, hx274_7, hl274_7, hi274_7⟩ := at_T27 (Kd.V_reads' HO_3.out).2.2 x5_1 p274 q274
   cases e274
   obtain ⟨ce274, hce274, hMe274, hcc274⟩ := Kd.V_get HO_3.out z27 x5_1 p274 (by first | exact q274 | exact wd_ | (have e_ := (Kd.V_reads' HO_3.out).1; omega))
   obtain ⟨ua274_7, uc274_7, rfl, ul274_7, ge274_7⟩ := k27_openF hMe274
   have hv274_7 := hcc274 7 _ rfl
   rw [add_field _ _ 7 (by omega)] at hv274_7
   replace hv274_7 := Option.some.inj (hv274_7.symm.trans hx274_7)
   injection hv274_7 with hva_ hvn_ hvc_
   rw [hva_] at ge274_7
   rw [hvc_] at ul274_7
   have HL274_7 := A0_ (show Kd.V (Kd.int .u8) 5 _ w.heap.size _ _ ((rd_T27 t267 x5_1).f4) from Kd.V_mk ul274_7 ge274_7)
   clear hva_ hvn_ hvc_ ge274_7 ul274_7
   clear hcc274 hce274
   have HR274_7 := A0_ hi274_7
   have HC274_7 := A0_ hl274_7
   clear hi274_7 hl274_7
   replace p274 := eq_true p274
   replace q274 := eq_true q274
   go_wp2
   repeat (go_quiet (fail); try go_wp2)
   go_loopg [6, 7] k1 (fun kq v6 v7 w' => ∃ (x6_2 : Bool) (x7_2 : Int), v6 = .bool x6_2 ∧ v7 = .int .i64 x7_2 ∧ Aside0 (bindlelaw18_FlatSound.l1 kq t267 x5_1 x6_2 x7_2 = some r) ∧ Aside0 (kq ≤ k1) ∧ Aside0 (Kd.V k27 27 w' w.heap.size (fun k_ => k_ ≠ gb272) (.slice (some ad274) t267.length co10) t267) ∧ Aside0 (w'.heap[gb272]? = some (.cells #[.int .i64 t270, .int .i64 t271] 34 (0, 0))) ∧ Aside0 (Kd.C (Kd.int .u8) w' A274_7 ((rd_T27 t267 x5_1).f4).length ((rd_T27 t267 x5_1).f4)) ∧ Aside0 (Below w.heap.size w w'))
   case atStart => exact ⟨((((rd_T27 t267 x5_1).f2) != 49)), (0), wr_, wr_, H', ⟨Nat.le_refl _⟩, ⟨wV_ HO_3.out⟩, ⟨wB_ BK272.out⟩, ⟨by repeat (first | (with_reducible exact HR274_7.out) | (with_reducible refine Ca_ ?_ _) | (with_reducible refine CN_ ?_ _) | (with_reducible refine C1_ ?_) | exact HR274_7.out)⟩, ⟨wb1_ HB.out GE272.out⟩⟩
   case round =>
    clear H'
    try clear c2
    try clear p2
    try clear q2
    try clear hx2
    try clear c3
    try clear c5
    try clear c8
    try clear c8b0
    try clear c9
    try clear c9b0
    try clear hcz7_0
    try clear hcz7_1
    try clear hfz7_0
    try clear hfz7_1
    try clear hx274_0
    try clear hx274_1
    try clear hx274_2
    try clear hx274_3
    try clear hx274_4
    try clear hx274_5
    try clear hx274_6
    try clear hx274_7
    try clear p2
    try clear p274
    try clear q274
    obtain ⟨x6_2, x7_2, rfl, rfl, HA, HK2, HO_3, BK272, HR274_7, HB⟩ := hrel
    cases gk with
    | zero => exact absurd HA.out (by simp [bindlelaw18_FlatSound.l1])
    | succ k2 =>
     have H := HA.out
     clear HA
     simp only [bindlelaw18_FlatSound.l1] at H
     by_cases c11 : x7_2 < x5_1
     rotate_left
     ·rw [if_neg c11] at H
      have c11b0 : decide (x7_2 < x5_1) = false := decide_eq_false c11
      clear c11
      by_cases c19 : x6_2 = true
      rotate_left
      ·replace c19 := Bool.eq_false_iff.mpr c19
       subst c19
       have H1 : (some false) = some r := by rw [if_neg (show ¬ (false = true) by decide)] at H; exact H
       clear H
       have H := H1
       clear H1
       obtain rfl := Option.some.inj H
       go_wp2
       repeat (go_quiet (fail); try go_wp2)
       go_ret
       exact ⟨we_, wb1_ HB.out GE272.out⟩
      subst c19
      have H1 : (bindlelaw18_FlatSound.l0 k2 t267 (wrap64 (x5_1 + 1))) = some r := by rw [if_pos rfl] at H; exact H
      clear H
      have H := H1
      clear H1
      have H' := A0_ H
      clear H
      go_wp2
      repeat (go_quiet (fail); try go_wp2)
      go_roundg k2
      case measure => have := HK1.out; have := HK2.out; omega
      case rel => exact ⟨(wrap64 (x5_1 + 1)), wr_, H', ⟨by have := HK1.out; have := HK2.out; omega⟩, ⟨wV_ HO_3.out⟩, ⟨wB_ BK272.out⟩, ⟨wb1_ HB.out GE272.out⟩⟩
     rw [if_pos c11] at H
     have c11b0 : decide (x7_2 < x5_1) = true := decide_eq_true c11
     clear c11
     by_cases c12 : 0 ≤ x7_2
     rotate_left
     ·rw [if_neg c12] at H
      exact absurd H (by simp)
     rw [if_pos c12] at H
     have c12b0 : decide (0 ≤ x7_2) = true := decide_eq_true c12
     clear c12
     by_cases c13 : x7_2 < (t267.length : Int)
     rotate_left
     ·rw [if_neg c13] at H
      exact absurd H (by simp)
     rw [if_pos c13] at H
     have c13b0 : decide (x7_2 < (t267.length : Int)) = true := decide_eq_true c13
     clear c13
     by_cases c14 : 0 ≤ x5_1
     rotate_left
     ·rw [if_neg c14] at H
      exact absurd H (by simp)
     rw [if_pos c14] at H
     have c14b0 : decide (0 ≤ x5_1) = true := decide_eq_true c14
     clear c14
     by_cases c15 : x5_1 < (t267.length : Int)
     rotate_left
     ·rw [if_neg c15] at H
      exact absurd H (by simp)
     rw [if_pos c15] at H
     have c15b0 : decide (x5_1 < (t267.length : Int)) = true := decide_eq_true c15
     clear c15
     by_cases c16 : ((rd_T27 t267 x7_2).f0).toList = ((rd_T27 t267 x5_1).f0).toList
     ·rw [if_pos c16] at H
      have c16b0 : (((rd_T27 t267 x7_2).f0).toList == ((rd_T27 t267 x5_1).f0).toList) = true := beq_iff_eq.mpr c16
      have c16b1 : (((rd_T27 t267 x7_2).f0).toList != ((rd_T27 t267 x5_1).f0).toList) = false := bne_eq_false_iff_eq.mpr c16
      clear c16
      obtain rfl := Option.some.inj H
      have p275 : 0 ≤ (x7_2 : Int) := wd_
      have q275 : x7_2 < (t267.length : Int) := wd_
      obtain ⟨ad275, A275_7, c275_7, e275, hx275_0, hx275_1, hx275_2, hx275_3, hx275_4, hx275_5, hx275_6, hx275_7, hl275_7, hi275_7⟩ := at_T27 (Kd.V_reads' HO_3.out).2.2 x7_2 p275 q275
      obtain rfl : ad274 = ad275 := (by injection e275)
      obtain ⟨ce275, hce275, hMe275, hcc275⟩ := Kd.V_get HO_3.out z27 x7_2 p275 (by first | exact q275 | exact wd_ | (have e_ := (Kd.V_reads' HO_3.out).1; omega))
      obtain ⟨ua275_7, uc275_7, rfl, ul275_7, ge275_7⟩ := k27_openF hMe275
      have hv275_7 := hcc275 7 _ rfl
      rw [add_field _ _ 7 (by omega)] at hv275_7
      replace hv275_7 := Option.some.inj (hv275_7.symm.trans hx275_7)
      injection hv275_7 with hva_ hvn_ hvc_
      rw [hva_] at ge275_7
      rw [hvc_] at ul275_7
      have HL275_7 := A0_ (show Kd.V (Kd.int .u8) 5 _ w.heap.size _ _ ((rd_T27 t267 x7_2).f4) from Kd.V_mk ul275_7 ge275_7)
      clear hva_ hvn_ hvc_ ge275_7 ul275_7
      clear hcc275 hce275
      have HR275_7 := A0_ hi275_7
      have HC275_7 := A0_ hl275_7
      clear hi275_7 hl275_7
      replace p275 := eq_true p275
      replace q275 := eq_true q275
      have p276 : 0 ≤ (x5_1 : Int) := wd_
      have q276 : x5_1 < (t267.length : Int) := wd_
      obtain ⟨ad276, A276_7, c276_7, e276, hx276_0, hx276_1, hx276_2, hx276_3, hx276_4, hx276_5, hx276_6, hx276_7, hl276_7, hi276_7⟩ := at_T27 (Kd.V_reads' HO_3.out).2.2 x5_1 p276 q276
      obtain rfl : ad274 = ad276 := (by injection e276)
      obtain ⟨ce276, hce276, hMe276, hcc276⟩ := Kd.V_get HO_3.out z27 x5_1 p276 (by first | exact q276 | exact wd_ | (have e_ := (Kd.V_reads' HO_3.out).1; omega))
      obtain ⟨ua276_7, uc276_7, rfl, ul276_7, ge276_7⟩ := k27_openF hMe276
      have hv276_7 := hcc276 7 _ rfl
      rw [add_field _ _ 7 (by omega)] at hv276_7
      replace hv276_7 := Option.some.inj (hv276_7.symm.trans hx276_7)
      injection hv276_7 with hva_ hvn_ hvc_
      rw [hva_] at ge276_7
      rw [hvc_] at ul276_7
      have HL276_7 := A0_ (show Kd.V (Kd.int .u8) 5 _ w.heap.size _ _ ((rd_T27 t267 x5_1).f4) from Kd.V_mk ul276_7 ge276_7)
      clear hva_ hvn_ hvc_ ge276_7 ul276_7
      clear hcc276 hce276
      have HR276_7 := A0_ hi276_7
      have HC276_7 := A0_ hl276_7
      clear hi276_7 hl276_7
      replace p276 := eq_true p276
      replace q276 := eq_true q276
      go_wp2
      repeat (go_quiet (fail); try go_wp2)
      go_ret
      exact ⟨we_, wb1_ HB.out GE272.out⟩
     rw [if_neg c16] at H
     have c16b0 : (((rd_T27 t267 x7_2).f0).toList == ((rd_T27 t267 x5_1).f0).toList) = false := beq_eq_false_iff_ne.mpr c16
     have c16b1 : (((rd_T27 t267 x7_2).f0).toList != ((rd_T27 t267 x5_1).f0).toList) = true := bne_iff_ne.mpr c16
     by_cases c17 : x6_2 = true
     ·subst c17
      have H1 : (bindlelaw18_FlatSound.l1 k2 t267 x5_1 true (wrap64 (x7_2 + 1))) = some r := by rw [if_pos rfl] at H; exact H
      clear H
      have H := H1
      clear H1
      have H' := A0_ H
      clear H
      have p275 : 0 ≤ (x7_2 : Int) := wd_
      have q275 : x7_2 < (t267.length : Int) := wd_
      obtain ⟨ad275, A275_7, c275_7, e275, hx275_0, hx275_1, hx275_2, hx275_3, hx275_4, hx275_5, hx275_6, hx275_7, hl275_7, hi275_7⟩ := at_T27 (Kd.V_reads' HO_3.out).2.2 x7_2 p275 q275
      obtain rfl : ad274 = ad275 := (by injection e275)
      obtain ⟨ce275, hce275, hMe275, hcc275⟩ := Kd.V_get HO_3.out z27 x7_2 p275 (by first | exact q275 | exact wd_ | (have e_ := (Kd.V_reads' HO_3.out).1; omega))
      obtain ⟨ua275_7, uc275_7, rfl, ul275_7, ge275_7⟩ := k27_openF hMe275
      have hv275_7 := hcc275 7 _ rfl
      rw [add_field _ _ 7 (by omega)] at hv275_7
      replace hv275_7 := Option.some.inj (hv275_7.symm.trans hx275_7)
      injection hv275_7 with hva_ hvn_ hvc_
      rw [hva_] at ge275_7
      rw [hvc_] at ul275_7
      have HL275_7 := A0_ (show Kd.V (Kd.int .u8) 5 _ w.heap.size _ _ ((rd_T27 t267 x7_2).f4) from Kd.V_mk ul275_7 ge275_7)
      clear hva_ hvn_ hvc_ ge275_7 ul275_7
      clear hcc275 hce275
      have HR275_7 := A0_ hi275_7
      have HC275_7 := A0_ hl275_7
      clear hi275_7 hl275_7
      replace p275 := eq_true p275
      replace q275 := eq_true q275
      have p276 : 0 ≤ (x5_1 : Int) := wd_
      have q276 : x5_1 < (t267.length : Int) := wd_
      obtain ⟨ad276, A276_7, c276_7, e276, hx276_0, hx276_1, hx276_2, hx276_3, hx276_4, hx276_5, hx276_6, hx276_7, hl276_7, hi276_7⟩ := at_T27 (Kd.V_reads' HO_3.out).2.2 x5_1 p276 q276
      obtain rfl : ad274 = ad276 := (by injection e276)
      obtain ⟨ce276, hce276, hMe276, hcc276⟩ := Kd.V_get HO_3.out z27 x5_1 p276 (by first | exact q276 | exact wd_ | (have e_ := (Kd.V_reads' HO_3.out).1; omega))
      obtain ⟨ua276_7, uc276_7, rfl, ul276_7, ge276_7⟩ := k27_openF hMe276
      have hv276_7 := hcc276 7 _ rfl
      rw [add_field _ _ 7 (by omega)] at hv276_7
      replace hv276_7 := Option.some.inj (hv276_7.symm.trans hx276_7)
      injection hv276_7 with hva_ hvn_ hvc_
      rw [hva_] at ge276_7
      rw [hvc_] at ul276_7
      have HL276_7 := A0_ (show Kd.V (Kd.int .u8) 5 _ w.heap.size _ _ ((rd_T27 t267 x5_1).f4) from Kd.V_mk ul276_7 ge276_7)
      clear hva_ hvn_ hvc_ ge276_7 ul276_7
      clear hcc276 hce276
      have HR276_7 := A0_ hi276_7
      have HC276_7 := A0_ hl276_7
      clear hi276_7 hl276_7
      replace p276 := eq_true p276
      replace q276 := eq_true q276
      go_wp2
      repeat (go_quiet (fail); try go_wp2)
      go_roundg k2
      case measure => have := HK1.out; have := HK2.out; omega
      case rel => exact ⟨(true), (wrap64 (x7_2 + 1)), wr_, wr_, H', ⟨by have := HK1.out; have := HK2.out; omega⟩, ⟨wV_ HO_3.out⟩, ⟨wB_ BK272.out⟩, ⟨by repeat (first | (with_reducible exact HR274_7.out) | (with_reducible refine Ca_ ?_ _) | (with_reducible refine CN_ ?_ _) | (with_reducible refine C1_ ?_) | exact HR274_7.out)⟩, ⟨wb1_ HB.out GE272.out⟩⟩
     replace c17 := Bool.eq_false_iff.mpr c17
     subst c17
     have H1 : (if ((rd_T27 t267 x7_2).f0).toList = ((rd_T27 t267 x5_1).f1).toList then (bindlelaw18_FlatSound.l1 k2 t267 x5_1 (((rd_T27 t267 x7_2).f2) == 48) (wrap64 (x7_2 + 1))) else (bindlelaw18_FlatSound.l1 k2 t267 x5_1 false (wrap64 (x7_2 + 1)))) = some r := by rw [if_neg (show ¬ (false = true) by decide)] at H; exact H
     clear H
     have H := H1
     clear H1
     by_cases c18 : ((rd_T27 t267 x7_2).f0).toList = ((rd_T27 t267 x5_1).f1).toList
     rotate_left
     ·rw [if_neg c18] at H
      have c18b0 : (((rd_T27 t267 x7_2).f0).toList == ((rd_T27 t267 x5_1).f1).toList) = false := beq_eq_false_iff_ne.mpr c18
      have c18b1 : (((rd_T27 t267 x7_2).f0).toList != ((rd_T27 t267 x5_1).f1).toList) = true := bne_iff_ne.mpr c18
      have H' := A0_ H
      clear H
      have p275 : 0 ≤ (x7_2 : Int) := wd_
      have q275 : x7_2 < (t267.length : Int) := wd_
      obtain ⟨ad275, A275_7, c275_7, e275, hx275_0, hx275_1, hx275_2, hx275_3, hx275_4, hx275_5, hx275_6, hx275_7, hl275_7, hi275_7⟩ := at_T27 (Kd.V_reads' HO_3.out).2.2 x7_2 p275 q275
      obtain rfl : ad274 = ad275 := (by injection e275)
      obtain ⟨ce275, hce275, hMe275, hcc275⟩ := Kd.V_get HO_3.out z27 x7_2 p275 (by first | exact q275 | exact wd_ | (have e_ := (Kd.V_reads' HO_3.out).1; omega))
      obtain ⟨ua275_7, uc275_7, rfl, ul275_7, ge275_7⟩ := k27_openF hMe275
      have hv275_7 := hcc275 7 _ rfl
      rw [add_field _ _ 7 (by omega)] at hv275_7
      replace hv275_7 := Option.some.inj (hv275_7.symm.trans hx275_7)
      injection hv275_7 with hva_ hvn_ hvc_
      rw [hva_] at ge275_7
      rw [hvc_] at ul275_7
      have HL275_7 := A0_ (show Kd.V (Kd.int .u8) 5 _ w.heap.size _ _ ((rd_T27 t267 x7_2).f4) from Kd.V_mk ul275_7 ge275_7)
      clear hva_ hvn_ hvc_ ge275_7 ul275_7
      clear hcc275 hce275
      have HR275_7 := A0_ hi275_7
      have HC275_7 := A0_ hl275_7
      clear hi275_7 hl275_7
      replace p275 := eq_true p275
      replace q275 := eq_true q275
      have p276 : 0 ≤ (x5_1 : Int) := wd_
      have q276 : x5_1 < (t267.length : Int) := wd_
      obtain ⟨ad276, A276_7, c276_7, e276, hx276_0, hx276_1, hx276_2, hx276_3, hx276_4, hx276_5, hx276_6, hx276_7, hl276_7, hi276_7⟩ := at_T27 (Kd.V_reads' HO_3.out).2.2 x5_1 p276 q276
      obtain rfl : ad274 = ad276 := (by injection e276)
      obtain ⟨ce276, hce276, hMe276, hcc276⟩ := Kd.V_get HO_3.out z27 x5_1 p276 (by first | exact q276 | exact wd_ | (have e_ := (Kd.V_reads' HO_3.out).1; omega))
      obtain ⟨ua276_7, uc276_7, rfl, ul276_7, ge276_7⟩ := k27_openF hMe276
      have hv276_7 := hcc276 7 _ rfl
      rw [add_field _ _ 7 (by omega)] at hv276_7
      replace hv276_7 := Option.some.inj (hv276_7.symm.trans hx276_7)
      injection hv276_7 with hva_ hvn_ hvc_
      rw [hva_] at ge276_7
      rw [hvc_] at ul276_7
      have HL276_7 := A0_ (show Kd.V (Kd.int .u8) 5 _ w.heap.size _ _ ((rd_T27 t267 x5_1).f4) from Kd.V_mk ul276_7 ge276_7)
      clear hva_ hvn_ hvc_ ge276_7 ul276_7
      clear hcc276 hce276
      have HR276_7 := A0_ hi276_7
      have HC276_7 := A0_ hl276_7
      clear hi276_7 hl276_7
      replace p276 := eq_true p276
      replace q276 := eq_true q276
      have p277 : 0 ≤ (x7_2 : Int) := wd_
      have q277 : x7_2 < (t267.length : Int) := wd_
      obtain ⟨ad277, A277_7, c277_7, e277, hx277_0, hx277_1, hx277_2, hx277_3, hx277_4, hx277_5, hx277_6, hx277_7, hl277_7, hi277_7⟩ := at_T27 (Kd.V_reads' HO_3.out).2.2 x7_2 p277 q277
      obtain rfl : ad274 = ad277 := (by injection e277)
      obtain ⟨ce277, hce277, hMe277, hcc277⟩ := Kd.V_get HO_3.out z27 x7_2 p277 (by first | exact q277 | exact wd_ | (have e_ := (Kd.V_reads' HO_3.out).1; omega))
      obtain ⟨ua277_7, uc277_7, rfl, ul277_7, ge277_7⟩ := k27_openF hMe277
      have hv277_7 := hcc277 7 _ rfl
      rw [add_field _ _ 7 (by omega)] at hv277_7
      replace hv277_7 := Option.some.inj (hv277_7.symm.trans hx277_7)
      injection hv277_7 with hva_ hvn_ hvc_
      rw [hva_] at ge277_7
      rw [hvc_] at ul277_7
      have HL277_7 := A0_ (show Kd.V (Kd.int .u8) 5 _ w.heap.size _ _ ((rd_T27 t267 x7_2).f4) from Kd.V_mk ul277_7 ge277_7)
      clear hva_ hvn_ hvc_ ge277_7 ul277_7
      clear hcc277 hce277
      have HR277_7 := A0_ hi277_7
      have HC277_7 := A0_ hl277_7
      clear hi277_7 hl277_7
      replace p277 := eq_true p277
      replace q277 := eq_true q277
      have ea_ := Option.some.inj (hx275_7.symm.trans hx277_7)
      injection ea_ with ea_ en_ ec_
      subst ea_
      subst ec_
      clear en_
      have p278 : 0 ≤ (x5_1 : Int) := wd_
      have q278 : x5_1 < (t267.length : Int) := wd_
      obtain ⟨ad278, A278_7, c278_7, e278, hx278_0, hx278_1, hx278_2, hx278_3, hx278_4, hx278_5, hx278_6, hx278_7, hl278_7, hi278_7⟩ := at_T27 (Kd.V_reads' HO_3.out).2.2 x5_1 p278 q278
      obtain rfl : ad274 = ad278 := (by injection e278)
      obtain ⟨ce278, hce278, hMe278, hcc278⟩ := Kd.V_get HO_3.out z27 x5_1 p278 (by first | exact q278 | exact wd_ | (have e_ := (Kd.V_reads' HO_3.out).1; omega))
      obtain ⟨ua278_7, uc278_7, rfl, ul278_7, ge278_7⟩ := k27_openF hMe278
      have hv278_7 := hcc278 7 _ rfl
      rw [add_field _ _ 7 (by omega)] at hv278_7
      replace hv278_7 := Option.some.inj (hv278_7.symm.trans hx278_7)
      injection hv278_7 with hva_ hvn_ hvc_
      rw [hva_] at ge278_7
      rw [hvc_] at ul278_7
      have HL278_7 := A0_ (show Kd.V (Kd.int .u8) 5 _ w.heap.size _ _ ((rd_T27 t267 x5_1).f4) from Kd.V_mk ul278_7 ge278_7)
      clear hva_ hvn_ hvc_ ge278_7 ul278_7
      clear hcc278 hce278
      have HR278_7 := A0_ hi278_7
      have HC278_7 := A0_ hl278_7
      clear hi278_7 hl278_7
      replace p278 := eq_true p278
      replace q278 := eq_true q278
      have ea_ := Option.some.inj (hx276_7.symm.trans hx278_7)
      injection ea_ with ea_ en_ ec_
      subst ea_
      subst ec_
      clear en_
      go_wp2
      repeat (go_quiet (fail); try go_wp2)
      go_roundg k2
      case measure => have := HK1.out; have := HK2.out; omega
      case rel => exact ⟨(false), (wrap64 (x7_2 + 1)), wr_, wr_, H', ⟨by have := HK1.out; have := HK2.out; omega⟩, ⟨wV_ HO_3.out⟩, ⟨wB_ BK272.out⟩, ⟨by repeat (first | (with_reducible exact HR274_7.out) | (with_reducible refine Ca_ ?_ _) | (with_reducible refine CN_ ?_ _) | (with_reducible refine C1_ ?_) | exact HR274_7.out)⟩, ⟨wb1_ HB.out GE272.out⟩⟩
     rw [if_pos c18] at H
     have c18b0 : (((rd_T27 t267 x7_2).f0).toList == ((rd_T27 t267 x5_1).f1).toList) = true := beq_iff_eq.mpr c18
     have c18b1 : (((rd_T27 t267 x7_2).f0).toList != ((rd_T27 t267 x5_1).f1).toList) = false := bne_eq_false_iff_eq.mpr c18
     clear c18
     have H' := A0_ H
     clear H
     have p275 : 0 ≤ (x7_2 : Int) := wd_
     have q275 : x7_2 < (t267.length : Int) := wd_
     obtain ⟨ad275, A275_7, c275_7, e275, hx275_0, hx275_1, hx275_2, hx275_3, hx275_4, hx275_5, hx275_6, hx275_7, hl275_7, hi275_7⟩ := at_T27 (Kd.V_reads' HO_3.out).2.2 x7_2 p275 q275
     obtain rfl : ad274 = ad275 := (by injection e275)
     obtain ⟨ce275, hce275, hMe275, hcc275⟩ := Kd.V_get HO_3.out z27 x7_2 p275 (by first | exact q275 | exact wd_ | (have e_ := (Kd.V_reads' HO_3.out).1; omega))
     obtain ⟨ua275_7, uc275_7, rfl, ul275_7, ge275_7⟩ := k27_openF hMe275
     have hv275_7 := hcc275 7 _ rfl
     rw [add_field _ _ 7 (by omega)] at hv275_7
     replace hv275_7 := Option.some.inj (hv275_7.symm.trans hx275_7)
     injection hv275_7 with hva_ hvn_ hvc_
     rw [hva_] at ge275_7
     rw [hvc_] at ul275_7
     have HL275_7 := A0_ (show Kd.V (Kd.int .u8) 5 _ w.heap.size _ _ ((rd_T27 t267 x7_2).f4) from Kd.V_mk ul275_7 ge275_7)
     clear hva_ hvn_ hvc_ ge275_7 ul275_7
     clear hcc275 hce275
     have HR275_7 := A0_ hi275_7
     have HC275_7 := A0_ hl275_7
     clear hi275_7 hl275_7
     replace p275 := eq_true p275
     replace q275 := eq_true q275
     have p276 : 0 ≤ (x5_1 : Int) := wd_
     have q276 : x5_1 < (t267.length : Int) := wd_
     obtain ⟨ad276, A276_7, c276_7, e276, hx276_0, hx276_1, hx276_2, hx276_3, hx276_4, hx276_5, hx276_6, hx276_7, hl276_7, hi276_7⟩ := at_T27 (Kd.V_reads' HO_3.out).2.2 x5_1 p276 q276
     obtain rfl : ad274 = ad276 := (by injection e276)
     obtain ⟨ce276, hce276, hMe276, hcc276⟩ := Kd.V_get HO_3.out z27 x5_1 p276 (by first | exact q276 | exact wd_ | (have e_ := (Kd.V_reads' HO_3.out).1; omega))
     obtain ⟨ua276_7, uc276_7, rfl, ul276_7, ge276_7⟩ := k27_openF hMe276
     have hv276_7 := hcc276 7 _ rfl
     rw [add_field _ _ 7 (by omega)] at hv276_7
     replace hv276_7 := Option.some.inj (hv276_7.symm.trans hx276_7)
     injection hv276_7 with hva_ hvn_ hvc_
     rw [hva_] at ge276_7
     rw [hvc_] at ul276_7
     have HL276_7 := A0_ (show Kd.V (Kd.int .u8) 5 _ w.heap.size _ _ ((rd_T27 t267 x5_1).f4) from Kd.V_mk ul276_7 ge276_7)
     clear hva_ hvn_ hvc_ ge276_7 ul276_7
     clear hcc276 hce276
     have HR276_7 := A0_ hi276_7
     have HC276_7 := A0_ hl276_7
     clear hi276_7 hl276_7
     replace p276 := eq_true p276
     replace q276 := eq_true q276
     have p277 : 0 ≤ (x7_2 : Int) := wd_
     have q277 : x7_2 < (t267.length : Int) := wd_
     obtain ⟨ad277, A277_7, c277_7, e277, hx277_0, hx277_1, hx277_2, hx277_3, hx277_4, hx277_5, hx277_6, hx277_7, hl277_7, hi277_7⟩ := at_T27 (Kd.V_reads' HO_3.out).2.2 x7_2 p277 q277
     obtain rfl : ad274 = ad277 := (by injection e277)
     obtain ⟨ce277, hce277, hMe277, hcc277⟩ := Kd.V_get HO_3.out z27 x7_2 p277 (by first | exact q277 | exact wd_ | (have e_ := (Kd.V_reads' HO_3.out).1; omega))
     obtain ⟨ua277_7, uc277_7, rfl, ul277_7, ge277_7⟩ := k27_openF hMe277
     have hv277_7 := hcc277 7 _ rfl
     rw [add_field _ _ 7 (by omega)] at hv277_7
     replace hv277_7 := Option.some.inj (hv277_7.symm.trans hx277_7)
     injection hv277_7 with hva_ hvn_ hvc_
     rw [hva_] at ge277_7
     rw [hvc_] at ul277_7
     have HL277_7 := A0_ (show Kd.V (Kd.int .u8) 5 _ w.heap.size _ _ ((rd_T27 t267 x7_2).f4) from Kd.V_mk ul277_7 ge277_7)
     clear hva_ hvn_ hvc_ ge277_7 ul277_7
     clear hcc277 hce277
     have HR277_7 := A0_ hi277_7
     have HC277_7 := A0_ hl277_7
     clear hi277_7 hl277_7
     replace p277 := eq_true p277
     replace q277 := eq_true q277
     have ea_ := Option.some.inj (hx275_7.symm.trans hx277_7)
     injection ea_ with ea_ en_ ec_
     subst ea_
     subst ec_
     clear en_
     have p278 : 0 ≤ (x5_1 : Int) := wd_
     have q278 : x5_1 < (t267.length : Int) := wd_
     obtain ⟨ad278, A278_7, c278_7, e278, hx278_0, hx278_1, hx278_2, hx278_3, hx278_4, hx278_5, hx278_6, hx278_7, hl278_7, hi278_7⟩ := at_T27 (Kd.V_reads' HO_3.out).2.2 x5_1 p278 q278
     obtain rfl : ad274 = ad278 := (by injection e278)
     obtain ⟨ce278, hce278, hMe278, hcc278⟩ := Kd.V_get HO_3.out z27 x5_1 p278 (by first | exact q278 | exact wd_ | (have e_ := (Kd.V_reads' HO_3.out).1; omega))
     obtain ⟨ua278_7, uc278_7, rfl, ul278_7, ge278_7⟩ := k27_openF hMe278
     have hv278_7 := hcc278 7 _ rfl
     rw [add_field _ _ 7 (by omega)] at hv278_7
     replace hv278_7 := Option.some.inj (hv278_7.symm.trans hx278_7)
     injection hv278_7 with hva_ hvn_ hvc_
     rw [hva_] at ge278_7
     rw [hvc_] at ul278_7
     have HL278_7 := A0_ (show Kd.V (Kd.int .u8) 5 _ w.heap.size _ _ ((rd_T27 t267 x5_1).f4) from Kd.V_mk ul278_7 ge278_7)
     clear hva_ hvn_ hvc_ ge278_7 ul278_7
     clear hcc278 hce278
     have HR278_7 := A0_ hi278_7
     have HC278_7 := A0_ hl278_7
     clear hi278_7 hl278_7
     replace p278 := eq_true p278
     replace q278 := eq_true q278
     have ea_ := Option.some.inj (hx276_7.symm.trans hx278_7)
     injection ea_ with ea_ en_ ec_
     subst ea_
     subst ec_
     clear en_
     have p279 : 0 ≤ (x7_2 : Int) := wd_
     have q279 : x7_2 < (t267.length : Int) := wd_
     obtain ⟨ad279, A279_7, c279_7, e279, hx279_0, hx279_1, hx279_2, hx279_3, hx279_4, hx279_5, hx279_6, hx279_7, hl279_7, hi279_7⟩ := at_T27 (Kd.V_reads' HO_3.out).2.2 x7_2 p279 q279
     obtain rfl : ad274 = ad279 := (by injection e279)
     obtain ⟨ce279, hce279, hMe279, hcc279⟩ := Kd.V_get HO_3.out z27 x7_2 p279 (by first | exact q279 | exact wd_ | (have e_ := (Kd.V_reads' HO_3.out).1; omega))
     obtain ⟨ua279_7, uc279_7, rfl, ul279_7, ge279_7⟩ := k27_openF hMe279
     have hv279_7 := hcc279 7 _ rfl
     rw [add_field _ _ 7 (by omega)] at hv279_7
     replace hv279_7 := Option.some.inj (hv279_7.symm.trans hx279_7)
     injection hv279_7 with hva_ hvn_ hvc_
     rw [hva_] at ge279_7
     rw [hvc_] at ul279_7
     have HL279_7 := A0_ (show Kd.V (Kd.int .u8) 5 _ w.heap.size _ _ ((rd_T27 t267 x7_2).f4) from Kd.V_mk ul279_7 ge279_7)
     clear hva_ hvn_ hvc_ ge279_7 ul279_7
     clear hcc279 hce279
     have HR279_7 := A0_ hi279_7
     have HC279_7 := A0_ hl279_7
     clear hi279_7 hl279_7
     replace p279 := eq_true p279
     replace q279 := eq_true q279
     have ea_ := Option.some.inj (hx275_7.symm.trans hx279_7)
     injection ea_ with ea_ en_ ec_
     subst ea_
     subst ec_
     clear en_
     go_wp2
     repeat (go_quiet (fail); try go_wp2)
     go_roundg k2
     case measure => have := HK1.out; have := HK2.out; omega
     case rel => exact ⟨((((rd_T27 t267 x7_2).f2) == 48)), (wrap64 (x7_2 + 1)), wr_, wr_, H', ⟨by have := HK1.out; have := HK2.out; omega⟩, ⟨wV_ HO_3.out⟩, ⟨wB_ BK272.out⟩, ⟨by repeat (first | (with_reducible exact HR274_7.out) | (with_reducible refine Ca_ ?_ _) | (with_reducible refine CN_ ?_ _) | (with_reducible refine C1_ ?_) | exact HR274_7.out)⟩, ⟨wb1_ HB.out GE272.out⟩⟩
end Go.Proofs.YtiijbmaamblidaaDoor.Print

namespace Go.Proofs.YtiijbmaamblidaaDoor
open Go.RowKit Go.Proofs.YtiijbmaamblidaaDoor.Print Go.Proofs.YtiijbmaamblidaaDoorW.PrintWords
set_option linter.unusedVariables false
section
variable {a : List Mem} (h60 : a.length ≤ 4096) (hs : soundF a = true)
include h60 hs
theorem fsound_inner (i : Nat) (hi : i < a.length) (hnext : Ev (fun k => bindlelaw18_FlatSound.l0 k a ((i + 1 : Nat) : Int)) true) :
  ∀ (d j : Nat) (b : Bool), j + d = i → (b = true ∨ ∃ (k : Nat) (hk : k < i), j ≤ k ∧ a[k].f0 = a[i].f1 ∧ a[k].f2 = 48) → Ev (fun k => bindlelaw18_FlatSound.l1 k a (i : Int) b (j : Int)) true := by
 intro d
 induction d with
 | zero =>
  intro j b hj hb
  obtain rfl : b = true := by
   rcases hb with hb | ⟨k, hk, h1, _⟩
   ·exact hb
   ·omega
  exact Ev.step (fun k => by rw [bindlelaw18_FlatSound.l1, if_neg (by omega), if_pos rfl, show wrap64 ((i : Int) + 1) = ((i + 1 : Nat) : Int) by unfold wrap64; omega]) hnext
 | succ d ih =>
  intro j b hj hb
  have hjl : j < a.length := by omega
  have hne := (sound_at hs i hi).1 j (by omega)
  have hne' : ¬ a[j].f0.toList = a[i].f0.toList := fun e => hne (ba_ext e)
  cases b with
  | true =>
   refine Ev.step (fun k => ?_) (ih (j + 1) true (by omega) (.inl rfl))
   rw [bindlelaw18_FlatSound.l1, if_pos (by omega), if_pos (by omega), if_pos (by omega), if_pos (by omega), if_pos (by omega), rdM_n a i hi, rdM_n a j hjl, if_neg hne', if_pos rfl, show wrap64 ((j : Int) + 1) = ((j + 1 : Nat) : Int) by unfold wrap64; omega]
  | false =>
   obtain ⟨k, hk, h1, h2, h3⟩ : ∃ (k : Nat) (hk : k < i), j ≤ k ∧ a[k].f0 = a[i].f1 ∧ a[k].f2 = 48 := by
    rcases hb with hb | hb
    ·cases hb
    ·exact hb
   by_cases he : a[j].f0.toList = a[i].f1.toList
   ·have hjk : j = k := by
     rcases Nat.lt_or_ge j k with h4 | h4
     ·exact absurd (ba_ext (he.trans (by rw [h2]))) ((sound_at hs k (by omega)).1 j h4)
     ·omega
    subst hjk
    refine Ev.step (fun q => ?_) (ih (j + 1) true (by omega) (.inl rfl))
    rw [bindlelaw18_FlatSound.l1, if_pos (by omega), if_pos (by omega), if_pos (by omega), if_pos (by omega), if_pos (by omega), rdM_n a i hi, rdM_n a j hjl, if_neg hne', if_neg (by decide), if_pos he, h3, show wrap64 ((j : Int) + 1) = ((j + 1 : Nat) : Int) by unfold wrap64; omega]
    rfl
   ·have hjk : j < k := by
     rcases Nat.lt_or_ge j k with h4 | h4
     ·exact h4
     ·obtain rfl : j = k := by omega
      exact absurd (by rw [h2]) he
    refine Ev.step (fun q => ?_) (ih (j + 1) false (by omega) (.inr ⟨k, hk, by omega, h2, h3⟩))
    rw [bindlelaw18_FlatSound.l1, if_pos (by omega), if_pos (by omega), if_pos (by omega), if_pos (by omega), if_pos (by omega), rdM_n a i hi, rdM_n a j hjl, if_neg hne', if_neg (by decide), if_neg he, show wrap64 ((j : Int) + 1) = ((j + 1 : Nat) : Int) by unfold wrap64; omega]
theorem fsound_outer : ∀ (d i : Nat), i + d = a.length → Ev (fun k => bindlelaw18_FlatSound.l0 k a (i : Int)) true := by
 intro d
 induction d with
 | zero =>
  intro i hi
  exact Ev.step (f := fun _ => some true) (fun k => by rw [bindlelaw18_FlatSound.l0, if_neg (by omega), bindlelaw18_answers.val]; rfl) (Ev.now _)
 | succ d ih =>
  intro i hi
  have hil : i < a.length := by omega
  refine Ev.step (fun k => ?_) (fsound_inner h60 hs i hil (ih (i + 1) (by omega)) i 0 (a[i].f2 != 49) (by omega) ?_)
  ·rw [bindlelaw18_FlatSound.l0, if_pos (by omega), if_pos (by omega), rdM_n a i hil]
   rfl
  ·by_cases h49 : a[i].f2 = 49
   ·obtain ⟨k, hk, h1, h2⟩ := (sound_at hs i hil).2.2 h49
    exact .inr ⟨k, hk, Nat.zero_le _, h1, h2⟩
   ·exact .inl (by simpa using h49)
end
theorem FlatSound_true (l : List Mem) (hz : ∀ x ∈ l, MemR x) (hlen : l.length ≤ 140737488351232) : Ev (fun k => bindlelaw18_FlatSound.f k l) true := by
 obtain ⟨b, h1, h2⟩ := light18_eq l hz hlen
 unfold bindlelaw18_FlatSound.f
 refine Ev.bind h1 ?_
 cases b with
 | false => exact Ev.congr (f := fun _ => some true) (fun k => by rw [if_neg (by decide), bindlelaw18_answers.val]; rfl) (Ev.now _)
 | true =>
  obtain ⟨h60, hmz, _⟩ := h2 rfl
  refine Ev.congr (fun k => by rw [if_pos rfl, flatten_f hmz (by omega), Option.bind_some]) ?_
  by_cases h0 : (foldF l).2.1 = 0
  ·have H := flat_ok hmz (by omega) h0
   exact fsound_outer (by have := H.len; omega) H.sound (flatF l).1.length 0 (by omega)
  ·rw [flat_bad h0]
   exact fsound_outer (a := []) (Nat.zero_le _) rfl 0 0 rfl
end Go.Proofs.YtiijbmaamblidaaDoor

namespace Go.Proofs.YtiijbmaamblidaaDoor
open Go.RowKit Go.Lib Go.Proofs.YtiijbmaamblidaaDoorW.PrintWords
theorem laidOut : laidOutB Tryd.prog = true := by kernel_rfl
end Go.Proofs.YtiijbmaamblidaaDoor

namespace Go.Proofs.YtiijbmaamblidaaDoor
open Go.ChangeShapes Go.WideShapes Go.RowKit Go.Proofs.YtiijbmaamblidaaDoorW.PrintWords
structure Opens {α : Type} (P : Program) (d : Kd α) (t : TypeId) (B : α → Prop) : Prop where
 sz : P.cellsOf t = d.sz
 get : ∀ {H : Type} {enc : TypeId × Value → H} {W : World} {fuel : Nat} {cs : List Value} {x : DataW H × List MemPlace},
  DataW.trod enc P W 0 (fun _ => true) true fuel t cs = some x → (∀ n ∈ x.1.weights P t, n ≤ reachBytes) → ∃ a, d.K W a cs ∧ B a
theorem Opens.int {P : Program} {t : TypeId} {k : IntKind} (ht : P.underlying t = some (.int k)) (hc : P.cellsOf t = 1) : Opens P (Kd.int k) t (fun n => (Lit.int k n).wf = true) :=
 ⟨hc, fun h _ => by
  obtain ⟨n, rfl, rfl, hw⟩ := DataW.trod_int ht h
  exact ⟨n, rfl, hw⟩⟩
theorem Opens.bool {P : Program} {t : TypeId} (ht : P.underlying t = some .bool) (hc : P.cellsOf t = 1) : Opens P Kd.bool t (fun _ => True) :=
 ⟨hc, fun h _ => by
  obtain ⟨n, rfl, rfl⟩ := DataW.trod_bool ht h
  exact ⟨n, rfl, trivial⟩⟩
theorem Opens.string {P : Program} {t : TypeId} (ht : P.underlying t = some .string) (hc : P.cellsOf t = 1) : Opens P Kd.string t (fun s => s.size ≤ 140737488351232) :=
 ⟨hc, fun h hw => by
  obtain ⟨s, rfl, rfl, _⟩ := DataW.trod_string ht h
  refine ⟨s, rfl, ?_⟩
  have := hw s.data.toList.length (by simp [DataW.weights])
  have e : s.data.toList.length = s.size := by simp
  rw [e] at this
  exact this⟩
theorem each_list {α : Type} {Q : Nat → α → Prop} : ∀ n : Nat, (∀ i, i < n → ∃ x, Q i x) → ∃ xs : List α, xs.length = n ∧ ∀ i x, xs[i]? = some x → Q i x := by
 intro n
 induction n with
 | zero => exact fun _ => ⟨[], rfl, fun i x h => by simp at h⟩
 | succ n ih =>
  intro h
  obtain ⟨xs, hl, hx⟩ := ih (fun i hi => h i (by omega))
  obtain ⟨y, hy⟩ := h n (by omega)
  refine ⟨xs ++ [y], by simp [hl], fun i x hi => ?_⟩
  rcases Nat.lt_or_ge i n with h1 | h1
  ·rw [List.getElem?_append_left (by omega)] at hi
   exact hx i x hi
  ·rw [List.getElem?_append_right (by omega)] at hi
   have h0 : i - xs.length = 0 := by
    have := (List.getElem?_eq_some_iff.1 hi).1
    simp at this
    omega
   rw [h0] at hi
   simp at hi
   subst hi
   obtain rfl : i = n := by omega
   exact hy
theorem weights_all {H : Type} {P : Program} {e : TypeId} : ∀ {l : List (DataW H)} {y : DataW H}, y ∈ l → ∀ n ∈ y.weights P e, n ∈ DataW.weightsAll P e l
 | z :: r, y, hy, n, hn => by
  simp only [DataW.weightsAll, List.mem_append]
  rcases List.mem_cons.1 hy with rfl | hy
  ·exact .inl hn
  ·exact .inr (weights_all hy n hn)
theorem add_add (a : Addr) (x y : Nat) : (a.add x).add y = a.add (x + y) := by
 unfold Addr.add
 split
 ·rename_i h
  subst h
  simp
 ·rename_i h
  split
  ·rename_i h2
   subst h2
   simp [h]
  ·rw [if_neg (by omega)]
   simp [Nat.add_assoc]
theorem Opens.slice {α : Type} {P : Program} {d : Kd α} {B : α → Prop} {t e : TypeId} (ht : P.underlying t = some (.slice e)) (hc : P.cellsOf t = 1) (h : Opens P d e B) :
  Opens P (Kd.slice e d) t (fun xs => xs.length * P.bytesOf e ≤ 140737488351232 ∧ ∀ x ∈ xs, B x) :=
 ⟨hc, fun {H enc W fuel cs x} hf hw => by
  rcases DataW.trod_slice ht hf with ⟨rfl, rfl⟩ | ⟨a, len, cap, elems, rest, n, _, rfl, rfl, hb, hl, hm, hlen, hel, hsp, hns⟩
  ·exact ⟨[], ⟨none, 0, rfl, Nat.le_refl _, Kd.C_nil d W⟩, by simp, fun x hx => by cases hx⟩
  ·simp only [DataW.weights, ht] at hw
   have each : ∀ i, i < len → ∃ z : α, B z ∧ ∃ c, c.length = d.sz ∧ d.K W z c ∧ ∀ j u, c[j]? = some u → W.cell? (a.add (i * d.sz + j)) = some u := by
    intro i hi
    have h1 := hel i hi
    have hi' : i < elems.length := by omega
    rw [List.getElem?_eq_getElem hi', Option.bind_eq_some_iff] at h1
    obtain ⟨c, hcs, hy⟩ := h1
    obtain ⟨-, h2, h3⟩ := World.cells?_some hcs
    obtain ⟨z, hz, hB⟩ := h.get hy (fun n hn => hw n (by
     simp only [List.mem_cons, List.mem_append]
     exact .inr (.inl (weights_all (List.mem_map.2 ⟨_, List.getElem_mem hi', rfl⟩) n hn))))
    refine ⟨z, hB, c, by rw [h2, h.sz], hz, fun j u hj => ?_⟩
    have hj' : j < P.cellsOf e := by
     have := (List.getElem?_eq_some_iff.1 hj).1
     omega
    have h4 := h3 j hj'
    rw [add_add, h.sz] at h4
    rw [h4, hj]
   obtain ⟨xs, hxl, hxs⟩ := each_list len each
   subst hxl
   have hz := hw _ (List.mem_cons_self ..)
   simp only [List.length_map] at hz
   have h5 : xs.length * P.bytesOf e ≤ (elems.length + rest.length) * P.bytesOf e := Nat.mul_le_mul_right _ (by omega)
   have h6 : reachBytes = 140737488351232 := rfl
   refine ⟨xs, ⟨some a, cap, rfl, hl, rfl, ?_, fun _ => ⟨a, rfl, fun j p hj => (hxs j p hj).2⟩⟩, by omega, fun x hx => ?_⟩
   ·have : maxLen = 9223372036854775807 := rfl
    omega
   ·obtain ⟨i, hi⟩ := List.getElem?_of_mem hx
    exact (hxs i x hi).1⟩
structure OpensF {α : Type} (P : Program) (d : Kd α) (fs : List Field) (o : Nat) (B : α → Prop) : Prop where
 get : ∀ {H : Type} {enc : TypeId × Value → H} {W : World} {n : Nat} {cs : List Value} {xs : List (DataW H × List MemPlace)}, xs.length = fs.length →
  (∀ (i : Nat) (f : Field), fs[i]? = some f → DataW.trod enc P W 0 (fun _ => true) true n f.type ((cs.drop f.offset).take (P.cellsOf f.type)) = xs[i]?) →
  (∀ m ∈ DataW.weightsEach P (fs.map (·.type)) (xs.map (·.1)), m ≤ reachBytes) → ∃ a, d.K W a ((cs.drop o).take d.sz) ∧ B a
theorem OpensF.one {α : Type} {P : Program} {d : Kd α} {B : α → Prop} {f : Field} {o : Nat} (ho : f.offset = o) (h : Opens P d f.type B) : OpensF P d [f] o B := by
 refine ⟨fun {H enc W n cs xs} hl hx hw => ?_⟩
 match xs, hl with
 | [x], _ =>
  have h0 := hx 0 f rfl
  rw [h.sz, ho] at h0
  simp only [List.getElem?_cons_zero] at h0
  exact h.get h0 (fun m hm => hw m (by simp only [List.map_cons, List.map_nil, DataW.weightsEach, List.mem_append]; exact .inl hm))
theorem OpensF.cons {α β : Type} {P : Program} {d : Kd α} {d' : Kd β} {B : α → Prop} {B' : β → Prop} {f : Field} {fs : List Field} {o : Nat} (ho : f.offset = o) (h : Opens P d f.type B) (h' : OpensF P d' fs (o + d.sz) B') :
  OpensF P (Kd.pair d d') (f :: fs) o (fun x => B x.1 ∧ B' x.2) := by
 refine ⟨fun {H enc W n cs xs} hl hx hw => ?_⟩
 match xs, hl with
 | x :: xs, hl =>
  have h0 := hx 0 f rfl
  rw [h.sz, ho] at h0
  simp only [List.getElem?_cons_zero] at h0
  obtain ⟨a, ha, hB⟩ := h.get h0 (fun m hm => hw m (by simp only [List.map_cons, DataW.weightsEach, List.mem_append]; exact .inl hm))
  obtain ⟨b, hb, hB'⟩ := h'.get (enc := enc) (W := W) (n := n) (cs := cs) (xs := xs) (by simpa using hl) (fun i g hg => by have := hx (i + 1) g (by simpa using hg); simpa using this)
   (fun m hm => hw m (by simp only [List.map_cons, DataW.weightsEach, List.mem_append]; exact .inr hm))
  refine ⟨(a, b), ⟨_, _, ?_, ha, hb⟩, hB, hB'⟩
  show (cs.drop o).take (d.sz + d'.sz) = _
  rw [List.take_add, List.drop_drop]
theorem Opens.struct {α β : Type} {P : Program} {d : Kd α} {B : α → Prop} {t : TypeId} {fs : Array Field} (ht : P.underlying t = some (.struct fs)) (hc : P.cellsOf t = d.sz) (h : OpensF P d fs.toList 0 B) (f : β → α) (g : α → β) (hg : ∀ a, f (g a) = a) :
  Opens P (Kd.iso d f) t (fun x => B (f x)) :=
 ⟨hc, fun {H enc W fuel cs x} hf hw => by
  obtain ⟨xs, n, _, rfl, hl, hlen, hx⟩ := DataW.trod_struct ht hf
  simp only [DataW.weights, ht] at hw
  obtain ⟨a, ha, hB⟩ := h.get (enc := enc) (W := W) (n := n) (cs := cs) (xs := xs) (by simpa using hlen) (fun i g hg => hx i g (by simpa using hg)) hw
  refine ⟨g a, ?_, by rw [hg]; exact hB⟩
  show d.K W (f (g a)) cs
  rw [hg]
  rw [List.drop_zero, List.take_of_length_le (by omega)] at ha
  exact ha⟩
theorem Opens.imp {α : Type} {P : Program} {d : Kd α} {t : TypeId} {B B' : α → Prop} (h : Opens P d t B) (hB : ∀ a, B a → B' a) : Opens P d t B' :=
 ⟨h.sz, fun hf hw => by obtain ⟨a, ha, hb⟩ := h.get hf hw; exact ⟨a, ha, hB a hb⟩⟩
theorem Opens.param {α : Type} {P : Program} {d : Kd α} {t : TypeId} {B : α → Prop} (h : Opens P d t B) {H : Type} {enc : TypeId × Value → H} {W : World} {v : Value} {x : DataW H} {p : List MemPlace} {ts : List TypeId} {ds : List (DataW H)} {j : Nat}
  (hsz : (DataW.weightsEach P ts ds).all (· ≤ reachBytes) = true) (hj : ts[j]? = some t) (hd : ds[j]? = some x) (ht : DataW.Trod enc P W 0 (fun _ => true) true t v x p) : ∃ a, d.K W a v.cells.toList ∧ B a := by
 obtain ⟨fuel, hf⟩ := ht
 exact h.get hf (fun n hn => by simpa using List.all_eq_true.1 hsz _ (DataW.weights_mem_each hj hd n hn))
theorem Opens.row {α : Type} {P : Program} {d : Kd α} {t e : TypeId} {B : List α → Prop} (h : Opens P (Kd.slice e d) t B) {H : Type} {enc : TypeId × Value → H} {W : World} {A : Option Addr} {n c : Nat} {x : DataW H} {p : List MemPlace} {ts : List TypeId} {ds : List (DataW H)} {j : Nat}
  (hsz : (DataW.weightsEach P ts ds).all (· ≤ reachBytes) = true) (hj : ts[j]? = some t) (hd : ds[j]? = some x) (ht : DataW.Trod enc P W 0 (fun _ => true) true t (.slice A n c) x p) :
  ∃ xs : List α, xs.length = n ∧ d.C W A n xs ∧ n ≤ c ∧ B xs := by
 obtain ⟨xs, ⟨A', c', he, hl, hC⟩, hB⟩ := h.param hsz hj hd ht
 simp [Value.cells] at he
 obtain ⟨rfl, rfl, rfl⟩ := he
 exact ⟨xs, rfl, hC, hl, hB⟩
end Go.Proofs.YtiijbmaamblidaaDoor

namespace Go.Proofs.YtiijbmaamblidaaDoor
open Go.RowKit Go.Proofs.YtiijbmaamblidaaDoor.Print Go.Proofs.YtiijbmaamblidaaDoorW.PrintWords
theorem o_str : Opens Tryd.prog Kd.string 9 (fun s => s.size ≤ 140737488351232) := Opens.string Tryd.underlying9 (by kernel_rfl)
theorem o_u8 : Opens Tryd.prog (Kd.int .u8) 5 (fun n => (Lit.int .u8 n).wf = true) := Opens.int Tryd.underlying5 (by kernel_rfl)
theorem o_int : Opens Tryd.prog (Kd.int .i64) 3 (fun n => (Lit.int .i64 n).wf = true) := Opens.int Tryd.underlying3 (by kernel_rfl)
theorem o_bytes : Opens Tryd.prog (Kd.slice 5 (Kd.int .u8)) 25 (fun xs => xs.length ≤ 140737488351232) :=
 (Opens.slice Tryd.underlying25 (by kernel_rfl) o_u8).imp (fun xs h => by
  have hb : Tryd.prog.bytesOf 5 = 1 := by kernel_rfl
  have h1 := h.1
  rw [hb] at h1
  omega)
theorem o_meta : Opens Tryd.prog k24 24 (fun _ => True) := by
 have h := Opens.struct Tryd.underlying24 (by kernel_rfl) (OpensF.cons rfl o_int (OpensF.cons rfl o_int (OpensF.cons rfl o_int (OpensF.one rfl o_int)))) (fun x : S24 => (x.f0, x.f1, x.f2, x.f3)) (fun p => ⟨p.1, p.2.1, p.2.2.1, p.2.2.2⟩) (fun _ => rfl)
 exact Opens.imp h (fun _ _ => trivial)
theorem o_mem : Opens Tryd.prog k27 27 MemR := by
 have h := Opens.struct Tryd.underlying27 (by kernel_rfl) (OpensF.cons rfl o_str (OpensF.cons rfl o_str (OpensF.cons rfl o_u8 (OpensF.cons rfl o_meta (OpensF.one rfl o_bytes))))) (fun x : S27 => (x.f0, x.f1, x.f2, x.f3, x.f4)) (fun p => ⟨p.1, p.2.1, p.2.2.1, p.2.2.2.1, p.2.2.2.2⟩) (fun _ => rfl)
 exact Opens.imp h (fun _ hx => ⟨hx.1, hx.2.1, hx.2.2.2.2⟩)
theorem o_mems : Opens Tryd.prog (Kd.slice 27 k27) 22 (fun xs => (∀ x ∈ xs, MemR x) ∧ xs.length ≤ 140737488351232) :=
 (Opens.slice Tryd.underlying22 (by kernel_rfl) o_mem).imp (fun xs h => ⟨h.2, by
  have hb : Tryd.prog.bytesOf 27 = 96 := by kernel_rfl
  have h1 := h.1
  rw [hb] at h1
  omega⟩)
end Go.Proofs.YtiijbmaamblidaaDoor
