/-
  Part of the proof that FlatMore answers true: texts put together (wip/bundle.py).
-/
import Derived.Test.YtiijbmaamblidaaGreatDoorCFlatMore4
import Derived.SizedLaws
import Derived.ChangeSlices
import Derived.OpenShut
namespace Go.Proofs.YtiijbmaamblidaaGreatDoor
open Go.RowKit Go.Maps Go.Proofs.YtiijbmaamblidaaGreatDoor.Print Go.Proofs.YtiijbmaamblidaaGreatDoorW.PrintWords Go.Proofs.YtiijbmaamblidaaGreatDoorW.PrintLast Go.Proofs.YtiijbmaamblidaaGreatDoorW.PrintMore
set_option linter.unusedVariables false
set_option linter.unusedSimpArgs false
theorem gkeep {w w1 : World} {p : Addr} {v : Value} (hb : Below w.heap.size w w1) (h : w.cell? p = some v) : w1.cell? p = some v := (hb.cell (World.block_lt_of_cell? w _ h)).trans h
theorem blk_lt2 {w : World} {b : Nat} {o : Obj} (h : w.heap[b]? = some o) : b < w.heap.size := (Array.getElem?_eq_some_iff.1 h).1
def FltB (W wr : World) : Prop := wr.heap[W.heap.size]? = some (.cells #[.int .i64 0, .int .i64 0] 27 (0, 0))
theorem FltB.facts {W wr : World} (h : FltB W wr) : wr.cell? ⟨W.heap.size, 0, none⟩ = some (.int .i64 0) ∧ wr.cell? ⟨W.heap.size, 1, none⟩ = some (.int .i64 0) ∧ wr.frozen? ⟨W.heap.size, 0, none⟩ = false ∧ wr.frozen? ⟨W.heap.size, 1, none⟩ = false ∧ W.heap.size < wr.heap.size := by
 unfold FltB at h
 refine ⟨?_, ?_, ?_, ?_, blk_lt2 h⟩
 ·unfold World.cell?; dsimp only; rw [h]; rfl
 ·unfold World.cell?; dsimp only; rw [h]; rfl
 ·unfold World.frozen?; dsimp only; rw [h]; rfl
 ·unfold World.frozen?; dsimp only; rw [h]; rfl
theorem FltB.below {W wr w1 : World} (h : FltB W wr) (hb : Below wr.heap.size wr w1) : FltB W w1 := (hb.block _ (blk_lt2 h)).trans h
def FR1 (l : List Mem) (W : World) (i : Int) (wr : World) : Prop := 0 ≤ i ∧ i ≤ l.length ∧ (∀ (j : Nat) (hj : j < l.length), (j : Int) < i → goodM l[j] = true) ∧ Below W.heap.size W wr ∧ FltB W wr
def FR2 (l : List Mem) (W : World) (i : Int) (v : Value) (wr : World) : Prop :=
 0 ≤ i ∧ i ≤ l.length ∧ (∃ s, stepsF l i.toNat = some s ∧ FInv l i.toNat s ∧ Kd.N k51 51 wr W.heap.size (fun _ => True) v (s.map (clsOf l))) ∧ Below W.heap.size W wr ∧ FltB W wr
def FR3 (xs : List Cls) (p : ByteArray) (wz : World) (k : Int) (v : Value) (wr : World) : Prop :=
 0 ≤ k ∧ k ≤ xs.length ∧ Below wz.heap.size wz wr ∧ Kd.N k51 51 wr wz.heap.size (fun _ => True) v ((xs.take k.toNat).filter (fun x => !decide (x.f0.f0.toList = p.toList)))
def RPost (l : List Mem) (W : World) (e : Ending) (W' : World) : Prop := ∃ v, e = .returned (.tuple #[v, .agg #[.int .i64 (foldF l).2.1, .int .i64 (foldF l).2.2]]) ∧ Kd.V k49 49 W' W.heap.size (fun k => W.heap.size ≤ k) v (foldF l).1 ∧ Below W.heap.size W W'
theorem find_bad {l : List Mem} {j : Nat} (hj : j < l.length) (h : ∀ (k : Nat) (hk : k < l.length), k < j → goodM l[k] = true) (hb : goodM l[j] = false) : l.findIdx? (fun m => !goodM m) = some j :=
 List.findIdx?_eq_some_iff_getElem.2 ⟨hj, by rw [hb]; rfl, fun k hk => by rw [h k (by omega) hk]; simp⟩
theorem find_ok {l : List Mem} (h : ∀ (k : Nat) (hk : k < l.length), goodM l[k] = true) : l.findIdx? (fun m => !goodM m) = none :=
 List.findIdx?_eq_none_iff.2 (fun x hx => by obtain ⟨i, hi, rfl⟩ := List.getElem_of_mem hx; rw [h i hi]; rfl)
theorem good_path {m : Mem} (h : goodM m = true) : m.f0.toList ≠ [] := by
 intro e
 have h1 := (goodM_clean h).1
 unfold cleanOk at h1
 simp only [Bool.and_eq_true, decide_eq_true_iff] at h1
 obtain ⟨h2, h3⟩ := h1
 rw [e] at h3
 unfold cleanF at h2 h3
 split at h2
 ·cases h2
 ·rename_i c1
  rw [if_neg c1] at h3
  split at h2
  ·cases h2
  ·rename_i c2
   rw [if_neg c2] at h3
   split at h2
   ·cases h2
   ·rename_i c3
    rw [if_neg c3] at h3
    split at h2
    ·cases h2
    ·rename_i c4
     rw [if_neg c4] at h3
     apply c4
     rw [← h3]
     rfl
def memArr (x : Mem) (A : Option Addr) (c : Nat) : Array Value := #[.string x.f0, .string x.f1, .int .u8 x.f2, .int .i64 x.f3.f0, .int .i64 x.f3.f1, .int .i64 x.f3.f2, .int .i64 x.f3.f3, .slice A x.f4.length c]
def RMid (x : Mem) (A : Option Addr) (c : Nat) (wr wz : World) (y : Cls) (Ay : Option Addr) (cy : Nat) : Prop :=
 Below (wr.heap.size + 1) (wr.alloc (.cells (memArr x A c) 43)) wz ∧ wz.heap[wr.heap.size + 1]? = some (.cells (clsCells y (.slice Ay y.f0.f5.length cy)).toArray 51 (0, 0)) ∧ wz.heap.size = wr.heap.size + 2 ∧ y.f0.f5.length ≤ cy ∧ Kd.F (Kd.int .u8) wr (fun k => k < wr.heap.size) Ay y.f0.f5.length y.f0.f5
theorem RMid.below {x : Mem} {A : Option Addr} {c : Nat} {wr wz : World} {y : Cls} {Ay : Option Addr} {cy : Nat} (h : RMid x A c wr wz y Ay cy) : Below wr.heap.size wr wz := (below_alloc (Below.refl _ _) _).trans (h.1.mono (by omega))
theorem RMid.facts {x : Mem} {A : Option Addr} {c : Nat} {wr wz : World} {y : Cls} {Ay : Option Addr} {cy : Nat} (h : RMid x A c wr wz y Ay cy) : wz.cell? ⟨wr.heap.size, 0, none⟩ = some (.string x.f0) ∧ (∀ j u, (clsCells y (.slice Ay y.f0.f5.length cy))[j]? = some u → wz.cell? ⟨wr.heap.size + 1, j, none⟩ = some u) := by
 constructor
 ·have h1 := (h.1.block wr.heap.size (Nat.lt_succ_self _)).trans (blk_new wr _)
  unfold World.cell?
  dsimp only
  rw [h1]
  rfl
 ·intro j u hu
  unfold World.cell?
  dsimp only
  rw [h.2.1]
  simpa using hu
theorem names_next {l : List Mem} {s : PS} {p : ByteArray} {c : Nat} : ((s.map (clsOf l)).filter (fun x => !decide (x.f0.f0.toList = p.toList))) ++ [clsOf l (p, c)] = (putP s p c).map (clsOf l) := by
 rw [without_map]
 unfold putP
 rw [List.map_append]
 rfl
theorem drawn2 {w w1 : World} {o1 o2 : Obj} (hd : Drawn0 ((w.alloc o1).alloc o2) w1) : Below w.heap.size w w1 := by
 obtain ⟨n, rfl⟩ := hd.out
 exact pw_below_drewN (below_alloc (below_alloc (Below.refl _ _) _) _) _
def MidC (x : Mem) (A : Option Addr) (c : Nat) (wr w1 : World) (y : Cls) (v : Value) : Prop := Below (wr.heap.size + 1) (wr.alloc (.cells (memArr x A c) 43)) w1 ∧ w1.heap[wr.heap.size + 1]? = some (.cells (clsCells y v).toArray 51 (0, 0)) ∧ w1.heap.size = wr.heap.size + 2
theorem mid_call {x : Mem} {A : Option Addr} {c : Nat} {wr w1 : World} {y : Cls} {v : Value} (hd : Drawn0 ((wr.alloc (.cells (memArr x A c) 43)).alloc (.cells (clsCells y v).toArray 51)) w1) : MidC x A c wr w1 y v := by
 obtain ⟨n, rfl⟩ := hd.out
 have h0 := World.size_alloc wr (.cells (memArr x A c) 43)
 have h1 := World.size_alloc (wr.alloc (.cells (memArr x A c) 43)) (.cells (clsCells y v).toArray 51)
 have hb := pw_below_drewN (B := wr.heap.size + 2) (Below.refl _ ((wr.alloc (.cells (memArr x A c) 43)).alloc (.cells (clsCells y v).toArray 51))) n
 refine ⟨pw_below_drewN ((show Below (wr.heap.size + 1) (wr.alloc (.cells (memArr x A c) 43)) (wr.alloc (.cells (memArr x A c) 43)) from Below.refl _ _).alloc (by omega) _) _, ?_, ?_⟩
 ·refine (hb.block _ (by omega)).trans ?_
  have h2 := blk_new (wr.alloc (.cells (memArr x A c) 43)) (.cells (clsCells y v).toArray 51)
  rw [h0] at h2
  exact h2
 ·simp
theorem cls_box {w : World} {b : Nat} {y : Cls} {v : Value} (h : w.heap[b]? = some (.cells (clsCells y v).toArray 51 (0, 0))) : ∀ j u, (clsCells y v)[j]? = some u → w.cell? ⟨b, 0 + j, none⟩ = some u := by
 intro j u hu
 unfold World.cell?
 dsimp only
 rw [h, Nat.zero_add]
 simpa using hu
theorem mid_facts {x : Mem} {A : Option Addr} {c : Nat} {wr w1 : World} {y : Cls} {v : Value} (h : MidC x A c wr w1 y v) : w1.cell? ⟨wr.heap.size, 0, none⟩ = some (.string x.f0) ∧ w1.cell? ⟨wr.heap.size + 1, 0, none⟩ = some (.string y.f0.f0) ∧ w1.cell? ⟨wr.heap.size + 1, 1, none⟩ = some (.string y.f0.f1) ∧ w1.cell? ⟨wr.heap.size + 1, 2, none⟩ = some (.string y.f0.f2) ∧ w1.cell? ⟨wr.heap.size + 1, 3, none⟩ = some (.int .u8 y.f0.f3) ∧
  w1.cell? ⟨wr.heap.size + 1, 4, none⟩ = some (.int .i64 y.f0.f4.f0) ∧ w1.cell? ⟨wr.heap.size + 1, 5, none⟩ = some (.int .i64 y.f0.f4.f1) ∧ w1.cell? ⟨wr.heap.size + 1, 6, none⟩ = some (.int .i64 y.f0.f4.f2) ∧ w1.cell? ⟨wr.heap.size + 1, 7, none⟩ = some (.int .i64 y.f0.f4.f3) ∧ w1.cell? ⟨wr.heap.size + 1, 8, none⟩ = some v ∧ w1.cell? ⟨wr.heap.size + 1, 9, none⟩ = some (.int .i64 y.f1) ∧
  (∀ j, w1.frozen? ⟨wr.heap.size + 1, j, none⟩ = false) ∧ w1.frozen? ⟨wr.heap.size + 1, 0, none⟩ = false := by
 obtain ⟨z0, z1, z2, z3, z4, z5, z6, z7, z8, z9⟩ := cls_facts (cls_box h.2.1)
 have hs : ∀ j, w1.frozen? ⟨wr.heap.size + 1, j, none⟩ = false := by
  intro j
  unfold World.frozen?
  dsimp only
  rw [h.2.1]
  rfl
 refine ⟨?_, z0, z1, z2, z3, z4, z5, z6, z7, z8, z9, hs, hs 0⟩
 have h1 := (h.1.block wr.heap.size (Nat.lt_succ_self _)).trans (blk_new wr _)
 unfold World.cell?
 dsimp only
 rw [h1]
 rfl
theorem cls_chain {w : World} {b : Nat} {y q : Cls} {v u : Value} (p : ByteArray) (h : w.heap[b]? = some (.cells (clsCells y v).toArray 51 (0, 0))) :
  (((((((((((w.setCell ⟨b, 0, none⟩ (.string q.f0.f0)).setCell ⟨b, 1, none⟩ (.string q.f0.f1)).setCell ⟨b, 2, none⟩ (.string q.f0.f2)).setCell ⟨b, 3, none⟩ (.int .u8 q.f0.f3)).setCell ⟨b, 4, none⟩ (.int .i64 q.f0.f4.f0)).setCell ⟨b, 5, none⟩ (.int .i64 q.f0.f4.f1)).setCell ⟨b, 6, none⟩ (.int .i64 q.f0.f4.f2)).setCell ⟨b, 7, none⟩ (.int .i64 q.f0.f4.f3)).setCell ⟨b, 8, none⟩ (u)).setCell ⟨b, 9, none⟩ (.int .i64 q.f1)).setCell ⟨b, 0, none⟩ (.string p)).heap[b]? = some (.cells #[.string p, .string q.f0.f1, .string q.f0.f2, .int .u8 q.f0.f3, .int .i64 q.f0.f4.f0, .int .i64 q.f0.f4.f1, .int .i64 q.f0.f4.f2, .int .i64 q.f0.f4.f3, u, .int .i64 q.f1] 51 (0, 0)) := by
 have h : w.heap[b]? = some (.cells #[.string y.f0.f0, .string y.f0.f1, .string y.f0.f2, .int .u8 y.f0.f3, .int .i64 y.f0.f4.f0, .int .i64 y.f0.f4.f1, .int .i64 y.f0.f4.f2, .int .i64 y.f0.f4.f3, v, .int .i64 y.f1] 51 (0, 0)) := h
 have h := blk_put (cs' := #[.string q.f0.f0, .string y.f0.f1, .string y.f0.f2, .int .u8 y.f0.f3, .int .i64 y.f0.f4.f0, .int .i64 y.f0.f4.f1, .int .i64 y.f0.f4.f2, .int .i64 y.f0.f4.f3, v, .int .i64 y.f1]) h 0 (.string q.f0.f0) rfl
 have h := blk_put (cs' := #[.string q.f0.f0, .string q.f0.f1, .string y.f0.f2, .int .u8 y.f0.f3, .int .i64 y.f0.f4.f0, .int .i64 y.f0.f4.f1, .int .i64 y.f0.f4.f2, .int .i64 y.f0.f4.f3, v, .int .i64 y.f1]) h 1 (.string q.f0.f1) rfl
 have h := blk_put (cs' := #[.string q.f0.f0, .string q.f0.f1, .string q.f0.f2, .int .u8 y.f0.f3, .int .i64 y.f0.f4.f0, .int .i64 y.f0.f4.f1, .int .i64 y.f0.f4.f2, .int .i64 y.f0.f4.f3, v, .int .i64 y.f1]) h 2 (.string q.f0.f2) rfl
 have h := blk_put (cs' := #[.string q.f0.f0, .string q.f0.f1, .string q.f0.f2, .int .u8 q.f0.f3, .int .i64 y.f0.f4.f0, .int .i64 y.f0.f4.f1, .int .i64 y.f0.f4.f2, .int .i64 y.f0.f4.f3, v, .int .i64 y.f1]) h 3 (.int .u8 q.f0.f3) rfl
 have h := blk_put (cs' := #[.string q.f0.f0, .string q.f0.f1, .string q.f0.f2, .int .u8 q.f0.f3, .int .i64 q.f0.f4.f0, .int .i64 y.f0.f4.f1, .int .i64 y.f0.f4.f2, .int .i64 y.f0.f4.f3, v, .int .i64 y.f1]) h 4 (.int .i64 q.f0.f4.f0) rfl
 have h := blk_put (cs' := #[.string q.f0.f0, .string q.f0.f1, .string q.f0.f2, .int .u8 q.f0.f3, .int .i64 q.f0.f4.f0, .int .i64 q.f0.f4.f1, .int .i64 y.f0.f4.f2, .int .i64 y.f0.f4.f3, v, .int .i64 y.f1]) h 5 (.int .i64 q.f0.f4.f1) rfl
 have h := blk_put (cs' := #[.string q.f0.f0, .string q.f0.f1, .string q.f0.f2, .int .u8 q.f0.f3, .int .i64 q.f0.f4.f0, .int .i64 q.f0.f4.f1, .int .i64 q.f0.f4.f2, .int .i64 y.f0.f4.f3, v, .int .i64 y.f1]) h 6 (.int .i64 q.f0.f4.f2) rfl
 have h := blk_put (cs' := #[.string q.f0.f0, .string q.f0.f1, .string q.f0.f2, .int .u8 q.f0.f3, .int .i64 q.f0.f4.f0, .int .i64 q.f0.f4.f1, .int .i64 q.f0.f4.f2, .int .i64 q.f0.f4.f3, v, .int .i64 y.f1]) h 7 (.int .i64 q.f0.f4.f3) rfl
 have h := blk_put (cs' := #[.string q.f0.f0, .string q.f0.f1, .string q.f0.f2, .int .u8 q.f0.f3, .int .i64 q.f0.f4.f0, .int .i64 q.f0.f4.f1, .int .i64 q.f0.f4.f2, .int .i64 q.f0.f4.f3, u, .int .i64 y.f1]) h 8 (u) rfl
 have h := blk_put (cs' := #[.string q.f0.f0, .string q.f0.f1, .string q.f0.f2, .int .u8 q.f0.f3, .int .i64 q.f0.f4.f0, .int .i64 q.f0.f4.f1, .int .i64 q.f0.f4.f2, .int .i64 q.f0.f4.f3, u, .int .i64 q.f1]) h 9 (.int .i64 q.f1) rfl
 exact blk_put (cs' := #[.string p, .string q.f0.f1, .string q.f0.f2, .int .u8 q.f0.f3, .int .i64 q.f0.f4.f0, .int .i64 q.f0.f4.f1, .int .i64 q.f0.f4.f2, .int .i64 q.f0.f4.f3, u, .int .i64 q.f1]) h 0 (.string p) rfl
theorem take_filter {xs : List Cls} (f : Cls → Bool) {k : Nat} (h : k < xs.length) : (xs.take (k + 1)).filter f = (xs.take k).filter f ++ (if f xs[k] then [xs[k]] else []) := by
 rw [List.take_succ_eq_append_getElem h, List.filter_append, List.filter_cons, List.filter_nil]
theorem flt_grown {W w1 w2 : World} {row : Option Nat} (h : FltB W w1) (hg : w1.grownBy w2 row) (hne : some W.heap.size ≠ row) : FltB W w2 := (hg.block _ (blk_lt2 h) hne).trans h
set_option maxRecDepth 100000 in
set_option maxHeartbeats 8000000 in
theorem RFold_calls (A0 : Option Addr) (c0 : Nat) (l : List Mem) (W : World) (hC : Kd.C k43 W A0 l.length l) (hz : MemsZ l) :
  Calls Tryz.prog 9 #[.slice A0 l.length c0] W (RPost l W) := by
 have HC := Aside0.mk hC
 have HZ := Aside0.mk hz
 have hlen : (l.length : Int) ≤ 1000000000000 := by have := hz.1; omega
 clear hC hz
 generalize hpost : RPost l W = Q
 have hQ := Aside0.mk hpost
 clear hpost
 go_enter Tryz.func9, Tryz.ntmps9
 go_wp2
 go_loopw [4] (fun i wr => ∃ n : Int, i = .int .i64 n ∧ Aside0 (FR1 l W n wr)) (fun i _ => (l.length - (intOf i)).toNat)
 case atStart => exact ⟨0, rfl, ⟨⟨by omega, by omega, fun j hj h => absurd h (by omega), below_alloc (Below.refl _ _) _, blk_new W _⟩⟩⟩
 case round =>
  obtain ⟨n, rfl, HR⟩ := hrel
  have h0 := HR.out.1
  have h1 := HR.out.2.1
  have HB := Aside0.mk HR.out.2.2.2.1
  have HFB := Aside0.mk HR.out.2.2.2.2
  obtain ⟨f0, f1, f2, f3, f4⟩ := HR.out.2.2.2.2.facts
  by_cases hlt : n < (l.length : Int)
  ·have c1b : decide (n < (l.length : Int)) = true := decide_eq_true hlt
   have hnl : n.toNat < l.length := by omega
   obtain ⟨ad, A7, c7, rfl, x0, x1, x2, x3, x4, x5, x6, x7, hl7, hC7⟩ := at_T43 (Kd.C_below HC.out HB.out) n h0 hlt
   have hx := rdM_at l n h0 hlt
   have hxz : MemZ (rd_T43 l n) := by rw [hx]; exact HZ.out.2 _ (List.getElem_mem _)
   generalize rd_T43 l n = x at hx hxz x0 x1 x2 x3 x4 x5 x6 x7 hl7 hC7
   obtain ⟨kg, hkg⟩ := Ev.rounds (refGood_eq x hxz.r)
   cases hgd : goodM x with
   | true =>
    rw [hgd] at hkg
    have HX := Aside0.mk hx
    have HGD := Aside0.mk hgd
    have HKG := Aside0.mk hkg
    have HC7 := Aside0.mk hC7
    have HNL := Aside0.mk hnl
    clear hx hxz hC7 hkg hgd hnl
    go_wp2_with (go_at_call 18; refine (bindleref08_Good.calls kg x.f0 x.f1 x.f2 x.f3.f0 x.f3.f1 x.f3.f2 x.f3.f3 A7 c7 x.f4 true wr HC7.out hl7 HKG.out).mono ?_; rintro e w1 ⟨rfl, hb1⟩)
    have hfin : FR1 l W (n + 1) w1 := by
     refine ⟨by omega, by omega, fun j hj hjn => ?_, HB.out.trans (hb1.mono HB.out.size), HFB.out.below hb1⟩
     rcases Nat.lt_or_ge j n.toNat with h | h
     ·exact HR.out.2.2.1 j hj (by omega)
     ·obtain rfl : j = n.toNat := by omega
      rw [← HX.out]; exact HGD.out
    have HF := Aside0.mk hfin
    clear hfin hb1
    go_roundw
    case rel => exact ⟨n + 1, by go_num, HF⟩
    case measure => simp [intOf]; omega
   | false =>
    rw [hgd] at hkg
    have HX := Aside0.mk hx
    have HGD := Aside0.mk hgd
    have HKG := Aside0.mk hkg
    have HC7 := Aside0.mk hC7
    have HNL := Aside0.mk hnl
    clear hx hxz hC7 hkg hgd hnl
    go_wp2_with (go_at_call 18; refine (bindleref08_Good.calls kg x.f0 x.f1 x.f2 x.f3.f0 x.f3.f1 x.f3.f2 x.f3.f3 A7 c7 x.f4 false wr HC7.out hl7 HKG.out).mono ?_; rintro e w1 ⟨rfl, hb1⟩; obtain ⟨hc1, hf1⟩ := bcell hb1; have HB1 := Aside0.mk hb1; clear hb1)
    have hst := foldF_bad (find_bad HNL.out (fun k hk hkn => HR.out.2.2.1 k hk (by omega)) (by rw [← HX.out]; exact HGD.out))
    rw [Int.toNat_of_nonneg h0] at hst
    refine bodyPost_ret (v := .tuple #[.slice none 0 0, .agg #[.int .i64 1, .int .i64 n]]) (by simp [results, Tryz.results9, go_sem, hc1, hf1, f0, f1, f4]) rfl ?_
    rw [← hQ.out]
    refine ⟨.slice none 0 0, by rw [hst], by rw [hst]; exact Kd.V_nil _ _ _ _ _, ?_⟩
    repeat (with_reducible refine below_put ?_ _ _ (Nat.le_refl _) _)
    exact HB.out.trans (HB1.out.mono HB.out.size)
  ·have c1b : decide (n < (l.length : Int)) = false := decide_eq_false hlt
   have hok := find_ok (l := l) (fun k hk => HR.out.2.2.1 k hk (by omega))
   have HOK := Aside0.mk hok
   have hstart : FR2 l W 0 (.slice none 0 0) wr := ⟨by omega, by omega, ⟨[], rfl, FInv.start l, Kd.N_nil _ _ _ _ _⟩, HB.out, HFB.out⟩
   have HST := Aside0.mk hstart
   clear hstart hok f0 f1 f2 f3 f4
   go_wp2
   clear hlt c1b
   go_loopw [6, 5] (fun i o wr => ∃ n : Int, i = .int .i64 n ∧ Aside0 (FR2 l W n o wr)) (fun i _ _ => (l.length - (intOf i)).toNat)
   case atStart => exact ⟨0, rfl, HST⟩
   case round =>
    obtain ⟨n, rfl, HR⟩ := hrel
    have h0 := HR.out.1
    have h1 := HR.out.2.1
    obtain ⟨s, hs, hI, hN⟩ := HR.out.2.2.1
    have HB := Aside0.mk HR.out.2.2.2.1
    have HFB := Aside0.mk HR.out.2.2.2.2
    obtain ⟨f0, f1, f2, f3, f4⟩ := HR.out.2.2.2.2.facts
    have hsl : s.length ≤ 1000000000000 := by have := hI.len; omega
    generalize hxs : s.map (clsOf l) = xs at hN
    have hxl : xs.length = s.length := by rw [← hxs, List.length_map]
    obtain ⟨Al, cl, rfl⟩ := Kd.N_slice hN
    have hxI : (xs.length : Int) ≤ 1000000000000 := by omega
    have HS := Aside0.mk hs
    have HI := Aside0.mk hI
    have HXS := Aside0.mk hxs
    have HXL := Aside0.mk hxl
    have HNN := Aside0.mk (Kd.N_mono (Kd.N_bound hN) (ok' := fun k => k < wr.heap.size) (fun k hk => hk.2))
    clear hs hI hxs hxl hN hsl
    by_cases hlt : n < (l.length : Int)
    ·have c1b : decide (n < (l.length : Int)) = true := decide_eq_true hlt
     have hnl : n.toNat < l.length := by omega
     obtain ⟨ad, A7, c7, rfl, x0, x1, x2, x3, x4, x5, x6, x7, hl7, hC7⟩ := at_T43 (Kd.C_below HC.out HB.out) n h0 hlt
     have hx := rdM_at l n h0 hlt
     have hxz : MemZ (rd_T43 l n) := by rw [hx]; exact HZ.out.2 _ (List.getElem_mem _)
     have hxg : goodM (rd_T43 l n) = true := by rw [hx]; exact all_good HOK.out (List.getElem_mem _)
     have hst := stepF_eq l s n.toNat hnl
     have hgd : l.getD n.toNat zM = l[n.toNat] := by rw [List.getD_eq_getElem?_getD, List.getElem?_eq_getElem hnl]; rfl
     rw [← hx] at hst hgd
     have HLX : Aside0 (l[n.toNat]? = some (rd_T43 l n)) := ⟨by rw [hx]; exact List.getElem?_eq_getElem hnl⟩
     generalize rd_T43 l n = x at hx hxz hxg x0 x1 x2 x3 x4 x5 x6 x7 hl7 hC7 hst hgd HLX
     have HXZ := Aside0.mk hxz
     have HXG := Aside0.mk hxg
     have HSTEP := Aside0.mk hst
     have HGD := Aside0.mk hgd
     have HC7 := Aside0.mk hC7
     have HNL := Aside0.mk hnl
     have HL7 : Aside0 (x.f4.length ≤ c7) := ⟨hl7⟩
     clear hx hxz hxg hst hgd hC7 hnl hl7
     by_cases h49 : x.f2 = 49
     ·have e49 : (x.f2 == 49) = true := beq_iff_eq.2 h49
      have H49 := Aside0.mk h49
      clear h49
      have hat : (atD s x.f1.data.toList = none ∧ idxC xs x.f1 = -1) ∨ ∃ (i : Nat) (hi : i < s.length), idxC xs x.f1 = (i : Int) ∧ atD s x.f1.data.toList = some (s[i]'hi).2 := by
       rw [← HXS.out]
       exact idx_at HI.out.nodup x.f1
      obtain ⟨kg, hkg⟩ := Ev.rounds (at_eq xs x.f1 (by omega))
      generalize idxC xs x.f1 = j at hkg hat
      have HKG := Aside0.mk hkg
      have hCX := Kd.N_reads' HNN.out
      have HCX : Aside0 (∀ o1 o2, Kd.C k51 ((wr.alloc o1).alloc o2) Al xs.length xs) := ⟨fun o1 o2 => Kd.C_alloc (Kd.C_alloc hCX.2.2 o1) o2⟩
      have HCL := Aside0.mk hCX.2.1
      clear hkg hCX
      rcases hat with ⟨hno, rfl⟩ | ⟨i, hi, rfl, hso⟩
      ·have hst := HSTEP.out
       rw [if_pos H49.out, hno] at hst
       have hst2 := foldF_stop HOK.out HNL.out HS.out hst
       rw [Int.toNat_of_nonneg h0] at hst2
       have HST2 := Aside0.mk hst2
       clear hno hst hst2
       go_wp2_with (go_at_call 19; refine (bindleref08_at.calls kg Al cl xs x.f1 (-1) _ (HCX.out _ _) HCL.out HKG.out).mono ?_; rintro e w1 ⟨rfl, hd⟩; have hb1 : Below wr.heap.size wr w1 := drawn2 hd; have HB1 := Aside0.mk hb1; obtain ⟨g0, g1, g2, g3, g4⟩ := (HFB.out.below hb1).facts; clear hb1 hd)
       refine bodyPost_ret (v := .tuple #[.slice none 0 0, .agg #[.int .i64 7, .int .i64 n]]) (by simp [results, Tryz.results9, go_sem, g0, g1, g4]) rfl ?_
       rw [← hQ.out]
       refine ⟨.slice none 0 0, by rw [HST2.out], by rw [HST2.out]; exact Kd.V_nil _ _ _ _ _, ?_⟩
       repeat (with_reducible refine below_put ?_ _ _ (Nat.le_refl _) _)
       exact HB.out.trans (HB1.out.mono HB.out.size)
      ·obtain ⟨m, hlm, _⟩ := (HI.out.cls _ (List.getElem_mem hi)).2
       have hxl2 := HXL.out
       have hix : i < xs.length := by omega
       have hgc : xs[i] = clsOf l s[i] := by
        have h := HXS.out
        subst h
        rw [List.getElem_map]
       have hf3 : xs[i].f0.f3 = m.f2 := by
        rw [hgc]
        unfold clsOf
        dsimp only
        rw [List.getD_eq_getElem?_getD, hlm]
        rfl
       have hst := HSTEP.out
       rw [if_pos H49.out, hso] at hst
       dsimp only at hst
       rw [hlm] at hst
       dsimp only at hst
       obtain ⟨g, cap, he, _, _, _⟩ := Kd.N_form HNN.out (by omega)
       cases he
       have hbig : (i : Int) ≤ 1000000000000 := by omega
       have hi0 : (0 : Int) ≤ (i : Int) := Int.natCast_nonneg i
       have hiL : (i : Int) < (xs.length : Int) := by omega
       have hin : decide ((i : Int) < 0) = false := decide_eq_false (by omega)
       have hCE := cls_elem HNN.out i hix rfl
       generalize xs[i] = q at hCE hgc hf3
       have HGC := Aside0.mk hgc
       obtain ⟨Aq, cq, hq2, _, hqc, hqF, _⟩ := hCE
       have HQ2 := Aside0.mk hq2
       have HQC := Aside0.mk hqc
       have HQF := Aside0.mk (Kd.F_mono hqF (fun k hk => hk.1))
       clear hq2 hqc hqF
       clear hso hgc hlm hix hxl2
       by_cases h48 : m.f2 = 48
       ·have e48 : (q.f0.f3 == 48) = true := by rw [hf3]; exact beq_iff_eq.2 h48
        have e48b : (q.f0.f3 != 48) = false := by rw [bne, e48]; rfl
        rw [if_pos h48] at hst
        have HS2 := Aside0.mk hst
        clear hst hf3 h48
        go_wp2_with (go_at_call 19; refine (bindleref08_at.calls kg (some ⟨g, 0, none⟩) cl xs x.f1 (i : Int) _ (HCX.out _ _) HCL.out HKG.out).mono ?_; rintro e w1 ⟨rfl, hd⟩; have hb1 : Below wr.heap.size wr w1 := drawn2 hd; have hmc := mid_call (x := x) (A := A7) (c := c7) (y := ⟨⟨x.f0, x.f1, emp, x.f2, x.f3, x.f4⟩, n⟩) hd; obtain ⟨q0, q1, q2, q3, q4, q5, q6, q7, q8, q9⟩ := cls_facts (fun j u h => gkeep hb1 (HQ2.out j u h)); obtain ⟨m0, n0, n1, n2, n3, n4, n5, n6, n7, n8, n9, soft, soft0⟩ := mid_facts hmc; have HMC := Aside0.mk hmc; clear hb1 hd hmc)
        generalize hwz : World.setCell _ ⟨wr.heap.size + 1, 0, none⟩ (.string x.f0) = wz
        obtain ⟨cc, hcc⟩ : ∃ cc, cc = (s[i]'hi).2 := ⟨_, rfl⟩
        obtain ⟨y, hy⟩ : ∃ y, y = clsOf l (x.f0, cc) := ⟨_, rfl⟩
        have hmid : RMid x A7 c7 wr wz y Aq cq := by
         have hq := HGC.out
         have h5 : y.f0.f5 = q.f0.f5 := by rw [hq, hy, hcc]; rfl
         refine ⟨?_, ?_, ?_, by rw [h5]; exact HQC.out, by rw [h5]; exact HQF.out⟩
         ·rw [← hwz]
          repeat (with_reducible refine below_put ?_ _ _ (Nat.le_refl _) _)
          exact HMC.out.1
         ·rw [← hwz]
          refine (cls_chain x.f0 HMC.out.2.1).trans ?_
          have h5' := h5
          rw [hq, hy, hcc]
          rfl
         ·rw [← hwz]
          simp only [World.size_setCell]
          exact HMC.out.2.2
        have hs2 : stepF l s n.toNat = some (putP s x.f0 cc) := by rw [hcc]; exact HS2.out
        clear HS2
        have HS2 := Aside0.mk hs2
        have HYE := Aside0.mk hy
        obtain ⟨Ay, cy, HMID⟩ : ∃ Ay cy, Aside0 (RMid x A7 c7 wr wz y Ay cy) := ⟨_, _, ⟨hmid⟩⟩
        clear hmid hwz hy hcc hs2 q0 q1 q2 q3 q4 q5 q6 q7 q8 q9 m0 n0 n1 n2 n3 n4 n5 n6 n7 n8 n9 soft soft0 HQ2 HQC HQF HGC e48 e48b HMC
        try go_wp2
        obtain ⟨w0, rfl⟩ : ∃ w0, w0 = wr := ⟨_, rfl⟩
        have HMZ : Aside0 (wz.heap.size = w0.heap.size + 2) := ⟨HMID.out.2.2.1⟩
        go_loopw [11, 10] (fun i o wr => ∃ k : Int, i = .int .i64 k ∧ Aside0 (FR3 xs x.f0 wz k o wr)) (fun i _ _ => (xs.length - (intOf i)).toNat)
        case atStart => exact ⟨0, rfl, ⟨⟨by omega, by omega, Below.refl _ _, Kd.N_nil _ _ _ _ _⟩⟩⟩
        case round =>
         obtain ⟨k, rfl, HR3⟩ := hrel
         have k0 := HR3.out.1
         have k1 := HR3.out.2.1
         have HB3 := Aside0.mk HR3.out.2.2.1
         have hN3 := HR3.out.2.2.2
         generalize hys : List.filter _ (List.take k.toNat xs) = ys at hN3
         have hyl : ys.length ≤ xs.length := by
          rw [← hys]
          exact Nat.le_trans (List.length_filter_le _ _) (by rw [List.length_take]; omega)
         obtain ⟨Ao, co, rfl⟩ := Kd.N_slice hN3
         have HOB := Aside0.mk (Kd.N_base hN3)
         have HO := Aside0.mk hN3
         have HYS := Aside0.mk hys
         have HYL := Aside0.mk hyl
         have HWW : Aside0 (Below w0.heap.size w0 wr) := ⟨HMID.out.below.trans (HB3.out.mono HMID.out.below.size)⟩
         clear hN3 hys hyl
         by_cases hlt3 : k < (xs.length : Int)
         ·have c2b : decide (k < (xs.length : Int)) = true := decide_eq_true hlt3
          have hkl : k.toNat < xs.length := by omega
          obtain ⟨g, cap, he, _, _, _⟩ := Kd.N_form HNN.out (by omega)
          cases he
          obtain ⟨Ak, ck, hk2, _, hkc, hkF, hkK⟩ := cls_elem (Kd.N_below HNN.out HWW.out) k.toNat hkl rfl
          have htf := take_filter (fun y' => !decide (y'.f0.f0.toList = x.f0.toList)) hkl
          generalize xs[k.toNat] = q at hk2 hkc hkF hkK htf
          obtain ⟨q0, q1, q2, q3, q4, q5, q6, q7, q8, q9⟩ := cls_facts hk2
          have m0 := gkeep HB3.out HMID.out.facts.1
          have HTF := Aside0.mk htf
          have HKC := Aside0.mk hkc
          have HKK := Aside0.mk hkK
          clear htf hkc hkK hkF hk2
          by_cases hpe : q.f0.f0.toList = x.f0.toList
          ·have e1 : (q.f0.f0.toList == x.f0.toList) = true := beq_iff_eq.2 hpe
           have HPE := Aside0.mk hpe
           clear hpe
           go_upto_region 22 with (fail)
           go_quiet (fail)
           have hfin : FR3 xs x.f0 wz (k + 1) (.slice Ao ys.length co) (wr.drewN nq) := by
            refine ⟨by omega, by omega, HB3.out.trans (pw_below_drewN (Below.refl _ _) _), ?_⟩
            have e2 := HTF.out
            rw [HYS.out] at e2
            rw [show (k + 1).toNat = k.toNat + 1 from by omega, e2]
            simp only [HPE.out, decide_true, Bool.not_true, Bool.false_eq_true, if_false, List.append_nil]
            exact Kd.N_drewN HO.out _
           have HF := Aside0.mk hfin
           clear hfin
           go_wp2
           go_roundw
           case rel => exact ⟨k + 1, by go_num, HF⟩
           case measure => simp [intOf]; omega
          ·have e1 : (q.f0.f0.toList == x.f0.toList) = false := beq_eq_false_iff_ne.2 hpe
           have HPE := Aside0.mk hpe
           clear hpe
           go_upto_region 22 with (fail)
           go_quiet (fail)
           generalize hw5 : World.drewN wr nq = w5
           have hb5 : Below wr.heap.size wr w5 := by rw [← hw5]; exact pw_below_drewN (Below.refl _ _) _
           have HB5 := Aside0.mk hb5
           have HK5 := Aside0.mk (Kd.FK_below HKK.out hb5)
           have p0 := gkeep hb5 q0
           have p1 := gkeep hb5 q1
           have p2 := gkeep hb5 q2
           have p3 := gkeep hb5 q3
           have p4 := gkeep hb5 q4
           have p5 := gkeep hb5 q5
           have p6 := gkeep hb5 q6
           have p7 := gkeep hb5 q7
           have p8 := gkeep hb5 q8
           have p9 := gkeep hb5 q9
           have HW5 := Aside0.mk hw5
           clear hb5 hw5 q0 q1 q2 q3 q4 q5 q6 q7 q8 q9
           go_wp2_with (at_builtin; refine Kd.N_append k51 (w0 := wz) wz.heap.size rfl (.tmp 92) (.tmp 97) 47 51 (.agg #[.string ⟨#[]⟩, .string ⟨#[]⟩, .string ⟨#[]⟩, .int .u8 0, .int .i64 0, .int .i64 0, .int .i64 0, .int .i64 0, .slice none 0 0, .int .i64 0]) 120 rfl Tryz.underlying47 infoCls rfl (by decide) (by decide) (.slice Ao ys.length co) ys q [.string q.f0.f0, .string q.f0.f1, .string q.f0.f2, .int .u8 q.f0.f3, .int .i64 q.f0.f4.f0, .int .i64 q.f0.f4.f1, .int .i64 q.f0.f4.f2, .int .i64 q.f0.f4.f3, .slice Ak q.f0.f5.length ck, .int .i64 q.f1] (fun _ => True) (fun k' => k' < w0.heap.size ∧ k' ≠ g) rfl rfl HK5.out (fun k' hk => ⟨trivial, fun e => by have h1 := HOB.out k' e.symm; have h2 := HMZ.out; omega⟩) (fun _ _ => trivial) (Kd.N_below HO.out HB5.out) (HB3.out.trans (HB5.out.mono HB3.out.size)) (Nat.le_trans HB3.out.size HB5.out.size) (by have := HYL.out; omega) ?_; intro v6 w6 hN6 hB6 hg6 hat6; have HN6 := Aside0.mk hN6; have HB6 := Aside0.mk hB6; clear hN6 hB6 hg6 hat6)
           have hfin : FR3 xs x.f0 wz (k + 1) v6 w6 := by
            refine ⟨by omega, by omega, HB6.out, ?_⟩
            have e2 := HTF.out
            rw [HYS.out] at e2
            rw [show (k + 1).toNat = k.toNat + 1 from by omega, e2]
            simp only [HPE.out, decide_false, Bool.not_false, if_true]
            exact HN6.out
           have HF := Aside0.mk hfin
           clear hfin HN6 HB6
           go_roundw
           case rel => exact ⟨k + 1, by go_num, HF⟩
           case measure => simp [intOf]; omega
         ·have c2b : decide (k < (xs.length : Int)) = false := decide_eq_false hlt3
          have hfull : ys = xs.filter (fun y' => !decide (y'.f0.f0.toList = x.f0.toList)) := by rw [← HYS.out, List.take_of_length_le (by omega)]
          have hbx := HMID.out.facts.2
          have b0 := gkeep HB3.out (hbx 0 _ rfl)
          have b1 := gkeep HB3.out (hbx 1 _ rfl)
          have b2 := gkeep HB3.out (hbx 2 _ rfl)
          have b3 := gkeep HB3.out (hbx 3 _ rfl)
          have b4 := gkeep HB3.out (hbx 4 _ rfl)
          have b5 := gkeep HB3.out (hbx 5 _ rfl)
          have b6 := gkeep HB3.out (hbx 6 _ rfl)
          have b7 := gkeep HB3.out (hbx 7 _ rfl)
          have b8 := gkeep HB3.out (hbx 8 _ rfl)
          have b9 := gkeep HB3.out (hbx 9 _ rfl)
          have HFULL := Aside0.mk hfull
          have HFK := Aside0.mk (k51_mkF wr _ y HMID.out.2.2.2.1 (Kd.F_below HMID.out.2.2.2.2 HWW.out))
          clear hfull hbx
          go_wp2_with (at_builtin; refine Kd.N_append k51 (w0 := W) W.heap.size rfl (.tmp 99) (.tmp 101) 47 51 (.agg #[.string ⟨#[]⟩, .string ⟨#[]⟩, .string ⟨#[]⟩, .int .u8 0, .int .i64 0, .int .i64 0, .int .i64 0, .int .i64 0, .slice none 0 0, .int .i64 0]) 120 rfl Tryz.underlying47 infoCls rfl (by decide) (by decide) (.slice Ao ys.length co) ys y [.string y.f0.f0, .string y.f0.f1, .string y.f0.f2, .int .u8 y.f0.f3, .int .i64 y.f0.f4.f0, .int .i64 y.f0.f4.f1, .int .i64 y.f0.f4.f2, .int .i64 y.f0.f4.f3, .slice Ay y.f0.f5.length cy, .int .i64 y.f1] (fun _ => True) (fun k' => k' < w0.heap.size) rfl rfl HFK.out (fun k' hk => ⟨trivial, fun e => by have h1 := HOB.out k' e.symm; have h2 := HMZ.out; omega⟩) (fun _ _ => trivial) (Kd.N_lower HO.out (Nat.le_trans HB.out.size HMID.out.below.size)) (HB.out.trans (HWW.out.mono HB.out.size)) (Nat.le_trans HB.out.size HWW.out.size) (by have := HYL.out; omega) ?_; intro v6 w6 hN6 hB6 hg6 hat6; have HN6 := Aside0.mk hN6; have HB6 := Aside0.mk hB6; have HG6 := Aside0.mk hg6; clear hN6 hB6 hg6 hat6)
          have hfin : FR2 l W (n + 1) v6 w6 := by
           refine ⟨by omega, by omega, ⟨putP s x.f0 cc, ?_, ?_, ?_⟩, HB6.out, ?_⟩
           ·rw [show (n + 1).toNat = n.toNat + 1 from by omega, stepsF_succ HS.out]; exact HS2.out
           ·rw [show (n + 1).toNat = n.toNat + 1 from by omega]
            have hlx := (List.getElem?_eq_some_iff.1 HLX.out).2
            exact HI.out.step HNL.out (by rw [hlx]; exact good_path HXG.out) (by rw [hlx]; exact HXZ.out.1) HS2.out
           ·have e3 := HN6.out
            rw [HFULL.out, ← HXS.out, HYE.out, names_next] at e3
            exact e3
           ·refine flt_grown (HFB.out.below HWW.out) HG6.out (fun e => ?_)
            have h1 := HOB.out _ e.symm
            have h2 := HMZ.out
            have h3 := HFB.out.facts.2.2.2.2
            omega
          have HF := Aside0.mk hfin
          clear hfin HN6 HB6 HG6
          go_roundw
          case rel => exact ⟨n + 1, by go_num, HF⟩
          case measure => simp [intOf]; omega
       ·have e48 : (q.f0.f3 == 48) = false := by rw [hf3]; exact beq_eq_false_iff_ne.2 h48
        have e48b : (q.f0.f3 != 48) = true := by rw [bne, e48]; rfl
        rw [if_neg h48] at hst
        have hst2 := foldF_stop HOK.out HNL.out HS.out hst
        rw [Int.toNat_of_nonneg h0] at hst2
        have HST2 := Aside0.mk hst2
        clear hst hst2 h48 hf3
        go_wp2_with (go_at_call 19; refine (bindleref08_at.calls kg (some ⟨g, 0, none⟩) cl xs x.f1 (i : Int) _ (HCX.out _ _) HCL.out HKG.out).mono ?_; rintro e w1 ⟨rfl, hd⟩; have hb1 : Below wr.heap.size wr w1 := drawn2 hd; have HB1 := Aside0.mk hb1; obtain ⟨g0, g1, g2, g3, g4⟩ := (HFB.out.below hb1).facts; obtain ⟨q0, q1, q2, q3, q4, q5, q6, q7, q8, q9⟩ := cls_facts (fun j u h => gkeep hb1 (HQ2.out j u h)); clear hb1 hd)
        refine bodyPost_ret (v := .tuple #[.slice none 0 0, .agg #[.int .i64 7, .int .i64 n]]) (by simp [results, Tryz.results9, go_sem, g0, g1, g4]) rfl ?_
        rw [← hQ.out]
        refine ⟨.slice none 0 0, by rw [HST2.out], by rw [HST2.out]; exact Kd.V_nil _ _ _ _ _, ?_⟩
        repeat (with_reducible refine below_put ?_ _ _ (Nat.le_refl _) _)
        exact HB.out.trans (HB1.out.mono HB.out.size)
     ·have e49 : (x.f2 == 49) = false := beq_eq_false_iff_ne.2 h49
      have hst2 := HSTEP.out
      rw [if_neg h49] at hst2
      have HS2 := Aside0.mk hst2
      clear h49 hst2
      go_upto_region 18 with (fail)
      generalize hy : (⟨⟨x.f0, x.f1, emp, x.f2, x.f3, x.f4⟩, n⟩ : Cls) = y
      have hye : y = clsOf l (x.f0, n.toNat) := by
       rw [← hy]
       unfold clsOf
       rw [HGD.out, Int.toNat_of_nonneg h0]
      generalize hwz : World.alloc (World.alloc _ _) _ = wz
      have hmid : RMid x A7 c7 wr wz y A7 c7 := by
       rw [← hwz, ← hy]
       refine ⟨?_, ?_, ?_, HL7.out, Kd.C_F (Kd.heap_int _) HC7.out⟩
       ·exact (show Below (wr.heap.size + 1) (wr.alloc (.cells (memArr x A7 c7) 43)) (wr.alloc (.cells (memArr x A7 c7) 43)) from Below.refl _ _).alloc (by rw [World.size_alloc]; exact Nat.le_refl _) _
       ·have := blk_new (wr.alloc (.cells (memArr x A7 c7) 43)) (.cells (clsCells ⟨⟨x.f0, x.f1, emp, x.f2, x.f3, x.f4⟩, n⟩ (.slice A7 x.f4.length c7)).toArray 51)
        rw [World.size_alloc] at this
        exact this
       ·rw [World.size_alloc, World.size_alloc]
      have HMID := Aside0.mk hmid
      obtain ⟨cc, HS2, HYE, Ay, cy, HMID⟩ : ∃ cc, Aside0 (stepF l s n.toNat = some (putP s x.f0 cc)) ∧ Aside0 (y = clsOf l (x.f0, cc)) ∧ ∃ Ay cy, Aside0 (RMid x A7 c7 wr wz y Ay cy) := ⟨_, HS2, ⟨hye⟩, _, _, ⟨hmid⟩⟩
      clear hmid hye hy hwz
      try go_wp2
      obtain ⟨w0, rfl⟩ : ∃ w0, w0 = wr := ⟨_, rfl⟩
      have HMZ : Aside0 (wz.heap.size = w0.heap.size + 2) := ⟨HMID.out.2.2.1⟩
      go_loopw [11, 10] (fun i o wr => ∃ k : Int, i = .int .i64 k ∧ Aside0 (FR3 xs x.f0 wz k o wr)) (fun i _ _ => (xs.length - (intOf i)).toNat)
      case atStart => exact ⟨0, rfl, ⟨⟨by omega, by omega, Below.refl _ _, Kd.N_nil _ _ _ _ _⟩⟩⟩
      case round =>
       obtain ⟨k, rfl, HR3⟩ := hrel
       have k0 := HR3.out.1
       have k1 := HR3.out.2.1
       have HB3 := Aside0.mk HR3.out.2.2.1
       have hN3 := HR3.out.2.2.2
       generalize hys : List.filter _ (List.take k.toNat xs) = ys at hN3
       have hyl : ys.length ≤ xs.length := by
        rw [← hys]
        exact Nat.le_trans (List.length_filter_le _ _) (by rw [List.length_take]; omega)
       obtain ⟨Ao, co, rfl⟩ := Kd.N_slice hN3
       have HOB := Aside0.mk (Kd.N_base hN3)
       have HO := Aside0.mk hN3
       have HYS := Aside0.mk hys
       have HYL := Aside0.mk hyl
       have HWW : Aside0 (Below w0.heap.size w0 wr) := ⟨HMID.out.below.trans (HB3.out.mono HMID.out.below.size)⟩
       clear hN3 hys hyl
       by_cases hlt3 : k < (xs.length : Int)
       ·have c2b : decide (k < (xs.length : Int)) = true := decide_eq_true hlt3
        have hkl : k.toNat < xs.length := by omega
        obtain ⟨g, cap, he, _, _, _⟩ := Kd.N_form HNN.out (by omega)
        cases he
        obtain ⟨Ak, ck, hk2, _, hkc, hkF, hkK⟩ := cls_elem (Kd.N_below HNN.out HWW.out) k.toNat hkl rfl
        have htf := take_filter (fun y' => !decide (y'.f0.f0.toList = x.f0.toList)) hkl
        generalize xs[k.toNat] = q at hk2 hkc hkF hkK htf
        obtain ⟨q0, q1, q2, q3, q4, q5, q6, q7, q8, q9⟩ := cls_facts hk2
        have m0 := gkeep HB3.out HMID.out.facts.1
        have HTF := Aside0.mk htf
        have HKC := Aside0.mk hkc
        have HKK := Aside0.mk hkK
        clear htf hkc hkK hkF hk2
        by_cases hpe : q.f0.f0.toList = x.f0.toList
        ·have e1 : (q.f0.f0.toList == x.f0.toList) = true := beq_iff_eq.2 hpe
         have HPE := Aside0.mk hpe
         clear hpe
         go_upto_region 22 with (fail)
         go_quiet (fail)
         have hfin : FR3 xs x.f0 wz (k + 1) (.slice Ao ys.length co) (wr.drewN nq) := by
          refine ⟨by omega, by omega, HB3.out.trans (pw_below_drewN (Below.refl _ _) _), ?_⟩
          have e2 := HTF.out
          rw [HYS.out] at e2
          rw [show (k + 1).toNat = k.toNat + 1 from by omega, e2]
          simp only [HPE.out, decide_true, Bool.not_true, Bool.false_eq_true, if_false, List.append_nil]
          exact Kd.N_drewN HO.out _
         have HF := Aside0.mk hfin
         clear hfin
         go_wp2
         go_roundw
         case rel => exact ⟨k + 1, by go_num, HF⟩
         case measure => simp [intOf]; omega
        ·have e1 : (q.f0.f0.toList == x.f0.toList) = false := beq_eq_false_iff_ne.2 hpe
         have HPE := Aside0.mk hpe
         clear hpe
         go_upto_region 22 with (fail)
         go_quiet (fail)
         generalize hw5 : World.drewN wr nq = w5
         have hb5 : Below wr.heap.size wr w5 := by rw [← hw5]; exact pw_below_drewN (Below.refl _ _) _
         have HB5 := Aside0.mk hb5
         have HK5 := Aside0.mk (Kd.FK_below HKK.out hb5)
         have p0 := gkeep hb5 q0
         have p1 := gkeep hb5 q1
         have p2 := gkeep hb5 q2
         have p3 := gkeep hb5 q3
         have p4 := gkeep hb5 q4
         have p5 := gkeep hb5 q5
         have p6 := gkeep hb5 q6
         have p7 := gkeep hb5 q7
         have p8 := gkeep hb5 q8
         have p9 := gkeep hb5 q9
         have HW5 := Aside0.mk hw5
         clear hb5 hw5 q0 q1 q2 q3 q4 q5 q6 q7 q8 q9
         go_wp2_with (at_builtin; refine Kd.N_append k51 (w0 := wz) wz.heap.size rfl (.tmp 92) (.tmp 97) 47 51 (.agg #[.string ⟨#[]⟩, .string ⟨#[]⟩, .string ⟨#[]⟩, .int .u8 0, .int .i64 0, .int .i64 0, .int .i64 0, .int .i64 0, .slice none 0 0, .int .i64 0]) 120 rfl Tryz.underlying47 infoCls rfl (by decide) (by decide) (.slice Ao ys.length co) ys q [.string q.f0.f0, .string q.f0.f1, .string q.f0.f2, .int .u8 q.f0.f3, .int .i64 q.f0.f4.f0, .int .i64 q.f0.f4.f1, .int .i64 q.f0.f4.f2, .int .i64 q.f0.f4.f3, .slice Ak q.f0.f5.length ck, .int .i64 q.f1] (fun _ => True) (fun k' => k' < w0.heap.size ∧ k' ≠ g) rfl rfl HK5.out (fun k' hk => ⟨trivial, fun e => by have h1 := HOB.out k' e.symm; have h2 := HMZ.out; omega⟩) (fun _ _ => trivial) (Kd.N_below HO.out HB5.out) (HB3.out.trans (HB5.out.mono HB3.out.size)) (Nat.le_trans HB3.out.size HB5.out.size) (by have := HYL.out; omega) ?_; intro v6 w6 hN6 hB6 hg6 hat6; have HN6 := Aside0.mk hN6; have HB6 := Aside0.mk hB6; clear hN6 hB6 hg6 hat6)
         have hfin : FR3 xs x.f0 wz (k + 1) v6 w6 := by
          refine ⟨by omega, by omega, HB6.out, ?_⟩
          have e2 := HTF.out
          rw [HYS.out] at e2
          rw [show (k + 1).toNat = k.toNat + 1 from by omega, e2]
          simp only [HPE.out, decide_false, Bool.not_false, if_true]
          exact HN6.out
         have HF := Aside0.mk hfin
         clear hfin HN6 HB6
         go_roundw
         case rel => exact ⟨k + 1, by go_num, HF⟩
         case measure => simp [intOf]; omega
       ·have c2b : decide (k < (xs.length : Int)) = false := decide_eq_false hlt3
        have hfull : ys = xs.filter (fun y' => !decide (y'.f0.f0.toList = x.f0.toList)) := by rw [← HYS.out, List.take_of_length_le (by omega)]
        have hbx := HMID.out.facts.2
        have b0 := gkeep HB3.out (hbx 0 _ rfl)
        have b1 := gkeep HB3.out (hbx 1 _ rfl)
        have b2 := gkeep HB3.out (hbx 2 _ rfl)
        have b3 := gkeep HB3.out (hbx 3 _ rfl)
        have b4 := gkeep HB3.out (hbx 4 _ rfl)
        have b5 := gkeep HB3.out (hbx 5 _ rfl)
        have b6 := gkeep HB3.out (hbx 6 _ rfl)
        have b7 := gkeep HB3.out (hbx 7 _ rfl)
        have b8 := gkeep HB3.out (hbx 8 _ rfl)
        have b9 := gkeep HB3.out (hbx 9 _ rfl)
        have HFULL := Aside0.mk hfull
        have HFK := Aside0.mk (k51_mkF wr _ y HMID.out.2.2.2.1 (Kd.F_below HMID.out.2.2.2.2 HWW.out))
        clear hfull hbx
        go_wp2_with (at_builtin; refine Kd.N_append k51 (w0 := W) W.heap.size rfl (.tmp 99) (.tmp 101) 47 51 (.agg #[.string ⟨#[]⟩, .string ⟨#[]⟩, .string ⟨#[]⟩, .int .u8 0, .int .i64 0, .int .i64 0, .int .i64 0, .int .i64 0, .slice none 0 0, .int .i64 0]) 120 rfl Tryz.underlying47 infoCls rfl (by decide) (by decide) (.slice Ao ys.length co) ys y [.string y.f0.f0, .string y.f0.f1, .string y.f0.f2, .int .u8 y.f0.f3, .int .i64 y.f0.f4.f0, .int .i64 y.f0.f4.f1, .int .i64 y.f0.f4.f2, .int .i64 y.f0.f4.f3, .slice Ay y.f0.f5.length cy, .int .i64 y.f1] (fun _ => True) (fun k' => k' < w0.heap.size) rfl rfl HFK.out (fun k' hk => ⟨trivial, fun e => by have h1 := HOB.out k' e.symm; have h2 := HMZ.out; omega⟩) (fun _ _ => trivial) (Kd.N_lower HO.out (Nat.le_trans HB.out.size HMID.out.below.size)) (HB.out.trans (HWW.out.mono HB.out.size)) (Nat.le_trans HB.out.size HWW.out.size) (by have := HYL.out; omega) ?_; intro v6 w6 hN6 hB6 hg6 hat6; have HN6 := Aside0.mk hN6; have HB6 := Aside0.mk hB6; have HG6 := Aside0.mk hg6; clear hN6 hB6 hg6 hat6)
        have hfin : FR2 l W (n + 1) v6 w6 := by
         refine ⟨by omega, by omega, ⟨putP s x.f0 cc, ?_, ?_, ?_⟩, HB6.out, ?_⟩
         ·rw [show (n + 1).toNat = n.toNat + 1 from by omega, stepsF_succ HS.out]; exact HS2.out
         ·rw [show (n + 1).toNat = n.toNat + 1 from by omega]
          have hlx := (List.getElem?_eq_some_iff.1 HLX.out).2
          exact HI.out.step HNL.out (by rw [hlx]; exact good_path HXG.out) (by rw [hlx]; exact HXZ.out.1) HS2.out
         ·have e3 := HN6.out
          rw [HFULL.out, ← HXS.out, HYE.out, names_next] at e3
          exact e3
         ·refine flt_grown (HFB.out.below HWW.out) HG6.out (fun e => ?_)
          have h1 := HOB.out _ e.symm
          have h2 := HMZ.out
          have h3 := HFB.out.facts.2.2.2.2
          omega
        have HF := Aside0.mk hfin
        clear hfin HN6 HB6 HG6
        go_roundw
        case rel => exact ⟨n + 1, by go_num, HF⟩
        case measure => simp [intOf]; omega
    ·have c1b : decide (n < (l.length : Int)) = false := decide_eq_false hlt
     have hnl : n.toNat = l.length := by omega
     have hs := HS.out
     have hI := HI.out
     rw [hnl] at hs hI
     have hst := foldF_end HOK.out hs
     have hsm := sorted_map (l := l) hI.nodup
     rw [HXS.out] at hsm
     have hz5 : ∀ y ∈ xs, y.f0.f5.length ≤ 140737488351232 := by
      intro y hy
      rw [← HXS.out] at hy
      obtain ⟨q, hq, rfl⟩ := List.mem_map.1 hy
      obtain ⟨m, hlm, _⟩ := (hI.cls q hq).2
      unfold clsOf
      dsimp only
      rw [List.getD_eq_getElem?_getD, hlm]
      exact (HZ.out.2 m (List.mem_of_getElem? hlm)).2.2
     have hSC := Sorted_calls Al cl xs wr (Kd.N_reads' HNN.out).2.2 (by omega) hz5
     have HSC := Aside0.mk hSC
     have HST := Aside0.mk hst
     have HSM := Aside0.mk hsm
     clear hs hI hst hsm hz5 hSC hnl
     go_wp2_with (go_at_call 20; refine HSC.out.mono ?_; rintro e w3 ⟨v, rfl, hN, hb3⟩; obtain ⟨Av, cv, rfl⟩ := Kd.N_slice hN; obtain ⟨g0, g1, g2, g3, g4⟩ := (HFB.out.below hb3).facts; have HN3 := Aside0.mk hN; have HB3 := Aside0.mk hb3; clear hN hb3)
     refine bodyPost_ret (v := .tuple #[.slice Av (sortedF xs).length cv, .agg #[.int .i64 0, .int .i64 0]]) (by simp [results, Tryz.results9, go_sem, g0, g1, g4]) rfl ?_
     rw [← hQ.out]
     refine ⟨_, by rw [HST.out], ?_, ?_⟩
     ·rw [HST.out, ← HSM.out]
      refine Kd.V_mono (ok := fun k => wr.heap.size ≤ k) ?_ (fun k hk => by have := HB.out.size; omega)
      repeat (with_reducible refine Kd.V_far ?_ (fun k hk e => by have e' : k = W.heap.size := e; omega) _)
      exact Kd.N_V HN3.out
     ·repeat (with_reducible refine below_put ?_ _ _ (Nat.le_refl _) _)
      exact HB.out.trans (HB3.out.mono HB.out.size)
end Go.Proofs.YtiijbmaamblidaaGreatDoor

namespace Go.Proofs.YtiijbmaamblidaaGreatDoor.Print
open Go.RowKit Go.Proofs.YtiijbmaamblidaaGreatDoor Go.Proofs.YtiijbmaamblidaaGreatDoorW.PrintWords Go.Proofs.YtiijbmaamblidaaGreatDoorW.PrintLast Go.Proofs.YtiijbmaamblidaaGreatDoorW.PrintMore
set_option linter.unusedVariables false
def bindleref08_Fold.f (l : List S43) : Option (List S49 × Int × Int) := if memsZ l = true then some (foldF l) else none
theorem bindleref08_Fold.calls (A0 : Option Addr) (c0 : Nat) (l0 : List S43) (r1 : List S49) (r2 r3 : Int) (w : World) (hr0 : Kd.C k43 w A0 l0.length l0) (hc0 : l0.length ≤ c0) (h : bindleref08_Fold.f l0 = some (r1, r2, r3)) :
  Calls Tryz.prog 9 #[.slice A0 l0.length c0] w fun e w' => ∃ v0_ : Value, e = .returned (.tuple #[v0_, .agg #[.int .i64 r2, .int .i64 r3]]) ∧ Kd.V k49 49 w' w.heap.size (fun k_ => w.heap.size ≤ k_) v0_ r1 ∧ Below w.heap.size w w' := by
 unfold bindleref08_Fold.f at h
 split at h
 ·rename_i hc
  simp only [Option.some.injEq] at h
  refine (RFold_calls A0 c0 l0 w hr0 ((memsZ_iff l0).1 hc)).mono ?_
  rintro e w' ⟨v, rfl, hV, hB⟩
  rw [h] at hV ⊢
  exact ⟨v, rfl, hV, hB⟩
 ·cases h
end Go.Proofs.YtiijbmaamblidaaGreatDoor.Print

namespace Go.Proofs.YtiijbmaamblidaaGreatDoor.Print
open Go.RowKit Go.Proofs.YtiijbmaamblidaaGreatDoorW.PrintWords Go.Proofs.YtiijbmaamblidaaGreatDoorW.PrintLast Go.Proofs.YtiijbmaamblidaaGreatDoorW.PrintMore
attribute [local go_sem] max2_int min2_int max_two min_two max_three min_three max_four min_four   -- for this text's walks alone
set_option linter.unusedVariables false
set_option linter.unusedSimpArgs false
def bindlelaw18_answers.f  : Option (Bool) := (some (([(⟨(⟨#[97]⟩ : ByteArray), (⟨#[]⟩ : ByteArray), 48, (⟨0, 0, 0, 0⟩ : S40), ([] : List Int)⟩ : S43), (⟨(⟨#[98]⟩ : ByteArray), (⟨#[]⟩ : ByteArray), 48, (⟨0, 0, 0, 0⟩ : S40), ([] : List Int)⟩ : S43), (⟨(⟨#[97]⟩ : ByteArray), (⟨#[]⟩ : ByteArray), 48, (⟨0, 0, 0, 0⟩ : S40), ([] : List Int)⟩ : S43)] : List (S43)) : List (S43))).bind fun y118 => ((flat_Flatten.f y118).bind fun bt121 => ((flat_Flatten.f (([(⟨(⟨#[]⟩ : ByteArray), (⟨#[]⟩ : ByteArray), 0, (⟨0, 0, 0, 0⟩ : S40), ([] : List Int)⟩ : S43)] : List (S43)))).bind fun bt130 => ((flat_Order.f y118).bind fun t136 => (if bt121.2.1 = 0 then (if (bt121.1.length : Int) = 2 then (if 0 < (bt121.1.length : Int) then (if ((rd_T43 bt121.1 0).f0).toList = ([98] : List UInt8) then (if 1 < (bt121.1.length : Int) then (if ((rd_T43 bt121.1 1).f0).toList = ([97] : List UInt8) then (if bt130.2.1 = 1 then (if (t136.length : Int) = 2 then (if 1 < (t136.length : Int) then (some ((rdOf ByteArray.empty t136 1).toList == ([97] : List UInt8))) else (none)) else (some false)) else (some false)) else (some false)) else (none)) else (some false)) else (none)) else (some false)) else (some false)))))
theorem bindlelaw18_answers.val : bindlelaw18_answers.f = some true := by kernel_rfl
set_option maxHeartbeats 8000000 in
set_option maxRecDepth 100000 in
theorem bindlelaw18_answers.calls  (r : Bool) (w : World) (hT : Aside0 (Tabs w)) (h : bindlelaw18_answers.f  = some r) :
  Calls Tryz.prog 7 #[] w fun e w' => e = .returned (.bool r) ∧ Below w.heap.size w w' := by
 have hr_ : r = true := Option.some.inj (h.symm.trans bindlelaw18_answers.val)
 have hu43 := Tryz.underlying43
 have hu27 := Tryz.underlying27
 have HB := A0_ (Below.refl w.heap.size w)
 have H : ((some (([(⟨(⟨#[97]⟩ : ByteArray), (⟨#[]⟩ : ByteArray), 48, (⟨0, 0, 0, 0⟩ : S40), ([] : List Int)⟩ : S43), (⟨(⟨#[98]⟩ : ByteArray), (⟨#[]⟩ : ByteArray), 48, (⟨0, 0, 0, 0⟩ : S40), ([] : List Int)⟩ : S43), (⟨(⟨#[97]⟩ : ByteArray), (⟨#[]⟩ : ByteArray), 48, (⟨0, 0, 0, 0⟩ : S40), ([] : List Int)⟩ : S43)] : List (S43)) : List (S43))).bind fun y118 => ((flat_Flatten.f y118).bind fun bt121 => ((flat_Flatten.f (([(⟨(⟨#[]⟩ : ByteArray), (⟨#[]⟩ : ByteArray), 0, (⟨0, 0, 0, 0⟩ : S40), ([] : List Int)⟩ : S43)] : List (S43)))).bind fun bt130 => ((flat_Order.f y118).bind fun t136 => (if bt121.2.1 = 0 then (if (bt121.1.length : Int) = 2 then (if 0 < (bt121.1.length : Int) then (if ((rd_T43 bt121.1 0).f0).toList = ([98] : List UInt8) then (if 1 < (bt121.1.length : Int) then (if ((rd_T43 bt121.1 1).f0).toList = ([97] : List UInt8) then (if bt130.2.1 = 1 then (if (t136.length : Int) = 2 then (if 1 < (t136.length : Int) then (some ((rdOf ByteArray.empty t136 1).toList == ([97] : List UInt8))) else (none)) else (some false)) else (some false)) else (some false)) else (none)) else (some false)) else (none)) else (some false)) else (some false)))))) = some r := h
 clear h
 obtain ⟨y118, hy118⟩ : ∃ y_ : List (S43), y_ = (([(⟨(⟨#[97]⟩ : ByteArray), (⟨#[]⟩ : ByteArray), 48, (⟨0, 0, 0, 0⟩ : S40), ([] : List Int)⟩ : S43), (⟨(⟨#[98]⟩ : ByteArray), (⟨#[]⟩ : ByteArray), 48, (⟨0, 0, 0, 0⟩ : S40), ([] : List Int)⟩ : S43), (⟨(⟨#[97]⟩ : ByteArray), (⟨#[]⟩ : ByteArray), 48, (⟨0, 0, 0, 0⟩ : S40), ([] : List Int)⟩ : S43)] : List (S43))) := ⟨_, rfl⟩
 replace H : ((flat_Flatten.f y118).bind fun bt121 => ((flat_Flatten.f (([(⟨(⟨#[]⟩ : ByteArray), (⟨#[]⟩ : ByteArray), 0, (⟨0, 0, 0, 0⟩ : S40), ([] : List Int)⟩ : S43)] : List (S43)))).bind fun bt130 => ((flat_Order.f y118).bind fun t136 => (if bt121.2.1 = 0 then (if (bt121.1.length : Int) = 2 then (if 0 < (bt121.1.length : Int) then (if ((rd_T43 bt121.1 0).f0).toList = ([98] : List UInt8) then (if 1 < (bt121.1.length : Int) then (if ((rd_T43 bt121.1 1).f0).toList = ([97] : List UInt8) then (if bt130.2.1 = 1 then (if (t136.length : Int) = 2 then (if 1 < (t136.length : Int) then (some ((rdOf ByteArray.empty t136 1).toList == ([97] : List UInt8))) else (none)) else (some false)) else (some false)) else (some false)) else (none)) else (some false)) else (none)) else (some false)) else (some false))))) = some r := by first | (rw [hy118]; with_reducible exact H) | (have H2_ := (Option.bind_some _ _).symm.trans H; rw [hy118]; with_reducible exact H2_) | (have H2_ := (Option.bind_some _ _).symm.trans H; with_reducible exact H2_) | with_reducible exact H | (rw [hy118]; exact H) | exact H
 have Ny118 := A0_ hy118
 clear hy118
 replace H := Option.bind_eq_some_iff.mp H
 obtain ⟨⟨t121, t124, t125⟩, A10, H⟩ := H
 replace H : ((flat_Flatten.f (([(⟨(⟨#[]⟩ : ByteArray), (⟨#[]⟩ : ByteArray), 0, (⟨0, 0, 0, 0⟩ : S40), ([] : List Int)⟩ : S43)] : List (S43)))).bind fun bt130 => ((flat_Order.f y118).bind fun t136 => (if t124 = 0 then (if (t121.length : Int) = 2 then (if 0 < (t121.length : Int) then (if ((rd_T43 t121 0).f0).toList = ([98] : List UInt8) then (if 1 < (t121.length : Int) then (if ((rd_T43 t121 1).f0).toList = ([97] : List UInt8) then (if bt130.2.1 = 1 then (if (t136.length : Int) = 2 then (if 1 < (t136.length : Int) then (some ((rdOf ByteArray.empty t136 1).toList == ([97] : List UInt8))) else (none)) else (some false)) else (some false)) else (some false)) else (none)) else (some false)) else (none)) else (some false)) else (some false)))) = some r := H
 have A1 := A0_ A10
 clear A10
 obtain ⟨y127, hy127⟩ : ∃ y_ : List (S43), y_ = (([(⟨(⟨#[]⟩ : ByteArray), (⟨#[]⟩ : ByteArray), 0, (⟨0, 0, 0, 0⟩ : S40), ([] : List Int)⟩ : S43)] : List (S43))) := ⟨_, rfl⟩
 replace H : ((flat_Flatten.f y127).bind fun bt130 => ((flat_Order.f y118).bind fun t136 => (if t124 = 0 then (if (t121.length : Int) = 2 then (if 0 < (t121.length : Int) then (if ((rd_T43 t121 0).f0).toList = ([98] : List UInt8) then (if 1 < (t121.length : Int) then (if ((rd_T43 t121 1).f0).toList = ([97] : List UInt8) then (if bt130.2.1 = 1 then (if (t136.length : Int) = 2 then (if 1 < (t136.length : Int) then (some ((rdOf ByteArray.empty t136 1).toList == ([97] : List UInt8))) else (none)) else (some false)) else (some false)) else (some false)) else (none)) else (some false)) else (none)) else (some false)) else (some false)))) = some r := by first | (rw [hy127]; with_reducible exact H) | (have H2_ := (Option.bind_some _ _).symm.trans H; rw [hy127]; with_reducible exact H2_) | (have H2_ := (Option.bind_some _ _).symm.trans H; with_reducible exact H2_) | with_reducible exact H | (rw [hy127]; exact H) | exact H
 have Ny127 := A0_ hy127
 clear hy127
 replace H := Option.bind_eq_some_iff.mp H
 obtain ⟨⟨t130, t133, t134⟩, A20, H⟩ := H
 replace H : ((flat_Order.f y118).bind fun t136 => (if t124 = 0 then (if (t121.length : Int) = 2 then (if 0 < (t121.length : Int) then (if ((rd_T43 t121 0).f0).toList = ([98] : List UInt8) then (if 1 < (t121.length : Int) then (if ((rd_T43 t121 1).f0).toList = ([97] : List UInt8) then (if t133 = 1 then (if (t136.length : Int) = 2 then (if 1 < (t136.length : Int) then (some ((rdOf ByteArray.empty t136 1).toList == ([97] : List UInt8))) else (none)) else (some false)) else (some false)) else (some false)) else (none)) else (some false)) else (none)) else (some false)) else (some false))) = some r := H
 have A2 := A0_ A20
 clear A20
 replace H := Option.bind_eq_some_iff.mp H
 obtain ⟨t136, A30, H⟩ := H
 replace H : (if t124 = 0 then (if (t121.length : Int) = 2 then (if 0 < (t121.length : Int) then (if ((rd_T43 t121 0).f0).toList = ([98] : List UInt8) then (if 1 < (t121.length : Int) then (if ((rd_T43 t121 1).f0).toList = ([97] : List UInt8) then (if t133 = 1 then (if (t136.length : Int) = 2 then (if 1 < (t136.length : Int) then (some ((rdOf ByteArray.empty t136 1).toList == ([97] : List UInt8))) else (none)) else (some false)) else (some false)) else (some false)) else (none)) else (some false)) else (none)) else (some false)) else (some false)) = some r := H
 have A3 := A0_ A30
 clear A30
 by_cases c4 : t124 = 0
 rotate_left
 ·rw [if_neg c4] at H
  have c4b0 : (t124 == 0) = false := beq_eq_false_iff_ne.mpr c4
  have c4b1 : (t124 != 0) = true := bne_iff_ne.mpr c4
  exact absurd ((Option.some.inj H).trans hr_) (by decide)
 rw [if_pos c4] at H
 have c4b0 : (t124 == 0) = true := beq_iff_eq.mpr c4
 have c4b1 : (t124 != 0) = false := bne_eq_false_iff_eq.mpr c4
 clear c4
 by_cases c5 : (t121.length : Int) = 2
 rotate_left
 ·rw [if_neg c5] at H
  have c5b0 : ((t121.length : Int) == 2) = false := beq_eq_false_iff_ne.mpr c5
  have c5b1 : ((t121.length : Int) != 2) = true := bne_iff_ne.mpr c5
  exact absurd ((Option.some.inj H).trans hr_) (by decide)
 rw [if_pos c5] at H
 have c5b0 : ((t121.length : Int) == 2) = true := beq_iff_eq.mpr c5
 have c5b1 : ((t121.length : Int) != 2) = false := bne_eq_false_iff_eq.mpr c5
 clear c5
 by_cases c6 : 0 < (t121.length : Int)
 rotate_left
 ·rw [if_neg c6] at H
  exact absurd H (by simp)
 rw [if_pos c6] at H
 have c6b0 : decide (0 < (t121.length : Int)) = true := decide_eq_true c6
 have c6b1 : decide (0 < t121.length) = true := decide_eq_true (by omega)
 clear c6
 by_cases c7 : ((rd_T43 t121 0).f0).toList = ([98] : List UInt8)
 rotate_left
 ·rw [if_neg c7] at H
  have c7b0 : (((rd_T43 t121 0).f0).toList == ([98] : List UInt8)) = false := beq_eq_false_iff_ne.mpr c7
  have c7b1 : (((rd_T43 t121 0).f0).toList != ([98] : List UInt8)) = true := bne_iff_ne.mpr c7
  exact absurd ((Option.some.inj H).trans hr_) (by decide)
 rw [if_pos c7] at H
 have c7b0 : (((rd_T43 t121 0).f0).toList == ([98] : List UInt8)) = true := beq_iff_eq.mpr c7
 have c7b1 : (((rd_T43 t121 0).f0).toList != ([98] : List UInt8)) = false := bne_eq_false_iff_eq.mpr c7
 clear c7
 by_cases c8 : 1 < (t121.length : Int)
 rotate_left
 ·rw [if_neg c8] at H
  exact absurd H (by simp)
 rw [if_pos c8] at H
 have c8b0 : decide (1 < (t121.length : Int)) = true := decide_eq_true c8
 have c8b1 : decide (1 < t121.length) = true := decide_eq_true (by omega)
 clear c8
 by_cases c9 : ((rd_T43 t121 1).f0).toList = ([97] : List UInt8)
 rotate_left
 ·rw [if_neg c9] at H
  have c9b0 : (((rd_T43 t121 1).f0).toList == ([97] : List UInt8)) = false := beq_eq_false_iff_ne.mpr c9
  have c9b1 : (((rd_T43 t121 1).f0).toList != ([97] : List UInt8)) = true := bne_iff_ne.mpr c9
  exact absurd ((Option.some.inj H).trans hr_) (by decide)
 rw [if_pos c9] at H
 have c9b0 : (((rd_T43 t121 1).f0).toList == ([97] : List UInt8)) = true := beq_iff_eq.mpr c9
 have c9b1 : (((rd_T43 t121 1).f0).toList != ([97] : List UInt8)) = false := bne_eq_false_iff_eq.mpr c9
 clear c9
 by_cases c10 : t133 = 1
 rotate_left
 ·rw [if_neg c10] at H
  have c10b0 : (t133 == 1) = false := beq_eq_false_iff_ne.mpr c10
  have c10b1 : (t133 != 1) = true := bne_iff_ne.mpr c10
  exact absurd ((Option.some.inj H).trans hr_) (by decide)
 rw [if_pos c10] at H
 have c10b0 : (t133 == 1) = true := beq_iff_eq.mpr c10
 have c10b1 : (t133 != 1) = false := bne_eq_false_iff_eq.mpr c10
 clear c10
 by_cases c11 : (t136.length : Int) = 2
 rotate_left
 ·rw [if_neg c11] at H
  have c11b0 : ((t136.length : Int) == 2) = false := beq_eq_false_iff_ne.mpr c11
  have c11b1 : ((t136.length : Int) != 2) = true := bne_iff_ne.mpr c11
  exact absurd ((Option.some.inj H).trans hr_) (by decide)
 rw [if_pos c11] at H
 have c11b0 : ((t136.length : Int) == 2) = true := beq_iff_eq.mpr c11
 have c11b1 : ((t136.length : Int) != 2) = false := bne_eq_false_iff_eq.mpr c11
 clear c11
 by_cases c12 : 1 < (t136.length : Int)
 rotate_left
 ·rw [if_neg c12] at H
  exact absurd H (by simp)
 rw [if_pos c12] at H
 have c12b0 : decide (1 < (t136.length : Int)) = true := decide_eq_true c12
 have c12b1 : decide (1 < t136.length) = true := decide_eq_true (by omega)
 clear c12
 clear hr_
 obtain rfl := Option.some.inj H
 go_enter Tryz.func7, Tryz.ntmps7
 go_wp2_with (first | ((with_reducible refine gate_dst (N := 10) rfl ?_); (try (refine gate_guard (by rfl) ?_; dsimp only)); refine Kd.S_lit k43 _ 43 ?hg (N := 10) ?hd (xs := ([(⟨(⟨#[97]⟩ : ByteArray), (⟨#[]⟩ : ByteArray), 48, (⟨0, 0, 0, 0⟩ : S40), ([] : List Int)⟩ : S43), (⟨(⟨#[98]⟩ : ByteArray), (⟨#[]⟩ : ByteArray), 48, (⟨0, 0, 0, 0⟩ : S40), ([] : List Int)⟩ : S43), (⟨(⟨#[97]⟩ : ByteArray), (⟨#[]⟩ : ByteArray), 48, (⟨0, 0, 0, 0⟩ : S40), ([] : List Int)⟩ : S43)] : List (S43))) (inner := [.string (⟨#[97]⟩ : ByteArray), .string (⟨#[]⟩ : ByteArray), .int .u8 48, .int .i64 0, .int .i64 0, .int .i64 0, .int .i64 0, .slice none 0 0, .string (⟨#[98]⟩ : ByteArray), .string (⟨#[]⟩ : ByteArray), .int .u8 48, .int .i64 0, .int .i64 0, .int .i64 0, .int .i64 0, .slice none 0 0, .string (⟨#[97]⟩ : ByteArray), .string (⟨#[]⟩ : ByteArray), .int .u8 48, .int .i64 0, .int .i64 0, .int .i64 0, .int .i64 0, .slice none 0 0]) (ok := fun _ => True) (okp := fun _ => True) ?hr ?hp (fun _ hk => hk) trivial (Below.refl _ _) (Nat.le_refl _) (by simp) ?_; (case hd => rfl); (case hg => rfl); (case hr => first | (go_simp; done) | (go_simp; rfl)); (case hp => exact (Reps.c8 (show Kd.M k43 _ _ _ (⟨(⟨#[97]⟩ : ByteArray), (⟨#[]⟩ : ByteArray), 48, (⟨0, 0, 0, 0⟩ : S40), ([] : List Int)⟩ : S43) [.string (⟨#[97]⟩ : ByteArray), .string (⟨#[]⟩ : ByteArray), .int .u8 48, .int .i64 0, .int .i64 0, .int .i64 0, .int .i64 0, .slice none 0 0] from (k43_mkM _ _ _ (⟨(⟨#[97]⟩ : ByteArray), (⟨#[]⟩ : ByteArray), 48, (⟨0, 0, 0, 0⟩ : S40), ([] : List Int)⟩ : S43) (Kd.R_nil _ _ _ _ _))) (Reps.c8 (show Kd.M k43 _ _ _ (⟨(⟨#[98]⟩ : ByteArray), (⟨#[]⟩ : ByteArray), 48, (⟨0, 0, 0, 0⟩ : S40), ([] : List Int)⟩ : S43) [.string (⟨#[98]⟩ : ByteArray), .string (⟨#[]⟩ : ByteArray), .int .u8 48, .int .i64 0, .int .i64 0, .int .i64 0, .int .i64 0, .slice none 0 0] from (k43_mkM _ _ _ (⟨(⟨#[98]⟩ : ByteArray), (⟨#[]⟩ : ByteArray), 48, (⟨0, 0, 0, 0⟩ : S40), ([] : List Int)⟩ : S43) (Kd.R_nil _ _ _ _ _))) (Reps.c8 (show Kd.M k43 _ _ _ (⟨(⟨#[97]⟩ : ByteArray), (⟨#[]⟩ : ByteArray), 48, (⟨0, 0, 0, 0⟩ : S40), ([] : List Int)⟩ : S43) [.string (⟨#[97]⟩ : ByteArray), .string (⟨#[]⟩ : ByteArray), .int .u8 48, .int .i64 0, .int .i64 0, .int .i64 0, .int .i64 0, .slice none 0 0] from (k43_mkM _ _ _ (⟨(⟨#[97]⟩ : ByteArray), (⟨#[]⟩ : ByteArray), 48, (⟨0, 0, 0, 0⟩ : S40), ([] : List Int)⟩ : S43) (Kd.R_nil _ _ _ _ _))) (Reps.none _ _))))); intro v119 w13 ho14 hb hg_ hnew_; clear hg_ hnew_; (first | rw [← Ny118.out] at ho14 | (simp only [Int.reduceToNat] at ho14; rw [← Ny118.out] at ho14)); have n0_ := A0_ (Kd.S_lower ho14 (below_size (wb_ HB.out))); have n1_ := A0_ (below_step (wb_ HB.out) hb); clear HB; have HO120 := n0_; have HB := n1_; clear n0_ n1_; clear hb ho14; obtain ⟨Ao15, co15, eo15⟩ := Kd.S_slice HO120.out; subst eo15) | ((with_reducible refine gate_callee (f := 8) rfl ?_); refine goesL_ (some 13) rfl rfl Tryz.func8 (by kernel_rfl) rfl #[.slice Ao15 y118.length co15] rfl wm_ ?_; (with_reducible refine (flat_Flatten.calls _ _ y118 t121 t124 t125 _ ?side1 ?side2 ?side3 A1.out).mono ?_); (case side1 => exact A0_ (Tabs.below hT.out (wb_ HB.out))); (case side2 => exact wc_ (Kd.S_reads' HO120.out).2.2); (case side3 => exact (Kd.S_reads' HO120.out).2.1); rintro e w16 ⟨v122, rfl, ho0, hb⟩; refine ⟨_, rfl, ?_⟩; have n0_ := A0_ (Sb_ (wS_ HO120.out) hb); have n1_ := A0_ (Kd.V_lower (Kd.V_mono (ok' := fun k_ => some k_ ≠ (.slice Ao15 y118.length co15 : Value).ownBlock) ho0 (fun k_ hk_ => (Kd.fresh' (Kd.S_lt (wS_ HO120.out)) k_ hk_))) (below_size (wb_ HB.out))); have n2_ := A0_ (below_step (wb_ HB.out) hb); clear HO120; clear HB; have HO120 := n0_; have HO123 := n1_; have HB := n2_; clear n0_ n1_ n2_; (try clear hb); (try clear hb2); (try clear hk); (try clear hi); (try clear ho0)) | ((with_reducible refine gate_dst (N := 3) rfl ?_); (try (refine gate_guard (by rfl) ?_; dsimp only)); refine box_event ?hg (N := 3) ?hd (cs := #[.int .i64 0, .int .i64 0]) (t := 27) ?hr ?_; (case hd => rfl); (case hg => rfl); (case hr => first | (go_simp; done) | (go_simp; rfl)); intro gb126 hg w17 hbox hb; have n0_ := A0_ (Sb_ (wS_ HO120.out) hb); have n1_ := A0_ (Vb_ (Kd.V_elderB (wV_ HO123.out) gb126 (Nat.le_of_eq hg.symm)) hb); have n2_ := A0_ (below_step (wb_ HB.out) hb); have n3_ := A0_ (hbox); have n4_ := A0_ ((by rw [hg]; exact (below_size (wb_ HB.out)) : w.heap.size ≤ gb126)); have n5_ := A0_ ((by rw [hg]; exact (below_size (wb_ HB.out)) : w.heap.size ≤ gb126)); clear HO120; clear HO123; clear HB; have HO120 := n0_; have HO123 := n1_; have HB := n2_; have BK126 := n3_; have GW126 := n4_; have GE126 := n5_; clear n0_ n1_ n2_ n3_ n4_ n5_; clear hb hbox hg; have hcz18_0 : w17.cell? ⟨gb126, 0, none⟩ = some (.int .i64 0) := (bc_ BK126.out 0).trans rfl; have hcz18_1 : w17.cell? ⟨gb126, 1, none⟩ = some (.int .i64 0) := (bc_ BK126.out 1).trans rfl; have hfz18_0 := bf_ BK126.out 0; have hfz18_1 := bf_ BK126.out 1) | ((with_reducible refine gate_store (t := 27) (p := 3) rfl ?_); refine store_event (t := 27) (p := 3) (v := ?vo_w19) (w1 := ((w17.setCell ⟨gb126, 0, none⟩ (.int .i64 t124)).setCell ⟨gb126, 1, none⟩ (.int .i64 t125))) ?hg ?ho ?hn ?hr ?_; (case ho => rfl); (case hg => rfl); (case hn => rfl); (case hr => first | (go_simp; done) | (go_simp; rfl)); intro w19 hw; have n0_ : Aside0 (Kd.S k43 43 w19 w.heap.size (fun _ => True) (.slice Ao15 y118.length co15) y118) := ⟨(by rw [hw]; exact (by (with_reducible repeat (first | apply Sa_ | apply SN_ | apply S1_)); exact Kd.S_mono (Kd.S_far (p := ⟨gb126, 1, none⟩) (Kd.S_far (p := ⟨gb126, 0, none⟩) (Kd.S_types HO120.out BK126.out (by decide)) (fun _ hk => hk.2) (.int .i64 t124)) (fun _ hk => hk.2) (.int .i64 t125)) (fun _ hk => trivial)))⟩; have n1_ : Aside0 (Kd.V k43 43 w19 w.heap.size (fun k_ => some k_ ≠ (.slice Ao15 y118.length co15 : Value).ownBlock ∧ k_ ≠ gb126) v122 t121) := ⟨(by rw [hw]; exact (by (with_reducible repeat (first | apply Va_ | apply VN_ | apply V1_)); exact Kd.V_mono (Kd.V_far (p := ⟨gb126, 1, none⟩) (Kd.V_far (p := ⟨gb126, 0, none⟩) (Kd.V_mono HO123.out (fun k_ hk => (⟨hk, hk.2⟩ : _ ∧ k_ ≠ gb126))) (fun _ hk => hk.2) (.int .i64 t124)) (fun _ hk => hk.2) (.int .i64 t125)) (fun _ hk => ⟨hk.1.1, hk.1.2⟩)))⟩; have n2_ : Aside0 (w19.heap[gb126]? = some (.cells #[.int .i64 t124, .int .i64 t125] 27 (0, 0))) := ⟨(by rw [hw]; exact (by (with_reducible repeat (first | refine blk_drewN ?_ _ | refine blk_drew ?_ | refine blk_alloc ?_ _)); refine blk_put (cs := #[.int .i64 t124, .int .i64 0]) ?_ 1 _ rfl; (with_reducible repeat (first | refine blk_drewN ?_ _ | refine blk_drew ?_ | refine blk_alloc ?_ _)); refine blk_put (cs := #[.int .i64 0, .int .i64 0]) ?_ 0 _ rfl; (with_reducible repeat (first | refine blk_drewN ?_ _ | refine blk_drew ?_ | refine blk_alloc ?_ _)); exact BK126.out))⟩; have n3_ : Aside0 (Below w.heap.size w w19) := ⟨(by rw [hw]; exact (wb1_ HB.out GE126.out))⟩; clear hw; clear HO120; clear HO123; clear BK126; clear HB; have HO120 := n0_; have HO123 := n1_; have BK126 := n2_; have HB := n3_; clear n0_ n1_ n2_ n3_) | ((with_reducible refine gate_dst (N := 18) rfl ?_); (try (refine gate_guard (by rfl) ?_; dsimp only)); refine Kd.S_lit k43 _ 43 ?hg (N := 18) ?hd (xs := ([(⟨(⟨#[]⟩ : ByteArray), (⟨#[]⟩ : ByteArray), 0, (⟨0, 0, 0, 0⟩ : S40), ([] : List Int)⟩ : S43)] : List (S43))) (inner := [.string (⟨#[]⟩ : ByteArray), .string (⟨#[]⟩ : ByteArray), .int .u8 0, .int .i64 0, .int .i64 0, .int .i64 0, .int .i64 0, .slice none 0 0]) (ok := fun _ => True) (okp := fun _ => True) ?hr ?hp (fun _ hk => hk) trivial (Below.refl _ _) (Nat.le_refl _) (by simp) ?_; (case hd => rfl); (case hg => rfl); (case hr => first | (go_simp; done) | (go_simp; rfl)); (case hp => exact (Reps.c8 (show Kd.M k43 _ _ _ (⟨(⟨#[]⟩ : ByteArray), (⟨#[]⟩ : ByteArray), 0, (⟨0, 0, 0, 0⟩ : S40), ([] : List Int)⟩ : S43) [.string (⟨#[]⟩ : ByteArray), .string (⟨#[]⟩ : ByteArray), .int .u8 0, .int .i64 0, .int .i64 0, .int .i64 0, .int .i64 0, .slice none 0 0] from (k43_mkM _ _ _ (⟨(⟨#[]⟩ : ByteArray), (⟨#[]⟩ : ByteArray), 0, (⟨0, 0, 0, 0⟩ : S40), ([] : List Int)⟩ : S43) (Kd.R_nil _ _ _ _ _))) (Reps.none _ _))); intro v128 w20 ho21 hb hg_ hnew_; clear hg_ hnew_; (first | rw [← Ny127.out] at ho21 | (simp only [Int.reduceToNat] at ho21; rw [← Ny127.out] at ho21)); have n0_ := A0_ (Kd.S_elder' (wS_ HO120.out) (Kd.S_base ho21) hb); have n1_ := A0_ (Kd.V_elder' (wV_ HO123.out) (Kd.S_base ho21) hb); have n2_ := A0_ (Kd.S_lower (Kd.S_new' ho21 (Kd.S_lt (wS_ HO120.out))) (below_size (wb1_ HB.out GE126.out))); have n3_ := A0_ (blk_below (g := gb126) (o := .cells #[.int .i64 t124, .int .i64 t125] 27 (0, 0)) (wB_ BK126.out) hb); have n4_ := A0_ (below_step (wb1_ HB.out GE126.out) hb); clear HO120; clear HO123; clear BK126; clear HB; have HO120 := n0_; have HO123 := n1_; have HO129 := n2_; have BK126 := n3_; have HB := n4_; clear n0_ n1_ n2_ n3_ n4_; clear hb ho21; obtain ⟨Ao22, co22, eo22⟩ := Kd.S_slice HO129.out; subst eo22) | ((with_reducible refine gate_callee (f := 8) rfl ?_); refine goesL_ (some 19) rfl rfl Tryz.func8 (by kernel_rfl) rfl #[.slice Ao22 y127.length co22] rfl wm_ ?_; (with_reducible refine (flat_Flatten.calls _ _ y127 t130 t133 t134 _ ?side1 ?side2 ?side3 A2.out).mono ?_); (case side1 => exact A0_ (Tabs.below hT.out (wb1_ HB.out GE126.out))); (case side2 => exact wc_ (Kd.S_reads' HO129.out).2.2); (case side3 => exact (Kd.S_reads' HO129.out).2.1); rintro e w23 ⟨v131, rfl, ho0, hb⟩; refine ⟨_, rfl, ?_⟩; have n0_ := A0_ (Sb_ (wS_ HO120.out) hb); have n1_ := A0_ (Vb_ (wV_ HO123.out) hb); have n2_ := A0_ (Sb_ (wS_ HO129.out) hb); have n3_ := A0_ (Kd.V_lower (Kd.V_mono (ok' := fun k_ => some k_ ≠ (.slice Ao15 y118.length co15 : Value).ownBlock ∧ some k_ ≠ (.slice Ao22 y127.length co22 : Value).ownBlock ∧ k_ ≠ gb126) ho0 (fun k_ hk_ => ⟨(Kd.fresh' (Kd.S_lt (wS_ HO120.out)) k_ hk_), (Kd.fresh' (Kd.S_lt (wS_ HO129.out)) k_ hk_), (Kd.freshB (g := gb126) (o := .cells #[.int .i64 t124, .int .i64 t125] 27 (0, 0)) (wB_ BK126.out) k_ hk_)⟩)) (below_size (wb1_ HB.out GE126.out))); have n4_ := A0_ (blk_below (g := gb126) (o := .cells #[.int .i64 t124, .int .i64 t125] 27 (0, 0)) (wB_ BK126.out) hb); have n5_ := A0_ (below_step (wb1_ HB.out GE126.out) hb); clear HO120; clear HO123; clear HO129; clear BK126; clear HB; have HO120 := n0_; have HO123 := n1_; have HO129 := n2_; have HO132 := n3_; have BK126 := n4_; have HB := n5_; clear n0_ n1_ n2_ n3_ n4_ n5_; (try clear hb); (try clear hb2); (try clear hk); (try clear hi); (try clear ho0)) | ((with_reducible refine gate_dst (N := 5) rfl ?_); (try (refine gate_guard (by rfl) ?_; dsimp only)); refine box_event ?hg (N := 5) ?hd (cs := #[.int .i64 0, .int .i64 0]) (t := 27) ?hr ?_; (case hd => rfl); (case hg => rfl); (case hr => first | (go_simp; done) | (go_simp; rfl)); intro gb135 hg w24 hbox hb; have n0_ := A0_ (Sb_ (wS_ HO120.out) hb); have n1_ := A0_ (Vb_ (Kd.V_elderB (wV_ HO123.out) gb135 (Nat.le_of_eq hg.symm)) hb); have n2_ := A0_ (Sb_ (wS_ HO129.out) hb); have n3_ := A0_ (Vb_ (Kd.V_elderB (wV_ HO132.out) gb135 (Nat.le_of_eq hg.symm)) hb); have n4_ := A0_ (blk_below (g := gb126) (o := .cells #[.int .i64 t124, .int .i64 t125] 27 (0, 0)) (wB_ BK126.out) hb); have n5_ := A0_ (below_step (wb1_ HB.out GE126.out) hb); have n6_ := A0_ (hbox); have n7_ := A0_ ((by rw [hg]; exact (below_size (wb1_ HB.out GE126.out)) : w.heap.size ≤ gb135)); have n8_ := A0_ ((by rw [hg]; exact (below_size (wb1_ HB.out GE126.out)) : w.heap.size ≤ gb135)); have n9_ := A0_ ((by rw [hg]; exact Nat.ne_of_lt (blk_lt (g := gb126) (o := .cells #[.int .i64 t124, .int .i64 t125] 27 (0, 0)) (wB_ BK126.out)) : gb126 ≠ gb135)); have n10_ := A0_ ((by rw [hg]; exact Nat.ne_of_gt (blk_lt (g := gb126) (o := .cells #[.int .i64 t124, .int .i64 t125] 27 (0, 0)) (wB_ BK126.out)) : gb135 ≠ gb126)); clear HO120; clear HO123; clear HO129; clear HO132; clear BK126; clear HB; have HO120 := n0_; have HO123 := n1_; have HO129 := n2_; have HO132 := n3_; have BK126 := n4_; have HB := n5_; have BK135 := n6_; have GW135 := n7_; have GE135 := n8_; have NB126_135 := n9_; have NB135_126 := n10_; clear n0_ n1_ n2_ n3_ n4_ n5_ n6_ n7_ n8_ n9_ n10_; clear hb hbox hg; have hnb25 := NB135_126.out; have hnc25 := NB126_135.out; have hcz26_0 : w24.cell? ⟨gb135, 0, none⟩ = some (.int .i64 0) := (bc_ BK135.out 0).trans rfl; have hcz26_1 : w24.cell? ⟨gb135, 1, none⟩ = some (.int .i64 0) := (bc_ BK135.out 1).trans rfl; have hfz26_0 := bf_ BK135.out 0; have hfz26_1 := bf_ BK135.out 1) | ((with_reducible refine gate_callee (f := 15) rfl ?_); refine goesL_ (some 23) rfl rfl Tryz.func15 (by kernel_rfl) rfl #[.slice Ao15 y118.length co15] rfl wm_ ?_; (with_reducible refine (flat_Order.calls _ _ y118 t136 _ ?side1 ?side2 A3.out).mono ?_); (case side1 => refine (Kd.S_reads' (e := 43) (base := w.heap.size) (ok := fun k_ => (True ∧ some k_ ≠ (.slice Ao22 y127.length co22 : Value).ownBlock)) (n := y118.length) (c := co15) ?_).2.2; exact (by (with_reducible repeat (first | apply Sa_ | apply SN_ | apply S1_)); exact (Kd.S_mono (Kd.S_far (p := ⟨gb135, 1, none⟩) (Kd.S_far (p := ⟨gb135, 0, none⟩) (Kd.S_types HO120.out BK135.out (by decide)) (fun _ hk => hk.2) (.int .i64 t133)) (fun _ hk => hk.2) (.int .i64 t134)) (fun _ h_ => h_.1)))); (case side2 => exact (Kd.S_reads' HO120.out).2.1); rintro e w27 ⟨v137, rfl, ho0, hb⟩; refine ⟨_, rfl, ?_⟩; have n0_ := A0_ (Sb_ (by (with_reducible repeat (first | apply Sa_ | apply SN_ | apply S1_)); exact (Kd.S_mono (Kd.S_far (p := ⟨gb135, 1, none⟩) (Kd.S_far (p := ⟨gb135, 0, none⟩) (Kd.S_types HO120.out BK135.out (by decide)) (fun _ hk => hk.2) (.int .i64 t133)) (fun _ hk => hk.2) (.int .i64 t134)) (fun _ h_ => h_.1))) hb); have n1_ := A0_ (Kd.V_elder' (by (with_reducible repeat (first | apply Va_ | apply VN_ | apply V1_)); exact (Kd.V_mono (Kd.V_far (p := ⟨gb135, 1, none⟩) (Kd.V_far (p := ⟨gb135, 0, none⟩) (Kd.V_mono HO123.out (fun k_ hk => (⟨hk, hk.2⟩ : _ ∧ k_ ≠ gb135))) (fun _ hk => hk.2) (.int .i64 t133)) (fun _ hk => hk.2) (.int .i64 t134)) (fun _ h_ => h_.1))) (Kd.R_base ho0) hb); have n2_ := A0_ (Sb_ (by (with_reducible repeat (first | apply Sa_ | apply SN_ | apply S1_)); exact (Kd.S_mono (Kd.S_far (p := ⟨gb135, 1, none⟩) (Kd.S_far (p := ⟨gb135, 0, none⟩) (Kd.S_types HO129.out BK135.out (by decide)) (fun _ hk => hk.2) (.int .i64 t133)) (fun _ hk => hk.2) (.int .i64 t134)) (fun _ h_ => h_.1))) hb); have n3_ := A0_ (Kd.V_elder' (by (with_reducible repeat (first | apply Va_ | apply VN_ | apply V1_)); exact (Kd.V_mono (Kd.V_far (p := ⟨gb135, 1, none⟩) (Kd.V_far (p := ⟨gb135, 0, none⟩) (Kd.V_mono HO132.out (fun k_ hk => (⟨hk, hk.2⟩ : _ ∧ k_ ≠ gb135))) (fun _ hk => hk.2) (.int .i64 t133)) (fun _ hk => hk.2) (.int .i64 t134)) (fun _ h_ => h_.1))) (Kd.R_base ho0) hb); have n4_ := A0_ (Kd.R_lower ho0 (below_size (wb2_ HB.out GE126.out GE135.out))); have n5_ := A0_ (blk_below (g := gb126) (o := .cells #[.int .i64 t124, .int .i64 t125] 27 (0, 0)) (by (with_reducible repeat (first | refine blk_drewN ?_ _ | refine blk_drew ?_ | refine blk_alloc ?_ _)); refine blk_far ?_ NB126_135.out _; (with_reducible repeat (first | refine blk_drewN ?_ _ | refine blk_drew ?_ | refine blk_alloc ?_ _)); refine blk_far ?_ NB126_135.out _; (with_reducible repeat (first | refine blk_drewN ?_ _ | refine blk_drew ?_ | refine blk_alloc ?_ _)); exact BK126.out) hb); have n6_ := A0_ (blk_below (g := gb135) (o := .cells #[.int .i64 t133, .int .i64 t134] 27 (0, 0)) (by (with_reducible repeat (first | refine blk_drewN ?_ _ | refine blk_drew ?_ | refine blk_alloc ?_ _)); refine blk_put (cs := #[.int .i64 t133, .int .i64 0]) ?_ 1 _ rfl; (with_reducible repeat (first | refine blk_drewN ?_ _ | refine blk_drew ?_ | refine blk_alloc ?_ _)); refine blk_put (cs := #[.int .i64 0, .int .i64 0]) ?_ 0 _ rfl; (with_reducible repeat (first | refine blk_drewN ?_ _ | refine blk_drew ?_ | refine blk_alloc ?_ _)); exact BK135.out) hb); have n7_ := A0_ (below_step (wb2_ HB.out GE126.out GE135.out) hb); clear HO120; clear HO123; clear HO129; clear HO132; clear BK126; clear BK135; clear HB; have HO120 := n0_; have HO123 := n1_; have HO129 := n2_; have HO132 := n3_; have HO138 := n4_; have BK126 := n5_; have BK135 := n6_; have HB := n7_; clear n0_ n1_ n2_ n3_ n4_ n5_ n6_ n7_; (try clear hb); (try clear hb2); (try clear hk); (try clear hi); (try clear ho0); have hcz28_0 : w27.cell? ⟨gb126, 0, none⟩ = some (.int .i64 t124) := (bc_ BK126.out 0).trans rfl; have hcz28_1 : w27.cell? ⟨gb126, 1, none⟩ = some (.int .i64 t125) := (bc_ BK126.out 1).trans rfl; have hfz28_0 := bf_ BK126.out 0; have hfz28_1 := bf_ BK126.out 1; obtain ⟨Ao29, co29, eo29⟩ := Kd.V_slice HO123.out; subst eo29; have p139 : 0 ≤ (0 : Int) := (by omega); have q139 : 0 < (t121.length : Int) := wd_; obtain ⟨ad139, A139_7, c139_7, e139, hx139_0, hx139_1, hx139_2, hx139_3, hx139_4, hx139_5, hx139_6, hx139_7, hl139_7, hi139_7⟩ := at_T43 (Kd.V_reads' HO123.out).2.2 0 p139 q139; cases e139; obtain ⟨ce139, hce139, hMe139, hcc139⟩ := Kd.V_get HO123.out z43 0 p139 (by first | exact q139 | exact wd_ | (have e_ := (Kd.V_reads' HO123.out).1; omega)); obtain ⟨ua139_7, uc139_7, rfl, ul139_7, ge139_7⟩ := k43_openF hMe139; have hv139_7 := hcc139 7 _ rfl; rw [add_field _ _ 7 (by omega)] at hv139_7; replace hv139_7 := Option.some.inj (hv139_7.symm.trans hx139_7); injection hv139_7 with hva_ hvn_ hvc_; rw [hva_] at ge139_7; rw [hvc_] at ul139_7; have HL139_7 := A0_ (show Kd.V (Kd.int .u8) 5 _ w.heap.size _ _ ((rd_T43 t121 0).f4) from Kd.V_mk ul139_7 ge139_7); clear hva_ hvn_ hvc_ ge139_7 ul139_7; clear hcc139 hce139; have qi139 : (0 < t121.length) = True := eq_true (by omega); (try rw [show ((0 : Int)).toNat = 0 from rfl] at hx139_0); (try rw [show 0 * 8 = 0 from rfl] at hx139_0); (try rw [Addr.add_zero'] at hx139_0); (try rw [show ((0 : Int)).toNat = 0 from rfl] at hx139_1); (try rw [show 0 * 8 = 0 from rfl] at hx139_1); (try rw [Addr.add_zero'] at hx139_1); (try rw [show ((0 : Int)).toNat = 0 from rfl] at hx139_2); (try rw [show 0 * 8 = 0 from rfl] at hx139_2); (try rw [Addr.add_zero'] at hx139_2); (try rw [show ((0 : Int)).toNat = 0 from rfl] at hx139_3); (try rw [show 0 * 8 = 0 from rfl] at hx139_3); (try rw [Addr.add_zero'] at hx139_3); (try rw [show ((0 : Int)).toNat = 0 from rfl] at hx139_4); (try rw [show 0 * 8 = 0 from rfl] at hx139_4); (try rw [Addr.add_zero'] at hx139_4); (try rw [show ((0 : Int)).toNat = 0 from rfl] at hx139_5); (try rw [show 0 * 8 = 0 from rfl] at hx139_5); (try rw [Addr.add_zero'] at hx139_5); (try rw [show ((0 : Int)).toNat = 0 from rfl] at hx139_6); (try rw [show 0 * 8 = 0 from rfl] at hx139_6); (try rw [Addr.add_zero'] at hx139_6); (try rw [show ((0 : Int)).toNat = 0 from rfl] at hx139_7); (try rw [show 0 * 8 = 0 from rfl] at hx139_7); (try rw [Addr.add_zero'] at hx139_7); have HR139_7 := A0_ hi139_7; have HC139_7 := A0_ hl139_7; clear hi139_7 hl139_7; replace p139 := eq_true p139; replace q139 := eq_true q139; have p140 : 0 ≤ (1 : Int) := (by omega); have q140 : 1 < (t121.length : Int) := wd_; obtain ⟨ad140, A140_7, c140_7, e140, hx140_0, hx140_1, hx140_2, hx140_3, hx140_4, hx140_5, hx140_6, hx140_7, hl140_7, hi140_7⟩ := at_T43 (Kd.V_reads' HO123.out).2.2 1 p140 q140; obtain rfl : ad139 = ad140 := (by injection e140); obtain ⟨ce140, hce140, hMe140, hcc140⟩ := Kd.V_get HO123.out z43 1 p140 (by first | exact q140 | exact wd_ | (have e_ := (Kd.V_reads' HO123.out).1; omega)); obtain ⟨ua140_7, uc140_7, rfl, ul140_7, ge140_7⟩ := k43_openF hMe140; have hv140_7 := hcc140 7 _ rfl; rw [add_field _ _ 7 (by omega)] at hv140_7; replace hv140_7 := Option.some.inj (hv140_7.symm.trans hx140_7); injection hv140_7 with hva_ hvn_ hvc_; rw [hva_] at ge140_7; rw [hvc_] at ul140_7; have HL140_7 := A0_ (show Kd.V (Kd.int .u8) 5 _ w.heap.size _ _ ((rd_T43 t121 1).f4) from Kd.V_mk ul140_7 ge140_7); clear hva_ hvn_ hvc_ ge140_7 ul140_7; clear hcc140 hce140; (try simp only [one_n, Nat.reduceMul, Nat.reduceEqDiff, Go.Addr.add, ↓reduceIte] at hx140_0); (try simp only [one_n, Nat.reduceMul, Nat.reduceEqDiff, Go.Addr.add, ↓reduceIte] at hx140_1); (try simp only [one_n, Nat.reduceMul, Nat.reduceEqDiff, Go.Addr.add, ↓reduceIte] at hx140_2); (try simp only [one_n, Nat.reduceMul, Nat.reduceEqDiff, Go.Addr.add, ↓reduceIte] at hx140_3); (try simp only [one_n, Nat.reduceMul, Nat.reduceEqDiff, Go.Addr.add, ↓reduceIte] at hx140_4); (try simp only [one_n, Nat.reduceMul, Nat.reduceEqDiff, Go.Addr.add, ↓reduceIte] at hx140_5); (try simp only [one_n, Nat.reduceMul, Nat.reduceEqDiff, Go.Addr.add, ↓reduceIte] at hx140_6); (try simp only [one_n, Nat.reduceMul, Nat.reduceEqDiff, Go.Addr.add, ↓reduceIte] at hx140_7); have qi140 : (1 < t121.length) = True := eq_true (by omega); (try rw [show ((1 : Int)).toNat = 1 from rfl] at hx140_0); (try rw [show 1 * 8 = 8 from rfl] at hx140_0); (try rw [show ((1 : Int)).toNat = 1 from rfl] at hx140_1); (try rw [show 1 * 8 = 8 from rfl] at hx140_1); (try rw [show ((1 : Int)).toNat = 1 from rfl] at hx140_2); (try rw [show 1 * 8 = 8 from rfl] at hx140_2); (try rw [show ((1 : Int)).toNat = 1 from rfl] at hx140_3); (try rw [show 1 * 8 = 8 from rfl] at hx140_3); (try rw [show ((1 : Int)).toNat = 1 from rfl] at hx140_4); (try rw [show 1 * 8 = 8 from rfl] at hx140_4); (try rw [show ((1 : Int)).toNat = 1 from rfl] at hx140_5); (try rw [show 1 * 8 = 8 from rfl] at hx140_5); (try rw [show ((1 : Int)).toNat = 1 from rfl] at hx140_6); (try rw [show 1 * 8 = 8 from rfl] at hx140_6); (try rw [show ((1 : Int)).toNat = 1 from rfl] at hx140_7); (try rw [show 1 * 8 = 8 from rfl] at hx140_7); have HR140_7 := A0_ hi140_7; have HC140_7 := A0_ hl140_7; clear hi140_7 hl140_7; replace p140 := eq_true p140; replace q140 := eq_true q140; have hcz30_0 : w27.cell? ⟨gb135, 0, none⟩ = some (.int .i64 t133) := (bc_ BK135.out 0).trans rfl; have hcz30_1 : w27.cell? ⟨gb135, 1, none⟩ = some (.int .i64 t134) := (bc_ BK135.out 1).trans rfl; have hfz30_0 := bf_ BK135.out 0; have hfz30_1 := bf_ BK135.out 1; obtain ⟨Ao31, co31, eo31⟩ := Kd.R_slice HO138.out; subst eo31; have p141 : 0 ≤ (1 : Int) := (by omega); have q141 : 1 < (t136.length : Int) := wd_; obtain ⟨ad141, e141, hx141_0⟩ := Kd.at_string (Kd.R_reads' HO138.out).2.2 1 p141 q141; cases e141; (try simp only [one_n, Nat.reduceMul, Nat.reduceEqDiff, Go.Addr.add, ↓reduceIte] at hx141_0); have qi141 : (1 < t136.length) = True := eq_true (by omega); (try rw [show ((1 : Int)).toNat = 1 from rfl] at hx141_0); replace p141 := eq_true p141; replace q141 := eq_true q141))
 go_ret
 exact ⟨we_, wb2_ HB.out GE126.out GE135.out⟩
end Go.Proofs.YtiijbmaamblidaaGreatDoor.Print

namespace Go.Proofs.YtiijbmaamblidaaGreatDoor.Print
open Go.RowKit Go.Proofs.YtiijbmaamblidaaGreatDoorW.PrintWords Go.Proofs.YtiijbmaamblidaaGreatDoorW.PrintLast Go.Proofs.YtiijbmaamblidaaGreatDoorW.PrintMore
attribute [local go_sem] max2_int min2_int max_two min_two max_three min_three max_four min_four   -- for this text's walks alone
set_option linter.unusedVariables false
set_option linter.unusedSimpArgs false
theorem eqA27 (d : Nat) (w : World) (x0 y0 : Int) (x1 y1 : Int) :
  (Op.equalIn (d + 2) 27 (.agg #[.int .i64 x0, .int .i64 x1]) (.agg #[.int .i64 y0, .int .i64 y1])).run Tryz.prog w = .ok (x0 == y0 && (x1 == y1)) w := by
 refine eqA_of Tryz.underlying27 (by kernel_rfl) ?_
 refine eqf_cons (by rfl) (by go_simp; rfl) (by go_simp; rfl) (by go_simp) ?_
 exact eqf_last (by rfl) (by go_simp; rfl) (by go_simp; rfl) (by go_simp)
end Go.Proofs.YtiijbmaamblidaaGreatDoor.Print

namespace Go.Proofs.YtiijbmaamblidaaGreatDoor.Print
open Go.RowKit Go.Proofs.YtiijbmaamblidaaGreatDoorW.PrintWords Go.Proofs.YtiijbmaamblidaaGreatDoorW.PrintLast Go.Proofs.YtiijbmaamblidaaGreatDoorW.PrintMore
attribute [local go_sem] max2_int min2_int max_two min_two max_three min_three max_four min_four   -- for this text's walks alone
set_option linter.unusedVariables false
set_option linter.unusedSimpArgs false
attribute [local go_sem high] eqA27
end Go.Proofs.YtiijbmaamblidaaGreatDoor.Print

namespace Go.Proofs.YtiijbmaamblidaaGreatDoor.Print
open Go.RowKit Go.Proofs.YtiijbmaamblidaaGreatDoorW.PrintWords Go.Proofs.YtiijbmaamblidaaGreatDoorW.PrintLast Go.Proofs.YtiijbmaamblidaaGreatDoorW.PrintMore
attribute [local go_sem] max2_int min2_int max_two min_two max_three min_three max_four min_four   -- for this text's walks alone
set_option linter.unusedVariables false
set_option linter.unusedSimpArgs false
end Go.Proofs.YtiijbmaamblidaaGreatDoor.Print

namespace Go.Proofs.YtiijbmaamblidaaGreatDoor
open Go.RowKit Go.Proofs.YtiijbmaamblidaaGreatDoor.Print Go.Proofs.YtiijbmaamblidaaGreatDoorW.PrintWords
set_option linter.unusedVariables false
theorem rfold_f {l : List Mem} (hz : MemsZ l) : bindleref08_Fold.f l = some (foldF l) := by
 unfold bindleref08_Fold.f
 rw [if_pos ((memsZ_iff l).2 hz)]
end Go.Proofs.YtiijbmaamblidaaGreatDoor

namespace Go.Proofs.YtiijbmaamblidaaGreatDoor.Print
open Go.RowKit Go.Proofs.YtiijbmaamblidaaGreatDoorW.PrintWords Go.Proofs.YtiijbmaamblidaaGreatDoorW.PrintLast Go.Proofs.YtiijbmaamblidaaGreatDoorW.PrintMore
attribute [local go_sem] max2_int min2_int max_two min_two max_three min_three max_four min_four   -- for this text's walks alone
set_option linter.unusedVariables false
set_option linter.unusedSimpArgs false
mutual
def bindlelaw18_FlatMore.j0 : Nat → List (S43) → List (S43) → Bool → Option (Bool)
 | 0, _, _, _ => none
 | k + 1, x0, x1, x22 => if x22 = true then ((bindlelaw18_answers.f).bind fun t151 => (some t151)) else ((flat_Flatten.f x0).bind fun bt152 => ((some (([] : List (S43)) : List (S43))).bind fun y158 => (if y158.length + x0.length < 1466015503701 then ((some (y158 ++ x0 : List (S43))).bind fun y161 => (if y161.length + x1.length < 1466015503701 then ((flat_Flatten.f (y161 ++ x1)).bind fun bt167 => (if bt152.2.1 = 0 then (bindlelaw18_FlatMore.j1 k x1 bt152.1 bt167.1 (bt167.2.1 != 0) bt152.2.1 bt152.2.2 bt167.2.1 bt167.2.2) else (bindlelaw18_FlatMore.j1 k x1 bt152.1 bt167.1 true bt152.2.1 bt152.2.2 bt167.2.1 bt167.2.2))) else (none))) else (none))))
def bindlelaw18_FlatMore.j1 : Nat → List (S43) → List (S43) → List (S43) → Bool → Int → Int → Int → Int → Option (Bool)
 | 0, _, _, _, _, _, _, _, _ => none
 | k + 1, x1, x5, x7, x45, x158000, x158001, x173000, x173001 => if x45 = true then ((bindlelaw18_answers.f).bind fun t173 => (if t173 = true then (if x158000 = 0 then (some true) else (some (x173000 != 0))) else (some false))) else ((some (([] : List (S43)) : List (S43))).bind fun y174 => (if y174.length + x5.length < 1466015503701 then ((some (y174 ++ x5 : List (S43))).bind fun y177 => (if y177.length + x1.length < 1466015503701 then ((flat_Flatten.f (y177 ++ x1)).bind fun bt183 => ((bindleref08_Fold.f x7).bind fun bt189 => ((bindleref08_Fold.f bt183.1).bind fun bt195 => ((bindlelaw18_answers.f).bind fun t201 => (if t201 = true then (if bt183.2.1 = 0 then ((bindleref08_SameTree.f k bt189.1 bt195.1).bind fun t202 => (some t202)) else (some false)) else (some false)))))) else (none))) else (none)))
end
def bindlelaw18_FlatMore.f (k : Nat) (l0 : List (S43)) (l1 : List (S43)) : Option (Bool) := (bindlelaw18_light.f k l0).bind fun t149 => (if t149 = true then ((bindlelaw18_light.f k l1).bind fun t150 => (bindlelaw18_FlatMore.j0 k l0 l1 (!t150))) else (bindlelaw18_FlatMore.j0 k l0 l1 true))
set_option maxHeartbeats 8000000 in
set_option maxRecDepth 100000 in
theorem bindlelaw18_FlatMore.calls (k : Nat) (P0_ : Nat → Prop) (A0 : Option Addr) (c0 : Nat) (l0 : List (S43)) (P1_ : Nat → Prop) (A1 : Option Addr) (c1 : Nat) (l1 : List (S43)) (r : Bool) (w : World) (hT : Aside0 (Tabs w)) (hs0 : Kd.V k43 43 w w.heap.size (fun k_ => P0_ k_) (.slice A0 l0.length c0) l0) (hs1 : Kd.V k43 43 w w.heap.size (fun k_ => P1_ k_) (.slice A1 l1.length c1) l1) (h : bindlelaw18_FlatMore.f k l0 l1 = some r) (hTRUE_ : Aside0 (r = true)) :
  Calls Tryz.prog 3 #[.slice A0 l0.length c0, .slice A1 l1.length c1] w fun e w' => e = .returned (.bool r) ∧ Below w.heap.size w w' := by
 have hu27 := Tryz.underlying27
 have HO0 := A0_ (show Kd.V k43 43 w w.heap.size (fun k_ => ((P0_ k_ ∨ P1_ k_) ∨ w.heap.size ≤ k_)) (.slice A0 l0.length c0) l0 from Kd.V_mono hs0 (fun k_ hk => .inl (.inl hk)))
 have HO1 := A0_ (show Kd.V k43 43 w w.heap.size (fun k_ => ((P0_ k_ ∨ P1_ k_) ∨ w.heap.size ≤ k_)) (.slice A1 l1.length c1) l1 from Kd.V_mono hs1 (fun k_ hk => .inl (.inr hk)))
 have HB := A0_ (Below.refl w.heap.size w)
 have H : ((bindlelaw18_light.f k l0).bind fun t149 => (if t149 = true then ((bindlelaw18_light.f k l1).bind fun t150 => (bindlelaw18_FlatMore.j0 k l0 l1 (!t150))) else (bindlelaw18_FlatMore.j0 k l0 l1 true))) = some r := h
 clear h
 have HC3 := A0_ H
 clear H
 go_enter Tryz.func3, Tryz.ntmps3
 go_upto_region 1 with (fail)
 go_cut [22] (fun v22 wc => ∃ (kq : Nat) (x22_2 : Bool), v22 = .bool x22_2 ∧ Aside0 (bindlelaw18_FlatMore.j0 kq l0 l1 x22_2 = some r) ∧ Aside0 (kq ≤ k) ∧ Aside0 (Kd.V k43 43 wc w.heap.size (fun k_ => ((P0_ k_ ∨ P1_ k_) ∨ w.heap.size ≤ k_)) (.slice A0 l0.length c0) l0) ∧ Aside0 (Kd.V k43 43 wc w.heap.size (fun k_ => ((P0_ k_ ∨ P1_ k_) ∨ w.heap.size ≤ k_)) (.slice A1 l1.length c1) l1) ∧ Aside0 (Below w.heap.size w wc))
 case first =>
  have H := HC3.out
  clear HC3
  replace H := Option.bind_eq_some_iff.mp H
  obtain ⟨t149, A40, H⟩ := H
  replace H : (if t149 = true then ((bindlelaw18_light.f k l1).bind fun t150 => (bindlelaw18_FlatMore.j0 k l0 l1 (!t150))) else (bindlelaw18_FlatMore.j0 k l0 l1 true)) = some r := H
  have A4 := A0_ A40
  clear A40
  by_cases c5 : t149 = true
  rotate_left
  ·replace c5 := Bool.eq_false_iff.mpr c5
   subst c5
   have H1 : (bindlelaw18_FlatMore.j0 k l0 l1 true) = some r := by rw [if_neg (show ¬ (false = true) by decide)] at H; exact H
   clear H
   have H := H1
   clear H1
   have H' := A0_ H
   clear H
   go_wp2_with (first | ((with_reducible refine gate_callee (f := 6) rfl ?_); refine goesL_ (some 16) rfl rfl Tryz.func6 (by kernel_rfl) rfl #[.slice A0 l0.length c0] rfl wm_ ?_; (with_reducible refine (bindlelaw18_light.calls k _ _ l0 false _ ?side1 ?side2 A4.out).mono ?_); (case side1 => exact wc_ (Kd.V_reads' HO0.out).2.2); (case side2 => exact (Kd.V_reads' HO0.out).2.1); rintro e w' ⟨rfl, ⟨nd, rfl⟩⟩; refine ⟨_, rfl, ?_⟩))
   go_meet
   case rel => exact ⟨_, (true), wr_, H', ⟨by first | omega | exact Nat.le_refl _⟩, ⟨wV_ HO0.out⟩, ⟨wV_ HO1.out⟩, ⟨wb_ HB.out⟩⟩
  subst c5
  have H1 : ((bindlelaw18_light.f k l1).bind fun t150 => (bindlelaw18_FlatMore.j0 k l0 l1 (!t150))) = some r := by rw [if_pos rfl] at H; exact H
  clear H
  have H := H1
  clear H1
  replace H := Option.bind_eq_some_iff.mp H
  obtain ⟨t150, A60, H⟩ := H
  replace H : (bindlelaw18_FlatMore.j0 k l0 l1 (!t150)) = some r := H
  have A6 := A0_ A60
  clear A60
  have H' := A0_ H
  clear H
  go_wp2_with (first | ((with_reducible refine gate_callee (f := 6) rfl ?_); refine goesL_ (some 16) rfl rfl Tryz.func6 (by kernel_rfl) rfl #[.slice A0 l0.length c0] rfl wm_ ?_; (with_reducible refine (bindlelaw18_light.calls k _ _ l0 true _ ?side1 ?side2 A4.out).mono ?_); (case side1 => exact wc_ (Kd.V_reads' HO0.out).2.2); (case side2 => exact (Kd.V_reads' HO0.out).2.1); rintro e w' ⟨rfl, ⟨nd, rfl⟩⟩; refine ⟨_, rfl, ?_⟩) | (go_at_call 6; (with_reducible refine (bindlelaw18_light.calls k _ _ l1 t150 _ ?side1 ?side2 A6.out).mono ?_); (case side1 => exact wc_ (Kd.V_reads' HO1.out).2.2); (case side2 => exact (Kd.V_reads' HO1.out).2.1); rintro e w' ⟨rfl, ⟨nd, rfl⟩⟩))
  go_meet
  case rel => exact ⟨_, (!t150), wr_, H', ⟨by first | omega | exact Nat.le_refl _⟩, ⟨wV_ HO0.out⟩, ⟨wV_ HO1.out⟩, ⟨wb_ HB.out⟩⟩
 case rest =>
  clear HC3
  try clear c1
  try clear p2
  try clear c3
  try clear c5
  try clear c6
  obtain ⟨kq, x22_2, rfl, HA, HJ2, HO_0, HO_1, HB⟩ := hcut
  cases kq with
  | zero => exact absurd HA.out (by simp [bindlelaw18_FlatMore.j0])
  | succ kj2 =>
   have H := HA.out
   clear HA
   simp only [bindlelaw18_FlatMore.j0] at H
   by_cases c7 : x22_2 = true
   ·subst c7
    have H1 : ((bindlelaw18_answers.f).bind fun t151 => (some t151)) = some r := by rw [if_pos rfl] at H; exact H
    clear H
    have H := H1
    clear H1
    replace H := Option.bind_eq_some_iff.mp H
    obtain ⟨t151, A80, H⟩ := H
    replace H : (some t151) = some r := H
    have A8 := A0_ A80
    clear A80
    obtain rfl := Option.some.inj H
    go_wp2_with (first | ((with_reducible refine gate_callee (f := 7) rfl ?_); refine goesL_ (some 23) rfl rfl Tryz.func7 (by kernel_rfl) rfl #[] rfl wm_ ?_; (with_reducible refine (bindlelaw18_answers.calls  t151 _ ?side1 A8.out).mono ?_); (case side1 => exact A0_ (Tabs.below hT.out (wb_ HB.out))); rintro e w9 ⟨rfl, hb⟩; refine ⟨_, rfl, ?_⟩; have n0_ := A0_ (Vb_ (wV_ HO_0.out) hb); have n1_ := A0_ (Vb_ (wV_ HO_1.out) hb); have n2_ := A0_ (below_step (wb_ HB.out) hb); clear HO_0; clear HO_1; clear HB; have HO_0 := n0_; have HO_1 := n1_; have HB := n2_; clear n0_ n1_ n2_; (try clear hb); (try clear hb2); (try clear hk); (try clear hi)))
    go_ret
    exact ⟨we_, wb_ HB.out⟩
   replace c7 := Bool.eq_false_iff.mpr c7
   subst c7
   have H1 : ((flat_Flatten.f l0).bind fun bt152 => ((some (([] : List (S43)) : List (S43))).bind fun y158 => (if y158.length + l0.length < 1466015503701 then ((some (y158 ++ l0 : List (S43))).bind fun y161 => (if y161.length + l1.length < 1466015503701 then ((flat_Flatten.f (y161 ++ l1)).bind fun bt167 => (if bt152.2.1 = 0 then (bindlelaw18_FlatMore.j1 kj2 l1 bt152.1 bt167.1 (bt167.2.1 != 0) bt152.2.1 bt152.2.2 bt167.2.1 bt167.2.2) else (bindlelaw18_FlatMore.j1 kj2 l1 bt152.1 bt167.1 true bt152.2.1 bt152.2.2 bt167.2.1 bt167.2.2))) else (none))) else (none)))) = some r := by rw [if_neg (show ¬ (false = true) by decide)] at H; exact H
   clear H
   have H := H1
   clear H1
   replace H := Option.bind_eq_some_iff.mp H
   obtain ⟨⟨t152, t155, t156⟩, A100, H⟩ := H
   replace H : ((some (([] : List (S43)) : List (S43))).bind fun y158 => (if y158.length + l0.length < 1466015503701 then ((some (y158 ++ l0 : List (S43))).bind fun y161 => (if y161.length + l1.length < 1466015503701 then ((flat_Flatten.f (y161 ++ l1)).bind fun bt167 => (if t155 = 0 then (bindlelaw18_FlatMore.j1 kj2 l1 t152 bt167.1 (bt167.2.1 != 0) t155 t156 bt167.2.1 bt167.2.2) else (bindlelaw18_FlatMore.j1 kj2 l1 t152 bt167.1 true t155 t156 bt167.2.1 bt167.2.2))) else (none))) else (none))) = some r := H
   have A10 := A0_ A100
   clear A100
   obtain ⟨y158, hy158⟩ : ∃ y_ : List (S43), y_ = (([] : List (S43))) := ⟨_, rfl⟩
   replace H : (if y158.length + l0.length < 1466015503701 then ((some (y158 ++ l0 : List (S43))).bind fun y161 => (if y161.length + l1.length < 1466015503701 then ((flat_Flatten.f (y161 ++ l1)).bind fun bt167 => (if t155 = 0 then (bindlelaw18_FlatMore.j1 kj2 l1 t152 bt167.1 (bt167.2.1 != 0) t155 t156 bt167.2.1 bt167.2.2) else (bindlelaw18_FlatMore.j1 kj2 l1 t152 bt167.1 true t155 t156 bt167.2.1 bt167.2.2))) else (none))) else (none)) = some r := by first | (rw [hy158]; with_reducible exact H) | (have H2_ := (Option.bind_some _ _).symm.trans H; rw [hy158]; with_reducible exact H2_) | (have H2_ := (Option.bind_some _ _).symm.trans H; with_reducible exact H2_) | with_reducible exact H | (rw [hy158]; exact H) | exact H
   have Ny158 := A0_ hy158
   clear hy158
   by_cases c11 : y158.length + l0.length < 1466015503701
   rotate_left
   ·rw [if_neg c11] at H
    exact absurd H (by simp)
   rw [if_pos c11] at H
   have LMc11 := A0_ c11
   clear c11
   obtain ⟨y161, hy161⟩ : ∃ y_ : List (S43), y_ = (y158 ++ l0) := ⟨_, rfl⟩
   replace H : (if y161.length + l1.length < 1466015503701 then ((flat_Flatten.f (y161 ++ l1)).bind fun bt167 => (if t155 = 0 then (bindlelaw18_FlatMore.j1 kj2 l1 t152 bt167.1 (bt167.2.1 != 0) t155 t156 bt167.2.1 bt167.2.2) else (bindlelaw18_FlatMore.j1 kj2 l1 t152 bt167.1 true t155 t156 bt167.2.1 bt167.2.2))) else (none)) = some r := by first | (rw [hy161]; with_reducible exact H) | (have H2_ := (Option.bind_some _ _).symm.trans H; rw [hy161]; with_reducible exact H2_) | (have H2_ := (Option.bind_some _ _).symm.trans H; with_reducible exact H2_) | with_reducible exact H | (rw [hy161]; exact H) | exact H
   have Ny161 := A0_ hy161
   clear hy161
   by_cases c12 : y161.length + l1.length < 1466015503701
   rotate_left
   ·rw [if_neg c12] at H
    exact absurd H (by simp)
   rw [if_pos c12] at H
   have LMc12 := A0_ c12
   clear c12
   obtain ⟨y164, hy164⟩ : ∃ y_ : List (S43), y_ = (y161 ++ l1) := ⟨_, rfl⟩
   replace H : ((flat_Flatten.f y164).bind fun bt167 => (if t155 = 0 then (bindlelaw18_FlatMore.j1 kj2 l1 t152 bt167.1 (bt167.2.1 != 0) t155 t156 bt167.2.1 bt167.2.2) else (bindlelaw18_FlatMore.j1 kj2 l1 t152 bt167.1 true t155 t156 bt167.2.1 bt167.2.2))) = some r := by first | (rw [hy164]; with_reducible exact H) | (have H2_ := (Option.bind_some _ _).symm.trans H; rw [hy164]; with_reducible exact H2_) | (have H2_ := (Option.bind_some _ _).symm.trans H; with_reducible exact H2_) | with_reducible exact H | (rw [hy164]; exact H) | exact H
   have Ny164 := A0_ hy164
   clear hy164
   replace H := Option.bind_eq_some_iff.mp H
   obtain ⟨⟨t167, t170, t171⟩, A130, H⟩ := H
   replace H : (if t155 = 0 then (bindlelaw18_FlatMore.j1 kj2 l1 t152 t167 (t170 != 0) t155 t156 t170 t171) else (bindlelaw18_FlatMore.j1 kj2 l1 t152 t167 true t155 t156 t170 t171)) = some r := H
   have A13 := A0_ A130
   clear A130
   have HC14 := A0_ H
   clear H
   go_upto_region 5 with (first | ((with_reducible refine gate_callee (f := 8) rfl ?_); refine goesL_ (some 26) rfl rfl Tryz.func8 (by kernel_rfl) rfl #[.slice A0 l0.length c0] rfl wm_ ?_; (with_reducible refine (flat_Flatten.calls _ _ l0 t152 t155 t156 _ ?side1 ?side2 ?side3 A10.out).mono ?_); (case side1 => exact A0_ (Tabs.below hT.out (wb_ HB.out))); (case side2 => exact wc_ (Kd.V_reads' HO_0.out).2.2); (case side3 => exact (Kd.V_reads' HO_0.out).2.1); rintro e w15 ⟨v153, rfl, ho0, hb⟩; refine ⟨_, rfl, ?_⟩; have n0_ := A0_ (Vb_ (wV_ HO_0.out) hb); have n1_ := A0_ (Vb_ (wV_ HO_1.out) hb); have n2_ := A0_ (Kd.V_lower (Kd.V_mono (ok' := fun k_ => ((P0_ k_ ∨ P1_ k_) ∨ w.heap.size ≤ k_)) ho0 (fun k_ hk_ => (.inr (Nat.le_trans (below_size (wb_ HB.out)) hk_)))) (below_size (wb_ HB.out))); have n3_ := A0_ (below_step (wb_ HB.out) hb); clear HO_0; clear HO_1; clear HB; have HO_0 := n0_; have HO_1 := n1_; have HO154 := n2_; have HB := n3_; clear n0_ n1_ n2_ n3_; (try clear hb); (try clear hb2); (try clear hk); (try clear hi); (try clear ho0)) | ((with_reducible refine gate_dst (N := 6) rfl ?_); refine box_event ?hg (N := 6) ?hd (cs := #[.int .i64 0, .int .i64 0]) (t := 27) ?hr ?_; (case hd => rfl); (case hg => rfl); (case hr => first | (go_simp; done) | (go_simp; rfl)); intro gb157 hg w16 hbox hb; have n0_ := A0_ (Vb_ (Kd.V_elderB (wV_ HO_0.out) gb157 (Nat.le_of_eq hg.symm)) hb); have n1_ := A0_ (Vb_ (Kd.V_elderB (wV_ HO_1.out) gb157 (Nat.le_of_eq hg.symm)) hb); have n2_ := A0_ (Vb_ (Kd.V_elderB (wV_ HO154.out) gb157 (Nat.le_of_eq hg.symm)) hb); have n3_ := A0_ (below_step (wb_ HB.out) hb); have n4_ := A0_ (hbox); have n5_ := A0_ ((by rw [hg]; exact (below_size (wb_ HB.out)) : w.heap.size ≤ gb157)); have n6_ := A0_ ((by rw [hg]; exact (below_size (wb_ HB.out)) : w.heap.size ≤ gb157)); clear HO_0; clear HO_1; clear HO154; clear HB; have HO_0 := n0_; have HO_1 := n1_; have HO154 := n2_; have HB := n3_; have BK157 := n4_; have GW157 := n5_; have GE157 := n6_; clear n0_ n1_ n2_ n3_ n4_ n5_ n6_; clear hb hbox hg; have hcz17_0 : w16.cell? ⟨gb157, 0, none⟩ = some (.int .i64 0) := (bc_ BK157.out 0).trans rfl; have hcz17_1 : w16.cell? ⟨gb157, 1, none⟩ = some (.int .i64 0) := (bc_ BK157.out 1).trans rfl; have hfz17_0 := bf_ BK157.out 0; have hfz17_1 := bf_ BK157.out 1) | ((with_reducible refine gate_dst (N := 30) rfl ?_); refine Kd.N_lit k43 _ 43 ?hg (N' := 30) ?hd (xs := ([] : List (S43))) (inner := []) (ok := (fun k_ => ((P0_ k_ ∨ P1_ k_) ∨ w.heap.size ≤ k_) ∧ k_ ≠ gb157)) (okp := (fun k_ => ((P0_ k_ ∨ P1_ k_) ∨ w.heap.size ≤ k_) ∧ k_ ≠ gb157)) ?hr ?hp (fun _ hk => hk) ((show ∀ k_, w16.heap.size ≤ k_ → (fun k_ => ((P0_ k_ ∨ P1_ k_) ∨ w.heap.size ≤ k_) ∧ k_ ≠ gb157) k_ from fun k_ hk => ⟨(.inr (Nat.le_trans (below_size (wb1_ HB.out GE157.out)) hk)), (by first | exact Kd.freshB (g := gb157) (o := .cells #[.int .i64 t155, .int .i64 t156] 27 (0, 0)) (by (with_reducible repeat (first | refine blk_drewN ?_ _ | refine blk_drew ?_ | refine blk_alloc ?_ _)); refine blk_put (cs := #[.int .i64 t155, .int .i64 0]) ?_ 1 _ rfl; (with_reducible repeat (first | refine blk_drewN ?_ _ | refine blk_drew ?_ | refine blk_alloc ?_ _)); refine blk_put (cs := #[.int .i64 0, .int .i64 0]) ?_ 0 _ rfl; (with_reducible repeat (first | refine blk_drewN ?_ _ | refine blk_drew ?_ | refine blk_alloc ?_ _)); exact BK157.out) k_ hk | exact Kd.freshB (g := gb157) BK157.out k_ hk)⟩) _ (by first | exact Nat.le_refl _ | simp)) (Below.refl _ _) (Nat.le_refl _) (by simp) ?_; (case hd => rfl); (case hg => rfl); (case hr => first | (go_simp; done) | (go_simp; rfl)); (case hp => exact (Reps.none _ _)); intro v159 w18 ho19 hb hg_ hnew_; clear hg_ hnew_; (first | rw [← Ny158.out] at ho19 | (simp only [Int.reduceToNat] at ho19; rw [← Ny158.out] at ho19)); have n0_ := A0_ (Kd.V_elder' (by (with_reducible repeat (first | apply Va_ | apply VN_ | apply V1_)); exact (Kd.V_mono (Kd.V_far (p := ⟨gb157, 1, none⟩) (Kd.V_far (p := ⟨gb157, 0, none⟩) (Kd.V_mono HO_0.out (fun k_ hk => (⟨hk, hk.2⟩ : _ ∧ k_ ≠ gb157))) (fun _ hk => hk.2) (.int .i64 t155)) (fun _ hk => hk.2) (.int .i64 t156)) (fun _ h_ => h_.1))) (Kd.N_base ho19) hb); have n1_ := A0_ (Kd.V_elder' (by (with_reducible repeat (first | apply Va_ | apply VN_ | apply V1_)); exact (Kd.V_mono (Kd.V_far (p := ⟨gb157, 1, none⟩) (Kd.V_far (p := ⟨gb157, 0, none⟩) (Kd.V_mono HO_1.out (fun k_ hk => (⟨hk, hk.2⟩ : _ ∧ k_ ≠ gb157))) (fun _ hk => hk.2) (.int .i64 t155)) (fun _ hk => hk.2) (.int .i64 t156)) (fun _ h_ => h_.1))) (Kd.N_base ho19) hb); have n2_ := A0_ (Kd.V_elder' (by (with_reducible repeat (first | apply Va_ | apply VN_ | apply V1_)); exact (Kd.V_mono (Kd.V_far (p := ⟨gb157, 1, none⟩) (Kd.V_far (p := ⟨gb157, 0, none⟩) (Kd.V_mono HO154.out (fun k_ hk => (⟨hk, hk.2⟩ : _ ∧ k_ ≠ gb157))) (fun _ hk => hk.2) (.int .i64 t155)) (fun _ hk => hk.2) (.int .i64 t156)) (fun _ h_ => h_.1))) (Kd.N_base ho19) hb); have n3_ := A0_ (Kd.N_lower ho19 (below_size (wb1_ HB.out GE157.out))); have n4_ := A0_ (blk_below (g := gb157) (o := .cells #[.int .i64 t155, .int .i64 t156] 27 (0, 0)) (by (with_reducible repeat (first | refine blk_drewN ?_ _ | refine blk_drew ?_ | refine blk_alloc ?_ _)); refine blk_put (cs := #[.int .i64 t155, .int .i64 0]) ?_ 1 _ rfl; (with_reducible repeat (first | refine blk_drewN ?_ _ | refine blk_drew ?_ | refine blk_alloc ?_ _)); refine blk_put (cs := #[.int .i64 0, .int .i64 0]) ?_ 0 _ rfl; (with_reducible repeat (first | refine blk_drewN ?_ _ | refine blk_drew ?_ | refine blk_alloc ?_ _)); exact BK157.out) hb); have n5_ := A0_ (below_step (wb1_ HB.out GE157.out) hb); clear HO_0; clear HO_1; clear HO154; clear BK157; clear HB; have HO_0 := n0_; have HO_1 := n1_; have HO154 := n2_; have HO160 := n3_; have BK157 := n4_; have HB := n5_; clear n0_ n1_ n2_ n3_ n4_ n5_; clear hb ho19) | ((with_reducible refine gate_builtin (b := .append) (xs := #[.tmp 30, .tmp 31]) rfl ?_); at_builtin; refine Kd.N_append_rows k43 (w0 := w) w.heap.size rfl (.tmp 30) (.tmp 31) 22 43 (.agg #[(.string ⟨#[]⟩), (.string ⟨#[]⟩), (.int .u8 0), (.int .i64 0), (.int .i64 0), (.int .i64 0), (.int .i64 0), (.slice none 0 0)]) 96 rfl Tryz.underlying22 info43 rfl (by decide) (by omega) v159 y158 l0 _ _ _ (fun k_ => ((P0_ k_ ∨ P1_ k_) ∨ w.heap.size ≤ k_) ∧ k_ ≠ gb157) (fun k_ => ((fun k_ => ((P0_ k_ ∨ P1_ k_) ∨ w.heap.size ≤ k_) ∧ k_ ≠ gb157)) k_ ∧ some k_ ≠ (v159 : Value).ownBlock) rfl rfl ?aO ?aR (fun _ hk => hk) ?aF ?aB ?aS ?aL ?_; (case aR => exact (by skip; exact Kd.V_F (Kd.V_mono (ok' := (fun k_ => ((fun k_ => ((P0_ k_ ∨ P1_ k_) ∨ w.heap.size ≤ k_) ∧ k_ ≠ gb157)) k_ ∧ some k_ ≠ (v159 : Value).ownBlock)) (HO_0.out) (fun k_ hk => ⟨⟨hk.1.1, hk.1.2⟩, hk.2⟩)))); (case aB => exact (wb1_ HB.out GE157.out)); (case aF => exact (fun k_ hk => ⟨(.inr (Nat.le_trans (below_size (wb1_ HB.out GE157.out)) hk)), Kd.freshB (g := gb157) (o := .cells #[.int .i64 t155, .int .i64 t156] 27 (0, 0)) (wB_ BK157.out) k_ hk⟩)); (case aO => exact (wN_ HO160.out)); (case aS => exact (below_size (wb1_ HB.out GE157.out))); (case aL => have := LMc11.out; omega); intro v162 w20 ho hb hg hat; rw [← Ny161.out] at ho; have n0_ := A0_ (Kd.V_afterv (ok := (fun k_ => ((P0_ k_ ∨ P1_ k_) ∨ w.heap.size ≤ k_) ∧ k_ ≠ gb157)) (wV_ HO_0.out) hg hat); have n1_ := A0_ (Kd.V_afterv (ok := (fun k_ => ((P0_ k_ ∨ P1_ k_) ∨ w.heap.size ≤ k_) ∧ k_ ≠ gb157)) (wV_ HO_1.out) hg hat); have n2_ := A0_ (Kd.V_afterv (ok := (fun k_ => ((P0_ k_ ∨ P1_ k_) ∨ w.heap.size ≤ k_) ∧ k_ ≠ gb157)) (wV_ HO154.out) hg hat); have n3_ := A0_ (blk_grown (g := gb157) (o := .cells #[.int .i64 t155, .int .i64 t156] 27 (0, 0)) (wB_ BK157.out) hg (Kd.N_ne HO160.out BK157.out (by decide))); have n4_ := A0_ (hb); have n5_ := A0_ (ho); clear HO_0; clear HO_1; clear HO154; clear BK157; clear HB; clear HO160; have HO_0 := n0_; have HO_1 := n1_; have HO154 := n2_; have BK157 := n3_; have HB := n4_; have HO163 := n5_; clear n0_ n1_ n2_ n3_ n4_ n5_; clear ho hb hg hat) | ((with_reducible refine gate_builtin (b := .append) (xs := #[.tmp 32, .tmp 33]) rfl ?_); at_builtin; refine Kd.N_append_rows k43 (w0 := w) w.heap.size rfl (.tmp 32) (.tmp 33) 22 43 (.agg #[(.string ⟨#[]⟩), (.string ⟨#[]⟩), (.int .u8 0), (.int .i64 0), (.int .i64 0), (.int .i64 0), (.int .i64 0), (.slice none 0 0)]) 96 rfl Tryz.underlying22 info43 rfl (by decide) (by omega) v162 y161 l1 _ _ _ (fun k_ => ((P0_ k_ ∨ P1_ k_) ∨ w.heap.size ≤ k_) ∧ k_ ≠ gb157) (fun k_ => ((fun k_ => ((P0_ k_ ∨ P1_ k_) ∨ w.heap.size ≤ k_) ∧ k_ ≠ gb157)) k_ ∧ some k_ ≠ (v162 : Value).ownBlock) rfl rfl ?aO ?aR (fun _ hk => hk) ?aF ?aB ?aS ?aL ?_; (case aR => exact (by skip; exact Kd.V_F (Kd.V_mono (ok' := (fun k_ => ((fun k_ => ((P0_ k_ ∨ P1_ k_) ∨ w.heap.size ≤ k_) ∧ k_ ≠ gb157)) k_ ∧ some k_ ≠ (v162 : Value).ownBlock)) (HO_1.out) (fun k_ hk => ⟨⟨hk.1.1, hk.1.2⟩, hk.2⟩)))); (case aB => exact (wb1_ HB.out GE157.out)); (case aF => exact (fun k_ hk => ⟨(.inr (Nat.le_trans (below_size (wb1_ HB.out GE157.out)) hk)), Kd.freshB (g := gb157) (o := .cells #[.int .i64 t155, .int .i64 t156] 27 (0, 0)) (wB_ BK157.out) k_ hk⟩)); (case aO => exact (wN_ HO163.out)); (case aS => exact (below_size (wb1_ HB.out GE157.out))); (case aL => have := LMc12.out; omega); intro v165 w21 ho hb hg hat; rw [← Ny164.out] at ho; have n0_ := A0_ (Kd.V_afterv (ok := (fun k_ => ((P0_ k_ ∨ P1_ k_) ∨ w.heap.size ≤ k_) ∧ k_ ≠ gb157)) (wV_ HO_0.out) hg hat); have n1_ := A0_ (Kd.V_afterv (ok := (fun k_ => ((P0_ k_ ∨ P1_ k_) ∨ w.heap.size ≤ k_) ∧ k_ ≠ gb157)) (wV_ HO_1.out) hg hat); have n2_ := A0_ (Kd.V_afterv (ok := (fun k_ => ((P0_ k_ ∨ P1_ k_) ∨ w.heap.size ≤ k_) ∧ k_ ≠ gb157)) (wV_ HO154.out) hg hat); have n3_ := A0_ (blk_grown (g := gb157) (o := .cells #[.int .i64 t155, .int .i64 t156] 27 (0, 0)) (wB_ BK157.out) hg (Kd.N_ne HO163.out BK157.out (by decide))); have n4_ := A0_ (hb); have n5_ := A0_ (ho); clear HO_0; clear HO_1; clear HO154; clear BK157; clear HB; clear HO163; have HO_0 := n0_; have HO_1 := n1_; have HO154 := n2_; have BK157 := n3_; have HB := n4_; have HO166 := n5_; clear n0_ n1_ n2_ n3_ n4_ n5_; clear ho hb hg hat; obtain ⟨Ao22, co22, eo22⟩ := Kd.N_slice HO166.out; subst eo22) | ((with_reducible refine gate_callee (f := 8) rfl ?_); refine goesL_ (some 35) rfl rfl Tryz.func8 (by kernel_rfl) rfl #[.slice Ao22 y164.length co22] rfl wm_ ?_; (with_reducible refine (flat_Flatten.calls _ _ y164 t167 t170 t171 _ ?side1 ?side2 ?side3 A13.out).mono ?_); (case side1 => exact A0_ (Tabs.below hT.out (wb1_ HB.out GE157.out))); (case side2 => exact wc_ (Kd.N_reads' HO166.out).2.2); (case side3 => exact (Kd.N_reads' HO166.out).2.1); rintro e w23 ⟨v168, rfl, ho0, hb⟩; refine ⟨_, rfl, ?_⟩; have n0_ := A0_ (Vb_ (wV_ HO_0.out) hb); have n1_ := A0_ (Vb_ (wV_ HO_1.out) hb); have n2_ := A0_ (Vb_ (wV_ HO154.out) hb); have n3_ := A0_ (Kd.N_below (wN_ HO166.out) hb); have n4_ := A0_ (Kd.V_lower (Kd.V_mono (ok' := fun k_ => ((P0_ k_ ∨ P1_ k_) ∨ w.heap.size ≤ k_) ∧ some k_ ≠ (.slice Ao22 y164.length co22 : Value).ownBlock ∧ k_ ≠ gb157) ho0 (fun k_ hk_ => ⟨(.inr (Nat.le_trans (below_size (wb1_ HB.out GE157.out)) hk_)), (Kd.fresh' (Kd.N_lt (wN_ HO166.out)) k_ hk_), (Kd.freshB (g := gb157) (o := .cells #[.int .i64 t155, .int .i64 t156] 27 (0, 0)) (wB_ BK157.out) k_ hk_)⟩)) (below_size (wb1_ HB.out GE157.out))); have n5_ := A0_ (blk_below (g := gb157) (o := .cells #[.int .i64 t155, .int .i64 t156] 27 (0, 0)) (wB_ BK157.out) hb); have n6_ := A0_ (below_step (wb1_ HB.out GE157.out) hb); clear HO_0; clear HO_1; clear HO154; clear HO166; clear BK157; clear HB; have HO_0 := n0_; have HO_1 := n1_; have HO154 := n2_; have HO166 := n3_; have HO169 := n4_; have BK157 := n5_; have HB := n6_; clear n0_ n1_ n2_ n3_ n4_ n5_ n6_; (try clear hb); (try clear hb2); (try clear hk); (try clear hi); (try clear ho0)) | ((with_reducible refine gate_dst (N := 8) rfl ?_); refine box_event ?hg (N := 8) ?hd (cs := #[.int .i64 0, .int .i64 0]) (t := 27) ?hr ?_; (case hd => rfl); (case hg => rfl); (case hr => first | (go_simp; done) | (go_simp; rfl)); intro gb172 hg w24 hbox hb; have n0_ := A0_ (Vb_ (Kd.V_elderB (wV_ HO_0.out) gb172 (Nat.le_of_eq hg.symm)) hb); have n1_ := A0_ (Vb_ (Kd.V_elderB (wV_ HO_1.out) gb172 (Nat.le_of_eq hg.symm)) hb); have n2_ := A0_ (Vb_ (Kd.V_elderB (wV_ HO154.out) gb172 (Nat.le_of_eq hg.symm)) hb); have n3_ := A0_ (Kd.N_below (Kd.N_elderB (wN_ HO166.out) gb172 (Nat.le_of_eq hg.symm)) hb); have n4_ := A0_ (Vb_ (Kd.V_elderB (wV_ HO169.out) gb172 (Nat.le_of_eq hg.symm)) hb); have n5_ := A0_ (blk_below (g := gb157) (o := .cells #[.int .i64 t155, .int .i64 t156] 27 (0, 0)) (wB_ BK157.out) hb); have n6_ := A0_ (below_step (wb1_ HB.out GE157.out) hb); have n7_ := A0_ (hbox); have n8_ := A0_ ((by rw [hg]; exact (below_size (wb1_ HB.out GE157.out)) : w.heap.size ≤ gb172)); have n9_ := A0_ ((by rw [hg]; exact (below_size (wb1_ HB.out GE157.out)) : w.heap.size ≤ gb172)); have n10_ := A0_ ((by rw [hg]; exact Nat.ne_of_lt (blk_lt (g := gb157) (o := .cells #[.int .i64 t155, .int .i64 t156] 27 (0, 0)) (wB_ BK157.out)) : gb157 ≠ gb172)); have n11_ := A0_ ((by rw [hg]; exact Nat.ne_of_gt (blk_lt (g := gb157) (o := .cells #[.int .i64 t155, .int .i64 t156] 27 (0, 0)) (wB_ BK157.out)) : gb172 ≠ gb157)); clear HO_0; clear HO_1; clear HO154; clear HO166; clear HO169; clear BK157; clear HB; have HO_0 := n0_; have HO_1 := n1_; have HO154 := n2_; have HO166 := n3_; have HO169 := n4_; have BK157 := n5_; have HB := n6_; have BK172 := n7_; have GW172 := n8_; have GE172 := n9_; have NB157_172 := n10_; have NB172_157 := n11_; clear n0_ n1_ n2_ n3_ n4_ n5_ n6_ n7_ n8_ n9_ n10_ n11_; clear hb hbox hg; have hnb25 := NB172_157.out; have hnc25 := NB157_172.out; have hcz26_0 : w24.cell? ⟨gb172, 0, none⟩ = some (.int .i64 0) := (bc_ BK172.out 0).trans rfl; have hcz26_1 : w24.cell? ⟨gb172, 1, none⟩ = some (.int .i64 0) := (bc_ BK172.out 1).trans rfl; have hfz26_0 := bf_ BK172.out 0; have hfz26_1 := bf_ BK172.out 1))
   (try simp only [Act.put, List.setIfInBounds_toArray, List.set_cons_zero, List.set_cons_succ])
   go_cut [45] (fun v45 wc => ∃ (kq : Nat) (x45_13 : Bool), v45 = .bool x45_13 ∧ Aside0 (bindlelaw18_FlatMore.j1 kq l1 t152 t167 x45_13 t155 t156 t170 t171 = some r) ∧ Aside0 (kq ≤ kj2) ∧ Aside0 (Kd.V k43 43 wc w.heap.size (fun k_ => ((P0_ k_ ∨ P1_ k_) ∨ w.heap.size ≤ k_) ∧ k_ ≠ gb157 ∧ k_ ≠ gb172) (.slice A1 l1.length c1) l1) ∧ Aside0 (Kd.V k43 43 wc w.heap.size (fun k_ => ((P0_ k_ ∨ P1_ k_) ∨ w.heap.size ≤ k_) ∧ k_ ≠ gb157 ∧ k_ ≠ gb172) v153 t152) ∧ Aside0 (Kd.V k43 43 wc w.heap.size (fun k_ => ((P0_ k_ ∨ P1_ k_) ∨ w.heap.size ≤ k_) ∧ k_ ≠ gb157 ∧ k_ ≠ gb172) v168 t167) ∧ Aside0 (wc.heap[gb157]? = some (.cells #[.int .i64 t155, .int .i64 t156] 27 (0, 0))) ∧ Aside0 (wc.heap[gb172]? = some (.cells #[.int .i64 t170, .int .i64 t171] 27 (0, 0))) ∧ Aside0 (Below w.heap.size w wc))
   case first =>
    have H := HC14.out
    clear HC14
    by_cases c27 : t155 = 0
    rotate_left
    ·rw [if_neg c27] at H
     have c27b0 : (t155 == 0) = false := beq_eq_false_iff_ne.mpr c27
     have c27b1 : (t155 != 0) = true := bne_iff_ne.mpr c27
     (first | rw [c27b0] | (simp only [i64_w, i32_w]; rw [c27b0]) | skip)
     have H' := A0_ H
     clear H
     have hnb31 := NB157_172.out
     have hnc31 := NB172_157.out
     have hcz32_0 : w24.cell? ⟨gb157, 0, none⟩ = some (.int .i64 t155) := (bc_ BK157.out 0).trans rfl
     have hcz32_1 : w24.cell? ⟨gb157, 1, none⟩ = some (.int .i64 t156) := (bc_ BK157.out 1).trans rfl
     have hfz32_0 := bf_ BK157.out 0
     have hfz32_1 := bf_ BK157.out 1
     go_wp2
     go_meet
     case rel => exact ⟨_, (true), wr_, H', ⟨by have := HJ2.out; first | omega | exact Nat.le_refl _⟩, ⟨by (with_reducible repeat (first | apply Va_ | apply VN_ | apply V1_)); exact Kd.V_mono (Kd.V_far (p := ⟨gb172, 1, none⟩) (Kd.V_far (p := ⟨gb172, 0, none⟩) (Kd.V_mono HO_1.out (fun k_ hk => (⟨hk, hk.2⟩ : _ ∧ k_ ≠ gb172))) (fun _ hk => hk.2) (.int .i64 t170)) (fun _ hk => hk.2) (.int .i64 t171)) (fun _ hk => ⟨hk.1.1.1.1, ⟨hk.1.1.1.2, hk.1.2⟩⟩)⟩, ⟨by (with_reducible repeat (first | apply Va_ | apply VN_ | apply V1_)); exact Kd.V_mono (Kd.V_far (p := ⟨gb172, 1, none⟩) (Kd.V_far (p := ⟨gb172, 0, none⟩) (Kd.V_mono HO154.out (fun k_ hk => (⟨hk, hk.2⟩ : _ ∧ k_ ≠ gb172))) (fun _ hk => hk.2) (.int .i64 t170)) (fun _ hk => hk.2) (.int .i64 t171)) (fun _ hk => ⟨hk.1.1.1.1, ⟨hk.1.1.1.2, hk.1.2⟩⟩)⟩, ⟨by (with_reducible repeat (first | apply Va_ | apply VN_ | apply V1_)); exact Kd.V_mono (Kd.V_far (p := ⟨gb172, 1, none⟩) (Kd.V_far (p := ⟨gb172, 0, none⟩) (Kd.V_mono HO169.out (fun k_ hk => (⟨hk, hk.2⟩ : _ ∧ k_ ≠ gb172))) (fun _ hk => hk.2) (.int .i64 t170)) (fun _ hk => hk.2) (.int .i64 t171)) (fun _ hk => ⟨hk.1.1.1, ⟨hk.1.1.2.2, hk.1.2⟩⟩)⟩, ⟨by (with_reducible repeat (first | refine blk_drewN ?_ _ | refine blk_drew ?_ | refine blk_alloc ?_ _)); refine blk_far ?_ NB157_172.out _; (with_reducible repeat (first | refine blk_drewN ?_ _ | refine blk_drew ?_ | refine blk_alloc ?_ _)); refine blk_far ?_ NB157_172.out _; (with_reducible repeat (first | refine blk_drewN ?_ _ | refine blk_drew ?_ | refine blk_alloc ?_ _)); exact BK157.out⟩, ⟨by (with_reducible repeat (first | refine blk_drewN ?_ _ | refine blk_drew ?_ | refine blk_alloc ?_ _)); refine blk_put (cs := #[.int .i64 t170, .int .i64 0]) ?_ 1 _ rfl; (with_reducible repeat (first | refine blk_drewN ?_ _ | refine blk_drew ?_ | refine blk_alloc ?_ _)); refine blk_put (cs := #[.int .i64 0, .int .i64 0]) ?_ 0 _ rfl; (with_reducible repeat (first | refine blk_drewN ?_ _ | refine blk_drew ?_ | refine blk_alloc ?_ _)); exact BK172.out⟩, ⟨wb2_ HB.out GE157.out GE172.out⟩⟩
    rw [if_pos c27] at H
    have c27b0 : (t155 == 0) = true := beq_iff_eq.mpr c27
    have c27b1 : (t155 != 0) = false := bne_eq_false_iff_eq.mpr c27
    clear c27
    (first | rw [c27b0] | (simp only [i64_w, i32_w]; rw [c27b0]) | skip)
    have H' := A0_ H
    clear H
    have hnb28 := NB157_172.out
    have hnc28 := NB172_157.out
    have hcz29_0 : w24.cell? ⟨gb157, 0, none⟩ = some (.int .i64 t155) := (bc_ BK157.out 0).trans rfl
    have hcz29_1 : w24.cell? ⟨gb157, 1, none⟩ = some (.int .i64 t156) := (bc_ BK157.out 1).trans rfl
    have hfz29_0 := bf_ BK157.out 0
    have hfz29_1 := bf_ BK157.out 1
    have hcz30_0 : w24.cell? ⟨gb172, 0, none⟩ = some (.int .i64 0) := (bc_ BK172.out 0).trans rfl
    have hcz30_1 : w24.cell? ⟨gb172, 1, none⟩ = some (.int .i64 0) := (bc_ BK172.out 1).trans rfl
    have hfz30_0 := bf_ BK172.out 0
    have hfz30_1 := bf_ BK172.out 1
    go_wp2
    go_meet
    case rel => exact ⟨_, ((t170 != 0)), wr_, H', ⟨by have := HJ2.out; first | omega | exact Nat.le_refl _⟩, ⟨by (with_reducible repeat (first | apply Va_ | apply VN_ | apply V1_)); exact Kd.V_mono (Kd.V_far (p := ⟨gb172, 1, none⟩) (Kd.V_far (p := ⟨gb172, 0, none⟩) (Kd.V_mono HO_1.out (fun k_ hk => (⟨hk, hk.2⟩ : _ ∧ k_ ≠ gb172))) (fun _ hk => hk.2) (.int .i64 t170)) (fun _ hk => hk.2) (.int .i64 t171)) (fun _ hk => ⟨hk.1.1.1.1, ⟨hk.1.1.1.2, hk.1.2⟩⟩)⟩, ⟨by (with_reducible repeat (first | apply Va_ | apply VN_ | apply V1_)); exact Kd.V_mono (Kd.V_far (p := ⟨gb172, 1, none⟩) (Kd.V_far (p := ⟨gb172, 0, none⟩) (Kd.V_mono HO154.out (fun k_ hk => (⟨hk, hk.2⟩ : _ ∧ k_ ≠ gb172))) (fun _ hk => hk.2) (.int .i64 t170)) (fun _ hk => hk.2) (.int .i64 t171)) (fun _ hk => ⟨hk.1.1.1.1, ⟨hk.1.1.1.2, hk.1.2⟩⟩)⟩, ⟨by (with_reducible repeat (first | apply Va_ | apply VN_ | apply V1_)); exact Kd.V_mono (Kd.V_far (p := ⟨gb172, 1, none⟩) (Kd.V_far (p := ⟨gb172, 0, none⟩) (Kd.V_mono HO169.out (fun k_ hk => (⟨hk, hk.2⟩ : _ ∧ k_ ≠ gb172))) (fun _ hk => hk.2) (.int .i64 t170)) (fun _ hk => hk.2) (.int .i64 t171)) (fun _ hk => ⟨hk.1.1.1, ⟨hk.1.1.2.2, hk.1.2⟩⟩)⟩, ⟨by (with_reducible repeat (first | refine blk_drewN ?_ _ | refine blk_drew ?_ | refine blk_alloc ?_ _)); refine blk_far ?_ NB157_172.out _; (with_reducible repeat (first | refine blk_drewN ?_ _ | refine blk_drew ?_ | refine blk_alloc ?_ _)); refine blk_far ?_ NB157_172.out _; (with_reducible repeat (first | refine blk_drewN ?_ _ | refine blk_drew ?_ | refine blk_alloc ?_ _)); exact BK157.out⟩, ⟨by (with_reducible repeat (first | refine blk_drewN ?_ _ | refine blk_drew ?_ | refine blk_alloc ?_ _)); refine blk_put (cs := #[.int .i64 t170, .int .i64 0]) ?_ 1 _ rfl; (with_reducible repeat (first | refine blk_drewN ?_ _ | refine blk_drew ?_ | refine blk_alloc ?_ _)); refine blk_put (cs := #[.int .i64 0, .int .i64 0]) ?_ 0 _ rfl; (with_reducible repeat (first | refine blk_drewN ?_ _ | refine blk_drew ?_ | refine blk_alloc ?_ _)); exact BK172.out⟩, ⟨wb2_ HB.out GE157.out GE172.out⟩⟩
   case rest =>
    clear HC14
    try clear c1
    try clear c2
    try clear p2
    try clear c3
    try clear c5
    try clear c6
    try clear c7
    try clear c8
    try clear c11
    try clear c12
    try clear c25
    try clear c27
    try clear c27b0
    try clear c27b1
    try clear c28
    try clear c31
    try clear hcz17_0
    try clear hcz17_1
    try clear hcz26_0
    try clear hcz26_1
    try clear hcz29_0
    try clear hcz29_1
    try clear hcz30_0
    try clear hcz30_1
    try clear hcz32_0
    try clear hcz32_1
    try clear hfz17_0
    try clear hfz17_1
    try clear hfz26_0
    try clear hfz26_1
    try clear hfz29_0
    try clear hfz29_1
    try clear hfz30_0
    try clear hfz30_1
    try clear hfz32_0
    try clear hfz32_1
    try clear p2
    obtain ⟨kq, x45_13, rfl, HA, HJ13, HO_1, HO_5, HO_7, BK157, BK172, HB⟩ := hcut
    cases kq with
    | zero => exact absurd HA.out (by simp [bindlelaw18_FlatMore.j1])
    | succ kj13 =>
     have H := HA.out
     clear HA
     simp only [bindlelaw18_FlatMore.j1] at H
     by_cases c33 : x45_13 = true
     ·subst c33
      have H1 : ((bindlelaw18_answers.f).bind fun t173 => (if t173 = true then (if t155 = 0 then (some true) else (some (t170 != 0))) else (some false))) = some r := by rw [if_pos rfl] at H; exact H
      clear H
      have H := H1
      clear H1
      replace H := Option.bind_eq_some_iff.mp H
      obtain ⟨t173, A340, H⟩ := H
      replace H : (if t173 = true then (if t155 = 0 then (some true) else (some (t170 != 0))) else (some false)) = some r := H
      have A34 := A0_ A340
      clear A340
      by_cases c35 : t173 = true
      rotate_left
      ·replace c35 := Bool.eq_false_iff.mpr c35
       subst c35
       have H1 : (some false) = some r := by rw [if_neg (show ¬ (false = true) by decide)] at H; exact H
       clear H
       have H := H1
       clear H1
       exact absurd ((Option.some.inj H).trans hTRUE_.out) (by decide)
      subst c35
      have H1 : (if t155 = 0 then (some true) else (some (t170 != 0))) = some r := by rw [if_pos rfl] at H; exact H
      clear H
      have H := H1
      clear H1
      by_cases c36 : t155 = 0
      ·rw [if_pos c36] at H
       have c36b0 : (t155 == 0) = true := beq_iff_eq.mpr c36
       have c36b1 : (t155 != 0) = false := bne_eq_false_iff_eq.mpr c36
       clear c36
       obtain rfl := Option.some.inj H
       go_wp2_with (first | ((with_reducible refine gate_callee (f := 7) rfl ?_); refine goesL_ (some 46) rfl rfl Tryz.func7 (by kernel_rfl) rfl #[] rfl wm_ ?_; (with_reducible refine (bindlelaw18_answers.calls  true _ ?side1 A34.out).mono ?_); (case side1 => exact A0_ (Tabs.below hT.out (wb2_ HB.out GE157.out GE172.out))); rintro e w37 ⟨rfl, hb⟩; refine ⟨_, rfl, ?_⟩; have n0_ := A0_ (Vb_ (wV_ HO_1.out) hb); have n1_ := A0_ (Vb_ (wV_ HO_5.out) hb); have n2_ := A0_ (Vb_ (wV_ HO_7.out) hb); have n3_ := A0_ (blk_below (g := gb157) (o := .cells #[.int .i64 t155, .int .i64 t156] 27 (0, 0)) (wB_ BK157.out) hb); have n4_ := A0_ (blk_below (g := gb172) (o := .cells #[.int .i64 t170, .int .i64 t171] 27 (0, 0)) (wB_ BK172.out) hb); have n5_ := A0_ (below_step (wb2_ HB.out GE157.out GE172.out) hb); clear HO_1; clear HO_5; clear HO_7; clear BK157; clear BK172; clear HB; have HO_1 := n0_; have HO_5 := n1_; have HO_7 := n2_; have BK157 := n3_; have BK172 := n4_; have HB := n5_; clear n0_ n1_ n2_ n3_ n4_ n5_; (try clear hb); (try clear hb2); (try clear hk); (try clear hi); have hnb38 := NB157_172.out; have hnc38 := NB172_157.out; have hcz39_0 : w37.cell? ⟨gb157, 0, none⟩ = some (.int .i64 t155) := (bc_ BK157.out 0).trans rfl; have hcz39_1 : w37.cell? ⟨gb157, 1, none⟩ = some (.int .i64 t156) := (bc_ BK157.out 1).trans rfl; have hfz39_0 := bf_ BK157.out 0; have hfz39_1 := bf_ BK157.out 1))
       go_ret
       exact ⟨we_, wb2_ HB.out GE157.out GE172.out⟩
      rw [if_neg c36] at H
      have c36b0 : (t155 == 0) = false := beq_eq_false_iff_ne.mpr c36
      have c36b1 : (t155 != 0) = true := bne_iff_ne.mpr c36
      obtain rfl := Option.some.inj H
      go_wp2_with (first | ((with_reducible refine gate_callee (f := 7) rfl ?_); refine goesL_ (some 46) rfl rfl Tryz.func7 (by kernel_rfl) rfl #[] rfl wm_ ?_; (with_reducible refine (bindlelaw18_answers.calls  true _ ?side1 A34.out).mono ?_); (case side1 => exact A0_ (Tabs.below hT.out (wb2_ HB.out GE157.out GE172.out))); rintro e w40 ⟨rfl, hb⟩; refine ⟨_, rfl, ?_⟩; have n0_ := A0_ (Vb_ (wV_ HO_1.out) hb); have n1_ := A0_ (Vb_ (wV_ HO_5.out) hb); have n2_ := A0_ (Vb_ (wV_ HO_7.out) hb); have n3_ := A0_ (blk_below (g := gb157) (o := .cells #[.int .i64 t155, .int .i64 t156] 27 (0, 0)) (wB_ BK157.out) hb); have n4_ := A0_ (blk_below (g := gb172) (o := .cells #[.int .i64 t170, .int .i64 t171] 27 (0, 0)) (wB_ BK172.out) hb); have n5_ := A0_ (below_step (wb2_ HB.out GE157.out GE172.out) hb); clear HO_1; clear HO_5; clear HO_7; clear BK157; clear BK172; clear HB; have HO_1 := n0_; have HO_5 := n1_; have HO_7 := n2_; have BK157 := n3_; have BK172 := n4_; have HB := n5_; clear n0_ n1_ n2_ n3_ n4_ n5_; (try clear hb); (try clear hb2); (try clear hk); (try clear hi); have hnb41 := NB157_172.out; have hnc41 := NB172_157.out; have hcz42_0 : w40.cell? ⟨gb157, 0, none⟩ = some (.int .i64 t155) := (bc_ BK157.out 0).trans rfl; have hcz42_1 : w40.cell? ⟨gb157, 1, none⟩ = some (.int .i64 t156) := (bc_ BK157.out 1).trans rfl; have hfz42_0 := bf_ BK157.out 0; have hfz42_1 := bf_ BK157.out 1; have hcz43_0 : w40.cell? ⟨gb172, 0, none⟩ = some (.int .i64 t170) := (bc_ BK172.out 0).trans rfl; have hcz43_1 : w40.cell? ⟨gb172, 1, none⟩ = some (.int .i64 t171) := (bc_ BK172.out 1).trans rfl; have hfz43_0 := bf_ BK172.out 0; have hfz43_1 := bf_ BK172.out 1))
      go_ret
      exact ⟨we_, wb2_ HB.out GE157.out GE172.out⟩
     replace c33 := Bool.eq_false_iff.mpr c33
     subst c33
     have H1 : ((some (([] : List (S43)) : List (S43))).bind fun y174 => (if y174.length + t152.length < 1466015503701 then ((some (y174 ++ t152 : List (S43))).bind fun y177 => (if y177.length + l1.length < 1466015503701 then ((flat_Flatten.f (y177 ++ l1)).bind fun bt183 => ((bindleref08_Fold.f t167).bind fun bt189 => ((bindleref08_Fold.f bt183.1).bind fun bt195 => ((bindlelaw18_answers.f).bind fun t201 => (if t201 = true then (if bt183.2.1 = 0 then ((bindleref08_SameTree.f kj13 bt189.1 bt195.1).bind fun t202 => (some t202)) else (some false)) else (some false)))))) else (none))) else (none))) = some r := by rw [if_neg (show ¬ (false = true) by decide)] at H; exact H
     clear H
     have H := H1
     clear H1
     obtain ⟨y174, hy174⟩ : ∃ y_ : List (S43), y_ = (([] : List (S43))) := ⟨_, rfl⟩
     replace H : (if y174.length + t152.length < 1466015503701 then ((some (y174 ++ t152 : List (S43))).bind fun y177 => (if y177.length + l1.length < 1466015503701 then ((flat_Flatten.f (y177 ++ l1)).bind fun bt183 => ((bindleref08_Fold.f t167).bind fun bt189 => ((bindleref08_Fold.f bt183.1).bind fun bt195 => ((bindlelaw18_answers.f).bind fun t201 => (if t201 = true then (if bt183.2.1 = 0 then ((bindleref08_SameTree.f kj13 bt189.1 bt195.1).bind fun t202 => (some t202)) else (some false)) else (some false)))))) else (none))) else (none)) = some r := by first | (rw [hy174]; with_reducible exact H) | (have H2_ := (Option.bind_some _ _).symm.trans H; rw [hy174]; with_reducible exact H2_) | (have H2_ := (Option.bind_some _ _).symm.trans H; with_reducible exact H2_) | with_reducible exact H | (rw [hy174]; exact H) | exact H
     have Ny174 := A0_ hy174
     clear hy174
     by_cases c45 : y174.length + t152.length < 1466015503701
     rotate_left
     ·rw [if_neg c45] at H
      exact absurd H (by simp)
     rw [if_pos c45] at H
     have LMc45 := A0_ c45
     clear c45
     obtain ⟨y177, hy177⟩ : ∃ y_ : List (S43), y_ = (y174 ++ t152) := ⟨_, rfl⟩
     replace H : (if y177.length + l1.length < 1466015503701 then ((flat_Flatten.f (y177 ++ l1)).bind fun bt183 => ((bindleref08_Fold.f t167).bind fun bt189 => ((bindleref08_Fold.f bt183.1).bind fun bt195 => ((bindlelaw18_answers.f).bind fun t201 => (if t201 = true then (if bt183.2.1 = 0 then ((bindleref08_SameTree.f kj13 bt189.1 bt195.1).bind fun t202 => (some t202)) else (some false)) else (some false)))))) else (none)) = some r := by first | (rw [hy177]; with_reducible exact H) | (have H2_ := (Option.bind_some _ _).symm.trans H; rw [hy177]; with_reducible exact H2_) | (have H2_ := (Option.bind_some _ _).symm.trans H; with_reducible exact H2_) | with_reducible exact H | (rw [hy177]; exact H) | exact H
     have Ny177 := A0_ hy177
     clear hy177
     by_cases c46 : y177.length + l1.length < 1466015503701
     rotate_left
     ·rw [if_neg c46] at H
      exact absurd H (by simp)
     rw [if_pos c46] at H
     have LMc46 := A0_ c46
     clear c46
     obtain ⟨y180, hy180⟩ : ∃ y_ : List (S43), y_ = (y177 ++ l1) := ⟨_, rfl⟩
     replace H : ((flat_Flatten.f y180).bind fun bt183 => ((bindleref08_Fold.f t167).bind fun bt189 => ((bindleref08_Fold.f bt183.1).bind fun bt195 => ((bindlelaw18_answers.f).bind fun t201 => (if t201 = true then (if bt183.2.1 = 0 then ((bindleref08_SameTree.f kj13 bt189.1 bt195.1).bind fun t202 => (some t202)) else (some false)) else (some false)))))) = some r := by first | (rw [hy180]; with_reducible exact H) | (have H2_ := (Option.bind_some _ _).symm.trans H; rw [hy180]; with_reducible exact H2_) | (have H2_ := (Option.bind_some _ _).symm.trans H; with_reducible exact H2_) | with_reducible exact H | (rw [hy180]; exact H) | exact H
     have Ny180 := A0_ hy180
     clear hy180
     replace H := Option.bind_eq_some_iff.mp H
     obtain ⟨⟨t183, t186, t187⟩, A470, H⟩ := H
     replace H : ((bindleref08_Fold.f t167).bind fun bt189 => ((bindleref08_Fold.f t183).bind fun bt195 => ((bindlelaw18_answers.f).bind fun t201 => (if t201 = true then (if t186 = 0 then ((bindleref08_SameTree.f kj13 bt189.1 bt195.1).bind fun t202 => (some t202)) else (some false)) else (some false))))) = some r := H
     have A47 := A0_ A470
     clear A470
     replace H := Option.bind_eq_some_iff.mp H
     obtain ⟨⟨t189, t192, t193⟩, A480, H⟩ := H
     replace H : ((bindleref08_Fold.f t183).bind fun bt195 => ((bindlelaw18_answers.f).bind fun t201 => (if t201 = true then (if t186 = 0 then ((bindleref08_SameTree.f kj13 t189 bt195.1).bind fun t202 => (some t202)) else (some false)) else (some false)))) = some r := H
     have A48 := A0_ A480
     clear A480
     replace H := Option.bind_eq_some_iff.mp H
     obtain ⟨⟨t195, t198, t199⟩, A490, H⟩ := H
     replace H : ((bindlelaw18_answers.f).bind fun t201 => (if t201 = true then (if t186 = 0 then ((bindleref08_SameTree.f kj13 t189 t195).bind fun t202 => (some t202)) else (some false)) else (some false))) = some r := H
     have A49 := A0_ A490
     clear A490
     replace H := Option.bind_eq_some_iff.mp H
     obtain ⟨t201, A500, H⟩ := H
     replace H : (if t201 = true then (if t186 = 0 then ((bindleref08_SameTree.f kj13 t189 t195).bind fun t202 => (some t202)) else (some false)) else (some false)) = some r := H
     have A50 := A0_ A500
     clear A500
     by_cases c51 : t201 = true
     rotate_left
     ·replace c51 := Bool.eq_false_iff.mpr c51
      subst c51
      have H1 : (some false) = some r := by rw [if_neg (show ¬ (false = true) by decide)] at H; exact H
      clear H
      have H := H1
      clear H1
      exact absurd ((Option.some.inj H).trans hTRUE_.out) (by decide)
     subst c51
     have H1 : (if t186 = 0 then ((bindleref08_SameTree.f kj13 t189 t195).bind fun t202 => (some t202)) else (some false)) = some r := by rw [if_pos rfl] at H; exact H
     clear H
     have H := H1
     clear H1
     by_cases c52 : t186 = 0
     rotate_left
     ·rw [if_neg c52] at H
      have c52b0 : (t186 == 0) = false := beq_eq_false_iff_ne.mpr c52
      have c52b1 : (t186 != 0) = true := bne_iff_ne.mpr c52
      exact absurd ((Option.some.inj H).trans hTRUE_.out) (by decide)
     rw [if_pos c52] at H
     have c52b0 : (t186 == 0) = true := beq_iff_eq.mpr c52
     have c52b1 : (t186 != 0) = false := bne_eq_false_iff_eq.mpr c52
     clear c52
     replace H := Option.bind_eq_some_iff.mp H
     obtain ⟨t202, A530, H⟩ := H
     replace H : (some t202) = some r := H
     have A53 := A0_ A530
     clear A530
     obtain rfl := Option.some.inj H
     go_wp2_with (first | ((with_reducible refine gate_dst (N := 58) rfl ?_); refine Kd.N_lit k43 _ 43 ?hg (N' := 58) ?hd (xs := ([] : List (S43))) (inner := []) (ok := (fun k_ => ((P0_ k_ ∨ P1_ k_) ∨ w.heap.size ≤ k_) ∧ k_ ≠ gb157 ∧ k_ ≠ gb172)) (okp := (fun k_ => ((P0_ k_ ∨ P1_ k_) ∨ w.heap.size ≤ k_) ∧ k_ ≠ gb157 ∧ k_ ≠ gb172)) ?hr ?hp (fun _ hk => hk) ((show ∀ k_, wc.heap.size ≤ k_ → (fun k_ => ((P0_ k_ ∨ P1_ k_) ∨ w.heap.size ≤ k_) ∧ k_ ≠ gb157 ∧ k_ ≠ gb172) k_ from fun k_ hk => ⟨(.inr (Nat.le_trans (below_size (wb2_ HB.out GE157.out GE172.out)) hk)), Kd.freshB (g := gb157) (o := .cells #[.int .i64 t155, .int .i64 t156] 27 (0, 0)) (wB_ BK157.out) k_ hk, Kd.freshB (g := gb172) (o := .cells #[.int .i64 t170, .int .i64 t171] 27 (0, 0)) (wB_ BK172.out) k_ hk⟩) _ (by first | exact Nat.le_refl _ | simp)) (Below.refl _ _) (Nat.le_refl _) (by simp) ?_; (case hd => rfl); (case hg => rfl); (case hr => first | (go_simp; done) | (go_simp; rfl)); (case hp => exact (Reps.none _ _)); intro v175 w54 ho55 hb hg_ hnew_; clear hg_ hnew_; (first | rw [← Ny174.out] at ho55 | (simp only [Int.reduceToNat] at ho55; rw [← Ny174.out] at ho55)); have n0_ := A0_ (Kd.V_elder' (wV_ HO_1.out) (Kd.N_base ho55) hb); have n1_ := A0_ (Kd.V_elder' (wV_ HO_5.out) (Kd.N_base ho55) hb); have n2_ := A0_ (Kd.V_elder' (wV_ HO_7.out) (Kd.N_base ho55) hb); have n3_ := A0_ (Kd.N_lower ho55 (below_size (wb2_ HB.out GE157.out GE172.out))); have n4_ := A0_ (blk_below (g := gb157) (o := .cells #[.int .i64 t155, .int .i64 t156] 27 (0, 0)) (wB_ BK157.out) hb); have n5_ := A0_ (blk_below (g := gb172) (o := .cells #[.int .i64 t170, .int .i64 t171] 27 (0, 0)) (wB_ BK172.out) hb); have n6_ := A0_ (below_step (wb2_ HB.out GE157.out GE172.out) hb); clear HO_1; clear HO_5; clear HO_7; clear BK157; clear BK172; clear HB; have HO_1 := n0_; have HO_5 := n1_; have HO_7 := n2_; have HO176 := n3_; have BK157 := n4_; have BK172 := n5_; have HB := n6_; clear n0_ n1_ n2_ n3_ n4_ n5_ n6_; clear hb ho55; obtain ⟨Ao57, co57, eo57⟩ := Kd.V_slice HO_5.out; subst eo57) | ((with_reducible refine gate_builtin (b := .append) (xs := #[.tmp 58, .tmp 59]) rfl ?_); at_builtin; refine Kd.N_append_rows k43 (w0 := w) w.heap.size rfl (.tmp 58) (.tmp 59) 22 43 (.agg #[(.string ⟨#[]⟩), (.string ⟨#[]⟩), (.int .u8 0), (.int .i64 0), (.int .i64 0), (.int .i64 0), (.int .i64 0), (.slice none 0 0)]) 96 rfl Tryz.underlying22 info43 rfl (by decide) (by omega) v175 y174 t152 _ _ _ (fun k_ => ((P0_ k_ ∨ P1_ k_) ∨ w.heap.size ≤ k_) ∧ k_ ≠ gb157 ∧ k_ ≠ gb172) (fun k_ => ((fun k_ => ((P0_ k_ ∨ P1_ k_) ∨ w.heap.size ≤ k_) ∧ k_ ≠ gb157 ∧ k_ ≠ gb172)) k_ ∧ some k_ ≠ (v175 : Value).ownBlock) rfl rfl ?aO ?aR (fun _ hk => hk) ?aF ?aB ?aS ?aL ?_; (case aR => exact (by skip; exact Kd.V_F (Kd.V_mono (ok' := (fun k_ => ((fun k_ => ((P0_ k_ ∨ P1_ k_) ∨ w.heap.size ≤ k_) ∧ k_ ≠ gb157 ∧ k_ ≠ gb172)) k_ ∧ some k_ ≠ (v175 : Value).ownBlock)) (HO_5.out) (fun k_ hk => ⟨⟨hk.1.1, ⟨hk.1.2.1, hk.1.2.2⟩⟩, hk.2⟩)))); (case aB => exact (wb2_ HB.out GE157.out GE172.out)); (case aF => exact (fun k_ hk => ⟨(.inr (Nat.le_trans (below_size (wb2_ HB.out GE157.out GE172.out)) hk)), Kd.freshB (g := gb157) (o := .cells #[.int .i64 t155, .int .i64 t156] 27 (0, 0)) (wB_ BK157.out) k_ hk, Kd.freshB (g := gb172) (o := .cells #[.int .i64 t170, .int .i64 t171] 27 (0, 0)) (wB_ BK172.out) k_ hk⟩)); (case aO => exact (wN_ HO176.out)); (case aS => exact (below_size (wb2_ HB.out GE157.out GE172.out))); (case aL => have := LMc45.out; omega); intro v178 w56 ho hb hg hat; rw [← Ny177.out] at ho; have n0_ := A0_ (Kd.V_afterv (ok := (fun k_ => ((P0_ k_ ∨ P1_ k_) ∨ w.heap.size ≤ k_) ∧ k_ ≠ gb157 ∧ k_ ≠ gb172)) (wV_ HO_1.out) hg hat); have n1_ := A0_ (Kd.V_afterv (ok := (fun k_ => ((P0_ k_ ∨ P1_ k_) ∨ w.heap.size ≤ k_) ∧ k_ ≠ gb157 ∧ k_ ≠ gb172)) (wV_ HO_5.out) hg hat); have n2_ := A0_ (Kd.V_afterv (ok := (fun k_ => ((P0_ k_ ∨ P1_ k_) ∨ w.heap.size ≤ k_) ∧ k_ ≠ gb157 ∧ k_ ≠ gb172)) (wV_ HO_7.out) hg hat); have n3_ := A0_ (blk_grown (g := gb157) (o := .cells #[.int .i64 t155, .int .i64 t156] 27 (0, 0)) (wB_ BK157.out) hg (Kd.N_ne HO176.out BK157.out (by decide))); have n4_ := A0_ (blk_grown (g := gb172) (o := .cells #[.int .i64 t170, .int .i64 t171] 27 (0, 0)) (wB_ BK172.out) hg (Kd.N_ne HO176.out BK172.out (by decide))); have n5_ := A0_ (hb); have n6_ := A0_ (ho); clear HO_1; clear HO_5; clear HO_7; clear BK157; clear BK172; clear HB; clear HO176; have HO_1 := n0_; have HO_5 := n1_; have HO_7 := n2_; have BK157 := n3_; have BK172 := n4_; have HB := n5_; have HO179 := n6_; clear n0_ n1_ n2_ n3_ n4_ n5_ n6_; clear ho hb hg hat) | ((with_reducible refine gate_builtin (b := .append) (xs := #[.tmp 60, .tmp 61]) rfl ?_); at_builtin; refine Kd.N_append_rows k43 (w0 := w) w.heap.size rfl (.tmp 60) (.tmp 61) 22 43 (.agg #[(.string ⟨#[]⟩), (.string ⟨#[]⟩), (.int .u8 0), (.int .i64 0), (.int .i64 0), (.int .i64 0), (.int .i64 0), (.slice none 0 0)]) 96 rfl Tryz.underlying22 info43 rfl (by decide) (by omega) v178 y177 l1 _ _ _ (fun k_ => ((P0_ k_ ∨ P1_ k_) ∨ w.heap.size ≤ k_) ∧ k_ ≠ gb157 ∧ k_ ≠ gb172) (fun k_ => ((fun k_ => ((P0_ k_ ∨ P1_ k_) ∨ w.heap.size ≤ k_) ∧ k_ ≠ gb157 ∧ k_ ≠ gb172)) k_ ∧ some k_ ≠ (v178 : Value).ownBlock) rfl rfl ?aO ?aR (fun _ hk => hk) ?aF ?aB ?aS ?aL ?_; (case aR => exact (by skip; exact Kd.V_F (Kd.V_mono (ok' := (fun k_ => ((fun k_ => ((P0_ k_ ∨ P1_ k_) ∨ w.heap.size ≤ k_) ∧ k_ ≠ gb157 ∧ k_ ≠ gb172)) k_ ∧ some k_ ≠ (v178 : Value).ownBlock)) (HO_1.out) (fun k_ hk => ⟨⟨hk.1.1, ⟨hk.1.2.1, hk.1.2.2⟩⟩, hk.2⟩)))); (case aB => exact (wb2_ HB.out GE157.out GE172.out)); (case aF => exact (fun k_ hk => ⟨(.inr (Nat.le_trans (below_size (wb2_ HB.out GE157.out GE172.out)) hk)), Kd.freshB (g := gb157) (o := .cells #[.int .i64 t155, .int .i64 t156] 27 (0, 0)) (wB_ BK157.out) k_ hk, Kd.freshB (g := gb172) (o := .cells #[.int .i64 t170, .int .i64 t171] 27 (0, 0)) (wB_ BK172.out) k_ hk⟩)); (case aO => exact (wN_ HO179.out)); (case aS => exact (below_size (wb2_ HB.out GE157.out GE172.out))); (case aL => have := LMc46.out; omega); intro v181 w58 ho hb hg hat; rw [← Ny180.out] at ho; have n0_ := A0_ (Kd.V_afterv (ok := (fun k_ => ((P0_ k_ ∨ P1_ k_) ∨ w.heap.size ≤ k_) ∧ k_ ≠ gb157 ∧ k_ ≠ gb172)) (wV_ HO_1.out) hg hat); have n1_ := A0_ (Kd.V_afterv (ok := (fun k_ => ((P0_ k_ ∨ P1_ k_) ∨ w.heap.size ≤ k_) ∧ k_ ≠ gb157 ∧ k_ ≠ gb172)) (wV_ HO_5.out) hg hat); have n2_ := A0_ (Kd.V_afterv (ok := (fun k_ => ((P0_ k_ ∨ P1_ k_) ∨ w.heap.size ≤ k_) ∧ k_ ≠ gb157 ∧ k_ ≠ gb172)) (wV_ HO_7.out) hg hat); have n3_ := A0_ (blk_grown (g := gb157) (o := .cells #[.int .i64 t155, .int .i64 t156] 27 (0, 0)) (wB_ BK157.out) hg (Kd.N_ne HO179.out BK157.out (by decide))); have n4_ := A0_ (blk_grown (g := gb172) (o := .cells #[.int .i64 t170, .int .i64 t171] 27 (0, 0)) (wB_ BK172.out) hg (Kd.N_ne HO179.out BK172.out (by decide))); have n5_ := A0_ (hb); have n6_ := A0_ (ho); clear HO_1; clear HO_5; clear HO_7; clear BK157; clear BK172; clear HB; clear HO179; have HO_1 := n0_; have HO_5 := n1_; have HO_7 := n2_; have BK157 := n3_; have BK172 := n4_; have HB := n5_; have HO182 := n6_; clear n0_ n1_ n2_ n3_ n4_ n5_ n6_; clear ho hb hg hat; obtain ⟨Ao59, co59, eo59⟩ := Kd.N_slice HO182.out; subst eo59) | ((with_reducible refine gate_callee (f := 8) rfl ?_); refine goesL_ (some 63) rfl rfl Tryz.func8 (by kernel_rfl) rfl #[.slice Ao59 y180.length co59] rfl wm_ ?_; (with_reducible refine (flat_Flatten.calls _ _ y180 t183 t186 t187 _ ?side1 ?side2 ?side3 A47.out).mono ?_); (case side1 => exact A0_ (Tabs.below hT.out (wb2_ HB.out GE157.out GE172.out))); (case side2 => exact wc_ (Kd.N_reads' HO182.out).2.2); (case side3 => exact (Kd.N_reads' HO182.out).2.1); rintro e w60 ⟨v184, rfl, ho0, hb⟩; refine ⟨_, rfl, ?_⟩; have n0_ := A0_ (Vb_ (wV_ HO_1.out) hb); have n1_ := A0_ (Vb_ (wV_ HO_5.out) hb); have n2_ := A0_ (Vb_ (wV_ HO_7.out) hb); have n3_ := A0_ (Kd.N_below (wN_ HO182.out) hb); have n4_ := A0_ (Kd.V_lower (Kd.V_mono (ok' := fun k_ => ((P0_ k_ ∨ P1_ k_) ∨ w.heap.size ≤ k_) ∧ some k_ ≠ (.slice Ao59 y180.length co59 : Value).ownBlock ∧ k_ ≠ gb157 ∧ k_ ≠ gb172) ho0 (fun k_ hk_ => ⟨(.inr (Nat.le_trans (below_size (wb2_ HB.out GE157.out GE172.out)) hk_)), (Kd.fresh' (Kd.N_lt (wN_ HO182.out)) k_ hk_), (Kd.freshB (g := gb157) (o := .cells #[.int .i64 t155, .int .i64 t156] 27 (0, 0)) (wB_ BK157.out) k_ hk_), (Kd.freshB (g := gb172) (o := .cells #[.int .i64 t170, .int .i64 t171] 27 (0, 0)) (wB_ BK172.out) k_ hk_)⟩)) (below_size (wb2_ HB.out GE157.out GE172.out))); have n5_ := A0_ (blk_below (g := gb157) (o := .cells #[.int .i64 t155, .int .i64 t156] 27 (0, 0)) (wB_ BK157.out) hb); have n6_ := A0_ (blk_below (g := gb172) (o := .cells #[.int .i64 t170, .int .i64 t171] 27 (0, 0)) (wB_ BK172.out) hb); have n7_ := A0_ (below_step (wb2_ HB.out GE157.out GE172.out) hb); clear HO_1; clear HO_5; clear HO_7; clear HO182; clear BK157; clear BK172; clear HB; have HO_1 := n0_; have HO_5 := n1_; have HO_7 := n2_; have HO182 := n3_; have HO185 := n4_; have BK157 := n5_; have BK172 := n6_; have HB := n7_; clear n0_ n1_ n2_ n3_ n4_ n5_ n6_ n7_; (try clear hb); (try clear hb2); (try clear hk); (try clear hi); (try clear ho0)) | ((with_reducible refine gate_dst (N := 10) rfl ?_); refine box_event ?hg (N := 10) ?hd (cs := #[.int .i64 0, .int .i64 0]) (t := 27) ?hr ?_; (case hd => rfl); (case hg => rfl); (case hr => first | (go_simp; done) | (go_simp; rfl)); intro gb188 hg w61 hbox hb; have n0_ := A0_ (Vb_ (Kd.V_elderB (wV_ HO_1.out) gb188 (Nat.le_of_eq hg.symm)) hb); have n1_ := A0_ (Vb_ (Kd.V_elderB (wV_ HO_5.out) gb188 (Nat.le_of_eq hg.symm)) hb); have n2_ := A0_ (Vb_ (Kd.V_elderB (wV_ HO_7.out) gb188 (Nat.le_of_eq hg.symm)) hb); have n3_ := A0_ (Kd.N_below (Kd.N_elderB (wN_ HO182.out) gb188 (Nat.le_of_eq hg.symm)) hb); have n4_ := A0_ (Vb_ (Kd.V_elderB (wV_ HO185.out) gb188 (Nat.le_of_eq hg.symm)) hb); have n5_ := A0_ (blk_below (g := gb157) (o := .cells #[.int .i64 t155, .int .i64 t156] 27 (0, 0)) (wB_ BK157.out) hb); have n6_ := A0_ (blk_below (g := gb172) (o := .cells #[.int .i64 t170, .int .i64 t171] 27 (0, 0)) (wB_ BK172.out) hb); have n7_ := A0_ (below_step (wb2_ HB.out GE157.out GE172.out) hb); have n8_ := A0_ (hbox); have n9_ := A0_ ((by rw [hg]; exact (below_size (wb2_ HB.out GE157.out GE172.out)) : w.heap.size ≤ gb188)); have n10_ := A0_ ((by rw [hg]; exact (below_size (wb2_ HB.out GE157.out GE172.out)) : w.heap.size ≤ gb188)); have n11_ := A0_ ((by rw [hg]; exact Nat.ne_of_lt (blk_lt (g := gb157) (o := .cells #[.int .i64 t155, .int .i64 t156] 27 (0, 0)) (wB_ BK157.out)) : gb157 ≠ gb188)); have n12_ := A0_ ((by rw [hg]; exact Nat.ne_of_gt (blk_lt (g := gb157) (o := .cells #[.int .i64 t155, .int .i64 t156] 27 (0, 0)) (wB_ BK157.out)) : gb188 ≠ gb157)); have n13_ := A0_ ((by rw [hg]; exact Nat.ne_of_lt (blk_lt (g := gb172) (o := .cells #[.int .i64 t170, .int .i64 t171] 27 (0, 0)) (wB_ BK172.out)) : gb172 ≠ gb188)); have n14_ := A0_ ((by rw [hg]; exact Nat.ne_of_gt (blk_lt (g := gb172) (o := .cells #[.int .i64 t170, .int .i64 t171] 27 (0, 0)) (wB_ BK172.out)) : gb188 ≠ gb172)); clear HO_1; clear HO_5; clear HO_7; clear HO182; clear HO185; clear BK157; clear BK172; clear HB; have HO_1 := n0_; have HO_5 := n1_; have HO_7 := n2_; have HO182 := n3_; have HO185 := n4_; have BK157 := n5_; have BK172 := n6_; have HB := n7_; have BK188 := n8_; have GW188 := n9_; have GE188 := n10_; have NB157_188 := n11_; have NB188_157 := n12_; have NB172_188 := n13_; have NB188_172 := n14_; clear n0_ n1_ n2_ n3_ n4_ n5_ n6_ n7_ n8_ n9_ n10_ n11_ n12_ n13_ n14_; clear hb hbox hg; have hnb62 := NB188_157.out; have hnc62 := NB157_188.out; have hnb63 := NB188_172.out; have hnc63 := NB172_188.out; have hcz64_0 : w61.cell? ⟨gb188, 0, none⟩ = some (.int .i64 0) := (bc_ BK188.out 0).trans rfl; have hcz64_1 : w61.cell? ⟨gb188, 1, none⟩ = some (.int .i64 0) := (bc_ BK188.out 1).trans rfl; have hfz64_0 := bf_ BK188.out 0; have hfz64_1 := bf_ BK188.out 1; obtain ⟨Ao65, co65, eo65⟩ := Kd.V_slice HO_7.out; subst eo65) | ((with_reducible refine gate_callee (f := 9) rfl ?_); refine goesL_ (some 68) rfl rfl Tryz.func9 (by kernel_rfl) rfl #[.slice Ao65 t167.length co65] rfl wm_ ?_; (with_reducible refine (bindleref08_Fold.calls _ _ t167 t189 t192 t193 _ ?side1 ?side2 A48.out).mono ?_); (case side1 => refine (Kd.V_reads' (e := 43) (base := w.heap.size) (ok := fun k_ => (((((P0_ k_ ∨ P1_ k_) ∨ w.heap.size ≤ k_) ∧ (k_ ≠ gb157 ∧ k_ ≠ gb172)) ∧ some k_ ≠ (.slice Ao59 y180.length co59 : Value).ownBlock) ∧ k_ ≠ gb188)) (n := t167.length) (c := co65) ?_).2.2; exact (by (with_reducible repeat (first | apply Va_ | apply VN_ | apply V1_)); exact (Kd.V_mono (Kd.V_far (p := ⟨gb188, 1, none⟩) (Kd.V_far (p := ⟨gb188, 0, none⟩) (Kd.V_mono HO_7.out (fun k_ hk => (⟨hk, hk.2⟩ : _ ∧ k_ ≠ gb188))) (fun _ hk => hk.2) (.int .i64 t186)) (fun _ hk => hk.2) (.int .i64 t187)) (fun _ h_ => h_.1)))); (case side2 => exact (Kd.V_reads' HO_7.out).2.1); rintro e w66 ⟨v190, rfl, ho0, hb⟩; refine ⟨_, rfl, ?_⟩; have n0_ := A0_ (Vb_ (by (with_reducible repeat (first | apply Va_ | apply VN_ | apply V1_)); exact (Kd.V_mono (Kd.V_far (p := ⟨gb188, 1, none⟩) (Kd.V_far (p := ⟨gb188, 0, none⟩) (Kd.V_mono HO_1.out (fun k_ hk => (⟨hk, hk.2⟩ : _ ∧ k_ ≠ gb188))) (fun _ hk => hk.2) (.int .i64 t186)) (fun _ hk => hk.2) (.int .i64 t187)) (fun _ h_ => h_.1))) hb); have n1_ := A0_ (Vb_ (by (with_reducible repeat (first | apply Va_ | apply VN_ | apply V1_)); exact (Kd.V_mono (Kd.V_far (p := ⟨gb188, 1, none⟩) (Kd.V_far (p := ⟨gb188, 0, none⟩) (Kd.V_mono HO_5.out (fun k_ hk => (⟨hk, hk.2⟩ : _ ∧ k_ ≠ gb188))) (fun _ hk => hk.2) (.int .i64 t186)) (fun _ hk => hk.2) (.int .i64 t187)) (fun _ h_ => h_.1))) hb); have n2_ := A0_ (Vb_ (by (with_reducible repeat (first | apply Va_ | apply VN_ | apply V1_)); exact (Kd.V_mono (Kd.V_far (p := ⟨gb188, 1, none⟩) (Kd.V_far (p := ⟨gb188, 0, none⟩) (Kd.V_mono HO_7.out (fun k_ hk => (⟨hk, hk.2⟩ : _ ∧ k_ ≠ gb188))) (fun _ hk => hk.2) (.int .i64 t186)) (fun _ hk => hk.2) (.int .i64 t187)) (fun _ h_ => h_.1))) hb); have n3_ := A0_ (Kd.N_below (by (with_reducible repeat (first | apply Kd.N_alloc | apply Kd.N_drewN | apply Kd.N_drew)); exact (Kd.N_mono (Kd.N_far (p := ⟨gb188, 1, none⟩) (Kd.N_far (p := ⟨gb188, 0, none⟩) (Kd.N_mono HO182.out (fun k_ hk => (⟨hk, hk.2⟩ : _ ∧ k_ ≠ gb188))) (fun _ hk => hk.2) (.int .i64 t186)) (fun _ hk => hk.2) (.int .i64 t187)) (fun _ h_ => h_.1))) hb); have n4_ := A0_ (Vb_ (by (with_reducible repeat (first | apply Va_ | apply VN_ | apply V1_)); exact (Kd.V_mono (Kd.V_far (p := ⟨gb188, 1, none⟩) (Kd.V_far (p := ⟨gb188, 0, none⟩) (Kd.V_mono HO185.out (fun k_ hk => (⟨hk, hk.2⟩ : _ ∧ k_ ≠ gb188))) (fun _ hk => hk.2) (.int .i64 t186)) (fun _ hk => hk.2) (.int .i64 t187)) (fun _ h_ => h_.1))) hb); have n5_ := A0_ (Kd.V_lower (Kd.V_mono (ok' := fun k_ => ((P0_ k_ ∨ P1_ k_) ∨ w.heap.size ≤ k_) ∧ some k_ ≠ (.slice Ao59 y180.length co59 : Value).ownBlock ∧ k_ ≠ gb157 ∧ k_ ≠ gb172 ∧ k_ ≠ gb188) ho0 (fun k_ hk_ => ⟨(.inr (Nat.le_trans (below_size (wb3_ HB.out GE157.out GE172.out GE188.out)) hk_)), (Kd.fresh' (Kd.N_lt (by (with_reducible repeat (first | apply Kd.N_alloc | apply Kd.N_drewN | apply Kd.N_drew)); exact (Kd.N_mono (Kd.N_far (p := ⟨gb188, 1, none⟩) (Kd.N_far (p := ⟨gb188, 0, none⟩) (Kd.N_mono HO182.out (fun k_ hk => (⟨hk, hk.2⟩ : _ ∧ k_ ≠ gb188))) (fun _ hk => hk.2) (.int .i64 t186)) (fun _ hk => hk.2) (.int .i64 t187)) (fun _ h_ => h_.1)))) k_ hk_), (Kd.freshB (g := gb157) (o := .cells #[.int .i64 t155, .int .i64 t156] 27 (0, 0)) (by (with_reducible repeat (first | refine blk_drewN ?_ _ | refine blk_drew ?_ | refine blk_alloc ?_ _)); refine blk_far ?_ NB157_188.out _; (with_reducible repeat (first | refine blk_drewN ?_ _ | refine blk_drew ?_ | refine blk_alloc ?_ _)); refine blk_far ?_ NB157_188.out _; (with_reducible repeat (first | refine blk_drewN ?_ _ | refine blk_drew ?_ | refine blk_alloc ?_ _)); exact BK157.out) k_ hk_), (Kd.freshB (g := gb172) (o := .cells #[.int .i64 t170, .int .i64 t171] 27 (0, 0)) (by (with_reducible repeat (first | refine blk_drewN ?_ _ | refine blk_drew ?_ | refine blk_alloc ?_ _)); refine blk_far ?_ NB172_188.out _; (with_reducible repeat (first | refine blk_drewN ?_ _ | refine blk_drew ?_ | refine blk_alloc ?_ _)); refine blk_far ?_ NB172_188.out _; (with_reducible repeat (first | refine blk_drewN ?_ _ | refine blk_drew ?_ | refine blk_alloc ?_ _)); exact BK172.out) k_ hk_), ((by first | exact Kd.freshB (g := gb188) (o := .cells #[.int .i64 t186, .int .i64 t187] 27 (0, 0)) (by (with_reducible repeat (first | refine blk_drewN ?_ _ | refine blk_drew ?_ | refine blk_alloc ?_ _)); refine blk_put (cs := #[.int .i64 t186, .int .i64 0]) ?_ 1 _ rfl; (with_reducible repeat (first | refine blk_drewN ?_ _ | refine blk_drew ?_ | refine blk_alloc ?_ _)); refine blk_put (cs := #[.int .i64 0, .int .i64 0]) ?_ 0 _ rfl; (with_reducible repeat (first | refine blk_drewN ?_ _ | refine blk_drew ?_ | refine blk_alloc ?_ _)); exact BK188.out) k_ hk_ | exact Kd.freshB (g := gb188) BK188.out k_ hk_))⟩)) (below_size (wb3_ HB.out GE157.out GE172.out GE188.out))); have n6_ := A0_ (blk_below (g := gb157) (o := .cells #[.int .i64 t155, .int .i64 t156] 27 (0, 0)) (by (with_reducible repeat (first | refine blk_drewN ?_ _ | refine blk_drew ?_ | refine blk_alloc ?_ _)); refine blk_far ?_ NB157_188.out _; (with_reducible repeat (first | refine blk_drewN ?_ _ | refine blk_drew ?_ | refine blk_alloc ?_ _)); refine blk_far ?_ NB157_188.out _; (with_reducible repeat (first | refine blk_drewN ?_ _ | refine blk_drew ?_ | refine blk_alloc ?_ _)); exact BK157.out) hb); have n7_ := A0_ (blk_below (g := gb172) (o := .cells #[.int .i64 t170, .int .i64 t171] 27 (0, 0)) (by (with_reducible repeat (first | refine blk_drewN ?_ _ | refine blk_drew ?_ | refine blk_alloc ?_ _)); refine blk_far ?_ NB172_188.out _; (with_reducible repeat (first | refine blk_drewN ?_ _ | refine blk_drew ?_ | refine blk_alloc ?_ _)); refine blk_far ?_ NB172_188.out _; (with_reducible repeat (first | refine blk_drewN ?_ _ | refine blk_drew ?_ | refine blk_alloc ?_ _)); exact BK172.out) hb); have n8_ := A0_ (blk_below (g := gb188) (o := .cells #[.int .i64 t186, .int .i64 t187] 27 (0, 0)) (by (with_reducible repeat (first | refine blk_drewN ?_ _ | refine blk_drew ?_ | refine blk_alloc ?_ _)); refine blk_put (cs := #[.int .i64 t186, .int .i64 0]) ?_ 1 _ rfl; (with_reducible repeat (first | refine blk_drewN ?_ _ | refine blk_drew ?_ | refine blk_alloc ?_ _)); refine blk_put (cs := #[.int .i64 0, .int .i64 0]) ?_ 0 _ rfl; (with_reducible repeat (first | refine blk_drewN ?_ _ | refine blk_drew ?_ | refine blk_alloc ?_ _)); exact BK188.out) hb); have n9_ := A0_ (below_step (wb3_ HB.out GE157.out GE172.out GE188.out) hb); clear HO_1; clear HO_5; clear HO_7; clear HO182; clear HO185; clear BK157; clear BK172; clear BK188; clear HB; have HO_1 := n0_; have HO_5 := n1_; have HO_7 := n2_; have HO182 := n3_; have HO185 := n4_; have HO191 := n5_; have BK157 := n6_; have BK172 := n7_; have BK188 := n8_; have HB := n9_; clear n0_ n1_ n2_ n3_ n4_ n5_ n6_ n7_ n8_ n9_; (try clear hb); (try clear hb2); (try clear hk); (try clear hi); (try clear ho0)) | ((with_reducible refine gate_dst (N := 12) rfl ?_); refine box_event ?hg (N := 12) ?hd (cs := #[.int .i64 0, .int .i64 0]) (t := 27) ?hr ?_; (case hd => rfl); (case hg => rfl); (case hr => first | (go_simp; done) | (go_simp; rfl)); intro gb194 hg w67 hbox hb; have n0_ := A0_ (Vb_ (Kd.V_elderB (wV_ HO_1.out) gb194 (Nat.le_of_eq hg.symm)) hb); have n1_ := A0_ (Vb_ (Kd.V_elderB (wV_ HO_5.out) gb194 (Nat.le_of_eq hg.symm)) hb); have n2_ := A0_ (Vb_ (Kd.V_elderB (wV_ HO_7.out) gb194 (Nat.le_of_eq hg.symm)) hb); have n3_ := A0_ (Kd.N_below (Kd.N_elderB (wN_ HO182.out) gb194 (Nat.le_of_eq hg.symm)) hb); have n4_ := A0_ (Vb_ (Kd.V_elderB (wV_ HO185.out) gb194 (Nat.le_of_eq hg.symm)) hb); have n5_ := A0_ (Vb_ (Kd.V_elderB (wV_ HO191.out) gb194 (Nat.le_of_eq hg.symm)) hb); have n6_ := A0_ (blk_below (g := gb157) (o := .cells #[.int .i64 t155, .int .i64 t156] 27 (0, 0)) (wB_ BK157.out) hb); have n7_ := A0_ (blk_below (g := gb172) (o := .cells #[.int .i64 t170, .int .i64 t171] 27 (0, 0)) (wB_ BK172.out) hb); have n8_ := A0_ (blk_below (g := gb188) (o := .cells #[.int .i64 t186, .int .i64 t187] 27 (0, 0)) (wB_ BK188.out) hb); have n9_ := A0_ (below_step (wb3_ HB.out GE157.out GE172.out GE188.out) hb); have n10_ := A0_ (hbox); have n11_ := A0_ ((by rw [hg]; exact (below_size (wb3_ HB.out GE157.out GE172.out GE188.out)) : w.heap.size ≤ gb194)); have n12_ := A0_ ((by rw [hg]; exact (below_size (wb3_ HB.out GE157.out GE172.out GE188.out)) : w.heap.size ≤ gb194)); have n13_ := A0_ ((by rw [hg]; exact Nat.ne_of_lt (blk_lt (g := gb157) (o := .cells #[.int .i64 t155, .int .i64 t156] 27 (0, 0)) (wB_ BK157.out)) : gb157 ≠ gb194)); have n14_ := A0_ ((by rw [hg]; exact Nat.ne_of_gt (blk_lt (g := gb157) (o := .cells #[.int .i64 t155, .int .i64 t156] 27 (0, 0)) (wB_ BK157.out)) : gb194 ≠ gb157)); have n15_ := A0_ ((by rw [hg]; exact Nat.ne_of_lt (blk_lt (g := gb172) (o := .cells #[.int .i64 t170, .int .i64 t171] 27 (0, 0)) (wB_ BK172.out)) : gb172 ≠ gb194)); have n16_ := A0_ ((by rw [hg]; exact Nat.ne_of_gt (blk_lt (g := gb172) (o := .cells #[.int .i64 t170, .int .i64 t171] 27 (0, 0)) (wB_ BK172.out)) : gb194 ≠ gb172)); have n17_ := A0_ ((by rw [hg]; exact Nat.ne_of_lt (blk_lt (g := gb188) (o := .cells #[.int .i64 t186, .int .i64 t187] 27 (0, 0)) (wB_ BK188.out)) : gb188 ≠ gb194)); have n18_ := A0_ ((by rw [hg]; exact Nat.ne_of_gt (blk_lt (g := gb188) (o := .cells #[.int .i64 t186, .int .i64 t187] 27 (0, 0)) (wB_ BK188.out)) : gb194 ≠ gb188)); clear HO_1; clear HO_5; clear HO_7; clear HO182; clear HO185; clear HO191; clear BK157; clear BK172; clear BK188; clear HB; have HO_1 := n0_; have HO_5 := n1_; have HO_7 := n2_; have HO182 := n3_; have HO185 := n4_; have HO191 := n5_; have BK157 := n6_; have BK172 := n7_; have BK188 := n8_; have HB := n9_; have BK194 := n10_; have GW194 := n11_; have GE194 := n12_; have NB157_194 := n13_; have NB194_157 := n14_; have NB172_194 := n15_; have NB194_172 := n16_; have NB188_194 := n17_; have NB194_188 := n18_; clear n0_ n1_ n2_ n3_ n4_ n5_ n6_ n7_ n8_ n9_ n10_ n11_ n12_ n13_ n14_ n15_ n16_ n17_ n18_; clear hb hbox hg; have hnb68 := NB194_157.out; have hnc68 := NB157_194.out; have hnb69 := NB194_172.out; have hnc69 := NB172_194.out; have hnb70 := NB194_188.out; have hnc70 := NB188_194.out; have hcz71_0 : w67.cell? ⟨gb194, 0, none⟩ = some (.int .i64 0) := (bc_ BK194.out 0).trans rfl; have hcz71_1 : w67.cell? ⟨gb194, 1, none⟩ = some (.int .i64 0) := (bc_ BK194.out 1).trans rfl; have hfz71_0 := bf_ BK194.out 0; have hfz71_1 := bf_ BK194.out 1; obtain ⟨Ao72, co72, eo72⟩ := Kd.V_slice HO185.out; subst eo72) | ((with_reducible refine gate_callee (f := 9) rfl ?_); refine goesL_ (some 73) rfl rfl Tryz.func9 (by kernel_rfl) rfl #[.slice Ao72 t183.length co72] rfl wm_ ?_; (with_reducible refine (bindleref08_Fold.calls _ _ t183 t195 t198 t199 _ ?side1 ?side2 A49.out).mono ?_); (case side1 => refine (Kd.V_reads' (e := 43) (base := w.heap.size) (ok := fun k_ => (((((P0_ k_ ∨ P1_ k_) ∨ w.heap.size ≤ k_) ∧ (some k_ ≠ (.slice Ao59 y180.length co59 : Value).ownBlock ∧ (k_ ≠ gb157 ∧ k_ ≠ gb172))) ∧ k_ ≠ gb188) ∧ k_ ≠ gb194)) (n := t183.length) (c := co72) ?_).2.2; exact (by (with_reducible repeat (first | apply Va_ | apply VN_ | apply V1_)); exact (Kd.V_mono (Kd.V_far (p := ⟨gb194, 1, none⟩) (Kd.V_far (p := ⟨gb194, 0, none⟩) (Kd.V_mono HO185.out (fun k_ hk => (⟨hk, hk.2⟩ : _ ∧ k_ ≠ gb194))) (fun _ hk => hk.2) (.int .i64 t192)) (fun _ hk => hk.2) (.int .i64 t193)) (fun _ h_ => h_.1)))); (case side2 => exact (Kd.V_reads' HO185.out).2.1); rintro e w73 ⟨v196, rfl, ho0, hb⟩; refine ⟨_, rfl, ?_⟩; have n0_ := A0_ (Vb_ (by (with_reducible repeat (first | apply Va_ | apply VN_ | apply V1_)); exact (Kd.V_mono (Kd.V_far (p := ⟨gb194, 1, none⟩) (Kd.V_far (p := ⟨gb194, 0, none⟩) (Kd.V_mono HO_1.out (fun k_ hk => (⟨hk, hk.2⟩ : _ ∧ k_ ≠ gb194))) (fun _ hk => hk.2) (.int .i64 t192)) (fun _ hk => hk.2) (.int .i64 t193)) (fun _ h_ => h_.1))) hb); have n1_ := A0_ (Vb_ (by (with_reducible repeat (first | apply Va_ | apply VN_ | apply V1_)); exact (Kd.V_mono (Kd.V_far (p := ⟨gb194, 1, none⟩) (Kd.V_far (p := ⟨gb194, 0, none⟩) (Kd.V_mono HO_5.out (fun k_ hk => (⟨hk, hk.2⟩ : _ ∧ k_ ≠ gb194))) (fun _ hk => hk.2) (.int .i64 t192)) (fun _ hk => hk.2) (.int .i64 t193)) (fun _ h_ => h_.1))) hb); have n2_ := A0_ (Vb_ (by (with_reducible repeat (first | apply Va_ | apply VN_ | apply V1_)); exact (Kd.V_mono (Kd.V_far (p := ⟨gb194, 1, none⟩) (Kd.V_far (p := ⟨gb194, 0, none⟩) (Kd.V_mono HO_7.out (fun k_ hk => (⟨hk, hk.2⟩ : _ ∧ k_ ≠ gb194))) (fun _ hk => hk.2) (.int .i64 t192)) (fun _ hk => hk.2) (.int .i64 t193)) (fun _ h_ => h_.1))) hb); have n3_ := A0_ (Kd.N_below (by (with_reducible repeat (first | apply Kd.N_alloc | apply Kd.N_drewN | apply Kd.N_drew)); exact (Kd.N_mono (Kd.N_far (p := ⟨gb194, 1, none⟩) (Kd.N_far (p := ⟨gb194, 0, none⟩) (Kd.N_mono HO182.out (fun k_ hk => (⟨hk, hk.2⟩ : _ ∧ k_ ≠ gb194))) (fun _ hk => hk.2) (.int .i64 t192)) (fun _ hk => hk.2) (.int .i64 t193)) (fun _ h_ => h_.1))) hb); have n4_ := A0_ (Vb_ (by (with_reducible repeat (first | apply Va_ | apply VN_ | apply V1_)); exact (Kd.V_mono (Kd.V_far (p := ⟨gb194, 1, none⟩) (Kd.V_far (p := ⟨gb194, 0, none⟩) (Kd.V_mono HO185.out (fun k_ hk => (⟨hk, hk.2⟩ : _ ∧ k_ ≠ gb194))) (fun _ hk => hk.2) (.int .i64 t192)) (fun _ hk => hk.2) (.int .i64 t193)) (fun _ h_ => h_.1))) hb); have n5_ := A0_ (Vb_ (by (with_reducible repeat (first | apply Va_ | apply VN_ | apply V1_)); exact (Kd.V_mono (Kd.V_far (p := ⟨gb194, 1, none⟩) (Kd.V_far (p := ⟨gb194, 0, none⟩) (Kd.V_mono HO191.out (fun k_ hk => (⟨hk, hk.2⟩ : _ ∧ k_ ≠ gb194))) (fun _ hk => hk.2) (.int .i64 t192)) (fun _ hk => hk.2) (.int .i64 t193)) (fun _ h_ => h_.1))) hb); have n6_ := A0_ (Kd.V_lower (Kd.V_mono (ok' := fun k_ => ((P0_ k_ ∨ P1_ k_) ∨ w.heap.size ≤ k_) ∧ some k_ ≠ (.slice Ao59 y180.length co59 : Value).ownBlock ∧ k_ ≠ gb157 ∧ k_ ≠ gb172 ∧ k_ ≠ gb188 ∧ k_ ≠ gb194) ho0 (fun k_ hk_ => ⟨(.inr (Nat.le_trans (below_size (by repeat (first | (with_reducible first | exact HB.out | apply bA_ | apply bN_ | apply b1_ | refine below_set ?_ GE157.out | refine below_set ?_ GE172.out | refine below_set ?_ GE188.out | refine below_set ?_ GE194.out) | exact HB.out))) hk_)), (Kd.fresh' (Kd.N_lt (by (with_reducible repeat (first | apply Kd.N_alloc | apply Kd.N_drewN | apply Kd.N_drew)); exact (Kd.N_mono (Kd.N_far (p := ⟨gb194, 1, none⟩) (Kd.N_far (p := ⟨gb194, 0, none⟩) (Kd.N_mono HO182.out (fun k_ hk => (⟨hk, hk.2⟩ : _ ∧ k_ ≠ gb194))) (fun _ hk => hk.2) (.int .i64 t192)) (fun _ hk => hk.2) (.int .i64 t193)) (fun _ h_ => h_.1)))) k_ hk_), (Kd.freshB (g := gb157) (o := .cells #[.int .i64 t155, .int .i64 t156] 27 (0, 0)) (by (with_reducible repeat (first | refine blk_drewN ?_ _ | refine blk_drew ?_ | refine blk_alloc ?_ _)); refine blk_far ?_ NB157_194.out _; (with_reducible repeat (first | refine blk_drewN ?_ _ | refine blk_drew ?_ | refine blk_alloc ?_ _)); refine blk_far ?_ NB157_194.out _; (with_reducible repeat (first | refine blk_drewN ?_ _ | refine blk_drew ?_ | refine blk_alloc ?_ _)); exact BK157.out) k_ hk_), (Kd.freshB (g := gb172) (o := .cells #[.int .i64 t170, .int .i64 t171] 27 (0, 0)) (by (with_reducible repeat (first | refine blk_drewN ?_ _ | refine blk_drew ?_ | refine blk_alloc ?_ _)); refine blk_far ?_ NB172_194.out _; (with_reducible repeat (first | refine blk_drewN ?_ _ | refine blk_drew ?_ | refine blk_alloc ?_ _)); refine blk_far ?_ NB172_194.out _; (with_reducible repeat (first | refine blk_drewN ?_ _ | refine blk_drew ?_ | refine blk_alloc ?_ _)); exact BK172.out) k_ hk_), (Kd.freshB (g := gb188) (o := .cells #[.int .i64 t186, .int .i64 t187] 27 (0, 0)) (by (with_reducible repeat (first | refine blk_drewN ?_ _ | refine blk_drew ?_ | refine blk_alloc ?_ _)); refine blk_far ?_ NB188_194.out _; (with_reducible repeat (first | refine blk_drewN ?_ _ | refine blk_drew ?_ | refine blk_alloc ?_ _)); refine blk_far ?_ NB188_194.out _; (with_reducible repeat (first | refine blk_drewN ?_ _ | refine blk_drew ?_ | refine blk_alloc ?_ _)); exact BK188.out) k_ hk_), ((by first | exact Kd.freshB (g := gb194) (o := .cells #[.int .i64 t192, .int .i64 t193] 27 (0, 0)) (by (with_reducible repeat (first | refine blk_drewN ?_ _ | refine blk_drew ?_ | refine blk_alloc ?_ _)); refine blk_put (cs := #[.int .i64 t192, .int .i64 0]) ?_ 1 _ rfl; (with_reducible repeat (first | refine blk_drewN ?_ _ | refine blk_drew ?_ | refine blk_alloc ?_ _)); refine blk_put (cs := #[.int .i64 0, .int .i64 0]) ?_ 0 _ rfl; (with_reducible repeat (first | refine blk_drewN ?_ _ | refine blk_drew ?_ | refine blk_alloc ?_ _)); exact BK194.out) k_ hk_ | exact Kd.freshB (g := gb194) BK194.out k_ hk_))⟩)) (below_size (by repeat (first | (with_reducible first | exact HB.out | apply bA_ | apply bN_ | apply b1_ | refine below_set ?_ GE157.out | refine below_set ?_ GE172.out | refine below_set ?_ GE188.out | refine below_set ?_ GE194.out) | exact HB.out)))); have n7_ := A0_ (blk_below (g := gb157) (o := .cells #[.int .i64 t155, .int .i64 t156] 27 (0, 0)) (by (with_reducible repeat (first | refine blk_drewN ?_ _ | refine blk_drew ?_ | refine blk_alloc ?_ _)); refine blk_far ?_ NB157_194.out _; (with_reducible repeat (first | refine blk_drewN ?_ _ | refine blk_drew ?_ | refine blk_alloc ?_ _)); refine blk_far ?_ NB157_194.out _; (with_reducible repeat (first | refine blk_drewN ?_ _ | refine blk_drew ?_ | refine blk_alloc ?_ _)); exact BK157.out) hb); have n8_ := A0_ (blk_below (g := gb172) (o := .cells #[.int .i64 t170, .int .i64 t171] 27 (0, 0)) (by (with_reducible repeat (first | refine blk_drewN ?_ _ | refine blk_drew ?_ | refine blk_alloc ?_ _)); refine blk_far ?_ NB172_194.out _; (with_reducible repeat (first | refine blk_drewN ?_ _ | refine blk_drew ?_ | refine blk_alloc ?_ _)); refine blk_far ?_ NB172_194.out _; (with_reducible repeat (first | refine blk_drewN ?_ _ | refine blk_drew ?_ | refine blk_alloc ?_ _)); exact BK172.out) hb); have n9_ := A0_ (blk_below (g := gb188) (o := .cells #[.int .i64 t186, .int .i64 t187] 27 (0, 0)) (by (with_reducible repeat (first | refine blk_drewN ?_ _ | refine blk_drew ?_ | refine blk_alloc ?_ _)); refine blk_far ?_ NB188_194.out _; (with_reducible repeat (first | refine blk_drewN ?_ _ | refine blk_drew ?_ | refine blk_alloc ?_ _)); refine blk_far ?_ NB188_194.out _; (with_reducible repeat (first | refine blk_drewN ?_ _ | refine blk_drew ?_ | refine blk_alloc ?_ _)); exact BK188.out) hb); have n10_ := A0_ (blk_below (g := gb194) (o := .cells #[.int .i64 t192, .int .i64 t193] 27 (0, 0)) (by (with_reducible repeat (first | refine blk_drewN ?_ _ | refine blk_drew ?_ | refine blk_alloc ?_ _)); refine blk_put (cs := #[.int .i64 t192, .int .i64 0]) ?_ 1 _ rfl; (with_reducible repeat (first | refine blk_drewN ?_ _ | refine blk_drew ?_ | refine blk_alloc ?_ _)); refine blk_put (cs := #[.int .i64 0, .int .i64 0]) ?_ 0 _ rfl; (with_reducible repeat (first | refine blk_drewN ?_ _ | refine blk_drew ?_ | refine blk_alloc ?_ _)); exact BK194.out) hb); have n11_ := A0_ (below_step (by repeat (first | (with_reducible first | exact HB.out | apply bA_ | apply bN_ | apply b1_ | refine below_set ?_ GE157.out | refine below_set ?_ GE172.out | refine below_set ?_ GE188.out | refine below_set ?_ GE194.out) | exact HB.out)) hb); clear HO_1; clear HO_5; clear HO_7; clear HO182; clear HO185; clear HO191; clear BK157; clear BK172; clear BK188; clear BK194; clear HB; have HO_1 := n0_; have HO_5 := n1_; have HO_7 := n2_; have HO182 := n3_; have HO185 := n4_; have HO191 := n5_; have HO197 := n6_; have BK157 := n7_; have BK172 := n8_; have BK188 := n9_; have BK194 := n10_; have HB := n11_; clear n0_ n1_ n2_ n3_ n4_ n5_ n6_ n7_ n8_ n9_ n10_ n11_; (try clear hb); (try clear hb2); (try clear hk); (try clear hi); (try clear ho0)) | ((with_reducible refine gate_dst (N := 14) rfl ?_); refine box_event ?hg (N := 14) ?hd (cs := #[.int .i64 0, .int .i64 0]) (t := 27) ?hr ?_; (case hd => rfl); (case hg => rfl); (case hr => first | (go_simp; done) | (go_simp; rfl)); intro gb200 hg w74 hbox hb; have n0_ := A0_ (Vb_ (Kd.V_elderB (wV_ HO_1.out) gb200 (Nat.le_of_eq hg.symm)) hb); have n1_ := A0_ (Vb_ (Kd.V_elderB (wV_ HO_5.out) gb200 (Nat.le_of_eq hg.symm)) hb); have n2_ := A0_ (Vb_ (Kd.V_elderB (wV_ HO_7.out) gb200 (Nat.le_of_eq hg.symm)) hb); have n3_ := A0_ (Kd.N_below (Kd.N_elderB (wN_ HO182.out) gb200 (Nat.le_of_eq hg.symm)) hb); have n4_ := A0_ (Vb_ (Kd.V_elderB (wV_ HO185.out) gb200 (Nat.le_of_eq hg.symm)) hb); have n5_ := A0_ (Vb_ (Kd.V_elderB (wV_ HO191.out) gb200 (Nat.le_of_eq hg.symm)) hb); have n6_ := A0_ (Vb_ (Kd.V_elderB (wV_ HO197.out) gb200 (Nat.le_of_eq hg.symm)) hb); have n7_ := A0_ (blk_below (g := gb157) (o := .cells #[.int .i64 t155, .int .i64 t156] 27 (0, 0)) (wB_ BK157.out) hb); have n8_ := A0_ (blk_below (g := gb172) (o := .cells #[.int .i64 t170, .int .i64 t171] 27 (0, 0)) (wB_ BK172.out) hb); have n9_ := A0_ (blk_below (g := gb188) (o := .cells #[.int .i64 t186, .int .i64 t187] 27 (0, 0)) (wB_ BK188.out) hb); have n10_ := A0_ (blk_below (g := gb194) (o := .cells #[.int .i64 t192, .int .i64 t193] 27 (0, 0)) (wB_ BK194.out) hb); have n11_ := A0_ (below_step (by repeat (first | (with_reducible first | exact HB.out | apply bA_ | apply bN_ | apply b1_ | refine below_set ?_ GE157.out | refine below_set ?_ GE172.out | refine below_set ?_ GE188.out | refine below_set ?_ GE194.out) | exact HB.out)) hb); have n12_ := A0_ (hbox); have n13_ := A0_ ((by rw [hg]; exact (below_size (by repeat (first | (with_reducible first | exact HB.out | apply bA_ | apply bN_ | apply b1_ | refine below_set ?_ GE157.out | refine below_set ?_ GE172.out | refine below_set ?_ GE188.out | refine below_set ?_ GE194.out) | exact HB.out))) : w.heap.size ≤ gb200)); have n14_ := A0_ ((by rw [hg]; exact (below_size (by repeat (first | (with_reducible first | exact HB.out | apply bA_ | apply bN_ | apply b1_ | refine below_set ?_ GE157.out | refine below_set ?_ GE172.out | refine below_set ?_ GE188.out | refine below_set ?_ GE194.out) | exact HB.out))) : w.heap.size ≤ gb200)); have n15_ := A0_ ((by rw [hg]; exact Nat.ne_of_lt (blk_lt (g := gb157) (o := .cells #[.int .i64 t155, .int .i64 t156] 27 (0, 0)) (wB_ BK157.out)) : gb157 ≠ gb200)); have n16_ := A0_ ((by rw [hg]; exact Nat.ne_of_gt (blk_lt (g := gb157) (o := .cells #[.int .i64 t155, .int .i64 t156] 27 (0, 0)) (wB_ BK157.out)) : gb200 ≠ gb157)); have n17_ := A0_ ((by rw [hg]; exact Nat.ne_of_lt (blk_lt (g := gb172) (o := .cells #[.int .i64 t170, .int .i64 t171] 27 (0, 0)) (wB_ BK172.out)) : gb172 ≠ gb200)); have n18_ := A0_ ((by rw [hg]; exact Nat.ne_of_gt (blk_lt (g := gb172) (o := .cells #[.int .i64 t170, .int .i64 t171] 27 (0, 0)) (wB_ BK172.out)) : gb200 ≠ gb172)); have n19_ := A0_ ((by rw [hg]; exact Nat.ne_of_lt (blk_lt (g := gb188) (o := .cells #[.int .i64 t186, .int .i64 t187] 27 (0, 0)) (wB_ BK188.out)) : gb188 ≠ gb200)); have n20_ := A0_ ((by rw [hg]; exact Nat.ne_of_gt (blk_lt (g := gb188) (o := .cells #[.int .i64 t186, .int .i64 t187] 27 (0, 0)) (wB_ BK188.out)) : gb200 ≠ gb188)); have n21_ := A0_ ((by rw [hg]; exact Nat.ne_of_lt (blk_lt (g := gb194) (o := .cells #[.int .i64 t192, .int .i64 t193] 27 (0, 0)) (wB_ BK194.out)) : gb194 ≠ gb200)); have n22_ := A0_ ((by rw [hg]; exact Nat.ne_of_gt (blk_lt (g := gb194) (o := .cells #[.int .i64 t192, .int .i64 t193] 27 (0, 0)) (wB_ BK194.out)) : gb200 ≠ gb194)); clear HO_1; clear HO_5; clear HO_7; clear HO182; clear HO185; clear HO191; clear HO197; clear BK157; clear BK172; clear BK188; clear BK194; clear HB; have HO_1 := n0_; have HO_5 := n1_; have HO_7 := n2_; have HO182 := n3_; have HO185 := n4_; have HO191 := n5_; have HO197 := n6_; have BK157 := n7_; have BK172 := n8_; have BK188 := n9_; have BK194 := n10_; have HB := n11_; have BK200 := n12_; have GW200 := n13_; have GE200 := n14_; have NB157_200 := n15_; have NB200_157 := n16_; have NB172_200 := n17_; have NB200_172 := n18_; have NB188_200 := n19_; have NB200_188 := n20_; have NB194_200 := n21_; have NB200_194 := n22_; clear n0_ n1_ n2_ n3_ n4_ n5_ n6_ n7_ n8_ n9_ n10_ n11_ n12_ n13_ n14_ n15_ n16_ n17_ n18_ n19_ n20_ n21_ n22_; clear hb hbox hg; have hnb75 := NB200_157.out; have hnc75 := NB157_200.out; have hnb76 := NB200_172.out; have hnc76 := NB172_200.out; have hnb77 := NB200_188.out; have hnc77 := NB188_200.out; have hnb78 := NB200_194.out; have hnc78 := NB194_200.out; have hcz79_0 : w74.cell? ⟨gb200, 0, none⟩ = some (.int .i64 0) := (bc_ BK200.out 0).trans rfl; have hcz79_1 : w74.cell? ⟨gb200, 1, none⟩ = some (.int .i64 0) := (bc_ BK200.out 1).trans rfl; have hfz79_0 := bf_ BK200.out 0; have hfz79_1 := bf_ BK200.out 1) | ((with_reducible refine gate_callee (f := 7) rfl ?_); refine goesL_ (some 76) rfl rfl Tryz.func7 (by kernel_rfl) rfl #[] rfl wm_ ?_; (with_reducible refine (bindlelaw18_answers.calls  true _ ?side1 A50.out).mono ?_); (case side1 => exact A0_ (Tabs.below hT.out (by repeat (first | (with_reducible first | exact HB.out | apply bA_ | apply bN_ | apply b1_ | refine below_set ?_ GE157.out | refine below_set ?_ GE172.out | refine below_set ?_ GE188.out | refine below_set ?_ GE194.out | refine below_set ?_ GE200.out) | exact HB.out)))); rintro e w80 ⟨rfl, hb⟩; refine ⟨_, rfl, ?_⟩; have n0_ := A0_ (Vb_ (by (with_reducible repeat (first | apply Va_ | apply VN_ | apply V1_)); exact (Kd.V_mono (Kd.V_far (p := ⟨gb200, 1, none⟩) (Kd.V_far (p := ⟨gb200, 0, none⟩) (Kd.V_mono HO_1.out (fun k_ hk => (⟨hk, hk.2⟩ : _ ∧ k_ ≠ gb200))) (fun _ hk => hk.2) (.int .i64 t198)) (fun _ hk => hk.2) (.int .i64 t199)) (fun _ h_ => h_.1))) hb); have n1_ := A0_ (Vb_ (by (with_reducible repeat (first | apply Va_ | apply VN_ | apply V1_)); exact (Kd.V_mono (Kd.V_far (p := ⟨gb200, 1, none⟩) (Kd.V_far (p := ⟨gb200, 0, none⟩) (Kd.V_mono HO_5.out (fun k_ hk => (⟨hk, hk.2⟩ : _ ∧ k_ ≠ gb200))) (fun _ hk => hk.2) (.int .i64 t198)) (fun _ hk => hk.2) (.int .i64 t199)) (fun _ h_ => h_.1))) hb); have n2_ := A0_ (Vb_ (by (with_reducible repeat (first | apply Va_ | apply VN_ | apply V1_)); exact (Kd.V_mono (Kd.V_far (p := ⟨gb200, 1, none⟩) (Kd.V_far (p := ⟨gb200, 0, none⟩) (Kd.V_mono HO_7.out (fun k_ hk => (⟨hk, hk.2⟩ : _ ∧ k_ ≠ gb200))) (fun _ hk => hk.2) (.int .i64 t198)) (fun _ hk => hk.2) (.int .i64 t199)) (fun _ h_ => h_.1))) hb); have n3_ := A0_ (Kd.N_below (by (with_reducible repeat (first | apply Kd.N_alloc | apply Kd.N_drewN | apply Kd.N_drew)); exact (Kd.N_mono (Kd.N_far (p := ⟨gb200, 1, none⟩) (Kd.N_far (p := ⟨gb200, 0, none⟩) (Kd.N_mono HO182.out (fun k_ hk => (⟨hk, hk.2⟩ : _ ∧ k_ ≠ gb200))) (fun _ hk => hk.2) (.int .i64 t198)) (fun _ hk => hk.2) (.int .i64 t199)) (fun _ h_ => h_.1))) hb); have n4_ := A0_ (Vb_ (by (with_reducible repeat (first | apply Va_ | apply VN_ | apply V1_)); exact (Kd.V_mono (Kd.V_far (p := ⟨gb200, 1, none⟩) (Kd.V_far (p := ⟨gb200, 0, none⟩) (Kd.V_mono HO185.out (fun k_ hk => (⟨hk, hk.2⟩ : _ ∧ k_ ≠ gb200))) (fun _ hk => hk.2) (.int .i64 t198)) (fun _ hk => hk.2) (.int .i64 t199)) (fun _ h_ => h_.1))) hb); have n5_ := A0_ (Vb_ (by (with_reducible repeat (first | apply Va_ | apply VN_ | apply V1_)); exact (Kd.V_mono (Kd.V_far (p := ⟨gb200, 1, none⟩) (Kd.V_far (p := ⟨gb200, 0, none⟩) (Kd.V_mono HO191.out (fun k_ hk => (⟨hk, hk.2⟩ : _ ∧ k_ ≠ gb200))) (fun _ hk => hk.2) (.int .i64 t198)) (fun _ hk => hk.2) (.int .i64 t199)) (fun _ h_ => h_.1))) hb); have n6_ := A0_ (Vb_ (by (with_reducible repeat (first | apply Va_ | apply VN_ | apply V1_)); exact (Kd.V_mono (Kd.V_far (p := ⟨gb200, 1, none⟩) (Kd.V_far (p := ⟨gb200, 0, none⟩) (Kd.V_mono HO197.out (fun k_ hk => (⟨hk, hk.2⟩ : _ ∧ k_ ≠ gb200))) (fun _ hk => hk.2) (.int .i64 t198)) (fun _ hk => hk.2) (.int .i64 t199)) (fun _ h_ => h_.1))) hb); have n7_ := A0_ (blk_below (g := gb157) (o := .cells #[.int .i64 t155, .int .i64 t156] 27 (0, 0)) (by (with_reducible repeat (first | refine blk_drewN ?_ _ | refine blk_drew ?_ | refine blk_alloc ?_ _)); refine blk_far ?_ NB157_200.out _; (with_reducible repeat (first | refine blk_drewN ?_ _ | refine blk_drew ?_ | refine blk_alloc ?_ _)); refine blk_far ?_ NB157_200.out _; (with_reducible repeat (first | refine blk_drewN ?_ _ | refine blk_drew ?_ | refine blk_alloc ?_ _)); exact BK157.out) hb); have n8_ := A0_ (blk_below (g := gb172) (o := .cells #[.int .i64 t170, .int .i64 t171] 27 (0, 0)) (by (with_reducible repeat (first | refine blk_drewN ?_ _ | refine blk_drew ?_ | refine blk_alloc ?_ _)); refine blk_far ?_ NB172_200.out _; (with_reducible repeat (first | refine blk_drewN ?_ _ | refine blk_drew ?_ | refine blk_alloc ?_ _)); refine blk_far ?_ NB172_200.out _; (with_reducible repeat (first | refine blk_drewN ?_ _ | refine blk_drew ?_ | refine blk_alloc ?_ _)); exact BK172.out) hb); have n9_ := A0_ (blk_below (g := gb188) (o := .cells #[.int .i64 t186, .int .i64 t187] 27 (0, 0)) (by (with_reducible repeat (first | refine blk_drewN ?_ _ | refine blk_drew ?_ | refine blk_alloc ?_ _)); refine blk_far ?_ NB188_200.out _; (with_reducible repeat (first | refine blk_drewN ?_ _ | refine blk_drew ?_ | refine blk_alloc ?_ _)); refine blk_far ?_ NB188_200.out _; (with_reducible repeat (first | refine blk_drewN ?_ _ | refine blk_drew ?_ | refine blk_alloc ?_ _)); exact BK188.out) hb); have n10_ := A0_ (blk_below (g := gb194) (o := .cells #[.int .i64 t192, .int .i64 t193] 27 (0, 0)) (by (with_reducible repeat (first | refine blk_drewN ?_ _ | refine blk_drew ?_ | refine blk_alloc ?_ _)); refine blk_far ?_ NB194_200.out _; (with_reducible repeat (first | refine blk_drewN ?_ _ | refine blk_drew ?_ | refine blk_alloc ?_ _)); refine blk_far ?_ NB194_200.out _; (with_reducible repeat (first | refine blk_drewN ?_ _ | refine blk_drew ?_ | refine blk_alloc ?_ _)); exact BK194.out) hb); have n11_ := A0_ (blk_below (g := gb200) (o := .cells #[.int .i64 t198, .int .i64 t199] 27 (0, 0)) (by (with_reducible repeat (first | refine blk_drewN ?_ _ | refine blk_drew ?_ | refine blk_alloc ?_ _)); refine blk_put (cs := #[.int .i64 t198, .int .i64 0]) ?_ 1 _ rfl; (with_reducible repeat (first | refine blk_drewN ?_ _ | refine blk_drew ?_ | refine blk_alloc ?_ _)); refine blk_put (cs := #[.int .i64 0, .int .i64 0]) ?_ 0 _ rfl; (with_reducible repeat (first | refine blk_drewN ?_ _ | refine blk_drew ?_ | refine blk_alloc ?_ _)); exact BK200.out) hb); have n12_ := A0_ (below_step (by repeat (first | (with_reducible first | exact HB.out | apply bA_ | apply bN_ | apply b1_ | refine below_set ?_ GE157.out | refine below_set ?_ GE172.out | refine below_set ?_ GE188.out | refine below_set ?_ GE194.out | refine below_set ?_ GE200.out) | exact HB.out)) hb); clear HO_1; clear HO_5; clear HO_7; clear HO182; clear HO185; clear HO191; clear HO197; clear BK157; clear BK172; clear BK188; clear BK194; clear BK200; clear HB; have HO_1 := n0_; have HO_5 := n1_; have HO_7 := n2_; have HO182 := n3_; have HO185 := n4_; have HO191 := n5_; have HO197 := n6_; have BK157 := n7_; have BK172 := n8_; have BK188 := n9_; have BK194 := n10_; have BK200 := n11_; have HB := n12_; clear n0_ n1_ n2_ n3_ n4_ n5_ n6_ n7_ n8_ n9_ n10_ n11_ n12_; (try clear hb); (try clear hb2); (try clear hk); (try clear hi); have hcz81_0 : w80.cell? ⟨gb188, 0, none⟩ = some (.int .i64 t186) := (bc_ BK188.out 0).trans rfl; have hcz81_1 : w80.cell? ⟨gb188, 1, none⟩ = some (.int .i64 t187) := (bc_ BK188.out 1).trans rfl; have hfz81_0 := bf_ BK188.out 0; have hfz81_1 := bf_ BK188.out 1; obtain ⟨Ao82, co82, eo82⟩ := Kd.V_slice HO191.out; subst eo82; obtain ⟨Ao83, co83, eo83⟩ := Kd.V_slice HO197.out; subst eo83) | (go_at_call 10; (with_reducible refine (bindleref08_SameTree.calls kj13 _ _ t189 _ _ t195 t202 _ ?side1 ?side2 ?side3 ?side4 A53.out).mono ?_); (case side1 => exact wc_ (Kd.V_reads' HO191.out).2.2); (case side2 => exact (Kd.V_reads' HO191.out).2.1); (case side3 => exact wc_ (Kd.V_reads' HO197.out).2.2); (case side4 => exact (Kd.V_reads' HO197.out).2.1); rintro e w84 ⟨rfl, hb⟩; have n0_ := A0_ (Vb_ (wV_ HO_1.out) hb); have n1_ := A0_ (Vb_ (wV_ HO_5.out) hb); have n2_ := A0_ (Vb_ (wV_ HO_7.out) hb); have n3_ := A0_ (Kd.N_below (wN_ HO182.out) hb); have n4_ := A0_ (Vb_ (wV_ HO185.out) hb); have n5_ := A0_ (Vb_ (wV_ HO191.out) hb); have n6_ := A0_ (Vb_ (wV_ HO197.out) hb); have n7_ := A0_ (blk_below (g := gb157) (o := .cells #[.int .i64 t155, .int .i64 t156] 27 (0, 0)) (wB_ BK157.out) hb); have n8_ := A0_ (blk_below (g := gb172) (o := .cells #[.int .i64 t170, .int .i64 t171] 27 (0, 0)) (wB_ BK172.out) hb); have n9_ := A0_ (blk_below (g := gb188) (o := .cells #[.int .i64 t186, .int .i64 t187] 27 (0, 0)) (wB_ BK188.out) hb); have n10_ := A0_ (blk_below (g := gb194) (o := .cells #[.int .i64 t192, .int .i64 t193] 27 (0, 0)) (wB_ BK194.out) hb); have n11_ := A0_ (blk_below (g := gb200) (o := .cells #[.int .i64 t198, .int .i64 t199] 27 (0, 0)) (wB_ BK200.out) hb); have n12_ := A0_ (below_step (by repeat (first | (with_reducible first | exact HB.out | apply bA_ | apply bN_ | apply b1_ | refine below_set ?_ GE157.out | refine below_set ?_ GE172.out | refine below_set ?_ GE188.out | refine below_set ?_ GE194.out | refine below_set ?_ GE200.out) | exact HB.out)) hb); clear HO_1; clear HO_5; clear HO_7; clear HO182; clear HO185; clear HO191; clear HO197; clear BK157; clear BK172; clear BK188; clear BK194; clear BK200; clear HB; have HO_1 := n0_; have HO_5 := n1_; have HO_7 := n2_; have HO182 := n3_; have HO185 := n4_; have HO191 := n5_; have HO197 := n6_; have BK157 := n7_; have BK172 := n8_; have BK188 := n9_; have BK194 := n10_; have BK200 := n11_; have HB := n12_; clear n0_ n1_ n2_ n3_ n4_ n5_ n6_ n7_ n8_ n9_ n10_ n11_ n12_; (try clear hb); (try clear hb2); (try clear hk); (try clear hi)))
     go_ret
     exact ⟨we_, by repeat (first | (with_reducible first | exact HB.out | apply bA_ | apply bN_ | apply b1_ | refine below_set ?_ GE157.out | refine below_set ?_ GE172.out | refine below_set ?_ GE188.out | refine below_set ?_ GE194.out | refine below_set ?_ GE200.out) | exact HB.out)⟩
end Go.Proofs.YtiijbmaamblidaaGreatDoor.Print

namespace Go.Proofs.YtiijbmaamblidaaGreatDoor
open Go.RowKit Go.Proofs.YtiijbmaamblidaaGreatDoor.Print Go.Proofs.YtiijbmaamblidaaGreatDoorW.PrintWords
set_option linter.unusedVariables false
theorem FlatMore_true (a b : List Mem) (hz : ∀ x ∈ a, MemR x) (hlen : a.length ≤ 140737488351232) (hz' : ∀ x ∈ b, MemR x) (hlen' : b.length ≤ 140737488351232) : Ev (fun k => bindlelaw18_FlatMore.f k a b) true := by
 obtain ⟨p, h1, h2⟩ := light18_eq a hz hlen
 obtain ⟨q, h3, h4⟩ := light18_eq b hz' hlen'
 have hstop : Ev (fun k => bindlelaw18_FlatMore.j0 k a b true) true := Ev.step (f := fun _ => some true) (fun k => by rw [bindlelaw18_FlatMore.j0, if_pos rfl, bindlelaw18_answers.val]; rfl) (Ev.now _)
 unfold bindlelaw18_FlatMore.f
 refine Ev.bind h1 ?_
 cases p with
 | false => exact Ev.congr (fun k => by rw [if_neg (by decide)]) hstop
 | true =>
  refine Ev.congr (fun k => by rw [if_pos rfl]) ?_
  refine Ev.bind h3 ?_
  cases q with
  | false => exact hstop
  | true =>
   obtain ⟨ha60, hza, _⟩ := h2 rfl
   obtain ⟨hb60, hzb, _⟩ := h4 rfl
   have hzab : MemsZ (a ++ b) := ⟨by rw [List.length_append]; omega, fun x hx => (List.mem_append.1 hx).elim (hza.2 x) (hzb.2 x)⟩
   have hlab : (a ++ b).length ≤ 120 := by rw [List.length_append]; omega
   have hfa := flatten_f hza (by omega)
   have hfab := flatten_f hzab (by omega)
   -- the second half, where one of the two is a fault
   have hbad : ∀ (x y : List Mem) (e n e2 n2 : Int), (e = 0 ∨ e2 ≠ 0) → Ev (fun k => bindlelaw18_FlatMore.j1 k b x y true e n e2 n2) true := by
    intro x y e n e2 n2 h
    refine Ev.step (f := fun _ => some true) (fun k => ?_) (Ev.now _)
    rw [bindlelaw18_FlatMore.j1, if_pos rfl, bindlelaw18_answers.val, Option.bind_some, if_pos rfl]
    by_cases h0 : e = 0
    ·rw [if_pos h0]
    ·rw [if_neg h0]
     have := h.resolve_left h0
     congr 1
     simpa using this
   refine Ev.step (f := fun k => if (flatF a).2.1 = 0 then (bindlelaw18_FlatMore.j1 k b (flatF a).1 (flatF (a ++ b)).1 ((flatF (a ++ b)).2.1 != 0) (flatF a).2.1 (flatF a).2.2 (flatF (a ++ b)).2.1 (flatF (a ++ b)).2.2) else (bindlelaw18_FlatMore.j1 k b (flatF a).1 (flatF (a ++ b)).1 true (flatF a).2.1 (flatF a).2.2 (flatF (a ++ b)).2.1 (flatF (a ++ b)).2.2)) (fun k => ?_) ?_
   ·show bindlelaw18_FlatMore.j0 (k + 1) a b false = _
    rw [bindlelaw18_FlatMore.j0, if_neg (by decide), hfa, Option.bind_some, Option.bind_some, if_pos (by simp; omega), Option.bind_some, if_pos (by simp; omega), List.nil_append, hfab, Option.bind_some]
   ·by_cases h0 : (foldF a).2.1 = 0
    ·have H := flat_ok hza (by omega) h0
     have e1 : (flatF a).2.1 = 0 := by rw [H.is]
     refine Ev.congr (fun k => by rw [if_pos e1]) ?_
     by_cases h5 : (foldF (a ++ b)).2.1 = 0
     ·have H2 := flat_ok hzab (by omega) h5
      have e2 : (flatF (a ++ b)).2.1 = 0 := by rw [H2.is]
      obtain ⟨m1, m2⟩ := flat_more hzab (by omega) h5
      have hlx := H.len
      have hly := H2.len
      have hzx : MemsZ ((flatF a).1 ++ b) := ⟨by rw [List.length_append]; omega, fun x hx => (List.mem_append.1 hx).elim (H.z.2 x) (hzb.2 x)⟩
      have hlxb : ((flatF a).1 ++ b).length ≤ 120 := by rw [List.length_append]; omega
      have H3 := flat_ok hzx (by omega) m1
      have e3 : (flatF ((flatF a).1 ++ b)).2.1 = 0 := by rw [H3.is]
      have hlz := H3.len
      obtain ⟨u2, hu2, hs2⟩ := H2.back
      obtain ⟨u3, hu3, hs3⟩ := H3.back
      have hsame : sameB u2 u3 = true := sameB_trans (sameB_symm hs2) (sameB_trans m2 hs3)
      have hlu : u2.length ≤ 120 := by
       have h6 := (fold_good H2.z (by omega)).1
       rw [hu2] at h6
       have : u2.length ≤ (flatF (a ++ b)).1.length := h6
       omega
      have hst := sameTree_eq u2 u3 (by omega)
      rw [hsame] at hst
      refine Ev.step (f := fun k => (bindleref08_SameTree.f k u2 u3).bind fun t202 => (some t202)) (fun k => ?_) (Ev.bind hst (Ev.now true))
      rw [e2]
      rw [bindlelaw18_FlatMore.j1, if_neg (by decide), Option.bind_some, if_pos (by simp; omega), Option.bind_some, if_pos (by simp; omega), List.nil_append, flatten_f hzx (by omega), Option.bind_some, rfold_f H2.z, Option.bind_some, rfold_f H3.z, Option.bind_some, bindlelaw18_answers.val, Option.bind_some, if_pos rfl, if_pos e3, hu2, hu3]
     ·have e2 : ¬ (flatF (a ++ b)).2.1 = 0 := by rw [flat_bad h5]; exact h5
      have e4 : ((flatF (a ++ b)).2.1 != 0) = true := by rw [bne_iff_ne]; exact e2
      rw [e4]
      exact hbad _ _ _ _ _ _ (.inl e1)
    ·have e1 : ¬ (flatF a).2.1 = 0 := by rw [flat_bad h0]; exact h0
     have h5 := fold_bad_app hzab h0
     have e2 : ¬ (flatF (a ++ b)).2.1 = 0 := by rw [flat_bad h5]; exact h5
     refine Ev.congr (fun k => by rw [if_neg e1]) ?_
     exact hbad _ _ _ _ _ _ (.inr e2)
end Go.Proofs.YtiijbmaamblidaaGreatDoor

namespace Go.Proofs.YtiijbmaamblidaaGreatDoor
open Go.RowKit Go.Lib Go.Proofs.YtiijbmaamblidaaGreatDoorW.PrintWords
theorem laidOut : laidOutB Tryz.prog = true := by kernel_rfl
end Go.Proofs.YtiijbmaamblidaaGreatDoor

namespace Go.Proofs.YtiijbmaamblidaaGreatDoor
open Go.ChangeShapes Go.WideShapes Go.RowKit Go.Proofs.YtiijbmaamblidaaGreatDoorW.PrintWords
structure Opens {α : Type} (P : Program) (d : Kd α) (t : TypeId) (B : α → Prop) : Prop where
 sz : P.cellsOf t = d.sz
 get : ∀ {H : Type} {enc : TypeId × Value → H} {W : World} {fuel : Nat} {cs : List Value} {x : DataW H × List MemPlace},
  DataW.trod enc P W 0 (fun _ => true) true fuel t cs = some x → (∀ n ∈ x.1.weights P t, n ≤ reachBytes) → ∃ a, d.K W a cs ∧ B a
theorem Opens.int {P : Program} {t : TypeId} {k : IntKind} (ht : P.underlying t = some (.int k)) (hc : P.cellsOf t = 1) : Opens P (Kd.int k) t (fun n => (Lit.int k n).wf = true) :=
 ⟨hc, fun h _ => by
  obtain ⟨n, rfl, rfl, hw⟩ := DataW.trod_int ht h
  exact ⟨n, rfl, hw⟩⟩
theorem Opens.bool {P : Program} {t : TypeId} (ht : P.underlying t = some .bool) (hc : P.cellsOf t = 1) : Opens P Kd.bool t (fun _ => True) :=
 ⟨hc, fun h _ => by
  obtain ⟨n, rfl, rfl⟩ := DataW.trod_bool ht h
  exact ⟨n, rfl, trivial⟩⟩
theorem Opens.string {P : Program} {t : TypeId} (ht : P.underlying t = some .string) (hc : P.cellsOf t = 1) : Opens P Kd.string t (fun s => s.size ≤ 140737488351232) :=
 ⟨hc, fun h hw => by
  obtain ⟨s, rfl, rfl, _⟩ := DataW.trod_string ht h
  refine ⟨s, rfl, ?_⟩
  have := hw s.data.toList.length (by simp [DataW.weights])
  have e : s.data.toList.length = s.size := by simp
  rw [e] at this
  exact this⟩
theorem each_list {α : Type} {Q : Nat → α → Prop} : ∀ n : Nat, (∀ i, i < n → ∃ x, Q i x) → ∃ xs : List α, xs.length = n ∧ ∀ i x, xs[i]? = some x → Q i x := by
 intro n
 induction n with
 | zero => exact fun _ => ⟨[], rfl, fun i x h => by simp at h⟩
 | succ n ih =>
  intro h
  obtain ⟨xs, hl, hx⟩ := ih (fun i hi => h i (by omega))
  obtain ⟨y, hy⟩ := h n (by omega)
  refine ⟨xs ++ [y], by simp [hl], fun i x hi => ?_⟩
  rcases Nat.lt_or_ge i n with h1 | h1
  ·rw [List.getElem?_append_left (by omega)] at hi
   exact hx i x hi
  ·rw [List.getElem?_append_right (by omega)] at hi
   have h0 : i - xs.length = 0 := by
    have := (List.getElem?_eq_some_iff.1 hi).1
    simp at this
    omega
   rw [h0] at hi
   simp at hi
   subst hi
   obtain rfl : i = n := by omega
   exact hy
theorem weights_all {H : Type} {P : Program} {e : TypeId} : ∀ {l : List (DataW H)} {y : DataW H}, y ∈ l → ∀ n ∈ y.weights P e, n ∈ DataW.weightsAll P e l
 | z :: r, y, hy, n, hn => by
  simp only [DataW.weightsAll, List.mem_append]
  rcases List.mem_cons.1 hy with rfl | hy
  ·exact .inl hn
  ·exact .inr (weights_all hy n hn)
theorem add_add (a : Addr) (x y : Nat) : (a.add x).add y = a.add (x + y) := by
 unfold Addr.add
 split
 ·rename_i h
  subst h
  simp
 ·rename_i h
  split
  ·rename_i h2
   subst h2
   simp [h]
  ·rw [if_neg (by omega)]
   simp [Nat.add_assoc]
theorem Opens.slice {α : Type} {P : Program} {d : Kd α} {B : α → Prop} {t e : TypeId} (ht : P.underlying t = some (.slice e)) (hc : P.cellsOf t = 1) (h : Opens P d e B) :
  Opens P (Kd.slice e d) t (fun xs => xs.length * P.bytesOf e ≤ 140737488351232 ∧ ∀ x ∈ xs, B x) :=
 ⟨hc, fun {H enc W fuel cs x} hf hw => by
  rcases DataW.trod_slice ht hf with ⟨rfl, rfl⟩ | ⟨a, len, cap, elems, rest, n, _, rfl, rfl, hb, hl, hm, hlen, hel, hsp, hns⟩
  ·exact ⟨[], ⟨none, 0, rfl, Nat.le_refl _, Kd.C_nil d W⟩, by simp, fun x hx => by cases hx⟩
  ·simp only [DataW.weights, ht] at hw
   have each : ∀ i, i < len → ∃ z : α, B z ∧ ∃ c, c.length = d.sz ∧ d.K W z c ∧ ∀ j u, c[j]? = some u → W.cell? (a.add (i * d.sz + j)) = some u := by
    intro i hi
    have h1 := hel i hi
    have hi' : i < elems.length := by omega
    rw [List.getElem?_eq_getElem hi', Option.bind_eq_some_iff] at h1
    obtain ⟨c, hcs, hy⟩ := h1
    obtain ⟨-, h2, h3⟩ := World.cells?_some hcs
    obtain ⟨z, hz, hB⟩ := h.get hy (fun n hn => hw n (by
     simp only [List.mem_cons, List.mem_append]
     exact .inr (.inl (weights_all (List.mem_map.2 ⟨_, List.getElem_mem hi', rfl⟩) n hn))))
    refine ⟨z, hB, c, by rw [h2, h.sz], hz, fun j u hj => ?_⟩
    have hj' : j < P.cellsOf e := by
     have := (List.getElem?_eq_some_iff.1 hj).1
     omega
    have h4 := h3 j hj'
    rw [add_add, h.sz] at h4
    rw [h4, hj]
   obtain ⟨xs, hxl, hxs⟩ := each_list len each
   subst hxl
   have hz := hw _ (List.mem_cons_self ..)
   simp only [List.length_map] at hz
   have h5 : xs.length * P.bytesOf e ≤ (elems.length + rest.length) * P.bytesOf e := Nat.mul_le_mul_right _ (by omega)
   have h6 : reachBytes = 140737488351232 := rfl
   refine ⟨xs, ⟨some a, cap, rfl, hl, rfl, ?_, fun _ => ⟨a, rfl, fun j p hj => (hxs j p hj).2⟩⟩, by omega, fun x hx => ?_⟩
   ·have : maxLen = 9223372036854775807 := rfl
    omega
   ·obtain ⟨i, hi⟩ := List.getElem?_of_mem hx
    exact (hxs i x hi).1⟩
structure OpensF {α : Type} (P : Program) (d : Kd α) (fs : List Field) (o : Nat) (B : α → Prop) : Prop where
 get : ∀ {H : Type} {enc : TypeId × Value → H} {W : World} {n : Nat} {cs : List Value} {xs : List (DataW H × List MemPlace)}, xs.length = fs.length →
  (∀ (i : Nat) (f : Field), fs[i]? = some f → DataW.trod enc P W 0 (fun _ => true) true n f.type ((cs.drop f.offset).take (P.cellsOf f.type)) = xs[i]?) →
  (∀ m ∈ DataW.weightsEach P (fs.map (·.type)) (xs.map (·.1)), m ≤ reachBytes) → ∃ a, d.K W a ((cs.drop o).take d.sz) ∧ B a
theorem OpensF.one {α : Type} {P : Program} {d : Kd α} {B : α → Prop} {f : Field} {o : Nat} (ho : f.offset = o) (h : Opens P d f.type B) : OpensF P d [f] o B := by
 refine ⟨fun {H enc W n cs xs} hl hx hw => ?_⟩
 match xs, hl with
 | [x], _ =>
  have h0 := hx 0 f rfl
  rw [h.sz, ho] at h0
  simp only [List.getElem?_cons_zero] at h0
  exact h.get h0 (fun m hm => hw m (by simp only [List.map_cons, List.map_nil, DataW.weightsEach, List.mem_append]; exact .inl hm))
theorem OpensF.cons {α β : Type} {P : Program} {d : Kd α} {d' : Kd β} {B : α → Prop} {B' : β → Prop} {f : Field} {fs : List Field} {o : Nat} (ho : f.offset = o) (h : Opens P d f.type B) (h' : OpensF P d' fs (o + d.sz) B') :
  OpensF P (Kd.pair d d') (f :: fs) o (fun x => B x.1 ∧ B' x.2) := by
 refine ⟨fun {H enc W n cs xs} hl hx hw => ?_⟩
 match xs, hl with
 | x :: xs, hl =>
  have h0 := hx 0 f rfl
  rw [h.sz, ho] at h0
  simp only [List.getElem?_cons_zero] at h0
  obtain ⟨a, ha, hB⟩ := h.get h0 (fun m hm => hw m (by simp only [List.map_cons, DataW.weightsEach, List.mem_append]; exact .inl hm))
  obtain ⟨b, hb, hB'⟩ := h'.get (enc := enc) (W := W) (n := n) (cs := cs) (xs := xs) (by simpa using hl) (fun i g hg => by have := hx (i + 1) g (by simpa using hg); simpa using this)
   (fun m hm => hw m (by simp only [List.map_cons, DataW.weightsEach, List.mem_append]; exact .inr hm))
  refine ⟨(a, b), ⟨_, _, ?_, ha, hb⟩, hB, hB'⟩
  show (cs.drop o).take (d.sz + d'.sz) = _
  rw [List.take_add, List.drop_drop]
theorem Opens.struct {α β : Type} {P : Program} {d : Kd α} {B : α → Prop} {t : TypeId} {fs : Array Field} (ht : P.underlying t = some (.struct fs)) (hc : P.cellsOf t = d.sz) (h : OpensF P d fs.toList 0 B) (f : β → α) (g : α → β) (hg : ∀ a, f (g a) = a) :
  Opens P (Kd.iso d f) t (fun x => B (f x)) :=
 ⟨hc, fun {H enc W fuel cs x} hf hw => by
  obtain ⟨xs, n, _, rfl, hl, hlen, hx⟩ := DataW.trod_struct ht hf
  simp only [DataW.weights, ht] at hw
  obtain ⟨a, ha, hB⟩ := h.get (enc := enc) (W := W) (n := n) (cs := cs) (xs := xs) (by simpa using hlen) (fun i g hg => hx i g (by simpa using hg)) hw
  refine ⟨g a, ?_, by rw [hg]; exact hB⟩
  show d.K W (f (g a)) cs
  rw [hg]
  rw [List.drop_zero, List.take_of_length_le (by omega)] at ha
  exact ha⟩
theorem Opens.imp {α : Type} {P : Program} {d : Kd α} {t : TypeId} {B B' : α → Prop} (h : Opens P d t B) (hB : ∀ a, B a → B' a) : Opens P d t B' :=
 ⟨h.sz, fun hf hw => by obtain ⟨a, ha, hb⟩ := h.get hf hw; exact ⟨a, ha, hB a hb⟩⟩
theorem Opens.param {α : Type} {P : Program} {d : Kd α} {t : TypeId} {B : α → Prop} (h : Opens P d t B) {H : Type} {enc : TypeId × Value → H} {W : World} {v : Value} {x : DataW H} {p : List MemPlace} {ts : List TypeId} {ds : List (DataW H)} {j : Nat}
  (hsz : (DataW.weightsEach P ts ds).all (· ≤ reachBytes) = true) (hj : ts[j]? = some t) (hd : ds[j]? = some x) (ht : DataW.Trod enc P W 0 (fun _ => true) true t v x p) : ∃ a, d.K W a v.cells.toList ∧ B a := by
 obtain ⟨fuel, hf⟩ := ht
 exact h.get hf (fun n hn => by simpa using List.all_eq_true.1 hsz _ (DataW.weights_mem_each hj hd n hn))
theorem Opens.row {α : Type} {P : Program} {d : Kd α} {t e : TypeId} {B : List α → Prop} (h : Opens P (Kd.slice e d) t B) {H : Type} {enc : TypeId × Value → H} {W : World} {A : Option Addr} {n c : Nat} {x : DataW H} {p : List MemPlace} {ts : List TypeId} {ds : List (DataW H)} {j : Nat}
  (hsz : (DataW.weightsEach P ts ds).all (· ≤ reachBytes) = true) (hj : ts[j]? = some t) (hd : ds[j]? = some x) (ht : DataW.Trod enc P W 0 (fun _ => true) true t (.slice A n c) x p) :
  ∃ xs : List α, xs.length = n ∧ d.C W A n xs ∧ n ≤ c ∧ B xs := by
 obtain ⟨xs, ⟨A', c', he, hl, hC⟩, hB⟩ := h.param hsz hj hd ht
 simp [Value.cells] at he
 obtain ⟨rfl, rfl, rfl⟩ := he
 exact ⟨xs, rfl, hC, hl, hB⟩
end Go.Proofs.YtiijbmaamblidaaGreatDoor

namespace Go.Proofs.YtiijbmaamblidaaGreatDoor
open Go.RowKit Go.Proofs.YtiijbmaamblidaaGreatDoor.Print Go.Proofs.YtiijbmaamblidaaGreatDoorW.PrintWords
theorem o_str : Opens Tryz.prog Kd.string 9 (fun s => s.size ≤ 140737488351232) := Opens.string Tryz.underlying9 (by kernel_rfl)
theorem o_u8 : Opens Tryz.prog (Kd.int .u8) 5 (fun n => (Lit.int .u8 n).wf = true) := Opens.int Tryz.underlying5 (by kernel_rfl)
theorem o_int : Opens Tryz.prog (Kd.int .i64) 3 (fun n => (Lit.int .i64 n).wf = true) := Opens.int Tryz.underlying3 (by kernel_rfl)
theorem o_bytes : Opens Tryz.prog (Kd.slice 5 (Kd.int .u8)) 41 (fun xs => xs.length ≤ 140737488351232) :=
 (Opens.slice Tryz.underlying41 (by kernel_rfl) o_u8).imp (fun xs h => by
  have hb : Tryz.prog.bytesOf 5 = 1 := by kernel_rfl
  have h1 := h.1
  rw [hb] at h1
  omega)
theorem o_meta : Opens Tryz.prog k40 40 (fun _ => True) := by
 have h := Opens.struct Tryz.underlying40 (by kernel_rfl) (OpensF.cons rfl o_int (OpensF.cons rfl o_int (OpensF.cons rfl o_int (OpensF.one rfl o_int)))) (fun x : S40 => (x.f0, x.f1, x.f2, x.f3)) (fun p => ⟨p.1, p.2.1, p.2.2.1, p.2.2.2⟩) (fun _ => rfl)
 exact Opens.imp h (fun _ _ => trivial)
theorem o_mem : Opens Tryz.prog k43 43 MemR := by
 have h := Opens.struct Tryz.underlying43 (by kernel_rfl) (OpensF.cons rfl o_str (OpensF.cons rfl o_str (OpensF.cons rfl o_u8 (OpensF.cons rfl o_meta (OpensF.one rfl o_bytes))))) (fun x : S43 => (x.f0, x.f1, x.f2, x.f3, x.f4)) (fun p => ⟨p.1, p.2.1, p.2.2.1, p.2.2.2.1, p.2.2.2.2⟩) (fun _ => rfl)
 exact Opens.imp h (fun _ hx => ⟨hx.1, hx.2.1, hx.2.2.2.2⟩)
theorem o_mems : Opens Tryz.prog (Kd.slice 43 k43) 22 (fun xs => (∀ x ∈ xs, MemR x) ∧ xs.length ≤ 140737488351232) :=
 (Opens.slice Tryz.underlying22 (by kernel_rfl) o_mem).imp (fun xs h => ⟨h.2, by
  have hb : Tryz.prog.bytesOf 43 = 96 := by kernel_rfl
  have h1 := h.1
  rw [hb] at h1
  omega⟩)
end Go.Proofs.YtiijbmaamblidaaGreatDoor
