/-
  Part of the proof that MergeOne answers true: texts put together (wip/bundle.py).
-/
import Derived.Test.YtbngbefchobfnaaGreatDoorCMergeOne3
import Derived.Deep.QuietTactic
import Derived.BigQuiet
import Derived.IntWalk
import Derived.Deep.RegionHeld3
namespace Go.Proofs.YtbngbefchobfnaaGreatDoor
open Go.RowKit Go.Proofs.YtbngbefchobfnaaGreatDoor.Print Go.Proofs.YtbngbefchobfnaaGreatDoorW.PrintWords
set_option linter.unusedVariables false
def szN (x : Node) : Nat := x.f5.length + x.f0.size + x.f1.size
def OkL (ls : List (List Node)) : Prop := ∀ t ∈ ls, t.length ≤ 60 ∧ ∀ x ∈ t, szN x ≤ 200000
structure PreL (ls : List (List Node)) (i kk : Nat) (s : Int) : Prop where
 lo : 0 ≤ s
 hi : s ≤ ((i * 61 + kk : Nat) : Int) * 1000000000000000
 old : ∀ (j : Nat) (hj : j < ls.length), j < i → ls[j].length ≤ 60 ∧ ∀ x ∈ ls[j], (szN x : Int) ≤ s
 new : ∀ t, ls[i]? = some t → ∀ x ∈ t.take kk, (szN x : Int) ≤ s
theorem rdL_nat (ls : List (List Node)) (i : Nat) (h : i < ls.length) : rd_L6 ls (i : Int) = ls[i] := by
 unfold rd_L6
 rw [List.getD_eq_getElem?_getD, Int.toNat_natCast, List.getElem?_eq_getElem h]
 rfl
theorem rdN_n (l : List Node) (j : Nat) (h : j < l.length) : rd_T42 l (j : Int) = l[j] := by rw [rdN_at l j (by omega) (by omega)]; simp
theorem w_add {s : Int} {a : Nat} (h0 : 0 ≤ s) (h : s + a ≤ 4000000000000000000) : wrap64 (s + (a : Int)) = s + (a : Int) := by unfold wrap64; omega
theorem w_add3 {s : Int} {a b c : Nat} (h0 : 0 ≤ s) (h : s + a + b + c ≤ 4000000000000000000) : wrap64 ((wrap64 ((wrap64 (s + (a : Int))) + (b : Int))) + (c : Int)) = s + ((a + b + c : Nat) : Int) := by
 have h1 := w_add (a := a) h0 (by omega)
 rw [h1]
 clear h1
 have h2 := w_add (s := s + a) (a := b) (by omega) (by omega)
 rw [h2]
 clear h2
 have h3 := w_add (s := s + a + b) (a := c) (by omega) (by omega)
 rw [h3]
 clear h3
 omega
theorem w_one (i : Nat) (h : i < 4000000000000000000) : wrap64 ((i : Int) + 1) = ((i + 1 : Nat) : Int) := by unfold wrap64; omega
theorem PreL.step {ls : List (List Node)} {i kk : Nat} {s : Int} (h : PreL ls i kk s) (hi : i < ls.length) (hk : kk < ls[i].length) (hb : i < 12) (hkb : kk < 61) (hz : NodeZ ls[i][kk]) :
  wrap64 ((wrap64 ((wrap64 (s + (ls[i][kk].f5.length : Int))) + (ls[i][kk].f0.size : Int))) + (ls[i][kk].f1.size : Int)) = s + (szN ls[i][kk] : Int) ∧ PreL ls i (kk + 1) (s + (szN ls[i][kk] : Int)) := by
 obtain ⟨z0, z1, z2, z3⟩ := hz
 have hsz : szN ls[i][kk] = ls[i][kk].f5.length + ls[i][kk].f0.size + ls[i][kk].f1.size := rfl
 have h1 := h.lo
 have h2 := h.hi
 refine ⟨?_, ⟨by omega, by omega, fun j hj hji => ⟨(h.old j hj hji).1, fun x hx => by have := (h.old j hj hji).2 x hx; omega⟩, fun t ht x hx => ?_⟩⟩
 ·rw [hsz]
  exact w_add3 h1 (by omega)
 ·rw [List.getElem?_eq_getElem hi] at ht
  cases ht
  rw [List.take_succ_eq_append_getElem hk] at hx
  rcases List.mem_append.1 hx with hx | hx
  ·have := h.new _ (List.getElem?_eq_getElem hi) x hx
   omega
  ·rw [List.mem_singleton] at hx
   rw [hx]
   omega
theorem PreL.next {ls : List (List Node)} {i kk : Nat} {s : Int} (h : PreL ls i kk s) (hi : i < ls.length) (hk : kk = ls[i].length) (h60 : ls[i].length ≤ 60) : PreL ls (i + 1) 0 s := by
 refine ⟨h.lo, by have := h.hi; omega, fun j hj hji => ?_, fun t ht x hx => by simp at hx⟩
 rcases Nat.lt_or_ge j i with h1 | h1
 ·exact h.old j hj h1
 ·obtain rfl : j = i := by omega
  refine ⟨h60, fun x hx => h.new _ (List.getElem?_eq_getElem hi) x ?_⟩
  rw [hk, List.take_length]
  exact hx
theorem PreL.done {ls : List (List Node)} {kk : Nat} {s : Int} (h : PreL ls ls.length kk s) (hs : s ≤ 200000) : OkL ls := fun t ht => by
 obtain ⟨j, hj, rfl⟩ := List.getElem_of_mem ht
 obtain ⟨h1, h2⟩ := h.old j hj hj
 exact ⟨h1, fun x hx => by have := h2 x hx; omega⟩
theorem PreL.start (ls : List (List Node)) : PreL ls 0 0 0 := ⟨by omega, by omega, fun j _ h => absurd h (Nat.not_lt_zero _), fun t _ x hx => by simp at hx⟩
set_option maxHeartbeats 1000000 in
theorem light21_in (ls : List (List Node)) (i : Nat) (hi : i < ls.length) (hb : i < 12) (hz : ∀ t ∈ ls, ∀ x ∈ t, NodeZ x) (H : ∀ s, PreL ls (i + 1) 0 s → ∃ b, Ev (fun k => bindlelaw21_light.l0 k ls s ((i + 1 : Nat) : Int)) b ∧ (b = true → OkL ls)) :
  ∀ (d kk : Nat) (s : Int), kk + d = min ls[i].length 61 → PreL ls i kk s → ∃ b, Ev (fun k => bindlelaw21_light.l1 k ls s (i : Int) (kk : Int)) b ∧ (b = true → OkL ls) := by
 intro d
 induction d with
 | zero =>
  intro kk s hk hP
  by_cases h60 : ls[i].length ≤ 60
  ·obtain ⟨b, h1, h2⟩ := H s (hP.next hi (by omega) h60)
   refine ⟨b, Ev.step (fun k => ?_) h1, h2⟩
   rw [bindlelaw21_light.l1, if_pos (by omega), if_pos (by omega), rdL_nat ls i hi, if_neg (by omega), if_neg (by omega), w_one i (by omega)]
  ·refine ⟨false, Ev.step (f := fun _ => some false) (fun k => ?_) (Ev.now _), fun h => by cases h⟩
   rw [bindlelaw21_light.l1, if_pos (by omega), if_pos (by omega), rdL_nat ls i hi]
   by_cases h61 : (kk : Int) < (ls[i].length : Int)
   ·rw [if_pos h61, if_neg (by omega), if_pos (by omega)]
   ·rw [if_neg h61, if_pos (by omega)]
 | succ d ih =>
  intro kk s hk hP
  have hkl : kk < ls[i].length := by omega
  obtain ⟨hs, hP2⟩ := hP.step hi hkl hb (by omega) (hz _ (List.getElem_mem hi) _ (List.getElem_mem hkl))
  have HS := Aside0.mk hs
  clear hs
  obtain ⟨b, h1, h2⟩ := ih (kk + 1) _ (by omega) hP2
  refine ⟨b, Ev.step (fun k => ?_) h1, h2⟩
  rw [bindlelaw21_light.l1, if_pos (by omega), if_pos (by omega), rdL_nat ls i hi, if_pos (by omega), if_pos (by omega), if_pos (by omega), rdN_n _ kk hkl, HS.out, w_one kk (by omega)]
theorem light21_out (ls : List (List Node)) (hn : ls.length ≤ 12) (hz : ∀ t ∈ ls, ∀ x ∈ t, NodeZ x) : ∀ (d i : Nat) (s : Int), i + d = ls.length → PreL ls i 0 s → ∃ b, Ev (fun k => bindlelaw21_light.l0 k ls s (i : Int)) b ∧ (b = true → OkL ls) := by
 intro d
 induction d with
 | zero =>
  intro i s hi hP
  obtain rfl : i = ls.length := by omega
  refine ⟨decide (s ≤ 200000), Ev.step (f := fun _ => some (decide (s ≤ 200000))) (fun k => by rw [bindlelaw21_light.l0, if_neg (by omega)]) (Ev.now _), fun h => hP.done (of_decide_eq_true h)⟩
 | succ d ih =>
  intro i s hi hP
  obtain ⟨b, h1, h2⟩ := light21_in ls i (by omega) (by omega) hz (fun s hs => ih (i + 1) s (by omega) hs) (min (ls[i]'(by omega)).length 61) 0 s (by omega) hP
  refine ⟨b, Ev.step (fun k => ?_) h1, h2⟩
  rw [bindlelaw21_light.l0, if_pos (by omega)]
  rfl
theorem light21_eq (ls : List (List Node)) (hn : ls.length ≤ 12) (hz : ∀ t ∈ ls, ∀ x ∈ t, NodeZ x) : ∃ b, Ev (fun k => bindlelaw21_light.f k ls) b ∧ (b = true → OkL ls) := light21_out ls hn hz ls.length 0 0 (by omega) (PreL.start ls)
end Go.Proofs.YtbngbefchobfnaaGreatDoor

namespace Go.Proofs.YtbngbefchobfnaaGreatDoor
open Go.RowKit Go.Maps Go.Proofs.YtbngbefchobfnaaGreatDoor.Print Go.Proofs.YtbngbefchobfnaaGreatDoorW.PrintWords Go.Proofs.YtbngbefchobfnaaGreatDoorW.PrintLast Go.Proofs.YtbngbefchobfnaaGreatDoorW.PrintMore
set_option linter.unusedVariables false
set_option linter.unusedSimpArgs false
def NodeAt (w : World) (ad : Addr) (x : Node) : Prop := ∃ A c, w.cell? ad = some (.string x.f0) ∧ w.cell? ⟨ad.block, ad.off + 1, none⟩ = some (.string x.f1) ∧ w.cell? ⟨ad.block, ad.off + 2, none⟩ = some (.string x.f2) ∧ w.cell? ⟨ad.block, ad.off + 3, none⟩ = some (.int .u8 x.f3) ∧ w.cell? ⟨ad.block, ad.off + 4, none⟩ = some (.int .i64 x.f4.f0) ∧ w.cell? ⟨ad.block, ad.off + 5, none⟩ = some (.int .i64 x.f4.f1) ∧ w.cell? ⟨ad.block, ad.off + 6, none⟩ = some (.int .i64 x.f4.f2) ∧ w.cell? ⟨ad.block, ad.off + 7, none⟩ = some (.int .i64 x.f4.f3) ∧ w.cell? ⟨ad.block, ad.off + 8, none⟩ = some (.slice A x.f5.length c) ∧ x.f5.length ≤ c ∧ Kd.C (Kd.int .u8) w A x.f5.length x.f5
def PtrTo (w : World) (v : Value) : Option Node → Prop
 | none => v = .pointer none
 | some x => ∃ ad, v = .pointer (some ad) ∧ NodeAt w ad x
theorem NodeAt.below {w w1 : World} {ad : Addr} {x : Node} (h : NodeAt w ad x) (hb : Below w.heap.size w w1) : NodeAt w1 ad x := by
 obtain ⟨A, c, h0, h1, h2, h3, h4, h5, h6, h7, h8, hl, hC⟩ := h
 exact ⟨A, c, fkeep hb h0, fkeep hb h1, fkeep hb h2, fkeep hb h3, fkeep hb h4, fkeep hb h5, fkeep hb h6, fkeep hb h7, fkeep hb h8, hl, Kd.C_below hC hb⟩
theorem PtrTo.below {w w1 : World} {v : Value} {x : Option Node} (h : PtrTo w v x) (hb : Below w.heap.size w w1) : PtrTo w1 v x := by
 cases x with
 | none => exact h
 | some x =>
  obtain ⟨ad, e, hN⟩ := h
  exact ⟨ad, e, hN.below hb⟩
theorem three_cells {w : World} {b : Nat} {t : TypeId} {a0 a1 a2 : Value} (h : w.heap[b]? = some (.cells #[a0, a1, a2] t (0, 0))) : w.cell? ⟨b, 0, none⟩ = some a0 ∧ w.cell? ⟨b, 1, none⟩ = some a1 ∧ w.cell? ⟨b, 2, none⟩ = some a2 := by
 refine ⟨?_, ?_, ?_⟩ <;> · unfold World.cell?; dsimp only; rw [h]; rfl
set_option maxRecDepth 100000 in
set_option maxHeartbeats 4000000 in
theorem Alike12_calls (v0 v1 v2 : Value) (x1 x2 : Option Node) (W : World) (ha : PtrTo W v1 x1) (hb : PtrTo W v2 x2) :
  Calls Tryz.prog 54 #[.agg #[v0, v1, v2], .int .i64 1, .int .i64 2] W fun e W' => e = .returned (.bool (alikeO x1 x2)) ∧ Below W.heap.size W W' := by
 generalize hpost : (fun (e : Ending) (W' : World) => e = .returned (.bool (alikeO x1 x2)) ∧ Below W.heap.size W W') = Q
 have hQ := Aside0.mk hpost
 clear hpost
 cases x1 with
 | none =>
  obtain rfl : v1 = .pointer none := ha
  cases x2 with
  | none =>
   obtain rfl : v2 = .pointer none := hb
   go_enter Tryz.func54, Tryz.ntmps54
   go_wp2
   go_quiet (fail)
   go_wp2
   rw [← hQ.out]
   exact ⟨rfl, pw_below_drewN (below_alloc (Below.refl _ _) _) nq⟩
  | some y =>
   obtain ⟨adb, rfl, hN⟩ := hb
   clear hN
   have hnp := fun w : World => (show (binOp .eql 77 (.pointer none) (.pointer (some adb))).run Tryz.prog w = .ok (.bool false) w from by rfl)
   go_enter Tryz.func54, Tryz.ntmps54
   go_wp2
   go_quiet (fail)
   go_wp2
   rw [← hQ.out]
   exact ⟨rfl, pw_below_drewN (below_alloc (Below.refl _ _) _) nq⟩
 | some x =>
  obtain ⟨ada, rfl, hNa⟩ := ha
  have HNA := Aside0.mk hNa
  clear hNa
  cases x2 with
  | none =>
   obtain rfl : v2 = .pointer none := hb
   clear HNA
   go_enter Tryz.func54, Tryz.ntmps54
   go_wp2
   go_quiet (fail)
   go_wp2
   rw [← hQ.out]
   exact ⟨rfl, pw_below_drewN (below_alloc (Below.refl _ _) _) nq⟩
  | some y =>
   obtain ⟨adb, rfl, hNb⟩ := hb
   obtain ⟨A, c, p0, p1, p2, p3, p4, p5, p6, p7, p8, hla, hCa⟩ := HNA.out.below (below_alloc (Below.refl _ _) (.cells #[v0, .pointer (some ada), .pointer (some adb)] 79))
   obtain ⟨B, d, q0, q1, q2, q3, q4, q5, q6, q7, q8, hlb, hCb⟩ := hNb.below (below_alloc (Below.refl _ _) (.cells #[v0, .pointer (some ada), .pointer (some adb)] 79))
   obtain ⟨k0, k1, k2⟩ := three_cells (blk_new W (.cells #[v0, .pointer (some ada), .pointer (some adb)] 79))
   have HLA := Aside0.mk hla
   have HLB := Aside0.mk hlb
   have HCA := Aside0.mk hCa
   have HCB := Aside0.mk hCb
   clear hla hlb hCa hCb hNb HNA
   go_enter Tryz.func54, Tryz.ntmps54
   go_upto_region 3 with (fail)
   refine start_ (n := 12) (S := fun w' => w'.cell? ⟨W.heap.size, 0, none⟩ = some (v0) ∧ w'.cell? ⟨W.heap.size, 1, none⟩ = some (.pointer (some ada)) ∧ w'.cell? ⟨W.heap.size, 2, none⟩ = some (.pointer (some adb)) ∧ w'.cell? ada = some (.string x.f0) ∧ w'.cell? ⟨ada.block, ada.off + 1, none⟩ = some (.string x.f1) ∧ w'.cell? ⟨ada.block, ada.off + 2, none⟩ = some (.string x.f2) ∧ w'.cell? ⟨ada.block, ada.off + 3, none⟩ = some (.int .u8 x.f3) ∧ w'.cell? ⟨ada.block, ada.off + 4, none⟩ = some (.int .i64 x.f4.f0) ∧ w'.cell? ⟨ada.block, ada.off + 5, none⟩ = some (.int .i64 x.f4.f1) ∧ w'.cell? ⟨ada.block, ada.off + 6, none⟩ = some (.int .i64 x.f4.f2) ∧ w'.cell? ⟨ada.block, ada.off + 7, none⟩ = some (.int .i64 x.f4.f3) ∧ w'.cell? ⟨ada.block, ada.off + 8, none⟩ = some (.slice A x.f5.length c) ∧ w'.cell? adb = some (.string y.f0) ∧ w'.cell? ⟨adb.block, adb.off + 1, none⟩ = some (.string y.f1) ∧ w'.cell? ⟨adb.block, adb.off + 2, none⟩ = some (.string y.f2) ∧ w'.cell? ⟨adb.block, adb.off + 3, none⟩ = some (.int .u8 y.f3) ∧ w'.cell? ⟨adb.block, adb.off + 4, none⟩ = some (.int .i64 y.f4.f0) ∧ w'.cell? ⟨adb.block, adb.off + 5, none⟩ = some (.int .i64 y.f4.f1) ∧ w'.cell? ⟨adb.block, adb.off + 6, none⟩ = some (.int .i64 y.f4.f2) ∧ w'.cell? ⟨adb.block, adb.off + 7, none⟩ = some (.int .i64 y.f4.f3) ∧ w'.cell? ⟨adb.block, adb.off + 8, none⟩ = some (.slice B y.f5.length d)) (ds := []) #[false, false, false, false, false, false, false, false, false, false, false, false] (by kernel_rfl) rfl rfl ⟨k0, k1, k2, p0, p1, p2, p3, p4, p5, p6, p7, p8, q0, q1, q2, q3, q4, q5, q6, q7, q8⟩ (fun hHeld => ?_)
   refine pure_ (i := 0) (N := some 24) (v := ?_) (a' := ?_) #[true, false, false, false, false, false, false, false, false, false, false, false] rfl rfl (by kernel_rfl) (fun _ _ _ h => h) (Or.inl ⟨by rfl, ?_⟩) ?_ ?_
   rotate_left
   ·intro w'
    go_simp
    with_reducible rfl
   rotate_left
   ·simp only [Act.put, List.setIfInBounds_toArray, List.set_cons_zero, List.set_cons_succ, i64_w, i32_w]
    rfl
   refine pure_ (i := 1) (N := some 25) (v := ?_) (a' := ?_) #[true, true, false, false, false, false, false, false, false, false, false, false] rfl rfl (by kernel_rfl) (fun _ _ _ h => h) (Or.inl ⟨by rfl, ?_⟩) ?_ ?_
   rotate_left
   ·intro w'
    go_simp
    with_reducible rfl
   rotate_left
   ·simp only [Act.put, List.setIfInBounds_toArray, List.set_cons_zero, List.set_cons_succ, i64_w, i32_w]
    rfl
   refine take_ (i := 2) (N := some 26) (v := ?_) (a' := ?_) #[true, true, true, false, false, false, false, false, false, false, false, false] rfl rfl (by kernel_rfl) (fun _ _ _ h => h) (Or.inl ⟨by rfl, ?_⟩) hHeld ?_ ?_
   rotate_left
   ·rintro w' ⟨s0, s1, s2, s3, s4, s5, s6, s7, s8, s9, s10, s11, s12, s13, s14, s15, s16, s17, s18, s19, s20⟩
    go_simp
    with_reducible rfl
   rotate_left
   ·simp only [Act.put, List.setIfInBounds_toArray, List.set_cons_zero, List.set_cons_succ, i64_w, i32_w]
    rfl
   refine pure_ (i := 3) (N := some 27) (v := ?_) (a' := ?_) #[true, true, true, true, false, false, false, false, false, false, false, false] rfl rfl (by kernel_rfl) (fun _ _ _ h => h) (Or.inl ⟨by rfl, ?_⟩) ?_ ?_
   rotate_left
   ·intro w'
    go_simp
    with_reducible rfl
   rotate_left
   ·simp only [Act.put, List.setIfInBounds_toArray, List.set_cons_zero, List.set_cons_succ, i64_w, i32_w]
    rfl
   refine take_ (i := 4) (N := some 28) (v := ?_) (a' := ?_) #[true, true, true, true, true, false, false, false, false, false, false, false] rfl rfl (by kernel_rfl) (fun _ _ _ h => h) (Or.inl ⟨by rfl, ?_⟩) hHeld ?_ ?_
   rotate_left
   ·rintro w' ⟨s0, s1, s2, s3, s4, s5, s6, s7, s8, s9, s10, s11, s12, s13, s14, s15, s16, s17, s18, s19, s20⟩
    go_simp
    with_reducible rfl
   rotate_left
   ·simp only [Act.put, List.setIfInBounds_toArray, List.set_cons_zero, List.set_cons_succ, i64_w, i32_w]
    rfl
   refine pure_ (i := 5) (N := some 29) (v := ?_) (a' := ?_) #[true, true, true, true, true, true, false, false, false, false, false, false] rfl rfl (by kernel_rfl) (fun _ _ _ h => h) (Or.inl ⟨by rfl, ?_⟩) ?_ ?_
   rotate_left
   ·intro w'
    go_simp
    with_reducible rfl
   rotate_left
   ·simp only [Act.put, List.setIfInBounds_toArray, List.set_cons_zero, List.set_cons_succ, i64_w, i32_w]
    rfl
   refine pure_ (i := 6) (N := some 30) (v := ?_) (a' := ?_) #[true, true, true, true, true, true, true, false, false, false, false, false] rfl rfl (by kernel_rfl) (fun _ _ _ h => h) (Or.inl ⟨by rfl, ?_⟩) ?_ ?_
   rotate_left
   ·intro w'
    go_simp
    with_reducible rfl
   rotate_left
   ·simp only [Act.put, List.setIfInBounds_toArray, List.set_cons_zero, List.set_cons_succ, i64_w, i32_w]
    rfl
   refine take_ (i := 7) (N := some 31) (v := ?_) (a' := ?_) #[true, true, true, true, true, true, true, true, false, false, false, false] rfl rfl (by kernel_rfl) (fun _ _ _ h => h) (Or.inl ⟨by rfl, ?_⟩) hHeld ?_ ?_
   rotate_left
   ·rintro w' ⟨s0, s1, s2, s3, s4, s5, s6, s7, s8, s9, s10, s11, s12, s13, s14, s15, s16, s17, s18, s19, s20⟩
    go_simp
    with_reducible rfl
   rotate_left
   ·simp only [Act.put, List.setIfInBounds_toArray, List.set_cons_zero, List.set_cons_succ, i64_w, i32_w]
    rfl
   refine pure_ (i := 8) (N := some 32) (v := ?_) (a' := ?_) #[true, true, true, true, true, true, true, true, true, false, false, false] rfl rfl (by kernel_rfl) (fun _ _ _ h => h) (Or.inl ⟨by rfl, ?_⟩) ?_ ?_
   rotate_left
   ·intro w'
    go_simp
    with_reducible rfl
   rotate_left
   ·simp only [Act.put, List.setIfInBounds_toArray, List.set_cons_zero, List.set_cons_succ, i64_w, i32_w]
    rfl
   refine take_ (i := 9) (N := some 33) (v := ?_) (a' := ?_) #[true, true, true, true, true, true, true, true, true, true, false, false] rfl rfl (by kernel_rfl) (fun _ _ _ h => h) (Or.inl ⟨by rfl, ?_⟩) hHeld ?_ ?_
   rotate_left
   ·rintro w' ⟨s0, s1, s2, s3, s4, s5, s6, s7, s8, s9, s10, s11, s12, s13, s14, s15, s16, s17, s18, s19, s20⟩
    go_simp
    with_reducible rfl
   rotate_left
   ·simp only [Act.put, List.setIfInBounds_toArray, List.set_cons_zero, List.set_cons_succ, i64_w, i32_w]
    rfl
   refine one_ (i := 10) (N := some 34) #[true, true, true, true, true, true, true, true, true, true, true, false] rfl rfl (by kernel_rfl) (by decide) (fun K hK => ?_)
   refine goes_ Tryz.func68 (by kernel_rfl) rfl #[.agg #[.string x.f0, .string x.f1, .string x.f2, .int .u8 x.f3, .int .i64 x.f4.f0, .int .i64 x.f4.f1, .int .i64 x.f4.f2, .int .i64 x.f4.f3, .slice A x.f5.length c], .agg #[.string y.f0, .string y.f1, .string y.f2, .int .u8 y.f3, .int .i64 y.f4.f0, .int .i64 y.f4.f1, .int .i64 y.f4.f2, .int .i64 y.f4.f3, .slice B y.f5.length d]] (by rfl) rfl rfl (by first | rfl | (simp [Act.eval]; done)) ?_
   refine (tree_Equal.calls x.f0 x.f1 x.f2 x.f3 x.f4.f0 x.f4.f1 x.f4.f2 x.f4.f3 A c x.f5 y.f0 y.f1 y.f2 y.f3 y.f4.f0 y.f4.f1 y.f4.f2 y.f4.f3 B d y.f5 (equalB x y) _ (Kd.C_drew HCA.out) HLA.out (Kd.C_drew HCB.out) HLB.out (tequal_f x y)).mono ?_
   rintro e w5 ⟨rfl, hb5⟩
   refine ⟨_, rfl, ?_⟩
   refine hK.out _ _ ⟨fkeep hb5 hHeld.1, fkeep hb5 hHeld.2.1, fkeep hb5 hHeld.2.2.1, fkeep hb5 hHeld.2.2.2.1, fkeep hb5 hHeld.2.2.2.2.1, fkeep hb5 hHeld.2.2.2.2.2.1, fkeep hb5 hHeld.2.2.2.2.2.2.1, fkeep hb5 hHeld.2.2.2.2.2.2.2.1, fkeep hb5 hHeld.2.2.2.2.2.2.2.2.1, fkeep hb5 hHeld.2.2.2.2.2.2.2.2.2.1, fkeep hb5 hHeld.2.2.2.2.2.2.2.2.2.2.1, fkeep hb5 hHeld.2.2.2.2.2.2.2.2.2.2.2.1, fkeep hb5 hHeld.2.2.2.2.2.2.2.2.2.2.2.2.1, fkeep hb5 hHeld.2.2.2.2.2.2.2.2.2.2.2.2.2.1, fkeep hb5 hHeld.2.2.2.2.2.2.2.2.2.2.2.2.2.2.1, fkeep hb5 hHeld.2.2.2.2.2.2.2.2.2.2.2.2.2.2.2.1, fkeep hb5 hHeld.2.2.2.2.2.2.2.2.2.2.2.2.2.2.2.2.1, fkeep hb5 hHeld.2.2.2.2.2.2.2.2.2.2.2.2.2.2.2.2.2.1, fkeep hb5 hHeld.2.2.2.2.2.2.2.2.2.2.2.2.2.2.2.2.2.2.1, fkeep hb5 hHeld.2.2.2.2.2.2.2.2.2.2.2.2.2.2.2.2.2.2.2.1, fkeep hb5 hHeld.2.2.2.2.2.2.2.2.2.2.2.2.2.2.2.2.2.2.2.2⟩ (fun hHeld2 => ?_)
   clear hK K
   have HB5 := Aside0.mk hb5
   refine norm_ (a' := ?_) ?_ ?_
   rotate_left
   ·show Act.put _ (some 34) _ = _
    simp only [Act.put, List.setIfInBounds_toArray, List.set_cons_zero, List.set_cons_succ, i64_w, i32_w]
    rfl
   refine pure_ (i := 11) (N := some 6) (v := ?_) (a' := ?_) #[true, true, true, true, true, true, true, true, true, true, true, true] rfl rfl (by kernel_rfl) (fun _ _ _ h => h) (Or.inl ⟨by rfl, ?_⟩) ?_ ?_
   rotate_left
   ·intro w'
    go_simp
    with_reducible rfl
   rotate_left
   ·simp only [Act.put, List.setIfInBounds_toArray, List.set_cons_zero, List.set_cons_succ, i64_w, i32_w]
    rfl
   refine done_ (by kernel_rfl) ?_
   go_wp2
   rw [← hQ.out]
   exact ⟨rfl, (below_drew (below_alloc (Below.refl _ _) _)).trans (HB5.out.mono (by rw [World.size_drew, World.size_alloc]; omega))⟩
set_option maxRecDepth 100000 in
set_option maxHeartbeats 4000000 in
theorem Alike10_calls (v0 v1 v2 : Value) (x1 x0 : Option Node) (W : World) (ha : PtrTo W v1 x1) (hb : PtrTo W v0 x0) :
  Calls Tryz.prog 54 #[.agg #[v0, v1, v2], .int .i64 1, .int .i64 0] W fun e W' => e = .returned (.bool (alikeO x1 x0)) ∧ Below W.heap.size W W' := by
 generalize hpost : (fun (e : Ending) (W' : World) => e = .returned (.bool (alikeO x1 x0)) ∧ Below W.heap.size W W') = Q
 have hQ := Aside0.mk hpost
 clear hpost
 cases x1 with
 | none =>
  obtain rfl : v1 = .pointer none := ha
  cases x0 with
  | none =>
   obtain rfl : v0 = .pointer none := hb
   go_enter Tryz.func54, Tryz.ntmps54
   go_wp2
   go_quiet (fail)
   go_wp2
   rw [← hQ.out]
   exact ⟨rfl, pw_below_drewN (below_alloc (Below.refl _ _) _) nq⟩
  | some y =>
   obtain ⟨adb, rfl, hN⟩ := hb
   clear hN
   have hnp := fun w : World => (show (binOp .eql 77 (.pointer none) (.pointer (some adb))).run Tryz.prog w = .ok (.bool false) w from by rfl)
   go_enter Tryz.func54, Tryz.ntmps54
   go_wp2
   go_quiet (fail)
   go_wp2
   rw [← hQ.out]
   exact ⟨rfl, pw_below_drewN (below_alloc (Below.refl _ _) _) nq⟩
 | some x =>
  obtain ⟨ada, rfl, hNa⟩ := ha
  have HNA := Aside0.mk hNa
  clear hNa
  cases x0 with
  | none =>
   obtain rfl : v0 = .pointer none := hb
   clear HNA
   go_enter Tryz.func54, Tryz.ntmps54
   go_wp2
   go_quiet (fail)
   go_wp2
   rw [← hQ.out]
   exact ⟨rfl, pw_below_drewN (below_alloc (Below.refl _ _) _) nq⟩
  | some y =>
   obtain ⟨adb, rfl, hNb⟩ := hb
   obtain ⟨A, c, p0, p1, p2, p3, p4, p5, p6, p7, p8, hla, hCa⟩ := HNA.out.below (below_alloc (Below.refl _ _) (.cells #[.pointer (some adb), .pointer (some ada), v2] 79))
   obtain ⟨B, d, q0, q1, q2, q3, q4, q5, q6, q7, q8, hlb, hCb⟩ := hNb.below (below_alloc (Below.refl _ _) (.cells #[.pointer (some adb), .pointer (some ada), v2] 79))
   obtain ⟨k0, k1, k2⟩ := three_cells (blk_new W (.cells #[.pointer (some adb), .pointer (some ada), v2] 79))
   have HLA := Aside0.mk hla
   have HLB := Aside0.mk hlb
   have HCA := Aside0.mk hCa
   have HCB := Aside0.mk hCb
   clear hla hlb hCa hCb hNb HNA
   go_enter Tryz.func54, Tryz.ntmps54
   go_upto_region 3 with (fail)
   refine start_ (n := 12) (S := fun w' => w'.cell? ⟨W.heap.size, 0, none⟩ = some (.pointer (some adb)) ∧ w'.cell? ⟨W.heap.size, 1, none⟩ = some (.pointer (some ada)) ∧ w'.cell? ⟨W.heap.size, 2, none⟩ = some (v2) ∧ w'.cell? ada = some (.string x.f0) ∧ w'.cell? ⟨ada.block, ada.off + 1, none⟩ = some (.string x.f1) ∧ w'.cell? ⟨ada.block, ada.off + 2, none⟩ = some (.string x.f2) ∧ w'.cell? ⟨ada.block, ada.off + 3, none⟩ = some (.int .u8 x.f3) ∧ w'.cell? ⟨ada.block, ada.off + 4, none⟩ = some (.int .i64 x.f4.f0) ∧ w'.cell? ⟨ada.block, ada.off + 5, none⟩ = some (.int .i64 x.f4.f1) ∧ w'.cell? ⟨ada.block, ada.off + 6, none⟩ = some (.int .i64 x.f4.f2) ∧ w'.cell? ⟨ada.block, ada.off + 7, none⟩ = some (.int .i64 x.f4.f3) ∧ w'.cell? ⟨ada.block, ada.off + 8, none⟩ = some (.slice A x.f5.length c) ∧ w'.cell? adb = some (.string y.f0) ∧ w'.cell? ⟨adb.block, adb.off + 1, none⟩ = some (.string y.f1) ∧ w'.cell? ⟨adb.block, adb.off + 2, none⟩ = some (.string y.f2) ∧ w'.cell? ⟨adb.block, adb.off + 3, none⟩ = some (.int .u8 y.f3) ∧ w'.cell? ⟨adb.block, adb.off + 4, none⟩ = some (.int .i64 y.f4.f0) ∧ w'.cell? ⟨adb.block, adb.off + 5, none⟩ = some (.int .i64 y.f4.f1) ∧ w'.cell? ⟨adb.block, adb.off + 6, none⟩ = some (.int .i64 y.f4.f2) ∧ w'.cell? ⟨adb.block, adb.off + 7, none⟩ = some (.int .i64 y.f4.f3) ∧ w'.cell? ⟨adb.block, adb.off + 8, none⟩ = some (.slice B y.f5.length d)) (ds := []) #[false, false, false, false, false, false, false, false, false, false, false, false] (by kernel_rfl) rfl rfl ⟨k0, k1, k2, p0, p1, p2, p3, p4, p5, p6, p7, p8, q0, q1, q2, q3, q4, q5, q6, q7, q8⟩ (fun hHeld => ?_)
   refine pure_ (i := 0) (N := some 24) (v := ?_) (a' := ?_) #[true, false, false, false, false, false, false, false, false, false, false, false] rfl rfl (by kernel_rfl) (fun _ _ _ h => h) (Or.inl ⟨by rfl, ?_⟩) ?_ ?_
   rotate_left
   ·intro w'
    go_simp
    with_reducible rfl
   rotate_left
   ·simp only [Act.put, List.setIfInBounds_toArray, List.set_cons_zero, List.set_cons_succ, i64_w, i32_w]
    rfl
   refine pure_ (i := 1) (N := some 25) (v := ?_) (a' := ?_) #[true, true, false, false, false, false, false, false, false, false, false, false] rfl rfl (by kernel_rfl) (fun _ _ _ h => h) (Or.inl ⟨by rfl, ?_⟩) ?_ ?_
   rotate_left
   ·intro w'
    go_simp
    with_reducible rfl
   rotate_left
   ·simp only [Act.put, List.setIfInBounds_toArray, List.set_cons_zero, List.set_cons_succ, i64_w, i32_w]
    rfl
   refine take_ (i := 2) (N := some 26) (v := ?_) (a' := ?_) #[true, true, true, false, false, false, false, false, false, false, false, false] rfl rfl (by kernel_rfl) (fun _ _ _ h => h) (Or.inl ⟨by rfl, ?_⟩) hHeld ?_ ?_
   rotate_left
   ·rintro w' ⟨s0, s1, s2, s3, s4, s5, s6, s7, s8, s9, s10, s11, s12, s13, s14, s15, s16, s17, s18, s19, s20⟩
    go_simp
    with_reducible rfl
   rotate_left
   ·simp only [Act.put, List.setIfInBounds_toArray, List.set_cons_zero, List.set_cons_succ, i64_w, i32_w]
    rfl
   refine pure_ (i := 3) (N := some 27) (v := ?_) (a' := ?_) #[true, true, true, true, false, false, false, false, false, false, false, false] rfl rfl (by kernel_rfl) (fun _ _ _ h => h) (Or.inl ⟨by rfl, ?_⟩) ?_ ?_
   rotate_left
   ·intro w'
    go_simp
    with_reducible rfl
   rotate_left
   ·simp only [Act.put, List.setIfInBounds_toArray, List.set_cons_zero, List.set_cons_succ, i64_w, i32_w]
    rfl
   refine take_ (i := 4) (N := some 28) (v := ?_) (a' := ?_) #[true, true, true, true, true, false, false, false, false, false, false, false] rfl rfl (by kernel_rfl) (fun _ _ _ h => h) (Or.inl ⟨by rfl, ?_⟩) hHeld ?_ ?_
   rotate_left
   ·rintro w' ⟨s0, s1, s2, s3, s4, s5, s6, s7, s8, s9, s10, s11, s12, s13, s14, s15, s16, s17, s18, s19, s20⟩
    go_simp
    with_reducible rfl
   rotate_left
   ·simp only [Act.put, List.setIfInBounds_toArray, List.set_cons_zero, List.set_cons_succ, i64_w, i32_w]
    rfl
   refine pure_ (i := 5) (N := some 29) (v := ?_) (a' := ?_) #[true, true, true, true, true, true, false, false, false, false, false, false] rfl rfl (by kernel_rfl) (fun _ _ _ h => h) (Or.inl ⟨by rfl, ?_⟩) ?_ ?_
   rotate_left
   ·intro w'
    go_simp
    with_reducible rfl
   rotate_left
   ·simp only [Act.put, List.setIfInBounds_toArray, List.set_cons_zero, List.set_cons_succ, i64_w, i32_w]
    rfl
   refine pure_ (i := 6) (N := some 30) (v := ?_) (a' := ?_) #[true, true, true, true, true, true, true, false, false, false, false, false] rfl rfl (by kernel_rfl) (fun _ _ _ h => h) (Or.inl ⟨by rfl, ?_⟩) ?_ ?_
   rotate_left
   ·intro w'
    go_simp
    with_reducible rfl
   rotate_left
   ·simp only [Act.put, List.setIfInBounds_toArray, List.set_cons_zero, List.set_cons_succ, i64_w, i32_w]
    rfl
   refine take_ (i := 7) (N := some 31) (v := ?_) (a' := ?_) #[true, true, true, true, true, true, true, true, false, false, false, false] rfl rfl (by kernel_rfl) (fun _ _ _ h => h) (Or.inl ⟨by rfl, ?_⟩) hHeld ?_ ?_
   rotate_left
   ·rintro w' ⟨s0, s1, s2, s3, s4, s5, s6, s7, s8, s9, s10, s11, s12, s13, s14, s15, s16, s17, s18, s19, s20⟩
    go_simp
    with_reducible rfl
   rotate_left
   ·simp only [Act.put, List.setIfInBounds_toArray, List.set_cons_zero, List.set_cons_succ, i64_w, i32_w]
    rfl
   refine pure_ (i := 8) (N := some 32) (v := ?_) (a' := ?_) #[true, true, true, true, true, true, true, true, true, false, false, false] rfl rfl (by kernel_rfl) (fun _ _ _ h => h) (Or.inl ⟨by rfl, ?_⟩) ?_ ?_
   rotate_left
   ·intro w'
    go_simp
    with_reducible rfl
   rotate_left
   ·simp only [Act.put, List.setIfInBounds_toArray, List.set_cons_zero, List.set_cons_succ, i64_w, i32_w]
    rfl
   refine take_ (i := 9) (N := some 33) (v := ?_) (a' := ?_) #[true, true, true, true, true, true, true, true, true, true, false, false] rfl rfl (by kernel_rfl) (fun _ _ _ h => h) (Or.inl ⟨by rfl, ?_⟩) hHeld ?_ ?_
   rotate_left
   ·rintro w' ⟨s0, s1, s2, s3, s4, s5, s6, s7, s8, s9, s10, s11, s12, s13, s14, s15, s16, s17, s18, s19, s20⟩
    go_simp
    with_reducible rfl
   rotate_left
   ·simp only [Act.put, List.setIfInBounds_toArray, List.set_cons_zero, List.set_cons_succ, i64_w, i32_w]
    rfl
   refine one_ (i := 10) (N := some 34) #[true, true, true, true, true, true, true, true, true, true, true, false] rfl rfl (by kernel_rfl) (by decide) (fun K hK => ?_)
   refine goes_ Tryz.func68 (by kernel_rfl) rfl #[.agg #[.string x.f0, .string x.f1, .string x.f2, .int .u8 x.f3, .int .i64 x.f4.f0, .int .i64 x.f4.f1, .int .i64 x.f4.f2, .int .i64 x.f4.f3, .slice A x.f5.length c], .agg #[.string y.f0, .string y.f1, .string y.f2, .int .u8 y.f3, .int .i64 y.f4.f0, .int .i64 y.f4.f1, .int .i64 y.f4.f2, .int .i64 y.f4.f3, .slice B y.f5.length d]] (by rfl) rfl rfl (by first | rfl | (simp [Act.eval]; done)) ?_
   refine (tree_Equal.calls x.f0 x.f1 x.f2 x.f3 x.f4.f0 x.f4.f1 x.f4.f2 x.f4.f3 A c x.f5 y.f0 y.f1 y.f2 y.f3 y.f4.f0 y.f4.f1 y.f4.f2 y.f4.f3 B d y.f5 (equalB x y) _ (Kd.C_drew HCA.out) HLA.out (Kd.C_drew HCB.out) HLB.out (tequal_f x y)).mono ?_
   rintro e w5 ⟨rfl, hb5⟩
   refine ⟨_, rfl, ?_⟩
   refine hK.out _ _ ⟨fkeep hb5 hHeld.1, fkeep hb5 hHeld.2.1, fkeep hb5 hHeld.2.2.1, fkeep hb5 hHeld.2.2.2.1, fkeep hb5 hHeld.2.2.2.2.1, fkeep hb5 hHeld.2.2.2.2.2.1, fkeep hb5 hHeld.2.2.2.2.2.2.1, fkeep hb5 hHeld.2.2.2.2.2.2.2.1, fkeep hb5 hHeld.2.2.2.2.2.2.2.2.1, fkeep hb5 hHeld.2.2.2.2.2.2.2.2.2.1, fkeep hb5 hHeld.2.2.2.2.2.2.2.2.2.2.1, fkeep hb5 hHeld.2.2.2.2.2.2.2.2.2.2.2.1, fkeep hb5 hHeld.2.2.2.2.2.2.2.2.2.2.2.2.1, fkeep hb5 hHeld.2.2.2.2.2.2.2.2.2.2.2.2.2.1, fkeep hb5 hHeld.2.2.2.2.2.2.2.2.2.2.2.2.2.2.1, fkeep hb5 hHeld.2.2.2.2.2.2.2.2.2.2.2.2.2.2.2.1, fkeep hb5 hHeld.2.2.2.2.2.2.2.2.2.2.2.2.2.2.2.2.1, fkeep hb5 hHeld.2.2.2.2.2.2.2.2.2.2.2.2.2.2.2.2.2.1, fkeep hb5 hHeld.2.2.2.2.2.2.2.2.2.2.2.2.2.2.2.2.2.2.1, fkeep hb5 hHeld.2.2.2.2.2.2.2.2.2.2.2.2.2.2.2.2.2.2.2.1, fkeep hb5 hHeld.2.2.2.2.2.2.2.2.2.2.2.2.2.2.2.2.2.2.2.2⟩ (fun hHeld2 => ?_)
   clear hK K
   have HB5 := Aside0.mk hb5
   refine norm_ (a' := ?_) ?_ ?_
   rotate_left
   ·show Act.put _ (some 34) _ = _
    simp only [Act.put, List.setIfInBounds_toArray, List.set_cons_zero, List.set_cons_succ, i64_w, i32_w]
    rfl
   refine pure_ (i := 11) (N := some 6) (v := ?_) (a' := ?_) #[true, true, true, true, true, true, true, true, true, true, true, true] rfl rfl (by kernel_rfl) (fun _ _ _ h => h) (Or.inl ⟨by rfl, ?_⟩) ?_ ?_
   rotate_left
   ·intro w'
    go_simp
    with_reducible rfl
   rotate_left
   ·simp only [Act.put, List.setIfInBounds_toArray, List.set_cons_zero, List.set_cons_succ, i64_w, i32_w]
    rfl
   refine done_ (by kernel_rfl) ?_
   go_wp2
   rw [← hQ.out]
   exact ⟨rfl, (below_drew (below_alloc (Below.refl _ _) _)).trans (HB5.out.mono (by rw [World.size_drew, World.size_alloc]; omega))⟩
set_option maxRecDepth 100000 in
set_option maxHeartbeats 4000000 in
theorem Alike20_calls (v0 v1 v2 : Value) (x2 x0 : Option Node) (W : World) (ha : PtrTo W v2 x2) (hb : PtrTo W v0 x0) :
  Calls Tryz.prog 54 #[.agg #[v0, v1, v2], .int .i64 2, .int .i64 0] W fun e W' => e = .returned (.bool (alikeO x2 x0)) ∧ Below W.heap.size W W' := by
 generalize hpost : (fun (e : Ending) (W' : World) => e = .returned (.bool (alikeO x2 x0)) ∧ Below W.heap.size W W') = Q
 have hQ := Aside0.mk hpost
 clear hpost
 cases x2 with
 | none =>
  obtain rfl : v2 = .pointer none := ha
  cases x0 with
  | none =>
   obtain rfl : v0 = .pointer none := hb
   go_enter Tryz.func54, Tryz.ntmps54
   go_wp2
   go_quiet (fail)
   go_wp2
   rw [← hQ.out]
   exact ⟨rfl, pw_below_drewN (below_alloc (Below.refl _ _) _) nq⟩
  | some y =>
   obtain ⟨adb, rfl, hN⟩ := hb
   clear hN
   have hnp := fun w : World => (show (binOp .eql 77 (.pointer none) (.pointer (some adb))).run Tryz.prog w = .ok (.bool false) w from by rfl)
   go_enter Tryz.func54, Tryz.ntmps54
   go_wp2
   go_quiet (fail)
   go_wp2
   rw [← hQ.out]
   exact ⟨rfl, pw_below_drewN (below_alloc (Below.refl _ _) _) nq⟩
 | some x =>
  obtain ⟨ada, rfl, hNa⟩ := ha
  have HNA := Aside0.mk hNa
  clear hNa
  cases x0 with
  | none =>
   obtain rfl : v0 = .pointer none := hb
   clear HNA
   go_enter Tryz.func54, Tryz.ntmps54
   go_wp2
   go_quiet (fail)
   go_wp2
   rw [← hQ.out]
   exact ⟨rfl, pw_below_drewN (below_alloc (Below.refl _ _) _) nq⟩
  | some y =>
   obtain ⟨adb, rfl, hNb⟩ := hb
   obtain ⟨A, c, p0, p1, p2, p3, p4, p5, p6, p7, p8, hla, hCa⟩ := HNA.out.below (below_alloc (Below.refl _ _) (.cells #[.pointer (some adb), v1, .pointer (some ada)] 79))
   obtain ⟨B, d, q0, q1, q2, q3, q4, q5, q6, q7, q8, hlb, hCb⟩ := hNb.below (below_alloc (Below.refl _ _) (.cells #[.pointer (some adb), v1, .pointer (some ada)] 79))
   obtain ⟨k0, k1, k2⟩ := three_cells (blk_new W (.cells #[.pointer (some adb), v1, .pointer (some ada)] 79))
   have HLA := Aside0.mk hla
   have HLB := Aside0.mk hlb
   have HCA := Aside0.mk hCa
   have HCB := Aside0.mk hCb
   clear hla hlb hCa hCb hNb HNA
   go_enter Tryz.func54, Tryz.ntmps54
   go_upto_region 3 with (fail)
   refine start_ (n := 12) (S := fun w' => w'.cell? ⟨W.heap.size, 0, none⟩ = some (.pointer (some adb)) ∧ w'.cell? ⟨W.heap.size, 1, none⟩ = some (v1) ∧ w'.cell? ⟨W.heap.size, 2, none⟩ = some (.pointer (some ada)) ∧ w'.cell? ada = some (.string x.f0) ∧ w'.cell? ⟨ada.block, ada.off + 1, none⟩ = some (.string x.f1) ∧ w'.cell? ⟨ada.block, ada.off + 2, none⟩ = some (.string x.f2) ∧ w'.cell? ⟨ada.block, ada.off + 3, none⟩ = some (.int .u8 x.f3) ∧ w'.cell? ⟨ada.block, ada.off + 4, none⟩ = some (.int .i64 x.f4.f0) ∧ w'.cell? ⟨ada.block, ada.off + 5, none⟩ = some (.int .i64 x.f4.f1) ∧ w'.cell? ⟨ada.block, ada.off + 6, none⟩ = some (.int .i64 x.f4.f2) ∧ w'.cell? ⟨ada.block, ada.off + 7, none⟩ = some (.int .i64 x.f4.f3) ∧ w'.cell? ⟨ada.block, ada.off + 8, none⟩ = some (.slice A x.f5.length c) ∧ w'.cell? adb = some (.string y.f0) ∧ w'.cell? ⟨adb.block, adb.off + 1, none⟩ = some (.string y.f1) ∧ w'.cell? ⟨adb.block, adb.off + 2, none⟩ = some (.string y.f2) ∧ w'.cell? ⟨adb.block, adb.off + 3, none⟩ = some (.int .u8 y.f3) ∧ w'.cell? ⟨adb.block, adb.off + 4, none⟩ = some (.int .i64 y.f4.f0) ∧ w'.cell? ⟨adb.block, adb.off + 5, none⟩ = some (.int .i64 y.f4.f1) ∧ w'.cell? ⟨adb.block, adb.off + 6, none⟩ = some (.int .i64 y.f4.f2) ∧ w'.cell? ⟨adb.block, adb.off + 7, none⟩ = some (.int .i64 y.f4.f3) ∧ w'.cell? ⟨adb.block, adb.off + 8, none⟩ = some (.slice B y.f5.length d)) (ds := []) #[false, false, false, false, false, false, false, false, false, false, false, false] (by kernel_rfl) rfl rfl ⟨k0, k1, k2, p0, p1, p2, p3, p4, p5, p6, p7, p8, q0, q1, q2, q3, q4, q5, q6, q7, q8⟩ (fun hHeld => ?_)
   refine pure_ (i := 0) (N := some 24) (v := ?_) (a' := ?_) #[true, false, false, false, false, false, false, false, false, false, false, false] rfl rfl (by kernel_rfl) (fun _ _ _ h => h) (Or.inl ⟨by rfl, ?_⟩) ?_ ?_
   rotate_left
   ·intro w'
    go_simp
    with_reducible rfl
   rotate_left
   ·simp only [Act.put, List.setIfInBounds_toArray, List.set_cons_zero, List.set_cons_succ, i64_w, i32_w]
    rfl
   refine pure_ (i := 1) (N := some 25) (v := ?_) (a' := ?_) #[true, true, false, false, false, false, false, false, false, false, false, false] rfl rfl (by kernel_rfl) (fun _ _ _ h => h) (Or.inl ⟨by rfl, ?_⟩) ?_ ?_
   rotate_left
   ·intro w'
    go_simp
    with_reducible rfl
   rotate_left
   ·simp only [Act.put, List.setIfInBounds_toArray, List.set_cons_zero, List.set_cons_succ, i64_w, i32_w]
    rfl
   refine take_ (i := 2) (N := some 26) (v := ?_) (a' := ?_) #[true, true, true, false, false, false, false, false, false, false, false, false] rfl rfl (by kernel_rfl) (fun _ _ _ h => h) (Or.inl ⟨by rfl, ?_⟩) hHeld ?_ ?_
   rotate_left
   ·rintro w' ⟨s0, s1, s2, s3, s4, s5, s6, s7, s8, s9, s10, s11, s12, s13, s14, s15, s16, s17, s18, s19, s20⟩
    go_simp
    with_reducible rfl
   rotate_left
   ·simp only [Act.put, List.setIfInBounds_toArray, List.set_cons_zero, List.set_cons_succ, i64_w, i32_w]
    rfl
   refine pure_ (i := 3) (N := some 27) (v := ?_) (a' := ?_) #[true, true, true, true, false, false, false, false, false, false, false, false] rfl rfl (by kernel_rfl) (fun _ _ _ h => h) (Or.inl ⟨by rfl, ?_⟩) ?_ ?_
   rotate_left
   ·intro w'
    go_simp
    with_reducible rfl
   rotate_left
   ·simp only [Act.put, List.setIfInBounds_toArray, List.set_cons_zero, List.set_cons_succ, i64_w, i32_w]
    rfl
   refine take_ (i := 4) (N := some 28) (v := ?_) (a' := ?_) #[true, true, true, true, true, false, false, false, false, false, false, false] rfl rfl (by kernel_rfl) (fun _ _ _ h => h) (Or.inl ⟨by rfl, ?_⟩) hHeld ?_ ?_
   rotate_left
   ·rintro w' ⟨s0, s1, s2, s3, s4, s5, s6, s7, s8, s9, s10, s11, s12, s13, s14, s15, s16, s17, s18, s19, s20⟩
    go_simp
    with_reducible rfl
   rotate_left
   ·simp only [Act.put, List.setIfInBounds_toArray, List.set_cons_zero, List.set_cons_succ, i64_w, i32_w]
    rfl
   refine pure_ (i := 5) (N := some 29) (v := ?_) (a' := ?_) #[true, true, true, true, true, true, false, false, false, false, false, false] rfl rfl (by kernel_rfl) (fun _ _ _ h => h) (Or.inl ⟨by rfl, ?_⟩) ?_ ?_
   rotate_left
   ·intro w'
    go_simp
    with_reducible rfl
   rotate_left
   ·simp only [Act.put, List.setIfInBounds_toArray, List.set_cons_zero, List.set_cons_succ, i64_w, i32_w]
    rfl
   refine pure_ (i := 6) (N := some 30) (v := ?_) (a' := ?_) #[true, true, true, true, true, true, true, false, false, false, false, false] rfl rfl (by kernel_rfl) (fun _ _ _ h => h) (Or.inl ⟨by rfl, ?_⟩) ?_ ?_
   rotate_left
   ·intro w'
    go_simp
    with_reducible rfl
   rotate_left
   ·simp only [Act.put, List.setIfInBounds_toArray, List.set_cons_zero, List.set_cons_succ, i64_w, i32_w]
    rfl
   refine take_ (i := 7) (N := some 31) (v := ?_) (a' := ?_) #[true, true, true, true, true, true, true, true, false, false, false, false] rfl rfl (by kernel_rfl) (fun _ _ _ h => h) (Or.inl ⟨by rfl, ?_⟩) hHeld ?_ ?_
   rotate_left
   ·rintro w' ⟨s0, s1, s2, s3, s4, s5, s6, s7, s8, s9, s10, s11, s12, s13, s14, s15, s16, s17, s18, s19, s20⟩
    go_simp
    with_reducible rfl
   rotate_left
   ·simp only [Act.put, List.setIfInBounds_toArray, List.set_cons_zero, List.set_cons_succ, i64_w, i32_w]
    rfl
   refine pure_ (i := 8) (N := some 32) (v := ?_) (a' := ?_) #[true, true, true, true, true, true, true, true, true, false, false, false] rfl rfl (by kernel_rfl) (fun _ _ _ h => h) (Or.inl ⟨by rfl, ?_⟩) ?_ ?_
   rotate_left
   ·intro w'
    go_simp
    with_reducible rfl
   rotate_left
   ·simp only [Act.put, List.setIfInBounds_toArray, List.set_cons_zero, List.set_cons_succ, i64_w, i32_w]
    rfl
   refine take_ (i := 9) (N := some 33) (v := ?_) (a' := ?_) #[true, true, true, true, true, true, true, true, true, true, false, false] rfl rfl (by kernel_rfl) (fun _ _ _ h => h) (Or.inl ⟨by rfl, ?_⟩) hHeld ?_ ?_
   rotate_left
   ·rintro w' ⟨s0, s1, s2, s3, s4, s5, s6, s7, s8, s9, s10, s11, s12, s13, s14, s15, s16, s17, s18, s19, s20⟩
    go_simp
    with_reducible rfl
   rotate_left
   ·simp only [Act.put, List.setIfInBounds_toArray, List.set_cons_zero, List.set_cons_succ, i64_w, i32_w]
    rfl
   refine one_ (i := 10) (N := some 34) #[true, true, true, true, true, true, true, true, true, true, true, false] rfl rfl (by kernel_rfl) (by decide) (fun K hK => ?_)
   refine goes_ Tryz.func68 (by kernel_rfl) rfl #[.agg #[.string x.f0, .string x.f1, .string x.f2, .int .u8 x.f3, .int .i64 x.f4.f0, .int .i64 x.f4.f1, .int .i64 x.f4.f2, .int .i64 x.f4.f3, .slice A x.f5.length c], .agg #[.string y.f0, .string y.f1, .string y.f2, .int .u8 y.f3, .int .i64 y.f4.f0, .int .i64 y.f4.f1, .int .i64 y.f4.f2, .int .i64 y.f4.f3, .slice B y.f5.length d]] (by rfl) rfl rfl (by first | rfl | (simp [Act.eval]; done)) ?_
   refine (tree_Equal.calls x.f0 x.f1 x.f2 x.f3 x.f4.f0 x.f4.f1 x.f4.f2 x.f4.f3 A c x.f5 y.f0 y.f1 y.f2 y.f3 y.f4.f0 y.f4.f1 y.f4.f2 y.f4.f3 B d y.f5 (equalB x y) _ (Kd.C_drew HCA.out) HLA.out (Kd.C_drew HCB.out) HLB.out (tequal_f x y)).mono ?_
   rintro e w5 ⟨rfl, hb5⟩
   refine ⟨_, rfl, ?_⟩
   refine hK.out _ _ ⟨fkeep hb5 hHeld.1, fkeep hb5 hHeld.2.1, fkeep hb5 hHeld.2.2.1, fkeep hb5 hHeld.2.2.2.1, fkeep hb5 hHeld.2.2.2.2.1, fkeep hb5 hHeld.2.2.2.2.2.1, fkeep hb5 hHeld.2.2.2.2.2.2.1, fkeep hb5 hHeld.2.2.2.2.2.2.2.1, fkeep hb5 hHeld.2.2.2.2.2.2.2.2.1, fkeep hb5 hHeld.2.2.2.2.2.2.2.2.2.1, fkeep hb5 hHeld.2.2.2.2.2.2.2.2.2.2.1, fkeep hb5 hHeld.2.2.2.2.2.2.2.2.2.2.2.1, fkeep hb5 hHeld.2.2.2.2.2.2.2.2.2.2.2.2.1, fkeep hb5 hHeld.2.2.2.2.2.2.2.2.2.2.2.2.2.1, fkeep hb5 hHeld.2.2.2.2.2.2.2.2.2.2.2.2.2.2.1, fkeep hb5 hHeld.2.2.2.2.2.2.2.2.2.2.2.2.2.2.2.1, fkeep hb5 hHeld.2.2.2.2.2.2.2.2.2.2.2.2.2.2.2.2.1, fkeep hb5 hHeld.2.2.2.2.2.2.2.2.2.2.2.2.2.2.2.2.2.1, fkeep hb5 hHeld.2.2.2.2.2.2.2.2.2.2.2.2.2.2.2.2.2.2.1, fkeep hb5 hHeld.2.2.2.2.2.2.2.2.2.2.2.2.2.2.2.2.2.2.2.1, fkeep hb5 hHeld.2.2.2.2.2.2.2.2.2.2.2.2.2.2.2.2.2.2.2.2⟩ (fun hHeld2 => ?_)
   clear hK K
   have HB5 := Aside0.mk hb5
   refine norm_ (a' := ?_) ?_ ?_
   rotate_left
   ·show Act.put _ (some 34) _ = _
    simp only [Act.put, List.setIfInBounds_toArray, List.set_cons_zero, List.set_cons_succ, i64_w, i32_w]
    rfl
   refine pure_ (i := 11) (N := some 6) (v := ?_) (a' := ?_) #[true, true, true, true, true, true, true, true, true, true, true, true] rfl rfl (by kernel_rfl) (fun _ _ _ h => h) (Or.inl ⟨by rfl, ?_⟩) ?_ ?_
   rotate_left
   ·intro w'
    go_simp
    with_reducible rfl
   rotate_left
   ·simp only [Act.put, List.setIfInBounds_toArray, List.set_cons_zero, List.set_cons_succ, i64_w, i32_w]
    rfl
   refine done_ (by kernel_rfl) ?_
   go_wp2
   rw [← hQ.out]
   exact ⟨rfl, (below_drew (below_alloc (Below.refl _ _) _)).trans (HB5.out.mono (by rw [World.size_drew, World.size_alloc]; omega))⟩
theorem enter_step {P : Program} {ops : Array Oper} {Q : Exit → Act → World → Prop} {rest : List Oper} {o : Oper} {a : Act} {w : World} {f : FuncId} {fn : Func} {ars : Array Operand} {ts : Array TypeId} (hf : P.funcs[f]? = some fn) (hname : (fn.name == "runtime.NumGoroutine") = false) (hb : fn.body.isSome = true) (args : Array Value)
  (hop : o.op = .call { callee := .value (.func f), args := ars, argTypes := ts }) (hargs : ars.map a.eval = args) (hw : Region.wanted o (yielded ops a.tmps) = true)
  (h : Calls P f args w fun e w' => ∃ v, e = .returned v ∧ wpList P ops Q rest (a.put o.dst v) w') : wpList P ops Q (o :: rest) a w :=
 wpList_step fun K hK => goes_ (N := o.dst) hf hname hb args hw rfl hop hargs (h.mono fun e w' ⟨v, e1, hk⟩ => ⟨v, e1, hK _ _ hk⟩)
theorem three_below {W w1 : World} {b : Nat} {v0 v1 v2 : Value} (hb : Below W.heap.size W w1) (h : W.heap[b]? = some (.cells #[v0, v1, v2] 79 (0, 0))) : w1.heap[b]? = some (.cells #[v0, v1, v2] 79 (0, 0)) := (hb.block _ (blk_lt' h)).trans h
section
variable (v0 v1 v2 : Value) (x0 x1 x2 : Option Node) (W : World) (h0 : PtrTo W v0 x0) (h1 : PtrTo W v1 x1) (h2 : PtrTo W v2 x2)
include h0 h1 h2
set_option maxRecDepth 100000 in
set_option maxHeartbeats 4000000 in
theorem Conflict_calls :
  Calls Tryz.prog 38 #[.agg #[v0, v1, v2]] W fun e W' => e = .returned (.bool (conflictO x0 x1 x2)) ∧ Below W.heap.size W W' := by
 have HP := Aside0.mk (fun (w : World) (hb : Below W.heap.size W w) => (⟨h0.below hb, h1.below hb, h2.below hb⟩ : PtrTo w v0 x0 ∧ PtrTo w v1 x1 ∧ PtrTo w v2 x2))
 have HW : Aside0 (Below W.heap.size W (W.alloc (.cells #[v0, v1, v2] 79))) := ⟨below_alloc (Below.refl _ _) _⟩
 have hbx := blk_new W (.cells #[v0, v1, v2] 79)
 have HX := Aside0.mk hbx
 obtain ⟨k0, k1, k2⟩ := three_cells hbx
 clear h0 h1 h2 hbx
 generalize hpost : (fun (e : Ending) (W' : World) => e = .returned (.bool (conflictO x0 x1 x2)) ∧ Below W.heap.size W W') = Q
 have hQ := Aside0.mk hpost
 clear hpost
 cases c12 : alikeO x1 x2 with
 | true =>
  have H12 := Aside0.mk c12
  clear c12
  go_enter Tryz.func38, Tryz.ntmps38
  go_wp2_with (first
   | (go_at_call 54; refine (Alike12_calls v0 v1 v2 x1 x2 _ (HP.out _ HW.out).2.1 (HP.out _ HW.out).2.2).mono ?_; rintro e w1 ⟨rfl, hb1⟩; rw [H12.out]; have HB1 := Aside0.mk (HW.out.trans (hb1.mono HW.out.size)); clear hb1 k0 k1 k2)
   | fail)
  rw [← hQ.out]
  refine ⟨?_, HB1.out⟩
  unfold conflictO
  rw [H12.out]
  rfl
 | false =>
  have H12 := Aside0.mk c12
  clear c12
  cases c10 : alikeO x1 x0 with
  | true =>
   have H10 := Aside0.mk c10
   clear c10
   go_enter Tryz.func38, Tryz.ntmps38
   go_wp2_with (first
    | (go_at_call 54; refine (Alike12_calls v0 v1 v2 x1 x2 _ (HP.out _ HW.out).2.1 (HP.out _ HW.out).2.2).mono ?_; rintro e w1 ⟨rfl, hb1⟩; rw [H12.out]; have HB1 := Aside0.mk (HW.out.trans (hb1.mono HW.out.size)); clear k0 k1 k2; obtain ⟨k0, k1, k2⟩ := three_cells (three_below hb1 HX.out); clear hb1)
    | ((with_reducible refine gate_dst (N := 8) rfl ?_); refine enter_step Tryz.func54 (by kernel_rfl) rfl #[.agg #[v0, v1, v2], .int .i64 1, .int .i64 0] rfl ?ha ?hw ?_; (case hw => go_simp); (case ha => (try simp only [List.map_toArray, List.map_cons, List.map_nil]); first | done | rfl); refine (Alike10_calls v0 v1 v2 x1 x0 _ (HP.out _ HB1.out).2.1 (HP.out _ HB1.out).1).mono ?_; rintro e w2 ⟨rfl, hb2⟩; refine ⟨_, rfl, ?_⟩; rw [H10.out]; have HB2 := Aside0.mk (HB1.out.trans (hb2.mono HB1.out.size)); clear k0 k1 k2; clear hb2)
    | fail)
   rw [← hQ.out]
   refine ⟨?_, HB2.out⟩
   unfold conflictO
   rw [H12.out, H10.out]
   rfl
  | false =>
   have H10 := Aside0.mk c10
   clear c10
   go_enter Tryz.func38, Tryz.ntmps38
   go_wp2_with (first
    | (go_at_call 54; refine (Alike12_calls v0 v1 v2 x1 x2 _ (HP.out _ HW.out).2.1 (HP.out _ HW.out).2.2).mono ?_; rintro e w1 ⟨rfl, hb1⟩; rw [H12.out]; have HB1 := Aside0.mk (HW.out.trans (hb1.mono HW.out.size)); have HX1 := Aside0.mk (three_below hb1 HX.out); clear k0 k1 k2; obtain ⟨k0, k1, k2⟩ := three_cells HX1.out; clear hb1)
    | ((with_reducible refine gate_dst (N := 8) rfl ?_); refine enter_step Tryz.func54 (by kernel_rfl) rfl #[.agg #[v0, v1, v2], .int .i64 1, .int .i64 0] rfl ?ha ?hw ?_; (case hw => go_simp); (case ha => (try simp only [List.map_toArray, List.map_cons, List.map_nil]); first | done | rfl); refine (Alike10_calls v0 v1 v2 x1 x0 _ (HP.out _ HB1.out).2.1 (HP.out _ HB1.out).1).mono ?_; rintro e w2 ⟨rfl, hb2⟩; refine ⟨_, rfl, ?_⟩; rw [H10.out]; have HB2 := Aside0.mk (HB1.out.trans (hb2.mono HB1.out.size)); clear k0 k1 k2; obtain ⟨k0, k1, k2⟩ := three_cells (three_below hb2 HX1.out); clear hb2)
    | ((with_reducible refine gate_dst (N := 13) rfl ?_); refine enter_step Tryz.func54 (by kernel_rfl) rfl #[.agg #[v0, v1, v2], .int .i64 2, .int .i64 0] rfl ?ha ?hw ?_; (case hw => go_simp); (case ha => (try simp only [List.map_toArray, List.map_cons, List.map_nil]); first | done | rfl); refine (Alike20_calls v0 v1 v2 x2 x0 _ (HP.out _ HB2.out).2.2 (HP.out _ HB2.out).1).mono ?_; rintro e w3 ⟨rfl, hb3⟩; refine ⟨_, rfl, ?_⟩; have HB3 := Aside0.mk (HB2.out.trans (hb3.mono HB2.out.size)); clear k0 k1 k2; clear hb3)
    | fail)
   rw [← hQ.out]
   refine ⟨?_, HB3.out⟩
   unfold conflictO
   rw [H12.out, H10.out]
   rfl
set_option maxRecDepth 100000 in
set_option maxHeartbeats 4000000 in
theorem Chosen_calls :
  Calls Tryz.prog 42 #[.agg #[v0, v1, v2]] W fun e W' => e = .returned (.int .i64 (if oursO x0 x1 x2 = true then 1 else 2)) ∧ Below W.heap.size W W' := by
 have HP := Aside0.mk (fun (w : World) (hb : Below W.heap.size W w) => (⟨h0.below hb, h1.below hb, h2.below hb⟩ : PtrTo w v0 x0 ∧ PtrTo w v1 x1 ∧ PtrTo w v2 x2))
 have HW : Aside0 (Below W.heap.size W (W.alloc (.cells #[v0, v1, v2] 79))) := ⟨below_alloc (Below.refl _ _) _⟩
 have hbx := blk_new W (.cells #[v0, v1, v2] 79)
 have HX := Aside0.mk hbx
 obtain ⟨k0, k1, k2⟩ := three_cells hbx
 clear h0 h1 h2 hbx
 generalize hpost : (fun (e : Ending) (W' : World) => e = .returned (.int .i64 (if oursO x0 x1 x2 = true then 1 else 2)) ∧ Below W.heap.size W W') = Q
 have hQ := Aside0.mk hpost
 clear hpost
 cases c12 : alikeO x1 x2 with
 | true =>
  have H12 := Aside0.mk c12
  clear c12
  go_enter Tryz.func42, Tryz.ntmps42
  go_wp2_with (first
   | (go_at_call 54; refine (Alike12_calls v0 v1 v2 x1 x2 _ (HP.out _ HW.out).2.1 (HP.out _ HW.out).2.2).mono ?_; rintro e w1 ⟨rfl, hb1⟩; rw [H12.out]; have HB1 := Aside0.mk (HW.out.trans (hb1.mono HW.out.size)); clear hb1 k0 k1 k2)
   | fail)
  rw [← hQ.out]
  refine ⟨?_, HB1.out⟩
  unfold oursO
  rw [H12.out]
  rfl
 | false =>
  have H12 := Aside0.mk c12
  clear c12
  cases c10 : alikeO x1 x0 with
  | true =>
   have H10 := Aside0.mk c10
   clear c10
   go_enter Tryz.func42, Tryz.ntmps42
   go_wp2_with (first
    | (go_at_call 54; refine (Alike12_calls v0 v1 v2 x1 x2 _ (HP.out _ HW.out).2.1 (HP.out _ HW.out).2.2).mono ?_; rintro e w1 ⟨rfl, hb1⟩; rw [H12.out]; have HB1 := Aside0.mk (HW.out.trans (hb1.mono HW.out.size)); clear k0 k1 k2; obtain ⟨k0, k1, k2⟩ := three_cells (three_below hb1 HX.out); clear hb1)
    | ((with_reducible refine gate_dst (N := 7) rfl ?_); refine enter_step Tryz.func54 (by kernel_rfl) rfl #[.agg #[v0, v1, v2], .int .i64 1, .int .i64 0] rfl ?ha ?hw ?_; (case hw => go_simp); (case ha => (try simp only [List.map_toArray, List.map_cons, List.map_nil]); first | done | rfl); refine (Alike10_calls v0 v1 v2 x1 x0 _ (HP.out _ HB1.out).2.1 (HP.out _ HB1.out).1).mono ?_; rintro e w2 ⟨rfl, hb2⟩; refine ⟨_, rfl, ?_⟩; rw [H10.out]; have HB2 := Aside0.mk (HB1.out.trans (hb2.mono HB1.out.size)); clear k0 k1 k2; clear hb2)
    | fail)
   rw [← hQ.out]
   refine ⟨?_, HB2.out⟩
   unfold oursO
   rw [H12.out, H10.out]
   rfl
  | false =>
   have H10 := Aside0.mk c10
   clear c10
   go_enter Tryz.func42, Tryz.ntmps42
   go_wp2_with (first
    | (go_at_call 54; refine (Alike12_calls v0 v1 v2 x1 x2 _ (HP.out _ HW.out).2.1 (HP.out _ HW.out).2.2).mono ?_; rintro e w1 ⟨rfl, hb1⟩; rw [H12.out]; have HB1 := Aside0.mk (HW.out.trans (hb1.mono HW.out.size)); clear k0 k1 k2; obtain ⟨k0, k1, k2⟩ := three_cells (three_below hb1 HX.out); clear hb1)
    | ((with_reducible refine gate_dst (N := 7) rfl ?_); refine enter_step Tryz.func54 (by kernel_rfl) rfl #[.agg #[v0, v1, v2], .int .i64 1, .int .i64 0] rfl ?ha ?hw ?_; (case hw => go_simp); (case ha => (try simp only [List.map_toArray, List.map_cons, List.map_nil]); first | done | rfl); refine (Alike10_calls v0 v1 v2 x1 x0 _ (HP.out _ HB1.out).2.1 (HP.out _ HB1.out).1).mono ?_; rintro e w2 ⟨rfl, hb2⟩; refine ⟨_, rfl, ?_⟩; rw [H10.out]; have HB2 := Aside0.mk (HB1.out.trans (hb2.mono HB1.out.size)); clear k0 k1 k2; clear hb2)
    | fail)
   rw [← hQ.out]
   refine ⟨?_, HB2.out⟩
   unfold oursO
   rw [H12.out, H10.out]
   rfl
end
end Go.Proofs.YtbngbefchobfnaaGreatDoor

namespace Go.Proofs.YtbngbefchobfnaaGreatDoor
open Go.RowKit Go.Maps Go.Proofs.YtbngbefchobfnaaGreatDoor.Print Go.Proofs.YtbngbefchobfnaaGreatDoorW.PrintWords Go.Proofs.YtbngbefchobfnaaGreatDoorW.PrintLast Go.Proofs.YtbngbefchobfnaaGreatDoorW.PrintMore
set_option linter.unusedVariables false
set_option linter.unusedSimpArgs false
set_option maxRecDepth 100000 in
set_option maxHeartbeats 4000000 in
theorem Put_frame (base g d1 d2 n : Nat) (s : PL) (tr : Int) (x : Node) (A : Option Addr) (c : Nat) (p : ByteArray) (W : World) (hP : PileAt W base g d1 d2 n s) (hn : n < 1000000000) (hz : EntZ ⟨p, x, tr⟩) (hC : Kd.C (Kd.int .u8) W A x.f5.length x.f5) (hbase : base ≤ W.heap.size) :
  Calls Tryz.prog 58 #[.pointer (some ⟨g, 0, none⟩), .int .i64 tr, .agg (nodeCells x (.slice A x.f5.length c)), .string p] W fun e W' => e = .returned (.tuple #[]) ∧ PileAt W' base g d1 d2 (n + 1) (putE s ⟨p, x, tr⟩) ∧ Below base W W' ∧ ∀ k, k < W.heap.size → k ≠ d1 → k ≠ d2 → W'.heap[k]? = W.heap[k]? := by
 have HP := Aside0.mk hP
 have HN := Aside0.mk hn
 have HZ := Aside0.mk hz
 have HC := Aside0.mk hC
 have HBS := Aside0.mk hbase
 clear hP hn hz hC
 generalize hpost : (fun (e : Ending) (W' : World) => e = .returned (.tuple #[]) ∧ PileAt W' base g d1 d2 (n + 1) (putE s ⟨p, x, tr⟩) ∧ Below base W W' ∧ ∀ k, k < W.heap.size → k ≠ d1 → k ≠ d2 → W'.heap[k]? = W.heap[k]?) = Q
 have hQ := Aside0.mk hpost
 clear hpost
 unfold nodeCells
 go_enter Tryz.func58, Tryz.ntmps58
 go_upto_region 3 with (first
  | (go_at_call 45; refine (Clone_calls A c x.f5 _ (Kd.C_alloc HC.out _) HZ.out.2.1.2.2.2).mono ?_; rintro e w1 ⟨vc, rfl, hRc, hB1⟩; obtain ⟨A8, c8, rfl, hl8, hC8⟩ := Kd.R_reads hRc; clear hl8 hC8; have HRC := Aside0.mk hRc; have HB1 := Aside0.mk hB1; have hk := fun o (v : Value) (h : (W.alloc (.cells #[.string x.f0, .string x.f1, .string x.f2, .int .u8 x.f3, .int .i64 x.f4.f0, .int .i64 x.f4.f1, .int .i64 x.f4.f2, .int .i64 x.f4.f3, .slice A x.f5.length c] 42)).cell? ⟨W.heap.size, o, none⟩ = some v) => fkeep hB1 h; have HKP := Aside0.mk hk; have hfz : w1.frozen? ⟨W.heap.size, 8, none⟩ = false := (by have hq := (hB1.block W.heap.size (by rw [World.size_alloc]; omega)).trans (blk_new W (.cells #[.string x.f0, .string x.f1, .string x.f2, .int .u8 x.f3, .int .i64 x.f4.f0, .int .i64 x.f4.f1, .int .i64 x.f4.f2, .int .i64 x.f4.f3, .slice A x.f5.length c] 42)); exact blk_frozen hq 8); have hc8 : w1.cell? ⟨W.heap.size, 8, none⟩ = some (.slice A x.f5.length c) := (by have hq := (hB1.block W.heap.size (by rw [World.size_alloc]; omega)).trans (blk_new W (.cells #[.string x.f0, .string x.f1, .string x.f2, .int .u8 x.f3, .int .i64 x.f4.f0, .int .i64 x.f4.f1, .int .i64 x.f4.f2, .int .i64 x.f4.f3, .slice A x.f5.length c] 42)); exact (blk_cell hq 8).trans rfl); clear hk hRc hB1)
  | fail)
 have f2 : ∃ w2 b0, w2 = w1.setCell ⟨W.heap.size, 8, none⟩ (.slice A8 x.f5.length c8) ∧ b0 = W.heap.size ∧ Below W.heap.size W w2 ∧ w2.heap[b0]? = some (.cells (nodeCells x (.slice A8 x.f5.length c8)) 42 (0, 0)) ∧ Kd.R (Kd.int .u8) 5 w2 base (fun _ => True) (.slice A8 x.f5.length c8) x.f5 := by
  have hb0 : Below W.heap.size W (W.alloc (.cells (nodeCells x (.slice A x.f5.length c)) 42)) := below_alloc (Below.refl _ _) _
  have hq := (HB1.out.block W.heap.size (by rw [World.size_alloc]; omega)).trans (blk_new W (.cells (nodeCells x (.slice A x.f5.length c)) 42))
  refine ⟨_, _, rfl, rfl, (hb0.trans (HB1.out.mono hb0.size)).setCell (Nat.le_refl _) _, blk_put (cs' := nodeCells x (.slice A8 x.f5.length c8)) hq 8 (.slice A8 x.f5.length c8) rfl, ?_⟩
  refine Kd.R_lower (Kd.R_set HRC.out hq (fun k hk => ?_) 8 (.slice A8 x.f5.length c8)) (Nat.le_trans HBS.out hb0.size)
  rcases List.mem_cons.1 hk with rfl | hk
  ·decide
  ·cases hk
 obtain ⟨w2, b0, e2, e0, hB2, hN2, hR2⟩ := f2
 rw [← e2]
 rw [← e0]
 have hwq : Below w2.heap.size w2 w2.drew := below_drew (Below.refl _ _)
 have hBq := hB2.trans (hwq.mono hB2.size)
 have hNq : w2.drew.heap[b0]? = some (.cells (nodeCells x (.slice A8 x.f5.length c8)) 42 (0, 0)) := hN2
 have hRq := Kd.R_below hR2 hwq
 have hPq := HP.out.below hBq
 obtain ⟨V, hM1, hV⟩ := hPq.nodes
 have hzp : p.size ≤ maxLen := by have := HZ.out.1; unfold maxLen; exact Nat.le_trans this (by decide)
 obtain ⟨va, sta, we1, hE1, hT1, hS1⟩ := hM1.entry (n := n) Tryz.underlying9 Tryz.underlying86 (by have := HN.out; unfold maxLen; omega) zeroNode hzp
 obtain ⟨we2, hE2, hM2, hT2⟩ := hS1 (.agg (nodeCells x (.slice A8 x.f5.length c8)))
 have hK2 := hPq.keys.kept (turned_grown hT2) (by have := hPq.fence; simp; omega)
 obtain ⟨vb, stb, we3, hE3, hT3, hS3⟩ := hK2.entry (n := n) Tryz.underlying9 Tryz.underlying87 (by have := HN.out; unfold maxLen; omega) zeroKey hzp
 obtain ⟨we4, hE4, hM4, hT4⟩ := hS3 (.agg #[.int .i64 tr, .string x.f2])
 have hg0 := hPq.box
 have hb0 := hNq
 obtain ⟨hga, _⟩ := turned_box hT1 hg0
 obtain ⟨hba, _⟩ := turned_box hT1 hb0
 obtain ⟨hgb, _⟩ := turned_box hT2 hg0
 obtain ⟨hbb, _⟩ := turned_box hT2 hb0
 obtain ⟨hgc, _⟩ := turned_box hT3 hgb
 obtain ⟨hbc, _⟩ := turned_box hT3 hbb
 obtain ⟨hgd, _⟩ := turned_box hT4 hgb
 obtain ⟨hbd, _⟩ := turned_box hT4 hbb
 have hfin : PileAt we4 base g d1 d2 (n + 1) (putE s ⟨p, x, tr⟩) := by
  have hVc := R_turned (R_turned hRq hT2) hT4
  refine ⟨hPq.fence, hgd, ⟨fun k => if k = p.data.toList then (.slice A8 x.f5.length c8) else V k, (hM2.kept (turned_grown hT4) (by have := hPq.fence; simp; omega)).ext (fun k => ?_), fun k e he => ?_⟩, hM4.ext (fun k => ?_), putE_nodup hPq.nodup _, fun e he => ?_⟩
  ·unfold putS nodV
   rw [atL_put]
   by_cases hk : k = p.data.toList
   ·rw [if_pos hk, if_pos hk]; simp only [Option.map_some, if_pos hk]
   ·rw [if_neg hk, if_neg hk]; simp only [if_neg hk]
  ·rw [atL_put] at he
   dsimp only at he ⊢
   by_cases hk : k = p.data.toList
   ·rw [if_pos hk] at he ⊢
    cases he
    exact hVc
   ·rw [if_neg hk] at he ⊢
    exact R_turned (R_turned (hV k e he) hT2) hT4
  ·unfold putS keyM
   rw [atL_put]
   by_cases hk : k = p.data.toList
   ·rw [if_pos hk, if_pos hk]; rfl
   ·rw [if_neg hk, if_neg hk]
  ·rcases putE_sub he with ⟨h, _⟩ | rfl
   ·exact hPq.small e h
   ·exact HZ.out
 have hfb : Below base W we4 := ((hBq.mono HBS.out).trans (turned_below hT2 hPq.fence.2.1 (Nat.le_trans HBS.out hBq.size))).trans (turned_below hT4 hPq.fence.2.2.1 (Nat.le_trans (Nat.le_trans HBS.out hBq.size) (turned_grown hT2).size))
 have hfr : ∀ k, k < W.heap.size → k ≠ d1 → k ≠ d2 → we4.heap[k]? = W.heap[k]? := fun k hk h1 h2 => ((turned_grown hT4).block k (Nat.lt_of_lt_of_le hk (Nat.le_trans hBq.size (turned_grown hT2).size)) (fun e => h2 (by injection e))).trans (((turned_grown hT2).block k (Nat.lt_of_lt_of_le hk hBq.size) (fun e => h1 (by injection e))).trans (hBq.block k hk))
 have HFR := Aside0.mk hfr
 clear hfr
 have HFIN := Aside0.mk hfin
 have HFB := Aside0.mk hfb
 have HE : Aside0 (g = g) := ⟨rfl⟩
 clear e0 hfin hfb hT1 hT2 hT3 hT4 hS1 hS3 hM1 hM2 hM4 hK2 hV hPq hRq hR2 hB2 hBq hwq e2 HKP hfz hc8
 unfold goInt at hE1 hE2 hE3 hE4
 unfold nodeCells at hE2
 refine start_ (n := 21) (S := fun w' => w'.cell? ⟨g, 0, none⟩ = some (.map (some d1)) ∧ w'.cell? ⟨g, 1, none⟩ = some (.map (some d2)) ∧ w'.cell? ⟨b0, 0, none⟩ = some (.string x.f0) ∧ w'.cell? ⟨b0, 1, none⟩ = some (.string x.f1) ∧ w'.cell? ⟨b0, 2, none⟩ = some (.string x.f2) ∧ w'.cell? ⟨b0, 3, none⟩ = some (.int .u8 x.f3) ∧ w'.cell? ⟨b0, 4, none⟩ = some (.int .i64 x.f4.f0) ∧ w'.cell? ⟨b0, 5, none⟩ = some (.int .i64 x.f4.f1) ∧ w'.cell? ⟨b0, 6, none⟩ = some (.int .i64 x.f4.f2) ∧ w'.cell? ⟨b0, 7, none⟩ = some (.int .i64 x.f4.f3) ∧ w'.cell? ⟨b0, 8, none⟩ = some (.slice A8 x.f5.length c8)) (ds := []) #[false, false, false, false, false, false, false, false, false, false, false, false, false, false, false, false, false, false, false, false, false] (by kernel_rfl) rfl rfl (put_cells hg0 hb0) (fun hHeld => ?_)
 refine pure_ (i := 0) (N := some 14) (v := ?_) (a' := ?_) #[true, false, false, false, false, false, false, false, false, false, false, false, false, false, false, false, false, false, false, false, false] rfl rfl (by kernel_rfl) (fun _ _ _ h => h) (Or.inl ⟨by rfl, ?_⟩) ?_ ?_
 rotate_left
 ·intro w'
  go_simp
  with_reducible rfl
 rotate_left
 ·simp only [Act.put, List.setIfInBounds_toArray, List.set_cons_zero, List.set_cons_succ, i64_w, i32_w]
  rfl
 refine pure_ (i := 1) (N := some 15) (v := ?_) (a' := ?_) #[true, true, false, false, false, false, false, false, false, false, false, false, false, false, false, false, false, false, false, false, false] rfl rfl (by kernel_rfl) (fun _ _ _ h => h) (Or.inl ⟨by rfl, ?_⟩) ?_ ?_
 rotate_left
 ·intro w'
  go_simp
  with_reducible rfl
 rotate_left
 ·simp only [Act.put, List.setIfInBounds_toArray, List.set_cons_zero, List.set_cons_succ, i64_w, i32_w]
  rfl
 refine pure_ (i := 2) (N := some 16) (v := ?_) (a' := ?_) #[true, true, true, false, false, false, false, false, false, false, false, false, false, false, false, false, false, false, false, false, false] rfl rfl (by kernel_rfl) (fun _ _ _ h => h) (Or.inl ⟨by rfl, ?_⟩) ?_ ?_
 rotate_left
 ·intro w'
  go_simp
  with_reducible rfl
 rotate_left
 ·simp only [Act.put, List.setIfInBounds_toArray, List.set_cons_zero, List.set_cons_succ, i64_w, i32_w]
  rfl
 refine take_ (i := 3) (N := some 17) (v := ?_) (a' := ?_) #[true, true, true, true, false, false, false, false, false, false, false, false, false, false, false, false, false, false, false, false, false] rfl rfl (by kernel_rfl) (fun _ _ _ h => h) (Or.inl ⟨by rfl, ?_⟩) hHeld ?_ ?_
 rotate_left
 ·rintro w' ⟨s0, s1, s2, s3, s4, s5, s6, s7, s8, s9, s10⟩
  go_simp
  with_reducible rfl
 rotate_left
 ·simp only [Act.put, List.setIfInBounds_toArray, List.set_cons_zero, List.set_cons_succ, i64_w, i32_w]
  rfl
 refine pure_ (i := 4) (N := some 18) (v := ?_) (a' := ?_) #[true, true, true, true, true, false, false, false, false, false, false, false, false, false, false, false, false, false, false, false, false] rfl rfl (by kernel_rfl) (fun _ _ _ h => h) (Or.inl ⟨by rfl, ?_⟩) ?_ ?_
 rotate_left
 ·intro w'
  go_simp
  with_reducible rfl
 rotate_left
 ·simp only [Act.put, List.setIfInBounds_toArray, List.set_cons_zero, List.set_cons_succ, i64_w, i32_w]
  rfl
 refine pure_ (i := 5) (N := some 19) (v := ?_) (a' := ?_) #[true, true, true, true, true, true, false, false, false, false, false, false, false, false, false, false, false, false, false, false, false] rfl rfl (by kernel_rfl) (fun _ _ _ h => h) (Or.inl ⟨by rfl, ?_⟩) ?_ ?_
 rotate_left
 ·intro w'
  go_simp
  with_reducible rfl
 rotate_left
 ·simp only [Act.put, List.setIfInBounds_toArray, List.set_cons_zero, List.set_cons_succ, i64_w, i32_w]
  rfl
 refine pure_ (i := 6) (N := some 20) (v := ?_) (a' := ?_) #[true, true, true, true, true, true, true, false, false, false, false, false, false, false, false, false, false, false, false, false, false] rfl rfl (by kernel_rfl) (fun _ _ _ h => h) (Or.inl ⟨by rfl, ?_⟩) ?_ ?_
 rotate_left
 ·intro w'
  go_simp
  with_reducible rfl
 rotate_left
 ·simp only [Act.put, List.setIfInBounds_toArray, List.set_cons_zero, List.set_cons_succ, i64_w, i32_w]
  rfl
 refine pure_ (i := 7) (N := some 21) (v := ?_) (a' := ?_) #[true, true, true, true, true, true, true, true, false, false, false, false, false, false, false, false, false, false, false, false, false] rfl rfl (by kernel_rfl) (fun _ _ _ h => h) (Or.inl ⟨by rfl, ?_⟩) ?_ ?_
 rotate_left
 ·intro w'
  go_simp
  with_reducible rfl
 rotate_left
 ·simp only [Act.put, List.setIfInBounds_toArray, List.set_cons_zero, List.set_cons_succ, i64_w, i32_w]
  rfl
 refine take_ (i := 8) (N := some 22) (v := ?_) (a' := ?_) #[true, true, true, true, true, true, true, true, true, false, false, false, false, false, false, false, false, false, false, false, false] rfl rfl (by kernel_rfl) (fun _ _ _ h => h) (Or.inl ⟨by rfl, ?_⟩) hHeld ?_ ?_
 rotate_left
 ·rintro w' ⟨s0, s1, s2, s3, s4, s5, s6, s7, s8, s9, s10⟩
  go_simp
  with_reducible rfl
 rotate_left
 ·simp only [Act.put, List.setIfInBounds_toArray, List.set_cons_zero, List.set_cons_succ, i64_w, i32_w]
  rfl
 refine pure_ (i := 9) (N := some 23) (v := ?_) (a' := ?_) #[true, true, true, true, true, true, true, true, true, true, false, false, false, false, false, false, false, false, false, false, false] rfl rfl (by kernel_rfl) (fun _ _ _ h => h) (Or.inl ⟨by rfl, ?_⟩) ?_ ?_
 rotate_left
 ·intro w'
  go_simp
  with_reducible rfl
 rotate_left
 ·simp only [Act.put, List.setIfInBounds_toArray, List.set_cons_zero, List.set_cons_succ, i64_w, i32_w]
  rfl
 refine take_ (i := 10) (N := some 24) (v := ?_) (a' := ?_) #[true, true, true, true, true, true, true, true, true, true, true, false, false, false, false, false, false, false, false, false, false] rfl rfl (by kernel_rfl) (fun _ _ _ h => h) (Or.inl ⟨by rfl, ?_⟩) hHeld ?_ ?_
 rotate_left
 ·rintro w' ⟨s0, s1, s2, s3, s4, s5, s6, s7, s8, s9, s10⟩
  go_simp
  with_reducible rfl
 rotate_left
 ·simp only [Act.put, List.setIfInBounds_toArray, List.set_cons_zero, List.set_cons_succ, i64_w, i32_w]
  rfl
 refine pure_ (i := 11) (N := some 25) (v := ?_) (a' := ?_) #[true, true, true, true, true, true, true, true, true, true, true, true, false, false, false, false, false, false, false, false, false] rfl rfl (by kernel_rfl) (fun _ _ _ h => h) (Or.inl ⟨by rfl, ?_⟩) ?_ ?_
 rotate_left
 ·intro w'
  go_simp
  with_reducible rfl
 rotate_left
 ·simp only [Act.put, List.setIfInBounds_toArray, List.set_cons_zero, List.set_cons_succ, i64_w, i32_w]
  rfl
 refine pure_ (i := 12) (N := some 26) (v := ?_) (a' := ?_) #[true, true, true, true, true, true, true, true, true, true, true, true, true, false, false, false, false, false, false, false, false] rfl rfl (by kernel_rfl) (fun _ _ _ h => h) (Or.inl ⟨by rfl, ?_⟩) ?_ ?_
 rotate_left
 ·intro w'
  go_simp
  with_reducible rfl
 rotate_left
 ·simp only [Act.put, List.setIfInBounds_toArray, List.set_cons_zero, List.set_cons_succ, i64_w, i32_w]
  rfl
 refine take_ (i := 13) (N := some 27) (v := ?_) (a' := ?_) #[true, true, true, true, true, true, true, true, true, true, true, true, true, true, false, false, false, false, false, false, false] rfl rfl (by kernel_rfl) (fun _ _ _ h => h) (Or.inl ⟨by rfl, ?_⟩) hHeld ?_ ?_
 rotate_left
 ·rintro w' ⟨s0, s1, s2, s3, s4, s5, s6, s7, s8, s9, s10⟩
  go_simp
  with_reducible rfl
 rotate_left
 ·simp only [Act.put, List.setIfInBounds_toArray, List.set_cons_zero, List.set_cons_succ, i64_w, i32_w]
  rfl
 refine pure_ (i := 14) (N := some 28) (v := ?_) (a' := ?_) #[true, true, true, true, true, true, true, true, true, true, true, true, true, true, true, false, false, false, false, false, false] rfl rfl (by kernel_rfl) (fun _ _ _ h => h) (Or.inl ⟨by rfl, ?_⟩) ?_ ?_
 rotate_left
 ·intro w'
  go_simp
  with_reducible rfl
 rotate_left
 ·simp only [Act.put, List.setIfInBounds_toArray, List.set_cons_zero, List.set_cons_succ, i64_w, i32_w]
  rfl
 refine one_ (i := 15) (N := some 29) #[true, true, true, true, true, true, true, true, true, true, true, true, true, true, true, true, false, false, false, false, false] rfl rfl (by kernel_rfl) (by decide) (fun K hK => ?_)
 refine value_ (w1 := we1) (v := .tuple #[va, .int .i64 (sta : Int)]) (by rfl) rfl ?_ ?_
 ·first | (go_simp; done) | (go_simp; rfl)
 refine hK.out _ _ (put_cells hga hba) (fun hHeld => ?_)
 clear hK K
 refine norm_ (a' := ?_) ?_ ?_
 rotate_left
 ·show Act.put _ (some 29) _ = _
  simp only [Act.put, List.setIfInBounds_toArray, List.set_cons_zero, List.set_cons_succ]
  rfl
 refine pure_ (i := 16) (N := some 30) (v := ?_) (a' := ?_) #[true, true, true, true, true, true, true, true, true, true, true, true, true, true, true, true, true, false, false, false, false] rfl rfl (by kernel_rfl) (fun _ _ _ h => h) (Or.inl ⟨by rfl, ?_⟩) ?_ ?_
 rotate_left
 ·intro w'
  go_simp
  with_reducible rfl
 rotate_left
 ·simp only [Act.put, List.setIfInBounds_toArray, List.set_cons_zero, List.set_cons_succ, i64_w, i32_w]
  rfl
 refine one_ (i := 17) (N := none) #[true, true, true, true, true, true, true, true, true, true, true, true, true, true, true, true, true, true, false, false, false] rfl rfl (by kernel_rfl) (by decide) (fun K hK => ?_)
 refine skip_ (w1 := we2) (by rfl) rfl ?_ ?_
 ·first | (go_simp; done) | (go_simp; rfl)
 refine hK.out _ _ (put_cells hgb hbb) (fun hHeld => ?_)
 clear hK K
 refine one_ (i := 18) (N := some 31) #[true, true, true, true, true, true, true, true, true, true, true, true, true, true, true, true, true, true, true, false, false] rfl rfl (by kernel_rfl) (by decide) (fun K hK => ?_)
 refine value_ (w1 := we3) (v := .tuple #[vb, .int .i64 (stb : Int)]) (by rfl) rfl ?_ ?_
 ·first | (go_simp; done) | (go_simp; rfl)
 refine hK.out _ _ (put_cells hgc hbc) (fun hHeld => ?_)
 clear hK K
 refine norm_ (a' := ?_) ?_ ?_
 rotate_left
 ·show Act.put _ (some 31) _ = _
  simp only [Act.put, List.setIfInBounds_toArray, List.set_cons_zero, List.set_cons_succ]
  rfl
 refine pure_ (i := 19) (N := some 32) (v := ?_) (a' := ?_) #[true, true, true, true, true, true, true, true, true, true, true, true, true, true, true, true, true, true, true, true, false] rfl rfl (by kernel_rfl) (fun _ _ _ h => h) (Or.inl ⟨by rfl, ?_⟩) ?_ ?_
 rotate_left
 ·intro w'
  go_simp
  with_reducible rfl
 rotate_left
 ·simp only [Act.put, List.setIfInBounds_toArray, List.set_cons_zero, List.set_cons_succ, i64_w, i32_w]
  rfl
 refine one_ (i := 20) (N := none) #[true, true, true, true, true, true, true, true, true, true, true, true, true, true, true, true, true, true, true, true, true] rfl rfl (by kernel_rfl) (by decide) (fun K hK => ?_)
 refine skip_ (w1 := we4) (by rfl) rfl ?_ ?_
 ·first | (go_simp; done) | (go_simp; rfl)
 refine hK.out _ _ (put_cells hgd hbd) (fun hHeld => ?_)
 clear hK K
 refine done_ (by kernel_rfl) ?_
 refine bodyPost_ret (v := .tuple #[]) (by simp [results, Tryz.results58, go_sem]) rfl ?_
 rw [← hQ.out]
 exact ⟨rfl, HFIN.out, HFB.out, HFR.out⟩
end Go.Proofs.YtbngbefchobfnaaGreatDoor

namespace Go.Proofs.YtbngbefchobfnaaGreatDoor
open Go.RowKit Go.Maps Go.Proofs.YtbngbefchobfnaaGreatDoor.Print Go.Proofs.YtbngbefchobfnaaGreatDoorW.PrintWords Go.Proofs.YtbngbefchobfnaaGreatDoorW.PrintLast Go.Proofs.YtbngbefchobfnaaGreatDoorW.PrintMore
set_option linter.unusedVariables false
set_option linter.unusedSimpArgs false
abbrev TS := Nat → List Node
def hasP (ts : TS) (p : ByteArray) : Bool := (findF (ts 0) p).isSome || ((findF (ts 1) p).isSome || (findF (ts 2) p).isSome)
def byV (ts : TS) (B : List UInt8 → Nat) : List UInt8 → Option Value := fun k => if hasP ts ⟨k.toArray⟩ = true then some (.pointer (some ⟨B k, 0, none⟩)) else none
theorem byV_at (ts : TS) (B : List UInt8 → Nat) (p : ByteArray) : byV ts B p.data.toList = if hasP ts p = true then some (.pointer (some ⟨B p.data.toList, 0, none⟩)) else none := rfl
def ThreeAt (W w : World) (b : Nat) (ts : TS) (p : ByteArray) : Prop := ∃ v0 v1 v2, w.heap[b]? = some (.cells #[v0, v1, v2] 79 (0, 0)) ∧ PtrTo W v0 (findF (ts 0) p) ∧ PtrTo W v1 (findF (ts 1) p) ∧ PtrTo W v2 (findF (ts 2) p)
structure MergerAt (W w : World) (gm d g d1 d2 m n : Nat) (ts : TS) (B : List UInt8 → Nat) (s : PL) : Prop where
 fence : W.heap.size ≤ d ∧ d < g ∧ d < d1 ∧ d < d2 ∧ g < gm ∧ d1 < gm ∧ d2 < gm
 box : w.heap[gm]? = some (.cells #[.map (some d), .pointer (some ⟨g, 0, none⟩)] 61 (0, 0))
 map : MapS Tryz.prog 9 w d m (byV ts B)
 three : ∀ p, hasP ts p = true → gm < B p.data.toList ∧ ThreeAt W w (B p.data.toList) ts p
 inj : ∀ p q, hasP ts p = true → hasP ts q = true → B p.data.toList = B q.data.toList → p = q
 pile : PileAt w (d + 1) g d1 d2 n s
 under : Below W.heap.size W w
theorem PileAt.mono {w : World} {base g d1 d2 n n' : Nat} {s : PL} (h : PileAt w base g d1 d2 n s) (hn : n ≤ n') : PileAt w base g d1 d2 n' s := by
 obtain ⟨V, h1, h2⟩ := h.nodes
 exact ⟨h.fence, h.box, ⟨V, h1.mono hn, h2⟩, h.keys.mono hn, h.nodup, h.small⟩
theorem PileAt.nil_step {w w1 : World} {base g d1 d2 n : Nat} (h : PileAt w base g d1 d2 n []) (hg : w1.heap[g]? = w.heap[g]?) (h1 : w1.heap[d1]? = w.heap[d1]?) (h2 : w1.heap[d2]? = w.heap[d2]?) : PileAt w1 base g d1 d2 n [] := by
 obtain ⟨V, m1, m2⟩ := h.nodes
 exact ⟨h.fence, hg.trans h.box, ⟨V, m1.step h1, fun k e he => by cases he⟩, h.keys.step h2, h.nodup, h.small⟩
section
variable {W w w1 : World} {gm d g d1 d2 m n : Nat} {ts : TS} {B : List UInt8 → Nat} {s : PL}
theorem MergerAt.below (h : MergerAt W w gm d g d1 d2 m n ts B s) (hb : Below w.heap.size w w1) : MergerAt W w1 gm d g d1 d2 m n ts B s := by
 refine ⟨h.fence, (hb.block _ (blk_lt' h.box)).trans h.box, h.map.below hb, fun p hp => ?_, h.inj, h.pile.below hb, h.under.trans (hb.mono h.under.size)⟩
 obtain ⟨h1, v0, v1, v2, h2, h3⟩ := h.three p hp
 exact ⟨h1, v0, v1, v2, (hb.block _ (blk_lt' h2)).trans h2, h3⟩
theorem MergerAt.piled (h : MergerAt W w gm d g d1 d2 m n ts B s) {n' : Nat} {s' : PL} (hP : PileAt w1 (d + 1) g d1 d2 n' s') (hb : Below (d + 1) w w1) (hf : ∀ k, k < w.heap.size → k ≠ d1 → k ≠ d2 → w1.heap[k]? = w.heap[k]?) : MergerAt W w1 gm d g d1 d2 m n' ts B s' := by
 obtain ⟨f0, f1, f2, f3, f4, f5, f6⟩ := h.fence
 refine ⟨h.fence, (hf gm (blk_lt' h.box) (by omega) (by omega)).trans h.box, h.map.step (hf d h.map.lt (by omega) (by omega)), fun p hp => ?_, h.inj, hP, h.under.trans (hb.mono (by omega))⟩
 obtain ⟨h1, v0, v1, v2, h2, h3⟩ := h.three p hp
 exact ⟨h1, v0, v1, v2, (hf _ (blk_lt' h2) (by omega) (by omega)).trans h2, h3⟩
theorem MergerAt.mono (h : MergerAt W w gm d g d1 d2 m n ts B s) {n' : Nat} (hn : n ≤ n') : MergerAt W w gm d g d1 d2 m n' ts B s := ⟨h.fence, h.box, h.map, h.three, h.inj, h.pile.mono hn, h.under⟩
theorem hasP_congr {ts ts' : TS} (h : ∀ j, j < 3 → ts j = ts' j) (p : ByteArray) : hasP ts p = hasP ts' p := by
 unfold hasP
 rw [h 0 (by omega), h 1 (by omega), h 2 (by omega)]
theorem MergerAt.congr {ts' : TS} (h : MergerAt W w gm d g d1 d2 m n ts B s) (ht : ∀ j, j < 3 → ts j = ts' j) : MergerAt W w gm d g d1 d2 m n ts' B s := by
 have hh := hasP_congr ht
 refine ⟨h.fence, h.box, h.map.ext (fun k => by unfold byV; rw [hh]), fun p hp => ?_, fun p q hp hq => h.inj p q (by rw [hh]; exact hp) (by rw [hh]; exact hq), h.pile, h.under⟩
 have := h.three p (by rw [hh]; exact hp)
 unfold ThreeAt at this ⊢
 rw [ht 0 (by omega), ht 1 (by omega), ht 2 (by omega)] at this
 exact this
end
structure ExtT (ts ts' : TS) (n : Nat) (x : Node) : Prop where
 here : ∀ q, findF (ts' n) q = if q = x.f0 then some x else findF (ts n) q
 other : ∀ j, j ≠ n → ts' j = ts j
theorem ExtT.at {ts ts' : TS} {n : Nat} {x : Node} (h : ExtT ts ts' n x) (j : Nat) {q : ByteArray} (hq : q ≠ x.f0) : findF (ts' j) q = findF (ts j) q := by
 by_cases e : j = n
 ·subst e
  rw [h.here, if_neg hq]
 ·rw [h.other j e]
theorem ExtT.has {ts ts' : TS} {n : Nat} {x : Node} (h : ExtT ts ts' n x) (hn : n < 3) (q : ByteArray) : hasP ts' q = (decide (q = x.f0) || hasP ts q) := by
 by_cases e : q = x.f0
 ·rw [decide_eq_true e, Bool.true_or]
  unfold hasP
  have := h.here q
  rw [if_pos e] at this
  match n, hn with
  | 0, _ => rw [this]; rfl
  | 1, _ => rw [this]; simp
  | 2, _ => rw [this]; simp
 ·rw [decide_eq_false e, Bool.false_or]
  unfold hasP
  rw [h.at 0 e, h.at 1 e, h.at 2 e]
theorem ThreeAt.set {W w : World} {ts ts' : TS} {n b : Nat} {x : Node} {ad : Addr} (h : ThreeAt W w b ts x.f0) (hE : ExtT ts ts' n x) (hn : n < 3) (hN : NodeAt W ad x) : ThreeAt W (w.setCell ⟨b, n, none⟩ (.pointer (some ad))) b ts' x.f0 := by
 obtain ⟨v0, v1, v2, hb, q0, q1, q2⟩ := h
 have hx : findF (ts' n) x.f0 = some x := by rw [hE.here, if_pos rfl]
 match n, hn with
 | 0, _ =>
  refine ⟨.pointer (some ad), v1, v2, blk_put (cs' := #[.pointer (some ad), v1, v2]) hb 0 _ rfl, ?_, ?_, ?_⟩
  ·rw [hx]; exact ⟨ad, rfl, hN⟩
  ·rw [hE.other 1 (by omega)]; exact q1
  ·rw [hE.other 2 (by omega)]; exact q2
 | 1, _ =>
  refine ⟨v0, .pointer (some ad), v2, blk_put (cs' := #[v0, .pointer (some ad), v2]) hb 1 _ rfl, ?_, ?_, ?_⟩
  ·rw [hE.other 0 (by omega)]; exact q0
  ·rw [hx]; exact ⟨ad, rfl, hN⟩
  ·rw [hE.other 2 (by omega)]; exact q2
 | 2, _ =>
  refine ⟨v0, v1, .pointer (some ad), blk_put (cs' := #[v0, v1, .pointer (some ad)]) hb 2 _ rfl, ?_, ?_, ?_⟩
  ·rw [hE.other 0 (by omega)]; exact q0
  ·rw [hE.other 1 (by omega)]; exact q1
  ·rw [hx]; exact ⟨ad, rfl, hN⟩
theorem ThreeAt.keep {W w w1 : World} {ts ts' : TS} {b : Nat} {p : ByteArray} (h : ThreeAt W w b ts p) (hw : w1.heap[b]? = w.heap[b]?) (ht : ∀ j, findF (ts' j) p = findF (ts j) p) : ThreeAt W w1 b ts' p := by
 obtain ⟨v0, v1, v2, hb, q⟩ := h
 refine ⟨v0, v1, v2, hw.trans hb, ?_⟩
 rw [ht 0, ht 1, ht 2]
 exact q
section
variable {W w w2 : World} {gm d g d1 d2 m n : Nat} {ts ts' : TS} {B : List UInt8 → Nat} {x : Node} {ad : Addr}
theorem MergerAt.set (h : MergerAt W w gm d g d1 d2 m 0 ts B []) (hE : ExtT ts ts' n x) (hn : n < 3) (hp : hasP ts x.f0 = true) (hN : NodeAt W ad x) : MergerAt W (w.setCell ⟨B x.f0.data.toList, n, none⟩ (.pointer (some ad))) gm d g d1 d2 m 0 ts' B [] := by
 obtain ⟨f0, f1, f2, f3, f4, f5, f6⟩ := h.fence
 obtain ⟨hlt, h3⟩ := h.three _ hp
 have hh : ∀ q, hasP ts' q = hasP ts q := fun q => by
  rw [hE.has hn]
  by_cases e : q = x.f0
  ·rw [e, hp, Bool.or_true]
  ·rw [decide_eq_false e, Bool.false_or]
 have hk : ∀ i, i ≠ B x.f0.data.toList → (w.setCell ⟨B x.f0.data.toList, n, none⟩ (.pointer (some ad))).heap[i]? = w.heap[i]? := fun i hi => Below.heap_setCell w ⟨B x.f0.data.toList, n, none⟩ _ i hi
 refine ⟨h.fence, (hk gm (by omega)).trans h.box, (h.map.setCell (a := ⟨B x.f0.data.toList, n, none⟩) (show d ≠ B x.f0.data.toList by omega) _).ext (fun k => by unfold byV; rw [hh]), fun p hp' => ?_, fun p q h1 h2 => h.inj p q (by rw [← hh]; exact h1) (by rw [← hh]; exact h2), h.pile.nil_step (hk g (by omega)) (hk d1 (by omega)) (hk d2 (by omega)), h.under.setCell (show W.heap.size ≤ B x.f0.data.toList by omega) _⟩
 rw [hh] at hp'
 obtain ⟨hl, h4⟩ := h.three p hp'
 refine ⟨hl, ?_⟩
 by_cases e : p = x.f0
 ·subst e
  exact h4.set hE hn hN
 ·exact h4.keep (hk _ (fun e2 => e (h.inj p x.f0 hp' hp e2))) (fun j => hE.at j e)
theorem MergerAt.new {bx : Nat} (h : MergerAt W w gm d g d1 d2 m 0 ts B []) (hE : ExtT ts ts' n x) (hn : n < 3) (hp : hasP ts x.f0 = false) (hN : NodeAt W ad x) (hbx : w2.heap[bx]? = some (.cells #[.pointer none, .pointer none, .pointer none] 79 (0, 0))) (hsz : w.heap.size ≤ bx)
  (hM2 : MapS Tryz.prog 9 w2 d (m + 1) (putS (byV ts B) x.f0.data.toList (.pointer (some ⟨bx, 0, none⟩)))) (hold : ∀ k, k < w.heap.size → k ≠ d → w2.heap[k]? = w.heap[k]?) (hB2 : Below W.heap.size W w2) :
  MergerAt W (w2.setCell ⟨bx, n, none⟩ (.pointer (some ad))) gm d g d1 d2 (m + 1) 0 ts' (fun k => if k = x.f0.data.toList then bx else B k) [] := by
 obtain ⟨f0, f1, f2, f3, f4, f5, f6⟩ := h.fence
 have hgm := blk_lt' h.box
 have hk : ∀ i, i ≠ bx → (w2.setCell ⟨bx, n, none⟩ (.pointer (some ad))).heap[i]? = w2.heap[i]? := fun i hi => Below.heap_setCell w2 ⟨bx, n, none⟩ _ i hi
 have hw : ∀ i, i < w.heap.size → i ≠ d → (w2.setCell ⟨bx, n, none⟩ (.pointer (some ad))).heap[i]? = w.heap[i]? := fun i hi hd => (hk i (by omega)).trans (hold i hi hd)
 have hne : ∀ p : ByteArray, p ≠ x.f0 → p.data.toList ≠ x.f0.data.toList := fun p hp e => hp (ba_data.1 e)
 refine ⟨h.fence, (hw gm hgm (by omega)).trans h.box, (hM2.setCell (a := ⟨bx, n, none⟩) (by show d ≠ bx; omega) _).ext (fun k => ?_), fun p hp' => ?_, fun p q h1 h2 he => ?_, h.pile.nil_step (hw g (by omega) (by omega)) (hw d1 (by omega) (by omega)) (hw d2 (by omega) (by omega)), hB2.setCell (by show W.heap.size ≤ bx; omega) _⟩
 ·unfold putS byV
  by_cases e : k = x.f0.data.toList
  ·subst e
   rw [if_pos rfl, if_pos]
   ·simp
   ·rw [hE.has hn]
    show (decide (x.f0 = x.f0) || _) = true
    simp
  ·have e2 : (⟨k.toArray⟩ : ByteArray) ≠ x.f0 := fun e2 => e (by rw [← e2])
   rw [if_neg e, hE.has hn, decide_eq_false e2, Bool.false_or]
   simp only [if_neg e]
 ·by_cases e : p = x.f0
  ·subst e
   rw [if_pos rfl]
   refine ⟨by omega, ?_⟩
   have h0 : ThreeAt W w2 bx ts x.f0 := by
    unfold hasP at hp
    simp only [Bool.or_eq_false_iff] at hp
    have z : ∀ j, (findF (ts j) x.f0).isSome = false → findF (ts j) x.f0 = none := fun j hj => by
     cases hf : findF (ts j) x.f0 with
     | none => rfl
     | some y => rw [hf] at hj; cases hj
    refine ⟨_, _, _, hbx, ?_, ?_, ?_⟩
    ·rw [z 0 hp.1]; rfl
    ·rw [z 1 hp.2.1]; rfl
    ·rw [z 2 hp.2.2]; rfl
   exact h0.set hE hn hN
  ·rw [hE.has hn, decide_eq_false e, Bool.false_or] at hp'
   rw [if_neg (hne p e)]
   obtain ⟨hl, h4⟩ := h.three p hp'
   refine ⟨hl, h4.keep (hw _ ?_ (by omega)) (fun j => hE.at j e)⟩
   obtain ⟨_, _, _, hb, _⟩ := h4
   exact blk_lt' hb
 ·rw [hE.has hn] at h1 h2
  have hlt : ∀ p, hasP ts p = true → B p.data.toList < w.heap.size := fun p hp => by
   obtain ⟨_, _, _, _, hb, _⟩ := h.three p hp
   exact blk_lt' hb
  by_cases e1 : p = x.f0
  ·by_cases e2 : q = x.f0
   ·rw [e1, e2]
   ·rw [decide_eq_false e2, Bool.false_or] at h2
    have := hlt q h2
    rw [if_pos (by rw [e1]), if_neg (hne q e2)] at he
    omega
  ·rw [decide_eq_false e1, Bool.false_or] at h1
   have := hlt p h1
   by_cases e2 : q = x.f0
   ·skip
    rw [if_neg (hne p e1), if_pos (by rw [e2])] at he
    omega
   ·rw [decide_eq_false e2, Bool.false_or] at h2
    rw [if_neg (hne p e1), if_neg (hne q e2)] at he
    exact h.inj p q h1 h2 he
end
def preT (ts : TS) (n k : Nat) : TS := fun j => if j < n then ts j else if j = n then (ts j).take k else []
theorem preT_ext {ts : TS} {n k : Nat} (hr : riseB (ts n) = true) (hk : k < (ts n).length) : ExtT (preT ts n k) (preT ts n (k + 1)) n (ts n)[k] := by
 refine ⟨fun q => ?_, fun j hj => ?_⟩
 ·have e1 : preT ts n (k + 1) n = (ts n).take k ++ [(ts n)[k]] := by
   unfold preT
   rw [if_neg (Nat.lt_irrefl n), if_pos rfl, List.take_succ_eq_append_getElem hk]
  have e2 : preT ts n k n = (ts n).take k := by
   unfold preT
   rw [if_neg (Nat.lt_irrefl n), if_pos rfl]
  rw [e1, e2]
  unfold findF
  rw [List.find?_append]
  by_cases e : q = (ts n)[k].f0
  ·rw [if_pos e]
   have : ((ts n).take k).find? (fun x => decide (x.f0.toList = q.toList)) = none := by
    rw [List.find?_eq_none]
    intro y hy he
    have he := ba_ext (of_decide_eq_true he)
    obtain ⟨i, hi, rfl⟩ := List.getElem_of_mem hy
    rw [List.getElem_take] at he
    rw [List.length_take] at hi
    have h2 := riseB_at hr i k (by omega) hk (by omega)
    rw [he, e, lt_irr] at h2
    cases h2
   rw [this, e]
   simp
  ·rw [if_neg e]
   have hd : decide ((ts n)[k].f0.toList = q.toList) = false := decide_eq_false (fun h => e (ba_ext h).symm)
   rw [List.find?_cons, hd, List.find?_nil, Option.or_none]
 ·unfold preT
  by_cases h : j < n
  ·rw [if_pos h, if_pos h]
  ·rw [if_neg h, if_neg h, if_neg hj, if_neg hj]
theorem preT_end (ts : TS) (n : Nat) : ∀ j, j < 3 → preT ts n (ts n).length j = preT ts (n + 1) 0 j := fun j _ => by
 unfold preT
 by_cases h : j < n
 ·rw [if_pos h, if_pos (by omega)]
 ·rw [if_neg h]
  by_cases h2 : j = n
  ·subst h2
   rw [if_pos rfl, if_pos (by omega), List.take_length]
  ·rw [if_neg h2, if_neg (by omega)]
   by_cases h3 : j = n + 1
   ·rw [if_pos h3, List.take_zero]
   ·rw [if_neg h3]
theorem zeroThree (w : World) : (zeroValue 75).run Tryz.prog w = .ok (.pointer none) w := by kernel_rfl
end Go.Proofs.YtbngbefchobfnaaGreatDoor

namespace Go.Proofs.YtbngbefchobfnaaGreatDoor
open Go.RowKit Go.Maps Go.Proofs.YtbngbefchobfnaaGreatDoor.Print Go.Proofs.YtbngbefchobfnaaGreatDoorW.PrintWords Go.Proofs.YtbngbefchobfnaaGreatDoorW.PrintLast Go.Proofs.YtbngbefchobfnaaGreatDoorW.PrintMore
set_option linter.unusedVariables false
set_option linter.unusedSimpArgs false
def RRel (W : World) (gm d g d1 d2 : Nat) (ts : TS) (n : Int) (w : World) : Prop :=
 0 ≤ n ∧ n ≤ 3 ∧ (∀ j : Nat, (j : Int) < n → goodTree (ts j) = true) ∧ ∃ m B, m ≤ n.toNat * 10000 ∧ MergerAt W w gm d g d1 d2 m 0 (preT ts n.toNat 0) B []
def VRd (W : World) (gm d g d1 d2 : Nat) (ts : TS) (n : Nat) (k : Int) (w : World) : Prop :=
 0 ≤ k ∧ k ≤ (ts n).length ∧ ∃ m B, m ≤ n * 10000 + k.toNat ∧ MergerAt W w gm d g d1 d2 m 0 (preT ts n k.toNat) B []
theorem rread {W w : World} {gm d g d1 d2 : Nat} {ts : TS} {n : Nat} {k : Int} (h : VRd W gm d g d1 d2 ts n k w) (hk : ¬ k < (ts n).length) (hz : (ts n).length ≤ 10000) (hg : ∀ j, j ≤ n → goodTree (ts j) = true) (hn : n < 3) {w1 : World} (hb : Below w.heap.size w w1) : RRel W gm d g d1 d2 ts ((n : Int) + 1) w1 := by
 obtain ⟨h0, h1, m, B, hm, hM⟩ := h
 have e1 : ((n : Int) + 1).toNat = n + 1 := by omega
 refine ⟨by omega, by omega, fun j hj => hg j (by omega), m, B, by rw [e1]; omega, ?_⟩
 have hke : k.toNat = (ts n).length := by omega
 rw [hke] at hM
 rw [e1]
 exact (hM.below hb).congr (preT_end ts n)
theorem node_at {w : World} {A : Option Addr} {n : Nat} {xs : List Node} (h : Kd.C k42 w A n xs) (i : Int) (h0 : 0 ≤ i) (h1 : i < n) (hx : i < xs.length) : ∃ ad, A = some ad ∧ NodeAt w (ad.add (i.toNat * 9)) (xs[i.toNat]'(by omega)) := by
 obtain ⟨ad, A8, c8, e, x0, x1, x2, x3, x4, x5, x6, x7, x8, hl, hC⟩ := at_T42 h i h0 h1
 have hr := rdN_at xs i h0 hx
 rw [hr] at x0 x1 x2 x3 x4 x5 x6 x7 x8 hl hC
 exact ⟨ad, e, A8, c8, x0, x1, x2, x3, x4, x5, x6, x7, x8, hl, hC⟩
set_option maxRecDepth 100000 in
set_option maxHeartbeats 8000000 in
theorem Read_calls (A : Nat → Option Addr) (C : Nat → Nat) (ts : TS) (W : World) (hT : Tabs W) (hC : ∀ j, j < 3 → Kd.C k42 W (A j) (ts j).length (ts j)) (hc : ∀ j, j < 3 → (ts j).length ≤ C j) (hz : ∀ j, j < 3 → TreeZ (ts j)) :
  Calls Tryz.prog 23 #[.agg #[.slice (A 0) (ts 0).length (C 0), .slice (A 1) (ts 1).length (C 1), .slice (A 2) (ts 2).length (C 2)]] W fun e W' =>
   (¬ (goodTree (ts 0) = true ∧ goodTree (ts 1) = true ∧ goodTree (ts 2) = true) ∧ e = .returned (.tuple #[.pointer none, .int .i64 1]) ∧ Below W.heap.size W W') ∨
   ((goodTree (ts 0) = true ∧ goodTree (ts 1) = true ∧ goodTree (ts 2) = true) ∧ ∃ gm d g d1 d2 m B, m ≤ 30000 ∧ e = .returned (.tuple #[.pointer (some ⟨gm, 0, none⟩), .int .i64 0]) ∧ MergerAt W W' gm d g d1 d2 m 0 ts B []) := by
 have hmm := @run_makeMap Tryz.prog
 have HT := Aside0.mk (fun (w1 : World) (hb : Below W.heap.size W w1) => Tabs.below hT hb)
 have HC := Aside0.mk hC
 have HCC := Aside0.mk hc
 have HZ := Aside0.mk hz
 have hl0 : ((ts 0).length : Int) ≤ 10000 := by have := (hz 0 (by omega)).1; omega
 have hl1 : ((ts 1).length : Int) ≤ 10000 := by have := (hz 1 (by omega)).1; omega
 have hl2 : ((ts 2).length : Int) ≤ 10000 := by have := (hz 2 (by omega)).1; omega
 clear hT hC hc hz
 generalize hpost : (fun (e : Ending) (W' : World) => (¬ (goodTree (ts 0) = true ∧ goodTree (ts 1) = true ∧ goodTree (ts 2) = true) ∧ e = .returned (.tuple #[.pointer none, .int .i64 1]) ∧ Below W.heap.size W W') ∨
   ((goodTree (ts 0) = true ∧ goodTree (ts 1) = true ∧ goodTree (ts 2) = true) ∧ ∃ gm d g d1 d2 m B, m ≤ 30000 ∧ e = .returned (.tuple #[.pointer (some ⟨gm, 0, none⟩), .int .i64 0]) ∧ MergerAt W W' gm d g d1 d2 m 0 ts B [])) = Q
 have hQ := Aside0.mk hpost
 clear hpost
 have hbA : Below W.heap.size W ((W.alloc (.cells #[.slice (A 0) (ts 0).length (C 0), .slice (A 1) (ts 1).length (C 1), .slice (A 2) (ts 2).length (C 2)] 53)).alloc (.map #[] 0)) := below_alloc (below_alloc (Below.refl _ _) _) _
 have HBA := Aside0.mk hbA
 have HX := Aside0.mk (blk_new W (.cells #[.slice (A 0) (ts 0).length (C 0), .slice (A 1) (ts 1).length (C 1), .slice (A 2) (ts 2).length (C 2)] 53))
 have HMM := Aside0.mk (MapS.made Tryz.prog 9 (W.alloc (.cells #[.slice (A 0) (ts 0).length (C 0), .slice (A 1) (ts 1).length (C 1), .slice (A 2) (ts 2).length (C 2)] 53)))
 clear hbA
 go_enter Tryz.func23, Tryz.ntmps23
 go_upto_region 2 with (first
  | (go_at_call 36; refine (New_calls (W.heap.size + 2) _ (by rw [World.size_alloc, World.size_alloc]; omega)).mono ?_; rintro e w1 ⟨g, d1, d2, rfl, hP1, hB1⟩; have HP1 := Aside0.mk hP1; have HB1 := Aside0.mk hB1; clear hP1 hB1)
  | fail)
 have f2 : ∃ w2 gm d, w2 = w1.alloc (.cells #[.map (some (W.heap.size + 1)), .pointer (some ⟨g, 0, none⟩)] 61) ∧ gm = w1.heap.size ∧ d = W.heap.size + 1 ∧ RRel W gm d g d1 d2 ts 0 w2 ∧ w2.heap[W.heap.size]? = some (.cells #[.slice (A 0) (ts 0).length (C 0), .slice (A 1) (ts 1).length (C 1), .slice (A 2) (ts 2).length (C 2)] 53 (0, 0)) := by
  have hb1 : Below W.heap.size W w1 := HBA.out.trans (HB1.out.mono (by rw [World.size_alloc, World.size_alloc]; omega))
  have hs1 := HB1.out.size
  rw [World.size_alloc, World.size_alloc] at hs1
  have hPf := HP1.out.fence
  have hP2 := HP1.out.below (below_alloc (Below.refl _ _) (.cells #[.map (some (W.heap.size + 1)), .pointer (some ⟨g, 0, none⟩)] 61))
  obtain ⟨V, hV, _⟩ := HP1.out.nodes
  have g1 := blk_lt' HP1.out.box
  have g2 := hV.lt
  have g3 := HP1.out.keys.lt
  refine ⟨_, _, _, rfl, rfl, rfl, ⟨by omega, by omega, fun j hj => absurd hj (by omega), 0, fun _ => 0, by omega, ⟨⟨by omega, by omega, by omega, by omega, by omega, by omega, by omega⟩, blk_new _ _, ?_, fun p hp => ?_, fun p q hp => ?_, hP2, below_alloc hb1 _⟩⟩, ?_⟩
  ·have h1 := HMM.out
   rw [World.size_alloc] at h1
   have h2 := h1.below (w' := w1) HB1.out
   refine (h2.alloc _).ext (fun k => ?_)
   unfold byV
   rw [if_neg]
   show ¬ (hasP (preT ts 0 0) ⟨k.toArray⟩ = true)
   unfold hasP preT
   simp [findF]
  ·exfalso
   unfold hasP preT at hp
   simp [findF] at hp
  ·exfalso
   unfold hasP preT at hp
   simp [findF] at hp
  ·refine (below_alloc (Below.refl w1.heap.size w1) _).block _ (by omega) |>.trans ?_
   refine (HB1.out.block _ (by rw [World.size_alloc, World.size_alloc]; omega)).trans ?_
   exact (below_alloc (Below.refl _ _) _).block _ (by rw [World.size_alloc]; omega) |>.trans HX.out
 obtain ⟨w2, gm, d, e2, egm, ed, hR2, hX2⟩ := f2
 rw [← e2, ← egm, ← ed]
 have HST := Aside0.mk hR2
 obtain ⟨k0, k1, k2⟩ := three_cells hX2
 clear e2 egm ed hR2 hX2 HP1 HB1 HX HMM HBA
 go_wp2
 clear k0 k1 k2
 go_loopw [15] (fun i wr => ∃ n : Int, i = .int .i64 n ∧ Aside0 (RRel W gm d g d1 d2 ts n wr)) (fun i _ => (3 - (intOf i)).toNat)
 case atStart => exact ⟨0, rfl, HST⟩
 case round =>
  clear HST
  obtain ⟨n, rfl, HR⟩ := hrel
  have h0 := HR.out.1
  have h1 := HR.out.2.1
  by_cases hlt : n < 3
  ·have hn012 : n = 0 ∨ n = 1 ∨ n = 2 := by omega
   clear h0 h1 hlt
   rcases hn012 with rfl | rfl | rfl
   ·have HG0 := Aside0.mk HR.out.2.2.1
    have hix := fun w : World => (show (Instr.index 53 (.agg #[.slice (A 0) (ts 0).length (C 0), .slice (A 1) (ts 1).length (C 1), .slice (A 2) (ts 2).length (C 2)]) (.int .i64 0)).run Tryz.prog w = .ok (.slice (A 0) (ts 0).length (C 0)) w from by rfl)
    obtain ⟨m0, B0, hm0, hM0⟩ := HR.out.2.2.2
    have HMB := Aside0.mk hM0
    have HM0 := Aside0.mk hm0
    clear hm0 hM0
    cases hg : goodTree (ts 0) with
    | false =>
     have HG := Aside0.mk hg
     clear hg
     go_wp2_with (first
      | (go_at_call 37; refine (Good_calls (A 0) (C 0) (ts 0) _ (HT.out _ HMB.out.under) (Kd.C_below (HC.out 0 (by omega)) HMB.out.under) (HCC.out 0 (by omega)) (HZ.out 0 (by omega)).2).mono ?_; rintro e w3 ⟨rfl, hb3⟩; rw [HG.out]; have HB3 := Aside0.mk (HMB.out.under.trans (hb3.mono HMB.out.under.size)); clear hb3)
      | fail)
     rw [← hQ.out]
     refine .inl ⟨fun h => ?_, rfl, HB3.out⟩
     have := HG.out
     simp [h.1, h.2.1, h.2.2] at this
    | true =>
     have HG := Aside0.mk hg
     clear hg
     go_upto_region 8 with (first
      | (go_at_call 37; refine (Good_calls (A 0) (C 0) (ts 0) _ (HT.out _ HMB.out.under) (Kd.C_below (HC.out 0 (by omega)) HMB.out.under) (HCC.out 0 (by omega)) (HZ.out 0 (by omega)).2).mono ?_; rintro e w3 ⟨rfl, hb3⟩; rw [HG.out]; have HMB3 := Aside0.mk (HMB.out.below hb3); clear hb3)
      | fail)
     have HS2 : Aside0 (VRd W gm d g d1 d2 ts 0 0 w3) := ⟨⟨by omega, by omega, m0, B0, by have := HM0.out; simpa using this, HMB3.out⟩⟩
     have HGS : Aside0 (∀ j, j ≤ 0 → goodTree (ts j) = true) := ⟨fun j hj => by
      rcases Nat.lt_or_ge j 0 with h | h
      ·exact HG0.out j (by omega)
      ·obtain rfl : j = 0 := by omega
       exact HG.out⟩
     obtain ⟨wo, rfl⟩ : ∃ wo : World, wo = wr := ⟨_, rfl⟩
     clear HMB HMB3 HM0 HG0 HR
     go_loopw [24] (fun i wr => ∃ k : Int, i = .int .i64 k ∧ Aside0 (VRd W gm d g d1 d2 ts 0 k wr)) (fun i _ => ((ts 0).length - (intOf i)).toNat)
     case atStart => exact ⟨0, rfl, HS2⟩
     case round =>
      clear HS2
      obtain ⟨k, rfl, HV⟩ := hrel
      have h0 := HV.out.1
      have h1 := HV.out.2.1
      obtain ⟨m, B, hm, hM⟩ := HV.out.2.2
      have HMB := Aside0.mk hM
      have HMM := Aside0.mk hm
      clear hm hM
      by_cases hlt : k < ((ts 0).length : Int)
      ·have c1b : decide (k < ((ts 0).length : Int)) = true := decide_eq_true hlt
       have hkl : k.toNat < (ts 0).length := by omega
       obtain ⟨ad, hA, hN⟩ := node_at (HC.out 0 (by omega)) k h0 hlt hlt
       have hext := preT_ext (k := k.toNat) (good_parts HG.out).1 hkl
       have hsz := ((HZ.out 0 (by omega)).node (List.getElem_mem hkl)).2.1
       generalize (ts 0)[k.toNat] = x at hN hext hsz
       have HE := Aside0.mk hext
       have HN := Aside0.mk hN
       have HS0 : Aside0 (x.f0.size ≤ maxLen) := ⟨by unfold maxLen; omega⟩
       have HMX : Aside0 (m < maxLen) := ⟨by have := HMM.out; have := (HZ.out 0 (by omega)).1; unfold maxLen; omega⟩
       obtain ⟨_, _, r1, _⟩ := hN.below HMB.out.under
       obtain ⟨r0, _⟩ := boxed2 HMB.out.box
       have hlook := fun nd : Nat => (HMB.out.map.drewN nd).look_ok Tryz.underlying9 Tryz.underlying58 (zeroThree _) HS0.out
       simp only [byV_at] at hlook
       rw [hA]
       cases hh : hasP (preT ts 0 k.toNat) x.f0 with
       | true =>
        simp only [hh, if_pos, Option.getD_some, Option.isSome_some] at hlook
        have HH := Aside0.mk hh
        clear hext hN hsz hA hh
        go_upto_region 10 with (fail)
        go_quiet (fail)
        have hM5 := HMB.out.below (pw_below_drewN (Below.refl _ _) nq)
        generalize World.drewN _ nq = w5 at hM5 ⊢
        have HM5 := Aside0.mk hM5
        clear hM5 hlook r0 r1
        go_upto_region 14 with (fail)
        refine start_ (n := 8) (S := fun _ => True) (ds := [7]) #[false, false, false, false, false, false, false, false] (by kernel_rfl) rfl rfl trivial (fun hHeld => ?_)
        have hM7 := HM5.out.below (below_drew (Below.refl _ _))
        generalize World.drew _ = w7 at hM7 ⊢
        obtain ⟨_, v0, v1, v2, hb7, _⟩ := hM7.three _ HH.out
        obtain ⟨y0, y1, y2⟩ := three_cells hb7
        have yf := blk_frozen hb7 0
        have HM7 := Aside0.mk hM7
        clear hM7 hb7
        refine pure_ (i := 0) (N := some 54) (v := ?_) (a' := ?_) #[true, false, false, false, false, false, false, false] rfl rfl (by kernel_rfl) (fun _ _ _ h => h) (Or.inl ⟨by rfl, ?_⟩) ?_ ?_
        rotate_left
        ·intro w'
         go_simp
         with_reducible rfl
        rotate_left
        ·simp only [Act.put, List.setIfInBounds_toArray, List.set_cons_zero, List.set_cons_succ, i64_w, i32_w]
         rfl
        refine pure_ (i := 1) (N := some 55) (v := ?_) (a' := ?_) #[true, true, false, false, false, false, false, false] rfl rfl (by kernel_rfl) (fun _ _ _ h => h) (Or.inl ⟨by rfl, ?_⟩) ?_ ?_
        rotate_left
        ·intro w'
         go_simp
         with_reducible rfl
        rotate_left
        ·simp only [Act.put, List.setIfInBounds_toArray, List.set_cons_zero, List.set_cons_succ, i64_w, i32_w]
         rfl
        refine pure_ (i := 2) (N := some 56) (v := ?_) (a' := ?_) #[true, true, true, false, false, false, false, false] rfl rfl (by kernel_rfl) (fun _ _ _ h => h) (Or.inl ⟨by rfl, ?_⟩) ?_ ?_
        rotate_left
        ·intro w'
         go_simp
         with_reducible rfl
        rotate_left
        ·simp only [Act.put, List.setIfInBounds_toArray, List.set_cons_zero, List.set_cons_succ, i64_w, i32_w]
         rfl
        refine pure_ (i := 3) (N := some 57) (v := ?_) (a' := ?_) #[true, true, true, true, false, false, false, false] rfl rfl (by kernel_rfl) (fun _ _ _ h => h) (Or.inl ⟨by rfl, ?_⟩) ?_ ?_
        rotate_left
        ·intro w'
         go_simp
         with_reducible rfl
        rotate_left
        ·simp only [Act.put, List.setIfInBounds_toArray, List.set_cons_zero, List.set_cons_succ, i64_w, i32_w]
         rfl
        refine pure_ (i := 4) (N := some 58) (v := ?_) (a' := ?_) #[true, true, true, true, true, false, false, false] rfl rfl (by kernel_rfl) (fun _ _ _ h => h) (Or.inl ⟨by rfl, ?_⟩) ?_ ?_
        rotate_left
        ·intro w'
         go_simp
         with_reducible rfl
        rotate_left
        ·simp only [Act.put, List.setIfInBounds_toArray, List.set_cons_zero, List.set_cons_succ, i64_w, i32_w]
         rfl
        refine pure_ (i := 5) (N := some 59) (v := ?_) (a' := ?_) #[true, true, true, true, true, true, false, false] rfl rfl (by kernel_rfl) (fun _ _ _ h => h) (Or.inl ⟨by rfl, ?_⟩) ?_ ?_
        rotate_left
        ·intro w'
         go_simp
         with_reducible rfl
        rotate_left
        ·simp only [Act.put, List.setIfInBounds_toArray, List.set_cons_zero, List.set_cons_succ, i64_w, i32_w]
         rfl
        refine pure_ (i := 6) (N := some 60) (v := ?_) (a' := ?_) #[true, true, true, true, true, true, true, false] rfl rfl (by kernel_rfl) (fun _ _ _ h => h) (Or.inl ⟨by rfl, ?_⟩) ?_ ?_
        rotate_left
        ·intro w'
         go_simp
         with_reducible rfl
        rotate_left
        ·simp only [Act.put, List.setIfInBounds_toArray, List.set_cons_zero, List.set_cons_succ, i64_w, i32_w]
         rfl
        refine last_ (i := 7) (N := none) #[true, true, true, true, true, true, true, true] rfl rfl (by kernel_rfl) (by decide) (fun K hK => ?_)
        refine skip_ (w1 := w7.setCell ⟨B x.f0.data.toList, 0, none⟩ (.pointer (some (ad.add (k.toNat * 9))))) (by rfl) rfl ?_ ?_
        ·first | (go_simp; done) | (go_simp; rfl)
        refine hK.out _ _ ?_
        clear hK K
        refine done_ (by kernel_rfl) ?_
        go_wp2
        have hfin : VRd W gm d g d1 d2 ts 0 (k + 1) (w7.setCell ⟨B x.f0.data.toList, 0, none⟩ (.pointer (some (ad.add (k.toNat * 9))))) := by
         have e1 : (k + 1).toNat = k.toNat + 1 := by omega
         refine ⟨by omega, by omega, m, B, by have := HMM.out; omega, ?_⟩
         rw [e1]
         exact HM7.out.set HE.out (by omega) HH.out HN.out
        have HFIN := Aside0.mk hfin
        clear hfin
        go_roundw
        case rel => exact ⟨k + 1, by go_num, HFIN⟩
        case measure => simp [intOf]; omega
       | false =>
        rw [hh] at hlook
        simp only [if_neg (show ¬ (false = true) by decide), Option.getD_none, Option.isSome_none] at hlook
        have HH := Aside0.mk hh
        clear hext hN hsz hA hh
        go_upto_region 10 with (fail)
        go_quiet (fail)
        have hb5 : Below wr.heap.size wr (wr.drewN nq) := pw_below_drewN (Below.refl _ _) nq
        generalize World.drewN _ nq = w5 at hb5 ⊢
        have HB5 := Aside0.mk hb5
        clear hb5 hlook r0 r1
        go_upto_region 13 with (fail)
        have f6 : ∃ w6 bx, w6 = w5.alloc (.cells #[.pointer none, .pointer none, .pointer none] 79) ∧ bx = w5.heap.size ∧ w6.heap[bx]? = some (.cells #[.pointer none, .pointer none, .pointer none] 79 (0, 0)) ∧ wr.heap.size ≤ bx ∧ Below wr.heap.size wr w6 := ⟨_, _, rfl, rfl, blk_new _ _, HB5.out.size, below_alloc HB5.out _⟩
        obtain ⟨w6, bx, e6, ebx, hb6, hsz6, hB6⟩ := f6
        rw [← e6, ← ebx]
        have HX6 := Aside0.mk hb6
        have HS6 := Aside0.mk hsz6
        have HB6 := Aside0.mk hB6
        have hM6 := HMB.out.below hB6
        have HMAP := Aside0.mk (hM6.map.drew)
        obtain ⟨r0, _⟩ := boxed2 hM6.box
        obtain ⟨_, _, r1, _⟩ := HN.out.below hM6.under
        clear e6 ebx hb6 hsz6 hB6 hM6 HB5
        refine start_ (n := 11) (S := fun w' => w'.cell? ⟨gm, 0, none⟩ = some (.map (some d)) ∧ w'.cell? (ad.add (k.toNat * 9)) = some (.string x.f0)) (ds := [10]) #[false, false, false, false, false, false, false, false, false, false, false] (by kernel_rfl) rfl rfl ⟨r0, r1⟩ (fun hHeld => ?_)
        refine pure_ (i := 0) (N := some 44) (v := ?_) (a' := ?_) #[true, false, false, false, false, false, false, false, false, false, false] rfl rfl (by kernel_rfl) (fun _ _ _ h => h) (Or.inl ⟨by rfl, ?_⟩) ?_ ?_
        rotate_left
        ·intro w'
         go_simp
         with_reducible rfl
        rotate_left
        ·simp only [Act.put, List.setIfInBounds_toArray, List.set_cons_zero, List.set_cons_succ, i64_w, i32_w]
         rfl
        refine pure_ (i := 1) (N := some 45) (v := ?_) (a' := ?_) #[true, true, false, false, false, false, false, false, false, false, false] rfl rfl (by kernel_rfl) (fun _ _ _ h => h) (Or.inl ⟨by rfl, ?_⟩) ?_ ?_
        rotate_left
        ·intro w'
         go_simp
         with_reducible rfl
        rotate_left
        ·simp only [Act.put, List.setIfInBounds_toArray, List.set_cons_zero, List.set_cons_succ, i64_w, i32_w]
         rfl
        refine pure_ (i := 2) (N := some 46) (v := ?_) (a' := ?_) #[true, true, true, false, false, false, false, false, false, false, false] rfl rfl (by kernel_rfl) (fun _ _ _ h => h) (Or.inl ⟨by rfl, ?_⟩) ?_ ?_
        rotate_left
        ·intro w'
         go_simp
         with_reducible rfl
        rotate_left
        ·simp only [Act.put, List.setIfInBounds_toArray, List.set_cons_zero, List.set_cons_succ, i64_w, i32_w]
         rfl
        refine take_ (i := 3) (N := some 47) (v := ?_) (a' := ?_) #[true, true, true, true, false, false, false, false, false, false, false] rfl rfl (by kernel_rfl) (fun _ _ _ h => h) (Or.inl ⟨by rfl, ?_⟩) hHeld ?_ ?_
        rotate_left
        ·rintro w' ⟨s0, s1⟩
         go_simp
         with_reducible rfl
        rotate_left
        ·simp only [Act.put, List.setIfInBounds_toArray, List.set_cons_zero, List.set_cons_succ, i64_w, i32_w]
         rfl
        refine pure_ (i := 4) (N := some 48) (v := ?_) (a' := ?_) #[true, true, true, true, true, false, false, false, false, false, false] rfl rfl (by kernel_rfl) (fun _ _ _ h => h) (Or.inl ⟨by rfl, ?_⟩) ?_ ?_
        rotate_left
        ·intro w'
         go_simp
         with_reducible rfl
        rotate_left
        ·simp only [Act.put, List.setIfInBounds_toArray, List.set_cons_zero, List.set_cons_succ, i64_w, i32_w]
         rfl
        refine pure_ (i := 5) (N := some 49) (v := ?_) (a' := ?_) #[true, true, true, true, true, true, false, false, false, false, false] rfl rfl (by kernel_rfl) (fun _ _ _ h => h) (Or.inl ⟨by rfl, ?_⟩) ?_ ?_
        rotate_left
        ·intro w'
         go_simp
         with_reducible rfl
        rotate_left
        ·simp only [Act.put, List.setIfInBounds_toArray, List.set_cons_zero, List.set_cons_succ, i64_w, i32_w]
         rfl
        refine pure_ (i := 6) (N := some 50) (v := ?_) (a' := ?_) #[true, true, true, true, true, true, true, false, false, false, false] rfl rfl (by kernel_rfl) (fun _ _ _ h => h) (Or.inl ⟨by rfl, ?_⟩) ?_ ?_
        rotate_left
        ·intro w'
         go_simp
         with_reducible rfl
        rotate_left
        ·simp only [Act.put, List.setIfInBounds_toArray, List.set_cons_zero, List.set_cons_succ, i64_w, i32_w]
         rfl
        refine pure_ (i := 7) (N := some 51) (v := ?_) (a' := ?_) #[true, true, true, true, true, true, true, true, false, false, false] rfl rfl (by kernel_rfl) (fun _ _ _ h => h) (Or.inl ⟨by rfl, ?_⟩) ?_ ?_
        rotate_left
        ·intro w'
         go_simp
         with_reducible rfl
        rotate_left
        ·simp only [Act.put, List.setIfInBounds_toArray, List.set_cons_zero, List.set_cons_succ, i64_w, i32_w]
         rfl
        refine take_ (i := 8) (N := some 52) (v := ?_) (a' := ?_) #[true, true, true, true, true, true, true, true, true, false, false] rfl rfl (by kernel_rfl) (fun _ _ _ h => h) (Or.inl ⟨by rfl, ?_⟩) hHeld ?_ ?_
        rotate_left
        ·rintro w' ⟨s0, s1⟩
         go_simp
         with_reducible rfl
        rotate_left
        ·simp only [Act.put, List.setIfInBounds_toArray, List.set_cons_zero, List.set_cons_succ, i64_w, i32_w]
         rfl
        refine pure_ (i := 9) (N := some 53) (v := ?_) (a' := ?_) #[true, true, true, true, true, true, true, true, true, true, false] rfl rfl (by kernel_rfl) (fun _ _ _ h => h) (Or.inl ⟨by rfl, ?_⟩) ?_ ?_
        rotate_left
        ·intro w'
         go_simp
         with_reducible rfl
        rotate_left
        ·simp only [Act.put, List.setIfInBounds_toArray, List.set_cons_zero, List.set_cons_succ, i64_w, i32_w]
         rfl
        refine last_ (i := 10) (N := none) #[true, true, true, true, true, true, true, true, true, true, true] rfl rfl (by kernel_rfl) (by decide) (fun K hK => ?_)
        refine put_step (f := byV (preT ts 0 k.toNat) B) (b := d) (n := m) (s := x.f0) HMAP.out (by rfl) rfl (.tmp 47) (.tmp 52) (.tmp 53) rfl Tryz.underlying9 Tryz.underlying58 HMX.out rfl rfl HS0.out rfl ?_
        intro w8 hM6 hturn6
        refine hK.out _ _ ?_
        clear hK K
        have HM6 := Aside0.mk hM6
        have HT6 := Aside0.mk hturn6
        clear hM6 hturn6 hHeld
        refine done_ (by kernel_rfl) ?_
        go_upto_region 14 with (fail)
        have hT8 := HT6.out
        have hb8 := (turned_box hT8 (show w6.drew.heap[bx]? = _ from HX6.out)).1
        have hold8 : ∀ i, i < wr.heap.size → i ≠ d → w8.heap[i]? = wr.heap[i]? := fun i hi hd => ((turned_grown hT8).block i (show i < w6.drew.heap.size from Nat.lt_of_lt_of_le hi HB6.out.size) (fun e => hd (by injection e))).trans (HB6.out.block i hi)
        have hB8 : Below W.heap.size W w8 := (HMB.out.under.trans ((HB6.out.drew).mono HMB.out.under.size)).trans (turned_below hT8 HMB.out.fence.1 (show W.heap.size ≤ w6.drew.heap.size from Nat.le_trans HMB.out.under.size HB6.out.size))
        have HX8 := Aside0.mk hb8
        have HO8 := Aside0.mk hold8
        have HB8 := Aside0.mk hB8
        clear hT8 hb8 hold8 hB8 r0 r1
        refine start_ (n := 8) (S := fun _ => True) (ds := [7]) #[false, false, false, false, false, false, false, false] (by kernel_rfl) rfl rfl trivial (fun hHeld => ?_)
        have hx7 : w8.drew.heap[bx]? = _ := HX8.out
        have hm7 := HM6.out.drew
        have ho7 : ∀ i, i < wr.heap.size → i ≠ d → w8.drew.heap[i]? = wr.heap[i]? := HO8.out
        have hb7 := HB8.out.drew
        generalize World.drew _ = w7 at hx7 hm7 ho7 hb7 ⊢
        obtain ⟨y0, y1, y2⟩ := three_cells hx7
        have yf := blk_frozen hx7 0
        have HX7 := Aside0.mk hx7
        have HM7 := Aside0.mk hm7
        have HO7 := Aside0.mk ho7
        have HB7 := Aside0.mk hb7
        clear hx7 hm7 ho7 hb7
        refine pure_ (i := 0) (N := some 54) (v := ?_) (a' := ?_) #[true, false, false, false, false, false, false, false] rfl rfl (by kernel_rfl) (fun _ _ _ h => h) (Or.inl ⟨by rfl, ?_⟩) ?_ ?_
        rotate_left
        ·intro w'
         go_simp
         with_reducible rfl
        rotate_left
        ·simp only [Act.put, List.setIfInBounds_toArray, List.set_cons_zero, List.set_cons_succ, i64_w, i32_w]
         rfl
        refine pure_ (i := 1) (N := some 55) (v := ?_) (a' := ?_) #[true, true, false, false, false, false, false, false] rfl rfl (by kernel_rfl) (fun _ _ _ h => h) (Or.inl ⟨by rfl, ?_⟩) ?_ ?_
        rotate_left
        ·intro w'
         go_simp
         with_reducible rfl
        rotate_left
        ·simp only [Act.put, List.setIfInBounds_toArray, List.set_cons_zero, List.set_cons_succ, i64_w, i32_w]
         rfl
        refine pure_ (i := 2) (N := some 56) (v := ?_) (a' := ?_) #[true, true, true, false, false, false, false, false] rfl rfl (by kernel_rfl) (fun _ _ _ h => h) (Or.inl ⟨by rfl, ?_⟩) ?_ ?_
        rotate_left
        ·intro w'
         go_simp
         with_reducible rfl
        rotate_left
        ·simp only [Act.put, List.setIfInBounds_toArray, List.set_cons_zero, List.set_cons_succ, i64_w, i32_w]
         rfl
        refine pure_ (i := 3) (N := some 57) (v := ?_) (a' := ?_) #[true, true, true, true, false, false, false, false] rfl rfl (by kernel_rfl) (fun _ _ _ h => h) (Or.inl ⟨by rfl, ?_⟩) ?_ ?_
        rotate_left
        ·intro w'
         go_simp
         with_reducible rfl
        rotate_left
        ·simp only [Act.put, List.setIfInBounds_toArray, List.set_cons_zero, List.set_cons_succ, i64_w, i32_w]
         rfl
        refine pure_ (i := 4) (N := some 58) (v := ?_) (a' := ?_) #[true, true, true, true, true, false, false, false] rfl rfl (by kernel_rfl) (fun _ _ _ h => h) (Or.inl ⟨by rfl, ?_⟩) ?_ ?_
        rotate_left
        ·intro w'
         go_simp
         with_reducible rfl
        rotate_left
        ·simp only [Act.put, List.setIfInBounds_toArray, List.set_cons_zero, List.set_cons_succ, i64_w, i32_w]
         rfl
        refine pure_ (i := 5) (N := some 59) (v := ?_) (a' := ?_) #[true, true, true, true, true, true, false, false] rfl rfl (by kernel_rfl) (fun _ _ _ h => h) (Or.inl ⟨by rfl, ?_⟩) ?_ ?_
        rotate_left
        ·intro w'
         go_simp
         with_reducible rfl
        rotate_left
        ·simp only [Act.put, List.setIfInBounds_toArray, List.set_cons_zero, List.set_cons_succ, i64_w, i32_w]
         rfl
        refine pure_ (i := 6) (N := some 60) (v := ?_) (a' := ?_) #[true, true, true, true, true, true, true, false] rfl rfl (by kernel_rfl) (fun _ _ _ h => h) (Or.inl ⟨by rfl, ?_⟩) ?_ ?_
        rotate_left
        ·intro w'
         go_simp
         with_reducible rfl
        rotate_left
        ·simp only [Act.put, List.setIfInBounds_toArray, List.set_cons_zero, List.set_cons_succ, i64_w, i32_w]
         rfl
        refine last_ (i := 7) (N := none) #[true, true, true, true, true, true, true, true] rfl rfl (by kernel_rfl) (by decide) (fun K hK => ?_)
        refine skip_ (w1 := w7.setCell ⟨bx, 0, none⟩ (.pointer (some (ad.add (k.toNat * 9))))) (by rfl) rfl ?_ ?_
        ·first | (go_simp; done) | (go_simp; rfl)
        refine hK.out _ _ ?_
        clear hK K
        refine done_ (by kernel_rfl) ?_
        go_wp2
        have hfin : VRd W gm d g d1 d2 ts 0 (k + 1) (w7.setCell ⟨bx, 0, none⟩ (.pointer (some (ad.add (k.toNat * 9))))) := by
         have e1 : (k + 1).toNat = k.toNat + 1 := by omega
         refine ⟨by omega, by omega, m + 1, fun k_ => if k_ = x.f0.data.toList then bx else B k_, by have := HMM.out; omega, ?_⟩
         rw [e1]
         exact MergerAt.new HMB.out HE.out (by omega) HH.out HN.out HX7.out HS6.out HM7.out HO7.out HB7.out
        have HFIN := Aside0.mk hfin
        clear hfin
        go_roundw
        case rel => exact ⟨k + 1, by go_num, HFIN⟩
        case measure => simp [intOf]; omega
      ·have c1b : decide (k < ((ts 0).length : Int)) = false := decide_eq_false hlt
       have HFIN := Aside0.mk (rread HV.out hlt (HZ.out 0 (by omega)).1 HGS.out (by omega) (Below.refl _ _))
       clear HV HMB HMM
       go_wp2
       go_roundw
       case rel => exact ⟨0 + 1, by go_num, HFIN⟩
       case measure => simp [intOf]
   ·have HG0 := Aside0.mk HR.out.2.2.1
    have hix := fun w : World => (show (Instr.index 53 (.agg #[.slice (A 0) (ts 0).length (C 0), .slice (A 1) (ts 1).length (C 1), .slice (A 2) (ts 2).length (C 2)]) (.int .i64 1)).run Tryz.prog w = .ok (.slice (A 1) (ts 1).length (C 1)) w from by rfl)
    obtain ⟨m0, B0, hm0, hM0⟩ := HR.out.2.2.2
    have HMB := Aside0.mk hM0
    have HM0 := Aside0.mk hm0
    clear hm0 hM0
    cases hg : goodTree (ts 1) with
    | false =>
     have HG := Aside0.mk hg
     clear hg
     go_wp2_with (first
      | (go_at_call 37; refine (Good_calls (A 1) (C 1) (ts 1) _ (HT.out _ HMB.out.under) (Kd.C_below (HC.out 1 (by omega)) HMB.out.under) (HCC.out 1 (by omega)) (HZ.out 1 (by omega)).2).mono ?_; rintro e w3 ⟨rfl, hb3⟩; rw [HG.out]; have HB3 := Aside0.mk (HMB.out.under.trans (hb3.mono HMB.out.under.size)); clear hb3)
      | fail)
     rw [← hQ.out]
     refine .inl ⟨fun h => ?_, rfl, HB3.out⟩
     have := HG.out
     simp [h.1, h.2.1, h.2.2] at this
    | true =>
     have HG := Aside0.mk hg
     clear hg
     go_upto_region 8 with (first
      | (go_at_call 37; refine (Good_calls (A 1) (C 1) (ts 1) _ (HT.out _ HMB.out.under) (Kd.C_below (HC.out 1 (by omega)) HMB.out.under) (HCC.out 1 (by omega)) (HZ.out 1 (by omega)).2).mono ?_; rintro e w3 ⟨rfl, hb3⟩; rw [HG.out]; have HMB3 := Aside0.mk (HMB.out.below hb3); clear hb3)
      | fail)
     have HS2 : Aside0 (VRd W gm d g d1 d2 ts 1 0 w3) := ⟨⟨by omega, by omega, m0, B0, by have := HM0.out; simpa using this, HMB3.out⟩⟩
     have HGS : Aside0 (∀ j, j ≤ 1 → goodTree (ts j) = true) := ⟨fun j hj => by
      rcases Nat.lt_or_ge j 1 with h | h
      ·exact HG0.out j (by omega)
      ·obtain rfl : j = 1 := by omega
       exact HG.out⟩
     obtain ⟨wo, rfl⟩ : ∃ wo : World, wo = wr := ⟨_, rfl⟩
     clear HMB HMB3 HM0 HG0 HR
     go_loopw [24] (fun i wr => ∃ k : Int, i = .int .i64 k ∧ Aside0 (VRd W gm d g d1 d2 ts 1 k wr)) (fun i _ => ((ts 1).length - (intOf i)).toNat)
     case atStart => exact ⟨0, rfl, HS2⟩
     case round =>
      clear HS2
      obtain ⟨k, rfl, HV⟩ := hrel
      have h0 := HV.out.1
      have h1 := HV.out.2.1
      obtain ⟨m, B, hm, hM⟩ := HV.out.2.2
      have HMB := Aside0.mk hM
      have HMM := Aside0.mk hm
      clear hm hM
      by_cases hlt : k < ((ts 1).length : Int)
      ·have c1b : decide (k < ((ts 1).length : Int)) = true := decide_eq_true hlt
       have hkl : k.toNat < (ts 1).length := by omega
       obtain ⟨ad, hA, hN⟩ := node_at (HC.out 1 (by omega)) k h0 hlt hlt
       have hext := preT_ext (k := k.toNat) (good_parts HG.out).1 hkl
       have hsz := ((HZ.out 1 (by omega)).node (List.getElem_mem hkl)).2.1
       generalize (ts 1)[k.toNat] = x at hN hext hsz
       have HE := Aside0.mk hext
       have HN := Aside0.mk hN
       have HS0 : Aside0 (x.f0.size ≤ maxLen) := ⟨by unfold maxLen; omega⟩
       have HMX : Aside0 (m < maxLen) := ⟨by have := HMM.out; have := (HZ.out 1 (by omega)).1; unfold maxLen; omega⟩
       obtain ⟨_, _, r1, _⟩ := hN.below HMB.out.under
       obtain ⟨r0, _⟩ := boxed2 HMB.out.box
       have hlook := fun nd : Nat => (HMB.out.map.drewN nd).look_ok Tryz.underlying9 Tryz.underlying58 (zeroThree _) HS0.out
       simp only [byV_at] at hlook
       rw [hA]
       cases hh : hasP (preT ts 1 k.toNat) x.f0 with
       | true =>
        simp only [hh, if_pos, Option.getD_some, Option.isSome_some] at hlook
        have HH := Aside0.mk hh
        clear hext hN hsz hA hh
        go_upto_region 10 with (fail)
        go_quiet (fail)
        have hM5 := HMB.out.below (pw_below_drewN (Below.refl _ _) nq)
        generalize World.drewN _ nq = w5 at hM5 ⊢
        have HM5 := Aside0.mk hM5
        clear hM5 hlook r0 r1
        go_upto_region 14 with (fail)
        refine start_ (n := 8) (S := fun _ => True) (ds := [7]) #[false, false, false, false, false, false, false, false] (by kernel_rfl) rfl rfl trivial (fun hHeld => ?_)
        have hM7 := HM5.out.below (below_drew (Below.refl _ _))
        generalize World.drew _ = w7 at hM7 ⊢
        obtain ⟨_, v0, v1, v2, hb7, _⟩ := hM7.three _ HH.out
        obtain ⟨y0, y1, y2⟩ := three_cells hb7
        have yf := blk_frozen hb7 1
        have HM7 := Aside0.mk hM7
        clear hM7 hb7
        refine pure_ (i := 0) (N := some 54) (v := ?_) (a' := ?_) #[true, false, false, false, false, false, false, false] rfl rfl (by kernel_rfl) (fun _ _ _ h => h) (Or.inl ⟨by rfl, ?_⟩) ?_ ?_
        rotate_left
        ·intro w'
         go_simp
         with_reducible rfl
        rotate_left
        ·simp only [Act.put, List.setIfInBounds_toArray, List.set_cons_zero, List.set_cons_succ, i64_w, i32_w]
         rfl
        refine pure_ (i := 1) (N := some 55) (v := ?_) (a' := ?_) #[true, true, false, false, false, false, false, false] rfl rfl (by kernel_rfl) (fun _ _ _ h => h) (Or.inl ⟨by rfl, ?_⟩) ?_ ?_
        rotate_left
        ·intro w'
         go_simp
         with_reducible rfl
        rotate_left
        ·simp only [Act.put, List.setIfInBounds_toArray, List.set_cons_zero, List.set_cons_succ, i64_w, i32_w]
         rfl
        refine pure_ (i := 2) (N := some 56) (v := ?_) (a' := ?_) #[true, true, true, false, false, false, false, false] rfl rfl (by kernel_rfl) (fun _ _ _ h => h) (Or.inl ⟨by rfl, ?_⟩) ?_ ?_
        rotate_left
        ·intro w'
         go_simp
         with_reducible rfl
        rotate_left
        ·simp only [Act.put, List.setIfInBounds_toArray, List.set_cons_zero, List.set_cons_succ, i64_w, i32_w]
         rfl
        refine pure_ (i := 3) (N := some 57) (v := ?_) (a' := ?_) #[true, true, true, true, false, false, false, false] rfl rfl (by kernel_rfl) (fun _ _ _ h => h) (Or.inl ⟨by rfl, ?_⟩) ?_ ?_
        rotate_left
        ·intro w'
         go_simp
         with_reducible rfl
        rotate_left
        ·simp only [Act.put, List.setIfInBounds_toArray, List.set_cons_zero, List.set_cons_succ, i64_w, i32_w]
         rfl
        refine pure_ (i := 4) (N := some 58) (v := ?_) (a' := ?_) #[true, true, true, true, true, false, false, false] rfl rfl (by kernel_rfl) (fun _ _ _ h => h) (Or.inl ⟨by rfl, ?_⟩) ?_ ?_
        rotate_left
        ·intro w'
         go_simp
         with_reducible rfl
        rotate_left
        ·simp only [Act.put, List.setIfInBounds_toArray, List.set_cons_zero, List.set_cons_succ, i64_w, i32_w]
         rfl
        refine pure_ (i := 5) (N := some 59) (v := ?_) (a' := ?_) #[true, true, true, true, true, true, false, false] rfl rfl (by kernel_rfl) (fun _ _ _ h => h) (Or.inl ⟨by rfl, ?_⟩) ?_ ?_
        rotate_left
        ·intro w'
         go_simp
         with_reducible rfl
        rotate_left
        ·simp only [Act.put, List.setIfInBounds_toArray, List.set_cons_zero, List.set_cons_succ, i64_w, i32_w]
         rfl
        refine pure_ (i := 6) (N := some 60) (v := ?_) (a' := ?_) #[true, true, true, true, true, true, true, false] rfl rfl (by kernel_rfl) (fun _ _ _ h => h) (Or.inl ⟨by rfl, ?_⟩) ?_ ?_
        rotate_left
        ·intro w'
         go_simp
         with_reducible rfl
        rotate_left
        ·simp only [Act.put, List.setIfInBounds_toArray, List.set_cons_zero, List.set_cons_succ, i64_w, i32_w]
         rfl
        refine last_ (i := 7) (N := none) #[true, true, true, true, true, true, true, true] rfl rfl (by kernel_rfl) (by decide) (fun K hK => ?_)
        refine skip_ (w1 := w7.setCell ⟨B x.f0.data.toList, 1, none⟩ (.pointer (some (ad.add (k.toNat * 9))))) (by rfl) rfl ?_ ?_
        ·first | (go_simp; done) | (go_simp; rfl)
        refine hK.out _ _ ?_
        clear hK K
        refine done_ (by kernel_rfl) ?_
        go_wp2
        have hfin : VRd W gm d g d1 d2 ts 1 (k + 1) (w7.setCell ⟨B x.f0.data.toList, 1, none⟩ (.pointer (some (ad.add (k.toNat * 9))))) := by
         have e1 : (k + 1).toNat = k.toNat + 1 := by omega
         refine ⟨by omega, by omega, m, B, by have := HMM.out; omega, ?_⟩
         rw [e1]
         exact HM7.out.set HE.out (by omega) HH.out HN.out
        have HFIN := Aside0.mk hfin
        clear hfin
        go_roundw
        case rel => exact ⟨k + 1, by go_num, HFIN⟩
        case measure => simp [intOf]; omega
       | false =>
        rw [hh] at hlook
        simp only [if_neg (show ¬ (false = true) by decide), Option.getD_none, Option.isSome_none] at hlook
        have HH := Aside0.mk hh
        clear hext hN hsz hA hh
        go_upto_region 10 with (fail)
        go_quiet (fail)
        have hb5 : Below wr.heap.size wr (wr.drewN nq) := pw_below_drewN (Below.refl _ _) nq
        generalize World.drewN _ nq = w5 at hb5 ⊢
        have HB5 := Aside0.mk hb5
        clear hb5 hlook r0 r1
        go_upto_region 13 with (fail)
        have f6 : ∃ w6 bx, w6 = w5.alloc (.cells #[.pointer none, .pointer none, .pointer none] 79) ∧ bx = w5.heap.size ∧ w6.heap[bx]? = some (.cells #[.pointer none, .pointer none, .pointer none] 79 (0, 0)) ∧ wr.heap.size ≤ bx ∧ Below wr.heap.size wr w6 := ⟨_, _, rfl, rfl, blk_new _ _, HB5.out.size, below_alloc HB5.out _⟩
        obtain ⟨w6, bx, e6, ebx, hb6, hsz6, hB6⟩ := f6
        rw [← e6, ← ebx]
        have HX6 := Aside0.mk hb6
        have HS6 := Aside0.mk hsz6
        have HB6 := Aside0.mk hB6
        have hM6 := HMB.out.below hB6
        have HMAP := Aside0.mk (hM6.map.drew)
        obtain ⟨r0, _⟩ := boxed2 hM6.box
        obtain ⟨_, _, r1, _⟩ := HN.out.below hM6.under
        clear e6 ebx hb6 hsz6 hB6 hM6 HB5
        refine start_ (n := 11) (S := fun w' => w'.cell? ⟨gm, 0, none⟩ = some (.map (some d)) ∧ w'.cell? (ad.add (k.toNat * 9)) = some (.string x.f0)) (ds := [10]) #[false, false, false, false, false, false, false, false, false, false, false] (by kernel_rfl) rfl rfl ⟨r0, r1⟩ (fun hHeld => ?_)
        refine pure_ (i := 0) (N := some 44) (v := ?_) (a' := ?_) #[true, false, false, false, false, false, false, false, false, false, false] rfl rfl (by kernel_rfl) (fun _ _ _ h => h) (Or.inl ⟨by rfl, ?_⟩) ?_ ?_
        rotate_left
        ·intro w'
         go_simp
         with_reducible rfl
        rotate_left
        ·simp only [Act.put, List.setIfInBounds_toArray, List.set_cons_zero, List.set_cons_succ, i64_w, i32_w]
         rfl
        refine pure_ (i := 1) (N := some 45) (v := ?_) (a' := ?_) #[true, true, false, false, false, false, false, false, false, false, false] rfl rfl (by kernel_rfl) (fun _ _ _ h => h) (Or.inl ⟨by rfl, ?_⟩) ?_ ?_
        rotate_left
        ·intro w'
         go_simp
         with_reducible rfl
        rotate_left
        ·simp only [Act.put, List.setIfInBounds_toArray, List.set_cons_zero, List.set_cons_succ, i64_w, i32_w]
         rfl
        refine pure_ (i := 2) (N := some 46) (v := ?_) (a' := ?_) #[true, true, true, false, false, false, false, false, false, false, false] rfl rfl (by kernel_rfl) (fun _ _ _ h => h) (Or.inl ⟨by rfl, ?_⟩) ?_ ?_
        rotate_left
        ·intro w'
         go_simp
         with_reducible rfl
        rotate_left
        ·simp only [Act.put, List.setIfInBounds_toArray, List.set_cons_zero, List.set_cons_succ, i64_w, i32_w]
         rfl
        refine take_ (i := 3) (N := some 47) (v := ?_) (a' := ?_) #[true, true, true, true, false, false, false, false, false, false, false] rfl rfl (by kernel_rfl) (fun _ _ _ h => h) (Or.inl ⟨by rfl, ?_⟩) hHeld ?_ ?_
        rotate_left
        ·rintro w' ⟨s0, s1⟩
         go_simp
         with_reducible rfl
        rotate_left
        ·simp only [Act.put, List.setIfInBounds_toArray, List.set_cons_zero, List.set_cons_succ, i64_w, i32_w]
         rfl
        refine pure_ (i := 4) (N := some 48) (v := ?_) (a' := ?_) #[true, true, true, true, true, false, false, false, false, false, false] rfl rfl (by kernel_rfl) (fun _ _ _ h => h) (Or.inl ⟨by rfl, ?_⟩) ?_ ?_
        rotate_left
        ·intro w'
         go_simp
         with_reducible rfl
        rotate_left
        ·simp only [Act.put, List.setIfInBounds_toArray, List.set_cons_zero, List.set_cons_succ, i64_w, i32_w]
         rfl
        refine pure_ (i := 5) (N := some 49) (v := ?_) (a' := ?_) #[true, true, true, true, true, true, false, false, false, false, false] rfl rfl (by kernel_rfl) (fun _ _ _ h => h) (Or.inl ⟨by rfl, ?_⟩) ?_ ?_
        rotate_left
        ·intro w'
         go_simp
         with_reducible rfl
        rotate_left
        ·simp only [Act.put, List.setIfInBounds_toArray, List.set_cons_zero, List.set_cons_succ, i64_w, i32_w]
         rfl
        refine pure_ (i := 6) (N := some 50) (v := ?_) (a' := ?_) #[true, true, true, true, true, true, true, false, false, false, false] rfl rfl (by kernel_rfl) (fun _ _ _ h => h) (Or.inl ⟨by rfl, ?_⟩) ?_ ?_
        rotate_left
        ·intro w'
         go_simp
         with_reducible rfl
        rotate_left
        ·simp only [Act.put, List.setIfInBounds_toArray, List.set_cons_zero, List.set_cons_succ, i64_w, i32_w]
         rfl
        refine pure_ (i := 7) (N := some 51) (v := ?_) (a' := ?_) #[true, true, true, true, true, true, true, true, false, false, false] rfl rfl (by kernel_rfl) (fun _ _ _ h => h) (Or.inl ⟨by rfl, ?_⟩) ?_ ?_
        rotate_left
        ·intro w'
         go_simp
         with_reducible rfl
        rotate_left
        ·simp only [Act.put, List.setIfInBounds_toArray, List.set_cons_zero, List.set_cons_succ, i64_w, i32_w]
         rfl
        refine take_ (i := 8) (N := some 52) (v := ?_) (a' := ?_) #[true, true, true, true, true, true, true, true, true, false, false] rfl rfl (by kernel_rfl) (fun _ _ _ h => h) (Or.inl ⟨by rfl, ?_⟩) hHeld ?_ ?_
        rotate_left
        ·rintro w' ⟨s0, s1⟩
         go_simp
         with_reducible rfl
        rotate_left
        ·simp only [Act.put, List.setIfInBounds_toArray, List.set_cons_zero, List.set_cons_succ, i64_w, i32_w]
         rfl
        refine pure_ (i := 9) (N := some 53) (v := ?_) (a' := ?_) #[true, true, true, true, true, true, true, true, true, true, false] rfl rfl (by kernel_rfl) (fun _ _ _ h => h) (Or.inl ⟨by rfl, ?_⟩) ?_ ?_
        rotate_left
        ·intro w'
         go_simp
         with_reducible rfl
        rotate_left
        ·simp only [Act.put, List.setIfInBounds_toArray, List.set_cons_zero, List.set_cons_succ, i64_w, i32_w]
         rfl
        refine last_ (i := 10) (N := none) #[true, true, true, true, true, true, true, true, true, true, true] rfl rfl (by kernel_rfl) (by decide) (fun K hK => ?_)
        refine put_step (f := byV (preT ts 1 k.toNat) B) (b := d) (n := m) (s := x.f0) HMAP.out (by rfl) rfl (.tmp 47) (.tmp 52) (.tmp 53) rfl Tryz.underlying9 Tryz.underlying58 HMX.out rfl rfl HS0.out rfl ?_
        intro w8 hM6 hturn6
        refine hK.out _ _ ?_
        clear hK K
        have HM6 := Aside0.mk hM6
        have HT6 := Aside0.mk hturn6
        clear hM6 hturn6 hHeld
        refine done_ (by kernel_rfl) ?_
        go_upto_region 14 with (fail)
        have hT8 := HT6.out
        have hb8 := (turned_box hT8 (show w6.drew.heap[bx]? = _ from HX6.out)).1
        have hold8 : ∀ i, i < wr.heap.size → i ≠ d → w8.heap[i]? = wr.heap[i]? := fun i hi hd => ((turned_grown hT8).block i (show i < w6.drew.heap.size from Nat.lt_of_lt_of_le hi HB6.out.size) (fun e => hd (by injection e))).trans (HB6.out.block i hi)
        have hB8 : Below W.heap.size W w8 := (HMB.out.under.trans ((HB6.out.drew).mono HMB.out.under.size)).trans (turned_below hT8 HMB.out.fence.1 (show W.heap.size ≤ w6.drew.heap.size from Nat.le_trans HMB.out.under.size HB6.out.size))
        have HX8 := Aside0.mk hb8
        have HO8 := Aside0.mk hold8
        have HB8 := Aside0.mk hB8
        clear hT8 hb8 hold8 hB8 r0 r1
        refine start_ (n := 8) (S := fun _ => True) (ds := [7]) #[false, false, false, false, false, false, false, false] (by kernel_rfl) rfl rfl trivial (fun hHeld => ?_)
        have hx7 : w8.drew.heap[bx]? = _ := HX8.out
        have hm7 := HM6.out.drew
        have ho7 : ∀ i, i < wr.heap.size → i ≠ d → w8.drew.heap[i]? = wr.heap[i]? := HO8.out
        have hb7 := HB8.out.drew
        generalize World.drew _ = w7 at hx7 hm7 ho7 hb7 ⊢
        obtain ⟨y0, y1, y2⟩ := three_cells hx7
        have yf := blk_frozen hx7 1
        have HX7 := Aside0.mk hx7
        have HM7 := Aside0.mk hm7
        have HO7 := Aside0.mk ho7
        have HB7 := Aside0.mk hb7
        clear hx7 hm7 ho7 hb7
        refine pure_ (i := 0) (N := some 54) (v := ?_) (a' := ?_) #[true, false, false, false, false, false, false, false] rfl rfl (by kernel_rfl) (fun _ _ _ h => h) (Or.inl ⟨by rfl, ?_⟩) ?_ ?_
        rotate_left
        ·intro w'
         go_simp
         with_reducible rfl
        rotate_left
        ·simp only [Act.put, List.setIfInBounds_toArray, List.set_cons_zero, List.set_cons_succ, i64_w, i32_w]
         rfl
        refine pure_ (i := 1) (N := some 55) (v := ?_) (a' := ?_) #[true, true, false, false, false, false, false, false] rfl rfl (by kernel_rfl) (fun _ _ _ h => h) (Or.inl ⟨by rfl, ?_⟩) ?_ ?_
        rotate_left
        ·intro w'
         go_simp
         with_reducible rfl
        rotate_left
        ·simp only [Act.put, List.setIfInBounds_toArray, List.set_cons_zero, List.set_cons_succ, i64_w, i32_w]
         rfl
        refine pure_ (i := 2) (N := some 56) (v := ?_) (a' := ?_) #[true, true, true, false, false, false, false, false] rfl rfl (by kernel_rfl) (fun _ _ _ h => h) (Or.inl ⟨by rfl, ?_⟩) ?_ ?_
        rotate_left
        ·intro w'
         go_simp
         with_reducible rfl
        rotate_left
        ·simp only [Act.put, List.setIfInBounds_toArray, List.set_cons_zero, List.set_cons_succ, i64_w, i32_w]
         rfl
        refine pure_ (i := 3) (N := some 57) (v := ?_) (a' := ?_) #[true, true, true, true, false, false, false, false] rfl rfl (by kernel_rfl) (fun _ _ _ h => h) (Or.inl ⟨by rfl, ?_⟩) ?_ ?_
        rotate_left
        ·intro w'
         go_simp
         with_reducible rfl
        rotate_left
        ·simp only [Act.put, List.setIfInBounds_toArray, List.set_cons_zero, List.set_cons_succ, i64_w, i32_w]
         rfl
        refine pure_ (i := 4) (N := some 58) (v := ?_) (a' := ?_) #[true, true, true, true, true, false, false, false] rfl rfl (by kernel_rfl) (fun _ _ _ h => h) (Or.inl ⟨by rfl, ?_⟩) ?_ ?_
        rotate_left
        ·intro w'
         go_simp
         with_reducible rfl
        rotate_left
        ·simp only [Act.put, List.setIfInBounds_toArray, List.set_cons_zero, List.set_cons_succ, i64_w, i32_w]
         rfl
        refine pure_ (i := 5) (N := some 59) (v := ?_) (a' := ?_) #[true, true, true, true, true, true, false, false] rfl rfl (by kernel_rfl) (fun _ _ _ h => h) (Or.inl ⟨by rfl, ?_⟩) ?_ ?_
        rotate_left
        ·intro w'
         go_simp
         with_reducible rfl
        rotate_left
        ·simp only [Act.put, List.setIfInBounds_toArray, List.set_cons_zero, List.set_cons_succ, i64_w, i32_w]
         rfl
        refine pure_ (i := 6) (N := some 60) (v := ?_) (a' := ?_) #[true, true, true, true, true, true, true, false] rfl rfl (by kernel_rfl) (fun _ _ _ h => h) (Or.inl ⟨by rfl, ?_⟩) ?_ ?_
        rotate_left
        ·intro w'
         go_simp
         with_reducible rfl
        rotate_left
        ·simp only [Act.put, List.setIfInBounds_toArray, List.set_cons_zero, List.set_cons_succ, i64_w, i32_w]
         rfl
        refine last_ (i := 7) (N := none) #[true, true, true, true, true, true, true, true] rfl rfl (by kernel_rfl) (by decide) (fun K hK => ?_)
        refine skip_ (w1 := w7.setCell ⟨bx, 1, none⟩ (.pointer (some (ad.add (k.toNat * 9))))) (by rfl) rfl ?_ ?_
        ·first | (go_simp; done) | (go_simp; rfl)
        refine hK.out _ _ ?_
        clear hK K
        refine done_ (by kernel_rfl) ?_
        go_wp2
        have hfin : VRd W gm d g d1 d2 ts 1 (k + 1) (w7.setCell ⟨bx, 1, none⟩ (.pointer (some (ad.add (k.toNat * 9))))) := by
         have e1 : (k + 1).toNat = k.toNat + 1 := by omega
         refine ⟨by omega, by omega, m + 1, fun k_ => if k_ = x.f0.data.toList then bx else B k_, by have := HMM.out; omega, ?_⟩
         rw [e1]
         exact MergerAt.new HMB.out HE.out (by omega) HH.out HN.out HX7.out HS6.out HM7.out HO7.out HB7.out
        have HFIN := Aside0.mk hfin
        clear hfin
        go_roundw
        case rel => exact ⟨k + 1, by go_num, HFIN⟩
        case measure => simp [intOf]; omega
      ·have c1b : decide (k < ((ts 1).length : Int)) = false := decide_eq_false hlt
       have HFIN := Aside0.mk (rread HV.out hlt (HZ.out 1 (by omega)).1 HGS.out (by omega) (Below.refl _ _))
       clear HV HMB HMM
       go_wp2
       go_roundw
       case rel => exact ⟨1 + 1, by go_num, HFIN⟩
       case measure => simp [intOf]
   ·have HG0 := Aside0.mk HR.out.2.2.1
    have hix := fun w : World => (show (Instr.index 53 (.agg #[.slice (A 0) (ts 0).length (C 0), .slice (A 1) (ts 1).length (C 1), .slice (A 2) (ts 2).length (C 2)]) (.int .i64 2)).run Tryz.prog w = .ok (.slice (A 2) (ts 2).length (C 2)) w from by rfl)
    obtain ⟨m0, B0, hm0, hM0⟩ := HR.out.2.2.2
    have HMB := Aside0.mk hM0
    have HM0 := Aside0.mk hm0
    clear hm0 hM0
    cases hg : goodTree (ts 2) with
    | false =>
     have HG := Aside0.mk hg
     clear hg
     go_wp2_with (first
      | (go_at_call 37; refine (Good_calls (A 2) (C 2) (ts 2) _ (HT.out _ HMB.out.under) (Kd.C_below (HC.out 2 (by omega)) HMB.out.under) (HCC.out 2 (by omega)) (HZ.out 2 (by omega)).2).mono ?_; rintro e w3 ⟨rfl, hb3⟩; rw [HG.out]; have HB3 := Aside0.mk (HMB.out.under.trans (hb3.mono HMB.out.under.size)); clear hb3)
      | fail)
     rw [← hQ.out]
     refine .inl ⟨fun h => ?_, rfl, HB3.out⟩
     have := HG.out
     simp [h.1, h.2.1, h.2.2] at this
    | true =>
     have HG := Aside0.mk hg
     clear hg
     go_upto_region 8 with (first
      | (go_at_call 37; refine (Good_calls (A 2) (C 2) (ts 2) _ (HT.out _ HMB.out.under) (Kd.C_below (HC.out 2 (by omega)) HMB.out.under) (HCC.out 2 (by omega)) (HZ.out 2 (by omega)).2).mono ?_; rintro e w3 ⟨rfl, hb3⟩; rw [HG.out]; have HMB3 := Aside0.mk (HMB.out.below hb3); clear hb3)
      | fail)
     have HS2 : Aside0 (VRd W gm d g d1 d2 ts 2 0 w3) := ⟨⟨by omega, by omega, m0, B0, by have := HM0.out; simpa using this, HMB3.out⟩⟩
     have HGS : Aside0 (∀ j, j ≤ 2 → goodTree (ts j) = true) := ⟨fun j hj => by
      rcases Nat.lt_or_ge j 2 with h | h
      ·exact HG0.out j (by omega)
      ·obtain rfl : j = 2 := by omega
       exact HG.out⟩
     obtain ⟨wo, rfl⟩ : ∃ wo : World, wo = wr := ⟨_, rfl⟩
     clear HMB HMB3 HM0 HG0 HR
     go_loopw [24] (fun i wr => ∃ k : Int, i = .int .i64 k ∧ Aside0 (VRd W gm d g d1 d2 ts 2 k wr)) (fun i _ => ((ts 2).length - (intOf i)).toNat)
     case atStart => exact ⟨0, rfl, HS2⟩
     case round =>
      clear HS2
      obtain ⟨k, rfl, HV⟩ := hrel
      have h0 := HV.out.1
      have h1 := HV.out.2.1
      obtain ⟨m, B, hm, hM⟩ := HV.out.2.2
      have HMB := Aside0.mk hM
      have HMM := Aside0.mk hm
      clear hm hM
      by_cases hlt : k < ((ts 2).length : Int)
      ·have c1b : decide (k < ((ts 2).length : Int)) = true := decide_eq_true hlt
       have hkl : k.toNat < (ts 2).length := by omega
       obtain ⟨ad, hA, hN⟩ := node_at (HC.out 2 (by omega)) k h0 hlt hlt
       have hext := preT_ext (k := k.toNat) (good_parts HG.out).1 hkl
       have hsz := ((HZ.out 2 (by omega)).node (List.getElem_mem hkl)).2.1
       generalize (ts 2)[k.toNat] = x at hN hext hsz
       have HE := Aside0.mk hext
       have HN := Aside0.mk hN
       have HS0 : Aside0 (x.f0.size ≤ maxLen) := ⟨by unfold maxLen; omega⟩
       have HMX : Aside0 (m < maxLen) := ⟨by have := HMM.out; have := (HZ.out 2 (by omega)).1; unfold maxLen; omega⟩
       obtain ⟨_, _, r1, _⟩ := hN.below HMB.out.under
       obtain ⟨r0, _⟩ := boxed2 HMB.out.box
       have hlook := fun nd : Nat => (HMB.out.map.drewN nd).look_ok Tryz.underlying9 Tryz.underlying58 (zeroThree _) HS0.out
       simp only [byV_at] at hlook
       rw [hA]
       cases hh : hasP (preT ts 2 k.toNat) x.f0 with
       | true =>
        simp only [hh, if_pos, Option.getD_some, Option.isSome_some] at hlook
        have HH := Aside0.mk hh
        clear hext hN hsz hA hh
        go_upto_region 10 with (fail)
        go_quiet (fail)
        have hM5 := HMB.out.below (pw_below_drewN (Below.refl _ _) nq)
        generalize World.drewN _ nq = w5 at hM5 ⊢
        have HM5 := Aside0.mk hM5
        clear hM5 hlook r0 r1
        go_upto_region 14 with (fail)
        refine start_ (n := 8) (S := fun _ => True) (ds := [7]) #[false, false, false, false, false, false, false, false] (by kernel_rfl) rfl rfl trivial (fun hHeld => ?_)
        have hM7 := HM5.out.below (below_drew (Below.refl _ _))
        generalize World.drew _ = w7 at hM7 ⊢
        obtain ⟨_, v0, v1, v2, hb7, _⟩ := hM7.three _ HH.out
        obtain ⟨y0, y1, y2⟩ := three_cells hb7
        have yf := blk_frozen hb7 2
        have HM7 := Aside0.mk hM7
        clear hM7 hb7
        refine pure_ (i := 0) (N := some 54) (v := ?_) (a' := ?_) #[true, false, false, false, false, false, false, false] rfl rfl (by kernel_rfl) (fun _ _ _ h => h) (Or.inl ⟨by rfl, ?_⟩) ?_ ?_
        rotate_left
        ·intro w'
         go_simp
         with_reducible rfl
        rotate_left
        ·simp only [Act.put, List.setIfInBounds_toArray, List.set_cons_zero, List.set_cons_succ, i64_w, i32_w]
         rfl
        refine pure_ (i := 1) (N := some 55) (v := ?_) (a' := ?_) #[true, true, false, false, false, false, false, false] rfl rfl (by kernel_rfl) (fun _ _ _ h => h) (Or.inl ⟨by rfl, ?_⟩) ?_ ?_
        rotate_left
        ·intro w'
         go_simp
         with_reducible rfl
        rotate_left
        ·simp only [Act.put, List.setIfInBounds_toArray, List.set_cons_zero, List.set_cons_succ, i64_w, i32_w]
         rfl
        refine pure_ (i := 2) (N := some 56) (v := ?_) (a' := ?_) #[true, true, true, false, false, false, false, false] rfl rfl (by kernel_rfl) (fun _ _ _ h => h) (Or.inl ⟨by rfl, ?_⟩) ?_ ?_
        rotate_left
        ·intro w'
         go_simp
         with_reducible rfl
        rotate_left
        ·simp only [Act.put, List.setIfInBounds_toArray, List.set_cons_zero, List.set_cons_succ, i64_w, i32_w]
         rfl
        refine pure_ (i := 3) (N := some 57) (v := ?_) (a' := ?_) #[true, true, true, true, false, false, false, false] rfl rfl (by kernel_rfl) (fun _ _ _ h => h) (Or.inl ⟨by rfl, ?_⟩) ?_ ?_
        rotate_left
        ·intro w'
         go_simp
         with_reducible rfl
        rotate_left
        ·simp only [Act.put, List.setIfInBounds_toArray, List.set_cons_zero, List.set_cons_succ, i64_w, i32_w]
         rfl
        refine pure_ (i := 4) (N := some 58) (v := ?_) (a' := ?_) #[true, true, true, true, true, false, false, false] rfl rfl (by kernel_rfl) (fun _ _ _ h => h) (Or.inl ⟨by rfl, ?_⟩) ?_ ?_
        rotate_left
        ·intro w'
         go_simp
         with_reducible rfl
        rotate_left
        ·simp only [Act.put, List.setIfInBounds_toArray, List.set_cons_zero, List.set_cons_succ, i64_w, i32_w]
         rfl
        refine pure_ (i := 5) (N := some 59) (v := ?_) (a' := ?_) #[true, true, true, true, true, true, false, false] rfl rfl (by kernel_rfl) (fun _ _ _ h => h) (Or.inl ⟨by rfl, ?_⟩) ?_ ?_
        rotate_left
        ·intro w'
         go_simp
         with_reducible rfl
        rotate_left
        ·simp only [Act.put, List.setIfInBounds_toArray, List.set_cons_zero, List.set_cons_succ, i64_w, i32_w]
         rfl
        refine pure_ (i := 6) (N := some 60) (v := ?_) (a' := ?_) #[true, true, true, true, true, true, true, false] rfl rfl (by kernel_rfl) (fun _ _ _ h => h) (Or.inl ⟨by rfl, ?_⟩) ?_ ?_
        rotate_left
        ·intro w'
         go_simp
         with_reducible rfl
        rotate_left
        ·simp only [Act.put, List.setIfInBounds_toArray, List.set_cons_zero, List.set_cons_succ, i64_w, i32_w]
         rfl
        refine last_ (i := 7) (N := none) #[true, true, true, true, true, true, true, true] rfl rfl (by kernel_rfl) (by decide) (fun K hK => ?_)
        refine skip_ (w1 := w7.setCell ⟨B x.f0.data.toList, 2, none⟩ (.pointer (some (ad.add (k.toNat * 9))))) (by rfl) rfl ?_ ?_
        ·first | (go_simp; done) | (go_simp; rfl)
        refine hK.out _ _ ?_
        clear hK K
        refine done_ (by kernel_rfl) ?_
        go_wp2
        have hfin : VRd W gm d g d1 d2 ts 2 (k + 1) (w7.setCell ⟨B x.f0.data.toList, 2, none⟩ (.pointer (some (ad.add (k.toNat * 9))))) := by
         have e1 : (k + 1).toNat = k.toNat + 1 := by omega
         refine ⟨by omega, by omega, m, B, by have := HMM.out; omega, ?_⟩
         rw [e1]
         exact HM7.out.set HE.out (by omega) HH.out HN.out
        have HFIN := Aside0.mk hfin
        clear hfin
        go_roundw
        case rel => exact ⟨k + 1, by go_num, HFIN⟩
        case measure => simp [intOf]; omega
       | false =>
        rw [hh] at hlook
        simp only [if_neg (show ¬ (false = true) by decide), Option.getD_none, Option.isSome_none] at hlook
        have HH := Aside0.mk hh
        clear hext hN hsz hA hh
        go_upto_region 10 with (fail)
        go_quiet (fail)
        have hb5 : Below wr.heap.size wr (wr.drewN nq) := pw_below_drewN (Below.refl _ _) nq
        generalize World.drewN _ nq = w5 at hb5 ⊢
        have HB5 := Aside0.mk hb5
        clear hb5 hlook r0 r1
        go_upto_region 13 with (fail)
        have f6 : ∃ w6 bx, w6 = w5.alloc (.cells #[.pointer none, .pointer none, .pointer none] 79) ∧ bx = w5.heap.size ∧ w6.heap[bx]? = some (.cells #[.pointer none, .pointer none, .pointer none] 79 (0, 0)) ∧ wr.heap.size ≤ bx ∧ Below wr.heap.size wr w6 := ⟨_, _, rfl, rfl, blk_new _ _, HB5.out.size, below_alloc HB5.out _⟩
        obtain ⟨w6, bx, e6, ebx, hb6, hsz6, hB6⟩ := f6
        rw [← e6, ← ebx]
        have HX6 := Aside0.mk hb6
        have HS6 := Aside0.mk hsz6
        have HB6 := Aside0.mk hB6
        have hM6 := HMB.out.below hB6
        have HMAP := Aside0.mk (hM6.map.drew)
        obtain ⟨r0, _⟩ := boxed2 hM6.box
        obtain ⟨_, _, r1, _⟩ := HN.out.below hM6.under
        clear e6 ebx hb6 hsz6 hB6 hM6 HB5
        refine start_ (n := 11) (S := fun w' => w'.cell? ⟨gm, 0, none⟩ = some (.map (some d)) ∧ w'.cell? (ad.add (k.toNat * 9)) = some (.string x.f0)) (ds := [10]) #[false, false, false, false, false, false, false, false, false, false, false] (by kernel_rfl) rfl rfl ⟨r0, r1⟩ (fun hHeld => ?_)
        refine pure_ (i := 0) (N := some 44) (v := ?_) (a' := ?_) #[true, false, false, false, false, false, false, false, false, false, false] rfl rfl (by kernel_rfl) (fun _ _ _ h => h) (Or.inl ⟨by rfl, ?_⟩) ?_ ?_
        rotate_left
        ·intro w'
         go_simp
         with_reducible rfl
        rotate_left
        ·simp only [Act.put, List.setIfInBounds_toArray, List.set_cons_zero, List.set_cons_succ, i64_w, i32_w]
         rfl
        refine pure_ (i := 1) (N := some 45) (v := ?_) (a' := ?_) #[true, true, false, false, false, false, false, false, false, false, false] rfl rfl (by kernel_rfl) (fun _ _ _ h => h) (Or.inl ⟨by rfl, ?_⟩) ?_ ?_
        rotate_left
        ·intro w'
         go_simp
         with_reducible rfl
        rotate_left
        ·simp only [Act.put, List.setIfInBounds_toArray, List.set_cons_zero, List.set_cons_succ, i64_w, i32_w]
         rfl
        refine pure_ (i := 2) (N := some 46) (v := ?_) (a' := ?_) #[true, true, true, false, false, false, false, false, false, false, false] rfl rfl (by kernel_rfl) (fun _ _ _ h => h) (Or.inl ⟨by rfl, ?_⟩) ?_ ?_
        rotate_left
        ·intro w'
         go_simp
         with_reducible rfl
        rotate_left
        ·simp only [Act.put, List.setIfInBounds_toArray, List.set_cons_zero, List.set_cons_succ, i64_w, i32_w]
         rfl
        refine take_ (i := 3) (N := some 47) (v := ?_) (a' := ?_) #[true, true, true, true, false, false, false, false, false, false, false] rfl rfl (by kernel_rfl) (fun _ _ _ h => h) (Or.inl ⟨by rfl, ?_⟩) hHeld ?_ ?_
        rotate_left
        ·rintro w' ⟨s0, s1⟩
         go_simp
         with_reducible rfl
        rotate_left
        ·simp only [Act.put, List.setIfInBounds_toArray, List.set_cons_zero, List.set_cons_succ, i64_w, i32_w]
         rfl
        refine pure_ (i := 4) (N := some 48) (v := ?_) (a' := ?_) #[true, true, true, true, true, false, false, false, false, false, false] rfl rfl (by kernel_rfl) (fun _ _ _ h => h) (Or.inl ⟨by rfl, ?_⟩) ?_ ?_
        rotate_left
        ·intro w'
         go_simp
         with_reducible rfl
        rotate_left
        ·simp only [Act.put, List.setIfInBounds_toArray, List.set_cons_zero, List.set_cons_succ, i64_w, i32_w]
         rfl
        refine pure_ (i := 5) (N := some 49) (v := ?_) (a' := ?_) #[true, true, true, true, true, true, false, false, false, false, false] rfl rfl (by kernel_rfl) (fun _ _ _ h => h) (Or.inl ⟨by rfl, ?_⟩) ?_ ?_
        rotate_left
        ·intro w'
         go_simp
         with_reducible rfl
        rotate_left
        ·simp only [Act.put, List.setIfInBounds_toArray, List.set_cons_zero, List.set_cons_succ, i64_w, i32_w]
         rfl
        refine pure_ (i := 6) (N := some 50) (v := ?_) (a' := ?_) #[true, true, true, true, true, true, true, false, false, false, false] rfl rfl (by kernel_rfl) (fun _ _ _ h => h) (Or.inl ⟨by rfl, ?_⟩) ?_ ?_
        rotate_left
        ·intro w'
         go_simp
         with_reducible rfl
        rotate_left
        ·simp only [Act.put, List.setIfInBounds_toArray, List.set_cons_zero, List.set_cons_succ, i64_w, i32_w]
         rfl
        refine pure_ (i := 7) (N := some 51) (v := ?_) (a' := ?_) #[true, true, true, true, true, true, true, true, false, false, false] rfl rfl (by kernel_rfl) (fun _ _ _ h => h) (Or.inl ⟨by rfl, ?_⟩) ?_ ?_
        rotate_left
        ·intro w'
         go_simp
         with_reducible rfl
        rotate_left
        ·simp only [Act.put, List.setIfInBounds_toArray, List.set_cons_zero, List.set_cons_succ, i64_w, i32_w]
         rfl
        refine take_ (i := 8) (N := some 52) (v := ?_) (a' := ?_) #[true, true, true, true, true, true, true, true, true, false, false] rfl rfl (by kernel_rfl) (fun _ _ _ h => h) (Or.inl ⟨by rfl, ?_⟩) hHeld ?_ ?_
        rotate_left
        ·rintro w' ⟨s0, s1⟩
         go_simp
         with_reducible rfl
        rotate_left
        ·simp only [Act.put, List.setIfInBounds_toArray, List.set_cons_zero, List.set_cons_succ, i64_w, i32_w]
         rfl
        refine pure_ (i := 9) (N := some 53) (v := ?_) (a' := ?_) #[true, true, true, true, true, true, true, true, true, true, false] rfl rfl (by kernel_rfl) (fun _ _ _ h => h) (Or.inl ⟨by rfl, ?_⟩) ?_ ?_
        rotate_left
        ·intro w'
         go_simp
         with_reducible rfl
        rotate_left
        ·simp only [Act.put, List.setIfInBounds_toArray, List.set_cons_zero, List.set_cons_succ, i64_w, i32_w]
         rfl
        refine last_ (i := 10) (N := none) #[true, true, true, true, true, true, true, true, true, true, true] rfl rfl (by kernel_rfl) (by decide) (fun K hK => ?_)
        refine put_step (f := byV (preT ts 2 k.toNat) B) (b := d) (n := m) (s := x.f0) HMAP.out (by rfl) rfl (.tmp 47) (.tmp 52) (.tmp 53) rfl Tryz.underlying9 Tryz.underlying58 HMX.out rfl rfl HS0.out rfl ?_
        intro w8 hM6 hturn6
        refine hK.out _ _ ?_
        clear hK K
        have HM6 := Aside0.mk hM6
        have HT6 := Aside0.mk hturn6
        clear hM6 hturn6 hHeld
        refine done_ (by kernel_rfl) ?_
        go_upto_region 14 with (fail)
        have hT8 := HT6.out
        have hb8 := (turned_box hT8 (show w6.drew.heap[bx]? = _ from HX6.out)).1
        have hold8 : ∀ i, i < wr.heap.size → i ≠ d → w8.heap[i]? = wr.heap[i]? := fun i hi hd => ((turned_grown hT8).block i (show i < w6.drew.heap.size from Nat.lt_of_lt_of_le hi HB6.out.size) (fun e => hd (by injection e))).trans (HB6.out.block i hi)
        have hB8 : Below W.heap.size W w8 := (HMB.out.under.trans ((HB6.out.drew).mono HMB.out.under.size)).trans (turned_below hT8 HMB.out.fence.1 (show W.heap.size ≤ w6.drew.heap.size from Nat.le_trans HMB.out.under.size HB6.out.size))
        have HX8 := Aside0.mk hb8
        have HO8 := Aside0.mk hold8
        have HB8 := Aside0.mk hB8
        clear hT8 hb8 hold8 hB8 r0 r1
        refine start_ (n := 8) (S := fun _ => True) (ds := [7]) #[false, false, false, false, false, false, false, false] (by kernel_rfl) rfl rfl trivial (fun hHeld => ?_)
        have hx7 : w8.drew.heap[bx]? = _ := HX8.out
        have hm7 := HM6.out.drew
        have ho7 : ∀ i, i < wr.heap.size → i ≠ d → w8.drew.heap[i]? = wr.heap[i]? := HO8.out
        have hb7 := HB8.out.drew
        generalize World.drew _ = w7 at hx7 hm7 ho7 hb7 ⊢
        obtain ⟨y0, y1, y2⟩ := three_cells hx7
        have yf := blk_frozen hx7 2
        have HX7 := Aside0.mk hx7
        have HM7 := Aside0.mk hm7
        have HO7 := Aside0.mk ho7
        have HB7 := Aside0.mk hb7
        clear hx7 hm7 ho7 hb7
        refine pure_ (i := 0) (N := some 54) (v := ?_) (a' := ?_) #[true, false, false, false, false, false, false, false] rfl rfl (by kernel_rfl) (fun _ _ _ h => h) (Or.inl ⟨by rfl, ?_⟩) ?_ ?_
        rotate_left
        ·intro w'
         go_simp
         with_reducible rfl
        rotate_left
        ·simp only [Act.put, List.setIfInBounds_toArray, List.set_cons_zero, List.set_cons_succ, i64_w, i32_w]
         rfl
        refine pure_ (i := 1) (N := some 55) (v := ?_) (a' := ?_) #[true, true, false, false, false, false, false, false] rfl rfl (by kernel_rfl) (fun _ _ _ h => h) (Or.inl ⟨by rfl, ?_⟩) ?_ ?_
        rotate_left
        ·intro w'
         go_simp
         with_reducible rfl
        rotate_left
        ·simp only [Act.put, List.setIfInBounds_toArray, List.set_cons_zero, List.set_cons_succ, i64_w, i32_w]
         rfl
        refine pure_ (i := 2) (N := some 56) (v := ?_) (a' := ?_) #[true, true, true, false, false, false, false, false] rfl rfl (by kernel_rfl) (fun _ _ _ h => h) (Or.inl ⟨by rfl, ?_⟩) ?_ ?_
        rotate_left
        ·intro w'
         go_simp
         with_reducible rfl
        rotate_left
        ·simp only [Act.put, List.setIfInBounds_toArray, List.set_cons_zero, List.set_cons_succ, i64_w, i32_w]
         rfl
        refine pure_ (i := 3) (N := some 57) (v := ?_) (a' := ?_) #[true, true, true, true, false, false, false, false] rfl rfl (by kernel_rfl) (fun _ _ _ h => h) (Or.inl ⟨by rfl, ?_⟩) ?_ ?_
        rotate_left
        ·intro w'
         go_simp
         with_reducible rfl
        rotate_left
        ·simp only [Act.put, List.setIfInBounds_toArray, List.set_cons_zero, List.set_cons_succ, i64_w, i32_w]
         rfl
        refine pure_ (i := 4) (N := some 58) (v := ?_) (a' := ?_) #[true, true, true, true, true, false, false, false] rfl rfl (by kernel_rfl) (fun _ _ _ h => h) (Or.inl ⟨by rfl, ?_⟩) ?_ ?_
        rotate_left
        ·intro w'
         go_simp
         with_reducible rfl
        rotate_left
        ·simp only [Act.put, List.setIfInBounds_toArray, List.set_cons_zero, List.set_cons_succ, i64_w, i32_w]
         rfl
        refine pure_ (i := 5) (N := some 59) (v := ?_) (a' := ?_) #[true, true, true, true, true, true, false, false] rfl rfl (by kernel_rfl) (fun _ _ _ h => h) (Or.inl ⟨by rfl, ?_⟩) ?_ ?_
        rotate_left
        ·intro w'
         go_simp
         with_reducible rfl
        rotate_left
        ·simp only [Act.put, List.setIfInBounds_toArray, List.set_cons_zero, List.set_cons_succ, i64_w, i32_w]
         rfl
        refine pure_ (i := 6) (N := some 60) (v := ?_) (a' := ?_) #[true, true, true, true, true, true, true, false] rfl rfl (by kernel_rfl) (fun _ _ _ h => h) (Or.inl ⟨by rfl, ?_⟩) ?_ ?_
        rotate_left
        ·intro w'
         go_simp
         with_reducible rfl
        rotate_left
        ·simp only [Act.put, List.setIfInBounds_toArray, List.set_cons_zero, List.set_cons_succ, i64_w, i32_w]
         rfl
        refine last_ (i := 7) (N := none) #[true, true, true, true, true, true, true, true] rfl rfl (by kernel_rfl) (by decide) (fun K hK => ?_)
        refine skip_ (w1 := w7.setCell ⟨bx, 2, none⟩ (.pointer (some (ad.add (k.toNat * 9))))) (by rfl) rfl ?_ ?_
        ·first | (go_simp; done) | (go_simp; rfl)
        refine hK.out _ _ ?_
        clear hK K
        refine done_ (by kernel_rfl) ?_
        go_wp2
        have hfin : VRd W gm d g d1 d2 ts 2 (k + 1) (w7.setCell ⟨bx, 2, none⟩ (.pointer (some (ad.add (k.toNat * 9))))) := by
         have e1 : (k + 1).toNat = k.toNat + 1 := by omega
         refine ⟨by omega, by omega, m + 1, fun k_ => if k_ = x.f0.data.toList then bx else B k_, by have := HMM.out; omega, ?_⟩
         rw [e1]
         exact MergerAt.new HMB.out HE.out (by omega) HH.out HN.out HX7.out HS6.out HM7.out HO7.out HB7.out
        have HFIN := Aside0.mk hfin
        clear hfin
        go_roundw
        case rel => exact ⟨k + 1, by go_num, HFIN⟩
        case measure => simp [intOf]; omega
      ·have c1b : decide (k < ((ts 2).length : Int)) = false := decide_eq_false hlt
       have HFIN := Aside0.mk (rread HV.out hlt (HZ.out 2 (by omega)).1 HGS.out (by omega) (Below.refl _ _))
       clear HV HMB HMM
       go_wp2
       go_roundw
       case rel => exact ⟨2 + 1, by go_num, HFIN⟩
       case measure => simp [intOf]
  ·have c1b : decide (n < 3) = false := decide_eq_false hlt
   have hn3 : n = 3 := by omega
   subst hn3
   go_wp2
   rw [← hQ.out]
   obtain ⟨_, _, hg, m, B, hm, hM⟩ := HR.out
   refine .inr ⟨⟨hg 0 (by omega), hg 1 (by omega), hg 2 (by omega)⟩, gm, d, g, d1, d2, m, B, hm, rfl, hM.congr (fun j hj => ?_)⟩
   show (if j < 3 then ts j else _) = ts j
   rw [if_pos hj]
end Go.Proofs.YtbngbefchobfnaaGreatDoor

namespace Go.Proofs.YtbngbefchobfnaaGreatDoor
open Go.RowKit Go.Maps Go.Proofs.YtbngbefchobfnaaGreatDoor.Print Go.Proofs.YtbngbefchobfnaaGreatDoorW.PrintWords Go.Proofs.YtbngbefchobfnaaGreatDoorW.PrintLast Go.Proofs.YtbngbefchobfnaaGreatDoorW.PrintMore
set_option linter.unusedVariables false
set_option linter.unusedSimpArgs false
def Fr (d1 d2 : Nat) (w w' : World) : Prop := w.heap.size ≤ w'.heap.size ∧ ∀ k, k < w.heap.size → k ≠ d1 → k ≠ d2 → w'.heap[k]? = w.heap[k]?
theorem Fr.refl (d1 d2 : Nat) (w : World) : Fr d1 d2 w w := ⟨Nat.le_refl _, fun _ _ _ _ => rfl⟩
theorem Fr.trans {d1 d2 : Nat} {w w1 w2 : World} (h : Fr d1 d2 w w1) (k : Fr d1 d2 w1 w2) : Fr d1 d2 w w2 := ⟨Nat.le_trans h.1 k.1, fun i hi h1 h2 => (k.2 i (Nat.lt_of_lt_of_le hi h.1) h1 h2).trans (h.2 i hi h1 h2)⟩
theorem Fr.of {d1 d2 : Nat} {w w1 : World} (h : Below w.heap.size w w1) : Fr d1 d2 w w1 := ⟨h.size, fun i hi _ _ => h.block i hi⟩
set_option maxRecDepth 100000 in
set_option maxHeartbeats 4000000 in
theorem MPut1_calls {W w : World} {gm d g d1 d2 m n : Nat} {ts : TS} {B : List UInt8 → Nat} {s : PL} (hM : MergerAt W w gm d g d1 d2 m n ts B s) (hn : n < 1000000000) (p name : ByteArray) (hp : hasP ts p = true) (hz : ∀ x, findF (ts 1) p = some x → EntZ ⟨name, x, 1⟩) :
  Calls Tryz.prog 41 #[.pointer (some ⟨gm, 0, none⟩), .string name, .pointer (some ⟨B p.data.toList, 0, none⟩), .int .i64 1] w fun e w' => e = .returned (.tuple #[]) ∧ MergerAt W w' gm d g d1 d2 m (n + 1) ts B ((entM 1 name (findF (ts 1) p)).foldl putE s) ∧ Fr d1 d2 w w' := by
 have HM := Aside0.mk hM
 have HN0 := Aside0.mk hn
 have HZ := Aside0.mk hz
 obtain ⟨hlt, v0, v1, v2, hb, q0, q1, q2⟩ := hM.three p hp
 obtain ⟨k0, k1, k2⟩ := three_cells hb
 have hdw := hM.map.lt
 have HSZ : Aside0 (d + 1 ≤ w.drew.heap.size) := ⟨hdw⟩
 have HMQ := Aside0.mk (hM.below (below_drew (Below.refl _ _)))
 generalize B p.data.toList = bx at hb k0 k1 k2 hlt ⊢
 generalize hpost : (fun (e : Ending) (w' : World) => e = .returned (.tuple #[]) ∧ MergerAt W w' gm d g d1 d2 m (n + 1) ts B ((entM 1 name (findF (ts 1) p)).foldl putE s) ∧ Fr d1 d2 w w') = Q
 have hQ := Aside0.mk hpost
 clear hpost hM hn hz hb hlt hdw
 cases hx : findF (ts 1) p with
 | none =>
  rw [hx] at q1
  obtain rfl : v1 = .pointer none := q1
  have HX := Aside0.mk hx
  clear hx
  go_enter Tryz.func41, Tryz.ntmps41
  go_wp2
  refine bodyPost_ret (v := .tuple #[]) (by simp [results, Tryz.results41, go_sem]) rfl ?_
  rw [← hQ.out, HX.out]
  exact ⟨rfl, HM.out.mono (Nat.le_succ _), Fr.refl _ _ _⟩
 | some x =>
  have HZX := Aside0.mk (HZ.out x hx)
  rw [hx] at q1
  obtain ⟨ad, rfl, hN⟩ := q1
  have HX := Aside0.mk hx
  obtain ⟨A, c, r0, r1, r2, r3, r4, r5, r6, r7, r8, hl, hC⟩ := hN.below HM.out.under
  obtain ⟨g0, g1⟩ := boxed2 HM.out.box
  have HCX := Aside0.mk hC
  clear hx hN hl hC
  go_enter Tryz.func41, Tryz.ntmps41
  go_upto_region 1 with (fail)
  refine start_ (n := 14) (S := fun w' => w'.cell? ⟨gm, 0, none⟩ = some (.map (some d)) ∧ w'.cell? ⟨gm, 1, none⟩ = some (.pointer (some ⟨g, 0, none⟩)) ∧ w'.cell? ⟨bx, 0, none⟩ = some (v0) ∧ w'.cell? ⟨bx, 1, none⟩ = some (.pointer (some ad)) ∧ w'.cell? ⟨bx, 2, none⟩ = some (v2) ∧ w'.cell? ad = some (.string x.f0) ∧ w'.cell? ⟨ad.block, ad.off + 1, none⟩ = some (.string x.f1) ∧ w'.cell? ⟨ad.block, ad.off + 2, none⟩ = some (.string x.f2) ∧ w'.cell? ⟨ad.block, ad.off + 3, none⟩ = some (.int .u8 x.f3) ∧ w'.cell? ⟨ad.block, ad.off + 4, none⟩ = some (.int .i64 x.f4.f0) ∧ w'.cell? ⟨ad.block, ad.off + 5, none⟩ = some (.int .i64 x.f4.f1) ∧ w'.cell? ⟨ad.block, ad.off + 6, none⟩ = some (.int .i64 x.f4.f2) ∧ w'.cell? ⟨ad.block, ad.off + 7, none⟩ = some (.int .i64 x.f4.f3) ∧ w'.cell? ⟨ad.block, ad.off + 8, none⟩ = some (.slice A x.f5.length c)) (ds := [13]) #[false, false, false, false, false, false, false, false, false, false, false, false, false, false] (by kernel_rfl) rfl rfl ⟨g0, g1, k0, k1, k2, r0, r1, r2, r3, r4, r5, r6, r7, r8⟩ (fun hHeld => ?_)
  refine pure_ (i := 0) (N := some 14) (v := ?_) (a' := ?_) #[true, false, false, false, false, false, false, false, false, false, false, false, false, false] rfl rfl (by kernel_rfl) (fun _ _ _ h => h) (Or.inl ⟨by rfl, ?_⟩) ?_ ?_
  rotate_left
  ·intro w'
   go_simp
   with_reducible rfl
  rotate_left
  ·simp only [Act.put, List.setIfInBounds_toArray, List.set_cons_zero, List.set_cons_succ, i64_w, i32_w]
   rfl
  refine pure_ (i := 1) (N := some 15) (v := ?_) (a' := ?_) #[true, true, false, false, false, false, false, false, false, false, false, false, false, false] rfl rfl (by kernel_rfl) (fun _ _ _ h => h) (Or.inl ⟨by rfl, ?_⟩) ?_ ?_
  rotate_left
  ·intro w'
   go_simp
   with_reducible rfl
  rotate_left
  ·simp only [Act.put, List.setIfInBounds_toArray, List.set_cons_zero, List.set_cons_succ, i64_w, i32_w]
   rfl
  refine pure_ (i := 2) (N := some 16) (v := ?_) (a' := ?_) #[true, true, true, false, false, false, false, false, false, false, false, false, false, false] rfl rfl (by kernel_rfl) (fun _ _ _ h => h) (Or.inl ⟨by rfl, ?_⟩) ?_ ?_
  rotate_left
  ·intro w'
   go_simp
   with_reducible rfl
  rotate_left
  ·simp only [Act.put, List.setIfInBounds_toArray, List.set_cons_zero, List.set_cons_succ, i64_w, i32_w]
   rfl
  refine take_ (i := 3) (N := some 17) (v := ?_) (a' := ?_) #[true, true, true, true, false, false, false, false, false, false, false, false, false, false] rfl rfl (by kernel_rfl) (fun _ _ _ h => h) (Or.inl ⟨by rfl, ?_⟩) hHeld ?_ ?_
  rotate_left
  ·rintro w' ⟨s0, s1, s2, s3, s4, s5, s6, s7, s8, s9, s10, s11, s12, s13⟩
   go_simp
   with_reducible rfl
  rotate_left
  ·simp only [Act.put, List.setIfInBounds_toArray, List.set_cons_zero, List.set_cons_succ, i64_w, i32_w]
   rfl
  refine pure_ (i := 4) (N := some 18) (v := ?_) (a' := ?_) #[true, true, true, true, true, false, false, false, false, false, false, false, false, false] rfl rfl (by kernel_rfl) (fun _ _ _ h => h) (Or.inl ⟨by rfl, ?_⟩) ?_ ?_
  rotate_left
  ·intro w'
   go_simp
   with_reducible rfl
  rotate_left
  ·simp only [Act.put, List.setIfInBounds_toArray, List.set_cons_zero, List.set_cons_succ, i64_w, i32_w]
   rfl
  refine pure_ (i := 5) (N := some 19) (v := ?_) (a' := ?_) #[true, true, true, true, true, true, false, false, false, false, false, false, false, false] rfl rfl (by kernel_rfl) (fun _ _ _ h => h) (Or.inl ⟨by rfl, ?_⟩) ?_ ?_
  rotate_left
  ·intro w'
   go_simp
   with_reducible rfl
  rotate_left
  ·simp only [Act.put, List.setIfInBounds_toArray, List.set_cons_zero, List.set_cons_succ, i64_w, i32_w]
   rfl
  refine pure_ (i := 6) (N := some 20) (v := ?_) (a' := ?_) #[true, true, true, true, true, true, true, false, false, false, false, false, false, false] rfl rfl (by kernel_rfl) (fun _ _ _ h => h) (Or.inl ⟨by rfl, ?_⟩) ?_ ?_
  rotate_left
  ·intro w'
   go_simp
   with_reducible rfl
  rotate_left
  ·simp only [Act.put, List.setIfInBounds_toArray, List.set_cons_zero, List.set_cons_succ, i64_w, i32_w]
   rfl
  refine pure_ (i := 7) (N := some 21) (v := ?_) (a' := ?_) #[true, true, true, true, true, true, true, true, false, false, false, false, false, false] rfl rfl (by kernel_rfl) (fun _ _ _ h => h) (Or.inl ⟨by rfl, ?_⟩) ?_ ?_
  rotate_left
  ·intro w'
   go_simp
   with_reducible rfl
  rotate_left
  ·simp only [Act.put, List.setIfInBounds_toArray, List.set_cons_zero, List.set_cons_succ, i64_w, i32_w]
   rfl
  refine pure_ (i := 8) (N := some 22) (v := ?_) (a' := ?_) #[true, true, true, true, true, true, true, true, true, false, false, false, false, false] rfl rfl (by kernel_rfl) (fun _ _ _ h => h) (Or.inl ⟨by rfl, ?_⟩) ?_ ?_
  rotate_left
  ·intro w'
   go_simp
   with_reducible rfl
  rotate_left
  ·simp only [Act.put, List.setIfInBounds_toArray, List.set_cons_zero, List.set_cons_succ, i64_w, i32_w]
   rfl
  refine take_ (i := 9) (N := some 23) (v := ?_) (a' := ?_) #[true, true, true, true, true, true, true, true, true, true, false, false, false, false] rfl rfl (by kernel_rfl) (fun _ _ _ h => h) (Or.inl ⟨by rfl, ?_⟩) hHeld ?_ ?_
  rotate_left
  ·rintro w' ⟨s0, s1, s2, s3, s4, s5, s6, s7, s8, s9, s10, s11, s12, s13⟩
   go_simp
   with_reducible rfl
  rotate_left
  ·simp only [Act.put, List.setIfInBounds_toArray, List.set_cons_zero, List.set_cons_succ, i64_w, i32_w]
   rfl
  refine pure_ (i := 10) (N := some 24) (v := ?_) (a' := ?_) #[true, true, true, true, true, true, true, true, true, true, true, false, false, false] rfl rfl (by kernel_rfl) (fun _ _ _ h => h) (Or.inl ⟨by rfl, ?_⟩) ?_ ?_
  rotate_left
  ·intro w'
   go_simp
   with_reducible rfl
  rotate_left
  ·simp only [Act.put, List.setIfInBounds_toArray, List.set_cons_zero, List.set_cons_succ, i64_w, i32_w]
   rfl
  refine take_ (i := 11) (N := some 25) (v := ?_) (a' := ?_) #[true, true, true, true, true, true, true, true, true, true, true, true, false, false] rfl rfl (by kernel_rfl) (fun _ _ _ h => h) (Or.inl ⟨by rfl, ?_⟩) hHeld ?_ ?_
  rotate_left
  ·rintro w' ⟨s0, s1, s2, s3, s4, s5, s6, s7, s8, s9, s10, s11, s12, s13⟩
   go_simp
   with_reducible rfl
  rotate_left
  ·simp only [Act.put, List.setIfInBounds_toArray, List.set_cons_zero, List.set_cons_succ, i64_w, i32_w]
   rfl
  refine pure_ (i := 12) (N := some 26) (v := ?_) (a' := ?_) #[true, true, true, true, true, true, true, true, true, true, true, true, true, false] rfl rfl (by kernel_rfl) (fun _ _ _ h => h) (Or.inl ⟨by rfl, ?_⟩) ?_ ?_
  rotate_left
  ·intro w'
   go_simp
   with_reducible rfl
  rotate_left
  ·simp only [Act.put, List.setIfInBounds_toArray, List.set_cons_zero, List.set_cons_succ, i64_w, i32_w]
   rfl
  refine last_ (i := 13) (N := some 27) #[true, true, true, true, true, true, true, true, true, true, true, true, true, true] rfl rfl (by kernel_rfl) (by decide) (fun K hK => ?_)
  refine goes_ Tryz.func58 (by kernel_rfl) rfl #[.pointer (some ⟨g, 0, none⟩), .int .i64 1, .agg #[.string x.f0, .string x.f1, .string x.f2, .int .u8 x.f3, .int .i64 x.f4.f0, .int .i64 x.f4.f1, .int .i64 x.f4.f2, .int .i64 x.f4.f3, .slice A x.f5.length c], .string name] (by rfl) rfl rfl (by first | rfl | (simp [Act.eval]; done)) ?_
  refine (Put_frame (d + 1) g d1 d2 n s 1 x A c name _ HMQ.out.pile HN0.out HZX.out (Kd.C_drew HCX.out) HSZ.out).mono ?_
  rintro e w5 ⟨rfl, hP5, hB5, hf5⟩
  refine ⟨_, rfl, ?_⟩
  have HFIN := Aside0.mk (HMQ.out.piled hP5 hB5 hf5)
  have HF5 : Aside0 (Fr d1 d2 w w5) := ⟨⟨hB5.size, hf5⟩⟩
  refine hK.out _ _ ?_
  clear hK K hP5 hB5 hf5 hHeld
  refine done_ (by kernel_rfl) ?_
  go_wp2
  refine bodyPost_ret (v := .tuple #[]) (by simp [results, Tryz.results41, go_sem]) rfl ?_
  rw [← hQ.out, HX.out]
  exact ⟨rfl, HFIN.out, HF5.out⟩
set_option maxRecDepth 100000 in
set_option maxHeartbeats 4000000 in
theorem MPut2_calls {W w : World} {gm d g d1 d2 m n : Nat} {ts : TS} {B : List UInt8 → Nat} {s : PL} (hM : MergerAt W w gm d g d1 d2 m n ts B s) (hn : n < 1000000000) (p name : ByteArray) (hp : hasP ts p = true) (hz : ∀ x, findF (ts 2) p = some x → EntZ ⟨name, x, 2⟩) :
  Calls Tryz.prog 41 #[.pointer (some ⟨gm, 0, none⟩), .string name, .pointer (some ⟨B p.data.toList, 0, none⟩), .int .i64 2] w fun e w' => e = .returned (.tuple #[]) ∧ MergerAt W w' gm d g d1 d2 m (n + 1) ts B ((entM 2 name (findF (ts 2) p)).foldl putE s) ∧ Fr d1 d2 w w' := by
 have HM := Aside0.mk hM
 have HN0 := Aside0.mk hn
 have HZ := Aside0.mk hz
 obtain ⟨hlt, v0, v1, v2, hb, q0, q1, q2⟩ := hM.three p hp
 obtain ⟨k0, k1, k2⟩ := three_cells hb
 have hdw := hM.map.lt
 have HSZ : Aside0 (d + 1 ≤ w.drew.heap.size) := ⟨hdw⟩
 have HMQ := Aside0.mk (hM.below (below_drew (Below.refl _ _)))
 generalize B p.data.toList = bx at hb k0 k1 k2 hlt ⊢
 generalize hpost : (fun (e : Ending) (w' : World) => e = .returned (.tuple #[]) ∧ MergerAt W w' gm d g d1 d2 m (n + 1) ts B ((entM 2 name (findF (ts 2) p)).foldl putE s) ∧ Fr d1 d2 w w') = Q
 have hQ := Aside0.mk hpost
 clear hpost hM hn hz hb hlt hdw
 cases hx : findF (ts 2) p with
 | none =>
  rw [hx] at q2
  obtain rfl : v2 = .pointer none := q2
  have HX := Aside0.mk hx
  clear hx
  go_enter Tryz.func41, Tryz.ntmps41
  go_wp2
  refine bodyPost_ret (v := .tuple #[]) (by simp [results, Tryz.results41, go_sem]) rfl ?_
  rw [← hQ.out, HX.out]
  exact ⟨rfl, HM.out.mono (Nat.le_succ _), Fr.refl _ _ _⟩
 | some x =>
  have HZX := Aside0.mk (HZ.out x hx)
  rw [hx] at q2
  obtain ⟨ad, rfl, hN⟩ := q2
  have HX := Aside0.mk hx
  obtain ⟨A, c, r0, r1, r2, r3, r4, r5, r6, r7, r8, hl, hC⟩ := hN.below HM.out.under
  obtain ⟨g0, g1⟩ := boxed2 HM.out.box
  have HCX := Aside0.mk hC
  clear hx hN hl hC
  go_enter Tryz.func41, Tryz.ntmps41
  go_upto_region 1 with (fail)
  refine start_ (n := 14) (S := fun w' => w'.cell? ⟨gm, 0, none⟩ = some (.map (some d)) ∧ w'.cell? ⟨gm, 1, none⟩ = some (.pointer (some ⟨g, 0, none⟩)) ∧ w'.cell? ⟨bx, 0, none⟩ = some (v0) ∧ w'.cell? ⟨bx, 1, none⟩ = some (v1) ∧ w'.cell? ⟨bx, 2, none⟩ = some (.pointer (some ad)) ∧ w'.cell? ad = some (.string x.f0) ∧ w'.cell? ⟨ad.block, ad.off + 1, none⟩ = some (.string x.f1) ∧ w'.cell? ⟨ad.block, ad.off + 2, none⟩ = some (.string x.f2) ∧ w'.cell? ⟨ad.block, ad.off + 3, none⟩ = some (.int .u8 x.f3) ∧ w'.cell? ⟨ad.block, ad.off + 4, none⟩ = some (.int .i64 x.f4.f0) ∧ w'.cell? ⟨ad.block, ad.off + 5, none⟩ = some (.int .i64 x.f4.f1) ∧ w'.cell? ⟨ad.block, ad.off + 6, none⟩ = some (.int .i64 x.f4.f2) ∧ w'.cell? ⟨ad.block, ad.off + 7, none⟩ = some (.int .i64 x.f4.f3) ∧ w'.cell? ⟨ad.block, ad.off + 8, none⟩ = some (.slice A x.f5.length c)) (ds := [13]) #[false, false, false, false, false, false, false, false, false, false, false, false, false, false] (by kernel_rfl) rfl rfl ⟨g0, g1, k0, k1, k2, r0, r1, r2, r3, r4, r5, r6, r7, r8⟩ (fun hHeld => ?_)
  refine pure_ (i := 0) (N := some 14) (v := ?_) (a' := ?_) #[true, false, false, false, false, false, false, false, false, false, false, false, false, false] rfl rfl (by kernel_rfl) (fun _ _ _ h => h) (Or.inl ⟨by rfl, ?_⟩) ?_ ?_
  rotate_left
  ·intro w'
   go_simp
   with_reducible rfl
  rotate_left
  ·simp only [Act.put, List.setIfInBounds_toArray, List.set_cons_zero, List.set_cons_succ, i64_w, i32_w]
   rfl
  refine pure_ (i := 1) (N := some 15) (v := ?_) (a' := ?_) #[true, true, false, false, false, false, false, false, false, false, false, false, false, false] rfl rfl (by kernel_rfl) (fun _ _ _ h => h) (Or.inl ⟨by rfl, ?_⟩) ?_ ?_
  rotate_left
  ·intro w'
   go_simp
   with_reducible rfl
  rotate_left
  ·simp only [Act.put, List.setIfInBounds_toArray, List.set_cons_zero, List.set_cons_succ, i64_w, i32_w]
   rfl
  refine pure_ (i := 2) (N := some 16) (v := ?_) (a' := ?_) #[true, true, true, false, false, false, false, false, false, false, false, false, false, false] rfl rfl (by kernel_rfl) (fun _ _ _ h => h) (Or.inl ⟨by rfl, ?_⟩) ?_ ?_
  rotate_left
  ·intro w'
   go_simp
   with_reducible rfl
  rotate_left
  ·simp only [Act.put, List.setIfInBounds_toArray, List.set_cons_zero, List.set_cons_succ, i64_w, i32_w]
   rfl
  refine take_ (i := 3) (N := some 17) (v := ?_) (a' := ?_) #[true, true, true, true, false, false, false, false, false, false, false, false, false, false] rfl rfl (by kernel_rfl) (fun _ _ _ h => h) (Or.inl ⟨by rfl, ?_⟩) hHeld ?_ ?_
  rotate_left
  ·rintro w' ⟨s0, s1, s2, s3, s4, s5, s6, s7, s8, s9, s10, s11, s12, s13⟩
   go_simp
   with_reducible rfl
  rotate_left
  ·simp only [Act.put, List.setIfInBounds_toArray, List.set_cons_zero, List.set_cons_succ, i64_w, i32_w]
   rfl
  refine pure_ (i := 4) (N := some 18) (v := ?_) (a' := ?_) #[true, true, true, true, true, false, false, false, false, false, false, false, false, false] rfl rfl (by kernel_rfl) (fun _ _ _ h => h) (Or.inl ⟨by rfl, ?_⟩) ?_ ?_
  rotate_left
  ·intro w'
   go_simp
   with_reducible rfl
  rotate_left
  ·simp only [Act.put, List.setIfInBounds_toArray, List.set_cons_zero, List.set_cons_succ, i64_w, i32_w]
   rfl
  refine pure_ (i := 5) (N := some 19) (v := ?_) (a' := ?_) #[true, true, true, true, true, true, false, false, false, false, false, false, false, false] rfl rfl (by kernel_rfl) (fun _ _ _ h => h) (Or.inl ⟨by rfl, ?_⟩) ?_ ?_
  rotate_left
  ·intro w'
   go_simp
   with_reducible rfl
  rotate_left
  ·simp only [Act.put, List.setIfInBounds_toArray, List.set_cons_zero, List.set_cons_succ, i64_w, i32_w]
   rfl
  refine pure_ (i := 6) (N := some 20) (v := ?_) (a' := ?_) #[true, true, true, true, true, true, true, false, false, false, false, false, false, false] rfl rfl (by kernel_rfl) (fun _ _ _ h => h) (Or.inl ⟨by rfl, ?_⟩) ?_ ?_
  rotate_left
  ·intro w'
   go_simp
   with_reducible rfl
  rotate_left
  ·simp only [Act.put, List.setIfInBounds_toArray, List.set_cons_zero, List.set_cons_succ, i64_w, i32_w]
   rfl
  refine pure_ (i := 7) (N := some 21) (v := ?_) (a' := ?_) #[true, true, true, true, true, true, true, true, false, false, false, false, false, false] rfl rfl (by kernel_rfl) (fun _ _ _ h => h) (Or.inl ⟨by rfl, ?_⟩) ?_ ?_
  rotate_left
  ·intro w'
   go_simp
   with_reducible rfl
  rotate_left
  ·simp only [Act.put, List.setIfInBounds_toArray, List.set_cons_zero, List.set_cons_succ, i64_w, i32_w]
   rfl
  refine pure_ (i := 8) (N := some 22) (v := ?_) (a' := ?_) #[true, true, true, true, true, true, true, true, true, false, false, false, false, false] rfl rfl (by kernel_rfl) (fun _ _ _ h => h) (Or.inl ⟨by rfl, ?_⟩) ?_ ?_
  rotate_left
  ·intro w'
   go_simp
   with_reducible rfl
  rotate_left
  ·simp only [Act.put, List.setIfInBounds_toArray, List.set_cons_zero, List.set_cons_succ, i64_w, i32_w]
   rfl
  refine take_ (i := 9) (N := some 23) (v := ?_) (a' := ?_) #[true, true, true, true, true, true, true, true, true, true, false, false, false, false] rfl rfl (by kernel_rfl) (fun _ _ _ h => h) (Or.inl ⟨by rfl, ?_⟩) hHeld ?_ ?_
  rotate_left
  ·rintro w' ⟨s0, s1, s2, s3, s4, s5, s6, s7, s8, s9, s10, s11, s12, s13⟩
   go_simp
   with_reducible rfl
  rotate_left
  ·simp only [Act.put, List.setIfInBounds_toArray, List.set_cons_zero, List.set_cons_succ, i64_w, i32_w]
   rfl
  refine pure_ (i := 10) (N := some 24) (v := ?_) (a' := ?_) #[true, true, true, true, true, true, true, true, true, true, true, false, false, false] rfl rfl (by kernel_rfl) (fun _ _ _ h => h) (Or.inl ⟨by rfl, ?_⟩) ?_ ?_
  rotate_left
  ·intro w'
   go_simp
   with_reducible rfl
  rotate_left
  ·simp only [Act.put, List.setIfInBounds_toArray, List.set_cons_zero, List.set_cons_succ, i64_w, i32_w]
   rfl
  refine take_ (i := 11) (N := some 25) (v := ?_) (a' := ?_) #[true, true, true, true, true, true, true, true, true, true, true, true, false, false] rfl rfl (by kernel_rfl) (fun _ _ _ h => h) (Or.inl ⟨by rfl, ?_⟩) hHeld ?_ ?_
  rotate_left
  ·rintro w' ⟨s0, s1, s2, s3, s4, s5, s6, s7, s8, s9, s10, s11, s12, s13⟩
   go_simp
   with_reducible rfl
  rotate_left
  ·simp only [Act.put, List.setIfInBounds_toArray, List.set_cons_zero, List.set_cons_succ, i64_w, i32_w]
   rfl
  refine pure_ (i := 12) (N := some 26) (v := ?_) (a' := ?_) #[true, true, true, true, true, true, true, true, true, true, true, true, true, false] rfl rfl (by kernel_rfl) (fun _ _ _ h => h) (Or.inl ⟨by rfl, ?_⟩) ?_ ?_
  rotate_left
  ·intro w'
   go_simp
   with_reducible rfl
  rotate_left
  ·simp only [Act.put, List.setIfInBounds_toArray, List.set_cons_zero, List.set_cons_succ, i64_w, i32_w]
   rfl
  refine last_ (i := 13) (N := some 27) #[true, true, true, true, true, true, true, true, true, true, true, true, true, true] rfl rfl (by kernel_rfl) (by decide) (fun K hK => ?_)
  refine goes_ Tryz.func58 (by kernel_rfl) rfl #[.pointer (some ⟨g, 0, none⟩), .int .i64 2, .agg #[.string x.f0, .string x.f1, .string x.f2, .int .u8 x.f3, .int .i64 x.f4.f0, .int .i64 x.f4.f1, .int .i64 x.f4.f2, .int .i64 x.f4.f3, .slice A x.f5.length c], .string name] (by rfl) rfl rfl (by first | rfl | (simp [Act.eval]; done)) ?_
  refine (Put_frame (d + 1) g d1 d2 n s 2 x A c name _ HMQ.out.pile HN0.out HZX.out (Kd.C_drew HCX.out) HSZ.out).mono ?_
  rintro e w5 ⟨rfl, hP5, hB5, hf5⟩
  refine ⟨_, rfl, ?_⟩
  have HFIN := Aside0.mk (HMQ.out.piled hP5 hB5 hf5)
  have HF5 : Aside0 (Fr d1 d2 w w5) := ⟨⟨hB5.size, hf5⟩⟩
  refine hK.out _ _ ?_
  clear hK K hP5 hB5 hf5 hHeld
  refine done_ (by kernel_rfl) ?_
  go_wp2
  refine bodyPost_ret (v := .tuple #[]) (by simp [results, Tryz.results41, go_sem]) rfl ?_
  rw [← hQ.out, HX.out]
  exact ⟨rfl, HFIN.out, HF5.out⟩
abbrev psT (ts : TS) : List ByteArray := paths3 (ts 0) (ts 1) (ts 2)
theorem hasP_in (ts : TS) (q : ByteArray) : inL (psT ts) q = hasP ts q := by
 rw [Bool.eq_iff_iff, inL_iff, paths3_mem]
 unfold hasP
 simp only [Bool.or_eq_true]
def BothRel (W : World) (gm d g d1 d2 m n : Nat) (ts : TS) (B : List UInt8 → Nat) (s : PL) (p : ByteArray) (bq : Nat) (w0 : World) (i : Int) (w' : World) : Prop :=
 Fr d1 d2 w0 w' ∧ w'.heap[bq]? = some (.cells #[.int .i64 1, .int .i64 2] 3 (0, 0)) ∧ gm < bq ∧ ((i = 0 ∧ MergerAt W w' gm d g d1 d2 m n ts B s) ∨ (i = 1 ∧ (sideM (psT ts) p 1 oursS (findF (ts 1) p)).2 = 0 ∧ MergerAt W w' gm d g d1 d2 m (n + 1) ts B ((sideM (psT ts) p 1 oursS (findF (ts 1) p)).1.foldl putE s)) ∨
  (i = 2 ∧ (sideM (psT ts) p 1 oursS (findF (ts 1) p)).2 = 0 ∧ (sideM (psT ts) p 2 theirsS (findF (ts 2) p)).2 = 0 ∧ MergerAt W w' gm d g d1 d2 m (n + 1 + 1) ts B ((sideM (psT ts) p 2 theirsS (findF (ts 2) p)).1.foldl putE ((sideM (psT ts) p 1 oursS (findF (ts 1) p)).1.foldl putE s))))
theorem sideM_some {ts : TS} {p : ByteArray} {n : Int} {sfx : ByteArray} {x : Node} : sideM (psT ts) p n sfx (some x) = if hasP ts (p ++ sfx) = true then ([], 11) else if 200 < (p ++ sfx).size then ([], 10) else ([⟨p ++ sfx, x, n⟩], 0) := by
 rw [← hasP_in]
 rfl
set_option maxRecDepth 100000 in
set_option maxHeartbeats 8000000 in
theorem Both_calls {W w : World} {gm d g d1 d2 m n : Nat} {ts : TS} {B : List UInt8 → Nat} {s : PL} (hT : Tabs W) (hM : MergerAt W w gm d g d1 d2 m n ts B s) (hn : n < 100000000) (p : ByteArray) (hp : hasP ts p = true) (hps : p.size ≤ 8000000000000) (hz : ∀ j x, findF (ts j) p = some x → NodeZ x) :
  Calls Tryz.prog 43 #[.pointer (some ⟨gm, 0, none⟩), .string p, .pointer (some ⟨B p.data.toList, 0, none⟩)] w fun e w' => e = .returned (.int .i64 (bothM (psT ts) p (findF (ts 1) p) (findF (ts 2) p)).2) ∧ Below W.heap.size W w' ∧ ((bothM (psT ts) p (findF (ts 1) p) (findF (ts 2) p)).2 = 0 → MergerAt W w' gm d g d1 d2 m (n + 2) ts B ((bothM (psT ts) p (findF (ts 1) p) (findF (ts 2) p)).1.foldl putE s) ∧ Fr d1 d2 w w') := by
 have HT := Aside0.mk hT
 have HN0 := Aside0.mk hn
 have HZ := Aside0.mk hz
 have HPS := Aside0.mk hps
 have hgm := blk_lt' hM.box
 have hST : BothRel W gm d g d1 d2 m n ts B s p w.heap.size w 0 (w.alloc (.cells #[.int .i64 1, .int .i64 2] 3)) := ⟨Fr.of (below_alloc (Below.refl _ _) _), blk_new _ _, hgm, .inl ⟨rfl, hM.below (below_alloc (Below.refl _ _) _)⟩⟩
 have HST := Aside0.mk hST
 clear hT hn hz hps hM hST hgm
 generalize hpost : (fun (e : Ending) (w' : World) => e = .returned (.int .i64 (bothM (psT ts) p (findF (ts 1) p) (findF (ts 2) p)).2) ∧ Below W.heap.size W w' ∧ ((bothM (psT ts) p (findF (ts 1) p) (findF (ts 2) p)).2 = 0 → MergerAt W w' gm d g d1 d2 m (n + 2) ts B ((bothM (psT ts) p (findF (ts 1) p) (findF (ts 2) p)).1.foldl putE s) ∧ Fr d1 d2 w w')) = Q
 have hQ := Aside0.mk hpost
 clear hpost
 go_enter Tryz.func43, Tryz.ntmps43
 go_upto_region 2 with (fail)
 generalize hbq : w.heap.size = bq at HST ⊢
 go_loopw [14] (fun i wr => ∃ k : Int, i = .int .i64 k ∧ Aside0 (BothRel W gm d g d1 d2 m n ts B s p bq w k wr)) (fun i _ => (2 - (intOf i)).toNat)
 case atStart => exact ⟨0, rfl, HST⟩
 case round =>
  clear HST
  obtain ⟨k, rfl, HR⟩ := hrel
  have HFR := Aside0.mk HR.out.1
  have HBQ := Aside0.mk HR.out.2.1
  have HGB := Aside0.mk HR.out.2.2.1
  rcases HR.out.2.2.2 with ⟨rfl, hM⟩ | ⟨rfl, hs1, hM⟩ | ⟨rfl, hs1, hs2, hM⟩
  ·have HM := Aside0.mk hM
   clear hM HR
   obtain ⟨hlt, v0, v1, v2, hb, q0, q1, q2⟩ := HM.out.three p hp
   obtain ⟨k0, k1, k2⟩ := three_cells hb
   obtain ⟨j0, j1⟩ := boxed2 HBQ.out
   clear hb hlt
   cases hx : findF (ts 1) p with
   | none =>
    rw [hx] at q1
    obtain rfl : v1 = .pointer none := q1
    have HSI : Aside0 (sideM (psT ts) p 1 oursS (findF (ts 1) p) = ([], 0)) := ⟨by rw [hx]; rfl⟩
    clear hx
    have hfin : BothRel W gm d g d1 d2 m n ts B s p bq w 1 wr := ⟨HFR.out, HBQ.out, HGB.out, .inr (.inl ⟨rfl, by rw [HSI.out], by rw [HSI.out]; exact HM.out.mono (Nat.le_succ _)⟩)⟩
    have HFIN := Aside0.mk hfin
    clear hfin
    go_wp2
    go_roundw
    case rel => exact ⟨1, by go_num, HFIN⟩
    case measure => simp [intOf]
   | some x =>
    have hzx := HZ.out 1 x hx
    rw [hx] at q1
    obtain ⟨ad, rfl, hN⟩ := q1
    have HX := Aside0.mk hx
    have gk := (HT.out.below HM.out.under).end1
    have hov : ¬ (9223372036854775807 < p.size + 5) := by have := HPS.out; omega
    have hov2 : p.size + 5 ≤ 9223372036854775807 := by have := HPS.out; omega
    obtain ⟨g0, g1⟩ := boxed2 HM.out.box
    clear hN hx
    go_upto_region 6 with (fail)
    have hsn : (p ++ (⟨#[46, 111, 117, 114, 115]⟩ : ByteArray)).size ≤ p.size + 7 := by rw [ByteArray.size_append]; exact Nat.add_le_add_left (by decide) _
    have HSI0 := Aside0.mk (sideM_some (ts := ts) (p := p) (n := 1) (sfx := oursS) (x := x))
    rw [show p ++ oursS = p ++ (⟨#[46, 111, 117, 114, 115]⟩ : ByteArray) from rfl] at HSI0
    generalize hnm : p ++ (⟨#[46, 111, 117, 114, 115]⟩ : ByteArray) = nm at hsn HSI0 ⊢
    have HNM := Aside0.mk hnm
    have HSN := Aside0.mk hsn
    have hzn : nm.size ≤ maxLen := by have := HPS.out; unfold maxLen; omega
    have hlook := HM.out.map.look_ok Tryz.underlying9 Tryz.underlying58 (zeroThree _) hzn
    simp only [byV_at] at hlook
    clear hnm hsn gk
    cases hh : hasP ts nm with
    | true =>
     have HSI : Aside0 (sideM (psT ts) p 1 oursS (findF (ts 1) p) = ([], 11)) := ⟨by rw [HX.out, HSI0.out, if_pos hh]⟩
     simp only [hh, if_pos, Option.getD_some, Option.isSome_some] at hlook
     clear hh
     go_wp2
     rw [← hQ.out]
     have hbm : bothM (psT ts) p (findF (ts 1) p) (findF (ts 2) p) = ([], 11) := by
      unfold bothM
      rw [if_neg (by rw [HSI.out]; decide), HSI.out]
     rw [hbm]
     exact ⟨rfl, HM.out.under, fun h => absurd h (by decide)⟩
    | false =>
     rw [hh] at hlook
     simp only [if_neg (show ¬ (false = true) by decide), Option.getD_none, Option.isSome_none] at hlook
     by_cases hbig : (200 : Int) < (nm.size : Int)
     ·have c5b : decide ((200 : Int) < (nm.size : Int)) = true := decide_eq_true hbig
      have HSI : Aside0 (sideM (psT ts) p 1 oursS (findF (ts 1) p) = ([], 10)) := ⟨by rw [HX.out, HSI0.out, if_neg (by rw [hh]; decide), if_pos (by omega)]⟩
      clear hh
      go_wp2
      rw [← hQ.out]
      have hbm : bothM (psT ts) p (findF (ts 1) p) (findF (ts 2) p) = ([], 10) := by
       unfold bothM
       rw [if_neg (by rw [HSI.out]; decide), HSI.out]
      rw [hbm]
      exact ⟨rfl, HM.out.under, fun h => absurd h (by decide)⟩
     ·have c5b : decide ((200 : Int) < (nm.size : Int)) = false := decide_eq_false hbig
      have HSI : Aside0 (sideM (psT ts) p 1 oursS (findF (ts 1) p) = ([⟨nm, x, 1⟩], 0)) := ⟨by rw [HX.out, HSI0.out, if_neg (by rw [hh]; decide), if_neg (by omega)]⟩
      have HEZ : Aside0 (∀ y, findF (ts 1) p = some y → EntZ ⟨nm, y, 1⟩) := ⟨fun y hy => ⟨by have := HSN.out; have := HPS.out; show nm.size ≤ _; omega, HZ.out 1 y hy, by show (Lit.int .i64 (1 : Int)).wf = true; decide⟩⟩
      clear hh hbig
      go_wp2_with (first
       | (go_at_call 41; refine (MPut1_calls HM.out (by have := HN0.out; omega) p nm hp HEZ.out).mono ?_; rintro e w5 ⟨rfl, hM5, hf5⟩; have HM5 := Aside0.mk hM5; have HF5 := Aside0.mk hf5; clear hM5 hf5 hlook k0 k1 k2 j0 j1 g0 g1)
       | fail)
      have hfin : BothRel W gm d g d1 d2 m n ts B s p bq w 1 w5 := by
       have hbm := HM.out.fence
       have hgb := HGB.out
       have hqb := (HF5.out.2 bq (blk_lt' HBQ.out) (by omega) (by omega)).trans HBQ.out
       have h5 := HM5.out
       rw [HX.out] at h5
       exact ⟨HFR.out.trans HF5.out, hqb, HGB.out, .inr (.inl ⟨rfl, by rw [HSI.out], by rw [HSI.out]; exact h5⟩)⟩
      have HFIN := Aside0.mk hfin
      clear hfin
      go_roundw
      case rel => exact ⟨1, by go_num, HFIN⟩
      case measure => simp [intOf]
  ·have HM := Aside0.mk hM
   have HS1 := Aside0.mk hs1
   clear hs1
   clear hM HR
   obtain ⟨hlt, v0, v1, v2, hb, q0, q1, q2⟩ := HM.out.three p hp
   obtain ⟨k0, k1, k2⟩ := three_cells hb
   obtain ⟨j0, j1⟩ := boxed2 HBQ.out
   clear hb hlt
   cases hx : findF (ts 2) p with
   | none =>
    rw [hx] at q2
    obtain rfl : v2 = .pointer none := q2
    have HSI : Aside0 (sideM (psT ts) p 2 theirsS (findF (ts 2) p) = ([], 0)) := ⟨by rw [hx]; rfl⟩
    clear hx
    have hfin : BothRel W gm d g d1 d2 m n ts B s p bq w 2 wr := ⟨HFR.out, HBQ.out, HGB.out, .inr (.inr ⟨rfl, HS1.out, by rw [HSI.out], by rw [HSI.out]; exact HM.out.mono (Nat.le_succ _)⟩)⟩
    have HFIN := Aside0.mk hfin
    clear hfin
    go_wp2
    go_roundw
    case rel => exact ⟨2, by go_num, HFIN⟩
    case measure => simp [intOf]
   | some x =>
    have hzx := HZ.out 2 x hx
    rw [hx] at q2
    obtain ⟨ad, rfl, hN⟩ := q2
    have HX := Aside0.mk hx
    have gk := (HT.out.below HM.out.under).end2
    have hov : ¬ (9223372036854775807 < p.size + 7) := by have := HPS.out; omega
    have hov2 : p.size + 7 ≤ 9223372036854775807 := by have := HPS.out; omega
    obtain ⟨g0, g1⟩ := boxed2 HM.out.box
    clear hN hx
    go_upto_region 6 with (fail)
    have hsn : (p ++ (⟨#[46, 116, 104, 101, 105, 114, 115]⟩ : ByteArray)).size ≤ p.size + 7 := by rw [ByteArray.size_append]; exact Nat.add_le_add_left (by decide) _
    have HSI0 := Aside0.mk (sideM_some (ts := ts) (p := p) (n := 2) (sfx := theirsS) (x := x))
    rw [show p ++ theirsS = p ++ (⟨#[46, 116, 104, 101, 105, 114, 115]⟩ : ByteArray) from rfl] at HSI0
    generalize hnm : p ++ (⟨#[46, 116, 104, 101, 105, 114, 115]⟩ : ByteArray) = nm at hsn HSI0 ⊢
    have HNM := Aside0.mk hnm
    have HSN := Aside0.mk hsn
    have hzn : nm.size ≤ maxLen := by have := HPS.out; unfold maxLen; omega
    have hlook := HM.out.map.look_ok Tryz.underlying9 Tryz.underlying58 (zeroThree _) hzn
    simp only [byV_at] at hlook
    clear hnm hsn gk
    cases hh : hasP ts nm with
    | true =>
     have HSI : Aside0 (sideM (psT ts) p 2 theirsS (findF (ts 2) p) = ([], 11)) := ⟨by rw [HX.out, HSI0.out, if_pos hh]⟩
     simp only [hh, if_pos, Option.getD_some, Option.isSome_some] at hlook
     clear hh
     go_wp2
     rw [← hQ.out]
     have hbm : bothM (psT ts) p (findF (ts 1) p) (findF (ts 2) p) = ([], 11) := by
      unfold bothM
      rw [if_pos HS1.out, if_neg (by rw [HSI.out]; decide), HSI.out]
     rw [hbm]
     exact ⟨rfl, HM.out.under, fun h => absurd h (by decide)⟩
    | false =>
     rw [hh] at hlook
     simp only [if_neg (show ¬ (false = true) by decide), Option.getD_none, Option.isSome_none] at hlook
     by_cases hbig : (200 : Int) < (nm.size : Int)
     ·have c5b : decide ((200 : Int) < (nm.size : Int)) = true := decide_eq_true hbig
      have HSI : Aside0 (sideM (psT ts) p 2 theirsS (findF (ts 2) p) = ([], 10)) := ⟨by rw [HX.out, HSI0.out, if_neg (by rw [hh]; decide), if_pos (by omega)]⟩
      clear hh
      go_wp2
      rw [← hQ.out]
      have hbm : bothM (psT ts) p (findF (ts 1) p) (findF (ts 2) p) = ([], 10) := by
       unfold bothM
       rw [if_pos HS1.out, if_neg (by rw [HSI.out]; decide), HSI.out]
      rw [hbm]
      exact ⟨rfl, HM.out.under, fun h => absurd h (by decide)⟩
     ·have c5b : decide ((200 : Int) < (nm.size : Int)) = false := decide_eq_false hbig
      have HSI : Aside0 (sideM (psT ts) p 2 theirsS (findF (ts 2) p) = ([⟨nm, x, 2⟩], 0)) := ⟨by rw [HX.out, HSI0.out, if_neg (by rw [hh]; decide), if_neg (by omega)]⟩
      have HEZ : Aside0 (∀ y, findF (ts 2) p = some y → EntZ ⟨nm, y, 2⟩) := ⟨fun y hy => ⟨by have := HSN.out; have := HPS.out; show nm.size ≤ _; omega, HZ.out 2 y hy, by show (Lit.int .i64 (2 : Int)).wf = true; decide⟩⟩
      clear hh hbig
      go_wp2_with (first
       | (go_at_call 41; refine (MPut2_calls HM.out (by have := HN0.out; omega) p nm hp HEZ.out).mono ?_; rintro e w5 ⟨rfl, hM5, hf5⟩; have HM5 := Aside0.mk hM5; have HF5 := Aside0.mk hf5; clear hM5 hf5 hlook k0 k1 k2 j0 j1 g0 g1)
       | fail)
      have hfin : BothRel W gm d g d1 d2 m n ts B s p bq w 2 w5 := by
       have hbm := HM.out.fence
       have hgb := HGB.out
       have hqb := (HF5.out.2 bq (blk_lt' HBQ.out) (by omega) (by omega)).trans HBQ.out
       have h5 := HM5.out
       rw [HX.out] at h5
       exact ⟨HFR.out.trans HF5.out, hqb, HGB.out, .inr (.inr ⟨rfl, HS1.out, by rw [HSI.out], by rw [HSI.out]; exact h5⟩)⟩
      have HFIN := Aside0.mk hfin
      clear hfin
      go_roundw
      case rel => exact ⟨2, by go_num, HFIN⟩
      case measure => simp [intOf]
  ·have HM := Aside0.mk hM
   clear hM HR
   go_wp2
   rw [← hQ.out]
   have hbm : bothM (psT ts) p (findF (ts 1) p) (findF (ts 2) p) = ((sideM (psT ts) p 1 oursS (findF (ts 1) p)).1 ++ (sideM (psT ts) p 2 theirsS (findF (ts 2) p)).1, 0) := by
    unfold bothM
    rw [if_pos hs1, if_pos hs2]
   rw [hbm]
   refine ⟨rfl, HM.out.under, fun _ => ⟨?_, HFR.out⟩⟩
   rw [List.foldl_append]
   exact HM.out
set_option maxRecDepth 100000 in
set_option maxHeartbeats 8000000 in
theorem Settle_calls {W w : World} {gm d g d1 d2 m n : Nat} {ts : TS} {B : List UInt8 → Nat} {s : PL} (hT : Tabs W) (hM : MergerAt W w gm d g d1 d2 m n ts B s) (hn : n < 100000000) (p : ByteArray) (hp : hasP ts p = true) (hps : p.size ≤ 8000000000000) (hz : ∀ j x, findF (ts j) p = some x → NodeZ x) (policy : Int) :
  Calls Tryz.prog 28 #[.pointer (some ⟨gm, 0, none⟩), .string p, .int .i64 policy] w fun e w' => e = .returned (.int .i64 (settleM (psT ts) policy p (findF (ts 0) p) (findF (ts 1) p) (findF (ts 2) p)).2) ∧ Below W.heap.size W w' ∧ ((settleM (psT ts) policy p (findF (ts 0) p) (findF (ts 1) p) (findF (ts 2) p)).2 = 0 → MergerAt W w' gm d g d1 d2 m (n + 2) ts B ((settleM (psT ts) policy p (findF (ts 0) p) (findF (ts 1) p) (findF (ts 2) p)).1.foldl putE s) ∧ Fr d1 d2 w w') := by
 have HT := Aside0.mk hT
 have HM := Aside0.mk hM
 have HN0 := Aside0.mk hn
 have HZ := Aside0.mk hz
 have HPS := Aside0.mk hps
 have HEZ : Aside0 (∀ j : Nat, 1 ≤ j → j ≤ 2 → ∀ y, findF (ts j) p = some y → EntZ ⟨p, y, (j : Int)⟩) := ⟨fun j h1 h2 y hy => ⟨by have := hps; show p.size ≤ _; omega, hz j y hy, wf_small (i := (j : Int)) (by omega) (by omega)⟩⟩
 obtain ⟨hlt, v0, v1, v2, hb, q0, q1, q2⟩ := hM.three p hp
 obtain ⟨k0, k1, k2⟩ := three_cells hb
 have HBX := Aside0.mk hb
 obtain ⟨g0, g1⟩ := boxed2 hM.box
 have hlook := hM.map.look Tryz.underlying9 Tryz.underlying58 (zeroThree _) (s := p) (by unfold maxLen; omega)
 rw [byV_at, if_pos hp, Option.getD_some] at hlook
 have HBTH := Aside0.mk (fun (w1 : World) (h : MergerAt W w1 gm d g d1 d2 m n ts B s) => Both_calls hT h hn p hp hps hz)
 generalize hbxe : B p.data.toList = bx at hb hlook k0 k1 k2 hlt HBX HBTH
 have HBE := Aside0.mk hbxe
 have hput1 := fun (w1 : World) (h : MergerAt W w1 gm d g d1 d2 m n ts B s) => MPut1_calls h (by omega) p p hp (HEZ.out 1 (by decide) (by decide))
 have hput2 := fun (w1 : World) (h : MergerAt W w1 gm d g d1 d2 m n ts B s) => MPut2_calls h (by omega) p p hp (HEZ.out 2 (by decide) (by decide))
 rw [hbxe] at hput1 hput2
 have HPU1 := Aside0.mk hput1
 have HPU2 := Aside0.mk hput2
 have Q0 := Aside0.mk q0
 have Q1 := Aside0.mk q1
 have Q2 := Aside0.mk q2
 clear hT hM hn hz hps hb hlt hput1 hput2 hbxe q0 q1 q2
 generalize hpost : (fun (e : Ending) (w' : World) => e = .returned (.int .i64 (settleM (psT ts) policy p (findF (ts 0) p) (findF (ts 1) p) (findF (ts 2) p)).2) ∧ Below W.heap.size W w' ∧ ((settleM (psT ts) policy p (findF (ts 0) p) (findF (ts 1) p) (findF (ts 2) p)).2 = 0 → MergerAt W w' gm d g d1 d2 m (n + 2) ts B ((settleM (psT ts) policy p (findF (ts 0) p) (findF (ts 1) p) (findF (ts 2) p)).1.foldl putE s) ∧ Fr d1 d2 w w')) = Q
 have hQ := Aside0.mk hpost
 clear hpost
 cases hc : conflictO (findF (ts 0) p) (findF (ts 1) p) (findF (ts 2) p) with
 | false =>
  have HCF := Aside0.mk hc
  cases ho : oursO (findF (ts 0) p) (findF (ts 1) p) (findF (ts 2) p) with
  | true =>
   have HOU : Aside0 ((if oursO (findF (ts 0) p) (findF (ts 1) p) (findF (ts 2) p) = true then (1 : Int) else 2) = 1) := ⟨by rw [ho]; rfl⟩
   have HSM : Aside0 (settleM (psT ts) policy p (findF (ts 0) p) (findF (ts 1) p) (findF (ts 2) p) = (entM 1 p (findF (ts 1) p), 0)) := ⟨by unfold settleM; rw [if_pos hc, if_pos ho]⟩
   clear hc ho
   go_enter Tryz.func28, Tryz.ntmps28
   go_wp2_with (first
    | (go_at_call 38; refine (Conflict_calls v0 v1 v2 _ _ _ _ (Q0.out.below HM.out.under) (Q1.out.below HM.out.under) (Q2.out.below HM.out.under)).mono ?_; rintro e w1 ⟨rfl, hb1⟩; rw [HCF.out]; have HM1 := Aside0.mk (HM.out.below hb1); have HF1 : Aside0 (Fr d1 d2 w w1) := ⟨Fr.of hb1⟩; clear k0 k1 k2 hlook; obtain ⟨k0, k1, k2⟩ := three_cells (three_below hb1 HBX.out); clear hb1)
    | (go_at_call 42; refine (Chosen_calls v0 v1 v2 _ _ _ _ (Q0.out.below HM1.out.under) (Q1.out.below HM1.out.under) (Q2.out.below HM1.out.under)).mono ?_; rintro e w3 ⟨rfl, hb3⟩; rw [HOU.out]; have HM3 := Aside0.mk (HM1.out.below hb3); have HF3 : Aside0 (Fr d1 d2 w w3) := ⟨HF1.out.trans (Fr.of hb3)⟩; clear hb3 k0 k1 k2)
    | (go_at_call 41; refine (HPU1.out _ HM3.out).mono ?_; rintro e w5 ⟨rfl, hM5, hf5⟩; have HM5 := Aside0.mk hM5; have HF5 : Aside0 (Fr d1 d2 w w5) := ⟨HF3.out.trans hf5⟩; clear hM5 hf5)
    | fail)
   rw [← hQ.out]
   rw [HSM.out]
   exact ⟨rfl, HM5.out.under, fun _ => ⟨HM5.out.mono (Nat.le_succ _), HF5.out⟩⟩
  | false =>
   have HOU : Aside0 ((if oursO (findF (ts 0) p) (findF (ts 1) p) (findF (ts 2) p) = true then (1 : Int) else 2) = 2) := ⟨by rw [ho]; rfl⟩
   have HSM : Aside0 (settleM (psT ts) policy p (findF (ts 0) p) (findF (ts 1) p) (findF (ts 2) p) = (entM 2 p (findF (ts 2) p), 0)) := ⟨by unfold settleM; rw [if_pos hc, if_neg (by rw [ho]; decide)]⟩
   clear hc ho
   go_enter Tryz.func28, Tryz.ntmps28
   go_wp2_with (first
    | (go_at_call 38; refine (Conflict_calls v0 v1 v2 _ _ _ _ (Q0.out.below HM.out.under) (Q1.out.below HM.out.under) (Q2.out.below HM.out.under)).mono ?_; rintro e w1 ⟨rfl, hb1⟩; rw [HCF.out]; have HM1 := Aside0.mk (HM.out.below hb1); have HF1 : Aside0 (Fr d1 d2 w w1) := ⟨Fr.of hb1⟩; clear k0 k1 k2 hlook; obtain ⟨k0, k1, k2⟩ := three_cells (three_below hb1 HBX.out); clear hb1)
    | (go_at_call 42; refine (Chosen_calls v0 v1 v2 _ _ _ _ (Q0.out.below HM1.out.under) (Q1.out.below HM1.out.under) (Q2.out.below HM1.out.under)).mono ?_; rintro e w3 ⟨rfl, hb3⟩; rw [HOU.out]; have HM3 := Aside0.mk (HM1.out.below hb3); have HF3 : Aside0 (Fr d1 d2 w w3) := ⟨HF1.out.trans (Fr.of hb3)⟩; clear hb3 k0 k1 k2)
    | (go_at_call 41; refine (HPU2.out _ HM3.out).mono ?_; rintro e w5 ⟨rfl, hM5, hf5⟩; have HM5 := Aside0.mk hM5; have HF5 : Aside0 (Fr d1 d2 w w5) := ⟨HF3.out.trans hf5⟩; clear hM5 hf5)
    | fail)
   rw [← hQ.out]
   rw [HSM.out]
   exact ⟨rfl, HM5.out.under, fun _ => ⟨HM5.out.mono (Nat.le_succ _), HF5.out⟩⟩
 | true =>
  have HCF := Aside0.mk hc
  by_cases hp1 : policy = 1
  ·subst hp1
   have HSM : Aside0 (settleM (psT ts) 1 p (findF (ts 0) p) (findF (ts 1) p) (findF (ts 2) p) = (entM 1 p (findF (ts 1) p), 0)) := ⟨by unfold settleM; rw [if_neg (by rw [hc]; decide), if_pos rfl]⟩
   clear hc
   go_enter Tryz.func28, Tryz.ntmps28
   go_wp2_with (first
    | (go_at_call 38; refine (Conflict_calls v0 v1 v2 _ _ _ _ (Q0.out.below HM.out.under) (Q1.out.below HM.out.under) (Q2.out.below HM.out.under)).mono ?_; rintro e w1 ⟨rfl, hb1⟩; rw [HCF.out]; have HM1 := Aside0.mk (HM.out.below hb1); have HF1 : Aside0 (Fr d1 d2 w w1) := ⟨Fr.of hb1⟩; clear k0 k1 k2 hlook; obtain ⟨k0, k1, k2⟩ := three_cells (three_below hb1 HBX.out); clear hb1)
    | (go_at_call 41; refine (HPU1.out _ HM1.out).mono ?_; rintro e w5 ⟨rfl, hM5, hf5⟩; have HM5 := Aside0.mk hM5; have HF5 : Aside0 (Fr d1 d2 w w5) := ⟨HF1.out.trans hf5⟩; clear hM5 hf5)
    | fail)
   rw [← hQ.out]
   rw [HSM.out]
   exact ⟨rfl, HM5.out.under, fun _ => ⟨HM5.out.mono (Nat.le_succ _), HF5.out⟩⟩
  ·have e1 : (policy == 1) = false := beq_eq_false_iff_ne.2 hp1
   by_cases hp2 : policy = 2
   ·subst hp2
    have HSM : Aside0 (settleM (psT ts) 2 p (findF (ts 0) p) (findF (ts 1) p) (findF (ts 2) p) = (entM 2 p (findF (ts 2) p), 0)) := ⟨by unfold settleM; rw [if_neg (by rw [hc]; decide), if_neg (by decide), if_pos rfl]⟩
    clear hc hp1
    go_enter Tryz.func28, Tryz.ntmps28
    go_wp2_with (first
     | (go_at_call 38; refine (Conflict_calls v0 v1 v2 _ _ _ _ (Q0.out.below HM.out.under) (Q1.out.below HM.out.under) (Q2.out.below HM.out.under)).mono ?_; rintro e w1 ⟨rfl, hb1⟩; rw [HCF.out]; have HM1 := Aside0.mk (HM.out.below hb1); have HF1 : Aside0 (Fr d1 d2 w w1) := ⟨Fr.of hb1⟩; clear k0 k1 k2 hlook; obtain ⟨k0, k1, k2⟩ := three_cells (three_below hb1 HBX.out); clear hb1)
     | (go_at_call 41; refine (HPU2.out _ HM1.out).mono ?_; rintro e w5 ⟨rfl, hM5, hf5⟩; have HM5 := Aside0.mk hM5; have HF5 : Aside0 (Fr d1 d2 w w5) := ⟨HF1.out.trans hf5⟩; clear hM5 hf5)
     | fail)
    rw [← hQ.out]
    rw [HSM.out]
    exact ⟨rfl, HM5.out.under, fun _ => ⟨HM5.out.mono (Nat.le_succ _), HF5.out⟩⟩
   ·have e2 : (policy == 2) = false := beq_eq_false_iff_ne.2 hp2
    by_cases hp4 : policy = 4
    ·subst hp4
     have HSM : Aside0 (settleM (psT ts) 4 p (findF (ts 0) p) (findF (ts 1) p) (findF (ts 2) p) = bothM (psT ts) p (findF (ts 1) p) (findF (ts 2) p)) := ⟨by unfold settleM; rw [if_neg (by rw [hc]; decide), if_neg (by decide), if_neg (by decide), if_pos rfl]⟩
     clear hc hp1 hp2
     go_enter Tryz.func28, Tryz.ntmps28
     go_wp2_with (first
      | (go_at_call 38; refine (Conflict_calls v0 v1 v2 _ _ _ _ (Q0.out.below HM.out.under) (Q1.out.below HM.out.under) (Q2.out.below HM.out.under)).mono ?_; rintro e w1 ⟨rfl, hb1⟩; rw [HCF.out]; have HM1 := Aside0.mk (HM.out.below hb1); have HF1 : Aside0 (Fr d1 d2 w w1) := ⟨Fr.of hb1⟩; clear k0 k1 k2 hlook; obtain ⟨k0, k1, k2⟩ := three_cells (three_below hb1 HBX.out); clear hb1)
      | (go_at_call 43; refine (HBTH.out _ HM1.out).mono ?_; rintro e w5 ⟨rfl, hB5, hM5⟩; replace hM5 := (fun hz_ => (⟨(hM5 hz_).1, HF1.out.trans (hM5 hz_).2⟩ : _ ∧ Fr d1 d2 w w5)); have HB5 := Aside0.mk hB5; have HM5 := Aside0.mk hM5; clear hM5 hB5 k0 k1 k2)
      | fail)
     rw [← hQ.out]
     rw [HSM.out]
     exact ⟨rfl, HB5.out, HM5.out⟩
    ·have e4 : (policy == 4) = false := beq_eq_false_iff_ne.2 hp4
     have HSM : Aside0 (settleM (psT ts) policy p (findF (ts 0) p) (findF (ts 1) p) (findF (ts 2) p) = ([], 11)) := ⟨by unfold settleM; rw [if_neg (by rw [hc]; decide), if_neg hp1, if_neg hp2, if_neg hp4]⟩
     clear hc hp1 hp2 hp4
     go_enter Tryz.func28, Tryz.ntmps28
     go_wp2_with (first
      | (go_at_call 38; refine (Conflict_calls v0 v1 v2 _ _ _ _ (Q0.out.below HM.out.under) (Q1.out.below HM.out.under) (Q2.out.below HM.out.under)).mono ?_; rintro e w1 ⟨rfl, hb1⟩; rw [HCF.out]; have HM1 := Aside0.mk (HM.out.below hb1); have HF1 : Aside0 (Fr d1 d2 w w1) := ⟨Fr.of hb1⟩; clear k0 k1 k2 hlook; obtain ⟨k0, k1, k2⟩ := three_cells (three_below hb1 HBX.out); clear hb1)
      | fail)
     rw [← hQ.out]
     rw [HSM.out]
     exact ⟨rfl, HM1.out.under, fun h => absurd h (by decide)⟩
end Go.Proofs.YtbngbefchobfnaaGreatDoor

namespace Go.Proofs.YtbngbefchobfnaaGreatDoor
open Go.RowKit Go.Maps Go.WideMaps Go.Proofs.YtbngbefchobfnaaGreatDoor.Print Go.Proofs.YtbngbefchobfnaaGreatDoorW.PrintWords Go.Proofs.YtbngbefchobfnaaGreatDoorW.PrintLast Go.Proofs.YtbngbefchobfnaaGreatDoorW.PrintMore
set_option linter.unusedVariables false
set_option linter.unusedSimpArgs false
theorem infoStrM : (Tryz.prog.info? 9).map (fun i => (i.zero, i.size, i.bytes)) = some (some (.string ⟨#[]⟩), 1, 16) := by kernel_rfl
abbrev zeroP (l : List ByteArray) : PS := l.map (fun p => (p, 0))
theorem zeroP_fst (l : List ByteArray) : (zeroP l).map (fun q => q.1) = l := by
 unfold zeroP
 rw [List.map_map]
 exact List.map_id _
theorem paths_sorted {l : List ByteArray} (h : PW l) : (sortP (zeroP l)).map (fun q => q.1) = l := by
 have hn : ((zeroP l).map (fun q => q.1)).Nodup := by rw [zeroP_fst]; exact pw_nodup h
 refine sorted_eq (List.pairwise_map.2 (sortP_rise hn)) h (fun p => ?_)
 have := ((sortP_perm (zeroP l)).map (fun q => q.1)).mem_iff (a := p)
 rw [this, zeroP_fst]
theorem keysP_zero (l : List ByteArray) : keysP (zeroP l) = l.map (fun p => p.data.toList) := by
 unfold keysP zeroP
 rw [List.map_map]
 rfl
set_option maxRecDepth 100000 in
set_option maxHeartbeats 4000000 in
theorem Paths_calls {W w : World} {gm d g d1 d2 m n : Nat} {ts : TS} {B : List UInt8 → Nat} {s : PL} (hM : MergerAt W w gm d g d1 d2 m n ts B s) (hl : (psT ts).length ≤ 1000000) :
  Calls Tryz.prog 27 #[.pointer (some ⟨gm, 0, none⟩)] w fun e w' => ∃ A c, e = .returned (.slice A (psT ts).length c) ∧ Kd.V Kd.string 9 w' w.heap.size (fun k => w.heap.size ≤ k) (.slice A (psT ts).length c) (psT ts) ∧ Below w.heap.size w w' := by
 have hpw : PW (psT ts) := paths3_pw _ _ _
 have hnd : ((psT ts).map (fun p => p.data.toList)).Nodup := by
  have := keysP_nodup (s := zeroP (psT ts)) (by rw [zeroP_fst]; exact pw_nodup hpw)
  rw [keysP_zero] at this
  exact this
 obtain ⟨D1, hown1, hperm1, hsz1⟩ := hM.map.keys Tryz.underlying9 (qs := (psT ts).map (fun p => p.data.toList)) hnd (fun k => by
  unfold byV
  rw [← hasP_in]
  constructor
  ·intro h
   obtain ⟨p, hp, rfl⟩ := List.mem_map.1 h
   rw [if_pos (inL_iff.2 hp)]
   rfl
  ·intro h
   by_cases h2 : inL (psT ts) ⟨k.toArray⟩ = true
   ·exact List.mem_map.2 ⟨_, inL_iff.1 h2, by simp⟩
   ·rw [if_neg h2] at h
    cases h)
 rw [List.length_map] at hsz1
 have hcS := callsIn_wide.1 (Tryz.slices_Sorted_keys_39_40 d m D1 heldE _ hown1 (by rw [hsz1]; unfold maxLen; omega) (by rw [hsz1]; omega))
 simp only [World.size_alloc] at hcS
 have HCS := Aside0.mk hcS
 have HKK := Aside0.mk hperm1
 have HPW := Aside0.mk hpw
 obtain ⟨g0, g1⟩ := boxed2 hM.box
 clear hM hown1 hperm1 hsz1 hcS hpw hnd
 generalize hpost : (fun (e : Ending) (w' : World) => ∃ A c, e = .returned (.slice A (psT ts).length c) ∧ Kd.V Kd.string 9 w' w.heap.size (fun k => w.heap.size ≤ k) (.slice A (psT ts).length c) (psT ts) ∧ Below w.heap.size w w') = Q
 have hQ := Aside0.mk hpost
 clear hpost
 go_enter Tryz.func27, Tryz.ntmps27
 go_wp2_with (first
  | (go_at_call 40; refine (callsIn_wide.1 (Tryz.maps_Keys_40 _ _)).mono ?_; rintro e w' ⟨rfl, rfl⟩; clear g0 g1)
  | (go_at_call 39; refine HCS.out.mono ?_; rintro e w2 ⟨vq, ss, rfl, hS, hrow, hnil, hb2⟩; have HS := Aside0.mk hS; have HROW := Aside0.mk hrow; have HB2 := Aside0.mk hb2; clear hS hrow hnil hb2)
  | fail)
 rw [← hQ.out]
 obtain ⟨⟨Aq, cq, hvq⟩, hRq⟩ := sorted_row (s := zeroP (psT ts)) HROW.out (by rw [keysP_zero]; exact HS.out.trans HKK.out.symm) (by rw [zeroP_fst]; exact pw_nodup HPW.out)
 have hlen : (sortP (zeroP (psT ts))).length = (psT ts).length := by rw [(sortP_perm _).length_eq, List.length_map]
 rw [hlen] at hvq
 rw [paths_sorted HPW.out] at hRq
 subst hvq
 refine ⟨Aq, cq, rfl, Kd.R_V (Kd.R_mono (Kd.R_bound hRq) (fun k hk => by have := hk.2.1; omega)), (below_alloc (Below.refl _ _) _).trans (HB2.out.mono (by omega))⟩
def ConfRel (ts : TS) (w1 : World) (i : Int) (v : Value) (wr : World) : Prop :=
 0 ≤ i ∧ i ≤ (psT ts).length ∧ Kd.R Kd.string 9 wr w1.heap.size (fun _ => True) v (((psT ts).take i.toNat).filter (conflictAt (ts 0) (ts 1) (ts 2))) ∧ Below w1.heap.size w1 wr
theorem str_row {w : World} {base : Nat} {ok : Nat → Prop} {A : Option Addr} {c : Nat} {xs : List ByteArray} (h : Kd.V Kd.string 9 w base ok (.slice A xs.length c) xs) (i : Int) (h0 : 0 ≤ i) (h1 : i < xs.length) : ∃ ad, A = some ad ∧ w.cell? (ad.add i.toNat) = some (.string (xs[i.toNat]'(by omega))) := by
 obtain ⟨ad, hA, x0⟩ := Kd.at_string (Kd.V_reads' h).2.2 i h0 h1
 refine ⟨ad, hA, ?_⟩
 have hx : rdOf ByteArray.empty xs i = xs[i.toNat]'(by omega) := by
  unfold rdOf
  rw [List.getD_eq_getElem?_getD, List.getElem?_eq_getElem (by omega)]
  rfl
 rw [← hx]
 exact x0
set_option maxRecDepth 100000 in
set_option maxHeartbeats 4000000 in
theorem Conf_calls {W w : World} {gm d g d1 d2 m n : Nat} {ts : TS} {B : List UInt8 → Nat} {s : PL} (hM : MergerAt W w gm d g d1 d2 m n ts B s) (hl : (psT ts).length ≤ 1000000) (hz : ∀ p ∈ psT ts, p.size ≤ 8000000000000) :
  Calls Tryz.prog 24 #[.pointer (some ⟨gm, 0, none⟩)] w fun e w' => ∃ v, e = .returned v ∧ Kd.R Kd.string 9 w' w.heap.size (fun _ => True) v (conflictsF (ts 0) (ts 1) (ts 2)) ∧ Below w.heap.size w w' := by
 have HM := Aside0.mk hM
 have HZ := Aside0.mk hz
 have HL := Aside0.mk hl
 have hll : ((psT ts).length : Int) ≤ 1000000 := by omega
 clear hM hz hl
 generalize hpost : (fun (e : Ending) (w' : World) => ∃ v, e = .returned v ∧ Kd.R Kd.string 9 w' w.heap.size (fun _ => True) v (conflictsF (ts 0) (ts 1) (ts 2)) ∧ Below w.heap.size w w') = Q
 have hQ := Aside0.mk hpost
 clear hpost
 go_enter Tryz.func24, Tryz.ntmps24
 go_upto_region 3 with (first
  | (go_at_call 27; refine (Paths_calls HM.out HL.out).mono ?_; rintro e w1 ⟨Aq, cq, rfl, hV1, hB1⟩; have HV1 := Aside0.mk hV1; have HB1 := Aside0.mk hB1; clear hV1 hB1)
  | fail)
 have HST : Aside0 (ConfRel ts w1 0 (.slice none 0 0) w1) := ⟨⟨by omega, by omega, Kd.R_nil _ _ _ _ _, Below.refl _ _⟩⟩
 go_loopw [9, 3] (fun i v wr => ∃ k : Int, i = .int .i64 k ∧ Aside0 (ConfRel ts w1 k v wr)) (fun i _ _ => ((psT ts).length - (intOf i)).toNat)
 case atStart => exact ⟨0, rfl, HST⟩
 case round =>
  clear HST
  obtain ⟨k, rfl, HR⟩ := hrel
  have h0 := HR.out.1
  have h1 := HR.out.2.1
  obtain ⟨Ao, co, rfl⟩ := Kd.R_slice HR.out.2.2.1
  by_cases hlt : k < ((psT ts).length : Int)
  ·have c1b : decide (k < ((psT ts).length : Int)) = true := decide_eq_true hlt
   have hkl : k.toNat < (psT ts).length := by omega
   obtain ⟨ad, rfl, x0⟩ := str_row (Kd.V_below HV1.out HR.out.2.2.2) k h0 hlt
   have hpm : (psT ts)[k.toNat] ∈ psT ts := List.getElem_mem hkl
   have htk := List.take_succ_eq_append_getElem hkl
   generalize (psT ts)[k.toNat] = p at x0 hpm htk
   have hMr := HM.out.below (HB1.out.trans (HR.out.2.2.2.mono HB1.out.size))
   have hhp : hasP ts p = true := by rw [← hasP_in]; exact inL_iff.2 hpm
   have hsz := HZ.out p hpm
   have hlook := hMr.map.look Tryz.underlying9 Tryz.underlying58 (zeroThree _) (s := p) (by unfold maxLen; omega)
   rw [byV_at, if_pos hhp, Option.getD_some] at hlook
   obtain ⟨_, v0, v1, v2, hb, q0, q1, q2⟩ := hMr.three p hhp
   obtain ⟨k0, k1, k2⟩ := three_cells hb
   obtain ⟨g0, g1⟩ := boxed2 hMr.box
   have HMR := Aside0.mk hMr
   have Q0 := Aside0.mk q0
   have Q1 := Aside0.mk q1
   have Q2 := Aside0.mk q2
   have HTK := Aside0.mk htk
   clear hMr q0 q1 q2 hb hpm htk hhp hsz
   cases hc : conflictO (findF (ts 0) p) (findF (ts 1) p) (findF (ts 2) p) with
   | false =>
    have HCF := Aside0.mk hc
    have HCA : Aside0 (conflictAt (ts 0) (ts 1) (ts 2) p = false) := ⟨hc⟩
    clear hc
    go_wp2_with (first
     | (go_at_call 38; refine (Conflict_calls v0 v1 v2 _ _ _ _ (Q0.out.below HMR.out.under) (Q1.out.below HMR.out.under) (Q2.out.below HMR.out.under)).mono ?_; rintro e w3 ⟨rfl, hb3⟩; rw [HCF.out]; have HB3 := Aside0.mk hb3; clear hb3 k0 k1 k2 g0 g1 hlook x0)
     | fail)
    have hfin : ConfRel ts w1 (k + 1) (.slice Ao (((psT ts).take k.toNat).filter (conflictAt (ts 0) (ts 1) (ts 2))).length co) w3 := by
     have e1 : (k + 1).toNat = k.toNat + 1 := by omega
     refine ⟨by omega, by omega, ?_, HR.out.2.2.2.trans (HB3.out.mono HR.out.2.2.2.size)⟩
     rw [e1, HTK.out, List.filter_append, List.filter_cons_of_neg (by rw [HCA.out]; decide), List.filter_nil, List.append_nil]
     exact Kd.R_below HR.out.2.2.1 HB3.out
    have HFIN := Aside0.mk hfin
    clear hfin
    go_roundw
    case rel => exact ⟨k + 1, by go_num, HFIN⟩
    case measure => simp [intOf]; omega
   | true =>
    have HCF := Aside0.mk hc
    have HCA : Aside0 (conflictAt (ts 0) (ts 1) (ts 2) p = true) := ⟨hc⟩
    clear hc
    go_upto_region 6 with (first
     | (go_at_call 38; refine (Conflict_calls v0 v1 v2 _ _ _ _ (Q0.out.below HMR.out.under) (Q1.out.below HMR.out.under) (Q2.out.below HMR.out.under)).mono ?_; rintro e w3 ⟨rfl, hb3⟩; rw [HCF.out]; have HB3 := Aside0.mk hb3; clear hb3 k0 k1 k2 g0 g1 hlook x0)
     | fail)
    have HRW := Aside0.mk (Kd.R_below HR.out.2.2.1 HB3.out)
    have HBW := Aside0.mk (HR.out.2.2.2.trans (HB3.out.mono HR.out.2.2.2.size))
    have HLF : Aside0 ((((psT ts).take k.toNat).filter (conflictAt (ts 0) (ts 1) (ts 2))).length ≤ 1000000) := ⟨by have h1 := List.length_filter_le (conflictAt (ts 0) (ts 1) (ts 2)) ((psT ts).take k.toNat); rw [List.length_take] at h1; have := HL.out; omega⟩
    generalize hce : ((psT ts).take k.toNat).filter (conflictAt (ts 0) (ts 1) (ts 2)) = cs at HRW HLF ⊢
    have HCE := Aside0.mk hce
    clear hce HR
    go_wp2_with (first
     | (at_builtin; refine Kd.R_append Kd.string (w0 := w1) (W := w3) w1.heap.size rfl _ _ 25 9 (.string ⟨#[]⟩) 16 rfl Tryz.underlying25 infoStrM rfl (by decide) (by decide) (.slice Ao cs.length co) cs p [.string p] (fun _ => True) (fun _ => False) rfl rfl rfl (fun _ h => h.elim) (fun _ _ => trivial) HRW.out HBW.out HBW.out.size (by have := HLF.out; omega) ?_; intro v9 w9 hR9 hB9 hg9 hat9; have HR9 := Aside0.mk hR9; have HB9 := Aside0.mk hB9; clear hR9 hB9 hg9 hat9)
     | fail)
    have hfin : ConfRel ts w1 (k + 1) v9 w9 := by
     have e1 : (k + 1).toNat = k.toNat + 1 := by omega
     refine ⟨by omega, by omega, ?_, HB9.out⟩
     rw [e1, HTK.out, List.filter_append, HCE.out, List.filter_cons_of_pos HCA.out, List.filter_nil]
     exact HR9.out
    have HFIN := Aside0.mk hfin
    clear hfin
    go_roundw
    case rel => exact ⟨k + 1, by go_num, HFIN⟩
    case measure => simp [intOf]; omega
  ·have c1b : decide (k < ((psT ts).length : Int)) = false := decide_eq_false hlt
   have hke : k.toNat = (psT ts).length := by omega
   have hRr := HR.out.2.2.1
   have HBR := Aside0.mk HR.out.2.2.2
   generalize (Value.slice Ao (((psT ts).take k.toNat).filter (conflictAt (ts 0) (ts 1) (ts 2))).length co) = v at hRr ⊢
   rw [hke, List.take_length] at hRr
   have HRR := Aside0.mk hRr
   clear HR hRr
   go_wp2
   rw [← hQ.out]
   exact ⟨_, rfl, Kd.R_lower HRR.out HB1.out.size, HB1.out.trans (HBR.out.mono HB1.out.size)⟩
def confF (b o t : List Node) : List ByteArray × Int := if goodTree b = true ∧ goodTree o = true ∧ goodTree t = true then (conflictsF b o t, 0) else ([], 1)
def ts3 (b o t : List Node) : TS := fun j => if j = 0 then b else if j = 1 then o else t
theorem psT_z {b o t : List Node} (hb : TreeZ b) (ho : TreeZ o) (ht : TreeZ t) : (psT (ts3 b o t)).length ≤ 30000 ∧ ∀ p ∈ psT (ts3 b o t), p.size ≤ 8000000000000 := by
 refine ⟨?_, fun p hp => ?_⟩
 ·have := paths3_len b o t
  have h1 := hb.1
  have h2 := ho.1
  have h3 := ht.1
  show (paths3 b o t).length ≤ 30000
  omega
 ·have h : ∀ {u : List Node}, TreeZ u → (findF u p).isSome = true → p.size ≤ 8000000000000 := fun {u} hu hf => by
   obtain ⟨x, hx⟩ := Option.isSome_iff_exists.1 hf
   obtain ⟨h1, h2⟩ := findF_mem hx
   rw [← h2]
   exact (hu.node h1).2.1
  rcases paths3_mem.1 hp with h1 | h1 | h1
  ·exact h hb h1
  ·exact h ho h1
  ·exact h ht h1
section
variable (A0 A1 A2 : Option Addr) (c0 c1 c2 : Nat) (b o t : List Node) (W : World) (hT : Tabs W)
 (hC0 : Kd.C k42 W A0 b.length b) (hc0 : b.length ≤ c0) (hC1 : Kd.C k42 W A1 o.length o) (hc1 : o.length ≤ c1) (hC2 : Kd.C k42 W A2 t.length t) (hc2 : t.length ≤ c2)
 (hb : TreeZ b) (ho : TreeZ o) (ht : TreeZ t)
include hT hC0 hc0 hC1 hc1 hC2 hc2 hb ho ht
theorem Read3_calls : Calls Tryz.prog 23 #[.agg #[.slice A0 b.length c0, .slice A1 o.length c1, .slice A2 t.length c2]] W fun e W' =>
   (¬ (goodTree b = true ∧ goodTree o = true ∧ goodTree t = true) ∧ e = .returned (.tuple #[.pointer none, .int .i64 1]) ∧ Below W.heap.size W W') ∨
   ((goodTree b = true ∧ goodTree o = true ∧ goodTree t = true) ∧ ∃ gm d g d1 d2 m B, m ≤ 30000 ∧ e = .returned (.tuple #[.pointer (some ⟨gm, 0, none⟩), .int .i64 0]) ∧ MergerAt W W' gm d g d1 d2 m 0 (ts3 b o t) B []) :=
 Read_calls (fun j => if j = 0 then A0 else if j = 1 then A1 else A2) (fun j => if j = 0 then c0 else if j = 1 then c1 else c2) (ts3 b o t) W hT
  (fun j hj => by match j, hj with | 0, _ => exact hC0 | 1, _ => exact hC1 | 2, _ => exact hC2)
  (fun j hj => by match j, hj with | 0, _ => exact hc0 | 1, _ => exact hc1 | 2, _ => exact hc2)
  (fun j hj => by match j, hj with | 0, _ => exact hb | 1, _ => exact ho | 2, _ => exact ht)
set_option maxRecDepth 100000 in
set_option maxHeartbeats 4000000 in
theorem Conflicts_calls : Calls Tryz.prog 11 #[.slice A0 b.length c0, .slice A1 o.length c1, .slice A2 t.length c2] W fun e W' => ∃ v, e = .returned (.tuple #[v, .int .i64 (confF b o t).2]) ∧ Kd.V Kd.string 9 W' W.heap.size (fun k => W.heap.size ≤ k) v (confF b o t).1 ∧ Below W.heap.size W W' := by
 have HRD := Aside0.mk (Read3_calls A0 A1 A2 c0 c1 c2 b o t W hT hC0 hc0 hC1 hc1 hC2 hc2 hb ho ht)
 have HPZ := Aside0.mk (psT_z hb ho ht)
 clear hT hC0 hc0 hC1 hc1 hC2 hc2 hb ho ht
 generalize hpost : (fun (e : Ending) (W' : World) => ∃ v, e = .returned (.tuple #[v, .int .i64 (confF b o t).2]) ∧ Kd.V Kd.string 9 W' W.heap.size (fun k => W.heap.size ≤ k) v (confF b o t).1 ∧ Below W.heap.size W W') = Q
 have hQ := Aside0.mk hpost
 clear hpost
 by_cases hg : goodTree b = true ∧ goodTree o = true ∧ goodTree t = true
 ·have HG := Aside0.mk hg
  clear hg
  go_enter Tryz.func11, Tryz.ntmps11
  go_wp2_with (first
   | (go_at_call 23; refine HRD.out.mono ?_; intro e w1 hor; replace hor := hor.resolve_left (fun h => h.1 HG.out); obtain ⟨_, gm, d, g, d1, d2, m, B, hm, rfl, hM⟩ := hor; have HM := Aside0.mk hM; clear hM hm)
   | (go_at_call 24; refine (Conf_calls HM.out (Nat.le_trans HPZ.out.1 (by decide)) HPZ.out.2).mono ?_; rintro e w2 ⟨v, rfl, hR2, hB2⟩; have HR2 := Aside0.mk hR2; have HB2 := Aside0.mk hB2; clear hR2 hB2)
   | fail)
  rw [← hQ.out]
  have he : confF b o t = (conflictsF b o t, 0) := by unfold confF; rw [if_pos HG.out]
  rw [he]
  have hs := HM.out.under.size
  exact ⟨_, rfl, Kd.R_V (Kd.R_mono (Kd.R_bound HR2.out) (fun k hk => by have := hk.2.1; omega)), HM.out.under.trans (HB2.out.mono hs)⟩
 ·have HG := Aside0.mk hg
  clear hg
  go_enter Tryz.func11, Tryz.ntmps11
  go_wp2_with (first
   | (go_at_call 23; refine HRD.out.mono ?_; intro e w1 hor; replace hor := hor.resolve_right (fun h => HG.out h.1); obtain ⟨_, rfl, hB1⟩ := hor; have HB1 := Aside0.mk hB1; clear hB1)
   | fail)
  rw [← hQ.out]
  have he : confF b o t = ([], 1) := by unfold confF; rw [if_neg HG.out]
  rw [he]
  exact ⟨_, rfl, Kd.V_nil _ _ _ _ _, HB1.out⟩
end
theorem errM_first {f : ByteArray → PL × Int} {l : List ByteArray} {i : Nat} (hi : i < l.length) (h : ∀ p ∈ l.take i, (f p).2 = 0) (he : ¬ (f l[i]).2 = 0) : errM f l = (f l[i]).2 := by
 unfold errM
 have : l.find? (fun p => !decide ((f p).2 = 0)) = some l[i] := by
  conv => lhs; rw [← List.take_append_drop i l]
  rw [List.find?_append]
  have h1 : (l.take i).find? (fun p => !decide ((f p).2 = 0)) = none := List.find?_eq_none.2 (fun p hp => by rw [h p hp]; decide)
  rw [h1, Option.none_or, List.drop_eq_getElem_cons hi, List.find?_cons]
  rw [decide_eq_false he]
  rfl
 rw [this]
theorem pileM_snoc (f : ByteArray → PL × Int) (l : List ByteArray) (p : ByteArray) : pileM f (l ++ [p]) = (f p).1.foldl putE (pileM f l) := by
 unfold pileM entsM
 rw [List.flatMap_append, List.foldl_append]
 simp
def MRel (W : World) (gm d g d1 d2 m : Nat) (b o t : List Node) (B : List UInt8 → Nat) (policy : Int) (z : Nat) (vq : Value) (i : Int) (w : World) : Prop :=
 0 ≤ i ∧ i ≤ (paths3 b o t).length ∧ (∀ p ∈ (paths3 b o t).take i.toNat, (settleAt b o t policy p).2 = 0) ∧ (∃ n, n ≤ 2 * i.toNat ∧ MergerAt W w gm d g d1 d2 m n (ts3 b o t) B (pileM (settleAt b o t policy) ((paths3 b o t).take i.toNat))) ∧ Kd.V Kd.string 9 w z (fun k => z ≤ k) vq (paths3 b o t)
section
variable (A0 A1 A2 : Option Addr) (c0 c1 c2 : Nat) (b o t : List Node) (policy : Int) (W : World) (hT : Tabs W)
 (hC0 : Kd.C k42 W A0 b.length b) (hc0 : b.length ≤ c0) (hC1 : Kd.C k42 W A1 o.length o) (hc1 : o.length ≤ c1) (hC2 : Kd.C k42 W A2 t.length t) (hc2 : t.length ≤ c2)
 (hb : TreeZ b) (ho : TreeZ o) (ht : TreeZ t)
include hT hC0 hc0 hC1 hc1 hC2 hc2 hb ho ht
set_option maxRecDepth 100000 in
set_option maxHeartbeats 8000000 in
theorem Merge_calls : Calls Tryz.prog 15 #[.slice A0 b.length c0, .slice A1 o.length c1, .slice A2 t.length c2, .int .i64 policy] W fun e W' => ∃ v, e = .returned (.tuple #[v, .int .i64 (mergeF b o t policy).2]) ∧ Kd.V k42 42 W' W.heap.size (fun k => W.heap.size ≤ k) v (mergeF b o t policy).1 ∧ Below W.heap.size W W' := by
 have HRD := Aside0.mk (Read3_calls A0 A1 A2 c0 c1 c2 b o t W hT hC0 hc0 hC1 hc1 hC2 hc2 hb ho ht)
 have HPZ := Aside0.mk (psT_z hb ho ht)
 have HZ : Aside0 (∀ (p : ByteArray) (j : Nat) (x : Node), findF (ts3 b o t j) p = some x → NodeZ x) := ⟨fun p j x hx => by
  unfold ts3 at hx
  by_cases h0 : j = 0
  ·rw [if_pos h0] at hx; exact (hb.node (findF_mem hx).1).1
  ·rw [if_neg h0] at hx
   by_cases h1 : j = 1
   ·rw [if_pos h1] at hx; exact (ho.node (findF_mem hx).1).1
   ·rw [if_neg h1] at hx; exact (ht.node (findF_mem hx).1).1⟩
 have HT := Aside0.mk hT
 clear hT hC0 hc0 hC1 hc1 hC2 hc2 hb ho ht
 generalize hpost : (fun (e : Ending) (W' : World) => ∃ v, e = .returned (.tuple #[v, .int .i64 (mergeF b o t policy).2]) ∧ Kd.V k42 42 W' W.heap.size (fun k => W.heap.size ≤ k) v (mergeF b o t policy).1 ∧ Below W.heap.size W W') = Q
 have hQ := Aside0.mk hpost
 clear hpost
 by_cases hg : goodTree b = true ∧ goodTree o = true ∧ goodTree t = true
 ·have HG := Aside0.mk hg
  clear hg
  by_cases hp1 : policy < 1
  ·have c1b : decide (policy < 1) = true := decide_eq_true hp1
   have he : mergeF b o t policy = ([], 1) := by unfold mergeF; rw [if_neg]; rintro ⟨_, _, _, h, _⟩; omega
   have HE := Aside0.mk he
   clear he
   go_enter Tryz.func15, Tryz.ntmps15
   go_wp2_with (first
    | (go_at_call 23; refine HRD.out.mono ?_; intro e w1 hor; replace hor := hor.resolve_left (fun h => h.1 HG.out); obtain ⟨_, gm, d, g, d1, d2, m, B, hm, rfl, hM⟩ := hor; have HM := Aside0.mk hM; clear hM hm)
    | fail)
   rw [← hQ.out, HE.out]
   exact ⟨_, rfl, Kd.V_nil _ _ _ _ _, HM.out.under⟩
  ·have c1b : decide (policy < 1) = false := decide_eq_false hp1
   by_cases hp4 : (4 : Int) < policy
   ·have c4b : decide ((4 : Int) < policy) = true := decide_eq_true hp4
    have he : mergeF b o t policy = ([], 1) := by unfold mergeF; rw [if_neg]; rintro ⟨_, _, _, _, h⟩; omega
    have HE := Aside0.mk he
    clear he
    go_enter Tryz.func15, Tryz.ntmps15
    go_wp2_with (first
     | (go_at_call 23; refine HRD.out.mono ?_; intro e w1 hor; replace hor := hor.resolve_left (fun h => h.1 HG.out); obtain ⟨_, gm, d, g, d1, d2, m, B, hm, rfl, hM⟩ := hor; have HM := Aside0.mk hM; clear hM hm)
     | fail)
    rw [← hQ.out, HE.out]
    exact ⟨_, rfl, Kd.V_nil _ _ _ _ _, HM.out.under⟩
   ·have c4b : decide ((4 : Int) < policy) = false := decide_eq_false hp4
    have HMF := Aside0.mk (mergeF_in (b := b) (o := o) (t := t) HG.out.1 HG.out.2.1 HG.out.2.2 (q := policy) (by omega) (by omega))
    clear hp1 hp4
    go_enter Tryz.func15, Tryz.ntmps15
    go_upto_region 5 with (first
     | (go_at_call 23; refine HRD.out.mono ?_; intro e w1 hor; replace hor := hor.resolve_left (fun h => h.1 HG.out); obtain ⟨_, gm, d, g, d1, d2, m, B, hm, rfl, hM⟩ := hor; have HM := Aside0.mk hM; clear hM hm)
     | (go_at_call 27; refine (Paths_calls HM.out (Nat.le_trans HPZ.out.1 (by decide))).mono ?_; rintro e w2 ⟨Aq, cq, rfl, hV2, hB2⟩; have HV2 := Aside0.mk hV2; have HM2 := Aside0.mk (HM.out.below hB2); clear hV2 hB2)
     | fail)
    have hplen : ((paths3 b o t).length : Int) ≤ 30000 := by have := HPZ.out.1; have h2 : (paths3 b o t).length ≤ 30000 := this; omega
    have HST : Aside0 (MRel W gm d g d1 d2 m b o t B policy w1.heap.size (.slice Aq (paths3 b o t).length cq) 0 w2) := ⟨⟨by omega, by omega, fun p hp => by simp at hp, ⟨0, by omega, HM2.out⟩, HV2.out⟩⟩
    have HGW : Aside0 (gm < w1.heap.size) := ⟨blk_lt' HM.out.box⟩
    have HFN := Aside0.mk HM.out.fence
    clear HM HV2 HM2 HRD c1b c4b
    go_loopw [36] (fun i wr => ∃ k : Int, i = .int .i64 k ∧ Aside0 (MRel W gm d g d1 d2 m b o t B policy w1.heap.size (.slice Aq (paths3 b o t).length cq) k wr)) (fun i _ => ((paths3 b o t).length - (intOf i)).toNat)
    case atStart => exact ⟨0, rfl, HST⟩
    case round =>
     clear HST
     obtain ⟨k, rfl, HR⟩ := hrel
     have h0 := HR.out.1
     have h1 := HR.out.2.1
     obtain ⟨n, hn, hM⟩ := HR.out.2.2.2.1
     have HM := Aside0.mk hM
     have HN := Aside0.mk hn
     clear hM hn
     by_cases hlt : k < ((paths3 b o t).length : Int)
     ·have c1b : decide (k < ((psT (ts3 b o t)).length : Int)) = true := decide_eq_true hlt
      have hkl : k.toNat < (paths3 b o t).length := by omega
      obtain ⟨ad, rfl, x0⟩ := str_row HR.out.2.2.2.2 k h0 hlt
      have hpm : (paths3 b o t)[k.toNat] ∈ paths3 b o t := List.getElem_mem hkl
      have htk := List.take_succ_eq_append_getElem hkl
      have hef := errM_first (f := settleAt b o t policy) hkl HR.out.2.2.1
      generalize (paths3 b o t)[k.toNat] = p at x0 hpm htk hef
      have hhp : hasP (ts3 b o t) p = true := by rw [← hasP_in]; exact inL_iff.2 hpm
      have hset := Settle_calls HT.out HM.out (by have := HN.out; omega) p hhp (HPZ.out.2 p hpm) (HZ.out p) policy
      have hse : settleM (psT (ts3 b o t)) policy p (findF (ts3 b o t 0) p) (findF (ts3 b o t 1) p) (findF (ts3 b o t 2) p) = settleAt b o t policy p := rfl
      rw [hse] at hset
      have HSET := Aside0.mk hset
      have HTK := Aside0.mk htk
      have HEF := Aside0.mk hef
      clear hset hse hhp hpm htk hef
      by_cases hz : (settleAt b o t policy p).2 = 0
      ·have HZ0 := Aside0.mk hz
       clear hz
       go_wp2_with (first
        | (go_at_call 28; refine HSET.out.mono ?_; rintro e w5 ⟨rfl, hB5, hM5⟩; replace hM5 := hM5 HZ0.out; rw [HZ0.out]; have HM5 := Aside0.mk hM5.1; have HF5 := Aside0.mk hM5.2; clear hM5 hB5 x0)
        | fail)
       have hfin : MRel W gm d g d1 d2 m b o t B policy w1.heap.size (.slice (some ad) (paths3 b o t).length cq) (k + 1) w5 := by
        have e1 : (k + 1).toNat = k.toNat + 1 := by omega
        refine ⟨by omega, by omega, fun q hq => ?_, ⟨n + 2, by have := HN.out; omega, ?_⟩, Kd.V_step HR.out.2.2.2.2 (fun q hq hlq => HF5.out.2 q hlq (by have := HFN.out; have := HGW.out; omega) (by have := HFN.out; have := HGW.out; omega))⟩
        ·rw [e1, HTK.out] at hq
         rcases List.mem_append.1 hq with h | h
         ·exact HR.out.2.2.1 q h
         ·rw [List.mem_singleton.1 h]
          exact HZ0.out
        ·rw [e1, HTK.out, pileM_snoc]
         exact HM5.out
       have HFIN := Aside0.mk hfin
       clear hfin
       go_roundw
       case rel => exact ⟨k + 1, by go_num, HFIN⟩
       case measure => simp [intOf]; omega
      ·have HZ1 := Aside0.mk hz
       have ez : ((settleAt b o t policy p).2 != 0) = true := bne_iff_ne.2 hz
       have he : mergeF b o t policy = ([], (settleAt b o t policy p).2) := by rw [HMF.out, HEF.out hz, if_neg hz]
       have HE := Aside0.mk he
       generalize (settleAt b o t policy p).2 = er at HE ez HSET
       clear hz he HEF
       go_wp2_with (first
        | (go_at_call 28; refine HSET.out.mono ?_; rintro e w5 ⟨rfl, hB5, hM5⟩; have HB5 := Aside0.mk hB5; clear hM5 hB5 x0)
        | fail)
       rw [← hQ.out, HE.out]
       exact ⟨_, rfl, Kd.V_nil _ _ _ _ _, HB5.out⟩
     ·have c1b : decide (k < ((psT (ts3 b o t)).length : Int)) = false := decide_eq_false hlt
      have hke : k.toNat = (paths3 b o t).length := by omega
      have hall : ∀ p ∈ paths3 b o t, (settleAt b o t policy p).2 = 0 := by
       have := HR.out.2.2.1
       rw [hke, List.take_length] at this
       exact this
      have hmf := HMF.out
      rw [if_pos (errM_zero.2 hall)] at hmf
      have hM9 := HM.out
      rw [hke, List.take_length] at hM9
      generalize hpe : pileM (settleAt b o t policy) (paths3 b o t) = sp at hmf hM9
      have HMF9 := Aside0.mk hmf
      have HM9 := Aside0.mk hM9
      obtain ⟨g0, g1⟩ := boxed2 hM9.box
      clear hpe hall hmf hM9 HR HM HMF hke
      by_cases hbig : 4096 < sp.length
      ·have gg : decide ((sp.length : Int) > 4096) = true := decide_eq_true (by omega)
       have g3 : (4096 : Int) < (sp.length : Int) := by omega
       have HU : Aside0 (mergeF b o t policy = ([], 10)) := ⟨by rw [HMF9.out, if_pos hbig]⟩
       clear hbig
       go_wp2_with (first
        | (go_at_call 29; refine (Len_calls _ g d1 d2 n sp _ HM9.out.pile).mono ?_; rintro e w6 ⟨rfl, hb6⟩; have HB6 := Aside0.mk (HM9.out.under.trans (hb6.mono HM9.out.under.size)); clear hb6 g0 g1)
        | fail)
       rw [← hQ.out, HU.out]
       exact ⟨_, rfl, Kd.V_nil _ _ _ _ _, HB6.out⟩
      ·have gg : decide ((sp.length : Int) > 4096) = false := decide_eq_false (by omega)
       have g3 : ¬ (4096 : Int) < (sp.length : Int) := by omega
       have g4 : (sp.length : Int) ≤ 4096 := by omega
       have HU : Aside0 (mergeF b o t policy = (treeE sp, 0)) := ⟨by rw [HMF9.out, if_neg hbig]⟩
       have HS6 : Aside0 (sp.length ≤ 1000000) := ⟨by omega⟩
       clear hbig
       go_wp2_with (first
        | (go_at_call 29; refine (Len_calls _ g d1 d2 n sp _ HM9.out.pile).mono ?_; rintro e w6 ⟨rfl, hb6⟩; have hM6 := HM9.out.below hb6; have HM6 := Aside0.mk hM6; clear g0 g1; obtain ⟨g0, g1⟩ := boxed2 hM6.box; clear hb6 hM6)
        | (go_at_call 30; refine (Tree_calls _ g d1 d2 n sp _ HM6.out.pile HS6.out).mono ?_; rintro e w7 ⟨v, rfl, hN7, hb7⟩; have HN7 := Aside0.mk hN7; have HB7 := Aside0.mk hb7; clear hN7 hb7)
        | fail)
       rw [← hQ.out, HU.out]
       have hs := HM6.out.under.size
       exact ⟨_, rfl, Kd.V_lower (Kd.N_V (base' := W.heap.size) (Kd.N_mono HN7.out (fun k hk => by omega))) (Nat.le_refl _), HM6.out.under.trans (HB7.out.mono hs)⟩
 ·have HG := Aside0.mk hg
  have he : mergeF b o t policy = ([], 1) := by unfold mergeF; rw [if_neg]; rintro ⟨h1, h2, h3, _, _⟩; exact hg ⟨h1, h2, h3⟩
  have HE := Aside0.mk he
  clear hg he
  go_enter Tryz.func15, Tryz.ntmps15
  go_wp2_with (first
   | (go_at_call 23; refine HRD.out.mono ?_; intro e w1 hor; replace hor := hor.resolve_right (fun h => HG.out h.1); obtain ⟨_, rfl, hB1⟩ := hor; have HB1 := Aside0.mk hB1; clear hB1)
   | fail)
  rw [← hQ.out, HE.out]
  exact ⟨_, rfl, Kd.V_nil _ _ _ _ _, HB1.out⟩
end
end Go.Proofs.YtbngbefchobfnaaGreatDoor

namespace Go.Proofs.YtbngbefchobfnaaGreatDoor
open Go.Proofs.YtbngbefchobfnaaGreatDoor.Print
def treeZB (t : List Node) : Bool := decide (t.length ≤ 10000) && nodesG t
theorem treeZB_iff (t : List Node) : treeZB t = true ↔ TreeZ t := by simp [treeZB, TreeZ, nodesG_iff]
end Go.Proofs.YtbngbefchobfnaaGreatDoor
namespace Go.Proofs.YtbngbefchobfnaaGreatDoor.Print
open Go.RowKit Go.Proofs.YtbngbefchobfnaaGreatDoor Go.Proofs.YtbngbefchobfnaaGreatDoorW.PrintWords Go.Proofs.YtbngbefchobfnaaGreatDoorW.PrintLast Go.Proofs.YtbngbefchobfnaaGreatDoorW.PrintMore
set_option linter.unusedVariables false
end Go.Proofs.YtbngbefchobfnaaGreatDoor.Print

namespace Go.Proofs.YtbngbefchobfnaaGreatDoor.Print
open Go.RowKit Go.Proofs.YtbngbefchobfnaaGreatDoor Go.Proofs.YtbngbefchobfnaaGreatDoorW.PrintWords Go.Proofs.YtbngbefchobfnaaGreatDoorW.PrintLast Go.Proofs.YtbngbefchobfnaaGreatDoorW.PrintMore
set_option linter.unusedVariables false
def merge_Conflicts.f (b o t : List S42) : Option (List ByteArray × Int) := if treeZB b = true ∧ treeZB o = true ∧ treeZB t = true then some (confF b o t) else none
theorem merge_Conflicts.calls (A0 : Option Addr) (c0 : Nat) (l0 : List S42) (A1 : Option Addr) (c1 : Nat) (l1 : List S42) (A2 : Option Addr) (c2 : Nat) (l2 : List S42) (r1 : List ByteArray) (r2 : Int) (w : World) (hT : Aside0 (Tabs w)) (hr0 : Kd.C k42 w A0 l0.length l0) (hc0 : l0.length ≤ c0) (hr1 : Kd.C k42 w A1 l1.length l1) (hc1 : l1.length ≤ c1) (hr2 : Kd.C k42 w A2 l2.length l2) (hc2 : l2.length ≤ c2) (h : merge_Conflicts.f l0 l1 l2 = some (r1, r2)) :
  Calls Tryz.prog 11 #[.slice A0 l0.length c0, .slice A1 l1.length c1, .slice A2 l2.length c2] w fun e w' => ∃ v0_ : Value, e = .returned (.tuple #[v0_, .int .i64 r2]) ∧ Kd.V Kd.string 9 w' w.heap.size (fun k_ => w.heap.size ≤ k_) v0_ r1 ∧ Below w.heap.size w w' := by
 unfold merge_Conflicts.f at h
 split at h
 ·rename_i hc
  simp only [Option.some.injEq] at h
  refine (Conflicts_calls A0 A1 A2 c0 c1 c2 l0 l1 l2 w hT.out hr0 hc0 hr1 hc1 hr2 hc2 ((treeZB_iff l0).1 hc.1) ((treeZB_iff l1).1 hc.2.1) ((treeZB_iff l2).1 hc.2.2)).mono ?_
  rintro e w' ⟨v, rfl, hV, hB⟩
  rw [h] at hV ⊢
  exact ⟨v, rfl, hV, hB⟩
 ·cases h
def merge_Merge.f (b o t : List S42) (policy : Int) : Option (List S42 × Int) := if treeZB b = true ∧ treeZB o = true ∧ treeZB t = true then some (mergeF b o t policy) else none
theorem merge_Merge.calls (A0 : Option Addr) (c0 : Nat) (l0 : List S42) (A1 : Option Addr) (c1 : Nat) (l1 : List S42) (A2 : Option Addr) (c2 : Nat) (l2 : List S42) (a3 : Int) (r1 : List S42) (r2 : Int) (w : World) (hT : Aside0 (Tabs w)) (hr0 : Kd.C k42 w A0 l0.length l0) (hc0 : l0.length ≤ c0) (hr1 : Kd.C k42 w A1 l1.length l1) (hc1 : l1.length ≤ c1) (hr2 : Kd.C k42 w A2 l2.length l2) (hc2 : l2.length ≤ c2) (h : merge_Merge.f l0 l1 l2 a3 = some (r1, r2)) :
  Calls Tryz.prog 15 #[.slice A0 l0.length c0, .slice A1 l1.length c1, .slice A2 l2.length c2, .int .i64 a3] w fun e w' => ∃ v0_ : Value, e = .returned (.tuple #[v0_, .int .i64 r2]) ∧ Kd.V k42 42 w' w.heap.size (fun k_ => w.heap.size ≤ k_) v0_ r1 ∧ Below w.heap.size w w' := by
 unfold merge_Merge.f at h
 split at h
 ·rename_i hc
  simp only [Option.some.injEq] at h
  refine (Merge_calls A0 A1 A2 c0 c1 c2 l0 l1 l2 a3 w hT.out hr0 hc0 hr1 hc1 hr2 hc2 ((treeZB_iff l0).1 hc.1) ((treeZB_iff l1).1 hc.2.1) ((treeZB_iff l2).1 hc.2.2)).mono ?_
  rintro e w' ⟨v, rfl, hV, hB⟩
  rw [h] at hV ⊢
  exact ⟨v, rfl, hV, hB⟩
 ·cases h
end Go.Proofs.YtbngbefchobfnaaGreatDoor.Print

namespace Go.Proofs.YtbngbefchobfnaaGreatDoor
open Go.RowKit Go.Proofs.YtbngbefchobfnaaGreatDoor.Print Go.Proofs.YtbngbefchobfnaaGreatDoorW.PrintWords
theorem metHeap : Kd.Heap k39 := Kd.heap_iso _ (Kd.heap_pair (Kd.heap_int _) (Kd.heap_pair (Kd.heap_int _) (Kd.heap_pair (Kd.heap_int _) (Kd.heap_int _))))
theorem nodeHeap : Kd.Heap k42 := Kd.heap_iso _ (Kd.heap_pair Kd.heap_string (Kd.heap_pair Kd.heap_string (Kd.heap_pair Kd.heap_string (Kd.heap_pair (Kd.heap_int _) (Kd.heap_pair metHeap (Kd.heap_slice _ (Kd.heap_int _)))))))
end Go.Proofs.YtbngbefchobfnaaGreatDoor

namespace Go.Proofs.YtbngbefchobfnaaGreatDoor.Print
open Go.RowKit Go.Proofs.YtbngbefchobfnaaGreatDoorW.PrintWords Go.Proofs.YtbngbefchobfnaaGreatDoorW.PrintLast Go.Proofs.YtbngbefchobfnaaGreatDoorW.PrintMore
attribute [local go_sem] max2_int min2_int max_two min_two max_three min_three max_four min_four   -- for this text's walks alone
set_option linter.unusedVariables false
set_option linter.unusedSimpArgs false
def bindleref08_Find.l0 : Nat → List (S42) → ByteArray → Int → Option (ByteArray × ByteArray × ByteArray × Int × Int × Int × Int × Int × List Int × Bool)
 | 0, _, _, _ => none
 | k + 1, x0, x1, x6 => if x6 < (x0.length : Int) then (if 0 ≤ x6 then (if ((rd_T42 x0 x6).f0).toList = x1.toList then (some ((rd_T42 x0 x6).f0, (rd_T42 x0 x6).f1, (rd_T42 x0 x6).f2, (rd_T42 x0 x6).f3, (rd_T42 x0 x6).f4.f0, (rd_T42 x0 x6).f4.f1, (rd_T42 x0 x6).f4.f2, (rd_T42 x0 x6).f4.f3, (rd_T42 x0 x6).f5, true)) else (bindleref08_Find.l0 k x0 x1 (wrap64 (x6 + 1)))) else (none)) else (some ((⟨#[]⟩ : ByteArray), (⟨#[]⟩ : ByteArray), (⟨#[]⟩ : ByteArray), 0, 0, 0, 0, 0, ([] : List Int), false))
def bindleref08_Find.f (k : Nat) (l0 : List (S42)) (a1 : ByteArray) : Option (ByteArray × ByteArray × ByteArray × Int × Int × Int × Int × Int × List Int × Bool) := bindleref08_Find.l0 k l0 a1 0
set_option maxHeartbeats 8000000 in
set_option maxRecDepth 100000 in
theorem bindleref08_Find.calls (k : Nat) (P0_ : Nat → Prop) (A0 : Option Addr) (c0 : Nat) (l0 : List (S42)) (a1 : ByteArray) (r1 : ByteArray) (r2 : ByteArray) (r3 : ByteArray) (r4 : Int) (r5 : Int) (r6 : Int) (r7 : Int) (r8 : Int) (r9 : List Int) (r10 : Bool) (w : World) (hs0 : Kd.V k42 42 w w.heap.size (fun k_ => P0_ k_) (.slice A0 l0.length c0) l0) (h : bindleref08_Find.f k l0 a1 = some (r1, r2, r3, r4, r5, r6, r7, r8, r9, r10)) :
  Calls Tryz.prog 20 #[.slice A0 l0.length c0, .string a1] w fun e w' => ∃ v8_ : Value, e = .returned (.tuple #[.agg #[.string r1, .string r2, .string r3, .int .u8 r4, .int .i64 r5, .int .i64 r6, .int .i64 r7, .int .i64 r8, v8_], .bool r10]) ∧ Kd.V (Kd.int .u8) 5 w' w.heap.size (fun k_ => (P0_ k_ ∨ w.heap.size ≤ k_)) v8_ r9 ∧ Below w.heap.size w w' := by
 have hu42 := Tryz.underlying42
 have HO0 := A0_ (show Kd.V k42 42 w w.heap.size (fun k_ => (P0_ k_ ∨ w.heap.size ≤ k_)) (.slice A0 l0.length c0) l0 from Kd.V_mono hs0 (fun k_ hk => .inl hk))
 have HB := A0_ (Below.refl w.heap.size w)
 have H : (bindleref08_Find.l0 k l0 a1 0) = some (r1, r2, r3, r4, r5, r6, r7, r8, r9, r10) := h
 clear h
 have H' := A0_ H
 clear H
 go_enter Tryz.func20, Tryz.ntmps20
 go_wp2_with (first | ((with_reducible refine gate_dst (N := 4) rfl ?_); refine box_event ?hg (N := 4) ?hd (cs := #[.string (⟨#[]⟩ : ByteArray), .string (⟨#[]⟩ : ByteArray), .string (⟨#[]⟩ : ByteArray), .int .u8 0, .int .i64 0, .int .i64 0, .int .i64 0, .int .i64 0, .slice none 0 0]) (t := 42) ?hr ?_; (case hd => rfl); (case hg => rfl); (case hr => first | (go_simp; done) | (go_simp; rfl)); intro gb153 hg w3 hbox hb; have n0_ := A0_ (Vb_ (Kd.V_elderB (wV_ HO0.out) gb153 (Nat.le_of_eq hg.symm)) hb); have n1_ := A0_ (below_step (wb_ HB.out) hb); have n2_ := A0_ (hbox); have n3_ := A0_ ((by rw [hg]; exact (below_size (wb_ HB.out)) : w.heap.size ≤ gb153)); have n4_ := A0_ ((by rw [hg]; exact (below_size (wb_ HB.out)) : w.heap.size ≤ gb153)); clear HO0; clear HB; have HO0 := n0_; have HB := n1_; have BK153 := n2_; have GW153 := n3_; have GE153 := n4_; clear n0_ n1_ n2_ n3_ n4_; clear hb hbox hg))
 go_loopg [6] k (fun kq v6 w' => ∃ (x6_1 : Int) (x154000_1 : ByteArray) (x154001_1 : ByteArray) (x154002_1 : ByteArray) (x154003_1 : Int) (x154004_1 : Int) (x154005_1 : Int) (x154006_1 : Int) (x154007_1 : Int), v6 = .int .i64 x6_1 ∧ Aside0 (bindleref08_Find.l0 kq l0 a1 x6_1 = some (r1, r2, r3, r4, r5, r6, r7, r8, r9, r10)) ∧ Aside0 (kq ≤ k) ∧ Aside0 (Kd.V k42 42 w' w.heap.size (fun k_ => (P0_ k_ ∨ w.heap.size ≤ k_) ∧ k_ ≠ gb153) (.slice A0 l0.length c0) l0) ∧ Aside0 (w'.heap[gb153]? = some (.cells #[.string x154000_1, .string x154001_1, .string x154002_1, .int .u8 x154003_1, .int .i64 x154004_1, .int .i64 x154005_1, .int .i64 x154006_1, .int .i64 x154007_1, (.slice none 0 0)] 42 (0, 0))) ∧ Aside0 (Below w.heap.size w w'))
 case atStart => exact ⟨(0), ((⟨#[]⟩ : ByteArray)), ((⟨#[]⟩ : ByteArray)), ((⟨#[]⟩ : ByteArray)), (0), (0), (0), (0), (0), wr_, H', ⟨Nat.le_refl _⟩, ⟨wV_ HO0.out⟩, ⟨wB_ BK153.out⟩, ⟨wb1_ HB.out GE153.out⟩⟩
 case round =>
  clear H'
  try clear c2
  try clear p2
  obtain ⟨x6_1, x154000_1, x154001_1, x154002_1, x154003_1, x154004_1, x154005_1, x154006_1, x154007_1, rfl, HA, HK1, HO_0, BK153, HB⟩ := hrel
  cases gk with
  | zero => exact absurd HA.out (by simp [bindleref08_Find.l0])
  | succ k1 =>
   have H := HA.out
   clear HA
   simp only [bindleref08_Find.l0] at H
   by_cases c4 : x6_1 < (l0.length : Int)
   rotate_left
   ·rw [if_neg c4] at H
    have c4b0 : decide (x6_1 < (l0.length : Int)) = false := decide_eq_false c4
    clear c4
    simp only [Option.some.injEq, Prod.mk.injEq] at H
    obtain ⟨rfl, rfl, rfl, rfl, rfl, rfl, rfl, rfl, rfl, rfl⟩ := H
    have hcz8_0 : wr.cell? ⟨gb153, 0, none⟩ = some (.string x154000_1) := (bc_ BK153.out 0).trans rfl
    have hcz8_1 : wr.cell? ⟨gb153, 1, none⟩ = some (.string x154001_1) := (bc_ BK153.out 1).trans rfl
    have hcz8_2 : wr.cell? ⟨gb153, 2, none⟩ = some (.string x154002_1) := (bc_ BK153.out 2).trans rfl
    have hcz8_3 : wr.cell? ⟨gb153, 3, none⟩ = some (.int .u8 x154003_1) := (bc_ BK153.out 3).trans rfl
    have hcz8_4 : wr.cell? ⟨gb153, 4, none⟩ = some (.int .i64 x154004_1) := (bc_ BK153.out 4).trans rfl
    have hcz8_5 : wr.cell? ⟨gb153, 5, none⟩ = some (.int .i64 x154005_1) := (bc_ BK153.out 5).trans rfl
    have hcz8_6 : wr.cell? ⟨gb153, 6, none⟩ = some (.int .i64 x154006_1) := (bc_ BK153.out 6).trans rfl
    have hcz8_7 : wr.cell? ⟨gb153, 7, none⟩ = some (.int .i64 x154007_1) := (bc_ BK153.out 7).trans rfl
    have hcz8_8 : wr.cell? ⟨gb153, 8, none⟩ = some (.slice none 0 0) := (bc_ BK153.out 8).trans rfl
    have hfz8_0 := bf_ BK153.out 0
    have hfz8_1 := bf_ BK153.out 1
    have hfz8_2 := bf_ BK153.out 2
    have hfz8_3 := bf_ BK153.out 3
    have hfz8_4 := bf_ BK153.out 4
    have hfz8_5 := bf_ BK153.out 5
    have hfz8_6 := bf_ BK153.out 6
    have hfz8_7 := bf_ BK153.out 7
    have hfz8_8 := bf_ BK153.out 8
    go_wp2
    refine bodyPost_ret (results_ct rfl _ _ gb153 42 #[.string (⟨#[]⟩ : ByteArray), .string (⟨#[]⟩ : ByteArray), .string (⟨#[]⟩ : ByteArray), .int .u8 0, .int .i64 0, .int .i64 0, .int .i64 0, .int .i64 0, .slice none 0 0] (0, 0) _ rfl (by (with_reducible repeat (first | refine blk_drewN ?_ _ | refine blk_drew ?_ | refine blk_alloc ?_ _)); refine blk_put (cs := #[.string (⟨#[]⟩ : ByteArray), .string (⟨#[]⟩ : ByteArray), .string (⟨#[]⟩ : ByteArray), .int .u8 0, .int .i64 0, .int .i64 0, .int .i64 0, .int .i64 0, .slice none 0 0]) ?_ 8 _ rfl; (with_reducible repeat (first | refine blk_drewN ?_ _ | refine blk_drew ?_ | refine blk_alloc ?_ _)); refine blk_put (cs := #[.string (⟨#[]⟩ : ByteArray), .string (⟨#[]⟩ : ByteArray), .string (⟨#[]⟩ : ByteArray), .int .u8 0, .int .i64 0, .int .i64 0, .int .i64 0, .int .i64 x154007_1, .slice none 0 0]) ?_ 7 _ rfl; (with_reducible repeat (first | refine blk_drewN ?_ _ | refine blk_drew ?_ | refine blk_alloc ?_ _)); refine blk_put (cs := #[.string (⟨#[]⟩ : ByteArray), .string (⟨#[]⟩ : ByteArray), .string (⟨#[]⟩ : ByteArray), .int .u8 0, .int .i64 0, .int .i64 0, .int .i64 x154006_1, .int .i64 x154007_1, .slice none 0 0]) ?_ 6 _ rfl; (with_reducible repeat (first | refine blk_drewN ?_ _ | refine blk_drew ?_ | refine blk_alloc ?_ _)); refine blk_put (cs := #[.string (⟨#[]⟩ : ByteArray), .string (⟨#[]⟩ : ByteArray), .string (⟨#[]⟩ : ByteArray), .int .u8 0, .int .i64 0, .int .i64 x154005_1, .int .i64 x154006_1, .int .i64 x154007_1, .slice none 0 0]) ?_ 5 _ rfl; (with_reducible repeat (first | refine blk_drewN ?_ _ | refine blk_drew ?_ | refine blk_alloc ?_ _)); refine blk_put (cs := #[.string (⟨#[]⟩ : ByteArray), .string (⟨#[]⟩ : ByteArray), .string (⟨#[]⟩ : ByteArray), .int .u8 0, .int .i64 x154004_1, .int .i64 x154005_1, .int .i64 x154006_1, .int .i64 x154007_1, .slice none 0 0]) ?_ 4 _ rfl; (with_reducible repeat (first | refine blk_drewN ?_ _ | refine blk_drew ?_ | refine blk_alloc ?_ _)); refine blk_put (cs := #[.string (⟨#[]⟩ : ByteArray), .string (⟨#[]⟩ : ByteArray), .string (⟨#[]⟩ : ByteArray), .int .u8 x154003_1, .int .i64 x154004_1, .int .i64 x154005_1, .int .i64 x154006_1, .int .i64 x154007_1, .slice none 0 0]) ?_ 3 _ rfl; (with_reducible repeat (first | refine blk_drewN ?_ _ | refine blk_drew ?_ | refine blk_alloc ?_ _)); refine blk_put (cs := #[.string (⟨#[]⟩ : ByteArray), .string (⟨#[]⟩ : ByteArray), .string x154002_1, .int .u8 x154003_1, .int .i64 x154004_1, .int .i64 x154005_1, .int .i64 x154006_1, .int .i64 x154007_1, .slice none 0 0]) ?_ 2 _ rfl; (with_reducible repeat (first | refine blk_drewN ?_ _ | refine blk_drew ?_ | refine blk_alloc ?_ _)); refine blk_put (cs := #[.string (⟨#[]⟩ : ByteArray), .string x154001_1, .string x154002_1, .int .u8 x154003_1, .int .i64 x154004_1, .int .i64 x154005_1, .int .i64 x154006_1, .int .i64 x154007_1, .slice none 0 0]) ?_ 1 _ rfl; (with_reducible repeat (first | refine blk_drewN ?_ _ | refine blk_drew ?_ | refine blk_alloc ?_ _)); refine blk_put (cs := #[.string x154000_1, .string x154001_1, .string x154002_1, .int .u8 x154003_1, .int .i64 x154004_1, .int .i64 x154005_1, .int .i64 x154006_1, .int .i64 x154007_1, .slice none 0 0]) ?_ 0 _ rfl; (with_reducible repeat (first | refine blk_drewN ?_ _ | refine blk_drew ?_ | refine blk_alloc ?_ _)); exact BK153.out) Tryz.underlying42 rfl (by kernel_rfl)) rfl ?_
    exact ⟨_, we_, (Kd.V_nil _ _ _ _ _), wb1_ HB.out GE153.out⟩
   rw [if_pos c4] at H
   have c4b0 : decide (x6_1 < (l0.length : Int)) = true := decide_eq_true c4
   clear c4
   by_cases c5 : 0 ≤ x6_1
   rotate_left
   ·rw [if_neg c5] at H
    exact absurd H (by simp)
   rw [if_pos c5] at H
   have c5b0 : decide (0 ≤ x6_1) = true := decide_eq_true c5
   clear c5
   by_cases c6 : ((rd_T42 l0 x6_1).f0).toList = a1.toList
   rotate_left
   ·rw [if_neg c6] at H
    have c6b0 : (((rd_T42 l0 x6_1).f0).toList == a1.toList) = false := beq_eq_false_iff_ne.mpr c6
    have c6b1 : (((rd_T42 l0 x6_1).f0).toList != a1.toList) = true := bne_iff_ne.mpr c6
    have H' := A0_ H
    clear H
    have p154 : 0 ≤ (x6_1 : Int) := wd_
    have q154 : x6_1 < (l0.length : Int) := wd_
    obtain ⟨ad154, A154_8, c154_8, e154, hx154_0, hx154_1, hx154_2, hx154_3, hx154_4, hx154_5, hx154_6, hx154_7, hx154_8, hl154_8, hi154_8⟩ := at_T42 (Kd.V_reads' HO_0.out).2.2 x6_1 p154 q154
    cases e154
    obtain ⟨ce154, hce154, hMe154, hcc154⟩ := Kd.V_get HO_0.out z42 x6_1 p154 (by first | exact q154 | exact wd_ | (have e_ := (Kd.V_reads' HO_0.out).1; omega))
    obtain ⟨ua154_8, uc154_8, rfl, ul154_8, ge154_8⟩ := k42_openF hMe154
    have hv154_8 := hcc154 8 _ rfl
    rw [add_field _ _ 8 (by omega)] at hv154_8
    replace hv154_8 := Option.some.inj (hv154_8.symm.trans hx154_8)
    injection hv154_8 with hva_ hvn_ hvc_
    rw [hva_] at ge154_8
    rw [hvc_] at ul154_8
    have HL154_8 := A0_ (show Kd.V (Kd.int .u8) 5 _ w.heap.size _ _ ((rd_T42 l0 x6_1).f5) from Kd.V_mk ul154_8 ge154_8)
    clear hva_ hvn_ hvc_ ge154_8 ul154_8
    clear hcc154 hce154
    have HR154_8 := A0_ hi154_8
    have HC154_8 := A0_ hl154_8
    clear hi154_8 hl154_8
    replace p154 := eq_true p154
    replace q154 := eq_true q154
    go_wp2
    go_roundg k1
    case measure => have := HK1.out; omega
    case rel => exact ⟨(wrap64 (x6_1 + 1)), (x154000_1), (x154001_1), (x154002_1), (x154003_1), (x154004_1), (x154005_1), (x154006_1), (x154007_1), wr_, H', ⟨by have := HK1.out; omega⟩, ⟨wV_ HO_0.out⟩, ⟨wB_ BK153.out⟩, ⟨wb1_ HB.out GE153.out⟩⟩
   rw [if_pos c6] at H
   have c6b0 : (((rd_T42 l0 x6_1).f0).toList == a1.toList) = true := beq_iff_eq.mpr c6
   have c6b1 : (((rd_T42 l0 x6_1).f0).toList != a1.toList) = false := bne_eq_false_iff_eq.mpr c6
   clear c6
   simp only [Option.some.injEq, Prod.mk.injEq] at H
   obtain ⟨rfl, rfl, rfl, rfl, rfl, rfl, rfl, rfl, rfl, rfl⟩ := H
   have p154 : 0 ≤ (x6_1 : Int) := wd_
   have q154 : x6_1 < (l0.length : Int) := wd_
   obtain ⟨ad154, A154_8, c154_8, e154, hx154_0, hx154_1, hx154_2, hx154_3, hx154_4, hx154_5, hx154_6, hx154_7, hx154_8, hl154_8, hi154_8⟩ := at_T42 (Kd.V_reads' HO_0.out).2.2 x6_1 p154 q154
   cases e154
   obtain ⟨ce154, hce154, hMe154, hcc154⟩ := Kd.V_get HO_0.out z42 x6_1 p154 (by first | exact q154 | exact wd_ | (have e_ := (Kd.V_reads' HO_0.out).1; omega))
   obtain ⟨ua154_8, uc154_8, rfl, ul154_8, ge154_8⟩ := k42_openF hMe154
   have hv154_8 := hcc154 8 _ rfl
   rw [add_field _ _ 8 (by omega)] at hv154_8
   replace hv154_8 := Option.some.inj (hv154_8.symm.trans hx154_8)
   injection hv154_8 with hva_ hvn_ hvc_
   rw [hva_] at ge154_8
   rw [hvc_] at ul154_8
   have HL154_8 := A0_ (show Kd.V (Kd.int .u8) 5 _ w.heap.size _ _ ((rd_T42 l0 x6_1).f5) from Kd.V_mk ul154_8 ge154_8)
   clear hva_ hvn_ hvc_ ge154_8 ul154_8
   clear hcc154 hce154
   have HR154_8 := A0_ hi154_8
   have HC154_8 := A0_ hl154_8
   clear hi154_8 hl154_8
   replace p154 := eq_true p154
   replace q154 := eq_true q154
   have p155 : 0 ≤ (x6_1 : Int) := wd_
   have q155 : x6_1 < (l0.length : Int) := wd_
   obtain ⟨ad155, A155_8, c155_8, e155, hx155_0, hx155_1, hx155_2, hx155_3, hx155_4, hx155_5, hx155_6, hx155_7, hx155_8, hl155_8, hi155_8⟩ := at_T42 (Kd.V_reads' HO_0.out).2.2 x6_1 p155 q155
   obtain rfl : ad154 = ad155 := (by injection e155)
   obtain ⟨ce155, hce155, hMe155, hcc155⟩ := Kd.V_get HO_0.out z42 x6_1 p155 (by first | exact q155 | exact wd_ | (have e_ := (Kd.V_reads' HO_0.out).1; omega))
   obtain ⟨ua155_8, uc155_8, rfl, ul155_8, ge155_8⟩ := k42_openF hMe155
   have hv155_8 := hcc155 8 _ rfl
   rw [add_field _ _ 8 (by omega)] at hv155_8
   replace hv155_8 := Option.some.inj (hv155_8.symm.trans hx155_8)
   injection hv155_8 with hva_ hvn_ hvc_
   rw [hva_] at ge155_8
   rw [hvc_] at ul155_8
   have HL155_8 := A0_ (show Kd.V (Kd.int .u8) 5 _ w.heap.size _ _ ((rd_T42 l0 x6_1).f5) from Kd.V_mk ul155_8 ge155_8)
   clear hva_ hvn_ hvc_ ge155_8 ul155_8
   clear hcc155 hce155
   have HR155_8 := A0_ hi155_8
   have HC155_8 := A0_ hl155_8
   clear hi155_8 hl155_8
   replace p155 := eq_true p155
   replace q155 := eq_true q155
   have ea_ := Option.some.inj (hx154_8.symm.trans hx155_8)
   injection ea_ with ea_ en_ ec_
   subst ea_
   subst ec_
   clear en_
   have hcz7_0 : wr.cell? ⟨gb153, 0, none⟩ = some (.string x154000_1) := (bc_ BK153.out 0).trans rfl
   have hcz7_1 : wr.cell? ⟨gb153, 1, none⟩ = some (.string x154001_1) := (bc_ BK153.out 1).trans rfl
   have hcz7_2 : wr.cell? ⟨gb153, 2, none⟩ = some (.string x154002_1) := (bc_ BK153.out 2).trans rfl
   have hcz7_3 : wr.cell? ⟨gb153, 3, none⟩ = some (.int .u8 x154003_1) := (bc_ BK153.out 3).trans rfl
   have hcz7_4 : wr.cell? ⟨gb153, 4, none⟩ = some (.int .i64 x154004_1) := (bc_ BK153.out 4).trans rfl
   have hcz7_5 : wr.cell? ⟨gb153, 5, none⟩ = some (.int .i64 x154005_1) := (bc_ BK153.out 5).trans rfl
   have hcz7_6 : wr.cell? ⟨gb153, 6, none⟩ = some (.int .i64 x154006_1) := (bc_ BK153.out 6).trans rfl
   have hcz7_7 : wr.cell? ⟨gb153, 7, none⟩ = some (.int .i64 x154007_1) := (bc_ BK153.out 7).trans rfl
   have hcz7_8 : wr.cell? ⟨gb153, 8, none⟩ = some (.slice none 0 0) := (bc_ BK153.out 8).trans rfl
   have hfz7_0 := bf_ BK153.out 0
   have hfz7_1 := bf_ BK153.out 1
   have hfz7_2 := bf_ BK153.out 2
   have hfz7_3 := bf_ BK153.out 3
   have hfz7_4 := bf_ BK153.out 4
   have hfz7_5 := bf_ BK153.out 5
   have hfz7_6 := bf_ BK153.out 6
   have hfz7_7 := bf_ BK153.out 7
   have hfz7_8 := bf_ BK153.out 8
   go_wp2
   refine bodyPost_ret (results_ct rfl _ _ gb153 42 #[.string ((rd_T42 l0 x6_1).f0), .string ((rd_T42 l0 x6_1).f1), .string ((rd_T42 l0 x6_1).f2), .int .u8 ((rd_T42 l0 x6_1).f3), .int .i64 ((rd_T42 l0 x6_1).f4.f0), .int .i64 ((rd_T42 l0 x6_1).f4.f1), .int .i64 ((rd_T42 l0 x6_1).f4.f2), .int .i64 ((rd_T42 l0 x6_1).f4.f3), .slice A154_8 ((rd_T42 l0 x6_1).f5).length c154_8] (0, 0) _ rfl (by (with_reducible repeat (first | refine blk_drewN ?_ _ | refine blk_drew ?_ | refine blk_alloc ?_ _)); refine blk_put (cs := #[.string ((rd_T42 l0 x6_1).f0), .string ((rd_T42 l0 x6_1).f1), .string ((rd_T42 l0 x6_1).f2), .int .u8 ((rd_T42 l0 x6_1).f3), .int .i64 ((rd_T42 l0 x6_1).f4.f0), .int .i64 ((rd_T42 l0 x6_1).f4.f1), .int .i64 ((rd_T42 l0 x6_1).f4.f2), .int .i64 ((rd_T42 l0 x6_1).f4.f3), .slice none 0 0]) ?_ 8 _ rfl; (with_reducible repeat (first | refine blk_drewN ?_ _ | refine blk_drew ?_ | refine blk_alloc ?_ _)); refine blk_put (cs := #[.string ((rd_T42 l0 x6_1).f0), .string ((rd_T42 l0 x6_1).f1), .string ((rd_T42 l0 x6_1).f2), .int .u8 ((rd_T42 l0 x6_1).f3), .int .i64 ((rd_T42 l0 x6_1).f4.f0), .int .i64 ((rd_T42 l0 x6_1).f4.f1), .int .i64 ((rd_T42 l0 x6_1).f4.f2), .int .i64 x154007_1, .slice none 0 0]) ?_ 7 _ rfl; (with_reducible repeat (first | refine blk_drewN ?_ _ | refine blk_drew ?_ | refine blk_alloc ?_ _)); refine blk_put (cs := #[.string ((rd_T42 l0 x6_1).f0), .string ((rd_T42 l0 x6_1).f1), .string ((rd_T42 l0 x6_1).f2), .int .u8 ((rd_T42 l0 x6_1).f3), .int .i64 ((rd_T42 l0 x6_1).f4.f0), .int .i64 ((rd_T42 l0 x6_1).f4.f1), .int .i64 x154006_1, .int .i64 x154007_1, .slice none 0 0]) ?_ 6 _ rfl; (with_reducible repeat (first | refine blk_drewN ?_ _ | refine blk_drew ?_ | refine blk_alloc ?_ _)); refine blk_put (cs := #[.string ((rd_T42 l0 x6_1).f0), .string ((rd_T42 l0 x6_1).f1), .string ((rd_T42 l0 x6_1).f2), .int .u8 ((rd_T42 l0 x6_1).f3), .int .i64 ((rd_T42 l0 x6_1).f4.f0), .int .i64 x154005_1, .int .i64 x154006_1, .int .i64 x154007_1, .slice none 0 0]) ?_ 5 _ rfl; (with_reducible repeat (first | refine blk_drewN ?_ _ | refine blk_drew ?_ | refine blk_alloc ?_ _)); refine blk_put (cs := #[.string ((rd_T42 l0 x6_1).f0), .string ((rd_T42 l0 x6_1).f1), .string ((rd_T42 l0 x6_1).f2), .int .u8 ((rd_T42 l0 x6_1).f3), .int .i64 x154004_1, .int .i64 x154005_1, .int .i64 x154006_1, .int .i64 x154007_1, .slice none 0 0]) ?_ 4 _ rfl; (with_reducible repeat (first | refine blk_drewN ?_ _ | refine blk_drew ?_ | refine blk_alloc ?_ _)); refine blk_put (cs := #[.string ((rd_T42 l0 x6_1).f0), .string ((rd_T42 l0 x6_1).f1), .string ((rd_T42 l0 x6_1).f2), .int .u8 x154003_1, .int .i64 x154004_1, .int .i64 x154005_1, .int .i64 x154006_1, .int .i64 x154007_1, .slice none 0 0]) ?_ 3 _ rfl; (with_reducible repeat (first | refine blk_drewN ?_ _ | refine blk_drew ?_ | refine blk_alloc ?_ _)); refine blk_put (cs := #[.string ((rd_T42 l0 x6_1).f0), .string ((rd_T42 l0 x6_1).f1), .string x154002_1, .int .u8 x154003_1, .int .i64 x154004_1, .int .i64 x154005_1, .int .i64 x154006_1, .int .i64 x154007_1, .slice none 0 0]) ?_ 2 _ rfl; (with_reducible repeat (first | refine blk_drewN ?_ _ | refine blk_drew ?_ | refine blk_alloc ?_ _)); refine blk_put (cs := #[.string ((rd_T42 l0 x6_1).f0), .string x154001_1, .string x154002_1, .int .u8 x154003_1, .int .i64 x154004_1, .int .i64 x154005_1, .int .i64 x154006_1, .int .i64 x154007_1, .slice none 0 0]) ?_ 1 _ rfl; (with_reducible repeat (first | refine blk_drewN ?_ _ | refine blk_drew ?_ | refine blk_alloc ?_ _)); refine blk_put (cs := #[.string x154000_1, .string x154001_1, .string x154002_1, .int .u8 x154003_1, .int .i64 x154004_1, .int .i64 x154005_1, .int .i64 x154006_1, .int .i64 x154007_1, .slice none 0 0]) ?_ 0 _ rfl; (with_reducible repeat (first | refine blk_drewN ?_ _ | refine blk_drew ?_ | refine blk_alloc ?_ _)); exact BK153.out) Tryz.underlying42 rfl (by kernel_rfl)) rfl ?_
   exact ⟨_, we_, by (with_reducible repeat (first | apply Va_ | apply VN_ | apply V1_)); exact Kd.V_mono (Kd.V_far (p := ⟨gb153, 8, none⟩) (Kd.V_far (p := ⟨gb153, 7, none⟩) (Kd.V_far (p := ⟨gb153, 6, none⟩) (Kd.V_far (p := ⟨gb153, 5, none⟩) (Kd.V_far (p := ⟨gb153, 4, none⟩) (Kd.V_far (p := ⟨gb153, 3, none⟩) (Kd.V_far (p := ⟨gb153, 2, none⟩) (Kd.V_far (p := ⟨gb153, 1, none⟩) (Kd.V_far (p := ⟨gb153, 0, none⟩) (Kd.V_mono HL155_8.out (fun k_ hk => (⟨hk, hk.2⟩ : _ ∧ k_ ≠ gb153))) (fun _ hk => hk.2) (.string ((rd_T42 l0 x6_1).f0))) (fun _ hk => hk.2) (.string ((rd_T42 l0 x6_1).f1))) (fun _ hk => hk.2) (.string ((rd_T42 l0 x6_1).f2))) (fun _ hk => hk.2) (.int .u8 ((rd_T42 l0 x6_1).f3))) (fun _ hk => hk.2) (.int .i64 ((rd_T42 l0 x6_1).f4.f0))) (fun _ hk => hk.2) (.int .i64 ((rd_T42 l0 x6_1).f4.f1))) (fun _ hk => hk.2) (.int .i64 ((rd_T42 l0 x6_1).f4.f2))) (fun _ hk => hk.2) (.int .i64 ((rd_T42 l0 x6_1).f4.f3))) (fun _ hk => hk.2) (.slice A154_8 ((rd_T42 l0 x6_1).f5).length c154_8)) (fun _ hk => hk.1.1), wb1_ HB.out GE153.out⟩
end Go.Proofs.YtbngbefchobfnaaGreatDoor.Print

namespace Go.Proofs.YtbngbefchobfnaaGreatDoor
open Go.RowKit Go.Proofs.YtbngbefchobfnaaGreatDoor.Print Go.Proofs.YtbngbefchobfnaaGreatDoorW.PrintWords Go.Proofs.YtbngbefchobfnaaGreatDoorW.PrintLast Go.Proofs.YtbngbefchobfnaaGreatDoorW.PrintMore
set_option linter.unusedVariables false
theorem rfind_l (l : List Node) (p : ByteArray) (hlen : l.length ≤ 1000000000000) : ∀ (d i : Nat), i + d = l.length → Ev (fun k => bindleref08_Find.l0 k l p (i : Int)) (tupN (findF (l.drop i) p)) := by
 intro d
 induction d with
 | zero =>
  intro i hi
  rw [List.drop_of_length_le (by omega)]
  exact Ev.step (f := fun _ => some (tupN none)) (fun k => by rw [bindleref08_Find.l0, if_neg (by omega)]; rfl) (Ev.now _)
 | succ d ih =>
  intro i hi
  have hil : i < l.length := by omega
  have hx : rd_T42 l (i : Int) = l[i] := by rw [rdN_at l (i : Int) (by omega) (by omega)]; simp
  rw [List.drop_eq_getElem_cons hil]
  unfold findF
  rw [List.find?_cons]
  by_cases he : l[i].f0.toList = p.toList
  ·rw [decide_eq_true he]
   exact Ev.step (f := fun _ => some (tupN (some l[i]))) (fun k => by rw [bindleref08_Find.l0, if_pos (by omega), if_pos (by omega), hx, if_pos he]; rfl) (Ev.now _)
  ·rw [decide_eq_false he]
   refine Ev.step (fun k => ?_) (ih (i + 1) (by omega))
   rw [bindleref08_Find.l0, if_pos (by omega), if_pos (by omega), hx, if_neg he]
   rw [show wrap64 ((i : Int) + 1) = ((i + 1 : Nat) : Int) by unfold wrap64; omega]
theorem rfind_eq (l : List Node) (p : ByteArray) (hlen : l.length ≤ 1000000000000) : Ev (fun k => bindleref08_Find.f k l p) (tupN (findF l p)) := rfind_l l p hlen l.length 0 (by omega)
theorem RefFind_F (ok : Nat → Prop) (A0 : Option Addr) (c0 : Nat) (l : List Node) (p : ByteArray) (W : World) (hF : Kd.F k42 W ok A0 l.length l) (hc : l.length ≤ c0) (hlen : l.length ≤ 1000000000000) :
  Calls Tryz.prog 20 #[.slice A0 l.length c0, .string p] W fun e W' => ∃ x b A c, (match findF l p with | some y => x = y ∧ b = true | none => x = z42 ∧ b = false) ∧ e = .returned (.tuple #[.agg (nodeCells x (.slice A x.f5.length c)), .bool b]) ∧ x.f5.length ≤ c ∧ Kd.F (Kd.int .u8) W' (fun k => ok k ∨ W.heap.size ≤ k) A x.f5.length x.f5 ∧ Below W.heap.size W W' := by
 obtain ⟨k, hk⟩ := Ev.rounds (rfind_eq l p hlen)
 have hV : Kd.V k42 42 W W.heap.size ok (.slice A0 l.length c0) l := Kd.V_mk hc hF
 cases hf : findF l p with
 | none =>
  rw [hf] at hk
  refine (bindleref08_Find.calls k _ A0 c0 l p _ _ _ _ _ _ _ _ _ _ W hV hk).mono ?_
  rintro e w' ⟨v, rfl, hv, hb⟩
  obtain ⟨A, c, rfl⟩ := Kd.V_slice hv
  exact ⟨z42, false, A, c, ⟨rfl, rfl⟩, rfl, (Kd.V_reads' hv).2.1, Kd.V_F hv, hb⟩
 | some y =>
  rw [hf] at hk
  refine (bindleref08_Find.calls k _ A0 c0 l p _ _ _ _ _ _ _ _ _ _ W hV hk).mono ?_
  rintro e w' ⟨v, rfl, hv, hb⟩
  obtain ⟨A, c, rfl⟩ := Kd.V_slice hv
  exact ⟨y, true, A, c, ⟨rfl, rfl⟩, rfl, (Kd.V_reads' hv).2.1, Kd.V_F hv, hb⟩
end Go.Proofs.YtbngbefchobfnaaGreatDoor
