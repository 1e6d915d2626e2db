/-
  links.Members' contract: it answers membersF.
-/
import Derived.Test.YtfljbidecljlcaaDoorFindW
import Derived.Outline
namespace Go.Proofs.YtfljbidecljlcaaDoor
open Go.RowKit Go.Maps Go.Proofs.YtfljbidecljlcaaDoor.Print Go.Proofs.YtfljbidecljlcaaDoorW.PrintWords Go.Proofs.YtfljbidecljlcaaDoorW.PrintLast Go.Proofs.YtfljbidecljlcaaDoorW.PrintMore
set_option linter.unusedVariables false
set_option linter.unusedSimpArgs false
theorem zeroStr (w : World) : (zeroValue 9).run Tryd.prog w = .ok (.string ⟨#[]⟩) w := by kernel_rfl
theorem zeroBool (w : World) : (zeroValue 4).run Tryd.prog w = .ok (.bool false) w := by kernel_rfl
/-- What the map of names holds. -/
def firstV (f : List (List UInt8 × ByteArray)) : List UInt8 → Option Value := fun s => (lk f s).map Value.string
theorem firstV_put (f : List (List UInt8 × ByteArray)) (s : List UInt8) (v : ByteArray) (t : List UInt8) : putS (firstV f) s (.string v) t = firstV ((s, v) :: f) t := by
  unfold putS firstV
  rw [lk]
  by_cases h : t = s
  · rw [if_pos h, if_pos h]; rfl
  · rw [if_neg h, if_neg h]
theorem gcell {W w1 : World} {b : Nat} (hg : W.grownBy w1 (some b)) : (∀ g o, g < W.heap.size → g ≠ b → w1.cell? ⟨g, o, none⟩ = W.cell? ⟨g, o, none⟩) ∧ (∀ g o, g < W.heap.size → g ≠ b → w1.frozen? ⟨g, o, none⟩ = W.frozen? ⟨g, o, none⟩) := by
  constructor
  · intro g o h hne
    have := hg.block g h (by simpa using fun e => hne e)
    unfold World.cell?
    dsimp only
    rw [this]
  · intro g o h hne
    have := hg.block g h (by simpa using fun e => hne e)
    unfold World.frozen?
    dsimp only
    rw [this]
theorem map_put {P : Program} {K : TypeId} {w : World} {b n : Nat} {f : List UInt8 → Option Value} (h : MapS P K w b n f) (g j : Nat) (hg : b < g) (u : Value) : MapS P K (w.setCell ⟨g, j, none⟩ u) b n f :=
  h.setCell (a := ⟨g, j, none⟩) (by show b ≠ g; omega) u
theorem int_kept {P : Program} {K : TypeId} {w w1 : World} {b n0 : Nat} {f : List UInt8 → Option Value} (hM : MapS P K w b n0 f) (hg : w.grownBy w1 (some b)) {k : IntKind} {A : Option Addr} {n : Nat} {xs : List Int} (h : Kd.C (Kd.int k) w A n xs) : Kd.C (Kd.int k) w1 A n xs := by
  obtain ⟨D, ⟨es, clock, hb, _⟩, _⟩ := hM
  refine ⟨h.1, h.2.1, fun hn => ?_⟩
  obtain ⟨ad, e, hc⟩ := h.2.2 hn
  refine ⟨ad, e, fun j p hj => ?_⟩
  obtain ⟨c, hs, hr, hcell⟩ := hc j p hj
  refine ⟨c, hs, hr, fun i u hu => ?_⟩
  have h1 := hcell i u hu
  have hlt : (ad.add (j * Kd.sz (Kd.int k) + i)).block < w.heap.size := by
    unfold World.cell? at h1
    rcases Nat.lt_or_ge (ad.add (j * Kd.sz (Kd.int k) + i)).block w.heap.size with h2 | h2
    · exact h2
    · rw [Array.getElem?_eq_none (by omega)] at h1; cases h1
  have hne : (ad.add (j * Kd.sz (Kd.int k) + i)).block ≠ b := by
    intro e2
    unfold World.cell? at h1
    rw [e2, hb] at h1
    cases h1
  rw [← h1]
  unfold World.cell?
  rw [hg.block _ hlt (by simpa using hne)]
theorem grown_add {W w w' : World} {row : Option Nat} (h : W.grownBy w row) (hb : Below W.heap.size w w') : W.grownBy w' row :=
  ⟨hb.os.trans h.os, hb.tape.trans h.tape, hb.output.trans h.output, Nat.le_trans h.size hb.size, fun k hk hr => (hb.block k hk).trans (h.block k hk hr)⟩
theorem grown_put {W w : World} {row : Option Nat} (h : W.grownBy w row) (g j : Nat) (hg : W.heap.size ≤ g) (u : Value) : W.grownBy (w.setCell ⟨g, j, none⟩ u) row := grown_add h (below_put (Below.refl _ _) g j hg u)
/-- A member's cells. -/
def memCells (m : Mem) (v : Value) : Array Value := #[.string m.f0, .string m.f1, .int .u8 m.f2, .int .i64 m.f3.f0, .int .i64 m.f3.f1, .int .i64 m.f3.f2, .int .i64 m.f3.f3, v]
set_option maxRecDepth 100000 in
set_option maxHeartbeats 2000000 in
theorem Member_calls (b k : Nat) (f : List (List UInt8 × ByteArray)) (x : Node) (A : Option Addr) (c : Nat) (W : World) (hM : MapS Tryd.prog 9 W b k (firstV f)) (hk : k < 1000000000000) (hC : Kd.C (Kd.int .u8) W A x.f5.length x.f5) (hz : NodeZ x) :
    Calls Tryd.prog 41 #[.map (some b), .agg (nodeCells x (.slice A x.f5.length c))] W fun e W' => ∃ v, e = .returned (.agg (memCells (memF f x).1 v)) ∧ Kd.R (Kd.int .u8) 5 W' W.heap.size (fun _ => True) v (memF f x).1.f4 ∧
      MapS Tryd.prog 9 W' b (k + 1) (firstV (memF f x).2) ∧ W.grownBy W' (some b) := by
  have hb : b < W.heap.size := hM.lt
  have hs2 : x.f2.size ≤ maxLen := by have := hz.2.2.1; unfold maxLen; omega
  have hlook := fun o1 o2 o3 => (((hM.alloc o1).alloc o2).alloc o3).look_ok Tryd.underlying9 Tryd.underlying62 (zeroStr _) hs2
  have HM := Aside0.mk hM
  have HC := Aside0.mk hC
  have HZ := Aside0.mk hz
  clear hM hC hz
  generalize hpost : (fun (e : Ending) (W' : World) => ∃ v, e = .returned (.agg (memCells (memF f x).1 v)) ∧ Kd.R (Kd.int .u8) 5 W' W.heap.size (fun _ => True) v (memF f x).1.f4 ∧
      MapS Tryd.prog 9 W' b (k + 1) (firstV (memF f x).2) ∧ W.grownBy W' (some b)) = Q
  have hQ := Aside0.mk hpost
  clear hpost
  unfold nodeCells
  by_cases h48 : x.f3 = 48
  · have e48 : (x.f3 == 48) = true := beq_iff_eq.2 h48
    cases ht : (firstV f x.f2.data.toList) with
    | some v =>
      obtain ⟨q, rfl, hq⟩ : ∃ q, v = Value.string q ∧ lk f x.f2.data.toList = some q := by
        unfold firstV at ht
        cases hk : lk f x.f2.data.toList with
        | none => rw [hk] at ht; cases ht
        | some q => rw [hk] at ht; cases ht; exact ⟨q, rfl, rfl⟩
      simp only [ht, Option.getD_some, Option.isSome_some] at hlook
      have HQL := Aside0.mk hq
      have H48 := Aside0.mk h48
      clear ht hq h48
      go_enter Tryd.func41, Tryd.ntmps41
      go_wp2
      have hmf : memF f x = (⟨x.f0, q, 49, x.f4, []⟩, f) := by unfold memF; rw [if_pos H48.out]; simp only [HQL.out]
      refine bodyPost_ret (v := .agg (memCells (memF f x).1 (.slice none 0 0))) (by simp [results, Tryd.results41, go_sem, memCells, hmf]) rfl ?_
      rw [← hQ.out]
      refine ⟨.slice none 0 0, rfl, by rw [hmf]; exact Kd.R_nil _ _ _ _ _, ?_, grown_of_below ?_ _⟩
      · rw [hmf]
        refine MapS.mono ?_ (Nat.le_succ k)
        repeat (first | with_reducible refine MapS.alloc ?_ _ | with_reducible refine map_put ?_ _ _ (by omega) _)
        exact HM.out
      · repeat (first | with_reducible refine below_alloc ?_ _ | with_reducible refine below_put ?_ _ _ (by omega) _)
        exact Below.refl _ _
    | none =>
      have hq : lk f x.f2.data.toList = none := by
        unfold firstV at ht
        cases hk : lk f x.f2.data.toList with
        | none => rfl
        | some q => rw [hk] at ht; cases ht
      simp only [ht, Option.getD_none, Option.isSome_none] at hlook
      have HQL := Aside0.mk hq
      have H48 := Aside0.mk h48
      clear ht hq h48
      have hmf : memF f x = (⟨x.f0, x.f1, 48, x.f4, x.f5⟩, (x.f2.data.toList, x.f0) :: f) := by unfold memF; rw [if_pos H48.out]; simp only [HQL.out]
      have HMF := Aside0.mk hmf
      clear hmf
      have hMa := fun o1 o2 o3 => ((HM.out.alloc o1).alloc o2).alloc o3
      have HMA := Aside0.mk hMa
      clear hMa
      have hn0 : ¬ W.heap.size = b := by omega
      have hn1 : ¬ W.heap.size + 1 = b := by omega
      have hn2 : ¬ W.heap.size + 2 = b := by omega
      go_enter Tryd.func41, Tryd.ntmps41
      go_wp2_with (first
        | (at_mapUpdate; refine MapS.wpput (HMA.out _ _ _) rfl _ _ _ rfl Tryd.underlying9 Tryd.underlying62 (by unfold maxLen; omega) rfl rfl hs2 rfl ?_; intro w5 hM5 hturn5; obtain ⟨hc5, hf5⟩ := gcell hturn5.grown; have hz5 := hturn5.grown.size; simp only [World.size_alloc] at hz5; have hp0 : W.heap.size < w5.heap.size := (by omega); have hp1 : W.heap.size + 1 < w5.heap.size := (by omega); have hp2 : W.heap.size + 1 + 1 < w5.heap.size := (by omega); have HM5 := Aside0.mk hM5; have HG5 := Aside0.mk hturn5.grown; clear hM5 hturn5)
        | (go_at_call 59; refine (Clone_calls A c x.f5 _ (int_kept (HMA.out _ _ _) HG5.out (Kd.C_alloc (Kd.C_alloc (Kd.C_alloc HC.out _) _) _)) (HZ.out.2.2.2)).mono ?_; rintro e w6 ⟨v, rfl, hR6, hb6⟩; obtain ⟨Av, cv, rfl, hlv, hCv⟩ := Kd.R_reads hR6; clear hlv hCv; obtain ⟨hc6, hf6⟩ := bcell hb6; have HR6 := Aside0.mk hR6; have HB6 := Aside0.mk hb6; clear hR6 hb6))
      refine bodyPost_ret (v := .agg (memCells (memF f x).1 (.slice Av x.f5.length cv))) (by simp [results, Tryd.results41, go_sem, hc6, hc5, hn0, hn1, hn2, hp0, hp1, hp2, memCells, HMF.out, H48.out]) rfl ?_
      rw [← hQ.out]
      refine ⟨.slice Av x.f5.length cv, rfl, ?_, ?_, ?_⟩
      · rw [HMF.out]
        refine Kd.R_lower (base := w5.heap.size) (Kd.R_mono (ok := fun k => w5.heap.size ≤ k) ?_ (fun _ _ => trivial)) (by omega)
        repeat (with_reducible refine row_put ?_ _ _ (by omega) _)
        exact Kd.R_mono (Kd.R_bound HR6.out) (fun k hk => hk.2.1)
      · rw [HMF.out]
        refine MapS.ext ?_ (firstV_put f x.f2.data.toList x.f0)
        repeat (with_reducible refine map_put ?_ _ _ (by omega) _)
        exact HM5.out.below HB6.out
      · repeat (with_reducible refine grown_put ?_ _ _ (by omega) _)
        refine grown_add ?_ (HB6.out.mono (by omega))
        refine World.grownBy.trans (grown_of_below ?_ _) HG5.out
        repeat (first | with_reducible refine below_alloc ?_ _ | with_reducible refine below_put ?_ _ _ (by omega) _)
        exact Below.refl _ _
  · have e48 : (x.f3 == 48) = false := beq_eq_false_iff_ne.2 h48
    have hmf : memF f x = (⟨x.f0, x.f1, x.f3, x.f4, x.f5⟩, f) := by unfold memF; rw [if_neg h48]
    have HMF := Aside0.mk hmf
    clear hmf h48
    go_enter Tryd.func41, Tryd.ntmps41
    go_wp2_with (go_at_call 59; refine (Clone_calls A c x.f5 _ (Kd.C_alloc (Kd.C_alloc (Kd.C_alloc HC.out _) _) _) (HZ.out.2.2.2)).mono ?_; rintro e w6 ⟨v, rfl, hR6, hb6⟩; obtain ⟨Av, cv, rfl, hlv, hCv⟩ := Kd.R_reads hR6; clear hlv hCv; obtain ⟨hc6, hf6⟩ := bcell hb6; have HR6 := Aside0.mk hR6; have HB6 := Aside0.mk hb6; clear hR6 hb6)
    refine bodyPost_ret (v := .agg (memCells (memF f x).1 (.slice Av x.f5.length cv))) (by simp [results, Tryd.results41, go_sem, hc6, memCells, HMF.out]) rfl ?_
    rw [← hQ.out]
    refine ⟨.slice Av x.f5.length cv, rfl, ?_, ?_, ?_⟩
    · rw [HMF.out]
      have hR6 := HR6.out
      simp only [World.size_alloc] at hR6
      refine Kd.R_lower (base := W.heap.size + 1 + 1 + 1) (Kd.R_mono (ok := fun k => W.heap.size + 1 + 1 + 1 ≤ k) ?_ (fun _ _ => trivial)) (by omega)
      repeat (with_reducible refine row_put ?_ _ _ (by omega) _)
      exact Kd.R_mono (Kd.R_bound hR6) (fun k hk => hk.2.1)
    · rw [HMF.out]
      refine MapS.mono ?_ (Nat.le_succ k)
      repeat (with_reducible refine map_put ?_ _ _ (by omega) _)
      exact (((HM.out.alloc _).alloc _).alloc _).below HB6.out
    · repeat (with_reducible refine grown_put ?_ _ _ (by omega) _)
      refine grown_add ?_ (HB6.out.mono (by simp only [World.size_alloc]; omega))
      refine grown_of_below ?_ _
      repeat (first | with_reducible refine below_alloc ?_ _ | with_reducible refine below_put ?_ _ _ (by omega) _)
      exact Below.refl _ _
end Go.Proofs.YtfljbidecljlcaaDoor
