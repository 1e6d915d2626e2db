/-
  A RANGE OVER A FUNCTION, the iterator's own memory (cells that it captured) and the body's kept apart: a law of this project's own, over the base's statement rule. It : what the iterator does to the world between two rounds; Kp : what a round that goes on keeps for it; I : what the body keeps.
-/
import Derived.RangeFuncNested
import Derived.RangeFuncBound
import Derived.RangeFuncCalls
import Derived.RangeFuncLeaves
import Derived.Shelf.Abstract
import Derived.Shelf.RegionOpen
import Derived.WalkKit
import Derived.OwnWalkIn
import Derived.TacticsInMore
import Derived.LoopNIn
import Derived.LoopIn
import Derived.Maps.AppendAt
namespace Go.Proofs.YtfljbidecljlcaaDoor
open Go.RowKit Go.Shelf
/-- How a round's body is left. -/
def RoundEnd {α : Type} (Kp : World → World → Prop) (I : List α → World → Prop) (Ix : Code → List α → World → Prop) (l : Nat) (rec : Loop) (xs : List α) (W : World) : Exit → Act → World → Prop
  | .normal, _, W' => (W'.heap[l]? = some (.loop rec) ∧ W'.heap[rec.defers]? = some (.deferred (some []))) ∧ Kp W W' ∧ I xs W'
  | .ret, _, W' => (W'.heap[l]? = some (.loop rec) ∧ W'.heap[rec.defers]? = some (.deferred (some []))) ∧ Ix .ret xs W'
  | .exit id, _, W' => (W'.heap[l]? = some (.loop rec) ∧ W'.heap[rec.defers]? = some (.deferred (some []))) ∧ Ix (.exit id) xs W'
  | .goto t, _, W' => (W'.heap[l]? = some (.loop rec) ∧ W'.heap[rec.defers]? = some (.deferred (some []))) ∧ Ix (.goto t) xs W'
  | .panic _, _, _ => False
  | .outgrown, _, _ => False
/-- A block that holds the loop's own book-keeping. -/
def Book (o : Obj) : Prop := o.isCells = false ∧ o.isWalk = false
/-- The iterator's contract, over any loop that keeps to it. -/
def Gives {α : Type} (F : Fence) (n : Nat) (P : Program) (gf : Nat) (lb : Array Value) (encs : α → Array Value) (B : Nat) (It Kp : World → World → Prop) (S Sp : List α → Prop) (W : World) : Prop :=
  ∀ (l : Nat) (J Jx : List α → World → Prop) (W1 : World), Below B W W1 →
    (∀ s A A', J s A → It A A' → J s A') → (∀ s A A', Jx s A → It A A' → Jx s A') →
    (∀ pre x A, J pre A → Sp (pre ++ [x]) → YieldAt F (n - 1) P l (encs x) A fun e A' =>
      (e = .returned (.bool true) ∧ J (pre ++ [x]) A' ∧ Kp A A') ∨ (e = .returned (.bool false) ∧ Jx (pre ++ [x]) A')) →
    J [] W1 →
    CallsIn F n P gf (#[.func (.yield l) #[] #[]] ++ lb) W1 fun e W' => (∃ v, e = .returned v) ∧ ((∃ xs, S xs ∧ J xs W') ∨ (∃ pre, Sp pre ∧ Jx pre W'))
variable {F : Fence} {n : Nat} {P : Program}
theorem wpIn_range_own {α : Type} {g : Operand} {ps : Array Tmp} {assign body : Code} {Q : Exit → Act → World → Prop} {a : Act} {w : World}
    (hro : F.round = none) (h1 : 1 ≤ n) {gf : Nat} {lb : Array Value} (hg : a.eval g = .func (.func gf) #[] lb) (hFg : F.fn gf) (eg : ∀ args w, (callFunc gf args).run P w = .ok (.enter gf args) w)
    {encs : α → Array Value} {It Kp : World → World → Prop} {S Sp : List α → Prop}
    (hseq : Gives F (n - 1) P gf lb encs w.heap.size It Kp S Sp w) (hps : ∀ x, (encs x).size = ps.size)
    (hIt : ∀ A A' k o, It A A' → w.heap.size ≤ k → Book o → A.heap[k]? = some o → A'.heap[k]? = some o)
    (hKt : ∀ {A B C : World}, Kp A B → Kp B C → Kp A C) (hKb : ∀ (A : World) (k : Nat) (o' : Obj), w.heap.size ≤ k → Kp A (A.putObj k o'))
    (I : List α → World → Prop) (Ix : Code → List α → World → Prop)
    (hI : ∀ s A k o o', I s A → w.heap.size ≤ k → Book o → A.heap[k]? = some o → I s (A.putObj k o')) (hIx : ∀ c s A k o o', Ix c s A → w.heap.size ≤ k → Book o → A.heap[k]? = some o → Ix c s (A.putObj k o'))
    (hI' : ∀ s A A', I s A → It A A' → I s A') (hIx' : ∀ c s A A', Ix c s A → It A A' → Ix c s A')
    (h0 : ∀ o1 o2, I [] ((w.alloc o1).alloc o2)) (a₁ : α → Act)
    (hassign : ∀ (l : Nat) (x : α) (W : World) (K : Act → World → Prop), K (a₁ x) W →
      assign.wpIn (F.inRound l) (n - 1 - 1) P (Exit.then K (fun _ _ _ => False)) { tmps := (ps.zip (encs x)).foldl (fun t (p, v) => t.setIfInBounds p v) a.tmps, defers := [] } W)
    (hbody : ∀ (l : Nat) (rec : Loop) (pre : List α) (x : α) (W : World), I pre W → Sp (pre ++ [x]) → w.heap.size ≤ l → w.heap.size ≤ rec.defers → W.heap[l]? = some (.loop rec) → W.heap[rec.defers]? = some (.deferred (some [])) →
      body.wpIn (F.inRound l) (n - 1 - 1) P (RoundEnd Kp I Ix l rec (pre ++ [x]) W) (a₁ x) W)
    (hdone : ∀ (D : Nat) (xs : List α) (W : World), w.heap.size ≤ D → S xs → I xs W → W.heap[D]? = some (.deferred (some [])) → Q .normal { a with defers := { target := .collected D, args := #[] } :: a.defers } W)
    (hstop : ∀ (D : Nat) (c : Code) (pre : List α) (W : World), w.heap.size ≤ D → Sp pre → Ix c pre W → W.heap[D]? = some (.deferred (some [])) → c.wpIn F n P Q { a with defers := { target := .collected D, args := #[] } :: a.defers } W) :
    (Code.rangeFunc g ps assign body).wpIn F n P Q a w := by
  refine wpIn_rangeFunc fun fn hfn => ?_
  rw [hro]
  obtain ⟨rec, hrec⟩ : ∃ rec : LoopState → Option Code → Loop, rec = fun st pe => { state := st, pending := pe, fn, tmps := a.tmps, params := ps, assign, body, defers := w.heap.size } := ⟨_, rfl⟩
  have hdef : ∀ st pe, (rec st pe).defers = w.heap.size := fun st pe => by rw [hrec]
  generalize hW1 : (w.alloc (.deferred (some []))).alloc (.loop (rec .ready none)) = W1
  have hsz : W1.heap.size = w.heap.size + 2 := by rw [← hW1]; simp
  have hL1 : W1.heap[w.heap.size + 1]? = some (.loop (rec .ready none)) := by
    rw [← hW1]; have := World.alloc_heap_new (w.alloc (.deferred (some []))) (.loop (rec .ready none)); rwa [World.size_alloc] at this
  have hK1 : W1.heap[w.heap.size]? = some (.deferred (some [])) := by
    rw [← hW1]; exact (Below.heap_alloc _ _ _ (by simp)).trans (World.alloc_heap_new w _)
  have hb1 : Below w.heap.size w W1 := by
    rw [← hW1]; exact ((Below.refl _ w).alloc (Nat.le_refl _) _).alloc (by simp) _
  have bl : ∀ r : Loop, Book (.loop r) := fun _ => ⟨rfl, rfl⟩
  have bd : ∀ r, Book (.deferred r) := fun _ => ⟨rfl, rfl⟩
  refine ⟨w.heap.size + 1, [{ target := .collected w.heap.size, args := #[] }], W1, { target := .fn (.func gf) lb, args := #[.func (.yield (w.heap.size + 1)) #[] #[]] }, W1, gf,
    #[.func (.yield (w.heap.size + 1)) #[] #[]] ++ lb, W1, ?_, ?_, ?_, ?_, fun _ => h1, ?_⟩
  · rw [← hW1, hrec]; exact run_enterLoop_outer _ _ _ _ _
  · simp only [resolve, hg]
    simp [go_sem]
  · intro f' hf'; simp [Target.leads] at hf'; subst hf'; exact hFg
  · simp [invoke, go_sem, eg]
  · refine (hseq (w.heap.size + 1)
      (fun pre A => I pre A ∧ A.heap[w.heap.size + 1]? = some (.loop (rec .ready none)) ∧ A.heap[w.heap.size]? = some (.deferred (some [])))
      (fun pre A => ∃ c, Ix c pre A ∧ A.heap[w.heap.size + 1]? = some (.loop (rec .done (some c))) ∧ A.heap[w.heap.size]? = some (.deferred (some [])))
      W1 hb1
      (fun s A A' hs hi => ⟨hI' s A A' hs.1 hi, hIt _ _ _ _ hi (by omega) (bl _) hs.2.1, hIt _ _ _ _ hi (by omega) (bd _) hs.2.2⟩)
      (fun s A A' hs hi => by
        obtain ⟨c, h2, h3, h4⟩ := hs
        exact ⟨c, hIx' c s A A' h2 hi, hIt _ _ _ _ hi (by omega) (bl _) h3, hIt _ _ _ _ hi (by omega) (bd _) h4⟩)
      ?_ ⟨by rw [← hW1]; exact h0 _ _, hL1, hK1⟩).mono ?_
    · rintro pre x W ⟨hi, hl, hk⟩ hsp
      have hlt : w.heap.size + 1 < W.heap.size := (Array.getElem?_eq_some_iff.1 hl).1
      have hy := run_yield (P := P) (args := encs x) hl (by rw [hrec]; exact hps x)
      rw [hrec] at hy
      refine ⟨fn, _, assign, body, hy, roundIn_of_wpIn hfn (hassign _ x W _ ⟨_, run_beginRound hl (by rw [hrec]), ?_⟩)⟩
      generalize hrb : ({ rec .ready none with state := .busy } : Loop) = rb
      have hrbd : rb.defers = w.heap.size := by rw [← hrb]; exact hdef _ _
      have hl2 : (W.putObj (w.heap.size + 1) (.loop rb)).heap[w.heap.size + 1]? = some (.loop rb) := World.putObj_heap_same hlt
      have hk2 : (W.putObj (w.heap.size + 1) (.loop rb)).heap[rb.defers]? = some (.deferred (some [])) := by rw [hrbd]; exact (World.putObj_heap_other (by omega)).trans hk
      have fin : ∀ (jump : Option Code) (W3 : World), (W3.heap[w.heap.size + 1]? = some (.loop rb) ∧ W3.heap[rb.defers]? = some (.deferred (some []))) →
          (Instr.endRound (w.heap.size + 1) jump).run P W3 = .ok (.bool jump.isNone) (W3.putObj (w.heap.size + 1) (.loop (rec (if jump.isNone then .ready else .done) jump))) ∧
          (W3.putObj (w.heap.size + 1) (.loop (rec (if jump.isNone then .ready else .done) jump))).heap[w.heap.size + 1]? = some (.loop (rec (if jump.isNone then .ready else .done) jump)) ∧
          (W3.putObj (w.heap.size + 1) (.loop (rec (if jump.isNone then .ready else .done) jump))).heap[w.heap.size]? = some (.deferred (some [])) := fun jump W3 hk3 => by
        have := run_endRound (P := P) jump hk3.1
        rw [← hrb, hrec] at this
        refine ⟨by rw [hrec]; exact this, World.putObj_heap_same (Array.getElem?_eq_some_iff.1 hk3.1).1, (World.putObj_heap_other (by omega)).trans (by have := hk3.2; rwa [hrbd] at this)⟩
      refine wpIn_mono (hbody _ rb pre x _ (hI _ _ _ _ _ hi (by omega) (bl _) hl) hsp (by omega) (by omega) hl2 hk2) ?_
      rintro e a3 W3 hp
      cases e with
      | normal =>
        obtain ⟨hk3, hkp3, hi3⟩ := hp
        obtain ⟨hr, hl4, hk4⟩ := fin none W3 hk3
        exact ⟨_, _, hr, .inl ⟨rfl, ⟨hI _ _ _ _ _ hi3 (by omega) (bl _) hk3.1, hl4, hk4⟩, hKt (hKt (hKb _ _ _ (by omega)) hkp3) (hKb _ _ _ (by omega))⟩⟩
      | ret =>
        obtain ⟨hk3, hi3⟩ := hp
        obtain ⟨hr, hl4, hk4⟩ := fin (some .ret) W3 hk3
        exact ⟨_, _, hr, .inr ⟨rfl, .ret, hIx _ _ _ _ _ _ hi3 (by omega) (bl _) hk3.1, hl4, hk4⟩⟩
      | exit id =>
        obtain ⟨hk3, hi3⟩ := hp
        obtain ⟨hr, hl4, hk4⟩ := fin (some (.exit id)) W3 hk3
        exact ⟨_, _, hr, .inr ⟨rfl, .exit id, hIx _ _ _ _ _ _ hi3 (by omega) (bl _) hk3.1, hl4, hk4⟩⟩
      | goto t =>
        obtain ⟨hk3, hi3⟩ := hp
        obtain ⟨hr, hl4, hk4⟩ := fin (some (.goto t)) W3 hk3
        exact ⟨_, _, hr, .inr ⟨rfl, .goto t, hIx _ _ _ _ _ _ hi3 (by omega) (bl _) hk3.1, hl4, hk4⟩⟩
      | panic ch => exact hp.elim
      | outgrown => exact hp.elim
    · rintro e W2 ⟨⟨v, rfl⟩, (⟨xs, hS, hi, hl, hk⟩ | ⟨pre, hSp, c, hi, hl, hk⟩)⟩
      · exact ⟨none, _, by have := run_endLoop (P := P) hl (by rw [hrec]; simp); rw [hrec] at this; exact this, hdone _ xs _ (Nat.le_refl _) hS (hI _ _ _ _ _ hi (by omega) (bl _) hl) ((World.putObj_heap_other (by omega)).trans hk)⟩
      · exact ⟨some c, _, by have := run_endLoop (P := P) hl (by rw [hrec]; simp); rw [hrec] at this; exact this, hstop _ c pre _ (Nat.le_refl _) hSp (hIx _ _ _ _ _ _ hi (by omega) (bl _) hl) ((World.putObj_heap_other (by omega)).trans hk)⟩
end Go.Proofs.YtfljbidecljlcaaDoor
