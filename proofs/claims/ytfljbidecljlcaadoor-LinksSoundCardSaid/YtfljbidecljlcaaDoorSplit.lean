/-
  strings.SplitSeq(s, "/"): the maker's contract, and what its iterator gives to a loop.
-/
import Derived.Test.YtfljbidecljlcaaDoorRange
import Derived.Test.YtfljbidecljlcaaDoorTabs
import Derived.Test.YtfljbidecljlcaaDoorSplitP
import Derived.Lib.Hide
namespace Go.Proofs.YtfljbidecljlcaaDoor
open Go.RowKit Go.Shelf
attribute [local go_sem] Oper.semAt_some
set_option linter.unusedVariables false
set_option linter.unusedSimpArgs false
/-- The maker: three captured variables in new blocks. -/
def IterAt (w : World) (s : ByteArray) (e : Ending) (w' : World) : Prop :=
  e = .returned (.func (.func 105) #[] #[.pointer (some ⟨w.heap.size + 1, 0, none⟩), .pointer (some ⟨w.heap.size, 0, none⟩), .pointer (some ⟨w.heap.size + 2, 0, none⟩)]) ∧
  w' = ((w.alloc (.cells #[.string s] 9)).alloc (.cells #[.string ⟨#[47]⟩] 9)).alloc (.cells #[.int .i64 0] 3)
theorem SplitSeq_calls (s : ByteArray) (w : World) : Calls Tryd.prog 80 #[.string s, .string ⟨#[47]⟩] w (IterAt w s) := by
  go_enter Tryd.func80, Tryd.ntmps80
  go_wp2
  go_ret
  exact ⟨rfl, rfl⟩
/-- The cells that the iterator leans on. -/
def SplitCells (bsep bs bsv : Nat) (t : ByteArray) (W : World) : Prop :=
  W.heap[bs]? = some (.cells #[.string t] 9) ∧ W.heap[bsep]? = some (.cells #[.string ⟨#[47]⟩] 9) ∧ W.heap[bsv]? = some (.cells #[.int .i64 0] 3)
def textAt (b : Nat) (W : World) : Nat := match W.cell? ⟨b, 0, none⟩ with | some (.string t) => t.size | _ => 0
def SplitIt (bs : Nat) (A A' : World) : Prop := ∃ v : ByteArray, A' = A.setCell ⟨bs, 0, none⟩ (.string v)
def SplitKp (bsep bs bsv : Nat) (A A' : World) : Prop := A'.heap[bs]? = A.heap[bs]? ∧ A'.heap[bsep]? = A.heap[bsep]? ∧ A'.heap[bsv]? = A.heap[bsv]?
theorem SplitCells.kept {bsep bs bsv : Nat} {t : ByteArray} {A A' : World} (h : SplitCells bsep bs bsv t A) (k : SplitKp bsep bs bsv A A') : SplitCells bsep bs bsv t A' :=
  ⟨k.1.trans h.1, k.2.1.trans h.2.1, k.2.2.trans h.2.2⟩
theorem heap_set_one {W : World} {b : Nat} {t : TypeId} {v u : Value} (h : W.heap[b]? = some (.cells #[v] t)) : (W.setCell ⟨b, 0, none⟩ u).heap[b]? = some (.cells #[u] t) := by
  simp [World.setCell, Array.getElem?_modify, h]
theorem SplitCells.set {bsep bs bsv : Nat} {t u : ByteArray} {A : World} (h : SplitCells bsep bs bsv t A) (h1 : bsep ≠ bs) (h2 : bsv ≠ bs) : SplitCells bsep bs bsv u (A.setCell ⟨bs, 0, none⟩ (.string u)) :=
  ⟨heap_set_one h.1, (Below.heap_setCell _ _ _ _ h1).trans h.2.1, (Below.heap_setCell _ _ _ _ h2).trans h.2.2⟩
theorem cell_of_block {W : World} {b : Nat} {t : TypeId} {v : Value} (h : W.heap[b]? = some (.cells #[v] t)) : W.cell? ⟨b, 0, none⟩ = some v := by simp [World.cell?, h]
theorem free_of_block {W : World} {b : Nat} {t : TypeId} {v : Value} (h : W.heap[b]? = some (.cells #[v] t)) : W.frozen? ⟨b, 0, none⟩ = false := by simp [World.frozen?, h]
set_option maxHeartbeats 1000000 in
set_option maxRecDepth 100000 in
theorem split_gives (n B bsep bs bsv : Nat) (s : ByteArray) (W : World) (hn : 1 ≤ n) (h1 : bsep ≠ bs) (h2 : bsv ≠ bs) (hb1 : bs < B) (hb2 : bsep < B) (hb3 : bsv < B) (hs : s.size ≤ 9223372036854775807) (hc : SplitCells bsep bs bsv s W) :
    Gives Fence.wide n Tryd.prog 105 #[.pointer (some ⟨bsep, 0, none⟩), .pointer (some ⟨bs, 0, none⟩), .pointer (some ⟨bsv, 0, none⟩)] (fun x : ByteArray => #[.string x])
      B (SplitIt bs) (SplitKp bsep bs bsv) (fun xs => xs = splitS s) (fun pre => pre <+: splitS s) W := by
  intro l J Jx W1 hW hJ hJx hY hJ0
  have hc1 : SplitCells bsep bs bsv s W1 := ⟨(hW.block _ hb1).trans hc.1, (hW.block _ hb2).trans hc.2.1, (hW.block _ hb3).trans hc.2.2⟩
  clear hW hc
  refine callsIn_of_wp Tryd.func105 rfl trivial ?_ rfl
  simp only [Tryd.ntmps105, List.size_toArray, List.length_cons, List.length_nil, Nat.reduceAdd, Nat.reduceSub, Array.replicate_succ, Array.replicate_zero, List.push_toArray, List.append_toArray, List.nil_append, List.cons_append]
  have g1 := cell_of_block hc1.2.1
  gi_wp2
  clear g1
  gi_loopw [7] (fun _ wr => ∃ (pre : List ByteArray) (t : ByteArray), splitS s = pre ++ splitS t ∧ t.size ≤ 9223372036854775807 ∧ SplitCells bsep bs bsv t wr ∧ J pre wr)
    (fun _ wr => textAt bs wr)
  case atStart => exact ⟨[], s, rfl, hs, hc1, hJ0⟩
  case round =>
    obtain ⟨pre, t, hsp, ht, hct, hJs⟩ := hrel
    have g1 := cell_of_block hct.1
    have g2 := cell_of_block hct.2.1
    have g3 := cell_of_block hct.2.2
    have f1 := free_of_block hct.1
    have cI : ∀ W, CallsIn Fence.wide (n - 1) Tryd.prog 93 #[.string t, .string ⟨#[47]⟩] W _ := fun W => callsIn_wide.2 (Tryd.strings_Index_one t 47 W)
    rcases splitS_cases t with ⟨hi, hlast⟩ | ⟨i, hi, hlt, hcons⟩
    · rw [hi] at cI
      rw [hlast] at hsp
      obtain ⟨fn, tmps, assign, body, hy, hR⟩ := hY pre t wr hJs (by rw [hsp]; exact List.prefix_refl _)
      have HS := Lib.hid hsp
      clear hsp hlast hi
      gi_wp2_with (refine ⟨trivial, ?_⟩; gi_at_call 93; refine (cI _).mono ?_; rintro e w' ⟨rfl, rfl⟩)
      refine hR.mono ?_
      rintro e W3 (⟨rfl, hJ3, hk3⟩ | ⟨rfl, hJx3⟩)
      · gi_wp2
        go_end0
        exact ⟨⟨_, rfl⟩, .inl ⟨_, HS.out.symm, hJ3⟩⟩
      · gi_wp2
        go_end0
        exact ⟨⟨_, rfl⟩, .inr ⟨_, by rw [HS.out]; exact List.prefix_refl _, hJx3⟩⟩
    · rw [hi] at cI
      rw [hcons] at hsp
      obtain ⟨fn, tmps, assign, body, hy, hR⟩ := hY pre (t.extract 0 i) wr hJs (by rw [hsp]; exact ⟨splitS (t.extract (i + 1) t.size), by simp⟩)
      have HS := Lib.hid hsp
      clear hsp hcons hi
      gi_wp2_with (refine ⟨trivial, ?_⟩; gi_at_call 93; refine (cI _).mono ?_; rintro e w' ⟨rfl, rfl⟩)
      refine hR.mono ?_
      clear hR hy g1 g2 g3 f1 cI
      rintro e W3 (⟨rfl, hJ3, hk3⟩ | ⟨rfl, hJx3⟩)
      · have hct3 := hct.kept hk3
        have g1 := cell_of_block hct3.1
        have g2 := cell_of_block hct3.2.1
        have f1 := free_of_block hct3.1
        have hm1 : textAt bs w' = t.size := by simp [textAt, cell_of_block hct.1]
        have Hm1 := Lib.hid hm1
        clear hct hk3 hm1
        gi_wp2
        go_roundw
        case rel => exact ⟨pre ++ [t.extract 0 i], t.extract (i + 1) t.size, by rw [HS.out]; simp, by simp; omega, hct3.set h1 h2, hJ _ _ _ hJ3 ⟨_, rfl⟩⟩
        case measure =>
          have := cell_of_block (hct3.set (u := t.extract (i + 1) t.size) h1 h2).1
          rw [Hm1.out]
          simp only [textAt, this]
          simp
          omega
      · gi_wp2
        refine bodyPost_ret (results_none rfl _ _ _) rfl ?_
        exact ⟨⟨_, rfl⟩, .inr ⟨_, by rw [HS.out]; exact ⟨splitS (t.extract (i + 1) t.size), by simp⟩, hJx3⟩⟩
end Go.Proofs.YtfljbidecljlcaaDoor
