/-
  THE TABLES OF unicode/utf8 AS A WORD ON WORLDS, AND path.right's CONTRACT OVER THEM.
-/
import Derived.Test.YtgjkkhdjfppeiaaDoorShelf
import Derived.Test.YtgjkkhdjfppeiaaDoorRightP
import Derived.WalkKit
import Derived.WalkMore
import Derived.Below
import Derived.Lib.LaidTab
import Derived.Lib.ItoaNum
import Derived.KernelRfl
namespace Go.Proofs.YtgjkkhdjfppeiaaDoor
open Go.RowKit Go.Shelf Go.Lib
/-- The tables stand in the world: unicode/utf8's two; the powers of ten; the library's variable of the search. -/
structure Tabs (w : World) : Prop where
  u8 : Lib.Utf8Tabs 4 5 w
  pow : Lib.TabIs Tryd.prog w "internal/strconv.uint64pow10" .u64 Lib.pow10Tab
  len : ∃ m, w.cell? ⟨2, 0, none⟩ = some (.int .i64 m)
theorem pow_below {P : Program} {w W : World} {n : String} {k : IntKind} {zs : List Int} (h : Lib.TabIs P w n k zs) (hb : Below w.heap.size w W) : Lib.TabIs P W n k zs := by
  unfold Lib.TabIs World.var? at *
  cases hg : P.globalNamed n with
  | none => rw [hg] at h; exact h
  | some g =>
    rw [hg] at h
    simp only [Option.bind_some] at h ⊢
    by_cases hl : g < w.heap.size
    · rw [hb.block g hl]; exact h
    · rw [Array.getElem?_eq_none (by omega)] at h; cases h
theorem Tabs.below {w W : World} (h : Tabs w) (hb : Below w.heap.size w W) : Tabs W := by
  have lt : ∀ (g c : Nat) v, w.cell? ⟨g, c, none⟩ = some v → W.cell? ⟨g, c, none⟩ = some v := fun g c v hc =>
    (hb.cell (p := ⟨g, c, none⟩) (World.block_lt_of_cell? w _ hc)).trans hc
  refine ⟨⟨fun c hc => lt _ _ _ (h.u8.1 c hc), fun i hi => ⟨lt _ _ _ (h.u8.2 i hi).1, lt _ _ _ (h.u8.2 i hi).2⟩⟩, ?_, h.len.elim fun m hm => ⟨m, lt _ _ _ hm⟩⟩
  exact pow_below h.pow hb
set_option maxHeartbeats 1000000 in
theorem right_calls (s : ByteArray) (w : World) (hs : s.size ≤ 9223372036854775807) (hT : Tabs w) :
    Calls Tryd.prog 67 #[.string s] w fun e w' => e = .returned (.bool (rightB s)) ∧ Below w.heap.size w w' := by
  have cV : Calls Tryd.prog 83 #[.string s] w _ := Any.utf8_ValidString Tryd.laysValid s w hs hT.u8
  have cC : ∀ W, Calls Tryd.prog 45 #[.string s, .string ⟨#[0]⟩] W _ := fun W => Tryd.strings_Contains_one s 0 W
  unfold rightB
  generalize hV : Lib.validD s.data.toList = V at cV ⊢
  generalize decide (0 ≤ Lib.indexByte s.data.toList 0) = Z at cC ⊢
  clear hV hT hs
  cases V
  · go_enter Tryd.func67, Tryd.ntmps67
    go_wp2_with (first | (go_at_call 83; refine cV.mono ?_; rintro e w' ⟨rfl, hb⟩) | (go_at_call 45; refine (cC _).mono ?_; rintro e w' ⟨rfl, rfl⟩))
    go_ret
    exact ⟨rfl, by assumption⟩
  · go_enter Tryd.func67, Tryd.ntmps67
    go_wp2_with (first | (go_at_call 83; refine cV.mono ?_; rintro e w' ⟨rfl, hb⟩) | (go_at_call 45; refine (cC _).mono ?_; rintro e w' ⟨rfl, rfl⟩))
    go_ret
    exact ⟨rfl, by assumption⟩
end Go.Proofs.YtgjkkhdjfppeiaaDoor
