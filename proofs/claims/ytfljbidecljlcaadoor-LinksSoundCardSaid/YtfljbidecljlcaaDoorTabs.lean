/-
  THE TABLES OF unicode/utf8 AS A WORD ON WORLDS, AND path.right's CONTRACT OVER THEM.
-/
import Derived.Test.YtfljbidecljlcaaDoorShelf
import Derived.Test.YtfljbidecljlcaaDoorRightP
import Derived.WalkKit
import Derived.WalkMore
import Derived.Below
import Derived.KernelRfl
namespace Go.Proofs.YtfljbidecljlcaaDoor
open Go.RowKit Go.Shelf Go.Lib
/-- Both tables stand in the world. -/
def Tabs (w : World) : Prop := Lib.Utf8Tabs 1 2 w
theorem Tabs.below {w W : World} (h : Tabs w) (hb : Below w.heap.size w W) : Tabs W := by
  have lt : ∀ (g c : Nat) v, w.cell? ⟨g, c, none⟩ = some v → W.cell? ⟨g, c, none⟩ = some v := fun g c v hc =>
    (hb.cell (p := ⟨g, c, none⟩) (World.block_lt_of_cell? w _ hc)).trans hc
  exact ⟨fun c hc => lt _ _ _ (h.1 c hc), fun i hi => ⟨lt _ _ _ (h.2 i hi).1, lt _ _ _ (h.2 i hi).2⟩⟩
set_option maxHeartbeats 1000000 in
theorem right_calls (s : ByteArray) (w : World) (hs : s.size ≤ 9223372036854775807) (hT : Tabs w) :
    Calls Tryd.prog 74 #[.string s] w fun e w' => e = .returned (.bool (rightB s)) ∧ Below w.heap.size w w' := by
  have cV : Calls Tryd.prog 82 #[.string s] w _ := Any.utf8_ValidString Tryd.laysValid s w hs hT
  have cC : ∀ W, Calls Tryd.prog 83 #[.string s, .string ⟨#[0]⟩] W _ := fun W => Tryd.strings_Contains_one s 0 W
  unfold rightB
  generalize hV : Lib.validD s.data.toList = V at cV ⊢
  generalize decide (0 ≤ Lib.indexByte s.data.toList 0) = Z at cC ⊢
  clear hV hT hs
  cases V
  · go_enter Tryd.func74, Tryd.ntmps74
    go_wp2_with (first | (go_at_call 82; refine cV.mono ?_; rintro e w' ⟨rfl, hb⟩) | (go_at_call 83; refine (cC _).mono ?_; rintro e w' ⟨rfl, rfl⟩))
    go_ret
    exact ⟨rfl, by assumption⟩
  · go_enter Tryd.func74, Tryd.ntmps74
    go_wp2_with (first | (go_at_call 82; refine cV.mono ?_; rintro e w' ⟨rfl, hb⟩) | (go_at_call 83; refine (cC _).mono ?_; rintro e w' ⟨rfl, rfl⟩))
    go_ret
    exact ⟨rfl, by assumption⟩
end Go.Proofs.YtfljbidecljlcaaDoor
