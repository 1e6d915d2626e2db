/-
  path.right and path.Clean in the form in which printed functions are told.
-/
import Derived.Test.YtfljbidecljlcaaDoorClean
import Derived.Test.YtfljbidecljlcaaDoorWWords
namespace Go.Proofs.YtfljbidecljlcaaDoor.Print
open Go.RowKit Go.Proofs.YtfljbidecljlcaaDoorW.PrintWords
def path_right.f (a0 : ByteArray) : Option (Bool) := if a0.size ≤ 8000000000000 then some (rightB a0) else none
theorem path_right.calls (a0 : ByteArray) (r : Bool) (w : World) (hT : Aside0 (Tabs w)) (h : path_right.f a0 = some r) :
    Calls Tryd.prog 74 #[.string a0] w fun e w' => e = .returned (.bool r) ∧ Below w.heap.size w w' := by
  unfold path_right.f at h
  split at h
  · cases h
    exact right_calls a0 w (by omega) hT.out
  · cases h
def path_Clean.f (a0 : ByteArray) : Option (ByteArray × Int) := if a0.size ≤ 8000000000000 then some (cleanF a0) else none
theorem path_Clean.calls (a0 : ByteArray) (r1 : ByteArray) (r2 : Int) (w : World) (hT : Aside0 (Tabs w)) (h : path_Clean.f a0 = some (r1, r2)) :
    Calls Tryd.prog 72 #[.string a0] w fun e w' => e = .returned (.tuple #[.string r1, .int .i64 r2]) ∧ Below w.heap.size w w' := by
  unfold path_Clean.f at h
  split at h
  · refine (Clean_calls a0 w (by omega) hT.out).mono ?_
    rintro e w' ⟨he, hb⟩
    refine ⟨?_, hb⟩
    rw [he]
    simp only [Option.some.injEq] at h
    rw [h]
  · cases h
end Go.Proofs.YtfljbidecljlcaaDoor.Print
