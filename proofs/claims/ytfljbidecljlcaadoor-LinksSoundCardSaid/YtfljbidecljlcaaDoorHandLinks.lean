/-
  Contracts of links.Members, Sound and Classes, in the shape that the print takes.
-/
import Derived.Test.YtfljbidecljlcaaDoorHandPath
import Derived.Test.YtfljbidecljlcaaDoorClsW
namespace Go.Proofs.YtfljbidecljlcaaDoor.Print
open Go.RowKit Go.Proofs.YtfljbidecljlcaaDoor Go.Proofs.YtfljbidecljlcaaDoorW.PrintWords Go.Proofs.YtfljbidecljlcaaDoorW.PrintLast Go.Proofs.YtfljbidecljlcaaDoorW.PrintMore
set_option linter.unusedVariables false
def links_Members.f (l : List S40) (order : List ByteArray) : Option (List S45 × Int) :=
  if riseB l = true ∧ nodesZ l = true then some (membersF l order) else none
theorem links_Members.calls (A0 : Option Addr) (c0 : Nat) (l0 : List S40) (A1 : Option Addr) (c1 : Nat) (l1 : List ByteArray) (r1 : List S45) (r2 : Int) (w : World) (hr0 : Kd.C k40 w A0 l0.length l0) (hc0 : l0.length ≤ c0) (hr1 : Kd.C Kd.string w A1 l1.length l1) (hc1 : l1.length ≤ c1) (h : links_Members.f l0 l1 = some (r1, r2)) :
    Calls Tryd.prog 17 #[.slice A0 l0.length c0, .slice A1 l1.length c1] w fun e w' => ∃ v0_ : Value, e = .returned (.tuple #[v0_, .int .i64 r2]) ∧ Kd.V k45 45 w' w.heap.size (fun k_ => w.heap.size ≤ k_) v0_ r1 ∧ Below w.heap.size w w' := by
  unfold links_Members.f at h
  split at h
  · rename_i hc
    simp only [Option.some.injEq] at h
    refine (Members_calls A0 c0 l0 A1 c1 l1 w hr0 hr1 hc.1 ((nodesZ_iff l0).1 hc.2)).mono ?_
    rintro e w' ⟨v, rfl, hV, hB⟩
    rw [h] at hV ⊢
    exact ⟨v, rfl, hV, hB⟩
  · cases h
def links_Sound.f (l : List S45) : Option Bool := if memsZ l = true then some (soundF l) else none
theorem links_Sound.calls (A0 : Option Addr) (c0 : Nat) (l0 : List S45) (r : Bool) (w : World) (hT : Aside0 (Tabs w)) (hr0 : Kd.C k45 w A0 l0.length l0) (hc0 : l0.length ≤ c0) (h : links_Sound.f l0 = some r) :
    Calls Tryd.prog 22 #[.slice A0 l0.length c0] w fun e w' => e = .returned (.bool r) ∧ Below w.heap.size w w' := by
  unfold links_Sound.f at h
  split at h
  · rename_i hc
    simp only [Option.some.injEq] at h
    subst h
    exact Sound_calls A0 c0 l0 w hT.out hr0 ((memsZ_iff l0).1 hc)
  · cases h
def links_Classes.f (l : List S40) : Option (List (List ByteArray)) := if nodesZ l = true then some (classesF l) else none
theorem links_Classes.calls (A0 : Option Addr) (c0 : Nat) (l0 : List S40) (r : List (List ByteArray)) (w : World) (hr0 : Kd.C k40 w A0 l0.length l0) (hc0 : l0.length ≤ c0) (h : links_Classes.f l0 = some r) :
    Calls Tryd.prog 24 #[.slice A0 l0.length c0] w fun e w' => ∃ v0_ : Value, e = .returned (v0_) ∧ Kd.S (Kd.slice 9 Kd.string) 26 w' w.heap.size (fun _ => True) v0_ r ∧ Below w.heap.size w w' := by
  unfold links_Classes.f at h
  split at h
  · rename_i hc
    simp only [Option.some.injEq] at h
    subst h
    exact Classes_calls A0 c0 l0 w hr0 ((nodesZ_iff l0).1 hc)
  · cases h
end Go.Proofs.YtfljbidecljlcaaDoor.Print
