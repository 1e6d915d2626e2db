/-
  How records, and rows of them, are opened.
-/
import Derived.Test.YtgjkkhdjfppeiaaDoorOpens
import Derived.Test.YtgjkkhdjfppeiaaDoorPrint0
namespace Go.Proofs.YtgjkkhdjfppeiaaDoor
open Go.RowKit Go.Proofs.YtgjkkhdjfppeiaaDoor.Print Go.Proofs.YtgjkkhdjfppeiaaDoorW.PrintWords
theorem o_str : Opens Tryd.prog Kd.string 9 (fun s => s.size ≤ 140737488351232) := Opens.string Tryd.underlying9 (by kernel_rfl)
theorem o_rec : Opens Tryd.prog k42 42 (fun x => x.f0.size ≤ 140737488351232 ∧ x.f1.size ≤ 140737488351232) := by
  have h := Opens.struct Tryd.underlying42 (by kernel_rfl) (OpensF.cons rfl o_str (OpensF.one rfl o_str)) (fun x : S42 => (x.f0, x.f1)) (fun p => ⟨p.1, p.2⟩) (fun _ => rfl)
  exact h
theorem o_recs : Opens Tryd.prog (Kd.slice 42 k42) 27 (fun xs => (∀ x ∈ xs, x.f0.size ≤ 140737488351232 ∧ x.f1.size ≤ 140737488351232) ∧ xs.length ≤ 140737488351232) :=
  (Opens.slice Tryd.underlying27 (by kernel_rfl) o_rec).imp (fun xs h => ⟨h.2, by
    have hb : Tryd.prog.bytesOf 42 = 32 := by kernel_rfl
    have h1 := h.1
    rw [hb] at h1
    omega⟩)
end Go.Proofs.YtgjkkhdjfppeiaaDoor
