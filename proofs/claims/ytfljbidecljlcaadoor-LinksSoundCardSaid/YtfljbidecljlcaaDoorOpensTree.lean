/-
  How members and nodes, and rows of them, are opened.
-/
import Derived.Test.YtfljbidecljlcaaDoorOpens
import Derived.Test.YtfljbidecljlcaaDoorTreeP
namespace Go.Proofs.YtfljbidecljlcaaDoor
open Go.RowKit Go.Proofs.YtfljbidecljlcaaDoor.Print Go.Proofs.YtfljbidecljlcaaDoorW.PrintWords
theorem o_str : Opens Tryd.prog Kd.string 9 (fun s => s.size ≤ 140737488351232) := Opens.string Tryd.underlying9 (by kernel_rfl)
theorem o_u8 : Opens Tryd.prog (Kd.int .u8) 5 (fun n => (Lit.int .u8 n).wf = true) := Opens.int Tryd.underlying5 (by kernel_rfl)
theorem o_int : Opens Tryd.prog (Kd.int .i64) 3 (fun n => (Lit.int .i64 n).wf = true) := Opens.int Tryd.underlying3 (by kernel_rfl)
theorem o_bytes : Opens Tryd.prog (Kd.slice 5 (Kd.int .u8)) 23 (fun xs => xs.length ≤ 140737488351232) :=
  (Opens.slice Tryd.underlying23 (by kernel_rfl) o_u8).imp (fun xs h => by
    have hb : Tryd.prog.bytesOf 5 = 1 := by kernel_rfl
    have h1 := h.1
    rw [hb] at h1
    omega)
theorem o_meta : Opens Tryd.prog k38 38 (fun _ => True) := by
  have h := Opens.struct Tryd.underlying38 (by kernel_rfl) (OpensF.cons rfl o_int (OpensF.cons rfl o_int (OpensF.cons rfl o_int (OpensF.one rfl o_int)))) (fun x : S38 => (x.f0, x.f1, x.f2, x.f3)) (fun p => ⟨p.1, p.2.1, p.2.2.1, p.2.2.2⟩) (fun _ => rfl)
  exact Opens.imp h (fun _ _ => trivial)
theorem o_mem : Opens Tryd.prog k45 45 MemR := by
  have h := Opens.struct Tryd.underlying45 (by kernel_rfl) (OpensF.cons rfl o_str (OpensF.cons rfl o_str (OpensF.cons rfl o_u8 (OpensF.cons rfl o_meta (OpensF.one rfl o_bytes))))) (fun x : S45 => (x.f0, x.f1, x.f2, x.f3, x.f4)) (fun p => ⟨p.1, p.2.1, p.2.2.1, p.2.2.2.1, p.2.2.2.2⟩) (fun _ => rfl)
  exact Opens.imp h (fun _ hx => ⟨hx.1, hx.2.1, hx.2.2.2.2⟩)
theorem o_node : Opens Tryd.prog k40 40 NodeZ := by
  have h := Opens.struct Tryd.underlying40 (by kernel_rfl) (OpensF.cons rfl o_str (OpensF.cons rfl o_str (OpensF.cons rfl o_str (OpensF.cons rfl o_u8 (OpensF.cons rfl o_meta (OpensF.one rfl o_bytes)))))) (fun x : S40 => (x.f0, x.f1, x.f2, x.f3, x.f4, x.f5)) (fun p => ⟨p.1, p.2.1, p.2.2.1, p.2.2.2.1, p.2.2.2.2.1, p.2.2.2.2.2⟩) (fun _ => rfl)
  exact Opens.imp h (fun _ hx => ⟨hx.1, hx.2.1, hx.2.2.1, hx.2.2.2.2.2⟩)
theorem o_mems : Opens Tryd.prog (Kd.slice 45 k45) 28 (fun xs => (∀ x ∈ xs, MemR x) ∧ xs.length ≤ 140737488351232) :=
  (Opens.slice Tryd.underlying28 (by kernel_rfl) o_mem).imp (fun xs h => ⟨h.2, by
    have hb : Tryd.prog.bytesOf 45 = 96 := by kernel_rfl
    have h1 := h.1
    rw [hb] at h1
    omega⟩)
theorem o_nodes : Opens Tryd.prog (Kd.slice 40 k40) 22 (fun xs => (∀ x ∈ xs, NodeZ x) ∧ xs.length ≤ 140737488351232) :=
  (Opens.slice Tryd.underlying22 (by kernel_rfl) o_node).imp (fun xs h => ⟨h.2, by
    have hb : Tryd.prog.bytesOf 40 = 112 := by kernel_rfl
    have h1 := h.1
    rw [hb] at h1
    omega⟩)
end Go.Proofs.YtfljbidecljlcaaDoor
