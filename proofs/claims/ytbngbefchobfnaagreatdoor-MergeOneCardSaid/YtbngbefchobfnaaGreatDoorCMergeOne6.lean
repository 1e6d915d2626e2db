/-
  Part of the proof that MergeOne answers true: texts put together (wip/bundle.py).
-/
import Derived.Test.YtbngbefchobfnaaGreatDoorCMergeOne5
namespace Go.Proofs.YtbngbefchobfnaaGreatDoor
open Go.RowKit Go.Proofs.YtbngbefchobfnaaGreatDoor.Print Go.Proofs.YtbngbefchobfnaaGreatDoorW.PrintWords
theorem o_str : Opens Tryz.prog Kd.string 9 (fun s => s.size ≤ 140737488351232) := Opens.string Tryz.underlying9 (by kernel_rfl)
theorem o_u8 : Opens Tryz.prog (Kd.int .u8) 5 (fun n => (Lit.int .u8 n).wf = true) := Opens.int Tryz.underlying5 (by kernel_rfl)
theorem o_int : Opens Tryz.prog (Kd.int .i64) 3 (fun n => (Lit.int .i64 n).wf = true) := Opens.int Tryz.underlying3 (by kernel_rfl)
theorem o_bytes : Opens Tryz.prog (Kd.slice 5 (Kd.int .u8)) 40 (fun xs => xs.length ≤ 140737488351232) :=
 (Opens.slice Tryz.underlying40 (by kernel_rfl) o_u8).imp (fun xs h => by
  have hb : Tryz.prog.bytesOf 5 = 1 := by kernel_rfl
  have h1 := h.1
  rw [hb] at h1
  omega)
theorem o_meta : Opens Tryz.prog k39 39 (fun _ => True) := by
 have h := Opens.struct Tryz.underlying39 (by kernel_rfl) (OpensF.cons rfl o_int (OpensF.cons rfl o_int (OpensF.cons rfl o_int (OpensF.one rfl o_int)))) (fun x : S39 => (x.f0, x.f1, x.f2, x.f3)) (fun p => ⟨p.1, p.2.1, p.2.2.1, p.2.2.2⟩) (fun _ => rfl)
 exact Opens.imp h (fun _ _ => trivial)
theorem o_node : Opens Tryz.prog k42 42 NodeZ := by
 have h := Opens.struct Tryz.underlying42 (by kernel_rfl) (OpensF.cons rfl o_str (OpensF.cons rfl o_str (OpensF.cons rfl o_str (OpensF.cons rfl o_u8 (OpensF.cons rfl o_meta (OpensF.one rfl o_bytes)))))) (fun x : S42 => (x.f0, x.f1, x.f2, x.f3, x.f4, x.f5)) (fun p => ⟨p.1, p.2.1, p.2.2.1, p.2.2.2.1, p.2.2.2.2.1, p.2.2.2.2.2⟩) (fun _ => rfl)
 exact Opens.imp h (fun _ hx => ⟨hx.1, hx.2.1, hx.2.2.1, hx.2.2.2.2.2⟩)
theorem o_nodes : Opens Tryz.prog (Kd.slice 42 k42) 22 (fun xs => (∀ x ∈ xs, NodeZ x) ∧ xs.length ≤ 140737488351232) :=
 (Opens.slice Tryz.underlying22 (by kernel_rfl) o_node).imp (fun xs h => ⟨h.2, by
  have hb : Tryz.prog.bytesOf 42 = 112 := by kernel_rfl
  have h1 := h.1
  rw [hb] at h1
  omega⟩)
end Go.Proofs.YtbngbefchobfnaaGreatDoor
