/-
  How the rows' arguments are opened: slices.
-/
import Derived.Test.YtfljbidecljlcaaDoorRowTabs
import Derived.Test.YtfljbidecljlcaaDoorWWords
namespace Go.Proofs.YtfljbidecljlcaaDoor
open Go.RowKit Go.Lib Go.Proofs.YtfljbidecljlcaaDoorW.PrintWords
theorem laidOut : laidOutB Tryd.prog = true := by kernel_rfl
theorem row_len {l c : Nat} {zs : List Int} (hl : l ≤ c) (hz : zs.length = c) : (zs.take l).length = l := by rw [List.length_take]; omega
theorem row_reads {W : World} {k : IntKind} {x : Addr} {l c : Nat} {zs : List Int} (hl : l ≤ c) (hm : c ≤ maxLen) (hz : zs.length = c) (hcell : ∀ i, i < zs.length → W.cell? (x.add i) = some (.int k (zs.getD i 0))) :
    ReadsOf (Value.int k) (0 : Int) W (some x) l (zs.take l) := by
  refine ⟨row_len hl hz, ?_, fun _ => ⟨x, rfl, fun j hj => ?_⟩⟩
  · have : maxLen = 9223372036854775807 := rfl
    omega
  · rw [hcell j (by omega)]
    simp [List.getD_eq_getElem?_getD, hj]
theorem u16_of {n : Int} (h : (Lit.int .u16 n).wf = true) : 0 ≤ n ∧ n < 65536 := by
  have h1 : IntKind.u16.min = 0 := by decide
  have h2 : IntKind.u16.max = 65535 := by decide
  simp only [Lit.wf, Bool.and_eq_true, decide_eq_true_eq, h1, h2] at h
  omega
theorem u32_of {n : Int} (h : (Lit.int .u32 n).wf = true) : 0 ≤ n ∧ n < 4294967296 := by
  have h1 : IntKind.u32.min = 0 := by decide
  have h2 : IntKind.u32.max = 4294967295 := by decide
  simp only [Lit.wf, Bool.and_eq_true, decide_eq_true_eq, h1, h2] at h
  omega
theorem u8_of {n : Int} (h : (Lit.int .u8 n).wf = true) : 0 ≤ n ∧ n < 256 := by
  have h1 : IntKind.u8.min = 0 := by decide
  have h2 : IntKind.u8.max = 255 := by decide
  simp only [Lit.wf, Bool.and_eq_true, decide_eq_true_eq, h1, h2] at h
  omega
theorem int_of {n : Int} (h : (Lit.int .i64 n).wf = true) : -9223372036854775808 ≤ n ∧ n ≤ 9223372036854775807 := by
  have h1 : IntKind.i64.min = -9223372036854775808 := by decide
  have h2 : IntKind.i64.max = 9223372036854775807 := by decide
  simp only [Lit.wf, Bool.and_eq_true, decide_eq_true_eq, h1, h2] at h
  omega
end Go.Proofs.YtfljbidecljlcaaDoor
