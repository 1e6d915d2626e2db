/-
  What the rows' lists give: the two tables of unicode/utf8; and a world for the witness that holds them.
-/
import Derived.Test.YtgjkkhdjfppeiaaDoorRows
import Derived.Test.YtgjkkhdjfppeiaaDoorTabs
import Derived.Lib.LaidU8
import Derived.Lib.LaidIn
namespace Go.Proofs.YtgjkkhdjfppeiaaDoor
open Go.RowKit Go.Lib Go.Shelf
theorem ownGo : ownKnob Tryd.prog.godebug = none := by kernel_rfl
def laidL : List (String × DataW Unit) := [("math/bits.deBruijn32tab", Rows.laid_math_bits_deBruijn32tab), ("math/bits.deBruijn64tab", Rows.laid_math_bits_deBruijn64tab), ("internal/strconv.uint64pow10", Rows.laid_internal_strconv_uint64pow10), ("unicode/utf8.acceptRanges", Rows.laid_unicode_utf8_acceptRanges), ("strconv.ErrRange", Rows.laid_strconv_ErrRange), ("strconv.ErrSyntax", Rows.laid_strconv_ErrSyntax), ("unicode/utf8.first", Rows.laid_unicode_utf8_first)]
theorem pow_eq : (Rows.laid_internal_strconv_uint64pow10 : DataW Unit) = tabData .u64 pow10Tab := by kernel_rfl
theorem nPow : Tryd.prog.globalNamed "internal/strconv.uint64pow10" = some 3 := by kernel_rfl
theorem yPow : (Tryd.prog.globals[3]?).map (·.type) = some 126 := by kernel_rfl
theorem cPow : Tryd.prog.cellsOf 126 = 20 := by kernel_rfl
theorem cU64 : Tryd.prog.cellsOf 107 = 1 := by kernel_rfl
theorem accept_eq : (Rows.laid_unicode_utf8_acceptRanges : DataW Unit) = acceptData := by kernel_rfl
theorem first_eq : Rows.laid_unicode_utf8_first = firstData := by kernel_rfl
theorem nFirst : Tryd.prog.globalNamed "unicode/utf8.first" = some 4 := by kernel_rfl
theorem nAccept : Tryd.prog.globalNamed "unicode/utf8.acceptRanges" = some 5 := by kernel_rfl
theorem yFirst : (Tryd.prog.globals[4]?).map (·.type) = some 139 := by kernel_rfl
theorem yAccept : (Tryd.prog.globals[5]?).map (·.type) = some 142 := by kernel_rfl
theorem c5 : Tryd.prog.cellsOf 5 = 1 := by kernel_rfl
theorem c256 : Tryd.prog.cellsOf 139 = 256 := by kernel_rfl
theorem cRange : Tryd.prog.cellsOf 141 = 2 := by kernel_rfl
theorem u8_of_laid {w : World} (h : laidMetH Tryd.prog laidL w) : Lib.Utf8Tabs 4 5 w := by
  have h' : laidMet Tryd.prog laidL w := (show laidMetH Tryd.prog laidL w = laidMet Tryd.prog laidL w by kernel_rfl).mp h
  have h3 : VarReads Tryd.prog w "unicode/utf8.first" firstData := first_eq ▸ laidMet.reads h' (.tail _ (.tail _ (.tail _ (.tail _ (.tail _ (.tail _ (.head _)))))))
  have h4 : VarReads Tryd.prog w "unicode/utf8.acceptRanges" acceptData := accept_eq ▸ laidMet.reads h' (.tail _ (.tail _ (.tail _ (.head _))))
  refine ⟨fun c hc => ?_, fun i hi => ?_⟩
  · obtain ⟨g, t, cs, fuel, p, hg, hty, hvar, hd⟩ := h3
    obtain rfl := Option.some.inj (nFirst.symm.trans hg)
    obtain rfl := Option.some.inj (yFirst.symm.trans hty)
    have hcs := cells_of_tab Tryd.underlying139 Tryd.underlying5 c5 c256 hd
    have := World.var?_cell hg hvar c
    rw [this, ← Array.getElem?_toList, hcs]
    simp [firstTab, hc]
  · obtain ⟨g, t, cs, fuel, p, hg, hty, hvar, hd⟩ := h4
    obtain rfl := Option.some.inj (nAccept.symm.trans hg)
    obtain rfl := Option.some.inj (yAccept.symm.trans hty)
    obtain ⟨fuel', d, q, hdi, he⟩ := array_elem Tryd.underlying142 hd i hi
    simp only [List.getElem?_map, List.getElem?_range hi, Option.map_some, Option.some.injEq] at hdi
    subst hdi
    rw [cRange] at he
    have hcs := ints_of_struct Tryd.underlying141 (fun j f hj => by
      match j, hj with
      | 0, hj => simp at hj; subst hj; exact ⟨Tryd.underlying5, rfl, c5⟩
      | 1, hj => simp at hj; subst hj; exact ⟨Tryd.underlying5, rfl, c5⟩
      | j + 2, hj => simp at hj) (by rw [cRange]; rfl) he
    have e0 := congrArg (·[0]?) hcs
    have e1 := congrArg (·[1]?) hcs
    simp only [List.getElem?_take, List.getElem?_drop] at e0 e1
    constructor
    · rw [World.var?_cell hg hvar (2 * i), ← Array.getElem?_toList]
      simpa [Nat.mul_comm] using e0
    · rw [World.var?_cell hg hvar (2 * i + 1), ← Array.getElem?_toList]
      simpa [Nat.mul_comm] using e1
theorem tabs_of_laid {w : World} (h : laidMetH Tryd.prog laidL w) (hS : w.ShapedOpen Tryd.prog) : Tabs w := by
  refine ⟨u8_of_laid h, ?_, Tryd.lays145M.s1_3 w hS⟩
  have h' : laidMet Tryd.prog laidL w := (show laidMetH Tryd.prog laidL w = laidMet Tryd.prog laidL w by kernel_rfl).mp h
  have h3 : VarReads Tryd.prog w "internal/strconv.uint64pow10" (tabData .u64 pow10Tab) := pow_eq ▸ laidMet.reads h' (.tail _ (.tail _ (.head _)))
  obtain ⟨g, t, cs, fuel, p, hg, hty, hvar, hd⟩ := h3
  obtain rfl := Option.some.inj (nPow.symm.trans hg)
  obtain rfl := Option.some.inj (yPow.symm.trans hty)
  have hcs := cells_of_tab Tryd.underlying126 Tryd.underlying107 cU64 cPow hd
  unfold Lib.TabIs
  rw [hvar, ← hcs]
def bruijn32 : List Int := [0, 1, 28, 2, 29, 14, 24, 3, 30, 22, 20, 15, 25, 17, 4, 8, 31, 27, 13, 23, 21, 19, 16, 7, 26, 12, 18, 6, 11, 5, 10, 9]
def bruijn64 : List Int := [0, 1, 56, 2, 57, 49, 28, 3, 61, 58, 42, 50, 38, 29, 17, 4, 62, 47, 59, 36, 45, 43, 51, 22, 53, 39, 33, 30, 24, 18, 12, 5, 63, 55, 48, 27, 60, 41, 37, 16, 46, 35, 44, 21, 52, 32, 23, 11, 54, 26, 40, 15, 34, 20, 31, 10, 25, 14, 19, 9, 13, 8, 7, 6]
/-- A world for the witness: the settled one, all that is listed laid; two blocks more: the errors' texts. -/
noncomputable abbrev N0 : Nat := (World.settled Tryd.prog default).heap.size
noncomputable def laidWorld (os : Os) : World :=
  let N := (World.settled Tryd.prog os).heap.size
  let w0 := World.holding Tryd.prog os ⟨#[.cells #[.string ⟨#[105, 110, 118, 97, 108, 105, 100, 32, 115, 121, 110, 116, 97, 120]⟩] 134, .cells #[.string ⟨#[118, 97, 108, 117, 101, 32, 111, 117, 116, 32, 111, 102, 32, 114, 97, 110, 103, 101]⟩] 134], #[], []⟩
  let put (h : Array Obj) (g : Nat) (cs : Array Value) : Array Obj := h.modify g fun
    | .cells _ t frozen => .cells cs t frozen
    | o => o
  let h0 := put (put w0.heap 0 #[.iface 132 (.pointer (some ⟨N, 0, none⟩))]) 1 #[.iface 132 (.pointer (some ⟨N + 1, 0, none⟩))]
  let h1 := put h0 4 (Lib.firstTab.map fun z => Value.int .u8 z).toArray
  let h2 := put h1 5 ((List.range 16).flatMap fun i => [Value.int .u8 (Lib.accLo i), Value.int .u8 (Lib.accHi i)]).toArray
  let h3 := put h2 3 (Lib.pow10Tab.map fun z => Value.int .u64 z).toArray
  let h4 := put h3 6 (bruijn32.map fun z => Value.int .u8 z).toArray
  { w0 with heap := put h4 7 (bruijn64.map fun z => Value.int .u8 z).toArray }
theorem laid_met (os : Os) (args : Array Value) : laidMet Tryd.prog laidL ((laidWorld os).forCall (fun _ _ => 0) ⟨#[], args, []⟩).memory :=
  (LaidIn.of_run [6, 7, 3, 5, 1, 0, 4, N0, N0 + 1] 8 (by kernel_rfl) (by kernel_rfl) (by kernel_rfl) (by kernel_rfl) : LaidIn Tryd.prog ((laidWorld os).forCall (fun _ _ => 0) ⟨#[], args, []⟩).memory laidL [6, 7, 3, 5, 1, 0, 4, N0, N0 + 1]).met
end Go.Proofs.YtgjkkhdjfppeiaaDoor
