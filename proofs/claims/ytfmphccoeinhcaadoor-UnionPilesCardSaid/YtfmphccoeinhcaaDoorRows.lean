/-
  NARROWER THAN 'FOR EVERY INPUT', by the rows' own cells (each row's printed sentence says how): TreeLast: laid · UnionUnites: laid · UnionGroups: laid · UnionLast: laid · UnionClasses: laid · UnionPiles: laid · UnionApart: laid · SubKeeps: laid · SubTakes: laid · SubWhole: laid · SubParts: laid · SubTwice: laid.
  DERIVED. THE GIVEN ROWS OF THIS SEAT. 12 by the template 'for every input the law returns true; each argument reads behind the call as it read before'; 0 by the template 'total and deterministic' (their statements: YtfmphccoeinhcaaDoorTotals.lean).
  GIVEN WITH THE SEED: the statements are not yours to turn. If you find one false, say at which input.
  Laid BY PROGRAM, IN A SANDBOX (cutbox-rows.mjs): the forced cells as the released guide's own fill.sh prints them over the translation 89d828e029a37bf0… (all of the seat's roots in one cut). By AI agents, Wed Nov 11 2026. No macro, syntax, notation, axiom, sorry.
-/
import Derived.Test.YtfmphccoeinhcaaDoorChecked
import GoSem.PinnedTables
import GoSem.Claim
import GoSem.ClaimJoined
import GoSem.ClaimMapViews
import Derived.JoinedTies
import Derived.KernelRfl
namespace Go.Proofs.YtfmphccoeinhcaaDoor
/- THE CELL 'sum', in the pinned program and in every row, IS THE sha256 OF THE DUMP (.gsa) THAT YtfmphccoeinhcaaDoorProg.lean LOADS. Nothing in Lean hashes anything: it is a label: what it is worth is what the hold of that sum in a sandbox is worth. -/
noncomputable def Tryd.pinned : Pinned := { name := "ytfmphccoeinhcaadoor", sum := "89d828e029a37bf068e12874e1478a466bc48361e1d4177ea3d65dee0f6bccda", checked := Tryd.checked }
namespace Rows
def none {H : Type} : Left H := { results := [], args := [] }

/- WHAT THE LISTED PACKAGE-LEVEL VARIABLES READ AS WHEN THE CALL BEGINS. Each datum BY PROGRAM (the guide's laid-datum.mjs) off the statement by which the dump's own 'gosem.cut.vars' lays the variable. In a bare row this is a premise. The card (YtfmphccoeinhcaaDoorCards.lean) ties it to the program's text. -/
def laid_unicode_utf8_acceptRanges {H : Type} : DataW H := .agg [.agg [.lit (.int .u8 128), .lit (.int .u8 191)], .agg [.lit (.int .u8 160), .lit (.int .u8 191)], .agg [.lit (.int .u8 128), .lit (.int .u8 159)], .agg [.lit (.int .u8 144), .lit (.int .u8 191)], .agg [.lit (.int .u8 128), .lit (.int .u8 143)], .agg [.lit (.int .u8 0), .lit (.int .u8 0)], .agg [.lit (.int .u8 0), .lit (.int .u8 0)], .agg [.lit (.int .u8 0), .lit (.int .u8 0)], .agg [.lit (.int .u8 0), .lit (.int .u8 0)], .agg [.lit (.int .u8 0), .lit (.int .u8 0)], .agg [.lit (.int .u8 0), .lit (.int .u8 0)], .agg [.lit (.int .u8 0), .lit (.int .u8 0)], .agg [.lit (.int .u8 0), .lit (.int .u8 0)], .agg [.lit (.int .u8 0), .lit (.int .u8 0)], .agg [.lit (.int .u8 0), .lit (.int .u8 0)], .agg [.lit (.int .u8 0), .lit (.int .u8 0)]]
/-- One of Go's own tables, pinned by name: the form's constant. -/
def laid_unicode_utf8_first : DataW Unit := Go.Pinned.utf8First

/-- 'bindlelaw10.TreeLast': WHATEVER THE INPUT: true; the input reads as it did. -/
def treeLastSpec : ChangeSpec := { name := "treeLast", fn := fun _ => fun
  | [d1, d2] => { results := [.lit (.bool true)], args := [d1, d2] }
  | _ => none }
def treeLastRow : OpenClaim := { program := "ytfmphccoeinhcaadoor", sum := "89d828e029a37bf068e12874e1478a466bc48361e1d4177ea3d65dee0f6bccda", func := "bindle/bindlelaw10.TreeLast", spec := "treeLast", inPlace := ["internal/bytealg.IndexByteString", "internal/bytealg.IndexString", "internal/abi.NoEscape", "internal/bytealg.MakeNoZero", "internal/bytealg.abigen_runtime_cmpstring"], unfollowed := true, recurses := true, named := ["unicode/utf8.first", "unicode/utf8.acceptRanges", "internal/bytealg.MaxLen"], plainKeys := false, apart := false, laid := [("unicode/utf8.acceptRanges", laid_unicode_utf8_acceptRanges), ("unicode/utf8.first", laid_unicode_utf8_first)] }
def TreeLastSaid : Prop := treeLastRow.holds Tryd.pinned (OpenSpec.ofChange treeLastSpec)

/-- ITS FALSE NEIGHBOUR: 'it returns false'. Refute it at one input. -/
def treeLastWrong : ChangeSpec := { name := "treeLast", fn := fun _ => fun
  | [d1, d2] => { results := [.lit (.bool false)], args := [d1, d2] }
  | _ => none }
def TreeLastWrongFalsely : Prop := treeLastRow.holds Tryd.pinned (OpenSpec.ofChange treeLastWrong)

/-- 'bindlelaw19.UnionUnites': WHATEVER THE INPUT: true; the input reads as it did. -/
def unionUnitesSpec : ChangeSpec := { name := "unionUnites", fn := fun _ => fun
  | [d] => { results := [.lit (.bool true)], args := [d] }
  | _ => none }
def unionUnitesRow : OpenClaim := { program := "ytfmphccoeinhcaadoor", sum := "89d828e029a37bf068e12874e1478a466bc48361e1d4177ea3d65dee0f6bccda", func := "bindle/bindlelaw19.UnionUnites", spec := "unionUnites", inPlace := ["internal/bytealg.IndexByteString", "internal/bytealg.IndexString", "internal/abi.NoEscape", "internal/bytealg.MakeNoZero", "internal/bytealg.abigen_runtime_cmpstring"], unfollowed := true, recurses := true, named := ["unicode/utf8.first", "unicode/utf8.acceptRanges", "internal/bytealg.MaxLen"], plainKeys := false, apart := false, laid := [("unicode/utf8.acceptRanges", laid_unicode_utf8_acceptRanges), ("unicode/utf8.first", laid_unicode_utf8_first)] }
def UnionUnitesSaid : Prop := unionUnitesRow.holds Tryd.pinned (OpenSpec.ofChange unionUnitesSpec)

/-- ITS FALSE NEIGHBOUR: 'it returns false'. Refute it at one input. -/
def unionUnitesWrong : ChangeSpec := { name := "unionUnites", fn := fun _ => fun
  | [d] => { results := [.lit (.bool false)], args := [d] }
  | _ => none }
def UnionUnitesWrongFalsely : Prop := unionUnitesRow.holds Tryd.pinned (OpenSpec.ofChange unionUnitesWrong)

/-- 'bindlelaw19.UnionGroups': WHATEVER THE INPUT: true; the input reads as it did. -/
def unionGroupsSpec : ChangeSpec := { name := "unionGroups", fn := fun _ => fun
  | [d1, d2, d3] => { results := [.lit (.bool true)], args := [d1, d2, d3] }
  | _ => none }
def unionGroupsRow : OpenClaim := { program := "ytfmphccoeinhcaadoor", sum := "89d828e029a37bf068e12874e1478a466bc48361e1d4177ea3d65dee0f6bccda", func := "bindle/bindlelaw19.UnionGroups", spec := "unionGroups", inPlace := ["internal/bytealg.IndexByteString", "internal/bytealg.IndexString", "internal/abi.NoEscape", "internal/bytealg.MakeNoZero", "internal/bytealg.abigen_runtime_cmpstring"], unfollowed := true, recurses := true, named := ["unicode/utf8.first", "unicode/utf8.acceptRanges", "internal/bytealg.MaxLen"], plainKeys := false, apart := false, laid := [("unicode/utf8.acceptRanges", laid_unicode_utf8_acceptRanges), ("unicode/utf8.first", laid_unicode_utf8_first)] }
def UnionGroupsSaid : Prop := unionGroupsRow.holds Tryd.pinned (OpenSpec.ofChange unionGroupsSpec)

/-- ITS FALSE NEIGHBOUR: 'it returns false'. Refute it at one input. -/
def unionGroupsWrong : ChangeSpec := { name := "unionGroups", fn := fun _ => fun
  | [d1, d2, d3] => { results := [.lit (.bool false)], args := [d1, d2, d3] }
  | _ => none }
def UnionGroupsWrongFalsely : Prop := unionGroupsRow.holds Tryd.pinned (OpenSpec.ofChange unionGroupsWrong)

/-- 'bindlelaw19.UnionLast': WHATEVER THE INPUT: true; the input reads as it did. -/
def unionLastSpec : ChangeSpec := { name := "unionLast", fn := fun _ => fun
  | [d1, d2] => { results := [.lit (.bool true)], args := [d1, d2] }
  | _ => none }
def unionLastRow : OpenClaim := { program := "ytfmphccoeinhcaadoor", sum := "89d828e029a37bf068e12874e1478a466bc48361e1d4177ea3d65dee0f6bccda", func := "bindle/bindlelaw19.UnionLast", spec := "unionLast", inPlace := ["internal/bytealg.IndexByteString", "internal/bytealg.IndexString", "internal/abi.NoEscape", "internal/bytealg.MakeNoZero", "internal/bytealg.abigen_runtime_cmpstring"], unfollowed := true, recurses := true, named := ["unicode/utf8.first", "unicode/utf8.acceptRanges", "internal/bytealg.MaxLen"], plainKeys := false, apart := false, laid := [("unicode/utf8.acceptRanges", laid_unicode_utf8_acceptRanges), ("unicode/utf8.first", laid_unicode_utf8_first)] }
def UnionLastSaid : Prop := unionLastRow.holds Tryd.pinned (OpenSpec.ofChange unionLastSpec)

/-- ITS FALSE NEIGHBOUR: 'it returns false'. Refute it at one input. -/
def unionLastWrong : ChangeSpec := { name := "unionLast", fn := fun _ => fun
  | [d1, d2] => { results := [.lit (.bool false)], args := [d1, d2] }
  | _ => none }
def UnionLastWrongFalsely : Prop := unionLastRow.holds Tryd.pinned (OpenSpec.ofChange unionLastWrong)

/-- 'bindlelaw19.UnionClasses': WHATEVER THE INPUT: true; the input reads as it did. -/
def unionClassesSpec : ChangeSpec := { name := "unionClasses", fn := fun _ => fun
  | [d1, d2] => { results := [.lit (.bool true)], args := [d1, d2] }
  | _ => none }
def unionClassesRow : OpenClaim := { program := "ytfmphccoeinhcaadoor", sum := "89d828e029a37bf068e12874e1478a466bc48361e1d4177ea3d65dee0f6bccda", func := "bindle/bindlelaw19.UnionClasses", spec := "unionClasses", inPlace := ["internal/bytealg.IndexByteString", "internal/bytealg.IndexString", "internal/abi.NoEscape", "internal/bytealg.MakeNoZero", "internal/bytealg.abigen_runtime_cmpstring"], unfollowed := true, recurses := true, named := ["unicode/utf8.first", "unicode/utf8.acceptRanges", "internal/bytealg.MaxLen"], plainKeys := false, apart := false, laid := [("unicode/utf8.acceptRanges", laid_unicode_utf8_acceptRanges), ("unicode/utf8.first", laid_unicode_utf8_first)] }
def UnionClassesSaid : Prop := unionClassesRow.holds Tryd.pinned (OpenSpec.ofChange unionClassesSpec)

/-- ITS FALSE NEIGHBOUR: 'it returns false'. Refute it at one input. -/
def unionClassesWrong : ChangeSpec := { name := "unionClasses", fn := fun _ => fun
  | [d1, d2] => { results := [.lit (.bool false)], args := [d1, d2] }
  | _ => none }
def UnionClassesWrongFalsely : Prop := unionClassesRow.holds Tryd.pinned (OpenSpec.ofChange unionClassesWrong)

/-- 'bindlelaw19.UnionPiles': WHATEVER THE INPUT: true; the input reads as it did. -/
def unionPilesSpec : ChangeSpec := { name := "unionPiles", fn := fun _ => fun
  | [d] => { results := [.lit (.bool true)], args := [d] }
  | _ => none }
def unionPilesRow : OpenClaim := { program := "ytfmphccoeinhcaadoor", sum := "89d828e029a37bf068e12874e1478a466bc48361e1d4177ea3d65dee0f6bccda", func := "bindle/bindlelaw19.UnionPiles", spec := "unionPiles", inPlace := ["internal/bytealg.IndexByteString", "internal/bytealg.IndexString", "internal/abi.NoEscape", "internal/bytealg.MakeNoZero", "internal/bytealg.abigen_runtime_cmpstring"], unfollowed := true, recurses := true, named := ["unicode/utf8.first", "unicode/utf8.acceptRanges", "internal/bytealg.MaxLen"], plainKeys := false, apart := false, laid := [("unicode/utf8.acceptRanges", laid_unicode_utf8_acceptRanges), ("unicode/utf8.first", laid_unicode_utf8_first)] }
def UnionPilesSaid : Prop := unionPilesRow.holds Tryd.pinned (OpenSpec.ofChange unionPilesSpec)

/-- ITS FALSE NEIGHBOUR: 'it returns false'. Refute it at one input. -/
def unionPilesWrong : ChangeSpec := { name := "unionPiles", fn := fun _ => fun
  | [d] => { results := [.lit (.bool false)], args := [d] }
  | _ => none }
def UnionPilesWrongFalsely : Prop := unionPilesRow.holds Tryd.pinned (OpenSpec.ofChange unionPilesWrong)

/-- 'bindlelaw19.UnionApart': WHATEVER THE INPUT: true; the input reads as it did. -/
def unionApartSpec : ChangeSpec := { name := "unionApart", fn := fun _ => fun
  | [d1, d2] => { results := [.lit (.bool true)], args := [d1, d2] }
  | _ => none }
def unionApartRow : OpenClaim := { program := "ytfmphccoeinhcaadoor", sum := "89d828e029a37bf068e12874e1478a466bc48361e1d4177ea3d65dee0f6bccda", func := "bindle/bindlelaw19.UnionApart", spec := "unionApart", inPlace := ["internal/bytealg.IndexByteString", "internal/bytealg.IndexString", "internal/abi.NoEscape", "internal/bytealg.MakeNoZero", "internal/bytealg.abigen_runtime_cmpstring"], unfollowed := true, recurses := true, named := ["unicode/utf8.first", "unicode/utf8.acceptRanges", "internal/bytealg.MaxLen"], plainKeys := false, apart := false, laid := [("unicode/utf8.acceptRanges", laid_unicode_utf8_acceptRanges), ("unicode/utf8.first", laid_unicode_utf8_first)] }
def UnionApartSaid : Prop := unionApartRow.holds Tryd.pinned (OpenSpec.ofChange unionApartSpec)

/-- ITS FALSE NEIGHBOUR: 'it returns false'. Refute it at one input. -/
def unionApartWrong : ChangeSpec := { name := "unionApart", fn := fun _ => fun
  | [d1, d2] => { results := [.lit (.bool false)], args := [d1, d2] }
  | _ => none }
def UnionApartWrongFalsely : Prop := unionApartRow.holds Tryd.pinned (OpenSpec.ofChange unionApartWrong)

/-- 'bindlelaw20.SubKeeps': WHATEVER THE INPUT: true; the input reads as it did. -/
def subKeepsSpec : ChangeSpec := { name := "subKeeps", fn := fun _ => fun
  | [d1, d2] => { results := [.lit (.bool true)], args := [d1, d2] }
  | _ => none }
def subKeepsRow : OpenClaim := { program := "ytfmphccoeinhcaadoor", sum := "89d828e029a37bf068e12874e1478a466bc48361e1d4177ea3d65dee0f6bccda", func := "bindle/bindlelaw20.SubKeeps", spec := "subKeeps", inPlace := ["internal/bytealg.IndexByteString", "internal/bytealg.IndexString", "internal/abi.NoEscape", "internal/bytealg.MakeNoZero", "internal/bytealg.abigen_runtime_cmpstring"], unfollowed := true, recurses := true, named := ["unicode/utf8.first", "unicode/utf8.acceptRanges", "internal/bytealg.MaxLen"], plainKeys := false, apart := false, laid := [("unicode/utf8.acceptRanges", laid_unicode_utf8_acceptRanges), ("unicode/utf8.first", laid_unicode_utf8_first)] }
def SubKeepsSaid : Prop := subKeepsRow.holds Tryd.pinned (OpenSpec.ofChange subKeepsSpec)

/-- ITS FALSE NEIGHBOUR: 'it returns false'. Refute it at one input. -/
def subKeepsWrong : ChangeSpec := { name := "subKeeps", fn := fun _ => fun
  | [d1, d2] => { results := [.lit (.bool false)], args := [d1, d2] }
  | _ => none }
def SubKeepsWrongFalsely : Prop := subKeepsRow.holds Tryd.pinned (OpenSpec.ofChange subKeepsWrong)

/-- 'bindlelaw20.SubTakes': WHATEVER THE INPUT: true; the input reads as it did. -/
def subTakesSpec : ChangeSpec := { name := "subTakes", fn := fun _ => fun
  | [d1, d2, d3] => { results := [.lit (.bool true)], args := [d1, d2, d3] }
  | _ => none }
def subTakesRow : OpenClaim := { program := "ytfmphccoeinhcaadoor", sum := "89d828e029a37bf068e12874e1478a466bc48361e1d4177ea3d65dee0f6bccda", func := "bindle/bindlelaw20.SubTakes", spec := "subTakes", inPlace := ["internal/bytealg.IndexByteString", "internal/bytealg.IndexString", "internal/abi.NoEscape", "internal/bytealg.MakeNoZero", "internal/bytealg.abigen_runtime_cmpstring"], unfollowed := true, recurses := true, named := ["unicode/utf8.first", "unicode/utf8.acceptRanges", "internal/bytealg.MaxLen"], plainKeys := false, apart := false, laid := [("unicode/utf8.acceptRanges", laid_unicode_utf8_acceptRanges), ("unicode/utf8.first", laid_unicode_utf8_first)] }
def SubTakesSaid : Prop := subTakesRow.holds Tryd.pinned (OpenSpec.ofChange subTakesSpec)

/-- ITS FALSE NEIGHBOUR: 'it returns false'. Refute it at one input. -/
def subTakesWrong : ChangeSpec := { name := "subTakes", fn := fun _ => fun
  | [d1, d2, d3] => { results := [.lit (.bool false)], args := [d1, d2, d3] }
  | _ => none }
def SubTakesWrongFalsely : Prop := subTakesRow.holds Tryd.pinned (OpenSpec.ofChange subTakesWrong)

/-- 'bindlelaw20.SubWhole': WHATEVER THE INPUT: true; the input reads as it did. -/
def subWholeSpec : ChangeSpec := { name := "subWhole", fn := fun _ => fun
  | [d1, d2] => { results := [.lit (.bool true)], args := [d1, d2] }
  | _ => none }
def subWholeRow : OpenClaim := { program := "ytfmphccoeinhcaadoor", sum := "89d828e029a37bf068e12874e1478a466bc48361e1d4177ea3d65dee0f6bccda", func := "bindle/bindlelaw20.SubWhole", spec := "subWhole", inPlace := ["internal/bytealg.IndexByteString", "internal/bytealg.IndexString", "internal/abi.NoEscape", "internal/bytealg.MakeNoZero", "internal/bytealg.abigen_runtime_cmpstring"], unfollowed := true, recurses := true, named := ["unicode/utf8.first", "unicode/utf8.acceptRanges", "internal/bytealg.MaxLen"], plainKeys := false, apart := false, laid := [("unicode/utf8.acceptRanges", laid_unicode_utf8_acceptRanges), ("unicode/utf8.first", laid_unicode_utf8_first)] }
def SubWholeSaid : Prop := subWholeRow.holds Tryd.pinned (OpenSpec.ofChange subWholeSpec)

/-- ITS FALSE NEIGHBOUR: 'it returns false'. Refute it at one input. -/
def subWholeWrong : ChangeSpec := { name := "subWhole", fn := fun _ => fun
  | [d1, d2] => { results := [.lit (.bool false)], args := [d1, d2] }
  | _ => none }
def SubWholeWrongFalsely : Prop := subWholeRow.holds Tryd.pinned (OpenSpec.ofChange subWholeWrong)

/-- 'bindlelaw20.SubParts': WHATEVER THE INPUT: true; the input reads as it did. -/
def subPartsSpec : ChangeSpec := { name := "subParts", fn := fun _ => fun
  | [d1, d2, d3] => { results := [.lit (.bool true)], args := [d1, d2, d3] }
  | _ => none }
def subPartsRow : OpenClaim := { program := "ytfmphccoeinhcaadoor", sum := "89d828e029a37bf068e12874e1478a466bc48361e1d4177ea3d65dee0f6bccda", func := "bindle/bindlelaw20.SubParts", spec := "subParts", inPlace := ["internal/bytealg.IndexByteString", "internal/bytealg.IndexString", "internal/abi.NoEscape", "internal/bytealg.MakeNoZero", "internal/bytealg.abigen_runtime_cmpstring"], unfollowed := true, recurses := true, named := ["unicode/utf8.first", "unicode/utf8.acceptRanges", "internal/bytealg.MaxLen"], plainKeys := false, apart := false, laid := [("unicode/utf8.acceptRanges", laid_unicode_utf8_acceptRanges), ("unicode/utf8.first", laid_unicode_utf8_first)] }
def SubPartsSaid : Prop := subPartsRow.holds Tryd.pinned (OpenSpec.ofChange subPartsSpec)

/-- ITS FALSE NEIGHBOUR: 'it returns false'. Refute it at one input. -/
def subPartsWrong : ChangeSpec := { name := "subParts", fn := fun _ => fun
  | [d1, d2, d3] => { results := [.lit (.bool false)], args := [d1, d2, d3] }
  | _ => none }
def SubPartsWrongFalsely : Prop := subPartsRow.holds Tryd.pinned (OpenSpec.ofChange subPartsWrong)

/-- 'bindlelaw20.SubTwice': WHATEVER THE INPUT: true; the input reads as it did. -/
def subTwiceSpec : ChangeSpec := { name := "subTwice", fn := fun _ => fun
  | [d1, d2, d3] => { results := [.lit (.bool true)], args := [d1, d2, d3] }
  | _ => none }
def subTwiceRow : OpenClaim := { program := "ytfmphccoeinhcaadoor", sum := "89d828e029a37bf068e12874e1478a466bc48361e1d4177ea3d65dee0f6bccda", func := "bindle/bindlelaw20.SubTwice", spec := "subTwice", inPlace := ["internal/bytealg.IndexByteString", "internal/bytealg.IndexString", "internal/abi.NoEscape", "internal/bytealg.MakeNoZero", "internal/bytealg.abigen_runtime_cmpstring"], unfollowed := true, recurses := true, named := ["unicode/utf8.first", "unicode/utf8.acceptRanges", "internal/bytealg.MaxLen"], plainKeys := false, apart := false, laid := [("unicode/utf8.acceptRanges", laid_unicode_utf8_acceptRanges), ("unicode/utf8.first", laid_unicode_utf8_first)] }
def SubTwiceSaid : Prop := subTwiceRow.holds Tryd.pinned (OpenSpec.ofChange subTwiceSpec)

/-- ITS FALSE NEIGHBOUR: 'it returns false'. Refute it at one input. -/
def subTwiceWrong : ChangeSpec := { name := "subTwice", fn := fun _ => fun
  | [d1, d2, d3] => { results := [.lit (.bool false)], args := [d1, d2, d3] }
  | _ => none }
def SubTwiceWrongFalsely : Prop := subTwiceRow.holds Tryd.pinned (OpenSpec.ofChange subTwiceWrong)

/- THE SECOND FORM. 'bulk': how many values and letters a reading holds, each counted each time it is reached (what is shared counts as often as it is met; a slice's spare places count too). A statement '..UptoSaid' is the law's where the arguments, and the package variables that the reading takes, are together of bulk at most 1048576: NARROWER than '..Said'. Prove '..Said' where nothing that the law and all that it calls make is longer than what came in: it says more and counts as full. Else prove '..UptoSaid'. A law counts once. -/
mutual
def uptoBulk {H : Type} : DataW H → Nat
  | .lit (.string bytes) => bytes.length + 1
  | .lit _ => 1
  | .nil => 1
  | .ptr d => uptoBulk d + 1
  | .slice elems spare => uptoBulkAll elems + uptoBulkAll spare + 1
  | .agg parts => uptoBulkAll parts + 1
  | .iface _ d => uptoBulk d + 1
  | .map entries => uptoBulkEntries entries + 1
  | .held _ => 1
def uptoBulkAll {H : Type} : List (DataW H) → Nat
  | [] => 0
  | d :: r => uptoBulk d + uptoBulkAll r
def uptoBulkEntries {H : Type} : List (Lit × DataW H) → Nat
  | [] => 0
  | x :: r => uptoBulkEntry x + uptoBulkEntries r
def uptoBulkEntry {H : Type} : Lit × DataW H → Nat
  | (.string bytes, d) => bytes.length + uptoBulk d + 1
  | (_, d) => uptoBulk d + 1
 end
def uptoSmall : (H : Type) → List (DataW H) → Bool := fun _ ds => decide (uptoBulkAll ds ≤ 1048576)
def OpenSpec.upto (s : _root_.Go.ChangeSpec) : _root_.Go.OpenSpec := { _root_.Go.OpenSpec.ofChange s with cond := some uptoSmall }

/-- 'bindlelaw10.TreeLast', WHERE WHAT IT READS IS OF BULK AT MOST 1048576: true; the input reads as it did. -/
def treeLastUptoRow : OpenClaim := { program := "ytfmphccoeinhcaadoor", sum := "89d828e029a37bf068e12874e1478a466bc48361e1d4177ea3d65dee0f6bccda", func := "bindle/bindlelaw10.TreeLast", spec := "treeLast", inPlace := ["internal/bytealg.IndexByteString", "internal/bytealg.IndexString", "internal/abi.NoEscape", "internal/bytealg.MakeNoZero", "internal/bytealg.abigen_runtime_cmpstring"], unfollowed := true, recurses := true, named := ["unicode/utf8.first", "unicode/utf8.acceptRanges", "internal/bytealg.MaxLen"], plainKeys := false, apart := false, laid := [("unicode/utf8.acceptRanges", laid_unicode_utf8_acceptRanges), ("unicode/utf8.first", laid_unicode_utf8_first)], narrowed := true }
def TreeLastUptoSaid : Prop := treeLastUptoRow.holds Tryd.pinned (OpenSpec.upto treeLastSpec)

/-- 'bindlelaw19.UnionUnites', WHERE WHAT IT READS IS OF BULK AT MOST 1048576: true; the input reads as it did. -/
def unionUnitesUptoRow : OpenClaim := { program := "ytfmphccoeinhcaadoor", sum := "89d828e029a37bf068e12874e1478a466bc48361e1d4177ea3d65dee0f6bccda", func := "bindle/bindlelaw19.UnionUnites", spec := "unionUnites", inPlace := ["internal/bytealg.IndexByteString", "internal/bytealg.IndexString", "internal/abi.NoEscape", "internal/bytealg.MakeNoZero", "internal/bytealg.abigen_runtime_cmpstring"], unfollowed := true, recurses := true, named := ["unicode/utf8.first", "unicode/utf8.acceptRanges", "internal/bytealg.MaxLen"], plainKeys := false, apart := false, laid := [("unicode/utf8.acceptRanges", laid_unicode_utf8_acceptRanges), ("unicode/utf8.first", laid_unicode_utf8_first)], narrowed := true }
def UnionUnitesUptoSaid : Prop := unionUnitesUptoRow.holds Tryd.pinned (OpenSpec.upto unionUnitesSpec)

/-- 'bindlelaw19.UnionGroups', WHERE WHAT IT READS IS OF BULK AT MOST 1048576: true; the input reads as it did. -/
def unionGroupsUptoRow : OpenClaim := { program := "ytfmphccoeinhcaadoor", sum := "89d828e029a37bf068e12874e1478a466bc48361e1d4177ea3d65dee0f6bccda", func := "bindle/bindlelaw19.UnionGroups", spec := "unionGroups", inPlace := ["internal/bytealg.IndexByteString", "internal/bytealg.IndexString", "internal/abi.NoEscape", "internal/bytealg.MakeNoZero", "internal/bytealg.abigen_runtime_cmpstring"], unfollowed := true, recurses := true, named := ["unicode/utf8.first", "unicode/utf8.acceptRanges", "internal/bytealg.MaxLen"], plainKeys := false, apart := false, laid := [("unicode/utf8.acceptRanges", laid_unicode_utf8_acceptRanges), ("unicode/utf8.first", laid_unicode_utf8_first)], narrowed := true }
def UnionGroupsUptoSaid : Prop := unionGroupsUptoRow.holds Tryd.pinned (OpenSpec.upto unionGroupsSpec)

/-- 'bindlelaw19.UnionLast', WHERE WHAT IT READS IS OF BULK AT MOST 1048576: true; the input reads as it did. -/
def unionLastUptoRow : OpenClaim := { program := "ytfmphccoeinhcaadoor", sum := "89d828e029a37bf068e12874e1478a466bc48361e1d4177ea3d65dee0f6bccda", func := "bindle/bindlelaw19.UnionLast", spec := "unionLast", inPlace := ["internal/bytealg.IndexByteString", "internal/bytealg.IndexString", "internal/abi.NoEscape", "internal/bytealg.MakeNoZero", "internal/bytealg.abigen_runtime_cmpstring"], unfollowed := true, recurses := true, named := ["unicode/utf8.first", "unicode/utf8.acceptRanges", "internal/bytealg.MaxLen"], plainKeys := false, apart := false, laid := [("unicode/utf8.acceptRanges", laid_unicode_utf8_acceptRanges), ("unicode/utf8.first", laid_unicode_utf8_first)], narrowed := true }
def UnionLastUptoSaid : Prop := unionLastUptoRow.holds Tryd.pinned (OpenSpec.upto unionLastSpec)

/-- 'bindlelaw19.UnionClasses', WHERE WHAT IT READS IS OF BULK AT MOST 1048576: true; the input reads as it did. -/
def unionClassesUptoRow : OpenClaim := { program := "ytfmphccoeinhcaadoor", sum := "89d828e029a37bf068e12874e1478a466bc48361e1d4177ea3d65dee0f6bccda", func := "bindle/bindlelaw19.UnionClasses", spec := "unionClasses", inPlace := ["internal/bytealg.IndexByteString", "internal/bytealg.IndexString", "internal/abi.NoEscape", "internal/bytealg.MakeNoZero", "internal/bytealg.abigen_runtime_cmpstring"], unfollowed := true, recurses := true, named := ["unicode/utf8.first", "unicode/utf8.acceptRanges", "internal/bytealg.MaxLen"], plainKeys := false, apart := false, laid := [("unicode/utf8.acceptRanges", laid_unicode_utf8_acceptRanges), ("unicode/utf8.first", laid_unicode_utf8_first)], narrowed := true }
def UnionClassesUptoSaid : Prop := unionClassesUptoRow.holds Tryd.pinned (OpenSpec.upto unionClassesSpec)

/-- 'bindlelaw19.UnionPiles', WHERE WHAT IT READS IS OF BULK AT MOST 1048576: true; the input reads as it did. -/
def unionPilesUptoRow : OpenClaim := { program := "ytfmphccoeinhcaadoor", sum := "89d828e029a37bf068e12874e1478a466bc48361e1d4177ea3d65dee0f6bccda", func := "bindle/bindlelaw19.UnionPiles", spec := "unionPiles", inPlace := ["internal/bytealg.IndexByteString", "internal/bytealg.IndexString", "internal/abi.NoEscape", "internal/bytealg.MakeNoZero", "internal/bytealg.abigen_runtime_cmpstring"], unfollowed := true, recurses := true, named := ["unicode/utf8.first", "unicode/utf8.acceptRanges", "internal/bytealg.MaxLen"], plainKeys := false, apart := false, laid := [("unicode/utf8.acceptRanges", laid_unicode_utf8_acceptRanges), ("unicode/utf8.first", laid_unicode_utf8_first)], narrowed := true }
def UnionPilesUptoSaid : Prop := unionPilesUptoRow.holds Tryd.pinned (OpenSpec.upto unionPilesSpec)

/-- 'bindlelaw19.UnionApart', WHERE WHAT IT READS IS OF BULK AT MOST 1048576: true; the input reads as it did. -/
def unionApartUptoRow : OpenClaim := { program := "ytfmphccoeinhcaadoor", sum := "89d828e029a37bf068e12874e1478a466bc48361e1d4177ea3d65dee0f6bccda", func := "bindle/bindlelaw19.UnionApart", spec := "unionApart", inPlace := ["internal/bytealg.IndexByteString", "internal/bytealg.IndexString", "internal/abi.NoEscape", "internal/bytealg.MakeNoZero", "internal/bytealg.abigen_runtime_cmpstring"], unfollowed := true, recurses := true, named := ["unicode/utf8.first", "unicode/utf8.acceptRanges", "internal/bytealg.MaxLen"], plainKeys := false, apart := false, laid := [("unicode/utf8.acceptRanges", laid_unicode_utf8_acceptRanges), ("unicode/utf8.first", laid_unicode_utf8_first)], narrowed := true }
def UnionApartUptoSaid : Prop := unionApartUptoRow.holds Tryd.pinned (OpenSpec.upto unionApartSpec)

/-- 'bindlelaw20.SubKeeps', WHERE WHAT IT READS IS OF BULK AT MOST 1048576: true; the input reads as it did. -/
def subKeepsUptoRow : OpenClaim := { program := "ytfmphccoeinhcaadoor", sum := "89d828e029a37bf068e12874e1478a466bc48361e1d4177ea3d65dee0f6bccda", func := "bindle/bindlelaw20.SubKeeps", spec := "subKeeps", inPlace := ["internal/bytealg.IndexByteString", "internal/bytealg.IndexString", "internal/abi.NoEscape", "internal/bytealg.MakeNoZero", "internal/bytealg.abigen_runtime_cmpstring"], unfollowed := true, recurses := true, named := ["unicode/utf8.first", "unicode/utf8.acceptRanges", "internal/bytealg.MaxLen"], plainKeys := false, apart := false, laid := [("unicode/utf8.acceptRanges", laid_unicode_utf8_acceptRanges), ("unicode/utf8.first", laid_unicode_utf8_first)], narrowed := true }
def SubKeepsUptoSaid : Prop := subKeepsUptoRow.holds Tryd.pinned (OpenSpec.upto subKeepsSpec)

/-- 'bindlelaw20.SubTakes', WHERE WHAT IT READS IS OF BULK AT MOST 1048576: true; the input reads as it did. -/
def subTakesUptoRow : OpenClaim := { program := "ytfmphccoeinhcaadoor", sum := "89d828e029a37bf068e12874e1478a466bc48361e1d4177ea3d65dee0f6bccda", func := "bindle/bindlelaw20.SubTakes", spec := "subTakes", inPlace := ["internal/bytealg.IndexByteString", "internal/bytealg.IndexString", "internal/abi.NoEscape", "internal/bytealg.MakeNoZero", "internal/bytealg.abigen_runtime_cmpstring"], unfollowed := true, recurses := true, named := ["unicode/utf8.first", "unicode/utf8.acceptRanges", "internal/bytealg.MaxLen"], plainKeys := false, apart := false, laid := [("unicode/utf8.acceptRanges", laid_unicode_utf8_acceptRanges), ("unicode/utf8.first", laid_unicode_utf8_first)], narrowed := true }
def SubTakesUptoSaid : Prop := subTakesUptoRow.holds Tryd.pinned (OpenSpec.upto subTakesSpec)

/-- 'bindlelaw20.SubWhole', WHERE WHAT IT READS IS OF BULK AT MOST 1048576: true; the input reads as it did. -/
def subWholeUptoRow : OpenClaim := { program := "ytfmphccoeinhcaadoor", sum := "89d828e029a37bf068e12874e1478a466bc48361e1d4177ea3d65dee0f6bccda", func := "bindle/bindlelaw20.SubWhole", spec := "subWhole", inPlace := ["internal/bytealg.IndexByteString", "internal/bytealg.IndexString", "internal/abi.NoEscape", "internal/bytealg.MakeNoZero", "internal/bytealg.abigen_runtime_cmpstring"], unfollowed := true, recurses := true, named := ["unicode/utf8.first", "unicode/utf8.acceptRanges", "internal/bytealg.MaxLen"], plainKeys := false, apart := false, laid := [("unicode/utf8.acceptRanges", laid_unicode_utf8_acceptRanges), ("unicode/utf8.first", laid_unicode_utf8_first)], narrowed := true }
def SubWholeUptoSaid : Prop := subWholeUptoRow.holds Tryd.pinned (OpenSpec.upto subWholeSpec)

/-- 'bindlelaw20.SubParts', WHERE WHAT IT READS IS OF BULK AT MOST 1048576: true; the input reads as it did. -/
def subPartsUptoRow : OpenClaim := { program := "ytfmphccoeinhcaadoor", sum := "89d828e029a37bf068e12874e1478a466bc48361e1d4177ea3d65dee0f6bccda", func := "bindle/bindlelaw20.SubParts", spec := "subParts", inPlace := ["internal/bytealg.IndexByteString", "internal/bytealg.IndexString", "internal/abi.NoEscape", "internal/bytealg.MakeNoZero", "internal/bytealg.abigen_runtime_cmpstring"], unfollowed := true, recurses := true, named := ["unicode/utf8.first", "unicode/utf8.acceptRanges", "internal/bytealg.MaxLen"], plainKeys := false, apart := false, laid := [("unicode/utf8.acceptRanges", laid_unicode_utf8_acceptRanges), ("unicode/utf8.first", laid_unicode_utf8_first)], narrowed := true }
def SubPartsUptoSaid : Prop := subPartsUptoRow.holds Tryd.pinned (OpenSpec.upto subPartsSpec)

/-- 'bindlelaw20.SubTwice', WHERE WHAT IT READS IS OF BULK AT MOST 1048576: true; the input reads as it did. -/
def subTwiceUptoRow : OpenClaim := { program := "ytfmphccoeinhcaadoor", sum := "89d828e029a37bf068e12874e1478a466bc48361e1d4177ea3d65dee0f6bccda", func := "bindle/bindlelaw20.SubTwice", spec := "subTwice", inPlace := ["internal/bytealg.IndexByteString", "internal/bytealg.IndexString", "internal/abi.NoEscape", "internal/bytealg.MakeNoZero", "internal/bytealg.abigen_runtime_cmpstring"], unfollowed := true, recurses := true, named := ["unicode/utf8.first", "unicode/utf8.acceptRanges", "internal/bytealg.MaxLen"], plainKeys := false, apart := false, laid := [("unicode/utf8.acceptRanges", laid_unicode_utf8_acceptRanges), ("unicode/utf8.first", laid_unicode_utf8_first)], narrowed := true }
def SubTwiceUptoSaid : Prop := subTwiceUptoRow.holds Tryd.pinned (OpenSpec.upto subTwiceSpec)

end Rows
end Go.Proofs.YtfmphccoeinhcaaDoor
