/-
  NARROWER THAN 'FOR EVERY INPUT', by the rows' own cells (each row's printed sentence says how): LinksMembers: laid · LinksOrder: laid · LinksSound: laid · LinksClasses: laid · LinksFirst: laid · TreeFolds: laid · TreeGood: laid · TreeLast: laid · TreeOrder: laid · TreeFinds: laid · LinksBack: laid.
  DERIVED. THE GIVEN ROWS OF THIS SEAT. 11 by the template 'for every input the law returns true; each argument reads behind the call as it read before'; 0 by the template 'total and deterministic' (their statements: YtfljbidecljlcaaDoorTotals.lean).
  GIVEN WITH THE SEED: the statements are not yours to turn. If you find one false, say at which input.
  Laid BY PROGRAM, IN A SANDBOX (cutbox-rows.mjs): the forced cells as the released guide's own fill.sh prints them over the translation aad4bf7c1db60bcf… (all of the seat's roots in one cut). By AI agents, Wed Nov 11 2026. No macro, syntax, notation, axiom, sorry.
-/
import Derived.Test.YtfljbidecljlcaaDoorChecked
import GoSem.PinnedTables
import GoSem.Claim
import GoSem.ClaimJoined
import GoSem.ClaimMapViews
import Derived.JoinedTies
import Derived.KernelRfl
namespace Go.Proofs.YtfljbidecljlcaaDoor
/- THE CELL 'sum', in the pinned program and in every row, IS THE sha256 OF THE DUMP (.gsa) THAT YtfljbidecljlcaaDoorProg.lean LOADS. Nothing in Lean hashes anything: it is a label: what it is worth is what the hold of that sum in a sandbox is worth. -/
noncomputable def Tryd.pinned : Pinned := { name := "ytfljbidecljlcaadoor", sum := "aad4bf7c1db60bcfaec226eba5d5ae939718050f4670987acddcab433636764b", checked := Tryd.checked }
namespace Rows
def none {H : Type} : Left H := { results := [], args := [] }

/- WHAT THE LISTED PACKAGE-LEVEL VARIABLES READ AS WHEN THE CALL BEGINS. Each datum BY PROGRAM (the guide's laid-datum.mjs) off the statement by which the dump's own 'gosem.cut.vars' lays the variable. In a bare row this is a premise. The card (YtfljbidecljlcaaDoorCards.lean) ties it to the program's text. -/
def laid_unicode_utf8_acceptRanges {H : Type} : DataW H := .agg [.agg [.lit (.int .u8 128), .lit (.int .u8 191)], .agg [.lit (.int .u8 160), .lit (.int .u8 191)], .agg [.lit (.int .u8 128), .lit (.int .u8 159)], .agg [.lit (.int .u8 144), .lit (.int .u8 191)], .agg [.lit (.int .u8 128), .lit (.int .u8 143)], .agg [.lit (.int .u8 0), .lit (.int .u8 0)], .agg [.lit (.int .u8 0), .lit (.int .u8 0)], .agg [.lit (.int .u8 0), .lit (.int .u8 0)], .agg [.lit (.int .u8 0), .lit (.int .u8 0)], .agg [.lit (.int .u8 0), .lit (.int .u8 0)], .agg [.lit (.int .u8 0), .lit (.int .u8 0)], .agg [.lit (.int .u8 0), .lit (.int .u8 0)], .agg [.lit (.int .u8 0), .lit (.int .u8 0)], .agg [.lit (.int .u8 0), .lit (.int .u8 0)], .agg [.lit (.int .u8 0), .lit (.int .u8 0)], .agg [.lit (.int .u8 0), .lit (.int .u8 0)]]
/-- One of Go's own tables, pinned by name: the form's constant. -/
def laid_unicode_utf8_first : DataW Unit := Go.Pinned.utf8First

/-- 'bindlelaw11.LinksMembers': WHATEVER THE INPUT: true; the input reads as it did. -/
def linksMembersSpec : ChangeSpec := { name := "linksMembers", fn := fun _ => fun
  | [d1, d2] => { results := [.lit (.bool true)], args := [d1, d2] }
  | _ => none }
def linksMembersRow : OpenClaim := { program := "ytfljbidecljlcaadoor", sum := "aad4bf7c1db60bcfaec226eba5d5ae939718050f4670987acddcab433636764b", func := "bindle/bindlelaw11.LinksMembers", spec := "linksMembers", inPlace := ["internal/bytealg.abigen_runtime_cmpstring", "internal/bytealg.IndexByteString", "internal/bytealg.IndexString", "internal/abi.NoEscape", "internal/bytealg.MakeNoZero"], unfollowed := true, recurses := true, named := ["unicode/utf8.first", "unicode/utf8.acceptRanges", "internal/bytealg.MaxLen"], apart := false, laid := [("unicode/utf8.acceptRanges", laid_unicode_utf8_acceptRanges), ("unicode/utf8.first", laid_unicode_utf8_first)] }
def LinksMembersSaid : Prop := linksMembersRow.holds Tryd.pinned (OpenSpec.ofChange linksMembersSpec)

/-- ITS FALSE NEIGHBOUR: 'it returns false'. Refute it at one input. -/
def linksMembersWrong : ChangeSpec := { name := "linksMembers", fn := fun _ => fun
  | [d1, d2] => { results := [.lit (.bool false)], args := [d1, d2] }
  | _ => none }
def LinksMembersWrongFalsely : Prop := linksMembersRow.holds Tryd.pinned (OpenSpec.ofChange linksMembersWrong)

/-- 'bindlelaw11.LinksOrder': WHATEVER THE INPUT: true; the input reads as it did. -/
def linksOrderSpec : ChangeSpec := { name := "linksOrder", fn := fun _ => fun
  | [d1, d2] => { results := [.lit (.bool true)], args := [d1, d2] }
  | _ => none }
def linksOrderRow : OpenClaim := { program := "ytfljbidecljlcaadoor", sum := "aad4bf7c1db60bcfaec226eba5d5ae939718050f4670987acddcab433636764b", func := "bindle/bindlelaw11.LinksOrder", spec := "linksOrder", inPlace := ["internal/bytealg.abigen_runtime_cmpstring", "internal/bytealg.IndexByteString", "internal/bytealg.IndexString", "internal/abi.NoEscape", "internal/bytealg.MakeNoZero"], unfollowed := true, recurses := true, named := ["unicode/utf8.first", "unicode/utf8.acceptRanges", "internal/bytealg.MaxLen"], apart := false, laid := [("unicode/utf8.acceptRanges", laid_unicode_utf8_acceptRanges), ("unicode/utf8.first", laid_unicode_utf8_first)] }
def LinksOrderSaid : Prop := linksOrderRow.holds Tryd.pinned (OpenSpec.ofChange linksOrderSpec)

/-- ITS FALSE NEIGHBOUR: 'it returns false'. Refute it at one input. -/
def linksOrderWrong : ChangeSpec := { name := "linksOrder", fn := fun _ => fun
  | [d1, d2] => { results := [.lit (.bool false)], args := [d1, d2] }
  | _ => none }
def LinksOrderWrongFalsely : Prop := linksOrderRow.holds Tryd.pinned (OpenSpec.ofChange linksOrderWrong)

/-- 'bindlelaw11.LinksSound': WHATEVER THE INPUT: true; the input reads as it did. -/
def linksSoundSpec : ChangeSpec := { name := "linksSound", fn := fun _ => fun
  | [d] => { results := [.lit (.bool true)], args := [d] }
  | _ => none }
def linksSoundRow : OpenClaim := { program := "ytfljbidecljlcaadoor", sum := "aad4bf7c1db60bcfaec226eba5d5ae939718050f4670987acddcab433636764b", func := "bindle/bindlelaw11.LinksSound", spec := "linksSound", inPlace := ["internal/bytealg.abigen_runtime_cmpstring", "internal/bytealg.IndexByteString", "internal/bytealg.IndexString", "internal/abi.NoEscape", "internal/bytealg.MakeNoZero"], unfollowed := true, recurses := true, named := ["unicode/utf8.first", "unicode/utf8.acceptRanges", "internal/bytealg.MaxLen"], apart := false, laid := [("unicode/utf8.acceptRanges", laid_unicode_utf8_acceptRanges), ("unicode/utf8.first", laid_unicode_utf8_first)] }
def LinksSoundSaid : Prop := linksSoundRow.holds Tryd.pinned (OpenSpec.ofChange linksSoundSpec)

/-- ITS FALSE NEIGHBOUR: 'it returns false'. Refute it at one input. -/
def linksSoundWrong : ChangeSpec := { name := "linksSound", fn := fun _ => fun
  | [d] => { results := [.lit (.bool false)], args := [d] }
  | _ => none }
def LinksSoundWrongFalsely : Prop := linksSoundRow.holds Tryd.pinned (OpenSpec.ofChange linksSoundWrong)

/-- 'bindlelaw11.LinksClasses': WHATEVER THE INPUT: true; the input reads as it did. -/
def linksClassesSpec : ChangeSpec := { name := "linksClasses", fn := fun _ => fun
  | [d] => { results := [.lit (.bool true)], args := [d] }
  | _ => none }
def linksClassesRow : OpenClaim := { program := "ytfljbidecljlcaadoor", sum := "aad4bf7c1db60bcfaec226eba5d5ae939718050f4670987acddcab433636764b", func := "bindle/bindlelaw11.LinksClasses", spec := "linksClasses", inPlace := ["internal/bytealg.abigen_runtime_cmpstring", "internal/bytealg.IndexByteString", "internal/bytealg.IndexString", "internal/abi.NoEscape", "internal/bytealg.MakeNoZero"], unfollowed := true, recurses := true, named := ["unicode/utf8.first", "unicode/utf8.acceptRanges", "internal/bytealg.MaxLen"], apart := false, laid := [("unicode/utf8.acceptRanges", laid_unicode_utf8_acceptRanges), ("unicode/utf8.first", laid_unicode_utf8_first)] }
def LinksClassesSaid : Prop := linksClassesRow.holds Tryd.pinned (OpenSpec.ofChange linksClassesSpec)

/-- ITS FALSE NEIGHBOUR: 'it returns false'. Refute it at one input. -/
def linksClassesWrong : ChangeSpec := { name := "linksClasses", fn := fun _ => fun
  | [d] => { results := [.lit (.bool false)], args := [d] }
  | _ => none }
def LinksClassesWrongFalsely : Prop := linksClassesRow.holds Tryd.pinned (OpenSpec.ofChange linksClassesWrong)

/-- 'bindlelaw11.LinksFirst': WHATEVER THE INPUT: true; the input reads as it did. -/
def linksFirstSpec : ChangeSpec := { name := "linksFirst", fn := fun _ => fun
  | [d1, d2] => { results := [.lit (.bool true)], args := [d1, d2] }
  | _ => none }
def linksFirstRow : OpenClaim := { program := "ytfljbidecljlcaadoor", sum := "aad4bf7c1db60bcfaec226eba5d5ae939718050f4670987acddcab433636764b", func := "bindle/bindlelaw11.LinksFirst", spec := "linksFirst", inPlace := ["internal/bytealg.abigen_runtime_cmpstring", "internal/bytealg.IndexByteString", "internal/bytealg.IndexString", "internal/abi.NoEscape", "internal/bytealg.MakeNoZero"], unfollowed := true, recurses := true, named := ["unicode/utf8.first", "unicode/utf8.acceptRanges", "internal/bytealg.MaxLen"], apart := false, laid := [("unicode/utf8.acceptRanges", laid_unicode_utf8_acceptRanges), ("unicode/utf8.first", laid_unicode_utf8_first)] }
def LinksFirstSaid : Prop := linksFirstRow.holds Tryd.pinned (OpenSpec.ofChange linksFirstSpec)

/-- ITS FALSE NEIGHBOUR: 'it returns false'. Refute it at one input. -/
def linksFirstWrong : ChangeSpec := { name := "linksFirst", fn := fun _ => fun
  | [d1, d2] => { results := [.lit (.bool false)], args := [d1, d2] }
  | _ => none }
def LinksFirstWrongFalsely : Prop := linksFirstRow.holds Tryd.pinned (OpenSpec.ofChange linksFirstWrong)

/-- 'bindlelaw10.TreeFolds': WHATEVER THE INPUT: true; the input reads as it did. -/
def treeFoldsSpec : ChangeSpec := { name := "treeFolds", fn := fun _ => fun
  | [d] => { results := [.lit (.bool true)], args := [d] }
  | _ => none }
def treeFoldsRow : OpenClaim := { program := "ytfljbidecljlcaadoor", sum := "aad4bf7c1db60bcfaec226eba5d5ae939718050f4670987acddcab433636764b", func := "bindle/bindlelaw10.TreeFolds", spec := "treeFolds", inPlace := ["internal/bytealg.IndexByteString", "internal/bytealg.IndexString", "internal/abi.NoEscape", "internal/bytealg.MakeNoZero", "internal/bytealg.abigen_runtime_cmpstring"], unfollowed := true, recurses := true, named := ["unicode/utf8.first", "unicode/utf8.acceptRanges", "internal/bytealg.MaxLen"], apart := false, laid := [("unicode/utf8.acceptRanges", laid_unicode_utf8_acceptRanges), ("unicode/utf8.first", laid_unicode_utf8_first)] }
def TreeFoldsSaid : Prop := treeFoldsRow.holds Tryd.pinned (OpenSpec.ofChange treeFoldsSpec)

/-- ITS FALSE NEIGHBOUR: 'it returns false'. Refute it at one input. -/
def treeFoldsWrong : ChangeSpec := { name := "treeFolds", fn := fun _ => fun
  | [d] => { results := [.lit (.bool false)], args := [d] }
  | _ => none }
def TreeFoldsWrongFalsely : Prop := treeFoldsRow.holds Tryd.pinned (OpenSpec.ofChange treeFoldsWrong)

/-- 'bindlelaw10.TreeGood': WHATEVER THE INPUT: true; the input reads as it did. -/
def treeGoodSpec : ChangeSpec := { name := "treeGood", fn := fun _ => fun
  | [d] => { results := [.lit (.bool true)], args := [d] }
  | _ => none }
def treeGoodRow : OpenClaim := { program := "ytfljbidecljlcaadoor", sum := "aad4bf7c1db60bcfaec226eba5d5ae939718050f4670987acddcab433636764b", func := "bindle/bindlelaw10.TreeGood", spec := "treeGood", inPlace := ["internal/bytealg.IndexByteString", "internal/bytealg.IndexString", "internal/abi.NoEscape", "internal/bytealg.MakeNoZero", "internal/bytealg.abigen_runtime_cmpstring"], unfollowed := true, recurses := true, named := ["unicode/utf8.first", "unicode/utf8.acceptRanges", "internal/bytealg.MaxLen"], apart := false, laid := [("unicode/utf8.acceptRanges", laid_unicode_utf8_acceptRanges), ("unicode/utf8.first", laid_unicode_utf8_first)] }
def TreeGoodSaid : Prop := treeGoodRow.holds Tryd.pinned (OpenSpec.ofChange treeGoodSpec)

/-- ITS FALSE NEIGHBOUR: 'it returns false'. Refute it at one input. -/
def treeGoodWrong : ChangeSpec := { name := "treeGood", fn := fun _ => fun
  | [d] => { results := [.lit (.bool false)], args := [d] }
  | _ => none }
def TreeGoodWrongFalsely : Prop := treeGoodRow.holds Tryd.pinned (OpenSpec.ofChange treeGoodWrong)

/-- 'bindlelaw10.TreeLast': WHATEVER THE INPUT: true; the input reads as it did. -/
def treeLastSpec : ChangeSpec := { name := "treeLast", fn := fun _ => fun
  | [d1, d2] => { results := [.lit (.bool true)], args := [d1, d2] }
  | _ => none }
def treeLastRow : OpenClaim := { program := "ytfljbidecljlcaadoor", sum := "aad4bf7c1db60bcfaec226eba5d5ae939718050f4670987acddcab433636764b", func := "bindle/bindlelaw10.TreeLast", spec := "treeLast", inPlace := ["internal/bytealg.IndexByteString", "internal/bytealg.IndexString", "internal/abi.NoEscape", "internal/bytealg.MakeNoZero", "internal/bytealg.abigen_runtime_cmpstring"], unfollowed := true, recurses := true, named := ["unicode/utf8.first", "unicode/utf8.acceptRanges", "internal/bytealg.MaxLen"], apart := false, laid := [("unicode/utf8.acceptRanges", laid_unicode_utf8_acceptRanges), ("unicode/utf8.first", laid_unicode_utf8_first)] }
def TreeLastSaid : Prop := treeLastRow.holds Tryd.pinned (OpenSpec.ofChange treeLastSpec)

/-- ITS FALSE NEIGHBOUR: 'it returns false'. Refute it at one input. -/
def treeLastWrong : ChangeSpec := { name := "treeLast", fn := fun _ => fun
  | [d1, d2] => { results := [.lit (.bool false)], args := [d1, d2] }
  | _ => none }
def TreeLastWrongFalsely : Prop := treeLastRow.holds Tryd.pinned (OpenSpec.ofChange treeLastWrong)

/-- 'bindlelaw10.TreeOrder': WHATEVER THE INPUT: true; the input reads as it did. -/
def treeOrderSpec : ChangeSpec := { name := "treeOrder", fn := fun _ => fun
  | [d1, d2] => { results := [.lit (.bool true)], args := [d1, d2] }
  | _ => none }
def treeOrderRow : OpenClaim := { program := "ytfljbidecljlcaadoor", sum := "aad4bf7c1db60bcfaec226eba5d5ae939718050f4670987acddcab433636764b", func := "bindle/bindlelaw10.TreeOrder", spec := "treeOrder", inPlace := ["internal/bytealg.IndexByteString", "internal/bytealg.IndexString", "internal/abi.NoEscape", "internal/bytealg.MakeNoZero", "internal/bytealg.abigen_runtime_cmpstring"], unfollowed := true, recurses := true, named := ["unicode/utf8.first", "unicode/utf8.acceptRanges", "internal/bytealg.MaxLen"], apart := false, laid := [("unicode/utf8.acceptRanges", laid_unicode_utf8_acceptRanges), ("unicode/utf8.first", laid_unicode_utf8_first)] }
def TreeOrderSaid : Prop := treeOrderRow.holds Tryd.pinned (OpenSpec.ofChange treeOrderSpec)

/-- ITS FALSE NEIGHBOUR: 'it returns false'. Refute it at one input. -/
def treeOrderWrong : ChangeSpec := { name := "treeOrder", fn := fun _ => fun
  | [d1, d2] => { results := [.lit (.bool false)], args := [d1, d2] }
  | _ => none }
def TreeOrderWrongFalsely : Prop := treeOrderRow.holds Tryd.pinned (OpenSpec.ofChange treeOrderWrong)

/-- 'bindlelaw10.TreeFinds': WHATEVER THE INPUT: true; the input reads as it did. -/
def treeFindsSpec : ChangeSpec := { name := "treeFinds", fn := fun _ => fun
  | [d1, d2, d3] => { results := [.lit (.bool true)], args := [d1, d2, d3] }
  | _ => none }
def treeFindsRow : OpenClaim := { program := "ytfljbidecljlcaadoor", sum := "aad4bf7c1db60bcfaec226eba5d5ae939718050f4670987acddcab433636764b", func := "bindle/bindlelaw10.TreeFinds", spec := "treeFinds", inPlace := ["internal/bytealg.IndexByteString", "internal/bytealg.IndexString", "internal/abi.NoEscape", "internal/bytealg.MakeNoZero", "internal/bytealg.abigen_runtime_cmpstring"], unfollowed := true, recurses := true, named := ["unicode/utf8.first", "unicode/utf8.acceptRanges", "internal/bytealg.MaxLen"], apart := false, laid := [("unicode/utf8.acceptRanges", laid_unicode_utf8_acceptRanges), ("unicode/utf8.first", laid_unicode_utf8_first)] }
def TreeFindsSaid : Prop := treeFindsRow.holds Tryd.pinned (OpenSpec.ofChange treeFindsSpec)

/-- ITS FALSE NEIGHBOUR: 'it returns false'. Refute it at one input. -/
def treeFindsWrong : ChangeSpec := { name := "treeFinds", fn := fun _ => fun
  | [d1, d2, d3] => { results := [.lit (.bool false)], args := [d1, d2, d3] }
  | _ => none }
def TreeFindsWrongFalsely : Prop := treeFindsRow.holds Tryd.pinned (OpenSpec.ofChange treeFindsWrong)

/-- 'bindlelaw11.LinksBack': WHATEVER THE INPUT: true; the input reads as it did. -/
def linksBackSpec : ChangeSpec := { name := "linksBack", fn := fun _ => fun
  | [d1, d2] => { results := [.lit (.bool true)], args := [d1, d2] }
  | _ => none }
def linksBackRow : OpenClaim := { program := "ytfljbidecljlcaadoor", sum := "aad4bf7c1db60bcfaec226eba5d5ae939718050f4670987acddcab433636764b", func := "bindle/bindlelaw11.LinksBack", spec := "linksBack", inPlace := ["internal/bytealg.abigen_runtime_cmpstring", "internal/bytealg.IndexByteString", "internal/bytealg.IndexString", "internal/abi.NoEscape", "internal/bytealg.MakeNoZero"], unfollowed := true, recurses := true, named := ["unicode/utf8.first", "unicode/utf8.acceptRanges", "internal/bytealg.MaxLen"], apart := false, laid := [("unicode/utf8.acceptRanges", laid_unicode_utf8_acceptRanges), ("unicode/utf8.first", laid_unicode_utf8_first)] }
def LinksBackSaid : Prop := linksBackRow.holds Tryd.pinned (OpenSpec.ofChange linksBackSpec)

/-- ITS FALSE NEIGHBOUR: 'it returns false'. Refute it at one input. -/
def linksBackWrong : ChangeSpec := { name := "linksBack", fn := fun _ => fun
  | [d1, d2] => { results := [.lit (.bool false)], args := [d1, d2] }
  | _ => none }
def LinksBackWrongFalsely : Prop := linksBackRow.holds Tryd.pinned (OpenSpec.ofChange linksBackWrong)

/- THE SECOND FORM. 'bulk': how many values and letters a reading holds, each counted each time it is reached (what is shared counts as often as it is met; a slice's spare places count too). A statement '..UptoSaid' is the law's where the arguments, and the package variables that the reading takes, are together of bulk at most 1048576: NARROWER than '..Said'. Prove '..Said' where nothing that the law and all that it calls make is longer than what came in: it says more and counts as full. Else prove '..UptoSaid'. A law counts once. -/
mutual
def uptoBulk {H : Type} : DataW H → Nat
  | .lit (.string bytes) => bytes.length + 1
  | .lit _ => 1
  | .nil => 1
  | .ptr d => uptoBulk d + 1
  | .slice elems spare => uptoBulkAll elems + uptoBulkAll spare + 1
  | .agg parts => uptoBulkAll parts + 1
  | .iface _ d => uptoBulk d + 1
  | .map entries => uptoBulkEntries entries + 1
  | .held _ => 1
def uptoBulkAll {H : Type} : List (DataW H) → Nat
  | [] => 0
  | d :: r => uptoBulk d + uptoBulkAll r
def uptoBulkEntries {H : Type} : List (Lit × DataW H) → Nat
  | [] => 0
  | x :: r => uptoBulkEntry x + uptoBulkEntries r
def uptoBulkEntry {H : Type} : Lit × DataW H → Nat
  | (.string bytes, d) => bytes.length + uptoBulk d + 1
  | (_, d) => uptoBulk d + 1
 end
def uptoSmall : (H : Type) → List (DataW H) → Bool := fun _ ds => decide (uptoBulkAll ds ≤ 1048576)
def OpenSpec.upto (s : _root_.Go.ChangeSpec) : _root_.Go.OpenSpec := { _root_.Go.OpenSpec.ofChange s with cond := some uptoSmall }

/-- 'bindlelaw11.LinksMembers', WHERE WHAT IT READS IS OF BULK AT MOST 1048576: true; the input reads as it did. -/
def linksMembersUptoRow : OpenClaim := { program := "ytfljbidecljlcaadoor", sum := "aad4bf7c1db60bcfaec226eba5d5ae939718050f4670987acddcab433636764b", func := "bindle/bindlelaw11.LinksMembers", spec := "linksMembers", inPlace := ["internal/bytealg.abigen_runtime_cmpstring", "internal/bytealg.IndexByteString", "internal/bytealg.IndexString", "internal/abi.NoEscape", "internal/bytealg.MakeNoZero"], unfollowed := true, recurses := true, named := ["unicode/utf8.first", "unicode/utf8.acceptRanges", "internal/bytealg.MaxLen"], apart := false, laid := [("unicode/utf8.acceptRanges", laid_unicode_utf8_acceptRanges), ("unicode/utf8.first", laid_unicode_utf8_first)], narrowed := true }
def LinksMembersUptoSaid : Prop := linksMembersUptoRow.holds Tryd.pinned (OpenSpec.upto linksMembersSpec)

/-- 'bindlelaw11.LinksOrder', WHERE WHAT IT READS IS OF BULK AT MOST 1048576: true; the input reads as it did. -/
def linksOrderUptoRow : OpenClaim := { program := "ytfljbidecljlcaadoor", sum := "aad4bf7c1db60bcfaec226eba5d5ae939718050f4670987acddcab433636764b", func := "bindle/bindlelaw11.LinksOrder", spec := "linksOrder", inPlace := ["internal/bytealg.abigen_runtime_cmpstring", "internal/bytealg.IndexByteString", "internal/bytealg.IndexString", "internal/abi.NoEscape", "internal/bytealg.MakeNoZero"], unfollowed := true, recurses := true, named := ["unicode/utf8.first", "unicode/utf8.acceptRanges", "internal/bytealg.MaxLen"], apart := false, laid := [("unicode/utf8.acceptRanges", laid_unicode_utf8_acceptRanges), ("unicode/utf8.first", laid_unicode_utf8_first)], narrowed := true }
def LinksOrderUptoSaid : Prop := linksOrderUptoRow.holds Tryd.pinned (OpenSpec.upto linksOrderSpec)

/-- 'bindlelaw11.LinksSound', WHERE WHAT IT READS IS OF BULK AT MOST 1048576: true; the input reads as it did. -/
def linksSoundUptoRow : OpenClaim := { program := "ytfljbidecljlcaadoor", sum := "aad4bf7c1db60bcfaec226eba5d5ae939718050f4670987acddcab433636764b", func := "bindle/bindlelaw11.LinksSound", spec := "linksSound", inPlace := ["internal/bytealg.abigen_runtime_cmpstring", "internal/bytealg.IndexByteString", "internal/bytealg.IndexString", "internal/abi.NoEscape", "internal/bytealg.MakeNoZero"], unfollowed := true, recurses := true, named := ["unicode/utf8.first", "unicode/utf8.acceptRanges", "internal/bytealg.MaxLen"], apart := false, laid := [("unicode/utf8.acceptRanges", laid_unicode_utf8_acceptRanges), ("unicode/utf8.first", laid_unicode_utf8_first)], narrowed := true }
def LinksSoundUptoSaid : Prop := linksSoundUptoRow.holds Tryd.pinned (OpenSpec.upto linksSoundSpec)

/-- 'bindlelaw11.LinksClasses', WHERE WHAT IT READS IS OF BULK AT MOST 1048576: true; the input reads as it did. -/
def linksClassesUptoRow : OpenClaim := { program := "ytfljbidecljlcaadoor", sum := "aad4bf7c1db60bcfaec226eba5d5ae939718050f4670987acddcab433636764b", func := "bindle/bindlelaw11.LinksClasses", spec := "linksClasses", inPlace := ["internal/bytealg.abigen_runtime_cmpstring", "internal/bytealg.IndexByteString", "internal/bytealg.IndexString", "internal/abi.NoEscape", "internal/bytealg.MakeNoZero"], unfollowed := true, recurses := true, named := ["unicode/utf8.first", "unicode/utf8.acceptRanges", "internal/bytealg.MaxLen"], apart := false, laid := [("unicode/utf8.acceptRanges", laid_unicode_utf8_acceptRanges), ("unicode/utf8.first", laid_unicode_utf8_first)], narrowed := true }
def LinksClassesUptoSaid : Prop := linksClassesUptoRow.holds Tryd.pinned (OpenSpec.upto linksClassesSpec)

/-- 'bindlelaw11.LinksFirst', WHERE WHAT IT READS IS OF BULK AT MOST 1048576: true; the input reads as it did. -/
def linksFirstUptoRow : OpenClaim := { program := "ytfljbidecljlcaadoor", sum := "aad4bf7c1db60bcfaec226eba5d5ae939718050f4670987acddcab433636764b", func := "bindle/bindlelaw11.LinksFirst", spec := "linksFirst", inPlace := ["internal/bytealg.abigen_runtime_cmpstring", "internal/bytealg.IndexByteString", "internal/bytealg.IndexString", "internal/abi.NoEscape", "internal/bytealg.MakeNoZero"], unfollowed := true, recurses := true, named := ["unicode/utf8.first", "unicode/utf8.acceptRanges", "internal/bytealg.MaxLen"], apart := false, laid := [("unicode/utf8.acceptRanges", laid_unicode_utf8_acceptRanges), ("unicode/utf8.first", laid_unicode_utf8_first)], narrowed := true }
def LinksFirstUptoSaid : Prop := linksFirstUptoRow.holds Tryd.pinned (OpenSpec.upto linksFirstSpec)

/-- 'bindlelaw10.TreeFolds', WHERE WHAT IT READS IS OF BULK AT MOST 1048576: true; the input reads as it did. -/
def treeFoldsUptoRow : OpenClaim := { program := "ytfljbidecljlcaadoor", sum := "aad4bf7c1db60bcfaec226eba5d5ae939718050f4670987acddcab433636764b", func := "bindle/bindlelaw10.TreeFolds", spec := "treeFolds", inPlace := ["internal/bytealg.IndexByteString", "internal/bytealg.IndexString", "internal/abi.NoEscape", "internal/bytealg.MakeNoZero", "internal/bytealg.abigen_runtime_cmpstring"], unfollowed := true, recurses := true, named := ["unicode/utf8.first", "unicode/utf8.acceptRanges", "internal/bytealg.MaxLen"], apart := false, laid := [("unicode/utf8.acceptRanges", laid_unicode_utf8_acceptRanges), ("unicode/utf8.first", laid_unicode_utf8_first)], narrowed := true }
def TreeFoldsUptoSaid : Prop := treeFoldsUptoRow.holds Tryd.pinned (OpenSpec.upto treeFoldsSpec)

/-- 'bindlelaw10.TreeGood', WHERE WHAT IT READS IS OF BULK AT MOST 1048576: true; the input reads as it did. -/
def treeGoodUptoRow : OpenClaim := { program := "ytfljbidecljlcaadoor", sum := "aad4bf7c1db60bcfaec226eba5d5ae939718050f4670987acddcab433636764b", func := "bindle/bindlelaw10.TreeGood", spec := "treeGood", inPlace := ["internal/bytealg.IndexByteString", "internal/bytealg.IndexString", "internal/abi.NoEscape", "internal/bytealg.MakeNoZero", "internal/bytealg.abigen_runtime_cmpstring"], unfollowed := true, recurses := true, named := ["unicode/utf8.first", "unicode/utf8.acceptRanges", "internal/bytealg.MaxLen"], apart := false, laid := [("unicode/utf8.acceptRanges", laid_unicode_utf8_acceptRanges), ("unicode/utf8.first", laid_unicode_utf8_first)], narrowed := true }
def TreeGoodUptoSaid : Prop := treeGoodUptoRow.holds Tryd.pinned (OpenSpec.upto treeGoodSpec)

/-- 'bindlelaw10.TreeLast', WHERE WHAT IT READS IS OF BULK AT MOST 1048576: true; the input reads as it did. -/
def treeLastUptoRow : OpenClaim := { program := "ytfljbidecljlcaadoor", sum := "aad4bf7c1db60bcfaec226eba5d5ae939718050f4670987acddcab433636764b", func := "bindle/bindlelaw10.TreeLast", spec := "treeLast", inPlace := ["internal/bytealg.IndexByteString", "internal/bytealg.IndexString", "internal/abi.NoEscape", "internal/bytealg.MakeNoZero", "internal/bytealg.abigen_runtime_cmpstring"], unfollowed := true, recurses := true, named := ["unicode/utf8.first", "unicode/utf8.acceptRanges", "internal/bytealg.MaxLen"], apart := false, laid := [("unicode/utf8.acceptRanges", laid_unicode_utf8_acceptRanges), ("unicode/utf8.first", laid_unicode_utf8_first)], narrowed := true }
def TreeLastUptoSaid : Prop := treeLastUptoRow.holds Tryd.pinned (OpenSpec.upto treeLastSpec)

/-- 'bindlelaw10.TreeOrder', WHERE WHAT IT READS IS OF BULK AT MOST 1048576: true; the input reads as it did. -/
def treeOrderUptoRow : OpenClaim := { program := "ytfljbidecljlcaadoor", sum := "aad4bf7c1db60bcfaec226eba5d5ae939718050f4670987acddcab433636764b", func := "bindle/bindlelaw10.TreeOrder", spec := "treeOrder", inPlace := ["internal/bytealg.IndexByteString", "internal/bytealg.IndexString", "internal/abi.NoEscape", "internal/bytealg.MakeNoZero", "internal/bytealg.abigen_runtime_cmpstring"], unfollowed := true, recurses := true, named := ["unicode/utf8.first", "unicode/utf8.acceptRanges", "internal/bytealg.MaxLen"], apart := false, laid := [("unicode/utf8.acceptRanges", laid_unicode_utf8_acceptRanges), ("unicode/utf8.first", laid_unicode_utf8_first)], narrowed := true }
def TreeOrderUptoSaid : Prop := treeOrderUptoRow.holds Tryd.pinned (OpenSpec.upto treeOrderSpec)

/-- 'bindlelaw10.TreeFinds', WHERE WHAT IT READS IS OF BULK AT MOST 1048576: true; the input reads as it did. -/
def treeFindsUptoRow : OpenClaim := { program := "ytfljbidecljlcaadoor", sum := "aad4bf7c1db60bcfaec226eba5d5ae939718050f4670987acddcab433636764b", func := "bindle/bindlelaw10.TreeFinds", spec := "treeFinds", inPlace := ["internal/bytealg.IndexByteString", "internal/bytealg.IndexString", "internal/abi.NoEscape", "internal/bytealg.MakeNoZero", "internal/bytealg.abigen_runtime_cmpstring"], unfollowed := true, recurses := true, named := ["unicode/utf8.first", "unicode/utf8.acceptRanges", "internal/bytealg.MaxLen"], apart := false, laid := [("unicode/utf8.acceptRanges", laid_unicode_utf8_acceptRanges), ("unicode/utf8.first", laid_unicode_utf8_first)], narrowed := true }
def TreeFindsUptoSaid : Prop := treeFindsUptoRow.holds Tryd.pinned (OpenSpec.upto treeFindsSpec)

/-- 'bindlelaw11.LinksBack', WHERE WHAT IT READS IS OF BULK AT MOST 1048576: true; the input reads as it did. -/
def linksBackUptoRow : OpenClaim := { program := "ytfljbidecljlcaadoor", sum := "aad4bf7c1db60bcfaec226eba5d5ae939718050f4670987acddcab433636764b", func := "bindle/bindlelaw11.LinksBack", spec := "linksBack", inPlace := ["internal/bytealg.abigen_runtime_cmpstring", "internal/bytealg.IndexByteString", "internal/bytealg.IndexString", "internal/abi.NoEscape", "internal/bytealg.MakeNoZero"], unfollowed := true, recurses := true, named := ["unicode/utf8.first", "unicode/utf8.acceptRanges", "internal/bytealg.MaxLen"], apart := false, laid := [("unicode/utf8.acceptRanges", laid_unicode_utf8_acceptRanges), ("unicode/utf8.first", laid_unicode_utf8_first)], narrowed := true }
def LinksBackUptoSaid : Prop := linksBackUptoRow.holds Tryd.pinned (OpenSpec.upto linksBackSpec)

end Rows
end Go.Proofs.YtfljbidecljlcaaDoor
