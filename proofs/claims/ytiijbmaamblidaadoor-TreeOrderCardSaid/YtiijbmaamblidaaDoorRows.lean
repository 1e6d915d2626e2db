/-
  NARROWER THAN 'FOR EVERY INPUT', by the rows' own cells (each row's printed sentence says how): TreeLast: laid · TreeOrder: laid · FlatSound: laid · FlatOrders: laid.
  DERIVED. THE GIVEN ROWS OF THIS SEAT. 4 by the template 'for every input the law returns true; each argument reads behind the call as it read before'; 0 by the template 'total and deterministic' (their statements: YtiijbmaamblidaaDoorTotals.lean).
  GIVEN WITH THE SEED: the statements are not yours to turn. If you find one false, say at which input.
  Laid BY PROGRAM, IN A SANDBOX (cutbox-rows.mjs): the forced cells as the released guide's own fill.sh prints them over the translation 1e7d3de9fd5d2863… (all of the seat's roots in one cut). By AI agents, Wed Nov 11 2026. No macro, syntax, notation, axiom, sorry.
-/
import Derived.Test.YtiijbmaamblidaaDoorChecked
import GoSem.PinnedTables
import GoSem.Claim
import GoSem.ClaimJoined
import GoSem.ClaimMapViews
import Derived.JoinedTies
import Derived.KernelRfl
namespace Go.Proofs.YtiijbmaamblidaaDoor
/- THE CELL 'sum', in the pinned program and in every row, IS THE sha256 OF THE DUMP (.gsa) THAT YtiijbmaamblidaaDoorProg.lean LOADS. Nothing in Lean hashes anything: it is a label: what it is worth is what the hold of that sum in a sandbox is worth. -/
noncomputable def Tryd.pinned : Pinned := { name := "ytiijbmaamblidaadoor", sum := "1e7d3de9fd5d2863907dd8c407626fd69c46f9e58eeb7826d8203ceaf86b7c72", checked := Tryd.checked }
namespace Rows
def none {H : Type} : Left H := { results := [], args := [] }

/- WHAT THE LISTED PACKAGE-LEVEL VARIABLES READ AS WHEN THE CALL BEGINS. Each datum BY PROGRAM (the guide's laid-datum.mjs) off the statement by which the dump's own 'gosem.cut.vars' lays the variable. In a bare row this is a premise. The card (YtiijbmaamblidaaDoorCards.lean) ties it to the program's text. -/
def laid_unicode_utf8_acceptRanges {H : Type} : DataW H := .agg [.agg [.lit (.int .u8 128), .lit (.int .u8 191)], .agg [.lit (.int .u8 160), .lit (.int .u8 191)], .agg [.lit (.int .u8 128), .lit (.int .u8 159)], .agg [.lit (.int .u8 144), .lit (.int .u8 191)], .agg [.lit (.int .u8 128), .lit (.int .u8 143)], .agg [.lit (.int .u8 0), .lit (.int .u8 0)], .agg [.lit (.int .u8 0), .lit (.int .u8 0)], .agg [.lit (.int .u8 0), .lit (.int .u8 0)], .agg [.lit (.int .u8 0), .lit (.int .u8 0)], .agg [.lit (.int .u8 0), .lit (.int .u8 0)], .agg [.lit (.int .u8 0), .lit (.int .u8 0)], .agg [.lit (.int .u8 0), .lit (.int .u8 0)], .agg [.lit (.int .u8 0), .lit (.int .u8 0)], .agg [.lit (.int .u8 0), .lit (.int .u8 0)], .agg [.lit (.int .u8 0), .lit (.int .u8 0)], .agg [.lit (.int .u8 0), .lit (.int .u8 0)]]
/-- One of Go's own tables, pinned by name: the form's constant. -/
def laid_unicode_utf8_first : DataW Unit := Go.Pinned.utf8First

/-- 'bindlelaw10.TreeLast': WHATEVER THE INPUT: true; the input reads as it did. -/
def treeLastSpec : ChangeSpec := { name := "treeLast", fn := fun _ => fun
  | [d1, d2] => { results := [.lit (.bool true)], args := [d1, d2] }
  | _ => none }
def treeLastRow : OpenClaim := { program := "ytiijbmaamblidaadoor", sum := "1e7d3de9fd5d2863907dd8c407626fd69c46f9e58eeb7826d8203ceaf86b7c72", func := "bindle/bindlelaw10.TreeLast", spec := "treeLast", inPlace := ["internal/bytealg.IndexByteString", "internal/bytealg.IndexString", "internal/abi.NoEscape", "internal/bytealg.MakeNoZero", "internal/bytealg.abigen_runtime_cmpstring"], unfollowed := true, recurses := true, named := ["unicode/utf8.first", "unicode/utf8.acceptRanges", "internal/bytealg.MaxLen"], apart := false, laid := [("unicode/utf8.acceptRanges", laid_unicode_utf8_acceptRanges), ("unicode/utf8.first", laid_unicode_utf8_first)] }
def TreeLastSaid : Prop := treeLastRow.holds Tryd.pinned (OpenSpec.ofChange treeLastSpec)

/-- ITS FALSE NEIGHBOUR: 'it returns false'. Refute it at one input. -/
def treeLastWrong : ChangeSpec := { name := "treeLast", fn := fun _ => fun
  | [d1, d2] => { results := [.lit (.bool false)], args := [d1, d2] }
  | _ => none }
def TreeLastWrongFalsely : Prop := treeLastRow.holds Tryd.pinned (OpenSpec.ofChange treeLastWrong)

/-- 'bindlelaw10.TreeOrder': WHATEVER THE INPUT: true; the input reads as it did. -/
def treeOrderSpec : ChangeSpec := { name := "treeOrder", fn := fun _ => fun
  | [d1, d2] => { results := [.lit (.bool true)], args := [d1, d2] }
  | _ => none }
def treeOrderRow : OpenClaim := { program := "ytiijbmaamblidaadoor", sum := "1e7d3de9fd5d2863907dd8c407626fd69c46f9e58eeb7826d8203ceaf86b7c72", func := "bindle/bindlelaw10.TreeOrder", spec := "treeOrder", inPlace := ["internal/bytealg.IndexByteString", "internal/bytealg.IndexString", "internal/abi.NoEscape", "internal/bytealg.MakeNoZero", "internal/bytealg.abigen_runtime_cmpstring"], unfollowed := true, recurses := true, named := ["unicode/utf8.first", "unicode/utf8.acceptRanges", "internal/bytealg.MaxLen"], apart := false, laid := [("unicode/utf8.acceptRanges", laid_unicode_utf8_acceptRanges), ("unicode/utf8.first", laid_unicode_utf8_first)] }
def TreeOrderSaid : Prop := treeOrderRow.holds Tryd.pinned (OpenSpec.ofChange treeOrderSpec)

/-- ITS FALSE NEIGHBOUR: 'it returns false'. Refute it at one input. -/
def treeOrderWrong : ChangeSpec := { name := "treeOrder", fn := fun _ => fun
  | [d1, d2] => { results := [.lit (.bool false)], args := [d1, d2] }
  | _ => none }
def TreeOrderWrongFalsely : Prop := treeOrderRow.holds Tryd.pinned (OpenSpec.ofChange treeOrderWrong)

/-- 'bindlelaw18.FlatSound': WHATEVER THE INPUT: true; the input reads as it did. -/
def flatSoundSpec : ChangeSpec := { name := "flatSound", fn := fun _ => fun
  | [d] => { results := [.lit (.bool true)], args := [d] }
  | _ => none }
def flatSoundRow : OpenClaim := { program := "ytiijbmaamblidaadoor", sum := "1e7d3de9fd5d2863907dd8c407626fd69c46f9e58eeb7826d8203ceaf86b7c72", func := "bindle/bindlelaw18.FlatSound", spec := "flatSound", inPlace := ["internal/bytealg.IndexByteString", "internal/bytealg.IndexString", "internal/abi.NoEscape", "internal/bytealg.MakeNoZero", "internal/bytealg.abigen_runtime_cmpstring"], unfollowed := true, recurses := true, named := ["unicode/utf8.first", "unicode/utf8.acceptRanges", "internal/bytealg.MaxLen"], apart := false, laid := [("unicode/utf8.acceptRanges", laid_unicode_utf8_acceptRanges), ("unicode/utf8.first", laid_unicode_utf8_first)] }
def FlatSoundSaid : Prop := flatSoundRow.holds Tryd.pinned (OpenSpec.ofChange flatSoundSpec)

/-- ITS FALSE NEIGHBOUR: 'it returns false'. Refute it at one input. -/
def flatSoundWrong : ChangeSpec := { name := "flatSound", fn := fun _ => fun
  | [d] => { results := [.lit (.bool false)], args := [d] }
  | _ => none }
def FlatSoundWrongFalsely : Prop := flatSoundRow.holds Tryd.pinned (OpenSpec.ofChange flatSoundWrong)

/-- 'bindlelaw18.FlatOrders': WHATEVER THE INPUT: true; the input reads as it did. -/
def flatOrdersSpec : ChangeSpec := { name := "flatOrders", fn := fun _ => fun
  | [d] => { results := [.lit (.bool true)], args := [d] }
  | _ => none }
def flatOrdersRow : OpenClaim := { program := "ytiijbmaamblidaadoor", sum := "1e7d3de9fd5d2863907dd8c407626fd69c46f9e58eeb7826d8203ceaf86b7c72", func := "bindle/bindlelaw18.FlatOrders", spec := "flatOrders", inPlace := ["internal/bytealg.IndexByteString", "internal/bytealg.IndexString", "internal/abi.NoEscape", "internal/bytealg.MakeNoZero", "internal/bytealg.abigen_runtime_cmpstring"], unfollowed := true, recurses := true, named := ["unicode/utf8.first", "unicode/utf8.acceptRanges", "internal/bytealg.MaxLen"], apart := false, laid := [("unicode/utf8.acceptRanges", laid_unicode_utf8_acceptRanges), ("unicode/utf8.first", laid_unicode_utf8_first)] }
def FlatOrdersSaid : Prop := flatOrdersRow.holds Tryd.pinned (OpenSpec.ofChange flatOrdersSpec)

/-- ITS FALSE NEIGHBOUR: 'it returns false'. Refute it at one input. -/
def flatOrdersWrong : ChangeSpec := { name := "flatOrders", fn := fun _ => fun
  | [d] => { results := [.lit (.bool false)], args := [d] }
  | _ => none }
def FlatOrdersWrongFalsely : Prop := flatOrdersRow.holds Tryd.pinned (OpenSpec.ofChange flatOrdersWrong)

/- THE SECOND FORM. 'bulk': how many values and letters a reading holds, each counted each time it is reached (what is shared counts as often as it is met; a slice's spare places count too). A statement '..UptoSaid' is the law's where the arguments, and the package variables that the reading takes, are together of bulk at most 1048576: NARROWER than '..Said'. Prove '..Said' where nothing that the law and all that it calls make is longer than what came in: it says more and counts as full. Else prove '..UptoSaid'. A law counts once. -/
mutual
def uptoBulk {H : Type} : DataW H → Nat
  | .lit (.string bytes) => bytes.length + 1
  | .lit _ => 1
  | .nil => 1
  | .ptr d => uptoBulk d + 1
  | .slice elems spare => uptoBulkAll elems + uptoBulkAll spare + 1
  | .agg parts => uptoBulkAll parts + 1
  | .iface _ d => uptoBulk d + 1
  | .map entries => uptoBulkEntries entries + 1
  | .held _ => 1
def uptoBulkAll {H : Type} : List (DataW H) → Nat
  | [] => 0
  | d :: r => uptoBulk d + uptoBulkAll r
def uptoBulkEntries {H : Type} : List (Lit × DataW H) → Nat
  | [] => 0
  | x :: r => uptoBulkEntry x + uptoBulkEntries r
def uptoBulkEntry {H : Type} : Lit × DataW H → Nat
  | (.string bytes, d) => bytes.length + uptoBulk d + 1
  | (_, d) => uptoBulk d + 1
 end
def uptoSmall : (H : Type) → List (DataW H) → Bool := fun _ ds => decide (uptoBulkAll ds ≤ 1048576)
def OpenSpec.upto (s : _root_.Go.ChangeSpec) : _root_.Go.OpenSpec := { _root_.Go.OpenSpec.ofChange s with cond := some uptoSmall }

/-- 'bindlelaw10.TreeLast', WHERE WHAT IT READS IS OF BULK AT MOST 1048576: true; the input reads as it did. -/
def treeLastUptoRow : OpenClaim := { program := "ytiijbmaamblidaadoor", sum := "1e7d3de9fd5d2863907dd8c407626fd69c46f9e58eeb7826d8203ceaf86b7c72", func := "bindle/bindlelaw10.TreeLast", spec := "treeLast", inPlace := ["internal/bytealg.IndexByteString", "internal/bytealg.IndexString", "internal/abi.NoEscape", "internal/bytealg.MakeNoZero", "internal/bytealg.abigen_runtime_cmpstring"], unfollowed := true, recurses := true, named := ["unicode/utf8.first", "unicode/utf8.acceptRanges", "internal/bytealg.MaxLen"], apart := false, laid := [("unicode/utf8.acceptRanges", laid_unicode_utf8_acceptRanges), ("unicode/utf8.first", laid_unicode_utf8_first)], narrowed := true }
def TreeLastUptoSaid : Prop := treeLastUptoRow.holds Tryd.pinned (OpenSpec.upto treeLastSpec)

/-- 'bindlelaw10.TreeOrder', WHERE WHAT IT READS IS OF BULK AT MOST 1048576: true; the input reads as it did. -/
def treeOrderUptoRow : OpenClaim := { program := "ytiijbmaamblidaadoor", sum := "1e7d3de9fd5d2863907dd8c407626fd69c46f9e58eeb7826d8203ceaf86b7c72", func := "bindle/bindlelaw10.TreeOrder", spec := "treeOrder", inPlace := ["internal/bytealg.IndexByteString", "internal/bytealg.IndexString", "internal/abi.NoEscape", "internal/bytealg.MakeNoZero", "internal/bytealg.abigen_runtime_cmpstring"], unfollowed := true, recurses := true, named := ["unicode/utf8.first", "unicode/utf8.acceptRanges", "internal/bytealg.MaxLen"], apart := false, laid := [("unicode/utf8.acceptRanges", laid_unicode_utf8_acceptRanges), ("unicode/utf8.first", laid_unicode_utf8_first)], narrowed := true }
def TreeOrderUptoSaid : Prop := treeOrderUptoRow.holds Tryd.pinned (OpenSpec.upto treeOrderSpec)

/-- 'bindlelaw18.FlatSound', WHERE WHAT IT READS IS OF BULK AT MOST 1048576: true; the input reads as it did. -/
def flatSoundUptoRow : OpenClaim := { program := "ytiijbmaamblidaadoor", sum := "1e7d3de9fd5d2863907dd8c407626fd69c46f9e58eeb7826d8203ceaf86b7c72", func := "bindle/bindlelaw18.FlatSound", spec := "flatSound", inPlace := ["internal/bytealg.IndexByteString", "internal/bytealg.IndexString", "internal/abi.NoEscape", "internal/bytealg.MakeNoZero", "internal/bytealg.abigen_runtime_cmpstring"], unfollowed := true, recurses := true, named := ["unicode/utf8.first", "unicode/utf8.acceptRanges", "internal/bytealg.MaxLen"], apart := false, laid := [("unicode/utf8.acceptRanges", laid_unicode_utf8_acceptRanges), ("unicode/utf8.first", laid_unicode_utf8_first)], narrowed := true }
def FlatSoundUptoSaid : Prop := flatSoundUptoRow.holds Tryd.pinned (OpenSpec.upto flatSoundSpec)

/-- 'bindlelaw18.FlatOrders', WHERE WHAT IT READS IS OF BULK AT MOST 1048576: true; the input reads as it did. -/
def flatOrdersUptoRow : OpenClaim := { program := "ytiijbmaamblidaadoor", sum := "1e7d3de9fd5d2863907dd8c407626fd69c46f9e58eeb7826d8203ceaf86b7c72", func := "bindle/bindlelaw18.FlatOrders", spec := "flatOrders", inPlace := ["internal/bytealg.IndexByteString", "internal/bytealg.IndexString", "internal/abi.NoEscape", "internal/bytealg.MakeNoZero", "internal/bytealg.abigen_runtime_cmpstring"], unfollowed := true, recurses := true, named := ["unicode/utf8.first", "unicode/utf8.acceptRanges", "internal/bytealg.MaxLen"], apart := false, laid := [("unicode/utf8.acceptRanges", laid_unicode_utf8_acceptRanges), ("unicode/utf8.first", laid_unicode_utf8_first)], narrowed := true }
def FlatOrdersUptoSaid : Prop := flatOrdersUptoRow.holds Tryd.pinned (OpenSpec.upto flatOrdersSpec)

end Rows
end Go.Proofs.YtiijbmaamblidaaDoor
