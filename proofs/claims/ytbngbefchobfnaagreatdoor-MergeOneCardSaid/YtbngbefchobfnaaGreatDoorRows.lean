/-
  NARROWER THAN 'FOR EVERY INPUT', by the rows' own cells (each row's printed sentence says how): MergeConflicts: laid · MergeMerges: laid · MergeFails: laid · MergeSides: laid · MergeOne: laid · MergeApart: laid.
  DERIVED. THE GIVEN ROWS OF THIS SEAT. 6 by the template 'for every input the law returns true; each argument reads behind the call as it read before'; 0 by the template 'total and deterministic' (their statements: YtbngbefchobfnaaGreatDoorTotals.lean).
  GIVEN WITH THE SEED: the statements are not yours to turn. If you find one false, say at which input.
  Laid BY PROGRAM, IN A SANDBOX (cutbox-rows.mjs): the forced cells as the released guide's own fill.sh prints them over the translation 35c4b1ec0406b8e8… (all of the seat's roots in one cut). By AI agents, Wed Nov 11 2026. No macro, syntax, notation, axiom, sorry.
-/
import Derived.Test.YtbngbefchobfnaaGreatDoorChecked
import GoSem.PinnedTables
import GoSem.Claim
import GoSem.ClaimJoined
import GoSem.ClaimMapViews
import Derived.JoinedTies
import Derived.KernelRfl
namespace Go.Proofs.YtbngbefchobfnaaGreatDoor
/- THE CELL 'sum', in the pinned program and in every row, IS THE sha256 OF THE DUMP (.gsa) THAT YtbngbefchobfnaaGreatDoorProg.lean LOADS. Nothing in Lean hashes anything: it is a label: what it is worth is what the hold of that sum in a sandbox is worth. -/
noncomputable def Tryz.pinned : Pinned := { name := "ytbngbefchobfnaagreatdoor", sum := "35c4b1ec0406b8e86078658481539371df554bcd6e600b98a0dc8104a3de8886", checked := Tryz.checked }
namespace Rows
def none {H : Type} : Left H := { results := [], args := [] }

/- WHAT THE LISTED PACKAGE-LEVEL VARIABLES READ AS WHEN THE CALL BEGINS. Each datum BY PROGRAM (the guide's laid-datum.mjs) off the statement by which the dump's own 'gosem.cut.vars' lays the variable. In a bare row this is a premise. The card (YtbngbefchobfnaaGreatDoorCards.lean) ties it to the program's text. -/
def laid_unicode_utf8_acceptRanges {H : Type} : DataW H := .agg [.agg [.lit (.int .u8 128), .lit (.int .u8 191)], .agg [.lit (.int .u8 160), .lit (.int .u8 191)], .agg [.lit (.int .u8 128), .lit (.int .u8 159)], .agg [.lit (.int .u8 144), .lit (.int .u8 191)], .agg [.lit (.int .u8 128), .lit (.int .u8 143)], .agg [.lit (.int .u8 0), .lit (.int .u8 0)], .agg [.lit (.int .u8 0), .lit (.int .u8 0)], .agg [.lit (.int .u8 0), .lit (.int .u8 0)], .agg [.lit (.int .u8 0), .lit (.int .u8 0)], .agg [.lit (.int .u8 0), .lit (.int .u8 0)], .agg [.lit (.int .u8 0), .lit (.int .u8 0)], .agg [.lit (.int .u8 0), .lit (.int .u8 0)], .agg [.lit (.int .u8 0), .lit (.int .u8 0)], .agg [.lit (.int .u8 0), .lit (.int .u8 0)], .agg [.lit (.int .u8 0), .lit (.int .u8 0)], .agg [.lit (.int .u8 0), .lit (.int .u8 0)]]
def laid_bindle_merge_ends {H : Type} : DataW H := .agg [.lit (.string []), .lit (.string [46, 111, 117, 114, 115]), .lit (.string [46, 116, 104, 101, 105, 114, 115])]
/-- One of Go's own tables, pinned by name: the form's constant. -/
def laid_unicode_utf8_first : DataW Unit := Go.Pinned.utf8First

/-- 'bindlelaw21.MergeConflicts': WHATEVER THE INPUT: true; the input reads as it did. -/
def mergeConflictsSpec : ChangeSpec := { name := "mergeConflicts", fn := fun _ => fun
  | [d1, d2, d3] => { results := [.lit (.bool true)], args := [d1, d2, d3] }
  | _ => none }
def mergeConflictsRow : OpenClaim := { program := "ytbngbefchobfnaagreatdoor", sum := "35c4b1ec0406b8e86078658481539371df554bcd6e600b98a0dc8104a3de8886", func := "bindle/bindlelaw21.MergeConflicts", spec := "mergeConflicts", inPlace := ["internal/bytealg.IndexByteString", "internal/bytealg.IndexString", "internal/abi.NoEscape", "internal/bytealg.MakeNoZero", "internal/bytealg.abigen_runtime_cmpstring"], unfollowed := true, recurses := true, named := ["unicode/utf8.first", "unicode/utf8.acceptRanges", "internal/bytealg.MaxLen", "bindle/merge.ends"], plainKeys := false, apart := false, laid := [("unicode/utf8.acceptRanges", laid_unicode_utf8_acceptRanges), ("bindle/merge.ends", laid_bindle_merge_ends), ("unicode/utf8.first", laid_unicode_utf8_first)] }
def MergeConflictsSaid : Prop := mergeConflictsRow.holds Tryz.pinned (OpenSpec.ofChange mergeConflictsSpec)

/-- ITS FALSE NEIGHBOUR: 'it returns false'. Refute it at one input. -/
def mergeConflictsWrong : ChangeSpec := { name := "mergeConflicts", fn := fun _ => fun
  | [d1, d2, d3] => { results := [.lit (.bool false)], args := [d1, d2, d3] }
  | _ => none }
def MergeConflictsWrongFalsely : Prop := mergeConflictsRow.holds Tryz.pinned (OpenSpec.ofChange mergeConflictsWrong)

/-- 'bindlelaw21.MergeMerges': WHATEVER THE INPUT: true; the input reads as it did. -/
def mergeMergesSpec : ChangeSpec := { name := "mergeMerges", fn := fun _ => fun
  | [d1, d2, d3, d4] => { results := [.lit (.bool true)], args := [d1, d2, d3, d4] }
  | _ => none }
def mergeMergesRow : OpenClaim := { program := "ytbngbefchobfnaagreatdoor", sum := "35c4b1ec0406b8e86078658481539371df554bcd6e600b98a0dc8104a3de8886", func := "bindle/bindlelaw21.MergeMerges", spec := "mergeMerges", inPlace := ["internal/bytealg.IndexByteString", "internal/bytealg.IndexString", "internal/abi.NoEscape", "internal/bytealg.MakeNoZero", "internal/bytealg.abigen_runtime_cmpstring"], unfollowed := true, recurses := true, named := ["unicode/utf8.first", "unicode/utf8.acceptRanges", "internal/bytealg.MaxLen", "bindle/merge.ends"], plainKeys := false, apart := false, laid := [("unicode/utf8.acceptRanges", laid_unicode_utf8_acceptRanges), ("bindle/merge.ends", laid_bindle_merge_ends), ("unicode/utf8.first", laid_unicode_utf8_first)] }
def MergeMergesSaid : Prop := mergeMergesRow.holds Tryz.pinned (OpenSpec.ofChange mergeMergesSpec)

/-- ITS FALSE NEIGHBOUR: 'it returns false'. Refute it at one input. -/
def mergeMergesWrong : ChangeSpec := { name := "mergeMerges", fn := fun _ => fun
  | [d1, d2, d3, d4] => { results := [.lit (.bool false)], args := [d1, d2, d3, d4] }
  | _ => none }
def MergeMergesWrongFalsely : Prop := mergeMergesRow.holds Tryz.pinned (OpenSpec.ofChange mergeMergesWrong)

/-- 'bindlelaw21.MergeFails': WHATEVER THE INPUT: true; the input reads as it did. -/
def mergeFailsSpec : ChangeSpec := { name := "mergeFails", fn := fun _ => fun
  | [d1, d2, d3] => { results := [.lit (.bool true)], args := [d1, d2, d3] }
  | _ => none }
def mergeFailsRow : OpenClaim := { program := "ytbngbefchobfnaagreatdoor", sum := "35c4b1ec0406b8e86078658481539371df554bcd6e600b98a0dc8104a3de8886", func := "bindle/bindlelaw21.MergeFails", spec := "mergeFails", inPlace := ["internal/bytealg.IndexByteString", "internal/bytealg.IndexString", "internal/abi.NoEscape", "internal/bytealg.MakeNoZero", "internal/bytealg.abigen_runtime_cmpstring"], unfollowed := true, recurses := true, named := ["unicode/utf8.first", "unicode/utf8.acceptRanges", "internal/bytealg.MaxLen", "bindle/merge.ends"], plainKeys := false, apart := false, laid := [("unicode/utf8.acceptRanges", laid_unicode_utf8_acceptRanges), ("bindle/merge.ends", laid_bindle_merge_ends), ("unicode/utf8.first", laid_unicode_utf8_first)] }
def MergeFailsSaid : Prop := mergeFailsRow.holds Tryz.pinned (OpenSpec.ofChange mergeFailsSpec)

/-- ITS FALSE NEIGHBOUR: 'it returns false'. Refute it at one input. -/
def mergeFailsWrong : ChangeSpec := { name := "mergeFails", fn := fun _ => fun
  | [d1, d2, d3] => { results := [.lit (.bool false)], args := [d1, d2, d3] }
  | _ => none }
def MergeFailsWrongFalsely : Prop := mergeFailsRow.holds Tryz.pinned (OpenSpec.ofChange mergeFailsWrong)

/-- 'bindlelaw21.MergeSides': WHATEVER THE INPUT: true; the input reads as it did. -/
def mergeSidesSpec : ChangeSpec := { name := "mergeSides", fn := fun _ => fun
  | [d1, d2, d3] => { results := [.lit (.bool true)], args := [d1, d2, d3] }
  | _ => none }
def mergeSidesRow : OpenClaim := { program := "ytbngbefchobfnaagreatdoor", sum := "35c4b1ec0406b8e86078658481539371df554bcd6e600b98a0dc8104a3de8886", func := "bindle/bindlelaw21.MergeSides", spec := "mergeSides", inPlace := ["internal/bytealg.IndexByteString", "internal/bytealg.IndexString", "internal/abi.NoEscape", "internal/bytealg.MakeNoZero", "internal/bytealg.abigen_runtime_cmpstring"], unfollowed := true, recurses := true, named := ["unicode/utf8.first", "unicode/utf8.acceptRanges", "internal/bytealg.MaxLen", "bindle/merge.ends"], plainKeys := false, apart := false, laid := [("unicode/utf8.acceptRanges", laid_unicode_utf8_acceptRanges), ("bindle/merge.ends", laid_bindle_merge_ends), ("unicode/utf8.first", laid_unicode_utf8_first)] }
def MergeSidesSaid : Prop := mergeSidesRow.holds Tryz.pinned (OpenSpec.ofChange mergeSidesSpec)

/-- ITS FALSE NEIGHBOUR: 'it returns false'. Refute it at one input. -/
def mergeSidesWrong : ChangeSpec := { name := "mergeSides", fn := fun _ => fun
  | [d1, d2, d3] => { results := [.lit (.bool false)], args := [d1, d2, d3] }
  | _ => none }
def MergeSidesWrongFalsely : Prop := mergeSidesRow.holds Tryz.pinned (OpenSpec.ofChange mergeSidesWrong)

/-- 'bindlelaw21.MergeOne': WHATEVER THE INPUT: true; the input reads as it did. -/
def mergeOneSpec : ChangeSpec := { name := "mergeOne", fn := fun _ => fun
  | [d1, d2, d3] => { results := [.lit (.bool true)], args := [d1, d2, d3] }
  | _ => none }
def mergeOneRow : OpenClaim := { program := "ytbngbefchobfnaagreatdoor", sum := "35c4b1ec0406b8e86078658481539371df554bcd6e600b98a0dc8104a3de8886", func := "bindle/bindlelaw21.MergeOne", spec := "mergeOne", inPlace := ["internal/bytealg.IndexByteString", "internal/bytealg.IndexString", "internal/abi.NoEscape", "internal/bytealg.MakeNoZero", "internal/bytealg.abigen_runtime_cmpstring"], unfollowed := true, recurses := true, named := ["unicode/utf8.first", "unicode/utf8.acceptRanges", "internal/bytealg.MaxLen", "bindle/merge.ends"], plainKeys := false, apart := false, laid := [("unicode/utf8.acceptRanges", laid_unicode_utf8_acceptRanges), ("bindle/merge.ends", laid_bindle_merge_ends), ("unicode/utf8.first", laid_unicode_utf8_first)] }
def MergeOneSaid : Prop := mergeOneRow.holds Tryz.pinned (OpenSpec.ofChange mergeOneSpec)

/-- ITS FALSE NEIGHBOUR: 'it returns false'. Refute it at one input. -/
def mergeOneWrong : ChangeSpec := { name := "mergeOne", fn := fun _ => fun
  | [d1, d2, d3] => { results := [.lit (.bool false)], args := [d1, d2, d3] }
  | _ => none }
def MergeOneWrongFalsely : Prop := mergeOneRow.holds Tryz.pinned (OpenSpec.ofChange mergeOneWrong)

/-- 'bindlelaw21.MergeApart': WHATEVER THE INPUT: true; the input reads as it did. -/
def mergeApartSpec : ChangeSpec := { name := "mergeApart", fn := fun _ => fun
  | [d1, d2] => { results := [.lit (.bool true)], args := [d1, d2] }
  | _ => none }
def mergeApartRow : OpenClaim := { program := "ytbngbefchobfnaagreatdoor", sum := "35c4b1ec0406b8e86078658481539371df554bcd6e600b98a0dc8104a3de8886", func := "bindle/bindlelaw21.MergeApart", spec := "mergeApart", inPlace := ["internal/bytealg.IndexByteString", "internal/bytealg.IndexString", "internal/abi.NoEscape", "internal/bytealg.MakeNoZero", "internal/bytealg.abigen_runtime_cmpstring"], unfollowed := true, recurses := true, named := ["unicode/utf8.first", "unicode/utf8.acceptRanges", "internal/bytealg.MaxLen", "bindle/merge.ends"], plainKeys := false, apart := false, laid := [("unicode/utf8.acceptRanges", laid_unicode_utf8_acceptRanges), ("bindle/merge.ends", laid_bindle_merge_ends), ("unicode/utf8.first", laid_unicode_utf8_first)] }
def MergeApartSaid : Prop := mergeApartRow.holds Tryz.pinned (OpenSpec.ofChange mergeApartSpec)

/-- ITS FALSE NEIGHBOUR: 'it returns false'. Refute it at one input. -/
def mergeApartWrong : ChangeSpec := { name := "mergeApart", fn := fun _ => fun
  | [d1, d2] => { results := [.lit (.bool false)], args := [d1, d2] }
  | _ => none }
def MergeApartWrongFalsely : Prop := mergeApartRow.holds Tryz.pinned (OpenSpec.ofChange mergeApartWrong)

/- THE SECOND FORM. 'bulk': how many values and letters a reading holds, each counted each time it is reached (what is shared counts as often as it is met; a slice's spare places count too). A statement '..UptoSaid' is the law's where the arguments, and the package variables that the reading takes, are together of bulk at most 1048576: NARROWER than '..Said'. Prove '..Said' where nothing that the law and all that it calls make is longer than what came in: it says more and counts as full. Else prove '..UptoSaid'. A law counts once. -/
mutual
def uptoBulk {H : Type} : DataW H → Nat
  | .lit (.string bytes) => bytes.length + 1
  | .lit _ => 1
  | .nil => 1
  | .ptr d => uptoBulk d + 1
  | .slice elems spare => uptoBulkAll elems + uptoBulkAll spare + 1
  | .agg parts => uptoBulkAll parts + 1
  | .iface _ d => uptoBulk d + 1
  | .map entries => uptoBulkEntries entries + 1
  | .held _ => 1
def uptoBulkAll {H : Type} : List (DataW H) → Nat
  | [] => 0
  | d :: r => uptoBulk d + uptoBulkAll r
def uptoBulkEntries {H : Type} : List (Lit × DataW H) → Nat
  | [] => 0
  | x :: r => uptoBulkEntry x + uptoBulkEntries r
def uptoBulkEntry {H : Type} : Lit × DataW H → Nat
  | (.string bytes, d) => bytes.length + uptoBulk d + 1
  | (_, d) => uptoBulk d + 1
 end
def uptoSmall : (H : Type) → List (DataW H) → Bool := fun _ ds => decide (uptoBulkAll ds ≤ 1048576)
def OpenSpec.upto (s : _root_.Go.ChangeSpec) : _root_.Go.OpenSpec := { _root_.Go.OpenSpec.ofChange s with cond := some uptoSmall }

/-- 'bindlelaw21.MergeConflicts', WHERE WHAT IT READS IS OF BULK AT MOST 1048576: true; the input reads as it did. -/
def mergeConflictsUptoRow : OpenClaim := { program := "ytbngbefchobfnaagreatdoor", sum := "35c4b1ec0406b8e86078658481539371df554bcd6e600b98a0dc8104a3de8886", func := "bindle/bindlelaw21.MergeConflicts", spec := "mergeConflicts", inPlace := ["internal/bytealg.IndexByteString", "internal/bytealg.IndexString", "internal/abi.NoEscape", "internal/bytealg.MakeNoZero", "internal/bytealg.abigen_runtime_cmpstring"], unfollowed := true, recurses := true, named := ["unicode/utf8.first", "unicode/utf8.acceptRanges", "internal/bytealg.MaxLen", "bindle/merge.ends"], plainKeys := false, apart := false, laid := [("unicode/utf8.acceptRanges", laid_unicode_utf8_acceptRanges), ("bindle/merge.ends", laid_bindle_merge_ends), ("unicode/utf8.first", laid_unicode_utf8_first)], narrowed := true }
def MergeConflictsUptoSaid : Prop := mergeConflictsUptoRow.holds Tryz.pinned (OpenSpec.upto mergeConflictsSpec)

/-- 'bindlelaw21.MergeMerges', WHERE WHAT IT READS IS OF BULK AT MOST 1048576: true; the input reads as it did. -/
def mergeMergesUptoRow : OpenClaim := { program := "ytbngbefchobfnaagreatdoor", sum := "35c4b1ec0406b8e86078658481539371df554bcd6e600b98a0dc8104a3de8886", func := "bindle/bindlelaw21.MergeMerges", spec := "mergeMerges", inPlace := ["internal/bytealg.IndexByteString", "internal/bytealg.IndexString", "internal/abi.NoEscape", "internal/bytealg.MakeNoZero", "internal/bytealg.abigen_runtime_cmpstring"], unfollowed := true, recurses := true, named := ["unicode/utf8.first", "unicode/utf8.acceptRanges", "internal/bytealg.MaxLen", "bindle/merge.ends"], plainKeys := false, apart := false, laid := [("unicode/utf8.acceptRanges", laid_unicode_utf8_acceptRanges), ("bindle/merge.ends", laid_bindle_merge_ends), ("unicode/utf8.first", laid_unicode_utf8_first)], narrowed := true }
def MergeMergesUptoSaid : Prop := mergeMergesUptoRow.holds Tryz.pinned (OpenSpec.upto mergeMergesSpec)

/-- 'bindlelaw21.MergeFails', WHERE WHAT IT READS IS OF BULK AT MOST 1048576: true; the input reads as it did. -/
def mergeFailsUptoRow : OpenClaim := { program := "ytbngbefchobfnaagreatdoor", sum := "35c4b1ec0406b8e86078658481539371df554bcd6e600b98a0dc8104a3de8886", func := "bindle/bindlelaw21.MergeFails", spec := "mergeFails", inPlace := ["internal/bytealg.IndexByteString", "internal/bytealg.IndexString", "internal/abi.NoEscape", "internal/bytealg.MakeNoZero", "internal/bytealg.abigen_runtime_cmpstring"], unfollowed := true, recurses := true, named := ["unicode/utf8.first", "unicode/utf8.acceptRanges", "internal/bytealg.MaxLen", "bindle/merge.ends"], plainKeys := false, apart := false, laid := [("unicode/utf8.acceptRanges", laid_unicode_utf8_acceptRanges), ("bindle/merge.ends", laid_bindle_merge_ends), ("unicode/utf8.first", laid_unicode_utf8_first)], narrowed := true }
def MergeFailsUptoSaid : Prop := mergeFailsUptoRow.holds Tryz.pinned (OpenSpec.upto mergeFailsSpec)

/-- 'bindlelaw21.MergeSides', WHERE WHAT IT READS IS OF BULK AT MOST 1048576: true; the input reads as it did. -/
def mergeSidesUptoRow : OpenClaim := { program := "ytbngbefchobfnaagreatdoor", sum := "35c4b1ec0406b8e86078658481539371df554bcd6e600b98a0dc8104a3de8886", func := "bindle/bindlelaw21.MergeSides", spec := "mergeSides", inPlace := ["internal/bytealg.IndexByteString", "internal/bytealg.IndexString", "internal/abi.NoEscape", "internal/bytealg.MakeNoZero", "internal/bytealg.abigen_runtime_cmpstring"], unfollowed := true, recurses := true, named := ["unicode/utf8.first", "unicode/utf8.acceptRanges", "internal/bytealg.MaxLen", "bindle/merge.ends"], plainKeys := false, apart := false, laid := [("unicode/utf8.acceptRanges", laid_unicode_utf8_acceptRanges), ("bindle/merge.ends", laid_bindle_merge_ends), ("unicode/utf8.first", laid_unicode_utf8_first)], narrowed := true }
def MergeSidesUptoSaid : Prop := mergeSidesUptoRow.holds Tryz.pinned (OpenSpec.upto mergeSidesSpec)

/-- 'bindlelaw21.MergeOne', WHERE WHAT IT READS IS OF BULK AT MOST 1048576: true; the input reads as it did. -/
def mergeOneUptoRow : OpenClaim := { program := "ytbngbefchobfnaagreatdoor", sum := "35c4b1ec0406b8e86078658481539371df554bcd6e600b98a0dc8104a3de8886", func := "bindle/bindlelaw21.MergeOne", spec := "mergeOne", inPlace := ["internal/bytealg.IndexByteString", "internal/bytealg.IndexString", "internal/abi.NoEscape", "internal/bytealg.MakeNoZero", "internal/bytealg.abigen_runtime_cmpstring"], unfollowed := true, recurses := true, named := ["unicode/utf8.first", "unicode/utf8.acceptRanges", "internal/bytealg.MaxLen", "bindle/merge.ends"], plainKeys := false, apart := false, laid := [("unicode/utf8.acceptRanges", laid_unicode_utf8_acceptRanges), ("bindle/merge.ends", laid_bindle_merge_ends), ("unicode/utf8.first", laid_unicode_utf8_first)], narrowed := true }
def MergeOneUptoSaid : Prop := mergeOneUptoRow.holds Tryz.pinned (OpenSpec.upto mergeOneSpec)

/-- 'bindlelaw21.MergeApart', WHERE WHAT IT READS IS OF BULK AT MOST 1048576: true; the input reads as it did. -/
def mergeApartUptoRow : OpenClaim := { program := "ytbngbefchobfnaagreatdoor", sum := "35c4b1ec0406b8e86078658481539371df554bcd6e600b98a0dc8104a3de8886", func := "bindle/bindlelaw21.MergeApart", spec := "mergeApart", inPlace := ["internal/bytealg.IndexByteString", "internal/bytealg.IndexString", "internal/abi.NoEscape", "internal/bytealg.MakeNoZero", "internal/bytealg.abigen_runtime_cmpstring"], unfollowed := true, recurses := true, named := ["unicode/utf8.first", "unicode/utf8.acceptRanges", "internal/bytealg.MaxLen", "bindle/merge.ends"], plainKeys := false, apart := false, laid := [("unicode/utf8.acceptRanges", laid_unicode_utf8_acceptRanges), ("bindle/merge.ends", laid_bindle_merge_ends), ("unicode/utf8.first", laid_unicode_utf8_first)], narrowed := true }
def MergeApartUptoSaid : Prop := mergeApartUptoRow.holds Tryz.pinned (OpenSpec.upto mergeApartSpec)

end Rows
end Go.Proofs.YtbngbefchobfnaaGreatDoor
