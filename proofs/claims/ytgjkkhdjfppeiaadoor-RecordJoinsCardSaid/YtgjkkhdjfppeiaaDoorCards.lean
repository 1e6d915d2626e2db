/-
  DERIVED. GIVEN WITH THE SEED: THE CARDS: each row of YtgjkkhdjfppeiaaDoorRows.lean that lists a variable, with what it lists TIED to the program's text (the seventh form; the later family's looks); each row that meets fmt, with fmt's text TOLD by the authors' own Lean function (tested against real Go, not proved from fmt's source: count such statements apart). THE CARD IS WHAT COUNTS. Prove the row's statement (the work); the ties are given (YtgjkkhdjfppeiaaDoorTie.lean); close each card by the builder's one call (the guide's Derived/Test/ToyasCard.lean, 'card_holds'). Laid BY PROGRAM, IN A SANDBOX (cutbox-door.mjs). By AI agents, Wed Nov 11 2026. No macro, syntax, notation, axiom, sorry.
-/
import Derived.Test.YtgjkkhdjfppeiaaDoorRows
import GoSem.ClaimSeven
namespace Go.Proofs.YtgjkkhdjfppeiaaDoor
namespace Rows

/-- THE TIED CARD OF 'bindlelaw07.AttrApplies'. -/
def attrAppliesCard : Claim7 := { stood := { row := attrAppliesRow, standIns := [], harness := (true, "191f8726e84dc0c0254346e167ee71ef3b85c2433adb08ac82516032382194bf"), looks := true }, kinds := [], alts := [], laidByText := true, laidKinds := [.data, .data, .data, .data, .sentinel, .sentinel, .pinned], laidTests := true, laidLooks := .later }
def AttrAppliesCardSaid : Prop := Claim7.holds Tryd.pinned (.plain (OpenSpec.ofChange attrAppliesSpec)) attrAppliesCard

/-- THE TIED CARD OF 'bindlelaw07.AttrValues'. -/
def attrValuesCard : Claim7 := { stood := { row := attrValuesRow, standIns := [], harness := (true, "191f8726e84dc0c0254346e167ee71ef3b85c2433adb08ac82516032382194bf"), looks := true }, kinds := [], alts := [], laidByText := true, laidKinds := [.data, .data, .data, .data, .sentinel, .sentinel, .pinned], laidTests := true, laidLooks := .later }
def AttrValuesCardSaid : Prop := Claim7.holds Tryd.pinned (.plain (OpenSpec.ofChange attrValuesSpec)) attrValuesCard

/-- THE TIED CARD OF 'bindlelaw07.AttrLast'. -/
def attrLastCard : Claim7 := { stood := { row := attrLastRow, standIns := [], harness := (true, "191f8726e84dc0c0254346e167ee71ef3b85c2433adb08ac82516032382194bf"), looks := true }, kinds := [], alts := [], laidByText := true, laidKinds := [.data, .data, .data, .data, .sentinel, .sentinel, .pinned], laidTests := true, laidLooks := .later }
def AttrLastCardSaid : Prop := Claim7.holds Tryd.pinned (.plain (OpenSpec.ofChange attrLastSpec)) attrLastCard

/-- THE TIED CARD OF 'bindlelaw07.AttrKept'. -/
def attrKeptCard : Claim7 := { stood := { row := attrKeptRow, standIns := [], harness := (true, "191f8726e84dc0c0254346e167ee71ef3b85c2433adb08ac82516032382194bf"), looks := true }, kinds := [], alts := [], laidByText := true, laidKinds := [.data, .data, .data, .data, .sentinel, .sentinel, .pinned], laidTests := true, laidLooks := .later }
def AttrKeptCardSaid : Prop := Claim7.holds Tryd.pinned (.plain (OpenSpec.ofChange attrKeptSpec)) attrKeptCard

/-- THE TIED CARD OF 'bindlelaw07.AttrParts'. -/
def attrPartsCard : Claim7 := { stood := { row := attrPartsRow, standIns := [], harness := (true, "191f8726e84dc0c0254346e167ee71ef3b85c2433adb08ac82516032382194bf"), looks := true }, kinds := [], alts := [], laidByText := true, laidKinds := [.data, .data, .data, .data, .sentinel, .sentinel, .pinned], laidTests := true, laidLooks := .later }
def AttrPartsCardSaid : Prop := Claim7.holds Tryd.pinned (.plain (OpenSpec.ofChange attrPartsSpec)) attrPartsCard

/-- THE TIED CARD OF 'bindlelaw06.RecordParses'. -/
def recordParsesCard : Claim7 := { stood := { row := recordParsesRow, standIns := [], harness := (true, "191f8726e84dc0c0254346e167ee71ef3b85c2433adb08ac82516032382194bf"), looks := true }, kinds := [], alts := [], laidByText := true, laidKinds := [.data, .data, .data, .data, .sentinel, .sentinel, .pinned], laidTests := true, laidLooks := .later }
def RecordParsesCardSaid : Prop := Claim7.holds Tryd.pinned (.plain (OpenSpec.ofChange recordParsesSpec)) recordParsesCard

/-- THE TIED CARD OF 'bindlelaw06.RecordLines'. -/
def recordLinesCard : Claim7 := { stood := { row := recordLinesRow, standIns := [], harness := (true, "191f8726e84dc0c0254346e167ee71ef3b85c2433adb08ac82516032382194bf"), looks := true }, kinds := [], alts := [], laidByText := true, laidKinds := [.data, .data, .data, .data, .sentinel, .sentinel, .pinned], laidTests := true, laidLooks := .later }
def RecordLinesCardSaid : Prop := Claim7.holds Tryd.pinned (.plain (OpenSpec.ofChange recordLinesSpec)) recordLinesCard

/-- THE TIED CARD OF 'bindlelaw06.RecordSizes'. -/
def recordSizesCard : Claim7 := { stood := { row := recordSizesRow, standIns := [], harness := (true, "191f8726e84dc0c0254346e167ee71ef3b85c2433adb08ac82516032382194bf"), looks := true }, kinds := [], alts := [], laidByText := true, laidKinds := [.data, .data, .data, .data, .sentinel, .sentinel, .pinned], laidTests := true, laidLooks := .later }
def RecordSizesCardSaid : Prop := Claim7.holds Tryd.pinned (.plain (OpenSpec.ofChange recordSizesSpec)) recordSizesCard

/-- THE TIED CARD OF 'bindlelaw06.RecordCut'. -/
def recordCutCard : Claim7 := { stood := { row := recordCutRow, standIns := [], harness := (true, "191f8726e84dc0c0254346e167ee71ef3b85c2433adb08ac82516032382194bf"), looks := true }, kinds := [], alts := [], laidByText := true, laidKinds := [.data, .data, .data, .data, .sentinel, .sentinel, .pinned], laidTests := true, laidLooks := .later }
def RecordCutCardSaid : Prop := Claim7.holds Tryd.pinned (.plain (OpenSpec.ofChange recordCutSpec)) recordCutCard

/-- THE TIED CARD OF 'bindlelaw06.RecordPuts'. -/
def recordPutsCard : Claim7 := { stood := { row := recordPutsRow, standIns := [], harness := (true, "191f8726e84dc0c0254346e167ee71ef3b85c2433adb08ac82516032382194bf"), looks := true }, kinds := [], alts := [], laidByText := true, laidKinds := [.data, .data, .data, .data, .sentinel, .sentinel, .pinned], laidTests := true, laidLooks := .later }
def RecordPutsCardSaid : Prop := Claim7.holds Tryd.pinned (.plain (OpenSpec.ofChange recordPutsSpec)) recordPutsCard

/-- THE TIED CARD OF 'bindlelaw06.RecordJoins'. -/
def recordJoinsCard : Claim7 := { stood := { row := recordJoinsRow, standIns := [], harness := (true, "191f8726e84dc0c0254346e167ee71ef3b85c2433adb08ac82516032382194bf"), looks := true }, kinds := [], alts := [], laidByText := true, laidKinds := [.data, .data, .data, .data, .sentinel, .sentinel, .pinned], laidTests := true, laidLooks := .later }
def RecordJoinsCardSaid : Prop := Claim7.holds Tryd.pinned (.plain (OpenSpec.ofChange recordJoinsSpec)) recordJoinsCard

/-- THE SECOND FORM's CARD OF 'bindlelaw07.AttrApplies'. -/
def attrAppliesUptoCard : Claim7 := { stood := { row := attrAppliesUptoRow, standIns := [], harness := (true, "191f8726e84dc0c0254346e167ee71ef3b85c2433adb08ac82516032382194bf"), looks := true }, kinds := [], alts := [], laidByText := true, laidKinds := [.data, .data, .data, .data, .sentinel, .sentinel, .pinned], laidTests := true, laidLooks := .later }
def AttrAppliesUptoCardSaid : Prop := Claim7.holds Tryd.pinned (.plain (OpenSpec.upto attrAppliesSpec)) attrAppliesUptoCard

/-- THE SECOND FORM's CARD OF 'bindlelaw07.AttrValues'. -/
def attrValuesUptoCard : Claim7 := { stood := { row := attrValuesUptoRow, standIns := [], harness := (true, "191f8726e84dc0c0254346e167ee71ef3b85c2433adb08ac82516032382194bf"), looks := true }, kinds := [], alts := [], laidByText := true, laidKinds := [.data, .data, .data, .data, .sentinel, .sentinel, .pinned], laidTests := true, laidLooks := .later }
def AttrValuesUptoCardSaid : Prop := Claim7.holds Tryd.pinned (.plain (OpenSpec.upto attrValuesSpec)) attrValuesUptoCard

/-- THE SECOND FORM's CARD OF 'bindlelaw07.AttrLast'. -/
def attrLastUptoCard : Claim7 := { stood := { row := attrLastUptoRow, standIns := [], harness := (true, "191f8726e84dc0c0254346e167ee71ef3b85c2433adb08ac82516032382194bf"), looks := true }, kinds := [], alts := [], laidByText := true, laidKinds := [.data, .data, .data, .data, .sentinel, .sentinel, .pinned], laidTests := true, laidLooks := .later }
def AttrLastUptoCardSaid : Prop := Claim7.holds Tryd.pinned (.plain (OpenSpec.upto attrLastSpec)) attrLastUptoCard

/-- THE SECOND FORM's CARD OF 'bindlelaw07.AttrKept'. -/
def attrKeptUptoCard : Claim7 := { stood := { row := attrKeptUptoRow, standIns := [], harness := (true, "191f8726e84dc0c0254346e167ee71ef3b85c2433adb08ac82516032382194bf"), looks := true }, kinds := [], alts := [], laidByText := true, laidKinds := [.data, .data, .data, .data, .sentinel, .sentinel, .pinned], laidTests := true, laidLooks := .later }
def AttrKeptUptoCardSaid : Prop := Claim7.holds Tryd.pinned (.plain (OpenSpec.upto attrKeptSpec)) attrKeptUptoCard

/-- THE SECOND FORM's CARD OF 'bindlelaw07.AttrParts'. -/
def attrPartsUptoCard : Claim7 := { stood := { row := attrPartsUptoRow, standIns := [], harness := (true, "191f8726e84dc0c0254346e167ee71ef3b85c2433adb08ac82516032382194bf"), looks := true }, kinds := [], alts := [], laidByText := true, laidKinds := [.data, .data, .data, .data, .sentinel, .sentinel, .pinned], laidTests := true, laidLooks := .later }
def AttrPartsUptoCardSaid : Prop := Claim7.holds Tryd.pinned (.plain (OpenSpec.upto attrPartsSpec)) attrPartsUptoCard

/-- THE SECOND FORM's CARD OF 'bindlelaw06.RecordParses'. -/
def recordParsesUptoCard : Claim7 := { stood := { row := recordParsesUptoRow, standIns := [], harness := (true, "191f8726e84dc0c0254346e167ee71ef3b85c2433adb08ac82516032382194bf"), looks := true }, kinds := [], alts := [], laidByText := true, laidKinds := [.data, .data, .data, .data, .sentinel, .sentinel, .pinned], laidTests := true, laidLooks := .later }
def RecordParsesUptoCardSaid : Prop := Claim7.holds Tryd.pinned (.plain (OpenSpec.upto recordParsesSpec)) recordParsesUptoCard

/-- THE SECOND FORM's CARD OF 'bindlelaw06.RecordLines'. -/
def recordLinesUptoCard : Claim7 := { stood := { row := recordLinesUptoRow, standIns := [], harness := (true, "191f8726e84dc0c0254346e167ee71ef3b85c2433adb08ac82516032382194bf"), looks := true }, kinds := [], alts := [], laidByText := true, laidKinds := [.data, .data, .data, .data, .sentinel, .sentinel, .pinned], laidTests := true, laidLooks := .later }
def RecordLinesUptoCardSaid : Prop := Claim7.holds Tryd.pinned (.plain (OpenSpec.upto recordLinesSpec)) recordLinesUptoCard

/-- THE SECOND FORM's CARD OF 'bindlelaw06.RecordSizes'. -/
def recordSizesUptoCard : Claim7 := { stood := { row := recordSizesUptoRow, standIns := [], harness := (true, "191f8726e84dc0c0254346e167ee71ef3b85c2433adb08ac82516032382194bf"), looks := true }, kinds := [], alts := [], laidByText := true, laidKinds := [.data, .data, .data, .data, .sentinel, .sentinel, .pinned], laidTests := true, laidLooks := .later }
def RecordSizesUptoCardSaid : Prop := Claim7.holds Tryd.pinned (.plain (OpenSpec.upto recordSizesSpec)) recordSizesUptoCard

/-- THE SECOND FORM's CARD OF 'bindlelaw06.RecordCut'. -/
def recordCutUptoCard : Claim7 := { stood := { row := recordCutUptoRow, standIns := [], harness := (true, "191f8726e84dc0c0254346e167ee71ef3b85c2433adb08ac82516032382194bf"), looks := true }, kinds := [], alts := [], laidByText := true, laidKinds := [.data, .data, .data, .data, .sentinel, .sentinel, .pinned], laidTests := true, laidLooks := .later }
def RecordCutUptoCardSaid : Prop := Claim7.holds Tryd.pinned (.plain (OpenSpec.upto recordCutSpec)) recordCutUptoCard

/-- THE SECOND FORM's CARD OF 'bindlelaw06.RecordPuts'. -/
def recordPutsUptoCard : Claim7 := { stood := { row := recordPutsUptoRow, standIns := [], harness := (true, "191f8726e84dc0c0254346e167ee71ef3b85c2433adb08ac82516032382194bf"), looks := true }, kinds := [], alts := [], laidByText := true, laidKinds := [.data, .data, .data, .data, .sentinel, .sentinel, .pinned], laidTests := true, laidLooks := .later }
def RecordPutsUptoCardSaid : Prop := Claim7.holds Tryd.pinned (.plain (OpenSpec.upto recordPutsSpec)) recordPutsUptoCard

/-- THE SECOND FORM's CARD OF 'bindlelaw06.RecordJoins'. -/
def recordJoinsUptoCard : Claim7 := { stood := { row := recordJoinsUptoRow, standIns := [], harness := (true, "191f8726e84dc0c0254346e167ee71ef3b85c2433adb08ac82516032382194bf"), looks := true }, kinds := [], alts := [], laidByText := true, laidKinds := [.data, .data, .data, .data, .sentinel, .sentinel, .pinned], laidTests := true, laidLooks := .later }
def RecordJoinsUptoCardSaid : Prop := Claim7.holds Tryd.pinned (.plain (OpenSpec.upto recordJoinsSpec)) recordJoinsUptoCard
end Rows
end Go.Proofs.YtgjkkhdjfppeiaaDoor
