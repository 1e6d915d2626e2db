/-
  DERIVED. GIVEN WITH THE SEED: THE CARDS: each row of YtfmphccoeinhcaaDoorRows.lean that lists a variable, with what it lists TIED to the program's text (the seventh form; the later family's looks); each row that meets fmt, with fmt's text TOLD by the authors' own Lean function (tested against real Go, not proved from fmt's source: count such statements apart). THE CARD IS WHAT COUNTS. Prove the row's statement (the work); the ties are given (YtfmphccoeinhcaaDoorTie.lean); close each card by the builder's one call (the guide's Derived/Test/ToyasCard.lean, 'card_holds'). Laid BY PROGRAM, IN A SANDBOX (cutbox-door.mjs). By AI agents, Wed Nov 11 2026. No macro, syntax, notation, axiom, sorry.
-/
import Derived.Test.YtfmphccoeinhcaaDoorRows
import GoSem.ClaimSeven
namespace Go.Proofs.YtfmphccoeinhcaaDoor
namespace Rows

/-- THE TIED CARD OF 'bindlelaw10.TreeLast'. -/
def treeLastCard : Claim7 := { stood := { row := treeLastRow, standIns := [], harness := (true, "1dba287458e3377f7c7f0c08cf4f06b39946f5c11f4cca508c0e65603bb8c4f0"), looks := false }, kinds := [], alts := [], laidByText := true, laidKinds := [.data, .pinned], laidTests := true, laidLooks := .later }
def TreeLastCardSaid : Prop := Claim7.holds Tryd.pinned (.plain (OpenSpec.ofChange treeLastSpec)) treeLastCard

/-- THE TIED CARD OF 'bindlelaw19.UnionUnites'. -/
def unionUnitesCard : Claim7 := { stood := { row := unionUnitesRow, standIns := [], harness := (true, "1dba287458e3377f7c7f0c08cf4f06b39946f5c11f4cca508c0e65603bb8c4f0"), looks := false }, kinds := [], alts := [], laidByText := true, laidKinds := [.data, .pinned], laidTests := true, laidLooks := .later }
def UnionUnitesCardSaid : Prop := Claim7.holds Tryd.pinned (.plain (OpenSpec.ofChange unionUnitesSpec)) unionUnitesCard

/-- THE TIED CARD OF 'bindlelaw19.UnionGroups'. -/
def unionGroupsCard : Claim7 := { stood := { row := unionGroupsRow, standIns := [], harness := (true, "1dba287458e3377f7c7f0c08cf4f06b39946f5c11f4cca508c0e65603bb8c4f0"), looks := false }, kinds := [], alts := [], laidByText := true, laidKinds := [.data, .pinned], laidTests := true, laidLooks := .later }
def UnionGroupsCardSaid : Prop := Claim7.holds Tryd.pinned (.plain (OpenSpec.ofChange unionGroupsSpec)) unionGroupsCard

/-- THE TIED CARD OF 'bindlelaw19.UnionLast'. -/
def unionLastCard : Claim7 := { stood := { row := unionLastRow, standIns := [], harness := (true, "1dba287458e3377f7c7f0c08cf4f06b39946f5c11f4cca508c0e65603bb8c4f0"), looks := false }, kinds := [], alts := [], laidByText := true, laidKinds := [.data, .pinned], laidTests := true, laidLooks := .later }
def UnionLastCardSaid : Prop := Claim7.holds Tryd.pinned (.plain (OpenSpec.ofChange unionLastSpec)) unionLastCard

/-- THE TIED CARD OF 'bindlelaw19.UnionClasses'. -/
def unionClassesCard : Claim7 := { stood := { row := unionClassesRow, standIns := [], harness := (true, "1dba287458e3377f7c7f0c08cf4f06b39946f5c11f4cca508c0e65603bb8c4f0"), looks := false }, kinds := [], alts := [], laidByText := true, laidKinds := [.data, .pinned], laidTests := true, laidLooks := .later }
def UnionClassesCardSaid : Prop := Claim7.holds Tryd.pinned (.plain (OpenSpec.ofChange unionClassesSpec)) unionClassesCard

/-- THE TIED CARD OF 'bindlelaw19.UnionPiles'. -/
def unionPilesCard : Claim7 := { stood := { row := unionPilesRow, standIns := [], harness := (true, "1dba287458e3377f7c7f0c08cf4f06b39946f5c11f4cca508c0e65603bb8c4f0"), looks := false }, kinds := [], alts := [], laidByText := true, laidKinds := [.data, .pinned], laidTests := true, laidLooks := .later }
def UnionPilesCardSaid : Prop := Claim7.holds Tryd.pinned (.plain (OpenSpec.ofChange unionPilesSpec)) unionPilesCard

/-- THE TIED CARD OF 'bindlelaw19.UnionApart'. -/
def unionApartCard : Claim7 := { stood := { row := unionApartRow, standIns := [], harness := (true, "1dba287458e3377f7c7f0c08cf4f06b39946f5c11f4cca508c0e65603bb8c4f0"), looks := false }, kinds := [], alts := [], laidByText := true, laidKinds := [.data, .pinned], laidTests := true, laidLooks := .later }
def UnionApartCardSaid : Prop := Claim7.holds Tryd.pinned (.plain (OpenSpec.ofChange unionApartSpec)) unionApartCard

/-- THE TIED CARD OF 'bindlelaw20.SubKeeps'. -/
def subKeepsCard : Claim7 := { stood := { row := subKeepsRow, standIns := [], harness := (true, "1dba287458e3377f7c7f0c08cf4f06b39946f5c11f4cca508c0e65603bb8c4f0"), looks := false }, kinds := [], alts := [], laidByText := true, laidKinds := [.data, .pinned], laidTests := true, laidLooks := .later }
def SubKeepsCardSaid : Prop := Claim7.holds Tryd.pinned (.plain (OpenSpec.ofChange subKeepsSpec)) subKeepsCard

/-- THE TIED CARD OF 'bindlelaw20.SubTakes'. -/
def subTakesCard : Claim7 := { stood := { row := subTakesRow, standIns := [], harness := (true, "1dba287458e3377f7c7f0c08cf4f06b39946f5c11f4cca508c0e65603bb8c4f0"), looks := false }, kinds := [], alts := [], laidByText := true, laidKinds := [.data, .pinned], laidTests := true, laidLooks := .later }
def SubTakesCardSaid : Prop := Claim7.holds Tryd.pinned (.plain (OpenSpec.ofChange subTakesSpec)) subTakesCard

/-- THE TIED CARD OF 'bindlelaw20.SubWhole'. -/
def subWholeCard : Claim7 := { stood := { row := subWholeRow, standIns := [], harness := (true, "1dba287458e3377f7c7f0c08cf4f06b39946f5c11f4cca508c0e65603bb8c4f0"), looks := false }, kinds := [], alts := [], laidByText := true, laidKinds := [.data, .pinned], laidTests := true, laidLooks := .later }
def SubWholeCardSaid : Prop := Claim7.holds Tryd.pinned (.plain (OpenSpec.ofChange subWholeSpec)) subWholeCard

/-- THE TIED CARD OF 'bindlelaw20.SubParts'. -/
def subPartsCard : Claim7 := { stood := { row := subPartsRow, standIns := [], harness := (true, "1dba287458e3377f7c7f0c08cf4f06b39946f5c11f4cca508c0e65603bb8c4f0"), looks := false }, kinds := [], alts := [], laidByText := true, laidKinds := [.data, .pinned], laidTests := true, laidLooks := .later }
def SubPartsCardSaid : Prop := Claim7.holds Tryd.pinned (.plain (OpenSpec.ofChange subPartsSpec)) subPartsCard

/-- THE TIED CARD OF 'bindlelaw20.SubTwice'. -/
def subTwiceCard : Claim7 := { stood := { row := subTwiceRow, standIns := [], harness := (true, "1dba287458e3377f7c7f0c08cf4f06b39946f5c11f4cca508c0e65603bb8c4f0"), looks := false }, kinds := [], alts := [], laidByText := true, laidKinds := [.data, .pinned], laidTests := true, laidLooks := .later }
def SubTwiceCardSaid : Prop := Claim7.holds Tryd.pinned (.plain (OpenSpec.ofChange subTwiceSpec)) subTwiceCard

/-- THE SECOND FORM's CARD OF 'bindlelaw10.TreeLast'. -/
def treeLastUptoCard : Claim7 := { stood := { row := treeLastUptoRow, standIns := [], harness := (true, "1dba287458e3377f7c7f0c08cf4f06b39946f5c11f4cca508c0e65603bb8c4f0"), looks := false }, kinds := [], alts := [], laidByText := true, laidKinds := [.data, .pinned], laidTests := true, laidLooks := .later }
def TreeLastUptoCardSaid : Prop := Claim7.holds Tryd.pinned (.plain (OpenSpec.upto treeLastSpec)) treeLastUptoCard

/-- THE SECOND FORM's CARD OF 'bindlelaw19.UnionUnites'. -/
def unionUnitesUptoCard : Claim7 := { stood := { row := unionUnitesUptoRow, standIns := [], harness := (true, "1dba287458e3377f7c7f0c08cf4f06b39946f5c11f4cca508c0e65603bb8c4f0"), looks := false }, kinds := [], alts := [], laidByText := true, laidKinds := [.data, .pinned], laidTests := true, laidLooks := .later }
def UnionUnitesUptoCardSaid : Prop := Claim7.holds Tryd.pinned (.plain (OpenSpec.upto unionUnitesSpec)) unionUnitesUptoCard

/-- THE SECOND FORM's CARD OF 'bindlelaw19.UnionGroups'. -/
def unionGroupsUptoCard : Claim7 := { stood := { row := unionGroupsUptoRow, standIns := [], harness := (true, "1dba287458e3377f7c7f0c08cf4f06b39946f5c11f4cca508c0e65603bb8c4f0"), looks := false }, kinds := [], alts := [], laidByText := true, laidKinds := [.data, .pinned], laidTests := true, laidLooks := .later }
def UnionGroupsUptoCardSaid : Prop := Claim7.holds Tryd.pinned (.plain (OpenSpec.upto unionGroupsSpec)) unionGroupsUptoCard

/-- THE SECOND FORM's CARD OF 'bindlelaw19.UnionLast'. -/
def unionLastUptoCard : Claim7 := { stood := { row := unionLastUptoRow, standIns := [], harness := (true, "1dba287458e3377f7c7f0c08cf4f06b39946f5c11f4cca508c0e65603bb8c4f0"), looks := false }, kinds := [], alts := [], laidByText := true, laidKinds := [.data, .pinned], laidTests := true, laidLooks := .later }
def UnionLastUptoCardSaid : Prop := Claim7.holds Tryd.pinned (.plain (OpenSpec.upto unionLastSpec)) unionLastUptoCard

/-- THE SECOND FORM's CARD OF 'bindlelaw19.UnionClasses'. -/
def unionClassesUptoCard : Claim7 := { stood := { row := unionClassesUptoRow, standIns := [], harness := (true, "1dba287458e3377f7c7f0c08cf4f06b39946f5c11f4cca508c0e65603bb8c4f0"), looks := false }, kinds := [], alts := [], laidByText := true, laidKinds := [.data, .pinned], laidTests := true, laidLooks := .later }
def UnionClassesUptoCardSaid : Prop := Claim7.holds Tryd.pinned (.plain (OpenSpec.upto unionClassesSpec)) unionClassesUptoCard

/-- THE SECOND FORM's CARD OF 'bindlelaw19.UnionPiles'. -/
def unionPilesUptoCard : Claim7 := { stood := { row := unionPilesUptoRow, standIns := [], harness := (true, "1dba287458e3377f7c7f0c08cf4f06b39946f5c11f4cca508c0e65603bb8c4f0"), looks := false }, kinds := [], alts := [], laidByText := true, laidKinds := [.data, .pinned], laidTests := true, laidLooks := .later }
def UnionPilesUptoCardSaid : Prop := Claim7.holds Tryd.pinned (.plain (OpenSpec.upto unionPilesSpec)) unionPilesUptoCard

/-- THE SECOND FORM's CARD OF 'bindlelaw19.UnionApart'. -/
def unionApartUptoCard : Claim7 := { stood := { row := unionApartUptoRow, standIns := [], harness := (true, "1dba287458e3377f7c7f0c08cf4f06b39946f5c11f4cca508c0e65603bb8c4f0"), looks := false }, kinds := [], alts := [], laidByText := true, laidKinds := [.data, .pinned], laidTests := true, laidLooks := .later }
def UnionApartUptoCardSaid : Prop := Claim7.holds Tryd.pinned (.plain (OpenSpec.upto unionApartSpec)) unionApartUptoCard

/-- THE SECOND FORM's CARD OF 'bindlelaw20.SubKeeps'. -/
def subKeepsUptoCard : Claim7 := { stood := { row := subKeepsUptoRow, standIns := [], harness := (true, "1dba287458e3377f7c7f0c08cf4f06b39946f5c11f4cca508c0e65603bb8c4f0"), looks := false }, kinds := [], alts := [], laidByText := true, laidKinds := [.data, .pinned], laidTests := true, laidLooks := .later }
def SubKeepsUptoCardSaid : Prop := Claim7.holds Tryd.pinned (.plain (OpenSpec.upto subKeepsSpec)) subKeepsUptoCard

/-- THE SECOND FORM's CARD OF 'bindlelaw20.SubTakes'. -/
def subTakesUptoCard : Claim7 := { stood := { row := subTakesUptoRow, standIns := [], harness := (true, "1dba287458e3377f7c7f0c08cf4f06b39946f5c11f4cca508c0e65603bb8c4f0"), looks := false }, kinds := [], alts := [], laidByText := true, laidKinds := [.data, .pinned], laidTests := true, laidLooks := .later }
def SubTakesUptoCardSaid : Prop := Claim7.holds Tryd.pinned (.plain (OpenSpec.upto subTakesSpec)) subTakesUptoCard

/-- THE SECOND FORM's CARD OF 'bindlelaw20.SubWhole'. -/
def subWholeUptoCard : Claim7 := { stood := { row := subWholeUptoRow, standIns := [], harness := (true, "1dba287458e3377f7c7f0c08cf4f06b39946f5c11f4cca508c0e65603bb8c4f0"), looks := false }, kinds := [], alts := [], laidByText := true, laidKinds := [.data, .pinned], laidTests := true, laidLooks := .later }
def SubWholeUptoCardSaid : Prop := Claim7.holds Tryd.pinned (.plain (OpenSpec.upto subWholeSpec)) subWholeUptoCard

/-- THE SECOND FORM's CARD OF 'bindlelaw20.SubParts'. -/
def subPartsUptoCard : Claim7 := { stood := { row := subPartsUptoRow, standIns := [], harness := (true, "1dba287458e3377f7c7f0c08cf4f06b39946f5c11f4cca508c0e65603bb8c4f0"), looks := false }, kinds := [], alts := [], laidByText := true, laidKinds := [.data, .pinned], laidTests := true, laidLooks := .later }
def SubPartsUptoCardSaid : Prop := Claim7.holds Tryd.pinned (.plain (OpenSpec.upto subPartsSpec)) subPartsUptoCard

/-- THE SECOND FORM's CARD OF 'bindlelaw20.SubTwice'. -/
def subTwiceUptoCard : Claim7 := { stood := { row := subTwiceUptoRow, standIns := [], harness := (true, "1dba287458e3377f7c7f0c08cf4f06b39946f5c11f4cca508c0e65603bb8c4f0"), looks := false }, kinds := [], alts := [], laidByText := true, laidKinds := [.data, .pinned], laidTests := true, laidLooks := .later }
def SubTwiceUptoCardSaid : Prop := Claim7.holds Tryd.pinned (.plain (OpenSpec.upto subTwiceSpec)) subTwiceUptoCard
end Rows
end Go.Proofs.YtfmphccoeinhcaaDoor
