/-
  DERIVED. GIVEN WITH THE SEED: THE CARDS: each row of YtbngbefchobfnaaGreatDoorRows.lean that lists a variable, with what it lists TIED to the program's text (the seventh form; the later family's looks); each row that meets fmt, with fmt's text TOLD by the authors' own Lean function (tested against real Go, not proved from fmt's source: count such statements apart). THE CARD IS WHAT COUNTS. Prove the row's statement (the work); the ties are given (YtbngbefchobfnaaGreatDoorTie.lean); close each card by the builder's one call (the guide's Derived/Test/ToyasCard.lean, 'card_holds'). Laid BY PROGRAM, IN A SANDBOX (cutbox-door.mjs). By AI agents, Wed Nov 11 2026. No macro, syntax, notation, axiom, sorry.
-/
import Derived.Test.YtbngbefchobfnaaGreatDoorRows
import GoSem.ClaimSeven
namespace Go.Proofs.YtbngbefchobfnaaGreatDoor
namespace Rows

/-- THE TIED CARD OF 'bindlelaw21.MergeConflicts'. -/
def mergeConflictsCard : Claim7 := { stood := { row := mergeConflictsRow, standIns := [], harness := (true, "0cf1764a463e315679241ded18ca86305997cc1e9e1f778a612edc7c78a5c53f"), looks := false }, kinds := [], alts := [], laidByText := true, laidKinds := [.data, .data, .pinned], laidTests := true, laidLooks := .later }
def MergeConflictsCardSaid : Prop := Claim7.holds Tryz.pinned (.plain (OpenSpec.ofChange mergeConflictsSpec)) mergeConflictsCard

/-- THE TIED CARD OF 'bindlelaw21.MergeMerges'. -/
def mergeMergesCard : Claim7 := { stood := { row := mergeMergesRow, standIns := [], harness := (true, "0cf1764a463e315679241ded18ca86305997cc1e9e1f778a612edc7c78a5c53f"), looks := false }, kinds := [], alts := [], laidByText := true, laidKinds := [.data, .data, .pinned], laidTests := true, laidLooks := .later }
def MergeMergesCardSaid : Prop := Claim7.holds Tryz.pinned (.plain (OpenSpec.ofChange mergeMergesSpec)) mergeMergesCard

/-- THE TIED CARD OF 'bindlelaw21.MergeFails'. -/
def mergeFailsCard : Claim7 := { stood := { row := mergeFailsRow, standIns := [], harness := (true, "0cf1764a463e315679241ded18ca86305997cc1e9e1f778a612edc7c78a5c53f"), looks := false }, kinds := [], alts := [], laidByText := true, laidKinds := [.data, .data, .pinned], laidTests := true, laidLooks := .later }
def MergeFailsCardSaid : Prop := Claim7.holds Tryz.pinned (.plain (OpenSpec.ofChange mergeFailsSpec)) mergeFailsCard

/-- THE TIED CARD OF 'bindlelaw21.MergeSides'. -/
def mergeSidesCard : Claim7 := { stood := { row := mergeSidesRow, standIns := [], harness := (true, "0cf1764a463e315679241ded18ca86305997cc1e9e1f778a612edc7c78a5c53f"), looks := false }, kinds := [], alts := [], laidByText := true, laidKinds := [.data, .data, .pinned], laidTests := true, laidLooks := .later }
def MergeSidesCardSaid : Prop := Claim7.holds Tryz.pinned (.plain (OpenSpec.ofChange mergeSidesSpec)) mergeSidesCard

/-- THE TIED CARD OF 'bindlelaw21.MergeOne'. -/
def mergeOneCard : Claim7 := { stood := { row := mergeOneRow, standIns := [], harness := (true, "0cf1764a463e315679241ded18ca86305997cc1e9e1f778a612edc7c78a5c53f"), looks := false }, kinds := [], alts := [], laidByText := true, laidKinds := [.data, .data, .pinned], laidTests := true, laidLooks := .later }
def MergeOneCardSaid : Prop := Claim7.holds Tryz.pinned (.plain (OpenSpec.ofChange mergeOneSpec)) mergeOneCard

/-- THE TIED CARD OF 'bindlelaw21.MergeApart'. -/
def mergeApartCard : Claim7 := { stood := { row := mergeApartRow, standIns := [], harness := (true, "0cf1764a463e315679241ded18ca86305997cc1e9e1f778a612edc7c78a5c53f"), looks := false }, kinds := [], alts := [], laidByText := true, laidKinds := [.data, .data, .pinned], laidTests := true, laidLooks := .later }
def MergeApartCardSaid : Prop := Claim7.holds Tryz.pinned (.plain (OpenSpec.ofChange mergeApartSpec)) mergeApartCard

/-- THE SECOND FORM's CARD OF 'bindlelaw21.MergeConflicts'. -/
def mergeConflictsUptoCard : Claim7 := { stood := { row := mergeConflictsUptoRow, standIns := [], harness := (true, "0cf1764a463e315679241ded18ca86305997cc1e9e1f778a612edc7c78a5c53f"), looks := false }, kinds := [], alts := [], laidByText := true, laidKinds := [.data, .data, .pinned], laidTests := true, laidLooks := .later }
def MergeConflictsUptoCardSaid : Prop := Claim7.holds Tryz.pinned (.plain (OpenSpec.upto mergeConflictsSpec)) mergeConflictsUptoCard

/-- THE SECOND FORM's CARD OF 'bindlelaw21.MergeMerges'. -/
def mergeMergesUptoCard : Claim7 := { stood := { row := mergeMergesUptoRow, standIns := [], harness := (true, "0cf1764a463e315679241ded18ca86305997cc1e9e1f778a612edc7c78a5c53f"), looks := false }, kinds := [], alts := [], laidByText := true, laidKinds := [.data, .data, .pinned], laidTests := true, laidLooks := .later }
def MergeMergesUptoCardSaid : Prop := Claim7.holds Tryz.pinned (.plain (OpenSpec.upto mergeMergesSpec)) mergeMergesUptoCard

/-- THE SECOND FORM's CARD OF 'bindlelaw21.MergeFails'. -/
def mergeFailsUptoCard : Claim7 := { stood := { row := mergeFailsUptoRow, standIns := [], harness := (true, "0cf1764a463e315679241ded18ca86305997cc1e9e1f778a612edc7c78a5c53f"), looks := false }, kinds := [], alts := [], laidByText := true, laidKinds := [.data, .data, .pinned], laidTests := true, laidLooks := .later }
def MergeFailsUptoCardSaid : Prop := Claim7.holds Tryz.pinned (.plain (OpenSpec.upto mergeFailsSpec)) mergeFailsUptoCard

/-- THE SECOND FORM's CARD OF 'bindlelaw21.MergeSides'. -/
def mergeSidesUptoCard : Claim7 := { stood := { row := mergeSidesUptoRow, standIns := [], harness := (true, "0cf1764a463e315679241ded18ca86305997cc1e9e1f778a612edc7c78a5c53f"), looks := false }, kinds := [], alts := [], laidByText := true, laidKinds := [.data, .data, .pinned], laidTests := true, laidLooks := .later }
def MergeSidesUptoCardSaid : Prop := Claim7.holds Tryz.pinned (.plain (OpenSpec.upto mergeSidesSpec)) mergeSidesUptoCard

/-- THE SECOND FORM's CARD OF 'bindlelaw21.MergeOne'. -/
def mergeOneUptoCard : Claim7 := { stood := { row := mergeOneUptoRow, standIns := [], harness := (true, "0cf1764a463e315679241ded18ca86305997cc1e9e1f778a612edc7c78a5c53f"), looks := false }, kinds := [], alts := [], laidByText := true, laidKinds := [.data, .data, .pinned], laidTests := true, laidLooks := .later }
def MergeOneUptoCardSaid : Prop := Claim7.holds Tryz.pinned (.plain (OpenSpec.upto mergeOneSpec)) mergeOneUptoCard

/-- THE SECOND FORM's CARD OF 'bindlelaw21.MergeApart'. -/
def mergeApartUptoCard : Claim7 := { stood := { row := mergeApartUptoRow, standIns := [], harness := (true, "0cf1764a463e315679241ded18ca86305997cc1e9e1f778a612edc7c78a5c53f"), looks := false }, kinds := [], alts := [], laidByText := true, laidKinds := [.data, .data, .pinned], laidTests := true, laidLooks := .later }
def MergeApartUptoCardSaid : Prop := Claim7.holds Tryz.pinned (.plain (OpenSpec.upto mergeApartSpec)) mergeApartUptoCard
end Rows
end Go.Proofs.YtbngbefchobfnaaGreatDoor
