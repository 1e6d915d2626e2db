/-
  DERIVED. GIVEN WITH THE SEED: THE CARDS: each row of YtiijbmaamblidaaDoorRows.lean that lists a variable, with what it lists TIED to the program's text (the seventh form; the later family's looks); each row that meets fmt, with fmt's text TOLD by the authors' own Lean function (tested against real Go, not proved from fmt's source: count such statements apart). THE CARD IS WHAT COUNTS. Prove the row's statement (the work); the ties are given (YtiijbmaamblidaaDoorTie.lean); close each card by the builder's one call (the guide's Derived/Test/ToyasCard.lean, 'card_holds'). Laid BY PROGRAM, IN A SANDBOX (cutbox-door.mjs). By AI agents, Wed Nov 11 2026. No macro, syntax, notation, axiom, sorry.
-/
import Derived.Test.YtiijbmaamblidaaDoorRows
import GoSem.ClaimSeven
namespace Go.Proofs.YtiijbmaamblidaaDoor
namespace Rows

/-- THE TIED CARD OF 'bindlelaw10.TreeLast'. -/
def treeLastCard : Claim7 := { stood := { row := treeLastRow, standIns := [], harness := (true, "3c183f93377fd5184687c38092d2cbf76f2f5d07f5e6cf9b70b2305d49ed209c"), looks := false }, kinds := [], alts := [], laidByText := true, laidKinds := [.data, .pinned], laidTests := true, laidLooks := .later }
def TreeLastCardSaid : Prop := Claim7.holds Tryd.pinned (.plain (OpenSpec.ofChange treeLastSpec)) treeLastCard

/-- THE TIED CARD OF 'bindlelaw10.TreeOrder'. -/
def treeOrderCard : Claim7 := { stood := { row := treeOrderRow, standIns := [], harness := (true, "3c183f93377fd5184687c38092d2cbf76f2f5d07f5e6cf9b70b2305d49ed209c"), looks := false }, kinds := [], alts := [], laidByText := true, laidKinds := [.data, .pinned], laidTests := true, laidLooks := .later }
def TreeOrderCardSaid : Prop := Claim7.holds Tryd.pinned (.plain (OpenSpec.ofChange treeOrderSpec)) treeOrderCard

/-- THE TIED CARD OF 'bindlelaw18.FlatSound'. -/
def flatSoundCard : Claim7 := { stood := { row := flatSoundRow, standIns := [], harness := (true, "3c183f93377fd5184687c38092d2cbf76f2f5d07f5e6cf9b70b2305d49ed209c"), looks := false }, kinds := [], alts := [], laidByText := true, laidKinds := [.data, .pinned], laidTests := true, laidLooks := .later }
def FlatSoundCardSaid : Prop := Claim7.holds Tryd.pinned (.plain (OpenSpec.ofChange flatSoundSpec)) flatSoundCard

/-- THE TIED CARD OF 'bindlelaw18.FlatOrders'. -/
def flatOrdersCard : Claim7 := { stood := { row := flatOrdersRow, standIns := [], harness := (true, "3c183f93377fd5184687c38092d2cbf76f2f5d07f5e6cf9b70b2305d49ed209c"), looks := false }, kinds := [], alts := [], laidByText := true, laidKinds := [.data, .pinned], laidTests := true, laidLooks := .later }
def FlatOrdersCardSaid : Prop := Claim7.holds Tryd.pinned (.plain (OpenSpec.ofChange flatOrdersSpec)) flatOrdersCard

/-- THE SECOND FORM's CARD OF 'bindlelaw10.TreeLast'. -/
def treeLastUptoCard : Claim7 := { stood := { row := treeLastUptoRow, standIns := [], harness := (true, "3c183f93377fd5184687c38092d2cbf76f2f5d07f5e6cf9b70b2305d49ed209c"), looks := false }, kinds := [], alts := [], laidByText := true, laidKinds := [.data, .pinned], laidTests := true, laidLooks := .later }
def TreeLastUptoCardSaid : Prop := Claim7.holds Tryd.pinned (.plain (OpenSpec.upto treeLastSpec)) treeLastUptoCard

/-- THE SECOND FORM's CARD OF 'bindlelaw10.TreeOrder'. -/
def treeOrderUptoCard : Claim7 := { stood := { row := treeOrderUptoRow, standIns := [], harness := (true, "3c183f93377fd5184687c38092d2cbf76f2f5d07f5e6cf9b70b2305d49ed209c"), looks := false }, kinds := [], alts := [], laidByText := true, laidKinds := [.data, .pinned], laidTests := true, laidLooks := .later }
def TreeOrderUptoCardSaid : Prop := Claim7.holds Tryd.pinned (.plain (OpenSpec.upto treeOrderSpec)) treeOrderUptoCard

/-- THE SECOND FORM's CARD OF 'bindlelaw18.FlatSound'. -/
def flatSoundUptoCard : Claim7 := { stood := { row := flatSoundUptoRow, standIns := [], harness := (true, "3c183f93377fd5184687c38092d2cbf76f2f5d07f5e6cf9b70b2305d49ed209c"), looks := false }, kinds := [], alts := [], laidByText := true, laidKinds := [.data, .pinned], laidTests := true, laidLooks := .later }
def FlatSoundUptoCardSaid : Prop := Claim7.holds Tryd.pinned (.plain (OpenSpec.upto flatSoundSpec)) flatSoundUptoCard

/-- THE SECOND FORM's CARD OF 'bindlelaw18.FlatOrders'. -/
def flatOrdersUptoCard : Claim7 := { stood := { row := flatOrdersUptoRow, standIns := [], harness := (true, "3c183f93377fd5184687c38092d2cbf76f2f5d07f5e6cf9b70b2305d49ed209c"), looks := false }, kinds := [], alts := [], laidByText := true, laidKinds := [.data, .pinned], laidTests := true, laidLooks := .later }
def FlatOrdersUptoCardSaid : Prop := Claim7.holds Tryd.pinned (.plain (OpenSpec.upto flatOrdersSpec)) flatOrdersUptoCard
end Rows
end Go.Proofs.YtiijbmaamblidaaDoor
