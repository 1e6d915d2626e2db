/-
  DERIVED. GIVEN WITH THE SEED: THE CARDS: each row of YtenmlenlliokkaaDoorRows.lean that lists a variable, with what it lists TIED to the program's text (the seventh form; the later family's looks); each row that meets fmt, with fmt's text TOLD by the authors' own Lean function (tested against real Go, not proved from fmt's source: count such statements apart). THE CARD IS WHAT COUNTS. Prove the row's statement (the work); the ties are given (YtenmlenlliokkaaDoorTie.lean); close each card by the builder's one call (the guide's Derived/Test/ToyasCard.lean, 'card_holds'). Laid BY PROGRAM, IN A SANDBOX (cutbox-door.mjs). By AI agents, Wed Nov 11 2026. No macro, syntax, notation, axiom, sorry.
-/
import Derived.Test.YtenmlenlliokkaaDoorRows
import GoSem.ClaimSeven
namespace Go.Proofs.YtenmlenlliokkaaDoor
namespace Rows

/-- THE TIED CARD OF 'bindlelaw05.PathCleans'. -/
def pathCleansCard : Claim7 := { stood := { row := pathCleansRow, standIns := [], harness := (true, "f8425f9912a8485b57fdfad699b020e2558479d66023e8f6e73a537da2078fab"), looks := false }, kinds := [], alts := [], laidByText := true, laidKinds := [.data, .pinned], laidTests := true, laidLooks := .later }
def PathCleansCardSaid : Prop := Claim7.holds Tryd.pinned (.plain (OpenSpec.ofChange pathCleansSpec)) pathCleansCard

/-- THE TIED CARD OF 'bindlelaw05.PathFixed'. -/
def pathFixedCard : Claim7 := { stood := { row := pathFixedRow, standIns := [], harness := (true, "f8425f9912a8485b57fdfad699b020e2558479d66023e8f6e73a537da2078fab"), looks := false }, kinds := [], alts := [], laidByText := true, laidKinds := [.data, .pinned], laidTests := true, laidLooks := .later }
def PathFixedCardSaid : Prop := Claim7.holds Tryd.pinned (.plain (OpenSpec.ofChange pathFixedSpec)) pathFixedCard

/-- THE TIED CARD OF 'bindlelaw05.PathTargets'. -/
def pathTargetsCard : Claim7 := { stood := { row := pathTargetsRow, standIns := [], harness := (true, "f8425f9912a8485b57fdfad699b020e2558479d66023e8f6e73a537da2078fab"), looks := false }, kinds := [], alts := [], laidByText := true, laidKinds := [.data, .pinned], laidTests := true, laidLooks := .later }
def PathTargetsCardSaid : Prop := Claim7.holds Tryd.pinned (.plain (OpenSpec.ofChange pathTargetsSpec)) pathTargetsCard

/-- THE TIED CARD OF 'bindlelaw05.PathLess'. -/
def pathLessCard : Claim7 := { stood := { row := pathLessRow, standIns := [], harness := (true, "f8425f9912a8485b57fdfad699b020e2558479d66023e8f6e73a537da2078fab"), looks := false }, kinds := [], alts := [], laidByText := true, laidKinds := [.data, .pinned], laidTests := true, laidLooks := .later }
def PathLessCardSaid : Prop := Claim7.holds Tryd.pinned (.plain (OpenSpec.ofChange pathLessSpec)) pathLessCard

/-- THE TIED CARD OF 'bindlelaw05.PathJoins'. -/
def pathJoinsCard : Claim7 := { stood := { row := pathJoinsRow, standIns := [], harness := (true, "f8425f9912a8485b57fdfad699b020e2558479d66023e8f6e73a537da2078fab"), looks := false }, kinds := [], alts := [], laidByText := true, laidKinds := [.data, .pinned], laidTests := true, laidLooks := .later }
def PathJoinsCardSaid : Prop := Claim7.holds Tryd.pinned (.plain (OpenSpec.ofChange pathJoinsSpec)) pathJoinsCard

/-- THE SECOND FORM's CARD OF 'bindlelaw05.PathCleans'. -/
def pathCleansUptoCard : Claim7 := { stood := { row := pathCleansUptoRow, standIns := [], harness := (true, "f8425f9912a8485b57fdfad699b020e2558479d66023e8f6e73a537da2078fab"), looks := false }, kinds := [], alts := [], laidByText := true, laidKinds := [.data, .pinned], laidTests := true, laidLooks := .later }
def PathCleansUptoCardSaid : Prop := Claim7.holds Tryd.pinned (.plain (OpenSpec.upto pathCleansSpec)) pathCleansUptoCard

/-- THE SECOND FORM's CARD OF 'bindlelaw05.PathFixed'. -/
def pathFixedUptoCard : Claim7 := { stood := { row := pathFixedUptoRow, standIns := [], harness := (true, "f8425f9912a8485b57fdfad699b020e2558479d66023e8f6e73a537da2078fab"), looks := false }, kinds := [], alts := [], laidByText := true, laidKinds := [.data, .pinned], laidTests := true, laidLooks := .later }
def PathFixedUptoCardSaid : Prop := Claim7.holds Tryd.pinned (.plain (OpenSpec.upto pathFixedSpec)) pathFixedUptoCard

/-- THE SECOND FORM's CARD OF 'bindlelaw05.PathTargets'. -/
def pathTargetsUptoCard : Claim7 := { stood := { row := pathTargetsUptoRow, standIns := [], harness := (true, "f8425f9912a8485b57fdfad699b020e2558479d66023e8f6e73a537da2078fab"), looks := false }, kinds := [], alts := [], laidByText := true, laidKinds := [.data, .pinned], laidTests := true, laidLooks := .later }
def PathTargetsUptoCardSaid : Prop := Claim7.holds Tryd.pinned (.plain (OpenSpec.upto pathTargetsSpec)) pathTargetsUptoCard

/-- THE SECOND FORM's CARD OF 'bindlelaw05.PathLess'. -/
def pathLessUptoCard : Claim7 := { stood := { row := pathLessUptoRow, standIns := [], harness := (true, "f8425f9912a8485b57fdfad699b020e2558479d66023e8f6e73a537da2078fab"), looks := false }, kinds := [], alts := [], laidByText := true, laidKinds := [.data, .pinned], laidTests := true, laidLooks := .later }
def PathLessUptoCardSaid : Prop := Claim7.holds Tryd.pinned (.plain (OpenSpec.upto pathLessSpec)) pathLessUptoCard

/-- THE SECOND FORM's CARD OF 'bindlelaw05.PathJoins'. -/
def pathJoinsUptoCard : Claim7 := { stood := { row := pathJoinsUptoRow, standIns := [], harness := (true, "f8425f9912a8485b57fdfad699b020e2558479d66023e8f6e73a537da2078fab"), looks := false }, kinds := [], alts := [], laidByText := true, laidKinds := [.data, .pinned], laidTests := true, laidLooks := .later }
def PathJoinsUptoCardSaid : Prop := Claim7.holds Tryd.pinned (.plain (OpenSpec.upto pathJoinsSpec)) pathJoinsUptoCard
end Rows
end Go.Proofs.YtenmlenlliokkaaDoor
