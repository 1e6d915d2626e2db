/-
  DERIVED. GIVEN WITH THE SEED: THE CARDS: each row of YtiijbmaamblidaaGreatDoorRows.lean that lists a variable, with what it lists TIED to the program's text (the seventh form; the later family's looks); each row that meets fmt, with fmt's text TOLD by the authors' own Lean function (tested against real Go, not proved from fmt's source: count such statements apart). THE CARD IS WHAT COUNTS. Prove the row's statement (the work); the ties are given (YtiijbmaamblidaaGreatDoorTie.lean); close each card by the builder's one call (the guide's Derived/Test/ToyasCard.lean, 'card_holds'). Laid BY PROGRAM, IN A SANDBOX (cutbox-door.mjs). By AI agents, Wed Nov 11 2026. No macro, syntax, notation, axiom, sorry.
-/
import Derived.Test.YtiijbmaamblidaaGreatDoorRows
import GoSem.ClaimSeven
namespace Go.Proofs.YtiijbmaamblidaaGreatDoor
namespace Rows

/-- THE TIED CARD OF 'bindlelaw18.FlatMore'. -/
def flatMoreCard : Claim7 := { stood := { row := flatMoreRow, standIns := [], harness := (true, "0d7bd25c65528934ff35ec720f7574956dcbeab6eb272241274240dcf1a7f14a"), looks := false }, kinds := [], alts := [], laidByText := true, laidKinds := [.data, .pinned], laidTests := true, laidLooks := .later }
def FlatMoreCardSaid : Prop := Claim7.holds Tryz.pinned (.plain (OpenSpec.ofChange flatMoreSpec)) flatMoreCard

/-- THE TIED CARD OF 'bindlelaw18.FlatFlattens'. -/
def flatFlattensCard : Claim7 := { stood := { row := flatFlattensRow, standIns := [], harness := (true, "0d7bd25c65528934ff35ec720f7574956dcbeab6eb272241274240dcf1a7f14a"), looks := false }, kinds := [], alts := [], laidByText := true, laidKinds := [.data, .pinned], laidTests := true, laidLooks := .later }
def FlatFlattensCardSaid : Prop := Claim7.holds Tryz.pinned (.plain (OpenSpec.ofChange flatFlattensSpec)) flatFlattensCard

/-- THE TIED CARD OF 'bindlelaw18.FlatSame'. -/
def flatSameCard : Claim7 := { stood := { row := flatSameRow, standIns := [], harness := (true, "0d7bd25c65528934ff35ec720f7574956dcbeab6eb272241274240dcf1a7f14a"), looks := false }, kinds := [], alts := [], laidByText := true, laidKinds := [.data, .pinned], laidTests := true, laidLooks := .later }
def FlatSameCardSaid : Prop := Claim7.holds Tryz.pinned (.plain (OpenSpec.ofChange flatSameSpec)) flatSameCard

/-- THE SECOND FORM's CARD OF 'bindlelaw18.FlatMore'. -/
def flatMoreUptoCard : Claim7 := { stood := { row := flatMoreUptoRow, standIns := [], harness := (true, "0d7bd25c65528934ff35ec720f7574956dcbeab6eb272241274240dcf1a7f14a"), looks := false }, kinds := [], alts := [], laidByText := true, laidKinds := [.data, .pinned], laidTests := true, laidLooks := .later }
def FlatMoreUptoCardSaid : Prop := Claim7.holds Tryz.pinned (.plain (OpenSpec.upto flatMoreSpec)) flatMoreUptoCard

/-- THE SECOND FORM's CARD OF 'bindlelaw18.FlatFlattens'. -/
def flatFlattensUptoCard : Claim7 := { stood := { row := flatFlattensUptoRow, standIns := [], harness := (true, "0d7bd25c65528934ff35ec720f7574956dcbeab6eb272241274240dcf1a7f14a"), looks := false }, kinds := [], alts := [], laidByText := true, laidKinds := [.data, .pinned], laidTests := true, laidLooks := .later }
def FlatFlattensUptoCardSaid : Prop := Claim7.holds Tryz.pinned (.plain (OpenSpec.upto flatFlattensSpec)) flatFlattensUptoCard

/-- THE SECOND FORM's CARD OF 'bindlelaw18.FlatSame'. -/
def flatSameUptoCard : Claim7 := { stood := { row := flatSameUptoRow, standIns := [], harness := (true, "0d7bd25c65528934ff35ec720f7574956dcbeab6eb272241274240dcf1a7f14a"), looks := false }, kinds := [], alts := [], laidByText := true, laidKinds := [.data, .pinned], laidTests := true, laidLooks := .later }
def FlatSameUptoCardSaid : Prop := Claim7.holds Tryz.pinned (.plain (OpenSpec.upto flatSameSpec)) flatSameUptoCard
end Rows
end Go.Proofs.YtiijbmaamblidaaGreatDoor
