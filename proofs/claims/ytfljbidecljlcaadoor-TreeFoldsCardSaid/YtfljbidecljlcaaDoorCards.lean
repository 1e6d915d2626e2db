/-
  DERIVED. GIVEN WITH THE SEED: THE CARDS: each row of YtfljbidecljlcaaDoorRows.lean that lists a variable, with what it lists TIED to the program's text (the seventh form; the later family's looks); each row that meets fmt, with fmt's text TOLD by the authors' own Lean function (tested against real Go, not proved from fmt's source: count such statements apart). THE CARD IS WHAT COUNTS. Prove the row's statement (the work); the ties are given (YtfljbidecljlcaaDoorTie.lean); close each card by the builder's one call (the guide's Derived/Test/ToyasCard.lean, 'card_holds'). Laid BY PROGRAM, IN A SANDBOX (cutbox-door.mjs). By AI agents, Wed Nov 11 2026. No macro, syntax, notation, axiom, sorry.
-/
import Derived.Test.YtfljbidecljlcaaDoorRows
import GoSem.ClaimSeven
namespace Go.Proofs.YtfljbidecljlcaaDoor
namespace Rows

/-- THE TIED CARD OF 'bindlelaw11.LinksMembers'. -/
def linksMembersCard : Claim7 := { stood := { row := linksMembersRow, standIns := [], harness := (true, "425befff52e660dd262724d4775f740d40e7c2d4c578f98f7d18985fcdb7dc7b"), looks := false }, kinds := [], alts := [], laidByText := true, laidKinds := [.data, .pinned], laidTests := true, laidLooks := .later }
def LinksMembersCardSaid : Prop := Claim7.holds Tryd.pinned (.plain (OpenSpec.ofChange linksMembersSpec)) linksMembersCard

/-- THE TIED CARD OF 'bindlelaw11.LinksOrder'. -/
def linksOrderCard : Claim7 := { stood := { row := linksOrderRow, standIns := [], harness := (true, "425befff52e660dd262724d4775f740d40e7c2d4c578f98f7d18985fcdb7dc7b"), looks := false }, kinds := [], alts := [], laidByText := true, laidKinds := [.data, .pinned], laidTests := true, laidLooks := .later }
def LinksOrderCardSaid : Prop := Claim7.holds Tryd.pinned (.plain (OpenSpec.ofChange linksOrderSpec)) linksOrderCard

/-- THE TIED CARD OF 'bindlelaw11.LinksSound'. -/
def linksSoundCard : Claim7 := { stood := { row := linksSoundRow, standIns := [], harness := (true, "425befff52e660dd262724d4775f740d40e7c2d4c578f98f7d18985fcdb7dc7b"), looks := false }, kinds := [], alts := [], laidByText := true, laidKinds := [.data, .pinned], laidTests := true, laidLooks := .later }
def LinksSoundCardSaid : Prop := Claim7.holds Tryd.pinned (.plain (OpenSpec.ofChange linksSoundSpec)) linksSoundCard

/-- THE TIED CARD OF 'bindlelaw11.LinksClasses'. -/
def linksClassesCard : Claim7 := { stood := { row := linksClassesRow, standIns := [], harness := (true, "425befff52e660dd262724d4775f740d40e7c2d4c578f98f7d18985fcdb7dc7b"), looks := false }, kinds := [], alts := [], laidByText := true, laidKinds := [.data, .pinned], laidTests := true, laidLooks := .later }
def LinksClassesCardSaid : Prop := Claim7.holds Tryd.pinned (.plain (OpenSpec.ofChange linksClassesSpec)) linksClassesCard

/-- THE TIED CARD OF 'bindlelaw11.LinksFirst'. -/
def linksFirstCard : Claim7 := { stood := { row := linksFirstRow, standIns := [], harness := (true, "425befff52e660dd262724d4775f740d40e7c2d4c578f98f7d18985fcdb7dc7b"), looks := false }, kinds := [], alts := [], laidByText := true, laidKinds := [.data, .pinned], laidTests := true, laidLooks := .later }
def LinksFirstCardSaid : Prop := Claim7.holds Tryd.pinned (.plain (OpenSpec.ofChange linksFirstSpec)) linksFirstCard

/-- THE TIED CARD OF 'bindlelaw10.TreeFolds'. -/
def treeFoldsCard : Claim7 := { stood := { row := treeFoldsRow, standIns := [], harness := (true, "425befff52e660dd262724d4775f740d40e7c2d4c578f98f7d18985fcdb7dc7b"), looks := false }, kinds := [], alts := [], laidByText := true, laidKinds := [.data, .pinned], laidTests := true, laidLooks := .later }
def TreeFoldsCardSaid : Prop := Claim7.holds Tryd.pinned (.plain (OpenSpec.ofChange treeFoldsSpec)) treeFoldsCard

/-- THE TIED CARD OF 'bindlelaw10.TreeGood'. -/
def treeGoodCard : Claim7 := { stood := { row := treeGoodRow, standIns := [], harness := (true, "425befff52e660dd262724d4775f740d40e7c2d4c578f98f7d18985fcdb7dc7b"), looks := false }, kinds := [], alts := [], laidByText := true, laidKinds := [.data, .pinned], laidTests := true, laidLooks := .later }
def TreeGoodCardSaid : Prop := Claim7.holds Tryd.pinned (.plain (OpenSpec.ofChange treeGoodSpec)) treeGoodCard

/-- THE TIED CARD OF 'bindlelaw10.TreeLast'. -/
def treeLastCard : Claim7 := { stood := { row := treeLastRow, standIns := [], harness := (true, "425befff52e660dd262724d4775f740d40e7c2d4c578f98f7d18985fcdb7dc7b"), looks := false }, kinds := [], alts := [], laidByText := true, laidKinds := [.data, .pinned], laidTests := true, laidLooks := .later }
def TreeLastCardSaid : Prop := Claim7.holds Tryd.pinned (.plain (OpenSpec.ofChange treeLastSpec)) treeLastCard

/-- THE TIED CARD OF 'bindlelaw10.TreeOrder'. -/
def treeOrderCard : Claim7 := { stood := { row := treeOrderRow, standIns := [], harness := (true, "425befff52e660dd262724d4775f740d40e7c2d4c578f98f7d18985fcdb7dc7b"), looks := false }, kinds := [], alts := [], laidByText := true, laidKinds := [.data, .pinned], laidTests := true, laidLooks := .later }
def TreeOrderCardSaid : Prop := Claim7.holds Tryd.pinned (.plain (OpenSpec.ofChange treeOrderSpec)) treeOrderCard

/-- THE TIED CARD OF 'bindlelaw10.TreeFinds'. -/
def treeFindsCard : Claim7 := { stood := { row := treeFindsRow, standIns := [], harness := (true, "425befff52e660dd262724d4775f740d40e7c2d4c578f98f7d18985fcdb7dc7b"), looks := false }, kinds := [], alts := [], laidByText := true, laidKinds := [.data, .pinned], laidTests := true, laidLooks := .later }
def TreeFindsCardSaid : Prop := Claim7.holds Tryd.pinned (.plain (OpenSpec.ofChange treeFindsSpec)) treeFindsCard

/-- THE TIED CARD OF 'bindlelaw11.LinksBack'. -/
def linksBackCard : Claim7 := { stood := { row := linksBackRow, standIns := [], harness := (true, "425befff52e660dd262724d4775f740d40e7c2d4c578f98f7d18985fcdb7dc7b"), looks := false }, kinds := [], alts := [], laidByText := true, laidKinds := [.data, .pinned], laidTests := true, laidLooks := .later }
def LinksBackCardSaid : Prop := Claim7.holds Tryd.pinned (.plain (OpenSpec.ofChange linksBackSpec)) linksBackCard

/-- THE SECOND FORM's CARD OF 'bindlelaw11.LinksMembers'. -/
def linksMembersUptoCard : Claim7 := { stood := { row := linksMembersUptoRow, standIns := [], harness := (true, "425befff52e660dd262724d4775f740d40e7c2d4c578f98f7d18985fcdb7dc7b"), looks := false }, kinds := [], alts := [], laidByText := true, laidKinds := [.data, .pinned], laidTests := true, laidLooks := .later }
def LinksMembersUptoCardSaid : Prop := Claim7.holds Tryd.pinned (.plain (OpenSpec.upto linksMembersSpec)) linksMembersUptoCard

/-- THE SECOND FORM's CARD OF 'bindlelaw11.LinksOrder'. -/
def linksOrderUptoCard : Claim7 := { stood := { row := linksOrderUptoRow, standIns := [], harness := (true, "425befff52e660dd262724d4775f740d40e7c2d4c578f98f7d18985fcdb7dc7b"), looks := false }, kinds := [], alts := [], laidByText := true, laidKinds := [.data, .pinned], laidTests := true, laidLooks := .later }
def LinksOrderUptoCardSaid : Prop := Claim7.holds Tryd.pinned (.plain (OpenSpec.upto linksOrderSpec)) linksOrderUptoCard

/-- THE SECOND FORM's CARD OF 'bindlelaw11.LinksSound'. -/
def linksSoundUptoCard : Claim7 := { stood := { row := linksSoundUptoRow, standIns := [], harness := (true, "425befff52e660dd262724d4775f740d40e7c2d4c578f98f7d18985fcdb7dc7b"), looks := false }, kinds := [], alts := [], laidByText := true, laidKinds := [.data, .pinned], laidTests := true, laidLooks := .later }
def LinksSoundUptoCardSaid : Prop := Claim7.holds Tryd.pinned (.plain (OpenSpec.upto linksSoundSpec)) linksSoundUptoCard

/-- THE SECOND FORM's CARD OF 'bindlelaw11.LinksClasses'. -/
def linksClassesUptoCard : Claim7 := { stood := { row := linksClassesUptoRow, standIns := [], harness := (true, "425befff52e660dd262724d4775f740d40e7c2d4c578f98f7d18985fcdb7dc7b"), looks := false }, kinds := [], alts := [], laidByText := true, laidKinds := [.data, .pinned], laidTests := true, laidLooks := .later }
def LinksClassesUptoCardSaid : Prop := Claim7.holds Tryd.pinned (.plain (OpenSpec.upto linksClassesSpec)) linksClassesUptoCard

/-- THE SECOND FORM's CARD OF 'bindlelaw11.LinksFirst'. -/
def linksFirstUptoCard : Claim7 := { stood := { row := linksFirstUptoRow, standIns := [], harness := (true, "425befff52e660dd262724d4775f740d40e7c2d4c578f98f7d18985fcdb7dc7b"), looks := false }, kinds := [], alts := [], laidByText := true, laidKinds := [.data, .pinned], laidTests := true, laidLooks := .later }
def LinksFirstUptoCardSaid : Prop := Claim7.holds Tryd.pinned (.plain (OpenSpec.upto linksFirstSpec)) linksFirstUptoCard

/-- THE SECOND FORM's CARD OF 'bindlelaw10.TreeFolds'. -/
def treeFoldsUptoCard : Claim7 := { stood := { row := treeFoldsUptoRow, standIns := [], harness := (true, "425befff52e660dd262724d4775f740d40e7c2d4c578f98f7d18985fcdb7dc7b"), looks := false }, kinds := [], alts := [], laidByText := true, laidKinds := [.data, .pinned], laidTests := true, laidLooks := .later }
def TreeFoldsUptoCardSaid : Prop := Claim7.holds Tryd.pinned (.plain (OpenSpec.upto treeFoldsSpec)) treeFoldsUptoCard

/-- THE SECOND FORM's CARD OF 'bindlelaw10.TreeGood'. -/
def treeGoodUptoCard : Claim7 := { stood := { row := treeGoodUptoRow, standIns := [], harness := (true, "425befff52e660dd262724d4775f740d40e7c2d4c578f98f7d18985fcdb7dc7b"), looks := false }, kinds := [], alts := [], laidByText := true, laidKinds := [.data, .pinned], laidTests := true, laidLooks := .later }
def TreeGoodUptoCardSaid : Prop := Claim7.holds Tryd.pinned (.plain (OpenSpec.upto treeGoodSpec)) treeGoodUptoCard

/-- THE SECOND FORM's CARD OF 'bindlelaw10.TreeLast'. -/
def treeLastUptoCard : Claim7 := { stood := { row := treeLastUptoRow, standIns := [], harness := (true, "425befff52e660dd262724d4775f740d40e7c2d4c578f98f7d18985fcdb7dc7b"), looks := false }, kinds := [], alts := [], laidByText := true, laidKinds := [.data, .pinned], laidTests := true, laidLooks := .later }
def TreeLastUptoCardSaid : Prop := Claim7.holds Tryd.pinned (.plain (OpenSpec.upto treeLastSpec)) treeLastUptoCard

/-- THE SECOND FORM's CARD OF 'bindlelaw10.TreeOrder'. -/
def treeOrderUptoCard : Claim7 := { stood := { row := treeOrderUptoRow, standIns := [], harness := (true, "425befff52e660dd262724d4775f740d40e7c2d4c578f98f7d18985fcdb7dc7b"), looks := false }, kinds := [], alts := [], laidByText := true, laidKinds := [.data, .pinned], laidTests := true, laidLooks := .later }
def TreeOrderUptoCardSaid : Prop := Claim7.holds Tryd.pinned (.plain (OpenSpec.upto treeOrderSpec)) treeOrderUptoCard

/-- THE SECOND FORM's CARD OF 'bindlelaw10.TreeFinds'. -/
def treeFindsUptoCard : Claim7 := { stood := { row := treeFindsUptoRow, standIns := [], harness := (true, "425befff52e660dd262724d4775f740d40e7c2d4c578f98f7d18985fcdb7dc7b"), looks := false }, kinds := [], alts := [], laidByText := true, laidKinds := [.data, .pinned], laidTests := true, laidLooks := .later }
def TreeFindsUptoCardSaid : Prop := Claim7.holds Tryd.pinned (.plain (OpenSpec.upto treeFindsSpec)) treeFindsUptoCard

/-- THE SECOND FORM's CARD OF 'bindlelaw11.LinksBack'. -/
def linksBackUptoCard : Claim7 := { stood := { row := linksBackUptoRow, standIns := [], harness := (true, "425befff52e660dd262724d4775f740d40e7c2d4c578f98f7d18985fcdb7dc7b"), looks := false }, kinds := [], alts := [], laidByText := true, laidKinds := [.data, .pinned], laidTests := true, laidLooks := .later }
def LinksBackUptoCardSaid : Prop := Claim7.holds Tryd.pinned (.plain (OpenSpec.upto linksBackSpec)) linksBackUptoCard
end Rows
end Go.Proofs.YtfljbidecljlcaaDoor
