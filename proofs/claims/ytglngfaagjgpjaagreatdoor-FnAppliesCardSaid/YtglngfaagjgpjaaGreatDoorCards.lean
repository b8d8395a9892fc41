/-
  DERIVED. GIVEN WITH THE SEED: THE CARDS: each row of YtglngfaagjgpjaaGreatDoorRows.lean that lists a variable, with what it lists TIED to the program's text (the seventh form; the later family's looks); each row that meets fmt, with fmt's text TOLD by the authors' own Lean function (tested against real Go, not proved from fmt's source: count such statements apart). THE CARD IS WHAT COUNTS. Prove the row's statement (the work); the ties are given (YtglngfaagjgpjaaGreatDoorTie.lean); close each card by the builder's one call (the guide's Derived/Test/ToyasCard.lean, 'card_holds'). Laid BY PROGRAM, IN A SANDBOX (cutbox-door.mjs). By AI agents, Wed Nov 11 2026. No macro, syntax, notation, axiom, sorry.
-/
import Derived.Test.YtglngfaagjgpjaaGreatDoorRows
import GoSem.ClaimSeven
namespace Go.Proofs.YtglngfaagjgpjaaGreatDoor
namespace Rows

/-- THE TIED CARD OF 'whittlelaw7.FnApplies'. -/
def fnAppliesCard : Claim7 := { stood := { row := fnAppliesRow, standIns := [], harness := (true, "8ca9a16da77ab4c1d6e3b0ac9b73d13435699fb2f126e976be9ee194848b3d52"), looks := false }, kinds := [], alts := [], laidByText := true, laidKinds := [.data, .data, .data, .data, .listed, .data, .pinned, .pinned], laidTests := true, laidLooks := .later }
def FnAppliesCardSaid : Prop := Claim7.holds Tryz.pinned (.plain (OpenSpec.ofChange fnAppliesSpec)) fnAppliesCard

/-- THE TIED CARD OF 'whittlelaw7.FnRests'. -/
def fnRestsCard : Claim7 := { stood := { row := fnRestsRow, standIns := [], harness := (true, "8ca9a16da77ab4c1d6e3b0ac9b73d13435699fb2f126e976be9ee194848b3d52"), looks := false }, kinds := [], alts := [], laidByText := true, laidKinds := [.data, .data, .data, .data, .listed, .data, .pinned, .pinned], laidTests := true, laidLooks := .later }
def FnRestsCardSaid : Prop := Claim7.holds Tryz.pinned (.plain (OpenSpec.ofChange fnRestsSpec)) fnRestsCard

/-- THE TIED CARD OF 'whittlelaw7.FnFull'. -/
def fnFullCard : Claim7 := { stood := { row := fnFullRow, standIns := [], harness := (true, "8ca9a16da77ab4c1d6e3b0ac9b73d13435699fb2f126e976be9ee194848b3d52"), looks := false }, kinds := [], alts := [], laidByText := true, laidKinds := [.data, .data, .data, .data, .listed, .data, .pinned, .pinned], laidTests := true, laidLooks := .later }
def FnFullCardSaid : Prop := Claim7.holds Tryz.pinned (.plain (OpenSpec.ofChange fnFullSpec)) fnFullCard

/-- THE TIED CARD OF 'whittlelaw7.FnBlanks'. -/
def fnBlanksCard : Claim7 := { stood := { row := fnBlanksRow, standIns := [], harness := (true, "8ca9a16da77ab4c1d6e3b0ac9b73d13435699fb2f126e976be9ee194848b3d52"), looks := false }, kinds := [], alts := [], laidByText := true, laidKinds := [.data, .data, .data, .data, .listed, .data, .pinned, .pinned], laidTests := true, laidLooks := .later }
def FnBlanksCardSaid : Prop := Claim7.holds Tryz.pinned (.plain (OpenSpec.ofChange fnBlanksSpec)) fnBlanksCard

/-- THE TIED CARD OF 'whittlelaw7.FnFolds'. -/
def fnFoldsCard : Claim7 := { stood := { row := fnFoldsRow, standIns := [], harness := (true, "8ca9a16da77ab4c1d6e3b0ac9b73d13435699fb2f126e976be9ee194848b3d52"), looks := false }, kinds := [], alts := [], laidByText := true, laidKinds := [.data, .data, .data, .data, .listed, .data, .pinned, .pinned], laidTests := true, laidLooks := .later }
def FnFoldsCardSaid : Prop := Claim7.holds Tryz.pinned (.plain (OpenSpec.ofChange fnFoldsSpec)) fnFoldsCard

/-- THE SECOND FORM's CARD OF 'whittlelaw7.FnApplies'. -/
def fnAppliesUptoCard : Claim7 := { stood := { row := fnAppliesUptoRow, standIns := [], harness := (true, "8ca9a16da77ab4c1d6e3b0ac9b73d13435699fb2f126e976be9ee194848b3d52"), looks := false }, kinds := [], alts := [], laidByText := true, laidKinds := [.data, .data, .data, .data, .listed, .data, .pinned, .pinned], laidTests := true, laidLooks := .later }
def FnAppliesUptoCardSaid : Prop := Claim7.holds Tryz.pinned (.plain (OpenSpec.upto fnAppliesSpec)) fnAppliesUptoCard

/-- THE SECOND FORM's CARD OF 'whittlelaw7.FnRests'. -/
def fnRestsUptoCard : Claim7 := { stood := { row := fnRestsUptoRow, standIns := [], harness := (true, "8ca9a16da77ab4c1d6e3b0ac9b73d13435699fb2f126e976be9ee194848b3d52"), looks := false }, kinds := [], alts := [], laidByText := true, laidKinds := [.data, .data, .data, .data, .listed, .data, .pinned, .pinned], laidTests := true, laidLooks := .later }
def FnRestsUptoCardSaid : Prop := Claim7.holds Tryz.pinned (.plain (OpenSpec.upto fnRestsSpec)) fnRestsUptoCard

/-- THE SECOND FORM's CARD OF 'whittlelaw7.FnFull'. -/
def fnFullUptoCard : Claim7 := { stood := { row := fnFullUptoRow, standIns := [], harness := (true, "8ca9a16da77ab4c1d6e3b0ac9b73d13435699fb2f126e976be9ee194848b3d52"), looks := false }, kinds := [], alts := [], laidByText := true, laidKinds := [.data, .data, .data, .data, .listed, .data, .pinned, .pinned], laidTests := true, laidLooks := .later }
def FnFullUptoCardSaid : Prop := Claim7.holds Tryz.pinned (.plain (OpenSpec.upto fnFullSpec)) fnFullUptoCard

/-- THE SECOND FORM's CARD OF 'whittlelaw7.FnBlanks'. -/
def fnBlanksUptoCard : Claim7 := { stood := { row := fnBlanksUptoRow, standIns := [], harness := (true, "8ca9a16da77ab4c1d6e3b0ac9b73d13435699fb2f126e976be9ee194848b3d52"), looks := false }, kinds := [], alts := [], laidByText := true, laidKinds := [.data, .data, .data, .data, .listed, .data, .pinned, .pinned], laidTests := true, laidLooks := .later }
def FnBlanksUptoCardSaid : Prop := Claim7.holds Tryz.pinned (.plain (OpenSpec.upto fnBlanksSpec)) fnBlanksUptoCard

/-- THE SECOND FORM's CARD OF 'whittlelaw7.FnFolds'. -/
def fnFoldsUptoCard : Claim7 := { stood := { row := fnFoldsUptoRow, standIns := [], harness := (true, "8ca9a16da77ab4c1d6e3b0ac9b73d13435699fb2f126e976be9ee194848b3d52"), looks := false }, kinds := [], alts := [], laidByText := true, laidKinds := [.data, .data, .data, .data, .listed, .data, .pinned, .pinned], laidTests := true, laidLooks := .later }
def FnFoldsUptoCardSaid : Prop := Claim7.holds Tryz.pinned (.plain (OpenSpec.upto fnFoldsSpec)) fnFoldsUptoCard
end Rows
end Go.Proofs.YtglngfaagjgpjaaGreatDoor
