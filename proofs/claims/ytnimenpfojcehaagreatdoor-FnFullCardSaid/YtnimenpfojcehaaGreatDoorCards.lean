/-
  DERIVED. GIVEN WITH THE SEED: THE CARDS: each row of YtnimenpfojcehaaGreatDoorRows.lean that lists a variable, with what it lists TIED to the program's text (the seventh form; the later family's looks); each row that meets fmt, with fmt's text TOLD by the authors' own Lean function (tested against real Go, not proved from fmt's source: count such statements apart). THE CARD IS WHAT COUNTS. Prove the row's statement (the work); the ties are given (YtnimenpfojcehaaGreatDoorTie.lean); close each card by the builder's one call (the guide's Derived/Test/ToyasCard.lean, 'card_holds'). Laid BY PROGRAM, IN A SANDBOX (cutbox-door.mjs). By AI agents, Wed Nov 11 2026. No macro, syntax, notation, axiom, sorry.
-/
import Derived.Test.YtnimenpfojcehaaGreatDoorRows
import GoSem.ClaimSeven
namespace Go.Proofs.YtnimenpfojcehaaGreatDoor
namespace Rows

/-- THE TIED CARD OF 'whittlelaw7.FnRests'. -/
def fnRestsCard : Claim7 := { stood := { row := fnRestsRow, standIns := [], harness := (true, "ba87503f1389251cb8c33c1b4701ad7f5a55a793094ad2b0736e21b386fccd0f"), looks := false }, kinds := [], alts := [], laidByText := true, laidKinds := [.data, .data, .data, .data, .listed, .data, .pinned, .pinned], laidTests := true, laidLooks := .later }
def FnRestsCardSaid : Prop := Claim7.holds Tryz.pinned (.plain (OpenSpec.ofChange fnRestsSpec)) fnRestsCard

/-- THE TIED CARD OF 'whittlelaw7.FnFull'. -/
def fnFullCard : Claim7 := { stood := { row := fnFullRow, standIns := [], harness := (true, "ba87503f1389251cb8c33c1b4701ad7f5a55a793094ad2b0736e21b386fccd0f"), looks := false }, kinds := [], alts := [], laidByText := true, laidKinds := [.data, .data, .data, .data, .listed, .data, .pinned, .pinned], laidTests := true, laidLooks := .later }
def FnFullCardSaid : Prop := Claim7.holds Tryz.pinned (.plain (OpenSpec.ofChange fnFullSpec)) fnFullCard

/-- THE TIED CARD OF 'whittlelaw7.FnBlanks'. -/
def fnBlanksCard : Claim7 := { stood := { row := fnBlanksRow, standIns := [], harness := (true, "ba87503f1389251cb8c33c1b4701ad7f5a55a793094ad2b0736e21b386fccd0f"), looks := false }, kinds := [], alts := [], laidByText := true, laidKinds := [.data, .data, .data, .data, .listed, .data, .pinned, .pinned], laidTests := true, laidLooks := .later }
def FnBlanksCardSaid : Prop := Claim7.holds Tryz.pinned (.plain (OpenSpec.ofChange fnBlanksSpec)) fnBlanksCard

/-- THE SECOND FORM's CARD OF 'whittlelaw7.FnRests'. -/
def fnRestsUptoCard : Claim7 := { stood := { row := fnRestsUptoRow, standIns := [], harness := (true, "ba87503f1389251cb8c33c1b4701ad7f5a55a793094ad2b0736e21b386fccd0f"), looks := false }, kinds := [], alts := [], laidByText := true, laidKinds := [.data, .data, .data, .data, .listed, .data, .pinned, .pinned], laidTests := true, laidLooks := .later }
def FnRestsUptoCardSaid : Prop := Claim7.holds Tryz.pinned (.plain (OpenSpec.upto fnRestsSpec)) fnRestsUptoCard

/-- THE SECOND FORM's CARD OF 'whittlelaw7.FnFull'. -/
def fnFullUptoCard : Claim7 := { stood := { row := fnFullUptoRow, standIns := [], harness := (true, "ba87503f1389251cb8c33c1b4701ad7f5a55a793094ad2b0736e21b386fccd0f"), looks := false }, kinds := [], alts := [], laidByText := true, laidKinds := [.data, .data, .data, .data, .listed, .data, .pinned, .pinned], laidTests := true, laidLooks := .later }
def FnFullUptoCardSaid : Prop := Claim7.holds Tryz.pinned (.plain (OpenSpec.upto fnFullSpec)) fnFullUptoCard

/-- THE SECOND FORM's CARD OF 'whittlelaw7.FnBlanks'. -/
def fnBlanksUptoCard : Claim7 := { stood := { row := fnBlanksUptoRow, standIns := [], harness := (true, "ba87503f1389251cb8c33c1b4701ad7f5a55a793094ad2b0736e21b386fccd0f"), looks := false }, kinds := [], alts := [], laidByText := true, laidKinds := [.data, .data, .data, .data, .listed, .data, .pinned, .pinned], laidTests := true, laidLooks := .later }
def FnBlanksUptoCardSaid : Prop := Claim7.holds Tryz.pinned (.plain (OpenSpec.upto fnBlanksSpec)) fnBlanksUptoCard
end Rows
end Go.Proofs.YtnimenpfojcehaaGreatDoor
