/-
  DERIVED. GIVEN WITH THE SEED: THE CARDS: each row of YtodopbdngikpcaaGreatDoorRows.lean that lists a variable, with what it lists TIED to the program's text (the seventh form; the later family's looks); each row that meets fmt, with fmt's text TOLD by the authors' own Lean function (tested against real Go, not proved from fmt's source: count such statements apart). THE CARD IS WHAT COUNTS. Prove the row's statement (the work); the ties are given (YtodopbdngikpcaaGreatDoorTie.lean); close each card by the builder's one call (the guide's Derived/Test/ToyasCard.lean, 'card_holds'). Laid BY PROGRAM, IN A SANDBOX (cutbox-door.mjs). By AI agents, Wed Nov 11 2026. No macro, syntax, notation, axiom, sorry.
-/
import Derived.Test.YtodopbdngikpcaaGreatDoorRows
import GoSem.ClaimSeven
namespace Go.Proofs.YtodopbdngikpcaaGreatDoor
namespace Rows

/-- THE TIED CARD OF 'whittlelaw7.FnApplies'. -/
def fnAppliesCard : Claim7 := { stood := { row := fnAppliesRow, standIns := [], harness := (true, "a066ac9f9e4136bb5a1b0265b3d0cfb6d722f3488251425e16b194d7cb647d41"), looks := false }, kinds := [], alts := [], laidByText := true, laidKinds := [.data, .data, .data, .data, .listed, .data, .pinned, .pinned], laidTests := true, laidLooks := .later }
def FnAppliesCardSaid : Prop := Claim7.holds Tryz.pinned (.plain (OpenSpec.ofChange fnAppliesSpec)) fnAppliesCard

/-- THE TIED CARD OF 'whittlelaw7.FnFaults'. -/
def fnFaultsCard : Claim7 := { stood := { row := fnFaultsRow, standIns := [], harness := (true, "a066ac9f9e4136bb5a1b0265b3d0cfb6d722f3488251425e16b194d7cb647d41"), looks := false }, kinds := [], alts := [], laidByText := true, laidKinds := [.data, .data, .data, .data, .listed, .data, .pinned, .pinned], laidTests := true, laidLooks := .later }
def FnFaultsCardSaid : Prop := Claim7.holds Tryz.pinned (.plain (OpenSpec.ofChange fnFaultsSpec)) fnFaultsCard

/-- THE TIED CARD OF 'whittlelaw7.FnCuts'. -/
def fnCutsCard : Claim7 := { stood := { row := fnCutsRow, standIns := [], harness := (true, "a066ac9f9e4136bb5a1b0265b3d0cfb6d722f3488251425e16b194d7cb647d41"), looks := false }, kinds := [], alts := [], laidByText := true, laidKinds := [.data, .data, .data, .data, .listed, .data, .pinned, .pinned], laidTests := true, laidLooks := .later }
def FnCutsCardSaid : Prop := Claim7.holds Tryz.pinned (.plain (OpenSpec.ofChange fnCutsSpec)) fnCutsCard

/-- THE TIED CARD OF 'whittlelaw7.FnRests'. -/
def fnRestsCard : Claim7 := { stood := { row := fnRestsRow, standIns := [], harness := (true, "a066ac9f9e4136bb5a1b0265b3d0cfb6d722f3488251425e16b194d7cb647d41"), looks := false }, kinds := [], alts := [], laidByText := true, laidKinds := [.data, .data, .data, .data, .listed, .data, .pinned, .pinned], laidTests := true, laidLooks := .later }
def FnRestsCardSaid : Prop := Claim7.holds Tryz.pinned (.plain (OpenSpec.ofChange fnRestsSpec)) fnRestsCard

/-- THE TIED CARD OF 'whittlelaw7.FnFull'. -/
def fnFullCard : Claim7 := { stood := { row := fnFullRow, standIns := [], harness := (true, "a066ac9f9e4136bb5a1b0265b3d0cfb6d722f3488251425e16b194d7cb647d41"), looks := false }, kinds := [], alts := [], laidByText := true, laidKinds := [.data, .data, .data, .data, .listed, .data, .pinned, .pinned], laidTests := true, laidLooks := .later }
def FnFullCardSaid : Prop := Claim7.holds Tryz.pinned (.plain (OpenSpec.ofChange fnFullSpec)) fnFullCard

/-- THE TIED CARD OF 'whittlelaw7.FnBlanks'. -/
def fnBlanksCard : Claim7 := { stood := { row := fnBlanksRow, standIns := [], harness := (true, "a066ac9f9e4136bb5a1b0265b3d0cfb6d722f3488251425e16b194d7cb647d41"), looks := false }, kinds := [], alts := [], laidByText := true, laidKinds := [.data, .data, .data, .data, .listed, .data, .pinned, .pinned], laidTests := true, laidLooks := .later }
def FnBlanksCardSaid : Prop := Claim7.holds Tryz.pinned (.plain (OpenSpec.ofChange fnBlanksSpec)) fnBlanksCard

/-- THE TIED CARD OF 'whittlelaw7.FnFolds'. -/
def fnFoldsCard : Claim7 := { stood := { row := fnFoldsRow, standIns := [], harness := (true, "a066ac9f9e4136bb5a1b0265b3d0cfb6d722f3488251425e16b194d7cb647d41"), looks := false }, kinds := [], alts := [], laidByText := true, laidKinds := [.data, .data, .data, .data, .listed, .data, .pinned, .pinned], laidTests := true, laidLooks := .later }
def FnFoldsCardSaid : Prop := Claim7.holds Tryz.pinned (.plain (OpenSpec.ofChange fnFoldsSpec)) fnFoldsCard

/-- THE SECOND FORM's CARD OF 'whittlelaw7.FnApplies'. -/
def fnAppliesUptoCard : Claim7 := { stood := { row := fnAppliesUptoRow, standIns := [], harness := (true, "a066ac9f9e4136bb5a1b0265b3d0cfb6d722f3488251425e16b194d7cb647d41"), looks := false }, kinds := [], alts := [], laidByText := true, laidKinds := [.data, .data, .data, .data, .listed, .data, .pinned, .pinned], laidTests := true, laidLooks := .later }
def FnAppliesUptoCardSaid : Prop := Claim7.holds Tryz.pinned (.plain (OpenSpec.upto fnAppliesSpec)) fnAppliesUptoCard

/-- THE SECOND FORM's CARD OF 'whittlelaw7.FnFaults'. -/
def fnFaultsUptoCard : Claim7 := { stood := { row := fnFaultsUptoRow, standIns := [], harness := (true, "a066ac9f9e4136bb5a1b0265b3d0cfb6d722f3488251425e16b194d7cb647d41"), looks := false }, kinds := [], alts := [], laidByText := true, laidKinds := [.data, .data, .data, .data, .listed, .data, .pinned, .pinned], laidTests := true, laidLooks := .later }
def FnFaultsUptoCardSaid : Prop := Claim7.holds Tryz.pinned (.plain (OpenSpec.upto fnFaultsSpec)) fnFaultsUptoCard

/-- THE SECOND FORM's CARD OF 'whittlelaw7.FnCuts'. -/
def fnCutsUptoCard : Claim7 := { stood := { row := fnCutsUptoRow, standIns := [], harness := (true, "a066ac9f9e4136bb5a1b0265b3d0cfb6d722f3488251425e16b194d7cb647d41"), looks := false }, kinds := [], alts := [], laidByText := true, laidKinds := [.data, .data, .data, .data, .listed, .data, .pinned, .pinned], laidTests := true, laidLooks := .later }
def FnCutsUptoCardSaid : Prop := Claim7.holds Tryz.pinned (.plain (OpenSpec.upto fnCutsSpec)) fnCutsUptoCard

/-- THE SECOND FORM's CARD OF 'whittlelaw7.FnRests'. -/
def fnRestsUptoCard : Claim7 := { stood := { row := fnRestsUptoRow, standIns := [], harness := (true, "a066ac9f9e4136bb5a1b0265b3d0cfb6d722f3488251425e16b194d7cb647d41"), looks := false }, kinds := [], alts := [], laidByText := true, laidKinds := [.data, .data, .data, .data, .listed, .data, .pinned, .pinned], laidTests := true, laidLooks := .later }
def FnRestsUptoCardSaid : Prop := Claim7.holds Tryz.pinned (.plain (OpenSpec.upto fnRestsSpec)) fnRestsUptoCard

/-- THE SECOND FORM's CARD OF 'whittlelaw7.FnFull'. -/
def fnFullUptoCard : Claim7 := { stood := { row := fnFullUptoRow, standIns := [], harness := (true, "a066ac9f9e4136bb5a1b0265b3d0cfb6d722f3488251425e16b194d7cb647d41"), looks := false }, kinds := [], alts := [], laidByText := true, laidKinds := [.data, .data, .data, .data, .listed, .data, .pinned, .pinned], laidTests := true, laidLooks := .later }
def FnFullUptoCardSaid : Prop := Claim7.holds Tryz.pinned (.plain (OpenSpec.upto fnFullSpec)) fnFullUptoCard

/-- THE SECOND FORM's CARD OF 'whittlelaw7.FnBlanks'. -/
def fnBlanksUptoCard : Claim7 := { stood := { row := fnBlanksUptoRow, standIns := [], harness := (true, "a066ac9f9e4136bb5a1b0265b3d0cfb6d722f3488251425e16b194d7cb647d41"), looks := false }, kinds := [], alts := [], laidByText := true, laidKinds := [.data, .data, .data, .data, .listed, .data, .pinned, .pinned], laidTests := true, laidLooks := .later }
def FnBlanksUptoCardSaid : Prop := Claim7.holds Tryz.pinned (.plain (OpenSpec.upto fnBlanksSpec)) fnBlanksUptoCard

/-- THE SECOND FORM's CARD OF 'whittlelaw7.FnFolds'. -/
def fnFoldsUptoCard : Claim7 := { stood := { row := fnFoldsUptoRow, standIns := [], harness := (true, "a066ac9f9e4136bb5a1b0265b3d0cfb6d722f3488251425e16b194d7cb647d41"), looks := false }, kinds := [], alts := [], laidByText := true, laidKinds := [.data, .data, .data, .data, .listed, .data, .pinned, .pinned], laidTests := true, laidLooks := .later }
def FnFoldsUptoCardSaid : Prop := Claim7.holds Tryz.pinned (.plain (OpenSpec.upto fnFoldsSpec)) fnFoldsUptoCard
end Rows
end Go.Proofs.YtodopbdngikpcaaGreatDoor
