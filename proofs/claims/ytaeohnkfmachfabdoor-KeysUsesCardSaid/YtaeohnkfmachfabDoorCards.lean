/-
  DERIVED. GIVEN WITH THE SEED: THE CARDS: each row of YtaeohnkfmachfabDoorRows.lean that lists a variable, with what it lists TIED to the program's text (the seventh form; the later family's looks); each row that meets fmt, with fmt's text TOLD by the authors' own Lean function (tested against real Go, not proved from fmt's source: count such statements apart). THE CARD IS WHAT COUNTS. Prove the row's statement (the work); the ties are given (YtaeohnkfmachfabDoorTie.lean); close each card by the builder's one call (the guide's Derived/Test/ToyasCard.lean, 'card_holds'). Laid BY PROGRAM, IN A SANDBOX (cutbox-door.mjs). By AI agents, Wed Nov 11 2026. No macro, syntax, notation, axiom, sorry.
-/
import Derived.Test.YtaeohnkfmachfabDoorRows
import GoSem.ClaimSeven
namespace Go.Proofs.YtaeohnkfmachfabDoor
namespace Rows

/-- THE TIED CARD OF 'seedcornlaw06.KeysPublic'. -/
def keysPublicCard : Claim7 := { stood := { row := keysPublicRow, standIns := [], harness := (true, "c6722e4838c5cc3cf8281318dbcdab36c9be3731c970d31963ab484af54a9a64"), looks := false }, kinds := [], alts := [], laidByText := true, laidKinds := [.data], laidTests := true, laidLooks := .later }
def KeysPublicCardSaid : Prop := Claim7.holds Tryd.pinned (.plain (OpenSpec.ofChange keysPublicSpec)) keysPublicCard

/-- THE TIED CARD OF 'seedcornlaw06.KeysUses'. -/
def keysUsesCard : Claim7 := { stood := { row := keysUsesRow, standIns := [], harness := (true, "c6722e4838c5cc3cf8281318dbcdab36c9be3731c970d31963ab484af54a9a64"), looks := false }, kinds := [], alts := [], laidByText := true, laidKinds := [.data], laidTests := true, laidLooks := .later }
def KeysUsesCardSaid : Prop := Claim7.holds Tryd.pinned (.plain (OpenSpec.ofChange keysUsesSpec)) keysUsesCard

/-- THE TIED CARD OF 'seedcornlaw06.KeysRow'. -/
def keysRowCard : Claim7 := { stood := { row := keysRowRow, standIns := [], harness := (true, "c6722e4838c5cc3cf8281318dbcdab36c9be3731c970d31963ab484af54a9a64"), looks := false }, kinds := [], alts := [], laidByText := true, laidKinds := [.data], laidTests := true, laidLooks := .later }
def KeysRowCardSaid : Prop := Claim7.holds Tryd.pinned (.plain (OpenSpec.ofChange keysRowSpec)) keysRowCard

/-- THE TIED CARD OF 'seedcorntop.SystemKey'. -/
def systemKeyCard : Claim7 := { stood := { row := systemKeyRow, standIns := [], harness := (true, "c6722e4838c5cc3cf8281318dbcdab36c9be3731c970d31963ab484af54a9a64"), looks := false }, kinds := [], alts := [], laidByText := true, laidKinds := [.data], laidTests := true, laidLooks := .later }
def SystemKeyCardSaid : Prop := Claim7.holds Tryd.pinned (.plain (OpenSpec.ofChange systemKeySpec)) systemKeyCard

/-- THE SECOND FORM's CARD OF 'seedcornlaw06.KeysPublic'. -/
def keysPublicUptoCard : Claim7 := { stood := { row := keysPublicUptoRow, standIns := [], harness := (true, "c6722e4838c5cc3cf8281318dbcdab36c9be3731c970d31963ab484af54a9a64"), looks := false }, kinds := [], alts := [], laidByText := true, laidKinds := [.data], laidTests := true, laidLooks := .later }
def KeysPublicUptoCardSaid : Prop := Claim7.holds Tryd.pinned (.plain (OpenSpec.upto keysPublicSpec)) keysPublicUptoCard

/-- THE SECOND FORM's CARD OF 'seedcornlaw06.KeysUses'. -/
def keysUsesUptoCard : Claim7 := { stood := { row := keysUsesUptoRow, standIns := [], harness := (true, "c6722e4838c5cc3cf8281318dbcdab36c9be3731c970d31963ab484af54a9a64"), looks := false }, kinds := [], alts := [], laidByText := true, laidKinds := [.data], laidTests := true, laidLooks := .later }
def KeysUsesUptoCardSaid : Prop := Claim7.holds Tryd.pinned (.plain (OpenSpec.upto keysUsesSpec)) keysUsesUptoCard

/-- THE SECOND FORM's CARD OF 'seedcornlaw06.KeysRow'. -/
def keysRowUptoCard : Claim7 := { stood := { row := keysRowUptoRow, standIns := [], harness := (true, "c6722e4838c5cc3cf8281318dbcdab36c9be3731c970d31963ab484af54a9a64"), looks := false }, kinds := [], alts := [], laidByText := true, laidKinds := [.data], laidTests := true, laidLooks := .later }
def KeysRowUptoCardSaid : Prop := Claim7.holds Tryd.pinned (.plain (OpenSpec.upto keysRowSpec)) keysRowUptoCard

/-- THE SECOND FORM's CARD OF 'seedcorntop.SystemKey'. -/
def systemKeyUptoCard : Claim7 := { stood := { row := systemKeyUptoRow, standIns := [], harness := (true, "c6722e4838c5cc3cf8281318dbcdab36c9be3731c970d31963ab484af54a9a64"), looks := false }, kinds := [], alts := [], laidByText := true, laidKinds := [.data], laidTests := true, laidLooks := .later }
def SystemKeyUptoCardSaid : Prop := Claim7.holds Tryd.pinned (.plain (OpenSpec.upto systemKeySpec)) systemKeyUptoCard
end Rows
end Go.Proofs.YtaeohnkfmachfabDoor
