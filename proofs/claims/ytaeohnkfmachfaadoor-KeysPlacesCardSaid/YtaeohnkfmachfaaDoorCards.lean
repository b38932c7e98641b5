/-
  DERIVED. GIVEN WITH THE SEED: THE CARDS: each row of YtaeohnkfmachfaaDoorRows.lean that lists a variable, with what it lists TIED to the program's text (the seventh form; the later family's looks); each row that meets fmt, with fmt's text TOLD by the authors' own Lean function (tested against real Go, not proved from fmt's source: count such statements apart). THE CARD IS WHAT COUNTS. Prove the row's statement (the work); the ties are given (YtaeohnkfmachfaaDoorTie.lean); close each card by the builder's one call (the guide's Derived/Test/ToyasCard.lean, 'card_holds'). Laid BY PROGRAM, IN A SANDBOX (cutbox-door.mjs). By AI agents, Wed Nov 11 2026. No macro, syntax, notation, axiom, sorry.
-/
import Derived.Test.YtaeohnkfmachfaaDoorRows
import GoSem.ClaimSeven
namespace Go.Proofs.YtaeohnkfmachfaaDoor
namespace Rows

/-- THE TIED CARD OF 'seedcornlaw06.KeysSigns'. -/
def keysSignsCard : Claim7 := { stood := { row := keysSignsRow, standIns := [], harness := (true, "82ce6fd48e4110caf9e81a68f535033c16464a7dbbc702eda3510c899062f812"), looks := false }, kinds := [], alts := [], laidByText := true, laidKinds := [.data], laidTests := true, laidLooks := .later }
def KeysSignsCardSaid : Prop := Claim7.holds Tryd.pinned (.plain (OpenSpec.ofChange keysSignsSpec)) keysSignsCard

/-- THE TIED CARD OF 'seedcornlaw06.KeysCheck'. -/
def keysCheckCard : Claim7 := { stood := { row := keysCheckRow, standIns := [], harness := (true, "82ce6fd48e4110caf9e81a68f535033c16464a7dbbc702eda3510c899062f812"), looks := false }, kinds := [], alts := [], laidByText := true, laidKinds := [.data], laidTests := true, laidLooks := .later }
def KeysCheckCardSaid : Prop := Claim7.holds Tryd.pinned (.plain (OpenSpec.ofChange keysCheckSpec)) keysCheckCard

/-- THE TIED CARD OF 'seedcornlaw06.KeysClash'. -/
def keysClashCard : Claim7 := { stood := { row := keysClashRow, standIns := [], harness := (true, "82ce6fd48e4110caf9e81a68f535033c16464a7dbbc702eda3510c899062f812"), looks := false }, kinds := [], alts := [], laidByText := true, laidKinds := [.data], laidTests := true, laidLooks := .later }
def KeysClashCardSaid : Prop := Claim7.holds Tryd.pinned (.plain (OpenSpec.ofChange keysClashSpec)) keysClashCard

/-- THE TIED CARD OF 'seedcornlaw06.KeysPlaces'. -/
def keysPlacesCard : Claim7 := { stood := { row := keysPlacesRow, standIns := [], harness := (true, "82ce6fd48e4110caf9e81a68f535033c16464a7dbbc702eda3510c899062f812"), looks := false }, kinds := [], alts := [], laidByText := true, laidKinds := [.data], laidTests := true, laidLooks := .later }
def KeysPlacesCardSaid : Prop := Claim7.holds Tryd.pinned (.plain (OpenSpec.ofChange keysPlacesSpec)) keysPlacesCard

/-- THE SECOND FORM's CARD OF 'seedcornlaw06.KeysSigns'. -/
def keysSignsUptoCard : Claim7 := { stood := { row := keysSignsUptoRow, standIns := [], harness := (true, "82ce6fd48e4110caf9e81a68f535033c16464a7dbbc702eda3510c899062f812"), looks := false }, kinds := [], alts := [], laidByText := true, laidKinds := [.data], laidTests := true, laidLooks := .later }
def KeysSignsUptoCardSaid : Prop := Claim7.holds Tryd.pinned (.plain (OpenSpec.upto keysSignsSpec)) keysSignsUptoCard

/-- THE SECOND FORM's CARD OF 'seedcornlaw06.KeysCheck'. -/
def keysCheckUptoCard : Claim7 := { stood := { row := keysCheckUptoRow, standIns := [], harness := (true, "82ce6fd48e4110caf9e81a68f535033c16464a7dbbc702eda3510c899062f812"), looks := false }, kinds := [], alts := [], laidByText := true, laidKinds := [.data], laidTests := true, laidLooks := .later }
def KeysCheckUptoCardSaid : Prop := Claim7.holds Tryd.pinned (.plain (OpenSpec.upto keysCheckSpec)) keysCheckUptoCard

/-- THE SECOND FORM's CARD OF 'seedcornlaw06.KeysClash'. -/
def keysClashUptoCard : Claim7 := { stood := { row := keysClashUptoRow, standIns := [], harness := (true, "82ce6fd48e4110caf9e81a68f535033c16464a7dbbc702eda3510c899062f812"), looks := false }, kinds := [], alts := [], laidByText := true, laidKinds := [.data], laidTests := true, laidLooks := .later }
def KeysClashUptoCardSaid : Prop := Claim7.holds Tryd.pinned (.plain (OpenSpec.upto keysClashSpec)) keysClashUptoCard

/-- THE SECOND FORM's CARD OF 'seedcornlaw06.KeysPlaces'. -/
def keysPlacesUptoCard : Claim7 := { stood := { row := keysPlacesUptoRow, standIns := [], harness := (true, "82ce6fd48e4110caf9e81a68f535033c16464a7dbbc702eda3510c899062f812"), looks := false }, kinds := [], alts := [], laidByText := true, laidKinds := [.data], laidTests := true, laidLooks := .later }
def KeysPlacesUptoCardSaid : Prop := Claim7.holds Tryd.pinned (.plain (OpenSpec.upto keysPlacesSpec)) keysPlacesUptoCard
end Rows
end Go.Proofs.YtaeohnkfmachfaaDoor
