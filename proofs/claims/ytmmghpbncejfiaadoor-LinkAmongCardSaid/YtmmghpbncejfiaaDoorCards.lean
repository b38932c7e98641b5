/-
  DERIVED. GIVEN WITH THE SEED: THE CARDS: each row of YtmmghpbncejfiaaDoorRows.lean that lists a variable, with what it lists TIED to the program's text (the seventh form; the later family's looks); each row that meets fmt, with fmt's text TOLD by the authors' own Lean function (tested against real Go, not proved from fmt's source: count such statements apart). THE CARD IS WHAT COUNTS. Prove the row's statement (the work); the ties are given (YtmmghpbncejfiaaDoorTie.lean); close each card by the builder's one call (the guide's Derived/Test/ToyasCard.lean, 'card_holds'). Laid BY PROGRAM, IN A SANDBOX (cutbox-door.mjs). By AI agents, Wed Nov 11 2026. No macro, syntax, notation, axiom, sorry.
-/
import Derived.Test.YtmmghpbncejfiaaDoorRows
import GoSem.ClaimSeven
namespace Go.Proofs.YtmmghpbncejfiaaDoor
namespace Rows

/-- THE TIED CARD OF 'seedcornlaw44.LinkOf'. -/
def linkOfCard : Claim7 := { stood := { row := linkOfRow, standIns := [], harness := (true, "950913010646dca8476265ef8fb10a42650fe4d440a4a84f077fe4e1b9a5f50c"), looks := false }, kinds := [], alts := [], laidByText := true, laidKinds := [.data], laidTests := true, laidLooks := .later }
def LinkOfCardSaid : Prop := Claim7.holds Tryd.pinned (.plain (OpenSpec.ofChange linkOfSpec)) linkOfCard

/-- THE TIED CARD OF 'seedcornlaw44.LinkTwice'. -/
def linkTwiceCard : Claim7 := { stood := { row := linkTwiceRow, standIns := [], harness := (true, "950913010646dca8476265ef8fb10a42650fe4d440a4a84f077fe4e1b9a5f50c"), looks := false }, kinds := [], alts := [], laidByText := true, laidKinds := [.data], laidTests := true, laidLooks := .later }
def LinkTwiceCardSaid : Prop := Claim7.holds Tryd.pinned (.plain (OpenSpec.ofChange linkTwiceSpec)) linkTwiceCard

/-- THE TIED CARD OF 'seedcornlaw44.LinkOthers'. -/
def linkOthersCard : Claim7 := { stood := { row := linkOthersRow, standIns := [], harness := (true, "950913010646dca8476265ef8fb10a42650fe4d440a4a84f077fe4e1b9a5f50c"), looks := false }, kinds := [], alts := [], laidByText := true, laidKinds := [.data], laidTests := true, laidLooks := .later }
def LinkOthersCardSaid : Prop := Claim7.holds Tryd.pinned (.plain (OpenSpec.ofChange linkOthersSpec)) linkOthersCard

/-- THE TIED CARD OF 'seedcornlaw44.LinkShown'. -/
def linkShownCard : Claim7 := { stood := { row := linkShownRow, standIns := [], harness := (true, "950913010646dca8476265ef8fb10a42650fe4d440a4a84f077fe4e1b9a5f50c"), looks := false }, kinds := [], alts := [], laidByText := true, laidKinds := [.data], laidTests := true, laidLooks := .later }
def LinkShownCardSaid : Prop := Claim7.holds Tryd.pinned (.plain (OpenSpec.ofChange linkShownSpec)) linkShownCard

/-- THE TIED CARD OF 'seedcornlaw44.LinkAmong'. -/
def linkAmongCard : Claim7 := { stood := { row := linkAmongRow, standIns := [], harness := (true, "950913010646dca8476265ef8fb10a42650fe4d440a4a84f077fe4e1b9a5f50c"), looks := false }, kinds := [], alts := [], laidByText := true, laidKinds := [.data], laidTests := true, laidLooks := .later }
def LinkAmongCardSaid : Prop := Claim7.holds Tryd.pinned (.plain (OpenSpec.ofChange linkAmongSpec)) linkAmongCard

/-- THE SECOND FORM's CARD OF 'seedcornlaw44.LinkOf'. -/
def linkOfUptoCard : Claim7 := { stood := { row := linkOfUptoRow, standIns := [], harness := (true, "950913010646dca8476265ef8fb10a42650fe4d440a4a84f077fe4e1b9a5f50c"), looks := false }, kinds := [], alts := [], laidByText := true, laidKinds := [.data], laidTests := true, laidLooks := .later }
def LinkOfUptoCardSaid : Prop := Claim7.holds Tryd.pinned (.plain (OpenSpec.upto linkOfSpec)) linkOfUptoCard

/-- THE SECOND FORM's CARD OF 'seedcornlaw44.LinkTwice'. -/
def linkTwiceUptoCard : Claim7 := { stood := { row := linkTwiceUptoRow, standIns := [], harness := (true, "950913010646dca8476265ef8fb10a42650fe4d440a4a84f077fe4e1b9a5f50c"), looks := false }, kinds := [], alts := [], laidByText := true, laidKinds := [.data], laidTests := true, laidLooks := .later }
def LinkTwiceUptoCardSaid : Prop := Claim7.holds Tryd.pinned (.plain (OpenSpec.upto linkTwiceSpec)) linkTwiceUptoCard

/-- THE SECOND FORM's CARD OF 'seedcornlaw44.LinkOthers'. -/
def linkOthersUptoCard : Claim7 := { stood := { row := linkOthersUptoRow, standIns := [], harness := (true, "950913010646dca8476265ef8fb10a42650fe4d440a4a84f077fe4e1b9a5f50c"), looks := false }, kinds := [], alts := [], laidByText := true, laidKinds := [.data], laidTests := true, laidLooks := .later }
def LinkOthersUptoCardSaid : Prop := Claim7.holds Tryd.pinned (.plain (OpenSpec.upto linkOthersSpec)) linkOthersUptoCard

/-- THE SECOND FORM's CARD OF 'seedcornlaw44.LinkShown'. -/
def linkShownUptoCard : Claim7 := { stood := { row := linkShownUptoRow, standIns := [], harness := (true, "950913010646dca8476265ef8fb10a42650fe4d440a4a84f077fe4e1b9a5f50c"), looks := false }, kinds := [], alts := [], laidByText := true, laidKinds := [.data], laidTests := true, laidLooks := .later }
def LinkShownUptoCardSaid : Prop := Claim7.holds Tryd.pinned (.plain (OpenSpec.upto linkShownSpec)) linkShownUptoCard

/-- THE SECOND FORM's CARD OF 'seedcornlaw44.LinkAmong'. -/
def linkAmongUptoCard : Claim7 := { stood := { row := linkAmongUptoRow, standIns := [], harness := (true, "950913010646dca8476265ef8fb10a42650fe4d440a4a84f077fe4e1b9a5f50c"), looks := false }, kinds := [], alts := [], laidByText := true, laidKinds := [.data], laidTests := true, laidLooks := .later }
def LinkAmongUptoCardSaid : Prop := Claim7.holds Tryd.pinned (.plain (OpenSpec.upto linkAmongSpec)) linkAmongUptoCard
end Rows
end Go.Proofs.YtmmghpbncejfiaaDoor
