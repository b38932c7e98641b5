/-
  DERIVED. GIVEN WITH THE SEED: THE CARDS: each row of YtijfjpbahepegaaDoorRows.lean that lists a variable, with what it lists TIED to the program's text (the seventh form; the later family's looks); each row that meets fmt, with fmt's text TOLD by the authors' own Lean function (tested against real Go, not proved from fmt's source: count such statements apart). THE CARD IS WHAT COUNTS. Prove the row's statement (the work); the ties are given (YtijfjpbahepegaaDoorTie.lean); close each card by the builder's one call (the guide's Derived/Test/ToyasCard.lean, 'card_holds'). Laid BY PROGRAM, IN A SANDBOX (cutbox-door.mjs). By AI agents, Wed Nov 11 2026. No macro, syntax, notation, axiom, sorry.
-/
import Derived.Test.YtijfjpbahepegaaDoorRows
import GoSem.ClaimSeven
namespace Go.Proofs.YtijfjpbahepegaaDoor
namespace Rows

/-- THE TIED CARD OF 'seedcornlaw43.HeadLost'. -/
def headLostCard : Claim7 := { stood := { row := headLostRow, standIns := [], harness := (true, "1b0c9ac8dd0392f094d20d95cbb9aa25a985d4023656bdaadc5228257752f7f4"), looks := false }, kinds := [], alts := [], laidByText := true, laidKinds := [.data], laidTests := true, laidLooks := .later }
def HeadLostCardSaid : Prop := Claim7.holds Tryd.pinned (.plain (OpenSpec.ofChange headLostSpec)) headLostCard

/-- THE TIED CARD OF 'seedcornlaw43.HeadOf'. -/
def headOfCard : Claim7 := { stood := { row := headOfRow, standIns := [], harness := (true, "1b0c9ac8dd0392f094d20d95cbb9aa25a985d4023656bdaadc5228257752f7f4"), looks := false }, kinds := [], alts := [], laidByText := true, laidKinds := [.data], laidTests := true, laidLooks := .later }
def HeadOfCardSaid : Prop := Claim7.holds Tryd.pinned (.plain (OpenSpec.ofChange headOfSpec)) headOfCard

/-- THE TIED CARD OF 'seedcornlaw43.HeadTail'. -/
def headTailCard : Claim7 := { stood := { row := headTailRow, standIns := [], harness := (true, "1b0c9ac8dd0392f094d20d95cbb9aa25a985d4023656bdaadc5228257752f7f4"), looks := false }, kinds := [], alts := [], laidByText := true, laidKinds := [.data], laidTests := true, laidLooks := .later }
def HeadTailCardSaid : Prop := Claim7.holds Tryd.pinned (.plain (OpenSpec.ofChange headTailSpec)) headTailCard

/-- THE TIED CARD OF 'seedcornlaw43.HeadOther'. -/
def headOtherCard : Claim7 := { stood := { row := headOtherRow, standIns := [], harness := (true, "1b0c9ac8dd0392f094d20d95cbb9aa25a985d4023656bdaadc5228257752f7f4"), looks := false }, kinds := [], alts := [], laidByText := true, laidKinds := [.data], laidTests := true, laidLooks := .later }
def HeadOtherCardSaid : Prop := Claim7.holds Tryd.pinned (.plain (OpenSpec.ofChange headOtherSpec)) headOtherCard

/-- THE TIED CARD OF 'seedcornlaw43.HeadOn'. -/
def headOnCard : Claim7 := { stood := { row := headOnRow, standIns := [], harness := (true, "1b0c9ac8dd0392f094d20d95cbb9aa25a985d4023656bdaadc5228257752f7f4"), looks := false }, kinds := [], alts := [], laidByText := true, laidKinds := [.data], laidTests := true, laidLooks := .later }
def HeadOnCardSaid : Prop := Claim7.holds Tryd.pinned (.plain (OpenSpec.ofChange headOnSpec)) headOnCard

/-- THE TIED CARD OF 'seedcornlaw43.HeadGoes'. -/
def headGoesCard : Claim7 := { stood := { row := headGoesRow, standIns := [], harness := (true, "1b0c9ac8dd0392f094d20d95cbb9aa25a985d4023656bdaadc5228257752f7f4"), looks := false }, kinds := [], alts := [], laidByText := true, laidKinds := [.data], laidTests := true, laidLooks := .later }
def HeadGoesCardSaid : Prop := Claim7.holds Tryd.pinned (.plain (OpenSpec.ofChange headGoesSpec)) headGoesCard

/-- THE TIED CARD OF 'seedcornlaw43.HeadChecks'. -/
def headChecksCard : Claim7 := { stood := { row := headChecksRow, standIns := [], harness := (true, "1b0c9ac8dd0392f094d20d95cbb9aa25a985d4023656bdaadc5228257752f7f4"), looks := false }, kinds := [], alts := [], laidByText := true, laidKinds := [.data], laidTests := true, laidLooks := .later }
def HeadChecksCardSaid : Prop := Claim7.holds Tryd.pinned (.plain (OpenSpec.ofChange headChecksSpec)) headChecksCard

/-- THE TIED CARD OF 'seedcornlaw43.HeadSigns'. -/
def headSignsCard : Claim7 := { stood := { row := headSignsRow, standIns := [], harness := (true, "1b0c9ac8dd0392f094d20d95cbb9aa25a985d4023656bdaadc5228257752f7f4"), looks := false }, kinds := [], alts := [], laidByText := true, laidKinds := [.data], laidTests := true, laidLooks := .later }
def HeadSignsCardSaid : Prop := Claim7.holds Tryd.pinned (.plain (OpenSpec.ofChange headSignsSpec)) headSignsCard

/-- THE TIED CARD OF 'seedcorntop.SystemOn'. -/
def systemOnCard : Claim7 := { stood := { row := systemOnRow, standIns := [], harness := (true, "1b0c9ac8dd0392f094d20d95cbb9aa25a985d4023656bdaadc5228257752f7f4"), looks := false }, kinds := [], alts := [], laidByText := true, laidKinds := [.data], laidTests := true, laidLooks := .later }
def SystemOnCardSaid : Prop := Claim7.holds Tryd.pinned (.plain (OpenSpec.ofChange systemOnSpec)) systemOnCard

/-- THE SECOND FORM's CARD OF 'seedcornlaw43.HeadLost'. -/
def headLostUptoCard : Claim7 := { stood := { row := headLostUptoRow, standIns := [], harness := (true, "1b0c9ac8dd0392f094d20d95cbb9aa25a985d4023656bdaadc5228257752f7f4"), looks := false }, kinds := [], alts := [], laidByText := true, laidKinds := [.data], laidTests := true, laidLooks := .later }
def HeadLostUptoCardSaid : Prop := Claim7.holds Tryd.pinned (.plain (OpenSpec.upto headLostSpec)) headLostUptoCard

/-- THE SECOND FORM's CARD OF 'seedcornlaw43.HeadOf'. -/
def headOfUptoCard : Claim7 := { stood := { row := headOfUptoRow, standIns := [], harness := (true, "1b0c9ac8dd0392f094d20d95cbb9aa25a985d4023656bdaadc5228257752f7f4"), looks := false }, kinds := [], alts := [], laidByText := true, laidKinds := [.data], laidTests := true, laidLooks := .later }
def HeadOfUptoCardSaid : Prop := Claim7.holds Tryd.pinned (.plain (OpenSpec.upto headOfSpec)) headOfUptoCard

/-- THE SECOND FORM's CARD OF 'seedcornlaw43.HeadTail'. -/
def headTailUptoCard : Claim7 := { stood := { row := headTailUptoRow, standIns := [], harness := (true, "1b0c9ac8dd0392f094d20d95cbb9aa25a985d4023656bdaadc5228257752f7f4"), looks := false }, kinds := [], alts := [], laidByText := true, laidKinds := [.data], laidTests := true, laidLooks := .later }
def HeadTailUptoCardSaid : Prop := Claim7.holds Tryd.pinned (.plain (OpenSpec.upto headTailSpec)) headTailUptoCard

/-- THE SECOND FORM's CARD OF 'seedcornlaw43.HeadOther'. -/
def headOtherUptoCard : Claim7 := { stood := { row := headOtherUptoRow, standIns := [], harness := (true, "1b0c9ac8dd0392f094d20d95cbb9aa25a985d4023656bdaadc5228257752f7f4"), looks := false }, kinds := [], alts := [], laidByText := true, laidKinds := [.data], laidTests := true, laidLooks := .later }
def HeadOtherUptoCardSaid : Prop := Claim7.holds Tryd.pinned (.plain (OpenSpec.upto headOtherSpec)) headOtherUptoCard

/-- THE SECOND FORM's CARD OF 'seedcornlaw43.HeadOn'. -/
def headOnUptoCard : Claim7 := { stood := { row := headOnUptoRow, standIns := [], harness := (true, "1b0c9ac8dd0392f094d20d95cbb9aa25a985d4023656bdaadc5228257752f7f4"), looks := false }, kinds := [], alts := [], laidByText := true, laidKinds := [.data], laidTests := true, laidLooks := .later }
def HeadOnUptoCardSaid : Prop := Claim7.holds Tryd.pinned (.plain (OpenSpec.upto headOnSpec)) headOnUptoCard

/-- THE SECOND FORM's CARD OF 'seedcornlaw43.HeadGoes'. -/
def headGoesUptoCard : Claim7 := { stood := { row := headGoesUptoRow, standIns := [], harness := (true, "1b0c9ac8dd0392f094d20d95cbb9aa25a985d4023656bdaadc5228257752f7f4"), looks := false }, kinds := [], alts := [], laidByText := true, laidKinds := [.data], laidTests := true, laidLooks := .later }
def HeadGoesUptoCardSaid : Prop := Claim7.holds Tryd.pinned (.plain (OpenSpec.upto headGoesSpec)) headGoesUptoCard

/-- THE SECOND FORM's CARD OF 'seedcornlaw43.HeadChecks'. -/
def headChecksUptoCard : Claim7 := { stood := { row := headChecksUptoRow, standIns := [], harness := (true, "1b0c9ac8dd0392f094d20d95cbb9aa25a985d4023656bdaadc5228257752f7f4"), looks := false }, kinds := [], alts := [], laidByText := true, laidKinds := [.data], laidTests := true, laidLooks := .later }
def HeadChecksUptoCardSaid : Prop := Claim7.holds Tryd.pinned (.plain (OpenSpec.upto headChecksSpec)) headChecksUptoCard

/-- THE SECOND FORM's CARD OF 'seedcornlaw43.HeadSigns'. -/
def headSignsUptoCard : Claim7 := { stood := { row := headSignsUptoRow, standIns := [], harness := (true, "1b0c9ac8dd0392f094d20d95cbb9aa25a985d4023656bdaadc5228257752f7f4"), looks := false }, kinds := [], alts := [], laidByText := true, laidKinds := [.data], laidTests := true, laidLooks := .later }
def HeadSignsUptoCardSaid : Prop := Claim7.holds Tryd.pinned (.plain (OpenSpec.upto headSignsSpec)) headSignsUptoCard

/-- THE SECOND FORM's CARD OF 'seedcorntop.SystemOn'. -/
def systemOnUptoCard : Claim7 := { stood := { row := systemOnUptoRow, standIns := [], harness := (true, "1b0c9ac8dd0392f094d20d95cbb9aa25a985d4023656bdaadc5228257752f7f4"), looks := false }, kinds := [], alts := [], laidByText := true, laidKinds := [.data], laidTests := true, laidLooks := .later }
def SystemOnUptoCardSaid : Prop := Claim7.holds Tryd.pinned (.plain (OpenSpec.upto systemOnSpec)) systemOnUptoCard
end Rows
end Go.Proofs.YtijfjpbahepegaaDoor
