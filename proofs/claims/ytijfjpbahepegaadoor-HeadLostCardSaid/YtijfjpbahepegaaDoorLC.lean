/- The card of HeadLost: whether any store has lost what any head says, the program and the document answer alike; whatever the input; the package variable as its initialiser lays it. -/
import Derived.Test.YtijfjpbahepegaaDoorLA
import Derived.Test.YtijfjpbahepegaaDoorCards
import Derived.Test.YtijfjpbahepegaaDoorTie
import Derived.SevenTiedAt
set_option maxRecDepth 100000
namespace Go.Proofs.YtijfjpbahepegaaDoor
open Go Go.RowKit Sk Sd Go.WideShapes Go.ChangeShapes Go.ChangeAt Go.WideElems
/-- THE CARD. -/
theorem headLost_card : Rows.HeadLostCardSaid :=
  Claim7.holds_tied_plain_at .later [] [.data] true (true, "1b0c9ac8dd0392f094d20d95cbb9aa25a985d4023656bdaadc5228257752f7f4") false
    headLost_holds (fun _ h => by cases h) (by kernel_rfl) (fun _ h => by cases h) headLost_row_tie rfl ⟨rfl, rfl⟩ (by kernel_rfl) rfl
    (fun f fn hf hfn => by
      obtain rfl : f = 3 := Option.some.inj ((show Tryd.prog.funcNamed "seedcorn/seedcornlaw43.HeadLost" = some 3 by kernel_rfl).symm.trans hf) |>.symm
      obtain rfl : fn = Tryd.f3 := (Option.some.inj (Tryd.func3.symm.trans hfn)).symm
      exact ⟨by kernel_rfl, fun j t ht => by
        rw [Tryd.params3] at ht
        have hm : t ∈ [24, 29] := by simpa using Array.mem_of_getElem? ht
        have hall : ([24, 29].all fun u => !Tryd.prog.wantsStandIn u) = true := by kernel_rfl
        exact (show Tryd.prog.wantsStandIn t = false by simpa using List.all_eq_true.1 hall t hm)⟩)
    (by kernel_rfl)
#print axioms headLost_card
end Go.Proofs.YtijfjpbahepegaaDoor
