/- The card of MerkleChecksOn: whether any digests are a proof that a list with any root goes on one with any other root is the document's answer. For every input; the package variable as its own initialiser lays it. -/
import Derived.Test.YtncamojfjhbanaaDoorL2
import Derived.Test.YtncamojfjhbanaaDoorH10
import Derived.Test.YtncamojfjhbanaaDoorCards
import Derived.Test.YtncamojfjhbanaaDoorTie
import Derived.SevenTiedAt
set_option maxRecDepth 100000
namespace Go.Proofs.YtncamojfjhbanaaDoor
open Go Go.RowKit Sk Sd Go.WideShapes Go.ChangeShapes Go.ChangeAt Go.WideElems
set_option maxRecDepth 100000 in
theorem merkleChecksOn_lifted (os : Os) (started : os.Started) (H : Type) (enc : TypeId × Value → H) :
    ReturnsInHanded {} Tryd.checked os 9 .any (fun w args => (Rows.merkleChecksOnSpec.pre enc Tryd.prog Tryd.f9 [] false w args ∧ laidMetH Tryd.prog laidL w) ∧ sizedMet enc Tryd.prog Tryd.f9 (OpenSpec.ofChange Rows.merkleChecksOnSpec) false w args)
      (Rows.merkleChecksOnSpec.post enc Tryd.prog Tryd.f9 false true false false) := by
  refine returnsInHanded_of_change_and (C := Tryd.checked) (X := fun w _ => laidMetH Tryd.prog laidL w) (fun _ _ _ hh h => h.of_heap hh) ownK started (by kernel_rfl) Tryd.func9
    (ChangeSpec.witness_shaped (enc := enc) (C := Tryd.checked) (os := os) (X := fun w _ => laidMetH Tryd.prog laidL w) false (World.doorLaid Tryd.prog 400 os) #[.agg #[.int .u32 0, .int .u32 0, .int .u32 0, .int .u32 0, .int .u32 0, .int .u32 0, .int .u32 0, .int .u32 0, .int .i64 0, .int .i64 0, .slice none 0 0]] 8 rfl (World.shaped_of_RefB (by kernel_rfl) (by kernel_rfl)) (by kernel_rfl) (by kernel_rfl) (by kernel_rfl) (door_met os _)) ?_
  intro W base args ds gs before hval0 hW _ _ hL0 _
  have hval : ∀ (j : Nat) t v, Tryd.f9.params[j]? = some t → args[j]? = some v → Value.okWide Tryd.prog W .any base t v := hval0
  have hL := of_laid hL0
  have hW' := hW
  obtain ⟨p, q, hA0, hV, rfl, hfz, hnd⟩ := hW
  have hA : DataW.TrodAll enc Tryd.prog W 0 (fun _ => true) true Tryd.f9.params.toList args.toList ds p := hA0
  rw [Tryd.params9] at hA hval
  obtain ⟨rfl, rfl⟩ := trodVars_none hV
  obtain ⟨v0, d0, rfl, rfl, h0⟩ := trodAll_one hA
  obtain ⟨cs0, rfl, hcs0⟩ := op_par Tryd.underlying47 rfl (hval 0 47 v0 rfl rfl) h0 op_t47
  obtain ⟨b0_0, b0_1, b0_2, b0_3, b0_4, vb0_4, rfl, pb0_2_0, pb0_2_1, pb0_3_0, pb0_3_1, pb0_4_0⟩ := hcs0
  clear hA0 hval0
  simp only [List.append_nil] at hW'
  refine Calls.mono (checksOnLaw b0_0 b0_1 b0_2 b0_3 b0_4 vb0_4 W hL pb0_4_0) ?_
  rintro e W' ⟨v, he, hv, hE⟩
  have hv' : v = .bool true := hv
  subst he; subst hv'
  exact ⟨_, rfl, law_post laidOut (by rw [Tryd.params9]; kernel_rfl) (by kernel_rfl) Tryd.underlying4 rfl rfl (by simpa using hW') hE⟩
theorem merkleChecksOn_holds : Rows.MerkleChecksOnSaid :=
  OpenClaim.holds_of_wide 9 Tryd.f9 rfl rfl rfl rfl rfl rfl rfl ⟨rfl, rfl, rfl, rfl, rfl⟩ rfl rfl rfl rfl rfl (by kernel_rfl) Tryd.func9 (by kernel_rfl)
    (of_decide_eq_true (by kernel_rfl)) (by unfold Func.isWrapper; first | (rw [if_pos (by decide +kernel)]; kernel_rfl) | (rw [if_neg (by decide +kernel)]; exact ⟨rfl, rfl⟩))
    (fun os started H enc _ => merkleChecksOn_lifted os started H enc)
/-- THE CARD. -/
theorem merkleChecksOn_card : Rows.MerkleChecksOnCardSaid :=
  Claim7.holds_tied_plain_at .later [] [.data] true (true, "e66dde6c59f2141ff2f85b862ae4581a1ad91f1f7bc3715d4153ef78c8957ff3") false
    merkleChecksOn_holds (fun _ h => by cases h) (by kernel_rfl) (fun _ h => by cases h) merkleChecksOn_row_tie rfl ⟨rfl, rfl⟩ (by kernel_rfl) rfl
    (fun f fn hf hfn => by
      obtain rfl : f = 9 := Option.some.inj ((show Tryd.prog.funcNamed "seedcorn/seedcornlaw04.MerkleChecksOn" = some 9 by kernel_rfl).symm.trans hf) |>.symm
      obtain rfl : fn = Tryd.f9 := (Option.some.inj (Tryd.func9.symm.trans hfn)).symm
      exact ⟨by kernel_rfl, fun j t ht => by
        rw [Tryd.params9] at ht
        have hm : t ∈ [47] := by simpa using Array.mem_of_getElem? ht
        have hall : ([47].all fun u => !Tryd.prog.wantsStandIn u) = true := by kernel_rfl
        exact (show Tryd.prog.wantsStandIn t = false by simpa using List.all_eq_true.1 hall t hm)⟩)
    (by kernel_rfl)
#print axioms merkleChecksOn_card
end Go.Proofs.YtncamojfjhbanaaDoor
