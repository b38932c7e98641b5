/- The card of KeysUses: any signer signs by the key that is next, which holds, and goes on to the one behind, or is used up. For every input; the package variable as its own initialiser lays it. -/
import Derived.Test.YtaeohnkfmachfabDoorL2
import Derived.Test.YtaeohnkfmachfabDoorH21
import Derived.Test.YtaeohnkfmachfabDoorCards
import Derived.Test.YtaeohnkfmachfabDoorTie
import Derived.SevenTiedAt
set_option maxRecDepth 100000
namespace Go.Proofs.YtaeohnkfmachfabDoor
open Go Go.RowKit Sk Sd Go.WideShapes Go.ChangeShapes Go.ChangeAt Go.WideElems
set_option maxRecDepth 100000 in
theorem keysUses_lifted (os : Os) (started : os.Started) (H : Type) (enc : TypeId × Value → H) :
    ReturnsInHanded {} Tryd.checked os 4 .any (fun w args => (Rows.keysUsesSpec.pre enc Tryd.prog Tryd.f4 [] false w args ∧ laidMetH Tryd.prog laidL w) ∧ sizedMet enc Tryd.prog Tryd.f4 (OpenSpec.ofChange Rows.keysUsesSpec) false w args)
      (Rows.keysUsesSpec.post enc Tryd.prog Tryd.f4 false true false false) := by
  refine returnsInHanded_of_change_and (C := Tryd.checked) (X := fun w _ => laidMetH Tryd.prog laidL w) (fun _ _ _ hh h => h.of_heap hh) ownK started (by kernel_rfl) Tryd.func4
    (ChangeSpec.witness_shaped (enc := enc) (C := Tryd.checked) (os := os) (X := fun w _ => laidMetH Tryd.prog laidL w) false (World.doorLaid Tryd.prog 400 os) #[.agg #[.int .u32 0, .int .u32 0, .int .u32 0, .int .u32 0, .int .i64 0, .int .i64 0], .agg #[.int .u32 0, .int .u32 0, .int .u32 0, .int .u32 0]] 8 rfl (World.shaped_of_RefB (by kernel_rfl) (by kernel_rfl)) (by kernel_rfl) (by kernel_rfl) (by kernel_rfl) (door_met os _)) ?_
  intro W base args ds gs before hval0 hW _ _ hL0 _
  have hval : ∀ (j : Nat) t v, Tryd.f4.params[j]? = some t → args[j]? = some v → Value.okWide Tryd.prog W .any base t v := hval0
  have hL := of_laid hL0
  have hW' := hW
  obtain ⟨p, q, hA0, hV, rfl, hfz, hnd⟩ := hW
  have hA : DataW.TrodAll enc Tryd.prog W 0 (fun _ => true) true Tryd.f4.params.toList args.toList ds p := hA0
  rw [Tryd.params4] at hA hval
  obtain ⟨rfl, rfl⟩ := trodVars_none hV
  obtain ⟨v0, v1, d0, d1, p0, p1, rfl, rfl, rfl, h0, h1⟩ := trodAll_two hA
  obtain ⟨cs0, rfl, hcs0⟩ := op_par Tryd.underlying30 rfl (hval 0 30 v0 rfl rfl) h0 op_t30
  obtain ⟨b0_0, b0_1, b0_2, rfl, pb0_1_0, pb0_1_1, pb0_2_0, pb0_2_1⟩ := hcs0
  obtain ⟨cs1, rfl, hcs1⟩ := op_par Tryd.underlying24 rfl (hval 1 24 v1 rfl rfl) h1 op_t24
  obtain ⟨b1_0, rfl⟩ := hcs1
  clear hA0 hval0
  simp only [List.append_nil] at hW'
  refine Calls.mono (keysUses b0_0 b0_1 b0_2 b1_0 W hL) ?_
  rintro e W' ⟨v, he, hv, hE⟩
  have hv' : v = .bool true := hv
  subst he; subst hv'
  exact ⟨_, rfl, law_post laidOut (by rw [Tryd.params4]; kernel_rfl) (by kernel_rfl) Tryd.underlying4 rfl rfl (by simpa using hW') hE⟩
theorem keysUses_holds : Rows.KeysUsesSaid :=
  OpenClaim.holds_of_wide 4 Tryd.f4 rfl rfl rfl rfl rfl rfl rfl ⟨rfl, rfl, rfl, rfl, rfl⟩ rfl rfl rfl rfl rfl (by kernel_rfl) Tryd.func4 (by kernel_rfl)
    (of_decide_eq_true (by kernel_rfl)) (by unfold Func.isWrapper; first | (rw [if_pos (by decide +kernel)]; kernel_rfl) | (rw [if_neg (by decide +kernel)]; exact ⟨rfl, rfl⟩))
    (fun os started H enc _ => keysUses_lifted os started H enc)
/-- THE CARD. -/
theorem keysUses_card : Rows.KeysUsesCardSaid :=
  Claim7.holds_tied_plain_at .later [] [.data] true (true, "c6722e4838c5cc3cf8281318dbcdab36c9be3731c970d31963ab484af54a9a64") false
    keysUses_holds (fun _ h => by cases h) (by kernel_rfl) (fun _ h => by cases h) keysUses_row_tie rfl ⟨rfl, rfl⟩ (by kernel_rfl) rfl
    (fun f fn hf hfn => by
      obtain rfl : f = 4 := Option.some.inj ((show Tryd.prog.funcNamed "seedcorn/seedcornlaw06.KeysUses" = some 4 by kernel_rfl).symm.trans hf) |>.symm
      obtain rfl : fn = Tryd.f4 := (Option.some.inj (Tryd.func4.symm.trans hfn)).symm
      exact ⟨by kernel_rfl, fun j t ht => by
        rw [Tryd.params4] at ht
        have hm : t ∈ [30, 24] := by simpa using Array.mem_of_getElem? ht
        have hall : ([30, 24].all fun u => !Tryd.prog.wantsStandIn u) = true := by kernel_rfl
        exact (show Tryd.prog.wantsStandIn t = false by simpa using List.all_eq_true.1 hall t hm)⟩)
    (by kernel_rfl)
#print axioms keysUses_card
end Go.Proofs.YtaeohnkfmachfabDoor
