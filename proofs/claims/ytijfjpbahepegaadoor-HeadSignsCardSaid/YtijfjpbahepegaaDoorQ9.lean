/- The card of HeadSigns: a head that a signer signs, by whichever of its keys, is that signer's. For every input; the package variable as its own initialiser lays it. -/
import Derived.Test.YtijfjpbahepegaaDoorL2
import Derived.Test.YtijfjpbahepegaaDoorH9
import Derived.Test.YtijfjpbahepegaaDoorCards
import Derived.Test.YtijfjpbahepegaaDoorTie
import Derived.SevenTiedAt
set_option maxRecDepth 100000
namespace Go.Proofs.YtijfjpbahepegaaDoor
open Go Go.RowKit Sk Sd Go.WideShapes Go.ChangeShapes Go.ChangeAt Go.WideElems
set_option maxRecDepth 100000 in
theorem headSigns_lifted (os : Os) (started : os.Started) (H : Type) (enc : TypeId × Value → H) :
    ReturnsInHanded {} Tryd.checked os 10 .any (fun w args => (Rows.headSignsSpec.pre enc Tryd.prog Tryd.f10 [] false w args ∧ laidMetH Tryd.prog laidL w) ∧ sizedMet enc Tryd.prog Tryd.f10 (OpenSpec.ofChange Rows.headSignsSpec) false w args)
      (Rows.headSignsSpec.post enc Tryd.prog Tryd.f10 false true false false) := by
  refine returnsInHanded_of_change_and (C := Tryd.checked) (X := fun w _ => laidMetH Tryd.prog laidL w) (fun _ _ _ hh h => h.of_heap hh) ownK started (by kernel_rfl) Tryd.func10
    (ChangeSpec.witness_shaped (enc := enc) (C := Tryd.checked) (os := os) (X := fun w _ => laidMetH Tryd.prog laidL w) false (World.doorLaid Tryd.prog 400 os) #[.agg #[.int .i64 0, .int .u32 0, .int .u32 0, .int .u32 0, .int .u32 0], .agg #[.int .u32 0, .int .u32 0, .int .u32 0, .int .u32 0], .int .u8 0] 8 rfl (World.shaped_of_RefB (by kernel_rfl) (by kernel_rfl)) (by kernel_rfl) (by kernel_rfl) (by kernel_rfl) (door_met os _)) ?_
  intro W base args ds gs before hval0 hW _ _ hL0 _
  have hval : ∀ (j : Nat) t v, Tryd.f10.params[j]? = some t → args[j]? = some v → Value.okWide Tryd.prog W .any base t v := hval0
  have hL := of_laid hL0
  have hW' := hW
  obtain ⟨p, q, hA0, hV, rfl, hfz, hnd⟩ := hW
  have hA : DataW.TrodAll enc Tryd.prog W 0 (fun _ => true) true Tryd.f10.params.toList args.toList ds p := hA0
  rw [Tryd.params10] at hA hval
  obtain ⟨rfl, rfl⟩ := trodVars_none hV
  obtain ⟨v0, v1, v2, d0, d1, d2, p0, p1, p2, rfl, rfl, rfl, h0, h1, h2⟩ := trodAll_three hA
  obtain ⟨cs0, rfl, hcs0⟩ := op_par Tryd.underlying29 rfl (hval 0 29 v0 rfl rfl) h0 op_t29
  obtain ⟨b0_0, b0_1, rfl, pb0_0_0, pb0_0_1⟩ := hcs0
  obtain ⟨cs1, rfl, hcs1⟩ := op_par Tryd.underlying27 rfl (hval 1 27 v1 rfl rfl) h1 op_t27
  obtain ⟨b1_0, rfl⟩ := hcs1
  have hc2 : v2.cells = #[v2] := by obtain ⟨_, rfl⟩ := okWide_int Tryd.underlying5 (hval 2 5 v2 rfl rfl); rfl
  obtain ⟨b2_0, e2⟩ := op_par1 hc2 h2 op_t5
  obtain rfl := List.head_eq_of_cons_eq e2
  clear hA0 hval0
  simp only [List.append_nil] at hW'
  refine Calls.mono (headSigns ⟨b0_0, b0_1⟩ b1_0 b2_0 W hL) ?_
  rintro e W' ⟨v, he, hv, hE⟩
  have hv' : v = .bool true := hv
  subst he; subst hv'
  exact ⟨_, rfl, law_post laidOut (by rw [Tryd.params10]; kernel_rfl) (by kernel_rfl) Tryd.underlying4 rfl rfl (by simpa using hW') hE⟩
theorem headSigns_holds : Rows.HeadSignsSaid :=
  OpenClaim.holds_of_wide 10 Tryd.f10 rfl rfl rfl rfl rfl rfl rfl ⟨rfl, rfl, rfl, rfl, rfl⟩ rfl rfl rfl rfl rfl (by kernel_rfl) Tryd.func10 (by kernel_rfl)
    (of_decide_eq_true (by kernel_rfl)) (by unfold Func.isWrapper; first | (rw [if_pos (by decide +kernel)]; kernel_rfl) | (rw [if_neg (by decide +kernel)]; exact ⟨rfl, rfl⟩))
    (fun os started H enc _ => headSigns_lifted os started H enc)
/-- THE CARD. -/
theorem headSigns_card : Rows.HeadSignsCardSaid :=
  Claim7.holds_tied_plain_at .later [] [.data] true (true, "1b0c9ac8dd0392f094d20d95cbb9aa25a985d4023656bdaadc5228257752f7f4") false
    headSigns_holds (fun _ h => by cases h) (by kernel_rfl) (fun _ h => by cases h) headSigns_row_tie rfl ⟨rfl, rfl⟩ (by kernel_rfl) rfl
    (fun f fn hf hfn => by
      obtain rfl : f = 10 := Option.some.inj ((show Tryd.prog.funcNamed "seedcorn/seedcornlaw43.HeadSigns" = some 10 by kernel_rfl).symm.trans hf) |>.symm
      obtain rfl : fn = Tryd.f10 := (Option.some.inj (Tryd.func10.symm.trans hfn)).symm
      exact ⟨by kernel_rfl, fun j t ht => by
        rw [Tryd.params10] at ht
        have hm : t ∈ [29, 27, 5] := by simpa using Array.mem_of_getElem? ht
        have hall : ([29, 27, 5].all fun u => !Tryd.prog.wantsStandIn u) = true := by kernel_rfl
        exact (show Tryd.prog.wantsStandIn t = false by simpa using List.all_eq_true.1 hall t hm)⟩)
    (by kernel_rfl)
#print axioms headSigns_card
end Go.Proofs.YtijfjpbahepegaaDoor
