/- The card of LinkShown: a signer that uses two of its keys for two links is shown to have said two things just if they are of one recipe, and unlike. For every input; the package variable as its own initialiser lays it. -/
import Derived.Test.YtmmghpbncejfiaaDoorL2
import Derived.Test.YtmmghpbncejfiaaDoorH33
import Derived.Test.YtmmghpbncejfiaaDoorCards
import Derived.Test.YtmmghpbncejfiaaDoorTie
import Derived.SevenTiedAt
set_option maxRecDepth 100000
namespace Go.Proofs.YtmmghpbncejfiaaDoor
open Go Go.RowKit Sk Sd Go.WideShapes Go.ChangeShapes Go.ChangeAt Go.WideElems
set_option maxRecDepth 100000 in
theorem linkShown_lifted (os : Os) (started : os.Started) (H : Type) (enc : TypeId × Value → H) :
    ReturnsInHanded {} Tryd.checked os 6 .any (fun w args => (Rows.linkShownSpec.pre enc Tryd.prog Tryd.f6 [] false w args ∧ laidMetH Tryd.prog laidL w) ∧ sizedMet enc Tryd.prog Tryd.f6 (OpenSpec.ofChange Rows.linkShownSpec) false w args)
      (Rows.linkShownSpec.post enc Tryd.prog Tryd.f6 false true false false) := by
  refine returnsInHanded_of_change_and (C := Tryd.checked) (X := fun w _ => laidMetH Tryd.prog laidL w) (fun _ _ _ hh h => h.of_heap hh) ownK started (by kernel_rfl) Tryd.func6
    (ChangeSpec.witness_shaped (enc := enc) (C := Tryd.checked) (os := os) (X := fun w _ => laidMetH Tryd.prog laidL w) false (World.doorLaid Tryd.prog 400 os) #[.agg #[.int .u32 0, .int .u32 0, .int .u32 0, .int .u32 0], .agg #[.int .u32 0, .int .u32 0, .int .u32 0, .int .u32 0, .int .u32 0, .int .u32 0, .int .u32 0, .int .u32 0], .agg #[.int .u32 0, .int .u32 0, .int .u32 0, .int .u32 0, .int .u32 0, .int .u32 0, .int .u32 0, .int .u32 0]] 8 rfl (World.shaped_of_RefB (by kernel_rfl) (by kernel_rfl)) (by kernel_rfl) (by kernel_rfl) (by kernel_rfl) (door_met os _)) ?_
  intro W base args ds gs before hval0 hW _ _ hL0 _
  have hval : ∀ (j : Nat) t v, Tryd.f6.params[j]? = some t → args[j]? = some v → Value.okWide Tryd.prog W .any base t v := hval0
  have hL := of_laid hL0
  have hW' := hW
  obtain ⟨p, q, hA0, hV, rfl, hfz, hnd⟩ := hW
  have hA : DataW.TrodAll enc Tryd.prog W 0 (fun _ => true) true Tryd.f6.params.toList args.toList ds p := hA0
  rw [Tryd.params6] at hA hval
  obtain ⟨rfl, rfl⟩ := trodVars_none hV
  obtain ⟨v0, v1, v2, d0, d1, d2, p0, p1, p2, rfl, rfl, rfl, h0, h1, h2⟩ := trodAll_three hA
  obtain ⟨cs0, rfl, hcs0⟩ := op_par Tryd.underlying24 rfl (hval 0 24 v0 rfl rfl) h0 op_t24
  obtain ⟨b0_0, rfl⟩ := hcs0
  obtain ⟨cs1, rfl, hcs1⟩ := op_par Tryd.underlying26 rfl (hval 1 26 v1 rfl rfl) h1 op_t26
  obtain ⟨b1_0, b1_1, rfl⟩ := hcs1
  obtain ⟨cs2, rfl, hcs2⟩ := op_par Tryd.underlying26 rfl (hval 2 26 v2 rfl rfl) h2 op_t26
  obtain ⟨b2_0, b2_1, rfl⟩ := hcs2
  clear hA0 hval0
  simp only [List.append_nil] at hW'
  refine Calls.mono (linkShown b0_0 b1_0 b1_1 b2_0 b2_1 W hL) ?_
  rintro e W' ⟨v, he, hv, hE⟩
  have hv' : v = .bool true := hv
  subst he; subst hv'
  exact ⟨_, rfl, law_post laidOut (by rw [Tryd.params6]; kernel_rfl) (by kernel_rfl) Tryd.underlying4 rfl rfl (by simpa using hW') hE⟩
theorem linkShown_holds : Rows.LinkShownSaid :=
  OpenClaim.holds_of_wide 6 Tryd.f6 rfl rfl rfl rfl rfl rfl rfl ⟨rfl, rfl, rfl, rfl, rfl⟩ rfl rfl rfl rfl rfl (by kernel_rfl) Tryd.func6 (by kernel_rfl)
    (of_decide_eq_true (by kernel_rfl)) (by unfold Func.isWrapper; first | (rw [if_pos (by decide +kernel)]; kernel_rfl) | (rw [if_neg (by decide +kernel)]; exact ⟨rfl, rfl⟩))
    (fun os started H enc _ => linkShown_lifted os started H enc)
/-- THE CARD. -/
theorem linkShown_card : Rows.LinkShownCardSaid :=
  Claim7.holds_tied_plain_at .later [] [.data] true (true, "950913010646dca8476265ef8fb10a42650fe4d440a4a84f077fe4e1b9a5f50c") false
    linkShown_holds (fun _ h => by cases h) (by kernel_rfl) (fun _ h => by cases h) linkShown_row_tie rfl ⟨rfl, rfl⟩ (by kernel_rfl) rfl
    (fun f fn hf hfn => by
      obtain rfl : f = 6 := Option.some.inj ((show Tryd.prog.funcNamed "seedcorn/seedcornlaw44.LinkShown" = some 6 by kernel_rfl).symm.trans hf) |>.symm
      obtain rfl : fn = Tryd.f6 := (Option.some.inj (Tryd.func6.symm.trans hfn)).symm
      exact ⟨by kernel_rfl, fun j t ht => by
        rw [Tryd.params6] at ht
        have hm : t ∈ [24, 26, 26] := by simpa using Array.mem_of_getElem? ht
        have hall : ([24, 26, 26].all fun u => !Tryd.prog.wantsStandIn u) = true := by kernel_rfl
        exact (show Tryd.prog.wantsStandIn t = false by simpa using List.all_eq_true.1 hall t hm)⟩)
    (by kernel_rfl)
#print axioms linkShown_card
end Go.Proofs.YtmmghpbncejfiaaDoor
