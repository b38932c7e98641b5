/- The card of LinkAmong: of any links that a signer says, one behind the other, just those two show it that are of one recipe, and unlike. For every input; the package variable as its own initialiser lays it. -/
import Derived.Test.YtmmghpbncejfiaaDoorL2
import Derived.Test.YtmmghpbncejfiaaDoorH34
import Derived.Test.YtmmghpbncejfiaaDoorCards
import Derived.Test.YtmmghpbncejfiaaDoorTie
import Derived.SevenTiedAt
set_option maxRecDepth 100000
namespace Go.Proofs.YtmmghpbncejfiaaDoor
open Go Go.RowKit Sk Sd Go.WideShapes Go.ChangeShapes Go.ChangeAt Go.WideElems
set_option maxRecDepth 100000 in
theorem linkAmong_lifted (os : Os) (started : os.Started) (H : Type) (enc : TypeId × Value → H) :
    ReturnsInHanded {} Tryd.checked os 7 .any (fun w args => (Rows.linkAmongSpec.pre enc Tryd.prog Tryd.f7 [] false w args ∧ laidMetH Tryd.prog laidL w) ∧ sizedMet enc Tryd.prog Tryd.f7 (OpenSpec.ofChange Rows.linkAmongSpec) false w args)
      (Rows.linkAmongSpec.post enc Tryd.prog Tryd.f7 false true false false) := by
  refine returnsInHanded_of_change_and (C := Tryd.checked) (X := fun w _ => laidMetH Tryd.prog laidL w) (fun _ _ _ hh h => h.of_heap hh) ownK started (by kernel_rfl) Tryd.func7
    (ChangeSpec.witness_shaped (enc := enc) (C := Tryd.checked) (os := os) (X := fun w _ => laidMetH Tryd.prog laidL w) false (World.doorLaid Tryd.prog 400 os) #[.agg #[.int .u32 0, .int .u32 0, .int .u32 0, .int .u32 0], .slice none 0 0] 8 rfl (World.shaped_of_RefB (by kernel_rfl) (by kernel_rfl)) (by kernel_rfl) (by kernel_rfl) (by kernel_rfl) (door_met os _)) ?_
  intro W base args ds gs before hval0 hW _ _ hL0 _
  have hval : ∀ (j : Nat) t v, Tryd.f7.params[j]? = some t → args[j]? = some v → Value.okWide Tryd.prog W .any base t v := hval0
  have hL := of_laid hL0
  have hW' := hW
  obtain ⟨p, q, hA0, hV, rfl, hfz, hnd⟩ := hW
  have hA : DataW.TrodAll enc Tryd.prog W 0 (fun _ => true) true Tryd.f7.params.toList args.toList ds p := hA0
  rw [Tryd.params7] at hA hval
  obtain ⟨rfl, rfl⟩ := trodVars_none hV
  obtain ⟨v0, v1, d0, d1, p0, p1, rfl, rfl, rfl, h0, h1⟩ := trodAll_two hA
  obtain ⟨cs0, rfl, hcs0⟩ := op_par Tryd.underlying24 rfl (hval 0 24 v0 rfl rfl) h0 op_t24
  obtain ⟨b0_0, rfl⟩ := hcs0
  have hc1 : v1.cells = #[v1] := by obtain ⟨_, _, _, rfl⟩ := okWide_slice Tryd.underlying54 (hval 1 54 v1 rfl rfl); rfl
  obtain ⟨b1_0, vb1_0, e1, pb1_0_0⟩ := op_par1 hc1 h1 op_t54
  obtain rfl := List.head_eq_of_cons_eq e1
  clear hA0 hval0
  simp only [List.append_nil] at hW'
  refine Calls.mono (linkAmong b0_0 b1_0 v1 W hL pb1_0_0) ?_
  rintro e W' ⟨v, he, hv, hE⟩
  have hv' : v = .bool true := hv
  subst he; subst hv'
  exact ⟨_, rfl, law_post laidOut (by rw [Tryd.params7]; kernel_rfl) (by kernel_rfl) Tryd.underlying4 rfl rfl (by simpa using hW') hE⟩
theorem linkAmong_holds : Rows.LinkAmongSaid :=
  OpenClaim.holds_of_wide 7 Tryd.f7 rfl rfl rfl rfl rfl rfl rfl ⟨rfl, rfl, rfl, rfl, rfl⟩ rfl rfl rfl rfl rfl (by kernel_rfl) Tryd.func7 (by kernel_rfl)
    (of_decide_eq_true (by kernel_rfl)) (by unfold Func.isWrapper; first | (rw [if_pos (by decide +kernel)]; kernel_rfl) | (rw [if_neg (by decide +kernel)]; exact ⟨rfl, rfl⟩))
    (fun os started H enc _ => linkAmong_lifted os started H enc)
/-- THE CARD. -/
theorem linkAmong_card : Rows.LinkAmongCardSaid :=
  Claim7.holds_tied_plain_at .later [] [.data] true (true, "950913010646dca8476265ef8fb10a42650fe4d440a4a84f077fe4e1b9a5f50c") false
    linkAmong_holds (fun _ h => by cases h) (by kernel_rfl) (fun _ h => by cases h) linkAmong_row_tie rfl ⟨rfl, rfl⟩ (by kernel_rfl) rfl
    (fun f fn hf hfn => by
      obtain rfl : f = 7 := Option.some.inj ((show Tryd.prog.funcNamed "seedcorn/seedcornlaw44.LinkAmong" = some 7 by kernel_rfl).symm.trans hf) |>.symm
      obtain rfl : fn = Tryd.f7 := (Option.some.inj (Tryd.func7.symm.trans hfn)).symm
      exact ⟨by kernel_rfl, fun j t ht => by
        rw [Tryd.params7] at ht
        have hm : t ∈ [24, 54] := by simpa using Array.mem_of_getElem? ht
        have hall : ([24, 54].all fun u => !Tryd.prog.wantsStandIn u) = true := by kernel_rfl
        exact (show Tryd.prog.wantsStandIn t = false by simpa using List.all_eq_true.1 hall t hm)⟩)
    (by kernel_rfl)
#print axioms linkAmong_card
end Go.Proofs.YtmmghpbncejfiaaDoor
