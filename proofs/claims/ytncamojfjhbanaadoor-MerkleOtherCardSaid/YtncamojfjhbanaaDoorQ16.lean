/- The card of MerkleOther: another digest, place, or a proof with one more or one less is refused, or two unlike pairs with one Pair stand on the way. For every input; the package variable as its own initialiser lays it. -/
import Derived.Test.YtncamojfjhbanaaDoorL2
import Derived.Test.YtncamojfjhbanaaDoorH16
import Derived.Test.YtncamojfjhbanaaDoorCards
import Derived.Test.YtncamojfjhbanaaDoorTie
import Derived.SevenTiedAt
set_option maxRecDepth 100000
namespace Go.Proofs.YtncamojfjhbanaaDoor
open Go Go.RowKit Sk Sd Go.WideShapes Go.ChangeShapes Go.ChangeAt Go.WideElems
set_option maxRecDepth 100000 in
theorem merkleOther_lifted (os : Os) (started : os.Started) (H : Type) (enc : TypeId × Value → H) :
    ReturnsInHanded {} Tryd.checked os 7 .any (fun w args => (Rows.merkleOtherSpec.pre enc Tryd.prog Tryd.f7 [] false w args ∧ laidMetH Tryd.prog laidL w) ∧ sizedMet enc Tryd.prog Tryd.f7 (OpenSpec.ofChange Rows.merkleOtherSpec) false w args)
      (Rows.merkleOtherSpec.post enc Tryd.prog Tryd.f7 false true false false) := by
  refine returnsInHanded_of_change_and (C := Tryd.checked) (X := fun w _ => laidMetH Tryd.prog laidL w) (fun _ _ _ hh h => h.of_heap hh) ownK started (by kernel_rfl) Tryd.func7
    (ChangeSpec.witness_shaped (enc := enc) (C := Tryd.checked) (os := os) (X := fun w _ => laidMetH Tryd.prog laidL w) false (World.doorLaid Tryd.prog 400 os) #[.slice none 0 0, .int .i64 0, .agg #[.int .u32 0, .int .u32 0, .int .u32 0, .int .u32 0]] 8 rfl (World.shaped_of_RefB (by kernel_rfl) (by kernel_rfl)) (by kernel_rfl) (by kernel_rfl) (by kernel_rfl) (door_met os _)) ?_
  intro W base args ds gs before hval0 hW _ _ hL0 _
  have hval : ∀ (j : Nat) t v, Tryd.f7.params[j]? = some t → args[j]? = some v → Value.okWide Tryd.prog W .any base t v := hval0
  have hL := of_laid hL0
  have hW' := hW
  obtain ⟨p, q, hA0, hV, rfl, hfz, hnd⟩ := hW
  have hA : DataW.TrodAll enc Tryd.prog W 0 (fun _ => true) true Tryd.f7.params.toList args.toList ds p := hA0
  rw [Tryd.params7] at hA hval
  obtain ⟨rfl, rfl⟩ := trodVars_none hV
  obtain ⟨v0, v1, v2, d0, d1, d2, p0, p1, p2, rfl, rfl, rfl, h0, h1, h2⟩ := trodAll_three hA
  have hc0 : v0.cells = #[v0] := by obtain ⟨_, _, _, rfl⟩ := okWide_slice Tryd.underlying27 (hval 0 27 v0 rfl rfl); rfl
  obtain ⟨b0_0, vb0_0, e0, pb0_0_0⟩ := op_par1 hc0 h0 op_t27
  obtain rfl := List.head_eq_of_cons_eq e0
  have hc1 : v1.cells = #[v1] := by obtain ⟨_, rfl⟩ := okWide_int Tryd.underlying3 (hval 1 3 v1 rfl rfl); rfl
  obtain ⟨b1_0, e1, pb1_0_0, pb1_0_1⟩ := op_par1 hc1 h1 op_t3
  obtain rfl := List.head_eq_of_cons_eq e1
  obtain ⟨cs2, rfl, hcs2⟩ := op_par Tryd.underlying24 rfl (hval 2 24 v2 rfl rfl) h2 op_t24
  obtain ⟨b2_0, rfl⟩ := hcs2
  clear hA0 hval0
  simp only [List.append_nil] at hW'
  refine Calls.mono (otherLaw b0_0 b1_0 b2_0 v0 W hL pb0_0_0) ?_
  rintro e W' ⟨v, he, hv, hE⟩
  have hv' : v = .bool true := hv
  subst he; subst hv'
  exact ⟨_, rfl, law_post laidOut (by rw [Tryd.params7]; kernel_rfl) (by kernel_rfl) Tryd.underlying4 rfl rfl (by simpa using hW') hE⟩
theorem merkleOther_holds : Rows.MerkleOtherSaid :=
  OpenClaim.holds_of_wide 7 Tryd.f7 rfl rfl rfl rfl rfl rfl rfl ⟨rfl, rfl, rfl, rfl, rfl⟩ rfl rfl rfl rfl rfl (by kernel_rfl) Tryd.func7 (by kernel_rfl)
    (of_decide_eq_true (by kernel_rfl)) (by unfold Func.isWrapper; first | (rw [if_pos (by decide +kernel)]; kernel_rfl) | (rw [if_neg (by decide +kernel)]; exact ⟨rfl, rfl⟩))
    (fun os started H enc _ => merkleOther_lifted os started H enc)
/-- THE CARD. -/
theorem merkleOther_card : Rows.MerkleOtherCardSaid :=
  Claim7.holds_tied_plain_at .later [] [.data] true (true, "e66dde6c59f2141ff2f85b862ae4581a1ad91f1f7bc3715d4153ef78c8957ff3") false
    merkleOther_holds (fun _ h => by cases h) (by kernel_rfl) (fun _ h => by cases h) merkleOther_row_tie rfl ⟨rfl, rfl⟩ (by kernel_rfl) rfl
    (fun f fn hf hfn => by
      obtain rfl : f = 7 := Option.some.inj ((show Tryd.prog.funcNamed "seedcorn/seedcornlaw04.MerkleOther" = some 7 by kernel_rfl).symm.trans hf) |>.symm
      obtain rfl : fn = Tryd.f7 := (Option.some.inj (Tryd.func7.symm.trans hfn)).symm
      exact ⟨by kernel_rfl, fun j t ht => by
        rw [Tryd.params7] at ht
        have hm : t ∈ [27, 3, 24] := by simpa using Array.mem_of_getElem? ht
        have hall : ([27, 3, 24].all fun u => !Tryd.prog.wantsStandIn u) = true := by kernel_rfl
        exact (show Tryd.prog.wantsStandIn t = false by simpa using List.all_eq_true.1 hall t hm)⟩)
    (by kernel_rfl)
#print axioms merkleOther_card
end Go.Proofs.YtncamojfjhbanaaDoor
