/- The walks of functions of the program: printed. -/
import Derived.Test.YtmmghpbncejfiaaDoorKB
import Derived.Test.YtmmghpbncejfiaaDoorG7
import Derived.Test.YtmmghpbncejfiaaDoorG100
import Derived.Test.YtmmghpbncejfiaaDoorF0
set_option maxRecDepth 100000
namespace Go.Proofs.YtmmghpbncejfiaaDoor
open Go Go.RowKit Sk Sd
theorem keyPubR (seed : Dg) (h : Int) (w0 : World) :
    Gives Tryd.prog 28 #[Dg.val (seed), i64 (h)] w0 (Pr.ex (Value.tuple #[Dg.val (keyPub seed h).1, i64 (((keyPub seed h).2 : Nat) : Int)])) := by
 refine enter (N := 17) Tryd.func28 rfl rfl ?_
 intro a0 N0 D0 hA
 have s0_0 : get a0 0 = Dg.val (seed) := hA 0 _ rfl
 have s1_0 : get a0 1 = i64 (h) := hA 1 _ rfl
 clear hA
 have E0 : Ext w0 w0 := Ext.refl w0
 refine wp_seq ?_
 refine Rl [2, 4] [(2, Pr.box' w0.heap.size 24 [w32 (seed).a, w32 (seed).b, w32 (seed).c, w32 (seed).d]), (4, Pr.box' w0.heap.size 24 [w32 (Dg.zero).a, w32 (Dg.zero).b, w32 (Dg.zero).c, w32 (Dg.zero).d]), (5, Pr.ex (i64 ((0 : Nat) : Int)))] 3 N0 D0 ?_ ?_
 refine Ac ?_ (Ac ?_ (Ac ?_ (Az _)))
 refine Ask.fresh rfl rfl ?_
 intro aq wq hNq hO hR hT
 exact does_box (V := Dg.val (seed)) (oT hO s0_0 rfl) (fun b w2 he hlo hb => ⟨he, ⟨b, rfl, Nat.le_trans hR.size' hlo, hb⟩, ⟨b, rfl, hlo, hb.lt⟩⟩)
 refine Ask.fresh rfl rfl ?_
 intro aq wq hNq hO hR hT
 exact does_alloc zero_24 (fun b w2 he hlo hb => ⟨he, ⟨b, rfl, Nat.le_trans hR.size' hlo, hb⟩, ⟨b, rfl, hlo, hb.lt⟩⟩)
 exact Ap fun aq wq _ hO hR hT => does_assign (V := i64 ((0 : Nat) : Int)) rfl eR
 intro a1 wd1 N1 D1 hO hR hA hU
 obtain ⟨t2, t4, _, _⟩ := hA
 have E1 := E0.trans hR
 have s1_1 := oT hO s1_0 rfl
 obtain ⟨b2, s2_1, lo_b2, B2_1⟩ := t2
 have fr_b2 : w0.heap.size ≤ b2 := Nat.le_trans E0.size' lo_b2
 obtain ⟨b4, s4_1, lo_b4, B4_1⟩ := t4
 have fr_b4 : w0.heap.size ≤ b4 := Nat.le_trans E0.size' lo_b4
 obtain ⟨u0, ⟨u1, _⟩⟩ := hU
 have ne_b2_b4 : b2 ≠ b4 := fun e => u0 4 (by decide) (by rw [s2_1, s4_1, e])
 clear E0 N0 D0 s0_0 s1_0
 refine tail_nil ?_
 refine wp_seq ?_
 refine wp_seq ?_
 refine Rl [] [(6, Pr.ex (i64 (h))), (7, Pr.ex (Value.bool (decide (h < ((0 : Nat) : Int))))), (8, Pr.ex (Value.bool (decide (h < ((0 : Nat) : Int))))), (9, Pr.ifb (!(decide (h < ((0 : Nat) : Int)))) (Pr.ex (i64 (h)))), (10, Pr.ifb (!(decide (h < ((0 : Nat) : Int)))) (Pr.ex (Value.bool (decide (((4 : Nat) : Int) < h))))), (11, Pr.ex (Value.bool ((decide (h < ((0 : Nat) : Int))) || (decide (((4 : Nat) : Int) < h)))))] 6 N1 D1 ?_ ?_
 refine Ac ?_ (Ac ?_ (Ac ?_ (Ac ?_ (Ac ?_ (Ac ?_ (Az _))))))
 exact Am s1_1 rfl fun _ => rfl
 exact Ap fun aq wq _ hO hR hT => does_lss (a := h) (b := ((0 : Nat) : Int)) (hT 6 rfl rfl) rfl eR
 exact Ap fun aq wq _ hO hR hT => does_move (V := Value.bool (decide (h < ((0 : Nat) : Int)))) (hT 7 rfl rfl) eR
 refine Ask.guarded (B := decide (h < ((0 : Nat) : Int))) (want := false) (t := 8) rfl rfl rfl rfl (by decide) (fun aq wq hO hR hT => hT 8 rfl rfl) (fun hG aq wq hNq hO hR hT => ?_) (fun hno _ => fun hc => absurd (bn hc) hno)
 replace hG := nb hG
 exact does_move (V := i64 (h)) (oT hO s1_1 rfl) ⟨Ext.refl _, fun _ => rfl⟩
 refine Ask.guarded (B := decide (h < ((0 : Nat) : Int))) (want := false) (t := 8) rfl rfl rfl rfl (by decide) (fun aq wq hO hR hT => hT 8 rfl rfl) (fun hG aq wq hNq hO hR hT => ?_) (fun hno _ => fun hc => absurd (bn hc) hno)
 replace hG := nb hG
 exact does_gtr (a := h) (b := ((4 : Nat) : Int)) (hT 9 rfl rfl hG) rfl ⟨Ext.refl _, fun _ => rfl⟩
 exact Ap fun aq wq _ hO hR hT => does_or (B := decide (h < ((0 : Nat) : Int))) (X := decide (((4 : Nat) : Int) < h)) (hT 8 rfl rfl) rfl (fun hB => (hT 10 rfl rfl (nb hB))) eR
 intro a2 wd2 N2 D2 hO hR hA hU
 obtain ⟨_, _, _, _, _, t11, _⟩ := hA
 have E2 := E1.trans hR
 have s1_2 := oT hO s1_1 rfl
 have s2_2 := oT hO s2_1 rfl
 have s4_2 := oT hO s4_1 rfl
 have B2_2 := B2_1.ext' hR
 have B4_2 := B4_1.ext' hR
 have s11_2 : get a2 11 = Value.bool ((decide (h < ((0 : Nat) : Int))) || (decide (((4 : Nat) : Int) < h))) := t11
 clear E1 N1 D1 s1_1 s2_1 s4_1 B2_1 B4_1
 refine tail_nil ?_
 refine wp_if (B := (decide (h < ((0 : Nat) : Int))) || (decide (((4 : Nat) : Int) < h))) s11_2 (fun hc0 => ?_) (fun hc0 => ?_)
 have hb : ¬ (0 ≤ h ∧ h ≤ 4) := by simp at hc0; omega
 refine wp_seq ?_
 refine Rl [] [(12, Pr.ex (Dg.val (Dg.zero)))] 1 N2 D2 ?_ ?_
 refine Ac ?_ (Az _)
 exact Ap fun aq wq _ hO hR hT => does_build (vs := #[]) (V := Dg.val (Dg.zero)) parts0 (by kernel_rfl) eR
 intro a3 wd3 N3 D3 hO hR hA hU
 obtain ⟨t12, _⟩ := hA
 have E3 := E2.trans hR
 have s4_3 := oT hO s4_2 rfl
 have B2_3 := B2_2.ext' hR
 have B4_3 := B4_2.ext' hR
 have s12_3 : get a3 12 = Dg.val (Dg.zero) := t12
 clear E2 N2 D2 s1_2 s2_2 s4_2 s11_2 B2_2 B4_2
 refine tail_none rfl rfl (does_storeD (o := 0) (n := 4) (cs' := [w32 (Dg.zero).a, w32 (Dg.zero).b, w32 (Dg.zero).c, w32 (Dg.zero).d]) (V := Dg.val (Dg.zero)) s4_3 s12_3 B4_3 (nB rfl) rfl siz_24 rfl rfl (fun wd4 hX hz B4_4 => ?_))
 have E4 := E3.since hX (fun k e => e ▸ fr_b4)
 have B2_4 := B2_3.ext hX ne_b2_b4
 clear hX hz E3 B2_3 B4_3
 refine tail_put rfl rfl N3 D3 (by decide) (does_assign (V := i64 ((2 : Nat) : Int)) rfl (fun a5 N5 D5 hv hO => ?_))
 have s5_5 := hv
 have s4_5 := oT hO s4_3 rfl
 clear hO hv N3 D3 s4_3 s12_3
 refine tail_nil ?_
 refine wp_ret ?_
 refine res_two (V1 := Dg.val (Dg.zero)) (V2 := i64 ((2 : Nat) : Int)) rfl D5 (ResIs.cell s4_5 B4_4 row_24 rfl rfl) s5_5 ?_
 rw [keyPub_no hb]
 exact ⟨rfl, E4⟩
 have hb : 0 ≤ h ∧ h ≤ 4 := by simp at hc0; omega
 refine wp_skip ?_
 refine wp_seq ?_
 obtain ⟨n, rfl⟩ : ∃ n : Nat, h = (n : Int) := ⟨(h).toNat, by omega⟩
 have hn4 : n ≤ 4 := by omega
 have hp16 := pw_small hn4
 refine Rl [] [(13, Pr.ex (Dg.val (seed))), (14, Pr.ex (i64 (n : Int))), (15, Pr.own' DG wd2.heap.size 24 (publics seed (pw n))), (16, Pr.ex (Dg.val (root (publics seed (pw n)))))] 4 N2 D2 ?_ ?_
 refine Ac ?_ (Ac ?_ (Ac ?_ (Ac ?_ (Az _))))
 exact Ap fun aq wq _ hO hR hT => does_loadD (o := 0) (n := 4) (mid := [w32 (seed).a, w32 (seed).b, w32 (seed).c, w32 (seed).d]) (oT hO s2_2 rfl) (B2_2.ext' hR) rfl rfl (nB rfl) row_24 rfl eR
 exact Am s1_2 rfl fun _ => rfl
 exact Ap fun aq wq _ hO hR hT => does_ret (vs := #[Dg.val (seed), i64 (n : Int)]) call_46 (args2 (hT 13 rfl rfl) (hT 14 rfl rfl)) rfl ((keysR seed n wq hn4).mono fun v w2 h => ⟨h.2, OwnT.base h.1 hR.size'⟩)
 exact Ap fun aq wq _ hO hR hT => does_ret (vs := #[get aq 15]) call_45 (args1 rfl) rfl ((rootR (publics seed (pw n)) (get aq 15) wq (((OwnT.sl (hT 15 rfl rfl)).wide (Nat.zero_le _) (.inl rfl)).wide (Nat.zero_le _) (.inl rfl)) (by rw [publics_length]; omega)).mono fun v w2 h => ⟨h.2, h.1⟩)
 intro a6 wd6 N6 D6 hO hR hA hU
 obtain ⟨_, _, _, t16, _⟩ := hA
 have E6 := E2.trans hR
 have s4_6 := oT hO s4_2 rfl
 have B2_6 := B2_2.ext' hR
 have B4_6 := B4_2.ext' hR
 have s16_6 : get a6 16 = Dg.val (root (publics seed (pw n))) := t16
 clear E2 N2 D2 s1_2 s2_2 s4_2 s11_2 B2_2 B4_2
 refine tail_none rfl rfl (does_storeD (o := 0) (n := 4) (cs' := [w32 (root (publics seed (pw n))).a, w32 (root (publics seed (pw n))).b, w32 (root (publics seed (pw n))).c, w32 (root (publics seed (pw n))).d]) (V := Dg.val (root (publics seed (pw n)))) s4_6 s16_6 B4_6 (nB rfl) rfl siz_24 rfl rfl (fun wd7 hX hz B4_7 => ?_))
 have E7 := E6.since hX (fun k e => e ▸ fr_b4)
 have B2_7 := B2_6.ext hX ne_b2_b4
 clear hX hz E6 B2_6 B4_6
 refine tail_put rfl rfl N6 D6 (by decide) (does_assign (V := i64 ((0 : Nat) : Int)) rfl (fun a8 N8 D8 hv hO => ?_))
 have s5_8 := hv
 have s4_8 := oT hO s4_6 rfl
 clear hO hv N6 D6 s4_6 s16_6
 refine tail_nil ?_
 refine wp_ret ?_
 refine res_two (V1 := Dg.val (root (publics seed (pw n)))) (V2 := i64 ((0 : Nat) : Int)) rfl D8 (ResIs.cell s4_8 B4_7 row_24 rfl rfl) s5_8 ?_
 rw [keyPub_ok hn4]
 exact ⟨rfl, E7⟩

theorem keyPubR_k (seed : Dg) (n : Nat) (w0 : World) (hn : n ≤ 4) : Gives Tryd.prog 28 #[Dg.val seed, i64 (n : Int)] w0 (Pr.ex (Value.tuple #[Dg.val (root (publics seed (pw n))), i64 ((0 : Nat) : Int)])) := by
  have h := keyPubR seed n w0
  rw [keyPub_ok hn] at h
  exact h

end Go.Proofs.YtmmghpbncejfiaaDoor
