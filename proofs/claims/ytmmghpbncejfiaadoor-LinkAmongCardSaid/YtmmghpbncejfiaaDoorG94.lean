/- The walks of functions of the program: printed. -/
import Derived.Test.YtmmghpbncejfiaaDoorKB
import Derived.Test.YtmmghpbncejfiaaDoorG7
import Derived.Test.YtmmghpbncejfiaaDoorG93
import Derived.Test.YtmmghpbncejfiaaDoorF0
set_option maxRecDepth 100000
namespace Go.Proofs.YtmmghpbncejfiaaDoor
open Go Go.RowKit Sk Sd
theorem high_ (h : Int) (w0 : World) :
    Gives Tryd.prog 30 #[i64 (h)] w0 (Pr.ex (Value.bool (highB h))) := by
 refine enter (N := 9) Tryd.func30 rfl rfl ?_
 intro a0 N0 D0 hA
 have s0_0 : get a0 0 = i64 (h) := hA 0 _ rfl
 clear hA
 have E0 : Ext w0 w0 := Ext.refl w0
 refine wp_seq ?_
 refine Rl [] [(2, Pr.ex (Value.bool (false)))] 1 N0 D0 ?_ ?_
 refine Ac ?_ (Az _)
 exact Ap fun aq wq _ hO hR hT => does_assign (V := Value.bool (false)) rfl eR
 intro a1 wd1 N1 D1 hO hR hA hU
 obtain ⟨_, _⟩ := hA
 have E1 := E0.trans hR
 have s0_1 := oT hO s0_0 rfl
 clear E0 N0 D0 s0_0
 refine tail_nil ?_
 refine wp_seq ?_
 refine Rl [] [(3, Pr.ex (i64 (h))), (4, Pr.ex (Value.bool (decide (((0 : Nat) : Int) ≤ h)))), (5, Pr.ex (Value.bool (decide (((0 : Nat) : Int) ≤ h)))), (6, Pr.ifb (decide (((0 : Nat) : Int) ≤ h)) (Pr.ex (i64 (h)))), (7, Pr.ifb (decide (((0 : Nat) : Int) ≤ h)) (Pr.ex (Value.bool (decide (h ≤ ((4 : Nat) : Int)))))), (8, Pr.ex (Value.bool ((decide (((0 : Nat) : Int) ≤ h)) && (decide (h ≤ ((4 : Nat) : Int)))))), (2, Pr.ex (Value.bool ((decide (((0 : Nat) : Int) ≤ h)) && (decide (h ≤ ((4 : Nat) : Int))))))] 7 N1 D1 ?_ ?_
 refine Ac ?_ (Ac ?_ (Ac ?_ (Ac ?_ (Ac ?_ (Ac ?_ (Ac ?_ (Az _)))))))
 exact Am s0_1 rfl fun _ => rfl
 exact Ap fun aq wq _ hO hR hT => does_geq (a := h) (b := ((0 : Nat) : Int)) (hT 3 rfl rfl) rfl eR
 exact Ap fun aq wq _ hO hR hT => does_move (V := Value.bool (decide (((0 : Nat) : Int) ≤ h))) (hT 4 rfl rfl) eR
 refine Ask.guarded (B := decide (((0 : Nat) : Int) ≤ h)) (want := true) (t := 5) rfl rfl rfl rfl (by decide) (fun aq wq hO hR hT => hT 5 rfl rfl) (fun hG aq wq hNq hO hR hT => ?_) (fun hno _ => fun hc => absurd hc hno)
 exact does_move (V := i64 (h)) (oT hO s0_1 rfl) ⟨Ext.refl _, fun _ => rfl⟩
 refine Ask.guarded (B := decide (((0 : Nat) : Int) ≤ h)) (want := true) (t := 5) rfl rfl rfl rfl (by decide) (fun aq wq hO hR hT => hT 5 rfl rfl) (fun hG aq wq hNq hO hR hT => ?_) (fun hno _ => fun hc => absurd hc hno)
 exact does_leq (a := h) (b := ((4 : Nat) : Int)) (hT 6 rfl rfl hG) rfl ⟨Ext.refl _, fun _ => rfl⟩
 exact Ap fun aq wq _ hO hR hT => does_and (B := decide (((0 : Nat) : Int) ≤ h)) (X := decide (h ≤ ((4 : Nat) : Int))) (hT 5 rfl rfl) (fun hB => (hT 7 rfl rfl hB)) rfl eR
 exact Ap fun aq wq _ hO hR hT => does_assign (V := Value.bool ((decide (((0 : Nat) : Int) ≤ h)) && (decide (h ≤ ((4 : Nat) : Int))))) (hT 8 rfl rfl) eR
 intro a2 wd2 N2 D2 hO hR hA hU
 obtain ⟨_, _, _, _, _, _, t2, _⟩ := hA
 have E2 := E1.trans hR
 have s2_2 : get a2 2 = Value.bool ((decide (((0 : Nat) : Int) ≤ h)) && (decide (h ≤ ((4 : Nat) : Int)))) := t2
 clear E1 N1 D1 s0_1
 refine tail_nil ?_
 refine wp_ret ?_
 refine res_one (V := Value.bool ((decide (((0 : Nat) : Int) ≤ h)) && (decide (h ≤ ((4 : Nat) : Int))))) rfl D2 s2_2 ?_
 exact ⟨rfl, E2⟩

theorem keyPub_ (seed : Dg) (h : Int) (w0 : World) (hL : Laid w0) :
    Gives Tryd.prog 18 #[Dg.val (seed), i64 (h)] w0 (Pr.ex (Value.tuple #[Dg.val (keyPub seed h).1, i64 (((keyPub seed h).2 : Nat) : Int)])) := by
 refine enter (N := 14) Tryd.func18 rfl rfl ?_
 intro a0 N0 D0 hA
 have s0_0 : get a0 0 = Dg.val (seed) := hA 0 _ rfl
 have s1_0 : get a0 1 = i64 (h) := hA 1 _ rfl
 clear hA
 have E0 : Ext w0 w0 := Ext.refl w0
 refine wp_seq ?_
 refine Rl [2, 4] [(2, Pr.box' w0.heap.size 24 [w32 (seed).a, w32 (seed).b, w32 (seed).c, w32 (seed).d]), (4, Pr.box' w0.heap.size 24 [w32 (Dg.zero).a, w32 (Dg.zero).b, w32 (Dg.zero).c, w32 (Dg.zero).d]), (5, Pr.ex (i64 ((0 : Nat) : Int)))] 3 N0 D0 ?_ ?_
 refine Ac ?_ (Ac ?_ (Ac ?_ (Az _)))
 refine Ask.fresh rfl rfl ?_
 intro aq wq hNq hO hR hT
 exact does_box (V := Dg.val (seed)) (oT hO s0_0 rfl) (fun b w2 he hlo hb => ⟨he, ⟨b, rfl, Nat.le_trans hR.size' hlo, hb⟩, ⟨b, rfl, hlo, hb.lt⟩⟩)
 refine Ask.fresh rfl rfl ?_
 intro aq wq hNq hO hR hT
 exact does_alloc zero_24 (fun b w2 he hlo hb => ⟨he, ⟨b, rfl, Nat.le_trans hR.size' hlo, hb⟩, ⟨b, rfl, hlo, hb.lt⟩⟩)
 exact Ap fun aq wq _ hO hR hT => does_assign (V := i64 ((0 : Nat) : Int)) rfl eR
 intro a1 wd1 N1 D1 hO hR hA hU
 obtain ⟨t2, t4, _, _⟩ := hA
 have E1 := E0.trans hR
 have s1_1 := oT hO s1_0 rfl
 obtain ⟨b2, s2_1, lo_b2, B2_1⟩ := t2
 have fr_b2 : w0.heap.size ≤ b2 := Nat.le_trans E0.size' lo_b2
 obtain ⟨b4, s4_1, lo_b4, B4_1⟩ := t4
 have fr_b4 : w0.heap.size ≤ b4 := Nat.le_trans E0.size' lo_b4
 obtain ⟨u0, ⟨u1, _⟩⟩ := hU
 have ne_b2_b4 : b2 ≠ b4 := fun e => u0 4 (by decide) (by rw [s2_1, s4_1, e])
 clear E0 N0 D0 s0_0 s1_0
 refine tail_nil ?_
 refine wp_seq ?_
 refine wp_seq ?_
 refine Rl [] [(6, Pr.ex (i64 (h))), (7, Pr.ex (Value.bool (highB h))), (8, Pr.ex (Value.bool (!(highB h))))] 3 N1 D1 ?_ ?_
 refine Ac ?_ (Ac ?_ (Ac ?_ (Az _)))
 exact Am s1_1 rfl fun _ => rfl
 exact Ap fun aq wq _ hO hR hT => does_ret (vs := #[i64 (h)]) call_30 (args1 (hT 6 rfl rfl)) rfl ((high_ h wq).mono fun v w2 h => ⟨h.2, h.1⟩)
 exact Ap fun aq wq _ hO hR hT => does_not (B := highB h) (hT 7 rfl rfl) eR
 intro a2 wd2 N2 D2 hO hR hA hU
 obtain ⟨_, _, t8, _⟩ := hA
 have E2 := E1.trans hR
 have s1_2 := oT hO s1_1 rfl
 have s2_2 := oT hO s2_1 rfl
 have s4_2 := oT hO s4_1 rfl
 have B2_2 := B2_1.ext' hR
 have B4_2 := B4_1.ext' hR
 have s8_2 : get a2 8 = Value.bool (!(highB h)) := t8
 clear E1 N1 D1 s1_1 s2_1 s4_1 B2_1 B4_1
 refine tail_nil ?_
 refine wp_if (B := !(highB h)) s8_2 (fun hc0 => ?_) (fun hc0 => ?_)
 have hb : ¬ (0 ≤ h ∧ h ≤ 4) := by simp [highB] at hc0; omega
 refine wp_seq ?_
 refine Rl [] [(9, Pr.ex (Dg.val (Dg.zero)))] 1 N2 D2 ?_ ?_
 refine Ac ?_ (Az _)
 exact Ap fun aq wq _ hO hR hT => does_build (vs := #[]) (V := Dg.val (Dg.zero)) parts0 (by kernel_rfl) eR
 intro a3 wd3 N3 D3 hO hR hA hU
 obtain ⟨t9, _⟩ := hA
 have E3 := E2.trans hR
 have s4_3 := oT hO s4_2 rfl
 have B2_3 := B2_2.ext' hR
 have B4_3 := B4_2.ext' hR
 have s9_3 : get a3 9 = Dg.val (Dg.zero) := t9
 clear E2 N2 D2 s1_2 s2_2 s4_2 s8_2 B2_2 B4_2
 refine tail_none rfl rfl (does_storeD (o := 0) (n := 4) (cs' := [w32 (Dg.zero).a, w32 (Dg.zero).b, w32 (Dg.zero).c, w32 (Dg.zero).d]) (V := Dg.val (Dg.zero)) s4_3 s9_3 B4_3 (nB rfl) rfl siz_24 rfl rfl (fun wd4 hX hz B4_4 => ?_))
 have E4 := E3.since hX (fun k e => e ▸ fr_b4)
 have B2_4 := B2_3.ext hX ne_b2_b4
 clear hX hz E3 B2_3 B4_3
 refine tail_put rfl rfl N3 D3 (by decide) (does_assign (V := i64 ((2 : Nat) : Int)) rfl (fun a5 N5 D5 hv hO => ?_))
 have s5_5 := hv
 have s4_5 := oT hO s4_3 rfl
 clear hO hv N3 D3 s4_3 s9_3
 refine tail_nil ?_
 refine wp_ret ?_
 refine res_two (V1 := Dg.val (Dg.zero)) (V2 := i64 ((2 : Nat) : Int)) rfl D5 (ResIs.cell s4_5 B4_4 row_24 rfl rfl) s5_5 ?_
 rw [keyPub_no hb]
 exact ⟨rfl, E4⟩
 have hb : 0 ≤ h ∧ h ≤ 4 := by simpa [highB] using hc0
 refine wp_skip ?_
 refine wp_seq ?_
 obtain ⟨n, rfl⟩ : ∃ n : Nat, h = (n : Int) := ⟨(h).toNat, by omega⟩
 have hn4 : n ≤ 4 := by omega
 have hp16 := pw_small hn4
 refine Rl [] [(10, Pr.ex (Dg.val (seed))), (11, Pr.ex (i64 (n : Int))), (12, Pr.own' DG wd2.heap.size 24 (publics seed (pw n))), (13, Pr.ex (Dg.val (root (publics seed (pw n)))))] 4 N2 D2 ?_ ?_
 refine Ac ?_ (Ac ?_ (Ac ?_ (Ac ?_ (Az _))))
 exact Ap fun aq wq _ hO hR hT => does_loadD (o := 0) (n := 4) (mid := [w32 (seed).a, w32 (seed).b, w32 (seed).c, w32 (seed).d]) (oT hO s2_2 rfl) (B2_2.ext' hR) rfl rfl (nB rfl) row_24 rfl eR
 exact Am s1_2 rfl fun _ => rfl
 exact Ap fun aq wq _ hO hR hT => does_ret (vs := #[Dg.val (seed), i64 (n : Int)]) call_32 (args2 (hT 10 rfl rfl) (hT 11 rfl rfl)) rfl ((publics_ seed n wq (hL.ext (E2.trans hR)) hn4).mono fun v w2 h => ⟨h.2, OwnT.base h.1 hR.size'⟩)
 exact Ap fun aq wq _ hO hR hT => does_ret (vs := #[get aq 12]) call_31 (args1 rfl) rfl ((root_ (publics seed (pw n)) (get aq 12) wq (hL.ext (E2.trans hR)) (((OwnT.sl (hT 12 rfl rfl)).wide (Nat.zero_le _) (.inl rfl)).wide (Nat.zero_le _) (.inl rfl)) (by rw [publics_length]; omega)).mono fun v w2 h => ⟨h.2, h.1⟩)
 intro a6 wd6 N6 D6 hO hR hA hU
 obtain ⟨_, _, _, t13, _⟩ := hA
 have E6 := E2.trans hR
 have s4_6 := oT hO s4_2 rfl
 have B2_6 := B2_2.ext' hR
 have B4_6 := B4_2.ext' hR
 have s13_6 : get a6 13 = Dg.val (root (publics seed (pw n))) := t13
 clear E2 N2 D2 s1_2 s2_2 s4_2 s8_2 B2_2 B4_2
 refine tail_none rfl rfl (does_storeD (o := 0) (n := 4) (cs' := [w32 (root (publics seed (pw n))).a, w32 (root (publics seed (pw n))).b, w32 (root (publics seed (pw n))).c, w32 (root (publics seed (pw n))).d]) (V := Dg.val (root (publics seed (pw n)))) s4_6 s13_6 B4_6 (nB rfl) rfl siz_24 rfl rfl (fun wd7 hX hz B4_7 => ?_))
 have E7 := E6.since hX (fun k e => e ▸ fr_b4)
 have B2_7 := B2_6.ext hX ne_b2_b4
 clear hX hz E6 B2_6 B4_6
 refine tail_put rfl rfl N6 D6 (by decide) (does_assign (V := i64 ((0 : Nat) : Int)) rfl (fun a8 N8 D8 hv hO => ?_))
 have s5_8 := hv
 have s4_8 := oT hO s4_6 rfl
 clear hO hv N6 D6 s4_6 s13_6
 refine tail_nil ?_
 refine wp_ret ?_
 refine res_two (V1 := Dg.val (root (publics seed (pw n)))) (V2 := i64 ((0 : Nat) : Int)) rfl D8 (ResIs.cell s4_8 B4_7 row_24 rfl rfl) s5_8 ?_
 rw [keyPub_ok hn4]
 exact ⟨rfl, E7⟩

theorem keyPub_k (seed : Dg) (n : Nat) (w0 : World) (hL : Laid w0) (hn : n ≤ 4) : Gives Tryd.prog 18 #[Dg.val seed, i64 (n : Int)] w0 (Pr.ex (Value.tuple #[Dg.val (root (publics seed (pw n))), i64 ((0 : Nat) : Int)])) := by
  have h := keyPub_ seed n w0 hL
  rw [keyPub_ok hn] at h
  exact h

theorem keyNew_ (seed : Dg) (h : Int) (w0 : World) :
    Gives Tryd.prog 17 #[Dg.val (seed), i64 (h)] w0 (Pr.ex (Value.tuple #[Value.agg #[w32 ((keyNew seed h).1).a, w32 ((keyNew seed h).1).b, w32 ((keyNew seed h).1).c, w32 ((keyNew seed h).1).d, i64 ((keyNew seed h).2.1), i64 (0)], i64 (((keyNew seed h).2.2 : Nat) : Int)])) := by
 refine enter (N := 13) Tryd.func17 rfl rfl ?_
 intro a0 N0 D0 hA
 have s0_0 : get a0 0 = Dg.val (seed) := hA 0 _ rfl
 have s1_0 : get a0 1 = i64 (h) := hA 1 _ rfl
 clear hA
 have E0 : Ext w0 w0 := Ext.refl w0
 refine wp_seq ?_
 refine Rl [2, 4] [(2, Pr.box' w0.heap.size 24 [w32 (seed).a, w32 (seed).b, w32 (seed).c, w32 (seed).d]), (4, Pr.box' w0.heap.size 45 [w32 (Dg.zero).a, w32 (Dg.zero).b, w32 (Dg.zero).c, w32 (Dg.zero).d, i64 ((0 : Nat) : Int), i64 ((0 : Nat) : Int)]), (5, Pr.ex (i64 ((0 : Nat) : Int)))] 3 N0 D0 ?_ ?_
 refine Ac ?_ (Ac ?_ (Ac ?_ (Az _)))
 refine Ask.fresh rfl rfl ?_
 intro aq wq hNq hO hR hT
 exact does_box (V := Dg.val (seed)) (oT hO s0_0 rfl) (fun b w2 he hlo hb => ⟨he, ⟨b, rfl, Nat.le_trans hR.size' hlo, hb⟩, ⟨b, rfl, hlo, hb.lt⟩⟩)
 refine Ask.fresh rfl rfl ?_
 intro aq wq hNq hO hR hT
 exact does_alloc zero_45 (fun b w2 he hlo hb => ⟨he, ⟨b, rfl, Nat.le_trans hR.size' hlo, hb⟩, ⟨b, rfl, hlo, hb.lt⟩⟩)
 exact Ap fun aq wq _ hO hR hT => does_assign (V := i64 ((0 : Nat) : Int)) rfl eR
 intro a1 wd1 N1 D1 hO hR hA hU
 obtain ⟨t2, t4, _, _⟩ := hA
 have E1 := E0.trans hR
 have s1_1 := oT hO s1_0 rfl
 obtain ⟨b2, s2_1, lo_b2, B2_1⟩ := t2
 have fr_b2 : w0.heap.size ≤ b2 := Nat.le_trans E0.size' lo_b2
 obtain ⟨b4, s4_1, lo_b4, B4_1⟩ := t4
 have fr_b4 : w0.heap.size ≤ b4 := Nat.le_trans E0.size' lo_b4
 obtain ⟨u0, ⟨u1, _⟩⟩ := hU
 have ne_b2_b4 : b2 ≠ b4 := fun e => u0 4 (by decide) (by rw [s2_1, s4_1, e])
 clear E0 N0 D0 s0_0 s1_0
 refine tail_nil ?_
 refine wp_seq ?_
 refine wp_seq ?_
 refine Rl [] [(6, Pr.ex (i64 (h))), (7, Pr.ex (Value.bool (highB h))), (8, Pr.ex (Value.bool (!(highB h))))] 3 N1 D1 ?_ ?_
 refine Ac ?_ (Ac ?_ (Ac ?_ (Az _)))
 exact Am s1_1 rfl fun _ => rfl
 exact Ap fun aq wq _ hO hR hT => does_ret (vs := #[i64 (h)]) call_30 (args1 (hT 6 rfl rfl)) rfl ((high_ h wq).mono fun v w2 h => ⟨h.2, h.1⟩)
 exact Ap fun aq wq _ hO hR hT => does_not (B := highB h) (hT 7 rfl rfl) eR
 intro a2 wd2 N2 D2 hO hR hA hU
 obtain ⟨_, _, t8, _⟩ := hA
 have E2 := E1.trans hR
 have s1_2 := oT hO s1_1 rfl
 have s2_2 := oT hO s2_1 rfl
 have s4_2 := oT hO s4_1 rfl
 have B2_2 := B2_1.ext' hR
 have B4_2 := B4_1.ext' hR
 have s8_2 : get a2 8 = Value.bool (!(highB h)) := t8
 clear E1 N1 D1 s1_1 s2_1 s4_1 B2_1 B4_1
 refine tail_nil ?_
 refine wp_if (B := !(highB h)) s8_2 (fun hc0 => ?_) (fun hc0 => ?_)
 have hb : ¬ (0 ≤ h ∧ h ≤ 4) := by simp [highB] at hc0; omega
 refine wp_seq ?_
 refine Rl [] [(9, Pr.ex (Value.agg #[w32 (Dg.zero).a, w32 (Dg.zero).b, w32 (Dg.zero).c, w32 (Dg.zero).d, i64 ((0 : Nat) : Int), i64 ((0 : Nat) : Int)]))] 1 N2 D2 ?_ ?_
 refine Ac ?_ (Az _)
 exact Ap fun aq wq _ hO hR hT => does_build (vs := #[]) (V := Value.agg #[w32 (Dg.zero).a, w32 (Dg.zero).b, w32 (Dg.zero).c, w32 (Dg.zero).d, i64 ((0 : Nat) : Int), i64 ((0 : Nat) : Int)]) parts0 (by kernel_rfl) eR
 intro a3 wd3 N3 D3 hO hR hA hU
 obtain ⟨t9, _⟩ := hA
 have E3 := E2.trans hR
 have s4_3 := oT hO s4_2 rfl
 have B2_3 := B2_2.ext' hR
 have B4_3 := B4_2.ext' hR
 have s9_3 : get a3 9 = Value.agg #[w32 (Dg.zero).a, w32 (Dg.zero).b, w32 (Dg.zero).c, w32 (Dg.zero).d, i64 ((0 : Nat) : Int), i64 ((0 : Nat) : Int)] := t9
 clear E2 N2 D2 s1_2 s2_2 s4_2 s8_2 B2_2 B4_2
 refine tail_none rfl rfl (does_storeD (o := 0) (n := 6) (cs' := [w32 (Dg.zero).a, w32 (Dg.zero).b, w32 (Dg.zero).c, w32 (Dg.zero).d, i64 ((0 : Nat) : Int), i64 ((0 : Nat) : Int)]) (V := Value.agg #[w32 (Dg.zero).a, w32 (Dg.zero).b, w32 (Dg.zero).c, w32 (Dg.zero).d, i64 ((0 : Nat) : Int), i64 ((0 : Nat) : Int)]) s4_3 s9_3 B4_3 (nB rfl) rfl siz_45 rfl rfl (fun wd4 hX hz B4_4 => ?_))
 have E4 := E3.since hX (fun k e => e ▸ fr_b4)
 have B2_4 := B2_3.ext hX ne_b2_b4
 clear hX hz E3 B2_3 B4_3
 refine tail_put rfl rfl N3 D3 (by decide) (does_assign (V := i64 ((2 : Nat) : Int)) rfl (fun a5 N5 D5 hv hO => ?_))
 have s5_5 := hv
 have s4_5 := oT hO s4_3 rfl
 clear hO hv N3 D3 s4_3 s9_3
 refine tail_nil ?_
 refine wp_ret ?_
 refine res_two (V1 := Value.agg #[w32 (Dg.zero).a, w32 (Dg.zero).b, w32 (Dg.zero).c, w32 (Dg.zero).d, i64 ((0 : Nat) : Int), i64 ((0 : Nat) : Int)]) (V2 := i64 ((2 : Nat) : Int)) rfl D5 (ResIs.cell s4_5 B4_4 row_45 rfl rfl) s5_5 ?_
 rw [keyNew_no hb]
 exact ⟨rfl, E4⟩
 have hb : 0 ≤ h ∧ h ≤ 4 := by simpa [highB] using hc0
 refine wp_skip ?_
 refine wp_seq ?_
 refine Rl [] [(10, Pr.ex (Dg.val (seed))), (11, Pr.ex (i64 (h))), (12, Pr.ex (Value.agg #[w32 (seed).a, w32 (seed).b, w32 (seed).c, w32 (seed).d, i64 (h), i64 ((0 : Nat) : Int)]))] 3 N2 D2 ?_ ?_
 refine Ac ?_ (Ac ?_ (Ac ?_ (Az _)))
 exact Ap fun aq wq _ hO hR hT => does_loadD (o := 0) (n := 4) (mid := [w32 (seed).a, w32 (seed).b, w32 (seed).c, w32 (seed).d]) (oT hO s2_2 rfl) (B2_2.ext' hR) rfl rfl (nB rfl) row_24 rfl eR
 exact Am s1_2 rfl fun _ => rfl
 exact Ap fun aq wq _ hO hR hT => does_build (vs := #[(0, Dg.val (seed)), (1, i64 (h))]) (V := Value.agg #[w32 (seed).a, w32 (seed).b, w32 (seed).c, w32 (seed).d, i64 (h), i64 ((0 : Nat) : Int)]) (parts2 (hT 10 rfl rfl) (hT 11 rfl rfl)) (by kernel_rfl) eR
 intro a6 wd6 N6 D6 hO hR hA hU
 obtain ⟨_, _, t12, _⟩ := hA
 have E6 := E2.trans hR
 have s4_6 := oT hO s4_2 rfl
 have B2_6 := B2_2.ext' hR
 have B4_6 := B4_2.ext' hR
 have s12_6 : get a6 12 = Value.agg #[w32 (seed).a, w32 (seed).b, w32 (seed).c, w32 (seed).d, i64 (h), i64 ((0 : Nat) : Int)] := t12
 clear E2 N2 D2 s1_2 s2_2 s4_2 s8_2 B2_2 B4_2
 refine tail_none rfl rfl (does_storeD (o := 0) (n := 6) (cs' := [w32 (seed).a, w32 (seed).b, w32 (seed).c, w32 (seed).d, i64 (h), i64 ((0 : Nat) : Int)]) (V := Value.agg #[w32 (seed).a, w32 (seed).b, w32 (seed).c, w32 (seed).d, i64 (h), i64 ((0 : Nat) : Int)]) s4_6 s12_6 B4_6 (nB rfl) rfl siz_45 rfl rfl (fun wd7 hX hz B4_7 => ?_))
 have E7 := E6.since hX (fun k e => e ▸ fr_b4)
 have B2_7 := B2_6.ext hX ne_b2_b4
 clear hX hz E6 B2_6 B4_6
 refine tail_put rfl rfl N6 D6 (by decide) (does_assign (V := i64 ((0 : Nat) : Int)) rfl (fun a8 N8 D8 hv hO => ?_))
 have s5_8 := hv
 have s4_8 := oT hO s4_6 rfl
 clear hO hv N6 D6 s4_6 s12_6
 refine tail_nil ?_
 refine wp_ret ?_
 refine res_two (V1 := Value.agg #[w32 (seed).a, w32 (seed).b, w32 (seed).c, w32 (seed).d, i64 (h), i64 ((0 : Nat) : Int)]) (V2 := i64 ((0 : Nat) : Int)) rfl D8 (ResIs.cell s4_8 B4_7 row_45 rfl rfl) s5_8 ?_
 rw [keyNew_ok hb]
 exact ⟨rfl, E7⟩

theorem keyNew_k (seed : Dg) (n : Nat) (w0 : World) (hn : n ≤ 4) : Gives Tryd.prog 17 #[Dg.val seed, i64 (n : Int)] w0 (Pr.ex (Value.tuple #[Value.agg #[w32 (seed).a, w32 (seed).b, w32 (seed).c, w32 (seed).d, i64 (n : Int), i64 ((0 : Nat) : Int)], i64 ((0 : Nat) : Int)])) := by
  have h := keyNew_ seed n w0
  rw [keyNew_ok (by omega)] at h
  exact h

end Go.Proofs.YtmmghpbncejfiaaDoor
