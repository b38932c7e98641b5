/- The walks of functions of the program: printed. -/
import Derived.Test.YtaeohnkfmachfabDoorK
import Derived.Test.YtaeohnkfmachfabDoorG62
import Derived.Test.YtaeohnkfmachfabDoorF0
set_option maxRecDepth 100000
namespace Go.Proofs.YtaeohnkfmachfabDoor
open Go Go.RowKit Sk Sd
theorem oneCheck_ (pub msg : Dg) (s : List Dg) (x1 : Value) (w0 : World) (hL : Laid w0) (hx1 : SlT DG 0 0 s x1 w0) (hn : s.length ≤ 100000) :
    Gives Tryd.prog 18 #[Dg.val (pub), Dg.val (msg), x1] w0 (Pr.ex (Value.bool (oneCheck pub msg s))) := by
 refine enter (N := 21) Tryd.func18 rfl rfl ?_
 intro a0 hN_0 hD_0 hA
 have s0_0 : get a0 0 = Dg.val (pub) := hA 0 _ rfl
 have s1_0 : get a0 1 = Dg.val (msg) := hA 1 _ rfl
 have s2_0 : get a0 2 = x1 := hA 2 _ rfl
 clear hA
 have hE_0 : Ext w0 w0 := Ext.refl w0
 have hsx1_0 := hx1.close
 refine wp_seq ?_
 refine region_lex [3, 4] [(3, Pr.box' w0.heap.size 24 [w32 (pub).a, w32 (pub).b, w32 (pub).c, w32 (pub).d]), (4, Pr.box' w0.heap.size 24 [w32 (msg).a, w32 (msg).b, w32 (msg).c, w32 (msg).d]), (6, Pr.ex (Value.bool (false)))] 3 hN_0 hD_0 (by kernel_rfl) (by kernel_rfl) ?_ ?_
 refine Asks.cons ?_ (Asks.cons ?_ (Asks.cons ?_ (Asks.zero _)))
 refine Ask.fresh rfl rfl ?_
 intro aq wq hNq hO hR hT
 exact does_box (V := Dg.val (pub)) ((hO 0 rfl).trans s0_0) (fun b w2 he hlo hb => ⟨he, ⟨b, rfl, Nat.le_trans hR.size' hlo, hb⟩, ⟨b, rfl, hlo, hb.lt⟩⟩)
 refine Ask.fresh rfl rfl ?_
 intro aq wq hNq hO hR hT
 exact does_box (V := Dg.val (msg)) ((hO 1 rfl).trans s1_0) (fun b w2 he hlo hb => ⟨he, ⟨b, rfl, Nat.le_trans hR.size' hlo, hb⟩, ⟨b, rfl, hlo, hb.lt⟩⟩)
 exact Ask.plain rfl rfl fun aq wq hNq hO hR hT => does_assign (V := Value.bool (false)) rfl ⟨Ext.refl _, rfl⟩
 intro a1 wd1 hN_1 hD_1 hO hR hA hU
 obtain ⟨t3, t4, _, _⟩ := hA
 have hE_1 := hE_0.trans hR
 have s2_1 := (hO 2 rfl).trans s2_0
 have hsx1_1 := hsx1_0.ext' hR
 obtain ⟨b3, s3_1, lo_b3, hbb3_1⟩ := t3
 have nb_x1_b3 := SlT.old hsx1_0 lo_b3
 have fr_b3 : w0.heap.size ≤ b3 := Nat.le_trans hE_0.size' lo_b3
 obtain ⟨b4, s4_1, lo_b4, hbb4_1⟩ := t4
 have nb_x1_b4 := SlT.old hsx1_0 lo_b4
 have fr_b4 : w0.heap.size ≤ b4 := Nat.le_trans hE_0.size' lo_b4
 obtain ⟨u0, ⟨u1, _⟩⟩ := hU
 have ne_b3_b4 : b3 ≠ b4 := fun e => u0 4 (by decide) (by rw [s3_1, s4_1, e])
 clear hE_0 hN_0 hD_0 s0_0 s1_0 s2_0 hsx1_0
 refine tail_nil ?_
 refine wp_seq ?_
 refine region_lex [7] [(10, Pr.ex (Dg.val (msg))), (11, Pr.ex (x1)), (12, Pr.ex (Value.tuple #[Dg.val ((reachO msg s).1), Value.bool ((reachO msg s).2)])), (9, Pr.ex (Value.tuple #[Dg.val ((reachO msg s).1), Value.bool ((reachO msg s).2)])), (13, Pr.ex (Dg.val ((reachO msg s).1))), (14, Pr.ex (Value.bool ((reachO msg s).2))), (7, Pr.box' wd1.heap.size 24 [w32 (Dg.zero).a, w32 (Dg.zero).b, w32 (Dg.zero).c, w32 (Dg.zero).d])] 7 hN_1 hD_1 (by kernel_rfl) (by kernel_rfl) ?_ ?_
 refine Asks.cons ?_ (Asks.cons ?_ (Asks.cons ?_ (Asks.cons ?_ (Asks.cons ?_ (Asks.cons ?_ (Asks.cons ?_ (Asks.zero _)))))))
 exact Ask.plain rfl rfl fun aq wq hNq hO hR hT => does_loadD (o := 0) (n := 4) (mid := [w32 (msg).a, w32 (msg).b, w32 (msg).c, w32 (msg).d]) ((hO 4 rfl).trans s4_1) (hbb4_1.ext' hR) rfl rfl (Nat.le_of_ble_eq_true rfl) row_24 rfl ⟨Ext.refl _, rfl⟩
 exact Ask.plain rfl rfl fun aq wq hNq hO hR hT => does_move (V := x1) ((hO 2 rfl).trans s2_1) ⟨Ext.refl _, rfl⟩
 exact Ask.plain rfl rfl fun aq wq hNq hO hR hT => does_ret (vs := #[Dg.val (msg), x1]) call_29 (args2 (hT 10 rfl rfl) (hT 11 rfl rfl)) rfl ((reach_ msg s (x1) wq (hL.ext (hE_1.trans hR)) ((hsx1_1.ext' hR).wide (Nat.zero_le _) (.inl rfl)) hn).mono fun v w2 h => ⟨h.2, h.1⟩)
 exact Ask.plain rfl rfl fun aq wq hNq hO hR hT => does_move (V := Value.tuple #[Dg.val ((reachO msg s).1), Value.bool ((reachO msg s).2)]) (hT 12 rfl rfl) ⟨Ext.refl _, rfl⟩
 exact Ask.plain rfl rfl fun aq wq hNq hO hR hT => does_extract (V := Dg.val ((reachO msg s).1)) (hT 9 rfl rfl) rfl ⟨Ext.refl _, rfl⟩
 exact Ask.plain rfl rfl fun aq wq hNq hO hR hT => does_extract (V := Value.bool ((reachO msg s).2)) (hT 9 rfl rfl) rfl ⟨Ext.refl _, rfl⟩
 refine Ask.fresh rfl rfl ?_
 intro aq wq hNq hO hR hT
 exact does_alloc zero_24 (fun b w2 he hlo hb => ⟨he, ⟨b, rfl, Nat.le_trans hR.size' hlo, hb⟩, ⟨b, rfl, hlo, hb.lt⟩⟩)
 intro a2 wd2 hN_2 hD_2 hO hR hA hU
 obtain ⟨_, _, _, _, t13, t14, t7, _⟩ := hA
 have hE_2 := hE_1.trans hR
 have s3_2 := (hO 3 rfl).trans s3_1
 have hbb3_2 := hbb3_1.ext' hR
 have hbb4_2 := hbb4_1.ext' hR
 have hsx1_2 := hsx1_1.ext' hR
 have s13_2 : get a2 13 = Dg.val ((reachO msg s).1) := t13
 have s14_2 : get a2 14 = Value.bool ((reachO msg s).2) := t14
 obtain ⟨b7, s7_2, lo_b7, hbb7_2⟩ := t7
 have ne_b3_b7 : b3 ≠ b7 := fun e => Nat.lt_irrefl _ (Nat.lt_of_lt_of_le hbb3_1.lt (e ▸ lo_b7))
 have ne_b4_b7 : b4 ≠ b7 := fun e => Nat.lt_irrefl _ (Nat.lt_of_lt_of_le hbb4_1.lt (e ▸ lo_b7))
 have nb_x1_b7 := SlT.old hsx1_1 lo_b7
 have fr_b7 : w0.heap.size ≤ b7 := Nat.le_trans hE_1.size' lo_b7
 clear hE_1 hN_1 hD_1 s2_1 s3_1 s4_1 hbb3_1 hbb4_1 hsx1_1
 refine tail_none rfl rfl (does_storeD (o := 0) (n := 4) (cs' := [w32 ((reachO msg s).1).a, w32 ((reachO msg s).1).b, w32 ((reachO msg s).1).c, w32 ((reachO msg s).1).d]) (V := Dg.val ((reachO msg s).1)) s7_2 s13_2 hbb7_2 (Nat.le_of_ble_eq_true rfl) rfl siz_24 rfl rfl (fun wd3 hX hz hbb7_3 => ?_))
 have hE_3 := hE_2.since hX (fun k e => e ▸ fr_b7)
 have hbb3_3 := hbb3_2.ext hX ne_b3_b7
 have hbb4_3 := hbb4_2.ext hX ne_b4_b7
 have hsx1_3 := SlT.over hsx1_2 hX nb_x1_b7
 clear hX hz hE_2 hbb3_2 hbb4_2 hbb7_2 hsx1_2
 refine tail_put rfl rfl hN_2 hD_2 (by decide) (does_assign (V := Value.bool ((reachO msg s).2)) s14_2 (fun a4 hN_4 hD_4 hv hO => ?_))
 have s8_4 := hv
 have s3_4 := (hO 3 rfl).trans s3_2
 have s7_4 := (hO 7 rfl).trans s7_2
 clear hO hv hN_2 hD_2 s3_2 s7_2 s13_2 s14_2
 refine tail_nil ?_
 refine wp_seq ?_
 refine region_lex [] [(15, Pr.ex (Value.bool ((reachO msg s).2))), (16, Pr.ex (Value.bool ((reachO msg s).2))), (17, Pr.ifb ((reachO msg s).2) (Pr.ex (Dg.val ((reachO msg s).1)))), (18, Pr.ifb ((reachO msg s).2) (Pr.ex (Dg.val (pub)))), (19, Pr.ifb ((reachO msg s).2) (Pr.ex (Value.bool (decide ((reachO msg s).1 = pub))))), (20, Pr.ex (Value.bool (((reachO msg s).2) && (decide ((reachO msg s).1 = pub))))), (6, Pr.ex (Value.bool (((reachO msg s).2) && (decide ((reachO msg s).1 = pub)))))] 7 hN_4 hD_4 (by kernel_rfl) (by kernel_rfl) ?_ ?_
 refine Asks.cons ?_ (Asks.cons ?_ (Asks.cons ?_ (Asks.cons ?_ (Asks.cons ?_ (Asks.cons ?_ (Asks.cons ?_ (Asks.zero _)))))))
 exact Ask.plain rfl rfl fun aq wq hNq hO hR hT => does_move (V := Value.bool ((reachO msg s).2)) ((hO 8 rfl).trans s8_4) ⟨Ext.refl _, rfl⟩
 exact Ask.plain rfl rfl fun aq wq hNq hO hR hT => does_move (V := Value.bool ((reachO msg s).2)) (hT 15 rfl rfl) ⟨Ext.refl _, rfl⟩
 refine Ask.guarded (B := (reachO msg s).2) (want := true) (t := 16) rfl rfl rfl rfl (by decide) (fun aq wq hO hR hT => hT 16 rfl rfl) (fun hG aq wq hNq hO hR hT => ?_) (fun hno _ => fun hc => absurd hc hno)
 exact does_loadD (o := 0) (n := 4) (mid := [w32 ((reachO msg s).1).a, w32 ((reachO msg s).1).b, w32 ((reachO msg s).1).c, w32 ((reachO msg s).1).d]) ((hO 7 rfl).trans s7_4) (hbb7_3.ext' hR) rfl rfl (Nat.le_of_ble_eq_true rfl) row_24 rfl ⟨Ext.refl _, fun _ => rfl⟩
 refine Ask.guarded (B := (reachO msg s).2) (want := true) (t := 16) rfl rfl rfl rfl (by decide) (fun aq wq hO hR hT => hT 16 rfl rfl) (fun hG aq wq hNq hO hR hT => ?_) (fun hno _ => fun hc => absurd hc hno)
 exact does_loadD (o := 0) (n := 4) (mid := [w32 (pub).a, w32 (pub).b, w32 (pub).c, w32 (pub).d]) ((hO 3 rfl).trans s3_4) (hbb3_3.ext' hR) rfl rfl (Nat.le_of_ble_eq_true rfl) row_24 rfl ⟨Ext.refl _, fun _ => rfl⟩
 refine Ask.guarded (B := (reachO msg s).2) (want := true) (t := 16) rfl rfl rfl rfl (by decide) (fun aq wq hO hR hT => hT 16 rfl rfl) (fun hG aq wq hNq hO hR hT => ?_) (fun hno _ => fun hc => absurd hc hno)
 exact does_eqT (a := (reachO msg s).1) (b := pub) eq_24 (hT 17 rfl rfl hG) (hT 18 rfl rfl hG) ⟨Ext.refl _, fun _ => rfl⟩
 exact Ask.plain rfl rfl fun aq wq hNq hO hR hT => does_and (B := (reachO msg s).2) (X := decide ((reachO msg s).1 = pub)) (hT 16 rfl rfl) (fun hB => (hT 19 rfl rfl hB)) rfl ⟨Ext.refl _, rfl⟩
 exact Ask.plain rfl rfl fun aq wq hNq hO hR hT => does_assign (V := Value.bool (((reachO msg s).2) && (decide ((reachO msg s).1 = pub)))) (hT 20 rfl rfl) ⟨Ext.refl _, rfl⟩
 intro a5 wd5 hN_5 hD_5 hO hR hA hU
 obtain ⟨_, _, _, _, _, _, t6, _⟩ := hA
 have hE_5 := hE_3.trans hR
 have hbb3_5 := hbb3_3.ext' hR
 have hbb4_5 := hbb4_3.ext' hR
 have hbb7_5 := hbb7_3.ext' hR
 have hsx1_5 := hsx1_3.ext' hR
 have s6_5 : get a5 6 = Value.bool (((reachO msg s).2) && (decide ((reachO msg s).1 = pub))) := t6
 clear hE_3 hN_4 hD_4 s3_4 s7_4 s8_4 hbb3_3 hbb4_3 hbb7_3 hsx1_3
 refine tail_nil ?_
 refine wp_ret ?_
 refine res_one (V := Value.bool (((reachO msg s).2) && (decide ((reachO msg s).1 = pub)))) rfl hD_5 s6_5 ?_
 exact ⟨rfl, hE_5⟩

end Go.Proofs.YtaeohnkfmachfabDoor
