/- The walks of functions of the program: printed. -/
import Derived.Test.YtijfjpbahepegaaDoorG3
import Derived.Test.YtijfjpbahepegaaDoorG4
import Derived.Test.YtijfjpbahepegaaDoorG6
import Derived.Test.YtijfjpbahepegaaDoorF0
set_option maxRecDepth 100000
namespace Go.Proofs.YtijfjpbahepegaaDoor
open Go Go.RowKit Sk Sd
theorem headOf_ (z : Head) (w0 : World) (hL : Laid w0) :
    Gives Tryd.prog 16 #[Value.agg #[i64 (z.size), w32 (z.root).a, w32 (z.root).b, w32 (z.root).c, w32 (z.root).d]] w0 (Pr.ex (Dg.val (headOf z))) := by
 refine enter (N := 23) Tryd.func16 rfl rfl ?_
 intro a0 hN_0 hD_0 hA
 have s0_0 : get a0 0 = Value.agg #[i64 (z.size), w32 (z.root).a, w32 (z.root).b, w32 (z.root).c, w32 (z.root).d] := hA 0 _ rfl
 clear hA
 have hE_0 : Ext w0 w0 := Ext.refl w0
 refine wp_seq ?_
 refine region_lex [1, 2] [(1, Pr.box' w0.heap.size 29 [i64 (z.size), w32 (z.root).a, w32 (z.root).b, w32 (z.root).c, w32 (z.root).d]), (2, Pr.box' w0.heap.size 27 [w32 (Dg.zero).a, w32 (Dg.zero).b, w32 (Dg.zero).c, w32 (Dg.zero).d])] 2 hN_0 hD_0 (by kernel_rfl) (by kernel_rfl) ?_ ?_
 refine Asks.cons ?_ (Asks.cons ?_ (Asks.zero _))
 refine Ask.fresh rfl rfl ?_
 intro aq wq hNq hO hR hT
 exact does_box (V := Value.agg #[i64 (z.size), w32 (z.root).a, w32 (z.root).b, w32 (z.root).c, w32 (z.root).d]) ((hO 0 rfl).trans s0_0) (fun b w2 he hlo hb => ⟨he, ⟨b, rfl, Nat.le_trans hR.size' hlo, hb⟩, ⟨b, rfl, hlo, hb.lt⟩⟩)
 refine Ask.fresh rfl rfl ?_
 intro aq wq hNq hO hR hT
 exact does_alloc zero_27 (fun b w2 he hlo hb => ⟨he, ⟨b, rfl, Nat.le_trans hR.size' hlo, hb⟩, ⟨b, rfl, hlo, hb.lt⟩⟩)
 intro a1 wd1 hN_1 hD_1 hO hR hA hU
 obtain ⟨t1, t2, _⟩ := hA
 have hE_1 := hE_0.trans hR
 obtain ⟨b1, s1_1, lo_b1, hbb1_1⟩ := t1
 have fr_b1 : w0.heap.size ≤ b1 := Nat.le_trans hE_0.size' lo_b1
 obtain ⟨b2, s2_1, lo_b2, hbb2_1⟩ := t2
 have fr_b2 : w0.heap.size ≤ b2 := Nat.le_trans hE_0.size' lo_b2
 obtain ⟨u0, ⟨u1, _⟩⟩ := hU
 have ne_b1_b2 : b1 ≠ b2 := fun e => u0 2 (by decide) (by rw [s1_1, s2_1, e])
 clear hE_0 hN_0 hD_0 s0_0
 refine tail_nil ?_
 refine wp_seq ?_
 refine region_lex [] [(5, Pr.ex (Value.pointer (some ⟨b1, 0, none⟩))), (6, Pr.ex (i64 (z.size))), (7, Pr.ex (w64 (u64of (z.size)))), (3, Pr.ex (w64 (u64of (z.size))))] 4 hN_1 hD_1 (by kernel_rfl) (by kernel_rfl) ?_ ?_
 refine Asks.cons ?_ (Asks.cons ?_ (Asks.cons ?_ (Asks.cons ?_ (Asks.zero _))))
 exact Ask.plain rfl rfl fun aq wq hNq hO hR hT => does_field (o' := 0) fld_29_0 ((hO 1 rfl).trans s1_1) rfl ⟨Ext.refl _, rfl⟩
 exact Ask.plain rfl rfl fun aq wq hNq hO hR hT => does_loadD1 (o := 0) (V := i64 (z.size)) (hT 5 rfl rfl) (hbb1_1.ext' hR) rfl one_3 ⟨Ext.refl _, rfl⟩
 exact Ask.plain rfl rfl fun aq wq hNq hO hR hT => does_conv ⟨_, Tryd.underlying3⟩ Tryd.underlying79 (hT 6 rfl rfl) (conv_i_64 _) ⟨Ext.refl _, rfl⟩
 exact Ask.plain rfl rfl fun aq wq hNq hO hR hT => does_assign (V := w64 (u64of (z.size))) (hT 7 rfl rfl) ⟨Ext.refl _, rfl⟩
 intro a2 wd2 hN_2 hD_2 hO hR hA hU
 obtain ⟨_, _, _, t3, _⟩ := hA
 have hE_2 := hE_1.trans hR
 have s1_2 := (hO 1 rfl).trans s1_1
 have s2_2 := (hO 2 rfl).trans s2_1
 have hbb1_2 := hbb1_1.ext' hR
 have hbb2_2 := hbb2_1.ext' hR
 have s3_2 : get a2 3 = w64 (u64of (z.size)) := t3
 clear hE_1 hN_1 hD_1 s1_1 s2_1 hbb1_1 hbb2_1
 refine tail_nil ?_
 refine wp_seq ?_
 refine region_lex [] [(8, Pr.ex (w64 (u64of (z.size)))), (9, Pr.ex (w32 ((u64of (z.size)).toUInt32))), (10, Pr.ex (w64 (u64of (z.size)))), (11, Pr.ex (w64 (UInt64.ofNat ((u64of (z.size)).toNat / 2 ^ 32)))), (12, Pr.ex (w32 ((UInt64.ofNat ((u64of (z.size)).toNat / 2 ^ 32)).toUInt32))), (13, Pr.own' W32 wd2.heap.size 25 ([(u64of (z.size)).toUInt32, (UInt64.ofNat ((u64of (z.size)).toNat / 2 ^ 32)).toUInt32])), (4, Pr.own' W32 wd2.heap.size 25 ([(u64of (z.size)).toUInt32, (UInt64.ofNat ((u64of (z.size)).toNat / 2 ^ 32)).toUInt32]))] 7 hN_2 hD_2 (by kernel_rfl) (by kernel_rfl) ?_ ?_
 refine Asks.cons ?_ (Asks.cons ?_ (Asks.cons ?_ (Asks.cons ?_ (Asks.cons ?_ (Asks.cons ?_ (Asks.cons ?_ (Asks.zero _)))))))
 exact Ask.plain rfl rfl fun aq wq hNq hO hR hT => does_move (V := w64 (u64of (z.size))) ((hO 3 rfl).trans s3_2) ⟨Ext.refl _, rfl⟩
 exact Ask.plain rfl rfl fun aq wq hNq hO hR hT => does_conv ⟨_, Tryd.underlying79⟩ Tryd.underlying25 (hT 8 rfl rfl) (conv_64_32 _) ⟨Ext.refl _, rfl⟩
 exact Ask.plain rfl rfl fun aq wq hNq hO hR hT => does_move (V := w64 (u64of (z.size))) ((hO 3 rfl).trans s3_2) ⟨Ext.refl _, rfl⟩
 exact Ask.plain rfl rfl fun aq wq hNq hO hR hT => does_shr64 (a := u64of (z.size)) (b := 32) (hT 10 rfl rfl) rfl (by decide) ⟨Ext.refl _, rfl⟩
 exact Ask.plain rfl rfl fun aq wq hNq hO hR hT => does_conv ⟨_, Tryd.underlying79⟩ Tryd.underlying25 (hT 11 rfl rfl) (conv_64_32 _) ⟨Ext.refl _, rfl⟩
 exact Ask.plain rfl rfl fun aq wq hNq hO hR hT => does_sliceN (T := W32) (xs := [(u64of (z.size)).toUInt32, (UInt64.ofNat ((u64of (z.size)).toNat / 2 ^ 32)).toUInt32]) (vs := [w32 ((u64of (z.size)).toUInt32), w32 ((UInt64.ofNat ((u64of (z.size)).toNat / 2 ^ 32)).toUInt32)]) app_81 rfl (parts2 (hT 9 rfl rfl) (hT 12 rfl rfl)) rfl (by decide) (by decide) rfl (fun v w2 he _ ho => ⟨he, OwnT.base ho hR.size'⟩)
 exact Ask.plain rfl rfl fun aq wq hNq hO hR hT => does_assign rfl ⟨Ext.refl _, (hT 13 rfl rfl)⟩
 intro a3 wd3 hN_3 hD_3 hO hR hA hU
 obtain ⟨_, _, _, _, _, _, t4, _⟩ := hA
 have hE_3 := hE_2.trans hR
 have s1_3 := (hO 1 rfl).trans s1_2
 have s2_3 := (hO 2 rfl).trans s2_2
 have hbb1_3 := hbb1_2.ext' hR
 have hbb2_3 := hbb2_2.ext' hR
 obtain ⟨x4, s4_3⟩ : ∃ x, get a3 4 = x := ⟨_, rfl⟩
 replace t4 : OwnT W32 wd2.heap.size 25 ([(u64of (z.size)).toUInt32, (UInt64.ofNat ((u64of (z.size)).toNat / 2 ^ 32)).toUInt32]) x4 wd3 := by rw [← s4_3]; exact t4
 have nbo_x4_b1 : x4.ownBlock ≠ some b1 := fun e => Nat.lt_irrefl _ (Nat.lt_of_lt_of_le hbb1_2.lt (OwnT.block_lt t4 e).1)
 have nbo_x4_b2 : x4.ownBlock ≠ some b2 := fun e => Nat.lt_irrefl _ (Nat.lt_of_lt_of_le hbb2_2.lt (OwnT.block_lt t4 e).1)
 have hsx4_3 := t4.sl.wide (Nat.zero_le _) (.inl rfl)
 have hox4_3 := OwnT.base t4 hE_2.size'
 clear hE_2 hN_2 hD_2 s1_2 s2_2 s3_2 hbb1_2 hbb2_2
 refine tail_nil ?_
 refine wp_seq ?_
 refine region_lex [] [(14, Pr.ex (x4)), (15, Pr.ex (Value.pointer (some ⟨b1, 1, none⟩))), (16, Pr.ex (Value.slice (some ⟨b1, 1, none⟩) 4 4))] 3 hN_3 hD_3 (by kernel_rfl) (by kernel_rfl) ?_ ?_
 refine Asks.cons ?_ (Asks.cons ?_ (Asks.cons ?_ (Asks.zero _)))
 exact Ask.plain rfl rfl fun aq wq hNq hO hR hT => does_move (V := x4) ((hO 4 rfl).trans s4_3) ⟨Ext.refl _, rfl⟩
 exact Ask.plain rfl rfl fun aq wq hNq hO hR hT => does_field (o' := 1) fld_29_1 ((hO 1 rfl).trans s1_3) rfl ⟨Ext.refl _, rfl⟩
 exact Ask.plain rfl rfl fun aq wq hNq hO hR hT => does_arrAll arr_27 (hT 15 rfl rfl) ⟨Ext.refl _, rfl⟩
 intro a4 wd4 hN_4 hD_4 hO hR hA hU
 obtain ⟨t14, _, t16, _⟩ := hA
 have hE_4 := hE_3.trans hR
 have s2_4 := (hO 2 rfl).trans s2_3
 have hbb1_4 := hbb1_3.ext' hR
 have hbb2_4 := hbb2_3.ext' hR
 have hsx4_4 := hsx4_3.ext' hR
 have hox4_4 := hox4_3.ext' hR
 have s14_4 : get a4 14 = x4 := t14
 have s16_4 : get a4 16 = Value.slice (some ⟨b1, 1, none⟩) 4 4 := t16
 clear hE_3 hN_3 hD_3 s1_3 s2_3 s4_3 hbb1_3 hbb2_3 hsx4_3 hox4_3
 refine tail_put rfl rfl hN_4 hD_4 (by decide) (does_append (T := W32) (base := w0.heap.size) (xs := [(u64of (z.size)).toUInt32, (UInt64.ofNat ((u64of (z.size)).toNat / 2 ^ 32)).toUInt32]) (ys := [(z.root).a, (z.root).b, (z.root).c, (z.root).d]) (v := x4) app_81 s14_4 hox4_4 (SlT.at s16_4 (SlT.ofHas (T := W32) (xs := [(z.root).a, (z.root).b, (z.root).c, (z.root).d]) hbb1_4 rfl rfl (Nat.le_of_ble_eq_true rfl) (Nat.le_of_ble_eq_true rfl))) (by simp) (by first | (simp only [List.length_append, bytes_length, List.length_take, List.length_cons, List.length_nil, List.length_map]; omega) | simp) (by first | (simp only [List.length_append, bytes_length, List.length_take, List.length_cons, List.length_nil, List.length_map]; omega) | simp) hE_4.size' (fun x17 wd5 hX hox17_5 hk a5 hN_5 hD_5 hv hO => ?_))
 have hE_5 := hE_4.since hX (fun b hb => Nat.le_trans (Nat.le_refl _) (OwnT.block_lt hox4_4 hb).1)
 have hbb1_5 := hbb1_4.ext hX nbo_x4_b1
 have nbo_x17_b1 : x17.ownBlock ≠ some b1 := fun e => (hk _ e).elim nbo_x4_b1 (fun h => Nat.lt_irrefl _ (Nat.lt_of_lt_of_le hbb1_4.lt h))
 have hbb2_5 := hbb2_4.ext hX nbo_x4_b2
 have nbo_x17_b2 : x17.ownBlock ≠ some b2 := fun e => (hk _ e).elim nbo_x4_b2 (fun h => Nat.lt_irrefl _ (Nat.lt_of_lt_of_le hbb2_4.lt h))
 have hsx17_5 := hox17_5.sl.wide (Nat.zero_le _) (.inl rfl)
 have s17_5 := hv
 have s2_5 := (hO 2 rfl).trans s2_4
 clear hO hv hX hk hN_4 hD_4 hE_4 hbb1_4 hbb2_4 s2_4 s14_4 s16_4
 refine tail_put rfl rfl hN_5 hD_5 (by decide) (does_ret (vs := #[x17]) call_43 (args1 s17_5) rfl ((bytes_ ([(u64of (z.size)).toUInt32, (UInt64.ofNat ((u64of (z.size)).toNat / 2 ^ 32)).toUInt32] ++ [(z.root).a, (z.root).b, (z.root).c, (z.root).d]) (x17) wd5 (hsx17_5.wide (Nat.zero_le _) (.inl rfl)) (by simp)).mono fun v wd6 h => fun a6 hN_6 hD_6 hv hO => ?_))
 have he := h.2
 have hR := he
 have hp : (Pr.ex (str (wbytes ([(u64of (z.size)).toUInt32, (UInt64.ofNat ((u64of (z.size)).toNat / 2 ^ 32)).toUInt32] ++ [(z.root).a, (z.root).b, (z.root).c, (z.root).d])))).p v wd6 := h.1
 clear h
 have hE_6 := hE_5.trans he
 have hbb1_6 := hbb1_5.ext' he
 have hbb2_6 := hbb2_5.ext' he
 have hsx17_6 := hsx17_5.ext' he
 have hox17_6 := hox17_5.ext' he
 replace hp : v = str (wbytes ([(u64of (z.size)).toUInt32, (UInt64.ofNat ((u64of (z.size)).toNat / 2 ^ 32)).toUInt32] ++ [(z.root).a, (z.root).b, (z.root).c, (z.root).d])) := hp
 have s18_6 := hv.trans hp
 have s2_6 := (hO 2 rfl).trans s2_5
 clear hO hv hN_5 hD_5 hE_5 hbb1_5 hbb2_5 hsx17_5 hox17_5 s2_5 s17_5
 refine tail_put rfl rfl hN_6 hD_6 (by decide) (does_cat (a := ([104] : List UInt8)) (b := wbytes ([(u64of (z.size)).toUInt32, (UInt64.ofNat ((u64of (z.size)).toNat / 2 ^ 32)).toUInt32] ++ [(z.root).a, (z.root).b, (z.root).c, (z.root).d])) rfl s18_6 (by simp only [List.length_append, List.length_cons, List.length_nil, List.length_replicate, bytes_length]; omega) (fun a7 hN_7 hD_7 hv hO => ?_))
 have s19_7 := hv
 have s2_7 := (hO 2 rfl).trans s2_6
 clear hO hv hN_6 hD_6 s2_6 s18_6
 refine tail_put rfl rfl hN_7 hD_7 (by decide) (does_ret (vs := #[str ((([104] : List UInt8)) ++ (wbytes ([(u64of (z.size)).toUInt32, (UInt64.ofNat ((u64of (z.size)).toNat / 2 ^ 32)).toUInt32] ++ [(z.root).a, (z.root).b, (z.root).c, (z.root).d])))]) call_42 (args1 s19_7) rfl ((of_ ((([104] : List UInt8)) ++ (wbytes ([(u64of (z.size)).toUInt32, (UInt64.ofNat ((u64of (z.size)).toNat / 2 ^ 32)).toUInt32] ++ [(z.root).a, (z.root).b, (z.root).c, (z.root).d]))) wd6 (hL.ext hE_6) (by simp [bytes_length])).mono fun v wd8 h => fun a8 hN_8 hD_8 hv hO => ?_))
 have he := h.2
 have hR := he
 have hp : (Pr.ex (Dg.val (of ((([104] : List UInt8)) ++ (wbytes ([(u64of (z.size)).toUInt32, (UInt64.ofNat ((u64of (z.size)).toNat / 2 ^ 32)).toUInt32] ++ [(z.root).a, (z.root).b, (z.root).c, (z.root).d])))))).p v wd8 := h.1
 clear h
 have hE_8 := hE_6.trans he
 have hbb1_8 := hbb1_6.ext' he
 have hbb2_8 := hbb2_6.ext' he
 have hsx17_8 := hsx17_6.ext' he
 have hox17_8 := hox17_6.ext' he
 replace hp : v = Dg.val (of ((([104] : List UInt8)) ++ (wbytes ([(u64of (z.size)).toUInt32, (UInt64.ofNat ((u64of (z.size)).toNat / 2 ^ 32)).toUInt32] ++ [(z.root).a, (z.root).b, (z.root).c, (z.root).d])))) := hp
 have s20_8 := hv.trans hp
 have s2_8 := (hO 2 rfl).trans s2_7
 clear hO hv hN_7 hD_7 hE_6 hbb1_6 hbb2_6 hsx17_6 hox17_6 s2_7 s19_7
 refine tail_put rfl rfl hN_8 hD_8 (by decide) (does_ret (vs := #[str (([104, 101, 97, 100] : List UInt8))]) call_42 (args1 rfl) rfl ((of_ (([104, 101, 97, 100] : List UInt8)) wd8 (hL.ext hE_8) (by simp [bytes_length])).mono fun v wd9 h => fun a9 hN_9 hD_9 hv hO => ?_))
 have he := h.2
 have hR := he
 have hp : (Pr.ex (Dg.val (of (([104, 101, 97, 100] : List UInt8))))).p v wd9 := h.1
 clear h
 have hE_9 := hE_8.trans he
 have hbb1_9 := hbb1_8.ext' he
 have hbb2_9 := hbb2_8.ext' he
 have hsx17_9 := hsx17_8.ext' he
 have hox17_9 := hox17_8.ext' he
 replace hp : v = Dg.val (of (([104, 101, 97, 100] : List UInt8))) := hp
 have s21_9 := hv.trans hp
 have s2_9 := (hO 2 rfl).trans s2_8
 have s20_9 := (hO 20 rfl).trans s20_8
 clear hO hv hN_8 hD_8 hE_8 hbb1_8 hbb2_8 hsx17_8 hox17_8 s2_8 s20_8
 refine tail_put rfl rfl hN_9 hD_9 (by decide) (does_ret (vs := #[Dg.val (of ((([104] : List UInt8)) ++ (wbytes ([(u64of (z.size)).toUInt32, (UInt64.ofNat ((u64of (z.size)).toNat / 2 ^ 32)).toUInt32] ++ [(z.root).a, (z.root).b, (z.root).c, (z.root).d])))), Dg.val (of (([104, 101, 97, 100] : List UInt8)))]) call_41 (args2 s20_9 s21_9) rfl ((pair_ (of ((([104] : List UInt8)) ++ (wbytes ([(u64of (z.size)).toUInt32, (UInt64.ofNat ((u64of (z.size)).toNat / 2 ^ 32)).toUInt32] ++ [(z.root).a, (z.root).b, (z.root).c, (z.root).d])))) (of (([104, 101, 97, 100] : List UInt8))) wd9 (hL.ext hE_9)).mono fun v wd10 h => fun a10 hN_10 hD_10 hv hO => ?_))
 have he := h.2
 have hR := he
 have hp : (Pr.ex (Dg.val (pair (of ((([104] : List UInt8)) ++ (wbytes ([(u64of (z.size)).toUInt32, (UInt64.ofNat ((u64of (z.size)).toNat / 2 ^ 32)).toUInt32] ++ [(z.root).a, (z.root).b, (z.root).c, (z.root).d])))) (of (([104, 101, 97, 100] : List UInt8)))))).p v wd10 := h.1
 clear h
 have hE_10 := hE_9.trans he
 have hbb1_10 := hbb1_9.ext' he
 have hbb2_10 := hbb2_9.ext' he
 have hsx17_10 := hsx17_9.ext' he
 have hox17_10 := hox17_9.ext' he
 replace hp : v = Dg.val (pair (of ((([104] : List UInt8)) ++ (wbytes ([(u64of (z.size)).toUInt32, (UInt64.ofNat ((u64of (z.size)).toNat / 2 ^ 32)).toUInt32] ++ [(z.root).a, (z.root).b, (z.root).c, (z.root).d])))) (of (([104, 101, 97, 100] : List UInt8)))) := hp
 have s22_10 := hv.trans hp
 have s2_10 := (hO 2 rfl).trans s2_9
 clear hO hv hN_9 hD_9 hE_9 hbb1_9 hbb2_9 hsx17_9 hox17_9 s2_9 s20_9 s21_9
 refine tail_none rfl rfl (does_storeD (o := 0) (n := 4) (cs' := [w32 (pair (of ((([104] : List UInt8)) ++ (wbytes ([(u64of (z.size)).toUInt32, (UInt64.ofNat ((u64of (z.size)).toNat / 2 ^ 32)).toUInt32] ++ [(z.root).a, (z.root).b, (z.root).c, (z.root).d])))) (of (([104, 101, 97, 100] : List UInt8)))).a, w32 (pair (of ((([104] : List UInt8)) ++ (wbytes ([(u64of (z.size)).toUInt32, (UInt64.ofNat ((u64of (z.size)).toNat / 2 ^ 32)).toUInt32] ++ [(z.root).a, (z.root).b, (z.root).c, (z.root).d])))) (of (([104, 101, 97, 100] : List UInt8)))).b, w32 (pair (of ((([104] : List UInt8)) ++ (wbytes ([(u64of (z.size)).toUInt32, (UInt64.ofNat ((u64of (z.size)).toNat / 2 ^ 32)).toUInt32] ++ [(z.root).a, (z.root).b, (z.root).c, (z.root).d])))) (of (([104, 101, 97, 100] : List UInt8)))).c, w32 (pair (of ((([104] : List UInt8)) ++ (wbytes ([(u64of (z.size)).toUInt32, (UInt64.ofNat ((u64of (z.size)).toNat / 2 ^ 32)).toUInt32] ++ [(z.root).a, (z.root).b, (z.root).c, (z.root).d])))) (of (([104, 101, 97, 100] : List UInt8)))).d]) (V := Dg.val (pair (of ((([104] : List UInt8)) ++ (wbytes ([(u64of (z.size)).toUInt32, (UInt64.ofNat ((u64of (z.size)).toNat / 2 ^ 32)).toUInt32] ++ [(z.root).a, (z.root).b, (z.root).c, (z.root).d])))) (of (([104, 101, 97, 100] : List UInt8))))) s2_10 s22_10 hbb2_10 (Nat.le_of_ble_eq_true rfl) rfl siz_27 rfl rfl (fun wd11 hX hz hbb2_11 => ?_))
 have hE_11 := hE_10.since hX (fun k e => e ▸ fr_b2)
 have hbb1_11 := hbb1_10.ext hX ne_b1_b2
 have hsx17_11 := SlT.over hsx17_10 hX (fun _ => nbo_x17_b2)
 have hox17_11 := OwnT.ext hox17_10 hX (fun k hk e => nbo_x17_b2 (e ▸ hk))
 clear hX hz hE_10 hbb1_10 hbb2_10 hsx17_10 hox17_10
 refine tail_nil ?_
 refine wp_ret ?_
 refine res_one (V := Dg.val (pair (of ((([104] : List UInt8)) ++ (wbytes ([(u64of (z.size)).toUInt32, (UInt64.ofNat ((u64of (z.size)).toNat / 2 ^ 32)).toUInt32] ++ [(z.root).a, (z.root).b, (z.root).c, (z.root).d])))) (of (([104, 101, 97, 100] : List UInt8))))) rfl hD_10 (ResIs.cell s2_10 hbb2_11 row_27 rfl rfl) ?_
 exact ⟨rfl, hE_11⟩

end Go.Proofs.YtijfjpbahepegaaDoor
