/- The walks of functions of the program: printed. -/
import Derived.Test.YtijfjpbahepegaaDoorG3
import Derived.Test.YtijfjpbahepegaaDoorG4
import Derived.Test.YtijfjpbahepegaaDoorG6
import Derived.Test.YtijfjpbahepegaaDoorF0
set_option maxRecDepth 100000
namespace Go.Proofs.YtijfjpbahepegaaDoor
open Go Go.RowKit Sk Sd
theorem headOf_ (z : Head) (w0 : World) (hL : Laid w0) :
    Gives Tryd.prog 16 #[Value.agg #[i64 (z.size), w32 (z.root).a, w32 (z.root).b, w32 (z.root).c, w32 (z.root).d]] w0 (Pr.ex (Dg.val (headOf z))) := by
 refine enter (N := 23) Tryd.func16 rfl rfl ?_
 intro a0 hN_0 hD_0 hA
 have s0_0 : get a0 0 = Value.agg #[i64 (z.size), w32 (z.root).a, w32 (z.root).b, w32 (z.root).c, w32 (z.root).d] := hA 0 _ rfl
 clear hA
 have hE_0 : Ext w0 w0 := Ext.refl w0
 refine wp_seq ?_
 refine region_lex [1, 2] [(1, Pr.box' w0.heap.size 29 [i64 (z.size), w32 (z.root).a, w32 (z.root).b, w32 (z.root).c, w32 (z.root).d]), (2, Pr.box' w0.heap.size 27 [w32 (Dg.zero).a, w32 (Dg.zero).b, w32 (Dg.zero).c, w32 (Dg.zero).d])] 2 hN_0 hD_0 (by kernel_rfl) (by kernel_rfl) ?_ ?_
 refine Asks.cons ?_ (Asks.cons ?_ (Asks.zero _))
 refine Ask.fresh rfl rfl ?_
 intro aq wq hNq hO hR hT
 exact does_box (V := Value.agg #[i64 (z.size), w32 (z.root).a, w32 (z.root).b, w32 (z.root).c, w32 (z.root).d]) ((hO 0 rfl).trans s0_0) (fun b w2 he hlo hb => ⟨he, ⟨b, rfl, Nat.le_trans hR.size' hlo, hb⟩, ⟨b, rfl, hlo, hb.lt⟩⟩)
 refine Ask.fresh rfl rfl ?_
 intro aq wq hNq hO hR hT
 exact does_alloc zero_27 (fun b w2 he hlo hb => ⟨he, ⟨b, rfl, Nat.le_trans hR.size' hlo, hb⟩, ⟨b, rfl, hlo, hb.lt⟩⟩)
 intro a1 wd1 hN_1 hD_1 hO hR hA hU
 obtain ⟨t1, t2, _⟩ := hA
 have hE_1 := hE_0.trans hR
 obtain ⟨b1, s1_1, lo_b1, hbb1_1⟩ := t1
 have fr_b1 : w0.heap.size ≤ b1 := Nat.le_trans hE_0.size' lo_b1
 obtain ⟨b2, s2_1, lo_b2, hbb2_1⟩ := t2
 have fr_b2 : w0.heap.size ≤ b2 := Nat.le_trans hE_0.size' lo_b2
 obtain ⟨u0, ⟨u1, _⟩⟩ := hU
 have ne_b1_b2 : b1 ≠ b2 := fun e => u0 2 (by decide) (by rw [s1_1, s2_1, e])
 clear hE_0 hN_0 hD_0 s0_0
 refine tail_nil ?_
 refine wp_seq ?_
 refine region_lex [] [(5, Pr.ex (Value.pointer (some ⟨b1, 0, none⟩))), (6, Pr.ex (i64 (z.size))), (7, Pr.ex (w64 (u64of (z.size)))), (3, Pr.ex (w64 (u64of (z.size))))] 4 hN_1 hD_1 (by kernel_rfl) (by kernel_rfl) ?_ ?_
 refine Asks.cons ?_ (Asks.cons ?_ (Asks.cons ?_ (Asks.cons ?_ (Asks.zero _))))
 exact Ask.plain rfl rfl fun aq wq hNq hO hR hT => does_field (o' := 0) fld_29_0 ((hO 1 rfl).trans s1_1) rfl ⟨Ext.refl _, rfl⟩
 exact Ask.plain rfl rfl fun aq wq hNq hO hR hT => does_loadD1 (o := 0) (V := i64 (z.size)) (hT 5 rfl rfl) (hbb1_1.ext' hR) rfl one_3 ⟨Ext.refl _, rfl⟩
 exact Ask.plain rfl rfl fun aq wq hNq hO hR hT => does_conv ⟨_, Tryd.underlying3⟩ Tryd.underlying79 (hT 6 rfl rfl) (conv_i_64 _) ⟨Ext.refl _, rfl⟩
 exact Ask.plain rfl rfl fun aq wq hNq hO hR hT => does_assign (V := w64 (u64of (z.size))) (hT 7 rfl rfl) ⟨Ext.refl _, rfl⟩
 intro a2 wd2 hN_2 hD_2 hO hR hA hU
 obtain ⟨_, _, _, t3, _⟩ := hA
 have hE_2 := hE_1.trans hR
 have s1_2 := (hO 1 rfl).trans s1_1
 have s2_2 := (hO 2 rfl).trans s2_1
 have hbb1_2 := hbb1_1.ext' hR
 have hbb2_2 := hbb2_1.ext' hR
 have s3_2 : get a2 3 = w64 (u64of (z.size)) := t3
 clear hE_1 hN_1 hD_1 s1_1 s2_1 hbb1_1 hbb2_1
 refine tail_nil ?_
 refine wp_seq ?_
 refine region_lex [] [(8, Pr.ex (w64 (u64of (z.size)))), (9, Pr.ex (w32 ((u64of (z.size)).toUInt32))), (10, Pr.ex (w64 (u64of (z.size)))), (11, Pr.ex (w64 (UInt64.ofNat ((u64of (z.size)).toNat / 2 ^ 32)))), (12, Pr.ex (w32 ((UInt64.ofNat ((u64of (z.size)).toNat / 2 ^ 32)).toUInt32))), (13, Pr.own' W32 wd2.heap.size 25 ([(u64of (z.size)).toUInt32, (UInt64.ofNat ((u64of (z.size)).toNat / 2 ^ 32)).toUInt32])), (4, Pr.own' W32 wd2.heap.size 25 ([(u64of (z.size)).toUInt32, (UInt64.ofNat ((u64of (z.size)).toNat / 2 ^ 32)).toUInt32]))] 7 hN_2 hD_2 (by kernel_rfl) (by kernel_rfl) ?_ ?_
 refine Asks.cons ?_ (Asks.cons ?_ (Asks.cons ?_ (Asks.cons ?_ (Asks.cons ?_ (Asks.cons ?_ (Asks.cons ?_ (Asks.zero _)))))))
 exact Ask.plain rfl rfl fun aq wq hNq hO hR hT => does_move (V := w64 (u64of (z.size))) ((hO 3 rfl).trans s3_2) ⟨Ext.refl _, rfl⟩
 exact Ask.plain rfl rfl fun aq wq hNq hO hR hT => does_conv ⟨_, Tryd.underlying79⟩ Tryd.underlying25 (hT 8 rfl rfl) (conv_64_32 _) ⟨Ext.refl _, rfl⟩
 exact Ask.plain rfl rfl fun aq wq hNq hO hR hT => does_move (V := w64 (u64of (z.size))) ((hO 3 rfl).trans s3_2) ⟨Ext.refl _, rfl⟩
 exact Ask.plain rfl rfl fun aq wq hNq hO hR hT => does_shr64 (a := u64of (z.size)) (b := 32) (hT 10 rfl rfl) rfl (by decide) ⟨Ext.refl _, rfl⟩
 exact Ask.plain rfl rfl fun aq wq hNq hO hR hT => does_conv ⟨_, Tryd.underlying79⟩ Tryd.underlying25 (hT 11 rfl rfl) (conv_64_32 _) ⟨Ext.refl _, rfl⟩
 exact Ask.plain rfl rfl fun aq wq hNq hO hR hT => does_sliceN (T := W32) (xs := [(u64of (z.size)).toUInt32, (UInt64.ofNat ((u64of (z.size)).toNat / 2 ^ 32)).toUInt32]) (vs := [w32 ((u64of (z.size)).toUInt32), w32 ((UInt64.ofNat ((u64of (z.size)).toNat / 2 ^ 32)).toUInt32)]) app_81 rfl (parts2 (hT 9 rfl rfl) (hT 12 rfl rfl)) rfl (by decide) (by decide) rfl (fun v w2 he _ ho => ⟨he, OwnT.base ho hR.size'⟩)
 exact Ask.plain rfl rfl fun aq wq hNq hO hR hT => does_assign rfl ⟨Ext.refl _, (hT 13 rfl rfl)⟩
 intro a3 wd3 hN_3 hD_3 hO hR hA hU
 obtain ⟨_, _, _, _, _, _, t4, _⟩ := hA
 have hE_3 := hE_2.trans hR
 have s1_3 := (hO 1 rfl).trans s1_2
 have s2_3 := (hO 2 rfl).trans s2_2
 have hbb1_3 := hbb1_2.ext' hR
 have hbb2_3 := hbb2_2.ext' hR
 obtain ⟨x4, s4_3⟩ : ∃ x, get a3 4 = x := ⟨_, rfl⟩
 replace t4 : OwnT W32 wd2.heap.size 25 ([(u64of (z.size)).toUInt32, (UInt64.ofNat ((u64of (z.size)).toNat / 2 ^ 32)).toUInt32]) x4 wd3 := by rw [← s4_3]; exact t4
 have nbo_x4_b1 : x4.ownBlock ≠ some b1 := fun e => Nat.lt_irrefl _ (Nat.lt_of_lt_of_le hbb1_2.lt (OwnT.block_lt t4 e).1)
 have nbo_x4_b2 : x4.ownBlock ≠ some b2 := fun e => Nat.lt_irrefl _ (Nat.lt_of_lt_of_le hbb2_2.lt (OwnT.block_lt t4 e).1)
 have hsx4_3 := t4.sl.wide (Nat.zero_le _) (.inl rfl)
 have hox4_3 := OwnT.base t4 hE_2.size'
 clear hE_2 hN_2 hD_2 s1_2 s2_2 s3_2 hbb1_2 hbb2_2
 refine tail_nil ?_
 refine wp_seq ?_
 refine region_lex [] [(14, Pr.ex (x4)), (15, Pr.ex (Value.pointer (some ⟨b1, 1, none⟩))), (16, Pr.ex (Value.slice (some ⟨b1, 1, none⟩) 4 4))] 3 hN_3 hD_3 (by kernel_rfl) (by kernel_rfl) ?_ ?_
 refine Asks.cons ?_ (Asks.cons ?_ (Asks.cons ?_ (Asks.zero _)))
 exact Ask.plain rfl rfl fun aq wq hNq hO hR hT => does_move (V := x4) ((hO 4 rfl).trans s4_3) ⟨Ext.refl _, rfl⟩
 exact Ask.plain rfl rfl fun aq wq hNq hO hR hT => does_field (o' := 1) fld_29_1 ((hO 1 rfl).trans s1_3) rfl ⟨Ext.refl _, rfl⟩
 exact Ask.plain rfl rfl fun aq wq hNq hO hR hT => does_arrAll arr_27 (hT 15 rfl rfl) ⟨Ext.refl _, rfl⟩
 intro a4 wd4 hN_4 hD_4 hO hR hA hU
 obtain ⟨t14, _, t16, _⟩ := hA
 have hE_4 := hE_3.trans hR
 have s2_4 := (hO 2 rfl).trans s2_3
 have hbb1_4 := hbb1_3.ext' hR
 have hbb2_4 := hbb2_3.ext' hR
 have hsx4_4 := hsx4_3.ext' hR
 have hox4_4 := hox4_3.ext' hR
 have s14_4 : get a4 14 = x4 := t14
 have s16_4 : get a4 16 = Value.slice (some ⟨b1, 1, none⟩) 4 4 := t16
 clear hE_3 hN_3 hD_3 s1_3 s2_3 s4_3 hbb1_3 hbb2_3 hsx4_3 hox4_3
 refine tail_put rfl rfl hN_4 hD_4 (by decide) (does_append (T := W32) (base := w0.heap.size) (xs := [(u64of (z.size)).toUInt32, (UInt64.ofNat ((u64of (z.size)).toNat / 2 ^ 32)).toUInt32]) (ys := [(z.root).a, (z.root).b, (z.root).c, (z.root).d]) (v := x4) app_81 s14_4 hox4_4 (SlT.at s16_4 (SlT.ofHas (T := W32) (xs := [(z.root).a, (z.root).b, (z.root).c, (z.root).d]) hbb1_4 rfl rfl (by decide) (Nat.le_of_ble_eq_true rfl))) (by simp) (by first | (simp only [List.length_append, bytes_length, List.length_take, List.length_cons, List.length_nil, List.length_map]; omega) | simp) (by first | (simp only [List.length_append, bytes_length, List.length_take, List.length_cons, List.length_nil, List.length_map]; omega) | simp) hE_4.size' (fun x17 wd5 hX hox17_5 hk a5 hN_5 hD_5 hv hO => ?_))
 have hE_5 := hE_4.since hX (fun b hb => Nat.le_trans (Nat.le_refl _) (OwnT.block_lt hox4_4 hb).1)
 have hbb1_5 := hbb1_4.ext hX nbo_x4_b1
 have nbo_x17_b1 : x17.ownBlock ≠ some b1 := fun e => (hk _ e).elim nbo_x4_b1 (fun h => Nat.lt_irrefl _ (Nat.lt_of_lt_of_le hbb1_4.lt h))
 have hbb2_5 := hbb2_4.ext hX nbo_x4_b2
 have nbo_x17_b2 : x17.ownBlock ≠ some b2 := fun e => (hk _ e).elim nbo_x4_b2 (fun h => Nat.lt_irrefl _ (Nat.lt_of_lt_of_le hbb2_4.lt h))
 have hsx17_5 := hox17_5.sl.wide (Nat.zero_le _) (.inl rfl)
 have s17_5 := hv
 have s2_5 := (hO 2 rfl).trans s2_4
 clear hO hv hX hk hN_4 hD_4 hE_4 hbb1_4 hbb2_4 s2_4 s14_4 s16_4
 refine tail_put rfl rfl hN_5 hD_5 (by decide) (does_ret (vs := #[x17]) call_43 (args1 s17_5) rfl ((bytes_ ([(u64of (z.size)).toUInt32, (UInt64.ofNat ((u64of (z.size)).toNat / 2 ^ 32)).toUInt32] ++ [(z.root).a, (z.root).b, (z.root).c, (z.root).d]) (x17) wd5 (hsx17_5.wide (Nat.zero_le _) (.inl rfl)) (by simp)).mono fun v wd6 h => fun a6 hN_6 hD_6 hv hO => ?_))
 have he := h.2
 have hR := he
 have hp : (Pr.ex (str (wbytes ([(u64of (z.size)).toUInt32, (UInt64.ofNat ((u64of (z.size)).toNat / 2 ^ 32)).toUInt32] ++ [(z.root).a, (z.root).b, (z.root).c, (z.root).d])))).p v wd6 := h.1
 clear h
 have hE_6 := hE_5.trans he
 have hbb1_6 := hbb1_5.ext' he
 have hbb2_6 := hbb2_5.ext' he
 have hsx17_6 := hsx17_5.ext' he
 have hox17_6 := hox17_5.ext' he
 replace hp : v = str (wbytes ([(u64of (z.size)).toUInt32, (UInt64.ofNat ((u64of (z.size)).toNat / 2 ^ 32)).toUInt32] ++ [(z.root).a, (z.root).b, (z.root).c, (z.root).d])) := hp
 have s18_6 := hv.trans hp
 have s2_6 := (hO 2 rfl).trans s2_5
 clear hO hv hN_5 hD_5 hE_5 hbb1_5 hbb2_5 hsx17_5 hox17_5 s2_5 s17_5
 refine tail_put rfl rfl hN_6 hD_6 (by decide) (does_cat (a := ([104] : List UInt8)) (b := wbytes ([(u64of (z.size)).toUInt32, (UInt64.ofNat ((u64of (z.size)).toNat / 2 ^ 32)).toUInt32] ++ [(z.root).a, (z.root).b, (z.root).c, (z.root).d])) rfl s18_6 (by simp only [List.length_append, List.length_cons, List.length_nil, List.length_replicate, bytes_length]; omega) (fun a7 hN_7 hD_7 hv hO => ?_))
 have s19_7 := hv
 have s2_7 := (hO 2 rfl).trans s2_6
 clear hO hv hN_6 hD_6 s2_6 s18_6
 refine tail_put rfl rfl hN_7 hD_7 (by decide) (does_ret (vs := #[str ((([104] : List UInt8)) ++ (wbytes ([(u64of (z.size)).toUInt32, (UInt64.ofNat ((u64of (z.size)).toNat / 2 ^ 32)).toUInt32] ++ [(z.root).a, (z.root).b, (z.root).c, (z.root).d])))]) call_42 (args1 s19_7) rfl ((of_ ((([104] : List UInt8)) ++ (wbytes ([(u64of (z.size)).toUInt32, (UInt64.ofNat ((u64of (z.size)).toNat / 2 ^ 32)).toUInt32] ++ [(z.root).a, (z.root).b, (z.root).c, (z.root).d]))) wd6 (hL.ext hE_6) (by simp [bytes_length])).mono fun v wd8 h => fun a8 hN_8 hD_8 hv hO => ?_))
 have he := h.2
 have hR := he
 have hp : (Pr.ex (Dg.val (of ((([104] : List UInt8)) ++ (wbytes ([(u64of (z.size)).toUInt32, (UInt64.ofNat ((u64of (z.size)).toNat / 2 ^ 32)).toUInt32] ++ [(z.root).a, (z.root).b, (z.root).c, (z.root).d])))))).p v wd8 := h.1
 clear h
 have hE_8 := hE_6.trans he
 have hbb1_8 := hbb1_6.ext' he
 have hbb2_8 := hbb2_6.ext' he
 have hsx17_8 := hsx17_6.ext' he
 have hox17_8 := hox17_6.ext' he
 replace hp : v = Dg.val (of ((([104] : List UInt8)) ++ (wbytes ([(u64of (z.size)).toUInt32, (UInt64.ofNat ((u64of (z.size)).toNat / 2 ^ 32)).toUInt32] ++ [(z.root).a, (z.root).b, (z.root).c, (z.root).d])))) := hp
 have s20_8 := hv.trans hp
 have s2_8 := (hO 2 rfl).trans s2_7
 clear hO hv hN_7 hD_7 hE_6 hbb1_6 hbb2_6 hsx17_6 hox17_6 s2_7 s19_7
 refine tail_put rfl rfl hN_8 hD_8 (by decide) (does_ret (vs := #[str (([104, 101, 97, 100] : List UInt8))]) call_42 (args1 rfl) rfl ((of_ (([104, 101, 97, 100] : List UInt8)) wd8 (hL.ext hE_8) (by simp [bytes_length])).mono fun v wd9 h => fun a9 hN_9 hD_9 hv hO => ?_))
 have he := h.2
 have hR := he
 have hp : (Pr.ex (Dg.val (of (([104, 101, 97, 100] : List UInt8))))).p v wd9 := h.1
 clear h
 have hE_9 := hE_8.trans he
 have hbb1_9 := hbb1_8.ext' he
 have hbb2_9 := hbb2_8.ext' he
 have hsx17_9 := hsx17_8.ext' he
 have hox17_9 := hox17_8.ext' he
 replace hp : v = Dg.val (of (([104, 101, 97, 100] : List UInt8))) := hp
 have s21_9 := hv.trans hp
 have s2_9 := (hO 2 rfl).trans s2_8
 have s20_9 := (hO 20 rfl).trans s20_8
 clear hO hv hN_8 hD_8 hE_8 hbb1_8 hbb2_8 hsx17_8 hox17_8 s2_8 s20_8
 refine tail_put rfl rfl hN_9 hD_9 (by decide) (does_ret (vs := #[Dg.val (of ((([104] : List UInt8)) ++ (wbytes ([(u64of (z.size)).toUInt32, (UInt64.ofNat ((u64of (z.size)).toNat / 2 ^ 32)).toUInt32] ++ [(z.root).a, (z.root).b, (z.root).c, (z.root).d])))), Dg.val (of (([104, 101, 97, 100] : List UInt8)))]) call_41 (args2 s20_9 s21_9) rfl ((pair_ (of ((([104] : List UInt8)) ++ (wbytes ([(u64of (z.size)).toUInt32, (UInt64.ofNat ((u64of (z.size)).toNat / 2 ^ 32)).toUInt32] ++ [(z.root).a, (z.root).b, (z.root).c, (z.root).d])))) (of (([104, 101, 97, 100] : List UInt8))) wd9 (hL.ext hE_9)).mono fun v wd10 h => fun a10 hN_10 hD_10 hv hO => ?_))
 have he := h.2
 have hR := he
 have hp : (Pr.ex (Dg.val (pair (of ((([104] : List UInt8)) ++ (wbytes ([(u64of (z.size)).toUInt32, (UInt64.ofNat ((u64of (z.size)).toNat / 2 ^ 32)).toUInt32] ++ [(z.root).a, (z.root).b, (z.root).c, (z.root).d])))) (of (([104, 101, 97, 100] : List UInt8)))))).p v wd10 := h.1
 clear h
 have hE_10 := hE_9.trans he
 have hbb1_10 := hbb1_9.ext' he
 have hbb2_10 := hbb2_9.ext' he
 have hsx17_10 := hsx17_9.ext' he
 have hox17_10 := hox17_9.ext' he
 replace hp : v = Dg.val (pair (of ((([104] : List UInt8)) ++ (wbytes ([(u64of (z.size)).toUInt32, (UInt64.ofNat ((u64of (z.size)).toNat / 2 ^ 32)).toUInt32] ++ [(z.root).a, (z.root).b, (z.root).c, (z.root).d])))) (of (([104, 101, 97, 100] : List UInt8)))) := hp
 have s22_10 := hv.trans hp
 have s2_10 := (hO 2 rfl).trans s2_9
 clear hO hv hN_9 hD_9 hE_9 hbb1_9 hbb2_9 hsx17_9 hox17_9 s2_9 s20_9 s21_9
 refine tail_none rfl rfl (does_storeD (o := 0) (n := 4) (cs' := [w32 (pair (of ((([104] : List UInt8)) ++ (wbytes ([(u64of (z.size)).toUInt32, (UInt64.ofNat ((u64of (z.size)).toNat / 2 ^ 32)).toUInt32] ++ [(z.root).a, (z.root).b, (z.root).c, (z.root).d])))) (of (([104, 101, 97, 100] : List UInt8)))).a, w32 (pair (of ((([104] : List UInt8)) ++ (wbytes ([(u64of (z.size)).toUInt32, (UInt64.ofNat ((u64of (z.size)).toNat / 2 ^ 32)).toUInt32] ++ [(z.root).a, (z.root).b, (z.root).c, (z.root).d])))) (of (([104, 101, 97, 100] : List UInt8)))).b, w32 (pair (of ((([104] : List UInt8)) ++ (wbytes ([(u64of (z.size)).toUInt32, (UInt64.ofNat ((u64of (z.size)).toNat / 2 ^ 32)).toUInt32] ++ [(z.root).a, (z.root).b, (z.root).c, (z.root).d])))) (of (([104, 101, 97, 100] : List UInt8)))).c, w32 (pair (of ((([104] : List UInt8)) ++ (wbytes ([(u64of (z.size)).toUInt32, (UInt64.ofNat ((u64of (z.size)).toNat / 2 ^ 32)).toUInt32] ++ [(z.root).a, (z.root).b, (z.root).c, (z.root).d])))) (of (([104, 101, 97, 100] : List UInt8)))).d]) (V := Dg.val (pair (of ((([104] : List UInt8)) ++ (wbytes ([(u64of (z.size)).toUInt32, (UInt64.ofNat ((u64of (z.size)).toNat / 2 ^ 32)).toUInt32] ++ [(z.root).a, (z.root).b, (z.root).c, (z.root).d])))) (of (([104, 101, 97, 100] : List UInt8))))) s2_10 s22_10 hbb2_10 (Nat.le_of_ble_eq_true rfl) rfl siz_27 rfl rfl (fun wd11 hX hz hbb2_11 => ?_))
 have hE_11 := hE_10.since hX (fun k e => e ▸ fr_b2)
 have hbb1_11 := hbb1_10.ext hX ne_b1_b2
 have hsx17_11 := SlT.over hsx17_10 hX (fun _ => nbo_x17_b2)
 have hox17_11 := OwnT.ext hox17_10 hX (fun k hk e => nbo_x17_b2 (e ▸ hk))
 clear hX hz hE_10 hbb1_10 hbb2_10 hsx17_10 hox17_10
 refine tail_nil ?_
 refine wp_ret ?_
 refine res_one (V := Dg.val (pair (of ((([104] : List UInt8)) ++ (wbytes ([(u64of (z.size)).toUInt32, (UInt64.ofNat ((u64of (z.size)).toNat / 2 ^ 32)).toUInt32] ++ [(z.root).a, (z.root).b, (z.root).c, (z.root).d])))) (of (([104, 101, 97, 100] : List UInt8))))) rfl hD_10 (ResIs.cell s2_10 hbb2_11 row_27 rfl rfl) ?_
 exact ⟨rfl, hE_11⟩

theorem headOfR (z : Head) (w0 : World) :
    Gives Tryd.prog 17 #[Value.agg #[i64 (z.size), w32 (z.root).a, w32 (z.root).b, w32 (z.root).c, w32 (z.root).d]] w0 (Pr.ex (Dg.val (headOf z))) := by
 refine enter (N := 33) Tryd.func17 rfl rfl ?_
 intro a0 hN_0 hD_0 hA
 have s0_0 : get a0 0 = Value.agg #[i64 (z.size), w32 (z.root).a, w32 (z.root).b, w32 (z.root).c, w32 (z.root).d] := hA 0 _ rfl
 clear hA
 have hE_0 : Ext w0 w0 := Ext.refl w0
 refine wp_seq ?_
 refine region_lex [1, 2] [(1, Pr.box' w0.heap.size 29 [i64 (z.size), w32 (z.root).a, w32 (z.root).b, w32 (z.root).c, w32 (z.root).d]), (2, Pr.box' w0.heap.size 27 [w32 (Dg.zero).a, w32 (Dg.zero).b, w32 (Dg.zero).c, w32 (Dg.zero).d])] 2 hN_0 hD_0 (by kernel_rfl) (by kernel_rfl) ?_ ?_
 refine Asks.cons ?_ (Asks.cons ?_ (Asks.zero _))
 refine Ask.fresh rfl rfl ?_
 intro aq wq hNq hO hR hT
 exact does_box (V := Value.agg #[i64 (z.size), w32 (z.root).a, w32 (z.root).b, w32 (z.root).c, w32 (z.root).d]) ((hO 0 rfl).trans s0_0) (fun b w2 he hlo hb => ⟨he, ⟨b, rfl, Nat.le_trans hR.size' hlo, hb⟩, ⟨b, rfl, hlo, hb.lt⟩⟩)
 refine Ask.fresh rfl rfl ?_
 intro aq wq hNq hO hR hT
 exact does_alloc zero_27 (fun b w2 he hlo hb => ⟨he, ⟨b, rfl, Nat.le_trans hR.size' hlo, hb⟩, ⟨b, rfl, hlo, hb.lt⟩⟩)
 intro a1 wd1 hN_1 hD_1 hO hR hA hU
 obtain ⟨t1, t2, _⟩ := hA
 have hE_1 := hE_0.trans hR
 obtain ⟨b1, s1_1, lo_b1, hbb1_1⟩ := t1
 have fr_b1 : w0.heap.size ≤ b1 := Nat.le_trans hE_0.size' lo_b1
 obtain ⟨b2, s2_1, lo_b2, hbb2_1⟩ := t2
 have fr_b2 : w0.heap.size ≤ b2 := Nat.le_trans hE_0.size' lo_b2
 obtain ⟨u0, ⟨u1, _⟩⟩ := hU
 have ne_b1_b2 : b1 ≠ b2 := fun e => u0 2 (by decide) (by rw [s1_1, s2_1, e])
 clear hE_0 hN_0 hD_0 s0_0
 refine tail_nil ?_
 refine wp_seq ?_
 refine region_lex [] [(6, Pr.ex (Value.pointer (some ⟨b1, 0, none⟩))), (7, Pr.ex (i64 (z.size))), (8, Pr.ex (w64 (u64of (z.size)))), (3, Pr.ex (w64 (u64of (z.size))))] 4 hN_1 hD_1 (by kernel_rfl) (by kernel_rfl) ?_ ?_
 refine Asks.cons ?_ (Asks.cons ?_ (Asks.cons ?_ (Asks.cons ?_ (Asks.zero _))))
 exact Ask.plain rfl rfl fun aq wq hNq hO hR hT => does_field (o' := 0) fld_29_0 ((hO 1 rfl).trans s1_1) rfl ⟨Ext.refl _, rfl⟩
 exact Ask.plain rfl rfl fun aq wq hNq hO hR hT => does_loadD1 (o := 0) (V := i64 (z.size)) (hT 6 rfl rfl) (hbb1_1.ext' hR) rfl one_3 ⟨Ext.refl _, rfl⟩
 exact Ask.plain rfl rfl fun aq wq hNq hO hR hT => does_conv ⟨_, Tryd.underlying3⟩ Tryd.underlying79 (hT 7 rfl rfl) (conv_i_64 _) ⟨Ext.refl _, rfl⟩
 exact Ask.plain rfl rfl fun aq wq hNq hO hR hT => does_assign (V := w64 (u64of (z.size))) (hT 8 rfl rfl) ⟨Ext.refl _, rfl⟩
 intro a2 wd2 hN_2 hD_2 hO hR hA hU
 obtain ⟨_, _, _, t3, _⟩ := hA
 have hE_2 := hE_1.trans hR
 have s1_2 := (hO 1 rfl).trans s1_1
 have s2_2 := (hO 2 rfl).trans s2_1
 have hbb1_2 := hbb1_1.ext' hR
 have hbb2_2 := hbb2_1.ext' hR
 have s3_2 : get a2 3 = w64 (u64of (z.size)) := t3
 clear hE_1 hN_1 hD_1 s1_1 s2_1 hbb1_1 hbb2_1
 refine tail_nil ?_
 refine wp_seq ?_
 refine region_lex [] [(9, Pr.ex (w64 (u64of (z.size)))), (10, Pr.ex (w64 (UInt64.ofNat ((u64of (z.size) : UInt64).toNat % (4294967296 : UInt64).toNat)))), (11, Pr.ex (w32 ((UInt64.ofNat ((u64of (z.size) : UInt64).toNat % (4294967296 : UInt64).toNat)).toUInt32))), (12, Pr.ex (w64 (u64of (z.size)))), (13, Pr.ex (w64 (UInt64.ofNat ((u64of (z.size) : UInt64).toNat / (4294967296 : UInt64).toNat)))), (14, Pr.ex (w32 ((UInt64.ofNat ((u64of (z.size) : UInt64).toNat / (4294967296 : UInt64).toNat)).toUInt32))), (15, Pr.own' W32 wd2.heap.size 25 ([(UInt64.ofNat ((u64of (z.size) : UInt64).toNat % (4294967296 : UInt64).toNat)).toUInt32, (UInt64.ofNat ((u64of (z.size) : UInt64).toNat / (4294967296 : UInt64).toNat)).toUInt32])), (4, Pr.own' W32 wd2.heap.size 25 ([(UInt64.ofNat ((u64of (z.size) : UInt64).toNat % (4294967296 : UInt64).toNat)).toUInt32, (UInt64.ofNat ((u64of (z.size) : UInt64).toNat / (4294967296 : UInt64).toNat)).toUInt32]))] 8 hN_2 hD_2 (by kernel_rfl) (by kernel_rfl) ?_ ?_
 refine Asks.cons ?_ (Asks.cons ?_ (Asks.cons ?_ (Asks.cons ?_ (Asks.cons ?_ (Asks.cons ?_ (Asks.cons ?_ (Asks.cons ?_ (Asks.zero _))))))))
 exact Ask.plain rfl rfl fun aq wq hNq hO hR hT => does_move (V := w64 (u64of (z.size))) ((hO 3 rfl).trans s3_2) ⟨Ext.refl _, rfl⟩
 exact Ask.plain rfl rfl fun aq wq hNq hO hR hT => does_rem64 (a := (u64of (z.size) : UInt64)) (b := (4294967296 : UInt64)) (hT 9 rfl rfl) rfl (by decide) ⟨Ext.refl _, rfl⟩
 exact Ask.plain rfl rfl fun aq wq hNq hO hR hT => does_conv ⟨_, Tryd.underlying79⟩ Tryd.underlying25 (hT 10 rfl rfl) (conv_64_32 _) ⟨Ext.refl _, rfl⟩
 exact Ask.plain rfl rfl fun aq wq hNq hO hR hT => does_move (V := w64 (u64of (z.size))) ((hO 3 rfl).trans s3_2) ⟨Ext.refl _, rfl⟩
 exact Ask.plain rfl rfl fun aq wq hNq hO hR hT => does_quo64 (a := (u64of (z.size) : UInt64)) (b := (4294967296 : UInt64)) (hT 12 rfl rfl) rfl (by decide) ⟨Ext.refl _, rfl⟩
 exact Ask.plain rfl rfl fun aq wq hNq hO hR hT => does_conv ⟨_, Tryd.underlying79⟩ Tryd.underlying25 (hT 13 rfl rfl) (conv_64_32 _) ⟨Ext.refl _, rfl⟩
 exact Ask.plain rfl rfl fun aq wq hNq hO hR hT => does_sliceN (T := W32) (xs := [(UInt64.ofNat ((u64of (z.size) : UInt64).toNat % (4294967296 : UInt64).toNat)).toUInt32, (UInt64.ofNat ((u64of (z.size) : UInt64).toNat / (4294967296 : UInt64).toNat)).toUInt32]) (vs := [w32 ((UInt64.ofNat ((u64of (z.size) : UInt64).toNat % (4294967296 : UInt64).toNat)).toUInt32), w32 ((UInt64.ofNat ((u64of (z.size) : UInt64).toNat / (4294967296 : UInt64).toNat)).toUInt32)]) app_81 rfl (parts2 (hT 11 rfl rfl) (hT 14 rfl rfl)) rfl (by decide) (by decide) rfl (fun v w2 he _ ho => ⟨he, OwnT.base ho hR.size'⟩)
 exact Ask.plain rfl rfl fun aq wq hNq hO hR hT => does_assign rfl ⟨Ext.refl _, (hT 15 rfl rfl)⟩
 intro a3 wd3 hN_3 hD_3 hO hR hA hU
 obtain ⟨_, _, _, _, _, _, _, t4, _⟩ := hA
 have hE_3 := hE_2.trans hR
 have s1_3 := (hO 1 rfl).trans s1_2
 have s2_3 := (hO 2 rfl).trans s2_2
 have hbb1_3 := hbb1_2.ext' hR
 have hbb2_3 := hbb2_2.ext' hR
 obtain ⟨x4, s4_3⟩ : ∃ x, get a3 4 = x := ⟨_, rfl⟩
 replace t4 : OwnT W32 wd2.heap.size 25 ([(UInt64.ofNat ((u64of (z.size) : UInt64).toNat % (4294967296 : UInt64).toNat)).toUInt32, (UInt64.ofNat ((u64of (z.size) : UInt64).toNat / (4294967296 : UInt64).toNat)).toUInt32]) x4 wd3 := by rw [← s4_3]; exact t4
 have nbo_x4_b1 : x4.ownBlock ≠ some b1 := fun e => Nat.lt_irrefl _ (Nat.lt_of_lt_of_le hbb1_2.lt (OwnT.block_lt t4 e).1)
 have nbo_x4_b2 : x4.ownBlock ≠ some b2 := fun e => Nat.lt_irrefl _ (Nat.lt_of_lt_of_le hbb2_2.lt (OwnT.block_lt t4 e).1)
 have hsx4_3 := t4.sl.wide (Nat.zero_le _) (.inl rfl)
 have hox4_3 := OwnT.base t4 hE_2.size'
 clear hE_2 hN_2 hD_2 s1_2 s2_2 s3_2 hbb1_2 hbb2_2
 refine tail_nil ?_
 refine wp_seq ?_
 refine wp_seq ?_
 refine region_lex [] [(5, Pr.ex (i64 ((0 : Nat) : Int)))] 1 hN_3 hD_3 (by kernel_rfl) (by kernel_rfl) ?_ ?_
 refine Asks.cons ?_ (Asks.zero _)
 exact Ask.plain rfl rfl fun aq wq hNq hO hR hT => does_assign (V := i64 ((0 : Nat) : Int)) rfl ⟨Ext.refl _, rfl⟩
 intro a4 wd4 hN_4 hD_4 hO hR hA hU
 obtain ⟨t5, _⟩ := hA
 have hE_4 := hE_3.trans hR
 have s1_4 := (hO 1 rfl).trans s1_3
 have s2_4 := (hO 2 rfl).trans s2_3
 have s4_4 := (hO 4 rfl).trans s4_3
 have hbb1_4 := hbb1_3.ext' hR
 have hbb2_4 := hbb2_3.ext' hR
 have hsx4_4 := hsx4_3.ext' hR
 have hox4_4 := hox4_3.ext' hR
 have s5_4 : get a4 5 = i64 ((0 : Nat) : Int) := t5
 clear hE_3 hN_3 hD_3 s1_3 s2_3 s4_3 hbb1_3 hbb2_3 hsx4_3 hox4_3
 refine tail_nil ?_
 refine wp_block ?_
 refine loop_rounds 5 ?_
 refine round_step ?_
 refine wp_seq ?_
 refine wp_seq ?_
 refine region_lex [] [(16, Pr.ex (i64 ((0 : Nat) : Int))), (17, Pr.ex (Value.bool (true)))] 2 hN_4 hD_4 (by kernel_rfl) (by kernel_rfl) ?_ ?_
 refine Asks.cons ?_ (Asks.cons ?_ (Asks.zero _))
 exact Ask.plain rfl rfl fun aq wq hNq hO hR hT => does_move (V := i64 ((0 : Nat) : Int)) ((hO 5 rfl).trans s5_4) ⟨Ext.refl _, rfl⟩
 exact Ask.plain rfl rfl fun aq wq hNq hO hR hT => does_lss (a := ((0 : Nat) : Int)) (b := ((4 : Nat) : Int)) (hT 16 rfl rfl) rfl ⟨Ext.refl _, rfl⟩
 intro a5 wd5 hN_5 hD_5 hO hR hA hU
 obtain ⟨_, t17, _⟩ := hA
 have hE_5 := hE_4.trans hR
 have s1_5 := (hO 1 rfl).trans s1_4
 have s2_5 := (hO 2 rfl).trans s2_4
 have s4_5 := (hO 4 rfl).trans s4_4
 have s5_5 := (hO 5 rfl).trans s5_4
 have hbb1_5 := hbb1_4.ext' hR
 have hbb2_5 := hbb2_4.ext' hR
 have hsx4_5 := hsx4_4.ext' hR
 have hox4_5 := hox4_4.ext' hR
 have s17_5 : get a5 17 = Value.bool (true) := t17
 clear hE_4 hN_4 hD_4 s1_4 s2_4 s4_4 s5_4 hbb1_4 hbb2_4 hsx4_4 hox4_4
 refine tail_nil ?_
 refine wp_ifT s17_5 ?_
 refine wp_skip ?_
 refine wp_seq ?_
 refine wp_block ?_
 refine region_lex [] [(20, Pr.ex (x4)), (21, Pr.ex (i64 ((0 : Nat) : Int))), (22, Pr.ex (Value.pointer (some ⟨b1, 1, none⟩))), (23, Pr.ex (Value.pointer (some ⟨b1, 1, none⟩))), (24, Pr.ex (w32 ((z.root).a))), (25, Pr.own' W32 wd5.heap.size 25 ([(z.root).a]))] 6 hN_5 hD_5 (by kernel_rfl) (by kernel_rfl) ?_ ?_
 refine Asks.cons ?_ (Asks.cons ?_ (Asks.cons ?_ (Asks.cons ?_ (Asks.cons ?_ (Asks.cons ?_ (Asks.zero _))))))
 exact Ask.plain rfl rfl fun aq wq hNq hO hR hT => does_move (V := x4) ((hO 4 rfl).trans s4_5) ⟨Ext.refl _, rfl⟩
 exact Ask.plain rfl rfl fun aq wq hNq hO hR hT => does_move (V := i64 ((0 : Nat) : Int)) ((hO 5 rfl).trans s5_5) ⟨Ext.refl _, rfl⟩
 exact Ask.plain rfl rfl fun aq wq hNq hO hR hT => does_field (o' := 1) fld_29_1 ((hO 1 rfl).trans s1_5) rfl ⟨Ext.refl _, rfl⟩
 exact Ask.plain rfl rfl fun aq wq hNq hO hR hT => does_indexArr (k := .i64) (i := 0) (o' := 1) arr_27 (hT 22 rfl rfl) (hT 21 rfl rfl) (by decide) (by decide) rfl ⟨Ext.refl _, rfl⟩
 exact Ask.plain rfl rfl fun aq wq hNq hO hR hT => does_loadD1 (o := 1) (V := w32 ((z.root).a)) (hT 23 rfl rfl) (hbb1_5.ext' hR) rfl one_25 ⟨Ext.refl _, rfl⟩
 exact Ask.plain rfl rfl fun aq wq hNq hO hR hT => does_slice1 (T := W32) (X := (z.root).a) (V := w32 ((z.root).a)) app_81 rfl (by decide) (hT 24 rfl rfl) rfl (fun v w2 he _ ho => ⟨he, OwnT.base ho hR.size'⟩)
 intro a6 wd6 hN_6 hD_6 hO hR hA hU
 obtain ⟨t20, _, _, _, _, t25, _⟩ := hA
 have hE_6 := hE_5.trans hR
 have s1_6 := (hO 1 rfl).trans s1_5
 have s2_6 := (hO 2 rfl).trans s2_5
 have s4_6 := (hO 4 rfl).trans s4_5
 have s5_6 := (hO 5 rfl).trans s5_5
 have hbb1_6 := hbb1_5.ext' hR
 have hbb2_6 := hbb2_5.ext' hR
 have hsx4_6 := hsx4_5.ext' hR
 have hox4_6 := hox4_5.ext' hR
 have s20_6 : get a6 20 = x4 := t20
 obtain ⟨x25, s25_6⟩ : ∃ x, get a6 25 = x := ⟨_, rfl⟩
 replace t25 : OwnT W32 wd5.heap.size 25 ([(z.root).a]) x25 wd6 := by rw [← s25_6]; exact t25
 have nbo_x25_b1 : x25.ownBlock ≠ some b1 := fun e => Nat.lt_irrefl _ (Nat.lt_of_lt_of_le hbb1_5.lt (OwnT.block_lt t25 e).1)
 have nbo_x25_b2 : x25.ownBlock ≠ some b2 := fun e => Nat.lt_irrefl _ (Nat.lt_of_lt_of_le hbb2_5.lt (OwnT.block_lt t25 e).1)
 have no_x25_x4 : ∀ k, x25.ownBlock = some k → x4.ownBlock ≠ some k := fun k e e' => Nat.lt_irrefl _ (Nat.lt_of_lt_of_le (OwnT.block_lt hox4_5 e').2 (OwnT.block_lt t25 e).1)
 have hsx25_6 := t25.sl.wide (Nat.zero_le _) (.inl rfl)
 have hox25_6 := OwnT.base t25 hE_5.size'
 clear hE_5 hN_5 hD_5 s1_5 s2_5 s4_5 s5_5 s17_5 hbb1_5 hbb2_5 hsx4_5 hox4_5
 refine tail_put rfl rfl hN_6 hD_6 (by decide) (does_append (T := W32) (base := w0.heap.size) (xs := [(UInt64.ofNat ((u64of (z.size) : UInt64).toNat % (4294967296 : UInt64).toNat)).toUInt32, (UInt64.ofNat ((u64of (z.size) : UInt64).toNat / (4294967296 : UInt64).toNat)).toUInt32]) (ys := [(z.root).a]) (v := x4) app_81 s20_6 hox4_6 (SlT.at s25_6 hsx25_6) (by simp) (by first | (simp only [List.length_append, bytes_length, List.length_take, List.length_cons, List.length_nil, List.length_map]; omega) | simp) (by first | (simp only [List.length_append, bytes_length, List.length_take, List.length_cons, List.length_nil, List.length_map]; omega) | simp) hE_6.size' (fun x26 wd7 hX hox26_7 hk a7 hN_7 hD_7 hv hO => ?_))
 have hE_7 := hE_6.since hX (fun b hb => Nat.le_trans (Nat.le_refl _) (OwnT.block_lt hox4_6 hb).1)
 have hbb1_7 := hbb1_6.ext hX nbo_x4_b1
 have nbo_x26_b1 : x26.ownBlock ≠ some b1 := fun e => (hk _ e).elim nbo_x4_b1 (fun h => Nat.lt_irrefl _ (Nat.lt_of_lt_of_le hbb1_6.lt h))
 have hbb2_7 := hbb2_6.ext hX nbo_x4_b2
 have nbo_x26_b2 : x26.ownBlock ≠ some b2 := fun e => (hk _ e).elim nbo_x4_b2 (fun h => Nat.lt_irrefl _ (Nat.lt_of_lt_of_le hbb2_6.lt h))
 have hox25_7 := OwnT.ext hox25_6 hX (fun k hk e => no_x25_x4 k hk e)
 have no_x26_x25 : ∀ k, x26.ownBlock = some k → x25.ownBlock ≠ some k := fun k e e' => (hk k e).elim (fun h => no_x25_x4 k e' h) (fun h => Nat.lt_irrefl _ (Nat.lt_of_lt_of_le (OwnT.block_lt hox25_6 e').2 h))
 have hsx25_7 := hox25_7.sl.wide (Nat.zero_le _) (.inl rfl)
 have hsx26_7 := hox26_7.sl.wide (Nat.zero_le _) (.inl rfl)
 have s26_7 := hv
 have s1_7 := (hO 1 rfl).trans s1_6
 have s2_7 := (hO 2 rfl).trans s2_6
 have s4_7 := (hO 4 rfl).trans s4_6
 have s5_7 := (hO 5 rfl).trans s5_6
 clear hO hv hX hk hN_6 hD_6 hE_6 hbb1_6 hbb2_6 hox25_6 s1_6 s2_6 s4_6 s5_6 s20_6 s25_6
 refine tail_put rfl rfl hN_7 hD_7 (by decide) (does_assign (V := x26) s26_7 (fun a8 hN_8 hD_8 hv hO => ?_))
 have s4_8 := hv
 have s1_8 := (hO 1 rfl).trans s1_7
 have s2_8 := (hO 2 rfl).trans s2_7
 have s5_8 := (hO 5 rfl).trans s5_7
 clear hO hv hN_7 hD_7 s1_7 s2_7 s5_7 s26_7 s4_7
 refine tail_nil ?_
 refine region_lex [] [(18, Pr.ex (i64 ((0 : Nat) : Int))), (19, Pr.ex (i64 ((1 : Nat) : Int)))] 2 hN_8 hD_8 (by kernel_rfl) (by kernel_rfl) ?_ ?_
 refine Asks.cons ?_ (Asks.cons ?_ (Asks.zero _))
 exact Ask.plain rfl rfl fun aq wq hNq hO hR hT => does_move (V := i64 ((0 : Nat) : Int)) ((hO 5 rfl).trans s5_8) ⟨Ext.refl _, rfl⟩
 exact Ask.plain rfl rfl fun aq wq hNq hO hR hT => does_add (a := ((0 : Nat) : Int)) (b := ((1 : Nat) : Int)) (r := ((1 : Nat) : Int)) (hT 18 rfl rfl) rfl (by decide) (by decide) (by decide) ⟨Ext.refl _, rfl⟩
 intro a9 wd9 hN_9 hD_9 hO hR hA hU
 obtain ⟨_, t19, _⟩ := hA
 have hE_9 := hE_7.trans hR
 have s1_9 := (hO 1 rfl).trans s1_8
 have s2_9 := (hO 2 rfl).trans s2_8
 have s4_9 := (hO 4 rfl).trans s4_8
 have s5_9 := (hO 5 rfl).trans s5_8
 have hbb1_9 := hbb1_7.ext' hR
 have hbb2_9 := hbb2_7.ext' hR
 have hsx25_9 := hsx25_7.ext' hR
 have hsx26_9 := hsx26_7.ext' hR
 have hox25_9 := hox25_7.ext' hR
 have hox26_9 := hox26_7.ext' hR
 have s19_9 : get a9 19 = i64 ((1 : Nat) : Int) := t19
 clear hE_7 hN_8 hD_8 s1_8 s2_8 s4_8 s5_8 hbb1_7 hbb2_7 hsx25_7 hsx26_7 hox25_7 hox26_7
 refine tail_put rfl rfl hN_9 hD_9 (by decide) (does_assign (V := i64 ((1 : Nat) : Int)) s19_9 (fun a10 hN_10 hD_10 hv hO => ?_))
 have s5_10 := hv
 have s1_10 := (hO 1 rfl).trans s1_9
 have s2_10 := (hO 2 rfl).trans s2_9
 have s4_10 := (hO 4 rfl).trans s4_9
 clear hO hv hN_9 hD_9 s1_9 s2_9 s4_9 s19_9 s5_9
 refine tail_nil ?_
 refine round_step ?_
 refine wp_seq ?_
 refine wp_seq ?_
 refine region_lex [] [(16, Pr.ex (i64 ((1 : Nat) : Int))), (17, Pr.ex (Value.bool (true)))] 2 hN_10 hD_10 (by kernel_rfl) (by kernel_rfl) ?_ ?_
 refine Asks.cons ?_ (Asks.cons ?_ (Asks.zero _))
 exact Ask.plain rfl rfl fun aq wq hNq hO hR hT => does_move (V := i64 ((1 : Nat) : Int)) ((hO 5 rfl).trans s5_10) ⟨Ext.refl _, rfl⟩
 exact Ask.plain rfl rfl fun aq wq hNq hO hR hT => does_lss (a := ((1 : Nat) : Int)) (b := ((4 : Nat) : Int)) (hT 16 rfl rfl) rfl ⟨Ext.refl _, rfl⟩
 intro a11 wd11 hN_11 hD_11 hO hR hA hU
 obtain ⟨_, t17, _⟩ := hA
 have hE_11 := hE_9.trans hR
 have s1_11 := (hO 1 rfl).trans s1_10
 have s2_11 := (hO 2 rfl).trans s2_10
 have s4_11 := (hO 4 rfl).trans s4_10
 have s5_11 := (hO 5 rfl).trans s5_10
 have hbb1_11 := hbb1_9.ext' hR
 have hbb2_11 := hbb2_9.ext' hR
 have hsx25_11 := hsx25_9.ext' hR
 have hsx26_11 := hsx26_9.ext' hR
 have hox25_11 := hox25_9.ext' hR
 have hox26_11 := hox26_9.ext' hR
 have s17_11 : get a11 17 = Value.bool (true) := t17
 clear hE_9 hN_10 hD_10 s1_10 s2_10 s4_10 s5_10 hbb1_9 hbb2_9 hsx25_9 hsx26_9 hox25_9 hox26_9
 refine tail_nil ?_
 refine wp_ifT s17_11 ?_
 refine wp_skip ?_
 refine wp_seq ?_
 refine wp_block ?_
 refine region_lex [] [(20, Pr.ex (x26)), (21, Pr.ex (i64 ((1 : Nat) : Int))), (22, Pr.ex (Value.pointer (some ⟨b1, 1, none⟩))), (23, Pr.ex (Value.pointer (some ⟨b1, 2, none⟩))), (24, Pr.ex (w32 ((z.root).b))), (25, Pr.own' W32 wd11.heap.size 25 ([(z.root).b]))] 6 hN_11 hD_11 (by kernel_rfl) (by kernel_rfl) ?_ ?_
 refine Asks.cons ?_ (Asks.cons ?_ (Asks.cons ?_ (Asks.cons ?_ (Asks.cons ?_ (Asks.cons ?_ (Asks.zero _))))))
 exact Ask.plain rfl rfl fun aq wq hNq hO hR hT => does_move (V := x26) ((hO 4 rfl).trans s4_11) ⟨Ext.refl _, rfl⟩
 exact Ask.plain rfl rfl fun aq wq hNq hO hR hT => does_move (V := i64 ((1 : Nat) : Int)) ((hO 5 rfl).trans s5_11) ⟨Ext.refl _, rfl⟩
 exact Ask.plain rfl rfl fun aq wq hNq hO hR hT => does_field (o' := 1) fld_29_1 ((hO 1 rfl).trans s1_11) rfl ⟨Ext.refl _, rfl⟩
 exact Ask.plain rfl rfl fun aq wq hNq hO hR hT => does_indexArr (k := .i64) (i := 1) (o' := 2) arr_27 (hT 22 rfl rfl) (hT 21 rfl rfl) (by decide) (by decide) rfl ⟨Ext.refl _, rfl⟩
 exact Ask.plain rfl rfl fun aq wq hNq hO hR hT => does_loadD1 (o := 2) (V := w32 ((z.root).b)) (hT 23 rfl rfl) (hbb1_11.ext' hR) rfl one_25 ⟨Ext.refl _, rfl⟩
 exact Ask.plain rfl rfl fun aq wq hNq hO hR hT => does_slice1 (T := W32) (X := (z.root).b) (V := w32 ((z.root).b)) app_81 rfl (by decide) (hT 24 rfl rfl) rfl (fun v w2 he _ ho => ⟨he, OwnT.base ho hR.size'⟩)
 intro a12 wd12 hN_12 hD_12 hO hR hA hU
 obtain ⟨t20, _, _, _, _, t25, _⟩ := hA
 have hE_12 := hE_11.trans hR
 have s1_12 := (hO 1 rfl).trans s1_11
 have s2_12 := (hO 2 rfl).trans s2_11
 have s4_12 := (hO 4 rfl).trans s4_11
 have s5_12 := (hO 5 rfl).trans s5_11
 have hbb1_12 := hbb1_11.ext' hR
 have hbb2_12 := hbb2_11.ext' hR
 have hsx25_12 := hsx25_11.ext' hR
 have hsx26_12 := hsx26_11.ext' hR
 have hox25_12 := hox25_11.ext' hR
 have hox26_12 := hox26_11.ext' hR
 have s20_12 : get a12 20 = x26 := t20
 obtain ⟨x25_1, s25_12⟩ : ∃ x, get a12 25 = x := ⟨_, rfl⟩
 replace t25 : OwnT W32 wd11.heap.size 25 ([(z.root).b]) x25_1 wd12 := by rw [← s25_12]; exact t25
 have nbo_x25_1_b1 : x25_1.ownBlock ≠ some b1 := fun e => Nat.lt_irrefl _ (Nat.lt_of_lt_of_le hbb1_11.lt (OwnT.block_lt t25 e).1)
 have nbo_x25_1_b2 : x25_1.ownBlock ≠ some b2 := fun e => Nat.lt_irrefl _ (Nat.lt_of_lt_of_le hbb2_11.lt (OwnT.block_lt t25 e).1)
 have no_x25_1_x25 : ∀ k, x25_1.ownBlock = some k → x25.ownBlock ≠ some k := fun k e e' => Nat.lt_irrefl _ (Nat.lt_of_lt_of_le (OwnT.block_lt hox25_11 e').2 (OwnT.block_lt t25 e).1)
 have no_x25_1_x26 : ∀ k, x25_1.ownBlock = some k → x26.ownBlock ≠ some k := fun k e e' => Nat.lt_irrefl _ (Nat.lt_of_lt_of_le (OwnT.block_lt hox26_11 e').2 (OwnT.block_lt t25 e).1)
 have hsx25_1_12 := t25.sl.wide (Nat.zero_le _) (.inl rfl)
 have hox25_1_12 := OwnT.base t25 hE_11.size'
 clear hE_11 hN_11 hD_11 s1_11 s2_11 s4_11 s5_11 s17_11 hbb1_11 hbb2_11 hsx25_11 hsx26_11 hox25_11 hox26_11
 refine tail_put rfl rfl hN_12 hD_12 (by decide) (does_append (T := W32) (base := w0.heap.size) (xs := [(UInt64.ofNat ((u64of (z.size) : UInt64).toNat % (4294967296 : UInt64).toNat)).toUInt32, (UInt64.ofNat ((u64of (z.size) : UInt64).toNat / (4294967296 : UInt64).toNat)).toUInt32] ++ [(z.root).a]) (ys := [(z.root).b]) (v := x26) app_81 s20_12 hox26_12 (SlT.at s25_12 hsx25_1_12) (by simp) (by first | (simp only [List.length_append, bytes_length, List.length_take, List.length_cons, List.length_nil, List.length_map]; omega) | simp) (by first | (simp only [List.length_append, bytes_length, List.length_take, List.length_cons, List.length_nil, List.length_map]; omega) | simp) hE_12.size' (fun x26_1 wd13 hX hox26_1_13 hk a13 hN_13 hD_13 hv hO => ?_))
 have hE_13 := hE_12.since hX (fun b hb => Nat.le_trans (Nat.le_refl _) (OwnT.block_lt hox26_12 hb).1)
 have hbb1_13 := hbb1_12.ext hX nbo_x26_b1
 have nbo_x26_1_b1 : x26_1.ownBlock ≠ some b1 := fun e => (hk _ e).elim nbo_x26_b1 (fun h => Nat.lt_irrefl _ (Nat.lt_of_lt_of_le hbb1_12.lt h))
 have hbb2_13 := hbb2_12.ext hX nbo_x26_b2
 have nbo_x26_1_b2 : x26_1.ownBlock ≠ some b2 := fun e => (hk _ e).elim nbo_x26_b2 (fun h => Nat.lt_irrefl _ (Nat.lt_of_lt_of_le hbb2_12.lt h))
 have hox25_13 := OwnT.ext hox25_12 hX (fun k hk e => no_x26_x25 k e hk)
 have no_x26_1_x25 : ∀ k, x26_1.ownBlock = some k → x25.ownBlock ≠ some k := fun k e e' => (hk k e).elim (fun h => no_x26_x25 k h e') (fun h => Nat.lt_irrefl _ (Nat.lt_of_lt_of_le (OwnT.block_lt hox25_12 e').2 h))
 have hsx25_13 := hox25_13.sl.wide (Nat.zero_le _) (.inl rfl)
 have hox25_1_13 := OwnT.ext hox25_1_12 hX (fun k hk e => no_x25_1_x26 k hk e)
 have no_x26_1_x25_1 : ∀ k, x26_1.ownBlock = some k → x25_1.ownBlock ≠ some k := fun k e e' => (hk k e).elim (fun h => no_x25_1_x26 k e' h) (fun h => Nat.lt_irrefl _ (Nat.lt_of_lt_of_le (OwnT.block_lt hox25_1_12 e').2 h))
 have hsx25_1_13 := hox25_1_13.sl.wide (Nat.zero_le _) (.inl rfl)
 have hsx26_1_13 := hox26_1_13.sl.wide (Nat.zero_le _) (.inl rfl)
 have s26_13 := hv
 have s1_13 := (hO 1 rfl).trans s1_12
 have s2_13 := (hO 2 rfl).trans s2_12
 have s4_13 := (hO 4 rfl).trans s4_12
 have s5_13 := (hO 5 rfl).trans s5_12
 clear hO hv hX hk hN_12 hD_12 hE_12 hbb1_12 hbb2_12 hox25_12 hox25_1_12 s1_12 s2_12 s4_12 s5_12 s20_12 s25_12
 refine tail_put rfl rfl hN_13 hD_13 (by decide) (does_assign (V := x26_1) s26_13 (fun a14 hN_14 hD_14 hv hO => ?_))
 have s4_14 := hv
 have s1_14 := (hO 1 rfl).trans s1_13
 have s2_14 := (hO 2 rfl).trans s2_13
 have s5_14 := (hO 5 rfl).trans s5_13
 clear hO hv hN_13 hD_13 s1_13 s2_13 s5_13 s26_13 s4_13
 refine tail_nil ?_
 refine region_lex [] [(18, Pr.ex (i64 ((1 : Nat) : Int))), (19, Pr.ex (i64 ((2 : Nat) : Int)))] 2 hN_14 hD_14 (by kernel_rfl) (by kernel_rfl) ?_ ?_
 refine Asks.cons ?_ (Asks.cons ?_ (Asks.zero _))
 exact Ask.plain rfl rfl fun aq wq hNq hO hR hT => does_move (V := i64 ((1 : Nat) : Int)) ((hO 5 rfl).trans s5_14) ⟨Ext.refl _, rfl⟩
 exact Ask.plain rfl rfl fun aq wq hNq hO hR hT => does_add (a := ((1 : Nat) : Int)) (b := ((1 : Nat) : Int)) (r := ((2 : Nat) : Int)) (hT 18 rfl rfl) rfl (by decide) (by decide) (by decide) ⟨Ext.refl _, rfl⟩
 intro a15 wd15 hN_15 hD_15 hO hR hA hU
 obtain ⟨_, t19, _⟩ := hA
 have hE_15 := hE_13.trans hR
 have s1_15 := (hO 1 rfl).trans s1_14
 have s2_15 := (hO 2 rfl).trans s2_14
 have s4_15 := (hO 4 rfl).trans s4_14
 have s5_15 := (hO 5 rfl).trans s5_14
 have hbb1_15 := hbb1_13.ext' hR
 have hbb2_15 := hbb2_13.ext' hR
 have hsx25_15 := hsx25_13.ext' hR
 have hsx25_1_15 := hsx25_1_13.ext' hR
 have hsx26_1_15 := hsx26_1_13.ext' hR
 have hox25_15 := hox25_13.ext' hR
 have hox25_1_15 := hox25_1_13.ext' hR
 have hox26_1_15 := hox26_1_13.ext' hR
 have s19_15 : get a15 19 = i64 ((2 : Nat) : Int) := t19
 clear hE_13 hN_14 hD_14 s1_14 s2_14 s4_14 s5_14 hbb1_13 hbb2_13 hsx25_13 hsx25_1_13 hsx26_1_13 hox25_13 hox25_1_13 hox26_1_13
 refine tail_put rfl rfl hN_15 hD_15 (by decide) (does_assign (V := i64 ((2 : Nat) : Int)) s19_15 (fun a16 hN_16 hD_16 hv hO => ?_))
 have s5_16 := hv
 have s1_16 := (hO 1 rfl).trans s1_15
 have s2_16 := (hO 2 rfl).trans s2_15
 have s4_16 := (hO 4 rfl).trans s4_15
 clear hO hv hN_15 hD_15 s1_15 s2_15 s4_15 s19_15 s5_15
 refine tail_nil ?_
 refine round_step ?_
 refine wp_seq ?_
 refine wp_seq ?_
 refine region_lex [] [(16, Pr.ex (i64 ((2 : Nat) : Int))), (17, Pr.ex (Value.bool (true)))] 2 hN_16 hD_16 (by kernel_rfl) (by kernel_rfl) ?_ ?_
 refine Asks.cons ?_ (Asks.cons ?_ (Asks.zero _))
 exact Ask.plain rfl rfl fun aq wq hNq hO hR hT => does_move (V := i64 ((2 : Nat) : Int)) ((hO 5 rfl).trans s5_16) ⟨Ext.refl _, rfl⟩
 exact Ask.plain rfl rfl fun aq wq hNq hO hR hT => does_lss (a := ((2 : Nat) : Int)) (b := ((4 : Nat) : Int)) (hT 16 rfl rfl) rfl ⟨Ext.refl _, rfl⟩
 intro a17 wd17 hN_17 hD_17 hO hR hA hU
 obtain ⟨_, t17, _⟩ := hA
 have hE_17 := hE_15.trans hR
 have s1_17 := (hO 1 rfl).trans s1_16
 have s2_17 := (hO 2 rfl).trans s2_16
 have s4_17 := (hO 4 rfl).trans s4_16
 have s5_17 := (hO 5 rfl).trans s5_16
 have hbb1_17 := hbb1_15.ext' hR
 have hbb2_17 := hbb2_15.ext' hR
 have hsx25_17 := hsx25_15.ext' hR
 have hsx25_1_17 := hsx25_1_15.ext' hR
 have hsx26_1_17 := hsx26_1_15.ext' hR
 have hox25_17 := hox25_15.ext' hR
 have hox25_1_17 := hox25_1_15.ext' hR
 have hox26_1_17 := hox26_1_15.ext' hR
 have s17_17 : get a17 17 = Value.bool (true) := t17
 clear hE_15 hN_16 hD_16 s1_16 s2_16 s4_16 s5_16 hbb1_15 hbb2_15 hsx25_15 hsx25_1_15 hsx26_1_15 hox25_15 hox25_1_15 hox26_1_15
 refine tail_nil ?_
 refine wp_ifT s17_17 ?_
 refine wp_skip ?_
 refine wp_seq ?_
 refine wp_block ?_
 refine region_lex [] [(20, Pr.ex (x26_1)), (21, Pr.ex (i64 ((2 : Nat) : Int))), (22, Pr.ex (Value.pointer (some ⟨b1, 1, none⟩))), (23, Pr.ex (Value.pointer (some ⟨b1, 3, none⟩))), (24, Pr.ex (w32 ((z.root).c))), (25, Pr.own' W32 wd17.heap.size 25 ([(z.root).c]))] 6 hN_17 hD_17 (by kernel_rfl) (by kernel_rfl) ?_ ?_
 refine Asks.cons ?_ (Asks.cons ?_ (Asks.cons ?_ (Asks.cons ?_ (Asks.cons ?_ (Asks.cons ?_ (Asks.zero _))))))
 exact Ask.plain rfl rfl fun aq wq hNq hO hR hT => does_move (V := x26_1) ((hO 4 rfl).trans s4_17) ⟨Ext.refl _, rfl⟩
 exact Ask.plain rfl rfl fun aq wq hNq hO hR hT => does_move (V := i64 ((2 : Nat) : Int)) ((hO 5 rfl).trans s5_17) ⟨Ext.refl _, rfl⟩
 exact Ask.plain rfl rfl fun aq wq hNq hO hR hT => does_field (o' := 1) fld_29_1 ((hO 1 rfl).trans s1_17) rfl ⟨Ext.refl _, rfl⟩
 exact Ask.plain rfl rfl fun aq wq hNq hO hR hT => does_indexArr (k := .i64) (i := 2) (o' := 3) arr_27 (hT 22 rfl rfl) (hT 21 rfl rfl) (by decide) (by decide) rfl ⟨Ext.refl _, rfl⟩
 exact Ask.plain rfl rfl fun aq wq hNq hO hR hT => does_loadD1 (o := 3) (V := w32 ((z.root).c)) (hT 23 rfl rfl) (hbb1_17.ext' hR) rfl one_25 ⟨Ext.refl _, rfl⟩
 exact Ask.plain rfl rfl fun aq wq hNq hO hR hT => does_slice1 (T := W32) (X := (z.root).c) (V := w32 ((z.root).c)) app_81 rfl (by decide) (hT 24 rfl rfl) rfl (fun v w2 he _ ho => ⟨he, OwnT.base ho hR.size'⟩)
 intro a18 wd18 hN_18 hD_18 hO hR hA hU
 obtain ⟨t20, _, _, _, _, t25, _⟩ := hA
 have hE_18 := hE_17.trans hR
 have s1_18 := (hO 1 rfl).trans s1_17
 have s2_18 := (hO 2 rfl).trans s2_17
 have s4_18 := (hO 4 rfl).trans s4_17
 have s5_18 := (hO 5 rfl).trans s5_17
 have hbb1_18 := hbb1_17.ext' hR
 have hbb2_18 := hbb2_17.ext' hR
 have hsx25_18 := hsx25_17.ext' hR
 have hsx25_1_18 := hsx25_1_17.ext' hR
 have hsx26_1_18 := hsx26_1_17.ext' hR
 have hox25_18 := hox25_17.ext' hR
 have hox25_1_18 := hox25_1_17.ext' hR
 have hox26_1_18 := hox26_1_17.ext' hR
 have s20_18 : get a18 20 = x26_1 := t20
 obtain ⟨x25_2, s25_18⟩ : ∃ x, get a18 25 = x := ⟨_, rfl⟩
 replace t25 : OwnT W32 wd17.heap.size 25 ([(z.root).c]) x25_2 wd18 := by rw [← s25_18]; exact t25
 have nbo_x25_2_b1 : x25_2.ownBlock ≠ some b1 := fun e => Nat.lt_irrefl _ (Nat.lt_of_lt_of_le hbb1_17.lt (OwnT.block_lt t25 e).1)
 have nbo_x25_2_b2 : x25_2.ownBlock ≠ some b2 := fun e => Nat.lt_irrefl _ (Nat.lt_of_lt_of_le hbb2_17.lt (OwnT.block_lt t25 e).1)
 have no_x25_2_x25 : ∀ k, x25_2.ownBlock = some k → x25.ownBlock ≠ some k := fun k e e' => Nat.lt_irrefl _ (Nat.lt_of_lt_of_le (OwnT.block_lt hox25_17 e').2 (OwnT.block_lt t25 e).1)
 have no_x25_2_x25_1 : ∀ k, x25_2.ownBlock = some k → x25_1.ownBlock ≠ some k := fun k e e' => Nat.lt_irrefl _ (Nat.lt_of_lt_of_le (OwnT.block_lt hox25_1_17 e').2 (OwnT.block_lt t25 e).1)
 have no_x25_2_x26_1 : ∀ k, x25_2.ownBlock = some k → x26_1.ownBlock ≠ some k := fun k e e' => Nat.lt_irrefl _ (Nat.lt_of_lt_of_le (OwnT.block_lt hox26_1_17 e').2 (OwnT.block_lt t25 e).1)
 have hsx25_2_18 := t25.sl.wide (Nat.zero_le _) (.inl rfl)
 have hox25_2_18 := OwnT.base t25 hE_17.size'
 clear hE_17 hN_17 hD_17 s1_17 s2_17 s4_17 s5_17 s17_17 hbb1_17 hbb2_17 hsx25_17 hsx25_1_17 hsx26_1_17 hox25_17 hox25_1_17 hox26_1_17
 refine tail_put rfl rfl hN_18 hD_18 (by decide) (does_append (T := W32) (base := w0.heap.size) (xs := ([(UInt64.ofNat ((u64of (z.size) : UInt64).toNat % (4294967296 : UInt64).toNat)).toUInt32, (UInt64.ofNat ((u64of (z.size) : UInt64).toNat / (4294967296 : UInt64).toNat)).toUInt32] ++ [(z.root).a]) ++ [(z.root).b]) (ys := [(z.root).c]) (v := x26_1) app_81 s20_18 hox26_1_18 (SlT.at s25_18 hsx25_2_18) (by simp) (by first | (simp only [List.length_append, bytes_length, List.length_take, List.length_cons, List.length_nil, List.length_map]; omega) | simp) (by first | (simp only [List.length_append, bytes_length, List.length_take, List.length_cons, List.length_nil, List.length_map]; omega) | simp) hE_18.size' (fun x26_2 wd19 hX hox26_2_19 hk a19 hN_19 hD_19 hv hO => ?_))
 have hE_19 := hE_18.since hX (fun b hb => Nat.le_trans (Nat.le_refl _) (OwnT.block_lt hox26_1_18 hb).1)
 have hbb1_19 := hbb1_18.ext hX nbo_x26_1_b1
 have nbo_x26_2_b1 : x26_2.ownBlock ≠ some b1 := fun e => (hk _ e).elim nbo_x26_1_b1 (fun h => Nat.lt_irrefl _ (Nat.lt_of_lt_of_le hbb1_18.lt h))
 have hbb2_19 := hbb2_18.ext hX nbo_x26_1_b2
 have nbo_x26_2_b2 : x26_2.ownBlock ≠ some b2 := fun e => (hk _ e).elim nbo_x26_1_b2 (fun h => Nat.lt_irrefl _ (Nat.lt_of_lt_of_le hbb2_18.lt h))
 have hox25_19 := OwnT.ext hox25_18 hX (fun k hk e => no_x26_1_x25 k e hk)
 have no_x26_2_x25 : ∀ k, x26_2.ownBlock = some k → x25.ownBlock ≠ some k := fun k e e' => (hk k e).elim (fun h => no_x26_1_x25 k h e') (fun h => Nat.lt_irrefl _ (Nat.lt_of_lt_of_le (OwnT.block_lt hox25_18 e').2 h))
 have hsx25_19 := hox25_19.sl.wide (Nat.zero_le _) (.inl rfl)
 have hox25_1_19 := OwnT.ext hox25_1_18 hX (fun k hk e => no_x26_1_x25_1 k e hk)
 have no_x26_2_x25_1 : ∀ k, x26_2.ownBlock = some k → x25_1.ownBlock ≠ some k := fun k e e' => (hk k e).elim (fun h => no_x26_1_x25_1 k h e') (fun h => Nat.lt_irrefl _ (Nat.lt_of_lt_of_le (OwnT.block_lt hox25_1_18 e').2 h))
 have hsx25_1_19 := hox25_1_19.sl.wide (Nat.zero_le _) (.inl rfl)
 have hox25_2_19 := OwnT.ext hox25_2_18 hX (fun k hk e => no_x25_2_x26_1 k hk e)
 have no_x26_2_x25_2 : ∀ k, x26_2.ownBlock = some k → x25_2.ownBlock ≠ some k := fun k e e' => (hk k e).elim (fun h => no_x25_2_x26_1 k e' h) (fun h => Nat.lt_irrefl _ (Nat.lt_of_lt_of_le (OwnT.block_lt hox25_2_18 e').2 h))
 have hsx25_2_19 := hox25_2_19.sl.wide (Nat.zero_le _) (.inl rfl)
 have hsx26_2_19 := hox26_2_19.sl.wide (Nat.zero_le _) (.inl rfl)
 have s26_19 := hv
 have s1_19 := (hO 1 rfl).trans s1_18
 have s2_19 := (hO 2 rfl).trans s2_18
 have s4_19 := (hO 4 rfl).trans s4_18
 have s5_19 := (hO 5 rfl).trans s5_18
 clear hO hv hX hk hN_18 hD_18 hE_18 hbb1_18 hbb2_18 hox25_18 hox25_1_18 hox25_2_18 s1_18 s2_18 s4_18 s5_18 s20_18 s25_18
 refine tail_put rfl rfl hN_19 hD_19 (by decide) (does_assign (V := x26_2) s26_19 (fun a20 hN_20 hD_20 hv hO => ?_))
 have s4_20 := hv
 have s1_20 := (hO 1 rfl).trans s1_19
 have s2_20 := (hO 2 rfl).trans s2_19
 have s5_20 := (hO 5 rfl).trans s5_19
 clear hO hv hN_19 hD_19 s1_19 s2_19 s5_19 s26_19 s4_19
 refine tail_nil ?_
 refine region_lex [] [(18, Pr.ex (i64 ((2 : Nat) : Int))), (19, Pr.ex (i64 ((3 : Nat) : Int)))] 2 hN_20 hD_20 (by kernel_rfl) (by kernel_rfl) ?_ ?_
 refine Asks.cons ?_ (Asks.cons ?_ (Asks.zero _))
 exact Ask.plain rfl rfl fun aq wq hNq hO hR hT => does_move (V := i64 ((2 : Nat) : Int)) ((hO 5 rfl).trans s5_20) ⟨Ext.refl _, rfl⟩
 exact Ask.plain rfl rfl fun aq wq hNq hO hR hT => does_add (a := ((2 : Nat) : Int)) (b := ((1 : Nat) : Int)) (r := ((3 : Nat) : Int)) (hT 18 rfl rfl) rfl (by decide) (by decide) (by decide) ⟨Ext.refl _, rfl⟩
 intro a21 wd21 hN_21 hD_21 hO hR hA hU
 obtain ⟨_, t19, _⟩ := hA
 have hE_21 := hE_19.trans hR
 have s1_21 := (hO 1 rfl).trans s1_20
 have s2_21 := (hO 2 rfl).trans s2_20
 have s4_21 := (hO 4 rfl).trans s4_20
 have s5_21 := (hO 5 rfl).trans s5_20
 have hbb1_21 := hbb1_19.ext' hR
 have hbb2_21 := hbb2_19.ext' hR
 have hsx25_21 := hsx25_19.ext' hR
 have hsx25_1_21 := hsx25_1_19.ext' hR
 have hsx25_2_21 := hsx25_2_19.ext' hR
 have hsx26_2_21 := hsx26_2_19.ext' hR
 have hox25_21 := hox25_19.ext' hR
 have hox25_1_21 := hox25_1_19.ext' hR
 have hox25_2_21 := hox25_2_19.ext' hR
 have hox26_2_21 := hox26_2_19.ext' hR
 have s19_21 : get a21 19 = i64 ((3 : Nat) : Int) := t19
 clear hE_19 hN_20 hD_20 s1_20 s2_20 s4_20 s5_20 hbb1_19 hbb2_19 hsx25_19 hsx25_1_19 hsx25_2_19 hsx26_2_19 hox25_19 hox25_1_19 hox25_2_19 hox26_2_19
 refine tail_put rfl rfl hN_21 hD_21 (by decide) (does_assign (V := i64 ((3 : Nat) : Int)) s19_21 (fun a22 hN_22 hD_22 hv hO => ?_))
 have s5_22 := hv
 have s1_22 := (hO 1 rfl).trans s1_21
 have s2_22 := (hO 2 rfl).trans s2_21
 have s4_22 := (hO 4 rfl).trans s4_21
 clear hO hv hN_21 hD_21 s1_21 s2_21 s4_21 s19_21 s5_21
 refine tail_nil ?_
 refine round_step ?_
 refine wp_seq ?_
 refine wp_seq ?_
 refine region_lex [] [(16, Pr.ex (i64 ((3 : Nat) : Int))), (17, Pr.ex (Value.bool (true)))] 2 hN_22 hD_22 (by kernel_rfl) (by kernel_rfl) ?_ ?_
 refine Asks.cons ?_ (Asks.cons ?_ (Asks.zero _))
 exact Ask.plain rfl rfl fun aq wq hNq hO hR hT => does_move (V := i64 ((3 : Nat) : Int)) ((hO 5 rfl).trans s5_22) ⟨Ext.refl _, rfl⟩
 exact Ask.plain rfl rfl fun aq wq hNq hO hR hT => does_lss (a := ((3 : Nat) : Int)) (b := ((4 : Nat) : Int)) (hT 16 rfl rfl) rfl ⟨Ext.refl _, rfl⟩
 intro a23 wd23 hN_23 hD_23 hO hR hA hU
 obtain ⟨_, t17, _⟩ := hA
 have hE_23 := hE_21.trans hR
 have s1_23 := (hO 1 rfl).trans s1_22
 have s2_23 := (hO 2 rfl).trans s2_22
 have s4_23 := (hO 4 rfl).trans s4_22
 have s5_23 := (hO 5 rfl).trans s5_22
 have hbb1_23 := hbb1_21.ext' hR
 have hbb2_23 := hbb2_21.ext' hR
 have hsx25_23 := hsx25_21.ext' hR
 have hsx25_1_23 := hsx25_1_21.ext' hR
 have hsx25_2_23 := hsx25_2_21.ext' hR
 have hsx26_2_23 := hsx26_2_21.ext' hR
 have hox25_23 := hox25_21.ext' hR
 have hox25_1_23 := hox25_1_21.ext' hR
 have hox25_2_23 := hox25_2_21.ext' hR
 have hox26_2_23 := hox26_2_21.ext' hR
 have s17_23 : get a23 17 = Value.bool (true) := t17
 clear hE_21 hN_22 hD_22 s1_22 s2_22 s4_22 s5_22 hbb1_21 hbb2_21 hsx25_21 hsx25_1_21 hsx25_2_21 hsx26_2_21 hox25_21 hox25_1_21 hox25_2_21 hox26_2_21
 refine tail_nil ?_
 refine wp_ifT s17_23 ?_
 refine wp_skip ?_
 refine wp_seq ?_
 refine wp_block ?_
 refine region_lex [] [(20, Pr.ex (x26_2)), (21, Pr.ex (i64 ((3 : Nat) : Int))), (22, Pr.ex (Value.pointer (some ⟨b1, 1, none⟩))), (23, Pr.ex (Value.pointer (some ⟨b1, 4, none⟩))), (24, Pr.ex (w32 ((z.root).d))), (25, Pr.own' W32 wd23.heap.size 25 ([(z.root).d]))] 6 hN_23 hD_23 (by kernel_rfl) (by kernel_rfl) ?_ ?_
 refine Asks.cons ?_ (Asks.cons ?_ (Asks.cons ?_ (Asks.cons ?_ (Asks.cons ?_ (Asks.cons ?_ (Asks.zero _))))))
 exact Ask.plain rfl rfl fun aq wq hNq hO hR hT => does_move (V := x26_2) ((hO 4 rfl).trans s4_23) ⟨Ext.refl _, rfl⟩
 exact Ask.plain rfl rfl fun aq wq hNq hO hR hT => does_move (V := i64 ((3 : Nat) : Int)) ((hO 5 rfl).trans s5_23) ⟨Ext.refl _, rfl⟩
 exact Ask.plain rfl rfl fun aq wq hNq hO hR hT => does_field (o' := 1) fld_29_1 ((hO 1 rfl).trans s1_23) rfl ⟨Ext.refl _, rfl⟩
 exact Ask.plain rfl rfl fun aq wq hNq hO hR hT => does_indexArr (k := .i64) (i := 3) (o' := 4) arr_27 (hT 22 rfl rfl) (hT 21 rfl rfl) (by decide) (by decide) rfl ⟨Ext.refl _, rfl⟩
 exact Ask.plain rfl rfl fun aq wq hNq hO hR hT => does_loadD1 (o := 4) (V := w32 ((z.root).d)) (hT 23 rfl rfl) (hbb1_23.ext' hR) rfl one_25 ⟨Ext.refl _, rfl⟩
 exact Ask.plain rfl rfl fun aq wq hNq hO hR hT => does_slice1 (T := W32) (X := (z.root).d) (V := w32 ((z.root).d)) app_81 rfl (by decide) (hT 24 rfl rfl) rfl (fun v w2 he _ ho => ⟨he, OwnT.base ho hR.size'⟩)
 intro a24 wd24 hN_24 hD_24 hO hR hA hU
 obtain ⟨t20, _, _, _, _, t25, _⟩ := hA
 have hE_24 := hE_23.trans hR
 have s1_24 := (hO 1 rfl).trans s1_23
 have s2_24 := (hO 2 rfl).trans s2_23
 have s4_24 := (hO 4 rfl).trans s4_23
 have s5_24 := (hO 5 rfl).trans s5_23
 have hbb1_24 := hbb1_23.ext' hR
 have hbb2_24 := hbb2_23.ext' hR
 have hsx25_24 := hsx25_23.ext' hR
 have hsx25_1_24 := hsx25_1_23.ext' hR
 have hsx25_2_24 := hsx25_2_23.ext' hR
 have hsx26_2_24 := hsx26_2_23.ext' hR
 have hox25_24 := hox25_23.ext' hR
 have hox25_1_24 := hox25_1_23.ext' hR
 have hox25_2_24 := hox25_2_23.ext' hR
 have hox26_2_24 := hox26_2_23.ext' hR
 have s20_24 : get a24 20 = x26_2 := t20
 obtain ⟨x25_3, s25_24⟩ : ∃ x, get a24 25 = x := ⟨_, rfl⟩
 replace t25 : OwnT W32 wd23.heap.size 25 ([(z.root).d]) x25_3 wd24 := by rw [← s25_24]; exact t25
 have nbo_x25_3_b1 : x25_3.ownBlock ≠ some b1 := fun e => Nat.lt_irrefl _ (Nat.lt_of_lt_of_le hbb1_23.lt (OwnT.block_lt t25 e).1)
 have nbo_x25_3_b2 : x25_3.ownBlock ≠ some b2 := fun e => Nat.lt_irrefl _ (Nat.lt_of_lt_of_le hbb2_23.lt (OwnT.block_lt t25 e).1)
 have no_x25_3_x25 : ∀ k, x25_3.ownBlock = some k → x25.ownBlock ≠ some k := fun k e e' => Nat.lt_irrefl _ (Nat.lt_of_lt_of_le (OwnT.block_lt hox25_23 e').2 (OwnT.block_lt t25 e).1)
 have no_x25_3_x25_1 : ∀ k, x25_3.ownBlock = some k → x25_1.ownBlock ≠ some k := fun k e e' => Nat.lt_irrefl _ (Nat.lt_of_lt_of_le (OwnT.block_lt hox25_1_23 e').2 (OwnT.block_lt t25 e).1)
 have no_x25_3_x25_2 : ∀ k, x25_3.ownBlock = some k → x25_2.ownBlock ≠ some k := fun k e e' => Nat.lt_irrefl _ (Nat.lt_of_lt_of_le (OwnT.block_lt hox25_2_23 e').2 (OwnT.block_lt t25 e).1)
 have no_x25_3_x26_2 : ∀ k, x25_3.ownBlock = some k → x26_2.ownBlock ≠ some k := fun k e e' => Nat.lt_irrefl _ (Nat.lt_of_lt_of_le (OwnT.block_lt hox26_2_23 e').2 (OwnT.block_lt t25 e).1)
 have hsx25_3_24 := t25.sl.wide (Nat.zero_le _) (.inl rfl)
 have hox25_3_24 := OwnT.base t25 hE_23.size'
 clear hE_23 hN_23 hD_23 s1_23 s2_23 s4_23 s5_23 s17_23 hbb1_23 hbb2_23 hsx25_23 hsx25_1_23 hsx25_2_23 hsx26_2_23 hox25_23 hox25_1_23 hox25_2_23 hox26_2_23
 refine tail_put rfl rfl hN_24 hD_24 (by decide) (does_append (T := W32) (base := w0.heap.size) (xs := (([(UInt64.ofNat ((u64of (z.size) : UInt64).toNat % (4294967296 : UInt64).toNat)).toUInt32, (UInt64.ofNat ((u64of (z.size) : UInt64).toNat / (4294967296 : UInt64).toNat)).toUInt32] ++ [(z.root).a]) ++ [(z.root).b]) ++ [(z.root).c]) (ys := [(z.root).d]) (v := x26_2) app_81 s20_24 hox26_2_24 (SlT.at s25_24 hsx25_3_24) (by simp) (by first | (simp only [List.length_append, bytes_length, List.length_take, List.length_cons, List.length_nil, List.length_map]; omega) | simp) (by first | (simp only [List.length_append, bytes_length, List.length_take, List.length_cons, List.length_nil, List.length_map]; omega) | simp) hE_24.size' (fun x26_3 wd25 hX hox26_3_25 hk a25 hN_25 hD_25 hv hO => ?_))
 have hE_25 := hE_24.since hX (fun b hb => Nat.le_trans (Nat.le_refl _) (OwnT.block_lt hox26_2_24 hb).1)
 have hbb1_25 := hbb1_24.ext hX nbo_x26_2_b1
 have nbo_x26_3_b1 : x26_3.ownBlock ≠ some b1 := fun e => (hk _ e).elim nbo_x26_2_b1 (fun h => Nat.lt_irrefl _ (Nat.lt_of_lt_of_le hbb1_24.lt h))
 have hbb2_25 := hbb2_24.ext hX nbo_x26_2_b2
 have nbo_x26_3_b2 : x26_3.ownBlock ≠ some b2 := fun e => (hk _ e).elim nbo_x26_2_b2 (fun h => Nat.lt_irrefl _ (Nat.lt_of_lt_of_le hbb2_24.lt h))
 have hox25_25 := OwnT.ext hox25_24 hX (fun k hk e => no_x26_2_x25 k e hk)
 have no_x26_3_x25 : ∀ k, x26_3.ownBlock = some k → x25.ownBlock ≠ some k := fun k e e' => (hk k e).elim (fun h => no_x26_2_x25 k h e') (fun h => Nat.lt_irrefl _ (Nat.lt_of_lt_of_le (OwnT.block_lt hox25_24 e').2 h))
 have hsx25_25 := hox25_25.sl.wide (Nat.zero_le _) (.inl rfl)
 have hox25_1_25 := OwnT.ext hox25_1_24 hX (fun k hk e => no_x26_2_x25_1 k e hk)
 have no_x26_3_x25_1 : ∀ k, x26_3.ownBlock = some k → x25_1.ownBlock ≠ some k := fun k e e' => (hk k e).elim (fun h => no_x26_2_x25_1 k h e') (fun h => Nat.lt_irrefl _ (Nat.lt_of_lt_of_le (OwnT.block_lt hox25_1_24 e').2 h))
 have hsx25_1_25 := hox25_1_25.sl.wide (Nat.zero_le _) (.inl rfl)
 have hox25_2_25 := OwnT.ext hox25_2_24 hX (fun k hk e => no_x26_2_x25_2 k e hk)
 have no_x26_3_x25_2 : ∀ k, x26_3.ownBlock = some k → x25_2.ownBlock ≠ some k := fun k e e' => (hk k e).elim (fun h => no_x26_2_x25_2 k h e') (fun h => Nat.lt_irrefl _ (Nat.lt_of_lt_of_le (OwnT.block_lt hox25_2_24 e').2 h))
 have hsx25_2_25 := hox25_2_25.sl.wide (Nat.zero_le _) (.inl rfl)
 have hox25_3_25 := OwnT.ext hox25_3_24 hX (fun k hk e => no_x25_3_x26_2 k hk e)
 have no_x26_3_x25_3 : ∀ k, x26_3.ownBlock = some k → x25_3.ownBlock ≠ some k := fun k e e' => (hk k e).elim (fun h => no_x25_3_x26_2 k e' h) (fun h => Nat.lt_irrefl _ (Nat.lt_of_lt_of_le (OwnT.block_lt hox25_3_24 e').2 h))
 have hsx25_3_25 := hox25_3_25.sl.wide (Nat.zero_le _) (.inl rfl)
 have hsx26_3_25 := hox26_3_25.sl.wide (Nat.zero_le _) (.inl rfl)
 have s26_25 := hv
 have s1_25 := (hO 1 rfl).trans s1_24
 have s2_25 := (hO 2 rfl).trans s2_24
 have s4_25 := (hO 4 rfl).trans s4_24
 have s5_25 := (hO 5 rfl).trans s5_24
 clear hO hv hX hk hN_24 hD_24 hE_24 hbb1_24 hbb2_24 hox25_24 hox25_1_24 hox25_2_24 hox25_3_24 s1_24 s2_24 s4_24 s5_24 s20_24 s25_24
 refine tail_put rfl rfl hN_25 hD_25 (by decide) (does_assign (V := x26_3) s26_25 (fun a26 hN_26 hD_26 hv hO => ?_))
 have s4_26 := hv
 have s1_26 := (hO 1 rfl).trans s1_25
 have s2_26 := (hO 2 rfl).trans s2_25
 have s5_26 := (hO 5 rfl).trans s5_25
 clear hO hv hN_25 hD_25 s1_25 s2_25 s5_25 s26_25 s4_25
 refine tail_nil ?_
 refine region_lex [] [(18, Pr.ex (i64 ((3 : Nat) : Int))), (19, Pr.ex (i64 ((4 : Nat) : Int)))] 2 hN_26 hD_26 (by kernel_rfl) (by kernel_rfl) ?_ ?_
 refine Asks.cons ?_ (Asks.cons ?_ (Asks.zero _))
 exact Ask.plain rfl rfl fun aq wq hNq hO hR hT => does_move (V := i64 ((3 : Nat) : Int)) ((hO 5 rfl).trans s5_26) ⟨Ext.refl _, rfl⟩
 exact Ask.plain rfl rfl fun aq wq hNq hO hR hT => does_add (a := ((3 : Nat) : Int)) (b := ((1 : Nat) : Int)) (r := ((4 : Nat) : Int)) (hT 18 rfl rfl) rfl (by decide) (by decide) (by decide) ⟨Ext.refl _, rfl⟩
 intro a27 wd27 hN_27 hD_27 hO hR hA hU
 obtain ⟨_, t19, _⟩ := hA
 have hE_27 := hE_25.trans hR
 have s1_27 := (hO 1 rfl).trans s1_26
 have s2_27 := (hO 2 rfl).trans s2_26
 have s4_27 := (hO 4 rfl).trans s4_26
 have s5_27 := (hO 5 rfl).trans s5_26
 have hbb1_27 := hbb1_25.ext' hR
 have hbb2_27 := hbb2_25.ext' hR
 have hsx25_27 := hsx25_25.ext' hR
 have hsx25_1_27 := hsx25_1_25.ext' hR
 have hsx25_2_27 := hsx25_2_25.ext' hR
 have hsx25_3_27 := hsx25_3_25.ext' hR
 have hsx26_3_27 := hsx26_3_25.ext' hR
 have hox25_27 := hox25_25.ext' hR
 have hox25_1_27 := hox25_1_25.ext' hR
 have hox25_2_27 := hox25_2_25.ext' hR
 have hox25_3_27 := hox25_3_25.ext' hR
 have hox26_3_27 := hox26_3_25.ext' hR
 have s19_27 : get a27 19 = i64 ((4 : Nat) : Int) := t19
 clear hE_25 hN_26 hD_26 s1_26 s2_26 s4_26 s5_26 hbb1_25 hbb2_25 hsx25_25 hsx25_1_25 hsx25_2_25 hsx25_3_25 hsx26_3_25 hox25_25 hox25_1_25 hox25_2_25 hox25_3_25 hox26_3_25
 refine tail_put rfl rfl hN_27 hD_27 (by decide) (does_assign (V := i64 ((4 : Nat) : Int)) s19_27 (fun a28 hN_28 hD_28 hv hO => ?_))
 have s5_28 := hv
 have s1_28 := (hO 1 rfl).trans s1_27
 have s2_28 := (hO 2 rfl).trans s2_27
 have s4_28 := (hO 4 rfl).trans s4_27
 clear hO hv hN_27 hD_27 s1_27 s2_27 s4_27 s19_27 s5_27
 refine tail_nil ?_
 refine round_step ?_
 refine wp_seq ?_
 refine wp_seq ?_
 refine region_lex [] [(16, Pr.ex (i64 ((4 : Nat) : Int))), (17, Pr.ex (Value.bool (false)))] 2 hN_28 hD_28 (by kernel_rfl) (by kernel_rfl) ?_ ?_
 refine Asks.cons ?_ (Asks.cons ?_ (Asks.zero _))
 exact Ask.plain rfl rfl fun aq wq hNq hO hR hT => does_move (V := i64 ((4 : Nat) : Int)) ((hO 5 rfl).trans s5_28) ⟨Ext.refl _, rfl⟩
 exact Ask.plain rfl rfl fun aq wq hNq hO hR hT => does_lss (a := ((4 : Nat) : Int)) (b := ((4 : Nat) : Int)) (hT 16 rfl rfl) rfl ⟨Ext.refl _, rfl⟩
 intro a29 wd29 hN_29 hD_29 hO hR hA hU
 obtain ⟨_, t17, _⟩ := hA
 have hE_29 := hE_27.trans hR
 have s1_29 := (hO 1 rfl).trans s1_28
 have s2_29 := (hO 2 rfl).trans s2_28
 have s4_29 := (hO 4 rfl).trans s4_28
 have s5_29 := (hO 5 rfl).trans s5_28
 have hbb1_29 := hbb1_27.ext' hR
 have hbb2_29 := hbb2_27.ext' hR
 have hsx25_29 := hsx25_27.ext' hR
 have hsx25_1_29 := hsx25_1_27.ext' hR
 have hsx25_2_29 := hsx25_2_27.ext' hR
 have hsx25_3_29 := hsx25_3_27.ext' hR
 have hsx26_3_29 := hsx26_3_27.ext' hR
 have hox25_29 := hox25_27.ext' hR
 have hox25_1_29 := hox25_1_27.ext' hR
 have hox25_2_29 := hox25_2_27.ext' hR
 have hox25_3_29 := hox25_3_27.ext' hR
 have hox26_3_29 := hox26_3_27.ext' hR
 have s17_29 : get a29 17 = Value.bool (false) := t17
 clear hE_27 hN_28 hD_28 s1_28 s2_28 s4_28 s5_28 hbb1_27 hbb2_27 hsx25_27 hsx25_1_27 hsx25_2_27 hsx25_3_27 hsx26_3_27 hox25_27 hox25_1_27 hox25_2_27 hox25_3_27 hox26_3_27
 refine tail_nil ?_
 refine wp_ifF s17_29 ?_
 refine wp_exit ?_
 refine wp_seq ?_
 refine region_lex [] [(27, Pr.ex (x26_3)), (28, Pr.ex (str (wbytes (((([(UInt64.ofNat ((u64of (z.size) : UInt64).toNat % (4294967296 : UInt64).toNat)).toUInt32, (UInt64.ofNat ((u64of (z.size) : UInt64).toNat / (4294967296 : UInt64).toNat)).toUInt32] ++ [(z.root).a]) ++ [(z.root).b]) ++ [(z.root).c]) ++ [(z.root).d])))), (29, Pr.ex (str ((([104] : List UInt8)) ++ (wbytes (((([(UInt64.ofNat ((u64of (z.size) : UInt64).toNat % (4294967296 : UInt64).toNat)).toUInt32, (UInt64.ofNat ((u64of (z.size) : UInt64).toNat / (4294967296 : UInt64).toNat)).toUInt32] ++ [(z.root).a]) ++ [(z.root).b]) ++ [(z.root).c]) ++ [(z.root).d]))))), (30, Pr.ex (Dg.val (of ((([104] : List UInt8)) ++ (wbytes (((([(UInt64.ofNat ((u64of (z.size) : UInt64).toNat % (4294967296 : UInt64).toNat)).toUInt32, (UInt64.ofNat ((u64of (z.size) : UInt64).toNat / (4294967296 : UInt64).toNat)).toUInt32] ++ [(z.root).a]) ++ [(z.root).b]) ++ [(z.root).c]) ++ [(z.root).d])))))), (31, Pr.ex (Dg.val (of (([104, 101, 97, 100] : List UInt8))))), (32, Pr.ex (Dg.val (pair (of ((([104] : List UInt8)) ++ (wbytes (((([(UInt64.ofNat ((u64of (z.size) : UInt64).toNat % (4294967296 : UInt64).toNat)).toUInt32, (UInt64.ofNat ((u64of (z.size) : UInt64).toNat / (4294967296 : UInt64).toNat)).toUInt32] ++ [(z.root).a]) ++ [(z.root).b]) ++ [(z.root).c]) ++ [(z.root).d])))) (of (([104, 101, 97, 100] : List UInt8))))))] 6 hN_29 hD_29 (by kernel_rfl) (by kernel_rfl) ?_ ?_
 refine Asks.cons ?_ (Asks.cons ?_ (Asks.cons ?_ (Asks.cons ?_ (Asks.cons ?_ (Asks.cons ?_ (Asks.zero _))))))
 exact Ask.plain rfl rfl fun aq wq hNq hO hR hT => does_move (V := x26_3) ((hO 4 rfl).trans s4_29) ⟨Ext.refl _, rfl⟩
 exact Ask.plain rfl rfl fun aq wq hNq hO hR hT => does_ret (vs := #[x26_3]) call_44 (args1 (hT 27 rfl rfl)) rfl ((bytesR (((([(UInt64.ofNat ((u64of (z.size) : UInt64).toNat % (4294967296 : UInt64).toNat)).toUInt32, (UInt64.ofNat ((u64of (z.size) : UInt64).toNat / (4294967296 : UInt64).toNat)).toUInt32] ++ [(z.root).a]) ++ [(z.root).b]) ++ [(z.root).c]) ++ [(z.root).d]) (x26_3) wq ((hsx26_3_29.ext' hR).wide (Nat.zero_le _) (.inl rfl)) (by simp)).mono fun v w2 h => ⟨h.2, h.1⟩)
 exact Ask.plain rfl rfl fun aq wq hNq hO hR hT => does_cat (a := ([104] : List UInt8)) (b := wbytes (((([(UInt64.ofNat ((u64of (z.size) : UInt64).toNat % (4294967296 : UInt64).toNat)).toUInt32, (UInt64.ofNat ((u64of (z.size) : UInt64).toNat / (4294967296 : UInt64).toNat)).toUInt32] ++ [(z.root).a]) ++ [(z.root).b]) ++ [(z.root).c]) ++ [(z.root).d])) rfl (hT 28 rfl rfl) (by simp only [List.length_append, List.length_cons, List.length_nil, List.length_replicate, bytes_length]; omega) ⟨Ext.refl _, rfl⟩
 exact Ask.plain rfl rfl fun aq wq hNq hO hR hT => does_ret (vs := #[str ((([104] : List UInt8)) ++ (wbytes (((([(UInt64.ofNat ((u64of (z.size) : UInt64).toNat % (4294967296 : UInt64).toNat)).toUInt32, (UInt64.ofNat ((u64of (z.size) : UInt64).toNat / (4294967296 : UInt64).toNat)).toUInt32] ++ [(z.root).a]) ++ [(z.root).b]) ++ [(z.root).c]) ++ [(z.root).d])))]) call_38 (args1 (hT 29 rfl rfl)) rfl ((ofR ((([104] : List UInt8)) ++ (wbytes (((([(UInt64.ofNat ((u64of (z.size) : UInt64).toNat % (4294967296 : UInt64).toNat)).toUInt32, (UInt64.ofNat ((u64of (z.size) : UInt64).toNat / (4294967296 : UInt64).toNat)).toUInt32] ++ [(z.root).a]) ++ [(z.root).b]) ++ [(z.root).c]) ++ [(z.root).d]))) wq (by simp [bytes_length])).mono fun v w2 h => ⟨h.2, h.1⟩)
 exact Ask.plain rfl rfl fun aq wq hNq hO hR hT => does_ret (vs := #[str (([104, 101, 97, 100] : List UInt8))]) call_38 (args1 rfl) rfl ((ofR (([104, 101, 97, 100] : List UInt8)) wq (by simp [bytes_length])).mono fun v w2 h => ⟨h.2, h.1⟩)
 exact Ask.plain rfl rfl fun aq wq hNq hO hR hT => does_ret (vs := #[Dg.val (of ((([104] : List UInt8)) ++ (wbytes (((([(UInt64.ofNat ((u64of (z.size) : UInt64).toNat % (4294967296 : UInt64).toNat)).toUInt32, (UInt64.ofNat ((u64of (z.size) : UInt64).toNat / (4294967296 : UInt64).toNat)).toUInt32] ++ [(z.root).a]) ++ [(z.root).b]) ++ [(z.root).c]) ++ [(z.root).d])))), Dg.val (of (([104, 101, 97, 100] : List UInt8)))]) call_24 (args2 (hT 30 rfl rfl) (hT 31 rfl rfl)) rfl ((pairR (of ((([104] : List UInt8)) ++ (wbytes (((([(UInt64.ofNat ((u64of (z.size) : UInt64).toNat % (4294967296 : UInt64).toNat)).toUInt32, (UInt64.ofNat ((u64of (z.size) : UInt64).toNat / (4294967296 : UInt64).toNat)).toUInt32] ++ [(z.root).a]) ++ [(z.root).b]) ++ [(z.root).c]) ++ [(z.root).d])))) (of (([104, 101, 97, 100] : List UInt8))) wq).mono fun v w2 h => ⟨h.2, h.1⟩)
 intro a30 wd30 hN_30 hD_30 hO hR hA hU
 obtain ⟨_, _, _, _, _, t32, _⟩ := hA
 have hE_30 := hE_29.trans hR
 have s2_30 := (hO 2 rfl).trans s2_29
 have hbb1_30 := hbb1_29.ext' hR
 have hbb2_30 := hbb2_29.ext' hR
 have hsx25_30 := hsx25_29.ext' hR
 have hsx25_1_30 := hsx25_1_29.ext' hR
 have hsx25_2_30 := hsx25_2_29.ext' hR
 have hsx25_3_30 := hsx25_3_29.ext' hR
 have hsx26_3_30 := hsx26_3_29.ext' hR
 have hox25_30 := hox25_29.ext' hR
 have hox25_1_30 := hox25_1_29.ext' hR
 have hox25_2_30 := hox25_2_29.ext' hR
 have hox25_3_30 := hox25_3_29.ext' hR
 have hox26_3_30 := hox26_3_29.ext' hR
 have s32_30 : get a30 32 = Dg.val (pair (of ((([104] : List UInt8)) ++ (wbytes (((([(UInt64.ofNat ((u64of (z.size) : UInt64).toNat % (4294967296 : UInt64).toNat)).toUInt32, (UInt64.ofNat ((u64of (z.size) : UInt64).toNat / (4294967296 : UInt64).toNat)).toUInt32] ++ [(z.root).a]) ++ [(z.root).b]) ++ [(z.root).c]) ++ [(z.root).d])))) (of (([104, 101, 97, 100] : List UInt8)))) := t32
 clear hE_29 hN_29 hD_29 s1_29 s2_29 s4_29 s5_29 s17_29 hbb1_29 hbb2_29 hsx25_29 hsx25_1_29 hsx25_2_29 hsx25_3_29 hsx26_3_29 hox25_29 hox25_1_29 hox25_2_29 hox25_3_29 hox26_3_29
 refine tail_none rfl rfl (does_storeD (o := 0) (n := 4) (cs' := [w32 (pair (of ((([104] : List UInt8)) ++ (wbytes (((([(UInt64.ofNat ((u64of (z.size) : UInt64).toNat % (4294967296 : UInt64).toNat)).toUInt32, (UInt64.ofNat ((u64of (z.size) : UInt64).toNat / (4294967296 : UInt64).toNat)).toUInt32] ++ [(z.root).a]) ++ [(z.root).b]) ++ [(z.root).c]) ++ [(z.root).d])))) (of (([104, 101, 97, 100] : List UInt8)))).a, w32 (pair (of ((([104] : List UInt8)) ++ (wbytes (((([(UInt64.ofNat ((u64of (z.size) : UInt64).toNat % (4294967296 : UInt64).toNat)).toUInt32, (UInt64.ofNat ((u64of (z.size) : UInt64).toNat / (4294967296 : UInt64).toNat)).toUInt32] ++ [(z.root).a]) ++ [(z.root).b]) ++ [(z.root).c]) ++ [(z.root).d])))) (of (([104, 101, 97, 100] : List UInt8)))).b, w32 (pair (of ((([104] : List UInt8)) ++ (wbytes (((([(UInt64.ofNat ((u64of (z.size) : UInt64).toNat % (4294967296 : UInt64).toNat)).toUInt32, (UInt64.ofNat ((u64of (z.size) : UInt64).toNat / (4294967296 : UInt64).toNat)).toUInt32] ++ [(z.root).a]) ++ [(z.root).b]) ++ [(z.root).c]) ++ [(z.root).d])))) (of (([104, 101, 97, 100] : List UInt8)))).c, w32 (pair (of ((([104] : List UInt8)) ++ (wbytes (((([(UInt64.ofNat ((u64of (z.size) : UInt64).toNat % (4294967296 : UInt64).toNat)).toUInt32, (UInt64.ofNat ((u64of (z.size) : UInt64).toNat / (4294967296 : UInt64).toNat)).toUInt32] ++ [(z.root).a]) ++ [(z.root).b]) ++ [(z.root).c]) ++ [(z.root).d])))) (of (([104, 101, 97, 100] : List UInt8)))).d]) (V := Dg.val (pair (of ((([104] : List UInt8)) ++ (wbytes (((([(UInt64.ofNat ((u64of (z.size) : UInt64).toNat % (4294967296 : UInt64).toNat)).toUInt32, (UInt64.ofNat ((u64of (z.size) : UInt64).toNat / (4294967296 : UInt64).toNat)).toUInt32] ++ [(z.root).a]) ++ [(z.root).b]) ++ [(z.root).c]) ++ [(z.root).d])))) (of (([104, 101, 97, 100] : List UInt8))))) s2_30 s32_30 hbb2_30 (Nat.le_of_ble_eq_true rfl) rfl siz_27 rfl rfl (fun wd31 hX hz hbb2_31 => ?_))
 have hE_31 := hE_30.since hX (fun k e => e ▸ fr_b2)
 have hbb1_31 := hbb1_30.ext hX ne_b1_b2
 have hsx25_31 := SlT.over hsx25_30 hX (fun _ => nbo_x25_b2)
 have hsx25_1_31 := SlT.over hsx25_1_30 hX (fun _ => nbo_x25_1_b2)
 have hsx25_2_31 := SlT.over hsx25_2_30 hX (fun _ => nbo_x25_2_b2)
 have hsx25_3_31 := SlT.over hsx25_3_30 hX (fun _ => nbo_x25_3_b2)
 have hsx26_3_31 := SlT.over hsx26_3_30 hX (fun _ => nbo_x26_3_b2)
 have hox25_31 := OwnT.ext hox25_30 hX (fun k hk e => nbo_x25_b2 (e ▸ hk))
 have hox25_1_31 := OwnT.ext hox25_1_30 hX (fun k hk e => nbo_x25_1_b2 (e ▸ hk))
 have hox25_2_31 := OwnT.ext hox25_2_30 hX (fun k hk e => nbo_x25_2_b2 (e ▸ hk))
 have hox25_3_31 := OwnT.ext hox25_3_30 hX (fun k hk e => nbo_x25_3_b2 (e ▸ hk))
 have hox26_3_31 := OwnT.ext hox26_3_30 hX (fun k hk e => nbo_x26_3_b2 (e ▸ hk))
 clear hX hz hE_30 hbb1_30 hbb2_30 hsx25_30 hsx25_1_30 hsx25_2_30 hsx25_3_30 hsx26_3_30 hox25_30 hox25_1_30 hox25_2_30 hox25_3_30 hox26_3_30
 refine tail_nil ?_
 refine wp_ret ?_
 refine res_one (V := Dg.val (pair (of ((([104] : List UInt8)) ++ (wbytes (((([(UInt64.ofNat ((u64of (z.size) : UInt64).toNat % (4294967296 : UInt64).toNat)).toUInt32, (UInt64.ofNat ((u64of (z.size) : UInt64).toNat / (4294967296 : UInt64).toNat)).toUInt32] ++ [(z.root).a]) ++ [(z.root).b]) ++ [(z.root).c]) ++ [(z.root).d])))) (of (([104, 101, 97, 100] : List UInt8))))) rfl hD_30 (ResIs.cell s2_30 hbb2_31 row_27 rfl rfl) ?_
 exact ⟨by show Dg.val _ = Dg.val _; rw [rem64]; rfl, hE_31⟩

end Go.Proofs.YtijfjpbahepegaaDoor
