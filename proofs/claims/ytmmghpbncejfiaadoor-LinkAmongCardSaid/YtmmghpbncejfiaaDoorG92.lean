/- The walks of functions of the program: printed. -/
import Derived.Test.YtmmghpbncejfiaaDoorKB
import Derived.Test.YtmmghpbncejfiaaDoorG4
import Derived.Test.YtmmghpbncejfiaaDoorG6
import Derived.Test.YtmmghpbncejfiaaDoorF0
set_option maxRecDepth 100000
namespace Go.Proofs.YtmmghpbncejfiaaDoor
open Go Go.RowKit Sk Sd
theorem seed1 (seed : Dg) (u : UInt32) (i bq : Nat) (w0 : World) (hL : Laid w0) (hb0 : ¬ (0 = bq)) (hbq : Has w0 bq 112 [w32 seed.a, w32 seed.b, w32 seed.c, w32 seed.d, w32 (u)]) :
    GivesW Tryd.prog 77 #[i64 (i : Int), Value.pointer (some ⟨bq, 0, none⟩)] w0 bq (Dg.val (seedAt seed i)) (fun w => Has w bq 112 [w32 seed.a, w32 seed.b, w32 seed.c, w32 seed.d, w32 (UInt32.ofNat i)]) := by
 refine enter (N := 11) Tryd.func77 rfl rfl ?_
 intro a0 N0 D0 hA
 have s0_0 : get a0 0 = i64 (i : Int) := hA 0 _ rfl
 have s1_0 : get a0 1 = Value.pointer (some ⟨bq, 0, none⟩) := hA 1 _ rfl
 clear hA
 have E0 : ExtE (fun k => k = bq) w0 w0 := ExtE.refl _ _
 refine wp_seq ?_
 refine Rl [3] [(3, Pr.box' w0.heap.size 24 [w32 (Dg.zero).a, w32 (Dg.zero).b, w32 (Dg.zero).c, w32 (Dg.zero).d])] 1 N0 D0 ?_ ?_
 refine Ac ?_ (Az _)
 refine Ask.fresh rfl rfl ?_
 intro aq wq hNq hO hR hT
 exact does_alloc zero_24 (fun b w2 he hlo hb => ⟨he, ⟨b, rfl, Nat.le_trans hR.size' hlo, hb⟩, ⟨b, rfl, hlo, hb.lt⟩⟩)
 intro a1 wd1 N1 D1 hO hR hA hU
 obtain ⟨t3, _⟩ := hA
 have E1 := E0.trans hR.toE
 have s0_1 := oT hO s0_0 rfl
 have s1_1 := oT hO s1_0 rfl
 have hbbq_1 := hbq.ext' hR
 obtain ⟨b3, s3_1, lo_b3, B3_1⟩ := t3
 have ne_bq_b3 := Hl hbq lo_b3
 have fr_b3 : w0.heap.size ≤ b3 := Nat.le_trans E0.size' lo_b3
 clear E0 N0 D0 s0_0 s1_0 hbq
 refine tail_nil ?_
 refine wp_seq ?_
 refine Rl [] [(4, Pr.ex (i64 (i : Int))), (5, Pr.ex (w32 (UInt32.ofNat i))), (6, Pr.ex (Value.pointer (some ⟨bq, 4, none⟩)))] 3 N1 D1 ?_ ?_
 refine Ac ?_ (Ac ?_ (Ac ?_ (Az _)))
 exact Am s0_1 rfl fun _ => rfl
 exact Ap fun aq wq _ hO hR hT => does_conv ⟨_, Tryd.underlying3⟩ Tryd.underlying22 (hT 4 rfl rfl) (wrap_u32 _) eR
 exact Ap fun aq wq _ hO hR hT => does_indexArr (k := .i64) (i := 4) (o' := 4) arr_112 (oT hO s1_1 rfl) rfl (by decide) (by decide) rfl eR
 intro a2 wd2 N2 D2 hO hR hA hU
 obtain ⟨_, t5, t6, _⟩ := hA
 have E2 := E1.trans hR.toE
 have s1_2 := oT hO s1_1 rfl
 have s3_2 := oT hO s3_1 rfl
 have hbbq_2 := hbbq_1.ext' hR
 have B3_2 := B3_1.ext' hR
 have s5_2 : get a2 5 = w32 (UInt32.ofNat i) := t5
 have s6_2 : get a2 6 = Value.pointer (some ⟨bq, 4, none⟩) := t6
 clear E1 N1 D1 s0_1 s1_1 s3_1 hbbq_1 B3_1
 refine tail_none rfl rfl (does_storeD (o := 4) (n := 1) (cs' := [w32 (seed.a), w32 (seed.b), w32 (seed.c), w32 (seed.d), w32 (UInt32.ofNat i)]) (V := w32 (UInt32.ofNat i)) s6_2 s5_2 hbbq_2 (nB rfl) rfl siz_22 rfl rfl (fun wd3 hX hz hbbq_3 => ?_))
 have E3 := E2.trans hX
 have B3_3 := B3_2.ext hX ne_bq_b3.symm
 clear hX hz E2 hbbq_2 B3_2
 refine tail_nil ?_
 refine wp_seq ?_
 refine Rl [] [(7, Pr.ex (Value.slice (some ⟨bq, 0, none⟩) 5 5)), (8, Pr.ex (str (wbytes [seed.a, seed.b, seed.c, seed.d, UInt32.ofNat i]))), (9, Pr.ex (str ((([107] : List UInt8)) ++ (wbytes [seed.a, seed.b, seed.c, seed.d, UInt32.ofNat i])))), (10, Pr.ex (Dg.val (of ((([107] : List UInt8)) ++ (wbytes [seed.a, seed.b, seed.c, seed.d, UInt32.ofNat i])))))] 4 N2 D2 ?_ ?_
 refine Ac ?_ (Ac ?_ (Ac ?_ (Ac ?_ (Az _))))
 exact Ap fun aq wq _ hO hR hT => does_arrAll arr_112 (oT hO s1_2 rfl) eR
 exact Ap fun aq wq _ hO hR hT => does_ret (vs := #[Value.slice (some ⟨bq, 0, none⟩) 5 5]) call_20 (args1 (hT 7 rfl rfl)) rfl ((bytes_ ([seed.a, seed.b, seed.c, seed.d, UInt32.ofNat i]) (Value.slice (some ⟨bq, 0, none⟩) 5 5) wq ((SlT.ofHas (T := W32) (xs := [seed.a, seed.b, seed.c, seed.d, UInt32.ofNat i]) (hbbq_3.ext' hR) rfl rfl (nB rfl) (nB rfl)).wide (Nat.zero_le _) (.inl rfl)) (nB rfl)).mono fun v w2 h => ⟨h.2, h.1⟩)
 exact Ap fun aq wq _ hO hR hT => does_cat (a := ([107] : List UInt8)) (b := wbytes [seed.a, seed.b, seed.c, seed.d, UInt32.ofNat i]) rfl (hT 8 rfl rfl) (by simp only [List.length_append, List.length_cons, List.length_nil, List.length_replicate, bytes_length]; omega) eR
 exact Ap fun aq wq _ hO hR hT => does_ret (vs := #[str ((([107] : List UInt8)) ++ (wbytes [seed.a, seed.b, seed.c, seed.d, UInt32.ofNat i]))]) call_22 (args1 (hT 9 rfl rfl)) rfl ((of_ ((([107] : List UInt8)) ++ (wbytes [seed.a, seed.b, seed.c, seed.d, UInt32.ofNat i])) wq (Laid.extE hL (E3.trans hR.toE) hb0) (by simp [bytes_length])).mono fun v w2 h => ⟨h.2, h.1⟩)
 intro a4 wd4 N4 D4 hO hR hA hU
 obtain ⟨_, _, _, t10, _⟩ := hA
 have E4 := E3.trans hR.toE
 have s3_4 := oT hO s3_2 rfl
 have hbbq_4 := hbbq_3.ext' hR
 have B3_4 := B3_3.ext' hR
 have s10_4 : get a4 10 = Dg.val (of ((([107] : List UInt8)) ++ (wbytes [seed.a, seed.b, seed.c, seed.d, UInt32.ofNat i]))) := t10
 clear E3 N2 D2 s1_2 s3_2 s5_2 s6_2 hbbq_3 B3_3
 refine tail_none rfl rfl (does_storeD (o := 0) (n := 4) (cs' := [w32 (of ((([107] : List UInt8)) ++ (wbytes [seed.a, seed.b, seed.c, seed.d, UInt32.ofNat i]))).a, w32 (of ((([107] : List UInt8)) ++ (wbytes [seed.a, seed.b, seed.c, seed.d, UInt32.ofNat i]))).b, w32 (of ((([107] : List UInt8)) ++ (wbytes [seed.a, seed.b, seed.c, seed.d, UInt32.ofNat i]))).c, w32 (of ((([107] : List UInt8)) ++ (wbytes [seed.a, seed.b, seed.c, seed.d, UInt32.ofNat i]))).d]) (V := Dg.val (of ((([107] : List UInt8)) ++ (wbytes [seed.a, seed.b, seed.c, seed.d, UInt32.ofNat i])))) s3_4 s10_4 B3_4 (nB rfl) rfl siz_24 rfl rfl (fun wd5 hX hz B3_5 => ?_))
 have E5 := E4.since hX (fun k e => e ▸ fr_b3)
 have hbbq_5 := hbbq_4.ext hX ne_bq_b3
 clear hX hz E4 hbbq_4 B3_4
 refine tail_nil ?_
 refine wp_ret ?_
 refine res_one (V := Dg.val (of ((([107] : List UInt8)) ++ (wbytes [seed.a, seed.b, seed.c, seed.d, UInt32.ofNat i])))) rfl D4 (ResIs.cell s3_4 B3_5 row_24 rfl rfl) ?_
 exact ⟨rfl, E5, hbbq_5⟩

theorem seeds_ (seed : Dg) (w0 : World) :
    Gives Tryd.prog 51 #[Dg.val (seed)] w0 (Pr.fn 77 w0.heap.size 112 [w32 seed.a, w32 seed.b, w32 seed.c, w32 seed.d, w32 (0)]) := by
 refine enter (N := 8) Tryd.func51 rfl rfl ?_
 intro a0 N0 D0 hA
 have s0_0 : get a0 0 = Dg.val (seed) := hA 0 _ rfl
 clear hA
 have E0 : Ext w0 w0 := Ext.refl w0
 refine wp_seq ?_
 refine Rl [1] [(1, Pr.box' w0.heap.size 24 [w32 (seed).a, w32 (seed).b, w32 (seed).c, w32 (seed).d]), (2, Pr.ex (Value.nilFunc))] 2 N0 D0 ?_ ?_
 refine Ac ?_ (Ac ?_ (Az _))
 refine Ask.fresh rfl rfl ?_
 intro aq wq hNq hO hR hT
 exact does_box (V := Dg.val (seed)) (oT hO s0_0 rfl) (fun b w2 he hlo hb => ⟨he, ⟨b, rfl, Nat.le_trans hR.size' hlo, hb⟩, ⟨b, rfl, hlo, hb.lt⟩⟩)
 exact Ap fun aq wq _ hO hR hT => does_assign (V := Value.nilFunc) rfl eR
 intro a1 wd1 N1 D1 hO hR hA hU
 obtain ⟨t1, _, _⟩ := hA
 have E1 := E0.trans hR
 obtain ⟨b1, s1_1, lo_b1, B1_1⟩ := t1
 have fr_b1 : w0.heap.size ≤ b1 := Nat.le_trans E0.size' lo_b1
 clear E0 N0 D0 s0_0
 refine tail_nil ?_
 refine wp_seq ?_
 refine Rl [3] [(3, Pr.box' wd1.heap.size 112 [w32 (0), w32 (0), w32 (0), w32 (0), w32 (0)])] 1 N1 D1 ?_ ?_
 refine Ac ?_ (Az _)
 refine Ask.fresh rfl rfl ?_
 intro aq wq hNq hO hR hT
 exact does_alloc zero_112 (fun b w2 he hlo hb => ⟨he, ⟨b, rfl, Nat.le_trans hR.size' hlo, hb⟩, ⟨b, rfl, hlo, hb.lt⟩⟩)
 intro a2 wd2 N2 D2 hO hR hA hU
 obtain ⟨t3, _⟩ := hA
 have E2 := E1.trans hR
 have s1_2 := oT hO s1_1 rfl
 have B1_2 := B1_1.ext' hR
 obtain ⟨b3, s3_2, lo_b3, B3_2⟩ := t3
 have ne_b1_b3 := Hl B1_1 lo_b3
 have fr_b3 : w0.heap.size ≤ b3 := Nat.le_trans E1.size' lo_b3
 clear E1 N1 D1 s1_1 B1_1
 refine tail_nil ?_
 refine wp_seq ?_
 refine Ra [] [(4, Pr.ex (Value.slice (some ⟨b3, 0, none⟩) 5 5)), (5, Pr.ex (Value.slice (some ⟨b1, 0, none⟩) 4 4))] 2 mixed N2 D2 ?_ ?_
 refine Ac ?_ (Ac ?_ (Az _))
 exact Ad fun aq wq _ hO hR hT => does_arrAll arr_112 (oT hO s3_2 rfl) eR
 exact Ad fun aq wq _ hO hR hT => does_arrAll arr_24 (oT hO s1_2 rfl) eR
 intro a3 wd3 N3 D3 hO hR hA hU
 obtain ⟨t4, t5, _⟩ := hA
 have E3 := E2.trans hR
 have s3_3 := oT hO s3_2 rfl
 have B1_3 := B1_2.ext' hR
 have B3_3 := B3_2.ext' hR
 have s4_3 : get a3 4 = Value.slice (some ⟨b3, 0, none⟩) 5 5 := t4
 have s5_3 : get a3 5 = Value.slice (some ⟨b1, 0, none⟩) 4 4 := t5
 clear E2 N2 D2 s1_2 s3_2 B1_2 B3_2
 refine tail_put rfl rfl N3 D3 (by decide) (does_copyArr (out := [w32 (seed).a, w32 (seed).b, w32 (seed).c, w32 (seed).d, w32 (0)]) Tryd.underlying58 siz_22 s4_3 s5_3 B3_3 B1_3 (by decide) rfl (by decide) rfl rfl (fun wd4 hX hz B3_4 => fun a4 N4 D4 hv hO => ?_))
 have E4 := E3.since hX (fun k e => e ▸ fr_b3)
 have B1_4 := B1_3.ext hX ne_b1_b3
 have s6_4 := hv
 have s3_4 := oT hO s3_3 rfl
 clear hO hv hX hz E3 N3 D3 B1_3 B3_3 s3_3 s4_3 s5_3
 refine tail_nil ?_
 refine wp_seq ?_
 refine Rl [] [(7, Pr.ex (Value.func (.func 77) #[] #[Value.pointer (some ⟨b3, 0, none⟩)])), (2, Pr.ex (Value.func (.func 77) #[] #[Value.pointer (some ⟨b3, 0, none⟩)]))] 2 N4 D4 ?_ ?_
 refine Ac ?_ (Ac ?_ (Az _))
 exact Ap fun aq wq _ hO hR hT => does_makeFunc (vs := #[Value.pointer (some ⟨b3, 0, none⟩)]) (args1 (oT hO s3_4 rfl)) eR
 exact Ap fun aq wq _ hO hR hT => does_assign (V := Value.func (.func 77) #[] #[Value.pointer (some ⟨b3, 0, none⟩)]) (hT 7 rfl rfl) eR
 intro a5 wd5 N5 D5 hO hR hA hU
 obtain ⟨_, t2, _⟩ := hA
 have E5 := E4.trans hR
 have B1_5 := B1_4.ext' hR
 have B3_5 := B3_4.ext' hR
 have s2_5 : get a5 2 = Value.func (.func 77) #[] #[Value.pointer (some ⟨b3, 0, none⟩)] := t2
 clear E4 N4 D4 s3_4 s6_4 B1_4 B3_4
 refine tail_nil ?_
 refine wp_ret ?_
 refine res_one (V := Value.func (.func 77) #[] #[Value.pointer (some ⟨b3, 0, none⟩)]) rfl D5 s2_5 ?_
 exact ⟨⟨_, rfl, fr_b3, B3_5⟩, E5⟩

end Go.Proofs.YtmmghpbncejfiaaDoor
