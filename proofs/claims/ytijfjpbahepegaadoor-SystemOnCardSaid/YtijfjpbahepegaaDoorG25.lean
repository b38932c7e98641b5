/- The walks of functions of the program: printed. -/
import Derived.Test.YtijfjpbahepegaaDoorG20
import Derived.Test.YtijfjpbahepegaaDoorG21
import Derived.Test.YtijfjpbahepegaaDoorG23
import Derived.Test.YtijfjpbahepegaaDoorG24
import Derived.Test.YtijfjpbahepegaaDoorF0
set_option maxRecDepth 100000
namespace Go.Proofs.YtijfjpbahepegaaDoor
open Go Go.RowKit Sk Sd
theorem checkOn_ (old : Dg) (m : Int) (r : Dg) (n : Int) (l : List Dg) (x1 : Value) (w0 : World) (hL : Laid w0) (hx1 : SlT DG 0 0 l x1 w0) (hn : l.length ≤ 100000) :
    Gives Tryd.prog 52 #[Dg.val (old), i64 (m), Dg.val (r), i64 (n), x1] w0 (Pr.ex (Value.bool (checksOn old m r n l))) := by
 refine enter (N := 55) Tryd.func52 rfl rfl ?_
 intro a0 hN_0 hD_0 hA
 have s0_0 : get a0 0 = Dg.val (old) := hA 0 _ rfl
 have s1_0 : get a0 1 = i64 (m) := hA 1 _ rfl
 have s2_0 : get a0 2 = Dg.val (r) := hA 2 _ rfl
 have s3_0 : get a0 3 = i64 (n) := hA 3 _ rfl
 have s4_0 : get a0 4 = x1 := hA 4 _ rfl
 clear hA
 have hE_0 : Ext w0 w0 := Ext.refl w0
 have hw0 := Laid.pos hL
 have hsx1_0 := hx1.close
 refine wp_seq ?_
 refine region_lex [5, 7] [(5, Pr.box' w0.heap.size 27 [w32 (old).a, w32 (old).b, w32 (old).c, w32 (old).d]), (7, Pr.box' w0.heap.size 27 [w32 (r).a, w32 (r).b, w32 (r).c, w32 (r).d]), (10, Pr.ex (Value.bool (false)))] 3 hN_0 hD_0 (by kernel_rfl) (by kernel_rfl) ?_ ?_
 refine Asks.cons ?_ (Asks.cons ?_ (Asks.cons ?_ (Asks.zero _)))
 refine Ask.fresh rfl rfl ?_
 intro aq wq hNq hO hR hT
 exact does_box (V := Dg.val (old)) ((hO 0 rfl).trans s0_0) (fun b w2 he hlo hb => ⟨he, ⟨b, rfl, Nat.le_trans hR.size' hlo, hb⟩, ⟨b, rfl, hlo, hb.lt⟩⟩)
 refine Ask.fresh rfl rfl ?_
 intro aq wq hNq hO hR hT
 exact does_box (V := Dg.val (r)) ((hO 2 rfl).trans s2_0) (fun b w2 he hlo hb => ⟨he, ⟨b, rfl, Nat.le_trans hR.size' hlo, hb⟩, ⟨b, rfl, hlo, hb.lt⟩⟩)
 exact Ask.plain rfl rfl fun aq wq hNq hO hR hT => does_assign (V := Value.bool (false)) rfl ⟨Ext.refl _, rfl⟩
 intro a1 wd1 hN_1 hD_1 hO hR hA hU
 obtain ⟨t5, t7, _, _⟩ := hA
 have hE_1 := hE_0.trans hR
 have s1_1 := (hO 1 rfl).trans s1_0
 have s3_1 := (hO 3 rfl).trans s3_0
 have s4_1 := (hO 4 rfl).trans s4_0
 have hsx1_1 := hsx1_0.ext' hR
 obtain ⟨b5, s5_1, lo_b5, hbb5_1⟩ := t5
 have nb_x1_b5 := SlT.old hsx1_0 lo_b5
 have fr_b5 : w0.heap.size ≤ b5 := Nat.le_trans hE_0.size' lo_b5
 obtain ⟨b7, s7_1, lo_b7, hbb7_1⟩ := t7
 have nb_x1_b7 := SlT.old hsx1_0 lo_b7
 have fr_b7 : w0.heap.size ≤ b7 := Nat.le_trans hE_0.size' lo_b7
 obtain ⟨u0, ⟨u1, _⟩⟩ := hU
 have ne_b5_b7 : b5 ≠ b7 := fun e => u0 7 (by decide) (by rw [s5_1, s7_1, e])
 clear hE_0 hN_0 hD_0 s0_0 s1_0 s2_0 s3_0 s4_0 hsx1_0
 refine tail_nil ?_
 refine wp_seq ?_
 refine wp_seq ?_
 refine region_lex [] [(14, Pr.ex (i64 (n))), (15, Pr.ex (Value.bool (decide (((1000 : Nat) : Int) < n)))), (16, Pr.ex (Value.bool (decide (((1000 : Nat) : Int) < n)))), (17, Pr.ifb (!(decide (((1000 : Nat) : Int) < n))) (Pr.ex (i64 (m)))), (18, Pr.ifb (!(decide (((1000 : Nat) : Int) < n))) (Pr.ex (Value.bool (decide (m < ((1 : Nat) : Int)))))), (19, Pr.ex (Value.bool ((decide (((1000 : Nat) : Int) < n)) || (decide (m < ((1 : Nat) : Int)))))), (20, Pr.ex (Value.bool ((decide (((1000 : Nat) : Int) < n)) || (decide (m < ((1 : Nat) : Int)))))), (21, Pr.ifb (!((decide (((1000 : Nat) : Int) < n)) || (decide (m < ((1 : Nat) : Int))))) (Pr.ex (i64 (m)))), (22, Pr.ifb (!((decide (((1000 : Nat) : Int) < n)) || (decide (m < ((1 : Nat) : Int))))) (Pr.ex (i64 (n)))), (23, Pr.ifb (!((decide (((1000 : Nat) : Int) < n)) || (decide (m < ((1 : Nat) : Int))))) (Pr.ex (Value.bool (decide (n < m))))), (24, Pr.ex (Value.bool (((decide (((1000 : Nat) : Int) < n)) || (decide (m < ((1 : Nat) : Int)))) || (decide (n < m))))), (25, Pr.ex (Value.bool (((decide (((1000 : Nat) : Int) < n)) || (decide (m < ((1 : Nat) : Int)))) || (decide (n < m))))), (26, Pr.ifb (!(((decide (((1000 : Nat) : Int) < n)) || (decide (m < ((1 : Nat) : Int)))) || (decide (n < m)))) (Pr.ex (x1))), (27, Pr.ifb (!(((decide (((1000 : Nat) : Int) < n)) || (decide (m < ((1 : Nat) : Int)))) || (decide (n < m)))) (Pr.ex (i64 ((l.length : Nat) : Int)))), (28, Pr.ifb (!(((decide (((1000 : Nat) : Int) < n)) || (decide (m < ((1 : Nat) : Int)))) || (decide (n < m)))) (Pr.ex (i64 (n)))), (29, Pr.ifb (!(((decide (((1000 : Nat) : Int) < n)) || (decide (m < ((1 : Nat) : Int)))) || (decide (n < m)))) (Pr.ex (Value.bool (decide (n < ((l.length : Nat) : Int)))))), (30, Pr.ex (Value.bool ((((decide (((1000 : Nat) : Int) < n)) || (decide (m < ((1 : Nat) : Int)))) || (decide (n < m))) || (decide (n < ((l.length : Nat) : Int))))))] 17 hN_1 hD_1 (by kernel_rfl) (by kernel_rfl) ?_ ?_
 refine Asks.cons ?_ (Asks.cons ?_ (Asks.cons ?_ (Asks.cons ?_ (Asks.cons ?_ (Asks.cons ?_ (Asks.cons ?_ (Asks.cons ?_ (Asks.cons ?_ (Asks.cons ?_ (Asks.cons ?_ (Asks.cons ?_ (Asks.cons ?_ (Asks.cons ?_ (Asks.cons ?_ (Asks.cons ?_ (Asks.cons ?_ (Asks.zero _)))))))))))))))))
 exact Ask.plain rfl rfl fun aq wq hNq hO hR hT => does_move (V := i64 (n)) ((hO 3 rfl).trans s3_1) ⟨Ext.refl _, rfl⟩
 exact Ask.plain rfl rfl fun aq wq hNq hO hR hT => does_gtr (a := n) (b := ((1000 : Nat) : Int)) (hT 14 rfl rfl) rfl ⟨Ext.refl _, rfl⟩
 exact Ask.plain rfl rfl fun aq wq hNq hO hR hT => does_move (V := Value.bool (decide (((1000 : Nat) : Int) < n))) (hT 15 rfl rfl) ⟨Ext.refl _, rfl⟩
 refine Ask.guarded (B := decide (((1000 : Nat) : Int) < n)) (want := false) (t := 16) rfl rfl rfl rfl (by decide) (fun aq wq hO hR hT => hT 16 rfl rfl) (fun hG aq wq hNq hO hR hT => ?_) (fun hno _ => fun hc => absurd (bn hc) hno)
 replace hG := nb hG
 exact does_move (V := i64 (m)) ((hO 1 rfl).trans s1_1) ⟨Ext.refl _, fun _ => rfl⟩
 refine Ask.guarded (B := decide (((1000 : Nat) : Int) < n)) (want := false) (t := 16) rfl rfl rfl rfl (by decide) (fun aq wq hO hR hT => hT 16 rfl rfl) (fun hG aq wq hNq hO hR hT => ?_) (fun hno _ => fun hc => absurd (bn hc) hno)
 replace hG := nb hG
 exact does_lss (a := m) (b := ((1 : Nat) : Int)) (hT 17 rfl rfl hG) rfl ⟨Ext.refl _, fun _ => rfl⟩
 exact Ask.plain rfl rfl fun aq wq hNq hO hR hT => does_or (B := decide (((1000 : Nat) : Int) < n)) (X := decide (m < ((1 : Nat) : Int))) (hT 16 rfl rfl) rfl (fun hB => (hT 18 rfl rfl (nb hB))) ⟨Ext.refl _, rfl⟩
 exact Ask.plain rfl rfl fun aq wq hNq hO hR hT => does_move (V := Value.bool ((decide (((1000 : Nat) : Int) < n)) || (decide (m < ((1 : Nat) : Int))))) (hT 19 rfl rfl) ⟨Ext.refl _, rfl⟩
 refine Ask.guarded (B := (decide (((1000 : Nat) : Int) < n)) || (decide (m < ((1 : Nat) : Int)))) (want := false) (t := 20) rfl rfl rfl rfl (by decide) (fun aq wq hO hR hT => hT 20 rfl rfl) (fun hG aq wq hNq hO hR hT => ?_) (fun hno _ => fun hc => absurd (bn hc) hno)
 replace hG := nb hG
 exact does_move (V := i64 (m)) ((hO 1 rfl).trans s1_1) ⟨Ext.refl _, fun _ => rfl⟩
 refine Ask.guarded (B := (decide (((1000 : Nat) : Int) < n)) || (decide (m < ((1 : Nat) : Int)))) (want := false) (t := 20) rfl rfl rfl rfl (by decide) (fun aq wq hO hR hT => hT 20 rfl rfl) (fun hG aq wq hNq hO hR hT => ?_) (fun hno _ => fun hc => absurd (bn hc) hno)
 replace hG := nb hG
 exact does_move (V := i64 (n)) ((hO 3 rfl).trans s3_1) ⟨Ext.refl _, fun _ => rfl⟩
 refine Ask.guarded (B := (decide (((1000 : Nat) : Int) < n)) || (decide (m < ((1 : Nat) : Int)))) (want := false) (t := 20) rfl rfl rfl rfl (by decide) (fun aq wq hO hR hT => hT 20 rfl rfl) (fun hG aq wq hNq hO hR hT => ?_) (fun hno _ => fun hc => absurd (bn hc) hno)
 replace hG := nb hG
 exact does_gtr (a := m) (b := n) (hT 21 rfl rfl hG) (hT 22 rfl rfl hG) ⟨Ext.refl _, fun _ => rfl⟩
 exact Ask.plain rfl rfl fun aq wq hNq hO hR hT => does_or (B := (decide (((1000 : Nat) : Int) < n)) || (decide (m < ((1 : Nat) : Int)))) (X := decide (n < m)) (hT 20 rfl rfl) rfl (fun hB => (hT 23 rfl rfl (nb hB))) ⟨Ext.refl _, rfl⟩
 exact Ask.plain rfl rfl fun aq wq hNq hO hR hT => does_move (V := Value.bool (((decide (((1000 : Nat) : Int) < n)) || (decide (m < ((1 : Nat) : Int)))) || (decide (n < m)))) (hT 24 rfl rfl) ⟨Ext.refl _, rfl⟩
 refine Ask.guarded (B := ((decide (((1000 : Nat) : Int) < n)) || (decide (m < ((1 : Nat) : Int)))) || (decide (n < m))) (want := false) (t := 25) rfl rfl rfl rfl (by decide) (fun aq wq hO hR hT => hT 25 rfl rfl) (fun hG aq wq hNq hO hR hT => ?_) (fun hno _ => fun hc => absurd (bn hc) hno)
 replace hG := nb hG
 exact does_move (V := x1) ((hO 4 rfl).trans s4_1) ⟨Ext.refl _, fun _ => rfl⟩
 refine Ask.guarded (B := ((decide (((1000 : Nat) : Int) < n)) || (decide (m < ((1 : Nat) : Int)))) || (decide (n < m))) (want := false) (t := 25) rfl rfl rfl rfl (by decide) (fun aq wq hO hR hT => hT 25 rfl rfl) (fun hG aq wq hNq hO hR hT => ?_) (fun hno _ => fun hc => absurd (bn hc) hno)
 replace hG := nb hG
 exact does_len (T := DG) (xs := l) sli_41 (SlT.at (hT 26 rfl rfl hG) (hsx1_1.ext' hR)) ⟨Ext.refl _, fun _ => rfl⟩
 refine Ask.guarded (B := ((decide (((1000 : Nat) : Int) < n)) || (decide (m < ((1 : Nat) : Int)))) || (decide (n < m))) (want := false) (t := 25) rfl rfl rfl rfl (by decide) (fun aq wq hO hR hT => hT 25 rfl rfl) (fun hG aq wq hNq hO hR hT => ?_) (fun hno _ => fun hc => absurd (bn hc) hno)
 replace hG := nb hG
 exact does_move (V := i64 (n)) ((hO 3 rfl).trans s3_1) ⟨Ext.refl _, fun _ => rfl⟩
 refine Ask.guarded (B := ((decide (((1000 : Nat) : Int) < n)) || (decide (m < ((1 : Nat) : Int)))) || (decide (n < m))) (want := false) (t := 25) rfl rfl rfl rfl (by decide) (fun aq wq hO hR hT => hT 25 rfl rfl) (fun hG aq wq hNq hO hR hT => ?_) (fun hno _ => fun hc => absurd (bn hc) hno)
 replace hG := nb hG
 exact does_gtr (a := ((l.length : Nat) : Int)) (b := n) (hT 27 rfl rfl hG) (hT 28 rfl rfl hG) ⟨Ext.refl _, fun _ => rfl⟩
 exact Ask.plain rfl rfl fun aq wq hNq hO hR hT => does_or (B := ((decide (((1000 : Nat) : Int) < n)) || (decide (m < ((1 : Nat) : Int)))) || (decide (n < m))) (X := decide (n < ((l.length : Nat) : Int))) (hT 25 rfl rfl) rfl (fun hB => (hT 29 rfl rfl (nb hB))) ⟨Ext.refl _, rfl⟩
 intro a2 wd2 hN_2 hD_2 hO hR hA hU
 obtain ⟨_, _, _, _, _, _, _, _, _, _, _, _, _, _, _, _, t30, _⟩ := hA
 have hE_2 := hE_1.trans hR
 have s1_2 := (hO 1 rfl).trans s1_1
 have s3_2 := (hO 3 rfl).trans s3_1
 have s4_2 := (hO 4 rfl).trans s4_1
 have s5_2 := (hO 5 rfl).trans s5_1
 have s7_2 := (hO 7 rfl).trans s7_1
 have hbb5_2 := hbb5_1.ext' hR
 have hbb7_2 := hbb7_1.ext' hR
 have hsx1_2 := hsx1_1.ext' hR
 have s30_2 : get a2 30 = Value.bool ((((decide (((1000 : Nat) : Int) < n)) || (decide (m < ((1 : Nat) : Int)))) || (decide (n < m))) || (decide (n < ((l.length : Nat) : Int)))) := t30
 clear hE_1 hN_1 hD_1 s1_1 s3_1 s4_1 s5_1 s7_1 hbb5_1 hbb7_1 hsx1_1
 refine tail_nil ?_
 refine wp_if (B := (((decide (((1000 : Nat) : Int) < n)) || (decide (m < ((1 : Nat) : Int)))) || (decide (n < m))) || (decide (n < ((l.length : Nat) : Int)))) s30_2 (fun hc0 => ?_) (fun hc0 => ?_)
 have hb := or4 hc0
 refine wp_seq ?_
 refine region_lex [] [(10, Pr.ex (Value.bool (false)))] 1 hN_2 hD_2 (by kernel_rfl) (by kernel_rfl) ?_ ?_
 refine Asks.cons ?_ (Asks.zero _)
 exact Ask.plain rfl rfl fun aq wq hNq hO hR hT => does_assign (V := Value.bool (false)) rfl ⟨Ext.refl _, rfl⟩
 intro a3 wd3 hN_3 hD_3 hO hR hA hU
 obtain ⟨t10, _⟩ := hA
 have hE_3 := hE_2.trans hR
 have hbb5_3 := hbb5_2.ext' hR
 have hbb7_3 := hbb7_2.ext' hR
 have hsx1_3 := hsx1_2.ext' hR
 have s10_3 : get a3 10 = Value.bool (false) := t10
 clear hE_2 hN_2 hD_2 s1_2 s3_2 s4_2 s5_2 s7_2 s30_2 hbb5_2 hbb7_2 hsx1_2
 refine tail_nil ?_
 refine wp_ret ?_
 refine res_one (V := Value.bool (false)) rfl hD_3 s10_3 ?_
 exact ⟨by show Value.bool _ = Value.bool _; rw [checkOn_wrong (fun h => by omega)], hE_3⟩
 obtain ⟨hb1, hb2, hb3, hb4⟩ := nor4 hc0
 have hb : n ≤ 1000 ∧ 1 ≤ m ∧ m ≤ n := ⟨by omega, by omega, by omega⟩
 refine wp_skip ?_
 refine wp_seq ?_
 refine region_lex [] [(31, Pr.ex (x1)), (32, Pr.own' DG wd2.heap.size 27 (l)), (33, Pr.ag (fun x => Value.agg #[x, Value.bool (true)]) (Pr.own' DG wd2.heap.size 27 (l)))] 3 hN_2 hD_2 (by kernel_rfl) (by kernel_rfl) ?_ ?_
 refine Asks.cons ?_ (Asks.cons ?_ (Asks.cons ?_ (Asks.zero _)))
 exact Ask.plain rfl rfl fun aq wq hNq hO hR hT => does_move (V := x1) ((hO 4 rfl).trans s4_2) ⟨Ext.refl _, rfl⟩
 exact Ask.plain rfl rfl fun aq wq hNq hO hR hT => does_ret (vs := #[x1]) call_69 (args1 (hT 31 rfl rfl)) rfl ((clone_ (l) (x1) wq ((hsx1_2.ext' hR).wide (Nat.zero_le _) (.inl rfl)) (by omega)).mono fun v w2 h => ⟨h.2, OwnT.base h.1 hR.size'⟩)
 exact Ask.plain rfl rfl fun aq wq hNq hO hR hT => does_build (vs := #[(0, get aq 32), (1, Value.bool (true))]) (V := Value.agg #[get aq 32, Value.bool (true)]) (parts2 rfl rfl) (by obtain ⟨sa0, sc0, hv0, _⟩ := (OwnT.sl (hT 32 rfl rfl)); rw [hv0]; kernel_rfl) ⟨Ext.refl _, ⟨get aq 32, rfl, (hT 32 rfl rfl)⟩⟩
 intro a4 wd4 hN_4 hD_4 hO hR hA hU
 obtain ⟨_, _, t33, _⟩ := hA
 have hE_4 := hE_2.trans hR
 have s1_4 := (hO 1 rfl).trans s1_2
 have s3_4 := (hO 3 rfl).trans s3_2
 have s5_4 := (hO 5 rfl).trans s5_2
 have s7_4 := (hO 7 rfl).trans s7_2
 have hbb5_4 := hbb5_2.ext' hR
 have hbb7_4 := hbb7_2.ext' hR
 have hsx1_4 := hsx1_2.ext' hR
 obtain ⟨x33_0_4, s33_4, ky33_0_4⟩ := t33
 replace ky33_0_4 : OwnT DG wd2.heap.size 27 (l) x33_0_4 wd4 := ky33_0_4
 have nbo_x33_0_4_b5 : x33_0_4.ownBlock ≠ some b5 := fun e => Nat.lt_irrefl _ (Nat.lt_of_lt_of_le hbb5_2.lt (OwnT.block_lt ky33_0_4 e).1)
 have nbo_x33_0_4_b7 : x33_0_4.ownBlock ≠ some b7 := fun e => Nat.lt_irrefl _ (Nat.lt_of_lt_of_le hbb7_2.lt (OwnT.block_lt ky33_0_4 e).1)
 have hsx33_0_4_4 := ky33_0_4.sl.wide (Nat.zero_le _) (.inl rfl)
 have hox33_0_4_4 := OwnT.base ky33_0_4 hE_2.size'
 clear hE_2 hN_2 hD_2 s1_2 s3_2 s4_2 s5_2 s7_2 s30_2 hbb5_2 hbb7_2 hsx1_2
 refine tail_put rfl rfl hN_4 hD_4 (by decide) (does_box (V := Value.agg #[x33_0_4, Value.bool (true)]) s33_4 (fun b34 wd5 he lo_b34 hbb34_5 => fun a5 hN_5 hD_5 hv hO => ?_))
 have s34_5 := hv
 have hE_5 := hE_4.trans he
 have hbb5_5 := hbb5_4.ext' he
 have hbb7_5 := hbb7_4.ext' he
 have hsx1_5 := hsx1_4.ext' he
 have hsx33_0_4_5 := hsx33_0_4_4.ext' he
 have hox33_0_4_5 := hox33_0_4_4.ext' he
 have fr_b34 : w0.heap.size ≤ b34 := Nat.le_trans hE_4.size' lo_b34
 have ne_b5_b34 : b5 ≠ b34 := fun e => Nat.lt_irrefl _ (Nat.lt_of_lt_of_le hbb5_4.lt (e ▸ lo_b34))
 have ne_b7_b34 : b7 ≠ b34 := fun e => Nat.lt_irrefl _ (Nat.lt_of_lt_of_le hbb7_4.lt (e ▸ lo_b34))
 have nb_x1_b34 := SlT.old hsx1_4 lo_b34
 have nb_x33_0_4_b34 := SlT.old hsx33_0_4_4 lo_b34
 have nbo_x33_0_4_b34 : x33_0_4.ownBlock ≠ some b34 := fun e => Nat.lt_irrefl _ (Nat.lt_of_lt_of_le (OwnT.block_lt hox33_0_4_4 e).2 lo_b34)
 have s1_5 := (hO 1 rfl).trans s1_4
 have s3_5 := (hO 3 rfl).trans s3_4
 have s5_5 := (hO 5 rfl).trans s5_4
 have s7_5 := (hO 7 rfl).trans s7_4
 clear hO hv hN_4 hD_4 hE_4 hbb5_4 hbb7_4 hsx1_4 hsx33_0_4_4 hox33_0_4_4 s1_4 s3_4 s5_4 s7_4 s33_4
 refine tail_put rfl rfl hN_5 hD_5 (by decide) (does_assign (V := Value.pointer (some ⟨b34, 0, none⟩)) s34_5 (fun a6 hN_6 hD_6 hv hO => ?_))
 have s11_6 := hv
 have s1_6 := (hO 1 rfl).trans s1_5
 have s3_6 := (hO 3 rfl).trans s3_5
 have s5_6 := (hO 5 rfl).trans s5_5
 have s7_6 := (hO 7 rfl).trans s7_5
 clear hO hv hN_5 hD_5 s1_5 s3_5 s5_5 s7_5 s34_5
 refine tail_nil ?_
 refine wp_seq ?_
 refine region_lex [] [(36, Pr.ex (Value.pointer (some ⟨b34, 0, none⟩))), (37, Pr.ex (i64 (m))), (38, Pr.ex (i64 (n))), (39, Pr.ex (Dg.val (old)))] 4 hN_6 hD_6 (by kernel_rfl) (by kernel_rfl) ?_ ?_
 refine Asks.cons ?_ (Asks.cons ?_ (Asks.cons ?_ (Asks.cons ?_ (Asks.zero _))))
 exact Ask.plain rfl rfl fun aq wq hNq hO hR hT => does_move (V := Value.pointer (some ⟨b34, 0, none⟩)) ((hO 11 rfl).trans s11_6) ⟨Ext.refl _, rfl⟩
 exact Ask.plain rfl rfl fun aq wq hNq hO hR hT => does_move (V := i64 (m)) ((hO 1 rfl).trans s1_6) ⟨Ext.refl _, rfl⟩
 exact Ask.plain rfl rfl fun aq wq hNq hO hR hT => does_move (V := i64 (n)) ((hO 3 rfl).trans s3_6) ⟨Ext.refl _, rfl⟩
 exact Ask.plain rfl rfl fun aq wq hNq hO hR hT => does_loadD (o := 0) (n := 4) (mid := [w32 (old).a, w32 (old).b, w32 (old).c, w32 (old).d]) ((hO 5 rfl).trans s5_6) (hbb5_5.ext' hR) rfl rfl (Nat.le_of_ble_eq_true rfl) row_27 rfl ⟨Ext.refl _, rfl⟩
 intro a7 wd7 hN_7 hD_7 hO hR hA hU
 obtain ⟨t36, t37, t38, t39, _⟩ := hA
 have hE_7 := hE_5.trans hR
 have s5_7 := (hO 5 rfl).trans s5_6
 have s7_7 := (hO 7 rfl).trans s7_6
 have s11_7 := (hO 11 rfl).trans s11_6
 have hbb5_7 := hbb5_5.ext' hR
 have hbb7_7 := hbb7_5.ext' hR
 have hbb34_7 := hbb34_5.ext' hR
 have hsx1_7 := hsx1_5.ext' hR
 have hsx33_0_4_7 := hsx33_0_4_5.ext' hR
 have hox33_0_4_7 := hox33_0_4_5.ext' hR
 have s36_7 : get a7 36 = Value.pointer (some ⟨b34, 0, none⟩) := t36
 have s37_7 : get a7 37 = i64 (m) := t37
 have s38_7 : get a7 38 = i64 (n) := t38
 have s39_7 : get a7 39 = Dg.val (old) := t39
 clear hE_5 hN_6 hD_6 s1_6 s3_6 s5_6 s7_6 s11_6 hbb5_5 hbb7_5 hbb34_5 hsx1_5 hsx33_0_4_5 hox33_0_4_5
 obtain ⟨pp8, hpbpp8, hplpp8, hpinpp8⟩ := SlT.pin (b := b34) hsx33_0_4_7 nb_x33_0_4_b34 (fun e => Nat.ne_of_lt (Nat.lt_of_le_of_lt (Nat.zero_le _) (Nat.lt_of_lt_of_le hw0 fr_b34)) e) (Laid.pos (hL.ext hE_7))
 refine tail_put rfl rfl hN_7 hD_7 (by decide) (does_ret (vs := #[Value.pointer (some ⟨b34, 0, none⟩), i64 (m), i64 (n), Value.bool (true), Dg.val (old)]) call_70 (args5 s36_7 s37_7 s38_7 rfl s39_7) rfl ((both_I (m) (n) true old l true b34 pp8 wd7 (hL.ext hE_7) (fun e => Nat.ne_of_lt (Nat.lt_of_le_of_lt (Nat.zero_le _) (Nat.lt_of_lt_of_le hw0 fr_b34)) e) ⟨_, hbb34_7, hpinpp8⟩ hpbpp8 hplpp8 (by omega) (by omega) (by omega) hn).mono fun v wd9 h => fun a9 hN_9 hD_9 hv hO => ?_))
 obtain ⟨hp, hX, hS⟩ := h
 have hE_9 := hE_7.since hX (fun k e => e ▸ fr_b34)
 have hbb5_9 := hbb5_7.ext hX ne_b5_b34
 have hbb7_9 := hbb7_7.ext hX ne_b7_b34
 have hsx1_9 := SlT.over hsx1_7 hX nb_x1_b34
 have hsx33_0_4_9 := SlT.over hsx33_0_4_7 hX nb_x33_0_4_b34
 have hox33_0_4_9 := OwnT.ext hox33_0_4_7 hX (fun k hk e => nbo_x33_0_4_b34 (e ▸ hk))
 obtain ⟨xs9, hbb34_9, hsxs9_9⟩ := hS
 have s40_9 := hv.trans hp
 have s5_9 := (hO 5 rfl).trans s5_7
 have s7_9 := (hO 7 rfl).trans s7_7
 have s11_9 := (hO 11 rfl).trans s11_7
 clear hO hv hp hX hN_7 hD_7 hE_7 hbb5_7 hbb7_7 hbb34_7 hsx1_7 hsx33_0_4_7 hox33_0_4_7 s5_7 s7_7 s11_7 s36_7 s37_7 s38_7 s39_7
 refine tail_put rfl rfl hN_9 hD_9 (by decide) (does_move (V := Value.tuple #[Dg.val ((bothS old (m).toNat (n).toNat true l true).1), Dg.val ((bothS old (m).toNat (n).toNat true l true).2.1)]) s40_9 (fun a10 hN_10 hD_10 hv hO => ?_))
 have s35_10 := hv
 have s5_10 := (hO 5 rfl).trans s5_9
 have s7_10 := (hO 7 rfl).trans s7_9
 have s11_10 := (hO 11 rfl).trans s11_9
 clear hO hv hN_9 hD_9 s5_9 s7_9 s11_9 s40_9
 refine tail_put rfl rfl hN_10 hD_10 (by decide) (does_extract (V := Dg.val ((bothS old (m).toNat (n).toNat true l true).1)) s35_10 rfl (fun a11 hN_11 hD_11 hv hO => ?_))
 have s41_11 := hv
 have s5_11 := (hO 5 rfl).trans s5_10
 have s7_11 := (hO 7 rfl).trans s7_10
 have s11_11 := (hO 11 rfl).trans s11_10
 have s35_11 := (hO 35 rfl).trans s35_10
 clear hO hv hN_10 hD_10 s5_10 s7_10 s11_10 s35_10
 refine tail_put rfl rfl hN_11 hD_11 (by decide) (does_extract (V := Dg.val ((bothS old (m).toNat (n).toNat true l true).2.1)) s35_11 rfl (fun a12 hN_12 hD_12 hv hO => ?_))
 have s42_12 := hv
 have s5_12 := (hO 5 rfl).trans s5_11
 have s7_12 := (hO 7 rfl).trans s7_11
 have s11_12 := (hO 11 rfl).trans s11_11
 have s41_12 := (hO 41 rfl).trans s41_11
 clear hO hv hN_11 hD_11 s5_11 s7_11 s11_11 s35_11 s41_11
 refine tail_put rfl rfl hN_12 hD_12 (by decide) (does_alloc zero_27 (fun b12 wd13 he lo_b12 hbb12_13 => fun a13 hN_13 hD_13 hv hO => ?_))
 have s12_13 := hv
 have hE_13 := hE_9.trans he
 have hbb5_13 := hbb5_9.ext' he
 have hbb7_13 := hbb7_9.ext' he
 have hbb34_13 := hbb34_9.ext' he
 have hsx1_13 := hsx1_9.ext' he
 have hsx33_0_4_13 := hsx33_0_4_9.ext' he
 have hsxs9_13 := hsxs9_9.ext' he
 have hox33_0_4_13 := hox33_0_4_9.ext' he
 have fr_b12 : w0.heap.size ≤ b12 := Nat.le_trans hE_9.size' lo_b12
 have ne_b5_b12 : b5 ≠ b12 := fun e => Nat.lt_irrefl _ (Nat.lt_of_lt_of_le hbb5_9.lt (e ▸ lo_b12))
 have ne_b7_b12 : b7 ≠ b12 := fun e => Nat.lt_irrefl _ (Nat.lt_of_lt_of_le hbb7_9.lt (e ▸ lo_b12))
 have ne_b34_b12 : b34 ≠ b12 := fun e => Nat.lt_irrefl _ (Nat.lt_of_lt_of_le hbb34_9.lt (e ▸ lo_b12))
 have nb_x1_b12 := SlT.old hsx1_9 lo_b12
 have nb_x33_0_4_b12 := SlT.old hsx33_0_4_9 lo_b12
 have nb_xs9_b12 := SlT.old hsxs9_9 lo_b12
 have nbo_x33_0_4_b12 : x33_0_4.ownBlock ≠ some b12 := fun e => Nat.lt_irrefl _ (Nat.lt_of_lt_of_le (OwnT.block_lt hox33_0_4_9 e).2 lo_b12)
 have s5_13 := (hO 5 rfl).trans s5_12
 have s7_13 := (hO 7 rfl).trans s7_12
 have s11_13 := (hO 11 rfl).trans s11_12
 have s41_13 := (hO 41 rfl).trans s41_12
 have s42_13 := (hO 42 rfl).trans s42_12
 clear hO hv hN_12 hD_12 hE_9 hbb5_9 hbb7_9 hbb34_9 hsx1_9 hsx33_0_4_9 hsxs9_9 hox33_0_4_9 s5_12 s7_12 s11_12 s41_12 s42_12
 refine tail_put rfl rfl hN_13 hD_13 (by decide) (does_alloc zero_27 (fun b13 wd14 he lo_b13 hbb13_14 => fun a14 hN_14 hD_14 hv hO => ?_))
 have s13_14 := hv
 have hE_14 := hE_13.trans he
 have hbb5_14 := hbb5_13.ext' he
 have hbb7_14 := hbb7_13.ext' he
 have hbb34_14 := hbb34_13.ext' he
 have hbb12_14 := hbb12_13.ext' he
 have hsx1_14 := hsx1_13.ext' he
 have hsx33_0_4_14 := hsx33_0_4_13.ext' he
 have hsxs9_14 := hsxs9_13.ext' he
 have hox33_0_4_14 := hox33_0_4_13.ext' he
 have fr_b13 : w0.heap.size ≤ b13 := Nat.le_trans hE_13.size' lo_b13
 have ne_b5_b13 : b5 ≠ b13 := fun e => Nat.lt_irrefl _ (Nat.lt_of_lt_of_le hbb5_13.lt (e ▸ lo_b13))
 have ne_b7_b13 : b7 ≠ b13 := fun e => Nat.lt_irrefl _ (Nat.lt_of_lt_of_le hbb7_13.lt (e ▸ lo_b13))
 have ne_b34_b13 : b34 ≠ b13 := fun e => Nat.lt_irrefl _ (Nat.lt_of_lt_of_le hbb34_13.lt (e ▸ lo_b13))
 have ne_b12_b13 : b12 ≠ b13 := fun e => Nat.lt_irrefl _ (Nat.lt_of_lt_of_le hbb12_13.lt (e ▸ lo_b13))
 have nb_x1_b13 := SlT.old hsx1_13 lo_b13
 have nb_x33_0_4_b13 := SlT.old hsx33_0_4_13 lo_b13
 have nb_xs9_b13 := SlT.old hsxs9_13 lo_b13
 have nbo_x33_0_4_b13 : x33_0_4.ownBlock ≠ some b13 := fun e => Nat.lt_irrefl _ (Nat.lt_of_lt_of_le (OwnT.block_lt hox33_0_4_13 e).2 lo_b13)
 have s5_14 := (hO 5 rfl).trans s5_13
 have s7_14 := (hO 7 rfl).trans s7_13
 have s11_14 := (hO 11 rfl).trans s11_13
 have s12_14 := (hO 12 rfl).trans s12_13
 have s41_14 := (hO 41 rfl).trans s41_13
 have s42_14 := (hO 42 rfl).trans s42_13
 clear hO hv hN_13 hD_13 hE_13 hbb5_13 hbb7_13 hbb34_13 hbb12_13 hsx1_13 hsx33_0_4_13 hsxs9_13 hox33_0_4_13 s5_13 s7_13 s11_13 s12_13 s41_13 s42_13
 refine tail_none rfl rfl (does_storeD (o := 0) (n := 4) (cs' := [w32 ((bothS old (m).toNat (n).toNat true l true).1).a, w32 ((bothS old (m).toNat (n).toNat true l true).1).b, w32 ((bothS old (m).toNat (n).toNat true l true).1).c, w32 ((bothS old (m).toNat (n).toNat true l true).1).d]) (V := Dg.val ((bothS old (m).toNat (n).toNat true l true).1)) s12_14 s41_14 hbb12_14 (Nat.le_of_ble_eq_true rfl) rfl siz_27 rfl rfl (fun wd15 hX hz hbb12_15 => ?_))
 have hE_15 := hE_14.since hX (fun k e => e ▸ fr_b12)
 have hbb5_15 := hbb5_14.ext hX ne_b5_b12
 have hbb7_15 := hbb7_14.ext hX ne_b7_b12
 have hbb34_15 := hbb34_14.ext hX ne_b34_b12
 have hbb13_15 := hbb13_14.ext hX ne_b12_b13.symm
 have hsx1_15 := SlT.over hsx1_14 hX nb_x1_b12
 have hsx33_0_4_15 := SlT.over hsx33_0_4_14 hX nb_x33_0_4_b12
 have hsxs9_15 := SlT.over hsxs9_14 hX nb_xs9_b12
 have hox33_0_4_15 := OwnT.ext hox33_0_4_14 hX (fun k hk e => nbo_x33_0_4_b12 (e ▸ hk))
 clear hX hz hE_14 hbb5_14 hbb7_14 hbb34_14 hbb12_14 hbb13_14 hsx1_14 hsx33_0_4_14 hsxs9_14 hox33_0_4_14
 refine tail_none rfl rfl (does_storeD (o := 0) (n := 4) (cs' := [w32 ((bothS old (m).toNat (n).toNat true l true).2.1).a, w32 ((bothS old (m).toNat (n).toNat true l true).2.1).b, w32 ((bothS old (m).toNat (n).toNat true l true).2.1).c, w32 ((bothS old (m).toNat (n).toNat true l true).2.1).d]) (V := Dg.val ((bothS old (m).toNat (n).toNat true l true).2.1)) s13_14 s42_14 hbb13_15 (Nat.le_of_ble_eq_true rfl) rfl siz_27 rfl rfl (fun wd16 hX hz hbb13_16 => ?_))
 have hE_16 := hE_15.since hX (fun k e => e ▸ fr_b13)
 have hbb5_16 := hbb5_15.ext hX ne_b5_b13
 have hbb7_16 := hbb7_15.ext hX ne_b7_b13
 have hbb34_16 := hbb34_15.ext hX ne_b34_b13
 have hbb12_16 := hbb12_15.ext hX ne_b12_b13
 have hsx1_16 := SlT.over hsx1_15 hX nb_x1_b13
 have hsx33_0_4_16 := SlT.over hsx33_0_4_15 hX nb_x33_0_4_b13
 have hsxs9_16 := SlT.over hsxs9_15 hX nb_xs9_b13
 have hox33_0_4_16 := OwnT.ext hox33_0_4_15 hX (fun k hk e => nbo_x33_0_4_b13 (e ▸ hk))
 clear hX hz hE_15 hbb5_15 hbb7_15 hbb34_15 hbb12_15 hbb13_15 hsx1_15 hsx33_0_4_15 hsxs9_15 hox33_0_4_15
 refine tail_nil ?_
 refine wp_seq ?_
 refine region_lex [] [(43, Pr.ex (Value.pointer (some ⟨b34, 0, none⟩))), (44, Pr.ex (Value.bool (((bothS old (m).toNat (n).toNat true l true).2.2.2) && decide (((bothS old (m).toNat (n).toNat true l true).2.2.1).length = 0)))), (45, Pr.ex (Value.bool (((bothS old (m).toNat (n).toNat true l true).2.2.2) && decide (((bothS old (m).toNat (n).toNat true l true).2.2.1).length = 0)))), (46, Pr.ifb (((bothS old (m).toNat (n).toNat true l true).2.2.2) && decide (((bothS old (m).toNat (n).toNat true l true).2.2.1).length = 0)) (Pr.ex (Dg.val ((bothS old (m).toNat (n).toNat true l true).1)))), (47, Pr.ifb (((bothS old (m).toNat (n).toNat true l true).2.2.2) && decide (((bothS old (m).toNat (n).toNat true l true).2.2.1).length = 0)) (Pr.ex (Dg.val (old)))), (48, Pr.ifb (((bothS old (m).toNat (n).toNat true l true).2.2.2) && decide (((bothS old (m).toNat (n).toNat true l true).2.2.1).length = 0)) (Pr.ex (Value.bool (decide ((bothS old (m).toNat (n).toNat true l true).1 = old))))), (49, Pr.ex (Value.bool ((((bothS old (m).toNat (n).toNat true l true).2.2.2) && decide (((bothS old (m).toNat (n).toNat true l true).2.2.1).length = 0)) && (decide ((bothS old (m).toNat (n).toNat true l true).1 = old))))), (50, Pr.ex (Value.bool ((((bothS old (m).toNat (n).toNat true l true).2.2.2) && decide (((bothS old (m).toNat (n).toNat true l true).2.2.1).length = 0)) && (decide ((bothS old (m).toNat (n).toNat true l true).1 = old))))), (51, Pr.ifb ((((bothS old (m).toNat (n).toNat true l true).2.2.2) && decide (((bothS old (m).toNat (n).toNat true l true).2.2.1).length = 0)) && (decide ((bothS old (m).toNat (n).toNat true l true).1 = old))) (Pr.ex (Dg.val ((bothS old (m).toNat (n).toNat true l true).2.1)))), (52, Pr.ifb ((((bothS old (m).toNat (n).toNat true l true).2.2.2) && decide (((bothS old (m).toNat (n).toNat true l true).2.2.1).length = 0)) && (decide ((bothS old (m).toNat (n).toNat true l true).1 = old))) (Pr.ex (Dg.val (r)))), (53, Pr.ifb ((((bothS old (m).toNat (n).toNat true l true).2.2.2) && decide (((bothS old (m).toNat (n).toNat true l true).2.2.1).length = 0)) && (decide ((bothS old (m).toNat (n).toNat true l true).1 = old))) (Pr.ex (Value.bool (decide ((bothS old (m).toNat (n).toNat true l true).2.1 = r))))), (54, Pr.ex (Value.bool (((((bothS old (m).toNat (n).toNat true l true).2.2.2) && decide (((bothS old (m).toNat (n).toNat true l true).2.2.1).length = 0)) && (decide ((bothS old (m).toNat (n).toNat true l true).1 = old))) && (decide ((bothS old (m).toNat (n).toNat true l true).2.1 = r))))), (10, Pr.ex (Value.bool (((((bothS old (m).toNat (n).toNat true l true).2.2.2) && decide (((bothS old (m).toNat (n).toNat true l true).2.2.1).length = 0)) && (decide ((bothS old (m).toNat (n).toNat true l true).1 = old))) && (decide ((bothS old (m).toNat (n).toNat true l true).2.1 = r)))))] 13 hN_14 hD_14 (by kernel_rfl) (by kernel_rfl) ?_ ?_
 refine Asks.cons ?_ (Asks.cons ?_ (Asks.cons ?_ (Asks.cons ?_ (Asks.cons ?_ (Asks.cons ?_ (Asks.cons ?_ (Asks.cons ?_ (Asks.cons ?_ (Asks.cons ?_ (Asks.cons ?_ (Asks.cons ?_ (Asks.cons ?_ (Asks.zero _)))))))))))))
 exact Ask.plain rfl rfl fun aq wq hNq hO hR hT => does_move (V := Value.pointer (some ⟨b34, 0, none⟩)) ((hO 11 rfl).trans s11_14) ⟨Ext.refl _, rfl⟩
 exact Ask.plain rfl rfl fun aq wq hNq hO hR hT => does_ret (vs := #[Value.pointer (some ⟨b34, 0, none⟩)]) call_71 (args1 (hT 43 rfl rfl)) rfl ((done_ ((bothS old (m).toNat (n).toNat true l true).2.2.1) ((bothS old (m).toNat (n).toNat true l true).2.2.2) b34 pp8 wq ⟨_, (hbb34_16.ext' hR), (hsxs9_16.ext' hR)⟩).mono fun v w2 h => ⟨h.2, h.1⟩)
 exact Ask.plain rfl rfl fun aq wq hNq hO hR hT => does_move (V := Value.bool (((bothS old (m).toNat (n).toNat true l true).2.2.2) && decide (((bothS old (m).toNat (n).toNat true l true).2.2.1).length = 0))) (hT 44 rfl rfl) ⟨Ext.refl _, rfl⟩
 refine Ask.guarded (B := ((bothS old (m).toNat (n).toNat true l true).2.2.2) && decide (((bothS old (m).toNat (n).toNat true l true).2.2.1).length = 0)) (want := true) (t := 45) rfl rfl rfl rfl (by decide) (fun aq wq hO hR hT => hT 45 rfl rfl) (fun hG aq wq hNq hO hR hT => ?_) (fun hno _ => fun hc => absurd hc hno)
 exact does_loadD (o := 0) (n := 4) (mid := [w32 ((bothS old (m).toNat (n).toNat true l true).1).a, w32 ((bothS old (m).toNat (n).toNat true l true).1).b, w32 ((bothS old (m).toNat (n).toNat true l true).1).c, w32 ((bothS old (m).toNat (n).toNat true l true).1).d]) ((hO 12 rfl).trans s12_14) (hbb12_16.ext' hR) rfl rfl (Nat.le_of_ble_eq_true rfl) row_27 rfl ⟨Ext.refl _, fun _ => rfl⟩
 refine Ask.guarded (B := ((bothS old (m).toNat (n).toNat true l true).2.2.2) && decide (((bothS old (m).toNat (n).toNat true l true).2.2.1).length = 0)) (want := true) (t := 45) rfl rfl rfl rfl (by decide) (fun aq wq hO hR hT => hT 45 rfl rfl) (fun hG aq wq hNq hO hR hT => ?_) (fun hno _ => fun hc => absurd hc hno)
 exact does_loadD (o := 0) (n := 4) (mid := [w32 (old).a, w32 (old).b, w32 (old).c, w32 (old).d]) ((hO 5 rfl).trans s5_14) (hbb5_16.ext' hR) rfl rfl (Nat.le_of_ble_eq_true rfl) row_27 rfl ⟨Ext.refl _, fun _ => rfl⟩
 refine Ask.guarded (B := ((bothS old (m).toNat (n).toNat true l true).2.2.2) && decide (((bothS old (m).toNat (n).toNat true l true).2.2.1).length = 0)) (want := true) (t := 45) rfl rfl rfl rfl (by decide) (fun aq wq hO hR hT => hT 45 rfl rfl) (fun hG aq wq hNq hO hR hT => ?_) (fun hno _ => fun hc => absurd hc hno)
 exact does_eqT (a := (bothS old (m).toNat (n).toNat true l true).1) (b := old) eq_27 (hT 46 rfl rfl hG) (hT 47 rfl rfl hG) ⟨Ext.refl _, fun _ => rfl⟩
 exact Ask.plain rfl rfl fun aq wq hNq hO hR hT => does_and (B := ((bothS old (m).toNat (n).toNat true l true).2.2.2) && decide (((bothS old (m).toNat (n).toNat true l true).2.2.1).length = 0)) (X := decide ((bothS old (m).toNat (n).toNat true l true).1 = old)) (hT 45 rfl rfl) (fun hB => (hT 48 rfl rfl hB)) rfl ⟨Ext.refl _, rfl⟩
 exact Ask.plain rfl rfl fun aq wq hNq hO hR hT => does_move (V := Value.bool ((((bothS old (m).toNat (n).toNat true l true).2.2.2) && decide (((bothS old (m).toNat (n).toNat true l true).2.2.1).length = 0)) && (decide ((bothS old (m).toNat (n).toNat true l true).1 = old)))) (hT 49 rfl rfl) ⟨Ext.refl _, rfl⟩
 refine Ask.guarded (B := (((bothS old (m).toNat (n).toNat true l true).2.2.2) && decide (((bothS old (m).toNat (n).toNat true l true).2.2.1).length = 0)) && (decide ((bothS old (m).toNat (n).toNat true l true).1 = old))) (want := true) (t := 50) rfl rfl rfl rfl (by decide) (fun aq wq hO hR hT => hT 50 rfl rfl) (fun hG aq wq hNq hO hR hT => ?_) (fun hno _ => fun hc => absurd hc hno)
 exact does_loadD (o := 0) (n := 4) (mid := [w32 ((bothS old (m).toNat (n).toNat true l true).2.1).a, w32 ((bothS old (m).toNat (n).toNat true l true).2.1).b, w32 ((bothS old (m).toNat (n).toNat true l true).2.1).c, w32 ((bothS old (m).toNat (n).toNat true l true).2.1).d]) ((hO 13 rfl).trans s13_14) (hbb13_16.ext' hR) rfl rfl (Nat.le_of_ble_eq_true rfl) row_27 rfl ⟨Ext.refl _, fun _ => rfl⟩
 refine Ask.guarded (B := (((bothS old (m).toNat (n).toNat true l true).2.2.2) && decide (((bothS old (m).toNat (n).toNat true l true).2.2.1).length = 0)) && (decide ((bothS old (m).toNat (n).toNat true l true).1 = old))) (want := true) (t := 50) rfl rfl rfl rfl (by decide) (fun aq wq hO hR hT => hT 50 rfl rfl) (fun hG aq wq hNq hO hR hT => ?_) (fun hno _ => fun hc => absurd hc hno)
 exact does_loadD (o := 0) (n := 4) (mid := [w32 (r).a, w32 (r).b, w32 (r).c, w32 (r).d]) ((hO 7 rfl).trans s7_14) (hbb7_16.ext' hR) rfl rfl (Nat.le_of_ble_eq_true rfl) row_27 rfl ⟨Ext.refl _, fun _ => rfl⟩
 refine Ask.guarded (B := (((bothS old (m).toNat (n).toNat true l true).2.2.2) && decide (((bothS old (m).toNat (n).toNat true l true).2.2.1).length = 0)) && (decide ((bothS old (m).toNat (n).toNat true l true).1 = old))) (want := true) (t := 50) rfl rfl rfl rfl (by decide) (fun aq wq hO hR hT => hT 50 rfl rfl) (fun hG aq wq hNq hO hR hT => ?_) (fun hno _ => fun hc => absurd hc hno)
 exact does_eqT (a := (bothS old (m).toNat (n).toNat true l true).2.1) (b := r) eq_27 (hT 51 rfl rfl hG) (hT 52 rfl rfl hG) ⟨Ext.refl _, fun _ => rfl⟩
 exact Ask.plain rfl rfl fun aq wq hNq hO hR hT => does_and (B := (((bothS old (m).toNat (n).toNat true l true).2.2.2) && decide (((bothS old (m).toNat (n).toNat true l true).2.2.1).length = 0)) && (decide ((bothS old (m).toNat (n).toNat true l true).1 = old))) (X := decide ((bothS old (m).toNat (n).toNat true l true).2.1 = r)) (hT 50 rfl rfl) (fun hB => (hT 53 rfl rfl hB)) rfl ⟨Ext.refl _, rfl⟩
 exact Ask.plain rfl rfl fun aq wq hNq hO hR hT => does_assign (V := Value.bool (((((bothS old (m).toNat (n).toNat true l true).2.2.2) && decide (((bothS old (m).toNat (n).toNat true l true).2.2.1).length = 0)) && (decide ((bothS old (m).toNat (n).toNat true l true).1 = old))) && (decide ((bothS old (m).toNat (n).toNat true l true).2.1 = r)))) (hT 54 rfl rfl) ⟨Ext.refl _, rfl⟩
 intro a17 wd17 hN_17 hD_17 hO hR hA hU
 obtain ⟨_, _, _, _, _, _, _, _, _, _, _, _, t10, _⟩ := hA
 have hE_17 := hE_16.trans hR
 have hbb5_17 := hbb5_16.ext' hR
 have hbb7_17 := hbb7_16.ext' hR
 have hbb34_17 := hbb34_16.ext' hR
 have hbb12_17 := hbb12_16.ext' hR
 have hbb13_17 := hbb13_16.ext' hR
 have hsx1_17 := hsx1_16.ext' hR
 have hsx33_0_4_17 := hsx33_0_4_16.ext' hR
 have hsxs9_17 := hsxs9_16.ext' hR
 have hox33_0_4_17 := hox33_0_4_16.ext' hR
 have s10_17 : get a17 10 = Value.bool (((((bothS old (m).toNat (n).toNat true l true).2.2.2) && decide (((bothS old (m).toNat (n).toNat true l true).2.2.1).length = 0)) && (decide ((bothS old (m).toNat (n).toNat true l true).1 = old))) && (decide ((bothS old (m).toNat (n).toNat true l true).2.1 = r))) := t10
 clear hE_16 hN_14 hD_14 s5_14 s7_14 s11_14 s12_14 s13_14 s41_14 s42_14 hbb5_16 hbb7_16 hbb34_16 hbb12_16 hbb13_16 hsx1_16 hsx33_0_4_16 hsxs9_16 hox33_0_4_16
 refine tail_nil ?_
 refine wp_ret ?_
 refine res_one (V := Value.bool (((((bothS old (m).toNat (n).toNat true l true).2.2.2) && decide (((bothS old (m).toNat (n).toNat true l true).2.2.1).length = 0)) && (decide ((bothS old (m).toNat (n).toNat true l true).1 = old))) && (decide ((bothS old (m).toNat (n).toNat true l true).2.1 = r)))) rfl hD_17 s10_17 ?_
 exact ⟨by show Value.bool _ = Value.bool _; rw [checkOn_yesS hb], hE_17⟩

end Go.Proofs.YtijfjpbahepegaaDoor
