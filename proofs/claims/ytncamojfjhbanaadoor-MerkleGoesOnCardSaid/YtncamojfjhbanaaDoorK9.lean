/- My own calculus: regions in which a store may come up before what it doesn't wait for. -/
import Derived.Test.YtncamojfjhbanaaDoorK8
namespace Sk
open Go Go.RowKit

section
variable {P : Program} {Q : Exit → Act → World → Prop} {bx : List Nat} {L : Tab Ext} {a : Act} {w : World} {N n : Nat} {l : List Oper}

/-- The value of an operation in every world of S. -/
def Yl (P : Program) (ev : Operand → Value) (o : Oper) (S : World → Prop) (v : Value) : Prop := ∀ x, S x → (execOp ev o).run P x = .ok (.value v) x

def LateAsk (P : Program) (l : List Oper) (L : Tab Ext) (a : Act) (w : World) (S : World → Prop) (o : Oper) (d : Nat) : Prop :=
  ∀ a' w', (∀ t, L.slots.contains t = false → get a' t = get a t) → Ext w w' → (∀ t, (o.looksAt l.toArray).contains t = true → L.slots.contains t = true → L.look t (get a' t) w') → ∃ v, Yl P a'.eval o S v ∧ L.look d v w'
def LateAsks (P : Program) (l : List Oper) (L : Tab Ext) (a : Act) (w : World) (S : World → Prop) : List Nat → Prop
  | [] => True
  | j :: r => (∃ o d, l[j]? = some o ∧ o.dst = some d ∧ o.guard = none ∧ LateAsk P l L a w S o d) ∧ LateAsks P l L a w S r
theorem LateAsks.nil {S : World → Prop} : LateAsks P l L a w S [] := trivial
theorem LateAsks.cons {S : World → Prop} {j d : Nat} {r : List Nat} {o : Oper} (h1 : l[j]? = some o) (h2 : o.dst = some d) (h3 : o.guard = none) (h : LateAsk P l L a w S o d) (k : LateAsks P l L a w S r) : LateAsks P l L a w S (j :: r) := ⟨⟨o, d, h1, h2, h3, h⟩, k⟩
theorem LateAsks.get {S : World → Prop} : ∀ {late : List Nat}, LateAsks P l L a w S late → ∀ j, j ∈ late → ∃ o d, l[j]? = some o ∧ o.dst = some d ∧ o.guard = none ∧ LateAsk P l L a w S o d
  | [], _, j, hj => by cases hj
  | i :: r, h, j, hj => by
    rcases List.mem_cons.1 hj with e | hj'
    · subst e; exact h.1
    · exact LateAsks.get h.2 j hj'

theorem region_late {id : Nat} (bx : List Nat) (L : Tab Ext) (n : Nat) (late : List Nat) (E : Nat → Prop) (hm : P.follows .mixedOrders = true) (hN : a.tmps.size = N) (hD : a.defers = []) (hc : chk l.toArray n N L.slots = true) (hbx : (decide bx.Nodup && bx.all fun d => L.slots.contains d) = true)
    (hcL : chkL l.toArray n late = true) (hlb : (late.all fun j => ((l[j]?).bind (·.dst)).all fun d => !bx.contains d) = true) (hQ : ∀ (d : Option Nat) (v : Value) c a w, Q (.panic c) (a.put d v) w → Q (.panic c) a w)
    (hob : Asks P l N bx L a { w with drawn := w.drawn + 1 } n l) (hlate : LateAsks P l L a { w with drawn := w.drawn + 1 } (ExtE E { w with drawn := w.drawn + 1 }) late)
    (htail : ∀ wd, Ext w wd → wd.heap = w.heap → ∀ a' w', a'.tmps.size = N → a'.defers = [] → (∀ t, L.slots.contains t = false → get a' t = get a t) → Ext wd w' → L.all a' w' → AllUnlike a' bx → wpListS P l.toArray Q (ExtE E wd) (l.drop n) a' w') : (Code.region id l.toArray true).wp P Q a w := by
  have hle : n ≤ l.length := by have := (chk_size hc).1; simpa using this
  refine wp_region_any hm (wpAny_of_held _ _ _ _ (rg_late (S := ExtE E { w with drawn := w.drawn + 1 }) (late := late) hN hc Ext.refl (fun _ _ _ => Ext.trans) (fun _ _ h => h.size') (bxOk hbx) hcL ?_ (fun x hx => hx.toE) hQ
    (fun i hi => ?_) (fun j hj => ?_) (l.drop n) ⟨by simp; omega, fun j => by simp⟩ ?_))
  · intro j hj o d ho hd hdb
    have h1 := List.all_eq_true.1 hlb j hj
    have ho' : l[j]? = some o := by simpa using ho
    simp [ho', hd, hdb] at h1
  · have := asks_ob hN n 0 l (fun j => by rw [Nat.zero_add]) hob i (Nat.zero_le _) (by omega)
    simpa using this
  · obtain ⟨o, d, h1, h2, h3, h4⟩ := hlate.get j hj
    intro o' d' ho' hd'
    have : o' = o := by
      have h5 : l[j]? = some o' := by simpa using ho'
      rw [h1] at h5
      exact (Option.some.inj h5).symm
    subst this
    rw [h2] at hd'
    cases hd'
    exact ⟨h3, fun a' w' hinv hT => h4 a' w' (fun t ht => hinv.out t (by simpa using ht)) hinv.rel (fun t h5 h6 => hT t (by simpa using h5) (by simpa using h6))⟩
  · intro a' w' hinv hall hun
    exact htail { w with drawn := w.drawn + 1 } (Ext.drew w) rfl a' w' (by rw [hinv.size, hN]) (by rw [hinv.defers, hD]) (fun t ht => hinv.out t (by simpa using ht)) hinv.rel hall hun

variable {ops : Array Oper} {S : World → Prop} {o : Oper} {r : List Oper}
theorem tailS_nil (h : Q .normal a w) : wpListS P ops Q S [] a w := h
theorem tailS_cons (hg : o.guard = none) (h : Does P a.eval o w (fun v w' => S w' ∧ wpListS P ops Q S r (a.put o.dst v) w')) : wpListS P ops Q S (o :: r) a w := by
  unfold wpListS
  rw [if_pos (by unfold Region.wanted; rw [hg])]
  exact .inl (Does.wp h)
theorem tailS_put {d : Nat} (hd : o.dst = some d) (hg : o.guard = none) (hN : a.tmps.size = N) (hD : a.defers = []) (hdN : d < N)
    (h : Does P a.eval o w (fun v w' => S w' ∧ ∀ a', a'.tmps.size = N → a'.defers = [] → get a' d = v → (∀ t, (t == d) = false → get a' t = get a t) → wpListS P ops Q S r a' w')) : wpListS P ops Q S (o :: r) a w := by
  refine tailS_cons hg (h.mono fun v w' h => ⟨h.1, ?_⟩)
  rw [hd]
  exact h.2 _ (put_size hN) (put_defers hD) (put_same hN hdN) (fun t ht => get_put_ne (fun e => by simp [e] at ht))
theorem tailS_none (hd : o.dst = none) (hg : o.guard = none) (h : Does P a.eval o w (fun _ w' => S w' ∧ wpListS P ops Q S r a w')) : wpListS P ops Q S (o :: r) a w := by
  refine tailS_cons hg (h.mono fun v w' h => ⟨h.1, ?_⟩)
  rw [hd]
  exact h.2
end

section
variable {P : Program} {ev : Operand → Value} {S : World → Prop} {d : Option Tmp} {ty : TypeId} {pos : String} {af : Array Edge} {g : Option (Nat × Bool)}
theorem yl_move {x : Operand} {V : Value} (hx : ev x = V) : Yl P ev ⟨d, .move x, ty, pos, af, g⟩ S V := by
  intro w _; rw [← hx]; rfl
theorem yl_loadD {E : Nat → Prop} {w0 : World} {t e : TypeId} {x : Operand} {b o n : Nat} {cs mid : List Value} {V : Value} (hx : ev x = .pointer (some ⟨b, o, none⟩)) (hb : Has w0 b e cs) (hE : ¬ E b) (hm : (cs.drop o).take n = mid) (hn : mid.length = n) (hol : o ≤ cs.length) (ht : RowIs P t n) (hV : V = .agg mid.toArray) :
    Yl P ev ⟨d, .load t x, ty, pos, af, g⟩ (ExtE E w0) V := by
  intro w hw
  have hb' := hb.ext hw hE
  obtain ⟨D, h1, h2, h3⟩ := ht
  subst hV; subst hn
  have hr := hb'.range (cs.take o) mid ((cs.drop o).drop mid.length) (by
    conv => rhs; rhs; lhs; rw [← hm]
    rw [List.take_append_drop, List.take_append_drop])
  rw [List.length_take, Nat.min_eq_left hol] at hr
  simp [execOp, hx, run_loadAt_mid w b o t mid D hr h1 h2 h3]
theorem yl_sliceLo {α : Type} {T : Ty α} {lo hi : Nat} {xs : List α} {t e n : Nat} {x y : Operand} {k : Int} {w0 : World} (ha : SliceIs P t e n) (hn : T.size = n) (hx : SlT T lo hi xs (ev x) w0) (hy : ev y = i64 k) (h0 : 0 ≤ k) (h1 : k.toNat ≤ xs.length) :
    ∃ v, Yl P ev ⟨d, .slice t x (some y) none none, ty, pos, af, g⟩ S v ∧ SlT T lo hi (xs.drop k.toNat) v w0 := by
  obtain ⟨a, cap, hv, hc, hr⟩ := hx
  refine ⟨sliced a k.toNat xs.length cap n, fun w _ => ?_, ?_⟩
  · have ht : P.underlying t = some (.slice (P.elem t)) := by
      have := ha.1; simp [Program.elem, this]
    have he : P.elem t = e := by have := ha.1; simp [Program.elem, this]
    simp only [execOp, hv, Option.map_none, Option.map_some, hy, Sem.run_bind]
    rw [run_sliceAt_slice w t _ _ _ _ ht, run_slice_l w t a _ cap ht .i64 k h0 (by omega), he, runSz ha.2]
    rfl
  · have := SlT.drop (w := w0) hc hr k.toNat xs.length cap h1 (Nat.le_refl _) hc
    rw [List.take_length, hn] at this
    exact this
end
end Sk
