/- My own calculus of walks, and plain laws. -/
import Derived.Test.YtmmghpbncejfiaaDoorK
/- Plain laws of stores that are filled; slices of the call's own against variables of another type. -/
namespace Sk
open Go Go.RowKit Sd
theorem OwnT.typed {α : Type} {T : Ty α} {base e t c : Nat} {xs : List α} {v : Value} {w : World} {cs : List Value} (h : OwnT T base e xs v w) (hb : Has w c t cs) (hne : e ≠ t) : v.ownBlock ≠ some c := by
  intro hv
  rcases h.2 with ⟨rfl, _⟩ | ⟨g, cap, cur, rfl, _, hg, _⟩
  · simp [Value.ownBlock] at hv
  simp only [Value.ownBlock, Option.some.injEq] at hv
  subst hv
  have hb' : w.heap[g]? = some (.cells cs.toArray t (0, 0)) := hb
  rw [hg] at hb'
  cases hb'
  exact hne rfl
/-- What a store is given back: nothing, the same, or one of the call's own. -/
def AddR (base e : Nat) (items l : List (List UInt8)) (x v : Value) (w : World) : Prop := SlT Str 0 0 l v w ∧ ((l = [] ∧ v = .slice none 0 0) ∨ (l = items ∧ v = x) ∨ OwnT Str base e l v w)
def Pr.addR (base e : Nat) (items l : List (List UInt8)) (x : Value) : Pr Ext := ⟨AddR base e items l x, fun _ _ _ h k => ⟨h.1.ext' k, h.2.imp id (Or.imp id fun o => OwnT.ext' o k)⟩⟩
end Sk
namespace Sd
/-- A store of texts, one by one. -/
def fill (s : List (List UInt8)) : List (List UInt8) → List (List UInt8) × Bool
  | [] => (s, true)
  | x :: l => if (addS s x).2.2 = 0 then fill (addS s x).1 l else (s, false)
end Sd
namespace Sk
open Go Go.RowKit Sd
end Sk

/- Keys: closures over a variable of the call's own, a copy into one; plain laws of keys. -/
namespace Sk
open Go Go.RowKit Sd
/-- A function value over a new variable. -/
def IsFn (K lo t : Nat) (cs : List Value) (v : Value) (w : World) : Prop := ∃ b, v = .func (.func K) #[] #[.pointer (some ⟨b, 0, none⟩)] ∧ lo ≤ b ∧ Has w b t cs
def Pr.fn (K lo t : Nat) (cs : List Value) : Pr Ext := ⟨IsFn K lo t cs, fun _ _ _ ⟨b, hv, h1, h2⟩ k => ⟨b, hv, h1, h2.ext' k⟩⟩
theorem IsFn.lo {K lo lo' t : Nat} {cs : List Value} {v : Value} {w : World} (h : IsFn K lo t cs v w) (hl : lo' ≤ lo) : IsFn K lo' t cs v w := by
  obtain ⟨b, hv, h1, h2⟩ := h
  exact ⟨b, hv, Nat.le_trans hl h1, h2⟩
section
variable {P : Program} {ev : Operand → Value} {w : World} {Ψ : Value → World → Prop} {d : Option Tmp} {ty : TypeId} {pos : String} {af : Array Edge} {g : Option (Nat × Bool)}
/-- copy of one array's cells into another one's first ones. -/
theorem does_copyArr {x y : Operand} {dT sT elem t t' b b' n m cap cap' : Nat} {cs cs' out : List Value} (hu : P.underlying dT = some (.slice elem)) (hs : (P.info? elem).map (·.size) = some 1)
    (hx : ev x = .slice (some ⟨b, 0, none⟩) n cap) (hy : ev y = .slice (some ⟨b', 0, none⟩) m cap') (hb : Has w b t cs) (hb' : Has w b' t' cs') (hm : m ≤ n) (hl : cs'.length = m) (hn : m ≤ cs.length) (h1 : (cs'.all fun u => u.oneCell') = true) (ho : cs' ++ cs.drop m = out)
    (h : ∀ w', ExtE (fun k => k = b) w w' → w'.heap.size = w.heap.size → Has w' b t out → Ψ (i64 ((m : Nat) : Int)) w') : Does P ev ⟨d, .call { callee := .builtin .copy, args := #[x, y], argTypes := #[dT, sT] }, ty, pos, af, g⟩ w Ψ := by
  subst hl; subst ho
  have hmin : Nat.min cs'.length n = cs'.length := Nat.min_eq_left hm
  have hrun := run_copy_row (P := P) w dT sT ty elem b 0 n cap ⟨b', 0, none⟩ cs'.length cap' cs.toArray t cs' hu hs hb (by rw [hmin]) (fun j v hj => by
    rw [Addr.add_mid]
    exact (hb'.range [] cs' [] (by simp)) j v hj) (by simpa using hn) (fun v hv => List.all_eq_true.1 h1 v hv)
  simp only [List.take_zero, List.nil_append, Nat.zero_add] at hrun
  refine Does.value (v := i64 ((cs'.length : Nat) : Int)) (w' := w.setRow b (cs' ++ cs.drop cs'.length).toArray) ?_ (h _ ?_ (by simp) (setRow_heap w b _ _ t _ hb))
  · simp only [execOp, resolve, invoke, builtin, Sem.run_bind, Sem.run_pure, Result.andThen_ok, List.map_toArray, List.map_cons, List.map_nil, hx, hy]
    rw [hrun]
    rfl
  · exact ⟨rfl, rfl, rfl, by simp, fun k _ he => setRow_other w b k _ he⟩
end
end Sk
namespace Sd
open Go Go.RowKit Sk
def link1 (seed : Dg) (i : Nat) : Dg := walk (start seed i) 15
theorem lone_eq (seed : Dg) : lone seed = tied ⟨35, 0, 0, 0⟩ ((List.range 35).map (link1 seed)) := rfl
def sgn (seed msg : Dg) (i : Nat) : Dg := walk (start seed i) ((steps msg).getD i 0)
theorem signed_eq (seed msg : Dg) : signed seed msg = (List.range 35).map (sgn seed msg) := rfl
def pubAt (seed : Dg) (i : Nat) : Dg := lone (seedAt seed i)
theorem publics_eq (seed : Dg) (n : Nat) : publics seed n = (List.range n).map (pubAt seed) := rfl
theorem publics_length (seed : Dg) (n : Nat) : (publics seed n).length = n := by simp [publics]
end Sd

/- My own calculus: a closure that is made and called in one region; signatures by trees of keys. -/
namespace Sk
open Go Go.RowKit Sd

/-- Block k is a variable of type F, from base on. -/
def IsTyp (F base k : Nat) (w : World) : Prop := base ≤ k ∧ ∃ cs, Has w k F cs
/-- Memory is extended, and variables of type F from base on may change in their last word. -/
structure Four (F base : Nat) (w w' : World) : Prop where
  ext : ExtE (fun k => IsTyp F base k w) w w'
  keep : ∀ (k : Nat) (a b c d e : UInt32), Has w k F [w32 a, w32 b, w32 c, w32 d, w32 e] → ∃ e' : UInt32, Has w' k F [w32 a, w32 b, w32 c, w32 d, w32 e']
section
variable {F base : Nat}
theorem Four.refl (w : World) : Four F base w w := ⟨ExtE.refl _ _, fun _ _ _ _ _ e h => ⟨e, h⟩⟩
theorem Four.trans {x y z : World} (h : Four F base x y) (k : Four F base y z) : Four F base x z := by
  refine ⟨⟨k.ext.os.trans h.ext.os, k.ext.tape.trans h.ext.tape, k.ext.output.trans h.ext.output, Nat.le_trans h.ext.size k.ext.size, fun i hi he => ?_⟩, fun i a b c d e hh => ?_⟩
  · have h1 := h.ext.block i hi he
    refine (k.ext.block i (Nat.lt_of_lt_of_le hi h.ext.size) fun hh => he ⟨hh.1, ?_⟩).trans h1
    obtain ⟨cs, hcs⟩ := hh.2
    exact ⟨cs, h1.symm.trans hcs⟩
  · obtain ⟨e', h'⟩ := h.keep i a b c d e hh
    exact k.keep i a b c d e' h'
theorem Four.of {x y : World} (h : Ext x y) : Four F base x y := ⟨h.toE, fun _ _ _ _ _ e hh => ⟨e, hh.ext' h⟩⟩
theorem Four.size' {x y : World} (h : Four F base x y) : x.heap.size ≤ y.heap.size := h.ext.size
theorem Four.write {w w' : World} {b : Nat} {a c d e f f' : UInt32} (h : ExtE (fun k => k = b) w w') (hb : base ≤ b) (h1 : Has w b F [w32 a, w32 c, w32 d, w32 e, w32 f]) (h2 : Has w' b F [w32 a, w32 c, w32 d, w32 e, w32 f']) : Four F base w w' := by
  refine ⟨h.mono fun k _ hk => ⟨hk ▸ hb, hk ▸ ⟨_, h1⟩⟩, fun k a' c' d' e' g hh => ?_⟩
  by_cases hk : k = b
  · subst hk
    have h3 := (Obj.cells.inj (Option.some.inj (hh.symm.trans h1))).1
    have h4 : [w32 a', w32 c', w32 d', w32 e', w32 g] = [w32 a, w32 c, w32 d, w32 e, w32 f] := congrArg Array.toList h3
    simp only [List.cons.injEq] at h4
    obtain ⟨e1, e2, e3, e4, _, _⟩ := h4
    rw [e1, e2, e3, e4]
    exact ⟨f', h2⟩
  · exact ⟨g, hh.ext h hk⟩
/-- A function value over such a variable. -/
def FnR (K base F : Nat) (a b c d : UInt32) (v : Value) (w : World) : Prop := ∃ (k : Nat) (e : UInt32), v = .func (.func K) #[] #[.pointer (some ⟨k, 0, none⟩)] ∧ base ≤ k ∧ Has w k F [w32 a, w32 b, w32 c, w32 d, w32 e]
def Pr.fnR (K base F : Nat) (a b c d : UInt32) : Pr (Four F base) := ⟨FnR K base F a b c d, fun _ _ _ ⟨k, e, hv, h1, h2⟩ r => let ⟨e', h'⟩ := r.keep k a b c d e h2; ⟨k, e', hv, h1, h'⟩⟩
theorem FnR.of {K lo : Nat} {a b c d e : UInt32} {v : Value} {w : World} (h : IsFn K lo F [w32 a, w32 b, w32 c, w32 d, w32 e] v w) (hl : base ≤ lo) : FnR K base F a b c d v w :=
  let ⟨b, hv, h1, h2⟩ := h; ⟨b, e, hv, Nat.le_trans hl h1, h2⟩
def Pr.ownR {α : Type} (T : Ty α) (lo e : Nat) (xs : List α) (he : e ≠ F) : Pr (Four F base) := ⟨OwnT T lo e xs, fun _ _ _ h r => OwnT.ext h r.ext (fun _ hb hh => let ⟨_, _, hcs⟩ := hh; OwnT.typed h hcs he hb)⟩
end

section
variable {P : Program} {Q : Exit → Act → World → Prop} {R : World → World → Prop} {L : Tab R} {a : Act} {w : World} {N n s : Nat} {l : List Oper}
/-- What is asked of one operation; number s is the call that writes, and stands before any other that does. -/
def AskR (P : Program) (l : List Oper) (N : Nat) (R : World → World → Prop) (L : Tab R) (a : Act) (w : World) (wr : Bool) (o : Oper) : Prop :=
  ∀ d, o.dst = some d → ∀ a' w', a'.tmps.size = N → (∀ t, L.slots.contains t = false → get a' t = get a t) → (if wr then Ext else R) w w' →
    (∀ t, (o.looksAt l.toArray).contains t = true → L.slots.contains t = true → L.look t (get a' t) w') →
    (Region.wanted o (yielded l.toArray a'.tmps) = true → Does P a'.eval o w' (fun v w'' => (if wr then R else Ext) w' w'' ∧ L.look d v w'')) ∧
    (Region.wanted o (yielded l.toArray a'.tmps) = false → L.look d undef w')
def AsksR (P : Program) (l : List Oper) (N : Nat) (R : World → World → Prop) (L : Tab R) (a : Act) (w : World) (s : Nat) : Nat → Nat → List Oper → Prop
  | _, 0, _ => True
  | _, _ + 1, [] => False
  | k, n + 1, o :: r => AskR P l N R L a w (k == s) o ∧ AsksR P l N R L a w s (k + 1) n r
theorem AsksR.zero {k : Nat} (r : List Oper) : AsksR P l N R L a w s k 0 r := trivial
theorem AsksR.cons {k : Nat} {o : Oper} {r : List Oper} (h : AskR P l N R L a w (k == s) o) (hr : AsksR P l N R L a w s (k + 1) n r) : AsksR P l N R L a w s k (n + 1) (o :: r) := ⟨h, hr⟩
theorem AskR.plain {o : Oper} {d : Nat} {wr : Bool} (hwr : wr = false) (hd : o.dst = some d) (hg : o.guard = none)
    (h : ∀ a' w', a'.tmps.size = N → (∀ t, L.slots.contains t = false → get a' t = get a t) → R w w' → (∀ t, (o.looksAt l.toArray).contains t = true → L.slots.contains t = true → L.look t (get a' t) w') →
      Does P a'.eval o w' (fun v w'' => Ext w' w'' ∧ L.look d v w'')) : AskR P l N R L a w wr o := by
  subst hwr
  intro d' hd' a' w' h1 h2 h3 h4
  rw [hd] at hd'
  cases hd'
  refine ⟨fun _ => h a' w' h1 h2 h3 h4, fun hw => ?_⟩
  unfold Region.wanted at hw
  rw [hg] at hw
  cases hw
theorem AskR.write {o : Oper} {d : Nat} {wr : Bool} (hwr : wr = true) (hd : o.dst = some d) (hg : o.guard = none)
    (h : ∀ a' w', a'.tmps.size = N → (∀ t, L.slots.contains t = false → get a' t = get a t) → Ext w w' → (∀ t, (o.looksAt l.toArray).contains t = true → L.slots.contains t = true → L.look t (get a' t) w') →
      Does P a'.eval o w' (fun v w'' => R w' w'' ∧ L.look d v w'')) : AskR P l N R L a w wr o := by
  subst hwr
  intro d' hd' a' w' h1 h2 h3 h4
  rw [hd] at hd'
  cases hd'
  refine ⟨fun _ => h a' w' h1 h2 h3 h4, fun hw => ?_⟩
  unfold Region.wanted at hw
  rw [hg] at hw
  cases hw
theorem asksR_ob (hN : a.tmps.size = N) : ∀ (n k : Nat) (r : List Oper), (∀ j, r[j]? = l[k + j]?) → AsksR P l N R L a w s k n r → ∀ i, k ≤ i → i < k + n → Ob P l.toArray Ext R s [] L a w i
  | 0, k, r, _, _, i, h1, h2 => by omega
  | n + 1, k, [], _, h, _, _, _ => h.elim
  | n + 1, k, o :: r, hr, h, i, h1, h2 => by
    by_cases e : i = k
    · subst e
      intro o' d ho' hd a' w' hinv hT
      have : o' = o := by
        have h3 : l[i]? = some o := by have := hr 0; simpa using this.symm
        have h4 : l[i]? = some o' := by simpa using ho'
        rw [h3] at h4
        exact (Option.some.inj h4).symm
      subst this
      have h0 := h.1 d hd a' w' (by rw [hinv.size, hN]) (fun t ht => hinv.out t (by simpa using ht))
      have hnb : d ∉ ([] : List Nat) := by simp
      by_cases es : i = s
      · subst es
        simp only [beq_self_eq_true, if_true] at h0
        have hrel := hinv.rel
        simp only [if_true] at hrel
        obtain ⟨h5, h6⟩ := h0 hrel (fun t h5 h6 => hT t (by simpa using h5) (by simpa using h6))
        simp only [if_true]
        exact ⟨fun hw => (h5 hw).mono fun _ _ h => ⟨h.1, h.2, fun h => absurd h hnb⟩, fun hw => ⟨h6 hw, hnb⟩⟩
      · have eb : (i == s) = false := by simpa using es
        simp only [eb, Bool.false_eq_true, if_false] at h0
        have hrel := hinv.rel
        simp only [if_neg es] at hrel
        obtain ⟨h5, h6⟩ := h0 hrel (fun t h5 h6 => hT t (by simpa using h5) (by simpa using h6))
        simp only [if_neg es]
        exact ⟨fun hw => (h5 hw).mono fun _ _ h => ⟨h.1, h.2, fun h => absurd h hnb⟩, fun hw => ⟨h6 hw, hnb⟩⟩
    · exact asksR_ob hN n (k + 1) r (fun j => by have := hr (j + 1); rw [List.getElem?_cons_succ] at this; rw [this]; congr 1; omega) h.2 i (by omega) (by omega)
section
variable {ev : Operand → Value} {Ψ : Value → World → Prop} {d : Option Tmp} {ty : TypeId} {pos : String} {af : Array Edge} {g : Option (Nat × Bool)}
end
/-- A region with a closure that it makes and calls, in whatever order. -/
theorem region_anyF {id : Nat} (F : Nat) (L : Tab (Four F w.heap.size)) (s n : Nat) (hm : P.follows .mixedOrders = true) (hN : a.tmps.size = N) (hD : a.defers = []) (hc : chk l.toArray n N L.slots = true) (hcT : chkT l.toArray n = true) (hob : AsksR P l N (Four F w.heap.size) L a { w with drawn := w.drawn + 1 } s 0 n l)
    (htail : ∀ a' w', a'.tmps.size = N → a'.defers = [] → (∀ t, L.slots.contains t = false → get a' t = get a t) → Four F w.heap.size w w' → L.all a' w' → wpList P l.toArray Q (l.drop n) a' w') : (Code.region id l.toArray true).wp P Q a w := by
  have hle : n ≤ l.length := by have := (chk_size hc).1; simpa using this
  refine wp_region_any hm (rg_any (s := s) (R0 := Ext) hN hc Four.refl Ext.refl (fun _ _ _ => Four.trans) (fun _ _ h => Four.of h) (fun _ _ _ => Ext.trans) (fun _ _ h => h.size') (bx := []) ⟨List.nodup_nil, by simp⟩ hcT (fun i hi => asksR_ob hN n 0 l (fun j => by rw [Nat.zero_add]) hob i (Nat.zero_le _) (by omega)) (l.drop n) ⟨by simp; omega, fun j => by simp⟩ ?_)
  intro a' w' hinv hall _
  exact htail a' w' (by rw [hinv.size, hN]) (by rw [hinv.defers, hD]) (fun t ht => hinv.out t (by simpa using ht)) ((Four.of (Ext.drew w)).trans hinv.rel) hall
end
end Sk

namespace Sd
def highB (h : Int) : Bool := decide (0 ≤ h) && decide (h ≤ 4)
def keyPub (seed : Dg) (h : Int) : Dg × Nat := if 0 ≤ h ∧ h ≤ 4 then (root (publics seed (pw h.toNat)), 0) else (Dg.zero, 2)
theorem keyPub_no {seed : Dg} {h : Int} (hb : ¬ (0 ≤ h ∧ h ≤ 4)) : keyPub seed h = (Dg.zero, 2) := by unfold keyPub; rw [if_neg hb]
theorem keyPub_ok {seed : Dg} {n : Nat} (hb : n ≤ 4) : keyPub seed (n : Int) = (root (publics seed (pw n)), 0) := by unfold keyPub; rw [if_pos (by omega)]; rfl
def keyNew (seed : Dg) (h : Int) : Dg × Int × Nat := if 0 ≤ h ∧ h ≤ 4 then (seed, h, 0) else (Dg.zero, 0, 2)
theorem keyNew_no {seed : Dg} {h : Int} (hb : ¬ (0 ≤ h ∧ h ≤ 4)) : keyNew seed h = (Dg.zero, 0, 2) := by unfold keyNew; rw [if_neg hb]
theorem keyNew_ok {seed : Dg} {h : Int} (hb : 0 ≤ h ∧ h ≤ 4) : keyNew seed h = (seed, h, 0) := by unfold keyNew; rw [if_pos hb]
/-- Index, One, Path, errno. -/
def keySign (seed : Dg) (h i : Int) (msg : Dg) : Int × List Dg × List Dg × Nat :=
  if 0 ≤ h ∧ h ≤ 4 then (if 0 ≤ i ∧ i < ((pw h.toNat : Nat) : Int) then (i, signed (seedAt seed i.toNat) msg, way (publics seed (pw h.toNat)) i.toNat, 0) else (0, [], [], 1)) else (0, [], [], 2)
theorem keySign_no {seed msg : Dg} {h i : Int} (hb : ¬ (0 ≤ h ∧ h ≤ 4)) : keySign seed h i msg = (0, [], [], 2) := by unfold keySign; rw [if_neg hb]
theorem keySign_arg {seed msg : Dg} {n : Nat} {i : Int} (hb : n ≤ 4) (hi : ¬ (0 ≤ i ∧ i < ((pw n : Nat) : Int))) : keySign seed (n : Int) i msg = (0, [], [], 1) := by unfold keySign; rw [if_pos (by omega), Int.toNat_natCast, if_neg hi]
theorem keySign_ok {seed msg : Dg} {n j : Nat} (hb : n ≤ 4) (hj : j < pw n) : keySign seed (n : Int) (j : Int) msg = ((j : Int), signed (seedAt seed j) msg, way (publics seed (pw n)) j, 0) := by unfold keySign; rw [if_pos (by omega), Int.toNat_natCast, if_pos (by omega), Int.toNat_natCast]
/-- The signer behind it (Seed, Height, Next), then Index, One, Path, errno. -/
def keyUse (seed : Dg) (h i : Int) (msg : Dg) : Dg × Int × Int × Int × List Dg × List Dg × Nat :=
  if 0 ≤ h ∧ h ≤ 4 then (if 0 ≤ i ∧ i < ((pw h.toNat : Nat) : Int) then (seed, h, i + 1, i, signed (seedAt seed i.toNat) msg, way (publics seed (pw h.toNat)) i.toNat, 0) else (Dg.zero, 0, 0, 0, [], [], 9)) else (Dg.zero, 0, 0, 0, [], [], 2)
theorem keyUse_no {seed msg : Dg} {h i : Int} (hb : ¬ (0 ≤ h ∧ h ≤ 4)) : keyUse seed h i msg = (Dg.zero, 0, 0, 0, [], [], 2) := by unfold keyUse; rw [if_neg hb]
theorem keyUse_arg {seed msg : Dg} {n : Nat} {i : Int} (hb : n ≤ 4) (hi : ¬ (0 ≤ i ∧ i < ((pw n : Nat) : Int))) : keyUse seed (n : Int) i msg = (Dg.zero, 0, 0, 0, [], [], 9) := by unfold keyUse; rw [if_pos (by omega), Int.toNat_natCast, if_neg hi]
theorem keyUse_ok {seed msg : Dg} {n j : Nat} (hb : n ≤ 4) (hj : j < pw n) : keyUse seed (n : Int) (j : Int) msg = (seed, (n : Int), ((j + 1 : Nat) : Int), (j : Int), signed (seedAt seed j) msg, way (publics seed (pw n)) j, 0) := by unfold keyUse; rw [if_pos (by omega), Int.toNat_natCast, if_pos (by omega), Int.toNat_natCast]; rfl
theorem prove_pub {seed : Dg} {n j : Nat} (hj : j < pw n) : prove (publics seed (pw n)) ((j : Nat) : Int) = (way (publics seed (pw n)) j, 0) := by rw [prove_ok ⟨by omega, by rw [publics_length]; omega⟩, Int.toNat_natCast]

theorem half_pw (n : Nat) : half (pw (n + 1)) = pw n := by
  have h := pw_pos n
  exact (half_eq (by rw [pw_succ]; unfold pw at *; omega) (by rw [pw_succ]; unfold pw; omega)).symm
theorem way_pw : ∀ (n : Nat) (l : List Dg) (i : Nat), l.length = pw n → i < l.length → (way l i).length = n
  | 0, l, i, hl, hi => by rw [way_one (by rw [hl]; decide) i]; rfl
  | n + 1, l, i, hl, hi => by
    have hp := pw_pos n
    have h2 : 2 ≤ l.length := by rw [hl, pw_succ]; omega
    have hh : half l.length = pw n := by rw [hl, half_pw]
    by_cases hlo : i < half l.length
    · rw [way_lo h2 hlo, List.length_append, way_pw n _ i (by rw [List.length_take, hh, hl, pw_succ]; omega) (by rw [List.length_take]; omega)]; rfl
    · rw [way_hi h2 hlo, List.length_append, way_pw n _ _ (by rw [List.length_drop, hh, hl, pw_succ]; omega) (by rw [List.length_drop]; omega)]; rfl
theorem publics_get {seed : Dg} {n j : Nat} (hj : j < n) : (publics seed n)[j]? = some (lone (seedAt seed j)) := by simp [publics, hj]
/-- What is signed holds. -/
theorem keyCheck_sign {seed msg : Dg} {n j : Nat} (hn : n ≤ 4) (hj : j < pw n) : keyCheck (root (publics seed (pw n))) msg (j : Int) (signed (seedAt seed j) msg) (way (publics seed (pw n)) j) = true := by
  have hlen := way_pw n (publics seed (pw n)) j (publics_length _ _) (by rw [publics_length]; exact hj)
  rw [keyCheck_yes (by omega), reachO_yes (signed_length _ _), hlen, reach_signed]
  have hp := pw_small hn
  have hup := up_way _ (publics seed (pw n)) j _ (publics_get hj) (Nat.le_refl _)
  rw [publics_length] at hup
  show (true && checks _ _ _ _ _) = true
  rw [Bool.true_and, check_yes ⟨by omega, by omega, by omega⟩, Int.toNat_natCast, Int.toNat_natCast, hup]
  simp
end Sd

/- Plain laws: signing by trees of keys, as the document tells it; links. -/
namespace Sd
end Sd

/- Plain laws: what lies ahead in a one-time signature; signatures that hold at one public key alone. -/
namespace Sd
def oneCheck (pub msg : Dg) (s : List Dg) : Bool := (reachO msg s).2 && decide ((reachO msg s).1 = pub)
def aheadO (a : Dg) (s : List Dg) (b : Dg) (t : List Dg) : Nat × Dg × Bool :=
  match (List.range 35).find? (aheadAt a s b t) with
  | some i => (i, t.getD i Dg.zero, true)
  | none => (0, Dg.zero, false)
/-- Whose key a signature of a tree is. -/
theorem keyCheck_of {seed msg p : Dg} {n j : Nat} (hn : n ≤ 4) (hj : j < pw n) : keyCheck p msg (j : Int) (signed (seedAt seed j) msg) (way (publics seed (pw n)) j) = decide (root (publics seed (pw n)) = p) := by
  have hlen := way_pw n (publics seed (pw n)) j (publics_length _ _) (by rw [publics_length]; exact hj)
  rw [keyCheck_yes (by omega), reachO_yes (signed_length _ _), hlen, reach_signed]
  have hp := pw_small hn
  have hup := up_way _ (publics seed (pw n)) j _ (publics_get hj) (Nat.le_refl _)
  rw [publics_length] at hup
  show (true && checks _ _ _ _ _) = _
  rw [Bool.true_and, check_yes ⟨by omega, by omega, by omega⟩, Int.toNat_natCast, Int.toNat_natCast, hup, Bool.true_and]
theorem root_pub0 (seed : Dg) : root (publics seed (pw 0)) = lone (seedAt seed 0) := root_one _
end Sd
namespace Sd
end Sd

/- Plain laws: the ways up from two places of a tree, and where they meet. -/
namespace Sd
/-- The way up, from below. -/
def climb : Nat → Dg → List Dg → Dg
  | _, a, [] => a
  | i, a, x :: p => climb (i / 2) (if i % 2 = 1 then pair x a else pair a x) p
/-- Do two ways up, from one place, meet in two unlike pairs with one digest? -/
def clashK : Nat → Dg → List Dg → Dg → List Dg → Bool
  | i, a, x :: p, b, y :: q =>
    (!decide ((if i % 2 = 1 then (x, a) else (a, x)) = (if i % 2 = 1 then (y, b) else (b, y))) && decide ((if i % 2 = 1 then pair x a else pair a x) = (if i % 2 = 1 then pair y b else pair b y))) ||
      clashK (i / 2) (if i % 2 = 1 then pair x a else pair a x) p (if i % 2 = 1 then pair y b else pair b y) q
  | _, _, _, _, _ => false
end Sd
namespace Sd
section
variable {p q : List Dg} {k i : Nat} {d e y z : Dg}
end
end Sd

/- Plain laws: links, and who said them. -/
namespace Sk
open Go Go.RowKit
theorem parts8 {ev : Operand → Value} {i1 i2 i3 i4 i5 i6 i7 i8 : Nat} {x1 x2 x3 x4 x5 x6 x7 x8 : Operand} {v1 v2 v3 v4 v5 v6 v7 v8 : Value} (h1 : ev x1 = v1) (h2 : ev x2 = v2) (h3 : ev x3 = v3) (h4 : ev x4 = v4) (h5 : ev x5 = v5) (h6 : ev x6 = v6) (h7 : ev x7 = v7) (h8 : ev x8 = v8) : (#[(i1, x1), (i2, x2), (i3, x3), (i4, x4), (i5, x5), (i6, x6), (i7, x7), (i8, x8)].map fun (i, x) => (i, ev x)) = #[(i1, v1), (i2, v2), (i3, v3), (i4, v4), (i5, v5), (i6, v6), (i7, v7), (i8, v8)] := by simp [h1, h2, h3, h4, h5, h6, h7, h8]
end Sk
namespace Sd
def linkOf (r o : Dg) : Dg := pair (of (wbytes [r.a, r.b, r.c, r.d, o.a, o.b, o.c, o.d])) (of ([108, 105, 110, 107] : List UInt8))
theorem linkOf_eq (r o : Dg) : pair (of (wbytes [r.a, r.b, r.c, r.d] ++ wbytes [o.a, o.b, o.c, o.d])) (of ([108, 105, 110, 107] : List UInt8)) = linkOf r o := by rw [← bytes_append]; rfl
/-- Did one builder say two things of one recipe? -/
def twiceB (bs ra oa : Dg) (i : Int) (s p : List Dg) (bt rb ob : Dg) (j : Int) (t q : List Dg) : Bool :=
  (decide (bs = bt) && decide (ra = rb) && !decide (oa = ob)) && (keyCheck bs (linkOf ra oa) i s p && keyCheck bt (linkOf rb ob) j t q)
section
variable {bs ra oa bt rb ob : Dg} {i j : Int} {s p t q : List Dg}
theorem twiceB_self : twiceB bs ra oa i s p bt ra oa j t q = false := by unfold twiceB; simp
theorem twiceB_no (h : (!decide (bs = bt) || !decide (ra = rb) || decide (oa = ob)) = true) : twiceB bs ra oa i s p bt rb ob j t q = false := by
  unfold twiceB
  rw [show (decide (bs = bt) && decide (ra = rb) && !decide (oa = ob)) = !(!decide (bs = bt) || !decide (ra = rb) || decide (oa = ob)) by simp, h]; rfl
theorem twiceB_yes (h : (!decide (bs = bt) || !decide (ra = rb) || decide (oa = ob)) = false) : twiceB bs ra oa i s p bt rb ob j t q = (keyCheck bs (linkOf ra oa) i s p && keyCheck bt (linkOf rb ob) j t q) := by
  unfold twiceB
  rw [show (decide (bs = bt) && decide (ra = rb) && !decide (oa = ob)) = !(!decide (bs = bt) || !decide (ra = rb) || decide (oa = ob)) by simp, h]; rfl
theorem twiceB_said (h1 : keyCheck bs (linkOf ra oa) i s p = true) (h2 : keyCheck bt (linkOf rb ob) j t q = true) (hb : bs = bt) : twiceB bs ra oa i s p bt rb ob j t q = (decide (ra = rb) && !decide (oa = ob)) := by
  unfold twiceB; rw [h1, h2, hb]; simp
end
end Sd
namespace Sd
theorem awake44_law : ¬ root (publics ⟨3, 0, 0, 0⟩ (pw 0)) = (⟨3, 0, 0, 0⟩ : Dg) := by
  rw [root_pub0]
  decide +kernel
end Sd

/- My own calculus: a list of what was said, each with a signature in memory of the call's own; a field of an element. -/
namespace Sk
open Go Go.RowKit Sd
section
variable {P : Program} {ev : Operand → Value} {w : World} {Ψ : Value → World → Prop} {d : Option Tmp} {ty : TypeId} {pos : String} {af : Array Edge} {g : Option (Nat × Bool)}
theorem does_fieldP {s f k lo hi : Nat} {x : Operand} {cs mid : List Value} (hf : FieldIs P s f k) (hx : PtR lo hi cs (ev x) w) (hm : cs = cs.take k ++ (mid ++ cs.drop (k + mid.length))) (hk : k ≤ cs.length)
    (h : ∀ v, PtR lo hi mid v w → Ψ v w) : Does P ev ⟨d, .fieldAddr s x f, ty, pos, af, g⟩ w Ψ := by
  obtain ⟨b, o, hv, h1, h2, h3⟩ := hx
  refine does_field hf hv rfl (h _ ⟨b, o + k, rfl, h1, h2, fun j v hj => ?_⟩)
  have hj' : j < mid.length := (List.getElem?_eq_some_iff.1 hj).1
  have hl : (cs.take k).length = k := by rw [List.length_take]; omega
  rw [Nat.add_assoc]
  refine h3 (k + j) v ?_
  rw [hm, List.getElem?_append_right (by omega), hl, Nat.add_sub_cancel_left, List.getElem?_append_left hj', hj]
end
end Sk
namespace Sd
open Go Go.RowKit Sk
/-- What was said: the builder, the place, and the two slices of the signature. -/
structure Sg where
  b : Dg
  i : Int
  x : Value
  y : Value
  hx : x.oneCell' = true
  hy : y.oneCell' = true
def Sg.cells (s : Sg) : List Value := Dg.cells s.b ++ [i64 s.i, s.x, s.y]
def SG : Ty Sg := ⟨7, Sg.cells, fun _ => rfl, by decide, by
  intro s u hu
  simp only [Sg.cells, Dg.cells, List.mem_append, List.mem_cons, List.not_mem_nil, or_false] at hu
  rcases hu with (rfl | rfl | rfl | rfl) | rfl | rfl | rfl
  · rfl
  · rfl
  · rfl
  · rfl
  · rfl
  · exact s.hx
  · exact s.hy⟩
/-- The first links of l were said, one behind the other, by the keys of a tree of height n. -/
def Said (seed : Dg) (n : Nat) (l : List Link) (base e : Nat) (S : List Sg) (w : World) : Prop :=
  ∀ (j : Nat) (s : Sg), S[j]? = some s → ∃ k : Link, l[j]? = some k ∧ s.b = root (publics seed (pw n)) ∧ s.i = (j : Int) ∧ OwnT DG base e (signed (seedAt seed j) (linkOf k.recipe k.out)) s.x w ∧ OwnT DG base e (way (publics seed (pw n)) j) s.y w
section
variable {seed : Dg} {n : Nat} {l : List Link} {base e : Nat} {S : List Sg} {w w' : World}
theorem Said.nil : Said seed n l base e [] w := fun j s h => by simp at h
theorem Said.ext' (h : Said seed n l base e S w) (k : Ext w w') : Said seed n l base e S w' := fun j s hs =>
  let ⟨z, h1, h2, h3, h4, h5⟩ := h j s hs; ⟨z, h1, h2, h3, h4.ext' k, h5.ext' k⟩
/-- A variable of another type is written. -/
theorem Said.over {b t : Nat} {cs : List Value} (h : Said seed n l base e S w) (hb : Has w b t cs) (k : ExtE (fun k => k = b) w w') (hne : e ≠ t) : Said seed n l base e S w' := fun j s hs =>
  let ⟨z, h1, h2, h3, h4, h5⟩ := h j s hs
  ⟨z, h1, h2, h3, OwnT.ext h4 k fun c hc hh => OwnT.typed h4 hb hne (hh ▸ hc), OwnT.ext h5 k fun c hc hh => OwnT.typed h5 hb hne (hh ▸ hc)⟩
/-- A slice of another type is appended to. -/
theorem Said.app {α : Type} {T : Ty α} {b2 e2 : Nat} {xs : List α} {v : Value} (h : Said seed n l base e S w) (k : ExtE (fun b => v.ownBlock = some b) w w') (ho : OwnT T b2 e2 xs v w) (hne : e ≠ e2) : Said seed n l base e S w' := fun j s hs =>
  let ⟨z, h1, h2, h3, h4, h5⟩ := h j s hs
  ⟨z, h1, h2, h3, OwnT.ext h4 k fun c hc hh => OwnT.apart h4 ho hne c hc hh, OwnT.ext h5 k fun c hc hh => OwnT.apart h5 ho hne c hc hh⟩
theorem Said.snoc {k : Nat} {z : Link} {x y : Value} {hx : x.oneCell' = true} {hy : y.oneCell' = true} (h : Said seed n l base e S w) (hk : S.length = k) (hz : l[k]? = some z) (h4 : OwnT DG base e (signed (seedAt seed k) (linkOf z.recipe z.out)) x w) (h5 : OwnT DG base e (way (publics seed (pw n)) k) y w) :
    Said seed n l base e (S ++ [(⟨root (publics seed (pw n)), ((k : Nat) : Int), x, y, hx, hy⟩ : Sg)]) w := by
  intro j s hs
  by_cases hj : j < S.length
  · rw [List.getElem?_append_left hj] at hs
    exact h j s hs
  · rw [List.getElem?_append_right (by omega)] at hs
    have hjk : j - S.length = 0 := by
      have := (List.getElem?_eq_some_iff.1 hs).1
      simp at this
      omega
    rw [hjk] at hs
    simp at hs
    subst hs
    have : j = k := by omega
    subst this
    exact ⟨z, hz, rfl, rfl, h4, h5⟩
end
end Sd

