/- My own calculus: a function's way in and out; a region told operation by operation. -/
import Derived.Test.YtncamojfjhbanaaDoorK5
namespace Sk
open Go Go.RowKit

/-- The call returns a value of which Ψ holds. -/
def Ret (P : Program) (f : FuncId) (args : Array Value) (w : World) (Ψ : Value → World → Prop) : Prop := Calls P f args w (fun e w' => ∃ v, e = .returned v ∧ Ψ v w')
theorem Ret.mono {P : Program} {f : FuncId} {args : Array Value} {w : World} {Ψ Ψ' : Value → World → Prop} (h : Ret P f args w Ψ) (hh : ∀ v w', Ψ v w' → Ψ' v w') : Ret P f args w Ψ' :=
  Calls.mono h fun _ _ ⟨v, he, hv⟩ => ⟨v, he, hh _ _ hv⟩

def Post (Ψ : Value → World → Prop) : Ending → World → Prop := fun e w' => ∃ v, e = .returned v ∧ Ψ v w'

theorem enter {P : Program} {f : FuncId} {fn : Func} {c : Code} {args : Array Value} {w : World} {Ψ : Value → World → Prop} {N : Nat} (hf : P.funcs[f]? = some fn) (hb : fn.body = some c) (hN : args.size + (fn.ntmps - args.size) = N)
    (h : ∀ a : Act, a.tmps.size = N → a.defers = [] → (∀ (i : Nat) v, args[i]? = some v → get a i = v) → c.wp P (bodyPost P fn (Post Ψ)) a w) : Ret P f args w Ψ := by
  refine calls_of_wp hf hb (h _ (by simp [hN]) rfl fun i v hi => ?_)
  unfold get
  have hlt : i < args.size := (Array.getElem?_eq_some_iff.1 hi).1
  simp only [Array.getD_eq_getD_getElem?]
  rw [Array.getElem?_append_left hlt, hi]
  rfl

/-! ### Results -/

/-- One result comes to a value. -/
def ResIs (P : Program) (w : World) (a : Act) (r : ResultVar) (V : Value) : Prop :=
  match r with
  | .tmp t => get a t = V
  | .cell p t => (loadVar t =<< asAddr (get a p)).run P w = .ok V w

theorem ResIs.cell {P : Program} {w : World} {a : Act} {p t b e n : Nat} {cs : List Value} {V : Value} (hp : get a p = .pointer (some ⟨b, 0, none⟩)) (hb : Has w b e cs) (ht : RowIs P t n) (hn : cs.length = n) (hV : V = .agg cs.toArray) : ResIs P w a (.cell p t) V := by
  obtain ⟨D, h1, h2, h3⟩ := ht
  subst hn; subst hV
  show (loadVar t =<< asAddr (get a p)).run P w = _
  rw [hp]
  have := run_loadVar_mid (P := P) w b 0 t cs D (hb.range [] cs [] (by simp)) h1 h2 h3
  simp [asAddr, Bind.bindLeft, this]

/-- As 'results' reads it. -/
def resOf (a : Act) : ResultVar → Sem Value
  | .tmp t => pure (get a t)
  | .cell p t => do loadVar t (← asAddr (get a p))
theorem resOf_run {P : Program} {w : World} {a : Act} {r : ResultVar} {V : Value} (h : ResIs P w a r V) : (resOf a r).run P w = .ok V w := by
  cases r with
  | tmp t =>
    have h' : get a t = V := h
    simp [resOf, h']
  | cell p t => exact h
theorem results_eq (fn : Func) (a : Act) : results fn a.tmps = (do let vs ← fn.results.mapM (resOf a); pure (if h : vs.size = 1 then vs[0] else .tuple vs)) := by
  unfold results
  congr 1

theorem res_one {P : Program} {fn : Func} {Ψ : Value → World → Prop} {a : Act} {w : World} {r : ResultVar} {V : Value} (hr : fn.results = #[r]) (hD : a.defers = []) (h1 : ResIs P w a r V) (h : Ψ V w) : bodyPost P fn (Post Ψ) .ret a w := by
  refine ⟨hD, V, ?_, V, rfl, h⟩
  rw [results_eq, hr]
  simp [resOf_run h1]
theorem res_two {P : Program} {fn : Func} {Ψ : Value → World → Prop} {a : Act} {w : World} {r1 r2 : ResultVar} {V1 V2 : Value} (hr : fn.results = #[r1, r2]) (hD : a.defers = []) (h1 : ResIs P w a r1 V1) (h2 : ResIs P w a r2 V2) (h : Ψ (.tuple #[V1, V2]) w) :
    bodyPost P fn (Post Ψ) .ret a w := by
  refine ⟨hD, .tuple #[V1, V2], ?_, _, rfl, h⟩
  rw [results_eq, hr]
  simp [resOf_run h1, resOf_run h2]
/-! ### A region, by obligations -/

section
variable {P : Program} {Q : Exit → Act → World → Prop} {bx : List Nat} {L : Tab Ext} {a : Act} {w : World} {N n : Nat} {l : List Oper}

/-- What is asked of one operation: from whatever world, which extends the region's first. -/
def Ask (P : Program) (l : List Oper) (N : Nat) (bx : List Nat) (L : Tab Ext) (a : Act) (w : World) (o : Oper) : Prop :=
  ∀ d, o.dst = some d → ∀ a' w', a'.tmps.size = N → (∀ t, L.slots.contains t = false → get a' t = get a t) → Ext w w' →
    (∀ t, (o.looksAt l.toArray).contains t = true → L.slots.contains t = true → L.look t (get a' t) w') →
    (Region.wanted o (yielded l.toArray a'.tmps) = true → Does P a'.eval o w' (fun v w'' => Ext w' w'' ∧ L.look d v w'' ∧ (d ∈ bx → Fresh w' v w''))) ∧
    (Region.wanted o (yielded l.toArray a'.tmps) = false → L.look d undef w' ∧ d ∉ bx)

/-- Of the first n operations. -/
def Asks (P : Program) (l : List Oper) (N : Nat) (bx : List Nat) (L : Tab Ext) (a : Act) (w : World) : Nat → List Oper → Prop
  | 0, _ => True
  | _ + 1, [] => False
  | n + 1, o :: r => Ask P l N bx L a w o ∧ Asks P l N bx L a w n r
theorem Asks.zero (r : List Oper) : Asks P l N bx L a w 0 r := trivial
theorem Asks.cons {o : Oper} {r : List Oper} (h : Ask P l N bx L a w o) (k : Asks P l N bx L a w n r) : Asks P l N bx L a w (n + 1) (o :: r) := ⟨h, k⟩

/-- An operation without a guard. -/
theorem Ask.plain {o : Oper} {d : Nat} (hd : o.dst = some d) (hg : o.guard = none)
    (h : ∀ a' w', a'.tmps.size = N → (∀ t, L.slots.contains t = false → get a' t = get a t) → Ext w w' → (∀ t, (o.looksAt l.toArray).contains t = true → L.slots.contains t = true → L.look t (get a' t) w') →
      Does P a'.eval o w' (fun v w'' => Ext w' w'' ∧ L.look d v w'')) (hbx : bx.contains d = false := by rfl) : Ask P l N bx L a w o := by
  intro d' hd' a' w' h1 h2 h3 h4
  rw [hd] at hd'
  cases hd'
  have hnb : d ∉ bx := by simpa using hbx
  refine ⟨fun _ => (h a' w' h1 h2 h3 h4).mono fun _ _ h => ⟨h.1, h.2, fun h => absurd h hnb⟩, fun hw => ?_⟩
  unfold Region.wanted at hw
  rw [hg] at hw
  cases hw

/-- An operation that makes a variable. -/
theorem Ask.fresh {o : Oper} {d : Nat} (hd : o.dst = some d) (hg : o.guard = none)
    (h : ∀ a' w', a'.tmps.size = N → (∀ t, L.slots.contains t = false → get a' t = get a t) → Ext w w' → (∀ t, (o.looksAt l.toArray).contains t = true → L.slots.contains t = true → L.look t (get a' t) w') →
      Does P a'.eval o w' (fun v w'' => Ext w' w'' ∧ L.look d v w'' ∧ Fresh w' v w'')) : Ask P l N bx L a w o := by
  intro d' hd' a' w' h1 h2 h3 h4
  rw [hd] at hd'
  cases hd'
  refine ⟨fun _ => (h a' w' h1 h2 h3 h4).mono fun _ _ h => ⟨h.1, h.2.1, fun _ => h.2.2⟩, fun hw => ?_⟩
  unfold Region.wanted at hw
  rw [hg] at hw
  cases hw

theorem yielded_bool {ops : Array Oper} {j : Nat} {oj : Oper} {t : Nat} {B : Bool} {a : Act} (hj : ops[j]? = some oj) (ht : oj.dst = some t) (hv : get a t = .bool B) (hs : t < a.tmps.size) : yielded ops a.tmps j = some B := by
  unfold get at hv
  simp only [Array.getD_eq_getD_getElem?] at hv
  unfold yielded
  simp only [hj, Option.bind_some, ht]
  rw [Array.getElem?_eq_getElem hs] at hv ⊢
  simp only [Option.getD_some] at hv
  rw [hv]

/-- An operation behind a guard: that of slot t is B (when it comes up). -/
theorem Ask.guarded {o oj : Oper} {d j t : Nat} {B want : Bool} (hd : o.dst = some d) (hg : o.guard = some (j, want)) (hj : l.toArray[j]? = some oj) (ht : oj.dst = some t) (htN : t < N)
    (hB : ∀ a' w', (∀ t, L.slots.contains t = false → get a' t = get a t) → Ext w w' → (∀ t, (o.looksAt l.toArray).contains t = true → L.slots.contains t = true → L.look t (get a' t) w') → get a' t = .bool B)
    (h : B = want → ∀ a' w', a'.tmps.size = N → (∀ t, L.slots.contains t = false → get a' t = get a t) → Ext w w' → (∀ t, (o.looksAt l.toArray).contains t = true → L.slots.contains t = true → L.look t (get a' t) w') →
      Does P a'.eval o w' (fun v w'' => Ext w' w'' ∧ L.look d v w''))
    (hno : B ≠ want → ∀ w', L.look d undef w') (hbx : bx.contains d = false := by rfl) : Ask P l N bx L a w o := by
  intro d' hd' a' w' h1 h2 h3 h4
  rw [hd] at hd'
  cases hd'
  have hy := yielded_bool hj ht (hB a' w' h2 h3 h4) (by rw [h1]; exact htN)
  have hw : Region.wanted o (yielded l.toArray a'.tmps) = (B == want) := by
    unfold Region.wanted
    rw [hg]
    simp only [hy]
    cases B <;> cases want <;> rfl
  have hnb : d ∉ bx := by simpa using hbx
  rw [hw]
  refine ⟨fun e => (h (by simpa using e) a' w' h1 h2 h3 h4).mono fun _ _ h => ⟨h.1, h.2, fun h => absurd h hnb⟩, fun e => ⟨hno (by simpa using e) w', hnb⟩⟩

theorem asks_ob (hN : a.tmps.size = N) : ∀ (n k : Nat) (r : List Oper), (∀ j, r[j]? = l[k + j]?) → Asks P l N bx L a w n r → ∀ i, k ≤ i → i < k + n → Ob P l.toArray Ext Ext l.length bx L a w i
  | 0, k, r, _, _, i, h1, h2 => by omega
  | n + 1, k, [], _, h, _, _, _ => h.elim
  | n + 1, k, o :: r, hr, h, i, h1, h2 => by
    by_cases e : i = k
    · subst e
      intro o' d ho' hd a' w' hinv hT
      have : o' = o := by
        have h3 : l[i]? = some o := by have := hr 0; simpa using this.symm
        have h4 : l[i]? = some o' := by simpa using ho'
        rw [h3] at h4
        exact (Option.some.inj h4).symm
      subst this
      have hE : (if i = l.length then Ext else Ext) = Ext := by split <;> rfl
      rw [hE] at hinv
      simp only [hE]
      exact h.1 d hd a' w' (by rw [hinv.size, hN]) (fun t ht => hinv.out t (by simpa using ht)) hinv.rel (fun t h5 h6 => hT t (by simpa using h5) (by simpa using h6))
    · exact asks_ob hN n (k + 1) r (fun j => by have := hr (j + 1); rw [List.getElem?_cons_succ] at this; rw [this]; congr 1; omega) h.2 i (by omega) (by omega)

theorem bxOk {ds : List Nat} (h : (decide bx.Nodup && bx.all fun d => ds.contains d) = true) : bx.Nodup ∧ ∀ d, d ∈ bx → d ∈ ds := by
  rw [Bool.and_eq_true] at h
  exact ⟨of_decide_eq_true h.1, fun d hd => by simpa using List.all_eq_true.1 h.2 d hd⟩

/-- THE REGION, in the order of the text. -/
theorem region_lex {id : Nat} (bx : List Nat) (L : Tab Ext) (n : Nat) (hN : a.tmps.size = N) (hD : a.defers = []) (hc : chk l.toArray n N L.slots = true) (hbx : (decide bx.Nodup && bx.all fun d => L.slots.contains d) = true) (hob : Asks P l N bx L a w n l)
    (htail : ∀ a' w', a'.tmps.size = N → a'.defers = [] → (∀ t, L.slots.contains t = false → get a' t = get a t) → Ext w w' → L.all a' w' → AllUnlike a' bx → wpList P l.toArray Q (l.drop n) a' w') : (Code.region id l.toArray false).wp P Q a w := by
  refine wp_region (rg_lex (s := l.length) hN hc Ext.refl Ext.refl (fun _ _ _ => Ext.trans) (fun _ _ h => h) (fun _ _ _ => Ext.trans) (fun _ _ h => h.size') (bxOk hbx) (fun i hi => asks_ob hN n 0 l (fun j => by rw [Nat.zero_add]) hob i (Nat.zero_le _) (by omega)) ?_)
  intro a' w' hinv hall hun
  have := htail a' w' (by rw [hinv.size, hN]) (by rw [hinv.defers, hD]) (fun t ht => hinv.out t (by simpa using ht)) hinv.rel hall hun
  have hle : n ≤ l.length := by have := (chk_size hc).1; simpa using this
  rw [show l.toArray.size - n = (l.drop n).length by simp, wpOps_eq_wpList (l.drop n) n (fun j => by simp)]
  exact this

/-- THE REGION, in whatever order. -/
theorem region_any {id : Nat} (bx : List Nat) (L : Tab Ext) (n : Nat) (hm : P.follows .mixedOrders = true) (hN : a.tmps.size = N) (hD : a.defers = []) (hc : chk l.toArray n N L.slots = true) (hbx : (decide bx.Nodup && bx.all fun d => L.slots.contains d) = true) (hcT : chkT l.toArray n = true) (hob : Asks P l N bx L a { w with drawn := w.drawn + 1 } n l)
    (htail : ∀ a' w', a'.tmps.size = N → a'.defers = [] → (∀ t, L.slots.contains t = false → get a' t = get a t) → Ext w w' → L.all a' w' → AllUnlike a' bx → wpList P l.toArray Q (l.drop n) a' w') : (Code.region id l.toArray true).wp P Q a w := by
  have hle : n ≤ l.length := by have := (chk_size hc).1; simpa using this
  refine wp_region_any hm (rg_any (s := l.length) hN hc Ext.refl Ext.refl (fun _ _ _ => Ext.trans) (fun _ _ h => h) (fun _ _ _ => Ext.trans) (fun _ _ h => h.size') (bxOk hbx) hcT (fun i hi => asks_ob hN n 0 l (fun j => by rw [Nat.zero_add]) hob i (Nat.zero_le _) (by omega)) (l.drop n) ⟨by simp; omega, fun j => by simp⟩ ?_)
  intro a' w' hinv hall hun
  exact htail a' w' (by rw [hinv.size, hN]) (by rw [hinv.defers, hD]) (fun t ht => hinv.out t (by simpa using ht)) ((Ext.drew w).trans hinv.rel) hall hun

/-- The end of a region. -/
theorem tail_nil {ops : Array Oper} (h : Q .normal a w) : wpList P ops Q [] a w := h
theorem tail_cons {ops : Array Oper} {o : Oper} {r : List Oper} (hg : o.guard = none) (h : Does P a.eval o w (fun v w' => wpList P ops Q r (a.put o.dst v) w')) : wpList P ops Q (o :: r) a w := by
  unfold wpList
  rw [if_pos (by unfold Region.wanted; rw [hg])]
  exact .inl (Does.wp h)
end

theorem put_size {a : Act} {d : Option Nat} {v : Value} {N : Nat} (h : a.tmps.size = N) : (a.put d v).tmps.size = N := by rw [size_put, h]
theorem put_defers {a : Act} {d : Option Nat} {v : Value} (h : a.defers = []) : (a.put d v).defers = [] := by rw [defers_put, h]
theorem put_same {a : Act} {d N : Nat} {v : Value} (h : a.tmps.size = N) (hd : d < N) : get (a.put (some d) v) d = v := get_put_same (by rw [h]; exact hd)

/-- The contract of a callee, where its call is met. -/
theorem does_ret {P : Program} {ev : Operand → Value} {w : World} {Ψ : Value → World → Prop} {d : Option Tmp} {ty : TypeId} {pos : String} {af : Array Edge} {g : Option (Nat × Bool)} {f : Nat} {xs : Array Operand} {ts : Array TypeId} {vs : Array Value}
    (hf : Callable P f) (hx : xs.map ev = vs) (hfun : ev (.func f) = .func (.func f) #[] #[]) (h : Ret P f vs w Ψ) :
    Does P ev ⟨d, .call { callee := .value (.func f), args := xs, argTypes := ts }, ty, pos, af, g⟩ w Ψ := does_call hf hx hfun h
/-- A condition. -/
theorem wp_if {P : Program} {Q : Exit → Act → World → Prop} {a : Act} {w : World} {c : Operand} {x y : Code} {B : Bool} (hc : a.eval c = .bool B) (h1 : B = true → x.wp P Q a w) (h2 : B = false → y.wp P Q a w) : (Code.cond c x y).wp P Q a w :=
  wp_cond_split hc h1 h2

/-- The call gives a value of which p holds, and extends memory. -/
def Gives (P : Program) (f : FuncId) (args : Array Value) (w : World) (p : Pr Ext) : Prop := Ret P f args w (fun v w' => p.p v w' ∧ Ext w w')

theorem SlT.at {α : Type} {T : Ty α} {lo hi : Nat} {xs : List α} {v v' : Value} {w : World} (h : v' = v) (k : SlT T lo hi xs v w) : SlT T lo hi xs v' w := h ▸ k
theorem OwnT.at {α : Type} {T : Ty α} {base : Nat} {e : TypeId} {xs : List α} {v v' : Value} {w : World} (h : v' = v) (k : OwnT T base e xs v w) : OwnT T base e xs v' w := h ▸ k

section
variable {P : Program} {Q : Exit → Act → World → Prop} {a : Act} {w : World} {N : Nat} {ops : Array Oper} {o : Oper} {r : List Oper}
theorem tail_put {d : Nat} (hd : o.dst = some d) (hg : o.guard = none) (hN : a.tmps.size = N) (hD : a.defers = []) (hdN : d < N)
    (h : Does P a.eval o w (fun v w' => ∀ a', a'.tmps.size = N → a'.defers = [] → get a' d = v → (∀ t, (t == d) = false → get a' t = get a t) → wpList P ops Q r a' w')) : wpList P ops Q (o :: r) a w := by
  refine tail_cons hg (h.mono fun v w' h => ?_)
  rw [hd]
  exact h _ (put_size hN) (put_defers hD) (put_same hN hdN) (fun t ht => get_put_ne (fun e => by simp [e] at ht))
theorem tail_none (hd : o.dst = none) (hg : o.guard = none) (h : Does P a.eval o w (fun _ w' => wpList P ops Q r a w')) : wpList P ops Q (o :: r) a w := by
  refine tail_cons hg (h.mono fun v w' h => ?_)
  rw [hd]
  exact h

/-- A loop, measured by a ghost. -/
theorem loop_g {c : Code} (I : Nat → Act → World → Prop) (h0 : ∃ m, I m a w) (round : ∀ m a w, I m a w → c.wp P (Exit.then (fun a' w' => ∃ m', m' < m ∧ I m' a' w') Q) a w) : (Code.loop c).wp P Q a w := by
  classical
  have least : ∀ a w, (∃ m, I m a w) → ∃ m, I m a w ∧ ∀ k, I k a w → m ≤ k := by
    intro a w ⟨m, hm⟩
    induction m using Nat.strongRecOn with
    | _ m ih =>
      by_cases h : ∃ k, k < m ∧ I k a w
      · obtain ⟨k, hk, hik⟩ := h
        exact ih k hk hik
      · exact ⟨m, hm, fun k hik => Nat.le_of_not_lt fun hlt => h ⟨k, hlt, hik⟩⟩
  refine wp_loop (fun a w => ∃ m, I m a w) (fun a w => if h : ∃ m, I m a w then Classical.choose (least a w h) else 0) h0 fun a w hI => ?_
  obtain ⟨h1, h2⟩ := Classical.choose_spec (least a w hI)
  refine wp_mono (round _ a w h1) fun e a' w' hq => ?_
  cases e with
  | normal =>
    obtain ⟨m', hlt, hm'⟩ := hq
    have hI' : ∃ m, I m a' w' := ⟨m', hm'⟩
    refine ⟨hI', ?_⟩
    simp only [dif_pos hI', dif_pos hI]
    exact Nat.lt_of_le_of_lt ((Classical.choose_spec (least a' w' hI')).2 m' hm') hlt
  | exit id => exact hq
  | goto l => exact hq
  | ret => exact hq
  | panic ch => exact hq
  | outgrown => exact hq
end

/-- Two results. -/
def Pr.t2 {R : World → World → Prop} (p q : Pr R) : Pr R := ⟨fun v w => ∃ x y, v = .tuple #[x, y] ∧ p.p x w ∧ q.p y w, fun _ _ _ ⟨x, y, hv, h1, h2⟩ k => ⟨x, y, hv, p.st _ _ _ h1 k, q.st _ _ _ h2 k⟩⟩
def Pr.t3 {R : World → World → Prop} (p q r : Pr R) : Pr R := ⟨fun v w => ∃ x y z, v = .tuple #[x, y, z] ∧ p.p x w ∧ q.p y w ∧ r.p z w, fun _ _ _ ⟨x, y, z, hv, h1, h2, h3⟩ k => ⟨x, y, z, hv, p.st _ _ _ h1 k, q.st _ _ _ h2 k, r.st _ _ _ h3 k⟩⟩

section
variable {P : Program} {ev : Operand → Value} {w : World} {Ψ : Value → World → Prop} {d : Option Tmp} {ty : TypeId} {pos : String} {af : Array Edge} {g : Option (Nat × Bool)}

theorem nb {B : Bool} (h : B = false) : (!B) = true := by rw [h]; rfl
theorem bn {B : Bool} (h : (!B) = true) : B = false := by cases B <;> simp_all

/-- A part of a known block. -/
theorem does_loadD {t e : TypeId} {x : Operand} {b o n : Nat} {cs mid : List Value} {V : Value} (hx : ev x = .pointer (some ⟨b, o, none⟩)) (hb : Has w b e cs) (hm : (cs.drop o).take n = mid) (hn : mid.length = n) (hol : o ≤ cs.length) (ht : RowIs P t n) (hV : V = .agg mid.toArray) (h : Ψ V w) :
    Does P ev ⟨d, .load t x, ty, pos, af, g⟩ w Ψ := by
  refine does_loadH (pre := cs.take o) (mid := mid) (post := (cs.drop o).drop n) hx hb ?_ (by simp; omega) ht hn hV h
  rw [← hm, List.take_append_drop, List.take_append_drop]
theorem does_loadD1 {t e : TypeId} {x : Operand} {b o : Nat} {cs : List Value} {V : Value} (hx : ev x = .pointer (some ⟨b, o, none⟩)) (hb : Has w b e cs) (hm : cs[o]? = some V) (ht : OneIs P t) (h : Ψ V w) :
    Does P ev ⟨d, .load t x, ty, pos, af, g⟩ w Ψ := by
  have hlt : o < cs.length := (List.getElem?_eq_some_iff.1 hm).1
  refine does_loadH1 (pre := cs.take o) (post := (cs.drop o).drop 1) hx hb ?_ (by simp; omega) ht h
  have : (cs.drop o).take 1 = [V] := by
    rw [List.take_one, List.head?_drop, hm]; rfl
  rw [← this, List.take_append_drop, List.take_append_drop]
/-- A store into a part of a known block. -/
theorem does_storeD {t e : TypeId} {x y : Operand} {b o n : Nat} {cs cs' : List Value} {V : Value} (hx : ev x = .pointer (some ⟨b, o, none⟩)) (hy : ev y = V) (hb : Has w b e cs) (hn : o + n ≤ cs.length) (hl : V.cells.size = n) (ht : (P.info? t).map (·.size) = some n) (h1 : (V.cells.toList.all fun u => u.oneCell') = true)
    (hc : cs.take o ++ (V.cells.toList ++ cs.drop (o + n)) = cs') (h : ∀ w', ExtE (fun k => k = b) w w' → w'.heap.size = w.heap.size → Has w' b e cs' → Ψ undef w') : Does P ev ⟨d, .store t x y, ty, pos, af, g⟩ w Ψ := by
  subst hc
  have hm : ((cs.drop o).take n).length = n := by simp; omega
  refine does_store (pre := cs.take o) (mid := (cs.drop o).take n) (post := cs.drop (o + n)) hx hy hb ?_ (by simp; omega) (by rw [hm, hl]) (by rw [hm]; exact ht) (fun u hu => List.all_eq_true.1 h1 u hu) h
  rw [← List.drop_drop, List.take_append_drop, List.take_append_drop]
theorem does_build {t : TypeId} {parts : Array (Nat × Operand)} {vs : Array (Nat × Value)} {V : Value} (hp : (parts.map fun (i, x) => (i, ev x)) = vs) (hr : (Instr.build t vs).run P w = .ok V w) (h : Ψ V w) : Does P ev ⟨d, .build t parts, ty, pos, af, g⟩ w Ψ := by
  refine Does.value (v := V) (w' := w) ?_ h
  simp only [execOp, hp, Sem.run_bind, hr]
  rfl
/-- A slice of what lies in a block: kept over a store into another one. -/
theorem SlT.over {α : Type} {T : Ty α} {lo hi : Nat} {xs : List α} {v : Value} {w w' : World} {b : Nat} (h : SlT T lo hi xs v w) (k : ExtE (fun k => k = b) w w') (hne : xs ≠ [] → v.ownBlock ≠ some b) : SlT T lo hi xs v w' := by
  obtain ⟨a, cap, hv, hc, hr⟩ := h
  refine ⟨a, cap, hv, hc, ?_⟩
  by_cases hx : xs = []
  · exact .inl hx
  · obtain ⟨b', o, ha, h1, h2, h3⟩ := hr.resolve_left hx
    have hb : b' ≠ b := by
      intro e
      apply hne hx
      rw [hv, ha, e]
      rfl
    exact .inr ⟨b', o, ha, h1, h2, fun i x hi' => range_ext (h3 i x hi') k (.inr hb)⟩
theorem SlT.old {α : Type} {T : Ty α} {lo hi : Nat} {xs : List α} {v : Value} {w : World} {b : Nat} (h : SlT T lo hi xs v w) (hb : w.heap.size ≤ b) : xs ≠ [] → v.ownBlock ≠ some b := by
  intro hx
  obtain ⟨a, cap, hv, hc, hr⟩ := h.close
  obtain ⟨b', o, ha, h1, h2, h3⟩ := hr.resolve_left hx
  rw [hv, ha]
  intro e
  have e' : b' = b := by simpa [Value.ownBlock] using e
  unfold Under at h2
  have := h3
  cases xs with
  | nil => exact hx rfl
  | cons x xs =>
    have h6 := h3 0 x rfl
    have hp : 0 < (T.enc x).length := by rw [T.len]; exact T.pos
    have := World.block_lt_of_cell? w _ (h6 0 _ (List.getElem?_eq_getElem hp))
    simp only at this
    omega
theorem SlT.low {α : Type} {T : Ty α} {lo n : Nat} {xs : List α} {v : Value} {w : World} {b : Nat} (h : SlT T lo (n + 1) xs v w) (hb : n ≤ b) : xs ≠ [] → v.ownBlock ≠ some b := by
  intro hx
  obtain ⟨a, cap, hv, hc, hr⟩ := h
  obtain ⟨b', o, ha, h1, h2, h3⟩ := hr.resolve_left hx
  rw [hv, ha]
  intro e
  have e' : b' = b := by simpa [Value.ownBlock] using e
  unfold Under at h2
  omega
end
end Sk
