/- My own calculus: a region whose operations may come up in any order, each of which extends memory: told operation by operation. -/
import Derived.WalkKit
import Derived.Deep.MidRow
import Derived.OrdersHeld
namespace Sk
open Go Go.RowKit

/-- What slot t holds. -/
def get (a : Act) (t : Nat) : Value := a.tmps.getD t undef

/-- The operation, carried out in world w, comes to a value of which Ψ holds. -/
def Does (P : Program) (ev : Operand → Value) (o : Oper) (w : World) (Ψ : Value → World → Prop) : Prop :=
  match (execOp ev o).run P w with
  | .ok (.value v) w' => Ψ v w'
  | .ok .skip w' => Ψ undef w'
  | .ok (.enter f args) w' => Calls P f args w' (fun e w'' => ∃ v, e = .returned v ∧ Ψ v w'')
  | _ => False

section
variable {P : Program} {ev : Operand → Value} {o : Oper} {w w' : World} {Ψ Ψ' : Value → World → Prop}

theorem Does.mono (h : Does P ev o w Ψ) (hh : ∀ v w, Ψ v w → Ψ' v w) : Does P ev o w Ψ' := by
  unfold Does at *
  split at h
  · exact hh _ _ h
  · exact hh _ _ h
  · exact h.mono fun e w'' ⟨v, he, hv⟩ => ⟨v, he, hh _ _ hv⟩
  · exact h.elim

theorem Does.value {v : Value} (hr : (execOp ev o).run P w = .ok (.value v) w') (h : Ψ v w') : Does P ev o w Ψ := by
  unfold Does; rw [hr]; exact h
theorem Does.skip (hr : (execOp ev o).run P w = .ok .skip w') (h : Ψ undef w') : Does P ev o w Ψ := by
  unfold Does; rw [hr]; exact h
theorem Does.enter {f : FuncId} {args : Array Value} (hr : (execOp ev o).run P w = .ok (.enter f args) w') (h : Calls P f args w' (fun e w'' => ∃ v, e = .returned v ∧ Ψ v w'')) : Does P ev o w Ψ := by
  unfold Does; rw [hr]; exact h

theorem Does.wp {a : Act} {K : Act → World → Prop} {Q : Exit → Act → World → Prop} (h : Does P a.eval o w (fun v w' => K (a.put o.dst v) w')) : o.wp P a w K Q := by
  unfold Does at h
  unfold Oper.wp
  generalize (execOp a.eval o).run P w = r at *
  cases r with
  | ok n w' =>
    cases n <;> simp only at h <;> simp only [Oper.upon]
    case value v => exact h
    case skip => exact h
    case enter f args => exact h.mono fun e w'' ⟨v, he, hv⟩ => by subst he; exact hv
  | halt x w' => simp only at h
end

/-- A predicate on a value in a world, kept by a relation. -/
structure Pr (R : World → World → Prop) where
  p : Value → World → Prop
  st : ∀ v w w', p v w → R w w' → p v w'

abbrev Tab (R : World → World → Prop) := List (Nat × Pr R)
def Tab.look {R : World → World → Prop} : Tab R → Nat → Value → World → Prop
  | [], _ => fun _ _ => True
  | (k, p) :: l, t => if k = t then p.p else Tab.look l t
def Tab.slots {R : World → World → Prop} (L : Tab R) : List Nat := L.map (·.1)
/-- What the table says of all its slots. -/
def Tab.all {R : World → World → Prop} (a : Act) (w : World) : Tab R → Prop
  | [] => True
  | (t, p) :: l => p.p (get a t) w ∧ Tab.all a w l

theorem Tab.look_st {R : World → World → Prop} : ∀ (L : Tab R) (t : Nat) (v : Value) (w w' : World), L.look t v w → R w w' → L.look t v w'
  | [], _, _, _, _, _, _ => trivial
  | (k, p) :: l, t, v, w, w', h, hr => by
    unfold Tab.look at *
    split at h
    · rename_i e; rw [if_pos e]; exact p.st _ _ _ h hr
    · rename_i e; rw [if_neg e]; exact Tab.look_st l t v w w' h hr

theorem Tab.all_of {R : World → World → Prop} {a : Act} {w : World} : ∀ (L : Tab R), L.slots.Nodup → (∀ t, t ∈ L.slots → L.look t (get a t) w) → L.all a w
  | [], _, _ => trivial
  | (k, p) :: l, hn, h => by
    have hn' : k ∉ Tab.slots l ∧ (Tab.slots l).Nodup := List.nodup_cons.1 hn
    refine ⟨?_, Tab.all_of l hn'.2 fun t ht => ?_⟩
    · have := h k (List.mem_cons_self ..)
      unfold Tab.look at this
      rwa [if_pos rfl] at this
    · have := h t (List.mem_cons_of_mem _ ht)
      unfold Tab.look at this
      rwa [if_neg (fun (e : k = t) => hn'.1 (by rw [e]; exact ht))] at this

/-- Nothing has turned but the slots ds, and the world by R. -/
structure Inv (R : World → World → Prop) (ds : List Nat) (a : Act) (w : World) (a' : Act) (w' : World) : Prop where
  size : a'.tmps.size = a.tmps.size
  defers : a'.defers = a.defers
  out : ∀ t, t ∉ ds → get a' t = get a t
  rel : R w w'

theorem get_put_same {a : Act} {d : Nat} {v : Value} (h : d < a.tmps.size) : get (a.put (some d) v) d = v := by
  unfold get Act.put
  simp [h]
theorem get_put_ne {a : Act} {d t : Nat} {v : Value} (h : d ≠ t) : get (a.put (some d) v) t = get a t := by
  unfold get Act.put
  simp [Array.getElem?_setIfInBounds_ne h]
theorem size_put {a : Act} {d : Option Nat} {v : Value} : (a.put d v).tmps.size = a.tmps.size := by
  cases d <;> simp [Act.put]
theorem defers_put {a : Act} {d : Option Nat} {v : Value} : (a.put d v).defers = a.defers := by
  cases d <;> simp [Act.put]

/-- The static look at a region: the first n operations write n unlike slots below N; what one reads of these slots it waits for; the others wait for all n. -/
def chk (ops : Array Oper) (n N : Nat) (ds : List Nat) : Bool :=
  decide (n ≤ ops.size) && decide ds.Nodup && ((List.range n).all fun i => match ops[i]? with
    | none => false
    | some o => (o.after.all fun e => !Region.binds .any e || decide (e.on < i)) && (match o.dst with | some d => ds.contains d && decide (d < N) && ((List.range n).all fun j => j == i || ((ops[j]?).bind (·.dst)) != some d) | none => false) &&
      ((o.looksAt ops).all fun t => !ds.contains t || ((List.range n).any fun j => ((ops[j]?).bind (·.dst)) == some t && o.after.any fun e => Region.binds .any e && e.on == j))) &&
  (ds.all fun d => (List.range n).any fun i => ((ops[i]?).bind (·.dst)) == some d)

/-- Does an operation wait for another one, over others? -/
def waits (ops : Array Oper) : Nat → Nat → Nat → Bool
  | 0, _, _ => false
  | k + 1, i, j => ((ops[i]?).map fun o => o.after.any fun e => Region.binds .any e && (e.on == j || waits ops k e.on j)).getD false
/-- The static look at a region's end: its first operation waits for all before it, each further one for the one before it. -/
def chkT (ops : Array Oper) (n : Nat) : Bool :=
  (decide (ops.size ≤ n) || (List.range n).all fun j => waits ops ops.size n j) &&
  ((List.range ops.size).all fun i => decide (i < n) || match ops[i]? with
    | none => false
    | some o => (o.after.all fun e => !Region.binds .any e || decide (e.on < i)) && (decide (i ≤ n) || o.after.any fun e => Region.binds .any e && e.on == i - 1))

theorem filter_same (p q : Nat → Bool) (i : Nat) (h : ∀ j, j ≠ i → q j = p j) : ∀ l : List Nat, i ∉ l → l.filter q = l.filter p
  | [], _ => rfl
  | x :: l, hn => by
    have hx : x ≠ i := fun e => hn (by rw [e]; exact List.mem_cons_self ..)
    have := filter_same p q i h l (fun hm => hn (List.mem_cons_of_mem _ hm))
    simp only [List.filter_cons, h x hx, this]
theorem filter_drop (p q : Nat → Bool) (i : Nat) (hp : p i = true) (hq : q i = false) (h : ∀ j, j ≠ i → q j = p j) : ∀ l : List Nat, l.Nodup → i ∈ l → (l.filter q).length + 1 = (l.filter p).length
  | [], _, hm => by cases hm
  | x :: l, hn, hm => by
    obtain ⟨h1, h2⟩ := List.nodup_cons.1 hn
    by_cases e : x = i
    · subst e
      simp only [List.filter_cons, hp, hq, if_true, Bool.false_eq_true, if_false, List.length_cons, filter_same p q x h l h1]
    · have hm' : i ∈ l := by
        rcases List.mem_cons.1 hm with h' | h'
        · exact absurd h'.symm e
        · exact h'
      have := filter_drop p q i hp hq h l h2 hm'
      simp only [List.filter_cons, h x e]
      split
      · simp only [List.length_cons]; omega
      · exact this

section
variable {P : Program} {ops : Array Oper} {Q : Exit → Act → World → Prop} {R R0 : World → World → Prop} {a : Act} {w : World} {n N s : Nat} {bx : List Nat} {L : Tab R}

/-- A pointer to a block that was made between two worlds. -/
def Fresh (w : World) (v : Value) (w' : World) : Prop := ∃ b, v = .pointer (some ⟨b, 0, none⟩) ∧ w.heap.size ≤ b ∧ b < w'.heap.size

/-- What is asked of operation number i (s: the one operation that turns more than R0). -/
def Ob (P : Program) (ops : Array Oper) (R0 R : World → World → Prop) (s : Nat) (bx : List Nat) (L : Tab R) (a : Act) (w : World) (i : Nat) : Prop :=
  ∀ o d, ops[i]? = some o → o.dst = some d → ∀ a' w', Inv (if i = s then R0 else R) L.slots a w a' w' →
    (∀ t, t ∈ o.looksAt ops → t ∈ L.slots → L.look t (get a' t) w') →
    (Region.wanted o (yielded ops a'.tmps) = true → Does P a'.eval o w' (fun v w'' => (if i = s then R else R0) w' w'' ∧ L.look d v w'' ∧ (d ∈ bx → Fresh w' v w''))) ∧
    (Region.wanted o (yielded ops a'.tmps) = false → L.look d undef w' ∧ d ∉ bx)

/-- How far the order has come: of the operations listed what the table says. -/
structure Done (ops : Array Oper) (n s : Nat) (R0 : World → World → Prop) (bx : List Nat) (L : Tab R) (a : Act) (w : World) (did : Nat → Prop) (a' : Act) (w' : World) : Prop where
  inv : Inv R L.slots a w a' w'
  early : ¬ did s → R0 w w'
  facts : ∀ i o d, i < n → ops[i]? = some o → o.dst = some d → did i → L.look d (get a' d) w'
  known : ∀ i o d, i < n → ops[i]? = some o → o.dst = some d → did i → d ∈ bx → ∃ b, get a' d = .pointer (some ⟨b, 0, none⟩) ∧ b < w'.heap.size
  unlike : ∀ i o d i' o' d', i < n → ops[i]? = some o → o.dst = some d → did i → d ∈ bx → i' < n → ops[i']? = some o' → o'.dst = some d' → did i' → d' ∈ bx → d ≠ d' → get a' d ≠ get a' d'

theorem chk_dst (hc : chk ops n N L.slots = true) {i : Nat} (hi : i < n) : ∃ o d, ops[i]? = some o ∧ o.dst = some d ∧ d ∈ L.slots ∧ d < N ∧ (∀ j oj, j < n → j ≠ i → ops[j]? = some oj → oj.dst ≠ some d) ∧
    (∀ t, t ∈ o.looksAt ops → t ∈ L.slots → ∃ j oj, j < n ∧ ops[j]? = some oj ∧ oj.dst = some t ∧ ∃ e ∈ o.after, Region.binds .any e = true ∧ e.on = j) := by
  unfold chk at hc
  simp only [Bool.and_eq_true] at hc
  obtain ⟨⟨⟨_, _⟩, h1⟩, _⟩ := hc
  have h2 := List.all_eq_true.1 h1 i (List.mem_range.2 hi)
  cases ho : ops[i]? with
  | none => simp [ho] at h2
  | some o =>
    simp only [ho, Bool.and_eq_true] at h2
    obtain ⟨⟨_, h3⟩, h4⟩ := h2
    cases hd : o.dst with
    | none => simp [hd] at h3
    | some d =>
      simp only [hd, Bool.and_eq_true] at h3
      obtain ⟨⟨h5, h6⟩, h7⟩ := h3
      refine ⟨o, d, rfl, hd, by simpa using h5, by simpa using h6, ?_, ?_⟩
      · intro j oj hj hne hoj hdj
        have h8 := List.all_eq_true.1 h7 j (List.mem_range.2 hj)
        simp only [hoj, Option.bind_some, hdj, bne_self_eq_false, Bool.or_false, beq_iff_eq] at h8
        exact hne h8
      · intro t ht hts
        have h8 := List.all_eq_true.1 h4 t ht
        simp only [List.contains_iff_mem.2 hts, Bool.not_true, Bool.false_or] at h8
        obtain ⟨j, hj, h9⟩ := List.any_eq_true.1 h8
        simp only [Bool.and_eq_true, beq_iff_eq] at h9
        obtain ⟨h10, h11⟩ := h9
        obtain ⟨e, he, h12⟩ := Array.any_eq_true'.1 h11
        simp only [Bool.and_eq_true, beq_iff_eq] at h12
        cases hoj : ops[j]? with
        | none => simp [hoj] at h10
        | some oj => exact ⟨j, oj, List.mem_range.1 hj, hoj, by simpa [hoj] using h10, e, he, h12.1, h12.2⟩

theorem chk_back (hc : chk ops n N L.slots = true) {i : Nat} (hi : i < n) {o : Oper} (ho : ops[i]? = some o) : ∀ e ∈ o.after, Region.binds .any e = true → e.on < i := by
  unfold chk at hc
  simp only [Bool.and_eq_true] at hc
  obtain ⟨⟨⟨_, _⟩, h1⟩, _⟩ := hc
  have h2 := List.all_eq_true.1 h1 i (List.mem_range.2 hi)
  simp only [ho, Bool.and_eq_true] at h2
  obtain ⟨⟨h3, _⟩, _⟩ := h2
  intro e he hb
  have := Array.all_eq_true_iff_forall_mem.1 h3 e he
  simpa [hb] using this

theorem waits_listed {listed : Array Bool} (hcl : ∀ i o, listed.getD i false = true → ops[i]? = some o → ∀ e ∈ o.after, Region.binds .any e = true → listed.getD e.on false = true) :
    ∀ (k i j : Nat), waits ops k i j = true → (∀ o, ops[i]? = some o → ∀ e ∈ o.after, Region.binds .any e = true → listed.getD e.on false = true) → listed.getD j false = true
  | 0, _, _, h, _ => by simp [waits] at h
  | k + 1, i, j, h, hr => by
    unfold waits at h
    cases ho : ops[i]? with
    | none => simp [ho] at h
    | some o =>
      simp only [ho, Option.map_some, Option.getD_some] at h
      obtain ⟨e, he, h1⟩ := Array.any_eq_true'.1 h
      simp only [Bool.and_eq_true, Bool.or_eq_true, beq_iff_eq] at h1
      obtain ⟨hb, h2⟩ := h1
      have hl := hr o ho e he hb
      rcases h2 with h2 | h2
      · rw [← h2]; exact hl
      · exact waits_listed hcl k e.on j h2 fun o' ho' e' he' hb' => hcl e.on o' hl ho' e' he' hb'

theorem chkT_first (hc : chkT ops n = true) (hn : n < ops.size) {j : Nat} (hj : j < n) : waits ops ops.size n j = true := by
  unfold chkT at hc
  simp only [Bool.and_eq_true, Bool.or_eq_true, decide_eq_true_eq] at hc
  rcases hc.1 with h | h
  · omega
  · exact List.all_eq_true.1 h j (List.mem_range.2 hj)
theorem chkT_spec (hc : chkT ops n = true) {i : Nat} (hi : ¬ i < n) {o : Oper} (ho : ops[i]? = some o) : (∀ e ∈ o.after, Region.binds .any e = true → e.on < i) ∧ (n < i → ∃ e ∈ o.after, Region.binds .any e = true ∧ e.on = i - 1) := by
  unfold chkT at hc
  simp only [Bool.and_eq_true] at hc
  have hlt : i < ops.size := (Array.getElem?_eq_some_iff.1 ho).1
  have h2 := List.all_eq_true.1 hc.2 i (List.mem_range.2 hlt)
  simp only [ho, hi, decide_false, Bool.false_or, Bool.and_eq_true, Bool.or_eq_true, decide_eq_true_eq] at h2
  refine ⟨fun e he hb => ?_, fun hni => ?_⟩
  · have := Array.all_eq_true_iff_forall_mem.1 h2.1 e he
    simpa [hb] using this
  · obtain ⟨e, he, h4⟩ := Array.any_eq_true'.1 (h2.2.resolve_left (by omega))
    simp only [Bool.and_eq_true, beq_iff_eq] at h4
    exact ⟨e, he, h4.1, h4.2⟩

theorem chk_size (hc : chk ops n N L.slots = true) : n ≤ ops.size ∧ L.slots.Nodup := by
  unfold chk at hc
  simp only [Bool.and_eq_true] at hc
  obtain ⟨⟨⟨h1, h2⟩, _⟩, _⟩ := hc
  exact ⟨of_decide_eq_true h1, of_decide_eq_true h2⟩

theorem chk_all (hc : chk ops n N L.slots = true) {d : Nat} (hd : d ∈ L.slots) : ∃ i o, i < n ∧ ops[i]? = some o ∧ o.dst = some d := by
  unfold chk at hc
  simp only [Bool.and_eq_true] at hc
  obtain ⟨_, h1⟩ := hc
  obtain ⟨i, hi, h2⟩ := List.any_eq_true.1 (List.all_eq_true.1 h1 d hd)
  simp only [beq_iff_eq] at h2
  cases ho : ops[i]? with
  | none => simp [ho] at h2
  | some o => exact ⟨i, o, List.mem_range.1 hi, ho, by simpa [ho] using h2⟩

/-- One of the first n comes up, all that it waits for being done. -/
theorem rg_step (hN : a.tmps.size = N) (hc : chk ops n N L.slots = true) (ht : ∀ x y z, R x y → R y z → R x z) (h0 : ∀ x y, R0 x y → R x y) (ht0 : ∀ x y z, R0 x y → R0 y z → R0 x z) (hsz : ∀ x y, R x y → x.heap.size ≤ y.heap.size)
    {i : Nat} (hi : i < n) (hob : Ob P ops R0 R s bx L a w i) {did : Nat → Prop} (hnot : ¬ did i) {a' : Act} {w' : World} (hD : Done ops n s R0 bx L a w did a' w')
    (hready : ∀ o, ops[i]? = some o → ∀ e ∈ o.after, Region.binds .any e = true → did e.on) {K : Act → World → Prop}
    (hK : ∀ a'' w'', Done ops n s R0 bx L a w (fun j => did j ∨ j = i) a'' w'' → K a'' w'') : wpOp P ops Q i K a' w' := by
  obtain ⟨o, d, ho, hd, hds, hdN, huniq, hlook⟩ := chk_dst hc hi
  have hinv : Inv (if i = s then R0 else R) L.slots a w a' w' := by
    refine ⟨hD.inv.size, hD.inv.defers, hD.inv.out, ?_⟩
    by_cases e : i = s
    · rw [if_pos e]; exact hD.early (e ▸ hnot)
    · rw [if_neg e]; exact hD.inv.rel
  have hfacts : ∀ t, t ∈ o.looksAt ops → t ∈ L.slots → L.look t (get a' t) w' := by
    intro t h1 h2
    obtain ⟨j, oj, hj, hoj, hdj, e, he, hb, hej⟩ := hlook t h1 h2
    exact hD.facts j oj t hj hoj hdj (hej ▸ hready o ho e he hb)
  obtain ⟨hyes, hno⟩ := hob o d ho hd a' w' hinv hfacts
  have hsz' : d < a'.tmps.size := by rw [hD.inv.size, hN]; exact hdN
  have next : ∀ v w'', R w' w'' → (i ≠ s → R0 w' w'') → L.look d v w'' → (d ∈ bx → Fresh w' v w'') → Done ops n s R0 bx L a w (fun j => did j ∨ j = i) (a'.put o.dst v) w'' := by
    intro v w'' hr' hr0 hl hfr
    rw [hd]
    have hold : ∀ j oj dj, j < n → ops[j]? = some oj → oj.dst = some dj → (did j ∨ j = i) → dj ≠ d → did j ∧ get (a'.put (some d) v) dj = get a' dj := by
      intro j oj dj hj hoj hdj hdid hne
      have e : j ≠ i := by
        rintro rfl
        rw [ho] at hoj
        cases hoj
        rw [hd] at hdj
        exact hne (Option.some.inj hdj).symm
      exact ⟨hdid.resolve_right e, get_put_ne (Ne.symm hne)⟩
    refine ⟨⟨by rw [size_put, hD.inv.size], by rw [defers_put, hD.inv.defers], fun t hts => ?_, ht _ _ _ hD.inv.rel hr'⟩, fun hns => ?_, ?_, ?_, ?_⟩
    · rw [get_put_ne (fun (e : d = t) => hts (by rw [← e]; exact hds))]; exact hD.inv.out t hts
    · exact ht0 _ _ _ (hD.early fun h => hns (.inl h)) (hr0 fun e => hns (.inr e.symm))
    · intro j oj dj hj hoj hdj hdid
      by_cases e : dj = d
      · subst e
        rw [get_put_same hsz']; exact hl
      · obtain ⟨h1, h2⟩ := hold j oj dj hj hoj hdj hdid e
        rw [h2]
        exact Tab.look_st L _ _ _ _ (hD.facts j oj dj hj hoj hdj h1) hr'
    · intro j oj dj hj hoj hdj hdid hbx
      by_cases e : dj = d
      · subst e
        rw [get_put_same hsz']
        obtain ⟨b, hv, _, hb⟩ := hfr hbx
        exact ⟨b, hv, hb⟩
      · obtain ⟨h1, h2⟩ := hold j oj dj hj hoj hdj hdid e
        obtain ⟨b, hv, hb⟩ := hD.known j oj dj hj hoj hdj h1 hbx
        exact ⟨b, by rw [h2]; exact hv, Nat.lt_of_lt_of_le hb (hsz _ _ hr')⟩
    · intro j oj dj j' oj' dj' hj hoj hdj hdid hbx hj' hoj' hdj' hdid' hbx' hne
      by_cases e : dj = d
      · have e' : dj' ≠ d := fun h => hne (e.trans h.symm)
        obtain ⟨h1, h2⟩ := hold j' oj' dj' hj' hoj' hdj' hdid' e'
        subst e
        rw [get_put_same hsz', h2]
        obtain ⟨b, hv, hb, _⟩ := hfr hbx
        obtain ⟨b', hv', hb'⟩ := hD.known j' oj' dj' hj' hoj' hdj' h1 hbx'
        rw [hv, hv']
        intro h
        cases h
        omega
      · obtain ⟨h1, h2⟩ := hold j oj dj hj hoj hdj hdid e
        by_cases e' : dj' = d
        · subst e'
          rw [get_put_same hsz', h2]
          obtain ⟨b, hv, hb, _⟩ := hfr hbx'
          obtain ⟨b', hv', hb'⟩ := hD.known j oj dj hj hoj hdj h1 hbx
          rw [hv, hv']
          intro h
          cases h
          omega
        · obtain ⟨h1', h2'⟩ := hold j' oj' dj' hj' hoj' hdj' hdid' e'
          rw [h2, h2']
          exact hD.unlike j oj dj j' oj' dj' hj hoj hdj h1 hbx hj' hoj' hdj' h1' hbx' hne
  unfold wpOp
  simp only [ho]
  split
  · rename_i hw
    refine .inl (Does.wp ((hyes hw).mono fun v w'' ⟨hr, hl, hfr⟩ => hK _ _ (next v w'' ?_ (fun e => by rwa [if_neg e] at hr) hl hfr)))
    by_cases e : i = s
    · rwa [if_pos e] at hr
    · rw [if_neg e] at hr; exact h0 _ _ hr
  · rename_i hw
    have hw' : Region.wanted o (yielded ops a'.tmps) = false := by simpa using hw
    obtain ⟨hn1, hn2⟩ := hno hw'
    refine hK _ _ ?_
    rw [hd]
    have hold : ∀ j oj dj, j < n → ops[j]? = some oj → oj.dst = some dj → (did j ∨ j = i) → dj ≠ d → did j ∧ get (a'.put (some d) undef) dj = get a' dj := by
      intro j oj dj hj hoj hdj hdid hne
      have e : j ≠ i := by
        rintro rfl
        rw [ho] at hoj
        cases hoj
        rw [hd] at hdj
        exact hne (Option.some.inj hdj).symm
      exact ⟨hdid.resolve_right e, get_put_ne (Ne.symm hne)⟩
    refine ⟨⟨by rw [size_put, hD.inv.size], by rw [defers_put, hD.inv.defers], fun t hts => ?_, hD.inv.rel⟩, fun hns => hD.early fun h => hns (.inl h), ?_, ?_, ?_⟩
    · rw [get_put_ne (fun (e : d = t) => hts (by rw [← e]; exact hds))]; exact hD.inv.out t hts
    · intro j oj dj hj hoj hdj hdid
      by_cases e : dj = d
      · subst e
        rw [get_put_same hsz']; exact hn1
      · obtain ⟨h1, h2⟩ := hold j oj dj hj hoj hdj hdid e
        rw [h2]
        exact hD.facts j oj dj hj hoj hdj h1
    · intro j oj dj hj hoj hdj hdid hbx
      have e : dj ≠ d := fun e => hn2 (e ▸ hbx)
      obtain ⟨h1, h2⟩ := hold j oj dj hj hoj hdj hdid e
      rw [h2]
      exact hD.known j oj dj hj hoj hdj h1 hbx
    · intro j oj dj j' oj' dj' hj hoj hdj hdid hbx hj' hoj' hdj' hdid' hbx' hne
      have e : dj ≠ d := fun e => hn2 (e ▸ hbx)
      have e' : dj' ≠ d := fun e => hn2 (e ▸ hbx')
      obtain ⟨h1, h2⟩ := hold j oj dj hj hoj hdj hdid e
      obtain ⟨h1', h2'⟩ := hold j' oj' dj' hj' hoj' hdj' hdid' e'
      rw [h2, h2']
      exact hD.unlike j oj dj j' oj' dj' hj hoj hdj h1 hbx hj' hoj' hdj' h1' hbx' hne

/-- Any two of these slots hold unlike values. -/
def AllUnlike (a : Act) : List Nat → Prop
  | [] => True
  | d :: l => (∀ d', d' ∈ l → get a d ≠ get a d') ∧ AllUnlike a l

theorem done_all (hc : chk ops n N L.slots = true) (hbx : bx.Nodup ∧ ∀ d, d ∈ bx → d ∈ L.slots) {did : Nat → Prop} (hall : ∀ i, i < n → did i) {a' : Act} {w' : World} (hD : Done ops n s R0 bx L a w did a' w') : Inv R L.slots a w a' w' ∧ L.all a' w' ∧ AllUnlike a' bx := by
  refine ⟨hD.inv, ?_, ?_⟩
  rotate_left
  · have key : ∀ l : List Nat, l.Nodup → (∀ d, d ∈ l → d ∈ bx) → AllUnlike a' l := by
      intro l
      induction l with
      | nil => intro _ _; trivial
      | cons d l ih =>
        intro hn hm
        obtain ⟨h1, h2⟩ := List.nodup_cons.1 hn
        refine ⟨fun d' hd' => ?_, ih h2 fun x hx => hm x (List.mem_cons_of_mem _ hx)⟩
        have hb := hm d (List.mem_cons_self ..)
        have hb' := hm d' (List.mem_cons_of_mem _ hd')
        obtain ⟨i, o, hi, ho, hd⟩ := chk_all hc (hbx.2 d hb)
        obtain ⟨i', o', hi', ho', hdd'⟩ := chk_all hc (hbx.2 d' hb')
        exact hD.unlike i o d i' o' d' hi ho hd (hall i hi) hb hi' ho' hdd' (hall i' hi') hb' (fun e => h1 (e ▸ hd'))
    exact key bx hbx.1 fun _ h => h
  exact (Tab.all_of L (chk_size hc).2 fun t ht => by
    obtain ⟨i, o, hi, ho, hd⟩ := chk_all hc ht
    exact hD.facts i o t hi ho hd (hall i hi))

/-- THE ORDER OF THE TEXT. -/
theorem rg_lex (hN : a.tmps.size = N) (hc : chk ops n N L.slots = true) (hrefl : ∀ x, R x x) (hrefl0 : ∀ x, R0 x x) (ht : ∀ x y z, R x y → R y z → R x z) (h0 : ∀ x y, R0 x y → R x y) (ht0 : ∀ x y z, R0 x y → R0 y z → R0 x z) (hgrow : ∀ x y, R x y → x.heap.size ≤ y.heap.size) (hbx : bx.Nodup ∧ ∀ d, d ∈ bx → d ∈ L.slots)
    (hob : ∀ i, i < n → Ob P ops R0 R s bx L a w i)
    (htail : ∀ a' w', Inv R L.slots a w a' w' → L.all a' w' → AllUnlike a' bx → wpOps P ops Q (List.range' n (ops.size - n)) a' w') : wpOps P ops Q (List.range ops.size) a w := by
  have key : ∀ k i, i + k = n → ∀ a' w', Done ops n s R0 bx L a w (fun j => j < i) a' w' → wpOps P ops Q (List.range' i (ops.size - i)) a' w' := by
    intro k
    induction k with
    | zero =>
      intro i hi a' w' hD
      have : i = n := by omega
      subst this
      obtain ⟨h1, h2, h3⟩ := done_all hc hbx (fun j hj => hj) hD
      exact htail a' w' h1 h2 h3
    | succ k ih =>
      intro i hi a' w' hD
      have hin : i < n := by omega
      have hsz := (chk_size hc).1
      rw [show ops.size - i = (ops.size - (i + 1)) + 1 by omega, List.range'_succ, wpOps_cons]
      refine rg_step (did := fun j => j < i) hN hc ht h0 ht0 hgrow hin (hob i hin) (Nat.lt_irrefl i) hD (fun o ho e he hb => chk_back hc hin ho e he hb) ?_
      intro a'' w'' hD'
      have tr : ∀ j, j < i + 1 → (j < i ∨ j = i) := fun j h => by omega
      exact ih (i + 1) (by omega) a'' w'' ⟨hD'.inv, fun h => hD'.early fun h' => h (by rcases h' with h' | h' <;> omega), fun j oj dj hj hoj hdj hd => hD'.facts j oj dj hj hoj hdj (tr j hd), fun j oj dj hj hoj hdj hd => hD'.known j oj dj hj hoj hdj (tr j hd),
        fun j oj dj j' oj' dj' hj hoj hdj hd hb hj' hoj' hdj' hd' => hD'.unlike j oj dj j' oj' dj' hj hoj hdj (tr j hd) hb hj' hoj' hdj' (tr j' hd')⟩
  rw [List.range_eq_range']
  exact key n 0 (by omega) a w ⟨⟨rfl, rfl, fun _ _ => rfl, hrefl w⟩, fun _ => hrefl0 w, fun j _ _ _ _ _ h => absurd h (Nat.not_lt_zero j), fun j _ _ _ _ _ h => absurd h (Nat.not_lt_zero j), fun j _ _ _ _ _ _ _ _ h => absurd h (Nat.not_lt_zero j)⟩

/-- The end of a region: one operation behind the other. -/
theorem tail_any (hc : chkT ops n = true) : ∀ (l : List Oper) (m : Nat), n ≤ m → m + l.length = ops.size → (∀ j, l[j]? = ops[m + j]?) → ∀ (listed : Array Bool), listed.size = ops.size → (∀ j, j < ops.size → (listed.getD j false = true ↔ j < m)) →
    ∀ a w, wpList P ops Q l a w → wpAny P .any ops Q l.length listed a w
  | [], m, hnm, hm, _, listed, hls, hl, a, w, h => by
    refine ⟨?_, h⟩
    simp only [List.length_nil, Nat.add_zero] at hm
    apply List.eq_nil_iff_forall_not_mem.2
    intro i hi
    obtain ⟨hun, o, ho, _⟩ := mem_ready.1 hi
    have hlt : i < ops.size := (Array.getElem?_eq_some_iff.1 ho).1
    have := (hl i hlt).2 (by omega)
    simp [show i < listed.size by omega] at hun this
    rw [hun] at this
    cases this
  | o :: l, m, hnm, hm, hel, listed, hls, hl, a, w, h => by
    have hom : ops[m]? = some o := by have := hel 0; simpa using this.symm
    have hmlt : m < ops.size := (Array.getElem?_eq_some_iff.1 hom).1
    have hmem : m ∈ Region.ready .any ops listed := by
      refine mem_ready.2 ⟨?_, o, hom, fun e he hb => ?_⟩
      · have : ¬ listed.getD m false = true := fun h => by have := (hl m hmlt).1 h; omega
        simp [show m < listed.size by omega] at this ⊢
        exact this
      · have := (chkT_spec hc (by omega) hom).1 e he hb
        exact (hl e.on (by omega)).2 this
    refine ⟨fun h0 => (by rw [h0] at hmem; cases hmem), fun i hi => ?_⟩
    have him : i = m := by
      obtain ⟨hun, o', ho', hall⟩ := mem_ready.1 hi
      have hlt : i < ops.size := (Array.getElem?_eq_some_iff.1 ho').1
      have h1 : ¬ i < m := fun h => by
        have := (hl i hlt).2 h
        simp [show i < listed.size by omega] at hun this
        rw [hun] at this
        cases this
      apply Classical.byContradiction
      intro hne
      obtain ⟨e, he, hb, hei⟩ := (chkT_spec hc (by omega) ho').2 (by omega)
      have h2 := (hl e.on (by omega)).1 (hall e he hb)
      omega
    subst him
    unfold wpList at h
    have next : ∀ a w, wpList P ops Q l a w → wpAny P .any ops Q l.length (listed.setIfInBounds i true) a w := fun a w h =>
      tail_any hc l (i + 1) (by omega) (by simp only [List.length_cons] at hm; omega) (fun j => by have := hel (j + 1); rw [List.getElem?_cons_succ] at this; rw [this]; congr 1; omega) _ (by simp [hls]) (fun j hj => by
        by_cases e : j = i
        · subst e; simp [show j < listed.size by omega]
        · rw [getD_set_ne false (Ne.symm e), hl j hj]; omega) a w h
    unfold wpOp
    simp only [hom]
    split
    · rename_i hw
      rw [if_pos hw] at h
      exact h.imp (Oper.wp_mono fun a w h => next a w h) id
    · rename_i hw
      rw [if_neg hw] at h
      exact next _ _ h

/-- WHATEVER ORDER. -/
theorem rg_any (hN : a.tmps.size = N) (hc : chk ops n N L.slots = true) (hrefl : ∀ x, R x x) (hrefl0 : ∀ x, R0 x x) (ht : ∀ x y z, R x y → R y z → R x z) (h0 : ∀ x y, R0 x y → R x y) (ht0 : ∀ x y z, R0 x y → R0 y z → R0 x z) (hgrow : ∀ x y, R x y → x.heap.size ≤ y.heap.size) (hbx : bx.Nodup ∧ ∀ d, d ∈ bx → d ∈ L.slots)
    (hcT : chkT ops n = true) (hob : ∀ i, i < n → Ob P ops R0 R s bx L a w i) (tl : List Oper) (htl : n + tl.length = ops.size ∧ ∀ j, tl[j]? = ops[n + j]?)
    (htail : ∀ a' w', Inv R L.slots a w a' w' → L.all a' w' → AllUnlike a' bx → wpList P ops Q tl a' w') :
    wpAny P .any ops Q ops.size (Array.replicate ops.size false) a w := by
  have hsz := (chk_size hc).1
  -- while an operation of the first n is not listed, none behind it is
  have key : ∀ k (listed : Array Bool) a' w', listed.size = ops.size → (∀ j, ¬ j < n → listed.getD j false = false) → ((List.range n).filter fun j => !listed.getD j false).length = k →
      (∀ i o, listed.getD i false = true → ops[i]? = some o → ∀ e ∈ o.after, Region.binds .any e = true → listed.getD e.on false = true) →
      Done ops n s R0 bx L a w (fun j => listed.getD j false = true) a' w' → wpAny P .any ops Q (k + (ops.size - n)) listed a' w' := by
    intro k
    induction k with
    | zero =>
      intro listed a' w' hls hout hk _ hD
      have hall : ∀ j, j < n → listed.getD j false = true := by
        intro j hj
        have h1 := List.length_eq_zero_iff.1 hk
        have h2 := (List.filter_eq_nil_iff.1 h1) j (List.mem_range.2 hj)
        simpa using h2
      obtain ⟨h1, h2, h3⟩ := done_all hc hbx hall hD
      rw [Nat.zero_add, show ops.size - n = tl.length by omega]
      exact tail_any hcT tl n (Nat.le_refl n) htl.1 htl.2 listed hls (fun j _ => ⟨fun h => Classical.byContradiction fun hn => (by rw [hout j hn] at h; cases h), fun h => hall j h⟩) a' w' (htail a' w' h1 h2 h3)
    | succ k ih =>
      intro listed a' w' hls hout hk hcl hD
      have hin : ∀ i, i ∈ Region.ready .any ops listed → i < n ∧ listed.getD i false = false := by
        intro i hi
        obtain ⟨hun, o, ho, hall⟩ := mem_ready.1 hi
        have hlt : i < listed.size := by rw [hls]; exact (Array.getElem?_eq_some_iff.1 ho).1
        have hun' : listed.getD i false = false := by
          simp [hlt] at hun ⊢; exact hun
        refine ⟨?_, hun'⟩
        apply Classical.byContradiction
        intro hni
        have hall' : ∀ j, j < n → listed.getD j false = true := by
          intro j hj
          have hisz : i < ops.size := (Array.getElem?_eq_some_iff.1 ho).1
          by_cases hin : i = n
          · subst hin
            exact waits_listed hcl ops.size i j (chkT_first hcT hisz hj) fun o' ho' e he hb => by rw [ho] at ho'; cases ho'; exact hall e he hb
          · obtain ⟨e, he, hb, hei⟩ := (chkT_spec hcT hni ho).2 (by omega)
            have h1 := hall e he hb
            rw [hout e.on (by omega)] at h1
            cases h1
        have : ((List.range n).filter fun j => !listed.getD j false) = [] := by
          rw [List.filter_eq_nil_iff]
          intro j hj
          simp [hall' j (List.mem_range.1 hj)]
        rw [this] at hk
        simp at hk
      rw [show k + 1 + (ops.size - n) = (k + (ops.size - n)) + 1 by omega]
      refine ⟨fun hnil => ?_, fun i hi => ?_⟩
      · -- the least that is not listed is ready
        exfalso
        have hex : ∃ j, j < n ∧ listed.getD j false = false := by
          apply Classical.byContradiction
          intro hno
          have : ((List.range n).filter fun j => !listed.getD j false) = [] := by
            rw [List.filter_eq_nil_iff]
            intro j hj
            have := List.mem_range.1 hj
            cases h : listed.getD j false with
            | true => simp
            | false => exact absurd ⟨j, this, h⟩ hno
          rw [this] at hk
          simp at hk
        have least : ∀ m j, j ≤ m → j < n → listed.getD j false = false → ∃ i, i < n ∧ listed.getD i false = false ∧ ∀ j', j' < i → listed.getD j' false = true := by
          intro m
          induction m with
          | zero => intro j hj h1 h2; exact ⟨j, h1, h2, fun j' hj' => by omega⟩
          | succ m ihm =>
            intro j hj h1 h2
            by_cases h3 : ∃ j', j' < j ∧ listed.getD j' false = false
            · obtain ⟨j', h4, h5⟩ := h3
              exact ihm j' (by omega) (by omega) h5
            · refine ⟨j, h1, h2, fun j' hj' => ?_⟩
              cases h : listed.getD j' false with
              | true => rfl
              | false => exact absurd ⟨j', hj', h⟩ h3
        obtain ⟨j, hj1, hj2⟩ := hex
        obtain ⟨i, hi1, hi2, hi3⟩ := least j j (Nat.le_refl j) hj1 hj2
        obtain ⟨o, d, ho, _⟩ := chk_dst hc hi1
        have hlt : i < listed.size := by rw [hls]; exact (Array.getElem?_eq_some_iff.1 ho).1
        have : i ∈ Region.ready .any ops listed := mem_ready.2 ⟨by simp [hlt] at hi2 ⊢; exact hi2, o, ho, fun e he hb => hi3 _ (chk_back hc hi1 ho e he hb)⟩
        rw [hnil] at this
        cases this
      · obtain ⟨hi', hun⟩ := hin i hi
        obtain ⟨_, o, ho, hall⟩ := mem_ready.1 hi
        refine rg_step hN hc ht h0 ht0 hgrow hi' (hob i hi') (by simp [hun]) hD (fun o' ho' e he hb => by rw [ho] at ho'; cases ho'; exact hall e he hb) ?_
        intro a'' w'' hD'
        have hlt : i < listed.size := by rw [hls]; exact (Array.getElem?_eq_some_iff.1 ho).1
        have hset : ∀ j, (listed.setIfInBounds i true).getD j false = true ↔ (listed.getD j false = true ∨ j = i) := by
          intro j
          by_cases e : j = i
          · subst e; simp [hlt]
          · rw [getD_set_ne false (Ne.symm e)]; simp [e]
        refine ih _ a'' w'' (by simp [hls]) (fun j hj => ?_) ?_ ?_ ⟨hD'.inv, fun h => hD'.early fun h' => h ((hset s).2 h'), fun j oj dj hj hoj hdj hd => hD'.facts j oj dj hj hoj hdj ((hset j).1 hd), fun j oj dj hj hoj hdj hd => hD'.known j oj dj hj hoj hdj ((hset j).1 hd), fun j oj dj j' oj' dj' hj hoj hdj hd hb hj' hoj' hdj' hd' => hD'.unlike j oj dj j' oj' dj' hj hoj hdj ((hset j).1 hd) hb hj' hoj' hdj' ((hset j').1 hd')⟩
        · rw [getD_set_ne false (by omega)]; exact hout j hj
        · have := filter_drop (fun j => !listed.getD j false) (fun j => !(listed.setIfInBounds i true).getD j false) i (by simp [hun]) (by simp [hlt]) (fun j hj => by rw [getD_set_ne false (Ne.symm hj)]) (List.range n) List.nodup_range (List.mem_range.2 hi')
          omega
        · intro i' o' hl' ho' e he hb
          rcases (hset i').1 hl' with h' | h'
          · exact (hset e.on).2 (.inl (hcl i' o' h' ho' e he hb))
          · subst h'
            rw [ho] at ho'
            cases ho'
            exact (hset e.on).2 (.inl (hall e he hb))
  have := key n (Array.replicate ops.size false) a w (by simp) (fun j _ => by simp [Array.getElem?_replicate]; split <;> rfl) (by
    rw [List.filter_eq_self.2]
    · simp
    · intro j _; simp [Array.getElem?_replicate]; split <;> rfl) (fun i o h => by
      simp [Array.getElem?_replicate] at h; split at h <;> simp at h) ⟨⟨rfl, rfl, fun _ _ => rfl, hrefl w⟩, fun _ => hrefl0 w, fun j _ _ _ _ _ h => by
      simp [Array.getElem?_replicate] at h; split at h <;> simp at h, fun j _ _ _ _ _ h => by
      simp [Array.getElem?_replicate] at h; split at h <;> simp at h, fun j _ _ _ _ _ _ _ _ h => by
      simp [Array.getElem?_replicate] at h; split at h <;> simp at h⟩
  rwa [show n + (ops.size - n) = ops.size by omega] at this

/-! ### A store that may come up before what it doesn't wait for: the latter is taken first -/

/-- The end of a region in the order of the text, S held behind each operation. -/
def wpListS (P : Program) (ops : Array Oper) (Q : Exit → Act → World → Prop) (S : World → Prop) : List Oper → Act → World → Prop
  | [], a, w => Q .normal a w
  | o :: rest, a, w => if Region.wanted o (yielded ops a.tmps) then o.wp P a w (fun a' w' => S w' ∧ wpListS P ops Q S rest a' w') Q ∨ (o.asks P a w ∧ LetsOut Q) else S w ∧ wpListS P ops Q S rest (a.put o.dst undef) w

/-- The static look: the end's first operation waits for all before it but those that are late; whoever doesn't wait for a late one is apart from it. -/
def chkL (ops : Array Oper) (n : Nat) (late : List Nat) : Bool :=
  Region.noSelect ops && (decide (ops.size ≤ n) || (List.range n).all fun j => late.contains j || waits ops ops.size n j) &&
  ((List.range ops.size).all fun i => decide (i < n) || match ops[i]? with
    | none => false
    | some o => (o.after.all fun e => !Region.binds .any e || decide (e.on < i)) && (decide (i ≤ n) || o.after.any fun e => Region.binds .any e && e.on == i - 1)) &&
  (late.all fun j => match ops[j]? with
    | none => true
    | some oj => (List.range ops.size).all fun k => k == j || match ops[k]? with
      | some ok => ok.after.any (fun e => Region.binds .any e && e.on == j) || (oj.after.any (fun e => Region.binds .any e && e.on == k) || oj.apart ops ok)
      | none => true)

theorem chkL_first {late : List Nat} (hc : chkL ops n late = true) (hn : n < ops.size) {j : Nat} (hj : j < n) (hl : j ∉ late) : waits ops ops.size n j = true := by
  unfold chkL at hc
  simp only [Bool.and_eq_true, Bool.or_eq_true, decide_eq_true_eq] at hc
  rcases hc.1.1.2 with h | h
  · omega
  · have := List.all_eq_true.1 h j (List.mem_range.2 hj)
    simp only [Bool.or_eq_true, List.contains_iff_mem] at this
    exact this.resolve_left hl
theorem chkL_spec {late : List Nat} (hc : chkL ops n late = true) {i : Nat} (hi : ¬ i < n) {o : Oper} (ho : ops[i]? = some o) : (∀ e ∈ o.after, Region.binds .any e = true → e.on < i) ∧ (n < i → ∃ e ∈ o.after, Region.binds .any e = true ∧ e.on = i - 1) := by
  unfold chkL at hc
  simp only [Bool.and_eq_true] at hc
  have hlt : i < ops.size := (Array.getElem?_eq_some_iff.1 ho).1
  have h2 := List.all_eq_true.1 hc.1.2 i (List.mem_range.2 hlt)
  simp only [ho, hi, decide_false, Bool.false_or, Bool.and_eq_true, Bool.or_eq_true, decide_eq_true_eq] at h2
  refine ⟨fun e he hb => ?_, fun hni => ?_⟩
  · have := Array.all_eq_true_iff_forall_mem.1 h2.1 e he
    simpa [hb] using this
  · obtain ⟨e, he, h4⟩ := Array.any_eq_true'.1 (h2.2.resolve_left (by omega))
    simp only [Bool.and_eq_true, beq_iff_eq] at h4
    exact ⟨e, he, h4.1, h4.2⟩
theorem chkL_free {late : List Nat} (hc : chkL ops n late = true) {j : Nat} (hj : j ∈ late) {oj : Oper} (hoj : ops[j]? = some oj) (k : Nat) (ok : Oper) (hk : ops[k]? = some ok) (hne : k ≠ j) (hno : ∀ e ∈ ok.after, Region.binds .any e = true → e.on ≠ j) (hno2 : ∀ e ∈ oj.after, Region.binds .any e = true → e.on ≠ k) : oj.apart ops ok = true := by
  unfold chkL at hc
  simp only [Bool.and_eq_true] at hc
  have h1 := List.all_eq_true.1 hc.2 j hj
  simp only [hoj] at h1
  have hlt : k < ops.size := (Array.getElem?_eq_some_iff.1 hk).1
  have h2 := List.all_eq_true.1 h1 k (List.mem_range.2 hlt)
  simp only [hk, Bool.or_eq_true, beq_iff_eq, hne, false_or] at h2
  rcases h2 with h2 | h2 | h2
  · obtain ⟨e, he, hb⟩ := Array.any_eq_true'.1 h2
    simp only [Bool.and_eq_true, beq_iff_eq] at hb
    exact absurd hb.2 (hno e he hb.1)
  · obtain ⟨e, he, hb⟩ := Array.any_eq_true'.1 h2
    simp only [Bool.and_eq_true, beq_iff_eq] at hb
    exact absurd hb.2 (hno2 e he hb.1)
  · exact h2

theorem tail_anyH {S : World → Prop} {late : List Nat} (hc : chkL ops n late = true) : ∀ (l : List Oper) (m : Nat), n ≤ m → m + l.length = ops.size → (∀ j, l[j]? = ops[m + j]?) → ∀ (listed : Array Bool), listed.size = ops.size → (∀ j, j < ops.size → (listed.getD j false = true ↔ j < m)) →
    ∀ a w, wpListS P ops Q S l a w → wpAnyH P .any ops Q S l.length listed a w
  | [], m, hnm, hm, _, listed, hls, hl, a, w, h => by
    refine ⟨?_, h⟩
    simp only [List.length_nil, Nat.add_zero] at hm
    apply List.eq_nil_iff_forall_not_mem.2
    intro i hi
    obtain ⟨hun, o, ho, _⟩ := mem_ready.1 hi
    have hlt : i < ops.size := (Array.getElem?_eq_some_iff.1 ho).1
    have := (hl i hlt).2 (by omega)
    simp [show i < listed.size by omega] at hun this
    rw [hun] at this
    cases this
  | o :: l, m, hnm, hm, hel, listed, hls, hl, a, w, h => by
    have hom : ops[m]? = some o := by have := hel 0; simpa using this.symm
    have hmlt : m < ops.size := (Array.getElem?_eq_some_iff.1 hom).1
    have hmem : m ∈ Region.ready .any ops listed := by
      refine mem_ready.2 ⟨?_, o, hom, fun e he hb => ?_⟩
      · have : ¬ listed.getD m false = true := fun h => by have := (hl m hmlt).1 h; omega
        simp [show m < listed.size by omega] at this ⊢
        exact this
      · have := (chkL_spec hc (by omega) hom).1 e he hb
        exact (hl e.on (by omega)).2 this
    refine ⟨fun h0 => (by rw [h0] at hmem; cases hmem), fun i hi => ?_⟩
    have him : i = m := by
      obtain ⟨hun, o', ho', hall⟩ := mem_ready.1 hi
      have hlt : i < ops.size := (Array.getElem?_eq_some_iff.1 ho').1
      have h1 : ¬ i < m := fun h => by
        have := (hl i hlt).2 h
        simp [show i < listed.size by omega] at hun this
        rw [hun] at this
        cases this
      apply Classical.byContradiction
      intro hne
      obtain ⟨e, he, hb, hei⟩ := (chkL_spec hc (by omega) ho').2 (by omega)
      have h2 := (hl e.on (by omega)).1 (hall e he hb)
      omega
    subst him
    unfold wpListS at h
    have next : ∀ a w, wpListS P ops Q S l a w → wpAnyH P .any ops Q S l.length (listed.setIfInBounds i true) a w := fun a w h =>
      tail_anyH hc l (i + 1) (by omega) (by simp only [List.length_cons] at hm; omega) (fun j => by have := hel (j + 1); rw [List.getElem?_cons_succ] at this; rw [this]; congr 1; omega) _ (by simp [hls]) (fun j hj => by
        by_cases e : j = i
        · subst e; simp [show j < listed.size by omega]
        · rw [getD_set_ne false (Ne.symm e), hl j hj]; omega) a w h
    unfold wpOp
    simp only [hom]
    split
    · rename_i hw
      rw [if_pos hw] at h
      exact h.imp (Oper.wp_mono fun a w h => ⟨h.1, next a w h.2⟩) id
    · rename_i hw
      rw [if_neg hw] at h
      exact ⟨h.1, next _ _ h.2⟩

/-- What is asked of a late operation: its value hangs on no world of S. -/
def LateOb (P : Program) (ops : Array Oper) (R : World → World → Prop) (S : World → Prop) (L : Tab R) (a : Act) (w : World) (j : Nat) : Prop :=
  ∀ o d, ops[j]? = some o → o.dst = some d → o.guard = none ∧ ∀ a' w', Inv R L.slots a w a' w' → (∀ t, t ∈ o.looksAt ops → t ∈ L.slots → L.look t (get a' t) w') →
    ∃ v, (∀ x, S x → (execOp a'.eval o).run P x = .ok (.value v) x) ∧ L.look d v w'

theorem rg_late {S : World → Prop} {late : List Nat} (hN : a.tmps.size = N) (hc : chk ops n N L.slots = true) (hrefl : ∀ x, R x x) (ht : ∀ x y z, R x y → R y z → R x z) (hgrow : ∀ x y, R x y → x.heap.size ≤ y.heap.size) (hbx : bx.Nodup ∧ ∀ d, d ∈ bx → d ∈ L.slots)
    (hcL : chkL ops n late = true) (hlb : ∀ j, j ∈ late → ∀ o d, ops[j]? = some o → o.dst = some d → d ∉ bx) (hS : ∀ x, R w x → S x) (hQ : ∀ (d : Option Nat) (v : Value) c a w, Q (.panic c) (a.put d v) w → Q (.panic c) a w)
    (hob : ∀ i, i < n → Ob P ops R R ops.size bx L a w i) (hlate : ∀ j, j ∈ late → LateOb P ops R S L a w j) (tl : List Oper) (htl : n + tl.length = ops.size ∧ ∀ j, tl[j]? = ops[n + j]?)
    (htail : ∀ a' w', Inv R L.slots a w a' w' → L.all a' w' → AllUnlike a' bx → wpListS P ops Q S tl a' w') :
    wpAnyH P .any ops Q S ops.size (Array.replicate ops.size false) a w := by
  have hsz := (chk_size hc).1
  have key : ∀ k (listed : Array Bool) a' w', listed.size = ops.size → (∀ j, ¬ j < n → listed.getD j false = false) → ((List.range n).filter fun j => !listed.getD j false).length = k →
      (∀ i o, listed.getD i false = true → ops[i]? = some o → ∀ e ∈ o.after, Region.binds .any e = true → listed.getD e.on false = true) →
      Done ops n ops.size R bx L a w (fun j => listed.getD j false = true) a' w' → wpAnyH P .any ops Q S (k + (ops.size - n)) listed a' w' := by
    intro k
    induction k with
    | zero =>
      intro listed a' w' hls hout hk _ hD
      have hall : ∀ j, j < n → listed.getD j false = true := by
        intro j hj
        have h1 := List.length_eq_zero_iff.1 hk
        have h2 := (List.filter_eq_nil_iff.1 h1) j (List.mem_range.2 hj)
        simpa using h2
      obtain ⟨h1, h2, h3⟩ := done_all hc hbx hall hD
      rw [Nat.zero_add, show ops.size - n = tl.length by omega]
      exact tail_anyH hcL tl n (Nat.le_refl n) htl.1 htl.2 listed hls (fun j _ => ⟨fun h => Classical.byContradiction fun hn => (by rw [hout j hn] at h; cases h), fun h => hall j h⟩) a' w' (htail a' w' h1 h2 h3)
    | succ k ih =>
      intro listed a' w' hls hout hk hcl hD
      -- the least that is not listed
      have hex : ∃ j, j < n ∧ listed.getD j false = false := by
        apply Classical.byContradiction
        intro hno
        have : ((List.range n).filter fun j => !listed.getD j false) = [] := by
          rw [List.filter_eq_nil_iff]
          intro j hj
          have := List.mem_range.1 hj
          cases h : listed.getD j false with
          | true => simp
          | false => exact absurd ⟨j, this, h⟩ hno
        rw [this] at hk
        simp at hk
      have least : ∀ m j, j ≤ m → j < n → listed.getD j false = false → ∃ i, i < n ∧ listed.getD i false = false ∧ ∀ j', j' < i → listed.getD j' false = true := by
        intro m
        induction m with
        | zero => intro j hj h1 h2; exact ⟨j, h1, h2, fun j' hj' => by omega⟩
        | succ m ihm =>
          intro j hj h1 h2
          by_cases h3 : ∃ j', j' < j ∧ listed.getD j' false = false
          · obtain ⟨j', h4, h5⟩ := h3
            exact ihm j' (by omega) (by omega) h5
          · refine ⟨j, h1, h2, fun j' hj' => ?_⟩
            cases h : listed.getD j' false with
            | true => rfl
            | false => exact absurd ⟨j', hj', h⟩ h3
      obtain ⟨j0, hj1, hj2⟩ := hex
      obtain ⟨i0, hi1, hi2, hi3⟩ := least j0 j0 (Nat.le_refl j0) hj1 hj2
      obtain ⟨o0, d0, ho0, hd0, hds0, hdN0, hun0, hlk0⟩ := chk_dst hc hi1
      have hlt0 : i0 < listed.size := by rw [hls]; exact (Array.getElem?_eq_some_iff.1 ho0).1
      have hr0 : ∀ e ∈ o0.after, Region.binds .any e = true → listed.getD e.on false = true := fun e he hb => hi3 _ (chk_back hc hi1 ho0 e he hb)
      have hmem0 : i0 ∈ Region.ready .any ops listed := mem_ready.2 ⟨by simp [hlt0] at hi2 ⊢; exact hi2, o0, ho0, hr0⟩
      -- what follows when one more is done
      have step : ∀ i o, i < n → listed.getD i false = false → ops[i]? = some o → (∀ e ∈ o.after, Region.binds .any e = true → listed.getD e.on false = true) → ∀ a'' w'', Done ops n ops.size R bx L a w (fun j => listed.getD j false = true ∨ j = i) a'' w'' →
          wpAnyH P .any ops Q S (k + (ops.size - n)) (listed.setIfInBounds i true) a'' w'' := by
        intro i o hi' hun ho hall a'' w'' hD'
        have hlt : i < listed.size := by rw [hls]; exact (Array.getElem?_eq_some_iff.1 ho).1
        have hset : ∀ j, (listed.setIfInBounds i true).getD j false = true ↔ (listed.getD j false = true ∨ j = i) := by
          intro j
          by_cases e : j = i
          · subst e; simp [hlt]
          · rw [getD_set_ne false (Ne.symm e)]; simp [e]
        refine ih _ a'' w'' (by simp [hls]) (fun j hj => ?_) ?_ ?_ ⟨hD'.inv, fun h => hD'.early fun h' => h ((hset _).2 h'), fun j oj dj hj hoj hdj hd => hD'.facts j oj dj hj hoj hdj ((hset j).1 hd), fun j oj dj hj hoj hdj hd => hD'.known j oj dj hj hoj hdj ((hset j).1 hd),
          fun j oj dj j' oj' dj' hj hoj hdj hd hb hj' hoj' hdj' hd' => hD'.unlike j oj dj j' oj' dj' hj hoj hdj ((hset j).1 hd) hb hj' hoj' hdj' ((hset j').1 hd')⟩
        · rw [getD_set_ne false (by omega)]; exact hout j hj
        · have := filter_drop (fun j => !listed.getD j false) (fun j => !(listed.setIfInBounds i true).getD j false) i (by simp [hun]) (by simp [hlt]) (fun j hj => by rw [getD_set_ne false (Ne.symm hj)]) (List.range n) List.nodup_range (List.mem_range.2 hi')
          omega
        · intro i' o' hl' ho' e he hb
          rcases (hset i').1 hl' with h' | h'
          · exact (hset e.on).2 (.inl (hcl i' o' h' ho' e he hb))
          · subst h'
            rw [ho] at ho'
            cases ho'
            exact (hset e.on).2 (.inl (hall e he hb))
      by_cases hearly : ∃ i, i ∈ Region.ready .any ops listed ∧ ¬ i < n
      · -- an operation of the end may come up: what lacks is late: it is taken first
        obtain ⟨i, hi, hni⟩ := hearly
        obtain ⟨hun, o, ho, hall⟩ := mem_ready.1 hi
        have hisz : i < ops.size := (Array.getElem?_eq_some_iff.1 ho).1
        have hin : i = n := by
          apply Classical.byContradiction
          intro hne
          obtain ⟨e, he, hb, hei⟩ := (chkL_spec hcL hni ho).2 (by omega)
          have h1 := hall e he hb
          rw [hout e.on (by omega)] at h1
          cases h1
        subst hin
        have hl0 : i0 ∈ late := by
          apply Classical.byContradiction
          intro hnl
          have := waits_listed hcl ops.size i i0 (chkL_first hcL hisz hi1 hnl) fun o' ho' e he hb => by rw [ho] at ho'; cases ho'; exact hall e he hb
          rw [hi2] at this
          cases this
        obtain ⟨hg0, hv0⟩ := hlate i0 hl0 o0 d0 ho0 hd0
        have hfacts : ∀ t, t ∈ o0.looksAt ops → t ∈ L.slots → L.look t (get a' t) w' := by
          intro t h1 h2
          obtain ⟨j, oj, hj, hoj, hdj, e, he, hb, hej⟩ := hlk0 t h1 h2
          exact hD.facts j oj t hj hoj hdj (hej ▸ hr0 e he hb)
        obtain ⟨v, hv, hphi⟩ := hv0 a' w' hD.inv hfacts
        rw [show k + 1 + (ops.size - i) = (k + (ops.size - i)) + 1 by omega]
        refine wpAnyH_first ho0 (Region.noSelect_spec (by unfold chkL at hcL; simp only [Bool.and_eq_true] at hcL; exact hcL.1.1.1)) (fun c a w h => hQ _ _ c a w h) _ listed a' w' ?_ hmem0 (.inl ⟨by unfold Region.wanted; rw [hg0], fun x hx => hv x hx⟩) (hS _ hD.inv.rel) ?_
        · intro j oj hoj hne hunl hno
          refine chkL_free hcL hl0 ho0 j oj hoj hne hno fun e he hb hej => ?_
          have h1 := hr0 e he hb
          rw [hej] at h1
          have hjs : j < listed.size := by rw [hls]; exact (Array.getElem?_eq_some_iff.1 hoj).1
          simp [hjs] at h1 hunl
          rw [h1] at hunl
          cases hunl
        · refine step i0 o0 hi1 hi2 ho0 hr0 _ _ ?_
          -- the state behind it
          rw [hd0]
          have hsz' : d0 < a'.tmps.size := by rw [hD.inv.size, hN]; exact hdN0
          have hnb : d0 ∉ bx := hlb i0 hl0 o0 d0 ho0 hd0
          have hold : ∀ j oj dj, j < i → ops[j]? = some oj → oj.dst = some dj → (listed.getD j false = true ∨ j = i0) → dj ≠ d0 → listed.getD j false = true ∧ get (a'.put (some d0) v) dj = get a' dj := by
            intro j oj dj hj hoj hdj hdid hne
            have e : j ≠ i0 := by
              rintro rfl
              rw [ho0] at hoj
              cases hoj
              rw [hd0] at hdj
              exact hne (Option.some.inj hdj).symm
            exact ⟨hdid.resolve_right e, get_put_ne (Ne.symm hne)⟩
          refine ⟨⟨by rw [size_put, hD.inv.size], by rw [defers_put, hD.inv.defers], fun t hts => ?_, hD.inv.rel⟩, fun hns => hD.early fun h => hns (.inl h), ?_, ?_, ?_⟩
          · rw [get_put_ne (fun (e : d0 = t) => hts (by rw [← e]; exact hds0))]; exact hD.inv.out t hts
          · intro j oj dj hj hoj hdj hdid
            by_cases e : dj = d0
            · subst e; rw [get_put_same hsz']; exact hphi
            · obtain ⟨h1, h2⟩ := hold j oj dj hj hoj hdj hdid e
              rw [h2]; exact hD.facts j oj dj hj hoj hdj h1
          · intro j oj dj hj hoj hdj hdid hb
            have e : dj ≠ d0 := fun e => hnb (e ▸ hb)
            obtain ⟨h1, h2⟩ := hold j oj dj hj hoj hdj hdid e
            rw [h2]; exact hD.known j oj dj hj hoj hdj h1 hb
          · intro j oj dj j' oj' dj' hj hoj hdj hdid hb hj' hoj' hdj' hdid' hb' hne
            have e : dj ≠ d0 := fun e => hnb (e ▸ hb)
            have e' : dj' ≠ d0 := fun e => hnb (e ▸ hb')
            obtain ⟨h1, h2⟩ := hold j oj dj hj hoj hdj hdid e
            obtain ⟨h1', h2'⟩ := hold j' oj' dj' hj' hoj' hdj' hdid' e'
            rw [h2, h2']
            exact hD.unlike j oj dj j' oj' dj' hj hoj hdj h1 hb hj' hoj' hdj' h1' hb' hne
      · rw [show k + 1 + (ops.size - n) = (k + (ops.size - n)) + 1 by omega]
        refine ⟨fun hnil => (by rw [hnil] at hmem0; cases hmem0), fun i hi => ?_⟩
        have hi' : i < n := Classical.byContradiction fun h => hearly ⟨i, hi, h⟩
        obtain ⟨hun, o, ho, hall⟩ := mem_ready.1 hi
        have hlt : i < listed.size := by rw [hls]; exact (Array.getElem?_eq_some_iff.1 ho).1
        have hun' : listed.getD i false = false := by simp [hlt] at hun ⊢; exact hun
        refine rg_step (did := fun j => listed.getD j false = true) hN hc ht (fun _ _ h => h) ht hgrow hi' (hob i hi') (by simp [hun']) hD (fun o' ho' e he hb => by rw [ho] at ho'; cases ho'; exact hall e he hb) ?_
        intro a'' w'' hD'
        exact ⟨hS _ hD'.inv.rel, step i o hi' hun' ho hall a'' w'' hD'⟩
  have := key n (Array.replicate ops.size false) a w (by simp) (fun j _ => by simp [Array.getElem?_replicate]; split <;> rfl) (by
    rw [List.filter_eq_self.2]
    · simp
    · intro j _; simp [Array.getElem?_replicate]; split <;> rfl) (fun i o h => by
      simp [Array.getElem?_replicate] at h; split at h <;> simp at h) ⟨⟨rfl, rfl, fun _ _ => rfl, hrefl w⟩, fun _ => hrefl w, fun j _ _ _ _ _ h => by
      simp [Array.getElem?_replicate] at h; split at h <;> simp at h, fun j _ _ _ _ _ h => by
      simp [Array.getElem?_replicate] at h; split at h <;> simp at h, fun j _ _ _ _ _ _ _ _ h => by
      simp [Array.getElem?_replicate] at h; split at h <;> simp at h⟩
  rwa [show n + (ops.size - n) = ops.size by omega] at this
end
end Sk
