/- My own calculus: calls that write one block that was there; regions with one of them. -/
import Derived.Test.YtncamojfjhbanaaDoorP5
namespace Sk
open Go Go.RowKit Sd

theorem ExtE.size' {E : Nat → Prop} {w w' : World} (h : ExtE E w w') : w.heap.size ≤ w'.heap.size := h.size
theorem Laid.extE {E : Nat → Prop} {w w' : World} (h : Laid w) (k : ExtE E w w') (hE : ¬ E 0) : Laid w' := range_ext h k (.inr hE)

/-- Old blocks of E alone are written, and what P tells is kept. -/
structure WrP (E : Nat → Prop) (P : World → Prop) (w w' : World) : Prop where
  ext : ExtE E w w'
  keep : P w → P w'
/-- Kept over what extends memory. -/
def Holds (P : World → Prop) : Prop := ∀ w w', P w → Ext w w' → P w'
section
variable {E : Nat → Prop} {P : World → Prop}
theorem WrP.refl (w : World) : WrP E P w w := ⟨ExtE.refl _ _, fun h => h⟩
theorem WrP.trans {x y z : World} (h : WrP E P x y) (k : WrP E P y z) : WrP E P x z := ⟨h.ext.trans k.ext, fun hp => k.keep (h.keep hp)⟩
theorem WrP.of {x y : World} (hP : Holds P) (h : Ext x y) : WrP E P x y := ⟨h.toE, fun hp => hP _ _ hp h⟩
theorem WrP.size' {x y : World} (h : WrP E P x y) : x.heap.size ≤ y.heap.size := h.ext.size
end

section
variable {P : Program} {Q : Exit → Act → World → Prop} {E : Nat → Prop} {S : World → Prop} {L : Tab (WrP E S)} {a : Act} {w : World} {N n s : Nat} {l : List Oper}

/-- What is asked of one operation; number s is the call that writes. -/
def AskW (P : Program) (l : List Oper) (N : Nat) (E : Nat → Prop) (S : World → Prop) (L : Tab (WrP E S)) (a : Act) (w : World) (wr : Bool) (o : Oper) : Prop :=
  ∀ d, o.dst = some d → ∀ a' w', a'.tmps.size = N → (∀ t, L.slots.contains t = false → get a' t = get a t) → (if wr then Ext else WrP E S) w w' →
    (∀ t, (o.looksAt l.toArray).contains t = true → L.slots.contains t = true → L.look t (get a' t) w') →
    (Region.wanted o (yielded l.toArray a'.tmps) = true → Does P a'.eval o w' (fun v w'' => (if wr then WrP E S else Ext) w' w'' ∧ L.look d v w'')) ∧
    (Region.wanted o (yielded l.toArray a'.tmps) = false → L.look d undef w')
def AsksW (P : Program) (l : List Oper) (N : Nat) (E : Nat → Prop) (S : World → Prop) (L : Tab (WrP E S)) (a : Act) (w : World) (s : Nat) : Nat → Nat → List Oper → Prop
  | _, 0, _ => True
  | _, _ + 1, [] => False
  | k, n + 1, o :: r => AskW P l N E S L a w (k == s) o ∧ AsksW P l N E S L a w s (k + 1) n r
theorem AsksW.zero {k : Nat} (r : List Oper) : AsksW P l N E S L a w s k 0 r := trivial
theorem AsksW.cons {k : Nat} {o : Oper} {r : List Oper} (h : AskW P l N E S L a w (k == s) o) (hr : AsksW P l N E S L a w s (k + 1) n r) : AsksW P l N E S L a w s k (n + 1) (o :: r) := ⟨h, hr⟩

theorem AskW.plain {o : Oper} {d : Nat} {wr : Bool} (hwr : wr = false) (hd : o.dst = some d) (hg : o.guard = none)
    (h : ∀ a' w', a'.tmps.size = N → (∀ t, L.slots.contains t = false → get a' t = get a t) → WrP E S w w' → (∀ t, (o.looksAt l.toArray).contains t = true → L.slots.contains t = true → L.look t (get a' t) w') →
      Does P a'.eval o w' (fun v w'' => Ext w' w'' ∧ L.look d v w'')) : AskW P l N E S L a w wr o := by
  subst hwr
  intro d' hd' a' w' h1 h2 h3 h4
  rw [hd] at hd'
  cases hd'
  refine ⟨fun _ => h a' w' h1 h2 h3 h4, fun hw => ?_⟩
  unfold Region.wanted at hw
  rw [hg] at hw
  cases hw
theorem AskW.write {o : Oper} {d : Nat} {wr : Bool} (hwr : wr = true) (hd : o.dst = some d) (hg : o.guard = none)
    (h : ∀ a' w', a'.tmps.size = N → (∀ t, L.slots.contains t = false → get a' t = get a t) → Ext w w' → (∀ t, (o.looksAt l.toArray).contains t = true → L.slots.contains t = true → L.look t (get a' t) w') →
      Does P a'.eval o w' (fun v w'' => WrP E S w' w'' ∧ L.look d v w'')) : AskW P l N E S L a w wr o := by
  subst hwr
  intro d' hd' a' w' h1 h2 h3 h4
  rw [hd] at hd'
  cases hd'
  refine ⟨fun _ => h a' w' h1 h2 h3 h4, fun hw => ?_⟩
  unfold Region.wanted at hw
  rw [hg] at hw
  cases hw

end

/-- The call gives a value, writes block b alone of what there was, and then S holds. -/
def GivesW (P : Program) (f : FuncId) (args : Array Value) (w : World) (b : Nat) (V : Value) (S : World → Prop) : Prop := Ret P f args w (fun v w' => v = V ∧ ExtE (fun k => k = b) w w' ∧ S w')
/-- The value in a slot, and what holds of the world. -/
def Pr.exW {E : Nat → Prop} {S : World → Prop} (V : Value) : Pr (WrP E S) := ⟨fun v w => v = V ∧ S w, fun _ _ _ h k => ⟨h.1, k.keep h.2⟩⟩
theorem GivesW.write {P : Program} {f : FuncId} {args : Array Value} {w : World} {b : Nat} {V : Value} {S : World → Prop} {Ψ : Value → World → Prop} (h : GivesW P f args w b V S) (hh : ∀ w', WrP (fun k => k = b) S w w' → S w' → Ψ V w') : Ret P f args w Ψ :=
  Ret.mono h fun v w' ⟨hv, hE, hS⟩ => by subst hv; exact hh w' ⟨hE, fun _ => hS⟩ hS

theorem ExtE.since {E E' : Nat → Prop} {w0 w w' : World} (h : ExtE E w0 w) (k : ExtE E' w w') (hE : ∀ b, E' b → w0.heap.size ≤ b) : ExtE E w0 w' :=
  ⟨k.os.trans h.os, k.tape.trans h.tape, k.output.trans h.output, Nat.le_trans h.size k.size, fun i hi he => (k.block i (Nat.lt_of_lt_of_le hi h.size) (fun hh => by have := hE i hh; omega)).trans (h.block i hi he)⟩

/-- A slice that lies in a block other than b lies in one that can be named. -/
theorem SlT.pin {α : Type} {T : Ty α} {lo hi b : Nat} {l : List α} {x : Value} {w : World} (h : SlT T lo hi l x w) (hn : l ≠ [] → x.ownBlock ≠ some b) (hb : ¬ (0 = b)) (h0 : 0 < w.heap.size) : ∃ p, p ≠ b ∧ p < w.heap.size ∧ SlT T p (p + 2) l x w := by
  obtain ⟨a, cap, hv, hc, hr⟩ := h.close
  by_cases hl : l = []
  · exact ⟨0, hb, h0, a, cap, hv, hc, .inl hl⟩
  · obtain ⟨b', o, ha, h1, h2, h3⟩ := hr.resolve_left hl
    refine ⟨b', fun e => hn hl ?_, by unfold Under at h2; omega, a, cap, hv, hc, .inr ⟨b', o, ha, Nat.le_refl _, .inr (by omega), h3⟩⟩
    rw [hv, ha, e]
    rfl
theorem Laid.pos {w : World} (h : Laid w) : 0 < w.heap.size := World.block_lt_of_cell? w ⟨0, 0 + 0, none⟩ (h 0 _ rfl)
theorem SlT.pinned {α : Type} {T : Ty α} {p b : Nat} {l : List α} {x : Value} {w : World} (h : SlT T p (p + 2) l x w) (hp : p ≠ b) : l ≠ [] → x.ownBlock ≠ some b := by
  intro hl
  obtain ⟨a, cap, hv, hc, hr⟩ := h
  obtain ⟨b', o, ha, h1, h2, h3⟩ := hr.resolve_left hl
  rw [hv, ha]
  intro e
  have e' : b' = b := by simpa [Value.ownBlock] using e
  unfold Under at h2
  omega
/-- What is cut out of such a slice lies with it. -/
theorem SlT.child {α : Type} {T : Ty α} {p c : Nat} {l l' : List α} {x x' : Value} {w w' : World} (h : SlT T p (p + 2) l x w) (hn : l ≠ [] → x.ownBlock ≠ some c) (h' : SlT T p (p + 2) l' x' w') (hl : l = [] → l' = []) : l' ≠ [] → x'.ownBlock ≠ some c := by
  intro hl'
  have hne : l ≠ [] := fun e => hl' (hl e)
  have key : ∀ {l : List α} {x : Value} {w : World}, SlT T p (p + 2) l x w → l ≠ [] → x.ownBlock = some p := by
    intro l x w h hl
    obtain ⟨a, cap, hv, hc, hr⟩ := h
    obtain ⟨b', o, ha, h1, h2, h3⟩ := hr.resolve_left hl
    have : b' = p := by unfold Under at h2; omega
    rw [hv, ha, this]
    rfl
  rw [key h' hl', ← key h hne]
  exact hn hne
/-- A stack's block: what is left of the proof (in block p), and was there enough? -/
def StkAt (t b p : Nat) (l : List Dg) (ok : Bool) (w : World) : Prop := ∃ x, Has w b t [x, .bool ok] ∧ SlT DG p (p + 2) l x w
theorem StkAt.holds {t b p : Nat} {l : List Dg} {ok : Bool} : Holds (StkAt t b p l ok) := fun _ _ ⟨x, h1, h2⟩ k => ⟨x, h1.ext' k, h2.ext' k⟩

section
variable {P : Program} {ev : Operand → Value} {w : World} {Ψ : Value → World → Prop} {d : Option Tmp} {ty : TypeId} {pos : String} {af : Array Edge} {g : Option (Nat × Bool)}
/-- A store of one opaque cell. -/
theorem does_storeS {t e : TypeId} {x y : Operand} {b o : Nat} {cs cs' : List Value} {V : Value} (h1 : V.cells = #[V]) (hone : V.oneCell' = true) (hx : ev x = .pointer (some ⟨b, o, none⟩)) (hy : ev y = V) (hb : Has w b e cs) (hn : o + 1 ≤ cs.length) (ht : (P.info? t).map (·.size) = some 1)
    (hc : cs.take o ++ ([V] ++ cs.drop (o + 1)) = cs') (h : ∀ w', ExtE (fun k => k = b) w w' → w'.heap.size = w.heap.size → Has w' b e cs' → Ψ undef w') : Does P ev ⟨d, .store t x y, ty, pos, af, g⟩ w Ψ :=
  does_storeD hx hy hb hn (by rw [h1]; rfl) ht (by rw [h1]; simp [hone]) (by rw [h1]; exact hc) h

/-- Is a slice nil? -/
def isNil : Value → Bool
  | .slice none _ _ => true
  | _ => false
theorem SlT.isNil {α : Type} {T : Ty α} {lo hi : Nat} {l : List α} {x : Value} {w : World} (h : SlT T lo hi l x w) (hn : isNil x = true) : l = [] := by
  obtain ⟨a, cap, hv, hc, hr⟩ := h
  rcases hr with hr | ⟨b, o, ha, _⟩
  · exact hr
  · rw [hv, ha] at hn; cases hn
theorem does_isNil {α : Type} {T : Ty α} {lo hi : Nat} {l : List α} {t t' : TypeId} {e : Nat} {x y : Operand} {V : Value} (ht : P.underlying t = some (.slice e)) (hx : ev x = V) (hs : SlT T lo hi l V w) (hy : ev y = .slice none 0 0) (h : Ψ (.bool (isNil V)) w) : Does P ev ⟨d, .binOp .eql t x y t', ty, pos, af, g⟩ w Ψ := by
  obtain ⟨a, cap, hv, hc, hr⟩ := hs
  refine Does.value (v := .bool (isNil V)) (w' := w) ?_ h
  rw [hv] at hx ⊢
  have q : ∀ a : Option Addr, (Op.equal t (.slice a l.length cap) (.slice none 0 0)).run P w = .ok (isNil (.slice a l.length cap)) w := by
    intro a
    have : ∀ n, (Op.equalIn (n + 1) t (.slice a l.length cap) (.slice none 0 0)).run P w = .ok (isNil (.slice a l.length cap)) w := by
      intro n; cases a <;> simp [Op.equalIn, run_underlying ht, isNil]
    exact this 9999
  simp [execOp, hx, hy, binOp, eqGuard, q]

/-- A literal of nothing. -/
theorem does_slice0 {α : Type} {T : Ty α} {t e n bytes : Nat} (ha : AppIs P t e n bytes) (hn : T.size = n)
    (h : ∀ v w', Ext w w' → SlT T w.heap.size 0 [] v w' → OwnT T w.heap.size e [] v w' → Ψ v w') : Does P ev ⟨d, .buildSlice t 0 #[], ty, pos, af, g⟩ w Ψ := by
  subst hn
  obtain ⟨ht, i, z, hi, hz, hsz, hby, hzs⟩ := ha
  refine Does.value (v := .slice (some ⟨w.heap.size, 0, none⟩) 0 0) (w' := w.alloc (.cells #[] e)) ?_ ?_
  · have hsize : (Go.sizeOf e).run P w = .ok T.size w := runSz (by simp [hi, hsz]) w
    simp [execOp, Instr.buildSlice, run_underlying ht, hsize, Instr.fill, newRow, newObj, Sem.run, show Array.range 0 = #[] from rfl]
  · have hown : OwnT T w.heap.size e [] (.slice (some ⟨w.heap.size, 0, none⟩) 0 0) (w.alloc (.cells #[] e)) :=
      ⟨by rw [flat_length], .inr ⟨w.heap.size, 0, #[], rfl, Nat.le_refl _, heap_alloc_new w _, Nat.le_refl _, Nat.zero_le _, by simp, by simp [flat]⟩⟩
    exact h _ _ (Ext.alloc w _) (hown.sl.wide (Nat.le_refl _) (.inl rfl)) hown

/-- Nothing is appended. -/
theorem run_append_none {t e tr : Nat} {i : TypeInfo} {z : Value} (ht : P.underlying t = some (.slice e)) (hi : P.info? e = some i) (hz : i.zero = some z) {b a : Option Addr} {n c cap : Nat} (hnc : n ≤ c) :
    (Builtin.append_ #[t, t] tr #[.slice b n c, .slice a 0 cap]).run P w = .ok (.slice b n c) w := by
  cases a <;> cases b <;> simp [Builtin.append_, run_underlying ht, Go.sizeOf, typeInfo, hi, Builtin.lenOf, hnc, Builtin.firstCells, loadCells, loadCellsFrom, storeCells]

/-- append of whatever slice. -/
theorem does_appendA {α : Type} {T : Ty α} {base t e bytes lo hi : Nat} {xs ys : List α} {v : Value} {x y : Operand} (ha : AppIs P t e T.size bytes) (hx : ev x = v) (hown : OwnT T base e xs v w) (hy : SlT T lo hi ys (ev y) w)
    (hlen : (xs.length + ys.length) * bytes ≤ 140737488355328) (hl2 : xs.length + ys.length ≤ 140737488355328) (hbase : base ≤ w.heap.size)
    (h : ∀ v' w', ExtE (fun b => v.ownBlock = some b) w w' → OwnT T base e (xs ++ ys) v' w' → (∀ k, v'.ownBlock = some k → v.ownBlock = some k ∨ w.heap.size ≤ k) → Ψ v' w') :
    Does P ev ⟨d, .call { callee := .builtin .append, args := #[x, y], argTypes := #[t, t] }, ty, pos, af, g⟩ w Ψ := by
  by_cases hne : ys = []
  · subst hne
    have ha0 := ha
    obtain ⟨ht, i, z, hi, hz, hsz, hby, hzs⟩ := ha
    obtain ⟨a, cap, hv, hc, hr⟩ := hy
    have hown0 := hown
    obtain ⟨b, n, c, hvv, hnc⟩ : ∃ b n c, v = .slice b n c ∧ n ≤ c := by
      rcases hown.2 with ⟨rfl, _⟩ | ⟨g, cap, cur, rfl, _, _, hnc, _⟩
      · exact ⟨none, 0, 0, rfl, Nat.le_refl _⟩
      · exact ⟨_, _, cap, rfl, hnc⟩
    refine Does.value (v := v) (w' := w) ?_ (h v w (ExtE.refl _ _) (by rw [List.append_nil]; exact hown0) fun k hk => .inl hk)
    simp only [execOp, resolve, invoke, builtin, Sem.run_bind, Sem.run_pure, Result.andThen_ok, List.map_toArray, List.map_cons, List.map_nil, hx, hv, hvv]
    rw [List.length_nil, run_append_none ht hi hz hnc]
    rfl
  · exact does_append ha hx hown hy hne hlen hl2 hbase h
end
theorem last_of {l : List Dg} {z : Dg} (h : l[l.length - 1]? = some z) : l.getLastD Dg.zero = z := by
  rw [List.getLastD_eq_getLast?, List.getLast?_eq_getElem?, h]; rfl
theorem take_last {α : Type} (l : List α) : l.take (l.length - 1) = l.dropLast := (List.dropLast_eq_take).symm
theorem pop_ok {α : Type} {l : List α} {ok : Bool} (h : ¬ l.length = 0) : (ok && !l.isEmpty) = ok := by
  cases l with
  | nil => exact absurd rfl h
  | cons x l => simp
end Sk
namespace Sd
theorem prod1 {α β : Type} {s : α × β} {a : α} {b : β} (h : s = (a, b)) : s.1 = a := by rw [h]
theorem prod21 {α β γ : Type} {s : α × β × γ} {a : α} {b : β} {c : γ} (h : s = (a, b, c)) : s.2.1 = b := by rw [h]
end Sd
namespace Sd
theorem bothS_lo1 {m n : Nat} (h : 2 ≤ n ∧ m ≠ n) (hm : m ≤ half n) (old : Dg) (whole : Bool) (l : List Dg) (ok : Bool) : (bothS old m n whole l ok).1 = (bothS old m (half n) whole l.dropLast (ok && !l.isEmpty)).1 := prod1 (bothS_lo h hm old whole l ok)
theorem bothS_lo2 {m n : Nat} (h : 2 ≤ n ∧ m ≠ n) (hm : m ≤ half n) (old : Dg) (whole : Bool) (l : List Dg) (ok : Bool) : (bothS old m n whole l ok).2.1 = pair (bothS old m (half n) whole l.dropLast (ok && !l.isEmpty)).2.1 (l.getLastD Dg.zero) := prod21 (bothS_lo h hm old whole l ok)
theorem bothS_lo3 {m n : Nat} (h : 2 ≤ n ∧ m ≠ n) (hm : m ≤ half n) (old : Dg) (whole : Bool) (l : List Dg) (ok : Bool) : (bothS old m n whole l ok).2.2 = (bothS old m (half n) whole l.dropLast (ok && !l.isEmpty)).2.2 := prod3 (bothS_lo h hm old whole l ok)
theorem bothS_hi1 {m n : Nat} (h : 2 ≤ n ∧ m ≠ n) (hm : ¬ m ≤ half n) (old : Dg) (whole : Bool) (l : List Dg) (ok : Bool) : (bothS old m n whole l ok).1 = pair (l.getLastD Dg.zero) (bothS old (m - half n) (n - half n) false l.dropLast (ok && !l.isEmpty)).1 := prod1 (bothS_hi h hm old whole l ok)
theorem bothS_hi2 {m n : Nat} (h : 2 ≤ n ∧ m ≠ n) (hm : ¬ m ≤ half n) (old : Dg) (whole : Bool) (l : List Dg) (ok : Bool) : (bothS old m n whole l ok).2.1 = pair (l.getLastD Dg.zero) (bothS old (m - half n) (n - half n) false l.dropLast (ok && !l.isEmpty)).2.1 := prod21 (bothS_hi h hm old whole l ok)
theorem bothS_hi3 {m n : Nat} (h : 2 ≤ n ∧ m ≠ n) (hm : ¬ m ≤ half n) (old : Dg) (whole : Bool) (l : List Dg) (ok : Bool) : (bothS old m n whole l ok).2.2 = (bothS old (m - half n) (n - half n) false l.dropLast (ok && !l.isEmpty)).2.2 := prod3 (bothS_hi h hm old whole l ok)
theorem bothS_end1 {m n : Nat} (h : ¬ (2 ≤ n ∧ m ≠ n)) (old : Dg) (l : List Dg) (ok : Bool) : (bothS old m n true l ok).1 = old := prod1 (bothS_end h old l ok)
theorem bothS_end2 {m n : Nat} (h : ¬ (2 ≤ n ∧ m ≠ n)) (old : Dg) (l : List Dg) (ok : Bool) : (bothS old m n true l ok).2.1 = old := prod21 (bothS_end h old l ok)
theorem bothS_end3 {m n : Nat} (h : ¬ (2 ≤ n ∧ m ≠ n)) (old : Dg) (l : List Dg) (ok : Bool) : (bothS old m n true l ok).2.2 = (l, ok) := prod3 (bothS_end h old l ok)
theorem bothS_cut1 {m n : Nat} (h : ¬ (2 ≤ n ∧ m ≠ n)) (old : Dg) (l : List Dg) (ok : Bool) : (bothS old m n false l ok).1 = l.getLastD Dg.zero := prod1 (bothS_cut h old l ok)
theorem bothS_cut2 {m n : Nat} (h : ¬ (2 ≤ n ∧ m ≠ n)) (old : Dg) (l : List Dg) (ok : Bool) : (bothS old m n false l ok).2.1 = l.getLastD Dg.zero := prod21 (bothS_cut h old l ok)
theorem bothS_cut3 {m n : Nat} (h : ¬ (2 ≤ n ∧ m ≠ n)) (old : Dg) (l : List Dg) (ok : Bool) : (bothS old m n false l ok).2.2 = (l.dropLast, ok && !l.isEmpty) := prod3 (bothS_cut h old l ok)
/-- The three of them, where all is told. -/
theorem both_is {s : Dg × Dg × Bool} {a b : Dg} {c : Bool} (h : s = (a, b, c)) : s.1 = a ∧ s.2.1 = b ∧ s.2.2 = c := by rw [h]; exact ⟨rfl, rfl, rfl⟩
end Sd
namespace Sk
open Go Go.RowKit Sd
section
variable {P : Program} {ev : Operand → Value} {S : World → Prop} {d : Option Tmp} {ty : TypeId} {pos : String} {af : Array Edge} {g : Option (Nat × Bool)}
end
end Sk
