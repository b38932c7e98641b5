/- My own calculus: relations of worlds, what memory holds, one rule an operation. -/
import Derived.Test.YtncamojfjhbanaaDoorK1
namespace Sk
open Go Go.RowKit

/-- Memory is extended; of the old blocks at most those of E are written. -/
structure ExtE (E : Nat → Prop) (w w' : World) : Prop where
  os : w'.os = w.os
  tape : w'.tape = w.tape
  output : w'.output = w.output
  size : w.heap.size ≤ w'.heap.size
  block : ∀ k, k < w.heap.size → ¬ E k → w'.heap[k]? = w.heap[k]?

def Ext : World → World → Prop := ExtE (fun _ => False)

theorem ExtE.refl (E : Nat → Prop) (w : World) : ExtE E w w := ⟨rfl, rfl, rfl, Nat.le_refl _, fun _ _ _ => rfl⟩
theorem ExtE.trans {E : Nat → Prop} {a b c : World} (h : ExtE E a b) (k : ExtE E b c) : ExtE E a c :=
  ⟨k.os.trans h.os, k.tape.trans h.tape, k.output.trans h.output, Nat.le_trans h.size k.size, fun i hi he => (k.block i (Nat.lt_of_lt_of_le hi h.size) he).trans (h.block i hi he)⟩
theorem ExtE.mono {E E' : Nat → Prop} {w w' : World} (h : ExtE E w w') (hE : ∀ k, k < w.heap.size → E k → E' k) : ExtE E' w w' :=
  ⟨h.os, h.tape, h.output, h.size, fun k hk he => h.block k hk fun hh => he (hE k hk hh)⟩
theorem Ext.refl (w : World) : Ext w w := ExtE.refl _ w
theorem Ext.trans {a b c : World} (h : Ext a b) (k : Ext b c) : Ext a c := ExtE.trans h k
theorem Ext.toE {E : Nat → Prop} {w w' : World} (h : Ext w w') : ExtE E w w' := ExtE.mono h fun _ _ h => h.elim
theorem Ext.size' {w w' : World} (h : Ext w w') : w.heap.size ≤ w'.heap.size := ExtE.size h
theorem Ext.drew (w : World) : Ext w { w with drawn := w.drawn + 1 } := ⟨rfl, rfl, rfl, Nat.le_refl _, fun _ _ _ => rfl⟩
theorem Ext.alloc (w : World) (o : Obj) : Ext w (w.alloc o) := ⟨rfl, rfl, rfl, by simp, fun k hk _ => Below.heap_alloc w o k hk⟩
theorem Ext.below {w w' : World} (h : Ext w w') : Below w.heap.size w w' := ⟨h.os, h.tape, h.output, h.size, fun k hk => h.block k hk fun h => h⟩
theorem Ext.ofBelow {w w' : World} (h : Below w.heap.size w w') : Ext w w' := ⟨h.os, h.tape, h.output, h.size, fun k hk _ => h.block k hk⟩
/-- What was written is younger than the first world. -/
theorem Ext.since {E : Nat → Prop} {w0 w w' : World} (h : Ext w0 w) (k : ExtE E w w') (hE : ∀ b, E b → w0.heap.size ≤ b) : Ext w0 w' :=
  ⟨k.os.trans h.os, k.tape.trans h.tape, k.output.trans h.output, Nat.le_trans h.size k.size, fun i hi he => (k.block i (Nat.lt_of_lt_of_le hi h.size) (fun hh => by have := hE i hh; omega)).trans (h.block i hi he)⟩

/-- Block b: these cells, of this type, none frozen. -/
def Has (w : World) (b : Nat) (t : TypeId) (cs : List Value) : Prop := w.heap[b]? = some (.cells cs.toArray t (0, 0))
theorem Has.lt {w : World} {b : Nat} {t : TypeId} {cs : List Value} (h : Has w b t cs) : b < w.heap.size := (Array.getElem?_eq_some_iff.1 h).1
theorem Has.ext {w w' : World} {b : Nat} {t : TypeId} {cs : List Value} (h : Has w b t cs) {E : Nat → Prop} (k : ExtE E w w') (hE : ¬ E b) : Has w' b t cs := (k.block b h.lt hE).trans h
theorem Has.ext' {w w' : World} {b : Nat} {t : TypeId} {cs : List Value} (h : Has w b t cs) (k : Ext w w') : Has w' b t cs := Has.ext h k (fun h => h)
theorem Has.range {w : World} {b : Nat} {t : TypeId} {cs : List Value} (h : Has w b t cs) (pre mid post : List Value) (hc : cs = pre ++ (mid ++ post)) : w.rangeAt b pre.length mid := by
  intro j v hv
  have hj : j < mid.length := (List.getElem?_eq_some_iff.1 hv).1
  unfold World.cell?
  rw [show w.heap[b]? = _ from h]
  simp only [Option.isSome_none, Bool.false_eq_true, if_false]
  rw [hc]
  rw [show ((pre ++ (mid ++ post)).toArray)[pre.length + j]? = (pre ++ (mid ++ post))[pre.length + j]? from by simp, List.getElem?_append_right (by omega), Nat.add_sub_cancel_left, List.getElem?_append_left hj, hv]
theorem range_ext {w w' : World} {b o : Nat} {cs : List Value} (h : w.rangeAt b o cs) {E : Nat → Prop} (k : ExtE E w w') (hE : cs = [] ∨ ¬ E b) : w'.rangeAt b o cs := by
  intro j v hv
  have h1 := h j v hv
  have hlt : b < w.heap.size := World.block_lt_of_cell? w ⟨b, o + j, none⟩ h1
  have hE' : ¬ E b := hE.resolve_left (fun e => by rw [e] at hv; simp at hv)
  rw [← h1]
  exact World.cell?_of_block (k.block b hlt hE')

/-- How an element lies in memory. -/
structure Ty (α : Type) where
  size : Nat
  enc : α → List Value
  len : ∀ x, (enc x).length = size
  pos : 0 < size
  one : ∀ x u, u ∈ enc x → u.oneCell' = true

/-- Below hi less one; 0: no bound. -/
def Under (b hi : Nat) : Prop := hi = 0 ∨ b + 1 < hi
theorem Under.wide {b hi hi' : Nat} (h : Under b hi) (hh : hi' = 0 ∨ (hi ≠ 0 ∧ hi ≤ hi')) : Under b hi' := by
  unfold Under at *; omega

/-- A slice that reads as a list, its array (if there is an element) a block from lo on, below hi. -/
def SlT {α : Type} (T : Ty α) (lo hi : Nat) (xs : List α) (v : Value) (w : World) : Prop :=
  ∃ a cap, v = .slice a xs.length cap ∧ xs.length ≤ cap ∧ (xs = [] ∨ ∃ b o, a = some ⟨b, o, none⟩ ∧ lo ≤ b ∧ Under b hi ∧ ∀ (i : Nat) (x : α), xs[i]? = some x → w.rangeAt b (o + i * T.size) (T.enc x))

theorem SlT.ext {α : Type} {T : Ty α} {lo hi : Nat} {xs : List α} {v : Value} {w w' : World} (h : SlT T lo hi xs v w) {E : Nat → Prop} (k : ExtE E w w') (hE : ∀ b, lo ≤ b → Under b hi → ¬ E b) : SlT T lo hi xs v w' := by
  obtain ⟨a, cap, hv, hc, hr⟩ := h
  refine ⟨a, cap, hv, hc, hr.imp id ?_⟩
  rintro ⟨b, o, ha, h1, h2, h3⟩
  exact ⟨b, o, ha, h1, h2, fun i x hx => range_ext (h3 i x hx) k (.inr (hE b h1 h2))⟩
theorem SlT.ext' {α : Type} {T : Ty α} {lo hi : Nat} {xs : List α} {v : Value} {w w' : World} (h : SlT T lo hi xs v w) (k : Ext w w') : SlT T lo hi xs v w' := SlT.ext h k (fun _ _ _ h => h)
theorem SlT.wide {α : Type} {T : Ty α} {lo hi lo' hi' : Nat} {xs : List α} {v : Value} {w : World} (h : SlT T lo hi xs v w) (h1 : lo' ≤ lo) (h2 : hi' = 0 ∨ (hi ≠ 0 ∧ hi ≤ hi')) : SlT T lo' hi' xs v w := by
  obtain ⟨a, cap, hv, hc, hr⟩ := h
  exact ⟨a, cap, hv, hc, hr.imp id fun ⟨b, o, ha, h3, h4, h5⟩ => ⟨b, o, ha, Nat.le_trans h1 h3, h4.wide h2, h5⟩⟩
/-- It lies in what there is. -/
theorem SlT.close {α : Type} {T : Ty α} {lo hi : Nat} {xs : List α} {v : Value} {w : World} (h : SlT T lo hi xs v w) : SlT T lo (w.heap.size + 1) xs v w := by
  obtain ⟨a, cap, hv, hc, hr⟩ := h
  refine ⟨a, cap, hv, hc, ?_⟩
  cases xs with
  | nil => exact .inl rfl
  | cons x xs =>
    obtain ⟨b, o, ha, h3, h4, h5⟩ := hr.resolve_left (by simp)
    refine .inr ⟨b, o, ha, h3, .inr ?_, h5⟩
    have h6 := h5 0 x rfl
    have hp : 0 < (T.enc x).length := by rw [T.len]; exact T.pos
    exact Nat.succ_lt_succ (World.block_lt_of_cell? w _ (h6 0 _ (List.getElem?_eq_getElem hp)))
theorem SlT.nil {α : Type} (T : Ty α) (lo hi : Nat) (w : World) : SlT T lo hi [] (.slice none 0 0) w := ⟨none, 0, rfl, Nat.le_refl _, .inl rfl⟩

/-- A pointer to these cells, which lie in a block from lo on, below hi. -/
def PtR (lo hi : Nat) (cs : List Value) (v : Value) (w : World) : Prop := ∃ b o, v = .pointer (some ⟨b, o, none⟩) ∧ lo ≤ b ∧ Under b hi ∧ w.rangeAt b o cs

/-! ### The predicates of a table -/

section
variable {E : Nat → Prop}
def Pr.ex {R : World → World → Prop} (V : Value) : Pr R := ⟨fun v _ => v = V, fun _ _ _ h _ => h⟩
/-- Of anything that hangs on no world. -/
def Pr.any {R : World → World → Prop} (p : Value → Prop) : Pr R := ⟨fun v _ => p v, fun _ _ _ h _ => h⟩
def Pr.sl {α : Type} (T : Ty α) (lo hi : Nat) (xs : List α) (hE : ∀ b, lo ≤ b → Under b hi → ¬ E b) : Pr (ExtE E) := ⟨SlT T lo hi xs, fun _ _ _ h k => SlT.ext h k hE⟩
def Pr.pt (lo hi : Nat) (cs : List Value) (hE : ∀ b, lo ≤ b → Under b hi → ¬ E b) : Pr (ExtE E) := ⟨PtR lo hi cs, fun _ _ _ ⟨b, o, hv, h1, h2, h3⟩ k => ⟨b, o, hv, h1, h2, range_ext h3 k (.inr (hE b h1 h2))⟩⟩
/-- A pointer to a new variable. -/
def IsBox (lo : Nat) (t : TypeId) (cs : List Value) (v : Value) (w : World) : Prop := ∃ b, v = .pointer (some ⟨b, 0, none⟩) ∧ lo ≤ b ∧ Has w b t cs
def Pr.box (lo : Nat) (t : TypeId) (cs : List Value) (hE : ∀ b, lo ≤ b → ¬ E b) : Pr (ExtE E) := ⟨IsBox lo t cs, fun _ _ _ ⟨b, hv, h1, h2⟩ k => ⟨b, hv, h1, h2.ext k (hE b h1)⟩⟩
/-- What holds if the guard does. -/
def Pr.ifb {R : World → World → Prop} (B : Bool) (p : Pr R) : Pr R := ⟨fun v w => B = true → p.p v w, fun _ _ _ h k hb => p.st _ _ _ (h hb) k⟩
def Pr.sl' {α : Type} (T : Ty α) (lo hi : Nat) (xs : List α) : Pr Ext := ⟨SlT T lo hi xs, fun _ _ _ h k => SlT.ext' h k⟩
def Pr.pt' (lo hi : Nat) (cs : List Value) : Pr Ext := ⟨PtR lo hi cs, fun _ _ _ ⟨b, o, hv, h1, h2, h3⟩ k => ⟨b, o, hv, h1, h2, range_ext h3 k (.inr fun h => h)⟩⟩
def Pr.box' (lo : Nat) (t : TypeId) (cs : List Value) : Pr Ext := ⟨IsBox lo t cs, fun _ _ _ ⟨b, hv, h1, h2⟩ k => ⟨b, hv, h1, h2.ext' k⟩⟩
end

/-! ### One rule an operation -/

section
variable {P : Program} {ev : Operand → Value} {w : World} {Ψ : Value → World → Prop} {d : Option Tmp} {ty : TypeId} {pos : String} {af : Array Edge} {g : Option (Nat × Bool)}

theorem does_move {x : Operand} {V : Value} (hx : ev x = V) (h : Ψ V w) : Does P ev ⟨d, .move x, ty, pos, af, g⟩ w Ψ := by
  refine Does.value (v := V) (w' := w) ?_ h
  rw [← hx]; rfl
theorem does_assign {x : Operand} {V : Value} (hx : ev x = V) (h : Ψ V w) : Does P ev ⟨d, .assign x, ty, pos, af, g⟩ w Ψ := by
  refine Does.value (v := V) (w' := w) ?_ h
  rw [← hx]; rfl
theorem does_and {c x y : Operand} {B X : Bool} (hc : ev c = .bool B) (hx : B = true → ev x = .bool X) (hy : ev y = .bool false) (h : Ψ (.bool (B && X)) w) : Does P ev ⟨d, .pick c x y, ty, pos, af, g⟩ w Ψ := by
  refine Does.value (v := .bool (B && X)) (w' := w) ?_ h
  cases B
  · simp [execOp, hc, hy, asBool]
  · simp [execOp, hc, hx rfl, asBool]
theorem does_or {c x y : Operand} {B X : Bool} (hc : ev c = .bool B) (hx : ev x = .bool true) (hy : B = false → ev y = .bool X) (h : Ψ (.bool (B || X)) w) : Does P ev ⟨d, .pick c x y, ty, pos, af, g⟩ w Ψ := by
  refine Does.value (v := .bool (B || X)) (w' := w) ?_ h
  cases B
  · simp [execOp, hc, hy rfl, asBool]
  · simp [execOp, hc, hx, asBool]
theorem does_not {x : Operand} {t : TypeId} {B : Bool} (hx : ev x = .bool B) (h : Ψ (.bool (!B)) w) : Does P ev ⟨d, .unOp .not t x, ty, pos, af, g⟩ w Ψ := by
  refine Does.value (v := .bool (!B)) (w' := w) ?_ h
  simp [execOp, hx, Op.unary]
theorem does_extract {x : Operand} {i : Nat} {vs : Array Value} {V : Value} (hx : ev x = .tuple vs) (hi : vs[i]? = some V) (h : Ψ V w) : Does P ev ⟨d, .extract x i, ty, pos, af, g⟩ w Ψ := by
  refine Does.value (v := V) (w' := w) ?_ h
  simp [execOp, hx, Instr.extract, hi]
theorem does_nilCheck {x : Operand} {a : Addr} (hx : ev x = .pointer (some a)) (h : Ψ (.pointer (some a)) w) : Does P ev ⟨d, .nilCheck x, ty, pos, af, g⟩ w Ψ := by
  refine Does.value (v := .pointer (some a)) (w' := w) ?_ h
  simp [execOp, hx]
/-! Memory of the call's own. -/

theorem does_alloc {e : TypeId} {z : Value} (hz : (P.info? e).bind (·.zero) = some z) (h : ∀ b w', Ext w w' → w.heap.size ≤ b → Has w' b e z.cells.toList → Ψ (.pointer (some ⟨b, 0, none⟩)) w') : Does P ev ⟨d, .alloc e, ty, pos, af, g⟩ w Ψ := by
  have hz' : (zeroValue e).run P w = .ok z w := by
    cases hq : P.info? e with
    | none => simp [hq] at hz
    | some i => simp [hq] at hz; simp [zeroValue, typeInfo, hq, hz]
  refine Does.value (v := .pointer (some ⟨w.heap.size, 0, none⟩)) (w' := w.alloc (.cells z.cells e)) ?_ (h _ _ (Ext.alloc w _) (Nat.le_refl _) ?_)
  · simp [execOp, Instr.alloc, hz', newVar, newRow, newObj, Sem.run]
  · show (w.alloc _).heap[w.heap.size]? = some _
    rw [heap_alloc_new, Array.toArray_toList]
theorem does_box {e : TypeId} {x : Operand} {V : Value} (hx : ev x = V) (h : ∀ b w', Ext w w' → w.heap.size ≤ b → Has w' b e V.cells.toList → Ψ (.pointer (some ⟨b, 0, none⟩)) w') : Does P ev ⟨d, .box e x, ty, pos, af, g⟩ w Ψ := by
  refine Does.value (v := .pointer (some ⟨w.heap.size, 0, none⟩)) (w' := w.alloc (.cells V.cells e)) ?_ (h _ _ (Ext.alloc w _) (Nat.le_refl _) ?_)
  · simp [execOp, Instr.box, hx, newVar, newRow, newObj, Sem.run]
  · show (w.alloc _).heap[w.heap.size]? = some _
    rw [heap_alloc_new, Array.toArray_toList]

/-- A load of a struct or an array. -/
theorem does_load {t : TypeId} {x : Operand} {b o : Nat} {cs : List Value} {D : TypeDesc} (hx : ev x = .pointer (some ⟨b, o, none⟩)) (hr : w.rangeAt b o cs)
    (hu : P.underlying t = some D) (hd : D.isRow = true) (hi : (P.info? t).map (·.size) = some cs.length) (h : Ψ (.agg cs.toArray) w) : Does P ev ⟨d, .load t x, ty, pos, af, g⟩ w Ψ := by
  refine Does.value (v := .agg cs.toArray) (w' := w) ?_ h
  simp [execOp, hx, run_loadAt_mid w b o t cs D hr hu hd hi]
/-- A load of one cell. -/
theorem does_load1 {t : TypeId} {x : Operand} {b o : Nat} {V : Value} {D : TypeDesc} (hx : ev x = .pointer (some ⟨b, o, none⟩)) (hr : w.rangeAt b o [V])
    (hu : P.underlying t = some D) (hd : D.isRow = false) (h : Ψ V w) : Does P ev ⟨d, .load t x, ty, pos, af, g⟩ w Ψ := by
  refine Does.value (v := V) (w' := w) ?_ h
  have hagg : (isAgg t).run P w = .ok false w := by
    unfold isAgg
    rw [Sem.run_bind, run_underlying hu w]
    cases D <;> simp_all
  have hc : w.cell? ⟨b, o, none⟩ = some V := hr 0 V rfl
  simp [execOp, hx, Instr.loadAt, Instr.sureAddr, loadVar, hagg, load, Sem.run, hc]

end
end Sk
