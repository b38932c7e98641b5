/- When two structs are one. -/
import Derived.Test.YtijfjpbahepegaaDoorK12
namespace Sd
open Go Go.RowKit Sk
section
variable {P : Program} {w : World}
theorem eqf_cons {d : Nat} {xs ys : Array Value} {f : Field} {fs : List Field} {x y : Value} {b : Bool} (hn : (f.name != "_") = true) (hx : (part f.type xs f.offset).run P w = .ok x w) (hy : (part f.type ys f.offset).run P w = .ok y w) (he : (Op.equalIn d f.type x y).run P w = .ok b w) :
    (Op.eqFields d xs ys (f :: fs)).run P w = if b then (Op.eqFields d xs ys fs).run P w else .ok false w := by
  have hn' : f.name ≠ "_" := by simpa using hn
  simp only [Op.eqFields, hn', ne_eq, not_false_eq_true, if_true, Sem.run_bind, hx, hy, he, Result.andThen_ok]
  cases b <;> simp
theorem eqf_nil {d : Nat} {xs ys : Array Value} : (Op.eqFields d xs ys []).run P w = .ok true w := by simp [Op.eqFields]
theorem part_one {t : Nat} {cs : Array Value} {o : Nat} {D : TypeDesc} {V : Value} (ht : P.underlying t = some D) (hd : D.isRow = false) (hV : cs[o]? = some V) : (part t cs o).run P w = .ok V w := by
  simp [part, run_isAgg ht, hd, hV]
theorem part_row {t n : Nat} {cs : Array Value} {o : Nat} {D : TypeDesc} {V : Value} (ht : P.underlying t = some D) (hd : D.isRow = true) (hs : (P.info? t).map (·.size) = some n) (hV : Value.agg (cs.extract o (o + n)) = V) : (part t cs o).run P w = .ok V w := by
  simp [part, run_isAgg ht, hd, runSz hs, hV]
theorem equalIn_i64 {d t : Nat} (ht : P.underlying t = some (.int .i64)) (a b : Int) : (Op.equalIn (d + 1) t (i64 a) (i64 b)).run P w = .ok (decide (a = b)) w := by
  simp [Op.equalIn, run_underlying ht, int_beq]
theorem len2 {α : Type} : ∀ {l : List α}, l.length = 2 → ∃ a b, l = [a, b]
  | [a, b], _ => ⟨a, b, rfl⟩
theorem fields_of {t : Nat} {fs : List (Nat × Nat)} (h : StructIs P t fs) : ∃ l : List Field, (P.fieldsOf t).toList = l ∧ l.map (fun f => (f.type, f.offset)) = fs ∧ ∀ f ∈ l, (f.name != "_") = true :=
  ⟨_, rfl, h.2.2.1, fun f hf => List.all_eq_true.1 h.2.2.2 f hf⟩
theorem eqIs_struct {α : Type} [DecidableEq α] {t : Nat} {fs : List (Nat × Nat)} {val : α → Value} {cells : α → List Value} (hS : StructIs P t fs) (hv : ∀ a, val a = .agg (cells a).toArray) (hg : P.eqGuardType P.depth t = false)
    (h : ∀ (a b : α) (w : World) (l : List Field), l.map (fun f => (f.type, f.offset)) = fs → (∀ f ∈ l, (f.name != "_") = true) → (Op.eqFields 9999 (cells a).toArray (cells b).toArray l).run P w = .ok (decide (a = b)) w) : EqIs P t val := by
  refine ⟨fun a b w => ?_, fun a => ⟨_, hv a⟩, hg⟩
  obtain ⟨l, h1, h2, h3⟩ := fields_of hS
  rw [hv a, hv b]
  show (Op.equalIn (9999 + 1) t _ _).run P w = _
  rw [run_equalIn_struct _ _ _ _ _ hS.1 hS.2.1, h1]
  exact h a b w l h2 h3
theorem eq_head {t i d e : Nat} (hS : StructIs P t [(i, 0), (d, 1)]) (hi : P.underlying i = some (.int .i64)) (hd : DgIs P d e) (hg : P.eqGuardType P.depth t = false) : EqIs P t Head.val := by
  refine eqIs_struct (cells := Head.cells) hS (fun _ => rfl) hg fun a b w l h2 h3 => ?_
  obtain ⟨f0, f1, rfl⟩ : ∃ f0 f1, l = [f0, f1] := len2 (by have := congrArg List.length h2; simpa using this)
  · skip
    simp only [List.map_cons, List.map_nil, List.cons.injEq, Prod.mk.injEq, and_true] at h2
    obtain ⟨⟨t0, o0⟩, t1, o1⟩ := h2
    obtain ⟨hd1, hd2, hd3, hd4⟩ := hd
    rw [eqf_cons (x := i64 a.size) (y := i64 b.size) (h3 f0 (by simp)) (by rw [t0, o0]; exact part_one hi rfl rfl) (by rw [t0, o0]; exact part_one hi rfl rfl) (by rw [t0]; exact equalIn_i64 hi _ _),
      eqf_cons (x := Dg.val a.root) (y := Dg.val b.root) (h3 f1 (by simp)) (by rw [t1, o1]; exact part_row hd1 rfl hd4 rfl) (by rw [t1, o1]; exact part_row hd1 rfl hd4 rfl) (by rw [t1]; exact equalIn_dg 9997 hd1 hd2 hd3 _ _), eqf_nil]
    obtain ⟨a1, a2⟩ := a
    obtain ⟨b1, b2⟩ := b
    by_cases h1 : a1 = b1 <;> by_cases h2 : a2 = b2 <;> simp [h1, h2]
end
end Sd
namespace Sk
open Go Go.RowKit Sd
theorem SlT.one {α : Type} {T : Ty α} {lo hi : Nat} {xs : List α} {v : Value} {w : World} (h : SlT T lo hi xs v w) : v.oneCell' = true := by
  obtain ⟨a, cap, rfl, _⟩ := h; rfl
theorem SlT.cells {α : Type} {T : Ty α} {lo hi : Nat} {xs : List α} {v : Value} {w : World} (h : SlT T lo hi xs v w) : v.cells = #[v] := by
  obtain ⟨a, cap, rfl, _⟩ := h; rfl
theorem one_nil : (([] : List Value).all fun u => u.oneCell') = true := rfl
theorem one_cons {u : Value} {l : List Value} (h : u.oneCell' = true) (k : (l.all fun u => u.oneCell') = true) : ((u :: l).all fun u => u.oneCell') = true := by
  rw [List.all_cons, h, k]; rfl
/-- A struct of which a part is known by a predicate. -/
def Pr.ag {R : World → World → Prop} (f : Value → Value) (p : Pr R) : Pr R := ⟨fun v w => ∃ x, v = f x ∧ p.p x w, fun _ _ _ ⟨x, hv, h⟩ k => ⟨x, hv, p.st _ _ _ h k⟩⟩
def Pr.ag2 {R : World → World → Prop} (f : Value → Value → Value) (p q : Pr R) : Pr R := ⟨fun v w => ∃ x y, v = f x y ∧ p.p x w ∧ q.p y w, fun _ _ _ ⟨x, y, hv, h, h2⟩ k => ⟨x, y, hv, p.st _ _ _ h k, q.st _ _ _ h2 k⟩⟩
end Sk
namespace Sk
open Go
theorem parts0 {ev : Operand → Value} : ((#[] : Array (Nat × Operand)).map fun (i, x) => (i, ev x)) = #[] := by simp
end Sk
