/- Plain laws of a store that grows; a slice cut with its whole room. -/
import Derived.Test.YtijfjpbahepegaaDoorK16
namespace Sd
/-- The number of the first item with a digest; -1: there is none. -/
def findI : List (List UInt8) → Dg → Int
  | [], _ => -1
  | x :: l, d => if of x = d then 0 else if findI l d < 0 then -1 else findI l d + 1
theorem find_nil (d : Dg) : findI [] d = -1 := by rw [findI]
theorem find_here {x : List UInt8} {l : List (List UInt8)} {d : Dg} (h : of x = d) : findI (x :: l) d = 0 := by rw [findI, if_pos h]
theorem find_next {x : List UInt8} {l : List (List UInt8)} {d : Dg} (h : ¬ of x = d) : findI (x :: l) d = if findI l d < 0 then -1 else findI l d + 1 := by rw [findI, if_neg h]
theorem find_no : ∀ {l : List (List UInt8)} {d : Dg}, (∀ j x, j < l.length → l[j]? = some x → ¬ of x = d) → findI l d = -1
  | [], d, _ => find_nil d
  | y :: l, d, h => by
    have h0 : ¬ of y = d := h 0 y (by simp) rfl
    have ih := find_no (l := l) (d := d) fun j x hj hx => h (j + 1) x (by simpa using hj) (by simpa using hx)
    rw [find_next h0, ih]; rfl
theorem find_at : ∀ {l : List (List UInt8)} {d : Dg} {k : Nat} {x : List UInt8}, l[k]? = some x → of x = d → (∀ j y, j < k → l[j]? = some y → ¬ of y = d) → findI l d = (k : Int)
  | [], d, k, x, hx, _, _ => by simp at hx
  | y :: l, d, 0, x, hx, hd, _ => by
    simp at hx
    subst hx
    rw [find_here hd]; rfl
  | y :: l, d, k + 1, x, hx, hd, h => by
    have h0 : ¬ of y = d := h 0 y (by omega) rfl
    have ih := find_at (l := l) (k := k) (x := x) (by simpa using hx) hd fun j z hj hz => h (j + 1) z (by omega) (by simpa using hz)
    rw [find_next h0, ih, if_neg (by omega)]; omega
theorem find_lt : ∀ (l : List (List UInt8)) (d : Dg), findI l d < l.length
  | [], d => by rw [find_nil]; simp
  | y :: l, d => by
    have ih := find_lt l d
    by_cases h : of y = d
    · rw [find_here h]; simp only [List.length_cons]; omega
    · rw [find_next h]; simp only [List.length_cons]; split <;> omega
/-- One more. -/
def addS (l : List (List UInt8)) (x : List UInt8) : List (List UInt8) × Int × Nat :=
  if 0 ≤ findI l (of x) then if l[(findI l (of x)).toNat]? = some x then (l, findI l (of x), 0) else ([], 0, 8)
  else if 1000 ≤ l.length then ([], 0, 2) else (l ++ [x], (l.length : Int), 0)
theorem prods {α β γ : Type} {s : α × β × γ} {a : α} {b : β} {c : γ} (h : s = (a, b, c)) : s.1 = a ∧ s.2.1 = b ∧ s.2.2 = c := by rw [h]; exact ⟨rfl, rfl, rfl⟩
theorem add_same {l : List (List UInt8)} {x y : List UInt8} (h : 0 ≤ findI l (of x)) (hy : l[(findI l (of x)).toNat]? = some y) (he : y = x) : addS l x = (l, findI l (of x), 0) := by
  unfold addS; rw [if_pos h, hy, he, if_pos rfl]
theorem add_bad {l : List (List UInt8)} {x y : List UInt8} (h : 0 ≤ findI l (of x)) (hy : l[(findI l (of x)).toNat]? = some y) (he : ¬ y = x) : addS l x = ([], 0, 8) := by
  unfold addS; rw [if_pos h, hy, if_neg (fun e => he (Option.some.inj e))]
theorem add_full {l : List (List UInt8)} {x : List UInt8} (h : ¬ 0 ≤ findI l (of x)) (hf : 1000 ≤ l.length) : addS l x = ([], 0, 2) := by
  unfold addS; rw [if_neg h, if_pos hf]
theorem add_new {l : List (List UInt8)} {x : List UInt8} (h : ¬ 0 ≤ findI l (of x)) (hf : ¬ 1000 ≤ l.length) : addS l x = (l ++ [x], (l.length : Int), 0) := by
  unfold addS; rw [if_neg h, if_neg hf]
/-- What is added is all of old, or one more. -/
theorem add_ok {l : List (List UInt8)} {x : List UInt8} (h : (addS l x).2.2 = 0) : (addS l x).1 = l ∨ (addS l x).1 = l ++ [x] := by
  by_cases h1 : 0 ≤ findI l (of x)
  · by_cases h2 : l[(findI l (of x)).toNat]? = some x
    · left; unfold addS; rw [if_pos h1, if_pos h2]
    · unfold addS at h; rw [if_pos h1, if_neg h2] at h; cases h
  · by_cases h2 : 1000 ≤ l.length
    · unfold addS at h; rw [if_neg h1, if_pos h2] at h; cases h
    · right; unfold addS; rw [if_neg h1, if_neg h2]
theorem add_le {l : List (List UInt8)} {x : List UInt8} : (addS l x).1.length ≤ l.length + 1 ∧ ∀ y ∈ (addS l x).1, y ∈ l ∨ y = x := by
  unfold addS
  split <;> split <;> simp <;> (try exact fun y h => .inl h)
/-- The head of a beginning isn't lost. -/
theorem lost_head {l m : List (List UInt8)} (h : (l.map of).take m.length = m.map of) (hl : m.length ≤ l.length) : lost l ⟨(m.length : Int), root (m.map of)⟩ = 0 := by
  refine lost_ok (by simp) (by show ¬ (l.length : Int) < (m.length : Int); omega) ?_
  show root ((l.map of).take ((m.length : Int)).toNat) = root (m.map of)
  rw [Int.toNat_natCast, h]
theorem lost_self (l : List (List UInt8)) : lost l ⟨(l.length : Int), root (l.map of)⟩ = 0 := lost_head (by rw [List.take_of_length_le (by simp)]) (Nat.le_refl _)
theorem lost_cut {l : List (List UInt8)} {n : Nat} (h : n < l.length) : lost (l.take n) ⟨(l.length : Int), root (l.map of)⟩ = 6 :=
  lost_none (by simp) (by show ((l.take n).length : Int) < (l.length : Int); rw [List.length_take]; omega)
theorem lost_part {l : List (List UInt8)} {n : Nat} (h : n ≤ l.length) : lost l ⟨((l.take n).length : Int), root ((l.take n).map of)⟩ = 0 :=
  lost_head (by rw [List.length_take, Nat.min_eq_left h, List.map_take]) (by rw [List.length_take]; omega)
theorem lost_add {l : List (List UInt8)} {x : List UInt8} (h : (addS l x).2.2 = 0) : lost (addS l x).1 ⟨(l.length : Int), root (l.map of)⟩ = 0 := by
  rcases add_ok h with e | e
  · rw [e]; exact lost_self l
  · rw [e]; exact lost_head (by rw [List.map_append, List.take_append_of_le_length (by simp), List.take_of_length_le (by simp)]) (by simp)
end Sd
namespace Sk
open Go Go.RowKit Sd
section
variable {P : Program} {ev : Operand → Value} {w : World} {Ψ : Value → World → Prop} {d : Option Tmp} {ty : TypeId} {pos : String} {af : Array Edge} {g : Option (Nat × Bool)}
/-- A beginning with no room behind it. -/
theorem does_sliceFull {α : Type} {T : Ty α} {lo hi : Nat} {xs : List α} {t e n : Nat} {x y z : Operand} {k : Int} (ha : SliceIs P t e n) (hn : T.size = n) (hx : SlT T lo hi xs (ev x) w) (hy : ev y = i64 k) (hz : ev z = i64 k) (h0 : 0 ≤ k) (h1 : k.toNat ≤ xs.length)
    (h : ∀ a, SlT T lo hi (xs.take k.toNat) (.slice a (xs.take k.toNat).length (xs.take k.toNat).length) w → Ψ (.slice a (xs.take k.toNat).length (xs.take k.toNat).length) w) : Does P ev ⟨d, .slice t x none (some y) (some z), ty, pos, af, g⟩ w Ψ := by
  have hl : (xs.take k.toNat).length = k.toNat := by rw [List.length_take]; omega
  refine does_sliceHM ha hn hx hy hz h0 h1 fun a hs => ?_
  have := h a
  rw [hl] at this
  exact this hs
end
end Sk
namespace Sk
open Go Go.RowKit Sd
section
variable {P : Program} {ev : Operand → Value} {w : World} {Ψ : Value → World → Prop} {d : Option Tmp} {ty : TypeId} {pos : String} {af : Array Edge} {g : Option (Nat × Bool)}
theorem run_eqS (a b : List UInt8) : (Op.stringOp .eql ⟨a.toArray⟩ ⟨b.toArray⟩).run P w = .ok (.bool (decide (a = b))) w := by
  simp only [Op.stringOp, Go.ByteArray.toList_mk, Sem.run_pure]
  rw [show (a == b) = decide (a = b) from by by_cases h : a = b <;> simp [h]]
theorem run_neS (a b : List UInt8) : (Op.stringOp .neq ⟨a.toArray⟩ ⟨b.toArray⟩).run P w = .ok (.bool (!decide (a = b))) w := by
  simp only [Op.stringOp, Go.ByteArray.toList_mk, Sem.run_pure]
  rw [show (a == b) = decide (a = b) from by by_cases h : a = b <;> simp [h]]
theorem does_eqS {x y : Operand} {t t' : TypeId} {a b : List UInt8} (_ : P.underlying t = some .string) (hx : ev x = str a) (hy : ev y = str b) (h : Ψ (.bool (decide (a = b))) w) : Does P ev ⟨d, .binOp .eql t x y t', ty, pos, af, g⟩ w Ψ := by
  refine Does.value (v := .bool (decide (a = b))) (w' := w) ?_ h
  unfold str at hx hy
  simp only [execOp, hx, hy, eqGuard_at_string, binOp, Sem.run_bind, Sem.run_pure, Result.andThen_ok, run_eqS]
theorem does_neS {x y : Operand} {t t' : TypeId} {a b : List UInt8} (_ : P.underlying t = some .string) (hx : ev x = str a) (hy : ev y = str b) (h : Ψ (.bool (!decide (a = b))) w) : Does P ev ⟨d, .binOp .neq t x y t', ty, pos, af, g⟩ w Ψ := by
  refine Does.value (v := .bool (!decide (a = b))) (w' := w) ?_ h
  unfold str at hx hy
  simp only [execOp, hx, hy, eqGuard_at_string, binOp, Sem.run_bind, Sem.run_pure, Result.andThen_ok, run_neS]
end
end Sk
