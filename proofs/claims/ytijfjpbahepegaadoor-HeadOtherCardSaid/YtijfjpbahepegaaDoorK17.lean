/- Plain laws of a store that grows; a slice cut with its whole room. -/
import Derived.Test.YtijfjpbahepegaaDoorK16
namespace Sd
/-- The number of the first item with a digest; -1: there is none. -/
def findI : List (List UInt8) → Dg → Int
  | [], _ => -1
  | x :: l, d => if of x = d then 0 else if findI l d < 0 then -1 else findI l d + 1
/-- One more. -/
def addS (l : List (List UInt8)) (x : List UInt8) : List (List UInt8) × Int × Nat :=
  if 0 ≤ findI l (of x) then if l[(findI l (of x)).toNat]? = some x then (l, findI l (of x), 0) else ([], 0, 8)
  else if 1000 ≤ l.length then ([], 0, 2) else (l ++ [x], (l.length : Int), 0)
theorem prods {α β γ : Type} {s : α × β × γ} {a : α} {b : β} {c : γ} (h : s = (a, b, c)) : s.1 = a ∧ s.2.1 = b ∧ s.2.2 = c := by rw [h]; exact ⟨rfl, rfl, rfl⟩
end Sd
namespace Sk
open Go Go.RowKit Sd
section
variable {P : Program} {ev : Operand → Value} {w : World} {Ψ : Value → World → Prop} {d : Option Tmp} {ty : TypeId} {pos : String} {af : Array Edge} {g : Option (Nat × Bool)}
end
end Sk
namespace Sk
open Go Go.RowKit Sd
section
variable {P : Program} {ev : Operand → Value} {w : World} {Ψ : Value → World → Prop} {d : Option Tmp} {ty : TypeId} {pos : String} {af : Array Edge} {g : Option (Nat × Bool)}
theorem run_eqS (a b : List UInt8) : (Op.stringOp .eql ⟨a.toArray⟩ ⟨b.toArray⟩).run P w = .ok (.bool (decide (a = b))) w := by
  simp only [Op.stringOp, Go.ByteArray.toList_mk, Sem.run_pure]
  rw [show (a == b) = decide (a = b) from by by_cases h : a = b <;> simp [h]]
theorem does_eqS {x y : Operand} {t t' : TypeId} {a b : List UInt8} (_ : P.underlying t = some .string) (hx : ev x = str a) (hy : ev y = str b) (h : Ψ (.bool (decide (a = b))) w) : Does P ev ⟨d, .binOp .eql t x y t', ty, pos, af, g⟩ w Ψ := by
  refine Does.value (v := .bool (decide (a = b))) (w' := w) ?_ h
  unfold str at hx hy
  simp only [execOp, hx, hy, eqGuard_at_string, binOp, Sem.run_bind, Sem.run_pure, Result.andThen_ok, run_eqS]
end
end Sk
