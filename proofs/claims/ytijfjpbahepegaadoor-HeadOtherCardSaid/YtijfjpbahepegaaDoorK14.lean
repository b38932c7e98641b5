/- A head's digest: plain. -/
import Derived.Test.YtijfjpbahepegaaDoorK13
namespace Sd
open Go Go.RowKit Sk
/-- A whole number's two words. -/
def sizeWords (n : Int) : List UInt32 := [(u64of n).toUInt32, (UInt64.ofNat ((u64of n).toNat / 2 ^ 32)).toUInt32]
def headOf (h : Head) : Dg := pair (of (([104] : List UInt8) ++ wbytes (sizeWords h.size ++ [h.root.a, h.root.b, h.root.c, h.root.d]))) (of ([104, 101, 97, 100] : List UInt8))
end Sd
namespace Sk
open Go Go.RowKit Sd
section
variable {P : Program} {ev : Operand → Value} {w : World} {Ψ : Value → World → Prop} {d : Option Tmp} {ty : TypeId} {pos : String} {af : Array Edge} {g : Option (Nat × Bool)}
end
end Sk
namespace Sd
end Sd
namespace Sd
def prove (l : List Dg) (i : Int) : List Dg × Nat := if 0 ≤ i ∧ i < (l.length : Int) then (way l i.toNat, 0) else ([], 1)
end Sd
namespace Sd
def proveOn (l : List Dg) (m : Int) : List Dg × Nat := if 1 ≤ m ∧ m ≤ (l.length : Int) then (goes l m.toNat true, 0) else ([], 1)
end Sd
namespace Sd
theorem same_no {a b : List Dg} {k : Nat} {x y : Dg} (hx : a[k]? = some x) (hy : b[k]? = some y) (h : ¬ x = y) : decide (a = b) = false := by
  rw [decide_eq_false_iff_not]
  rintro rfl
  rw [hx] at hy
  exact h (Option.some.inj hy)
theorem same_len {a b : List Dg} (h : ¬ a.length = b.length) : decide (a = b) = false := by
  rw [decide_eq_false_iff_not]
  rintro rfl
  exact h rfl
theorem same_yes {a b : List Dg} {k : Nat} (hl : a.length = b.length) (hk : ¬ k < a.length) (hall : ∀ j, j < k → a[j]? = b[j]?) : decide (a = b) = true := by
  rw [decide_eq_true_iff]
  apply List.ext_getElem?
  intro j
  by_cases hj : j < k
  · exact hall j hj
  · rw [List.getElem?_eq_none (by omega), List.getElem?_eq_none (by omega)]
end Sd
