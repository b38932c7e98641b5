/- Plain laws of a store that grows; a slice cut with its whole room. -/
import Derived.Test.YtijfjpbahepegaaDoorK16
namespace Sd
/-- The number of the first item with a digest; -1: there is none. -/
def findI : List (List UInt8) → Dg → Int
  | [], _ => -1
  | x :: l, d => if of x = d then 0 else if findI l d < 0 then -1 else findI l d + 1
/-- One more. -/
def addS (l : List (List UInt8)) (x : List UInt8) : List (List UInt8) × Int × Nat :=
  if 0 ≤ findI l (of x) then if l[(findI l (of x)).toNat]? = some x then (l, findI l (of x), 0) else ([], 0, 8)
  else if 1000 ≤ l.length then ([], 0, 2) else (l ++ [x], (l.length : Int), 0)
end Sd
namespace Sk
open Go Go.RowKit Sd
section
variable {P : Program} {ev : Operand → Value} {w : World} {Ψ : Value → World → Prop} {d : Option Tmp} {ty : TypeId} {pos : String} {af : Array Edge} {g : Option (Nat × Bool)}
/-- A beginning with no room behind it. -/
theorem does_sliceFull {α : Type} {T : Ty α} {lo hi : Nat} {xs : List α} {t e n : Nat} {x y z : Operand} {k : Int} (ha : SliceIs P t e n) (hn : T.size = n) (hx : SlT T lo hi xs (ev x) w) (hy : ev y = i64 k) (hz : ev z = i64 k) (h0 : 0 ≤ k) (h1 : k.toNat ≤ xs.length)
    (h : ∀ a, SlT T lo hi (xs.take k.toNat) (.slice a (xs.take k.toNat).length (xs.take k.toNat).length) w → Ψ (.slice a (xs.take k.toNat).length (xs.take k.toNat).length) w) : Does P ev ⟨d, .slice t x none (some y) (some z), ty, pos, af, g⟩ w Ψ := by
  have hl : (xs.take k.toNat).length = k.toNat := by rw [List.length_take]; omega
  refine does_sliceHM ha hn hx hy hz h0 h1 fun a hs => ?_
  have := h a
  rw [hl] at this
  exact this hs
end
end Sk
namespace Sk
open Go Go.RowKit Sd
section
variable {P : Program} {ev : Operand → Value} {w : World} {Ψ : Value → World → Prop} {d : Option Tmp} {ty : TypeId} {pos : String} {af : Array Edge} {g : Option (Nat × Bool)}
end
end Sk
