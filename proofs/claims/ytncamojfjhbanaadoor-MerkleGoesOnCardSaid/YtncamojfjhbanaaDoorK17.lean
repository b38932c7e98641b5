/- Plain laws of a store that grows; a slice cut with its whole room. -/
import Derived.Test.YtncamojfjhbanaaDoorK16
namespace Sd
/-- The number of the first item with a digest; -1: there is none. -/
def findI : List (List UInt8) → Dg → Int
  | [], _ => -1
  | x :: l, d => if of x = d then 0 else if findI l d < 0 then -1 else findI l d + 1
/-- One more. -/
def addS (l : List (List UInt8)) (x : List UInt8) : List (List UInt8) × Int × Nat :=
  if 0 ≤ findI l (of x) then if l[(findI l (of x)).toNat]? = some x then (l, findI l (of x), 0) else ([], 0, 8)
  else if 1000 ≤ l.length then ([], 0, 2) else (l ++ [x], (l.length : Int), 0)
end Sd
namespace Sk
open Go Go.RowKit Sd
section
variable {P : Program} {ev : Operand → Value} {w : World} {Ψ : Value → World → Prop} {d : Option Tmp} {ty : TypeId} {pos : String} {af : Array Edge} {g : Option (Nat × Bool)}
end
end Sk
namespace Sk
open Go Go.RowKit Sd
section
variable {P : Program} {ev : Operand → Value} {w : World} {Ψ : Value → World → Prop} {d : Option Tmp} {ty : TypeId} {pos : String} {af : Array Edge} {g : Option (Nat × Bool)}
end
end Sk
