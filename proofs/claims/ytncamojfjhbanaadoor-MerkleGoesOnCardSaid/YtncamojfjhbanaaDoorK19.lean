/- My own calculus: stores into elements of a slice of the call's own; a new slice of many zeros. -/
import Derived.Test.YtncamojfjhbanaaDoorK18
namespace Sk
open Go Go.RowKit Sd

/-- Where element k of a slice of the call's own lies. -/
def elAddr (v : Value) (k size : Nat) : Value :=
  match v with
  | .slice (some a) _ _ => .pointer (some (a.add (k * size)))
  | _ => undef

section
variable {P : Program} {ev : Operand → Value} {w : World} {Ψ : Value → World → Prop} {d : Option Tmp} {ty : TypeId} {pos : String} {af : Array Edge} {g : Option (Nat × Bool)}
end
end Sk
namespace Sk
open Go Go.RowKit Sd
section
variable {P : Program} {ev : Operand → Value} {S : World → Prop} {d : Option Tmp} {ty : TypeId} {pos : String} {af : Array Edge} {g : Option (Nat × Bool)}
end
end Sk
namespace Sd
end Sd
