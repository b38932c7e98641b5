/- Plain laws of trees for the walks. -/
import Derived.Test.YtncamojfjhbanaaDoorK11
namespace Sd
open Go Go.RowKit Sk
theorem one_of {α : Type} {l : List α} (h : l.length = 1) : ∃ x, l = [x] := by
  match l, h with
  | [x], _ => exact ⟨x, rfl⟩
/-- A store that is small. -/
def few (items : List (List UInt8)) (m b : Nat) : Bool := decide (items.length ≤ m ∧ ∀ x ∈ items, x.length ≤ b)
def right (items : List (List UInt8)) : Bool := decide (items.length ≤ 1000 ∧ (items.map of).Nodup)
/-- Has a store lost what a head says? -/
def lost (items : List (List UInt8)) (h : Head) : Nat :=
  if h.size < 0 then 1 else if (items.length : Int) < h.size then 6 else if root ((items.map of).take h.size.toNat) = h.root then 0 else 8
end Sd
namespace Sd
end Sd
