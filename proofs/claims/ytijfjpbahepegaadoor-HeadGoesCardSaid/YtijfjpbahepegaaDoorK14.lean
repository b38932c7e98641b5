/- A head's digest: plain. -/
import Derived.Test.YtijfjpbahepegaaDoorK13
namespace Sd
open Go Go.RowKit Sk
/-- A whole number's two words. -/
def sizeWords (n : Int) : List UInt32 := [(u64of n).toUInt32, (UInt64.ofNat ((u64of n).toNat / 2 ^ 32)).toUInt32]
def headOf (h : Head) : Dg := pair (of (([104] : List UInt8) ++ wbytes (sizeWords h.size ++ [h.root.a, h.root.b, h.root.c, h.root.d]))) (of ([104, 101, 97, 100] : List UInt8))
end Sd
namespace Sk
open Go Go.RowKit Sd
section
variable {P : Program} {ev : Operand → Value} {w : World} {Ψ : Value → World → Prop} {d : Option Tmp} {ty : TypeId} {pos : String} {af : Array Edge} {g : Option (Nat × Bool)}
end
end Sk
namespace Sd
end Sd
namespace Sd
def prove (l : List Dg) (i : Int) : List Dg × Nat := if 0 ≤ i ∧ i < (l.length : Int) then (way l i.toNat, 0) else ([], 1)
end Sd
namespace Sd
theorem goes_le : ∀ (l : List Dg) (m : Nat) (whole : Bool), 1 ≤ l.length → (goes l m whole).length ≤ l.length := by
  intro l
  induction hn : l.length using Nat.strongRecOn generalizing l with
  | _ n ih =>
    intro m whole h1
    by_cases h2 : 2 ≤ l.length ∧ m ≠ l.length
    · have hl := half_lt h2.1
      have hp := half_pos l.length
      by_cases hi : m ≤ half l.length
      · rw [goes_lo h2 hi, List.length_append]
        have := ih (l.take (half l.length)).length (by rw [List.length_take]; omega) (l.take (half l.length)) rfl m whole (by rw [List.length_take]; omega)
        rw [List.length_take] at this
        simp only [List.length_cons, List.length_nil]
        omega
      · rw [goes_hi h2 hi, List.length_append]
        have := ih (l.drop (half l.length)).length (by rw [List.length_drop]; omega) (l.drop (half l.length)) rfl (m - half l.length) false (by rw [List.length_drop]; omega)
        rw [List.length_drop] at this
        simp only [List.length_cons, List.length_nil]
        omega
    · rw [goes_end h2]
      split
      · simp
      · simp only [List.length_cons, List.length_nil]; omega
def proveOn (l : List Dg) (m : Int) : List Dg × Nat := if 1 ≤ m ∧ m ≤ (l.length : Int) then (goes l m.toNat true, 0) else ([], 1)
theorem proveOn_ok {l : List Dg} {m : Int} (h : 1 ≤ m ∧ m ≤ (l.length : Int)) : proveOn l m = (goes l m.toNat true, 0) := by unfold proveOn; rw [if_pos h]
theorem proveOn_no {l : List Dg} {m : Int} (h : ¬ (1 ≤ m ∧ m ≤ (l.length : Int))) : proveOn l m = ([], 1) := by unfold proveOn; rw [if_neg h]
end Sd
namespace Sd
end Sd
