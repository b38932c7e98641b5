/- Plain: a store's head goes on that of each of its beginnings. -/
import Derived.Test.YtncamojfjhbanaaDoorK17
namespace Sd
end Sd
namespace Sd
theorem goes_len2 {l : List Dg} {m : Int} : (proveOn l m).1.length ≤ l.length := by
  by_cases h : 1 ≤ m ∧ m ≤ (l.length : Int)
  · rw [proveOn_ok h]; exact goes_le l m.toNat true (by omega)
  · rw [proveOn_no h]; exact Nat.zero_le _
end Sd
namespace Sd
end Sd
