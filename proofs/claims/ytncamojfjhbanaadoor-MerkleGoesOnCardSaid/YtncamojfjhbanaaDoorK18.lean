/- Plain: a store's head goes on that of each of its beginnings. -/
import Derived.Test.YtncamojfjhbanaaDoorK17
namespace Sd
theorem goes_checks {l : List Dg} {m : Nat} (h1 : 1 ≤ m) (hm : m ≤ l.length) (hn : l.length ≤ 1000) : checksOn (root (l.take m)) (m : Int) (root l) (l.length : Int) (goes l m true) = true := by
  obtain ⟨e1, e2, e3⟩ := both_is (both_goes l.length l m true (root (l.take m)) h1 hm (Nat.le_refl _) (fun _ => rfl))
  rw [checkOn_yes ⟨by omega, by omega, by omega⟩, Int.toNat_natCast, Int.toNat_natCast, e1, e2, e3]
  simp
end Sd
namespace Sd
theorem goes_len2 {l : List Dg} {m : Int} : (proveOn l m).1.length ≤ l.length := by
  by_cases h : 1 ≤ m ∧ m ≤ (l.length : Int)
  · rw [proveOn_ok h]; exact goes_le l m.toNat true (by omega)
  · rw [proveOn_no h]; exact Nat.zero_le _
end Sd
namespace Sd
end Sd
