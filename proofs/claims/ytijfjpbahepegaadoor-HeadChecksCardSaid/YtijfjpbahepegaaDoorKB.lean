/- My own calculus of walks, and plain laws. -/
import Derived.Test.YtijfjpbahepegaaDoorK
/- Signatures by trees of keys: plain. -/
namespace Sd
open Go Go.RowKit Sk
/-- Two to the k: how many keys a tree has. -/
def pw (k : Nat) : Nat := 2 ^ k
theorem pw_succ (k : Nat) : pw (k + 1) = pw k * 2 := Nat.pow_succ 2 k
theorem pw_small {k : Nat} (h : k ≤ 4) : pw k ≤ 16 := by
  have := Nat.pow_le_pow_right (n := 2) (by decide) h
  simpa [pw] using this
def keyCheck (pub msg : Dg) (i : Int) (one path : List Dg) : Bool := decide (path.length ≤ 4) && ((reachO msg one).2 && checks pub ((pw path.length : Nat) : Int) i (reachO msg one).1 path)
theorem keyCheck_no {pub msg : Dg} {i : Int} {one path : List Dg} (h : ¬ path.length ≤ 4) : keyCheck pub msg i one path = false := by unfold keyCheck; rw [decide_eq_false h, Bool.false_and]
theorem keyCheck_yes {pub msg : Dg} {i : Int} {one path : List Dg} (h : path.length ≤ 4) : keyCheck pub msg i one path = ((reachO msg one).2 && checks pub ((pw path.length : Nat) : Int) i (reachO msg one).1 path) := by unfold keyCheck; rw [decide_eq_true h, Bool.true_and]
theorem shl_one {n : Nat} (h : n ≤ 4) : IntKind.i64.wrap (1 * 2 ^ ((n : Int).toNat)) = ((pw n : Nat) : Int) := by
  have hp := pw_small h
  have key : ∀ p : Nat, p ≤ 16 → IntKind.i64.wrap ((p : Nat) : Int) = p := fun p hp => IntWalk.i64_in _ ⟨by omega, by omega⟩
  rw [Int.toNat_natCast, Int.one_mul, show (2 : Int) ^ n = ((pw n : Nat) : Int) by simp [pw]]
  exact key _ hp
end Sd

