/- A head's digest: plain. -/
import Derived.Test.YtncamojfjhbanaaDoorK13
namespace Sd
open Go Go.RowKit Sk
/-- A whole number's two words. -/
def sizeWords (n : Int) : List UInt32 := [(u64of n).toUInt32, (UInt64.ofNat ((u64of n).toNat / 2 ^ 32)).toUInt32]
def headOf (h : Head) : Dg := pair (of (([104] : List UInt8) ++ wbytes (sizeWords h.size ++ [h.root.a, h.root.b, h.root.c, h.root.d]))) (of ([104, 101, 97, 100] : List UInt8))
end Sd
namespace Sk
open Go Go.RowKit Sd
section
variable {P : Program} {ev : Operand → Value} {w : World} {Ψ : Value → World → Prop} {d : Option Tmp} {ty : TypeId} {pos : String} {af : Array Edge} {g : Option (Nat × Bool)}
end
end Sk
namespace Sd
theorem way_le : ∀ (l : List Dg) (i : Nat), 1 ≤ l.length → (way l i).length + 1 ≤ l.length := by
  intro l
  induction hn : l.length using Nat.strongRecOn generalizing l with
  | _ n ih =>
    intro i h1
    by_cases h2 : 2 ≤ l.length
    · have hl := half_lt h2
      have hp := half_pos l.length
      by_cases hi : i < half l.length
      · rw [way_lo h2 hi, List.length_append]
        have := ih (l.take (half l.length)).length (by rw [List.length_take]; omega) (l.take (half l.length)) rfl i (by rw [List.length_take]; omega)
        rw [List.length_take] at this
        simp only [List.length_cons, List.length_nil]
        omega
      · rw [way_hi h2 hi, List.length_append]
        have := ih (l.drop (half l.length)).length (by rw [List.length_drop]; omega) (l.drop (half l.length)) rfl (i - half l.length) (by rw [List.length_drop]; omega)
        rw [List.length_drop] at this
        simp only [List.length_cons, List.length_nil]
        omega
    · rw [way_one (by omega)]
      simp only [List.length_nil]
      omega
end Sd
namespace Sd
def prove (l : List Dg) (i : Int) : List Dg × Nat := if 0 ≤ i ∧ i < (l.length : Int) then (way l i.toNat, 0) else ([], 1)
theorem prove_ok {l : List Dg} {i : Int} (h : 0 ≤ i ∧ i < (l.length : Int)) : prove l i = (way l i.toNat, 0) := by unfold prove; rw [if_pos h]
theorem prove_no {l : List Dg} {i : Int} (h : ¬ (0 ≤ i ∧ i < (l.length : Int))) : prove l i = ([], 1) := by unfold prove; rw [if_neg h]
end Sd
namespace Sd
theorem goes_le : ∀ (l : List Dg) (m : Nat) (whole : Bool), 1 ≤ l.length → (goes l m whole).length ≤ l.length := by
  intro l
  induction hn : l.length using Nat.strongRecOn generalizing l with
  | _ n ih =>
    intro m whole h1
    by_cases h2 : 2 ≤ l.length ∧ m ≠ l.length
    · have hl := half_lt h2.1
      have hp := half_pos l.length
      by_cases hi : m ≤ half l.length
      · rw [goes_lo h2 hi, List.length_append]
        have := ih (l.take (half l.length)).length (by rw [List.length_take]; omega) (l.take (half l.length)) rfl m whole (by rw [List.length_take]; omega)
        rw [List.length_take] at this
        simp only [List.length_cons, List.length_nil]
        omega
      · rw [goes_hi h2 hi, List.length_append]
        have := ih (l.drop (half l.length)).length (by rw [List.length_drop]; omega) (l.drop (half l.length)) rfl (m - half l.length) false (by rw [List.length_drop]; omega)
        rw [List.length_drop] at this
        simp only [List.length_cons, List.length_nil]
        omega
    · rw [goes_end h2]
      split
      · simp
      · simp only [List.length_cons, List.length_nil]; omega
def proveOn (l : List Dg) (m : Int) : List Dg × Nat := if 1 ≤ m ∧ m ≤ (l.length : Int) then (goes l m.toNat true, 0) else ([], 1)
theorem proveOn_ok {l : List Dg} {m : Int} (h : 1 ≤ m ∧ m ≤ (l.length : Int)) : proveOn l m = (goes l m.toNat true, 0) := by unfold proveOn; rw [if_pos h]
theorem proveOn_no {l : List Dg} {m : Int} (h : ¬ (1 ≤ m ∧ m ≤ (l.length : Int))) : proveOn l m = ([], 1) := by unfold proveOn; rw [if_neg h]
end Sd
namespace Sd
theorem same_no {a b : List Dg} {k : Nat} {x y : Dg} (hx : a[k]? = some x) (hy : b[k]? = some y) (h : ¬ x = y) : decide (a = b) = false := by
  rw [decide_eq_false_iff_not]
  rintro rfl
  rw [hx] at hy
  exact h (Option.some.inj hy)
theorem same_len {a b : List Dg} (h : ¬ a.length = b.length) : decide (a = b) = false := by
  rw [decide_eq_false_iff_not]
  rintro rfl
  exact h rfl
theorem same_yes {a b : List Dg} {k : Nat} (hl : a.length = b.length) (hk : ¬ k < a.length) (hall : ∀ j, j < k → a[j]? = b[j]?) : decide (a = b) = true := by
  rw [decide_eq_true_iff]
  apply List.ext_getElem?
  intro j
  by_cases hj : j < k
  · exact hall j hj
  · rw [List.getElem?_eq_none (by omega), List.getElem?_eq_none (by omega)]
end Sd
