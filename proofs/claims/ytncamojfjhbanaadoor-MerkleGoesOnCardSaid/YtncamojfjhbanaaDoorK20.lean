/- Plain laws of chapter 4. -/
import Derived.Test.YtncamojfjhbanaaDoorK19
namespace Sd
theorem half3 : half 3 = 2 := (half_eq (n := 3) (j := 1) (by decide) (by decide)).symm
theorem half2 : half 2 = 1 := (half_eq (n := 2) (j := 0) (by decide) (by decide)).symm
theorem root_pair (a b : Dg) : root [a, b] = pair a b := by
  have h2 : half [a, b].length = 1 := half2
  rw [root_two (by simp), h2]
  simp only [List.take_succ_cons, List.take_zero, List.drop_succ_cons, List.drop_zero, root_one]
theorem root_three (a b c : Dg) : root [a, b, c] = pair (pair a b) c := by
  have h3 : half [a, b, c].length = 2 := half3
  rw [root_two (by simp), h3]
  simp only [List.take_succ_cons, List.take_zero, List.drop_succ_cons, List.drop_zero, root_one, root_pair]
theorem way_alive (a b c : Dg) : way [a, b, c] 1 = [a, c] := by
  have h3 : half [a, b, c].length = 2 := half3
  have h2 : half [a, b].length = 1 := half2
  rw [way_lo (by simp) (by rw [h3]; decide), h3]
  simp only [List.take_succ_cons, List.take_zero, List.drop_succ_cons, List.drop_zero, root_one]
  rw [way_hi (by simp) (by rw [h2]; decide), h2]
  simp only [List.take_succ_cons, List.take_zero, List.drop_succ_cons, List.drop_zero, root_one, Nat.sub_self]
  rw [way_one (by simp)]
  rfl
theorem goes_alive (a b c : Dg) : goes [a, b, c] 1 true = [b, c] := by
  have h3 : half [a, b, c].length = 2 := half3
  have h2 : half [a, b].length = 1 := half2
  rw [goes_lo ⟨by simp, by simp⟩ (by rw [h3]; decide), h3]
  simp only [List.take_succ_cons, List.take_zero, List.drop_succ_cons, List.drop_zero, root_one]
  rw [goes_lo ⟨by simp, by simp⟩ (by rw [h2]; decide), h2]
  simp only [List.take_succ_cons, List.take_zero, List.drop_succ_cons, List.drop_zero, root_one]
  rw [goes_end (by simp)]
  rfl
theorem prove_alive (a b c : Dg) : prove [a, b, c] ((1 : Nat) : Int) = ([a, c], 0) := by
  rw [prove_ok (by simp), Int.toNat_natCast, way_alive]
theorem proveOn_alive (a b c : Dg) : proveOn [a, b, c] ((1 : Nat) : Int) = ([b, c], 0) := by
  rw [proveOn_ok (by simp), Int.toNat_natCast, goes_alive]
theorem alive04_law (a b c : Dg) : ((((decide (root [a, b, c] = pair (pair a b) c) && decide ((((prove [a, b, c] ((1 : Nat) : Int)).2 : Nat) : Int) = ((0 : Nat) : Int))) && decide ((prove [a, b, c] ((1 : Nat) : Int)).1 = [a, c])) && decide ((((proveOn [a, b, c] ((1 : Nat) : Int)).2 : Nat) : Int) = ((0 : Nat) : Int))) && decide ((proveOn [a, b, c] ((1 : Nat) : Int)).1 = [b, c])) = true := by
  rw [root_three, prove_alive, proveOn_alive]
  simp
theorem prove_len2 {l : List Dg} {i : Int} : (prove l i).1.length ≤ l.length := by
  by_cases h : 0 ≤ i ∧ i < (l.length : Int)
  · rw [prove_ok h]; have := way_le l i.toNat (by omega); show (way l i.toNat).length ≤ _; omega
  · rw [prove_no h]; exact Nat.zero_le _
theorem proveOn_in {l : List Dg} {m : Int} (h : (!(!decide ((((proveOn l m).2 : Nat) : Int) = ((0 : Nat) : Int)))) = true) : 1 ≤ m ∧ m ≤ (l.length : Int) := by
  by_cases hh : 1 ≤ m ∧ m ≤ (l.length : Int)
  · exact hh
  · rw [proveOn_no hh] at h; cases h
theorem goesOn_law {l : List Dg} {m : Int} (hn : l.length ≤ 1000) : ((!decide ((((proveOn l m).2 : Nat) : Int) = ((0 : Nat) : Int))) || checksOn (root (l.take m.toNat)) m (root l) ((l.length : Nat) : Int) (proveOn l m).1) = true := by
  by_cases h : 1 ≤ m ∧ m ≤ (l.length : Int)
  · rw [proveOn_ok h]
    show ((!decide (((0 : Nat) : Int) = ((0 : Nat) : Int))) || checksOn (root (l.take m.toNat)) m (root l) ((l.length : Nat) : Int) (goes l m.toNat true)) = true
    have := goes_checks (l := l) (m := m.toNat) (by omega) (by omega) hn
    rw [show ((m.toNat : Nat) : Int) = m by omega] at this
    rw [this]; rfl
  · rw [proveOn_no h]; rfl
end Sd
namespace Sk
open Go Go.RowKit Sd
section
variable {P : Program} {ev : Operand → Value} {w : World} {Ψ : Value → World → Prop} {d : Option Tmp} {ty : TypeId} {pos : String} {af : Array Edge} {g : Option (Nat × Bool)}
end
end Sk
namespace Sd
open Go
end Sd
