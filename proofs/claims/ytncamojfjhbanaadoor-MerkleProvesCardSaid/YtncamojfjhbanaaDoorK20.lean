/- Plain laws of chapter 4. -/
import Derived.Test.YtncamojfjhbanaaDoorK19
namespace Sd
theorem half3 : half 3 = 2 := (half_eq (n := 3) (j := 1) (by decide) (by decide)).symm
theorem half2 : half 2 = 1 := (half_eq (n := 2) (j := 0) (by decide) (by decide)).symm
theorem root_pair (a b : Dg) : root [a, b] = pair a b := by
  have h2 : half [a, b].length = 1 := half2
  rw [root_two (by simp), h2]
  simp only [List.take_succ_cons, List.take_zero, List.drop_succ_cons, List.drop_zero, root_one]
theorem root_three (a b c : Dg) : root [a, b, c] = pair (pair a b) c := by
  have h3 : half [a, b, c].length = 2 := half3
  rw [root_two (by simp), h3]
  simp only [List.take_succ_cons, List.take_zero, List.drop_succ_cons, List.drop_zero, root_one, root_pair]
theorem way_alive (a b c : Dg) : way [a, b, c] 1 = [a, c] := by
  have h3 : half [a, b, c].length = 2 := half3
  have h2 : half [a, b].length = 1 := half2
  rw [way_lo (by simp) (by rw [h3]; decide), h3]
  simp only [List.take_succ_cons, List.take_zero, List.drop_succ_cons, List.drop_zero, root_one]
  rw [way_hi (by simp) (by rw [h2]; decide), h2]
  simp only [List.take_succ_cons, List.take_zero, List.drop_succ_cons, List.drop_zero, root_one, Nat.sub_self]
  rw [way_one (by simp)]
  rfl
theorem goes_alive (a b c : Dg) : goes [a, b, c] 1 true = [b, c] := by
  have h3 : half [a, b, c].length = 2 := half3
  have h2 : half [a, b].length = 1 := half2
  rw [goes_lo ⟨by simp, by simp⟩ (by rw [h3]; decide), h3]
  simp only [List.take_succ_cons, List.take_zero, List.drop_succ_cons, List.drop_zero, root_one]
  rw [goes_lo ⟨by simp, by simp⟩ (by rw [h2]; decide), h2]
  simp only [List.take_succ_cons, List.take_zero, List.drop_succ_cons, List.drop_zero, root_one]
  rw [goes_end (by simp)]
  rfl
theorem prove_alive (a b c : Dg) : prove [a, b, c] ((1 : Nat) : Int) = ([a, c], 0) := by
  rw [prove_ok (by simp), Int.toNat_natCast, way_alive]
theorem proveOn_alive (a b c : Dg) : proveOn [a, b, c] ((1 : Nat) : Int) = ([b, c], 0) := by
  rw [proveOn_ok (by simp), Int.toNat_natCast, goes_alive]
theorem alive04_law (a b c : Dg) : ((((decide (root [a, b, c] = pair (pair a b) c) && decide ((((prove [a, b, c] ((1 : Nat) : Int)).2 : Nat) : Int) = ((0 : Nat) : Int))) && decide ((prove [a, b, c] ((1 : Nat) : Int)).1 = [a, c])) && decide ((((proveOn [a, b, c] ((1 : Nat) : Int)).2 : Nat) : Int) = ((0 : Nat) : Int))) && decide ((proveOn [a, b, c] ((1 : Nat) : Int)).1 = [b, c])) = true := by
  rw [root_three, prove_alive, proveOn_alive]
  simp
theorem prove_len2 {l : List Dg} {i : Int} : (prove l i).1.length ≤ l.length := by
  by_cases h : 0 ≤ i ∧ i < (l.length : Int)
  · rw [prove_ok h]; have := way_le l i.toNat (by omega); show (way l i.toNat).length ≤ _; omega
  · rw [prove_no h]; exact Nat.zero_le _
/-- What is proved is in. -/
theorem prove_in {l : List Dg} {i : Int} (h : (!(!decide ((((prove l i).2 : Nat) : Int) = ((0 : Nat) : Int)))) = true) : 0 ≤ i ∧ i < (l.length : Int) := by
  by_cases hh : 0 ≤ i ∧ i < (l.length : Int)
  · exact hh
  · rw [prove_no hh] at h; cases h
theorem getD_of {l : List Dg} {i : Int} (h : 0 ≤ i ∧ i < (l.length : Int)) : l[i.toNat]? = some (l.getD i.toNat Dg.zero) := by
  rw [List.getD_eq_getElem?_getD, List.getElem?_eq_getElem (by omega)]; rfl
theorem way_checks {l : List Dg} {i : Int} (h : 0 ≤ i ∧ i < (l.length : Int)) (hn : l.length ≤ 1000) : checks (root l) ((l.length : Nat) : Int) i (l.getD i.toNat Dg.zero) (way l i.toNat) = true := by
  have hu := up_way l.length l i.toNat (l.getD i.toNat Dg.zero) (getD_of h) (Nat.le_refl _)
  rw [check_yes ⟨by omega, h.1, h.2⟩, Int.toNat_natCast, prod1 hu, prod2 hu]
  simp
theorem proves_law {l : List Dg} {i : Int} (hn : l.length ≤ 1000) : ((!decide ((((prove l i).2 : Nat) : Int) = ((0 : Nat) : Int))) || checks (root l) ((l.length : Nat) : Int) i (l.getD i.toNat Dg.zero) (prove l i).1) = true := by
  by_cases h : 0 ≤ i ∧ i < (l.length : Int)
  · rw [prove_ok h]
    show ((!decide (((0 : Nat) : Int) = ((0 : Nat) : Int))) || checks (root l) ((l.length : Nat) : Int) i (l.getD i.toNat Dg.zero) (way l i.toNat)) = true
    rw [way_checks h hn]; rfl
  · rw [prove_no h]; rfl
end Sd
namespace Sk
open Go Go.RowKit Sd
section
variable {P : Program} {ev : Operand → Value} {w : World} {Ψ : Value → World → Prop} {d : Option Tmp} {ty : TypeId} {pos : String} {af : Array Edge} {g : Option (Nat × Bool)}
end
end Sk
namespace Sd
open Go
end Sd
