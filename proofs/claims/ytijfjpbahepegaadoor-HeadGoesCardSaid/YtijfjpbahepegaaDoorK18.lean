/- Plain: a store's head goes on that of each of its beginnings. -/
import Derived.Test.YtijfjpbahepegaaDoorK17
namespace Sd
theorem goes_checks {l : List Dg} {m : Nat} (h1 : 1 ≤ m) (hm : m ≤ l.length) (hn : l.length ≤ 1000) : checksOn (root (l.take m)) (m : Int) (root l) (l.length : Int) (goes l m true) = true := by
  obtain ⟨e1, e2, e3⟩ := both_is (both_goes l.length l m true (root (l.take m)) h1 hm (Nat.le_refl _) (fun _ => rfl))
  rw [checkOn_yes ⟨by omega, by omega, by omega⟩, Int.toNat_natCast, Int.toNat_natCast, e1, e2, e3]
  simp
theorem headGoes_law {items : List (List UInt8)} {n : Nat} (h1 : 1 ≤ n) (h2 : n ≤ items.length) (h3 : items.length ≤ 1000) :
    (decide ((((proveOn (items.map of) ((n : Nat) : Int)).2 : Nat) : Int) = ((0 : Nat) : Int)) && checksOn (⟨(((items.take n).length : Nat) : Int), root ((items.take n).map of)⟩ : Head).root (⟨(((items.take n).length : Nat) : Int), root ((items.take n).map of)⟩ : Head).size (⟨((items.length : Nat) : Int), root (items.map of)⟩ : Head).root (⟨((items.length : Nat) : Int), root (items.map of)⟩ : Head).size (proveOn (items.map of) ((n : Nat) : Int)).1) = true := by
  have hl : (items.map of).length = items.length := List.length_map _
  have hp := proveOn_ok (l := items.map of) (m := (n : Int)) ⟨by omega, by omega⟩
  rw [hp]
  have hg := goes_checks (l := items.map of) (m := n) h1 (by omega) (by omega)
  rw [hl, ← List.map_take] at hg
  show (decide (((0 : Nat) : Int) = ((0 : Nat) : Int)) && checksOn (root ((items.take n).map of)) (((items.take n).length : Nat) : Int) (root (items.map of)) ((items.length : Nat) : Int) (goes (items.map of) ((n : Nat) : Int).toNat true)) = true
  rw [Int.toNat_natCast, show (items.take n).length = n by rw [List.length_take]; omega, hg]
  rfl
end Sd
namespace Sd
theorem goes_len2 {l : List Dg} {m : Int} : (proveOn l m).1.length ≤ l.length := by
  by_cases h : 1 ≤ m ∧ m ≤ (l.length : Int)
  · rw [proveOn_ok h]; exact goes_le l m.toNat true (by omega)
  · rw [proveOn_no h]; exact Nat.zero_le _
end Sd
namespace Sd
end Sd
