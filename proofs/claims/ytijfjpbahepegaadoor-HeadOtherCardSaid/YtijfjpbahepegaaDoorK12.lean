/- Plain laws of trees for the walks. -/
import Derived.Test.YtijfjpbahepegaaDoorK11
namespace Sd
open Go Go.RowKit Sk
theorem map_step {α β : Type} (f : α → β) {l : List α} {k : Nat} {x : α} (h : l[k]? = some x) : (l.take k).map f ++ [f x] = (l.take (k + 1)).map f := by
  rw [List.take_add_one, h, List.map_append]; rfl
theorem mem_get {α : Type} {l : List α} {k : Nat} {x : α} (h : l[k]? = some x) : x ∈ l := List.mem_of_getElem? h
theorem one_of {α : Type} {l : List α} (h : l.length = 1) : ∃ x, l = [x] := by
  match l, h with
  | [x], _ => exact ⟨x, rfl⟩
/-- A store that is small. -/
def few (items : List (List UInt8)) (m b : Nat) : Bool := decide (items.length ≤ m ∧ ∀ x ∈ items, x.length ≤ b)
def right (items : List (List UInt8)) : Bool := decide (items.length ≤ 1000 ∧ (items.map of).Nodup)
/-- Has a store lost what a head says? -/
def lost (items : List (List UInt8)) (h : Head) : Nat :=
  if h.size < 0 then 1 else if (items.length : Int) < h.size then 6 else if root ((items.map of).take h.size.toNat) = h.root then 0 else 8
end Sd
namespace Sd
theorem few_no {items : List (List UInt8)} {m b k : Nat} {x : List UInt8} (hx : items[k]? = some x) (h : b < x.length) : few items m b = false := by
  unfold few
  rw [decide_eq_false_iff_not]
  intro hh
  have := hh.2 x (mem_get hx)
  omega
theorem few_end {items : List (List UInt8)} {m b k : Nat} (hall : ∀ j x, j < k → items[j]? = some x → x.length ≤ b) (hk : ¬ (k < items.length ∧ k ≤ m)) (hkl : k ≤ items.length) : decide (((items.length : Nat) : Int) ≤ ((m : Nat) : Int)) = few items m b := by
  unfold few
  rw [decide_eq_decide]
  constructor
  · intro h
    refine ⟨by omega, fun x hx => ?_⟩
    obtain ⟨j, hj⟩ := List.mem_iff_getElem?.1 hx
    have hlt : j < items.length := (List.getElem?_eq_some_iff.1 hj).1
    exact hall j x (by omega) hj
  · intro h
    omega
theorem few_spec {items : List (List UInt8)} {m b : Nat} (h : few items m b = true) : items.length ≤ m ∧ ∀ x ∈ items, x.length ≤ b := of_decide_eq_true h
theorem few_hs {items : List (List UInt8)} {m b : Nat} (h : few items m b = true) (hb : b ≤ 65536) : ∀ x ∈ items, x.length ≤ 65536 := fun x hx => Nat.le_trans ((few_spec h).2 x hx) hb
theorem few_hn {items : List (List UInt8)} {m b : Nat} (h : few items m b = true) (hb : m ≤ 100000) : items.length ≤ 100000 := Nat.le_trans (few_spec h).1 hb
theorem nodup_step {α : Type} {M : List α} {i : Nat} {d : α} (h : (M.take i).Nodup) (hd : M[i]? = some d) (hn : ∀ j e, j < i → M[j]? = some e → e ≠ d) : (M.take (i + 1)).Nodup := by
  rw [List.take_add_one, hd]
  refine List.nodup_append.2 ⟨h, by simp, ?_⟩
  intro a ha b hb
  simp only [Option.toList_some, List.mem_singleton] at hb
  subst hb
  obtain ⟨j, hj⟩ := List.mem_iff_getElem?.1 ha
  rw [List.getElem?_take] at hj
  split at hj
  · rename_i hlt; exact hn j a hlt hj
  · cases hj
theorem not_nodup {α : Type} {M : List α} {i k : Nat} {d : α} (hd : M[i]? = some d) (he : M[k]? = some d) (hk : k < i) : ¬ M.Nodup := by
  intro h
  have hi : i < M.length := (List.getElem?_eq_some_iff.1 hd).1
  have h1 := (List.getElem?_eq_some_iff.1 hd).2
  have h2 := (List.getElem?_eq_some_iff.1 he).2
  exact List.pairwise_iff_getElem.1 h k i (by omega) hi hk (by rw [h1, h2])
theorem right_long {items : List (List UInt8)} (h : 1000 < items.length) : right items = false := by
  unfold right
  rw [decide_eq_false_iff_not]
  omega
theorem right_no {items : List (List UInt8)} (h : ¬ (items.map of).Nodup) : right items = false := by
  unfold right
  rw [decide_eq_false_iff_not]
  exact fun hh => h hh.2
theorem right_yes {items : List (List UInt8)} (h1 : items.length ≤ 1000) (h : (items.map of).Nodup) : right items = true := by
  unfold right
  rw [decide_eq_true_iff]
  exact ⟨h1, h⟩
theorem lost_neg {items : List (List UInt8)} {h : Head} (hh : h.size < 0) : lost items h = 1 := by unfold lost; rw [if_pos hh]
theorem lost_none {items : List (List UInt8)} {h : Head} (h0 : ¬ h.size < 0) (hh : (items.length : Int) < h.size) : lost items h = 6 := by unfold lost; rw [if_neg h0, if_pos hh]
theorem lost_ok {items : List (List UInt8)} {h : Head} (h0 : ¬ h.size < 0) (h1 : ¬ (items.length : Int) < h.size) (hh : root ((items.map of).take h.size.toNat) = h.root) : lost items h = 0 := by unfold lost; rw [if_neg h0, if_neg h1, if_pos hh]
theorem lost_bad {items : List (List UInt8)} {h : Head} (h0 : ¬ h.size < 0) (h1 : ¬ (items.length : Int) < h.size) (hh : ¬ root ((items.map of).take h.size.toNat) = h.root) : lost items h = 8 := by unfold lost; rw [if_neg h0, if_neg h1, if_neg hh]
theorem head_take {items : List (List UInt8)} {h : Head} (h0 : ¬ h.size < 0) (h1 : ¬ (items.length : Int) < h.size) : ((⟨(((items.take h.size.toNat).length : Nat) : Int), root ((items.take h.size.toNat).map of)⟩ : Head) = ⟨h.size, h.root⟩) ↔ root ((items.map of).take h.size.toNat) = h.root := by
  rw [Head.ext_iff', List.map_take, List.length_take]
  constructor
  · exact fun hh => hh.2
  · exact fun hh => ⟨by show ((min h.size.toNat items.length : Nat) : Int) = h.size; omega, hh⟩
end Sd
