/- Plain trees of digests: no program in sight. -/
import Derived.Test.YtncamojfjhbanaaDoorP1
namespace Sd

/-- The greatest power of two below n, from 2 on. -/
def half (n : Nat) : Nat := 2 ^ Nat.log2 (n - 1)

theorem half_lt {n : Nat} (h : 2 ≤ n) : half n < n := by
  unfold half
  have := Nat.log2_self_le (n := n - 1) (by omega)
  omega
theorem half_pos (n : Nat) : 0 < half n := Nat.two_pow_pos _
theorem half_two {n : Nat} : n ≤ 2 * half n := by
  unfold half
  have := @Nat.lt_log2_self (n - 1)
  rw [Nat.pow_succ] at this
  omega
/-- What the loop finds is it. -/
theorem half_eq {n j : Nat} (h : 2 ^ j < n) (h2 : n ≤ 2 * 2 ^ j) : 2 ^ j = half n := by
  unfold half
  have h0 : n - 1 ≠ 0 := by have := Nat.two_pow_pos j; omega
  have : Nat.log2 (n - 1) = j := (Nat.log2_eq_iff h0).2 ⟨by omega, by rw [Nat.pow_succ]; omega⟩
  rw [this]

def root (l : List Dg) : Dg :=
  match l with
  | [] => of []
  | [x] => x
  | x :: y :: t => pair (root ((x :: y :: t).take (half (t.length + 2)))) (root ((x :: y :: t).drop (half (t.length + 2))))
  termination_by l.length
  decreasing_by
  · have := @half_lt (t.length + 2) (by omega)
    simp only [List.length_take, List.length_cons]; omega
  · have := half_pos (t.length + 2)
    simp only [List.length_drop, List.length_cons]; omega

theorem root_nil : root [] = of [] := by rw [root]
theorem root_one (x : Dg) : root [x] = x := by rw [root]
theorem root_two {l : List Dg} (h : 2 ≤ l.length) : root l = pair (root (l.take (half l.length))) (root (l.drop (half l.length))) := by
  match l, h with
  | x :: y :: t, _ => rw [root]; rfl

/-- The proof of a place. -/
def way (l : List Dg) (i : Nat) : List Dg :=
  if _h : 2 ≤ l.length then
    if i < half l.length then way (l.take (half l.length)) i ++ [root (l.drop (half l.length))]
    else way (l.drop (half l.length)) (i - half l.length) ++ [root (l.take (half l.length))]
  else []
  termination_by l.length
  decreasing_by
  · have := half_lt _h
    simp only [List.length_take]; omega
  · have := half_pos l.length
    simp only [List.length_drop]; omega

/-- The root that a proof tells, its end first; and is it used up, and was there enough? -/
def up (n i : Nat) (leaf : Dg) (p : List Dg) : Dg × Bool :=
  if _h : 2 ≤ n then
    match p with
    | [] => (leaf, false)
    | z :: q =>
      if i < half n then (pair (up (half n) i leaf q).1 z, (up (half n) i leaf q).2)
      else (pair z (up (n - half n) (i - half n) leaf q).1, (up (n - half n) (i - half n) leaf q).2)
  else (leaf, p.isEmpty)
  termination_by n
  decreasing_by
  all_goals (have := half_lt _h; have := half_pos n; omega)

def check (r : Dg) (n i : Nat) (leaf : Dg) (p : List Dg) : Bool := (up n i leaf p.reverse).2 && decide ((up n i leaf p.reverse).1 = r)

/-- The proof that a list goes on its first ones. -/
def goes (l : List Dg) (m : Nat) (whole : Bool) : List Dg :=
  if _h : 2 ≤ l.length ∧ m ≠ l.length then
    if m ≤ half l.length then goes (l.take (half l.length)) m whole ++ [root (l.drop (half l.length))]
    else goes (l.drop (half l.length)) (m - half l.length) false ++ [root (l.take (half l.length))]
  else if whole then [] else [root l]
  termination_by l.length
  decreasing_by
  · have := half_lt _h.1
    simp only [List.length_take]; omega
  · have := half_pos l.length
    simp only [List.length_drop]; omega

/-- Both roots that a proof tells, its end first; and has it the form? -/
def both (old : Dg) (m n : Nat) (whole : Bool) (p : List Dg) : Dg × Dg × Bool :=
  if _h : 2 ≤ n ∧ m ≠ n then
    match p with
    | [] => (old, old, false)
    | z :: q =>
      if m ≤ half n then
        ((both old m (half n) whole q).1, pair (both old m (half n) whole q).2.1 z, (both old m (half n) whole q).2.2)
      else (pair z (both old (m - half n) (n - half n) false q).1, pair z (both old (m - half n) (n - half n) false q).2.1, (both old (m - half n) (n - half n) false q).2.2)
  else if whole then (old, old, p.isEmpty)
  else match p with
    | [z] => (z, z, true)
    | _ => (old, old, false)
  termination_by n
  decreasing_by
  all_goals (have := half_lt _h.1; have := half_pos n; omega)

def checkOn (old : Dg) (m : Nat) (r : Dg) (n : Nat) (p : List Dg) : Bool :=
  (both old m n true p.reverse).2.2 && (decide ((both old m n true p.reverse).1 = old) && decide ((both old m n true p.reverse).2.1 = r))

/-! What holds of them. -/

theorem way_one {l : List Dg} (h : l.length < 2) (i : Nat) : way l i = [] := by rw [way, dif_neg (by omega)]
theorem way_lo {l : List Dg} (h : 2 ≤ l.length) {i : Nat} (hi : i < half l.length) : way l i = way (l.take (half l.length)) i ++ [root (l.drop (half l.length))] := by
  rw [way, dif_pos h, if_pos hi]
theorem way_hi {l : List Dg} (h : 2 ≤ l.length) {i : Nat} (hi : ¬ i < half l.length) : way l i = way (l.drop (half l.length)) (i - half l.length) ++ [root (l.take (half l.length))] := by
  rw [way, dif_pos h, if_neg hi]

theorem goes_end {l : List Dg} {m : Nat} (h : ¬ (2 ≤ l.length ∧ m ≠ l.length)) (whole : Bool) : goes l m whole = if whole then [] else [root l] := by rw [goes, dif_neg h]
theorem goes_lo {l : List Dg} {m : Nat} (h : 2 ≤ l.length ∧ m ≠ l.length) (hm : m ≤ half l.length) (whole : Bool) : goes l m whole = goes (l.take (half l.length)) m whole ++ [root (l.drop (half l.length))] := by
  rw [goes, dif_pos h, if_pos hm]
theorem goes_hi {l : List Dg} {m : Nat} (h : 2 ≤ l.length ∧ m ≠ l.length) (hm : ¬ m ≤ half l.length) (whole : Bool) : goes l m whole = goes (l.drop (half l.length)) (m - half l.length) false ++ [root (l.take (half l.length))] := by
  rw [goes, dif_pos h, if_neg hm]

theorem both_end {m n : Nat} (h : ¬ (2 ≤ n ∧ m ≠ n)) (old : Dg) (p : List Dg) : both old m n true p = (old, old, p.isEmpty) := by rw [both.eq_def, dif_neg h]; rfl
theorem both_end1 {m n : Nat} (h : ¬ (2 ≤ n ∧ m ≠ n)) (old z : Dg) : both old m n false [z] = (z, z, true) := by rw [both.eq_def, dif_neg h]; rfl
theorem both_end0 {m n : Nat} (h : ¬ (2 ≤ n ∧ m ≠ n)) (old : Dg) {p : List Dg} (hp : p.length ≠ 1) : both old m n false p = (old, old, false) := by
  rw [both.eq_def, dif_neg h]
  match p, hp with
  | [], _ => rfl
  | _ :: _ :: _, _ => rfl
theorem both_nil {m n : Nat} (h : 2 ≤ n ∧ m ≠ n) (old : Dg) (whole : Bool) : both old m n whole [] = (old, old, false) := by rw [both.eq_def, dif_pos h]
theorem both_lo {m n : Nat} (h : 2 ≤ n ∧ m ≠ n) (hm : m ≤ half n) (old z : Dg) (whole : Bool) (q : List Dg) : both old m n whole (z :: q) =
    ((both old m (half n) whole q).1, pair (both old m (half n) whole q).2.1 z, (both old m (half n) whole q).2.2) := by
  rw [both.eq_def, dif_pos h]; simp only [if_pos hm]
theorem both_hi {m n : Nat} (h : 2 ≤ n ∧ m ≠ n) (hm : ¬ m ≤ half n) (old z : Dg) (whole : Bool) (q : List Dg) : both old m n whole (z :: q) =
    (pair z (both old (m - half n) (n - half n) false q).1, pair z (both old (m - half n) (n - half n) false q).2.1, (both old (m - half n) (n - half n) false q).2.2) := by
  rw [both.eq_def, dif_pos h]; simp only [if_neg hm]

/-- A proof that a list goes on shows it. -/
theorem both_goes : ∀ (k : Nat) (l : List Dg) (m : Nat) (whole : Bool) (old : Dg), 1 ≤ m → m ≤ l.length → l.length ≤ k → (whole = true → old = root (l.take m)) →
    both old m l.length whole (goes l m whole).reverse = (root (l.take m), root l, true)
  | 0, l, m, whole, old, h1, hm, hk, ho => by omega
  | k + 1, l, m, whole, old, h1, hm, hk, ho => by
    by_cases h : 2 ≤ l.length ∧ m ≠ l.length
    · have hl := half_lt h.1
      have hp := half_pos l.length
      by_cases hlt : m ≤ half l.length
      · rw [goes_lo h hlt, List.reverse_append, List.reverse_singleton, List.singleton_append, both_lo h hlt]
        have := both_goes k (l.take (half l.length)) m whole old h1 (by rw [List.length_take]; omega) (by rw [List.length_take]; omega) (by
          intro hw; rw [List.take_take, Nat.min_eq_left hlt]; exact ho hw)
        rw [List.length_take, Nat.min_eq_left (by omega), List.take_take, Nat.min_eq_left hlt] at this
        rw [this, root_two h.1]
      · rw [goes_hi h hlt, List.reverse_append, List.reverse_singleton, List.singleton_append, both_hi h hlt]
        have := both_goes k (l.drop (half l.length)) (m - half l.length) false old (by omega) (by rw [List.length_drop]; omega) (by rw [List.length_drop]; omega) (by
          intro hw; cases hw)
        rw [List.length_drop] at this
        rw [this, root_two h.1]
        have h2 : 2 ≤ (l.take m).length := by rw [List.length_take]; omega
        have hh : half (l.take m).length = half l.length := by
          rw [List.length_take, Nat.min_eq_left hm]
          have := @half_two l.length
          unfold half
          exact (half_eq (n := m) (j := Nat.log2 (l.length - 1)) (by unfold half at hlt; omega) (by unfold half at this; omega)).symm
        rw [root_two h2, hh, List.take_take, Nat.min_eq_left (by omega), List.drop_take]
    · have hml : m = l.length := by omega
      subst hml
      rw [List.take_length] at ho ⊢
      rw [goes_end h]
      cases whole with
      | true => rw [ho rfl]; simp only [if_true, List.reverse_nil]; rw [both_end h]; rfl
      | false => simp only [Bool.false_eq_true, if_false, List.reverse_singleton]; rw [both_end1 h]

end Sd
