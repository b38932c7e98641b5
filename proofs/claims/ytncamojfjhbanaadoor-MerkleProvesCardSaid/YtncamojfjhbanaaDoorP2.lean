/- Plain trees of digests: no program in sight. -/
import Derived.Test.YtncamojfjhbanaaDoorP1
namespace Sd

/-- The greatest power of two below n, from 2 on. -/
def half (n : Nat) : Nat := 2 ^ Nat.log2 (n - 1)

theorem half_lt {n : Nat} (h : 2 ≤ n) : half n < n := by
  unfold half
  have := Nat.log2_self_le (n := n - 1) (by omega)
  omega
theorem half_pos (n : Nat) : 0 < half n := Nat.two_pow_pos _
theorem half_two {n : Nat} : n ≤ 2 * half n := by
  unfold half
  have := @Nat.lt_log2_self (n - 1)
  rw [Nat.pow_succ] at this
  omega
/-- What the loop finds is it. -/
theorem half_eq {n j : Nat} (h : 2 ^ j < n) (h2 : n ≤ 2 * 2 ^ j) : 2 ^ j = half n := by
  unfold half
  have h0 : n - 1 ≠ 0 := by have := Nat.two_pow_pos j; omega
  have : Nat.log2 (n - 1) = j := (Nat.log2_eq_iff h0).2 ⟨by omega, by rw [Nat.pow_succ]; omega⟩
  rw [this]

def root (l : List Dg) : Dg :=
  match l with
  | [] => of []
  | [x] => x
  | x :: y :: t => pair (root ((x :: y :: t).take (half (t.length + 2)))) (root ((x :: y :: t).drop (half (t.length + 2))))
  termination_by l.length
  decreasing_by
  · have := @half_lt (t.length + 2) (by omega)
    simp only [List.length_take, List.length_cons]; omega
  · have := half_pos (t.length + 2)
    simp only [List.length_drop, List.length_cons]; omega

theorem root_nil : root [] = of [] := by rw [root]
theorem root_one (x : Dg) : root [x] = x := by rw [root]
theorem root_two {l : List Dg} (h : 2 ≤ l.length) : root l = pair (root (l.take (half l.length))) (root (l.drop (half l.length))) := by
  match l, h with
  | x :: y :: t, _ => rw [root]; rfl

/-- The proof of a place. -/
def way (l : List Dg) (i : Nat) : List Dg :=
  if _h : 2 ≤ l.length then
    if i < half l.length then way (l.take (half l.length)) i ++ [root (l.drop (half l.length))]
    else way (l.drop (half l.length)) (i - half l.length) ++ [root (l.take (half l.length))]
  else []
  termination_by l.length
  decreasing_by
  · have := half_lt _h
    simp only [List.length_take]; omega
  · have := half_pos l.length
    simp only [List.length_drop]; omega

/-- The root that a proof tells, its end first; and is it used up, and was there enough? -/
def up (n i : Nat) (leaf : Dg) (p : List Dg) : Dg × Bool :=
  if _h : 2 ≤ n then
    match p with
    | [] => (leaf, false)
    | z :: q =>
      if i < half n then (pair (up (half n) i leaf q).1 z, (up (half n) i leaf q).2)
      else (pair z (up (n - half n) (i - half n) leaf q).1, (up (n - half n) (i - half n) leaf q).2)
  else (leaf, p.isEmpty)
  termination_by n
  decreasing_by
  all_goals (have := half_lt _h; have := half_pos n; omega)

def check (r : Dg) (n i : Nat) (leaf : Dg) (p : List Dg) : Bool := (up n i leaf p.reverse).2 && decide ((up n i leaf p.reverse).1 = r)

/-- The proof that a list goes on its first ones. -/
def goes (l : List Dg) (m : Nat) (whole : Bool) : List Dg :=
  if _h : 2 ≤ l.length ∧ m ≠ l.length then
    if m ≤ half l.length then goes (l.take (half l.length)) m whole ++ [root (l.drop (half l.length))]
    else goes (l.drop (half l.length)) (m - half l.length) false ++ [root (l.take (half l.length))]
  else if whole then [] else [root l]
  termination_by l.length
  decreasing_by
  · have := half_lt _h.1
    simp only [List.length_take]; omega
  · have := half_pos l.length
    simp only [List.length_drop]; omega

/-- Both roots that a proof tells, its end first; and has it the form? -/
def both (old : Dg) (m n : Nat) (whole : Bool) (p : List Dg) : Dg × Dg × Bool :=
  if _h : 2 ≤ n ∧ m ≠ n then
    match p with
    | [] => (old, old, false)
    | z :: q =>
      if m ≤ half n then
        ((both old m (half n) whole q).1, pair (both old m (half n) whole q).2.1 z, (both old m (half n) whole q).2.2)
      else (pair z (both old (m - half n) (n - half n) false q).1, pair z (both old (m - half n) (n - half n) false q).2.1, (both old (m - half n) (n - half n) false q).2.2)
  else if whole then (old, old, p.isEmpty)
  else match p with
    | [z] => (z, z, true)
    | _ => (old, old, false)
  termination_by n
  decreasing_by
  all_goals (have := half_lt _h.1; have := half_pos n; omega)

def checkOn (old : Dg) (m : Nat) (r : Dg) (n : Nat) (p : List Dg) : Bool :=
  (both old m n true p.reverse).2.2 && (decide ((both old m n true p.reverse).1 = old) && decide ((both old m n true p.reverse).2.1 = r))

/-! What holds of them. -/

theorem way_one {l : List Dg} (h : l.length < 2) (i : Nat) : way l i = [] := by rw [way, dif_neg (by omega)]
theorem way_lo {l : List Dg} (h : 2 ≤ l.length) {i : Nat} (hi : i < half l.length) : way l i = way (l.take (half l.length)) i ++ [root (l.drop (half l.length))] := by
  rw [way, dif_pos h, if_pos hi]
theorem way_hi {l : List Dg} (h : 2 ≤ l.length) {i : Nat} (hi : ¬ i < half l.length) : way l i = way (l.drop (half l.length)) (i - half l.length) ++ [root (l.take (half l.length))] := by
  rw [way, dif_pos h, if_neg hi]

theorem up_one {n : Nat} (h : n < 2) (i : Nat) (leaf : Dg) (p : List Dg) : up n i leaf p = (leaf, p.isEmpty) := by rw [up.eq_def, dif_neg (by omega)]
theorem up_nil {n : Nat} (h : 2 ≤ n) (i : Nat) (leaf : Dg) : up n i leaf [] = (leaf, false) := by rw [up.eq_def, dif_pos h]
theorem up_lo {n : Nat} (h : 2 ≤ n) {i : Nat} (hi : i < half n) (leaf z : Dg) (q : List Dg) : up n i leaf (z :: q) = (pair (up (half n) i leaf q).1 z, (up (half n) i leaf q).2) := by
  rw [up.eq_def, dif_pos h]; simp only [if_pos hi]
theorem up_hi {n : Nat} (h : 2 ≤ n) {i : Nat} (hi : ¬ i < half n) (leaf z : Dg) (q : List Dg) : up n i leaf (z :: q) = (pair z (up (n - half n) (i - half n) leaf q).1, (up (n - half n) (i - half n) leaf q).2) := by
  rw [up.eq_def, dif_pos h]; simp only [if_neg hi]

theorem goes_end {l : List Dg} {m : Nat} (h : ¬ (2 ≤ l.length ∧ m ≠ l.length)) (whole : Bool) : goes l m whole = if whole then [] else [root l] := by rw [goes, dif_neg h]
theorem goes_lo {l : List Dg} {m : Nat} (h : 2 ≤ l.length ∧ m ≠ l.length) (hm : m ≤ half l.length) (whole : Bool) : goes l m whole = goes (l.take (half l.length)) m whole ++ [root (l.drop (half l.length))] := by
  rw [goes, dif_pos h, if_pos hm]
theorem goes_hi {l : List Dg} {m : Nat} (h : 2 ≤ l.length ∧ m ≠ l.length) (hm : ¬ m ≤ half l.length) (whole : Bool) : goes l m whole = goes (l.drop (half l.length)) (m - half l.length) false ++ [root (l.take (half l.length))] := by
  rw [goes, dif_pos h, if_neg hm]

/-- A proof of a place shows it. -/
theorem up_way : ∀ (k : Nat) (l : List Dg) (i : Nat) (x : Dg), l[i]? = some x → l.length ≤ k → up l.length i x (way l i).reverse = (root l, true)
  | 0, l, i, x, hx, hk => by
    have : l = [] := List.length_eq_zero_iff.1 (by omega)
    subst this; simp at hx
  | k + 1, l, i, x, hx, hk => by
    have hi : i < l.length := (List.getElem?_eq_some_iff.1 hx).1
    by_cases h : 2 ≤ l.length
    · have hl := half_lt h
      have hp := half_pos l.length
      by_cases hlt : i < half l.length
      · rw [way_lo h hlt, List.reverse_append, List.reverse_singleton, List.singleton_append, up_lo h hlt, root_two h]
        have := up_way k (l.take (half l.length)) i x (by rw [List.getElem?_take_of_lt hlt]; exact hx) (by rw [List.length_take]; omega)
        rw [List.length_take, Nat.min_eq_left (by omega)] at this
        rw [this]
      · rw [way_hi h hlt, List.reverse_append, List.reverse_singleton, List.singleton_append, up_hi h hlt, root_two h]
        have := up_way k (l.drop (half l.length)) (i - half l.length) x (by rw [List.getElem?_drop, show half l.length + (i - half l.length) = i by omega]; exact hx) (by rw [List.length_drop]; omega)
        rw [List.length_drop] at this
        rw [this]
    · have h1 : l.length = 1 := by omega
      obtain ⟨y, rfl⟩ := List.length_eq_one_iff.1 h1
      rw [way_one (by simp), up_one (by simp), root_one]
      have : i = 0 := by simpa using hi
      subst this
      simp at hx
      subst hx; rfl

end Sd
