/- Plain clashes of trees of digests: no program in sight. -/
import Derived.Test.YtijfjpbahepegaaDoorP3
namespace Sd

abbrev Two := Dg × Dg
def Two.zero : Two := (Dg.zero, Dg.zero)
/-- What both halves come to. -/
def halves (k : Nat) (l : List Dg) : Two := (root (l.take k), root (l.drop k))

/-- Two unlike pairs with one Pair, of two lists with one root. -/
def clash (a b : List Dg) : Two × Two × Bool :=
  if _h : 2 ≤ a.length ∧ a.length = b.length ∧ a ≠ b ∧ root a = root b then
    if halves (half a.length) a ≠ halves (half a.length) b then (halves (half a.length) a, halves (half a.length) b, true)
    else if a.take (half a.length) ≠ b.take (half a.length) then clash (a.take (half a.length)) (b.take (half a.length))
    else clash (a.drop (half a.length)) (b.drop (half a.length))
  else (Two.zero, Two.zero, false)
  termination_by a.length
  decreasing_by
  · have := half_lt _h.1
    simp only [List.length_take]; omega
  · have := half_pos a.length
    simp only [List.length_drop]; omega

theorem unlike_two {a b : List Dg} (hl : a.length = b.length) (hab : a ≠ b) (hr : root a = root b) : 2 ≤ a.length := by
  rcases Nat.lt_or_ge a.length 2 with h | h
  · exfalso
    match a, b, hl, h with
    | [], [], _, _ => exact hab rfl
    | [x], [y], _, _ => rw [root_one, root_one] at hr; exact hab (by rw [hr])
  · exact h

theorem clash_no {a b : List Dg} (h : ¬ (a.length = b.length ∧ a ≠ b ∧ root a = root b)) : clash a b = (Two.zero, Two.zero, false) := by
  rw [clash.eq_def, dif_neg (fun hh => h ⟨hh.2.1, hh.2.2.1, hh.2.2.2⟩)]
theorem clash_here {a b : List Dg} (h : a.length = b.length ∧ a ≠ b ∧ root a = root b) (hx : halves (half a.length) a ≠ halves (half a.length) b) :
    clash a b = (halves (half a.length) a, halves (half a.length) b, true) := by
  rw [clash.eq_def, dif_pos ⟨unlike_two h.1 h.2.1 h.2.2, h⟩, if_pos hx]
theorem clash_lo {a b : List Dg} (h : a.length = b.length ∧ a ≠ b ∧ root a = root b) (hx : halves (half a.length) a = halves (half a.length) b)
    (ht : a.take (half a.length) ≠ b.take (half a.length)) : clash a b = clash (a.take (half a.length)) (b.take (half a.length)) := by
  rw [clash.eq_def, dif_pos ⟨unlike_two h.1 h.2.1 h.2.2, h⟩, if_neg (fun hh => hh hx), if_pos ht]
theorem clash_hi {a b : List Dg} (h : a.length = b.length ∧ a ≠ b ∧ root a = root b) (hx : halves (half a.length) a = halves (half a.length) b)
    (ht : a.take (half a.length) = b.take (half a.length)) : clash a b = clash (a.drop (half a.length)) (b.drop (half a.length)) := by
  rw [clash.eq_def, dif_pos ⟨unlike_two h.1 h.2.1 h.2.2, h⟩, if_neg (fun hh => hh hx), if_neg (fun hh => hh ht)]

/-- What goes on in a half. -/
theorem half_unlike {a b : List Dg} (hab : a ≠ b) (k : Nat) (ht : a.take k = b.take k) : a.drop k ≠ b.drop k := fun hd =>
  hab (by rw [← List.take_append_drop k a, ← List.take_append_drop k b, ht, hd])

theorem clash_spec : ∀ (n : Nat) (a b : List Dg), a.length ≤ n → a.length = b.length → a ≠ b → root a = root b →
    (clash a b).2.2 = true ∧ (clash a b).1 ≠ (clash a b).2.1 ∧ pair (clash a b).1.1 (clash a b).1.2 = pair (clash a b).2.1.1 (clash a b).2.1.2
  | n, a, b, hn, hl, hab, hr => by
    have h2 := unlike_two hl hab hr
    by_cases hx : halves (half a.length) a = halves (half a.length) b
    · have hlt := half_lt h2
      have hp := half_pos a.length
      cases n with
      | zero => omega
      | succ n =>
        by_cases ht : a.take (half a.length) = b.take (half a.length)
        · rw [clash_hi ⟨hl, hab, hr⟩ hx ht]
          exact clash_spec n _ _ (by rw [List.length_drop]; omega) (by rw [List.length_drop, List.length_drop, hl]) (half_unlike hab _ ht) (congrArg Prod.snd hx)
        · rw [clash_lo ⟨hl, hab, hr⟩ hx ht]
          exact clash_spec n _ _ (by rw [List.length_take]; omega) (by rw [List.length_take, List.length_take, hl]) ht (congrArg Prod.fst hx)
    · rw [clash_here ⟨hl, hab, hr⟩ hx]
      refine ⟨rfl, hx, ?_⟩
      have e1 : root a = pair (halves (half a.length) a).1 (halves (half a.length) a).2 := root_two h2
      have e2 : root b = pair (halves (half a.length) b).1 (halves (half a.length) b).2 := by rw [hl]; exact root_two (by omega)
      rw [← e1, ← e2, hr]

/-- Do two unlike pairs on the way have one Pair? The proof's end first. -/
def fooled (l : List Dg) (i : Nat) (leaf : Dg) (p : List Dg) : Bool :=
  if _h : 2 ≤ l.length then
    match p with
    | [] => false
    | z :: q =>
      if i < half l.length then
        (decide ((root (l.take (half l.length)), root (l.drop (half l.length))) ≠ ((up (half l.length) i leaf q).1, z)) &&
          decide (pair (root (l.take (half l.length))) (root (l.drop (half l.length))) = pair (up (half l.length) i leaf q).1 z)) || fooled (l.take (half l.length)) i leaf q
      else
        (decide ((root (l.take (half l.length)), root (l.drop (half l.length))) ≠ (z, (up (l.length - half l.length) (i - half l.length) leaf q).1)) &&
          decide (pair (root (l.take (half l.length))) (root (l.drop (half l.length))) = pair z (up (l.length - half l.length) (i - half l.length) leaf q).1)) || fooled (l.drop (half l.length)) (i - half l.length) leaf q
  else false
  termination_by l.length
  decreasing_by
  · have := half_lt _h
    simp only [List.length_take]; omega
  · have := half_pos l.length
    simp only [List.length_drop]; omega

theorem fooled_one {l : List Dg} (h : l.length < 2) (i : Nat) (leaf : Dg) (p : List Dg) : fooled l i leaf p = false := by rw [fooled.eq_def, dif_neg (by omega)]
theorem fooled_nil (l : List Dg) (i : Nat) (leaf : Dg) : fooled l i leaf [] = false := by
  rw [fooled.eq_def]; split <;> rfl
theorem fooled_lo {l : List Dg} (h : 2 ≤ l.length) {i : Nat} (hi : i < half l.length) (leaf z : Dg) (q : List Dg) : fooled l i leaf (z :: q) =
    ((decide ((root (l.take (half l.length)), root (l.drop (half l.length))) ≠ ((up (half l.length) i leaf q).1, z)) &&
      decide (pair (root (l.take (half l.length))) (root (l.drop (half l.length))) = pair (up (half l.length) i leaf q).1 z)) || fooled (l.take (half l.length)) i leaf q) := by
  rw [fooled.eq_def, dif_pos h]; simp only [if_pos hi]
theorem fooled_hi {l : List Dg} (h : 2 ≤ l.length) {i : Nat} (hi : ¬ i < half l.length) (leaf z : Dg) (q : List Dg) : fooled l i leaf (z :: q) =
    ((decide ((root (l.take (half l.length)), root (l.drop (half l.length))) ≠ (z, (up (l.length - half l.length) (i - half l.length) leaf q).1)) &&
      decide (pair (root (l.take (half l.length))) (root (l.drop (half l.length))) = pair z (up (l.length - half l.length) (i - half l.length) leaf q).1)) || fooled (l.drop (half l.length)) (i - half l.length) leaf q) := by
  rw [fooled.eq_def, dif_pos h]; simp only [if_neg hi]

/-- Another leaf that a proof shows: two unlike pairs stand on the way. -/
theorem fooled_of_up : ∀ (n : Nat) (l : List Dg) (i : Nat) (leaf x : Dg) (p : List Dg), l.length ≤ n → l[i]? = some x → leaf ≠ x → (up l.length i leaf p).2 = true → (up l.length i leaf p).1 = root l →
    fooled l i leaf p = true
  | n, l, i, leaf, x, p, hn, hx, hne, h2, h1 => by
    have hi : i < l.length := (List.getElem?_eq_some_iff.1 hx).1
    by_cases h : 2 ≤ l.length
    · have hl := half_lt h
      have hp := half_pos l.length
      cases n with
      | zero => omega
      | succ n =>
        cases p with
        | nil => rw [up_nil h] at h2; cases h2
        | cons z q =>
          by_cases hlt : i < half l.length
          · rw [up_lo h hlt, root_two h] at h1
            rw [up_lo h hlt] at h2
            rw [fooled_lo h hlt]
            by_cases e : (root (l.take (half l.length)), root (l.drop (half l.length))) = ((up (half l.length) i leaf q).1, z)
            · have hlen : (l.take (half l.length)).length = half l.length := by rw [List.length_take]; omega
              have := fooled_of_up n (l.take (half l.length)) i leaf x q (by omega) (by rw [List.getElem?_take_of_lt hlt]; exact hx) hne (by rw [hlen]; exact h2) (by rw [hlen]; exact (congrArg Prod.fst e).symm)
              rw [this, Bool.or_true]
            · rw [decide_eq_true (p := _ ≠ _) e, decide_eq_true h1.symm]; rfl
          · rw [up_hi h hlt, root_two h] at h1
            rw [up_hi h hlt] at h2
            rw [fooled_hi h hlt]
            by_cases e : (root (l.take (half l.length)), root (l.drop (half l.length))) = (z, (up (l.length - half l.length) (i - half l.length) leaf q).1)
            · have hlen : (l.drop (half l.length)).length = l.length - half l.length := List.length_drop
              have := fooled_of_up n (l.drop (half l.length)) (i - half l.length) leaf x q (by omega) (by rw [List.getElem?_drop, show half l.length + (i - half l.length) = i by omega]; exact hx) hne (by rw [hlen]; exact h2) (by rw [hlen]; exact (congrArg Prod.snd e).symm)
              rw [this, Bool.or_true]
            · rw [decide_eq_true (p := _ ≠ _) e, decide_eq_true h1.symm]; rfl
    · have h1' : l.length = 1 := by omega
      obtain ⟨y, rfl⟩ := List.length_eq_one_iff.1 h1'
      have : i = 0 := by simpa using hi
      subst this
      simp at hx
      subst hx
      rw [up_one (by simp), root_one] at h1
      exact absurd h1 hne

/-- A proof has just one length. -/
theorem up_len : ∀ (n k i : Nat) (leaf : Dg) (p q : List Dg), n ≤ k → (up n i leaf p).2 = true → (up n i leaf q).2 = true → p.length = q.length
  | n, k, i, leaf, p, q, hk, hp, hq => by
    by_cases h : 2 ≤ n
    · have hl := half_lt h
      have hpos := half_pos n
      cases k with
      | zero => omega
      | succ k =>
        cases p with
        | nil => rw [up_nil h] at hp; cases hp
        | cons y p =>
          cases q with
          | nil => rw [up_nil h] at hq; cases hq
          | cons z q =>
            by_cases hlt : i < half n
            · rw [up_lo h hlt] at hp hq
              have := up_len (half n) k i leaf p q (by omega) hp hq
              simp [this]
            · rw [up_hi h hlt] at hp hq
              have := up_len (n - half n) k (i - half n) leaf p q (by omega) hp hq
              simp [this]
    · rw [up_one (by omega)] at hp hq
      simp only [List.isEmpty_iff] at hp hq
      rw [hp, hq]

/-- How long a proof is, at most. -/
theorem way_len : ∀ (j : Nat) (l : List Dg) (i : Nat), i < l.length → l.length ≤ 2 ^ j → (way l i).length ≤ j
  | 0, l, i, hi, h => by rw [way_one (by omega)]; simp
  | j + 1, l, i, hi, h => by
    by_cases h2 : 2 ≤ l.length
    · have hl := half_lt h2
      have hp := half_pos l.length
      have hh : half l.length ≤ 2 ^ j := by
        unfold half
        refine Nat.pow_le_pow_right (by omega) ?_
        have : Nat.log2 (l.length - 1) < j + 1 := (Nat.log2_lt (by omega)).2 (by omega)
        omega
      have h3 := @half_two l.length
      rw [Nat.pow_succ] at h
      by_cases hlt : i < half l.length
      · rw [way_lo h2 hlt]
        have := way_len j (l.take (half l.length)) i (by rw [List.length_take]; omega) (by rw [List.length_take]; omega)
        simp; omega
      · rw [way_hi h2 hlt]
        have := way_len j (l.drop (half l.length)) (i - half l.length) (by rw [List.length_drop]; omega) (by rw [List.length_drop]; omega)
        simp; omega
    · rw [way_one (by omega)]; simp

theorem goes_len : ∀ (j : Nat) (l : List Dg) (m : Nat) (whole : Bool), 1 ≤ m → m ≤ l.length → l.length ≤ 2 ^ j → (goes l m whole).length ≤ j + 1
  | j, l, m, whole, h1, hm, h => by
    by_cases h2 : 2 ≤ l.length ∧ m ≠ l.length
    · have hl := half_lt h2.1
      have hp := half_pos l.length
      cases j with
      | zero => omega
      | succ j =>
        have hh : half l.length ≤ 2 ^ j := by
          unfold half
          refine Nat.pow_le_pow_right (by omega) ?_
          have : Nat.log2 (l.length - 1) < j + 1 := (Nat.log2_lt (by omega)).2 (by omega)
          omega
        have h3 := @half_two l.length
        rw [Nat.pow_succ] at h
        by_cases hlt : m ≤ half l.length
        · rw [goes_lo h2 hlt]
          have := goes_len j (l.take (half l.length)) m whole h1 (by rw [List.length_take]; omega) (by rw [List.length_take]; omega)
          simp; omega
        · rw [goes_hi h2 hlt]
          have := goes_len j (l.drop (half l.length)) (m - half l.length) false (by omega) (by rw [List.length_drop]; omega) (by rw [List.length_drop]; omega)
          simp; omega
    · rw [goes_end h2]
      split <;> simp

end Sd
