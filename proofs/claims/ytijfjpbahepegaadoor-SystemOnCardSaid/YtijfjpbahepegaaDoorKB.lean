/- My own calculus of walks, and plain laws. -/
import Derived.Test.YtijfjpbahepegaaDoorK
/- Plain laws of stores that are filled; slices of the call's own against variables of another type. -/
namespace Sk
open Go Go.RowKit Sd
theorem OwnT.typed {α : Type} {T : Ty α} {base e t c : Nat} {xs : List α} {v : Value} {w : World} {cs : List Value} (h : OwnT T base e xs v w) (hb : Has w c t cs) (hne : e ≠ t) : v.ownBlock ≠ some c := by
  intro hv
  rcases h.2 with ⟨rfl, _⟩ | ⟨g, cap, cur, rfl, _, hg, _⟩
  · simp [Value.ownBlock] at hv
  simp only [Value.ownBlock, Option.some.injEq] at hv
  subst hv
  have hb' : w.heap[g]? = some (.cells cs.toArray t (0, 0)) := hb
  rw [hg] at hb'
  cases hb'
  exact hne rfl
/-- What a store is given back: nothing, the same, or one of the call's own. -/
def AddR (base e : Nat) (items l : List (List UInt8)) (x v : Value) (w : World) : Prop := SlT Str 0 0 l v w ∧ ((l = [] ∧ v = .slice none 0 0) ∨ (l = items ∧ v = x) ∨ OwnT Str base e l v w)
def Pr.addR (base e : Nat) (items l : List (List UInt8)) (x : Value) : Pr Ext := ⟨AddR base e items l x, fun _ _ _ h k => ⟨h.1.ext' k, h.2.imp id (Or.imp id fun o => OwnT.ext' o k)⟩⟩
end Sk
namespace Sd
/-- A store of texts, one by one. -/
def fill (s : List (List UInt8)) : List (List UInt8) → List (List UInt8) × Bool
  | [] => (s, true)
  | x :: l => if (addS s x).2.2 = 0 then fill (addS s x).1 l else (s, false)
theorem fill_end {s l : List (List UInt8)} {k : Nat} (h : ¬ k < l.length) : fill s (l.drop k) = (s, true) := by rw [List.drop_eq_nil_of_le (by omega)]; rfl
theorem drop_cons' {α : Type} {l : List α} {k : Nat} {x : α} (h : l[k]? = some x) : l.drop k = x :: l.drop (k + 1) := by
  have hk : k < l.length := (List.getElem?_eq_some_iff.1 h).1
  rw [List.drop_eq_getElem_cons hk, (List.getElem?_eq_some_iff.1 h).2]
theorem fill_go {s l : List (List UInt8)} {k : Nat} {x : List UInt8} (hx : l[k]? = some x) (h : (addS s x).2.2 = 0) : fill s (l.drop k) = fill (addS s x).1 (l.drop (k + 1)) := by
  rw [drop_cons' hx, fill, if_pos h]
theorem fill_no {s l : List (List UInt8)} {k : Nat} {x : List UInt8} (hx : l[k]? = some x) (h : ¬ (addS s x).2.2 = 0) : fill s (l.drop k) = (s, false) := by
  rw [drop_cons' hx, fill, if_neg h]
theorem fill_le : ∀ (l s : List (List UInt8)), (fill s l).1.length ≤ s.length + l.length ∧ ∀ y ∈ (fill s l).1, y ∈ s ∨ y ∈ l
  | [], s => ⟨Nat.le_refl _, fun y h => .inl h⟩
  | x :: l, s => by
    by_cases h : (addS s x).2.2 = 0
    · rw [fill, if_pos h]
      obtain ⟨h1, h2⟩ := fill_le l (addS s x).1
      obtain ⟨h3, h4⟩ := add_le (l := s) (x := x)
      refine ⟨by simp only [List.length_cons]; omega, fun y hy => ?_⟩
      rcases h2 y hy with h5 | h5
      · rcases h4 y h5 with h6 | h6
        · exact .inl h6
        · exact .inr (by rw [h6]; exact List.mem_cons_self ..)
      · exact .inr (List.mem_cons_of_mem _ h5)
    · rw [fill, if_neg h]
      exact ⟨Nat.le_add_right _ _, fun y h => .inl h⟩
/-- Another first item: either a proof of two unlike pairs, or the head tells. -/
theorem systemOn_law {s : List (List UInt8)} {m k : Nat} {y : List UInt8} (h1 : 1 ≤ m) (hm : m ≤ s.length) (hne : ¬ ((s.take m).map of).getD k Dg.zero = (((s.take m).set k y).map of).getD k Dg.zero) :
    (!(decide (((lost s (⟨((m : Nat) : Int), root (((s.take m).set k y).map of)⟩ : Head) : Nat) : Int) = ((8 : Nat) : Int)) == (clash ((s.take m).map of) (((s.take m).set k y).map of)).2.2)) = true := by
  have hab : (s.take m).map of ≠ ((s.take m).set k y).map of := fun e => hne (by rw [e])
  have hl : ((s.take m).map of).length = (((s.take m).set k y).map of).length := by simp
  have h0 : ¬ ((⟨((m : Nat) : Int), root (((s.take m).set k y).map of)⟩ : Head).size < 0) := by simp
  have h2 : ¬ (((s.length : Nat) : Int) < (⟨((m : Nat) : Int), root (((s.take m).set k y).map of)⟩ : Head).size) := by show ¬ ((s.length : Int) < (m : Int)); omega
  have e : ((s.map of).take ((⟨((m : Nat) : Int), root (((s.take m).set k y).map of)⟩ : Head).size).toNat) = (s.take m).map of := by
    show (s.map of).take (((m : Nat) : Int)).toNat = _
    rw [Int.toNat_natCast, List.map_take]
  by_cases hr : root ((s.take m).map of) = root (((s.take m).set k y).map of)
  · rw [lost_ok h0 h2 (by rw [e]; exact hr), (clash_spec _ _ _ (Nat.le_refl _) hl hab hr).1]
    rfl
  · rw [lost_bad h0 h2 (by rw [e]; exact hr), prod3 (clash_no (fun hh => hr hh.2.2))]
    rfl
end Sd
namespace Sk
open Go Go.RowKit Sd
/-- What was there lies apart from what the call makes. -/
theorem SlT.sep {α β : Type} {T : Ty α} {U : Ty β} {lo hi e : Nat} {l : List α} {ys : List β} {z x : Value} {W w' : World} (hz : SlT T lo hi l z W) (h : OwnT U W.heap.size e ys x w') : l ≠ [] → ∀ k, x.ownBlock = some k → z.ownBlock ≠ some k :=
  fun hl k hk => SlT.old hz (OwnT.block_lt h hk).1 hl
theorem SlT.overF {α : Type} {T : Ty α} {lo hi : Nat} {l : List α} {z x : Value} {w w' : World} (h : SlT T lo hi l z w) (hX : ExtE (fun b => x.ownBlock = some b) w w') (hs : l ≠ [] → ∀ k, x.ownBlock = some k → z.ownBlock ≠ some k) : SlT T lo hi l z w' := by
  obtain ⟨a, cap, hv, hc, hr⟩ := h
  refine ⟨a, cap, hv, hc, ?_⟩
  by_cases hl : l = []
  · exact .inl hl
  · obtain ⟨b', o, ha, h1, h2, h3⟩ := hr.resolve_left hl
    refine .inr ⟨b', o, ha, h1, h2, fun i y hi' => range_ext (h3 i y hi') hX (.inr fun e => hs hl b' e ?_)⟩
    rw [hv, ha]
    rfl
theorem SlT.sepK {α : Type} {T : Ty α} {lo hi : Nat} {l : List α} {z x x' : Value} {w : World} (hz : SlT T lo hi l z w) (hs : l ≠ [] → ∀ k, x.ownBlock = some k → z.ownBlock ≠ some k) (hk : ∀ k, x'.ownBlock = some k → x.ownBlock = some k ∨ w.heap.size ≤ k) : l ≠ [] → ∀ k, x'.ownBlock = some k → z.ownBlock ≠ some k :=
  fun hl k h => (hk k h).elim (hs hl k) (fun h' => SlT.old hz h' hl)
end Sk

