/- My own calculus: stores into elements of a slice of the call's own; a new slice of many zeros. -/
import Derived.Test.YtncamojfjhbanaaDoorK18
namespace Sk
open Go Go.RowKit Sd

/-- Where element k of a slice of the call's own lies. -/
def elAddr (v : Value) (k size : Nat) : Value :=
  match v with
  | .slice (some a) _ _ => .pointer (some (a.add (k * size)))
  | _ => undef

theorem flat_set {α : Type} (T : Ty α) : ∀ (xs : List α) (k : Nat) (X : α), k < xs.length → flat T (xs.set k X) = (flat T xs).take (k * T.size) ++ (T.enc X ++ (flat T xs).drop (k * T.size + T.size))
  | [], k, X, h => absurd h (Nat.not_lt_zero _)
  | x :: xs, 0, X, _ => by
    simp only [List.set_cons_zero, flat, List.flatMap_cons, Nat.zero_mul, List.take_zero, List.nil_append, Nat.zero_add]
    rw [show T.size = (T.enc x).length from (T.len x).symm, List.drop_left]
  | x :: xs, k + 1, X, h => by
    have ih := flat_set T xs k X (by simpa using h)
    simp only [List.set_cons_succ, flat, List.flatMap_cons] at ih ⊢
    have e : (k + 1) * T.size = (T.enc x).length + k * T.size := by rw [T.len, Nat.add_mul, Nat.one_mul, Nat.add_comm]
    rw [ih, e, Nat.add_assoc, List.take_length_add_append, List.drop_length_add_append, List.append_assoc]

section
variable {P : Program} {ev : Operand → Value} {w : World} {Ψ : Value → World → Prop} {d : Option Tmp} {ty : TypeId} {pos : String} {af : Array Edge} {g : Option (Nat × Bool)}
theorem does_elAddr {α : Type} {T : Ty α} {base e t n : Nat} {xs : List α} {v : Value} {x y : Operand} {i : Int} (ha : SliceIs P t e n) (hn : T.size = n) (hx : ev x = v) (hown : OwnT T base e xs v w) (hy : ev y = .int .i64 i) (h0 : 0 ≤ i) (hi : i.toNat < xs.length)
    (h : Ψ (elAddr v i.toNat n) w) : Does P ev ⟨d, .indexAddr t x y, ty, pos, af, g⟩ w Ψ := by
  rcases hown.2 with ⟨_, hz⟩ | ⟨gb, cap, cur, rfl, _⟩
  · omega
  · refine Does.value (v := elAddr (.slice (some ⟨gb, 0, none⟩) xs.length cap) i.toNat n) (w' := w) ?_ h
    have h4 : i < (xs.length : Int) := by omega
    simp [execOp, hx, hy, Instr.indexAt, asIntOf, run_underlying ha.1, h0, h4, runSz ha.2, elAddr]
theorem does_storeEl {α : Type} {T : Ty α} {base e t n : Nat} {xs : List α} {X : α} {V v : Value} {x y : Operand} {k : Nat} (hn : T.size = n) (hx : ev x = elAddr v k n) (hy : ev y = V) (hV : V.cells.toList = T.enc X) (hown : OwnT T base e xs v w) (hk : k < xs.length) (ht : (P.info? t).map (·.size) = some n)
    (h : ∀ w', ExtE (fun b => v.ownBlock = some b) w w' → OwnT T base e (xs.set k X) v w' → Ψ undef w') : Does P ev ⟨d, .store t x y, ty, pos, af, g⟩ w Ψ := by
  subst hn
  have hown0 := hown
  rcases hown.2 with ⟨_, hz⟩ | ⟨gb, cap, cur, rfl, hb, hg, hnc, hcm, hcs, htk⟩
  · omega
  have hsz : V.cells.size = T.size := by rw [← Array.length_toList, hV, T.len]
  have h1 : ∀ u ∈ V.cells.toList, u.oneCell' = true := by
    intro u hu; rw [hV] at hu; exact T.one X u hu
  have hle : k * T.size + T.size ≤ xs.length * T.size := by
    rw [← Nat.succ_mul]; exact Nat.mul_le_mul_right _ hk
  have hle2 : xs.length * T.size ≤ cap * T.size := Nat.mul_le_mul_right _ hnc
  have hfit : k * T.size + 0 + V.cells.toList.length ≤ cur.size := by rw [Array.length_toList, hsz, hcs]; omega
  have hst := run_storeCells_at P gb (k * T.size) e V.cells.toList 0 cur w hg hfit h1
  simp only [Nat.add_zero] at hst
  refine Does.skip (w' := w.setRow gb (cur.toList.take (k * T.size) ++ V.cells.toList ++ cur.toList.drop (k * T.size + V.cells.toList.length)).toArray) ?_ (h _ ?_ ?_)
  · have hz := runSz ht w
    have hne : ¬ (V.cells.size ≠ T.size) := by simp [hsz]
    simp only [execOp, hx, hy, elAddr, Addr.add_lit, Nat.zero_add, Instr.storeAt, Instr.sureAddr, storeVar, Sem.run_bind, Sem.run_pure, Result.andThen_ok, hz, if_neg hne]
    rw [hst]
    rfl
  · exact ⟨rfl, rfl, rfl, by simp, fun j _ he => setRow_other w gb j _ (fun e => he (by rw [e]; rfl))⟩
  · refine ⟨by rw [flat_length, List.length_set], .inr ⟨gb, cap, _, by rw [List.length_set], hb, setRow_heap w gb _ _ e _ hg, by rw [List.length_set]; exact hnc, hcm, ?_, ?_⟩⟩
    · simp only [List.size_toArray, List.length_append, List.length_take, List.length_drop, Array.length_toList, hsz, hcs]
      omega
    · rw [flat_set T xs k X hk, List.length_set, ← htk, hV]
      have hc : cur.toList.length = cap * T.size := by rw [Array.length_toList, hcs]
      have hE := T.len X
      rw [List.take_take, Nat.min_eq_left (by omega), List.drop_take, List.append_assoc, List.take_append, List.take_append]
      rw [List.take_of_length_le (l := cur.toList.take (k * T.size)) (by rw [List.length_take]; omega), List.length_take, Nat.min_eq_left (by omega), hE]
      rw [List.take_of_length_le (l := T.enc X) (by omega), show xs.length * T.size - k * T.size - T.size = xs.length * T.size - (k * T.size + T.size) by omega]
end
end Sk
namespace Sk
open Go Go.RowKit Sd
section
variable {P : Program} {ev : Operand → Value} {S : World → Prop} {d : Option Tmp} {ty : TypeId} {pos : String} {af : Array Edge} {g : Option (Nat × Bool)}
end
end Sk
namespace Sd
end Sd
