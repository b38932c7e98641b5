/- My own calculus: stores into elements of a slice of the call's own; a new slice of many zeros. -/
import Derived.Test.YtijfjpbahepegaaDoorK18
namespace Sk
open Go Go.RowKit Sd

/-- Where element k of a slice of the call's own lies. -/
def elAddr (v : Value) (k size : Nat) : Value :=
  match v with
  | .slice (some a) _ _ => .pointer (some (a.add (k * size)))
  | _ => undef

theorem flat_set {α : Type} (T : Ty α) : ∀ (xs : List α) (k : Nat) (X : α), k < xs.length → flat T (xs.set k X) = (flat T xs).take (k * T.size) ++ (T.enc X ++ (flat T xs).drop (k * T.size + T.size))
  | [], k, X, h => absurd h (Nat.not_lt_zero _)
  | x :: xs, 0, X, _ => by
    simp only [List.set_cons_zero, flat, List.flatMap_cons, Nat.zero_mul, List.take_zero, List.nil_append, Nat.zero_add]
    rw [show T.size = (T.enc x).length from (T.len x).symm, List.drop_left]
  | x :: xs, k + 1, X, h => by
    have ih := flat_set T xs k X (by simpa using h)
    simp only [List.set_cons_succ, flat, List.flatMap_cons] at ih ⊢
    have e : (k + 1) * T.size = (T.enc x).length + k * T.size := by rw [T.len, Nat.add_mul, Nat.one_mul, Nat.add_comm]
    rw [ih, e, Nat.add_assoc, List.take_length_add_append, List.drop_length_add_append, List.append_assoc]

section
variable {P : Program} {ev : Operand → Value} {w : World} {Ψ : Value → World → Prop} {d : Option Tmp} {ty : TypeId} {pos : String} {af : Array Edge} {g : Option (Nat × Bool)}
theorem does_elAddr {α : Type} {T : Ty α} {base e t n : Nat} {xs : List α} {v : Value} {x y : Operand} {i : Int} (ha : SliceIs P t e n) (hn : T.size = n) (hx : ev x = v) (hown : OwnT T base e xs v w) (hy : ev y = .int .i64 i) (h0 : 0 ≤ i) (hi : i.toNat < xs.length)
    (h : Ψ (elAddr v i.toNat n) w) : Does P ev ⟨d, .indexAddr t x y, ty, pos, af, g⟩ w Ψ := by
  rcases hown.2 with ⟨_, hz⟩ | ⟨gb, cap, cur, rfl, _⟩
  · omega
  · refine Does.value (v := elAddr (.slice (some ⟨gb, 0, none⟩) xs.length cap) i.toNat n) (w' := w) ?_ h
    have h4 : i < (xs.length : Int) := by omega
    simp [execOp, hx, hy, Instr.indexAt, asIntOf, run_underlying ha.1, h0, h4, runSz ha.2, elAddr]
theorem does_storeEl {α : Type} {T : Ty α} {base e t n : Nat} {xs : List α} {X : α} {V v : Value} {x y : Operand} {k : Nat} (hn : T.size = n) (hx : ev x = elAddr v k n) (hy : ev y = V) (hV : V.cells.toList = T.enc X) (hown : OwnT T base e xs v w) (hk : k < xs.length) (ht : (P.info? t).map (·.size) = some n)
    (h : ∀ w', ExtE (fun b => v.ownBlock = some b) w w' → OwnT T base e (xs.set k X) v w' → Ψ undef w') : Does P ev ⟨d, .store t x y, ty, pos, af, g⟩ w Ψ := by
  subst hn
  have hown0 := hown
  rcases hown.2 with ⟨_, hz⟩ | ⟨gb, cap, cur, rfl, hb, hg, hnc, hcm, hcs, htk⟩
  · omega
  have hsz : V.cells.size = T.size := by rw [← Array.length_toList, hV, T.len]
  have h1 : ∀ u ∈ V.cells.toList, u.oneCell' = true := by
    intro u hu; rw [hV] at hu; exact T.one X u hu
  have hle : k * T.size + T.size ≤ xs.length * T.size := by
    rw [← Nat.succ_mul]; exact Nat.mul_le_mul_right _ hk
  have hle2 : xs.length * T.size ≤ cap * T.size := Nat.mul_le_mul_right _ hnc
  have hfit : k * T.size + 0 + V.cells.toList.length ≤ cur.size := by rw [Array.length_toList, hsz, hcs]; omega
  have hst := run_storeCells_at P gb (k * T.size) e V.cells.toList 0 cur w hg hfit h1
  simp only [Nat.add_zero] at hst
  refine Does.skip (w' := w.setRow gb (cur.toList.take (k * T.size) ++ V.cells.toList ++ cur.toList.drop (k * T.size + V.cells.toList.length)).toArray) ?_ (h _ ?_ ?_)
  · have hz := runSz ht w
    have hne : ¬ (V.cells.size ≠ T.size) := by simp [hsz]
    simp only [execOp, hx, hy, elAddr, Addr.add_lit, Nat.zero_add, Instr.storeAt, Instr.sureAddr, storeVar, Sem.run_bind, Sem.run_pure, Result.andThen_ok, hz, if_neg hne]
    rw [hst]
    rfl
  · exact ⟨rfl, rfl, rfl, by simp, fun j _ he => setRow_other w gb j _ (fun e => he (by rw [e]; rfl))⟩
  · refine ⟨by rw [flat_length, List.length_set], .inr ⟨gb, cap, _, by rw [List.length_set], hb, setRow_heap w gb _ _ e _ hg, by rw [List.length_set]; exact hnc, hcm, ?_, ?_⟩⟩
    · simp only [List.size_toArray, List.length_append, List.length_take, List.length_drop, Array.length_toList, hsz, hcs]
      omega
    · rw [flat_set T xs k X hk, List.length_set, ← htk, hV]
      have hc : cur.toList.length = cap * T.size := by rw [Array.length_toList, hcs]
      have hE := T.len X
      rw [List.take_take, Nat.min_eq_left (by omega), List.drop_take, List.append_assoc, List.take_append, List.take_append]
      rw [List.take_of_length_le (l := cur.toList.take (k * T.size)) (by rw [List.length_take]; omega), List.length_take, Nat.min_eq_left (by omega), hE]
      rw [List.take_of_length_le (l := T.enc X) (by omega), show xs.length * T.size - k * T.size - T.size = xs.length * T.size - (k * T.size + T.size) by omega]
end
end Sk
namespace Sk
open Go Go.RowKit Sd
section
variable {P : Program} {ev : Operand → Value} {S : World → Prop} {d : Option Tmp} {ty : TypeId} {pos : String} {af : Array Edge} {g : Option (Nat × Bool)}
theorem yl_sliceHi {α : Type} {T : Ty α} {lo hi : Nat} {xs : List α} {t e n : Nat} {x y : Operand} {k : Int} {w0 : World} (ha : SliceIs P t e n) (hn : T.size = n) (hx : SlT T lo hi xs (ev x) w0) (hy : ev y = i64 k) (h0 : 0 ≤ k) (h1 : k.toNat ≤ xs.length) :
    ∃ v, Yl P ev ⟨d, .slice t x none (some y) none, ty, pos, af, g⟩ S v ∧ SlT T lo hi (xs.take k.toNat) v w0 := by
  obtain ⟨a, cap, hv, hc, hr⟩ := hx
  refine ⟨sliced a 0 k.toNat cap n, fun w _ => ?_, ?_⟩
  · have ht : P.underlying t = some (.slice (P.elem t)) := by
      have := ha.1; simp [Program.elem, this]
    have he : P.elem t = e := by have := ha.1; simp [Program.elem, this]
    simp only [execOp, hv, Option.map_none, Option.map_some, hy, Sem.run_bind]
    rw [run_sliceAt_slice w t _ _ _ _ ht, run_slice_h w t a _ cap ht .i64 k h0 (by omega), he, runSz ha.2]
    rfl
  · have := SlT.drop (w := w0) hc hr 0 k.toNat cap (Nat.zero_le _) h1 (by omega)
    rw [List.drop_zero, hn] at this
    exact this
end
end Sk
namespace Sd
theorem clashT {a b : List Dg} (h : (((!decide (((a.length : Nat) : Int) = ((b.length : Nat) : Int))) || decide (a = b)) || (!decide (root a = root b))) = true) : ¬ (a.length = b.length ∧ a ≠ b ∧ root a = root b) := by
  rintro ⟨h1, h2, h3⟩
  rw [h1, decide_eq_true rfl, decide_eq_false h2, decide_eq_true h3] at h
  cases h
theorem clashF {a b : List Dg} (h : (((!decide (((a.length : Nat) : Int) = ((b.length : Nat) : Int))) || decide (a = b)) || (!decide (root a = root b))) = false) : a.length = b.length ∧ a ≠ b ∧ root a = root b := by
  rw [Bool.or_eq_false_iff, Bool.or_eq_false_iff] at h
  obtain ⟨⟨h1, h2⟩, h3⟩ := h
  have h1' := of_decide_eq_true (Sk.bn' h1)
  exact ⟨by omega, of_decide_eq_false h2, of_decide_eq_true (Sk.bn' h3)⟩
/-- A store in which one is another one. -/
theorem other_lost {l : List (List UInt8)} {k : Nat} {s : List UInt8} (h8 : ¬ (((lost (l.set k s) (⟨((l.length : Nat) : Int), root (l.map of)⟩ : Head) : Nat) : Int) = (8 : Int))) :
    lost (l.set k s) (⟨((l.length : Nat) : Int), root (l.map of)⟩ : Head) = 0 ∧ root ((l.set k s).map of) = root (l.map of) := by
  have h0 : ¬ ((⟨((l.length : Nat) : Int), root (l.map of)⟩ : Head).size < 0) := by simp
  have h1 : ¬ ((((l.set k s).length : Nat) : Int) < (⟨((l.length : Nat) : Int), root (l.map of)⟩ : Head).size) := by simp
  have e : ((l.set k s).map of).take ((⟨((l.length : Nat) : Int), root (l.map of)⟩ : Head).size).toNat = (l.set k s).map of := by
    show ((l.set k s).map of).take (((l.length : Nat) : Int)).toNat = _
    rw [Int.toNat_natCast]
    exact List.take_of_length_le (by simp)
  by_cases hr : root ((l.set k s).map of) = root (l.map of)
  · exact ⟨lost_ok h0 h1 (by rw [e]; exact hr), hr⟩
  · exact absurd (by rw [lost_bad h0 h1 (by rw [e]; exact hr)]; rfl) h8
theorem other_law {l : List (List UInt8)} {k : Nat} {s : List UInt8} (h8 : ¬ (((lost (l.set k s) (⟨((l.length : Nat) : Int), root (l.map of)⟩ : Head) : Nat) : Int) = (8 : Int))) (hne : ¬ l.map of = (l.set k s).map of) :
    ((((decide (((lost (l.set k s) (⟨((l.length : Nat) : Int), root (l.map of)⟩ : Head) : Nat) : Int) = ((0 : Nat) : Int)) && (clash (l.map of) ((l.set k s).map of)).2.2) && (!decide (((clash (l.map of) ((l.set k s).map of)).1.1, (clash (l.map of) ((l.set k s).map of)).1.2) = ((clash (l.map of) ((l.set k s).map of)).2.1.1, (clash (l.map of) ((l.set k s).map of)).2.1.2)))) && decide (pair (clash (l.map of) ((l.set k s).map of)).1.1 (clash (l.map of) ((l.set k s).map of)).1.2 = pair (clash (l.map of) ((l.set k s).map of)).2.1.1 (clash (l.map of) ((l.set k s).map of)).2.1.2))) = true := by
  obtain ⟨h0, hr⟩ := other_lost h8
  obtain ⟨c1, c2, c3⟩ := clash_spec _ (l.map of) ((l.set k s).map of) (Nat.le_refl _) (by simp) hne hr.symm
  rw [h0, c1, decide_eq_true c3, decide_eq_false (fun e => c2 e)]
  rfl
end Sd
