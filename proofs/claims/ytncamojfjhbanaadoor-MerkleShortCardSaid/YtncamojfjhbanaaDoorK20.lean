/- Plain laws of chapter 4. -/
import Derived.Test.YtncamojfjhbanaaDoorK19
namespace Sd
theorem half3 : half 3 = 2 := (half_eq (n := 3) (j := 1) (by decide) (by decide)).symm
theorem half2 : half 2 = 1 := (half_eq (n := 2) (j := 0) (by decide) (by decide)).symm
theorem root_pair (a b : Dg) : root [a, b] = pair a b := by
  have h2 : half [a, b].length = 1 := half2
  rw [root_two (by simp), h2]
  simp only [List.take_succ_cons, List.take_zero, List.drop_succ_cons, List.drop_zero, root_one]
theorem root_three (a b c : Dg) : root [a, b, c] = pair (pair a b) c := by
  have h3 : half [a, b, c].length = 2 := half3
  rw [root_two (by simp), h3]
  simp only [List.take_succ_cons, List.take_zero, List.drop_succ_cons, List.drop_zero, root_one, root_pair]
theorem way_alive (a b c : Dg) : way [a, b, c] 1 = [a, c] := by
  have h3 : half [a, b, c].length = 2 := half3
  have h2 : half [a, b].length = 1 := half2
  rw [way_lo (by simp) (by rw [h3]; decide), h3]
  simp only [List.take_succ_cons, List.take_zero, List.drop_succ_cons, List.drop_zero, root_one]
  rw [way_hi (by simp) (by rw [h2]; decide), h2]
  simp only [List.take_succ_cons, List.take_zero, List.drop_succ_cons, List.drop_zero, root_one, Nat.sub_self]
  rw [way_one (by simp)]
  rfl
theorem goes_alive (a b c : Dg) : goes [a, b, c] 1 true = [b, c] := by
  have h3 : half [a, b, c].length = 2 := half3
  have h2 : half [a, b].length = 1 := half2
  rw [goes_lo ⟨by simp, by simp⟩ (by rw [h3]; decide), h3]
  simp only [List.take_succ_cons, List.take_zero, List.drop_succ_cons, List.drop_zero, root_one]
  rw [goes_lo ⟨by simp, by simp⟩ (by rw [h2]; decide), h2]
  simp only [List.take_succ_cons, List.take_zero, List.drop_succ_cons, List.drop_zero, root_one]
  rw [goes_end (by simp)]
  rfl
theorem prove_alive (a b c : Dg) : prove [a, b, c] ((1 : Nat) : Int) = ([a, c], 0) := by
  rw [prove_ok (by simp), Int.toNat_natCast, way_alive]
theorem proveOn_alive (a b c : Dg) : proveOn [a, b, c] ((1 : Nat) : Int) = ([b, c], 0) := by
  rw [proveOn_ok (by simp), Int.toNat_natCast, goes_alive]
theorem alive04_law (a b c : Dg) : ((((decide (root [a, b, c] = pair (pair a b) c) && decide ((((prove [a, b, c] ((1 : Nat) : Int)).2 : Nat) : Int) = ((0 : Nat) : Int))) && decide ((prove [a, b, c] ((1 : Nat) : Int)).1 = [a, c])) && decide ((((proveOn [a, b, c] ((1 : Nat) : Int)).2 : Nat) : Int) = ((0 : Nat) : Int))) && decide ((proveOn [a, b, c] ((1 : Nat) : Int)).1 = [b, c])) = true := by
  rw [root_three, prove_alive, proveOn_alive]
  simp
theorem prove_len2 {l : List Dg} {i : Int} : (prove l i).1.length ≤ l.length := by
  by_cases h : 0 ≤ i ∧ i < (l.length : Int)
  · rw [prove_ok h]; have := way_le l i.toNat (by omega); show (way l i.toNat).length ≤ _; omega
  · rw [prove_no h]; exact Nat.zero_le _
theorem short_law {l : List Dg} {i : Nat} (hi : i < l.length) (hn : l.length ≤ 1000) :
    (((decide ((((prove l ((i : Nat) : Int)).2 : Nat) : Int) = ((0 : Nat) : Int)) && decide ((((proveOn l ((i + 1 : Nat) : Int)).2 : Nat) : Int) = ((0 : Nat) : Int))) && decide ((((prove l ((i : Nat) : Int)).1.length : Nat) : Int) ≤ ((10 : Nat) : Int))) && decide ((((proveOn l ((i + 1 : Nat) : Int)).1.length : Nat) : Int) ≤ ((11 : Nat) : Int))) = true := by
  have h1 := prove_ok (l := l) (i := ((i : Nat) : Int)) ⟨by omega, by omega⟩
  have h2 := proveOn_ok (l := l) (m := ((i + 1 : Nat) : Int)) ⟨by omega, by omega⟩
  have e1 := way_len 10 l i hi (by omega)
  have e2 := goes_len 10 l (i + 1) true (by omega) (by omega) (by omega)
  rw [h1, h2]
  show (((decide (((0 : Nat) : Int) = ((0 : Nat) : Int)) && decide (((0 : Nat) : Int) = ((0 : Nat) : Int))) && decide ((((way l ((i : Nat) : Int).toNat).length : Nat) : Int) ≤ ((10 : Nat) : Int))) && decide ((((goes l ((i + 1 : Nat) : Int).toNat true).length : Nat) : Int) ≤ ((11 : Nat) : Int))) = true
  rw [Int.toNat_natCast, Int.toNat_natCast, decide_eq_true (p := (((way l i).length : Nat) : Int) ≤ ((10 : Nat) : Int)) (by omega), decide_eq_true (p := (((goes l (i + 1) true).length : Nat) : Int) ≤ ((11 : Nat) : Int)) (by omega)]
  rfl
end Sd
namespace Sk
open Go Go.RowKit Sd
section
variable {P : Program} {ev : Operand → Value} {w : World} {Ψ : Value → World → Prop} {d : Option Tmp} {ty : TypeId} {pos : String} {af : Array Edge} {g : Option (Nat × Bool)}
/-- A new slice of n zeros. -/
theorem does_makeN {α : Type} {T : Ty α} {Z : α} {t e n bytes c : Nat} {x y : Operand} (ha : AppIs P t e n bytes) (hz0 : ∀ z, (P.info? e).bind (·.zero) = some z → z.cells.toList = T.enc Z) (hn : T.size = n) (hx : ev x = i64 (c : Int)) (hy : ev y = i64 (c : Int)) (hb : bytes * c ≤ 281474976710656) (hc : c ≤ maxLen)
    (h : ∀ v w', Ext w w' → SlT T w.heap.size 0 (List.replicate c Z) v w' → OwnT T w.heap.size e (List.replicate c Z) v w' → Ψ v w') : Does P ev ⟨d, .makeSlice t x y, ty, pos, af, g⟩ w Ψ := by
  subst hn
  obtain ⟨ht, i, z, hi, hz, hsz, hby, hzs⟩ := ha
  obtain ⟨w', hr, ho, hg⟩ := run_make_full (P := P) w w.heap.size t e i z T.size ht hi hz hsz .i64 .i64 c (by rw [hby]; exact hb) hc (Nat.le_refl _)
  refine Does.value (v := .slice (some ⟨w.heap.size, 0, none⟩) c c) (w' := w') ?_ ?_
  · simp only [execOp, hx, hy, Sem.run_bind]
    rw [hr]
    rfl
  · have hZ := hz0 z (by simp [hi, hz])
    have hcells : (madeCells z.cells (c * T.size)).toList = flat T (List.replicate c Z) := by
      apply List.ext_getElem?
      intro j
      by_cases hj : j < c * T.size
      · have hq : j / T.size < c := (Nat.div_lt_iff_lt_mul T.pos).2 hj
        have hm : j % T.size < (T.enc Z).length := by rw [T.len]; exact Nat.mod_lt _ T.pos
        have hf := flat_get T (List.replicate c Z) (j / T.size) Z (by rw [List.getElem?_replicate, if_pos hq]) (j % T.size) _ (List.getElem?_eq_getElem hm)
        rw [show j / T.size * T.size + j % T.size = j by rw [Nat.mul_comm]; exact Nat.div_add_mod j T.size] at hf
        rw [hf]
        have hmz : j % T.size < z.cells.size := by rw [hzs]; exact Nat.mod_lt _ T.pos
        have hel : z.cells[j % z.cells.size]! = (T.enc Z)[j % T.size] := by
          rw [hzs, getElem!_pos z.cells _ hmz]
          have this : z.cells.toList[j % T.size]? = (T.enc Z)[j % T.size]? := by rw [hZ]
          rw [Array.getElem?_toList, Array.getElem?_eq_getElem hmz, List.getElem?_eq_getElem hm] at this
          exact Option.some.inj this
        simp [madeCells, hj, hel]
      · rw [List.getElem?_eq_none (l := (madeCells z.cells (c * T.size)).toList) (by simp [madeCells]; omega), List.getElem?_eq_none (by rw [flat_length, List.length_replicate]; omega)]
    have hown : OwnT T w.heap.size e (List.replicate c Z) (.slice (some ⟨w.heap.size, 0, none⟩) c c) w' := by
      unfold OwnT
      rw [List.length_replicate, ← hcells]
      exact ho
    exact h _ _ ⟨hg.os, hg.tape, hg.output, hg.size, fun k hk _ => hg.block k hk (by simp)⟩ (hown.sl.wide (Nat.le_refl _) (.inl rfl)) hown
end
end Sk
namespace Sd
open Go
theorem u16_in {n : Int} (h : (Lit.int .u16 n).wf = true) : 0 ≤ n ∧ n < 65536 := by
  simp [Lit.wf, IntKind.min, IntKind.max, IntKind.signed, IntKind.bits] at h
  omega
end Sd
