/- What comes in by a row, opened at this program's types; the package variable. -/
import Derived.Test.YtmmghpbncejfiaaDoorK
import Derived.Test.YtmmghpbncejfiaaDoorF0
import Derived.Test.YtmmghpbncejfiaaDoorRows
import Derived.Stop.Joined
set_option maxRecDepth 100000
namespace Go.Proofs.YtmmghpbncejfiaaDoor
open Go Go.RowKit Sk Sd Go.WideShapes Go.ChangeShapes Go.ChangeAt Go.WideElems
theorem lenN4 {α : Type} : ∀ {l : List α}, l.length = 4 → ∃ c0 c1 c2 c3, l = [c0, c1, c2, c3]
  | [c0, c1, c2, c3], _ => ⟨c0, c1, c2, c3, rfl⟩
theorem lenN8 {α : Type} : ∀ {l : List α}, l.length = 8 → ∃ c0 c1 c2 c3 c4 c5 c6 c7, l = [c0, c1, c2, c3, c4, c5, c6, c7]
  | [c0, c1, c2, c3, c4, c5, c6, c7], _ => ⟨c0, c1, c2, c3, c4, c5, c6, c7, rfl⟩
theorem ownK : ownKnob Tryd.prog.godebug = none := by kernel_rfl
theorem laidOut : laidOutB Tryd.prog = true := by kernel_rfl
theorem gT : Tryd.prog.globalNamed "seedcorn/digest.turns" = some 0 := by kernel_rfl
theorem tT : (Tryd.prog.globals[0]?).map (·.type) = some 113 := by kernel_rfl
def laidL : List (String × DataW Unit) := [("seedcorn/digest.turns", Rows.laid_seedcorn_digest_turns)]
/-- The door's own heap meets the condition. -/
theorem door_met (os : Os) (args : Array Value) : laidMetH Tryd.prog laidL ((World.doorLaid Tryd.prog 400 os).forCall (fun _ _ => 0) ⟨#[], args, []⟩).memory :=
  laidMetH_of_parts3 (fuel := 8) (laidMet_of_run' 8 (by kernel_rfl) (by kernel_rfl)) (by kernel_rfl) (by kernel_rfl)
/-- What the condition gives the walks. -/
theorem of_laid {W : World} (h : laidMetH Tryd.prog laidL W) : Laid W := by
  rw [MakeChecks.laidMetH_plain _ _ _ (by kernel_rfl)] at h
  obtain ⟨ps, ⟨g0, t0, cs0, f0, p0, q0, hg0, ht0, hv0, hd0, _, _⟩, _, _⟩ := h
  obtain rfl := Option.some.inj (gT.symm.trans hg0)
  obtain rfl := Option.some.inj (tT.symm.trans ht0)
  obtain ⟨xs, m1, _, hx1, hlen, hn, hel⟩ := DataW.trod_array Tryd.underlying113 hd0
  rw [show Tryd.prog.cellsOf 113 = 4 by kernel_rfl] at hlen
  obtain ⟨c0, c1, c2, c3, hcs⟩ := lenN4 hlen
  obtain ⟨x0, x1, x2, x3, rfl⟩ := lenN4 hn
  have key : ∀ i, i < 4 → ∃ n, (cs0.toList.drop i).take 1 = [.int .i64 n] ∧ [x0, x1, x2, x3][i]? = some (.lit (.int .i64 n), []) := by
    intro i hi
    have h1 := hel i hi
    rw [show Tryd.prog.cellsOf 3 = 1 by kernel_rfl, Nat.mul_one] at h1
    obtain ⟨y, hy⟩ : ∃ y, [x0, x1, x2, x3][i]? = some y := ⟨_, List.getElem?_eq_getElem (show i < [x0, x1, x2, x3].length from hi)⟩
    rw [hy] at h1
    obtain ⟨n, e1, e2, _⟩ := DataW.trod_int Tryd.underlying3 h1
    exact ⟨n, e1, by rw [hy, e2]⟩
  obtain ⟨n0, a0, b0⟩ := key 0 (by decide)
  obtain ⟨n1, a1, b1⟩ := key 1 (by decide)
  obtain ⟨n2, a2, b2⟩ := key 2 (by decide)
  obtain ⟨n3, a3, b3⟩ := key 3 (by decide)
  rw [hcs] at a0 a1 a2 a3
  simp at a0 a1 a2 a3 b0 b1 b2 b3
  subst a0; subst a1; subst a2; subst a3
  subst b0; subst b1; subst b2; subst b3
  simp [Rows.laid_seedcorn_digest_turns] at hx1
  obtain ⟨⟨rfl, rfl, rfl, rfl⟩, _⟩ := hx1
  intro j v hj
  have hc := World.var?_cell hg0 hv0 j
  rw [Nat.zero_add, hc, ← hj]
  obtain ⟨l0⟩ := cs0
  have hl0 : l0 = [i64 7, i64 9, i64 13, i64 18] := hcs
  rw [hl0]
  simp
theorem op_t24 {H : Type} {enc : TypeId × Value → H} {w : World} {base : Nat} {spare : Nat → Bool} {held : Bool} : Opens enc Tryd.prog w base spare held 24 (fun cs => ∃ d : Dg, cs = Dg.cells d) := op_dg Tryd.underlying24 Tryd.underlying22 (by kernel_rfl) (by kernel_rfl)
theorem op_t26 {H : Type} {enc : TypeId × Value → H} {w : World} {base : Nat} {spare : Nat → Bool} {held : Bool} : Opens enc Tryd.prog w base spare held 26 (fun cs => ∃ (a0 : Dg), ∃ (a1 : Dg), cs = [w32 a0.a, w32 a0.b, w32 a0.c, w32 a0.d, w32 a1.a, w32 a1.b, w32 a1.c, w32 a1.d]) := by
  refine op_struct Tryd.underlying26 fun cs hl h => ?_
  obtain ⟨n0, y0, g0⟩ := h 0 _ rfl
  replace g0 : DataW.trod enc Tryd.prog w base spare held n0 24 ((cs.drop 0).take (Tryd.prog.cellsOf 24)) = some y0 := g0
  rw [show Tryd.prog.cellsOf 24 = 4 by kernel_rfl] at g0
  obtain ⟨n1, y1, g1⟩ := h 1 _ rfl
  replace g1 : DataW.trod enc Tryd.prog w base spare held n1 24 ((cs.drop 4).take (Tryd.prog.cellsOf 24)) = some y1 := g1
  rw [show Tryd.prog.cellsOf 24 = 4 by kernel_rfl] at g1
  rw [show Tryd.prog.cellsOf 26 = 8 by kernel_rfl] at hl
  obtain ⟨c0, c1, c2, c3, c4, c5, c6, c7, rfl⟩ := lenN8 hl
  obtain ⟨a0, e0⟩ := op_t24 _ _ _ g0
  obtain ⟨a1, e1⟩ := op_t24 _ _ _ g1
  simp [Dg.cells] at e0 e1
  obtain ⟨rfl, rfl, rfl, rfl⟩ := e0
  obtain ⟨rfl, rfl, rfl, rfl⟩ := e1
  exact ⟨_, _, rfl⟩
theorem op_t54 {H : Type} {enc : TypeId × Value → H} {w : World} {base : Nat} {spare : Nat → Bool} {held : Bool} : Opens enc Tryd.prog w base spare held 54 (fun cs => ∃ xs v, cs = [v] ∧ SlT LK 0 0 xs v w) := op_slice Tryd.underlying54 (by kernel_rfl) (fun n cs x h => by obtain ⟨r, o, h1⟩ := op_t26 n cs x h; exact ⟨(⟨r, o⟩ : Link), h1⟩)
end Go.Proofs.YtmmghpbncejfiaaDoor
