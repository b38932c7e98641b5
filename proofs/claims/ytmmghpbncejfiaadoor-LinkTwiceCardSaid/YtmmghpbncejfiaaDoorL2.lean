/- What comes in by a row, opened at this program's types; the package variable. -/
import Derived.Test.YtmmghpbncejfiaaDoorK
import Derived.Test.YtmmghpbncejfiaaDoorF0
import Derived.Test.YtmmghpbncejfiaaDoorRows
import Derived.Stop.Joined
set_option maxRecDepth 100000
namespace Go.Proofs.YtmmghpbncejfiaaDoor
open Go Go.RowKit Sk Sd Go.WideShapes Go.ChangeShapes Go.ChangeAt Go.WideElems
theorem lenN3 {α : Type} : ∀ {l : List α}, l.length = 3 → ∃ c0 c1 c2, l = [c0, c1, c2]
  | [c0, c1, c2], _ => ⟨c0, c1, c2, rfl⟩
theorem lenN4 {α : Type} : ∀ {l : List α}, l.length = 4 → ∃ c0 c1 c2 c3, l = [c0, c1, c2, c3]
  | [c0, c1, c2, c3], _ => ⟨c0, c1, c2, c3, rfl⟩
theorem lenN7 {α : Type} : ∀ {l : List α}, l.length = 7 → ∃ c0 c1 c2 c3 c4 c5 c6, l = [c0, c1, c2, c3, c4, c5, c6]
  | [c0, c1, c2, c3, c4, c5, c6], _ => ⟨c0, c1, c2, c3, c4, c5, c6, rfl⟩
theorem lenN8 {α : Type} : ∀ {l : List α}, l.length = 8 → ∃ c0 c1 c2 c3 c4 c5 c6 c7, l = [c0, c1, c2, c3, c4, c5, c6, c7]
  | [c0, c1, c2, c3, c4, c5, c6, c7], _ => ⟨c0, c1, c2, c3, c4, c5, c6, c7, rfl⟩
theorem lenN30 {α : Type} : ∀ {l : List α}, l.length = 30 → ∃ c0 c1 c2 c3 c4 c5 c6 c7 c8 c9 c10 c11 c12 c13 c14 c15 c16 c17 c18 c19 c20 c21 c22 c23 c24 c25 c26 c27 c28 c29, l = [c0, c1, c2, c3, c4, c5, c6, c7, c8, c9, c10, c11, c12, c13, c14, c15, c16, c17, c18, c19, c20, c21, c22, c23, c24, c25, c26, c27, c28, c29]
  | [c0, c1, c2, c3, c4, c5, c6, c7, c8, c9, c10, c11, c12, c13, c14, c15, c16, c17, c18, c19, c20, c21, c22, c23, c24, c25, c26, c27, c28, c29], _ => ⟨c0, c1, c2, c3, c4, c5, c6, c7, c8, c9, c10, c11, c12, c13, c14, c15, c16, c17, c18, c19, c20, c21, c22, c23, c24, c25, c26, c27, c28, c29, rfl⟩
theorem ownK : ownKnob Tryd.prog.godebug = none := by kernel_rfl
theorem laidOut : laidOutB Tryd.prog = true := by kernel_rfl
theorem gT : Tryd.prog.globalNamed "seedcorn/digest.turns" = some 0 := by kernel_rfl
theorem tT : (Tryd.prog.globals[0]?).map (·.type) = some 113 := by kernel_rfl
def laidL : List (String × DataW Unit) := [("seedcorn/digest.turns", Rows.laid_seedcorn_digest_turns)]
/-- The door's own heap meets the condition. -/
theorem door_met (os : Os) (args : Array Value) : laidMetH Tryd.prog laidL ((World.doorLaid Tryd.prog 400 os).forCall (fun _ _ => 0) ⟨#[], args, []⟩).memory :=
  laidMetH_of_parts3 (fuel := 8) (laidMet_of_run' 8 (by kernel_rfl) (by kernel_rfl)) (by kernel_rfl) (by kernel_rfl)
/-- What the condition gives the walks. -/
theorem of_laid {W : World} (h : laidMetH Tryd.prog laidL W) : Laid W := by
  rw [MakeChecks.laidMetH_plain _ _ _ (by kernel_rfl)] at h
  obtain ⟨ps, ⟨g0, t0, cs0, f0, p0, q0, hg0, ht0, hv0, hd0, _, _⟩, _, _⟩ := h
  obtain rfl := Option.some.inj (gT.symm.trans hg0)
  obtain rfl := Option.some.inj (tT.symm.trans ht0)
  obtain ⟨xs, m1, _, hx1, hlen, hn, hel⟩ := DataW.trod_array Tryd.underlying113 hd0
  rw [show Tryd.prog.cellsOf 113 = 4 by kernel_rfl] at hlen
  obtain ⟨c0, c1, c2, c3, hcs⟩ := lenN4 hlen
  obtain ⟨x0, x1, x2, x3, rfl⟩ := lenN4 hn
  have key : ∀ i, i < 4 → ∃ n, (cs0.toList.drop i).take 1 = [.int .i64 n] ∧ [x0, x1, x2, x3][i]? = some (.lit (.int .i64 n), []) := by
    intro i hi
    have h1 := hel i hi
    rw [show Tryd.prog.cellsOf 3 = 1 by kernel_rfl, Nat.mul_one] at h1
    obtain ⟨y, hy⟩ : ∃ y, [x0, x1, x2, x3][i]? = some y := ⟨_, List.getElem?_eq_getElem (show i < [x0, x1, x2, x3].length from hi)⟩
    rw [hy] at h1
    obtain ⟨n, e1, e2, _⟩ := DataW.trod_int Tryd.underlying3 h1
    exact ⟨n, e1, by rw [hy, e2]⟩
  obtain ⟨n0, a0, b0⟩ := key 0 (by decide)
  obtain ⟨n1, a1, b1⟩ := key 1 (by decide)
  obtain ⟨n2, a2, b2⟩ := key 2 (by decide)
  obtain ⟨n3, a3, b3⟩ := key 3 (by decide)
  rw [hcs] at a0 a1 a2 a3
  simp at a0 a1 a2 a3 b0 b1 b2 b3
  subst a0; subst a1; subst a2; subst a3
  subst b0; subst b1; subst b2; subst b3
  simp [Rows.laid_seedcorn_digest_turns] at hx1
  obtain ⟨⟨rfl, rfl, rfl, rfl⟩, _⟩ := hx1
  intro j v hj
  have hc := World.var?_cell hg0 hv0 j
  rw [Nat.zero_add, hc, ← hj]
  obtain ⟨l0⟩ := cs0
  have hl0 : l0 = [i64 7, i64 9, i64 13, i64 18] := hcs
  rw [hl0]
  simp
theorem op_t24 {H : Type} {enc : TypeId × Value → H} {w : World} {base : Nat} {spare : Nat → Bool} {held : Bool} : Opens enc Tryd.prog w base spare held 24 (fun cs => ∃ d : Dg, cs = Dg.cells d) := op_dg Tryd.underlying24 Tryd.underlying22 (by kernel_rfl) (by kernel_rfl)
theorem op_t26 {H : Type} {enc : TypeId × Value → H} {w : World} {base : Nat} {spare : Nat → Bool} {held : Bool} : Opens enc Tryd.prog w base spare held 26 (fun cs => ∃ (a0 : Dg), ∃ (a1 : Dg), cs = [w32 a0.a, w32 a0.b, w32 a0.c, w32 a0.d, w32 a1.a, w32 a1.b, w32 a1.c, w32 a1.d]) := by
  refine op_struct Tryd.underlying26 fun cs hl h => ?_
  obtain ⟨n0, y0, g0⟩ := h 0 _ rfl
  replace g0 : DataW.trod enc Tryd.prog w base spare held n0 24 ((cs.drop 0).take (Tryd.prog.cellsOf 24)) = some y0 := g0
  rw [show Tryd.prog.cellsOf 24 = 4 by kernel_rfl] at g0
  obtain ⟨n1, y1, g1⟩ := h 1 _ rfl
  replace g1 : DataW.trod enc Tryd.prog w base spare held n1 24 ((cs.drop 4).take (Tryd.prog.cellsOf 24)) = some y1 := g1
  rw [show Tryd.prog.cellsOf 24 = 4 by kernel_rfl] at g1
  rw [show Tryd.prog.cellsOf 26 = 8 by kernel_rfl] at hl
  obtain ⟨c0, c1, c2, c3, c4, c5, c6, c7, rfl⟩ := lenN8 hl
  obtain ⟨a0, e0⟩ := op_t24 _ _ _ g0
  obtain ⟨a1, e1⟩ := op_t24 _ _ _ g1
  simp [Dg.cells] at e0 e1
  obtain ⟨rfl, rfl, rfl, rfl⟩ := e0
  obtain ⟨rfl, rfl, rfl, rfl⟩ := e1
  exact ⟨_, _, rfl⟩
theorem op_t3 {H : Type} {enc : TypeId × Value → H} {w : World} {base : Nat} {spare : Nat → Bool} {held : Bool} : Opens enc Tryd.prog w base spare held 3 (fun cs => ∃ n, cs = [i64 n] ∧ -9223372036854775808 ≤ n ∧ n ≤ 9223372036854775807) := op_i64 Tryd.underlying3
theorem op_t28 {H : Type} {enc : TypeId × Value → H} {w : World} {base : Nat} {spare : Nat → Bool} {held : Bool} : Opens enc Tryd.prog w base spare held 28 (fun cs => ∃ xs v, cs = [v] ∧ SlT DG 0 0 xs v w) := op_slice Tryd.underlying28 (by kernel_rfl) (op_t24)
theorem op_t27 {H : Type} {enc : TypeId × Value → H} {w : World} {base : Nat} {spare : Nat → Bool} {held : Bool} : Opens enc Tryd.prog w base spare held 27 (fun cs => ∃ xs v, cs = [v] ∧ SlT DG 0 0 xs v w) := op_slice Tryd.underlying27 (by kernel_rfl) (op_t24)
theorem op_t30 {H : Type} {enc : TypeId × Value → H} {w : World} {base : Nat} {spare : Nat → Bool} {held : Bool} : Opens enc Tryd.prog w base spare held 30 (fun cs => ∃ (a0 : Int), ∃ (a1 : List Dg) (va1 : Value), ∃ (a2 : List Dg) (va2 : Value), cs = [i64 a0, va1, va2] ∧ -9223372036854775808 ≤ a0 ∧ a0 ≤ 9223372036854775807 ∧ SlT DG 0 0 a1 va1 w ∧ SlT DG 0 0 a2 va2 w) := by
  refine op_struct Tryd.underlying30 fun cs hl h => ?_
  obtain ⟨n0, y0, g0⟩ := h 0 _ rfl
  replace g0 : DataW.trod enc Tryd.prog w base spare held n0 3 ((cs.drop 0).take (Tryd.prog.cellsOf 3)) = some y0 := g0
  rw [show Tryd.prog.cellsOf 3 = 1 by kernel_rfl] at g0
  obtain ⟨n1, y1, g1⟩ := h 1 _ rfl
  replace g1 : DataW.trod enc Tryd.prog w base spare held n1 28 ((cs.drop 1).take (Tryd.prog.cellsOf 28)) = some y1 := g1
  rw [show Tryd.prog.cellsOf 28 = 1 by kernel_rfl] at g1
  obtain ⟨n2, y2, g2⟩ := h 2 _ rfl
  replace g2 : DataW.trod enc Tryd.prog w base spare held n2 27 ((cs.drop 2).take (Tryd.prog.cellsOf 27)) = some y2 := g2
  rw [show Tryd.prog.cellsOf 27 = 1 by kernel_rfl] at g2
  rw [show Tryd.prog.cellsOf 30 = 3 by kernel_rfl] at hl
  obtain ⟨c0, c1, c2, rfl⟩ := lenN3 hl
  obtain ⟨a0, e0, pa0_0, pa0_1⟩ := op_t3 _ _ _ g0
  obtain ⟨a1, va1, e1, pa1_0⟩ := op_t28 _ _ _ g1
  obtain ⟨a2, va2, e2, pa2_0⟩ := op_t27 _ _ _ g2
  simp [Dg.cells] at e0 e1 e2
  obtain rfl := e0
  obtain rfl := e1
  obtain rfl := e2
  exact ⟨_, _, _, _, _, rfl, pa0_0, pa0_1, pa1_0, pa2_0⟩
theorem op_t32 {H : Type} {enc : TypeId × Value → H} {w : World} {base : Nat} {spare : Nat → Bool} {held : Bool} : Opens enc Tryd.prog w base spare held 32 (fun cs => ∃ (a0 : Dg), ∃ (a1 : Int), ∃ (a2 : List Dg) (va2 : Value), ∃ (a3 : List Dg) (va3 : Value), cs = [w32 a0.a, w32 a0.b, w32 a0.c, w32 a0.d, i64 a1, va2, va3] ∧ -9223372036854775808 ≤ a1 ∧ a1 ≤ 9223372036854775807 ∧ SlT DG 0 0 a2 va2 w ∧ SlT DG 0 0 a3 va3 w) := by
  refine op_struct Tryd.underlying32 fun cs hl h => ?_
  obtain ⟨n0, y0, g0⟩ := h 0 _ rfl
  replace g0 : DataW.trod enc Tryd.prog w base spare held n0 24 ((cs.drop 0).take (Tryd.prog.cellsOf 24)) = some y0 := g0
  rw [show Tryd.prog.cellsOf 24 = 4 by kernel_rfl] at g0
  obtain ⟨n1, y1, g1⟩ := h 1 _ rfl
  replace g1 : DataW.trod enc Tryd.prog w base spare held n1 30 ((cs.drop 4).take (Tryd.prog.cellsOf 30)) = some y1 := g1
  rw [show Tryd.prog.cellsOf 30 = 3 by kernel_rfl] at g1
  rw [show Tryd.prog.cellsOf 32 = 7 by kernel_rfl] at hl
  obtain ⟨c0, c1, c2, c3, c4, c5, c6, rfl⟩ := lenN7 hl
  obtain ⟨a0, e0⟩ := op_t24 _ _ _ g0
  obtain ⟨a1, a2, va2, a3, va3, e1, pa1_0, pa1_1, pa2_0, pa3_0⟩ := op_t30 _ _ _ g1
  simp [Dg.cells] at e0 e1
  obtain ⟨rfl, rfl, rfl, rfl⟩ := e0
  obtain ⟨rfl, rfl, rfl⟩ := e1
  exact ⟨_, _, _, _, _, _, rfl, pa1_0, pa1_1, pa2_0, pa3_0⟩
theorem op_t38 {H : Type} {enc : TypeId × Value → H} {w : World} {base : Nat} {spare : Nat → Bool} {held : Bool} : Opens enc Tryd.prog w base spare held 38 (fun cs => ∃ (a0 : Dg), ∃ (a1 : Dg), ∃ (a2 : Dg), ∃ (a3 : Dg), ∃ (a4 : Dg), ∃ (a5 : Int), ∃ (a6 : List Dg) (va6 : Value), ∃ (a7 : List Dg) (va7 : Value), ∃ (a8 : Dg), ∃ (a9 : Int), ∃ (a10 : List Dg) (va10 : Value), ∃ (a11 : List Dg) (va11 : Value), cs = [w32 a0.a, w32 a0.b, w32 a0.c, w32 a0.d, w32 a1.a, w32 a1.b, w32 a1.c, w32 a1.d, w32 a2.a, w32 a2.b, w32 a2.c, w32 a2.d, w32 a3.a, w32 a3.b, w32 a3.c, w32 a3.d, w32 a4.a, w32 a4.b, w32 a4.c, w32 a4.d, i64 a5, va6, va7, w32 a8.a, w32 a8.b, w32 a8.c, w32 a8.d, i64 a9, va10, va11] ∧ -9223372036854775808 ≤ a5 ∧ a5 ≤ 9223372036854775807 ∧ SlT DG 0 0 a6 va6 w ∧ SlT DG 0 0 a7 va7 w ∧ -9223372036854775808 ≤ a9 ∧ a9 ≤ 9223372036854775807 ∧ SlT DG 0 0 a10 va10 w ∧ SlT DG 0 0 a11 va11 w) := by
  refine op_struct Tryd.underlying38 fun cs hl h => ?_
  obtain ⟨n0, y0, g0⟩ := h 0 _ rfl
  replace g0 : DataW.trod enc Tryd.prog w base spare held n0 26 ((cs.drop 0).take (Tryd.prog.cellsOf 26)) = some y0 := g0
  rw [show Tryd.prog.cellsOf 26 = 8 by kernel_rfl] at g0
  obtain ⟨n1, y1, g1⟩ := h 1 _ rfl
  replace g1 : DataW.trod enc Tryd.prog w base spare held n1 26 ((cs.drop 8).take (Tryd.prog.cellsOf 26)) = some y1 := g1
  rw [show Tryd.prog.cellsOf 26 = 8 by kernel_rfl] at g1
  obtain ⟨n2, y2, g2⟩ := h 2 _ rfl
  replace g2 : DataW.trod enc Tryd.prog w base spare held n2 32 ((cs.drop 16).take (Tryd.prog.cellsOf 32)) = some y2 := g2
  rw [show Tryd.prog.cellsOf 32 = 7 by kernel_rfl] at g2
  obtain ⟨n3, y3, g3⟩ := h 3 _ rfl
  replace g3 : DataW.trod enc Tryd.prog w base spare held n3 32 ((cs.drop 23).take (Tryd.prog.cellsOf 32)) = some y3 := g3
  rw [show Tryd.prog.cellsOf 32 = 7 by kernel_rfl] at g3
  rw [show Tryd.prog.cellsOf 38 = 30 by kernel_rfl] at hl
  obtain ⟨c0, c1, c2, c3, c4, c5, c6, c7, c8, c9, c10, c11, c12, c13, c14, c15, c16, c17, c18, c19, c20, c21, c22, c23, c24, c25, c26, c27, c28, c29, rfl⟩ := lenN30 hl
  obtain ⟨a0, a1, e0⟩ := op_t26 _ _ _ g0
  obtain ⟨a2, a3, e1⟩ := op_t26 _ _ _ g1
  obtain ⟨a4, a5, a6, va6, a7, va7, e2, pa5_0, pa5_1, pa6_0, pa7_0⟩ := op_t32 _ _ _ g2
  obtain ⟨a8, a9, a10, va10, a11, va11, e3, pa9_0, pa9_1, pa10_0, pa11_0⟩ := op_t32 _ _ _ g3
  simp [Dg.cells] at e0 e1 e2 e3
  obtain ⟨rfl, rfl, rfl, rfl, rfl, rfl, rfl, rfl⟩ := e0
  obtain ⟨rfl, rfl, rfl, rfl, rfl, rfl, rfl, rfl⟩ := e1
  obtain ⟨rfl, rfl, rfl, rfl, rfl, rfl, rfl⟩ := e2
  obtain ⟨rfl, rfl, rfl, rfl, rfl, rfl, rfl⟩ := e3
  exact ⟨_, _, _, _, _, _, _, _, _, _, _, _, _, _, _, _, rfl, pa5_0, pa5_1, pa6_0, pa7_0, pa9_0, pa9_1, pa10_0, pa11_0⟩
end Go.Proofs.YtmmghpbncejfiaaDoor
