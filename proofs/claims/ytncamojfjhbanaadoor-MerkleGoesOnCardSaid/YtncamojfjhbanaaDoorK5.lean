/- How digests and the structs of them lie in values and in memory; when two are one. -/
import Derived.Test.YtncamojfjhbanaaDoorK4
import Derived.Test.YtncamojfjhbanaaDoorP4
namespace Sd
open Go Go.RowKit Sk

def Dg.cells (d : Dg) : List Value := [w32 d.a, w32 d.b, w32 d.c, w32 d.d]
def Dg.val (d : Dg) : Value := .agg (Dg.cells d).toArray
def DG : Ty Dg := ⟨4, Dg.cells, fun _ => rfl, by decide, by
  intro x u hu
  simp only [Dg.cells, List.mem_cons, List.not_mem_nil, or_false] at hu
  rcases hu with rfl | rfl | rfl | rfl <;> rfl⟩

/-- A pair of digests, an array of two. -/
def twoCells (x : Two) : List Value := Dg.cells x.1 ++ Dg.cells x.2
def twoVal (x : Two) : Value := .agg (twoCells x).toArray

structure Head where
  size : Int
  root : Dg
theorem Head.ext_iff' {x y : Head} : x = y ↔ x.size = y.size ∧ x.root = y.root := by
  cases x; cases y; simp
instance : DecidableEq Head := fun x y => decidable_of_iff (x.size = y.size ∧ x.root = y.root) Head.ext_iff'.symm
def Head.cells (h : Head) : List Value := i64 h.size :: Dg.cells h.root
def Head.val (h : Head) : Value := .agg (Head.cells h).toArray

structure Link where
  recipe : Dg
  out : Dg
theorem Link.ext_iff' {x y : Link} : x = y ↔ x.recipe = y.recipe ∧ x.out = y.out := by
  cases x; cases y; simp
instance : DecidableEq Link := fun x y => decidable_of_iff (x.recipe = y.recipe ∧ x.out = y.out) Link.ext_iff'.symm
def Link.cells (h : Link) : List Value := Dg.cells h.recipe ++ Dg.cells h.out
def Link.val (h : Link) : Value := .agg (Link.cells h).toArray
def LK : Ty Link := ⟨8, Link.cells, fun _ => rfl, by decide, by
  intro x u hu
  simp only [Link.cells, Dg.cells, List.mem_append, List.mem_cons, List.not_mem_nil, or_false] at hu
  rcases hu with (rfl | rfl | rfl | rfl) | rfl | rfl | rfl | rfl <;> rfl⟩

structure Signer where
  seed : Dg
  height : Int
  next : Int
theorem Signer.ext_iff' {x y : Signer} : x = y ↔ x.seed = y.seed ∧ x.height = y.height ∧ x.next = y.next := by
  cases x; cases y; simp
instance : DecidableEq Signer := fun x y => decidable_of_iff (x.seed = y.seed ∧ x.height = y.height ∧ x.next = y.next) Signer.ext_iff'.symm
def Signer.cells (h : Signer) : List Value := Dg.cells h.seed ++ [i64 h.height, i64 h.next]
def Signer.val (h : Signer) : Value := .agg (Signer.cells h).toArray

theorem w32_inj {a b : UInt32} : ((a.toNat : Int) == (b.toNat : Int)) = decide (a = b) := by
  by_cases h : a = b
  · subst h; simp
  · have : ¬ (a.toNat : Int) = (b.toNat : Int) := fun e => h (UInt32.toNat_inj.1 (by omega))
    simp [h, this]

section
variable {P : Program} {w : World}

theorem run_isAgg {t : Nat} {D : TypeDesc} (h : P.underlying t = some D) (w : World) : (isAgg t).run P w = .ok D.isRow w := by
  unfold isAgg
  rw [Sem.run_bind, run_underlying h w]
  cases D <;> rfl

theorem equalIn_dg {t e : Nat} (n : Nat) (ht : P.underlying t = some (.array 4 e)) (he : P.underlying e = some (.int .u32)) (hs : (P.info? e).map (·.size) = some 1) (a b : Dg) :
    (Op.equalIn (n + 2) t a.val b.val).run P w = .ok (decide (a = b)) w := by
  have hsz := runSz hs w
  have hagg : (isAgg e).run P w = .ok false w := run_isAgg he w
  have heq : ∀ x y : UInt32, (Op.equalIn (n + 1) e (w32 x) (w32 y)).run P w = .ok (decide (x = y)) w := by
    intro x y
    have := run_equalIn_int (P := P) w n e .u32 .u32 (x.toNat : Int) (y.toNat : Int) he
    rw [w32_inj] at this
    exact this
  rw [Op.equalIn]
  simp only [Dg.val, Dg.cells, Sem.run_bind, run_underlying ht, Result.andThen_ok, hsz]
  simp [part, hagg, heq, Std.Legacy.Range.forIn_eq_forIn_range', List.range', Std.Legacy.Range.size]
  rw [show decide (a = b) = decide (a.a = b.a ∧ a.b = b.b ∧ a.c = b.c ∧ a.d = b.d) from decide_eq_decide.2 Dg.ext_iff']
  by_cases h1 : a.a = b.a <;> by_cases h2 : a.b = b.b <;> by_cases h3 : a.c = b.c <;> by_cases h4 : a.d = b.d <;> simp [h1, h2, h3, h4]

/-- All closed facts on the type of digests. -/
def DgIs (P : Program) (t e : Nat) : Prop := P.underlying t = some (.array 4 e) ∧ P.underlying e = some (.int .u32) ∧ (P.info? e).map (·.size) = some 1 ∧ (P.info? t).map (·.size) = some 4

theorem eq_dg {t e : Nat} (h : DgIs P t e) (hg : P.eqGuardType P.depth t = false) : EqIs P t Dg.val :=
  ⟨fun a b _ => equalIn_dg 9998 h.1 h.2.1 h.2.2.1 a b, fun _ => ⟨_, rfl⟩, hg⟩

/-- A struct whose fields are told one by one. -/
def StructIs (P : Program) (t : Nat) (fs : List (Nat × Nat)) : Prop := P.underlying t = some (.struct (P.fieldsOf t)) ∧ P.stoodInHeld t = false ∧ (P.fieldsOf t).toList.map (fun f => (f.type, f.offset)) = fs ∧ (P.fieldsOf t).toList.all (fun f => f.name != "_") = true

end
end Sd
