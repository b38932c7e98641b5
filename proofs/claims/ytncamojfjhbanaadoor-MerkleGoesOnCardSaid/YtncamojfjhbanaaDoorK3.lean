/- My own calculus: the rules for numbers, strings, addresses, slices, calls. -/
import Derived.Test.YtncamojfjhbanaaDoorK2
namespace Sk
open Go Go.RowKit

abbrev i64 (n : Int) : Value := .int .i64 n
def w8 (x : UInt8) : Value := .int .u8 (x.toNat : Int)
def w32 (x : UInt32) : Value := .int .u32 (x.toNat : Int)
def w64 (x : UInt64) : Value := .int .u64 (x.toNat : Int)
def str (l : List UInt8) : Value := .string ⟨l.toArray⟩

def W32 : Ty UInt32 := ⟨1, fun x => [w32 x], fun _ => rfl, by decide, by intro x u hu; simp at hu; subst hu; rfl⟩
def W8 : Ty UInt8 := ⟨1, fun x => [w8 x], fun _ => rfl, by decide, by intro x u hu; simp at hu; subst hu; rfl⟩
def I64 : Ty Int := ⟨1, fun x => [i64 x], fun _ => rfl, by decide, by intro x u hu; simp at hu; subst hu; rfl⟩
def Str : Ty (List UInt8) := ⟨1, fun x => [str x], fun _ => rfl, by decide, by intro x u hu; simp at hu; subst hu; rfl⟩

/-! Closed facts of a program's types and functions. -/

def FieldIs (P : Program) (s f k : Nat) : Prop := ∃ fields fld n, P.underlying s = some (.struct fields) ∧ fields[f]? = some fld ∧ fld.offset = k ∧ (P.info? fld.type).map (·.size) = some (n + 1)
def RowIs (P : Program) (t n : Nat) : Prop := ∃ D, P.underlying t = some D ∧ D.isRow = true ∧ (P.info? t).map (·.size) = some n
def OneIs (P : Program) (t : Nat) : Prop := ∃ D, P.underlying t = some D ∧ D.isRow = false ∧ (P.info? t).map (·.size) = some 1
def ArrIs (P : Program) (t len e n : Nat) : Prop := P.underlying t = some (.array len e) ∧ (P.info? e).map (·.size) = some n
def SliceIs (P : Program) (t e n : Nat) : Prop := P.underlying t = some (.slice e) ∧ (P.info? e).map (·.size) = some n
def IntIs (P : Program) (t : Nat) (k : IntKind) : Prop := P.underlying t = some (.int k)
def Callable (P : Program) (f : Nat) : Prop := ∃ fn, P.funcs[f]? = some fn ∧ (fn.name == "runtime.NumGoroutine") = false ∧ fn.body.isNone = false

theorem runSz {P : Program} {t n : Nat} (h : (P.info? t).map (·.size) = some n) (w : World) : (Go.sizeOf t).run P w = .ok n w := by
  cases hq : P.info? t with
  | none => simp [hq] at h
  | some i => simp [hq] at h; simp [Go.sizeOf, typeInfo, hq, h]

section
variable {P : Program} {ev : Operand → Value} {w : World} {Ψ : Value → World → Prop} {d : Option Tmp} {ty : TypeId} {pos : String} {af : Array Edge} {g : Option (Nat × Bool)}

/-! Addresses. -/

theorem does_field {s f k : Nat} {x : Operand} {b o o' : Nat} (hf : FieldIs P s f k) (hx : ev x = .pointer (some ⟨b, o, none⟩)) (ho : o + k = o') (h : Ψ (.pointer (some ⟨b, o', none⟩)) w) :
    Does P ev ⟨d, .fieldAddr s x f, ty, pos, af, g⟩ w Ψ := by
  obtain ⟨fields, fld, n, h1, h2, h3, h4⟩ := hf
  refine Does.value (v := .pointer (some ⟨b, o', none⟩)) (w' := w) ?_ h
  simp [execOp, hx, Instr.fieldAt, run_underlying h1, h2, Instr.sureAddr, fieldPlace, runSz h4, Addr.add_mid, h3, ho]

theorem does_indexArr {t len e n : Nat} {x y : Operand} {b o : Nat} {k : IntKind} {i : Int} {o' : Nat} (ha : ArrIs P t len e n) (hx : ev x = .pointer (some ⟨b, o, none⟩)) (hy : ev y = .int k i) (h0 : 0 ≤ i) (h1 : i < len) (ho : o + i.toNat * n = o')
    (h : Ψ (.pointer (some ⟨b, o', none⟩)) w) : Does P ev ⟨d, .indexAddr t x y, ty, pos, af, g⟩ w Ψ := by
  refine Does.value (v := .pointer (some ⟨b, o', none⟩)) (w' := w) ?_ h
  simp [execOp, hx, hy, Instr.indexAt, asIntOf, run_underlying ha.1, Instr.sureAddr, h0, h1, runSz ha.2, Addr.add_mid, ho]

theorem does_indexSl {α : Type} {T : Ty α} {lo hi : Nat} {xs : List α} {t e n : Nat} {x y : Operand} {i : Int} {X : α} (ha : SliceIs P t e n) (hn : T.size = n) (hx : SlT T lo hi xs (ev x) w) (hy : ev y = .int .i64 i) (h0 : 0 ≤ i) (hi' : xs[i.toNat]? = some X)
    (h : ∀ v, PtR lo hi (T.enc X) v w → Ψ v w) : Does P ev ⟨d, .indexAddr t x y, ty, pos, af, g⟩ w Ψ := by
  obtain ⟨a, cap, hv, hc, hr⟩ := hx
  have hlt : i.toNat < xs.length := (List.getElem?_eq_some_iff.1 hi').1
  have hne : xs ≠ [] := by rintro rfl; simp at hlt
  obtain ⟨b, o, ha', h1, h2, h3⟩ := hr.resolve_left hne
  refine Does.value (v := .pointer (some ⟨b, o + i.toNat * n, none⟩)) (w' := w) ?_ (h _ ⟨b, _, rfl, h1, h2, by rw [← hn]; exact h3 _ _ hi'⟩)
  have h4 : i < (xs.length : Int) := by omega
  simp [execOp, hv, hy, ha', Instr.indexAt, asIntOf, run_underlying ha.1, h0, h4, runSz ha.2, Addr.add_mid]

theorem does_loadP {t : TypeId} {x : Operand} {lo hi : Nat} {cs : List Value} {V : Value} (hx : PtR lo hi cs (ev x) w) (ht : RowIs P t cs.length) (hV : V = .agg cs.toArray) (h : Ψ V w) : Does P ev ⟨d, .load t x, ty, pos, af, g⟩ w Ψ := by
  obtain ⟨b, o, hv, _, _, hr⟩ := hx
  obtain ⟨D, h1, h2, h3⟩ := ht
  exact does_load hv hr h1 h2 h3 (hV ▸ h)
theorem does_loadP1 {t : TypeId} {x : Operand} {lo hi : Nat} {V : Value} (hx : PtR lo hi [V] (ev x) w) (ht : OneIs P t) (h : Ψ V w) : Does P ev ⟨d, .load t x, ty, pos, af, g⟩ w Ψ := by
  obtain ⟨b, o, hv, _, _, hr⟩ := hx
  obtain ⟨D, h1, h2, _⟩ := ht
  exact does_load1 hv hr h1 h2 h
/-- A load out of a known block. -/
theorem does_loadH {t e : TypeId} {x : Operand} {b o : Nat} {cs pre mid post : List Value} {V : Value} {n : Nat} (hx : ev x = .pointer (some ⟨b, o, none⟩)) (hb : Has w b e cs) (hc : cs = pre ++ (mid ++ post)) (ho : pre.length = o) (ht : RowIs P t n) (hn : mid.length = n) (hV : V = .agg mid.toArray) (h : Ψ V w) :
    Does P ev ⟨d, .load t x, ty, pos, af, g⟩ w Ψ := by
  obtain ⟨D, h1, h2, h3⟩ := ht
  subst ho; subst hn; subst hV
  exact does_load hx (hb.range pre mid post hc) h1 h2 h3 h
theorem does_loadH1 {t e : TypeId} {x : Operand} {b o : Nat} {cs pre post : List Value} {V : Value} (hx : ev x = .pointer (some ⟨b, o, none⟩)) (hb : Has w b e cs) (hc : cs = pre ++ ([V] ++ post)) (ho : pre.length = o) (ht : OneIs P t) (h : Ψ V w) :
    Does P ev ⟨d, .load t x, ty, pos, af, g⟩ w Ψ := by
  obtain ⟨D, h1, h2, _⟩ := ht
  subst ho
  exact does_load1 hx (hb.range pre [V] post hc) h1 h2 h

/-! Numbers. -/

theorem does_len {α : Type} {T : Ty α} {lo hi : Nat} {xs : List α} {t e n : Nat} {x : Operand} (ha : SliceIs P t e n) (hx : SlT T lo hi xs (ev x) w) (h : Ψ (i64 xs.length) w) :
    Does P ev ⟨d, .call { callee := .builtin .len, args := #[x], argTypes := #[t] }, ty, pos, af, g⟩ w Ψ := by
  obtain ⟨a, cap, hv, hc, hr⟩ := hx
  refine Does.value (v := i64 xs.length) (w' := w) ?_ h
  simp [execOp, resolve, invoke, builtin, hv, Builtin.len_, run_underlying ha.1, goInt]
theorem does_lenStr {t : Nat} {x : Operand} {l : List UInt8} (ht : P.underlying t = some .string) (hx : ev x = str l) (h : Ψ (i64 l.length) w) :
    Does P ev ⟨d, .call { callee := .builtin .len, args := #[x], argTypes := #[t] }, ty, pos, af, g⟩ w Ψ := by
  refine Does.value (v := i64 l.length) (w' := w) ?_ h
  have hs : (⟨l.toArray⟩ : ByteArray).size = l.length := by rw [ByteArray.size]; exact List.size_toArray
  unfold str at hx
  revert hx hs
  generalize (⟨l.toArray⟩ : ByteArray) = s
  intro hx hs
  simp [execOp, resolve, invoke, builtin, hx, Builtin.len_, run_underlying ht, goInt, hs]

theorem does_add {x y : Operand} {t t' : TypeId} {a b r : Int} (hx : ev x = i64 a) (hy : ev y = i64 b) (hr : a + b = r) (h0 : -9223372036854775808 ≤ r) (h1 : r ≤ 9223372036854775807) (h : Ψ (i64 r) w) : Does P ev ⟨d, .binOp .add t x y t', ty, pos, af, g⟩ w Ψ := by
  refine Does.value (v := i64 r) (w' := w) ?_ h
  have : IntKind.i64.wrap (a + b) = r := by rw [hr]; exact IntWalk.i64_in _ ⟨h0, h1⟩
  simp [execOp, hx, hy, eqGuard_add, binOp_add, Op.intArith, this]
theorem does_sub {x y : Operand} {t t' : TypeId} {a b r : Int} (hx : ev x = i64 a) (hy : ev y = i64 b) (hr : a - b = r) (h0 : -9223372036854775808 ≤ r) (h1 : r ≤ 9223372036854775807) (h : Ψ (i64 r) w) : Does P ev ⟨d, .binOp .sub t x y t', ty, pos, af, g⟩ w Ψ := by
  refine Does.value (v := i64 r) (w' := w) ?_ h
  have : IntKind.i64.wrap (a - b) = r := by rw [hr]; exact IntWalk.i64_in _ ⟨h0, h1⟩
  simp [execOp, hx, hy, eqGuard_sub, binOp_sub, Op.intArith, this]
theorem does_mul {x y : Operand} {t t' : TypeId} {a b r : Int} (hx : ev x = i64 a) (hy : ev y = i64 b) (hr : a * b = r) (h0 : -9223372036854775808 ≤ r) (h1 : r ≤ 9223372036854775807) (h : Ψ (i64 r) w) : Does P ev ⟨d, .binOp .mul t x y t', ty, pos, af, g⟩ w Ψ := by
  refine Does.value (v := i64 r) (w' := w) ?_ h
  have : IntKind.i64.wrap (a * b) = r := by rw [hr]; exact IntWalk.i64_in _ ⟨h0, h1⟩
  simp [execOp, hx, hy, eqGuard_mul, binOp_mul, Op.intArith, this]
/-- A remainder of what isn't below 0. -/
theorem does_rem {x y : Operand} {t t' : TypeId} {k : IntKind} {a b r : Int} (hx : ev x = .int k a) (hy : ev y = .int k b) (h0 : 0 ≤ a) (hb : b ≠ 0) (hr : a % b = r) (h : Ψ (.int k r) w) : Does P ev ⟨d, .binOp .rem t x y t', ty, pos, af, g⟩ w Ψ := by
  refine Does.value (v := .int k r) (w' := w) ?_ h
  have : a.tmod b = r := by rw [← hr, Int.tmod_eq_emod_of_nonneg h0]
  simp [execOp, hx, hy, eqGuard_rem, binOp_rem, Op.intDiv, hb, this]
theorem does_quo {x y : Operand} {t t' : TypeId} {a b r : Int} (hx : ev x = i64 a) (hy : ev y = i64 b) (h0 : 0 ≤ a) (hb : 1 ≤ b) (hr : a / b = r) (h1 : r ≤ 9223372036854775807) (h : Ψ (i64 r) w) : Does P ev ⟨d, .binOp .quo t x y t', ty, pos, af, g⟩ w Ψ := by
  refine Does.value (v := i64 r) (w' := w) ?_ h
  have hne : b ≠ 0 := by omega
  have h2 : 0 ≤ r := by rw [← hr]; exact Int.ediv_nonneg h0 (by omega)
  have : IntKind.i64.wrap (a.tdiv b) = r := by rw [Int.tdiv_eq_ediv_of_nonneg h0, hr]; exact IntWalk.i64_in _ ⟨by omega, h1⟩
  simp [execOp, hx, hy, eqGuard_quo, binOp_quo, Op.intDiv, hne, this]

theorem does_lss {x y : Operand} {t t' : TypeId} {k : IntKind} {a b : Int} (hx : ev x = .int k a) (hy : ev y = .int k b) (h : Ψ (.bool (decide (a < b))) w) : Does P ev ⟨d, .binOp .lss t x y t', ty, pos, af, g⟩ w Ψ := by
  refine Does.value (w' := w) ?_ h
  simp [execOp, hx, hy, eqGuard_lss, binOp_lss]
theorem does_leq {x y : Operand} {t t' : TypeId} {k : IntKind} {a b : Int} (hx : ev x = .int k a) (hy : ev y = .int k b) (h : Ψ (.bool (decide (a ≤ b))) w) : Does P ev ⟨d, .binOp .leq t x y t', ty, pos, af, g⟩ w Ψ := by
  refine Does.value (w' := w) ?_ h
  simp [execOp, hx, hy, eqGuard_leq, binOp_leq]
theorem does_gtr {x y : Operand} {t t' : TypeId} {k : IntKind} {a b : Int} (hx : ev x = .int k a) (hy : ev y = .int k b) (h : Ψ (.bool (decide (b < a))) w) : Does P ev ⟨d, .binOp .gtr t x y t', ty, pos, af, g⟩ w Ψ := by
  refine Does.value (w' := w) ?_ h
  simp [execOp, hx, hy, eqGuard_gtr, binOp_gtr]
theorem does_geq {x y : Operand} {t t' : TypeId} {k : IntKind} {a b : Int} (hx : ev x = .int k a) (hy : ev y = .int k b) (h : Ψ (.bool (decide (b ≤ a))) w) : Does P ev ⟨d, .binOp .geq t x y t', ty, pos, af, g⟩ w Ψ := by
  refine Does.value (w' := w) ?_ h
  simp [execOp, hx, hy, eqGuard_geq, binOp_geq]
theorem int_beq (a b : Int) : (a == b) = decide (a = b) := by by_cases h : a = b <;> simp [h]
theorem does_eql {x y : Operand} {t t' : TypeId} {k : IntKind} {a b : Int} (hx : ev x = .int k a) (hy : ev y = .int k b) (h : Ψ (.bool (decide (a = b))) w) : Does P ev ⟨d, .binOp .eql t x y t', ty, pos, af, g⟩ w Ψ := by
  refine Does.value (w' := w) ?_ h
  simp [execOp, hx, hy, eqGuard_at_int, binOp_eql, int_beq]
theorem does_neq {x y : Operand} {t t' : TypeId} {k : IntKind} {a b : Int} (hx : ev x = .int k a) (hy : ev y = .int k b) (h : Ψ (.bool (!decide (a = b))) w) : Does P ev ⟨d, .binOp .neq t x y t', ty, pos, af, g⟩ w Ψ := by
  refine Does.value (w' := w) ?_ h
  simp [execOp, hx, hy, eqGuard_at_int, binOp_neq, bne, int_beq]
theorem does_cat {x y : Operand} {t t' : TypeId} {a b : List UInt8} (hx : ev x = str a) (hy : ev y = str b) (hl : a.length + b.length ≤ 9223372036854775807) (h : Ψ (str (a ++ b)) w) : Does P ev ⟨d, .binOp .add t x y t', ty, pos, af, g⟩ w Ψ := by
  refine Does.value (v := str (a ++ b)) (w' := w) ?_ h
  have hs : ¬ ((((⟨a.toArray⟩ : ByteArray).size + (⟨b.toArray⟩ : ByteArray).size : Nat) : Int) > IntKind.i64.max) := by
    have e : IntKind.i64.max = 9223372036854775807 := by decide
    rw [e]
    simp only [ByteArray.size, List.size_toArray]
    omega
  have he : (⟨a.toArray⟩ : ByteArray) ++ ⟨b.toArray⟩ = ⟨(a ++ b).toArray⟩ := by
    apply ByteArray.ext
    rw [ByteArray.data_append]
    simp
  simp only [execOp, hx, hy, str, eqGuard_add, binOp, Op.stringOp, if_neg hs, he]
  rfl

/-! Words. -/

theorem wrap_u32 (n : Nat) : IntKind.u32.wrap (n : Int) = ((UInt32.ofNat n).toNat : Int) := by
  simp [IntKind.wrap, IntKind.signed, IntKind.bits, UInt32.toNat_ofNat']

theorem wrap_u8 (n : Nat) : IntKind.u8.wrap (n : Int) = ((UInt8.ofNat n).toNat : Int) := by
  simp [IntKind.wrap, IntKind.signed, IntKind.bits, UInt8.toNat_ofNat']
theorem wrap_u64 (n : Nat) : IntKind.u64.wrap (n : Int) = ((UInt64.ofNat n).toNat : Int) := by
  simp [IntKind.wrap, IntKind.signed, IntKind.bits, UInt64.toNat_ofNat']

theorem does_add32 {x y : Operand} {t t' : TypeId} {a b : UInt32} (hx : ev x = w32 a) (hy : ev y = w32 b) (h : Ψ (w32 (a + b)) w) : Does P ev ⟨d, .binOp .add t x y t', ty, pos, af, g⟩ w Ψ := by
  refine Does.value (v := w32 (a + b)) (w' := w) ?_ h
  have : IntKind.u32.wrap ((a.toNat : Int) + (b.toNat : Int)) = ((a + b).toNat : Int) := by
    rw [← Int.natCast_add, wrap_u32]; simp [UInt32.toNat_add]
  simp [execOp, hx, hy, w32, eqGuard_add, binOp_add, Op.intArith, this]
theorem does_mul32 {x y : Operand} {t t' : TypeId} {a b : UInt32} (hx : ev x = w32 a) (hy : ev y = w32 b) (h : Ψ (w32 (a * b)) w) : Does P ev ⟨d, .binOp .mul t x y t', ty, pos, af, g⟩ w Ψ := by
  refine Does.value (v := w32 (a * b)) (w' := w) ?_ h
  have : IntKind.u32.wrap ((a.toNat : Int) * (b.toNat : Int)) = ((a * b).toNat : Int) := by
    rw [← Int.natCast_mul, wrap_u32]; simp [UInt32.toNat_mul]
  simp [execOp, hx, hy, w32, eqGuard_mul, binOp_mul, Op.intArith, this]
theorem does_xor32 {x y : Operand} {t t' : TypeId} {a b : UInt32} (hx : ev x = w32 a) (hy : ev y = w32 b) (h : Ψ (w32 (a ^^^ b)) w) : Does P ev ⟨d, .binOp .xor t x y t', ty, pos, af, g⟩ w Ψ := by
  refine Does.value (v := w32 (a ^^^ b)) (w' := w) ?_ h
  have e : ((BitVec.ofInt 32 (a.toNat : Int)) ^^^ (BitVec.ofInt 32 (b.toNat : Int))).toNat = a.toNat ^^^ b.toNat := by
    rw [BitVec.toNat_xor, BitVec.ofInt_natCast, BitVec.ofInt_natCast, BitVec.toNat_ofNat, BitVec.toNat_ofNat, Nat.mod_eq_of_lt a.toNat_lt, Nat.mod_eq_of_lt b.toNat_lt]
  have e2 : (bits .xor .u32 (a.toNat : Int) (b.toNat : Int) : Int) = ((a ^^^ b).toNat : Int) := by
    show IntKind.u32.wrap (((BitVec.ofInt 32 (a.toNat : Int)) ^^^ (BitVec.ofInt 32 (b.toNat : Int))).toNat : Int) = _
    rw [e, wrap_u32, ← UInt32.toNat_xor, UInt32.ofNat_toNat]
  simp only [execOp, hx, hy, w32, eqGuard_xor, binOp_xor, intBits_xor, e2]
  rfl

/-- A conversion of whole numbers. -/
theorem does_conv {s t : TypeId} {k k' : IntKind} {x : Operand} {n r : Int} (hs : ∃ D, P.underlying s = some D) (ht : P.underlying t = some (.int k')) (hx : ev x = .int k n) (hr : k'.wrap n = r) (h : Ψ (.int k' r) w) : Does P ev ⟨d, .convert s t x, ty, pos, af, g⟩ w Ψ := by
  obtain ⟨D, hs⟩ := hs
  refine Does.value (v := .int k' r) (w' := w) ?_ h
  have : (convert s t (.int k n)).run P w = .ok (.int k' r) w := by
    simp only [convert, Sem.run_bind, run_underlying hs, run_underlying ht, Result.andThen_ok, Conv.intToInt]
    rw [hr]; rfl
  simp [execOp, hx, this]

/-! Shifts by what is known. -/
theorem does_shr {x y : Operand} {t t' : TypeId} {k k' : IntKind} {a b r : Int} (hx : ev x = .int k a) (hy : ev y = .int k' b) (h0 : 0 ≤ b) (h1 : b ≤ k.bits) (hr : a / 2 ^ b.toNat = r) (h : Ψ (.int k r) w) : Does P ev ⟨d, .binOp .shr t x y t', ty, pos, af, g⟩ w Ψ := by
  refine Does.value (v := .int k r) (w' := w) ?_ h
  simp [execOp, hx, hy, eqGuard_shr, binOp_shr, shift_shr k k' a b h0 h1, hr]
theorem does_shl {x y : Operand} {t t' : TypeId} {k k' : IntKind} {a b r : Int} (hx : ev x = .int k a) (hy : ev y = .int k' b) (h0 : 0 ≤ b) (h1 : b ≤ k.bits) (hr : k.wrap (a * 2 ^ b.toNat) = r) (h : Ψ (.int k r) w) : Does P ev ⟨d, .binOp .shl t x y t', ty, pos, af, g⟩ w Ψ := by
  refine Does.value (v := .int k r) (w' := w) ?_ h
  simp [execOp, hx, hy, eqGuard_shl, binOp_shl, shift_shl k k' a b h0 h1, hr]

/-! Slices. -/

theorem SlT.drop {α : Type} {T : Ty α} {lo hi : Nat} {xs : List α} {a : Option Addr} {cap : Nat} (hc : xs.length ≤ cap) (hr : xs = [] ∨ ∃ b o, a = some ⟨b, o, none⟩ ∧ lo ≤ b ∧ Under b hi ∧ ∀ (i : Nat) (x : α), xs[i]? = some x → w.rangeAt b (o + i * T.size) (T.enc x))
    (l h m : Nat) (hl : l ≤ h) (hh : h ≤ xs.length) (hm : h ≤ m) : SlT T lo hi ((xs.take h).drop l) (sliced a l h m T.size) w := by
  have hlen : ((xs.take h).drop l).length = h - l := by simp; omega
  refine ⟨_, m - l, by rw [hlen]; rfl, by rw [hlen]; omega, ?_⟩
  by_cases e : l = h
  · left; exact List.length_eq_zero_iff.1 (by omega)
  · right
    have hne : xs ≠ [] := by rintro rfl; simp at hh; omega
    obtain ⟨b, o, ha, h1, h2, h3⟩ := hr.resolve_left hne
    refine ⟨b, o + l * T.size, ?_, h1, h2, fun i x hx => ?_⟩
    · rw [if_neg (by omega), ha]; simp [Addr.add_mid]
    · rw [List.getElem?_drop, List.getElem?_take] at hx
      split at hx
      · have := h3 _ _ hx
        rwa [Nat.add_mul, ← Nat.add_assoc] at this
      · cases hx

theorem does_sliceHi {α : Type} {T : Ty α} {lo hi : Nat} {xs : List α} {t e n : Nat} {x y : Operand} {k : Int} (ha : SliceIs P t e n) (hn : T.size = n) (hx : SlT T lo hi xs (ev x) w) (hy : ev y = i64 k) (h0 : 0 ≤ k) (h1 : k.toNat ≤ xs.length)
    (h : ∀ v, SlT T lo hi (xs.take k.toNat) v w → Ψ v w) : Does P ev ⟨d, .slice t x none (some y) none, ty, pos, af, g⟩ w Ψ := by
  obtain ⟨a, cap, hv, hc, hr⟩ := hx
  refine Does.value (v := sliced a 0 k.toNat cap n) (w' := w) ?_ (h _ ?_)
  · have ht : P.underlying t = some (.slice (P.elem t)) := by
      have := ha.1; simp [Program.elem, this]
    have he : P.elem t = e := by have := ha.1; simp [Program.elem, this]
    simp only [execOp, hv, Option.map_none, Option.map_some, hy, Sem.run_bind]
    rw [run_sliceAt_slice w t _ _ _ _ ht, run_slice_h w t a _ cap ht .i64 k h0 (by omega), he, runSz ha.2]
    rfl
  · have := SlT.drop (w := w) hc hr 0 k.toNat cap (Nat.zero_le _) h1 (by omega)
    rw [List.drop_zero, hn] at this
    exact this
theorem does_sliceLo {α : Type} {T : Ty α} {lo hi : Nat} {xs : List α} {t e n : Nat} {x y : Operand} {k : Int} (ha : SliceIs P t e n) (hn : T.size = n) (hx : SlT T lo hi xs (ev x) w) (hy : ev y = i64 k) (h0 : 0 ≤ k) (h1 : k.toNat ≤ xs.length)
    (h : ∀ v, SlT T lo hi (xs.drop k.toNat) v w → Ψ v w) : Does P ev ⟨d, .slice t x (some y) none none, ty, pos, af, g⟩ w Ψ := by
  obtain ⟨a, cap, hv, hc, hr⟩ := hx
  refine Does.value (v := sliced a k.toNat xs.length cap n) (w' := w) ?_ (h _ ?_)
  · have ht : P.underlying t = some (.slice (P.elem t)) := by
      have := ha.1; simp [Program.elem, this]
    have he : P.elem t = e := by have := ha.1; simp [Program.elem, this]
    simp only [execOp, hv, Option.map_none, Option.map_some, hy, Sem.run_bind]
    rw [run_sliceAt_slice w t _ _ _ _ ht, run_slice_l w t a _ cap ht .i64 k h0 (by omega), he, runSz ha.2]
    rfl
  · have := SlT.drop (w := w) hc hr k.toNat xs.length cap h1 (Nat.le_refl _) hc
    rw [List.take_length, hn] at this
    exact this
/-! Strings. -/
theorem does_indexStr {t : Nat} {x y : Operand} {l : List UInt8} {i : Int} {c : UInt8} (ht : P.underlying t = some .string) (hx : ev x = str l) (hy : ev y = i64 i) (h0 : 0 ≤ i) (hc : l[i.toNat]? = some c) (h : Ψ (w8 c) w) : Does P ev ⟨d, .index t x y, ty, pos, af, g⟩ w Ψ := by
  refine Does.value (v := w8 c) (w' := w) ?_ h
  have hg : (⟨l.toArray⟩ : ByteArray)[i.toNat]? = some c := by
    rw [← hc]
    have hlt : i.toNat < l.length := (List.getElem?_eq_some_iff.1 hc).1
    rw [List.getElem?_eq_getElem hlt, getElem?_pos (⟨l.toArray⟩ : ByteArray) i.toNat (by simp [ByteArray.size]; exact hlt)]
    rfl
  unfold str at hx
  revert hx hg
  generalize (⟨l.toArray⟩ : ByteArray) = s
  intro hx hg
  simp [execOp, hx, hy, Instr.index, asIntOf, run_underlying ht, h0, hg, w8]
theorem str_extract (l : List UInt8) (a b : Nat) : (⟨l.toArray⟩ : ByteArray).extract a b = ⟨((l.take b).drop a).toArray⟩ := by
  apply ByteArray.ext
  rw [ByteArray.data_extract]
  simp [List.drop_take]
theorem does_strLo {t : Nat} {x y : Operand} {l : List UInt8} {k : Int} (ht : P.underlying t = some .string) (hx : ev x = str l) (hy : ev y = i64 k) (h0 : 0 ≤ k) (h1 : k.toNat ≤ l.length) (h : Ψ (str (l.drop k.toNat)) w) : Does P ev ⟨d, .slice t x (some y) none none, ty, pos, af, g⟩ w Ψ := by
  refine Does.value (v := str (l.drop k.toNat)) (w' := w) ?_ h
  have hs : (⟨l.toArray⟩ : ByteArray).size = l.length := by rw [ByteArray.size]; exact List.size_toArray
  have he : (⟨l.toArray⟩ : ByteArray).extract k.toNat l.length = ⟨(l.drop k.toNat).toArray⟩ := by rw [str_extract, List.take_length]
  simp only [execOp, hx, str, Option.map_none, Option.map_some, hy, Sem.run_bind]
  rw [run_sliceAt_string w t _ _ _ _ ht]
  have h2 : (k : Int) ≤ ((⟨l.toArray⟩ : ByteArray).size : Int) := by rw [hs]; omega
  rw [run_slice_string_l w t _ ht .i64 k h0 h2, hs, he]
  rfl

/-! Calls. -/
theorem run_callFunc {f : Nat} (hf : Callable P f) (args : Array Value) : (callFunc f args).run P w = .ok (.enter f args) w := by
  obtain ⟨fn, h1, h2, h3⟩ := hf
  have hp : (program).run P w = .ok P w := rfl
  simp only [callFunc, Sem.run_bind, hp, Result.andThen_ok, h1, h2, h3, Bool.false_eq_true, if_false]
  rfl
theorem does_call {f : Nat} {xs : Array Operand} {ts : Array TypeId} {vs : Array Value} (hf : Callable P f) (hx : xs.map ev = vs) (hfun : ev (.func f) = .func (.func f) #[] #[]) (h : Calls P f vs w (fun e w' => ∃ v, e = .returned v ∧ Ψ v w')) :
    Does P ev ⟨d, .call { callee := .value (.func f), args := xs, argTypes := ts }, ty, pos, af, g⟩ w Ψ := by
  refine Does.enter (f := f) (args := vs) (w' := w) ?_ h
  simp [execOp, resolve, Deferred.ofValue, hfun, hx, invoke, run_callFunc hf]
end
end Sk
