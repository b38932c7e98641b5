/- Words of 32 bits: what shifts, masks and turns come to; the package's variable. -/
import Derived.Test.YtncamojfjhbanaaDoorK9
namespace Sd
open Go Go.RowKit Sk

/-- The package's variable: as its initialiser laid it. -/
def Laid (w : World) : Prop := w.rangeAt 0 0 [i64 7, i64 9, i64 13, i64 18]
theorem Laid.ext {w w' : World} (h : Laid w) (k : Ext w w') : Laid w' := range_ext h k (.inr fun h => h)

def St.val (s : St) : Value := .agg #[w32 s.a, w32 s.b, w32 s.c, w32 s.d, w32 s.e, w32 s.f, w32 s.g, w32 s.h]

theorem and31 {n : Nat} (h : n < 32) : bits .and .u64 (((UInt64.ofNat n).toNat : Nat) : Int) 31 = (n : Int) := by
  have : ∀ n : Fin 32, bits .and .u64 (((UInt64.ofNat n.1).toNat : Nat) : Int) 31 = (n.1 : Int) := by decide
  exact this ⟨n, h⟩
theorem shl_u32 (x : UInt32) (n : Nat) : IntKind.u32.wrap ((x.toNat : Int) * 2 ^ ((n : Int).toNat)) = ((UInt32.ofNat (x.toNat * 2 ^ n)).toNat : Int) := by
  rw [Int.toNat_natCast, ← wrap_u32]
  simp
theorem shr_u32 (x : UInt32) (n : Nat) : (x.toNat : Int) / 2 ^ ((n : Int).toNat) = ((UInt32.ofNat (x.toNat / 2 ^ n)).toNat : Int) := by
  have := x.toNat_lt
  have h2 : x.toNat / 2 ^ n ≤ x.toNat := Nat.div_le_self _ _
  rw [Int.toNat_natCast, UInt32.toNat_ofNat', Nat.mod_eq_of_lt (by omega)]
  simp
theorem shr_u64 (x : UInt64) (n : Nat) : (x.toNat : Int) / 2 ^ ((n : Int).toNat) = ((UInt64.ofNat (x.toNat / 2 ^ n)).toNat : Int) := by
  have := x.toNat_lt
  have h2 : x.toNat / 2 ^ n ≤ x.toNat := Nat.div_le_self _ _
  rw [Int.toNat_natCast, UInt64.toNat_ofNat', Nat.mod_eq_of_lt (by omega)]
  simp
theorem bor_u32 (a b : UInt32) : bits .or .u32 (a.toNat : Int) (b.toNat : Int) = ((a ||| b).toNat : Int) := by
  have e : ((BitVec.ofInt 32 (a.toNat : Int)) ||| (BitVec.ofInt 32 (b.toNat : Int))).toNat = a.toNat ||| b.toNat := by
    rw [BitVec.toNat_or, BitVec.ofInt_natCast, BitVec.ofInt_natCast, BitVec.toNat_ofNat, BitVec.toNat_ofNat, Nat.mod_eq_of_lt a.toNat_lt, Nat.mod_eq_of_lt b.toNat_lt]
  show IntKind.u32.wrap (((BitVec.ofInt 32 (a.toNat : Int)) ||| (BitVec.ofInt 32 (b.toNat : Int))).toNat : Int) = _
  rw [e, wrap_u32, ← UInt32.toNat_or, UInt32.ofNat_toNat]
theorem rot_or (x : UInt32) {n : Nat} (h : n < 32) : UInt32.ofNat (x.toNat * 2 ^ n) ||| UInt32.ofNat (x.toNat / 2 ^ (32 - n)) = rot x n := by
  have hx := x.toNat_lt
  apply UInt32.toNat_inj.1
  have hp : 0 < 2 ^ n := Nat.two_pow_pos n
  have hq : 0 < 2 ^ (32 - n) := Nat.two_pow_pos _
  have hpq : 2 ^ n * 2 ^ (32 - n) = 4294967296 := by rw [← Nat.pow_add, show n + (32 - n) = 32 by omega]
  have hlt : x.toNat / 2 ^ (32 - n) < 2 ^ n := by rw [Nat.div_lt_iff_lt_mul hq, hpq]; exact hx
  have hm : x.toNat * 2 ^ n % 4294967296 = 2 ^ n * (x.toNat % 2 ^ (32 - n)) := by
    rw [← hpq, Nat.mul_comm x.toNat, Nat.mul_mod_mul_left]
  have hle : x.toNat / 2 ^ (32 - n) ≤ x.toNat := Nat.div_le_self _ _
  have h1 : x.toNat % 2 ^ (32 - n) + 1 ≤ 2 ^ (32 - n) := Nat.mod_lt _ hq
  have h2 := Nat.mul_le_mul_left (2 ^ n) h1
  rw [Nat.mul_add, hpq] at h2
  have hor : x.toNat * 2 ^ n % 4294967296 ||| x.toNat / 2 ^ (32 - n) = x.toNat * 2 ^ n % 4294967296 + x.toNat / 2 ^ (32 - n) := by
    rw [hm, Nat.two_pow_add_eq_or_of_lt hlt]
  have hs : x.toNat * 2 ^ n % 4294967296 + x.toNat / 2 ^ (32 - n) < 4294967296 := by
    rw [hm]
    omega
  rw [rot, UInt32.toNat_or, UInt32.toNat_ofNat', UInt32.toNat_ofNat', UInt32.toNat_ofNat', Nat.mod_eq_of_lt (show x.toNat / 2 ^ (32 - n) < 2 ^ 32 by omega)]
  show x.toNat * 2 ^ n % 4294967296 ||| _ = _ % 4294967296
  rw [hor, Nat.mod_eq_of_lt hs]

/-- One place further. -/
def spun (x n : Nat) : Nat := x * 2 ^ n % 4294967296 + x / 2 ^ (32 - n)
theorem spun_zero {x : Nat} (h : x < 4294967296) : spun x 0 = x := by unfold spun; omega
theorem spun_lt {x n : Nat} (hx : x < 4294967296) : spun x n < 4294967296 + 4294967296 := by
  unfold spun
  have : x / 2 ^ (32 - n) ≤ x := Nat.div_le_self _ _
  omega
set_option maxRecDepth 4000 in
theorem spun_step {x n : Nat} (hx : x < 4294967296) (h : n < 32) : 2 * spun x n % 4294967296 + spun x n / 2147483648 = spun x (n + 1) := by
  unfold spun
  have hq : 0 < 2 ^ (31 - n) := Nat.two_pow_pos _
  have hpq : 2 ^ n * 2 ^ (31 - n) = 2147483648 := by rw [← Nat.pow_add, show n + (31 - n) = 31 by omega]
  have e32 : 2 ^ (32 - n) = 2 * 2 ^ (31 - n) := by rw [show 32 - n = (31 - n) + 1 by omega, Nat.pow_succ, Nat.mul_comm]
  have e1 : 2 ^ (n + 1) = 2 * 2 ^ n := by rw [Nat.pow_succ, Nat.mul_comm]
  have hp : 0 < 2 ^ n := Nat.two_pow_pos n
  rw [show 32 - (n + 1) = 31 - n by omega, e1, e32]
  generalize hP : 2 ^ n = p at *
  generalize hQ : 2 ^ (31 - n) = q at *
  -- x = b * (2 q) + c * q + r
  obtain ⟨b, c, r, hx', hc, hr⟩ : ∃ b c r, x = b * (2 * q) + c * q + r ∧ c < 2 ∧ r < q := by
    refine ⟨x / (2 * q), x % (2 * q) / q, x % q, ?_, ?_, Nat.mod_lt _ hq⟩
    · have h1 := Nat.div_add_mod x (2 * q)
      have h2 := Nat.div_add_mod (x % (2 * q)) q
      have h3 : x % (2 * q) % q = x % q := Nat.mod_mod_of_dvd _ ⟨2, Nat.mul_comm _ _⟩
      rw [Nat.mul_comm (x / (2 * q)), Nat.mul_comm (x % (2 * q) / q), ← h3]
      omega
    · rw [Nat.div_lt_iff_lt_mul hq]; exact Nat.mod_lt _ (by omega)
  have hdiv : x / (2 * q) = b := by
    rw [hx', show b * (2 * q) + c * q + r = (c * q + r) + (2 * q) * b by rw [Nat.mul_comm b]; omega, Nat.add_mul_div_left _ _ (by omega), Nat.div_eq_of_lt, Nat.zero_add]
    have : c * q ≤ 1 * q := Nat.mul_le_mul_right q (by omega)
    omega
  have hdiv2 : x / q = 2 * b + c := by
    rw [hx', show b * (2 * q) + c * q + r = r + q * (2 * b + c) by rw [Nat.mul_add, Nat.mul_comm b, Nat.mul_comm c, Nat.mul_assoc, Nat.mul_left_comm q 2 b]; omega, Nat.add_mul_div_left _ _ hq, Nat.div_eq_of_lt hr, Nat.zero_add]
  have hb : b < p := by
    apply Classical.byContradiction
    intro hn
    have h1 := Nat.mul_le_mul (show p ≤ b by omega) (Nat.le_refl (2 * q))
    rw [Nat.mul_left_comm, hpq] at h1
    omega
  have hmod : x * p % 4294967296 = c * 2147483648 + r * p := by
    have e : x * p = (c * 2147483648 + r * p) + 4294967296 * b := by
      rw [hx', Nat.add_mul, Nat.add_mul, ← hpq]
      have h1 : b * (2 * q) * p = 4294967296 * b := by
        rw [show (4294967296 : Nat) = 2 * (p * q) by omega]
        rw [Nat.mul_assoc, Nat.mul_assoc, Nat.mul_comm q p, Nat.mul_comm b]
      have h2 : c * q * p = c * (p * q) := by rw [Nat.mul_assoc, Nat.mul_comm q p]
      omega
    rw [e, Nat.add_mul_mod_self_left]
    apply Nat.mod_eq_of_lt
    have h1 : r * p ≤ (q - 1) * p := Nat.mul_le_mul_right p (by omega)
    rw [Nat.sub_mul, Nat.one_mul, Nat.mul_comm q p, hpq] at h1
    have : c * 2147483648 ≤ 1 * 2147483648 := Nat.mul_le_mul_right _ (by omega)
    omega
  have hrp : r * p + p ≤ 2147483648 := by
    have h1 : (r + 1) * p ≤ q * p := Nat.mul_le_mul_right p (by omega)
    rw [Nat.mul_comm q p, hpq, Nat.add_mul, Nat.one_mul] at h1
    exact h1
  rw [Nat.mul_left_comm x 2 p, hdiv, hdiv2]
  have hmod2 : 2 * (x * p) % 4294967296 = 2 * (r * p) := by
    have : 2 * (x * p) = 2 * (x * p % 4294967296) + 4294967296 * (2 * (x * p / 4294967296)) := by
      have := Nat.div_add_mod (x * p) 4294967296
      omega
    rw [this, Nat.add_mul_mod_self_left, hmod]
    omega
  rw [hmod2, hmod]
  have hcc : c = 0 ∨ c = 1 := by omega
  rcases hcc with rfl | rfl <;> omega
theorem wrap64_in {r : Int} (h0 : 0 ≤ r) (h1 : r < 18446744073709551616) : IntKind.u64.wrap r = r := by
  simp [IntKind.wrap, IntKind.signed, IntKind.bits]; omega
end Sd

namespace Sk
open Go Go.RowKit Sd
section
variable {P : Program} {ev : Operand → Value} {w : World} {Ψ : Value → World → Prop} {d : Option Tmp} {ty : TypeId} {pos : String} {af : Array Edge} {g : Option (Nat × Bool)}
theorem does_shr32 {x y : Operand} {t t' : TypeId} {k' : IntKind} {a : UInt32} {b : Nat} (hx : ev x = w32 a) (hy : ev y = .int k' (b : Int)) (h1 : b ≤ 32) (h : Ψ (w32 (UInt32.ofNat (a.toNat / 2 ^ b))) w) : Does P ev ⟨d, .binOp .shr t x y t', ty, pos, af, g⟩ w Ψ :=
  does_shr hx hy (by omega) (by simp only [IntKind.bits]; omega) (shr_u32 a b) h
theorem does_shr64 {x y : Operand} {t t' : TypeId} {k' : IntKind} {a : UInt64} {b : Nat} (hx : ev x = w64 a) (hy : ev y = .int k' (b : Int)) (h1 : b ≤ 64) (h : Ψ (w64 (UInt64.ofNat (a.toNat / 2 ^ b))) w) : Does P ev ⟨d, .binOp .shr t x y t', ty, pos, af, g⟩ w Ψ :=
  does_shr hx hy (by omega) (by simp only [IntKind.bits]; omega) (shr_u64 a b) h
theorem does_shl32 {x y : Operand} {t t' : TypeId} {k' : IntKind} {a : UInt32} {b : Nat} (hx : ev x = w32 a) (hy : ev y = .int k' (b : Int)) (h1 : b ≤ 32) (h : Ψ (w32 (UInt32.ofNat (a.toNat * 2 ^ b))) w) : Does P ev ⟨d, .binOp .shl t x y t', ty, pos, af, g⟩ w Ψ :=
  does_shl hx hy (by omega) (by simp only [IntKind.bits]; omega) (shl_u32 a b) h
theorem does_or32 {x y : Operand} {t t' : TypeId} {a b : UInt32} (hx : ev x = w32 a) (hy : ev y = w32 b) (h : Ψ (w32 (a ||| b)) w) : Does P ev ⟨d, .binOp .or t x y t', ty, pos, af, g⟩ w Ψ :=
  does_bor hx hy (bor_u32 a b) h
end
end Sk
namespace Sk
open Go Go.RowKit Sd
section
variable {P : Program} {ev : Operand → Value} {w : World} {Ψ : Value → World → Prop} {d : Option Tmp} {ty : TypeId} {pos : String} {af : Array Edge} {g : Option (Nat × Bool)}
theorem does_kquo {x y : Operand} {t t' : TypeId} {k : IntKind} {a b r : Int} (hx : ev x = .int k a) (hy : ev y = .int k b) (h0 : 0 ≤ a) (hb : 1 ≤ b) (hr : a / b = r) (hw : k.wrap r = r) (h : Ψ (.int k r) w) : Does P ev ⟨d, .binOp .quo t x y t', ty, pos, af, g⟩ w Ψ := by
  refine Does.value (v := .int k r) (w' := w) ?_ h
  have hne : b ≠ 0 := by omega
  have htd : a.tdiv b = r := by rw [Int.tdiv_eq_ediv_of_nonneg h0, hr]
  simp [execOp, hx, hy, eqGuard_quo, binOp_quo, Op.intDiv, hne, htd, hw]
end
end Sk
namespace Sd
open Go Go.RowKit Sk
theorem u32_lt8 {k : Nat} (hk : k ≤ 8) : ((UInt32.ofNat k : UInt32).toNat : Int) < ((8 : UInt32).toNat : Int) ↔ k < 8 := by
  rw [UInt32.toNat_ofNat', Nat.mod_eq_of_lt (by omega), show (8 : UInt32).toNat = 8 from rfl]
  omega
theorem u32_succ {k : Nat} : (UInt32.ofNat k : UInt32) + (1 : UInt32) = UInt32.ofNat (k + 1) := by
  rw [UInt32.ofNat_add]; rfl
end Sd
namespace Sk
open Go
theorem args0 {ev : Operand → Value} : (#[] : Array Operand).map ev = #[] := by simp
end Sk
namespace Sk
open Go Go.RowKit Sd
section
variable {P : Program} {ev : Operand → Value} {w : World} {Ψ : Value → World → Prop} {d : Option Tmp} {ty : TypeId} {pos : String} {af : Array Edge} {g : Option (Nat × Bool)}
theorem does_lenN {α : Type} {T : Ty α} {lo hi : Nat} {xs : List α} {t e n m : Nat} {x : Operand} (ha : SliceIs P t e m) (hx : SlT T lo hi xs (ev x) w) (hn : xs.length = n) (h : Ψ (i64 n) w) :
    Does P ev ⟨d, .call { callee := .builtin .len, args := #[x], argTypes := #[t] }, ty, pos, af, g⟩ w Ψ := by
  subst hn; exact does_len ha hx h
end
end Sk
namespace Sd
theorem four_of {α : Type} {l : List α} (h : 4 ≤ l.length) : ∃ p q r t m, l = p :: q :: r :: t :: m := by
  match l, h with
  | p :: q :: r :: t :: m, _ => exact ⟨p, q, r, t, m, rfl⟩
theorem takes_short {s : St} {l : List UInt32} (h : l.length < 4) : s.takes l = s := by
  match l, h with
  | [], _ => rfl
  | [_], _ => rfl
  | [_, _], _ => rfl
  | [_, _, _], _ => rfl
end Sd
namespace Sk
open Go Go.RowKit Sd
theorem SlT.overOwn {α β : Type} {T : Ty α} {U : Ty β} {lo n e : Nat} {xs : List α} {ys : List β} {v u : Value} {w w' : World} (h : SlT T lo (n + 1) xs v w) (ho : OwnT U n e ys u w) (k : ExtE (fun b => u.ownBlock = some b) w w') : SlT T lo (n + 1) xs v w' :=
  SlT.ext h k (fun b _ hu e => by have := (OwnT.block_lt ho e).1; unfold Under at hu; omega)
section
variable {P : Program} {ev : Operand → Value} {w : World} {Ψ : Value → World → Prop} {d : Option Tmp} {ty : TypeId} {pos : String} {af : Array Edge} {g : Option (Nat × Bool)}
theorem does_make0 {α : Type} {T : Ty α} {t e n bytes c : Nat} {x y : Operand} (ha : AppIs P t e n bytes) (hn : T.size = n) (hx : ev x = i64 0) (hy : ev y = i64 (c : Int)) (hb : bytes * c ≤ 281474976710656) (hc : c ≤ maxLen)
    (h : ∀ v w', Ext w w' → SlT T w.heap.size 0 [] v w' → OwnT T w.heap.size e [] v w' → Ψ v w') : Does P ev ⟨d, .makeSlice t x y, ty, pos, af, g⟩ w Ψ := by
  subst hn
  obtain ⟨ht, i, z, hi, hz, hsz, hby, hzs⟩ := ha
  obtain ⟨w', hr, ho, hg⟩ := run_make_own (P := P) w w.heap.size t e i z T.size ht hi hz hsz .i64 .i64 c (by rw [hby]; exact hb) hc (Nat.le_refl _)
  refine Does.value (v := .slice (some ⟨w.heap.size, 0, none⟩) 0 c) (w' := w') ?_ ?_
  · simp only [execOp, hx, hy, Sem.run_bind]
    rw [hr]
    rfl
  · have hown : OwnT T w.heap.size e [] (.slice (some ⟨w.heap.size, 0, none⟩) 0 c) w' := ho
    exact h _ _ ⟨hg.os, hg.tape, hg.output, hg.size, fun k hk _ => hg.block k hk (by simp)⟩ (hown.sl.wide (Nat.le_refl _) (.inl rfl)) hown
end
end Sk
namespace Sd
theorem bytes_length (l : List UInt32) : (wbytes l).length = 4 * l.length := by
  induction l with
  | nil => rfl
  | cons x l ih => simp only [wbytes, List.flatMap_cons, List.length_append, List.length_cons, le, List.length_nil] at *; omega
theorem bytes_append (l m : List UInt32) : wbytes (l ++ m) = wbytes l ++ wbytes m := List.flatMap_append
theorem get_of_lt {α : Type} {l : List α} {k : Nat} (h : k < l.length) : ∃ x, l[k]? = some x := ⟨l[k], List.getElem?_eq_getElem h⟩
theorem u8_mod (n : Nat) : UInt8.ofNat (n % 256) = UInt8.ofNat n := by
  apply UInt8.toNat_inj.1
  rw [UInt8.toNat_ofNat', UInt8.toNat_ofNat']
  omega
theorem u32_div (x : UInt32) (n : Nat) : (UInt32.ofNat (x.toNat / n)).toNat = x.toNat / n := by
  have h1 := x.toNat_lt
  have h2 : x.toNat / n ≤ x.toNat := Nat.div_le_self _ _
  rw [UInt32.toNat_ofNat', Nat.mod_eq_of_lt (by omega)]
theorem bytes_take {l : List UInt32} {k : Nat} {x : UInt32} (h : l[k]? = some x) : wbytes (l.take (k + 1)) = wbytes (l.take k) ++ le x := by
  rw [List.take_add_one, h, bytes_append]
  simp [wbytes]
theorem bytes_step {l : List UInt32} {k : Nat} {x : UInt32} (h : l[k]? = some x) :
    wbytes (l.take k) ++ [UInt8.ofNat (x).toNat, UInt8.ofNat (UInt32.ofNat ((x).toNat / 2 ^ 8)).toNat, UInt8.ofNat (UInt32.ofNat ((x).toNat / 2 ^ 16)).toNat, UInt8.ofNat (UInt32.ofNat ((x).toNat / 2 ^ 24)).toNat] = wbytes (l.take (k + 1)) := by
  rw [bytes_take h, u32_div, u32_div, u32_div]
  unfold le
  rw [u8_mod, u8_mod, u8_mod, u8_mod]
theorem word_or (a b c d : UInt8) : ((UInt32.ofNat (a).toNat ||| UInt32.ofNat ((UInt32.ofNat (b).toNat).toNat * 2 ^ 8)) ||| UInt32.ofNat ((UInt32.ofNat (c).toNat).toNat * 2 ^ 16)) ||| UInt32.ofNat ((UInt32.ofNat (d).toNat).toNat * 2 ^ 24) = word a b c d := by
  have ha := a.toNat_lt; have hb := b.toNat_lt; have hc := c.toNat_lt; have hd := d.toNat_lt
  apply UInt32.toNat_inj.1
  have e : ∀ x : UInt8, (UInt32.ofNat x.toNat).toNat = x.toNat := by
    intro x; have := x.toNat_lt; rw [UInt32.toNat_ofNat', Nat.mod_eq_of_lt (by omega)]
  rw [word, UInt32.toNat_or, UInt32.toNat_or, UInt32.toNat_or, e, e, e, e]
  simp only [UInt32.toNat_ofNat']
  rw [Nat.mod_eq_of_lt (show b.toNat * 2 ^ 8 < 2 ^ 32 by omega), Nat.mod_eq_of_lt (show c.toNat * 2 ^ 16 < 2 ^ 32 by omega), Nat.mod_eq_of_lt (show d.toNat * 2 ^ 24 < 2 ^ 32 by omega), Nat.mod_eq_of_lt (by omega)]
  have o1 : a.toNat ||| b.toNat * 2 ^ 8 = a.toNat + b.toNat * 2 ^ 8 := by
    rw [Nat.or_comm, Nat.mul_comm, ← Nat.two_pow_add_eq_or_of_lt (by omega)]; omega
  have o2 : (a.toNat + b.toNat * 2 ^ 8) ||| c.toNat * 2 ^ 16 = a.toNat + b.toNat * 2 ^ 8 + c.toNat * 2 ^ 16 := by
    rw [Nat.or_comm, Nat.mul_comm c.toNat, ← Nat.two_pow_add_eq_or_of_lt (by omega)]; omega
  have o3 : (a.toNat + b.toNat * 2 ^ 8 + c.toNat * 2 ^ 16) ||| d.toNat * 2 ^ 24 = a.toNat + b.toNat * 2 ^ 8 + c.toNat * 2 ^ 16 + d.toNat * 2 ^ 24 := by
    rw [Nat.or_comm, Nat.mul_comm d.toNat, ← Nat.two_pow_add_eq_or_of_lt (by omega)]; omega
  rw [o1, o2, o3]
theorem words_step {m : List UInt8} {a b c d : UInt8} {m' : List UInt8} (h : m = a :: b :: c :: d :: m') : words m = word a b c d :: words m' := by subst h; rfl
theorem words_nil {m : List UInt8} (h : m.length = 0) : words m = [] := by
  rw [List.length_eq_zero_iff.1 h]; rfl
end Sd
