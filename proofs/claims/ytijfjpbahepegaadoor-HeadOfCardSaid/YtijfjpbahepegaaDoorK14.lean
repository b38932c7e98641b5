/- A head's digest: plain. -/
import Derived.Test.YtijfjpbahepegaaDoorK13
namespace Sd
open Go Go.RowKit Sk
/-- A whole number's two words. -/
def sizeWords (n : Int) : List UInt32 := [(u64of n).toUInt32, (UInt64.ofNat ((u64of n).toNat / 2 ^ 32)).toUInt32]
def headOf (h : Head) : Dg := pair (of (([104] : List UInt8) ++ wbytes (sizeWords h.size ++ [h.root.a, h.root.b, h.root.c, h.root.d]))) (of ([104, 101, 97, 100] : List UInt8))
theorem rem64 (x : UInt64) : (UInt64.ofNat (x.toNat % (4294967296 : UInt64).toNat)).toUInt32 = x.toUInt32 := by
  apply UInt32.toNat_inj.1
  have := x.toNat_lt
  rw [UInt64.toNat_toUInt32, UInt64.toNat_toUInt32, UInt64.toNat_ofNat', show (4294967296 : UInt64).toNat = 4294967296 from rfl]
  omega
theorem headOf_law (a b : Head) : ((!decide ((⟨a.size, a.root⟩ : Head) = (⟨b.size, b.root⟩ : Head))) || decide (headOf a = headOf b)) = true := by
  by_cases h : a = b
  · subst h; simp
  · have : ¬ ((⟨a.size, a.root⟩ : Head) = (⟨b.size, b.root⟩ : Head)) := h
    simp [this]
end Sd
namespace Sk
open Go Go.RowKit Sd
section
variable {P : Program} {ev : Operand → Value} {w : World} {Ψ : Value → World → Prop} {d : Option Tmp} {ty : TypeId} {pos : String} {af : Array Edge} {g : Option (Nat × Bool)}
theorem does_rem64 {x y : Operand} {t t' : TypeId} {a b : UInt64} (hx : ev x = w64 a) (hy : ev y = w64 b) (hb : 0 < b.toNat) (h : Ψ (w64 (UInt64.ofNat (a.toNat % b.toNat))) w) : Does P ev ⟨d, .binOp .rem t x y t', ty, pos, af, g⟩ w Ψ := by
  refine does_rem hx hy (by omega) (by omega) ?_ h
  have h1 := a.toNat_lt
  have h2 : a.toNat % b.toNat ≤ a.toNat := Nat.mod_le _ _
  rw [UInt64.toNat_ofNat', Nat.mod_eq_of_lt (by omega)]
  simp
theorem does_quo64 {x y : Operand} {t t' : TypeId} {a b : UInt64} (hx : ev x = w64 a) (hy : ev y = w64 b) (hb : 0 < b.toNat) (h : Ψ (w64 (UInt64.ofNat (a.toNat / b.toNat))) w) : Does P ev ⟨d, .binOp .quo t x y t', ty, pos, af, g⟩ w Ψ := by
  have h1 := a.toNat_lt
  have h2 : a.toNat / b.toNat ≤ a.toNat := Nat.div_le_self _ _
  have e : ((UInt64.ofNat (a.toNat / b.toNat)).toNat : Int) = (a.toNat : Int) / (b.toNat : Int) := by
    rw [UInt64.toNat_ofNat', Nat.mod_eq_of_lt (by omega)]; simp
  exact does_kquo hx hy (by omega) (by omega) e.symm (wrap64_in (by omega) (by rw [UInt64.toNat_ofNat']; omega)) h
end
end Sk
