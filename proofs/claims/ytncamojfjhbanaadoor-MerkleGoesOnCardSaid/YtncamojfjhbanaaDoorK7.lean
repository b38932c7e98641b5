/- My own calculus: small change for the printed proofs. -/
import Derived.Test.YtncamojfjhbanaaDoorK6
namespace Sk
open Go Go.RowKit

theorem bn' {B : Bool} (h : (!B) = false) : B = true := by cases B <;> simp_all
section
variable {ev : Operand → Value} {x1 x2 x3 x4 x5 : Operand} {v1 v2 v3 v4 v5 : Value}
theorem args1 (h1 : ev x1 = v1) : #[x1].map ev = #[v1] := by simp [h1]
theorem args2 (h1 : ev x1 = v1) (h2 : ev x2 = v2) : #[x1, x2].map ev = #[v1, v2] := by simp [h1, h2]
theorem args3 (h1 : ev x1 = v1) (h2 : ev x2 = v2) (h3 : ev x3 = v3) : #[x1, x2, x3].map ev = #[v1, v2, v3] := by simp [h1, h2, h3]
theorem args5 (h1 : ev x1 = v1) (h2 : ev x2 = v2) (h3 : ev x3 = v3) (h4 : ev x4 = v4) (h5 : ev x5 = v5) : #[x1, x2, x3, x4, x5].map ev = #[v1, v2, v3, v4, v5] := by simp [h1, h2, h3, h4, h5]
variable {i1 i2 i3 i4 i5 : Nat}
theorem parts1 (h1 : ev x1 = v1) : (#[(i1, x1)].map fun (i, x) => (i, ev x)) = #[(i1, v1)] := by simp [h1]
theorem parts2 (h1 : ev x1 = v1) (h2 : ev x2 = v2) : (#[(i1, x1), (i2, x2)].map fun (i, x) => (i, ev x)) = #[(i1, v1), (i2, v2)] := by simp [h1, h2]
theorem parts3 (h1 : ev x1 = v1) (h2 : ev x2 = v2) (h3 : ev x3 = v3) : (#[(i1, x1), (i2, x2), (i3, x3)].map fun (i, x) => (i, ev x)) = #[(i1, v1), (i2, v2), (i3, v3)] := by simp [h1, h2, h3]
theorem parts4 (h1 : ev x1 = v1) (h2 : ev x2 = v2) (h3 : ev x3 = v3) (h4 : ev x4 = v4) : (#[(i1, x1), (i2, x2), (i3, x3), (i4, x4)].map fun (i, x) => (i, ev x)) = #[(i1, v1), (i2, v2), (i3, v3), (i4, v4)] := by simp [h1, h2, h3, h4]
end

def u64of (n : Int) : UInt64 := UInt64.ofNat (n % 18446744073709551616).toNat
theorem conv_64_32 (x : UInt64) : IntKind.u32.wrap (x.toNat : Int) = ((x.toUInt32).toNat : Int) := by
  simp [IntKind.wrap, IntKind.signed, IntKind.bits]
end Sk
