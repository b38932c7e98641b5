/- The walks of functions of the program: printed. -/
import Derived.Test.YtmmghpbncejfiaaDoorS0
import Derived.Test.YtmmghpbncejfiaaDoorF0
set_option maxRecDepth 100000
namespace Go.Proofs.YtmmghpbncejfiaaDoor
open Go Go.RowKit Sk Sd
theorem repeatL0 (c : Nat) : Lib.repeatL [(0 : UInt8)] c = List.replicate c 0 := by
  induction c with
  | zero => rfl
  | succ c ih => rw [Lib.repeatL, ih]; rfl
/-- strings.Repeat of one zero. -/
theorem repeat_ (c : Nat) (w0 : World) (hc : c ≤ 1048576) : Gives Tryd.prog 35 #[str [0], i64 ((c : Nat) : Int)] w0 (Pr.ex (str (List.replicate c 0))) := by
  have h := Tryd.strings_Repeat ⟨#[0]⟩ c w0 (by omega) (by show 1 * c ≤ _; omega)
  refine Calls.mono h ?_
  rintro e w' ⟨rfl, hb⟩
  exact ⟨_, rfl, by show Value.string ⟨(Lib.repeatL [(0 : UInt8)] c).toArray⟩ = str _; rw [repeatL0]; rfl, Ext.ofBelow hb⟩

end Go.Proofs.YtmmghpbncejfiaaDoor
