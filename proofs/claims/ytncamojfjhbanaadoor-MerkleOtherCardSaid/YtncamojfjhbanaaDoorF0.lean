/- Closed facts of the program's types and functions. -/
import Derived.Test.YtncamojfjhbanaaDoorChecked
import Derived.Test.YtncamojfjhbanaaDoorK
set_option maxRecDepth 100000
namespace Go.Proofs.YtncamojfjhbanaaDoor
open Go Go.RowKit Sk Sd
theorem mixed : Tryd.prog.follows .mixedOrders = true := by kernel_rfl
theorem app_of {P : Program} {e size bytes : Nat} (h : ((P.info? e).bind fun i => i.zero.map fun z => (i.size, i.bytes, z.cells.size)) = some (size, bytes, size)) : ∃ i z, P.info? e = some i ∧ i.zero = some z ∧ i.size = size ∧ i.bytes = bytes ∧ z.cells.size = size := by
  cases hi : P.info? e with
  | none => simp [hi] at h
  | some i =>
    cases hz : i.zero with
    | none => simp [hi, hz] at h
    | some z => simp [hi, hz] at h; exact ⟨i, z, rfl, hz, h.1, h.2.1, h.2.2⟩

theorem call_68 : Callable Tryd.prog 68 := ⟨_, Tryd.func68, by kernel_rfl, rfl⟩
theorem zero_91 : (Tryd.prog.info? 91).bind (·.zero) = some (Value.agg #[i64 ((0 : Nat) : Int), i64 ((0 : Nat) : Int), i64 ((0 : Nat) : Int), i64 ((0 : Nat) : Int)]) := by kernel_rfl
theorem siz_91 : (Tryd.prog.info? 91).map (·.size) = some 4 := by kernel_rfl
theorem row_91 : RowIs Tryd.prog 91 4 := ⟨_, Tryd.underlying91, rfl, by kernel_rfl⟩
theorem zero_54 : (Tryd.prog.info? 54).bind (·.zero) = some (Value.agg #[w32 (0), w32 (0), w32 (0), w32 (0), w32 (0), w32 (0), w32 (0), w32 (0)]) := by kernel_rfl
theorem arr_54 : ArrIs Tryd.prog 54 8 22 1 := ⟨Tryd.underlying54, by kernel_rfl⟩
theorem one_22 : OneIs Tryd.prog 22 := ⟨_, Tryd.underlying22, rfl, by kernel_rfl⟩
theorem siz_22 : (Tryd.prog.info? 22).map (·.size) = some 1 := by kernel_rfl
theorem arr_91 : ArrIs Tryd.prog 91 4 3 1 := ⟨Tryd.underlying91, by kernel_rfl⟩
theorem one_3 : OneIs Tryd.prog 3 := ⟨_, Tryd.underlying3, rfl, by kernel_rfl⟩
theorem call_65 : Callable Tryd.prog 65 := ⟨_, Tryd.func65, by kernel_rfl, rfl⟩
theorem row_54 : RowIs Tryd.prog 54 8 := ⟨_, Tryd.underlying54, rfl, by kernel_rfl⟩
theorem siz_54 : (Tryd.prog.info? 54).map (·.size) = some 8 := by kernel_rfl
theorem call_58 : Callable Tryd.prog 58 := ⟨_, Tryd.func58, by kernel_rfl, rfl⟩
theorem call_59 : Callable Tryd.prog 59 := ⟨_, Tryd.func59, by kernel_rfl, rfl⟩
theorem zero_24 : (Tryd.prog.info? 24).bind (·.zero) = some (Dg.val (Dg.zero)) := by kernel_rfl
theorem sli_68 : SliceIs Tryd.prog 68 22 1 := ⟨Tryd.underlying68, by kernel_rfl⟩
theorem call_57 : Callable Tryd.prog 57 := ⟨_, Tryd.func57, by kernel_rfl, rfl⟩
theorem arr_24 : ArrIs Tryd.prog 24 4 22 1 := ⟨Tryd.underlying24, by kernel_rfl⟩
theorem row_24 : RowIs Tryd.prog 24 4 := ⟨_, Tryd.underlying24, rfl, by kernel_rfl⟩
theorem siz_24 : (Tryd.prog.info? 24).map (·.size) = some 4 := by kernel_rfl
theorem call_49 : Callable Tryd.prog 49 := ⟨_, Tryd.func49, by kernel_rfl, rfl⟩
theorem app_68 : AppIs Tryd.prog 68 22 1 4 := ⟨Tryd.underlying68, app_of (by kernel_rfl)⟩
theorem call_48 : Callable Tryd.prog 48 := ⟨_, Tryd.func48, by kernel_rfl, rfl⟩
theorem call_35 : Callable Tryd.prog 35 := ⟨_, Tryd.func35, by kernel_rfl, rfl⟩
theorem app_81 : AppIs Tryd.prog 81 5 1 1 := ⟨Tryd.underlying81, app_of (by kernel_rfl)⟩
theorem call_45 : Callable Tryd.prog 45 := ⟨_, Tryd.func45, by kernel_rfl, rfl⟩
theorem call_46 : Callable Tryd.prog 46 := ⟨_, Tryd.func46, by kernel_rfl, rfl⟩
theorem call_47 : Callable Tryd.prog 47 := ⟨_, Tryd.func47, by kernel_rfl, rfl⟩
theorem call_44 : Callable Tryd.prog 44 := ⟨_, Tryd.func44, by kernel_rfl, rfl⟩
theorem sli_27 : SliceIs Tryd.prog 27 24 4 := ⟨Tryd.underlying27, by kernel_rfl⟩
theorem call_33 : Callable Tryd.prog 33 := ⟨_, Tryd.func33, by kernel_rfl, rfl⟩
theorem call_30 : Callable Tryd.prog 30 := ⟨_, Tryd.func30, by kernel_rfl, rfl⟩
theorem call_16 : Callable Tryd.prog 16 := ⟨_, Tryd.func16, by kernel_rfl, rfl⟩
theorem call_34 : Callable Tryd.prog 34 := ⟨_, Tryd.func34, by kernel_rfl, rfl⟩
theorem call_26 : Callable Tryd.prog 26 := ⟨_, Tryd.func26, by kernel_rfl, rfl⟩
theorem call_32 : Callable Tryd.prog 32 := ⟨_, Tryd.func32, by kernel_rfl, rfl⟩
theorem call_19 : Callable Tryd.prog 19 := ⟨_, Tryd.func19, by kernel_rfl, rfl⟩
theorem call_17 : Callable Tryd.prog 17 := ⟨_, Tryd.func17, by kernel_rfl, rfl⟩
theorem call_27 : Callable Tryd.prog 27 := ⟨_, Tryd.func27, by kernel_rfl, rfl⟩
theorem app_27 : AppIs Tryd.prog 27 24 4 16 := ⟨Tryd.underlying27, app_of (by kernel_rfl)⟩
theorem call_28 : Callable Tryd.prog 28 := ⟨_, Tryd.func28, by kernel_rfl, rfl⟩
theorem dgis : DgIs Tryd.prog 24 22 := ⟨Tryd.underlying24, Tryd.underlying22, by kernel_rfl, by kernel_rfl⟩
theorem eq_24 : EqIs Tryd.prog 24 Dg.val := eq_dg dgis (by kernel_rfl)
theorem fld_59_0 : FieldIs Tryd.prog 59 0 0 := ⟨_, _, 0, Tryd.underlying59, rfl, rfl, by kernel_rfl⟩
theorem one_27 : OneIs Tryd.prog 27 := ⟨_, Tryd.underlying27, rfl, by kernel_rfl⟩
theorem fld_59_1 : FieldIs Tryd.prog 59 1 1 := ⟨_, _, 0, Tryd.underlying59, rfl, rfl, by kernel_rfl⟩
theorem siz_4 : (Tryd.prog.info? 4).map (·.size) = some 1 := by kernel_rfl
theorem siz_27 : (Tryd.prog.info? 27).map (·.size) = some 1 := by kernel_rfl
theorem one_4 : OneIs Tryd.prog 4 := ⟨_, Tryd.underlying4, rfl, by kernel_rfl⟩
theorem call_50 : Callable Tryd.prog 50 := ⟨_, Tryd.func50, by kernel_rfl, rfl⟩
theorem call_38 : Callable Tryd.prog 38 := ⟨_, Tryd.func38, by kernel_rfl, rfl⟩
theorem call_37 : Callable Tryd.prog 37 := ⟨_, Tryd.func37, by kernel_rfl, rfl⟩
theorem call_39 : Callable Tryd.prog 39 := ⟨_, Tryd.func39, by kernel_rfl, rfl⟩
theorem zero_32 : (Tryd.prog.info? 32).bind (·.zero) = some (Value.agg #[w32 (Dg.zero).a, w32 (Dg.zero).b, w32 (Dg.zero).c, w32 (Dg.zero).d, w32 (Dg.zero).a, w32 (Dg.zero).b, w32 (Dg.zero).c, w32 (Dg.zero).d]) := by kernel_rfl
theorem siz_32 : (Tryd.prog.info? 32).map (·.size) = some 8 := by kernel_rfl
theorem row_32 : RowIs Tryd.prog 32 8 := ⟨_, Tryd.underlying32, rfl, by kernel_rfl⟩
theorem eq_32 : EqIs Tryd.prog 32 twoVal := eq_two dgis Tryd.underlying32 (by kernel_rfl)
theorem call_40 : Callable Tryd.prog 40 := ⟨_, Tryd.func40, by kernel_rfl, rfl⟩
theorem call_11 : Callable Tryd.prog 11 := ⟨_, Tryd.func11, by kernel_rfl, rfl⟩
theorem call_12 : Callable Tryd.prog 12 := ⟨_, Tryd.func12, by kernel_rfl, rfl⟩
theorem call_15 : Callable Tryd.prog 15 := ⟨_, Tryd.func15, by kernel_rfl, rfl⟩
theorem arr_32 : ArrIs Tryd.prog 32 2 24 4 := ⟨Tryd.underlying32, by kernel_rfl⟩
theorem call_22 : Callable Tryd.prog 22 := ⟨_, Tryd.func22, by kernel_rfl, rfl⟩
end Go.Proofs.YtncamojfjhbanaaDoor
