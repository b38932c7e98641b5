/- Closed facts of the program's types and functions. -/
import Derived.Test.YtaeohnkfmachfaaDoorChecked
import Derived.Test.YtaeohnkfmachfaaDoorK
set_option maxRecDepth 100000
namespace Go.Proofs.YtaeohnkfmachfaaDoor
open Go Go.RowKit Sk Sd
theorem mixed : Tryd.prog.follows .mixedOrders = true := by kernel_rfl
theorem app_of {P : Program} {e size bytes : Nat} (h : ((P.info? e).bind fun i => i.zero.map fun z => (i.size, i.bytes, z.cells.size)) = some (size, bytes, size)) : ∃ i z, P.info? e = some i ∧ i.zero = some z ∧ i.size = size ∧ i.bytes = bytes ∧ z.cells.size = size := by
  cases hi : P.info? e with
  | none => simp [hi] at h
  | some i =>
    cases hz : i.zero with
    | none => simp [hi, hz] at h
    | some z => simp [hi, hz] at h; exact ⟨i, z, rfl, hz, h.1, h.2.1, h.2.2⟩

theorem call_85 : Callable Tryd.prog 85 := ⟨_, Tryd.func85, by kernel_rfl, rfl⟩
theorem zero_103 : (Tryd.prog.info? 103).bind (·.zero) = some (Value.agg #[i64 ((0 : Nat) : Int), i64 ((0 : Nat) : Int), i64 ((0 : Nat) : Int), i64 ((0 : Nat) : Int)]) := by kernel_rfl
theorem siz_103 : (Tryd.prog.info? 103).map (·.size) = some 4 := by kernel_rfl
theorem row_103 : RowIs Tryd.prog 103 4 := ⟨_, Tryd.underlying103, rfl, by kernel_rfl⟩
theorem zero_77 : (Tryd.prog.info? 77).bind (·.zero) = some (Value.agg #[w32 (0), w32 (0), w32 (0), w32 (0), w32 (0), w32 (0), w32 (0), w32 (0)]) := by kernel_rfl
theorem arr_77 : ArrIs Tryd.prog 77 8 22 1 := ⟨Tryd.underlying77, by kernel_rfl⟩
theorem one_22 : OneIs Tryd.prog 22 := ⟨_, Tryd.underlying22, rfl, by kernel_rfl⟩
theorem siz_22 : (Tryd.prog.info? 22).map (·.size) = some 1 := by kernel_rfl
theorem arr_103 : ArrIs Tryd.prog 103 4 3 1 := ⟨Tryd.underlying103, by kernel_rfl⟩
theorem one_3 : OneIs Tryd.prog 3 := ⟨_, Tryd.underlying3, rfl, by kernel_rfl⟩
theorem call_82 : Callable Tryd.prog 82 := ⟨_, Tryd.func82, by kernel_rfl, rfl⟩
theorem row_77 : RowIs Tryd.prog 77 8 := ⟨_, Tryd.underlying77, rfl, by kernel_rfl⟩
theorem siz_77 : (Tryd.prog.info? 77).map (·.size) = some 8 := by kernel_rfl
theorem call_75 : Callable Tryd.prog 75 := ⟨_, Tryd.func75, by kernel_rfl, rfl⟩
theorem call_76 : Callable Tryd.prog 76 := ⟨_, Tryd.func76, by kernel_rfl, rfl⟩
theorem zero_24 : (Tryd.prog.info? 24).bind (·.zero) = some (Dg.val (Dg.zero)) := by kernel_rfl
theorem sli_66 : SliceIs Tryd.prog 66 22 1 := ⟨Tryd.underlying66, by kernel_rfl⟩
theorem call_73 : Callable Tryd.prog 73 := ⟨_, Tryd.func73, by kernel_rfl, rfl⟩
theorem arr_24 : ArrIs Tryd.prog 24 4 22 1 := ⟨Tryd.underlying24, by kernel_rfl⟩
theorem row_24 : RowIs Tryd.prog 24 4 := ⟨_, Tryd.underlying24, rfl, by kernel_rfl⟩
theorem siz_24 : (Tryd.prog.info? 24).map (·.size) = some 4 := by kernel_rfl
theorem call_66 : Callable Tryd.prog 66 := ⟨_, Tryd.func66, by kernel_rfl, rfl⟩
theorem app_66 : AppIs Tryd.prog 66 22 1 4 := ⟨Tryd.underlying66, app_of (by kernel_rfl)⟩
theorem call_61 : Callable Tryd.prog 61 := ⟨_, Tryd.func61, by kernel_rfl, rfl⟩
theorem call_56 : Callable Tryd.prog 56 := ⟨_, Tryd.func56, by kernel_rfl, rfl⟩
theorem app_83 : AppIs Tryd.prog 83 5 1 1 := ⟨Tryd.underlying83, app_of (by kernel_rfl)⟩
theorem call_59 : Callable Tryd.prog 59 := ⟨_, Tryd.func59, by kernel_rfl, rfl⟩
theorem call_46 : Callable Tryd.prog 46 := ⟨_, Tryd.func46, by kernel_rfl, rfl⟩
theorem call_60 : Callable Tryd.prog 60 := ⟨_, Tryd.func60, by kernel_rfl, rfl⟩
theorem call_57 : Callable Tryd.prog 57 := ⟨_, Tryd.func57, by kernel_rfl, rfl⟩
theorem sli_27 : SliceIs Tryd.prog 27 24 4 := ⟨Tryd.underlying27, by kernel_rfl⟩
theorem call_45 : Callable Tryd.prog 45 := ⟨_, Tryd.func45, by kernel_rfl, rfl⟩
theorem call_48 : Callable Tryd.prog 48 := ⟨_, Tryd.func48, by kernel_rfl, rfl⟩
theorem call_27 : Callable Tryd.prog 27 := ⟨_, Tryd.func27, by kernel_rfl, rfl⟩
theorem call_49 : Callable Tryd.prog 49 := ⟨_, Tryd.func49, by kernel_rfl, rfl⟩
theorem call_37 : Callable Tryd.prog 37 := ⟨_, Tryd.func37, by kernel_rfl, rfl⟩
theorem call_35 : Callable Tryd.prog 35 := ⟨_, Tryd.func35, by kernel_rfl, rfl⟩
theorem call_39 : Callable Tryd.prog 39 := ⟨_, Tryd.func39, by kernel_rfl, rfl⟩
theorem app_27 : AppIs Tryd.prog 27 24 4 16 := ⟨Tryd.underlying27, app_of (by kernel_rfl)⟩
theorem fld_73_0 : FieldIs Tryd.prog 73 0 0 := ⟨_, _, 0, Tryd.underlying73, rfl, rfl, by kernel_rfl⟩
theorem one_27 : OneIs Tryd.prog 27 := ⟨_, Tryd.underlying27, rfl, by kernel_rfl⟩
theorem fld_73_1 : FieldIs Tryd.prog 73 1 1 := ⟨_, _, 0, Tryd.underlying73, rfl, rfl, by kernel_rfl⟩
theorem siz_4 : (Tryd.prog.info? 4).map (·.size) = some 1 := by kernel_rfl
theorem siz_27 : (Tryd.prog.info? 27).map (·.size) = some 1 := by kernel_rfl
theorem one_4 : OneIs Tryd.prog 4 := ⟨_, Tryd.underlying4, rfl, by kernel_rfl⟩
theorem call_64 : Callable Tryd.prog 64 := ⟨_, Tryd.func64, by kernel_rfl, rfl⟩
theorem call_52 : Callable Tryd.prog 52 := ⟨_, Tryd.func52, by kernel_rfl, rfl⟩
theorem call_30 : Callable Tryd.prog 30 := ⟨_, Tryd.func30, by kernel_rfl, rfl⟩
theorem call_53 : Callable Tryd.prog 53 := ⟨_, Tryd.func53, by kernel_rfl, rfl⟩
theorem dgis : DgIs Tryd.prog 24 22 := ⟨Tryd.underlying24, Tryd.underlying22, by kernel_rfl, by kernel_rfl⟩
theorem eq_24 : EqIs Tryd.prog 24 Dg.val := eq_dg dgis (by kernel_rfl)
theorem app_60 : AppIs Tryd.prog 60 3 1 8 := ⟨Tryd.underlying60, app_of (by kernel_rfl)⟩
theorem one_28 : OneIs Tryd.prog 28 := ⟨_, Tryd.underlying28, rfl, by kernel_rfl⟩
theorem sli_28 : SliceIs Tryd.prog 28 24 4 := ⟨Tryd.underlying28, by kernel_rfl⟩
theorem one_60 : OneIs Tryd.prog 60 := ⟨_, Tryd.underlying60, rfl, by kernel_rfl⟩
theorem sli_60 : SliceIs Tryd.prog 60 3 1 := ⟨Tryd.underlying60, by kernel_rfl⟩
theorem call_42 : Callable Tryd.prog 42 := ⟨_, Tryd.func42, by kernel_rfl, rfl⟩
theorem call_51 : Callable Tryd.prog 51 := ⟨_, Tryd.func51, by kernel_rfl, rfl⟩
theorem call_41 : Callable Tryd.prog 41 := ⟨_, Tryd.func41, by kernel_rfl, rfl⟩
theorem zero_60 : (Tryd.prog.info? 60).bind (·.zero) = some (Value.slice none 0 0) := by kernel_rfl
theorem siz_60 : (Tryd.prog.info? 60).map (·.size) = some 1 := by kernel_rfl
theorem call_50 : Callable Tryd.prog 50 := ⟨_, Tryd.func50, by kernel_rfl, rfl⟩
theorem call_33 : Callable Tryd.prog 33 := ⟨_, Tryd.func33, by kernel_rfl, rfl⟩
theorem call_34 : Callable Tryd.prog 34 := ⟨_, Tryd.func34, by kernel_rfl, rfl⟩
theorem fld_30_2 : FieldIs Tryd.prog 30 2 2 := ⟨_, _, 0, Tryd.underlying30, rfl, rfl, by kernel_rfl⟩
theorem fld_30_1 : FieldIs Tryd.prog 30 1 1 := ⟨_, _, 0, Tryd.underlying30, rfl, rfl, by kernel_rfl⟩
theorem call_28 : Callable Tryd.prog 28 := ⟨_, Tryd.func28, by kernel_rfl, rfl⟩
theorem fld_30_0 : FieldIs Tryd.prog 30 0 0 := ⟨_, _, 0, Tryd.underlying30, rfl, rfl, by kernel_rfl⟩
theorem call_29 : Callable Tryd.prog 29 := ⟨_, Tryd.func29, by kernel_rfl, rfl⟩
theorem call_43 : Callable Tryd.prog 43 := ⟨_, Tryd.func43, by kernel_rfl, rfl⟩
theorem call_58 : Callable Tryd.prog 58 := ⟨_, Tryd.func58, by kernel_rfl, rfl⟩
theorem app_28 : AppIs Tryd.prog 28 24 4 16 := ⟨Tryd.underlying28, app_of (by kernel_rfl)⟩
theorem arr_68 : ArrIs Tryd.prog 68 5 22 1 := ⟨Tryd.underlying68, by kernel_rfl⟩
theorem zero_68 : (Tryd.prog.info? 68).bind (·.zero) = some (Value.agg #[w32 (0), w32 (0), w32 (0), w32 (0), w32 (0)]) := by kernel_rfl
theorem call_23 : Callable Tryd.prog 23 := ⟨_, Tryd.func23, by kernel_rfl, rfl⟩
theorem call_44 : Callable Tryd.prog 44 := ⟨_, Tryd.func44, by kernel_rfl, rfl⟩
theorem call_40 : Callable Tryd.prog 40 := ⟨_, Tryd.func40, by kernel_rfl, rfl⟩
theorem call_19 : Callable Tryd.prog 19 := ⟨_, Tryd.func19, by kernel_rfl, rfl⟩
theorem call_21 : Callable Tryd.prog 21 := ⟨_, Tryd.func21, by kernel_rfl, rfl⟩
theorem zero_30 : (Tryd.prog.info? 30).bind (·.zero) = some (Value.agg #[i64 ((0 : Nat) : Int), Value.slice none 0 0, Value.slice none 0 0]) := by kernel_rfl
theorem siz_30 : (Tryd.prog.info? 30).map (·.size) = some 3 := by kernel_rfl
theorem row_30 : RowIs Tryd.prog 30 3 := ⟨_, Tryd.underlying30, rfl, by kernel_rfl⟩
theorem call_20 : Callable Tryd.prog 20 := ⟨_, Tryd.func20, by kernel_rfl, rfl⟩
theorem call_22 : Callable Tryd.prog 22 := ⟨_, Tryd.func22, by kernel_rfl, rfl⟩
theorem call_36 : Callable Tryd.prog 36 := ⟨_, Tryd.func36, by kernel_rfl, rfl⟩
theorem call_38 : Callable Tryd.prog 38 := ⟨_, Tryd.func38, by kernel_rfl, rfl⟩
theorem call_18 : Callable Tryd.prog 18 := ⟨_, Tryd.func18, by kernel_rfl, rfl⟩
theorem call_17 : Callable Tryd.prog 17 := ⟨_, Tryd.func17, by kernel_rfl, rfl⟩
theorem call_16 : Callable Tryd.prog 16 := ⟨_, Tryd.func16, by kernel_rfl, rfl⟩
theorem call_11 : Callable Tryd.prog 11 := ⟨_, Tryd.func11, by kernel_rfl, rfl⟩
theorem call_8 : Callable Tryd.prog 8 := ⟨_, Tryd.func8, by kernel_rfl, rfl⟩
theorem call_12 : Callable Tryd.prog 12 := ⟨_, Tryd.func12, by kernel_rfl, rfl⟩
theorem zero_62 : (Tryd.prog.info? 62).bind (·.zero) = some (Value.agg #[w32 (Dg.zero).a, w32 (Dg.zero).b, w32 (Dg.zero).c, w32 (Dg.zero).d, w32 (Dg.zero).a, w32 (Dg.zero).b, w32 (Dg.zero).c, w32 (Dg.zero).d]) := by kernel_rfl
theorem siz_62 : (Tryd.prog.info? 62).map (·.size) = some 8 := by kernel_rfl
theorem arr_62 : ArrIs Tryd.prog 62 2 24 4 := ⟨Tryd.underlying62, by kernel_rfl⟩
theorem row_62 : RowIs Tryd.prog 62 8 := ⟨_, Tryd.underlying62, rfl, by kernel_rfl⟩
theorem eq_62 : EqIs Tryd.prog 62 twoVal := eq_two dgis Tryd.underlying62 (by kernel_rfl)
end Go.Proofs.YtaeohnkfmachfaaDoor
