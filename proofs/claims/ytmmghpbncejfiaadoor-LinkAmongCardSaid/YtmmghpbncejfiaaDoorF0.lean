/- Closed facts of the program's types and functions. -/
import Derived.Test.YtmmghpbncejfiaaDoorChecked
import Derived.Test.YtmmghpbncejfiaaDoorK
set_option maxRecDepth 100000
namespace Go.Proofs.YtmmghpbncejfiaaDoor
open Go Go.RowKit Sk Sd
theorem mixed : Tryd.prog.follows .mixedOrders = true := by kernel_rfl
theorem app_of {P : Program} {e size bytes : Nat} (h : ((P.info? e).bind fun i => i.zero.map fun z => (i.size, i.bytes, z.cells.size)) = some (size, bytes, size)) : ∃ i z, P.info? e = some i ∧ i.zero = some z ∧ i.size = size ∧ i.bytes = bytes ∧ z.cells.size = size := by
  cases hi : P.info? e with
  | none => simp [hi] at h
  | some i =>
    cases hz : i.zero with
    | none => simp [hi, hz] at h
    | some z => simp [hi, hz] at h; exact ⟨i, z, rfl, hz, h.1, h.2.1, h.2.2⟩

theorem call_91 : Callable Tryd.prog 91 := ⟨_, Tryd.func91, by kernel_rfl, rfl⟩
theorem zero_113 : (Tryd.prog.info? 113).bind (·.zero) = some (Value.agg #[i64 ((0 : Nat) : Int), i64 ((0 : Nat) : Int), i64 ((0 : Nat) : Int), i64 ((0 : Nat) : Int)]) := by kernel_rfl
theorem siz_113 : (Tryd.prog.info? 113).map (·.size) = some 4 := by kernel_rfl
theorem row_113 : RowIs Tryd.prog 113 4 := ⟨_, Tryd.underlying113, rfl, by kernel_rfl⟩
theorem zero_75 : (Tryd.prog.info? 75).bind (·.zero) = some (Value.agg #[w32 (0), w32 (0), w32 (0), w32 (0), w32 (0), w32 (0), w32 (0), w32 (0)]) := by kernel_rfl
theorem arr_75 : ArrIs Tryd.prog 75 8 22 1 := ⟨Tryd.underlying75, by kernel_rfl⟩
theorem one_22 : OneIs Tryd.prog 22 := ⟨_, Tryd.underlying22, rfl, by kernel_rfl⟩
theorem siz_22 : (Tryd.prog.info? 22).map (·.size) = some 1 := by kernel_rfl
theorem arr_113 : ArrIs Tryd.prog 113 4 3 1 := ⟨Tryd.underlying113, by kernel_rfl⟩
theorem one_3 : OneIs Tryd.prog 3 := ⟨_, Tryd.underlying3, rfl, by kernel_rfl⟩
theorem call_81 : Callable Tryd.prog 81 := ⟨_, Tryd.func81, by kernel_rfl, rfl⟩
theorem row_75 : RowIs Tryd.prog 75 8 := ⟨_, Tryd.underlying75, rfl, by kernel_rfl⟩
theorem siz_75 : (Tryd.prog.info? 75).map (·.size) = some 8 := by kernel_rfl
theorem call_87 : Callable Tryd.prog 87 := ⟨_, Tryd.func87, by kernel_rfl, rfl⟩
theorem call_88 : Callable Tryd.prog 88 := ⟨_, Tryd.func88, by kernel_rfl, rfl⟩
theorem zero_24 : (Tryd.prog.info? 24).bind (·.zero) = some (Dg.val (Dg.zero)) := by kernel_rfl
theorem sli_58 : SliceIs Tryd.prog 58 22 1 := ⟨Tryd.underlying58, by kernel_rfl⟩
theorem call_55 : Callable Tryd.prog 55 := ⟨_, Tryd.func55, by kernel_rfl, rfl⟩
theorem arr_24 : ArrIs Tryd.prog 24 4 22 1 := ⟨Tryd.underlying24, by kernel_rfl⟩
theorem row_24 : RowIs Tryd.prog 24 4 := ⟨_, Tryd.underlying24, rfl, by kernel_rfl⟩
theorem siz_24 : (Tryd.prog.info? 24).map (·.size) = some 4 := by kernel_rfl
theorem call_62 : Callable Tryd.prog 62 := ⟨_, Tryd.func62, by kernel_rfl, rfl⟩
theorem app_58 : AppIs Tryd.prog 58 22 1 4 := ⟨Tryd.underlying58, app_of (by kernel_rfl)⟩
theorem call_34 : Callable Tryd.prog 34 := ⟨_, Tryd.func34, by kernel_rfl, rfl⟩
theorem call_37 : Callable Tryd.prog 37 := ⟨_, Tryd.func37, by kernel_rfl, rfl⟩
theorem app_68 : AppIs Tryd.prog 68 5 1 1 := ⟨Tryd.underlying68, app_of (by kernel_rfl)⟩
theorem call_35 : Callable Tryd.prog 35 := ⟨_, Tryd.func35, by kernel_rfl, rfl⟩
theorem call_20 : Callable Tryd.prog 20 := ⟨_, Tryd.func20, by kernel_rfl, rfl⟩
theorem call_36 : Callable Tryd.prog 36 := ⟨_, Tryd.func36, by kernel_rfl, rfl⟩
theorem call_38 : Callable Tryd.prog 38 := ⟨_, Tryd.func38, by kernel_rfl, rfl⟩
theorem sli_27 : SliceIs Tryd.prog 27 24 4 := ⟨Tryd.underlying27, by kernel_rfl⟩
theorem call_22 : Callable Tryd.prog 22 := ⟨_, Tryd.func22, by kernel_rfl, rfl⟩
theorem call_50 : Callable Tryd.prog 50 := ⟨_, Tryd.func50, by kernel_rfl, rfl⟩
theorem call_31 : Callable Tryd.prog 31 := ⟨_, Tryd.func31, by kernel_rfl, rfl⟩
theorem call_21 : Callable Tryd.prog 21 := ⟨_, Tryd.func21, by kernel_rfl, rfl⟩
theorem call_24 : Callable Tryd.prog 24 := ⟨_, Tryd.func24, by kernel_rfl, rfl⟩
theorem call_73 : Callable Tryd.prog 73 := ⟨_, Tryd.func73, by kernel_rfl, rfl⟩
theorem call_45 : Callable Tryd.prog 45 := ⟨_, Tryd.func45, by kernel_rfl, rfl⟩
theorem call_23 : Callable Tryd.prog 23 := ⟨_, Tryd.func23, by kernel_rfl, rfl⟩
theorem call_80 : Callable Tryd.prog 80 := ⟨_, Tryd.func80, by kernel_rfl, rfl⟩
theorem app_27 : AppIs Tryd.prog 27 24 4 16 := ⟨Tryd.underlying27, app_of (by kernel_rfl)⟩
theorem call_75 : Callable Tryd.prog 75 := ⟨_, Tryd.func75, by kernel_rfl, rfl⟩
theorem fld_108_0 : FieldIs Tryd.prog 108 0 0 := ⟨_, _, 0, Tryd.underlying108, rfl, rfl, by kernel_rfl⟩
theorem one_27 : OneIs Tryd.prog 27 := ⟨_, Tryd.underlying27, rfl, by kernel_rfl⟩
theorem fld_108_1 : FieldIs Tryd.prog 108 1 1 := ⟨_, _, 0, Tryd.underlying108, rfl, rfl, by kernel_rfl⟩
theorem siz_4 : (Tryd.prog.info? 4).map (·.size) = some 1 := by kernel_rfl
theorem siz_27 : (Tryd.prog.info? 27).map (·.size) = some 1 := by kernel_rfl
theorem one_4 : OneIs Tryd.prog 4 := ⟨_, Tryd.underlying4, rfl, by kernel_rfl⟩
theorem call_89 : Callable Tryd.prog 89 := ⟨_, Tryd.func89, by kernel_rfl, rfl⟩
theorem call_67 : Callable Tryd.prog 67 := ⟨_, Tryd.func67, by kernel_rfl, rfl⟩
theorem call_42 : Callable Tryd.prog 42 := ⟨_, Tryd.func42, by kernel_rfl, rfl⟩
theorem call_68 : Callable Tryd.prog 68 := ⟨_, Tryd.func68, by kernel_rfl, rfl⟩
theorem dgis : DgIs Tryd.prog 24 22 := ⟨Tryd.underlying24, Tryd.underlying22, by kernel_rfl, by kernel_rfl⟩
theorem eq_24 : EqIs Tryd.prog 24 Dg.val := eq_dg dgis (by kernel_rfl)
theorem app_103 : AppIs Tryd.prog 103 3 1 8 := ⟨Tryd.underlying103, app_of (by kernel_rfl)⟩
theorem one_28 : OneIs Tryd.prog 28 := ⟨_, Tryd.underlying28, rfl, by kernel_rfl⟩
theorem sli_28 : SliceIs Tryd.prog 28 24 4 := ⟨Tryd.underlying28, by kernel_rfl⟩
theorem one_103 : OneIs Tryd.prog 103 := ⟨_, Tryd.underlying103, rfl, by kernel_rfl⟩
theorem sli_103 : SliceIs Tryd.prog 103 3 1 := ⟨Tryd.underlying103, by kernel_rfl⟩
theorem call_66 : Callable Tryd.prog 66 := ⟨_, Tryd.func66, by kernel_rfl, rfl⟩
theorem call_65 : Callable Tryd.prog 65 := ⟨_, Tryd.func65, by kernel_rfl, rfl⟩
theorem call_63 : Callable Tryd.prog 63 := ⟨_, Tryd.func63, by kernel_rfl, rfl⟩
theorem zero_103 : (Tryd.prog.info? 103).bind (·.zero) = some (Value.slice none 0 0) := by kernel_rfl
theorem siz_103 : (Tryd.prog.info? 103).map (·.size) = some 1 := by kernel_rfl
theorem call_64 : Callable Tryd.prog 64 := ⟨_, Tryd.func64, by kernel_rfl, rfl⟩
theorem call_95 : Callable Tryd.prog 95 := ⟨_, Tryd.func95, by kernel_rfl, rfl⟩
theorem call_94 : Callable Tryd.prog 94 := ⟨_, Tryd.func94, by kernel_rfl, rfl⟩
theorem call_90 : Callable Tryd.prog 90 := ⟨_, Tryd.func90, by kernel_rfl, rfl⟩
theorem call_69 : Callable Tryd.prog 69 := ⟨_, Tryd.func69, by kernel_rfl, rfl⟩
theorem call_70 : Callable Tryd.prog 70 := ⟨_, Tryd.func70, by kernel_rfl, rfl⟩
theorem call_71 : Callable Tryd.prog 71 := ⟨_, Tryd.func71, by kernel_rfl, rfl⟩
theorem fld_30_2 : FieldIs Tryd.prog 30 2 2 := ⟨_, _, 0, Tryd.underlying30, rfl, rfl, by kernel_rfl⟩
theorem fld_30_1 : FieldIs Tryd.prog 30 1 1 := ⟨_, _, 0, Tryd.underlying30, rfl, rfl, by kernel_rfl⟩
theorem call_40 : Callable Tryd.prog 40 := ⟨_, Tryd.func40, by kernel_rfl, rfl⟩
theorem fld_30_0 : FieldIs Tryd.prog 30 0 0 := ⟨_, _, 0, Tryd.underlying30, rfl, rfl, by kernel_rfl⟩
theorem call_41 : Callable Tryd.prog 41 := ⟨_, Tryd.func41, by kernel_rfl, rfl⟩
theorem call_79 : Callable Tryd.prog 79 := ⟨_, Tryd.func79, by kernel_rfl, rfl⟩
theorem call_78 : Callable Tryd.prog 78 := ⟨_, Tryd.func78, by kernel_rfl, rfl⟩
theorem app_28 : AppIs Tryd.prog 28 24 4 16 := ⟨Tryd.underlying28, app_of (by kernel_rfl)⟩
theorem arr_112 : ArrIs Tryd.prog 112 5 22 1 := ⟨Tryd.underlying112, by kernel_rfl⟩
theorem zero_112 : (Tryd.prog.info? 112).bind (·.zero) = some (Value.agg #[w32 (0), w32 (0), w32 (0), w32 (0), w32 (0)]) := by kernel_rfl
theorem call_51 : Callable Tryd.prog 51 := ⟨_, Tryd.func51, by kernel_rfl, rfl⟩
theorem call_77 : Callable Tryd.prog 77 := ⟨_, Tryd.func77, by kernel_rfl, rfl⟩
theorem call_52 : Callable Tryd.prog 52 := ⟨_, Tryd.func52, by kernel_rfl, rfl⟩
theorem call_30 : Callable Tryd.prog 30 := ⟨_, Tryd.func30, by kernel_rfl, rfl⟩
theorem call_32 : Callable Tryd.prog 32 := ⟨_, Tryd.func32, by kernel_rfl, rfl⟩
theorem zero_45 : (Tryd.prog.info? 45).bind (·.zero) = some (Value.agg #[w32 (Dg.zero).a, w32 (Dg.zero).b, w32 (Dg.zero).c, w32 (Dg.zero).d, i64 ((0 : Nat) : Int), i64 ((0 : Nat) : Int)]) := by kernel_rfl
theorem siz_45 : (Tryd.prog.info? 45).map (·.size) = some 6 := by kernel_rfl
theorem row_45 : RowIs Tryd.prog 45 6 := ⟨_, Tryd.underlying45, rfl, by kernel_rfl⟩
theorem zero_30 : (Tryd.prog.info? 30).bind (·.zero) = some (Value.agg #[i64 ((0 : Nat) : Int), Value.slice none 0 0, Value.slice none 0 0]) := by kernel_rfl
theorem siz_30 : (Tryd.prog.info? 30).map (·.size) = some 3 := by kernel_rfl
theorem row_30 : RowIs Tryd.prog 30 3 := ⟨_, Tryd.underlying30, rfl, by kernel_rfl⟩
theorem call_53 : Callable Tryd.prog 53 := ⟨_, Tryd.func53, by kernel_rfl, rfl⟩
theorem call_54 : Callable Tryd.prog 54 := ⟨_, Tryd.func54, by kernel_rfl, rfl⟩
theorem fld_45_1 : FieldIs Tryd.prog 45 1 4 := ⟨_, _, 0, Tryd.underlying45, rfl, rfl, by kernel_rfl⟩
theorem fld_45_2 : FieldIs Tryd.prog 45 2 5 := ⟨_, _, 0, Tryd.underlying45, rfl, rfl, by kernel_rfl⟩
theorem fld_45_0 : FieldIs Tryd.prog 45 0 0 := ⟨_, _, 3, Tryd.underlying45, rfl, rfl, by kernel_rfl⟩
theorem call_33 : Callable Tryd.prog 33 := ⟨_, Tryd.func33, by kernel_rfl, rfl⟩
theorem siz_3 : (Tryd.prog.info? 3).map (·.size) = some 1 := by kernel_rfl
theorem call_76 : Callable Tryd.prog 76 := ⟨_, Tryd.func76, by kernel_rfl, rfl⟩
theorem call_39 : Callable Tryd.prog 39 := ⟨_, Tryd.func39, by kernel_rfl, rfl⟩
theorem call_49 : Callable Tryd.prog 49 := ⟨_, Tryd.func49, by kernel_rfl, rfl⟩
theorem call_74 : Callable Tryd.prog 74 := ⟨_, Tryd.func74, by kernel_rfl, rfl⟩
theorem call_46 : Callable Tryd.prog 46 := ⟨_, Tryd.func46, by kernel_rfl, rfl⟩
theorem call_47 : Callable Tryd.prog 47 := ⟨_, Tryd.func47, by kernel_rfl, rfl⟩
theorem call_48 : Callable Tryd.prog 48 := ⟨_, Tryd.func48, by kernel_rfl, rfl⟩
theorem fld_26_0 : FieldIs Tryd.prog 26 0 0 := ⟨_, _, 3, Tryd.underlying26, rfl, rfl, by kernel_rfl⟩
theorem fld_26_1 : FieldIs Tryd.prog 26 1 4 := ⟨_, _, 3, Tryd.underlying26, rfl, rfl, by kernel_rfl⟩
theorem row_26 : RowIs Tryd.prog 26 8 := ⟨_, Tryd.underlying26, rfl, by kernel_rfl⟩
theorem call_25 : Callable Tryd.prog 25 := ⟨_, Tryd.func25, by kernel_rfl, rfl⟩
theorem fld_32_0 : FieldIs Tryd.prog 32 0 0 := ⟨_, _, 3, Tryd.underlying32, rfl, rfl, by kernel_rfl⟩
theorem call_10 : Callable Tryd.prog 10 := ⟨_, Tryd.func10, by kernel_rfl, rfl⟩
theorem fld_32_1 : FieldIs Tryd.prog 32 1 4 := ⟨_, _, 2, Tryd.underlying32, rfl, rfl, by kernel_rfl⟩
theorem call_26 : Callable Tryd.prog 26 := ⟨_, Tryd.func26, by kernel_rfl, rfl⟩
theorem call_11 : Callable Tryd.prog 11 := ⟨_, Tryd.func11, by kernel_rfl, rfl⟩
theorem row_32 : RowIs Tryd.prog 32 7 := ⟨_, Tryd.underlying32, rfl, by kernel_rfl⟩
theorem call_12 : Callable Tryd.prog 12 := ⟨_, Tryd.func12, by kernel_rfl, rfl⟩
theorem zero_32 : (Tryd.prog.info? 32).bind (·.zero) = some (Value.agg #[w32 (Dg.zero).a, w32 (Dg.zero).b, w32 (Dg.zero).c, w32 (Dg.zero).d, i64 ((0 : Nat) : Int), Value.slice none 0 0, Value.slice none 0 0]) := by kernel_rfl
theorem call_28 : Callable Tryd.prog 28 := ⟨_, Tryd.func28, by kernel_rfl, rfl⟩
theorem call_29 : Callable Tryd.prog 29 := ⟨_, Tryd.func29, by kernel_rfl, rfl⟩
theorem siz_32 : (Tryd.prog.info? 32).map (·.size) = some 7 := by kernel_rfl
theorem zero_26 : (Tryd.prog.info? 26).bind (·.zero) = some (Value.agg #[w32 (Dg.zero).a, w32 (Dg.zero).b, w32 (Dg.zero).c, w32 (Dg.zero).d, w32 (Dg.zero).a, w32 (Dg.zero).b, w32 (Dg.zero).c, w32 (Dg.zero).d]) := by kernel_rfl
theorem siz_26 : (Tryd.prog.info? 26).map (·.size) = some 8 := by kernel_rfl
theorem call_16 : Callable Tryd.prog 16 := ⟨_, Tryd.func16, by kernel_rfl, rfl⟩
theorem call_14 : Callable Tryd.prog 14 := ⟨_, Tryd.func14, by kernel_rfl, rfl⟩
end Go.Proofs.YtmmghpbncejfiaaDoor
