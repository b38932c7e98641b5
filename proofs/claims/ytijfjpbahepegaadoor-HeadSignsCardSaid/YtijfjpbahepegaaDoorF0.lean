/- Closed facts of the program's types and functions. -/
import Derived.Test.YtijfjpbahepegaaDoorChecked
import Derived.Test.YtijfjpbahepegaaDoorK
set_option maxRecDepth 100000
namespace Go.Proofs.YtijfjpbahepegaaDoor
open Go Go.RowKit Sk Sd
theorem mixed : Tryd.prog.follows .mixedOrders = true := by kernel_rfl
theorem app_of {P : Program} {e size bytes : Nat} (h : ((P.info? e).bind fun i => i.zero.map fun z => (i.size, i.bytes, z.cells.size)) = some (size, bytes, size)) : ∃ i z, P.info? e = some i ∧ i.zero = some z ∧ i.size = size ∧ i.bytes = bytes ∧ z.cells.size = size := by
  cases hi : P.info? e with
  | none => simp [hi] at h
  | some i =>
    cases hz : i.zero with
    | none => simp [hi, hz] at h
    | some z => simp [hi, hz] at h; exact ⟨i, z, rfl, hz, h.1, h.2.1, h.2.2⟩

theorem call_111 : Callable Tryd.prog 111 := ⟨_, Tryd.func111, by kernel_rfl, rfl⟩
theorem zero_133 : (Tryd.prog.info? 133).bind (·.zero) = some (Value.agg #[i64 ((0 : Nat) : Int), i64 ((0 : Nat) : Int), i64 ((0 : Nat) : Int), i64 ((0 : Nat) : Int)]) := by kernel_rfl
theorem siz_133 : (Tryd.prog.info? 133).map (·.size) = some 4 := by kernel_rfl
theorem row_133 : RowIs Tryd.prog 133 4 := ⟨_, Tryd.underlying133, rfl, by kernel_rfl⟩
theorem zero_88 : (Tryd.prog.info? 88).bind (·.zero) = some (Value.agg #[w32 (0), w32 (0), w32 (0), w32 (0), w32 (0), w32 (0), w32 (0), w32 (0)]) := by kernel_rfl
theorem arr_88 : ArrIs Tryd.prog 88 8 25 1 := ⟨Tryd.underlying88, by kernel_rfl⟩
theorem one_25 : OneIs Tryd.prog 25 := ⟨_, Tryd.underlying25, rfl, by kernel_rfl⟩
theorem siz_25 : (Tryd.prog.info? 25).map (·.size) = some 1 := by kernel_rfl
theorem arr_133 : ArrIs Tryd.prog 133 4 3 1 := ⟨Tryd.underlying133, by kernel_rfl⟩
theorem one_3 : OneIs Tryd.prog 3 := ⟨_, Tryd.underlying3, rfl, by kernel_rfl⟩
theorem call_104 : Callable Tryd.prog 104 := ⟨_, Tryd.func104, by kernel_rfl, rfl⟩
theorem row_88 : RowIs Tryd.prog 88 8 := ⟨_, Tryd.underlying88, rfl, by kernel_rfl⟩
theorem siz_88 : (Tryd.prog.info? 88).map (·.size) = some 8 := by kernel_rfl
theorem call_88 : Callable Tryd.prog 88 := ⟨_, Tryd.func88, by kernel_rfl, rfl⟩
theorem call_89 : Callable Tryd.prog 89 := ⟨_, Tryd.func89, by kernel_rfl, rfl⟩
theorem zero_27 : (Tryd.prog.info? 27).bind (·.zero) = some (Dg.val (Dg.zero)) := by kernel_rfl
theorem sli_81 : SliceIs Tryd.prog 81 25 1 := ⟨Tryd.underlying81, by kernel_rfl⟩
theorem call_81 : Callable Tryd.prog 81 := ⟨_, Tryd.func81, by kernel_rfl, rfl⟩
theorem arr_27 : ArrIs Tryd.prog 27 4 25 1 := ⟨Tryd.underlying27, by kernel_rfl⟩
theorem row_27 : RowIs Tryd.prog 27 4 := ⟨_, Tryd.underlying27, rfl, by kernel_rfl⟩
theorem siz_27 : (Tryd.prog.info? 27).map (·.size) = some 4 := by kernel_rfl
theorem call_68 : Callable Tryd.prog 68 := ⟨_, Tryd.func68, by kernel_rfl, rfl⟩
theorem app_81 : AppIs Tryd.prog 81 25 1 4 := ⟨Tryd.underlying81, app_of (by kernel_rfl)⟩
theorem call_62 : Callable Tryd.prog 62 := ⟨_, Tryd.func62, by kernel_rfl, rfl⟩
theorem call_51 : Callable Tryd.prog 51 := ⟨_, Tryd.func51, by kernel_rfl, rfl⟩
theorem app_101 : AppIs Tryd.prog 101 5 1 1 := ⟨Tryd.underlying101, app_of (by kernel_rfl)⟩
theorem call_63 : Callable Tryd.prog 63 := ⟨_, Tryd.func63, by kernel_rfl, rfl⟩
theorem call_43 : Callable Tryd.prog 43 := ⟨_, Tryd.func43, by kernel_rfl, rfl⟩
theorem call_64 : Callable Tryd.prog 64 := ⟨_, Tryd.func64, by kernel_rfl, rfl⟩
theorem call_60 : Callable Tryd.prog 60 := ⟨_, Tryd.func60, by kernel_rfl, rfl⟩
theorem sli_41 : SliceIs Tryd.prog 41 27 4 := ⟨Tryd.underlying41, by kernel_rfl⟩
theorem call_42 : Callable Tryd.prog 42 := ⟨_, Tryd.func42, by kernel_rfl, rfl⟩
theorem call_49 : Callable Tryd.prog 49 := ⟨_, Tryd.func49, by kernel_rfl, rfl⟩
theorem call_37 : Callable Tryd.prog 37 := ⟨_, Tryd.func37, by kernel_rfl, rfl⟩
theorem call_41 : Callable Tryd.prog 41 := ⟨_, Tryd.func41, by kernel_rfl, rfl⟩
theorem call_38 : Callable Tryd.prog 38 := ⟨_, Tryd.func38, by kernel_rfl, rfl⟩
theorem fld_24_0 : FieldIs Tryd.prog 24 0 0 := ⟨_, _, 0, Tryd.underlying24, rfl, rfl, by kernel_rfl⟩
theorem one_22 : OneIs Tryd.prog 22 := ⟨_, Tryd.underlying22, rfl, by kernel_rfl⟩
theorem sli_22 : SliceIs Tryd.prog 22 9 1 := ⟨Tryd.underlying22, by kernel_rfl⟩
theorem one_9 : OneIs Tryd.prog 9 := ⟨_, Tryd.underlying9, rfl, by kernel_rfl⟩
theorem app_41 : AppIs Tryd.prog 41 27 4 16 := ⟨Tryd.underlying41, app_of (by kernel_rfl)⟩
theorem row_24 : RowIs Tryd.prog 24 1 := ⟨_, Tryd.underlying24, rfl, by kernel_rfl⟩
theorem call_65 : Callable Tryd.prog 65 := ⟨_, Tryd.func65, by kernel_rfl, rfl⟩
theorem zero_29 : (Tryd.prog.info? 29).bind (·.zero) = some (Value.agg #[i64 ((0 : Nat) : Int), w32 (Dg.zero).a, w32 (Dg.zero).b, w32 (Dg.zero).c, w32 (Dg.zero).d]) := by kernel_rfl
theorem call_45 : Callable Tryd.prog 45 := ⟨_, Tryd.func45, by kernel_rfl, rfl⟩
theorem siz_29 : (Tryd.prog.info? 29).map (·.size) = some 5 := by kernel_rfl
theorem row_29 : RowIs Tryd.prog 29 5 := ⟨_, Tryd.underlying29, rfl, by kernel_rfl⟩
theorem dgis : DgIs Tryd.prog 27 25 := ⟨Tryd.underlying27, Tryd.underlying25, by kernel_rfl, by kernel_rfl⟩
theorem eq_27 : EqIs Tryd.prog 27 Dg.val := eq_dg dgis (by kernel_rfl)
theorem fld_29_0 : FieldIs Tryd.prog 29 0 0 := ⟨_, _, 0, Tryd.underlying29, rfl, rfl, by kernel_rfl⟩
theorem call_18 : Callable Tryd.prog 18 := ⟨_, Tryd.func18, by kernel_rfl, rfl⟩
theorem eq_29 : EqIs Tryd.prog 29 Head.val := eq_head ⟨by kernel_rfl, by kernel_rfl, by kernel_rfl, by kernel_rfl⟩ Tryd.underlying3 dgis (by kernel_rfl)
theorem fld_29_1 : FieldIs Tryd.prog 29 1 1 := ⟨_, _, 3, Tryd.underlying29, rfl, rfl, by kernel_rfl⟩
theorem app_22 : AppIs Tryd.prog 22 9 1 16 := ⟨Tryd.underlying22, app_of (by kernel_rfl)⟩
theorem zero_24 : (Tryd.prog.info? 24).bind (·.zero) = some (Value.agg #[Value.slice none 0 0]) := by kernel_rfl
theorem siz_24 : (Tryd.prog.info? 24).map (·.size) = some 1 := by kernel_rfl
theorem call_14 : Callable Tryd.prog 14 := ⟨_, Tryd.func14, by kernel_rfl, rfl⟩
theorem call_103 : Callable Tryd.prog 103 := ⟨_, Tryd.func103, by kernel_rfl, rfl⟩
theorem fld_108_0 : FieldIs Tryd.prog 108 0 0 := ⟨_, _, 0, Tryd.underlying108, rfl, rfl, by kernel_rfl⟩
theorem one_41 : OneIs Tryd.prog 41 := ⟨_, Tryd.underlying41, rfl, by kernel_rfl⟩
theorem fld_108_1 : FieldIs Tryd.prog 108 1 1 := ⟨_, _, 0, Tryd.underlying108, rfl, rfl, by kernel_rfl⟩
theorem siz_4 : (Tryd.prog.info? 4).map (·.size) = some 1 := by kernel_rfl
theorem siz_41 : (Tryd.prog.info? 41).map (·.size) = some 1 := by kernel_rfl
theorem one_4 : OneIs Tryd.prog 4 := ⟨_, Tryd.underlying4, rfl, by kernel_rfl⟩
theorem call_90 : Callable Tryd.prog 90 := ⟨_, Tryd.func90, by kernel_rfl, rfl⟩
theorem call_95 : Callable Tryd.prog 95 := ⟨_, Tryd.func95, by kernel_rfl, rfl⟩
theorem call_69 : Callable Tryd.prog 69 := ⟨_, Tryd.func69, by kernel_rfl, rfl⟩
theorem call_71 : Callable Tryd.prog 71 := ⟨_, Tryd.func71, by kernel_rfl, rfl⟩
theorem siz_3 : (Tryd.prog.info? 3).map (·.size) = some 1 := by kernel_rfl
theorem app_137 : AppIs Tryd.prog 137 3 1 8 := ⟨Tryd.underlying137, app_of (by kernel_rfl)⟩
theorem one_55 : OneIs Tryd.prog 55 := ⟨_, Tryd.underlying55, rfl, by kernel_rfl⟩
theorem sli_55 : SliceIs Tryd.prog 55 27 4 := ⟨Tryd.underlying55, by kernel_rfl⟩
theorem one_137 : OneIs Tryd.prog 137 := ⟨_, Tryd.underlying137, rfl, by kernel_rfl⟩
theorem sli_137 : SliceIs Tryd.prog 137 3 1 := ⟨Tryd.underlying137, by kernel_rfl⟩
theorem call_94 : Callable Tryd.prog 94 := ⟨_, Tryd.func94, by kernel_rfl, rfl⟩
theorem call_93 : Callable Tryd.prog 93 := ⟨_, Tryd.func93, by kernel_rfl, rfl⟩
theorem call_91 : Callable Tryd.prog 91 := ⟨_, Tryd.func91, by kernel_rfl, rfl⟩
theorem zero_137 : (Tryd.prog.info? 137).bind (·.zero) = some (Value.slice none 0 0) := by kernel_rfl
theorem siz_137 : (Tryd.prog.info? 137).map (·.size) = some 1 := by kernel_rfl
theorem call_92 : Callable Tryd.prog 92 := ⟨_, Tryd.func92, by kernel_rfl, rfl⟩
theorem fld_57_2 : FieldIs Tryd.prog 57 2 2 := ⟨_, _, 0, Tryd.underlying57, rfl, rfl, by kernel_rfl⟩
theorem fld_57_1 : FieldIs Tryd.prog 57 1 1 := ⟨_, _, 0, Tryd.underlying57, rfl, rfl, by kernel_rfl⟩
theorem call_73 : Callable Tryd.prog 73 := ⟨_, Tryd.func73, by kernel_rfl, rfl⟩
theorem fld_57_0 : FieldIs Tryd.prog 57 0 0 := ⟨_, _, 0, Tryd.underlying57, rfl, rfl, by kernel_rfl⟩
theorem call_74 : Callable Tryd.prog 74 := ⟨_, Tryd.func74, by kernel_rfl, rfl⟩
theorem fld_59_0 : FieldIs Tryd.prog 59 0 0 := ⟨_, _, 3, Tryd.underlying59, rfl, rfl, by kernel_rfl⟩
theorem call_16 : Callable Tryd.prog 16 := ⟨_, Tryd.func16, by kernel_rfl, rfl⟩
theorem fld_59_1 : FieldIs Tryd.prog 59 1 4 := ⟨_, _, 2, Tryd.underlying59, rfl, rfl, by kernel_rfl⟩
theorem row_57 : RowIs Tryd.prog 57 3 := ⟨_, Tryd.underlying57, rfl, by kernel_rfl⟩
theorem call_55 : Callable Tryd.prog 55 := ⟨_, Tryd.func55, by kernel_rfl, rfl⟩
theorem call_102 : Callable Tryd.prog 102 := ⟨_, Tryd.func102, by kernel_rfl, rfl⟩
theorem call_101 : Callable Tryd.prog 101 := ⟨_, Tryd.func101, by kernel_rfl, rfl⟩
theorem app_55 : AppIs Tryd.prog 55 27 4 16 := ⟨Tryd.underlying55, app_of (by kernel_rfl)⟩
theorem arr_143 : ArrIs Tryd.prog 143 5 25 1 := ⟨Tryd.underlying143, by kernel_rfl⟩
theorem zero_143 : (Tryd.prog.info? 143).bind (·.zero) = some (Value.agg #[w32 (0), w32 (0), w32 (0), w32 (0), w32 (0)]) := by kernel_rfl
theorem call_77 : Callable Tryd.prog 77 := ⟨_, Tryd.func77, by kernel_rfl, rfl⟩
theorem call_100 : Callable Tryd.prog 100 := ⟨_, Tryd.func100, by kernel_rfl, rfl⟩
theorem call_78 : Callable Tryd.prog 78 := ⟨_, Tryd.func78, by kernel_rfl, rfl⟩
theorem call_57 : Callable Tryd.prog 57 := ⟨_, Tryd.func57, by kernel_rfl, rfl⟩
theorem call_58 : Callable Tryd.prog 58 := ⟨_, Tryd.func58, by kernel_rfl, rfl⟩
theorem zero_63 : (Tryd.prog.info? 63).bind (·.zero) = some (Value.agg #[w32 (Dg.zero).a, w32 (Dg.zero).b, w32 (Dg.zero).c, w32 (Dg.zero).d, i64 ((0 : Nat) : Int), i64 ((0 : Nat) : Int)]) := by kernel_rfl
theorem siz_63 : (Tryd.prog.info? 63).map (·.size) = some 6 := by kernel_rfl
theorem row_63 : RowIs Tryd.prog 63 6 := ⟨_, Tryd.underlying63, rfl, by kernel_rfl⟩
theorem zero_57 : (Tryd.prog.info? 57).bind (·.zero) = some (Value.agg #[i64 ((0 : Nat) : Int), Value.slice none 0 0, Value.slice none 0 0]) := by kernel_rfl
theorem siz_57 : (Tryd.prog.info? 57).map (·.size) = some 3 := by kernel_rfl
theorem call_79 : Callable Tryd.prog 79 := ⟨_, Tryd.func79, by kernel_rfl, rfl⟩
theorem call_80 : Callable Tryd.prog 80 := ⟨_, Tryd.func80, by kernel_rfl, rfl⟩
theorem fld_63_1 : FieldIs Tryd.prog 63 1 4 := ⟨_, _, 0, Tryd.underlying63, rfl, rfl, by kernel_rfl⟩
theorem fld_63_2 : FieldIs Tryd.prog 63 2 5 := ⟨_, _, 0, Tryd.underlying63, rfl, rfl, by kernel_rfl⟩
theorem fld_63_0 : FieldIs Tryd.prog 63 0 0 := ⟨_, _, 3, Tryd.underlying63, rfl, rfl, by kernel_rfl⟩
theorem call_59 : Callable Tryd.prog 59 := ⟨_, Tryd.func59, by kernel_rfl, rfl⟩
end Go.Proofs.YtijfjpbahepegaaDoor
