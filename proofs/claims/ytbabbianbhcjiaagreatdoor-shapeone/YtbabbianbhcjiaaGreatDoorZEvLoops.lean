/- The loops of the laid functions: what is alive at their heads; what comes behind them. -/
import Derived.Test.YtbabbianbhcjiaaGreatDoorZCEq
import Derived.Test.YtbabbianbhcjiaaGreatDoorZEvCode
set_option linter.all false
namespace Go.Proofs.YtbabbianbhcjiaaGreatDoor
open Go
set_option maxRecDepth 100000

/- bodkin/bodkinlaw09.ShapeNest loop 0: t0 , t1 , t7 , t8  -/
abbrev S_bodkinlaw09_ShapeNest_0 (t0 t1 t7 t8 : AV) (h : List AO) : St := ⟨ofE 75 [(0,t0),(1,t1),(7,t7),(8,t8)],h⟩
noncomputable abbrev K_bodkinlaw09_ShapeNest_0 (L : Lay) (kb : Nat) (x : Option (Ex × St)) : Option (AV × List AO) := (retK [.tmp 4] true kb (seqK L kb (blockK 0 x) A5_c1))
/- bodkin/bodkinref09.Fits loop 0: t1 , t3 , t11  -/
abbrev S_bodkinref09_Fits_0 (t1 t3 t11 : AV) (h : List AO) : St := ⟨ofE 264 [(1,t1),(3,t3),(11,t11)],h⟩
noncomputable abbrev K_bodkinref09_Fits_0 (L : Lay) (kb : Nat) (x : Option (Ex × St)) : Option (AV × List AO) := (retK [.tmp 2] true kb (seqK L kb (blockK 14 x) A10_c0))
/- bodkin/bodkinref09.Fits loop 1: t1 , t3 , t9  -/
abbrev S_bodkinref09_Fits_1 (t1 t3 t9 : AV) (h : List AO) : St := ⟨ofE 264 [(1,t1),(3,t3),(9,t9)],h⟩
noncomputable abbrev K_bodkinref09_Fits_1 (L : Lay) (kb : Nat) (x : Option (Ex × St)) : Option (AV × List AO) := (retK [.tmp 2] true kb (seqK L kb (blockK 10 x) A10_c4))
/- bodkin/bodkinref09.Fits loop 2: t1 , t3 , t9 , t10  -/
abbrev S_bodkinref09_Fits_2 (t1 t3 t9 t10 : AV) (h : List AO) : St := ⟨ofE 264 [(1,t1),(3,t3),(9,t9),(10,t10)],h⟩
noncomputable abbrev K_bodkinref09_Fits_2 (L : Lay) (kb : Nat) (x : Option (Ex × St)) : Option (AV × List AO) := (retK [.tmp 2] true kb (seqK L kb (blockK 10 (seqK L kb (seqK L kb (seqK L kb (blockK 11 (blockK 12 x)) A10_c5) .gc) (.loop A10_l1))) A10_c4))
/- bodkin/bodkinref09.Fits loop 3: t1 , t3 , t8  -/
abbrev S_bodkinref09_Fits_3 (t1 t3 t8 : AV) (h : List AO) : St := ⟨ofE 264 [(1,t1),(3,t3),(8,t8)],h⟩
noncomputable abbrev K_bodkinref09_Fits_3 (L : Lay) (kb : Nat) (x : Option (Ex × St)) : Option (AV × List AO) := (retK [.tmp 2] true kb (seqK L kb (blockK 8 x) A10_c10))
/- bodkin/bodkinref09.Fits loop 4: t1 , t3 , t7  -/
abbrev S_bodkinref09_Fits_4 (t1 t3 t7 : AV) (h : List AO) : St := ⟨ofE 264 [(1,t1),(3,t3),(7,t7)],h⟩
noncomputable abbrev K_bodkinref09_Fits_4 (L : Lay) (kb : Nat) (x : Option (Ex × St)) : Option (AV × List AO) := (retK [.tmp 2] true kb (seqK L kb (blockK 6 x) A10_c13))
/- bodkin/bodkinref09.Fits loop 5: t1 , t3 , t6  -/
abbrev S_bodkinref09_Fits_5 (t1 t3 t6 : AV) (h : List AO) : St := ⟨ofE 264 [(1,t1),(3,t3),(6,t6)],h⟩
noncomputable abbrev K_bodkinref09_Fits_5 (L : Lay) (kb : Nat) (x : Option (Ex × St)) : Option (AV × List AO) := (retK [.tmp 2] true kb (seqK L kb (blockK 4 x) A10_c17))
/- bodkin/bodkinref09.Fits loop 6: t1 , t3 , t5  -/
abbrev S_bodkinref09_Fits_6 (t1 t3 t5 : AV) (h : List AO) : St := ⟨ofE 264 [(1,t1),(3,t3),(5,t5)],h⟩
noncomputable abbrev K_bodkinref09_Fits_6 (L : Lay) (kb : Nat) (x : Option (Ex × St)) : Option (AV × List AO) := (retK [.tmp 2] true kb (seqK L kb (blockK 2 x) A10_c20))
/- bodkin/bodkinref09.Fits loop 7: t1 , t3 , t4  -/
abbrev S_bodkinref09_Fits_7 (t1 t3 t4 : AV) (h : List AO) : St := ⟨ofE 264 [(1,t1),(3,t3),(4,t4)],h⟩
noncomputable abbrev K_bodkinref09_Fits_7 (L : Lay) (kb : Nat) (x : Option (Ex × St)) : Option (AV × List AO) := (retK [.tmp 2] true kb (seqK L kb (blockK 0 x) A10_c23))
/- bodkin/bodkinref09.May loop 0: t1 , t3 , t22  -/
abbrev S_bodkinref09_May_0 (t1 t3 t22 : AV) (h : List AO) : St := ⟨ofE 230 [(1,t1),(3,t3),(22,t22)],h⟩
noncomputable abbrev K_bodkinref09_May_0 (L : Lay) (kb : Nat) (x : Option (Ex × St)) : Option (AV × List AO) := (retK [.tmp 2] true kb (seqK L kb (blockK 12 x) A12_c0))
/- bodkin/bodkinref09.May loop 1: t1 , t3 , t19  -/
abbrev S_bodkinref09_May_1 (t1 t3 t19 : AV) (h : List AO) : St := ⟨ofE 230 [(1,t1),(3,t3),(19,t19)],h⟩
noncomputable abbrev K_bodkinref09_May_1 (L : Lay) (kb : Nat) (x : Option (Ex × St)) : Option (AV × List AO) := (retK [.tmp 2] true kb (seqK L kb (blockK 10 x) A12_c6))
/- bodkin/bodkinref09.May loop 2: t1 , t3 , t17  -/
abbrev S_bodkinref09_May_2 (t1 t3 t17 : AV) (h : List AO) : St := ⟨ofE 230 [(1,t1),(3,t3),(17,t17)],h⟩
noncomputable abbrev K_bodkinref09_May_2 (L : Lay) (kb : Nat) (x : Option (Ex × St)) : Option (AV × List AO) := (retK [.tmp 2] true kb (seqK L kb (blockK 8 x) A12_c11))
/- bodkin/bodkinref09.May loop 3: t1 , t3 , t15  -/
abbrev S_bodkinref09_May_3 (t1 t3 t15 : AV) (h : List AO) : St := ⟨ofE 230 [(1,t1),(3,t3),(15,t15)],h⟩
noncomputable abbrev K_bodkinref09_May_3 (L : Lay) (kb : Nat) (x : Option (Ex × St)) : Option (AV × List AO) := (retK [.tmp 2] true kb (seqK L kb (blockK 6 x) A12_c15))
/- bodkin/bodkinref09.May loop 4: t1 , t3 , t9  -/
abbrev S_bodkinref09_May_4 (t1 t3 t9 : AV) (h : List AO) : St := ⟨ofE 230 [(1,t1),(3,t3),(9,t9)],h⟩
noncomputable abbrev K_bodkinref09_May_4 (L : Lay) (kb : Nat) (x : Option (Ex × St)) : Option (AV × List AO) := (retK [.tmp 2] true kb (seqK L kb (blockK 4 x) A12_c19))
/- bodkin/bodkinref09.May loop 5: t1 , t3 , t7  -/
abbrev S_bodkinref09_May_5 (t1 t3 t7 : AV) (h : List AO) : St := ⟨ofE 230 [(1,t1),(3,t3),(7,t7)],h⟩
noncomputable abbrev K_bodkinref09_May_5 (L : Lay) (kb : Nat) (x : Option (Ex × St)) : Option (AV × List AO) := (retK [.tmp 2] true kb (seqK L kb (blockK 2 x) A12_c27))
/- bodkin/bodkinref09.May loop 6: t1 , t3 , t4  -/
abbrev S_bodkinref09_May_6 (t1 t3 t4 : AV) (h : List AO) : St := ⟨ofE 230 [(1,t1),(3,t3),(4,t4)],h⟩
noncomputable abbrev K_bodkinref09_May_6 (L : Lay) (kb : Nat) (x : Option (Ex × St)) : Option (AV × List AO) := (retK [.tmp 2] true kb (seqK L kb (blockK 0 x) A12_c31))
/- bodkin/shape.Nest loop 0: t3 , t6 , t7 , t8  -/
abbrev S_shape_Nest_0 (t3 t6 t7 t8 : AV) (h : List AO) : St := ⟨ofE 24 [(3,t3),(6,t6),(7,t7),(8,t8)],h⟩
noncomputable abbrev K_shape_Nest_0 (L : Lay) (kb : Nat) (x : Option (Ex × St)) : Option (AV × List AO) := (retK [.tmp 2] true kb (seqK L kb (blockK 0 x) A14_c0))
/- bodkin/bodkinref09.Nest loop 0: t0 , t3 , t4  -/
abbrev S_bodkinref09_Nest_0 (t0 t3 t4 : AV) (h : List AO) : St := ⟨ofE 36 [(0,t0),(3,t3),(4,t4)],h⟩
noncomputable abbrev K_bodkinref09_Nest_0 (L : Lay) (kb : Nat) (x : Option (Ex × St)) : Option (AV × List AO) := (retK [.tmp 2] true kb (seqK L kb (blockK 0 x) A15_c0))
/- bodkin/bodkinref09.Count loop 0: t0 , t3 , t4  -/
abbrev S_bodkinref09_Count_0 (t0 t3 t4 : AV) (h : List AO) : St := ⟨ofE 28 [(0,t0),(3,t3),(4,t4)],h⟩
noncomputable abbrev K_bodkinref09_Count_0 (L : Lay) (kb : Nat) (x : Option (Ex × St)) : Option (AV × List AO) := (retK [.tmp 2] true kb (seqK L kb (blockK 0 x) A17_c0))
/- bodkin/shape.Copy loop 0: t1 , t2 , t158 , t159  -/
abbrev S_shape_Copy_0 (t1 t2 t158 t159 : AV) (h : List AO) : St := ⟨ofE 184 [(1,t1),(2,t2),(158,t158),(159,t159)],h⟩
noncomputable abbrev K_shape_Copy_0 (L : Lay) (kb : Nat) (x : Option (Ex × St)) : Option (AV × List AO) := (retK [.cell 2 (some 11)] true kb (seqK L kb (blockK 10 x) A18_c0))
/- bodkin/shape.Copy loop 1: t1 , t2 , t112 , t113  -/
abbrev S_shape_Copy_1 (t1 t2 t112 t113 : AV) (h : List AO) : St := ⟨ofE 184 [(1,t1),(2,t2),(112,t112),(113,t113)],h⟩
noncomputable abbrev K_shape_Copy_1 (L : Lay) (kb : Nat) (x : Option (Ex × St)) : Option (AV × List AO) := (retK [.cell 2 (some 11)] true kb (seqK L kb (blockK 6 x) A18_c5))
/- bodkin/shape.Copy loop 2: t1 , t2 , t10 , t112 , t113 , t139 , t140 , t141  -/
abbrev S_shape_Copy_2 (t1 t2 t10 t112 t113 t139 t140 t141 : AV) (h : List AO) : St := ⟨ofE 184 [(1,t1),(2,t2),(10,t10),(112,t112),(113,t113),(139,t139),(140,t140),(141,t141)],h⟩
noncomputable abbrev K_shape_Copy_2 (L : Lay) (kb : Nat) (x : Option (Ex × St)) : Option (AV × List AO) := (retK [.cell 2 (some 11)] true kb (seqK L kb (blockK 6 (seqK L kb (seqK L kb (seqK L kb (blockK 7 (blockK 8 x)) A18_c6) .gc) (.loop A18_l1))) A18_c5))
/- bodkin/shape.Copy loop 3: t1 , t2 , t94 , t95 , t96  -/
abbrev S_shape_Copy_3 (t1 t2 t94 t95 t96 : AV) (h : List AO) : St := ⟨ofE 184 [(1,t1),(2,t2),(94,t94),(95,t95),(96,t96)],h⟩
noncomputable abbrev K_shape_Copy_3 (L : Lay) (kb : Nat) (x : Option (Ex × St)) : Option (AV × List AO) := (retK [.cell 2 (some 11)] true kb (seqK L kb (blockK 4 x) A18_c14))
/- bodkin/shape.Copy loop 4: t1 , t2 , t72 , t73 , t74  -/
abbrev S_shape_Copy_4 (t1 t2 t72 t73 t74 : AV) (h : List AO) : St := ⟨ofE 184 [(1,t1),(2,t2),(72,t72),(73,t73),(74,t74)],h⟩
noncomputable abbrev K_shape_Copy_4 (L : Lay) (kb : Nat) (x : Option (Ex × St)) : Option (AV × List AO) := (retK [.cell 2 (some 11)] true kb (seqK L kb (blockK 2 x) A18_c18))
/- bodkin/shape.Copy loop 5: t1 , t2 , t52 , t53 , t54  -/
abbrev S_shape_Copy_5 (t1 t2 t52 t53 t54 : AV) (h : List AO) : St := ⟨ofE 184 [(1,t1),(2,t2),(52,t52),(53,t53),(54,t54)],h⟩
noncomputable abbrev K_shape_Copy_5 (L : Lay) (kb : Nat) (x : Option (Ex × St)) : Option (AV × List AO) := (retK [.cell 2 (some 11)] true kb (seqK L kb (blockK 0 x) A18_c21))
/- bodkin/bodkinlaw09.spoil loop 0: t0 , t12  -/
abbrev S_bodkinlaw09_spoil_0 (t0 t12 : AV) (h : List AO) : St := ⟨ofE 261 [(0,t0),(12,t12)],h⟩
noncomputable abbrev K_bodkinlaw09_spoil_0 (L : Lay) (kb : Nat) (x : Option (Ex × St)) : Option (AV × List AO) := (retK [] true kb (blockK 20 x))
/- bodkin/leb.Valid loop 0: t0 , t6  -/
abbrev S_leb_Valid_0 (t0 t6 : AV) (h : List AO) : St := ⟨ofE 28 [(0,t0),(6,t6)],h⟩
noncomputable abbrev K_leb_Valid_0 (L : Lay) (kb : Nat) (x : Option (Ex × St)) : Option (AV × List AO) := (retK [.tmp 2] true kb (seqK L kb (blockK 0 x) A30_c0))
/- bodkin/bodkinref09.Vals loop 0: t0 , t3  -/
abbrev S_bodkinref09_Vals_0 (t0 t3 : AV) (h : List AO) : St := ⟨ofE 18 [(0,t0),(3,t3)],h⟩
noncomputable abbrev K_bodkinref09_Vals_0 (L : Lay) (kb : Nat) (x : Option (Ex × St)) : Option (AV × List AO) := (retK [.tmp 2] true kb (seqK L kb (blockK 0 x) A49_c0))
/- bodkin/bodkinref09.Asks loop 0: t0 , t3  -/
abbrev S_bodkinref09_Asks_0 (t0 t3 : AV) (h : List AO) : St := ⟨ofE 50 [(0,t0),(3,t3)],h⟩
noncomputable abbrev K_bodkinref09_Asks_0 (L : Lay) (kb : Nat) (x : Option (Ex × St)) : Option (AV × List AO) := (retK [.tmp 2] true kb (seqK L kb (blockK 0 x) A53_c0))
/- bodkin/bodkinref09.segments loop 0: t1 , t3 , t10  -/
abbrev S_bodkinref09_segments_0 (t1 t3 t10 : AV) (h : List AO) : St := ⟨ofE 103 [(1,t1),(3,t3),(10,t10)],h⟩
noncomputable abbrev K_bodkinref09_segments_0 (L : Lay) (kb : Nat) (x : Option (Ex × St)) : Option (AV × List AO) := (retK [.tmp 2] true kb (seqK L kb (blockK 4 x) A58_c0))
/- bodkin/bodkinref09.segments loop 1: t1 , t3 , t4  -/
abbrev S_bodkinref09_segments_1 (t1 t3 t4 : AV) (h : List AO) : St := ⟨ofE 103 [(1,t1),(3,t3),(4,t4)],h⟩
noncomputable abbrev K_bodkinref09_segments_1 (L : Lay) (kb : Nat) (x : Option (Ex × St)) : Option (AV × List AO) := (retK [.tmp 2] true kb (seqK L kb (blockK 0 x) A58_c5))
/- bodkin/bodkinref09.segments loop 2: t1 , t3 , t4 , t5 , t8  -/
abbrev S_bodkinref09_segments_2 (t1 t3 t4 t5 t8 : AV) (h : List AO) : St := ⟨ofE 103 [(1,t1),(3,t3),(4,t4),(5,t5),(8,t8)],h⟩
noncomputable abbrev K_bodkinref09_segments_2 (L : Lay) (kb : Nat) (x : Option (Ex × St)) : Option (AV × List AO) := (retK [.tmp 2] true kb (seqK L kb (blockK 0 (seqK L kb (seqK L kb (seqK L kb (blockK 1 (blockK 2 x)) A58_c6) .gc) (.loop A58_l1))) A58_c5))
/- bodkin/bodkinref09.weigh loop 0: t0 , t1 , t2 , t7  -/
abbrev S_bodkinref09_weigh_0 (t0 t1 t2 t7 : AV) (h : List AO) : St := ⟨ofE 49 [(0,t0),(1,t1),(2,t2),(7,t7)],h⟩
noncomputable abbrev K_bodkinref09_weigh_0 (L : Lay) (kb : Nat) (x : Option (Ex × St)) : Option (AV × List AO) := (retK [.tmp 6] true kb (seqK L kb (blockK 0 x) A59_c0))
/- bodkin/shape.copyCode loop 0: t3 , t9 , t10  -/
abbrev S_shape_copyCode_0 (t3 t9 t10 : AV) (h : List AO) : St := ⟨ofE 42 [(3,t3),(9,t9),(10,t10)],h⟩
noncomputable abbrev K_shape_copyCode_0 (L : Lay) (kb : Nat) (x : Option (Ex × St)) : Option (AV × List AO) := (retK [.tmp 2] true kb (seqK L kb (blockK 0 x) A72_c0))
/- slices.Equal[[]int,int] loop 0: t0 , t1 , t12 , t13  -/
abbrev S_slices_Equal_sint_int_0 (t0 t1 t12 t13 : AV) (h : List AO) : St := ⟨ofE 26 [(0,t0),(1,t1),(12,t12),(13,t13)],h⟩
noncomputable abbrev K_slices_Equal_sint_int_0 (L : Lay) (kb : Nat) (x : Option (Ex × St)) : Option (AV × List AO) := (retK [.tmp 4] true kb (seqK L kb (blockK 0 x) A76_c0))
/- slices.EqualFunc[[][]bodkin/api.Instr,[][]bodkin/api.Instr,[]bodkin/api.Instr,[]bodkin/api.Instr] loop 0: t1 , t2 , t15 , t16 , t17  -/
abbrev S_slices_EqualFunc_ssapi_Instr_ssapi_Instr_sapi_Instr_sapi_Instr_0 (t1 t2 t15 t16 t17 : AV) (h : List AO) : St := ⟨ofE 32 [(1,t1),(2,t2),(15,t15),(16,t16),(17,t17)],h⟩
noncomputable abbrev K_slices_EqualFunc_ssapi_Instr_ssapi_Instr_sapi_Instr_sapi_Instr_0 (L : Lay) (kb : Nat) (x : Option (Ex × St)) : Option (AV × List AO) := (retK [.tmp 6] true kb (seqK L kb (blockK 0 x) A81_c0))
/- slices.EqualFunc[[]bodkin/api.FuncType,[]bodkin/api.FuncType,bodkin/api.FuncType,bodkin/api.FuncType] loop 0: t1 , t2 , t15 , t16 , t17  -/
abbrev S_slices_EqualFunc_sapi_FuncType_sapi_FuncType_api_FuncType_api_FuncType_0 (t1 t2 t15 t16 t17 : AV) (h : List AO) : St := ⟨ofE 32 [(1,t1),(2,t2),(15,t15),(16,t16),(17,t17)],h⟩
noncomputable abbrev K_slices_EqualFunc_sapi_FuncType_sapi_FuncType_api_FuncType_api_FuncType_0 (L : Lay) (kb : Nat) (x : Option (Ex × St)) : Option (AV × List AO) := (retK [.tmp 6] true kb (seqK L kb (blockK 0 x) A84_c0))
/- slices.Equal[[]bodkin/api.Import,bodkin/api.Import] loop 0: t0 , t1 , t12 , t13  -/
abbrev S_slices_Equal_sapi_Import_api_Import_0 (t0 t1 t12 t13 : AV) (h : List AO) : St := ⟨ofE 26 [(0,t0),(1,t1),(12,t12),(13,t13)],h⟩
noncomputable abbrev K_slices_Equal_sapi_Import_api_Import_0 (L : Lay) (kb : Nat) (x : Option (Ex × St)) : Option (AV × List AO) := (retK [.tmp 4] true kb (seqK L kb (blockK 0 x) A85_c0))
/- slices.EqualFunc[[]bodkin/api.Code,[]bodkin/api.Code,bodkin/api.Code,bodkin/api.Code] loop 0: t1 , t2 , t15 , t16 , t17  -/
abbrev S_slices_EqualFunc_sapi_Code_sapi_Code_api_Code_api_Code_0 (t1 t2 t15 t16 t17 : AV) (h : List AO) : St := ⟨ofE 32 [(1,t1),(2,t2),(15,t15),(16,t16),(17,t17)],h⟩
noncomputable abbrev K_slices_EqualFunc_sapi_Code_sapi_Code_api_Code_api_Code_0 (L : Lay) (kb : Nat) (x : Option (Ex × St)) : Option (AV × List AO) := (retK [.tmp 6] true kb (seqK L kb (blockK 0 x) A86_c0))
/- slices.Equal[[]bodkin/api.TableType,bodkin/api.TableType] loop 0: t0 , t1 , t12 , t13  -/
abbrev S_slices_Equal_sapi_TableType_api_TableType_0 (t0 t1 t12 t13 : AV) (h : List AO) : St := ⟨ofE 26 [(0,t0),(1,t1),(12,t12),(13,t13)],h⟩
noncomputable abbrev K_slices_Equal_sapi_TableType_api_TableType_0 (L : Lay) (kb : Nat) (x : Option (Ex × St)) : Option (AV × List AO) := (retK [.tmp 4] true kb (seqK L kb (blockK 0 x) A87_c0))
/- slices.Equal[[]bodkin/api.Limits,bodkin/api.Limits] loop 0: t0 , t1 , t12 , t13  -/
abbrev S_slices_Equal_sapi_Limits_api_Limits_0 (t0 t1 t12 t13 : AV) (h : List AO) : St := ⟨ofE 26 [(0,t0),(1,t1),(12,t12),(13,t13)],h⟩
noncomputable abbrev K_slices_Equal_sapi_Limits_api_Limits_0 (L : Lay) (kb : Nat) (x : Option (Ex × St)) : Option (AV × List AO) := (retK [.tmp 4] true kb (seqK L kb (blockK 0 x) A88_c0))
/- slices.EqualFunc[[]bodkin/api.Var,[]bodkin/api.Var,bodkin/api.Var,bodkin/api.Var] loop 0: t1 , t2 , t15 , t16 , t17  -/
abbrev S_slices_EqualFunc_sapi_Var_sapi_Var_api_Var_api_Var_0 (t1 t2 t15 t16 t17 : AV) (h : List AO) : St := ⟨ofE 32 [(1,t1),(2,t2),(15,t15),(16,t16),(17,t17)],h⟩
noncomputable abbrev K_slices_EqualFunc_sapi_Var_sapi_Var_api_Var_api_Var_0 (L : Lay) (kb : Nat) (x : Option (Ex × St)) : Option (AV × List AO) := (retK [.tmp 6] true kb (seqK L kb (blockK 0 x) A89_c0))
/- slices.Equal[[]bodkin/api.Export,bodkin/api.Export] loop 0: t0 , t1 , t12 , t13  -/
abbrev S_slices_Equal_sapi_Export_api_Export_0 (t0 t1 t12 t13 : AV) (h : List AO) : St := ⟨ofE 26 [(0,t0),(1,t1),(12,t12),(13,t13)],h⟩
noncomputable abbrev K_slices_Equal_sapi_Export_api_Export_0 (L : Lay) (kb : Nat) (x : Option (Ex × St)) : Option (AV × List AO) := (retK [.tmp 4] true kb (seqK L kb (blockK 0 x) A90_c0))
/- slices.EqualFunc[[]bodkin/api.Elem,[]bodkin/api.Elem,bodkin/api.Elem,bodkin/api.Elem] loop 0: t1 , t2 , t15 , t16 , t17  -/
abbrev S_slices_EqualFunc_sapi_Elem_sapi_Elem_api_Elem_api_Elem_0 (t1 t2 t15 t16 t17 : AV) (h : List AO) : St := ⟨ofE 32 [(1,t1),(2,t2),(15,t15),(16,t16),(17,t17)],h⟩
noncomputable abbrev K_slices_EqualFunc_sapi_Elem_sapi_Elem_api_Elem_api_Elem_0 (L : Lay) (kb : Nat) (x : Option (Ex × St)) : Option (AV × List AO) := (retK [.tmp 6] true kb (seqK L kb (blockK 0 x) A91_c0))
/- slices.EqualFunc[[]bodkin/api.Data,[]bodkin/api.Data,bodkin/api.Data,bodkin/api.Data] loop 0: t1 , t2 , t15 , t16 , t17  -/
abbrev S_slices_EqualFunc_sapi_Data_sapi_Data_api_Data_api_Data_0 (t1 t2 t15 t16 t17 : AV) (h : List AO) : St := ⟨ofE 32 [(1,t1),(2,t2),(15,t15),(16,t16),(17,t17)],h⟩
noncomputable abbrev K_slices_EqualFunc_sapi_Data_sapi_Data_api_Data_api_Data_0 (L : Lay) (kb : Nat) (x : Option (Ex × St)) : Option (AV × List AO) := (retK [.tmp 6] true kb (seqK L kb (blockK 0 x) A92_c0))
/- bodkin/bodkinlaw09.turn loop 0: t0 , t2  -/
abbrev S_bodkinlaw09_turn_0 (t0 t2 : AV) (h : List AO) : St := ⟨ofE 17 [(0,t0),(2,t2)],h⟩
noncomputable abbrev K_bodkinlaw09_turn_0 (L : Lay) (kb : Nat) (x : Option (Ex × St)) : Option (AV × List AO) := (retK [] true kb (blockK 0 x))
/- bodkin/bodkinlaw09.spoilCode loop 0: t0 , t2  -/
abbrev S_bodkinlaw09_spoilCode_0 (t0 t2 : AV) (h : List AO) : St := ⟨ofE 37 [(0,t0),(2,t2)],h⟩
noncomputable abbrev K_bodkinlaw09_spoilCode_0 (L : Lay) (kb : Nat) (x : Option (Ex × St)) : Option (AV × List AO) := (retK [] true kb (blockK 0 x))
/- bodkin/ops.Imm loop 0: t3 , t8 , t9 , t10  -/
abbrev S_ops_Imm_0 (t3 t8 t9 t10 : AV) (h : List AO) : St := ⟨ofE 22 [(3,t3),(8,t8),(9,t9),(10,t10)],h⟩
noncomputable abbrev K_ops_Imm_0 (L : Lay) (kb : Nat) (x : Option (Ex × St)) : Option (AV × List AO) := (retK [.tmp 2] true kb (seqK L kb (blockK 0 x) A122_c0))
/- bodkin/bodkinref09.ones loop 0: t0 , t3  -/
abbrev S_bodkinref09_ones_0 (t0 t3 : AV) (h : List AO) : St := ⟨ofE 40 [(0,t0),(3,t3)],h⟩
noncomputable abbrev K_bodkinref09_ones_0 (L : Lay) (kb : Nat) (x : Option (Ex × St)) : Option (AV × List AO) := (retK [.tmp 2] true kb (seqK L kb (blockK 0 x) A124_c0))
/- bodkin/bodkinref05.Of loop 0: t2 , t4 , t5 , t6 , t7  -/
abbrev S_bodkinref05_Of_0 (t2 t4 t5 t6 t7 : AV) (h : List AO) : St := ⟨ofE 93 [(2,t2),(4,t4),(5,t5),(6,t6),(7,t7)],h⟩
noncomputable abbrev K_bodkinref05_Of_0 (L : Lay) (kb : Nat) (x : Option (Ex × St)) : Option (AV × List AO) := (retK [.cell 2 (some 6)] true kb (seqK L kb (blockK 0 x) A125_c7))
/- bodkin/bodkinref01.Valid loop 0: t0 , t3  -/
abbrev S_bodkinref01_Valid_0 (t0 t3 : AV) (h : List AO) : St := ⟨ofE 89 [(0,t0),(3,t3)],h⟩
noncomputable abbrev K_bodkinref01_Valid_0 (L : Lay) (kb : Nat) (x : Option (Ex × St)) : Option (AV × List AO) := (retK [.tmp 2] true kb (seqK L kb (blockK 0 x) A127_c0))
/- bodkin/bodkinref01.Valid loop 1: t0 , t3 , t4 , t5 , t6 , t7  -/
abbrev S_bodkinref01_Valid_1 (t0 t3 t4 t5 t6 t7 : AV) (h : List AO) : St := ⟨ofE 89 [(0,t0),(3,t3),(4,t4),(5,t5),(6,t6),(7,t7)],h⟩
noncomputable abbrev K_bodkinref01_Valid_1 (L : Lay) (kb : Nat) (x : Option (Ex × St)) : Option (AV × List AO) := (retK [.tmp 2] true kb (seqK L kb (blockK 0 (seqK L kb (blockK 1 (seqK L kb (blockK 2 x) A127_c11)) (.loop A127_l0))) A127_c0))
/- slices.EqualFunc[[]bodkin/api.Instr,[]bodkin/api.Instr,bodkin/api.Instr,bodkin/api.Instr] loop 0: t1 , t2 , t15 , t16 , t17  -/
abbrev S_slices_EqualFunc_sapi_Instr_sapi_Instr_api_Instr_api_Instr_0 (t1 t2 t15 t16 t17 : AV) (h : List AO) : St := ⟨ofE 32 [(1,t1),(2,t2),(15,t15),(16,t16),(17,t17)],h⟩
noncomputable abbrev K_slices_EqualFunc_sapi_Instr_sapi_Instr_api_Instr_api_Instr_0 (L : Lay) (kb : Nat) (x : Option (Ex × St)) : Option (AV × List AO) := (retK [.tmp 6] true kb (seqK L kb (blockK 0 x) A132_c0))
/- slices.IndexFunc[[]int,int] loop 0: t0 , t1 , t7 , t8  -/
abbrev S_slices_IndexFunc_sint_int_0 (t0 t1 t7 t8 : AV) (h : List AO) : St := ⟨ofE 19 [(0,t0),(1,t1),(7,t7),(8,t8)],h⟩
noncomputable abbrev K_slices_IndexFunc_sint_int_0 (L : Lay) (kb : Nat) (x : Option (Ex × St)) : Option (AV × List AO) := (retK [.tmp 4] true kb (seqK L kb (blockK 0 x) A135_c0))
/- slices.IndexFunc[[][]bodkin/api.Instr,[]bodkin/api.Instr] loop 0: t0 , t1 , t7 , t8  -/
abbrev S_slices_IndexFunc_ssapi_Instr_sapi_Instr_0 (t0 t1 t7 t8 : AV) (h : List AO) : St := ⟨ofE 19 [(0,t0),(1,t1),(7,t7),(8,t8)],h⟩
noncomputable abbrev K_slices_IndexFunc_ssapi_Instr_sapi_Instr_0 (L : Lay) (kb : Nat) (x : Option (Ex × St)) : Option (AV × List AO) := (retK [.tmp 4] true kb (seqK L kb (blockK 0 x) A139_c0))
/- slices.IndexFunc[[]bodkin/api.FuncType,bodkin/api.FuncType] loop 0: t0 , t1 , t7 , t8  -/
abbrev S_slices_IndexFunc_sapi_FuncType_api_FuncType_0 (t0 t1 t7 t8 : AV) (h : List AO) : St := ⟨ofE 19 [(0,t0),(1,t1),(7,t7),(8,t8)],h⟩
noncomputable abbrev K_slices_IndexFunc_sapi_FuncType_api_FuncType_0 (L : Lay) (kb : Nat) (x : Option (Ex × St)) : Option (AV × List AO) := (retK [.tmp 4] true kb (seqK L kb (blockK 0 x) A140_c0))
/- slices.IndexFunc[[]bodkin/api.Import,bodkin/api.Import] loop 0: t0 , t1 , t7 , t8  -/
abbrev S_slices_IndexFunc_sapi_Import_api_Import_0 (t0 t1 t7 t8 : AV) (h : List AO) : St := ⟨ofE 19 [(0,t0),(1,t1),(7,t7),(8,t8)],h⟩
noncomputable abbrev K_slices_IndexFunc_sapi_Import_api_Import_0 (L : Lay) (kb : Nat) (x : Option (Ex × St)) : Option (AV × List AO) := (retK [.tmp 4] true kb (seqK L kb (blockK 0 x) A141_c0))
/- slices.IndexFunc[[]bodkin/api.Code,bodkin/api.Code] loop 0: t0 , t1 , t7 , t8  -/
abbrev S_slices_IndexFunc_sapi_Code_api_Code_0 (t0 t1 t7 t8 : AV) (h : List AO) : St := ⟨ofE 19 [(0,t0),(1,t1),(7,t7),(8,t8)],h⟩
noncomputable abbrev K_slices_IndexFunc_sapi_Code_api_Code_0 (L : Lay) (kb : Nat) (x : Option (Ex × St)) : Option (AV × List AO) := (retK [.tmp 4] true kb (seqK L kb (blockK 0 x) A142_c0))
/- slices.IndexFunc[[]bodkin/api.TableType,bodkin/api.TableType] loop 0: t0 , t1 , t7 , t8  -/
abbrev S_slices_IndexFunc_sapi_TableType_api_TableType_0 (t0 t1 t7 t8 : AV) (h : List AO) : St := ⟨ofE 19 [(0,t0),(1,t1),(7,t7),(8,t8)],h⟩
noncomputable abbrev K_slices_IndexFunc_sapi_TableType_api_TableType_0 (L : Lay) (kb : Nat) (x : Option (Ex × St)) : Option (AV × List AO) := (retK [.tmp 4] true kb (seqK L kb (blockK 0 x) A143_c0))
/- slices.IndexFunc[[]bodkin/api.Limits,bodkin/api.Limits] loop 0: t0 , t1 , t7 , t8  -/
abbrev S_slices_IndexFunc_sapi_Limits_api_Limits_0 (t0 t1 t7 t8 : AV) (h : List AO) : St := ⟨ofE 19 [(0,t0),(1,t1),(7,t7),(8,t8)],h⟩
noncomputable abbrev K_slices_IndexFunc_sapi_Limits_api_Limits_0 (L : Lay) (kb : Nat) (x : Option (Ex × St)) : Option (AV × List AO) := (retK [.tmp 4] true kb (seqK L kb (blockK 0 x) A144_c0))
/- slices.IndexFunc[[]bodkin/api.Var,bodkin/api.Var] loop 0: t0 , t1 , t7 , t8  -/
abbrev S_slices_IndexFunc_sapi_Var_api_Var_0 (t0 t1 t7 t8 : AV) (h : List AO) : St := ⟨ofE 19 [(0,t0),(1,t1),(7,t7),(8,t8)],h⟩
noncomputable abbrev K_slices_IndexFunc_sapi_Var_api_Var_0 (L : Lay) (kb : Nat) (x : Option (Ex × St)) : Option (AV × List AO) := (retK [.tmp 4] true kb (seqK L kb (blockK 0 x) A145_c0))
/- slices.IndexFunc[[]bodkin/api.Export,bodkin/api.Export] loop 0: t0 , t1 , t7 , t8  -/
abbrev S_slices_IndexFunc_sapi_Export_api_Export_0 (t0 t1 t7 t8 : AV) (h : List AO) : St := ⟨ofE 19 [(0,t0),(1,t1),(7,t7),(8,t8)],h⟩
noncomputable abbrev K_slices_IndexFunc_sapi_Export_api_Export_0 (L : Lay) (kb : Nat) (x : Option (Ex × St)) : Option (AV × List AO) := (retK [.tmp 4] true kb (seqK L kb (blockK 0 x) A146_c0))
/- slices.IndexFunc[[]bodkin/api.Elem,bodkin/api.Elem] loop 0: t0 , t1 , t7 , t8  -/
abbrev S_slices_IndexFunc_sapi_Elem_api_Elem_0 (t0 t1 t7 t8 : AV) (h : List AO) : St := ⟨ofE 19 [(0,t0),(1,t1),(7,t7),(8,t8)],h⟩
noncomputable abbrev K_slices_IndexFunc_sapi_Elem_api_Elem_0 (L : Lay) (kb : Nat) (x : Option (Ex × St)) : Option (AV × List AO) := (retK [.tmp 4] true kb (seqK L kb (blockK 0 x) A147_c0))
/- slices.IndexFunc[[]bodkin/api.Data,bodkin/api.Data] loop 0: t0 , t1 , t7 , t8  -/
abbrev S_slices_IndexFunc_sapi_Data_api_Data_0 (t0 t1 t7 t8 : AV) (h : List AO) : St := ⟨ofE 19 [(0,t0),(1,t1),(7,t7),(8,t8)],h⟩
noncomputable abbrev K_slices_IndexFunc_sapi_Data_api_Data_0 (L : Lay) (kb : Nat) (x : Option (Ex × St)) : Option (AV × List AO) := (retK [.tmp 4] true kb (seqK L kb (blockK 0 x) A148_c0))
/- bodkin/bodkinref05.words loop 0: t0 , t3 , t4 , t5  -/
abbrev S_bodkinref05_words_0 (t0 t3 t4 t5 : AV) (h : List AO) : St := ⟨ofE 36 [(0,t0),(3,t3),(4,t4),(5,t5)],h⟩
noncomputable abbrev K_bodkinref05_words_0 (L : Lay) (kb : Nat) (x : Option (Ex × St)) : Option (AV × List AO) := (retK [.tmp 2] true kb (seqK L kb (blockK 0 x) A154_c0))
/- bodkin/bodkinref05.digits loop 0: t0 , t3 , t4  -/
abbrev S_bodkinref05_digits_0 (t0 t3 t4 : AV) (h : List AO) : St := ⟨ofE 20 [(0,t0),(3,t3),(4,t4)],h⟩
noncomputable abbrev K_bodkinref05_digits_0 (L : Lay) (kb : Nat) (x : Option (Ex × St)) : Option (AV × List AO) := (retK [.tmp 2] true kb (seqK L kb (blockK 0 x) A156_c0))
/- strings.Fields loop 0: t0 , t9 , t10 , t11 , t12  -/
abbrev S_strings_Fields_0 (t0 t9 t10 t11 t12 : AV) (h : List AO) : St := ⟨ofE 106 [(0,t0),(9,t9),(10,t10),(11,t11),(12,t12)],h⟩
noncomputable abbrev K_strings_Fields_0 (L : Lay) (kb : Nat) (x : Option (Ex × St)) : Option (AV × List AO) := (retK [.tmp 2] true kb (seqK L kb (blockK 4 x) A161_c2))
/- strings.Fields loop 1: t0 , t9 , t10 , t12  -/
abbrev S_strings_Fields_1 (t0 t9 t10 t12 : AV) (h : List AO) : St := ⟨ofE 106 [(0,t0),(9,t9),(10,t10),(12,t12)],h⟩
noncomputable abbrev K_strings_Fields_1 (L : Lay) (kb : Nat) (x : Option (Ex × St)) : Option (AV × List AO) := (retK [.tmp 2] true kb (seqK L kb (blockK 4 (seqK L kb (blockK 5 (seqK L kb (blockK 6 x) A161_c4)) (.loop A161_l0))) A161_c2))
/- strings.Fields loop 2: t0 , t9 , t10 , t12  -/
abbrev S_strings_Fields_2 (t0 t9 t10 t12 : AV) (h : List AO) : St := ⟨ofE 106 [(0,t0),(9,t9),(10,t10),(12,t12)],h⟩
noncomputable abbrev K_strings_Fields_2 (L : Lay) (kb : Nat) (x : Option (Ex × St)) : Option (AV × List AO) := (retK [.tmp 2] true kb (seqK L kb (blockK 2 x) A161_c10))
/- strings.Fields loop 3: t0 , t3 , t4 , t5 , t6  -/
abbrev S_strings_Fields_3 (t0 t3 t4 t5 t6 : AV) (h : List AO) : St := ⟨ofE 106 [(0,t0),(3,t3),(4,t4),(5,t5),(6,t6)],h⟩
noncomputable abbrev K_strings_Fields_3 (L : Lay) (kb : Nat) (x : Option (Ex × St)) : Option (AV × List AO) := (retK [.tmp 2] true kb (seqK L kb (blockK 0 x) A161_c14))
/- bodkin/bodkinref09.indexes loop 0: t0 , t1 , t5  -/
abbrev S_bodkinref09_indexes_0 (t0 t1 t5 : AV) (h : List AO) : St := ⟨ofE 25 [(0,t0),(1,t1),(5,t5)],h⟩
noncomputable abbrev K_bodkinref09_indexes_0 (L : Lay) (kb : Nat) (x : Option (Ex × St)) : Option (AV × List AO) := (retK [.tmp 4] true kb (seqK L kb (blockK 0 x) A162_c0))
/- slices.IndexFunc[[]bodkin/api.Instr,bodkin/api.Instr] loop 0: t0 , t1 , t7 , t8  -/
abbrev S_slices_IndexFunc_sapi_Instr_api_Instr_0 (t0 t1 t7 t8 : AV) (h : List AO) : St := ⟨ofE 19 [(0,t0),(1,t1),(7,t7),(8,t8)],h⟩
noncomputable abbrev K_slices_IndexFunc_sapi_Instr_api_Instr_0 (L : Lay) (kb : Nat) (x : Option (Ex × St)) : Option (AV × List AO) := (retK [.tmp 4] true kb (seqK L kb (blockK 0 x) A163_c0))
/- unicode.is16 loop 0: t0 , t1 , t7 , t8  -/
abbrev S_unicode_is16_0 (t0 t1 t7 t8 : AV) (h : List AO) : St := ⟨ofE 114 [(0,t0),(1,t1),(7,t7),(8,t8)],h⟩
noncomputable abbrev K_unicode_is16_0 (L : Lay) (kb : Nat) (x : Option (Ex × St)) : Option (AV × List AO) := (retK [.tmp 4] true kb (seqK L kb (blockK 2 x) A169_c0))
/- unicode.is16 loop 1: t0 , t1 , t19 , t20  -/
abbrev S_unicode_is16_1 (t0 t1 t19 t20 : AV) (h : List AO) : St := ⟨ofE 114 [(0,t0),(1,t1),(19,t19),(20,t20)],h⟩
noncomputable abbrev K_unicode_is16_1 (L : Lay) (kb : Nat) (x : Option (Ex × St)) : Option (AV × List AO) := (retK [.tmp 4] true kb (seqK L kb (seqK L kb (blockK 0 x) A169_c9) A169_c8))
/- unicode.is32 loop 0: t0 , t1 , t7 , t8  -/
abbrev S_unicode_is32_0 (t0 t1 t7 t8 : AV) (h : List AO) : St := ⟨ofE 99 [(0,t0),(1,t1),(7,t7),(8,t8)],h⟩
noncomputable abbrev K_unicode_is32_0 (L : Lay) (kb : Nat) (x : Option (Ex × St)) : Option (AV × List AO) := (retK [.tmp 4] true kb (seqK L kb (blockK 2 x) A170_c0))
/- unicode.is32 loop 1: t0 , t1 , t15 , t16  -/
abbrev S_unicode_is32_1 (t0 t1 t15 t16 : AV) (h : List AO) : St := ⟨ofE 99 [(0,t0),(1,t1),(15,t15),(16,t16)],h⟩
noncomputable abbrev K_unicode_is32_1 (L : Lay) (kb : Nat) (x : Option (Ex × St)) : Option (AV × List AO) := (retK [.tmp 4] true kb (seqK L kb (seqK L kb (blockK 0 x) A170_c9) A170_c8))
abbrev L_bodkinlaw09_ShapeNest_0 : AC := A5_l0
abbrev L_bodkinref09_Fits_0 : AC := A10_l0
abbrev L_bodkinref09_Fits_1 : AC := A10_l1
abbrev L_bodkinref09_Fits_2 : AC := A10_l2
abbrev L_bodkinref09_Fits_3 : AC := A10_l3
abbrev L_bodkinref09_Fits_4 : AC := A10_l4
abbrev L_bodkinref09_Fits_5 : AC := A10_l5
abbrev L_bodkinref09_Fits_6 : AC := A10_l6
abbrev L_bodkinref09_Fits_7 : AC := A10_l7
abbrev L_bodkinref09_May_0 : AC := A12_l0
abbrev L_bodkinref09_May_1 : AC := A12_l1
abbrev L_bodkinref09_May_2 : AC := A12_l2
abbrev L_bodkinref09_May_3 : AC := A12_l3
abbrev L_bodkinref09_May_4 : AC := A12_l4
abbrev L_bodkinref09_May_5 : AC := A12_l5
abbrev L_bodkinref09_May_6 : AC := A12_l6
abbrev L_shape_Nest_0 : AC := A14_l0
abbrev L_bodkinref09_Nest_0 : AC := A15_l0
abbrev L_bodkinref09_Count_0 : AC := A17_l0
abbrev L_shape_Copy_0 : AC := A18_l0
abbrev L_shape_Copy_1 : AC := A18_l1
abbrev L_shape_Copy_2 : AC := A18_l2
abbrev L_shape_Copy_3 : AC := A18_l3
abbrev L_shape_Copy_4 : AC := A18_l4
abbrev L_shape_Copy_5 : AC := A18_l5
abbrev L_leb_Valid_0 : AC := A30_l0
abbrev L_bodkinref09_Vals_0 : AC := A49_l0
abbrev L_bodkinref09_Asks_0 : AC := A53_l0
abbrev L_bodkinref09_segments_0 : AC := A58_l0
abbrev L_bodkinref09_segments_1 : AC := A58_l1
abbrev L_bodkinref09_segments_2 : AC := A58_l2
abbrev L_bodkinref09_weigh_0 : AC := A59_l0
abbrev L_shape_copyCode_0 : AC := A72_l0
abbrev L_slices_Equal_sint_int_0 : AC := A76_l0
abbrev L_slices_EqualFunc_ssapi_Instr_ssapi_Instr_sapi_Instr_sapi_Instr_0 : AC := A81_l0
abbrev L_slices_EqualFunc_sapi_FuncType_sapi_FuncType_api_FuncType_api_FuncType_0 : AC := A84_l0
abbrev L_slices_Equal_sapi_Import_api_Import_0 : AC := A85_l0
abbrev L_slices_EqualFunc_sapi_Code_sapi_Code_api_Code_api_Code_0 : AC := A86_l0
abbrev L_slices_Equal_sapi_TableType_api_TableType_0 : AC := A87_l0
abbrev L_slices_Equal_sapi_Limits_api_Limits_0 : AC := A88_l0
abbrev L_slices_EqualFunc_sapi_Var_sapi_Var_api_Var_api_Var_0 : AC := A89_l0
abbrev L_slices_Equal_sapi_Export_api_Export_0 : AC := A90_l0
abbrev L_slices_EqualFunc_sapi_Elem_sapi_Elem_api_Elem_api_Elem_0 : AC := A91_l0
abbrev L_slices_EqualFunc_sapi_Data_sapi_Data_api_Data_api_Data_0 : AC := A92_l0
abbrev L_ops_Imm_0 : AC := A122_l0
abbrev L_bodkinref09_ones_0 : AC := A124_l0
abbrev L_bodkinref05_Of_0 : AC := A125_l0
abbrev L_bodkinref01_Valid_0 : AC := A127_l0
abbrev L_bodkinref01_Valid_1 : AC := A127_l1
abbrev L_slices_EqualFunc_sapi_Instr_sapi_Instr_api_Instr_api_Instr_0 : AC := A132_l0
abbrev L_slices_IndexFunc_sint_int_0 : AC := A135_l0
abbrev L_slices_IndexFunc_ssapi_Instr_sapi_Instr_0 : AC := A139_l0
abbrev L_slices_IndexFunc_sapi_FuncType_api_FuncType_0 : AC := A140_l0
abbrev L_slices_IndexFunc_sapi_Import_api_Import_0 : AC := A141_l0
abbrev L_slices_IndexFunc_sapi_Code_api_Code_0 : AC := A142_l0
abbrev L_slices_IndexFunc_sapi_TableType_api_TableType_0 : AC := A143_l0
abbrev L_slices_IndexFunc_sapi_Limits_api_Limits_0 : AC := A144_l0
abbrev L_slices_IndexFunc_sapi_Var_api_Var_0 : AC := A145_l0
abbrev L_slices_IndexFunc_sapi_Export_api_Export_0 : AC := A146_l0
abbrev L_slices_IndexFunc_sapi_Elem_api_Elem_0 : AC := A147_l0
abbrev L_slices_IndexFunc_sapi_Data_api_Data_0 : AC := A148_l0
abbrev L_bodkinref05_words_0 : AC := A154_l0
abbrev L_bodkinref05_digits_0 : AC := A156_l0
abbrev L_strings_Fields_0 : AC := A161_l0
abbrev L_strings_Fields_1 : AC := A161_l1
abbrev L_strings_Fields_2 : AC := A161_l2
abbrev L_strings_Fields_3 : AC := A161_l3
abbrev L_bodkinref09_indexes_0 : AC := A162_l0
abbrev L_slices_IndexFunc_sapi_Instr_api_Instr_0 : AC := A163_l0
abbrev L_unicode_is16_0 : AC := A169_l0
abbrev L_unicode_is16_1 : AC := A169_l1
abbrev L_unicode_is32_0 : AC := A170_l0
abbrev L_unicode_is32_1 : AC := A170_l1
end Go.Proofs.YtbabbianbhcjiaaGreatDoor
