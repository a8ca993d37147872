/- The loops of the laid functions: what is alive at their heads; what comes behind them. -/
import Derived.Test.YtgehpjjpeddomaaGreatDoorZCEq
import Derived.Test.YtgehpjjpeddomaaGreatDoorZEvCode
set_option linter.all false
namespace Go.Proofs.YtgehpjjpeddomaaGreatDoor
open Go
set_option maxRecDepth 1000000

/- bodkin/bodkinlaw10.EncodeDeep loop 0: t0 , t1 , t6 , t7  -/
abbrev S_bodkinlaw10_EncodeDeep_0 (t0 t1 t6 t7 : AV) (h : List AO) : St := ⟨ofE 75 [(0,t0),(1,t1),(6,t6),(7,t7)],h⟩
noncomputable abbrev K_bodkinlaw10_EncodeDeep_0 (L : Lay) (kb : Nat) (x : Option (Ex × St)) : Option (AV × List AO) := (retK [.tmp 4] true kb (seqK L kb (blockK 0 x) A6_c3))
/- bodkin/bodkinref09.Nest loop 0: t0 , t3 , t4  -/
abbrev S_bodkinref09_Nest_0 (t0 t3 t4 : AV) (h : List AO) : St := ⟨ofE 36 [(0,t0),(3,t3),(4,t4)],h⟩
noncomputable abbrev K_bodkinref09_Nest_0 (L : Lay) (kb : Nat) (x : Option (Ex × St)) : Option (AV × List AO) := (retK [.tmp 2] true kb (seqK L kb (blockK 0 x) A27_c0))
/- bodkin/encode.list[int] loop 0: t0 , t2 , t13 , t14 , t15  -/
abbrev S_encode_list_int_0 (t0 t2 t13 t14 t15 : AV) (h : List AO) : St := ⟨ofE 25 [(0,t0),(2,t2),(13,t13),(14,t14),(15,t15)],h⟩
noncomputable abbrev K_encode_list_int_0 (L : Lay) (kb : Nat) (x : Option (Ex × St)) : Option (AV × List AO) := (retK [.tmp 6] false kb (seqK L kb (blockK 0 x) A33_c0))
/- bodkin/encode.elem loop 0: t0 , t3 , t5 , t6 , t14 , t15 , t16  -/
abbrev S_encode_elem_0 (t0 t3 t5 t6 t14 t15 t16 : AV) (h : List AO) : St := ⟨ofE 91 [(0,t0),(3,t3),(5,t5),(6,t6),(14,t14),(15,t15),(16,t16)],h⟩
noncomputable abbrev K_encode_elem_0 (L : Lay) (kb : Nat) (x : Option (Ex × St)) : Option (AV × List AO) := (retK [.tmp 4] false kb (seqK L kb (blockK 0 x) A53_c16))
/- bodkin/encode.body loop 0: t0 , t3 , t5 , t11 , t12 , t13  -/
abbrev S_encode_body_0 (t0 t3 t5 t11 t12 t13 : AV) (h : List AO) : St := ⟨ofE 58 [(0,t0),(3,t3),(5,t5),(11,t11),(12,t12),(13,t13)],h⟩
noncomputable abbrev K_encode_body_0 (L : Lay) (kb : Nat) (x : Option (Ex × St)) : Option (AV × List AO) := (retK [.tmp 4] false kb (seqK L kb (blockK 0 x) A54_c2))
/- bodkin/bodkinref09.weigh loop 0: t0 , t1 , t2 , t7  -/
abbrev S_bodkinref09_weigh_0 (t0 t1 t2 t7 : AV) (h : List AO) : St := ⟨ofE 49 [(0,t0),(1,t1),(2,t2),(7,t7)],h⟩
noncomputable abbrev K_bodkinref09_weigh_0 (L : Lay) (kb : Nat) (x : Option (Ex × St)) : Option (AV × List AO) := (retK [.tmp 6] true kb (seqK L kb (blockK 0 x) A64_c0))
/- bodkin/bodkinref09.ones loop 0: t0 , t3  -/
abbrev S_bodkinref09_ones_0 (t0 t3 : AV) (h : List AO) : St := ⟨ofE 40 [(0,t0),(3,t3)],h⟩
noncomputable abbrev K_bodkinref09_ones_0 (L : Lay) (kb : Nat) (x : Option (Ex × St)) : Option (AV × List AO) := (retK [.tmp 2] true kb (seqK L kb (blockK 0 x) A65_c0))
/- bodkin/bodkinref10.inner loop 0: t0 , t3 , t4  -/
abbrev S_bodkinref10_inner_0 (t0 t3 t4 : AV) (h : List AO) : St := ⟨ofE 19 [(0,t0),(3,t3),(4,t4)],h⟩
noncomputable abbrev K_bodkinref10_inner_0 (L : Lay) (kb : Nat) (x : Option (Ex × St)) : Option (AV × List AO) := (retK [.tmp 2] false kb (seqK L kb (blockK 0 x) A66_c0))
/- bodkin/bodkinref09.Vals loop 0: t0 , t3  -/
abbrev S_bodkinref09_Vals_0 (t0 t3 : AV) (h : List AO) : St := ⟨ofE 18 [(0,t0),(3,t3)],h⟩
noncomputable abbrev K_bodkinref09_Vals_0 (L : Lay) (kb : Nat) (x : Option (Ex × St)) : Option (AV × List AO) := (retK [.tmp 2] true kb (seqK L kb (blockK 0 x) A82_c0))
/- bodkin/leb.Valid loop 0: t0 , t6  -/
abbrev S_leb_Valid_0 (t0 t6 : AV) (h : List AO) : St := ⟨ofE 28 [(0,t0),(6,t6)],h⟩
noncomputable abbrev K_leb_Valid_0 (L : Lay) (kb : Nat) (x : Option (Ex × St)) : Option (AV × List AO) := (retK [.tmp 2] true kb (seqK L kb (blockK 0 x) A102_c0))
/- bodkin/encode.list[bodkin/api.FuncType] loop 0: t0 , t2 , t13 , t14 , t15  -/
abbrev S_encode_list_api_FuncType_0 (t0 t2 t13 t14 t15 : AV) (h : List AO) : St := ⟨ofE 25 [(0,t0),(2,t2),(13,t13),(14,t14),(15,t15)],h⟩
noncomputable abbrev K_encode_list_api_FuncType_0 (L : Lay) (kb : Nat) (x : Option (Ex × St)) : Option (AV × List AO) := (retK [.tmp 6] false kb (seqK L kb (blockK 0 x) A121_c0))
/- bodkin/encode.list[bodkin/api.Import] loop 0: t0 , t2 , t13 , t14 , t15  -/
abbrev S_encode_list_api_Import_0 (t0 t2 t13 t14 t15 : AV) (h : List AO) : St := ⟨ofE 25 [(0,t0),(2,t2),(13,t13),(14,t14),(15,t15)],h⟩
noncomputable abbrev K_encode_list_api_Import_0 (L : Lay) (kb : Nat) (x : Option (Ex × St)) : Option (AV × List AO) := (retK [.tmp 6] false kb (seqK L kb (blockK 0 x) A122_c0))
/- bodkin/encode.list[bodkin/api.Code] loop 0: t0 , t2 , t13 , t14 , t15  -/
abbrev S_encode_list_api_Code_0 (t0 t2 t13 t14 t15 : AV) (h : List AO) : St := ⟨ofE 25 [(0,t0),(2,t2),(13,t13),(14,t14),(15,t15)],h⟩
noncomputable abbrev K_encode_list_api_Code_0 (L : Lay) (kb : Nat) (x : Option (Ex × St)) : Option (AV × List AO) := (retK [.tmp 6] false kb (seqK L kb (blockK 0 x) A123_c0))
/- bodkin/leb.U loop 0: t1 , t5  -/
abbrev S_leb_U_0 (t1 t5 : AV) (h : List AO) : St := ⟨ofE 23 [(1,t1),(5,t5)],h⟩
noncomputable abbrev K_leb_U_0 (L : Lay) (kb : Nat) (x : Option (Ex × St)) : Option (AV × List AO) := (retK [.tmp 4] false kb (seqK L kb (blockK 0 x) A124_c0))
/- bodkin/encode.list[bodkin/api.TableType] loop 0: t0 , t2 , t13 , t14 , t15  -/
abbrev S_encode_list_api_TableType_0 (t0 t2 t13 t14 t15 : AV) (h : List AO) : St := ⟨ofE 25 [(0,t0),(2,t2),(13,t13),(14,t14),(15,t15)],h⟩
noncomputable abbrev K_encode_list_api_TableType_0 (L : Lay) (kb : Nat) (x : Option (Ex × St)) : Option (AV × List AO) := (retK [.tmp 6] false kb (seqK L kb (blockK 0 x) A125_c0))
/- bodkin/encode.list[bodkin/api.Limits] loop 0: t0 , t2 , t13 , t14 , t15  -/
abbrev S_encode_list_api_Limits_0 (t0 t2 t13 t14 t15 : AV) (h : List AO) : St := ⟨ofE 25 [(0,t0),(2,t2),(13,t13),(14,t14),(15,t15)],h⟩
noncomputable abbrev K_encode_list_api_Limits_0 (L : Lay) (kb : Nat) (x : Option (Ex × St)) : Option (AV × List AO) := (retK [.tmp 6] false kb (seqK L kb (blockK 0 x) A126_c0))
/- bodkin/encode.list[bodkin/api.Var] loop 0: t0 , t2 , t13 , t14 , t15  -/
abbrev S_encode_list_api_Var_0 (t0 t2 t13 t14 t15 : AV) (h : List AO) : St := ⟨ofE 25 [(0,t0),(2,t2),(13,t13),(14,t14),(15,t15)],h⟩
noncomputable abbrev K_encode_list_api_Var_0 (L : Lay) (kb : Nat) (x : Option (Ex × St)) : Option (AV × List AO) := (retK [.tmp 6] false kb (seqK L kb (blockK 0 x) A127_c0))
/- bodkin/encode.code loop 0: t0 , t7 , t8 , t9  -/
abbrev S_encode_code_0 (t0 t7 t8 t9 : AV) (h : List AO) : St := ⟨ofE 18 [(0,t0),(7,t7),(8,t8),(9,t9)],h⟩
noncomputable abbrev K_encode_code_0 (L : Lay) (kb : Nat) (x : Option (Ex × St)) : Option (AV × List AO) := (retK [.tmp 4] false kb (seqK L kb (blockK 0 x) A128_c0))
/- bodkin/encode.list[bodkin/api.Export] loop 0: t0 , t2 , t13 , t14 , t15  -/
abbrev S_encode_list_api_Export_0 (t0 t2 t13 t14 t15 : AV) (h : List AO) : St := ⟨ofE 25 [(0,t0),(2,t2),(13,t13),(14,t14),(15,t15)],h⟩
noncomputable abbrev K_encode_list_api_Export_0 (L : Lay) (kb : Nat) (x : Option (Ex × St)) : Option (AV × List AO) := (retK [.tmp 6] false kb (seqK L kb (blockK 0 x) A129_c0))
/- bodkin/encode.list[bodkin/api.Elem] loop 0: t0 , t2 , t13 , t14 , t15  -/
abbrev S_encode_list_api_Elem_0 (t0 t2 t13 t14 t15 : AV) (h : List AO) : St := ⟨ofE 25 [(0,t0),(2,t2),(13,t13),(14,t14),(15,t15)],h⟩
noncomputable abbrev K_encode_list_api_Elem_0 (L : Lay) (kb : Nat) (x : Option (Ex × St)) : Option (AV × List AO) := (retK [.tmp 6] false kb (seqK L kb (blockK 0 x) A131_c0))
/- bodkin/encode.list[[]bodkin/api.Instr] loop 0: t0 , t2 , t13 , t14 , t15  -/
abbrev S_encode_list_sapi_Instr_0 (t0 t2 t13 t14 t15 : AV) (h : List AO) : St := ⟨ofE 25 [(0,t0),(2,t2),(13,t13),(14,t14),(15,t15)],h⟩
noncomputable abbrev K_encode_list_sapi_Instr_0 (L : Lay) (kb : Nat) (x : Option (Ex × St)) : Option (AV × List AO) := (retK [.tmp 6] false kb (seqK L kb (blockK 0 x) A132_c0))
/- bodkin/encode.list[bodkin/encode.run] loop 0: t0 , t2 , t13 , t14 , t15  -/
abbrev S_encode_list_encode_run_0 (t0 t2 t13 t14 t15 : AV) (h : List AO) : St := ⟨ofE 25 [(0,t0),(2,t2),(13,t13),(14,t14),(15,t15)],h⟩
noncomputable abbrev K_encode_list_encode_run_0 (L : Lay) (kb : Nat) (x : Option (Ex × St)) : Option (AV × List AO) := (retK [.tmp 6] false kb (seqK L kb (blockK 0 x) A134_c0))
/- bodkin/encode.list[bodkin/api.Data] loop 0: t0 , t2 , t13 , t14 , t15  -/
abbrev S_encode_list_api_Data_0 (t0 t2 t13 t14 t15 : AV) (h : List AO) : St := ⟨ofE 25 [(0,t0),(2,t2),(13,t13),(14,t14),(15,t15)],h⟩
noncomputable abbrev K_encode_list_api_Data_0 (L : Lay) (kb : Nat) (x : Option (Ex × St)) : Option (AV × List AO) := (retK [.tmp 6] false kb (seqK L kb (blockK 0 x) A136_c0))
/- bodkin/bodkinref10.octets loop 0: t0 , t3 , t4  -/
abbrev S_bodkinref10_octets_0 (t0 t3 t4 : AV) (h : List AO) : St := ⟨ofE 20 [(0,t0),(3,t3),(4,t4)],h⟩
noncomputable abbrev K_bodkinref10_octets_0 (L : Lay) (kb : Nat) (x : Option (Ex × St)) : Option (AV × List AO) := (retK [.tmp 2] false kb (seqK L kb (blockK 0 x) A137_c0))
/- bodkin/bodkinref01.U loop 0: t0 , t3  -/
abbrev S_bodkinref01_U_0 (t0 t3 : AV) (h : List AO) : St := ⟨ofE 20 [(0,t0),(3,t3)],h⟩
noncomputable abbrev K_bodkinref01_U_0 (L : Lay) (kb : Nat) (x : Option (Ex × St)) : Option (AV × List AO) := (retK [.tmp 2] false kb (seqK L kb (blockK 0 x) A142_c0))
/- bodkin/bodkinref05.Of loop 0: t2 , t4 , t5 , t6 , t7  -/
abbrev S_bodkinref05_Of_0 (t2 t4 t5 t6 t7 : AV) (h : List AO) : St := ⟨ofE 93 [(2,t2),(4,t4),(5,t5),(6,t6),(7,t7)],h⟩
noncomputable abbrev K_bodkinref05_Of_0 (L : Lay) (kb : Nat) (x : Option (Ex × St)) : Option (AV × List AO) := (retK [.cell 2 (some 6)] true kb (seqK L kb (blockK 0 x) A169_c7))
/- (*bodkin/decode.reader).code loop 0: t0 , t1 , t6  -/
abbrev S_pdecode_reader_code_0 (t0 t1 t6 : AV) (h : List AO) : St := ⟨ofE 46 [(0,t0),(1,t1),(6,t6)],h⟩
noncomputable abbrev K_pdecode_reader_code_0 (L : Lay) (kb : Nat) (x : Option (Ex × St)) : Option (AV × List AO) := (retK [.tmp 4,.tmp 5] true kb (blockK 0 x))
/- bodkin/shape.Nest loop 0: t3 , t6 , t7 , t8  -/
abbrev S_shape_Nest_0 (t3 t6 t7 t8 : AV) (h : List AO) : St := ⟨ofE 24 [(3,t3),(6,t6),(7,t7),(8,t8)],h⟩
noncomputable abbrev K_shape_Nest_0 (L : Lay) (kb : Nat) (x : Option (Ex × St)) : Option (AV × List AO) := (retK [.tmp 2] true kb (seqK L kb (blockK 0 x) A177_c0))
/- bodkin/ops.Imm loop 0: t3 , t8 , t9 , t10  -/
abbrev S_ops_Imm_0 (t3 t8 t9 t10 : AV) (h : List AO) : St := ⟨ofE 22 [(3,t3),(8,t8),(9,t9),(10,t10)],h⟩
noncomputable abbrev K_ops_Imm_0 (L : Lay) (kb : Nat) (x : Option (Ex × St)) : Option (AV × List AO) := (retK [.tmp 2] true kb (seqK L kb (blockK 0 x) A201_c0))
/- bodkin/encode.one loop 0: t0 , t147 , t148 , t149  -/
abbrev S_encode_one_0 (t0 t147 t148 t149 : AV) (h : List AO) : St := ⟨ofE 158 [(0,t0),(147,t147),(148,t148),(149,t149)],h⟩
noncomputable abbrev K_encode_one_0 (L : Lay) (kb : Nat) (x : Option (Ex × St)) : Option (AV × List AO) := (retK [.tmp 4] false kb (seqK L kb (blockK 0 (blockK 1 x)) A203_c2))
/- bodkin/bodkinref09.indexes loop 0: t0 , t1 , t5  -/
abbrev S_bodkinref09_indexes_0 (t0 t1 t5 : AV) (h : List AO) : St := ⟨ofE 25 [(0,t0),(1,t1),(5,t5)],h⟩
noncomputable abbrev K_bodkinref09_indexes_0 (L : Lay) (kb : Nat) (x : Option (Ex × St)) : Option (AV × List AO) := (retK [.tmp 4] true kb (seqK L kb (blockK 0 x) A204_c0))
/- bodkin/bodkinref10.behind loop 0: t2 , t6 , t7  -/
abbrev S_bodkinref10_behind_0 (t2 t6 t7 : AV) (h : List AO) : St := ⟨ofE 163 [(2,t2),(6,t6),(7,t7)],h⟩
noncomputable abbrev K_bodkinref10_behind_0 (L : Lay) (kb : Nat) (x : Option (Ex × St)) : Option (AV × List AO) := (retK [.tmp 4] false kb (seqK L kb (blockK 0 (seqK L kb (blockK 1 x) A205_c10)) A205_c0))
/- bodkin/bodkinref05.words loop 0: t0 , t3 , t4 , t5  -/
abbrev S_bodkinref05_words_0 (t0 t3 t4 t5 : AV) (h : List AO) : St := ⟨ofE 36 [(0,t0),(3,t3),(4,t4),(5,t5)],h⟩
noncomputable abbrev K_bodkinref05_words_0 (L : Lay) (kb : Nat) (x : Option (Ex × St)) : Option (AV × List AO) := (retK [.tmp 2] true kb (seqK L kb (blockK 0 x) A215_c0))
/- bodkin/bodkinref05.digits loop 0: t0 , t3 , t4  -/
abbrev S_bodkinref05_digits_0 (t0 t3 t4 : AV) (h : List AO) : St := ⟨ofE 20 [(0,t0),(3,t3),(4,t4)],h⟩
noncomputable abbrev K_bodkinref05_digits_0 (L : Lay) (kb : Nat) (x : Option (Ex × St)) : Option (AV × List AO) := (retK [.tmp 2] true kb (seqK L kb (blockK 0 x) A217_c0))
/- slices.IndexFunc[[]int,int] loop 0: t0 , t1 , t7 , t8  -/
abbrev S_slices_IndexFunc_sint_int_0 (t0 t1 t7 t8 : AV) (h : List AO) : St := ⟨ofE 19 [(0,t0),(1,t1),(7,t7),(8,t8)],h⟩
noncomputable abbrev K_slices_IndexFunc_sint_int_0 (L : Lay) (kb : Nat) (x : Option (Ex × St)) : Option (AV × List AO) := (retK [.tmp 4] true kb (seqK L kb (blockK 0 x) A223_c0))
/- slices.IndexFunc[[][]bodkin/api.Instr,[]bodkin/api.Instr] loop 0: t0 , t1 , t7 , t8  -/
abbrev S_slices_IndexFunc_ssapi_Instr_sapi_Instr_0 (t0 t1 t7 t8 : AV) (h : List AO) : St := ⟨ofE 19 [(0,t0),(1,t1),(7,t7),(8,t8)],h⟩
noncomputable abbrev K_slices_IndexFunc_ssapi_Instr_sapi_Instr_0 (L : Lay) (kb : Nat) (x : Option (Ex × St)) : Option (AV × List AO) := (retK [.tmp 4] true kb (seqK L kb (blockK 0 x) A229_c0))
/- slices.IndexFunc[[]bodkin/api.FuncType,bodkin/api.FuncType] loop 0: t0 , t1 , t7 , t8  -/
abbrev S_slices_IndexFunc_sapi_FuncType_api_FuncType_0 (t0 t1 t7 t8 : AV) (h : List AO) : St := ⟨ofE 19 [(0,t0),(1,t1),(7,t7),(8,t8)],h⟩
noncomputable abbrev K_slices_IndexFunc_sapi_FuncType_api_FuncType_0 (L : Lay) (kb : Nat) (x : Option (Ex × St)) : Option (AV × List AO) := (retK [.tmp 4] true kb (seqK L kb (blockK 0 x) A230_c0))
/- slices.IndexFunc[[]bodkin/api.Import,bodkin/api.Import] loop 0: t0 , t1 , t7 , t8  -/
abbrev S_slices_IndexFunc_sapi_Import_api_Import_0 (t0 t1 t7 t8 : AV) (h : List AO) : St := ⟨ofE 19 [(0,t0),(1,t1),(7,t7),(8,t8)],h⟩
noncomputable abbrev K_slices_IndexFunc_sapi_Import_api_Import_0 (L : Lay) (kb : Nat) (x : Option (Ex × St)) : Option (AV × List AO) := (retK [.tmp 4] true kb (seqK L kb (blockK 0 x) A231_c0))
/- slices.IndexFunc[[]bodkin/api.Code,bodkin/api.Code] loop 0: t0 , t1 , t7 , t8  -/
abbrev S_slices_IndexFunc_sapi_Code_api_Code_0 (t0 t1 t7 t8 : AV) (h : List AO) : St := ⟨ofE 19 [(0,t0),(1,t1),(7,t7),(8,t8)],h⟩
noncomputable abbrev K_slices_IndexFunc_sapi_Code_api_Code_0 (L : Lay) (kb : Nat) (x : Option (Ex × St)) : Option (AV × List AO) := (retK [.tmp 4] true kb (seqK L kb (blockK 0 x) A232_c0))
/- slices.IndexFunc[[]bodkin/api.TableType,bodkin/api.TableType] loop 0: t0 , t1 , t7 , t8  -/
abbrev S_slices_IndexFunc_sapi_TableType_api_TableType_0 (t0 t1 t7 t8 : AV) (h : List AO) : St := ⟨ofE 19 [(0,t0),(1,t1),(7,t7),(8,t8)],h⟩
noncomputable abbrev K_slices_IndexFunc_sapi_TableType_api_TableType_0 (L : Lay) (kb : Nat) (x : Option (Ex × St)) : Option (AV × List AO) := (retK [.tmp 4] true kb (seqK L kb (blockK 0 x) A233_c0))
/- slices.IndexFunc[[]bodkin/api.Limits,bodkin/api.Limits] loop 0: t0 , t1 , t7 , t8  -/
abbrev S_slices_IndexFunc_sapi_Limits_api_Limits_0 (t0 t1 t7 t8 : AV) (h : List AO) : St := ⟨ofE 19 [(0,t0),(1,t1),(7,t7),(8,t8)],h⟩
noncomputable abbrev K_slices_IndexFunc_sapi_Limits_api_Limits_0 (L : Lay) (kb : Nat) (x : Option (Ex × St)) : Option (AV × List AO) := (retK [.tmp 4] true kb (seqK L kb (blockK 0 x) A234_c0))
/- slices.IndexFunc[[]bodkin/api.Var,bodkin/api.Var] loop 0: t0 , t1 , t7 , t8  -/
abbrev S_slices_IndexFunc_sapi_Var_api_Var_0 (t0 t1 t7 t8 : AV) (h : List AO) : St := ⟨ofE 19 [(0,t0),(1,t1),(7,t7),(8,t8)],h⟩
noncomputable abbrev K_slices_IndexFunc_sapi_Var_api_Var_0 (L : Lay) (kb : Nat) (x : Option (Ex × St)) : Option (AV × List AO) := (retK [.tmp 4] true kb (seqK L kb (blockK 0 x) A235_c0))
/- slices.IndexFunc[[]bodkin/api.Export,bodkin/api.Export] loop 0: t0 , t1 , t7 , t8  -/
abbrev S_slices_IndexFunc_sapi_Export_api_Export_0 (t0 t1 t7 t8 : AV) (h : List AO) : St := ⟨ofE 19 [(0,t0),(1,t1),(7,t7),(8,t8)],h⟩
noncomputable abbrev K_slices_IndexFunc_sapi_Export_api_Export_0 (L : Lay) (kb : Nat) (x : Option (Ex × St)) : Option (AV × List AO) := (retK [.tmp 4] true kb (seqK L kb (blockK 0 x) A236_c0))
/- slices.IndexFunc[[]bodkin/api.Elem,bodkin/api.Elem] loop 0: t0 , t1 , t7 , t8  -/
abbrev S_slices_IndexFunc_sapi_Elem_api_Elem_0 (t0 t1 t7 t8 : AV) (h : List AO) : St := ⟨ofE 19 [(0,t0),(1,t1),(7,t7),(8,t8)],h⟩
noncomputable abbrev K_slices_IndexFunc_sapi_Elem_api_Elem_0 (L : Lay) (kb : Nat) (x : Option (Ex × St)) : Option (AV × List AO) := (retK [.tmp 4] true kb (seqK L kb (blockK 0 x) A237_c0))
/- slices.IndexFunc[[]bodkin/api.Data,bodkin/api.Data] loop 0: t0 , t1 , t7 , t8  -/
abbrev S_slices_IndexFunc_sapi_Data_api_Data_0 (t0 t1 t7 t8 : AV) (h : List AO) : St := ⟨ofE 19 [(0,t0),(1,t1),(7,t7),(8,t8)],h⟩
noncomputable abbrev K_slices_IndexFunc_sapi_Data_api_Data_0 (L : Lay) (kb : Nat) (x : Option (Ex × St)) : Option (AV × List AO) := (retK [.tmp 4] true kb (seqK L kb (blockK 0 x) A238_c0))
/- bodkin/encode.words loop 0: t0 , t7 , t8 , t9  -/
abbrev S_encode_words_0 (t0 t7 t8 t9 : AV) (h : List AO) : St := ⟨ofE 25 [(0,t0),(7,t7),(8,t8),(9,t9)],h⟩
noncomputable abbrev K_encode_words_0 (L : Lay) (kb : Nat) (x : Option (Ex × St)) : Option (AV × List AO) := (retK [.tmp 4] false kb (seqK L kb (blockK 0 x) A243_c0))
/- bodkin/encode.words loop 1: t0 , t6 , t7 , t8 , t9 , t13  -/
abbrev S_encode_words_1 (t0 t6 t7 t8 t9 t13 : AV) (h : List AO) : St := ⟨ofE 25 [(0,t0),(6,t6),(7,t7),(8,t8),(9,t9),(13,t13)],h⟩
noncomputable abbrev K_encode_words_1 (L : Lay) (kb : Nat) (x : Option (Ex × St)) : Option (AV × List AO) := (retK [.tmp 4] false kb (seqK L kb (blockK 0 (seqK L kb (seqK L kb (blockK 1 (blockK 2 x)) A243_c1) (.loop A243_l0))) A243_c0))
/- bodkin/bodkinref01.S loop 0: t0 , t3  -/
abbrev S_bodkinref01_S_0 (t0 t3 : AV) (h : List AO) : St := ⟨ofE 36 [(0,t0),(3,t3)],h⟩
noncomputable abbrev K_bodkinref01_S_0 (L : Lay) (kb : Nat) (x : Option (Ex × St)) : Option (AV × List AO) := (retK [.tmp 2] false kb (seqK L kb (blockK 0 x) A244_c2))
/- bodkin/bodkinref10.low loop 0: t0 , t1 , t5 , t6  -/
abbrev S_bodkinref10_low_0 (t0 t1 t5 t6 : AV) (h : List AO) : St := ⟨ofE 21 [(0,t0),(1,t1),(5,t5),(6,t6)],h⟩
noncomputable abbrev K_bodkinref10_low_0 (L : Lay) (kb : Nat) (x : Option (Ex × St)) : Option (AV × List AO) := (retK [.tmp 4] false kb (seqK L kb (blockK 0 x) A246_c0))
/- bodkin/bodkinref02.Cut loop 0: t0 , t1 , t5 , t6  -/
abbrev S_bodkinref02_Cut_0 (t0 t1 t5 t6 : AV) (h : List AO) : St := ⟨ofE 20 [(0,t0),(1,t1),(5,t5),(6,t6)],h⟩
noncomputable abbrev K_bodkinref02_Cut_0 (L : Lay) (kb : Nat) (x : Option (Ex × St)) : Option (AV × List AO) := (retK [.tmp 4] true kb (seqK L kb (blockK 0 x) A258_c0))
/- strings.Fields loop 0: t0 , t9 , t10 , t11 , t12  -/
abbrev S_strings_Fields_0 (t0 t9 t10 t11 t12 : AV) (h : List AO) : St := ⟨ofE 106 [(0,t0),(9,t9),(10,t10),(11,t11),(12,t12)],h⟩
noncomputable abbrev K_strings_Fields_0 (L : Lay) (kb : Nat) (x : Option (Ex × St)) : Option (AV × List AO) := (retK [.tmp 2] true kb (seqK L kb (blockK 4 x) A266_c2))
/- strings.Fields loop 1: t0 , t9 , t10 , t12  -/
abbrev S_strings_Fields_1 (t0 t9 t10 t12 : AV) (h : List AO) : St := ⟨ofE 106 [(0,t0),(9,t9),(10,t10),(12,t12)],h⟩
noncomputable abbrev K_strings_Fields_1 (L : Lay) (kb : Nat) (x : Option (Ex × St)) : Option (AV × List AO) := (retK [.tmp 2] true kb (seqK L kb (blockK 4 (seqK L kb (blockK 5 (seqK L kb (blockK 6 x) A266_c4)) (.loop A266_l0))) A266_c2))
/- strings.Fields loop 2: t0 , t9 , t10 , t12  -/
abbrev S_strings_Fields_2 (t0 t9 t10 t12 : AV) (h : List AO) : St := ⟨ofE 106 [(0,t0),(9,t9),(10,t10),(12,t12)],h⟩
noncomputable abbrev K_strings_Fields_2 (L : Lay) (kb : Nat) (x : Option (Ex × St)) : Option (AV × List AO) := (retK [.tmp 2] true kb (seqK L kb (blockK 2 x) A266_c10))
/- strings.Fields loop 3: t0 , t3 , t4 , t5 , t6  -/
abbrev S_strings_Fields_3 (t0 t3 t4 t5 t6 : AV) (h : List AO) : St := ⟨ofE 106 [(0,t0),(3,t3),(4,t4),(5,t5),(6,t6)],h⟩
noncomputable abbrev K_strings_Fields_3 (L : Lay) (kb : Nat) (x : Option (Ex × St)) : Option (AV × List AO) := (retK [.tmp 2] true kb (seqK L kb (blockK 0 x) A266_c14))
/- bodkin/leb.S loop 0: t1 , t5  -/
abbrev S_leb_S_0 (t1 t5 : AV) (h : List AO) : St := ⟨ofE 28 [(1,t1),(5,t5)],h⟩
noncomputable abbrev K_leb_S_0 (L : Lay) (kb : Nat) (x : Option (Ex × St)) : Option (AV × List AO) := (retK [.tmp 4] false kb (seqK L kb (blockK 0 x) A267_c0))
/- bodkin/bodkinref02.bit loop 0: t0 , t1 , t5  -/
abbrev S_bodkinref02_bit_0 (t0 t1 t5 : AV) (h : List AO) : St := ⟨ofE 15 [(0,t0),(1,t1),(5,t5)],h⟩
noncomputable abbrev K_bodkinref02_bit_0 (L : Lay) (kb : Nat) (x : Option (Ex × St)) : Option (AV × List AO) := (retK [.tmp 4] true kb (seqK L kb (blockK 0 x) A270_c0))
/- slices.IndexFunc[[]bodkin/api.Instr,bodkin/api.Instr] loop 0: t0 , t1 , t7 , t8  -/
abbrev S_slices_IndexFunc_sapi_Instr_api_Instr_0 (t0 t1 t7 t8 : AV) (h : List AO) : St := ⟨ofE 19 [(0,t0),(1,t1),(7,t7),(8,t8)],h⟩
noncomputable abbrev K_slices_IndexFunc_sapi_Instr_api_Instr_0 (L : Lay) (kb : Nat) (x : Option (Ex × St)) : Option (AV × List AO) := (retK [.tmp 4] true kb (seqK L kb (blockK 0 x) A277_c0))
/- unicode.is16 loop 0: t0 , t1 , t7 , t8  -/
abbrev S_unicode_is16_0 (t0 t1 t7 t8 : AV) (h : List AO) : St := ⟨ofE 114 [(0,t0),(1,t1),(7,t7),(8,t8)],h⟩
noncomputable abbrev K_unicode_is16_0 (L : Lay) (kb : Nat) (x : Option (Ex × St)) : Option (AV × List AO) := (retK [.tmp 4] true kb (seqK L kb (blockK 2 x) A284_c0))
/- unicode.is16 loop 1: t0 , t1 , t19 , t20  -/
abbrev S_unicode_is16_1 (t0 t1 t19 t20 : AV) (h : List AO) : St := ⟨ofE 114 [(0,t0),(1,t1),(19,t19),(20,t20)],h⟩
noncomputable abbrev K_unicode_is16_1 (L : Lay) (kb : Nat) (x : Option (Ex × St)) : Option (AV × List AO) := (retK [.tmp 4] true kb (seqK L kb (seqK L kb (blockK 0 x) A284_c9) A284_c8))
/- unicode.is32 loop 0: t0 , t1 , t7 , t8  -/
abbrev S_unicode_is32_0 (t0 t1 t7 t8 : AV) (h : List AO) : St := ⟨ofE 99 [(0,t0),(1,t1),(7,t7),(8,t8)],h⟩
noncomputable abbrev K_unicode_is32_0 (L : Lay) (kb : Nat) (x : Option (Ex × St)) : Option (AV × List AO) := (retK [.tmp 4] true kb (seqK L kb (blockK 2 x) A285_c0))
/- unicode.is32 loop 1: t0 , t1 , t15 , t16  -/
abbrev S_unicode_is32_1 (t0 t1 t15 t16 : AV) (h : List AO) : St := ⟨ofE 99 [(0,t0),(1,t1),(15,t15),(16,t16)],h⟩
noncomputable abbrev K_unicode_is32_1 (L : Lay) (kb : Nat) (x : Option (Ex × St)) : Option (AV × List AO) := (retK [.tmp 4] true kb (seqK L kb (seqK L kb (blockK 0 x) A285_c9) A285_c8))
abbrev L_bodkinlaw10_EncodeDeep_0 : AC := A6_l0
abbrev L_bodkinref09_Nest_0 : AC := A27_l0
abbrev L_encode_list_int_0 : AC := A33_l0
abbrev L_encode_elem_0 : AC := A53_l0
abbrev L_encode_body_0 : AC := A54_l0
abbrev L_bodkinref09_weigh_0 : AC := A64_l0
abbrev L_bodkinref09_ones_0 : AC := A65_l0
abbrev L_bodkinref10_inner_0 : AC := A66_l0
abbrev L_bodkinref09_Vals_0 : AC := A82_l0
abbrev L_leb_Valid_0 : AC := A102_l0
abbrev L_encode_list_api_FuncType_0 : AC := A121_l0
abbrev L_encode_list_api_Import_0 : AC := A122_l0
abbrev L_encode_list_api_Code_0 : AC := A123_l0
abbrev L_leb_U_0 : AC := A124_l0
abbrev L_encode_list_api_TableType_0 : AC := A125_l0
abbrev L_encode_list_api_Limits_0 : AC := A126_l0
abbrev L_encode_list_api_Var_0 : AC := A127_l0
abbrev L_encode_code_0 : AC := A128_l0
abbrev L_encode_list_api_Export_0 : AC := A129_l0
abbrev L_encode_list_api_Elem_0 : AC := A131_l0
abbrev L_encode_list_sapi_Instr_0 : AC := A132_l0
abbrev L_encode_list_encode_run_0 : AC := A134_l0
abbrev L_encode_list_api_Data_0 : AC := A136_l0
abbrev L_bodkinref10_octets_0 : AC := A137_l0
abbrev L_bodkinref01_U_0 : AC := A142_l0
abbrev L_bodkinref05_Of_0 : AC := A169_l0
abbrev L_shape_Nest_0 : AC := A177_l0
abbrev L_ops_Imm_0 : AC := A201_l0
abbrev L_encode_one_0 : AC := A203_l0
abbrev L_bodkinref09_indexes_0 : AC := A204_l0
abbrev L_bodkinref10_behind_0 : AC := A205_l0
abbrev L_bodkinref05_words_0 : AC := A215_l0
abbrev L_bodkinref05_digits_0 : AC := A217_l0
abbrev L_slices_IndexFunc_sint_int_0 : AC := A223_l0
abbrev L_slices_IndexFunc_ssapi_Instr_sapi_Instr_0 : AC := A229_l0
abbrev L_slices_IndexFunc_sapi_FuncType_api_FuncType_0 : AC := A230_l0
abbrev L_slices_IndexFunc_sapi_Import_api_Import_0 : AC := A231_l0
abbrev L_slices_IndexFunc_sapi_Code_api_Code_0 : AC := A232_l0
abbrev L_slices_IndexFunc_sapi_TableType_api_TableType_0 : AC := A233_l0
abbrev L_slices_IndexFunc_sapi_Limits_api_Limits_0 : AC := A234_l0
abbrev L_slices_IndexFunc_sapi_Var_api_Var_0 : AC := A235_l0
abbrev L_slices_IndexFunc_sapi_Export_api_Export_0 : AC := A236_l0
abbrev L_slices_IndexFunc_sapi_Elem_api_Elem_0 : AC := A237_l0
abbrev L_slices_IndexFunc_sapi_Data_api_Data_0 : AC := A238_l0
abbrev L_encode_words_0 : AC := A243_l0
abbrev L_encode_words_1 : AC := A243_l1
abbrev L_bodkinref01_S_0 : AC := A244_l0
abbrev L_bodkinref10_low_0 : AC := A246_l0
abbrev L_bodkinref02_Cut_0 : AC := A258_l0
abbrev L_strings_Fields_0 : AC := A266_l0
abbrev L_strings_Fields_1 : AC := A266_l1
abbrev L_strings_Fields_2 : AC := A266_l2
abbrev L_strings_Fields_3 : AC := A266_l3
abbrev L_leb_S_0 : AC := A267_l0
abbrev L_bodkinref02_bit_0 : AC := A270_l0
abbrev L_slices_IndexFunc_sapi_Instr_api_Instr_0 : AC := A277_l0
abbrev L_unicode_is16_0 : AC := A284_l0
abbrev L_unicode_is16_1 : AC := A284_l1
abbrev L_unicode_is32_0 : AC := A285_l0
abbrev L_unicode_is32_1 : AC := A285_l1
end Go.Proofs.YtgehpjjpeddomaaGreatDoor
