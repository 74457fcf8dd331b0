/- Printed by wip/tools/vc.py: the types, the functions' results. -/
import Derived.Test.YthojnihahmlboaaGreatEng15
import Derived.Test.YthojnihahmlboaaGreatProg
import Derived.KernelRfl
namespace Go.Proofs.YthojnihahmlboaaGreat
open Go.RowKit
set_option linter.unusedVariables false
set_option maxRecDepth 100000
set_option maxHeartbeats 1600000
def ty_int64 : TypeId := 2
def ty_int : TypeId := 3
def ty_bool : TypeId := 4
def ty_uint8 : TypeId := 5
def ty_internal_abi_BoundsErrorCode : TypeId := 6
def ty_runtime_boundsError : TypeId := 8
def ty_string : TypeId := 9
def ty_runtime_errorString : TypeId := 10
def ty_runtime_plainError : TypeId := 11
def ty_uintptr : TypeId := 12
def ty_runtime_errorAddressString : TypeId := 14
def ty_p_runtime_TypeAssertionError : TypeId := 15
def ty_p_runtime_PanicNilError : TypeId := 16
def ty_p_abi_Type : TypeId := 17
def ty_internal_runtime_maps_unhashableTypeError : TypeId := 19
def ty_interface : TypeId := 20
def ty_int32 : TypeId := 21
def ty_sl_laws_Cpu : TypeId := 22
def ty_sl_laws_Task : TypeId := 23
def ty_sl_laws_Group : TypeId := 24
def ty_laws_World : TypeId := 26
def ty_sl_impl_Cpu : TypeId := 29
def ty_sl_impl_Task : TypeId := 30
def ty_sl_impl_Group : TypeId := 31
def ty_impl_World : TypeId := 33
def ty_impl_Task : TypeId := 50
def ty_impl_Cpu : TypeId := 53
def ty_p_impl_World : TypeId := 58
def ty_impl_lane : TypeId := 60
def ty_p_impl_Cpu : TypeId := 62
def ty_sl_int : TypeId := 73
def ty_sl_bool : TypeId := 75
def ty_impl_Band : TypeId := 77
def ty_sl_impl_Shelf : TypeId := 78
def ty_impl_Group : TypeId := 80
def ty_p_strings_Builder : TypeId := 83
def ty_sl_uint8 : TypeId := 84
def ty_strings_Builder : TypeId := 86
def ty_interface_Error_string : TypeId := 87
def ty_error : TypeId := 88
def ty_sl_string : TypeId := 91
def ty_impl_file : TypeId := 101
def ty_laws_Band : TypeId := 106
def ty_sl_laws_Shelf : TypeId := 107
def ty_laws_Group : TypeId := 109
def ty_laws_Cpu : TypeId := 114
def ty_laws_Task : TypeId := 116
def ty_arr5_func_p_impl_World_bool : TypeId := 120
def ty_impl_Shelf : TypeId := 122
def ty_p_impl_Shelf : TypeId := 123
def ty_p_uint8 : TypeId := 132
def ty_uint : TypeId := 133
def ty_iter_Seq_int : TypeId := 136
def ty_impl_cpuSet : TypeId := 137
def ty_sl_impl_member : TypeId := 141
def ty_impl_member : TypeId := 144
def ty_impl_taskMember : TypeId := 148
def ty_impl_groupMember : TypeId := 150
def ty_map_string_impl_file : TypeId := 152
def ty_sl_p_impl_node : TypeId := 165
def ty_p_impl_node : TypeId := 168
def ty_unsafe_Pointer : TypeId := 169
def ty_arr4_bool : TypeId := 172
def ty_impl_spanOf : TypeId := 173
def ty_impl_weightFile : TypeId := 177
def ty_impl_maxFile : TypeId := 178
def ty_impl_cpusFile : TypeId := 179
def ty_impl_procsFile : TypeId := 180
def ty_impl_statFile : TypeId := 181
def ty_laws_Shelf : TypeId := 187
def ty_arr21_int : TypeId := 188
def ty_impl_node : TypeId := 194
def ty_map_impl_nodeKey_int : TypeId := 195
def ty_impl_nodeKey : TypeId := 197
def ty_runtime_TypeAssertionError : TypeId := 199
def ty_arr0_p_runtime_PanicNilError : TypeId := 200
def ty_runtime_PanicNilError : TypeId := 202
def ty_uint32 : TypeId := 203
def ty_internal_abi_TFlag : TypeId := 204
def ty_internal_abi_Kind : TypeId := 205
def ty_internal_abi_NameOff : TypeId := 207
def ty_internal_abi_TypeOff : TypeId := 208
def ty_internal_abi_Type : TypeId := 210
def ty_arr24_uint8 : TypeId := 214
def ty_uint64 : TypeId := 215
def ty_arr20_uint64 : TypeId := 221
def ty_arr65_uint8 : TypeId := 222
def ty_arr32_uint8 : TypeId := 225
def ty_arr64_uint8 : TypeId := 226
def ty_p_impl_Band : TypeId := 227
def ty_impl_memberKey : TypeId := 233
def fn_main_main : Nat := 0
def fn_gosem_cut : Nat := 1
def fn_gosem_cut_init : Nat := 2
def fn_laws_szCpuS : Nat := 33
def fn_laws_szTaskS : Nat := 34
def fn_laws_szIntS : Nat := 177
def fn_laws_szBoolS : Nat := 178
def fn_laws_szBand : Nat := 130
def fn_laws_szShelfS : Nat := 131
def fn_laws_szGroup : Nat := 82
def fn_laws_szGroupS : Nat := 35
def fn_laws_szWorld : Nat := 12
def fn_spec_l1In : Nat := 37
def fn_spec_l6File : Nat := 127
def fn_spec_NameOk : Nat := 132
def fn_spec_l6Used : Nat := 52
def fn_spec_l6Depth : Nat := 133
def fn_spec_TreeOk : Nat := 83
def fn_spec_l8Ups : Nat := 84
def fn_spec_l8NoBand : Nat := 134
def fn_spec_l1Weight : Nat := 135
def fn_spec_MaskOk : Nat := 136
def fn_spec_l4Time : Nat := 137
def fn_spec_BandOk : Nat := 138
def fn_spec_l8GroupOk : Nat := 85
def fn_spec_WeightOf : Nat := 102
def fn_spec_MaskHas : Nat := 113
def fn_spec_MaskAnd : Nat := 179
def fn_spec_l8Pins : Nat := 180
def fn_spec_l8Where : Nat := 139
def fn_spec_VirtualStep : Nat := 182
def fn_spec_LagMost : Nat := 181
def fn_spec_l8Stand : Nat := 140
def fn_spec_l8TaskOk : Nat := 86
def fn_spec_l8Queued : Nat := 89
def fn_spec_l8Active : Nat := 141
def fn_spec_l8Dry : Nat := 142
def fn_spec_l8ShelfOk : Nat := 87
def fn_spec_l8InLine : Nat := 38
def fn_spec_l8Stayed : Nat := 143
def fn_spec_l8CpuOk : Nat := 88
def fn_spec_WorldOk : Nat := 36
def fn_spec_CpuWaiting : Nat := 13
def fn_laws_toCpu : Nat := 90
def fn_laws_toCpuS : Nat := 39
def fn_laws_toTask : Nat := 91
def fn_laws_toTaskS : Nat := 40
def fn_laws_toIntS : Nat := 183
def fn_laws_toBoolS : Nat := 184
def fn_laws_toBand : Nat := 144
def fn_laws_toShelf : Nat := 185
def fn_laws_toShelfS : Nat := 145
def fn_laws_toGroup : Nat := 92
def fn_laws_toGroupS : Nat := 41
def fn_laws_toWorld : Nat := 14
def fn_impl_inRange : Nat := 70
def fn_impl_groupUsed : Nat := 54
def fn_impl_NameOk : Nat := 196
def fn_impl_node_depth : Nat := 197
def fn_impl_nodes : Nat := 166
def fn_impl_TreeOk : Nat := 111
def fn_impl_timeOk : Nat := 146
def fn_impl_World_online : Nat := 147
def fn_impl_World_shapeOk : Nat := 93
def fn_impl_bandZero : Nat := 186
def fn_impl_groupZero : Nat := 148
def fn_impl_weightOk : Nat := 149
def fn_impl_cpuSet_ok : Nat := 198
def fn_impl_MaskOk : Nat := 187
def fn_impl_maskFull : Nat := 150
def fn_impl_BandOk : Nat := 188
def fn_impl_World_quotaOk : Nat := 151
def fn_impl_World_groupsOk : Nat := 94
def fn_impl_World_lane : Nat := 44
def fn_impl_lane_shelf : Nat := 98
def fn_impl_niceOk : Nat := 152
def fn_impl_loadOk : Nat := 153
def fn_impl_cpuSet_has : Nat := 172
def fn_impl_MaskHas : Nat := 154
def fn_impl_MaskAnd : Nat := 200
def fn_impl_World_pins : Nat := 199
def fn_impl_World_allowedIn : Nat := 189
def fn_impl_World_allowed : Nat := 155
def fn_impl_weightSteps : Nat := 191
def fn_impl_VirtualStep : Nat := 161
def fn_impl_LagMost : Nat := 190
def fn_impl_placed : Nat := 156
def fn_impl_WeightOf : Nat := 157
def fn_impl_World_tasksOk : Nat := 95
def fn_impl_lane_queues : Nat := 174
def fn_impl_lane_holds : Nat := 175
def fn_impl_lane_active : Nat := 158
def fn_impl_lane_dry : Nat := 159
def fn_impl_World_shelvesOk : Nat := 96
def fn_impl_lane_inLine : Nat := 45
def fn_impl_World_taskThere : Nat := 160
def fn_impl_World_cpusOk : Nat := 97
def fn_impl_WorldOk : Nat := 42
def fn_impl_World_cpuThere : Nat := 43
def fn_impl_lane_cpu : Nat := 46
def fn_impl_CpuWaiting : Nat := 15
def fn_laws_eqCpu : Nat := 99
def fn_laws_eqCpuS : Nat := 47
def fn_laws_eqTask : Nat := 100
def fn_laws_eqTaskS : Nat := 48
def fn_laws_eqIntS : Nat := 192
def fn_laws_eqBoolS : Nat := 193
def fn_laws_eqBand : Nat := 162
def fn_laws_eqShelf : Nat := 194
def fn_laws_eqShelfS : Nat := 163
def fn_laws_eqGroup : Nat := 101
def fn_laws_eqGroupS : Nat := 49
def fn_laws_eqWorld : Nat := 16
def fn_laws_FnExactCpuWaiting : Nat := 3
def fn_spec_l12Load : Nat := 50
def fn_spec_CpuLoad : Nat := 17
def fn_impl_World_weight : Nat := 103
def fn_impl_total : Nat := 104
def fn_impl_lane_load : Nat := 51
def fn_impl_CpuLoad : Nat := 18
def fn_laws_FnExactCpuLoad : Nat := 4
def fn_spec_TreeUnder : Nat := 105
def fn_spec_l12Inside : Nat := 53
def fn_spec_GroupInside : Nat := 19
def fn_impl_inside : Nat := 106
def fn_impl_lane_inside : Nat := 55
def fn_impl_GroupInside : Nat := 20
def fn_laws_FnExactGroupInside : Nat := 5
def fn_spec_l1Max : Nat := 107
def fn_spec_l12Share : Nat := 56
def fn_spec_GroupShare : Nat := 21
def fn_impl_lane_share : Nat := 57
def fn_impl_GroupShare : Nat := 22
def fn_laws_FnExactGroupShare : Nat := 6
def fn_spec_l14Split : Nat := 58
def fn_spec_l6Path : Nat := 164
def fn_spec_TreePath : Nat := 108
def fn_spec_TreeFind : Nat := 59
def fn_spec_TreeKids : Nat := 60
def fn_spec_FileList : Nat := 23
def fn_internal_bytealg_LastIndexByteString : Nat := 195
def fn_strings_LastIndexByte : Nat := 165
def fn_impl_splitPath : Nat := 109
def fn_impl_node_path : Nat := 167
def fn_impl_TreeFind : Nat := 110
def fn_impl_findGroup : Nat := 61
def fn_impl_TreeKids : Nat := 62
def fn_internal_abi_NoEscape : Nat := 168
def fn_strings_Builder_copyCheck : Nat := 112
def fn_strings_Builder_WriteString : Nat := 63
def fn_impl_fileNames : Nat := 64
def fn_strings_Builder_String : Nat := 65
def fn_impl_FileList : Nat := 24
def fn_laws_FnExactFileList : Nat := 7
def fn_spec_l9Up : Nat := 66
def fn_spec_DomainLevels : Nat := 67
def fn_spec_l9Groups : Nat := 169
def fn_spec_l12Could : Nat := 114
def fn_spec_l12Busiest : Nat := 68
def fn_spec_DomainSpan : Nat := 69
def fn_spec_CpuBusiest : Nat := 25
def fn_impl_DomainLevels : Nat := 71
def fn_impl_best_int : Nat := 119
def fn_impl_lane_busiest : Nat := 72
def fn_impl_CpuBusiest : Nat := 26
def fn_laws_FnExactCpuBusiest : Nat := 8
def fn_spec_l12Fits : Nat := 121
def fn_spec_l12Pull : Nat := 73
def fn_spec_CpuPull : Nat := 27
def fn_impl_lane_couldRun : Nat := 118
def fn_impl_lane_pull : Nat := 74
def fn_impl_CpuPull : Nat := 28
def fn_laws_FnExactCpuPull : Nat := 9
def fn_spec_l8Least : Nat := 173
def fn_spec_l9Next : Nat := 122
def fn_spec_l9Pick : Nat := 75
def fn_spec_WorldPick : Nat := 29
def fn_impl_lane_members : Nat := 123
def fn_slices_MinFunc_impl_member_impl_member : Nat := 124
def fn_cmp_isNaN_int : Nat := 176
def fn_cmp_Compare_int : Nat := 126
def fn_impl_lane_pick_1 : Nat := 125
def fn_impl_lane_pick : Nat := 76
def fn_impl_WorldPick : Nat := 30
def fn_laws_FnExactWorldPick : Nat := 10
def fn_spec_l14Find : Nat := 77
def fn_spec_l14Dec : Nat := 78
def fn_spec_l2Digit : Nat := 128
def fn_spec_MaskText : Nat := 79
def fn_spec_l14Stat : Nat := 80
def fn_spec_FileRead : Nat := 31
def fn_impl_files : Nat := 129
def fn_impl_findFile : Nat := 81
def fn_impl_FileRead : Nat := 32
def fn_laws_FnExactFileRead : Nat := 11
def fn_impl_neighbors : Nat := 170
def fn_impl_DomainSpan : Nat := 116
def fn_impl_cpuSet_members : Nat := 117
def fn_impl_lane_busiest_1 : Nat := 115
def fn_impl_lane_busiest_2 : Nat := 120
def fn_impl_cpuSet_members_1 : Nat := 171
def fn_runtime_boundsError_Error : Nat := 201
def fn_runtime_boundsError_RuntimeError : Nat := 202
def fn_runtime_errorString_Error : Nat := 203
def fn_runtime_errorString_RuntimeError : Nat := 204
def fn_runtime_plainError_Error : Nat := 205
def fn_runtime_plainError_RuntimeError : Nat := 206
def fn_runtime_errorAddressString_Error : Nat := 207
def fn_runtime_errorAddressString_RuntimeError : Nat := 208
def fn_runtime_TypeAssertionError_Error : Nat := 209
def fn_runtime_TypeAssertionError_RuntimeError : Nat := 210
def fn_runtime_PanicNilError_Error : Nat := 211
def fn_runtime_PanicNilError_RuntimeError : Nat := 212
def fn_internal_abi_Type_Align : Nat := 213
def fn_internal_runtime_maps_unhashableTypeError_Error : Nat := 214
def fn_internal_runtime_maps_unhashableTypeError_RuntimeError : Nat := 215
def fn_impl_World_relocate : Nat := 216
def fn_impl_lane_endSlice : Nat := 217
def fn_strings_Builder_Reset : Nat := 218
def fn_impl_taskMember_key : Nat := 219
def fn_impl_taskMember_time : Nat := 220
def fn_impl_taskMember_weight : Nat := 221
def fn_impl_groupMember_key : Nat := 222
def fn_impl_groupMember_time : Nat := 223
def fn_impl_groupMember_weight : Nat := 224
def fn_internal_strconv_small : Nat := 230
def fn_internal_strconv_log10Pow2 : Nat := 234
def fn_math_bits_Len64 : Nat := 235
def fn_internal_strconv_bool2_int : Nat := 236
def fn_internal_strconv_numDigits : Nat := 231
def fn_internal_strconv_formatBase10 : Nat := 232
def fn_internal_strconv_isPowerOfTwo : Nat := 237
def fn_math_bits_TrailingZeros32 : Nat := 239
def fn_math_bits_TrailingZeros64 : Nat := 240
def fn_math_bits_TrailingZeros : Nat := 238
def fn_internal_strconv_formatBits : Nat := 233
def fn_internal_strconv_FormatInt : Nat := 229
def fn_internal_strconv_Itoa : Nat := 228
def fn_strconv_Itoa : Nat := 227
def fn_impl_weightFile_read : Nat := 225
def fn_impl_weightFile_write : Nat := 226
def fn_impl_World_quota : Nat := 243
def fn_impl_maxFile_read : Nat := 241
def fn_impl_maxFile_write : Nat := 242
def fn_internal_bytealg_MakeNoZero : Nat := 250
def fn_strings_Builder_grow : Nat := 249
def fn_strings_Builder_Grow : Nat := 248
def fn_strings_Join : Nat := 247
def fn_impl_MaskText : Nat := 246
def fn_impl_cpusFile_read : Nat := 244
def fn_impl_cpusFile_write : Nat := 245
def fn_impl_procsFile_read : Nat := 251
def fn_impl_procsFile_write : Nat := 252
def fn_impl_statFile_read : Nat := 253
def fn_impl_statFile_write : Nat := 254
def fn_internal_abi_Kind_String : Nat := 255
def fn_impl_Band_wet : Nat := 256
def fn_gosem_cut_vars : Nat := 257
noncomputable def tbl : List (TypeId × Ty) := [
  (0, { agg := false, ks := [.other], d := .other }),
  (1, { agg := false, ks := [.fn], d := .other }),
  (2, { agg := false, ks := [.int .i64], d := .int .i64 }),
  (3, { agg := false, ks := [.int .i64], d := .int .i64 }),
  (4, { agg := false, ks := [.bool], d := .bool }),
  (5, { agg := false, ks := [.int .u8], d := .int .u8 }),
  (6, { agg := false, ks := [.int .u8], d := .int .u8 }),
  (7, { agg := true, ks := [.int .i64, .int .i64, .bool, .int .u8], d := .struct [(0, false, 1), (1, false, 1), (2, false, 1), (3, false, 1)] }),
  (8, { agg := true, ks := [.int .i64, .int .i64, .bool, .int .u8], d := .struct [(0, false, 1), (1, false, 1), (2, false, 1), (3, false, 1)] }),
  (9, { agg := false, ks := [.str], d := .str }),
  (10, { agg := false, ks := [.str], d := .str }),
  (11, { agg := false, ks := [.str], d := .str }),
  (12, { agg := false, ks := [.int .u64], d := .int .u64 }),
  (13, { agg := true, ks := [.str, .int .u64], d := .struct [(0, false, 1), (1, false, 1)] }),
  (14, { agg := true, ks := [.str, .int .u64], d := .struct [(0, false, 1), (1, false, 1)] }),
  (15, { agg := false, ks := [.ptr], d := .ptr }),
  (16, { agg := false, ks := [.ptr], d := .ptr }),
  (17, { agg := false, ks := [.ptr], d := .ptr }),
  (18, { agg := true, ks := [.ptr], d := .struct [(0, false, 1)] }),
  (19, { agg := true, ks := [.ptr], d := .struct [(0, false, 1)] }),
  (20, { agg := false, ks := [.iface], d := .other }),
  (21, { agg := false, ks := [.int .i32], d := .int .i32 }),
  (22, { agg := false, ks := [.slice], d := .slice 114 5 }),
  (23, { agg := false, ks := [.slice], d := .slice 116 9 }),
  (24, { agg := false, ks := [.slice], d := .slice 109 14 }),
  (25, { agg := true, ks := [.int .i64, .slice, .slice, .slice], d := .struct [(0, false, 1), (1, false, 1), (2, false, 1), (3, false, 1)] }),
  (26, { agg := true, ks := [.int .i64, .slice, .slice, .slice], d := .struct [(0, false, 1), (1, false, 1), (2, false, 1), (3, false, 1)] }),
  (27, { agg := false, ks := [.fn], d := .other }),
  (28, { agg := false, ks := [.fn], d := .other }),
  (29, { agg := false, ks := [.slice], d := .slice 53 5 }),
  (30, { agg := false, ks := [.slice], d := .slice 50 9 }),
  (31, { agg := false, ks := [.slice], d := .slice 80 14 }),
  (32, { agg := true, ks := [.int .i64, .slice, .slice, .slice], d := .struct [(0, false, 1), (1, false, 1), (2, false, 1), (3, false, 1)] }),
  (33, { agg := true, ks := [.int .i64, .slice, .slice, .slice], d := .struct [(0, false, 1), (1, false, 1), (2, false, 1), (3, false, 1)] }),
  (34, { agg := false, ks := [.fn], d := .other }),
  (35, { agg := false, ks := [.fn], d := .other }),
  (36, { agg := false, ks := [.fn], d := .other }),
  (37, { agg := false, ks := [.fn], d := .other }),
  (38, { agg := false, ks := [.fn], d := .other }),
  (39, { agg := false, ks := [.other], d := .other }),
  (40, { agg := false, ks := [.fn], d := .other }),
  (41, { agg := false, ks := [.fn], d := .other }),
  (42, { agg := false, ks := [.other], d := .other }),
  (43, { agg := false, ks := [.fn], d := .other }),
  (44, { agg := false, ks := [.fn], d := .other }),
  (45, { agg := false, ks := [.fn], d := .other }),
  (46, { agg := false, ks := [.fn], d := .other }),
  (47, { agg := false, ks := [.fn], d := .other }),
  (48, { agg := false, ks := [.fn], d := .other }),
  (49, { agg := true, ks := [.int .i64, .int .i64, .int .i64, .int .i64, .int .i64, .int .i64, .int .i64, .int .i64, .int .i64], d := .struct [(0, false, 1), (1, false, 1), (2, false, 1), (3, false, 1), (4, false, 1), (5, false, 1), (6, false, 1), (7, false, 1), (8, false, 1)] }),
  (50, { agg := true, ks := [.int .i64, .int .i64, .int .i64, .int .i64, .int .i64, .int .i64, .int .i64, .int .i64, .int .i64], d := .struct [(0, false, 1), (1, false, 1), (2, false, 1), (3, false, 1), (4, false, 1), (5, false, 1), (6, false, 1), (7, false, 1), (8, false, 1)] }),
  (51, { agg := false, ks := [.fn], d := .other }),
  (52, { agg := true, ks := [.bool, .int .i64, .int .i64, .int .i64, .int .i64], d := .struct [(0, false, 1), (1, false, 1), (2, false, 1), (3, false, 1), (4, false, 1)] }),
  (53, { agg := true, ks := [.bool, .int .i64, .int .i64, .int .i64, .int .i64], d := .struct [(0, false, 1), (1, false, 1), (2, false, 1), (3, false, 1), (4, false, 1)] }),
  (54, { agg := false, ks := [.fn], d := .other }),
  (55, { agg := false, ks := [.fn], d := .other }),
  (56, { agg := false, ks := [.fn], d := .other }),
  (57, { agg := false, ks := [.fn], d := .other }),
  (58, { agg := false, ks := [.ptr], d := .ptr }),
  (59, { agg := true, ks := [.ptr, .int .i64], d := .struct [(0, false, 1), (1, false, 1)] }),
  (60, { agg := true, ks := [.ptr, .int .i64], d := .struct [(0, false, 1), (1, false, 1)] }),
  (61, { agg := false, ks := [.fn], d := .other }),
  (62, { agg := false, ks := [.ptr], d := .ptr }),
  (63, { agg := false, ks := [.fn], d := .other }),
  (64, { agg := false, ks := [.fn], d := .other }),
  (65, { agg := false, ks := [.fn], d := .other }),
  (66, { agg := false, ks := [.fn], d := .other }),
  (67, { agg := false, ks := [.fn], d := .other }),
  (68, { agg := false, ks := [.fn], d := .other }),
  (69, { agg := false, ks := [.fn], d := .other }),
  (70, { agg := false, ks := [.other], d := .other }),
  (71, { agg := false, ks := [.fn], d := .other }),
  (72, { agg := false, ks := [.fn], d := .other }),
  (73, { agg := false, ks := [.slice], d := .slice 3 1 }),
  (74, { agg := false, ks := [.fn], d := .other }),
  (75, { agg := false, ks := [.slice], d := .slice 4 1 }),
  (76, { agg := true, ks := [.int .i64, .int .i64, .int .i64, .slice, .slice], d := .struct [(0, false, 1), (1, false, 1), (2, false, 1), (3, false, 1), (4, false, 1)] }),
  (77, { agg := true, ks := [.int .i64, .int .i64, .int .i64, .slice, .slice], d := .struct [(0, false, 1), (1, false, 1), (2, false, 1), (3, false, 1), (4, false, 1)] }),
  (78, { agg := false, ks := [.slice], d := .slice 122 5 }),
  (79, { agg := true, ks := [.bool, .int .i64, .str, .int .i64, .int .i64, .int .i64, .int .i64, .int .i64, .int .i64, .int .i64, .int .i64, .slice, .slice, .slice], d := .struct [(0, false, 1), (1, false, 1), (2, false, 1), (3, false, 1), (4, false, 1), (5, false, 1), (6, false, 1), (7, false, 1), (8, true, 5), (13, false, 1)] }),
  (80, { agg := true, ks := [.bool, .int .i64, .str, .int .i64, .int .i64, .int .i64, .int .i64, .int .i64, .int .i64, .int .i64, .int .i64, .slice, .slice, .slice], d := .struct [(0, false, 1), (1, false, 1), (2, false, 1), (3, false, 1), (4, false, 1), (5, false, 1), (6, false, 1), (7, false, 1), (8, true, 5), (13, false, 1)] }),
  (81, { agg := false, ks := [.other], d := .other }),
  (82, { agg := false, ks := [.fn], d := .other }),
  (83, { agg := false, ks := [.ptr], d := .ptr }),
  (84, { agg := false, ks := [.slice], d := .slice 5 1 }),
  (85, { agg := true, ks := [.ptr, .slice], d := .struct [(0, false, 1), (1, false, 1)] }),
  (86, { agg := true, ks := [.ptr, .slice], d := .struct [(0, false, 1), (1, false, 1)] }),
  (87, { agg := false, ks := [.iface], d := .other }),
  (88, { agg := false, ks := [.iface], d := .other }),
  (89, { agg := false, ks := [.other], d := .other }),
  (90, { agg := false, ks := [.fn], d := .other }),
  (91, { agg := false, ks := [.slice], d := .slice 9 1 }),
  (92, { agg := false, ks := [.fn], d := .other }),
  (93, { agg := false, ks := [.fn], d := .other }),
  (94, { agg := false, ks := [.fn], d := .other }),
  (95, { agg := false, ks := [.fn], d := .other }),
  (96, { agg := false, ks := [.other], d := .other }),
  (97, { agg := false, ks := [.fn], d := .other }),
  (98, { agg := false, ks := [.fn], d := .other }),
  (99, { agg := false, ks := [.fn], d := .other }),
  (100, { agg := false, ks := [.iface], d := .other }),
  (101, { agg := false, ks := [.iface], d := .other }),
  (102, { agg := false, ks := [.other], d := .other }),
  (103, { agg := false, ks := [.fn], d := .other }),
  (104, { agg := false, ks := [.fn], d := .other }),
  (105, { agg := false, ks := [.fn], d := .other }),
  (106, { agg := true, ks := [.int .i64, .int .i64, .int .i64, .slice, .slice], d := .struct [(0, false, 1), (1, false, 1), (2, false, 1), (3, false, 1), (4, false, 1)] }),
  (107, { agg := false, ks := [.slice], d := .slice 187 5 }),
  (108, { agg := true, ks := [.bool, .int .i64, .str, .int .i64, .int .i64, .int .i64, .int .i64, .int .i64, .int .i64, .int .i64, .int .i64, .slice, .slice, .slice], d := .struct [(0, false, 1), (1, false, 1), (2, false, 1), (3, false, 1), (4, false, 1), (5, false, 1), (6, false, 1), (7, false, 1), (8, true, 5), (13, false, 1)] }),
  (109, { agg := true, ks := [.bool, .int .i64, .str, .int .i64, .int .i64, .int .i64, .int .i64, .int .i64, .int .i64, .int .i64, .int .i64, .slice, .slice, .slice], d := .struct [(0, false, 1), (1, false, 1), (2, false, 1), (3, false, 1), (4, false, 1), (5, false, 1), (6, false, 1), (7, false, 1), (8, true, 5), (13, false, 1)] }),
  (110, { agg := false, ks := [.fn], d := .other }),
  (111, { agg := false, ks := [.fn], d := .other }),
  (112, { agg := false, ks := [.fn], d := .other }),
  (113, { agg := false, ks := [.fn], d := .other }),
  (114, { agg := true, ks := [.bool, .int .i64, .int .i64, .int .i64, .int .i64], d := .struct [(0, false, 1), (1, false, 1), (2, false, 1), (3, false, 1), (4, false, 1)] }),
  (115, { agg := false, ks := [.fn], d := .other }),
  (116, { agg := true, ks := [.int .i64, .int .i64, .int .i64, .int .i64, .int .i64, .int .i64, .int .i64, .int .i64, .int .i64], d := .struct [(0, false, 1), (1, false, 1), (2, false, 1), (3, false, 1), (4, false, 1), (5, false, 1), (6, false, 1), (7, false, 1), (8, false, 1)] }),
  (117, { agg := false, ks := [.fn], d := .other }),
  (118, { agg := false, ks := [.fn], d := .other }),
  (119, { agg := false, ks := [.fn], d := .other }),
  (120, { agg := true, ks := [.fn, .fn, .fn, .fn, .fn], d := .arr 5 1 false }),
  (121, { agg := true, ks := [.int .i64, .bool, .int .i64, .int .i64, .int .i64], d := .struct [(0, false, 1), (1, false, 1), (2, false, 1), (3, false, 1), (4, false, 1)] }),
  (122, { agg := true, ks := [.int .i64, .bool, .int .i64, .int .i64, .int .i64], d := .struct [(0, false, 1), (1, false, 1), (2, false, 1), (3, false, 1), (4, false, 1)] }),
  (123, { agg := false, ks := [.ptr], d := .ptr }),
  (124, { agg := false, ks := [.fn], d := .other }),
  (125, { agg := false, ks := [.fn], d := .other }),
  (126, { agg := false, ks := [.fn], d := .other }),
  (127, { agg := false, ks := [.fn], d := .other }),
  (128, { agg := false, ks := [.fn], d := .other }),
  (129, { agg := false, ks := [.fn], d := .other }),
  (130, { agg := false, ks := [.fn], d := .other }),
  (131, { agg := false, ks := [.fn], d := .other }),
  (132, { agg := false, ks := [.ptr], d := .ptr }),
  (133, { agg := false, ks := [.int .u64], d := .int .u64 }),
  (134, { agg := false, ks := [.fn], d := .other }),
  (135, { agg := false, ks := [.fn], d := .other }),
  (136, { agg := false, ks := [.fn], d := .other }),
  (137, { agg := false, ks := [.int .i64], d := .int .i64 }),
  (138, { agg := false, ks := [.fn], d := .other }),
  (139, { agg := false, ks := [.fn], d := .other }),
  (140, { agg := false, ks := [.fn], d := .other }),
  (141, { agg := false, ks := [.slice], d := .slice 144 1 }),
  (142, { agg := false, ks := [.fn], d := .other }),
  (143, { agg := false, ks := [.iface], d := .other }),
  (144, { agg := false, ks := [.iface], d := .other }),
  (145, { agg := false, ks := [.fn], d := .other }),
  (146, { agg := false, ks := [.fn], d := .other }),
  (147, { agg := true, ks := [.int .i64, .int .i64, .int .i64, .int .i64, .int .i64, .int .i64, .int .i64, .int .i64, .int .i64, .int .i64], d := .struct [(0, false, 1), (1, true, 9)] }),
  (148, { agg := true, ks := [.int .i64, .int .i64, .int .i64, .int .i64, .int .i64, .int .i64, .int .i64, .int .i64, .int .i64, .int .i64], d := .struct [(0, false, 1), (1, true, 9)] }),
  (149, { agg := true, ks := [.int .i64, .int .i64, .bool, .int .i64, .int .i64, .int .i64], d := .struct [(0, false, 1), (1, true, 5)] }),
  (150, { agg := true, ks := [.int .i64, .int .i64, .bool, .int .i64, .int .i64, .int .i64], d := .struct [(0, false, 1), (1, true, 5)] }),
  (151, { agg := false, ks := [.fn], d := .other }),
  (152, { agg := false, ks := [.map], d := .other }),
  (153, { agg := false, ks := [.fn], d := .other }),
  (154, { agg := false, ks := [.fn], d := .other }),
  (155, { agg := false, ks := [.fn], d := .other }),
  (156, { agg := false, ks := [.fn], d := .other }),
  (157, { agg := false, ks := [.fn], d := .other }),
  (158, { agg := false, ks := [.fn], d := .other }),
  (159, { agg := false, ks := [.fn], d := .other }),
  (160, { agg := false, ks := [.fn], d := .other }),
  (161, { agg := false, ks := [.fn], d := .other }),
  (162, { agg := false, ks := [.fn], d := .other }),
  (163, { agg := false, ks := [.fn], d := .other }),
  (164, { agg := false, ks := [.fn], d := .other }),
  (165, { agg := false, ks := [.slice], d := .slice 168 1 }),
  (166, { agg := false, ks := [.other], d := .other }),
  (167, { agg := false, ks := [.fn], d := .other }),
  (168, { agg := false, ks := [.ptr], d := .ptr }),
  (169, { agg := false, ks := [.ptr], d := .other }),
  (170, { agg := false, ks := [.fn], d := .other }),
  (171, { agg := false, ks := [.fn], d := .other }),
  (172, { agg := true, ks := [.bool, .bool, .bool, .bool], d := .arr 4 1 false }),
  (173, { agg := true, ks := [.bool, .bool, .bool, .bool], d := .arr 4 1 false }),
  (174, { agg := false, ks := [.fn], d := .other }),
  (175, { agg := false, ks := [.fn], d := .other }),
  (176, { agg := true, ks := [], d := .struct [] }),
  (177, { agg := true, ks := [], d := .struct [] }),
  (178, { agg := true, ks := [], d := .struct [] }),
  (179, { agg := true, ks := [], d := .struct [] }),
  (180, { agg := true, ks := [], d := .struct [] }),
  (181, { agg := true, ks := [], d := .struct [] }),
  (182, { agg := false, ks := [.fn], d := .other }),
  (183, { agg := false, ks := [.fn], d := .other }),
  (184, { agg := false, ks := [.fn], d := .other }),
  (185, { agg := false, ks := [.fn], d := .other }),
  (186, { agg := false, ks := [.fn], d := .other }),
  (187, { agg := true, ks := [.int .i64, .bool, .int .i64, .int .i64, .int .i64], d := .struct [(0, false, 1), (1, false, 1), (2, false, 1), (3, false, 1), (4, false, 1)] }),
  (188, { agg := true, ks := [.int .i64, .int .i64, .int .i64, .int .i64, .int .i64, .int .i64, .int .i64, .int .i64, .int .i64, .int .i64, .int .i64, .int .i64, .int .i64, .int .i64, .int .i64, .int .i64, .int .i64, .int .i64, .int .i64, .int .i64, .int .i64], d := .arr 21 1 false }),
  (189, { agg := false, ks := [.fn], d := .other }),
  (190, { agg := false, ks := [.fn], d := .other }),
  (191, { agg := false, ks := [.fn], d := .other }),
  (192, { agg := false, ks := [.fn], d := .other }),
  (193, { agg := true, ks := [.int .i64, .str, .ptr], d := .struct [(0, false, 1), (1, false, 1), (2, false, 1)] }),
  (194, { agg := true, ks := [.int .i64, .str, .ptr], d := .struct [(0, false, 1), (1, false, 1), (2, false, 1)] }),
  (195, { agg := false, ks := [.map], d := .other }),
  (196, { agg := true, ks := [.int .i64, .str], d := .struct [(0, false, 1), (1, false, 1)] }),
  (197, { agg := true, ks := [.int .i64, .str], d := .struct [(0, false, 1), (1, false, 1)] }),
  (198, { agg := true, ks := [.ptr, .ptr, .ptr, .str], d := .struct [(0, false, 1), (1, false, 1), (2, false, 1), (3, false, 1)] }),
  (199, { agg := true, ks := [.ptr, .ptr, .ptr, .str], d := .struct [(0, false, 1), (1, false, 1), (2, false, 1), (3, false, 1)] }),
  (200, { agg := true, ks := [], d := .arr 0 1 false }),
  (201, { agg := true, ks := [], d := .other }),
  (202, { agg := true, ks := [], d := .other }),
  (203, { agg := false, ks := [.int .u32], d := .int .u32 }),
  (204, { agg := false, ks := [.int .u8], d := .int .u8 }),
  (205, { agg := false, ks := [.int .u8], d := .int .u8 }),
  (206, { agg := false, ks := [.fn], d := .other }),
  (207, { agg := false, ks := [.int .i32], d := .int .i32 }),
  (208, { agg := false, ks := [.int .i32], d := .int .i32 }),
  (209, { agg := true, ks := [.int .u64, .int .u64, .int .u32, .int .u8, .int .u8, .int .u8, .int .u8, .fn, .ptr, .int .i32, .int .i32], d := .struct [(0, false, 1), (1, false, 1), (2, false, 1), (3, false, 1), (4, false, 1), (5, false, 1), (6, false, 1), (7, false, 1), (8, false, 1), (9, false, 1), (10, false, 1)] }),
  (210, { agg := true, ks := [.int .u64, .int .u64, .int .u32, .int .u8, .int .u8, .int .u8, .int .u8, .fn, .ptr, .int .i32, .int .i32], d := .struct [(0, false, 1), (1, false, 1), (2, false, 1), (3, false, 1), (4, false, 1), (5, false, 1), (6, false, 1), (7, false, 1), (8, false, 1), (9, false, 1), (10, false, 1)] }),
  (211, { agg := false, ks := [.fn], d := .other }),
  (212, { agg := false, ks := [.fn], d := .other }),
  (213, { agg := false, ks := [.fn], d := .other }),
  (214, { agg := true, ks := [.int .u8, .int .u8, .int .u8, .int .u8, .int .u8, .int .u8, .int .u8, .int .u8, .int .u8, .int .u8, .int .u8, .int .u8, .int .u8, .int .u8, .int .u8, .int .u8, .int .u8, .int .u8, .int .u8, .int .u8, .int .u8, .int .u8, .int .u8, .int .u8], d := .arr 24 1 false }),
  (215, { agg := false, ks := [.int .u64], d := .int .u64 }),
  (216, { agg := false, ks := [.fn], d := .other }),
  (217, { agg := false, ks := [.fn], d := .other }),
  (218, { agg := false, ks := [.other], d := .other }),
  (219, { agg := false, ks := [.fn], d := .other }),
  (220, { agg := false, ks := [.fn], d := .other }),
  (221, { agg := true, ks := [.int .u64, .int .u64, .int .u64, .int .u64, .int .u64, .int .u64, .int .u64, .int .u64, .int .u64, .int .u64, .int .u64, .int .u64, .int .u64, .int .u64, .int .u64, .int .u64, .int .u64, .int .u64, .int .u64, .int .u64], d := .arr 20 1 false }),
  (223, { agg := false, ks := [.fn], d := .other }),
  (224, { agg := false, ks := [.fn], d := .other }),
  (225, { agg := true, ks := [.int .u8, .int .u8, .int .u8, .int .u8, .int .u8, .int .u8, .int .u8, .int .u8, .int .u8, .int .u8, .int .u8, .int .u8, .int .u8, .int .u8, .int .u8, .int .u8, .int .u8, .int .u8, .int .u8, .int .u8, .int .u8, .int .u8, .int .u8, .int .u8, .int .u8, .int .u8, .int .u8, .int .u8, .int .u8, .int .u8, .int .u8, .int .u8], d := .arr 32 1 false }),
  (226, { agg := true, ks := [.int .u8, .int .u8, .int .u8, .int .u8, .int .u8, .int .u8, .int .u8, .int .u8, .int .u8, .int .u8, .int .u8, .int .u8, .int .u8, .int .u8, .int .u8, .int .u8, .int .u8, .int .u8, .int .u8, .int .u8, .int .u8, .int .u8, .int .u8, .int .u8, .int .u8, .int .u8, .int .u8, .int .u8, .int .u8, .int .u8, .int .u8, .int .u8, .int .u8, .int .u8, .int .u8, .int .u8, .int .u8, .int .u8, .int .u8, .int .u8, .int .u8, .int .u8, .int .u8, .int .u8, .int .u8, .int .u8, .int .u8, .int .u8, .int .u8, .int .u8, .int .u8, .int .u8, .int .u8, .int .u8, .int .u8, .int .u8, .int .u8, .int .u8, .int .u8, .int .u8, .int .u8, .int .u8, .int .u8, .int .u8], d := .arr 64 1 false }),
  (227, { agg := false, ks := [.ptr], d := .ptr }),
  (228, { agg := false, ks := [.fn], d := .other }),
  (229, { agg := false, ks := [.fn], d := .other }),
  (230, { agg := false, ks := [.fn], d := .other }),
  (231, { agg := false, ks := [.fn], d := .other }),
  (232, { agg := true, ks := [.bool, .int .i64], d := .struct [(0, false, 1), (1, false, 1)] }),
  (233, { agg := true, ks := [.bool, .int .i64], d := .struct [(0, false, 1), (1, false, 1)] })]
noncomputable def pfT : List (Nat × List RK) := [
  (33, [.cell (.int .i64)]),
  (34, [.cell (.int .i64)]),
  (177, [.cell (.int .i64)]),
  (178, [.cell (.int .i64)]),
  (130, [.cell (.int .i64)]),
  (131, [.cell (.int .i64)]),
  (82, [.cell (.int .i64)]),
  (35, [.cell (.int .i64)]),
  (12, [.cell (.int .i64)]),
  (37, [.cell .bool]),
  (127, [.cell .bool]),
  (132, [.cell .bool]),
  (52, [.cell .bool]),
  (133, [.cell (.int .i64)]),
  (83, [.cell .bool]),
  (84, [.cell (.int .i64)]),
  (134, [.cell .bool]),
  (135, [.cell .bool]),
  (136, [.cell .bool]),
  (137, [.cell .bool]),
  (138, [.cell .bool]),
  (85, [.cell .bool]),
  (102, [.cell (.int .i64)]),
  (113, [.cell .bool]),
  (179, [.cell (.int .i64)]),
  (180, [.cell (.int .i64)]),
  (139, [.cell (.int .i64)]),
  (182, [.cell (.int .i64)]),
  (181, [.cell (.int .i64)]),
  (140, [.cell .bool]),
  (86, [.cell .bool]),
  (89, [.cell .bool]),
  (141, [.cell .bool]),
  (142, [.cell .bool]),
  (87, [.cell .bool]),
  (38, [.cell .bool]),
  (143, [.cell .bool]),
  (88, [.cell .bool]),
  (36, [.cell .bool]),
  (13, [.cell (.int .i64)]),
  (90, [.agg [.bool, .int .i64, .int .i64, .int .i64, .int .i64]]),
  (91, [.agg [.int .i64, .int .i64, .int .i64, .int .i64, .int .i64, .int .i64, .int .i64, .int .i64, .int .i64]]),
  (185, [.agg [.int .i64, .bool, .int .i64, .int .i64, .int .i64]]),
  (70, [.cell .bool]),
  (54, [.cell .bool]),
  (196, [.cell .bool]),
  (197, [.cell (.int .i64)]),
  (111, [.cell .bool]),
  (146, [.cell .bool]),
  (147, [.cell (.int .i64)]),
  (93, [.cell .bool]),
  (186, [.cell .bool]),
  (148, [.cell .bool]),
  (149, [.cell .bool]),
  (198, [.cell .bool]),
  (187, [.cell .bool]),
  (150, [.cell .bool]),
  (188, [.cell .bool]),
  (151, [.cell .bool]),
  (94, [.cell .bool]),
  (44, [.agg [.ptr, .int .i64]]),
  (98, [.cell .ptr]),
  (152, [.cell .bool]),
  (153, [.cell .bool]),
  (172, [.cell .bool]),
  (154, [.cell .bool]),
  (200, [.cell (.int .i64)]),
  (199, [.cell (.int .i64)]),
  (189, [.cell (.int .i64)]),
  (155, [.cell (.int .i64)]),
  (191, [.agg [.int .i64, .int .i64, .int .i64, .int .i64, .int .i64, .int .i64, .int .i64, .int .i64, .int .i64, .int .i64, .int .i64, .int .i64, .int .i64, .int .i64, .int .i64, .int .i64, .int .i64, .int .i64, .int .i64, .int .i64, .int .i64]]),
  (161, [.cell (.int .i64)]),
  (190, [.cell (.int .i64)]),
  (156, [.cell .bool]),
  (157, [.cell (.int .i64)]),
  (95, [.cell .bool]),
  (174, [.cell .bool]),
  (175, [.cell .bool]),
  (158, [.cell .bool]),
  (159, [.cell .bool]),
  (96, [.cell .bool]),
  (45, [.cell .bool]),
  (160, [.cell .bool]),
  (97, [.cell .bool]),
  (42, [.cell .bool]),
  (43, [.cell .bool]),
  (46, [.cell .ptr]),
  (15, [.cell (.int .i64)]),
  (99, [.cell .bool]),
  (47, [.cell .bool]),
  (100, [.cell .bool]),
  (48, [.cell .bool]),
  (192, [.cell .bool]),
  (193, [.cell .bool]),
  (162, [.cell .bool]),
  (194, [.cell .bool]),
  (163, [.cell .bool]),
  (101, [.cell .bool]),
  (49, [.cell .bool]),
  (16, [.cell .bool]),
  (50, [.cell (.int .i64)]),
  (17, [.cell (.int .i64)]),
  (103, [.cell (.int .i64)]),
  (104, [.cell (.int .i64)]),
  (51, [.cell (.int .i64)]),
  (18, [.cell (.int .i64)]),
  (105, [.cell .bool]),
  (53, [.cell (.int .i64)]),
  (19, [.cell (.int .i64)]),
  (106, [.cell .bool]),
  (55, [.cell (.int .i64)]),
  (20, [.cell (.int .i64)]),
  (107, [.cell (.int .i64)]),
  (56, [.cell (.int .i64)]),
  (21, [.cell (.int .i64)]),
  (57, [.cell (.int .i64)]),
  (22, [.cell (.int .i64)]),
  (58, [.cell .str, .cell .str, .cell .bool]),
  (195, [.cell (.int .i64)]),
  (165, [.cell (.int .i64)]),
  (109, [.cell .str, .cell .str, .cell .bool]),
  (167, [.cell .str]),
  (110, [.cell (.int .i64)]),
  (61, [.cell (.int .i64), .cell (.int .i64)]),
  (66, [.cell .bool]),
  (67, [.cell (.int .i64)]),
  (114, [.cell .bool]),
  (68, [.cell (.int .i64)]),
  (69, [.cell (.int .i64)]),
  (25, [.cell (.int .i64)]),
  (71, [.cell (.int .i64)]),
  (72, [.cell (.int .i64)]),
  (26, [.cell (.int .i64)]),
  (121, [.cell .bool]),
  (73, [.cell (.int .i64)]),
  (27, [.cell (.int .i64), .cell .bool]),
  (118, [.cell .bool]),
  (74, [.cell (.int .i64), .cell .bool]),
  (28, [.cell (.int .i64), .cell .bool]),
  (173, [.cell (.int .i64), .cell .bool]),
  (122, [.cell (.int .i64)]),
  (75, [.cell (.int .i64)]),
  (29, [.cell (.int .i64)]),
  (176, [.cell .bool]),
  (126, [.cell (.int .i64)]),
  (76, [.cell (.int .i64)]),
  (30, [.cell (.int .i64)]),
  (170, [.agg [.bool, .bool, .bool, .bool]]),
  (116, [.cell (.int .i64)]),
  (120, [.cell .bool]),
  (220, [.cell (.int .i64)]),
  (223, [.cell (.int .i64)]),
  (243, [.cell .ptr])]
noncomputable def efT : List (Nat × List RK) := [
  (2, []),
  (39, [.cell .slice]),
  (40, [.cell .slice]),
  (183, [.cell .slice]),
  (184, [.cell .slice]),
  (144, [.agg [.int .i64, .int .i64, .int .i64, .slice, .slice]]),
  (145, [.cell .slice]),
  (92, [.agg [.bool, .int .i64, .str, .int .i64, .int .i64, .int .i64, .int .i64, .int .i64, .int .i64, .int .i64, .int .i64, .slice, .slice, .slice]]),
  (41, [.cell .slice]),
  (14, [.agg [.int .i64, .slice, .slice, .slice]]),
  (166, [.cell .slice, .cell .bool]),
  (3, [.cell .bool]),
  (4, [.cell .bool]),
  (5, [.cell .bool]),
  (6, [.cell .bool]),
  (164, [.cell .str]),
  (108, [.cell .str]),
  (59, [.cell (.int .i64)]),
  (60, [.cell .slice]),
  (23, [.cell .str, .cell (.int .i64)]),
  (62, [.cell .slice]),
  (112, []),
  (63, [.cell (.int .i64), .cell .iface]),
  (64, [.cell .slice]),
  (65, [.cell .str]),
  (24, [.cell .str, .cell (.int .i64)]),
  (7, [.cell .bool]),
  (169, [.cell .slice]),
  (119, [.cell (.int .i64), .cell .bool]),
  (8, [.cell .bool]),
  (9, [.cell .bool]),
  (123, [.cell .slice]),
  (124, [.cell .iface]),
  (125, [.cell (.int .i64)]),
  (10, [.cell .bool]),
  (77, [.cell (.int .i64), .cell .str, .cell (.int .i64)]),
  (78, [.cell .str]),
  (128, [.cell .str]),
  (79, [.cell .str]),
  (80, [.cell .str]),
  (31, [.cell .str, .cell (.int .i64)]),
  (129, [.cell .map]),
  (81, [.cell (.int .i64), .cell .iface, .cell (.int .i64)]),
  (32, [.cell .str, .cell (.int .i64)]),
  (11, [.cell .bool]),
  (117, [.cell .fn]),
  (115, []),
  (171, []),
  (230, [.cell .str]),
  (234, [.cell (.int .i64)]),
  (235, [.cell (.int .i64)]),
  (236, [.cell (.int .i64)]),
  (231, [.cell (.int .i64)]),
  (232, []),
  (237, [.cell .bool]),
  (239, [.cell (.int .i64)]),
  (240, [.cell (.int .i64)]),
  (238, [.cell (.int .i64)]),
  (233, [.cell .slice, .cell .str]),
  (229, [.cell .str]),
  (228, [.cell .str]),
  (227, [.cell .str]),
  (225, [.cell .str]),
  (241, [.cell .str]),
  (249, []),
  (248, []),
  (247, [.cell .str]),
  (246, [.cell .str]),
  (244, [.cell .str]),
  (251, [.cell .str]),
  (253, [.cell .str]),
  (257, [])]
noncomputable def ttT : List (Nat × List RK) := [(42, [.cell (.int .i64), .cell .bool])]
def bodyOf (f : Func) : Code := match f.body with
  | some c => c
  | none => .skip
theorem asc_mem {β : Type} : ∀ {l : List (Nat × β)} {f : Nat} {k : β}, asc l f = some k → (f, k) ∈ l
  | [], f, k, h => by cases h
  | p :: r, f, k, h => by
    simp only [asc] at h
    cases hb : Nat.beq p.1 f with
    | true =>
      rw [hb] at h
      simp only [cond_true, Option.some.injEq] at h
      have : p.1 = f := Nat.eq_of_beq_eq_true hb
      rw [← this, ← h]; exact List.mem_cons_self
    | false =>
      rw [hb] at h
      exact List.mem_cons_of_mem _ (asc_mem h)
theorem tbl_ok : tblOk Tryz.prog tbl = true := by kernel_rfl
theorem pf_ok : (pfT.all fun p => callableB Tryz.prog p.1) = true := by kernel_rfl
theorem ef_ok : (efT.all fun p => callableB Tryz.prog p.1) = true := by kernel_rfl
theorem mixed_ok : Tryz.prog.follows .mixedOrders = true := by kernel_rfl
theorem tok : TOk Tryz.prog (tblGet tbl) := tOk_of (l := tbl) tbl_ok
theorem pok (f : Nat) (ks : List RK) (h : asc pfT f = some ks) : Callable Tryz.prog f := callable_of (List.all_eq_true.1 pf_ok (f, ks) (asc_mem h))
theorem eok (f : Nat) (ks : List RK) (h : asc efT f = some ks) : Callable Tryz.prog f := callable_of (List.all_eq_true.1 ef_ok (f, ks) (asc_mem h))
theorem env (vis : List Nat) (n : Nat) (pm wr : Bool) : Env { P := Tryz.prog, T := tblGet tbl, pf := pfT, ef := efT, tt := ttT, vis := vis, n := n, pm := pm, wr := wr } :=
  ⟨tok, pok, eok, mixed_ok⟩
end Go.Proofs.YthojnihahmlboaaGreat
