/- Part 5 of what the law FnExactTaskBlock needs: the engine, the functions' propositions, the contracts. -/
import Derived.Test.YtnofpcbjpcoghaaGreatDoorFnExactTaskBlockPd
import Derived.Test.YtnofpcbjpcoghaaGreatDoorProg
import Derived.KernelRfl
namespace Go.Proofs.YtnofpcbjpcoghaaGreatDoor
open Go.RowKit
set_option linter.unusedVariables false
set_option maxRecDepth 100000
set_option maxHeartbeats 1600000
def ty_int : TypeId := 3
def ty_bool : TypeId := 4
def ty_uint8 : TypeId := 5
def ty_string : TypeId := 9
def ty_sl_laws_Cpu : TypeId := 22
def ty_sl_laws_Task : TypeId := 23
def ty_sl_laws_Group : TypeId := 24
def ty_laws_World : TypeId := 26
def ty_sl_impl_Cpu : TypeId := 28
def ty_sl_impl_Task : TypeId := 29
def ty_sl_impl_Group : TypeId := 30
def ty_impl_World : TypeId := 32
def ty_impl_Task : TypeId := 51
def ty_impl_refusal : TypeId := 62
def ty_impl_Cpu : TypeId := 72
def ty_impl_Shelf : TypeId := 77
def ty_sl_int : TypeId := 78
def ty_sl_bool : TypeId := 79
def ty_impl_Band : TypeId := 81
def ty_sl_impl_Shelf : TypeId := 82
def ty_impl_Group : TypeId := 84
def ty_laws_Band : TypeId := 116
def ty_sl_laws_Shelf : TypeId := 117
def ty_laws_Group : TypeId := 119
def ty_laws_Cpu : TypeId := 122
def ty_laws_Task : TypeId := 124
def ty_p_impl_refusal : TypeId := 127
def ty_internal_reflectlite_Value : TypeId := 163
def ty_sl_uint8 : TypeId := 174
def ty_laws_Shelf : TypeId := 180
def ty_sl_p_impl_node : TypeId := 201
def ty_p_impl_node : TypeId := 204
def ty_impl_node : TypeId := 206
def ty_map_impl_nodeKey_int : TypeId := 207
def ty_impl_nodeKey : TypeId := 209
def fn_laws_szCpuS : Nat := 38
def fn_laws_szTaskS : Nat := 39
def fn_laws_szIntS : Nat := 216
def fn_laws_szBoolS : Nat := 217
def fn_laws_szBand : Nat := 178
def fn_laws_szShelfS : Nat := 179
def fn_laws_szGroup : Nat := 112
def fn_laws_szGroupS : Nat := 40
def fn_laws_szWorld : Nat := 13
def fn_spec_l1In : Nat := 72
def fn_spec_l8Ups : Nat := 168
def fn_spec_l6Used : Nat := 101
def fn_spec_l6Depth : Nat := 186
def fn_spec_l6File : Nat := 239
def fn_spec_NameOk : Nat := 218
def fn_spec_TreeOk : Nat := 180
def fn_spec_l1Weight : Nat := 85
def fn_spec_MaskOk : Nat := 91
def fn_spec_BandOk : Nat := 145
def fn_spec_l8NoBand : Nat := 219
def fn_spec_l4Time : Nat := 220
def fn_spec_l8GroupOk : Nat := 181
def fn_spec_WeightOf : Nat := 64
def fn_spec_MaskHas : Nat := 156
def fn_spec_MaskAnd : Nat := 169
def fn_spec_l8Pins : Nat := 170
def fn_spec_l8Where : Nat := 103
def fn_spec_VirtualStep : Nat := 237
def fn_spec_LagMost : Nat := 210
def fn_spec_l8Stand : Nat := 221
def fn_spec_l8TaskOk : Nat := 182
def fn_spec_l8Queued : Nat := 190
def fn_spec_l8Active : Nat := 187
def fn_spec_l8Dry : Nat := 188
def fn_spec_l8ShelfOk : Nat := 183
def fn_spec_l8InLine : Nat := 119
def fn_spec_l8Stayed : Nat := 222
def fn_spec_l8CpuOk : Nat := 184
def fn_spec_WorldOk : Nat := 113
def fn_spec_l5Own : Nat := 146
def fn_spec_l8Own : Nat := 114
def fn_spec_l8Half : Nat := 185
def fn_spec_WorldRoom : Nat := 115
def fn_spec_l10Begin : Nat := 41
def fn_spec_l8Task : Nat := 42
def fn_spec_l8End : Nat := 61
def fn_spec_l1Min : Nat := 79
def fn_spec_l1Max : Nat := 209
def fn_spec_LagCut : Nat := 141
def fn_spec_l8Lines : Nat := 116
def fn_spec_l5Wet : Nat := 147
def fn_spec_BandDo : Nat := 78
def fn_spec_l8Give : Nat := 117
def fn_spec_l8Least : Nat := 189
def fn_spec_l8Floors : Nat := 118
def fn_spec_l8Settle : Nat := 43
def fn_spec_TaskBlock : Nat := 14
def fn_laws_toCpu : Nat := 120
def fn_laws_toCpuS : Nat := 44
def fn_laws_toTask : Nat := 121
def fn_laws_toTaskS : Nat := 45
def fn_laws_toIntS : Nat := 223
def fn_laws_toBoolS : Nat := 224
def fn_laws_toBand : Nat := 191
def fn_laws_toShelf : Nat := 225
def fn_laws_toShelfS : Nat := 192
def fn_laws_toGroup : Nat := 122
def fn_laws_toGroupS : Nat := 46
def fn_laws_toWorld : Nat := 15
def fn_impl_inRange : Nat := 74
def fn_impl_World_online : Nat := 177
def fn_impl_timeOk : Nat := 226
def fn_impl_groupUsed : Nat := 105
def fn_impl_NameOk : Nat := 243
def fn_impl_node_depth : Nat := 244
def fn_impl_nodes : Nat := 240
def fn_impl_TreeOk : Nat := 227
def fn_impl_World_shapeOk : Nat := 193
def fn_impl_weightOk : Nat := 87
def fn_impl_cpuSet_ok : Nat := 213
def fn_impl_MaskOk : Nat := 159
def fn_impl_maskFull : Nat := 94
def fn_impl_bandZero : Nat := 241
def fn_impl_groupZero : Nat := 228
def fn_impl_BandOk : Nat := 242
def fn_impl_World_quotaOk : Nat := 229
def fn_impl_World_groupsOk : Nat := 194
def fn_impl_niceOk : Nat := 67
def fn_impl_World_lane : Nat := 89
def fn_impl_lane_shelf : Nat := 110
def fn_impl_WeightOf : Nat := 143
def fn_impl_loadOk : Nat := 152
def fn_impl_MaskAnd : Nat := 176
def fn_impl_World_pins : Nat := 175
def fn_impl_World_allowedIn : Nat := 109
def fn_impl_World_allowed : Nat := 160
def fn_impl_cpuSet_has : Nat := 214
def fn_impl_MaskHas : Nat := 161
def fn_impl_weightSteps : Nat := 238
def fn_impl_VirtualStep : Nat := 211
def fn_impl_LagMost : Nat := 142
def fn_impl_placed : Nat := 230
def fn_impl_World_tasksOk : Nat := 195
def fn_impl_lane_queues : Nat := 205
def fn_impl_lane_holds : Nat := 206
def fn_impl_lane_active : Nat := 128
def fn_impl_lane_dry : Nat := 204
def fn_impl_World_shelvesOk : Nat := 196
def fn_impl_World_taskThere : Nat := 49
def fn_impl_lane_inLine : Nat := 130
def fn_impl_World_cpusOk : Nat := 197
def fn_impl_WorldOk : Nat := 123
def fn_impl_bandCopy : Nat := 198
def fn_impl_worldCopy : Nat := 124
def fn_errors_As : Nat := 125
def fn_impl_attempt : Nat := 47
def fn_impl_TaskBlock : Nat := 16
def fn_laws_eqCpu : Nat := 131
def fn_laws_eqCpuS : Nat := 52
def fn_laws_eqTask : Nat := 132
def fn_laws_eqTaskS : Nat := 53
def fn_laws_eqIntS : Nat := 234
def fn_laws_eqBoolS : Nat := 235
def fn_laws_eqBand : Nat := 207
def fn_laws_eqShelf : Nat := 236
def fn_laws_eqShelfS : Nat := 208
def fn_laws_eqGroup : Nat := 133
def fn_laws_eqGroupS : Nat := 54
def fn_laws_eqWorld : Nat := 17
def fn_laws_markCpuS : Nat := 55
def fn_laws_markTaskS : Nat := 56
def fn_laws_markText : Nat := 134
def fn_laws_markIntS : Nat := 135
def fn_laws_markBoolS : Nat := 136
def fn_laws_markShelfS : Nat := 137
def fn_laws_markGroupS : Nat := 57
def fn_laws_markWorld : Nat := 18
def fn_laws_heldCpuS : Nat := 58
def fn_laws_heldTaskS : Nat := 59
def fn_laws_heldIntS : Nat := 138
def fn_laws_heldBoolS : Nat := 139
def fn_laws_heldShelfS : Nat := 140
def fn_laws_heldGroupS : Nat := 60
def fn_laws_heldWorld : Nat := 19
def fn_laws_FnExactTaskBlock : Nat := 3
def fn_impl_Band_wet : Nat := 212
def fn_impl_Band_refills : Nat := 148
def fn_impl_Band_takes : Nat := 149
def fn_impl_Band_spends : Nat := 150
def fn_impl_Band_returns : Nat := 151
def fn_impl_Band_do : Nat := 83
def fn_impl_lane_cpu : Nat := 100
def fn_impl_lane_endSlice : Nat := 111
def fn_impl_LagCut : Nat := 69
def fn_impl_World_depth : Nat := 203
def fn_impl_lane_switchGroups : Nat := 127
def fn_impl_lane_rise : Nat := 129
def fn_impl_World_settle : Nat := 51
def fn_impl_early : Nat := 126
def fn_impl_World_room : Nat := 50
def fn_impl_TaskBlock_1 : Nat := 48
noncomputable def tbl : List (TypeId × Ty) := [
  (2,⟨false,[.int .i64],.int .i64⟩),
  (3,⟨false,[.int .i64],.int .i64⟩),
  (4,⟨false,[.bool],.bool⟩),
  (5,⟨false,[.int .u8],.int .u8⟩),
  (6,⟨false,[.int .u8],.int .u8⟩),
  (7,⟨true,[.int .i64,.int .i64,.bool,.int .u8],.struct [(0,false,1),(1,false,1),(2,false,1),(3,false,1)]⟩),
  (8,⟨true,[.int .i64,.int .i64,.bool,.int .u8],.struct [(0,false,1),(1,false,1),(2,false,1),(3,false,1)]⟩),
  (9,⟨false,[.str],.str⟩),
  (10,⟨false,[.str],.str⟩),
  (11,⟨false,[.str],.str⟩),
  (12,⟨false,[.int .u64],.int .u64⟩),
  (13,⟨true,[.str,.int .u64],.struct [(0,false,1),(1,false,1)]⟩),
  (14,⟨true,[.str,.int .u64],.struct [(0,false,1),(1,false,1)]⟩),
  (15,⟨false,[.ptr],.ptr⟩),
  (16,⟨false,[.ptr],.ptr⟩),
  (17,⟨false,[.ptr],.ptr⟩),
  (18,⟨true,[.ptr],.struct [(0,false,1)]⟩),
  (19,⟨true,[.ptr],.struct [(0,false,1)]⟩),
  (20,⟨false,[.iface],.other⟩),
  (21,⟨false,[.int .i32],.int .i32⟩),
  (22,⟨false,[.slice],.slice 122 5⟩),
  (23,⟨false,[.slice],.slice 124 9⟩),
  (24,⟨false,[.slice],.slice 119 14⟩),
  (25,⟨true,[.int .i64,.slice,.slice,.slice],.struct [(0,false,1),(1,false,1),(2,false,1),(3,false,1)]⟩),
  (26,⟨true,[.int .i64,.slice,.slice,.slice],.struct [(0,false,1),(1,false,1),(2,false,1),(3,false,1)]⟩),
  (28,⟨false,[.slice],.slice 72 5⟩),
  (29,⟨false,[.slice],.slice 51 9⟩),
  (30,⟨false,[.slice],.slice 84 14⟩),
  (31,⟨true,[.int .i64,.slice,.slice,.slice],.struct [(0,false,1),(1,false,1),(2,false,1),(3,false,1)]⟩),
  (32,⟨true,[.int .i64,.slice,.slice,.slice],.struct [(0,false,1),(1,false,1),(2,false,1),(3,false,1)]⟩),
  (50,⟨true,[.int .i64,.int .i64,.int .i64,.int .i64,.int .i64,.int .i64,.int .i64,.int .i64,.int .i64],.struct [(0,false,1),(1,false,1),(2,false,1),(3,false,1),(4,false,1),(5,false,1),(6,false,1),(7,false,1),(8,false,1)]⟩),
  (51,⟨true,[.int .i64,.int .i64,.int .i64,.int .i64,.int .i64,.int .i64,.int .i64,.int .i64,.int .i64],.struct [(0,false,1),(1,false,1),(2,false,1),(3,false,1),(4,false,1),(5,false,1),(6,false,1),(7,false,1),(8,false,1)]⟩),
  (57,⟨false,[.ptr],.ptr⟩),
  (58,⟨false,[.iface],.other⟩),
  (59,⟨false,[.iface],.other⟩),
  (61,⟨true,[.int .i64],.struct [(0,false,1)]⟩),
  (62,⟨true,[.int .i64],.struct [(0,false,1)]⟩),
  (71,⟨true,[.bool,.int .i64,.int .i64,.int .i64,.int .i64],.struct [(0,false,1),(1,false,1),(2,false,1),(3,false,1),(4,false,1)]⟩),
  (72,⟨true,[.bool,.int .i64,.int .i64,.int .i64,.int .i64],.struct [(0,false,1),(1,false,1),(2,false,1),(3,false,1),(4,false,1)]⟩),
  (76,⟨true,[.int .i64,.bool,.int .i64,.int .i64,.int .i64],.struct [(0,false,1),(1,false,1),(2,false,1),(3,false,1),(4,false,1)]⟩),
  (77,⟨true,[.int .i64,.bool,.int .i64,.int .i64,.int .i64],.struct [(0,false,1),(1,false,1),(2,false,1),(3,false,1),(4,false,1)]⟩),
  (78,⟨false,[.slice],.slice 3 1⟩),
  (79,⟨false,[.slice],.slice 4 1⟩),
  (80,⟨true,[.int .i64,.int .i64,.int .i64,.slice,.slice],.struct [(0,false,1),(1,false,1),(2,false,1),(3,false,1),(4,false,1)]⟩),
  (81,⟨true,[.int .i64,.int .i64,.int .i64,.slice,.slice],.struct [(0,false,1),(1,false,1),(2,false,1),(3,false,1),(4,false,1)]⟩),
  (82,⟨false,[.slice],.slice 77 5⟩),
  (83,⟨true,[.bool,.int .i64,.str,.int .i64,.int .i64,.int .i64,.int .i64,.int .i64,.int .i64,.int .i64,.int .i64,.slice,.slice,.slice],.struct [(0,false,1),(1,false,1),(2,false,1),(3,false,1),(4,false,1),(5,false,1),(6,false,1),(7,false,1),(8,true,5),(13,false,1)]⟩),
  (84,⟨true,[.bool,.int .i64,.str,.int .i64,.int .i64,.int .i64,.int .i64,.int .i64,.int .i64,.int .i64,.int .i64,.slice,.slice,.slice],.struct [(0,false,1),(1,false,1),(2,false,1),(3,false,1),(4,false,1),(5,false,1),(6,false,1),(7,false,1),(8,true,5),(13,false,1)]⟩),
  (85,⟨false,[.ptr],.ptr⟩),
  (92,⟨false,[.ptr],.ptr⟩),
  (95,⟨true,[.int .i64,.int .i64,.int .i64],.struct [(0,false,1),(1,false,1),(2,false,1)]⟩),
  (96,⟨true,[.int .i64,.int .i64,.int .i64],.struct [(0,false,1),(1,false,1),(2,false,1)]⟩),
  (97,⟨false,[.ptr],.ptr⟩),
  (101,⟨true,[.ptr,.int .i64],.struct [(0,false,1),(1,false,1)]⟩),
  (102,⟨true,[.ptr,.int .i64],.struct [(0,false,1),(1,false,1)]⟩),
  (106,⟨false,[.ptr],.ptr⟩),
  (113,⟨false,[.ptr],.ptr⟩),
  (116,⟨true,[.int .i64,.int .i64,.int .i64,.slice,.slice],.struct [(0,false,1),(1,false,1),(2,false,1),(3,false,1),(4,false,1)]⟩),
  (117,⟨false,[.slice],.slice 180 5⟩),
  (118,⟨true,[.bool,.int .i64,.str,.int .i64,.int .i64,.int .i64,.int .i64,.int .i64,.int .i64,.int .i64,.int .i64,.slice,.slice,.slice],.struct [(0,false,1),(1,false,1),(2,false,1),(3,false,1),(4,false,1),(5,false,1),(6,false,1),(7,false,1),(8,true,5),(13,false,1)]⟩),
  (119,⟨true,[.bool,.int .i64,.str,.int .i64,.int .i64,.int .i64,.int .i64,.int .i64,.int .i64,.int .i64,.int .i64,.slice,.slice,.slice],.struct [(0,false,1),(1,false,1),(2,false,1),(3,false,1),(4,false,1),(5,false,1),(6,false,1),(7,false,1),(8,true,5),(13,false,1)]⟩),
  (122,⟨true,[.bool,.int .i64,.int .i64,.int .i64,.int .i64],.struct [(0,false,1),(1,false,1),(2,false,1),(3,false,1),(4,false,1)]⟩),
  (124,⟨true,[.int .i64,.int .i64,.int .i64,.int .i64,.int .i64,.int .i64,.int .i64,.int .i64,.int .i64],.struct [(0,false,1),(1,false,1),(2,false,1),(3,false,1),(4,false,1),(5,false,1),(6,false,1),(7,false,1),(8,false,1)]⟩),
  (127,⟨false,[.ptr],.ptr⟩),
  (147,⟨false,[.int .i64],.int .i64⟩),
  (159,⟨true,[.fn,.fn,.fn,.fn,.fn],.arr 5 1 false⟩),
  (160,⟨false,[.ptr],.other⟩),
  (161,⟨false,[.int .u64],.int .u64⟩),
  (162,⟨true,[.ptr,.ptr,.int .u64],.struct [(0,false,1),(1,false,1),(2,false,1)]⟩),
  (163,⟨true,[.ptr,.ptr,.int .u64],.struct [(0,false,1),(1,false,1),(2,false,1)]⟩),
  (165,⟨false,[.iface],.other⟩),
  (166,⟨false,[.iface],.other⟩),
  (168,⟨false,[.int .u8],.int .u8⟩),
  (174,⟨false,[.slice],.slice 5 1⟩),
  (175,⟨false,[.int .u64],.int .u64⟩),
  (180,⟨true,[.int .i64,.bool,.int .i64,.int .i64,.int .i64],.struct [(0,false,1),(1,false,1),(2,false,1),(3,false,1),(4,false,1)]⟩),
  (182,⟨true,[.ptr],.struct [(0,false,1)]⟩),
  (183,⟨true,[.ptr],.struct [(0,false,1)]⟩),
  (184,⟨false,[.ptr],.ptr⟩),
  (188,⟨false,[.iface],.other⟩),
  (191,⟨false,[.iface],.other⟩),
  (193,⟨false,[.iface],.other⟩),
  (194,⟨false,[.slice],.slice 59 1⟩),
  (199,⟨true,[.int .i64,.int .i64,.int .i64,.int .i64,.int .i64,.int .i64,.int .i64,.int .i64,.int .i64,.int .i64,.int .i64,.int .i64,.int .i64,.int .i64,.int .i64,.int .i64,.int .i64,.int .i64,.int .i64,.int .i64,.int .i64],.arr 21 1 false⟩),
  (201,⟨false,[.slice],.slice 204 1⟩),
  (204,⟨false,[.ptr],.ptr⟩),
  (205,⟨true,[.int .i64,.str,.ptr],.struct [(0,false,1),(1,false,1),(2,false,1)]⟩),
  (206,⟨true,[.int .i64,.str,.ptr],.struct [(0,false,1),(1,false,1),(2,false,1)]⟩),
  (207,⟨false,[.map],.other⟩),
  (208,⟨true,[.int .i64,.str],.struct [(0,false,1),(1,false,1)]⟩),
  (209,⟨true,[.int .i64,.str],.struct [(0,false,1),(1,false,1)]⟩),
  (211,⟨true,[.ptr,.ptr,.ptr,.str],.struct [(0,false,1),(1,false,1),(2,false,1),(3,false,1)]⟩),
  (212,⟨true,[.ptr,.ptr,.ptr,.str],.struct [(0,false,1),(1,false,1),(2,false,1),(3,false,1)]⟩),
  (213,⟨true,[],.arr 0 1 false⟩),
  (214,⟨true,[],.other⟩),
  (215,⟨true,[],.other⟩),
  (217,⟨false,[.int .u32],.int .u32⟩),
  (218,⟨false,[.int .u8],.int .u8⟩),
  (220,⟨false,[.ptr],.ptr⟩),
  (221,⟨false,[.int .i32],.int .i32⟩),
  (222,⟨false,[.int .i32],.int .i32⟩),
  (223,⟨true,[.int .u64,.int .u64,.int .u32,.int .u8,.int .u8,.int .u8,.int .u8,.fn,.ptr,.int .i32,.int .i32],.struct [(0,false,1),(1,false,1),(2,false,1),(3,false,1),(4,false,1),(5,false,1),(6,false,1),(7,false,1),(8,false,1),(9,false,1),(10,false,1)]⟩),
  (224,⟨true,[.int .u64,.int .u64,.int .u32,.int .u8,.int .u8,.int .u8,.int .u8,.fn,.ptr,.int .i32,.int .i32],.struct [(0,false,1),(1,false,1),(2,false,1),(3,false,1),(4,false,1),(5,false,1),(6,false,1),(7,false,1),(8,false,1),(9,false,1),(10,false,1)]⟩),
  (227,⟨true,[.str,.int .u8],.struct [(0,false,1),(1,false,1)]⟩),
  (228,⟨true,[.str,.int .u8],.struct [(0,false,1),(1,false,1)]⟩),
  (229,⟨false,[.ptr],.ptr⟩),
  (231,⟨false,[.int .u16],.int .u16⟩),
  (232,⟨true,[.int .i32,.int .u16,.int .u16,.int .u32,.int .u32],.struct [(0,false,1),(1,false,1),(2,false,1),(3,false,1),(4,false,1)]⟩),
  (233,⟨true,[.int .i32,.int .u16,.int .u16,.int .u32,.int .u32],.struct [(0,false,1),(1,false,1),(2,false,1),(3,false,1),(4,false,1)]⟩),
  (234,⟨false,[.slice],.slice 237 4⟩),
  (235,⟨false,[.int .i32],.int .i32⟩),
  (236,⟨true,[.int .i32,.int .i32,.int .i32,.int .i32],.struct [(0,false,1),(1,false,1),(2,false,1),(3,false,1)]⟩),
  (237,⟨true,[.int .i32,.int .i32,.int .i32,.int .i32],.struct [(0,false,1),(1,false,1),(2,false,1),(3,false,1)]⟩),
  (238,⟨false,[.ptr],.ptr⟩)] ++ [1,27,34,35,36,37,38,39,40,41,42,44,45,46,47,48,49,52,53,54,55,56,60,63,64,65,66,67,68,69,70,73,74,75,86,87,88,90,91,94,98,99,100,103,104,105,107,108,109,110,111,112,114,115,120,121,123,125,126,128,129,130,131,132,133,134,135,136,137,138,139,140,141,142,144,145,146,148,150,151,152,153,154,155,156,157,158,164,167,169,170,171,172,173,176,177,178,179,181,185,186,187,190,192,195,196,197,198,200,203,210,216,219,225,226,230].map (fun t => (t,⟨false,[.fn],.other⟩)) ++ [0,33,43,89,93,143,149,189,202].map fun t => (t,⟨false,[.other],.other⟩)
noncomputable def pfT : List (Nat × List RK) := [
  (38,[.cell (.int .i64)]),
  (39,[.cell (.int .i64)]),
  (216,[.cell (.int .i64)]),
  (217,[.cell (.int .i64)]),
  (178,[.cell (.int .i64)]),
  (179,[.cell (.int .i64)]),
  (112,[.cell (.int .i64)]),
  (40,[.cell (.int .i64)]),
  (13,[.cell (.int .i64)]),
  (72,[.cell .bool]),
  (168,[.cell (.int .i64)]),
  (101,[.cell .bool]),
  (186,[.cell (.int .i64)]),
  (239,[.cell .bool]),
  (218,[.cell .bool]),
  (180,[.cell .bool]),
  (85,[.cell .bool]),
  (91,[.cell .bool]),
  (145,[.cell .bool]),
  (219,[.cell .bool]),
  (220,[.cell .bool]),
  (181,[.cell .bool]),
  (64,[.cell (.int .i64)]),
  (156,[.cell .bool]),
  (169,[.cell (.int .i64)]),
  (170,[.cell (.int .i64)]),
  (103,[.cell (.int .i64)]),
  (237,[.cell (.int .i64)]),
  (210,[.cell (.int .i64)]),
  (221,[.cell .bool]),
  (182,[.cell .bool]),
  (190,[.cell .bool]),
  (187,[.cell .bool]),
  (188,[.cell .bool]),
  (183,[.cell .bool]),
  (119,[.cell .bool]),
  (222,[.cell .bool]),
  (184,[.cell .bool]),
  (113,[.cell .bool]),
  (185,[.cell .bool]),
  (115,[.cell .bool]),
  (42,[.cell .bool]),
  (79,[.cell (.int .i64)]),
  (209,[.cell (.int .i64)]),
  (141,[.cell (.int .i64)]),
  (189,[.cell (.int .i64),.cell .bool]),
  (120,[.agg [.bool,.int .i64,.int .i64,.int .i64,.int .i64]]),
  (121,[.agg [.int .i64,.int .i64,.int .i64,.int .i64,.int .i64,.int .i64,.int .i64,.int .i64,.int .i64]]),
  (225,[.agg [.int .i64,.bool,.int .i64,.int .i64,.int .i64]]),
  (74,[.cell .bool]),
  (177,[.cell (.int .i64)]),
  (226,[.cell .bool]),
  (105,[.cell .bool]),
  (243,[.cell .bool]),
  (244,[.cell (.int .i64)]),
  (227,[.cell .bool]),
  (193,[.cell .bool]),
  (87,[.cell .bool]),
  (213,[.cell .bool]),
  (159,[.cell .bool]),
  (94,[.cell .bool]),
  (241,[.cell .bool]),
  (228,[.cell .bool]),
  (242,[.cell .bool]),
  (229,[.cell .bool]),
  (194,[.cell .bool]),
  (67,[.cell .bool]),
  (89,[.agg [.ptr,.int .i64]]),
  (110,[.cell .ptr]),
  (143,[.cell (.int .i64)]),
  (152,[.cell .bool]),
  (176,[.cell (.int .i64)]),
  (175,[.cell (.int .i64)]),
  (109,[.cell (.int .i64)]),
  (160,[.cell (.int .i64)]),
  (214,[.cell .bool]),
  (161,[.cell .bool]),
  (238,[.agg [.int .i64,.int .i64,.int .i64,.int .i64,.int .i64,.int .i64,.int .i64,.int .i64,.int .i64,.int .i64,.int .i64,.int .i64,.int .i64,.int .i64,.int .i64,.int .i64,.int .i64,.int .i64,.int .i64,.int .i64,.int .i64]]),
  (211,[.cell (.int .i64)]),
  (142,[.cell (.int .i64)]),
  (230,[.cell .bool]),
  (195,[.cell .bool]),
  (205,[.cell .bool]),
  (206,[.cell .bool]),
  (128,[.cell .bool]),
  (204,[.cell .bool]),
  (196,[.cell .bool]),
  (49,[.cell .bool]),
  (130,[.cell .bool]),
  (197,[.cell .bool]),
  (123,[.cell .bool]),
  (131,[.cell .bool]),
  (52,[.cell .bool]),
  (132,[.cell .bool]),
  (53,[.cell .bool]),
  (234,[.cell .bool]),
  (235,[.cell .bool]),
  (207,[.cell .bool]),
  (236,[.cell .bool]),
  (208,[.cell .bool]),
  (133,[.cell .bool]),
  (54,[.cell .bool]),
  (17,[.cell .bool]),
  (134,[.cell .str]),
  (58,[.cell (.int .i64)]),
  (59,[.cell (.int .i64)]),
  (138,[.cell (.int .i64)]),
  (139,[.cell (.int .i64)]),
  (140,[.cell (.int .i64)]),
  (60,[.cell (.int .i64)]),
  (19,[.cell (.int .i64)]),
  (65,[.cell (.int .i64)]),
  (80,[.cell (.int .i64)]),
  (154,[.cell .bool]),
  (158,[.cell (.int .i64)]),
  (98,[.cell .iface]),
  (100,[.cell .ptr]),
  (69,[.cell (.int .i64)]),
  (203,[.cell (.int .i64)]),
  (68,[.cell (.int .i64)]),
  (70,[.cell (.int .i64)]),
  (166,[.cell (.int .i64)]),
  (167,[.cell (.int .i64)]),
  (102,[.cell (.int .i64)]),
  (126,[.cell .bool]),
  (50,[.cell .bool]),
  (82,[.cell .ptr]),
  (153,[.cell .bool]),
  (84,[.cell (.int .i64)]),
  (155,[.cell .bool]),
  (107,[.cell .bool]),
  (165,[.cell .bool]),
  (174,[.cell (.int .i64),.cell (.int .i64)]),
  (173,[.cell .bool])]
noncomputable def efT : List (Nat × List RK) := [
  (2,[]),
  (146,[.agg [.int .i64,.int .i64,.int .i64,.slice,.slice]]),
  (114,[.agg [.int .i64,.slice,.slice,.slice]]),
  (41,[.agg [.int .i64,.slice,.slice,.slice],.cell (.int .i64)]),
  (61,[.agg [.int .i64,.slice,.slice,.slice]]),
  (116,[.agg [.int .i64,.slice,.slice,.slice]]),
  (147,[.agg [.int .i64,.int .i64,.int .i64,.slice,.slice]]),
  (78,[.agg [.int .i64,.int .i64,.int .i64,.slice,.slice],.cell (.int .i64)]),
  (117,[.agg [.int .i64,.slice,.slice,.slice]]),
  (118,[.agg [.int .i64,.slice,.slice,.slice]]),
  (43,[.agg [.int .i64,.slice,.slice,.slice]]),
  (14,[.agg [.int .i64,.slice,.slice,.slice],.cell (.int .i64)]),
  (44,[.cell .slice]),
  (45,[.cell .slice]),
  (223,[.cell .slice]),
  (224,[.cell .slice]),
  (191,[.agg [.int .i64,.int .i64,.int .i64,.slice,.slice]]),
  (192,[.cell .slice]),
  (122,[.agg [.bool,.int .i64,.str,.int .i64,.int .i64,.int .i64,.int .i64,.int .i64,.int .i64,.int .i64,.int .i64,.slice,.slice,.slice]]),
  (46,[.cell .slice]),
  (15,[.agg [.int .i64,.slice,.slice,.slice]]),
  (240,[.cell .slice,.cell .bool]),
  (198,[.agg [.int .i64,.int .i64,.int .i64,.slice,.slice]]),
  (124,[.agg [.int .i64,.slice,.slice,.slice]]),
  (202,[.cell .bool]),
  (125,[.cell .bool]),
  (47,[.agg [.int .i64,.slice,.slice,.slice],.cell (.int .i64)]),
  (16,[.agg [.int .i64,.slice,.slice,.slice],.cell (.int .i64)]),
  (55,[.cell (.int .i64)]),
  (56,[.cell (.int .i64)]),
  (135,[.cell (.int .i64)]),
  (136,[.cell (.int .i64)]),
  (137,[.cell (.int .i64)]),
  (57,[.cell (.int .i64)]),
  (18,[.cell (.int .i64)]),
  (3,[.cell .bool]),
  (20,[.agg [.int .i64,.slice,.slice,.slice],.cell (.int .i64)]),
  (21,[.agg [.int .i64,.slice,.slice,.slice],.cell (.int .i64)]),
  (4,[.cell .bool]),
  (22,[.agg [.int .i64,.slice,.slice,.slice],.cell (.int .i64)]),
  (23,[.agg [.int .i64,.slice,.slice,.slice],.cell (.int .i64)]),
  (5,[.cell .bool]),
  (71,[.agg [.int .i64,.slice,.slice,.slice],.cell (.int .i64)]),
  (73,[.agg [.int .i64,.int .i64,.int .i64,.slice,.slice],.cell .bool]),
  (24,[.agg [.int .i64,.slice,.slice,.slice],.cell (.int .i64)]),
  (75,[.agg [.int .i64,.slice,.slice,.slice],.cell (.int .i64)]),
  (25,[.agg [.int .i64,.slice,.slice,.slice],.cell (.int .i64)]),
  (6,[.cell .bool]),
  (26,[.agg [.int .i64,.slice,.slice,.slice],.cell (.int .i64)]),
  (27,[.agg [.int .i64,.slice,.slice,.slice],.cell (.int .i64)]),
  (7,[.cell .bool]),
  (86,[.agg [.int .i64,.slice,.slice,.slice]]),
  (28,[.agg [.int .i64,.slice,.slice,.slice],.cell (.int .i64)]),
  (29,[.agg [.int .i64,.slice,.slice,.slice],.cell (.int .i64)]),
  (8,[.cell .bool]),
  (157,[.agg [.int .i64,.slice,.slice,.slice]]),
  (92,[.agg [.int .i64,.slice,.slice,.slice]]),
  (30,[.agg [.int .i64,.slice,.slice,.slice],.cell (.int .i64)]),
  (31,[.agg [.int .i64,.slice,.slice,.slice],.cell (.int .i64)]),
  (9,[.cell .bool]),
  (32,[.agg [.int .i64,.slice,.slice,.slice],.cell (.int .i64)]),
  (33,[.agg [.int .i64,.slice,.slice,.slice],.cell (.int .i64)]),
  (10,[.cell .bool]),
  (34,[.agg [.int .i64,.slice,.slice,.slice],.cell (.int .i64)]),
  (97,[.agg [.int .i64,.slice,.slice,.slice],.cell (.int .i64)]),
  (212,[]),
  (148,[.cell (.int .i64)]),
  (149,[.cell (.int .i64)]),
  (150,[.cell (.int .i64)]),
  (151,[.cell (.int .i64)]),
  (83,[.cell (.int .i64)]),
  (111,[]),
  (127,[]),
  (129,[]),
  (51,[]),
  (162,[]),
  (172,[.cell .fn]),
  (163,[.cell (.int .i64)]),
  (95,[]),
  (99,[]),
  (35,[.agg [.int .i64,.slice,.slice,.slice],.cell (.int .i64)]),
  (11,[.cell .bool]),
  (36,[.agg [.int .i64,.slice,.slice,.slice],.cell (.int .i64),.cell (.int .i64)]),
  (37,[.agg [.int .i64,.slice,.slice,.slice],.cell (.int .i64),.cell (.int .i64)]),
  (12,[.cell .bool]),
  (48,[.cell .iface]),
  (63,[]),
  (62,[.cell .iface]),
  (66,[.cell .iface]),
  (77,[.agg [.int .i64,.int .i64,.int .i64,.slice,.slice],.cell .bool]),
  (76,[.cell .iface]),
  (81,[.cell .iface]),
  (90,[]),
  (88,[.cell .iface]),
  (93,[.cell .iface]),
  (96,[.cell .iface]),
  (106,[.cell (.int .i64)]),
  (171,[.cell (.int .i64),.cell .bool]),
  (108,[.cell (.int .i64)]),
  (104,[.cell .iface]),
  (144,[.cell .iface]),
  (164,[.cell .iface]),
  (215,[]),
  (281,[])]
noncomputable def ttT : List (Nat × List RK) := [(0,[]),(143,[.cell (.int .i64),.cell .bool])]
def bodyOf (f : Func) : Code := match f.body with
  | some c => c
  | none => .skip
theorem asc_mem {β : Type} : ∀ {l : List (Nat × β)} {f : Nat} {k : β},asc l f = some k → (f,k) ∈ l
  | [],f,k,h => by cases h
  | p :: r,f,k,h => by
    simp only [asc] at h
    cases hb : Nat.beq p.1 f with
    | true =>
      rw [hb] at h
      simp only [cond_true,Option.some.injEq] at h
      have : p.1 = f := Nat.eq_of_beq_eq_true hb
      rw [← this,← h]; exact List.mem_cons_self
    | false =>
      rw [hb] at h
      exact List.mem_cons_of_mem _ (asc_mem h)
theorem tbl_ok : tblOk Tryz.prog tbl = true := by kernel_rfl
theorem pf_ok : (pfT.all fun p => callableB Tryz.prog p.1) = true := by kernel_rfl
theorem ef_ok : (efT.all fun p => callableB Tryz.prog p.1) = true := by kernel_rfl
theorem mixed_ok : Tryz.prog.follows .mixedOrders = true := by kernel_rfl
theorem tok : TOk Tryz.prog (tblGet tbl) := tOk_of (l:=tbl) tbl_ok
theorem pok (f : Nat) (ks : List RK) (h : asc pfT f = some ks) : Callable Tryz.prog f := callable_of (List.all_eq_true.1 pf_ok (f,ks) (asc_mem h))
theorem eok (f : Nat) (ks : List RK) (h : asc efT f = some ks) : Callable Tryz.prog f := callable_of (List.all_eq_true.1 ef_ok (f,ks) (asc_mem h))
theorem env (vis : List Nat) (n : Nat) (pm wr : Bool) (rd : Option Nat) : Env { P := Tryz.prog,T := tblGet tbl,pf := pfT,ef := efT,tt := ttT,vis := vis,n := n,pm := pm,wr := wr,rd := rd } :=
  ⟨tok,pok,eok,mixed_ok⟩
noncomputable def cfgOf (vis : List Nat) (n : Nat) (pm wr : Bool) : Cfg := { P := Tryz.prog,T := tblGet tbl,pf := pfT,ef := efT,tt := ttT,vis := vis,n := n,pm := pm,wr := wr }
def fits (fn : Func) (n : Nat) : Bool := Nat.ble n fn.ntmps && Nat.ble fn.ntmps 4000 && fn.body.isSome
theorem fits_t {fn : Func} {n : Nat} (h : fits fn n = true) : n ≤ fn.ntmps ∧ fn.ntmps ≤ 4000 ∧ fn.body = some (bodyOf fn) := by
  unfold fits at h
  simp only [Bool.and_eq_true] at h
  refine ⟨Nat.le_of_ble_eq_true h.1.1,Nat.le_of_ble_eq_true h.1.2,?_⟩
  cases hb : fn.body with
  | none => rw [hb] at h; cases h.2
  | some c => simp [bodyOf,hb]
abbrev PuV (V : World → (Value → World → Prop) → Prop) (f : FuncId) (args : Array Value) : Prop := ∀ {w : World} {bs : List Nat} {ret : Value},(∀ wr0,ExtX bs w wr0 → V wr0 fun v0 _ => v0 = ret) → PureX bs Tryz.prog f args w ret
abbrev EfV (V : World → (Value → World → Prop) → Prop) (f : FuncId) (args : Array Value) : Prop := ∀ {w : World} {R : Value → World → Prop},V w R → Calls Tryz.prog f args w fun e0 wr0 => ∃ v0,e0 = .returned v0 ∧ R v0 wr0
theorem pV (vis : List Nat) (wr : Bool) (sps : List (Nat × LSpec)) {f : FuncId} {fn : Func} {args : List Value} {V : World → (Value → World → Prop) → Prop} (hf : Tryz.prog.funcs[f]? = some fn) (hk : fits fn args.length = true) (hV : evFn (cfgOf vis fn.ntmps true wr) sps args (bodyOf fn) fn.results.toList = V) : PuV V f args.toArray := fun {w bs ret} hvc =>
  pure_of_ev (C:=cfgOf vis fn.ntmps true wr) (sps:=sps) (env _ _ _ _ _) hf (fits_t hk).2.2 rfl (fits_t hk).1 (fits_t hk).2.1 rfl rfl fun wr0 hx0 => by rw [hV]; exact hvc wr0 hx0
theorem eV (vis : List Nat) (wr : Bool) (sps : List (Nat × LSpec)) {f : FuncId} {fn : Func} {args : List Value} {V : World → (Value → World → Prop) → Prop} (hf : Tryz.prog.funcs[f]? = some fn) (hk : fits fn args.length = true) (hV : evFn (cfgOf vis fn.ntmps false wr) sps args (bodyOf fn) fn.results.toList = V) : EfV V f args.toArray := fun {w R} hvc =>
  eff_of_ev (C:=cfgOf vis fn.ntmps false wr) (sps:=sps) (env _ _ _ _ _) hf (fits_t hk).2.2 rfl (fits_t hk).1 (fits_t hk).2.1 rfl rfl (by rw [hV]; exact hvc)
end Go.Proofs.YtnofpcbjpcoghaaGreatDoor
