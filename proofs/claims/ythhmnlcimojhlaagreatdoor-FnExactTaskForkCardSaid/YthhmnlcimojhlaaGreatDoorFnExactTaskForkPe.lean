/- Part 5 of what the law FnExactTaskFork needs: the engine, the functions' propositions, the contracts. -/
import Derived.Test.YthhmnlcimojhlaaGreatDoorFnExactTaskForkPd
import Derived.Test.YthhmnlcimojhlaaGreatDoorProg
import Derived.KernelRfl
namespace Go.Proofs.YthhmnlcimojhlaaGreatDoor
open Go.RowKit
set_option linter.unusedVariables false
set_option maxRecDepth 100000
set_option maxHeartbeats 1600000
def ty_int:TypeId:=3
def ty_bool:TypeId:=4
def ty_uint8:TypeId:=5
def ty_string:TypeId:=9
def ty_sl_laws_Cpu:TypeId:=22
def ty_sl_laws_Task:TypeId:=23
def ty_sl_laws_Group:TypeId:=24
def ty_laws_World:TypeId:=26
def ty_sl_impl_Cpu:TypeId:=28
def ty_sl_impl_Task:TypeId:=29
def ty_sl_impl_Group:TypeId:=30
def ty_impl_World:TypeId:=32
def ty_sl_int:TypeId:=49
def ty_sl_bool:TypeId:=50
def ty_impl_Band:TypeId:=52
def ty_sl_impl_Shelf:TypeId:=53
def ty_impl_Group:TypeId:=55
def ty_p_impl_World:TypeId:=62
def ty_impl_refusal:TypeId:=67
def ty_impl_Task:TypeId:=82
def ty_impl_Cpu:TypeId:=86
def ty_impl_Shelf:TypeId:=95
def ty_laws_Band:TypeId:=118
def ty_sl_laws_Shelf:TypeId:=119
def ty_laws_Group:TypeId:=121
def ty_laws_Cpu:TypeId:=124
def ty_laws_Task:TypeId:=126
def ty_p_impl_refusal:TypeId:=142
def ty_impl_cpuSet:TypeId:=146
def ty_sl_uint8:TypeId:=165
def ty_internal_reflectlite_Value:TypeId:=171
def ty_laws_Shelf:TypeId:=185
def ty_sl_p_impl_node:TypeId:=222
def ty_p_impl_node:TypeId:=225
def ty_impl_node:TypeId:=227
def ty_map_impl_nodeKey_int:TypeId:=228
def ty_impl_nodeKey:TypeId:=230
def fn_laws_szCpuS:Nat:=35
def fn_laws_szTaskS:Nat:=36
def fn_laws_szIntS:Nat:=243
def fn_laws_szBoolS:Nat:=244
def fn_laws_szBand:Nat:=194
def fn_laws_szShelfS:Nat:=195
def fn_laws_szGroup:Nat:=117
def fn_laws_szGroupS:Nat:=37
def fn_laws_szWorld:Nat:=12
def fn_spec_l1In:Nat:=71
def fn_spec_l8Ups:Nat:=91
def fn_spec_l6Used:Nat:=77
def fn_spec_l6Depth:Nat:=197
def fn_spec_l6File:Nat:=262
def fn_spec_NameOk:Nat:=229
def fn_spec_TreeOk:Nat:=168
def fn_spec_l1Weight:Nat:=39
def fn_spec_MaskOk:Nat:=62
def fn_spec_l8NoBand:Nat:=230
def fn_spec_l4Time:Nat:=231
def fn_spec_BandOk:Nat:=232
def fn_spec_l8GroupOk:Nat:=169
def fn_spec_WeightOf:Nat:=76
def fn_spec_MaskHas:Nat:=147
def fn_spec_MaskAnd:Nat:=158
def fn_spec_l8Pins:Nat:=159
def fn_spec_l8Where:Nat:=79
def fn_spec_VirtualStep:Nat:=178
def fn_spec_LagMost:Nat:=196
def fn_spec_l8Stand:Nat:=233
def fn_spec_l8TaskOk:Nat:=170
def fn_spec_l8Queued:Nat:=201
def fn_spec_l8Active:Nat:=198
def fn_spec_l8Dry:Nat:=199
def fn_spec_l8ShelfOk:Nat:=171
def fn_spec_l8InLine:Nat:=123
def fn_spec_l8Stayed:Nat:=234
def fn_spec_l8CpuOk:Nat:=172
def fn_spec_WorldOk:Nat:=102
def fn_spec_l5Own:Nat:=173
def fn_spec_l8Own:Nat:=103
def fn_spec_l8Half:Nat:=174
def fn_spec_WorldRoom:Nat:=104
def fn_spec_l10Begin:Nat:=61
def fn_spec_l8End:Nat:=80
def fn_spec_l1Min:Nat:=177
def fn_spec_l1Max:Nat:=182
def fn_spec_LagCut:Nat:=118
def fn_spec_l8Lines:Nat:=120
def fn_spec_l5Wet:Nat:=235
def fn_spec_BandDo:Nat:=176
def fn_spec_l8Give:Nat:=121
def fn_spec_l8Least:Nat:=200
def fn_spec_l8Floors:Nat:=122
def fn_spec_l8Settle:Nat:=41
def fn_laws_toCpu:Nat:=124
def fn_laws_toCpuS:Nat:=42
def fn_laws_toTask:Nat:=125
def fn_laws_toTaskS:Nat:=43
def fn_laws_toIntS:Nat:=245
def fn_laws_toBoolS:Nat:=246
def fn_laws_toBand:Nat:=202
def fn_laws_toShelf:Nat:=247
def fn_laws_toShelfS:Nat:=203
def fn_laws_toGroup:Nat:=126
def fn_laws_toGroupS:Nat:=44
def fn_laws_toWorld:Nat:=14
def fn_impl_World_online:Nat:=94
def fn_impl_inRange:Nat:=128
def fn_impl_timeOk:Nat:=253
def fn_impl_groupUsed:Nat:=83
def fn_impl_NameOk:Nat:=274
def fn_impl_node_depth:Nat:=275
def fn_impl_nodes:Nat:=270
def fn_impl_TreeOk:Nat:=254
def fn_impl_World_shapeOk:Nat:=215
def fn_impl_weightOk:Nat:=46
def fn_impl_cpuSet_ok:Nat:=225
def fn_impl_MaskOk:Nat:=152
def fn_impl_maskFull:Nat:=67
def fn_impl_bandZero:Nat:=271
def fn_impl_groupZero:Nat:=255
def fn_impl_BandOk:Nat:=272
def fn_impl_World_quotaOk:Nat:=256
def fn_impl_World_groupsOk:Nat:=216
def fn_impl_World_lane:Nat:=49
def fn_impl_niceOk:Nat:=82
def fn_impl_lane_shelf:Nat:=88
def fn_impl_MaskAnd:Nat:=164
def fn_impl_World_pins:Nat:=163
def fn_impl_World_allowedIn:Nat:=87
def fn_impl_World_allowed:Nat:=100
def fn_impl_cpuSet_has:Nat:=226
def fn_impl_MaskHas:Nat:=153
def fn_impl_WeightOf:Nat:=228
def fn_impl_loadOk:Nat:=257
def fn_impl_weightSteps:Nat:=269
def fn_impl_VirtualStep:Nat:=248
def fn_impl_LagMost:Nat:=204
def fn_impl_placed:Nat:=258
def fn_impl_World_tasksOk:Nat:=217
def fn_impl_lane_queues:Nat:=207
def fn_impl_lane_holds:Nat:=208
def fn_impl_lane_active:Nat:=133
def fn_impl_lane_dry:Nat:=206
def fn_impl_World_shelvesOk:Nat:=218
def fn_impl_World_taskThere:Nat:=68
def fn_impl_lane_inLine:Nat:=136
def fn_impl_World_cpusOk:Nat:=219
def fn_impl_WorldOk:Nat:=149
def fn_impl_bandCopy:Nat:=220
def fn_impl_worldCopy:Nat:=150
def fn_errors_As:Nat:=151
def fn_impl_attempt:Nat:=65
def fn_laws_eqCpu:Nat:=137
def fn_laws_eqCpuS:Nat:=52
def fn_laws_eqTask:Nat:=138
def fn_laws_eqTaskS:Nat:=53
def fn_laws_eqIntS:Nat:=250
def fn_laws_eqBoolS:Nat:=251
def fn_laws_eqBand:Nat:=213
def fn_laws_eqShelf:Nat:=252
def fn_laws_eqShelfS:Nat:=214
def fn_laws_eqGroup:Nat:=139
def fn_laws_eqGroupS:Nat:=54
def fn_laws_eqWorld:Nat:=16
def fn_laws_markCpuS:Nat:=55
def fn_laws_markTaskS:Nat:=56
def fn_laws_markText:Nat:=140
def fn_laws_markIntS:Nat:=141
def fn_laws_markBoolS:Nat:=142
def fn_laws_markShelfS:Nat:=143
def fn_laws_markGroupS:Nat:=57
def fn_laws_markWorld:Nat:=17
def fn_laws_heldCpuS:Nat:=58
def fn_laws_heldTaskS:Nat:=59
def fn_laws_heldIntS:Nat:=144
def fn_laws_heldBoolS:Nat:=145
def fn_laws_heldShelfS:Nat:=146
def fn_laws_heldGroupS:Nat:=60
def fn_laws_heldWorld:Nat:=18
def fn_impl_lane_cpu:Nat:=75
def fn_impl_lane_endSlice:Nat:=89
def fn_impl_LagCut:Nat:=130
def fn_impl_World_depth:Nat:=205
def fn_impl_lane_switchGroups:Nat:=132
def fn_impl_Band_wet:Nat:=249
def fn_impl_Band_refills:Nat:=209
def fn_impl_Band_takes:Nat:=210
def fn_impl_Band_spends:Nat:=211
def fn_impl_Band_returns:Nat:=212
def fn_impl_Band_do:Nat:=134
def fn_impl_lane_rise:Nat:=135
def fn_impl_World_settle:Nat:=51
def fn_impl_cpuSet_members:Nat:=161
def fn_spec_l10Ready:Nat:=96
def fn_spec_l10Loads:Nat:=157
def fn_spec_l10Place:Nat:=78
def fn_spec_TaskFork:Nat:=25
def fn_impl_TaskFork:Nat:=26
def fn_laws_FnExactTaskFork:Nat:=7
def fn_impl_MaskCount:Nat:=93
def fn_impl_early:Nat:=129
def fn_impl_World_room:Nat:=48
def fn_slices_IndexFunc_impl_Task_impl_Task:Nat:=84
def fn_impl_TaskFork_1_1:Nat:=85
def fn_impl_best_int:Nat:=160
def fn_impl_World_bestCpu:Nat:=86
def fn_impl_TaskFork_1:Nat:=81
def fn_impl_World_crowd:Nat:=99
def fn_impl_World_bestCpu_1:Nat:=162
def fn_impl_cpuSet_members_1:Nat:=227
noncomputable def tbl:List (TypeId×Ty):=[
 (2,⟨false,[.int .i64],.int .i64⟩),
 (3,⟨false,[.int .i64],.int .i64⟩),
 (4,⟨false,[.bool],.bool⟩),
 (5,⟨false,[.int .u8],.int .u8⟩),
 (6,⟨false,[.int .u8],.int .u8⟩),
 (7,⟨true,[.int .i64,.int .i64,.bool,.int .u8],.struct [(0,false,1),(1,false,1),(2,false,1),(3,false,1)]⟩),
 (8,⟨true,[.int .i64,.int .i64,.bool,.int .u8],.struct [(0,false,1),(1,false,1),(2,false,1),(3,false,1)]⟩),
 (9,⟨false,[.str],.str⟩),
 (10,⟨false,[.str],.str⟩),
 (11,⟨false,[.str],.str⟩),
 (12,⟨false,[.int .u64],.int .u64⟩),
 (13,⟨true,[.str,.int .u64],.struct [(0,false,1),(1,false,1)]⟩),
 (14,⟨true,[.str,.int .u64],.struct [(0,false,1),(1,false,1)]⟩),
 (15,⟨false,[.ptr],.ptr⟩),
 (16,⟨false,[.ptr],.ptr⟩),
 (17,⟨false,[.ptr],.ptr⟩),
 (18,⟨true,[.ptr],.struct [(0,false,1)]⟩),
 (19,⟨true,[.ptr],.struct [(0,false,1)]⟩),
 (20,⟨false,[.iface],.other⟩),
 (21,⟨false,[.int .i32],.int .i32⟩),
 (22,⟨false,[.slice],.slice 124 5⟩),
 (23,⟨false,[.slice],.slice 126 9⟩),
 (24,⟨false,[.slice],.slice 121 14⟩),
 (25,⟨true,[.int .i64,.slice,.slice,.slice],.struct [(0,false,1),(1,false,1),(2,false,1),(3,false,1)]⟩),
 (26,⟨true,[.int .i64,.slice,.slice,.slice],.struct [(0,false,1),(1,false,1),(2,false,1),(3,false,1)]⟩),
 (28,⟨false,[.slice],.slice 86 5⟩),
 (29,⟨false,[.slice],.slice 82 9⟩),
 (30,⟨false,[.slice],.slice 55 14⟩),
 (31,⟨true,[.int .i64,.slice,.slice,.slice],.struct [(0,false,1),(1,false,1),(2,false,1),(3,false,1)]⟩),
 (32,⟨true,[.int .i64,.slice,.slice,.slice],.struct [(0,false,1),(1,false,1),(2,false,1),(3,false,1)]⟩),
 (49,⟨false,[.slice],.slice 3 1⟩),
 (50,⟨false,[.slice],.slice 4 1⟩),
 (51,⟨true,[.int .i64,.int .i64,.int .i64,.slice,.slice],.struct [(0,false,1),(1,false,1),(2,false,1),(3,false,1),(4,false,1)]⟩),
 (52,⟨true,[.int .i64,.int .i64,.int .i64,.slice,.slice],.struct [(0,false,1),(1,false,1),(2,false,1),(3,false,1),(4,false,1)]⟩),
 (53,⟨false,[.slice],.slice 95 5⟩),
 (54,⟨true,[.bool,.int .i64,.str,.int .i64,.int .i64,.int .i64,.int .i64,.int .i64,.int .i64,.int .i64,.int .i64,.slice,.slice,.slice],.struct [(0,false,1),(1,false,1),(2,false,1),(3,false,1),(4,false,1),(5,false,1),(6,false,1),(7,false,1),(8,true,5),(13,false,1)]⟩),
 (55,⟨true,[.bool,.int .i64,.str,.int .i64,.int .i64,.int .i64,.int .i64,.int .i64,.int .i64,.int .i64,.int .i64,.slice,.slice,.slice],.struct [(0,false,1),(1,false,1),(2,false,1),(3,false,1),(4,false,1),(5,false,1),(6,false,1),(7,false,1),(8,true,5),(13,false,1)]⟩),
 (62,⟨false,[.ptr],.ptr⟩),
 (63,⟨false,[.iface],.other⟩),
 (64,⟨false,[.iface],.other⟩),
 (66,⟨true,[.int .i64],.struct [(0,false,1)]⟩),
 (67,⟨true,[.int .i64],.struct [(0,false,1)]⟩),
 (68,⟨true,[.ptr,.int .i64],.struct [(0,false,1),(1,false,1)]⟩),
 (69,⟨true,[.ptr,.int .i64],.struct [(0,false,1),(1,false,1)]⟩),
 (81,⟨true,[.int .i64,.int .i64,.int .i64,.int .i64,.int .i64,.int .i64,.int .i64,.int .i64,.int .i64],.struct [(0,false,1),(1,false,1),(2,false,1),(3,false,1),(4,false,1),(5,false,1),(6,false,1),(7,false,1),(8,false,1)]⟩),
 (82,⟨true,[.int .i64,.int .i64,.int .i64,.int .i64,.int .i64,.int .i64,.int .i64,.int .i64,.int .i64],.struct [(0,false,1),(1,false,1),(2,false,1),(3,false,1),(4,false,1),(5,false,1),(6,false,1),(7,false,1),(8,false,1)]⟩),
 (85,⟨true,[.bool,.int .i64,.int .i64,.int .i64,.int .i64],.struct [(0,false,1),(1,false,1),(2,false,1),(3,false,1),(4,false,1)]⟩),
 (86,⟨true,[.bool,.int .i64,.int .i64,.int .i64,.int .i64],.struct [(0,false,1),(1,false,1),(2,false,1),(3,false,1),(4,false,1)]⟩),
 (88,⟨false,[.ptr],.ptr⟩),
 (94,⟨true,[.int .i64,.bool,.int .i64,.int .i64,.int .i64],.struct [(0,false,1),(1,false,1),(2,false,1),(3,false,1),(4,false,1)]⟩),
 (95,⟨true,[.int .i64,.bool,.int .i64,.int .i64,.int .i64],.struct [(0,false,1),(1,false,1),(2,false,1),(3,false,1),(4,false,1)]⟩),
 (100,⟨false,[.ptr],.ptr⟩),
 (104,⟨false,[.ptr],.ptr⟩),
 (118,⟨true,[.int .i64,.int .i64,.int .i64,.slice,.slice],.struct [(0,false,1),(1,false,1),(2,false,1),(3,false,1),(4,false,1)]⟩),
 (119,⟨false,[.slice],.slice 185 5⟩),
 (120,⟨true,[.bool,.int .i64,.str,.int .i64,.int .i64,.int .i64,.int .i64,.int .i64,.int .i64,.int .i64,.int .i64,.slice,.slice,.slice],.struct [(0,false,1),(1,false,1),(2,false,1),(3,false,1),(4,false,1),(5,false,1),(6,false,1),(7,false,1),(8,true,5),(13,false,1)]⟩),
 (121,⟨true,[.bool,.int .i64,.str,.int .i64,.int .i64,.int .i64,.int .i64,.int .i64,.int .i64,.int .i64,.int .i64,.slice,.slice,.slice],.struct [(0,false,1),(1,false,1),(2,false,1),(3,false,1),(4,false,1),(5,false,1),(6,false,1),(7,false,1),(8,true,5),(13,false,1)]⟩),
 (124,⟨true,[.bool,.int .i64,.int .i64,.int .i64,.int .i64],.struct [(0,false,1),(1,false,1),(2,false,1),(3,false,1),(4,false,1)]⟩),
 (126,⟨true,[.int .i64,.int .i64,.int .i64,.int .i64,.int .i64,.int .i64,.int .i64,.int .i64,.int .i64],.struct [(0,false,1),(1,false,1),(2,false,1),(3,false,1),(4,false,1),(5,false,1),(6,false,1),(7,false,1),(8,false,1)]⟩),
 (129,⟨false,[.ptr],.ptr⟩),
 (131,⟨true,[.int .i64,.int .i64,.int .i64],.struct [(0,false,1),(1,false,1),(2,false,1)]⟩),
 (132,⟨true,[.int .i64,.int .i64,.int .i64],.struct [(0,false,1),(1,false,1),(2,false,1)]⟩),
 (142,⟨false,[.ptr],.ptr⟩),
 (146,⟨false,[.int .i64],.int .i64⟩),
 (148,⟨false,[.int .u64],.int .u64⟩),
 (165,⟨false,[.slice],.slice 5 1⟩),
 (167,⟨true,[.fn,.fn,.fn,.fn,.fn],.arr 5 1 false⟩),
 (168,⟨false,[.ptr],.other⟩),
 (169,⟨false,[.int .u64],.int .u64⟩),
 (170,⟨true,[.ptr,.ptr,.int .u64],.struct [(0,false,1),(1,false,1),(2,false,1)]⟩),
 (171,⟨true,[.ptr,.ptr,.int .u64],.struct [(0,false,1),(1,false,1),(2,false,1)]⟩),
 (173,⟨false,[.iface],.other⟩),
 (174,⟨false,[.iface],.other⟩),
 (176,⟨false,[.int .u8],.int .u8⟩),
 (185,⟨true,[.int .i64,.bool,.int .i64,.int .i64,.int .i64],.struct [(0,false,1),(1,false,1),(2,false,1),(3,false,1),(4,false,1)]⟩),
 (190,⟨true,[.ptr],.struct [(0,false,1)]⟩),
 (191,⟨true,[.ptr],.struct [(0,false,1)]⟩),
 (192,⟨false,[.ptr],.ptr⟩),
 (196,⟨false,[.iface],.other⟩),
 (199,⟨false,[.iface],.other⟩),
 (201,⟨false,[.iface],.other⟩),
 (202,⟨false,[.slice],.slice 64 1⟩),
 (204,⟨false,[.slice],.slice 207 1⟩),
 (206,⟨false,[.iface],.other⟩),
 (207,⟨false,[.iface],.other⟩),
 (210,⟨true,[.int .i64,.int .i64,.int .i64,.int .i64,.int .i64,.int .i64,.int .i64,.int .i64,.int .i64,.int .i64],.struct [(0,false,1),(1,true,9)]⟩),
 (211,⟨true,[.int .i64,.int .i64,.int .i64,.int .i64,.int .i64,.int .i64,.int .i64,.int .i64,.int .i64,.int .i64],.struct [(0,false,1),(1,true,9)]⟩),
 (212,⟨true,[.int .i64,.int .i64,.bool,.int .i64,.int .i64,.int .i64],.struct [(0,false,1),(1,true,5)]⟩),
 (213,⟨true,[.int .i64,.int .i64,.bool,.int .i64,.int .i64,.int .i64],.struct [(0,false,1),(1,true,5)]⟩),
 (214,⟨true,[.int .i64],.struct [(0,false,1)]⟩),
 (215,⟨true,[.int .i64],.struct [(0,false,1)]⟩),
 (217,⟨true,[.bool,.bool,.bool,.bool],.arr 4 1 false⟩),
 (218,⟨true,[.bool,.bool,.bool,.bool],.arr 4 1 false⟩),
 (220,⟨true,[.int .i64,.int .i64,.int .i64,.int .i64,.int .i64,.int .i64,.int .i64,.int .i64,.int .i64,.int .i64,.int .i64,.int .i64,.int .i64,.int .i64,.int .i64,.int .i64,.int .i64,.int .i64,.int .i64,.int .i64,.int .i64],.arr 21 1 false⟩),
 (222,⟨false,[.slice],.slice 225 1⟩),
 (225,⟨false,[.ptr],.ptr⟩),
 (226,⟨true,[.int .i64,.str,.ptr],.struct [(0,false,1),(1,false,1),(2,false,1)]⟩),
 (227,⟨true,[.int .i64,.str,.ptr],.struct [(0,false,1),(1,false,1),(2,false,1)]⟩),
 (228,⟨false,[.map],.other⟩),
 (229,⟨true,[.int .i64,.str],.struct [(0,false,1),(1,false,1)]⟩),
 (230,⟨true,[.int .i64,.str],.struct [(0,false,1),(1,false,1)]⟩),
 (232,⟨true,[.ptr,.ptr,.ptr,.str],.struct [(0,false,1),(1,false,1),(2,false,1),(3,false,1)]⟩),
 (233,⟨true,[.ptr,.ptr,.ptr,.str],.struct [(0,false,1),(1,false,1),(2,false,1),(3,false,1)]⟩),
 (234,⟨true,[],.arr 0 1 false⟩),
 (235,⟨true,[],.other⟩),
 (236,⟨true,[],.other⟩),
 (238,⟨false,[.int .u32],.int .u32⟩),
 (239,⟨false,[.int .u8],.int .u8⟩),
 (241,⟨false,[.ptr],.ptr⟩),
 (242,⟨false,[.int .i32],.int .i32⟩),
 (243,⟨false,[.int .i32],.int .i32⟩),
 (244,⟨true,[.int .u64,.int .u64,.int .u32,.int .u8,.int .u8,.int .u8,.int .u8,.fn,.ptr,.int .i32,.int .i32],.struct [(0,false,1),(1,false,1),(2,false,1),(3,false,1),(4,false,1),(5,false,1),(6,false,1),(7,false,1),(8,false,1),(9,false,1),(10,false,1)]⟩),
 (245,⟨true,[.int .u64,.int .u64,.int .u32,.int .u8,.int .u8,.int .u8,.int .u8,.fn,.ptr,.int .i32,.int .i32],.struct [(0,false,1),(1,false,1),(2,false,1),(3,false,1),(4,false,1),(5,false,1),(6,false,1),(7,false,1),(8,false,1),(9,false,1),(10,false,1)]⟩),
 (248,⟨true,[.str,.int .u8],.struct [(0,false,1),(1,false,1)]⟩),
 (249,⟨true,[.str,.int .u8],.struct [(0,false,1),(1,false,1)]⟩),
 (251,⟨false,[.ptr],.ptr⟩),
 (252,⟨true,[.bool,.int .i64],.struct [(0,false,1),(1,false,1)]⟩),
 (253,⟨true,[.bool,.int .i64],.struct [(0,false,1),(1,false,1)]⟩),
 (255,⟨false,[.int .u16],.int .u16⟩),
 (256,⟨true,[.int .i32,.int .u16,.int .u16,.int .u32,.int .u32],.struct [(0,false,1),(1,false,1),(2,false,1),(3,false,1),(4,false,1)]⟩),
 (257,⟨true,[.int .i32,.int .u16,.int .u16,.int .u32,.int .u32],.struct [(0,false,1),(1,false,1),(2,false,1),(3,false,1),(4,false,1)]⟩),
 (258,⟨false,[.slice],.slice 261 4⟩),
 (259,⟨false,[.int .i32],.int .i32⟩),
 (260,⟨true,[.int .i32,.int .i32,.int .i32,.int .i32],.struct [(0,false,1),(1,false,1),(2,false,1),(3,false,1)]⟩),
 (261,⟨true,[.int .i32,.int .i32,.int .i32,.int .i32],.struct [(0,false,1),(1,false,1),(2,false,1),(3,false,1)]⟩),
 (262,⟨false,[.ptr],.ptr⟩)]++[1,27,34,35,36,37,38,39,40,42,43,44,45,46,47,48,56,57,58,59,60,61,65,70,71,72,73,74,75,76,77,78,79,80,83,84,87,89,90,91,92,93,96,97,98,99,101,102,103,106,107,108,109,111,112,113,114,116,117,122,123,125,127,128,130,133,134,135,136,137,138,139,140,141,143,144,145,147,149,150,151,153,154,155,156,157,158,159,160,161,162,163,164,166,172,175,177,178,179,180,181,182,183,184,186,187,188,189,193,194,195,198,200,203,205,208,209,219,221,224,231,237,240,246,247,250,254].map (fun t=>(t,⟨false,[.fn],.other⟩))++[0,33,41,105,110,115,152,197,216,223].map fun t=>(t,⟨false,[.other],.other⟩)
noncomputable def pfT:List (Nat×List RK):=[
 (35,[.cell (.int .i64)]),
 (36,[.cell (.int .i64)]),
 (243,[.cell (.int .i64)]),
 (244,[.cell (.int .i64)]),
 (194,[.cell (.int .i64)]),
 (195,[.cell (.int .i64)]),
 (117,[.cell (.int .i64)]),
 (37,[.cell (.int .i64)]),
 (12,[.cell (.int .i64)]),
 (71,[.cell .bool]),
 (91,[.cell (.int .i64)]),
 (77,[.cell .bool]),
 (197,[.cell (.int .i64)]),
 (262,[.cell .bool]),
 (229,[.cell .bool]),
 (168,[.cell .bool]),
 (39,[.cell .bool]),
 (62,[.cell .bool]),
 (230,[.cell .bool]),
 (231,[.cell .bool]),
 (232,[.cell .bool]),
 (169,[.cell .bool]),
 (76,[.cell (.int .i64)]),
 (147,[.cell .bool]),
 (158,[.cell (.int .i64)]),
 (159,[.cell (.int .i64)]),
 (79,[.cell (.int .i64)]),
 (178,[.cell (.int .i64)]),
 (196,[.cell (.int .i64)]),
 (233,[.cell .bool]),
 (170,[.cell .bool]),
 (201,[.cell .bool]),
 (198,[.cell .bool]),
 (199,[.cell .bool]),
 (171,[.cell .bool]),
 (123,[.cell .bool]),
 (234,[.cell .bool]),
 (172,[.cell .bool]),
 (102,[.cell .bool]),
 (174,[.cell .bool]),
 (104,[.cell .bool]),
 (177,[.cell (.int .i64)]),
 (182,[.cell (.int .i64)]),
 (118,[.cell (.int .i64)]),
 (119,[.cell .bool]),
 (200,[.cell (.int .i64),.cell .bool]),
 (124,[.agg [.bool,.int .i64,.int .i64,.int .i64,.int .i64]]),
 (125,[.agg [.int .i64,.int .i64,.int .i64,.int .i64,.int .i64,.int .i64,.int .i64,.int .i64,.int .i64]]),
 (247,[.agg [.int .i64,.bool,.int .i64,.int .i64,.int .i64]]),
 (94,[.cell (.int .i64)]),
 (128,[.cell .bool]),
 (253,[.cell .bool]),
 (83,[.cell .bool]),
 (274,[.cell .bool]),
 (275,[.cell (.int .i64)]),
 (254,[.cell .bool]),
 (215,[.cell .bool]),
 (46,[.cell .bool]),
 (225,[.cell .bool]),
 (152,[.cell .bool]),
 (67,[.cell .bool]),
 (271,[.cell .bool]),
 (255,[.cell .bool]),
 (272,[.cell .bool]),
 (256,[.cell .bool]),
 (216,[.cell .bool]),
 (49,[.agg [.ptr,.int .i64]]),
 (82,[.cell .bool]),
 (88,[.cell .ptr]),
 (164,[.cell (.int .i64)]),
 (163,[.cell (.int .i64)]),
 (87,[.cell (.int .i64)]),
 (100,[.cell (.int .i64)]),
 (226,[.cell .bool]),
 (153,[.cell .bool]),
 (228,[.cell (.int .i64)]),
 (257,[.cell .bool]),
 (269,[.agg [.int .i64,.int .i64,.int .i64,.int .i64,.int .i64,.int .i64,.int .i64,.int .i64,.int .i64,.int .i64,.int .i64,.int .i64,.int .i64,.int .i64,.int .i64,.int .i64,.int .i64,.int .i64,.int .i64,.int .i64,.int .i64]]),
 (248,[.cell (.int .i64)]),
 (204,[.cell (.int .i64)]),
 (258,[.cell .bool]),
 (217,[.cell .bool]),
 (207,[.cell .bool]),
 (208,[.cell .bool]),
 (133,[.cell .bool]),
 (206,[.cell .bool]),
 (218,[.cell .bool]),
 (68,[.cell .bool]),
 (136,[.cell .bool]),
 (219,[.cell .bool]),
 (149,[.cell .bool]),
 (137,[.cell .bool]),
 (52,[.cell .bool]),
 (138,[.cell .bool]),
 (53,[.cell .bool]),
 (250,[.cell .bool]),
 (251,[.cell .bool]),
 (213,[.cell .bool]),
 (252,[.cell .bool]),
 (214,[.cell .bool]),
 (139,[.cell .bool]),
 (54,[.cell .bool]),
 (16,[.cell .bool]),
 (140,[.cell .str]),
 (58,[.cell (.int .i64)]),
 (59,[.cell (.int .i64)]),
 (144,[.cell (.int .i64)]),
 (145,[.cell (.int .i64)]),
 (146,[.cell (.int .i64)]),
 (60,[.cell (.int .i64)]),
 (18,[.cell (.int .i64)]),
 (63,[.cell .bool]),
 (165,[.cell (.int .i64)]),
 (148,[.cell (.int .i64)]),
 (73,[.cell .iface]),
 (75,[.cell .ptr]),
 (130,[.cell (.int .i64)]),
 (205,[.cell (.int .i64)]),
 (166,[.cell (.int .i64)]),
 (167,[.cell (.int .i64)]),
 (96,[.cell (.int .i64)]),
 (157,[.cell (.int .i64)]),
 (78,[.cell (.int .i64)]),
 (90,[.cell (.int .i64)]),
 (175,[.cell (.int .i64)]),
 (105,[.cell (.int .i64)]),
 (108,[.cell (.int .i64)]),
 (111,[]),
 (181,[.cell (.int .i64)]),
 (112,[.cell (.int .i64)]),
 (183,[.cell (.int .i64)]),
 (186,[.cell .bool]),
 (239,[.cell (.int .i64)]),
 (184,[.cell (.int .i64)]),
 (185,[.cell (.int .i64)]),
 (187,[.cell .bool]),
 (113,[.cell (.int .i64)]),
 (129,[.cell .bool]),
 (48,[.cell .bool]),
 (131,[.cell .bool]),
 (85,[.cell .bool]),
 (99,[.cell (.int .i64),.cell (.int .i64)]),
 (189,[.cell (.int .i64)]),
 (188,[.cell (.int .i64)]),
 (115,[.cell (.int .i64)]),
 (190,[.cell (.int .i64)]),
 (191,[.cell (.int .i64)]),
 (192,[.cell (.int .i64)]),
 (193,[.cell .bool]),
 (116,[.cell (.int .i64),.cell .bool]),
 (156,[.cell .bool]),
 (162,[.cell .bool]),
 (273,[.cell .bool]),
 (266,[.cell (.int .i64)]),
 (236,[.cell (.int .i64)]),
 (268,[.agg [.bool,.bool,.bool,.bool]]),
 (241,[.cell (.int .i64)]),
 (242,[.cell .bool]),
 (309,[.cell (.int .i64)]),
 (312,[.cell (.int .i64)])]
noncomputable def efT:List (Nat×List RK):=[
 (2,[]),
 (173,[.agg [.int .i64,.int .i64,.int .i64,.slice,.slice]]),
 (103,[.agg [.int .i64,.slice,.slice,.slice]]),
 (61,[.agg [.int .i64,.slice,.slice,.slice],.cell (.int .i64)]),
 (38,[.agg [.int .i64,.slice,.slice,.slice],.cell (.int .i64)]),
 (80,[.agg [.int .i64,.slice,.slice,.slice]]),
 (40,[.agg [.int .i64,.slice,.slice,.slice]]),
 (120,[.agg [.int .i64,.slice,.slice,.slice]]),
 (235,[.agg [.int .i64,.int .i64,.int .i64,.slice,.slice]]),
 (176,[.agg [.int .i64,.int .i64,.int .i64,.slice,.slice],.cell (.int .i64)]),
 (121,[.agg [.int .i64,.slice,.slice,.slice]]),
 (122,[.agg [.int .i64,.slice,.slice,.slice]]),
 (41,[.agg [.int .i64,.slice,.slice,.slice]]),
 (13,[.agg [.int .i64,.slice,.slice,.slice],.cell (.int .i64)]),
 (42,[.cell .slice]),
 (43,[.cell .slice]),
 (245,[.cell .slice]),
 (246,[.cell .slice]),
 (202,[.agg [.int .i64,.int .i64,.int .i64,.slice,.slice]]),
 (203,[.cell .slice]),
 (126,[.agg [.bool,.int .i64,.str,.int .i64,.int .i64,.int .i64,.int .i64,.int .i64,.int .i64,.int .i64,.int .i64,.slice,.slice,.slice]]),
 (44,[.cell .slice]),
 (14,[.agg [.int .i64,.slice,.slice,.slice]]),
 (270,[.cell .slice,.cell .bool]),
 (220,[.agg [.int .i64,.int .i64,.int .i64,.slice,.slice]]),
 (150,[.agg [.int .i64,.slice,.slice,.slice]]),
 (224,[.cell .bool]),
 (151,[.cell .bool]),
 (65,[.agg [.int .i64,.slice,.slice,.slice],.cell (.int .i64)]),
 (45,[.agg [.int .i64,.slice,.slice,.slice],.cell (.int .i64)]),
 (15,[.agg [.int .i64,.slice,.slice,.slice],.cell (.int .i64)]),
 (55,[.cell (.int .i64)]),
 (56,[.cell (.int .i64)]),
 (141,[.cell (.int .i64)]),
 (142,[.cell (.int .i64)]),
 (143,[.cell (.int .i64)]),
 (57,[.cell (.int .i64)]),
 (17,[.cell (.int .i64)]),
 (3,[.cell .bool]),
 (97,[.agg [.int .i64,.slice,.slice,.slice]]),
 (64,[.agg [.int .i64,.slice,.slice,.slice]]),
 (19,[.agg [.int .i64,.slice,.slice,.slice],.cell (.int .i64)]),
 (20,[.agg [.int .i64,.slice,.slice,.slice],.cell (.int .i64)]),
 (4,[.cell .bool]),
 (21,[.agg [.int .i64,.slice,.slice,.slice],.cell (.int .i64)]),
 (22,[.agg [.int .i64,.slice,.slice,.slice],.cell (.int .i64)]),
 (5,[.cell .bool]),
 (23,[.agg [.int .i64,.slice,.slice,.slice],.cell (.int .i64)]),
 (72,[.agg [.int .i64,.slice,.slice,.slice],.cell (.int .i64)]),
 (89,[]),
 (132,[]),
 (249,[]),
 (209,[.cell (.int .i64)]),
 (210,[.cell (.int .i64)]),
 (211,[.cell (.int .i64)]),
 (212,[.cell (.int .i64)]),
 (134,[.cell (.int .i64)]),
 (135,[]),
 (51,[]),
 (101,[]),
 (161,[.cell .fn]),
 (154,[.cell (.int .i64)]),
 (69,[]),
 (74,[]),
 (24,[.agg [.int .i64,.slice,.slice,.slice],.cell (.int .i64)]),
 (6,[.cell .bool]),
 (25,[.agg [.int .i64,.slice,.slice,.slice],.cell (.int .i64),.cell (.int .i64)]),
 (26,[.agg [.int .i64,.slice,.slice,.slice],.cell (.int .i64),.cell (.int .i64)]),
 (7,[.cell .bool]),
 (27,[.agg [.int .i64,.slice,.slice,.slice],.cell (.int .i64)]),
 (93,[.cell (.int .i64)]),
 (92,[.cell .iface]),
 (95,[]),
 (28,[.agg [.int .i64,.slice,.slice,.slice],.cell (.int .i64)]),
 (8,[.cell .bool]),
 (29,[.agg [.int .i64,.slice,.slice,.slice],.cell (.int .i64)]),
 (30,[.agg [.int .i64,.slice,.slice,.slice],.cell (.int .i64)]),
 (9,[.cell .bool]),
 (106,[.cell .slice]),
 (107,[.agg [.int .i64,.slice,.slice,.slice],.cell .bool]),
 (109,[.agg [.int .i64,.slice,.slice,.slice]]),
 (31,[.agg [.int .i64,.slice,.slice,.slice],.cell (.int .i64)]),
 (110,[.agg [.int .i64,.slice,.slice,.slice],.cell (.int .i64)]),
 (32,[.agg [.int .i64,.slice,.slice,.slice],.cell (.int .i64)]),
 (10,[.cell .bool]),
 (33,[.agg [.int .i64,.slice,.slice,.slice],.cell (.int .i64)]),
 (34,[.agg [.int .i64,.slice,.slice,.slice],.cell (.int .i64)]),
 (11,[.cell .bool]),
 (50,[]),
 (47,[.cell .iface]),
 (66,[.cell .iface]),
 (70,[.cell .iface]),
 (84,[.cell (.int .i64)]),
 (160,[.cell (.int .i64),.cell .bool]),
 (86,[.cell (.int .i64)]),
 (81,[.cell .iface]),
 (98,[.cell .iface]),
 (114,[]),
 (127,[.cell .iface]),
 (155,[.cell .iface]),
 (263,[.cell .slice]),
 (264,[.cell .iface]),
 (265,[.cell (.int .i64)]),
 (237,[.cell .bool]),
 (238,[.cell (.int .i64)]),
 (180,[]),
 (179,[.cell .iface]),
 (227,[]),
 (240,[]),
 (267,[]),
 (318,[])]
noncomputable def ttT:List (Nat×List RK):=[(0,[]),(115,[.cell (.int .i64),.cell .bool])]
def bodyOf (f:Func):Code:=match f.body with
 | some c=>c
 | none=>.skip
theorem asc_mem {β:Type}:∀{l:List (Nat×β)} {f:Nat} {k:β},asc l f=some k→(f,k)∈l
 | [],f,k,h=>by cases h
 | p::r,f,k,h=>by
  simp only [asc] at h
  cases hb:Nat.beq p.1 f with
  | true =>
   rw [hb] at h
   simp only [cond_true,Option.some.injEq] at h
   have:p.1=f:=Nat.eq_of_beq_eq_true hb
   rw [←this,←h]; exact List.mem_cons_self
  | false =>
   rw [hb] at h
   exact List.mem_cons_of_mem _ (asc_mem h)
theorem tbl_ok:tblOk Tryz.prog tbl=true:=by kernel_rfl
theorem pf_ok:(pfT.all fun p=>callableB Tryz.prog p.1)=true:=by kernel_rfl
theorem ef_ok:(efT.all fun p=>callableB Tryz.prog p.1)=true:=by kernel_rfl
theorem mixed_ok:Tryz.prog.follows .mixedOrders=true:=by kernel_rfl
theorem tok:TOk Tryz.prog (tblGet tbl):=tOk_of (l:=tbl) tbl_ok
theorem pok (f:Nat) (ks:List RK) (h:asc pfT f=some ks):Callable Tryz.prog f:=callable_of (List.all_eq_true.1 pf_ok (f,ks) (asc_mem h))
theorem eok (f:Nat) (ks:List RK) (h:asc efT f=some ks):Callable Tryz.prog f:=callable_of (List.all_eq_true.1 ef_ok (f,ks) (asc_mem h))
theorem env (vis:List Nat) (n:Nat) (pm wr:Bool) (rd:Option Nat):Env { P:=Tryz.prog,T:=tblGet tbl,pf:=pfT,ef:=efT,tt:=ttT,vis:=vis,n:=n,pm:=pm,wr:=wr,rd:=rd } :=
 ⟨tok,pok,eok,mixed_ok⟩
noncomputable def cfgOf (vis:List Nat) (n:Nat) (pm wr:Bool):Cfg:={ P:=Tryz.prog,T:=tblGet tbl,pf:=pfT,ef:=efT,tt:=ttT,vis:=vis,n:=n,pm:=pm,wr:=wr }
def fits (fn:Func) (n:Nat):Bool:=Nat.ble n fn.ntmps&&Nat.ble fn.ntmps 4000&&fn.body.isSome
theorem fits_t {fn:Func} {n:Nat} (h:fits fn n=true):n≤fn.ntmps∧fn.ntmps≤4000∧fn.body=some (bodyOf fn):=by
 unfold fits at h
 simp only [Bool.and_eq_true] at h
 refine ⟨Nat.le_of_ble_eq_true h.1.1,Nat.le_of_ble_eq_true h.1.2,?_⟩
 cases hb:fn.body with
 | none=>rw [hb] at h; cases h.2
 | some c=>simp [bodyOf,hb]
abbrev PuV (V:World→(Value→World→Prop)→Prop) (f:FuncId) (args:Array Value):Prop:=∀{w:World} {bs:List Nat} {ret:Value},(∀wr0,ExtX bs w wr0→V wr0 fun v0 _=>v0=ret)→PureX bs Tryz.prog f args w ret
abbrev EfV (V:World→(Value→World→Prop)→Prop) (f:FuncId) (args:Array Value):Prop:=∀{w:World} {R:Value→World→Prop},V w R→Calls Tryz.prog f args w fun e0 wr0=>∃v0,e0 = .returned v0∧R v0 wr0
theorem pV (vis:List Nat) (wr:Bool) (sps:List (Nat×LSpec)) {f:FuncId} {fn:Func} {args:List Value} {V:World→(Value→World→Prop)→Prop} (hf:Tryz.prog.funcs[f]? = some fn) (hk:fits fn args.length=true) (hV:evFn (cfgOf vis fn.ntmps true wr) sps args (bodyOf fn) fn.results.toList=V):PuV V f args.toArray:=fun {w bs ret} hvc =>
 pure_of_ev (C:=cfgOf vis fn.ntmps true wr) (sps:=sps) (env _ _ _ _ _) hf (fits_t hk).2.2 rfl (fits_t hk).1 (fits_t hk).2.1 rfl rfl fun wr0 hx0=>by rw [hV]; exact hvc wr0 hx0
theorem eV (vis:List Nat) (wr:Bool) (sps:List (Nat×LSpec)) {f:FuncId} {fn:Func} {args:List Value} {V:World→(Value→World→Prop)→Prop} (hf:Tryz.prog.funcs[f]? = some fn) (hk:fits fn args.length=true) (hV:evFn (cfgOf vis fn.ntmps false wr) sps args (bodyOf fn) fn.results.toList=V):EfV V f args.toArray:=fun {w R} hvc =>
 eff_of_ev (C:=cfgOf vis fn.ntmps false wr) (sps:=sps) (env _ _ _ _ _) hf (fits_t hk).2.2 rfl (fits_t hk).1 (fits_t hk).2.1 rfl rfl (by rw [hV]; exact hvc)
end Go.Proofs.YthhmnlcimojhlaaGreatDoor
