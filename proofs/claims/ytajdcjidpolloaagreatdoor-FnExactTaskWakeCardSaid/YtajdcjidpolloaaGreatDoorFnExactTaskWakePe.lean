/- Part 5 of what the law FnExactTaskWake needs: the engine, the functions' propositions, the contracts. -/
import Derived.Test.YtajdcjidpolloaaGreatDoorFnExactTaskWakePd
import Derived.Test.YtajdcjidpolloaaGreatDoorProg
import Derived.KernelRfl
namespace Go.Proofs.YtajdcjidpolloaaGreatDoor
open Go.RowKit
set_option linter.unusedVariables false
set_option maxRecDepth 100000
set_option maxHeartbeats 1600000
def ty_int:TypeId:=3
def ty_bool:TypeId:=4
def ty_uint8:TypeId:=5
def ty_string:TypeId:=9
def ty_sl_laws_Cpu:TypeId:=22
def ty_sl_laws_Task:TypeId:=23
def ty_sl_laws_Group:TypeId:=24
def ty_laws_World:TypeId:=26
def ty_sl_impl_Cpu:TypeId:=28
def ty_sl_impl_Task:TypeId:=29
def ty_sl_impl_Group:TypeId:=30
def ty_impl_World:TypeId:=32
def ty_impl_Cpu:TypeId:=50
def ty_p_impl_World:TypeId:=58
def ty_impl_refusal:TypeId:=63
def ty_impl_Task:TypeId:=79
def ty_sl_int:TypeId:=90
def ty_sl_bool:TypeId:=91
def ty_impl_Band:TypeId:=93
def ty_sl_impl_Shelf:TypeId:=94
def ty_impl_Group:TypeId:=96
def ty_impl_Shelf:TypeId:=102
def ty_laws_Band:TypeId:=116
def ty_sl_laws_Shelf:TypeId:=117
def ty_laws_Group:TypeId:=119
def ty_laws_Cpu:TypeId:=123
def ty_laws_Task:TypeId:=125
def ty_impl_cpuSet:TypeId:=129
def ty_p_impl_refusal:TypeId:=143
def ty_sl_uint8:TypeId:=163
def ty_internal_reflectlite_Value:TypeId:=169
def ty_laws_Shelf:TypeId:=183
def ty_sl_p_impl_node:TypeId:=218
def ty_p_impl_node:TypeId:=223
def ty_impl_node:TypeId:=225
def ty_map_impl_nodeKey_int:TypeId:=226
def ty_impl_nodeKey:TypeId:=228
def fn_laws_szCpuS:Nat:=23
def fn_laws_szTaskS:Nat:=24
def fn_laws_szIntS:Nat:=223
def fn_laws_szBoolS:Nat:=224
def fn_laws_szBand:Nat:=173
def fn_laws_szShelfS:Nat:=174
def fn_laws_szGroup:Nat:=97
def fn_laws_szGroupS:Nat:=25
def fn_laws_szWorld:Nat:=8
def fn_spec_l1In:Nat:=27
def fn_spec_l8Ups:Nat:=29
def fn_spec_l6Used:Nat:=78
def fn_spec_l6Depth:Nat:=175
def fn_spec_l6File:Nat:=244
def fn_spec_NameOk:Nat:=213
def fn_spec_TreeOk:Nat:=160
def fn_spec_MaskOk:Nat:=77
def fn_spec_l1Weight:Nat:=206
def fn_spec_l8NoBand:Nat:=214
def fn_spec_l4Time:Nat:=215
def fn_spec_BandOk:Nat:=216
def fn_spec_l8GroupOk:Nat:=161
def fn_spec_MaskHas:Nat:=98
def fn_spec_MaskAnd:Nat:=128
def fn_spec_l8Pins:Nat:=129
def fn_spec_l8Where:Nat:=57
def fn_spec_WeightOf:Nat:=76
def fn_spec_VirtualStep:Nat:=170
def fn_spec_LagMost:Nat:=207
def fn_spec_l8Stand:Nat:=217
def fn_spec_l8TaskOk:Nat:=162
def fn_spec_l8Queued:Nat:=179
def fn_spec_l8Active:Nat:=176
def fn_spec_l8Dry:Nat:=177
def fn_spec_l8ShelfOk:Nat:=163
def fn_spec_l8InLine:Nat:=102
def fn_spec_l8Stayed:Nat:=218
def fn_spec_l8CpuOk:Nat:=164
def fn_spec_WorldOk:Nat:=87
def fn_spec_l5Own:Nat:=165
def fn_spec_l8Own:Nat:=88
def fn_spec_l8Half:Nat:=166
def fn_spec_WorldRoom:Nat:=89
def fn_spec_l10Begin:Nat:=26
def fn_spec_l8End:Nat:=30
def fn_spec_l1Max:Nat:=144
def fn_spec_l1Min:Nat:=169
def fn_spec_LagCut:Nat:=141
def fn_spec_l8Lines:Nat:=99
def fn_spec_l5Wet:Nat:=219
def fn_spec_BandDo:Nat:=168
def fn_spec_l8Give:Nat:=100
def fn_spec_l8Least:Nat:=178
def fn_spec_l8Floors:Nat:=101
def fn_spec_l8Settle:Nat:=31
def fn_spec_l10Lag:Nat:=130
def fn_spec_l10Put:Nat:=58
def fn_laws_toCpu:Nat:=104
def fn_laws_toCpuS:Nat:=33
def fn_laws_toTask:Nat:=105
def fn_laws_toTaskS:Nat:=34
def fn_laws_toIntS:Nat:=225
def fn_laws_toBoolS:Nat:=226
def fn_laws_toBand:Nat:=180
def fn_laws_toShelf:Nat:=227
def fn_laws_toShelfS:Nat:=181
def fn_laws_toGroup:Nat:=106
def fn_laws_toGroupS:Nat:=35
def fn_laws_toWorld:Nat:=10
def fn_impl_cpuSet_members:Nat:=107
def fn_impl_MaskCount:Nat:=37
def fn_impl_World_online:Nat:=38
def fn_impl_inRange:Nat:=134
def fn_impl_timeOk:Nat:=232
def fn_impl_groupUsed:Nat:=82
def fn_impl_NameOk:Nat:=255
def fn_impl_node_depth:Nat:=256
def fn_impl_nodes:Nat:=250
def fn_impl_TreeOk:Nat:=233
def fn_impl_World_shapeOk:Nat:=194
def fn_impl_cpuSet_ok:Nat:=212
def fn_impl_MaskOk:Nat:=157
def fn_impl_maskFull:Nat:=81
def fn_impl_bandZero:Nat:=251
def fn_impl_groupZero:Nat:=234
def fn_impl_weightOk:Nat:=235
def fn_impl_BandOk:Nat:=252
def fn_impl_World_quotaOk:Nat:=236
def fn_impl_World_groupsOk:Nat:=195
def fn_impl_MaskAnd:Nat:=159
def fn_impl_World_pins:Nat:=158
def fn_impl_World_allowedIn:Nat:=85
def fn_impl_World_allowed:Nat:=65
def fn_impl_World_lane:Nat:=67
def fn_impl_niceOk:Nat:=80
def fn_impl_lane_shelf:Nat:=86
def fn_impl_cpuSet_has:Nat:=183
def fn_impl_MaskHas:Nat:=110
def fn_impl_WeightOf:Nat:=205
def fn_impl_loadOk:Nat:=237
def fn_impl_weightSteps:Nat:=253
def fn_impl_VirtualStep:Nat:=239
def fn_impl_LagMost:Nat:=204
def fn_impl_placed:Nat:=238
def fn_impl_World_tasksOk:Nat:=196
def fn_impl_lane_queues:Nat:=186
def fn_impl_lane_holds:Nat:=187
def fn_impl_lane_active:Nat:=113
def fn_impl_lane_dry:Nat:=185
def fn_impl_World_shelvesOk:Nat:=197
def fn_impl_World_taskThere:Nat:=61
def fn_impl_lane_inLine:Nat:=116
def fn_impl_World_cpusOk:Nat:=198
def fn_impl_WorldOk:Nat:=131
def fn_impl_bandCopy:Nat:=199
def fn_impl_worldCopy:Nat:=132
def fn_errors_As:Nat:=133
def fn_impl_attempt:Nat:=59
def fn_impl_lane_cpu:Nat:=41
def fn_impl_lane_endSlice:Nat:=42
def fn_impl_LagCut:Nat:=138
def fn_impl_World_floor:Nat:=139
def fn_impl_World_weight:Nat:=140
def fn_impl_World_put:Nat:=66
def fn_impl_World_depth:Nat:=184
def fn_impl_lane_switchGroups:Nat:=112
def fn_impl_Band_wet:Nat:=228
def fn_impl_Band_refills:Nat:=188
def fn_impl_Band_takes:Nat:=189
def fn_impl_Band_spends:Nat:=190
def fn_impl_Band_returns:Nat:=191
def fn_impl_Band_do:Nat:=114
def fn_impl_lane_rise:Nat:=115
def fn_impl_World_settle:Nat:=44
def fn_laws_eqCpu:Nat:=117
def fn_laws_eqCpuS:Nat:=45
def fn_laws_eqTask:Nat:=118
def fn_laws_eqTaskS:Nat:=46
def fn_laws_eqIntS:Nat:=229
def fn_laws_eqBoolS:Nat:=230
def fn_laws_eqBand:Nat:=192
def fn_laws_eqShelf:Nat:=231
def fn_laws_eqShelfS:Nat:=193
def fn_laws_eqGroup:Nat:=119
def fn_laws_eqGroupS:Nat:=47
def fn_laws_eqWorld:Nat:=12
def fn_laws_markCpuS:Nat:=48
def fn_laws_markTaskS:Nat:=49
def fn_laws_markText:Nat:=120
def fn_laws_markIntS:Nat:=121
def fn_laws_markBoolS:Nat:=122
def fn_laws_markShelfS:Nat:=123
def fn_laws_markGroupS:Nat:=50
def fn_laws_markWorld:Nat:=13
def fn_laws_heldCpuS:Nat:=51
def fn_laws_heldTaskS:Nat:=52
def fn_laws_heldIntS:Nat:=124
def fn_laws_heldBoolS:Nat:=125
def fn_laws_heldShelfS:Nat:=126
def fn_laws_heldGroupS:Nat:=53
def fn_laws_heldWorld:Nat:=14
def fn_spec_l8Task:Nat:=54
def fn_spec_l10Ready:Nat:=55
def fn_spec_l10Loads:Nat:=127
def fn_spec_l10Place:Nat:=56
def fn_spec_TaskWake:Nat:=15
def fn_impl_TaskWake:Nat:=16
def fn_laws_FnExactTaskWake:Nat:=4
def fn_impl_early:Nat:=135
def fn_impl_World_room:Nat:=62
def fn_impl_World_crowd:Nat:=63
def fn_impl_best_int:Nat:=136
def fn_impl_World_bestCpu:Nat:=64
def fn_impl_TaskWake_1:Nat:=60
def fn_impl_World_bestCpu_1:Nat:=137
def fn_impl_cpuSet_members_1:Nat:=182
noncomputable def tbl:List (TypeId×Ty):=[
 (2,⟨false,[.int .i64],.int .i64⟩),
 (3,⟨false,[.int .i64],.int .i64⟩),
 (4,⟨false,[.bool],.bool⟩),
 (5,⟨false,[.int .u8],.int .u8⟩),
 (6,⟨false,[.int .u8],.int .u8⟩),
 (7,⟨true,[.int .i64,.int .i64,.bool,.int .u8],.struct [(0,false,1),(1,false,1),(2,false,1),(3,false,1)]⟩),
 (8,⟨true,[.int .i64,.int .i64,.bool,.int .u8],.struct [(0,false,1),(1,false,1),(2,false,1),(3,false,1)]⟩),
 (9,⟨false,[.str],.str⟩),
 (10,⟨false,[.str],.str⟩),
 (11,⟨false,[.str],.str⟩),
 (12,⟨false,[.int .u64],.int .u64⟩),
 (13,⟨true,[.str,.int .u64],.struct [(0,false,1),(1,false,1)]⟩),
 (14,⟨true,[.str,.int .u64],.struct [(0,false,1),(1,false,1)]⟩),
 (15,⟨false,[.ptr],.ptr⟩),
 (16,⟨false,[.ptr],.ptr⟩),
 (17,⟨false,[.ptr],.ptr⟩),
 (18,⟨true,[.ptr],.struct [(0,false,1)]⟩),
 (19,⟨true,[.ptr],.struct [(0,false,1)]⟩),
 (20,⟨false,[.iface],.other⟩),
 (21,⟨false,[.int .i32],.int .i32⟩),
 (22,⟨false,[.slice],.slice 123 5⟩),
 (23,⟨false,[.slice],.slice 125 9⟩),
 (24,⟨false,[.slice],.slice 119 14⟩),
 (25,⟨true,[.int .i64,.slice,.slice,.slice],.struct [(0,false,1),(1,false,1),(2,false,1),(3,false,1)]⟩),
 (26,⟨true,[.int .i64,.slice,.slice,.slice],.struct [(0,false,1),(1,false,1),(2,false,1),(3,false,1)]⟩),
 (28,⟨false,[.slice],.slice 50 5⟩),
 (29,⟨false,[.slice],.slice 79 9⟩),
 (30,⟨false,[.slice],.slice 96 14⟩),
 (31,⟨true,[.int .i64,.slice,.slice,.slice],.struct [(0,false,1),(1,false,1),(2,false,1),(3,false,1)]⟩),
 (32,⟨true,[.int .i64,.slice,.slice,.slice],.struct [(0,false,1),(1,false,1),(2,false,1),(3,false,1)]⟩),
 (49,⟨true,[.bool,.int .i64,.int .i64,.int .i64,.int .i64],.struct [(0,false,1),(1,false,1),(2,false,1),(3,false,1),(4,false,1)]⟩),
 (50,⟨true,[.bool,.int .i64,.int .i64,.int .i64,.int .i64],.struct [(0,false,1),(1,false,1),(2,false,1),(3,false,1),(4,false,1)]⟩),
 (58,⟨false,[.ptr],.ptr⟩),
 (59,⟨false,[.iface],.other⟩),
 (60,⟨false,[.iface],.other⟩),
 (62,⟨true,[.int .i64],.struct [(0,false,1)]⟩),
 (63,⟨true,[.int .i64],.struct [(0,false,1)]⟩),
 (66,⟨true,[.ptr,.int .i64],.struct [(0,false,1),(1,false,1)]⟩),
 (67,⟨true,[.ptr,.int .i64],.struct [(0,false,1),(1,false,1)]⟩),
 (68,⟨false,[.ptr],.ptr⟩),
 (78,⟨true,[.int .i64,.int .i64,.int .i64,.int .i64,.int .i64,.int .i64,.int .i64,.int .i64,.int .i64],.struct [(0,false,1),(1,false,1),(2,false,1),(3,false,1),(4,false,1),(5,false,1),(6,false,1),(7,false,1),(8,false,1)]⟩),
 (79,⟨true,[.int .i64,.int .i64,.int .i64,.int .i64,.int .i64,.int .i64,.int .i64,.int .i64,.int .i64],.struct [(0,false,1),(1,false,1),(2,false,1),(3,false,1),(4,false,1),(5,false,1),(6,false,1),(7,false,1),(8,false,1)]⟩),
 (84,⟨false,[.ptr],.ptr⟩),
 (90,⟨false,[.slice],.slice 3 1⟩),
 (91,⟨false,[.slice],.slice 4 1⟩),
 (92,⟨true,[.int .i64,.int .i64,.int .i64,.slice,.slice],.struct [(0,false,1),(1,false,1),(2,false,1),(3,false,1),(4,false,1)]⟩),
 (93,⟨true,[.int .i64,.int .i64,.int .i64,.slice,.slice],.struct [(0,false,1),(1,false,1),(2,false,1),(3,false,1),(4,false,1)]⟩),
 (94,⟨false,[.slice],.slice 102 5⟩),
 (95,⟨true,[.bool,.int .i64,.str,.int .i64,.int .i64,.int .i64,.int .i64,.int .i64,.int .i64,.int .i64,.int .i64,.slice,.slice,.slice],.struct [(0,false,1),(1,false,1),(2,false,1),(3,false,1),(4,false,1),(5,false,1),(6,false,1),(7,false,1),(8,true,5),(13,false,1)]⟩),
 (96,⟨true,[.bool,.int .i64,.str,.int .i64,.int .i64,.int .i64,.int .i64,.int .i64,.int .i64,.int .i64,.int .i64,.slice,.slice,.slice],.struct [(0,false,1),(1,false,1),(2,false,1),(3,false,1),(4,false,1),(5,false,1),(6,false,1),(7,false,1),(8,true,5),(13,false,1)]⟩),
 (101,⟨true,[.int .i64,.bool,.int .i64,.int .i64,.int .i64],.struct [(0,false,1),(1,false,1),(2,false,1),(3,false,1),(4,false,1)]⟩),
 (102,⟨true,[.int .i64,.bool,.int .i64,.int .i64,.int .i64],.struct [(0,false,1),(1,false,1),(2,false,1),(3,false,1),(4,false,1)]⟩),
 (106,⟨false,[.ptr],.ptr⟩),
 (116,⟨true,[.int .i64,.int .i64,.int .i64,.slice,.slice],.struct [(0,false,1),(1,false,1),(2,false,1),(3,false,1),(4,false,1)]⟩),
 (117,⟨false,[.slice],.slice 183 5⟩),
 (118,⟨true,[.bool,.int .i64,.str,.int .i64,.int .i64,.int .i64,.int .i64,.int .i64,.int .i64,.int .i64,.int .i64,.slice,.slice,.slice],.struct [(0,false,1),(1,false,1),(2,false,1),(3,false,1),(4,false,1),(5,false,1),(6,false,1),(7,false,1),(8,true,5),(13,false,1)]⟩),
 (119,⟨true,[.bool,.int .i64,.str,.int .i64,.int .i64,.int .i64,.int .i64,.int .i64,.int .i64,.int .i64,.int .i64,.slice,.slice,.slice],.struct [(0,false,1),(1,false,1),(2,false,1),(3,false,1),(4,false,1),(5,false,1),(6,false,1),(7,false,1),(8,true,5),(13,false,1)]⟩),
 (121,⟨false,[.int .u64],.int .u64⟩),
 (123,⟨true,[.bool,.int .i64,.int .i64,.int .i64,.int .i64],.struct [(0,false,1),(1,false,1),(2,false,1),(3,false,1),(4,false,1)]⟩),
 (125,⟨true,[.int .i64,.int .i64,.int .i64,.int .i64,.int .i64,.int .i64,.int .i64,.int .i64,.int .i64],.struct [(0,false,1),(1,false,1),(2,false,1),(3,false,1),(4,false,1),(5,false,1),(6,false,1),(7,false,1),(8,false,1)]⟩),
 (129,⟨false,[.int .i64],.int .i64⟩),
 (131,⟨false,[.ptr],.ptr⟩),
 (133,⟨true,[.int .i64,.int .i64,.int .i64],.struct [(0,false,1),(1,false,1),(2,false,1)]⟩),
 (134,⟨true,[.int .i64,.int .i64,.int .i64],.struct [(0,false,1),(1,false,1),(2,false,1)]⟩),
 (143,⟨false,[.ptr],.ptr⟩),
 (163,⟨false,[.slice],.slice 5 1⟩),
 (165,⟨true,[.fn,.fn,.fn,.fn,.fn],.arr 5 1 false⟩),
 (166,⟨false,[.ptr],.other⟩),
 (167,⟨false,[.int .u64],.int .u64⟩),
 (168,⟨true,[.ptr,.ptr,.int .u64],.struct [(0,false,1),(1,false,1),(2,false,1)]⟩),
 (169,⟨true,[.ptr,.ptr,.int .u64],.struct [(0,false,1),(1,false,1),(2,false,1)]⟩),
 (171,⟨false,[.iface],.other⟩),
 (172,⟨false,[.iface],.other⟩),
 (174,⟨false,[.int .u8],.int .u8⟩),
 (183,⟨true,[.int .i64,.bool,.int .i64,.int .i64,.int .i64],.struct [(0,false,1),(1,false,1),(2,false,1),(3,false,1),(4,false,1)]⟩),
 (188,⟨true,[.ptr],.struct [(0,false,1)]⟩),
 (189,⟨true,[.ptr],.struct [(0,false,1)]⟩),
 (190,⟨false,[.ptr],.ptr⟩),
 (194,⟨false,[.iface],.other⟩),
 (197,⟨false,[.iface],.other⟩),
 (199,⟨false,[.iface],.other⟩),
 (200,⟨false,[.slice],.slice 60 1⟩),
 (202,⟨true,[.bool,.bool,.bool,.bool],.arr 4 1 false⟩),
 (203,⟨true,[.bool,.bool,.bool,.bool],.arr 4 1 false⟩),
 (205,⟨false,[.slice],.slice 208 1⟩),
 (207,⟨false,[.iface],.other⟩),
 (208,⟨false,[.iface],.other⟩),
 (211,⟨true,[.int .i64,.int .i64,.int .i64,.int .i64,.int .i64,.int .i64,.int .i64,.int .i64,.int .i64,.int .i64],.struct [(0,false,1),(1,true,9)]⟩),
 (212,⟨true,[.int .i64,.int .i64,.int .i64,.int .i64,.int .i64,.int .i64,.int .i64,.int .i64,.int .i64,.int .i64],.struct [(0,false,1),(1,true,9)]⟩),
 (213,⟨true,[.int .i64,.int .i64,.bool,.int .i64,.int .i64,.int .i64],.struct [(0,false,1),(1,true,5)]⟩),
 (214,⟨true,[.int .i64,.int .i64,.bool,.int .i64,.int .i64,.int .i64],.struct [(0,false,1),(1,true,5)]⟩),
 (215,⟨true,[.int .i64],.struct [(0,false,1)]⟩),
 (216,⟨true,[.int .i64],.struct [(0,false,1)]⟩),
 (218,⟨false,[.slice],.slice 223 1⟩),
 (221,⟨true,[.int .i64,.int .i64,.int .i64,.int .i64,.int .i64,.int .i64,.int .i64,.int .i64,.int .i64,.int .i64,.int .i64,.int .i64,.int .i64,.int .i64,.int .i64,.int .i64,.int .i64,.int .i64,.int .i64,.int .i64,.int .i64],.arr 21 1 false⟩),
 (223,⟨false,[.ptr],.ptr⟩),
 (224,⟨true,[.int .i64,.str,.ptr],.struct [(0,false,1),(1,false,1),(2,false,1)]⟩),
 (225,⟨true,[.int .i64,.str,.ptr],.struct [(0,false,1),(1,false,1),(2,false,1)]⟩),
 (226,⟨false,[.map],.other⟩),
 (227,⟨true,[.int .i64,.str],.struct [(0,false,1),(1,false,1)]⟩),
 (228,⟨true,[.int .i64,.str],.struct [(0,false,1),(1,false,1)]⟩),
 (230,⟨true,[.ptr,.ptr,.ptr,.str],.struct [(0,false,1),(1,false,1),(2,false,1),(3,false,1)]⟩),
 (231,⟨true,[.ptr,.ptr,.ptr,.str],.struct [(0,false,1),(1,false,1),(2,false,1),(3,false,1)]⟩),
 (232,⟨true,[],.arr 0 1 false⟩),
 (233,⟨true,[],.other⟩),
 (234,⟨true,[],.other⟩),
 (236,⟨false,[.int .u32],.int .u32⟩),
 (237,⟨false,[.int .u8],.int .u8⟩),
 (239,⟨false,[.ptr],.ptr⟩),
 (240,⟨false,[.int .i32],.int .i32⟩),
 (241,⟨false,[.int .i32],.int .i32⟩),
 (242,⟨true,[.int .u64,.int .u64,.int .u32,.int .u8,.int .u8,.int .u8,.int .u8,.fn,.ptr,.int .i32,.int .i32],.struct [(0,false,1),(1,false,1),(2,false,1),(3,false,1),(4,false,1),(5,false,1),(6,false,1),(7,false,1),(8,false,1),(9,false,1),(10,false,1)]⟩),
 (243,⟨true,[.int .u64,.int .u64,.int .u32,.int .u8,.int .u8,.int .u8,.int .u8,.fn,.ptr,.int .i32,.int .i32],.struct [(0,false,1),(1,false,1),(2,false,1),(3,false,1),(4,false,1),(5,false,1),(6,false,1),(7,false,1),(8,false,1),(9,false,1),(10,false,1)]⟩),
 (246,⟨true,[.str,.int .u8],.struct [(0,false,1),(1,false,1)]⟩),
 (247,⟨true,[.str,.int .u8],.struct [(0,false,1),(1,false,1)]⟩),
 (249,⟨false,[.ptr],.ptr⟩),
 (250,⟨true,[.bool,.int .i64],.struct [(0,false,1),(1,false,1)]⟩),
 (251,⟨true,[.bool,.int .i64],.struct [(0,false,1),(1,false,1)]⟩),
 (253,⟨false,[.int .u16],.int .u16⟩),
 (254,⟨true,[.int .i32,.int .u16,.int .u16,.int .u32,.int .u32],.struct [(0,false,1),(1,false,1),(2,false,1),(3,false,1),(4,false,1)]⟩),
 (255,⟨true,[.int .i32,.int .u16,.int .u16,.int .u32,.int .u32],.struct [(0,false,1),(1,false,1),(2,false,1),(3,false,1),(4,false,1)]⟩),
 (256,⟨false,[.slice],.slice 259 4⟩),
 (257,⟨false,[.int .i32],.int .i32⟩),
 (258,⟨true,[.int .i32,.int .i32,.int .i32,.int .i32],.struct [(0,false,1),(1,false,1),(2,false,1),(3,false,1)]⟩),
 (259,⟨true,[.int .i32,.int .i32,.int .i32,.int .i32],.struct [(0,false,1),(1,false,1),(2,false,1),(3,false,1)]⟩),
 (260,⟨false,[.ptr],.ptr⟩)]++[1,27,34,35,36,37,38,40,41,42,43,44,45,46,47,48,51,52,53,54,55,56,57,61,64,65,69,70,71,72,73,74,75,76,77,80,81,82,83,85,87,88,89,97,99,100,103,104,105,107,108,109,111,112,113,114,115,120,122,124,126,127,128,130,132,135,136,137,138,139,140,141,142,144,145,146,147,148,149,150,151,152,154,155,156,157,158,159,160,161,162,164,170,173,175,176,177,178,179,180,181,182,184,185,186,187,191,192,193,196,198,201,204,206,209,210,220,222,229,235,238,244,245,248,252].map (fun t=>(t,⟨false,[.fn],.other⟩))++[0,33,39,86,98,110,153,195,217,219].map fun t=>(t,⟨false,[.other],.other⟩)
noncomputable def pfT:List (Nat×List RK):=[
 (23,[.cell (.int .i64)]),
 (24,[.cell (.int .i64)]),
 (223,[.cell (.int .i64)]),
 (224,[.cell (.int .i64)]),
 (173,[.cell (.int .i64)]),
 (174,[.cell (.int .i64)]),
 (97,[.cell (.int .i64)]),
 (25,[.cell (.int .i64)]),
 (8,[.cell (.int .i64)]),
 (27,[.cell .bool]),
 (29,[.cell (.int .i64)]),
 (78,[.cell .bool]),
 (175,[.cell (.int .i64)]),
 (244,[.cell .bool]),
 (213,[.cell .bool]),
 (160,[.cell .bool]),
 (77,[.cell .bool]),
 (206,[.cell .bool]),
 (214,[.cell .bool]),
 (215,[.cell .bool]),
 (216,[.cell .bool]),
 (161,[.cell .bool]),
 (98,[.cell .bool]),
 (128,[.cell (.int .i64)]),
 (129,[.cell (.int .i64)]),
 (57,[.cell (.int .i64)]),
 (76,[.cell (.int .i64)]),
 (170,[.cell (.int .i64)]),
 (207,[.cell (.int .i64)]),
 (217,[.cell .bool]),
 (162,[.cell .bool]),
 (179,[.cell .bool]),
 (176,[.cell .bool]),
 (177,[.cell .bool]),
 (163,[.cell .bool]),
 (102,[.cell .bool]),
 (218,[.cell .bool]),
 (164,[.cell .bool]),
 (87,[.cell .bool]),
 (166,[.cell .bool]),
 (89,[.cell .bool]),
 (28,[.cell (.int .i64)]),
 (144,[.cell (.int .i64)]),
 (169,[.cell (.int .i64)]),
 (141,[.cell (.int .i64)]),
 (178,[.cell (.int .i64),.cell .bool]),
 (130,[.cell (.int .i64)]),
 (103,[.cell (.int .i64)]),
 (104,[.agg [.bool,.int .i64,.int .i64,.int .i64,.int .i64]]),
 (105,[.agg [.int .i64,.int .i64,.int .i64,.int .i64,.int .i64,.int .i64,.int .i64,.int .i64,.int .i64]]),
 (227,[.agg [.int .i64,.bool,.int .i64,.int .i64,.int .i64]]),
 (38,[.cell (.int .i64)]),
 (134,[.cell .bool]),
 (232,[.cell .bool]),
 (82,[.cell .bool]),
 (255,[.cell .bool]),
 (256,[.cell (.int .i64)]),
 (233,[.cell .bool]),
 (194,[.cell .bool]),
 (212,[.cell .bool]),
 (157,[.cell .bool]),
 (81,[.cell .bool]),
 (251,[.cell .bool]),
 (234,[.cell .bool]),
 (235,[.cell .bool]),
 (252,[.cell .bool]),
 (236,[.cell .bool]),
 (195,[.cell .bool]),
 (159,[.cell (.int .i64)]),
 (158,[.cell (.int .i64)]),
 (85,[.cell (.int .i64)]),
 (65,[.cell (.int .i64)]),
 (67,[.agg [.ptr,.int .i64]]),
 (80,[.cell .bool]),
 (86,[.cell .ptr]),
 (183,[.cell .bool]),
 (110,[.cell .bool]),
 (205,[.cell (.int .i64)]),
 (237,[.cell .bool]),
 (253,[.agg [.int .i64,.int .i64,.int .i64,.int .i64,.int .i64,.int .i64,.int .i64,.int .i64,.int .i64,.int .i64,.int .i64,.int .i64,.int .i64,.int .i64,.int .i64,.int .i64,.int .i64,.int .i64,.int .i64,.int .i64,.int .i64]]),
 (239,[.cell (.int .i64)]),
 (204,[.cell (.int .i64)]),
 (238,[.cell .bool]),
 (196,[.cell .bool]),
 (186,[.cell .bool]),
 (187,[.cell .bool]),
 (113,[.cell .bool]),
 (185,[.cell .bool]),
 (197,[.cell .bool]),
 (61,[.cell .bool]),
 (116,[.cell .bool]),
 (198,[.cell .bool]),
 (131,[.cell .bool]),
 (41,[.cell .ptr]),
 (138,[.cell (.int .i64)]),
 (139,[.cell (.int .i64)]),
 (140,[.cell (.int .i64)]),
 (184,[.cell (.int .i64)]),
 (117,[.cell .bool]),
 (45,[.cell .bool]),
 (118,[.cell .bool]),
 (46,[.cell .bool]),
 (229,[.cell .bool]),
 (230,[.cell .bool]),
 (192,[.cell .bool]),
 (231,[.cell .bool]),
 (193,[.cell .bool]),
 (119,[.cell .bool]),
 (47,[.cell .bool]),
 (12,[.cell .bool]),
 (120,[.cell .str]),
 (51,[.cell (.int .i64)]),
 (52,[.cell (.int .i64)]),
 (124,[.cell (.int .i64)]),
 (125,[.cell (.int .i64)]),
 (126,[.cell (.int .i64)]),
 (53,[.cell (.int .i64)]),
 (14,[.cell (.int .i64)]),
 (54,[.cell .bool]),
 (55,[.cell (.int .i64)]),
 (127,[.cell (.int .i64)]),
 (56,[.cell (.int .i64)]),
 (142,[.cell .bool]),
 (143,[.cell (.int .i64)]),
 (69,[.cell (.int .i64)]),
 (145,[.cell (.int .i64)]),
 (148,[.cell .bool]),
 (208,[.cell (.int .i64)]),
 (146,[.cell (.int .i64)]),
 (147,[.cell (.int .i64)]),
 (149,[.cell .bool]),
 (70,[.cell (.int .i64)]),
 (71,[.cell .iface]),
 (167,[.cell (.int .i64)]),
 (90,[.cell (.int .i64)]),
 (93,[.cell (.int .i64)]),
 (96,[]),
 (135,[.cell .bool]),
 (62,[.cell .bool]),
 (63,[.cell (.int .i64),.cell (.int .i64)]),
 (150,[.cell .bool]),
 (152,[.cell (.int .i64)]),
 (151,[.cell (.int .i64)]),
 (74,[.cell (.int .i64)]),
 (153,[.cell (.int .i64)]),
 (154,[.cell (.int .i64)]),
 (155,[.cell (.int .i64)]),
 (156,[.cell .bool]),
 (75,[.cell (.int .i64),.cell .bool]),
 (84,[.cell .bool]),
 (109,[.cell .bool]),
 (137,[.cell .bool]),
 (254,[.cell .bool]),
 (248,[.cell (.int .i64)]),
 (220,[.cell (.int .i64)]),
 (243,[.agg [.bool,.bool,.bool,.bool]]),
 (210,[.cell (.int .i64)]),
 (211,[.cell .bool]),
 (290,[.cell (.int .i64)]),
 (293,[.cell (.int .i64)])]
noncomputable def efT:List (Nat×List RK):=[
 (2,[]),
 (165,[.agg [.int .i64,.int .i64,.int .i64,.slice,.slice]]),
 (88,[.agg [.int .i64,.slice,.slice,.slice]]),
 (26,[.agg [.int .i64,.slice,.slice,.slice],.cell (.int .i64)]),
 (30,[.agg [.int .i64,.slice,.slice,.slice]]),
 (99,[.agg [.int .i64,.slice,.slice,.slice]]),
 (219,[.agg [.int .i64,.int .i64,.int .i64,.slice,.slice]]),
 (168,[.agg [.int .i64,.int .i64,.int .i64,.slice,.slice],.cell (.int .i64)]),
 (100,[.agg [.int .i64,.slice,.slice,.slice]]),
 (101,[.agg [.int .i64,.slice,.slice,.slice]]),
 (31,[.agg [.int .i64,.slice,.slice,.slice]]),
 (58,[.agg [.int .i64,.slice,.slice,.slice]]),
 (32,[.agg [.int .i64,.slice,.slice,.slice]]),
 (9,[.agg [.int .i64,.slice,.slice,.slice],.cell (.int .i64)]),
 (33,[.cell .slice]),
 (34,[.cell .slice]),
 (225,[.cell .slice]),
 (226,[.cell .slice]),
 (180,[.agg [.int .i64,.int .i64,.int .i64,.slice,.slice]]),
 (181,[.cell .slice]),
 (106,[.agg [.bool,.int .i64,.str,.int .i64,.int .i64,.int .i64,.int .i64,.int .i64,.int .i64,.int .i64,.int .i64,.slice,.slice,.slice]]),
 (35,[.cell .slice]),
 (10,[.agg [.int .i64,.slice,.slice,.slice]]),
 (107,[.cell .fn]),
 (37,[.cell (.int .i64)]),
 (36,[.cell .iface]),
 (250,[.cell .slice,.cell .bool]),
 (199,[.agg [.int .i64,.int .i64,.int .i64,.slice,.slice]]),
 (132,[.agg [.int .i64,.slice,.slice,.slice]]),
 (203,[.cell .bool]),
 (133,[.cell .bool]),
 (59,[.agg [.int .i64,.slice,.slice,.slice],.cell (.int .i64)]),
 (39,[.agg [.int .i64,.slice,.slice,.slice],.cell (.int .i64)]),
 (42,[]),
 (66,[]),
 (111,[.cell (.int .i64)]),
 (43,[]),
 (112,[]),
 (228,[]),
 (188,[.cell (.int .i64)]),
 (189,[.cell (.int .i64)]),
 (190,[.cell (.int .i64)]),
 (191,[.cell (.int .i64)]),
 (114,[.cell (.int .i64)]),
 (115,[]),
 (44,[]),
 (40,[]),
 (11,[.agg [.int .i64,.slice,.slice,.slice],.cell (.int .i64)]),
 (48,[.cell (.int .i64)]),
 (49,[.cell (.int .i64)]),
 (121,[.cell (.int .i64)]),
 (122,[.cell (.int .i64)]),
 (123,[.cell (.int .i64)]),
 (50,[.cell (.int .i64)]),
 (13,[.cell (.int .i64)]),
 (3,[.cell .bool]),
 (15,[.agg [.int .i64,.slice,.slice,.slice],.cell (.int .i64)]),
 (16,[.agg [.int .i64,.slice,.slice,.slice],.cell (.int .i64)]),
 (4,[.cell .bool]),
 (68,[.agg [.int .i64,.slice,.slice,.slice]]),
 (91,[.cell .slice]),
 (17,[.agg [.int .i64,.slice,.slice,.slice],.cell (.int .i64)]),
 (18,[.agg [.int .i64,.slice,.slice,.slice],.cell (.int .i64)]),
 (5,[.cell .bool]),
 (19,[.agg [.int .i64,.slice,.slice,.slice],.cell (.int .i64),.cell (.int .i64)]),
 (20,[.agg [.int .i64,.slice,.slice,.slice],.cell (.int .i64),.cell (.int .i64)]),
 (6,[.cell .bool]),
 (92,[.agg [.int .i64,.slice,.slice,.slice],.cell .bool]),
 (94,[.agg [.int .i64,.slice,.slice,.slice]]),
 (21,[.agg [.int .i64,.slice,.slice,.slice],.cell (.int .i64)]),
 (95,[.agg [.int .i64,.slice,.slice,.slice],.cell (.int .i64)]),
 (22,[.agg [.int .i64,.slice,.slice,.slice],.cell (.int .i64)]),
 (7,[.cell .bool]),
 (136,[.cell (.int .i64),.cell .bool]),
 (64,[.cell (.int .i64)]),
 (60,[.cell .iface]),
 (73,[]),
 (72,[]),
 (83,[.cell (.int .i64)]),
 (79,[.cell .iface]),
 (108,[.cell .iface]),
 (245,[.cell .slice]),
 (246,[.cell .iface]),
 (247,[.cell (.int .i64)]),
 (221,[.cell .bool]),
 (222,[.cell (.int .i64)]),
 (172,[]),
 (171,[.cell .iface]),
 (182,[]),
 (209,[]),
 (249,[]),
 (299,[])]
noncomputable def ttT:List (Nat×List RK):=[(0,[]),(98,[.cell (.int .i64),.cell .bool])]
def bodyOf (f:Func):Code:=match f.body with
 | some c=>c
 | none=>.skip
theorem asc_mem {β:Type}:∀{l:List (Nat×β)} {f:Nat} {k:β},asc l f=some k→(f,k)∈l
 | [],f,k,h=>by cases h
 | p::r,f,k,h=>by
  simp only [asc] at h
  cases hb:Nat.beq p.1 f with
  | true =>
   rw [hb] at h
   simp only [cond_true,Option.some.injEq] at h
   have:p.1=f:=Nat.eq_of_beq_eq_true hb
   rw [←this,←h]; exact List.mem_cons_self
  | false =>
   rw [hb] at h
   exact List.mem_cons_of_mem _ (asc_mem h)
theorem tbl_ok:tblOk Tryz.prog tbl=true:=by kernel_rfl
theorem pf_ok:(pfT.all fun p=>callableB Tryz.prog p.1)=true:=by kernel_rfl
theorem ef_ok:(efT.all fun p=>callableB Tryz.prog p.1)=true:=by kernel_rfl
theorem mixed_ok:Tryz.prog.follows .mixedOrders=true:=by kernel_rfl
theorem tok:TOk Tryz.prog (tblGet tbl):=tOk_of (l:=tbl) tbl_ok
theorem pok (f:Nat) (ks:List RK) (h:asc pfT f=some ks):Callable Tryz.prog f:=callable_of (List.all_eq_true.1 pf_ok (f,ks) (asc_mem h))
theorem eok (f:Nat) (ks:List RK) (h:asc efT f=some ks):Callable Tryz.prog f:=callable_of (List.all_eq_true.1 ef_ok (f,ks) (asc_mem h))
theorem env (vis:List Nat) (n:Nat) (pm wr:Bool) (rd:Option Nat):Env { P:=Tryz.prog,T:=tblGet tbl,pf:=pfT,ef:=efT,tt:=ttT,vis:=vis,n:=n,pm:=pm,wr:=wr,rd:=rd } :=
 ⟨tok,pok,eok,mixed_ok⟩
noncomputable def cfgOf (vis:List Nat) (n:Nat) (pm wr:Bool):Cfg:={ P:=Tryz.prog,T:=tblGet tbl,pf:=pfT,ef:=efT,tt:=ttT,vis:=vis,n:=n,pm:=pm,wr:=wr }
def fits (fn:Func) (n:Nat):Bool:=Nat.ble n fn.ntmps&&Nat.ble fn.ntmps 4000&&fn.body.isSome
theorem fits_t {fn:Func} {n:Nat} (h:fits fn n=true):n≤fn.ntmps∧fn.ntmps≤4000∧fn.body=some (bodyOf fn):=by
 unfold fits at h
 simp only [Bool.and_eq_true] at h
 refine ⟨Nat.le_of_ble_eq_true h.1.1,Nat.le_of_ble_eq_true h.1.2,?_⟩
 cases hb:fn.body with
 | none=>rw [hb] at h; cases h.2
 | some c=>simp [bodyOf,hb]
abbrev PuV (V:World→(Value→World→Prop)→Prop) (f:FuncId) (args:Array Value):Prop:=∀{w:World} {bs:List Nat} {ret:Value},(∀wr0,ExtX bs w wr0→V wr0 fun v0 _=>v0=ret)→PureX bs Tryz.prog f args w ret
abbrev EfV (V:World→(Value→World→Prop)→Prop) (f:FuncId) (args:Array Value):Prop:=∀{w:World} {R:Value→World→Prop},V w R→Calls Tryz.prog f args w fun e0 wr0=>∃v0,e0 = .returned v0∧R v0 wr0
theorem pV (vis:List Nat) (wr:Bool) (sps:List (Nat×LSpec)) {f:FuncId} {fn:Func} {args:List Value} {V:World→(Value→World→Prop)→Prop} (hf:Tryz.prog.funcs[f]? = some fn) (hk:fits fn args.length=true) (hV:evFn (cfgOf vis fn.ntmps true wr) sps args (bodyOf fn) fn.results.toList=V):PuV V f args.toArray:=fun {w bs ret} hvc =>
 pure_of_ev (C:=cfgOf vis fn.ntmps true wr) (sps:=sps) (env _ _ _ _ _) hf (fits_t hk).2.2 rfl (fits_t hk).1 (fits_t hk).2.1 rfl rfl fun wr0 hx0=>by rw [hV]; exact hvc wr0 hx0
theorem eV (vis:List Nat) (wr:Bool) (sps:List (Nat×LSpec)) {f:FuncId} {fn:Func} {args:List Value} {V:World→(Value→World→Prop)→Prop} (hf:Tryz.prog.funcs[f]? = some fn) (hk:fits fn args.length=true) (hV:evFn (cfgOf vis fn.ntmps false wr) sps args (bodyOf fn) fn.results.toList=V):EfV V f args.toArray:=fun {w R} hvc =>
 eff_of_ev (C:=cfgOf vis fn.ntmps false wr) (sps:=sps) (env _ _ _ _ _) hf (fits_t hk).2.2 rfl (fits_t hk).1 (fits_t hk).2.1 rfl rfl (by rw [hV]; exact hvc)
end Go.Proofs.YtajdcjidpolloaaGreatDoor
