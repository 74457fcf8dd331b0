/- Part 5 of what the law FnExactTimePass needs: the engine, the functions' propositions, the contracts. -/
import Derived.Test.YtjjdgognjpmipaaGreatDoorFnExactTimePassPd
import Derived.Test.YtjjdgognjpmipaaGreatDoorProg
import Derived.KernelRfl
namespace Go.Proofs.YtjjdgognjpmipaaGreatDoor
open Go.RowKit
set_option linter.unusedVariables false
set_option maxRecDepth 100000
set_option maxHeartbeats 1600000
def ty_int : TypeId := 3
def ty_bool : TypeId := 4
def ty_uint8 : TypeId := 5
def ty_string : TypeId := 9
def ty_sl_laws_Cpu : TypeId := 22
def ty_sl_laws_Task : TypeId := 23
def ty_sl_laws_Group : TypeId := 24
def ty_laws_World : TypeId := 26
def ty_sl_impl_Cpu : TypeId := 28
def ty_sl_impl_Task : TypeId := 29
def ty_sl_impl_Group : TypeId := 30
def ty_impl_World : TypeId := 32
def ty_impl_Task : TypeId := 49
def ty_impl_Cpu : TypeId := 51
def ty_impl_refusal : TypeId := 63
def ty_impl_Shelf : TypeId := 75
def ty_sl_int : TypeId := 76
def ty_sl_bool : TypeId := 77
def ty_impl_Band : TypeId := 79
def ty_sl_impl_Shelf : TypeId := 80
def ty_impl_Group : TypeId := 82
def ty_laws_Band : TypeId := 99
def ty_sl_laws_Shelf : TypeId := 100
def ty_laws_Group : TypeId := 102
def ty_laws_Cpu : TypeId := 105
def ty_laws_Task : TypeId := 107
def ty_p_impl_refusal : TypeId := 110
def ty_internal_reflectlite_Value : TypeId := 144
def ty_sl_uint8 : TypeId := 156
def ty_laws_Shelf : TypeId := 163
def ty_sl_p_impl_node : TypeId := 184
def ty_p_impl_node : TypeId := 188
def ty_impl_node : TypeId := 190
def ty_map_impl_nodeKey_int : TypeId := 191
def ty_impl_nodeKey : TypeId := 193
def fn_laws_szCpuS : Nat := 20
def fn_laws_szTaskS : Nat := 21
def fn_laws_szIntS : Nat := 151
def fn_laws_szBoolS : Nat := 152
def fn_laws_szBand : Nat := 114
def fn_laws_szShelfS : Nat := 115
def fn_laws_szGroup : Nat := 66
def fn_laws_szGroupS : Nat := 22
def fn_laws_szWorld : Nat := 7
def fn_spec_l1In : Nat := 53
def fn_spec_l6Used : Nat := 102
def fn_spec_l6Depth : Nat := 123
def fn_spec_l6File : Nat := 182
def fn_spec_NameOk : Nat := 153
def fn_spec_TreeOk : Nat := 116
def fn_spec_l8Ups : Nat := 117
def fn_spec_BandOk : Nat := 105
def fn_spec_l1Weight : Nat := 146
def fn_spec_l8NoBand : Nat := 154
def fn_spec_MaskOk : Nat := 155
def fn_spec_l4Time : Nat := 156
def fn_spec_l8GroupOk : Nat := 118
def fn_spec_WeightOf : Nat := 45
def fn_spec_MaskHas : Nat := 157
def fn_spec_MaskAnd : Nat := 183
def fn_spec_l8Pins : Nat := 184
def fn_spec_l8Where : Nat := 158
def fn_spec_VirtualStep : Nat := 180
def fn_spec_LagMost : Nat := 148
def fn_spec_l8Stand : Nat := 159
def fn_spec_l8TaskOk : Nat := 119
def fn_spec_l8Queued : Nat := 127
def fn_spec_l8Active : Nat := 124
def fn_spec_l8Dry : Nat := 125
def fn_spec_l8ShelfOk : Nat := 120
def fn_spec_l8InLine : Nat := 73
def fn_spec_l8Stayed : Nat := 160
def fn_spec_l8CpuOk : Nat := 121
def fn_spec_WorldOk : Nat := 67
def fn_spec_l5Own : Nat := 106
def fn_spec_l8Own : Nat := 68
def fn_spec_l8Half : Nat := 122
def fn_spec_WorldRoom : Nat := 69
def fn_spec_l10Begin : Nat := 23
def fn_spec_l8End : Nat := 25
def fn_spec_l1Min : Nat := 60
def fn_spec_l1Max : Nat := 147
def fn_spec_LagCut : Nat := 98
def fn_spec_l8Lines : Nat := 70
def fn_spec_l5Wet : Nat := 107
def fn_spec_BandDo : Nat := 59
def fn_spec_l8Give : Nat := 71
def fn_spec_l8Least : Nat := 126
def fn_spec_l8Floors : Nat := 72
def fn_spec_l8Settle : Nat := 26
def fn_laws_toCpu : Nat := 74
def fn_laws_toCpuS : Nat := 27
def fn_laws_toTask : Nat := 75
def fn_laws_toTaskS : Nat := 28
def fn_laws_toIntS : Nat := 161
def fn_laws_toBoolS : Nat := 162
def fn_laws_toBand : Nat := 128
def fn_laws_toShelf : Nat := 163
def fn_laws_toShelfS : Nat := 129
def fn_laws_toGroup : Nat := 76
def fn_laws_toGroupS : Nat := 29
def fn_laws_toWorld : Nat := 9
def fn_impl_inRange : Nat := 55
def fn_impl_timeOk : Nat := 164
def fn_impl_World_online : Nat := 165
def fn_impl_groupUsed : Nat := 104
def fn_impl_NameOk : Nat := 191
def fn_impl_node_depth : Nat := 192
def fn_impl_nodes : Nat := 185
def fn_impl_TreeOk : Nat := 166
def fn_impl_World_shapeOk : Nat := 130
def fn_impl_bandZero : Nat := 186
def fn_impl_groupZero : Nat := 167
def fn_impl_weightOk : Nat := 168
def fn_impl_cpuSet_ok : Nat := 193
def fn_impl_MaskOk : Nat := 187
def fn_impl_maskFull : Nat := 169
def fn_impl_BandOk : Nat := 188
def fn_impl_World_quotaOk : Nat := 170
def fn_impl_World_groupsOk : Nat := 131
def fn_impl_niceOk : Nat := 48
def fn_impl_World_lane : Nat := 81
def fn_impl_lane_shelf : Nat := 99
def fn_impl_WeightOf : Nat := 101
def fn_impl_loadOk : Nat := 112
def fn_impl_cpuSet_has : Nat := 189
def fn_impl_MaskHas : Nat := 171
def fn_impl_MaskAnd : Nat := 195
def fn_impl_World_pins : Nat := 194
def fn_impl_World_allowedIn : Nat := 190
def fn_impl_World_allowed : Nat := 172
def fn_impl_weightSteps : Nat := 181
def fn_impl_VirtualStep : Nat := 149
def fn_impl_LagMost : Nat := 100
def fn_impl_placed : Nat := 173
def fn_impl_World_tasksOk : Nat := 132
def fn_impl_lane_queues : Nat := 142
def fn_impl_lane_holds : Nat := 143
def fn_impl_lane_active : Nat := 85
def fn_impl_lane_dry : Nat := 141
def fn_impl_World_shelvesOk : Nat := 133
def fn_impl_World_taskThere : Nat := 32
def fn_impl_lane_inLine : Nat := 87
def fn_impl_World_cpusOk : Nat := 134
def fn_impl_WorldOk : Nat := 77
def fn_impl_bandCopy : Nat := 135
def fn_impl_worldCopy : Nat := 78
def fn_errors_As : Nat := 79
def fn_impl_attempt : Nat := 30
def fn_laws_eqCpu : Nat := 88
def fn_laws_eqCpuS : Nat := 36
def fn_laws_eqTask : Nat := 89
def fn_laws_eqTaskS : Nat := 37
def fn_laws_eqIntS : Nat := 177
def fn_laws_eqBoolS : Nat := 178
def fn_laws_eqBand : Nat := 144
def fn_laws_eqShelf : Nat := 179
def fn_laws_eqShelfS : Nat := 145
def fn_laws_eqGroup : Nat := 90
def fn_laws_eqGroupS : Nat := 38
def fn_laws_eqWorld : Nat := 11
def fn_laws_markCpuS : Nat := 39
def fn_laws_markTaskS : Nat := 40
def fn_laws_markText : Nat := 91
def fn_laws_markIntS : Nat := 92
def fn_laws_markBoolS : Nat := 93
def fn_laws_markShelfS : Nat := 94
def fn_laws_markGroupS : Nat := 41
def fn_laws_markWorld : Nat := 12
def fn_laws_heldCpuS : Nat := 42
def fn_laws_heldTaskS : Nat := 43
def fn_laws_heldIntS : Nat := 95
def fn_laws_heldBoolS : Nat := 96
def fn_laws_heldShelfS : Nat := 97
def fn_laws_heldGroupS : Nat := 44
def fn_laws_heldWorld : Nat := 13
def fn_spec_DecayBeat : Nat := 61
def fn_spec_TimePass : Nat := 18
def fn_impl_TimePass : Nat := 19
def fn_laws_FnExactTimePass : Nat := 6
def fn_impl_early : Nat := 80
def fn_impl_World_room : Nat := 33
def fn_impl_lane_cpu : Nat := 82
def fn_impl_lane_endSlice : Nat := 83
def fn_impl_Band_wet : Nat := 150
def fn_impl_Band_refills : Nat := 108
def fn_impl_Band_takes : Nat := 109
def fn_impl_Band_spends : Nat := 110
def fn_impl_Band_returns : Nat := 111
def fn_impl_Band_do : Nat := 64
def fn_impl_LagCut : Nat := 50
def fn_impl_World_depth : Nat := 140
def fn_impl_lane_switchGroups : Nat := 84
def fn_impl_lane_rise : Nat := 86
def fn_impl_World_settle : Nat := 35
def fn_impl_World_quota : Nat := 63
def fn_impl_usedOk : Nat := 113
def fn_impl_DecayBeat : Nat := 65
def fn_impl_TimePass_1 : Nat := 62
noncomputable def tbl : List (TypeId × Ty) := [
  (2,⟨false,[.int .i64],.int .i64⟩),
  (3,⟨false,[.int .i64],.int .i64⟩),
  (4,⟨false,[.bool],.bool⟩),
  (5,⟨false,[.int .u8],.int .u8⟩),
  (6,⟨false,[.int .u8],.int .u8⟩),
  (7,⟨true,[.int .i64,.int .i64,.bool,.int .u8],.struct [(0,false,1),(1,false,1),(2,false,1),(3,false,1)]⟩),
  (8,⟨true,[.int .i64,.int .i64,.bool,.int .u8],.struct [(0,false,1),(1,false,1),(2,false,1),(3,false,1)]⟩),
  (9,⟨false,[.str],.str⟩),
  (10,⟨false,[.str],.str⟩),
  (11,⟨false,[.str],.str⟩),
  (12,⟨false,[.int .u64],.int .u64⟩),
  (13,⟨true,[.str,.int .u64],.struct [(0,false,1),(1,false,1)]⟩),
  (14,⟨true,[.str,.int .u64],.struct [(0,false,1),(1,false,1)]⟩),
  (15,⟨false,[.ptr],.ptr⟩),
  (16,⟨false,[.ptr],.ptr⟩),
  (17,⟨false,[.ptr],.ptr⟩),
  (18,⟨true,[.ptr],.struct [(0,false,1)]⟩),
  (19,⟨true,[.ptr],.struct [(0,false,1)]⟩),
  (20,⟨false,[.iface],.other⟩),
  (21,⟨false,[.int .i32],.int .i32⟩),
  (22,⟨false,[.slice],.slice 105 5⟩),
  (23,⟨false,[.slice],.slice 107 9⟩),
  (24,⟨false,[.slice],.slice 102 14⟩),
  (25,⟨true,[.int .i64,.slice,.slice,.slice],.struct [(0,false,1),(1,false,1),(2,false,1),(3,false,1)]⟩),
  (26,⟨true,[.int .i64,.slice,.slice,.slice],.struct [(0,false,1),(1,false,1),(2,false,1),(3,false,1)]⟩),
  (28,⟨false,[.slice],.slice 51 5⟩),
  (29,⟨false,[.slice],.slice 49 9⟩),
  (30,⟨false,[.slice],.slice 82 14⟩),
  (31,⟨true,[.int .i64,.slice,.slice,.slice],.struct [(0,false,1),(1,false,1),(2,false,1),(3,false,1)]⟩),
  (32,⟨true,[.int .i64,.slice,.slice,.slice],.struct [(0,false,1),(1,false,1),(2,false,1),(3,false,1)]⟩),
  (48,⟨true,[.int .i64,.int .i64,.int .i64,.int .i64,.int .i64,.int .i64,.int .i64,.int .i64,.int .i64],.struct [(0,false,1),(1,false,1),(2,false,1),(3,false,1),(4,false,1),(5,false,1),(6,false,1),(7,false,1),(8,false,1)]⟩),
  (49,⟨true,[.int .i64,.int .i64,.int .i64,.int .i64,.int .i64,.int .i64,.int .i64,.int .i64,.int .i64],.struct [(0,false,1),(1,false,1),(2,false,1),(3,false,1),(4,false,1),(5,false,1),(6,false,1),(7,false,1),(8,false,1)]⟩),
  (50,⟨true,[.bool,.int .i64,.int .i64,.int .i64,.int .i64],.struct [(0,false,1),(1,false,1),(2,false,1),(3,false,1),(4,false,1)]⟩),
  (51,⟨true,[.bool,.int .i64,.int .i64,.int .i64,.int .i64],.struct [(0,false,1),(1,false,1),(2,false,1),(3,false,1),(4,false,1)]⟩),
  (58,⟨false,[.ptr],.ptr⟩),
  (59,⟨false,[.iface],.other⟩),
  (60,⟨false,[.iface],.other⟩),
  (62,⟨true,[.int .i64],.struct [(0,false,1)]⟩),
  (63,⟨true,[.int .i64],.struct [(0,false,1)]⟩),
  (74,⟨true,[.int .i64,.bool,.int .i64,.int .i64,.int .i64],.struct [(0,false,1),(1,false,1),(2,false,1),(3,false,1),(4,false,1)]⟩),
  (75,⟨true,[.int .i64,.bool,.int .i64,.int .i64,.int .i64],.struct [(0,false,1),(1,false,1),(2,false,1),(3,false,1),(4,false,1)]⟩),
  (76,⟨false,[.slice],.slice 3 1⟩),
  (77,⟨false,[.slice],.slice 4 1⟩),
  (78,⟨true,[.int .i64,.int .i64,.int .i64,.slice,.slice],.struct [(0,false,1),(1,false,1),(2,false,1),(3,false,1),(4,false,1)]⟩),
  (79,⟨true,[.int .i64,.int .i64,.int .i64,.slice,.slice],.struct [(0,false,1),(1,false,1),(2,false,1),(3,false,1),(4,false,1)]⟩),
  (80,⟨false,[.slice],.slice 75 5⟩),
  (81,⟨true,[.bool,.int .i64,.str,.int .i64,.int .i64,.int .i64,.int .i64,.int .i64,.int .i64,.int .i64,.int .i64,.slice,.slice,.slice],.struct [(0,false,1),(1,false,1),(2,false,1),(3,false,1),(4,false,1),(5,false,1),(6,false,1),(7,false,1),(8,true,5),(13,false,1)]⟩),
  (82,⟨true,[.bool,.int .i64,.str,.int .i64,.int .i64,.int .i64,.int .i64,.int .i64,.int .i64,.int .i64,.int .i64,.slice,.slice,.slice],.struct [(0,false,1),(1,false,1),(2,false,1),(3,false,1),(4,false,1),(5,false,1),(6,false,1),(7,false,1),(8,true,5),(13,false,1)]⟩),
  (83,⟨false,[.ptr],.ptr⟩),
  (90,⟨false,[.ptr],.ptr⟩),
  (93,⟨true,[.int .i64,.int .i64,.int .i64],.struct [(0,false,1),(1,false,1),(2,false,1)]⟩),
  (94,⟨true,[.int .i64,.int .i64,.int .i64],.struct [(0,false,1),(1,false,1),(2,false,1)]⟩),
  (95,⟨false,[.ptr],.ptr⟩),
  (99,⟨true,[.int .i64,.int .i64,.int .i64,.slice,.slice],.struct [(0,false,1),(1,false,1),(2,false,1),(3,false,1),(4,false,1)]⟩),
  (100,⟨false,[.slice],.slice 163 5⟩),
  (101,⟨true,[.bool,.int .i64,.str,.int .i64,.int .i64,.int .i64,.int .i64,.int .i64,.int .i64,.int .i64,.int .i64,.slice,.slice,.slice],.struct [(0,false,1),(1,false,1),(2,false,1),(3,false,1),(4,false,1),(5,false,1),(6,false,1),(7,false,1),(8,true,5),(13,false,1)]⟩),
  (102,⟨true,[.bool,.int .i64,.str,.int .i64,.int .i64,.int .i64,.int .i64,.int .i64,.int .i64,.int .i64,.int .i64,.slice,.slice,.slice],.struct [(0,false,1),(1,false,1),(2,false,1),(3,false,1),(4,false,1),(5,false,1),(6,false,1),(7,false,1),(8,true,5),(13,false,1)]⟩),
  (105,⟨true,[.bool,.int .i64,.int .i64,.int .i64,.int .i64],.struct [(0,false,1),(1,false,1),(2,false,1),(3,false,1),(4,false,1)]⟩),
  (107,⟨true,[.int .i64,.int .i64,.int .i64,.int .i64,.int .i64,.int .i64,.int .i64,.int .i64,.int .i64],.struct [(0,false,1),(1,false,1),(2,false,1),(3,false,1),(4,false,1),(5,false,1),(6,false,1),(7,false,1),(8,false,1)]⟩),
  (110,⟨false,[.ptr],.ptr⟩),
  (112,⟨true,[.ptr,.int .i64],.struct [(0,false,1),(1,false,1)]⟩),
  (113,⟨true,[.ptr,.int .i64],.struct [(0,false,1),(1,false,1)]⟩),
  (115,⟨false,[.ptr],.ptr⟩),
  (124,⟨false,[.ptr],.ptr⟩),
  (140,⟨true,[.fn,.fn,.fn,.fn,.fn],.arr 5 1 false⟩),
  (141,⟨false,[.ptr],.other⟩),
  (142,⟨false,[.int .u64],.int .u64⟩),
  (143,⟨true,[.ptr,.ptr,.int .u64],.struct [(0,false,1),(1,false,1),(2,false,1)]⟩),
  (144,⟨true,[.ptr,.ptr,.int .u64],.struct [(0,false,1),(1,false,1),(2,false,1)]⟩),
  (146,⟨false,[.iface],.other⟩),
  (147,⟨false,[.iface],.other⟩),
  (149,⟨false,[.int .u8],.int .u8⟩),
  (156,⟨false,[.slice],.slice 5 1⟩),
  (158,⟨false,[.int .u64],.int .u64⟩),
  (163,⟨true,[.int .i64,.bool,.int .i64,.int .i64,.int .i64],.struct [(0,false,1),(1,false,1),(2,false,1),(3,false,1),(4,false,1)]⟩),
  (165,⟨true,[.ptr],.struct [(0,false,1)]⟩),
  (166,⟨true,[.ptr],.struct [(0,false,1)]⟩),
  (167,⟨false,[.ptr],.ptr⟩),
  (171,⟨false,[.iface],.other⟩),
  (174,⟨false,[.iface],.other⟩),
  (176,⟨false,[.iface],.other⟩),
  (177,⟨false,[.slice],.slice 60 1⟩),
  (182,⟨true,[.int .i64,.int .i64,.int .i64,.int .i64,.int .i64,.int .i64,.int .i64,.int .i64,.int .i64,.int .i64,.int .i64,.int .i64,.int .i64,.int .i64,.int .i64,.int .i64,.int .i64,.int .i64,.int .i64,.int .i64,.int .i64],.arr 21 1 false⟩),
  (184,⟨false,[.slice],.slice 188 1⟩),
  (187,⟨false,[.int .i64],.int .i64⟩),
  (188,⟨false,[.ptr],.ptr⟩),
  (189,⟨true,[.int .i64,.str,.ptr],.struct [(0,false,1),(1,false,1),(2,false,1)]⟩),
  (190,⟨true,[.int .i64,.str,.ptr],.struct [(0,false,1),(1,false,1),(2,false,1)]⟩),
  (191,⟨false,[.map],.other⟩),
  (192,⟨true,[.int .i64,.str],.struct [(0,false,1),(1,false,1)]⟩),
  (193,⟨true,[.int .i64,.str],.struct [(0,false,1),(1,false,1)]⟩),
  (195,⟨true,[.ptr,.ptr,.ptr,.str],.struct [(0,false,1),(1,false,1),(2,false,1),(3,false,1)]⟩),
  (196,⟨true,[.ptr,.ptr,.ptr,.str],.struct [(0,false,1),(1,false,1),(2,false,1),(3,false,1)]⟩),
  (197,⟨true,[],.arr 0 1 false⟩),
  (198,⟨true,[],.other⟩),
  (199,⟨true,[],.other⟩),
  (201,⟨false,[.int .u32],.int .u32⟩),
  (202,⟨false,[.int .u8],.int .u8⟩),
  (204,⟨false,[.ptr],.ptr⟩),
  (205,⟨false,[.int .i32],.int .i32⟩),
  (206,⟨false,[.int .i32],.int .i32⟩),
  (207,⟨true,[.int .u64,.int .u64,.int .u32,.int .u8,.int .u8,.int .u8,.int .u8,.fn,.ptr,.int .i32,.int .i32],.struct [(0,false,1),(1,false,1),(2,false,1),(3,false,1),(4,false,1),(5,false,1),(6,false,1),(7,false,1),(8,false,1),(9,false,1),(10,false,1)]⟩),
  (208,⟨true,[.int .u64,.int .u64,.int .u32,.int .u8,.int .u8,.int .u8,.int .u8,.fn,.ptr,.int .i32,.int .i32],.struct [(0,false,1),(1,false,1),(2,false,1),(3,false,1),(4,false,1),(5,false,1),(6,false,1),(7,false,1),(8,false,1),(9,false,1),(10,false,1)]⟩),
  (211,⟨true,[.str,.int .u8],.struct [(0,false,1),(1,false,1)]⟩),
  (212,⟨true,[.str,.int .u8],.struct [(0,false,1),(1,false,1)]⟩),
  (213,⟨false,[.ptr],.ptr⟩),
  (215,⟨false,[.int .u16],.int .u16⟩),
  (216,⟨true,[.int .i32,.int .u16,.int .u16,.int .u32,.int .u32],.struct [(0,false,1),(1,false,1),(2,false,1),(3,false,1),(4,false,1)]⟩),
  (217,⟨true,[.int .i32,.int .u16,.int .u16,.int .u32,.int .u32],.struct [(0,false,1),(1,false,1),(2,false,1),(3,false,1),(4,false,1)]⟩),
  (218,⟨false,[.slice],.slice 221 4⟩),
  (219,⟨false,[.int .i32],.int .i32⟩),
  (220,⟨true,[.int .i32,.int .i32,.int .i32,.int .i32],.struct [(0,false,1),(1,false,1),(2,false,1),(3,false,1)]⟩),
  (221,⟨true,[.int .i32,.int .i32,.int .i32,.int .i32],.struct [(0,false,1),(1,false,1),(2,false,1),(3,false,1)]⟩),
  (222,⟨false,[.ptr],.ptr⟩)] ++ [1,27,34,35,36,37,38,39,40,41,42,43,44,45,46,47,52,53,54,55,56,57,61,64,65,66,67,68,69,70,71,72,73,84,85,86,88,89,92,96,97,98,103,104,106,108,109,111,114,116,117,118,119,120,121,122,123,125,126,127,128,129,130,131,132,133,134,136,137,138,139,145,148,150,151,152,153,154,155,157,159,160,161,162,164,168,169,170,173,175,178,179,180,181,183,186,194,200,203,209,210,214].map (fun t => (t,⟨false,[.fn],.other⟩)) ++ [0,33,87,91,135,172,185].map fun t => (t,⟨false,[.other],.other⟩)
noncomputable def pfT : List (Nat × List RK) := [
  (20,[.cell (.int .i64)]),
  (21,[.cell (.int .i64)]),
  (151,[.cell (.int .i64)]),
  (152,[.cell (.int .i64)]),
  (114,[.cell (.int .i64)]),
  (115,[.cell (.int .i64)]),
  (66,[.cell (.int .i64)]),
  (22,[.cell (.int .i64)]),
  (7,[.cell (.int .i64)]),
  (53,[.cell .bool]),
  (102,[.cell .bool]),
  (123,[.cell (.int .i64)]),
  (182,[.cell .bool]),
  (153,[.cell .bool]),
  (116,[.cell .bool]),
  (117,[.cell (.int .i64)]),
  (105,[.cell .bool]),
  (146,[.cell .bool]),
  (154,[.cell .bool]),
  (155,[.cell .bool]),
  (156,[.cell .bool]),
  (118,[.cell .bool]),
  (45,[.cell (.int .i64)]),
  (157,[.cell .bool]),
  (183,[.cell (.int .i64)]),
  (184,[.cell (.int .i64)]),
  (158,[.cell (.int .i64)]),
  (180,[.cell (.int .i64)]),
  (148,[.cell (.int .i64)]),
  (159,[.cell .bool]),
  (119,[.cell .bool]),
  (127,[.cell .bool]),
  (124,[.cell .bool]),
  (125,[.cell .bool]),
  (120,[.cell .bool]),
  (73,[.cell .bool]),
  (160,[.cell .bool]),
  (121,[.cell .bool]),
  (67,[.cell .bool]),
  (122,[.cell .bool]),
  (69,[.cell .bool]),
  (24,[.cell .bool]),
  (60,[.cell (.int .i64)]),
  (147,[.cell (.int .i64)]),
  (98,[.cell (.int .i64)]),
  (126,[.cell (.int .i64),.cell .bool]),
  (74,[.agg [.bool,.int .i64,.int .i64,.int .i64,.int .i64]]),
  (75,[.agg [.int .i64,.int .i64,.int .i64,.int .i64,.int .i64,.int .i64,.int .i64,.int .i64,.int .i64]]),
  (163,[.agg [.int .i64,.bool,.int .i64,.int .i64,.int .i64]]),
  (55,[.cell .bool]),
  (164,[.cell .bool]),
  (165,[.cell (.int .i64)]),
  (104,[.cell .bool]),
  (191,[.cell .bool]),
  (192,[.cell (.int .i64)]),
  (166,[.cell .bool]),
  (130,[.cell .bool]),
  (186,[.cell .bool]),
  (167,[.cell .bool]),
  (168,[.cell .bool]),
  (193,[.cell .bool]),
  (187,[.cell .bool]),
  (169,[.cell .bool]),
  (188,[.cell .bool]),
  (170,[.cell .bool]),
  (131,[.cell .bool]),
  (48,[.cell .bool]),
  (81,[.agg [.ptr,.int .i64]]),
  (99,[.cell .ptr]),
  (101,[.cell (.int .i64)]),
  (112,[.cell .bool]),
  (189,[.cell .bool]),
  (171,[.cell .bool]),
  (195,[.cell (.int .i64)]),
  (194,[.cell (.int .i64)]),
  (190,[.cell (.int .i64)]),
  (172,[.cell (.int .i64)]),
  (181,[.agg [.int .i64,.int .i64,.int .i64,.int .i64,.int .i64,.int .i64,.int .i64,.int .i64,.int .i64,.int .i64,.int .i64,.int .i64,.int .i64,.int .i64,.int .i64,.int .i64,.int .i64,.int .i64,.int .i64,.int .i64,.int .i64]]),
  (149,[.cell (.int .i64)]),
  (100,[.cell (.int .i64)]),
  (173,[.cell .bool]),
  (132,[.cell .bool]),
  (142,[.cell .bool]),
  (143,[.cell .bool]),
  (85,[.cell .bool]),
  (141,[.cell .bool]),
  (133,[.cell .bool]),
  (32,[.cell .bool]),
  (87,[.cell .bool]),
  (134,[.cell .bool]),
  (77,[.cell .bool]),
  (88,[.cell .bool]),
  (36,[.cell .bool]),
  (89,[.cell .bool]),
  (37,[.cell .bool]),
  (177,[.cell .bool]),
  (178,[.cell .bool]),
  (144,[.cell .bool]),
  (179,[.cell .bool]),
  (145,[.cell .bool]),
  (90,[.cell .bool]),
  (38,[.cell .bool]),
  (11,[.cell .bool]),
  (91,[.cell .str]),
  (42,[.cell (.int .i64)]),
  (43,[.cell (.int .i64)]),
  (95,[.cell (.int .i64)]),
  (96,[.cell (.int .i64)]),
  (97,[.cell (.int .i64)]),
  (44,[.cell (.int .i64)]),
  (13,[.cell (.int .i64)]),
  (46,[.cell (.int .i64)]),
  (61,[.cell (.int .i64)]),
  (80,[.cell .bool]),
  (33,[.cell .bool]),
  (82,[.cell .ptr]),
  (50,[.cell (.int .i64)]),
  (140,[.cell (.int .i64)]),
  (49,[.cell (.int .i64)]),
  (51,[.cell (.int .i64)]),
  (63,[.cell .ptr]),
  (113,[.cell .bool]),
  (65,[.cell (.int .i64)])]
noncomputable def efT : List (Nat × List RK) := [
  (2,[]),
  (106,[.agg [.int .i64,.int .i64,.int .i64,.slice,.slice]]),
  (68,[.agg [.int .i64,.slice,.slice,.slice]]),
  (23,[.agg [.int .i64,.slice,.slice,.slice],.cell (.int .i64)]),
  (25,[.agg [.int .i64,.slice,.slice,.slice]]),
  (70,[.agg [.int .i64,.slice,.slice,.slice]]),
  (107,[.agg [.int .i64,.int .i64,.int .i64,.slice,.slice]]),
  (59,[.agg [.int .i64,.int .i64,.int .i64,.slice,.slice],.cell (.int .i64)]),
  (71,[.agg [.int .i64,.slice,.slice,.slice]]),
  (72,[.agg [.int .i64,.slice,.slice,.slice]]),
  (26,[.agg [.int .i64,.slice,.slice,.slice]]),
  (8,[.agg [.int .i64,.slice,.slice,.slice],.cell (.int .i64)]),
  (27,[.cell .slice]),
  (28,[.cell .slice]),
  (161,[.cell .slice]),
  (162,[.cell .slice]),
  (128,[.agg [.int .i64,.int .i64,.int .i64,.slice,.slice]]),
  (129,[.cell .slice]),
  (76,[.agg [.bool,.int .i64,.str,.int .i64,.int .i64,.int .i64,.int .i64,.int .i64,.int .i64,.int .i64,.int .i64,.slice,.slice,.slice]]),
  (29,[.cell .slice]),
  (9,[.agg [.int .i64,.slice,.slice,.slice]]),
  (185,[.cell .slice,.cell .bool]),
  (135,[.agg [.int .i64,.int .i64,.int .i64,.slice,.slice]]),
  (78,[.agg [.int .i64,.slice,.slice,.slice]]),
  (139,[.cell .bool]),
  (79,[.cell .bool]),
  (30,[.agg [.int .i64,.slice,.slice,.slice],.cell (.int .i64)]),
  (10,[.agg [.int .i64,.slice,.slice,.slice],.cell (.int .i64)]),
  (39,[.cell (.int .i64)]),
  (40,[.cell (.int .i64)]),
  (92,[.cell (.int .i64)]),
  (93,[.cell (.int .i64)]),
  (94,[.cell (.int .i64)]),
  (41,[.cell (.int .i64)]),
  (12,[.cell (.int .i64)]),
  (3,[.cell .bool]),
  (14,[.agg [.int .i64,.slice,.slice,.slice],.cell (.int .i64)]),
  (15,[.agg [.int .i64,.slice,.slice,.slice],.cell (.int .i64)]),
  (4,[.cell .bool]),
  (52,[.agg [.int .i64,.slice,.slice,.slice],.cell (.int .i64)]),
  (54,[.agg [.int .i64,.int .i64,.int .i64,.slice,.slice],.cell .bool]),
  (16,[.agg [.int .i64,.slice,.slice,.slice],.cell (.int .i64)]),
  (56,[.agg [.int .i64,.slice,.slice,.slice],.cell (.int .i64)]),
  (17,[.agg [.int .i64,.slice,.slice,.slice],.cell (.int .i64)]),
  (5,[.cell .bool]),
  (18,[.agg [.int .i64,.slice,.slice,.slice],.cell (.int .i64)]),
  (19,[.agg [.int .i64,.slice,.slice,.slice],.cell (.int .i64)]),
  (6,[.cell .bool]),
  (83,[]),
  (34,[]),
  (150,[]),
  (108,[.cell (.int .i64)]),
  (109,[.cell (.int .i64)]),
  (110,[.cell (.int .i64)]),
  (111,[.cell (.int .i64)]),
  (64,[.cell (.int .i64)]),
  (84,[]),
  (86,[]),
  (35,[]),
  (31,[.cell .iface]),
  (47,[.cell .iface]),
  (58,[.agg [.int .i64,.int .i64,.int .i64,.slice,.slice],.cell .bool]),
  (57,[.cell .iface]),
  (62,[.cell .iface]),
  (103,[.cell .iface]),
  (233,[])]
noncomputable def ttT : List (Nat × List RK) := [(135,[.cell (.int .i64),.cell .bool])]
def bodyOf (f : Func) : Code := match f.body with
  | some c => c
  | none => .skip
theorem asc_mem {β : Type} : ∀ {l : List (Nat × β)} {f : Nat} {k : β},asc l f = some k → (f,k) ∈ l
  | [],f,k,h => by cases h
  | p :: r,f,k,h => by
    simp only [asc] at h
    cases hb : Nat.beq p.1 f with
    | true =>
      rw [hb] at h
      simp only [cond_true,Option.some.injEq] at h
      have : p.1 = f := Nat.eq_of_beq_eq_true hb
      rw [← this,← h]; exact List.mem_cons_self
    | false =>
      rw [hb] at h
      exact List.mem_cons_of_mem _ (asc_mem h)
theorem tbl_ok : tblOk Tryz.prog tbl = true := by kernel_rfl
theorem pf_ok : (pfT.all fun p => callableB Tryz.prog p.1) = true := by kernel_rfl
theorem ef_ok : (efT.all fun p => callableB Tryz.prog p.1) = true := by kernel_rfl
theorem mixed_ok : Tryz.prog.follows .mixedOrders = true := by kernel_rfl
theorem tok : TOk Tryz.prog (tblGet tbl) := tOk_of (l:=tbl) tbl_ok
theorem pok (f : Nat) (ks : List RK) (h : asc pfT f = some ks) : Callable Tryz.prog f := callable_of (List.all_eq_true.1 pf_ok (f,ks) (asc_mem h))
theorem eok (f : Nat) (ks : List RK) (h : asc efT f = some ks) : Callable Tryz.prog f := callable_of (List.all_eq_true.1 ef_ok (f,ks) (asc_mem h))
theorem env (vis : List Nat) (n : Nat) (pm wr : Bool) (rd : Option Nat) : Env { P := Tryz.prog,T := tblGet tbl,pf := pfT,ef := efT,tt := ttT,vis := vis,n := n,pm := pm,wr := wr,rd := rd } :=
  ⟨tok,pok,eok,mixed_ok⟩
noncomputable def cfgOf (vis : List Nat) (n : Nat) (pm wr : Bool) : Cfg := { P := Tryz.prog,T := tblGet tbl,pf := pfT,ef := efT,tt := ttT,vis := vis,n := n,pm := pm,wr := wr }
def fits (fn : Func) (n : Nat) : Bool := Nat.ble n fn.ntmps && Nat.ble fn.ntmps 4000 && fn.body.isSome
theorem fits_t {fn : Func} {n : Nat} (h : fits fn n = true) : n ≤ fn.ntmps ∧ fn.ntmps ≤ 4000 ∧ fn.body = some (bodyOf fn) := by
  unfold fits at h
  simp only [Bool.and_eq_true] at h
  refine ⟨Nat.le_of_ble_eq_true h.1.1,Nat.le_of_ble_eq_true h.1.2,?_⟩
  cases hb : fn.body with
  | none => rw [hb] at h; cases h.2
  | some c => simp [bodyOf,hb]
abbrev PuV (V : World → (Value → World → Prop) → Prop) (f : FuncId) (args : Array Value) : Prop := ∀ {w : World} {bs : List Nat} {ret : Value},(∀ wr0,ExtX bs w wr0 → V wr0 fun v0 _ => v0 = ret) → PureX bs Tryz.prog f args w ret
abbrev EfV (V : World → (Value → World → Prop) → Prop) (f : FuncId) (args : Array Value) : Prop := ∀ {w : World} {R : Value → World → Prop},V w R → Calls Tryz.prog f args w fun e0 wr0 => ∃ v0,e0 = .returned v0 ∧ R v0 wr0
theorem pV (vis : List Nat) (wr : Bool) (sps : List (Nat × LSpec)) {f : FuncId} {fn : Func} {args : List Value} {V : World → (Value → World → Prop) → Prop} (hf : Tryz.prog.funcs[f]? = some fn) (hk : fits fn args.length = true) (hV : evFn (cfgOf vis fn.ntmps true wr) sps args (bodyOf fn) fn.results.toList = V) : PuV V f args.toArray := fun {w bs ret} hvc =>
  pure_of_ev (C:=cfgOf vis fn.ntmps true wr) (sps:=sps) (env _ _ _ _ _) hf (fits_t hk).2.2 rfl (fits_t hk).1 (fits_t hk).2.1 rfl rfl fun wr0 hx0 => by rw [hV]; exact hvc wr0 hx0
theorem eV (vis : List Nat) (wr : Bool) (sps : List (Nat × LSpec)) {f : FuncId} {fn : Func} {args : List Value} {V : World → (Value → World → Prop) → Prop} (hf : Tryz.prog.funcs[f]? = some fn) (hk : fits fn args.length = true) (hV : evFn (cfgOf vis fn.ntmps false wr) sps args (bodyOf fn) fn.results.toList = V) : EfV V f args.toArray := fun {w R} hvc =>
  eff_of_ev (C:=cfgOf vis fn.ntmps false wr) (sps:=sps) (env _ _ _ _ _) hf (fits_t hk).2.2 rfl (fits_t hk).1 (fits_t hk).2.1 rfl rfl (by rw [hV]; exact hvc)
end Go.Proofs.YtjjdgognjpmipaaGreatDoor
