/- Part 5 of what the law FnExactCpuPull needs: the engine, the functions' propositions, the contracts. -/
import Derived.Test.YtnofpcbjpcoghaaGreatFnExactCpuPullPd
import Derived.Test.YtnofpcbjpcoghaaGreatProg
import Derived.KernelRfl
namespace Go.Proofs.YtnofpcbjpcoghaaGreat
open Go.RowKit
set_option linter.unusedVariables false
set_option maxRecDepth 100000
set_option maxHeartbeats 1600000
def ty_int : TypeId := 3
def ty_bool : TypeId := 4
def ty_string : TypeId := 9
def ty_sl_laws_Cpu : TypeId := 22
def ty_sl_laws_Task : TypeId := 23
def ty_sl_laws_Group : TypeId := 24
def ty_laws_World : TypeId := 26
def ty_sl_impl_Cpu : TypeId := 29
def ty_sl_impl_Task : TypeId := 30
def ty_sl_impl_Group : TypeId := 31
def ty_impl_World : TypeId := 33
def ty_impl_Cpu : TypeId := 53
def ty_impl_lane : TypeId := 56
def ty_sl_int : TypeId := 64
def ty_sl_bool : TypeId := 65
def ty_laws_Band : TypeId := 67
def ty_sl_laws_Shelf : TypeId := 68
def ty_laws_Group : TypeId := 70
def ty_sl_impl_Shelf : TypeId := 74
def ty_impl_Group : TypeId := 76
def ty_impl_Task : TypeId := 81
def ty_laws_Cpu : TypeId := 83
def ty_laws_Task : TypeId := 85
def ty_impl_cpuSet : TypeId := 92
def ty_impl_Shelf : TypeId := 107
def ty_laws_Shelf : TypeId := 129
def ty_sl_p_impl_node : TypeId := 130
def ty_p_impl_node : TypeId := 138
def ty_impl_node : TypeId := 140
def ty_map_impl_nodeKey_int : TypeId := 141
def ty_impl_nodeKey : TypeId := 143
def fn_laws_szCpuS : Nat := 12
def fn_laws_szTaskS : Nat := 13
def fn_laws_szIntS : Nat := 112
def fn_laws_szBoolS : Nat := 113
def fn_laws_szBand : Nat := 65
def fn_laws_szShelfS : Nat := 66
def fn_laws_szGroup : Nat := 35
def fn_laws_szGroupS : Nat := 14
def fn_laws_szWorld : Nat := 5
def fn_spec_l1In : Nat := 17
def fn_spec_l6File : Nat := 114
def fn_spec_NameOk : Nat := 67
def fn_spec_l6Used : Nat := 74
def fn_spec_l6Depth : Nat := 68
def fn_spec_TreeOk : Nat := 36
def fn_spec_l8Ups : Nat := 37
def fn_spec_l8NoBand : Nat := 69
def fn_spec_l1Weight : Nat := 70
def fn_spec_MaskOk : Nat := 71
def fn_spec_l4Time : Nat := 72
def fn_spec_BandOk : Nat := 73
def fn_spec_l8GroupOk : Nat := 38
def fn_spec_MaskHas : Nat := 42
def fn_spec_WeightOf : Nat := 75
def fn_spec_MaskAnd : Nat := 115
def fn_spec_l8Pins : Nat := 116
def fn_spec_l8Where : Nat := 76
def fn_spec_VirtualStep : Nat := 119
def fn_spec_LagMost : Nat := 117
def fn_spec_l8Stand : Nat := 77
def fn_spec_l8TaskOk : Nat := 39
def fn_spec_l8Queued : Nat := 118
def fn_spec_l8Active : Nat := 78
def fn_spec_l8Dry : Nat := 79
def fn_spec_l8ShelfOk : Nat := 40
def fn_spec_l8InLine : Nat := 80
def fn_spec_l8Stayed : Nat := 81
def fn_spec_l8CpuOk : Nat := 41
def fn_spec_WorldOk : Nat := 15
def fn_spec_l9Up : Nat := 16
def fn_spec_DomainLevels : Nat := 18
def fn_spec_l12Load : Nat := 43
def fn_spec_l9Groups : Nat := 82
def fn_spec_l12Could : Nat := 44
def fn_spec_l12Busiest : Nat := 19
def fn_spec_DomainSpan : Nat := 20
def fn_laws_toCpu : Nat := 45
def fn_laws_toCpuS : Nat := 21
def fn_laws_toTask : Nat := 46
def fn_laws_toTaskS : Nat := 22
def fn_laws_toIntS : Nat := 120
def fn_laws_toBoolS : Nat := 121
def fn_laws_toBand : Nat := 83
def fn_laws_toShelf : Nat := 122
def fn_laws_toShelfS : Nat := 84
def fn_laws_toGroup : Nat := 47
def fn_laws_toGroupS : Nat := 23
def fn_laws_toWorld : Nat := 7
def fn_impl_inRange : Nat := 26
def fn_impl_timeOk : Nat := 85
def fn_impl_World_online : Nat := 86
def fn_impl_groupUsed : Nat := 92
def fn_impl_NameOk : Nat := 136
def fn_impl_node_depth : Nat := 137
def fn_impl_nodes : Nat := 123
def fn_impl_TreeOk : Nat := 87
def fn_impl_World_shapeOk : Nat := 48
def fn_impl_bandZero : Nat := 124
def fn_impl_groupZero : Nat := 88
def fn_impl_weightOk : Nat := 89
def fn_impl_cpuSet_ok : Nat := 132
def fn_impl_MaskOk : Nat := 125
def fn_impl_maskFull : Nat := 90
def fn_impl_BandOk : Nat := 126
def fn_impl_World_quotaOk : Nat := 91
def fn_impl_World_groupsOk : Nat := 49
def fn_impl_World_lane : Nat := 28
def fn_impl_niceOk : Nat := 93
def fn_impl_loadOk : Nat := 94
def fn_impl_cpuSet_has : Nat := 107
def fn_impl_MaskHas : Nat := 95
def fn_impl_MaskAnd : Nat := 139
def fn_impl_World_pins : Nat := 138
def fn_impl_World_allowedIn : Nat := 127
def fn_impl_World_allowed : Nat := 96
def fn_impl_lane_shelf : Nat := 97
def fn_impl_weightSteps : Nat := 131
def fn_impl_VirtualStep : Nat := 104
def fn_impl_LagMost : Nat := 128
def fn_impl_placed : Nat := 98
def fn_impl_WeightOf : Nat := 99
def fn_impl_World_tasksOk : Nat := 50
def fn_impl_lane_queues : Nat := 129
def fn_impl_lane_holds : Nat := 130
def fn_impl_lane_active : Nat := 100
def fn_impl_lane_dry : Nat := 101
def fn_impl_World_shelvesOk : Nat := 51
def fn_impl_World_taskThere : Nat := 102
def fn_impl_lane_inLine : Nat := 103
def fn_impl_World_cpusOk : Nat := 52
def fn_impl_WorldOk : Nat := 24
def fn_impl_World_cpuThere : Nat := 25
def fn_impl_DomainLevels : Nat := 27
def fn_impl_best_int : Nat := 57
def fn_impl_lane_busiest : Nat := 29
def fn_laws_eqCpu : Nat := 60
def fn_laws_eqCpuS : Nat := 30
def fn_laws_eqTask : Nat := 61
def fn_laws_eqTaskS : Nat := 31
def fn_laws_eqIntS : Nat := 133
def fn_laws_eqBoolS : Nat := 134
def fn_laws_eqBand : Nat := 110
def fn_laws_eqShelf : Nat := 135
def fn_laws_eqShelfS : Nat := 111
def fn_laws_eqGroup : Nat := 62
def fn_laws_eqGroupS : Nat := 32
def fn_laws_eqWorld : Nat := 9
def fn_spec_l12Fits : Nat := 63
def fn_spec_l12Pull : Nat := 33
def fn_spec_CpuPull : Nat := 10
def fn_impl_lane_cpu : Nat := 108
def fn_impl_lane_couldRun : Nat := 56
def fn_impl_World_weight : Nat := 64
def fn_impl_total : Nat := 109
def fn_impl_lane_load : Nat := 59
def fn_impl_lane_pull : Nat := 34
def fn_impl_CpuPull : Nat := 11
def fn_laws_FnExactCpuPull : Nat := 4
def fn_impl_neighbors : Nat := 105
def fn_impl_DomainSpan : Nat := 54
def fn_impl_cpuSet_members : Nat := 55
def fn_impl_lane_busiest_1 : Nat := 53
def fn_impl_lane_busiest_2 : Nat := 58
def fn_impl_cpuSet_members_1 : Nat := 106
noncomputable def tbl : List (TypeId × Ty) := [
  (0, { agg := false, ks := [.other], d := .other }),
  (1, { agg := false, ks := [.fn], d := .other }),
  (2, { agg := false, ks := [.int .i64], d := .int .i64 }),
  (3, { agg := false, ks := [.int .i64], d := .int .i64 }),
  (4, { agg := false, ks := [.bool], d := .bool }),
  (5, { agg := false, ks := [.int .u8], d := .int .u8 }),
  (6, { agg := false, ks := [.int .u8], d := .int .u8 }),
  (7, { agg := true, ks := [.int .i64, .int .i64, .bool, .int .u8], d := .struct [(0, false, 1), (1, false, 1), (2, false, 1), (3, false, 1)] }),
  (8, { agg := true, ks := [.int .i64, .int .i64, .bool, .int .u8], d := .struct [(0, false, 1), (1, false, 1), (2, false, 1), (3, false, 1)] }),
  (9, { agg := false, ks := [.str], d := .str }),
  (10, { agg := false, ks := [.str], d := .str }),
  (11, { agg := false, ks := [.str], d := .str }),
  (12, { agg := false, ks := [.int .u64], d := .int .u64 }),
  (13, { agg := true, ks := [.str, .int .u64], d := .struct [(0, false, 1), (1, false, 1)] }),
  (14, { agg := true, ks := [.str, .int .u64], d := .struct [(0, false, 1), (1, false, 1)] }),
  (15, { agg := false, ks := [.ptr], d := .ptr }),
  (16, { agg := false, ks := [.ptr], d := .ptr }),
  (17, { agg := false, ks := [.ptr], d := .ptr }),
  (18, { agg := true, ks := [.ptr], d := .struct [(0, false, 1)] }),
  (19, { agg := true, ks := [.ptr], d := .struct [(0, false, 1)] }),
  (20, { agg := false, ks := [.iface], d := .other }),
  (21, { agg := false, ks := [.int .i32], d := .int .i32 }),
  (22, { agg := false, ks := [.slice], d := .slice 83 5 }),
  (23, { agg := false, ks := [.slice], d := .slice 85 9 }),
  (24, { agg := false, ks := [.slice], d := .slice 70 14 }),
  (25, { agg := true, ks := [.int .i64, .slice, .slice, .slice], d := .struct [(0, false, 1), (1, false, 1), (2, false, 1), (3, false, 1)] }),
  (26, { agg := true, ks := [.int .i64, .slice, .slice, .slice], d := .struct [(0, false, 1), (1, false, 1), (2, false, 1), (3, false, 1)] }),
  (27, { agg := false, ks := [.fn], d := .other }),
  (28, { agg := false, ks := [.fn], d := .other }),
  (29, { agg := false, ks := [.slice], d := .slice 53 5 }),
  (30, { agg := false, ks := [.slice], d := .slice 81 9 }),
  (31, { agg := false, ks := [.slice], d := .slice 76 14 }),
  (32, { agg := true, ks := [.int .i64, .slice, .slice, .slice], d := .struct [(0, false, 1), (1, false, 1), (2, false, 1), (3, false, 1)] }),
  (33, { agg := true, ks := [.int .i64, .slice, .slice, .slice], d := .struct [(0, false, 1), (1, false, 1), (2, false, 1), (3, false, 1)] }),
  (34, { agg := false, ks := [.fn], d := .other }),
  (35, { agg := false, ks := [.fn], d := .other }),
  (36, { agg := false, ks := [.fn], d := .other }),
  (37, { agg := false, ks := [.other], d := .other }),
  (38, { agg := false, ks := [.fn], d := .other }),
  (39, { agg := false, ks := [.fn], d := .other }),
  (40, { agg := false, ks := [.fn], d := .other }),
  (41, { agg := false, ks := [.fn], d := .other }),
  (42, { agg := false, ks := [.fn], d := .other }),
  (43, { agg := false, ks := [.fn], d := .other }),
  (44, { agg := false, ks := [.fn], d := .other }),
  (45, { agg := false, ks := [.fn], d := .other }),
  (46, { agg := false, ks := [.fn], d := .other }),
  (47, { agg := false, ks := [.fn], d := .other }),
  (48, { agg := false, ks := [.fn], d := .other }),
  (49, { agg := false, ks := [.fn], d := .other }),
  (50, { agg := false, ks := [.fn], d := .other }),
  (51, { agg := false, ks := [.fn], d := .other }),
  (52, { agg := true, ks := [.bool, .int .i64, .int .i64, .int .i64, .int .i64], d := .struct [(0, false, 1), (1, false, 1), (2, false, 1), (3, false, 1), (4, false, 1)] }),
  (53, { agg := true, ks := [.bool, .int .i64, .int .i64, .int .i64, .int .i64], d := .struct [(0, false, 1), (1, false, 1), (2, false, 1), (3, false, 1), (4, false, 1)] }),
  (54, { agg := false, ks := [.ptr], d := .ptr }),
  (55, { agg := true, ks := [.ptr, .int .i64], d := .struct [(0, false, 1), (1, false, 1)] }),
  (56, { agg := true, ks := [.ptr, .int .i64], d := .struct [(0, false, 1), (1, false, 1)] }),
  (57, { agg := false, ks := [.fn], d := .other }),
  (58, { agg := false, ks := [.fn], d := .other }),
  (59, { agg := false, ks := [.fn], d := .other }),
  (60, { agg := false, ks := [.fn], d := .other }),
  (61, { agg := false, ks := [.fn], d := .other }),
  (62, { agg := false, ks := [.fn], d := .other }),
  (63, { agg := false, ks := [.fn], d := .other }),
  (64, { agg := false, ks := [.slice], d := .slice 3 1 }),
  (65, { agg := false, ks := [.slice], d := .slice 4 1 }),
  (66, { agg := true, ks := [.int .i64, .int .i64, .int .i64, .slice, .slice], d := .struct [(0, false, 1), (1, false, 1), (2, false, 1), (3, false, 1), (4, false, 1)] }),
  (67, { agg := true, ks := [.int .i64, .int .i64, .int .i64, .slice, .slice], d := .struct [(0, false, 1), (1, false, 1), (2, false, 1), (3, false, 1), (4, false, 1)] }),
  (68, { agg := false, ks := [.slice], d := .slice 129 5 }),
  (69, { agg := true, ks := [.bool, .int .i64, .str, .int .i64, .int .i64, .int .i64, .int .i64, .int .i64, .int .i64, .int .i64, .int .i64, .slice, .slice, .slice], d := .struct [(0, false, 1), (1, false, 1), (2, false, 1), (3, false, 1), (4, false, 1), (5, false, 1), (6, false, 1), (7, false, 1), (8, true, 5), (13, false, 1)] }),
  (70, { agg := true, ks := [.bool, .int .i64, .str, .int .i64, .int .i64, .int .i64, .int .i64, .int .i64, .int .i64, .int .i64, .int .i64, .slice, .slice, .slice], d := .struct [(0, false, 1), (1, false, 1), (2, false, 1), (3, false, 1), (4, false, 1), (5, false, 1), (6, false, 1), (7, false, 1), (8, true, 5), (13, false, 1)] }),
  (71, { agg := false, ks := [.fn], d := .other }),
  (72, { agg := false, ks := [.fn], d := .other }),
  (73, { agg := true, ks := [.int .i64, .int .i64, .int .i64, .slice, .slice], d := .struct [(0, false, 1), (1, false, 1), (2, false, 1), (3, false, 1), (4, false, 1)] }),
  (74, { agg := false, ks := [.slice], d := .slice 107 5 }),
  (75, { agg := true, ks := [.bool, .int .i64, .str, .int .i64, .int .i64, .int .i64, .int .i64, .int .i64, .int .i64, .int .i64, .int .i64, .slice, .slice, .slice], d := .struct [(0, false, 1), (1, false, 1), (2, false, 1), (3, false, 1), (4, false, 1), (5, false, 1), (6, false, 1), (7, false, 1), (8, true, 5), (13, false, 1)] }),
  (76, { agg := true, ks := [.bool, .int .i64, .str, .int .i64, .int .i64, .int .i64, .int .i64, .int .i64, .int .i64, .int .i64, .int .i64, .slice, .slice, .slice], d := .struct [(0, false, 1), (1, false, 1), (2, false, 1), (3, false, 1), (4, false, 1), (5, false, 1), (6, false, 1), (7, false, 1), (8, true, 5), (13, false, 1)] }),
  (77, { agg := false, ks := [.fn], d := .other }),
  (78, { agg := false, ks := [.int .u64], d := .int .u64 }),
  (79, { agg := false, ks := [.fn], d := .other }),
  (80, { agg := true, ks := [.int .i64, .int .i64, .int .i64, .int .i64, .int .i64, .int .i64, .int .i64, .int .i64, .int .i64], d := .struct [(0, false, 1), (1, false, 1), (2, false, 1), (3, false, 1), (4, false, 1), (5, false, 1), (6, false, 1), (7, false, 1), (8, false, 1)] }),
  (81, { agg := true, ks := [.int .i64, .int .i64, .int .i64, .int .i64, .int .i64, .int .i64, .int .i64, .int .i64, .int .i64], d := .struct [(0, false, 1), (1, false, 1), (2, false, 1), (3, false, 1), (4, false, 1), (5, false, 1), (6, false, 1), (7, false, 1), (8, false, 1)] }),
  (82, { agg := false, ks := [.fn], d := .other }),
  (83, { agg := true, ks := [.bool, .int .i64, .int .i64, .int .i64, .int .i64], d := .struct [(0, false, 1), (1, false, 1), (2, false, 1), (3, false, 1), (4, false, 1)] }),
  (84, { agg := false, ks := [.fn], d := .other }),
  (85, { agg := true, ks := [.int .i64, .int .i64, .int .i64, .int .i64, .int .i64, .int .i64, .int .i64, .int .i64, .int .i64], d := .struct [(0, false, 1), (1, false, 1), (2, false, 1), (3, false, 1), (4, false, 1), (5, false, 1), (6, false, 1), (7, false, 1), (8, false, 1)] }),
  (86, { agg := false, ks := [.fn], d := .other }),
  (87, { agg := false, ks := [.fn], d := .other }),
  (88, { agg := false, ks := [.fn], d := .other }),
  (89, { agg := true, ks := [.fn, .fn, .fn, .fn, .fn], d := .arr 5 1 false }),
  (90, { agg := false, ks := [.fn], d := .other }),
  (91, { agg := false, ks := [.fn], d := .other }),
  (92, { agg := false, ks := [.int .i64], d := .int .i64 }),
  (93, { agg := false, ks := [.fn], d := .other }),
  (94, { agg := false, ks := [.fn], d := .other }),
  (95, { agg := false, ks := [.fn], d := .other }),
  (96, { agg := false, ks := [.fn], d := .other }),
  (97, { agg := false, ks := [.fn], d := .other }),
  (98, { agg := false, ks := [.fn], d := .other }),
  (99, { agg := false, ks := [.fn], d := .other }),
  (100, { agg := false, ks := [.fn], d := .other }),
  (101, { agg := false, ks := [.fn], d := .other }),
  (102, { agg := false, ks := [.fn], d := .other }),
  (103, { agg := false, ks := [.fn], d := .other }),
  (104, { agg := false, ks := [.fn], d := .other }),
  (105, { agg := false, ks := [.fn], d := .other }),
  (106, { agg := true, ks := [.int .i64, .bool, .int .i64, .int .i64, .int .i64], d := .struct [(0, false, 1), (1, false, 1), (2, false, 1), (3, false, 1), (4, false, 1)] }),
  (107, { agg := true, ks := [.int .i64, .bool, .int .i64, .int .i64, .int .i64], d := .struct [(0, false, 1), (1, false, 1), (2, false, 1), (3, false, 1), (4, false, 1)] }),
  (108, { agg := false, ks := [.fn], d := .other }),
  (109, { agg := false, ks := [.fn], d := .other }),
  (110, { agg := false, ks := [.fn], d := .other }),
  (111, { agg := false, ks := [.fn], d := .other }),
  (112, { agg := false, ks := [.fn], d := .other }),
  (113, { agg := false, ks := [.ptr], d := .ptr }),
  (114, { agg := false, ks := [.fn], d := .other }),
  (115, { agg := false, ks := [.fn], d := .other }),
  (116, { agg := true, ks := [.bool, .bool, .bool, .bool], d := .arr 4 1 false }),
  (117, { agg := true, ks := [.bool, .bool, .bool, .bool], d := .arr 4 1 false }),
  (118, { agg := false, ks := [.fn], d := .other }),
  (119, { agg := false, ks := [.ptr], d := .ptr }),
  (120, { agg := false, ks := [.fn], d := .other }),
  (121, { agg := false, ks := [.fn], d := .other }),
  (122, { agg := false, ks := [.fn], d := .other }),
  (123, { agg := false, ks := [.fn], d := .other }),
  (124, { agg := false, ks := [.fn], d := .other }),
  (125, { agg := false, ks := [.fn], d := .other }),
  (126, { agg := false, ks := [.fn], d := .other }),
  (127, { agg := false, ks := [.fn], d := .other }),
  (128, { agg := false, ks := [.fn], d := .other }),
  (129, { agg := true, ks := [.int .i64, .bool, .int .i64, .int .i64, .int .i64], d := .struct [(0, false, 1), (1, false, 1), (2, false, 1), (3, false, 1), (4, false, 1)] }),
  (130, { agg := false, ks := [.slice], d := .slice 138 1 }),
  (131, { agg := false, ks := [.other], d := .other }),
  (132, { agg := false, ks := [.fn], d := .other }),
  (133, { agg := true, ks := [.int .i64, .int .i64, .int .i64, .int .i64, .int .i64, .int .i64, .int .i64, .int .i64, .int .i64, .int .i64, .int .i64, .int .i64, .int .i64, .int .i64, .int .i64, .int .i64, .int .i64, .int .i64, .int .i64, .int .i64, .int .i64], d := .arr 21 1 false }),
  (134, { agg := false, ks := [.fn], d := .other }),
  (135, { agg := false, ks := [.fn], d := .other }),
  (136, { agg := false, ks := [.fn], d := .other }),
  (137, { agg := false, ks := [.fn], d := .other }),
  (138, { agg := false, ks := [.ptr], d := .ptr }),
  (139, { agg := true, ks := [.int .i64, .str, .ptr], d := .struct [(0, false, 1), (1, false, 1), (2, false, 1)] }),
  (140, { agg := true, ks := [.int .i64, .str, .ptr], d := .struct [(0, false, 1), (1, false, 1), (2, false, 1)] }),
  (141, { agg := false, ks := [.map], d := .other }),
  (142, { agg := true, ks := [.int .i64, .str], d := .struct [(0, false, 1), (1, false, 1)] }),
  (143, { agg := true, ks := [.int .i64, .str], d := .struct [(0, false, 1), (1, false, 1)] }),
  (144, { agg := false, ks := [.fn], d := .other }),
  (145, { agg := true, ks := [.ptr, .ptr, .ptr, .str], d := .struct [(0, false, 1), (1, false, 1), (2, false, 1), (3, false, 1)] }),
  (146, { agg := true, ks := [.ptr, .ptr, .ptr, .str], d := .struct [(0, false, 1), (1, false, 1), (2, false, 1), (3, false, 1)] }),
  (147, { agg := true, ks := [], d := .arr 0 1 false }),
  (148, { agg := true, ks := [], d := .other }),
  (149, { agg := true, ks := [], d := .other }),
  (150, { agg := false, ks := [.int .u32], d := .int .u32 }),
  (151, { agg := false, ks := [.int .u8], d := .int .u8 }),
  (152, { agg := false, ks := [.int .u8], d := .int .u8 }),
  (153, { agg := false, ks := [.fn], d := .other }),
  (154, { agg := false, ks := [.ptr], d := .ptr }),
  (155, { agg := false, ks := [.int .i32], d := .int .i32 }),
  (156, { agg := false, ks := [.int .i32], d := .int .i32 }),
  (157, { agg := true, ks := [.int .u64, .int .u64, .int .u32, .int .u8, .int .u8, .int .u8, .int .u8, .fn, .ptr, .int .i32, .int .i32], d := .struct [(0, false, 1), (1, false, 1), (2, false, 1), (3, false, 1), (4, false, 1), (5, false, 1), (6, false, 1), (7, false, 1), (8, false, 1), (9, false, 1), (10, false, 1)] }),
  (158, { agg := true, ks := [.int .u64, .int .u64, .int .u32, .int .u8, .int .u8, .int .u8, .int .u8, .fn, .ptr, .int .i32, .int .i32], d := .struct [(0, false, 1), (1, false, 1), (2, false, 1), (3, false, 1), (4, false, 1), (5, false, 1), (6, false, 1), (7, false, 1), (8, false, 1), (9, false, 1), (10, false, 1)] }),
  (159, { agg := false, ks := [.ptr], d := .other })]
noncomputable def pfT : List (Nat × List RK) := [
  (12, [.cell (.int .i64)]),
  (13, [.cell (.int .i64)]),
  (112, [.cell (.int .i64)]),
  (113, [.cell (.int .i64)]),
  (65, [.cell (.int .i64)]),
  (66, [.cell (.int .i64)]),
  (35, [.cell (.int .i64)]),
  (14, [.cell (.int .i64)]),
  (5, [.cell (.int .i64)]),
  (17, [.cell .bool]),
  (114, [.cell .bool]),
  (67, [.cell .bool]),
  (74, [.cell .bool]),
  (68, [.cell (.int .i64)]),
  (36, [.cell .bool]),
  (37, [.cell (.int .i64)]),
  (69, [.cell .bool]),
  (70, [.cell .bool]),
  (71, [.cell .bool]),
  (72, [.cell .bool]),
  (73, [.cell .bool]),
  (38, [.cell .bool]),
  (42, [.cell .bool]),
  (75, [.cell (.int .i64)]),
  (115, [.cell (.int .i64)]),
  (116, [.cell (.int .i64)]),
  (76, [.cell (.int .i64)]),
  (119, [.cell (.int .i64)]),
  (117, [.cell (.int .i64)]),
  (77, [.cell .bool]),
  (39, [.cell .bool]),
  (118, [.cell .bool]),
  (78, [.cell .bool]),
  (79, [.cell .bool]),
  (40, [.cell .bool]),
  (80, [.cell .bool]),
  (81, [.cell .bool]),
  (41, [.cell .bool]),
  (15, [.cell .bool]),
  (16, [.cell .bool]),
  (18, [.cell (.int .i64)]),
  (43, [.cell (.int .i64)]),
  (44, [.cell .bool]),
  (19, [.cell (.int .i64)]),
  (20, [.cell (.int .i64)]),
  (6, [.cell (.int .i64)]),
  (45, [.agg [.bool, .int .i64, .int .i64, .int .i64, .int .i64]]),
  (46, [.agg [.int .i64, .int .i64, .int .i64, .int .i64, .int .i64, .int .i64, .int .i64, .int .i64, .int .i64]]),
  (122, [.agg [.int .i64, .bool, .int .i64, .int .i64, .int .i64]]),
  (26, [.cell .bool]),
  (85, [.cell .bool]),
  (86, [.cell (.int .i64)]),
  (92, [.cell .bool]),
  (136, [.cell .bool]),
  (137, [.cell (.int .i64)]),
  (87, [.cell .bool]),
  (48, [.cell .bool]),
  (124, [.cell .bool]),
  (88, [.cell .bool]),
  (89, [.cell .bool]),
  (132, [.cell .bool]),
  (125, [.cell .bool]),
  (90, [.cell .bool]),
  (126, [.cell .bool]),
  (91, [.cell .bool]),
  (49, [.cell .bool]),
  (28, [.agg [.ptr, .int .i64]]),
  (93, [.cell .bool]),
  (94, [.cell .bool]),
  (107, [.cell .bool]),
  (95, [.cell .bool]),
  (139, [.cell (.int .i64)]),
  (138, [.cell (.int .i64)]),
  (127, [.cell (.int .i64)]),
  (96, [.cell (.int .i64)]),
  (97, [.cell .ptr]),
  (131, [.agg [.int .i64, .int .i64, .int .i64, .int .i64, .int .i64, .int .i64, .int .i64, .int .i64, .int .i64, .int .i64, .int .i64, .int .i64, .int .i64, .int .i64, .int .i64, .int .i64, .int .i64, .int .i64, .int .i64, .int .i64, .int .i64]]),
  (104, [.cell (.int .i64)]),
  (128, [.cell (.int .i64)]),
  (98, [.cell .bool]),
  (99, [.cell (.int .i64)]),
  (50, [.cell .bool]),
  (129, [.cell .bool]),
  (130, [.cell .bool]),
  (100, [.cell .bool]),
  (101, [.cell .bool]),
  (51, [.cell .bool]),
  (102, [.cell .bool]),
  (103, [.cell .bool]),
  (52, [.cell .bool]),
  (24, [.cell .bool]),
  (25, [.cell .bool]),
  (27, [.cell (.int .i64)]),
  (29, [.cell (.int .i64)]),
  (8, [.cell (.int .i64)]),
  (60, [.cell .bool]),
  (30, [.cell .bool]),
  (61, [.cell .bool]),
  (31, [.cell .bool]),
  (133, [.cell .bool]),
  (134, [.cell .bool]),
  (110, [.cell .bool]),
  (135, [.cell .bool]),
  (111, [.cell .bool]),
  (62, [.cell .bool]),
  (32, [.cell .bool]),
  (9, [.cell .bool]),
  (63, [.cell .bool]),
  (33, [.cell (.int .i64)]),
  (10, [.cell (.int .i64), .cell .bool]),
  (108, [.cell .ptr]),
  (56, [.cell .bool]),
  (64, [.cell (.int .i64)]),
  (109, [.cell (.int .i64)]),
  (59, [.cell (.int .i64)]),
  (34, [.cell (.int .i64), .cell .bool]),
  (11, [.cell (.int .i64), .cell .bool]),
  (105, [.agg [.bool, .bool, .bool, .bool]]),
  (54, [.cell (.int .i64)]),
  (58, [.cell .bool])]
noncomputable def efT : List (Nat × List RK) := [
  (2, []),
  (82, [.cell .slice]),
  (21, [.cell .slice]),
  (22, [.cell .slice]),
  (120, [.cell .slice]),
  (121, [.cell .slice]),
  (83, [.agg [.int .i64, .int .i64, .int .i64, .slice, .slice]]),
  (84, [.cell .slice]),
  (47, [.agg [.bool, .int .i64, .str, .int .i64, .int .i64, .int .i64, .int .i64, .int .i64, .int .i64, .int .i64, .int .i64, .slice, .slice, .slice]]),
  (23, [.cell .slice]),
  (7, [.agg [.int .i64, .slice, .slice, .slice]]),
  (123, [.cell .slice, .cell .bool]),
  (57, [.cell (.int .i64), .cell .bool]),
  (3, [.cell .bool]),
  (4, [.cell .bool]),
  (55, [.cell .fn]),
  (53, []),
  (106, [])]
noncomputable def ttT : List (Nat × List RK) := [(37, [.cell (.int .i64), .cell .bool])]
def bodyOf (f : Func) : Code := match f.body with
  | some c => c
  | none => .skip
theorem asc_mem {β : Type} : ∀ {l : List (Nat × β)} {f : Nat} {k : β}, asc l f = some k → (f, k) ∈ l
  | [], f, k, h => by cases h
  | p :: r, f, k, h => by
    simp only [asc] at h
    cases hb : Nat.beq p.1 f with
    | true =>
      rw [hb] at h
      simp only [cond_true, Option.some.injEq] at h
      have : p.1 = f := Nat.eq_of_beq_eq_true hb
      rw [← this, ← h]; exact List.mem_cons_self
    | false =>
      rw [hb] at h
      exact List.mem_cons_of_mem _ (asc_mem h)
theorem tbl_ok : tblOk Tryz.prog tbl = true := by kernel_rfl
theorem pf_ok : (pfT.all fun p => callableB Tryz.prog p.1) = true := by kernel_rfl
theorem ef_ok : (efT.all fun p => callableB Tryz.prog p.1) = true := by kernel_rfl
theorem mixed_ok : Tryz.prog.follows .mixedOrders = true := by kernel_rfl
theorem tok : TOk Tryz.prog (tblGet tbl) := tOk_of (l := tbl) tbl_ok
theorem pok (f : Nat) (ks : List RK) (h : asc pfT f = some ks) : Callable Tryz.prog f := callable_of (List.all_eq_true.1 pf_ok (f, ks) (asc_mem h))
theorem eok (f : Nat) (ks : List RK) (h : asc efT f = some ks) : Callable Tryz.prog f := callable_of (List.all_eq_true.1 ef_ok (f, ks) (asc_mem h))
theorem env (vis : List Nat) (n : Nat) (pm wr : Bool) (rd : Option Nat) : Env { P := Tryz.prog, T := tblGet tbl, pf := pfT, ef := efT, tt := ttT, vis := vis, n := n, pm := pm, wr := wr, rd := rd } :=
  ⟨tok, pok, eok, mixed_ok⟩
end Go.Proofs.YtnofpcbjpcoghaaGreat
