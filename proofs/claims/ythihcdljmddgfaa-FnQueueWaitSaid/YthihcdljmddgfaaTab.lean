/- Printed by wip/tools/vc.py: the types, the functions' results. -/
import Derived.Test.YthihcdljmddgfaaEng15
import Derived.Test.YthihcdljmddgfaaProg
import Derived.KernelRfl
namespace Go.Proofs.Ythihcdljmddgfaa
open Go.RowKit
set_option linter.unusedVariables false
set_option maxRecDepth 100000
set_option maxHeartbeats 1600000
def ty_int64 : TypeId := 2
def ty_int : TypeId := 3
def ty_bool : TypeId := 4
def ty_uint8 : TypeId := 5
def ty_internal_abi_BoundsErrorCode : TypeId := 6
def ty_runtime_boundsError : TypeId := 8
def ty_string : TypeId := 9
def ty_runtime_errorString : TypeId := 10
def ty_runtime_plainError : TypeId := 11
def ty_uintptr : TypeId := 12
def ty_runtime_errorAddressString : TypeId := 14
def ty_p_runtime_TypeAssertionError : TypeId := 15
def ty_p_runtime_PanicNilError : TypeId := 16
def ty_p_abi_Type : TypeId := 17
def ty_internal_runtime_maps_unhashableTypeError : TypeId := 19
def ty_interface : TypeId := 20
def ty_int32 : TypeId := 21
def ty_sl_laws_Group : TypeId := 22
def ty_sl_impl_Group : TypeId := 25
def ty_sl_uint8 : TypeId := 29
def ty_sl_impl_Entry : TypeId := 30
def ty_impl_Queue : TypeId := 32
def ty_sl_impl_QueueOp : TypeId := 33
def ty_impl_QueueOp : TypeId := 40
def ty_impl_Entry : TypeId := 44
def ty_sl_laws_Entry : TypeId := 47
def ty_laws_Queue : TypeId := 49
def ty_laws_QueueOp : TypeId := 50
def ty_sl_laws_QueueOp : TypeId := 59
def ty_sl_int : TypeId := 66
def ty_sl_bool : TypeId := 67
def ty_laws_Band : TypeId := 69
def ty_sl_laws_Shelf : TypeId := 70
def ty_laws_Group : TypeId := 72
def ty_impl_Band : TypeId := 75
def ty_sl_impl_Shelf : TypeId := 76
def ty_impl_Group : TypeId := 78
def ty_p_spec_l20Rd : TypeId := 81
def ty_p_impl_Queue : TypeId := 88
def ty_arr6_func_p_impl_Queue_impl_QueueOp_bool : TypeId := 89
def ty_p_impl_Entry : TypeId := 96
def ty_sl_p_impl_node : TypeId := 110
def ty_spec_l20Rd : TypeId := 116
def ty_arr21_int : TypeId := 120
def ty_laws_Entry : TypeId := 123
def ty_impl_Shelf : TypeId := 130
def ty_laws_Shelf : TypeId := 132
def ty_p_impl_node : TypeId := 133
def ty_impl_node : TypeId := 135
def ty_map_impl_nodeKey_int : TypeId := 136
def ty_impl_nodeKey : TypeId := 138
def ty_impl_pile_int : TypeId := 145
def ty_p_impl_pile_int : TypeId := 148
def ty_runtime_TypeAssertionError : TypeId := 151
def ty_arr0_p_runtime_PanicNilError : TypeId := 152
def ty_runtime_PanicNilError : TypeId := 154
def ty_uint32 : TypeId := 155
def ty_internal_abi_TFlag : TypeId := 156
def ty_internal_abi_Kind : TypeId := 157
def ty_p_uint8 : TypeId := 159
def ty_internal_abi_NameOff : TypeId := 160
def ty_internal_abi_TypeOff : TypeId := 161
def ty_internal_abi_Type : TypeId := 163
def ty_unsafe_Pointer : TypeId := 164
def fn_main_main : Nat := 0
def fn_gosem_cut : Nat := 1
def fn_gosem_cut_init : Nat := 2
def fn_laws_szIntS : Nat := 109
def fn_laws_szBoolS : Nat := 110
def fn_laws_szBand : Nat := 82
def fn_laws_szShelfS : Nat := 83
def fn_laws_szGroup : Nat := 37
def fn_laws_szGroupS : Nat := 9
def fn_spec_l1In : Nat := 58
def fn_spec_l6File : Nat := 111
def fn_spec_NameOk : Nat := 84
def fn_spec_l6Used : Nat := 39
def fn_spec_l6Depth : Nat := 85
def fn_spec_TreeOk : Nat := 38
def fn_spec_TreeUnder : Nat := 10
def fn_laws_toIntS : Nat := 112
def fn_laws_toBoolS : Nat := 113
def fn_laws_toBand : Nat := 86
def fn_laws_toShelf : Nat := 114
def fn_laws_toShelfS : Nat := 87
def fn_laws_toGroup : Nat := 40
def fn_laws_toGroupS : Nat := 11
def fn_impl_inRange : Nat := 55
def fn_impl_groupUsed : Nat := 42
def fn_impl_NameOk : Nat := 115
def fn_impl_node_depth : Nat := 116
def fn_impl_nodes : Nat := 88
def fn_impl_TreeOk : Nat := 41
def fn_impl_inside : Nat := 43
def fn_impl_TreeUnder : Nat := 12
def fn_laws_eqIntS : Nat := 117
def fn_laws_eqBoolS : Nat := 118
def fn_laws_eqBand : Nat := 89
def fn_laws_eqShelf : Nat := 119
def fn_laws_eqShelfS : Nat := 90
def fn_laws_eqGroup : Nat := 44
def fn_laws_eqGroupS : Nat := 13
def fn_laws_FnExactTreeUnder : Nat := 3
def fn_spec_l20Open : Nat := 45
def fn_spec_l1Weight : Nat := 101
def fn_spec_VirtualStep : Nat := 75
def fn_spec_l4Time : Nat := 79
def fn_spec_LagMost : Nat := 108
def fn_spec_l4Entry : Nat := 80
def fn_spec_QueueOk : Nat := 32
def fn_spec_l4Own : Nat := 57
def fn_spec_l4End : Nat := 60
def fn_spec_l1Max : Nat := 78
def fn_spec_l1Min : Nat := 91
def fn_spec_LagCut : Nat := 99
def fn_spec_l4Join : Nat := 59
def fn_spec_l4Least : Nat := 102
def fn_spec_QueuePick : Nat := 100
def fn_spec_l4Run : Nat := 61
def fn_spec_l4Weigh : Nat := 62
def fn_spec_l4Rise : Nat := 63
def fn_spec_QueueDo : Nat := 17
def fn_spec_l20Rd_pick : Nat := 47
def fn_spec_l20Rd_weight : Nat := 92
def fn_spec_l20Rd_units : Nat := 94
def fn_spec_l20Rd_op : Nat := 48
def fn_spec_QueueNew : Nat := 93
def fn_spec_l20Rd_queue : Nat := 46
def fn_spec_GoodQueue : Nat := 14
def fn_laws_stByte : Nat := 15
def fn_impl_timeOk : Nat := 64
def fn_impl_weightOk : Nat := 65
def fn_impl_weightSteps : Nat := 104
def fn_impl_VirtualStep : Nat := 68
def fn_impl_LagMost : Nat := 103
def fn_impl_placed : Nat := 66
def fn_impl_Queue_entry : Nat := 67
def fn_impl_QueueOk : Nat := 18
def fn_impl_LagCut : Nat := 95
def fn_impl_Queue_endSlice : Nat := 96
def fn_impl_Queue_joins : Nat := 49
def fn_impl_Queue_leaves : Nat := 50
def fn_impl_pile_int_push : Nat := 121
def fn_impl_pile_int_top : Nat := 122
def fn_impl_queueFirst : Nat := 98
def fn_impl_queueNext : Nat := 97
def fn_impl_Queue_runs : Nat := 51
def fn_impl_Queue_weighs : Nat := 52
def fn_impl_Queue_stays : Nat := 53
def fn_impl_queueCopy : Nat := 54
def fn_impl_Queue_rise : Nat := 56
def fn_impl_QueueDo : Nat := 16
def fn_laws_stQueue : Nat := 19
def fn_impl_QueueApart : Nat := 20
def fn_laws_FnQueueTop : Nat := 4
def fn_laws_szEntryS : Nat := 69
def fn_laws_szQueue : Nat := 21
def fn_laws_toEntry : Nat := 105
def fn_laws_toEntryS : Nat := 70
def fn_laws_toQueue : Nat := 22
def fn_laws_toQueueOp : Nat := 23
def fn_laws_eqEntry : Nat := 106
def fn_laws_eqEntryS : Nat := 71
def fn_laws_eqQueue : Nat := 24
def fn_laws_markEntryS : Nat := 72
def fn_laws_markQueue : Nat := 25
def fn_laws_heldEntryS : Nat := 73
def fn_laws_heldQueue : Nat := 26
def fn_laws_FnExactQueueDo : Nat := 5
def fn_impl_VirtualUnits : Nat := 74
def fn_impl_QueueWait : Nat := 27
def fn_spec_VirtualUnits : Nat := 76
def fn_spec_QueueWait : Nat := 28
def fn_laws_FnQueueWait : Nat := 6
def fn_spec_l20Rd_big : Nat := 107
def fn_spec_l20Rd_spoilt : Nat := 77
def fn_spec_DrawQueuePlay : Nat := 29
def fn_impl_QueuePlay : Nat := 30
def fn_spec_QueuePlay : Nat := 31
def fn_laws_FnQueuePlay : Nat := 7
def fn_laws_szQueueOpS : Nat := 33
def fn_laws_toQueueOpS : Nat := 34
def fn_laws_eqQueueOp : Nat := 81
def fn_laws_eqQueueOpS : Nat := 35
def fn_laws_markQueueOpS : Nat := 36
def fn_laws_FnExactQueuePlay : Nat := 8
def fn_impl_queueFirst_1 : Nat := 120
def fn_runtime_boundsError_Error : Nat := 123
def fn_runtime_boundsError_RuntimeError : Nat := 124
def fn_runtime_errorString_Error : Nat := 125
def fn_runtime_errorString_RuntimeError : Nat := 126
def fn_runtime_plainError_Error : Nat := 127
def fn_runtime_plainError_RuntimeError : Nat := 128
def fn_runtime_errorAddressString_Error : Nat := 129
def fn_runtime_errorAddressString_RuntimeError : Nat := 130
def fn_runtime_TypeAssertionError_Error : Nat := 131
def fn_runtime_TypeAssertionError_RuntimeError : Nat := 132
def fn_runtime_PanicNilError_Error : Nat := 133
def fn_runtime_PanicNilError_RuntimeError : Nat := 134
def fn_internal_abi_Type_Align : Nat := 135
def fn_internal_runtime_maps_unhashableTypeError_Error : Nat := 136
def fn_internal_runtime_maps_unhashableTypeError_RuntimeError : Nat := 137
def fn_internal_abi_Kind_String : Nat := 138
noncomputable def tbl : List (TypeId × Ty) := [
  (0, { agg := false, ks := [.other], d := .other }),
  (1, { agg := false, ks := [.fn], d := .other }),
  (2, { agg := false, ks := [.int .i64], d := .int .i64 }),
  (3, { agg := false, ks := [.int .i64], d := .int .i64 }),
  (4, { agg := false, ks := [.bool], d := .bool }),
  (5, { agg := false, ks := [.int .u8], d := .int .u8 }),
  (6, { agg := false, ks := [.int .u8], d := .int .u8 }),
  (7, { agg := true, ks := [.int .i64, .int .i64, .bool, .int .u8], d := .struct [(0, false, 1), (1, false, 1), (2, false, 1), (3, false, 1)] }),
  (8, { agg := true, ks := [.int .i64, .int .i64, .bool, .int .u8], d := .struct [(0, false, 1), (1, false, 1), (2, false, 1), (3, false, 1)] }),
  (9, { agg := false, ks := [.str], d := .str }),
  (10, { agg := false, ks := [.str], d := .str }),
  (11, { agg := false, ks := [.str], d := .str }),
  (12, { agg := false, ks := [.int .u64], d := .int .u64 }),
  (13, { agg := true, ks := [.str, .int .u64], d := .struct [(0, false, 1), (1, false, 1)] }),
  (14, { agg := true, ks := [.str, .int .u64], d := .struct [(0, false, 1), (1, false, 1)] }),
  (15, { agg := false, ks := [.ptr], d := .ptr }),
  (16, { agg := false, ks := [.ptr], d := .ptr }),
  (17, { agg := false, ks := [.ptr], d := .ptr }),
  (18, { agg := true, ks := [.ptr], d := .struct [(0, false, 1)] }),
  (19, { agg := true, ks := [.ptr], d := .struct [(0, false, 1)] }),
  (20, { agg := false, ks := [.iface], d := .other }),
  (21, { agg := false, ks := [.int .i32], d := .int .i32 }),
  (22, { agg := false, ks := [.slice], d := .slice 72 14 }),
  (23, { agg := false, ks := [.fn], d := .other }),
  (24, { agg := false, ks := [.fn], d := .other }),
  (25, { agg := false, ks := [.slice], d := .slice 78 14 }),
  (26, { agg := false, ks := [.fn], d := .other }),
  (27, { agg := false, ks := [.fn], d := .other }),
  (28, { agg := false, ks := [.fn], d := .other }),
  (29, { agg := false, ks := [.slice], d := .slice 5 1 }),
  (30, { agg := false, ks := [.slice], d := .slice 44 4 }),
  (31, { agg := true, ks := [.int .i64, .int .i64, .int .i64, .slice], d := .struct [(0, false, 1), (1, false, 1), (2, false, 1), (3, false, 1)] }),
  (32, { agg := true, ks := [.int .i64, .int .i64, .int .i64, .slice], d := .struct [(0, false, 1), (1, false, 1), (2, false, 1), (3, false, 1)] }),
  (33, { agg := false, ks := [.slice], d := .slice 40 3 }),
  (34, { agg := false, ks := [.other], d := .other }),
  (35, { agg := false, ks := [.fn], d := .other }),
  (36, { agg := false, ks := [.fn], d := .other }),
  (37, { agg := false, ks := [.other], d := .other }),
  (38, { agg := false, ks := [.fn], d := .other }),
  (39, { agg := true, ks := [.int .i64, .int .i64, .int .i64], d := .struct [(0, false, 1), (1, false, 1), (2, false, 1)] }),
  (40, { agg := true, ks := [.int .i64, .int .i64, .int .i64], d := .struct [(0, false, 1), (1, false, 1), (2, false, 1)] }),
  (41, { agg := false, ks := [.fn], d := .other }),
  (42, { agg := false, ks := [.fn], d := .other }),
  (43, { agg := true, ks := [.bool, .int .i64, .int .i64, .int .i64], d := .struct [(0, false, 1), (1, false, 1), (2, false, 1), (3, false, 1)] }),
  (44, { agg := true, ks := [.bool, .int .i64, .int .i64, .int .i64], d := .struct [(0, false, 1), (1, false, 1), (2, false, 1), (3, false, 1)] }),
  (45, { agg := false, ks := [.fn], d := .other }),
  (46, { agg := false, ks := [.fn], d := .other }),
  (47, { agg := false, ks := [.slice], d := .slice 123 4 }),
  (48, { agg := true, ks := [.int .i64, .int .i64, .int .i64, .slice], d := .struct [(0, false, 1), (1, false, 1), (2, false, 1), (3, false, 1)] }),
  (49, { agg := true, ks := [.int .i64, .int .i64, .int .i64, .slice], d := .struct [(0, false, 1), (1, false, 1), (2, false, 1), (3, false, 1)] }),
  (50, { agg := true, ks := [.int .i64, .int .i64, .int .i64], d := .struct [(0, false, 1), (1, false, 1), (2, false, 1)] }),
  (51, { agg := false, ks := [.fn], d := .other }),
  (52, { agg := false, ks := [.fn], d := .other }),
  (53, { agg := false, ks := [.fn], d := .other }),
  (54, { agg := false, ks := [.fn], d := .other }),
  (55, { agg := false, ks := [.fn], d := .other }),
  (56, { agg := false, ks := [.fn], d := .other }),
  (57, { agg := false, ks := [.other], d := .other }),
  (58, { agg := false, ks := [.fn], d := .other }),
  (59, { agg := false, ks := [.slice], d := .slice 50 3 }),
  (60, { agg := false, ks := [.fn], d := .other }),
  (61, { agg := false, ks := [.fn], d := .other }),
  (62, { agg := false, ks := [.fn], d := .other }),
  (63, { agg := false, ks := [.fn], d := .other }),
  (64, { agg := false, ks := [.fn], d := .other }),
  (65, { agg := false, ks := [.fn], d := .other }),
  (66, { agg := false, ks := [.slice], d := .slice 3 1 }),
  (67, { agg := false, ks := [.slice], d := .slice 4 1 }),
  (68, { agg := true, ks := [.int .i64, .int .i64, .int .i64, .slice, .slice], d := .struct [(0, false, 1), (1, false, 1), (2, false, 1), (3, false, 1), (4, false, 1)] }),
  (69, { agg := true, ks := [.int .i64, .int .i64, .int .i64, .slice, .slice], d := .struct [(0, false, 1), (1, false, 1), (2, false, 1), (3, false, 1), (4, false, 1)] }),
  (70, { agg := false, ks := [.slice], d := .slice 132 5 }),
  (71, { agg := true, ks := [.bool, .int .i64, .str, .int .i64, .int .i64, .int .i64, .int .i64, .int .i64, .int .i64, .int .i64, .int .i64, .slice, .slice, .slice], d := .struct [(0, false, 1), (1, false, 1), (2, false, 1), (3, false, 1), (4, false, 1), (5, false, 1), (6, false, 1), (7, false, 1), (8, true, 5), (13, false, 1)] }),
  (72, { agg := true, ks := [.bool, .int .i64, .str, .int .i64, .int .i64, .int .i64, .int .i64, .int .i64, .int .i64, .int .i64, .int .i64, .slice, .slice, .slice], d := .struct [(0, false, 1), (1, false, 1), (2, false, 1), (3, false, 1), (4, false, 1), (5, false, 1), (6, false, 1), (7, false, 1), (8, true, 5), (13, false, 1)] }),
  (73, { agg := false, ks := [.fn], d := .other }),
  (74, { agg := false, ks := [.fn], d := .other }),
  (75, { agg := true, ks := [.int .i64, .int .i64, .int .i64, .slice, .slice], d := .struct [(0, false, 1), (1, false, 1), (2, false, 1), (3, false, 1), (4, false, 1)] }),
  (76, { agg := false, ks := [.slice], d := .slice 130 5 }),
  (77, { agg := true, ks := [.bool, .int .i64, .str, .int .i64, .int .i64, .int .i64, .int .i64, .int .i64, .int .i64, .int .i64, .int .i64, .slice, .slice, .slice], d := .struct [(0, false, 1), (1, false, 1), (2, false, 1), (3, false, 1), (4, false, 1), (5, false, 1), (6, false, 1), (7, false, 1), (8, true, 5), (13, false, 1)] }),
  (78, { agg := true, ks := [.bool, .int .i64, .str, .int .i64, .int .i64, .int .i64, .int .i64, .int .i64, .int .i64, .int .i64, .int .i64, .slice, .slice, .slice], d := .struct [(0, false, 1), (1, false, 1), (2, false, 1), (3, false, 1), (4, false, 1), (5, false, 1), (6, false, 1), (7, false, 1), (8, true, 5), (13, false, 1)] }),
  (79, { agg := false, ks := [.fn], d := .other }),
  (80, { agg := false, ks := [.fn], d := .other }),
  (81, { agg := false, ks := [.ptr], d := .ptr }),
  (82, { agg := false, ks := [.fn], d := .other }),
  (83, { agg := false, ks := [.fn], d := .other }),
  (84, { agg := false, ks := [.fn], d := .other }),
  (85, { agg := false, ks := [.fn], d := .other }),
  (86, { agg := false, ks := [.fn], d := .other }),
  (87, { agg := false, ks := [.fn], d := .other }),
  (88, { agg := false, ks := [.ptr], d := .ptr }),
  (89, { agg := true, ks := [.fn, .fn, .fn, .fn, .fn, .fn], d := .arr 6 1 false }),
  (90, { agg := false, ks := [.fn], d := .other }),
  (91, { agg := false, ks := [.fn], d := .other }),
  (92, { agg := false, ks := [.fn], d := .other }),
  (93, { agg := false, ks := [.fn], d := .other }),
  (94, { agg := false, ks := [.fn], d := .other }),
  (95, { agg := false, ks := [.fn], d := .other }),
  (96, { agg := false, ks := [.ptr], d := .ptr }),
  (97, { agg := false, ks := [.fn], d := .other }),
  (98, { agg := false, ks := [.fn], d := .other }),
  (99, { agg := false, ks := [.fn], d := .other }),
  (100, { agg := false, ks := [.fn], d := .other }),
  (101, { agg := false, ks := [.fn], d := .other }),
  (102, { agg := false, ks := [.fn], d := .other }),
  (103, { agg := false, ks := [.fn], d := .other }),
  (104, { agg := false, ks := [.fn], d := .other }),
  (105, { agg := false, ks := [.fn], d := .other }),
  (106, { agg := false, ks := [.fn], d := .other }),
  (107, { agg := false, ks := [.fn], d := .other }),
  (108, { agg := false, ks := [.fn], d := .other }),
  (109, { agg := false, ks := [.fn], d := .other }),
  (110, { agg := false, ks := [.slice], d := .slice 133 1 }),
  (111, { agg := false, ks := [.other], d := .other }),
  (112, { agg := false, ks := [.fn], d := .other }),
  (113, { agg := false, ks := [.fn], d := .other }),
  (114, { agg := false, ks := [.fn], d := .other }),
  (115, { agg := true, ks := [.slice, .int .i64], d := .struct [(0, false, 1), (1, false, 1)] }),
  (116, { agg := true, ks := [.slice, .int .i64], d := .struct [(0, false, 1), (1, false, 1)] }),
  (117, { agg := false, ks := [.fn], d := .other }),
  (118, { agg := false, ks := [.fn], d := .other }),
  (119, { agg := false, ks := [.fn], d := .other }),
  (120, { agg := true, ks := [.int .i64, .int .i64, .int .i64, .int .i64, .int .i64, .int .i64, .int .i64, .int .i64, .int .i64, .int .i64, .int .i64, .int .i64, .int .i64, .int .i64, .int .i64, .int .i64, .int .i64, .int .i64, .int .i64, .int .i64, .int .i64], d := .arr 21 1 false }),
  (121, { agg := false, ks := [.fn], d := .other }),
  (122, { agg := false, ks := [.fn], d := .other }),
  (123, { agg := true, ks := [.bool, .int .i64, .int .i64, .int .i64], d := .struct [(0, false, 1), (1, false, 1), (2, false, 1), (3, false, 1)] }),
  (124, { agg := false, ks := [.fn], d := .other }),
  (125, { agg := false, ks := [.fn], d := .other }),
  (126, { agg := false, ks := [.fn], d := .other }),
  (127, { agg := false, ks := [.fn], d := .other }),
  (128, { agg := false, ks := [.fn], d := .other }),
  (129, { agg := true, ks := [.int .i64, .bool, .int .i64, .int .i64, .int .i64], d := .struct [(0, false, 1), (1, false, 1), (2, false, 1), (3, false, 1), (4, false, 1)] }),
  (130, { agg := true, ks := [.int .i64, .bool, .int .i64, .int .i64, .int .i64], d := .struct [(0, false, 1), (1, false, 1), (2, false, 1), (3, false, 1), (4, false, 1)] }),
  (131, { agg := false, ks := [.fn], d := .other }),
  (132, { agg := true, ks := [.int .i64, .bool, .int .i64, .int .i64, .int .i64], d := .struct [(0, false, 1), (1, false, 1), (2, false, 1), (3, false, 1), (4, false, 1)] }),
  (133, { agg := false, ks := [.ptr], d := .ptr }),
  (134, { agg := true, ks := [.int .i64, .str, .ptr], d := .struct [(0, false, 1), (1, false, 1), (2, false, 1)] }),
  (135, { agg := true, ks := [.int .i64, .str, .ptr], d := .struct [(0, false, 1), (1, false, 1), (2, false, 1)] }),
  (136, { agg := false, ks := [.map], d := .other }),
  (137, { agg := true, ks := [.int .i64, .str], d := .struct [(0, false, 1), (1, false, 1)] }),
  (138, { agg := true, ks := [.int .i64, .str], d := .struct [(0, false, 1), (1, false, 1)] }),
  (139, { agg := false, ks := [.other], d := .other }),
  (140, { agg := false, ks := [.fn], d := .other }),
  (141, { agg := false, ks := [.fn], d := .other }),
  (142, { agg := false, ks := [.fn], d := .other }),
  (143, { agg := false, ks := [.fn], d := .other }),
  (144, { agg := true, ks := [.slice, .fn], d := .struct [(0, false, 1), (1, false, 1)] }),
  (145, { agg := true, ks := [.slice, .fn], d := .struct [(0, false, 1), (1, false, 1)] }),
  (146, { agg := false, ks := [.fn], d := .other }),
  (147, { agg := false, ks := [.fn], d := .other }),
  (148, { agg := false, ks := [.ptr], d := .ptr }),
  (149, { agg := false, ks := [.fn], d := .other }),
  (150, { agg := true, ks := [.ptr, .ptr, .ptr, .str], d := .struct [(0, false, 1), (1, false, 1), (2, false, 1), (3, false, 1)] }),
  (151, { agg := true, ks := [.ptr, .ptr, .ptr, .str], d := .struct [(0, false, 1), (1, false, 1), (2, false, 1), (3, false, 1)] }),
  (152, { agg := true, ks := [], d := .arr 0 1 false }),
  (153, { agg := true, ks := [], d := .other }),
  (154, { agg := true, ks := [], d := .other }),
  (155, { agg := false, ks := [.int .u32], d := .int .u32 }),
  (156, { agg := false, ks := [.int .u8], d := .int .u8 }),
  (157, { agg := false, ks := [.int .u8], d := .int .u8 }),
  (158, { agg := false, ks := [.fn], d := .other }),
  (159, { agg := false, ks := [.ptr], d := .ptr }),
  (160, { agg := false, ks := [.int .i32], d := .int .i32 }),
  (161, { agg := false, ks := [.int .i32], d := .int .i32 }),
  (162, { agg := true, ks := [.int .u64, .int .u64, .int .u32, .int .u8, .int .u8, .int .u8, .int .u8, .fn, .ptr, .int .i32, .int .i32], d := .struct [(0, false, 1), (1, false, 1), (2, false, 1), (3, false, 1), (4, false, 1), (5, false, 1), (6, false, 1), (7, false, 1), (8, false, 1), (9, false, 1), (10, false, 1)] }),
  (163, { agg := true, ks := [.int .u64, .int .u64, .int .u32, .int .u8, .int .u8, .int .u8, .int .u8, .fn, .ptr, .int .i32, .int .i32], d := .struct [(0, false, 1), (1, false, 1), (2, false, 1), (3, false, 1), (4, false, 1), (5, false, 1), (6, false, 1), (7, false, 1), (8, false, 1), (9, false, 1), (10, false, 1)] }),
  (164, { agg := false, ks := [.ptr], d := .other })]
noncomputable def pfT : List (Nat × List RK) := [
  (109, [.cell (.int .i64)]),
  (110, [.cell (.int .i64)]),
  (82, [.cell (.int .i64)]),
  (83, [.cell (.int .i64)]),
  (37, [.cell (.int .i64)]),
  (9, [.cell (.int .i64)]),
  (58, [.cell .bool]),
  (111, [.cell .bool]),
  (84, [.cell .bool]),
  (39, [.cell .bool]),
  (85, [.cell (.int .i64)]),
  (38, [.cell .bool]),
  (10, [.cell .bool]),
  (114, [.agg [.int .i64, .bool, .int .i64, .int .i64, .int .i64]]),
  (55, [.cell .bool]),
  (42, [.cell .bool]),
  (115, [.cell .bool]),
  (116, [.cell (.int .i64)]),
  (41, [.cell .bool]),
  (43, [.cell .bool]),
  (12, [.cell .bool]),
  (117, [.cell .bool]),
  (118, [.cell .bool]),
  (89, [.cell .bool]),
  (119, [.cell .bool]),
  (90, [.cell .bool]),
  (44, [.cell .bool]),
  (13, [.cell .bool]),
  (101, [.cell .bool]),
  (75, [.cell (.int .i64)]),
  (79, [.cell .bool]),
  (108, [.cell (.int .i64)]),
  (80, [.cell .bool]),
  (32, [.cell .bool]),
  (60, [.agg [.int .i64, .int .i64, .int .i64, .slice]]),
  (78, [.cell (.int .i64)]),
  (91, [.cell (.int .i64)]),
  (99, [.cell (.int .i64)]),
  (102, [.cell (.int .i64)]),
  (100, [.cell (.int .i64)]),
  (63, [.agg [.int .i64, .int .i64, .int .i64, .slice]]),
  (15, [.cell (.int .i64)]),
  (64, [.cell .bool]),
  (65, [.cell .bool]),
  (104, [.agg [.int .i64, .int .i64, .int .i64, .int .i64, .int .i64, .int .i64, .int .i64, .int .i64, .int .i64, .int .i64, .int .i64, .int .i64, .int .i64, .int .i64, .int .i64, .int .i64, .int .i64, .int .i64, .int .i64, .int .i64, .int .i64]]),
  (68, [.cell (.int .i64)]),
  (103, [.cell (.int .i64)]),
  (66, [.cell .bool]),
  (67, [.cell .ptr]),
  (18, [.cell .bool]),
  (95, [.cell (.int .i64)]),
  (122, [.cell (.int .i64), .cell .bool]),
  (98, [.cell (.int .i64)]),
  (97, [.cell (.int .i64)]),
  (19, [.cell .bool]),
  (20, [.cell (.int .i64)]),
  (69, [.cell (.int .i64)]),
  (21, [.cell (.int .i64)]),
  (105, [.agg [.bool, .int .i64, .int .i64, .int .i64]]),
  (23, [.agg [.int .i64, .int .i64, .int .i64]]),
  (106, [.cell .bool]),
  (71, [.cell .bool]),
  (24, [.cell .bool]),
  (73, [.cell (.int .i64)]),
  (26, [.cell (.int .i64)]),
  (74, [.cell (.int .i64)]),
  (27, [.cell (.int .i64)]),
  (76, [.cell (.int .i64)]),
  (28, [.cell (.int .i64)]),
  (33, [.cell (.int .i64)]),
  (81, [.cell .bool]),
  (35, [.cell .bool]),
  (120, [.cell .bool])]
noncomputable def efT : List (Nat × List RK) := [
  (2, []),
  (112, [.cell .slice]),
  (113, [.cell .slice]),
  (86, [.agg [.int .i64, .int .i64, .int .i64, .slice, .slice]]),
  (87, [.cell .slice]),
  (40, [.agg [.bool, .int .i64, .str, .int .i64, .int .i64, .int .i64, .int .i64, .int .i64, .int .i64, .int .i64, .int .i64, .slice, .slice, .slice]]),
  (11, [.cell .slice]),
  (88, [.cell .slice, .cell .bool]),
  (3, [.cell .bool]),
  (45, [.cell .ptr]),
  (57, [.agg [.int .i64, .int .i64, .int .i64, .slice]]),
  (59, [.agg [.int .i64, .int .i64, .int .i64, .slice], .cell .bool]),
  (61, [.agg [.int .i64, .int .i64, .int .i64, .slice], .cell .bool]),
  (62, [.agg [.int .i64, .int .i64, .int .i64, .slice], .cell .bool]),
  (17, [.agg [.int .i64, .int .i64, .int .i64, .slice], .cell .bool]),
  (47, [.cell (.int .i64)]),
  (92, [.cell (.int .i64)]),
  (94, [.cell (.int .i64)]),
  (48, [.agg [.int .i64, .int .i64, .int .i64]]),
  (93, [.agg [.int .i64, .int .i64, .int .i64, .slice], .cell .bool]),
  (46, [.agg [.int .i64, .int .i64, .int .i64, .slice]]),
  (14, [.agg [.int .i64, .int .i64, .int .i64, .slice], .cell .slice]),
  (96, []),
  (49, [.cell .bool]),
  (50, [.cell .bool]),
  (121, []),
  (51, [.cell .bool]),
  (52, [.cell .bool]),
  (53, [.cell .bool]),
  (54, [.agg [.int .i64, .int .i64, .int .i64, .slice]]),
  (56, []),
  (16, [.agg [.int .i64, .int .i64, .int .i64, .slice], .cell .bool]),
  (4, [.cell .bool]),
  (70, [.cell .slice]),
  (22, [.agg [.int .i64, .int .i64, .int .i64, .slice]]),
  (72, [.cell (.int .i64)]),
  (25, [.cell (.int .i64)]),
  (5, [.cell .bool]),
  (6, [.cell .bool]),
  (107, [.cell (.int .i64)]),
  (77, [.agg [.int .i64, .int .i64, .int .i64, .slice]]),
  (29, [.agg [.int .i64, .int .i64, .int .i64, .slice], .cell .slice]),
  (30, [.agg [.int .i64, .int .i64, .int .i64, .slice], .cell (.int .i64)]),
  (31, [.agg [.int .i64, .int .i64, .int .i64, .slice], .cell (.int .i64)]),
  (7, [.cell .bool]),
  (34, [.cell .slice]),
  (36, [.cell (.int .i64)]),
  (8, [.cell .bool])]
noncomputable def ttT : List (Nat × List RK) := [(139, [.cell (.int .i64), .cell .bool])]
def bodyOf (f : Func) : Code := match f.body with
  | some c => c
  | none => .skip
theorem asc_mem {β : Type} : ∀ {l : List (Nat × β)} {f : Nat} {k : β}, asc l f = some k → (f, k) ∈ l
  | [], f, k, h => by cases h
  | p :: r, f, k, h => by
    simp only [asc] at h
    cases hb : Nat.beq p.1 f with
    | true =>
      rw [hb] at h
      simp only [cond_true, Option.some.injEq] at h
      have : p.1 = f := Nat.eq_of_beq_eq_true hb
      rw [← this, ← h]; exact List.mem_cons_self
    | false =>
      rw [hb] at h
      exact List.mem_cons_of_mem _ (asc_mem h)
theorem tbl_ok : tblOk Try.prog tbl = true := by kernel_rfl
theorem pf_ok : (pfT.all fun p => callableB Try.prog p.1) = true := by kernel_rfl
theorem ef_ok : (efT.all fun p => callableB Try.prog p.1) = true := by kernel_rfl
theorem mixed_ok : Try.prog.follows .mixedOrders = true := by kernel_rfl
theorem tok : TOk Try.prog (tblGet tbl) := tOk_of (l := tbl) tbl_ok
theorem pok (f : Nat) (ks : List RK) (h : asc pfT f = some ks) : Callable Try.prog f := callable_of (List.all_eq_true.1 pf_ok (f, ks) (asc_mem h))
theorem eok (f : Nat) (ks : List RK) (h : asc efT f = some ks) : Callable Try.prog f := callable_of (List.all_eq_true.1 ef_ok (f, ks) (asc_mem h))
theorem env (vis : List Nat) (n : Nat) (pm : Bool) : Env { P := Try.prog, T := tblGet tbl, pf := pfT, ef := efT, tt := ttT, vis := vis, n := n, pm := pm } :=
  ⟨tok, pok, eok, mixed_ok⟩
end Go.Proofs.Ythihcdljmddgfaa
