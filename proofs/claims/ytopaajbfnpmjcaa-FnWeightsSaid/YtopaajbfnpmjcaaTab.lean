/- Printed by wip/tools/vc.py: the types, the functions' results. -/
import Derived.Test.YtopaajbfnpmjcaaEng15
import Derived.Test.YtopaajbfnpmjcaaProg
import Derived.KernelRfl
namespace Go.Proofs.Ytopaajbfnpmjcaa
open Go.RowKit
set_option maxRecDepth 100000
def ty_int64 : TypeId := 2
def ty_int : TypeId := 3
def ty_bool : TypeId := 4
def ty_uint8 : TypeId := 5
def ty_internal_abi_BoundsErrorCode : TypeId := 6
def ty_runtime_boundsError : TypeId := 8
def ty_string : TypeId := 9
def ty_runtime_errorString : TypeId := 10
def ty_runtime_plainError : TypeId := 11
def ty_uintptr : TypeId := 12
def ty_runtime_errorAddressString : TypeId := 14
def ty_p_runtime_TypeAssertionError : TypeId := 15
def ty_p_runtime_PanicNilError : TypeId := 16
def ty_p_abi_Type : TypeId := 17
def ty_internal_runtime_maps_unhashableTypeError : TypeId := 19
def ty_interface : TypeId := 20
def ty_int32 : TypeId := 21
def ty_sl_uint8 : TypeId := 22
def ty_sl_laws_Group : TypeId := 30
def ty_sl_impl_Group : TypeId := 33
def ty_sl_impl_Entry : TypeId := 37
def ty_impl_Queue : TypeId := 39
def ty_sl_impl_QueueOp : TypeId := 40
def ty_impl_QueueOp : TypeId := 47
def ty_impl_Entry : TypeId := 51
def ty_sl_laws_Entry : TypeId := 52
def ty_laws_Queue : TypeId := 54
def ty_laws_QueueOp : TypeId := 55
def ty_p_spec_l20Rd : TypeId := 62
def ty_sl_int : TypeId := 65
def ty_arr21_int : TypeId := 68
def ty_sl_bool : TypeId := 71
def ty_laws_Band : TypeId := 73
def ty_sl_laws_Shelf : TypeId := 74
def ty_laws_Group : TypeId := 76
def ty_impl_Band : TypeId := 79
def ty_sl_impl_Shelf : TypeId := 80
def ty_impl_Group : TypeId := 82
def ty_p_impl_Queue : TypeId := 89
def ty_arr6_func_p_impl_Queue_impl_QueueOp_bool : TypeId := 90
def ty_p_impl_Entry : TypeId := 95
def ty_spec_l20Rd : TypeId := 102
def ty_sl_p_impl_node : TypeId := 109
def ty_laws_Entry : TypeId := 118
def ty_impl_Shelf : TypeId := 125
def ty_laws_Shelf : TypeId := 127
def ty_p_impl_node : TypeId := 128
def ty_impl_node : TypeId := 130
def ty_map_impl_nodeKey_int : TypeId := 131
def ty_impl_nodeKey : TypeId := 133
def ty_impl_pile_int : TypeId := 139
def ty_p_impl_pile_int : TypeId := 142
def ty_runtime_TypeAssertionError : TypeId := 145
def ty_arr0_p_runtime_PanicNilError : TypeId := 146
def ty_runtime_PanicNilError : TypeId := 148
def ty_uint32 : TypeId := 149
def ty_internal_abi_TFlag : TypeId := 150
def ty_internal_abi_Kind : TypeId := 151
def ty_p_uint8 : TypeId := 153
def ty_internal_abi_NameOff : TypeId := 154
def ty_internal_abi_TypeOff : TypeId := 155
def ty_internal_abi_Type : TypeId := 157
def ty_unsafe_Pointer : TypeId := 158
def fn_spec_l20Open : Nat := 38
def fn_spec_l20Rd_pick : Nat := 39
def fn_spec_l20Rd_big : Nat := 40
def fn_spec_l20Rd_weight : Nat := 41
def fn_spec_DrawVirtualStep : Nat := 8
def fn_impl_inRange : Nat := 42
def fn_impl_weightOk : Nat := 43
def fn_impl_weightSteps : Nat := 44
def fn_impl_VirtualStep : Nat := 9
def fn_spec_l1In : Nat := 46
def fn_spec_l1Weight : Nat := 45
def fn_spec_VirtualStep : Nat := 10
def fn_impl_VirtualUnits : Nat := 11
def fn_spec_LagMost : Nat := 47
def fn_spec_DrawLagCut : Nat := 12
def fn_impl_LagMost : Nat := 15
def fn_impl_LagCut : Nat := 13
def fn_spec_l1Min : Nat := 48
def fn_spec_l1Max : Nat := 49
def fn_spec_LagCut : Nat := 14
def fn_impl_NiceOf : Nat := 16
def fn_impl_niceOk : Nat := 50
def fn_impl_WeightOf : Nat := 17
def fn_laws_FnWeights : Nat := 3
noncomputable def tbl : List (TypeId × Ty) := [
  (0, { agg := false, ks := [.other], d := .other }),
  (1, { agg := false, ks := [.fn], d := .other }),
  (2, { agg := false, ks := [.int .i64], d := .int .i64 }),
  (3, { agg := false, ks := [.int .i64], d := .int .i64 }),
  (4, { agg := false, ks := [.bool], d := .bool }),
  (5, { agg := false, ks := [.int .u8], d := .int .u8 }),
  (6, { agg := false, ks := [.int .u8], d := .int .u8 }),
  (7, { agg := true, ks := [.int .i64, .int .i64, .bool, .int .u8], d := .struct [(0, false, 1), (1, false, 1), (2, false, 1), (3, false, 1)] }),
  (8, { agg := true, ks := [.int .i64, .int .i64, .bool, .int .u8], d := .struct [(0, false, 1), (1, false, 1), (2, false, 1), (3, false, 1)] }),
  (9, { agg := false, ks := [.str], d := .str }),
  (10, { agg := false, ks := [.str], d := .str }),
  (11, { agg := false, ks := [.str], d := .str }),
  (12, { agg := false, ks := [.int .u64], d := .int .u64 }),
  (13, { agg := true, ks := [.str, .int .u64], d := .struct [(0, false, 1), (1, false, 1)] }),
  (14, { agg := true, ks := [.str, .int .u64], d := .struct [(0, false, 1), (1, false, 1)] }),
  (15, { agg := false, ks := [.ptr], d := .ptr }),
  (16, { agg := false, ks := [.ptr], d := .ptr }),
  (17, { agg := false, ks := [.ptr], d := .ptr }),
  (18, { agg := true, ks := [.ptr], d := .struct [(0, false, 1)] }),
  (19, { agg := true, ks := [.ptr], d := .struct [(0, false, 1)] }),
  (20, { agg := false, ks := [.iface], d := .other }),
  (21, { agg := false, ks := [.int .i32], d := .int .i32 }),
  (22, { agg := false, ks := [.slice], d := .slice 5 1 }),
  (23, { agg := false, ks := [.other], d := .other }),
  (24, { agg := false, ks := [.fn], d := .other }),
  (25, { agg := false, ks := [.fn], d := .other }),
  (26, { agg := false, ks := [.fn], d := .other }),
  (27, { agg := false, ks := [.other], d := .other }),
  (28, { agg := false, ks := [.fn], d := .other }),
  (29, { agg := false, ks := [.fn], d := .other }),
  (30, { agg := false, ks := [.slice], d := .slice 76 14 }),
  (31, { agg := false, ks := [.fn], d := .other }),
  (32, { agg := false, ks := [.fn], d := .other }),
  (33, { agg := false, ks := [.slice], d := .slice 82 14 }),
  (34, { agg := false, ks := [.fn], d := .other }),
  (35, { agg := false, ks := [.fn], d := .other }),
  (36, { agg := false, ks := [.fn], d := .other }),
  (37, { agg := false, ks := [.slice], d := .slice 51 4 }),
  (38, { agg := true, ks := [.int .i64, .int .i64, .int .i64, .slice], d := .struct [(0, false, 1), (1, false, 1), (2, false, 1), (3, false, 1)] }),
  (39, { agg := true, ks := [.int .i64, .int .i64, .int .i64, .slice], d := .struct [(0, false, 1), (1, false, 1), (2, false, 1), (3, false, 1)] }),
  (40, { agg := false, ks := [.slice], d := .slice 47 3 }),
  (41, { agg := false, ks := [.other], d := .other }),
  (42, { agg := false, ks := [.fn], d := .other }),
  (43, { agg := false, ks := [.fn], d := .other }),
  (44, { agg := false, ks := [.other], d := .other }),
  (45, { agg := false, ks := [.fn], d := .other }),
  (46, { agg := true, ks := [.int .i64, .int .i64, .int .i64], d := .struct [(0, false, 1), (1, false, 1), (2, false, 1)] }),
  (47, { agg := true, ks := [.int .i64, .int .i64, .int .i64], d := .struct [(0, false, 1), (1, false, 1), (2, false, 1)] }),
  (48, { agg := false, ks := [.fn], d := .other }),
  (49, { agg := false, ks := [.fn], d := .other }),
  (50, { agg := true, ks := [.bool, .int .i64, .int .i64, .int .i64], d := .struct [(0, false, 1), (1, false, 1), (2, false, 1), (3, false, 1)] }),
  (51, { agg := true, ks := [.bool, .int .i64, .int .i64, .int .i64], d := .struct [(0, false, 1), (1, false, 1), (2, false, 1), (3, false, 1)] }),
  (52, { agg := false, ks := [.slice], d := .slice 118 4 }),
  (53, { agg := true, ks := [.int .i64, .int .i64, .int .i64, .slice], d := .struct [(0, false, 1), (1, false, 1), (2, false, 1), (3, false, 1)] }),
  (54, { agg := true, ks := [.int .i64, .int .i64, .int .i64, .slice], d := .struct [(0, false, 1), (1, false, 1), (2, false, 1), (3, false, 1)] }),
  (55, { agg := true, ks := [.int .i64, .int .i64, .int .i64], d := .struct [(0, false, 1), (1, false, 1), (2, false, 1)] }),
  (56, { agg := false, ks := [.fn], d := .other }),
  (57, { agg := false, ks := [.fn], d := .other }),
  (58, { agg := false, ks := [.fn], d := .other }),
  (59, { agg := false, ks := [.fn], d := .other }),
  (60, { agg := false, ks := [.fn], d := .other }),
  (61, { agg := false, ks := [.fn], d := .other }),
  (62, { agg := false, ks := [.ptr], d := .ptr }),
  (63, { agg := false, ks := [.fn], d := .other }),
  (64, { agg := false, ks := [.fn], d := .other }),
  (65, { agg := false, ks := [.slice], d := .slice 3 1 }),
  (66, { agg := false, ks := [.fn], d := .other }),
  (67, { agg := false, ks := [.fn], d := .other }),
  (68, { agg := true, ks := [.int .i64, .int .i64, .int .i64, .int .i64, .int .i64, .int .i64, .int .i64, .int .i64, .int .i64, .int .i64, .int .i64, .int .i64, .int .i64, .int .i64, .int .i64, .int .i64, .int .i64, .int .i64, .int .i64, .int .i64, .int .i64], d := .arr 21 1 false }),
  (69, { agg := false, ks := [.fn], d := .other }),
  (70, { agg := false, ks := [.fn], d := .other }),
  (71, { agg := false, ks := [.slice], d := .slice 4 1 }),
  (72, { agg := true, ks := [.int .i64, .int .i64, .int .i64, .slice, .slice], d := .struct [(0, false, 1), (1, false, 1), (2, false, 1), (3, false, 1), (4, false, 1)] }),
  (73, { agg := true, ks := [.int .i64, .int .i64, .int .i64, .slice, .slice], d := .struct [(0, false, 1), (1, false, 1), (2, false, 1), (3, false, 1), (4, false, 1)] }),
  (74, { agg := false, ks := [.slice], d := .slice 127 5 }),
  (75, { agg := true, ks := [.bool, .int .i64, .str, .int .i64, .int .i64, .int .i64, .int .i64, .int .i64, .int .i64, .int .i64, .int .i64, .slice, .slice, .slice], d := .struct [(0, false, 1), (1, false, 1), (2, false, 1), (3, false, 1), (4, false, 1), (5, false, 1), (6, false, 1), (7, false, 1), (8, true, 5), (13, false, 1)] }),
  (76, { agg := true, ks := [.bool, .int .i64, .str, .int .i64, .int .i64, .int .i64, .int .i64, .int .i64, .int .i64, .int .i64, .int .i64, .slice, .slice, .slice], d := .struct [(0, false, 1), (1, false, 1), (2, false, 1), (3, false, 1), (4, false, 1), (5, false, 1), (6, false, 1), (7, false, 1), (8, true, 5), (13, false, 1)] }),
  (77, { agg := false, ks := [.fn], d := .other }),
  (78, { agg := false, ks := [.fn], d := .other }),
  (79, { agg := true, ks := [.int .i64, .int .i64, .int .i64, .slice, .slice], d := .struct [(0, false, 1), (1, false, 1), (2, false, 1), (3, false, 1), (4, false, 1)] }),
  (80, { agg := false, ks := [.slice], d := .slice 125 5 }),
  (81, { agg := true, ks := [.bool, .int .i64, .str, .int .i64, .int .i64, .int .i64, .int .i64, .int .i64, .int .i64, .int .i64, .int .i64, .slice, .slice, .slice], d := .struct [(0, false, 1), (1, false, 1), (2, false, 1), (3, false, 1), (4, false, 1), (5, false, 1), (6, false, 1), (7, false, 1), (8, true, 5), (13, false, 1)] }),
  (82, { agg := true, ks := [.bool, .int .i64, .str, .int .i64, .int .i64, .int .i64, .int .i64, .int .i64, .int .i64, .int .i64, .int .i64, .slice, .slice, .slice], d := .struct [(0, false, 1), (1, false, 1), (2, false, 1), (3, false, 1), (4, false, 1), (5, false, 1), (6, false, 1), (7, false, 1), (8, true, 5), (13, false, 1)] }),
  (83, { agg := false, ks := [.fn], d := .other }),
  (84, { agg := false, ks := [.fn], d := .other }),
  (85, { agg := false, ks := [.fn], d := .other }),
  (86, { agg := false, ks := [.fn], d := .other }),
  (87, { agg := false, ks := [.fn], d := .other }),
  (88, { agg := false, ks := [.fn], d := .other }),
  (89, { agg := false, ks := [.ptr], d := .ptr }),
  (90, { agg := true, ks := [.fn, .fn, .fn, .fn, .fn, .fn], d := .arr 6 1 false }),
  (91, { agg := false, ks := [.fn], d := .other }),
  (92, { agg := false, ks := [.fn], d := .other }),
  (93, { agg := false, ks := [.fn], d := .other }),
  (94, { agg := false, ks := [.fn], d := .other }),
  (95, { agg := false, ks := [.ptr], d := .ptr }),
  (96, { agg := false, ks := [.fn], d := .other }),
  (97, { agg := false, ks := [.fn], d := .other }),
  (98, { agg := false, ks := [.fn], d := .other }),
  (99, { agg := false, ks := [.fn], d := .other }),
  (100, { agg := false, ks := [.fn], d := .other }),
  (101, { agg := true, ks := [.slice, .int .i64], d := .struct [(0, false, 1), (1, false, 1)] }),
  (102, { agg := true, ks := [.slice, .int .i64], d := .struct [(0, false, 1), (1, false, 1)] }),
  (103, { agg := false, ks := [.fn], d := .other }),
  (104, { agg := false, ks := [.fn], d := .other }),
  (105, { agg := false, ks := [.fn], d := .other }),
  (106, { agg := false, ks := [.fn], d := .other }),
  (107, { agg := false, ks := [.fn], d := .other }),
  (108, { agg := false, ks := [.fn], d := .other }),
  (109, { agg := false, ks := [.slice], d := .slice 128 1 }),
  (110, { agg := false, ks := [.other], d := .other }),
  (111, { agg := false, ks := [.fn], d := .other }),
  (112, { agg := false, ks := [.fn], d := .other }),
  (113, { agg := false, ks := [.fn], d := .other }),
  (114, { agg := false, ks := [.fn], d := .other }),
  (115, { agg := false, ks := [.fn], d := .other }),
  (116, { agg := false, ks := [.fn], d := .other }),
  (117, { agg := false, ks := [.fn], d := .other }),
  (118, { agg := true, ks := [.bool, .int .i64, .int .i64, .int .i64], d := .struct [(0, false, 1), (1, false, 1), (2, false, 1), (3, false, 1)] }),
  (119, { agg := false, ks := [.fn], d := .other }),
  (120, { agg := false, ks := [.fn], d := .other }),
  (121, { agg := false, ks := [.fn], d := .other }),
  (122, { agg := false, ks := [.fn], d := .other }),
  (123, { agg := false, ks := [.fn], d := .other }),
  (124, { agg := true, ks := [.int .i64, .bool, .int .i64, .int .i64, .int .i64], d := .struct [(0, false, 1), (1, false, 1), (2, false, 1), (3, false, 1), (4, false, 1)] }),
  (125, { agg := true, ks := [.int .i64, .bool, .int .i64, .int .i64, .int .i64], d := .struct [(0, false, 1), (1, false, 1), (2, false, 1), (3, false, 1), (4, false, 1)] }),
  (126, { agg := false, ks := [.fn], d := .other }),
  (127, { agg := true, ks := [.int .i64, .bool, .int .i64, .int .i64, .int .i64], d := .struct [(0, false, 1), (1, false, 1), (2, false, 1), (3, false, 1), (4, false, 1)] }),
  (128, { agg := false, ks := [.ptr], d := .ptr }),
  (129, { agg := true, ks := [.int .i64, .str, .ptr], d := .struct [(0, false, 1), (1, false, 1), (2, false, 1)] }),
  (130, { agg := true, ks := [.int .i64, .str, .ptr], d := .struct [(0, false, 1), (1, false, 1), (2, false, 1)] }),
  (131, { agg := false, ks := [.map], d := .other }),
  (132, { agg := true, ks := [.int .i64, .str], d := .struct [(0, false, 1), (1, false, 1)] }),
  (133, { agg := true, ks := [.int .i64, .str], d := .struct [(0, false, 1), (1, false, 1)] }),
  (134, { agg := false, ks := [.fn], d := .other }),
  (135, { agg := false, ks := [.fn], d := .other }),
  (136, { agg := false, ks := [.fn], d := .other }),
  (137, { agg := false, ks := [.fn], d := .other }),
  (138, { agg := true, ks := [.slice, .fn], d := .struct [(0, false, 1), (1, false, 1)] }),
  (139, { agg := true, ks := [.slice, .fn], d := .struct [(0, false, 1), (1, false, 1)] }),
  (140, { agg := false, ks := [.fn], d := .other }),
  (141, { agg := false, ks := [.fn], d := .other }),
  (142, { agg := false, ks := [.ptr], d := .ptr }),
  (143, { agg := false, ks := [.fn], d := .other }),
  (144, { agg := true, ks := [.ptr, .ptr, .ptr, .str], d := .struct [(0, false, 1), (1, false, 1), (2, false, 1), (3, false, 1)] }),
  (145, { agg := true, ks := [.ptr, .ptr, .ptr, .str], d := .struct [(0, false, 1), (1, false, 1), (2, false, 1), (3, false, 1)] }),
  (146, { agg := true, ks := [], d := .arr 0 1 false }),
  (147, { agg := true, ks := [], d := .other }),
  (148, { agg := true, ks := [], d := .other }),
  (149, { agg := false, ks := [.int .u32], d := .int .u32 }),
  (150, { agg := false, ks := [.int .u8], d := .int .u8 }),
  (151, { agg := false, ks := [.int .u8], d := .int .u8 }),
  (152, { agg := false, ks := [.fn], d := .other }),
  (153, { agg := false, ks := [.ptr], d := .ptr }),
  (154, { agg := false, ks := [.int .i32], d := .int .i32 }),
  (155, { agg := false, ks := [.int .i32], d := .int .i32 }),
  (156, { agg := true, ks := [.int .u64, .int .u64, .int .u32, .int .u8, .int .u8, .int .u8, .int .u8, .fn, .ptr, .int .i32, .int .i32], d := .struct [(0, false, 1), (1, false, 1), (2, false, 1), (3, false, 1), (4, false, 1), (5, false, 1), (6, false, 1), (7, false, 1), (8, false, 1), (9, false, 1), (10, false, 1)] }),
  (157, { agg := true, ks := [.int .u64, .int .u64, .int .u32, .int .u8, .int .u8, .int .u8, .int .u8, .fn, .ptr, .int .i32, .int .i32], d := .struct [(0, false, 1), (1, false, 1), (2, false, 1), (3, false, 1), (4, false, 1), (5, false, 1), (6, false, 1), (7, false, 1), (8, false, 1), (9, false, 1), (10, false, 1)] }),
  (158, { agg := false, ks := [.ptr], d := .other })]
noncomputable def pfT : List (Nat × List RK) := [
  (42, [.cell .bool]),
  (43, [.cell .bool]),
  (44, [.agg [.int .i64, .int .i64, .int .i64, .int .i64, .int .i64, .int .i64, .int .i64, .int .i64, .int .i64, .int .i64, .int .i64, .int .i64, .int .i64, .int .i64, .int .i64, .int .i64, .int .i64, .int .i64, .int .i64, .int .i64, .int .i64]]),
  (9, [.cell (.int .i64)]),
  (46, [.cell .bool]),
  (45, [.cell .bool]),
  (10, [.cell (.int .i64)]),
  (11, [.cell (.int .i64)]),
  (47, [.cell (.int .i64)]),
  (15, [.cell (.int .i64)]),
  (13, [.cell (.int .i64)]),
  (48, [.cell (.int .i64)]),
  (49, [.cell (.int .i64)]),
  (14, [.cell (.int .i64)]),
  (16, [.cell (.int .i64), .cell .bool]),
  (50, [.cell .bool]),
  (17, [.cell (.int .i64)])]
noncomputable def efT : List (Nat × List RK) := [
  (38, [.cell .ptr]),
  (39, [.cell (.int .i64)]),
  (40, [.cell (.int .i64)]),
  (41, [.cell (.int .i64)]),
  (8, [.cell (.int .i64), .cell (.int .i64)]),
  (12, [.cell (.int .i64), .cell (.int .i64)]),
  (3, [.cell .bool])]
def bodyOf (f : Func) : Code := match f.body with
  | some c => c
  | none => .skip
theorem asc_mem {β : Type} : ∀ {l : List (Nat × β)} {f : Nat} {k : β}, asc l f = some k → (f, k) ∈ l
  | [], f, k, h => by cases h
  | p :: r, f, k, h => by
    simp only [asc] at h
    cases hb : Nat.beq p.1 f with
    | true =>
      rw [hb] at h
      simp only [cond_true, Option.some.injEq] at h
      have : p.1 = f := Nat.eq_of_beq_eq_true hb
      rw [← this, ← h]; exact List.mem_cons_self
    | false =>
      rw [hb] at h
      exact List.mem_cons_of_mem _ (asc_mem h)
theorem tbl_ok : tblOk Try.prog tbl = true := by kernel_rfl
theorem pf_ok : (pfT.all fun p => callableB Try.prog p.1) = true := by kernel_rfl
theorem ef_ok : (efT.all fun p => callableB Try.prog p.1) = true := by kernel_rfl
theorem mixed_ok : Try.prog.follows .mixedOrders = true := by kernel_rfl
theorem tok : TOk Try.prog (tblGet tbl) := tOk_of (l := tbl) tbl_ok
theorem pok (f : Nat) (ks : List RK) (h : asc pfT f = some ks) : Callable Try.prog f := callable_of (List.all_eq_true.1 pf_ok (f, ks) (asc_mem h))
theorem eok (f : Nat) (ks : List RK) (h : asc efT f = some ks) : Callable Try.prog f := callable_of (List.all_eq_true.1 ef_ok (f, ks) (asc_mem h))
theorem env (vis : List Nat) (n : Nat) (pm : Bool) : Env { P := Try.prog, T := tblGet tbl, pf := pfT, ef := efT, vis := vis, n := n, pm := pm } :=
  ⟨tok, pok, eok, mixed_ok⟩
end Go.Proofs.Ytopaajbfnpmjcaa
