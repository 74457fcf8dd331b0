/- Part 5 of what the law FnTree needs: the engine, the functions' propositions, the contracts. -/
import Derived.Test.YtclpmgfpjeaibaaGreatFnTreePd
import Derived.Test.YtclpmgfpjeaibaaGreatProg
import Derived.KernelRfl
namespace Go.Proofs.YtclpmgfpjeaibaaGreat
open Go.RowKit
set_option linter.unusedVariables false
set_option maxRecDepth 100000
set_option maxHeartbeats 1600000
def Qb:TypeId:=3
def Yp:TypeId:=4
def VC:TypeId:=5
def Zk:TypeId:=9
def ty_sl_uint8:TypeId:=22
def QP:TypeId:=23
def Zj:TypeId:=27
def U4:TypeId:=28
def Xv:TypeId:=30
def Zt:TypeId:=31
def QH:TypeId:=33
def ZT:TypeId:=39
def Zd:TypeId:=40
def Q3:TypeId:=42
def QL:TypeId:=48
def ZJ:TypeId:=50
def O1:TypeId:=62
def ZS:TypeId:=67
def Vo:TypeId:=84
def Ye:TypeId:=88
def LR:TypeId:=91
def Zi:TypeId:=92
def Qv:TypeId:=94
def JC:Nat:=29
def Q1:Nat:=59
def Qe:Nat:=33
def QV:Nat:=26
def Jt:Nat:=46
def ZA:Nat:=67
def Z1:Nat:=28
def Xx:Nat:=81
def Tl:Nat:=82
def ZV:Nat:=45
def ZB:Nat:=56
def Tj:Nat:=73
def Ul:Nat:=32
def Xy:Nat:=34
def X5:Nat:=9
def Jb:Nat:=83
def Y1:Nat:=84
def Zo:Nat:=85
def Uh:Nat:=86
def Up:Nat:=47
def Zu:Nat:=119
def Xw:Nat:=69
def JG:Nat:=87
def V4:Nat:=48
def YD:Nat:=140
def X7:Nat:=88
def Js:Nat:=89
def Uq:Nat:=49
def Y3:Nat:=90
def V3:Nat:=91
def VN:Nat:=50
def Yr:Nat:=18
def Vk:Nat:=149
def XA:Nat:=101
def Zb:Nat:=150
def XM:Nat:=102
def QC:Nat:=96
def YB:Nat:=142
def X6:Nat:=143
def J9:Nat:=97
def QS:Nat:=99
def Y9:Nat:=94
def Ya:Nat:=152
def XW:Nat:=174
def JF:Nat:=144
def Vl:Nat:=165
def ZQ:Nat:=121
def Tk:Nat:=145
def JE:Nat:=175
def V2:Nat:=146
def Qh:Nat:=98
def YA:Nat:=60
def JD:Nat:=164
def Qr:Nat:=118
def UX:Nat:=160
def Zn:Nat:=161
def Yg:Nat:=44
def Uo:Nat:=176
def YF:Nat:=147
def XL:Nat:=148
def ZU:Nat:=100
def VJ:Nat:=61
def XX:Nat:=151
def Tn:Nat:=103
def Jc:Nat:=104
def Tp:Nat:=105
def Tm:Nat:=106
def V6:Nat:=107
def UY:Nat:=62
def JU:Nat:=179
def Um:Nat:=180
def UV:Nat:=181
def US:Nat:=182
def UU:Nat:=183
def UT:Nat:=184
def YC:Nat:=196
def UZ:Nat:=197
def Uj:Nat:=185
def YQ:Nat:=141
def XN:Nat:=198
def JT:Nat:=186
def UR:Nat:=187
def Qs:Nat:=120
def JS:Nat:=188
def Ui:Nat:=199
def UW:Nat:=189
def XO:Nat:=93
def V0:Nat:=57
def YP:Nat:=111
def Ja:Nat:=114
def YL:Nat:=159
def JV:Nat:=112
def JQ:Nat:=113
def VK:Nat:=115
def VL:Nat:=65
def JP:Nat:=190
def Uk:Nat:=200
def Ti:Nat:=191
def O8:Nat:=192
def JB:Nat:=162
def Y2:Nat:=193
def Zv:Nat:=194
def Xs:Nat:=163
def JX:Nat:=117
def Jl:Nat:=68
def YR:Nat:=122
def JW:Nat:=70
def VM:Nat:=71
def Xr:Nat:=30
def JR:Nat:=7
def JA:Nat:=74
def ZP:Nat:=37
def Xq:Nat:=39
def Tg:Nat:=72
def Jr:Nat:=31
def XV:Nat:=8
def XK:Nat:=35
def J8:Nat:=10
def Ug:Nat:=36
def UQ:Nat:=11
def Th:Nat:=38
def Yn:Nat:=12
def UP:Nat:=13
def XJ:Nat:=14
def Px:Nat:=3
noncomputable def zpc:List (TypeId×Ty):=[
 (2,⟨false,[.int .i64],.int .i64⟩),
 (3,⟨false,[.int .i64],.int .i64⟩),
 (4,⟨false,[.bool],.bool⟩),
 (5,⟨false,[.int .u8],.int .u8⟩),
 (6,⟨false,[.int .u8],.int .u8⟩),
 (7,⟨true,[.int .i64,.int .i64,.bool,.int .u8],.struct [(0,false,1),(1,false,1),(2,false,1),(3,false,1)]⟩),
 (8,⟨true,[.int .i64,.int .i64,.bool,.int .u8],.struct [(0,false,1),(1,false,1),(2,false,1),(3,false,1)]⟩),
 (9,⟨false,[.str],.str⟩),
 (10,⟨false,[.str],.str⟩),
 (11,⟨false,[.str],.str⟩),
 (12,⟨false,[.int .u64],.int .u64⟩),
 (13,⟨true,[.str,.int .u64],.struct [(0,false,1),(1,false,1)]⟩),
 (14,⟨true,[.str,.int .u64],.struct [(0,false,1),(1,false,1)]⟩),
 (15,⟨false,[.ptr],.ptr⟩),
 (16,⟨false,[.ptr],.ptr⟩),
 (17,⟨false,[.ptr],.ptr⟩),
 (18,⟨true,[.ptr],.struct [(0,false,1)]⟩),
 (19,⟨true,[.ptr],.struct [(0,false,1)]⟩),
 (20,⟨false,[.iface],.other⟩),
 (21,⟨false,[.int .i32],.int .i32⟩),
 (22,⟨false,[.slice],.slice 5 1⟩),
 (23,⟨false,[.slice],.slice 33 14⟩),
 (27,⟨false,[.slice],.slice 3 1⟩),
 (28,⟨false,[.slice],.slice 4 1⟩),
 (29,⟨true,[.int .i64,.int .i64,.int .i64,.slice,.slice],.struct [(0,false,1),(1,false,1),(2,false,1),(3,false,1),(4,false,1)]⟩),
 (30,⟨true,[.int .i64,.int .i64,.int .i64,.slice,.slice],.struct [(0,false,1),(1,false,1),(2,false,1),(3,false,1),(4,false,1)]⟩),
 (31,⟨false,[.slice],.slice 88 5⟩),
 (32,⟨true,[.bool,.int .i64,.str,.int .i64,.int .i64,.int .i64,.int .i64,.int .i64,.int .i64,.int .i64,.int .i64,.slice,.slice,.slice],.struct [(0,false,1),(1,false,1),(2,false,1),(3,false,1),(4,false,1),(5,false,1),(6,false,1),(7,false,1),(8,true,5),(13,false,1)]⟩),
 (33,⟨true,[.bool,.int .i64,.str,.int .i64,.int .i64,.int .i64,.int .i64,.int .i64,.int .i64,.int .i64,.int .i64,.slice,.slice,.slice],.struct [(0,false,1),(1,false,1),(2,false,1),(3,false,1),(4,false,1),(5,false,1),(6,false,1),(7,false,1),(8,true,5),(13,false,1)]⟩),
 (39,⟨false,[.slice],.slice 50 5⟩),
 (40,⟨false,[.slice],.slice 48 9⟩),
 (41,⟨true,[.int .i64,.slice,.slice,.slice],.struct [(0,false,1),(1,false,1),(2,false,1),(3,false,1)]⟩),
 (42,⟨true,[.int .i64,.slice,.slice,.slice],.struct [(0,false,1),(1,false,1),(2,false,1),(3,false,1)]⟩),
 (47,⟨true,[.int .i64,.int .i64,.int .i64,.int .i64,.int .i64,.int .i64,.int .i64,.int .i64,.int .i64],.struct [(0,false,1),(1,false,1),(2,false,1),(3,false,1),(4,false,1),(5,false,1),(6,false,1),(7,false,1),(8,false,1)]⟩),
 (48,⟨true,[.int .i64,.int .i64,.int .i64,.int .i64,.int .i64,.int .i64,.int .i64,.int .i64,.int .i64],.struct [(0,false,1),(1,false,1),(2,false,1),(3,false,1),(4,false,1),(5,false,1),(6,false,1),(7,false,1),(8,false,1)]⟩),
 (49,⟨true,[.bool,.int .i64,.int .i64,.int .i64,.int .i64],.struct [(0,false,1),(1,false,1),(2,false,1),(3,false,1),(4,false,1)]⟩),
 (50,⟨true,[.bool,.int .i64,.int .i64,.int .i64,.int .i64],.struct [(0,false,1),(1,false,1),(2,false,1),(3,false,1),(4,false,1)]⟩),
 (51,⟨false,[.int .u64],.int .u64⟩),
 (59,⟨false,[.ptr],.ptr⟩),
 (62,⟨false,[.slice],.slice 67 1⟩),
 (67,⟨false,[.ptr],.ptr⟩),
 (76,⟨false,[.ptr],.ptr⟩),
 (77,⟨true,[.ptr,.int .i64],.struct [(0,false,1),(1,false,1)]⟩),
 (78,⟨true,[.ptr,.int .i64],.struct [(0,false,1),(1,false,1)]⟩),
 (83,⟨true,[.slice,.int .i64],.struct [(0,false,1),(1,false,1)]⟩),
 (84,⟨true,[.slice,.int .i64],.struct [(0,false,1),(1,false,1)]⟩),
 (85,⟨false,[.slice],.slice 9 1⟩),
 (87,⟨true,[.int .i64,.bool,.int .i64,.int .i64,.int .i64],.struct [(0,false,1),(1,false,1),(2,false,1),(3,false,1),(4,false,1)]⟩),
 (88,⟨true,[.int .i64,.bool,.int .i64,.int .i64,.int .i64],.struct [(0,false,1),(1,false,1),(2,false,1),(3,false,1),(4,false,1)]⟩),
 (90,⟨true,[.int .i64,.str,.ptr],.struct [(0,false,1),(1,false,1),(2,false,1)]⟩),
 (91,⟨true,[.int .i64,.str,.ptr],.struct [(0,false,1),(1,false,1),(2,false,1)]⟩),
 (92,⟨false,[.map],.other⟩),
 (93,⟨true,[.int .i64,.str],.struct [(0,false,1),(1,false,1)]⟩),
 (94,⟨true,[.int .i64,.str],.struct [(0,false,1),(1,false,1)]⟩),
 (97,⟨true,[.fn,.fn,.fn,.fn,.fn],.arr 5 1 false⟩),
 (116,⟨true,[.int .i64,.int .i64,.int .i64],.struct [(0,false,1),(1,false,1),(2,false,1)]⟩),
 (117,⟨true,[.int .i64,.int .i64,.int .i64],.struct [(0,false,1),(1,false,1),(2,false,1)]⟩),
 (121,⟨false,[.ptr],.ptr⟩),
 (127,⟨false,[.int .i64],.int .i64⟩),
 (130,⟨false,[.ptr],.ptr⟩),
 (134,⟨true,[.int .i64,.int .i64,.int .i64,.int .i64,.str],.struct [(0,false,1),(1,false,1),(2,false,1),(3,false,1),(4,false,1)]⟩),
 (135,⟨true,[.int .i64,.int .i64,.int .i64,.int .i64,.str],.struct [(0,false,1),(1,false,1),(2,false,1),(3,false,1),(4,false,1)]⟩),
 (138,⟨true,[.int .i64,.int .i64,.int .i64,.int .i64,.int .i64,.int .i64,.int .i64,.int .i64,.int .i64,.int .i64,.int .i64,.int .i64,.int .i64,.int .i64,.int .i64,.int .i64,.int .i64,.int .i64,.int .i64,.int .i64,.int .i64],.arr 21 1 false⟩),
 (141,⟨true,[.bool,.bool,.bool,.bool],.arr 4 1 false⟩),
 (142,⟨true,[.bool,.bool,.bool,.bool],.arr 4 1 false⟩),
 (147,⟨true,[.ptr,.ptr,.ptr,.str],.struct [(0,false,1),(1,false,1),(2,false,1),(3,false,1)]⟩),
 (148,⟨true,[.ptr,.ptr,.ptr,.str],.struct [(0,false,1),(1,false,1),(2,false,1),(3,false,1)]⟩),
 (149,⟨true,[],.arr 0 1 false⟩),
 (150,⟨true,[],.other⟩),
 (151,⟨true,[],.other⟩),
 (152,⟨false,[.int .u32],.int .u32⟩),
 (153,⟨false,[.int .u8],.int .u8⟩),
 (154,⟨false,[.int .u8],.int .u8⟩),
 (156,⟨false,[.ptr],.ptr⟩),
 (157,⟨false,[.int .i32],.int .i32⟩),
 (158,⟨false,[.int .i32],.int .i32⟩),
 (159,⟨true,[.int .u64,.int .u64,.int .u32,.int .u8,.int .u8,.int .u8,.int .u8,.fn,.ptr,.int .i32,.int .i32],.struct [(0,false,1),(1,false,1),(2,false,1),(3,false,1),(4,false,1),(5,false,1),(6,false,1),(7,false,1),(8,false,1),(9,false,1),(10,false,1)]⟩),
 (160,⟨true,[.int .u64,.int .u64,.int .u32,.int .u8,.int .u8,.int .u8,.int .u8,.fn,.ptr,.int .i32,.int .i32],.struct [(0,false,1),(1,false,1),(2,false,1),(3,false,1),(4,false,1),(5,false,1),(6,false,1),(7,false,1),(8,false,1),(9,false,1),(10,false,1)]⟩),
 (161,⟨false,[.ptr],.other⟩)]++[1,24,25,26,34,35,36,37,38,44,45,46,53,54,56,57,58,60,61,64,65,66,68,69,70,71,72,73,74,75,79,80,81,82,86,89,95,96,98,99,100,101,102,103,105,106,107,108,109,110,111,113,115,118,119,120,122,123,124,125,126,128,129,131,132,133,136,137,139,140,143,144,145,146,155].map (fun t=>(t,⟨false,[.fn],.other⟩))++[0,43,52,55,63,104,112,114].map fun t=>(t,⟨false,[.other],.other⟩)
noncomputable def zpl:List (Nat×List RK):=[
 (33,[.cell .bool]),
 (26,[.cell (.int .i64)]),
 (46,[.cell (.int .i64)]),
 (67,[.cell .bool]),
 (28,[.cell .bool]),
 (81,[.cell (.int .i64)]),
 (82,[.cell (.int .i64)]),
 (45,[.cell (.int .i64)]),
 (56,[.cell .bool]),
 (73,[.cell .bool]),
 (32,[.cell .bool]),
 (34,[.cell (.int .i64)]),
 (9,[.cell .bool]),
 (83,[.cell .bool]),
 (84,[.cell .bool]),
 (85,[.cell .bool]),
 (86,[.cell .bool]),
 (47,[.cell .bool]),
 (119,[.cell (.int .i64)]),
 (69,[.cell (.int .i64)]),
 (87,[.cell .bool]),
 (48,[.cell .bool]),
 (140,[.cell .bool]),
 (88,[.cell .bool]),
 (89,[.cell .bool]),
 (49,[.cell .bool]),
 (90,[.cell .bool]),
 (91,[.cell .bool]),
 (50,[.cell .bool]),
 (18,[.cell .bool]),
 (150,[.cell .bool]),
 (102,[.cell .bool]),
 (142,[.cell (.int .i64)]),
 (143,[.cell (.int .i64)]),
 (97,[.cell (.int .i64)]),
 (94,[.cell (.int .i64)]),
 (152,[.cell (.int .i64)]),
 (174,[.cell (.int .i64)]),
 (175,[.cell (.int .i64),.cell .bool]),
 (44,[.cell .bool]),
 (176,[.cell (.int .i64)]),
 (148,[.cell (.int .i64)]),
 (151,[.cell (.int .i64)]),
 (103,[.cell (.int .i64)]),
 (106,[.cell (.int .i64)]),
 (197,[.cell .bool]),
 (141,[.cell .bool]),
 (199,[.cell (.int .i64)]),
 (93,[.cell (.int .i64)]),
 (57,[.cell (.int .i64)]),
 (111,[.cell (.int .i64)]),
 (114,[.cell .bool]),
 (159,[.cell (.int .i64)]),
 (112,[.cell (.int .i64)]),
 (113,[.cell (.int .i64)]),
 (115,[.cell .bool]),
 (65,[.cell (.int .i64)]),
 (200,[.cell (.int .i64)]),
 (74,[.cell .bool]),
 (37,[.cell .bool]),
 (39,[.cell (.int .i64)]),
 (72,[.cell .bool]),
 (8,[.cell .bool]),
 (35,[.cell .str]),
 (10,[.cell (.int .i64)]),
 (11,[.cell .str]),
 (38,[.cell .bool]),
 (12,[.cell .bool]),
 (14,[.cell (.int .i64)]),
 (123,[.cell .bool]),
 (124,[.cell (.int .i64)]),
 (75,[.cell .bool]),
 (166,[.cell .bool]),
 (125,[.cell .bool]),
 (126,[.cell .bool]),
 (195,[.cell .bool]),
 (167,[.cell .bool]),
 (127,[.cell .bool]),
 (168,[.cell .bool]),
 (128,[.cell .bool]),
 (76,[.cell .bool]),
 (139,[.cell (.int .i64)]),
 (138,[.cell (.int .i64)]),
 (80,[.cell (.int .i64)]),
 (43,[.cell (.int .i64)]),
 (54,[.agg [.ptr,.int .i64]]),
 (129,[.cell .bool]),
 (130,[.cell .bool]),
 (169,[.cell .bool]),
 (131,[.cell .bool]),
 (132,[.cell .ptr]),
 (173,[.agg [.int .i64,.int .i64,.int .i64,.int .i64,.int .i64,.int .i64,.int .i64,.int .i64,.int .i64,.int .i64,.int .i64,.int .i64,.int .i64,.int .i64,.int .i64,.int .i64,.int .i64,.int .i64,.int .i64,.int .i64,.int .i64]]),
 (137,[.cell (.int .i64)]),
 (170,[.cell (.int .i64)]),
 (133,[.cell .bool]),
 (134,[.cell (.int .i64)]),
 (77,[.cell .bool]),
 (171,[.cell .bool]),
 (172,[.cell .bool]),
 (135,[.cell .bool]),
 (136,[.cell .bool]),
 (78,[.cell .bool]),
 (42,[.cell .bool]),
 (116,[.cell .bool]),
 (79,[.cell .bool]),
 (41,[.cell .bool]),
 (17,[.cell (.int .i64)]),
 (53,[.cell .bool]),
 (92,[.cell (.int .i64)]),
 (95,[.cell (.int .i64)]),
 (58,[.cell (.int .i64)]),
 (55,[.cell (.int .i64)]),
 (20,[.cell (.int .i64)]),
 (21,[.cell (.int .i64)]),
 (22,[.cell (.int .i64)]),
 (66,[.cell (.int .i64)]),
 (108,[.cell (.int .i64)]),
 (109,[.cell (.int .i64)]),
 (158,[.cell .ptr]),
 (110,[.cell .bool]),
 (63,[.cell (.int .i64),.cell .bool]),
 (24,[.cell (.int .i64),.cell .bool]),
 (64,[.cell .bool]),
 (25,[.cell (.int .i64),.cell .bool]),
 (27,[.cell (.int .i64)]),
 (177,[.agg [.bool,.bool,.bool,.bool]]),
 (154,[.cell (.int .i64)]),
 (157,[.cell .bool])]
noncomputable def zpj:List (Nat×List RK):=[
 (2,[]),
 (29,[.cell .ptr]),
 (59,[.cell (.int .i64)]),
 (149,[.agg [.int .i64,.int .i64,.int .i64,.slice,.slice]]),
 (101,[.agg [.int .i64,.slice,.slice,.slice]]),
 (96,[.agg [.int .i64,.slice,.slice,.slice],.cell (.int .i64)]),
 (99,[.agg [.int .i64,.slice,.slice,.slice]]),
 (144,[.agg [.int .i64,.slice,.slice,.slice]]),
 (165,[.agg [.int .i64,.int .i64,.int .i64,.slice,.slice]]),
 (121,[.agg [.int .i64,.int .i64,.int .i64,.slice,.slice],.cell (.int .i64)]),
 (145,[.agg [.int .i64,.slice,.slice,.slice]]),
 (146,[.agg [.int .i64,.slice,.slice,.slice]]),
 (98,[.agg [.int .i64,.slice,.slice,.slice]]),
 (60,[.agg [.int .i64,.slice,.slice,.slice],.cell (.int .i64),.cell (.int .i64)]),
 (164,[.agg [.bool,.int .i64,.str,.int .i64,.int .i64,.int .i64,.int .i64,.int .i64,.int .i64,.int .i64,.int .i64,.slice,.slice,.slice]]),
 (118,[.agg [.int .i64,.slice,.slice,.slice],.cell (.int .i64),.cell (.int .i64)]),
 (160,[.agg [.int .i64,.slice,.slice,.slice],.cell .bool]),
 (161,[.cell (.int .i64)]),
 (147,[.agg [.int .i64,.slice,.slice,.slice]]),
 (100,[.agg [.int .i64,.slice,.slice,.slice]]),
 (61,[.agg [.int .i64,.slice,.slice,.slice],.cell (.int .i64)]),
 (104,[.cell .slice]),
 (105,[.agg [.int .i64,.slice,.slice,.slice],.cell .bool]),
 (107,[.agg [.int .i64,.slice,.slice,.slice]]),
 (62,[.agg [.int .i64,.slice,.slice,.slice],.cell (.int .i64)]),
 (179,[.agg [.int .i64,.slice,.slice,.slice],.cell (.int .i64)]),
 (180,[.agg [.int .i64,.slice,.slice,.slice],.cell (.int .i64)]),
 (181,[.agg [.int .i64,.slice,.slice,.slice],.cell (.int .i64)]),
 (182,[.agg [.int .i64,.slice,.slice,.slice],.cell (.int .i64)]),
 (183,[.agg [.int .i64,.slice,.slice,.slice],.cell (.int .i64)]),
 (184,[.agg [.int .i64,.slice,.slice,.slice],.cell (.int .i64)]),
 (196,[.agg [.int .i64,.slice,.slice,.slice],.cell (.int .i64)]),
 (185,[.agg [.int .i64,.slice,.slice,.slice],.cell (.int .i64)]),
 (198,[.agg [.int .i64,.slice,.slice,.slice]]),
 (186,[.agg [.int .i64,.slice,.slice,.slice],.cell (.int .i64)]),
 (187,[.agg [.int .i64,.slice,.slice,.slice],.cell (.int .i64)]),
 (120,[.agg [.int .i64,.int .i64,.int .i64,.slice,.slice],.cell .bool]),
 (188,[.agg [.int .i64,.slice,.slice,.slice],.cell (.int .i64)]),
 (189,[.agg [.int .i64,.slice,.slice,.slice],.cell (.int .i64)]),
 (190,[.agg [.int .i64,.slice,.slice,.slice],.cell (.int .i64)]),
 (191,[.agg [.int .i64,.slice,.slice,.slice],.cell (.int .i64)]),
 (192,[.agg [.int .i64,.slice,.slice,.slice],.cell (.int .i64)]),
 (162,[.agg [.int .i64,.slice,.slice,.slice],.cell (.int .i64)]),
 (193,[.cell (.int .i64)]),
 (194,[.cell (.int .i64)]),
 (163,[.agg [.int .i64,.int .i64,.int .i64,.int .i64,.str]]),
 (117,[.agg [.int .i64,.slice,.slice,.slice]]),
 (68,[.agg [.int .i64,.slice,.slice,.slice]]),
 (122,[.agg [.int .i64,.int .i64,.int .i64]]),
 (70,[.agg [.int .i64,.int .i64,.int .i64,.slice,.slice]]),
 (71,[.agg [.int .i64,.slice,.slice,.slice]]),
 (30,[.agg [.int .i64,.slice,.slice,.slice]]),
 (7,[.cell .slice]),
 (31,[.cell .slice,.cell .bool]),
 (36,[.cell .ptr]),
 (13,[.cell .slice]),
 (3,[.cell .bool]),
 (40,[.cell (.int .i64)]),
 (15,[.agg [.int .i64,.slice,.slice,.slice],.cell (.int .i64)]),
 (16,[.cell (.int .i64)]),
 (4,[.cell .bool]),
 (51,[.cell (.int .i64)]),
 (52,[.cell (.int .i64)]),
 (19,[.agg [.int .i64,.slice,.slice,.slice],.cell (.int .i64),.cell (.int .i64)]),
 (5,[.cell .bool]),
 (23,[.agg [.int .i64,.slice,.slice,.slice],.cell (.int .i64)]),
 (156,[.cell (.int .i64),.cell .bool]),
 (6,[.cell .bool]),
 (155,[.cell .fn]),
 (153,[]),
 (178,[])]
noncomputable def zp3:List (Nat×List RK):=[(55,[.cell (.int .i64),.cell .bool])]
def AE (f:Func):Code:=match f.body with
 | some c=>c
 | none=>.skip
theorem Ay {β:Type}:∀{l:List (Nat×β)} {f:Nat} {k:β},zbt l f=some k->(f,k)∈l
 | [],f,k,h=>by cases h
 | p::r,f,k,h=>by
  simp only [zbt] at h
  cases hb:Nat.beq p.1 f with
  | true=>
   rw [hb] at h;simp only [cond_true,Option.some.injEq] at h;have:p.1=f:=Nat.eq_of_beq_eq_true hb;rw [<-this,<-h]; exact List.mem_cons_self
  | false=>
   rw [hb] at h;exact List.mem_cons_of_mem _ (Ay h)
abbrev Cz:=Calls Tryz.prog
abbrev PX (bs:List Nat):=Q5 bs Tryz.prog
theorem zoa:zjv Tryz.prog zpc=true:=by kernel_rfl
theorem zo7:(zpl.all fun p=>M5 Tryz.prog p.1)=true:=by kernel_rfl
theorem zov:(zpj.all fun p=>M5 Tryz.prog p.1)=true:=by kernel_rfl
theorem ziv:Tryz.prog.follows .mixedOrders=true:=by kernel_rfl
theorem zqa:zg2 Tryz.prog (KC zpc):=zju (l:=zpc) zoa
theorem zp8 (f:Nat) (ks:List RK) (h:zbt zpl f=some ks):Vq Tryz.prog f:=Ho (List.all_eq_true.1 zo7 (f,ks) (Ay h))
theorem zp6 (f:Nat) (ks:List RK) (h:zbt zpj f=some ks):Vq Tryz.prog f:=Ho (List.all_eq_true.1 zov (f,ks) (Ay h))
theorem zpz (vis:List Nat) (n:Nat) (pm wr:Bool) (rd:Option Nat):zg5 { P:=Tryz.prog,T:=KC zpc,pf:=zpl,ef:=zpj,tt:=zp3,vis:=vis,n:=n,pm:=pm,wr:=wr,rd:=rd }:=
 ⟨zqa,zp8,zp6,ziv⟩
noncomputable def zdv (vis:List Nat) (n:Nat) (pm wr:Bool):UK:={ P:=Tryz.prog,T:=KC zpc,pf:=zpl,ef:=zpj,tt:=zp3,vis:=vis,n:=n,pm:=pm,wr:=wr }
def fits (fn:Func) (n:Nat):Bool:=Nat.ble n fn.ntmps&&Nat.ble fn.ntmps 4000&&fn.body.isSome
theorem Gu {fn:Func} {n:Nat} (h:fits fn n=true):n<=fn.ntmps/\fn.ntmps<=4000/\fn.body=some (AE fn):=by
 unfold fits at h;simp only [Bool.and_eq_true] at h;refine ⟨Nat.le_of_ble_eq_true h.1.1,Nat.le_of_ble_eq_true h.1.2,?_⟩
 cases hb:fn.body with
 | none=>rw [hb] at h; cases h.2
 | some c=>simp [AE,hb]
abbrev Jz (V:World->(Value->World->Prop)->Prop) (f:FuncId) (args:Array Value):Prop:=∀{w:World} {bs:List Nat} {ret:Value},(∀wr0,Q0 bs w wr0->V wr0 fun v0 _=>v0=ret)->PX bs f args w ret
abbrev JM (V:World->(Value->World->Prop)->Prop) (f:FuncId) (args:Array Value):Prop:=∀{w:World} {R:Value->World->Prop},V w R->Cz f args w fun e0 wr0=>∃v0,e0 = .returned v0/\R v0 wr0
theorem pV (vis:List Nat) (wr:Bool) (sps:List (Nat×YE)) {f:FuncId} {fn:Func} {args:List Value} {V:World->(Value->World->Prop)->Prop} (hf:Tryz.prog.funcs[f]? = some fn) (hk:fits fn args.length=true) (hV:zhw (zdv vis fn.ntmps true wr) sps args (AE fn) fn.results.toList=V):Jz V f args.toArray:=fun {w bs ret} hvc=>
 zcv (C:=zdv vis fn.ntmps true wr) (sps:=sps) (zpz _ _ _ _ _) hf (Gu hk).2.2 rfl (Gu hk).1 (Gu hk).2.1 rfl rfl fun wr0 hx0=>by rw [hV]; exact hvc wr0 hx0
theorem eV (vis:List Nat) (wr:Bool) (sps:List (Nat×YE)) {f:FuncId} {fn:Func} {args:List Value} {V:World->(Value->World->Prop)->Prop} (hf:Tryz.prog.funcs[f]? = some fn) (hk:fits fn args.length=true) (hV:zhw (zdv vis fn.ntmps false wr) sps args (AE fn) fn.results.toList=V):JM V f args.toArray:=fun {w R} hvc=>
 zfk (C:=zdv vis fn.ntmps false wr) (sps:=sps) (zpz _ _ _ _ _) hf (Gu hk).2.2 rfl (Gu hk).1 (Gu hk).2.1 rfl rfl (by rw [hV]; exact hvc)
end Go.Proofs.YtclpmgfpjeaibaaGreat
