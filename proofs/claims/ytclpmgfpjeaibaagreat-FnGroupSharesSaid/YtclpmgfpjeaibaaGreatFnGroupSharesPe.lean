/- Part 5 of what the law FnGroupShares needs: the engine, the functions' propositions, the contracts. -/
import Derived.Test.YtclpmgfpjeaibaaGreatFnGroupSharesPd
import Derived.Test.YtclpmgfpjeaibaaGreatProg
import Derived.KernelRfl
namespace Go.Proofs.YtclpmgfpjeaibaaGreat
open Go.RowKit
set_option linter.unusedVariables false
set_option maxRecDepth 100000
set_option maxHeartbeats 1600000
def Qc:TypeId:=3
def YF:TypeId:=4
def Tr:TypeId:=5
def Zr:TypeId:=9
def ty_sl_uint8:TypeId:=22
def QT:TypeId:=23
def QP:TypeId:=27
def UM:TypeId:=28
def XT:TypeId:=30
def ZC:TypeId:=31
def QN:TypeId:=33
def Y1:TypeId:=39
def Zh:TypeId:=40
def Q4:TypeId:=42
def QK:TypeId:=48
def Zy:TypeId:=50
def P2:TypeId:=62
def Y0:TypeId:=67
def Tf:TypeId:=84
def Yq:TypeId:=88
def D1:TypeId:=91
def Zq:TypeId:=92
def QA:TypeId:=94
def Ue:Nat:=29
def Q1:Nat:=59
def Qe:Nat:=33
def Z1:Nat:=26
def U5:Nat:=46
def ZK:Nat:=67
def Z7:Nat:=28
def XZ:Nat:=81
def On:Nat:=82
def Y4:Nat:=45
def Zw:Nat:=56
def Ol:Nat:=73
def Vb:Nat:=32
def J0:Nat:=34
def Vd:Nat:=9
def JJ:Nat:=83
def Yb:Nat:=84
def Zv:Nat:=85
def V6:Nat:=86
def Vg:Nat:=47
def ZE:Nat:=119
def XY:Nat:=69
def Ui:Nat:=87
def VY:Nat:=48
def YV:Nat:=140
def Xz:Nat:=88
def U4:Nat:=89
def Vh:Nat:=49
def Yd:Nat:=90
def VX:Nat:=91
def TG:Nat:=50
def ZO:Nat:=18
def Tb:Nat:=149
def J4:Nat:=101
def Zf:Nat:=150
def Je:Nat:=102
def QH:Nat:=96
def YT:Nat:=142
def Xy:Nat:=143
def JG:Nat:=97
def QZ:Nat:=99
def Yk:Nat:=94
def Yl:Nat:=152
def Jr:Nat:=174
def Uh:Nat:=144
def Tc:Nat:=165
def ZZ:Nat:=121
def Om:Nat:=145
def Ug:Nat:=175
def VW:Nat:=146
def Qj:Nat:=98
def YR:Nat:=60
def Uf:Nat:=164
def Qt:Nat:=118
def VT:Nat:=160
def Zu:Nat:=161
def Yt:Nat:=44
def Ve:Nat:=176
def YY:Nat:=147
def Jd:Nat:=148
def Y2:Nat:=100
def TB:Nat:=61
def Js:Nat:=151
def Oq:Nat:=103
def JK:Nat:=104
def Ot:Nat:=105
def Oo:Nat:=106
def VZ:Nat:=107
def VU:Nat:=62
def UC:Nat:=179
def Vc:Nat:=180
def VR:Nat:=181
def VO:Nat:=182
def VQ:Nat:=183
def VP:Nat:=184
def YU:Nat:=196
def VV:Nat:=197
def V8:Nat:=185
def Xf:Nat:=141
def Jf:Nat:=198
def UB:Nat:=186
def VN:Nat:=187
def Qx:Nat:=120
def Uz:Nat:=188
def V7:Nat:=199
def VS:Nat:=189
def Jg:Nat:=93
def JI:Nat:=57
def Xe:Nat:=111
def JH:Nat:=114
def X8:Nat:=159
def UD:Nat:=112
def Uy:Nat:=113
def TC:Nat:=115
def TE:Nat:=65
def Ux:Nat:=190
def Va:Nat:=200
def Oj:Nat:=191
def Pa:Nat:=192
def Ud:Nat:=162
def Yc:Nat:=193
def ZF:Nat:=194
def XP:Nat:=163
def UF:Nat:=117
def JZ:Nat:=68
def Xg:Nat:=122
def UE:Nat:=70
def TF:Nat:=71
def XO:Nat:=30
def Qs:Nat:=74
def YD:Nat:=37
def Uw:Nat:=39
def Of:Nat:=72
def P9:Nat:=31
def Og:Nat:=8
def Oh:Nat:=38
def Ok:Nat:=40
def Zt:Nat:=123
def Ys:Nat:=124
def X5:Nat:=75
def JE:Nat:=166
def V0:Nat:=125
def Xx:Nat:=126
def Jc:Nat:=195
def Jq:Nat:=167
def JF:Nat:=127
def Oe:Nat:=168
def X4:Nat:=128
def YL:Nat:=76
def XW:Nat:=139
def Us:Nat:=138
def Xv:Nat:=80
def Ja:Nat:=43
def Zc:Nat:=54
def V3:Nat:=129
def Oi:Nat:=130
def Ut:Nat:=169
def TA:Nat:=131
def QX:Nat:=132
def JX:Nat:=173
def YJ:Nat:=137
def Tz:Nat:=170
def V4:Nat:=133
def Xu:Nat:=134
def X6:Nat:=77
def JW:Nat:=171
def Uu:Nat:=172
def JV:Nat:=135
def VM:Nat:=136
def YC:Nat:=78
def Xw:Nat:=42
def Xs:Nat:=116
def Xc:Nat:=79
def XX:Nat:=41
def JY:Nat:=51
def Vf:Nat:=52
def XN:Nat:=19
def ZY:Nat:=53
def U3:Nat:=92
def Xd:Nat:=95
def Xt:Nat:=58
def Uv:Nat:=55
def XM:Nat:=20
def UA:Nat:=21
def JU:Nat:=22
def VD:Nat:=5
def V2:Nat:=66
def Mg:Nat:=27
noncomputable def zt5:List (TypeId×Ty):=[
 (2,⟨false,[.int .i64],.int .i64⟩),
 (3,⟨false,[.int .i64],.int .i64⟩),
 (4,⟨false,[.bool],.bool⟩),
 (5,⟨false,[.int .u8],.int .u8⟩),
 (6,⟨false,[.int .u8],.int .u8⟩),
 (7,⟨true,[.int .i64,.int .i64,.bool,.int .u8],.struct [(0,false,1),(1,false,1),(2,false,1),(3,false,1)]⟩),
 (8,⟨true,[.int .i64,.int .i64,.bool,.int .u8],.struct [(0,false,1),(1,false,1),(2,false,1),(3,false,1)]⟩),
 (9,⟨false,[.str],.str⟩),
 (10,⟨false,[.str],.str⟩),
 (11,⟨false,[.str],.str⟩),
 (12,⟨false,[.int .u64],.int .u64⟩),
 (13,⟨true,[.str,.int .u64],.struct [(0,false,1),(1,false,1)]⟩),
 (14,⟨true,[.str,.int .u64],.struct [(0,false,1),(1,false,1)]⟩),
 (15,⟨false,[.ptr],.ptr⟩),
 (16,⟨false,[.ptr],.ptr⟩),
 (17,⟨false,[.ptr],.ptr⟩),
 (18,⟨true,[.ptr],.struct [(0,false,1)]⟩),
 (19,⟨true,[.ptr],.struct [(0,false,1)]⟩),
 (20,⟨false,[.iface],.other⟩),
 (21,⟨false,[.int .i32],.int .i32⟩),
 (22,⟨false,[.slice],.slice 5 1⟩),
 (23,⟨false,[.slice],.slice 33 14⟩),
 (27,⟨false,[.slice],.slice 3 1⟩),
 (28,⟨false,[.slice],.slice 4 1⟩),
 (29,⟨true,[.int .i64,.int .i64,.int .i64,.slice,.slice],.struct [(0,false,1),(1,false,1),(2,false,1),(3,false,1),(4,false,1)]⟩),
 (30,⟨true,[.int .i64,.int .i64,.int .i64,.slice,.slice],.struct [(0,false,1),(1,false,1),(2,false,1),(3,false,1),(4,false,1)]⟩),
 (31,⟨false,[.slice],.slice 88 5⟩),
 (32,⟨true,[.bool,.int .i64,.str,.int .i64,.int .i64,.int .i64,.int .i64,.int .i64,.int .i64,.int .i64,.int .i64,.slice,.slice,.slice],.struct [(0,false,1),(1,false,1),(2,false,1),(3,false,1),(4,false,1),(5,false,1),(6,false,1),(7,false,1),(8,true,5),(13,false,1)]⟩),
 (33,⟨true,[.bool,.int .i64,.str,.int .i64,.int .i64,.int .i64,.int .i64,.int .i64,.int .i64,.int .i64,.int .i64,.slice,.slice,.slice],.struct [(0,false,1),(1,false,1),(2,false,1),(3,false,1),(4,false,1),(5,false,1),(6,false,1),(7,false,1),(8,true,5),(13,false,1)]⟩),
 (39,⟨false,[.slice],.slice 50 5⟩),
 (40,⟨false,[.slice],.slice 48 9⟩),
 (41,⟨true,[.int .i64,.slice,.slice,.slice],.struct [(0,false,1),(1,false,1),(2,false,1),(3,false,1)]⟩),
 (42,⟨true,[.int .i64,.slice,.slice,.slice],.struct [(0,false,1),(1,false,1),(2,false,1),(3,false,1)]⟩),
 (47,⟨true,[.int .i64,.int .i64,.int .i64,.int .i64,.int .i64,.int .i64,.int .i64,.int .i64,.int .i64],.struct [(0,false,1),(1,false,1),(2,false,1),(3,false,1),(4,false,1),(5,false,1),(6,false,1),(7,false,1),(8,false,1)]⟩),
 (48,⟨true,[.int .i64,.int .i64,.int .i64,.int .i64,.int .i64,.int .i64,.int .i64,.int .i64,.int .i64],.struct [(0,false,1),(1,false,1),(2,false,1),(3,false,1),(4,false,1),(5,false,1),(6,false,1),(7,false,1),(8,false,1)]⟩),
 (49,⟨true,[.bool,.int .i64,.int .i64,.int .i64,.int .i64],.struct [(0,false,1),(1,false,1),(2,false,1),(3,false,1),(4,false,1)]⟩),
 (50,⟨true,[.bool,.int .i64,.int .i64,.int .i64,.int .i64],.struct [(0,false,1),(1,false,1),(2,false,1),(3,false,1),(4,false,1)]⟩),
 (51,⟨false,[.int .u64],.int .u64⟩),
 (59,⟨false,[.ptr],.ptr⟩),
 (62,⟨false,[.slice],.slice 67 1⟩),
 (67,⟨false,[.ptr],.ptr⟩),
 (76,⟨false,[.ptr],.ptr⟩),
 (77,⟨true,[.ptr,.int .i64],.struct [(0,false,1),(1,false,1)]⟩),
 (78,⟨true,[.ptr,.int .i64],.struct [(0,false,1),(1,false,1)]⟩),
 (83,⟨true,[.slice,.int .i64],.struct [(0,false,1),(1,false,1)]⟩),
 (84,⟨true,[.slice,.int .i64],.struct [(0,false,1),(1,false,1)]⟩),
 (85,⟨false,[.slice],.slice 9 1⟩),
 (87,⟨true,[.int .i64,.bool,.int .i64,.int .i64,.int .i64],.struct [(0,false,1),(1,false,1),(2,false,1),(3,false,1),(4,false,1)]⟩),
 (88,⟨true,[.int .i64,.bool,.int .i64,.int .i64,.int .i64],.struct [(0,false,1),(1,false,1),(2,false,1),(3,false,1),(4,false,1)]⟩),
 (90,⟨true,[.int .i64,.str,.ptr],.struct [(0,false,1),(1,false,1),(2,false,1)]⟩),
 (91,⟨true,[.int .i64,.str,.ptr],.struct [(0,false,1),(1,false,1),(2,false,1)]⟩),
 (92,⟨false,[.map],.other⟩),
 (93,⟨true,[.int .i64,.str],.struct [(0,false,1),(1,false,1)]⟩),
 (94,⟨true,[.int .i64,.str],.struct [(0,false,1),(1,false,1)]⟩),
 (97,⟨true,[.fn,.fn,.fn,.fn,.fn],.arr 5 1 false⟩),
 (116,⟨true,[.int .i64,.int .i64,.int .i64],.struct [(0,false,1),(1,false,1),(2,false,1)]⟩),
 (117,⟨true,[.int .i64,.int .i64,.int .i64],.struct [(0,false,1),(1,false,1),(2,false,1)]⟩),
 (121,⟨false,[.ptr],.ptr⟩),
 (127,⟨false,[.int .i64],.int .i64⟩),
 (130,⟨false,[.ptr],.ptr⟩),
 (134,⟨true,[.int .i64,.int .i64,.int .i64,.int .i64,.str],.struct [(0,false,1),(1,false,1),(2,false,1),(3,false,1),(4,false,1)]⟩),
 (135,⟨true,[.int .i64,.int .i64,.int .i64,.int .i64,.str],.struct [(0,false,1),(1,false,1),(2,false,1),(3,false,1),(4,false,1)]⟩),
 (138,⟨true,[.int .i64,.int .i64,.int .i64,.int .i64,.int .i64,.int .i64,.int .i64,.int .i64,.int .i64,.int .i64,.int .i64,.int .i64,.int .i64,.int .i64,.int .i64,.int .i64,.int .i64,.int .i64,.int .i64,.int .i64,.int .i64],.arr 21 1 false⟩),
 (141,⟨true,[.bool,.bool,.bool,.bool],.arr 4 1 false⟩),
 (142,⟨true,[.bool,.bool,.bool,.bool],.arr 4 1 false⟩),
 (147,⟨true,[.ptr,.ptr,.ptr,.str],.struct [(0,false,1),(1,false,1),(2,false,1),(3,false,1)]⟩),
 (148,⟨true,[.ptr,.ptr,.ptr,.str],.struct [(0,false,1),(1,false,1),(2,false,1),(3,false,1)]⟩),
 (149,⟨true,[],.arr 0 1 false⟩),
 (150,⟨true,[],.other⟩),
 (151,⟨true,[],.other⟩),
 (152,⟨false,[.int .u32],.int .u32⟩),
 (153,⟨false,[.int .u8],.int .u8⟩),
 (154,⟨false,[.int .u8],.int .u8⟩),
 (156,⟨false,[.ptr],.ptr⟩),
 (157,⟨false,[.int .i32],.int .i32⟩),
 (158,⟨false,[.int .i32],.int .i32⟩),
 (159,⟨true,[.int .u64,.int .u64,.int .u32,.int .u8,.int .u8,.int .u8,.int .u8,.fn,.ptr,.int .i32,.int .i32],.struct [(0,false,1),(1,false,1),(2,false,1),(3,false,1),(4,false,1),(5,false,1),(6,false,1),(7,false,1),(8,false,1),(9,false,1),(10,false,1)]⟩),
 (160,⟨true,[.int .u64,.int .u64,.int .u32,.int .u8,.int .u8,.int .u8,.int .u8,.fn,.ptr,.int .i32,.int .i32],.struct [(0,false,1),(1,false,1),(2,false,1),(3,false,1),(4,false,1),(5,false,1),(6,false,1),(7,false,1),(8,false,1),(9,false,1),(10,false,1)]⟩),
 (161,⟨false,[.ptr],.other⟩)]++[1,24,25,26,34,35,36,37,38,44,45,46,53,54,56,57,58,60,61,64,65,66,68,69,70,71,72,73,74,75,79,80,81,82,86,89,95,96,98,99,100,101,102,103,105,106,107,108,109,110,111,113,115,118,119,120,122,123,124,125,126,128,129,131,132,133,136,137,139,140,143,144,145,146,155].map (fun t=>(t,⟨false,[.fn],.other⟩))++[0,43,52,55,63,104,112,114].map fun t=>(t,⟨false,[.other],.other⟩)
noncomputable def zue:List (Nat×List RK):=[
 (33,[.cell .bool]),
 (26,[.cell (.int .i64)]),
 (46,[.cell (.int .i64)]),
 (67,[.cell .bool]),
 (28,[.cell .bool]),
 (81,[.cell (.int .i64)]),
 (82,[.cell (.int .i64)]),
 (45,[.cell (.int .i64)]),
 (56,[.cell .bool]),
 (73,[.cell .bool]),
 (32,[.cell .bool]),
 (34,[.cell (.int .i64)]),
 (9,[.cell .bool]),
 (83,[.cell .bool]),
 (84,[.cell .bool]),
 (85,[.cell .bool]),
 (86,[.cell .bool]),
 (47,[.cell .bool]),
 (119,[.cell (.int .i64)]),
 (69,[.cell (.int .i64)]),
 (87,[.cell .bool]),
 (48,[.cell .bool]),
 (140,[.cell .bool]),
 (88,[.cell .bool]),
 (89,[.cell .bool]),
 (49,[.cell .bool]),
 (90,[.cell .bool]),
 (91,[.cell .bool]),
 (50,[.cell .bool]),
 (18,[.cell .bool]),
 (150,[.cell .bool]),
 (102,[.cell .bool]),
 (142,[.cell (.int .i64)]),
 (143,[.cell (.int .i64)]),
 (97,[.cell (.int .i64)]),
 (94,[.cell (.int .i64)]),
 (152,[.cell (.int .i64)]),
 (174,[.cell (.int .i64)]),
 (175,[.cell (.int .i64),.cell .bool]),
 (44,[.cell .bool]),
 (176,[.cell (.int .i64)]),
 (148,[.cell (.int .i64)]),
 (151,[.cell (.int .i64)]),
 (103,[.cell (.int .i64)]),
 (106,[.cell (.int .i64)]),
 (197,[.cell .bool]),
 (141,[.cell .bool]),
 (199,[.cell (.int .i64)]),
 (93,[.cell (.int .i64)]),
 (57,[.cell (.int .i64)]),
 (111,[.cell (.int .i64)]),
 (114,[.cell .bool]),
 (159,[.cell (.int .i64)]),
 (112,[.cell (.int .i64)]),
 (113,[.cell (.int .i64)]),
 (115,[.cell .bool]),
 (65,[.cell (.int .i64)]),
 (200,[.cell (.int .i64)]),
 (74,[.cell .bool]),
 (37,[.cell .bool]),
 (39,[.cell (.int .i64)]),
 (72,[.cell .bool]),
 (8,[.cell .bool]),
 (35,[.cell .str]),
 (10,[.cell (.int .i64)]),
 (11,[.cell .str]),
 (38,[.cell .bool]),
 (12,[.cell .bool]),
 (14,[.cell (.int .i64)]),
 (123,[.cell .bool]),
 (124,[.cell (.int .i64)]),
 (75,[.cell .bool]),
 (166,[.cell .bool]),
 (125,[.cell .bool]),
 (126,[.cell .bool]),
 (195,[.cell .bool]),
 (167,[.cell .bool]),
 (127,[.cell .bool]),
 (168,[.cell .bool]),
 (128,[.cell .bool]),
 (76,[.cell .bool]),
 (139,[.cell (.int .i64)]),
 (138,[.cell (.int .i64)]),
 (80,[.cell (.int .i64)]),
 (43,[.cell (.int .i64)]),
 (54,[.agg [.ptr,.int .i64]]),
 (129,[.cell .bool]),
 (130,[.cell .bool]),
 (169,[.cell .bool]),
 (131,[.cell .bool]),
 (132,[.cell .ptr]),
 (173,[.agg [.int .i64,.int .i64,.int .i64,.int .i64,.int .i64,.int .i64,.int .i64,.int .i64,.int .i64,.int .i64,.int .i64,.int .i64,.int .i64,.int .i64,.int .i64,.int .i64,.int .i64,.int .i64,.int .i64,.int .i64,.int .i64]]),
 (137,[.cell (.int .i64)]),
 (170,[.cell (.int .i64)]),
 (133,[.cell .bool]),
 (134,[.cell (.int .i64)]),
 (77,[.cell .bool]),
 (171,[.cell .bool]),
 (172,[.cell .bool]),
 (135,[.cell .bool]),
 (136,[.cell .bool]),
 (78,[.cell .bool]),
 (42,[.cell .bool]),
 (116,[.cell .bool]),
 (79,[.cell .bool]),
 (41,[.cell .bool]),
 (17,[.cell (.int .i64)]),
 (53,[.cell .bool]),
 (92,[.cell (.int .i64)]),
 (95,[.cell (.int .i64)]),
 (58,[.cell (.int .i64)]),
 (55,[.cell (.int .i64)]),
 (20,[.cell (.int .i64)]),
 (21,[.cell (.int .i64)]),
 (22,[.cell (.int .i64)]),
 (66,[.cell (.int .i64)]),
 (108,[.cell (.int .i64)]),
 (109,[.cell (.int .i64)]),
 (158,[.cell .ptr]),
 (110,[.cell .bool]),
 (63,[.cell (.int .i64),.cell .bool]),
 (24,[.cell (.int .i64),.cell .bool]),
 (64,[.cell .bool]),
 (25,[.cell (.int .i64),.cell .bool]),
 (27,[.cell (.int .i64)]),
 (177,[.agg [.bool,.bool,.bool,.bool]]),
 (154,[.cell (.int .i64)]),
 (157,[.cell .bool])]
noncomputable def zuc:List (Nat×List RK):=[
 (2,[]),
 (29,[.cell .ptr]),
 (59,[.cell (.int .i64)]),
 (149,[.agg [.int .i64,.int .i64,.int .i64,.slice,.slice]]),
 (101,[.agg [.int .i64,.slice,.slice,.slice]]),
 (96,[.agg [.int .i64,.slice,.slice,.slice],.cell (.int .i64)]),
 (99,[.agg [.int .i64,.slice,.slice,.slice]]),
 (144,[.agg [.int .i64,.slice,.slice,.slice]]),
 (165,[.agg [.int .i64,.int .i64,.int .i64,.slice,.slice]]),
 (121,[.agg [.int .i64,.int .i64,.int .i64,.slice,.slice],.cell (.int .i64)]),
 (145,[.agg [.int .i64,.slice,.slice,.slice]]),
 (146,[.agg [.int .i64,.slice,.slice,.slice]]),
 (98,[.agg [.int .i64,.slice,.slice,.slice]]),
 (60,[.agg [.int .i64,.slice,.slice,.slice],.cell (.int .i64),.cell (.int .i64)]),
 (164,[.agg [.bool,.int .i64,.str,.int .i64,.int .i64,.int .i64,.int .i64,.int .i64,.int .i64,.int .i64,.int .i64,.slice,.slice,.slice]]),
 (118,[.agg [.int .i64,.slice,.slice,.slice],.cell (.int .i64),.cell (.int .i64)]),
 (160,[.agg [.int .i64,.slice,.slice,.slice],.cell .bool]),
 (161,[.cell (.int .i64)]),
 (147,[.agg [.int .i64,.slice,.slice,.slice]]),
 (100,[.agg [.int .i64,.slice,.slice,.slice]]),
 (61,[.agg [.int .i64,.slice,.slice,.slice],.cell (.int .i64)]),
 (104,[.cell .slice]),
 (105,[.agg [.int .i64,.slice,.slice,.slice],.cell .bool]),
 (107,[.agg [.int .i64,.slice,.slice,.slice]]),
 (62,[.agg [.int .i64,.slice,.slice,.slice],.cell (.int .i64)]),
 (179,[.agg [.int .i64,.slice,.slice,.slice],.cell (.int .i64)]),
 (180,[.agg [.int .i64,.slice,.slice,.slice],.cell (.int .i64)]),
 (181,[.agg [.int .i64,.slice,.slice,.slice],.cell (.int .i64)]),
 (182,[.agg [.int .i64,.slice,.slice,.slice],.cell (.int .i64)]),
 (183,[.agg [.int .i64,.slice,.slice,.slice],.cell (.int .i64)]),
 (184,[.agg [.int .i64,.slice,.slice,.slice],.cell (.int .i64)]),
 (196,[.agg [.int .i64,.slice,.slice,.slice],.cell (.int .i64)]),
 (185,[.agg [.int .i64,.slice,.slice,.slice],.cell (.int .i64)]),
 (198,[.agg [.int .i64,.slice,.slice,.slice]]),
 (186,[.agg [.int .i64,.slice,.slice,.slice],.cell (.int .i64)]),
 (187,[.agg [.int .i64,.slice,.slice,.slice],.cell (.int .i64)]),
 (120,[.agg [.int .i64,.int .i64,.int .i64,.slice,.slice],.cell .bool]),
 (188,[.agg [.int .i64,.slice,.slice,.slice],.cell (.int .i64)]),
 (189,[.agg [.int .i64,.slice,.slice,.slice],.cell (.int .i64)]),
 (190,[.agg [.int .i64,.slice,.slice,.slice],.cell (.int .i64)]),
 (191,[.agg [.int .i64,.slice,.slice,.slice],.cell (.int .i64)]),
 (192,[.agg [.int .i64,.slice,.slice,.slice],.cell (.int .i64)]),
 (162,[.agg [.int .i64,.slice,.slice,.slice],.cell (.int .i64)]),
 (193,[.cell (.int .i64)]),
 (194,[.cell (.int .i64)]),
 (163,[.agg [.int .i64,.int .i64,.int .i64,.int .i64,.str]]),
 (117,[.agg [.int .i64,.slice,.slice,.slice]]),
 (68,[.agg [.int .i64,.slice,.slice,.slice]]),
 (122,[.agg [.int .i64,.int .i64,.int .i64]]),
 (70,[.agg [.int .i64,.int .i64,.int .i64,.slice,.slice]]),
 (71,[.agg [.int .i64,.slice,.slice,.slice]]),
 (30,[.agg [.int .i64,.slice,.slice,.slice]]),
 (7,[.cell .slice]),
 (31,[.cell .slice,.cell .bool]),
 (36,[.cell .ptr]),
 (13,[.cell .slice]),
 (3,[.cell .bool]),
 (40,[.cell (.int .i64)]),
 (15,[.agg [.int .i64,.slice,.slice,.slice],.cell (.int .i64)]),
 (16,[.cell (.int .i64)]),
 (4,[.cell .bool]),
 (51,[.cell (.int .i64)]),
 (52,[.cell (.int .i64)]),
 (19,[.agg [.int .i64,.slice,.slice,.slice],.cell (.int .i64),.cell (.int .i64)]),
 (5,[.cell .bool]),
 (23,[.agg [.int .i64,.slice,.slice,.slice],.cell (.int .i64)]),
 (156,[.cell (.int .i64),.cell .bool]),
 (6,[.cell .bool]),
 (155,[.cell .fn]),
 (153,[]),
 (178,[])]
noncomputable def zu0:List (Nat×List RK):=[(55,[.cell (.int .i64),.cell .bool])]
def zcj (f:Func):Code:=match f.body with
 | some c=>c
 | none=>.skip
theorem zcd {β:Type}:∀{l:List (Nat×β)} {f:Nat} {k:β},zgr l f=some k->(f,k)∈l
 | [],f,k,h=>by cases h
 | p::r,f,k,h=>by
  simp only [zgr] at h
  cases hb:Nat.beq p.1 f with
  | true=>
   rw [hb] at h;simp only [cond_true,Option.some.injEq] at h;have:p.1=f:=Nat.eq_of_beq_eq_true hb;rw [<-this,<-h]; exact List.mem_cons_self
  | false=>
   rw [hb] at h;exact List.mem_cons_of_mem _ (zcd h)
abbrev Cz:=Calls Tryz.prog
abbrev PX (bs:List Nat):=Q3 bs Tryz.prog
theorem zs1:zot Tryz.prog zt5=true:=by kernel_rfl
theorem ztz:(zue.all fun p=>Ky Tryz.prog p.1)=true:=by kernel_rfl
theorem ztn:(zuc.all fun p=>Ky Tryz.prog p.1)=true:=by kernel_rfl
theorem znn:Tryz.prog.follows .mixedOrders=true:=by kernel_rfl
theorem zu9:zlw Tryz.prog (Gz zt5):=zos (l:=zt5) zs1
theorem zu6 (f:Nat) (ks:List RK) (h:zgr zue f=some ks):Th Tryz.prog f:=EI (List.all_eq_true.1 ztz (f,ks) (zcd h))
theorem zu4 (f:Nat) (ks:List RK) (h:zgr zuc f=some ks):Th Tryz.prog f:=EI (List.all_eq_true.1 ztn (f,ks) (zcd h))
theorem zuv (vis:List Nat) (n:Nat) (pm wr:Bool) (rd:Option Nat):zlz { P:=Tryz.prog,T:=Gz zt5,pf:=zue,ef:=zuc,tt:=zu0,vis:=vis,n:=n,pm:=pm,wr:=wr,rd:=rd }:=
 ⟨zu9,zu6,zu4,znn⟩
noncomputable def ziq (vis:List Nat) (n:Nat) (pm wr:Bool):VC:={ P:=Tryz.prog,T:=Gz zt5,pf:=zue,ef:=zuc,tt:=zu0,vis:=vis,n:=n,pm:=pm,wr:=wr }
def fits (fn:Func) (n:Nat):Bool:=Nat.ble n fn.ntmps&&Nat.ble fn.ntmps 4000&&fn.body.isSome
theorem DG {fn:Func} {n:Nat} (h:fits fn n=true):n<=fn.ntmps/\fn.ntmps<=4000/\fn.body=some (zcj fn):=by
 unfold fits at h;simp only [Bool.and_eq_true] at h;refine ⟨Nat.le_of_ble_eq_true h.1.1,Nat.le_of_ble_eq_true h.1.2,?_⟩
 cases hb:fn.body with
 | none=>rw [hb] at h; cases h.2
 | some c=>simp [zcj,hb]
abbrev YI (V:World->(Value->World->Prop)->Prop) (f:FuncId) (args:Array Value):Prop:=∀{w:World} {bs:List Nat} {ret:Value},(∀wr0,Q0 bs w wr0->V wr0 fun v0 _=>v0=ret)->PX bs f args w ret
abbrev JO (V:World->(Value->World->Prop)->Prop) (f:FuncId) (args:Array Value):Prop:=∀{w:World} {R:Value->World->Prop},V w R->Cz f args w fun e0 wr0=>∃v0,e0 = .returned v0/\R v0 wr0
theorem pV (vis:List Nat) (wr:Bool) (sps:List (Nat×YX)) {f:FuncId} {fn:Func} {args:List Value} {V:World->(Value->World->Prop)->Prop} (hf:Tryz.prog.funcs[f]? = some fn) (hk:fits fn args.length=true) (hV:zmq (ziq vis fn.ntmps true wr) sps args (zcj fn) fn.results.toList=V):YI V f args.toArray:=fun {w bs ret} hvc=>
 zht (C:=ziq vis fn.ntmps true wr) (sps:=sps) (zuv _ _ _ _ _) hf (DG hk).2.2 rfl (DG hk).1 (DG hk).2.1 rfl rfl fun wr0 hx0=>by rw [hV]; exact hvc wr0 hx0
theorem eV (vis:List Nat) (wr:Bool) (sps:List (Nat×YX)) {f:FuncId} {fn:Func} {args:List Value} {V:World->(Value->World->Prop)->Prop} (hf:Tryz.prog.funcs[f]? = some fn) (hk:fits fn args.length=true) (hV:zmq (ziq vis fn.ntmps false wr) sps args (zcj fn) fn.results.toList=V):JO V f args.toArray:=fun {w R} hvc=>
 zkg (C:=ziq vis fn.ntmps false wr) (sps:=sps) (zuv _ _ _ _ _) hf (DG hk).2.2 rfl (DG hk).1 (DG hk).2.1 rfl rfl (by rw [hV]; exact hvc)
end Go.Proofs.YtclpmgfpjeaibaaGreat
