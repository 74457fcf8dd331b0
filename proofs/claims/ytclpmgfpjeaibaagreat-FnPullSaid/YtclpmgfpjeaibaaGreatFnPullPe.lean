/- Part 5 of what the law FnPull needs: the engine, the functions' propositions, the contracts. -/
import Derived.Test.YtclpmgfpjeaibaaGreatFnPullPd
import Derived.Test.YtclpmgfpjeaibaaGreatProg
import Derived.KernelRfl
namespace Go.Proofs.YtclpmgfpjeaibaaGreat
open Go.RowKit
set_option linter.unusedVariables false
set_option maxRecDepth 100000
set_option maxHeartbeats 1600000
set_option maxHeartbeats 8000000
def Qd:TypeId:=3
def YD:TypeId:=4
def Oj:TypeId:=5
def Zt:TypeId:=9
def ty_sl_uint8:TypeId:=22
def QW:TypeId:=23
def Zs:TypeId:=27
def Vq:TypeId:=28
def Jf:TypeId:=30
def ZE:TypeId:=31
def QN:TypeId:=33
def Ye:TypeId:=39
def Zj:TypeId:=40
def Q4:TypeId:=42
def QK:TypeId:=48
def ZB:TypeId:=50
def M9:TypeId:=62
def Yd:TypeId:=67
def zh6:TypeId:=78
def O1:TypeId:=84
def YE:TypeId:=88
def EL:TypeId:=91
def Zr:TypeId:=92
def QC:TypeId:=94
def zbr:TypeId:=127
def Jn:Nat:=29
def Q1:Nat:=59
def Qf:Nat:=33
def QV:Nat:=26
def UD:Nat:=46
def ZR:Nat:=67
def Z4:Nat:=28
def Jm:Nat:=81
def Pn:Nat:=82
def ZV:Nat:=45
def ZS:Nat:=56
def Pl:Nat:=73
def VS:Nat:=32
def Jo:Nat:=34
def VU:Nat:=9
def Uc:Nat:=83
def Yp:Nat:=84
def Zx:Nat:=85
def VO:Nat:=86
def VY:Nat:=47
def ZI:Nat:=119
def Jl:Nat:=69
def UT:Nat:=87
def TG:Nat:=48
def Xa:Nat:=140
def XW:Nat:=88
def UC:Nat:=89
def VZ:Nat:=49
def Yr:Nat:=90
def TF:Nat:=91
def OB:Nat:=50
def ZC:Nat:=18
def TX:Nat:=149
def Js:Nat:=101
def Zg:Nat:=150
def JB:Nat:=102
def QH:Nat:=96
def X8:Nat:=142
def XV:Nat:=143
def Ua:Nat:=97
def Z2:Nat:=99
def Yy:Nat:=94
def Yz:Nat:=152
def JR:Nat:=174
def US:Nat:=144
def TY:Nat:=165
def Y9:Nat:=121
def Pm:Nat:=145
def UR:Nat:=175
def TE:Nat:=146
def Qk:Nat:=98
def Yo:Nat:=60
def UQ:Nat:=164
def Qx:Nat:=118
def TA:Nat:=160
def Zw:Nat:=161
def Ya:Nat:=44
def VW:Nat:=176
def Xd:Nat:=147
def JA:Nat:=148
def Yg:Nat:=100
def UN:Nat:=61
def JS:Nat:=151
def Pp:Nat:=103
def Ud:Nat:=104
def Pq:Nat:=105
def Po:Nat:=106
def TH:Nat:=107
def U9:Nat:=62
def Ve:Nat:=179
def VT:Nat:=180
def Tx:Nat:=181
def Tu:Nat:=182
def Tw:Nat:=183
def Tv:Nat:=184
def X9:Nat:=196
def TB:Nat:=197
def VQ:Nat:=185
def XB:Nat:=141
def JC:Nat:=198
def Vd:Nat:=186
def Tt:Nat:=187
def Qz:Nat:=120
def Vc:Nat:=188
def VP:Nat:=199
def Tz:Nat:=189
def JD:Nat:=93
def TC:Nat:=57
def XA:Nat:=111
def Ub:Nat:=114
def Xu:Nat:=159
def Vf:Nat:=112
def Vb:Nat:=113
def Oy:Nat:=115
def UP:Nat:=65
def V8:Nat:=190
def VR:Nat:=200
def Pk:Nat:=191
def Mj:Nat:=192
def UO:Nat:=162
def Yq:Nat:=193
def ZJ:Nat:=194
def Jc:Nat:=163
def Vh:Nat:=117
def Uw:Nat:=68
def XC:Nat:=122
def Vg:Nat:=70
def Oz:Nat:=71
def Xe:Nat:=30
def Qo:Nat:=74
def Jz:Nat:=37
def V7:Nat:=39
def Ph:Nat:=72
def Mh:Nat:=31
def Pi:Nat:=8
def Vi:Nat:=40
def Tk:Nat:=15
def Zv:Nat:=123
def YG:Nat:=124
def Xo:Nat:=75
def U6:Nat:=166
def VJ:Nat:=125
def XU:Nat:=126
def Jy:Nat:=195
def JP:Nat:=167
def U8:Nat:=127
def Pg:Nat:=168
def Xn:Nat:=128
def YY:Nat:=76
def Jk:Nat:=139
def V4:Nat:=138
def XS:Nat:=80
def Xm:Nat:=43
def Z0:Nat:=54
def VM:Nat:=129
def Pj:Nat:=130
def J9:Nat:=169
def UL:Nat:=131
def Z1:Nat:=132
def Uu:Nat:=173
def YR:Nat:=137
def Ow:Nat:=170
def VN:Nat:=133
def XR:Nat:=134
def Xp:Nat:=77
def Ut:Nat:=171
def V6:Nat:=172
def Us:Nat:=135
def U7:Nat:=136
def YN:Nat:=78
def XT:Nat:=42
def YT:Nat:=116
def Xy:Nat:=79
def UM:Nat:=41
def VV:Nat:=17
def VX:Nat:=52
def YX:Nat:=53
def Mi:Nat:=92
def Xz:Nat:=95
def Uv:Nat:=23
def Y8:Nat:=66
def Xx:Nat:=108
def ME:Nat:=156
def JQ:Nat:=109
def Ts:Nat:=158
def Xq:Nat:=110
def VK:Nat:=63
def Ov:Nat:=24
def Kb:Nat:=64
def Ox:Nat:=25
def UK:Nat:=27
def Lh:Nat:=6
def VL:Nat:=177
def V3:Nat:=154
def Ja:Nat:=155
def Jb:Nat:=153
def Y7:Nat:=157
def QT:Nat:=178
noncomputable def zp5:List (TypeId×Ty):=[
 (2,⟨false,[.int .i64],.int .i64⟩),
 (3,⟨false,[.int .i64],.int .i64⟩),
 (4,⟨false,[.bool],.bool⟩),
 (5,⟨false,[.int .u8],.int .u8⟩),
 (6,⟨false,[.int .u8],.int .u8⟩),
 (7,⟨true,[.int .i64,.int .i64,.bool,.int .u8],.struct [(0,false,1),(1,false,1),(2,false,1),(3,false,1)]⟩),
 (8,⟨true,[.int .i64,.int .i64,.bool,.int .u8],.struct [(0,false,1),(1,false,1),(2,false,1),(3,false,1)]⟩),
 (9,⟨false,[.str],.str⟩),
 (10,⟨false,[.str],.str⟩),
 (11,⟨false,[.str],.str⟩),
 (12,⟨false,[.int .u64],.int .u64⟩),
 (13,⟨true,[.str,.int .u64],.struct [(0,false,1),(1,false,1)]⟩),
 (14,⟨true,[.str,.int .u64],.struct [(0,false,1),(1,false,1)]⟩),
 (15,⟨false,[.ptr],.ptr⟩),
 (16,⟨false,[.ptr],.ptr⟩),
 (17,⟨false,[.ptr],.ptr⟩),
 (18,⟨true,[.ptr],.struct [(0,false,1)]⟩),
 (19,⟨true,[.ptr],.struct [(0,false,1)]⟩),
 (20,⟨false,[.iface],.other⟩),
 (21,⟨false,[.int .i32],.int .i32⟩),
 (22,⟨false,[.slice],.slice 5 1⟩),
 (23,⟨false,[.slice],.slice 33 14⟩),
 (27,⟨false,[.slice],.slice 3 1⟩),
 (28,⟨false,[.slice],.slice 4 1⟩),
 (29,⟨true,[.int .i64,.int .i64,.int .i64,.slice,.slice],.struct [(0,false,1),(1,false,1),(2,false,1),(3,false,1),(4,false,1)]⟩),
 (30,⟨true,[.int .i64,.int .i64,.int .i64,.slice,.slice],.struct [(0,false,1),(1,false,1),(2,false,1),(3,false,1),(4,false,1)]⟩),
 (31,⟨false,[.slice],.slice 88 5⟩),
 (32,⟨true,[.bool,.int .i64,.str,.int .i64,.int .i64,.int .i64,.int .i64,.int .i64,.int .i64,.int .i64,.int .i64,.slice,.slice,.slice],.struct [(0,false,1),(1,false,1),(2,false,1),(3,false,1),(4,false,1),(5,false,1),(6,false,1),(7,false,1),(8,true,5),(13,false,1)]⟩),
 (33,⟨true,[.bool,.int .i64,.str,.int .i64,.int .i64,.int .i64,.int .i64,.int .i64,.int .i64,.int .i64,.int .i64,.slice,.slice,.slice],.struct [(0,false,1),(1,false,1),(2,false,1),(3,false,1),(4,false,1),(5,false,1),(6,false,1),(7,false,1),(8,true,5),(13,false,1)]⟩),
 (39,⟨false,[.slice],.slice 50 5⟩),
 (40,⟨false,[.slice],.slice 48 9⟩),
 (41,⟨true,[.int .i64,.slice,.slice,.slice],.struct [(0,false,1),(1,false,1),(2,false,1),(3,false,1)]⟩),
 (42,⟨true,[.int .i64,.slice,.slice,.slice],.struct [(0,false,1),(1,false,1),(2,false,1),(3,false,1)]⟩),
 (47,⟨true,[.int .i64,.int .i64,.int .i64,.int .i64,.int .i64,.int .i64,.int .i64,.int .i64,.int .i64],.struct [(0,false,1),(1,false,1),(2,false,1),(3,false,1),(4,false,1),(5,false,1),(6,false,1),(7,false,1),(8,false,1)]⟩),
 (48,⟨true,[.int .i64,.int .i64,.int .i64,.int .i64,.int .i64,.int .i64,.int .i64,.int .i64,.int .i64],.struct [(0,false,1),(1,false,1),(2,false,1),(3,false,1),(4,false,1),(5,false,1),(6,false,1),(7,false,1),(8,false,1)]⟩),
 (49,⟨true,[.bool,.int .i64,.int .i64,.int .i64,.int .i64],.struct [(0,false,1),(1,false,1),(2,false,1),(3,false,1),(4,false,1)]⟩),
 (50,⟨true,[.bool,.int .i64,.int .i64,.int .i64,.int .i64],.struct [(0,false,1),(1,false,1),(2,false,1),(3,false,1),(4,false,1)]⟩),
 (51,⟨false,[.int .u64],.int .u64⟩),
 (59,⟨false,[.ptr],.ptr⟩),
 (62,⟨false,[.slice],.slice 67 1⟩),
 (67,⟨false,[.ptr],.ptr⟩),
 (76,⟨false,[.ptr],.ptr⟩),
 (77,⟨true,[.ptr,.int .i64],.struct [(0,false,1),(1,false,1)]⟩),
 (78,⟨true,[.ptr,.int .i64],.struct [(0,false,1),(1,false,1)]⟩),
 (83,⟨true,[.slice,.int .i64],.struct [(0,false,1),(1,false,1)]⟩),
 (84,⟨true,[.slice,.int .i64],.struct [(0,false,1),(1,false,1)]⟩),
 (85,⟨false,[.slice],.slice 9 1⟩),
 (87,⟨true,[.int .i64,.bool,.int .i64,.int .i64,.int .i64],.struct [(0,false,1),(1,false,1),(2,false,1),(3,false,1),(4,false,1)]⟩),
 (88,⟨true,[.int .i64,.bool,.int .i64,.int .i64,.int .i64],.struct [(0,false,1),(1,false,1),(2,false,1),(3,false,1),(4,false,1)]⟩),
 (90,⟨true,[.int .i64,.str,.ptr],.struct [(0,false,1),(1,false,1),(2,false,1)]⟩),
 (91,⟨true,[.int .i64,.str,.ptr],.struct [(0,false,1),(1,false,1),(2,false,1)]⟩),
 (92,⟨false,[.map],.other⟩),
 (93,⟨true,[.int .i64,.str],.struct [(0,false,1),(1,false,1)]⟩),
 (94,⟨true,[.int .i64,.str],.struct [(0,false,1),(1,false,1)]⟩),
 (97,⟨true,[.fn,.fn,.fn,.fn,.fn],.arr 5 1 false⟩),
 (116,⟨true,[.int .i64,.int .i64,.int .i64],.struct [(0,false,1),(1,false,1),(2,false,1)]⟩),
 (117,⟨true,[.int .i64,.int .i64,.int .i64],.struct [(0,false,1),(1,false,1),(2,false,1)]⟩),
 (121,⟨false,[.ptr],.ptr⟩),
 (127,⟨false,[.int .i64],.int .i64⟩),
 (130,⟨false,[.ptr],.ptr⟩),
 (134,⟨true,[.int .i64,.int .i64,.int .i64,.int .i64,.str],.struct [(0,false,1),(1,false,1),(2,false,1),(3,false,1),(4,false,1)]⟩),
 (135,⟨true,[.int .i64,.int .i64,.int .i64,.int .i64,.str],.struct [(0,false,1),(1,false,1),(2,false,1),(3,false,1),(4,false,1)]⟩),
 (138,⟨true,[.int .i64,.int .i64,.int .i64,.int .i64,.int .i64,.int .i64,.int .i64,.int .i64,.int .i64,.int .i64,.int .i64,.int .i64,.int .i64,.int .i64,.int .i64,.int .i64,.int .i64,.int .i64,.int .i64,.int .i64,.int .i64],.arr 21 1 false⟩),
 (141,⟨true,[.bool,.bool,.bool,.bool],.arr 4 1 false⟩),
 (142,⟨true,[.bool,.bool,.bool,.bool],.arr 4 1 false⟩),
 (147,⟨true,[.ptr,.ptr,.ptr,.str],.struct [(0,false,1),(1,false,1),(2,false,1),(3,false,1)]⟩),
 (148,⟨true,[.ptr,.ptr,.ptr,.str],.struct [(0,false,1),(1,false,1),(2,false,1),(3,false,1)]⟩),
 (149,⟨true,[],.arr 0 1 false⟩),
 (150,⟨true,[],.other⟩),
 (151,⟨true,[],.other⟩),
 (152,⟨false,[.int .u32],.int .u32⟩),
 (153,⟨false,[.int .u8],.int .u8⟩),
 (154,⟨false,[.int .u8],.int .u8⟩),
 (156,⟨false,[.ptr],.ptr⟩),
 (157,⟨false,[.int .i32],.int .i32⟩),
 (158,⟨false,[.int .i32],.int .i32⟩),
 (159,⟨true,[.int .u64,.int .u64,.int .u32,.int .u8,.int .u8,.int .u8,.int .u8,.fn,.ptr,.int .i32,.int .i32],.struct [(0,false,1),(1,false,1),(2,false,1),(3,false,1),(4,false,1),(5,false,1),(6,false,1),(7,false,1),(8,false,1),(9,false,1),(10,false,1)]⟩),
 (160,⟨true,[.int .u64,.int .u64,.int .u32,.int .u8,.int .u8,.int .u8,.int .u8,.fn,.ptr,.int .i32,.int .i32],.struct [(0,false,1),(1,false,1),(2,false,1),(3,false,1),(4,false,1),(5,false,1),(6,false,1),(7,false,1),(8,false,1),(9,false,1),(10,false,1)]⟩),
 (161,⟨false,[.ptr],.other⟩)]++[1,24,25,26,34,35,36,37,38,44,45,46,53,54,56,57,58,60,61,64,65,66,68,69,70,71,72,73,74,75,79,80,81,82,86,89,95,96,98,99,100,101,102,103,105,106,107,108,109,110,111,113,115,118,119,120,122,123,124,125,126,128,129,131,132,133,136,137,139,140,143,144,145,146,155].map (fun t=>(t,⟨false,[.fn],.other⟩))++[0,43,52,55,63,104,112,114].map fun t=>(t,⟨false,[.other],.other⟩)
noncomputable def zqe:List (Nat×List RK):=[
 (33,[.cell .bool]),
 (26,[.cell (.int .i64)]),
 (46,[.cell (.int .i64)]),
 (67,[.cell .bool]),
 (28,[.cell .bool]),
 (81,[.cell (.int .i64)]),
 (82,[.cell (.int .i64)]),
 (45,[.cell (.int .i64)]),
 (56,[.cell .bool]),
 (73,[.cell .bool]),
 (32,[.cell .bool]),
 (34,[.cell (.int .i64)]),
 (9,[.cell .bool]),
 (83,[.cell .bool]),
 (84,[.cell .bool]),
 (85,[.cell .bool]),
 (86,[.cell .bool]),
 (47,[.cell .bool]),
 (119,[.cell (.int .i64)]),
 (69,[.cell (.int .i64)]),
 (87,[.cell .bool]),
 (48,[.cell .bool]),
 (140,[.cell .bool]),
 (88,[.cell .bool]),
 (89,[.cell .bool]),
 (49,[.cell .bool]),
 (90,[.cell .bool]),
 (91,[.cell .bool]),
 (50,[.cell .bool]),
 (18,[.cell .bool]),
 (150,[.cell .bool]),
 (102,[.cell .bool]),
 (142,[.cell (.int .i64)]),
 (143,[.cell (.int .i64)]),
 (97,[.cell (.int .i64)]),
 (94,[.cell (.int .i64)]),
 (152,[.cell (.int .i64)]),
 (174,[.cell (.int .i64)]),
 (175,[.cell (.int .i64),.cell .bool]),
 (44,[.cell .bool]),
 (176,[.cell (.int .i64)]),
 (148,[.cell (.int .i64)]),
 (151,[.cell (.int .i64)]),
 (103,[.cell (.int .i64)]),
 (106,[.cell (.int .i64)]),
 (197,[.cell .bool]),
 (141,[.cell .bool]),
 (199,[.cell (.int .i64)]),
 (93,[.cell (.int .i64)]),
 (57,[.cell (.int .i64)]),
 (111,[.cell (.int .i64)]),
 (114,[.cell .bool]),
 (159,[.cell (.int .i64)]),
 (112,[.cell (.int .i64)]),
 (113,[.cell (.int .i64)]),
 (115,[.cell .bool]),
 (65,[.cell (.int .i64)]),
 (200,[.cell (.int .i64)]),
 (74,[.cell .bool]),
 (37,[.cell .bool]),
 (39,[.cell (.int .i64)]),
 (72,[.cell .bool]),
 (8,[.cell .bool]),
 (35,[.cell .str]),
 (10,[.cell (.int .i64)]),
 (11,[.cell .str]),
 (38,[.cell .bool]),
 (12,[.cell .bool]),
 (14,[.cell (.int .i64)]),
 (123,[.cell .bool]),
 (124,[.cell (.int .i64)]),
 (75,[.cell .bool]),
 (166,[.cell .bool]),
 (125,[.cell .bool]),
 (126,[.cell .bool]),
 (195,[.cell .bool]),
 (167,[.cell .bool]),
 (127,[.cell .bool]),
 (168,[.cell .bool]),
 (128,[.cell .bool]),
 (76,[.cell .bool]),
 (139,[.cell (.int .i64)]),
 (138,[.cell (.int .i64)]),
 (80,[.cell (.int .i64)]),
 (43,[.cell (.int .i64)]),
 (54,[.agg [.ptr,.int .i64]]),
 (129,[.cell .bool]),
 (130,[.cell .bool]),
 (169,[.cell .bool]),
 (131,[.cell .bool]),
 (132,[.cell .ptr]),
 (173,[.agg [.int .i64,.int .i64,.int .i64,.int .i64,.int .i64,.int .i64,.int .i64,.int .i64,.int .i64,.int .i64,.int .i64,.int .i64,.int .i64,.int .i64,.int .i64,.int .i64,.int .i64,.int .i64,.int .i64,.int .i64,.int .i64]]),
 (137,[.cell (.int .i64)]),
 (170,[.cell (.int .i64)]),
 (133,[.cell .bool]),
 (134,[.cell (.int .i64)]),
 (77,[.cell .bool]),
 (171,[.cell .bool]),
 (172,[.cell .bool]),
 (135,[.cell .bool]),
 (136,[.cell .bool]),
 (78,[.cell .bool]),
 (42,[.cell .bool]),
 (116,[.cell .bool]),
 (79,[.cell .bool]),
 (41,[.cell .bool]),
 (17,[.cell (.int .i64)]),
 (53,[.cell .bool]),
 (92,[.cell (.int .i64)]),
 (95,[.cell (.int .i64)]),
 (58,[.cell (.int .i64)]),
 (55,[.cell (.int .i64)]),
 (20,[.cell (.int .i64)]),
 (21,[.cell (.int .i64)]),
 (22,[.cell (.int .i64)]),
 (66,[.cell (.int .i64)]),
 (108,[.cell (.int .i64)]),
 (109,[.cell (.int .i64)]),
 (158,[.cell .ptr]),
 (110,[.cell .bool]),
 (63,[.cell (.int .i64),.cell .bool]),
 (24,[.cell (.int .i64),.cell .bool]),
 (64,[.cell .bool]),
 (25,[.cell (.int .i64),.cell .bool]),
 (27,[.cell (.int .i64)]),
 (177,[.agg [.bool,.bool,.bool,.bool]]),
 (154,[.cell (.int .i64)]),
 (157,[.cell .bool])]
noncomputable def zqc:List (Nat×List RK):=[
 (2,[]),
 (29,[.cell .ptr]),
 (59,[.cell (.int .i64)]),
 (149,[.agg [.int .i64,.int .i64,.int .i64,.slice,.slice]]),
 (101,[.agg [.int .i64,.slice,.slice,.slice]]),
 (96,[.agg [.int .i64,.slice,.slice,.slice],.cell (.int .i64)]),
 (99,[.agg [.int .i64,.slice,.slice,.slice]]),
 (144,[.agg [.int .i64,.slice,.slice,.slice]]),
 (165,[.agg [.int .i64,.int .i64,.int .i64,.slice,.slice]]),
 (121,[.agg [.int .i64,.int .i64,.int .i64,.slice,.slice],.cell (.int .i64)]),
 (145,[.agg [.int .i64,.slice,.slice,.slice]]),
 (146,[.agg [.int .i64,.slice,.slice,.slice]]),
 (98,[.agg [.int .i64,.slice,.slice,.slice]]),
 (60,[.agg [.int .i64,.slice,.slice,.slice],.cell (.int .i64),.cell (.int .i64)]),
 (164,[.agg [.bool,.int .i64,.str,.int .i64,.int .i64,.int .i64,.int .i64,.int .i64,.int .i64,.int .i64,.int .i64,.slice,.slice,.slice]]),
 (118,[.agg [.int .i64,.slice,.slice,.slice],.cell (.int .i64),.cell (.int .i64)]),
 (160,[.agg [.int .i64,.slice,.slice,.slice],.cell .bool]),
 (161,[.cell (.int .i64)]),
 (147,[.agg [.int .i64,.slice,.slice,.slice]]),
 (100,[.agg [.int .i64,.slice,.slice,.slice]]),
 (61,[.agg [.int .i64,.slice,.slice,.slice],.cell (.int .i64)]),
 (104,[.cell .slice]),
 (105,[.agg [.int .i64,.slice,.slice,.slice],.cell .bool]),
 (107,[.agg [.int .i64,.slice,.slice,.slice]]),
 (62,[.agg [.int .i64,.slice,.slice,.slice],.cell (.int .i64)]),
 (179,[.agg [.int .i64,.slice,.slice,.slice],.cell (.int .i64)]),
 (180,[.agg [.int .i64,.slice,.slice,.slice],.cell (.int .i64)]),
 (181,[.agg [.int .i64,.slice,.slice,.slice],.cell (.int .i64)]),
 (182,[.agg [.int .i64,.slice,.slice,.slice],.cell (.int .i64)]),
 (183,[.agg [.int .i64,.slice,.slice,.slice],.cell (.int .i64)]),
 (184,[.agg [.int .i64,.slice,.slice,.slice],.cell (.int .i64)]),
 (196,[.agg [.int .i64,.slice,.slice,.slice],.cell (.int .i64)]),
 (185,[.agg [.int .i64,.slice,.slice,.slice],.cell (.int .i64)]),
 (198,[.agg [.int .i64,.slice,.slice,.slice]]),
 (186,[.agg [.int .i64,.slice,.slice,.slice],.cell (.int .i64)]),
 (187,[.agg [.int .i64,.slice,.slice,.slice],.cell (.int .i64)]),
 (120,[.agg [.int .i64,.int .i64,.int .i64,.slice,.slice],.cell .bool]),
 (188,[.agg [.int .i64,.slice,.slice,.slice],.cell (.int .i64)]),
 (189,[.agg [.int .i64,.slice,.slice,.slice],.cell (.int .i64)]),
 (190,[.agg [.int .i64,.slice,.slice,.slice],.cell (.int .i64)]),
 (191,[.agg [.int .i64,.slice,.slice,.slice],.cell (.int .i64)]),
 (192,[.agg [.int .i64,.slice,.slice,.slice],.cell (.int .i64)]),
 (162,[.agg [.int .i64,.slice,.slice,.slice],.cell (.int .i64)]),
 (193,[.cell (.int .i64)]),
 (194,[.cell (.int .i64)]),
 (163,[.agg [.int .i64,.int .i64,.int .i64,.int .i64,.str]]),
 (117,[.agg [.int .i64,.slice,.slice,.slice]]),
 (68,[.agg [.int .i64,.slice,.slice,.slice]]),
 (122,[.agg [.int .i64,.int .i64,.int .i64]]),
 (70,[.agg [.int .i64,.int .i64,.int .i64,.slice,.slice]]),
 (71,[.agg [.int .i64,.slice,.slice,.slice]]),
 (30,[.agg [.int .i64,.slice,.slice,.slice]]),
 (7,[.cell .slice]),
 (31,[.cell .slice,.cell .bool]),
 (36,[.cell .ptr]),
 (13,[.cell .slice]),
 (3,[.cell .bool]),
 (40,[.cell (.int .i64)]),
 (15,[.agg [.int .i64,.slice,.slice,.slice],.cell (.int .i64)]),
 (16,[.cell (.int .i64)]),
 (4,[.cell .bool]),
 (51,[.cell (.int .i64)]),
 (52,[.cell (.int .i64)]),
 (19,[.agg [.int .i64,.slice,.slice,.slice],.cell (.int .i64),.cell (.int .i64)]),
 (5,[.cell .bool]),
 (23,[.agg [.int .i64,.slice,.slice,.slice],.cell (.int .i64)]),
 (156,[.cell (.int .i64),.cell .bool]),
 (6,[.cell .bool]),
 (155,[.cell .fn]),
 (153,[]),
 (178,[])]
noncomputable def zti:List (Nat×List RK):=[(55,[.cell (.int .i64),.cell .bool])]
def J6(f:Func):Code:=match f.body with
 | some c=>c
 | none=>.skip
theorem zgb{β:Type}:∀{l:List (Nat×β)} {f:Nat} {k:β},zkr l f=some k->(f,k)∈l
 | [],f,k,h=>by cases h
 | p::r,f,k,h=>by
  simp only[zkr] at h
  cases hb:Nat.beq p.1 f with
  | true=>
   rw[hb] at h;simp only[cond_true,Option.some.injEq] at h;have:p.1=f:=Nat.eq_of_beq_eq_true hb;rw[<-this,<-h]; exact List.mem_cons_self
  | false=>
   rw[hb] at h;exact List.mem_cons_of_mem _ (zgb h)
abbrev Cz:=Calls Tryz.prog
abbrev PX (bs:List Nat):=Q3 bs Tryz.prog
theorem zxk:zs1 Tryz.prog zp5=true:=by kernel_rfl
theorem zyl:(zqe.all fun p=>G8 Tryz.prog p.1)=true:=by kernel_rfl
theorem zx9:(zqc.all fun p=>G8 Tryz.prog p.1)=true:=by kernel_rfl
theorem zrx:Tryz.prog.follows .mixedOrders=true:=by kernel_rfl
theorem zzr:zqb Tryz.prog (Vp zp5):=zs0 (l:=zp5) zxk
theorem zzo(f:Nat)(ks:List RK)(h:zkr zqe f=some ks):O3 Tryz.prog f:=BH (List.all_eq_true.1 zyl (f,ks) (zgb h))
theorem zzm(f:Nat)(ks:List RK)(h:zkr zqc f=some ks):O3 Tryz.prog f:=BH (List.all_eq_true.1 zx9 (f,ks) (zgb h))
theorem ztf(vis:List Nat)(n:Nat)(pm wr:Bool)(rd:Option Nat):zmp { P:=Tryz.prog,T:=Vp zp5,pf:=zqe,ef:=zqc,tt:=zti,vis:=vis,n:=n,pm:=pm,wr:=wr,rd:=rd }:=
 ⟨zzr,zzo,zzm,zrx⟩
noncomputable def zmz(vis:List Nat)(n:Nat)(pm wr:Bool):U3:={ P:=Tryz.prog,T:=Vp zp5,pf:=zqe,ef:=zqc,tt:=zti,vis:=vis,n:=n,pm:=pm,wr:=wr }
def fits(fn:Func)(n:Nat):Bool:=Nat.ble n fn.ntmps&&Nat.ble fn.ntmps 4000&&fn.body.isSome
theorem Fw{fn:Func}{n:Nat}(h:fits fn n=true):n<=fn.ntmps/\fn.ntmps<=4000/\fn.body=some (J6 fn):=by
 unfold fits at h;simp only[Bool.and_eq_true] at h;refine⟨Nat.le_of_ble_eq_true h.1.1,Nat.le_of_ble_eq_true h.1.2,?_⟩
 cases hb:fn.body with
 | none=>rw[hb] at h; cases h.2
 | some c=>simp[J6,hb]
abbrev Yv(V:Wo->(Va->Wo->Prop)->Prop)(f:FuncId)(args:Array Va):Prop:=∀{w:Wo} {bs:List Nat} {ret:Va},(∀wr0,Q0 bs w wr0->V wr0 fun v0 _=>v0=ret)->PX bs f args w ret
abbrev Ug(V:Wo->(Va->Wo->Prop)->Prop)(f:FuncId)(args:Array Va):Prop:=∀{w:Wo} {R:Va->Wo->Prop},V w R->Cz f args w fun e0 wr0=>∃v0,e0=.returned v0/\R v0 wr0
theorem pV(vis:List Nat)(wr:Bool)(sps:List (Nat×ZN)){f:FuncId}{fn:Func}{args:List Va}{V:Wo->(Va->Wo->Prop)->Prop}(hf:Tryz.prog.funcs[f]? = some fn)(hk:fits fn args.length=true)(hV:zq4 (zmz vis fn.ntmps true wr) sps args (J6 fn) fn.results.toList=V):Yv V f args.toArray:=fun {w bs ret} hvc=>
 zlz (C:=zmz vis fn.ntmps true wr) (sps:=sps) (ztf _ _ _ _ _) hf (Fw hk).2.2 rfl (Fw hk).1 (Fw hk).2.1 rfl rfl fun wr0 hx0=>by rw[hV]; exact hvc wr0 hx0
theorem eV(vis:List Nat)(wr:Bool)(sps:List (Nat×ZN)){f:FuncId}{fn:Func}{args:List Va}{V:Wo->(Va->Wo->Prop)->Prop}(hf:Tryz.prog.funcs[f]? = some fn)(hk:fits fn args.length=true)(hV:zq4 (zmz vis fn.ntmps false wr) sps args (J6 fn) fn.results.toList=V):Ug V f args.toArray:=fun {w R} hvc=>
 zov (C:=zmz vis fn.ntmps false wr) (sps:=sps) (ztf _ _ _ _ _) hf (Fw hk).2.2 rfl (Fw hk).1 (Fw hk).2.1 rfl rfl (by rw[hV]; exact hvc)
end Go.Proofs.YtclpmgfpjeaibaaGreat
