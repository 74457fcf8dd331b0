/- Part 4 of what the law FnParts needs. -/
import Derived.Test.YtjinkcmkgnofjaaGreatDoorFnPartsPc
import Derived.Test.YtjinkcmkgnofjaaGreatDoorProg
import Derived.KernelRfl
set_option linter.all false
set_option maxRecDepth 100000
set_option maxHeartbeats 8000000
namespace Go.Proofs.YtjinkcmkgnofjaaGreatDoor
open Go.RowKit
def Qg:TypeId:=3
def ZA:TypeId:=4
def Pj:TypeId:=5
def ZZ:TypeId:=9
def ty_sl_uint8:TypeId:=22
def Zy:TypeId:=23
def Z8:TypeId:=24
def QE:TypeId:=25
def Q5:TypeId:=27
def Zi:TypeId:=36
def YX:TypeId:=40
def Ja:TypeId:=41
def M4:TypeId:=43
def Zd:TypeId:=44
def Z0:TypeId:=46
def QQ:TypeId:=65
def OZ:TypeId:=68
def ZO:TypeId:=80
def Yd:TypeId:=86
def TV:TypeId:=89
def J6:TypeId:=112
def Jw:TypeId:=127
def ZU:TypeId:=136
def Zx:TypeId:=139
def XK:TypeId:=143
def Jd:TypeId:=145
def Kk:TypeId:=175
def YF:TypeId:=179
def Bz:TypeId:=181
def ZY:TypeId:=182
def QW:TypeId:=184
def Vr:Nat:=12
def Q4:Nat:=15
def Vs:Nat:=34
def Qj:Nat:=23
def Mr:Nat:=74
def Tx:Nat:=36
def Yt:Nat:=37
def JO:Nat:=38
def TA:Nat:=53
def Vg:Nat:=54
def YU:Nat:=40
def Ys:Nat:=43
def UP:Nat:=92
def Y4:Nat:=93
def Ts:Nat:=94
def TC:Nat:=55
def Zm:Nat:=42
def Zu:Nat:=77
def JN:Nat:=80
def Mt:Nat:=81
def YJ:Nat:=45
def Yk:Nat:=68
def Vp:Nat:=118
def Vv:Nat:=95
def OI:Nat:=56
def Xy:Nat:=100
def Jk:Nat:=96
def Vf:Nat:=97
def TE:Nat:=57
def YW:Nat:=66
def OH:Nat:=98
def Pw:Nat:=58
def Xi:Nat:=21
def OT:Nat:=59
def JS:Nat:=22
def ZK:Nat:=60
def U9:Nat:=24
def Z5:Nat:=35
def QJ:Nat:=16
def Zj:Nat:=26
def X1:Nat:=67
def X0:Nat:=70
def Uv:Nat:=75
def Vu:Nat:=63
def OU:Nat:=101
def XD:Nat:=62
def Ms:Nat:=64
def Vt:Nat:=99
def OG:Nat:=65
def Qn:Nat:=29
def Xw:Nat:=78
def Jj:Nat:=79
def UN:Nat:=44
def Xv:Nat:=18
def OD:Nat:=14
def Y3:Nat:=71
def Uw:Nat:=61
def Mw:Nat:=25
def UQ:Nat:=27
def Mx:Nat:=28
def Mu:Nat:=30
def OJ:Nat:=31
def UM:Nat:=10
def Xx:Nat:=39
def J3:Nat:=76
def Ua:Nat:=41
def VP:Nat:=17
def VQ:Nat:=102
def X6:Nat:=142
def Tz:Nat:=103
def TB:Nat:=144
def XE:Nat:=143
def OB:Nat:=104
def Ox:Nat:=105
def Oz:Nat:=106
def U8:Nat:=146
def YI:Nat:=145
def Pt:Nat:=107
def Oy:Nat:=108
def OE:Nat:=147
def Tv:Nat:=109
def Ow:Nat:=110
def Ps:Nat:=148
def VO:Nat:=111
def Tt:Nat:=149
def OC:Nat:=112
def Ub:Nat:=181
def OF:Nat:=150
def J2:Nat:=182
def UO:Nat:=185
def XW:Nat:=195
def VR:Nat:=183
def VN:Nat:=184
def Pu:Nat:=186
def Pv:Nat:=151
def VM:Nat:=113
def Tw:Nat:=152
def Mq:Nat:=114
def Kv:Nat:=115
def Vq:Nat:=72
def YV:Nat:=116
def Yl:Nat:=117
def JC:Nat:=73
def VS:Nat:=33
def Vc:Nat:=13
def Tu:Nat:=5
def Uu:Nat:=8
def Qy:Nat:=48
def Y2:Nat:=153
def X4:Nat:=154
def U6:Nat:=160
def Mk:Nat:=196
def VL:Nat:=197
def Ku:Nat:=187
def Ml:Nat:=155
def XM:Nat:=119
def UJ:Nat:=188
def Tj:Nat:=156
def Ji:Nat:=157
def U5:Nat:=198
def Us:Nat:=189
def UL:Nat:=158
def Mi:Nat:=190
def XL:Nat:=159
def Xn:Nat:=120
def ZE:Nat:=51
def Tm:Nat:=161
def Je:Nat:=140
def QC:Nat:=141
def Mm:Nat:=162
def VJ:Nat:=191
def Pp:Nat:=163
def JM:Nat:=200
def VH:Nat:=199
def Jg:Nat:=192
def U3:Nat:=164
def Vb:Nat:=180
def Yj:Nat:=139
def Vn:Nat:=193
def Tp:Nat:=165
def XN:Nat:=121
def Xl:Nat:=171
def XC:Nat:=172
def Xk:Nat:=136
def UK:Nat:=166
def Xf:Nat:=122
def Jb:Nat:=138
def Jh:Nat:=167
def J1:Nat:=123
def Pq:Nat:=82
def Oo:Nat:=124
def U7:Nat:=83
def LG:Nat:=84
def Vo:Nat:=46
def Ov:Nat:=19
def XB:Nat:=20
def Jf:Nat:=9
def Mo:Nat:=69
def Pr:Nat:=32
def Tr:Nat:=11
def Gh:Nat:=4
def Jz:Nat:=49
def Yb:Nat:=85
def VI:Nat:=50
def ZM:Nat:=86
def Ut:Nat:=129
def ZJ:Nat:=130
def UH:Nat:=173
def VF:Nat:=132
def YH:Nat:=131
def Tk:Nat:=87
def Yp:Nat:=88
def UI:Nat:=194
def Uq:Nat:=174
def VG:Nat:=175
def V7:Nat:=176
def Ur:Nat:=177
def JL:Nat:=134
def VK:Nat:=89
def V8:Nat:=178
def Mj:Nat:=179
def YL:Nat:=135
def Tl:Nat:=137
def ZB:Nat:=90
def JA:Nat:=91
def Oq:Nat:=52
def JB:Nat:=47
def X5:Nat:=133
def Xg:Nat:=232
def YZ:Nat:=235
noncomputable def zwc:List (TypeId×Ty):=[
 (2,⟨false,[.int .i64],.int .i64⟩),
 (3,⟨false,[.int .i64],.int .i64⟩),
 (4,⟨false,[.bool],.bool⟩),
 (5,⟨false,[.int .u8],.int .u8⟩),
 (6,⟨false,[.int .u8],.int .u8⟩),
 (7,⟨true,[.int .i64,.int .i64,.bool,.int .u8],.struct [(0,false,1),(1,false,1),(2,false,1),(3,false,1)]⟩),
 (8,⟨true,[.int .i64,.int .i64,.bool,.int .u8],.struct [(0,false,1),(1,false,1),(2,false,1),(3,false,1)]⟩),
 (9,⟨false,[.str],.str⟩),
 (10,⟨false,[.str],.str⟩),
 (11,⟨false,[.str],.str⟩),
 (12,⟨false,[.int .u64],.int .u64⟩),
 (13,⟨true,[.str,.int .u64],.struct [(0,false,1),(1,false,1)]⟩),
 (14,⟨true,[.str,.int .u64],.struct [(0,false,1),(1,false,1)]⟩),
 (15,⟨false,[.ptr],.ptr⟩),
 (16,⟨false,[.ptr],.ptr⟩),
 (17,⟨false,[.ptr],.ptr⟩),
 (18,⟨true,[.ptr],.struct [(0,false,1)]⟩),
 (19,⟨true,[.ptr],.struct [(0,false,1)]⟩),
 (20,⟨false,[.iface],.other⟩),
 (21,⟨false,[.int .i32],.int .i32⟩),
 (22,⟨false,[.slice],.slice 5 1⟩),
 (23,⟨false,[.slice],.slice 36 5⟩),
 (24,⟨false,[.slice],.slice 65 9⟩),
 (25,⟨false,[.slice],.slice 46 14⟩),
 (26,⟨true,[.int .i64,.slice,.slice,.slice],.struct [(0,false,1),(1,false,1),(2,false,1),(3,false,1)]⟩),
 (27,⟨true,[.int .i64,.slice,.slice,.slice],.struct [(0,false,1),(1,false,1),(2,false,1),(3,false,1)]⟩),
 (35,⟨true,[.bool,.int .i64,.int .i64,.int .i64,.int .i64],.struct [(0,false,1),(1,false,1),(2,false,1),(3,false,1),(4,false,1)]⟩),
 (36,⟨true,[.bool,.int .i64,.int .i64,.int .i64,.int .i64],.struct [(0,false,1),(1,false,1),(2,false,1),(3,false,1),(4,false,1)]⟩),
 (37,⟨false,[.ptr],.ptr⟩),
 (40,⟨false,[.slice],.slice 3 1⟩),
 (41,⟨false,[.slice],.slice 4 1⟩),
 (42,⟨true,[.int .i64,.int .i64,.int .i64,.slice,.slice],.struct [(0,false,1),(1,false,1),(2,false,1),(3,false,1),(4,false,1)]⟩),
 (43,⟨true,[.int .i64,.int .i64,.int .i64,.slice,.slice],.struct [(0,false,1),(1,false,1),(2,false,1),(3,false,1),(4,false,1)]⟩),
 (44,⟨false,[.slice],.slice 80 5⟩),
 (45,⟨true,[.bool,.int .i64,.str,.int .i64,.int .i64,.int .i64,.int .i64,.int .i64,.int .i64,.int .i64,.int .i64,.slice,.slice,.slice],.struct [(0,false,1),(1,false,1),(2,false,1),(3,false,1),(4,false,1),(5,false,1),(6,false,1),(7,false,1),(8,true,5),(13,false,1)]⟩),
 (46,⟨true,[.bool,.int .i64,.str,.int .i64,.int .i64,.int .i64,.int .i64,.int .i64,.int .i64,.int .i64,.int .i64,.slice,.slice,.slice],.struct [(0,false,1),(1,false,1),(2,false,1),(3,false,1),(4,false,1),(5,false,1),(6,false,1),(7,false,1),(8,true,5),(13,false,1)]⟩),
 (52,⟨false,[.slice],.slice 9 1⟩),
 (64,⟨true,[.int .i64,.int .i64,.int .i64,.int .i64,.int .i64,.int .i64,.int .i64,.int .i64,.int .i64],.struct [(0,false,1),(1,false,1),(2,false,1),(3,false,1),(4,false,1),(5,false,1),(6,false,1),(7,false,1),(8,false,1)]⟩),
 (65,⟨true,[.int .i64,.int .i64,.int .i64,.int .i64,.int .i64,.int .i64,.int .i64,.int .i64,.int .i64],.struct [(0,false,1),(1,false,1),(2,false,1),(3,false,1),(4,false,1),(5,false,1),(6,false,1),(7,false,1),(8,false,1)]⟩),
 (67,⟨true,[.slice,.int .i64],.struct [(0,false,1),(1,false,1)]⟩),
 (68,⟨true,[.slice,.int .i64],.struct [(0,false,1),(1,false,1)]⟩),
 (79,⟨true,[.int .i64,.bool,.int .i64,.int .i64,.int .i64],.struct [(0,false,1),(1,false,1),(2,false,1),(3,false,1),(4,false,1)]⟩),
 (80,⟨true,[.int .i64,.bool,.int .i64,.int .i64,.int .i64],.struct [(0,false,1),(1,false,1),(2,false,1),(3,false,1),(4,false,1)]⟩),
 (82,⟨false,[.ptr],.ptr⟩),
 (83,⟨false,[.iface],.other⟩),
 (84,⟨false,[.iface],.other⟩),
 (85,⟨true,[.int .i64],.struct [(0,false,1)]⟩),
 (86,⟨true,[.int .i64],.struct [(0,false,1)]⟩),
 (88,⟨true,[.ptr,.int .i64],.struct [(0,false,1),(1,false,1)]⟩),
 (89,⟨true,[.ptr,.int .i64],.struct [(0,false,1),(1,false,1)]⟩),
 (100,⟨true,[.int .i64,.int .i64,.int .i64],.struct [(0,false,1),(1,false,1),(2,false,1)]⟩),
 (101,⟨true,[.int .i64,.int .i64,.int .i64],.struct [(0,false,1),(1,false,1),(2,false,1)]⟩),
 (106,⟨true,[.int .i64,.int .i64,.int .i64,.int .i64,.str],.struct [(0,false,1),(1,false,1),(2,false,1),(3,false,1),(4,false,1)]⟩),
 (107,⟨true,[.int .i64,.int .i64,.int .i64,.int .i64,.str],.struct [(0,false,1),(1,false,1),(2,false,1),(3,false,1),(4,false,1)]⟩),
 (112,⟨false,[.ptr],.ptr⟩),
 (114,⟨false,[.ptr],.ptr⟩),
 (116,⟨false,[.int .u64],.int .u64⟩),
 (123,⟨true,[.fn,.fn,.fn,.fn,.fn],.arr 5 1 false⟩),
 (124,⟨false,[.ptr],.other⟩),
 (125,⟨false,[.int .u64],.int .u64⟩),
 (126,⟨true,[.ptr,.ptr,.int .u64],.struct [(0,false,1),(1,false,1),(2,false,1)]⟩),
 (127,⟨true,[.ptr,.ptr,.int .u64],.struct [(0,false,1),(1,false,1),(2,false,1)]⟩),
 (129,⟨false,[.iface],.other⟩),
 (130,⟨false,[.iface],.other⟩),
 (132,⟨false,[.int .u8],.int .u8⟩),
 (136,⟨false,[.slice],.slice 139 1⟩),
 (138,⟨false,[.iface],.other⟩),
 (139,⟨false,[.iface],.other⟩),
 (142,⟨true,[.int .i64,.int .i64,.int .i64,.int .i64,.int .i64,.int .i64,.int .i64,.int .i64,.int .i64,.int .i64],.struct [(0,false,1),(1,true,9)]⟩),
 (143,⟨true,[.int .i64,.int .i64,.int .i64,.int .i64,.int .i64,.int .i64,.int .i64,.int .i64,.int .i64,.int .i64],.struct [(0,false,1),(1,true,9)]⟩),
 (144,⟨true,[.int .i64,.int .i64,.bool,.int .i64,.int .i64,.int .i64],.struct [(0,false,1),(1,true,5)]⟩),
 (145,⟨true,[.int .i64,.int .i64,.bool,.int .i64,.int .i64,.int .i64],.struct [(0,false,1),(1,true,5)]⟩),
 (146,⟨true,[.int .i64],.struct [(0,false,1)]⟩),
 (147,⟨true,[.int .i64],.struct [(0,false,1)]⟩),
 (149,⟨false,[.ptr],.ptr⟩),
 (151,⟨false,[.ptr],.ptr⟩),
 (152,⟨false,[.ptr],.ptr⟩),
 (157,⟨true,[.ptr],.struct [(0,false,1)]⟩),
 (158,⟨true,[.ptr],.struct [(0,false,1)]⟩),
 (159,⟨false,[.ptr],.ptr⟩),
 (163,⟨false,[.iface],.other⟩),
 (166,⟨false,[.iface],.other⟩),
 (168,⟨false,[.iface],.other⟩),
 (169,⟨false,[.slice],.slice 84 1⟩),
 (171,⟨true,[.int .i64,.int .i64,.int .i64,.int .i64,.int .i64,.int .i64,.int .i64,.int .i64,.int .i64,.int .i64,.int .i64,.int .i64,.int .i64,.int .i64,.int .i64,.int .i64,.int .i64,.int .i64,.int .i64,.int .i64,.int .i64],.arr 21 1 false⟩),
 (175,⟨false,[.slice],.slice 179 1⟩),
 (178,⟨false,[.int .i64],.int .i64⟩),
 (179,⟨false,[.ptr],.ptr⟩),
 (180,⟨true,[.int .i64,.str,.ptr],.struct [(0,false,1),(1,false,1),(2,false,1)]⟩),
 (181,⟨true,[.int .i64,.str,.ptr],.struct [(0,false,1),(1,false,1),(2,false,1)]⟩),
 (182,⟨false,[.map],.other⟩),
 (183,⟨true,[.int .i64,.str],.struct [(0,false,1),(1,false,1)]⟩),
 (184,⟨true,[.int .i64,.str],.struct [(0,false,1),(1,false,1)]⟩),
 (186,⟨true,[.ptr,.ptr,.ptr,.str],.struct [(0,false,1),(1,false,1),(2,false,1),(3,false,1)]⟩),
 (187,⟨true,[.ptr,.ptr,.ptr,.str],.struct [(0,false,1),(1,false,1),(2,false,1),(3,false,1)]⟩),
 (188,⟨true,[],.arr 0 1 false⟩),
 (189,⟨true,[],.other⟩),
 (190,⟨true,[],.other⟩),
 (192,⟨false,[.int .u32],.int .u32⟩),
 (193,⟨false,[.int .u8],.int .u8⟩),
 (195,⟨false,[.ptr],.ptr⟩),
 (196,⟨false,[.int .i32],.int .i32⟩),
 (197,⟨false,[.int .i32],.int .i32⟩),
 (198,⟨true,[.int .u64,.int .u64,.int .u32,.int .u8,.int .u8,.int .u8,.int .u8,.fn,.ptr,.int .i32,.int .i32],.struct [(0,false,1),(1,false,1),(2,false,1),(3,false,1),(4,false,1),(5,false,1),(6,false,1),(7,false,1),(8,false,1),(9,false,1),(10,false,1)]⟩),
 (199,⟨true,[.int .u64,.int .u64,.int .u32,.int .u8,.int .u8,.int .u8,.int .u8,.fn,.ptr,.int .i32,.int .i32],.struct [(0,false,1),(1,false,1),(2,false,1),(3,false,1),(4,false,1),(5,false,1),(6,false,1),(7,false,1),(8,false,1),(9,false,1),(10,false,1)]⟩),
 (204,⟨true,[.str,.int .u8],.struct [(0,false,1),(1,false,1)]⟩),
 (205,⟨true,[.str,.int .u8],.struct [(0,false,1),(1,false,1)]⟩),
 (206,⟨false,[.ptr],.ptr⟩),
 (207,⟨true,[.bool,.int .i64],.struct [(0,false,1),(1,false,1)]⟩),
 (208,⟨true,[.bool,.int .i64],.struct [(0,false,1),(1,false,1)]⟩),
 (210,⟨false,[.int .u16],.int .u16⟩),
 (211,⟨true,[.int .i32,.int .u16,.int .u16,.int .u32,.int .u32],.struct [(0,false,1),(1,false,1),(2,false,1),(3,false,1),(4,false,1)]⟩),
 (212,⟨true,[.int .i32,.int .u16,.int .u16,.int .u32,.int .u32],.struct [(0,false,1),(1,false,1),(2,false,1),(3,false,1),(4,false,1)]⟩),
 (213,⟨false,[.slice],.slice 216 4⟩),
 (214,⟨false,[.int .i32],.int .i32⟩),
 (215,⟨true,[.int .i32,.int .i32,.int .i32,.int .i32],.struct [(0,false,1),(1,false,1),(2,false,1),(3,false,1)]⟩),
 (216,⟨true,[.int .i32,.int .i32,.int .i32,.int .i32],.struct [(0,false,1),(1,false,1),(2,false,1),(3,false,1)]⟩),
 (217,⟨false,[.ptr],.ptr⟩)]++[1,28,29,30,32,33,34,38,39,48,49,51,53,54,55,56,57,58,59,60,61,62,63,66,69,70,71,72,73,74,75,76,77,78,81,87,90,91,92,93,94,95,96,97,99,102,103,104,105,108,109,110,111,113,115,117,119,120,121,122,128,131,133,134,135,137,140,141,150,153,155,156,160,161,162,165,167,170,172,173,174,177,185,191,194,200,201,202,203,209].map (λt=>(t,⟨false,[.fn],.other⟩))++[0,31,47,50,98,118,148,154,164,176].map λt=>(t,⟨false,[.other],.other⟩)
noncomputable def z0j:List (Nat×List RK):=[
 (23,[.cell .bool]),
 (74,[.cell .bool]),
 (36,[.cell .bool]),
 (37,[.cell .bool]),
 (38,[.cell (.int .i64)]),
 (53,[.cell .bool]),
 (54,[.cell (.int .i64)]),
 (40,[.cell .bool]),
 (43,[.cell .bool]),
 (92,[.cell .bool]),
 (93,[.cell .bool]),
 (94,[.cell .bool]),
 (55,[.cell .bool]),
 (42,[.cell (.int .i64)]),
 (77,[.cell .bool]),
 (80,[.cell (.int .i64)]),
 (81,[.cell (.int .i64)]),
 (45,[.cell (.int .i64)]),
 (68,[.cell (.int .i64)]),
 (118,[.cell (.int .i64)]),
 (95,[.cell .bool]),
 (56,[.cell .bool]),
 (100,[.cell .bool]),
 (96,[.cell .bool]),
 (97,[.cell .bool]),
 (57,[.cell .bool]),
 (66,[.cell .bool]),
 (98,[.cell .bool]),
 (58,[.cell .bool]),
 (21,[.cell .bool]),
 (60,[.cell .bool]),
 (24,[.cell .bool]),
 (67,[.cell (.int .i64)]),
 (70,[.cell (.int .i64)]),
 (75,[.cell (.int .i64)]),
 (99,[.cell (.int .i64),.cell .bool]),
 (78,[.cell (.int .i64)]),
 (79,[.cell (.int .i64)]),
 (44,[.cell (.int .i64)]),
 (61,[.cell (.int .i64)]),
 (25,[.cell (.int .i64)]),
 (30,[.cell (.int .i64)]),
 (76,[.cell .bool]),
 (142,[.cell .bool]),
 (144,[.cell (.int .i64)]),
 (146,[.cell (.int .i64)]),
 (147,[.cell .bool]),
 (149,[.cell (.int .i64)]),
 (181,[.cell (.int .i64)]),
 (150,[.cell (.int .i64)]),
 (182,[.cell (.int .i64)]),
 (185,[.cell .bool]),
 (195,[.cell (.int .i64)]),
 (183,[.cell (.int .i64)]),
 (184,[.cell (.int .i64)]),
 (186,[.cell .bool]),
 (151,[.cell (.int .i64)]),
 (152,[.cell (.int .i64)]),
 (6,[.cell .bool]),
 (8,[.cell (.int .i64)]),
 (48,[.cell .bool]),
 (153,[.cell .bool]),
 (154,[.cell (.int .i64)]),
 (160,[.cell .bool]),
 (196,[.cell .bool]),
 (197,[.cell (.int .i64)]),
 (155,[.cell .bool]),
 (119,[.cell .bool]),
 (188,[.cell .bool]),
 (156,[.cell .bool]),
 (157,[.cell .bool]),
 (198,[.cell .bool]),
 (189,[.cell .bool]),
 (158,[.cell .bool]),
 (190,[.cell .bool]),
 (159,[.cell .bool]),
 (120,[.cell .bool]),
 (51,[.agg [.ptr,.int .i64]]),
 (161,[.cell .bool]),
 (140,[.cell (.int .i64)]),
 (141,[.cell .ptr]),
 (162,[.cell .bool]),
 (191,[.cell .bool]),
 (163,[.cell .bool]),
 (200,[.cell (.int .i64)]),
 (199,[.cell (.int .i64)]),
 (192,[.cell (.int .i64)]),
 (164,[.cell (.int .i64)]),
 (180,[.agg [.int .i64,.int .i64,.int .i64,.int .i64,.int .i64,.int .i64,.int .i64,.int .i64,.int .i64,.int .i64,.int .i64,.int .i64,.int .i64,.int .i64,.int .i64,.int .i64,.int .i64,.int .i64,.int .i64,.int .i64,.int .i64]]),
 (139,[.cell (.int .i64)]),
 (193,[.cell (.int .i64)]),
 (165,[.cell .bool]),
 (121,[.cell .bool]),
 (171,[.cell .bool]),
 (172,[.cell .bool]),
 (136,[.cell .bool]),
 (166,[.cell .bool]),
 (122,[.cell .bool]),
 (138,[.cell .bool]),
 (167,[.cell .bool]),
 (123,[.cell .bool]),
 (82,[.cell .bool]),
 (20,[]),
 (69,[.cell .bool]),
 (32,[.cell .bool]),
 (11,[.cell .bool]),
 (49,[.cell .bool]),
 (85,[.cell .bool]),
 (50,[.cell .bool]),
 (86,[.cell .ptr]),
 (173,[.cell .bool]),
 (132,[.cell (.int .i64)]),
 (87,[.cell (.int .i64)]),
 (178,[.cell (.int .i64)]),
 (179,[.cell (.int .i64)]),
 (225,[.cell .ptr]),
 (227,[.cell .bool]),
 (226,[.cell (.int .i64)]),
 (232,[.cell (.int .i64)]),
 (235,[.cell (.int .i64)])]
noncomputable def z0g:List (Nat×List RK):=[
 (2,[]),
 (12,[.cell .ptr]),
 (15,[.cell (.int .i64)]),
 (34,[.agg [.bool,.int .i64,.str,.int .i64,.int .i64,.int .i64,.int .i64,.int .i64,.int .i64,.int .i64,.int .i64,.slice,.slice,.slice]]),
 (59,[.agg [.int .i64,.int .i64,.int .i64,.slice,.slice]]),
 (22,[.agg [.int .i64,.slice,.slice,.slice]]),
 (35,[.agg [.int .i64,.slice,.slice,.slice],.cell (.int .i64)]),
 (16,[.agg [.int .i64,.slice,.slice,.slice],.cell (.int .i64),.cell (.int .i64)]),
 (26,[.agg [.int .i64,.slice,.slice,.slice]]),
 (63,[.agg [.int .i64,.slice,.slice,.slice]]),
 (101,[.agg [.int .i64,.int .i64,.int .i64,.slice,.slice]]),
 (62,[.agg [.int .i64,.int .i64,.int .i64,.slice,.slice],.cell (.int .i64)]),
 (64,[.agg [.int .i64,.slice,.slice,.slice]]),
 (65,[.agg [.int .i64,.slice,.slice,.slice]]),
 (29,[.agg [.int .i64,.slice,.slice,.slice]]),
 (18,[.agg [.int .i64,.slice,.slice,.slice],.cell (.int .i64),.cell (.int .i64)]),
 (14,[.agg [.int .i64,.slice,.slice,.slice],.cell .bool]),
 (71,[.cell (.int .i64)]),
 (27,[.cell .slice]),
 (28,[.agg [.int .i64,.slice,.slice,.slice],.cell .bool]),
 (31,[.agg [.int .i64,.slice,.slice,.slice]]),
 (10,[.agg [.int .i64,.slice,.slice,.slice],.cell (.int .i64)]),
 (39,[.agg [.int .i64,.slice,.slice,.slice],.cell (.int .i64)]),
 (41,[.agg [.int .i64,.slice,.slice,.slice]]),
 (17,[.agg [.int .i64,.slice,.slice,.slice],.cell (.int .i64)]),
 (102,[.agg [.int .i64,.slice,.slice,.slice],.cell (.int .i64)]),
 (103,[.agg [.int .i64,.slice,.slice,.slice],.cell (.int .i64)]),
 (143,[.agg [.int .i64,.slice,.slice,.slice]]),
 (104,[.agg [.int .i64,.slice,.slice,.slice],.cell (.int .i64)]),
 (105,[.agg [.int .i64,.slice,.slice,.slice],.cell (.int .i64)]),
 (106,[.agg [.int .i64,.slice,.slice,.slice],.cell (.int .i64)]),
 (145,[.agg [.int .i64,.slice,.slice,.slice]]),
 (107,[.agg [.int .i64,.slice,.slice,.slice],.cell (.int .i64)]),
 (108,[.agg [.int .i64,.slice,.slice,.slice],.cell (.int .i64)]),
 (109,[.agg [.int .i64,.slice,.slice,.slice],.cell (.int .i64)]),
 (110,[.agg [.int .i64,.slice,.slice,.slice],.cell (.int .i64)]),
 (148,[.agg [.int .i64,.int .i64,.int .i64,.slice,.slice],.cell .bool]),
 (111,[.agg [.int .i64,.slice,.slice,.slice],.cell (.int .i64)]),
 (112,[.agg [.int .i64,.slice,.slice,.slice],.cell (.int .i64)]),
 (113,[.agg [.int .i64,.slice,.slice,.slice],.cell (.int .i64)]),
 (114,[.agg [.int .i64,.slice,.slice,.slice],.cell (.int .i64)]),
 (115,[.agg [.int .i64,.slice,.slice,.slice],.cell (.int .i64)]),
 (72,[.agg [.int .i64,.slice,.slice,.slice],.cell (.int .i64)]),
 (116,[.cell (.int .i64)]),
 (117,[.cell (.int .i64)]),
 (73,[.agg [.int .i64,.int .i64,.int .i64,.int .i64,.str]]),
 (33,[.agg [.int .i64,.slice,.slice,.slice]]),
 (13,[.agg [.int .i64,.slice,.slice,.slice]]),
 (5,[.agg [.int .i64,.slice,.slice,.slice]]),
 (7,[.agg [.int .i64,.slice,.slice,.slice]]),
 (187,[.cell .slice,.cell .bool]),
 (124,[.agg [.int .i64,.int .i64,.int .i64,.slice,.slice]]),
 (83,[.agg [.int .i64,.slice,.slice,.slice]]),
 (128,[.cell .bool]),
 (84,[.cell .bool]),
 (46,[.agg [.int .i64,.slice,.slice,.slice],.cell (.int .i64)]),
 (19,[.agg [.int .i64,.slice,.slice,.slice],.cell (.int .i64)]),
 (9,[.agg [.int .i64,.slice,.slice,.slice],.cell (.int .i64)]),
 (3,[.cell .bool]),
 (4,[.cell .bool]),
 (129,[.cell .slice]),
 (130,[.cell .iface]),
 (131,[.cell (.int .i64)]),
 (88,[]),
 (194,[]),
 (174,[.cell (.int .i64)]),
 (175,[.cell (.int .i64)]),
 (176,[.cell (.int .i64)]),
 (177,[.cell (.int .i64)]),
 (134,[.cell (.int .i64)]),
 (89,[.cell .bool]),
 (135,[]),
 (137,[]),
 (90,[]),
 (91,[.cell (.int .i64)]),
 (52,[]),
 (47,[.cell .iface]),
 (133,[]),
 (223,[.agg [.int .i64,.slice,.slice,.slice],.cell (.int .i64)]),
 (222,[.agg [.int .i64,.slice,.slice,.slice],.cell (.int .i64)]),
 (224,[.cell .iface]),
 (252,[])]
noncomputable def z3x:List (Nat×List RK):=[(0,[]),(118,[.cell (.int .i64),.cell .bool])]
def Po(f:Func):Code:=match f.body with
 |some c=>c
 |none=>.skip
def zkp{β:Type}:∀{l:List (Nat×β)} {f:Nat} {k:β},zpx l f=some k->(f,k)∈l
 |[],f,k,h=>by cases h
 |p::r,f,k,h=>by
  simp only[zpx] at h
  cases hb:Nat.beq p.1 f with
  |true=>
   rw[hb] at h;simp only[cond_true,I0] at h;have:p.1=f:=Ib hb;rw[<-this,<-h];exact I9
  |false=>
   rw[hb] at h;exact I1 _ (zkp h)
abbrev Cz:=Calls Tryz.prog
abbrev PX (bs:List Nat):=Q3 bs Tryz.prog
def z5e:zz1 Tryz.prog zwc:=Qk
def z6s:(z0j.all λp=>HJ Tryz.prog p.1)=true:=Qk
def z6c:(z0g.all λp=>HJ Tryz.prog p.1)=true:=Qk
def zyv:Tryz.prog.follows .mixedOrders:=Qk
def z7z:zv9 Tryz.prog (TT zwc):=zzx (l:=zwc) z5e
def z78(f:Nat)(ks:List RK)(h:zpx z0j f=some ks):P3 Tryz.prog f:=Ap (List.all_eq_true.1 z6s (f,ks) (zkp h))
def z74(f:Nat)(ks:List RK)(h:zpx z0g f=some ks):P3 Tryz.prog f:=Ap (List.all_eq_true.1 z6c (f,ks) (zkp h))
def z3h(vis:List Nat)(n:Nat)(pm wr:Bool)(rd:Option Nat):zr0 { P:=Tryz.prog,T:=TT zwc,pf:=z0j,ef:=z0g,tt:=z3x,vis:=vis,n:=n,pm:=pm,wr:=wr,rd:=rd }:=
 ⟨z7z,z78,z74,zyv⟩
noncomputable def zr9(vis:List Nat)(n:Nat)(pm wr:Bool):V1:={ P:=Tryz.prog,T:=TT zwc,pf:=z0j,ef:=z0g,tt:=z3x,vis:=vis,n:=n,pm:=pm,wr:=wr }
def fits(fn:Func)(n:Nat):Bool:=Nat.ble n fn.ntmps&&Nat.ble fn.ntmps 4000&&fn.body.isSome
def Nk{fn:Func}{n:Nat}(h:fits fn n):n<=fn.ntmps/\fn.ntmps<=4000/\fn.body=some (Po fn):=by
 unfold fits at h;simp only[A'] at h;refine⟨Ik h.1.1,Ik h.1.2,?_⟩
 cases hb:fn.body with
 |none=>rw[hb] at h;cases h.2
 |some c=>simp[Po,hb]
abbrev YR(V:Wo->(Va->Wo->Prop)->Prop)(f:FuncId)(args:Array Va):Prop:=∀{w:Wo} {bs:List Nat} {ret:Va},(∀wr0,Q0 bs w wr0->V wr0 λv0 _=>v0=ret)->PX bs f args w ret
abbrev JI(V:Wo->(Va->Wo->Prop)->Prop)(f:FuncId)(args:Array Va):Prop:=∀{w:Wo} {R:Va->Wo->Prop},V w R->Cz f args w λe0 wr0=>∃v0,e0=.returned v0/\R v0 wr0
def pV(vis:List Nat)(wr:Bool)(sps:List (Nat×Yw)){f:FuncId}{fn:Func}{args:List Va}{V:Wo->(Va->Wo->Prop)->Prop}(hf:Tryz.prog.funcs[f]? = some fn)(hk:fits fn args.length)(hV:zxr (zr9 vis fn.ntmps true wr) sps args (Po fn) fn.results.toList=V):YR V f args.toArray:=λ{w bs ret} hvc=>
 zq6 (C:=zr9 vis fn.ntmps true wr) (sps:=sps) (z3h _ _ _ _ _) hf (Nk hk).2.2 rfl (Nk hk).1 (Nk hk).2.1 rfl rfl λwr0 sJ=>by rw[hV];exact hvc wr0 sJ
def eV(vis:List Nat)(wr:Bool)(sps:List (Nat×Yw)){f:FuncId}{fn:Func}{args:List Va}{V:Wo->(Va->Wo->Prop)->Prop}(hf:Tryz.prog.funcs[f]? = some fn)(hk:fits fn args.length)(hV:zxr (zr9 vis fn.ntmps false wr) sps args (Po fn) fn.results.toList=V):JI V f args.toArray:=λ{w R} hvc=>
 zue (C:=zr9 vis fn.ntmps false wr) (sps:=sps) (z3h _ _ _ _ _) hf (Nk hk).2.2 rfl (Nk hk).1 (Nk hk).2.1 rfl rfl (by rw[hV];exact hvc)
end Go.Proofs.YtjinkcmkgnofjaaGreatDoor
