/- Part 4 of what the law FnWake needs. -/
import Derived.Test.YtnclplgaicdapaaGreatDoorFnWakePc
import Derived.Test.YtnclplgaicdapaaGreatDoorProg
import Derived.KernelRfl
set_option linter.unusedVariables false
set_option linter.unusedSimpArgs false
set_option maxRecDepth 100000
set_option maxHeartbeats 8000000
namespace Go.Proofs.YtnclplgaicdapaaGreatDoor
open Go.RowKit
def Qa:TypeId:=3
def Yd:TypeId:=4
def PH:TypeId:=5
def ZN:TypeId:=9
def ty_sl_uint8:TypeId:=22
def Zt:TypeId:=23
def Z5:TypeId:=24
def QD:TypeId:=25
def Q5:TypeId:=27
def ZB:TypeId:=33
def YW:TypeId:=36
def Jv:TypeId:=37
def Ms:TypeId:=39
def Zb:TypeId:=40
def QW:TypeId:=42
def QS:TypeId:=45
def X5:TypeId:=53
def zbg:TypeId:=65
def Qi:TypeId:=69
def Pe:TypeId:=119
def zf6:TypeId:=123
def Jn:TypeId:=130
def JR:TypeId:=157
def Kv:TypeId:=166
def Yx:TypeId:=187
def N7:TypeId:=189
def ZM:TypeId:=190
def QU:TypeId:=192
def VN:Nat:=56
def Ql:Nat:=69
def Za:Nat:=41
def Vz:Nat:=71
def MO:Nat:=247
def TM:Nat:=176
def Y8:Nat:=99
def Uc:Nat:=177
def TO:Nat:=81
def Y7:Nat:=123
def Vc:Nat:=178
def YP:Nat:=179
def ZS:Nat:=180
def TH:Nat:=181
def TQ:Nat:=82
def Zo:Nat:=48
def Ub:Nat:=201
def MQ:Nat:=202
def YB:Nat:=112
def Y1:Nat:=230
def VK:Nat:=159
def VR:Nat:=182
def OP:Nat:=83
def Vy:Nat:=147
def XE:Nat:=223
def JI:Nat:=183
def TR:Nat:=84
def YR:Nat:=146
def OO:Nat:=184
def PY:Nat:=85
def Xn:Nat:=19
def Zz:Nat:=75
def Uv:Nat:=15
def P8:Nat:=175
def Uf:Nat:=80
def QZ:Nat:=68
def Zf:Nat:=72
def YY:Nat:=217
def YZ:Nat:=229
def UP:Nat:=207
def VQ:Nat:=169
def P9:Nat:=261
def XH:Nat:=228
def MP:Nat:=170
def VP:Nat:=241
def ON:Nat:=171
def Qt:Nat:=73
def JH:Nat:=110
def XC:Nat:=200
def V8:Nat:=111
def YO:Nat:=39
def Q3:Nat:=135
def VO:Nat:=224
def QI:Nat:=150
def OJ:Nat:=149
def ZR:Nat:=251
def TL:Nat:=70
def TP:Nat:=129
def XI:Nat:=113
def Uu:Nat:=120
def Yz:Nat:=74
def MN:Nat:=14
def T8:Nat:=18
def XD:Nat:=97
def OL:Nat:=98
def TK:Nat:=24
def KH:Nat:=29
def Xb:Nat:=109
def V7:Nat:=31
def V4:Nat:=33
def VL:Nat:=35
def V6:Nat:=37
def Jd:Nat:=215
def Uw:Nat:=142
def Ux:Nat:=216
def OM:Nat:=143
def Jc:Nat:=218
def J4:Nat:=145
def Vd:Nat:=155
def Vb:Nat:=221
def T9:Nat:=219
def T5:Nat:=220
def PU:Nat:=222
def PV:Nat:=144
def T4:Nat:=45
def UQ:Nat:=227
def MS:Nat:=154
def MT:Nat:=156
def MR:Nat:=157
def OQ:Nat:=158
def OK:Nat:=55
def T7:Nat:=151
def TN:Nat:=268
def OH:Nat:=269
def OG:Nat:=270
def PS:Nat:=231
def T6:Nat:=271
def TI:Nat:=280
def OI:Nat:=272
def VM:Nat:=252
def YQ:Nat:=136
def Y2:Nat:=273
def U3:Nat:=253
def Ta:Nat:=197
def Vq:Nat:=100
def Yw:Nat:=162
def Bh:Nat:=60
def Xa:Nat:=61
def QC:Nat:=174
def ZQ:Nat:=186
def Xk:Nat:=115
def MJ:Nat:=266
def T3:Nat:=267
def KG:Nat:=248
def MK:Nat:=187
def XS:Nat:=87
def Us:Nat:=254
def UO:Nat:=206
def YN:Nat:=122
def V2:Nat:=249
def TC:Nat:=188
def JG:Nat:=189
def MI:Nat:=250
def XR:Nat:=190
def Xy:Nat:=88
def QN:Nat:=79
def U9:Nat:=204
def T2:Nat:=203
def Yo:Nat:=117
def YF:Nat:=107
def U1:Nat:=205
def Ua:Nat:=118
def JF:Nat:=125
def QA:Nat:=133
def MM:Nat:=191
def Vp:Nat:=208
def Xr:Nat:=134
def U8:Nat:=40
def TF:Nat:=192
def JE:Nat:=193
def XT:Nat:=89
def JB:Nat:=235
def U2:Nat:=236
def Xu:Nat:=165
def V3:Nat:=194
def Xj:Nat:=90
def Zp:Nat:=104
def JA:Nat:=168
def Ja:Nat:=91
def PR:Nat:=21
def OF:Nat:=242
def Ut:Nat:=172
def LI:Nat:=173
def Yc:Nat:=76
def YM:Nat:=64
def Ze:Nat:=65
def Xt:Nat:=126
def UN:Nat:=127
def Jb:Nat:=128
def Y3:Nat:=108
def TB:Nat:=119
def U0:Nat:=66
def Vo:Nat:=234
def YD:Nat:=164
def V1:Nat:=262
def UL:Nat:=237
def T1:Nat:=238
def Vn:Nat:=239
def UM:Nat:=240
def PO:Nat:=166
def TE:Nat:=167
def Z2:Nat:=67
def ML:Nat:=17
def TJ:Nat:=26
def TG:Nat:=27
def OE:Nat:=30
def OC:Nat:=32
def PP:Nat:=34
def OD:Nat:=36
def OB:Nat:=38
def H9:Nat:=7
def JZ:Nat:=78
def J9:Nat:=77
def ZT:Nat:=196
def Yj:Nat:=96
def Xs:Nat:=105
def L4:Nat:=198
def XQ:Nat:=106
def JY:Nat:=103
def Jz:Nat:=116
def JW:Nat:=114
def Ur:Nat:=121
def JX:Nat:=124
def ZJ:Nat:=131
def X9:Nat:=132
def JV:Nat:=130
def Yp:Nat:=199
def QE:Nat:=233
noncomputable def zka:List (TypeId×Ty):=[
 (2,⟨false,[.int .i64],.int .i64⟩),
 (3,⟨false,[.int .i64],.int .i64⟩),
 (4,⟨false,[.bool],.bool⟩),
 (5,⟨false,[.int .u8],.int .u8⟩),
 (6,⟨false,[.int .u8],.int .u8⟩),
 (7,⟨true,[.int .i64,.int .i64,.bool,.int .u8],.struct [(0,false,1),(1,false,1),(2,false,1),(3,false,1)]⟩),
 (8,⟨true,[.int .i64,.int .i64,.bool,.int .u8],.struct [(0,false,1),(1,false,1),(2,false,1),(3,false,1)]⟩),
 (9,⟨false,[.str],.str⟩),
 (10,⟨false,[.str],.str⟩),
 (11,⟨false,[.str],.str⟩),
 (12,⟨false,[.int .u64],.int .u64⟩),
 (13,⟨true,[.str,.int .u64],.struct [(0,false,1),(1,false,1)]⟩),
 (14,⟨true,[.str,.int .u64],.struct [(0,false,1),(1,false,1)]⟩),
 (15,⟨false,[.ptr],.ptr⟩),
 (16,⟨false,[.ptr],.ptr⟩),
 (17,⟨false,[.ptr],.ptr⟩),
 (18,⟨true,[.ptr],.struct [(0,false,1)]⟩),
 (19,⟨true,[.ptr],.struct [(0,false,1)]⟩),
 (20,⟨false,[.iface],.other⟩),
 (21,⟨false,[.int .i32],.int .i32⟩),
 (22,⟨false,[.slice],.slice 5 1⟩),
 (23,⟨false,[.slice],.slice 33 5⟩),
 (24,⟨false,[.slice],.slice 45 9⟩),
 (25,⟨false,[.slice],.slice 42 14⟩),
 (26,⟨true,[.int .i64,.slice,.slice,.slice],.struct [(0,false,1),(1,false,1),(2,false,1),(3,false,1)]⟩),
 (27,⟨true,[.int .i64,.slice,.slice,.slice],.struct [(0,false,1),(1,false,1),(2,false,1),(3,false,1)]⟩),
 (32,⟨true,[.bool,.int .i64,.int .i64,.int .i64,.int .i64],.struct [(0,false,1),(1,false,1),(2,false,1),(3,false,1),(4,false,1)]⟩),
 (33,⟨true,[.bool,.int .i64,.int .i64,.int .i64,.int .i64],.struct [(0,false,1),(1,false,1),(2,false,1),(3,false,1),(4,false,1)]⟩),
 (36,⟨false,[.slice],.slice 3 1⟩),
 (37,⟨false,[.slice],.slice 4 1⟩),
 (38,⟨true,[.int .i64,.int .i64,.int .i64,.slice,.slice],.struct [(0,false,1),(1,false,1),(2,false,1),(3,false,1),(4,false,1)]⟩),
 (39,⟨true,[.int .i64,.int .i64,.int .i64,.slice,.slice],.struct [(0,false,1),(1,false,1),(2,false,1),(3,false,1),(4,false,1)]⟩),
 (40,⟨false,[.slice],.slice 53 5⟩),
 (41,⟨true,[.bool,.int .i64,.str,.int .i64,.int .i64,.int .i64,.int .i64,.int .i64,.int .i64,.int .i64,.int .i64,.slice,.slice,.slice],.struct [(0,false,1),(1,false,1),(2,false,1),(3,false,1),(4,false,1),(5,false,1),(6,false,1),(7,false,1),(8,true,5),(13,false,1)]⟩),
 (42,⟨true,[.bool,.int .i64,.str,.int .i64,.int .i64,.int .i64,.int .i64,.int .i64,.int .i64,.int .i64,.int .i64,.slice,.slice,.slice],.struct [(0,false,1),(1,false,1),(2,false,1),(3,false,1),(4,false,1),(5,false,1),(6,false,1),(7,false,1),(8,true,5),(13,false,1)]⟩),
 (44,⟨true,[.int .i64,.int .i64,.int .i64,.int .i64,.int .i64,.int .i64,.int .i64,.int .i64,.int .i64],.struct [(0,false,1),(1,false,1),(2,false,1),(3,false,1),(4,false,1),(5,false,1),(6,false,1),(7,false,1),(8,false,1)]⟩),
 (45,⟨true,[.int .i64,.int .i64,.int .i64,.int .i64,.int .i64,.int .i64,.int .i64,.int .i64,.int .i64],.struct [(0,false,1),(1,false,1),(2,false,1),(3,false,1),(4,false,1),(5,false,1),(6,false,1),(7,false,1),(8,false,1)]⟩),
 (52,⟨true,[.int .i64,.bool,.int .i64,.int .i64,.int .i64],.struct [(0,false,1),(1,false,1),(2,false,1),(3,false,1),(4,false,1)]⟩),
 (53,⟨true,[.int .i64,.bool,.int .i64,.int .i64,.int .i64],.struct [(0,false,1),(1,false,1),(2,false,1),(3,false,1),(4,false,1)]⟩),
 (61,⟨false,[.ptr],.ptr⟩),
 (65,⟨false,[.ptr],.ptr⟩),
 (66,⟨false,[.iface],.other⟩),
 (67,⟨false,[.iface],.other⟩),
 (68,⟨true,[.int .i64],.struct [(0,false,1)]⟩),
 (69,⟨true,[.int .i64],.struct [(0,false,1)]⟩),
 (72,⟨true,[.ptr,.int .i64],.struct [(0,false,1),(1,false,1)]⟩),
 (73,⟨true,[.ptr,.int .i64],.struct [(0,false,1),(1,false,1)]⟩),
 (74,⟨false,[.ptr],.ptr⟩),
 (89,⟨true,[.fn,.fn,.fn,.fn,.fn],.arr 5 1 false⟩),
 (93,⟨false,[.ptr],.ptr⟩),
 (103,⟨false,[.ptr],.ptr⟩),
 (108,⟨false,[.int .u64],.int .u64⟩),
 (112,⟨false,[.slice],.slice 9 1⟩),
 (118,⟨true,[.slice,.int .i64],.struct [(0,false,1),(1,false,1)]⟩),
 (119,⟨true,[.slice,.int .i64],.struct [(0,false,1),(1,false,1)]⟩),
 (123,⟨false,[.int .i64],.int .i64⟩),
 (125,⟨false,[.ptr],.ptr⟩),
 (127,⟨true,[.int .i64,.int .i64,.int .i64],.struct [(0,false,1),(1,false,1),(2,false,1)]⟩),
 (128,⟨true,[.int .i64,.int .i64,.int .i64],.struct [(0,false,1),(1,false,1),(2,false,1)]⟩),
 (130,⟨false,[.ptr],.ptr⟩),
 (140,⟨true,[.int .i64,.int .i64,.int .i64,.int .i64,.int .i64,.int .i64,.int .i64,.int .i64,.int .i64,.int .i64,.int .i64,.int .i64,.int .i64,.int .i64,.int .i64,.int .i64,.int .i64,.int .i64,.int .i64,.int .i64,.int .i64],.arr 21 1 false⟩),
 (154,⟨false,[.ptr],.other⟩),
 (155,⟨false,[.int .u64],.int .u64⟩),
 (156,⟨true,[.ptr,.ptr,.int .u64],.struct [(0,false,1),(1,false,1),(2,false,1)]⟩),
 (157,⟨true,[.ptr,.ptr,.int .u64],.struct [(0,false,1),(1,false,1),(2,false,1)]⟩),
 (159,⟨false,[.iface],.other⟩),
 (160,⟨false,[.iface],.other⟩),
 (162,⟨false,[.int .u8],.int .u8⟩),
 (166,⟨false,[.slice],.slice 187 1⟩),
 (170,⟨true,[.int .i64,.int .i64,.int .i64,.int .i64,.str],.struct [(0,false,1),(1,false,1),(2,false,1),(3,false,1),(4,false,1)]⟩),
 (171,⟨true,[.int .i64,.int .i64,.int .i64,.int .i64,.str],.struct [(0,false,1),(1,false,1),(2,false,1),(3,false,1),(4,false,1)]⟩),
 (173,⟨true,[.ptr],.struct [(0,false,1)]⟩),
 (174,⟨true,[.ptr],.struct [(0,false,1)]⟩),
 (175,⟨false,[.ptr],.ptr⟩),
 (179,⟨false,[.iface],.other⟩),
 (182,⟨false,[.iface],.other⟩),
 (184,⟨false,[.iface],.other⟩),
 (185,⟨false,[.slice],.slice 67 1⟩),
 (187,⟨false,[.ptr],.ptr⟩),
 (188,⟨true,[.int .i64,.str,.ptr],.struct [(0,false,1),(1,false,1),(2,false,1)]⟩),
 (189,⟨true,[.int .i64,.str,.ptr],.struct [(0,false,1),(1,false,1),(2,false,1)]⟩),
 (190,⟨false,[.map],.other⟩),
 (191,⟨true,[.int .i64,.str],.struct [(0,false,1),(1,false,1)]⟩),
 (192,⟨true,[.int .i64,.str],.struct [(0,false,1),(1,false,1)]⟩),
 (194,⟨true,[.bool,.bool,.bool,.bool],.arr 4 1 false⟩),
 (195,⟨true,[.bool,.bool,.bool,.bool],.arr 4 1 false⟩),
 (197,⟨false,[.slice],.slice 200 1⟩),
 (199,⟨false,[.iface],.other⟩),
 (200,⟨false,[.iface],.other⟩),
 (203,⟨true,[.int .i64,.int .i64,.int .i64,.int .i64,.int .i64,.int .i64,.int .i64,.int .i64,.int .i64,.int .i64],.struct [(0,false,1),(1,true,9)]⟩),
 (204,⟨true,[.int .i64,.int .i64,.int .i64,.int .i64,.int .i64,.int .i64,.int .i64,.int .i64,.int .i64,.int .i64],.struct [(0,false,1),(1,true,9)]⟩),
 (205,⟨true,[.int .i64,.int .i64,.bool,.int .i64,.int .i64,.int .i64],.struct [(0,false,1),(1,true,5)]⟩),
 (206,⟨true,[.int .i64,.int .i64,.bool,.int .i64,.int .i64,.int .i64],.struct [(0,false,1),(1,true,5)]⟩),
 (207,⟨true,[.int .i64],.struct [(0,false,1)]⟩),
 (208,⟨true,[.int .i64],.struct [(0,false,1)]⟩),
 (211,⟨true,[.ptr,.ptr,.ptr,.str],.struct [(0,false,1),(1,false,1),(2,false,1),(3,false,1)]⟩),
 (212,⟨true,[.ptr,.ptr,.ptr,.str],.struct [(0,false,1),(1,false,1),(2,false,1),(3,false,1)]⟩),
 (213,⟨true,[],.arr 0 1 false⟩),
 (214,⟨true,[],.other⟩),
 (215,⟨true,[],.other⟩),
 (217,⟨false,[.int .u32],.int .u32⟩),
 (218,⟨false,[.int .u8],.int .u8⟩),
 (220,⟨false,[.ptr],.ptr⟩),
 (221,⟨false,[.int .i32],.int .i32⟩),
 (222,⟨false,[.int .i32],.int .i32⟩),
 (223,⟨true,[.int .u64,.int .u64,.int .u32,.int .u8,.int .u8,.int .u8,.int .u8,.fn,.ptr,.int .i32,.int .i32],.struct [(0,false,1),(1,false,1),(2,false,1),(3,false,1),(4,false,1),(5,false,1),(6,false,1),(7,false,1),(8,false,1),(9,false,1),(10,false,1)]⟩),
 (224,⟨true,[.int .u64,.int .u64,.int .u32,.int .u8,.int .u8,.int .u8,.int .u8,.fn,.ptr,.int .i32,.int .i32],.struct [(0,false,1),(1,false,1),(2,false,1),(3,false,1),(4,false,1),(5,false,1),(6,false,1),(7,false,1),(8,false,1),(9,false,1),(10,false,1)]⟩),
 (228,⟨true,[.str,.int .u8],.struct [(0,false,1),(1,false,1)]⟩),
 (229,⟨true,[.str,.int .u8],.struct [(0,false,1),(1,false,1)]⟩),
 (231,⟨false,[.ptr],.ptr⟩),
 (232,⟨true,[.bool,.int .i64],.struct [(0,false,1),(1,false,1)]⟩),
 (233,⟨true,[.bool,.int .i64],.struct [(0,false,1),(1,false,1)]⟩),
 (235,⟨false,[.int .u16],.int .u16⟩),
 (236,⟨true,[.int .i32,.int .u16,.int .u16,.int .u32,.int .u32],.struct [(0,false,1),(1,false,1),(2,false,1),(3,false,1),(4,false,1)]⟩),
 (237,⟨true,[.int .i32,.int .u16,.int .u16,.int .u32,.int .u32],.struct [(0,false,1),(1,false,1),(2,false,1),(3,false,1),(4,false,1)]⟩),
 (238,⟨false,[.slice],.slice 241 4⟩),
 (239,⟨false,[.int .i32],.int .i32⟩),
 (240,⟨true,[.int .i32,.int .i32,.int .i32,.int .i32],.struct [(0,false,1),(1,false,1),(2,false,1),(3,false,1)]⟩),
 (241,⟨true,[.int .i32,.int .i32,.int .i32,.int .i32],.struct [(0,false,1),(1,false,1),(2,false,1),(3,false,1)]⟩),
 (242,⟨false,[.ptr],.ptr⟩)]++[1,29,30,31,34,35,43,46,47,48,49,51,54,56,57,58,59,60,62,63,64,70,71,75,76,77,78,79,80,81,82,83,84,85,86,87,88,90,91,92,95,96,97,98,99,100,101,102,104,105,107,110,111,113,114,115,116,117,120,121,122,124,126,129,131,132,133,134,135,136,137,138,139,141,142,143,144,145,146,147,149,151,152,153,158,161,163,164,165,168,169,172,176,177,178,181,183,186,193,196,198,201,202,210,216,219,225,226,227,230,234].map (λt=>(t,⟨false,[.fn],.other⟩))++[0,28,50,55,94,106,109,148,150,167,180,209].map λt=>(t,⟨false,[.other],.other⟩)
noncomputable def zm2:List (Nat×List RK):=[
 (69,[.cell .bool]),
 (41,[.cell (.int .i64)]),
 (71,[.cell (.int .i64)]),
 (247,[.cell .bool]),
 (176,[.cell .bool]),
 (99,[.cell .bool]),
 (177,[.cell (.int .i64)]),
 (81,[.cell .bool]),
 (123,[.cell .bool]),
 (178,[.cell .bool]),
 (179,[.cell .bool]),
 (180,[.cell .bool]),
 (181,[.cell .bool]),
 (82,[.cell .bool]),
 (48,[.cell .bool]),
 (201,[.cell (.int .i64)]),
 (202,[.cell (.int .i64)]),
 (112,[.cell (.int .i64)]),
 (230,[.cell (.int .i64)]),
 (159,[.cell (.int .i64)]),
 (182,[.cell .bool]),
 (83,[.cell .bool]),
 (147,[.cell .bool]),
 (223,[.cell .bool]),
 (183,[.cell .bool]),
 (84,[.cell .bool]),
 (146,[.cell .bool]),
 (184,[.cell .bool]),
 (85,[.cell .bool]),
 (19,[.cell .bool]),
 (75,[.cell .bool]),
 (15,[.cell .bool]),
 (217,[.cell (.int .i64)]),
 (229,[.cell (.int .i64)]),
 (207,[.cell (.int .i64)]),
 (241,[.cell (.int .i64),.cell .bool]),
 (110,[.cell (.int .i64)]),
 (200,[.cell (.int .i64)]),
 (111,[.cell (.int .i64)]),
 (70,[.cell (.int .i64)]),
 (129,[.cell (.int .i64)]),
 (120,[.cell (.int .i64)]),
 (98,[.cell .bool]),
 (109,[.cell .bool]),
 (215,[.cell .bool]),
 (216,[.cell (.int .i64)]),
 (143,[.cell (.int .i64)]),
 (218,[.cell (.int .i64)]),
 (145,[.cell (.int .i64)]),
 (221,[.cell .bool]),
 (219,[.cell (.int .i64)]),
 (220,[.cell (.int .i64)]),
 (222,[.cell .bool]),
 (144,[.cell (.int .i64)]),
 (227,[.cell (.int .i64)]),
 (154,[.cell (.int .i64)]),
 (157,[.cell (.int .i64)]),
 (280,[.cell (.int .i64)]),
 (61,[.cell (.int .i64)]),
 (174,[.cell .bool]),
 (186,[.cell .bool]),
 (115,[.cell .bool]),
 (266,[.cell .bool]),
 (267,[.cell (.int .i64)]),
 (187,[.cell .bool]),
 (87,[.cell .bool]),
 (254,[.cell .bool]),
 (206,[.cell .bool]),
 (122,[.cell .bool]),
 (249,[.cell .bool]),
 (188,[.cell .bool]),
 (189,[.cell .bool]),
 (250,[.cell .bool]),
 (190,[.cell .bool]),
 (88,[.cell .bool]),
 (79,[.agg [.ptr,.int .i64]]),
 (204,[.cell (.int .i64)]),
 (203,[.cell (.int .i64)]),
 (117,[.cell (.int .i64)]),
 (107,[.cell (.int .i64)]),
 (205,[.cell .bool]),
 (118,[.cell .bool]),
 (125,[.cell .bool]),
 (133,[.cell .ptr]),
 (191,[.cell .bool]),
 (208,[.agg [.int .i64,.int .i64,.int .i64,.int .i64,.int .i64,.int .i64,.int .i64,.int .i64,.int .i64,.int .i64,.int .i64,.int .i64,.int .i64,.int .i64,.int .i64,.int .i64,.int .i64,.int .i64,.int .i64,.int .i64,.int .i64]]),
 (134,[.cell (.int .i64)]),
 (40,[.cell (.int .i64)]),
 (192,[.cell .bool]),
 (193,[.cell (.int .i64)]),
 (89,[.cell .bool]),
 (235,[.cell .bool]),
 (236,[.cell .bool]),
 (165,[.cell .bool]),
 (194,[.cell .bool]),
 (90,[.cell .bool]),
 (104,[.cell .bool]),
 (168,[.cell .bool]),
 (91,[.cell .bool]),
 (21,[.cell .bool]),
 (64,[.cell .ptr]),
 (126,[.cell (.int .i64)]),
 (127,[.cell (.int .i64)]),
 (128,[.cell (.int .i64)]),
 (234,[.cell (.int .i64)]),
 (185,[.cell .bool]),
 (86,[.cell .bool]),
 (20,[.cell .bool]),
 (27,[.cell (.int .i64)]),
 (101,[.cell .iface]),
 (46,[.cell (.int .i64)]),
 (47,[.cell .bool]),
 (49,[.cell (.int .i64)]),
 (50,[.cell .bool]),
 (78,[.cell .bool]),
 (211,[.cell (.int .i64)]),
 (148,[.cell (.int .i64)]),
 (51,[.cell (.int .i64)]),
 (52,[.cell .bool]),
 (153,[]),
 (196,[.cell .bool]),
 (96,[.cell .bool]),
 (105,[.cell (.int .i64),.cell (.int .i64)]),
 (132,[.cell .bool]),
 (209,[.cell .bool]),
 (210,[.cell (.int .i64)]),
 (140,[.cell (.int .i64)]),
 (212,[.cell (.int .i64)]),
 (213,[.cell (.int .i64)]),
 (214,[.cell .bool]),
 (141,[.cell (.int .i64),.cell .bool]),
 (199,[.cell .bool]),
 (281,[.cell .bool]),
 (278,[.cell (.int .i64)]),
 (258,[.cell (.int .i64)]),
 (274,[.agg [.bool,.bool,.bool,.bool]]),
 (256,[.cell (.int .i64)]),
 (257,[.cell .bool]),
 (308,[.cell .ptr]),
 (310,[.cell .bool]),
 (309,[.cell (.int .i64)]),
 (323,[.cell (.int .i64)]),
 (326,[.cell (.int .i64)])]
noncomputable def zm1:List (Nat×List RK):=[
 (2,[]),
 (56,[.cell .ptr]),
 (175,[.agg [.int .i64,.int .i64,.int .i64,.slice,.slice]]),
 (80,[.agg [.int .i64,.slice,.slice,.slice]]),
 (68,[.agg [.int .i64,.slice,.slice,.slice],.cell (.int .i64)]),
 (72,[.agg [.int .i64,.slice,.slice,.slice]]),
 (169,[.agg [.int .i64,.slice,.slice,.slice]]),
 (261,[.agg [.int .i64,.int .i64,.int .i64,.slice,.slice]]),
 (228,[.agg [.int .i64,.int .i64,.int .i64,.slice,.slice],.cell (.int .i64)]),
 (170,[.agg [.int .i64,.slice,.slice,.slice]]),
 (171,[.agg [.int .i64,.slice,.slice,.slice]]),
 (73,[.agg [.int .i64,.slice,.slice,.slice]]),
 (39,[.agg [.int .i64,.slice,.slice,.slice],.cell (.int .i64),.cell (.int .i64)]),
 (135,[.cell (.int .i64)]),
 (224,[.agg [.bool,.int .i64,.str,.int .i64,.int .i64,.int .i64,.int .i64,.int .i64,.int .i64,.int .i64,.int .i64,.slice,.slice,.slice]]),
 (150,[.agg [.int .i64,.slice,.slice,.slice],.cell (.int .i64),.cell (.int .i64)]),
 (149,[.agg [.int .i64,.slice,.slice,.slice],.cell .bool]),
 (251,[.cell (.int .i64)]),
 (113,[.agg [.int .i64,.slice,.slice,.slice]]),
 (74,[.agg [.int .i64,.slice,.slice,.slice]]),
 (14,[.agg [.int .i64,.slice,.slice,.slice],.cell (.int .i64)]),
 (18,[.agg [.int .i64,.slice,.slice,.slice],.cell (.int .i64)]),
 (97,[.agg [.int .i64,.slice,.slice,.slice],.cell (.int .i64)]),
 (24,[.agg [.int .i64,.slice,.slice,.slice],.cell (.int .i64)]),
 (29,[.agg [.int .i64,.slice,.slice,.slice],.cell (.int .i64)]),
 (31,[.agg [.int .i64,.slice,.slice,.slice],.cell (.int .i64)]),
 (33,[.agg [.int .i64,.slice,.slice,.slice],.cell (.int .i64)]),
 (35,[.agg [.int .i64,.slice,.slice,.slice],.cell (.int .i64)]),
 (37,[.agg [.int .i64,.slice,.slice,.slice],.cell (.int .i64)]),
 (142,[.agg [.int .i64,.slice,.slice,.slice]]),
 (155,[.cell .slice]),
 (45,[.agg [.int .i64,.slice,.slice,.slice],.cell (.int .i64)]),
 (156,[.agg [.int .i64,.slice,.slice,.slice],.cell .bool]),
 (158,[.agg [.int .i64,.slice,.slice,.slice]]),
 (55,[.agg [.int .i64,.slice,.slice,.slice],.cell (.int .i64)]),
 (151,[.agg [.int .i64,.slice,.slice,.slice],.cell (.int .i64)]),
 (268,[.agg [.int .i64,.slice,.slice,.slice],.cell (.int .i64)]),
 (269,[.agg [.int .i64,.slice,.slice,.slice],.cell (.int .i64)]),
 (270,[.agg [.int .i64,.slice,.slice,.slice],.cell (.int .i64)]),
 (231,[.agg [.int .i64,.int .i64,.int .i64,.slice,.slice],.cell .bool]),
 (271,[.agg [.int .i64,.slice,.slice,.slice],.cell (.int .i64)]),
 (272,[.agg [.int .i64,.slice,.slice,.slice],.cell (.int .i64)]),
 (252,[.agg [.int .i64,.slice,.slice,.slice],.cell (.int .i64)]),
 (136,[.cell (.int .i64)]),
 (273,[.cell (.int .i64)]),
 (253,[.agg [.int .i64,.int .i64,.int .i64,.int .i64,.str]]),
 (197,[.agg [.int .i64,.slice,.slice,.slice]]),
 (100,[.agg [.int .i64,.slice,.slice,.slice]]),
 (232,[.agg [.int .i64,.int .i64,.int .i64]]),
 (160,[.agg [.int .i64,.int .i64,.int .i64,.slice,.slice]]),
 (161,[.agg [.int .i64,.slice,.slice,.slice]]),
 (57,[.agg [.int .i64,.slice,.slice,.slice]]),
 (58,[.cell (.int .i64)]),
 (12,[.agg [.int .i64,.slice,.slice,.slice],.cell (.int .i64)]),
 (162,[.cell .fn]),
 (60,[.cell (.int .i64)]),
 (59,[.cell .iface]),
 (248,[.cell .slice,.cell .bool]),
 (242,[.agg [.int .i64,.int .i64,.int .i64,.slice,.slice]]),
 (172,[.agg [.int .i64,.slice,.slice,.slice]]),
 (246,[.cell .bool]),
 (173,[.cell .bool]),
 (76,[.agg [.int .i64,.slice,.slice,.slice],.cell (.int .i64)]),
 (62,[.agg [.int .i64,.slice,.slice,.slice],.cell (.int .i64)]),
 (65,[]),
 (108,[]),
 (119,[.cell (.int .i64)]),
 (66,[]),
 (164,[]),
 (262,[]),
 (237,[.cell (.int .i64)]),
 (238,[.cell (.int .i64)]),
 (239,[.cell (.int .i64)]),
 (240,[.cell (.int .i64)]),
 (166,[.cell (.int .i64)]),
 (167,[]),
 (67,[]),
 (63,[]),
 (13,[.agg [.int .i64,.slice,.slice,.slice],.cell (.int .i64)]),
 (3,[.cell .bool]),
 (16,[.agg [.int .i64,.slice,.slice,.slice],.cell (.int .i64)]),
 (17,[.agg [.int .i64,.slice,.slice,.slice],.cell (.int .i64)]),
 (4,[.cell .bool]),
 (92,[.cell (.int .i64)]),
 (22,[.agg [.int .i64,.slice,.slice,.slice],.cell (.int .i64)]),
 (93,[.agg [.int .i64,.slice,.slice,.slice],.cell (.int .i64)]),
 (23,[.agg [.int .i64,.slice,.slice,.slice],.cell (.int .i64)]),
 (25,[.cell .slice]),
 (5,[.cell .bool]),
 (26,[.agg [.int .i64,.slice,.slice,.slice]]),
 (102,[]),
 (28,[.agg [.int .i64,.slice,.slice,.slice],.cell (.int .i64)]),
 (6,[.cell .bool]),
 (30,[.agg [.int .i64,.slice,.slice,.slice],.cell (.int .i64)]),
 (32,[.agg [.int .i64,.slice,.slice,.slice],.cell (.int .i64)]),
 (34,[.agg [.int .i64,.slice,.slice,.slice],.cell (.int .i64)]),
 (36,[.agg [.int .i64,.slice,.slice,.slice],.cell (.int .i64)]),
 (38,[.agg [.int .i64,.slice,.slice,.slice],.cell (.int .i64),.cell (.int .i64)]),
 (7,[.cell .bool]),
 (42,[.agg [.int .i64,.slice,.slice,.slice],.cell (.int .i64),.cell (.int .i64),.cell (.int .i64)]),
 (43,[.agg [.int .i64,.slice,.slice,.slice],.cell (.int .i64)]),
 (8,[.cell .bool]),
 (44,[.agg [.int .i64,.slice,.slice,.slice],.cell (.int .i64)]),
 (9,[.cell .bool]),
 (53,[.agg [.int .i64,.slice,.slice,.slice]]),
 (152,[.agg [.int .i64,.slice,.slice,.slice],.cell (.int .i64)]),
 (54,[.agg [.int .i64,.slice,.slice,.slice],.cell (.int .i64)]),
 (10,[.cell .bool]),
 (11,[.cell .bool]),
 (77,[.cell .iface]),
 (95,[.cell .slice]),
 (94,[.cell .iface]),
 (198,[.cell (.int .i64),.cell .bool]),
 (106,[.cell (.int .i64)]),
 (103,[.cell .iface]),
 (116,[]),
 (114,[.cell .iface]),
 (121,[.cell .iface]),
 (124,[.cell .iface]),
 (131,[.cell (.int .i64)]),
 (130,[.cell .iface]),
 (137,[.cell .iface]),
 (139,[]),
 (138,[]),
 (163,[.cell .iface]),
 (195,[.cell .iface]),
 (275,[.cell .slice]),
 (276,[.cell .iface]),
 (277,[.cell (.int .i64)]),
 (259,[.cell .bool]),
 (260,[.cell (.int .i64)]),
 (226,[]),
 (225,[.cell .iface]),
 (233,[]),
 (255,[]),
 (279,[]),
 (306,[.agg [.int .i64,.slice,.slice,.slice],.cell (.int .i64)]),
 (305,[.agg [.int .i64,.slice,.slice,.slice],.cell (.int .i64)]),
 (307,[.cell .iface]),
 (332,[])]
noncomputable def zph:List (Nat×List RK):=[(0,[]),(106,[.cell (.int .i64),.cell .bool])]
def YL(f:Func):Code:=match f.body with
 | some c=>c
 | none=>.skip
theorem zkx{β:Type}:∀{l:List (Nat×β)} {f:Nat} {k:β},zpr l f=some k->(f,k)∈l
 | [],f,k,h=>by cases h
 | p::r,f,k,h=>by
  simp only[zpr] at h
  cases hb:Nat.beq p.1 f with
  | true=>
   rw[hb] at h;simp only[cond_true,I0] at h;have:p.1=f:=Ib hb;rw[<-this,<-h]; exact I9
  | false=>
   rw[hb] at h;exact I1 _ (zkx h)
abbrev Cz:=Calls Tryz.prog
abbrev PX (bs:List Nat):=Q2 bs Tryz.prog
theorem z2r:zx8 Tryz.prog zka=true:=Qk
theorem z3w:(zm2.all λp=>D4 Tryz.prog p.1)=true:=Qk
theorem z3g:(zm1.all λp=>D4 Tryz.prog p.1)=true:=Qk
theorem zwz:Tryz.prog.follows .mixedOrders=true:=Qk
theorem z4s:zu7 Tryz.prog (J3 zka):=zx6 (l:=zka) z2r
theorem z40(f:Nat)(ks:List RK)(h:zpr zm2 f=some ks):Ph Tryz.prog f:=AK (List.all_eq_true.1 z3w (f,ks) (zkx h))
theorem z4w(f:Nat)(ks:List RK)(h:zpr zm1 f=some ks):Ph Tryz.prog f:=AK (List.all_eq_true.1 z3g (f,ks) (zkx h))
theorem zpg(wZ:List Nat)(n:Nat)(pm wr:Bool)(rd:Option Nat):zrg { P:=Tryz.prog,T:=J3 zka,pf:=zm2,ef:=zm1,tt:=zph,wZ:=wZ,n:=n,pm:=pm,wr:=wr,rd:=rd }:=
 ⟨z4s,z40,z4w,zwz⟩
noncomputable def zrr(wZ:List Nat)(n:Nat)(pm wr:Bool):Uk:={ P:=Tryz.prog,T:=J3 zka,pf:=zm2,ef:=zm1,tt:=zph,wZ:=wZ,n:=n,pm:=pm,wr:=wr }
def fits(fn:Func)(n:Nat):Bool:=Nat.ble n fn.ntmps&&Nat.ble fn.ntmps 4000&&fn.body.isSome
theorem NV{fn:Func}{n:Nat}(h:fits fn n=true):n<=fn.ntmps/\fn.ntmps<=4000/\fn.body=some (YL fn):=by
 unfold fits at h;simp only[A'] at h;refine⟨Ik h.1.1,Ik h.1.2,?_⟩
 cases hb:fn.body with
 | none=>rw[hb] at h; cases h.2
 | some c=>simp[YL,hb]
abbrev YX(V:Wo->(Va->Wo->Prop)->Prop)(f:FuncId)(args:Array Va):Prop:=∀{w:Wo} {bs:List Nat} {ret:Va},(∀wr0,Q0 bs w wr0->V wr0 λv0 _=>v0=ret)->PX bs f args w ret
abbrev Jp(V:Wo->(Va->Wo->Prop)->Prop)(f:FuncId)(args:Array Va):Prop:=∀{w:Wo} {R:Va->Wo->Prop},V w R->Cz f args w λe0 wr0=>∃v0,e0=.returned v0/\R v0 wr0
theorem pV(wZ:List Nat)(wr:Bool)(sps:List (Nat×ZD)){f:FuncId}{fn:Func}{args:List Va}{V:Wo->(Va->Wo->Prop)->Prop}(hf:Tryz.prog.funcs[f]? = some fn)(hk:fits fn args.length=true)(hV:zv6 (zrr wZ fn.ntmps true wr) sps args (YL fn) fn.results.toList=V):YX V f args.toArray:=λ{w bs ret} vH=>
 zqs (C:=zrr wZ fn.ntmps true wr) (sps:=sps) (zpg _ _ _ _ _) hf (NV hk).2.2 rfl (NV hk).1 (NV hk).2.1 rfl rfl λwr0 tZ=>by rw[hV]; exact vH wr0 tZ
theorem eV(wZ:List Nat)(wr:Bool)(sps:List (Nat×ZD)){f:FuncId}{fn:Func}{args:List Va}{V:Wo->(Va->Wo->Prop)->Prop}(hf:Tryz.prog.funcs[f]? = some fn)(hk:fits fn args.length=true)(hV:zv6 (zrr wZ fn.ntmps false wr) sps args (YL fn) fn.results.toList=V):Jp V f args.toArray:=λ{w R} vH=>
 ztn (C:=zrr wZ fn.ntmps false wr) (sps:=sps) (zpg _ _ _ _ _) hf (NV hk).2.2 rfl (NV hk).1 (NV hk).2.1 rfl rfl (by rw[hV]; exact vH)
end Go.Proofs.YtnclplgaicdapaaGreatDoor
