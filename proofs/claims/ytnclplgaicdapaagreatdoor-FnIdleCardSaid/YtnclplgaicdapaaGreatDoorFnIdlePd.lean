/- Part 4 of what the law FnIdle needs. -/
import Derived.Test.YtnclplgaicdapaaGreatDoorFnIdlePc
import Derived.Test.YtnclplgaicdapaaGreatDoorProg
import Derived.KernelRfl
set_option linter.unusedVariables false
set_option linter.unusedSimpArgs false
set_option maxRecDepth 100000
set_option maxHeartbeats 8000000
namespace Go.Proofs.YtnclplgaicdapaaGreatDoor
open Go.RowKit
def Qc:TypeId:=3
def Yg:TypeId:=4
def Pg:TypeId:=5
def ZL:TypeId:=9
def ty_sl_uint8:TypeId:=22
def Zr:TypeId:=23
def Z0:TypeId:=24
def QE:TypeId:=25
def Q5:TypeId:=27
def Zb:TypeId:=33
def Z9:TypeId:=36
def Jg:TypeId:=37
def M4:TypeId:=39
def Z8:TypeId:=40
def QV:TypeId:=42
def QO:TypeId:=45
def ZD:TypeId:=53
def zpd:TypeId:=67
def Zp:TypeId:=69
def zm1:TypeId:=73
def OX:TypeId:=119
def zf2:TypeId:=123
def Jb:TypeId:=130
def JD:TypeId:=157
def Kj:TypeId:=166
def YE:TypeId:=187
def BQ:TypeId:=189
def ZK:TypeId:=190
def QQ:TypeId:=192
def VG:Nat:=56
def Qh:Nat:=69
def Zg:Nat:=41
def Vs:Nat:=71
def Mt:Nat:=247
def TI:Nat:=176
def ZQ:Nat:=99
def JW:Nat:=177
def TK:Nat:=81
def Yk:Nat:=123
def UZ:Nat:=178
def X1:Nat:=179
def ZP:Nat:=180
def TC:Nat:=181
def TO:Nat:=82
def Zf:Nat:=48
def JV:Nat:=201
def Mw:Nat:=202
def Yn:Nat:=112
def Yb:Nat:=230
def VE:Nat:=159
def VK:Nat:=182
def OB:Nat:=83
def U3:Nat:=147
def XC:Nat:=223
def Js:Nat:=183
def TP:Nat:=84
def Yr:Nat:=146
def Oz:Nat:=184
def Px:Nat:=85
def Zz:Nat:=19
def ZA:Nat:=75
def Ui:Nat:=15
def OQ:Nat:=175
def U4:Nat:=80
def QX:Nat:=68
def Zc:Nat:=72
def X5:Nat:=217
def X6:Nat:=229
def UD:Nat:=207
def VJ:Nat:=169
def OR:Nat:=261
def XF:Nat:=228
def Mu:Nat:=170
def VI:Nat:=241
def Oy:Nat:=171
def Qq:Nat:=73
def Jr:Nat:=110
def XA:Nat:=200
def UX:Nat:=111
def Xz:Nat:=39
def Q3:Nat:=135
def VH:Nat:=224
def QK:Nat:=150
def Oq:Nat:=149
def ZO:Nat:=251
def TH:Nat:=70
def TN:Nat:=129
def XG:Nat:=113
def Uh:Nat:=120
def YH:Nat:=74
def Ms:Nat:=14
def T2:Nat:=18
def XB:Nat:=97
def Ow:Nat:=98
def TG:Nat:=24
def Kt:Nat:=29
def Yl:Nat:=109
def Om:Nat:=31
def Ok:Nat:=33
def Pu:Nat:=35
def Ol:Nat:=37
def J7:Nat:=215
def Uj:Nat:=142
def Uk:Nat:=216
def Ox:Nat:=143
def J6:Nat:=218
def Xj:Nat:=145
def V0:Nat:=155
def UY:Nat:=221
def T3:Nat:=219
def VZ:Nat:=220
def Pv:Nat:=222
def Pw:Nat:=144
def JN:Nat:=45
def UE:Nat:=227
def My:Nat:=154
def Mz:Nat:=156
def Mx:Nat:=157
def OC:Nat:=158
def Ov:Nat:=55
def T1:Nat:=151
def TJ:Nat:=268
def Oj:Nat:=269
def Oi:Nat:=270
def Ps:Nat:=231
def T0:Nat:=271
def TE:Nat:=280
def On:Nat:=272
def VF:Nat:=252
def X3:Nat:=136
def Yc:Nat:=273
def JO:Nat:=253
def T4:Nat:=197
def Vm:Nat:=100
def JK:Nat:=162
def Xd:Nat:=61
def Qr:Nat:=174
def ZN:Nat:=186
def Uf:Nat:=115
def Mk:Nat:=266
def VY:Nat:=267
def Ks:Nat:=248
def Ml:Nat:=187
def XP:Nat:=87
def Ue:Nat:=254
def UA:Nat:=206
def UW:Nat:=122
def UV:Nat:=249
def Tv:Nat:=188
def Jq:Nat:=189
def Mj:Nat:=250
def XO:Nat:=190
def Xu:Nat:=88
def QG:Nat:=79
def JU:Nat:=204
def VU:Nat:=203
def Jn:Nat:=117
def XN:Nat:=107
def JJ:Nat:=205
def VA:Nat:=118
def TA:Nat:=125
def Qy:Nat:=133
def Mm:Nat:=191
def Vl:Nat:=208
def Xp:Nat:=134
def Vz:Nat:=40
def TB:Nat:=192
def Jm:Nat:=193
def XQ:Nat:=89
def Jj:Nat:=235
def JM:Nat:=236
def Xq:Nat:=165
def Jp:Nat:=194
def Xh:Nat:=90
def Jo:Nat:=104
def YG:Nat:=168
def J3:Nat:=91
def VB:Nat:=21
def Oh:Nat:=242
def Ug:Nat:=172
def Lw:Nat:=173
def VC:Nat:=76
def VW:Nat:=62
def Y7:Nat:=64
def Yh:Nat:=65
def Ji:Nat:=126
def Uz:Nat:=127
def Yq:Nat:=128
def Tu:Nat:=108
def Vi:Nat:=234
def YO:Nat:=164
def UU:Nat:=262
def Ux:Nat:=237
def VR:Nat:=238
def Vh:Nat:=239
def Uy:Nat:=240
def Pp:Nat:=166
def Tx:Nat:=167
def J4:Nat:=67
def Mo:Nat:=185
def Pr:Nat:=86
def Mr:Nat:=20
def TF:Nat:=26
def Mq:Nat:=27
def VD:Nat:=101
def VS:Nat:=44
def Pt:Nat:=46
def TL:Nat:=47
def TM:Nat:=49
def Oo:Nat:=50
def Xt:Nat:=78
def Vr:Nat:=211
def YB:Nat:=148
def Pq:Nat:=51
def GJ:Nat:=9
def ZY:Nat:=196
def VV:Nat:=96
def KQ:Nat:=198
def UB:Nat:=209
def Vk:Nat:=139
def Vj:Nat:=210
def VX:Nat:=140
def J2:Nat:=212
def UC:Nat:=213
def XR:Nat:=214
def Tw:Nat:=141
def J1:Nat:=138
def J5:Nat:=163
def Z5:Nat:=233
def Tz:Nat:=274
def VT:Nat:=256
def JL:Nat:=255
def YA:Nat:=257
noncomputable def zvn:List (TypeId×Ty):=[
 (2,⟨false,[.int .i64],.int .i64⟩),
 (3,⟨false,[.int .i64],.int .i64⟩),
 (4,⟨false,[.bool],.bool⟩),
 (5,⟨false,[.int .u8],.int .u8⟩),
 (6,⟨false,[.int .u8],.int .u8⟩),
 (7,⟨true,[.int .i64,.int .i64,.bool,.int .u8],.struct [(0,false,1),(1,false,1),(2,false,1),(3,false,1)]⟩),
 (8,⟨true,[.int .i64,.int .i64,.bool,.int .u8],.struct [(0,false,1),(1,false,1),(2,false,1),(3,false,1)]⟩),
 (9,⟨false,[.str],.str⟩),
 (10,⟨false,[.str],.str⟩),
 (11,⟨false,[.str],.str⟩),
 (12,⟨false,[.int .u64],.int .u64⟩),
 (13,⟨true,[.str,.int .u64],.struct [(0,false,1),(1,false,1)]⟩),
 (14,⟨true,[.str,.int .u64],.struct [(0,false,1),(1,false,1)]⟩),
 (15,⟨false,[.ptr],.ptr⟩),
 (16,⟨false,[.ptr],.ptr⟩),
 (17,⟨false,[.ptr],.ptr⟩),
 (18,⟨true,[.ptr],.struct [(0,false,1)]⟩),
 (19,⟨true,[.ptr],.struct [(0,false,1)]⟩),
 (20,⟨false,[.iface],.other⟩),
 (21,⟨false,[.int .i32],.int .i32⟩),
 (22,⟨false,[.slice],.slice 5 1⟩),
 (23,⟨false,[.slice],.slice 33 5⟩),
 (24,⟨false,[.slice],.slice 45 9⟩),
 (25,⟨false,[.slice],.slice 42 14⟩),
 (26,⟨true,[.int .i64,.slice,.slice,.slice],.struct [(0,false,1),(1,false,1),(2,false,1),(3,false,1)]⟩),
 (27,⟨true,[.int .i64,.slice,.slice,.slice],.struct [(0,false,1),(1,false,1),(2,false,1),(3,false,1)]⟩),
 (32,⟨true,[.bool,.int .i64,.int .i64,.int .i64,.int .i64],.struct [(0,false,1),(1,false,1),(2,false,1),(3,false,1),(4,false,1)]⟩),
 (33,⟨true,[.bool,.int .i64,.int .i64,.int .i64,.int .i64],.struct [(0,false,1),(1,false,1),(2,false,1),(3,false,1),(4,false,1)]⟩),
 (36,⟨false,[.slice],.slice 3 1⟩),
 (37,⟨false,[.slice],.slice 4 1⟩),
 (38,⟨true,[.int .i64,.int .i64,.int .i64,.slice,.slice],.struct [(0,false,1),(1,false,1),(2,false,1),(3,false,1),(4,false,1)]⟩),
 (39,⟨true,[.int .i64,.int .i64,.int .i64,.slice,.slice],.struct [(0,false,1),(1,false,1),(2,false,1),(3,false,1),(4,false,1)]⟩),
 (40,⟨false,[.slice],.slice 53 5⟩),
 (41,⟨true,[.bool,.int .i64,.str,.int .i64,.int .i64,.int .i64,.int .i64,.int .i64,.int .i64,.int .i64,.int .i64,.slice,.slice,.slice],.struct [(0,false,1),(1,false,1),(2,false,1),(3,false,1),(4,false,1),(5,false,1),(6,false,1),(7,false,1),(8,true,5),(13,false,1)]⟩),
 (42,⟨true,[.bool,.int .i64,.str,.int .i64,.int .i64,.int .i64,.int .i64,.int .i64,.int .i64,.int .i64,.int .i64,.slice,.slice,.slice],.struct [(0,false,1),(1,false,1),(2,false,1),(3,false,1),(4,false,1),(5,false,1),(6,false,1),(7,false,1),(8,true,5),(13,false,1)]⟩),
 (44,⟨true,[.int .i64,.int .i64,.int .i64,.int .i64,.int .i64,.int .i64,.int .i64,.int .i64,.int .i64],.struct [(0,false,1),(1,false,1),(2,false,1),(3,false,1),(4,false,1),(5,false,1),(6,false,1),(7,false,1),(8,false,1)]⟩),
 (45,⟨true,[.int .i64,.int .i64,.int .i64,.int .i64,.int .i64,.int .i64,.int .i64,.int .i64,.int .i64],.struct [(0,false,1),(1,false,1),(2,false,1),(3,false,1),(4,false,1),(5,false,1),(6,false,1),(7,false,1),(8,false,1)]⟩),
 (52,⟨true,[.int .i64,.bool,.int .i64,.int .i64,.int .i64],.struct [(0,false,1),(1,false,1),(2,false,1),(3,false,1),(4,false,1)]⟩),
 (53,⟨true,[.int .i64,.bool,.int .i64,.int .i64,.int .i64],.struct [(0,false,1),(1,false,1),(2,false,1),(3,false,1),(4,false,1)]⟩),
 (61,⟨false,[.ptr],.ptr⟩),
 (65,⟨false,[.ptr],.ptr⟩),
 (66,⟨false,[.iface],.other⟩),
 (67,⟨false,[.iface],.other⟩),
 (68,⟨true,[.int .i64],.struct [(0,false,1)]⟩),
 (69,⟨true,[.int .i64],.struct [(0,false,1)]⟩),
 (72,⟨true,[.ptr,.int .i64],.struct [(0,false,1),(1,false,1)]⟩),
 (73,⟨true,[.ptr,.int .i64],.struct [(0,false,1),(1,false,1)]⟩),
 (74,⟨false,[.ptr],.ptr⟩),
 (89,⟨true,[.fn,.fn,.fn,.fn,.fn],.arr 5 1 false⟩),
 (93,⟨false,[.ptr],.ptr⟩),
 (103,⟨false,[.ptr],.ptr⟩),
 (108,⟨false,[.int .u64],.int .u64⟩),
 (112,⟨false,[.slice],.slice 9 1⟩),
 (118,⟨true,[.slice,.int .i64],.struct [(0,false,1),(1,false,1)]⟩),
 (119,⟨true,[.slice,.int .i64],.struct [(0,false,1),(1,false,1)]⟩),
 (123,⟨false,[.int .i64],.int .i64⟩),
 (125,⟨false,[.ptr],.ptr⟩),
 (127,⟨true,[.int .i64,.int .i64,.int .i64],.struct [(0,false,1),(1,false,1),(2,false,1)]⟩),
 (128,⟨true,[.int .i64,.int .i64,.int .i64],.struct [(0,false,1),(1,false,1),(2,false,1)]⟩),
 (130,⟨false,[.ptr],.ptr⟩),
 (140,⟨true,[.int .i64,.int .i64,.int .i64,.int .i64,.int .i64,.int .i64,.int .i64,.int .i64,.int .i64,.int .i64,.int .i64,.int .i64,.int .i64,.int .i64,.int .i64,.int .i64,.int .i64,.int .i64,.int .i64,.int .i64,.int .i64],.arr 21 1 false⟩),
 (154,⟨false,[.ptr],.other⟩),
 (155,⟨false,[.int .u64],.int .u64⟩),
 (156,⟨true,[.ptr,.ptr,.int .u64],.struct [(0,false,1),(1,false,1),(2,false,1)]⟩),
 (157,⟨true,[.ptr,.ptr,.int .u64],.struct [(0,false,1),(1,false,1),(2,false,1)]⟩),
 (159,⟨false,[.iface],.other⟩),
 (160,⟨false,[.iface],.other⟩),
 (162,⟨false,[.int .u8],.int .u8⟩),
 (166,⟨false,[.slice],.slice 187 1⟩),
 (170,⟨true,[.int .i64,.int .i64,.int .i64,.int .i64,.str],.struct [(0,false,1),(1,false,1),(2,false,1),(3,false,1),(4,false,1)]⟩),
 (171,⟨true,[.int .i64,.int .i64,.int .i64,.int .i64,.str],.struct [(0,false,1),(1,false,1),(2,false,1),(3,false,1),(4,false,1)]⟩),
 (173,⟨true,[.ptr],.struct [(0,false,1)]⟩),
 (174,⟨true,[.ptr],.struct [(0,false,1)]⟩),
 (175,⟨false,[.ptr],.ptr⟩),
 (179,⟨false,[.iface],.other⟩),
 (182,⟨false,[.iface],.other⟩),
 (184,⟨false,[.iface],.other⟩),
 (185,⟨false,[.slice],.slice 67 1⟩),
 (187,⟨false,[.ptr],.ptr⟩),
 (188,⟨true,[.int .i64,.str,.ptr],.struct [(0,false,1),(1,false,1),(2,false,1)]⟩),
 (189,⟨true,[.int .i64,.str,.ptr],.struct [(0,false,1),(1,false,1),(2,false,1)]⟩),
 (190,⟨false,[.map],.other⟩),
 (191,⟨true,[.int .i64,.str],.struct [(0,false,1),(1,false,1)]⟩),
 (192,⟨true,[.int .i64,.str],.struct [(0,false,1),(1,false,1)]⟩),
 (194,⟨true,[.bool,.bool,.bool,.bool],.arr 4 1 false⟩),
 (195,⟨true,[.bool,.bool,.bool,.bool],.arr 4 1 false⟩),
 (197,⟨false,[.slice],.slice 200 1⟩),
 (199,⟨false,[.iface],.other⟩),
 (200,⟨false,[.iface],.other⟩),
 (203,⟨true,[.int .i64,.int .i64,.int .i64,.int .i64,.int .i64,.int .i64,.int .i64,.int .i64,.int .i64,.int .i64],.struct [(0,false,1),(1,true,9)]⟩),
 (204,⟨true,[.int .i64,.int .i64,.int .i64,.int .i64,.int .i64,.int .i64,.int .i64,.int .i64,.int .i64,.int .i64],.struct [(0,false,1),(1,true,9)]⟩),
 (205,⟨true,[.int .i64,.int .i64,.bool,.int .i64,.int .i64,.int .i64],.struct [(0,false,1),(1,true,5)]⟩),
 (206,⟨true,[.int .i64,.int .i64,.bool,.int .i64,.int .i64,.int .i64],.struct [(0,false,1),(1,true,5)]⟩),
 (207,⟨true,[.int .i64],.struct [(0,false,1)]⟩),
 (208,⟨true,[.int .i64],.struct [(0,false,1)]⟩),
 (211,⟨true,[.ptr,.ptr,.ptr,.str],.struct [(0,false,1),(1,false,1),(2,false,1),(3,false,1)]⟩),
 (212,⟨true,[.ptr,.ptr,.ptr,.str],.struct [(0,false,1),(1,false,1),(2,false,1),(3,false,1)]⟩),
 (213,⟨true,[],.arr 0 1 false⟩),
 (214,⟨true,[],.other⟩),
 (215,⟨true,[],.other⟩),
 (217,⟨false,[.int .u32],.int .u32⟩),
 (218,⟨false,[.int .u8],.int .u8⟩),
 (220,⟨false,[.ptr],.ptr⟩),
 (221,⟨false,[.int .i32],.int .i32⟩),
 (222,⟨false,[.int .i32],.int .i32⟩),
 (223,⟨true,[.int .u64,.int .u64,.int .u32,.int .u8,.int .u8,.int .u8,.int .u8,.fn,.ptr,.int .i32,.int .i32],.struct [(0,false,1),(1,false,1),(2,false,1),(3,false,1),(4,false,1),(5,false,1),(6,false,1),(7,false,1),(8,false,1),(9,false,1),(10,false,1)]⟩),
 (224,⟨true,[.int .u64,.int .u64,.int .u32,.int .u8,.int .u8,.int .u8,.int .u8,.fn,.ptr,.int .i32,.int .i32],.struct [(0,false,1),(1,false,1),(2,false,1),(3,false,1),(4,false,1),(5,false,1),(6,false,1),(7,false,1),(8,false,1),(9,false,1),(10,false,1)]⟩),
 (228,⟨true,[.str,.int .u8],.struct [(0,false,1),(1,false,1)]⟩),
 (229,⟨true,[.str,.int .u8],.struct [(0,false,1),(1,false,1)]⟩),
 (231,⟨false,[.ptr],.ptr⟩),
 (232,⟨true,[.bool,.int .i64],.struct [(0,false,1),(1,false,1)]⟩),
 (233,⟨true,[.bool,.int .i64],.struct [(0,false,1),(1,false,1)]⟩),
 (235,⟨false,[.int .u16],.int .u16⟩),
 (236,⟨true,[.int .i32,.int .u16,.int .u16,.int .u32,.int .u32],.struct [(0,false,1),(1,false,1),(2,false,1),(3,false,1),(4,false,1)]⟩),
 (237,⟨true,[.int .i32,.int .u16,.int .u16,.int .u32,.int .u32],.struct [(0,false,1),(1,false,1),(2,false,1),(3,false,1),(4,false,1)]⟩),
 (238,⟨false,[.slice],.slice 241 4⟩),
 (239,⟨false,[.int .i32],.int .i32⟩),
 (240,⟨true,[.int .i32,.int .i32,.int .i32,.int .i32],.struct [(0,false,1),(1,false,1),(2,false,1),(3,false,1)]⟩),
 (241,⟨true,[.int .i32,.int .i32,.int .i32,.int .i32],.struct [(0,false,1),(1,false,1),(2,false,1),(3,false,1)]⟩),
 (242,⟨false,[.ptr],.ptr⟩)]++[1,29,30,31,34,35,43,46,47,48,49,51,54,56,57,58,59,60,62,63,64,70,71,75,76,77,78,79,80,81,82,83,84,85,86,87,88,90,91,92,95,96,97,98,99,100,101,102,104,105,107,110,111,113,114,115,116,117,120,121,122,124,126,129,131,132,133,134,135,136,137,138,139,141,142,143,144,145,146,147,149,151,152,153,158,161,163,164,165,168,169,172,176,177,178,181,183,186,193,196,198,201,202,210,216,219,225,226,227,230,234].map (λt=>(t,⟨false,[.fn],.other⟩))++[0,28,50,55,94,106,109,148,150,167,180,209].map λt=>(t,⟨false,[.other],.other⟩)
noncomputable def zvx:List (Nat×List RK):=[
 (69,[.cell .bool]),
 (41,[.cell (.int .i64)]),
 (71,[.cell (.int .i64)]),
 (247,[.cell .bool]),
 (176,[.cell .bool]),
 (99,[.cell .bool]),
 (177,[.cell (.int .i64)]),
 (81,[.cell .bool]),
 (123,[.cell .bool]),
 (178,[.cell .bool]),
 (179,[.cell .bool]),
 (180,[.cell .bool]),
 (181,[.cell .bool]),
 (82,[.cell .bool]),
 (48,[.cell .bool]),
 (201,[.cell (.int .i64)]),
 (202,[.cell (.int .i64)]),
 (112,[.cell (.int .i64)]),
 (230,[.cell (.int .i64)]),
 (159,[.cell (.int .i64)]),
 (182,[.cell .bool]),
 (83,[.cell .bool]),
 (147,[.cell .bool]),
 (223,[.cell .bool]),
 (183,[.cell .bool]),
 (84,[.cell .bool]),
 (146,[.cell .bool]),
 (184,[.cell .bool]),
 (85,[.cell .bool]),
 (19,[.cell .bool]),
 (75,[.cell .bool]),
 (15,[.cell .bool]),
 (217,[.cell (.int .i64)]),
 (229,[.cell (.int .i64)]),
 (207,[.cell (.int .i64)]),
 (241,[.cell (.int .i64),.cell .bool]),
 (110,[.cell (.int .i64)]),
 (200,[.cell (.int .i64)]),
 (111,[.cell (.int .i64)]),
 (70,[.cell (.int .i64)]),
 (129,[.cell (.int .i64)]),
 (120,[.cell (.int .i64)]),
 (98,[.cell .bool]),
 (109,[.cell .bool]),
 (215,[.cell .bool]),
 (216,[.cell (.int .i64)]),
 (143,[.cell (.int .i64)]),
 (218,[.cell (.int .i64)]),
 (145,[.cell (.int .i64)]),
 (221,[.cell .bool]),
 (219,[.cell (.int .i64)]),
 (220,[.cell (.int .i64)]),
 (222,[.cell .bool]),
 (144,[.cell (.int .i64)]),
 (227,[.cell (.int .i64)]),
 (154,[.cell (.int .i64)]),
 (157,[.cell (.int .i64)]),
 (280,[.cell (.int .i64)]),
 (61,[.cell (.int .i64)]),
 (174,[.cell .bool]),
 (186,[.cell .bool]),
 (115,[.cell .bool]),
 (266,[.cell .bool]),
 (267,[.cell (.int .i64)]),
 (187,[.cell .bool]),
 (87,[.cell .bool]),
 (254,[.cell .bool]),
 (206,[.cell .bool]),
 (122,[.cell .bool]),
 (249,[.cell .bool]),
 (188,[.cell .bool]),
 (189,[.cell .bool]),
 (250,[.cell .bool]),
 (190,[.cell .bool]),
 (88,[.cell .bool]),
 (79,[.agg [.ptr,.int .i64]]),
 (204,[.cell (.int .i64)]),
 (203,[.cell (.int .i64)]),
 (117,[.cell (.int .i64)]),
 (107,[.cell (.int .i64)]),
 (205,[.cell .bool]),
 (118,[.cell .bool]),
 (125,[.cell .bool]),
 (133,[.cell .ptr]),
 (191,[.cell .bool]),
 (208,[.agg [.int .i64,.int .i64,.int .i64,.int .i64,.int .i64,.int .i64,.int .i64,.int .i64,.int .i64,.int .i64,.int .i64,.int .i64,.int .i64,.int .i64,.int .i64,.int .i64,.int .i64,.int .i64,.int .i64,.int .i64,.int .i64]]),
 (134,[.cell (.int .i64)]),
 (40,[.cell (.int .i64)]),
 (192,[.cell .bool]),
 (193,[.cell (.int .i64)]),
 (89,[.cell .bool]),
 (235,[.cell .bool]),
 (236,[.cell .bool]),
 (165,[.cell .bool]),
 (194,[.cell .bool]),
 (90,[.cell .bool]),
 (104,[.cell .bool]),
 (168,[.cell .bool]),
 (91,[.cell .bool]),
 (21,[.cell .bool]),
 (64,[.cell .ptr]),
 (126,[.cell (.int .i64)]),
 (127,[.cell (.int .i64)]),
 (128,[.cell (.int .i64)]),
 (234,[.cell (.int .i64)]),
 (185,[.cell .bool]),
 (86,[.cell .bool]),
 (20,[.cell .bool]),
 (27,[.cell (.int .i64)]),
 (101,[.cell .iface]),
 (46,[.cell (.int .i64)]),
 (47,[.cell .bool]),
 (49,[.cell (.int .i64)]),
 (50,[.cell .bool]),
 (78,[.cell .bool]),
 (211,[.cell (.int .i64)]),
 (148,[.cell (.int .i64)]),
 (51,[.cell (.int .i64)]),
 (52,[.cell .bool]),
 (153,[]),
 (196,[.cell .bool]),
 (96,[.cell .bool]),
 (105,[.cell (.int .i64),.cell (.int .i64)]),
 (132,[.cell .bool]),
 (209,[.cell .bool]),
 (210,[.cell (.int .i64)]),
 (140,[.cell (.int .i64)]),
 (212,[.cell (.int .i64)]),
 (213,[.cell (.int .i64)]),
 (214,[.cell .bool]),
 (141,[.cell (.int .i64),.cell .bool]),
 (199,[.cell .bool]),
 (281,[.cell .bool]),
 (278,[.cell (.int .i64)]),
 (258,[.cell (.int .i64)]),
 (274,[.agg [.bool,.bool,.bool,.bool]]),
 (256,[.cell (.int .i64)]),
 (257,[.cell .bool]),
 (308,[.cell .ptr]),
 (310,[.cell .bool]),
 (309,[.cell (.int .i64)]),
 (323,[.cell (.int .i64)]),
 (326,[.cell (.int .i64)])]
noncomputable def zvu:List (Nat×List RK):=[
 (2,[]),
 (56,[.cell .ptr]),
 (175,[.agg [.int .i64,.int .i64,.int .i64,.slice,.slice]]),
 (80,[.agg [.int .i64,.slice,.slice,.slice]]),
 (68,[.agg [.int .i64,.slice,.slice,.slice],.cell (.int .i64)]),
 (72,[.agg [.int .i64,.slice,.slice,.slice]]),
 (169,[.agg [.int .i64,.slice,.slice,.slice]]),
 (261,[.agg [.int .i64,.int .i64,.int .i64,.slice,.slice]]),
 (228,[.agg [.int .i64,.int .i64,.int .i64,.slice,.slice],.cell (.int .i64)]),
 (170,[.agg [.int .i64,.slice,.slice,.slice]]),
 (171,[.agg [.int .i64,.slice,.slice,.slice]]),
 (73,[.agg [.int .i64,.slice,.slice,.slice]]),
 (39,[.agg [.int .i64,.slice,.slice,.slice],.cell (.int .i64),.cell (.int .i64)]),
 (135,[.cell (.int .i64)]),
 (224,[.agg [.bool,.int .i64,.str,.int .i64,.int .i64,.int .i64,.int .i64,.int .i64,.int .i64,.int .i64,.int .i64,.slice,.slice,.slice]]),
 (150,[.agg [.int .i64,.slice,.slice,.slice],.cell (.int .i64),.cell (.int .i64)]),
 (149,[.agg [.int .i64,.slice,.slice,.slice],.cell .bool]),
 (251,[.cell (.int .i64)]),
 (113,[.agg [.int .i64,.slice,.slice,.slice]]),
 (74,[.agg [.int .i64,.slice,.slice,.slice]]),
 (14,[.agg [.int .i64,.slice,.slice,.slice],.cell (.int .i64)]),
 (18,[.agg [.int .i64,.slice,.slice,.slice],.cell (.int .i64)]),
 (97,[.agg [.int .i64,.slice,.slice,.slice],.cell (.int .i64)]),
 (24,[.agg [.int .i64,.slice,.slice,.slice],.cell (.int .i64)]),
 (29,[.agg [.int .i64,.slice,.slice,.slice],.cell (.int .i64)]),
 (31,[.agg [.int .i64,.slice,.slice,.slice],.cell (.int .i64)]),
 (33,[.agg [.int .i64,.slice,.slice,.slice],.cell (.int .i64)]),
 (35,[.agg [.int .i64,.slice,.slice,.slice],.cell (.int .i64)]),
 (37,[.agg [.int .i64,.slice,.slice,.slice],.cell (.int .i64)]),
 (142,[.agg [.int .i64,.slice,.slice,.slice]]),
 (155,[.cell .slice]),
 (45,[.agg [.int .i64,.slice,.slice,.slice],.cell (.int .i64)]),
 (156,[.agg [.int .i64,.slice,.slice,.slice],.cell .bool]),
 (158,[.agg [.int .i64,.slice,.slice,.slice]]),
 (55,[.agg [.int .i64,.slice,.slice,.slice],.cell (.int .i64)]),
 (151,[.agg [.int .i64,.slice,.slice,.slice],.cell (.int .i64)]),
 (268,[.agg [.int .i64,.slice,.slice,.slice],.cell (.int .i64)]),
 (269,[.agg [.int .i64,.slice,.slice,.slice],.cell (.int .i64)]),
 (270,[.agg [.int .i64,.slice,.slice,.slice],.cell (.int .i64)]),
 (231,[.agg [.int .i64,.int .i64,.int .i64,.slice,.slice],.cell .bool]),
 (271,[.agg [.int .i64,.slice,.slice,.slice],.cell (.int .i64)]),
 (272,[.agg [.int .i64,.slice,.slice,.slice],.cell (.int .i64)]),
 (252,[.agg [.int .i64,.slice,.slice,.slice],.cell (.int .i64)]),
 (136,[.cell (.int .i64)]),
 (273,[.cell (.int .i64)]),
 (253,[.agg [.int .i64,.int .i64,.int .i64,.int .i64,.str]]),
 (197,[.agg [.int .i64,.slice,.slice,.slice]]),
 (100,[.agg [.int .i64,.slice,.slice,.slice]]),
 (232,[.agg [.int .i64,.int .i64,.int .i64]]),
 (160,[.agg [.int .i64,.int .i64,.int .i64,.slice,.slice]]),
 (161,[.agg [.int .i64,.slice,.slice,.slice]]),
 (57,[.agg [.int .i64,.slice,.slice,.slice]]),
 (58,[.cell (.int .i64)]),
 (12,[.agg [.int .i64,.slice,.slice,.slice],.cell (.int .i64)]),
 (162,[.cell .fn]),
 (60,[.cell (.int .i64)]),
 (59,[.cell .iface]),
 (248,[.cell .slice,.cell .bool]),
 (242,[.agg [.int .i64,.int .i64,.int .i64,.slice,.slice]]),
 (172,[.agg [.int .i64,.slice,.slice,.slice]]),
 (246,[.cell .bool]),
 (173,[.cell .bool]),
 (76,[.agg [.int .i64,.slice,.slice,.slice],.cell (.int .i64)]),
 (62,[.agg [.int .i64,.slice,.slice,.slice],.cell (.int .i64)]),
 (65,[]),
 (108,[]),
 (119,[.cell (.int .i64)]),
 (66,[]),
 (164,[]),
 (262,[]),
 (237,[.cell (.int .i64)]),
 (238,[.cell (.int .i64)]),
 (239,[.cell (.int .i64)]),
 (240,[.cell (.int .i64)]),
 (166,[.cell (.int .i64)]),
 (167,[]),
 (67,[]),
 (63,[]),
 (13,[.agg [.int .i64,.slice,.slice,.slice],.cell (.int .i64)]),
 (3,[.cell .bool]),
 (16,[.agg [.int .i64,.slice,.slice,.slice],.cell (.int .i64)]),
 (17,[.agg [.int .i64,.slice,.slice,.slice],.cell (.int .i64)]),
 (4,[.cell .bool]),
 (92,[.cell (.int .i64)]),
 (22,[.agg [.int .i64,.slice,.slice,.slice],.cell (.int .i64)]),
 (93,[.agg [.int .i64,.slice,.slice,.slice],.cell (.int .i64)]),
 (23,[.agg [.int .i64,.slice,.slice,.slice],.cell (.int .i64)]),
 (25,[.cell .slice]),
 (5,[.cell .bool]),
 (26,[.agg [.int .i64,.slice,.slice,.slice]]),
 (102,[]),
 (28,[.agg [.int .i64,.slice,.slice,.slice],.cell (.int .i64)]),
 (6,[.cell .bool]),
 (30,[.agg [.int .i64,.slice,.slice,.slice],.cell (.int .i64)]),
 (32,[.agg [.int .i64,.slice,.slice,.slice],.cell (.int .i64)]),
 (34,[.agg [.int .i64,.slice,.slice,.slice],.cell (.int .i64)]),
 (36,[.agg [.int .i64,.slice,.slice,.slice],.cell (.int .i64)]),
 (38,[.agg [.int .i64,.slice,.slice,.slice],.cell (.int .i64),.cell (.int .i64)]),
 (7,[.cell .bool]),
 (42,[.agg [.int .i64,.slice,.slice,.slice],.cell (.int .i64),.cell (.int .i64),.cell (.int .i64)]),
 (43,[.agg [.int .i64,.slice,.slice,.slice],.cell (.int .i64)]),
 (8,[.cell .bool]),
 (44,[.agg [.int .i64,.slice,.slice,.slice],.cell (.int .i64)]),
 (9,[.cell .bool]),
 (53,[.agg [.int .i64,.slice,.slice,.slice]]),
 (152,[.agg [.int .i64,.slice,.slice,.slice],.cell (.int .i64)]),
 (54,[.agg [.int .i64,.slice,.slice,.slice],.cell (.int .i64)]),
 (10,[.cell .bool]),
 (11,[.cell .bool]),
 (77,[.cell .iface]),
 (95,[.cell .slice]),
 (94,[.cell .iface]),
 (198,[.cell (.int .i64),.cell .bool]),
 (106,[.cell (.int .i64)]),
 (103,[.cell .iface]),
 (116,[]),
 (114,[.cell .iface]),
 (121,[.cell .iface]),
 (124,[.cell .iface]),
 (131,[.cell (.int .i64)]),
 (130,[.cell .iface]),
 (137,[.cell .iface]),
 (139,[]),
 (138,[]),
 (163,[.cell .iface]),
 (195,[.cell .iface]),
 (275,[.cell .slice]),
 (276,[.cell .iface]),
 (277,[.cell (.int .i64)]),
 (259,[.cell .bool]),
 (260,[.cell (.int .i64)]),
 (226,[]),
 (225,[.cell .iface]),
 (233,[]),
 (255,[]),
 (279,[]),
 (306,[.agg [.int .i64,.slice,.slice,.slice],.cell (.int .i64)]),
 (305,[.agg [.int .i64,.slice,.slice,.slice],.cell (.int .i64)]),
 (307,[.cell .iface]),
 (332,[])]
noncomputable def zzv:List (Nat×List RK):=[(0,[]),(106,[.cell (.int .i64),.cell .bool])]
def JH(f:Func):Code:=match f.body with
 | some c=>c
 | none=>.skip
theorem zk5{β:Type}:∀{l:List (Nat×β)} {f:Nat} {k:β},zpv l f=some k->(f,k)∈l
 | [],f,k,h=>by cases h
 | p::r,f,k,h=>by
  simp only[zpv] at h
  cases hb:Nat.beq p.1 f with
  | true=>
   rw[hb] at h;simp only[cond_true,I0] at h;have:p.1=f:=Ib hb;rw[<-this,<-h]; exact I9
  | false=>
   rw[hb] at h;exact I1 _ (zk5 h)
abbrev Cz:=Calls Tryz.prog
abbrev PX (bs:List Nat):=Q2 bs Tryz.prog
theorem z31:zzf Tryz.prog zvn=true:=Qk
theorem z44:(zvx.all λp=>HB Tryz.prog p.1)=true:=Qk
theorem z4o:(zvu.all λp=>HB Tryz.prog p.1)=true:=Qk
theorem zx2:Tryz.prog.follows .mixedOrders=true:=Qk
theorem z6f:zvt Tryz.prog (Ta zvn):=zzd (l:=zvn) z31
theorem z6c(f:Nat)(ks:List RK)(h:zpv zvx f=some ks):P1 Tryz.prog f:=AI (List.all_eq_true.1 z44 (f,ks) (zk5 h))
theorem z56(f:Nat)(ks:List RK)(h:zpv zvu f=some ks):P1 Tryz.prog f:=AI (List.all_eq_true.1 z4o (f,ks) (zk5 h))
theorem zzs(vis:List Nat)(n:Nat)(pm wr:Bool)(rd:Option Nat):zrs { P:=Tryz.prog,T:=Ta zvn,pf:=zvx,ef:=zvu,tt:=zzv,vis:=vis,n:=n,pm:=pm,wr:=wr,rd:=rd }:=
 ⟨z6f,z6c,z56,zx2⟩
noncomputable def zr3(vis:List Nat)(n:Nat)(pm wr:Bool):UQ:={ P:=Tryz.prog,T:=Ta zvn,pf:=zvx,ef:=zvu,tt:=zzv,vis:=vis,n:=n,pm:=pm,wr:=wr }
def fits(fn:Func)(n:Nat):Bool:=Nat.ble n fn.ntmps&&Nat.ble fn.ntmps 4000&&fn.body.isSome
theorem NI{fn:Func}{n:Nat}(h:fits fn n=true):n<=fn.ntmps/\fn.ntmps<=4000/\fn.body=some (JH fn):=by
 unfold fits at h;simp only[A'] at h;refine⟨Ik h.1.1,Ik h.1.2,?_⟩
 cases hb:fn.body with
 | none=>rw[hb] at h; cases h.2
 | some c=>simp[JH,hb]
abbrev Yw(V:Wo->(Va->Wo->Prop)->Prop)(f:FuncId)(args:Array Va):Prop:=∀{w:Wo} {bs:List Nat} {ret:Va},(∀uU,Q0 bs w uU->V uU λv0 _=>v0=ret)->PX bs f args w ret
abbrev Jy(V:Wo->(Va->Wo->Prop)->Prop)(f:FuncId)(args:Array Va):Prop:=∀{w:Wo} {R:Va->Wo->Prop},V w R->Cz f args w λe0 uU=>∃v0,e0=.returned v0/\R v0 uU
theorem pV(vis:List Nat)(wr:Bool)(sps:List (Nat×Yi)){f:FuncId}{fn:Func}{args:List Va}{V:Wo->(Va->Wo->Prop)->Prop}(hf:Tryz.prog.funcs[f]? = some fn)(hk:fits fn args.length=true)(hV:zw1 (zr3 vis fn.ntmps true wr) sps args (JH fn) fn.results.toList=V):Yw V f args.toArray:=λ{w bs ret} hvc=>
 zq3 (C:=zr3 vis fn.ntmps true wr) (sps:=sps) (zzs _ _ _ _ _) hf (NI hk).2.2 rfl (NI hk).1 (NI hk).2.1 rfl rfl λuU mZ=>by rw[hV]; exact hvc uU mZ
theorem eV(vis:List Nat)(wr:Bool)(sps:List (Nat×Yi)){f:FuncId}{fn:Func}{args:List Va}{V:Wo->(Va->Wo->Prop)->Prop}(hf:Tryz.prog.funcs[f]? = some fn)(hk:fits fn args.length=true)(hV:zw1 (zr3 vis fn.ntmps false wr) sps args (JH fn) fn.results.toList=V):Jy V f args.toArray:=λ{w R} hvc=>
 zt7 (C:=zr3 vis fn.ntmps false wr) (sps:=sps) (zzs _ _ _ _ _) hf (NI hk).2.2 rfl (NI hk).1 (NI hk).2.1 rfl rfl (by rw[hV]; exact hvc)
end Go.Proofs.YtnclplgaicdapaaGreatDoor
