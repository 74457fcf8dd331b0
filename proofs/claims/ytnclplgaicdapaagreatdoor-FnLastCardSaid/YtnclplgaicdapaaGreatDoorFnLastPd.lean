/- Part 4 of what the law FnLast needs. -/
import Derived.Test.YtnclplgaicdapaaGreatDoorFnLastPc
import Derived.Test.YtnclplgaicdapaaGreatDoorProg
import Derived.KernelRfl
set_option linter.unusedVariables false
set_option linter.unusedSimpArgs false
set_option maxRecDepth 100000
set_option maxHeartbeats 8000000
namespace Go.Proofs.YtnclplgaicdapaaGreatDoor
open Go.RowKit
def Qb:TypeId:=3
def Y6:TypeId:=4
def P5:TypeId:=5
def ZH:TypeId:=9
def ty_sl_uint8:TypeId:=22
def Zr:TypeId:=23
def Z2:TypeId:=24
def QA:TypeId:=25
def Q4:TypeId:=27
def Zy:TypeId:=33
def ZV:TypeId:=36
def J3:TypeId:=37
def JG:TypeId:=39
def Z9:TypeId:=40
def QL:TypeId:=42
def QR:TypeId:=45
def YP:TypeId:=53
def zm1:TypeId:=67
def Z1:TypeId:=69
def OE:TypeId:=119
def zd1:TypeId:=123
def XX:TypeId:=130
def Ju:TypeId:=157
def MQ:TypeId:=166
def Yx:TypeId:=187
def FY:TypeId:=189
def ZG:TypeId:=190
def QT:TypeId:=192
def JM:Nat:=56
def Qh:Nat:=69
def Zg:Nat:=41
def V3:Nat:=71
def M1:Nat:=247
def Tf:Nat:=176
def Ya:Nat:=99
def JN:Nat:=177
def Th:Nat:=81
def Y9:Nat:=123
def UJ:Nat:=178
def YF:Nat:=179
def ZL:Nat:=180
def T9:Nat:=181
def Tj:Nat:=82
def Zm:Nat:=48
def JL:Nat:=201
def M3:Nat:=202
def Yz:Nat:=112
def Y0:Nat:=230
def JK:Nat:=159
def Vn:Nat:=182
def Oe:Nat:=83
def V2:Nat:=147
def Xk:Nat:=223
def Jj:Nat:=183
def Tk:Nat:=84
def YH:Nat:=146
def Od:Nat:=184
def Pj:Nat:=85
def X6:Nat:=19
def Zx:Nat:=75
def XM:Nat:=15
def Ox:Nat:=175
def JQ:Nat:=80
def QX:Nat:=68
def Ze:Nat:=72
def YL:Nat:=217
def YM:Nat:=229
def Up:Nat:=207
def Vm:Nat:=169
def Oy:Nat:=261
def Yu:Nat:=228
def M2:Nat:=170
def Vl:Nat:=241
def Oc:Nat:=171
def Qq:Nat:=73
def Ji:Nat:=110
def Xi:Nat:=200
def UH:Nat:=111
def Xh:Nat:=39
def Q2:Nat:=135
def Vk:Nat:=224
def QF:Nat:=150
def O7:Nat:=149
def ZK:Nat:=251
def Te:Nat:=70
def Ti:Nat:=129
def Xm:Nat:=113
def U4:Nat:=120
def Yy:Nat:=74
def Ta:Nat:=14
def VG:Nat:=18
def Xj:Nat:=97
def O9:Nat:=98
def Td:Nat:=24
def K4:Nat:=29
def YT:Nat:=109
def O5:Nat:=31
def O3:Nat:=33
def Pf:Nat:=35
def O4:Nat:=37
def XL:Nat:=215
def U5:Nat:=142
def U6:Nat:=216
def Oa:Nat:=143
def XK:Nat:=218
def XE:Nat:=145
def UK:Nat:=155
def UI:Nat:=221
def VH:Nat:=219
def VC:Nat:=220
def Pg:Nat:=222
def Ph:Nat:=144
def VB:Nat:=45
def Uq:Nat:=227
def M5:Nat:=154
def M6:Nat:=156
def M4:Nat:=157
def Of:Nat:=158
def O8:Nat:=55
def VF:Nat:=151
def Tg:Nat:=268
def O2:Nat:=269
def O1:Nat:=270
def QJ:Nat:=231
def VE:Nat:=271
def Tb:Nat:=280
def O6:Nat:=272
def Vj:Nat:=252
def YG:Nat:=136
def Y1:Nat:=273
def JD:Nat:=253
def VJ:Nat:=197
def UV:Nat:=100
def XN:Nat:=232
def VI:Nat:=160
def Pi:Nat:=161
def Xn:Nat:=57
def U7:Nat:=58
def VD:Nat:=12
def Xd:Nat:=162
def MJ:Nat:=60
def Ym:Nat:=61
def UC:Nat:=59
def Qx:Nat:=174
def ZJ:Nat:=186
def U2:Nat:=115
def PY:Nat:=266
def VA:Nat:=267
def K3:Nat:=248
def PZ:Nat:=187
def Xt:Nat:=87
def U1:Nat:=254
def Um:Nat:=206
def UG:Nat:=122
def UE:Nat:=249
def T5:Nat:=188
def Jh:Nat:=189
def PU:Nat:=250
def Xs:Nat:=190
def Xb:Nat:=88
def Zd:Nat:=79
def JJ:Nat:=204
def Vy:Nat:=203
def Jf:Nat:=117
def Xr:Nat:=107
def JB:Nat:=205
def Vg:Nat:=118
def T7:Nat:=125
def QB:Nat:=133
def M0:Nat:=191
def UU:Nat:=208
def X7:Nat:=134
def Vf:Nat:=40
def T8:Nat:=192
def Je:Nat:=193
def Xu:Nat:=89
def Jb:Nat:=235
def JC:Nat:=236
def X8:Nat:=165
def UF:Nat:=194
def X4:Nat:=90
def Jg:Nat:=104
def Ja:Nat:=168
def XH:Nat:=91
def Pe:Nat:=21
def O0:Nat:=242
def U3:Nat:=172
def KV:Nat:=173
def Vh:Nat:=76
def JA:Nat:=62
def Yn:Nat:=64
def YB:Nat:=65
def J9:Nat:=126
def T3:Nat:=127
def Uo:Nat:=128
def T4:Nat:=108
def MK:Nat:=119
def Xc:Nat:=66
def UT:Nat:=234
def YA:Nat:=164
def UB:Nat:=262
def Uk:Nat:=237
def Vx:Nat:=238
def US:Nat:=239
def Ul:Nat:=240
def Pc:Nat:=166
def T6:Nat:=167
def XI:Nat:=67
def UD:Nat:=63
def PV:Nat:=13
def Gj:Nat:=3
def Tc:Nat:=16
def Vi:Nat:=101
def Ve:Nat:=102
def HY:Nat:=28
def Jz:Nat:=78
def ZO:Nat:=196
def Vz:Nat:=96
def XJ:Nat:=163
def QH:Nat:=233
noncomputable def zpa:List (TypeId×Ty):=[
 (2,⟨false,[.int .i64],.int .i64⟩),
 (3,⟨false,[.int .i64],.int .i64⟩),
 (4,⟨false,[.bool],.bool⟩),
 (5,⟨false,[.int .u8],.int .u8⟩),
 (6,⟨false,[.int .u8],.int .u8⟩),
 (7,⟨true,[.int .i64,.int .i64,.bool,.int .u8],.struct [(0,false,1),(1,false,1),(2,false,1),(3,false,1)]⟩),
 (8,⟨true,[.int .i64,.int .i64,.bool,.int .u8],.struct [(0,false,1),(1,false,1),(2,false,1),(3,false,1)]⟩),
 (9,⟨false,[.str],.str⟩),
 (10,⟨false,[.str],.str⟩),
 (11,⟨false,[.str],.str⟩),
 (12,⟨false,[.int .u64],.int .u64⟩),
 (13,⟨true,[.str,.int .u64],.struct [(0,false,1),(1,false,1)]⟩),
 (14,⟨true,[.str,.int .u64],.struct [(0,false,1),(1,false,1)]⟩),
 (15,⟨false,[.ptr],.ptr⟩),
 (16,⟨false,[.ptr],.ptr⟩),
 (17,⟨false,[.ptr],.ptr⟩),
 (18,⟨true,[.ptr],.struct [(0,false,1)]⟩),
 (19,⟨true,[.ptr],.struct [(0,false,1)]⟩),
 (20,⟨false,[.iface],.other⟩),
 (21,⟨false,[.int .i32],.int .i32⟩),
 (22,⟨false,[.slice],.slice 5 1⟩),
 (23,⟨false,[.slice],.slice 33 5⟩),
 (24,⟨false,[.slice],.slice 45 9⟩),
 (25,⟨false,[.slice],.slice 42 14⟩),
 (26,⟨true,[.int .i64,.slice,.slice,.slice],.struct [(0,false,1),(1,false,1),(2,false,1),(3,false,1)]⟩),
 (27,⟨true,[.int .i64,.slice,.slice,.slice],.struct [(0,false,1),(1,false,1),(2,false,1),(3,false,1)]⟩),
 (32,⟨true,[.bool,.int .i64,.int .i64,.int .i64,.int .i64],.struct [(0,false,1),(1,false,1),(2,false,1),(3,false,1),(4,false,1)]⟩),
 (33,⟨true,[.bool,.int .i64,.int .i64,.int .i64,.int .i64],.struct [(0,false,1),(1,false,1),(2,false,1),(3,false,1),(4,false,1)]⟩),
 (36,⟨false,[.slice],.slice 3 1⟩),
 (37,⟨false,[.slice],.slice 4 1⟩),
 (38,⟨true,[.int .i64,.int .i64,.int .i64,.slice,.slice],.struct [(0,false,1),(1,false,1),(2,false,1),(3,false,1),(4,false,1)]⟩),
 (39,⟨true,[.int .i64,.int .i64,.int .i64,.slice,.slice],.struct [(0,false,1),(1,false,1),(2,false,1),(3,false,1),(4,false,1)]⟩),
 (40,⟨false,[.slice],.slice 53 5⟩),
 (41,⟨true,[.bool,.int .i64,.str,.int .i64,.int .i64,.int .i64,.int .i64,.int .i64,.int .i64,.int .i64,.int .i64,.slice,.slice,.slice],.struct [(0,false,1),(1,false,1),(2,false,1),(3,false,1),(4,false,1),(5,false,1),(6,false,1),(7,false,1),(8,true,5),(13,false,1)]⟩),
 (42,⟨true,[.bool,.int .i64,.str,.int .i64,.int .i64,.int .i64,.int .i64,.int .i64,.int .i64,.int .i64,.int .i64,.slice,.slice,.slice],.struct [(0,false,1),(1,false,1),(2,false,1),(3,false,1),(4,false,1),(5,false,1),(6,false,1),(7,false,1),(8,true,5),(13,false,1)]⟩),
 (44,⟨true,[.int .i64,.int .i64,.int .i64,.int .i64,.int .i64,.int .i64,.int .i64,.int .i64,.int .i64],.struct [(0,false,1),(1,false,1),(2,false,1),(3,false,1),(4,false,1),(5,false,1),(6,false,1),(7,false,1),(8,false,1)]⟩),
 (45,⟨true,[.int .i64,.int .i64,.int .i64,.int .i64,.int .i64,.int .i64,.int .i64,.int .i64,.int .i64],.struct [(0,false,1),(1,false,1),(2,false,1),(3,false,1),(4,false,1),(5,false,1),(6,false,1),(7,false,1),(8,false,1)]⟩),
 (52,⟨true,[.int .i64,.bool,.int .i64,.int .i64,.int .i64],.struct [(0,false,1),(1,false,1),(2,false,1),(3,false,1),(4,false,1)]⟩),
 (53,⟨true,[.int .i64,.bool,.int .i64,.int .i64,.int .i64],.struct [(0,false,1),(1,false,1),(2,false,1),(3,false,1),(4,false,1)]⟩),
 (61,⟨false,[.ptr],.ptr⟩),
 (65,⟨false,[.ptr],.ptr⟩),
 (66,⟨false,[.iface],.other⟩),
 (67,⟨false,[.iface],.other⟩),
 (68,⟨true,[.int .i64],.struct [(0,false,1)]⟩),
 (69,⟨true,[.int .i64],.struct [(0,false,1)]⟩),
 (72,⟨true,[.ptr,.int .i64],.struct [(0,false,1),(1,false,1)]⟩),
 (73,⟨true,[.ptr,.int .i64],.struct [(0,false,1),(1,false,1)]⟩),
 (74,⟨false,[.ptr],.ptr⟩),
 (89,⟨true,[.fn,.fn,.fn,.fn,.fn],.arr 5 1 false⟩),
 (93,⟨false,[.ptr],.ptr⟩),
 (103,⟨false,[.ptr],.ptr⟩),
 (108,⟨false,[.int .u64],.int .u64⟩),
 (112,⟨false,[.slice],.slice 9 1⟩),
 (118,⟨true,[.slice,.int .i64],.struct [(0,false,1),(1,false,1)]⟩),
 (119,⟨true,[.slice,.int .i64],.struct [(0,false,1),(1,false,1)]⟩),
 (123,⟨false,[.int .i64],.int .i64⟩),
 (125,⟨false,[.ptr],.ptr⟩),
 (127,⟨true,[.int .i64,.int .i64,.int .i64],.struct [(0,false,1),(1,false,1),(2,false,1)]⟩),
 (128,⟨true,[.int .i64,.int .i64,.int .i64],.struct [(0,false,1),(1,false,1),(2,false,1)]⟩),
 (130,⟨false,[.ptr],.ptr⟩),
 (140,⟨true,[.int .i64,.int .i64,.int .i64,.int .i64,.int .i64,.int .i64,.int .i64,.int .i64,.int .i64,.int .i64,.int .i64,.int .i64,.int .i64,.int .i64,.int .i64,.int .i64,.int .i64,.int .i64,.int .i64,.int .i64,.int .i64],.arr 21 1 false⟩),
 (154,⟨false,[.ptr],.other⟩),
 (155,⟨false,[.int .u64],.int .u64⟩),
 (156,⟨true,[.ptr,.ptr,.int .u64],.struct [(0,false,1),(1,false,1),(2,false,1)]⟩),
 (157,⟨true,[.ptr,.ptr,.int .u64],.struct [(0,false,1),(1,false,1),(2,false,1)]⟩),
 (159,⟨false,[.iface],.other⟩),
 (160,⟨false,[.iface],.other⟩),
 (162,⟨false,[.int .u8],.int .u8⟩),
 (166,⟨false,[.slice],.slice 187 1⟩),
 (170,⟨true,[.int .i64,.int .i64,.int .i64,.int .i64,.str],.struct [(0,false,1),(1,false,1),(2,false,1),(3,false,1),(4,false,1)]⟩),
 (171,⟨true,[.int .i64,.int .i64,.int .i64,.int .i64,.str],.struct [(0,false,1),(1,false,1),(2,false,1),(3,false,1),(4,false,1)]⟩),
 (173,⟨true,[.ptr],.struct [(0,false,1)]⟩),
 (174,⟨true,[.ptr],.struct [(0,false,1)]⟩),
 (175,⟨false,[.ptr],.ptr⟩),
 (179,⟨false,[.iface],.other⟩),
 (182,⟨false,[.iface],.other⟩),
 (184,⟨false,[.iface],.other⟩),
 (185,⟨false,[.slice],.slice 67 1⟩),
 (187,⟨false,[.ptr],.ptr⟩),
 (188,⟨true,[.int .i64,.str,.ptr],.struct [(0,false,1),(1,false,1),(2,false,1)]⟩),
 (189,⟨true,[.int .i64,.str,.ptr],.struct [(0,false,1),(1,false,1),(2,false,1)]⟩),
 (190,⟨false,[.map],.other⟩),
 (191,⟨true,[.int .i64,.str],.struct [(0,false,1),(1,false,1)]⟩),
 (192,⟨true,[.int .i64,.str],.struct [(0,false,1),(1,false,1)]⟩),
 (194,⟨true,[.bool,.bool,.bool,.bool],.arr 4 1 false⟩),
 (195,⟨true,[.bool,.bool,.bool,.bool],.arr 4 1 false⟩),
 (197,⟨false,[.slice],.slice 200 1⟩),
 (199,⟨false,[.iface],.other⟩),
 (200,⟨false,[.iface],.other⟩),
 (203,⟨true,[.int .i64,.int .i64,.int .i64,.int .i64,.int .i64,.int .i64,.int .i64,.int .i64,.int .i64,.int .i64],.struct [(0,false,1),(1,true,9)]⟩),
 (204,⟨true,[.int .i64,.int .i64,.int .i64,.int .i64,.int .i64,.int .i64,.int .i64,.int .i64,.int .i64,.int .i64],.struct [(0,false,1),(1,true,9)]⟩),
 (205,⟨true,[.int .i64,.int .i64,.bool,.int .i64,.int .i64,.int .i64],.struct [(0,false,1),(1,true,5)]⟩),
 (206,⟨true,[.int .i64,.int .i64,.bool,.int .i64,.int .i64,.int .i64],.struct [(0,false,1),(1,true,5)]⟩),
 (207,⟨true,[.int .i64],.struct [(0,false,1)]⟩),
 (208,⟨true,[.int .i64],.struct [(0,false,1)]⟩),
 (211,⟨true,[.ptr,.ptr,.ptr,.str],.struct [(0,false,1),(1,false,1),(2,false,1),(3,false,1)]⟩),
 (212,⟨true,[.ptr,.ptr,.ptr,.str],.struct [(0,false,1),(1,false,1),(2,false,1),(3,false,1)]⟩),
 (213,⟨true,[],.arr 0 1 false⟩),
 (214,⟨true,[],.other⟩),
 (215,⟨true,[],.other⟩),
 (217,⟨false,[.int .u32],.int .u32⟩),
 (218,⟨false,[.int .u8],.int .u8⟩),
 (220,⟨false,[.ptr],.ptr⟩),
 (221,⟨false,[.int .i32],.int .i32⟩),
 (222,⟨false,[.int .i32],.int .i32⟩),
 (223,⟨true,[.int .u64,.int .u64,.int .u32,.int .u8,.int .u8,.int .u8,.int .u8,.fn,.ptr,.int .i32,.int .i32],.struct [(0,false,1),(1,false,1),(2,false,1),(3,false,1),(4,false,1),(5,false,1),(6,false,1),(7,false,1),(8,false,1),(9,false,1),(10,false,1)]⟩),
 (224,⟨true,[.int .u64,.int .u64,.int .u32,.int .u8,.int .u8,.int .u8,.int .u8,.fn,.ptr,.int .i32,.int .i32],.struct [(0,false,1),(1,false,1),(2,false,1),(3,false,1),(4,false,1),(5,false,1),(6,false,1),(7,false,1),(8,false,1),(9,false,1),(10,false,1)]⟩),
 (228,⟨true,[.str,.int .u8],.struct [(0,false,1),(1,false,1)]⟩),
 (229,⟨true,[.str,.int .u8],.struct [(0,false,1),(1,false,1)]⟩),
 (231,⟨false,[.ptr],.ptr⟩),
 (232,⟨true,[.bool,.int .i64],.struct [(0,false,1),(1,false,1)]⟩),
 (233,⟨true,[.bool,.int .i64],.struct [(0,false,1),(1,false,1)]⟩),
 (235,⟨false,[.int .u16],.int .u16⟩),
 (236,⟨true,[.int .i32,.int .u16,.int .u16,.int .u32,.int .u32],.struct [(0,false,1),(1,false,1),(2,false,1),(3,false,1),(4,false,1)]⟩),
 (237,⟨true,[.int .i32,.int .u16,.int .u16,.int .u32,.int .u32],.struct [(0,false,1),(1,false,1),(2,false,1),(3,false,1),(4,false,1)]⟩),
 (238,⟨false,[.slice],.slice 241 4⟩),
 (239,⟨false,[.int .i32],.int .i32⟩),
 (240,⟨true,[.int .i32,.int .i32,.int .i32,.int .i32],.struct [(0,false,1),(1,false,1),(2,false,1),(3,false,1)]⟩),
 (241,⟨true,[.int .i32,.int .i32,.int .i32,.int .i32],.struct [(0,false,1),(1,false,1),(2,false,1),(3,false,1)]⟩),
 (242,⟨false,[.ptr],.ptr⟩)]++[1,29,30,31,34,35,43,46,47,48,49,51,54,56,57,58,59,60,62,63,64,70,71,75,76,77,78,79,80,81,82,83,84,85,86,87,88,90,91,92,95,96,97,98,99,100,101,102,104,105,107,110,111,113,114,115,116,117,120,121,122,124,126,129,131,132,133,134,135,136,137,138,139,141,142,143,144,145,146,147,149,151,152,153,158,161,163,164,165,168,169,172,176,177,178,181,183,186,193,196,198,201,202,210,216,219,225,226,227,230,234].map (λt=>(t,⟨false,[.fn],.other⟩))++[0,28,50,55,94,106,109,148,150,167,180,209].map λt=>(t,⟨false,[.other],.other⟩)
noncomputable def zs1:List (Nat×List RK):=[
 (69,[.cell .bool]),
 (41,[.cell (.int .i64)]),
 (71,[.cell (.int .i64)]),
 (247,[.cell .bool]),
 (176,[.cell .bool]),
 (99,[.cell .bool]),
 (177,[.cell (.int .i64)]),
 (81,[.cell .bool]),
 (123,[.cell .bool]),
 (178,[.cell .bool]),
 (179,[.cell .bool]),
 (180,[.cell .bool]),
 (181,[.cell .bool]),
 (82,[.cell .bool]),
 (48,[.cell .bool]),
 (201,[.cell (.int .i64)]),
 (202,[.cell (.int .i64)]),
 (112,[.cell (.int .i64)]),
 (230,[.cell (.int .i64)]),
 (159,[.cell (.int .i64)]),
 (182,[.cell .bool]),
 (83,[.cell .bool]),
 (147,[.cell .bool]),
 (223,[.cell .bool]),
 (183,[.cell .bool]),
 (84,[.cell .bool]),
 (146,[.cell .bool]),
 (184,[.cell .bool]),
 (85,[.cell .bool]),
 (19,[.cell .bool]),
 (75,[.cell .bool]),
 (15,[.cell .bool]),
 (217,[.cell (.int .i64)]),
 (229,[.cell (.int .i64)]),
 (207,[.cell (.int .i64)]),
 (241,[.cell (.int .i64),.cell .bool]),
 (110,[.cell (.int .i64)]),
 (200,[.cell (.int .i64)]),
 (111,[.cell (.int .i64)]),
 (70,[.cell (.int .i64)]),
 (129,[.cell (.int .i64)]),
 (120,[.cell (.int .i64)]),
 (98,[.cell .bool]),
 (109,[.cell .bool]),
 (215,[.cell .bool]),
 (216,[.cell (.int .i64)]),
 (143,[.cell (.int .i64)]),
 (218,[.cell (.int .i64)]),
 (145,[.cell (.int .i64)]),
 (221,[.cell .bool]),
 (219,[.cell (.int .i64)]),
 (220,[.cell (.int .i64)]),
 (222,[.cell .bool]),
 (144,[.cell (.int .i64)]),
 (227,[.cell (.int .i64)]),
 (154,[.cell (.int .i64)]),
 (157,[.cell (.int .i64)]),
 (280,[.cell (.int .i64)]),
 (61,[.cell (.int .i64)]),
 (174,[.cell .bool]),
 (186,[.cell .bool]),
 (115,[.cell .bool]),
 (266,[.cell .bool]),
 (267,[.cell (.int .i64)]),
 (187,[.cell .bool]),
 (87,[.cell .bool]),
 (254,[.cell .bool]),
 (206,[.cell .bool]),
 (122,[.cell .bool]),
 (249,[.cell .bool]),
 (188,[.cell .bool]),
 (189,[.cell .bool]),
 (250,[.cell .bool]),
 (190,[.cell .bool]),
 (88,[.cell .bool]),
 (79,[.agg [.ptr,.int .i64]]),
 (204,[.cell (.int .i64)]),
 (203,[.cell (.int .i64)]),
 (117,[.cell (.int .i64)]),
 (107,[.cell (.int .i64)]),
 (205,[.cell .bool]),
 (118,[.cell .bool]),
 (125,[.cell .bool]),
 (133,[.cell .ptr]),
 (191,[.cell .bool]),
 (208,[.agg [.int .i64,.int .i64,.int .i64,.int .i64,.int .i64,.int .i64,.int .i64,.int .i64,.int .i64,.int .i64,.int .i64,.int .i64,.int .i64,.int .i64,.int .i64,.int .i64,.int .i64,.int .i64,.int .i64,.int .i64,.int .i64]]),
 (134,[.cell (.int .i64)]),
 (40,[.cell (.int .i64)]),
 (192,[.cell .bool]),
 (193,[.cell (.int .i64)]),
 (89,[.cell .bool]),
 (235,[.cell .bool]),
 (236,[.cell .bool]),
 (165,[.cell .bool]),
 (194,[.cell .bool]),
 (90,[.cell .bool]),
 (104,[.cell .bool]),
 (168,[.cell .bool]),
 (91,[.cell .bool]),
 (21,[.cell .bool]),
 (64,[.cell .ptr]),
 (126,[.cell (.int .i64)]),
 (127,[.cell (.int .i64)]),
 (128,[.cell (.int .i64)]),
 (234,[.cell (.int .i64)]),
 (185,[.cell .bool]),
 (86,[.cell .bool]),
 (20,[.cell .bool]),
 (27,[.cell (.int .i64)]),
 (101,[.cell .iface]),
 (46,[.cell (.int .i64)]),
 (47,[.cell .bool]),
 (49,[.cell (.int .i64)]),
 (50,[.cell .bool]),
 (78,[.cell .bool]),
 (211,[.cell (.int .i64)]),
 (148,[.cell (.int .i64)]),
 (51,[.cell (.int .i64)]),
 (52,[.cell .bool]),
 (153,[]),
 (196,[.cell .bool]),
 (96,[.cell .bool]),
 (105,[.cell (.int .i64),.cell (.int .i64)]),
 (132,[.cell .bool]),
 (209,[.cell .bool]),
 (210,[.cell (.int .i64)]),
 (140,[.cell (.int .i64)]),
 (212,[.cell (.int .i64)]),
 (213,[.cell (.int .i64)]),
 (214,[.cell .bool]),
 (141,[.cell (.int .i64),.cell .bool]),
 (199,[.cell .bool]),
 (281,[.cell .bool]),
 (278,[.cell (.int .i64)]),
 (258,[.cell (.int .i64)]),
 (274,[.agg [.bool,.bool,.bool,.bool]]),
 (256,[.cell (.int .i64)]),
 (257,[.cell .bool]),
 (308,[.cell .ptr]),
 (310,[.cell .bool]),
 (309,[.cell (.int .i64)]),
 (323,[.cell (.int .i64)]),
 (326,[.cell (.int .i64)])]
noncomputable def zr0:List (Nat×List RK):=[
 (2,[]),
 (56,[.cell .ptr]),
 (175,[.agg [.int .i64,.int .i64,.int .i64,.slice,.slice]]),
 (80,[.agg [.int .i64,.slice,.slice,.slice]]),
 (68,[.agg [.int .i64,.slice,.slice,.slice],.cell (.int .i64)]),
 (72,[.agg [.int .i64,.slice,.slice,.slice]]),
 (169,[.agg [.int .i64,.slice,.slice,.slice]]),
 (261,[.agg [.int .i64,.int .i64,.int .i64,.slice,.slice]]),
 (228,[.agg [.int .i64,.int .i64,.int .i64,.slice,.slice],.cell (.int .i64)]),
 (170,[.agg [.int .i64,.slice,.slice,.slice]]),
 (171,[.agg [.int .i64,.slice,.slice,.slice]]),
 (73,[.agg [.int .i64,.slice,.slice,.slice]]),
 (39,[.agg [.int .i64,.slice,.slice,.slice],.cell (.int .i64),.cell (.int .i64)]),
 (135,[.cell (.int .i64)]),
 (224,[.agg [.bool,.int .i64,.str,.int .i64,.int .i64,.int .i64,.int .i64,.int .i64,.int .i64,.int .i64,.int .i64,.slice,.slice,.slice]]),
 (150,[.agg [.int .i64,.slice,.slice,.slice],.cell (.int .i64),.cell (.int .i64)]),
 (149,[.agg [.int .i64,.slice,.slice,.slice],.cell .bool]),
 (251,[.cell (.int .i64)]),
 (113,[.agg [.int .i64,.slice,.slice,.slice]]),
 (74,[.agg [.int .i64,.slice,.slice,.slice]]),
 (14,[.agg [.int .i64,.slice,.slice,.slice],.cell (.int .i64)]),
 (18,[.agg [.int .i64,.slice,.slice,.slice],.cell (.int .i64)]),
 (97,[.agg [.int .i64,.slice,.slice,.slice],.cell (.int .i64)]),
 (24,[.agg [.int .i64,.slice,.slice,.slice],.cell (.int .i64)]),
 (29,[.agg [.int .i64,.slice,.slice,.slice],.cell (.int .i64)]),
 (31,[.agg [.int .i64,.slice,.slice,.slice],.cell (.int .i64)]),
 (33,[.agg [.int .i64,.slice,.slice,.slice],.cell (.int .i64)]),
 (35,[.agg [.int .i64,.slice,.slice,.slice],.cell (.int .i64)]),
 (37,[.agg [.int .i64,.slice,.slice,.slice],.cell (.int .i64)]),
 (142,[.agg [.int .i64,.slice,.slice,.slice]]),
 (155,[.cell .slice]),
 (45,[.agg [.int .i64,.slice,.slice,.slice],.cell (.int .i64)]),
 (156,[.agg [.int .i64,.slice,.slice,.slice],.cell .bool]),
 (158,[.agg [.int .i64,.slice,.slice,.slice]]),
 (55,[.agg [.int .i64,.slice,.slice,.slice],.cell (.int .i64)]),
 (151,[.agg [.int .i64,.slice,.slice,.slice],.cell (.int .i64)]),
 (268,[.agg [.int .i64,.slice,.slice,.slice],.cell (.int .i64)]),
 (269,[.agg [.int .i64,.slice,.slice,.slice],.cell (.int .i64)]),
 (270,[.agg [.int .i64,.slice,.slice,.slice],.cell (.int .i64)]),
 (231,[.agg [.int .i64,.int .i64,.int .i64,.slice,.slice],.cell .bool]),
 (271,[.agg [.int .i64,.slice,.slice,.slice],.cell (.int .i64)]),
 (272,[.agg [.int .i64,.slice,.slice,.slice],.cell (.int .i64)]),
 (252,[.agg [.int .i64,.slice,.slice,.slice],.cell (.int .i64)]),
 (136,[.cell (.int .i64)]),
 (273,[.cell (.int .i64)]),
 (253,[.agg [.int .i64,.int .i64,.int .i64,.int .i64,.str]]),
 (197,[.agg [.int .i64,.slice,.slice,.slice]]),
 (100,[.agg [.int .i64,.slice,.slice,.slice]]),
 (232,[.agg [.int .i64,.int .i64,.int .i64]]),
 (160,[.agg [.int .i64,.int .i64,.int .i64,.slice,.slice]]),
 (161,[.agg [.int .i64,.slice,.slice,.slice]]),
 (57,[.agg [.int .i64,.slice,.slice,.slice]]),
 (58,[.cell (.int .i64)]),
 (12,[.agg [.int .i64,.slice,.slice,.slice],.cell (.int .i64)]),
 (162,[.cell .fn]),
 (60,[.cell (.int .i64)]),
 (59,[.cell .iface]),
 (248,[.cell .slice,.cell .bool]),
 (242,[.agg [.int .i64,.int .i64,.int .i64,.slice,.slice]]),
 (172,[.agg [.int .i64,.slice,.slice,.slice]]),
 (246,[.cell .bool]),
 (173,[.cell .bool]),
 (76,[.agg [.int .i64,.slice,.slice,.slice],.cell (.int .i64)]),
 (62,[.agg [.int .i64,.slice,.slice,.slice],.cell (.int .i64)]),
 (65,[]),
 (108,[]),
 (119,[.cell (.int .i64)]),
 (66,[]),
 (164,[]),
 (262,[]),
 (237,[.cell (.int .i64)]),
 (238,[.cell (.int .i64)]),
 (239,[.cell (.int .i64)]),
 (240,[.cell (.int .i64)]),
 (166,[.cell (.int .i64)]),
 (167,[]),
 (67,[]),
 (63,[]),
 (13,[.agg [.int .i64,.slice,.slice,.slice],.cell (.int .i64)]),
 (3,[.cell .bool]),
 (16,[.agg [.int .i64,.slice,.slice,.slice],.cell (.int .i64)]),
 (17,[.agg [.int .i64,.slice,.slice,.slice],.cell (.int .i64)]),
 (4,[.cell .bool]),
 (92,[.cell (.int .i64)]),
 (22,[.agg [.int .i64,.slice,.slice,.slice],.cell (.int .i64)]),
 (93,[.agg [.int .i64,.slice,.slice,.slice],.cell (.int .i64)]),
 (23,[.agg [.int .i64,.slice,.slice,.slice],.cell (.int .i64)]),
 (25,[.cell .slice]),
 (5,[.cell .bool]),
 (26,[.agg [.int .i64,.slice,.slice,.slice]]),
 (102,[]),
 (28,[.agg [.int .i64,.slice,.slice,.slice],.cell (.int .i64)]),
 (6,[.cell .bool]),
 (30,[.agg [.int .i64,.slice,.slice,.slice],.cell (.int .i64)]),
 (32,[.agg [.int .i64,.slice,.slice,.slice],.cell (.int .i64)]),
 (34,[.agg [.int .i64,.slice,.slice,.slice],.cell (.int .i64)]),
 (36,[.agg [.int .i64,.slice,.slice,.slice],.cell (.int .i64)]),
 (38,[.agg [.int .i64,.slice,.slice,.slice],.cell (.int .i64),.cell (.int .i64)]),
 (7,[.cell .bool]),
 (42,[.agg [.int .i64,.slice,.slice,.slice],.cell (.int .i64),.cell (.int .i64),.cell (.int .i64)]),
 (43,[.agg [.int .i64,.slice,.slice,.slice],.cell (.int .i64)]),
 (8,[.cell .bool]),
 (44,[.agg [.int .i64,.slice,.slice,.slice],.cell (.int .i64)]),
 (9,[.cell .bool]),
 (53,[.agg [.int .i64,.slice,.slice,.slice]]),
 (152,[.agg [.int .i64,.slice,.slice,.slice],.cell (.int .i64)]),
 (54,[.agg [.int .i64,.slice,.slice,.slice],.cell (.int .i64)]),
 (10,[.cell .bool]),
 (11,[.cell .bool]),
 (77,[.cell .iface]),
 (95,[.cell .slice]),
 (94,[.cell .iface]),
 (198,[.cell (.int .i64),.cell .bool]),
 (106,[.cell (.int .i64)]),
 (103,[.cell .iface]),
 (116,[]),
 (114,[.cell .iface]),
 (121,[.cell .iface]),
 (124,[.cell .iface]),
 (131,[.cell (.int .i64)]),
 (130,[.cell .iface]),
 (137,[.cell .iface]),
 (139,[]),
 (138,[]),
 (163,[.cell .iface]),
 (195,[.cell .iface]),
 (275,[.cell .slice]),
 (276,[.cell .iface]),
 (277,[.cell (.int .i64)]),
 (259,[.cell .bool]),
 (260,[.cell (.int .i64)]),
 (226,[]),
 (225,[.cell .iface]),
 (233,[]),
 (255,[]),
 (279,[]),
 (306,[.agg [.int .i64,.slice,.slice,.slice],.cell (.int .i64)]),
 (305,[.agg [.int .i64,.slice,.slice,.slice],.cell (.int .i64)]),
 (307,[.cell .iface]),
 (332,[])]
noncomputable def zw0:List (Nat×List RK):=[(0,[]),(106,[.cell (.int .i64),.cell .bool])]
def JX(f:Func):Code:=match f.body with
 | some c=>c
 | none=>.skip
theorem ziu{β:Type}:∀{l:List (Nat×β)} {f:Nat} {k:β},znl l f=some k->(f,k)∈l
 | [],f,k,h=>by cases h
 | p::r,f,k,h=>by
  simp only[znl] at h
  cases hb:Nat.beq p.1 f with
  | true=>
   rw[hb] at h;simp only[cond_true,I1] at h;have:p.1=f:=Ic hb;rw[<-this,<-h]; exact Ia
  | false=>
   rw[hb] at h;exact I2 _ (ziu h)
abbrev Cz:=Calls Tryz.prog
abbrev PX (bs:List Nat):=Q3 bs Tryz.prog
theorem z1n:zwv Tryz.prog zpa=true:=Qk
theorem z2p:(zs1.all λp=>Hb Tryz.prog p.1)=true:=Qk
theorem z2b:(zr0.all λp=>Hb Tryz.prog p.1)=true:=Qk
theorem zvm:Tryz.prog.follows .mixedOrders=true:=Qk
theorem z3i:zto Tryz.prog (Uv zpa):=zwu (l:=zpa) z1n
theorem z3q(f:Nat)(ks:List RK)(h:znl zs1 f=some ks):OI Tryz.prog f:=NO (List.all_eq_true.1 z2p (f,ks) (ziu h))
theorem z3m(f:Nat)(ks:List RK)(h:znl zr0 f=some ks):OI Tryz.prog f:=NO (List.all_eq_true.1 z2b (f,ks) (ziu h))
theorem zuq(vis:List Nat)(n:Nat)(pm wr:Bool)(rd:Option Nat):zpk { P:=Tryz.prog,T:=Uv zpa,pf:=zs1,ef:=zr0,tt:=zw0,vis:=vis,n:=n,pm:=pm,wr:=wr,rd:=rd }:=
 ⟨z3i,z3q,z3m,zvm⟩
noncomputable def zpx(vis:List Nat)(n:Nat)(pm wr:Bool):Uw:={ P:=Tryz.prog,T:=Uv zpa,pf:=zs1,ef:=zr0,tt:=zw0,vis:=vis,n:=n,pm:=pm,wr:=wr }
def fits(fn:Func)(n:Nat):Bool:=Nat.ble n fn.ntmps&&Nat.ble fn.ntmps 4000&&fn.body.isSome
theorem BN{fn:Func}{n:Nat}(h:fits fn n=true):n<=fn.ntmps/\fn.ntmps<=4000/\fn.body=some (JX fn):=by
 unfold fits at h;simp only[A'] at h;refine⟨Il h.1.1,Il h.1.2,?_⟩
 cases hb:fn.body with
 | none=>rw[hb] at h; cases h.2
 | some c=>simp[JX,hb]
abbrev X1(V:Wo->(Va->Wo->Prop)->Prop)(f:FuncId)(args:Array Va):Prop:=∀{w:Wo} {bs:List Nat} {ret:Va},(∀wr0,Q0 bs w wr0->V wr0 λv0 _=>v0=ret)->PX bs f args w ret
abbrev J6(V:Wo->(Va->Wo->Prop)->Prop)(f:FuncId)(args:Array Va):Prop:=∀{w:Wo} {R:Va->Wo->Prop},V w R->Cz f args w λe0 wr0=>∃v0,e0=.returned v0/\R v0 wr0
theorem pV(vis:List Nat)(wr:Bool)(sps:List (Nat×Y2)){f:FuncId}{fn:Func}{args:List Va}{V:Wo->(Va->Wo->Prop)->Prop}(hf:Tryz.prog.funcs[f]? = some fn)(hk:fits fn args.length=true)(hV:zur (zpx vis fn.ntmps true wr) sps args (JX fn) fn.results.toList=V):X1 V f args.toArray:=λ{w bs ret} hvc=>
 zot (C:=zpx vis fn.ntmps true wr) (sps:=sps) (zuq _ _ _ _ _) hf (BN hk).2.2 rfl (BN hk).1 (BN hk).2.1 rfl rfl λwr0 tF=>by rw[hV]; exact hvc wr0 tF
theorem eV(vis:List Nat)(wr:Bool)(sps:List (Nat×Y2)){f:FuncId}{fn:Func}{args:List Va}{V:Wo->(Va->Wo->Prop)->Prop}(hf:Tryz.prog.funcs[f]? = some fn)(hk:fits fn args.length=true)(hV:zur (zpx vis fn.ntmps false wr) sps args (JX fn) fn.results.toList=V):J6 V f args.toArray:=λ{w R} hvc=>
 zr1 (C:=zpx vis fn.ntmps false wr) (sps:=sps) (zuq _ _ _ _ _) hf (BN hk).2.2 rfl (BN hk).1 (BN hk).2.1 rfl rfl (by rw[hV]; exact hvc)
end Go.Proofs.YtnclplgaicdapaaGreatDoor
