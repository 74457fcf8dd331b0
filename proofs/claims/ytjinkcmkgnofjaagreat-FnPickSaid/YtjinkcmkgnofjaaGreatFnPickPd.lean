/- Part 4 of what the law FnPick needs. -/
import Derived.Test.YtjinkcmkgnofjaaGreatFnPickPc
import Derived.Test.YtjinkcmkgnofjaaGreatProg
import Derived.KernelRfl
set_option linter.all false
set_option maxRecDepth 100000
set_option maxHeartbeats 8000000
namespace Go.Proofs.YtjinkcmkgnofjaaGreat
open Go.RowKit
def Qc:TypeId:=3
def YT:TypeId:=4
def TQ:TypeId:=5
def Zx:TypeId:=9
def ty_sl_uint8:TypeId:=22
def Y8:TypeId:=23
def Zn:TypeId:=24
def Z1:TypeId:=25
def Q4:TypeId:=27
def ZE:TypeId:=33
def QR:TypeId:=36
def ZK:TypeId:=37
def YB:TypeId:=40
def YA:TypeId:=42
def Yc:TypeId:=43
def UZ:TypeId:=44
def J3:TypeId:=46
def ZJ:TypeId:=47
def QT:TypeId:=49
def Tx:TypeId:=65
def Zu:TypeId:=75
def Zg:TypeId:=78
def Xf:TypeId:=83
def XG:TypeId:=85
def Pp:TypeId:=120
def Y7:TypeId:=129
def Dt:TypeId:=131
def Zw:TypeId:=132
def QI:TypeId:=134
def Us:Nat:=11
def Q1:Nat:=31
def Qg:Nat:=20
def ZS:Nat:=51
def ZT:Nat:=54
def Z7:Nat:=55
def Uh:Nat:=22
def Zd:Nat:=56
def J8:Nat:=94
def OO:Nat:=95
def Yd:Nat:=57
def OM:Nat:=93
def Vp:Nat:=47
def J9:Nat:=48
def Vr:Nat:=21
def U0:Nat:=49
def Yj:Nat:=50
def ZC:Nat:=52
def Vl:Nat:=53
def Vv:Nat:=23
def ZM:Nat:=67
def J7:Nat:=32
def Uw:Nat:=58
def Te:Nat:=24
def X8:Nat:=92
def XK:Nat:=59
def Ug:Nat:=60
def Vx:Nat:=25
def Yl:Nat:=61
def Td:Nat:=62
def O6:Nat:=26
def ZF:Nat:=7
def Tt:Nat:=107
def Jc:Nat:=133
def Zm:Nat:=163
def Jr:Nat:=136
def QP:Nat:=102
def X6:Nat:=137
def XJ:Nat:=138
def JY:Nat:=103
def Z5:Nat:=105
def Yv:Nat:=97
def Yu:Nat:=98
def JI:Nat:=164
def Uv:Nat:=139
def Tu:Nat:=108
def Y6:Nat:=69
def ON:Nat:=140
def Uu:Nat:=91
def Tc:Nat:=141
def Qn:Nat:=104
def X5:Nat:=65
def Ut:Nat:=106
def Qy:Nat:=66
def T8:Nat:=96
def ZB:Nat:=99
def JJ:Nat:=46
def Vy:Nat:=19
def U1:Nat:=147
def OQ:Nat:=148
def OP:Nat:=149
def Tf:Nat:=150
def T9:Nat:=117
def UO:Nat:=118
def YE:Nat:=151
def Vq:Nat:=119
def Vt:Nat:=153
def Xa:Nat:=152
def T6:Nat:=120
def T3:Nat:=121
def T5:Nat:=122
def Jq:Nat:=155
def Ya:Nat:=154
def O2:Nat:=123
def T4:Nat:=124
def X7:Nat:=156
def Ta:Nat:=157
def Vn:Nat:=125
def Xp:Nat:=165
def Js:Nat:=158
def UN:Nat:=126
def T2:Nat:=127
def QC:Nat:=68
def UM:Nat:=128
def Vm:Nat:=159
def T7:Nat:=129
def Jt:Nat:=166
def Tb:Nat:=160
def Xo:Nat:=167
def YU:Nat:=27
def JZ:Nat:=170
def UP:Nat:=168
def UL:Nat:=169
def O3:Nat:=171
def O4:Nat:=161
def UK:Nat:=130
def Vo:Nat:=162
def OL:Nat:=131
def Pz:Nat:=132
def Ur:Nat:=100
def Yk:Nat:=134
def ZN:Nat:=135
def J0:Nat:=101
def UR:Nat:=64
def Ud:Nat:=30
def Xq:Nat:=70
def UQ:Nat:=33
def O5:Nat:=34
def XZ:Nat:=12
def Vu:Nat:=13
def Jm:Nat:=4
def Qx:Nat:=40
def ZA:Nat:=71
def YD:Nat:=72
def Jp:Nat:=78
def OI:Nat:=142
def UJ:Nat:=143
def Py:Nat:=109
def OJ:Nat:=73
def Xi:Nat:=35
def JW:Nat:=110
def Vh:Nat:=74
def XI:Nat:=75
def Jo:Nat:=144
def JG:Nat:=111
def JX:Nat:=76
def OH:Nat:=112
def Xh:Nat:=77
def YY:Nat:=36
def ZY:Nat:=16
def QU:Nat:=63
def Vj:Nat:=79
def OK:Nat:=80
def UI:Nat:=113
def O0:Nat:=81
def J6:Nat:=146
def UH:Nat:=145
def XH:Nat:=114
def Jl:Nat:=82
def Uc:Nat:=116
def YW:Nat:=87
def TZ:Nat:=115
def Vk:Nat:=83
def JV:Nat:=84
def Xj:Nat:=37
def XF:Nat:=88
def XY:Nat:=89
def Ub:Nat:=85
def T0:Nat:=86
def YN:Nat:=38
def YO:Nat:=28
def XE:Nat:=29
def Xn:Nat:=39
def Uq:Nat:=14
def XX:Nat:=15
def VZ:Nat:=41
def JH:Nat:=42
def Zl:Nat:=43
def JU:Nat:=90
def UG:Nat:=45
def Y9:Nat:=44
def Vi:Nat:=17
def Vg:Nat:=5
def Ms:Nat:=18
def Vs:Nat:=6
def O1:Nat:=8
def Vf:Nat:=9
def T1:Nat:=10
def Ks:Nat:=3
def YP:Nat:=191
def Yt:Nat:=194
noncomputable def zwf:List (TypeId×Ty):=[
 (2,⟨false,[.int .i64],.int .i64⟩),
 (3,⟨false,[.int .i64],.int .i64⟩),
 (4,⟨false,[.bool],.bool⟩),
 (5,⟨false,[.int .u8],.int .u8⟩),
 (6,⟨false,[.int .u8],.int .u8⟩),
 (7,⟨true,[.int .i64,.int .i64,.bool,.int .u8],.struct [(0,false,1),(1,false,1),(2,false,1),(3,false,1)]⟩),
 (8,⟨true,[.int .i64,.int .i64,.bool,.int .u8],.struct [(0,false,1),(1,false,1),(2,false,1),(3,false,1)]⟩),
 (9,⟨false,[.str],.str⟩),
 (10,⟨false,[.str],.str⟩),
 (11,⟨false,[.str],.str⟩),
 (12,⟨false,[.int .u64],.int .u64⟩),
 (13,⟨true,[.str,.int .u64],.struct [(0,false,1),(1,false,1)]⟩),
 (14,⟨true,[.str,.int .u64],.struct [(0,false,1),(1,false,1)]⟩),
 (15,⟨false,[.ptr],.ptr⟩),
 (16,⟨false,[.ptr],.ptr⟩),
 (17,⟨false,[.ptr],.ptr⟩),
 (18,⟨true,[.ptr],.struct [(0,false,1)]⟩),
 (19,⟨true,[.ptr],.struct [(0,false,1)]⟩),
 (20,⟨false,[.iface],.other⟩),
 (21,⟨false,[.int .i32],.int .i32⟩),
 (22,⟨false,[.slice],.slice 5 1⟩),
 (23,⟨false,[.slice],.slice 33 5⟩),
 (24,⟨false,[.slice],.slice 36 9⟩),
 (25,⟨false,[.slice],.slice 49 14⟩),
 (26,⟨true,[.int .i64,.slice,.slice,.slice],.struct [(0,false,1),(1,false,1),(2,false,1),(3,false,1)]⟩),
 (27,⟨true,[.int .i64,.slice,.slice,.slice],.struct [(0,false,1),(1,false,1),(2,false,1),(3,false,1)]⟩),
 (32,⟨true,[.bool,.int .i64,.int .i64,.int .i64,.int .i64],.struct [(0,false,1),(1,false,1),(2,false,1),(3,false,1),(4,false,1)]⟩),
 (33,⟨true,[.bool,.int .i64,.int .i64,.int .i64,.int .i64],.struct [(0,false,1),(1,false,1),(2,false,1),(3,false,1),(4,false,1)]⟩),
 (35,⟨true,[.int .i64,.int .i64,.int .i64,.int .i64,.int .i64,.int .i64,.int .i64,.int .i64,.int .i64],.struct [(0,false,1),(1,false,1),(2,false,1),(3,false,1),(4,false,1),(5,false,1),(6,false,1),(7,false,1),(8,false,1)]⟩),
 (36,⟨true,[.int .i64,.int .i64,.int .i64,.int .i64,.int .i64,.int .i64,.int .i64,.int .i64,.int .i64],.struct [(0,false,1),(1,false,1),(2,false,1),(3,false,1),(4,false,1),(5,false,1),(6,false,1),(7,false,1),(8,false,1)]⟩),
 (37,⟨false,[.slice],.slice 40 2⟩),
 (39,⟨true,[.bool,.int .i64],.struct [(0,false,1),(1,false,1)]⟩),
 (40,⟨true,[.bool,.int .i64],.struct [(0,false,1),(1,false,1)]⟩),
 (41,⟨true,[.int .i64,.bool,.int .i64,.int .i64,.int .i64],.struct [(0,false,1),(1,false,1),(2,false,1),(3,false,1),(4,false,1)]⟩),
 (42,⟨true,[.int .i64,.bool,.int .i64,.int .i64,.int .i64],.struct [(0,false,1),(1,false,1),(2,false,1),(3,false,1),(4,false,1)]⟩),
 (43,⟨false,[.slice],.slice 3 1⟩),
 (44,⟨false,[.slice],.slice 4 1⟩),
 (45,⟨true,[.int .i64,.int .i64,.int .i64,.slice,.slice],.struct [(0,false,1),(1,false,1),(2,false,1),(3,false,1),(4,false,1)]⟩),
 (46,⟨true,[.int .i64,.int .i64,.int .i64,.slice,.slice],.struct [(0,false,1),(1,false,1),(2,false,1),(3,false,1),(4,false,1)]⟩),
 (47,⟨false,[.slice],.slice 42 5⟩),
 (48,⟨true,[.bool,.int .i64,.str,.int .i64,.int .i64,.int .i64,.int .i64,.int .i64,.int .i64,.int .i64,.int .i64,.slice,.slice,.slice],.struct [(0,false,1),(1,false,1),(2,false,1),(3,false,1),(4,false,1),(5,false,1),(6,false,1),(7,false,1),(8,true,5),(13,false,1)]⟩),
 (49,⟨true,[.bool,.int .i64,.str,.int .i64,.int .i64,.int .i64,.int .i64,.int .i64,.int .i64,.int .i64,.int .i64,.slice,.slice,.slice],.struct [(0,false,1),(1,false,1),(2,false,1),(3,false,1),(4,false,1),(5,false,1),(6,false,1),(7,false,1),(8,true,5),(13,false,1)]⟩),
 (51,⟨false,[.ptr],.ptr⟩),
 (56,⟨false,[.ptr],.ptr⟩),
 (57,⟨true,[.ptr,.int .i64],.struct [(0,false,1),(1,false,1)]⟩),
 (58,⟨true,[.ptr,.int .i64],.struct [(0,false,1),(1,false,1)]⟩),
 (64,⟨true,[.slice,.int .i64],.struct [(0,false,1),(1,false,1)]⟩),
 (65,⟨true,[.slice,.int .i64],.struct [(0,false,1),(1,false,1)]⟩),
 (67,⟨false,[.slice],.slice 9 1⟩),
 (72,⟨true,[.fn,.fn,.fn,.fn,.fn],.arr 5 1 false⟩),
 (73,⟨false,[.ptr],.ptr⟩),
 (75,⟨false,[.slice],.slice 78 1⟩),
 (77,⟨false,[.iface],.other⟩),
 (78,⟨false,[.iface],.other⟩),
 (82,⟨true,[.int .i64,.int .i64,.int .i64,.int .i64,.int .i64,.int .i64,.int .i64,.int .i64,.int .i64,.int .i64],.struct [(0,false,1),(1,true,9)]⟩),
 (83,⟨true,[.int .i64,.int .i64,.int .i64,.int .i64,.int .i64,.int .i64,.int .i64,.int .i64,.int .i64,.int .i64],.struct [(0,false,1),(1,true,9)]⟩),
 (84,⟨true,[.int .i64,.int .i64,.bool,.int .i64,.int .i64,.int .i64],.struct [(0,false,1),(1,true,5)]⟩),
 (85,⟨true,[.int .i64,.int .i64,.bool,.int .i64,.int .i64,.int .i64],.struct [(0,false,1),(1,true,5)]⟩),
 (89,⟨false,[.int .u64],.int .u64⟩),
 (93,⟨false,[.ptr],.ptr⟩),
 (103,⟨true,[.int .i64,.int .i64,.int .i64],.struct [(0,false,1),(1,false,1),(2,false,1)]⟩),
 (104,⟨true,[.int .i64,.int .i64,.int .i64],.struct [(0,false,1),(1,false,1),(2,false,1)]⟩),
 (113,⟨true,[.int .i64,.int .i64,.int .i64,.int .i64,.str],.struct [(0,false,1),(1,false,1),(2,false,1),(3,false,1),(4,false,1)]⟩),
 (114,⟨true,[.int .i64,.int .i64,.int .i64,.int .i64,.str],.struct [(0,false,1),(1,false,1),(2,false,1),(3,false,1),(4,false,1)]⟩),
 (120,⟨false,[.slice],.slice 129 1⟩),
 (123,⟨false,[.int .i64],.int .i64⟩),
 (124,⟨true,[.int .i64,.int .i64,.int .i64,.int .i64,.int .i64,.int .i64,.int .i64,.int .i64,.int .i64,.int .i64,.int .i64,.int .i64,.int .i64,.int .i64,.int .i64,.int .i64,.int .i64,.int .i64,.int .i64,.int .i64,.int .i64],.arr 21 1 false⟩),
 (129,⟨false,[.ptr],.ptr⟩),
 (130,⟨true,[.int .i64,.str,.ptr],.struct [(0,false,1),(1,false,1),(2,false,1)]⟩),
 (131,⟨true,[.int .i64,.str,.ptr],.struct [(0,false,1),(1,false,1),(2,false,1)]⟩),
 (132,⟨false,[.map],.other⟩),
 (133,⟨true,[.int .i64,.str],.struct [(0,false,1),(1,false,1)]⟩),
 (134,⟨true,[.int .i64,.str],.struct [(0,false,1),(1,false,1)]⟩),
 (145,⟨true,[.ptr,.ptr,.ptr,.str],.struct [(0,false,1),(1,false,1),(2,false,1),(3,false,1)]⟩),
 (146,⟨true,[.ptr,.ptr,.ptr,.str],.struct [(0,false,1),(1,false,1),(2,false,1),(3,false,1)]⟩),
 (147,⟨true,[],.arr 0 1 false⟩),
 (148,⟨true,[],.other⟩),
 (149,⟨true,[],.other⟩),
 (150,⟨false,[.int .u32],.int .u32⟩),
 (151,⟨false,[.int .u8],.int .u8⟩),
 (152,⟨false,[.int .u8],.int .u8⟩),
 (154,⟨false,[.ptr],.ptr⟩),
 (155,⟨false,[.int .i32],.int .i32⟩),
 (156,⟨false,[.int .i32],.int .i32⟩),
 (157,⟨true,[.int .u64,.int .u64,.int .u32,.int .u8,.int .u8,.int .u8,.int .u8,.fn,.ptr,.int .i32,.int .i32],.struct [(0,false,1),(1,false,1),(2,false,1),(3,false,1),(4,false,1),(5,false,1),(6,false,1),(7,false,1),(8,false,1),(9,false,1),(10,false,1)]⟩),
 (158,⟨true,[.int .u64,.int .u64,.int .u32,.int .u8,.int .u8,.int .u8,.int .u8,.fn,.ptr,.int .i32,.int .i32],.struct [(0,false,1),(1,false,1),(2,false,1),(3,false,1),(4,false,1),(5,false,1),(6,false,1),(7,false,1),(8,false,1),(9,false,1),(10,false,1)]⟩),
 (161,⟨false,[.iface],.other⟩),
 (162,⟨false,[.iface],.other⟩),
 (163,⟨true,[.int .i64],.struct [(0,false,1)]⟩),
 (164,⟨true,[.int .i64],.struct [(0,false,1)]⟩),
 (165,⟨false,[.ptr],.ptr⟩),
 (168,⟨false,[.ptr],.ptr⟩),
 (171,⟨false,[.ptr],.ptr⟩),
 (172,⟨false,[.ptr],.other⟩),
 (173,⟨false,[.int .u64],.int .u64⟩),
 (174,⟨true,[.ptr,.ptr,.int .u64],.struct [(0,false,1),(1,false,1),(2,false,1)]⟩),
 (175,⟨true,[.ptr,.ptr,.int .u64],.struct [(0,false,1),(1,false,1),(2,false,1)]⟩),
 (177,⟨false,[.iface],.other⟩),
 (178,⟨false,[.iface],.other⟩),
 (183,⟨true,[.ptr],.struct [(0,false,1)]⟩),
 (184,⟨true,[.ptr],.struct [(0,false,1)]⟩),
 (185,⟨false,[.ptr],.ptr⟩),
 (189,⟨false,[.iface],.other⟩),
 (192,⟨false,[.iface],.other⟩),
 (194,⟨false,[.iface],.other⟩),
 (195,⟨false,[.slice],.slice 162 1⟩),
 (197,⟨true,[.bool,.int .i64],.struct [(0,false,1),(1,false,1)]⟩),
 (198,⟨true,[.bool,.int .i64],.struct [(0,false,1),(1,false,1)]⟩),
 (202,⟨true,[.str,.int .u8],.struct [(0,false,1),(1,false,1)]⟩),
 (203,⟨true,[.str,.int .u8],.struct [(0,false,1),(1,false,1)]⟩),
 (204,⟨false,[.ptr],.ptr⟩),
 (206,⟨false,[.int .u16],.int .u16⟩),
 (207,⟨true,[.int .i32,.int .u16,.int .u16,.int .u32,.int .u32],.struct [(0,false,1),(1,false,1),(2,false,1),(3,false,1),(4,false,1)]⟩),
 (208,⟨true,[.int .i32,.int .u16,.int .u16,.int .u32,.int .u32],.struct [(0,false,1),(1,false,1),(2,false,1),(3,false,1),(4,false,1)]⟩),
 (209,⟨false,[.slice],.slice 212 4⟩),
 (210,⟨false,[.int .i32],.int .i32⟩),
 (211,⟨true,[.int .i32,.int .i32,.int .i32,.int .i32],.struct [(0,false,1),(1,false,1),(2,false,1),(3,false,1)]⟩),
 (212,⟨true,[.int .i32,.int .i32,.int .i32,.int .i32],.struct [(0,false,1),(1,false,1),(2,false,1),(3,false,1)]⟩)]++[1,29,30,31,34,38,50,52,53,54,55,59,60,61,62,63,66,68,69,70,71,74,76,79,80,81,86,87,88,90,91,92,94,95,97,98,100,102,105,106,107,109,111,112,115,116,117,118,119,122,125,126,127,128,135,136,137,138,139,140,141,142,143,144,153,159,160,166,167,169,170,176,179,180,181,182,186,187,188,191,193,196,199,200,201,205].map (λt=>(t,⟨false,[.fn],.other⟩))++[0,28,96,99,101,108,110,121,190].map λt=>(t,⟨false,[.other],.other⟩)
noncomputable def zwo:List (Nat×List RK):=[
 (20,[.cell .bool]),
 (51,[.cell .bool]),
 (54,[.cell .bool]),
 (55,[.cell (.int .i64)]),
 (22,[.cell (.int .i64)]),
 (56,[.cell .bool]),
 (94,[.cell (.int .i64)]),
 (95,[.cell (.int .i64)]),
 (57,[.cell (.int .i64)]),
 (93,[.cell .bool]),
 (47,[.cell .bool]),
 (48,[.cell (.int .i64)]),
 (21,[.cell .bool]),
 (49,[.cell .bool]),
 (50,[.cell .bool]),
 (52,[.cell .bool]),
 (53,[.cell .bool]),
 (23,[.cell .bool]),
 (67,[.cell (.int .i64)]),
 (32,[.cell (.int .i64)]),
 (58,[.cell .bool]),
 (24,[.cell .bool]),
 (92,[.cell .bool]),
 (59,[.cell .bool]),
 (60,[.cell .bool]),
 (25,[.cell .bool]),
 (61,[.cell .bool]),
 (62,[.cell .bool]),
 (26,[.cell .bool]),
 (7,[.cell .bool]),
 (163,[.cell .bool]),
 (136,[.cell .bool]),
 (137,[.cell (.int .i64)]),
 (138,[.cell (.int .i64)]),
 (103,[.cell (.int .i64)]),
 (97,[.cell (.int .i64)]),
 (98,[.cell (.int .i64)]),
 (164,[.cell (.int .i64)]),
 (91,[.cell (.int .i64),.cell .bool]),
 (46,[.cell (.int .i64)]),
 (19,[.cell (.int .i64)]),
 (149,[.cell (.int .i64)]),
 (151,[.cell .bool]),
 (153,[.cell (.int .i64)]),
 (155,[.cell (.int .i64)]),
 (157,[.cell .bool]),
 (165,[.cell .bool]),
 (159,[.cell (.int .i64)]),
 (166,[.cell (.int .i64)]),
 (160,[.cell (.int .i64)]),
 (167,[.cell (.int .i64)]),
 (27,[.cell (.int .i64)]),
 (170,[.cell .bool]),
 (168,[.cell (.int .i64)]),
 (169,[.cell (.int .i64)]),
 (171,[.cell .bool]),
 (161,[.cell (.int .i64)]),
 (162,[.cell (.int .i64)]),
 (40,[.cell .bool]),
 (71,[.cell .bool]),
 (72,[.cell (.int .i64)]),
 (78,[.cell .bool]),
 (142,[.cell .bool]),
 (143,[.cell (.int .i64)]),
 (73,[.cell .bool]),
 (35,[.cell .bool]),
 (110,[.cell .bool]),
 (74,[.cell .bool]),
 (75,[.cell .bool]),
 (144,[.cell .bool]),
 (111,[.cell .bool]),
 (76,[.cell .bool]),
 (112,[.cell .bool]),
 (77,[.cell .bool]),
 (36,[.cell .bool]),
 (16,[.agg [.ptr,.int .i64]]),
 (63,[.cell .ptr]),
 (79,[.cell .bool]),
 (80,[.cell .bool]),
 (113,[.cell .bool]),
 (81,[.cell .bool]),
 (146,[.cell (.int .i64)]),
 (145,[.cell (.int .i64)]),
 (114,[.cell (.int .i64)]),
 (82,[.cell (.int .i64)]),
 (116,[.agg [.int .i64,.int .i64,.int .i64,.int .i64,.int .i64,.int .i64,.int .i64,.int .i64,.int .i64,.int .i64,.int .i64,.int .i64,.int .i64,.int .i64,.int .i64,.int .i64,.int .i64,.int .i64,.int .i64,.int .i64,.int .i64]]),
 (87,[.cell (.int .i64)]),
 (115,[.cell (.int .i64)]),
 (83,[.cell .bool]),
 (84,[.cell (.int .i64)]),
 (37,[.cell .bool]),
 (88,[.cell .bool]),
 (89,[.cell .bool]),
 (85,[.cell .bool]),
 (86,[.cell .bool]),
 (38,[.cell .bool]),
 (28,[.cell .bool]),
 (29,[.cell .bool]),
 (39,[.cell .bool]),
 (14,[.cell .bool]),
 (15,[.cell .bool]),
 (41,[.cell .ptr]),
 (90,[.cell .bool]),
 (45,[.cell (.int .i64)]),
 (17,[.cell (.int .i64)]),
 (5,[.cell (.int .i64)]),
 (18,[.cell .bool]),
 (6,[.cell (.int .i64)]),
 (8,[.cell (.int .i64)]),
 (191,[.cell (.int .i64)]),
 (194,[.cell (.int .i64)]),
 (208,[.cell .bool]),
 (201,[.cell .bool]),
 (202,[.cell .ptr]),
 (213,[.cell .bool]),
 (204,[.cell (.int .i64)]),
 (222,[.cell (.int .i64)]),
 (223,[.cell (.int .i64)])]
noncomputable def zwn:List (Nat×List RK):=[
 (2,[]),
 (11,[.cell .ptr]),
 (31,[.cell (.int .i64)]),
 (107,[.agg [.int .i64,.int .i64,.int .i64,.slice,.slice]]),
 (133,[.agg [.int .i64,.slice,.slice,.slice]]),
 (102,[.agg [.int .i64,.slice,.slice,.slice],.cell (.int .i64)]),
 (105,[.agg [.int .i64,.slice,.slice,.slice]]),
 (139,[.agg [.int .i64,.slice,.slice,.slice]]),
 (108,[.agg [.int .i64,.int .i64,.int .i64,.slice,.slice]]),
 (69,[.agg [.int .i64,.int .i64,.int .i64,.slice,.slice],.cell (.int .i64)]),
 (140,[.agg [.int .i64,.slice,.slice,.slice]]),
 (141,[.agg [.int .i64,.slice,.slice,.slice]]),
 (104,[.agg [.int .i64,.slice,.slice,.slice]]),
 (65,[.agg [.int .i64,.slice,.slice,.slice],.cell (.int .i64),.cell (.int .i64)]),
 (106,[.agg [.bool,.int .i64,.str,.int .i64,.int .i64,.int .i64,.int .i64,.int .i64,.int .i64,.int .i64,.int .i64,.slice,.slice,.slice]]),
 (66,[.agg [.int .i64,.slice,.slice,.slice],.cell (.int .i64),.cell (.int .i64)]),
 (96,[.agg [.int .i64,.slice,.slice,.slice],.cell .bool]),
 (99,[.cell (.int .i64)]),
 (147,[.cell .slice]),
 (148,[.agg [.int .i64,.slice,.slice,.slice],.cell .bool]),
 (150,[.agg [.int .i64,.slice,.slice,.slice]]),
 (117,[.agg [.int .i64,.slice,.slice,.slice],.cell (.int .i64)]),
 (118,[.agg [.int .i64,.slice,.slice,.slice],.cell (.int .i64)]),
 (119,[.agg [.int .i64,.slice,.slice,.slice],.cell (.int .i64)]),
 (152,[.agg [.int .i64,.slice,.slice,.slice]]),
 (120,[.agg [.int .i64,.slice,.slice,.slice],.cell (.int .i64)]),
 (121,[.agg [.int .i64,.slice,.slice,.slice],.cell (.int .i64)]),
 (122,[.agg [.int .i64,.slice,.slice,.slice],.cell (.int .i64)]),
 (154,[.agg [.int .i64,.slice,.slice,.slice]]),
 (123,[.agg [.int .i64,.slice,.slice,.slice],.cell (.int .i64)]),
 (124,[.agg [.int .i64,.slice,.slice,.slice],.cell (.int .i64)]),
 (156,[.agg [.int .i64,.slice,.slice,.slice],.cell (.int .i64)]),
 (125,[.agg [.int .i64,.slice,.slice,.slice],.cell (.int .i64)]),
 (158,[.agg [.int .i64,.slice,.slice,.slice]]),
 (126,[.agg [.int .i64,.slice,.slice,.slice],.cell (.int .i64)]),
 (127,[.agg [.int .i64,.slice,.slice,.slice],.cell (.int .i64)]),
 (68,[.agg [.int .i64,.int .i64,.int .i64,.slice,.slice],.cell .bool]),
 (128,[.agg [.int .i64,.slice,.slice,.slice],.cell (.int .i64)]),
 (129,[.agg [.int .i64,.slice,.slice,.slice],.cell (.int .i64)]),
 (130,[.agg [.int .i64,.slice,.slice,.slice],.cell (.int .i64)]),
 (131,[.agg [.int .i64,.slice,.slice,.slice],.cell (.int .i64)]),
 (132,[.agg [.int .i64,.slice,.slice,.slice],.cell (.int .i64)]),
 (100,[.agg [.int .i64,.slice,.slice,.slice],.cell (.int .i64)]),
 (134,[.cell (.int .i64)]),
 (135,[.cell (.int .i64)]),
 (101,[.agg [.int .i64,.int .i64,.int .i64,.int .i64,.str]]),
 (64,[.agg [.int .i64,.slice,.slice,.slice]]),
 (30,[.agg [.int .i64,.slice,.slice,.slice]]),
 (70,[.agg [.int .i64,.int .i64,.int .i64]]),
 (33,[.agg [.int .i64,.int .i64,.int .i64,.slice,.slice]]),
 (34,[.agg [.int .i64,.slice,.slice,.slice]]),
 (12,[.agg [.int .i64,.slice,.slice,.slice]]),
 (13,[.cell (.int .i64)]),
 (4,[.agg [.int .i64,.slice,.slice,.slice],.cell (.int .i64)]),
 (109,[.cell .slice,.cell .bool]),
 (42,[.cell .slice]),
 (43,[.cell .iface]),
 (44,[.cell (.int .i64)]),
 (9,[.cell .bool]),
 (10,[.cell .slice]),
 (3,[.cell .bool]),
 (189,[]),
 (216,[.agg [.int .i64,.int .i64,.int .i64,.slice,.slice]]),
 (206,[.agg [.int .i64,.slice,.slice,.slice]]),
 (220,[.cell .bool]),
 (207,[.cell .bool]),
 (199,[.agg [.int .i64,.slice,.slice,.slice],.cell (.int .i64)]),
 (198,[.agg [.int .i64,.slice,.slice,.slice],.cell (.int .i64)]),
 (197,[.agg [.int .i64,.slice,.slice,.slice],.cell (.int .i64)]),
 (221,[]),
 (209,[.cell (.int .i64)]),
 (210,[.cell (.int .i64)]),
 (211,[.cell (.int .i64)]),
 (212,[.cell (.int .i64)]),
 (203,[.cell (.int .i64)]),
 (214,[]),
 (215,[]),
 (205,[]),
 (200,[.cell .iface])]
noncomputable def zw9:List (Nat×List RK):=[(108,[.cell (.int .i64),.cell .bool])]
def zd4(f:Func):Code:=match f.body with
 |some c=>c
 |none=>.skip
def zdw{β:Type}:∀{l:List (Nat×β)} {f:Nat} {k:β},zie l f=some k->(f,k)∈l
 |[],f,k,h=>by cases h
 |p::r,f,k,h=>by
  simp only[zie] at h
  cases hb:Nat.beq p.1 f with
  |true=>
   rw[hb] at h;simp only[cond_true,I2] at h;have:p.1=f:=Ie hb;rw[<-this,<-h];exact Ib
  |false=>
   rw[hb] at h;exact I3 _ (zdw h)
abbrev Cz:=Calls Tryz.prog
abbrev PX (bs:List Nat):=Q3 bs Tryz.prog
def zvb:zqw Tryz.prog zwf:=Qk
def zwa:(zwo.all λp=>L6 Tryz.prog p.1)=true:=Qk
def zvw:(zwn.all λp=>L6 Tryz.prog p.1)=true:=Qk
def zpo:Tryz.prog.follows .mixedOrders:=Qk
def zxi:zno Tryz.prog (H3 zwf):=zqt (l:=zwf) zvb
def zxf(f:Nat)(ks:List RK)(h:zie zwo f=some ks):TB Tryz.prog f:=Fe (List.all_eq_true.1 zwa (f,ks) (zdw h))
def zxd(f:Nat)(ks:List RK)(h:zie zwn f=some ks):TB Tryz.prog f:=Fe (List.all_eq_true.1 zvw (f,ks) (zdw h))
def zw4(vis:List Nat)(n:Nat)(pm wr:Bool)(rd:Option Nat):zns { P:=Tryz.prog,T:=H3 zwf,pf:=zwo,ef:=zwn,tt:=zw9,vis:=vis,n:=n,pm:=pm,wr:=wr,rd:=rd }:=
 ⟨zxi,zxf,zxd,zpo⟩
noncomputable def zkd(vis:List Nat)(n:Nat)(pm wr:Bool):VR:={ P:=Tryz.prog,T:=H3 zwf,pf:=zwo,ef:=zwn,tt:=zw9,vis:=vis,n:=n,pm:=pm,wr:=wr }
def fits(fn:Func)(n:Nat):Bool:=Nat.ble n fn.ntmps&&Nat.ble fn.ntmps 4000&&fn.body.isSome
def Ee{fn:Func}{n:Nat}(h:fits fn n):n<=fn.ntmps/\fn.ntmps<=4000/\fn.body=some (zd4 fn):=by
 unfold fits at h;simp only[A'] at h;refine⟨Im h.1.1,Im h.1.2,?_⟩
 cases hb:fn.body with
 |none=>rw[hb] at h;cases h.2
 |some c=>simp[zd4,hb]
abbrev YL(V:Wo->(Va->Wo->Prop)->Prop)(f:FuncId)(args:Array Va):Prop:=∀{w:Wo} {bs:List Nat} {ret:Va},(∀wr0,Q0 bs w wr0->V wr0 λv0 _=>v0=ret)->PX bs f args w ret
abbrev U8(V:Wo->(Va->Wo->Prop)->Prop)(f:FuncId)(args:Array Va):Prop:=∀{w:Wo} {R:Va->Wo->Prop},V w R->Cz f args w λe0 wr0=>∃v0,e0=.returned v0/\R v0 wr0
def pV(vis:List Nat)(wr:Bool)(sps:List (Nat×X9)){f:FuncId}{fn:Func}{args:List Va}{V:Wo->(Va->Wo->Prop)->Prop}(hf:Tryz.prog.funcs[f]? = some fn)(hk:fits fn args.length)(hV:zon (zkd vis fn.ntmps true wr) sps args (zd4 fn) fn.results.toList=V):YL V f args.toArray:=λ{w bs ret} hvc=>
 zjg (C:=zkd vis fn.ntmps true wr) (sps:=sps) (zw4 _ _ _ _ _) hf (Ee hk).2.2 rfl (Ee hk).1 (Ee hk).2.1 rfl rfl λwr0 tJ=>by rw[hV];exact hvc wr0 tJ
def eV(vis:List Nat)(wr:Bool)(sps:List (Nat×X9)){f:FuncId}{fn:Func}{args:List Va}{V:Wo->(Va->Wo->Prop)->Prop}(hf:Tryz.prog.funcs[f]? = some fn)(hk:fits fn args.length)(hV:zon (zkd vis fn.ntmps false wr) sps args (zd4 fn) fn.results.toList=V):U8 V f args.toArray:=λ{w R} hvc=>
 zl4 (C:=zkd vis fn.ntmps false wr) (sps:=sps) (zw4 _ _ _ _ _) hf (Ee hk).2.2 rfl (Ee hk).1 (Ee hk).2.1 rfl rfl (by rw[hV];exact hvc)
end Go.Proofs.YtjinkcmkgnofjaaGreat
