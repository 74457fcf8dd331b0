/- Part 5 of what the law FnExactCpuBalance needs: the engine, the functions' propositions, the contracts. -/
import Derived.Test.YtajdcjidpolloaaGreatDoorFnExactCpuBalancePd
import Derived.Test.YtajdcjidpolloaaGreatDoorProg
import Derived.KernelRfl
namespace Go.Proofs.YtajdcjidpolloaaGreatDoor
open Go.RowKit
set_option linter.unusedVariables false
set_option maxRecDepth 100000
set_option maxHeartbeats 1600000
def ty_int:TypeId:=3
def zbi:TypeId:=4
def zxp:TypeId:=5
def zfb:TypeId:=9
def ziv:TypeId:=22
def zh3:TypeId:=23
def zes:TypeId:=24
def ty_laws_World:TypeId:=26
def zbv:TypeId:=28
def zbo:TypeId:=29
def zas:TypeId:=30
def zaz:TypeId:=32
def za1:TypeId:=50
def zac4:TypeId:=60
def za5:TypeId:=63
def zaar:TypeId:=67
def zaq:TypeId:=79
def zax:TypeId:=90
def zct:TypeId:=91
def zlz:TypeId:=93
def zbg:TypeId:=94
def za8:TypeId:=96
def za4:TypeId:=102
def zgv:TypeId:=116
def zet:TypeId:=117
def zfl:TypeId:=119
def zil:TypeId:=123
def zgw:TypeId:=125
def z3o:TypeId:=129
def zd7:TypeId:=143
def zrq:TypeId:=163
def zer:TypeId:=169
def zfm:TypeId:=183
def znf:TypeId:=218
def zb8:TypeId:=223
def zvo:TypeId:=225
def zbj:TypeId:=226
def zao:TypeId:=228
def zma:Nat:=23
def zku:Nat:=24
def zmb:Nat:=223
def zks:Nat:=224
def zl9:Nat:=173
def zjb:Nat:=174
def zkt:Nat:=97
def zja:Nat:=25
def zkv:Nat:=8
def zal:Nat:=27
def zjv:Nat:=29
def zeu:Nat:=78
def zhn:Nat:=175
def zmk:Nat:=244
def zmh:Nat:=213
def zis:Nat:=160
def zdp:Nat:=77
def zdb:Nat:=206
def zgh:Nat:=214
def zbm:Nat:=215
def zir:Nat:=216
def zig:Nat:=161
def zc2:Nat:=98
def ze5:Nat:=128
def zmm:Nat:=129
def zhr:Nat:=57
def zbr:Nat:=76
def zc3:Nat:=170
def zhj:Nat:=207
def zhq:Nat:=217
def zji:Nat:=162
def zeo:Nat:=179
def zen:Nat:=176
def zho:Nat:=177
def zih:Nat:=163
def zcd:Nat:=102
def zjh:Nat:=218
def zk2:Nat:=164
def zhk:Nat:=87
def zjt:Nat:=165
def znp:Nat:=88
def zbf:Nat:=166
def zie:Nat:=89
def zje:Nat:=26
def zfi:Nat:=30
def zhm:Nat:=144
def zjs:Nat:=169
def zf7:Nat:=141
def zhp:Nat:=99
def zju:Nat:=219
def zmg:Nat:=168
def zml:Nat:=100
def zk3:Nat:=178
def zjg:Nat:=101
def zgi:Nat:=31
def zmi:Nat:=130
def zmj:Nat:=58
def zno:Nat:=104
def zmd:Nat:=33
def zmf:Nat:=105
def zkz:Nat:=34
def zme:Nat:=225
def zkw:Nat:=226
def zmc:Nat:=180
def zky:Nat:=227
def zjd:Nat:=181
def zkx:Nat:=106
def zjc:Nat:=35
def zc1:Nat:=10
def zew:Nat:=107
def zch:Nat:=38
def zaf:Nat:=134
def zbl:Nat:=232
def zfd:Nat:=82
def zl2:Nat:=255
def zhb:Nat:=256
def znm:Nat:=250
def zl3:Nat:=233
def zdf:Nat:=194
def zfc:Nat:=212
def zf4:Nat:=157
def zge:Nat:=81
def zgd:Nat:=251
def zh6:Nat:=234
def zem:Nat:=235
def zl1:Nat:=252
def zde:Nat:=236
def zc7:Nat:=195
def ze4:Nat:=159
def zg5:Nat:=158
def zea:Nat:=85
def zdd:Nat:=65
def zak:Nat:=67
def zio:Nat:=80
def zag:Nat:=86
def ze1:Nat:=183
def zg4:Nat:=110
def zek:Nat:=205
def zl4:Nat:=237
def zgp:Nat:=253
def zcy:Nat:=239
def zg3:Nat:=204
def ziq:Nat:=238
def zdg:Nat:=196
def zed:Nat:=186
def ze2:Nat:=187
def zcz:Nat:=113
def zel:Nat:=185
def zck:Nat:=197
def zec:Nat:=61
def zb3:Nat:=116
def zdu:Nat:=198
def zkn:Nat:=131
def zi3:Nat:=199
def zfe:Nat:=132
def zop:Nat:=133
def zg7:Nat:=59
def zg8:Nat:=39
def zbq:Nat:=41
def zbs:Nat:=42
def zf3:Nat:=138
def zeb:Nat:=139
def zbz:Nat:=140
def zh5:Nat:=66
def zgm:Nat:=184
def zb5:Nat:=112
def zgc:Nat:=228
def zfs:Nat:=188
def zg1:Nat:=189
def zgl:Nat:=190
def zft:Nat:=191
def zkm:Nat:=114
def zh8:Nat:=115
def zdv:Nat:=44
def znn:Nat:=117
def zl6:Nat:=45
def zl8:Nat:=118
def zkr:Nat:=46
def zl7:Nat:=229
def zko:Nat:=230
def zl5:Nat:=192
def zkq:Nat:=231
def zi5:Nat:=193
def zkp:Nat:=119
def zi4:Nat:=47
def zc0:Nat:=12
def zi8:Nat:=48
def zid:Nat:=49
def zgf:Nat:=120
def zi9:Nat:=121
def zic:Nat:=122
def zhg:Nat:=123
def zhf:Nat:=50
def zfg:Nat:=13
def zi6:Nat:=51
def zib:Nat:=52
def zi7:Nat:=124
def zia:Nat:=125
def zhe:Nat:=126
def zhd:Nat:=53
def zff:Nat:=14
def zd2:Nat:=142
def zif:Nat:=68
def zfh:Nat:=143
def zjf:Nat:=69
def zdx:Nat:=145
def zjj:Nat:=91
def zgg:Nat:=148
def zd3:Nat:=208
def zhl:Nat:=146
def zhi:Nat:=147
def zk0:Nat:=149
def zk1:Nat:=70
def zhh:Nat:=17
def zha:Nat:=71
def ze0:Nat:=18
def zf6:Nat:=5
def zbp:Nat:=135
def zg6:Nat:=62
def zn1:Nat:=136
def zf5:Nat:=150
def zgo:Nat:=73
def zhc:Nat:=152
def zgn:Nat:=151
def zg9:Nat:=74
def zcr:Nat:=153
def zdt:Nat:=154
def zfu:Nat:=155
def zdh:Nat:=156
def zh7:Nat:=75
def zds:Nat:=72
def zev:Nat:=109
def zdw:Nat:=108
def zaw:Nat:=182
def zh9:Nat:=243
def zg2:Nat:=210
def zex:Nat:=209
def zb2:Nat:=211
noncomputable def tbl:List (TypeId×Ty):=[
 (2,⟨false,[.int .i64],.int .i64⟩),
 (3,⟨false,[.int .i64],.int .i64⟩),
 (4,⟨false,[.bool],.bool⟩),
 (5,⟨false,[.int .u8],.int .u8⟩),
 (6,⟨false,[.int .u8],.int .u8⟩),
 (7,⟨true,[.int .i64,.int .i64,.bool,.int .u8],.struct [(0,false,1),(1,false,1),(2,false,1),(3,false,1)]⟩),
 (8,⟨true,[.int .i64,.int .i64,.bool,.int .u8],.struct [(0,false,1),(1,false,1),(2,false,1),(3,false,1)]⟩),
 (9,⟨false,[.str],.str⟩),
 (10,⟨false,[.str],.str⟩),
 (11,⟨false,[.str],.str⟩),
 (12,⟨false,[.int .u64],.int .u64⟩),
 (13,⟨true,[.str,.int .u64],.struct [(0,false,1),(1,false,1)]⟩),
 (14,⟨true,[.str,.int .u64],.struct [(0,false,1),(1,false,1)]⟩),
 (15,⟨false,[.ptr],.ptr⟩),
 (16,⟨false,[.ptr],.ptr⟩),
 (17,⟨false,[.ptr],.ptr⟩),
 (18,⟨true,[.ptr],.struct [(0,false,1)]⟩),
 (19,⟨true,[.ptr],.struct [(0,false,1)]⟩),
 (20,⟨false,[.iface],.other⟩),
 (21,⟨false,[.int .i32],.int .i32⟩),
 (22,⟨false,[.slice],.slice 123 5⟩),
 (23,⟨false,[.slice],.slice 125 9⟩),
 (24,⟨false,[.slice],.slice 119 14⟩),
 (25,⟨true,[.int .i64,.slice,.slice,.slice],.struct [(0,false,1),(1,false,1),(2,false,1),(3,false,1)]⟩),
 (26,⟨true,[.int .i64,.slice,.slice,.slice],.struct [(0,false,1),(1,false,1),(2,false,1),(3,false,1)]⟩),
 (28,⟨false,[.slice],.slice 50 5⟩),
 (29,⟨false,[.slice],.slice 79 9⟩),
 (30,⟨false,[.slice],.slice 96 14⟩),
 (31,⟨true,[.int .i64,.slice,.slice,.slice],.struct [(0,false,1),(1,false,1),(2,false,1),(3,false,1)]⟩),
 (32,⟨true,[.int .i64,.slice,.slice,.slice],.struct [(0,false,1),(1,false,1),(2,false,1),(3,false,1)]⟩),
 (49,⟨true,[.bool,.int .i64,.int .i64,.int .i64,.int .i64],.struct [(0,false,1),(1,false,1),(2,false,1),(3,false,1),(4,false,1)]⟩),
 (50,⟨true,[.bool,.int .i64,.int .i64,.int .i64,.int .i64],.struct [(0,false,1),(1,false,1),(2,false,1),(3,false,1),(4,false,1)]⟩),
 (58,⟨false,[.ptr],.ptr⟩),
 (59,⟨false,[.iface],.other⟩),
 (60,⟨false,[.iface],.other⟩),
 (62,⟨true,[.int .i64],.struct [(0,false,1)]⟩),
 (63,⟨true,[.int .i64],.struct [(0,false,1)]⟩),
 (66,⟨true,[.ptr,.int .i64],.struct [(0,false,1),(1,false,1)]⟩),
 (67,⟨true,[.ptr,.int .i64],.struct [(0,false,1),(1,false,1)]⟩),
 (68,⟨false,[.ptr],.ptr⟩),
 (78,⟨true,[.int .i64,.int .i64,.int .i64,.int .i64,.int .i64,.int .i64,.int .i64,.int .i64,.int .i64],.struct [(0,false,1),(1,false,1),(2,false,1),(3,false,1),(4,false,1),(5,false,1),(6,false,1),(7,false,1),(8,false,1)]⟩),
 (79,⟨true,[.int .i64,.int .i64,.int .i64,.int .i64,.int .i64,.int .i64,.int .i64,.int .i64,.int .i64],.struct [(0,false,1),(1,false,1),(2,false,1),(3,false,1),(4,false,1),(5,false,1),(6,false,1),(7,false,1),(8,false,1)]⟩),
 (84,⟨false,[.ptr],.ptr⟩),
 (90,⟨false,[.slice],.slice 3 1⟩),
 (91,⟨false,[.slice],.slice 4 1⟩),
 (92,⟨true,[.int .i64,.int .i64,.int .i64,.slice,.slice],.struct [(0,false,1),(1,false,1),(2,false,1),(3,false,1),(4,false,1)]⟩),
 (93,⟨true,[.int .i64,.int .i64,.int .i64,.slice,.slice],.struct [(0,false,1),(1,false,1),(2,false,1),(3,false,1),(4,false,1)]⟩),
 (94,⟨false,[.slice],.slice 102 5⟩),
 (95,⟨true,[.bool,.int .i64,.str,.int .i64,.int .i64,.int .i64,.int .i64,.int .i64,.int .i64,.int .i64,.int .i64,.slice,.slice,.slice],.struct [(0,false,1),(1,false,1),(2,false,1),(3,false,1),(4,false,1),(5,false,1),(6,false,1),(7,false,1),(8,true,5),(13,false,1)]⟩),
 (96,⟨true,[.bool,.int .i64,.str,.int .i64,.int .i64,.int .i64,.int .i64,.int .i64,.int .i64,.int .i64,.int .i64,.slice,.slice,.slice],.struct [(0,false,1),(1,false,1),(2,false,1),(3,false,1),(4,false,1),(5,false,1),(6,false,1),(7,false,1),(8,true,5),(13,false,1)]⟩),
 (101,⟨true,[.int .i64,.bool,.int .i64,.int .i64,.int .i64],.struct [(0,false,1),(1,false,1),(2,false,1),(3,false,1),(4,false,1)]⟩),
 (102,⟨true,[.int .i64,.bool,.int .i64,.int .i64,.int .i64],.struct [(0,false,1),(1,false,1),(2,false,1),(3,false,1),(4,false,1)]⟩),
 (106,⟨false,[.ptr],.ptr⟩),
 (116,⟨true,[.int .i64,.int .i64,.int .i64,.slice,.slice],.struct [(0,false,1),(1,false,1),(2,false,1),(3,false,1),(4,false,1)]⟩),
 (117,⟨false,[.slice],.slice 183 5⟩),
 (118,⟨true,[.bool,.int .i64,.str,.int .i64,.int .i64,.int .i64,.int .i64,.int .i64,.int .i64,.int .i64,.int .i64,.slice,.slice,.slice],.struct [(0,false,1),(1,false,1),(2,false,1),(3,false,1),(4,false,1),(5,false,1),(6,false,1),(7,false,1),(8,true,5),(13,false,1)]⟩),
 (119,⟨true,[.bool,.int .i64,.str,.int .i64,.int .i64,.int .i64,.int .i64,.int .i64,.int .i64,.int .i64,.int .i64,.slice,.slice,.slice],.struct [(0,false,1),(1,false,1),(2,false,1),(3,false,1),(4,false,1),(5,false,1),(6,false,1),(7,false,1),(8,true,5),(13,false,1)]⟩),
 (121,⟨false,[.int .u64],.int .u64⟩),
 (123,⟨true,[.bool,.int .i64,.int .i64,.int .i64,.int .i64],.struct [(0,false,1),(1,false,1),(2,false,1),(3,false,1),(4,false,1)]⟩),
 (125,⟨true,[.int .i64,.int .i64,.int .i64,.int .i64,.int .i64,.int .i64,.int .i64,.int .i64,.int .i64],.struct [(0,false,1),(1,false,1),(2,false,1),(3,false,1),(4,false,1),(5,false,1),(6,false,1),(7,false,1),(8,false,1)]⟩),
 (129,⟨false,[.int .i64],.int .i64⟩),
 (131,⟨false,[.ptr],.ptr⟩),
 (133,⟨true,[.int .i64,.int .i64,.int .i64],.struct [(0,false,1),(1,false,1),(2,false,1)]⟩),
 (134,⟨true,[.int .i64,.int .i64,.int .i64],.struct [(0,false,1),(1,false,1),(2,false,1)]⟩),
 (143,⟨false,[.ptr],.ptr⟩),
 (163,⟨false,[.slice],.slice 5 1⟩),
 (165,⟨true,[.fn,.fn,.fn,.fn,.fn],.arr 5 1 false⟩),
 (166,⟨false,[.ptr],.other⟩),
 (167,⟨false,[.int .u64],.int .u64⟩),
 (168,⟨true,[.ptr,.ptr,.int .u64],.struct [(0,false,1),(1,false,1),(2,false,1)]⟩),
 (169,⟨true,[.ptr,.ptr,.int .u64],.struct [(0,false,1),(1,false,1),(2,false,1)]⟩),
 (171,⟨false,[.iface],.other⟩),
 (172,⟨false,[.iface],.other⟩),
 (174,⟨false,[.int .u8],.int .u8⟩),
 (183,⟨true,[.int .i64,.bool,.int .i64,.int .i64,.int .i64],.struct [(0,false,1),(1,false,1),(2,false,1),(3,false,1),(4,false,1)]⟩),
 (188,⟨true,[.ptr],.struct [(0,false,1)]⟩),
 (189,⟨true,[.ptr],.struct [(0,false,1)]⟩),
 (190,⟨false,[.ptr],.ptr⟩),
 (194,⟨false,[.iface],.other⟩),
 (197,⟨false,[.iface],.other⟩),
 (199,⟨false,[.iface],.other⟩),
 (200,⟨false,[.slice],.slice 60 1⟩),
 (202,⟨true,[.bool,.bool,.bool,.bool],.arr 4 1 false⟩),
 (203,⟨true,[.bool,.bool,.bool,.bool],.arr 4 1 false⟩),
 (205,⟨false,[.slice],.slice 208 1⟩),
 (207,⟨false,[.iface],.other⟩),
 (208,⟨false,[.iface],.other⟩),
 (211,⟨true,[.int .i64,.int .i64,.int .i64,.int .i64,.int .i64,.int .i64,.int .i64,.int .i64,.int .i64,.int .i64],.struct [(0,false,1),(1,true,9)]⟩),
 (212,⟨true,[.int .i64,.int .i64,.int .i64,.int .i64,.int .i64,.int .i64,.int .i64,.int .i64,.int .i64,.int .i64],.struct [(0,false,1),(1,true,9)]⟩),
 (213,⟨true,[.int .i64,.int .i64,.bool,.int .i64,.int .i64,.int .i64],.struct [(0,false,1),(1,true,5)]⟩),
 (214,⟨true,[.int .i64,.int .i64,.bool,.int .i64,.int .i64,.int .i64],.struct [(0,false,1),(1,true,5)]⟩),
 (215,⟨true,[.int .i64],.struct [(0,false,1)]⟩),
 (216,⟨true,[.int .i64],.struct [(0,false,1)]⟩),
 (218,⟨false,[.slice],.slice 223 1⟩),
 (221,⟨true,[.int .i64,.int .i64,.int .i64,.int .i64,.int .i64,.int .i64,.int .i64,.int .i64,.int .i64,.int .i64,.int .i64,.int .i64,.int .i64,.int .i64,.int .i64,.int .i64,.int .i64,.int .i64,.int .i64,.int .i64,.int .i64],.arr 21 1 false⟩),
 (223,⟨false,[.ptr],.ptr⟩),
 (224,⟨true,[.int .i64,.str,.ptr],.struct [(0,false,1),(1,false,1),(2,false,1)]⟩),
 (225,⟨true,[.int .i64,.str,.ptr],.struct [(0,false,1),(1,false,1),(2,false,1)]⟩),
 (226,⟨false,[.map],.other⟩),
 (227,⟨true,[.int .i64,.str],.struct [(0,false,1),(1,false,1)]⟩),
 (228,⟨true,[.int .i64,.str],.struct [(0,false,1),(1,false,1)]⟩),
 (230,⟨true,[.ptr,.ptr,.ptr,.str],.struct [(0,false,1),(1,false,1),(2,false,1),(3,false,1)]⟩),
 (231,⟨true,[.ptr,.ptr,.ptr,.str],.struct [(0,false,1),(1,false,1),(2,false,1),(3,false,1)]⟩),
 (232,⟨true,[],.arr 0 1 false⟩),
 (233,⟨true,[],.other⟩),
 (234,⟨true,[],.other⟩),
 (236,⟨false,[.int .u32],.int .u32⟩),
 (237,⟨false,[.int .u8],.int .u8⟩),
 (239,⟨false,[.ptr],.ptr⟩),
 (240,⟨false,[.int .i32],.int .i32⟩),
 (241,⟨false,[.int .i32],.int .i32⟩),
 (242,⟨true,[.int .u64,.int .u64,.int .u32,.int .u8,.int .u8,.int .u8,.int .u8,.fn,.ptr,.int .i32,.int .i32],.struct [(0,false,1),(1,false,1),(2,false,1),(3,false,1),(4,false,1),(5,false,1),(6,false,1),(7,false,1),(8,false,1),(9,false,1),(10,false,1)]⟩),
 (243,⟨true,[.int .u64,.int .u64,.int .u32,.int .u8,.int .u8,.int .u8,.int .u8,.fn,.ptr,.int .i32,.int .i32],.struct [(0,false,1),(1,false,1),(2,false,1),(3,false,1),(4,false,1),(5,false,1),(6,false,1),(7,false,1),(8,false,1),(9,false,1),(10,false,1)]⟩),
 (246,⟨true,[.str,.int .u8],.struct [(0,false,1),(1,false,1)]⟩),
 (247,⟨true,[.str,.int .u8],.struct [(0,false,1),(1,false,1)]⟩),
 (249,⟨false,[.ptr],.ptr⟩),
 (250,⟨true,[.bool,.int .i64],.struct [(0,false,1),(1,false,1)]⟩),
 (251,⟨true,[.bool,.int .i64],.struct [(0,false,1),(1,false,1)]⟩),
 (253,⟨false,[.int .u16],.int .u16⟩),
 (254,⟨true,[.int .i32,.int .u16,.int .u16,.int .u32,.int .u32],.struct [(0,false,1),(1,false,1),(2,false,1),(3,false,1),(4,false,1)]⟩),
 (255,⟨true,[.int .i32,.int .u16,.int .u16,.int .u32,.int .u32],.struct [(0,false,1),(1,false,1),(2,false,1),(3,false,1),(4,false,1)]⟩),
 (256,⟨false,[.slice],.slice 259 4⟩),
 (257,⟨false,[.int .i32],.int .i32⟩),
 (258,⟨true,[.int .i32,.int .i32,.int .i32,.int .i32],.struct [(0,false,1),(1,false,1),(2,false,1),(3,false,1)]⟩),
 (259,⟨true,[.int .i32,.int .i32,.int .i32,.int .i32],.struct [(0,false,1),(1,false,1),(2,false,1),(3,false,1)]⟩),
 (260,⟨false,[.ptr],.ptr⟩)]++[1,27,34,35,36,37,38,40,41,42,43,44,45,46,47,48,51,52,53,54,55,56,57,61,64,65,69,70,71,72,73,74,75,76,77,80,81,82,83,85,87,88,89,97,99,100,103,104,105,107,108,109,111,112,113,114,115,120,122,124,126,127,128,130,132,135,136,137,138,139,140,141,142,144,145,146,147,148,149,150,151,152,154,155,156,157,158,159,160,161,162,164,170,173,175,176,177,178,179,180,181,182,184,185,186,187,191,192,193,196,198,201,204,206,209,210,220,222,229,235,238,244,245,248,252].map (fun t=>(t,⟨false,[.fn],.other⟩))++[0,33,39,86,98,110,153,195,217,219].map fun t=>(t,⟨false,[.other],.other⟩)
noncomputable def pfT:List (Nat×List RK):=[
 (23,[.cell (.int .i64)]),
 (24,[.cell (.int .i64)]),
 (223,[.cell (.int .i64)]),
 (224,[.cell (.int .i64)]),
 (173,[.cell (.int .i64)]),
 (174,[.cell (.int .i64)]),
 (97,[.cell (.int .i64)]),
 (25,[.cell (.int .i64)]),
 (8,[.cell (.int .i64)]),
 (27,[.cell .bool]),
 (29,[.cell (.int .i64)]),
 (78,[.cell .bool]),
 (175,[.cell (.int .i64)]),
 (244,[.cell .bool]),
 (213,[.cell .bool]),
 (160,[.cell .bool]),
 (77,[.cell .bool]),
 (206,[.cell .bool]),
 (214,[.cell .bool]),
 (215,[.cell .bool]),
 (216,[.cell .bool]),
 (161,[.cell .bool]),
 (98,[.cell .bool]),
 (128,[.cell (.int .i64)]),
 (129,[.cell (.int .i64)]),
 (57,[.cell (.int .i64)]),
 (76,[.cell (.int .i64)]),
 (170,[.cell (.int .i64)]),
 (207,[.cell (.int .i64)]),
 (217,[.cell .bool]),
 (162,[.cell .bool]),
 (179,[.cell .bool]),
 (176,[.cell .bool]),
 (177,[.cell .bool]),
 (163,[.cell .bool]),
 (102,[.cell .bool]),
 (218,[.cell .bool]),
 (164,[.cell .bool]),
 (87,[.cell .bool]),
 (166,[.cell .bool]),
 (89,[.cell .bool]),
 (28,[.cell (.int .i64)]),
 (144,[.cell (.int .i64)]),
 (169,[.cell (.int .i64)]),
 (141,[.cell (.int .i64)]),
 (178,[.cell (.int .i64),.cell .bool]),
 (130,[.cell (.int .i64)]),
 (103,[.cell (.int .i64)]),
 (104,[.agg [.bool,.int .i64,.int .i64,.int .i64,.int .i64]]),
 (105,[.agg [.int .i64,.int .i64,.int .i64,.int .i64,.int .i64,.int .i64,.int .i64,.int .i64,.int .i64]]),
 (227,[.agg [.int .i64,.bool,.int .i64,.int .i64,.int .i64]]),
 (38,[.cell (.int .i64)]),
 (134,[.cell .bool]),
 (232,[.cell .bool]),
 (82,[.cell .bool]),
 (255,[.cell .bool]),
 (256,[.cell (.int .i64)]),
 (233,[.cell .bool]),
 (194,[.cell .bool]),
 (212,[.cell .bool]),
 (157,[.cell .bool]),
 (81,[.cell .bool]),
 (251,[.cell .bool]),
 (234,[.cell .bool]),
 (235,[.cell .bool]),
 (252,[.cell .bool]),
 (236,[.cell .bool]),
 (195,[.cell .bool]),
 (159,[.cell (.int .i64)]),
 (158,[.cell (.int .i64)]),
 (85,[.cell (.int .i64)]),
 (65,[.cell (.int .i64)]),
 (67,[.agg [.ptr,.int .i64]]),
 (80,[.cell .bool]),
 (86,[.cell .ptr]),
 (183,[.cell .bool]),
 (110,[.cell .bool]),
 (205,[.cell (.int .i64)]),
 (237,[.cell .bool]),
 (253,[.agg [.int .i64,.int .i64,.int .i64,.int .i64,.int .i64,.int .i64,.int .i64,.int .i64,.int .i64,.int .i64,.int .i64,.int .i64,.int .i64,.int .i64,.int .i64,.int .i64,.int .i64,.int .i64,.int .i64,.int .i64,.int .i64]]),
 (239,[.cell (.int .i64)]),
 (204,[.cell (.int .i64)]),
 (238,[.cell .bool]),
 (196,[.cell .bool]),
 (186,[.cell .bool]),
 (187,[.cell .bool]),
 (113,[.cell .bool]),
 (185,[.cell .bool]),
 (197,[.cell .bool]),
 (61,[.cell .bool]),
 (116,[.cell .bool]),
 (198,[.cell .bool]),
 (131,[.cell .bool]),
 (41,[.cell .ptr]),
 (138,[.cell (.int .i64)]),
 (139,[.cell (.int .i64)]),
 (140,[.cell (.int .i64)]),
 (184,[.cell (.int .i64)]),
 (117,[.cell .bool]),
 (45,[.cell .bool]),
 (118,[.cell .bool]),
 (46,[.cell .bool]),
 (229,[.cell .bool]),
 (230,[.cell .bool]),
 (192,[.cell .bool]),
 (231,[.cell .bool]),
 (193,[.cell .bool]),
 (119,[.cell .bool]),
 (47,[.cell .bool]),
 (12,[.cell .bool]),
 (120,[.cell .str]),
 (51,[.cell (.int .i64)]),
 (52,[.cell (.int .i64)]),
 (124,[.cell (.int .i64)]),
 (125,[.cell (.int .i64)]),
 (126,[.cell (.int .i64)]),
 (53,[.cell (.int .i64)]),
 (14,[.cell (.int .i64)]),
 (54,[.cell .bool]),
 (55,[.cell (.int .i64)]),
 (127,[.cell (.int .i64)]),
 (56,[.cell (.int .i64)]),
 (142,[.cell .bool]),
 (143,[.cell (.int .i64)]),
 (69,[.cell (.int .i64)]),
 (145,[.cell (.int .i64)]),
 (148,[.cell .bool]),
 (208,[.cell (.int .i64)]),
 (146,[.cell (.int .i64)]),
 (147,[.cell (.int .i64)]),
 (149,[.cell .bool]),
 (70,[.cell (.int .i64)]),
 (71,[.cell .iface]),
 (167,[.cell (.int .i64)]),
 (90,[.cell (.int .i64)]),
 (93,[.cell (.int .i64)]),
 (96,[]),
 (135,[.cell .bool]),
 (62,[.cell .bool]),
 (63,[.cell (.int .i64),.cell (.int .i64)]),
 (150,[.cell .bool]),
 (152,[.cell (.int .i64)]),
 (151,[.cell (.int .i64)]),
 (74,[.cell (.int .i64)]),
 (153,[.cell (.int .i64)]),
 (154,[.cell (.int .i64)]),
 (155,[.cell (.int .i64)]),
 (156,[.cell .bool]),
 (75,[.cell (.int .i64),.cell .bool]),
 (84,[.cell .bool]),
 (109,[.cell .bool]),
 (137,[.cell .bool]),
 (254,[.cell .bool]),
 (248,[.cell (.int .i64)]),
 (220,[.cell (.int .i64)]),
 (243,[.agg [.bool,.bool,.bool,.bool]]),
 (210,[.cell (.int .i64)]),
 (211,[.cell .bool]),
 (290,[.cell (.int .i64)]),
 (293,[.cell (.int .i64)])]
noncomputable def efT:List (Nat×List RK):=[
 (2,[]),
 (165,[.agg [.int .i64,.int .i64,.int .i64,.slice,.slice]]),
 (88,[.agg [.int .i64,.slice,.slice,.slice]]),
 (26,[.agg [.int .i64,.slice,.slice,.slice],.cell (.int .i64)]),
 (30,[.agg [.int .i64,.slice,.slice,.slice]]),
 (99,[.agg [.int .i64,.slice,.slice,.slice]]),
 (219,[.agg [.int .i64,.int .i64,.int .i64,.slice,.slice]]),
 (168,[.agg [.int .i64,.int .i64,.int .i64,.slice,.slice],.cell (.int .i64)]),
 (100,[.agg [.int .i64,.slice,.slice,.slice]]),
 (101,[.agg [.int .i64,.slice,.slice,.slice]]),
 (31,[.agg [.int .i64,.slice,.slice,.slice]]),
 (58,[.agg [.int .i64,.slice,.slice,.slice]]),
 (32,[.agg [.int .i64,.slice,.slice,.slice]]),
 (9,[.agg [.int .i64,.slice,.slice,.slice],.cell (.int .i64)]),
 (33,[.cell .slice]),
 (34,[.cell .slice]),
 (225,[.cell .slice]),
 (226,[.cell .slice]),
 (180,[.agg [.int .i64,.int .i64,.int .i64,.slice,.slice]]),
 (181,[.cell .slice]),
 (106,[.agg [.bool,.int .i64,.str,.int .i64,.int .i64,.int .i64,.int .i64,.int .i64,.int .i64,.int .i64,.int .i64,.slice,.slice,.slice]]),
 (35,[.cell .slice]),
 (10,[.agg [.int .i64,.slice,.slice,.slice]]),
 (107,[.cell .fn]),
 (37,[.cell (.int .i64)]),
 (36,[.cell .iface]),
 (250,[.cell .slice,.cell .bool]),
 (199,[.agg [.int .i64,.int .i64,.int .i64,.slice,.slice]]),
 (132,[.agg [.int .i64,.slice,.slice,.slice]]),
 (203,[.cell .bool]),
 (133,[.cell .bool]),
 (59,[.agg [.int .i64,.slice,.slice,.slice],.cell (.int .i64)]),
 (39,[.agg [.int .i64,.slice,.slice,.slice],.cell (.int .i64)]),
 (42,[]),
 (66,[]),
 (111,[.cell (.int .i64)]),
 (43,[]),
 (112,[]),
 (228,[]),
 (188,[.cell (.int .i64)]),
 (189,[.cell (.int .i64)]),
 (190,[.cell (.int .i64)]),
 (191,[.cell (.int .i64)]),
 (114,[.cell (.int .i64)]),
 (115,[]),
 (44,[]),
 (40,[]),
 (11,[.agg [.int .i64,.slice,.slice,.slice],.cell (.int .i64)]),
 (48,[.cell (.int .i64)]),
 (49,[.cell (.int .i64)]),
 (121,[.cell (.int .i64)]),
 (122,[.cell (.int .i64)]),
 (123,[.cell (.int .i64)]),
 (50,[.cell (.int .i64)]),
 (13,[.cell (.int .i64)]),
 (3,[.cell .bool]),
 (15,[.agg [.int .i64,.slice,.slice,.slice],.cell (.int .i64)]),
 (16,[.agg [.int .i64,.slice,.slice,.slice],.cell (.int .i64)]),
 (4,[.cell .bool]),
 (68,[.agg [.int .i64,.slice,.slice,.slice]]),
 (91,[.cell .slice]),
 (17,[.agg [.int .i64,.slice,.slice,.slice],.cell (.int .i64)]),
 (18,[.agg [.int .i64,.slice,.slice,.slice],.cell (.int .i64)]),
 (5,[.cell .bool]),
 (19,[.agg [.int .i64,.slice,.slice,.slice],.cell (.int .i64),.cell (.int .i64)]),
 (20,[.agg [.int .i64,.slice,.slice,.slice],.cell (.int .i64),.cell (.int .i64)]),
 (6,[.cell .bool]),
 (92,[.agg [.int .i64,.slice,.slice,.slice],.cell .bool]),
 (94,[.agg [.int .i64,.slice,.slice,.slice]]),
 (21,[.agg [.int .i64,.slice,.slice,.slice],.cell (.int .i64)]),
 (95,[.agg [.int .i64,.slice,.slice,.slice],.cell (.int .i64)]),
 (22,[.agg [.int .i64,.slice,.slice,.slice],.cell (.int .i64)]),
 (7,[.cell .bool]),
 (136,[.cell (.int .i64),.cell .bool]),
 (64,[.cell (.int .i64)]),
 (60,[.cell .iface]),
 (73,[]),
 (72,[]),
 (83,[.cell (.int .i64)]),
 (79,[.cell .iface]),
 (108,[.cell .iface]),
 (245,[.cell .slice]),
 (246,[.cell .iface]),
 (247,[.cell (.int .i64)]),
 (221,[.cell .bool]),
 (222,[.cell (.int .i64)]),
 (172,[]),
 (171,[.cell .iface]),
 (182,[]),
 (209,[]),
 (249,[]),
 (299,[])]
noncomputable def ttT:List (Nat×List RK):=[(0,[]),(98,[.cell (.int .i64),.cell .bool])]
def zgx (f:Func):Code:=match f.body with
 | some c=>c
 | none=>.skip
theorem zaax {β:Type}:∀{l:List (Nat×β)} {f:Nat} {k:β},asc l f=some k→(f,k)∈l
 | [],f,k,h=>by cases h
 | p::r,f,k,h=>by
  simp only [asc] at h
  cases hb:Nat.beq p.1 f with
  | true =>
   rw [hb] at h
   simp only [cond_true,Option.some.injEq] at h
   have:p.1=f:=Nat.eq_of_beq_eq_true hb
   rw [←this,←h]; exact List.mem_cons_self
  | false =>
   rw [hb] at h
   exact List.mem_cons_of_mem _ (zaax h)
theorem zam5:zaly Tryz.prog tbl=true:=by kernel_rfl
theorem zani:(pfT.all fun p=>zsa Tryz.prog p.1)=true:=by kernel_rfl
theorem zane:(efT.all fun p=>zsa Tryz.prog p.1)=true:=by kernel_rfl
theorem zai9:Tryz.prog.follows .mixedOrders=true:=by kernel_rfl
theorem tok:TOk Tryz.prog (zli tbl):=zakl (l:=tbl) zam5
theorem pok (f:Nat) (ks:List RK) (h:asc pfT f=some ks):zlr Tryz.prog f:=zyx (List.all_eq_true.1 zani (f,ks) (zaax h))
theorem eok (f:Nat) (ks:List RK) (h:asc efT f=some ks):zlr Tryz.prog f:=zyx (List.all_eq_true.1 zane (f,ks) (zaax h))
theorem env (vis:List Nat) (n:Nat) (pm wr:Bool) (rd:Option Nat):Env { P:=Tryz.prog,T:=zli tbl,pf:=pfT,ef:=efT,tt:=ttT,vis:=vis,n:=n,pm:=pm,wr:=wr,rd:=rd } :=
 ⟨tok,pok,eok,zai9⟩
noncomputable def zaid (vis:List Nat) (n:Nat) (pm wr:Bool):Cfg:={ P:=Tryz.prog,T:=zli tbl,pf:=pfT,ef:=efT,tt:=ttT,vis:=vis,n:=n,pm:=pm,wr:=wr }
def fits (fn:Func) (n:Nat):Bool:=Nat.ble n fn.ntmps&&Nat.ble fn.ntmps 4000&&fn.body.isSome
theorem z30 {fn:Func} {n:Nat} (h:fits fn n=true):n≤fn.ntmps∧fn.ntmps≤4000∧fn.body=some (zgx fn):=by
 unfold fits at h
 simp only [Bool.and_eq_true] at h
 refine ⟨Nat.le_of_ble_eq_true h.1.1,Nat.le_of_ble_eq_true h.1.2,?_⟩
 cases hb:fn.body with
 | none=>rw [hb] at h; cases h.2
 | some c=>simp [zgx,hb]
abbrev PuV (V:World→(Value→World→Prop)→Prop) (f:FuncId) (args:Array Value):Prop:=∀{w:World} {bs:List Nat} {ret:Value},(∀wr0,ExtX bs w wr0→V wr0 fun v0 _=>v0=ret)→zab bs Tryz.prog f args w ret
abbrev EfV (V:World→(Value→World→Prop)→Prop) (f:FuncId) (args:Array Value):Prop:=∀{w:World} {R:Value→World→Prop},V w R→Calls Tryz.prog f args w fun e0 wr0=>∃v0,e0 = .returned v0∧R v0 wr0
theorem pV (vis:List Nat) (wr:Bool) (sps:List (Nat×zdn)) {f:FuncId} {fn:Func} {args:List Value} {V:World→(Value→World→Prop)→Prop} (hf:Tryz.prog.funcs[f]? = some fn) (hk:fits fn args.length=true) (hV:evFn (zaid vis fn.ntmps true wr) sps args (zgx fn) fn.results.toList=V):PuV V f args.toArray:=fun {w bs ret} hvc =>
 zaed (C:=zaid vis fn.ntmps true wr) (sps:=sps) (env _ _ _ _ _) hf (z30 hk).2.2 rfl (z30 hk).1 (z30 hk).2.1 rfl rfl fun wr0 hx0=>by rw [hV]; exact hvc wr0 hx0
theorem eV (vis:List Nat) (wr:Bool) (sps:List (Nat×zdn)) {f:FuncId} {fn:Func} {args:List Value} {V:World→(Value→World→Prop)→Prop} (hf:Tryz.prog.funcs[f]? = some fn) (hk:fits fn args.length=true) (hV:evFn (zaid vis fn.ntmps false wr) sps args (zgx fn) fn.results.toList=V):EfV V f args.toArray:=fun {w R} hvc =>
 zae6 (C:=zaid vis fn.ntmps false wr) (sps:=sps) (env _ _ _ _ _) hf (z30 hk).2.2 rfl (z30 hk).1 (z30 hk).2.1 rfl rfl (by rw [hV]; exact hvc)
end Go.Proofs.YtajdcjidpolloaaGreatDoor
