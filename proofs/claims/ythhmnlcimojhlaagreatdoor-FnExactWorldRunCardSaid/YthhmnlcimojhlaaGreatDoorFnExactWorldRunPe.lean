/- Part 5 of what the law FnExactWorldRun needs: the engine, the functions' propositions, the contracts. -/
import Derived.Test.YthhmnlcimojhlaaGreatDoorFnExactWorldRunPd
import Derived.Test.YthhmnlcimojhlaaGreatDoorProg
import Derived.KernelRfl
namespace Go.Proofs.YthhmnlcimojhlaaGreatDoor
open Go.RowKit
set_option linter.unusedVariables false
set_option maxRecDepth 100000
set_option maxHeartbeats 1600000
def ty_int:TypeId:=3
def za2:TypeId:=4
def zu4:TypeId:=5
def zfa:TypeId:=9
def zh9:TypeId:=22
def zhh:TypeId:=23
def zei:TypeId:=24
def ty_laws_World:TypeId:=26
def zb0:TypeId:=28
def zbt:TypeId:=29
def zar:TypeId:=30
def zak:TypeId:=32
def zb5:TypeId:=49
def zcu:TypeId:=50
def zkx:TypeId:=52
def zbk:TypeId:=53
def zbg:TypeId:=55
def zbs:TypeId:=67
def zil:TypeId:=69
def zap:TypeId:=82
def za1:TypeId:=86
def za4:TypeId:=95
def zgg:TypeId:=118
def zej:TypeId:=119
def zfl:TypeId:=121
def zh1:TypeId:=124
def zgh:TypeId:=126
def zd0:TypeId:=142
def zqc:TypeId:=165
def zeh:TypeId:=171
def zfm:TypeId:=185
def zbn:TypeId:=204
def za8:TypeId:=207
def zdt:TypeId:=211
def zd9:TypeId:=213
def zl9:TypeId:=222
def zcb:TypeId:=225
def ztk:TypeId:=227
def zbm:TypeId:=228
def zam:TypeId:=230
def zk8:Nat:=35
def zjv:Nat:=36
def zk9:Nat:=243
def zjt:Nat:=244
def zk7:Nat:=194
def zix:Nat:=195
def zju:Nat:=117
def ziw:Nat:=37
def zjw:Nat:=12
def zan:Nat:=71
def zjc:Nat:=91
def zh5:Nat:=77
def zg2:Nat:=197
def zlh:Nat:=262
def zlf:Nat:=229
def zlg:Nat:=168
def zdd:Nat:=39
def zdu:Nat:=62
def zf6:Nat:=230
def zbr:Nat:=231
def zh4:Nat:=232
def zhu:Nat:=169
def zdc:Nat:=76
def ze3:Nat:=147
def ze2:Nat:=158
def zlj:Nat:=159
def zj2:Nat:=79
def zbw:Nat:=178
def zgz:Nat:=196
def zg6:Nat:=233
def zi3:Nat:=170
def zde:Nat:=201
def zec:Nat:=198
def zjb:Nat:=199
def zhv:Nat:=171
def zed:Nat:=123
def zi2:Nat:=234
def zj1:Nat:=172
def zg0:Nat:=102
def zi9:Nat:=173
def zmm:Nat:=103
def zbj:Nat:=174
def zht:Nat:=104
def zg3:Nat:=80
def zg1:Nat:=177
def zml:Nat:=182
def zle:Nat:=118
def zg5:Nat:=120
def zja:Nat:=235
def zek:Nat:=176
def zli:Nat:=121
def zg4:Nat:=200
def zi1:Nat:=122
def zee:Nat:=41
def zmk:Nat:=124
def zlb:Nat:=42
def zld:Nat:=125
def zj0:Nat:=43
def zlc:Nat:=245
def zjx:Nat:=246
def zla:Nat:=202
def zjz:Nat:=247
def ziz:Nat:=203
def zjy:Nat:=126
def ziy:Nat:=44
def zc0:Nat:=14
def zcm:Nat:=94
def zaf:Nat:=128
def zbq:Nat:=253
def zfe:Nat:=83
def zk0:Nat:=274
def zgt:Nat:=275
def zmi:Nat:=270
def zk1:Nat:=254
def zdj:Nat:=215
def zeb:Nat:=46
def zfd:Nat:=225
def zfw:Nat:=152
def zf4:Nat:=67
def zf2:Nat:=271
def zhm:Nat:=255
def zky:Nat:=272
def zdi:Nat:=256
def zc3:Nat:=216
def zbe:Nat:=49
def zh2:Nat:=82
def zah:Nat:=88
def ze0:Nat:=164
def zgo:Nat:=163
def zd2:Nat:=87
def ze1:Nat:=100
def zgr:Nat:=226
def zjn:Nat:=153
def zea:Nat:=228
def zk2:Nat:=257
def zgb:Nat:=269
def zbv:Nat:=248
def zgn:Nat:=204
def zh3:Nat:=258
def zdk:Nat:=217
def zcy:Nat:=207
def zdl:Nat:=208
def zcx:Nat:=133
def zf3:Nat:=206
def zcr:Nat:=218
def zd3:Nat:=68
def zd4:Nat:=136
def zdw:Nat:=219
def zjo:Nat:=149
def zim:Nat:=220
def zff:Nat:=150
def znq:Nat:=151
def zgq:Nat:=65
def zmj:Nat:=137
def zk4:Nat:=52
def zk6:Nat:=138
def zjs:Nat:=53
def zk5:Nat:=250
def zjp:Nat:=251
def zk3:Nat:=213
def zjr:Nat:=252
def zir:Nat:=214
def zjq:Nat:=139
def ziq:Nat:=54
def zcz:Nat:=16
def ziu:Nat:=55
def zhs:Nat:=56
def zf5:Nat:=140
def ziv:Nat:=141
def zhr:Nat:=142
def zgy:Nat:=143
def zgx:Nat:=57
def zfh:Nat:=17
def zis:Nat:=58
def zhq:Nat:=59
def zit:Nat:=144
def zhp:Nat:=145
def zgw:Nat:=146
def zgv:Nat:=60
def zfg:Nat:=18
def zbi:Nat:=75
def zbx:Nat:=89
def zkz:Nat:=130
def zga:Nat:=205
def zb9:Nat:=132
def zf0:Nat:=249
def zfp:Nat:=209
def zgm:Nat:=210
def zf9:Nat:=211
def zfq:Nat:=212
def zez:Nat:=134
def zho:Nat:=135
def za9:Nat:=51
def zfx:Nat:=175
def zll:Nat:=105
def zi5:Nat:=106
def zlm:Nat:=107
def zlk:Nat:=108
def zi4:Nat:=109
def zi0:Nat:=31
def zio:Nat:=110
def zdh:Nat:=111
def zf1:Nat:=32
def zgu:Nat:=10
def zbu:Nat:=129
def zgp:Nat:=48
def zel:Nat:=156
def zfr:Nat:=263
def zbd:Nat:=264
def zfz:Nat:=273
def zgl:Nat:=266
def zb7:Nat:=265
def zhn:Nat:=236
def zgs:Nat:=237
def zeq:Nat:=238
def zin:Nat:=180
def zer:Nat:=179
def zcn:Nat:=267
def zcs:Nat:=309
def zci:Nat:=312
noncomputable def tbl:List (TypeId×Ty):=[
 (2,⟨false,[.int .i64],.int .i64⟩),
 (3,⟨false,[.int .i64],.int .i64⟩),
 (4,⟨false,[.bool],.bool⟩),
 (5,⟨false,[.int .u8],.int .u8⟩),
 (6,⟨false,[.int .u8],.int .u8⟩),
 (7,⟨true,[.int .i64,.int .i64,.bool,.int .u8],.struct [(0,false,1),(1,false,1),(2,false,1),(3,false,1)]⟩),
 (8,⟨true,[.int .i64,.int .i64,.bool,.int .u8],.struct [(0,false,1),(1,false,1),(2,false,1),(3,false,1)]⟩),
 (9,⟨false,[.str],.str⟩),
 (10,⟨false,[.str],.str⟩),
 (11,⟨false,[.str],.str⟩),
 (12,⟨false,[.int .u64],.int .u64⟩),
 (13,⟨true,[.str,.int .u64],.struct [(0,false,1),(1,false,1)]⟩),
 (14,⟨true,[.str,.int .u64],.struct [(0,false,1),(1,false,1)]⟩),
 (15,⟨false,[.ptr],.ptr⟩),
 (16,⟨false,[.ptr],.ptr⟩),
 (17,⟨false,[.ptr],.ptr⟩),
 (18,⟨true,[.ptr],.struct [(0,false,1)]⟩),
 (19,⟨true,[.ptr],.struct [(0,false,1)]⟩),
 (20,⟨false,[.iface],.other⟩),
 (21,⟨false,[.int .i32],.int .i32⟩),
 (22,⟨false,[.slice],.slice 124 5⟩),
 (23,⟨false,[.slice],.slice 126 9⟩),
 (24,⟨false,[.slice],.slice 121 14⟩),
 (25,⟨true,[.int .i64,.slice,.slice,.slice],.struct [(0,false,1),(1,false,1),(2,false,1),(3,false,1)]⟩),
 (26,⟨true,[.int .i64,.slice,.slice,.slice],.struct [(0,false,1),(1,false,1),(2,false,1),(3,false,1)]⟩),
 (28,⟨false,[.slice],.slice 86 5⟩),
 (29,⟨false,[.slice],.slice 82 9⟩),
 (30,⟨false,[.slice],.slice 55 14⟩),
 (31,⟨true,[.int .i64,.slice,.slice,.slice],.struct [(0,false,1),(1,false,1),(2,false,1),(3,false,1)]⟩),
 (32,⟨true,[.int .i64,.slice,.slice,.slice],.struct [(0,false,1),(1,false,1),(2,false,1),(3,false,1)]⟩),
 (49,⟨false,[.slice],.slice 3 1⟩),
 (50,⟨false,[.slice],.slice 4 1⟩),
 (51,⟨true,[.int .i64,.int .i64,.int .i64,.slice,.slice],.struct [(0,false,1),(1,false,1),(2,false,1),(3,false,1),(4,false,1)]⟩),
 (52,⟨true,[.int .i64,.int .i64,.int .i64,.slice,.slice],.struct [(0,false,1),(1,false,1),(2,false,1),(3,false,1),(4,false,1)]⟩),
 (53,⟨false,[.slice],.slice 95 5⟩),
 (54,⟨true,[.bool,.int .i64,.str,.int .i64,.int .i64,.int .i64,.int .i64,.int .i64,.int .i64,.int .i64,.int .i64,.slice,.slice,.slice],.struct [(0,false,1),(1,false,1),(2,false,1),(3,false,1),(4,false,1),(5,false,1),(6,false,1),(7,false,1),(8,true,5),(13,false,1)]⟩),
 (55,⟨true,[.bool,.int .i64,.str,.int .i64,.int .i64,.int .i64,.int .i64,.int .i64,.int .i64,.int .i64,.int .i64,.slice,.slice,.slice],.struct [(0,false,1),(1,false,1),(2,false,1),(3,false,1),(4,false,1),(5,false,1),(6,false,1),(7,false,1),(8,true,5),(13,false,1)]⟩),
 (62,⟨false,[.ptr],.ptr⟩),
 (63,⟨false,[.iface],.other⟩),
 (64,⟨false,[.iface],.other⟩),
 (66,⟨true,[.int .i64],.struct [(0,false,1)]⟩),
 (67,⟨true,[.int .i64],.struct [(0,false,1)]⟩),
 (68,⟨true,[.ptr,.int .i64],.struct [(0,false,1),(1,false,1)]⟩),
 (69,⟨true,[.ptr,.int .i64],.struct [(0,false,1),(1,false,1)]⟩),
 (81,⟨true,[.int .i64,.int .i64,.int .i64,.int .i64,.int .i64,.int .i64,.int .i64,.int .i64,.int .i64],.struct [(0,false,1),(1,false,1),(2,false,1),(3,false,1),(4,false,1),(5,false,1),(6,false,1),(7,false,1),(8,false,1)]⟩),
 (82,⟨true,[.int .i64,.int .i64,.int .i64,.int .i64,.int .i64,.int .i64,.int .i64,.int .i64,.int .i64],.struct [(0,false,1),(1,false,1),(2,false,1),(3,false,1),(4,false,1),(5,false,1),(6,false,1),(7,false,1),(8,false,1)]⟩),
 (85,⟨true,[.bool,.int .i64,.int .i64,.int .i64,.int .i64],.struct [(0,false,1),(1,false,1),(2,false,1),(3,false,1),(4,false,1)]⟩),
 (86,⟨true,[.bool,.int .i64,.int .i64,.int .i64,.int .i64],.struct [(0,false,1),(1,false,1),(2,false,1),(3,false,1),(4,false,1)]⟩),
 (88,⟨false,[.ptr],.ptr⟩),
 (94,⟨true,[.int .i64,.bool,.int .i64,.int .i64,.int .i64],.struct [(0,false,1),(1,false,1),(2,false,1),(3,false,1),(4,false,1)]⟩),
 (95,⟨true,[.int .i64,.bool,.int .i64,.int .i64,.int .i64],.struct [(0,false,1),(1,false,1),(2,false,1),(3,false,1),(4,false,1)]⟩),
 (100,⟨false,[.ptr],.ptr⟩),
 (104,⟨false,[.ptr],.ptr⟩),
 (118,⟨true,[.int .i64,.int .i64,.int .i64,.slice,.slice],.struct [(0,false,1),(1,false,1),(2,false,1),(3,false,1),(4,false,1)]⟩),
 (119,⟨false,[.slice],.slice 185 5⟩),
 (120,⟨true,[.bool,.int .i64,.str,.int .i64,.int .i64,.int .i64,.int .i64,.int .i64,.int .i64,.int .i64,.int .i64,.slice,.slice,.slice],.struct [(0,false,1),(1,false,1),(2,false,1),(3,false,1),(4,false,1),(5,false,1),(6,false,1),(7,false,1),(8,true,5),(13,false,1)]⟩),
 (121,⟨true,[.bool,.int .i64,.str,.int .i64,.int .i64,.int .i64,.int .i64,.int .i64,.int .i64,.int .i64,.int .i64,.slice,.slice,.slice],.struct [(0,false,1),(1,false,1),(2,false,1),(3,false,1),(4,false,1),(5,false,1),(6,false,1),(7,false,1),(8,true,5),(13,false,1)]⟩),
 (124,⟨true,[.bool,.int .i64,.int .i64,.int .i64,.int .i64],.struct [(0,false,1),(1,false,1),(2,false,1),(3,false,1),(4,false,1)]⟩),
 (126,⟨true,[.int .i64,.int .i64,.int .i64,.int .i64,.int .i64,.int .i64,.int .i64,.int .i64,.int .i64],.struct [(0,false,1),(1,false,1),(2,false,1),(3,false,1),(4,false,1),(5,false,1),(6,false,1),(7,false,1),(8,false,1)]⟩),
 (129,⟨false,[.ptr],.ptr⟩),
 (131,⟨true,[.int .i64,.int .i64,.int .i64],.struct [(0,false,1),(1,false,1),(2,false,1)]⟩),
 (132,⟨true,[.int .i64,.int .i64,.int .i64],.struct [(0,false,1),(1,false,1),(2,false,1)]⟩),
 (142,⟨false,[.ptr],.ptr⟩),
 (146,⟨false,[.int .i64],.int .i64⟩),
 (148,⟨false,[.int .u64],.int .u64⟩),
 (165,⟨false,[.slice],.slice 5 1⟩),
 (167,⟨true,[.fn,.fn,.fn,.fn,.fn],.arr 5 1 false⟩),
 (168,⟨false,[.ptr],.other⟩),
 (169,⟨false,[.int .u64],.int .u64⟩),
 (170,⟨true,[.ptr,.ptr,.int .u64],.struct [(0,false,1),(1,false,1),(2,false,1)]⟩),
 (171,⟨true,[.ptr,.ptr,.int .u64],.struct [(0,false,1),(1,false,1),(2,false,1)]⟩),
 (173,⟨false,[.iface],.other⟩),
 (174,⟨false,[.iface],.other⟩),
 (176,⟨false,[.int .u8],.int .u8⟩),
 (185,⟨true,[.int .i64,.bool,.int .i64,.int .i64,.int .i64],.struct [(0,false,1),(1,false,1),(2,false,1),(3,false,1),(4,false,1)]⟩),
 (190,⟨true,[.ptr],.struct [(0,false,1)]⟩),
 (191,⟨true,[.ptr],.struct [(0,false,1)]⟩),
 (192,⟨false,[.ptr],.ptr⟩),
 (196,⟨false,[.iface],.other⟩),
 (199,⟨false,[.iface],.other⟩),
 (201,⟨false,[.iface],.other⟩),
 (202,⟨false,[.slice],.slice 64 1⟩),
 (204,⟨false,[.slice],.slice 207 1⟩),
 (206,⟨false,[.iface],.other⟩),
 (207,⟨false,[.iface],.other⟩),
 (210,⟨true,[.int .i64,.int .i64,.int .i64,.int .i64,.int .i64,.int .i64,.int .i64,.int .i64,.int .i64,.int .i64],.struct [(0,false,1),(1,true,9)]⟩),
 (211,⟨true,[.int .i64,.int .i64,.int .i64,.int .i64,.int .i64,.int .i64,.int .i64,.int .i64,.int .i64,.int .i64],.struct [(0,false,1),(1,true,9)]⟩),
 (212,⟨true,[.int .i64,.int .i64,.bool,.int .i64,.int .i64,.int .i64],.struct [(0,false,1),(1,true,5)]⟩),
 (213,⟨true,[.int .i64,.int .i64,.bool,.int .i64,.int .i64,.int .i64],.struct [(0,false,1),(1,true,5)]⟩),
 (214,⟨true,[.int .i64],.struct [(0,false,1)]⟩),
 (215,⟨true,[.int .i64],.struct [(0,false,1)]⟩),
 (217,⟨true,[.bool,.bool,.bool,.bool],.arr 4 1 false⟩),
 (218,⟨true,[.bool,.bool,.bool,.bool],.arr 4 1 false⟩),
 (220,⟨true,[.int .i64,.int .i64,.int .i64,.int .i64,.int .i64,.int .i64,.int .i64,.int .i64,.int .i64,.int .i64,.int .i64,.int .i64,.int .i64,.int .i64,.int .i64,.int .i64,.int .i64,.int .i64,.int .i64,.int .i64,.int .i64],.arr 21 1 false⟩),
 (222,⟨false,[.slice],.slice 225 1⟩),
 (225,⟨false,[.ptr],.ptr⟩),
 (226,⟨true,[.int .i64,.str,.ptr],.struct [(0,false,1),(1,false,1),(2,false,1)]⟩),
 (227,⟨true,[.int .i64,.str,.ptr],.struct [(0,false,1),(1,false,1),(2,false,1)]⟩),
 (228,⟨false,[.map],.other⟩),
 (229,⟨true,[.int .i64,.str],.struct [(0,false,1),(1,false,1)]⟩),
 (230,⟨true,[.int .i64,.str],.struct [(0,false,1),(1,false,1)]⟩),
 (232,⟨true,[.ptr,.ptr,.ptr,.str],.struct [(0,false,1),(1,false,1),(2,false,1),(3,false,1)]⟩),
 (233,⟨true,[.ptr,.ptr,.ptr,.str],.struct [(0,false,1),(1,false,1),(2,false,1),(3,false,1)]⟩),
 (234,⟨true,[],.arr 0 1 false⟩),
 (235,⟨true,[],.other⟩),
 (236,⟨true,[],.other⟩),
 (238,⟨false,[.int .u32],.int .u32⟩),
 (239,⟨false,[.int .u8],.int .u8⟩),
 (241,⟨false,[.ptr],.ptr⟩),
 (242,⟨false,[.int .i32],.int .i32⟩),
 (243,⟨false,[.int .i32],.int .i32⟩),
 (244,⟨true,[.int .u64,.int .u64,.int .u32,.int .u8,.int .u8,.int .u8,.int .u8,.fn,.ptr,.int .i32,.int .i32],.struct [(0,false,1),(1,false,1),(2,false,1),(3,false,1),(4,false,1),(5,false,1),(6,false,1),(7,false,1),(8,false,1),(9,false,1),(10,false,1)]⟩),
 (245,⟨true,[.int .u64,.int .u64,.int .u32,.int .u8,.int .u8,.int .u8,.int .u8,.fn,.ptr,.int .i32,.int .i32],.struct [(0,false,1),(1,false,1),(2,false,1),(3,false,1),(4,false,1),(5,false,1),(6,false,1),(7,false,1),(8,false,1),(9,false,1),(10,false,1)]⟩),
 (248,⟨true,[.str,.int .u8],.struct [(0,false,1),(1,false,1)]⟩),
 (249,⟨true,[.str,.int .u8],.struct [(0,false,1),(1,false,1)]⟩),
 (251,⟨false,[.ptr],.ptr⟩),
 (252,⟨true,[.bool,.int .i64],.struct [(0,false,1),(1,false,1)]⟩),
 (253,⟨true,[.bool,.int .i64],.struct [(0,false,1),(1,false,1)]⟩),
 (255,⟨false,[.int .u16],.int .u16⟩),
 (256,⟨true,[.int .i32,.int .u16,.int .u16,.int .u32,.int .u32],.struct [(0,false,1),(1,false,1),(2,false,1),(3,false,1),(4,false,1)]⟩),
 (257,⟨true,[.int .i32,.int .u16,.int .u16,.int .u32,.int .u32],.struct [(0,false,1),(1,false,1),(2,false,1),(3,false,1),(4,false,1)]⟩),
 (258,⟨false,[.slice],.slice 261 4⟩),
 (259,⟨false,[.int .i32],.int .i32⟩),
 (260,⟨true,[.int .i32,.int .i32,.int .i32,.int .i32],.struct [(0,false,1),(1,false,1),(2,false,1),(3,false,1)]⟩),
 (261,⟨true,[.int .i32,.int .i32,.int .i32,.int .i32],.struct [(0,false,1),(1,false,1),(2,false,1),(3,false,1)]⟩),
 (262,⟨false,[.ptr],.ptr⟩)]++[1,27,34,35,36,37,38,39,40,42,43,44,45,46,47,48,56,57,58,59,60,61,65,70,71,72,73,74,75,76,77,78,79,80,83,84,87,89,90,91,92,93,96,97,98,99,101,102,103,106,107,108,109,111,112,113,114,116,117,122,123,125,127,128,130,133,134,135,136,137,138,139,140,141,143,144,145,147,149,150,151,153,154,155,156,157,158,159,160,161,162,163,164,166,172,175,177,178,179,180,181,182,183,184,186,187,188,189,193,194,195,198,200,203,205,208,209,219,221,224,231,237,240,246,247,250,254].map (fun t=>(t,⟨false,[.fn],.other⟩))++[0,33,41,105,110,115,152,197,216,223].map fun t=>(t,⟨false,[.other],.other⟩)
noncomputable def pfT:List (Nat×List RK):=[
 (35,[.cell (.int .i64)]),
 (36,[.cell (.int .i64)]),
 (243,[.cell (.int .i64)]),
 (244,[.cell (.int .i64)]),
 (194,[.cell (.int .i64)]),
 (195,[.cell (.int .i64)]),
 (117,[.cell (.int .i64)]),
 (37,[.cell (.int .i64)]),
 (12,[.cell (.int .i64)]),
 (71,[.cell .bool]),
 (91,[.cell (.int .i64)]),
 (77,[.cell .bool]),
 (197,[.cell (.int .i64)]),
 (262,[.cell .bool]),
 (229,[.cell .bool]),
 (168,[.cell .bool]),
 (39,[.cell .bool]),
 (62,[.cell .bool]),
 (230,[.cell .bool]),
 (231,[.cell .bool]),
 (232,[.cell .bool]),
 (169,[.cell .bool]),
 (76,[.cell (.int .i64)]),
 (147,[.cell .bool]),
 (158,[.cell (.int .i64)]),
 (159,[.cell (.int .i64)]),
 (79,[.cell (.int .i64)]),
 (178,[.cell (.int .i64)]),
 (196,[.cell (.int .i64)]),
 (233,[.cell .bool]),
 (170,[.cell .bool]),
 (201,[.cell .bool]),
 (198,[.cell .bool]),
 (199,[.cell .bool]),
 (171,[.cell .bool]),
 (123,[.cell .bool]),
 (234,[.cell .bool]),
 (172,[.cell .bool]),
 (102,[.cell .bool]),
 (174,[.cell .bool]),
 (104,[.cell .bool]),
 (177,[.cell (.int .i64)]),
 (182,[.cell (.int .i64)]),
 (118,[.cell (.int .i64)]),
 (119,[.cell .bool]),
 (200,[.cell (.int .i64),.cell .bool]),
 (124,[.agg [.bool,.int .i64,.int .i64,.int .i64,.int .i64]]),
 (125,[.agg [.int .i64,.int .i64,.int .i64,.int .i64,.int .i64,.int .i64,.int .i64,.int .i64,.int .i64]]),
 (247,[.agg [.int .i64,.bool,.int .i64,.int .i64,.int .i64]]),
 (94,[.cell (.int .i64)]),
 (128,[.cell .bool]),
 (253,[.cell .bool]),
 (83,[.cell .bool]),
 (274,[.cell .bool]),
 (275,[.cell (.int .i64)]),
 (254,[.cell .bool]),
 (215,[.cell .bool]),
 (46,[.cell .bool]),
 (225,[.cell .bool]),
 (152,[.cell .bool]),
 (67,[.cell .bool]),
 (271,[.cell .bool]),
 (255,[.cell .bool]),
 (272,[.cell .bool]),
 (256,[.cell .bool]),
 (216,[.cell .bool]),
 (49,[.agg [.ptr,.int .i64]]),
 (82,[.cell .bool]),
 (88,[.cell .ptr]),
 (164,[.cell (.int .i64)]),
 (163,[.cell (.int .i64)]),
 (87,[.cell (.int .i64)]),
 (100,[.cell (.int .i64)]),
 (226,[.cell .bool]),
 (153,[.cell .bool]),
 (228,[.cell (.int .i64)]),
 (257,[.cell .bool]),
 (269,[.agg [.int .i64,.int .i64,.int .i64,.int .i64,.int .i64,.int .i64,.int .i64,.int .i64,.int .i64,.int .i64,.int .i64,.int .i64,.int .i64,.int .i64,.int .i64,.int .i64,.int .i64,.int .i64,.int .i64,.int .i64,.int .i64]]),
 (248,[.cell (.int .i64)]),
 (204,[.cell (.int .i64)]),
 (258,[.cell .bool]),
 (217,[.cell .bool]),
 (207,[.cell .bool]),
 (208,[.cell .bool]),
 (133,[.cell .bool]),
 (206,[.cell .bool]),
 (218,[.cell .bool]),
 (68,[.cell .bool]),
 (136,[.cell .bool]),
 (219,[.cell .bool]),
 (149,[.cell .bool]),
 (137,[.cell .bool]),
 (52,[.cell .bool]),
 (138,[.cell .bool]),
 (53,[.cell .bool]),
 (250,[.cell .bool]),
 (251,[.cell .bool]),
 (213,[.cell .bool]),
 (252,[.cell .bool]),
 (214,[.cell .bool]),
 (139,[.cell .bool]),
 (54,[.cell .bool]),
 (16,[.cell .bool]),
 (140,[.cell .str]),
 (58,[.cell (.int .i64)]),
 (59,[.cell (.int .i64)]),
 (144,[.cell (.int .i64)]),
 (145,[.cell (.int .i64)]),
 (146,[.cell (.int .i64)]),
 (60,[.cell (.int .i64)]),
 (18,[.cell (.int .i64)]),
 (63,[.cell .bool]),
 (165,[.cell (.int .i64)]),
 (148,[.cell (.int .i64)]),
 (73,[.cell .iface]),
 (75,[.cell .ptr]),
 (130,[.cell (.int .i64)]),
 (205,[.cell (.int .i64)]),
 (166,[.cell (.int .i64)]),
 (167,[.cell (.int .i64)]),
 (96,[.cell (.int .i64)]),
 (157,[.cell (.int .i64)]),
 (78,[.cell (.int .i64)]),
 (90,[.cell (.int .i64)]),
 (175,[.cell (.int .i64)]),
 (105,[.cell (.int .i64)]),
 (108,[.cell (.int .i64)]),
 (111,[]),
 (181,[.cell (.int .i64)]),
 (112,[.cell (.int .i64)]),
 (183,[.cell (.int .i64)]),
 (186,[.cell .bool]),
 (239,[.cell (.int .i64)]),
 (184,[.cell (.int .i64)]),
 (185,[.cell (.int .i64)]),
 (187,[.cell .bool]),
 (113,[.cell (.int .i64)]),
 (129,[.cell .bool]),
 (48,[.cell .bool]),
 (131,[.cell .bool]),
 (85,[.cell .bool]),
 (99,[.cell (.int .i64),.cell (.int .i64)]),
 (189,[.cell (.int .i64)]),
 (188,[.cell (.int .i64)]),
 (115,[.cell (.int .i64)]),
 (190,[.cell (.int .i64)]),
 (191,[.cell (.int .i64)]),
 (192,[.cell (.int .i64)]),
 (193,[.cell .bool]),
 (116,[.cell (.int .i64),.cell .bool]),
 (156,[.cell .bool]),
 (162,[.cell .bool]),
 (273,[.cell .bool]),
 (266,[.cell (.int .i64)]),
 (236,[.cell (.int .i64)]),
 (268,[.agg [.bool,.bool,.bool,.bool]]),
 (241,[.cell (.int .i64)]),
 (242,[.cell .bool]),
 (309,[.cell (.int .i64)]),
 (312,[.cell (.int .i64)])]
noncomputable def efT:List (Nat×List RK):=[
 (2,[]),
 (173,[.agg [.int .i64,.int .i64,.int .i64,.slice,.slice]]),
 (103,[.agg [.int .i64,.slice,.slice,.slice]]),
 (61,[.agg [.int .i64,.slice,.slice,.slice],.cell (.int .i64)]),
 (38,[.agg [.int .i64,.slice,.slice,.slice],.cell (.int .i64)]),
 (80,[.agg [.int .i64,.slice,.slice,.slice]]),
 (40,[.agg [.int .i64,.slice,.slice,.slice]]),
 (120,[.agg [.int .i64,.slice,.slice,.slice]]),
 (235,[.agg [.int .i64,.int .i64,.int .i64,.slice,.slice]]),
 (176,[.agg [.int .i64,.int .i64,.int .i64,.slice,.slice],.cell (.int .i64)]),
 (121,[.agg [.int .i64,.slice,.slice,.slice]]),
 (122,[.agg [.int .i64,.slice,.slice,.slice]]),
 (41,[.agg [.int .i64,.slice,.slice,.slice]]),
 (13,[.agg [.int .i64,.slice,.slice,.slice],.cell (.int .i64)]),
 (42,[.cell .slice]),
 (43,[.cell .slice]),
 (245,[.cell .slice]),
 (246,[.cell .slice]),
 (202,[.agg [.int .i64,.int .i64,.int .i64,.slice,.slice]]),
 (203,[.cell .slice]),
 (126,[.agg [.bool,.int .i64,.str,.int .i64,.int .i64,.int .i64,.int .i64,.int .i64,.int .i64,.int .i64,.int .i64,.slice,.slice,.slice]]),
 (44,[.cell .slice]),
 (14,[.agg [.int .i64,.slice,.slice,.slice]]),
 (270,[.cell .slice,.cell .bool]),
 (220,[.agg [.int .i64,.int .i64,.int .i64,.slice,.slice]]),
 (150,[.agg [.int .i64,.slice,.slice,.slice]]),
 (224,[.cell .bool]),
 (151,[.cell .bool]),
 (65,[.agg [.int .i64,.slice,.slice,.slice],.cell (.int .i64)]),
 (45,[.agg [.int .i64,.slice,.slice,.slice],.cell (.int .i64)]),
 (15,[.agg [.int .i64,.slice,.slice,.slice],.cell (.int .i64)]),
 (55,[.cell (.int .i64)]),
 (56,[.cell (.int .i64)]),
 (141,[.cell (.int .i64)]),
 (142,[.cell (.int .i64)]),
 (143,[.cell (.int .i64)]),
 (57,[.cell (.int .i64)]),
 (17,[.cell (.int .i64)]),
 (3,[.cell .bool]),
 (97,[.agg [.int .i64,.slice,.slice,.slice]]),
 (64,[.agg [.int .i64,.slice,.slice,.slice]]),
 (19,[.agg [.int .i64,.slice,.slice,.slice],.cell (.int .i64)]),
 (20,[.agg [.int .i64,.slice,.slice,.slice],.cell (.int .i64)]),
 (4,[.cell .bool]),
 (21,[.agg [.int .i64,.slice,.slice,.slice],.cell (.int .i64)]),
 (22,[.agg [.int .i64,.slice,.slice,.slice],.cell (.int .i64)]),
 (5,[.cell .bool]),
 (23,[.agg [.int .i64,.slice,.slice,.slice],.cell (.int .i64)]),
 (72,[.agg [.int .i64,.slice,.slice,.slice],.cell (.int .i64)]),
 (89,[]),
 (132,[]),
 (249,[]),
 (209,[.cell (.int .i64)]),
 (210,[.cell (.int .i64)]),
 (211,[.cell (.int .i64)]),
 (212,[.cell (.int .i64)]),
 (134,[.cell (.int .i64)]),
 (135,[]),
 (51,[]),
 (101,[]),
 (161,[.cell .fn]),
 (154,[.cell (.int .i64)]),
 (69,[]),
 (74,[]),
 (24,[.agg [.int .i64,.slice,.slice,.slice],.cell (.int .i64)]),
 (6,[.cell .bool]),
 (25,[.agg [.int .i64,.slice,.slice,.slice],.cell (.int .i64),.cell (.int .i64)]),
 (26,[.agg [.int .i64,.slice,.slice,.slice],.cell (.int .i64),.cell (.int .i64)]),
 (7,[.cell .bool]),
 (27,[.agg [.int .i64,.slice,.slice,.slice],.cell (.int .i64)]),
 (93,[.cell (.int .i64)]),
 (92,[.cell .iface]),
 (95,[]),
 (28,[.agg [.int .i64,.slice,.slice,.slice],.cell (.int .i64)]),
 (8,[.cell .bool]),
 (29,[.agg [.int .i64,.slice,.slice,.slice],.cell (.int .i64)]),
 (30,[.agg [.int .i64,.slice,.slice,.slice],.cell (.int .i64)]),
 (9,[.cell .bool]),
 (106,[.cell .slice]),
 (107,[.agg [.int .i64,.slice,.slice,.slice],.cell .bool]),
 (109,[.agg [.int .i64,.slice,.slice,.slice]]),
 (31,[.agg [.int .i64,.slice,.slice,.slice],.cell (.int .i64)]),
 (110,[.agg [.int .i64,.slice,.slice,.slice],.cell (.int .i64)]),
 (32,[.agg [.int .i64,.slice,.slice,.slice],.cell (.int .i64)]),
 (10,[.cell .bool]),
 (33,[.agg [.int .i64,.slice,.slice,.slice],.cell (.int .i64)]),
 (34,[.agg [.int .i64,.slice,.slice,.slice],.cell (.int .i64)]),
 (11,[.cell .bool]),
 (50,[]),
 (47,[.cell .iface]),
 (66,[.cell .iface]),
 (70,[.cell .iface]),
 (84,[.cell (.int .i64)]),
 (160,[.cell (.int .i64),.cell .bool]),
 (86,[.cell (.int .i64)]),
 (81,[.cell .iface]),
 (98,[.cell .iface]),
 (114,[]),
 (127,[.cell .iface]),
 (155,[.cell .iface]),
 (263,[.cell .slice]),
 (264,[.cell .iface]),
 (265,[.cell (.int .i64)]),
 (237,[.cell .bool]),
 (238,[.cell (.int .i64)]),
 (180,[]),
 (179,[.cell .iface]),
 (227,[]),
 (240,[]),
 (267,[]),
 (318,[])]
noncomputable def ttT:List (Nat×List RK):=[(0,[]),(115,[.cell (.int .i64),.cell .bool])]
def zmz (f:Func):Code:=match f.body with
 | some c=>c
 | none=>.skip
theorem z70 {β:Type}:∀{l:List (Nat×β)} {f:Nat} {k:β},asc l f=some k→(f,k)∈l
 | [],f,k,h=>by cases h
 | p::r,f,k,h=>by
  simp only [asc] at h
  cases hb:Nat.beq p.1 f with
  | true =>
   rw [hb] at h
   simp only [cond_true,Option.some.injEq] at h
   have:p.1=f:=Nat.eq_of_beq_eq_true hb
   rw [←this,←h]; exact List.mem_cons_self
  | false =>
   rw [hb] at h
   exact List.mem_cons_of_mem _ (z70 h)
theorem zakq:zajs Tryz.prog tbl=true:=by kernel_rfl
theorem zak5:(pfT.all fun p=>zqo Tryz.prog p.1)=true:=by kernel_rfl
theorem zak0:(efT.all fun p=>zqo Tryz.prog p.1)=true:=by kernel_rfl
theorem zag1:Tryz.prog.follows .mixedOrders=true:=by kernel_rfl
theorem tok:TOk Tryz.prog (zkw tbl):=zaif (l:=tbl) zakq
theorem pok (f:Nat) (ks:List RK) (h:asc pfT f=some ks):zkm Tryz.prog f:=zwf (List.all_eq_true.1 zak5 (f,ks) (z70 h))
theorem eok (f:Nat) (ks:List RK) (h:asc efT f=some ks):zkm Tryz.prog f:=zwf (List.all_eq_true.1 zak0 (f,ks) (z70 h))
theorem env (vis:List Nat) (n:Nat) (pm wr:Bool) (rd:Option Nat):Env { P:=Tryz.prog,T:=zkw tbl,pf:=pfT,ef:=efT,tt:=ttT,vis:=vis,n:=n,pm:=pm,wr:=wr,rd:=rd } :=
 ⟨tok,pok,eok,zag1⟩
noncomputable def zafx (vis:List Nat) (n:Nat) (pm wr:Bool):Cfg:={ P:=Tryz.prog,T:=zkw tbl,pf:=pfT,ef:=efT,tt:=ttT,vis:=vis,n:=n,pm:=pm,wr:=wr }
def fits (fn:Func) (n:Nat):Bool:=Nat.ble n fn.ntmps&&Nat.ble fn.ntmps 4000&&fn.body.isSome
theorem z1n {fn:Func} {n:Nat} (h:fits fn n=true):n≤fn.ntmps∧fn.ntmps≤4000∧fn.body=some (zmz fn):=by
 unfold fits at h
 simp only [Bool.and_eq_true] at h
 refine ⟨Nat.le_of_ble_eq_true h.1.1,Nat.le_of_ble_eq_true h.1.2,?_⟩
 cases hb:fn.body with
 | none=>rw [hb] at h; cases h.2
 | some c=>simp [zmz,hb]
abbrev PuV (V:World→(Value→World→Prop)→Prop) (f:FuncId) (args:Array Value):Prop:=∀{w:World} {bs:List Nat} {ret:Value},(∀wr0,ExtX bs w wr0→V wr0 fun v0 _=>v0=ret)→zab bs Tryz.prog f args w ret
abbrev EfV (V:World→(Value→World→Prop)→Prop) (f:FuncId) (args:Array Value):Prop:=∀{w:World} {R:Value→World→Prop},V w R→Calls Tryz.prog f args w fun e0 wr0=>∃v0,e0 = .returned v0∧R v0 wr0
theorem pV (vis:List Nat) (wr:Bool) (sps:List (Nat×zdy)) {f:FuncId} {fn:Func} {args:List Value} {V:World→(Value→World→Prop)→Prop} (hf:Tryz.prog.funcs[f]? = some fn) (hk:fits fn args.length=true) (hV:evFn (zafx vis fn.ntmps true wr) sps args (zmz fn) fn.results.toList=V):PuV V f args.toArray:=fun {w bs ret} hvc =>
 zabh (C:=zafx vis fn.ntmps true wr) (sps:=sps) (env _ _ _ _ _) hf (z1n hk).2.2 rfl (z1n hk).1 (z1n hk).2.1 rfl rfl fun wr0 hx0=>by rw [hV]; exact hvc wr0 hx0
theorem eV (vis:List Nat) (wr:Bool) (sps:List (Nat×zdy)) {f:FuncId} {fn:Func} {args:List Value} {V:World→(Value→World→Prop)→Prop} (hf:Tryz.prog.funcs[f]? = some fn) (hk:fits fn args.length=true) (hV:evFn (zafx vis fn.ntmps false wr) sps args (zmz fn) fn.results.toList=V):EfV V f args.toArray:=fun {w R} hvc =>
 zacg (C:=zafx vis fn.ntmps false wr) (sps:=sps) (env _ _ _ _ _) hf (z1n hk).2.2 rfl (z1n hk).1 (z1n hk).2.1 rfl rfl (by rw [hV]; exact hvc)
end Go.Proofs.YthhmnlcimojhlaaGreatDoor
