/- Part 5 of what the law FnStay needs: the engine, the functions' propositions, the contracts. -/
import Derived.Test.YtclpmgfpjeaibaaGreatDoorFnStayPd
import Derived.Test.YtclpmgfpjeaibaaGreatDoorProg
import Derived.KernelRfl
namespace Go.Proofs.YtclpmgfpjeaibaaGreatDoor
open Go.RowKit
set_option linter.unusedVariables false
set_option maxRecDepth 100000
set_option maxHeartbeats 1600000
def zao:TypeId:=3
def zdg:TypeId:=4
def z4v:TypeId:=5
def zfo:TypeId:=9
def ty_sl_uint8:TypeId:=22
def zbf:TypeId:=23
def za2:TypeId:=24
def zal:TypeId:=25
def zab:TypeId:=27
def zba:TypeId:=34
def zau:TypeId:=36
def zee:TypeId:=46
def zio:TypeId:=53
def zgr:TypeId:=67
def zkn:TypeId:=69
def za8:TypeId:=70
def zaw:TypeId:=72
def zjf:TypeId:=74
def zbv:TypeId:=84
def zbx:TypeId:=90
def zbe:TypeId:=93
def zd3:TypeId:=98
def zeq:TypeId:=100
def zb5:TypeId:=105
def zed:TypeId:=124
def zlm:TypeId:=129
def zey:TypeId:=138
def zcn:TypeId:=153
def ztm:TypeId:=155
def zbw:TypeId:=156
def zas:TypeId:=158
def zaq:Nat:=28
def zkx:Nat:=81
def zh6:Nat:=39
def zcl:Nat:=40
def zfi:Nat:=41
def zh7:Nat:=64
def zjc:Nat:=65
def zcz:Nat:=43
def zc9:Nat:=46
def zgg:Nat:=119
def zb4:Nat:=120
def zh4:Nat:=121
def zhv:Nat:=66
def zcy:Nat:=45
def zec:Nat:=84
def zfg:Nat:=87
def zkz:Nat:=88
def zha:Nat:=48
def zca:Nat:=79
def zg4:Nat:=130
def zg9:Nat:=122
def zi0:Nat:=67
def zdp:Nat:=127
def zeu:Nat:=123
def zja:Nat:=124
def zhw:Nat:=68
def zev:Nat:=77
def ziz:Nat:=125
def zjv:Nat:=69
def zfh:Nat:=24
def zg7:Nat:=126
def zf4:Nat:=70
def zk1:Nat:=26
def zi8:Nat:=71
def zjb:Nat:=27
def zbt:Nat:=72
def zft:Nat:=29
def zdw:Nat:=30
def zi2:Nat:=31
def zg5:Nat:=78
def zi9:Nat:=128
def zez:Nat:=73
def zk2:Nat:=32
def zlu:Nat:=129
def zh5:Nat:=82
def zg8:Nat:=74
def zky:Nat:=75
def ziy:Nat:=76
def zc0:Nat:=33
def zk0:Nat:=34
def zi1:Nat:=35
def zdn:Nat:=10
def zju:Nat:=12
def zg6:Nat:=37
def ziv:Nat:=13
def zag:Nat:=14
def zet:Nat:=38
def zav:Nat:=15
def zix:Nat:=42
def zfs:Nat:=83
def zhu:Nat:=44
def ze7:Nat:=16
def zdo:Nat:=85
def zgf:Nat:=86
def ziw:Nat:=47
def zge:Nat:=17
def zjt:Nat:=5
def zcc:Nat:=6
def zaj:Nat:=54
def zb3:Nat:=89
def zc2:Nat:=90
def zfq:Nat:=96
def zks:Nat:=148
def zg3:Nat:=149
def zlt:Nat:=131
def zkt:Nat:=91
def zdt:Nat:=49
def zgb:Nat:=132
def zhr:Nat:=92
def zes:Nat:=93
def zfp:Nat:=150
def zf3:Nat:=133
def zgd:Nat:=94
def zkq:Nat:=134
def zds:Nat:=95
def zdh:Nat:=50
def zbl:Nat:=20
def zh2:Nat:=97
def zku:Nat:=98
def zg1:Nat:=135
def zjq:Nat:=99
def zfe:Nat:=152
def zgy:Nat:=151
def zei:Nat:=136
def zff:Nat:=100
def zak:Nat:=101
def zgm:Nat:=138
def zb9:Nat:=108
def zgx:Nat:=137
def zh3:Nat:=102
def zer:Nat:=103
def zdu:Nat:=51
def zdf:Nat:=109
def zdv:Nat:=110
def zde:Nat:=104
def zgc:Nat:=105
def zc5:Nat:=52
def zej:Nat:=106
def zek:Nat:=107
def zd8:Nat:=53
def zjr:Nat:=18
def ze0:Nat:=19
def zbs:Nat:=55
def zf0:Nat:=56
def zbj:Nat:=57
def zf8:Nat:=111
def zgv:Nat:=59
def zci:Nat:=58
def zhs:Nat:=21
def zis:Nat:=139
def zfr:Nat:=112
def zm0:Nat:=113
def zg0:Nat:=60
def ziu:Nat:=22
def zdr:Nat:=23
def zga:Nat:=8
def zkv:Nat:=80
def zjs:Nat:=36
def zkw:Nat:=11
def zo0:Nat:=4
def zb7:Nat:=114
def zgz:Nat:=62
def zcb:Nat:=115
def zf9:Nat:=162
def zfy:Nat:=156
def zgw:Nat:=157
def zgk:Nat:=158
def zfz:Nat:=159
def zfd:Nat:=145
def zg2:Nat:=116
def zgl:Nat:=160
def zkr:Nat:=161
def zck:Nat:=146
def zht:Nat:=147
def zbg:Nat:=117
def ze5:Nat:=118
def zit:Nat:=63
def ze6:Nat:=61
def zc3:Nat:=144
def zc6:Nat:=183
def zcw:Nat:=186
noncomputable def tbl:List (TypeId×Ty):=[
 (2,⟨false,[.int .i64],.int .i64⟩),
 (3,⟨false,[.int .i64],.int .i64⟩),
 (4,⟨false,[.bool],.bool⟩),
 (5,⟨false,[.int .u8],.int .u8⟩),
 (6,⟨false,[.int .u8],.int .u8⟩),
 (7,⟨true,[.int .i64,.int .i64,.bool,.int .u8],.struct [(0,false,1),(1,false,1),(2,false,1),(3,false,1)]⟩),
 (8,⟨true,[.int .i64,.int .i64,.bool,.int .u8],.struct [(0,false,1),(1,false,1),(2,false,1),(3,false,1)]⟩),
 (9,⟨false,[.str],.str⟩),
 (10,⟨false,[.str],.str⟩),
 (11,⟨false,[.str],.str⟩),
 (12,⟨false,[.int .u64],.int .u64⟩),
 (13,⟨true,[.str,.int .u64],.struct [(0,false,1),(1,false,1)]⟩),
 (14,⟨true,[.str,.int .u64],.struct [(0,false,1),(1,false,1)]⟩),
 (15,⟨false,[.ptr],.ptr⟩),
 (16,⟨false,[.ptr],.ptr⟩),
 (17,⟨false,[.ptr],.ptr⟩),
 (18,⟨true,[.ptr],.struct [(0,false,1)]⟩),
 (19,⟨true,[.ptr],.struct [(0,false,1)]⟩),
 (20,⟨false,[.iface],.other⟩),
 (21,⟨false,[.int .i32],.int .i32⟩),
 (22,⟨false,[.slice],.slice 5 1⟩),
 (23,⟨false,[.slice],.slice 34 5⟩),
 (24,⟨false,[.slice],.slice 36 9⟩),
 (25,⟨false,[.slice],.slice 72 14⟩),
 (26,⟨true,[.int .i64,.slice,.slice,.slice],.struct [(0,false,1),(1,false,1),(2,false,1),(3,false,1)]⟩),
 (27,⟨true,[.int .i64,.slice,.slice,.slice],.struct [(0,false,1),(1,false,1),(2,false,1),(3,false,1)]⟩),
 (33,⟨true,[.bool,.int .i64,.int .i64,.int .i64,.int .i64],.struct [(0,false,1),(1,false,1),(2,false,1),(3,false,1),(4,false,1)]⟩),
 (34,⟨true,[.bool,.int .i64,.int .i64,.int .i64,.int .i64],.struct [(0,false,1),(1,false,1),(2,false,1),(3,false,1),(4,false,1)]⟩),
 (35,⟨true,[.int .i64,.int .i64,.int .i64,.int .i64,.int .i64,.int .i64,.int .i64,.int .i64,.int .i64],.struct [(0,false,1),(1,false,1),(2,false,1),(3,false,1),(4,false,1),(5,false,1),(6,false,1),(7,false,1),(8,false,1)]⟩),
 (36,⟨true,[.int .i64,.int .i64,.int .i64,.int .i64,.int .i64,.int .i64,.int .i64,.int .i64,.int .i64],.struct [(0,false,1),(1,false,1),(2,false,1),(3,false,1),(4,false,1),(5,false,1),(6,false,1),(7,false,1),(8,false,1)]⟩),
 (39,⟨false,[.ptr],.ptr⟩),
 (46,⟨false,[.slice],.slice 3 1⟩),
 (47,⟨false,[.slice],.slice 9 1⟩),
 (51,⟨false,[.ptr],.ptr⟩),
 (52,⟨true,[.ptr,.int .i64],.struct [(0,false,1),(1,false,1)]⟩),
 (53,⟨true,[.ptr,.int .i64],.struct [(0,false,1),(1,false,1)]⟩),
 (67,⟨false,[.slice],.slice 4 1⟩),
 (68,⟨true,[.int .i64,.int .i64,.int .i64,.slice,.slice],.struct [(0,false,1),(1,false,1),(2,false,1),(3,false,1),(4,false,1)]⟩),
 (69,⟨true,[.int .i64,.int .i64,.int .i64,.slice,.slice],.struct [(0,false,1),(1,false,1),(2,false,1),(3,false,1),(4,false,1)]⟩),
 (70,⟨false,[.slice],.slice 84 5⟩),
 (71,⟨true,[.bool,.int .i64,.str,.int .i64,.int .i64,.int .i64,.int .i64,.int .i64,.int .i64,.int .i64,.int .i64,.slice,.slice,.slice],.struct [(0,false,1),(1,false,1),(2,false,1),(3,false,1),(4,false,1),(5,false,1),(6,false,1),(7,false,1),(8,true,5),(13,false,1)]⟩),
 (72,⟨true,[.bool,.int .i64,.str,.int .i64,.int .i64,.int .i64,.int .i64,.int .i64,.int .i64,.int .i64,.int .i64,.slice,.slice,.slice],.struct [(0,false,1),(1,false,1),(2,false,1),(3,false,1),(4,false,1),(5,false,1),(6,false,1),(7,false,1),(8,true,5),(13,false,1)]⟩),
 (73,⟨true,[.slice,.int .i64],.struct [(0,false,1),(1,false,1)]⟩),
 (74,⟨true,[.slice,.int .i64],.struct [(0,false,1),(1,false,1)]⟩),
 (83,⟨true,[.int .i64,.bool,.int .i64,.int .i64,.int .i64],.struct [(0,false,1),(1,false,1),(2,false,1),(3,false,1),(4,false,1)]⟩),
 (84,⟨true,[.int .i64,.bool,.int .i64,.int .i64,.int .i64],.struct [(0,false,1),(1,false,1),(2,false,1),(3,false,1),(4,false,1)]⟩),
 (87,⟨true,[.fn,.fn,.fn,.fn,.fn],.arr 5 1 false⟩),
 (88,⟨false,[.ptr],.ptr⟩),
 (90,⟨false,[.slice],.slice 93 1⟩),
 (92,⟨false,[.iface],.other⟩),
 (93,⟨false,[.iface],.other⟩),
 (97,⟨true,[.int .i64,.int .i64,.int .i64,.int .i64,.int .i64,.int .i64,.int .i64,.int .i64,.int .i64,.int .i64],.struct [(0,false,1),(1,true,9)]⟩),
 (98,⟨true,[.int .i64,.int .i64,.int .i64,.int .i64,.int .i64,.int .i64,.int .i64,.int .i64,.int .i64,.int .i64],.struct [(0,false,1),(1,true,9)]⟩),
 (99,⟨true,[.int .i64,.int .i64,.bool,.int .i64,.int .i64,.int .i64],.struct [(0,false,1),(1,true,5)]⟩),
 (100,⟨true,[.int .i64,.int .i64,.bool,.int .i64,.int .i64,.int .i64],.struct [(0,false,1),(1,true,5)]⟩),
 (102,⟨false,[.iface],.other⟩),
 (103,⟨false,[.iface],.other⟩),
 (104,⟨true,[.int .i64],.struct [(0,false,1)]⟩),
 (105,⟨true,[.int .i64],.struct [(0,false,1)]⟩),
 (114,⟨true,[.int .i64,.int .i64,.int .i64],.struct [(0,false,1),(1,false,1),(2,false,1)]⟩),
 (115,⟨true,[.int .i64,.int .i64,.int .i64],.struct [(0,false,1),(1,false,1),(2,false,1)]⟩),
 (121,⟨false,[.ptr],.ptr⟩),
 (124,⟨false,[.ptr],.ptr⟩),
 (125,⟨false,[.int .u64],.int .u64⟩),
 (129,⟨false,[.slice],.slice 153 1⟩),
 (132,⟨false,[.int .i64],.int .i64⟩),
 (133,⟨true,[.int .i64,.int .i64,.int .i64,.int .i64,.int .i64,.int .i64,.int .i64,.int .i64,.int .i64,.int .i64,.int .i64,.int .i64,.int .i64,.int .i64,.int .i64,.int .i64,.int .i64,.int .i64,.int .i64,.int .i64,.int .i64],.arr 21 1 false⟩),
 (135,⟨false,[.ptr],.other⟩),
 (136,⟨false,[.int .u64],.int .u64⟩),
 (137,⟨true,[.ptr,.ptr,.int .u64],.struct [(0,false,1),(1,false,1),(2,false,1)]⟩),
 (138,⟨true,[.ptr,.ptr,.int .u64],.struct [(0,false,1),(1,false,1),(2,false,1)]⟩),
 (140,⟨false,[.iface],.other⟩),
 (141,⟨false,[.iface],.other⟩),
 (143,⟨false,[.int .u8],.int .u8⟩),
 (147,⟨true,[.int .i64],.struct [(0,false,1)]⟩),
 (148,⟨true,[.int .i64],.struct [(0,false,1)]⟩),
 (150,⟨false,[.ptr],.ptr⟩),
 (152,⟨false,[.ptr],.ptr⟩),
 (153,⟨false,[.ptr],.ptr⟩),
 (154,⟨true,[.int .i64,.str,.ptr],.struct [(0,false,1),(1,false,1),(2,false,1)]⟩),
 (155,⟨true,[.int .i64,.str,.ptr],.struct [(0,false,1),(1,false,1),(2,false,1)]⟩),
 (156,⟨false,[.map],.other⟩),
 (157,⟨true,[.int .i64,.str],.struct [(0,false,1),(1,false,1)]⟩),
 (158,⟨true,[.int .i64,.str],.struct [(0,false,1),(1,false,1)]⟩),
 (159,⟨true,[.ptr],.struct [(0,false,1)]⟩),
 (160,⟨true,[.ptr],.struct [(0,false,1)]⟩),
 (161,⟨false,[.ptr],.ptr⟩),
 (165,⟨false,[.iface],.other⟩),
 (168,⟨false,[.iface],.other⟩),
 (170,⟨false,[.iface],.other⟩),
 (171,⟨false,[.slice],.slice 103 1⟩),
 (174,⟨true,[.ptr,.ptr,.ptr,.str],.struct [(0,false,1),(1,false,1),(2,false,1),(3,false,1)]⟩),
 (175,⟨true,[.ptr,.ptr,.ptr,.str],.struct [(0,false,1),(1,false,1),(2,false,1),(3,false,1)]⟩),
 (176,⟨true,[],.arr 0 1 false⟩),
 (177,⟨true,[],.other⟩),
 (178,⟨true,[],.other⟩),
 (180,⟨false,[.int .u32],.int .u32⟩),
 (181,⟨false,[.int .u8],.int .u8⟩),
 (183,⟨false,[.ptr],.ptr⟩),
 (184,⟨false,[.int .i32],.int .i32⟩),
 (185,⟨false,[.int .i32],.int .i32⟩),
 (186,⟨true,[.int .u64,.int .u64,.int .u32,.int .u8,.int .u8,.int .u8,.int .u8,.fn,.ptr,.int .i32,.int .i32],.struct [(0,false,1),(1,false,1),(2,false,1),(3,false,1),(4,false,1),(5,false,1),(6,false,1),(7,false,1),(8,false,1),(9,false,1),(10,false,1)]⟩),
 (187,⟨true,[.int .u64,.int .u64,.int .u32,.int .u8,.int .u8,.int .u8,.int .u8,.fn,.ptr,.int .i32,.int .i32],.struct [(0,false,1),(1,false,1),(2,false,1),(3,false,1),(4,false,1),(5,false,1),(6,false,1),(7,false,1),(8,false,1),(9,false,1),(10,false,1)]⟩),
 (191,⟨true,[.str,.int .u8],.struct [(0,false,1),(1,false,1)]⟩),
 (192,⟨true,[.str,.int .u8],.struct [(0,false,1),(1,false,1)]⟩),
 (193,⟨true,[.bool,.int .i64],.struct [(0,false,1),(1,false,1)]⟩),
 (194,⟨true,[.bool,.int .i64],.struct [(0,false,1),(1,false,1)]⟩),
 (195,⟨false,[.ptr],.ptr⟩),
 (197,⟨false,[.int .u16],.int .u16⟩),
 (198,⟨true,[.int .i32,.int .u16,.int .u16,.int .u32,.int .u32],.struct [(0,false,1),(1,false,1),(2,false,1),(3,false,1),(4,false,1)]⟩),
 (199,⟨true,[.int .i32,.int .u16,.int .u16,.int .u32,.int .u32],.struct [(0,false,1),(1,false,1),(2,false,1),(3,false,1),(4,false,1)]⟩),
 (200,⟨false,[.slice],.slice 203 4⟩),
 (201,⟨false,[.int .i32],.int .i32⟩),
 (202,⟨true,[.int .i32,.int .i32,.int .i32,.int .i32],.struct [(0,false,1),(1,false,1),(2,false,1),(3,false,1)]⟩),
 (203,⟨true,[.int .i32,.int .i32,.int .i32,.int .i32],.struct [(0,false,1),(1,false,1),(2,false,1),(3,false,1)]⟩),
 (204,⟨false,[.ptr],.ptr⟩)]++[1,28,29,30,32,37,38,40,42,43,45,48,49,50,54,55,56,57,58,59,60,61,62,63,64,65,66,75,76,77,78,79,80,81,82,85,86,89,91,94,95,96,101,106,107,108,109,110,111,113,116,117,118,119,120,122,123,126,128,131,134,139,142,144,145,146,151,162,163,164,167,169,172,173,179,182,188,189,190,196].map (fun t=>(t,⟨false,[.fn],.other⟩))++[0,31,41,44,112,127,130,149,166].map fun t=>(t,⟨false,[.other],.other⟩)
noncomputable def pfT:List (Nat×List RK):=[
 (28,[.cell .bool]),
 (81,[.cell .bool]),
 (39,[.cell .bool]),
 (40,[.cell .bool]),
 (41,[.cell (.int .i64)]),
 (64,[.cell .bool]),
 (65,[.cell (.int .i64)]),
 (43,[.cell .bool]),
 (46,[.cell .bool]),
 (119,[.cell .bool]),
 (120,[.cell .bool]),
 (121,[.cell .bool]),
 (66,[.cell .bool]),
 (45,[.cell (.int .i64)]),
 (84,[.cell .bool]),
 (87,[.cell (.int .i64)]),
 (88,[.cell (.int .i64)]),
 (48,[.cell (.int .i64)]),
 (79,[.cell (.int .i64)]),
 (130,[.cell (.int .i64)]),
 (122,[.cell .bool]),
 (67,[.cell .bool]),
 (127,[.cell .bool]),
 (123,[.cell .bool]),
 (124,[.cell .bool]),
 (68,[.cell .bool]),
 (77,[.cell .bool]),
 (125,[.cell .bool]),
 (69,[.cell .bool]),
 (24,[.cell .bool]),
 (126,[.cell (.int .i64),.cell .bool]),
 (70,[.cell (.int .i64)]),
 (26,[.cell (.int .i64)]),
 (72,[.cell .bool]),
 (29,[.cell .bool]),
 (78,[.cell (.int .i64)]),
 (129,[.cell (.int .i64)]),
 (82,[.cell (.int .i64)]),
 (34,[.cell (.int .i64)]),
 (83,[.cell .bool]),
 (85,[.cell (.int .i64)]),
 (86,[.cell (.int .i64)]),
 (47,[.cell (.int .i64)]),
 (6,[.cell (.int .i64)]),
 (54,[.cell .bool]),
 (89,[.cell .bool]),
 (90,[.cell (.int .i64)]),
 (96,[.cell .bool]),
 (148,[.cell .bool]),
 (149,[.cell (.int .i64)]),
 (91,[.cell .bool]),
 (49,[.cell .bool]),
 (132,[.cell .bool]),
 (92,[.cell .bool]),
 (93,[.cell .bool]),
 (150,[.cell .bool]),
 (133,[.cell .bool]),
 (94,[.cell .bool]),
 (134,[.cell .bool]),
 (95,[.cell .bool]),
 (50,[.cell .bool]),
 (20,[.agg [.ptr,.int .i64]]),
 (97,[.cell .bool]),
 (98,[.cell .bool]),
 (135,[.cell .bool]),
 (99,[.cell .bool]),
 (152,[.cell (.int .i64)]),
 (151,[.cell (.int .i64)]),
 (136,[.cell (.int .i64)]),
 (100,[.cell (.int .i64)]),
 (101,[.cell .ptr]),
 (138,[.agg [.int .i64,.int .i64,.int .i64,.int .i64,.int .i64,.int .i64,.int .i64,.int .i64,.int .i64,.int .i64,.int .i64,.int .i64,.int .i64,.int .i64,.int .i64,.int .i64,.int .i64,.int .i64,.int .i64,.int .i64,.int .i64]]),
 (108,[.cell (.int .i64)]),
 (137,[.cell (.int .i64)]),
 (102,[.cell .bool]),
 (103,[.cell (.int .i64)]),
 (51,[.cell .bool]),
 (109,[.cell .bool]),
 (110,[.cell .bool]),
 (104,[.cell .bool]),
 (105,[.cell .bool]),
 (52,[.cell .bool]),
 (106,[.cell .bool]),
 (107,[.cell .bool]),
 (53,[.cell .bool]),
 (18,[.cell .bool]),
 (19,[.cell .bool]),
 (55,[.cell .ptr]),
 (111,[.cell .bool]),
 (59,[.cell (.int .i64)]),
 (21,[.cell (.int .i64)]),
 (7,[.cell (.int .i64)]),
 (23,[]),
 (25,[.cell .bool]),
 (9,[.cell (.int .i64)]),
 (80,[.cell .bool]),
 (36,[.cell .bool]),
 (11,[.cell .bool]),
 (114,[.cell .bool]),
 (62,[.cell .bool]),
 (160,[.cell (.int .i64)]),
 (161,[.cell (.int .i64)]),
 (183,[.cell (.int .i64)]),
 (186,[.cell (.int .i64)])]
noncomputable def efT:List (Nat×List RK):=[
 (2,[]),
 (71,[.agg [.int .i64,.int .i64,.int .i64,.slice,.slice]]),
 (27,[.agg [.int .i64,.slice,.slice,.slice]]),
 (30,[.agg [.int .i64,.slice,.slice,.slice]]),
 (31,[.cell .slice]),
 (128,[.agg [.int .i64,.int .i64,.int .i64,.slice,.slice]]),
 (73,[.agg [.int .i64,.int .i64,.int .i64,.slice,.slice],.cell (.int .i64)]),
 (32,[.agg [.int .i64,.slice,.slice,.slice],.cell .bool]),
 (74,[.agg [.int .i64,.slice,.slice,.slice]]),
 (75,[.agg [.int .i64,.slice,.slice,.slice]]),
 (76,[.agg [.int .i64,.slice,.slice,.slice]]),
 (33,[.agg [.int .i64,.slice,.slice,.slice]]),
 (35,[.agg [.int .i64,.slice,.slice,.slice]]),
 (10,[.agg [.int .i64,.slice,.slice,.slice],.cell (.int .i64)]),
 (12,[.cell .ptr]),
 (37,[.agg [.bool,.int .i64,.str,.int .i64,.int .i64,.int .i64,.int .i64,.int .i64,.int .i64,.int .i64,.int .i64,.slice,.slice,.slice]]),
 (13,[.agg [.int .i64,.slice,.slice,.slice],.cell .bool]),
 (14,[.cell (.int .i64)]),
 (38,[.agg [.int .i64,.slice,.slice,.slice],.cell (.int .i64)]),
 (15,[.agg [.int .i64,.slice,.slice,.slice],.cell (.int .i64),.cell (.int .i64)]),
 (42,[.agg [.int .i64,.slice,.slice,.slice],.cell (.int .i64)]),
 (44,[.agg [.int .i64,.slice,.slice,.slice]]),
 (16,[.agg [.int .i64,.slice,.slice,.slice],.cell (.int .i64)]),
 (17,[.agg [.int .i64,.slice,.slice,.slice],.cell (.int .i64),.cell (.int .i64)]),
 (5,[.agg [.int .i64,.slice,.slice,.slice]]),
 (131,[.cell .slice,.cell .bool]),
 (56,[.cell .slice]),
 (57,[.cell .iface]),
 (58,[.cell (.int .i64)]),
 (139,[.agg [.int .i64,.int .i64,.int .i64,.slice,.slice]]),
 (112,[.agg [.int .i64,.slice,.slice,.slice]]),
 (143,[.cell .bool]),
 (113,[.cell .bool]),
 (60,[.agg [.int .i64,.slice,.slice,.slice],.cell (.int .i64)]),
 (22,[.agg [.int .i64,.slice,.slice,.slice],.cell (.int .i64)]),
 (8,[.agg [.int .i64,.slice,.slice,.slice],.cell (.int .i64)]),
 (3,[.cell .bool]),
 (4,[.cell .bool]),
 (115,[]),
 (162,[]),
 (156,[.cell (.int .i64)]),
 (157,[.cell (.int .i64)]),
 (158,[.cell (.int .i64)]),
 (159,[.cell (.int .i64)]),
 (145,[.cell (.int .i64)]),
 (116,[.cell .bool]),
 (146,[]),
 (147,[]),
 (117,[]),
 (118,[.cell (.int .i64)]),
 (63,[]),
 (61,[.cell .iface]),
 (144,[]),
 (207,[])]
noncomputable def ttT:List (Nat×List RK):=[(0,[]),(127,[.cell (.int .i64),.cell .bool])]
def zmc (f:Func):Code:=match f.body with
 | some c=>c
 | none=>.skip
theorem z7f {β:Type}:∀{l:List (Nat×β)} {f:Nat} {k:β},asc l f=some k->(f,k)∈l
 | [],f,k,h=>by cases h
 | p::r,f,k,h=>by
  simp only [asc] at h
  cases hb:Nat.beq p.1 f with
  | true=>
   rw [hb] at h
   simp only [cond_true,Option.some.injEq] at h
   have:p.1=f:=Nat.eq_of_beq_eq_true hb
   rw [<-this,<-h]; exact List.mem_cons_self
  | false=>
   rw [hb] at h
   exact List.mem_cons_of_mem _ (z7f h)
theorem zakk:zai6 Tryz.prog tbl=true:=by kernel_rfl
theorem zak3:(pfT.all fun p=>zqf Tryz.prog p.1)=true:=by kernel_rfl
theorem zaku:(efT.all fun p=>zqf Tryz.prog p.1)=true:=by kernel_rfl
theorem zafu:Tryz.prog.follows .mixedOrders=true:=by kernel_rfl
theorem tok:TOk Tryz.prog (zkm tbl):=zahb (l:=tbl) zakk
theorem pok (f:Nat) (ks:List RK) (h:asc pfT f=some ks):zkf Tryz.prog f:=zv9 (List.all_eq_true.1 zak3 (f,ks) (z7f h))
theorem eok (f:Nat) (ks:List RK) (h:asc efT f=some ks):zkf Tryz.prog f:=zv9 (List.all_eq_true.1 zaku (f,ks) (z7f h))
theorem env (vis:List Nat) (n:Nat) (pm wr:Bool) (rd:Option Nat):Env { P:=Tryz.prog,T:=zkm tbl,pf:=pfT,ef:=efT,tt:=ttT,vis:=vis,n:=n,pm:=pm,wr:=wr,rd:=rd }:=
 ⟨tok,pok,eok,zafu⟩
noncomputable def zae0 (vis:List Nat) (n:Nat) (pm wr:Bool):Cfg:={ P:=Tryz.prog,T:=zkm tbl,pf:=pfT,ef:=efT,tt:=ttT,vis:=vis,n:=n,pm:=pm,wr:=wr }
def fits (fn:Func) (n:Nat):Bool:=Nat.ble n fn.ntmps&&Nat.ble fn.ntmps 4000&&fn.body.isSome
theorem z0y {fn:Func} {n:Nat} (h:fits fn n=true):n<=fn.ntmps/\fn.ntmps<=4000/\fn.body=some (zmc fn):=by
 unfold fits at h
 simp only [Bool.and_eq_true] at h
 refine ⟨Nat.le_of_ble_eq_true h.1.1,Nat.le_of_ble_eq_true h.1.2,?_⟩
 cases hb:fn.body with
 | none=>rw [hb] at h; cases h.2
 | some c=>simp [zmc,hb]
abbrev PuV (V:World->(Value->World->Prop)->Prop) (f:FuncId) (args:Array Value):Prop:=∀{w:World} {bs:List Nat} {ret:Value},(∀wr0,ExtX bs w wr0->V wr0 fun v0 _=>v0=ret)->zad bs Tryz.prog f args w ret
abbrev EfV (V:World->(Value->World->Prop)->Prop) (f:FuncId) (args:Array Value):Prop:=∀{w:World} {R:Value->World->Prop},V w R->Calls Tryz.prog f args w fun e0 wr0=>∃v0,e0 = .returned v0/\R v0 wr0
theorem pV (vis:List Nat) (wr:Bool) (sps:List (Nat×zea)) {f:FuncId} {fn:Func} {args:List Value} {V:World->(Value->World->Prop)->Prop} (hf:Tryz.prog.funcs[f]? = some fn) (hk:fits fn args.length=true) (hV:evFn (zae0 vis fn.ntmps true wr) sps args (zmc fn) fn.results.toList=V):PuV V f args.toArray:=fun {w bs ret} hvc=>
 zaas (C:=zae0 vis fn.ntmps true wr) (sps:=sps) (env _ _ _ _ _) hf (z0y hk).2.2 rfl (z0y hk).1 (z0y hk).2.1 rfl rfl fun wr0 hx0=>by rw [hV]; exact hvc wr0 hx0
theorem eV (vis:List Nat) (wr:Bool) (sps:List (Nat×zea)) {f:FuncId} {fn:Func} {args:List Value} {V:World->(Value->World->Prop)->Prop} (hf:Tryz.prog.funcs[f]? = some fn) (hk:fits fn args.length=true) (hV:evFn (zae0 vis fn.ntmps false wr) sps args (zmc fn) fn.results.toList=V):EfV V f args.toArray:=fun {w R} hvc=>
 zabq (C:=zae0 vis fn.ntmps false wr) (sps:=sps) (env _ _ _ _ _) hf (z0y hk).2.2 rfl (z0y hk).1 (z0y hk).2.1 rfl rfl (by rw [hV]; exact hvc)
end Go.Proofs.YtclpmgfpjeaibaaGreatDoor
