/- As many pipes, files and descriptors may be as there is room for: what finds none changes nothing; closed ones make room; no conditions. -/
import Derived.Test.YthhmplobccgeiaaGreatMc
import Derived.Test.YthhmplobccgeiaaGreatProg
import Derived.KernelRfl
set_option linter.all false
namespace Go.EQ
open Go Go.NN Go.Proofs
noncomputable abbrev PR:Program:=Tryz.prog
abbrev B9:FuncId:=11
abbrev Be9:FuncId:=13
abbrev Bx3:FuncId:=14
abbrev Bp8:FuncId:=15
abbrev R0:FuncId:=17
abbrev Q2:FuncId:=18
abbrev Q6:FuncId:=20
abbrev Q3:FuncId:=22
abbrev Q0:FuncId:=23
abbrev N6:FuncId:=24
abbrev I9:FuncId:=28
abbrev Ae6:FuncId:=31
abbrev Ba5:FuncId:=32
abbrev O1:FuncId:=33
abbrev V7:FuncId:=34
abbrev B69:FuncId:=35
abbrev H9:FuncId:=36
abbrev Ay8:FuncId:=40
abbrev Bh9:FuncId:=43
abbrev Bb4:FuncId:=46
abbrev A90:FuncId:=47
abbrev Ai4:FuncId:=48
abbrev Ag5:FuncId:=49
abbrev I2:FuncId:=50
abbrev H2:FuncId:=51
abbrev E7:FuncId:=52
abbrev A89:FuncId:=53
abbrev Aq6:FuncId:=54
abbrev Ax5:FuncId:=55
abbrev Al2:FuncId:=56
abbrev Aj5:FuncId:=57
abbrev Ba6:FuncId:=58
abbrev I5:FuncId:=59
abbrev Aq5:FuncId:=60
abbrev H4:FuncId:=61
abbrev Au6:FuncId:=62
abbrev Z0:FuncId:=63
abbrev A69:FuncId:=64
abbrev Ad9:FuncId:=65
abbrev A04:FuncId:=67
abbrev Ax0:FuncId:=68
abbrev I7:FuncId:=69
abbrev A37:FuncId:=70
abbrev A22:FuncId:=71
abbrev A16:FuncId:=72
abbrev W5:FuncId:=73
abbrev A41:FuncId:=74
abbrev Aq7:FuncId:=75
abbrev Am9:FuncId:=76
abbrev O3:FuncId:=77
abbrev A13:FuncId:=78
abbrev A21:FuncId:=79
abbrev Ay3:FuncId:=80
abbrev Ap7:FuncId:=81
abbrev E9:FuncId:=82
abbrev Ay0:FuncId:=83
abbrev J0:FuncId:=84
abbrev A25:FuncId:=85
abbrev B8:FuncId:=91
abbrev Ad2:FuncId:=97
abbrev B67:FuncId:=98
abbrev W2:FuncId:=99
abbrev A28:FuncId:=100
abbrev A19:FuncId:=101
abbrev Dh9:FuncId:=102
abbrev D51:FuncId:=103
abbrev Bn3:FuncId:=106
abbrev U7:FuncId:=107
abbrev P5:FuncId:=108
abbrev Al3:FuncId:=109
abbrev P7:FuncId:=110
abbrev A97:FuncId:=111
abbrev U8:FuncId:=112
abbrev Du0:FuncId:=113
abbrev Aw9:FuncId:=114
abbrev Ap4:FuncId:=115
abbrev B04:FuncId:=116
abbrev Dg5:FuncId:=117
abbrev An7:FuncId:=118
abbrev O0:FuncId:=119
abbrev L5:FuncId:=120
abbrev A78:FuncId:=121
abbrev Y5:FuncId:=122
abbrev M6:FuncId:=123
abbrev Y4:FuncId:=124
abbrev Bi7:FuncId:=125
abbrev Av0:FuncId:=126
abbrev A50:FuncId:=127
abbrev A58:FuncId:=128
abbrev Av1:FuncId:=129
abbrev Ef0:FuncId:=130
abbrev Am5:FuncId:=131
abbrev Ee4:FuncId:=132
abbrev Ej3:FuncId:=133
abbrev Ef3:FuncId:=134
abbrev Ej2:FuncId:=135
abbrev Ew0:FuncId:=136
abbrev Ds3:FuncId:=137
abbrev Ev0:FuncId:=138
abbrev Ev4:FuncId:=139
abbrev A62:FuncId:=140
abbrev Ae5:FuncId:=141
abbrev E5:FuncId:=142
abbrev Be8:FuncId:=143
abbrev S9:FuncId:=144
abbrev P3:FuncId:=145
abbrev N4:FuncId:=146
abbrev Al1:FuncId:=147
abbrev U1:FuncId:=148
abbrev Ab1:FuncId:=149
abbrev Z4:FuncId:=150
abbrev Ak4:FuncId:=151
abbrev Av8:FuncId:=152
abbrev Ee9:FuncId:=153
abbrev At2:FuncId:=154
abbrev Av4:FuncId:=155
abbrev A06:FuncId:=156
abbrev A09:FuncId:=157
abbrev Ba2:FuncId:=158
abbrev U0:FuncId:=159
abbrev S8:FuncId:=160
abbrev Ba3:FuncId:=161
abbrev U3:FuncId:=162
abbrev Z7:FuncId:=163
abbrev Be5:FuncId:=164
abbrev G0:FuncId:=165
abbrev U4:FuncId:=166
abbrev Ba7:FuncId:=171
abbrev Z9:FuncId:=172
abbrev Aa1:FuncId:=173
abbrev G2:FuncId:=174
abbrev E2:FuncId:=175
abbrev By6:FuncId:=176
abbrev N9:FuncId:=177
abbrev A36:FuncId:=178
abbrev G7:FuncId:=179
abbrev Aj1:FuncId:=180
abbrev Ar6:FuncId:=181
abbrev Y6:FuncId:=182
abbrev Af2:FuncId:=183
abbrev Ah5:FuncId:=184
abbrev A66:FuncId:=185
abbrev Ap3:FuncId:=186
abbrev A77:FuncId:=187
abbrev P4:FuncId:=194
abbrev M0:FuncId:=195
abbrev Ao8:FuncId:=196
abbrev Bi4:FuncId:=197
abbrev Bi8:FuncId:=198
abbrev O9:FuncId:=199
abbrev Ac7:FuncId:=200
abbrev Y8:FuncId:=201
abbrev Bd6:FuncId:=202
abbrev As2:FuncId:=203
abbrev Ah0:FuncId:=206
abbrev Aw8:FuncId:=207
abbrev As1:FuncId:=208
abbrev B7:FuncId:=209
abbrev A07:FuncId:=210
abbrev Ao4:FuncId:=211
abbrev N5:FuncId:=212
abbrev V5:FuncId:=213
abbrev Am7:FuncId:=214
abbrev Aq1:FuncId:=215
abbrev Ap5:FuncId:=216
abbrev D5:FuncId:=217
abbrev H6:FuncId:=218
abbrev V3:FuncId:=219
abbrev A83:FuncId:=220
abbrev Dt8:FuncId:=223
abbrev D0:FuncId:=224
abbrev E6:FuncId:=225
abbrev Ab7:FuncId:=226
abbrev Ad1:FuncId:=229
abbrev A03:FuncId:=230
abbrev Di0:FuncId:=231
abbrev Bf0:FuncId:=232
abbrev Bz8:FuncId:=233
abbrev De9:FuncId:=234
abbrev Ap8:FuncId:=235
abbrev Aj4:FuncId:=238
abbrev Bg9:FuncId:=239
abbrev B5:TypeId:=3
abbrev E61:TypeId:=4
abbrev A6:TypeId:=5
abbrev Bc3:TypeId:=25
abbrev Dl4:TypeId:=30
abbrev Bx2:TypeId:=33
abbrev H1:TypeId:=40
abbrev P1:TypeId:=48
abbrev Ge6:TypeId:=50
abbrev D1:TypeId:=52
abbrev Ek6:TypeId:=55
abbrev Aw4:TypeId:=58
abbrev E1:TypeId:=67
abbrev V0:TypeId:=76
abbrev Dj1:TypeId:=92
abbrev D8:TypeId:=99
abbrev Bu8:TypeId:=109
abbrev Dd4:TypeId:=115
abbrev D6:TypeId:=120
abbrev B71:TypeId:=132
abbrev Do8:TypeId:=147
abbrev Au3:TypeId:=150
abbrev H8:TypeId:=180
abbrev Au7:TypeId:=187
abbrev O2:TypeId:=194
abbrev Ez5:TypeId:=200
abbrev D02:TypeId:=204
abbrev Ba0:TypeId:=205
abbrev Dr6:TypeId:=218
abbrev G1:TypeId:=219
abbrev Ar1:TypeId:=222
abbrev Bd5:TypeId:=227
abbrev Eh5:TypeId:=249
abbrev D60:TypeId:=250
abbrev Au8:TypeId:=257
abbrev Ex8:TypeId:=259
abbrev Ei3:TypeId:=263
abbrev Ei2:TypeId:=267
abbrev A42:TypeId:=268
abbrev Bo0:TypeId:=270
abbrev Ex1:TypeId:=272
abbrev Bu1:TypeId:=283
abbrev Ak2:TypeId:=285
abbrev Bn1:TypeId:=289
abbrev Bn8:TypeId:=303
abbrev Ai5:TypeId:=307
abbrev Eh7:TypeId:=312
abbrev Be7:TypeId:=314
abbrev H90:TypeId:=328
end Go.EQ

set_option maxRecDepth 100000
namespace Go.EQ
open Go Go.NN Go.Proofs
variable (C : A4) (R : A5)
noncomputable section
def Dp3:Cuts:={ globs:=0,loops:=[],regs:=[],plans:=[] }
def Ep7:List Item:=A7 Tryz.f14
theorem G41 (C:A4) (R:A5)  (h:H) :
 A8 PR Dp3 C R Bx3 Tryz.f14 100000 true Ep7 [] h =
 nw (.cells Bx2 false [.slice none 0 0,.slice none 0 0,.int .i64 0]) h fun b w=>nw (.cells E61 false [.bool false,.bool false]) w fun b_1 w1=>nw (.cells Bu8 false [.int .i64 0,.int .i64 1,.int .i64 1,.int .i64 0]) w1 fun b_2 w2=>pAgg ⟨b,0,none⟩ [.slice (some ⟨b_1,0,none⟩) 2 2,.slice (some ⟨b_2,0,none⟩) 2 2,.int .i64 5] w2 fun w3=>gAgg ⟨b,0,none⟩ 3 w3 fun x=>some (.agg ⟨x⟩,w3):=by kernel_rfl
def Bz1:Cuts:={ globs:=0,loops:=[(9,[6,7,8,9,10,11,12])],regs:=[],plans:=[] }
def Dm2:List Item:=A7 Tryz.f31
def Bc5:List Item:=stk [0,1,0,1,0,1,0,1,0,1,0,1,0,1,0,0,1,4,5] Dm2
theorem Gy3 (C:A4) (R:A5) (b:Option Addr) (bn bc:Nat) (h:H) :
 A8 PR Bz1 C R Ae6 Tryz.f31 100000 true Dm2 [(0,.slice b bn bc)] h =
 bnd (C Bx3 [] h) fun r w=>aAgg r fun x=>bnd (C Be9 [.agg ⟨x⟩] w) fun r_1 w1=>as4 r_1 fun r_2 r_3 r_4 r_5=>aPtr r_2 fun x_1=>aPtr r_3 fun x_2=>aPtr r_4 fun x_3=>aPtr r_5 fun x_4=>bnd (cond x_2.isNone (some (true,w1)) (some (((bn:Nat):Int) != 492,w1))) fun c w2=>cond c
 (some (.tuple ⟨[.pointer none,.pointer none,.pointer none,.pointer none]⟩,w2))
 (nw (.cells Aw4 false [.int .i64 0,.int .i64 0,.int .i64 0,.int .i64 0,.int .i64 0,.int .i64 0,.slice none 0 0]) w2 fun b_1 w3=>pAgg ⟨b_1,0,none⟩ [.int .i64 2,.int .i64 256,.int .i64 0,.int .i64 0,.int .i64 0,.int .i64 0,.slice b bn bc] w3 fun w4=>bnd (C O3 [.agg ⟨[.int .i64 0,.int .i64 0,.int .i64 1,.int .i64 1,.int .u8 0,.int .u8 0,.int .u8 0,.int .u8 0,.int .u8 0,.int .u8 0,.int .u8 0,.int .u8 0,.int .u8 0,.int .u8 0,.int .u8 0,.int .u8 0,.int .u8 0,.int .u8 0,.int .u8 0,.int .u8 0,.int .u8 0,.int .u8 0,.int .u8 0,.int .u8 0,.int .u8 0,.int .u8 0,.int .u8 0,.int .u8 0,.int .u8 0,.int .u8 0,.int .u8 0,.int .u8 0,.int .u8 0,.int .u8 0,.int .u8 0,.int .u8 0]⟩] w4) fun r_6 w5=>aStr r_6 fun x_5=>gAgg ⟨b_1,0,none⟩ 7 w5 fun x_6=>bnd (C Q3 [.pointer x_1,.int .i64 0,.agg ⟨x_6⟩] w5) fun r_7 w6=>aAgg r_7 fun _=>gAgg ⟨b_1,0,none⟩ 7 w6 fun x_8=>bnd (C Aq6 [.pointer x_3,.int .i64 0,.agg ⟨x_8⟩] w6) fun r_8 w7=>as3 r_8 fun r_9 r_10 r_11=>aInt .i64 r_9 fun _=>aInt .i64 r_10 fun _=>aStr r_11 fun _=>R Ae6 Bc5 [(6,.pointer x_1),(7,.pointer x_2),(8,.pointer x_3),(9,.pointer x_4),(10,.pointer (some ⟨b_1,0,none⟩)),(11,.string x_5),(12,.int .i64 1)] w7):=by kernel_rfl
theorem Bw3 (C:A4) (R:A5) (k:Option Addr) (c:Option Addr) (wv:Option Addr) (m:Option Addr) (x:Addr) (pipe:ByteArray) (i:Int) (h:H) :
 A8 PR Bz1 C R Ae6 Tryz.f31 100000 true Bc5 [(6,.pointer k),(7,.pointer c),(8,.pointer wv),(9,.pointer m),(10,.pointer (some x)),(11,.string pipe),(12,.int .i64 i)] h =
 cond (decide (i<3))
 (ck (ByteArray.size pipe≤B1) (nw (.cells A6 false (A0 (ByteArray.data pipe).toList)) h fun b w=>pAgg x [.int .i64 2,.int .i64 (IntKind.wrap .i64 (256+i)),.int .i64 0,.int .i64 0,.int .i64 0,.int .i64 0,.slice (some (J5 b)) (ByteArray.size pipe) (ByteArray.size pipe)] w fun w1=>gAgg x 7 w1 fun x_1=>bnd (C Q3 [.pointer k,.int .i64 0,.agg ⟨x_1⟩] w1) fun r w2=>aAgg r fun _=>gAgg x 7 w2 fun x_3=>bnd (C Aq6 [.pointer wv,.int .i64 0,.agg ⟨x_3⟩] w2) fun r_1 w3=>as3 r_1 fun r_2 r_3 r_4=>aInt .i64 r_2 fun _=>aInt .i64 r_3 fun _=>aStr r_4 fun _=>R Ae6 Bc5 [(6,.pointer k),(7,.pointer c),(8,.pointer wv),(9,.pointer m),(10,.pointer (some x)),(11,.string pipe),(12,.int .i64 (IntKind.wrap .i64 (i+1)))] w3))
 (some (.tuple ⟨[.pointer k,.pointer c,.pointer wv,.pointer m]⟩,h)):=by kernel_rfl
def Bb7:Cuts:={ globs:=0,loops:=[],regs:=[],plans:=[] }
def B22:List Item:=A7 Tryz.f33
theorem Ee6 (C:A4) (R:A5) (k:Option Addr) (h:H) :
 A8 PR Bb7 C R O1 Tryz.f33 100000 true B22 [(0,.pointer k)] h =
 aSome k fun p=>gPtr (Addr.add p 5) h fun x=>some (.pointer x,h):=by kernel_rfl
def A54:Cuts:={ globs:=0,loops:=[],regs:=[],plans:=[(3,⟨[0,1,2,3,4,5,6,7,8,9,10,11,12,13,14,15,16,17,18,19,20,21,22,23,24],[0,1,3,7,0,16,48,112,0,496,1008,2032,0,4096,12288,28672,0,126976,258048,520192,1048575,2097151,2097151,8388607,16777215],[],[]⟩)] }
def By7:List Item:=A7 Tryz.f34
theorem D54 (C:A4) (R:A5) (r:Option Addr) (obj:Int) (h:H) :
 A8 PR A54 C R V7 Tryz.f34 100000 true By7 [(0,.pointer r),(1,.int .i64 obj)] h =
 bnd (cond (decide (obj<0)) (some (true,h)) (aSome r fun p=>gSl (Addr.add p 2) h fun _ xn _=>some (decide (obj≥((xn:Nat):Int)),h))) fun c w=>cond c
 (some (.tuple ⟨[.slice none 0 0,.int .i64 1]⟩,w))
 (aSome r fun p_1=>gPtr (Addr.add p_1 0) w fun x_1=>aSome r fun p_2=>gSl (Addr.add p_2 2) w fun x_2 xn_1 _=>aSome x_2 fun p_3=>ck ((0:Int)≤obj∧obj<((xn_1:Nat):Int)) (gInt .i64 (Addr.add (Addr.add (B3 p_3) (Int.toNat obj*2)) 0) w fun x_3=>aSome r fun p_4=>gSl (Addr.add p_4 2) w fun x_4 xn_2 _=>aSome x_4 fun p_5=>ck ((0:Int)≤obj∧obj<((xn_2:Nat):Int)) (gInt .i64 (Addr.add (Addr.add (B3 p_5) (Int.toNat obj*2)) 1) w fun x_5=>bnd (C A21 [.pointer x_1,.int .i64 x_3,.int .i64 x_5] w) fun r_1 w1=>as2 r_1 fun r_2 r_3=>aSl r_2 fun x_6 xn_3 xc_3=>aInt .i64 r_3 fun x_7=>some (.tuple ⟨[.slice x_6 xn_3 xc_3,.int .i64 x_7]⟩,w1)))):=by kernel_rfl
def D79:Cuts:={ globs:=0,loops:=[],regs:=[],plans:=[(11,⟨[0,1,2,3,4,5,6,7,8,9,10,11,12,13,14,15,16,17,18,19,20,21,22,23,24,25,26,27,28],[0,0,2,6,0,31,63,127,127,383,895,127,2175,6271,14463,32767,65535,131071,262143,262143,786431,1835007,262143,4456447,12845055,29622271,67108863,134217727,268435455],[],[]⟩),(12,⟨[0,1,2,3,4,5,6,7,8,9,10,11,12,13,14,15,17,16,18,19],[0,1,3,0,8,24,0,64,192,448,0,1024,3072,7168,0,17351,50119,0,262143,524287],[(16,[5,12])],[]⟩),(13,⟨[0,1,7,8,9,10,11,12,13,14,2,3,4,5,6,15,16],[0,1,3,3,3,31,63,0,128,384,0,1024,3072,7168,16256,32767,65535],[(5,[9,12])],[]⟩)] }
def E85:List Item:=A7 Tryz.f43
theorem Hn8 (C:A4) (R:A5) (c:Option Addr) (i:Int) (h:H) :
 A8 PR D79 C R Bh9 Tryz.f43 100000 true E85 [(0,.pointer c),(1,.int .i64 i)] h =
 nw (.cells Bc3 false [.pointer c]) h fun b w=>nw (.cells V0 false [.int .i64 0,.int .i64 0,.slice none 0 0,.bool false]) w fun b_1 w1=>gPtr ⟨b,0,none⟩ w1 fun x=>bnd (C Ay8 [.pointer x,.int .i64 i] w1) fun r w2=>as2 r fun r_1 r_2=>aAgg r_1 fun x_1=>aInt .i64 r_2 fun x_2=>nw (.cells D1 false [.int .i64 0,.int .i64 0,.int .i64 0,.int .i64 0,.int .i64 0,.int .i64 0,.int .i64 0,.int .i64 0,.int .i64 0,.int .i64 0,.int .i64 0,.int .i64 0,.int .i64 0,.int .i64 0,.int .i64 0,.int .i64 0]) w2 fun b_2 w3=>ck (List.length x_1=16) (pAgg ⟨b_2,0,none⟩ x_1 w3 fun w4=>cond (x_2 != 0)
 (bnd (C Ad2 [.int .i64 x_2] w4) fun r_3 w5=>aAgg r_3 fun x_3=>ck (List.length x_3=4) (pAgg ⟨b_1,0,none⟩ x_3 w5 fun w6=>gAgg ⟨b_1,0,none⟩ 4 w6 fun x_4=>some (.agg ⟨x_4⟩,w6)))
 (gAgg ⟨b_2,0,none⟩ 16 w4 fun x_5=>bnd (C B67 [.agg ⟨x_5⟩,.int .i64 2] w4) fun r_4 w7=>aSl r_4 fun x_6 xn _=>cond (decide (((xn:Nat):Int)<2))
 (bnd (C Ad2 [.int .i64 124] w7) fun r_5 w8=>aAgg r_5 fun x_7=>ck (List.length x_7=4) (pAgg ⟨b_1,0,none⟩ x_7 w8 fun w9=>gAgg ⟨b_1,0,none⟩ 4 w9 fun x_8=>some (.agg ⟨x_8⟩,w9)))
 (bnd (C W2 [.int .i64 12,.int .i64 2,.func (.func A28) ⟨[]⟩ ⟨[.pointer (some ⟨b,0,none⟩)]⟩] w7) fun r_6 w10=>aSl r_6 fun x_9 xn_1 _=>bnd (C W2 [.int .i64 4,.int .i64 1,.func (.func A19) ⟨[]⟩ ⟨[.pointer (some ⟨b,0,none⟩)]⟩] w10) fun r_7 w11=>aSl r_7 fun x_10 xn_2 _=>bnd (cond (decide (((xn_1:Nat):Int)<2)) (some (true,w11)) (some (((xn_2:Nat):Int)==0,w11))) fun c_1 w12=>cond c_1
 (bnd (C Ad2 [.int .i64 123] w12) fun r_8 w13=>aAgg r_8 fun x_11=>ck (List.length x_11=4) (pAgg ⟨b_1,0,none⟩ x_11 w13 fun w14=>gAgg ⟨b_1,0,none⟩ 4 w14 fun x_12=>some (.agg ⟨x_12⟩,w14)))
 (gPtr ⟨b,0,none⟩ w12 fun x_13=>aSome x_10 fun p=>ck ((0:Int)≤0∧0<((xn_2:Nat):Int)) (gInt .i64 (Addr.add (B3 p) (Int.toNat 0*1)) w12 fun x_14=>bnd (C R0 [.pointer x_13,.int .i64 x_14,.agg ⟨[.int .i64 0,.int .i64 0,.int .i64 1,.int .i64 1,.int .u8 0,.int .u8 0,.int .u8 0,.int .u8 0,.int .u8 0,.int .u8 0,.int .u8 0,.int .u8 0,.int .u8 0,.int .u8 0,.int .u8 0,.int .u8 0,.int .u8 0,.int .u8 0,.int .u8 0,.int .u8 0,.int .u8 0,.int .u8 0,.int .u8 0,.int .u8 0,.int .u8 0,.int .u8 0,.int .u8 0,.int .u8 0,.int .u8 0,.int .u8 0,.int .u8 0,.int .u8 0,.int .u8 0,.int .u8 0,.int .u8 0,.int .u8 0]⟩] w12) fun r_9 w15=>aBool r_9 fun x_15=>bnd (cond x_15 (gPtr ⟨b,0,none⟩ w15 fun x_16=>aSome x_9 fun p_1=>ck ((0:Int)≤0∧0<((xn_1:Nat):Int)) (gInt .i64 (Addr.add (B3 p_1) (Int.toNat 0*1)) w15 fun x_17=>aSome x_10 fun p_2=>ck ((0:Int)≤0∧0<((xn_2:Nat):Int)) (gInt .i64 (Addr.add (B3 p_2) (Int.toNat 0*1)) w15 fun x_18=>bnd (C I9 [.pointer x_16,.int .i64 x_17,.agg ⟨[.int .i64 1,.int .i64 x_18,.int .i64 1,.int .i64 0]⟩] w15) fun r_10 w16=>aBool r_10 fun x_19=>some (x_19,w16)))) (some (false,w15))) fun c_2 w17=>bnd (cond c_2 (gPtr ⟨b,0,none⟩ w17 fun x_20=>aSome x_9 fun p_3=>ck ((0:Int)≤1∧1<((xn_1:Nat):Int)) (gInt .i64 (Addr.add (B3 p_3) (Int.toNat 1*1)) w17 fun x_21=>aSome x_10 fun p_4=>ck ((0:Int)≤0∧0<((xn_2:Nat):Int)) (gInt .i64 (Addr.add (B3 p_4) (Int.toNat 0*1)) w17 fun x_22=>bnd (C I9 [.pointer x_20,.int .i64 x_21,.agg ⟨[.int .i64 2,.int .i64 x_22,.int .i64 1,.int .i64 0]⟩] w17) fun r_11 w18=>aBool r_11 fun x_23=>some (x_23,w18)))) (some (false,w17))) fun c_3 w19=>aSome x_6 fun p_5=>ck ((0:Int)≤0∧0<((xn:Nat):Int)) (gInt .i64 (Addr.add (B3 p_5) (Int.toNat 0*1)) w19 fun x_24=>aSome x_6 fun p_6=>ck ((0:Int)≤1∧1<((xn:Nat):Int)) (gInt .i64 (Addr.add (B3 p_6) (Int.toNat 1*1)) w19 fun x_25=>aSome x_9 fun p_7=>ck ((0:Int)≤0∧0<((xn_1:Nat):Int)) (gInt .i64 (Addr.add (B3 p_7) (Int.toNat 0*1)) w19 fun x_26=>aSome x_9 fun p_8=>ck ((0:Int)≤1∧1<((xn_1:Nat):Int)) (gInt .i64 (Addr.add (B3 p_8) (Int.toNat 1*1)) w19 fun x_27=>ck ((0:Int)≤x_24∧x_24<((8:Nat):Int)) (pV (Addr.add (Addr.add ⟨b_2,0,none⟩ 8) (Int.toNat x_24*1)) (.int .i64 (IntKind.wrap .i64 (x_26+1))) w19 fun w20=>gInt .i64 (Addr.add (B3 p_6) (Int.toNat 1*1)) w20 fun x_28=>same (.int .i64 x_25) (.int .i64 x_28) (gInt .i64 (Addr.add (B3 p_8) (Int.toNat 1*1)) w20 fun x_29=>same (.int .i64 x_27) (.int .i64 x_29) (ck ((0:Int)≤x_25∧x_25<((8:Nat):Int)) (pV (Addr.add (Addr.add ⟨b_2,0,none⟩ 8) (Int.toNat x_25*1)) (.int .i64 (IntKind.wrap .i64 (x_27+1))) w20 fun w21=>aSome x_6 fun p_9=>ck ((0:Int)≤0∧0<((xn:Nat):Int)) (gInt .i64 (Addr.add (B3 p_9) (Int.toNat 0*1)) w21 fun x_30=>aSome x_6 fun p_10=>ck ((0:Int)≤1∧1<((xn:Nat):Int)) (gInt .i64 (Addr.add (B3 p_10) (Int.toNat 1*1)) w21 fun x_31=>bnd (cond c_3 (gPtr ⟨b,0,none⟩ w21 fun x_32=>gAgg ⟨b_2,0,none⟩ 16 w21 fun x_33=>bnd (C N6 [.pointer x_32,.int .i64 i,.agg ⟨x_33⟩] w21) fun r_12 w22=>aBool r_12 fun x_34=>gInt .i64 (Addr.add (B3 p_9) (Int.toNat 0*1)) w22 fun x_35=>same (.int .i64 x_30) (.int .i64 x_35) (gInt .i64 (Addr.add (B3 p_10) (Int.toNat 1*1)) w22 fun x_36=>same (.int .i64 x_31) (.int .i64 x_36) (some (x_34,w22)))) (some (false,w21))) fun c_4 w23=>bnd (C Dh9 [.bool c_4,.int .i64 (IntKind.wrap .i64 (x_30+(IntKind.wrap .i64 (16*x_31))))] w23) fun r_13 w24=>aAgg r_13 fun x_37=>ck (List.length x_37=4) (pAgg ⟨b_1,0,none⟩ x_37 w24 fun w25=>gAgg ⟨b_1,0,none⟩ 4 w25 fun x_38=>some (.agg ⟨x_38⟩,w25))))))))))))))))):=by kernel_rfl
def Ay2:Cuts:={ globs:=0,loops:=[],regs:=[],plans:=[] }
def Bn2:List Item:=A7 Tryz.f48
theorem Dw0 (C:A4) (R:A5) (c:Option Addr) (h:H) :
 A8 PR Ay2 C R Ai4 Tryz.f48 100000 true Bn2 [(0,.pointer c)] h =
 nw (.cells H1 false [.int .i64 0,.int .i64 0,.int .i64 0,.int .i64 0,.int .u8 0,.int .u8 0,.int .u8 0,.int .u8 0,.int .u8 0,.int .u8 0,.int .u8 0,.int .u8 0,.int .u8 0,.int .u8 0,.int .u8 0,.int .u8 0,.int .u8 0,.int .u8 0,.int .u8 0,.int .u8 0,.int .u8 0,.int .u8 0,.int .u8 0,.int .u8 0,.int .u8 0,.int .u8 0,.int .u8 0,.int .u8 0,.int .u8 0,.int .u8 0,.int .u8 0,.int .u8 0,.int .u8 0,.int .u8 0,.int .u8 0,.int .u8 0]) h fun b w=>bnd (C H4 [.pointer c,.agg ⟨[.int .i64 4,.int .i64 0]⟩,.func (.func Au6) ⟨[]⟩ ⟨[]⟩] w) fun r w1=>as2 r fun r_1 r_2=>aAgg r_1 fun x=>aInt .i64 r_2 fun x_1=>ck (List.length x=36) (pAgg ⟨b,0,none⟩ x w1 fun w2=>gAgg ⟨b,0,none⟩ 36 w2 fun x_2=>some (.tuple ⟨[.agg ⟨x_2⟩,.int .i64 x_1]⟩,w2)):=by kernel_rfl
def At8:Cuts:={ globs:=0,loops:=[],regs:=[],plans:=[] }
def Bk5:List Item:=A7 Tryz.f49
theorem Dp7 (C:A4) (R:A5) (c:Option Addr) (h:H) :
 A8 PR At8 C R Ag5 Tryz.f49 100000 true Bk5 [(0,.pointer c)] h =
 bnd (C P5 [.pointer c,.agg ⟨[.int .i64 5,.int .i64 0]⟩,.func (.func Al3) ⟨[]⟩ ⟨[]⟩] h) fun r w=>as2 r fun r_1 r_2=>aInt .i64 r_1 fun x=>aInt .i64 r_2 fun x_1=>some (.tuple ⟨[.int .i64 x,.bool (x_1==1)]⟩,w):=by kernel_rfl
def A26:Cuts:={ globs:=0,loops:=[(3,[1,2,3,4]),(7,[1,2,3,4,5]),(13,[1,2,3,6])],regs:=[],plans:=[] }
def Bh1:List Item:=A7 Tryz.f50
def Bc6:List Item:=stk [0,1,0,1,0,0,1,4,5] Bh1
def Ax6:List Item:=stk [0,1,0,1,0,0,1,4,5,6,0,1,0,4,0,1,0,0,1,4,5] Bh1
def Be1:List Item:=stk [0,1,0,1,0,1,0,0,1,4,5] Bh1
theorem Gt1 (C:A4) (R:A5) (p:List Value) (h:H) :
 A8 PR A26 C R I2 Tryz.f50 100000 true Bh1 [(0,.agg ⟨p⟩)] h =
 nw (.cells Bx2 false p) h fun b w=>nw (.cells D8 false [.slice none 0 0,.slice none 0 0,.slice none 0 0,.int .i64 0,.slice none 0 0]) w fun b_1 w1=>gInt .i64 (Addr.add ⟨b,0,none⟩ 2) w1 fun x=>nw (.cells D8 false [.slice none 0 0,.slice none 0 0,.slice none 0 0,.int .i64 0,.slice none 0 0]) w1 fun b_2 w2=>pAgg ⟨b_2,0,none⟩ [.slice none 0 0,.slice none 0 0,.slice none 0 0,.int .i64 x,.slice none 0 0] w2 fun w3=>R I2 Bc6 [(1,.pointer (some ⟨b,0,none⟩)),(2,.pointer (some ⟨b_1,0,none⟩)),(3,.pointer (some ⟨b_2,0,none⟩)),(4,.int .i64 0)] w3:=by kernel_rfl
theorem Dr5 (C:A4) (R:A5) (p:Addr) (x2:Addr) (b:Addr) (s:Int) (h:H) :
 A8 PR A26 C R I2 Tryz.f50 100000 true Bc6 [(1,.pointer (some p)),(2,.pointer (some x2)),(3,.pointer (some b)),(4,.int .i64 s)] h =
 gSl (Addr.add p 0) h fun _ xn _=>cond (decide (s<((xn:Nat):Int)))
 (gSl (Addr.add b 0) h fun x_1 xn_1 xc_1=>nw (.cells B5 false [.int .i64 20]) h fun b_1 w=>gCells (some ⟨b_1,0,none⟩) (1*1) w fun cs=>ckB (fitsOpen x_1 B5 w) (apd B5 1 x_1 xn_1 xc_1 1 cs w fun a an ac w1=>pV (Addr.add b 0) (.slice a an ac) w1 fun w2=>R I2 Ax6 [(1,.pointer (some p)),(2,.pointer (some x2)),(3,.pointer (some b)),(4,.int .i64 s),(5,.int .i64 0)] w2))
 (R I2 Be1 [(1,.pointer (some p)),(2,.pointer (some x2)),(3,.pointer (some b)),(6,.int .i64 0)] h):=by kernel_rfl
theorem Ds6 (C:A4) (R:A5) (p:Addr) (x2:Addr) (b:Addr) (s:Int) (i:Int) (h:H) :
 A8 PR A26 C R I2 Tryz.f50 100000 true Ax6 [(1,.pointer (some p)),(2,.pointer (some x2)),(3,.pointer (some b)),(4,.int .i64 s),(5,.int .i64 i)] h =
 cond (decide (i<9))
 (gSl (Addr.add b 1) h fun x xn xc=>nw (.cells B5 false [.int .i64 s]) h fun b_1 w=>gCells (some ⟨b_1,0,none⟩) (1*1) w fun cs=>ckB (fitsOpen x B5 w) (apd B5 1 x xn xc 1 cs w fun a an ac w1=>pV (Addr.add b 1) (.slice a an ac) w1 fun w2=>R I2 Ax6 [(1,.pointer (some p)),(2,.pointer (some x2)),(3,.pointer (some b)),(4,.int .i64 s),(5,.int .i64 (IntKind.wrap .i64 (i+1)))] w2))
 (gSl (Addr.add b 2) h fun x_1 xn_1 xc_1=>nw (.cells B5 false [.int .i64 s]) h fun b_2 w3=>nw (.cells P1 false [.slice (some ⟨b_2,0,none⟩) 1 1]) w3 fun b_3 w4=>gCells (some ⟨b_3,0,none⟩) (1*1) w4 fun cs_1=>ckB (fitsOpen x_1 P1 w4) (apd P1 1 x_1 xn_1 xc_1 1 cs_1 w4 fun a_1 an_1 ac_1 w5=>pV (Addr.add b 2) (.slice a_1 an_1 ac_1) w5 fun w6=>gSl (Addr.add b 4) w6 fun x_2 xn_2 xc_2=>nw (.cells B5 false [.int .i64 s]) w6 fun b_4 w7=>nw (.cells H8 false [.int .i64 s,.int .i64 0,.int .i64 0,.int .i64 492,.slice (some ⟨b_4,0,none⟩) 1 1]) w7 fun b_5 w8=>gCells (some ⟨b_5,0,none⟩) (1*5) w8 fun cs_2=>ckB (fitsOpen x_2 H8 w8) (apd H8 5 x_2 xn_2 xc_2 1 cs_2 w8 fun a_2 an_2 ac_2 w9=>pV (Addr.add b 4) (.slice a_2 an_2 ac_2) w9 fun w10=>R I2 Bc6 [(1,.pointer (some p)),(2,.pointer (some x2)),(3,.pointer (some b)),(4,.int .i64 (IntKind.wrap .i64 (s+1)))] w10))):=by kernel_rfl
theorem Dq4 (C:A4) (R:A5) (p:Addr) (x2:Addr) (b:Addr) (i:Int) (h:H) :
 A8 PR A26 C R I2 Tryz.f50 100000 true Be1 [(1,.pointer (some p)),(2,.pointer (some x2)),(3,.pointer (some b)),(6,.int .i64 i)] h =
 gSl (Addr.add p 1) h fun _ xn _=>cond (decide (i<((xn:Nat):Int)))
 (gSl (Addr.add p 1) h fun x_1 xn_1 _=>aSome x_1 fun p_1=>ck ((0:Int)≤i∧i<((xn_1:Nat):Int)) (gAgg (Addr.add (B3 p_1) (Int.toNat i*2)) 2 h fun x_2=>nw (.cells Bu8 false [.int .i64 0,.int .i64 0]) h fun b_1 w=>ck (List.length x_2=2) (pAgg ⟨b_1,0,none⟩ x_2 w fun w1=>gSl (Addr.add b 4) w1 fun x_3 xn_2 xc_2=>gInt .i64 (Addr.add ⟨b_1,0,none⟩ 0) w1 fun x_4=>gInt .i64 (Addr.add ⟨b_1,0,none⟩ 0) w1 fun x_5=>gInt .i64 (Addr.add ⟨b_1,0,none⟩ 1) w1 fun x_6=>nw (.cells B5 false [.int .i64 x_5,.int .i64 x_6]) w1 fun b_2 w2=>nw (.cells H8 false [.int .i64 x_4,.int .i64 (IntKind.wrap .i64 (8+i)),.int .i64 0,.int .i64 40,.slice (some ⟨b_2,0,none⟩) 2 2]) w2 fun b_3 w3=>gCells (some ⟨b_3,0,none⟩) (1*5) w3 fun cs=>ckB (fitsOpen x_3 H8 w3) (apd H8 5 x_3 xn_2 xc_2 1 cs w3 fun a an ac w4=>pV (Addr.add b 4) (.slice a an ac) w4 fun w5=>R I2 Be1 [(1,.pointer (some p)),(2,.pointer (some x2)),(3,.pointer (some b)),(6,.int .i64 (IntKind.wrap .i64 (i+1)))] w5))))
 (gAgg b 5 h fun x_7=>ck (List.length x_7=5) (pAgg x2 x_7 h fun w6=>gAgg x2 5 w6 fun x_8=>some (.agg ⟨x_8⟩,w6))):=by kernel_rfl
def Dc5:Cuts:={ globs:=0,loops:=[],regs:=[],plans:=[(1,⟨[1,0,2,3,4,5,6],[0,0,3,7,7,31,63],[(0,[1])],[]⟩)] }
def Ed7:List Item:=A7 Tryz.f58
theorem Gp3 (C:A4) (R:A5) (p:List Value) (h:H) :
 A8 PR Dc5 C R Ba6 Tryz.f58 100000 true Ed7 [(0,.agg ⟨p⟩)] h =
 nw (.cells H1 false p) h fun b w=>gAgg ⟨b,0,none⟩ 36 w fun x=>bnd (C Be8 [] w) fun r w1=>aPtr r fun x_1=>gAgg ⟨b,0,none⟩ 36 w1 fun x_2=>same (.agg ⟨x⟩) (.agg ⟨x_2⟩) (bnd (C S9 [.pointer x_1,.agg ⟨x⟩] w1) fun r_1 w2=>as2 r_1 fun r_2 r_3=>aSl r_2 fun x_3 xn xc=>aBool r_3 fun x_4=>some (.tuple ⟨[.slice x_3 xn xc,.bool x_4]⟩,w2)):=by kernel_rfl
def At9:Cuts:={ globs:=0,loops:=[],regs:=[],plans:=[(2,⟨[0,1,2,3,4,5,6,7,8,9,10,11,12,13,14],[0,1,3,7,15,31,63,127,255,511,1023,127,4095,8191,16383],[],[]⟩),(4,⟨[0,1,2,3,4,5,6,7,8,9,10,11,12,13,14,15,16,17],[0,1,3,7,0,16,48,112,0,256,0,1024,0,7936,16383,32767,65535,131071],[],[]⟩)] }
def Bk2:List Item:=A7 Tryz.f59
theorem Dp6 (C:A4) (R:A5) (c:Option Addr) (r:List Value) (b:Option Addr) (bn bc:Nat) (ok:Bool) (h:H) :
 A8 PR At9 C R I5 Tryz.f59 100000 true Bk2 [(0,.pointer c),(1,.agg ⟨r⟩),(2,.slice b bn bc),(3,.bool ok)] h =
 nw (.cells D6 false r) h fun b_1 w=>gAgg ⟨b_1,0,none⟩ 2 w fun x=>bnd (C P3 [.pointer c,.agg ⟨x⟩] w) fun r_1 w1=>as2 r_1 fun r_2 r_3=>aAgg r_2 fun x_1=>aBool r_3 fun x_2=>nw (.cells Bd5 false [.int .i64 0,.int .i64 0,.int .i64 0]) w1 fun b_2 w2=>ck (List.length x_1=3) (pAgg ⟨b_2,0,none⟩ x_1 w2 fun w3=>bnd (cond (!x_2) (some (true,w3)) (some (!ok,w3))) fun c_1 w4=>bnd (cond c_1 (some (true,w4)) (aSome c fun p=>gMap (Addr.add p 3) w4 fun x_3=>gAgg ⟨b_1,0,none⟩ 2 w4 fun x_4=>keyN PR D6 (.agg ⟨x_4⟩) (opt x_3 fun r_4=>mapAt w4 r_4 fun es _=>opt (Ak0 (.int .i64 0) (.agg ⟨x_4⟩) es) fun f=>aInt .i64 f.1 fun x_5=>some (decide (x_5>0),w4)))) fun c_2 w5=>cond c_2
 (some (.bool false,w5))
 (aSome c fun p_1=>gPtr (Addr.add p_1 0) w5 fun x_6=>aSome c fun p_2=>gInt .i64 (Addr.add p_2 1) w5 fun x_7=>gInt .i64 (Addr.add ⟨b_2,0,none⟩ 0) w5 fun x_8=>gInt .i64 (Addr.add ⟨b_2,0,none⟩ 1) w5 fun x_9=>bnd (C Q3 [.pointer x_6,.int .i64 x_7,.agg ⟨[.int .i64 2,.int .i64 x_8,.int .i64 x_9,.int .i64 0,.int .i64 0,.int .i64 0,.slice b bn bc]⟩] w5) fun r_5 w6=>aAgg r_5 fun x_10=>nth x_10 0 fun E=>aInt .i64 E fun E_1=>some (.bool (E_1==0),w6))):=by kernel_rfl
def Ea6:Cuts:={ globs:=0,loops:=[],regs:=[],plans:=[] }
def E84:List Item:=A7 Tryz.f64
theorem Hn3 (C:A4) (R:A5) (n:Int) (h:H) :
 A8 PR Ea6 C R A69 Tryz.f64 100000 true E84 [(0,.int .i64 n)] h =
 nw (.cells A6 false [.int .u8 (IntKind.wrap .u8 (Int.fdiv n (2 ^ 8))),.int .u8 (IntKind.wrap .u8 (n))]) h fun b w=>gCells (some ⟨b,0,none⟩) 2 w fun cs=>asBytes cs fun l=>some (.string (ByteArray.mk ⟨l⟩),w):=by kernel_rfl
def B39:Cuts:={ globs:=0,loops:=[],regs:=[],plans:=[] }
def D23:List Item:=A7 Tryz.f71
theorem Gi3 (C:A4) (R:A5) (b:Option Addr) (bn bc:Nat) (h:H) :
 A8 PR B39 C R A22 Tryz.f71 100000 true D23 [(0,.slice b bn bc)] h =
 nw (.cells D1 false [.int .i64 0,.int .i64 0,.int .i64 0,.int .i64 0,.int .i64 0,.int .i64 0,.int .i64 0,.int .i64 0,.int .i64 0,.int .i64 0,.int .i64 0,.int .i64 0,.int .i64 0,.int .i64 0,.int .i64 0,.int .i64 0]) h fun b_1 w=>bnd (cond (((bn:Nat):Int)==24) (bnd (C Al1 [.slice b bn bc] w) fun r w1=>aBool r fun x=>some (x,w1)) (some (false,w))) fun c w2=>cond c
 (pAgg ⟨b_1,0,none⟩ [.int .i64 0,.int .i64 0,.int .i64 0,.int .i64 0,.int .i64 0,.int .i64 0,.int .i64 0,.int .i64 0,.int .i64 0,.int .i64 0,.int .i64 0,.int .i64 0,.int .i64 0,.int .i64 0,.int .i64 0,.int .i64 0] w2 fun w3=>gAgg ⟨b_1,0,none⟩ 16 w3 fun x_1=>some (.tuple ⟨[.agg ⟨x_1⟩,.int .i64 0]⟩,w3))
 (bnd (C Ba2 [] w2) fun r_1 w4=>aPtr r_1 fun x_2=>bnd (C U0 [.pointer x_2,.slice b bn bc] w4) fun r_2 w5=>as2 r_2 fun r_3 r_4=>aAgg r_3 fun x_3=>aBool r_4 fun x_4=>nw (.cells D1 false [.int .i64 0,.int .i64 0,.int .i64 0,.int .i64 0,.int .i64 0,.int .i64 0,.int .i64 0,.int .i64 0,.int .i64 0,.int .i64 0,.int .i64 0,.int .i64 0,.int .i64 0,.int .i64 0,.int .i64 0,.int .i64 0]) w5 fun b_2 w6=>ck (List.length x_3=16) (pAgg ⟨b_2,0,none⟩ x_3 w6 fun w7=>cond (!x_4)
 (pAgg ⟨b_1,0,none⟩ [.int .i64 0,.int .i64 0,.int .i64 0,.int .i64 0,.int .i64 0,.int .i64 0,.int .i64 0,.int .i64 0,.int .i64 0,.int .i64 0,.int .i64 0,.int .i64 0,.int .i64 0,.int .i64 0,.int .i64 0,.int .i64 0] w7 fun w8=>gAgg ⟨b_1,0,none⟩ 16 w8 fun x_5=>some (.tuple ⟨[.agg ⟨x_5⟩,.int .i64 2]⟩,w8))
 (gAgg ⟨b_2,0,none⟩ 16 w7 fun x_6=>ck (List.length x_6=16) (pAgg ⟨b_1,0,none⟩ x_6 w7 fun w9=>gAgg ⟨b_1,0,none⟩ 16 w9 fun x_7=>some (.tuple ⟨[.agg ⟨x_7⟩,.int .i64 1]⟩,w9))))):=by kernel_rfl
def Au2:Cuts:={ globs:=0,loops:=[],regs:=[],plans:=[(2,⟨[0,1,2,3,4,5,6,7],[0,0,0,4,12,0,63,127],[],[]⟩)] }
def Bk1:List Item:=A7 Tryz.f73
theorem Dp9 (C:A4) (R:A5) (c:Option Addr) (r:List Value) (h:H) :
 A8 PR Au2 C R W5 Tryz.f73 100000 true Bk1 [(0,.pointer c),(1,.agg ⟨r⟩)] h =
 nw (.cells D6 false r) h fun b w=>gAgg ⟨b,0,none⟩ 2 w fun x=>bnd (C P3 [.pointer c,.agg ⟨x⟩] w) fun r_1 w1=>as2 r_1 fun r_2 r_3=>aAgg r_2 fun x_1=>aBool r_3 fun x_2=>nw (.cells Bd5 false [.int .i64 0,.int .i64 0,.int .i64 0]) w1 fun b_1 w2=>ck (List.length x_1=3) (pAgg ⟨b_1,0,none⟩ x_1 w2 fun w3=>gAgg ⟨b,0,none⟩ 2 w3 fun x_3=>gInt .i64 (Addr.add ⟨b_1,0,none⟩ 2) w3 fun x_4=>ck ((0:Int)≤x_4∧(x_4:Int)≤x_4∧x_4≤(B1:Int)) (nw (.cells A6 false (G8 (Int.toNat x_4) [.int .u8 0])) w3 fun b_2 w4=>bnd (C I5 [.pointer c,.agg ⟨x_3⟩,.slice (some ⟨b_2,0,none⟩) (Int.toNat x_4) (Int.toNat x_4),.bool x_2] w4) fun r_4 w5=>aBool r_4 fun x_5=>some (.bool x_5,w5))):=by kernel_rfl
def A12:Cuts:={ globs:=0,loops:=[(4,[1,3,4])],regs:=[],plans:=[] }
def Bl4:List Item:=A7 Tryz.f77
def Ap1:List Item:=stk [0,1,0,1,0,1,0,0,1,4,5] Bl4
theorem Ev5 (C:A4) (R:A5) (p:List Value) (h:H) :
 A8 PR A12 C R O3 Tryz.f77 100000 true Bl4 [(0,.agg ⟨p⟩)] h =
 nw (.cells H1 false p) h fun b w=>gInt .i64 (Addr.add ⟨b,0,none⟩ 0) w fun x=>gInt .i64 (Addr.add ⟨b,0,none⟩ 1) w fun x_1=>gInt .i64 (Addr.add ⟨b,0,none⟩ 2) w fun x_2=>gInt .i64 (Addr.add ⟨b,0,none⟩ 3) w fun x_3=>nw (.cells A6 false [.int .u8 1,.int .u8 (IntKind.wrap .u8 (x)),.int .u8 (IntKind.wrap .u8 (x_1)),.int .u8 (IntKind.wrap .u8 (x_2)),.int .u8 (IntKind.wrap .u8 (x_3)),.int .u8 197]) w fun b_1 w1=>gCells (some ⟨b_1,0,none⟩) 6 w1 fun cs=>asBytes cs fun l=>bnd (C Ad9 [.string (ByteArray.mk ⟨l⟩)] w1) fun r w2=>aInt .u8 r fun x_4=>nw (.cells A6 false [.int .u8 x_4,.int .u8 0]) w2 fun b_2 w3=>gCells (some ⟨b_2,0,none⟩) 2 w3 fun cs_1=>asBytes cs_1 fun l_1=>ck (ByteArray.size (ByteArray.mk ⟨l⟩)+ByteArray.size (ByteArray.mk ⟨l_1⟩)≤B1) (R O3 Ap1 [(1,.pointer (some ⟨b,0,none⟩)),(3,.string ((ByteArray.mk ⟨l⟩)++(ByteArray.mk ⟨l_1⟩))),(4,.int .i64 0)] w3):=by kernel_rfl
theorem B06 (C:A4) (R:A5) (p:Addr) (s:ByteArray) (i:Int) (h:H) :
 A8 PR A12 C R O3 Tryz.f77 100000 true Ap1 [(1,.pointer (some p)),(3,.string s),(4,.int .i64 i)] h =
 cond (decide (i<32))
 (ck ((0:Int)≤i∧i<((32:Nat):Int)) (gInt .u8 (Addr.add (Addr.add p 4) (Int.toNat i*1)) h fun x=>nw (.cells A6 false [.int .u8 x]) h fun b w=>gCells (some ⟨b,0,none⟩) 1 w fun cs=>asBytes cs fun l=>ck (ByteArray.size s+ByteArray.size (ByteArray.mk ⟨l⟩)≤B1) (R O3 Ap1 [(1,.pointer (some p)),(3,.string (s++(ByteArray.mk ⟨l⟩))),(4,.int .i64 (IntKind.wrap .i64 (i+1)))] w)))
 (some (.string s,h)):=by kernel_rfl
def Ao7:Cuts:={ globs:=0,loops:=[],regs:=[(8,[8,11,12])],plans:=[(7,⟨[0,1,2,3,4,5,6,7,8,9],[0,1,3,7,0,31,63,31,159,511],[(7,[5])],[]⟩)] }
def A57:List Item:=A7 Tryz.f108
def At7:List Item:=stk [0,1,0,1,0,1,0,1,0,1,0,1,0,0] A57
theorem Eb0 (C:A4) (R:A5) (c:Option Addr) (r:List Value) (decode:Value) (h:H) :
 A8 PR Ao7 C R P5 Tryz.f108 100000 true A57 [(0,.pointer c),(1,.agg ⟨r⟩),(2,decode)] h =
 nw (.cells D6 false r) h fun b w=>gAgg ⟨b,0,none⟩ 2 w fun x=>bnd (C N4 [.pointer c,.agg ⟨x⟩] w) fun r_1 w1=>as2 r_1 fun r_2 r_3=>aSl r_2 fun x_1 xn xc=>aBool r_3 fun x_2=>cond (!x_2)
 (some (.tuple ⟨[.int .i64 0,.int .i64 2]⟩,w1))
 (aFn decode fun g fi cp=>bnd (C g (fi++([.slice x_1 xn xc]++cp)) w1) fun r_4 w2=>as2 r_4 fun r_5 r_6=>aInt .i64 r_5 fun x_3=>aInt .i64 r_6 fun x_4=>cond (x_4==2)
 (aSome c fun p=>gMap (Addr.add p 3) w2 fun x_5=>gAgg ⟨b,0,none⟩ 2 w2 fun x_6=>keyN PR D6 (.agg ⟨x_6⟩) (opt x_5 fun r_7=>mapAt w2 r_7 fun es _=>opt (Ak0 (.int .i64 0) (.agg ⟨x_6⟩) es) fun f=>aInt .i64 f.1 fun x_7=>keyN PR D6 (.agg ⟨x_6⟩) (opt x_5 fun r_8=>mapAt w2 r_8 fun es_1 cl_1=>opt (Du6 (.int .i64 0) (.agg ⟨x_6⟩) es_1 cl_1) fun f_1=>aInt .i64 f_1.1 fun _=>lt (H.set w2 r_8 f_1.2.2) fun w3=>keyN PR D6 (.agg ⟨x_6⟩) (opt x_5 fun r_9=>mapAt w3 r_9 fun es_2 _=>opt (Ak0 (.int .i64 0) (.agg ⟨x_6⟩) es_2) fun f_2=>aInt .i64 f_2.1 fun x_9=>same (.int .i64 x_7) (.int .i64 x_9) (opt x_5 fun r_10=>mapAt w3 r_10 fun es_3 cl_3=>opt (Bj0 (f_1.2.1:Int) es_3 0) fun i=>lt (H.set w3 r_10 (.map (modN (fun e=>{ e with val:=.int .i64 (IntKind.wrap .i64 (x_7+1)) }) i es_3) cl_3)) fun w4=>R P5 At7 [(8,.int .i64 0),(11,.int .i64 x_3),(12,.int .i64 x_4)] w4)))))
 (R P5 At7 [(8,.int .i64 0),(11,.int .i64 x_3),(12,.int .i64 x_4)] w2)):=by kernel_rfl
theorem Bk3 (C:A4) (R:A5) (nonev:Int) (v:Int) (isv:Int) (h:H) :
 A8 PR Ao7 C R P5 Tryz.f108 100000 true At7 [(8,.int .i64 nonev),(11,.int .i64 v),(12,.int .i64 isv)] h =
 cond (isv != 1)
 (some (.tuple ⟨[.int .i64 nonev,.int .i64 isv]⟩,h))
 (some (.tuple ⟨[.int .i64 v,.int .i64 isv]⟩,h)):=by kernel_rfl
def Bk8:Cuts:={ globs:=0,loops:=[],regs:=[],plans:=[] }
def Dd9:List Item:=A7 Tryz.f109
theorem Ew1 (C:A4) (R:A5) (b:Option Addr) (bn bc:Nat) (h:H) :
 A8 PR Bk8 C R Al3 Tryz.f109 100000 true Dd9 [(0,.slice b bn bc)] h =
 cond (((bn:Nat):Int) != 4)
 (some (.tuple ⟨[.int .i64 0,.int .i64 2]⟩,h))
 (aSome b fun p=>ck ((0:Int)≤0∧0<((bn:Nat):Int)) (gInt .u8 (Addr.add (B3 p) (Int.toNat 0*1)) h fun x=>bnd (C Am9 [.int .i64 (IntKind.wrap .i64 (x))] h) fun r w=>as2 r fun r_1 r_2=>aSl r_1 fun x_1 xn _=>aBool r_2 fun x_2=>bnd (cond (!x_2) (some (true,w)) (gCells x_1 xn w fun cs=>asBytes cs fun l=>gCells b bn w fun cs_1=>asBytes cs_1 fun l_1=>some (!((ByteArray.mk ⟨l⟩).toList==(ByteArray.mk ⟨l_1⟩).toList),w))) fun c w1=>cond c
 (some (.tuple ⟨[.int .i64 0,.int .i64 2]⟩,w1))
 (aSome b fun p_1=>ck ((0:Int)≤0∧0<((bn:Nat):Int)) (gInt .u8 (Addr.add (B3 p_1) (Int.toNat 0*1)) w1 fun x_3=>some (.tuple ⟨[.int .i64 (IntKind.wrap .i64 (x_3)),.int .i64 1]⟩,w1))))):=by kernel_rfl
def B72:Cuts:={ globs:=0,loops:=[(3,[3,12,13,14])],regs:=[],plans:=[(5,⟨[0,1,2,3,4,5,6,7,8,9,10,11,12,13],[0,0,2,6,14,0,32,96,224,480,1022,2047,4095,8191],[],[]⟩)] }
def Dv9:List Item:=A7 Tryz.f115
def Bi3:List Item:=stk [0,1,0,1,0,0,1,4,5] Dv9
theorem Hc7 (C:A4) (R:A5) (frames:Option Addr) (framesn framesc:Nat) (h:H) :
 A8 PR B72 C R Ap4 Tryz.f115 100000 true Dv9 [(0,.slice frames framesn framesc)] h =
 nw (.cells Au8 false [.slice none 0 0]) h fun b w=>ckB (fitsOpen frames B5 w) (ck ((0:Int)≤mm2 false ((framesn:Nat):Int) 4∧mm2 false ((framesn:Nat):Int) 4≤((framesc:Nat):Int)) (R Ap4 Bi3 [(3,.pointer (some ⟨b,0,none⟩)),(12,.slice (H5 frames (decide (0<framesc)) (0*1)) ((Int.toNat (mm2 false ((framesn:Nat):Int) 4))-0) (framesc-0)),(13,.int .i64 (((Int.toNat (mm2 false ((framesn:Nat):Int) 4))-0:Nat):Int)),(14,.int .i64 0)] w)):=by kernel_rfl
theorem D05 (C:A4) (R:A5) (q:Addr) (x12:Option Addr) (x12n x12c:Nat) (x13:Int) (x14:Int) (h:H) :
 A8 PR B72 C R Ap4 Tryz.f115 100000 true Bi3 [(3,.pointer (some q)),(12,.slice x12 x12n x12c),(13,.int .i64 x13),(14,.int .i64 x14)] h =
 cond (decide (x14<x13))
 (aSome x12 fun p=>ck ((0:Int)≤x14∧x14<((x12n:Nat):Int)) (gInt .i64 (Addr.add (B3 p) (Int.toNat x14*1)) h fun x=>gSl (Addr.add q 0) h fun x_1 xn xc=>ck ((0:Int)≤mm2 false (mm2 true x 0) 64∧(mm2 false (mm2 true x 0) 64:Int)≤mm2 false (mm2 true x 0) 64∧mm2 false (mm2 true x 0) 64≤(B1:Int)) (nw (.cells B5 false (G8 (Int.toNat (mm2 false (mm2 true x 0) 64)) [.int .i64 0])) h fun b w=>nw (.cells P1 false [.slice (some ⟨b,0,none⟩) (Int.toNat (mm2 false (mm2 true x 0) 64)) (Int.toNat (mm2 false (mm2 true x 0) 64))]) w fun b_1 w1=>gCells (some ⟨b_1,0,none⟩) (1*1) w1 fun cs=>ckB (fitsOpen x_1 P1 w1) (apd P1 1 x_1 xn xc 1 cs w1 fun a an ac w2=>pV (Addr.add q 0) (.slice a an ac) w2 fun w3=>R Ap4 Bi3 [(3,.pointer (some q)),(12,.slice x12 x12n x12c),(13,.int .i64 x13),(14,.int .i64 (IntKind.wrap .i64 (x14+1)))] w3))))
 (some (.pointer (some q),h)):=by kernel_rfl
def Dm4:Cuts:={ globs:=0,loops:=[],regs:=[],plans:=[] }
def En9:List Item:=A7 Tryz.f116
theorem G25 (C:A4) (R:A5) (m:Option Addr) (s:Option Addr) (h:H) :
 A8 PR Dm4 C R B04 Tryz.f116 100000 true En9 [(0,.pointer m),(1,.pointer s)] h =
 nw (.cells Do8 false [.pointer m,.pointer s,.slice none 0 0]) h fun b w=>some (.pointer (some ⟨b,0,none⟩),w):=by kernel_rfl
def As9:Cuts:={ globs:=0,loops:=[(3,[5,20,21,22])],regs:=[],plans:=[(2,⟨[0,1,2,3,4,5,6,7,8,9,10,11,12,13,14],[0,1,3,7,0,16,0,64,192,448,960,2032,4095,8191,0],[],[]⟩)] }
def Bb9:List Item:=A7 Tryz.f119
def Ai2:List Item:=stk [0,1,0,1,0,0,1,4,5] Bb9
theorem Ef1 (C:A4) (R:A5) (q:Option Addr) (s:Int) (h:H) :
 A8 PR As9 C R O0 Tryz.f119 100000 true Bb9 [(0,.pointer q),(1,.int .i64 s)] h =
 aSome q fun p=>gSl (Addr.add p 0) h fun x _ xc=>aSome q fun p_1=>gSl (Addr.add p_1 0) h fun _ xn_1 _=>ckB (fitsOpen x P1 h) (ck ((0:Int)≤mm2 false (mm2 true s 0) ((xn_1:Nat):Int)∧mm2 false (mm2 true s 0) ((xn_1:Nat):Int)≤((xc:Nat):Int)) (R O0 Ai2 [(5,.int .i64 0),(20,.slice (H5 x (decide (0<xc)) (0*1)) ((Int.toNat (mm2 false (mm2 true s 0) ((xn_1:Nat):Int)))-0) (xc-0)),(21,.int .i64 (((Int.toNat (mm2 false (mm2 true s 0) ((xn_1:Nat):Int)))-0:Nat):Int)),(22,.int .i64 0)] h)):=by kernel_rfl
theorem Bo7 (C:A4) (R:A5) (n:Int) (x20:Option Addr) (x20n x20c:Nat) (x21:Int) (x22:Int) (h:H) :
 A8 PR As9 C R O0 Tryz.f119 100000 true Ai2 [(5,.int .i64 n),(20,.slice x20 x20n x20c),(21,.int .i64 x21),(22,.int .i64 x22)] h =
 cond (decide (x22<x21))
 (aSome x20 fun p=>ck ((0:Int)≤x22∧x22<((x20n:Nat):Int)) (gSl (Addr.add (B3 p) (Int.toNat x22*1)) h fun _ xn _=>R O0 Ai2 [(5,.int .i64 (IntKind.wrap .i64 (n+((xn:Nat):Int)))),(20,.slice x20 x20n x20c),(21,.int .i64 x21),(22,.int .i64 (IntKind.wrap .i64 (x22+1)))] h))
 (some (.int .i64 n,h)):=by kernel_rfl
def Aj2:Cuts:={ globs:=0,loops:=[],regs:=[],plans:=[] }
def A48:List Item:=A7 Tryz.f120
theorem Da6 (C:A4) (R:A5) (s:Option Addr) (sn sc:Nat) (v:Int) (h:H) :
 A8 PR Aj2 C R L5 Tryz.f120 100000 true A48 [(0,.slice s sn sc),(1,.int .i64 v)] h =
 bnd (C G7 [.slice s sn sc,.int .i64 v] h) fun r w=>aInt .i64 r fun x=>some (.bool (decide (x≥0)),w):=by kernel_rfl
def Av3:Cuts:={ globs:=0,loops:=[(3,[0,1,5,6])],regs:=[],plans:=[] }
def Bh3:List Item:=A7 Tryz.f123
def Ak3:List Item:=stk [0,1,0,1,0,0,1,4,5] Bh3
theorem En7 (C:A4) (R:A5) (q:Option Addr) (s:Int) (h:H) :
 A8 PR Av3 C R M6 Tryz.f123 100000 true Bh3 [(0,.pointer q),(1,.int .i64 s)] h =
 R M6 Ak3 [(0,.pointer q),(1,.int .i64 s),(5,.int .i64 0),(6,.int .i64 0)] h:=by kernel_rfl
theorem Bu5 (C:A4) (R:A5) (q:Option Addr) (s:Int) (n:Int) (i:Int) (h:H) :
 A8 PR Av3 C R M6 Tryz.f123 100000 true Ak3 [(0,.pointer q),(1,.int .i64 s),(5,.int .i64 n),(6,.int .i64 i)] h =
 cond (decide (i<s))
 (aSome q fun p=>gSl (Addr.add p 0) h fun x xn _=>aSome x fun p_1=>ck ((0:Int)≤i∧i<((xn:Nat):Int)) (gSl (Addr.add (B3 p_1) (Int.toNat i*1)) h fun _ xn_1 _=>R M6 Ak3 [(0,.pointer q),(1,.int .i64 s),(5,.int .i64 (IntKind.wrap .i64 (n+((xn_1:Nat):Int)))),(6,.int .i64 (IntKind.wrap .i64 (i+1)))] h))
 (some (.int .i64 n,h)):=by kernel_rfl
def Bq4:Cuts:={ globs:=0,loops:=[],regs:=[],plans:=[] }
def Do5:List Item:=A7 Tryz.f140
theorem E47 (C:A4) (R:A5) (s:Option Addr) (e:Int) (h:H) :
 A8 PR Bq4 C R A62 Tryz.f140 100000 true Do5 [(0,.pointer s),(1,.int .i64 e)] h =
 bnd (C Ah5 [.pointer s,.int .i64 e] h) fun r w=>aBool r fun x=>cond (!x)
 (some (.slice none 0 0,w))
 (aSome s fun p=>gSl (Addr.add p 0) w fun x_1 xn _=>aSome x_1 fun p_1=>ck ((0:Int)≤e∧e<((xn:Nat):Int)) (gPtr (Addr.add (B3 p_1) (Int.toNat e*1)) w fun x_2=>bnd (C P4 [.pointer x_2] w) fun r_1 w1=>aSl r_1 fun x_3 xn_1 xc_1=>some (.slice x_3 xn_1 xc_1,w1))):=by kernel_rfl
def Af3:Cuts:={ globs:=0,loops:=[],regs:=[],plans:=[(2,⟨[0,1,2,3,4,5,6,7,8,9,10,11,12,13,14],[0,1,3,7,15,31,63,127,255,511,63,63,4095,8191,16383],[],[]⟩)] }
def Az6:List Item:=A7 Tryz.f144
theorem B16 (C:A4) (R:A5) (c:Option Addr) (v:List Value) (h:H) :
 A8 PR Af3 C R S9 Tryz.f144 100000 true Az6 [(0,.pointer c),(1,.agg ⟨v⟩)] h =
 nw (.cells H1 false v) h fun b w=>aSome c fun p=>gInt .i64 (Addr.add p 0) w fun x=>ck ((0:Int)≤x∧(x:Int)≤x∧x≤(B1:Int)) (nw (.cells A6 false (G8 (Int.toNat x) [.int .u8 0])) w fun b_1 w1=>aSome c fun p_1=>gFv (Addr.add p_1 1) w1 fun x_1=>isNilF x_1 fun b_2=>bnd (cond b_2 (some (true,w1)) (aSome c fun p_2=>gFv (Addr.add p_2 1) w1 fun x_2=>gAgg ⟨b,0,none⟩ 36 w1 fun x_3=>aFn x_2 fun g fi cp=>bnd (C g (fi++([.agg ⟨x_3⟩,.slice (some ⟨b_1,0,none⟩) (Int.toNat x) (Int.toNat x)]++cp)) w1) fun r w2=>aBool r fun x_4=>some (!x_4,w2))) fun c_1 w3=>cond c_1
 (some (.tuple ⟨[.slice none 0 0,.bool false]⟩,w3))
 (some (.tuple ⟨[.slice (some ⟨b_1,0,none⟩) (Int.toNat x) (Int.toNat x),.bool true]⟩,w3))):=by kernel_rfl
def Da8:Cuts:={ globs:=0,loops:=[],regs:=[],plans:=[] }
def Ec5:List Item:=A7 Tryz.f147
theorem Go3 (C:A4) (R:A5) (b:Option Addr) (bn bc:Nat) (h:H) :
 A8 PR Da8 C R Al1 Tryz.f147 100000 true Ec5 [(0,.slice b bn bc)] h =
 bnd (C O9 [.slice b bn bc,.func (.func Ac7) ⟨[]⟩ ⟨[]⟩] h) fun r w=>aBool r fun x=>some (.bool (!x),w):=by kernel_rfl
def Az3:Cuts:={ globs:=0,loops:=[],regs:=[],plans:=[] }
def Bo2:List Item:=A7 Tryz.f150
theorem Dw8 (C:A4) (R:A5) (r:Option Addr) (env:Int) (name:Int) (atv:Int) (b:Option Addr) (bn bc:Nat) (h:H) :
 A8 PR Az3 C R Z4 Tryz.f150 100000 true Bo2 [(0,.pointer r),(1,.int .i64 env),(2,.int .i64 name),(3,.int .i64 atv),(4,.slice b bn bc)] h =
 bnd (C Y8 [.pointer r,.int .i64 env,.int .i64 name,.int .i64 2,.int .i64 atv,.int .i64 ((bn:Nat):Int)] h) fun r_1 w=>as2 r_1 fun r_2 r_3=>aInt .i64 r_2 fun x=>aInt .i64 r_3 fun x_1=>cond (x_1 != 0)
 (some (.int .i64 x_1,w))
 (aSome r fun p=>gPtr (Addr.add p 0) w fun x_2=>bnd (C Bd6 [.pointer x_2,.int .i64 x,.slice b bn bc] w) fun r_4 w1=>aInt .i64 r_4 fun x_3=>some (.int .i64 x_3,w1)):=by kernel_rfl
def Dp1:Cuts:={ globs:=0,loops:=[],regs:=[],plans:=[] }
def Eh2:List Item:=A7 Tryz.f164
theorem Gy0 (C:A4) (R:A5) (m:Option Addr) (atv:Int) (n:Int) (h:H) :
 A8 PR Dp1 C R Be5 Tryz.f164 100000 true Eh2 [(0,.pointer m),(1,.int .i64 atv),(2,.int .i64 n)] h =
 bnd (cond (decide (atv≥0)) (some (decide (n≥0),h)) (some (false,h))) fun c w=>bnd (cond c (aSome m fun p=>gSl (Addr.add p 0) w fun _ xn _=>some (decide (atv≤((xn:Nat):Int)),w)) (some (false,w))) fun c_1 w1=>bnd (cond c_1 (aSome m fun p_1=>gSl (Addr.add p_1 0) w1 fun _ xn_1 _=>some (decide (n≤(IntKind.wrap .i64 (((xn_1:Nat):Int)-atv))),w1)) (some (false,w1))) fun c_2 w2=>some (.bool c_2,w2):=by kernel_rfl
def Ak6:Cuts:={ globs:=0,loops:=[],regs:=[],plans:=[] }
def A87:List Item:=A7 Tryz.f165
theorem A92 (C:A4) (R:A5) (s:Option Addr) (sn sc:Nat) (h:H) :
 A8 PR Ak6 C R G0 Tryz.f165 100000 true A87 [(0,.slice s sn sc)] h =
 cond s.isNone
 (some (.slice none 0 0,h))
 (nw (.cells A6 false []) h fun b w=>gCells s (sn*1) w fun cs=>ckB (fitsOpen (some ⟨b,0,none⟩) A6 w) (apd A6 1 (some ⟨b,0,none⟩) 0 0 sn cs w fun a an ac w1=>some (.slice a an ac,w1))):=by kernel_rfl
def Ae3:Cuts:={ globs:=0,loops:=[(2,[0,1,7,8])],regs:=[],plans:=[] }
def As0:List Item:=A7 Tryz.f179
def Y7:List Item:=stk [0,1,0,0,1,4,5] As0
theorem Dk1 (C:A4) (R:A5) (s:Option Addr) (sn sc:Nat) (v:Int) (h:H) :
 A8 PR Ae3 C R G7 Tryz.f179 100000 true As0 [(0,.slice s sn sc),(1,.int .i64 v)] h =
 R G7 Y7 [(0,.slice s sn sc),(1,.int .i64 v),(7,.int .i64 ((sn:Nat):Int)),(8,.int .i64 0)] h:=by kernel_rfl
theorem A49 (C:A4) (R:A5) (s:Option Addr) (sn sc:Nat) (v:Int) (x7:Int) (x8:Int) (h:H) :
 A8 PR Ae3 C R G7 Tryz.f179 100000 true Y7 [(0,.slice s sn sc),(1,.int .i64 v),(7,.int .i64 x7),(8,.int .i64 x8)] h =
 cond (decide (x8<x7))
 (aSome s fun p=>ck ((0:Int)≤x8∧x8<((sn:Nat):Int)) (gInt .i64 (Addr.add (B3 p) (Int.toNat x8*1)) h fun x=>cond (v==x)
 (some (.int .i64 x8,h))
 (R G7 Y7 [(0,.slice s sn sc),(1,.int .i64 v),(7,.int .i64 x7),(8,.int .i64 (IntKind.wrap .i64 (x8+1)))] h)))
 (some (.int .i64 (-1),h)):=by kernel_rfl
def Bt2:Cuts:={ globs:=0,loops:=[],regs:=[],plans:=[(1,⟨[0,1,2,3,4,5,6,7,8,9,10,11,12,13],[0,1,3,7,0,31,63,0,255,511,1023,1023,2047,8191],[],[]⟩)] }
def Dk9:List Item:=A7 Tryz.f181
theorem E31 (C:A4) (R:A5) (s:Option Addr) (env:Int) (c:List Value) (h:H) :
 A8 PR Bt2 C R Ar6 Tryz.f181 100000 true Dk9 [(0,.pointer s),(1,.int .i64 env),(2,.agg ⟨c⟩)] h =
 nw (.cells O2 false c) h fun b w=>aSome s fun p=>gSl (Addr.add p 0) w fun x xn _=>aSome x fun p_1=>ck ((0:Int)≤env∧env<((xn:Nat):Int)) (gPtr (Addr.add (B3 p_1) (Int.toNat env*1)) w fun x_1=>gAgg ⟨b,0,none⟩ 6 w fun x_2=>bnd (C H6 [.pointer x_1,.agg ⟨x_2⟩] w) fun r w1=>as2 r fun r_1 r_2=>aInt .i64 r_1 fun x_3=>aBool r_2 fun x_4=>cond (!x_4)
 (some (.tuple ⟨[.int .i64 0,.int .i64 4]⟩,w1))
 (some (.tuple ⟨[.int .i64 x_3,.int .i64 0]⟩,w1))):=by kernel_rfl
def Br8:Cuts:={ globs:=0,loops:=[],regs:=[],plans:=[] }
def Dj9:List Item:=A7 Tryz.f184
theorem E07 (C:A4) (R:A5) (s:Option Addr) (e:Int) (h:H) :
 A8 PR Br8 C R Ah5 Tryz.f184 100000 true Dj9 [(0,.pointer s),(1,.int .i64 e)] h =
 bnd (cond (decide (e≥0)) (aSome s fun p=>gSl (Addr.add p 0) h fun _ xn _=>some (decide (e<((xn:Nat):Int)),h)) (some (false,h))) fun c w=>some (.bool c,w):=by kernel_rfl
def A80:Cuts:={ globs:=0,loops:=[],regs:=[],plans:=[(6,⟨[0,1,2,3,4,5,6,7,8,9,10,11,12,13,14,15,16,17,18,19,20,21],[0,0,0,4,15,31,63,127,255,511,1023,2047,4095,8191,4095,20479,53247,118783,249855,524287,1048575,2097151],[],[]⟩),(8,⟨[0,1,2,3,4,5,6,7,8,9,10,11,12,13,14,15,16,17,18,19,20,21,22,23,24,25,26,27,28,29,30],[0,1,0,0,8,24,56,0,128,504,1016,2047,4095,8191,16383,32767,16383,131071,16383,16383,540671,1589247,3686399,16383,8404991,33046527,66600959,134217727,268435455,536870911,1073741823],[],[]⟩),(10,⟨[0,1,2,3,4,5,6,7,8,9,10,11,12,13,14],[0,1,3,7,0,16,63,127,0,256,1023,0,4095,8191,16383],[],[]⟩)] }
def Bw9:List Item:=A7 Tryz.f186
theorem D33 (C:A4) (R:A5) (r:Option Addr) (e:Int) (name:Int) (right:Int) (atv:Int) (n:Int) (h:H) :
 A8 PR A80 C R Ap3 Tryz.f186 100000 true Bw9 [(0,.pointer r),(1,.int .i64 e),(2,.int .i64 name),(3,.int .i64 right),(4,.int .i64 atv),(5,.int .i64 n)] h =
 aSome r fun p=>gPtr (Addr.add p 3) h fun x=>bnd (C A77 [.pointer x,.int .i64 e,.int .i64 name] h) fun r_1 w=>as2 r_1 fun r_2 r_3=>aAgg r_2 fun x_1=>aInt .i64 r_3 fun x_2=>nw (.cells O2 false [.int .i64 0,.int .i64 0,.int .i64 0,.int .i64 0,.int .i64 0,.int .i64 0]) w fun b w1=>ck (List.length x_1=6) (pAgg ⟨b,0,none⟩ x_1 w1 fun w2=>cond (x_2 != 0)
 (some (.tuple ⟨[.int .i64 0,.int .i64 x_2]⟩,w2))
 (gInt .i64 (Addr.add ⟨b,0,none⟩ 1) w2 fun x_3=>cond ((O5 .i64 x_3 right)==0)
 (some (.tuple ⟨[.int .i64 0,.int .i64 3]⟩,w2))
 (gInt .i64 (Addr.add ⟨b,0,none⟩ 3) w2 fun x_4=>bnd (C Af2 [.int .i64 atv,.int .i64 n,.int .i64 x_4] w2) fun r_4 w3=>aBool r_4 fun x_5=>bnd (cond (!x_5) (some (true,w3)) (gInt .i64 (Addr.add ⟨b,0,none⟩ 0) w3 fun x_6=>some (decide (x_6<0),w3))) fun c w4=>bnd (cond c (some (true,w4)) (gInt .i64 (Addr.add ⟨b,0,none⟩ 0) w4 fun x_7=>aSome r fun p_1=>gSl (Addr.add p_1 1) w4 fun _ xn _=>some (decide (x_7≥((xn:Nat):Int)),w4))) fun c_1 w5=>cond c_1
 (some (.tuple ⟨[.int .i64 0,.int .i64 1]⟩,w5))
 (gInt .i64 (Addr.add ⟨b,0,none⟩ 2) w5 fun x_9=>aSome r fun p_2=>gSl (Addr.add p_2 2) w5 fun x_10 xn_1 _=>gInt .i64 (Addr.add ⟨b,0,none⟩ 0) w5 fun x_11=>aSome x_10 fun p_3=>ck ((0:Int)≤x_11∧x_11<((xn_1:Nat):Int)) (gInt .i64 (Addr.add (B3 p_3) (Int.toNat x_11*1)) w5 fun x_12=>bnd (C Af2 [.int .i64 x_9,.int .i64 atv,.int .i64 x_12] w5) fun r_5 w6=>aBool r_5 fun x_13=>bnd (cond (!x_13) (some (true,w6)) (gInt .i64 (Addr.add ⟨b,0,none⟩ 2) w6 fun x_14=>aSome r fun p_4=>gSl (Addr.add p_4 2) w6 fun x_15 xn_2 _=>gInt .i64 (Addr.add ⟨b,0,none⟩ 0) w6 fun x_16=>aSome x_15 fun p_5=>ck ((0:Int)≤x_16∧x_16<((xn_2:Nat):Int)) (gInt .i64 (Addr.add (B3 p_5) (Int.toNat x_16*1)) w6 fun x_17=>bnd (C Af2 [.int .i64 (IntKind.wrap .i64 (x_14+atv)),.int .i64 n,.int .i64 x_17] w6) fun r_6 w7=>aBool r_6 fun x_18=>some (!x_18,w7)))) fun c_2 w8=>cond c_2
 (some (.tuple ⟨[.int .i64 0,.int .i64 1]⟩,w8))
 (aSome r fun p_6=>gSl (Addr.add p_6 1) w8 fun x_19 xn_3 _=>gInt .i64 (Addr.add ⟨b,0,none⟩ 0) w8 fun x_20=>aSome x_19 fun p_7=>ck ((0:Int)≤x_20∧x_20<((xn_3:Nat):Int)) (gInt .i64 (Addr.add (B3 p_7) (Int.toNat x_20*1)) w8 fun x_21=>gInt .i64 (Addr.add ⟨b,0,none⟩ 2) w8 fun x_22=>some (.tuple ⟨[.int .i64 (IntKind.wrap .i64 ((IntKind.wrap .i64 (x_21+x_22))+atv)),.int .i64 0]⟩,w8)))))))):=by kernel_rfl
def Bx9:Cuts:={ globs:=0,loops:=[],regs:=[],plans:=[] }
def Dt5:List Item:=A7 Tryz.f202
theorem E71 (C:A4) (R:A5) (m:Option Addr) (atv:Int) (b:Option Addr) (bn bc:Nat) (h:H) :
 A8 PR Bx9 C R Bd6 Tryz.f202 100000 true Dt5 [(0,.pointer m),(1,.int .i64 atv),(2,.slice b bn bc)] h =
 bnd (C Be5 [.pointer m,.int .i64 atv,.int .i64 ((bn:Nat):Int)] h) fun r w=>aBool r fun x=>cond (!x)
 (some (.int .i64 1,w))
 (aSome m fun p=>gSl (Addr.add p 0) w fun x_1 xn xc=>ckB (fitsOpen x_1 A6 w) (ck ((0:Int)≤atv∧atv≤((xn:Nat):Int)) (gCells b (min bn (xn-(Int.toNat atv))*1) w fun cs=>pCells (H5 x_1 (decide (Int.toNat atv<xc)) ((Int.toNat atv)*1)) cs w fun w1=>some (.int .i64 0,w1)))):=by kernel_rfl
def Bs0:Cuts:={ globs:=0,loops:=[],regs:=[],plans:=[] }
def Dn2:List Item:=A7 Tryz.f206
theorem E03 (C:A4) (R:A5) (q:Option Addr) (s:Int) (h:H) :
 A8 PR Bs0 C R Ah0 Tryz.f206 100000 true Dn2 [(0,.pointer q),(1,.int .i64 s)] h =
 bnd (cond (decide (s≥0)) (aSome q fun p=>gSl (Addr.add p 0) h fun _ xn _=>some (decide (s<((xn:Nat):Int)),h)) (some (false,h))) fun c w=>some (.bool c,w):=by kernel_rfl
def Bs4:Cuts:={ globs:=0,loops:=[],regs:=[],plans:=[(1,⟨[0,1,2,3,4,5,6,7,8,9,10,11,12,13,14,15,16,17,18,19,20,21,22,23,24,25,26,27,28],[0,1,3,7,7,23,55,119,247,511,1023,2047,4095,8191,16383,32767,4095,131071,262143,4095,528383,1576959,3674111,4095,16257023,33034239,67108863,134217727,268435455],[],[]⟩)] }
def Dl0:List Item:=A7 Tryz.f208
theorem E59 (C:A4) (R:A5) (k:Option Addr) (env:Int) (n:Int) (h:H) :
 A8 PR Bs4 C R As1 Tryz.f208 100000 true Dl0 [(0,.pointer k),(1,.int .i64 env),(2,.int .i64 n)] h =
 bnd (cond (decide (n<0)) (some (true,h)) (aSome k fun p=>gSl (Addr.add p 6) h fun _ xn _=>some (decide (n≥((xn:Nat):Int)),h))) fun c w=>bnd (cond c (some (true,w)) (aSome k fun p_1=>gSl (Addr.add p_1 1) w fun x_1 xn_1 _=>aSome x_1 fun p_2=>ck ((0:Int)≤n∧n<((xn_1:Nat):Int)) (gSl (Addr.add (B3 p_2) (Int.toNat n*1)) w fun x_2 xn_2 xc_2=>aSome k fun p_3=>gSl (Addr.add p_3 0) w fun x_3 xn_3 _=>aSome x_3 fun p_4=>ck ((0:Int)≤env∧env<((xn_3:Nat):Int)) (gInt .i64 (Addr.add (B3 p_4) (Int.toNat env*1)) w fun x_4=>bnd (C L5 [.slice x_2 xn_2 xc_2,.int .i64 x_4] w) fun r w1=>aBool r fun x_5=>some (!x_5,w1))))) fun c_1 w2=>cond c_1
 (some (.tuple ⟨[.pointer none,.int .i64 8]⟩,w2))
 (aSome k fun p_5=>gSl (Addr.add p_5 6) w2 fun x_6 xn_4 _=>aSome x_6 fun p_6=>ck ((0:Int)≤n∧n<((xn_4:Nat):Int)) (gPtr (Addr.add (B3 p_6) (Int.toNat n*1)) w2 fun x_7=>some (.tuple ⟨[.pointer x_7,.int .i64 0]⟩,w2))):=by kernel_rfl
def Q4:Cuts:={ globs:=0,loops:=[(18,[0,1,2])],regs:=[(10,[0,1,2]),(11,[0,1,2]),(14,[0,1,2]),(17,[])],plans:=[(11,⟨[0,1,2,3,4,5,6,7,8,9,10,11,12,13,14,15,16],[0,1,3,7,15,31,31,95,223,479,1023,31,2079,6175,14367,32767,65535],[],[]⟩),(18,⟨[0,1,2,3,4,5,6,7,8,9,10,11,12,13,14,15,16,17,18,19,20],[0,1,3,7,15,31,0,127,255,511,511,1535,3583,7679,16383,511,33279,98815,229887,524287,1048575],[],[]⟩)] }
def W8:List Item:=A7 Tryz.f209
def Am2:List Item:=stk [0,1,0,1,0,1,0,1,0,1,0,0,1,2,0,1] W8
def Am6:List Item:=stk [0,1,0,1,0,1,0,1,0,1,0,1,0,0] W8
def Am1:List Item:=stk [0,1,0,1,0,1,0,1,0,1,0,1,0,1,0,0] W8
def Ao5:List Item:=stk [0,1,0,1,0,1,0,1,0,1,0,1,0,1,0,0,1,2,0,1,0] W8
def Ac9:List Item:=stk [0,1,0,1,0,1,0,1,0,1,0,1,0,1,0,1,0,4,5] W8
theorem Eu3 (C:A4) (R:A5) (s:Option Addr) (who:Int) (now:Int) (h:H) :
 A8 PR Q4 C R B7 Tryz.f209 100000 true W8 [(0,.pointer s),(1,.int .i64 who),(2,.int .i64 now)] h =
 aSome s fun p=>gInt .i64 (Addr.add p 7) h fun x=>bnd (cond (decide (who<0)) (some (true,h)) (some (decide (who>99),h))) fun c w=>cond c
 (some (.tuple ⟨[.int .i64 0,.bool false]⟩,w))
 (aSome s fun p_1=>pV (Addr.add p_1 7) (.int .i64 (mm2 true now x)) w fun w1=>aSome s fun p_2=>gBool (Addr.add p_2 1) w1 fun x_1=>bnd (cond x_1 (aSome s fun p_3=>gInt .i64 (Addr.add p_3 2) w1 fun x_2=>some (x_2==who,w1)) (some (false,w1))) fun c_1 w2=>cond c_1
 (aSome s fun p_4=>gInt .i64 (Addr.add p_4 3) w2 fun x_3=>some (.tuple ⟨[.int .i64 x_3,.bool true]⟩,w2))
 (aSome s fun p_5=>gSl (Addr.add p_5 5) w2 fun x_4 xn xc=>bnd (C L5 [.slice x_4 xn xc,.int .i64 who] w2) fun r w3=>aBool r fun x_5=>cond (!x_5)
 (aSome s fun p_6=>gSl (Addr.add p_6 5) w3 fun _ xn_1 _=>cond (((xn_1:Nat):Int)==0)
 (aSome s fun p_7=>pV (Addr.add p_7 6) (.int .i64 (mm2 true now x)) w3 fun w4=>R B7 Am2 [(0,.pointer s),(1,.int .i64 who),(2,.int .i64 (mm2 true now x))] w4)
 (R B7 Am2 [(0,.pointer s),(1,.int .i64 who),(2,.int .i64 (mm2 true now x))] w3))
 (R B7 Am6 [(0,.pointer s),(1,.int .i64 who),(2,.int .i64 (mm2 true now x))] w3))):=by kernel_rfl
theorem D80 (C:A4) (R:A5) (s:Option Addr) (who:Int) (now:Int) (h:H) :
 A8 PR Q4 C R B7 Tryz.f209 100000 true Am2 [(0,.pointer s),(1,.int .i64 who),(2,.int .i64 now)] h =
 aSome s fun p=>gSl (Addr.add p 5) h fun x xn xc=>nw (.cells B5 false [.int .i64 who]) h fun b w=>gCells (some ⟨b,0,none⟩) (1*1) w fun cs=>ckB (fitsOpen x B5 w) (apd B5 1 x xn xc 1 cs w fun a an ac w1=>aSome s fun p_1=>pV (Addr.add p_1 5) (.slice a an ac) w1 fun w2=>R B7 Am6 [(0,.pointer s),(1,.int .i64 who),(2,.int .i64 now)] w2):=by kernel_rfl
theorem D41 (C:A4) (R:A5) (s:Option Addr) (who:Int) (now:Int) (h:H) :
 A8 PR Q4 C R B7 Tryz.f209 100000 true Am6 [(0,.pointer s),(1,.int .i64 who),(2,.int .i64 now)] h =
 aSome s fun p=>gBool (Addr.add p 1) h fun x=>bnd (cond x (aSome s fun p_1=>gInt .i64 (Addr.add p_1 4) h fun x_1=>aSome s fun p_2=>gInt .i64 (Addr.add p_2 0) h fun x_2=>some (decide ((IntKind.wrap .i64 (now-x_1))≥x_2),h)) (some (false,h))) fun c w=>cond c
 (aSome s fun p_3=>pV (Addr.add p_3 1) (.bool false) w fun w1=>aSome s fun p_4=>pV (Addr.add p_4 6) (.int .i64 now) w1 fun w2=>R B7 Am1 [(0,.pointer s),(1,.int .i64 who),(2,.int .i64 now)] w2)
 (R B7 Am1 [(0,.pointer s),(1,.int .i64 who),(2,.int .i64 now)] w):=by kernel_rfl
theorem D82 (C:A4) (R:A5) (s:Option Addr) (who:Int) (now:Int) (h:H) :
 A8 PR Q4 C R B7 Tryz.f209 100000 true Am1 [(0,.pointer s),(1,.int .i64 who),(2,.int .i64 now)] h =
 aSome s fun p=>gBool (Addr.add p 1) h fun x=>cond x
 (aSome s fun p_1=>gSl (Addr.add p_1 5) h fun x_1 xn _=>aSome x_1 fun p_2=>ck ((0:Int)≤0∧0<((xn:Nat):Int)) (gInt .i64 (Addr.add (B3 p_2) (Int.toNat 0*1)) h fun x_2=>cond (x_2==who)
 (aSome s fun p_3=>pV (Addr.add p_3 6) (.int .i64 now) h fun w=>R B7 Ao5 [] w)
 (R B7 Ao5 [] h)))
 (R B7 Ac9 [(0,.pointer s),(1,.int .i64 who),(2,.int .i64 now)] h):=by kernel_rfl
theorem Eb3 (C:A4) (R:A5)  (h:H) :
 A8 PR Q4 C R B7 Tryz.f209 100000 true Ao5 [] h =
 some (.tuple ⟨[.int .i64 0,.bool false]⟩,h):=by kernel_rfl
theorem Bx8 (C:A4) (R:A5) (s:Option Addr) (who:Int) (now:Int) (h:H) :
 A8 PR Q4 C R B7 Tryz.f209 100000 true Ac9 [(0,.pointer s),(1,.int .i64 who),(2,.int .i64 now)] h =
 aSome s fun p=>gSl (Addr.add p 5) h fun x xn _=>aSome x fun p_1=>ck ((0:Int)≤0∧0<((xn:Nat):Int)) (gInt .i64 (Addr.add (B3 p_1) (Int.toNat 0*1)) h fun x_1=>bnd (cond (x_1 != who) (aSome s fun p_2=>gInt .i64 (Addr.add p_2 6) h fun x_2=>aSome s fun p_3=>gInt .i64 (Addr.add p_3 0) h fun x_3=>some (decide ((IntKind.wrap .i64 (now-x_2))≥x_3),h)) (some (false,h))) fun c w=>cond c
 (aSome s fun p_4=>gSl (Addr.add p_4 5) w fun x_4 xn_1 xc_1=>ckB (fitsOpen x_4 B5 w) (ck ((0:Int)≤1∧1≤((xn_1:Nat):Int)) (aSome s fun p_5=>pV (Addr.add p_5 5) (.slice (H5 x_4 (decide (Int.toNat 1<xc_1)) ((Int.toNat 1)*1)) (xn_1-(Int.toNat 1)) (xc_1-(Int.toNat 1))) w fun w1=>aSome s fun p_6=>pV (Addr.add p_6 6) (.int .i64 now) w1 fun w2=>R B7 Ac9 [(0,.pointer s),(1,.int .i64 who),(2,.int .i64 now)] w2)))
 (aSome s fun p_7=>gSl (Addr.add p_7 5) w fun x_5 xn_2 _=>aSome x_5 fun p_8=>ck ((0:Int)≤0∧0<((xn_2:Nat):Int)) (gInt .i64 (Addr.add (B3 p_8) (Int.toNat 0*1)) w fun x_6=>cond (x_6 != who)
 (some (.tuple ⟨[.int .i64 0,.bool false]⟩,w))
 (aSome s fun p_9=>gSl (Addr.add p_9 5) w fun x_7 xn_3 xc_3=>ckB (fitsOpen x_7 B5 w) (ck ((0:Int)≤1∧1≤((xn_3:Nat):Int)) (aSome s fun p_10=>pV (Addr.add p_10 5) (.slice (H5 x_7 (decide (Int.toNat 1<xc_3)) ((Int.toNat 1)*1)) (xn_3-(Int.toNat 1)) (xc_3-(Int.toNat 1))) w fun w3=>aSome s fun p_11=>pV (Addr.add p_11 6) (.int .i64 now) w3 fun w4=>aSome s fun p_12=>gInt .i64 (Addr.add p_12 8) w4 fun x_8=>aSome s fun p_13=>pV (Addr.add p_13 8) (.int .i64 (IntKind.wrap .i64 (x_8+1))) w4 fun w5=>aSome s fun p_14=>gInt .i64 (Addr.add p_14 8) w5 fun x_9=>aSome s fun p_15=>pV (Addr.add p_15 1) (.bool true) w5 fun w6=>aSome s fun p_16=>pV (Addr.add p_16 2) (.int .i64 who) w6 fun w7=>aSome s fun p_17=>pV (Addr.add p_17 3) (.int .i64 x_9) w7 fun w8=>aSome s fun p_18=>pV (Addr.add p_18 4) (.int .i64 now) w8 fun w9=>aSome s fun p_19=>gInt .i64 (Addr.add p_19 3) w9 fun x_10=>some (.tuple ⟨[.int .i64 x_10,.bool true]⟩,w9))))))):=by kernel_rfl
def A73:Cuts:={ globs:=0,loops:=[],regs:=[],plans:=[] }
def B03:List Item:=A7 Tryz.f211
theorem D47 (C:A4) (R:A5) (size:Int) (put:Value) (get:Value) (h:H) :
 A8 PR A73 C R Ao4 Tryz.f211 100000 true B03 [(0,.int .i64 size),(1,put),(2,get)] h =
 one put (one get (nw (.cells Bn8 false [.int .i64 (mm2 false (mm2 true size 0) 64),put,get]) h fun b w=>some (.pointer (some ⟨b,0,none⟩),w))):=by kernel_rfl
def Bb0:Cuts:={ globs:=0,loops:=[(4,[1,2,22,23,24]),(9,[1,2,43,44,45]),(14,[1,58,59])],regs:=[],plans:=[] }
def Bn4:List Item:=A7 Tryz.f212
def B42:List Item:=stk [0,1,0,1,0,0,1,4,5] Bn4
def B36:List Item:=stk [0,1,0,1,0,1,0,0,1,4,5] Bn4
def B32:List Item:=stk [0,1,0,1,0,1,0,1,0,0,1,4,5] Bn4
theorem G62 (C:A4) (R:A5) (p:List Value) (b:Option Addr) (bn bc:Nat) (h:H) :
 A8 PR Bb0 C R N5 Tryz.f212 100000 true Bn4 [(0,.agg ⟨p⟩),(1,.slice b bn bc)] h =
 nw (.cells D1 false p) h fun b_1 w=>gAgg ⟨b_1,0,none⟩ 16 w fun x=>bnd (C Di0 [.agg ⟨x⟩] w) fun r w1=>aBool r fun x_1=>cond (!x_1)
 (some (.bool false,w1))
 (gInt .i64 (Addr.add ⟨b_1,0,none⟩ 0) w1 fun x_2=>gInt .i64 (Addr.add ⟨b_1,0,none⟩ 1) w1 fun x_3=>gInt .i64 (Addr.add ⟨b_1,0,none⟩ 2) w1 fun x_4=>gInt .i64 (Addr.add ⟨b_1,0,none⟩ 3) w1 fun x_5=>nw (.cells B5 false [.int .i64 x_2,.int .i64 x_3,.int .i64 x_4,.int .i64 x_5]) w1 fun b_2 w2=>R N5 B42 [(1,.slice b bn bc),(2,.pointer (some ⟨b_1,0,none⟩)),(22,.slice (some ⟨b_2,0,none⟩) 4 4),(23,.int .i64 4),(24,.int .i64 0)] w2):=by kernel_rfl
theorem A40 (C:A4) (R:A5) (b:Option Addr) (bn bc:Nat) (p:Addr) (x22:Option Addr) (x22n x22c:Nat) (x23:Int) (x24:Int) (h:H) :
 A8 PR Bb0 C R N5 Tryz.f212 100000 true B42 [(1,.slice b bn bc),(2,.pointer (some p)),(22,.slice x22 x22n x22c),(23,.int .i64 x23),(24,.int .i64 x24)] h =
 cond (decide (x24<x23))
 (aSome x22 fun p_1=>ck ((0:Int)≤x24∧x24<((x22n:Nat):Int)) (gInt .i64 (Addr.add (B3 p_1) (Int.toNat x24*1)) h fun x=>aSome b fun p_2=>ck ((0:Int)≤x24∧x24<((bn:Nat):Int)) (pV (Addr.add (B3 p_2) (Int.toNat x24*1)) (.int .u8 (IntKind.wrap .u8 (x))) h fun w=>R N5 B42 [(1,.slice b bn bc),(2,.pointer (some p)),(22,.slice x22 x22n x22c),(23,.int .i64 x23),(24,.int .i64 (IntKind.wrap .i64 (x24+1)))] w)))
 (gInt .i64 (Addr.add p 4) h fun x_1=>gInt .i64 (Addr.add p 5) h fun x_2=>gInt .i64 (Addr.add p 6) h fun x_3=>gInt .i64 (Addr.add p 7) h fun x_4=>nw (.cells B5 false [.int .i64 x_1,.int .i64 x_2,.int .i64 x_3,.int .i64 x_4]) h fun b_1 w1=>R N5 B36 [(1,.slice b bn bc),(2,.pointer (some p)),(43,.slice (some ⟨b_1,0,none⟩) 4 4),(44,.int .i64 4),(45,.int .i64 0)] w1):=by kernel_rfl
theorem A34 (C:A4) (R:A5) (b:Option Addr) (bn bc:Nat) (p:Addr) (x43:Option Addr) (x43n x43c:Nat) (x44:Int) (x45:Int) (h:H) :
 A8 PR Bb0 C R N5 Tryz.f212 100000 true B36 [(1,.slice b bn bc),(2,.pointer (some p)),(43,.slice x43 x43n x43c),(44,.int .i64 x44),(45,.int .i64 x45)] h =
 cond (decide (x45<x44))
 (aSome x43 fun p_1=>ck ((0:Int)≤x45∧x45<((x43n:Nat):Int)) (gInt .i64 (Addr.add (B3 p_1) (Int.toNat x45*1)) h fun x=>bnd (C Bf0 [.slice b bn bc,.int .i64 (IntKind.wrap .i64 (4+(IntKind.wrap .i64 (2*x45)))),.int .i64 x] h) fun r w=>aBool r fun _=>R N5 B36 [(1,.slice b bn bc),(2,.pointer (some p)),(43,.slice x43 x43n x43c),(44,.int .i64 x44),(45,.int .i64 (IntKind.wrap .i64 (x45+1)))] w))
 (gAgg (Addr.add p 8) 8 h fun x_2=>R N5 B32 [(1,.slice b bn bc),(58,.agg ⟨x_2⟩),(59,.int .i64 0)] h):=by kernel_rfl
theorem V9 (C:A4) (R:A5) (b:Option Addr) (bn bc:Nat) (x58:List Value) (x59:Int) (h:H) :
 A8 PR Bb0 C R N5 Tryz.f212 100000 true B32 [(1,.slice b bn bc),(58,.agg ⟨x58⟩),(59,.int .i64 x59)] h =
 cond (decide (x59<8))
 (ck ((0:Int)≤x59∧x59<((8:Nat):Int)) (nth x58 (Int.toNat x59*1) fun x=>aInt .i64 x fun x_1=>aSome b fun p=>ck ((0:Int)≤IntKind.wrap .i64 (12+x59)∧IntKind.wrap .i64 (12+x59)<((bn:Nat):Int)) (pV (Addr.add (B3 p) (Int.toNat (IntKind.wrap .i64 (12+x59))*1)) (.int .u8 (IntKind.wrap .u8 (x_1))) h fun w=>R N5 B32 [(1,.slice b bn bc),(58,.agg ⟨x58⟩),(59,.int .i64 (IntKind.wrap .i64 (x59+1)))] w)))
 (aSome b fun p_1=>ck ((0:Int)≤20∧20<((bn:Nat):Int)) (pV (Addr.add (B3 p_1) (Int.toNat 20*1)) (.int .u8 167) h fun w1=>ckB (fitsOpen b A6 w1) (ck ((0:Int)≤21∧21≤((bc:Nat):Int)) (bnd (C Z7 [.slice (H5 b (decide (0<bc)) (0*1)) ((Int.toNat 21)-0) (bc-0)] w1) fun r w2=>aInt .u8 r fun x_2=>aSome b fun p_2=>ck ((0:Int)≤21∧21<((bn:Nat):Int)) (pV (Addr.add (B3 p_2) (Int.toNat 21*1)) (.int .u8 x_2) w2 fun w3=>some (.bool true,w3)))))):=by kernel_rfl
def Ej0:Cuts:={ globs:=0,loops:=[],regs:=[],plans:=[] }
def Gn5:List Item:=A7 Tryz.f223
theorem Hr5 (C:A4) (R:A5) (p:List Value) (h:H) :
 A8 PR Ej0 C R Dt8 Tryz.f223 100000 true Gn5 [(0,.agg ⟨p⟩)] h =
 nw (.cells H1 false p) h fun b w=>gInt .i64 (Addr.add ⟨b,0,none⟩ 0) w fun x=>bnd (C Ap8 [.int .i64 x,.int .i64 31] w) fun r w1=>aBool r fun x_1=>bnd (cond x_1 (gInt .i64 (Addr.add ⟨b,0,none⟩ 1) w1 fun x_2=>bnd (C Ap8 [.int .i64 x_2,.int .i64 32] w1) fun r_1 w2=>aBool r_1 fun x_3=>some (x_3,w2)) (some (false,w1))) fun c w3=>bnd (cond c (gInt .i64 (Addr.add ⟨b,0,none⟩ 2) w3 fun x_4=>bnd (C Ap8 [.int .i64 x_4,.int .i64 8] w3) fun r_2 w4=>aBool r_2 fun x_5=>some (x_5,w4)) (some (false,w3))) fun c_1 w5=>bnd (cond c_1 (gInt .i64 (Addr.add ⟨b,0,none⟩ 3) w5 fun x_6=>bnd (C Ap8 [.int .i64 x_6,.int .i64 8] w5) fun r_3 w6=>aBool r_3 fun x_7=>some (x_7,w6)) (some (false,w5))) fun c_2 w7=>some (.bool c_2,w7):=by kernel_rfl
def Aa2:Cuts:={ globs:=0,loops:=[(4,[0,1,12,13])],regs:=[],plans:=[(6,⟨[0,1,2,3,4,5,6,7,8],[0,0,3,7,0,0,48,112,255],[],[]⟩)] }
def Ak5:List Item:=A7 Tryz.f224
def U2:List Item:=stk [0,1,0,1,0,0,1,4,5] Ak5
theorem Db9 (C:A4) (R:A5) (s1:Option Addr) (s1n s1c:Nat) (s2:Option Addr) (s2n s2c:Nat) (h:H) :
 A8 PR Aa2 C R D0 Tryz.f224 100000 true Ak5 [(0,.slice s1 s1n s1c),(1,.slice s2 s2n s2c)] h =
 cond (((s1n:Nat):Int) != ((s2n:Nat):Int))
 (some (.bool false,h))
 (R D0 U2 [(0,.slice s1 s1n s1c),(1,.slice s2 s2n s2c),(12,.int .i64 ((s1n:Nat):Int)),(13,.int .i64 0)] h):=by kernel_rfl
theorem Az8 (C:A4) (R:A5) (s1:Option Addr) (s1n s1c:Nat) (s2:Option Addr) (s2n s2c:Nat) (x12:Int) (x13:Int) (h:H) :
 A8 PR Aa2 C R D0 Tryz.f224 100000 true U2 [(0,.slice s1 s1n s1c),(1,.slice s2 s2n s2c),(12,.int .i64 x12),(13,.int .i64 x13)] h =
 cond (decide (x13<x12))
 (aSome s1 fun p=>ck ((0:Int)≤x13∧x13<((s1n:Nat):Int)) (gInt .u8 (Addr.add (B3 p) (Int.toNat x13*1)) h fun x=>aSome s2 fun p_1=>ck ((0:Int)≤x13∧x13<((s2n:Nat):Int)) (gInt .u8 (Addr.add (B3 p_1) (Int.toNat x13*1)) h fun x_1=>cond (x != x_1)
 (some (.bool false,h))
 (R D0 U2 [(0,.slice s1 s1n s1c),(1,.slice s2 s2n s2c),(12,.int .i64 x12),(13,.int .i64 (IntKind.wrap .i64 (x13+1)))] h))))
 (some (.bool true,h)):=by kernel_rfl
def Q9:Cuts:={ globs:=0,loops:=[(2,[0,1,7,8])],regs:=[],plans:=[] }
def Ae2:List Item:=A7 Tryz.f225
def O7:List Item:=stk [0,1,0,0,1,4,5] Ae2
theorem Bv1 (C:A4) (R:A5) (s:Option Addr) (sn sc:Nat) (f:Value) (h:H) :
 A8 PR Q9 C R E6 Tryz.f225 100000 true Ae2 [(0,.slice s sn sc),(1,f)] h =
 R E6 O7 [(0,.slice s sn sc),(1,f),(7,.int .i64 ((sn:Nat):Int)),(8,.int .i64 0)] h:=by kernel_rfl
theorem Ap6 (C:A4) (R:A5) (s:Option Addr) (sn sc:Nat) (f:Value) (x7:Int) (x8:Int) (h:H) :
 A8 PR Q9 C R E6 Tryz.f225 100000 true O7 [(0,.slice s sn sc),(1,f),(7,.int .i64 x7),(8,.int .i64 x8)] h =
 cond (decide (x8<x7))
 (aSome s fun p=>ck ((0:Int)≤x8∧x8<((sn:Nat):Int)) (gInt .u8 (Addr.add (B3 p) (Int.toNat x8*1)) h fun x=>aFn f fun g fi cp=>bnd (C g (fi++([.int .u8 x]++cp)) h) fun r w=>aBool r fun x_1=>cond x_1
 (some (.int .i64 x8,w))
 (R E6 O7 [(0,.slice s sn sc),(1,f),(7,.int .i64 x7),(8,.int .i64 (IntKind.wrap .i64 (x8+1)))] w)))
 (some (.int .i64 (-1),h)):=by kernel_rfl
def D99:Cuts:={ globs:=0,loops:=[],regs:=[],plans:=[] }
def Gb9:List Item:=A7 Tryz.f231
theorem Hl8 (C:A4) (R:A5) (p:List Value) (h:H) :
 A8 PR D99 C R Di0 Tryz.f231 100000 true Gb9 [(0,.agg ⟨p⟩)] h =
 nw (.cells D1 false p) h fun b w=>gInt .i64 (Addr.add ⟨b,0,none⟩ 0) w fun x=>bnd (cond (decide (x<1)) (some (true,w)) (gInt .i64 (Addr.add ⟨b,0,none⟩ 0) w fun x_1=>some (decide (x_1>3),w))) fun c w1=>bnd (cond c (some (true,w1)) (gInt .i64 (Addr.add ⟨b,0,none⟩ 1) w1 fun x_2=>some (decide (x_2<0),w1))) fun c_1 w2=>bnd (cond c_1 (some (true,w2)) (gInt .i64 (Addr.add ⟨b,0,none⟩ 1) w2 fun x_3=>some (decide (x_3>8),w2))) fun c_2 w3=>bnd (cond c_2 (some (true,w3)) (gInt .i64 (Addr.add ⟨b,0,none⟩ 2) w3 fun x_4=>some (decide (x_4<0),w3))) fun c_3 w4=>bnd (cond c_3 (some (true,w4)) (gInt .i64 (Addr.add ⟨b,0,none⟩ 2) w4 fun x_5=>some (decide (x_5≥8),w4))) fun c_4 w5=>bnd (cond c_4 (some (true,w5)) (gInt .i64 (Addr.add ⟨b,0,none⟩ 3) w5 fun x_6=>some (decide (x_6<0),w5))) fun c_5 w6=>bnd (cond c_5 (some (true,w6)) (gInt .i64 (Addr.add ⟨b,0,none⟩ 3) w6 fun x_7=>some (decide (x_7>255),w6))) fun c_6 w7=>cond c_6
 (some (.bool false,w7))
 (gInt .i64 (Addr.add ⟨b,0,none⟩ 4) w7 fun x_8=>bnd (C Aj4 [.int .i64 x_8,.int .i64 0] w7) fun r w8=>aBool r fun x_9=>bnd (cond (!x_9) (some (true,w8)) (gInt .i64 (Addr.add ⟨b,0,none⟩ 5) w8 fun x_10=>bnd (C Aj4 [.int .i64 x_10,.int .i64 16896] w8) fun r_1 w9=>aBool r_1 fun x_11=>some (!x_11,w9))) fun c_7 w10=>bnd (cond c_7 (some (true,w10)) (gInt .i64 (Addr.add ⟨b,0,none⟩ 6) w10 fun x_12=>bnd (C Aj4 [.int .i64 x_12,.int .i64 16896] w10) fun r_2 w11=>aBool r_2 fun x_13=>some (!x_13,w11))) fun c_8 w12=>bnd (cond c_8 (some (true,w12)) (gInt .i64 (Addr.add ⟨b,0,none⟩ 7) w12 fun x_14=>bnd (C Aj4 [.int .i64 x_14,.int .i64 16896] w12) fun r_3 w13=>aBool r_3 fun x_15=>some (!x_15,w13))) fun c_9 w14=>bnd (cond c_9 (some (true,w14)) (gInt .i64 (Addr.add ⟨b,0,none⟩ 6) w14 fun x_16=>gInt .i64 (Addr.add ⟨b,0,none⟩ 7) w14 fun x_17=>some ((O5 .i64 x_16 x_17) != 0,w14))) fun c_10 w15=>cond c_10
 (some (.bool false,w15))
 (ckB (liveA (Addr.add ⟨b,0,none⟩ 8) w15) (bnd (C E2 [.slice (H5 (some (Addr.add ⟨b,0,none⟩ 8)) (decide (0<8)) (0*1)) (8-0) (8-0),.func (.func Bg9) ⟨[]⟩ ⟨[]⟩] w15) fun r_4 w16=>aBool r_4 fun x_18=>cond x_18
 (some (.bool false,w16))
 (gInt .i64 (Addr.add ⟨b,0,none⟩ 0) w16 fun x_19=>cond (x_19==2)
 (gInt .i64 (Addr.add ⟨b,0,none⟩ 4) w16 fun x_20=>bnd (cond (x_20==0) (gAgg (Addr.add ⟨b,0,none⟩ 8) 8 w16 fun x_21=>Bj6 PR Ge6 x_21 [.int .i64 0,.int .i64 0,.int .i64 0,.int .i64 0,.int .i64 0,.int .i64 0,.int .i64 0,.int .i64 0] fun eq=>some (eq,w16)) (some (false,w16))) fun c_11 w17=>some (.bool c_11,w17))
 (gInt .i64 (Addr.add ⟨b,0,none⟩ 3) w16 fun x_22=>some (.bool (x_22==0),w16)))))):=by kernel_rfl
def Dz1:Cuts:={ globs:=0,loops:=[],regs:=[],plans:=[] }
def Ey8:List Item:=A7 Tryz.f235
theorem G72 (C:A4) (R:A5) (n:Int) (B1:Int) (h:H) :
 A8 PR Dz1 C R Ap8 Tryz.f235 100000 true Ey8 [(0,.int .i64 n),(1,.int .i64 B1)] h =
 bnd (cond (decide (n≥0)) (some (decide (n≤B1),h)) (some (false,h))) fun c w=>some (.bool c,w):=by kernel_rfl
end
end Go.EQ

set_option maxRecDepth 100000
namespace Go.EQ
open Go Go.NN Go.Proofs
variable (C : A4) (R : A5)
noncomputable section
def Dl3:Cuts:={ globs:=0,loops:=[],regs:=[],plans:=[] }
def Ej5:List Item:=A7 Tryz.f13
theorem Gs6 (C:A4) (R:A5) (p:List Value) (h:H) :
 A8 PR Dl3 C R Be9 Tryz.f13 100000 true Ej5 [(0,.agg ⟨p⟩)] h =
 nw (.cells Bx2 false p) h fun b w=>gAgg ⟨b,0,none⟩ 3 w fun x=>bnd (C I2 [.agg ⟨x⟩] w) fun r w1=>aAgg r fun x_1=>nw (.cells D8 false [.slice none 0 0,.slice none 0 0,.slice none 0 0,.int .i64 0,.slice none 0 0]) w1 fun b_1 w2=>ck (List.length x_1=5) (pAgg ⟨b_1,0,none⟩ x_1 w2 fun w3=>gAgg ⟨b_1,0,none⟩ 5 w3 fun x_2=>bnd (C H2 [.agg ⟨x_2⟩] w3) fun r_1 w4=>as2 r_1 fun r_2 r_3=>aPtr r_2 fun x_3=>aInt .i64 r_3 fun x_4=>bnd (cond x_3.isNone (some (true,w4)) (some (x_4 != 0,w4))) fun c w5=>cond c
 (some (.tuple ⟨[.pointer none,.pointer none,.pointer none,.pointer none]⟩,w5))
 (gAgg ⟨b_1,0,none⟩ 5 w5 fun x_5=>bnd (C E7 [.agg ⟨x_5⟩] w5) fun r_4 w6=>aPtr r_4 fun x_6=>bnd (C Bp8 [.pointer x_3,.int .i64 0] w6) fun r_5 w7=>as2 r_5 fun r_6 r_7=>aPtr r_6 fun x_7=>aInt .i64 r_7 fun x_8=>bnd (cond x_7.isNone (some (true,w7)) (some (x_8 != 0,w7))) fun c_1 w8=>cond c_1
 (some (.tuple ⟨[.pointer none,.pointer none,.pointer none,.pointer none]⟩,w8))
 (bnd (C A89 [] w8) fun r_8 w9=>aStr r_8 fun x_9=>ck (ByteArray.size x_9≤B1) (nw (.cells A6 false (A0 (ByteArray.data x_9).toList)) w9 fun b_2 w10=>bnd (C Q3 [.pointer x_3,.int .i64 0,.agg ⟨[.int .i64 2,.int .i64 256,.int .i64 0,.int .i64 0,.int .i64 0,.int .i64 0,.slice (some (J5 b_2)) (ByteArray.size x_9) (ByteArray.size x_9)]⟩] w10) fun r_9 w11=>aAgg r_9 fun x_10=>nth x_10 0 fun E=>aInt .i64 E fun E_1=>cond (E_1 != 0)
 (some (.tuple ⟨[.pointer none,.pointer none,.pointer none,.pointer none]⟩,w11))
 (ck (ByteArray.size x_9≤B1) (nw (.cells A6 false (A0 (ByteArray.data x_9).toList)) w11 fun b_3 w12=>bnd (C Aq6 [.pointer x_6,.int .i64 0,.agg ⟨[.int .i64 2,.int .i64 256,.int .i64 0,.int .i64 0,.int .i64 0,.int .i64 0,.slice (some (J5 b_3)) (ByteArray.size x_9) (ByteArray.size x_9)]⟩] w12) fun r_10 w13=>as3 r_10 fun r_11 r_12 r_13=>aInt .i64 r_11 fun _=>aInt .i64 r_12 fun _=>aStr r_13 fun _=>bnd (C Ax5 [.pointer x_6,.int .i64 0] w13) fun r_14 w14=>aPtr r_14 fun x_14=>some (.tuple ⟨[.pointer x_3,.pointer x_7,.pointer x_6,.pointer x_14]⟩,w14))))))):=by kernel_rfl
def Ap2:Cuts:={ globs:=0,loops:=[],regs:=[],plans:=[] }
def Bc9:List Item:=A7 Tryz.f17
theorem Dh2 (C:A4) (R:A5) (c:Option Addr) (i:Int) (p:List Value) (h:H) :
 A8 PR Ap2 C R R0 Tryz.f17 100000 true Bc9 [(0,.pointer c),(1,.int .i64 i),(2,.agg ⟨p⟩)] h =
 nw (.cells H1 false p) h fun b w=>gAgg ⟨b,0,none⟩ 36 w fun x=>bnd (C Ba6 [.agg ⟨x⟩] w) fun r w1=>as2 r fun r_1 r_2=>aSl r_1 fun x_1 xn xc=>aBool r_2 fun x_2=>bnd (C Aq5 [.int .i64 i] w1) fun r_3 w2=>aAgg r_3 fun x_3=>bnd (C I5 [.pointer c,.agg ⟨x_3⟩,.slice x_1 xn xc,.bool x_2] w2) fun r_4 w3=>aBool r_4 fun x_4=>some (.bool x_4,w3):=by kernel_rfl
def A08:Cuts:={ globs:=0,loops:=[(4,[1,3,4])],regs:=[],plans:=[(2,⟨[0,1,2,5,6,9,10,13,14,3,4,7,8,11,12,15,16,17],[0,0,2,6,15,0,32,110,255,0,512,1774,4095,0,8192,28398,65535,131071],[(3,[6,10,14]),(7,[10,14]),(11,[14])],[]⟩)] }
def Bl3:List Item:=A7 Tryz.f20
def Ao0:List Item:=stk [0,1,0,1,0,1,0,0,1,4,5] Bl3
theorem Eu7 (C:A4) (R:A5) (p:List Value) (h:H) :
 A8 PR A08 C R Q6 Tryz.f20 100000 true Bl3 [(0,.agg ⟨p⟩)] h =
 nw (.cells D1 false p) h fun b w=>gInt .i64 (Addr.add ⟨b,0,none⟩ 0) w fun x=>gInt .i64 (Addr.add ⟨b,0,none⟩ 1) w fun x_1=>gInt .i64 (Addr.add ⟨b,0,none⟩ 2) w fun x_2=>gInt .i64 (Addr.add ⟨b,0,none⟩ 3) w fun x_3=>nw (.cells A6 false [.int .u8 (IntKind.wrap .u8 (x)),.int .u8 (IntKind.wrap .u8 (x_1)),.int .u8 (IntKind.wrap .u8 (x_2)),.int .u8 (IntKind.wrap .u8 (x_3))]) w fun b_1 w1=>gCells (some ⟨b_1,0,none⟩) 4 w1 fun cs=>asBytes cs fun l=>gInt .i64 (Addr.add ⟨b,0,none⟩ 4) w1 fun x_4=>gInt .i64 (Addr.add ⟨b,0,none⟩ 5) w1 fun x_5=>gInt .i64 (Addr.add ⟨b,0,none⟩ 6) w1 fun x_6=>gInt .i64 (Addr.add ⟨b,0,none⟩ 7) w1 fun x_7=>bnd (C A69 [.int .i64 x_4] w1) fun r w2=>aStr r fun x_8=>gInt .i64 (Addr.add ⟨b,0,none⟩ 5) w2 fun x_9=>same (.int .i64 x_5) (.int .i64 x_9) (gInt .i64 (Addr.add ⟨b,0,none⟩ 6) w2 fun x_10=>same (.int .i64 x_6) (.int .i64 x_10) (gInt .i64 (Addr.add ⟨b,0,none⟩ 7) w2 fun x_11=>same (.int .i64 x_7) (.int .i64 x_11) (ck (ByteArray.size (ByteArray.mk ⟨l⟩)+ByteArray.size x_8≤B1) (bnd (C A69 [.int .i64 x_5] w2) fun r_1 w3=>aStr r_1 fun x_12=>gInt .i64 (Addr.add ⟨b,0,none⟩ 6) w3 fun x_13=>same (.int .i64 x_6) (.int .i64 x_13) (gInt .i64 (Addr.add ⟨b,0,none⟩ 7) w3 fun x_14=>same (.int .i64 x_7) (.int .i64 x_14) (ck (ByteArray.size ((ByteArray.mk ⟨l⟩)++x_8)+ByteArray.size x_12≤B1) (bnd (C A69 [.int .i64 x_6] w3) fun r_2 w4=>aStr r_2 fun x_15=>gInt .i64 (Addr.add ⟨b,0,none⟩ 7) w4 fun x_16=>same (.int .i64 x_7) (.int .i64 x_16) (ck (ByteArray.size (((ByteArray.mk ⟨l⟩)++x_8)++x_12)+ByteArray.size x_15≤B1) (bnd (C A69 [.int .i64 x_7] w4) fun r_3 w5=>aStr r_3 fun x_17=>ck (ByteArray.size ((((ByteArray.mk ⟨l⟩)++x_8)++x_12)++x_15)+ByteArray.size x_17≤B1) (R Q6 Ao0 [(1,.pointer (some ⟨b,0,none⟩)),(3,.string (((((ByteArray.mk ⟨l⟩)++x_8)++x_12)++x_15)++x_17)),(4,.int .i64 0)] w5)))))))))):=by kernel_rfl
theorem B07 (C:A4) (R:A5) (p:Addr) (s:ByteArray) (i:Int) (h:H) :
 A8 PR A08 C R Q6 Tryz.f20 100000 true Ao0 [(1,.pointer (some p)),(3,.string s),(4,.int .i64 i)] h =
 cond (decide (i<8))
 (ck ((0:Int)≤i∧i<((8:Nat):Int)) (gInt .i64 (Addr.add (Addr.add p 8) (Int.toNat i*1)) h fun x=>nw (.cells A6 false [.int .u8 (IntKind.wrap .u8 (x))]) h fun b w=>gCells (some ⟨b,0,none⟩) 1 w fun cs=>asBytes cs fun l=>ck (ByteArray.size s+ByteArray.size (ByteArray.mk ⟨l⟩)≤B1) (R Q6 Ao0 [(1,.pointer (some p)),(3,.string (s++(ByteArray.mk ⟨l⟩))),(4,.int .i64 (IntKind.wrap .i64 (i+1)))] w)))
 (ck (ByteArray.size s+ByteArray.size (ByteArray.mk ⟨[167]⟩)≤B1) (bnd (C Ad9 [.string (s++(ByteArray.mk ⟨[167]⟩))] h) fun r w1=>aInt .u8 r fun x_1=>nw (.cells A6 false [.int .u8 x_1,.int .u8 0,.int .u8 0]) w1 fun b_1 w2=>gCells (some ⟨b_1,0,none⟩) 3 w2 fun cs_1=>asBytes cs_1 fun l_1=>ck (ByteArray.size (s++(ByteArray.mk ⟨[167]⟩))+ByteArray.size (ByteArray.mk ⟨l_1⟩)≤B1) (some (.string ((s++(ByteArray.mk ⟨[167]⟩))++(ByteArray.mk ⟨l_1⟩)),w2)))):=by kernel_rfl
def Db8:Cuts:={ globs:=0,loops:=[],regs:=[],plans:=[(5,⟨[0,1,2,3,4],[0,1,0,4,15],[(3,[1])],[]⟩)] }
def Ec2:List Item:=A7 Tryz.f32
theorem Gq9 (C:A4) (R:A5)  (h:H) :
 A8 PR Db8 C R Ba5 Tryz.f32 100000 true Ec2 [] h =
 bnd (C A89 [] h) fun r w=>aStr r fun x=>ck (ByteArray.size x≤B1) (nw (.cells A6 false (A0 (ByteArray.data x).toList)) w fun b w1=>nw (.cells D1 false [.int .i64 0,.int .i64 0,.int .i64 0,.int .i64 0,.int .i64 0,.int .i64 0,.int .i64 0,.int .i64 0,.int .i64 0,.int .i64 0,.int .i64 0,.int .i64 0,.int .i64 0,.int .i64 0,.int .i64 0,.int .i64 0]) w1 fun b_1 w2=>pAgg ⟨b_1,0,none⟩ [.int .i64 1,.int .i64 0,.int .i64 0,.int .i64 0,.int .i64 0,.int .i64 0,.int .i64 0,.int .i64 0,.int .i64 0,.int .i64 0,.int .i64 0,.int .i64 0,.int .i64 0,.int .i64 0,.int .i64 0,.int .i64 0] w2 fun w3=>ck ((0:Int)≤0∧0<((8:Nat):Int)) (pV (Addr.add (Addr.add ⟨b_1,0,none⟩ 8) (Int.toNat 0*1)) (.int .i64 1) w3 fun w4=>gAgg ⟨b_1,0,none⟩ 16 w4 fun x_1=>bnd (C Q6 [.agg ⟨x_1⟩] w4) fun r_1 w5=>aStr r_1 fun x_2=>pCells (some (J5 b)) (A0 (List.take (min (ByteArray.size x_2) (ByteArray.size x)) (ByteArray.data x_2).toList)) w5 fun w6=>ckB (fitsOpen (some (J5 b)) A6 w6) (ck ((0:Int)≤192∧192≤((ByteArray.size x:Nat):Int)) (bnd (C A13 [.agg ⟨[.int .i64 3,.int .i64 0,.int .i64 1,.int .i64 0]⟩] w6) fun r_2 w7=>aStr r_2 fun x_3=>ckB (fitsOpen (some (J5 b)) A6 w7) (ck ((0:Int)≤192∧192≤((ByteArray.size x:Nat):Int)) (same (.slice (H5 (some (J5 b)) (decide (Int.toNat 192<ByteArray.size x)) ((Int.toNat 192)*1)) ((ByteArray.size x)-(Int.toNat 192)) ((ByteArray.size x)-(Int.toNat 192))) (.slice (H5 (some (J5 b)) (decide (Int.toNat 192<ByteArray.size x)) ((Int.toNat 192)*1)) ((ByteArray.size x)-(Int.toNat 192)) ((ByteArray.size x)-(Int.toNat 192))) (pCells (H5 (some (J5 b)) (decide (Int.toNat 192<ByteArray.size x)) ((Int.toNat 192)*1)) (A0 (List.take (min (ByteArray.size x_3) ((ByteArray.size x)-(Int.toNat 192))) (ByteArray.data x_3).toList)) w7 fun w8=>some (.slice (some (J5 b)) (ByteArray.size x) (ByteArray.size x),w8)))))))):=by kernel_rfl
def Dv2:Cuts:={ globs:=0,loops:=[],regs:=[],plans:=[] }
def Ex3:List Item:=A7 Tryz.f46
theorem Hc8 (C:A4) (R:A5) (c:Option Addr) (i:Int) (fd:Int) (h:H) :
 A8 PR Dv2 C R Bb4 Tryz.f46 100000 true Ex3 [(0,.pointer c),(1,.int .i64 i),(2,.int .i64 fd)] h =
 nw (.cells V0 false [.int .i64 0,.int .i64 0,.slice none 0 0,.bool false]) h fun b w=>bnd (C Ay8 [.pointer c,.int .i64 i] w) fun r w1=>as2 r fun r_1 r_2=>aAgg r_1 fun x=>aInt .i64 r_2 fun x_1=>nw (.cells D1 false [.int .i64 0,.int .i64 0,.int .i64 0,.int .i64 0,.int .i64 0,.int .i64 0,.int .i64 0,.int .i64 0,.int .i64 0,.int .i64 0,.int .i64 0,.int .i64 0,.int .i64 0,.int .i64 0,.int .i64 0,.int .i64 0]) w1 fun b_1 w2=>ck (List.length x=16) (pAgg ⟨b_1,0,none⟩ x w2 fun w3=>cond (x_1 != 0)
 (bnd (C Ad2 [.int .i64 x_1] w3) fun r_3 w4=>aAgg r_3 fun x_2=>ck (List.length x_2=4) (pAgg ⟨b,0,none⟩ x_2 w4 fun w5=>gAgg ⟨b,0,none⟩ 4 w5 fun x_3=>some (.agg ⟨x_3⟩,w5)))
 (gAgg ⟨b_1,0,none⟩ 16 w3 fun x_4=>bnd (C Bn3 [.agg ⟨x_4⟩,.int .i64 fd] w3) fun r_4 w6=>aBool r_4 fun x_5=>cond (!x_5)
 (bnd (C Ad2 [.int .i64 109] w6) fun r_5 w7=>aAgg r_5 fun x_6=>ck (List.length x_6=4) (pAgg ⟨b,0,none⟩ x_6 w7 fun w8=>gAgg ⟨b,0,none⟩ 4 w8 fun x_7=>some (.agg ⟨x_7⟩,w8)))
 (ck ((0:Int)≤fd∧fd<((8:Nat):Int)) (gInt .i64 (Addr.add (Addr.add ⟨b_1,0,none⟩ 8) (Int.toNat fd*1)) w6 fun x_8=>ck ((0:Int)≤fd∧fd<((8:Nat):Int)) (pV (Addr.add (Addr.add ⟨b_1,0,none⟩ 8) (Int.toNat fd*1)) (.int .i64 0) w6 fun w9=>gAgg ⟨b_1,0,none⟩ 16 w9 fun x_9=>bnd (C N6 [.pointer c,.int .i64 i,.agg ⟨x_9⟩] w9) fun r_6 w10=>aBool r_6 fun x_10=>cond (!x_10)
 (bnd (C Ad2 [.int .i64 105] w10) fun r_7 w11=>aAgg r_7 fun x_11=>ck (List.length x_11=4) (pAgg ⟨b,0,none⟩ x_11 w11 fun w12=>gAgg ⟨b,0,none⟩ 4 w12 fun x_12=>some (.agg ⟨x_12⟩,w12)))
 (bnd (C U7 [.pointer c,.int .i64 (IntKind.wrap .i64 (x_8-1))] w10) fun r_8 w13=>aInt .i64 r_8 fun x_13=>bnd (C Ad2 [.int .i64 x_13] w13) fun r_9 w14=>aAgg r_9 fun x_14=>ck (List.length x_14=4) (pAgg ⟨b,0,none⟩ x_14 w14 fun w15=>gAgg ⟨b,0,none⟩ 4 w15 fun x_15=>some (.agg ⟨x_15⟩,w15)))))))):=by kernel_rfl
def Dc3:Cuts:={ globs:=0,loops:=[],regs:=[],plans:=[] }
def Ee0:List Item:=A7 Tryz.f47
theorem Gp7 (C:A4) (R:A5)  (h:H) :
 A8 PR Dc3 C R A90 Tryz.f47 100000 true Ee0 [] h =
 bnd (C Ba5 [] h) fun r w=>aSl r fun x xn xc=>bnd (C Ae6 [.slice x xn xc] w) fun r_1 w1=>as4 r_1 fun r_2 r_3 r_4 r_5=>aPtr r_2 fun _=>aPtr r_3 fun x_2=>aPtr r_4 fun _=>aPtr r_5 fun _=>cond x_2.isNone
 (some (.bool false,w1))
 (bnd (C Bh9 [.pointer x_2,.int .i64 0] w1) fun r_6 w2=>aAgg r_6 fun x_5=>nw (.cells V0 false [.int .i64 0,.int .i64 0,.slice none 0 0,.bool false]) w2 fun b w3=>ck (List.length x_5=4) (pAgg ⟨b,0,none⟩ x_5 w3 fun w4=>bnd (C Bb4 [.pointer x_2,.int .i64 0,.int .i64 5] w4) fun r_7 w5=>aAgg r_7 fun x_6=>nw (.cells V0 false [.int .i64 0,.int .i64 0,.slice none 0 0,.bool false]) w5 fun b_1 w6=>ck (List.length x_6=4) (pAgg ⟨b_1,0,none⟩ x_6 w6 fun w7=>bnd (C D51 [.pointer x_2,.int .i64 0,.int .i64 1] w7) fun r_8 w8=>as3 r_8 fun r_9 r_10 r_11=>aInt .i64 r_9 fun x_7=>aAgg r_10 fun x_8=>aInt .i64 r_11 fun x_9=>nw (.cells E1 false [.int .i64 0,.int .i64 0,.int .i64 0,.int .i64 0]) w8 fun b_2 w9=>ck (List.length x_8=4) (pAgg ⟨b_2,0,none⟩ x_8 w9 fun w10=>gInt .i64 (Addr.add ⟨b,0,none⟩ 1) w10 fun x_10=>bnd (cond (x_10==0) (gInt .i64 (Addr.add ⟨b,0,none⟩ 0) w10 fun x_11=>some (x_11==33,w10)) (some (false,w10))) fun c w11=>bnd (cond c (gInt .i64 (Addr.add ⟨b_1,0,none⟩ 1) w11 fun x_12=>some (x_12==109,w11)) (some (false,w11))) fun c_1 w12=>bnd (cond c_1 (some (x_7==1,w12)) (some (false,w12))) fun c_2 w13=>bnd (cond c_2 (gAgg ⟨b_2,0,none⟩ 4 w13 fun x_13=>Bj6 PR E1 x_13 [.int .i64 1,.int .i64 0,.int .i64 1,.int .i64 0] fun eq=>some (eq,w13)) (some (false,w13))) fun c_3 w14=>bnd (cond c_3 (some (x_9==0,w14)) (some (false,w14))) fun c_4 w15=>some (.bool c_4,w15))))):=by kernel_rfl
def B55:Cuts:={ globs:=0,loops:=[],regs:=[],plans:=[(7,⟨[0,1,2,3,4,5,6,7,8,9,10,11,12,13,14,15,16],[0,1,3,7,0,0,32,0,128,0,512,2047,4095,8191,8191,16383,65535],[],[]⟩),(9,⟨[0,1,2,3,4,5,6,7,8,9,10,11,12,13],[0,1,3,7,0,0,32,0,128,0,512,1536,4095,8191],[],[]⟩),(11,⟨[0,1,2,3,4,5,6,7,8,9,10,11,12,13,14,15,16],[0,1,3,7,0,0,32,0,128,0,512,0,2048,0,8192,32767,65535],[],[]⟩),(13,⟨[0,1,2,3,4,5,6,7,8,9,10,11,12,13,14,15,16,17,18,19,20,21,22,23],[0,1,3,7,15,31,63,0,0,256,0,1024,0,4096,0,16384,0,65536,262143,524287,1048575,1048575,2097151,8388607],[],[]⟩),(15,⟨[0,1,2,3,4,5,6,7,8,9,10,11,12,13,14,15],[0,1,3,7,15,31,63,0,0,256,1023,2047,4095,4095,8191,32767],[],[]⟩),(17,⟨[0,1,2,3,4,5,6,7,8,9,10,11,12,13,14,15,16,17],[0,1,3,7,0,16,48,112,240,0,1008,2032,4095,8191,16383,16383,32767,131071],[],[]⟩),(19,⟨[0,1,2,3,4,5,6,7,8,9,10,11,12,13,14,15],[0,1,3,7,0,16,48,112,240,0,1008,2032,0,4096,16383,32767],[],[]⟩),(23,⟨[0,1,2,3,4,5,6,7,8,9,10,11,12,13,14,15,16,17],[0,1,3,7,0,16,63,127,0,0,512,1536,3584,8191,16383,32767,32767,65535],[],[]⟩),(27,⟨[0,1,2,3,4,5,6,7,8,9,10,11,12,13,14,15,16,17,18],[0,0,0,4,15,31,63,127,255,511,63,1087,4095,8191,63,63,32831,131071,262143],[],[]⟩)] }
def D00:List Item:=A7 Tryz.f54
theorem Ge5 (C:A4) (R:A5) (k:Option Addr) (e:Int) (c:List Value) (h:H) :
 A8 PR B55 C R Aq6 Tryz.f54 100000 true D00 [(0,.pointer k),(1,.int .i64 e),(2,.agg ⟨c⟩)] h =
 nw (.cells Aw4 false c) h fun b w=>bnd (cond (decide (e<0)) (some (true,w)) (aSome k fun p=>gSl (Addr.add (Addr.add p 0) 1) w fun _ xn _=>some (decide (e≥((xn:Nat):Int)),w))) fun c_1 w1=>cond c_1
 (some (.tuple ⟨[.int .i64 1,.int .i64 0,.string (ByteArray.mk ⟨[]⟩)]⟩,w1))
 (gInt .i64 (Addr.add ⟨b,0,none⟩ 0) w1 fun x_1=>cond (x_1==1)
 (aSome k fun p_1=>gPtr (Addr.add p_1 6) w1 fun x_2=>gInt .i64 (Addr.add ⟨b,0,none⟩ 1) w1 fun x_3=>gInt .i64 (Addr.add ⟨b,0,none⟩ 2) w1 fun x_4=>gInt .i64 (Addr.add ⟨b,0,none⟩ 3) w1 fun x_5=>bnd (C Ef0 [.pointer x_2,.int .i64 e,.int .i64 x_3,.int .i64 x_4,.int .i64 x_5] w1) fun r w2=>as2 r fun r_1 r_2=>aStr r_1 fun x_6=>aInt .i64 r_2 fun x_7=>some (.tuple ⟨[.int .i64 x_7,.int .i64 0,.string x_6]⟩,w2))
 (cond (x_1==2)
 (aSome k fun p_2=>gPtr (Addr.add p_2 6) w1 fun x_8=>gInt .i64 (Addr.add ⟨b,0,none⟩ 1) w1 fun x_9=>gInt .i64 (Addr.add ⟨b,0,none⟩ 2) w1 fun x_10=>gSl (Addr.add ⟨b,0,none⟩ 6) w1 fun x_11 xn_1 _=>gCells x_11 xn_1 w1 fun cs=>asBytes cs fun l=>bnd (C Am5 [.pointer x_8,.int .i64 e,.int .i64 x_9,.int .i64 x_10,.string (ByteArray.mk ⟨l⟩)] w1) fun r_3 w3=>aInt .i64 r_3 fun x_12=>some (.tuple ⟨[.int .i64 x_12,.int .i64 0,.string (ByteArray.mk ⟨[]⟩)]⟩,w3))
 (cond (x_1==3)
 (aSome k fun p_3=>gPtr (Addr.add p_3 6) w1 fun x_13=>gInt .i64 (Addr.add ⟨b,0,none⟩ 1) w1 fun x_14=>gInt .i64 (Addr.add ⟨b,0,none⟩ 2) w1 fun x_15=>gInt .i64 (Addr.add ⟨b,0,none⟩ 4) w1 fun x_16=>gInt .i64 (Addr.add ⟨b,0,none⟩ 5) w1 fun x_17=>gInt .i64 (Addr.add ⟨b,0,none⟩ 3) w1 fun x_18=>bnd (C Ee4 [.pointer x_13,.int .i64 e,.int .i64 x_14,.int .i64 x_15,.int .i64 x_16,.int .i64 x_17,.int .i64 x_18] w1) fun r_4 w4=>aInt .i64 r_4 fun x_19=>some (.tuple ⟨[.int .i64 x_19,.int .i64 0,.string (ByteArray.mk ⟨[]⟩)]⟩,w4))
 (cond (x_1==4)
 (aSome k fun p_4=>gPtr (Addr.add p_4 6) w1 fun x_20=>aSome x_20 fun p_5=>gPtr (Addr.add p_5 3) w1 fun x_21=>gInt .i64 (Addr.add ⟨b,0,none⟩ 1) w1 fun x_22=>gInt .i64 (Addr.add ⟨b,0,none⟩ 4) w1 fun x_23=>gInt .i64 (Addr.add ⟨b,0,none⟩ 5) w1 fun x_24=>gInt .i64 (Addr.add ⟨b,0,none⟩ 2) w1 fun x_25=>gInt .i64 (Addr.add ⟨b,0,none⟩ 3) w1 fun x_26=>bnd (C Ej3 [.pointer x_21,.int .i64 e,.int .i64 x_22,.int .i64 x_23,.int .i64 x_24,.int .i64 x_25,.int .i64 x_26] w1) fun r_5 w5=>as2 r_5 fun r_6 r_7=>aInt .i64 r_6 fun x_27=>aInt .i64 r_7 fun x_28=>some (.tuple ⟨[.int .i64 x_28,.int .i64 x_27,.string (ByteArray.mk ⟨[]⟩)]⟩,w5))
 (cond (x_1==5)
 (aSome k fun p_6=>gPtr (Addr.add p_6 6) w1 fun x_29=>aSome x_29 fun p_7=>gPtr (Addr.add p_7 3) w1 fun x_30=>gInt .i64 (Addr.add ⟨b,0,none⟩ 1) w1 fun x_31=>bnd (C Ef3 [.pointer x_30,.int .i64 e,.int .i64 x_31] w1) fun r_8 w6=>as2 r_8 fun r_9 r_10=>aInt .i64 r_9 fun x_32=>aInt .i64 r_10 fun x_33=>some (.tuple ⟨[.int .i64 x_33,.int .i64 x_32,.string (ByteArray.mk ⟨[]⟩)]⟩,w6))
 (cond (x_1==6)
 (aSome k fun p_8=>gPtr (Addr.add p_8 5) w1 fun x_34=>aSome k fun p_9=>gSl (Addr.add (Addr.add p_9 0) 1) w1 fun x_35 xn_2 _=>aSome x_35 fun p_10=>ck ((0:Int)≤e∧e<((xn_2:Nat):Int)) (gInt .i64 (Addr.add (B3 p_10) (Int.toNat e*1)) w1 fun x_36=>bnd (C Ej2 [.pointer x_34,.int .i64 x_36] w1) fun r_11 w7=>as2 r_11 fun r_12 r_13=>aInt .i64 r_12 fun x_37=>aInt .i64 r_13 fun x_38=>some (.tuple ⟨[.int .i64 x_38,.int .i64 x_37,.string (ByteArray.mk ⟨[]⟩)]⟩,w7)))
 (cond (x_1==7)
 (aSome k fun p_11=>gPtr (Addr.add p_11 5) w1 fun x_39=>aSome k fun p_12=>gSl (Addr.add (Addr.add p_12 0) 1) w1 fun x_40 xn_3 _=>aSome x_40 fun p_13=>ck ((0:Int)≤e∧e<((xn_3:Nat):Int)) (gInt .i64 (Addr.add (B3 p_13) (Int.toNat e*1)) w1 fun x_41=>gInt .i64 (Addr.add ⟨b,0,none⟩ 3) w1 fun x_42=>bnd (C Ew0 [.pointer x_39,.int .i64 x_41,.int .i64 x_42] w1) fun r_14 w8=>aInt .i64 r_14 fun x_43=>some (.tuple ⟨[.int .i64 x_43,.int .i64 0,.string (ByteArray.mk ⟨[]⟩)]⟩,w8)))
 (cond (x_1==8)
 (gInt .i64 (Addr.add ⟨b,0,none⟩ 3) w1 fun x_44=>bnd (C Ds3 [.pointer k,.int .i64 e,.int .i64 x_44] w1) fun r_15 w9=>aBool r_15 fun x_45=>cond x_45
 (aSome k fun p_14=>gSl (Addr.add p_14 7) w9 fun x_46 xn_4 _=>gInt .i64 (Addr.add ⟨b,0,none⟩ 3) w9 fun x_47=>aSome x_46 fun p_15=>ck ((0:Int)≤x_47∧x_47<((xn_4:Nat):Int)) (gPtr (Addr.add (B3 p_15) (Int.toNat x_47*1)) w9 fun x_48=>aSome k fun p_16=>gInt .i64 (Addr.add p_16 8) w9 fun x_49=>bnd (C Ev0 [.pointer x_48,.int .i64 e,.int .i64 x_49] w9) fun r_16 w10=>as2 r_16 fun r_17 r_18=>aInt .i64 r_17 fun x_50=>aBool r_18 fun _=>some (.tuple ⟨[.int .i64 0,.int .i64 x_50,.string (ByteArray.mk ⟨[]⟩)]⟩,w10)))
 (some (.tuple ⟨[.int .i64 8,.int .i64 0,.string (ByteArray.mk ⟨[]⟩)]⟩,w9)))
 (cond (x_1==9)
 (gInt .i64 (Addr.add ⟨b,0,none⟩ 3) w1 fun x_52=>bnd (C Ds3 [.pointer k,.int .i64 e,.int .i64 x_52] w1) fun r_19 w11=>aBool r_19 fun x_53=>bnd (cond x_53 (aSome k fun p_17=>gSl (Addr.add p_17 7) w11 fun x_54 xn_5 _=>gInt .i64 (Addr.add ⟨b,0,none⟩ 3) w11 fun x_55=>aSome x_54 fun p_18=>ck ((0:Int)≤x_55∧x_55<((xn_5:Nat):Int)) (gPtr (Addr.add (B3 p_18) (Int.toNat x_55*1)) w11 fun x_56=>gInt .i64 (Addr.add ⟨b,0,none⟩ 2) w11 fun x_57=>bnd (C Ev4 [.pointer x_56,.int .i64 e,.int .i64 x_57] w11) fun r_20 w12=>aBool r_20 fun x_58=>some (x_58,w12))) (some (false,w11))) fun c_2 w13=>cond c_2
 (some (.tuple ⟨[.int .i64 0,.int .i64 0,.string (ByteArray.mk ⟨[]⟩)]⟩,w13))
 (some (.tuple ⟨[.int .i64 8,.int .i64 0,.string (ByteArray.mk ⟨[]⟩)]⟩,w13)))
 (cond (x_1==10)
 (aSome k fun p_19=>gInt .i64 (Addr.add p_19 8) w1 fun x_59=>some (.tuple ⟨[.int .i64 0,.int .i64 x_59,.string (ByteArray.mk ⟨[]⟩)]⟩,w1))
 (some (.tuple ⟨[.int .i64 7,.int .i64 0,.string (ByteArray.mk ⟨[]⟩)]⟩,w1)))))))))))):=by kernel_rfl
def Dh4:Cuts:={ globs:=0,loops:=[(3,[0,3,4])],regs:=[],plans:=[] }
def Ea5:List Item:=A7 Tryz.f65
def Bp7:List Item:=stk [0,1,0,1,0,0,1,4,5] Ea5
theorem Ho0 (C:A4) (R:A5) (b:ByteArray) (h:H) :
 A8 PR Dh4 C R Ad9 Tryz.f65 100000 true Ea5 [(0,.string b)] h =
 R Ad9 Bp7 [(0,.string b),(3,.int .i64 ((ByteArray.size b:Nat):Int)),(4,.int .i64 0)] h:=by kernel_rfl
theorem Ed5 (C:A4) (R:A5) (b:ByteArray) (n:Int) (i:Int) (h:H) :
 A8 PR Dh4 C R Ad9 Tryz.f65 100000 true Bp7 [(0,.string b),(3,.int .i64 n),(4,.int .i64 i)] h =
 cond (decide (i<((ByteArray.size b:Nat):Int)))
 (ck ((0:Int)≤i∧i<((ByteArray.size b:Nat):Int)) (R Ad9 Bp7 [(0,.string b),(3,.int .i64 (IntKind.wrap .i64 (n+(IntKind.wrap .i64 (((List.getD (ByteArray.data b).toList (Int.toNat i) 0).toNat:Int)))))),(4,.int .i64 (IntKind.wrap .i64 (i+1)))] h))
 (some (.int .u8 (IntKind.wrap .u8 (n)),h)):=by kernel_rfl
def B56:Cuts:={ globs:=0,loops:=[],regs:=[],plans:=[(1,⟨[1,0,2,3,4,5,6],[0,0,3,7,7,31,63],[(0,[1])],[]⟩)] }
def D03:List Item:=A7 Tryz.f74
theorem Gf5 (C:A4) (R:A5) (f:List Value) (h:H) :
 A8 PR B56 C R A41 Tryz.f74 100000 true D03 [(0,.agg ⟨f⟩)] h =
 nw (.cells E1 false f) h fun b w=>gAgg ⟨b,0,none⟩ 4 w fun x=>bnd (C Ba3 [] w) fun r w1=>aPtr r fun x_1=>gAgg ⟨b,0,none⟩ 4 w1 fun x_2=>same (.agg ⟨x⟩) (.agg ⟨x_2⟩) (bnd (C U3 [.pointer x_1,.agg ⟨x⟩] w1) fun r_1 w2=>as2 r_1 fun r_2 r_3=>aSl r_2 fun x_3 xn xc=>aBool r_3 fun x_4=>some (.tuple ⟨[.slice x_3 xn xc,.bool x_4]⟩,w2)):=by kernel_rfl
def A70:Cuts:={ globs:=0,loops:=[],regs:=[],plans:=[] }
def Bx1:List Item:=A7 Tryz.f76
theorem D37 (C:A4) (R:A5) (g:Int) (h:H) :
 A8 PR A70 C R Am9 Tryz.f76 100000 true Bx1 [(0,.int .i64 g)] h =
 bnd (cond (decide (g<0)) (some (true,h)) (some (decide (g≥8),h))) fun c w=>cond c
 (some (.tuple ⟨[.slice none 0 0,.bool false]⟩,w))
 (nw (.cells A6 false [.int .u8 (IntKind.wrap .u8 (g)),.int .u8 211]) w fun b w1=>bnd (C Z7 [.slice (some ⟨b,0,none⟩) 2 2] w1) fun r w2=>aInt .u8 r fun x=>nw (.cells A6 false [.int .u8 x,.int .u8 0]) w2 fun b_1 w3=>gCells (some ⟨b_1,0,none⟩) (2*1) w3 fun cs=>ckB (fitsOpen (some ⟨b,0,none⟩) A6 w3) (apd A6 1 (some ⟨b,0,none⟩) 2 2 2 cs w3 fun a an ac w4=>some (.tuple ⟨[.slice a an ac,.bool true]⟩,w4))):=by kernel_rfl
def Dv5:Cuts:={ globs:=0,loops:=[],regs:=[],plans:=[] }
def Ey7:List Item:=A7 Tryz.f83
theorem Hb2 (C:A4) (R:A5) (ok:Bool) (n:Int) (h:H) :
 A8 PR Dv5 C R Ay0 Tryz.f83 100000 true Ey7 [(0,.bool ok),(1,.int .i64 n)] h =
 nw (.cells V0 false [.int .i64 0,.int .i64 0,.slice none 0 0,.bool false]) h fun b w=>cond (!ok)
 (bnd (C Ay3 [.int .i64 105] w) fun r w1=>aAgg r fun x=>ck (List.length x=4) (pAgg ⟨b,0,none⟩ x w1 fun w2=>gAgg ⟨b,0,none⟩ 4 w2 fun x_1=>some (.agg ⟨x_1⟩,w2)))
 (pAgg ⟨b,0,none⟩ [.int .i64 n,.int .i64 0,.slice none 0 0,.bool false] w fun w3=>gAgg ⟨b,0,none⟩ 4 w3 fun x_2=>some (.agg ⟨x_2⟩,w3)):=by kernel_rfl
def Q1:Cuts:={ globs:=0,loops:=[(1,[0,5]),(6,[0,12]),(11,[0,20,21])],regs:=[],plans:=[] }
def Z5:List Item:=A7 Tryz.f91
def Ab8:List Item:=stk [0,0,1,4,5] Z5
def Ab6:List Item:=stk [0,1,0,0,1,4,5] Z5
def Ab9:List Item:=stk [0,1,0,1,0,0,1,4,5] Z5
theorem Dy2 (C:A4) (R:A5) (c:Option Addr) (h:H) :
 A8 PR Q1 C R B8 Tryz.f91 100000 true Z5 [(0,.pointer c)] h =
 R B8 Ab8 [(0,.pointer c),(5,.int .i64 0)] h:=by kernel_rfl
theorem Bc7 (C:A4) (R:A5) (c:Option Addr) (x5:Int) (h:H) :
 A8 PR Q1 C R B8 Tryz.f91 100000 true Ab8 [(0,.pointer c),(5,.int .i64 x5)] h =
 cond (decide (x5<8))
 (bnd (C Q0 [.pointer c,.int .i64 x5] h) fun r w=>as2 r fun r_1 r_2=>aAgg r_1 fun _=>aInt .i64 r_2 fun _=>R B8 Ab8 [(0,.pointer c),(5,.int .i64 (IntKind.wrap .i64 (x5+1)))] w)
 (R B8 Ab6 [(0,.pointer c),(12,.int .i64 0)] h):=by kernel_rfl
theorem Bc4 (C:A4) (R:A5) (c:Option Addr) (x12:Int) (h:H) :
 A8 PR Q1 C R B8 Tryz.f91 100000 true Ab6 [(0,.pointer c),(12,.int .i64 x12)] h =
 cond (decide (x12<12))
 (bnd (C H9 [.pointer c,.int .i64 x12] h) fun r w=>as2 r fun r_1 r_2=>aAgg r_1 fun _=>aInt .i64 r_2 fun _=>R B8 Ab6 [(0,.pointer c),(12,.int .i64 (IntKind.wrap .i64 (x12+1)))] w)
 (bnd (C Z0 [.pointer c,.int .i64 3] h) fun r_3 w1=>aInt .i64 r_3 fun x_2=>R B8 Ab9 [(0,.pointer c),(20,.int .i64 x_2),(21,.int .i64 0)] w1):=by kernel_rfl
theorem Bc8 (C:A4) (R:A5) (c:Option Addr) (x20:Int) (x21:Int) (h:H) :
 A8 PR Q1 C R B8 Tryz.f91 100000 true Ab9 [(0,.pointer c),(20,.int .i64 x20),(21,.int .i64 x21)] h =
 cond (decide (x21<x20))
 (bnd (C Q2 [.pointer c,.int .i64 x21] h) fun r w=>as2 r fun r_1 r_2=>aAgg r_1 fun _=>aInt .i64 r_2 fun _=>R B8 Ab9 [(0,.pointer c),(20,.int .i64 x20),(21,.int .i64 (IntKind.wrap .i64 (x21+1)))] w)
 (bnd (C Ai4 [.pointer c] h) fun r_3 w1=>as2 r_3 fun r_4 r_5=>aAgg r_4 fun _=>aInt .i64 r_5 fun _=>bnd (C Ag5 [.pointer c] w1) fun r_6 w2=>as2 r_6 fun r_7 r_8=>aInt .i64 r_7 fun _=>aBool r_8 fun _=>some (.tuple ⟨[]⟩,w2)):=by kernel_rfl
def D93:Cuts:={ globs:=0,loops:=[],regs:=[],plans:=[] }
def Ga8:List Item:=A7 Tryz.f97
theorem Hm9 (C:A4) (R:A5) (e:Int) (h:H) :
 A8 PR D93 C R Ad2 Tryz.f97 100000 true Ga8 [(0,.int .i64 e)] h =
 nw (.cells V0 false [.int .i64 0,.int .i64 0,.slice none 0 0,.bool false]) h fun b w=>pAgg ⟨b,0,none⟩ [.int .i64 0,.int .i64 e,.slice none 0 0,.bool false] w fun w1=>gAgg ⟨b,0,none⟩ 4 w1 fun x=>some (.agg ⟨x⟩,w1):=by kernel_rfl
def Dm9:Cuts:={ globs:=0,loops:=[],regs:=[],plans:=[] }
def El6:List Item:=A7 Tryz.f101
theorem G05 (C:A4) (R:A5) (k:Int) (fv0:Addr) (h:H) :
 A8 PR Dm9 C R A19 Tryz.f101 100000 true El6 [(0,.int .i64 k),(1,.pointer (some fv0))] h =
 gPtr fv0 h fun x=>bnd (C Q2 [.pointer x,.int .i64 k] h) fun r w=>as2 r fun r_1 r_2=>aAgg r_1 fun x_1=>aInt .i64 r_2 fun x_2=>nw (.cells H1 false [.int .i64 0,.int .i64 0,.int .i64 0,.int .i64 0,.int .u8 0,.int .u8 0,.int .u8 0,.int .u8 0,.int .u8 0,.int .u8 0,.int .u8 0,.int .u8 0,.int .u8 0,.int .u8 0,.int .u8 0,.int .u8 0,.int .u8 0,.int .u8 0,.int .u8 0,.int .u8 0,.int .u8 0,.int .u8 0,.int .u8 0,.int .u8 0,.int .u8 0,.int .u8 0,.int .u8 0,.int .u8 0,.int .u8 0,.int .u8 0,.int .u8 0,.int .u8 0,.int .u8 0,.int .u8 0,.int .u8 0,.int .u8 0]) w fun b w1=>ck (List.length x_1=36) (pAgg ⟨b,0,none⟩ x_1 w1 fun w2=>some (.bool (x_2==0),w2)):=by kernel_rfl
def E11:Cuts:={ globs:=0,loops:=[],regs:=[],plans:=[(3,⟨[0,1,2,3,4],[0,0,0,5,15],[],[]⟩),(5,⟨[0,1,2,3],[0,0,3,7],[],[]⟩),(9,⟨[0,1,2,3,4,5,6,7,8],[0,0,3,7,15,0,31,127,255],[],[]⟩)] }
def Gt2:List Item:=A7 Tryz.f103
theorem H09 (C:A4) (R:A5) (c:Option Addr) (i:Int) (fd:Int) (h:H) :
 A8 PR E11 C R D51 Tryz.f103 100000 true Gt2 [(0,.pointer c),(1,.int .i64 i),(2,.int .i64 fd)] h =
 nw (.cells E1 false [.int .i64 0,.int .i64 0,.int .i64 0,.int .i64 0]) h fun b w=>bnd (C Ay8 [.pointer c,.int .i64 i] w) fun r w1=>as2 r fun r_1 r_2=>aAgg r_1 fun x=>aInt .i64 r_2 fun x_1=>nw (.cells D1 false [.int .i64 0,.int .i64 0,.int .i64 0,.int .i64 0,.int .i64 0,.int .i64 0,.int .i64 0,.int .i64 0,.int .i64 0,.int .i64 0,.int .i64 0,.int .i64 0,.int .i64 0,.int .i64 0,.int .i64 0,.int .i64 0]) w1 fun b_1 w2=>ck (List.length x=16) (pAgg ⟨b_1,0,none⟩ x w2 fun w3=>cond (x_1 != 0)
 (gAgg ⟨b,0,none⟩ 4 w3 fun x_2=>ck (List.length x_2=4) (pAgg ⟨b,0,none⟩ x_2 w3 fun w4=>gAgg ⟨b,0,none⟩ 4 w4 fun x_3=>some (.tuple ⟨[.int .i64 0,.agg ⟨x_3⟩,.int .i64 x_1]⟩,w4)))
 (gAgg ⟨b_1,0,none⟩ 16 w3 fun x_4=>bnd (C Bn3 [.agg ⟨x_4⟩,.int .i64 fd] w3) fun r_3 w5=>aBool r_3 fun x_5=>cond (!x_5)
 (gAgg ⟨b,0,none⟩ 4 w5 fun x_6=>ck (List.length x_6=4) (pAgg ⟨b,0,none⟩ x_6 w5 fun w6=>gAgg ⟨b,0,none⟩ 4 w6 fun x_7=>some (.tuple ⟨[.int .i64 0,.agg ⟨x_7⟩,.int .i64 109]⟩,w6)))
 (ck ((0:Int)≤fd∧fd<((8:Nat):Int)) (gInt .i64 (Addr.add (Addr.add ⟨b_1,0,none⟩ 8) (Int.toNat fd*1)) w5 fun x_8=>bnd (C H9 [.pointer c,.int .i64 (IntKind.wrap .i64 (x_8-1))] w5) fun r_4 w7=>as2 r_4 fun r_5 r_6=>aAgg r_5 fun x_9=>aInt .i64 r_6 fun x_10=>ck (List.length x_9=4) (pAgg ⟨b,0,none⟩ x_9 w7 fun w8=>cond (x_10 != 1)
 (pAgg ⟨b,0,none⟩ [.int .i64 0,.int .i64 0,.int .i64 0,.int .i64 0] w8 fun w9=>gAgg ⟨b,0,none⟩ 4 w9 fun x_11=>some (.tuple ⟨[.int .i64 0,.agg ⟨x_11⟩,.int .i64 105]⟩,w9))
 (ck ((0:Int)≤fd∧fd<((8:Nat):Int)) (gInt .i64 (Addr.add (Addr.add ⟨b_1,0,none⟩ 8) (Int.toNat fd*1)) w8 fun x_12=>gAgg ⟨b,0,none⟩ 4 w8 fun x_13=>ck (List.length x_13=4) (pAgg ⟨b,0,none⟩ x_13 w8 fun w10=>gAgg ⟨b,0,none⟩ 4 w10 fun x_14=>some (.tuple ⟨[.int .i64 (IntKind.wrap .i64 (x_12-1)),.agg ⟨x_14⟩,.int .i64 0]⟩,w10))))))))):=by kernel_rfl
def Du7:Cuts:={ globs:=0,loops:=[],regs:=[],plans:=[] }
def Ex4:List Item:=A7 Tryz.f106
theorem Hc4 (C:A4) (R:A5) (p:List Value) (fd:Int) (h:H) :
 A8 PR Du7 C R Bn3 Tryz.f106 100000 true Ex4 [(0,.agg ⟨p⟩),(1,.int .i64 fd)] h =
 nw (.cells D1 false p) h fun b w=>bnd (cond (decide (fd≥0)) (some (decide (fd<8),w)) (some (false,w))) fun c w1=>bnd (cond c (ck ((0:Int)≤fd∧fd<((8:Nat):Int)) (gInt .i64 (Addr.add (Addr.add ⟨b,0,none⟩ 8) (Int.toNat fd*1)) w1 fun x=>some (decide (x>0),w1))) (some (false,w1))) fun c_1 w2=>some (.bool c_1,w2):=by kernel_rfl
def Da7:Cuts:={ globs:=0,loops:=[],regs:=[],plans:=[] }
def Ed6:List Item:=A7 Tryz.f111
theorem Gq8 (C:A4) (R:A5) (n:Int) (h:H) :
 A8 PR Da7 C R A97 Tryz.f111 100000 true Ed6 [(0,.int .i64 n)] h =
 some (.int .i64 (mm2 false (mm2 true n 0) 64),h):=by kernel_rfl
def Ar8:Cuts:={ globs:=0,loops:=[],regs:=[],plans:=[] }
def Bg8:List Item:=A7 Tryz.f112
theorem Dk7 (C:A4) (R:A5) (s:Option Addr) (sn sc:Nat) (h:H) :
 A8 PR Ar8 C R U8 Tryz.f112 100000 true Bg8 [(0,.slice s sn sc)] h =
 cond s.isNone
 (some (.slice none 0 0,h))
 (nw (.cells B5 false []) h fun b w=>gCells s (sn*1) w fun cs=>ckB (fitsOpen (some ⟨b,0,none⟩) B5 w) (apd B5 1 (some ⟨b,0,none⟩) 0 0 sn cs w fun a an ac w1=>some (.slice a an ac,w1))):=by kernel_rfl
def Df8:Cuts:={ globs:=0,loops:=[(3,[3,8,9])],regs:=[],plans:=[(4,⟨[0,1,2,3,4,5,6,7,8,9,10],[0,0,2,6,14,0,32,126,255,511,1023],[(5,[4])],[]⟩)] }
def D74:List Item:=A7 Tryz.f114
def Bp1:List Item:=stk [0,1,0,1,0,0,1,4,5] D74
theorem Hn9 (C:A4) (R:A5) (envs:Int) (h:H) :
 A8 PR Df8 C R Aw9 Tryz.f114 100000 true D74 [(0,.int .i64 envs)] h =
 nw (.cells Ar1 false [.slice none 0 0]) h fun b w=>R Aw9 Bp1 [(3,.pointer (some ⟨b,0,none⟩)),(8,.int .i64 (mm2 false (mm2 true envs 0) 40)),(9,.int .i64 0)] w:=by kernel_rfl
theorem Eb8 (C:A4) (R:A5) (s:Addr) (x8:Int) (x9:Int) (h:H) :
 A8 PR Df8 C R Aw9 Tryz.f114 100000 true Bp1 [(3,.pointer (some s)),(8,.int .i64 x8),(9,.int .i64 x9)] h =
 cond (decide (x9<x8))
 (gSl (Addr.add s 0) h fun x xn xc=>bnd (C N9 [.int .i64 32] h) fun r w=>aPtr r fun x_1=>gSl (Addr.add s 0) w fun x_2 xn_1 xc_1=>same (.slice x xn xc) (.slice x_2 xn_1 xc_1) (nw (.cells G1 false [.pointer x_1]) w fun b w1=>gCells (some ⟨b,0,none⟩) (1*1) w1 fun cs=>ckB (fitsOpen x G1 w1) (apd G1 1 x xn xc 1 cs w1 fun a an ac w2=>pV (Addr.add s 0) (.slice a an ac) w2 fun w3=>R Aw9 Bp1 [(3,.pointer (some s)),(8,.int .i64 x8),(9,.int .i64 (IntKind.wrap .i64 (x9+1)))] w3)))
 (some (.pointer (some s),h)):=by kernel_rfl
def Bt0:Cuts:={ globs:=0,loops:=[],regs:=[],plans:=[] }
def Dl2:List Item:=A7 Tryz.f121
theorem E44 (C:A4) (R:A5) (s:Option Addr) (env:Int) (c:List Value) (h:H) :
 A8 PR Bt0 C R A78 Tryz.f121 100000 true Dl2 [(0,.pointer s),(1,.int .i64 env),(2,.agg ⟨c⟩)] h =
 nw (.cells O2 false c) h fun b w=>bnd (C Ae5 [.pointer s,.int .i64 env] w) fun r w1=>aBool r fun x=>bnd (cond (!x) (some (true,w1)) (gInt .i64 (Addr.add ⟨b,0,none⟩ 1) w1 fun x_1=>some ((Em2 .i64 x_1 7) != 0,w1))) fun c_1 w2=>bnd (cond c_1 (some (true,w2)) (gInt .i64 (Addr.add ⟨b,0,none⟩ 2) w2 fun x_2=>bnd (C Aj1 [.int .i64 x_2] w2) fun r_1 w3=>aBool r_1 fun x_3=>some (!x_3,w3))) fun c_2 w4=>bnd (cond c_2 (some (true,w4)) (gInt .i64 (Addr.add ⟨b,0,none⟩ 3) w4 fun x_4=>bnd (C Aj1 [.int .i64 x_4] w4) fun r_2 w5=>aBool r_2 fun x_5=>some (!x_5,w5))) fun c_3 w6=>cond c_3
 (some (.tuple ⟨[.int .i64 0,.int .i64 1]⟩,w6))
 (pAgg (Addr.add ⟨b,0,none⟩ 4) [.int .i64 0,.int .i64 0] w6 fun w7=>gAgg ⟨b,0,none⟩ 6 w7 fun x_6=>bnd (C Ar6 [.pointer s,.int .i64 env,.agg ⟨x_6⟩] w7) fun r_3 w8=>as2 r_3 fun r_4 r_5=>aInt .i64 r_4 fun x_7=>aInt .i64 r_5 fun x_8=>some (.tuple ⟨[.int .i64 x_7,.int .i64 x_8]⟩,w8)):=by kernel_rfl
def A71:Cuts:={ globs:=0,loops:=[],regs:=[],plans:=[] }
def Bx7:List Item:=A7 Tryz.f131
theorem D91 (C:A4) (R:A5) (r:Option Addr) (e:Int) (name:Int) (atv:Int) (b:ByteArray) (h:H) :
 A8 PR A71 C R Am5 Tryz.f131 100000 true Bx7 [(0,.pointer r),(1,.int .i64 e),(2,.int .i64 name),(3,.int .i64 atv),(4,.string b)] h =
 bnd (C Ap3 [.pointer r,.int .i64 e,.int .i64 name,.int .i64 2,.int .i64 atv,.int .i64 ((ByteArray.size b:Nat):Int)] h) fun r_1 w=>as2 r_1 fun r_2 r_3=>aInt .i64 r_2 fun x=>aInt .i64 r_3 fun x_1=>cond (x_1 != 0)
 (some (.int .i64 x_1,w))
 (aSome r fun p=>gSl (Addr.add p 0) w fun x_2 xn xc=>ckB (fitsOpen x_2 A6 w) (ck ((0:Int)≤x∧x≤((xn:Nat):Int)) (pCells (H5 x_2 (decide (Int.toNat x<xc)) ((Int.toNat x)*1)) (A0 (List.take (min (ByteArray.size b) (xn-(Int.toNat x))) (ByteArray.data b).toList)) w fun w1=>some (.int .i64 0,w1)))):=by kernel_rfl
def Bu9:Cuts:={ globs:=0,loops:=[],regs:=[],plans:=[] }
def Dt7:List Item:=A7 Tryz.f141
theorem E63 (C:A4) (R:A5) (s:Option Addr) (env:Int) (h:H) :
 A8 PR Bu9 C R Ae5 Tryz.f141 100000 true Dt7 [(0,.pointer s),(1,.int .i64 env)] h =
 bnd (cond (decide (env≥0)) (aSome s fun p=>gSl (Addr.add p 0) h fun _ xn _=>some (decide (env<((xn:Nat):Int)),h)) (some (false,h))) fun c w=>some (.bool c,w):=by kernel_rfl
def Az2:Cuts:={ globs:=0,loops:=[],regs:=[],plans:=[(2,⟨[0,1,2,3,4,5,6,7,8,9,10],[0,1,3,7,15,31,63,7,255,511,1023],[],[]⟩),(4,⟨[0,1,2,3,4,5,6,7,8,9,10,11,12,13,14,16,15,17],[0,1,3,7,0,16,48,112,0,256,0,1024,0,4096,16128,32767,0,131071],[],[]⟩),(6,⟨[0,1,2,3,4,5,6,7,8,9],[0,1,3,7,0,31,63,31,159,511],[(7,[5])],[]⟩)] }
def Bn5:List Item:=A7 Tryz.f146
theorem Dy3 (C:A4) (R:A5) (c:Option Addr) (r:List Value) (h:H) :
 A8 PR Az2 C R N4 Tryz.f146 100000 true Bn5 [(0,.pointer c),(1,.agg ⟨r⟩)] h =
 nw (.cells D6 false r) h fun b w=>gAgg ⟨b,0,none⟩ 2 w fun x=>bnd (C P3 [.pointer c,.agg ⟨x⟩] w) fun r_1 w1=>as2 r_1 fun r_2 r_3=>aAgg r_2 fun x_1=>aBool r_3 fun x_2=>nw (.cells Bd5 false [.int .i64 0,.int .i64 0,.int .i64 0]) w1 fun b_1 w2=>ck (List.length x_1=3) (pAgg ⟨b_1,0,none⟩ x_1 w2 fun w3=>bnd (cond (!x_2) (some (true,w3)) (aSome c fun p=>gMap (Addr.add p 3) w3 fun x_3=>gAgg ⟨b,0,none⟩ 2 w3 fun x_4=>keyN PR D6 (.agg ⟨x_4⟩) (opt x_3 fun r_4=>mapAt w3 r_4 fun es _=>opt (Ak0 (.int .i64 0) (.agg ⟨x_4⟩) es) fun f=>aInt .i64 f.1 fun x_5=>some (decide (x_5>0),w3)))) fun c_1 w4=>cond c_1
 (some (.tuple ⟨[.slice none 0 0,.bool false]⟩,w4))
 (aSome c fun p_1=>gPtr (Addr.add p_1 0) w4 fun x_6=>aSome c fun p_2=>gInt .i64 (Addr.add p_2 1) w4 fun x_7=>gInt .i64 (Addr.add ⟨b_1,0,none⟩ 0) w4 fun x_8=>gInt .i64 (Addr.add ⟨b_1,0,none⟩ 1) w4 fun x_9=>gInt .i64 (Addr.add ⟨b_1,0,none⟩ 2) w4 fun x_10=>nw (.cells Ek6 false [.int .i64 0,.int .i64 0,.slice none 0 0]) w4 fun b_2 w5=>bnd (C Q3 [.pointer x_6,.int .i64 x_7,.agg ⟨[.int .i64 1,.int .i64 x_8,.int .i64 x_9,.int .i64 x_10,.int .i64 0,.int .i64 0,.slice none 0 0]⟩] w5) fun r_5 w6=>aAgg r_5 fun x_11=>ck (List.length x_11=3) (pAgg ⟨b_2,0,none⟩ x_11 w6 fun w7=>gInt .i64 (Addr.add ⟨b_2,0,none⟩ 0) w7 fun x_12=>cond (x_12 != 0)
 (aSome c fun p_3=>gMap (Addr.add p_3 3) w7 fun x_13=>gAgg ⟨b,0,none⟩ 2 w7 fun x_14=>keyN PR D6 (.agg ⟨x_14⟩) (opt x_13 fun r_6=>mapAt w7 r_6 fun es_1 _=>opt (Ak0 (.int .i64 0) (.agg ⟨x_14⟩) es_1) fun f_1=>aInt .i64 f_1.1 fun x_15=>keyN PR D6 (.agg ⟨x_14⟩) (opt x_13 fun r_7=>mapAt w7 r_7 fun es_2 cl_2=>opt (Du6 (.int .i64 0) (.agg ⟨x_14⟩) es_2 cl_2) fun f_2=>aInt .i64 f_2.1 fun _=>lt (H.set w7 r_7 f_2.2.2) fun w8=>keyN PR D6 (.agg ⟨x_14⟩) (opt x_13 fun r_8=>mapAt w8 r_8 fun es_3 _=>opt (Ak0 (.int .i64 0) (.agg ⟨x_14⟩) es_3) fun f_3=>aInt .i64 f_3.1 fun x_17=>same (.int .i64 x_15) (.int .i64 x_17) (opt x_13 fun r_9=>mapAt w8 r_9 fun es_4 cl_4=>opt (Bj0 (f_2.2.1:Int) es_4 0) fun i=>lt (H.set w8 r_9 (.map (modN (fun e=>{ e with val:=.int .i64 (IntKind.wrap .i64 (x_15+1)) }) i es_4) cl_4)) fun w9=>some (.tuple ⟨[.slice none 0 0,.bool false]⟩,w9))))))
 (gSl (Addr.add ⟨b_2,0,none⟩ 2) w7 fun x_18 xn xc=>some (.tuple ⟨[.slice x_18 xn xc,.bool true]⟩,w7))))):=by kernel_rfl
def Bh2:Cuts:={ globs:=0,loops:=[],regs:=[],plans:=[] }
def B90:List Item:=A7 Tryz.f155
theorem Ep6 (C:A4) (R:A5) (q:Option Addr) (s:Int) (k:Int) (h:H) :
 A8 PR Bh2 C R Av4 Tryz.f155 100000 true B90 [(0,.pointer q),(1,.int .i64 s),(2,.int .i64 k)] h =
 bnd (C Ah0 [.pointer q,.int .i64 s] h) fun r w=>aBool r fun x=>cond (!x)
 (some (.int .i64 1,w))
 (bnd (C Aw8 [.pointer q,.int .i64 s,.int .i64 k] w) fun r_1 w1=>aBool r_1 fun x_1=>cond (!x_1)
 (some (.int .i64 5,w1))
 (aSome q fun p=>gSl (Addr.add p 0) w1 fun x_2 xn _=>aSome x_2 fun p_1=>ck ((0:Int)≤s∧s<((xn:Nat):Int)) (gSl (Addr.add (B3 p_1) (Int.toNat s*1)) w1 fun x_3 xn_1 _=>aSome x_3 fun p_2=>ck ((0:Int)≤k∧k<((xn_1:Nat):Int)) (pV (Addr.add (B3 p_2) (Int.toNat k*1)) (.int .i64 0) w1 fun w2=>some (.int .i64 0,w2))))):=by kernel_rfl
def Ag0:Cuts:={ globs:=0,loops:=[],regs:=[],plans:=[(2,⟨[0,1,2,3,4,5,6,7,8,9,10,11,12,13,14],[0,1,3,7,15,31,63,127,255,511,63,63,4095,8191,16383],[],[]⟩)] }
def A00:List Item:=A7 Tryz.f162
theorem B10 (C:A4) (R:A5) (c:Option Addr) (v:List Value) (h:H) :
 A8 PR Ag0 C R U3 Tryz.f162 100000 true A00 [(0,.pointer c),(1,.agg ⟨v⟩)] h =
 nw (.cells E1 false v) h fun b w=>aSome c fun p=>gInt .i64 (Addr.add p 0) w fun x=>ck ((0:Int)≤x∧(x:Int)≤x∧x≤(B1:Int)) (nw (.cells A6 false (G8 (Int.toNat x) [.int .u8 0])) w fun b_1 w1=>aSome c fun p_1=>gFv (Addr.add p_1 1) w1 fun x_1=>isNilF x_1 fun b_2=>bnd (cond b_2 (some (true,w1)) (aSome c fun p_2=>gFv (Addr.add p_2 1) w1 fun x_2=>gAgg ⟨b,0,none⟩ 4 w1 fun x_3=>aFn x_2 fun g fi cp=>bnd (C g (fi++([.agg ⟨x_3⟩,.slice (some ⟨b_1,0,none⟩) (Int.toNat x) (Int.toNat x)]++cp)) w1) fun r w2=>aBool r fun x_4=>some (!x_4,w2))) fun c_1 w3=>cond c_1
 (some (.tuple ⟨[.slice none 0 0,.bool false]⟩,w3))
 (some (.tuple ⟨[.slice (some ⟨b_1,0,none⟩) (Int.toNat x) (Int.toNat x),.bool true]⟩,w3))):=by kernel_rfl
def Dd0:Cuts:={ globs:=0,loops:=[],regs:=[],plans:=[] }
def Ed1:List Item:=A7 Tryz.f171
theorem Gq6 (C:A4) (R:A5) (i:Int) (fv0:Addr) (h:H) :
 A8 PR Dd0 C R Ba7 Tryz.f171 100000 true Ed1 [(0,.int .i64 i),(1,.pointer (some fv0))] h =
 ck ((0:Int)≤i∧i<((8:Nat):Int)) (gInt .i64 (Addr.add (Addr.add fv0 8) (Int.toNat i*1)) h fun x=>some (.bool (x==0),h)):=by kernel_rfl
def B24:Cuts:={ globs:=0,loops:=[],regs:=[],plans:=[] }
def D32:List Item:=A7 Tryz.f178
theorem Gh4 (C:A4) (R:A5) (m:Option Addr) (h:H) :
 A8 PR B24 C R A36 Tryz.f178 100000 true D32 [(0,.pointer m)] h =
 aSome m fun p=>gSl (Addr.add p 0) h fun _ xn _=>some (.int .i64 ((xn:Nat):Int),h):=by kernel_rfl
def Bf4:Cuts:={ globs:=0,loops:=[],regs:=[],plans:=[] }
def B82:List Item:=A7 Tryz.f180
theorem Eq2 (C:A4) (R:A5) (n:Int) (h:H) :
 A8 PR Bf4 C R Aj1 Tryz.f180 100000 true B82 [(0,.int .i64 n)] h =
 bnd (cond (decide (n≥0)) (some (decide (n≤65536),h)) (some (false,h))) fun c w=>some (.bool c,w):=by kernel_rfl
def Br6:Cuts:={ globs:=0,loops:=[],regs:=[],plans:=[] }
def Dl8:List Item:=A7 Tryz.f187
theorem E54 (C:A4) (R:A5) (s:Option Addr) (e:Int) (name:Int) (h:H) :
 A8 PR Br6 C R A77 Tryz.f187 100000 true Dl8 [(0,.pointer s),(1,.int .i64 e),(2,.int .i64 name)] h =
 nw (.cells O2 false [.int .i64 0,.int .i64 0,.int .i64 0,.int .i64 0,.int .i64 0,.int .i64 0]) h fun b w=>bnd (C Ah5 [.pointer s,.int .i64 e] w) fun r w1=>aBool r fun x=>bnd (cond (!x) (some (true,w1)) (aSome s fun p=>gSl (Addr.add p 0) w1 fun x_1 xn _=>aSome x_1 fun p_1=>ck ((0:Int)≤e∧e<((xn:Nat):Int)) (gPtr (Addr.add (B3 p_1) (Int.toNat e*1)) w1 fun x_2=>bnd (C A83 [.pointer x_2,.int .i64 name] w1) fun r_1 w2=>aBool r_1 fun x_3=>some (!x_3,w2)))) fun c w3=>cond c
 (pAgg ⟨b,0,none⟩ [.int .i64 0,.int .i64 0,.int .i64 0,.int .i64 0,.int .i64 0,.int .i64 0] w3 fun w4=>gAgg ⟨b,0,none⟩ 6 w4 fun x_4=>some (.tuple ⟨[.agg ⟨x_4⟩,.int .i64 2]⟩,w4))
 (aSome s fun p_2=>gSl (Addr.add p_2 1) w3 fun x_5 xn_1 _=>aSome x_5 fun p_3=>ck ((0:Int)≤e∧e<((xn_1:Nat):Int)) (gSl (Addr.add (B3 p_3) (Int.toNat e*1)) w3 fun x_6 xn_2 _=>aSome x_6 fun p_4=>ck ((0:Int)≤O5 .i64 name 255∧O5 .i64 name 255<((xn_2:Nat):Int)) (gAgg (Addr.add (B3 p_4) (Int.toNat (O5 .i64 name 255)*6)) 6 w3 fun x_7=>ck (List.length x_7=6) (pAgg ⟨b,0,none⟩ x_7 w3 fun w5=>gAgg ⟨b,0,none⟩ 6 w5 fun x_8=>some (.tuple ⟨[.agg ⟨x_8⟩,.int .i64 0]⟩,w5))))):=by kernel_rfl
def A72:Cuts:={ globs:=0,loops:=[(3,[0,3,4])],regs:=[],plans:=[] }
def Bt3:List Item:=A7 Tryz.f194
def Ag7:List Item:=stk [0,1,0,1,0,0,1,4,5] Bt3
theorem E21 (C:A4) (R:A5) (n:Option Addr) (h:H) :
 A8 PR A72 C R P4 Tryz.f194 100000 true Bt3 [(0,.pointer n)] h =
 R P4 Ag7 [(0,.pointer n),(3,.slice none 0 0),(4,.int .i64 0)] h:=by kernel_rfl
theorem B21 (C:A4) (R:A5) (n:Option Addr) (out:Option Addr) (outn outc:Nat) (i:Int) (h:H) :
 A8 PR A72 C R P4 Tryz.f194 100000 true Ag7 [(0,.pointer n),(3,.slice out outn outc),(4,.int .i64 i)] h =
 aSome n fun p=>gSl (Addr.add p 0) h fun _ xn _=>cond (decide (i<((xn:Nat):Int)))
 (aSome n fun p_1=>gSl (Addr.add p_1 0) h fun x_1 xn_1 _=>aSome x_1 fun p_2=>ck ((0:Int)≤i∧i<((xn_1:Nat):Int)) (gBool (Addr.add (Addr.add (B3 p_2) (Int.toNat i*2)) 1) h fun x_2=>cond x_2
 (aSome n fun p_3=>gSl (Addr.add p_3 0) h fun x_3 xn_2 _=>aSome x_3 fun p_4=>ck ((0:Int)≤i∧i<((xn_2:Nat):Int)) (gInt .i64 (Addr.add (Addr.add (B3 p_4) (Int.toNat i*2)) 0) h fun x_4=>nw (.cells B5 false [.int .i64 (IntKind.wrap .i64 (i+(IntKind.wrap .i64 (256*x_4))))]) h fun b w=>gCells (some ⟨b,0,none⟩) (1*1) w fun cs=>ckB (fitsOpen out B5 w) (apd B5 1 out outn outc 1 cs w fun a an ac w1=>R P4 Ag7 [(0,.pointer n),(3,.slice a an ac),(4,.int .i64 (IntKind.wrap .i64 (i+1)))] w1)))
 (R P4 Ag7 [(0,.pointer n),(3,.slice out outn outc),(4,.int .i64 (IntKind.wrap .i64 (i+1)))] h)))
 (some (.slice out outn outc,h)):=by kernel_rfl
def A74:Cuts:={ globs:=0,loops:=[],regs:=[],plans:=[] }
def Bx6:List Item:=A7 Tryz.f196
theorem D87 (C:A4) (R:A5) (size:Int) (put:Value) (get:Value) (h:H) :
 A8 PR A74 C R Ao8 Tryz.f196 100000 true Bx6 [(0,.int .i64 size),(1,put),(2,get)] h =
 one put (one get (nw (.cells Bn1 false [.int .i64 (mm2 false (mm2 true size 0) 64),put,get]) h fun b w=>some (.pointer (some ⟨b,0,none⟩),w))):=by kernel_rfl
def D90:Cuts:={ globs:=0,loops:=[],regs:=[],plans:=[(1,⟨[0,1,2,3,4,5,6,7,8,9,10,11,12,13,14,15,16,17,18],[0,1,3,7,0,16,48,112,0,256,768,1792,0,4096,12288,28672,65535,0,262143],[],[]⟩),(2,⟨[0,1,2,3,4],[0,1,0,4,15],[],[]⟩),(4,⟨[0,1,2,3,4,5,6,7,8],[0,0,2,6,6,30,62,63,255],[(5,[0])],[]⟩)] }
def E87:List Item:=A7 Tryz.f198
theorem Hi4 (C:A4) (R:A5) (b:Option Addr) (bn bc:Nat) (h:H) :
 A8 PR D90 C R Bi8 Tryz.f198 100000 true E87 [(0,.slice b bn bc)] h =
 nw (.cells H1 false [.int .i64 0,.int .i64 0,.int .i64 0,.int .i64 0,.int .u8 0,.int .u8 0,.int .u8 0,.int .u8 0,.int .u8 0,.int .u8 0,.int .u8 0,.int .u8 0,.int .u8 0,.int .u8 0,.int .u8 0,.int .u8 0,.int .u8 0,.int .u8 0,.int .u8 0,.int .u8 0,.int .u8 0,.int .u8 0,.int .u8 0,.int .u8 0,.int .u8 0,.int .u8 0,.int .u8 0,.int .u8 0,.int .u8 0,.int .u8 0,.int .u8 0,.int .u8 0,.int .u8 0,.int .u8 0,.int .u8 0,.int .u8 0]) h fun b_1 w=>aSome b fun p=>ck ((0:Int)≤1∧1<((bn:Nat):Int)) (gInt .u8 (Addr.add (B3 p) (Int.toNat 1*1)) w fun x=>aSome b fun p_1=>ck ((0:Int)≤2∧2<((bn:Nat):Int)) (gInt .u8 (Addr.add (B3 p_1) (Int.toNat 2*1)) w fun x_1=>aSome b fun p_2=>ck ((0:Int)≤3∧3<((bn:Nat):Int)) (gInt .u8 (Addr.add (B3 p_2) (Int.toNat 3*1)) w fun x_2=>aSome b fun p_3=>ck ((0:Int)≤4∧4<((bn:Nat):Int)) (gInt .u8 (Addr.add (B3 p_3) (Int.toNat 4*1)) w fun x_3=>nw (.cells H1 false [.int .i64 0,.int .i64 0,.int .i64 0,.int .i64 0,.int .u8 0,.int .u8 0,.int .u8 0,.int .u8 0,.int .u8 0,.int .u8 0,.int .u8 0,.int .u8 0,.int .u8 0,.int .u8 0,.int .u8 0,.int .u8 0,.int .u8 0,.int .u8 0,.int .u8 0,.int .u8 0,.int .u8 0,.int .u8 0,.int .u8 0,.int .u8 0,.int .u8 0,.int .u8 0,.int .u8 0,.int .u8 0,.int .u8 0,.int .u8 0,.int .u8 0,.int .u8 0,.int .u8 0,.int .u8 0,.int .u8 0,.int .u8 0]) w fun b_2 w1=>pAgg ⟨b_2,0,none⟩ [.int .i64 (IntKind.wrap .i64 (x)),.int .i64 (IntKind.wrap .i64 (x_1)),.int .i64 (IntKind.wrap .i64 (x_2)),.int .i64 (IntKind.wrap .i64 (x_3)),.int .u8 0,.int .u8 0,.int .u8 0,.int .u8 0,.int .u8 0,.int .u8 0,.int .u8 0,.int .u8 0,.int .u8 0,.int .u8 0,.int .u8 0,.int .u8 0,.int .u8 0,.int .u8 0,.int .u8 0,.int .u8 0,.int .u8 0,.int .u8 0,.int .u8 0,.int .u8 0,.int .u8 0,.int .u8 0,.int .u8 0,.int .u8 0,.int .u8 0,.int .u8 0,.int .u8 0,.int .u8 0,.int .u8 0,.int .u8 0,.int .u8 0,.int .u8 0] w1 fun w2=>ckB (liveA (Addr.add ⟨b_2,0,none⟩ 4) w2) (ckB (fitsOpen b A6 w2) (ck ((0:Int)≤8∧8≤((bn:Nat):Int)) (gCells (H5 b (decide (Int.toNat 8<bc)) ((Int.toNat 8)*1)) (min (bn-(Int.toNat 8)) (32-0)*1) w2 fun cs=>pCells (H5 (some (Addr.add ⟨b_2,0,none⟩ 4)) (decide (0<32)) (0*1)) cs w2 fun w3=>gAgg ⟨b_2,0,none⟩ 36 w3 fun x_4=>bnd (C Ba6 [.agg ⟨x_4⟩] w3) fun r w4=>as2 r fun r_1 r_2=>aSl r_1 fun x_5 xn xc=>aBool r_2 fun x_6=>gAgg ⟨b_2,0,none⟩ 36 w4 fun x_7=>bnd (cond x_6 (bnd (C D0 [.slice x_5 xn xc,.slice b bn bc] w4) fun r_3 w5=>aBool r_3 fun x_8=>gAgg ⟨b_2,0,none⟩ 36 w5 fun x_9=>same (.agg ⟨x_7⟩) (.agg ⟨x_9⟩) (some (x_8,w5))) (some (false,w4))) fun c w6=>ck (List.length x_7=36) (pAgg ⟨b_1,0,none⟩ x_7 w6 fun w7=>gAgg ⟨b_1,0,none⟩ 36 w7 fun x_10=>some (.tuple ⟨[.agg ⟨x_10⟩,.bool c]⟩,w7))))))))):=by kernel_rfl
def Bz4:Cuts:={ globs:=0,loops:=[],regs:=[],plans:=[] }
def Dq6:List Item:=A7 Tryz.f200
theorem Ga3 (C:A4) (R:A5) (c:Int) (h:H) :
 A8 PR Bz4 C R Ac7 Tryz.f200 100000 true Dq6 [(0,.int .u8 c)] h =
 some (.bool (c != 0),h):=by kernel_rfl
def Bq6:Cuts:={ globs:=0,loops:=[],regs:=[],plans:=[] }
def Do3:List Item:=A7 Tryz.f203
theorem E51 (C:A4) (R:A5) (s:Option Addr) (env:Int) (name:Int) (h:H) :
 A8 PR Bq6 C R As2 Tryz.f203 100000 true Do3 [(0,.pointer s),(1,.int .i64 env),(2,.int .i64 name)] h =
 nw (.cells O2 false [.int .i64 0,.int .i64 0,.int .i64 0,.int .i64 0,.int .i64 0,.int .i64 0]) h fun b w=>bnd (C Ae5 [.pointer s,.int .i64 env] w) fun r w1=>aBool r fun x=>cond (!x)
 (pAgg ⟨b,0,none⟩ [.int .i64 0,.int .i64 0,.int .i64 0,.int .i64 0,.int .i64 0,.int .i64 0] w1 fun w2=>gAgg ⟨b,0,none⟩ 6 w2 fun x_1=>some (.tuple ⟨[.agg ⟨x_1⟩,.int .i64 2]⟩,w2))
 (aSome s fun p=>gSl (Addr.add p 0) w1 fun x_2 xn _=>aSome x_2 fun p_1=>ck ((0:Int)≤env∧env<((xn:Nat):Int)) (gPtr (Addr.add (B3 p_1) (Int.toNat env*1)) w1 fun x_3=>bnd (C Ab7 [.pointer x_3,.int .i64 name] w1) fun r_1 w3=>as2 r_1 fun r_2 r_3=>aAgg r_2 fun x_4=>aBool r_3 fun x_5=>nw (.cells O2 false [.int .i64 0,.int .i64 0,.int .i64 0,.int .i64 0,.int .i64 0,.int .i64 0]) w3 fun b_1 w4=>ck (List.length x_4=6) (pAgg ⟨b_1,0,none⟩ x_4 w4 fun w5=>cond (!x_5)
 (pAgg ⟨b,0,none⟩ [.int .i64 0,.int .i64 0,.int .i64 0,.int .i64 0,.int .i64 0,.int .i64 0] w5 fun w6=>gAgg ⟨b,0,none⟩ 6 w6 fun x_6=>some (.tuple ⟨[.agg ⟨x_6⟩,.int .i64 2]⟩,w6))
 (gAgg ⟨b_1,0,none⟩ 6 w5 fun x_7=>ck (List.length x_7=6) (pAgg ⟨b,0,none⟩ x_7 w5 fun w7=>gAgg ⟨b,0,none⟩ 6 w7 fun x_8=>some (.tuple ⟨[.agg ⟨x_8⟩,.int .i64 0]⟩,w7)))))):=by kernel_rfl
def A82:Cuts:={ globs:=0,loops:=[],regs:=[],plans:=[] }
def Bw6:List Item:=A7 Tryz.f214
theorem D46 (C:A4) (R:A5) (size:Int) (put:Value) (get:Value) (h:H) :
 A8 PR A82 C R Am7 Tryz.f214 100000 true Bw6 [(0,.int .i64 size),(1,put),(2,get)] h =
 one put (one get (nw (.cells Ai5 false [.int .i64 (mm2 false (mm2 true size 0) 64),put,get]) h fun b w=>some (.pointer (some ⟨b,0,none⟩),w))):=by kernel_rfl
def Dy0:Cuts:={ globs:=0,loops:=[],regs:=[],plans:=[] }
def Ez7:List Item:=A7 Tryz.f215
theorem Hb6 (C:A4) (R:A5) (f:List Value) (b:Option Addr) (bn bc:Nat) (h:H) :
 A8 PR Dy0 C R Aq1 Tryz.f215 100000 true Ez7 [(0,.agg ⟨f⟩),(1,.slice b bn bc)] h =
 nw (.cells E1 false f) h fun b_1 w=>gAgg ⟨b_1,0,none⟩ 4 w fun x=>bnd (C De9 [.agg ⟨x⟩] w) fun r w1=>aBool r fun x_1=>cond (!x_1)
 (some (.bool false,w1))
 (gInt .i64 (Addr.add ⟨b_1,0,none⟩ 0) w1 fun x_2=>gInt .i64 (Addr.add ⟨b_1,0,none⟩ 1) w1 fun x_3=>gInt .i64 (Addr.add ⟨b_1,0,none⟩ 2) w1 fun x_4=>gInt .i64 (Addr.add ⟨b_1,0,none⟩ 3) w1 fun x_5=>nw (.cells A6 false [.int .u8 (IntKind.wrap .u8 (x_2)),.int .u8 (IntKind.wrap .u8 (x_3)),.int .u8 (IntKind.wrap .u8 (x_4)),.int .u8 (IntKind.wrap .u8 (x_5)),.int .u8 179]) w1 fun b_2 w2=>gCells (some ⟨b_2,0,none⟩) (min 5 bn*1) w2 fun cs=>pCells b cs w2 fun w3=>ckB (fitsOpen b A6 w3) (ck ((0:Int)≤5∧5≤((bc:Nat):Int)) (bnd (C Z7 [.slice (H5 b (decide (0<bc)) (0*1)) ((Int.toNat 5)-0) (bc-0)] w3) fun r_1 w4=>aInt .u8 r_1 fun x_6=>aSome b fun p=>ck ((0:Int)≤5∧5<((bn:Nat):Int)) (pV (Addr.add (B3 p) (Int.toNat 5*1)) (.int .u8 x_6) w4 fun w5=>some (.bool true,w5))))):=by kernel_rfl
def V8:Cuts:={ globs:=0,loops:=[(2,[0,1,7,8])],regs:=[],plans:=[] }
def Ah4:List Item:=A7 Tryz.f217
def L7:List Item:=stk [0,1,0,0,1,4,5] Ah4
theorem A47 (C:A4) (R:A5) (s:Option Addr) (sn sc:Nat) (f:Value) (h:H) :
 A8 PR V8 C R D5 Tryz.f217 100000 true Ah4 [(0,.slice s sn sc),(1,f)] h =
 R D5 L7 [(0,.slice s sn sc),(1,f),(7,.int .i64 ((sn:Nat):Int)),(8,.int .i64 0)] h:=by kernel_rfl
theorem P9 (C:A4) (R:A5) (s:Option Addr) (sn sc:Nat) (f:Value) (x7:Int) (x8:Int) (h:H) :
 A8 PR V8 C R D5 Tryz.f217 100000 true L7 [(0,.slice s sn sc),(1,f),(7,.int .i64 x7),(8,.int .i64 x8)] h =
 cond (decide (x8<x7))
 (aSome s fun p=>ck ((0:Int)≤x8∧x8<((sn:Nat):Int)) (gInt .i64 (Addr.add (B3 p) (Int.toNat x8*1)) h fun x=>aFn f fun g fi cp=>bnd (C g (fi++([.int .i64 x]++cp)) h) fun r w=>aBool r fun x_1=>cond x_1
 (some (.int .i64 x8,w))
 (R D5 L7 [(0,.slice s sn sc),(1,f),(7,.int .i64 x7),(8,.int .i64 (IntKind.wrap .i64 (x8+1)))] w)))
 (some (.int .i64 (-1),h)):=by kernel_rfl
def Ac2:Cuts:={ globs:=0,loops:=[(2,[0,3,11,12,13])],regs:=[],plans:=[(5,⟨[0,1,2,3,4,5,6,7,8,9,10,11,12,13,14,15,16],[0,1,3,7,0,0,32,96,224,0,0,1535,3583,7679,16383,32767,65535],[],[]⟩)] }
def An6:List Item:=A7 Tryz.f218
def W3:List Item:=stk [0,1,0,0,1,4,5] An6
theorem Df0 (C:A4) (R:A5) (t:Option Addr) (v:List Value) (h:H) :
 A8 PR Ac2 C R H6 Tryz.f218 100000 true An6 [(0,.pointer t),(1,.agg ⟨v⟩)] h =
 nw (.cells O2 false v) h fun b w=>aSome t fun p=>gSl (Addr.add p 0) w fun x xn xc=>R H6 W3 [(0,.pointer t),(3,.pointer (some ⟨b,0,none⟩)),(11,.slice x xn xc),(12,.int .i64 ((xn:Nat):Int)),(13,.int .i64 0)] w:=by kernel_rfl
theorem A29 (C:A4) (R:A5) (t:Option Addr) (v:Addr) (x11:Option Addr) (x11n x11c:Nat) (x12:Int) (x13:Int) (h:H) :
 A8 PR Ac2 C R H6 Tryz.f218 100000 true W3 [(0,.pointer t),(3,.pointer (some v)),(11,.slice x11 x11n x11c),(12,.int .i64 x12),(13,.int .i64 x13)] h =
 cond (decide (x13<x12))
 (aSome x11 fun p=>ck ((0:Int)≤x13∧x13<((x11n:Nat):Int)) (gAgg (Addr.add (B3 p) (Int.toNat x13*8)) 8 h fun x=>nw (.cells Ak2 false [.int .i64 0,.int .i64 0,.int .i64 0,.int .i64 0,.int .i64 0,.int .i64 0,.int .i64 0,.bool false]) h fun b w=>ck (List.length x=8) (pAgg ⟨b,0,none⟩ x w fun w1=>gBool (Addr.add ⟨b,0,none⟩ 7) w1 fun x_1=>bnd (cond (!x_1) (gInt .i64 (Addr.add ⟨b,0,none⟩ 6) w1 fun x_2=>some (decide (x_2≤1000000),w1)) (some (false,w1))) fun c w2=>cond c
 (aSome t fun p_1=>gSl (Addr.add p_1 0) w2 fun x_3 xn _=>aSome t fun p_2=>gSl (Addr.add p_2 0) w2 fun x_4 xn_1 _=>gAgg v 6 w2 fun x_5=>aSome x_3 fun p_3=>ck ((0:Int)≤x13∧x13<((xn:Nat):Int)) (ck (List.length x_5=6) (pAgg (Addr.add (Addr.add (B3 p_3) (Int.toNat x13*8)) 0) x_5 w2 fun w3=>aSome x_4 fun p_4=>ck ((0:Int)≤x13∧x13<((xn_1:Nat):Int)) (pV (Addr.add (Addr.add (B3 p_4) (Int.toNat x13*8)) 7) (.bool true) w3 fun w4=>bnd (C M0 [.pointer t,.int .i64 x13] w4) fun r w5=>aInt .i64 r fun x_6=>some (.tuple ⟨[.int .i64 x_6,.bool true]⟩,w5)))))
 (R H6 W3 [(0,.pointer t),(3,.pointer (some v)),(11,.slice x11 x11n x11c),(12,.int .i64 x12),(13,.int .i64 (IntKind.wrap .i64 (x13+1)))] w2))))
 (some (.tuple ⟨[.int .i64 0,.bool false]⟩,h)):=by kernel_rfl
def A51:Cuts:={ globs:=0,loops:=[(2,[0,4])],regs:=[],plans:=[] }
def Bs5:List Item:=A7 Tryz.f219
def At1:List Item:=stk [0,1,0,0,1,4,5] Bs5
theorem E33 (C:A4) (R:A5) (n:Option Addr) (h:H) :
 A8 PR A51 C R V3 Tryz.f219 100000 true Bs5 [(0,.pointer n)] h =
 R V3 At1 [(0,.pointer n),(4,.int .i64 0)] h:=by kernel_rfl
theorem B23 (C:A4) (R:A5) (n:Option Addr) (i:Int) (h:H) :
 A8 PR A51 C R V3 Tryz.f219 100000 true At1 [(0,.pointer n),(4,.int .i64 i)] h =
 aSome n fun p=>gSl (Addr.add p 0) h fun _ xn _=>cond (decide (i<((xn:Nat):Int)))
 (aSome n fun p_1=>gSl (Addr.add p_1 0) h fun x_1 xn_1 _=>aSome x_1 fun p_2=>ck ((0:Int)≤i∧i<((xn_1:Nat):Int)) (gBool (Addr.add (Addr.add (B3 p_2) (Int.toNat i*2)) 1) h fun x_2=>bnd (cond (!x_2) (aSome n fun p_3=>gSl (Addr.add p_3 0) h fun x_3 xn_2 _=>aSome x_3 fun p_4=>ck ((0:Int)≤i∧i<((xn_2:Nat):Int)) (gInt .i64 (Addr.add (Addr.add (B3 p_4) (Int.toNat i*2)) 0) h fun x_4=>some (decide (x_4≤1000000),h))) (some (false,h))) fun c w=>cond c
 (aSome n fun p_5=>gSl (Addr.add p_5 0) w fun x_5 xn_3 _=>aSome x_5 fun p_6=>ck ((0:Int)≤i∧i<((xn_3:Nat):Int)) (pV (Addr.add (Addr.add (B3 p_6) (Int.toNat i*2)) 1) (.bool true) w fun w1=>aSome n fun p_7=>gSl (Addr.add p_7 0) w1 fun x_6 xn_4 _=>aSome x_6 fun p_8=>ck ((0:Int)≤i∧i<((xn_4:Nat):Int)) (gInt .i64 (Addr.add (Addr.add (B3 p_8) (Int.toNat i*2)) 0) w1 fun x_7=>some (.tuple ⟨[.int .i64 (IntKind.wrap .i64 (i+(IntKind.wrap .i64 (256*x_7)))),.bool true]⟩,w1))))
 (R V3 At1 [(0,.pointer n),(4,.int .i64 (IntKind.wrap .i64 (i+1)))] w)))
 (some (.tuple ⟨[.int .i64 0,.bool false]⟩,h)):=by kernel_rfl
def Bq8:Cuts:={ globs:=0,loops:=[],regs:=[],plans:=[] }
def Dk8:List Item:=A7 Tryz.f220
theorem E18 (C:A4) (R:A5) (n:Option Addr) (name:Int) (h:H) :
 A8 PR Bq8 C R A83 Tryz.f220 100000 true Dk8 [(0,.pointer n),(1,.int .i64 name)] h =
 bnd (cond (decide (name≥0)) (aSome n fun p=>gSl (Addr.add p 0) h fun _ xn _=>some (decide ((O5 .i64 name 255)<((xn:Nat):Int)),h)) (some (false,h))) fun c w=>bnd (cond c (aSome n fun p_1=>gSl (Addr.add p_1 0) w fun x_1 xn_1 _=>aSome x_1 fun p_2=>ck ((0:Int)≤O5 .i64 name 255∧O5 .i64 name 255<((xn_1:Nat):Int)) (gBool (Addr.add (Addr.add (B3 p_2) (Int.toNat (O5 .i64 name 255)*2)) 1) w fun x_2=>some (x_2,w))) (some (false,w))) fun c_1 w1=>bnd (cond c_1 (aSome n fun p_3=>gSl (Addr.add p_3 0) w1 fun x_3 xn_2 _=>aSome x_3 fun p_4=>ck ((0:Int)≤O5 .i64 name 255∧O5 .i64 name 255<((xn_2:Nat):Int)) (gInt .i64 (Addr.add (Addr.add (B3 p_4) (Int.toNat (O5 .i64 name 255)*2)) 0) w1 fun x_4=>some (x_4==(Int.fdiv name (2 ^ 8)),w1))) (some (false,w1))) fun c_2 w2=>some (.bool c_2,w2):=by kernel_rfl
def Ao1:Cuts:={ globs:=0,loops:=[],regs:=[],plans:=[] }
def Be0:List Item:=A7 Tryz.f226
theorem Di2 (C:A4) (R:A5) (t:Option Addr) (name:Int) (h:H) :
 A8 PR Ao1 C R Ab7 Tryz.f226 100000 true Be0 [(0,.pointer t),(1,.int .i64 name)] h =
 nw (.cells O2 false [.int .i64 0,.int .i64 0,.int .i64 0,.int .i64 0,.int .i64 0,.int .i64 0]) h fun b w=>bnd (C Ad1 [.pointer t,.int .i64 name] w) fun r w1=>aPtr r fun x=>cond x.isNone
 (nw (.cells O2 false [.int .i64 0,.int .i64 0,.int .i64 0,.int .i64 0,.int .i64 0,.int .i64 0]) w1 fun b_1 w2=>gAgg ⟨b_1,0,none⟩ 6 w2 fun x_1=>ck (List.length x_1=6) (pAgg ⟨b,0,none⟩ x_1 w2 fun w3=>gAgg ⟨b,0,none⟩ 6 w3 fun x_2=>some (.tuple ⟨[.agg ⟨x_2⟩,.bool false]⟩,w3)))
 (aSome x fun p=>gAgg (Addr.add p 0) 6 w1 fun x_3=>ck (List.length x_3=6) (pAgg ⟨b,0,none⟩ x_3 w1 fun w4=>gAgg ⟨b,0,none⟩ 6 w4 fun x_4=>some (.tuple ⟨[.agg ⟨x_4⟩,.bool true]⟩,w4))):=by kernel_rfl
def Bl0:Cuts:={ globs:=0,loops:=[],regs:=[],plans:=[] }
def Dd6:List Item:=A7 Tryz.f230
theorem Ev8 (C:A4) (R:A5) (s:Option Addr) (who:Int) (stamp:Int) (h:H) :
 A8 PR Bl0 C R A03 Tryz.f230 100000 true Dd6 [(0,.pointer s),(1,.int .i64 who),(2,.int .i64 stamp)] h =
 aSome s fun p=>gBool (Addr.add p 1) h fun x=>bnd (cond x (aSome s fun p_1=>gInt .i64 (Addr.add p_1 2) h fun x_1=>some (x_1==who,h)) (some (false,h))) fun c w=>bnd (cond c (aSome s fun p_2=>gInt .i64 (Addr.add p_2 3) w fun x_2=>some (x_2==stamp,w)) (some (false,w))) fun c_1 w1=>some (.bool c_1,w1):=by kernel_rfl
def Dl1:Cuts:={ globs:=0,loops:=[],regs:=[],plans:=[] }
def El5:List Item:=A7 Tryz.f238
theorem G50 (C:A4) (R:A5) (n:Int) (without:Int) (h:H) :
 A8 PR Dl1 C R Aj4 Tryz.f238 100000 true El5 [(0,.int .i64 n),(1,.int .i64 without)] h =
 bnd (cond ((Em2 .i64 n 65534)==0) (some ((O5 .i64 n without)==0,h)) (some (false,h))) fun c w=>some (.bool c,w):=by kernel_rfl
end
end Go.EQ

set_option maxRecDepth 100000
namespace Go.EQ
open Go Go.NN Go.Proofs
variable (C : A4) (R : A5)
noncomputable section
def Ae8:Cuts:={ globs:=0,loops:=[(6,[0,3,4,7]),(13,[0,3,4,8,9,10])],regs:=[(24,[0,3,4,8,9,10,11,13,14,15,17])],plans:=[] }
def Al4:List Item:=A7 Tryz.f11
def Ap0:List Item:=stk [0,1,0,1,0,1,0,1,0,0,1,4,5] Al4
def Ac8:List Item:=stk [0,1,0,1,0,1,0,1,0,1,0,1,0,1,0,0,1,4,5] Al4
def Ad8:List Item:=stk [0,1,0,1,0,1,0,1,0,1,0,1,0,1,0,0,1,4,5,6,0,1,0,4,0,1,0,1,0,1,0,1,0,1,0,1,0,0] Al4
theorem Ew2 (C:A4) (R:A5) (forks:Int) (h:H) :
 A8 PR Ae8 C R B9 Tryz.f11 100000 true Al4 [(0,.int .i64 forks)] h =
 bnd (C Ba5 [] h) fun r w=>aSl r fun x xn xc=>bnd (C Ae6 [.slice x xn xc] w) fun r_1 w1=>as4 r_1 fun r_2 r_3 r_4 r_5=>aPtr r_2 fun x_1=>aPtr r_3 fun x_2=>aPtr r_4 fun _=>aPtr r_5 fun _=>bnd (cond x_2.isNone (some (true,w1)) (bnd (C O1 [.pointer x_1] w1) fun r_6 w2=>aPtr r_6 fun x_5=>some (x_5.isNone,w2))) fun c w3=>cond c
 (some (.bool false,w3))
 (R B9 Ap0 [(0,.int .i64 (O5 .i64 forks 3)),(3,.pointer x_1),(4,.pointer x_2),(7,.int .i64 0)] w3):=by kernel_rfl
theorem Bz6 (C:A4) (R:A5) (forks:Int) (k:Option Addr) (c:Option Addr) (i:Int) (h:H) :
 A8 PR Ae8 C R B9 Tryz.f11 100000 true Ap0 [(0,.int .i64 forks),(3,.pointer k),(4,.pointer c),(7,.int .i64 i)] h =
 cond (decide (i<forks))
 (bnd (C B69 [.pointer c,.int .i64 0] h) fun r w=>aAgg r fun x=>nth x 0 fun N=>aInt .i64 N fun N_1=>cond (N_1 != (IntKind.wrap .i64 (i+1)))
 (some (.bool false,w))
 (R B9 Ap0 [(0,.int .i64 forks),(3,.pointer k),(4,.pointer c),(7,.int .i64 (IntKind.wrap .i64 (i+1)))] w))
 (nw (.cells Dj1 false [.int .i64 0,.int .i64 0,.int .i64 0,.int .i64 0]) h fun b w1=>R B9 Ac8 [(0,.int .i64 forks),(3,.pointer k),(4,.pointer c),(8,.int .i64 0),(9,.pointer (some ⟨b,0,none⟩)),(10,.int .i64 0)] w1):=by kernel_rfl
theorem By1 (C:A4) (R:A5) (forks:Int) (k:Option Addr) (c:Option Addr) (made:Int) (own:Addr) (i:Int) (h:H) :
 A8 PR Ae8 C R B9 Tryz.f11 100000 true Ac8 [(0,.int .i64 forks),(3,.pointer k),(4,.pointer c),(8,.int .i64 made),(9,.pointer (some own)),(10,.int .i64 i)] h =
 cond (decide (i<8))
 (bnd (C O1 [.pointer k] h) fun r w=>aPtr r fun x=>bnd (C V7 [.pointer x,.int .i64 0] w) fun r_1 w1=>as2 r_1 fun r_2 r_3=>aSl r_2 fun x_1 xn xc=>aInt .i64 r_3 fun _=>ck ((IntKind.wrap .i64 (forks+1))≠(0:Int)) (bnd (C Bh9 [.pointer c,.int .i64 (Int.tmod i (IntKind.wrap .i64 (forks+1)))] w1) fun r_4 w2=>aAgg r_4 fun x_3=>nw (.cells V0 false [.int .i64 0,.int .i64 0,.slice none 0 0,.bool false]) w2 fun b w3=>ck (List.length x_3=4) (pAgg ⟨b,0,none⟩ x_3 w3 fun w4=>bnd (C O1 [.pointer k] w4) fun r_5 w5=>aPtr r_5 fun x_4=>bnd (C V7 [.pointer x_4,.int .i64 0] w5) fun r_6 w6=>as2 r_6 fun r_7 r_8=>aSl r_7 fun x_5 xn_1 xc_1=>aInt .i64 r_8 fun _=>ck ((0:Int)≤Int.tmod i (IntKind.wrap .i64 (forks+1))∧Int.tmod i (IntKind.wrap .i64 (forks+1))<((4:Nat):Int)) (gInt .i64 (Addr.add own (Int.toNat (Int.tmod i (IntKind.wrap .i64 (forks+1)))*1)) w6 fun x_7=>cond (decide (x_7≥3))
 (R B9 Ad8 [(0,.int .i64 forks),(3,.pointer k),(4,.pointer c),(8,.int .i64 made),(9,.pointer (some own)),(10,.int .i64 i),(11,.slice x_1 xn xc),(13,.int .i64 (Int.tmod i (IntKind.wrap .i64 (forks+1)))),(14,.pointer (some ⟨b,0,none⟩)),(15,.slice x_5 xn_1 xc_1),(17,.int .i64 124)] w6)
 (cond (decide (made≥4))
 (R B9 Ad8 [(0,.int .i64 forks),(3,.pointer k),(4,.pointer c),(8,.int .i64 made),(9,.pointer (some own)),(10,.int .i64 i),(11,.slice x_1 xn xc),(13,.int .i64 (Int.tmod i (IntKind.wrap .i64 (forks+1)))),(14,.pointer (some ⟨b,0,none⟩)),(15,.slice x_5 xn_1 xc_1),(17,.int .i64 123)] w6)
 (R B9 Ad8 [(0,.int .i64 forks),(3,.pointer k),(4,.pointer c),(8,.int .i64 made),(9,.pointer (some own)),(10,.int .i64 i),(11,.slice x_1 xn xc),(13,.int .i64 (Int.tmod i (IntKind.wrap .i64 (forks+1)))),(14,.pointer (some ⟨b,0,none⟩)),(15,.slice x_5 xn_1 xc_1),(17,.int .i64 0)] w6))))))
 (cond (forks==0)
 (bnd (cond (made==3) (bnd (C A90 [] h) fun r_9 w7=>aBool r_9 fun x_8=>some (x_8,w7)) (some (false,h))) fun c_1 w8=>some (.bool c_1,w8))
 (bnd (C Bb4 [.pointer c,.int .i64 0,.int .i64 1] h) fun r_10 w9=>aAgg r_10 fun x_9=>bnd (C Bb4 [.pointer c,.int .i64 0,.int .i64 2] w9) fun r_11 w10=>aAgg r_11 fun x_10=>nw (.cells V0 false [.int .i64 0,.int .i64 0,.slice none 0 0,.bool false]) w10 fun b_1 w11=>nw (.cells V0 false [.int .i64 0,.int .i64 0,.slice none 0 0,.bool false]) w11 fun b_2 w12=>ck (List.length x_9=4) (pAgg ⟨b_1,0,none⟩ x_9 w12 fun w13=>ck (List.length x_10=4) (pAgg ⟨b_2,0,none⟩ x_10 w13 fun w14=>bnd (C Bh9 [.pointer c,.int .i64 0] w14) fun r_12 w15=>aAgg r_12 fun x_11=>nw (.cells V0 false [.int .i64 0,.int .i64 0,.slice none 0 0,.bool false]) w15 fun b_3 w16=>ck (List.length x_11=4) (pAgg ⟨b_3,0,none⟩ x_11 w16 fun w17=>bnd (cond (made==4) (gInt .i64 (Addr.add ⟨b_1,0,none⟩ 1) w17 fun x_12=>some (x_12==0,w17)) (some (false,w17))) fun c_2 w18=>bnd (cond c_2 (gInt .i64 (Addr.add ⟨b_2,0,none⟩ 1) w18 fun x_13=>some (x_13==0,w18)) (some (false,w18))) fun c_3 w19=>bnd (cond c_3 (gInt .i64 (Addr.add ⟨b_3,0,none⟩ 1) w19 fun x_14=>some (x_14==0,w19)) (some (false,w19))) fun c_4 w20=>bnd (cond c_4 (gInt .i64 (Addr.add ⟨b_3,0,none⟩ 0) w20 fun x_15=>some (x_15==33,w20)) (some (false,w20))) fun c_5 w21=>bnd (cond c_5 (bnd (C A90 [] w21) fun r_13 w22=>aBool r_13 fun x_16=>some (x_16,w22)) (some (false,w21))) fun c_6 w23=>some (.bool c_6,w23)))))):=by kernel_rfl
theorem D89 (C:A4) (R:A5) (forks:Int) (k:Option Addr) (c:Option Addr) (made:Int) (own:Addr) (i:Int) (was:Option Addr) (wasn wasc:Nat) (who:Int) (r:Addr) (now:Option Addr) (nown nowc:Nat) (want:Int) (h:H) :
 A8 PR Ae8 C R B9 Tryz.f11 100000 true Ad8 [(0,.int .i64 forks),(3,.pointer k),(4,.pointer c),(8,.int .i64 made),(9,.pointer (some own)),(10,.int .i64 i),(11,.slice was wasn wasc),(13,.int .i64 who),(14,.pointer (some r)),(15,.slice now nown nowc),(17,.int .i64 want)] h =
 gInt .i64 (Addr.add r 1) h fun x=>bnd (cond (x != want) (some (true,h)) (bnd (cond (want != 0) (gCells was wasn h fun cs=>asBytes cs fun l=>gCells now nown h fun cs_1=>asBytes cs_1 fun l_1=>some (!((ByteArray.mk ⟨l⟩).toList==(ByteArray.mk ⟨l_1⟩).toList),h)) (some (false,h))) fun c_1 w=>some (c_1,w))) fun c_2 w1=>cond c_2
 (some (.bool false,w1))
 (cond (want==0)
 (ck ((0:Int)≤who∧who<((4:Nat):Int)) (gInt .i64 (Addr.add own (Int.toNat who*1)) w1 fun x_1=>ck ((0:Int)≤who∧who<((4:Nat):Int)) (pV (Addr.add own (Int.toNat who*1)) (.int .i64 (IntKind.wrap .i64 (x_1+1))) w1 fun w2=>R B9 Ac8 [(0,.int .i64 forks),(3,.pointer k),(4,.pointer c),(8,.int .i64 (IntKind.wrap .i64 (made+1))),(9,.pointer (some own)),(10,.int .i64 (IntKind.wrap .i64 (i+1)))] w2)))
 (R B9 Ac8 [(0,.int .i64 forks),(3,.pointer k),(4,.pointer c),(8,.int .i64 made),(9,.pointer (some own)),(10,.int .i64 (IntKind.wrap .i64 (i+1)))] w1)):=by kernel_rfl
def Dx3:Cuts:={ globs:=0,loops:=[],regs:=[],plans:=[] }
def Ew8:List Item:=A7 Tryz.f35
theorem Hb8 (C:A4) (R:A5) (c:Option Addr) (i:Int) (h:H) :
 A8 PR Dx3 C R B69 Tryz.f35 100000 true Ew8 [(0,.pointer c),(1,.int .i64 i)] h =
 nw (.cells V0 false [.int .i64 0,.int .i64 0,.slice none 0 0,.bool false]) h fun b w=>bnd (C Ay8 [.pointer c,.int .i64 i] w) fun r w1=>as2 r fun r_1 r_2=>aAgg r_1 fun x=>aInt .i64 r_2 fun x_1=>nw (.cells D1 false [.int .i64 0,.int .i64 0,.int .i64 0,.int .i64 0,.int .i64 0,.int .i64 0,.int .i64 0,.int .i64 0,.int .i64 0,.int .i64 0,.int .i64 0,.int .i64 0,.int .i64 0,.int .i64 0,.int .i64 0,.int .i64 0]) w1 fun b_1 w2=>ck (List.length x=16) (pAgg ⟨b_1,0,none⟩ x w2 fun w3=>cond (x_1 != 0)
 (bnd (C Ay3 [.int .i64 x_1] w3) fun r_3 w4=>aAgg r_3 fun x_2=>ck (List.length x_2=4) (pAgg ⟨b,0,none⟩ x_2 w4 fun w5=>gAgg ⟨b,0,none⟩ 4 w5 fun x_3=>some (.agg ⟨x_3⟩,w5)))
 (bnd (C Ap7 [.pointer c] w3) fun r_4 w6=>aInt .i64 r_4 fun x_4=>cond (decide (x_4<0))
 (bnd (C Ay3 [.int .i64 111] w6) fun r_5 w7=>aAgg r_5 fun x_5=>ck (List.length x_5=4) (pAgg ⟨b,0,none⟩ x_5 w7 fun w8=>gAgg ⟨b,0,none⟩ 4 w8 fun x_6=>some (.agg ⟨x_6⟩,w8)))
 (gAgg ⟨b_1,0,none⟩ 16 w6 fun x_7=>bnd (C E9 [.pointer c,.agg ⟨x_7⟩] w6) fun r_6 w9=>aInt .i64 r_6 fun x_8=>cond (x_8 != 0)
 (bnd (C Ay3 [.int .i64 x_8] w9) fun r_7 w10=>aAgg r_7 fun x_9=>ck (List.length x_9=4) (pAgg ⟨b,0,none⟩ x_9 w10 fun w11=>gAgg ⟨b,0,none⟩ 4 w11 fun x_10=>some (.agg ⟨x_10⟩,w11)))
 (pV (Addr.add ⟨b_1,0,none⟩ 1) (.int .i64 (IntKind.wrap .i64 (i+1))) w9 fun w12=>pV (Addr.add ⟨b_1,0,none⟩ 4) (.int .i64 0) w12 fun w13=>gAgg ⟨b_1,0,none⟩ 16 w13 fun x_11=>bnd (C N6 [.pointer c,.int .i64 x_4,.agg ⟨x_11⟩] w13) fun r_8 w14=>aBool r_8 fun x_12=>bnd (C Ay0 [.bool x_12,.int .i64 x_4] w14) fun r_9 w15=>aAgg r_9 fun x_13=>ck (List.length x_13=4) (pAgg ⟨b,0,none⟩ x_13 w15 fun w16=>gAgg ⟨b,0,none⟩ 4 w16 fun x_14=>some (.agg ⟨x_14⟩,w16)))))):=by kernel_rfl
def Ay9:Cuts:={ globs:=0,loops:=[],regs:=[],plans:=[] }
def Bo4:List Item:=A7 Tryz.f36
theorem Dw5 (C:A4) (R:A5) (c:Option Addr) (i:Int) (h:H) :
 A8 PR Ay9 C R H9 Tryz.f36 100000 true Bo4 [(0,.pointer c),(1,.int .i64 i)] h =
 nw (.cells E1 false [.int .i64 0,.int .i64 0,.int .i64 0,.int .i64 0]) h fun b w=>bnd (C Aq7 [.int .i64 i] w) fun r w1=>aAgg r fun x=>bnd (C J0 [.pointer c,.agg ⟨x⟩,.func (.func A25) ⟨[]⟩ ⟨[]⟩] w1) fun r_1 w2=>as2 r_1 fun r_2 r_3=>aAgg r_2 fun x_1=>aInt .i64 r_3 fun x_2=>ck (List.length x_1=4) (pAgg ⟨b,0,none⟩ x_1 w2 fun w3=>gAgg ⟨b,0,none⟩ 4 w3 fun x_3=>some (.tuple ⟨[.agg ⟨x_3⟩,.int .i64 x_2]⟩,w3)):=by kernel_rfl
def Dx7:Cuts:={ globs:=0,loops:=[],regs:=[],plans:=[] }
def Ew6:List Item:=A7 Tryz.f40
theorem G63 (C:A4) (R:A5) (c:Option Addr) (i:Int) (h:H) :
 A8 PR Dx7 C R Ay8 Tryz.f40 100000 true Ew6 [(0,.pointer c),(1,.int .i64 i)] h =
 nw (.cells D1 false [.int .i64 0,.int .i64 0,.int .i64 0,.int .i64 0,.int .i64 0,.int .i64 0,.int .i64 0,.int .i64 0,.int .i64 0,.int .i64 0,.int .i64 0,.int .i64 0,.int .i64 0,.int .i64 0,.int .i64 0,.int .i64 0]) h fun b w=>bnd (C B8 [.pointer c] w) fun r w1=>as0 r (bnd (C Q0 [.pointer c,.int .i64 i] w1) fun r_1 w2=>as2 r_1 fun r_2 r_3=>aAgg r_2 fun x=>aInt .i64 r_3 fun x_1=>nw (.cells D1 false [.int .i64 0,.int .i64 0,.int .i64 0,.int .i64 0,.int .i64 0,.int .i64 0,.int .i64 0,.int .i64 0,.int .i64 0,.int .i64 0,.int .i64 0,.int .i64 0,.int .i64 0,.int .i64 0,.int .i64 0,.int .i64 0]) w2 fun b_1 w3=>ck (List.length x=16) (pAgg ⟨b_1,0,none⟩ x w3 fun w4=>bnd (cond (x_1 != 1) (some (true,w4)) (gInt .i64 (Addr.add ⟨b_1,0,none⟩ 0) w4 fun x_2=>some (x_2 != 1,w4))) fun c_1 w5=>cond c_1
 (pAgg ⟨b,0,none⟩ [.int .i64 0,.int .i64 0,.int .i64 0,.int .i64 0,.int .i64 0,.int .i64 0,.int .i64 0,.int .i64 0,.int .i64 0,.int .i64 0,.int .i64 0,.int .i64 0,.int .i64 0,.int .i64 0,.int .i64 0,.int .i64 0] w5 fun w6=>gAgg ⟨b,0,none⟩ 16 w6 fun x_3=>some (.tuple ⟨[.agg ⟨x_3⟩,.int .i64 105]⟩,w6))
 (gAgg ⟨b_1,0,none⟩ 16 w5 fun x_4=>ck (List.length x_4=16) (pAgg ⟨b,0,none⟩ x_4 w5 fun w7=>gAgg ⟨b,0,none⟩ 16 w7 fun x_5=>some (.tuple ⟨[.agg ⟨x_5⟩,.int .i64 0]⟩,w7))))):=by kernel_rfl
def A59:Cuts:={ globs:=0,loops:=[(5,[1,4,20,21,22]),(12,[1,7,58,59,60]),(18,[7,89,90,91]),(22,[7,11,12,89,90,91,122,123,124])],regs:=[],plans:=[(9,⟨[0,1,3,5,6,7,9,10,2,4,8,11,12,13,14],[0,1,3,0,15,0,32,96,255,0,512,2047,4095,8191,16383],[(2,[6,10]),(4,[6,10]),(8,[10])],[]⟩),(10,⟨[0,1,2,3,4,5,6,7,8,9,10,11,12],[0,0,2,6,14,0,32,96,224,510,1023,2047,4095],[],[]⟩),(14,⟨[0,1,2,3,4,5,6,7,8,9,10,11],[0,0,2,6,14,0,32,96,254,511,1023,2047],[(6,[4])],[]⟩),(15,⟨[0,1,2,3,4,5,6,7,8,9,10,11,12],[0,0,2,6,14,0,32,96,224,510,1023,2047,4095],[(7,[4])],[]⟩),(20,⟨[0,1,2,3,4,5,6,7,8,9,11,12,15,16,18,19,10,13,14,17,20,21,22,23,24,25],[0,1,3,7,0,16,48,112,0,256,1008,0,2048,8176,16368,0,32768,131056,0,262144,1048575,2097151,4194303,4194303,8388607,33554431],[(10,[3,12,16,19])],[]⟩),(25,⟨[0,1,2,3,4,5,6,7,8,9],[0,1,3,7,0,0,0,64,224,511],[],[]⟩)] }
def Bj5:List Item:=A7 Tryz.f51
def Bp2:List Item:=stk [0,1,0,1,0,1,0,0,1,4,5] Bj5
def Bp6:List Item:=stk [0,1,0,1,0,1,0,1,0,1,0,1,0,0,1,4,5] Bj5
def A84:List Item:=stk [0,1,0,1,0,1,0,1,0,1,0,1,0,1,0,0,1,4,5] Bj5
def A94:List Item:=stk [0,1,0,1,0,1,0,1,0,1,0,1,0,1,0,0,1,4,5,6,0,1,0,1,0,4,0,1,0,1,0,1,4,5] Bj5
theorem Hg1 (C:A4) (R:A5) (c:List Value) (h:H) :
 A8 PR A59 C R H2 Tryz.f51 100000 true Bj5 [(0,.agg ⟨c⟩)] h =
 nw (.cells D8 false c) h fun b w=>gAgg ⟨b,0,none⟩ 5 w fun x=>bnd (C P7 [.agg ⟨x⟩] w) fun r w1=>aBool r fun x_1=>cond (!x_1)
 (some (.tuple ⟨[.pointer none,.int .i64 1]⟩,w1))
 (gSl (Addr.add ⟨b,0,none⟩ 0) w1 fun x_2 xn xc=>R H2 Bp2 [(1,.pointer (some ⟨b,0,none⟩)),(4,.int .i64 0),(20,.slice x_2 xn xc),(21,.int .i64 ((xn:Nat):Int)),(22,.int .i64 0)] w1):=by kernel_rfl
theorem Ec1 (C:A4) (R:A5) (c:Addr) (all:Int) (x20:Option Addr) (x20n x20c:Nat) (x21:Int) (x22:Int) (h:H) :
 A8 PR A59 C R H2 Tryz.f51 100000 true Bp2 [(1,.pointer (some c)),(4,.int .i64 all),(20,.slice x20 x20n x20c),(21,.int .i64 x21),(22,.int .i64 x22)] h =
 cond (decide (x22<x21))
 (aSome x20 fun p=>ck ((0:Int)≤x22∧x22<((x20n:Nat):Int)) (gInt .i64 (Addr.add (B3 p) (Int.toNat x22*1)) h fun x=>bnd (C A97 [.int .i64 x] h) fun r w=>aInt .i64 r fun x_1=>R H2 Bp2 [(1,.pointer (some c)),(4,.int .i64 (IntKind.wrap .i64 (all+x_1))),(20,.slice x20 x20n x20c),(21,.int .i64 x21),(22,.int .i64 (IntKind.wrap .i64 (x22+1)))] w))
 (gSl (Addr.add c 1) h fun x_2 xn xc=>gSl (Addr.add c 1) h fun x_3 xn_1 xc_1=>gSl (Addr.add c 0) h fun x_4 xn_2 xc_2=>bnd (C U8 [.slice x_2 xn xc] h) fun r_1 w1=>aSl r_1 fun x_5 xn_3 xc_3=>gSl (Addr.add c 1) w1 fun x_6 xn_4 xc_4=>same (.slice x_3 xn_1 xc_1) (.slice x_6 xn_4 xc_4) (gSl (Addr.add c 0) w1 fun x_7 xn_5 xc_5=>same (.slice x_4 xn_2 xc_2) (.slice x_7 xn_5 xc_5) (bnd (C Du0 [.int .i64 all] w1) fun r_2 w2=>aPtr r_2 fun x_8=>gSl (Addr.add c 1) w2 fun x_9 xn_6 xc_6=>same (.slice x_3 xn_1 xc_1) (.slice x_9 xn_6 xc_6) (gSl (Addr.add c 0) w2 fun x_10 xn_7 xc_7=>same (.slice x_4 xn_2 xc_2) (.slice x_10 xn_7 xc_7) (bnd (C Aw9 [.int .i64 ((xn_1:Nat):Int)] w2) fun r_3 w3=>aPtr r_3 fun x_11=>gSl (Addr.add c 0) w3 fun x_12 xn_8 xc_8=>same (.slice x_4 xn_2 xc_2) (.slice x_12 xn_8 xc_8) (bnd (C Ap4 [.slice x_4 xn_2 xc_2] w3) fun r_4 w4=>aPtr r_4 fun x_13=>nw (.cells B71 false [.slice x_5 xn_3 xc_3,.slice none 0 0,.pointer x_8,.pointer x_11,.pointer x_13,.pointer none,.slice none 0 0,.int .i64 0]) w4 fun b w5=>gPtr (Addr.add ⟨b,0,none⟩ 2) w5 fun x_14=>gPtr (Addr.add ⟨b,0,none⟩ 3) w5 fun x_15=>bnd (C B04 [.pointer x_14,.pointer x_15] w5) fun r_5 w6=>aPtr r_5 fun x_16=>pV (Addr.add ⟨b,0,none⟩ 5) (.pointer x_16) w6 fun w7=>gSl (Addr.add c 2) w7 fun x_17 xn_9 xc_9=>R H2 Bp6 [(1,.pointer (some c)),(7,.pointer (some ⟨b,0,none⟩)),(58,.slice x_17 xn_9 xc_9),(59,.int .i64 ((xn_9:Nat):Int)),(60,.int .i64 0)] w7)))))):=by kernel_rfl
theorem Ee2 (C:A4) (R:A5) (c:Addr) (k:Addr) (x58:Option Addr) (x58n x58c:Nat) (x59:Int) (x60:Int) (h:H) :
 A8 PR A59 C R H2 Tryz.f51 100000 true Bp6 [(1,.pointer (some c)),(7,.pointer (some k)),(58,.slice x58 x58n x58c),(59,.int .i64 x59),(60,.int .i64 x60)] h =
 cond (decide (x60<x59))
 (aSome x58 fun p=>ck ((0:Int)≤x60∧x60<((x58n:Nat):Int)) (gSl (Addr.add (B3 p) (Int.toNat x60*1)) h fun x xn xc=>gSl (Addr.add k 1) h fun x_1 xn_1 xc_1=>bnd (C U8 [.slice x xn xc] h) fun r w=>aSl r fun x_2 xn_2 xc_2=>gSl (Addr.add k 1) w fun x_3 xn_3 xc_3=>same (.slice x_1 xn_1 xc_1) (.slice x_3 xn_3 xc_3) (nw (.cells P1 false [.slice x_2 xn_2 xc_2]) w fun b w1=>gCells (some ⟨b,0,none⟩) (1*1) w1 fun cs=>ckB (fitsOpen x_1 P1 w1) (apd P1 1 x_1 xn_1 xc_1 1 cs w1 fun a an ac w2=>pV (Addr.add k 1) (.slice a an ac) w2 fun w3=>gSl (Addr.add k 6) w3 fun x_4 xn_4 xc_4=>gInt .i64 (Addr.add c 3) w3 fun x_5=>bnd (C Dg5 [.int .i64 x_5] w3) fun r_1 w4=>aPtr r_1 fun x_6=>gSl (Addr.add k 6) w4 fun x_7 xn_5 xc_5=>same (.slice x_4 xn_4 xc_4) (.slice x_7 xn_5 xc_5) (nw (.cells Au7 false [.pointer x_6]) w4 fun b_1 w5=>gCells (some ⟨b_1,0,none⟩) (1*1) w5 fun cs_1=>ckB (fitsOpen x_4 Au7 w5) (apd Au7 1 x_4 xn_4 xc_4 1 cs_1 w5 fun a_1 an_1 ac_1 w6=>pV (Addr.add k 6) (.slice a_1 an_1 ac_1) w6 fun w7=>R H2 Bp6 [(1,.pointer (some c)),(7,.pointer (some k)),(58,.slice x58 x58n x58c),(59,.int .i64 x59),(60,.int .i64 (IntKind.wrap .i64 (x60+1)))] w7))))))
 (gSl (Addr.add c 4) h fun x_8 xn_6 xc_6=>R H2 A84 [(7,.pointer (some k)),(89,.slice x_8 xn_6 xc_6),(90,.int .i64 ((xn_6:Nat):Int)),(91,.int .i64 0)] h):=by kernel_rfl
theorem Ec9 (C:A4) (R:A5) (k:Addr) (x89:Option Addr) (x89n x89c:Nat) (x90:Int) (x91:Int) (h:H) :
 A8 PR A59 C R H2 Tryz.f51 100000 true A84 [(7,.pointer (some k)),(89,.slice x89 x89n x89c),(90,.int .i64 x90),(91,.int .i64 x91)] h =
 cond (decide (x91<x90))
 (aSome x89 fun p=>ck ((0:Int)≤x91∧x91<((x89n:Nat):Int)) (gAgg (Addr.add (B3 p) (Int.toNat x91*5)) 5 h fun x=>nw (.cells H8 false [.int .i64 0,.int .i64 0,.int .i64 0,.int .i64 0,.slice none 0 0]) h fun b w=>ck (List.length x=5) (pAgg ⟨b,0,none⟩ x w fun w1=>gPtr (Addr.add k 5) w1 fun x_1=>gPtr (Addr.add k 4) w1 fun x_2=>gInt .i64 (Addr.add ⟨b,0,none⟩ 0) w1 fun x_3=>gInt .i64 (Addr.add ⟨b,0,none⟩ 1) w1 fun x_4=>gInt .i64 (Addr.add ⟨b,0,none⟩ 2) w1 fun x_5=>gInt .i64 (Addr.add ⟨b,0,none⟩ 3) w1 fun x_6=>bnd (C O0 [.pointer x_2,.int .i64 x_3] w1) fun r w2=>aInt .i64 r fun x_7=>gPtr (Addr.add k 5) w2 fun x_8=>same (.pointer x_1) (.pointer x_8) (gInt .i64 (Addr.add ⟨b,0,none⟩ 1) w2 fun x_9=>same (.int .i64 x_4) (.int .i64 x_9) (gInt .i64 (Addr.add ⟨b,0,none⟩ 2) w2 fun x_10=>same (.int .i64 x_5) (.int .i64 x_10) (gInt .i64 (Addr.add ⟨b,0,none⟩ 3) w2 fun x_11=>same (.int .i64 x_6) (.int .i64 x_11) (bnd (C An7 [.pointer x_1,.int .i64 (IntKind.wrap .i64 ((IntKind.wrap .i64 ((IntKind.wrap .i64 (x_7+x_4))*64))+x_5)),.int .i64 x_6] w2) fun r_1 w3=>as2 r_1 fun r_2 r_3=>aInt .i64 r_2 fun x_12=>aInt .i64 r_3 fun _=>gSl (Addr.add k 0) w3 fun x_14 xn xc=>R H2 A94 [(7,.pointer (some k)),(11,.pointer (some ⟨b,0,none⟩)),(12,.int .i64 x_12),(89,.slice x89 x89n x89c),(90,.int .i64 x90),(91,.int .i64 x91),(122,.slice x_14 xn xc),(123,.int .i64 ((xn:Nat):Int)),(124,.int .i64 0)] w3)))))))
 (some (.tuple ⟨[.pointer (some k),.int .i64 0]⟩,h)):=by kernel_rfl
theorem Ec0 (C:A4) (R:A5) (k:Addr) (x:Addr) (obj:Int) (x89:Option Addr) (x89n x89c:Nat) (x90:Int) (x91:Int) (x122:Option Addr) (x122n x122c:Nat) (x123:Int) (x124:Int) (h:H) :
 A8 PR A59 C R H2 Tryz.f51 100000 true A94 [(7,.pointer (some k)),(11,.pointer (some x)),(12,.int .i64 obj),(89,.slice x89 x89n x89c),(90,.int .i64 x90),(91,.int .i64 x91),(122,.slice x122 x122n x122c),(123,.int .i64 x123),(124,.int .i64 x124)] h =
 cond (decide (x124<x123))
 (aSome x122 fun p=>ck ((0:Int)≤x124∧x124<((x122n:Nat):Int)) (gInt .i64 (Addr.add (B3 p) (Int.toNat x124*1)) h fun x_1=>gSl (Addr.add x 4) h fun x_2 xn xc=>bnd (C L5 [.slice x_2 xn xc,.int .i64 x_1] h) fun r w=>aBool r fun x_3=>cond x_3
 (gPtr (Addr.add k 3) w fun x_4=>gInt .i64 (Addr.add x 3) w fun x_5=>bnd (C A78 [.pointer x_4,.int .i64 x124,.agg ⟨[.int .i64 obj,.int .i64 3,.int .i64 0,.int .i64 x_5,.int .i64 0,.int .i64 0]⟩] w) fun r_1 w1=>as2 r_1 fun r_2 r_3=>aInt .i64 r_2 fun _=>aInt .i64 r_3 fun _=>R H2 A94 [(7,.pointer (some k)),(11,.pointer (some x)),(12,.int .i64 obj),(89,.slice x89 x89n x89c),(90,.int .i64 x90),(91,.int .i64 x91),(122,.slice x122 x122n x122c),(123,.int .i64 x123),(124,.int .i64 (IntKind.wrap .i64 (x124+1)))] w1)
 (R H2 A94 [(7,.pointer (some k)),(11,.pointer (some x)),(12,.int .i64 obj),(89,.slice x89 x89n x89c),(90,.int .i64 x90),(91,.int .i64 x91),(122,.slice x122 x122n x122c),(123,.int .i64 x123),(124,.int .i64 (IntKind.wrap .i64 (x124+1)))] w)))
 (R H2 A84 [(7,.pointer (some k)),(89,.slice x89 x89n x89c),(90,.int .i64 x90),(91,.int .i64 (IntKind.wrap .i64 (x91+1)))] h):=by kernel_rfl
def Aq4:Cuts:={ globs:=0,loops:=[(4,[1,3,4]),(8,[1,3,5]),(13,[1,3,5,6,7,9])],regs:=[],plans:=[(1,⟨[0,1,2,3,4,5,6],[0,0,2,6,15,31,63],[(3,[0])],[]⟩),(2,⟨[0,1,2,3,4,5,6,7,11,12,13,8,9,10,14,15,16,17,18,19],[0,0,2,6,14,0,32,96,254,510,1022,0,2048,6144,14846,32766,65534,131071,262143,524287],[(8,[12])],[]⟩),(6,⟨[0,1,2,3,4,5,6,7,8,9,10,11,12],[0,0,2,6,14,0,32,96,224,510,1023,2047,4095],[(7,[4])],[]⟩),(11,⟨[0,1,2,3,4,5,6,7,8,9,11,12,15,16,18,19,10,13,14,17,20,21,22,23,24,25],[0,1,3,7,0,16,48,112,0,256,1008,0,2048,8176,16368,0,32768,131056,0,262144,1048575,2097151,4194303,4194303,8388607,33554431],[(10,[3,12,16,19])],[]⟩),(15,⟨[0,1,2,3,4,5,6,7],[0,1,0,4,0,28,60,127],[],[]⟩),(16,⟨[0,1,2,3,4,5,6,7,8,9,10,11,12],[0,1,3,7,15,31,63,0,0,0,512,1792,4095],[],[]⟩)] }
def A44:List Item:=A7 Tryz.f52
def A10:List Item:=stk [0,1,0,1,0,1,0,0,1,4,5] A44
def Al8:List Item:=stk [0,1,0,1,0,1,0,1,0,0,1,4,5] A44
def Al7:List Item:=stk [0,1,0,1,0,1,0,1,0,0,1,4,5,6,0,1,0,4,0,1,0,1,0,1,4,5] A44
theorem Gh7 (C:A4) (R:A5) (b:List Value) (h:H) :
 A8 PR Aq4 C R E7 Tryz.f52 100000 true A44 [(0,.agg ⟨b⟩)] h =
 nw (.cells D8 false b) h fun b_1 w=>gAgg ⟨b_1,0,none⟩ 5 w fun x=>gSl (Addr.add ⟨b_1,0,none⟩ 0) w fun x_1 xn xc=>bnd (C Y5 [.slice x_1 xn xc] w) fun r w1=>aPtr r fun x_2=>gAgg ⟨b_1,0,none⟩ 5 w1 fun x_3=>same (.agg ⟨x⟩) (.agg ⟨x_3⟩) (ck (List.length x=5) (nw (.cells Ez5 false (x++(.pointer x_2::(.pointer none::(.slice none 0 0::[.int .i64 0]))))) w1 fun b_2 w2=>gPtr (Addr.add ⟨b_2,0,none⟩ 5) w2 fun x_4=>gSl (Addr.add ⟨b_1,0,none⟩ 0) w2 fun _ xn_1 _=>gSl (Addr.add ⟨b_1,0,none⟩ 1) w2 fun x_6 xn_2 xc_2=>bnd (C M6 [.pointer x_4,.int .i64 ((xn_1:Nat):Int)] w2) fun r_1 w3=>aInt .i64 r_1 fun x_7=>gSl (Addr.add ⟨b_1,0,none⟩ 1) w3 fun x_8 xn_3 xc_3=>same (.slice x_6 xn_2 xc_2) (.slice x_8 xn_3 xc_3) (ck ((0:Int)≤IntKind.wrap .i64 (64*x_7)∧(IntKind.wrap .i64 (64*x_7):Int)≤IntKind.wrap .i64 (64*x_7)∧IntKind.wrap .i64 (64*x_7)≤(B1:Int)) (nw (.cells A6 false (G8 (Int.toNat (IntKind.wrap .i64 (64*x_7))) [.int .u8 0])) w3 fun b_3 w4=>bnd (C Y4 [.int .i64 ((xn_2:Nat):Int)] w4) fun r_2 w5=>aPtr r_2 fun x_9=>nw (.cells D02 false [.slice (some ⟨b_3,0,none⟩) (Int.toNat (IntKind.wrap .i64 (64*x_7))) (Int.toNat (IntKind.wrap .i64 (64*x_7))),.slice none 0 0,.slice none 0 0,.pointer x_9]) w5 fun b_4 w6=>pV (Addr.add ⟨b_2,0,none⟩ 6) (.pointer (some ⟨b_4,0,none⟩)) w6 fun w7=>R E7 A10 [(1,.pointer (some ⟨b_1,0,none⟩)),(3,.pointer (some ⟨b_2,0,none⟩)),(4,.int .i64 0)] w7)))):=by kernel_rfl
theorem Dd2 (C:A4) (R:A5) (b:Addr) (k:Addr) (i:Int) (h:H) :
 A8 PR Aq4 C R E7 Tryz.f52 100000 true A10 [(1,.pointer (some b)),(3,.pointer (some k)),(4,.int .i64 i)] h =
 gSl (Addr.add b 2) h fun _ xn _=>cond (decide (i<((xn:Nat):Int)))
 (gSl (Addr.add k 7) h fun x_1 xn_1 xc_1=>gInt .i64 (Addr.add b 3) h fun x_2=>bnd (C Bi7 [.int .i64 x_2] h) fun r w=>aPtr r fun x_3=>gSl (Addr.add k 7) w fun x_4 xn_2 xc_2=>same (.slice x_1 xn_1 xc_1) (.slice x_4 xn_2 xc_2) (nw (.cells Ba0 false [.pointer x_3]) w fun b_1 w1=>gCells (some ⟨b_1,0,none⟩) (1*1) w1 fun cs=>ckB (fitsOpen x_1 Ba0 w1) (apd Ba0 1 x_1 xn_1 xc_1 1 cs w1 fun a an ac w2=>pV (Addr.add k 7) (.slice a an ac) w2 fun w3=>R E7 A10 [(1,.pointer (some b)),(3,.pointer (some k)),(4,.int .i64 (IntKind.wrap .i64 (i+1)))] w3)))
 (R E7 Al8 [(1,.pointer (some b)),(3,.pointer (some k)),(5,.int .i64 0)] h):=by kernel_rfl
theorem Dd7 (C:A4) (R:A5) (b:Addr) (k:Addr) (i:Int) (h:H) :
 A8 PR Aq4 C R E7 Tryz.f52 100000 true Al8 [(1,.pointer (some b)),(3,.pointer (some k)),(5,.int .i64 i)] h =
 gSl (Addr.add b 4) h fun _ xn _=>cond (decide (i<((xn:Nat):Int)))
 (gSl (Addr.add b 4) h fun x_1 xn_1 _=>aSome x_1 fun p=>ck ((0:Int)≤i∧i<((xn_1:Nat):Int)) (gAgg (Addr.add (B3 p) (Int.toNat i*5)) 5 h fun x_2=>nw (.cells H8 false [.int .i64 0,.int .i64 0,.int .i64 0,.int .i64 0,.slice none 0 0]) h fun b_1 w=>ck (List.length x_2=5) (pAgg ⟨b_1,0,none⟩ x_2 w fun w1=>gPtr (Addr.add k 6) w1 fun x_3=>gPtr (Addr.add k 5) w1 fun x_4=>gInt .i64 (Addr.add ⟨b_1,0,none⟩ 0) w1 fun x_5=>gInt .i64 (Addr.add ⟨b_1,0,none⟩ 1) w1 fun x_6=>gInt .i64 (Addr.add ⟨b_1,0,none⟩ 2) w1 fun x_7=>gInt .i64 (Addr.add ⟨b_1,0,none⟩ 3) w1 fun x_8=>bnd (C M6 [.pointer x_4,.int .i64 x_5] w1) fun r w2=>aInt .i64 r fun x_9=>gPtr (Addr.add k 6) w2 fun x_10=>same (.pointer x_3) (.pointer x_10) (gInt .i64 (Addr.add ⟨b_1,0,none⟩ 1) w2 fun x_11=>same (.int .i64 x_6) (.int .i64 x_11) (gInt .i64 (Addr.add ⟨b_1,0,none⟩ 2) w2 fun x_12=>same (.int .i64 x_7) (.int .i64 x_12) (gInt .i64 (Addr.add ⟨b_1,0,none⟩ 3) w2 fun x_13=>same (.int .i64 x_8) (.int .i64 x_13) (bnd (C Av0 [.pointer x_3,.int .i64 (IntKind.wrap .i64 ((IntKind.wrap .i64 (64*(IntKind.wrap .i64 (x_9+x_6))))+x_7)),.int .i64 x_8] w2) fun r_1 w3=>as2 r_1 fun r_2 r_3=>aInt .i64 r_2 fun x_14=>aInt .i64 r_3 fun _=>R E7 Al7 [(1,.pointer (some b)),(3,.pointer (some k)),(5,.int .i64 i),(6,.pointer (some ⟨b_1,0,none⟩)),(7,.int .i64 x_14),(9,.int .i64 0)] w3)))))))
 (some (.pointer (some k),h)):=by kernel_rfl
theorem De1 (C:A4) (R:A5) (b:Addr) (k:Addr) (i:Int) (s:Addr) (obj:Int) (e:Int) (h:H) :
 A8 PR Aq4 C R E7 Tryz.f52 100000 true Al7 [(1,.pointer (some b)),(3,.pointer (some k)),(5,.int .i64 i),(6,.pointer (some s)),(7,.int .i64 obj),(9,.int .i64 e)] h =
 gSl (Addr.add b 1) h fun _ xn _=>cond (decide (e<((xn:Nat):Int)))
 (gSl (Addr.add s 4) h fun x_1 xn_1 xc_1=>gSl (Addr.add b 1) h fun x_2 xn_2 _=>aSome x_2 fun p=>ck ((0:Int)≤e∧e<((xn_2:Nat):Int)) (gInt .i64 (Addr.add (B3 p) (Int.toNat e*1)) h fun x_3=>bnd (C A50 [.slice x_1 xn_1 xc_1,.int .i64 x_3] h) fun r w=>aBool r fun x_4=>cond x_4
 (gPtr (Addr.add k 6) w fun x_5=>aSome x_5 fun p_1=>gPtr (Addr.add p_1 3) w fun x_6=>gInt .i64 (Addr.add s 3) w fun x_7=>bnd (C A58 [.pointer x_6,.int .i64 e,.agg ⟨[.int .i64 obj,.int .i64 3,.int .i64 0,.int .i64 x_7,.int .i64 0,.int .i64 0]⟩] w) fun r_1 w1=>as2 r_1 fun r_2 r_3=>aInt .i64 r_2 fun _=>aInt .i64 r_3 fun _=>R E7 Al7 [(1,.pointer (some b)),(3,.pointer (some k)),(5,.int .i64 i),(6,.pointer (some s)),(7,.int .i64 obj),(9,.int .i64 (IntKind.wrap .i64 (e+1)))] w1)
 (R E7 Al7 [(1,.pointer (some b)),(3,.pointer (some k)),(5,.int .i64 i),(6,.pointer (some s)),(7,.int .i64 obj),(9,.int .i64 (IntKind.wrap .i64 (e+1)))] w)))
 (R E7 Al8 [(1,.pointer (some b)),(3,.pointer (some k)),(5,.int .i64 (IntKind.wrap .i64 (i+1)))] h):=by kernel_rfl
def Bf7:Cuts:={ globs:=0,loops:=[],regs:=[],plans:=[] }
def B99:List Item:=A7 Tryz.f55
theorem En5 (C:A4) (R:A5) (k:Option Addr) (env:Int) (h:H) :
 A8 PR Bf7 C R Ax5 Tryz.f55 100000 true B99 [(0,.pointer k),(1,.int .i64 env)] h =
 aSome k fun p=>gPtr (Addr.add p 6) h fun x=>aSome x fun p_1=>gPtr (Addr.add p_1 3) h fun x_1=>bnd (C A62 [.pointer x_1,.int .i64 env] h) fun r w=>aSl r fun x_2 xn xc=>cond (((xn:Nat):Int)==0)
 (some (.pointer none,w))
 (nw (.cells Dr6 false [.pointer k,.int .i64 env,.slice x_2 xn xc,.slice none 0 0]) w fun b w1=>some (.pointer (some ⟨b,0,none⟩),w1)):=by kernel_rfl
def Bm0:Cuts:={ globs:=0,loops:=[],regs:=[],plans:=[] }
def De2:List Item:=A7 Tryz.f56
theorem Ev1 (C:A4) (R:A5) (k:Option Addr) (h:H) :
 A8 PR Bm0 C R Al2 Tryz.f56 100000 true De2 [(0,.pointer k)] h =
 aSome k fun p=>gPtr (Addr.add p 3) h fun x=>some (.pointer x,h):=by kernel_rfl
def Bg0:Cuts:={ globs:=0,loops:=[],regs:=[],plans:=[] }
def Da3:List Item:=A7 Tryz.f57
theorem Em6 (C:A4) (R:A5) (s:Option Addr) (env:Int) (h:H) :
 A8 PR Bg0 C R Aj5 Tryz.f57 100000 true Da3 [(0,.pointer s),(1,.int .i64 env)] h =
 bnd (C Ae5 [.pointer s,.int .i64 env] h) fun r w=>aBool r fun x=>cond (!x)
 (some (.slice none 0 0,w))
 (aSome s fun p=>gSl (Addr.add p 0) w fun x_1 xn _=>aSome x_1 fun p_1=>ck ((0:Int)≤env∧env<((xn:Nat):Int)) (gPtr (Addr.add (B3 p_1) (Int.toNat env*1)) w fun x_2=>bnd (C E5 [.pointer x_2] w) fun r_1 w1=>aSl r_1 fun x_3 xn_1 xc_1=>some (.slice x_3 xn_1 xc_1,w1))):=by kernel_rfl
def Ax9:Cuts:={ globs:=0,loops:=[],regs:=[],plans:=[] }
def Bm5:List Item:=A7 Tryz.f63
theorem Dz0 (C:A4) (R:A5) (c:Option Addr) (kind:Int) (h:H) :
 A8 PR Ax9 C R Z0 Tryz.f63 100000 true Bm5 [(0,.pointer c),(1,.int .i64 kind)] h =
 cond (kind==1)
 (some (.int .i64 8,h))
 (cond (kind==2)
 (some (.int .i64 12,h))
 (cond (kind==3)
 (aSome c fun p=>gSl (Addr.add p 2) h fun _ xn _=>some (.int .i64 (IntKind.wrap .i64 ((IntKind.wrap .i64 (4+((xn:Nat):Int)))-1)),h))
 (some (.int .i64 1,h)))):=by kernel_rfl
def Bg7:Cuts:={ globs:=0,loops:=[],regs:=[],plans:=[(3,⟨[0,1,2,3,4,5,6,7,8,9,10,11,12,13,14,15,16,17,18,19],[0,1,3,7,0,0,32,0,128,0,512,0,2048,0,8192,32767,65535,65535,262143,524287],[],[]⟩),(5,⟨[0,1,2,3,4,5,6,7,8,9,10,11],[0,1,3,7,0,0,32,127,255,255,1023,2047],[],[]⟩),(7,⟨[0,1,2,3,4,5,6,7,8,9,10,11,12,13,14,15],[0,1,3,7,0,16,48,112,0,496,1008,2047,4095,4095,16383,32767],[],[]⟩),(9,⟨[0,1,2,3,4,5,6,7,8,9,10,11,12,13,14,15],[0,1,3,7,0,16,48,112,0,496,1008,0,2048,8191,16383,32767],[],[]⟩)] }
def B81:List Item:=A7 Tryz.f68
theorem El2 (C:A4) (R:A5) (k:Option Addr) (env:Int) (c:List Value) (h:H) :
 A8 PR Bg7 C R Ax0 Tryz.f68 100000 true B81 [(0,.pointer k),(1,.int .i64 env),(2,.agg ⟨c⟩)] h =
 nw (.cells Aw4 false c) h fun b w=>gInt .i64 (Addr.add ⟨b,0,none⟩ 0) w fun x=>cond (x==4)
 (aSome k fun p=>gPtr (Addr.add p 3) w fun x_1=>gInt .i64 (Addr.add ⟨b,0,none⟩ 1) w fun x_2=>gInt .i64 (Addr.add ⟨b,0,none⟩ 4) w fun x_3=>gInt .i64 (Addr.add ⟨b,0,none⟩ 5) w fun x_4=>gInt .i64 (Addr.add ⟨b,0,none⟩ 2) w fun x_5=>gInt .i64 (Addr.add ⟨b,0,none⟩ 3) w fun x_6=>bnd (C Av8 [.pointer x_1,.int .i64 env,.int .i64 x_2,.int .i64 x_3,.int .i64 x_4,.int .i64 x_5,.int .i64 x_6] w) fun r w1=>as2 r fun r_1 r_2=>aInt .i64 r_1 fun x_7=>aInt .i64 r_2 fun x_8=>some (.tuple ⟨[.int .i64 x_7,.int .i64 x_8]⟩,w1))
 (cond (x==5)
 (aSome k fun p_1=>gPtr (Addr.add p_1 3) w fun x_9=>gInt .i64 (Addr.add ⟨b,0,none⟩ 1) w fun x_10=>bnd (C Ee9 [.pointer x_9,.int .i64 env,.int .i64 x_10] w) fun r_3 w2=>as2 r_3 fun r_4 r_5=>aInt .i64 r_4 fun x_11=>aInt .i64 r_5 fun x_12=>some (.tuple ⟨[.int .i64 x_11,.int .i64 x_12]⟩,w2))
 (cond (x==6)
 (aSome k fun p_2=>gPtr (Addr.add p_2 4) w fun x_13=>aSome k fun p_3=>gSl (Addr.add p_3 0) w fun x_14 xn _=>aSome x_14 fun p_4=>ck ((0:Int)≤env∧env<((xn:Nat):Int)) (gInt .i64 (Addr.add (B3 p_4) (Int.toNat env*1)) w fun x_15=>bnd (C At2 [.pointer x_13,.int .i64 x_15] w) fun r_6 w3=>as2 r_6 fun r_7 r_8=>aInt .i64 r_7 fun x_16=>aInt .i64 r_8 fun x_17=>some (.tuple ⟨[.int .i64 x_16,.int .i64 x_17]⟩,w3)))
 (cond (x==7)
 (aSome k fun p_5=>gPtr (Addr.add p_5 4) w fun x_18=>aSome k fun p_6=>gSl (Addr.add p_6 0) w fun x_19 xn_1 _=>aSome x_19 fun p_7=>ck ((0:Int)≤env∧env<((xn_1:Nat):Int)) (gInt .i64 (Addr.add (B3 p_7) (Int.toNat env*1)) w fun x_20=>gInt .i64 (Addr.add ⟨b,0,none⟩ 3) w fun x_21=>bnd (C Av4 [.pointer x_18,.int .i64 x_20,.int .i64 x_21] w) fun r_9 w4=>aInt .i64 r_9 fun x_22=>some (.tuple ⟨[.int .i64 0,.int .i64 x_22]⟩,w4)))
 (cond (x==8)
 (gAgg ⟨b,0,none⟩ 7 w fun x_23=>bnd (C A06 [.pointer k,.int .i64 env,.agg ⟨x_23⟩] w) fun r_10 w5=>as2 r_10 fun r_11 r_12=>aInt .i64 r_11 fun x_24=>aInt .i64 r_12 fun x_25=>some (.tuple ⟨[.int .i64 x_24,.int .i64 x_25]⟩,w5))
 (cond (x==9)
 (gAgg ⟨b,0,none⟩ 7 w fun x_26=>bnd (C A09 [.pointer k,.int .i64 env,.agg ⟨x_26⟩] w) fun r_13 w6=>aInt .i64 r_13 fun x_27=>some (.tuple ⟨[.int .i64 0,.int .i64 x_27]⟩,w6))
 (cond (x==10)
 (aSome k fun p_8=>gInt .i64 (Addr.add p_8 7) w fun x_28=>some (.tuple ⟨[.int .i64 x_28,.int .i64 0]⟩,w))
 (some (.tuple ⟨[.int .i64 0,.int .i64 7]⟩,w)))))))):=by kernel_rfl
def B54:Cuts:={ globs:=0,loops:=[],regs:=[],plans:=[] }
def D24:List Item:=A7 Tryz.f75
theorem Ge0 (C:A4) (R:A5) (i:Int) (h:H) :
 A8 PR B54 C R Aq7 Tryz.f75 100000 true D24 [(0,.int .i64 i)] h =
 nw (.cells D6 false [.int .i64 0,.int .i64 0]) h fun b w=>pAgg ⟨b,0,none⟩ [.int .i64 2,.int .i64 i] w fun w1=>gAgg ⟨b,0,none⟩ 2 w1 fun x=>some (.agg ⟨x⟩,w1):=by kernel_rfl
def B26:Cuts:={ globs:=0,loops:=[],regs:=[],plans:=[] }
def D11:List Item:=A7 Tryz.f79
theorem Gh5 (C:A4) (R:A5) (m:Option Addr) (atv:Int) (n:Int) (h:H) :
 A8 PR B26 C R A21 Tryz.f79 100000 true D11 [(0,.pointer m),(1,.int .i64 atv),(2,.int .i64 n)] h =
 bnd (C Be5 [.pointer m,.int .i64 atv,.int .i64 n] h) fun r w=>aBool r fun x=>cond (!x)
 (some (.tuple ⟨[.slice none 0 0,.int .i64 1]⟩,w))
 (aSome m fun p=>gSl (Addr.add p 0) w fun x_1 _ xc=>ckB (fitsOpen x_1 A6 w) (ck ((0:Int)≤IntKind.wrap .i64 (atv+n)∧IntKind.wrap .i64 (atv+n)≤((xc:Nat):Int)) (ck ((0:Int)≤atv∧atv≤((Int.toNat (IntKind.wrap .i64 (atv+n)):Nat):Int)) (bnd (C G0 [.slice (H5 x_1 (decide (Int.toNat atv<xc)) ((Int.toNat atv)*1)) ((Int.toNat (IntKind.wrap .i64 (atv+n)))-(Int.toNat atv)) (xc-(Int.toNat atv))] w) fun r_1 w1=>aSl r_1 fun x_2 xn_1 xc_1=>some (.tuple ⟨[.slice x_2 xn_1 xc_1,.int .i64 0]⟩,w1))))):=by kernel_rfl
def Du8:Cuts:={ globs:=0,loops:=[],regs:=[],plans:=[] }
def Ez9:List Item:=A7 Tryz.f80
theorem Hc6 (C:A4) (R:A5) (e:Int) (h:H) :
 A8 PR Du8 C R Ay3 Tryz.f80 100000 true Ez9 [(0,.int .i64 e)] h =
 nw (.cells V0 false [.int .i64 0,.int .i64 0,.slice none 0 0,.bool false]) h fun b w=>pAgg ⟨b,0,none⟩ [.int .i64 0,.int .i64 e,.slice none 0 0,.bool false] w fun w1=>gAgg ⟨b,0,none⟩ 4 w1 fun x=>some (.agg ⟨x⟩,w1):=by kernel_rfl
def A43:Cuts:={ globs:=0,loops:=[(3,[0,3,5,17,18]),(9,[0,5,31,32]),(19,[0,57,58])],regs:=[],plans:=[(15,⟨[0,1,2,3,4,5,6,7,8],[0,1,0,4,12,28,63,127,255],[],[]⟩)] }
def Bh4:List Item:=A7 Tryz.f82
def Av7:List Item:=stk [0,1,0,1,0,0,1,4,5] Bh4
def Aj8:List Item:=stk [0,1,0,1,0,1,0,0,1,4,5] Bh4
def Aj9:List Item:=stk [0,1,0,1,0,1,0,1,0,0,1,4,5] Bh4
theorem Gu1 (C:A4) (R:A5) (c:Option Addr) (p:List Value) (h:H) :
 A8 PR A43 C R E9 Tryz.f82 100000 true Bh4 [(0,.pointer c),(1,.agg ⟨p⟩)] h =
 nw (.cells D1 false p) h fun b w=>nw (.cells D60 false [.int .i64 0,.int .i64 0,.int .i64 0,.int .i64 0,.int .i64 0,.int .i64 0,.int .i64 0,.int .i64 0,.int .i64 0,.int .i64 0,.int .i64 0,.int .i64 0]) w fun b_1 w1=>gAgg (Addr.add ⟨b,0,none⟩ 8) 8 w1 fun x=>R E9 Av7 [(0,.pointer c),(3,.pointer (some ⟨b,0,none⟩)),(5,.pointer (some ⟨b_1,0,none⟩)),(17,.agg ⟨x⟩),(18,.int .i64 0)] w1:=by kernel_rfl
theorem Ds4 (C:A4) (R:A5) (c:Option Addr) (p:Addr) (more:Addr) (x17:List Value) (x18:Int) (h:H) :
 A8 PR A43 C R E9 Tryz.f82 100000 true Av7 [(0,.pointer c),(3,.pointer (some p)),(5,.pointer (some more)),(17,.agg ⟨x17⟩),(18,.int .i64 x18)] h =
 cond (decide (x18<8))
 (ck ((0:Int)≤x18∧x18<((8:Nat):Int)) (nth x17 (Int.toNat x18*1) fun x=>aInt .i64 x fun x_1=>cond (decide (x_1>0))
 (ck ((0:Int)≤IntKind.wrap .i64 (x_1-1)∧IntKind.wrap .i64 (x_1-1)<((12:Nat):Int)) (gInt .i64 (Addr.add more (Int.toNat (IntKind.wrap .i64 (x_1-1))*1)) h fun x_2=>ck ((0:Int)≤IntKind.wrap .i64 (x_1-1)∧IntKind.wrap .i64 (x_1-1)<((12:Nat):Int)) (pV (Addr.add more (Int.toNat (IntKind.wrap .i64 (x_1-1))*1)) (.int .i64 (IntKind.wrap .i64 (x_2+1))) h fun w=>R E9 Av7 [(0,.pointer c),(3,.pointer (some p)),(5,.pointer (some more)),(17,.agg ⟨x17⟩),(18,.int .i64 (IntKind.wrap .i64 (x18+1)))] w)))
 (R E9 Av7 [(0,.pointer c),(3,.pointer (some p)),(5,.pointer (some more)),(17,.agg ⟨x17⟩),(18,.int .i64 (IntKind.wrap .i64 (x18+1)))] h)))
 (gAgg (Addr.add p 8) 8 h fun x_3=>R E9 Aj8 [(0,.pointer c),(5,.pointer (some more)),(31,.agg ⟨x_3⟩),(32,.int .i64 0)] h):=by kernel_rfl
theorem Dq3 (C:A4) (R:A5) (c:Option Addr) (more:Addr) (x31:List Value) (x32:Int) (h:H) :
 A8 PR A43 C R E9 Tryz.f82 100000 true Aj8 [(0,.pointer c),(5,.pointer (some more)),(31,.agg ⟨x31⟩),(32,.int .i64 x32)] h =
 cond (decide (x32<8))
 (ck ((0:Int)≤x32∧x32<((8:Nat):Int)) (nth x31 (Int.toNat x32*1) fun x=>aInt .i64 x fun x_1=>cond (x_1==0)
 (R E9 Aj8 [(0,.pointer c),(5,.pointer (some more)),(31,.agg ⟨x31⟩),(32,.int .i64 (IntKind.wrap .i64 (x32+1)))] h)
 (bnd (C H9 [.pointer c,.int .i64 (IntKind.wrap .i64 (x_1-1))] h) fun r w=>as2 r fun r_1 r_2=>aAgg r_1 fun x_2=>aInt .i64 r_2 fun x_3=>nw (.cells E1 false [.int .i64 0,.int .i64 0,.int .i64 0,.int .i64 0]) w fun b w1=>ck (List.length x_2=4) (pAgg ⟨b,0,none⟩ x_2 w1 fun w2=>cond (x_3 != 1)
 (some (.int .i64 105,w2))
 (gInt .i64 (Addr.add ⟨b,0,none⟩ 2) w2 fun x_4=>ck ((0:Int)≤IntKind.wrap .i64 (x_1-1)∧IntKind.wrap .i64 (x_1-1)<((12:Nat):Int)) (gInt .i64 (Addr.add more (Int.toNat (IntKind.wrap .i64 (x_1-1))*1)) w2 fun x_5=>cond (decide ((IntKind.wrap .i64 (x_4+x_5))>64))
 (some (.int .i64 123,w2))
 (R E9 Aj8 [(0,.pointer c),(5,.pointer (some more)),(31,.agg ⟨x31⟩),(32,.int .i64 (IntKind.wrap .i64 (x32+1)))] w2)))))))
 (gAgg more 12 h fun x_6=>R E9 Aj9 [(0,.pointer c),(57,.agg ⟨x_6⟩),(58,.int .i64 0)] h):=by kernel_rfl
theorem Ds9 (C:A4) (R:A5) (c:Option Addr) (x57:List Value) (x58:Int) (h:H) :
 A8 PR A43 C R E9 Tryz.f82 100000 true Aj9 [(0,.pointer c),(57,.agg ⟨x57⟩),(58,.int .i64 x58)] h =
 cond (decide (x58<12))
 (ck ((0:Int)≤x58∧x58<((12:Nat):Int)) (nth x57 (Int.toNat x58*1) fun x=>aInt .i64 x fun x_1=>cond (x_1==0)
 (R E9 Aj9 [(0,.pointer c),(57,.agg ⟨x57⟩),(58,.int .i64 (IntKind.wrap .i64 (x58+1)))] h)
 (bnd (C H9 [.pointer c,.int .i64 x58] h) fun r w=>as2 r fun r_1 r_2=>aAgg r_1 fun x_2=>aInt .i64 r_2 fun _=>nw (.cells E1 false [.int .i64 0,.int .i64 0,.int .i64 0,.int .i64 0]) w fun b w1=>ck (List.length x_2=4) (pAgg ⟨b,0,none⟩ x_2 w1 fun w2=>gInt .i64 (Addr.add ⟨b,0,none⟩ 2) w2 fun x_4=>pV (Addr.add ⟨b,0,none⟩ 2) (.int .i64 (IntKind.wrap .i64 (x_4+x_1))) w2 fun w3=>gAgg ⟨b,0,none⟩ 4 w3 fun x_5=>bnd (C I9 [.pointer c,.int .i64 x58,.agg ⟨x_5⟩] w3) fun r_3 w4=>aBool r_3 fun x_6=>cond (!x_6)
 (some (.int .i64 105,w4))
 (R E9 Aj9 [(0,.pointer c),(57,.agg ⟨x57⟩),(58,.int .i64 (IntKind.wrap .i64 (x58+1)))] w4)))))
 (some (.int .i64 0,h)):=by kernel_rfl
def De5:Cuts:={ globs:=0,loops:=[(3,[0,1,2,7,8])],regs:=[],plans:=[] }
def Ea0:List Item:=A7 Tryz.f99
def A93:List Item:=stk [0,1,0,1,0,0,1,4,5] Ea0
theorem Hk6 (C:A4) (R:A5) (n:Int) (want:Int) (isv:Value) (h:H) :
 A8 PR De5 C R W2 Tryz.f99 100000 true Ea0 [(0,.int .i64 n),(1,.int .i64 want),(2,isv)] h =
 R W2 A93 [(0,.int .i64 n),(1,.int .i64 want),(2,isv),(7,.slice none 0 0),(8,.int .i64 0)] h:=by kernel_rfl
theorem Db5 (C:A4) (R:A5) (n:Int) (want:Int) (isv:Value) (out:Option Addr) (outn outc:Nat) (i:Int) (h:H) :
 A8 PR De5 C R W2 Tryz.f99 100000 true A93 [(0,.int .i64 n),(1,.int .i64 want),(2,isv),(7,.slice out outn outc),(8,.int .i64 i)] h =
 bnd (cond (decide (i<n)) (some (decide (((outn:Nat):Int)<want),h)) (some (false,h))) fun c w=>cond c
 (aFn isv fun g fi cp=>bnd (C g (fi++([.int .i64 i]++cp)) w) fun r w1=>aBool r fun x=>cond x
 (nw (.cells B5 false [.int .i64 i]) w1 fun b w2=>gCells (some ⟨b,0,none⟩) (1*1) w2 fun cs=>ckB (fitsOpen out B5 w2) (apd B5 1 out outn outc 1 cs w2 fun a an ac w3=>R W2 A93 [(0,.int .i64 n),(1,.int .i64 want),(2,isv),(7,.slice a an ac),(8,.int .i64 (IntKind.wrap .i64 (i+1)))] w3))
 (R W2 A93 [(0,.int .i64 n),(1,.int .i64 want),(2,isv),(7,.slice out outn outc),(8,.int .i64 (IntKind.wrap .i64 (i+1)))] w1))
 (some (.slice out outn outc,w)):=by kernel_rfl
def A52:Cuts:={ globs:=0,loops:=[],regs:=[(18,[0,5,7])],plans:=[] }
def Bt4:List Item:=A7 Tryz.f107
def At0:List Item:=stk [0,1,0,1,0,1,0,1,0,1,0,1,0,1,0,1,0,1,0,1,0,0] Bt4
theorem E00 (C:A4) (R:A5) (c:Option Addr) (f:Int) (h:H) :
 A8 PR A52 C R U7 Tryz.f107 100000 true Bt4 [(0,.pointer c),(1,.int .i64 f)] h =
 bnd (C B8 [.pointer c] h) fun r w=>as0 r (bnd (C H9 [.pointer c,.int .i64 f] w) fun r_1 w1=>as2 r_1 fun r_2 r_3=>aAgg r_2 fun x=>aInt .i64 r_3 fun x_1=>nw (.cells E1 false [.int .i64 0,.int .i64 0,.int .i64 0,.int .i64 0]) w1 fun b w2=>ck (List.length x=4) (pAgg ⟨b,0,none⟩ x w2 fun w3=>cond (x_1 != 1)
 (some (.int .i64 105,w3))
 (gInt .i64 (Addr.add ⟨b,0,none⟩ 2) w3 fun x_2=>pV (Addr.add ⟨b,0,none⟩ 2) (.int .i64 (IntKind.wrap .i64 (x_2-1))) w3 fun w4=>gInt .i64 (Addr.add ⟨b,0,none⟩ 2) w4 fun x_3=>cond (decide (x_3>0))
 (gAgg ⟨b,0,none⟩ 4 w4 fun x_4=>bnd (C I9 [.pointer c,.int .i64 f,.agg ⟨x_4⟩] w4) fun r_4 w5=>aBool r_4 fun x_5=>bnd (C Ay0 [.bool x_5,.int .i64 0] w5) fun r_5 w6=>aAgg r_5 fun x_6=>nth x_6 1 fun E=>aInt .i64 E fun E_1=>some (.int .i64 E_1,w6))
 (bnd (C Z9 [.pointer c,.int .i64 f] w4) fun r_6 w7=>aBool r_6 fun x_7=>cond (!x_7)
 (some (.int .i64 105,w7))
 (gInt .i64 (Addr.add ⟨b,0,none⟩ 0) w7 fun x_8=>cond (x_8==3)
 (some (.int .i64 0,w7))
 (gInt .i64 (Addr.add ⟨b,0,none⟩ 1) w7 fun x_9=>bnd (C Q2 [.pointer c,.int .i64 x_9] w7) fun r_7 w8=>as2 r_7 fun r_8 r_9=>aAgg r_8 fun x_10=>aInt .i64 r_9 fun x_11=>nw (.cells H1 false [.int .i64 0,.int .i64 0,.int .i64 0,.int .i64 0,.int .u8 0,.int .u8 0,.int .u8 0,.int .u8 0,.int .u8 0,.int .u8 0,.int .u8 0,.int .u8 0,.int .u8 0,.int .u8 0,.int .u8 0,.int .u8 0,.int .u8 0,.int .u8 0,.int .u8 0,.int .u8 0,.int .u8 0,.int .u8 0,.int .u8 0,.int .u8 0,.int .u8 0,.int .u8 0,.int .u8 0,.int .u8 0,.int .u8 0,.int .u8 0,.int .u8 0,.int .u8 0,.int .u8 0,.int .u8 0,.int .u8 0,.int .u8 0]) w8 fun b_1 w9=>ck (List.length x_10=36) (pAgg ⟨b_1,0,none⟩ x_10 w9 fun w10=>cond (x_11 != 1)
 (some (.int .i64 105,w10))
 (gInt .i64 (Addr.add ⟨b,0,none⟩ 0) w10 fun x_12=>cond (x_12==1)
 (gInt .i64 (Addr.add ⟨b_1,0,none⟩ 2) w10 fun x_13=>pV (Addr.add ⟨b_1,0,none⟩ 2) (.int .i64 (mm2 true (IntKind.wrap .i64 (x_13-1)) 0)) w10 fun w11=>R U7 At0 [(0,.pointer c),(5,.pointer (some ⟨b,0,none⟩)),(7,.pointer (some ⟨b_1,0,none⟩))] w11)
 (gInt .i64 (Addr.add ⟨b_1,0,none⟩ 3) w10 fun x_14=>pV (Addr.add ⟨b_1,0,none⟩ 3) (.int .i64 (mm2 true (IntKind.wrap .i64 (x_14-1)) 0)) w10 fun w12=>R U7 At0 [(0,.pointer c),(5,.pointer (some ⟨b,0,none⟩)),(7,.pointer (some ⟨b_1,0,none⟩))] w12))))))))):=by kernel_rfl
theorem Ee3 (C:A4) (R:A5) (c:Option Addr) (x:Addr) (p:Addr) (h:H) :
 A8 PR A52 C R U7 Tryz.f107 100000 true At0 [(0,.pointer c),(5,.pointer (some x)),(7,.pointer (some p))] h =
 gInt .i64 (Addr.add p 2) h fun x_1=>gInt .i64 (Addr.add p 3) h fun x_2=>bnd (cond ((IntKind.wrap .i64 (x_1+x_2))==0) (gInt .i64 (Addr.add x 1) h fun x_3=>some (decide (x_3<4),h)) (some (false,h))) fun c_1 w=>cond c_1
 (gInt .i64 (Addr.add x 1) w fun x_4=>bnd (C Aa1 [.pointer c,.int .i64 x_4] w) fun r w1=>aBool r fun x_5=>bnd (C Ay0 [.bool x_5,.int .i64 0] w1) fun r_1 w2=>aAgg r_1 fun x_6=>nth x_6 1 fun E=>aInt .i64 E fun E_1=>some (.int .i64 E_1,w2))
 (gInt .i64 (Addr.add x 1) w fun x_7=>gAgg p 36 w fun x_8=>bnd (C R0 [.pointer c,.int .i64 x_7,.agg ⟨x_8⟩] w) fun r_2 w3=>aBool r_2 fun x_9=>bnd (C Ay0 [.bool x_9,.int .i64 0] w3) fun r_3 w4=>aAgg r_3 fun x_10=>nth x_10 1 fun E_2=>aInt .i64 E_2 fun E_3=>some (.int .i64 E_3,w4)):=by kernel_rfl
def Be4:Cuts:={ globs:=0,loops:=[(7,[1,3,52,53,54]),(13,[1,3,63,64,65])],regs:=[],plans:=[] }
def Bw7:List Item:=A7 Tryz.f110
def Bd7:List Item:=stk [0,1,0,1,0,1,0,1,0,0,1,4,5] Bw7
def Bd9:List Item:=stk [0,1,0,1,0,1,0,1,0,1,0,0,1,4,5] Bw7
theorem G27 (C:A4) (R:A5) (c:List Value) (h:H) :
 A8 PR Be4 C R P7 Tryz.f110 100000 true Bw7 [(0,.agg ⟨c⟩)] h =
 nw (.cells D8 false c) h fun b w=>gSl (Addr.add ⟨b,0,none⟩ 0) w fun _ xn _=>bnd (cond (decide (((xn:Nat):Int)<1)) (some (true,w)) (gSl (Addr.add ⟨b,0,none⟩ 0) w fun _ xn_1 _=>some (decide (((xn_1:Nat):Int)>4),w))) fun c_1 w1=>bnd (cond c_1 (some (true,w1)) (gSl (Addr.add ⟨b,0,none⟩ 1) w1 fun _ xn_2 _=>some (decide (((xn_2:Nat):Int)>40),w1))) fun c_2 w2=>bnd (cond c_2 (some (true,w2)) (gSl (Addr.add ⟨b,0,none⟩ 2) w2 fun _ xn_3 _=>some (decide (((xn_3:Nat):Int)>8),w2))) fun c_3 w3=>bnd (cond c_3 (some (true,w3)) (gSl (Addr.add ⟨b,0,none⟩ 4) w3 fun _ xn_4 _=>some (decide (((xn_4:Nat):Int)>16),w3))) fun c_4 w4=>bnd (cond c_4 (some (true,w4)) (gInt .i64 (Addr.add ⟨b,0,none⟩ 3) w4 fun x_5=>some (decide (x_5<1),w4))) fun c_5 w5=>bnd (cond c_5 (some (true,w5)) (gInt .i64 (Addr.add ⟨b,0,none⟩ 3) w5 fun x_6=>some (decide (x_6>1000),w5))) fun c_6 w6=>cond c_6
 (some (.bool false,w6))
 (gSl (Addr.add ⟨b,0,none⟩ 1) w6 fun x_7 xn_5 xc_5=>bnd (C E2 [.slice x_7 xn_5 xc_5,.func (.func G2) ⟨[]⟩ ⟨[.pointer (some ⟨b,0,none⟩)]⟩] w6) fun r w7=>aBool r fun x_8=>cond x_8
 (some (.bool false,w7))
 (gSl (Addr.add ⟨b,0,none⟩ 2) w7 fun x_9 xn_6 xc_6=>R P7 Bd7 [(1,.pointer (some ⟨b,0,none⟩)),(3,.func (.func G2) ⟨[]⟩ ⟨[.pointer (some ⟨b,0,none⟩)]⟩),(52,.slice x_9 xn_6 xc_6),(53,.int .i64 ((xn_6:Nat):Int)),(54,.int .i64 0)] w7)):=by kernel_rfl
theorem Dr9 (C:A4) (R:A5) (c:Addr) (nonev:Addr) (x52:Option Addr) (x52n x52c:Nat) (x53:Int) (x54:Int) (h:H) :
 A8 PR Be4 C R P7 Tryz.f110 100000 true Bd7 [(1,.pointer (some c)),(3,.func (.func G2) ⟨[]⟩ ⟨[.pointer (some nonev)]⟩),(52,.slice x52 x52n x52c),(53,.int .i64 x53),(54,.int .i64 x54)] h =
 cond (decide (x54<x53))
 (aSome x52 fun p=>ck ((0:Int)≤x54∧x54<((x52n:Nat):Int)) (gSl (Addr.add (B3 p) (Int.toNat x54*1)) h fun x xn xc=>bnd (C E2 [.slice x xn xc,.func (.func G2) ⟨[]⟩ ⟨[.pointer (some nonev)]⟩] h) fun r w=>aBool r fun x_1=>cond x_1
 (some (.bool false,w))
 (R P7 Bd7 [(1,.pointer (some c)),(3,.func (.func G2) ⟨[]⟩ ⟨[.pointer (some nonev)]⟩),(52,.slice x52 x52n x52c),(53,.int .i64 x53),(54,.int .i64 (IntKind.wrap .i64 (x54+1)))] w)))
 (gSl (Addr.add c 4) h fun x_2 xn_1 xc_1=>R P7 Bd9 [(1,.pointer (some c)),(3,.func (.func G2) ⟨[]⟩ ⟨[.pointer (some nonev)]⟩),(63,.slice x_2 xn_1 xc_1),(64,.int .i64 ((xn_1:Nat):Int)),(65,.int .i64 0)] h):=by kernel_rfl
theorem Ds8 (C:A4) (R:A5) (c:Addr) (nonev:Addr) (x63:Option Addr) (x63n x63c:Nat) (x64:Int) (x65:Int) (h:H) :
 A8 PR Be4 C R P7 Tryz.f110 100000 true Bd9 [(1,.pointer (some c)),(3,.func (.func G2) ⟨[]⟩ ⟨[.pointer (some nonev)]⟩),(63,.slice x63 x63n x63c),(64,.int .i64 x64),(65,.int .i64 x65)] h =
 cond (decide (x65<x64))
 (aSome x63 fun p=>ck ((0:Int)≤x65∧x65<((x63n:Nat):Int)) (gAgg (Addr.add (B3 p) (Int.toNat x65*5)) 5 h fun x=>nw (.cells H8 false [.int .i64 0,.int .i64 0,.int .i64 0,.int .i64 0,.slice none 0 0]) h fun b w=>ck (List.length x=5) (pAgg ⟨b,0,none⟩ x w fun w1=>gAgg c 5 w1 fun x_1=>gAgg ⟨b,0,none⟩ 5 w1 fun x_2=>bnd (C By6 [.agg ⟨x_1⟩,.agg ⟨x_2⟩] w1) fun r w2=>aBool r fun x_3=>bnd (cond (!x_3) (some (true,w2)) (gSl (Addr.add ⟨b,0,none⟩ 4) w2 fun x_4 xn xc=>bnd (C E2 [.slice x_4 xn xc,.func (.func G2) ⟨[]⟩ ⟨[.pointer (some nonev)]⟩] w2) fun r_1 w3=>aBool r_1 fun x_5=>some (x_5,w3))) fun c_1 w4=>cond c_1
 (some (.bool false,w4))
 (R P7 Bd9 [(1,.pointer (some c)),(3,.func (.func G2) ⟨[]⟩ ⟨[.pointer (some nonev)]⟩),(63,.slice x63 x63n x63c),(64,.int .i64 x64),(65,.int .i64 (IntKind.wrap .i64 (x65+1)))] w4))))
 (some (.bool true,h)):=by kernel_rfl
def Be2:Cuts:={ globs:=0,loops:=[(3,[0,3,4])],regs:=[],plans:=[(5,⟨[0,1,2,3,4,5,6,7,8,9,10,11,12,13,14,15,16],[0,0,2,6,14,0,0,96,224,480,992,2016,4064,8190,16383,32767,65535],[],[]⟩)] }
def Bx4:List Item:=A7 Tryz.f122
def Aw6:List Item:=stk [0,1,0,1,0,0,1,4,5] Bx4
theorem Gb6 (C:A4) (R:A5) (l:Option Addr) (ln lc:Nat) (h:H) :
 A8 PR Be2 C R Y5 Tryz.f122 100000 true Bx4 [(0,.slice l ln lc)] h =
 nw (.cells Ei3 false [.slice none 0 0]) h fun b w=>R Y5 Aw6 [(0,.slice l ln lc),(3,.pointer (some ⟨b,0,none⟩)),(4,.int .i64 0)] w:=by kernel_rfl
theorem B80 (C:A4) (R:A5) (l:Option Addr) (ln lc:Nat) (q:Addr) (i:Int) (h:H) :
 A8 PR Be2 C R Y5 Tryz.f122 100000 true Aw6 [(0,.slice l ln lc),(3,.pointer (some q)),(4,.int .i64 i)] h =
 bnd (cond (decide (i<((ln:Nat):Int))) (some (decide (i<4),h)) (some (false,h))) fun c w=>cond c
 (gSl (Addr.add q 0) w fun x xn xc=>aSome l fun p=>ck ((0:Int)≤i∧i<((ln:Nat):Int)) (gInt .i64 (Addr.add (B3 p) (Int.toNat i*1)) w fun x_1=>ck ((0:Int)≤mm2 false (mm2 true x_1 0) 64∧(mm2 false (mm2 true x_1 0) 64:Int)≤mm2 false (mm2 true x_1 0) 64∧mm2 false (mm2 true x_1 0) 64≤(B1:Int)) (nw (.cells E61 false (G8 (Int.toNat (mm2 false (mm2 true x_1 0) 64)) [.bool false])) w fun b w1=>nw (.cells Dl4 false [.slice (some ⟨b,0,none⟩) (Int.toNat (mm2 false (mm2 true x_1 0) 64)) (Int.toNat (mm2 false (mm2 true x_1 0) 64))]) w1 fun b_1 w2=>gCells (some ⟨b_1,0,none⟩) (1*1) w2 fun cs=>ckB (fitsOpen x Dl4 w2) (apd Dl4 1 x xn xc 1 cs w2 fun a an ac w3=>pV (Addr.add q 0) (.slice a an ac) w3 fun w4=>R Y5 Aw6 [(0,.slice l ln lc),(3,.pointer (some q)),(4,.int .i64 (IntKind.wrap .i64 (i+1)))] w4))))
 (some (.pointer (some q),w)):=by kernel_rfl
def Bg4:Cuts:={ globs:=0,loops:=[],regs:=[],plans:=[(5,⟨[0,1,2,3,4,5,6,7,9,10,11,12,13,14,8,15,16,17,18,19,20,21],[0,0,0,4,12,28,0,64,252,0,512,1536,3584,0,8192,32764,65533,131069,262141,524287,1048575,2097151],[(8,[12])],[]⟩)] }
def Da1:List Item:=A7 Tryz.f126
theorem Eg4 (C:A4) (R:A5) (r:Option Addr) (lo:Int) (n:Int) (h:H) :
 A8 PR Bg4 C R Av0 Tryz.f126 100000 true Da1 [(0,.pointer r),(1,.int .i64 lo),(2,.int .i64 n)] h =
 aSome r fun p=>gSl (Addr.add p 0) h fun _ xn _=>bnd (C Af2 [.int .i64 lo,.int .i64 n,.int .i64 ((xn:Nat):Int)] h) fun r_1 w=>aBool r_1 fun x_1=>cond (!x_1)
 (some (.tuple ⟨[.int .i64 0,.int .i64 1]⟩,w))
 (aSome r fun p_1=>gSl (Addr.add p_1 1) w fun _ xn_1 _=>cond (decide (((xn_1:Nat):Int)≥32))
 (some (.tuple ⟨[.int .i64 0,.int .i64 4]⟩,w))
 (aSome r fun p_2=>gSl (Addr.add p_2 1) w fun x_3 xn_2 xc_2=>nw (.cells B5 false [.int .i64 lo]) w fun b w1=>aSome r fun p_3=>gSl (Addr.add p_3 2) w1 fun x_4 xn_3 xc_3=>nw (.cells B5 false [.int .i64 n]) w1 fun b_1 w2=>gCells (some ⟨b,0,none⟩) (1*1) w2 fun cs=>ckB (fitsOpen x_3 B5 w2) (apd B5 1 x_3 xn_2 xc_2 1 cs w2 fun a an ac w3=>gSl (Addr.add p_3 2) w3 fun x_5 xn_4 xc_4=>same (.slice x_4 xn_3 xc_3) (.slice x_5 xn_4 xc_4) (gCells (some ⟨b_1,0,none⟩) (1*1) w3 fun cs_1=>ckB (fitsOpen x_4 B5 w3) (apd B5 1 x_4 xn_3 xc_3 1 cs_1 w3 fun a_1 an_1 ac_1 w4=>aSome r fun p_4=>pV (Addr.add p_4 1) (.slice a an ac) w4 fun w5=>aSome r fun p_5=>pV (Addr.add p_5 2) (.slice a_1 an_1 ac_1) w5 fun w6=>aSome r fun p_6=>gSl (Addr.add p_6 1) w6 fun _ xn_5 _=>some (.tuple ⟨[.int .i64 (IntKind.wrap .i64 (((xn_5:Nat):Int)-1)),.int .i64 0]⟩,w6)))))):=by kernel_rfl
def Bq9:Cuts:={ globs:=0,loops:=[],regs:=[],plans:=[] }
def Do2:List Item:=A7 Tryz.f128
theorem E09 (C:A4) (R:A5) (s:Option Addr) (e:Int) (c:List Value) (h:H) :
 A8 PR Bq9 C R A58 Tryz.f128 100000 true Do2 [(0,.pointer s),(1,.int .i64 e),(2,.agg ⟨c⟩)] h =
 nw (.cells O2 false c) h fun b w=>bnd (C Ah5 [.pointer s,.int .i64 e] w) fun r w1=>aBool r fun x=>bnd (cond (!x) (some (true,w1)) (gInt .i64 (Addr.add ⟨b,0,none⟩ 1) w1 fun x_1=>some (decide (x_1<0),w1))) fun c_1 w2=>bnd (cond c_1 (some (true,w2)) (gInt .i64 (Addr.add ⟨b,0,none⟩ 1) w2 fun x_2=>some (decide (x_2>7),w2))) fun c_2 w3=>bnd (cond c_2 (some (true,w3)) (gInt .i64 (Addr.add ⟨b,0,none⟩ 2) w3 fun x_3=>some (decide (x_3<0),w3))) fun c_3 w4=>bnd (cond c_3 (some (true,w4)) (gInt .i64 (Addr.add ⟨b,0,none⟩ 2) w4 fun x_4=>some (decide (x_4>65536),w4))) fun c_4 w5=>bnd (cond c_4 (some (true,w5)) (gInt .i64 (Addr.add ⟨b,0,none⟩ 3) w5 fun x_5=>some (decide (x_5<0),w5))) fun c_5 w6=>bnd (cond c_5 (some (true,w6)) (gInt .i64 (Addr.add ⟨b,0,none⟩ 3) w6 fun x_6=>some (decide (x_6>65536),w6))) fun c_6 w7=>cond c_6
 (some (.tuple ⟨[.int .i64 0,.int .i64 1]⟩,w7))
 (pAgg (Addr.add ⟨b,0,none⟩ 4) [.int .i64 0,.int .i64 0] w7 fun w8=>gAgg ⟨b,0,none⟩ 6 w8 fun x_7=>bnd (C A66 [.pointer s,.int .i64 e,.agg ⟨x_7⟩] w8) fun r_1 w9=>as2 r_1 fun r_2 r_3=>aInt .i64 r_2 fun x_8=>aInt .i64 r_3 fun x_9=>some (.tuple ⟨[.int .i64 x_8,.int .i64 x_9]⟩,w9)):=by kernel_rfl
def Bf1:Cuts:={ globs:=0,loops:=[],regs:=[],plans:=[] }
def B89:List Item:=A7 Tryz.f129
theorem Eg0 (C:A4) (R:A5) (g:Int) (h:H) :
 A8 PR Bf1 C R Av1 Tryz.f129 100000 true B89 [(0,.int .i64 g)] h =
 nw (.cells A6 false [.int .u8 (IntKind.wrap .u8 (g)),.int .u8 211]) h fun b w=>gCells (some ⟨b,0,none⟩) 2 w fun cs=>asBytes cs fun l=>bnd (C Ad9 [.string (ByteArray.mk ⟨l⟩)] w) fun r w1=>aInt .u8 r fun x=>nw (.cells A6 false [.int .u8 x,.int .u8 0]) w1 fun b_1 w2=>gCells (some ⟨b_1,0,none⟩) 2 w2 fun cs_1=>asBytes cs_1 fun l_1=>ck (ByteArray.size (ByteArray.mk ⟨l⟩)+ByteArray.size (ByteArray.mk ⟨l_1⟩)≤B1) (some (.string ((ByteArray.mk ⟨l⟩)++(ByteArray.mk ⟨l_1⟩)),w2)):=by kernel_rfl
def Y2:Cuts:={ globs:=0,loops:=[(3,[0,3,9,10,11])],regs:=[],plans:=[] }
def Aj0:List Item:=A7 Tryz.f142
def M8:List Item:=stk [0,1,0,1,0,0,1,4,5] Aj0
theorem B76 (C:A4) (R:A5) (t:Option Addr) (h:H) :
 A8 PR Y2 C R E5 Tryz.f142 100000 true Aj0 [(0,.pointer t)] h =
 aSome t fun p=>gSl (Addr.add p 0) h fun x xn xc=>R E5 M8 [(0,.pointer t),(3,.slice none 0 0),(9,.slice x xn xc),(10,.int .i64 ((xn:Nat):Int)),(11,.int .i64 0)] h:=by kernel_rfl
theorem Ax1 (C:A4) (R:A5) (t:Option Addr) (out:Option Addr) (outn outc:Nat) (x9:Option Addr) (x9n x9c:Nat) (x10:Int) (x11:Int) (h:H) :
 A8 PR Y2 C R E5 Tryz.f142 100000 true M8 [(0,.pointer t),(3,.slice out outn outc),(9,.slice x9 x9n x9c),(10,.int .i64 x10),(11,.int .i64 x11)] h =
 cond (decide (x11<x10))
 (aSome x9 fun p=>ck ((0:Int)≤x11∧x11<((x9n:Nat):Int)) (gAgg (Addr.add (B3 p) (Int.toNat x11*8)) 8 h fun x=>nw (.cells Ak2 false [.int .i64 0,.int .i64 0,.int .i64 0,.int .i64 0,.int .i64 0,.int .i64 0,.int .i64 0,.bool false]) h fun b w=>ck (List.length x=8) (pAgg ⟨b,0,none⟩ x w fun w1=>gBool (Addr.add ⟨b,0,none⟩ 7) w1 fun x_1=>cond x_1
 (bnd (C M0 [.pointer t,.int .i64 x11] w1) fun r w2=>aInt .i64 r fun x_2=>nw (.cells B5 false [.int .i64 x_2]) w2 fun b_1 w3=>gCells (some ⟨b_1,0,none⟩) (1*1) w3 fun cs=>ckB (fitsOpen out B5 w3) (apd B5 1 out outn outc 1 cs w3 fun a an ac w4=>R E5 M8 [(0,.pointer t),(3,.slice a an ac),(9,.slice x9 x9n x9c),(10,.int .i64 x10),(11,.int .i64 (IntKind.wrap .i64 (x11+1)))] w4))
 (R E5 M8 [(0,.pointer t),(3,.slice out outn outc),(9,.slice x9 x9n x9c),(10,.int .i64 x10),(11,.int .i64 (IntKind.wrap .i64 (x11+1)))] w1))))
 (some (.slice out outn outc,h)):=by kernel_rfl
def At6:Cuts:={ globs:=0,loops:=[],regs:=[],plans:=[] }
def Bk4:List Item:=A7 Tryz.f145
theorem Dq1 (C:A4) (R:A5) (c:Option Addr) (r:List Value) (h:H) :
 A8 PR At6 C R P3 Tryz.f145 100000 true Bk4 [(0,.pointer c),(1,.agg ⟨r⟩)] h =
 nw (.cells D6 false r) h fun b w=>nw (.cells Bd5 false [.int .i64 0,.int .i64 0,.int .i64 0]) w fun b_1 w1=>gInt .i64 (Addr.add ⟨b,0,none⟩ 1) w1 fun x=>bnd (cond (decide (x<0)) (some (true,w1)) (gInt .i64 (Addr.add ⟨b,0,none⟩ 0) w1 fun x_1=>bnd (C Z0 [.pointer c,.int .i64 x_1] w1) fun r_1 w2=>aInt .i64 r_1 fun x_2=>some (decide (x≥x_2),w2))) fun c_1 w3=>cond c_1
 (pAgg ⟨b_1,0,none⟩ [.int .i64 0,.int .i64 0,.int .i64 0] w3 fun w4=>gAgg ⟨b_1,0,none⟩ 3 w4 fun x_3=>some (.tuple ⟨[.agg ⟨x_3⟩,.bool false]⟩,w4))
 (aSome c fun p=>gSl (Addr.add p 2) w3 fun x_4 xn _=>aSome x_4 fun p_1=>ck ((0:Int)≤0∧0<((xn:Nat):Int)) (gInt .i64 (Addr.add (B3 p_1) (Int.toNat 0*1)) w3 fun x_5=>gInt .i64 (Addr.add ⟨b,0,none⟩ 0) w3 fun x_6=>cond (x_6==1)
 (pAgg ⟨b_1,0,none⟩ [.int .i64 x_5,.int .i64 (IntKind.wrap .i64 (24*x)),.int .i64 24] w3 fun w5=>gAgg ⟨b_1,0,none⟩ 3 w5 fun x_7=>some (.tuple ⟨[.agg ⟨x_7⟩,.bool true]⟩,w5))
 (gInt .i64 (Addr.add ⟨b,0,none⟩ 0) w3 fun x_8=>cond (x_8==2)
 (pAgg ⟨b_1,0,none⟩ [.int .i64 x_5,.int .i64 (IntKind.wrap .i64 (192+(IntKind.wrap .i64 (8*x)))),.int .i64 8] w3 fun w6=>gAgg ⟨b_1,0,none⟩ 3 w6 fun x_9=>some (.tuple ⟨[.agg ⟨x_9⟩,.bool true]⟩,w6))
 (gInt .i64 (Addr.add ⟨b,0,none⟩ 0) w3 fun x_10=>bnd (cond (x_10==3) (some (decide (x<4),w3)) (some (false,w3))) fun c_2 w7=>cond c_2
 (pAgg ⟨b_1,0,none⟩ [.int .i64 x_5,.int .i64 (IntKind.wrap .i64 (288+(IntKind.wrap .i64 (40*x)))),.int .i64 40] w7 fun w8=>gAgg ⟨b_1,0,none⟩ 3 w8 fun x_11=>some (.tuple ⟨[.agg ⟨x_11⟩,.bool true]⟩,w8))
 (gInt .i64 (Addr.add ⟨b,0,none⟩ 0) w7 fun x_12=>cond (x_12==3)
 (aSome c fun p_2=>gSl (Addr.add p_2 2) w7 fun x_13 xn_1 _=>aSome x_13 fun p_3=>ck ((0:Int)≤IntKind.wrap .i64 ((IntKind.wrap .i64 (x-4))+1)∧IntKind.wrap .i64 ((IntKind.wrap .i64 (x-4))+1)<((xn_1:Nat):Int)) (gInt .i64 (Addr.add (B3 p_3) (Int.toNat (IntKind.wrap .i64 ((IntKind.wrap .i64 (x-4))+1))*1)) w7 fun x_14=>pAgg ⟨b_1,0,none⟩ [.int .i64 x_14,.int .i64 0,.int .i64 40] w7 fun w9=>gAgg ⟨b_1,0,none⟩ 3 w9 fun x_15=>some (.tuple ⟨[.agg ⟨x_15⟩,.bool true]⟩,w9)))
 (gInt .i64 (Addr.add ⟨b,0,none⟩ 0) w7 fun x_16=>cond (x_16==4)
 (pAgg ⟨b_1,0,none⟩ [.int .i64 x_5,.int .i64 448,.int .i64 40] w7 fun w10=>gAgg ⟨b_1,0,none⟩ 3 w10 fun x_17=>some (.tuple ⟨[.agg ⟨x_17⟩,.bool true]⟩,w10))
 (pAgg ⟨b_1,0,none⟩ [.int .i64 x_5,.int .i64 488,.int .i64 4] w7 fun w11=>gAgg ⟨b_1,0,none⟩ 3 w11 fun x_18=>some (.tuple ⟨[.agg ⟨x_18⟩,.bool true]⟩,w11)))))))):=by kernel_rfl
def A33:Cuts:={ globs:=0,loops:=[],regs:=[],plans:=[] }
def Bt5:List Item:=A7 Tryz.f149
theorem D18 (C:A4) (R:A5) (r:Option Addr) (env:Int) (name:Int) (atv:Int) (n:Int) (h:H) :
 A8 PR A33 C R Ab1 Tryz.f149 100000 true Bt5 [(0,.pointer r),(1,.int .i64 env),(2,.int .i64 name),(3,.int .i64 atv),(4,.int .i64 n)] h =
 bnd (C Y8 [.pointer r,.int .i64 env,.int .i64 name,.int .i64 1,.int .i64 atv,.int .i64 n] h) fun r_1 w=>as2 r_1 fun r_2 r_3=>aInt .i64 r_2 fun x=>aInt .i64 r_3 fun x_1=>cond (x_1 != 0)
 (some (.tuple ⟨[.slice none 0 0,.int .i64 x_1]⟩,w))
 (aSome r fun p=>gPtr (Addr.add p 0) w fun x_2=>bnd (C A21 [.pointer x_2,.int .i64 x,.int .i64 n] w) fun r_4 w1=>as2 r_4 fun r_5 r_6=>aSl r_5 fun x_3 xn xc=>aInt .i64 r_6 fun x_4=>some (.tuple ⟨[.slice x_3 xn xc,.int .i64 x_4]⟩,w1)):=by kernel_rfl
def Bc2:Cuts:={ globs:=0,loops:=[],regs:=[],plans:=[] }
def B20:List Item:=A7 Tryz.f154
theorem Ef2 (C:A4) (R:A5) (q:Option Addr) (s:Int) (h:H) :
 A8 PR Bc2 C R At2 Tryz.f154 100000 true B20 [(0,.pointer q),(1,.int .i64 s)] h =
 bnd (C Ah0 [.pointer q,.int .i64 s] h) fun r w=>aBool r fun x=>cond (!x)
 (some (.tuple ⟨[.int .i64 0,.int .i64 1]⟩,w))
 (aSome q fun p=>gSl (Addr.add p 0) w fun x_1 xn _=>aSome x_1 fun p_1=>ck ((0:Int)≤s∧s<((xn:Nat):Int)) (gSl (Addr.add (B3 p_1) (Int.toNat s*1)) w fun x_2 xn_1 xc_1=>bnd (C G7 [.slice x_2 xn_1 xc_1,.int .i64 0] w) fun r_1 w1=>aInt .i64 r_1 fun x_3=>cond (decide (x_3<0))
 (some (.tuple ⟨[.int .i64 0,.int .i64 4]⟩,w1))
 (aSome q fun p_2=>gSl (Addr.add p_2 0) w1 fun x_4 xn_2 _=>aSome x_4 fun p_3=>ck ((0:Int)≤s∧s<((xn_2:Nat):Int)) (gSl (Addr.add (B3 p_3) (Int.toNat s*1)) w1 fun x_5 xn_3 _=>aSome x_5 fun p_4=>ck ((0:Int)≤x_3∧x_3<((xn_3:Nat):Int)) (pV (Addr.add (B3 p_4) (Int.toNat x_3*1)) (.int .i64 1) w1 fun w2=>some (.tuple ⟨[.int .i64 x_3,.int .i64 0]⟩,w2)))))):=by kernel_rfl
def Bk7:Cuts:={ globs:=0,loops:=[],regs:=[],plans:=[] }
def Dd3:List Item:=A7 Tryz.f156
theorem Ev6 (C:A4) (R:A5) (k:Option Addr) (env:Int) (c:List Value) (h:H) :
 A8 PR Bk7 C R A06 Tryz.f156 100000 true Dd3 [(0,.pointer k),(1,.int .i64 env),(2,.agg ⟨c⟩)] h =
 nw (.cells Aw4 false c) h fun b w=>gInt .i64 (Addr.add ⟨b,0,none⟩ 3) w fun x=>bnd (C As1 [.pointer k,.int .i64 env,.int .i64 x] w) fun r w1=>as2 r fun r_1 r_2=>aPtr r_1 fun x_1=>aInt .i64 r_2 fun x_2=>cond (x_2 != 0)
 (some (.tuple ⟨[.int .i64 0,.int .i64 x_2]⟩,w1))
 (aSome k fun p=>gInt .i64 (Addr.add p 7) w1 fun x_3=>bnd (C B7 [.pointer x_1,.int .i64 env,.int .i64 x_3] w1) fun r_3 w2=>as2 r_3 fun r_4 r_5=>aInt .i64 r_4 fun x_4=>aBool r_5 fun _=>some (.tuple ⟨[.int .i64 x_4,.int .i64 0]⟩,w2)):=by kernel_rfl
def Bl9:Cuts:={ globs:=0,loops:=[],regs:=[],plans:=[] }
def De0:List Item:=A7 Tryz.f157
theorem Ev9 (C:A4) (R:A5) (k:Option Addr) (env:Int) (c:List Value) (h:H) :
 A8 PR Bl9 C R A09 Tryz.f157 100000 true De0 [(0,.pointer k),(1,.int .i64 env),(2,.agg ⟨c⟩)] h =
 nw (.cells Aw4 false c) h fun b w=>gInt .i64 (Addr.add ⟨b,0,none⟩ 3) w fun x=>bnd (C As1 [.pointer k,.int .i64 env,.int .i64 x] w) fun r w1=>as2 r fun r_1 r_2=>aPtr r_1 fun x_1=>aInt .i64 r_2 fun x_2=>bnd (cond (x_2==0) (gInt .i64 (Addr.add ⟨b,0,none⟩ 2) w1 fun x_3=>bnd (C A07 [.pointer x_1,.int .i64 env,.int .i64 x_3] w1) fun r_3 w2=>aBool r_3 fun x_4=>some (!x_4,w2)) (some (false,w1))) fun c_1 w3=>cond c_1
 (some (.int .i64 8,w3))
 (some (.int .i64 x_2,w3)):=by kernel_rfl
def Db0:Cuts:={ globs:=0,loops:=[],regs:=[],plans:=[] }
def Ed3:List Item:=A7 Tryz.f158
theorem Gp9 (C:A4) (R:A5)  (h:H) :
 A8 PR Db0 C R Ba2 Tryz.f158 100000 true Ed3 [] h =
 bnd (C Ao4 [.int .i64 24,.func (.func N5) ⟨[]⟩ ⟨[]⟩,.func (.func V5) ⟨[]⟩ ⟨[]⟩] h) fun r w=>aPtr r fun x=>some (.pointer x,w):=by kernel_rfl
def Af7:Cuts:={ globs:=0,loops:=[],regs:=[],plans:=[(4,⟨[0,1,2,3,4,10,5,6,7,8,9,11,12],[0,1,3,7,0,16,63,127,255,255,0,1535,4095],[(5,[3])],[]⟩)] }
def A01:List Item:=A7 Tryz.f159
theorem B12 (C:A4) (R:A5) (c:Option Addr) (b:Option Addr) (bn bc:Nat) (h:H) :
 A8 PR Af7 C R U0 Tryz.f159 100000 true A01 [(0,.pointer c),(1,.slice b bn bc)] h =
 nw (.cells D1 false [.int .i64 0,.int .i64 0,.int .i64 0,.int .i64 0,.int .i64 0,.int .i64 0,.int .i64 0,.int .i64 0,.int .i64 0,.int .i64 0,.int .i64 0,.int .i64 0,.int .i64 0,.int .i64 0,.int .i64 0,.int .i64 0]) h fun b_1 w=>nw (.cells D1 false [.int .i64 0,.int .i64 0,.int .i64 0,.int .i64 0,.int .i64 0,.int .i64 0,.int .i64 0,.int .i64 0,.int .i64 0,.int .i64 0,.int .i64 0,.int .i64 0,.int .i64 0,.int .i64 0,.int .i64 0,.int .i64 0]) w fun b_2 w1=>aSome c fun p=>gFv (Addr.add p 2) w1 fun x=>isNilF x fun b_3=>bnd (cond b_3 (some (true,w1)) (aSome c fun p_1=>gInt .i64 (Addr.add p_1 0) w1 fun x_1=>some (((bn:Nat):Int) != x_1,w1))) fun c_1 w2=>cond c_1
 (gAgg ⟨b_2,0,none⟩ 16 w2 fun x_2=>ck (List.length x_2=16) (pAgg ⟨b_1,0,none⟩ x_2 w2 fun w3=>gAgg ⟨b_1,0,none⟩ 16 w3 fun x_3=>some (.tuple ⟨[.agg ⟨x_3⟩,.bool false]⟩,w3)))
 (aSome c fun p_2=>gFv (Addr.add p_2 2) w2 fun x_4=>nw (.cells D1 false [.int .i64 0,.int .i64 0,.int .i64 0,.int .i64 0,.int .i64 0,.int .i64 0,.int .i64 0,.int .i64 0,.int .i64 0,.int .i64 0,.int .i64 0,.int .i64 0,.int .i64 0,.int .i64 0,.int .i64 0,.int .i64 0]) w2 fun b_4 w4=>bnd (C G0 [.slice b bn bc] w4) fun r w5=>aSl r fun x_5 xn xc=>gFv (Addr.add p_2 2) w5 fun x_6=>Bh8 (x_4) (x_6) (aFn x_4 fun g fi cp=>bnd (C g (fi++([.slice x_5 xn xc]++cp)) w5) fun r_1 w6=>as2 r_1 fun r_2 r_3=>aAgg r_2 fun x_7=>aBool r_3 fun x_8=>ck (List.length x_7=16) (pAgg ⟨b_4,0,none⟩ x_7 w6 fun w7=>cond (!x_8)
 (gAgg ⟨b_2,0,none⟩ 16 w7 fun x_9=>ck (List.length x_9=16) (pAgg ⟨b_1,0,none⟩ x_9 w7 fun w8=>gAgg ⟨b_1,0,none⟩ 16 w8 fun x_10=>some (.tuple ⟨[.agg ⟨x_10⟩,.bool false]⟩,w8)))
 (gAgg ⟨b_4,0,none⟩ 16 w7 fun x_11=>ck (List.length x_11=16) (pAgg ⟨b_1,0,none⟩ x_11 w7 fun w9=>gAgg ⟨b_1,0,none⟩ 16 w9 fun x_12=>some (.tuple ⟨[.agg ⟨x_12⟩,.bool true]⟩,w9)))))):=by kernel_rfl
def Dc2:Cuts:={ globs:=0,loops:=[],regs:=[],plans:=[] }
def Ec8:List Item:=A7 Tryz.f161
theorem Gq4 (C:A4) (R:A5)  (h:H) :
 A8 PR Dc2 C R Ba3 Tryz.f161 100000 true Ec8 [] h =
 bnd (C Am7 [.int .i64 8,.func (.func Aq1) ⟨[]⟩ ⟨[]⟩,.func (.func Ap5) ⟨[]⟩ ⟨[]⟩] h) fun r w=>aPtr r fun x=>some (.pointer x,w):=by kernel_rfl
def B63:Cuts:={ globs:=0,loops:=[(3,[3,9,10,11])],regs:=[],plans:=[] }
def Dv8:List Item:=A7 Tryz.f163
def Bi6:List Item:=stk [0,1,0,1,0,0,1,4,5] Dv8
theorem G69 (C:A4) (R:A5) (b:Option Addr) (bn bc:Nat) (h:H) :
 A8 PR B63 C R Z7 Tryz.f163 100000 true Dv8 [(0,.slice b bn bc)] h =
 R Z7 Bi6 [(3,.int .u8 (IntKind.wrap .u8 (((bn:Nat):Int)))),(9,.slice b bn bc),(10,.int .i64 ((bn:Nat):Int)),(11,.int .i64 0)] h:=by kernel_rfl
theorem Dz8 (C:A4) (R:A5) (n:Int) (x9:Option Addr) (x9n x9c:Nat) (x10:Int) (x11:Int) (h:H) :
 A8 PR B63 C R Z7 Tryz.f163 100000 true Bi6 [(3,.int .u8 n),(9,.slice x9 x9n x9c),(10,.int .i64 x10),(11,.int .i64 x11)] h =
 cond (decide (x11<x10))
 (aSome x9 fun p=>ck ((0:Int)≤x11∧x11<((x9n:Nat):Int)) (gInt .u8 (Addr.add (B3 p) (Int.toNat x11*1)) h fun x=>R Z7 Bi6 [(3,.int .u8 (IntKind.wrap .u8 (n+x))),(9,.slice x9 x9n x9c),(10,.int .i64 x10),(11,.int .i64 (IntKind.wrap .i64 (x11+1)))] h))
 (some (.int .u8 n,h)):=by kernel_rfl
def Ak7:Cuts:={ globs:=0,loops:=[],regs:=[],plans:=[] }
def A99:List Item:=A7 Tryz.f173
theorem Dc1 (C:A4) (R:A5) (c:Option Addr) (i:Int) (h:H) :
 A8 PR Ak7 C R Aa1 Tryz.f173 100000 true A99 [(0,.pointer c),(1,.int .i64 i)] h =
 bnd (C Aq5 [.int .i64 i] h) fun r w=>aAgg r fun x=>bnd (C W5 [.pointer c,.agg ⟨x⟩] w) fun r_1 w1=>aBool r_1 fun x_1=>some (.bool x_1,w1):=by kernel_rfl
def B44:Cuts:={ globs:=0,loops:=[],regs:=[],plans:=[] }
def D09:List Item:=A7 Tryz.f174
theorem Ge2 (C:A4) (R:A5) (s:Int) (fv0:Addr) (h:H) :
 A8 PR B44 C R G2 Tryz.f174 100000 true D09 [(0,.int .i64 s),(1,.pointer (some fv0))] h =
 bnd (cond (decide (s<0)) (some (true,h)) (gSl (Addr.add fv0 0) h fun _ xn _=>some (decide (s≥((xn:Nat):Int)),h))) fun c w=>some (.bool c,w):=by kernel_rfl
def Ac6:Cuts:={ globs:=0,loops:=[],regs:=[],plans:=[] }
def At4:List Item:=A7 Tryz.f175
theorem At3 (C:A4) (R:A5) (s:Option Addr) (sn sc:Nat) (f:Value) (h:H) :
 A8 PR Ac6 C R E2 Tryz.f175 100000 true At4 [(0,.slice s sn sc),(1,f)] h =
 bnd (C D5 [.slice s sn sc,f] h) fun r w=>aInt .i64 r fun x=>some (.bool (decide (x≥0)),w):=by kernel_rfl
def Bd8:Cuts:={ globs:=0,loops:=[(3,[0,3,4])],regs:=[],plans:=[] }
def Bw8:List Item:=A7 Tryz.f182
def Av6:List Item:=stk [0,1,0,1,0,0,1,4,5] Bw8
theorem Gb4 (C:A4) (R:A5) (size:Int) (h:H) :
 A8 PR Bd8 C R Y6 Tryz.f182 100000 true Bw8 [(0,.int .i64 size)] h =
 nw (.cells Eh7 false [.slice none 0 0]) h fun b w=>R Y6 Av6 [(0,.int .i64 size),(3,.pointer (some ⟨b,0,none⟩)),(4,.int .i64 0)] w:=by kernel_rfl
theorem B88 (C:A4) (R:A5) (size:Int) (n:Addr) (i:Int) (h:H) :
 A8 PR Bd8 C R Y6 Tryz.f182 100000 true Av6 [(0,.int .i64 size),(3,.pointer (some n)),(4,.int .i64 i)] h =
 bnd (cond (decide (i<size)) (some (decide (i<256),h)) (some (false,h))) fun c w=>cond c
 (gSl (Addr.add n 0) w fun x xn xc=>nw (.cells Be7 false [.int .i64 1,.bool false]) w fun b w1=>gCells (some ⟨b,0,none⟩) (1*2) w1 fun cs=>ckB (fitsOpen x Be7 w1) (apd Be7 2 x xn xc 1 cs w1 fun a an ac w2=>pV (Addr.add n 0) (.slice a an ac) w2 fun w3=>R Y6 Av6 [(0,.int .i64 size),(3,.pointer (some n)),(4,.int .i64 (IntKind.wrap .i64 (i+1)))] w3))
 (some (.pointer (some n),w)):=by kernel_rfl
def Br0:Cuts:={ globs:=0,loops:=[],regs:=[],plans:=[(4,⟨[0,1,2,3,4,5,6,7,8,9,10,11],[0,1,3,7,0,31,63,0,128,0,1023,2047],[],[]⟩)] }
def Dm6:List Item:=A7 Tryz.f185
theorem E30 (C:A4) (R:A5) (s:Option Addr) (e:Int) (c:List Value) (h:H) :
 A8 PR Br0 C R A66 Tryz.f185 100000 true Dm6 [(0,.pointer s),(1,.int .i64 e),(2,.agg ⟨c⟩)] h =
 nw (.cells O2 false c) h fun b w=>aSome s fun p=>gSl (Addr.add p 0) w fun x xn _=>aSome x fun p_1=>ck ((0:Int)≤e∧e<((xn:Nat):Int)) (gPtr (Addr.add (B3 p_1) (Int.toNat e*1)) w fun x_1=>bnd (C V3 [.pointer x_1] w) fun r w1=>as2 r fun r_1 r_2=>aInt .i64 r_1 fun x_2=>aBool r_2 fun x_3=>cond (!x_3)
 (some (.tuple ⟨[.int .i64 0,.int .i64 4]⟩,w1))
 (aSome s fun p_2=>gSl (Addr.add p_2 1) w1 fun x_4 xn_1 _=>aSome x_4 fun p_3=>ck ((0:Int)≤e∧e<((xn_1:Nat):Int)) (gSl (Addr.add (B3 p_3) (Int.toNat e*1)) w1 fun x_5 xn_2 _=>gAgg ⟨b,0,none⟩ 6 w1 fun x_6=>aSome x_5 fun p_4=>ck ((0:Int)≤O5 .i64 x_2 255∧O5 .i64 x_2 255<((xn_2:Nat):Int)) (ck (List.length x_6=6) (pAgg (Addr.add (B3 p_4) (Int.toNat (O5 .i64 x_2 255)*6)) x_6 w1 fun w2=>some (.tuple ⟨[.int .i64 x_2,.int .i64 0]⟩,w2)))))):=by kernel_rfl
def Az5:Cuts:={ globs:=0,loops:=[],regs:=[],plans:=[(6,⟨[0,1,2,3,4,5,6,7,8,9,10,11,12,13,14,15,16,17,18,19,20,21,22,23,24,25,26,27,28,29,30,31,32,33,34,35],[0,1,3,7,15,31,63,127,127,383,1023,2047,4095,8191,8191,24575,8191,122879,262143,524287,1048575,2097151,4194303,8388607,16777215,33554431,67108863,134217727,67108863,335544319,872415231,1946157055,4093640703,8589934591,17179869183,34359738367],[],[]⟩),(8,⟨[0,1,2,3,4,5,6,7,8,9],[0,1,3,7,0,16,63,127,0,511],[],[]⟩)] }
def Bn0:List Item:=A7 Tryz.f201
theorem Du2 (C:A4) (R:A5) (r:Option Addr) (env:Int) (name:Int) (right:Int) (atv:Int) (n:Int) (h:H) :
 A8 PR Az5 C R Y8 Tryz.f201 100000 true Bn0 [(0,.pointer r),(1,.int .i64 env),(2,.int .i64 name),(3,.int .i64 right),(4,.int .i64 atv),(5,.int .i64 n)] h =
 aSome r fun p=>gPtr (Addr.add p 1) h fun x=>bnd (C As2 [.pointer x,.int .i64 env,.int .i64 name] h) fun r_1 w=>as2 r_1 fun r_2 r_3=>aAgg r_2 fun x_1=>aInt .i64 r_3 fun x_2=>nw (.cells O2 false [.int .i64 0,.int .i64 0,.int .i64 0,.int .i64 0,.int .i64 0,.int .i64 0]) w fun b w1=>ck (List.length x_1=6) (pAgg ⟨b,0,none⟩ x_1 w1 fun w2=>cond (x_2 != 0)
 (some (.tuple ⟨[.int .i64 0,.int .i64 x_2]⟩,w2))
 (gInt .i64 (Addr.add ⟨b,0,none⟩ 1) w2 fun x_3=>cond ((O5 .i64 x_3 right)==0)
 (some (.tuple ⟨[.int .i64 0,.int .i64 3]⟩,w2))
 (bnd (cond (decide (atv<0)) (some (true,w2)) (some (decide (n<0),w2))) fun c w3=>bnd (cond c (some (true,w3)) (gInt .i64 (Addr.add ⟨b,0,none⟩ 3) w3 fun x_4=>some (decide (atv>x_4),w3))) fun c_1 w4=>bnd (cond c_1 (some (true,w4)) (gInt .i64 (Addr.add ⟨b,0,none⟩ 3) w4 fun x_5=>some (decide (n>(IntKind.wrap .i64 (x_5-atv))),w4))) fun c_2 w5=>bnd (cond c_2 (some (true,w5)) (gInt .i64 (Addr.add ⟨b,0,none⟩ 0) w5 fun x_6=>some (decide (x_6<0),w5))) fun c_3 w6=>bnd (cond c_3 (some (true,w6)) (gInt .i64 (Addr.add ⟨b,0,none⟩ 0) w6 fun x_7=>aSome r fun p_1=>gSl (Addr.add p_1 2) w6 fun _ xn _=>some (decide (x_7≥((xn:Nat):Int)),w6))) fun c_4 w7=>cond c_4
 (some (.tuple ⟨[.int .i64 0,.int .i64 1]⟩,w7))
 (aSome r fun p_2=>gSl (Addr.add p_2 2) w7 fun x_9 xn_1 _=>gInt .i64 (Addr.add ⟨b,0,none⟩ 0) w7 fun x_10=>aSome x_9 fun p_3=>ck ((0:Int)≤x_10∧x_10<((xn_1:Nat):Int)) (gAgg (Addr.add (B3 p_3) (Int.toNat x_10*2)) 2 w7 fun x_11=>nw (.cells Au3 false [.int .i64 0,.int .i64 0]) w7 fun b_1 w8=>ck (List.length x_11=2) (pAgg ⟨b_1,0,none⟩ x_11 w8 fun w9=>gInt .i64 (Addr.add ⟨b,0,none⟩ 2) w9 fun x_12=>gInt .i64 (Addr.add ⟨b_1,0,none⟩ 1) w9 fun x_13=>bnd (cond (decide ((IntKind.wrap .i64 (x_12+atv))>x_13)) (some (true,w9)) (gInt .i64 (Addr.add ⟨b_1,0,none⟩ 1) w9 fun x_14=>gInt .i64 (Addr.add ⟨b,0,none⟩ 2) w9 fun x_15=>some (decide (n>(IntKind.wrap .i64 ((IntKind.wrap .i64 (x_14-x_15))-atv))),w9))) fun c_5 w10=>cond c_5
 (some (.tuple ⟨[.int .i64 0,.int .i64 1]⟩,w10))
 (gInt .i64 (Addr.add ⟨b_1,0,none⟩ 0) w10 fun x_16=>gInt .i64 (Addr.add ⟨b,0,none⟩ 2) w10 fun x_17=>some (.tuple ⟨[.int .i64 (IntKind.wrap .i64 ((IntKind.wrap .i64 (x_16+x_17))+atv)),.int .i64 0]⟩,w10)))))))):=by kernel_rfl
def Bf6:Cuts:={ globs:=0,loops:=[],regs:=[],plans:=[] }
def B84:List Item:=A7 Tryz.f207
theorem En2 (C:A4) (R:A5) (q:Option Addr) (s:Int) (k:Int) (h:H) :
 A8 PR Bf6 C R Aw8 Tryz.f207 100000 true B84 [(0,.pointer q),(1,.int .i64 s),(2,.int .i64 k)] h =
 bnd (C Ah0 [.pointer q,.int .i64 s] h) fun r w=>aBool r fun x=>bnd (cond x (some (decide (k≥0),w)) (some (false,w))) fun c w1=>bnd (cond c (aSome q fun p=>gSl (Addr.add p 0) w1 fun x_1 xn _=>aSome x_1 fun p_1=>ck ((0:Int)≤s∧s<((xn:Nat):Int)) (gSl (Addr.add (B3 p_1) (Int.toNat s*1)) w1 fun _ xn_1 _=>some (decide (k<((xn_1:Nat):Int)),w1))) (some (false,w1))) fun c_1 w2=>bnd (cond c_1 (aSome q fun p_2=>gSl (Addr.add p_2 0) w2 fun x_3 xn_2 _=>aSome x_3 fun p_3=>ck ((0:Int)≤s∧s<((xn_2:Nat):Int)) (gSl (Addr.add (B3 p_3) (Int.toNat s*1)) w2 fun x_4 xn_3 _=>aSome x_4 fun p_4=>ck ((0:Int)≤k∧k<((xn_3:Nat):Int)) (gInt .i64 (Addr.add (B3 p_4) (Int.toNat k*1)) w2 fun x_5=>some (decide (x_5>0),w2)))) (some (false,w2))) fun c_2 w3=>some (.bool c_2,w3):=by kernel_rfl
def Dw4:Cuts:={ globs:=0,loops:=[],regs:=[],plans:=[(1,⟨[0,1,2,3,4,5,6,7,8,9,10,11,12,13,14,15,16,17,18],[0,1,3,7,0,16,48,112,0,256,768,1792,0,4096,12288,28672,65535,0,262143],[],[]⟩),(3,⟨[0,1,2,3,4,5,6,7,8],[0,0,2,6,6,30,62,63,255],[(5,[0])],[]⟩)] }
def Ey4:List Item:=A7 Tryz.f216
theorem G76 (C:A4) (R:A5) (b:Option Addr) (bn bc:Nat) (h:H) :
 A8 PR Dw4 C R Ap5 Tryz.f216 100000 true Ey4 [(0,.slice b bn bc)] h =
 nw (.cells E1 false [.int .i64 0,.int .i64 0,.int .i64 0,.int .i64 0]) h fun b_1 w=>aSome b fun p=>ck ((0:Int)≤0∧0<((bn:Nat):Int)) (gInt .u8 (Addr.add (B3 p) (Int.toNat 0*1)) w fun x=>aSome b fun p_1=>ck ((0:Int)≤1∧1<((bn:Nat):Int)) (gInt .u8 (Addr.add (B3 p_1) (Int.toNat 1*1)) w fun x_1=>aSome b fun p_2=>ck ((0:Int)≤2∧2<((bn:Nat):Int)) (gInt .u8 (Addr.add (B3 p_2) (Int.toNat 2*1)) w fun x_2=>aSome b fun p_3=>ck ((0:Int)≤3∧3<((bn:Nat):Int)) (gInt .u8 (Addr.add (B3 p_3) (Int.toNat 3*1)) w fun x_3=>nw (.cells E1 false [.int .i64 0,.int .i64 0,.int .i64 0,.int .i64 0]) w fun b_2 w1=>pAgg ⟨b_2,0,none⟩ [.int .i64 (IntKind.wrap .i64 (x)),.int .i64 (IntKind.wrap .i64 (x_1)),.int .i64 (IntKind.wrap .i64 (x_2)),.int .i64 (IntKind.wrap .i64 (x_3))] w1 fun w2=>gAgg ⟨b_2,0,none⟩ 4 w2 fun x_4=>bnd (C A41 [.agg ⟨x_4⟩] w2) fun r w3=>as2 r fun r_1 r_2=>aSl r_1 fun x_5 xn xc=>aBool r_2 fun x_6=>gAgg ⟨b_2,0,none⟩ 4 w3 fun x_7=>bnd (cond x_6 (bnd (C D0 [.slice x_5 xn xc,.slice b bn bc] w3) fun r_3 w4=>aBool r_3 fun x_8=>gAgg ⟨b_2,0,none⟩ 4 w4 fun x_9=>same (.agg ⟨x_7⟩) (.agg ⟨x_9⟩) (some (x_8,w4))) (some (false,w3))) fun c w5=>ck (List.length x_7=4) (pAgg ⟨b_1,0,none⟩ x_7 w5 fun w6=>gAgg ⟨b_1,0,none⟩ 4 w6 fun x_10=>some (.tuple ⟨[.agg ⟨x_10⟩,.bool c]⟩,w6)))))):=by kernel_rfl
def Dm7:Cuts:={ globs:=0,loops:=[],regs:=[],plans:=[(3,⟨[0,1,2,3,4,5,6,7,8,9,10,11,12,13,14],[0,0,3,7,15,31,0,0,128,448,960,1984,4095,8191,16383],[],[]⟩)] }
def Eg9:List Item:=A7 Tryz.f233
theorem G32 (C:A4) (R:A5) (b:Option Addr) (bn bc:Nat) (atv:Int) (h:H) :
 A8 PR Dm7 C R Bz8 Tryz.f233 100000 true Eg9 [(0,.slice b bn bc),(1,.int .i64 atv)] h =
 bnd (cond (decide (atv<0)) (some (true,h)) (some (decide (atv>(IntKind.wrap .i64 (((bn:Nat):Int)-2))),h))) fun c w=>cond c
 (some (.tuple ⟨[.int .i64 0,.bool false]⟩,w))
 (aSome b fun p=>ck ((0:Int)≤atv∧atv<((bn:Nat):Int)) (gInt .u8 (Addr.add (B3 p) (Int.toNat atv*1)) w fun x=>aSome b fun p_1=>ck ((0:Int)≤IntKind.wrap .i64 (atv+1)∧IntKind.wrap .i64 (atv+1)<((bn:Nat):Int)) (gInt .u8 (Addr.add (B3 p_1) (Int.toNat (IntKind.wrap .i64 (atv+1))*1)) w fun x_1=>some (.tuple ⟨[.int .i64 (Hg7 .i64 (IntKind.wrap .i64 ((IntKind.wrap .i64 (x))*2 ^ 8)) (IntKind.wrap .i64 (x_1))),.bool true]⟩,w)))):=by kernel_rfl
def D70:Cuts:={ globs:=0,loops:=[],regs:=[],plans:=[] }
def E70:List Item:=A7 Tryz.f234
theorem Hj2 (C:A4) (R:A5) (f:List Value) (h:H) :
 A8 PR D70 C R De9 Tryz.f234 100000 true E70 [(0,.agg ⟨f⟩)] h =
 nw (.cells E1 false f) h fun b w=>gInt .i64 (Addr.add ⟨b,0,none⟩ 0) w fun x=>bnd (cond (decide (x≥1)) (gInt .i64 (Addr.add ⟨b,0,none⟩ 0) w fun x_1=>some (decide (x_1≤3),w)) (some (false,w))) fun c w1=>bnd (cond c (gInt .i64 (Addr.add ⟨b,0,none⟩ 1) w1 fun x_2=>some (decide (x_2≥0),w1)) (some (false,w1))) fun c_1 w2=>bnd (cond c_1 (gInt .i64 (Addr.add ⟨b,0,none⟩ 1) w2 fun x_3=>some (decide (x_3≤7),w2)) (some (false,w2))) fun c_2 w3=>bnd (cond c_2 (gInt .i64 (Addr.add ⟨b,0,none⟩ 0) w3 fun x_4=>bnd (cond (x_4 != 3) (some (true,w3)) (gInt .i64 (Addr.add ⟨b,0,none⟩ 1) w3 fun x_5=>some (x_5==0,w3))) fun c_3 w4=>some (c_3,w4)) (some (false,w3))) fun c_4 w5=>bnd (cond c_4 (gInt .i64 (Addr.add ⟨b,0,none⟩ 2) w5 fun x_6=>some (decide (x_6≥1),w5)) (some (false,w5))) fun c_5 w6=>bnd (cond c_5 (gInt .i64 (Addr.add ⟨b,0,none⟩ 2) w6 fun x_7=>some (decide (x_7≤64),w6)) (some (false,w6))) fun c_6 w7=>bnd (cond c_6 (gInt .i64 (Addr.add ⟨b,0,none⟩ 3) w7 fun x_8=>bnd (cond (x_8==0) (some (true,w7)) (gInt .i64 (Addr.add ⟨b,0,none⟩ 3) w7 fun x_9=>some (x_9==1,w7))) fun c_7 w8=>some (c_7,w8)) (some (false,w7))) fun c_8 w9=>some (.bool c_8,w9):=by kernel_rfl
end
end Go.EQ

set_option maxRecDepth 100000
namespace Go.EQ
open Go Go.NN Go.Proofs
variable (C : A4) (R : A5)
noncomputable section
def Dc4:Cuts:={ globs:=0,loops:=[],regs:=[],plans:=[] }
def Ed9:List Item:=A7 Tryz.f15
theorem Gq3 (C:A4) (R:A5) (k:Option Addr) (env:Int) (h:H) :
 A8 PR Dc4 C R Bp8 Tryz.f15 100000 true Ed9 [(0,.pointer k),(1,.int .i64 env)] h =
 bnd (cond k.isNone (some (true,h)) (bnd (C Al2 [.pointer k] h) fun r w=>aPtr r fun x=>bnd (C Aj5 [.pointer x,.int .i64 env] w) fun r_1 w1=>aSl r_1 fun _ xn _=>some (((xn:Nat):Int)==0,w1))) fun c w2=>cond c
 (some (.tuple ⟨[.pointer none,.int .i64 1]⟩,w2))
 (bnd (C Al2 [.pointer k] w2) fun r_2 w3=>aPtr r_2 fun x_2=>bnd (C Aj5 [.pointer x_2,.int .i64 env] w3) fun r_3 w4=>aSl r_3 fun x_3 xn_1 xc_1=>nw (.map [] 0) w4 fun b w5=>nw (.cells Dd4 false [.pointer k,.int .i64 env,.slice x_3 xn_1 xc_1,.map (some b)]) w5 fun b_1 w6=>some (.tuple ⟨[.pointer (some ⟨b_1,0,none⟩),.int .i64 0]⟩,w6)):=by kernel_rfl
def Az0:Cuts:={ globs:=0,loops:=[],regs:=[],plans:=[] }
def Bm3:List Item:=A7 Tryz.f18
theorem Dv6 (C:A4) (R:A5) (c:Option Addr) (i:Int) (h:H) :
 A8 PR Az0 C R Q2 Tryz.f18 100000 true Bm3 [(0,.pointer c),(1,.int .i64 i)] h =
 nw (.cells H1 false [.int .i64 0,.int .i64 0,.int .i64 0,.int .i64 0,.int .u8 0,.int .u8 0,.int .u8 0,.int .u8 0,.int .u8 0,.int .u8 0,.int .u8 0,.int .u8 0,.int .u8 0,.int .u8 0,.int .u8 0,.int .u8 0,.int .u8 0,.int .u8 0,.int .u8 0,.int .u8 0,.int .u8 0,.int .u8 0,.int .u8 0,.int .u8 0,.int .u8 0,.int .u8 0,.int .u8 0,.int .u8 0,.int .u8 0,.int .u8 0,.int .u8 0,.int .u8 0,.int .u8 0,.int .u8 0,.int .u8 0,.int .u8 0]) h fun b w=>bnd (C Aq5 [.int .i64 i] w) fun r w1=>aAgg r fun x=>bnd (C H4 [.pointer c,.agg ⟨x⟩,.func (.func Au6) ⟨[]⟩ ⟨[]⟩] w1) fun r_1 w2=>as2 r_1 fun r_2 r_3=>aAgg r_2 fun x_1=>aInt .i64 r_3 fun x_2=>ck (List.length x_1=36) (pAgg ⟨b,0,none⟩ x_1 w2 fun w3=>gAgg ⟨b,0,none⟩ 36 w3 fun x_3=>some (.tuple ⟨[.agg ⟨x_3⟩,.int .i64 x_2]⟩,w3)):=by kernel_rfl
def B38:Cuts:={ globs:=0,loops:=[],regs:=[],plans:=[] }
def Dz4:List Item:=A7 Tryz.f22
theorem Gf6 (C:A4) (R:A5) (k:Option Addr) (env:Int) (c:List Value) (h:H) :
 A8 PR B38 C R Q3 Tryz.f22 100000 true Dz4 [(0,.pointer k),(1,.int .i64 env),(2,.agg ⟨c⟩)] h =
 nw (.cells Aw4 false c) h fun b w=>nw (.cells Ek6 false [.int .i64 0,.int .i64 0,.slice none 0 0]) w fun b_1 w1=>bnd (cond (decide (env<0)) (some (true,w1)) (aSome k fun p=>gSl (Addr.add p 0) w1 fun _ xn _=>some (decide (env≥((xn:Nat):Int)),w1))) fun c_1 w2=>cond c_1
 (pAgg ⟨b_1,0,none⟩ [.int .i64 1,.int .i64 0,.slice none 0 0] w2 fun w3=>gAgg ⟨b_1,0,none⟩ 3 w3 fun x_1=>some (.agg ⟨x_1⟩,w3))
 (gAgg ⟨b,0,none⟩ 7 w2 fun x_2=>bnd (C A04 [.pointer k,.int .i64 env,.agg ⟨x_2⟩] w2) fun r w4=>as3 r fun r_1 r_2 r_3=>aSl r_1 fun x_3 xn_1 xc_1=>aInt .i64 r_2 fun x_4=>aBool r_3 fun x_5=>cond x_5
 (pAgg ⟨b_1,0,none⟩ [.int .i64 x_4,.int .i64 0,.slice x_3 xn_1 xc_1] w4 fun w5=>gAgg ⟨b_1,0,none⟩ 3 w5 fun x_6=>some (.agg ⟨x_6⟩,w5))
 (gAgg ⟨b,0,none⟩ 7 w4 fun x_7=>bnd (C Ax0 [.pointer k,.int .i64 env,.agg ⟨x_7⟩] w4) fun r_4 w6=>as2 r_4 fun r_5 r_6=>aInt .i64 r_5 fun x_8=>aInt .i64 r_6 fun x_9=>pAgg ⟨b_1,0,none⟩ [.int .i64 x_9,.int .i64 x_8,.slice none 0 0] w6 fun w7=>gAgg ⟨b_1,0,none⟩ 3 w7 fun x_10=>some (.agg ⟨x_10⟩,w7))):=by kernel_rfl
def Ay6:Cuts:={ globs:=0,loops:=[],regs:=[],plans:=[] }
def Bo3:List Item:=A7 Tryz.f23
theorem Dx9 (C:A4) (R:A5) (c:Option Addr) (i:Int) (h:H) :
 A8 PR Ay6 C R Q0 Tryz.f23 100000 true Bo3 [(0,.pointer c),(1,.int .i64 i)] h =
 nw (.cells D1 false [.int .i64 0,.int .i64 0,.int .i64 0,.int .i64 0,.int .i64 0,.int .i64 0,.int .i64 0,.int .i64 0,.int .i64 0,.int .i64 0,.int .i64 0,.int .i64 0,.int .i64 0,.int .i64 0,.int .i64 0,.int .i64 0]) h fun b w=>bnd (C A37 [.int .i64 i] w) fun r w1=>aAgg r fun x=>bnd (C I7 [.pointer c,.agg ⟨x⟩,.func (.func A22) ⟨[]⟩ ⟨[]⟩] w1) fun r_1 w2=>as2 r_1 fun r_2 r_3=>aAgg r_2 fun x_1=>aInt .i64 r_3 fun x_2=>ck (List.length x_1=16) (pAgg ⟨b,0,none⟩ x_1 w2 fun w3=>gAgg ⟨b,0,none⟩ 16 w3 fun x_3=>some (.tuple ⟨[.agg ⟨x_3⟩,.int .i64 x_2]⟩,w3)):=by kernel_rfl
def Ao9:Cuts:={ globs:=0,loops:=[],regs:=[],plans:=[] }
def Bd3:List Item:=A7 Tryz.f24
theorem Df5 (C:A4) (R:A5) (c:Option Addr) (i:Int) (p:List Value) (h:H) :
 A8 PR Ao9 C R N6 Tryz.f24 100000 true Bd3 [(0,.pointer c),(1,.int .i64 i),(2,.agg ⟨p⟩)] h =
 nw (.cells D1 false p) h fun b w=>gAgg ⟨b,0,none⟩ 16 w fun x=>bnd (C A16 [.agg ⟨x⟩] w) fun r w1=>as2 r fun r_1 r_2=>aSl r_1 fun x_1 xn xc=>aBool r_2 fun x_2=>bnd (C A37 [.int .i64 i] w1) fun r_3 w2=>aAgg r_3 fun x_3=>bnd (C I5 [.pointer c,.agg ⟨x_3⟩,.slice x_1 xn xc,.bool x_2] w2) fun r_4 w3=>aBool r_4 fun x_4=>some (.bool x_4,w3):=by kernel_rfl
def Am0:Cuts:={ globs:=0,loops:=[],regs:=[],plans:=[] }
def Bd1:List Item:=A7 Tryz.f28
theorem Df9 (C:A4) (R:A5) (c:Option Addr) (i:Int) (f:List Value) (h:H) :
 A8 PR Am0 C R I9 Tryz.f28 100000 true Bd1 [(0,.pointer c),(1,.int .i64 i),(2,.agg ⟨f⟩)] h =
 nw (.cells E1 false f) h fun b w=>gAgg ⟨b,0,none⟩ 4 w fun x=>bnd (C A41 [.agg ⟨x⟩] w) fun r w1=>as2 r fun r_1 r_2=>aSl r_1 fun x_1 xn xc=>aBool r_2 fun x_2=>bnd (C Aq7 [.int .i64 i] w1) fun r_3 w2=>aAgg r_3 fun x_3=>bnd (C I5 [.pointer c,.agg ⟨x_3⟩,.slice x_1 xn xc,.bool x_2] w2) fun r_4 w3=>aBool r_4 fun x_4=>some (.bool x_4,w3):=by kernel_rfl
def Db7:Cuts:={ globs:=0,loops:=[],regs:=[],plans:=[(1,⟨[0,1,2,3,4,5,6,7],[0,1,0,4,15,12,63,127],[(3,[1]),(5,[1])],[]⟩)] }
def Eb9:List Item:=A7 Tryz.f53
theorem Gq5 (C:A4) (R:A5)  (h:H) :
 A8 PR Db7 C R A89 Tryz.f53 100000 true Eb9 [] h =
 ck ((0:Int)≤448∧(448:Int)≤448∧448≤(B1:Int)) (nw (.cells A6 false (G8 (Int.toNat 448) [.int .u8 0])) h fun b w=>gCells (some ⟨b,0,none⟩) (Int.toNat 448) w fun cs=>asBytes cs fun l=>bnd (C O3 [.agg ⟨[.int .i64 0,.int .i64 0,.int .i64 1,.int .i64 1,.int .u8 0,.int .u8 0,.int .u8 0,.int .u8 0,.int .u8 0,.int .u8 0,.int .u8 0,.int .u8 0,.int .u8 0,.int .u8 0,.int .u8 0,.int .u8 0,.int .u8 0,.int .u8 0,.int .u8 0,.int .u8 0,.int .u8 0,.int .u8 0,.int .u8 0,.int .u8 0,.int .u8 0,.int .u8 0,.int .u8 0,.int .u8 0,.int .u8 0,.int .u8 0,.int .u8 0,.int .u8 0,.int .u8 0,.int .u8 0,.int .u8 0,.int .u8 0]⟩] w) fun r w1=>aStr r fun x=>gCells (some ⟨b,0,none⟩) (Int.toNat 448) w1 fun cs_1=>asBytes cs_1 fun l_1=>same (.string (ByteArray.mk ⟨l⟩)) (.string (ByteArray.mk ⟨l_1⟩)) (ck (ByteArray.size (ByteArray.mk ⟨l⟩)+ByteArray.size x≤B1) (bnd (C Av1 [.int .i64 0] w1) fun r_1 w2=>aStr r_1 fun x_1=>gCells (some ⟨b,0,none⟩) (Int.toNat 448) w2 fun cs_2=>asBytes cs_2 fun l_2=>same (.string (ByteArray.mk ⟨l⟩)) (.string (ByteArray.mk ⟨l_2⟩)) (ck (ByteArray.size ((ByteArray.mk ⟨l⟩)++x)+ByteArray.size x_1≤B1) (some (.string (((ByteArray.mk ⟨l⟩)++x)++x_1),w2)))))):=by kernel_rfl
def B48:Cuts:={ globs:=0,loops:=[],regs:=[],plans:=[] }
def D19:List Item:=A7 Tryz.f60
theorem Gh3 (C:A4) (R:A5) (i:Int) (h:H) :
 A8 PR B48 C R Aq5 Tryz.f60 100000 true D19 [(0,.int .i64 i)] h =
 nw (.cells D6 false [.int .i64 0,.int .i64 0]) h fun b w=>pAgg ⟨b,0,none⟩ [.int .i64 3,.int .i64 i] w fun w1=>gAgg ⟨b,0,none⟩ 2 w1 fun x=>some (.agg ⟨x⟩,w1):=by kernel_rfl
def Ac4:Cuts:={ globs:=0,loops:=[],regs:=[(8,[6,8,11,12])],plans:=[(7,⟨[0,1,2,3,4,5,6,7,8,9],[0,1,3,7,0,31,63,31,159,511],[(7,[5])],[]⟩)] }
def Am8:List Item:=A7 Tryz.f61
def Ag8:List Item:=stk [0,1,0,1,0,1,0,1,0,1,0,1,0,0] Am8
theorem Df3 (C:A4) (R:A5) (c:Option Addr) (r:List Value) (decode:Value) (h:H) :
 A8 PR Ac4 C R H4 Tryz.f61 100000 true Am8 [(0,.pointer c),(1,.agg ⟨r⟩),(2,decode)] h =
 nw (.cells D6 false r) h fun b w=>nw (.cells H1 false [.int .i64 0,.int .i64 0,.int .i64 0,.int .i64 0,.int .u8 0,.int .u8 0,.int .u8 0,.int .u8 0,.int .u8 0,.int .u8 0,.int .u8 0,.int .u8 0,.int .u8 0,.int .u8 0,.int .u8 0,.int .u8 0,.int .u8 0,.int .u8 0,.int .u8 0,.int .u8 0,.int .u8 0,.int .u8 0,.int .u8 0,.int .u8 0,.int .u8 0,.int .u8 0,.int .u8 0,.int .u8 0,.int .u8 0,.int .u8 0,.int .u8 0,.int .u8 0,.int .u8 0,.int .u8 0,.int .u8 0,.int .u8 0]) w fun b_1 w1=>nw (.cells H1 false [.int .i64 0,.int .i64 0,.int .i64 0,.int .i64 0,.int .u8 0,.int .u8 0,.int .u8 0,.int .u8 0,.int .u8 0,.int .u8 0,.int .u8 0,.int .u8 0,.int .u8 0,.int .u8 0,.int .u8 0,.int .u8 0,.int .u8 0,.int .u8 0,.int .u8 0,.int .u8 0,.int .u8 0,.int .u8 0,.int .u8 0,.int .u8 0,.int .u8 0,.int .u8 0,.int .u8 0,.int .u8 0,.int .u8 0,.int .u8 0,.int .u8 0,.int .u8 0,.int .u8 0,.int .u8 0,.int .u8 0,.int .u8 0]) w1 fun b_2 w2=>gAgg ⟨b,0,none⟩ 2 w2 fun x=>bnd (C N4 [.pointer c,.agg ⟨x⟩] w2) fun r_1 w3=>as2 r_1 fun r_2 r_3=>aSl r_2 fun x_1 xn xc=>aBool r_3 fun x_2=>cond (!x_2)
 (gAgg ⟨b_2,0,none⟩ 36 w3 fun x_3=>ck (List.length x_3=36) (pAgg ⟨b_1,0,none⟩ x_3 w3 fun w4=>gAgg ⟨b_1,0,none⟩ 36 w4 fun x_4=>some (.tuple ⟨[.agg ⟨x_4⟩,.int .i64 2]⟩,w4)))
 (aFn decode fun g fi cp=>bnd (C g (fi++([.slice x_1 xn xc]++cp)) w3) fun r_4 w5=>as2 r_4 fun r_5 r_6=>aAgg r_5 fun x_5=>aInt .i64 r_6 fun x_6=>nw (.cells H1 false [.int .i64 0,.int .i64 0,.int .i64 0,.int .i64 0,.int .u8 0,.int .u8 0,.int .u8 0,.int .u8 0,.int .u8 0,.int .u8 0,.int .u8 0,.int .u8 0,.int .u8 0,.int .u8 0,.int .u8 0,.int .u8 0,.int .u8 0,.int .u8 0,.int .u8 0,.int .u8 0,.int .u8 0,.int .u8 0,.int .u8 0,.int .u8 0,.int .u8 0,.int .u8 0,.int .u8 0,.int .u8 0,.int .u8 0,.int .u8 0,.int .u8 0,.int .u8 0,.int .u8 0,.int .u8 0,.int .u8 0,.int .u8 0]) w5 fun b_3 w6=>ck (List.length x_5=36) (pAgg ⟨b_3,0,none⟩ x_5 w6 fun w7=>cond (x_6==2)
 (aSome c fun p=>gMap (Addr.add p 3) w7 fun x_7=>gAgg ⟨b,0,none⟩ 2 w7 fun x_8=>keyN PR D6 (.agg ⟨x_8⟩) (opt x_7 fun r_7=>mapAt w7 r_7 fun es _=>opt (Ak0 (.int .i64 0) (.agg ⟨x_8⟩) es) fun f=>aInt .i64 f.1 fun x_9=>keyN PR D6 (.agg ⟨x_8⟩) (opt x_7 fun r_8=>mapAt w7 r_8 fun es_1 cl_1=>opt (Du6 (.int .i64 0) (.agg ⟨x_8⟩) es_1 cl_1) fun f_1=>aInt .i64 f_1.1 fun _=>lt (H.set w7 r_8 f_1.2.2) fun w8=>keyN PR D6 (.agg ⟨x_8⟩) (opt x_7 fun r_9=>mapAt w8 r_9 fun es_2 _=>opt (Ak0 (.int .i64 0) (.agg ⟨x_8⟩) es_2) fun f_2=>aInt .i64 f_2.1 fun x_11=>same (.int .i64 x_9) (.int .i64 x_11) (opt x_7 fun r_10=>mapAt w8 r_10 fun es_3 cl_3=>opt (Bj0 (f_1.2.1:Int) es_3 0) fun i=>lt (H.set w8 r_10 (.map (modN (fun e=>{ e with val:=.int .i64 (IntKind.wrap .i64 (x_9+1)) }) i es_3) cl_3)) fun w9=>R H4 Ag8 [(6,.pointer (some ⟨b_1,0,none⟩)),(8,.pointer (some ⟨b_2,0,none⟩)),(11,.pointer (some ⟨b_3,0,none⟩)),(12,.int .i64 x_6)] w9)))))
 (R H4 Ag8 [(6,.pointer (some ⟨b_1,0,none⟩)),(8,.pointer (some ⟨b_2,0,none⟩)),(11,.pointer (some ⟨b_3,0,none⟩)),(12,.int .i64 x_6)] w7))):=by kernel_rfl
theorem A27 (C:A4) (R:A5) (x6:Addr) (nonev:Addr) (v:Addr) (isv:Int) (h:H) :
 A8 PR Ac4 C R H4 Tryz.f61 100000 true Ag8 [(6,.pointer (some x6)),(8,.pointer (some nonev)),(11,.pointer (some v)),(12,.int .i64 isv)] h =
 cond (isv != 1)
 (gAgg nonev 36 h fun x=>ck (List.length x=36) (pAgg x6 x h fun w=>gAgg x6 36 w fun x_1=>some (.tuple ⟨[.agg ⟨x_1⟩,.int .i64 isv]⟩,w)))
 (gAgg v 36 h fun x_2=>ck (List.length x_2=36) (pAgg x6 x_2 h fun w1=>gAgg x6 36 w1 fun x_3=>some (.tuple ⟨[.agg ⟨x_3⟩,.int .i64 isv]⟩,w1))):=by kernel_rfl
def Db1:Cuts:={ globs:=0,loops:=[],regs:=[],plans:=[] }
def Ee1:List Item:=A7 Tryz.f62
theorem Gp8 (C:A4) (R:A5) (b:Option Addr) (bn bc:Nat) (h:H) :
 A8 PR Db1 C R Au6 Tryz.f62 100000 true Ee1 [(0,.slice b bn bc)] h =
 nw (.cells H1 false [.int .i64 0,.int .i64 0,.int .i64 0,.int .i64 0,.int .u8 0,.int .u8 0,.int .u8 0,.int .u8 0,.int .u8 0,.int .u8 0,.int .u8 0,.int .u8 0,.int .u8 0,.int .u8 0,.int .u8 0,.int .u8 0,.int .u8 0,.int .u8 0,.int .u8 0,.int .u8 0,.int .u8 0,.int .u8 0,.int .u8 0,.int .u8 0,.int .u8 0,.int .u8 0,.int .u8 0,.int .u8 0,.int .u8 0,.int .u8 0,.int .u8 0,.int .u8 0,.int .u8 0,.int .u8 0,.int .u8 0,.int .u8 0]) h fun b_1 w=>bnd (cond (((bn:Nat):Int)==40) (bnd (C Al1 [.slice b bn bc] w) fun r w1=>aBool r fun x=>some (x,w1)) (some (false,w))) fun c w2=>cond c
 (pAgg ⟨b_1,0,none⟩ [.int .i64 0,.int .i64 0,.int .i64 0,.int .i64 0,.int .u8 0,.int .u8 0,.int .u8 0,.int .u8 0,.int .u8 0,.int .u8 0,.int .u8 0,.int .u8 0,.int .u8 0,.int .u8 0,.int .u8 0,.int .u8 0,.int .u8 0,.int .u8 0,.int .u8 0,.int .u8 0,.int .u8 0,.int .u8 0,.int .u8 0,.int .u8 0,.int .u8 0,.int .u8 0,.int .u8 0,.int .u8 0,.int .u8 0,.int .u8 0,.int .u8 0,.int .u8 0,.int .u8 0,.int .u8 0,.int .u8 0,.int .u8 0] w2 fun w3=>gAgg ⟨b_1,0,none⟩ 36 w3 fun x_1=>some (.tuple ⟨[.agg ⟨x_1⟩,.int .i64 0]⟩,w3))
 (bnd (C Be8 [] w2) fun r_1 w4=>aPtr r_1 fun x_2=>bnd (C U1 [.pointer x_2,.slice b bn bc] w4) fun r_2 w5=>as2 r_2 fun r_3 r_4=>aAgg r_3 fun x_3=>aBool r_4 fun x_4=>nw (.cells H1 false [.int .i64 0,.int .i64 0,.int .i64 0,.int .i64 0,.int .u8 0,.int .u8 0,.int .u8 0,.int .u8 0,.int .u8 0,.int .u8 0,.int .u8 0,.int .u8 0,.int .u8 0,.int .u8 0,.int .u8 0,.int .u8 0,.int .u8 0,.int .u8 0,.int .u8 0,.int .u8 0,.int .u8 0,.int .u8 0,.int .u8 0,.int .u8 0,.int .u8 0,.int .u8 0,.int .u8 0,.int .u8 0,.int .u8 0,.int .u8 0,.int .u8 0,.int .u8 0,.int .u8 0,.int .u8 0,.int .u8 0,.int .u8 0]) w5 fun b_2 w6=>ck (List.length x_3=36) (pAgg ⟨b_2,0,none⟩ x_3 w6 fun w7=>cond (!x_4)
 (pAgg ⟨b_1,0,none⟩ [.int .i64 0,.int .i64 0,.int .i64 0,.int .i64 0,.int .u8 0,.int .u8 0,.int .u8 0,.int .u8 0,.int .u8 0,.int .u8 0,.int .u8 0,.int .u8 0,.int .u8 0,.int .u8 0,.int .u8 0,.int .u8 0,.int .u8 0,.int .u8 0,.int .u8 0,.int .u8 0,.int .u8 0,.int .u8 0,.int .u8 0,.int .u8 0,.int .u8 0,.int .u8 0,.int .u8 0,.int .u8 0,.int .u8 0,.int .u8 0,.int .u8 0,.int .u8 0,.int .u8 0,.int .u8 0,.int .u8 0,.int .u8 0] w7 fun w8=>gAgg ⟨b_1,0,none⟩ 36 w8 fun x_5=>some (.tuple ⟨[.agg ⟨x_5⟩,.int .i64 2]⟩,w8))
 (gAgg ⟨b_2,0,none⟩ 36 w7 fun x_6=>ck (List.length x_6=36) (pAgg ⟨b_1,0,none⟩ x_6 w7 fun w9=>gAgg ⟨b_1,0,none⟩ 36 w9 fun x_7=>some (.tuple ⟨[.agg ⟨x_7⟩,.int .i64 1]⟩,w9))))):=by kernel_rfl
def Bm1:Cuts:={ globs:=0,loops:=[],regs:=[],plans:=[(4,⟨[0,1,2,3,4,5,6,7,8,9,10,11,12,13,14,15,16],[0,1,3,7,0,0,32,0,128,0,512,2047,4095,8191,8191,16383,65535],[],[]⟩),(6,⟨[0,1,2,3,4,5,6,7,8,9,10,11,12],[0,1,3,7,0,0,32,0,128,0,512,2047,4095],[],[]⟩),(8,⟨[0,1,2,3,4,5,6,7,8,9,10,11,12,13,14,15,16],[0,1,3,7,0,0,32,0,128,0,512,0,2048,0,8192,32767,65535],[],[]⟩)] }
def Dd1:List Item:=A7 Tryz.f67
theorem Ev2 (C:A4) (R:A5) (k:Option Addr) (env:Int) (c:List Value) (h:H) :
 A8 PR Bm1 C R A04 Tryz.f67 100000 true Dd1 [(0,.pointer k),(1,.int .i64 env),(2,.agg ⟨c⟩)] h =
 nw (.cells Aw4 false c) h fun b w=>gInt .i64 (Addr.add ⟨b,0,none⟩ 0) w fun x=>cond (x==1)
 (aSome k fun p=>gPtr (Addr.add p 5) w fun x_1=>gInt .i64 (Addr.add ⟨b,0,none⟩ 1) w fun x_2=>gInt .i64 (Addr.add ⟨b,0,none⟩ 2) w fun x_3=>gInt .i64 (Addr.add ⟨b,0,none⟩ 3) w fun x_4=>bnd (C Ab1 [.pointer x_1,.int .i64 env,.int .i64 x_2,.int .i64 x_3,.int .i64 x_4] w) fun r w1=>as2 r fun r_1 r_2=>aSl r_1 fun x_5 xn xc=>aInt .i64 r_2 fun x_6=>some (.tuple ⟨[.slice x_5 xn xc,.int .i64 x_6,.bool true]⟩,w1))
 (cond (x==2)
 (aSome k fun p_1=>gPtr (Addr.add p_1 5) w fun x_7=>gInt .i64 (Addr.add ⟨b,0,none⟩ 1) w fun x_8=>gInt .i64 (Addr.add ⟨b,0,none⟩ 2) w fun x_9=>gSl (Addr.add ⟨b,0,none⟩ 6) w fun x_10 xn_1 xc_1=>bnd (C Z4 [.pointer x_7,.int .i64 env,.int .i64 x_8,.int .i64 x_9,.slice x_10 xn_1 xc_1] w) fun r_3 w2=>aInt .i64 r_3 fun x_11=>some (.tuple ⟨[.slice none 0 0,.int .i64 x_11,.bool true]⟩,w2))
 (cond (x==3)
 (aSome k fun p_2=>gPtr (Addr.add p_2 5) w fun x_12=>gInt .i64 (Addr.add ⟨b,0,none⟩ 1) w fun x_13=>gInt .i64 (Addr.add ⟨b,0,none⟩ 2) w fun x_14=>gInt .i64 (Addr.add ⟨b,0,none⟩ 4) w fun x_15=>gInt .i64 (Addr.add ⟨b,0,none⟩ 5) w fun x_16=>gInt .i64 (Addr.add ⟨b,0,none⟩ 3) w fun x_17=>bnd (C Ak4 [.pointer x_12,.int .i64 env,.int .i64 x_13,.int .i64 x_14,.int .i64 x_15,.int .i64 x_16,.int .i64 x_17] w) fun r_4 w3=>aInt .i64 r_4 fun x_18=>some (.tuple ⟨[.slice none 0 0,.int .i64 x_18,.bool true]⟩,w3))
 (some (.tuple ⟨[.slice none 0 0,.int .i64 0,.bool false]⟩,w)))):=by kernel_rfl
def Ac3:Cuts:={ globs:=0,loops:=[],regs:=[(8,[6,8,11,12])],plans:=[(7,⟨[0,1,2,3,4,5,6,7,8,9],[0,1,3,7,0,31,63,31,159,511],[(7,[5])],[]⟩)] }
def Am3:List Item:=A7 Tryz.f69
def Ah2:List Item:=stk [0,1,0,1,0,1,0,1,0,1,0,1,0,0] Am3
theorem Dg3 (C:A4) (R:A5) (c:Option Addr) (r:List Value) (decode:Value) (h:H) :
 A8 PR Ac3 C R I7 Tryz.f69 100000 true Am3 [(0,.pointer c),(1,.agg ⟨r⟩),(2,decode)] h =
 nw (.cells D6 false r) h fun b w=>nw (.cells D1 false [.int .i64 0,.int .i64 0,.int .i64 0,.int .i64 0,.int .i64 0,.int .i64 0,.int .i64 0,.int .i64 0,.int .i64 0,.int .i64 0,.int .i64 0,.int .i64 0,.int .i64 0,.int .i64 0,.int .i64 0,.int .i64 0]) w fun b_1 w1=>nw (.cells D1 false [.int .i64 0,.int .i64 0,.int .i64 0,.int .i64 0,.int .i64 0,.int .i64 0,.int .i64 0,.int .i64 0,.int .i64 0,.int .i64 0,.int .i64 0,.int .i64 0,.int .i64 0,.int .i64 0,.int .i64 0,.int .i64 0]) w1 fun b_2 w2=>gAgg ⟨b,0,none⟩ 2 w2 fun x=>bnd (C N4 [.pointer c,.agg ⟨x⟩] w2) fun r_1 w3=>as2 r_1 fun r_2 r_3=>aSl r_2 fun x_1 xn xc=>aBool r_3 fun x_2=>cond (!x_2)
 (gAgg ⟨b_2,0,none⟩ 16 w3 fun x_3=>ck (List.length x_3=16) (pAgg ⟨b_1,0,none⟩ x_3 w3 fun w4=>gAgg ⟨b_1,0,none⟩ 16 w4 fun x_4=>some (.tuple ⟨[.agg ⟨x_4⟩,.int .i64 2]⟩,w4)))
 (aFn decode fun g fi cp=>bnd (C g (fi++([.slice x_1 xn xc]++cp)) w3) fun r_4 w5=>as2 r_4 fun r_5 r_6=>aAgg r_5 fun x_5=>aInt .i64 r_6 fun x_6=>nw (.cells D1 false [.int .i64 0,.int .i64 0,.int .i64 0,.int .i64 0,.int .i64 0,.int .i64 0,.int .i64 0,.int .i64 0,.int .i64 0,.int .i64 0,.int .i64 0,.int .i64 0,.int .i64 0,.int .i64 0,.int .i64 0,.int .i64 0]) w5 fun b_3 w6=>ck (List.length x_5=16) (pAgg ⟨b_3,0,none⟩ x_5 w6 fun w7=>cond (x_6==2)
 (aSome c fun p=>gMap (Addr.add p 3) w7 fun x_7=>gAgg ⟨b,0,none⟩ 2 w7 fun x_8=>keyN PR D6 (.agg ⟨x_8⟩) (opt x_7 fun r_7=>mapAt w7 r_7 fun es _=>opt (Ak0 (.int .i64 0) (.agg ⟨x_8⟩) es) fun f=>aInt .i64 f.1 fun x_9=>keyN PR D6 (.agg ⟨x_8⟩) (opt x_7 fun r_8=>mapAt w7 r_8 fun es_1 cl_1=>opt (Du6 (.int .i64 0) (.agg ⟨x_8⟩) es_1 cl_1) fun f_1=>aInt .i64 f_1.1 fun _=>lt (H.set w7 r_8 f_1.2.2) fun w8=>keyN PR D6 (.agg ⟨x_8⟩) (opt x_7 fun r_9=>mapAt w8 r_9 fun es_2 _=>opt (Ak0 (.int .i64 0) (.agg ⟨x_8⟩) es_2) fun f_2=>aInt .i64 f_2.1 fun x_11=>same (.int .i64 x_9) (.int .i64 x_11) (opt x_7 fun r_10=>mapAt w8 r_10 fun es_3 cl_3=>opt (Bj0 (f_1.2.1:Int) es_3 0) fun i=>lt (H.set w8 r_10 (.map (modN (fun e=>{ e with val:=.int .i64 (IntKind.wrap .i64 (x_9+1)) }) i es_3) cl_3)) fun w9=>R I7 Ah2 [(6,.pointer (some ⟨b_1,0,none⟩)),(8,.pointer (some ⟨b_2,0,none⟩)),(11,.pointer (some ⟨b_3,0,none⟩)),(12,.int .i64 x_6)] w9)))))
 (R I7 Ah2 [(6,.pointer (some ⟨b_1,0,none⟩)),(8,.pointer (some ⟨b_2,0,none⟩)),(11,.pointer (some ⟨b_3,0,none⟩)),(12,.int .i64 x_6)] w7))):=by kernel_rfl
theorem A38 (C:A4) (R:A5) (x6:Addr) (nonev:Addr) (v:Addr) (isv:Int) (h:H) :
 A8 PR Ac3 C R I7 Tryz.f69 100000 true Ah2 [(6,.pointer (some x6)),(8,.pointer (some nonev)),(11,.pointer (some v)),(12,.int .i64 isv)] h =
 cond (isv != 1)
 (gAgg nonev 16 h fun x=>ck (List.length x=16) (pAgg x6 x h fun w=>gAgg x6 16 w fun x_1=>some (.tuple ⟨[.agg ⟨x_1⟩,.int .i64 isv]⟩,w)))
 (gAgg v 16 h fun x_2=>ck (List.length x_2=16) (pAgg x6 x_2 h fun w1=>gAgg x6 16 w1 fun x_3=>some (.tuple ⟨[.agg ⟨x_3⟩,.int .i64 isv]⟩,w1))):=by kernel_rfl
def B34:Cuts:={ globs:=0,loops:=[],regs:=[],plans:=[] }
def Dz7:List Item:=A7 Tryz.f70
theorem Gh9 (C:A4) (R:A5) (i:Int) (h:H) :
 A8 PR B34 C R A37 Tryz.f70 100000 true Dz7 [(0,.int .i64 i)] h =
 nw (.cells D6 false [.int .i64 0,.int .i64 0]) h fun b w=>pAgg ⟨b,0,none⟩ [.int .i64 1,.int .i64 i] w fun w1=>gAgg ⟨b,0,none⟩ 2 w1 fun x=>some (.agg ⟨x⟩,w1):=by kernel_rfl
def B30:Cuts:={ globs:=0,loops:=[],regs:=[],plans:=[(1,⟨[1,0,2,3,4,5,6],[0,0,3,7,7,31,63],[(0,[1])],[]⟩)] }
def Dz2:List Item:=A7 Tryz.f72
theorem Gi8 (C:A4) (R:A5) (p:List Value) (h:H) :
 A8 PR B30 C R A16 Tryz.f72 100000 true Dz2 [(0,.agg ⟨p⟩)] h =
 nw (.cells D1 false p) h fun b w=>gAgg ⟨b,0,none⟩ 16 w fun x=>bnd (C Ba2 [] w) fun r w1=>aPtr r fun x_1=>gAgg ⟨b,0,none⟩ 16 w1 fun x_2=>same (.agg ⟨x⟩) (.agg ⟨x_2⟩) (bnd (C S8 [.pointer x_1,.agg ⟨x⟩] w1) fun r_1 w2=>as2 r_1 fun r_2 r_3=>aSl r_2 fun x_3 xn xc=>aBool r_3 fun x_4=>some (.tuple ⟨[.slice x_3 xn xc,.bool x_4]⟩,w2)):=by kernel_rfl
def Bl2:Cuts:={ globs:=0,loops:=[],regs:=[],plans:=[] }
def Dd5:List Item:=A7 Tryz.f78
theorem Eu4 (C:A4) (R:A5) (f:List Value) (h:H) :
 A8 PR Bl2 C R A13 Tryz.f78 100000 true Dd5 [(0,.agg ⟨f⟩)] h =
 nw (.cells E1 false f) h fun b w=>gInt .i64 (Addr.add ⟨b,0,none⟩ 0) w fun x=>gInt .i64 (Addr.add ⟨b,0,none⟩ 1) w fun x_1=>gInt .i64 (Addr.add ⟨b,0,none⟩ 2) w fun x_2=>gInt .i64 (Addr.add ⟨b,0,none⟩ 3) w fun x_3=>nw (.cells A6 false [.int .u8 (IntKind.wrap .u8 (x)),.int .u8 (IntKind.wrap .u8 (x_1)),.int .u8 (IntKind.wrap .u8 (x_2)),.int .u8 (IntKind.wrap .u8 (x_3)),.int .u8 179]) w fun b_1 w1=>gCells (some ⟨b_1,0,none⟩) 5 w1 fun cs=>asBytes cs fun l=>bnd (C Ad9 [.string (ByteArray.mk ⟨l⟩)] w1) fun r w2=>aInt .u8 r fun x_4=>nw (.cells A6 false [.int .u8 x_4,.int .u8 0,.int .u8 0]) w2 fun b_2 w3=>gCells (some ⟨b_2,0,none⟩) 3 w3 fun cs_1=>asBytes cs_1 fun l_1=>ck (ByteArray.size (ByteArray.mk ⟨l⟩)+ByteArray.size (ByteArray.mk ⟨l_1⟩)≤B1) (some (.string ((ByteArray.mk ⟨l⟩)++(ByteArray.mk ⟨l_1⟩)),w3)):=by kernel_rfl
def B70:Cuts:={ globs:=0,loops:=[(2,[0,6])],regs:=[],plans:=[] }
def Dv7:List Item:=A7 Tryz.f81
def Bi9:List Item:=stk [0,1,0,0,1,4,5] Dv7
theorem Hc3 (C:A4) (R:A5) (c:Option Addr) (h:H) :
 A8 PR B70 C R Ap7 Tryz.f81 100000 true Dv7 [(0,.pointer c)] h =
 R Ap7 Bi9 [(0,.pointer c),(6,.int .i64 0)] h:=by kernel_rfl
theorem D10 (C:A4) (R:A5) (c:Option Addr) (x6:Int) (h:H) :
 A8 PR B70 C R Ap7 Tryz.f81 100000 true Bi9 [(0,.pointer c),(6,.int .i64 x6)] h =
 cond (decide (x6<8))
 (bnd (C Q0 [.pointer c,.int .i64 x6] h) fun r w=>as2 r fun r_1 r_2=>aAgg r_1 fun x=>aInt .i64 r_2 fun x_1=>nw (.cells D1 false [.int .i64 0,.int .i64 0,.int .i64 0,.int .i64 0,.int .i64 0,.int .i64 0,.int .i64 0,.int .i64 0,.int .i64 0,.int .i64 0,.int .i64 0,.int .i64 0,.int .i64 0,.int .i64 0,.int .i64 0,.int .i64 0]) w fun b w1=>ck (List.length x=16) (pAgg ⟨b,0,none⟩ x w1 fun w2=>cond (x_1==0)
 (some (.int .i64 x6,w2))
 (R Ap7 Bi9 [(0,.pointer c),(6,.int .i64 (IntKind.wrap .i64 (x6+1)))] w2)))
 (some (.int .i64 (-1),h)):=by kernel_rfl
def Ac1:Cuts:={ globs:=0,loops:=[],regs:=[(8,[6,8,11,12])],plans:=[(7,⟨[0,1,2,3,4,5,6,7,8,9],[0,1,3,7,0,31,63,31,159,511],[(7,[5])],[]⟩)] }
def An0:List Item:=A7 Tryz.f84
def Ag9:List Item:=stk [0,1,0,1,0,1,0,1,0,1,0,1,0,0] An0
theorem Df6 (C:A4) (R:A5) (c:Option Addr) (r:List Value) (decode:Value) (h:H) :
 A8 PR Ac1 C R J0 Tryz.f84 100000 true An0 [(0,.pointer c),(1,.agg ⟨r⟩),(2,decode)] h =
 nw (.cells D6 false r) h fun b w=>nw (.cells E1 false [.int .i64 0,.int .i64 0,.int .i64 0,.int .i64 0]) w fun b_1 w1=>nw (.cells E1 false [.int .i64 0,.int .i64 0,.int .i64 0,.int .i64 0]) w1 fun b_2 w2=>gAgg ⟨b,0,none⟩ 2 w2 fun x=>bnd (C N4 [.pointer c,.agg ⟨x⟩] w2) fun r_1 w3=>as2 r_1 fun r_2 r_3=>aSl r_2 fun x_1 xn xc=>aBool r_3 fun x_2=>cond (!x_2)
 (gAgg ⟨b_2,0,none⟩ 4 w3 fun x_3=>ck (List.length x_3=4) (pAgg ⟨b_1,0,none⟩ x_3 w3 fun w4=>gAgg ⟨b_1,0,none⟩ 4 w4 fun x_4=>some (.tuple ⟨[.agg ⟨x_4⟩,.int .i64 2]⟩,w4)))
 (aFn decode fun g fi cp=>bnd (C g (fi++([.slice x_1 xn xc]++cp)) w3) fun r_4 w5=>as2 r_4 fun r_5 r_6=>aAgg r_5 fun x_5=>aInt .i64 r_6 fun x_6=>nw (.cells E1 false [.int .i64 0,.int .i64 0,.int .i64 0,.int .i64 0]) w5 fun b_3 w6=>ck (List.length x_5=4) (pAgg ⟨b_3,0,none⟩ x_5 w6 fun w7=>cond (x_6==2)
 (aSome c fun p=>gMap (Addr.add p 3) w7 fun x_7=>gAgg ⟨b,0,none⟩ 2 w7 fun x_8=>keyN PR D6 (.agg ⟨x_8⟩) (opt x_7 fun r_7=>mapAt w7 r_7 fun es _=>opt (Ak0 (.int .i64 0) (.agg ⟨x_8⟩) es) fun f=>aInt .i64 f.1 fun x_9=>keyN PR D6 (.agg ⟨x_8⟩) (opt x_7 fun r_8=>mapAt w7 r_8 fun es_1 cl_1=>opt (Du6 (.int .i64 0) (.agg ⟨x_8⟩) es_1 cl_1) fun f_1=>aInt .i64 f_1.1 fun _=>lt (H.set w7 r_8 f_1.2.2) fun w8=>keyN PR D6 (.agg ⟨x_8⟩) (opt x_7 fun r_9=>mapAt w8 r_9 fun es_2 _=>opt (Ak0 (.int .i64 0) (.agg ⟨x_8⟩) es_2) fun f_2=>aInt .i64 f_2.1 fun x_11=>same (.int .i64 x_9) (.int .i64 x_11) (opt x_7 fun r_10=>mapAt w8 r_10 fun es_3 cl_3=>opt (Bj0 (f_1.2.1:Int) es_3 0) fun i=>lt (H.set w8 r_10 (.map (modN (fun e=>{ e with val:=.int .i64 (IntKind.wrap .i64 (x_9+1)) }) i es_3) cl_3)) fun w9=>R J0 Ag9 [(6,.pointer (some ⟨b_1,0,none⟩)),(8,.pointer (some ⟨b_2,0,none⟩)),(11,.pointer (some ⟨b_3,0,none⟩)),(12,.int .i64 x_6)] w9)))))
 (R J0 Ag9 [(6,.pointer (some ⟨b_1,0,none⟩)),(8,.pointer (some ⟨b_2,0,none⟩)),(11,.pointer (some ⟨b_3,0,none⟩)),(12,.int .i64 x_6)] w7))):=by kernel_rfl
theorem A24 (C:A4) (R:A5) (x6:Addr) (nonev:Addr) (v:Addr) (isv:Int) (h:H) :
 A8 PR Ac1 C R J0 Tryz.f84 100000 true Ag9 [(6,.pointer (some x6)),(8,.pointer (some nonev)),(11,.pointer (some v)),(12,.int .i64 isv)] h =
 cond (isv != 1)
 (gAgg nonev 4 h fun x=>ck (List.length x=4) (pAgg x6 x h fun w=>gAgg x6 4 w fun x_1=>some (.tuple ⟨[.agg ⟨x_1⟩,.int .i64 isv]⟩,w)))
 (gAgg v 4 h fun x_2=>ck (List.length x_2=4) (pAgg x6 x_2 h fun w1=>gAgg x6 4 w1 fun x_3=>some (.tuple ⟨[.agg ⟨x_3⟩,.int .i64 isv]⟩,w1))):=by kernel_rfl
def B33:Cuts:={ globs:=0,loops:=[],regs:=[],plans:=[] }
def D30:List Item:=A7 Tryz.f85
theorem Gf1 (C:A4) (R:A5) (b:Option Addr) (bn bc:Nat) (h:H) :
 A8 PR B33 C R A25 Tryz.f85 100000 true D30 [(0,.slice b bn bc)] h =
 nw (.cells E1 false [.int .i64 0,.int .i64 0,.int .i64 0,.int .i64 0]) h fun b_1 w=>bnd (cond (((bn:Nat):Int)==8) (bnd (C Al1 [.slice b bn bc] w) fun r w1=>aBool r fun x=>some (x,w1)) (some (false,w))) fun c w2=>cond c
 (pAgg ⟨b_1,0,none⟩ [.int .i64 0,.int .i64 0,.int .i64 0,.int .i64 0] w2 fun w3=>gAgg ⟨b_1,0,none⟩ 4 w3 fun x_1=>some (.tuple ⟨[.agg ⟨x_1⟩,.int .i64 0]⟩,w3))
 (bnd (C Ba3 [] w2) fun r_1 w4=>aPtr r_1 fun x_2=>bnd (C U4 [.pointer x_2,.slice b bn bc] w4) fun r_2 w5=>as2 r_2 fun r_3 r_4=>aAgg r_3 fun x_3=>aBool r_4 fun x_4=>nw (.cells E1 false [.int .i64 0,.int .i64 0,.int .i64 0,.int .i64 0]) w5 fun b_2 w6=>ck (List.length x_3=4) (pAgg ⟨b_2,0,none⟩ x_3 w6 fun w7=>cond (!x_4)
 (pAgg ⟨b_1,0,none⟩ [.int .i64 0,.int .i64 0,.int .i64 0,.int .i64 0] w7 fun w8=>gAgg ⟨b_1,0,none⟩ 4 w8 fun x_5=>some (.tuple ⟨[.agg ⟨x_5⟩,.int .i64 2]⟩,w8))
 (gAgg ⟨b_2,0,none⟩ 4 w7 fun x_6=>ck (List.length x_6=4) (pAgg ⟨b_1,0,none⟩ x_6 w7 fun w9=>gAgg ⟨b_1,0,none⟩ 4 w9 fun x_7=>some (.tuple ⟨[.agg ⟨x_7⟩,.int .i64 1]⟩,w9))))):=by kernel_rfl
def Dw2:Cuts:={ globs:=0,loops:=[],regs:=[],plans:=[] }
def Ez3:List Item:=A7 Tryz.f98
theorem Hb0 (C:A4) (R:A5) (p:List Value) (want:Int) (h:H) :
 A8 PR Dw2 C R B67 Tryz.f98 100000 true Ez3 [(0,.agg ⟨p⟩),(1,.int .i64 want)] h =
 nw (.cells D1 false p) h fun b w=>bnd (C W2 [.int .i64 8,.int .i64 want,.func (.func Ba7) ⟨[]⟩ ⟨[.pointer (some ⟨b,0,none⟩)]⟩] w) fun r w1=>aSl r fun x xn xc=>some (.slice x xn xc,w1):=by kernel_rfl
def Do1:Cuts:={ globs:=0,loops:=[],regs:=[],plans:=[] }
def Ej4:List Item:=A7 Tryz.f100
theorem G07 (C:A4) (R:A5) (k:Int) (fv0:Addr) (h:H) :
 A8 PR Do1 C R A28 Tryz.f100 100000 true Ej4 [(0,.int .i64 k),(1,.pointer (some fv0))] h =
 gPtr fv0 h fun x=>bnd (C H9 [.pointer x,.int .i64 k] h) fun r w=>as2 r fun r_1 r_2=>aAgg r_1 fun x_1=>aInt .i64 r_2 fun x_2=>nw (.cells E1 false [.int .i64 0,.int .i64 0,.int .i64 0,.int .i64 0]) w fun b w1=>ck (List.length x_1=4) (pAgg ⟨b,0,none⟩ x_1 w1 fun w2=>some (.bool (x_2==0),w2)):=by kernel_rfl
def D81:Cuts:={ globs:=0,loops:=[],regs:=[],plans:=[] }
def Gc6:List Item:=A7 Tryz.f102
theorem Hj0 (C:A4) (R:A5) (ok:Bool) (n:Int) (h:H) :
 A8 PR D81 C R Dh9 Tryz.f102 100000 true Gc6 [(0,.bool ok),(1,.int .i64 n)] h =
 nw (.cells V0 false [.int .i64 0,.int .i64 0,.slice none 0 0,.bool false]) h fun b w=>cond (!ok)
 (bnd (C Ad2 [.int .i64 105] w) fun r w1=>aAgg r fun x=>ck (List.length x=4) (pAgg ⟨b,0,none⟩ x w1 fun w2=>gAgg ⟨b,0,none⟩ 4 w2 fun x_1=>some (.agg ⟨x_1⟩,w2)))
 (pAgg ⟨b,0,none⟩ [.int .i64 n,.int .i64 0,.slice none 0 0,.bool false] w fun w3=>gAgg ⟨b,0,none⟩ 4 w3 fun x_2=>some (.agg ⟨x_2⟩,w3)):=by kernel_rfl
def Ei9:Cuts:={ globs:=0,loops:=[],regs:=[],plans:=[] }
def Gm5:List Item:=A7 Tryz.f113
theorem Hp2 (C:A4) (R:A5) (frames:Int) (h:H) :
 A8 PR Ei9 C R Du0 Tryz.f113 100000 true Gm5 [(0,.int .i64 frames)] h =
 ck ((0:Int)≤IntKind.wrap .i64 (64*(mm2 false (mm2 true frames 0) 256))∧(IntKind.wrap .i64 (64*(mm2 false (mm2 true frames 0) 256)):Int)≤IntKind.wrap .i64 (64*(mm2 false (mm2 true frames 0) 256))∧IntKind.wrap .i64 (64*(mm2 false (mm2 true frames 0) 256))≤(B1:Int)) (nw (.cells A6 false (G8 (Int.toNat (IntKind.wrap .i64 (64*(mm2 false (mm2 true frames 0) 256)))) [.int .u8 0])) h fun b w=>nw (.cells Eh5 false [.slice (some ⟨b,0,none⟩) (Int.toNat (IntKind.wrap .i64 (64*(mm2 false (mm2 true frames 0) 256)))) (Int.toNat (IntKind.wrap .i64 (64*(mm2 false (mm2 true frames 0) 256))))]) w fun b_1 w1=>some (.pointer (some ⟨b_1,0,none⟩),w1)):=by kernel_rfl
def D45:Cuts:={ globs:=0,loops:=[],regs:=[],plans:=[] }
def Gb3:List Item:=A7 Tryz.f117
theorem Hl4 (C:A4) (R:A5) (lease:Int) (h:H) :
 A8 PR D45 C R Dg5 Tryz.f117 100000 true Gb3 [(0,.int .i64 lease)] h =
 nw (.cells Ex8 false [.int .i64 (mm2 false (mm2 true lease 1) 1000),.bool false,.int .i64 0,.int .i64 0,.int .i64 0,.slice none 0 0,.int .i64 0,.int .i64 0,.int .i64 0]) h fun b w=>some (.pointer (some ⟨b,0,none⟩),w):=by kernel_rfl
def A75:Cuts:={ globs:=0,loops:=[],regs:=[],plans:=[] }
def Bv0:List Item:=A7 Tryz.f118
theorem D61 (C:A4) (R:A5) (r:Option Addr) (lo:Int) (n:Int) (h:H) :
 A8 PR A75 C R An7 Tryz.f118 100000 true Bv0 [(0,.pointer r),(1,.int .i64 lo),(2,.int .i64 n)] h =
 bnd (cond (decide (lo<0)) (some (true,h)) (some (decide (n<0),h))) fun c w=>bnd (cond c (some (true,w)) (aSome r fun p=>gPtr (Addr.add p 0) w fun x=>bnd (C A36 [.pointer x] w) fun r_1 w1=>aInt .i64 r_1 fun x_1=>some (decide (lo>x_1),w1))) fun c_1 w2=>bnd (cond c_1 (some (true,w2)) (aSome r fun p_1=>gPtr (Addr.add p_1 0) w2 fun x_2=>bnd (C A36 [.pointer x_2] w2) fun r_2 w3=>aInt .i64 r_2 fun x_3=>some (decide (n>(IntKind.wrap .i64 (x_3-lo))),w3))) fun c_2 w4=>cond c_2
 (some (.tuple ⟨[.int .i64 0,.int .i64 1]⟩,w4))
 (aSome r fun p_2=>gSl (Addr.add p_2 2) w4 fun _ xn _=>cond (decide (((xn:Nat):Int)≥32))
 (some (.tuple ⟨[.int .i64 0,.int .i64 4]⟩,w4))
 (aSome r fun p_3=>gSl (Addr.add p_3 2) w4 fun x_5 xn_1 xc_1=>nw (.cells Au3 false [.int .i64 lo,.int .i64 n]) w4 fun b w5=>gCells (some ⟨b,0,none⟩) (1*2) w5 fun cs=>ckB (fitsOpen x_5 Au3 w5) (apd Au3 2 x_5 xn_1 xc_1 1 cs w5 fun a an ac w6=>aSome r fun p_4=>pV (Addr.add p_4 2) (.slice a an ac) w6 fun w7=>aSome r fun p_5=>gSl (Addr.add p_5 2) w7 fun _ xn_2 _=>some (.tuple ⟨[.int .i64 (IntKind.wrap .i64 (((xn_2:Nat):Int)-1)),.int .i64 0]⟩,w7)))):=by kernel_rfl
def Bd0:Cuts:={ globs:=0,loops:=[(3,[0,3,4])],regs:=[],plans:=[(5,⟨[0,1,2,3,4,5,6,7,8,9,10],[0,0,2,6,14,0,32,126,255,511,1023],[(5,[4])],[]⟩),(6,⟨[0,1,2,3,4,5,6,7,8,9,10],[0,0,2,6,14,0,32,126,255,511,1023],[],[]⟩)] }
def Bv4:List Item:=A7 Tryz.f124
def Av5:List Item:=stk [0,1,0,1,0,0,1,4,5] Bv4
theorem E60 (C:A4) (R:A5) (envs:Int) (h:H) :
 A8 PR Bd0 C R Y4 Tryz.f124 100000 true Bv4 [(0,.int .i64 envs)] h =
 nw (.cells Ei2 false [.slice none 0 0,.slice none 0 0]) h fun b w=>R Y4 Av5 [(0,.int .i64 envs),(3,.pointer (some ⟨b,0,none⟩)),(4,.int .i64 0)] w:=by kernel_rfl
theorem B96 (C:A4) (R:A5) (envs:Int) (s:Addr) (i:Int) (h:H) :
 A8 PR Bd0 C R Y4 Tryz.f124 100000 true Av5 [(0,.int .i64 envs),(3,.pointer (some s)),(4,.int .i64 i)] h =
 bnd (cond (decide (i<envs)) (some (decide (i<40),h)) (some (false,h))) fun c w=>cond c
 (gSl (Addr.add s 0) w fun x xn xc=>bnd (C Y6 [.int .i64 32] w) fun r w1=>aPtr r fun x_1=>gSl (Addr.add s 0) w1 fun x_2 xn_1 xc_1=>same (.slice x xn xc) (.slice x_2 xn_1 xc_1) (nw (.cells A42 false [.pointer x_1]) w1 fun b w2=>gCells (some ⟨b,0,none⟩) (1*1) w2 fun cs=>ckB (fitsOpen x A42 w2) (apd A42 1 x xn xc 1 cs w2 fun a an ac w3=>pV (Addr.add s 0) (.slice a an ac) w3 fun w4=>gSl (Addr.add s 1) w4 fun x_3 xn_2 xc_2=>ck ((0:Int)≤32∧(32:Int)≤32∧32≤(B1:Int)) (nw (.cells O2 false (G8 (Int.toNat 32) [.int .i64 0,.int .i64 0,.int .i64 0,.int .i64 0,.int .i64 0,.int .i64 0])) w4 fun b_1 w5=>nw (.cells Bo0 false [.slice (some ⟨b_1,0,none⟩) (Int.toNat 32) (Int.toNat 32)]) w5 fun b_2 w6=>gCells (some ⟨b_2,0,none⟩) (1*1) w6 fun cs_1=>ckB (fitsOpen x_3 Bo0 w6) (apd Bo0 1 x_3 xn_2 xc_2 1 cs_1 w6 fun a_1 an_1 ac_1 w7=>pV (Addr.add s 1) (.slice a_1 an_1 ac_1) w7 fun w8=>R Y4 Av5 [(0,.int .i64 envs),(3,.pointer (some s)),(4,.int .i64 (IntKind.wrap .i64 (i+1)))] w8)))))
 (some (.pointer (some s),w)):=by kernel_rfl
def B25:Cuts:={ globs:=0,loops:=[],regs:=[],plans:=[] }
def D16:List Item:=A7 Tryz.f125
theorem Gh8 (C:A4) (R:A5) (lease:Int) (h:H) :
 A8 PR B25 C R Bi7 Tryz.f125 100000 true D16 [(0,.int .i64 lease)] h =
 nw (.cells Ex1 false [.int .i64 (mm2 false (mm2 true lease 1) 1000),.int .i64 0,.int .i64 0,.int .i64 0,.int .i64 0,.int .i64 0,.bool false,.int .i64 0,.slice none 0 0]) h fun b w=>some (.pointer (some ⟨b,0,none⟩),w):=by kernel_rfl
def Dq7:Cuts:={ globs:=0,loops:=[(2,[0,1,5])],regs:=[],plans:=[] }
def En1:List Item:=A7 Tryz.f127
def Bz9:List Item:=stk [0,1,0,0,1,4,5] En1
theorem Hr9 (C:A4) (R:A5) (l:Option Addr) (ln lc:Nat) (s:Int) (h:H) :
 A8 PR Dq7 C R A50 Tryz.f127 100000 true En1 [(0,.slice l ln lc),(1,.int .i64 s)] h =
 R A50 Bz9 [(0,.slice l ln lc),(1,.int .i64 s),(5,.int .i64 0)] h:=by kernel_rfl
theorem Ei5 (C:A4) (R:A5) (l:Option Addr) (ln lc:Nat) (s:Int) (i:Int) (h:H) :
 A8 PR Dq7 C R A50 Tryz.f127 100000 true Bz9 [(0,.slice l ln lc),(1,.int .i64 s),(5,.int .i64 i)] h =
 cond (decide (i<((ln:Nat):Int)))
 (aSome l fun p=>ck ((0:Int)≤i∧i<((ln:Nat):Int)) (gInt .i64 (Addr.add (B3 p) (Int.toNat i*1)) h fun x=>cond (x==s)
 (some (.bool true,h))
 (R A50 Bz9 [(0,.slice l ln lc),(1,.int .i64 s),(5,.int .i64 (IntKind.wrap .i64 (i+1)))] h)))
 (some (.bool false,h)):=by kernel_rfl
def Dp2:Cuts:={ globs:=0,loops:=[],regs:=[],plans:=[] }
def Ef7:List Item:=A7 Tryz.f143
theorem G11 (C:A4) (R:A5)  (h:H) :
 A8 PR Dp2 C R Be8 Tryz.f143 100000 true Ef7 [] h =
 bnd (C Ao8 [.int .i64 40,.func (.func Bi4) ⟨[]⟩ ⟨[]⟩,.func (.func Bi8) ⟨[]⟩ ⟨[]⟩] h) fun r w=>aPtr r fun x=>some (.pointer x,w):=by kernel_rfl
def Af8:Cuts:={ globs:=0,loops:=[],regs:=[],plans:=[(4,⟨[0,1,2,3,4,10,5,6,7,8,9,11,12],[0,1,3,7,0,16,63,127,255,255,0,1535,4095],[(5,[3])],[]⟩)] }
def Az9:List Item:=A7 Tryz.f148
theorem B18 (C:A4) (R:A5) (c:Option Addr) (b:Option Addr) (bn bc:Nat) (h:H) :
 A8 PR Af8 C R U1 Tryz.f148 100000 true Az9 [(0,.pointer c),(1,.slice b bn bc)] h =
 nw (.cells H1 false [.int .i64 0,.int .i64 0,.int .i64 0,.int .i64 0,.int .u8 0,.int .u8 0,.int .u8 0,.int .u8 0,.int .u8 0,.int .u8 0,.int .u8 0,.int .u8 0,.int .u8 0,.int .u8 0,.int .u8 0,.int .u8 0,.int .u8 0,.int .u8 0,.int .u8 0,.int .u8 0,.int .u8 0,.int .u8 0,.int .u8 0,.int .u8 0,.int .u8 0,.int .u8 0,.int .u8 0,.int .u8 0,.int .u8 0,.int .u8 0,.int .u8 0,.int .u8 0,.int .u8 0,.int .u8 0,.int .u8 0,.int .u8 0]) h fun b_1 w=>nw (.cells H1 false [.int .i64 0,.int .i64 0,.int .i64 0,.int .i64 0,.int .u8 0,.int .u8 0,.int .u8 0,.int .u8 0,.int .u8 0,.int .u8 0,.int .u8 0,.int .u8 0,.int .u8 0,.int .u8 0,.int .u8 0,.int .u8 0,.int .u8 0,.int .u8 0,.int .u8 0,.int .u8 0,.int .u8 0,.int .u8 0,.int .u8 0,.int .u8 0,.int .u8 0,.int .u8 0,.int .u8 0,.int .u8 0,.int .u8 0,.int .u8 0,.int .u8 0,.int .u8 0,.int .u8 0,.int .u8 0,.int .u8 0,.int .u8 0]) w fun b_2 w1=>aSome c fun p=>gFv (Addr.add p 2) w1 fun x=>isNilF x fun b_3=>bnd (cond b_3 (some (true,w1)) (aSome c fun p_1=>gInt .i64 (Addr.add p_1 0) w1 fun x_1=>some (((bn:Nat):Int) != x_1,w1))) fun c_1 w2=>cond c_1
 (gAgg ⟨b_2,0,none⟩ 36 w2 fun x_2=>ck (List.length x_2=36) (pAgg ⟨b_1,0,none⟩ x_2 w2 fun w3=>gAgg ⟨b_1,0,none⟩ 36 w3 fun x_3=>some (.tuple ⟨[.agg ⟨x_3⟩,.bool false]⟩,w3)))
 (aSome c fun p_2=>gFv (Addr.add p_2 2) w2 fun x_4=>nw (.cells H1 false [.int .i64 0,.int .i64 0,.int .i64 0,.int .i64 0,.int .u8 0,.int .u8 0,.int .u8 0,.int .u8 0,.int .u8 0,.int .u8 0,.int .u8 0,.int .u8 0,.int .u8 0,.int .u8 0,.int .u8 0,.int .u8 0,.int .u8 0,.int .u8 0,.int .u8 0,.int .u8 0,.int .u8 0,.int .u8 0,.int .u8 0,.int .u8 0,.int .u8 0,.int .u8 0,.int .u8 0,.int .u8 0,.int .u8 0,.int .u8 0,.int .u8 0,.int .u8 0,.int .u8 0,.int .u8 0,.int .u8 0,.int .u8 0]) w2 fun b_4 w4=>bnd (C G0 [.slice b bn bc] w4) fun r w5=>aSl r fun x_5 xn xc=>gFv (Addr.add p_2 2) w5 fun x_6=>Bh8 (x_4) (x_6) (aFn x_4 fun g fi cp=>bnd (C g (fi++([.slice x_5 xn xc]++cp)) w5) fun r_1 w6=>as2 r_1 fun r_2 r_3=>aAgg r_2 fun x_7=>aBool r_3 fun x_8=>ck (List.length x_7=36) (pAgg ⟨b_4,0,none⟩ x_7 w6 fun w7=>cond (!x_8)
 (gAgg ⟨b_2,0,none⟩ 36 w7 fun x_9=>ck (List.length x_9=36) (pAgg ⟨b_1,0,none⟩ x_9 w7 fun w8=>gAgg ⟨b_1,0,none⟩ 36 w8 fun x_10=>some (.tuple ⟨[.agg ⟨x_10⟩,.bool false]⟩,w8)))
 (gAgg ⟨b_4,0,none⟩ 36 w7 fun x_11=>ck (List.length x_11=36) (pAgg ⟨b_1,0,none⟩ x_11 w7 fun w9=>gAgg ⟨b_1,0,none⟩ 36 w9 fun x_12=>some (.tuple ⟨[.agg ⟨x_12⟩,.bool true]⟩,w9)))))):=by kernel_rfl
def A32:Cuts:={ globs:=0,loops:=[],regs:=[],plans:=[] }
def Bu3:List Item:=A7 Tryz.f151
theorem D28 (C:A4) (R:A5) (r:Option Addr) (env:Int) (fromv:Int) (atv:Int) (to:Int) (on:Int) (n:Int) (h:H) :
 A8 PR A32 C R Ak4 Tryz.f151 100000 true Bu3 [(0,.pointer r),(1,.int .i64 env),(2,.int .i64 fromv),(3,.int .i64 atv),(4,.int .i64 to),(5,.int .i64 on),(6,.int .i64 n)] h =
 bnd (C Ab1 [.pointer r,.int .i64 env,.int .i64 fromv,.int .i64 atv,.int .i64 n] h) fun r_1 w=>as2 r_1 fun r_2 r_3=>aSl r_2 fun x xn xc=>aInt .i64 r_3 fun x_1=>cond (x_1 != 0)
 (some (.int .i64 x_1,w))
 (bnd (C Z4 [.pointer r,.int .i64 env,.int .i64 to,.int .i64 on,.slice x xn xc] w) fun r_4 w1=>aInt .i64 r_4 fun x_2=>some (.int .i64 x_2,w1)):=by kernel_rfl
def Bg6:Cuts:={ globs:=0,loops:=[],regs:=[],plans:=[] }
def B83:List Item:=A7 Tryz.f152
theorem Eo0 (C:A4) (R:A5) (s:Option Addr) (env:Int) (name:Int) (to:Int) (give:Int) (lo:Int) (n:Int) (h:H) :
 A8 PR Bg6 C R Av8 Tryz.f152 100000 true B83 [(0,.pointer s),(1,.int .i64 env),(2,.int .i64 name),(3,.int .i64 to),(4,.int .i64 give),(5,.int .i64 lo),(6,.int .i64 n)] h =
 bnd (C As2 [.pointer s,.int .i64 env,.int .i64 name] h) fun r w=>as2 r fun r_1 r_2=>aAgg r_1 fun x=>aInt .i64 r_2 fun x_1=>nw (.cells O2 false [.int .i64 0,.int .i64 0,.int .i64 0,.int .i64 0,.int .i64 0,.int .i64 0]) w fun b w1=>ck (List.length x=6) (pAgg ⟨b,0,none⟩ x w1 fun w2=>cond (x_1 != 0)
 (some (.tuple ⟨[.int .i64 0,.int .i64 x_1]⟩,w2))
 (gInt .i64 (Addr.add ⟨b,0,none⟩ 1) w2 fun x_2=>bnd (cond ((O5 .i64 x_2 4)==0) (some (true,w2)) (gInt .i64 (Addr.add ⟨b,0,none⟩ 1) w2 fun x_3=>some ((Em2 .i64 give x_3) != 0,w2))) fun c w3=>cond c
 (some (.tuple ⟨[.int .i64 0,.int .i64 3]⟩,w3))
 (bnd (C Ae5 [.pointer s,.int .i64 to] w3) fun r_3 w4=>aBool r_3 fun x_4=>bnd (cond (!x_4) (some (true,w4)) (some (decide (lo<0),w4))) fun c_1 w5=>bnd (cond c_1 (some (true,w5)) (some (decide (n<0),w5))) fun c_2 w6=>bnd (cond c_2 (some (true,w6)) (gInt .i64 (Addr.add ⟨b,0,none⟩ 3) w6 fun x_5=>some (decide (lo>x_5),w6))) fun c_3 w7=>bnd (cond c_3 (some (true,w7)) (gInt .i64 (Addr.add ⟨b,0,none⟩ 3) w7 fun x_6=>some (decide (n>(IntKind.wrap .i64 (x_6-lo))),w7))) fun c_4 w8=>cond c_4
 (some (.tuple ⟨[.int .i64 0,.int .i64 1]⟩,w8))
 (gInt .i64 (Addr.add ⟨b,0,none⟩ 0) w8 fun x_7=>gInt .i64 (Addr.add ⟨b,0,none⟩ 2) w8 fun x_8=>bnd (C Ar6 [.pointer s,.int .i64 to,.agg ⟨[.int .i64 x_7,.int .i64 give,.int .i64 (IntKind.wrap .i64 (x_8+lo)),.int .i64 n,.int .i64 env,.int .i64 name]⟩] w8) fun r_4 w9=>as2 r_4 fun r_5 r_6=>aInt .i64 r_5 fun x_9=>aInt .i64 r_6 fun x_10=>some (.tuple ⟨[.int .i64 x_9,.int .i64 x_10]⟩,w9))))):=by kernel_rfl
def Af5:Cuts:={ globs:=0,loops:=[],regs:=[],plans:=[(2,⟨[0,1,2,3,4,5,6,7,8,9,10,11,12,13,14],[0,1,3,7,15,31,63,127,255,511,63,63,4095,8191,16383],[],[]⟩)] }
def Az7:List Item:=A7 Tryz.f160
theorem B19 (C:A4) (R:A5) (c:Option Addr) (v:List Value) (h:H) :
 A8 PR Af5 C R S8 Tryz.f160 100000 true Az7 [(0,.pointer c),(1,.agg ⟨v⟩)] h =
 nw (.cells D1 false v) h fun b w=>aSome c fun p=>gInt .i64 (Addr.add p 0) w fun x=>ck ((0:Int)≤x∧(x:Int)≤x∧x≤(B1:Int)) (nw (.cells A6 false (G8 (Int.toNat x) [.int .u8 0])) w fun b_1 w1=>aSome c fun p_1=>gFv (Addr.add p_1 1) w1 fun x_1=>isNilF x_1 fun b_2=>bnd (cond b_2 (some (true,w1)) (aSome c fun p_2=>gFv (Addr.add p_2 1) w1 fun x_2=>gAgg ⟨b,0,none⟩ 16 w1 fun x_3=>aFn x_2 fun g fi cp=>bnd (C g (fi++([.agg ⟨x_3⟩,.slice (some ⟨b_1,0,none⟩) (Int.toNat x) (Int.toNat x)]++cp)) w1) fun r w2=>aBool r fun x_4=>some (!x_4,w2))) fun c_1 w3=>cond c_1
 (some (.tuple ⟨[.slice none 0 0,.bool false]⟩,w3))
 (some (.tuple ⟨[.slice (some ⟨b_1,0,none⟩) (Int.toNat x) (Int.toNat x),.bool true]⟩,w3))):=by kernel_rfl
def Af6:Cuts:={ globs:=0,loops:=[],regs:=[],plans:=[(4,⟨[0,1,2,3,4,10,5,6,7,8,9,11,12],[0,1,3,7,0,16,63,127,255,255,0,1535,4095],[(5,[3])],[]⟩)] }
def A02:List Item:=A7 Tryz.f166
theorem B09 (C:A4) (R:A5) (c:Option Addr) (b:Option Addr) (bn bc:Nat) (h:H) :
 A8 PR Af6 C R U4 Tryz.f166 100000 true A02 [(0,.pointer c),(1,.slice b bn bc)] h =
 nw (.cells E1 false [.int .i64 0,.int .i64 0,.int .i64 0,.int .i64 0]) h fun b_1 w=>nw (.cells E1 false [.int .i64 0,.int .i64 0,.int .i64 0,.int .i64 0]) w fun b_2 w1=>aSome c fun p=>gFv (Addr.add p 2) w1 fun x=>isNilF x fun b_3=>bnd (cond b_3 (some (true,w1)) (aSome c fun p_1=>gInt .i64 (Addr.add p_1 0) w1 fun x_1=>some (((bn:Nat):Int) != x_1,w1))) fun c_1 w2=>cond c_1
 (gAgg ⟨b_2,0,none⟩ 4 w2 fun x_2=>ck (List.length x_2=4) (pAgg ⟨b_1,0,none⟩ x_2 w2 fun w3=>gAgg ⟨b_1,0,none⟩ 4 w3 fun x_3=>some (.tuple ⟨[.agg ⟨x_3⟩,.bool false]⟩,w3)))
 (aSome c fun p_2=>gFv (Addr.add p_2 2) w2 fun x_4=>nw (.cells E1 false [.int .i64 0,.int .i64 0,.int .i64 0,.int .i64 0]) w2 fun b_4 w4=>bnd (C G0 [.slice b bn bc] w4) fun r w5=>aSl r fun x_5 xn xc=>gFv (Addr.add p_2 2) w5 fun x_6=>Bh8 (x_4) (x_6) (aFn x_4 fun g fi cp=>bnd (C g (fi++([.slice x_5 xn xc]++cp)) w5) fun r_1 w6=>as2 r_1 fun r_2 r_3=>aAgg r_2 fun x_7=>aBool r_3 fun x_8=>ck (List.length x_7=4) (pAgg ⟨b_4,0,none⟩ x_7 w6 fun w7=>cond (!x_8)
 (gAgg ⟨b_2,0,none⟩ 4 w7 fun x_9=>ck (List.length x_9=4) (pAgg ⟨b_1,0,none⟩ x_9 w7 fun w8=>gAgg ⟨b_1,0,none⟩ 4 w8 fun x_10=>some (.tuple ⟨[.agg ⟨x_10⟩,.bool false]⟩,w8)))
 (gAgg ⟨b_4,0,none⟩ 4 w7 fun x_11=>ck (List.length x_11=4) (pAgg ⟨b_1,0,none⟩ x_11 w7 fun w9=>gAgg ⟨b_1,0,none⟩ 4 w9 fun x_12=>some (.tuple ⟨[.agg ⟨x_12⟩,.bool true]⟩,w9)))))):=by kernel_rfl
def Al0:Cuts:={ globs:=0,loops:=[],regs:=[],plans:=[] }
def A86:List Item:=A7 Tryz.f172
theorem Dc7 (C:A4) (R:A5) (c:Option Addr) (i:Int) (h:H) :
 A8 PR Al0 C R Z9 Tryz.f172 100000 true A86 [(0,.pointer c),(1,.int .i64 i)] h =
 bnd (C Aq7 [.int .i64 i] h) fun r w=>aAgg r fun x=>bnd (C W5 [.pointer c,.agg ⟨x⟩] w) fun r_1 w1=>aBool r_1 fun x_1=>some (.bool x_1,w1):=by kernel_rfl
def Dj3:Cuts:={ globs:=0,loops:=[],regs:=[],plans:=[] }
def Eg3:List Item:=A7 Tryz.f176
theorem G26 (C:A4) (R:A5) (c:List Value) (x:List Value) (h:H) :
 A8 PR Dj3 C R By6 Tryz.f176 100000 true Eg3 [(0,.agg ⟨c⟩),(1,.agg ⟨x⟩)] h =
 nw (.cells D8 false c) h fun b w=>nw (.cells H8 false x) w fun b_1 w1=>gInt .i64 (Addr.add ⟨b_1,0,none⟩ 0) w1 fun x_1=>bnd (cond (decide (x_1<0)) (some (true,w1)) (gInt .i64 (Addr.add ⟨b_1,0,none⟩ 0) w1 fun x_2=>gSl (Addr.add ⟨b,0,none⟩ 0) w1 fun _ xn _=>some (decide (x_2≥((xn:Nat):Int)),w1))) fun c_1 w2=>bnd (cond c_1 (some (true,w2)) (gInt .i64 (Addr.add ⟨b_1,0,none⟩ 1) w2 fun x_4=>some (decide (x_4<0),w2))) fun c_2 w3=>bnd (cond c_2 (some (true,w3)) (gInt .i64 (Addr.add ⟨b_1,0,none⟩ 2) w3 fun x_5=>some (decide (x_5<0),w3))) fun c_3 w4=>bnd (cond c_3 (some (true,w4)) (gInt .i64 (Addr.add ⟨b_1,0,none⟩ 3) w4 fun x_6=>some (decide (x_6<0),w4))) fun c_4 w5=>cond c_4
 (some (.bool false,w5))
 (gSl (Addr.add ⟨b,0,none⟩ 0) w5 fun x_7 xn_1 _=>gInt .i64 (Addr.add ⟨b_1,0,none⟩ 0) w5 fun x_8=>aSome x_7 fun p=>ck ((0:Int)≤x_8∧x_8<((xn_1:Nat):Int)) (gInt .i64 (Addr.add (B3 p) (Int.toNat x_8*1)) w5 fun x_9=>bnd (C A97 [.int .i64 x_9] w5) fun r w6=>aInt .i64 r fun x_10=>gInt .i64 (Addr.add ⟨b_1,0,none⟩ 1) w6 fun x_11=>cond (decide (x_11>x_10))
 (some (.bool false,w6))
 (gInt .i64 (Addr.add ⟨b_1,0,none⟩ 1) w6 fun x_12=>gInt .i64 (Addr.add ⟨b_1,0,none⟩ 2) w6 fun x_13=>bnd (cond (decide (x_13≤(IntKind.wrap .i64 ((IntKind.wrap .i64 (x_10-x_12))*64)))) (gInt .i64 (Addr.add ⟨b_1,0,none⟩ 3) w6 fun x_14=>gInt .i64 (Addr.add ⟨b_1,0,none⟩ 2) w6 fun x_15=>some (decide (x_14≤(IntKind.wrap .i64 ((IntKind.wrap .i64 ((IntKind.wrap .i64 (x_10-x_12))*64))-x_15))),w6)) (some (false,w6))) fun c_5 w7=>some (.bool c_5,w7)))):=by kernel_rfl
def As8:Cuts:={ globs:=0,loops:=[(3,[3,15,16])],regs:=[],plans:=[] }
def Bc1:List Item:=A7 Tryz.f177
def Ai3:List Item:=stk [0,1,0,1,0,0,1,4,5] Bc1
theorem Ee8 (C:A4) (R:A5) (size:Int) (h:H) :
 A8 PR As8 C R N9 Tryz.f177 100000 true Bc1 [(0,.int .i64 size)] h =
 ck ((0:Int)≤mm2 false (mm2 true size 0) 256∧(mm2 false (mm2 true size 0) 256:Int)≤mm2 false (mm2 true size 0) 256∧mm2 false (mm2 true size 0) 256≤(B1:Int)) (nw (.cells Ak2 false (G8 (Int.toNat (mm2 false (mm2 true size 0) 256)) [.int .i64 0,.int .i64 0,.int .i64 0,.int .i64 0,.int .i64 0,.int .i64 0,.int .i64 0,.bool false])) h fun b w=>nw (.cells Bu1 false [.slice (some ⟨b,0,none⟩) (Int.toNat (mm2 false (mm2 true size 0) 256)) (Int.toNat (mm2 false (mm2 true size 0) 256))]) w fun b_1 w1=>gSl (Addr.add ⟨b_1,0,none⟩ 0) w1 fun _ xn _=>R N9 Ai3 [(3,.pointer (some ⟨b_1,0,none⟩)),(15,.int .i64 ((xn:Nat):Int)),(16,.int .i64 0)] w1):=by kernel_rfl
theorem Bm6 (C:A4) (R:A5) (t:Addr) (x15:Int) (x16:Int) (h:H) :
 A8 PR As8 C R N9 Tryz.f177 100000 true Ai3 [(3,.pointer (some t)),(15,.int .i64 x15),(16,.int .i64 x16)] h =
 cond (decide (x16<x15))
 (gSl (Addr.add t 0) h fun x xn _=>aSome x fun p=>ck ((0:Int)≤x16∧x16<((xn:Nat):Int)) (pV (Addr.add (Addr.add (B3 p) (Int.toNat x16*8)) 6) (.int .i64 1) h fun w=>R N9 Ai3 [(3,.pointer (some t)),(15,.int .i64 x15),(16,.int .i64 (IntKind.wrap .i64 (x16+1)))] w))
 (some (.pointer (some t),h)):=by kernel_rfl
def Db4:Cuts:={ globs:=0,loops:=[],regs:=[],plans:=[] }
def Ec7:List Item:=A7 Tryz.f183
theorem Gq1 (C:A4) (R:A5) (atv:Int) (n:Int) (size:Int) (h:H) :
 A8 PR Db4 C R Af2 Tryz.f183 100000 true Ec7 [(0,.int .i64 atv),(1,.int .i64 n),(2,.int .i64 size)] h =
 bnd (cond (decide (atv≥0)) (some (decide (n≥0),h)) (some (false,h))) fun c w=>bnd (cond c (some (decide (atv≤size),w)) (some (false,w))) fun c_1 w1=>bnd (cond c_1 (some (decide (n≤(IntKind.wrap .i64 (size-atv))),w1)) (some (false,w1))) fun c_2 w2=>some (.bool c_2,w2):=by kernel_rfl
def Ak8:Cuts:={ globs:=0,loops:=[],regs:=[],plans:=[] }
def A91:List Item:=A7 Tryz.f195
theorem Dc0 (C:A4) (R:A5) (t:Option Addr) (i:Int) (h:H) :
 A8 PR Ak8 C R M0 Tryz.f195 100000 true A91 [(0,.pointer t),(1,.int .i64 i)] h =
 aSome t fun p=>gSl (Addr.add p 0) h fun x xn _=>aSome x fun p_1=>ck ((0:Int)≤i∧i<((xn:Nat):Int)) (gInt .i64 (Addr.add (Addr.add (B3 p_1) (Int.toNat i*8)) 6) h fun x_1=>some (.int .i64 (IntKind.wrap .i64 (i+(IntKind.wrap .i64 (256*x_1)))),h)):=by kernel_rfl
def D52:Cuts:={ globs:=0,loops:=[],regs:=[],plans:=[(5,⟨[0,1,2,3,4],[0,1,0,4,15],[],[]⟩)] }
def Gc7:List Item:=A7 Tryz.f197
theorem Hf8 (C:A4) (R:A5) (p:List Value) (b:Option Addr) (bn bc:Nat) (h:H) :
 A8 PR D52 C R Bi4 Tryz.f197 100000 true Gc7 [(0,.agg ⟨p⟩),(1,.slice b bn bc)] h =
 nw (.cells H1 false p) h fun b_1 w=>gAgg ⟨b_1,0,none⟩ 36 w fun x=>bnd (C Dt8 [.agg ⟨x⟩] w) fun r w1=>aBool r fun x_1=>cond (!x_1)
 (some (.bool false,w1))
 (gInt .i64 (Addr.add ⟨b_1,0,none⟩ 0) w1 fun x_2=>gInt .i64 (Addr.add ⟨b_1,0,none⟩ 1) w1 fun x_3=>gInt .i64 (Addr.add ⟨b_1,0,none⟩ 2) w1 fun x_4=>gInt .i64 (Addr.add ⟨b_1,0,none⟩ 3) w1 fun x_5=>nw (.cells A6 false [.int .u8 1,.int .u8 (IntKind.wrap .u8 (x_2)),.int .u8 (IntKind.wrap .u8 (x_3)),.int .u8 (IntKind.wrap .u8 (x_4)),.int .u8 (IntKind.wrap .u8 (x_5)),.int .u8 197]) w1 fun b_2 w2=>gCells (some ⟨b_2,0,none⟩) (min 6 bn*1) w2 fun cs=>pCells b cs w2 fun w3=>ckB (fitsOpen b A6 w3) (ck ((0:Int)≤6∧6≤((bc:Nat):Int)) (bnd (C Z7 [.slice (H5 b (decide (0<bc)) (0*1)) ((Int.toNat 6)-0) (bc-0)] w3) fun r_1 w4=>aInt .u8 r_1 fun x_6=>aSome b fun p_1=>ck ((0:Int)≤6∧6<((bn:Nat):Int)) (pV (Addr.add (B3 p_1) (Int.toNat 6*1)) (.int .u8 x_6) w4 fun w5=>ckB (fitsOpen b A6 w5) (ck ((0:Int)≤8∧8≤((bn:Nat):Int)) (ckB (liveA (Addr.add ⟨b_1,0,none⟩ 4) w5) (gCells (H5 (some (Addr.add ⟨b_1,0,none⟩ 4)) (decide (0<32)) (0*1)) (min (32-0) (bn-(Int.toNat 8))*1) w5 fun cs_1=>pCells (H5 b (decide (Int.toNat 8<bc)) ((Int.toNat 8)*1)) cs_1 w5 fun w6=>some (.bool true,w6)))))))):=by kernel_rfl
def Z2:Cuts:={ globs:=0,loops:=[],regs:=[],plans:=[] }
def Aq0:List Item:=A7 Tryz.f199
theorem Bo5 (C:A4) (R:A5) (s:Option Addr) (sn sc:Nat) (f:Value) (h:H) :
 A8 PR Z2 C R O9 Tryz.f199 100000 true Aq0 [(0,.slice s sn sc),(1,f)] h =
 bnd (C E6 [.slice s sn sc,f] h) fun r w=>aInt .i64 r fun x=>some (.bool (decide (x≥0)),w):=by kernel_rfl
def Bl7:Cuts:={ globs:=0,loops:=[],regs:=[],plans:=[] }
def Dd8:List Item:=A7 Tryz.f210
theorem Ev7 (C:A4) (R:A5) (s:Option Addr) (who:Int) (stamp:Int) (h:H) :
 A8 PR Bl7 C R A07 Tryz.f210 100000 true Dd8 [(0,.pointer s),(1,.int .i64 who),(2,.int .i64 stamp)] h =
 bnd (C A03 [.pointer s,.int .i64 who,.int .i64 stamp] h) fun r w=>aBool r fun x=>cond (!x)
 (some (.bool false,w))
 (aSome s fun p=>pV (Addr.add p 1) (.bool false) w fun w1=>aSome s fun p_1=>gInt .i64 (Addr.add p_1 7) w1 fun x_1=>aSome s fun p_2=>pV (Addr.add p_2 6) (.int .i64 x_1) w1 fun w2=>some (.bool true,w2)):=by kernel_rfl
def Bm8:Cuts:={ globs:=0,loops:=[(3,[0,2,4,31,32,33]),(8,[0,2,4,49])],regs:=[],plans:=[(1,⟨[0,1,2,3,4,5,6,7,8,9,10,11,12,13,14,15,16,17,18],[0,1,3,7,0,16,48,112,0,256,768,1792,0,4096,12288,28672,65535,0,262143],[],[]⟩),(13,⟨[0,1,2,3,4,5,6,7,8],[0,0,2,6,6,30,62,63,255],[(5,[0])],[]⟩)] }
def B58:List Item:=A7 Tryz.f213
def B31:List Item:=stk [0,1,0,1,0,0,1,4,5] B58
def B40:List Item:=stk [0,1,0,1,0,1,0,0,1,4,5] B58
theorem Hc5 (C:A4) (R:A5) (b:Option Addr) (bn bc:Nat) (h:H) :
 A8 PR Bm8 C R V5 Tryz.f213 100000 true B58 [(0,.slice b bn bc)] h =
 nw (.cells D1 false [.int .i64 0,.int .i64 0,.int .i64 0,.int .i64 0,.int .i64 0,.int .i64 0,.int .i64 0,.int .i64 0,.int .i64 0,.int .i64 0,.int .i64 0,.int .i64 0,.int .i64 0,.int .i64 0,.int .i64 0,.int .i64 0]) h fun b_1 w=>aSome b fun p=>ck ((0:Int)≤0∧0<((bn:Nat):Int)) (gInt .u8 (Addr.add (B3 p) (Int.toNat 0*1)) w fun x=>aSome b fun p_1=>ck ((0:Int)≤1∧1<((bn:Nat):Int)) (gInt .u8 (Addr.add (B3 p_1) (Int.toNat 1*1)) w fun x_1=>aSome b fun p_2=>ck ((0:Int)≤2∧2<((bn:Nat):Int)) (gInt .u8 (Addr.add (B3 p_2) (Int.toNat 2*1)) w fun x_2=>aSome b fun p_3=>ck ((0:Int)≤3∧3<((bn:Nat):Int)) (gInt .u8 (Addr.add (B3 p_3) (Int.toNat 3*1)) w fun x_3=>nw (.cells D1 false [.int .i64 0,.int .i64 0,.int .i64 0,.int .i64 0,.int .i64 0,.int .i64 0,.int .i64 0,.int .i64 0,.int .i64 0,.int .i64 0,.int .i64 0,.int .i64 0,.int .i64 0,.int .i64 0,.int .i64 0,.int .i64 0]) w fun b_2 w1=>pAgg ⟨b_2,0,none⟩ [.int .i64 (IntKind.wrap .i64 (x)),.int .i64 (IntKind.wrap .i64 (x_1)),.int .i64 (IntKind.wrap .i64 (x_2)),.int .i64 (IntKind.wrap .i64 (x_3)),.int .i64 0,.int .i64 0,.int .i64 0,.int .i64 0,.int .i64 0,.int .i64 0,.int .i64 0,.int .i64 0,.int .i64 0,.int .i64 0,.int .i64 0,.int .i64 0] w1 fun w2=>nw (.cells H90 false [.pointer (some (Addr.add ⟨b_2,0,none⟩ 4)),.pointer (some (Addr.add ⟨b_2,0,none⟩ 5)),.pointer (some (Addr.add ⟨b_2,0,none⟩ 6)),.pointer (some (Addr.add ⟨b_2,0,none⟩ 7))]) w2 fun b_3 w3=>R V5 B31 [(0,.slice b bn bc),(2,.pointer (some ⟨b_1,0,none⟩)),(4,.pointer (some ⟨b_2,0,none⟩)),(31,.slice (some ⟨b_3,0,none⟩) 4 4),(32,.int .i64 4),(33,.int .i64 0)] w3)))):=by kernel_rfl
theorem A45 (C:A4) (R:A5) (b:Option Addr) (bn bc:Nat) (x2:Addr) (p:Addr) (x31:Option Addr) (x31n x31c:Nat) (x32:Int) (x33:Int) (h:H) :
 A8 PR Bm8 C R V5 Tryz.f213 100000 true B31 [(0,.slice b bn bc),(2,.pointer (some x2)),(4,.pointer (some p)),(31,.slice x31 x31n x31c),(32,.int .i64 x32),(33,.int .i64 x33)] h =
 cond (decide (x33<x32))
 (aSome x31 fun p_1=>ck ((0:Int)≤x33∧x33<((x31n:Nat):Int)) (gPtr (Addr.add (B3 p_1) (Int.toNat x33*1)) h fun x=>bnd (C Bz8 [.slice b bn bc,.int .i64 (IntKind.wrap .i64 (4+(IntKind.wrap .i64 (2*x33))))] h) fun r w=>as2 r fun r_1 r_2=>aInt .i64 r_1 fun x_1=>aBool r_2 fun _=>aSome x fun p_2=>pV p_2 (.int .i64 x_1) w fun w1=>R V5 B31 [(0,.slice b bn bc),(2,.pointer (some x2)),(4,.pointer (some p)),(31,.slice x31 x31n x31c),(32,.int .i64 x32),(33,.int .i64 (IntKind.wrap .i64 (x33+1)))] w1))
 (R V5 B40 [(0,.slice b bn bc),(2,.pointer (some x2)),(4,.pointer (some p)),(49,.int .i64 0)] h):=by kernel_rfl
theorem W4 (C:A4) (R:A5) (b:Option Addr) (bn bc:Nat) (x2:Addr) (p:Addr) (x49:Int) (h:H) :
 A8 PR Bm8 C R V5 Tryz.f213 100000 true B40 [(0,.slice b bn bc),(2,.pointer (some x2)),(4,.pointer (some p)),(49,.int .i64 x49)] h =
 cond (decide (x49<8))
 (aSome b fun p_1=>ck ((0:Int)≤IntKind.wrap .i64 (12+x49)∧IntKind.wrap .i64 (12+x49)<((bn:Nat):Int)) (gInt .u8 (Addr.add (B3 p_1) (Int.toNat (IntKind.wrap .i64 (12+x49))*1)) h fun x=>ck ((0:Int)≤x49∧x49<((8:Nat):Int)) (pV (Addr.add (Addr.add p 8) (Int.toNat x49*1)) (.int .i64 (IntKind.wrap .i64 (x))) h fun w=>R V5 B40 [(0,.slice b bn bc),(2,.pointer (some x2)),(4,.pointer (some p)),(49,.int .i64 (IntKind.wrap .i64 (x49+1)))] w)))
 (gAgg p 16 h fun x_1=>bnd (C A16 [.agg ⟨x_1⟩] h) fun r w1=>as2 r fun r_1 r_2=>aSl r_1 fun x_2 xn xc=>aBool r_2 fun x_3=>gAgg p 16 w1 fun x_4=>bnd (cond x_3 (bnd (C D0 [.slice x_2 xn xc,.slice b bn bc] w1) fun r_3 w2=>aBool r_3 fun x_5=>gAgg p 16 w2 fun x_6=>same (.agg ⟨x_4⟩) (.agg ⟨x_6⟩) (some (x_5,w2))) (some (false,w1))) fun c w3=>ck (List.length x_4=16) (pAgg x2 x_4 w3 fun w4=>gAgg x2 16 w4 fun x_7=>some (.tuple ⟨[.agg ⟨x_7⟩,.bool c]⟩,w4))):=by kernel_rfl
def Ar5:Cuts:={ globs:=0,loops:=[],regs:=[],plans:=[] }
def Bf9:List Item:=A7 Tryz.f229
theorem Dn8 (C:A4) (R:A5) (t:Option Addr) (name:Int) (h:H) :
 A8 PR Ar5 C R Ad1 Tryz.f229 100000 true Bf9 [(0,.pointer t),(1,.int .i64 name)] h =
 bnd (cond (decide (name<0)) (some (true,h)) (aSome t fun p=>gSl (Addr.add p 0) h fun _ xn _=>some (decide ((O5 .i64 name 255)≥((xn:Nat):Int)),h))) fun c w=>bnd (cond c (some (true,w)) (aSome t fun p_1=>gSl (Addr.add p_1 0) w fun x_1 xn_1 _=>aSome x_1 fun p_2=>ck ((0:Int)≤O5 .i64 name 255∧O5 .i64 name 255<((xn_1:Nat):Int)) (gBool (Addr.add (Addr.add (B3 p_2) (Int.toNat (O5 .i64 name 255)*8)) 7) w fun x_2=>some (!x_2,w)))) fun c_1 w1=>bnd (cond c_1 (some (true,w1)) (bnd (C M0 [.pointer t,.int .i64 (O5 .i64 name 255)] w1) fun r w2=>aInt .i64 r fun x_3=>some (x_3 != name,w2))) fun c_2 w3=>cond c_2
 (some (.pointer none,w3))
 (aSome t fun p_3=>gSl (Addr.add p_3 0) w3 fun x_4 xn_2 _=>aSome x_4 fun p_4=>ck ((0:Int)≤O5 .i64 name 255∧O5 .i64 name 255<((xn_2:Nat):Int)) (some (.pointer (some (Addr.add (B3 p_4) (Int.toNat (O5 .i64 name 255)*8))),w3))):=by kernel_rfl
def Dj4:Cuts:={ globs:=0,loops:=[],regs:=[],plans:=[] }
def En6:List Item:=A7 Tryz.f232
theorem G14 (C:A4) (R:A5) (b:Option Addr) (bn bc:Nat) (atv:Int) (n:Int) (h:H) :
 A8 PR Dj4 C R Bf0 Tryz.f232 100000 true En6 [(0,.slice b bn bc),(1,.int .i64 atv),(2,.int .i64 n)] h =
 bnd (cond (decide (atv<0)) (some (true,h)) (some (decide (atv>(IntKind.wrap .i64 (((bn:Nat):Int)-2))),h))) fun c w=>bnd (cond c (some (true,w)) (some (decide (n<0),w))) fun c_1 w1=>bnd (cond c_1 (some (true,w1)) (some (decide (n>65535),w1))) fun c_2 w2=>cond c_2
 (some (.bool false,w2))
 (aSome b fun p=>ck ((0:Int)≤atv∧atv<((bn:Nat):Int)) (pV (Addr.add (B3 p) (Int.toNat atv*1)) (.int .u8 (IntKind.wrap .u8 (Int.fdiv n (2 ^ 8)))) w2 fun w3=>aSome b fun p_1=>ck ((0:Int)≤IntKind.wrap .i64 (atv+1)∧IntKind.wrap .i64 (atv+1)<((bn:Nat):Int)) (pV (Addr.add (B3 p_1) (Int.toNat (IntKind.wrap .i64 (atv+1))*1)) (.int .u8 (IntKind.wrap .u8 (n))) w3 fun w4=>some (.bool true,w4)))):=by kernel_rfl
def Dj7:Cuts:={ globs:=0,loops:=[],regs:=[],plans:=[] }
def En3:List Item:=A7 Tryz.f239
theorem G45 (C:A4) (R:A5) (f:Int) (h:H) :
 A8 PR Dj7 C R Bg9 Tryz.f239 100000 true En3 [(0,.int .i64 f)] h =
 bnd (cond (decide (f<0)) (some (true,h)) (some (decide (f>12),h))) fun c w=>some (.bool c,w):=by kernel_rfl
end
end Go.EQ

set_option maxRecDepth 100000
namespace Go.EQ
open Go Go.NN Go.Proofs
variable (C : A4) (R : A5)
noncomputable section
def H58:List (Nat × Cuts):=[(11,Ae8),(13,Dl3),(14,Dp3),(15,Dc4),(17,Ap2),(18,Az0),(20,A08),(22,B38),(23,Ay6),(24,Ao9),(28,Am0),(31,Bz1),(32,Db8),(33,Bb7),(34,A54),(35,Dx3),(36,Ay9),(40,Dx7),(43,D79),(46,Dv2),(47,Dc3),(48,Ay2),(49,At8),(50,A26),(51,A59),(52,Aq4),(53,Db7),(54,B55),(55,Bf7),(56,Bm0),(57,Bg0),(58,Dc5),(59,At9),(60,B48),(61,Ac4),(62,Db1),(63,Ax9),(64,Ea6),(65,Dh4),(67,Bm1),(68,Bg7),(69,Ac3),(70,B34),(71,B39),(72,B30),(73,Au2),(74,B56),(75,B54),(76,A70),(77,A12),(78,Bl2),(79,B26),(80,Du8),(81,B70),(82,A43),(83,Dv5),(84,Ac1),(85,B33),(91,Q1),(97,D93),(98,Dw2),(99,De5),(100,Do1),(101,Dm9),(102,D81),(103,E11),(106,Du7),(107,A52),(108,Ao7),(109,Bk8),(110,Be4),(111,Da7),(112,Ar8),(113,Ei9),(114,Df8),(115,B72),(116,Dm4),(117,D45),(118,A75),(119,As9),(120,Aj2),(121,Bt0),(122,Be2),(123,Av3),(124,Bd0),(125,B25),(126,Bg4),(127,Dq7),(128,Bq9),(129,Bf1),(131,A71),(140,Bq4),(141,Bu9),(142,Y2),(143,Dp2),(144,Af3),(145,At6),(146,Az2),(147,Da8),(148,Af8),(149,A33),(150,Az3),(151,A32),(152,Bg6),(154,Bc2),(155,Bh2),(156,Bk7),(157,Bl9),(158,Db0),(159,Af7),(160,Af5),(161,Dc2),(162,Ag0),(163,B63),(164,Dp1),(165,Ak6),(166,Af6),(171,Dd0),(172,Al0),(173,Ak7),(174,B44),(175,Ac6),(176,Dj3),(177,As8),(178,B24),(179,Ae3),(180,Bf4),(181,Bt2),(182,Bd8),(183,Db4),(184,Br8),(185,Br0),(186,A80),(187,Br6),(194,A72),(195,Ak8),(196,A74),(197,D52),(198,D90),(199,Z2),(200,Bz4),(201,Az5),(202,Bx9),(203,Bq6),(206,Bs0),(207,Bf6),(208,Bs4),(209,Q4),(210,Bl7),(211,A73),(212,Bb0),(213,Bm8),(214,A82),(215,Dy0),(216,Dw4),(217,V8),(218,Ac2),(219,A51),(220,Bq8),(223,Ej0),(224,Aa2),(225,Q9),(226,Ao1),(229,Ar5),(230,Bl0),(231,D99),(232,Dj4),(233,Dm7),(234,D70),(235,Dz1),(238,Dl1),(239,Dj7)]
def cutsOf:FuncId→Cuts:=Gb5 H58
noncomputable abbrev B0:A4:=NN.Call PR cutsOf
noncomputable abbrev G6:A5:=NN.Jump PR cutsOf
theorem Ae7:FnOk PR cutsOf B9 Tryz.f11 Ae8 Al4 1:=⟨Tryz.func11,⟨_,rfl⟩,by kernel_rfl,rfl,rfl,by kernel_rfl⟩
theorem G10:FnOk PR cutsOf Be9 Tryz.f13 Dl3 Ej5 1:=⟨Tryz.func13,⟨_,rfl⟩,by kernel_rfl,rfl,rfl,by kernel_rfl⟩
theorem Gw2:FnOk PR cutsOf Bx3 Tryz.f14 Dp3 Ep7 0:=⟨Tryz.func14,⟨_,rfl⟩,by kernel_rfl,rfl,rfl,by kernel_rfl⟩
theorem Go5:FnOk PR cutsOf Bp8 Tryz.f15 Dc4 Ed9 2:=⟨Tryz.func15,⟨_,rfl⟩,by kernel_rfl,rfl,rfl,by kernel_rfl⟩
theorem De8:FnOk PR cutsOf R0 Tryz.f17 Ap2 Bc9 3:=⟨Tryz.func17,⟨_,rfl⟩,by kernel_rfl,rfl,rfl,by kernel_rfl⟩
theorem Dv0:FnOk PR cutsOf Q2 Tryz.f18 Az0 Bm3 2:=⟨Tryz.func18,⟨_,rfl⟩,by kernel_rfl,rfl,rfl,by kernel_rfl⟩
theorem Bl6:FnOk PR cutsOf Q6 Tryz.f20 A08 Bl3 1:=⟨Tryz.func20,⟨_,rfl⟩,by kernel_rfl,rfl,rfl,by kernel_rfl⟩
theorem Gg6:FnOk PR cutsOf Q3 Tryz.f22 B38 Dz4 3:=⟨Tryz.func22,⟨_,rfl⟩,by kernel_rfl,rfl,rfl,by kernel_rfl⟩
theorem Du3:FnOk PR cutsOf Q0 Tryz.f23 Ay6 Bo3 2:=⟨Tryz.func23,⟨_,rfl⟩,by kernel_rfl,rfl,rfl,by kernel_rfl⟩
theorem Di1:FnOk PR cutsOf N6 Tryz.f24 Ao9 Bd3 3:=⟨Tryz.func24,⟨_,rfl⟩,by kernel_rfl,rfl,rfl,by kernel_rfl⟩
theorem Di4:FnOk PR cutsOf I9 Tryz.f28 Am0 Bd1 3:=⟨Tryz.func28,⟨_,rfl⟩,by kernel_rfl,rfl,rfl,by kernel_rfl⟩
theorem Bw1:FnOk PR cutsOf Ae6 Tryz.f31 Bz1 Dm2 1:=⟨Tryz.func31,⟨_,rfl⟩,by kernel_rfl,rfl,rfl,by kernel_rfl⟩
theorem Gr2:FnOk PR cutsOf Ba5 Tryz.f32 Db8 Ec2 0:=⟨Tryz.func32,⟨_,rfl⟩,by kernel_rfl,rfl,rfl,by kernel_rfl⟩
theorem Ee5:FnOk PR cutsOf O1 Tryz.f33 Bb7 B22 1:=⟨Tryz.func33,⟨_,rfl⟩,by kernel_rfl,rfl,rfl,by kernel_rfl⟩
theorem D95:FnOk PR cutsOf V7 Tryz.f34 A54 By7 2:=⟨Tryz.func34,⟨_,rfl⟩,by kernel_rfl,rfl,rfl,by kernel_rfl⟩
theorem G58:FnOk PR cutsOf B69 Tryz.f35 Dx3 Ew8 2:=⟨Tryz.func35,⟨_,rfl⟩,by kernel_rfl,rfl,rfl,by kernel_rfl⟩
theorem Dx4:FnOk PR cutsOf H9 Tryz.f36 Ay9 Bo4 2:=⟨Tryz.func36,⟨_,rfl⟩,by kernel_rfl,rfl,rfl,by kernel_rfl⟩
theorem G56:FnOk PR cutsOf Ay8 Tryz.f40 Dx7 Ew6 2:=⟨Tryz.func40,⟨_,rfl⟩,by kernel_rfl,rfl,rfl,by kernel_rfl⟩
theorem Hk0:FnOk PR cutsOf Bh9 Tryz.f43 D79 E85 2:=⟨Tryz.func43,⟨_,rfl⟩,by kernel_rfl,rfl,rfl,by kernel_rfl⟩
theorem G79:FnOk PR cutsOf Bb4 Tryz.f46 Dv2 Ex3 3:=⟨Tryz.func46,⟨_,rfl⟩,by kernel_rfl,rfl,rfl,by kernel_rfl⟩
theorem Go9:FnOk PR cutsOf A90 Tryz.f47 Dc3 Ee0 0:=⟨Tryz.func47,⟨_,rfl⟩,by kernel_rfl,rfl,rfl,by kernel_rfl⟩
theorem Dw9:FnOk PR cutsOf Ai4 Tryz.f48 Ay2 Bn2 1:=⟨Tryz.func48,⟨_,rfl⟩,by kernel_rfl,rfl,rfl,by kernel_rfl⟩
theorem Dp5:FnOk PR cutsOf Ag5 Tryz.f49 At8 Bk5 1:=⟨Tryz.func49,⟨_,rfl⟩,by kernel_rfl,rfl,rfl,by kernel_rfl⟩
theorem Ar7:FnOk PR cutsOf I2 Tryz.f50 A26 Bh1 1:=⟨Tryz.func50,⟨_,rfl⟩,by kernel_rfl,rfl,rfl,by kernel_rfl⟩
theorem An4:FnOk PR cutsOf H2 Tryz.f51 A59 Bj5 1:=⟨Tryz.func51,⟨_,rfl⟩,by kernel_rfl,rfl,rfl,by kernel_rfl⟩
theorem Ah8:FnOk PR cutsOf E7 Tryz.f52 Aq4 A44 1:=⟨Tryz.func52,⟨_,rfl⟩,by kernel_rfl,rfl,rfl,by kernel_rfl⟩
theorem Go6:FnOk PR cutsOf A89 Tryz.f53 Db7 Eb9 0:=⟨Tryz.func53,⟨_,rfl⟩,by kernel_rfl,rfl,rfl,by kernel_rfl⟩
theorem Gi6:FnOk PR cutsOf Aq6 Tryz.f54 B55 D00 3:=⟨Tryz.func54,⟨_,rfl⟩,by kernel_rfl,rfl,rfl,by kernel_rfl⟩
theorem Ek7:FnOk PR cutsOf Ax5 Tryz.f55 Bf7 B99 2:=⟨Tryz.func55,⟨_,rfl⟩,by kernel_rfl,rfl,rfl,by kernel_rfl⟩
theorem Ew3:FnOk PR cutsOf Al2 Tryz.f56 Bm0 De2 1:=⟨Tryz.func56,⟨_,rfl⟩,by kernel_rfl,rfl,rfl,by kernel_rfl⟩
theorem Ep8:FnOk PR cutsOf Aj5 Tryz.f57 Bg0 Da3 2:=⟨Tryz.func57,⟨_,rfl⟩,by kernel_rfl,rfl,rfl,by kernel_rfl⟩
theorem Gr0:FnOk PR cutsOf Ba6 Tryz.f58 Dc5 Ed7 1:=⟨Tryz.func58,⟨_,rfl⟩,by kernel_rfl,rfl,rfl,by kernel_rfl⟩
theorem Dq0:FnOk PR cutsOf I5 Tryz.f59 At9 Bk2 4:=⟨Tryz.func59,⟨_,rfl⟩,by kernel_rfl,rfl,rfl,by kernel_rfl⟩
theorem Ge4:FnOk PR cutsOf Aq5 Tryz.f60 B48 D19 1:=⟨Tryz.func60,⟨_,rfl⟩,by kernel_rfl,rfl,rfl,by kernel_rfl⟩
theorem Ao6:FnOk PR cutsOf H4 Tryz.f61 Ac4 Am8 3:=⟨Tryz.func61,⟨_,rfl⟩,by kernel_rfl,rfl,rfl,by kernel_rfl⟩
theorem Go8:FnOk PR cutsOf Au6 Tryz.f62 Db1 Ee1 1:=⟨Tryz.func62,⟨_,rfl⟩,by kernel_rfl,rfl,rfl,by kernel_rfl⟩
theorem Du4:FnOk PR cutsOf Z0 Tryz.f63 Ax9 Bm5 2:=⟨Tryz.func63,⟨_,rfl⟩,by kernel_rfl,rfl,rfl,by kernel_rfl⟩
theorem Hl1:FnOk PR cutsOf A69 Tryz.f64 Ea6 E84 1:=⟨Tryz.func64,⟨_,rfl⟩,by kernel_rfl,rfl,rfl,by kernel_rfl⟩
theorem D86:FnOk PR cutsOf Ad9 Tryz.f65 Dh4 Ea5 1:=⟨Tryz.func65,⟨_,rfl⟩,by kernel_rfl,rfl,rfl,by kernel_rfl⟩
theorem Eu6:FnOk PR cutsOf A04 Tryz.f67 Bm1 Dd1 3:=⟨Tryz.func67,⟨_,rfl⟩,by kernel_rfl,rfl,rfl,by kernel_rfl⟩
theorem Ef9:FnOk PR cutsOf Ax0 Tryz.f68 Bg7 B81 3:=⟨Tryz.func68,⟨_,rfl⟩,by kernel_rfl,rfl,rfl,by kernel_rfl⟩
theorem An5:FnOk PR cutsOf I7 Tryz.f69 Ac3 Am3 3:=⟨Tryz.func69,⟨_,rfl⟩,by kernel_rfl,rfl,rfl,by kernel_rfl⟩
theorem Gj1:FnOk PR cutsOf A37 Tryz.f70 B34 Dz7 1:=⟨Tryz.func70,⟨_,rfl⟩,by kernel_rfl,rfl,rfl,by kernel_rfl⟩
theorem Ge3:FnOk PR cutsOf A22 Tryz.f71 B39 D23 1:=⟨Tryz.func71,⟨_,rfl⟩,by kernel_rfl,rfl,rfl,by kernel_rfl⟩
theorem Gf0:FnOk PR cutsOf A16 Tryz.f72 B30 Dz2 1:=⟨Tryz.func72,⟨_,rfl⟩,by kernel_rfl,rfl,rfl,by kernel_rfl⟩
theorem Dp8:FnOk PR cutsOf W5 Tryz.f73 Au2 Bk1 2:=⟨Tryz.func73,⟨_,rfl⟩,by kernel_rfl,rfl,rfl,by kernel_rfl⟩
theorem Gf8:FnOk PR cutsOf A41 Tryz.f74 B56 D03 1:=⟨Tryz.func74,⟨_,rfl⟩,by kernel_rfl,rfl,rfl,by kernel_rfl⟩
theorem Gh1:FnOk PR cutsOf Aq7 Tryz.f75 B54 D24 1:=⟨Tryz.func75,⟨_,rfl⟩,by kernel_rfl,rfl,rfl,by kernel_rfl⟩
theorem Eb1:FnOk PR cutsOf Am9 Tryz.f76 A70 Bx1 1:=⟨Tryz.func76,⟨_,rfl⟩,by kernel_rfl,rfl,rfl,by kernel_rfl⟩
theorem Bl1:FnOk PR cutsOf O3 Tryz.f77 A12 Bl4 1:=⟨Tryz.func77,⟨_,rfl⟩,by kernel_rfl,rfl,rfl,by kernel_rfl⟩
theorem Eu9:FnOk PR cutsOf A13 Tryz.f78 Bl2 Dd5 1:=⟨Tryz.func78,⟨_,rfl⟩,by kernel_rfl,rfl,rfl,by kernel_rfl⟩
theorem Ge8:FnOk PR cutsOf A21 Tryz.f79 B26 D11 3:=⟨Tryz.func79,⟨_,rfl⟩,by kernel_rfl,rfl,rfl,by kernel_rfl⟩
theorem G90:FnOk PR cutsOf Ay3 Tryz.f80 Du8 Ez9 1:=⟨Tryz.func80,⟨_,rfl⟩,by kernel_rfl,rfl,rfl,by kernel_rfl⟩
theorem Dw6:FnOk PR cutsOf Ap7 Tryz.f81 B70 Dv7 1:=⟨Tryz.func81,⟨_,rfl⟩,by kernel_rfl,rfl,rfl,by kernel_rfl⟩
theorem Ar9:FnOk PR cutsOf E9 Tryz.f82 A43 Bh4 2:=⟨Tryz.func82,⟨_,rfl⟩,by kernel_rfl,rfl,rfl,by kernel_rfl⟩
theorem G97:FnOk PR cutsOf Ay0 Tryz.f83 Dv5 Ey7 2:=⟨Tryz.func83,⟨_,rfl⟩,by kernel_rfl,rfl,rfl,by kernel_rfl⟩
theorem An2:FnOk PR cutsOf J0 Tryz.f84 Ac1 An0 3:=⟨Tryz.func84,⟨_,rfl⟩,by kernel_rfl,rfl,rfl,by kernel_rfl⟩
theorem Gg8:FnOk PR cutsOf A25 Tryz.f85 B33 D30 1:=⟨Tryz.func85,⟨_,rfl⟩,by kernel_rfl,rfl,rfl,by kernel_rfl⟩
theorem N1:FnOk PR cutsOf B8 Tryz.f91 Q1 Z5 1:=⟨Tryz.func91,⟨_,rfl⟩,by kernel_rfl,rfl,rfl,by kernel_rfl⟩
theorem Hk8:FnOk PR cutsOf Ad2 Tryz.f97 D93 Ga8 1:=⟨Tryz.func97,⟨_,rfl⟩,by kernel_rfl,rfl,rfl,by kernel_rfl⟩
theorem Hc1:FnOk PR cutsOf B67 Tryz.f98 Dw2 Ez3 2:=⟨Tryz.func98,⟨_,rfl⟩,by kernel_rfl,rfl,rfl,by kernel_rfl⟩
theorem Dg7:FnOk PR cutsOf W2 Tryz.f99 De5 Ea0 3:=⟨Tryz.func99,⟨_,rfl⟩,by kernel_rfl,rfl,rfl,by kernel_rfl⟩
theorem Gu8:FnOk PR cutsOf A28 Tryz.f100 Do1 Ej4 2:=⟨Tryz.func100,⟨_,rfl⟩,by kernel_rfl,rfl,rfl,by kernel_rfl⟩
theorem G16:FnOk PR cutsOf A19 Tryz.f101 Dm9 El6 2:=⟨Tryz.func101,⟨_,rfl⟩,by kernel_rfl,rfl,rfl,by kernel_rfl⟩
theorem Hm1:FnOk PR cutsOf Dh9 Tryz.f102 D81 Gc6 2:=⟨Tryz.func102,⟨_,rfl⟩,by kernel_rfl,rfl,rfl,by kernel_rfl⟩
theorem H26:FnOk PR cutsOf D51 Tryz.f103 E11 Gt2 3:=⟨Tryz.func103,⟨_,rfl⟩,by kernel_rfl,rfl,rfl,by kernel_rfl⟩
theorem G83:FnOk PR cutsOf Bn3 Tryz.f106 Du7 Ex4 2:=⟨Tryz.func106,⟨_,rfl⟩,by kernel_rfl,rfl,rfl,by kernel_rfl⟩
theorem Dj5:FnOk PR cutsOf U7 Tryz.f107 A52 Bt4 2:=⟨Tryz.func107,⟨_,rfl⟩,by kernel_rfl,rfl,rfl,by kernel_rfl⟩
theorem A68:FnOk PR cutsOf P5 Tryz.f108 Ao7 A57 3:=⟨Tryz.func108,⟨_,rfl⟩,by kernel_rfl,rfl,rfl,by kernel_rfl⟩
theorem Eu1:FnOk PR cutsOf Al3 Tryz.f109 Bk8 Dd9 1:=⟨Tryz.func109,⟨_,rfl⟩,by kernel_rfl,rfl,rfl,by kernel_rfl⟩
theorem Bf8:FnOk PR cutsOf P7 Tryz.f110 Be4 Bw7 1:=⟨Tryz.func110,⟨_,rfl⟩,by kernel_rfl,rfl,rfl,by kernel_rfl⟩
theorem Gr4:FnOk PR cutsOf A97 Tryz.f111 Da7 Ed6 1:=⟨Tryz.func111,⟨_,rfl⟩,by kernel_rfl,rfl,rfl,by kernel_rfl⟩
theorem Do0:FnOk PR cutsOf U8 Tryz.f112 Ar8 Bg8 1:=⟨Tryz.func112,⟨_,rfl⟩,by kernel_rfl,rfl,rfl,by kernel_rfl⟩
theorem Hs4:FnOk PR cutsOf Du0 Tryz.f113 Ei9 Gm5 1:=⟨Tryz.func113,⟨_,rfl⟩,by kernel_rfl,rfl,rfl,by kernel_rfl⟩
theorem Eb6:FnOk PR cutsOf Aw9 Tryz.f114 Df8 D74 1:=⟨Tryz.func114,⟨_,rfl⟩,by kernel_rfl,rfl,rfl,by kernel_rfl⟩
theorem Dx8:FnOk PR cutsOf Ap4 Tryz.f115 B72 Dv9 1:=⟨Tryz.func115,⟨_,rfl⟩,by kernel_rfl,rfl,rfl,by kernel_rfl⟩
theorem Gy5:FnOk PR cutsOf B04 Tryz.f116 Dm4 En9 2:=⟨Tryz.func116,⟨_,rfl⟩,by kernel_rfl,rfl,rfl,by kernel_rfl⟩
theorem Hh2:FnOk PR cutsOf Dg5 Tryz.f117 D45 Gb3 1:=⟨Tryz.func117,⟨_,rfl⟩,by kernel_rfl,rfl,rfl,by kernel_rfl⟩
theorem D73:FnOk PR cutsOf An7 Tryz.f118 A75 Bv0 3:=⟨Tryz.func118,⟨_,rfl⟩,by kernel_rfl,rfl,rfl,by kernel_rfl⟩
theorem Bc0:FnOk PR cutsOf O0 Tryz.f119 As9 Bb9 2:=⟨Tryz.func119,⟨_,rfl⟩,by kernel_rfl,rfl,rfl,by kernel_rfl⟩
theorem Da0:FnOk PR cutsOf L5 Tryz.f120 Aj2 A48 2:=⟨Tryz.func120,⟨_,rfl⟩,by kernel_rfl,rfl,rfl,by kernel_rfl⟩
theorem E10:FnOk PR cutsOf A78 Tryz.f121 Bt0 Dl2 3:=⟨Tryz.func121,⟨_,rfl⟩,by kernel_rfl,rfl,rfl,by kernel_rfl⟩
theorem Bv2:FnOk PR cutsOf Y5 Tryz.f122 Be2 Bx4 1:=⟨Tryz.func122,⟨_,rfl⟩,by kernel_rfl,rfl,rfl,by kernel_rfl⟩
theorem Bh5:FnOk PR cutsOf M6 Tryz.f123 Av3 Bh3 2:=⟨Tryz.func123,⟨_,rfl⟩,by kernel_rfl,rfl,rfl,by kernel_rfl⟩
theorem Bv8:FnOk PR cutsOf Y4 Tryz.f124 Bd0 Bv4 1:=⟨Tryz.func124,⟨_,rfl⟩,by kernel_rfl,rfl,rfl,by kernel_rfl⟩
theorem Gi4:FnOk PR cutsOf Bi7 Tryz.f125 B25 D16 1:=⟨Tryz.func125,⟨_,rfl⟩,by kernel_rfl,rfl,rfl,by kernel_rfl⟩
theorem Eo5:FnOk PR cutsOf Av0 Tryz.f126 Bg4 Da1 3:=⟨Tryz.func126,⟨_,rfl⟩,by kernel_rfl,rfl,rfl,by kernel_rfl⟩
theorem El9:FnOk PR cutsOf A50 Tryz.f127 Dq7 En1 2:=⟨Tryz.func127,⟨_,rfl⟩,by kernel_rfl,rfl,rfl,by kernel_rfl⟩
theorem E36:FnOk PR cutsOf A58 Tryz.f128 Bq9 Do2 3:=⟨Tryz.func128,⟨_,rfl⟩,by kernel_rfl,rfl,rfl,by kernel_rfl⟩
theorem Eo3:FnOk PR cutsOf Av1 Tryz.f129 Bf1 B89 1:=⟨Tryz.func129,⟨_,rfl⟩,by kernel_rfl,rfl,rfl,by kernel_rfl⟩
theorem D40:FnOk PR cutsOf Am5 Tryz.f131 A71 Bx7 5:=⟨Tryz.func131,⟨_,rfl⟩,by kernel_rfl,rfl,rfl,by kernel_rfl⟩
theorem E16:FnOk PR cutsOf A62 Tryz.f140 Bq4 Do5 2:=⟨Tryz.func140,⟨_,rfl⟩,by kernel_rfl,rfl,rfl,by kernel_rfl⟩
theorem Gd1:FnOk PR cutsOf Ae5 Tryz.f141 Bu9 Dt7 2:=⟨Tryz.func141,⟨_,rfl⟩,by kernel_rfl,rfl,rfl,by kernel_rfl⟩
theorem Aj7:FnOk PR cutsOf E5 Tryz.f142 Y2 Aj0 1:=⟨Tryz.func142,⟨_,rfl⟩,by kernel_rfl,rfl,rfl,by kernel_rfl⟩
theorem G46:FnOk PR cutsOf Be8 Tryz.f143 Dp2 Ef7 0:=⟨Tryz.func143,⟨_,rfl⟩,by kernel_rfl,rfl,rfl,by kernel_rfl⟩
theorem B15:FnOk PR cutsOf S9 Tryz.f144 Af3 Az6 2:=⟨Tryz.func144,⟨_,rfl⟩,by kernel_rfl,rfl,rfl,by kernel_rfl⟩
theorem Dp4:FnOk PR cutsOf P3 Tryz.f145 At6 Bk4 2:=⟨Tryz.func145,⟨_,rfl⟩,by kernel_rfl,rfl,rfl,by kernel_rfl⟩
theorem Dv4:FnOk PR cutsOf N4 Tryz.f146 Az2 Bn5 2:=⟨Tryz.func146,⟨_,rfl⟩,by kernel_rfl,rfl,rfl,by kernel_rfl⟩
theorem Gr1:FnOk PR cutsOf Al1 Tryz.f147 Da8 Ec5 1:=⟨Tryz.func147,⟨_,rfl⟩,by kernel_rfl,rfl,rfl,by kernel_rfl⟩
theorem B17:FnOk PR cutsOf U1 Tryz.f148 Af8 Az9 2:=⟨Tryz.func148,⟨_,rfl⟩,by kernel_rfl,rfl,rfl,by kernel_rfl⟩
theorem D06:FnOk PR cutsOf Ab1 Tryz.f149 A33 Bt5 5:=⟨Tryz.func149,⟨_,rfl⟩,by kernel_rfl,rfl,rfl,by kernel_rfl⟩
theorem Dx5:FnOk PR cutsOf Z4 Tryz.f150 Az3 Bo2 5:=⟨Tryz.func150,⟨_,rfl⟩,by kernel_rfl,rfl,rfl,by kernel_rfl⟩
theorem D21:FnOk PR cutsOf Ak4 Tryz.f151 A32 Bu3 7:=⟨Tryz.func151,⟨_,rfl⟩,by kernel_rfl,rfl,rfl,by kernel_rfl⟩
theorem Eo8:FnOk PR cutsOf Av8 Tryz.f152 Bg6 B83 7:=⟨Tryz.func152,⟨_,rfl⟩,by kernel_rfl,rfl,rfl,by kernel_rfl⟩
theorem Ee7:FnOk PR cutsOf At2 Tryz.f154 Bc2 B20 2:=⟨Tryz.func154,⟨_,rfl⟩,by kernel_rfl,rfl,rfl,by kernel_rfl⟩
theorem Ef6:FnOk PR cutsOf Av4 Tryz.f155 Bh2 B90 3:=⟨Tryz.func155,⟨_,rfl⟩,by kernel_rfl,rfl,rfl,by kernel_rfl⟩
theorem Eu2:FnOk PR cutsOf A06 Tryz.f156 Bk7 Dd3 3:=⟨Tryz.func156,⟨_,rfl⟩,by kernel_rfl,rfl,rfl,by kernel_rfl⟩
theorem Eu5:FnOk PR cutsOf A09 Tryz.f157 Bl9 De0 3:=⟨Tryz.func157,⟨_,rfl⟩,by kernel_rfl,rfl,rfl,by kernel_rfl⟩
theorem Gp5:FnOk PR cutsOf Ba2 Tryz.f158 Db0 Ed3 0:=⟨Tryz.func158,⟨_,rfl⟩,by kernel_rfl,rfl,rfl,by kernel_rfl⟩
theorem B14:FnOk PR cutsOf U0 Tryz.f159 Af7 A01 2:=⟨Tryz.func159,⟨_,rfl⟩,by kernel_rfl,rfl,rfl,by kernel_rfl⟩
theorem B13:FnOk PR cutsOf S8 Tryz.f160 Af5 Az7 2:=⟨Tryz.func160,⟨_,rfl⟩,by kernel_rfl,rfl,rfl,by kernel_rfl⟩
theorem Go4:FnOk PR cutsOf Ba3 Tryz.f161 Dc2 Ec8 0:=⟨Tryz.func161,⟨_,rfl⟩,by kernel_rfl,rfl,rfl,by kernel_rfl⟩
theorem B08:FnOk PR cutsOf U3 Tryz.f162 Ag0 A00 2:=⟨Tryz.func162,⟨_,rfl⟩,by kernel_rfl,rfl,rfl,by kernel_rfl⟩
theorem Dw3:FnOk PR cutsOf Z7 Tryz.f163 B63 Dv8 1:=⟨Tryz.func163,⟨_,rfl⟩,by kernel_rfl,rfl,rfl,by kernel_rfl⟩
theorem Gt7:FnOk PR cutsOf Be5 Tryz.f164 Dp1 Eh2 3:=⟨Tryz.func164,⟨_,rfl⟩,by kernel_rfl,rfl,rfl,by kernel_rfl⟩
theorem A95:FnOk PR cutsOf G0 Tryz.f165 Ak6 A87 1:=⟨Tryz.func165,⟨_,rfl⟩,by kernel_rfl,rfl,rfl,by kernel_rfl⟩
theorem B11:FnOk PR cutsOf U4 Tryz.f166 Af6 A02 2:=⟨Tryz.func166,⟨_,rfl⟩,by kernel_rfl,rfl,rfl,by kernel_rfl⟩
theorem Gp1:FnOk PR cutsOf Ba7 Tryz.f171 Dd0 Ed1 2:=⟨Tryz.func171,⟨_,rfl⟩,by kernel_rfl,rfl,rfl,by kernel_rfl⟩
theorem Db6:FnOk PR cutsOf Z9 Tryz.f172 Al0 A86 2:=⟨Tryz.func172,⟨_,rfl⟩,by kernel_rfl,rfl,rfl,by kernel_rfl⟩
theorem Dc8:FnOk PR cutsOf Aa1 Tryz.f173 Ak7 A99 2:=⟨Tryz.func173,⟨_,rfl⟩,by kernel_rfl,rfl,rfl,by kernel_rfl⟩
theorem Gj2:FnOk PR cutsOf G2 Tryz.f174 B44 D09 2:=⟨Tryz.func174,⟨_,rfl⟩,by kernel_rfl,rfl,rfl,by kernel_rfl⟩
theorem At5:FnOk PR cutsOf E2 Tryz.f175 Ac6 At4 2:=⟨Tryz.func175,⟨_,rfl⟩,by kernel_rfl,rfl,rfl,by kernel_rfl⟩
theorem Gw5:FnOk PR cutsOf By6 Tryz.f176 Dj3 Eg3 2:=⟨Tryz.func176,⟨_,rfl⟩,by kernel_rfl,rfl,rfl,by kernel_rfl⟩
theorem Bb8:FnOk PR cutsOf N9 Tryz.f177 As8 Bc1 1:=⟨Tryz.func177,⟨_,rfl⟩,by kernel_rfl,rfl,rfl,by kernel_rfl⟩
theorem Gg3:FnOk PR cutsOf A36 Tryz.f178 B24 D32 1:=⟨Tryz.func178,⟨_,rfl⟩,by kernel_rfl,rfl,rfl,by kernel_rfl⟩
theorem Aq9:FnOk PR cutsOf G7 Tryz.f179 Ae3 As0 2:=⟨Tryz.func179,⟨_,rfl⟩,by kernel_rfl,rfl,rfl,by kernel_rfl⟩
theorem El7:FnOk PR cutsOf Aj1 Tryz.f180 Bf4 B82 1:=⟨Tryz.func180,⟨_,rfl⟩,by kernel_rfl,rfl,rfl,by kernel_rfl⟩
theorem E40:FnOk PR cutsOf Ar6 Tryz.f181 Bt2 Dk9 3:=⟨Tryz.func181,⟨_,rfl⟩,by kernel_rfl,rfl,rfl,by kernel_rfl⟩
theorem Bx5:FnOk PR cutsOf Y6 Tryz.f182 Bd8 Bw8 1:=⟨Tryz.func182,⟨_,rfl⟩,by kernel_rfl,rfl,rfl,by kernel_rfl⟩
theorem Gp2:FnOk PR cutsOf Af2 Tryz.f183 Db4 Ec7 3:=⟨Tryz.func183,⟨_,rfl⟩,by kernel_rfl,rfl,rfl,by kernel_rfl⟩
theorem E41:FnOk PR cutsOf Ah5 Tryz.f184 Br8 Dj9 2:=⟨Tryz.func184,⟨_,rfl⟩,by kernel_rfl,rfl,rfl,by kernel_rfl⟩
theorem E22:FnOk PR cutsOf A66 Tryz.f185 Br0 Dm6 3:=⟨Tryz.func185,⟨_,rfl⟩,by kernel_rfl,rfl,rfl,by kernel_rfl⟩
theorem D63:FnOk PR cutsOf Ap3 Tryz.f186 A80 Bw9 6:=⟨Tryz.func186,⟨_,rfl⟩,by kernel_rfl,rfl,rfl,by kernel_rfl⟩
theorem E42:FnOk PR cutsOf A77 Tryz.f187 Br6 Dl8 3:=⟨Tryz.func187,⟨_,rfl⟩,by kernel_rfl,rfl,rfl,by kernel_rfl⟩
theorem Br5:FnOk PR cutsOf P4 Tryz.f194 A72 Bt3 1:=⟨Tryz.func194,⟨_,rfl⟩,by kernel_rfl,rfl,rfl,by kernel_rfl⟩
theorem Dc9:FnOk PR cutsOf M0 Tryz.f195 Ak8 A91 2:=⟨Tryz.func195,⟨_,rfl⟩,by kernel_rfl,rfl,rfl,by kernel_rfl⟩
theorem D94:FnOk PR cutsOf Ao8 Tryz.f196 A74 Bx6 3:=⟨Tryz.func196,⟨_,rfl⟩,by kernel_rfl,rfl,rfl,by kernel_rfl⟩
theorem Hh5:FnOk PR cutsOf Bi4 Tryz.f197 D52 Gc7 2:=⟨Tryz.func197,⟨_,rfl⟩,by kernel_rfl,rfl,rfl,by kernel_rfl⟩
theorem Hk7:FnOk PR cutsOf Bi8 Tryz.f198 D90 E87 1:=⟨Tryz.func198,⟨_,rfl⟩,by kernel_rfl,rfl,rfl,by kernel_rfl⟩
theorem Bm2:FnOk PR cutsOf O9 Tryz.f199 Z2 Aq0 2:=⟨Tryz.func199,⟨_,rfl⟩,by kernel_rfl,rfl,rfl,by kernel_rfl⟩
theorem E74:FnOk PR cutsOf Ac7 Tryz.f200 Bz4 Dq6 1:=⟨Tryz.func200,⟨_,rfl⟩,by kernel_rfl,rfl,rfl,by kernel_rfl⟩
theorem Dy5:FnOk PR cutsOf Y8 Tryz.f201 Az5 Bn0 6:=⟨Tryz.func201,⟨_,rfl⟩,by kernel_rfl,rfl,rfl,by kernel_rfl⟩
theorem E88:FnOk PR cutsOf Bd6 Tryz.f202 Bx9 Dt5 3:=⟨Tryz.func202,⟨_,rfl⟩,by kernel_rfl,rfl,rfl,by kernel_rfl⟩
theorem E34:FnOk PR cutsOf As2 Tryz.f203 Bq6 Do3 3:=⟨Tryz.func203,⟨_,rfl⟩,by kernel_rfl,rfl,rfl,by kernel_rfl⟩
theorem E50:FnOk PR cutsOf Ah0 Tryz.f206 Bs0 Dn2 2:=⟨Tryz.func206,⟨_,rfl⟩,by kernel_rfl,rfl,rfl,by kernel_rfl⟩
theorem Ef4:FnOk PR cutsOf Aw8 Tryz.f207 Bf6 B84 3:=⟨Tryz.func207,⟨_,rfl⟩,by kernel_rfl,rfl,rfl,by kernel_rfl⟩
theorem E08:FnOk PR cutsOf As1 Tryz.f208 Bs4 Dl0 3:=⟨Tryz.func208,⟨_,rfl⟩,by kernel_rfl,rfl,rfl,by kernel_rfl⟩
theorem W7:FnOk PR cutsOf B7 Tryz.f209 Q4 W8 3:=⟨Tryz.func209,⟨_,rfl⟩,by kernel_rfl,rfl,rfl,by kernel_rfl⟩
theorem Ev3:FnOk PR cutsOf A07 Tryz.f210 Bl7 Dd8 3:=⟨Tryz.func210,⟨_,rfl⟩,by kernel_rfl,rfl,rfl,by kernel_rfl⟩
theorem D78:FnOk PR cutsOf Ao4 Tryz.f211 A73 B03 3:=⟨Tryz.func211,⟨_,rfl⟩,by kernel_rfl,rfl,rfl,by kernel_rfl⟩
theorem H0:FnOk PR cutsOf N5 Tryz.f212 Bb0 Bn4 2:=⟨Tryz.func212,⟨_,rfl⟩,by kernel_rfl,rfl,rfl,by kernel_rfl⟩
theorem N0:FnOk PR cutsOf V5 Tryz.f213 Bm8 B58 1:=⟨Tryz.func213,⟨_,rfl⟩,by kernel_rfl,rfl,rfl,by kernel_rfl⟩
theorem D34:FnOk PR cutsOf Am7 Tryz.f214 A82 Bw6 3:=⟨Tryz.func214,⟨_,rfl⟩,by kernel_rfl,rfl,rfl,by kernel_rfl⟩
theorem G89:FnOk PR cutsOf Aq1 Tryz.f215 Dy0 Ez7 2:=⟨Tryz.func215,⟨_,rfl⟩,by kernel_rfl,rfl,rfl,by kernel_rfl⟩
theorem G92:FnOk PR cutsOf Ap5 Tryz.f216 Dw4 Ey4 1:=⟨Tryz.func216,⟨_,rfl⟩,by kernel_rfl,rfl,rfl,by kernel_rfl⟩
theorem J6:FnOk PR cutsOf D5 Tryz.f217 V8 Ah4 2:=⟨Tryz.func217,⟨_,rfl⟩,by kernel_rfl,rfl,rfl,by kernel_rfl⟩
theorem Ao3:FnOk PR cutsOf H6 Tryz.f218 Ac2 An6 2:=⟨Tryz.func218,⟨_,rfl⟩,by kernel_rfl,rfl,rfl,by kernel_rfl⟩
theorem Br2:FnOk PR cutsOf V3 Tryz.f219 A51 Bs5 1:=⟨Tryz.func219,⟨_,rfl⟩,by kernel_rfl,rfl,rfl,by kernel_rfl⟩
theorem E24:FnOk PR cutsOf A83 Tryz.f220 Bq8 Dk8 2:=⟨Tryz.func220,⟨_,rfl⟩,by kernel_rfl,rfl,rfl,by kernel_rfl⟩
theorem Hx4:FnOk PR cutsOf Dt8 Tryz.f223 Ej0 Gn5 1:=⟨Tryz.func223,⟨_,rfl⟩,by kernel_rfl,rfl,rfl,by kernel_rfl⟩
theorem Ak9:FnOk PR cutsOf D0 Tryz.f224 Aa2 Ak5 2:=⟨Tryz.func224,⟨_,rfl⟩,by kernel_rfl,rfl,rfl,by kernel_rfl⟩
theorem Ae4:FnOk PR cutsOf E6 Tryz.f225 Q9 Ae2 2:=⟨Tryz.func225,⟨_,rfl⟩,by kernel_rfl,rfl,rfl,by kernel_rfl⟩
theorem Dg9:FnOk PR cutsOf Ab7 Tryz.f226 Ao1 Be0 2:=⟨Tryz.func226,⟨_,rfl⟩,by kernel_rfl,rfl,rfl,by kernel_rfl⟩
theorem Dk3:FnOk PR cutsOf Ad1 Tryz.f229 Ar5 Bf9 2:=⟨Tryz.func229,⟨_,rfl⟩,by kernel_rfl,rfl,rfl,by kernel_rfl⟩
theorem Eu8:FnOk PR cutsOf A03 Tryz.f230 Bl0 Dd6 3:=⟨Tryz.func230,⟨_,rfl⟩,by kernel_rfl,rfl,rfl,by kernel_rfl⟩
theorem Hl3:FnOk PR cutsOf Di0 Tryz.f231 D99 Gb9 1:=⟨Tryz.func231,⟨_,rfl⟩,by kernel_rfl,rfl,rfl,by kernel_rfl⟩
theorem G01:FnOk PR cutsOf Bf0 Tryz.f232 Dj4 En6 3:=⟨Tryz.func232,⟨_,rfl⟩,by kernel_rfl,rfl,rfl,by kernel_rfl⟩
theorem Gy6:FnOk PR cutsOf Bz8 Tryz.f233 Dm7 Eg9 2:=⟨Tryz.func233,⟨_,rfl⟩,by kernel_rfl,rfl,rfl,by kernel_rfl⟩
theorem Hi2:FnOk PR cutsOf De9 Tryz.f234 D70 E70 1:=⟨Tryz.func234,⟨_,rfl⟩,by kernel_rfl,rfl,rfl,by kernel_rfl⟩
theorem Hb3:FnOk PR cutsOf Ap8 Tryz.f235 Dz1 Ey8 2:=⟨Tryz.func235,⟨_,rfl⟩,by kernel_rfl,rfl,rfl,by kernel_rfl⟩
theorem Gu2:FnOk PR cutsOf Aj4 Tryz.f238 Dl1 El5 2:=⟨Tryz.func238,⟨_,rfl⟩,by kernel_rfl,rfl,rfl,by kernel_rfl⟩
theorem G20:FnOk PR cutsOf Bg9 Tryz.f239 Dj7 En3 1:=⟨Tryz.func239,⟨_,rfl⟩,by kernel_rfl,rfl,rfl,by kernel_rfl⟩
end
end Go.EQ

namespace Go.EQ
open Go Go.NN Go.Proofs
theorem Ig3:type_of% Tryz.underlying3:=Tryz.underlying3
theorem Ic8:type_of% Tryz.underlying4:=Tryz.underlying4
end Go.EQ
