/- Honest calls keep sound commons sound, whatever is called; no conditions. -/
import Derived.Test.YtoegoalficgneaaGreatMc
import Derived.Test.YtoegoalficgneaaGreatProg
import Derived.KernelRfl
set_option linter.all false
namespace Go.EQ
open Go Go.NN Go.Proofs
noncomputable abbrev PR:Program:=Tryz.prog
abbrev D5:FuncId:=5
abbrev Ao2:FuncId:=8
abbrev Bp9:FuncId:=9
abbrev Bd5:FuncId:=10
abbrev Bj2:FuncId:=11
abbrev Am5:FuncId:=12
abbrev G4:FuncId:=13
abbrev B92:FuncId:=14
abbrev Aa9:FuncId:=15
abbrev Ab4:FuncId:=17
abbrev Am4:FuncId:=19
abbrev An5:FuncId:=20
abbrev E4:FuncId:=21
abbrev Bs3:FuncId:=22
abbrev Ae1:FuncId:=23
abbrev Da5:FuncId:=24
abbrev By7:FuncId:=33
abbrev Dj0:FuncId:=34
abbrev V7:FuncId:=35
abbrev Aa5:FuncId:=36
abbrev A36:FuncId:=37
abbrev Br5:FuncId:=38
abbrev Bf8:FuncId:=39
abbrev L5:FuncId:=40
abbrev A29:FuncId:=41
abbrev H5:FuncId:=42
abbrev Ae3:FuncId:=43
abbrev I3:FuncId:=44
abbrev Bk1:FuncId:=45
abbrev Dn6:FuncId:=46
abbrev D74:FuncId:=47
abbrev B31:FuncId:=48
abbrev Aa4:FuncId:=49
abbrev O5:FuncId:=50
abbrev A34:FuncId:=51
abbrev Af4:FuncId:=52
abbrev Bn8:FuncId:=53
abbrev Ap0:FuncId:=54
abbrev Ab6:FuncId:=62
abbrev Ad6:FuncId:=64
abbrev D4:FuncId:=67
abbrev Bk5:FuncId:=68
abbrev Aa6:FuncId:=69
abbrev Ai9:FuncId:=70
abbrev N3:FuncId:=71
abbrev Z6:FuncId:=72
abbrev Br2:FuncId:=73
abbrev Ag3:FuncId:=74
abbrev Ae9:FuncId:=75
abbrev U5:FuncId:=80
abbrev Ah7:FuncId:=82
abbrev Al1:FuncId:=83
abbrev Ab9:FuncId:=84
abbrev P9:FuncId:=90
abbrev M6:FuncId:=100
abbrev J4:FuncId:=101
abbrev H3:FuncId:=102
abbrev B95:FuncId:=103
abbrev Bc6:FuncId:=104
abbrev Bg9:FuncId:=105
abbrev Bc2:FuncId:=106
abbrev Ga3:FuncId:=107
abbrev A06:FuncId:=108
abbrev Ga8:FuncId:=109
abbrev Gj3:FuncId:=110
abbrev Ga9:FuncId:=111
abbrev Gm0:FuncId:=112
abbrev Gr6:FuncId:=113
abbrev Em1:FuncId:=114
abbrev Gr4:FuncId:=115
abbrev Gr8:FuncId:=116
abbrev Bb4:FuncId:=117
abbrev Bi1:FuncId:=118
abbrev N5:FuncId:=119
abbrev Bx5:FuncId:=120
abbrev A40:FuncId:=121
abbrev E68:FuncId:=122
abbrev U6:FuncId:=123
abbrev Ax8:FuncId:=124
abbrev Bp6:FuncId:=125
abbrev Ac5:FuncId:=126
abbrev Ai8:FuncId:=137
abbrev Ai6:FuncId:=138
abbrev Au1:FuncId:=143
abbrev Aq8:FuncId:=144
abbrev Bv8:FuncId:=145
abbrev H6:FuncId:=146
abbrev Bb9:FuncId:=147
abbrev Z0:FuncId:=148
abbrev Dx2:FuncId:=149
abbrev Dl0:FuncId:=150
abbrev Y1:FuncId:=151
abbrev B26:FuncId:=152
abbrev Ad1:FuncId:=153
abbrev Bo0:FuncId:=154
abbrev H8:FuncId:=155
abbrev O4:FuncId:=157
abbrev A32:FuncId:=158
abbrev Ae7:FuncId:=159
abbrev J9:FuncId:=160
abbrev A33:FuncId:=161
abbrev Z7:FuncId:=162
abbrev Bs0:FuncId:=163
abbrev Bh8:FuncId:=164
abbrev I7:FuncId:=165
abbrev Aa1:FuncId:=190
abbrev Bq0:FuncId:=191
abbrev Ad4:FuncId:=192
abbrev Em2:FuncId:=193
abbrev A95:FuncId:=194
abbrev A22:FuncId:=195
abbrev Dh6:FuncId:=196
abbrev D95:FuncId:=197
abbrev A00:FuncId:=198
abbrev V5:FuncId:=199
abbrev Bo1:FuncId:=200
abbrev Ag4:FuncId:=201
abbrev S7:FuncId:=202
abbrev Ah0:FuncId:=203
abbrev B08:FuncId:=204
abbrev A92:FuncId:=205
abbrev Bl2:FuncId:=206
abbrev Bm3:FuncId:=207
abbrev Ay6:FuncId:=208
abbrev Av7:FuncId:=209
abbrev Bo2:FuncId:=210
abbrev Ak3:FuncId:=211
abbrev Ah4:FuncId:=212
abbrev Aw6:FuncId:=213
abbrev Bb1:FuncId:=214
abbrev Ga0:FuncId:=215
abbrev A68:FuncId:=216
abbrev A99:FuncId:=217
abbrev Bg7:FuncId:=218
abbrev Bf9:FuncId:=219
abbrev A14:FuncId:=220
abbrev Bm5:FuncId:=221
abbrev As6:FuncId:=222
abbrev Ap4:FuncId:=223
abbrev Bl5:FuncId:=224
abbrev Ac4:FuncId:=231
abbrev Y7:FuncId:=232
abbrev W5:FuncId:=233
abbrev An6:FuncId:=234
abbrev A08:FuncId:=235
abbrev U8:FuncId:=236
abbrev Ae2:FuncId:=237
abbrev Z2:FuncId:=247
abbrev V8:FuncId:=248
abbrev D3:FuncId:=249
abbrev G7:FuncId:=250
abbrev G6:FuncId:=251
abbrev E9:FuncId:=252
abbrev J5:FuncId:=253
abbrev Q0:FuncId:=254
abbrev Q1:FuncId:=255
abbrev M8:FuncId:=256
abbrev Ad9:FuncId:=257
abbrev Ab8:FuncId:=258
abbrev N8:FuncId:=259
abbrev A45:FuncId:=260
abbrev E3:FuncId:=261
abbrev Av0:FuncId:=262
abbrev S8:FuncId:=263
abbrev H9:FuncId:=264
abbrev N9:FuncId:=265
abbrev Au7:FuncId:=266
abbrev B64:FuncId:=267
abbrev R0:FuncId:=268
abbrev Bq8:FuncId:=269
abbrev Ac6:FuncId:=270
abbrev Bx3:FuncId:=271
abbrev Ac7:FuncId:=272
abbrev Ac9:FuncId:=273
abbrev Ac3:FuncId:=274
abbrev Ek3:FuncId:=276
abbrev A04:FuncId:=283
abbrev I2:FuncId:=285
abbrev Dl8:FuncId:=286
abbrev V6:FuncId:=287
abbrev Bh3:FuncId:=288
abbrev Au6:FuncId:=289
abbrev An7:FuncId:=290
abbrev A54:FuncId:=291
abbrev Ah1:FuncId:=292
abbrev H1:FuncId:=293
abbrev Z4:FuncId:=294
abbrev Ah9:FuncId:=295
abbrev Bt8:FuncId:=296
abbrev A43:FuncId:=297
abbrev As4:FuncId:=300
abbrev Bb7:FuncId:=301
abbrev A48:FuncId:=302
abbrev D1:FuncId:=303
abbrev Bg8:FuncId:=304
abbrev Bo9:FuncId:=305
abbrev Ad5:FuncId:=306
abbrev H2:FuncId:=309
abbrev D55:FuncId:=310
abbrev B03:FuncId:=311
abbrev Ai0:FuncId:=312
abbrev Dk7:FuncId:=313
abbrev D7:FuncId:=314
abbrev M0:FuncId:=319
abbrev E2:FuncId:=320
abbrev D8:FuncId:=321
abbrev E1:FuncId:=322
abbrev Az6:FuncId:=323
abbrev A25:FuncId:=324
abbrev A30:FuncId:=325
abbrev A05:FuncId:=326
abbrev B15:FuncId:=327
abbrev B36:FuncId:=328
abbrev A31:FuncId:=329
abbrev J7:FuncId:=331
abbrev Q8:FuncId:=332
abbrev Ak4:FuncId:=333
abbrev Am8:FuncId:=336
abbrev Bf4:FuncId:=337
abbrev Av1:FuncId:=338
abbrev Bw7:FuncId:=339
abbrev D61:FuncId:=340
abbrev A8:TypeId:=3
abbrev G81:TypeId:=4
abbrev A3:TypeId:=5
abbrev Ey8:TypeId:=9
abbrev Y9:TypeId:=22
abbrev Dq3:TypeId:=24
abbrev Ag9:TypeId:=34
abbrev Hg5:TypeId:=38
abbrev A7:TypeId:=40
abbrev Dm1:TypeId:=46
abbrev B65:TypeId:=56
abbrev B8:TypeId:=59
abbrev Ee3:TypeId:=61
abbrev Ed4:TypeId:=74
abbrev Di9:TypeId:=77
abbrev Ba6:TypeId:=80
abbrev D9:TypeId:=84
abbrev Gk8:TypeId:=86
abbrev D2:TypeId:=93
abbrev G9:TypeId:=106
abbrev Dw6:TypeId:=121
abbrev Ef4:TypeId:=132
abbrev A88:TypeId:=135
abbrev D52:TypeId:=138
abbrev G2:TypeId:=163
abbrev Do2:TypeId:=172
abbrev Gu6:TypeId:=181
abbrev Ex0:TypeId:=189
abbrev Br3:TypeId:=196
abbrev E25:TypeId:=198
abbrev Gh6:TypeId:=211
abbrev Da1:TypeId:=214
abbrev Aq5:TypeId:=216
abbrev L6:TypeId:=244
abbrev A90:TypeId:=251
abbrev V4:TypeId:=258
abbrev Ej9:TypeId:=266
abbrev Bk6:TypeId:=281
abbrev Gd0:TypeId:=285
abbrev Gk4:TypeId:=288
abbrev Gt8:TypeId:=290
abbrev Bu3:TypeId:=292
abbrev B68:TypeId:=300
abbrev W2:TypeId:=314
abbrev W3:TypeId:=317
abbrev W0:TypeId:=320
abbrev Ar3:TypeId:=322
abbrev Eq6:TypeId:=324
abbrev A56:TypeId:=348
abbrev I1:TypeId:=349
abbrev A87:TypeId:=352
abbrev Gw3:TypeId:=354
abbrev B78:TypeId:=356
abbrev Bw4:TypeId:=368
abbrev Gj4:TypeId:=371
abbrev Jl3:TypeId:=375
abbrev At7:TypeId:=391
abbrev B62:TypeId:=395
abbrev Dg1:TypeId:=399
abbrev Aw5:TypeId:=401
end Go.EQ

set_option maxRecDepth 100000
namespace Go.EQ
open Go Go.NN Go.Proofs
variable (C:E0) (R:Ai7)
noncomputable section
abbrev zz1:List Value:=[.int .i64 0,.int .i64 0,.int .i64 0,.int .i64 0,.int .i64 0,.int .i64 0,.int .i64 0,.int .i64 0,.int .i64 0,.int .i64 0,.int .i64 0,.int .i64 0,.int .i64 0,.int .i64 0,.int .i64 0,.int .i64 0]
abbrev zz2:List Value:=[.int .i64 0,.int .i64 0,.int .i64 0,.int .i64 0,.int .i64 0,.int .i64 0,.int .i64 0,.int .i64 0,.int .i64 0,.int .i64 0,.int .i64 0,.int .i64 0,.int .i64 0,.int .i64 0,.int .i64 0,.int .i64 0,.int .i64 0]
abbrev zz3:List Value:=[.int .i64 0,.int .i64 0,.int .i64 0,.int .i64 0,.int .i64 0,.int .i64 0,.int .i64 0,.int .i64 0,.int .i64 0,.int .i64 0,.int .i64 0,.int .i64 0]
abbrev zz4:List Value:=[.int .i64 0,.int .i64 0,.int .i64 0,.int .i64 0,.int .u8 0,.int .u8 0,.int .u8 0,.int .u8 0,.int .u8 0,.int .u8 0,.int .u8 0,.int .u8 0,.int .u8 0,.int .u8 0,.int .u8 0,.int .u8 0,.int .u8 0,.int .u8 0,.int .u8 0,.int .u8 0,.int .u8 0,.int .u8 0,.int .u8 0,.int .u8 0,.int .u8 0,.int .u8 0,.int .u8 0,.int .u8 0,.int .u8 0,.int .u8 0,.int .u8 0,.int .u8 0,.int .u8 0,.int .u8 0,.int .u8 0,.int .u8 0]
def Dj1:Cuts:=⟨0,[(9,[6,7,8,9,10,11,12])],[],[]⟩
def Ed3:List Item:=A5 Tryz.f8
def Bu8:List Item:=stk [0,1,0,1,0,1,0,1,0,1,0,1,0,1,0,0,1,4,5] Ed3
theorem H27 (b:Option Addr) (bn bc:Nat) (h:H) :
 A4 PR Dj1 C R Ao2 Tryz.f8 100000 true Ed3 [(0,.slice b bn bc)] h =
 bnd (C Dj0 [] h) fun r w=>aAgg r fun x=>bnd (C By7 [.agg ⟨x⟩] w) fun q1 w1=>as4 q1 fun q2 q3 q4 q5=>aPtr q2 fun z1=>aPtr q3 fun z2=>aPtr q4 fun z3=>aPtr q5 fun z4=>bnd (cond z2.isNone (some (true,w1)) (some ((bn:Int) != 492,w1))) fun c w2=>cond c
 (some (.tuple ⟨[.pointer none,.pointer none,.pointer none,.pointer none]⟩,w2))
 (nw (.cells Ba6 false [.int .i64 0,.int .i64 0,.int .i64 0,.int .i64 0,.int .i64 0,.int .i64 0,.slice none 0 0]) w2 fun p1 w3=>pAgg ⟨p1,0,none⟩ [.int .i64 2,.int .i64 256,.int .i64 0,.int .i64 0,.int .i64 0,.int .i64 0,.slice b bn bc] w3 fun w4=>bnd (C V7 [.agg ⟨[.int .i64 0,.int .i64 0,.int .i64 1,.int .i64 1,.int .u8 0,.int .u8 0,.int .u8 0,.int .u8 0,.int .u8 0,.int .u8 0,.int .u8 0,.int .u8 0,.int .u8 0,.int .u8 0,.int .u8 0,.int .u8 0,.int .u8 0,.int .u8 0,.int .u8 0,.int .u8 0,.int .u8 0,.int .u8 0,.int .u8 0,.int .u8 0,.int .u8 0,.int .u8 0,.int .u8 0,.int .u8 0,.int .u8 0,.int .u8 0,.int .u8 0,.int .u8 0,.int .u8 0,.int .u8 0,.int .u8 0,.int .u8 0]⟩] w4) fun q6 w5=>aStr q6 fun z5=>gAgg ⟨p1,0,none⟩ 7 w5 fun z6=>bnd (C Aa5 [.pointer z1,.int .i64 0,.agg ⟨z6⟩] w5) fun q7 w6=>aAgg q7 fun _=>gAgg ⟨p1,0,none⟩ 7 w6 fun z8=>bnd (C A36 [.pointer z3,.int .i64 0,.agg ⟨z8⟩] w6) fun q8 w7=>as3 q8 fun q9 q10 q11=>aInt .i64 q9 fun _=>aInt .i64 q10 fun _=>aStr q11 fun _=>R Ao2 Bu8 [(6,.pointer z1),(7,.pointer z2),(8,.pointer z3),(9,.pointer z4),(10,.pointer (some ⟨p1,0,none⟩)),(11,.string z5),(12,.int .i64 1)] w7):=by kernel_rfl
theorem Do1 (k:Option Addr) (c:Option Addr) (wv:Option Addr) (m:Option Addr) (x:Addr) (pipe:ByteArray) (i:Int) (h:H) :
 A4 PR Dj1 C R Ao2 Tryz.f8 100000 true Bu8 [(6,.pointer k),(7,.pointer c),(8,.pointer wv),(9,.pointer m),(10,.pointer (some x)),(11,.string pipe),(12,.int .i64 i)] h =
 cond (decide (i<3))
 (ck (ByteArray.size pipe≤A9) (nw (.cells A3 false (A0 (ByteArray.data pipe).toList)) h fun b w=>pAgg x [.int .i64 2,.int .i64 (IntKind.wrap .i64 (256+i)),.int .i64 0,.int .i64 0,.int .i64 0,.int .i64 0,.slice (some (O7 b)) (ByteArray.size pipe) (ByteArray.size pipe)] w fun w1=>gAgg x 7 w1 fun z1=>bnd (C Aa5 [.pointer k,.int .i64 0,.agg ⟨z1⟩] w1) fun r w2=>aAgg r fun _=>gAgg x 7 w2 fun z3=>bnd (C A36 [.pointer wv,.int .i64 0,.agg ⟨z3⟩] w2) fun q1 w3=>as3 q1 fun q2 q3 q4=>aInt .i64 q2 fun _=>aInt .i64 q3 fun _=>aStr q4 fun _=>R Ao2 Bu8 [(6,.pointer k),(7,.pointer c),(8,.pointer wv),(9,.pointer m),(10,.pointer (some x)),(11,.string pipe),(12,.int .i64 (IntKind.wrap .i64 (i+1)))] w3))
 (some (.tuple ⟨[.pointer k,.pointer c,.pointer wv,.pointer m]⟩,h)):=by kernel_rfl
def Dx3:Cuts:=⟨0,[(10,[0,3,8,53,54,55])],[],[]⟩
def Eo7:List Item:=A5 Tryz.f12
def B20:List Item:=stk [0,1,0,1,0,1,0,1,0,1,0,0,1,4,5] Eo7
theorem Gw6 (c:Option Addr) (i:Int) (target:Int) (n:Int) (h:H) :
 A4 PR Dx3 C R Am5 Tryz.f12 100000 true Eo7 [(0,.pointer c),(1,.int .i64 i),(2,.int .i64 target),(3,.int .i64 n)] h =
 nw (.cells Ag9 false [.int .i64 0,.int .i64 0,.slice none 0 0,.bool false]) h fun b w=>bnd (C Am4 [.pointer c,.int .i64 i] w) fun r w1=>as2 r fun q1 q2=>aAgg q1 fun x=>aInt .i64 q2 fun z1=>nw (.cells A7 false zz1) w1 fun p1 w2=>ck (List.length x=16) (pAgg ⟨p1,0,none⟩ x w2 fun w3=>cond (z1 != 0)
 (bnd (C L5 [.int .i64 z1] w3) fun q3 w4=>aAgg q3 fun z2=>ck (List.length z2=4) (pAgg ⟨b,0,none⟩ z2 w4 fun w5=>gAgg ⟨b,0,none⟩ 4 w5 fun z3=>some (.agg ⟨z3⟩,w5)))
 (bnd (cond (decide (target<0)) (some (true,w3)) (some (decide (target>15),w3))) fun c_1 w6=>bnd (cond c_1 (some (true,w6)) (some (decide (n<0),w6))) fun c_2 w7=>bnd (cond c_2 (some (true,w7)) (some (decide (n>15),w7))) fun c_3 w8=>cond c_3
 (bnd (C L5 [.int .i64 122] w8) fun q4 w9=>aAgg q4 fun z4=>ck (List.length z4=4) (pAgg ⟨b,0,none⟩ z4 w9 fun w10=>gAgg ⟨b,0,none⟩ 4 w10 fun z5=>some (.agg ⟨z5⟩,w10)))
 (bnd (C B31 [.pointer c,.int .i64 target] w8) fun q5 w11=>as2 q5 fun q6 q7=>aSl q6 fun z6 xn xc=>aInt .i64 q7 fun z7=>cond (z7 != 0)
 (bnd (C L5 [.int .i64 z7] w11) fun q8 w12=>aAgg q8 fun z8=>ck (List.length z8=4) (pAgg ⟨b,0,none⟩ z8 w12 fun w13=>gAgg ⟨b,0,none⟩ 4 w13 fun z9=>some (.agg ⟨z9⟩,w13)))
 (R Am5 B20 [(0,.pointer c),(3,.int .i64 n),(8,.pointer (some ⟨b,0,none⟩)),(53,.slice z6 xn xc),(54,.int .i64 (xn:Int)),(55,.int .i64 0)] w11)))):=by kernel_rfl
theorem Es6 (c:Option Addr) (n:Int) (x8:Addr) (x53:Option Addr) (x53n x53c:Nat) (x54:Int) (x55:Int) (h:H) :
 A4 PR Dx3 C R Am5 Tryz.f12 100000 true B20 [(0,.pointer c),(3,.int .i64 n),(8,.pointer (some x8)),(53,.slice x53 x53n x53c),(54,.int .i64 x54),(55,.int .i64 x55)] h =
 cond (decide (x55<x54))
 (aSome x53 fun p=>ck ((0:Int)≤x55∧x55<(x53n:Int)) (gAgg (Addr.add (B3 p) (Int.toNat x55*17)) 17 h fun x=>nw (.cells G9 false zz2) h fun b w=>ck (List.length x=17) (pAgg ⟨b,0,none⟩ x w fun w1=>gAgg ⟨b,1,none⟩ 16 w1 fun z1=>bnd (C Aa4 [.agg ⟨z1⟩,.int .i64 n] w1) fun r w2=>as2 r fun q1 q2=>aAgg q1 fun z2=>aBool q2 fun z3=>nw (.cells A7 false zz1) w2 fun p1 w3=>ck (List.length z2=16) (pAgg ⟨p1,0,none⟩ z2 w3 fun w4=>bnd (cond z3 (gInt .i64 ⟨b,0,none⟩ w4 fun z4=>gAgg ⟨p1,0,none⟩ 16 w4 fun z5=>bnd (C I3 [.pointer c,.int .i64 z4,.agg ⟨z5⟩] w4) fun q3 w5=>aBool q3 fun z6=>some (!z6,w5)) (some (false,w4))) fun c_1 w6=>cond c_1
 (bnd (C L5 [.int .i64 105] w6) fun q4 w7=>aAgg q4 fun z7=>ck (List.length z7=4) (pAgg x8 z7 w7 fun w8=>gAgg x8 4 w8 fun z8=>some (.agg ⟨z8⟩,w8)))
 (R Am5 B20 [(0,.pointer c),(3,.int .i64 n),(8,.pointer (some x8)),(53,.slice x53 x53n x53c),(54,.int .i64 x54),(55,.int .i64 (IntKind.wrap .i64 (x55+1)))] w6)))))
 (pAgg x8 [.int .i64 0,.int .i64 0,.slice none 0 0,.bool false] h fun w9=>gAgg x8 4 w9 fun z9=>some (.agg ⟨z9⟩,w9)):=by kernel_rfl
def Be2:Cuts:=⟨0,[],[],[]⟩
def B80:List Item:=A5 Tryz.f13
theorem En4 (c:Option Addr) (i:Int) (h:H) :
 A4 PR Be2 C R G4 Tryz.f13 100000 true B80 [(0,.pointer c),(1,.int .i64 i)] h =
 nw (.cells A7 false zz1) h fun b w=>bnd (C A34 [.int .i64 i] w) fun r w1=>aAgg r fun x=>bnd (C O5 [.pointer c,.agg ⟨x⟩,.func (.func Af4) ⟨[]⟩ ⟨[]⟩] w1) fun q1 w2=>as2 q1 fun q2 q3=>aAgg q2 fun z1=>aInt .i64 q3 fun z2=>ck (List.length z1=16) (pAgg ⟨b,0,none⟩ z1 w2 fun w3=>gAgg ⟨b,0,none⟩ 16 w3 fun z3=>some (.tuple ⟨[.agg ⟨z3⟩,.int .i64 z2]⟩,w3)):=by kernel_rfl
def Bt1:Cuts:=⟨0,[],[],[]⟩
def Dq1:List Item:=A5 Tryz.f17
theorem Ga5 (k:Option Addr) (h:H) :
 A4 PR Bt1 C R Ab4 Tryz.f17 100000 true Dq1 [(0,.pointer k)] h =
 aSome k fun p=>gPtr (Addr.add p 5) h fun x=>some (.pointer x,h):=by kernel_rfl
def D35:Cuts:=⟨0,[],[],[]⟩
def E92:List Item:=A5 Tryz.f24
theorem Hs2 (b:Option Addr) (bn bc:Nat) (h:H) :
 A4 PR D35 C R Da5 Tryz.f24 100000 true E92 [(0,.slice b bn bc)] h =
 bnd (C Ae9 [.slice b bn bc] h) fun r w=>aSl r fun _ xn _=>some (.bool ((xn:Int)==0),w):=by kernel_rfl
def Ef9:Cuts:=⟨0,[],[],[]⟩
def Gj1:List Item:=A5 Tryz.f33
theorem H01 (p:List Value) (h:H) :
 A4 PR Ef9 C R By7 Tryz.f33 100000 true Gj1 [(0,.agg ⟨p⟩)] h =
 nw (.cells Di9 false p) h fun b w=>gAgg ⟨b,0,none⟩ 3 w fun x=>bnd (C M6 [.agg ⟨x⟩] w) fun r w1=>aAgg r fun z1=>nw (.cells G2 false [.slice none 0 0,.slice none 0 0,.slice none 0 0,.int .i64 0,.slice none 0 0]) w1 fun p1 w2=>ck (List.length z1=5) (pAgg ⟨p1,0,none⟩ z1 w2 fun w3=>gAgg ⟨p1,0,none⟩ 5 w3 fun z2=>bnd (C J4 [.agg ⟨z2⟩] w3) fun q1 w4=>as2 q1 fun q2 q3=>aPtr q2 fun z3=>aInt .i64 q3 fun z4=>bnd (cond z3.isNone (some (true,w4)) (some (z4 != 0,w4))) fun c w5=>cond c
 (some (.tuple ⟨[.pointer none,.pointer none,.pointer none,.pointer none]⟩,w5))
 (gAgg ⟨p1,0,none⟩ 5 w5 fun z5=>bnd (C H3 [.agg ⟨z5⟩] w5) fun q4 w6=>aPtr q4 fun z6=>bnd (C B95 [.pointer z3,.int .i64 0] w6) fun q5 w7=>as2 q5 fun q6 q7=>aPtr q6 fun z7=>aInt .i64 q7 fun z8=>bnd (cond z7.isNone (some (true,w7)) (some (z8 != 0,w7))) fun c_1 w8=>cond c_1
 (some (.tuple ⟨[.pointer none,.pointer none,.pointer none,.pointer none]⟩,w8))
 (bnd (C Br5 [] w8) fun q8 w9=>aStr q8 fun z9=>ck (ByteArray.size z9≤A9) (nw (.cells A3 false (A0 (ByteArray.data z9).toList)) w9 fun p2 w10=>bnd (C Aa5 [.pointer z3,.int .i64 0,.agg ⟨[.int .i64 2,.int .i64 256,.int .i64 0,.int .i64 0,.int .i64 0,.int .i64 0,.slice (some (O7 p2)) (ByteArray.size z9) (ByteArray.size z9)]⟩] w10) fun q9 w11=>aAgg q9 fun z10=>nth z10 0 fun E=>aInt .i64 E fun E_1=>cond (E_1 != 0)
 (some (.tuple ⟨[.pointer none,.pointer none,.pointer none,.pointer none]⟩,w11))
 (ck (ByteArray.size z9≤A9) (nw (.cells A3 false (A0 (ByteArray.data z9).toList)) w11 fun p3 w12=>bnd (C A36 [.pointer z6,.int .i64 0,.agg ⟨[.int .i64 2,.int .i64 256,.int .i64 0,.int .i64 0,.int .i64 0,.int .i64 0,.slice (some (O7 p3)) (ByteArray.size z9) (ByteArray.size z9)]⟩] w12) fun q10 w13=>as3 q10 fun q11 q12 q13=>aInt .i64 q11 fun _=>aInt .i64 q12 fun _=>aStr q13 fun _=>bnd (C Bc6 [.pointer z6,.int .i64 0] w13) fun q14 w14=>aPtr q14 fun z14=>some (.tuple ⟨[.pointer z3,.pointer z7,.pointer z6,.pointer z14]⟩,w14))))))):=by kernel_rfl
def Dt3:Cuts:=⟨0,[],[],[]⟩
def Ew1:List Item:=A5 Tryz.f36
theorem Hi3 (k:Option Addr) (env:Int) (c:List Value) (h:H) :
 A4 PR Dt3 C R Aa5 Tryz.f36 100000 true Ew1 [(0,.pointer k),(1,.int .i64 env),(2,.agg ⟨c⟩)] h =
 nw (.cells Ba6 false c) h fun b w=>nw (.cells Gk8 false [.int .i64 0,.int .i64 0,.slice none 0 0]) w fun p1 w1=>bnd (cond (decide (env<0)) (some (true,w1)) (aSome k fun p=>gSl (Addr.add p 0) w1 fun _ xn _=>some (decide (env≥(xn:Int)),w1))) fun c_1 w2=>cond c_1
 (pAgg ⟨p1,0,none⟩ [.int .i64 1,.int .i64 0,.slice none 0 0] w2 fun w3=>gAgg ⟨p1,0,none⟩ 3 w3 fun z1=>some (.agg ⟨z1⟩,w3))
 (gAgg ⟨b,0,none⟩ 7 w2 fun z2=>bnd (C Bg9 [.pointer k,.int .i64 env,.agg ⟨z2⟩] w2) fun r w4=>as3 r fun q1 q2 q3=>aSl q1 fun z3 xn_1 xc_1=>aInt .i64 q2 fun z4=>aBool q3 fun z5=>cond z5
 (pAgg ⟨p1,0,none⟩ [.int .i64 z4,.int .i64 0,.slice z3 xn_1 xc_1] w4 fun w5=>gAgg ⟨p1,0,none⟩ 3 w5 fun z6=>some (.agg ⟨z6⟩,w5))
 (gAgg ⟨b,0,none⟩ 7 w4 fun z7=>bnd (C Bc2 [.pointer k,.int .i64 env,.agg ⟨z7⟩] w4) fun q4 w6=>as2 q4 fun q5 q6=>aInt .i64 q5 fun z8=>aInt .i64 q6 fun z9=>pAgg ⟨p1,0,none⟩ [.int .i64 z9,.int .i64 z8,.slice none 0 0] w6 fun w7=>gAgg ⟨p1,0,none⟩ 3 w7 fun z10=>some (.agg ⟨z10⟩,w7))):=by kernel_rfl
def D24:Cuts:=⟨0,[],[],[(1,⟨[0,1,2,3,4,5,6,7],[0,1,0,4,15,12,63,127],[(3,[1]),(5,[1])],[]⟩)]⟩
def E87:List Item:=A5 Tryz.f38
theorem Hs4  (h:H) :
 A4 PR D24 C R Br5 Tryz.f38 100000 true E87 [] h =
 ck ((0:Int)≤448∧(448:Int)≤448∧448≤(A9:Int)) (nw (.cells A3 false (I6 (Int.toNat 448) [.int .u8 0])) h fun b w=>gCells (some ⟨b,0,none⟩) (Int.toNat 448) w fun cs=>asBytes cs fun l=>bnd (C V7 [.agg ⟨[.int .i64 0,.int .i64 0,.int .i64 1,.int .i64 1,.int .u8 0,.int .u8 0,.int .u8 0,.int .u8 0,.int .u8 0,.int .u8 0,.int .u8 0,.int .u8 0,.int .u8 0,.int .u8 0,.int .u8 0,.int .u8 0,.int .u8 0,.int .u8 0,.int .u8 0,.int .u8 0,.int .u8 0,.int .u8 0,.int .u8 0,.int .u8 0,.int .u8 0,.int .u8 0,.int .u8 0,.int .u8 0,.int .u8 0,.int .u8 0,.int .u8 0,.int .u8 0,.int .u8 0,.int .u8 0,.int .u8 0,.int .u8 0]⟩] w) fun r w1=>aStr r fun x=>gCells (some ⟨b,0,none⟩) (Int.toNat 448) w1 fun cs_1=>asBytes cs_1 fun l_1=>same (.string (ByteArray.mk ⟨l⟩)) (.string (ByteArray.mk ⟨l_1⟩)) (ck (ByteArray.size (ByteArray.mk ⟨l⟩)+ByteArray.size x≤A9) (bnd (C Bb4 [.int .i64 0] w1) fun q1 w2=>aStr q1 fun z1=>gCells (some ⟨b,0,none⟩) (Int.toNat 448) w2 fun cs_2=>asBytes cs_2 fun l_2=>same (.string (ByteArray.mk ⟨l⟩)) (.string (ByteArray.mk ⟨l_2⟩)) (ck (ByteArray.size ((ByteArray.mk ⟨l⟩)++x)+ByteArray.size z1≤A9) (some (.string (((ByteArray.mk ⟨l⟩)++x)++z1),w2)))))):=by kernel_rfl
def B52:Cuts:=⟨0,[],[],[]⟩
def D46:List Item:=A5 Tryz.f39
theorem Gs2 (f:List Value) (h:H) :
 A4 PR B52 C R Bf8 Tryz.f39 100000 true D46 [(0,.agg ⟨f⟩)] h =
 nw (.cells D2 false f) h fun b w=>gInt .i64 ⟨b,0,none⟩ w fun x=>gInt .i64 ⟨b,1,none⟩ w fun z1=>gInt .i64 ⟨b,2,none⟩ w fun z2=>gInt .i64 ⟨b,3,none⟩ w fun z3=>nw (.cells A3 false [.int .u8 (IntKind.wrap .u8 (x)),.int .u8 (IntKind.wrap .u8 (z1)),.int .u8 (IntKind.wrap .u8 (z2)),.int .u8 (IntKind.wrap .u8 (z3)),.int .u8 179]) w fun p1 w1=>gCells (some ⟨p1,0,none⟩) 5 w1 fun cs=>asBytes cs fun l=>bnd (C Ap0 [.string (ByteArray.mk ⟨l⟩)] w1) fun r w2=>aInt .u8 r fun z4=>nw (.cells A3 false [.int .u8 z4,.int .u8 0,.int .u8 0]) w2 fun p2 w3=>gCells (some ⟨p2,0,none⟩) 3 w3 fun cs_1=>asBytes cs_1 fun l_1=>ck (ByteArray.size (ByteArray.mk ⟨l⟩)+ByteArray.size (ByteArray.mk ⟨l_1⟩)≤A9) (some (.string ((ByteArray.mk ⟨l⟩)++(ByteArray.mk ⟨l_1⟩)),w3)):=by kernel_rfl
def Bi7:Cuts:=⟨0,[(3,[0,3,5,17,18]),(9,[0,5,31,32]),(19,[0,57,58])],[],[(15,⟨[0,1,2,3,4,5,6,7,8],[0,1,0,4,12,28,63,127,255],[],[]⟩)]⟩
def By4:List Item:=A5 Tryz.f42
def A96:List Item:=stk [0,1,0,1,0,0,1,4,5] By4
def Av9:List Item:=stk [0,1,0,1,0,1,0,0,1,4,5] By4
def Aw8:List Item:=stk [0,1,0,1,0,1,0,1,0,0,1,4,5] By4
theorem Hx7 (c:Option Addr) (p:List Value) (h:H) :
 A4 PR Bi7 C R H5 Tryz.f42 100000 true By4 [(0,.pointer c),(1,.agg ⟨p⟩)] h =
 nw (.cells A7 false p) h fun b w=>nw (.cells E25 false zz3) w fun p1 w1=>gAgg ⟨b,8,none⟩ 8 w1 fun x=>R H5 A96 [(0,.pointer c),(3,.pointer (some ⟨b,0,none⟩)),(5,.pointer (some ⟨p1,0,none⟩)),(17,.agg ⟨x⟩),(18,.int .i64 0)] w1:=by kernel_rfl
theorem Ej4 (c:Option Addr) (p:Addr) (more:Addr) (x17:List Value) (x18:Int) (h:H) :
 A4 PR Bi7 C R H5 Tryz.f42 100000 true A96 [(0,.pointer c),(3,.pointer (some p)),(5,.pointer (some more)),(17,.agg ⟨x17⟩),(18,.int .i64 x18)] h =
 cond (decide (x18<8))
 (ck ((0:Int)≤x18∧x18<((8:Nat):Int)) (nth x17 (Int.toNat x18*1) fun x=>aInt .i64 x fun z1=>cond (decide (z1>0))
 (ck ((0:Int)≤IntKind.wrap .i64 (z1-1)∧IntKind.wrap .i64 (z1-1)<((12:Nat):Int)) (gInt .i64 (Addr.add more (Int.toNat (IntKind.wrap .i64 (z1-1))*1)) h fun z2=>ck ((0:Int)≤IntKind.wrap .i64 (z1-1)∧IntKind.wrap .i64 (z1-1)<((12:Nat):Int)) (pV (Addr.add more (Int.toNat (IntKind.wrap .i64 (z1-1))*1)) (.int .i64 (IntKind.wrap .i64 (z2+1))) h fun w=>R H5 A96 [(0,.pointer c),(3,.pointer (some p)),(5,.pointer (some more)),(17,.agg ⟨x17⟩),(18,.int .i64 (IntKind.wrap .i64 (x18+1)))] w)))
 (R H5 A96 [(0,.pointer c),(3,.pointer (some p)),(5,.pointer (some more)),(17,.agg ⟨x17⟩),(18,.int .i64 (IntKind.wrap .i64 (x18+1)))] h)))
 (gAgg (Addr.add p 8) 8 h fun z3=>R H5 Av9 [(0,.pointer c),(5,.pointer (some more)),(31,.agg ⟨z3⟩),(32,.int .i64 0)] h):=by kernel_rfl
theorem El7 (c:Option Addr) (more:Addr) (x31:List Value) (x32:Int) (h:H) :
 A4 PR Bi7 C R H5 Tryz.f42 100000 true Av9 [(0,.pointer c),(5,.pointer (some more)),(31,.agg ⟨x31⟩),(32,.int .i64 x32)] h =
 cond (decide (x32<8))
 (ck ((0:Int)≤x32∧x32<((8:Nat):Int)) (nth x31 (Int.toNat x32*1) fun x=>aInt .i64 x fun z1=>cond (z1==0)
 (R H5 Av9 [(0,.pointer c),(5,.pointer (some more)),(31,.agg ⟨x31⟩),(32,.int .i64 (IntKind.wrap .i64 (x32+1)))] h)
 (bnd (C U5 [.pointer c,.int .i64 (IntKind.wrap .i64 (z1-1))] h) fun r w=>as2 r fun q1 q2=>aAgg q1 fun z2=>aInt .i64 q2 fun z3=>nw (.cells D2 false [.int .i64 0,.int .i64 0,.int .i64 0,.int .i64 0]) w fun b w1=>ck (List.length z2=4) (pAgg ⟨b,0,none⟩ z2 w1 fun w2=>cond (z3 != 1)
 (some (.int .i64 105,w2))
 (gInt .i64 ⟨b,2,none⟩ w2 fun z4=>ck ((0:Int)≤IntKind.wrap .i64 (z1-1)∧IntKind.wrap .i64 (z1-1)<((12:Nat):Int)) (gInt .i64 (Addr.add more (Int.toNat (IntKind.wrap .i64 (z1-1))*1)) w2 fun z5=>cond (decide ((IntKind.wrap .i64 (z4+z5))>64))
 (some (.int .i64 123,w2))
 (R H5 Av9 [(0,.pointer c),(5,.pointer (some more)),(31,.agg ⟨x31⟩),(32,.int .i64 (IntKind.wrap .i64 (x32+1)))] w2)))))))
 (gAgg more 12 h fun z6=>R H5 Aw8 [(0,.pointer c),(57,.agg ⟨z6⟩),(58,.int .i64 0)] h):=by kernel_rfl
theorem Em6 (c:Option Addr) (x57:List Value) (x58:Int) (h:H) :
 A4 PR Bi7 C R H5 Tryz.f42 100000 true Aw8 [(0,.pointer c),(57,.agg ⟨x57⟩),(58,.int .i64 x58)] h =
 cond (decide (x58<12))
 (ck ((0:Int)≤x58∧x58<((12:Nat):Int)) (nth x57 (Int.toNat x58*1) fun x=>aInt .i64 x fun z1=>cond (z1==0)
 (R H5 Aw8 [(0,.pointer c),(57,.agg ⟨x57⟩),(58,.int .i64 (IntKind.wrap .i64 (x58+1)))] h)
 (bnd (C U5 [.pointer c,.int .i64 x58] h) fun r w=>as2 r fun q1 q2=>aAgg q1 fun z2=>aInt .i64 q2 fun _=>nw (.cells D2 false [.int .i64 0,.int .i64 0,.int .i64 0,.int .i64 0]) w fun b w1=>ck (List.length z2=4) (pAgg ⟨b,0,none⟩ z2 w1 fun w2=>gInt .i64 ⟨b,2,none⟩ w2 fun z4=>pV ⟨b,2,none⟩ (.int .i64 (IntKind.wrap .i64 (z4+z1))) w2 fun w3=>gAgg ⟨b,0,none⟩ 4 w3 fun z5=>bnd (C Ab9 [.pointer c,.int .i64 x58,.agg ⟨z5⟩] w3) fun q3 w4=>aBool q3 fun z6=>cond (!z6)
 (some (.int .i64 105,w4))
 (R H5 Aw8 [(0,.pointer c),(57,.agg ⟨x57⟩),(58,.int .i64 (IntKind.wrap .i64 (x58+1)))] w4)))))
 (some (.int .i64 0,h)):=by kernel_rfl
def Er5:Cuts:=⟨0,[],[],[]⟩
def Gv8:List Item:=A5 Tryz.f43
theorem Ib9 (ok:Bool) (n:Int) (h:H) :
 A4 PR Er5 C R Ae3 Tryz.f43 100000 true Gv8 [(0,.bool ok),(1,.int .i64 n)] h =
 nw (.cells Ag9 false [.int .i64 0,.int .i64 0,.slice none 0 0,.bool false]) h fun b w=>cond (!ok)
 (bnd (C L5 [.int .i64 105] w) fun r w1=>aAgg r fun x=>ck (List.length x=4) (pAgg ⟨b,0,none⟩ x w1 fun w2=>gAgg ⟨b,0,none⟩ 4 w2 fun z1=>some (.agg ⟨z1⟩,w2)))
 (pAgg ⟨b,0,none⟩ [.int .i64 n,.int .i64 0,.slice none 0 0,.bool false] w fun w3=>gAgg ⟨b,0,none⟩ 4 w3 fun z2=>some (.agg ⟨z2⟩,w3)):=by kernel_rfl
def E40:Cuts:=⟨0,[],[],[]⟩
def Hc8:List Item:=A5 Tryz.f47
theorem Iu4 (c:Option Addr) (g:Int) (h:H) :
 A4 PR E40 C R D74 Tryz.f47 100000 true Hc8 [(0,.pointer c),(1,.int .i64 g)] h =
 nw (.cells A8 false [.int .i64 g]) h fun b w=>bnd (C Z6 [.pointer c,.func (.func Bx5) ⟨[]⟩ ⟨[.pointer (some ⟨b,0,none⟩)]⟩] w) fun r w1=>aSl r fun _ xn _=>some (.bool (decide ((xn:Int)>0)),w1):=by kernel_rfl
def Ey6:Cuts:=⟨0,[],[],[]⟩
def Hd7:List Item:=A5 Tryz.f53
theorem Iq7 (n:Int) (h:H) :
 A4 PR Ey6 C R Bn8 Tryz.f53 100000 true Hd7 [(0,.int .i64 n)] h =
 nw (.cells A3 false [.int .u8 (IntKind.wrap .u8 (Int.fdiv n (2 ^ 8))),.int .u8 (IntKind.wrap .u8 (n))]) h fun b w=>gCells (some ⟨b,0,none⟩) 2 w fun cs=>asBytes cs fun l=>some (.string (ByteArray.mk ⟨l⟩),w):=by kernel_rfl
def B29:Cuts:=⟨0,[(6,[4,29,30,31])],[],[]⟩
def Dt1:List Item:=A5 Tryz.f75
def Ay8:List Item:=stk [0,1,0,1,0,1,0,1,0,0,1,4,5] Dt1
theorem Hj6 (b:Option Addr) (bn bc:Nat) (h:H) :
 A4 PR B29 C R Ae9 Tryz.f75 100000 true Dt1 [(0,.slice b bn bc)] h =
 bnd (C Dx2 [.slice b bn bc] h) fun r w=>aSl r fun _ xn _=>cond (decide ((xn:Int)>0))
 (nw (.cells Ey8 false [.string (ByteArray.mk ⟨[98,97,100]⟩)]) w fun p1 w1=>some (.slice (some ⟨p1,0,none⟩) 1 1,w1))
 (bnd (C Dl0 [.slice b bn bc] w) fun q1 w2=>aPtr q1 fun z1=>bnd (C Y1 [.pointer z1] w2) fun q2 w3=>aBool q2 fun z2=>bnd (C B26 [.pointer z1] w3) fun q3 w4=>aBool q3 fun z3=>bnd (C Ad1 [.pointer z1] w4) fun q4 w5=>aBool q4 fun z4=>bnd (C Bo0 [.pointer z1] w5) fun q5 w6=>aBool q5 fun z5=>bnd (C H8 [.pointer z1] w6) fun q6 w7=>aBool q6 fun z6=>nw (.cells Aq5 false [.string (ByteArray.mk ⟨[112,97,114,101,110,116]⟩),.bool z2,.string (ByteArray.mk ⟨[102,100]⟩),.bool z3,.string (ByteArray.mk ⟨[114,101,102,115]⟩),.bool z4,.string (ByteArray.mk ⟨[112,105,112,101]⟩),.bool z5,.string (ByteArray.mk ⟨[101,110,100,115]⟩),.bool z6]) w7 fun p2 w8=>R Ae9 Ay8 [(4,.slice none 0 0),(29,.slice (some ⟨p2,0,none⟩) 5 5),(30,.int .i64 5),(31,.int .i64 0)] w8):=by kernel_rfl
theorem D49 (out:Option Addr) (outn outc:Nat) (x29:Option Addr) (x29n x29c:Nat) (x30:Int) (x31:Int) (h:H) :
 A4 PR B29 C R Ae9 Tryz.f75 100000 true Ay8 [(4,.slice out outn outc),(29,.slice x29 x29n x29c),(30,.int .i64 x30),(31,.int .i64 x31)] h =
 cond (decide (x31<x30))
 (aSome x29 fun p=>ck ((0:Int)≤x31∧x31<(x29n:Int)) (gAgg (Addr.add (B3 p) (Int.toNat x31*2)) 2 h fun x=>nw (.cells Aq5 false [.string (ByteArray.mk ⟨[]⟩),.bool false]) h fun b w=>ck (List.length x=2) (pAgg ⟨b,0,none⟩ x w fun w1=>gBool ⟨b,1,none⟩ w1 fun z1=>cond z1
 (gStr ⟨b,0,none⟩ w1 fun z2=>nw (.cells Ey8 false [.string z2]) w1 fun p1 w2=>gCells (some ⟨p1,0,none⟩) (1*1) w2 fun cs=>ckB (fitsOpen out Ey8 w2) (apd Ey8 1 out outn outc 1 cs w2 fun a an ac w3=>R Ae9 Ay8 [(4,.slice a an ac),(29,.slice x29 x29n x29c),(30,.int .i64 x30),(31,.int .i64 (IntKind.wrap .i64 (x31+1)))] w3))
 (R Ae9 Ay8 [(4,.slice out outn outc),(29,.slice x29 x29n x29c),(30,.int .i64 x30),(31,.int .i64 (IntKind.wrap .i64 (x31+1)))] w1))))
 (some (.slice out outn outc,h)):=by kernel_rfl
def A35:Cuts:=⟨0,[(4,[1,3,4]),(8,[1,3,5]),(13,[1,3,5,6,7,9])],[],[(1,⟨[0,1,2,3,4,5,6],[0,0,2,6,15,31,63],[(3,[0])],[]⟩),(2,⟨[0,1,2,3,4,5,6,7,11,12,13,8,9,10,14,15,16,17,18,19],[0,0,2,6,14,0,32,96,254,510,1022,0,2048,6144,14846,32766,65534,131071,262143,524287],[(8,[12])],[]⟩),(6,⟨[0,1,2,3,4,5,6,7,8,9,10,11,12],[0,0,2,6,14,0,32,96,224,510,1023,2047,4095],[(7,[4])],[]⟩),(11,⟨[0,1,2,3,4,5,6,7,8,9,11,12,15,16,18,19,10,13,14,17,20,21,22,23,24,25],[0,1,3,7,0,16,48,112,0,256,1008,0,2048,8176,16368,0,32768,131056,0,262144,1048575,2097151,4194303,4194303,8388607,33554431],[(10,[3,12,16,19])],[]⟩),(15,⟨[0,1,2,3,4,5,6,7],[0,1,0,4,0,28,60,127],[],[]⟩),(16,⟨[0,1,2,3,4,5,6,7,8,9,10,11,12],[0,1,3,7,15,31,63,0,0,0,512,1792,4095],[],[]⟩)]⟩
def Bi5:List Item:=A5 Tryz.f102
def Bf6:List Item:=stk [0,1,0,1,0,1,0,0,1,4,5] Bi5
def Ay0:List Item:=stk [0,1,0,1,0,1,0,1,0,0,1,4,5] Bi5
def Ay9:List Item:=stk [0,1,0,1,0,1,0,1,0,0,1,4,5,6,0,1,0,4,0,1,0,1,0,1,4,5] Bi5
theorem Hi7 (b:List Value) (h:H) :
 A4 PR A35 C R H3 Tryz.f102 100000 true Bi5 [(0,.agg ⟨b⟩)] h =
 nw (.cells G2 false b) h fun p1 w=>gAgg ⟨p1,0,none⟩ 5 w fun x=>gSl ⟨p1,0,none⟩ w fun z1 xn xc=>bnd (C Ag4 [.slice z1 xn xc] w) fun r w1=>aPtr r fun z2=>gAgg ⟨p1,0,none⟩ 5 w1 fun z3=>same (.agg ⟨x⟩) (.agg ⟨z3⟩) (ck (List.length x=5) (nw (.cells Gu6 false (x++(.pointer z2::(.pointer none::(.slice none 0 0::[.int .i64 0]))))) w1 fun p2 w2=>gPtr ⟨p2,5,none⟩ w2 fun z4=>gSl ⟨p1,0,none⟩ w2 fun _ xn_1 _=>gSl ⟨p1,1,none⟩ w2 fun z6 xn_2 xc_2=>bnd (C S7 [.pointer z4,.int .i64 (xn_1:Int)] w2) fun q1 w3=>aInt .i64 q1 fun z7=>gSl ⟨p1,1,none⟩ w3 fun z8 xn_3 xc_3=>same (.slice z6 xn_2 xc_2) (.slice z8 xn_3 xc_3) (ck ((0:Int)≤IntKind.wrap .i64 (64*z7)∧(IntKind.wrap .i64 (64*z7):Int)≤IntKind.wrap .i64 (64*z7)∧IntKind.wrap .i64 (64*z7)≤(A9:Int)) (nw (.cells A3 false (I6 (Int.toNat (IntKind.wrap .i64 (64*z7))) [.int .u8 0])) w3 fun p3 w4=>bnd (C Ah0 [.int .i64 (xn_2:Int)] w4) fun q2 w5=>aPtr q2 fun z9=>nw (.cells Ex0 false [.slice (some ⟨p3,0,none⟩) (Int.toNat (IntKind.wrap .i64 (64*z7))) (Int.toNat (IntKind.wrap .i64 (64*z7))),.slice none 0 0,.slice none 0 0,.pointer z9]) w5 fun p4 w6=>pV ⟨p2,6,none⟩ (.pointer (some ⟨p4,0,none⟩)) w6 fun w7=>R H3 Bf6 [(1,.pointer (some ⟨p1,0,none⟩)),(3,.pointer (some ⟨p2,0,none⟩)),(4,.int .i64 0)] w7)))):=by kernel_rfl
theorem D47 (b:Addr) (k:Addr) (i:Int) (h:H) :
 A4 PR A35 C R H3 Tryz.f102 100000 true Bf6 [(1,.pointer (some b)),(3,.pointer (some k)),(4,.int .i64 i)] h =
 gSl (Addr.add b 2) h fun _ xn _=>cond (decide (i<(xn:Int)))
 (gSl (Addr.add k 7) h fun z1 xn_1 xc_1=>gInt .i64 (Addr.add b 3) h fun z2=>bnd (C B08 [.int .i64 z2] h) fun r w=>aPtr r fun z3=>gSl (Addr.add k 7) w fun z4 xn_2 xc_2=>same (.slice z1 xn_1 xc_1) (.slice z4 xn_2 xc_2) (nw (.cells Br3 false [.pointer z3]) w fun p1 w1=>gCells (some ⟨p1,0,none⟩) (1*1) w1 fun cs=>ckB (fitsOpen z1 Br3 w1) (apd Br3 1 z1 xn_1 xc_1 1 cs w1 fun a an ac w2=>pV (Addr.add k 7) (.slice a an ac) w2 fun w3=>R H3 Bf6 [(1,.pointer (some b)),(3,.pointer (some k)),(4,.int .i64 (IntKind.wrap .i64 (i+1)))] w3)))
 (R H3 Ay0 [(1,.pointer (some b)),(3,.pointer (some k)),(5,.int .i64 0)] h):=by kernel_rfl
theorem D54 (b:Addr) (k:Addr) (i:Int) (h:H) :
 A4 PR A35 C R H3 Tryz.f102 100000 true Ay0 [(1,.pointer (some b)),(3,.pointer (some k)),(5,.int .i64 i)] h =
 gSl (Addr.add b 4) h fun _ xn _=>cond (decide (i<(xn:Int)))
 (gSl (Addr.add b 4) h fun z1 xn_1 _=>aSome z1 fun p=>ck ((0:Int)≤i∧i<(xn_1:Int)) (gAgg (Addr.add (B3 p) (Int.toNat i*5)) 5 h fun z2=>nw (.cells L6 false [.int .i64 0,.int .i64 0,.int .i64 0,.int .i64 0,.slice none 0 0]) h fun p1 w=>ck (List.length z2=5) (pAgg ⟨p1,0,none⟩ z2 w fun w1=>gPtr (Addr.add k 6) w1 fun z3=>gPtr (Addr.add k 5) w1 fun z4=>gInt .i64 ⟨p1,0,none⟩ w1 fun z5=>gInt .i64 ⟨p1,1,none⟩ w1 fun z6=>gInt .i64 ⟨p1,2,none⟩ w1 fun z7=>gInt .i64 ⟨p1,3,none⟩ w1 fun z8=>bnd (C S7 [.pointer z4,.int .i64 z5] w1) fun r w2=>aInt .i64 r fun z9=>gPtr (Addr.add k 6) w2 fun z10=>same (.pointer z3) (.pointer z10) (gInt .i64 ⟨p1,1,none⟩ w2 fun z11=>same (.int .i64 z6) (.int .i64 z11) (gInt .i64 ⟨p1,2,none⟩ w2 fun z12=>same (.int .i64 z7) (.int .i64 z12) (gInt .i64 ⟨p1,3,none⟩ w2 fun z13=>same (.int .i64 z8) (.int .i64 z13) (bnd (C A92 [.pointer z3,.int .i64 (IntKind.wrap .i64 ((IntKind.wrap .i64 (64*(IntKind.wrap .i64 (z9+z6))))+z7)),.int .i64 z8] w2) fun q1 w3=>as2 q1 fun q2 q3=>aInt .i64 q2 fun z14=>aInt .i64 q3 fun _=>R H3 Ay9 [(1,.pointer (some b)),(3,.pointer (some k)),(5,.int .i64 i),(6,.pointer (some ⟨p1,0,none⟩)),(7,.int .i64 z14),(9,.int .i64 0)] w3)))))))
 (some (.pointer (some k),h)):=by kernel_rfl
theorem D48 (b:Addr) (k:Addr) (i:Int) (s:Addr) (obj:Int) (e:Int) (h:H) :
 A4 PR A35 C R H3 Tryz.f102 100000 true Ay9 [(1,.pointer (some b)),(3,.pointer (some k)),(5,.int .i64 i),(6,.pointer (some s)),(7,.int .i64 obj),(9,.int .i64 e)] h =
 gSl (Addr.add b 1) h fun _ xn _=>cond (decide (e<(xn:Int)))
 (gSl (Addr.add s 4) h fun z1 xn_1 xc_1=>gSl (Addr.add b 1) h fun z2 xn_2 _=>aSome z2 fun p=>ck ((0:Int)≤e∧e<(xn_2:Int)) (gInt .i64 (Addr.add (B3 p) (Int.toNat e*1)) h fun z3=>bnd (C Bl2 [.slice z1 xn_1 xc_1,.int .i64 z3] h) fun r w=>aBool r fun z4=>cond z4
 (gPtr (Addr.add k 6) w fun z5=>aSome z5 fun p_1=>gPtr (Addr.add p_1 3) w fun z6=>gInt .i64 (Addr.add s 3) w fun z7=>bnd (C Bm3 [.pointer z6,.int .i64 e,.agg ⟨[.int .i64 obj,.int .i64 3,.int .i64 0,.int .i64 z7,.int .i64 0,.int .i64 0]⟩] w) fun q1 w1=>as2 q1 fun q2 q3=>aInt .i64 q2 fun _=>aInt .i64 q3 fun _=>R H3 Ay9 [(1,.pointer (some b)),(3,.pointer (some k)),(5,.int .i64 i),(6,.pointer (some s)),(7,.int .i64 obj),(9,.int .i64 (IntKind.wrap .i64 (e+1)))] w1)
 (R H3 Ay9 [(1,.pointer (some b)),(3,.pointer (some k)),(5,.int .i64 i),(6,.pointer (some s)),(7,.int .i64 obj),(9,.int .i64 (IntKind.wrap .i64 (e+1)))] w)))
 (R H3 Ay0 [(1,.pointer (some b)),(3,.pointer (some k)),(5,.int .i64 (IntKind.wrap .i64 (i+1)))] h):=by kernel_rfl
def B44:Cuts:=⟨0,[],[],[(4,⟨[0,1,2,3,4,5,6,7,8,9,10,11,12,13,14,15,16],[0,1,3,7,0,0,32,0,128,0,512,2047,4095,8191,8191,16383,65535],[],[]⟩),(6,⟨[0,1,2,3,4,5,6,7,8,9,10,11,12],[0,1,3,7,0,0,32,0,128,0,512,2047,4095],[],[]⟩),(8,⟨[0,1,2,3,4,5,6,7,8,9,10,11,12,13,14,15,16],[0,1,3,7,0,0,32,0,128,0,512,0,2048,0,8192,32767,65535],[],[]⟩)]⟩
def D44:List Item:=A5 Tryz.f105
theorem Gs5 (k:Option Addr) (env:Int) (c:List Value) (h:H) :
 A4 PR B44 C R Bg9 Tryz.f105 100000 true D44 [(0,.pointer k),(1,.int .i64 env),(2,.agg ⟨c⟩)] h =
 nw (.cells Ba6 false c) h fun b w=>gInt .i64 ⟨b,0,none⟩ w fun x=>cond (x==1)
 (aSome k fun p=>gPtr (Addr.add p 5) w fun z1=>gInt .i64 ⟨b,1,none⟩ w fun z2=>gInt .i64 ⟨b,2,none⟩ w fun z3=>gInt .i64 ⟨b,3,none⟩ w fun z4=>bnd (C Ak3 [.pointer z1,.int .i64 env,.int .i64 z2,.int .i64 z3,.int .i64 z4] w) fun r w1=>as2 r fun q1 q2=>aSl q1 fun z5 xn xc=>aInt .i64 q2 fun z6=>some (.tuple ⟨[.slice z5 xn xc,.int .i64 z6,.bool true]⟩,w1))
 (cond (x==2)
 (aSome k fun p_1=>gPtr (Addr.add p_1 5) w fun z7=>gInt .i64 ⟨b,1,none⟩ w fun z8=>gInt .i64 ⟨b,2,none⟩ w fun z9=>gSl ⟨b,6,none⟩ w fun z10 xn_1 xc_1=>bnd (C Ah4 [.pointer z7,.int .i64 env,.int .i64 z8,.int .i64 z9,.slice z10 xn_1 xc_1] w) fun q3 w2=>aInt .i64 q3 fun z11=>some (.tuple ⟨[.slice none 0 0,.int .i64 z11,.bool true]⟩,w2))
 (cond (x==3)
 (aSome k fun p_2=>gPtr (Addr.add p_2 5) w fun z12=>gInt .i64 ⟨b,1,none⟩ w fun z13=>gInt .i64 ⟨b,2,none⟩ w fun z14=>gInt .i64 ⟨b,4,none⟩ w fun z15=>gInt .i64 ⟨b,5,none⟩ w fun z16=>gInt .i64 ⟨b,3,none⟩ w fun z17=>bnd (C Aw6 [.pointer z12,.int .i64 env,.int .i64 z13,.int .i64 z14,.int .i64 z15,.int .i64 z16,.int .i64 z17] w) fun q4 w3=>aInt .i64 q4 fun z18=>some (.tuple ⟨[.slice none 0 0,.int .i64 z18,.bool true]⟩,w3))
 (some (.tuple ⟨[.slice none 0 0,.int .i64 0,.bool false]⟩,w)))):=by kernel_rfl
def Bx7:Cuts:=⟨0,[],[],[]⟩
def Dy9:List Item:=A5 Tryz.f117
theorem Gf9 (g:Int) (h:H) :
 A4 PR Bx7 C R Bb4 Tryz.f117 100000 true Dy9 [(0,.int .i64 g)] h =
 nw (.cells A3 false [.int .u8 (IntKind.wrap .u8 (g)),.int .u8 211]) h fun b w=>gCells (some ⟨b,0,none⟩) 2 w fun cs=>asBytes cs fun l=>bnd (C Ap0 [.string (ByteArray.mk ⟨l⟩)] w) fun r w1=>aInt .u8 r fun x=>nw (.cells A3 false [.int .u8 x,.int .u8 0]) w1 fun p1 w2=>gCells (some ⟨p1,0,none⟩) 2 w2 fun cs_1=>asBytes cs_1 fun l_1=>ck (ByteArray.size (ByteArray.mk ⟨l⟩)+ByteArray.size (ByteArray.mk ⟨l_1⟩)≤A9) (some (.string ((ByteArray.mk ⟨l⟩)++(ByteArray.mk ⟨l_1⟩)),w2)):=by kernel_rfl
def Ds3:Cuts:=⟨0,[],[],[(1,⟨[1,0,2,3,4,5,6],[0,0,3,7,7,31,63],[(0,[1])],[]⟩)]⟩
def Et7:List Item:=A5 Tryz.f118
theorem Hm1 (p:List Value) (h:H) :
 A4 PR Ds3 C R Bi1 Tryz.f118 100000 true Et7 [(0,.agg ⟨p⟩)] h =
 nw (.cells A7 false p) h fun b w=>gAgg ⟨b,0,none⟩ 16 w fun x=>bnd (C Bp6 [] w) fun r w1=>aPtr r fun z1=>gAgg ⟨b,0,none⟩ 16 w1 fun z2=>same (.agg ⟨x⟩) (.agg ⟨z2⟩) (bnd (C Ac4 [.pointer z1,.agg ⟨x⟩] w1) fun q1 w2=>as2 q1 fun q2 q3=>aSl q2 fun z3 xn xc=>aBool q3 fun z4=>some (.tuple ⟨[.slice z3 xn xc,.bool z4]⟩,w2)):=by kernel_rfl
def A79:Cuts:=⟨0,[],[],[(2,⟨[0,1,2,3,4,5,6,7,8,9,10,11,12,13,14],[0,1,3,7,15,31,63,127,255,511,1023,127,4095,8191,16383],[],[]⟩),(4,⟨[0,1,2,3,4,5,6,7,8,9,10,11,12,13,14,15,16,17],[0,1,3,7,0,16,48,112,0,256,0,1024,0,7936,16383,32767,65535,131071],[],[]⟩)]⟩
def B39:List Item:=A5 Tryz.f119
theorem Ei9 (c:Option Addr) (r:List Value) (b:Option Addr) (bn bc:Nat) (ok:Bool) (h:H) :
 A4 PR A79 C R N5 Tryz.f119 100000 true B39 [(0,.pointer c),(1,.agg ⟨r⟩),(2,.slice b bn bc),(3,.bool ok)] h =
 nw (.cells B8 false r) h fun p1 w=>gAgg ⟨p1,0,none⟩ 2 w fun x=>bnd (C Y7 [.pointer c,.agg ⟨x⟩] w) fun q1 w1=>as2 q1 fun q2 q3=>aAgg q2 fun z1=>aBool q3 fun z2=>nw (.cells Bu3 false [.int .i64 0,.int .i64 0,.int .i64 0]) w1 fun p2 w2=>ck (List.length z1=3) (pAgg ⟨p2,0,none⟩ z1 w2 fun w3=>bnd (cond (!z2) (some (true,w3)) (some (!ok,w3))) fun c_1 w4=>bnd (cond c_1 (some (true,w4)) (aSome c fun p=>gMap (Addr.add p 3) w4 fun z3=>gAgg ⟨p1,0,none⟩ 2 w4 fun z4=>keyN PR B8 (.agg ⟨z4⟩) (opt z3 fun q4=>mapAt w4 q4 fun es _=>opt (Au2 (.int .i64 0) (.agg ⟨z4⟩) es) fun f=>aInt .i64 f.1 fun z5=>some (decide (z5>0),w4)))) fun c_2 w5=>cond c_2
 (some (.bool false,w5))
 (aSome c fun p_1=>gPtr (Addr.add p_1 0) w5 fun z6=>aSome c fun p_2=>gInt .i64 (Addr.add p_2 1) w5 fun z7=>gInt .i64 ⟨p2,0,none⟩ w5 fun z8=>gInt .i64 ⟨p2,1,none⟩ w5 fun z9=>bnd (C Aa5 [.pointer z6,.int .i64 z7,.agg ⟨[.int .i64 2,.int .i64 z8,.int .i64 z9,.int .i64 0,.int .i64 0,.int .i64 0,.slice b bn bc]⟩] w5) fun q5 w6=>aAgg q5 fun z10=>nth z10 0 fun E=>aInt .i64 E fun E_1=>some (.bool (E_1==0),w6))):=by kernel_rfl
def Be5:Cuts:=⟨0,[],[],[(2,⟨[0,1,2,3,4,5,6,7,8,9,10],[0,1,3,7,15,31,63,7,255,511,1023],[],[]⟩),(4,⟨[0,1,2,3,4,5,6,7,8,9,10,11,12,13,14,16,15,17],[0,1,3,7,0,16,48,112,0,256,0,1024,0,4096,16128,32767,0,131071],[],[]⟩),(6,⟨[0,1,2,3,4,5,6,7,8,9],[0,1,3,7,0,31,63,31,159,511],[(7,[5])],[]⟩)]⟩
def B69:List Item:=A5 Tryz.f123
theorem Eq1 (c:Option Addr) (r:List Value) (h:H) :
 A4 PR Be5 C R U6 Tryz.f123 100000 true B69 [(0,.pointer c),(1,.agg ⟨r⟩)] h =
 nw (.cells B8 false r) h fun b w=>gAgg ⟨b,0,none⟩ 2 w fun x=>bnd (C Y7 [.pointer c,.agg ⟨x⟩] w) fun q1 w1=>as2 q1 fun q2 q3=>aAgg q2 fun z1=>aBool q3 fun z2=>nw (.cells Bu3 false [.int .i64 0,.int .i64 0,.int .i64 0]) w1 fun p1 w2=>ck (List.length z1=3) (pAgg ⟨p1,0,none⟩ z1 w2 fun w3=>bnd (cond (!z2) (some (true,w3)) (aSome c fun p=>gMap (Addr.add p 3) w3 fun z3=>gAgg ⟨b,0,none⟩ 2 w3 fun z4=>keyN PR B8 (.agg ⟨z4⟩) (opt z3 fun q4=>mapAt w3 q4 fun es _=>opt (Au2 (.int .i64 0) (.agg ⟨z4⟩) es) fun f=>aInt .i64 f.1 fun z5=>some (decide (z5>0),w3)))) fun c_1 w4=>cond c_1
 (some (.tuple ⟨[.slice none 0 0,.bool false]⟩,w4))
 (aSome c fun p_1=>gPtr (Addr.add p_1 0) w4 fun z6=>aSome c fun p_2=>gInt .i64 (Addr.add p_2 1) w4 fun z7=>gInt .i64 ⟨p1,0,none⟩ w4 fun z8=>gInt .i64 ⟨p1,1,none⟩ w4 fun z9=>gInt .i64 ⟨p1,2,none⟩ w4 fun z10=>nw (.cells Gk8 false [.int .i64 0,.int .i64 0,.slice none 0 0]) w4 fun p2 w5=>bnd (C Aa5 [.pointer z6,.int .i64 z7,.agg ⟨[.int .i64 1,.int .i64 z8,.int .i64 z9,.int .i64 z10,.int .i64 0,.int .i64 0,.slice none 0 0]⟩] w5) fun q5 w6=>aAgg q5 fun z11=>ck (List.length z11=3) (pAgg ⟨p2,0,none⟩ z11 w6 fun w7=>gInt .i64 ⟨p2,0,none⟩ w7 fun z12=>cond (z12 != 0)
 (aSome c fun p_3=>gMap (Addr.add p_3 3) w7 fun z13=>gAgg ⟨b,0,none⟩ 2 w7 fun z14=>keyN PR B8 (.agg ⟨z14⟩) (opt z13 fun q6=>mapAt w7 q6 fun es_1 _=>opt (Au2 (.int .i64 0) (.agg ⟨z14⟩) es_1) fun f_1=>aInt .i64 f_1.1 fun z15=>keyN PR B8 (.agg ⟨z14⟩) (opt z13 fun q7=>mapAt w7 q7 fun es_2 cl_2=>opt (Ep6 (.int .i64 0) (.agg ⟨z14⟩) es_2 cl_2) fun f_2=>aInt .i64 f_2.1 fun _=>lt (H.set w7 q7 f_2.2.2) fun w8=>keyN PR B8 (.agg ⟨z14⟩) (opt z13 fun q8=>mapAt w8 q8 fun es_3 _=>opt (Au2 (.int .i64 0) (.agg ⟨z14⟩) es_3) fun f_3=>aInt .i64 f_3.1 fun z17=>same (.int .i64 z15) (.int .i64 z17) (opt z13 fun q9=>mapAt w8 q9 fun es_4 cl_4=>opt (B28 (f_2.2.1:Int) es_4 0) fun i=>lt (H.set w8 q9 (.map (modN (fun e=>{ e with val:=.int .i64 (IntKind.wrap .i64 (z15+1)) }) i es_4) cl_4)) fun w9=>some (.tuple ⟨[.slice none 0 0,.bool false]⟩,w9))))))
 (gSl ⟨p2,2,none⟩ w7 fun z18 xn xc=>some (.tuple ⟨[.slice z18 xn xc,.bool true]⟩,w7))))):=by kernel_rfl
def D15:Cuts:=⟨0,[],[],[]⟩
def E97:List Item:=A5 Tryz.f124
theorem Hr9 (b:Option Addr) (bn bc:Nat) (h:H) :
 A4 PR D15 C R Ax8 Tryz.f124 100000 true E97 [(0,.slice b bn bc)] h =
 bnd (C W5 [.slice b bn bc,.func (.func An6) ⟨[]⟩ ⟨[]⟩] h) fun r w=>aBool r fun x=>some (.bool (!x),w):=by kernel_rfl
def Ax5:Cuts:=⟨0,[],[],[]⟩
def Bp7:List Item:=A5 Tryz.f146
theorem Bq4 (s:Option Addr) (sn sc:Nat) (h:H) :
 A4 PR Ax5 C R H6 Tryz.f146 100000 true Bp7 [(0,.slice s sn sc)] h =
 cond s.isNone
 (some (.slice none 0 0,h))
 (nw (.cells A3 false []) h fun b w=>gCells s (sn*1) w fun cs=>ckB (fitsOpen (some ⟨b,0,none⟩) A3 w) (apd A3 1 (some ⟨b,0,none⟩) 0 0 sn cs w fun a an ac w1=>some (.slice a an ac,w1))):=by kernel_rfl
def Es1:Cuts:=⟨0,[],[],[(4,⟨[0,1,2,3,5,6,7,8,10,11,12,13,15,16,17,18,20,21,22,23,4,9,14,19,24,25,26,27],[0,1,3,7,15,0,32,96,224,511,0,1024,3072,7168,16383,0,32768,98304,229376,524287,0,1048576,3145728,7340032,16777215,33554431,67108863,134217727],[(4,[8,13,18,23]),(9,[13,18,23]),(14,[18,23]),(19,[23])],[]⟩)]⟩
def Gu4:List Item:=A5 Tryz.f149
theorem Ig3 (b:Option Addr) (bn bc:Nat) (h:H) :
 A4 PR Es1 C R Dx2 Tryz.f149 100000 true Gu4 [(0,.slice b bn bc)] h =
 cond ((bn:Int) != 492)
 (nw (.cells B8 false [.int .i64 0,.int .i64 0]) h fun p1 w=>some (.slice (some ⟨p1,0,none⟩) 1 1,w))
 (bnd (C Dl0 [.slice b bn bc] h) fun r w1=>aPtr r fun x=>aSome x fun p=>gAgg (Addr.add p 0) 2 w1 fun z1=>aSome x fun p_1=>gAgg (Addr.add p_1 2) 2 w1 fun z2=>aSome x fun p_2=>gAgg (Addr.add p_2 4) 2 w1 fun z3=>aSome x fun p_3=>gAgg (Addr.add p_3 6) 2 w1 fun z4=>aSome x fun p_4=>gAgg (Addr.add p_4 8) 2 w1 fun z5=>bnd (C G7 [.agg ⟨z1⟩,.int .i64 1] w1) fun q1 w2=>aSl q1 fun z6 xn xc=>gAgg (Addr.add p_1 2) 2 w2 fun z7=>same (.agg ⟨z2⟩) (.agg ⟨z7⟩) (gAgg (Addr.add p_2 4) 2 w2 fun z8=>same (.agg ⟨z3⟩) (.agg ⟨z8⟩) (gAgg (Addr.add p_3 6) 2 w2 fun z9=>same (.agg ⟨z4⟩) (.agg ⟨z9⟩) (gAgg (Addr.add p_4 8) 2 w2 fun z10=>same (.agg ⟨z5⟩) (.agg ⟨z10⟩) (bnd (C G6 [.agg ⟨z2⟩,.int .i64 2] w2) fun q2 w3=>aSl q2 fun z11 xn_1 xc_1=>gAgg (Addr.add p_2 4) 2 w3 fun z12=>same (.agg ⟨z3⟩) (.agg ⟨z12⟩) (gAgg (Addr.add p_3 6) 2 w3 fun z13=>same (.agg ⟨z4⟩) (.agg ⟨z13⟩) (gAgg (Addr.add p_4 8) 2 w3 fun z14=>same (.agg ⟨z5⟩) (.agg ⟨z14⟩) (bnd (C E9 [.agg ⟨z3⟩,.int .i64 3] w3) fun q3 w4=>aSl q3 fun z15 xn_2 xc_2=>gAgg (Addr.add p_3 6) 2 w4 fun z16=>same (.agg ⟨z4⟩) (.agg ⟨z16⟩) (gAgg (Addr.add p_4 8) 2 w4 fun z17=>same (.agg ⟨z5⟩) (.agg ⟨z17⟩) (bnd (C E9 [.agg ⟨z4⟩,.int .i64 4] w4) fun q4 w5=>aSl q4 fun z18 xn_3 xc_3=>gAgg (Addr.add p_4 8) 2 w5 fun z19=>same (.agg ⟨z5⟩) (.agg ⟨z19⟩) (bnd (C J5 [.agg ⟨z5⟩,.int .i64 5] w5) fun q5 w6=>aSl q5 fun z20 xn_4 xc_4=>nw (.cells B65 false [.slice z6 xn xc,.slice z11 xn_1 xc_1,.slice z15 xn_2 xc_2,.slice z18 xn_3 xc_3,.slice z20 xn_4 xc_4]) w6 fun p2 w7=>bnd (C D3 [.slice (some ⟨p2,0,none⟩) 5 5] w7) fun q6 w8=>aSl q6 fun z21 xn_5 xc_5=>some (.slice z21 xn_5 xc_5,w8)))))))))))):=by kernel_rfl
def A49:Cuts:=⟨0,[(2,[0,13,14,15]),(6,[0,3,4,5,6,13,14,15,24,25,26])],[],[]⟩
def Bn7:List Item:=A5 Tryz.f155
def Ar4:List Item:=stk [0,1,0,0,1,4,5] Bn7
def Ah2:List Item:=stk [0,1,0,0,1,4,5,6,0,1,0,1,0,4,0,1,0,1,0,0,1,4,5] Bn7
theorem Gz9 (x:Option Addr) (h:H) :
 A4 PR A49 C R H8 Tryz.f155 100000 true Bn7 [(0,.pointer x)] h =
 aSome x fun p=>gSl (Addr.add (Addr.add p 4) 0) h fun z1 xn xc=>R H8 Ar4 [(0,.pointer x),(13,.slice z1 xn xc),(14,.int .i64 (xn:Int)),(15,.int .i64 0)] h:=by kernel_rfl
theorem Dq0 (x:Option Addr) (x13:Option Addr) (x13n x13c:Nat) (x14:Int) (x15:Int) (h:H) :
 A4 PR A49 C R H8 Tryz.f155 100000 true Ar4 [(0,.pointer x),(13,.slice x13 x13n x13c),(14,.int .i64 x14),(15,.int .i64 x15)] h =
 cond (decide (x15<x14))
 (aSome x13 fun p=>ck ((0:Int)≤x15∧x15<(x13n:Int)) (gAgg (Addr.add (B3 p) (Int.toNat x15*36)) 36 h fun z1=>nw (.cells D9 false zz4) h fun b w=>ck (List.length z1=36) (pAgg ⟨b,0,none⟩ z1 w fun w1=>aSome x fun p_1=>gSl (Addr.add (Addr.add p_1 2) 0) w1 fun z2 xn xc=>R H8 Ah2 [(0,.pointer x),(3,.int .i64 x15),(4,.pointer (some ⟨b,0,none⟩)),(5,.int .i64 0),(6,.int .i64 0),(13,.slice x13 x13n x13c),(14,.int .i64 x14),(15,.int .i64 x15),(24,.slice z2 xn xc),(25,.int .i64 (xn:Int)),(26,.int .i64 0)] w1)))
 (some (.bool false,h)):=by kernel_rfl
theorem Dq2 (x:Option Addr) (i:Int) (p:Addr) (readers:Int) (writers:Int) (x13:Option Addr) (x13n x13c:Nat) (x14:Int) (x15:Int) (x24:Option Addr) (x24n x24c:Nat) (x25:Int) (x26:Int) (h:H) :
 A4 PR A49 C R H8 Tryz.f155 100000 true Ah2 [(0,.pointer x),(3,.int .i64 i),(4,.pointer (some p)),(5,.int .i64 readers),(6,.int .i64 writers),(13,.slice x13 x13n x13c),(14,.int .i64 x14),(15,.int .i64 x15),(24,.slice x24 x24n x24c),(25,.int .i64 x25),(26,.int .i64 x26)] h =
 cond (decide (x26<x25))
 (aSome x24 fun p_1=>ck ((0:Int)≤x26∧x26<(x24n:Int)) (gAgg (Addr.add (B3 p_1) (Int.toNat x26*4)) 4 h fun z1=>nw (.cells D2 false [.int .i64 0,.int .i64 0,.int .i64 0,.int .i64 0]) h fun b w=>ck (List.length z1=4) (pAgg ⟨b,0,none⟩ z1 w fun w1=>gAgg ⟨b,0,none⟩ 4 w1 fun z2=>bnd (C B64 [.agg ⟨z2⟩] w1) fun r w2=>aBool r fun z3=>bnd (cond (!z3) (some (true,w2)) (gInt .i64 ⟨b,1,none⟩ w2 fun z4=>some (z4 != i,w2))) fun c w3=>cond c
 (R H8 Ah2 [(0,.pointer x),(3,.int .i64 i),(4,.pointer (some p)),(5,.int .i64 readers),(6,.int .i64 writers),(13,.slice x13 x13n x13c),(14,.int .i64 x14),(15,.int .i64 x15),(24,.slice x24 x24n x24c),(25,.int .i64 x25),(26,.int .i64 (IntKind.wrap .i64 (x26+1)))] w3)
 (gInt .i64 ⟨b,0,none⟩ w3 fun z5=>cond (z5==1)
 (R H8 Ah2 [(0,.pointer x),(3,.int .i64 i),(4,.pointer (some p)),(5,.int .i64 (IntKind.wrap .i64 (readers+1))),(6,.int .i64 writers),(13,.slice x13 x13n x13c),(14,.int .i64 x14),(15,.int .i64 x15),(24,.slice x24 x24n x24c),(25,.int .i64 x25),(26,.int .i64 (IntKind.wrap .i64 (x26+1)))] w3)
 (R H8 Ah2 [(0,.pointer x),(3,.int .i64 i),(4,.pointer (some p)),(5,.int .i64 readers),(6,.int .i64 (IntKind.wrap .i64 (writers+1))),(13,.slice x13 x13n x13c),(14,.int .i64 x14),(15,.int .i64 x15),(24,.slice x24 x24n x24c),(25,.int .i64 x25),(26,.int .i64 (IntKind.wrap .i64 (x26+1)))] w3)))))
 (aSome x fun p_2=>gAgg (Addr.add p_2 4) 2 h fun z6=>bnd (C R0 [.agg ⟨z6⟩,.int .i64 i] h) fun q1 w4=>aBool q1 fun z7=>bnd (cond z7 (gInt .i64 (Addr.add p 2) w4 fun z8=>bnd (cond (z8 != readers) (some (true,w4)) (gInt .i64 (Addr.add p 3) w4 fun z9=>some (z9 != writers,w4))) fun c_1 w5=>bnd (cond c_1 (some (true,w5)) (some ((IntKind.wrap .i64 (readers+writers))==0,w5))) fun c_2 w6=>some (c_2,w6)) (some (false,w4))) fun c_3 w7=>cond c_3
 (some (.bool true,w7))
 (R H8 Ar4 [(0,.pointer x),(13,.slice x13 x13n x13c),(14,.int .i64 x14),(15,.int .i64 (IntKind.wrap .i64 (x15+1)))] w7)):=by kernel_rfl
def Al0:Cuts:=⟨0,[],[(8,[6,8,11,12])],[(7,⟨[0,1,2,3,4,5,6,7,8,9],[0,1,3,7,0,31,63,31,159,511],[(7,[5])],[]⟩)]⟩
def Az4:List Item:=A5 Tryz.f157
def Ar6:List Item:=stk [0,1,0,1,0,1,0,1,0,1,0,1,0,0] Az4
theorem D79 (c:Option Addr) (r:List Value) (decode:Value) (h:H) :
 A4 PR Al0 C R O4 Tryz.f157 100000 true Az4 [(0,.pointer c),(1,.agg ⟨r⟩),(2,decode)] h =
 nw (.cells B8 false r) h fun b w=>nw (.cells D2 false [.int .i64 0,.int .i64 0,.int .i64 0,.int .i64 0]) w fun p1 w1=>nw (.cells D2 false [.int .i64 0,.int .i64 0,.int .i64 0,.int .i64 0]) w1 fun p2 w2=>gAgg ⟨b,0,none⟩ 2 w2 fun x=>bnd (C U6 [.pointer c,.agg ⟨x⟩] w2) fun q1 w3=>as2 q1 fun q2 q3=>aSl q2 fun z1 xn xc=>aBool q3 fun z2=>cond (!z2)
 (gAgg ⟨p2,0,none⟩ 4 w3 fun z3=>ck (List.length z3=4) (pAgg ⟨p1,0,none⟩ z3 w3 fun w4=>gAgg ⟨p1,0,none⟩ 4 w4 fun z4=>some (.tuple ⟨[.agg ⟨z4⟩,.int .i64 2]⟩,w4)))
 (aFn decode fun g fi cp=>bnd (C g (fi++([.slice z1 xn xc]++cp)) w3) fun q4 w5=>as2 q4 fun q5 q6=>aAgg q5 fun z5=>aInt .i64 q6 fun z6=>nw (.cells D2 false [.int .i64 0,.int .i64 0,.int .i64 0,.int .i64 0]) w5 fun p3 w6=>ck (List.length z5=4) (pAgg ⟨p3,0,none⟩ z5 w6 fun w7=>cond (z6==2)
 (aSome c fun p=>gMap (Addr.add p 3) w7 fun z7=>gAgg ⟨b,0,none⟩ 2 w7 fun z8=>keyN PR B8 (.agg ⟨z8⟩) (opt z7 fun q7=>mapAt w7 q7 fun es _=>opt (Au2 (.int .i64 0) (.agg ⟨z8⟩) es) fun f=>aInt .i64 f.1 fun z9=>keyN PR B8 (.agg ⟨z8⟩) (opt z7 fun q8=>mapAt w7 q8 fun es_1 cl_1=>opt (Ep6 (.int .i64 0) (.agg ⟨z8⟩) es_1 cl_1) fun f_1=>aInt .i64 f_1.1 fun _=>lt (H.set w7 q8 f_1.2.2) fun w8=>keyN PR B8 (.agg ⟨z8⟩) (opt z7 fun q9=>mapAt w8 q9 fun es_2 _=>opt (Au2 (.int .i64 0) (.agg ⟨z8⟩) es_2) fun f_2=>aInt .i64 f_2.1 fun z11=>same (.int .i64 z9) (.int .i64 z11) (opt z7 fun q10=>mapAt w8 q10 fun es_3 cl_3=>opt (B28 (f_1.2.1:Int) es_3 0) fun i=>lt (H.set w8 q10 (.map (modN (fun e=>{ e with val:=.int .i64 (IntKind.wrap .i64 (z9+1)) }) i es_3) cl_3)) fun w9=>R O4 Ar6 [(6,.pointer (some ⟨p1,0,none⟩)),(8,.pointer (some ⟨p2,0,none⟩)),(11,.pointer (some ⟨p3,0,none⟩)),(12,.int .i64 z6)] w9)))))
 (R O4 Ar6 [(6,.pointer (some ⟨p1,0,none⟩)),(8,.pointer (some ⟨p2,0,none⟩)),(11,.pointer (some ⟨p3,0,none⟩)),(12,.int .i64 z6)] w7))):=by kernel_rfl
theorem Bi4 (x6:Addr) (nonev:Addr) (v:Addr) (isv:Int) (h:H) :
 A4 PR Al0 C R O4 Tryz.f157 100000 true Ar6 [(6,.pointer (some x6)),(8,.pointer (some nonev)),(11,.pointer (some v)),(12,.int .i64 isv)] h =
 cond (isv != 1)
 (gAgg nonev 4 h fun x=>ck (List.length x=4) (pAgg x6 x h fun w=>gAgg x6 4 w fun z1=>some (.tuple ⟨[.agg ⟨z1⟩,.int .i64 isv]⟩,w)))
 (gAgg v 4 h fun z2=>ck (List.length z2=4) (pAgg x6 z2 h fun w1=>gAgg x6 4 w1 fun z3=>some (.tuple ⟨[.agg ⟨z3⟩,.int .i64 isv]⟩,w1))):=by kernel_rfl
def An8:Cuts:=⟨0,[(2,[0,1,7,8])],[],[]⟩
def A58:List Item:=A5 Tryz.f165
def Ag7:List Item:=stk [0,1,0,0,1,4,5] A58
theorem Ee9 (s:Option Addr) (sn sc:Nat) (v:Int) (h:H) :
 A4 PR An8 C R I7 Tryz.f165 100000 true A58 [(0,.slice s sn sc),(1,.int .i64 v)] h =
 R I7 Ag7 [(0,.slice s sn sc),(1,.int .i64 v),(7,.int .i64 (sn:Int)),(8,.int .i64 0)] h:=by kernel_rfl
theorem Bl4 (s:Option Addr) (sn sc:Nat) (v:Int) (x7:Int) (x8:Int) (h:H) :
 A4 PR An8 C R I7 Tryz.f165 100000 true Ag7 [(0,.slice s sn sc),(1,.int .i64 v),(7,.int .i64 x7),(8,.int .i64 x8)] h =
 cond (decide (x8<x7))
 (aSome s fun p=>ck ((0:Int)≤x8∧x8<(sn:Int)) (gInt .i64 (Addr.add (B3 p) (Int.toNat x8*1)) h fun x=>cond (v==x)
 (some (.int .i64 x8,h))
 (R I7 Ag7 [(0,.slice s sn sc),(1,.int .i64 v),(7,.int .i64 x7),(8,.int .i64 (IntKind.wrap .i64 (x8+1)))] h)))
 (some (.int .i64 (-1),h)):=by kernel_rfl
def By9:Cuts:=⟨0,[(7,[1,3,52,53,54]),(13,[1,3,63,64,65])],[],[]⟩
def Dn8:List Item:=A5 Tryz.f190
def Bu7:List Item:=stk [0,1,0,1,0,1,0,1,0,0,1,4,5] Dn8
def Bv1:List Item:=stk [0,1,0,1,0,1,0,1,0,1,0,0,1,4,5] Dn8
theorem H95 (c:List Value) (h:H) :
 A4 PR By9 C R Aa1 Tryz.f190 100000 true Dn8 [(0,.agg ⟨c⟩)] h =
 nw (.cells G2 false c) h fun b w=>gSl ⟨b,0,none⟩ w fun _ xn _=>bnd (cond (decide ((xn:Int)<1)) (some (true,w)) (gSl ⟨b,0,none⟩ w fun _ xn_1 _=>some (decide ((xn_1:Int)>4),w))) fun c_1 w1=>bnd (cond c_1 (some (true,w1)) (gSl ⟨b,1,none⟩ w1 fun _ xn_2 _=>some (decide ((xn_2:Int)>40),w1))) fun c_2 w2=>bnd (cond c_2 (some (true,w2)) (gSl ⟨b,2,none⟩ w2 fun _ xn_3 _=>some (decide ((xn_3:Int)>8),w2))) fun c_3 w3=>bnd (cond c_3 (some (true,w3)) (gSl ⟨b,4,none⟩ w3 fun _ xn_4 _=>some (decide ((xn_4:Int)>16),w3))) fun c_4 w4=>bnd (cond c_4 (some (true,w4)) (gInt .i64 ⟨b,3,none⟩ w4 fun z5=>some (decide (z5<1),w4))) fun c_5 w5=>bnd (cond c_5 (some (true,w5)) (gInt .i64 ⟨b,3,none⟩ w5 fun z6=>some (decide (z6>1000),w5))) fun c_6 w6=>cond c_6
 (some (.bool false,w6))
 (gSl ⟨b,1,none⟩ w6 fun z7 xn_5 xc_5=>bnd (C E3 [.slice z7 xn_5 xc_5,.func (.func I2) ⟨[]⟩ ⟨[.pointer (some ⟨b,0,none⟩)]⟩] w6) fun r w7=>aBool r fun z8=>cond z8
 (some (.bool false,w7))
 (gSl ⟨b,2,none⟩ w7 fun z9 xn_6 xc_6=>R Aa1 Bu7 [(1,.pointer (some ⟨b,0,none⟩)),(3,.func (.func I2) ⟨[]⟩ ⟨[.pointer (some ⟨b,0,none⟩)]⟩),(52,.slice z9 xn_6 xc_6),(53,.int .i64 (xn_6:Int)),(54,.int .i64 0)] w7)):=by kernel_rfl
theorem Em3 (c:Addr) (nonev:Addr) (x52:Option Addr) (x52n x52c:Nat) (x53:Int) (x54:Int) (h:H) :
 A4 PR By9 C R Aa1 Tryz.f190 100000 true Bu7 [(1,.pointer (some c)),(3,.func (.func I2) ⟨[]⟩ ⟨[.pointer (some nonev)]⟩),(52,.slice x52 x52n x52c),(53,.int .i64 x53),(54,.int .i64 x54)] h =
 cond (decide (x54<x53))
 (aSome x52 fun p=>ck ((0:Int)≤x54∧x54<(x52n:Int)) (gSl (Addr.add (B3 p) (Int.toNat x54*1)) h fun x xn xc=>bnd (C E3 [.slice x xn xc,.func (.func I2) ⟨[]⟩ ⟨[.pointer (some nonev)]⟩] h) fun r w=>aBool r fun z1=>cond z1
 (some (.bool false,w))
 (R Aa1 Bu7 [(1,.pointer (some c)),(3,.func (.func I2) ⟨[]⟩ ⟨[.pointer (some nonev)]⟩),(52,.slice x52 x52n x52c),(53,.int .i64 x53),(54,.int .i64 (IntKind.wrap .i64 (x54+1)))] w)))
 (gSl (Addr.add c 4) h fun z2 xn_1 xc_1=>R Aa1 Bv1 [(1,.pointer (some c)),(3,.func (.func I2) ⟨[]⟩ ⟨[.pointer (some nonev)]⟩),(63,.slice z2 xn_1 xc_1),(64,.int .i64 (xn_1:Int)),(65,.int .i64 0)] h):=by kernel_rfl
theorem Ej8 (c:Addr) (nonev:Addr) (x63:Option Addr) (x63n x63c:Nat) (x64:Int) (x65:Int) (h:H) :
 A4 PR By9 C R Aa1 Tryz.f190 100000 true Bv1 [(1,.pointer (some c)),(3,.func (.func I2) ⟨[]⟩ ⟨[.pointer (some nonev)]⟩),(63,.slice x63 x63n x63c),(64,.int .i64 x64),(65,.int .i64 x65)] h =
 cond (decide (x65<x64))
 (aSome x63 fun p=>ck ((0:Int)≤x65∧x65<(x63n:Int)) (gAgg (Addr.add (B3 p) (Int.toNat x65*5)) 5 h fun x=>nw (.cells L6 false [.int .i64 0,.int .i64 0,.int .i64 0,.int .i64 0,.slice none 0 0]) h fun b w=>ck (List.length x=5) (pAgg ⟨b,0,none⟩ x w fun w1=>gAgg c 5 w1 fun z1=>gAgg ⟨b,0,none⟩ 5 w1 fun z2=>bnd (C Dl8 [.agg ⟨z1⟩,.agg ⟨z2⟩] w1) fun r w2=>aBool r fun z3=>bnd (cond (!z3) (some (true,w2)) (gSl ⟨b,4,none⟩ w2 fun z4 xn xc=>bnd (C E3 [.slice z4 xn xc,.func (.func I2) ⟨[]⟩ ⟨[.pointer (some nonev)]⟩] w2) fun q1 w3=>aBool q1 fun z5=>some (z5,w3))) fun c_1 w4=>cond c_1
 (some (.bool false,w4))
 (R Aa1 Bv1 [(1,.pointer (some c)),(3,.func (.func I2) ⟨[]⟩ ⟨[.pointer (some nonev)]⟩),(63,.slice x63 x63n x63c),(64,.int .i64 x64),(65,.int .i64 (IntKind.wrap .i64 (x65+1)))] w4))))
 (some (.bool true,h)):=by kernel_rfl
def Ef3:Cuts:=⟨0,[],[],[]⟩
def Gb5:List Item:=A5 Tryz.f196
theorem Ia8 (m:Option Addr) (s:Option Addr) (h:H) :
 A4 PR Ef3 C R Dh6 Tryz.f196 100000 true Gb5 [(0,.pointer m),(1,.pointer s)] h =
 nw (.cells Ef4 false [.pointer m,.pointer s,.slice none 0 0]) h fun b w=>some (.pointer (some ⟨b,0,none⟩),w):=by kernel_rfl
def Bo8:Cuts:=⟨0,[],[],[]⟩
def Dj4:List Item:=A5 Tryz.f198
theorem E60 (r:Option Addr) (lo:Int) (n:Int) (h:H) :
 A4 PR Bo8 C R A00 Tryz.f198 100000 true Dj4 [(0,.pointer r),(1,.int .i64 lo),(2,.int .i64 n)] h =
 bnd (cond (decide (lo<0)) (some (true,h)) (some (decide (n<0),h))) fun c w=>bnd (cond c (some (true,w)) (aSome r fun p=>gPtr (Addr.add p 0) w fun x=>bnd (C Bh3 [.pointer x] w) fun q1 w1=>aInt .i64 q1 fun z1=>some (decide (lo>z1),w1))) fun c_1 w2=>bnd (cond c_1 (some (true,w2)) (aSome r fun p_1=>gPtr (Addr.add p_1 0) w2 fun z2=>bnd (C Bh3 [.pointer z2] w2) fun q2 w3=>aInt .i64 q2 fun z3=>some (decide (n>(IntKind.wrap .i64 (z3-lo))),w3))) fun c_2 w4=>cond c_2
 (some (.tuple ⟨[.int .i64 0,.int .i64 1]⟩,w4))
 (aSome r fun p_2=>gSl (Addr.add p_2 2) w4 fun _ xn _=>cond (decide ((xn:Int)≥32))
 (some (.tuple ⟨[.int .i64 0,.int .i64 4]⟩,w4))
 (aSome r fun p_3=>gSl (Addr.add p_3 2) w4 fun z5 xn_1 xc_1=>nw (.cells A88 false [.int .i64 lo,.int .i64 n]) w4 fun b w5=>gCells (some ⟨b,0,none⟩) (1*2) w5 fun cs=>ckB (fitsOpen z5 A88 w5) (apd A88 2 z5 xn_1 xc_1 1 cs w5 fun a an ac w6=>aSome r fun p_4=>pV (Addr.add p_4 2) (.slice a an ac) w6 fun w7=>aSome r fun p_5=>gSl (Addr.add p_5 2) w7 fun _ xn_2 _=>some (.tuple ⟨[.int .i64 (IntKind.wrap .i64 ((xn_2:Int)-1)),.int .i64 0]⟩,w7)))):=by kernel_rfl
def Bu6:Cuts:=⟨0,[(3,[0,3,4])],[],[(5,⟨[0,1,2,3,4,5,6,7,8,9,10,11,12,13,14,15,16],[0,0,2,6,14,0,0,96,224,480,992,2016,4064,8190,16383,32767,65535],[],[]⟩)]⟩
def Dn9:List Item:=A5 Tryz.f201
def Ba0:List Item:=stk [0,1,0,1,0,0,1,4,5] Dn9
theorem G71 (l:Option Addr) (ln lc:Nat) (h:H) :
 A4 PR Bu6 C R Ag4 Tryz.f201 100000 true Dn9 [(0,.slice l ln lc)] h =
 nw (.cells Gk4 false [.slice none 0 0]) h fun b w=>R Ag4 Ba0 [(0,.slice l ln lc),(3,.pointer (some ⟨b,0,none⟩)),(4,.int .i64 0)] w:=by kernel_rfl
theorem Dy1 (l:Option Addr) (ln lc:Nat) (q:Addr) (i:Int) (h:H) :
 A4 PR Bu6 C R Ag4 Tryz.f201 100000 true Ba0 [(0,.slice l ln lc),(3,.pointer (some q)),(4,.int .i64 i)] h =
 bnd (cond (decide (i<(ln:Int))) (some (decide (i<4),h)) (some (false,h))) fun c w=>cond c
 (gSl (Addr.add q 0) w fun x xn xc=>aSome l fun p=>ck ((0:Int)≤i∧i<(ln:Int)) (gInt .i64 (Addr.add (B3 p) (Int.toNat i*1)) w fun z1=>ck ((0:Int)≤mm2 false (mm2 true z1 0) 64∧(mm2 false (mm2 true z1 0) 64:Int)≤mm2 false (mm2 true z1 0) 64∧mm2 false (mm2 true z1 0) 64≤(A9:Int)) (nw (.cells G81 false (I6 (Int.toNat (mm2 false (mm2 true z1 0) 64)) [.bool false])) w fun b w1=>nw (.cells Ed4 false [.slice (some ⟨b,0,none⟩) (Int.toNat (mm2 false (mm2 true z1 0) 64)) (Int.toNat (mm2 false (mm2 true z1 0) 64))]) w1 fun p1 w2=>gCells (some ⟨p1,0,none⟩) (1*1) w2 fun cs=>ckB (fitsOpen x Ed4 w2) (apd Ed4 1 x xn xc 1 cs w2 fun a an ac w3=>pV (Addr.add q 0) (.slice a an ac) w3 fun w4=>R Ag4 Ba0 [(0,.slice l ln lc),(3,.pointer (some q)),(4,.int .i64 (IntKind.wrap .i64 (i+1)))] w4))))
 (some (.pointer (some q),w)):=by kernel_rfl
def A93:Cuts:=⟨0,[(3,[0,1,5,6])],[],[]⟩
def Bz9:List Item:=A5 Tryz.f202
def Aw0:List Item:=stk [0,1,0,1,0,0,1,4,5] Bz9
theorem Gc7 (q:Option Addr) (s:Int) (h:H) :
 A4 PR A93 C R S7 Tryz.f202 100000 true Bz9 [(0,.pointer q),(1,.int .i64 s)] h =
 R S7 Aw0 [(0,.pointer q),(1,.int .i64 s),(5,.int .i64 0),(6,.int .i64 0)] h:=by kernel_rfl
theorem Dg0 (q:Option Addr) (s:Int) (n:Int) (i:Int) (h:H) :
 A4 PR A93 C R S7 Tryz.f202 100000 true Aw0 [(0,.pointer q),(1,.int .i64 s),(5,.int .i64 n),(6,.int .i64 i)] h =
 cond (decide (i<s))
 (aSome q fun p=>gSl (Addr.add p 0) h fun x xn _=>aSome x fun p_1=>ck ((0:Int)≤i∧i<(xn:Int)) (gSl (Addr.add (B3 p_1) (Int.toNat i*1)) h fun _ xn_1 _=>R S7 Aw0 [(0,.pointer q),(1,.int .i64 s),(5,.int .i64 (IntKind.wrap .i64 (n+(xn_1:Int)))),(6,.int .i64 (IntKind.wrap .i64 (i+1)))] h))
 (some (.int .i64 n,h)):=by kernel_rfl
def Em4:Cuts:=⟨0,[(2,[0,1,5])],[],[]⟩
def Gl1:List Item:=A5 Tryz.f206
def Dm8:List Item:=stk [0,1,0,0,1,4,5] Gl1
theorem I05 (l:Option Addr) (ln lc:Nat) (s:Int) (h:H) :
 A4 PR Em4 C R Bl2 Tryz.f206 100000 true Gl1 [(0,.slice l ln lc),(1,.int .i64 s)] h =
 R Bl2 Dm8 [(0,.slice l ln lc),(1,.int .i64 s),(5,.int .i64 0)] h:=by kernel_rfl
theorem Gh0 (l:Option Addr) (ln lc:Nat) (s:Int) (i:Int) (h:H) :
 A4 PR Em4 C R Bl2 Tryz.f206 100000 true Dm8 [(0,.slice l ln lc),(1,.int .i64 s),(5,.int .i64 i)] h =
 cond (decide (i<(ln:Int)))
 (aSome l fun p=>ck ((0:Int)≤i∧i<(ln:Int)) (gInt .i64 (Addr.add (B3 p) (Int.toNat i*1)) h fun x=>cond (x==s)
 (some (.bool true,h))
 (R Bl2 Dm8 [(0,.slice l ln lc),(1,.int .i64 s),(5,.int .i64 (IntKind.wrap .i64 (i+1)))] h)))
 (some (.bool false,h)):=by kernel_rfl
def Bw0:Cuts:=⟨0,[],[],[]⟩
def Dy2:List Item:=A5 Tryz.f209
theorem Gj7 (s:Option Addr) (env:Int) (h:H) :
 A4 PR Bw0 C R Av7 Tryz.f209 100000 true Dy2 [(0,.pointer s),(1,.int .i64 env)] h =
 bnd (C An7 [.pointer s,.int .i64 env] h) fun r w=>aBool r fun x=>cond (!x)
 (some (.slice none 0 0,w))
 (aSome s fun p=>gSl (Addr.add p 0) w fun z1 xn _=>aSome z1 fun p_1=>ck ((0:Int)≤env∧env<(xn:Int)) (gPtr (Addr.add (B3 p_1) (Int.toNat env*1)) w fun z2=>bnd (C H1 [.pointer z2] w) fun q1 w1=>aSl q1 fun z3 xn_1 xc_1=>some (.slice z3 xn_1 xc_1,w1))):=by kernel_rfl
def Be1:Cuts:=⟨0,[],[],[]⟩
def B86:List Item:=A5 Tryz.f212
theorem Ep1 (r:Option Addr) (env:Int) (name:Int) (atv:Int) (b:Option Addr) (bn bc:Nat) (h:H) :
 A4 PR Be1 C R Ah4 Tryz.f212 100000 true B86 [(0,.pointer r),(1,.int .i64 env),(2,.int .i64 name),(3,.int .i64 atv),(4,.slice b bn bc)] h =
 bnd (C Ah9 [.pointer r,.int .i64 env,.int .i64 name,.int .i64 2,.int .i64 atv,.int .i64 (bn:Int)] h) fun q1 w=>as2 q1 fun q2 q3=>aInt .i64 q2 fun x=>aInt .i64 q3 fun z1=>cond (z1 != 0)
 (some (.int .i64 z1,w))
 (aSome r fun p=>gPtr (Addr.add p 0) w fun z2=>bnd (C Bt8 [.pointer z2,.int .i64 x,.slice b bn bc] w) fun q4 w1=>aInt .i64 q4 fun z3=>some (.int .i64 z3,w1)):=by kernel_rfl
def B00:Cuts:=⟨0,[],[],[]⟩
def Dz1:List Item:=A5 Tryz.f214
theorem Gi7 (s:Option Addr) (env:Int) (name:Int) (to:Int) (give:Int) (lo:Int) (n:Int) (h:H) :
 A4 PR B00 C R Bb1 Tryz.f214 100000 true Dz1 [(0,.pointer s),(1,.int .i64 env),(2,.int .i64 name),(3,.int .i64 to),(4,.int .i64 give),(5,.int .i64 lo),(6,.int .i64 n)] h =
 bnd (C A43 [.pointer s,.int .i64 env,.int .i64 name] h) fun r w=>as2 r fun q1 q2=>aAgg q1 fun x=>aInt .i64 q2 fun z1=>nw (.cells V4 false [.int .i64 0,.int .i64 0,.int .i64 0,.int .i64 0,.int .i64 0,.int .i64 0]) w fun b w1=>ck (List.length x=6) (pAgg ⟨b,0,none⟩ x w1 fun w2=>cond (z1 != 0)
 (some (.tuple ⟨[.int .i64 0,.int .i64 z1]⟩,w2))
 (gInt .i64 ⟨b,1,none⟩ w2 fun z2=>bnd (cond ((O1 .i64 z2 4)==0) (some (true,w2)) (gInt .i64 ⟨b,1,none⟩ w2 fun z3=>some ((Au4 .i64 give z3) != 0,w2))) fun c w3=>cond c
 (some (.tuple ⟨[.int .i64 0,.int .i64 3]⟩,w3))
 (bnd (C An7 [.pointer s,.int .i64 to] w3) fun q3 w4=>aBool q3 fun z4=>bnd (cond (!z4) (some (true,w4)) (some (decide (lo<0),w4))) fun c_1 w5=>bnd (cond c_1 (some (true,w5)) (some (decide (n<0),w5))) fun c_2 w6=>bnd (cond c_2 (some (true,w6)) (gInt .i64 ⟨b,3,none⟩ w6 fun z5=>some (decide (lo>z5),w6))) fun c_3 w7=>bnd (cond c_3 (some (true,w7)) (gInt .i64 ⟨b,3,none⟩ w7 fun z6=>some (decide (n>(IntKind.wrap .i64 (z6-lo))),w7))) fun c_4 w8=>cond c_4
 (some (.tuple ⟨[.int .i64 0,.int .i64 1]⟩,w8))
 (gInt .i64 ⟨b,0,none⟩ w8 fun z7=>gInt .i64 ⟨b,2,none⟩ w8 fun z8=>bnd (C A54 [.pointer s,.int .i64 to,.agg ⟨[.int .i64 z7,.int .i64 give,.int .i64 (IntKind.wrap .i64 (z8+lo)),.int .i64 n,.int .i64 env,.int .i64 name]⟩] w8) fun q4 w9=>as2 q4 fun q5 q6=>aInt .i64 q5 fun z9=>aInt .i64 q6 fun z10=>some (.tuple ⟨[.int .i64 z9,.int .i64 z10]⟩,w9))))):=by kernel_rfl
def B53:Cuts:=⟨0,[],[],[]⟩
def D51:List Item:=A5 Tryz.f219
theorem Gs8 (k:Option Addr) (env:Int) (c:List Value) (h:H) :
 A4 PR B53 C R Bf9 Tryz.f219 100000 true D51 [(0,.pointer k),(1,.int .i64 env),(2,.agg ⟨c⟩)] h =
 nw (.cells Ba6 false c) h fun b w=>gInt .i64 ⟨b,3,none⟩ w fun x=>bnd (C A48 [.pointer k,.int .i64 env,.int .i64 x] w) fun r w1=>as2 r fun q1 q2=>aPtr q1 fun z1=>aInt .i64 q2 fun z2=>bnd (cond (z2==0) (gInt .i64 ⟨b,2,none⟩ w1 fun z3=>bnd (C Bg8 [.pointer z1,.int .i64 env,.int .i64 z3] w1) fun q3 w2=>aBool q3 fun z4=>some (!z4,w2)) (some (false,w1))) fun c_1 w3=>cond c_1
 (some (.int .i64 8,w3))
 (some (.int .i64 z2,w3)):=by kernel_rfl
def Bn9:Cuts:=⟨0,[],[],[(6,⟨[0,1,2,3,4,5,6,7,8,9,10,11,12,13,14,15,16,17,18,19,20,21],[0,0,0,4,15,31,63,127,255,511,1023,2047,4095,8191,4095,20479,53247,118783,249855,524287,1048575,2097151],[],[]⟩),(8,⟨[0,1,2,3,4,5,6,7,8,9,10,11,12,13,14,15,16,17,18,19,20,21,22,23,24,25,26,27,28,29,30],[0,1,0,0,8,24,56,0,128,504,1016,2047,4095,8191,16383,32767,16383,131071,16383,16383,540671,1589247,3686399,16383,8404991,33046527,66600959,134217727,268435455,536870911,1073741823],[],[]⟩),(10,⟨[0,1,2,3,4,5,6,7,8,9,10,11,12,13,14],[0,1,3,7,0,16,63,127,0,256,1023,0,4095,8191,16383],[],[]⟩)]⟩
def Dl1:List Item:=A5 Tryz.f220
theorem E47 (r:Option Addr) (e:Int) (name:Int) (right:Int) (atv:Int) (n:Int) (h:H) :
 A4 PR Bn9 C R A14 Tryz.f220 100000 true Dl1 [(0,.pointer r),(1,.int .i64 e),(2,.int .i64 name),(3,.int .i64 right),(4,.int .i64 atv),(5,.int .i64 n)] h =
 aSome r fun p=>gPtr (Addr.add p 3) h fun x=>bnd (C Bm5 [.pointer x,.int .i64 e,.int .i64 name] h) fun q1 w=>as2 q1 fun q2 q3=>aAgg q2 fun z1=>aInt .i64 q3 fun z2=>nw (.cells V4 false [.int .i64 0,.int .i64 0,.int .i64 0,.int .i64 0,.int .i64 0,.int .i64 0]) w fun b w1=>ck (List.length z1=6) (pAgg ⟨b,0,none⟩ z1 w1 fun w2=>cond (z2 != 0)
 (some (.tuple ⟨[.int .i64 0,.int .i64 z2]⟩,w2))
 (gInt .i64 ⟨b,1,none⟩ w2 fun z3=>cond ((O1 .i64 z3 right)==0)
 (some (.tuple ⟨[.int .i64 0,.int .i64 3]⟩,w2))
 (gInt .i64 ⟨b,3,none⟩ w2 fun z4=>bnd (C Ap4 [.int .i64 atv,.int .i64 n,.int .i64 z4] w2) fun q4 w3=>aBool q4 fun z5=>bnd (cond (!z5) (some (true,w3)) (gInt .i64 ⟨b,0,none⟩ w3 fun z6=>some (decide (z6<0),w3))) fun c w4=>bnd (cond c (some (true,w4)) (gInt .i64 ⟨b,0,none⟩ w4 fun z7=>aSome r fun p_1=>gSl (Addr.add p_1 1) w4 fun _ xn _=>some (decide (z7≥(xn:Int)),w4))) fun c_1 w5=>cond c_1
 (some (.tuple ⟨[.int .i64 0,.int .i64 1]⟩,w5))
 (gInt .i64 ⟨b,2,none⟩ w5 fun z9=>aSome r fun p_2=>gSl (Addr.add p_2 2) w5 fun z10 xn_1 _=>gInt .i64 ⟨b,0,none⟩ w5 fun z11=>aSome z10 fun p_3=>ck ((0:Int)≤z11∧z11<(xn_1:Int)) (gInt .i64 (Addr.add (B3 p_3) (Int.toNat z11*1)) w5 fun z12=>bnd (C Ap4 [.int .i64 z9,.int .i64 atv,.int .i64 z12] w5) fun q5 w6=>aBool q5 fun z13=>bnd (cond (!z13) (some (true,w6)) (gInt .i64 ⟨b,2,none⟩ w6 fun z14=>aSome r fun p_4=>gSl (Addr.add p_4 2) w6 fun z15 xn_2 _=>gInt .i64 ⟨b,0,none⟩ w6 fun z16=>aSome z15 fun p_5=>ck ((0:Int)≤z16∧z16<(xn_2:Int)) (gInt .i64 (Addr.add (B3 p_5) (Int.toNat z16*1)) w6 fun z17=>bnd (C Ap4 [.int .i64 (IntKind.wrap .i64 (z14+atv)),.int .i64 n,.int .i64 z17] w6) fun q6 w7=>aBool q6 fun z18=>some (!z18,w7)))) fun c_2 w8=>cond c_2
 (some (.tuple ⟨[.int .i64 0,.int .i64 1]⟩,w8))
 (aSome r fun p_6=>gSl (Addr.add p_6 1) w8 fun z19 xn_3 _=>gInt .i64 ⟨b,0,none⟩ w8 fun z20=>aSome z19 fun p_7=>ck ((0:Int)≤z20∧z20<(xn_3:Int)) (gInt .i64 (Addr.add (B3 p_7) (Int.toNat z20*1)) w8 fun z21=>gInt .i64 ⟨b,2,none⟩ w8 fun z22=>some (.tuple ⟨[.int .i64 (IntKind.wrap .i64 ((IntKind.wrap .i64 (z21+z22))+atv)),.int .i64 0]⟩,w8)))))))):=by kernel_rfl
def Dd5:Cuts:=⟨0,[],[],[]⟩
def Eg1:List Item:=A5 Tryz.f222
theorem G43 (s:Option Addr) (e:Int) (h:H) :
 A4 PR Dd5 C R As6 Tryz.f222 100000 true Eg1 [(0,.pointer s),(1,.int .i64 e)] h =
 bnd (cond (decide (e≥0)) (aSome s fun p=>gSl (Addr.add p 0) h fun _ xn _=>some (decide (e<(xn:Int)),h)) (some (false,h))) fun c w=>some (.bool c,w):=by kernel_rfl
def Ap7:Cuts:=⟨0,[],[],[(2,⟨[0,1,2,3,4,5,6,7,8,9,10,11,12,13,14],[0,1,3,7,15,31,63,127,255,511,63,63,4095,8191,16383],[],[]⟩)]⟩
def Be7:List Item:=A5 Tryz.f231
theorem Do6 (c:Option Addr) (v:List Value) (h:H) :
 A4 PR Ap7 C R Ac4 Tryz.f231 100000 true Be7 [(0,.pointer c),(1,.agg ⟨v⟩)] h =
 nw (.cells A7 false v) h fun b w=>aSome c fun p=>gInt .i64 (Addr.add p 0) w fun x=>ck ((0:Int)≤x∧(x:Int)≤x∧x≤(A9:Int)) (nw (.cells A3 false (I6 (Int.toNat x) [.int .u8 0])) w fun p1 w1=>aSome c fun p_1=>gFv (Addr.add p_1 1) w1 fun z1=>isNilF z1 fun p2=>bnd (cond p2 (some (true,w1)) (aSome c fun p_2=>gFv (Addr.add p_2 1) w1 fun z2=>gAgg ⟨b,0,none⟩ 16 w1 fun z3=>aFn z2 fun g fi cp=>bnd (C g (fi++([.agg ⟨z3⟩,.slice (some ⟨p1,0,none⟩) (Int.toNat x) (Int.toNat x)]++cp)) w1) fun r w2=>aBool r fun z4=>some (!z4,w2))) fun c_1 w3=>cond c_1
 (some (.tuple ⟨[.slice none 0 0,.bool false]⟩,w3))
 (some (.tuple ⟨[.slice (some ⟨p1,0,none⟩) (Int.toNat x) (Int.toNat x),.bool true]⟩,w3))):=by kernel_rfl
def Ah5:Cuts:=⟨0,[],[],[]⟩
def A24:List Item:=A5 Tryz.f233
theorem B75 (s:Option Addr) (sn sc:Nat) (f:Value) (h:H) :
 A4 PR Ah5 C R W5 Tryz.f233 100000 true A24 [(0,.slice s sn sc),(1,f)] h =
 bnd (C H2 [.slice s sn sc,f] h) fun r w=>aInt .i64 r fun x=>some (.bool (decide (x≥0)),w):=by kernel_rfl
def B47:Cuts:=⟨0,[],[],[]⟩
def D45:List Item:=A5 Tryz.f248
theorem Gr5 (b:Option Addr) (bn bc:Nat) (h:H) :
 A4 PR B47 C R V8 Tryz.f248 100000 true D45 [(0,.slice b bn bc)] h =
 cond ((bn:Int) != 4)
 (some (.tuple ⟨[.int .i64 0,.int .i64 2]⟩,h))
 (aSome b fun p=>ck ((0:Int)≤0∧0<(bn:Int)) (gInt .u8 (Addr.add (B3 p) (Int.toNat 0*1)) h fun x=>bnd (C A04 [.int .i64 (IntKind.wrap .i64 (x))] h) fun r w=>as2 r fun q1 q2=>aSl q1 fun z1 xn _=>aBool q2 fun z2=>bnd (cond (!z2) (some (true,w)) (gCells z1 xn w fun cs=>asBytes cs fun l=>gCells b bn w fun cs_1=>asBytes cs_1 fun l_1=>some (!((ByteArray.mk ⟨l⟩).toList==(ByteArray.mk ⟨l_1⟩).toList),w))) fun c w1=>cond c
 (some (.tuple ⟨[.int .i64 0,.int .i64 2]⟩,w1))
 (aSome b fun p_1=>ck ((0:Int)≤0∧0<(bn:Int)) (gInt .u8 (Addr.add (B3 p_1) (Int.toNat 0*1)) w1 fun z3=>some (.tuple ⟨[.int .i64 (IntKind.wrap .i64 (z3)),.int .i64 1]⟩,w1))))):=by kernel_rfl
def Ae4:Cuts:=⟨0,[(3,[1,5,9,10,11])],[],[]⟩
def As2:List Item:=A5 Tryz.f250
def Q3:List Item:=stk [0,1,0,1,0,0,1,4,5] As2
theorem Dr0 (x:List Value) (kind:Int) (h:H) :
 A4 PR Ae4 C R G7 Tryz.f250 100000 true As2 [(0,.agg ⟨x⟩),(1,.int .i64 kind)] h =
 nw (.cells W2 false x) h fun b w=>gSl ⟨b,1,none⟩ w fun z1 xn xc=>R G7 Q3 [(1,.int .i64 kind),(5,.slice none 0 0),(9,.slice z1 xn xc),(10,.int .i64 (xn:Int)),(11,.int .i64 0)] w:=by kernel_rfl
theorem A73 (kind:Int) (out:Option Addr) (outn outc:Nat) (x9:Option Addr) (x9n x9c:Nat) (x10:Int) (x11:Int) (h:H) :
 A4 PR Ae4 C R G7 Tryz.f250 100000 true Q3 [(1,.int .i64 kind),(5,.slice out outn outc),(9,.slice x9 x9n x9c),(10,.int .i64 x10),(11,.int .i64 x11)] h =
 cond (decide (x11<x10))
 (aSome x9 fun p=>ck ((0:Int)≤x11∧x11<(x9n:Int)) (gInt .i64 (Addr.add (B3 p) (Int.toNat x11*1)) h fun x=>cond (x==2)
 (nw (.cells B8 false [.int .i64 kind,.int .i64 x11]) h fun b w=>gCells (some ⟨b,0,none⟩) (1*2) w fun cs=>ckB (fitsOpen out B8 w) (apd B8 2 out outn outc 1 cs w fun a an ac w1=>R G7 Q3 [(1,.int .i64 kind),(5,.slice a an ac),(9,.slice x9 x9n x9c),(10,.int .i64 x10),(11,.int .i64 (IntKind.wrap .i64 (x11+1)))] w1))
 (R G7 Q3 [(1,.int .i64 kind),(5,.slice out outn outc),(9,.slice x9 x9n x9c),(10,.int .i64 x10),(11,.int .i64 (IntKind.wrap .i64 (x11+1)))] h)))
 (some (.slice out outn outc,h)):=by kernel_rfl
def Ax1:Cuts:=⟨0,[(3,[0,1,2,4,10,11,15,16])],[],[]⟩
def Bj1:List Item:=A5 Tryz.f256
def An1:List Item:=stk [0,1,0,1,0,0,1,4,5] Bj1
theorem Et4 (b:Option Addr) (bn bc:Nat) (atv:Int) (size:Int) (n:Int) (decode:Value) (h:H) :
 A4 PR Ax1 C R M8 Tryz.f256 100000 true Bj1 [(0,.slice b bn bc),(1,.int .i64 atv),(2,.int .i64 size),(3,.int .i64 n),(4,decode)] h =
 nw (.cells W0 false [.slice none 0 0,.slice none 0 0]) h fun p1 w=>nw (.cells W0 false [.slice none 0 0,.slice none 0 0]) w fun p2 w1=>R M8 An1 [(0,.slice b bn bc),(1,.int .i64 atv),(2,.int .i64 size),(4,decode),(10,.pointer (some ⟨p1,0,none⟩)),(11,.pointer (some ⟨p2,0,none⟩)),(15,.int .i64 n),(16,.int .i64 0)] w1:=by kernel_rfl
theorem Bx9 (b:Option Addr) (bn bc:Nat) (atv:Int) (size:Int) (decode:Value) (x10:Addr) (out:Addr) (x15:Int) (x16:Int) (h:H) :
 A4 PR Ax1 C R M8 Tryz.f256 100000 true An1 [(0,.slice b bn bc),(1,.int .i64 atv),(2,.int .i64 size),(4,decode),(10,.pointer (some x10)),(11,.pointer (some out)),(15,.int .i64 x15),(16,.int .i64 x16)] h =
 cond (decide (x16<x15))
 (ckB (fitsOpen b A3 h) (ck ((0:Int)≤IntKind.wrap .i64 (atv+(IntKind.wrap .i64 (size*(IntKind.wrap .i64 (x16+1)))))∧IntKind.wrap .i64 (atv+(IntKind.wrap .i64 (size*(IntKind.wrap .i64 (x16+1)))))≤(bc:Int)) (ck ((0:Int)≤IntKind.wrap .i64 (atv+(IntKind.wrap .i64 (size*x16)))∧IntKind.wrap .i64 (atv+(IntKind.wrap .i64 (size*x16)))≤((Int.toNat (IntKind.wrap .i64 (atv+(IntKind.wrap .i64 (size*(IntKind.wrap .i64 (x16+1)))))):Nat):Int)) (aFn decode fun g fi cp=>bnd (C g (fi++([.slice (I0 b (decide (Int.toNat (IntKind.wrap .i64 (atv+(IntKind.wrap .i64 (size*x16))))<bc)) ((Int.toNat (IntKind.wrap .i64 (atv+(IntKind.wrap .i64 (size*x16)))))*1)) ((Int.toNat (IntKind.wrap .i64 (atv+(IntKind.wrap .i64 (size*(IntKind.wrap .i64 (x16+1)))))))-(Int.toNat (IntKind.wrap .i64 (atv+(IntKind.wrap .i64 (size*x16)))))) (bc-(Int.toNat (IntKind.wrap .i64 (atv+(IntKind.wrap .i64 (size*x16))))))]++cp)) h) fun r w=>as2 r fun q1 q2=>aAgg q1 fun x=>aInt .i64 q2 fun z1=>nw (.cells D9 false zz4) w fun p1 w1=>ck (List.length x=36) (pAgg ⟨p1,0,none⟩ x w1 fun w2=>gSl (Addr.add out 0) w2 fun z2 xn xc=>gAgg ⟨p1,0,none⟩ 36 w2 fun z3=>ck (List.length z3=36) (nw (.cells D9 false (z3++[])) w2 fun p2 w3=>gCells (some ⟨p2,0,none⟩) (1*36) w3 fun cs=>ckB (fitsOpen z2 D9 w3) (apd D9 36 z2 xn xc 1 cs w3 fun a an ac w4=>pV (Addr.add out 0) (.slice a an ac) w4 fun w5=>gSl (Addr.add out 1) w5 fun z4 xn_1 xc_1=>nw (.cells A8 false [.int .i64 z1]) w5 fun p3 w6=>gCells (some ⟨p3,0,none⟩) (1*1) w6 fun cs_1=>ckB (fitsOpen z4 A8 w6) (apd A8 1 z4 xn_1 xc_1 1 cs_1 w6 fun a_1 an_1 ac_1 w7=>pV (Addr.add out 1) (.slice a_1 an_1 ac_1) w7 fun w8=>R M8 An1 [(0,.slice b bn bc),(1,.int .i64 atv),(2,.int .i64 size),(4,decode),(10,.pointer (some x10)),(11,.pointer (some out)),(15,.int .i64 x15),(16,.int .i64 (IntKind.wrap .i64 (x16+1)))] w8))))))))
 (gAgg out 2 h fun z5=>ck (List.length z5=2) (pAgg x10 z5 h fun w9=>gAgg x10 2 w9 fun z6=>some (.agg ⟨z6⟩,w9))):=by kernel_rfl
def W8:Cuts:=⟨0,[],[],[]⟩
def Am3:List Item:=A5 Tryz.f259
theorem Bl0 (s:Option Addr) (sn sc:Nat) (f:Value) (h:H) :
 A4 PR W8 C R N8 Tryz.f259 100000 true Am3 [(0,.slice s sn sc),(1,f)] h =
 bnd (C E2 [.slice s sn sc,f] h) fun r w=>aInt .i64 r fun x=>some (.bool (decide (x≥0)),w):=by kernel_rfl
def De7:Cuts:=⟨0,[],[],[]⟩
def Ee0:List Item:=A5 Tryz.f260
theorem G19 (p:List Value) (fv0:Addr) (h:H) :
 A4 PR De7 C R A45 Tryz.f260 100000 true Ee0 [(0,.agg ⟨p⟩),(1,.pointer (some fv0))] h =
 nw (.cells A7 false p) h fun b w=>ckB (liveA ⟨b,8,none⟩ w) (bnd (C E3 [.slice (I0 (some ⟨b,8,none⟩) (decide (0<8)) (0*1)) (8-0) (8-0),.func (.func Av0) ⟨[]⟩ ⟨[.pointer (some fv0)]⟩] w) fun r w1=>aBool r fun x=>some (.bool x,w1)):=by kernel_rfl
def Al8:Cuts:=⟨0,[],[],[]⟩
def A71:List Item:=A5 Tryz.f261
theorem Al7 (s:Option Addr) (sn sc:Nat) (f:Value) (h:H) :
 A4 PR Al8 C R E3 Tryz.f261 100000 true A71 [(0,.slice s sn sc),(1,f)] h =
 bnd (C D8 [.slice s sn sc,f] h) fun r w=>aInt .i64 r fun x=>some (.bool (decide (x≥0)),w):=by kernel_rfl
def An9:Cuts:=⟨0,[],[],[]⟩
def Bb0:List Item:=A5 Tryz.f263
theorem Dk0 (x:List Value) (i:Int) (h:H) :
 A4 PR An9 C R S8 Tryz.f263 100000 true Bb0 [(0,.agg ⟨x⟩),(1,.int .i64 i)] h =
 nw (.cells W3 false x) h fun b w=>gSl ⟨b,1,none⟩ w fun z1 xn _=>aSome z1 fun p=>ck ((0:Int)≤i∧i<(xn:Int)) (gInt .i64 (Addr.add (B3 p) (Int.toNat i*1)) w fun z2=>some (.bool (z2==1),w)):=by kernel_rfl
def Ay7:Cuts:=⟨0,[(3,[1,5,14,15,16]),(6,[1,5,14,15,16,21,22])],[],[]⟩
def Bg1:List Item:=A5 Tryz.f264
def Ao1:List Item:=stk [0,1,0,1,0,0,1,4,5] Bg1
def Am6:List Item:=stk [0,1,0,1,0,0,1,4,5,6,0,1,0,1,0,4,0,1,0,1,4,5] Bg1
theorem Gt1 (x:Option Addr) (f:Int) (h:H) :
 A4 PR Ay7 C R H9 Tryz.f264 100000 true Bg1 [(0,.pointer x),(1,.int .i64 f)] h =
 aSome x fun p=>gSl (Addr.add (Addr.add p 0) 0) h fun z1 xn xc=>R H9 Ao1 [(1,.int .i64 f),(5,.int .i64 0),(14,.slice z1 xn xc),(15,.int .i64 (xn:Int)),(16,.int .i64 0)] h:=by kernel_rfl
theorem Do0 (f:Int) (n:Int) (x14:Option Addr) (x14n x14c:Nat) (x15:Int) (x16:Int) (h:H) :
 A4 PR Ay7 C R H9 Tryz.f264 100000 true Ao1 [(1,.int .i64 f),(5,.int .i64 n),(14,.slice x14 x14n x14c),(15,.int .i64 x15),(16,.int .i64 x16)] h =
 cond (decide (x16<x15))
 (aSome x14 fun p=>ck ((0:Int)≤x16∧x16<(x14n:Int)) (gAgg (Addr.add (B3 p) (Int.toNat x16*16)) 16 h fun x=>nw (.cells A7 false zz1) h fun b w=>ck (List.length x=16) (pAgg ⟨b,0,none⟩ x w fun w1=>gAgg ⟨b,8,none⟩ 8 w1 fun z1=>R H9 Am6 [(1,.int .i64 f),(5,.int .i64 n),(14,.slice x14 x14n x14c),(15,.int .i64 x15),(16,.int .i64 x16),(21,.agg ⟨z1⟩),(22,.int .i64 0)] w1)))
 (some (.int .i64 n,h)):=by kernel_rfl
theorem Dh7 (f:Int) (n:Int) (x14:Option Addr) (x14n x14c:Nat) (x15:Int) (x16:Int) (x21:List Value) (x22:Int) (h:H) :
 A4 PR Ay7 C R H9 Tryz.f264 100000 true Am6 [(1,.int .i64 f),(5,.int .i64 n),(14,.slice x14 x14n x14c),(15,.int .i64 x15),(16,.int .i64 x16),(21,.agg ⟨x21⟩),(22,.int .i64 x22)] h =
 cond (decide (x22<8))
 (ck ((0:Int)≤x22∧x22<((8:Nat):Int)) (nth x21 (Int.toNat x22*1) fun x=>aInt .i64 x fun z1=>cond (z1==(IntKind.wrap .i64 (f+1)))
 (R H9 Am6 [(1,.int .i64 f),(5,.int .i64 (IntKind.wrap .i64 (n+1))),(14,.slice x14 x14n x14c),(15,.int .i64 x15),(16,.int .i64 x16),(21,.agg ⟨x21⟩),(22,.int .i64 (IntKind.wrap .i64 (x22+1)))] h)
 (R H9 Am6 [(1,.int .i64 f),(5,.int .i64 n),(14,.slice x14 x14n x14c),(15,.int .i64 x15),(16,.int .i64 x16),(21,.agg ⟨x21⟩),(22,.int .i64 (IntKind.wrap .i64 (x22+1)))] h)))
 (R H9 Ao1 [(1,.int .i64 f),(5,.int .i64 n),(14,.slice x14 x14n x14c),(15,.int .i64 x15),(16,.int .i64 (IntKind.wrap .i64 (x16+1)))] h):=by kernel_rfl
def W9:Cuts:=⟨0,[],[],[]⟩
def Am1:List Item:=A5 Tryz.f265
theorem Bk7 (s:Option Addr) (sn sc:Nat) (f:Value) (h:H) :
 A4 PR W9 C R N9 Tryz.f265 100000 true Am1 [(0,.slice s sn sc),(1,f)] h =
 bnd (C E1 [.slice s sn sc,f] h) fun r w=>aInt .i64 r fun x=>some (.bool (decide (x≥0)),w):=by kernel_rfl
def Ge5:Cuts:=⟨0,[],[],[]⟩
def Hp7:List Item:=A5 Tryz.f276
theorem I58 (p:List Value) (h:H) :
 A4 PR Ge5 C R Ek3 Tryz.f276 100000 true Hp7 [(0,.agg ⟨p⟩)] h =
 nw (.cells D9 false p) h fun b w=>gInt .i64 ⟨b,0,none⟩ w fun x=>bnd (C A31 [.int .i64 x,.int .i64 31] w) fun r w1=>aBool r fun z1=>bnd (cond z1 (gInt .i64 ⟨b,1,none⟩ w1 fun z2=>bnd (C A31 [.int .i64 z2,.int .i64 32] w1) fun q1 w2=>aBool q1 fun z3=>some (z3,w2)) (some (false,w1))) fun c w3=>bnd (cond c (gInt .i64 ⟨b,2,none⟩ w3 fun z4=>bnd (C A31 [.int .i64 z4,.int .i64 8] w3) fun q2 w4=>aBool q2 fun z5=>some (z5,w4)) (some (false,w3))) fun c_1 w5=>bnd (cond c_1 (gInt .i64 ⟨b,3,none⟩ w5 fun z6=>bnd (C A31 [.int .i64 z6,.int .i64 8] w5) fun q3 w6=>aBool q3 fun z7=>some (z7,w6)) (some (false,w5))) fun c_2 w7=>some (.bool c_2,w7):=by kernel_rfl
def Dn2:Cuts:=⟨0,[],[],[]⟩
def Ek1:List Item:=A5 Tryz.f290
theorem Ha8 (s:Option Addr) (env:Int) (h:H) :
 A4 PR Dn2 C R An7 Tryz.f290 100000 true Ek1 [(0,.pointer s),(1,.int .i64 env)] h =
 bnd (cond (decide (env≥0)) (aSome s fun p=>gSl (Addr.add p 0) h fun _ xn _=>some (decide (env<(xn:Int)),h)) (some (false,h))) fun c w=>some (.bool c,w):=by kernel_rfl
def Bv0:Cuts:=⟨0,[(3,[0,3,4])],[],[]⟩
def Dm2:List Item:=A5 Tryz.f292
def Ba7:List Item:=stk [0,1,0,1,0,0,1,4,5] Dm2
theorem G78 (size:Int) (h:H) :
 A4 PR Bv0 C R Ah1 Tryz.f292 100000 true Dm2 [(0,.int .i64 size)] h =
 nw (.cells Gj4 false [.slice none 0 0]) h fun b w=>R Ah1 Ba7 [(0,.int .i64 size),(3,.pointer (some ⟨b,0,none⟩)),(4,.int .i64 0)] w:=by kernel_rfl
theorem D05 (size:Int) (n:Addr) (i:Int) (h:H) :
 A4 PR Bv0 C R Ah1 Tryz.f292 100000 true Ba7 [(0,.int .i64 size),(3,.pointer (some n)),(4,.int .i64 i)] h =
 bnd (cond (decide (i<size)) (some (decide (i<256),h)) (some (false,h))) fun c w=>cond c
 (gSl (Addr.add n 0) w fun x xn xc=>nw (.cells Bw4 false [.int .i64 1,.bool false]) w fun b w1=>gCells (some ⟨b,0,none⟩) (1*2) w1 fun cs=>ckB (fitsOpen x Bw4 w1) (apd Bw4 2 x xn xc 1 cs w1 fun a an ac w2=>pV (Addr.add n 0) (.slice a an ac) w2 fun w3=>R Ah1 Ba7 [(0,.int .i64 size),(3,.pointer (some n)),(4,.int .i64 (IntKind.wrap .i64 (i+1)))] w3))
 (some (.pointer (some n),w)):=by kernel_rfl
def Ag5:Cuts:=⟨0,[(3,[0,3,9,10,11])],[],[]⟩
def Au8:List Item:=A5 Tryz.f293
def S9:List Item:=stk [0,1,0,1,0,0,1,4,5] Au8
theorem D06 (t:Option Addr) (h:H) :
 A4 PR Ag5 C R H1 Tryz.f293 100000 true Au8 [(0,.pointer t)] h =
 aSome t fun p=>gSl (Addr.add p 0) h fun x xn xc=>R H1 S9 [(0,.pointer t),(3,.slice none 0 0),(9,.slice x xn xc),(10,.int .i64 (xn:Int)),(11,.int .i64 0)] h:=by kernel_rfl
theorem Bb8 (t:Option Addr) (out:Option Addr) (outn outc:Nat) (x9:Option Addr) (x9n x9c:Nat) (x10:Int) (x11:Int) (h:H) :
 A4 PR Ag5 C R H1 Tryz.f293 100000 true S9 [(0,.pointer t),(3,.slice out outn outc),(9,.slice x9 x9n x9c),(10,.int .i64 x10),(11,.int .i64 x11)] h =
 cond (decide (x11<x10))
 (aSome x9 fun p=>ck ((0:Int)≤x11∧x11<(x9n:Int)) (gAgg (Addr.add (B3 p) (Int.toNat x11*8)) 8 h fun x=>nw (.cells Aw5 false [.int .i64 0,.int .i64 0,.int .i64 0,.int .i64 0,.int .i64 0,.int .i64 0,.int .i64 0,.bool false]) h fun b w=>ck (List.length x=8) (pAgg ⟨b,0,none⟩ x w fun w1=>gBool ⟨b,7,none⟩ w1 fun z1=>cond z1
 (bnd (C Q8 [.pointer t,.int .i64 x11] w1) fun r w2=>aInt .i64 r fun z2=>nw (.cells A8 false [.int .i64 z2]) w2 fun p1 w3=>gCells (some ⟨p1,0,none⟩) (1*1) w3 fun cs=>ckB (fitsOpen out A8 w3) (apd A8 1 out outn outc 1 cs w3 fun a an ac w4=>R H1 S9 [(0,.pointer t),(3,.slice a an ac),(9,.slice x9 x9n x9c),(10,.int .i64 x10),(11,.int .i64 (IntKind.wrap .i64 (x11+1)))] w4))
 (R H1 S9 [(0,.pointer t),(3,.slice out outn outc),(9,.slice x9 x9n x9c),(10,.int .i64 x10),(11,.int .i64 (IntKind.wrap .i64 (x11+1)))] w1))))
 (some (.slice out outn outc,h)):=by kernel_rfl
def Db7:Cuts:=⟨0,[],[],[(1,⟨[0,1,2,3,4,5,6,7,8,9,10,11,12,13,14,15,16,17,18,19,20,21,22,23,24,25,26,27,28],[0,1,3,7,7,23,55,119,247,511,1023,2047,4095,8191,16383,32767,4095,131071,262143,4095,528383,1576959,3674111,4095,16257023,33034239,67108863,134217727,268435455],[],[]⟩)]⟩
def Eh5:List Item:=A5 Tryz.f302
theorem G51 (k:Option Addr) (env:Int) (n:Int) (h:H) :
 A4 PR Db7 C R A48 Tryz.f302 100000 true Eh5 [(0,.pointer k),(1,.int .i64 env),(2,.int .i64 n)] h =
 bnd (cond (decide (n<0)) (some (true,h)) (aSome k fun p=>gSl (Addr.add p 6) h fun _ xn _=>some (decide (n≥(xn:Int)),h))) fun c w=>bnd (cond c (some (true,w)) (aSome k fun p_1=>gSl (Addr.add p_1 1) w fun z1 xn_1 _=>aSome z1 fun p_2=>ck ((0:Int)≤n∧n<(xn_1:Int)) (gSl (Addr.add (B3 p_2) (Int.toNat n*1)) w fun z2 xn_2 xc_2=>aSome k fun p_3=>gSl (Addr.add p_3 0) w fun z3 xn_3 _=>aSome z3 fun p_4=>ck ((0:Int)≤env∧env<(xn_3:Int)) (gInt .i64 (Addr.add (B3 p_4) (Int.toNat env*1)) w fun z4=>bnd (C P9 [.slice z2 xn_2 xc_2,.int .i64 z4] w) fun r w1=>aBool r fun z5=>some (!z5,w1))))) fun c_1 w2=>cond c_1
 (some (.tuple ⟨[.pointer none,.int .i64 8]⟩,w2))
 (aSome k fun p_5=>gSl (Addr.add p_5 6) w2 fun z6 xn_4 _=>aSome z6 fun p_6=>ck ((0:Int)≤n∧n<(xn_4:Int)) (gPtr (Addr.add (B3 p_6) (Int.toNat n*1)) w2 fun z7=>some (.tuple ⟨[.pointer z7,.int .i64 0]⟩,w2))):=by kernel_rfl
def B50:Cuts:=⟨0,[],[],[]⟩
def D42:List Item:=A5 Tryz.f304
theorem Gs1 (s:Option Addr) (who:Int) (stamp:Int) (h:H) :
 A4 PR B50 C R Bg8 Tryz.f304 100000 true D42 [(0,.pointer s),(1,.int .i64 who),(2,.int .i64 stamp)] h =
 bnd (C Bf4 [.pointer s,.int .i64 who,.int .i64 stamp] h) fun r w=>aBool r fun x=>cond (!x)
 (some (.bool false,w))
 (aSome s fun p=>pV (Addr.add p 1) (.bool false) w fun w1=>aSome s fun p_1=>gInt .i64 (Addr.add p_1 7) w1 fun z1=>aSome s fun p_2=>pV (Addr.add p_2 6) (.int .i64 z1) w1 fun w2=>some (.bool true,w2)):=by kernel_rfl
def Bp0:Cuts:=⟨0,[(2,[0,4])],[],[]⟩
def Dc8:List Item:=A5 Tryz.f306
def A64:List Item:=stk [0,1,0,0,1,4,5] Dc8
theorem G56 (n:Option Addr) (h:H) :
 A4 PR Bp0 C R Ad5 Tryz.f306 100000 true Dc8 [(0,.pointer n)] h =
 R Ad5 A64 [(0,.pointer n),(4,.int .i64 0)] h:=by kernel_rfl
theorem Dp8 (n:Option Addr) (i:Int) (h:H) :
 A4 PR Bp0 C R Ad5 Tryz.f306 100000 true A64 [(0,.pointer n),(4,.int .i64 i)] h =
 aSome n fun p=>gSl (Addr.add p 0) h fun _ xn _=>cond (decide (i<(xn:Int)))
 (aSome n fun p_1=>gSl (Addr.add p_1 0) h fun z1 xn_1 _=>aSome z1 fun p_2=>ck ((0:Int)≤i∧i<(xn_1:Int)) (gBool (Addr.add (Addr.add (B3 p_2) (Int.toNat i*2)) 1) h fun z2=>bnd (cond (!z2) (aSome n fun p_3=>gSl (Addr.add p_3 0) h fun z3 xn_2 _=>aSome z3 fun p_4=>ck ((0:Int)≤i∧i<(xn_2:Int)) (gInt .i64 (Addr.add (Addr.add (B3 p_4) (Int.toNat i*2)) 0) h fun z4=>some (decide (z4≤1000000),h))) (some (false,h))) fun c w=>cond c
 (aSome n fun p_5=>gSl (Addr.add p_5 0) w fun z5 xn_3 _=>aSome z5 fun p_6=>ck ((0:Int)≤i∧i<(xn_3:Int)) (pV (Addr.add (Addr.add (B3 p_6) (Int.toNat i*2)) 1) (.bool true) w fun w1=>aSome n fun p_7=>gSl (Addr.add p_7 0) w1 fun z6 xn_4 _=>aSome z6 fun p_8=>ck ((0:Int)≤i∧i<(xn_4:Int)) (gInt .i64 (Addr.add (Addr.add (B3 p_8) (Int.toNat i*2)) 0) w1 fun z7=>some (.tuple ⟨[.int .i64 (IntKind.wrap .i64 (i+(IntKind.wrap .i64 (256*z7)))),.bool true]⟩,w1))))
 (R Ad5 A64 [(0,.pointer n),(4,.int .i64 (IntKind.wrap .i64 (i+1)))] w)))
 (some (.tuple ⟨[.int .i64 0,.bool false]⟩,h)):=by kernel_rfl
def Ai5:Cuts:=⟨0,[(4,[0,1,12,13])],[],[(6,⟨[0,1,2,3,4,5,6,7,8],[0,0,3,7,0,0,48,112,255],[],[]⟩)]⟩
def Ax9:List Item:=A5 Tryz.f314
def Ac8:List Item:=stk [0,1,0,1,0,0,1,4,5] Ax9
theorem D26 (s1:Option Addr) (s1n s1c:Nat) (s2:Option Addr) (s2n s2c:Nat) (h:H) :
 A4 PR Ai5 C R D7 Tryz.f314 100000 true Ax9 [(0,.slice s1 s1n s1c),(1,.slice s2 s2n s2c)] h =
 cond ((s1n:Int) != (s2n:Int))
 (some (.bool false,h))
 (R D7 Ac8 [(0,.slice s1 s1n s1c),(1,.slice s2 s2n s2c),(12,.int .i64 (s1n:Int)),(13,.int .i64 0)] h):=by kernel_rfl
theorem Bf1 (s1:Option Addr) (s1n s1c:Nat) (s2:Option Addr) (s2n s2c:Nat) (x12:Int) (x13:Int) (h:H) :
 A4 PR Ai5 C R D7 Tryz.f314 100000 true Ac8 [(0,.slice s1 s1n s1c),(1,.slice s2 s2n s2c),(12,.int .i64 x12),(13,.int .i64 x13)] h =
 cond (decide (x13<x12))
 (aSome s1 fun p=>ck ((0:Int)≤x13∧x13<(s1n:Int)) (gInt .u8 (Addr.add (B3 p) (Int.toNat x13*1)) h fun x=>aSome s2 fun p_1=>ck ((0:Int)≤x13∧x13<(s2n:Int)) (gInt .u8 (Addr.add (B3 p_1) (Int.toNat x13*1)) h fun z1=>cond (x != z1)
 (some (.bool false,h))
 (R D7 Ac8 [(0,.slice s1 s1n s1c),(1,.slice s2 s2n s2c),(12,.int .i64 x12),(13,.int .i64 (IntKind.wrap .i64 (x13+1)))] h))))
 (some (.bool true,h)):=by kernel_rfl
def Ae8:Cuts:=⟨0,[(2,[0,1,7,8])],[],[]⟩
def Ar7:List Item:=A5 Tryz.f321
def L7:List Item:=stk [0,1,0,0,1,4,5] Ar7
theorem As0 (s:Option Addr) (sn sc:Nat) (f:Value) (h:H) :
 A4 PR Ae8 C R D8 Tryz.f321 100000 true Ar7 [(0,.slice s sn sc),(1,f)] h =
 R D8 L7 [(0,.slice s sn sc),(1,f),(7,.int .i64 (sn:Int)),(8,.int .i64 0)] h:=by kernel_rfl
theorem L8 (s:Option Addr) (sn sc:Nat) (f:Value) (x7:Int) (x8:Int) (h:H) :
 A4 PR Ae8 C R D8 Tryz.f321 100000 true L7 [(0,.slice s sn sc),(1,f),(7,.int .i64 x7),(8,.int .i64 x8)] h =
 cond (decide (x8<x7))
 (aSome s fun p=>ck ((0:Int)≤x8∧x8<(sn:Int)) (gInt .i64 (Addr.add (B3 p) (Int.toNat x8*1)) h fun x=>aFn f fun g fi cp=>bnd (C g (fi++([.int .i64 x]++cp)) h) fun r w=>aBool r fun z1=>cond z1
 (some (.int .i64 x8,w))
 (R D8 L7 [(0,.slice s sn sc),(1,f),(7,.int .i64 x7),(8,.int .i64 (IntKind.wrap .i64 (x8+1)))] w)))
 (some (.int .i64 (-1),h)):=by kernel_rfl
def Eq0:Cuts:=⟨0,[],[],[(1,⟨[0,1,2,3,4,5,6,7,8,9,10,11,12,13,14,15,16,17,18],[0,1,3,7,0,16,48,112,0,256,768,1792,0,4096,12288,28672,65535,0,262143],[],[]⟩),(3,⟨[0,1,2,3,4,5,6,7,8],[0,0,2,6,6,30,62,63,255],[(5,[0])],[]⟩)]⟩
def Gw2:List Item:=A5 Tryz.f325
theorem If6 (b:Option Addr) (bn bc:Nat) (h:H) :
 A4 PR Eq0 C R A30 Tryz.f325 100000 true Gw2 [(0,.slice b bn bc)] h =
 nw (.cells D2 false [.int .i64 0,.int .i64 0,.int .i64 0,.int .i64 0]) h fun p1 w=>aSome b fun p=>ck ((0:Int)≤0∧0<(bn:Int)) (gInt .u8 (Addr.add (B3 p) (Int.toNat 0*1)) w fun x=>aSome b fun p_1=>ck ((0:Int)≤1∧1<(bn:Int)) (gInt .u8 (Addr.add (B3 p_1) (Int.toNat 1*1)) w fun z1=>aSome b fun p_2=>ck ((0:Int)≤2∧2<(bn:Int)) (gInt .u8 (Addr.add (B3 p_2) (Int.toNat 2*1)) w fun z2=>aSome b fun p_3=>ck ((0:Int)≤3∧3<(bn:Int)) (gInt .u8 (Addr.add (B3 p_3) (Int.toNat 3*1)) w fun z3=>nw (.cells D2 false [.int .i64 0,.int .i64 0,.int .i64 0,.int .i64 0]) w fun p2 w1=>pAgg ⟨p2,0,none⟩ [.int .i64 (IntKind.wrap .i64 (x)),.int .i64 (IntKind.wrap .i64 (z1)),.int .i64 (IntKind.wrap .i64 (z2)),.int .i64 (IntKind.wrap .i64 (z3))] w1 fun w2=>gAgg ⟨p2,0,none⟩ 4 w2 fun z4=>bnd (C Bh8 [.agg ⟨z4⟩] w2) fun r w3=>as2 r fun q1 q2=>aSl q1 fun z5 xn xc=>aBool q2 fun z6=>gAgg ⟨p2,0,none⟩ 4 w3 fun z7=>bnd (cond z6 (bnd (C D7 [.slice z5 xn xc,.slice b bn bc] w3) fun q3 w4=>aBool q3 fun z8=>gAgg ⟨p2,0,none⟩ 4 w4 fun z9=>same (.agg ⟨z7⟩) (.agg ⟨z9⟩) (some (z8,w4))) (some (false,w3))) fun c w5=>ck (List.length z7=4) (pAgg ⟨p1,0,none⟩ z7 w5 fun w6=>gAgg ⟨p1,0,none⟩ 4 w6 fun z10=>some (.tuple ⟨[.agg ⟨z10⟩,.bool c]⟩,w6)))))):=by kernel_rfl
def Az7:Cuts:=⟨0,[],[],[]⟩
def Bv3:List Item:=A5 Tryz.f333
theorem D99 (t:Option Addr) (name:Int) (h:H) :
 A4 PR Az7 C R Ak4 Tryz.f333 100000 true Bv3 [(0,.pointer t),(1,.int .i64 name)] h =
 nw (.cells V4 false [.int .i64 0,.int .i64 0,.int .i64 0,.int .i64 0,.int .i64 0,.int .i64 0]) h fun b w=>bnd (C Am8 [.pointer t,.int .i64 name] w) fun r w1=>aPtr r fun x=>cond x.isNone
 (nw (.cells V4 false [.int .i64 0,.int .i64 0,.int .i64 0,.int .i64 0,.int .i64 0,.int .i64 0]) w1 fun p1 w2=>gAgg ⟨p1,0,none⟩ 6 w2 fun z1=>ck (List.length z1=6) (pAgg ⟨b,0,none⟩ z1 w2 fun w3=>gAgg ⟨b,0,none⟩ 6 w3 fun z2=>some (.tuple ⟨[.agg ⟨z2⟩,.bool false]⟩,w3)))
 (aSome x fun p=>gAgg (Addr.add p 0) 6 w1 fun z3=>ck (List.length z3=6) (pAgg ⟨b,0,none⟩ z3 w1 fun w4=>gAgg ⟨b,0,none⟩ 6 w4 fun z4=>some (.tuple ⟨[.agg ⟨z4⟩,.bool true]⟩,w4))):=by kernel_rfl
def Ed1:Cuts:=⟨0,[],[],[]⟩
def Gh2:List Item:=A5 Tryz.f339
theorem H85 (f:Int) (h:H) :
 A4 PR Ed1 C R Bw7 Tryz.f339 100000 true Gh2 [(0,.int .i64 f)] h =
 bnd (cond (decide (f<0)) (some (true,h)) (some (decide (f>12),h))) fun c w=>some (.bool c,w):=by kernel_rfl
end
end Go.EQ

set_option maxRecDepth 100000
namespace Go.EQ
open Go Go.NN Go.Proofs
variable (C:E0) (R:Ai7)
noncomputable section
def Eq8:Cuts:=⟨0,[],[],[]⟩
def Gu0:List Item:=A5 Tryz.f19
theorem Gw7 (c:Option Addr) (i:Int) (h:H) :
 A4 PR Eq8 C R Am4 Tryz.f19 100000 true Gu0 [(0,.pointer c),(1,.int .i64 i)] h =
 nw (.cells A7 false zz1) h fun b w=>bnd (C D4 [.pointer c] w) fun r w1=>as0 r (bnd (C G4 [.pointer c,.int .i64 i] w1) fun q1 w2=>as2 q1 fun q2 q3=>aAgg q2 fun x=>aInt .i64 q3 fun z1=>nw (.cells A7 false zz1) w2 fun p1 w3=>ck (List.length x=16) (pAgg ⟨p1,0,none⟩ x w3 fun w4=>bnd (cond (z1 != 1) (some (true,w4)) (gInt .i64 ⟨p1,0,none⟩ w4 fun z2=>some (z2 != 1,w4))) fun c_1 w5=>cond c_1
 (pAgg ⟨b,0,none⟩ zz1 w5 fun w6=>gAgg ⟨b,0,none⟩ 16 w6 fun z3=>some (.tuple ⟨[.agg ⟨z3⟩,.int .i64 105]⟩,w6))
 (gAgg ⟨p1,0,none⟩ 16 w5 fun z4=>ck (List.length z4=16) (pAgg ⟨b,0,none⟩ z4 w5 fun w7=>gAgg ⟨b,0,none⟩ 16 w7 fun z5=>some (.tuple ⟨[.agg ⟨z5⟩,.int .i64 0]⟩,w7))))):=by kernel_rfl
def Bn2:Cuts:=⟨0,[],[],[(3,⟨[0,1,2,3,4,5,6,7,8,9,10,11,12,13,14,15,16,17,18,19,20,21,22,23,24],[0,1,3,7,0,16,48,112,0,496,1008,2032,0,4096,12288,28672,0,126976,258048,520192,1048575,2097151,2097151,8388607,16777215],[],[]⟩)]⟩
def Dj8:List Item:=A5 Tryz.f20
theorem Ey9 (r:Option Addr) (obj:Int) (h:H) :
 A4 PR Bn2 C R An5 Tryz.f20 100000 true Dj8 [(0,.pointer r),(1,.int .i64 obj)] h =
 bnd (cond (decide (obj<0)) (some (true,h)) (aSome r fun p=>gSl (Addr.add p 2) h fun _ xn _=>some (decide (obj≥(xn:Int)),h))) fun c w=>cond c
 (some (.tuple ⟨[.slice none 0 0,.int .i64 1]⟩,w))
 (aSome r fun p_1=>gPtr (Addr.add p_1 0) w fun z1=>aSome r fun p_2=>gSl (Addr.add p_2 2) w fun z2 xn_1 _=>aSome z2 fun p_3=>ck ((0:Int)≤obj∧obj<(xn_1:Int)) (gInt .i64 (Addr.add (Addr.add (B3 p_3) (Int.toNat obj*2)) 0) w fun z3=>aSome r fun p_4=>gSl (Addr.add p_4 2) w fun z4 xn_2 _=>aSome z4 fun p_5=>ck ((0:Int)≤obj∧obj<(xn_2:Int)) (gInt .i64 (Addr.add (Addr.add (B3 p_5) (Int.toNat obj*2)) 1) w fun z5=>bnd (C Bk5 [.pointer z1,.int .i64 z3,.int .i64 z5] w) fun q1 w1=>as2 q1 fun q2 q3=>aSl q2 fun z6 xn_3 xc_3=>aInt .i64 q3 fun z7=>some (.tuple ⟨[.slice z6 xn_3 xc_3,.int .i64 z7]⟩,w1)))):=by kernel_rfl
def Aj3:Cuts:=⟨0,[(3,[0,3,4]),(6,[0,3,4,13,14])],[],[(9,⟨[0,1,2,3,4,5,6],[0,1,3,7,0,31,63],[],[]⟩)]⟩
def Aw1:List Item:=A5 Tryz.f21
def Ad0:List Item:=stk [0,1,0,1,0,0,1,4,5] Aw1
def Ae0:List Item:=stk [0,1,0,1,0,0,1,4,5,6,0,1,0,4,0,1,4,5] Aw1
theorem Ew5 (c:Option Addr) (h:H) :
 A4 PR Aj3 C R E4 Tryz.f21 100000 true Aw1 [(0,.pointer c)] h =
 R E4 Ad0 [(0,.pointer c),(3,.slice none 0 0),(4,.int .i64 1)] h:=by kernel_rfl
theorem Bz0 (c:Option Addr) (out:Option Addr) (outn outc:Nat) (kind:Int) (h:H) :
 A4 PR Aj3 C R E4 Tryz.f21 100000 true Ad0 [(0,.pointer c),(3,.slice out outn outc),(4,.int .i64 kind)] h =
 cond (decide (kind≤5))
 (bnd (C Aa6 [.pointer c,.int .i64 kind] h) fun r w=>aInt .i64 r fun x=>R E4 Ae0 [(0,.pointer c),(3,.slice out outn outc),(4,.int .i64 kind),(13,.int .i64 x),(14,.int .i64 0)] w)
 (some (.slice out outn outc,h)):=by kernel_rfl
theorem Bw6 (c:Option Addr) (out:Option Addr) (outn outc:Nat) (kind:Int) (x13:Int) (x14:Int) (h:H) :
 A4 PR Aj3 C R E4 Tryz.f21 100000 true Ae0 [(0,.pointer c),(3,.slice out outn outc),(4,.int .i64 kind),(13,.int .i64 x13),(14,.int .i64 x14)] h =
 cond (decide (x14<x13))
 (nw (.cells B8 false [.int .i64 0,.int .i64 0]) h fun b w=>pAgg ⟨b,0,none⟩ [.int .i64 kind,.int .i64 x14] w fun w1=>aSome c fun p=>gMap (Addr.add p 3) w1 fun x=>gAgg ⟨b,0,none⟩ 2 w1 fun z1=>keyN PR B8 (.agg ⟨z1⟩) (opt x fun r=>mapAt w1 r fun es _=>opt (Au2 (.int .i64 0) (.agg ⟨z1⟩) es) fun f=>aInt .i64 f.1 fun z2=>cond (decide (z2>0))
 (gAgg ⟨b,0,none⟩ 2 w1 fun z3=>ck (List.length z3=2) (nw (.cells B8 false (z3++[])) w1 fun p1 w2=>gCells (some ⟨p1,0,none⟩) (1*2) w2 fun cs=>ckB (fitsOpen out B8 w2) (apd B8 2 out outn outc 1 cs w2 fun a an ac w3=>R E4 Ae0 [(0,.pointer c),(3,.slice a an ac),(4,.int .i64 kind),(13,.int .i64 x13),(14,.int .i64 (IntKind.wrap .i64 (x14+1)))] w3)))
 (R E4 Ae0 [(0,.pointer c),(3,.slice out outn outc),(4,.int .i64 kind),(13,.int .i64 x13),(14,.int .i64 (IntKind.wrap .i64 (x14+1)))] w1)))
 (R E4 Ad0 [(0,.pointer c),(3,.slice out outn outc),(4,.int .i64 (IntKind.wrap .i64 (kind+1)))] h):=by kernel_rfl
def Ep5:Cuts:=⟨0,[],[],[]⟩
def Gv2:List Item:=A5 Tryz.f22
theorem Gv6 (c:Option Addr) (i:Int) (code:Int) (h:H) :
 A4 PR Ep5 C R Bs3 Tryz.f22 100000 true Gv2 [(0,.pointer c),(1,.int .i64 i),(2,.int .i64 code)] h =
 nw (.cells Ag9 false [.int .i64 0,.int .i64 0,.slice none 0 0,.bool false]) h fun b w=>bnd (C Am4 [.pointer c,.int .i64 i] w) fun r w1=>as2 r fun q1 q2=>aAgg q1 fun x=>aInt .i64 q2 fun z1=>nw (.cells A7 false zz1) w1 fun p1 w2=>ck (List.length x=16) (pAgg ⟨p1,0,none⟩ x w2 fun w3=>cond (z1 != 0)
 (bnd (C L5 [.int .i64 z1] w3) fun q3 w4=>aAgg q3 fun z2=>ck (List.length z2=4) (pAgg ⟨b,0,none⟩ z2 w4 fun w5=>gAgg ⟨b,0,none⟩ 4 w5 fun z3=>some (.agg ⟨z3⟩,w5)))
 (bnd (C Ab6 [.pointer c,.int .i64 i] w3) fun q4 w6=>as0 q4 (bnd (C Ai9 [.pointer c,.int .i64 i] w6) fun q5 w7=>as0 q5 (bnd (C G4 [.pointer c,.int .i64 i] w7) fun q6 w8=>as2 q6 fun q7 q8=>aAgg q7 fun z4=>aInt .i64 q8 fun z5=>nw (.cells A7 false zz1) w8 fun p2 w9=>ck (List.length z4=16) (pAgg ⟨p2,0,none⟩ z4 w9 fun w10=>cond (z5 != 1)
 (bnd (C L5 [.int .i64 105] w10) fun q9 w11=>aAgg q9 fun z6=>ck (List.length z6=4) (pAgg ⟨b,0,none⟩ z6 w11 fun w12=>gAgg ⟨b,0,none⟩ 4 w12 fun z7=>some (.agg ⟨z7⟩,w12)))
 (gInt .i64 ⟨p2,1,none⟩ w10 fun z8=>cond (decide (z8>0))
 (gInt .i64 ⟨p2,1,none⟩ w10 fun z9=>bnd (C G4 [.pointer c,.int .i64 (IntKind.wrap .i64 (z9-1))] w10) fun q10 w13=>as2 q10 fun q11 q12=>aAgg q11 fun z10=>aInt .i64 q12 fun z11=>nw (.cells A7 false zz1) w13 fun p3 w14=>ck (List.length z10=16) (pAgg ⟨p3,0,none⟩ z10 w14 fun w15=>bnd (cond (z11==1) (gInt .i64 ⟨p3,0,none⟩ w15 fun z12=>some (z12 != 2,w15)) (some (false,w15))) fun c_1 w16=>cond c_1
 (pV ⟨p2,0,none⟩ (.int .i64 2) w16 fun w17=>pV ⟨p2,3,none⟩ (.int .i64 (Int.tmod (IntKind.wrap .i64 ((Int.tmod code 256)+256)) 256)) w17 fun w18=>pV ⟨p2,4,none⟩ (.int .i64 0) w18 fun w19=>pAgg ⟨p2,8,none⟩ [.int .i64 0,.int .i64 0,.int .i64 0,.int .i64 0,.int .i64 0,.int .i64 0,.int .i64 0,.int .i64 0] w19 fun w20=>gAgg ⟨p2,0,none⟩ 16 w20 fun z13=>bnd (C I3 [.pointer c,.int .i64 i,.agg ⟨z13⟩] w20) fun q13 w21=>aBool q13 fun z14=>bnd (C Ae3 [.bool z14,.int .i64 0] w21) fun q14 w22=>aAgg q14 fun z15=>ck (List.length z15=4) (pAgg ⟨b,0,none⟩ z15 w22 fun w23=>gAgg ⟨b,0,none⟩ 4 w23 fun z16=>some (.agg ⟨z16⟩,w23)))
 (bnd (C N3 [.pointer c,.int .i64 i] w16) fun q15 w24=>aBool q15 fun z17=>bnd (C Ae3 [.bool z17,.int .i64 0] w24) fun q16 w25=>aAgg q16 fun z18=>ck (List.length z18=4) (pAgg ⟨b,0,none⟩ z18 w25 fun w26=>gAgg ⟨b,0,none⟩ 4 w26 fun z19=>some (.agg ⟨z19⟩,w26)))))
 (bnd (C N3 [.pointer c,.int .i64 i] w10) fun q17 w27=>aBool q17 fun z20=>bnd (C Ae3 [.bool z20,.int .i64 0] w27) fun q18 w28=>aAgg q18 fun z21=>ck (List.length z21=4) (pAgg ⟨b,0,none⟩ z21 w28 fun w29=>gAgg ⟨b,0,none⟩ 4 w29 fun z22=>some (.agg ⟨z22⟩,w29))))))))):=by kernel_rfl
def Eg7:Cuts:=⟨0,[],[],[]⟩
def Gd6:List Item:=A5 Tryz.f34
theorem H44  (h:H) :
 A4 PR Eg7 C R Dj0 Tryz.f34 100000 true Gd6 [] h =
 nw (.cells Di9 false [.slice none 0 0,.slice none 0 0,.int .i64 0]) h fun b w=>nw (.cells G81 false [.bool false,.bool false]) w fun p1 w1=>nw (.cells Do2 false [.int .i64 0,.int .i64 1,.int .i64 1,.int .i64 0]) w1 fun p2 w2=>pAgg ⟨b,0,none⟩ [.slice (some ⟨p1,0,none⟩) 2 2,.slice (some ⟨p2,0,none⟩) 2 2,.int .i64 5] w2 fun w3=>gAgg ⟨b,0,none⟩ 3 w3 fun x=>some (.agg ⟨x⟩,w3):=by kernel_rfl
def Er4:Cuts:=⟨0,[],[],[]⟩
def Gw9:List Item:=A5 Tryz.f40
theorem Ie1 (e:Int) (h:H) :
 A4 PR Er4 C R L5 Tryz.f40 100000 true Gw9 [(0,.int .i64 e)] h =
 nw (.cells Ag9 false [.int .i64 0,.int .i64 0,.slice none 0 0,.bool false]) h fun b w=>pAgg ⟨b,0,none⟩ [.int .i64 0,.int .i64 e,.slice none 0 0,.bool false] w fun w1=>gAgg ⟨b,0,none⟩ 4 w1 fun x=>some (.agg ⟨x⟩,w1):=by kernel_rfl
def A09:Cuts:=⟨0,[],[],[]⟩
def Bt9:List Item:=A5 Tryz.f44
theorem D59 (c:Option Addr) (i:Int) (p:List Value) (h:H) :
 A4 PR A09 C R I3 Tryz.f44 100000 true Bt9 [(0,.pointer c),(1,.int .i64 i),(2,.agg ⟨p⟩)] h =
 nw (.cells A7 false p) h fun b w=>gAgg ⟨b,0,none⟩ 16 w fun x=>bnd (C Bi1 [.agg ⟨x⟩] w) fun r w1=>as2 r fun q1 q2=>aSl q1 fun z1 xn xc=>aBool q2 fun z2=>bnd (C A34 [.int .i64 i] w1) fun q3 w2=>aAgg q3 fun z3=>bnd (C N5 [.pointer c,.agg ⟨z3⟩,.slice z1 xn xc,.bool z2] w2) fun q4 w3=>aBool q4 fun z4=>some (.bool z4,w3):=by kernel_rfl
def Ee1:Cuts:=⟨0,[],[],[]⟩
def Gg8:List Item:=A5 Tryz.f46
theorem H06 (c:Option Addr) (i:Int) (target:Int) (h:H) :
 A4 PR Ee1 C R Dn6 Tryz.f46 100000 true Gg8 [(0,.pointer c),(1,.int .i64 i),(2,.int .i64 target)] h =
 nw (.cells A7 false zz1) h fun b w=>bnd (C G4 [.pointer c,.int .i64 target] w) fun r w1=>as2 r fun q1 q2=>aAgg q1 fun x=>aInt .i64 q2 fun z1=>nw (.cells A7 false zz1) w1 fun p1 w2=>ck (List.length x=16) (pAgg ⟨p1,0,none⟩ x w2 fun w3=>cond (target==i)
 (gAgg ⟨p1,0,none⟩ 16 w3 fun z2=>ck (List.length z2=16) (pAgg ⟨b,0,none⟩ z2 w3 fun w4=>gAgg ⟨b,0,none⟩ 16 w4 fun z3=>some (.tuple ⟨[.agg ⟨z3⟩,.int .i64 0]⟩,w4)))
 (cond (z1==2)
 (gAgg ⟨p1,0,none⟩ 16 w3 fun z4=>ck (List.length z4=16) (pAgg ⟨b,0,none⟩ z4 w3 fun w5=>gAgg ⟨b,0,none⟩ 16 w5 fun z5=>some (.tuple ⟨[.agg ⟨z5⟩,.int .i64 105]⟩,w5)))
 (bnd (cond (z1 != 1) (some (true,w3)) (gInt .i64 ⟨p1,1,none⟩ w3 fun z6=>some (z6 != (IntKind.wrap .i64 (i+1)),w3))) fun c_1 w6=>bnd (cond c_1 (some (true,w6)) (gInt .i64 ⟨p1,0,none⟩ w6 fun z7=>some (z7==2,w6))) fun c_2 w7=>cond c_2
 (gAgg ⟨p1,0,none⟩ 16 w7 fun z8=>ck (List.length z8=16) (pAgg ⟨b,0,none⟩ z8 w7 fun w8=>gAgg ⟨b,0,none⟩ 16 w8 fun z9=>some (.tuple ⟨[.agg ⟨z9⟩,.int .i64 103]⟩,w8)))
 (gAgg ⟨p1,0,none⟩ 16 w7 fun z10=>ck (List.length z10=16) (pAgg ⟨b,0,none⟩ z10 w7 fun w9=>gAgg ⟨b,0,none⟩ 16 w9 fun z11=>some (.tuple ⟨[.agg ⟨z11⟩,.int .i64 0]⟩,w9)))))):=by kernel_rfl
def Dt0:Cuts:=⟨0,[],[],[]⟩
def Eu5:List Item:=A5 Tryz.f48
theorem Hg3 (c:Option Addr) (target:Int) (h:H) :
 A4 PR Dt0 C R B31 Tryz.f48 100000 true Eu5 [(0,.pointer c),(1,.int .i64 target)] h =
 nw (.cells A8 false [.int .i64 target]) h fun b w=>gInt .i64 ⟨b,0,none⟩ w fun x=>cond (decide (x≥8))
 (bnd (C Z6 [.pointer c,.func (.func A40) ⟨[]⟩ ⟨[.pointer (some ⟨b,0,none⟩)]⟩] w) fun r w1=>aSl r fun z1 xn xc=>cond ((xn:Int)==0)
 (some (.tuple ⟨[.slice none 0 0,.int .i64 103]⟩,w1))
 (some (.tuple ⟨[.slice z1 xn xc,.int .i64 0]⟩,w1)))
 (gInt .i64 ⟨b,0,none⟩ w fun z2=>bnd (C G4 [.pointer c,.int .i64 z2] w) fun q1 w2=>as2 q1 fun q2 q3=>aAgg q2 fun z3=>aInt .i64 q3 fun z4=>nw (.cells A7 false zz1) w2 fun p1 w3=>ck (List.length z3=16) (pAgg ⟨p1,0,none⟩ z3 w3 fun w4=>cond (z4==0)
 (some (.tuple ⟨[.slice none 0 0,.int .i64 103]⟩,w4))
 (cond (z4==2)
 (some (.tuple ⟨[.slice none 0 0,.int .i64 105]⟩,w4))
 (gInt .i64 ⟨b,0,none⟩ w4 fun z5=>gAgg ⟨p1,0,none⟩ 16 w4 fun z6=>ck (List.length z6=16) (ck (List.length (.int .i64 z5::(z6++[]))=17) (nw (.cells G9 false ((.int .i64 z5::(z6++[]))++[])) w4 fun p2 w5=>some (.tuple ⟨[.slice (some ⟨p2,0,none⟩) 1 1,.int .i64 0]⟩,w5))))))):=by kernel_rfl
def B63:Cuts:=⟨0,[],[(6,[2,4,6]),(8,[2,4,6])],[]⟩
def Dx0:List Item:=A5 Tryz.f49
def Bh0:List Item:=stk [0,1,0,1,0,1,0,1,0,0] Dx0
def B22:List Item:=stk [0,1,0,1,0,1,0,1,0,1,0,0] Dx0
theorem Ih1 (p:List Value) (n:Int) (h:H) :
 A4 PR B63 C R Aa4 Tryz.f49 100000 true Dx0 [(0,.agg ⟨p⟩),(1,.int .i64 n)] h =
 nw (.cells A7 false p) h fun b w=>nw (.cells A7 false zz1) w fun p1 w1=>bnd (C E68 [.int .i64 n] w1) fun r w2=>aBool r fun x=>bnd (cond (!x) (some (true,w2)) (gInt .i64 ⟨b,0,none⟩ w2 fun z1=>bnd (cond (z1 != 1) (gInt .i64 ⟨b,0,none⟩ w2 fun z2=>some (z2 != 3,w2)) (some (false,w2))) fun c w3=>some (c,w3))) fun c_1 w4=>cond c_1
 (gAgg ⟨b,0,none⟩ 16 w4 fun z3=>ck (List.length z3=16) (pAgg ⟨p1,0,none⟩ z3 w4 fun w5=>gAgg ⟨p1,0,none⟩ 16 w5 fun z4=>some (.tuple ⟨[.agg ⟨z4⟩,.bool false]⟩,w5)))
 (ck ((0:Int)≤(IntKind.wrap .u64 (n))) (gInt .i64 ⟨b,6,none⟩ w4 fun z5=>bnd (cond ((O1 .i64 z5 (IntKind.wrap .i64 (1*2 ^ (min (Int.toNat (IntKind.wrap .u64 (n))) 64))))==0) (some (true,w4)) (some ((O1 .i64 (IntKind.wrap .i64 (1*2 ^ (min (Int.toNat (IntKind.wrap .u64 (n))) 64))) 16896) != 0,w4))) fun c_2 w6=>cond c_2
 (gInt .i64 ⟨b,4,none⟩ w6 fun z6=>pV ⟨b,4,none⟩ (.int .i64 (Dv5 .i64 z6 (IntKind.wrap .i64 (1*2 ^ (min (Int.toNat (IntKind.wrap .u64 (n))) 64))))) w6 fun w7=>R Aa4 Bh0 [(2,.pointer (some ⟨b,0,none⟩)),(4,.pointer (some ⟨p1,0,none⟩)),(6,.int .i64 (IntKind.wrap .i64 (1*2 ^ (min (Int.toNat (IntKind.wrap .u64 (n))) 64))))] w7)
 (R Aa4 Bh0 [(2,.pointer (some ⟨b,0,none⟩)),(4,.pointer (some ⟨p1,0,none⟩)),(6,.int .i64 (IntKind.wrap .i64 (1*2 ^ (min (Int.toNat (IntKind.wrap .u64 (n))) 64))))] w6))):=by kernel_rfl
theorem Hj7 (p:Addr) (x4:Addr) (b:Int) (h:H) :
 A4 PR B63 C R Aa4 Tryz.f49 100000 true Bh0 [(2,.pointer (some p)),(4,.pointer (some x4)),(6,.int .i64 b)] h =
 bnd (cond (b==512) (some (true,h)) (some (b==32768,h))) fun c w=>bnd (cond c (gInt .i64 (Addr.add p 0) w fun x=>some (x==3,w)) (some (false,w))) fun c_1 w1=>cond c_1
 (pV (Addr.add p 0) (.int .i64 1) w1 fun w2=>R Aa4 B22 [(2,.pointer (some p)),(4,.pointer (some x4)),(6,.int .i64 b)] w2)
 (R Aa4 B22 [(2,.pointer (some p)),(4,.pointer (some x4)),(6,.int .i64 b)] w1):=by kernel_rfl
theorem Hm3 (p:Addr) (x4:Addr) (b:Int) (h:H) :
 A4 PR B63 C R Aa4 Tryz.f49 100000 true B22 [(2,.pointer (some p)),(4,.pointer (some x4)),(6,.int .i64 b)] h =
 cond (b==32768)
 (gInt .i64 (Addr.add p 4) h fun x=>pV (Addr.add p 4) (.int .i64 (Au4 .i64 x 16384)) h fun w=>gAgg p 16 w fun z1=>ck (List.length z1=16) (pAgg x4 z1 w fun w1=>gAgg x4 16 w1 fun z2=>some (.tuple ⟨[.agg ⟨z2⟩,.bool true]⟩,w1)))
 (cond (b==16384)
 (gInt .i64 (Addr.add p 4) h fun z3=>pV (Addr.add p 4) (.int .i64 (Au4 .i64 z3 32768)) h fun w2=>gAgg p 16 w2 fun z4=>ck (List.length z4=16) (pAgg x4 z4 w2 fun w3=>gAgg x4 16 w3 fun z5=>some (.tuple ⟨[.agg ⟨z5⟩,.bool true]⟩,w3)))
 (gAgg p 16 h fun z6=>ck (List.length z6=16) (pAgg x4 z6 h fun w4=>gAgg x4 16 w4 fun z7=>some (.tuple ⟨[.agg ⟨z7⟩,.bool true]⟩,w4)))):=by kernel_rfl
def Al3:Cuts:=⟨0,[],[(8,[6,8,11,12])],[(7,⟨[0,1,2,3,4,5,6,7,8,9],[0,1,3,7,0,31,63,31,159,511],[(7,[5])],[]⟩)]⟩
def A12:List Item:=A5 Tryz.f50
def As7:List Item:=stk [0,1,0,1,0,1,0,1,0,1,0,1,0,0] A12
theorem D82 (c:Option Addr) (r:List Value) (decode:Value) (h:H) :
 A4 PR Al3 C R O5 Tryz.f50 100000 true A12 [(0,.pointer c),(1,.agg ⟨r⟩),(2,decode)] h =
 nw (.cells B8 false r) h fun b w=>nw (.cells A7 false zz1) w fun p1 w1=>nw (.cells A7 false zz1) w1 fun p2 w2=>gAgg ⟨b,0,none⟩ 2 w2 fun x=>bnd (C U6 [.pointer c,.agg ⟨x⟩] w2) fun q1 w3=>as2 q1 fun q2 q3=>aSl q2 fun z1 xn xc=>aBool q3 fun z2=>cond (!z2)
 (gAgg ⟨p2,0,none⟩ 16 w3 fun z3=>ck (List.length z3=16) (pAgg ⟨p1,0,none⟩ z3 w3 fun w4=>gAgg ⟨p1,0,none⟩ 16 w4 fun z4=>some (.tuple ⟨[.agg ⟨z4⟩,.int .i64 2]⟩,w4)))
 (aFn decode fun g fi cp=>bnd (C g (fi++([.slice z1 xn xc]++cp)) w3) fun q4 w5=>as2 q4 fun q5 q6=>aAgg q5 fun z5=>aInt .i64 q6 fun z6=>nw (.cells A7 false zz1) w5 fun p3 w6=>ck (List.length z5=16) (pAgg ⟨p3,0,none⟩ z5 w6 fun w7=>cond (z6==2)
 (aSome c fun p=>gMap (Addr.add p 3) w7 fun z7=>gAgg ⟨b,0,none⟩ 2 w7 fun z8=>keyN PR B8 (.agg ⟨z8⟩) (opt z7 fun q7=>mapAt w7 q7 fun es _=>opt (Au2 (.int .i64 0) (.agg ⟨z8⟩) es) fun f=>aInt .i64 f.1 fun z9=>keyN PR B8 (.agg ⟨z8⟩) (opt z7 fun q8=>mapAt w7 q8 fun es_1 cl_1=>opt (Ep6 (.int .i64 0) (.agg ⟨z8⟩) es_1 cl_1) fun f_1=>aInt .i64 f_1.1 fun _=>lt (H.set w7 q8 f_1.2.2) fun w8=>keyN PR B8 (.agg ⟨z8⟩) (opt z7 fun q9=>mapAt w8 q9 fun es_2 _=>opt (Au2 (.int .i64 0) (.agg ⟨z8⟩) es_2) fun f_2=>aInt .i64 f_2.1 fun z11=>same (.int .i64 z9) (.int .i64 z11) (opt z7 fun q10=>mapAt w8 q10 fun es_3 cl_3=>opt (B28 (f_1.2.1:Int) es_3 0) fun i=>lt (H.set w8 q10 (.map (modN (fun e=>{ e with val:=.int .i64 (IntKind.wrap .i64 (z9+1)) }) i es_3) cl_3)) fun w9=>R O5 As7 [(6,.pointer (some ⟨p1,0,none⟩)),(8,.pointer (some ⟨p2,0,none⟩)),(11,.pointer (some ⟨p3,0,none⟩)),(12,.int .i64 z6)] w9)))))
 (R O5 As7 [(6,.pointer (some ⟨p1,0,none⟩)),(8,.pointer (some ⟨p2,0,none⟩)),(11,.pointer (some ⟨p3,0,none⟩)),(12,.int .i64 z6)] w7))):=by kernel_rfl
theorem Bh2 (x6:Addr) (nonev:Addr) (v:Addr) (isv:Int) (h:H) :
 A4 PR Al3 C R O5 Tryz.f50 100000 true As7 [(6,.pointer (some x6)),(8,.pointer (some nonev)),(11,.pointer (some v)),(12,.int .i64 isv)] h =
 cond (isv != 1)
 (gAgg nonev 16 h fun x=>ck (List.length x=16) (pAgg x6 x h fun w=>gAgg x6 16 w fun z1=>some (.tuple ⟨[.agg ⟨z1⟩,.int .i64 isv]⟩,w)))
 (gAgg v 16 h fun z2=>ck (List.length z2=16) (pAgg x6 z2 h fun w1=>gAgg x6 16 w1 fun z3=>some (.tuple ⟨[.agg ⟨z3⟩,.int .i64 isv]⟩,w1))):=by kernel_rfl
def Du1:Cuts:=⟨0,[],[],[]⟩
def Eu3:List Item:=A5 Tryz.f51
theorem Hf8 (i:Int) (h:H) :
 A4 PR Du1 C R A34 Tryz.f51 100000 true Eu3 [(0,.int .i64 i)] h =
 nw (.cells B8 false [.int .i64 0,.int .i64 0]) h fun b w=>pAgg ⟨b,0,none⟩ [.int .i64 1,.int .i64 i] w fun w1=>gAgg ⟨b,0,none⟩ 2 w1 fun x=>some (.agg ⟨x⟩,w1):=by kernel_rfl
def Bu2:Cuts:=⟨0,[(4,[0,1,4,19,20])],[],[]⟩
def Dn4:List Item:=A5 Tryz.f62
def Av5:List Item:=stk [0,1,0,1,0,1,0,0,1,4,5] Dn4
theorem G90 (c:Option Addr) (i:Int) (h:H) :
 A4 PR Bu2 C R Ab6 Tryz.f62 100000 true Dn4 [(0,.pointer c),(1,.int .i64 i)] h =
 bnd (C D4 [.pointer c] h) fun r w=>as0 r (bnd (C G4 [.pointer c,.int .i64 i] w) fun q1 w1=>as2 q1 fun q2 q3=>aAgg q2 fun x=>aInt .i64 q3 fun z1=>nw (.cells A7 false zz1) w1 fun b w2=>ck (List.length x=16) (pAgg ⟨b,0,none⟩ x w2 fun w3=>cond (z1 != 1)
 (some (.tuple ⟨[]⟩,w3))
 (gAgg ⟨b,8,none⟩ 8 w3 fun z2=>R Ab6 Av5 [(0,.pointer c),(1,.int .i64 i),(4,.pointer (some ⟨b,0,none⟩)),(19,.agg ⟨z2⟩),(20,.int .i64 0)] w3))):=by kernel_rfl
theorem D04 (c:Option Addr) (i:Int) (p:Addr) (x19:List Value) (x20:Int) (h:H) :
 A4 PR Bu2 C R Ab6 Tryz.f62 100000 true Av5 [(0,.pointer c),(1,.int .i64 i),(4,.pointer (some p)),(19,.agg ⟨x19⟩),(20,.int .i64 x20)] h =
 cond (decide (x20<8))
 (ck ((0:Int)≤x20∧x20<((8:Nat):Int)) (nth x19 (Int.toNat x20*1) fun x=>aInt .i64 x fun z1=>cond (decide (z1>0))
 (bnd (C Ad6 [.pointer c,.int .i64 (IntKind.wrap .i64 (z1-1))] h) fun r w=>aInt .i64 r fun _=>R Ab6 Av5 [(0,.pointer c),(1,.int .i64 i),(4,.pointer (some p)),(19,.agg ⟨x19⟩),(20,.int .i64 (IntKind.wrap .i64 (x20+1)))] w)
 (R Ab6 Av5 [(0,.pointer c),(1,.int .i64 i),(4,.pointer (some p)),(19,.agg ⟨x19⟩),(20,.int .i64 (IntKind.wrap .i64 (x20+1)))] h)))
 (pAgg (Addr.add p 8) [.int .i64 0,.int .i64 0,.int .i64 0,.int .i64 0,.int .i64 0,.int .i64 0,.int .i64 0,.int .i64 0] h fun w1=>gAgg p 16 w1 fun z3=>bnd (C I3 [.pointer c,.int .i64 i,.agg ⟨z3⟩] w1) fun q1 w2=>aBool q1 fun _=>some (.tuple ⟨[]⟩,w2)):=by kernel_rfl
def Bd2:Cuts:=⟨0,[],[],[]⟩
def B59:List Item:=A5 Tryz.f69
theorem Eq9 (c:Option Addr) (kind:Int) (h:H) :
 A4 PR Bd2 C R Aa6 Tryz.f69 100000 true B59 [(0,.pointer c),(1,.int .i64 kind)] h =
 cond (kind==1)
 (some (.int .i64 8,h))
 (cond (kind==2)
 (some (.int .i64 12,h))
 (cond (kind==3)
 (aSome c fun p=>gSl (Addr.add p 2) h fun _ xn _=>some (.int .i64 (IntKind.wrap .i64 ((IntKind.wrap .i64 (4+(xn:Int)))-1)),h))
 (some (.int .i64 1,h)))):=by kernel_rfl
def D18:Cuts:=⟨0,[],[],[]⟩
def E81:List Item:=A5 Tryz.f103
theorem Hs7 (k:Option Addr) (env:Int) (h:H) :
 A4 PR D18 C R B95 Tryz.f103 100000 true E81 [(0,.pointer k),(1,.int .i64 env)] h =
 bnd (cond k.isNone (some (true,h)) (bnd (C Ay6 [.pointer k] h) fun r w=>aPtr r fun x=>bnd (C Av7 [.pointer x,.int .i64 env] w) fun q1 w1=>aSl q1 fun _ xn _=>some ((xn:Int)==0,w1))) fun c w2=>cond c
 (some (.tuple ⟨[.pointer none,.int .i64 1]⟩,w2))
 (bnd (C Ay6 [.pointer k] w2) fun q2 w3=>aPtr q2 fun z2=>bnd (C Av7 [.pointer z2,.int .i64 env] w3) fun q3 w4=>aSl q3 fun z3 xn_1 xc_1=>nw (.map [] 0) w4 fun b w5=>nw (.cells D52 false [.pointer k,.int .i64 env,.slice z3 xn_1 xc_1,.map (some b)]) w5 fun p1 w6=>some (.tuple ⟨[.pointer (some ⟨p1,0,none⟩),.int .i64 0]⟩,w6)):=by kernel_rfl
def Dc9:Cuts:=⟨0,[],[],[]⟩
def Eg0:List Item:=A5 Tryz.f121
theorem G16 (x:List Value) (fv0:Addr) (h:H) :
 A4 PR Dc9 C R A40 Tryz.f121 100000 true Eg0 [(0,.agg ⟨x⟩),(1,.pointer (some fv0))] h =
 nw (.cells G9 false x) h fun b w=>gAgg ⟨b,0,none⟩ 17 w fun z1=>bnd (C Ag3 [.agg ⟨z1⟩] w) fun r w1=>aBool r fun z2=>bnd (cond z2 (gInt .i64 ⟨b,3,none⟩ w1 fun z3=>gInt .i64 fv0 w1 fun z4=>some (z3==(IntKind.wrap .i64 (z4-8)),w1)) (some (false,w1))) fun c w2=>some (.bool c,w2):=by kernel_rfl
def Aq1:Cuts:=⟨0,[],[],[(4,⟨[0,1,2,3,4,10,5,6,7,8,9,11,12],[0,1,3,7,0,16,63,127,255,255,0,1535,4095],[(5,[3])],[]⟩)]⟩
def Bf0:List Item:=A5 Tryz.f126
theorem Do8 (c:Option Addr) (b:Option Addr) (bn bc:Nat) (h:H) :
 A4 PR Aq1 C R Ac5 Tryz.f126 100000 true Bf0 [(0,.pointer c),(1,.slice b bn bc)] h =
 nw (.cells A7 false zz1) h fun p1 w=>nw (.cells A7 false zz1) w fun p2 w1=>aSome c fun p=>gFv (Addr.add p 2) w1 fun x=>isNilF x fun p3=>bnd (cond p3 (some (true,w1)) (aSome c fun p_1=>gInt .i64 (Addr.add p_1 0) w1 fun z1=>some ((bn:Int) != z1,w1))) fun c_1 w2=>cond c_1
 (gAgg ⟨p2,0,none⟩ 16 w2 fun z2=>ck (List.length z2=16) (pAgg ⟨p1,0,none⟩ z2 w2 fun w3=>gAgg ⟨p1,0,none⟩ 16 w3 fun z3=>some (.tuple ⟨[.agg ⟨z3⟩,.bool false]⟩,w3)))
 (aSome c fun p_2=>gFv (Addr.add p_2 2) w2 fun z4=>nw (.cells A7 false zz1) w2 fun p4 w4=>bnd (C H6 [.slice b bn bc] w4) fun r w5=>aSl r fun z5 xn xc=>gFv (Addr.add p_2 2) w5 fun z6=>B16 (z4) (z6) (aFn z4 fun g fi cp=>bnd (C g (fi++([.slice z5 xn xc]++cp)) w5) fun q1 w6=>as2 q1 fun q2 q3=>aAgg q2 fun z7=>aBool q3 fun z8=>ck (List.length z7=16) (pAgg ⟨p4,0,none⟩ z7 w6 fun w7=>cond (!z8)
 (gAgg ⟨p2,0,none⟩ 16 w7 fun z9=>ck (List.length z9=16) (pAgg ⟨p1,0,none⟩ z9 w7 fun w8=>gAgg ⟨p1,0,none⟩ 16 w8 fun z10=>some (.tuple ⟨[.agg ⟨z10⟩,.bool false]⟩,w8)))
 (gAgg ⟨p4,0,none⟩ 16 w7 fun z11=>ck (List.length z11=16) (pAgg ⟨p1,0,none⟩ z11 w7 fun w9=>gAgg ⟨p1,0,none⟩ 16 w9 fun z12=>some (.tuple ⟨[.agg ⟨z12⟩,.bool true]⟩,w9)))))):=by kernel_rfl
def Ax2:Cuts:=⟨0,[],[],[]⟩
def Bp8:List Item:=A5 Tryz.f138
theorem D31 (c:Option Addr) (i:Int) (h:H) :
 A4 PR Ax2 C R Ai6 Tryz.f138 100000 true Bp8 [(0,.pointer c),(1,.int .i64 i)] h =
 bnd (C A33 [.int .i64 i] h) fun r w=>aAgg r fun x=>bnd (C Z0 [.pointer c,.agg ⟨x⟩] w) fun q1 w1=>aBool q1 fun z1=>some (.bool z1,w1):=by kernel_rfl
def Dl5:Cuts:=⟨0,[],[],[]⟩
def Em5:List Item:=A5 Tryz.f147
theorem G86 (x:List Value) (fv0:Addr) (h:H) :
 A4 PR Dl5 C R Bb9 Tryz.f147 100000 true Em5 [(0,.agg ⟨x⟩),(1,.pointer (some fv0))] h =
 nw (.cells G9 false x) h fun b w=>gInt .i64 ⟨b,0,none⟩ w fun z1=>gInt .i64 fv0 w fun z2=>bnd (cond (z1 != z2) (gInt .i64 ⟨b,2,none⟩ w fun z3=>gInt .i64 fv0 w fun z4=>some (z3==(IntKind.wrap .i64 (z4+1)),w)) (some (false,w))) fun c w1=>some (.bool c,w1):=by kernel_rfl
def Ba4:Cuts:=⟨0,[(2,[0,9,10,11])],[],[(4,⟨[0,1,2,3,4,5,6,7,8,9,10,11,12,13,14,15,16,17,18,19,20],[0,1,3,7,15,31,15,79,255,511,1023,2047,4095,8191,1023,17407,50175,131071,262143,524287,1048575],[],[]⟩)]⟩
def Bz8:List Item:=A5 Tryz.f151
def Aw9:List Item:=stk [0,1,0,0,1,4,5] Bz8
theorem Gk1 (x:Option Addr) (h:H) :
 A4 PR Ba4 C R Y1 Tryz.f151 100000 true Bz8 [(0,.pointer x)] h =
 aSome x fun p=>gSl (Addr.add (Addr.add p 0) 0) h fun z1 xn xc=>R Y1 Aw9 [(0,.pointer x),(9,.slice z1 xn xc),(10,.int .i64 (xn:Int)),(11,.int .i64 0)] h:=by kernel_rfl
theorem Df4 (x:Option Addr) (x9:Option Addr) (x9n x9c:Nat) (x10:Int) (x11:Int) (h:H) :
 A4 PR Ba4 C R Y1 Tryz.f151 100000 true Aw9 [(0,.pointer x),(9,.slice x9 x9n x9c),(10,.int .i64 x10),(11,.int .i64 x11)] h =
 cond (decide (x11<x10))
 (aSome x9 fun p=>ck ((0:Int)≤x11∧x11<(x9n:Int)) (gAgg (Addr.add (B3 p) (Int.toNat x11*16)) 16 h fun z1=>nw (.cells A7 false zz1) h fun b w=>ck (List.length z1=16) (pAgg ⟨b,0,none⟩ z1 w fun w1=>gInt .i64 ⟨b,1,none⟩ w1 fun z2=>bnd (cond (decide (z2>0)) (gInt .i64 ⟨b,1,none⟩ w1 fun z3=>bnd (cond (z3==(IntKind.wrap .i64 (x11+1))) (some (true,w1)) (aSome x fun p_1=>gAgg (Addr.add p_1 0) 2 w1 fun z4=>gInt .i64 ⟨b,1,none⟩ w1 fun z5=>bnd (C Ab8 [.agg ⟨z4⟩,.int .i64 (IntKind.wrap .i64 (z5-1))] w1) fun r w2=>aBool r fun z6=>some (!z6,w2))) fun c w3=>some (c,w3)) (some (false,w1))) fun c_1 w4=>cond c_1
 (some (.bool true,w4))
 (R Y1 Aw9 [(0,.pointer x),(9,.slice x9 x9n x9c),(10,.int .i64 x10),(11,.int .i64 (IntKind.wrap .i64 (x11+1)))] w4))))
 (some (.bool false,h)):=by kernel_rfl
def Ak7:Cuts:=⟨0,[],[(8,[6,8,11,12])],[(7,⟨[0,1,2,3,4,5,6,7,8,9],[0,1,3,7,0,31,63,31,159,511],[(7,[5])],[]⟩)]⟩
def A11:List Item:=A5 Tryz.f160
def At3:List Item:=stk [0,1,0,1,0,1,0,1,0,1,0,1,0,0] A11
theorem D56 (c:Option Addr) (r:List Value) (decode:Value) (h:H) :
 A4 PR Ak7 C R J9 Tryz.f160 100000 true A11 [(0,.pointer c),(1,.agg ⟨r⟩),(2,decode)] h =
 nw (.cells B8 false r) h fun b w=>nw (.cells D9 false zz4) w fun p1 w1=>nw (.cells D9 false zz4) w1 fun p2 w2=>gAgg ⟨b,0,none⟩ 2 w2 fun x=>bnd (C U6 [.pointer c,.agg ⟨x⟩] w2) fun q1 w3=>as2 q1 fun q2 q3=>aSl q2 fun z1 xn xc=>aBool q3 fun z2=>cond (!z2)
 (gAgg ⟨p2,0,none⟩ 36 w3 fun z3=>ck (List.length z3=36) (pAgg ⟨p1,0,none⟩ z3 w3 fun w4=>gAgg ⟨p1,0,none⟩ 36 w4 fun z4=>some (.tuple ⟨[.agg ⟨z4⟩,.int .i64 2]⟩,w4)))
 (aFn decode fun g fi cp=>bnd (C g (fi++([.slice z1 xn xc]++cp)) w3) fun q4 w5=>as2 q4 fun q5 q6=>aAgg q5 fun z5=>aInt .i64 q6 fun z6=>nw (.cells D9 false zz4) w5 fun p3 w6=>ck (List.length z5=36) (pAgg ⟨p3,0,none⟩ z5 w6 fun w7=>cond (z6==2)
 (aSome c fun p=>gMap (Addr.add p 3) w7 fun z7=>gAgg ⟨b,0,none⟩ 2 w7 fun z8=>keyN PR B8 (.agg ⟨z8⟩) (opt z7 fun q7=>mapAt w7 q7 fun es _=>opt (Au2 (.int .i64 0) (.agg ⟨z8⟩) es) fun f=>aInt .i64 f.1 fun z9=>keyN PR B8 (.agg ⟨z8⟩) (opt z7 fun q8=>mapAt w7 q8 fun es_1 cl_1=>opt (Ep6 (.int .i64 0) (.agg ⟨z8⟩) es_1 cl_1) fun f_1=>aInt .i64 f_1.1 fun _=>lt (H.set w7 q8 f_1.2.2) fun w8=>keyN PR B8 (.agg ⟨z8⟩) (opt z7 fun q9=>mapAt w8 q9 fun es_2 _=>opt (Au2 (.int .i64 0) (.agg ⟨z8⟩) es_2) fun f_2=>aInt .i64 f_2.1 fun z11=>same (.int .i64 z9) (.int .i64 z11) (opt z7 fun q10=>mapAt w8 q10 fun es_3 cl_3=>opt (B28 (f_1.2.1:Int) es_3 0) fun i=>lt (H.set w8 q10 (.map (modN (fun e=>{ e with val:=.int .i64 (IntKind.wrap .i64 (z9+1)) }) i es_3) cl_3)) fun w9=>R J9 At3 [(6,.pointer (some ⟨p1,0,none⟩)),(8,.pointer (some ⟨p2,0,none⟩)),(11,.pointer (some ⟨p3,0,none⟩)),(12,.int .i64 z6)] w9)))))
 (R J9 At3 [(6,.pointer (some ⟨p1,0,none⟩)),(8,.pointer (some ⟨p2,0,none⟩)),(11,.pointer (some ⟨p3,0,none⟩)),(12,.int .i64 z6)] w7))):=by kernel_rfl
theorem Bh6 (x6:Addr) (nonev:Addr) (v:Addr) (isv:Int) (h:H) :
 A4 PR Ak7 C R J9 Tryz.f160 100000 true At3 [(6,.pointer (some x6)),(8,.pointer (some nonev)),(11,.pointer (some v)),(12,.int .i64 isv)] h =
 cond (isv != 1)
 (gAgg nonev 36 h fun x=>ck (List.length x=36) (pAgg x6 x h fun w=>gAgg x6 36 w fun z1=>some (.tuple ⟨[.agg ⟨z1⟩,.int .i64 isv]⟩,w)))
 (gAgg v 36 h fun z2=>ck (List.length z2=36) (pAgg x6 z2 h fun w1=>gAgg x6 36 w1 fun z3=>some (.tuple ⟨[.agg ⟨z3⟩,.int .i64 isv]⟩,w1))):=by kernel_rfl
def D30:Cuts:=⟨0,[],[],[]⟩
def E76:List Item:=A5 Tryz.f162
theorem Ht7 (b:Option Addr) (bn bc:Nat) (h:H) :
 A4 PR D30 C R Z7 Tryz.f162 100000 true E76 [(0,.slice b bn bc)] h =
 nw (.cells D9 false zz4) h fun p1 w=>bnd (cond ((bn:Int)==40) (bnd (C Ax8 [.slice b bn bc] w) fun r w1=>aBool r fun x=>some (x,w1)) (some (false,w))) fun c w2=>cond c
 (pAgg ⟨p1,0,none⟩ zz4 w2 fun w3=>gAgg ⟨p1,0,none⟩ 36 w3 fun z1=>some (.tuple ⟨[.agg ⟨z1⟩,.int .i64 0]⟩,w3))
 (bnd (C Bx3 [] w2) fun q1 w4=>aPtr q1 fun z2=>bnd (C Ac7 [.pointer z2,.slice b bn bc] w4) fun q2 w5=>as2 q2 fun q3 q4=>aAgg q3 fun z3=>aBool q4 fun z4=>nw (.cells D9 false zz4) w5 fun p2 w6=>ck (List.length z3=36) (pAgg ⟨p2,0,none⟩ z3 w6 fun w7=>cond (!z4)
 (pAgg ⟨p1,0,none⟩ zz4 w7 fun w8=>gAgg ⟨p1,0,none⟩ 36 w8 fun z5=>some (.tuple ⟨[.agg ⟨z5⟩,.int .i64 2]⟩,w8))
 (gAgg ⟨p2,0,none⟩ 36 w7 fun z6=>ck (List.length z6=36) (pAgg ⟨p1,0,none⟩ z6 w7 fun w9=>gAgg ⟨p1,0,none⟩ 36 w9 fun z7=>some (.tuple ⟨[.agg ⟨z7⟩,.int .i64 1]⟩,w9))))):=by kernel_rfl
def D27:Cuts:=⟨0,[],[],[(1,⟨[1,0,2,3,4,5,6],[0,0,3,7,7,31,63],[(0,[1])],[]⟩)]⟩
def E98:List Item:=A5 Tryz.f163
theorem Ht1 (p:List Value) (h:H) :
 A4 PR D27 C R Bs0 Tryz.f163 100000 true E98 [(0,.agg ⟨p⟩)] h =
 nw (.cells D9 false p) h fun b w=>gAgg ⟨b,0,none⟩ 36 w fun x=>bnd (C Bx3 [] w) fun r w1=>aPtr r fun z1=>gAgg ⟨b,0,none⟩ 36 w1 fun z2=>same (.agg ⟨x⟩) (.agg ⟨z2⟩) (bnd (C Ac9 [.pointer z1,.agg ⟨x⟩] w1) fun q1 w2=>as2 q1 fun q2 q3=>aSl q2 fun z3 xn xc=>aBool q3 fun z4=>some (.tuple ⟨[.slice z3 xn xc,.bool z4]⟩,w2)):=by kernel_rfl
def D38:Cuts:=⟨0,[],[],[]⟩
def E83:List Item:=A5 Tryz.f191
theorem Hv0 (n:Int) (h:H) :
 A4 PR D38 C R Bq0 Tryz.f191 100000 true E83 [(0,.int .i64 n)] h =
 some (.int .i64 (mm2 false (mm2 true n 0) 64),h):=by kernel_rfl
def A38:Cuts:=⟨0,[],[],[]⟩
def Bz3:List Item:=A5 Tryz.f192
theorem Ed6 (s:Option Addr) (sn sc:Nat) (h:H) :
 A4 PR A38 C R Ad4 Tryz.f192 100000 true Bz3 [(0,.slice s sn sc)] h =
 cond s.isNone
 (some (.slice none 0 0,h))
 (nw (.cells A8 false []) h fun b w=>gCells s (sn*1) w fun cs=>ckB (fitsOpen (some ⟨b,0,none⟩) A8 w) (apd A8 1 (some ⟨b,0,none⟩) 0 0 sn cs w fun a an ac w1=>some (.slice a an ac,w1))):=by kernel_rfl
def Gd2:Cuts:=⟨0,[],[],[]⟩
def Hp2:List Item:=A5 Tryz.f193
theorem I44 (frames:Int) (h:H) :
 A4 PR Gd2 C R Em2 Tryz.f193 100000 true Hp2 [(0,.int .i64 frames)] h =
 ck ((0:Int)≤IntKind.wrap .i64 (64*(mm2 false (mm2 true frames 0) 256))∧(IntKind.wrap .i64 (64*(mm2 false (mm2 true frames 0) 256)):Int)≤IntKind.wrap .i64 (64*(mm2 false (mm2 true frames 0) 256))∧IntKind.wrap .i64 (64*(mm2 false (mm2 true frames 0) 256))≤(A9:Int)) (nw (.cells A3 false (I6 (Int.toNat (IntKind.wrap .i64 (64*(mm2 false (mm2 true frames 0) 256)))) [.int .u8 0])) h fun b w=>nw (.cells Gh6 false [.slice (some ⟨b,0,none⟩) (Int.toNat (IntKind.wrap .i64 (64*(mm2 false (mm2 true frames 0) 256)))) (Int.toNat (IntKind.wrap .i64 (64*(mm2 false (mm2 true frames 0) 256))))]) w fun p1 w1=>some (.pointer (some ⟨p1,0,none⟩),w1)):=by kernel_rfl
def Dw3:Cuts:=⟨0,[(3,[3,12,13,14])],[],[(5,⟨[0,1,2,3,4,5,6,7,8,9,10,11,12,13],[0,0,2,6,14,0,32,96,224,480,1022,2047,4095,8191],[],[]⟩)]⟩
def En5:List Item:=A5 Tryz.f195
def B14:List Item:=stk [0,1,0,1,0,0,1,4,5] En5
theorem Ib1 (frames:Option Addr) (framesn framesc:Nat) (h:H) :
 A4 PR Dw3 C R A22 Tryz.f195 100000 true En5 [(0,.slice frames framesn framesc)] h =
 nw (.cells A87 false [.slice none 0 0]) h fun b w=>ckB (fitsOpen frames A8 w) (ck ((0:Int)≤mm2 false (framesn:Int) 4∧mm2 false (framesn:Int) 4≤(framesc:Int)) (R A22 B14 [(3,.pointer (some ⟨b,0,none⟩)),(12,.slice (I0 frames (decide (0<framesc)) (0*1)) ((Int.toNat (mm2 false (framesn:Int) 4))-0) (framesc-0)),(13,.int .i64 (((Int.toNat (mm2 false (framesn:Int) 4))-0:Nat):Int)),(14,.int .i64 0)] w)):=by kernel_rfl
theorem Ex3 (q:Addr) (x12:Option Addr) (x12n x12c:Nat) (x13:Int) (x14:Int) (h:H) :
 A4 PR Dw3 C R A22 Tryz.f195 100000 true B14 [(3,.pointer (some q)),(12,.slice x12 x12n x12c),(13,.int .i64 x13),(14,.int .i64 x14)] h =
 cond (decide (x14<x13))
 (aSome x12 fun p=>ck ((0:Int)≤x14∧x14<(x12n:Int)) (gInt .i64 (Addr.add (B3 p) (Int.toNat x14*1)) h fun x=>gSl (Addr.add q 0) h fun z1 xn xc=>ck ((0:Int)≤mm2 false (mm2 true x 0) 64∧(mm2 false (mm2 true x 0) 64:Int)≤mm2 false (mm2 true x 0) 64∧mm2 false (mm2 true x 0) 64≤(A9:Int)) (nw (.cells A8 false (I6 (Int.toNat (mm2 false (mm2 true x 0) 64)) [.int .i64 0])) h fun b w=>nw (.cells Y9 false [.slice (some ⟨b,0,none⟩) (Int.toNat (mm2 false (mm2 true x 0) 64)) (Int.toNat (mm2 false (mm2 true x 0) 64))]) w fun p1 w1=>gCells (some ⟨p1,0,none⟩) (1*1) w1 fun cs=>ckB (fitsOpen z1 Y9 w1) (apd Y9 1 z1 xn xc 1 cs w1 fun a an ac w2=>pV (Addr.add q 0) (.slice a an ac) w2 fun w3=>R A22 B14 [(3,.pointer (some q)),(12,.slice x12 x12n x12c),(13,.int .i64 x13),(14,.int .i64 (IntKind.wrap .i64 (x14+1)))] w3))))
 (some (.pointer (some q),h)):=by kernel_rfl
def Dd9:Cuts:=⟨0,[],[],[]⟩
def Ec9:List Item:=A5 Tryz.f200
theorem G25 (s:Option Addr) (env:Int) (c:List Value) (h:H) :
 A4 PR Dd9 C R Bo1 Tryz.f200 100000 true Ec9 [(0,.pointer s),(1,.int .i64 env),(2,.agg ⟨c⟩)] h =
 nw (.cells V4 false c) h fun b w=>bnd (C An7 [.pointer s,.int .i64 env] w) fun r w1=>aBool r fun x=>bnd (cond (!x) (some (true,w1)) (gInt .i64 ⟨b,1,none⟩ w1 fun z1=>some ((Au4 .i64 z1 7) != 0,w1))) fun c_1 w2=>bnd (cond c_1 (some (true,w2)) (gInt .i64 ⟨b,2,none⟩ w2 fun z2=>bnd (C Au6 [.int .i64 z2] w2) fun q1 w3=>aBool q1 fun z3=>some (!z3,w3))) fun c_2 w4=>bnd (cond c_2 (some (true,w4)) (gInt .i64 ⟨b,3,none⟩ w4 fun z4=>bnd (C Au6 [.int .i64 z4] w4) fun q2 w5=>aBool q2 fun z5=>some (!z5,w5))) fun c_3 w6=>cond c_3
 (some (.tuple ⟨[.int .i64 0,.int .i64 1]⟩,w6))
 (pAgg ⟨b,4,none⟩ [.int .i64 0,.int .i64 0] w6 fun w7=>gAgg ⟨b,0,none⟩ 6 w7 fun z6=>bnd (C A54 [.pointer s,.int .i64 env,.agg ⟨z6⟩] w7) fun q3 w8=>as2 q3 fun q4 q5=>aInt .i64 q4 fun z7=>aInt .i64 q5 fun z8=>some (.tuple ⟨[.int .i64 z7,.int .i64 z8]⟩,w8)):=by kernel_rfl
def By8:Cuts:=⟨0,[],[],[(5,⟨[0,1,2,3,4,5,6,7,9,10,11,12,13,14,8,15,16,17,18,19,20,21],[0,0,0,4,12,28,0,64,252,0,512,1536,3584,0,8192,32764,65533,131069,262141,524287,1048575,2097151],[(8,[12])],[]⟩)]⟩
def Dz3:List Item:=A5 Tryz.f205
theorem Ge6 (r:Option Addr) (lo:Int) (n:Int) (h:H) :
 A4 PR By8 C R A92 Tryz.f205 100000 true Dz3 [(0,.pointer r),(1,.int .i64 lo),(2,.int .i64 n)] h =
 aSome r fun p=>gSl (Addr.add p 0) h fun _ xn _=>bnd (C Ap4 [.int .i64 lo,.int .i64 n,.int .i64 (xn:Int)] h) fun q1 w=>aBool q1 fun z1=>cond (!z1)
 (some (.tuple ⟨[.int .i64 0,.int .i64 1]⟩,w))
 (aSome r fun p_1=>gSl (Addr.add p_1 1) w fun _ xn_1 _=>cond (decide ((xn_1:Int)≥32))
 (some (.tuple ⟨[.int .i64 0,.int .i64 4]⟩,w))
 (aSome r fun p_2=>gSl (Addr.add p_2 1) w fun z3 xn_2 xc_2=>nw (.cells A8 false [.int .i64 lo]) w fun b w1=>aSome r fun p_3=>gSl (Addr.add p_3 2) w1 fun z4 xn_3 xc_3=>nw (.cells A8 false [.int .i64 n]) w1 fun p1 w2=>gCells (some ⟨b,0,none⟩) (1*1) w2 fun cs=>ckB (fitsOpen z3 A8 w2) (apd A8 1 z3 xn_2 xc_2 1 cs w2 fun a an ac w3=>gSl (Addr.add p_3 2) w3 fun z5 xn_4 xc_4=>same (.slice z4 xn_3 xc_3) (.slice z5 xn_4 xc_4) (gCells (some ⟨p1,0,none⟩) (1*1) w3 fun cs_1=>ckB (fitsOpen z4 A8 w3) (apd A8 1 z4 xn_3 xc_3 1 cs_1 w3 fun a_1 an_1 ac_1 w4=>aSome r fun p_4=>pV (Addr.add p_4 1) (.slice a an ac) w4 fun w5=>aSome r fun p_5=>pV (Addr.add p_5 2) (.slice a_1 an_1 ac_1) w5 fun w6=>aSome r fun p_6=>gSl (Addr.add p_6 1) w6 fun _ xn_5 _=>some (.tuple ⟨[.int .i64 (IntKind.wrap .i64 ((xn_5:Int)-1)),.int .i64 0]⟩,w6)))))):=by kernel_rfl
def Bj9:Cuts:=⟨0,[],[],[]⟩
def Df9:List Item:=A5 Tryz.f211
theorem Eu4 (r:Option Addr) (env:Int) (name:Int) (atv:Int) (n:Int) (h:H) :
 A4 PR Bj9 C R Ak3 Tryz.f211 100000 true Df9 [(0,.pointer r),(1,.int .i64 env),(2,.int .i64 name),(3,.int .i64 atv),(4,.int .i64 n)] h =
 bnd (C Ah9 [.pointer r,.int .i64 env,.int .i64 name,.int .i64 1,.int .i64 atv,.int .i64 n] h) fun q1 w=>as2 q1 fun q2 q3=>aInt .i64 q2 fun x=>aInt .i64 q3 fun z1=>cond (z1 != 0)
 (some (.tuple ⟨[.slice none 0 0,.int .i64 z1]⟩,w))
 (aSome r fun p=>gPtr (Addr.add p 0) w fun z2=>bnd (C Bk5 [.pointer z2,.int .i64 x,.int .i64 n] w) fun q4 w1=>as2 q4 fun q5 q6=>aSl q5 fun z3 xn xc=>aInt .i64 q6 fun z4=>some (.tuple ⟨[.slice z3 xn xc,.int .i64 z4]⟩,w1)):=by kernel_rfl
def D28:Cuts:=⟨0,[],[],[]⟩
def E86:List Item:=A5 Tryz.f223
theorem Hu6 (atv:Int) (n:Int) (size:Int) (h:H) :
 A4 PR D28 C R Ap4 Tryz.f223 100000 true E86 [(0,.int .i64 atv),(1,.int .i64 n),(2,.int .i64 size)] h =
 bnd (cond (decide (atv≥0)) (some (decide (n≥0),h)) (some (false,h))) fun c w=>bnd (cond c (some (decide (atv≤size),w)) (some (false,w))) fun c_1 w1=>bnd (cond c_1 (some (decide (n≤(IntKind.wrap .i64 (size-atv))),w1)) (some (false,w1))) fun c_2 w2=>some (.bool c_2,w2):=by kernel_rfl
def Dc5:Cuts:=⟨0,[],[],[(4,⟨[0,1,2,3,4,5,6,7,8,9,10,11],[0,1,3,7,0,31,63,0,128,0,1023,2047],[],[]⟩)]⟩
def Ef8:List Item:=A5 Tryz.f224
theorem Gz4 (s:Option Addr) (e:Int) (c:List Value) (h:H) :
 A4 PR Dc5 C R Bl5 Tryz.f224 100000 true Ef8 [(0,.pointer s),(1,.int .i64 e),(2,.agg ⟨c⟩)] h =
 nw (.cells V4 false c) h fun b w=>aSome s fun p=>gSl (Addr.add p 0) w fun x xn _=>aSome x fun p_1=>ck ((0:Int)≤e∧e<(xn:Int)) (gPtr (Addr.add (B3 p_1) (Int.toNat e*1)) w fun z1=>bnd (C Ad5 [.pointer z1] w) fun r w1=>as2 r fun q1 q2=>aInt .i64 q1 fun z2=>aBool q2 fun z3=>cond (!z3)
 (some (.tuple ⟨[.int .i64 0,.int .i64 4]⟩,w1))
 (aSome s fun p_2=>gSl (Addr.add p_2 1) w1 fun z4 xn_1 _=>aSome z4 fun p_3=>ck ((0:Int)≤e∧e<(xn_1:Int)) (gSl (Addr.add (B3 p_3) (Int.toNat e*1)) w1 fun z5 xn_2 _=>gAgg ⟨b,0,none⟩ 6 w1 fun z6=>aSome z5 fun p_4=>ck ((0:Int)≤O1 .i64 z2 255∧O1 .i64 z2 255<(xn_2:Int)) (ck (List.length z6=6) (pAgg (Addr.add (B3 p_4) (Int.toNat (O1 .i64 z2 255)*6)) z6 w1 fun w2=>some (.tuple ⟨[.int .i64 z2,.int .i64 0]⟩,w2)))))):=by kernel_rfl
def B76:Cuts:=⟨0,[(3,[0,2,4,31,32,33]),(8,[0,2,4,49])],[],[(1,⟨[0,1,2,3,4,5,6,7,8,9,10,11,12,13,14,15,16,17,18],[0,1,3,7,0,16,48,112,0,256,768,1792,0,4096,12288,28672,65535,0,262143],[],[]⟩),(13,⟨[0,1,2,3,4,5,6,7,8],[0,0,2,6,6,30,62,63,255],[(5,[0])],[]⟩)]⟩
def Dx5:List Item:=A5 Tryz.f237
def Ds8:List Item:=stk [0,1,0,1,0,0,1,4,5] Dx5
def Ds4:List Item:=stk [0,1,0,1,0,1,0,0,1,4,5] Dx5
theorem Ig4 (b:Option Addr) (bn bc:Nat) (h:H) :
 A4 PR B76 C R Ae2 Tryz.f237 100000 true Dx5 [(0,.slice b bn bc)] h =
 nw (.cells A7 false zz1) h fun p1 w=>aSome b fun p=>ck ((0:Int)≤0∧0<(bn:Int)) (gInt .u8 (Addr.add (B3 p) (Int.toNat 0*1)) w fun x=>aSome b fun p_1=>ck ((0:Int)≤1∧1<(bn:Int)) (gInt .u8 (Addr.add (B3 p_1) (Int.toNat 1*1)) w fun z1=>aSome b fun p_2=>ck ((0:Int)≤2∧2<(bn:Int)) (gInt .u8 (Addr.add (B3 p_2) (Int.toNat 2*1)) w fun z2=>aSome b fun p_3=>ck ((0:Int)≤3∧3<(bn:Int)) (gInt .u8 (Addr.add (B3 p_3) (Int.toNat 3*1)) w fun z3=>nw (.cells A7 false zz1) w fun p2 w1=>pAgg ⟨p2,0,none⟩ [.int .i64 (IntKind.wrap .i64 (x)),.int .i64 (IntKind.wrap .i64 (z1)),.int .i64 (IntKind.wrap .i64 (z2)),.int .i64 (IntKind.wrap .i64 (z3)),.int .i64 0,.int .i64 0,.int .i64 0,.int .i64 0,.int .i64 0,.int .i64 0,.int .i64 0,.int .i64 0,.int .i64 0,.int .i64 0,.int .i64 0,.int .i64 0] w1 fun w2=>nw (.cells Jl3 false [.pointer (some ⟨p2,4,none⟩),.pointer (some ⟨p2,5,none⟩),.pointer (some ⟨p2,6,none⟩),.pointer (some ⟨p2,7,none⟩)]) w2 fun p3 w3=>R Ae2 Ds8 [(0,.slice b bn bc),(2,.pointer (some ⟨p1,0,none⟩)),(4,.pointer (some ⟨p2,0,none⟩)),(31,.slice (some ⟨p3,0,none⟩) 4 4),(32,.int .i64 4),(33,.int .i64 0)] w3)))):=by kernel_rfl
theorem Bk2 (b:Option Addr) (bn bc:Nat) (x2:Addr) (p:Addr) (x31:Option Addr) (x31n x31c:Nat) (x32:Int) (x33:Int) (h:H) :
 A4 PR B76 C R Ae2 Tryz.f237 100000 true Ds8 [(0,.slice b bn bc),(2,.pointer (some x2)),(4,.pointer (some p)),(31,.slice x31 x31n x31c),(32,.int .i64 x32),(33,.int .i64 x33)] h =
 cond (decide (x33<x32))
 (aSome x31 fun p_1=>ck ((0:Int)≤x33∧x33<(x31n:Int)) (gPtr (Addr.add (B3 p_1) (Int.toNat x33*1)) h fun x=>bnd (C Dk7 [.slice b bn bc,.int .i64 (IntKind.wrap .i64 (4+(IntKind.wrap .i64 (2*x33))))] h) fun r w=>as2 r fun q1 q2=>aInt .i64 q1 fun z1=>aBool q2 fun _=>aSome x fun p_2=>pV p_2 (.int .i64 z1) w fun w1=>R Ae2 Ds8 [(0,.slice b bn bc),(2,.pointer (some x2)),(4,.pointer (some p)),(31,.slice x31 x31n x31c),(32,.int .i64 x32),(33,.int .i64 (IntKind.wrap .i64 (x33+1)))] w1))
 (R Ae2 Ds4 [(0,.slice b bn bc),(2,.pointer (some x2)),(4,.pointer (some p)),(49,.int .i64 0)] h):=by kernel_rfl
theorem Af5 (b:Option Addr) (bn bc:Nat) (x2:Addr) (p:Addr) (x49:Int) (h:H) :
 A4 PR B76 C R Ae2 Tryz.f237 100000 true Ds4 [(0,.slice b bn bc),(2,.pointer (some x2)),(4,.pointer (some p)),(49,.int .i64 x49)] h =
 cond (decide (x49<8))
 (aSome b fun p_1=>ck ((0:Int)≤IntKind.wrap .i64 (12+x49)∧IntKind.wrap .i64 (12+x49)<(bn:Int)) (gInt .u8 (Addr.add (B3 p_1) (Int.toNat (IntKind.wrap .i64 (12+x49))*1)) h fun x=>ck ((0:Int)≤x49∧x49<((8:Nat):Int)) (pV (Addr.add (Addr.add p 8) (Int.toNat x49*1)) (.int .i64 (IntKind.wrap .i64 (x))) h fun w=>R Ae2 Ds4 [(0,.slice b bn bc),(2,.pointer (some x2)),(4,.pointer (some p)),(49,.int .i64 (IntKind.wrap .i64 (x49+1)))] w)))
 (gAgg p 16 h fun z1=>bnd (C Bi1 [.agg ⟨z1⟩] h) fun r w1=>as2 r fun q1 q2=>aSl q1 fun z2 xn xc=>aBool q2 fun z3=>gAgg p 16 w1 fun z4=>bnd (cond z3 (bnd (C D7 [.slice z2 xn xc,.slice b bn bc] w1) fun q3 w2=>aBool q3 fun z5=>gAgg p 16 w2 fun z6=>same (.agg ⟨z4⟩) (.agg ⟨z6⟩) (some (z5,w2))) (some (false,w1))) fun c w3=>ck (List.length z4=16) (pAgg x2 z4 w3 fun w4=>gAgg x2 16 w4 fun z7=>some (.tuple ⟨[.agg ⟨z7⟩,.bool c]⟩,w4))):=by kernel_rfl
def Af0:Cuts:=⟨0,[(3,[1,5,9,10,11])],[],[]⟩
def At0:List Item:=A5 Tryz.f251
def Q4:List Item:=stk [0,1,0,1,0,0,1,4,5] At0
theorem Dt9 (x:List Value) (kind:Int) (h:H) :
 A4 PR Af0 C R G6 Tryz.f251 100000 true At0 [(0,.agg ⟨x⟩),(1,.int .i64 kind)] h =
 nw (.cells W3 false x) h fun b w=>gSl ⟨b,1,none⟩ w fun z1 xn xc=>R G6 Q4 [(1,.int .i64 kind),(5,.slice none 0 0),(9,.slice z1 xn xc),(10,.int .i64 (xn:Int)),(11,.int .i64 0)] w:=by kernel_rfl
theorem A72 (kind:Int) (out:Option Addr) (outn outc:Nat) (x9:Option Addr) (x9n x9c:Nat) (x10:Int) (x11:Int) (h:H) :
 A4 PR Af0 C R G6 Tryz.f251 100000 true Q4 [(1,.int .i64 kind),(5,.slice out outn outc),(9,.slice x9 x9n x9c),(10,.int .i64 x10),(11,.int .i64 x11)] h =
 cond (decide (x11<x10))
 (aSome x9 fun p=>ck ((0:Int)≤x11∧x11<(x9n:Int)) (gInt .i64 (Addr.add (B3 p) (Int.toNat x11*1)) h fun x=>cond (x==2)
 (nw (.cells B8 false [.int .i64 kind,.int .i64 x11]) h fun b w=>gCells (some ⟨b,0,none⟩) (1*2) w fun cs=>ckB (fitsOpen out B8 w) (apd B8 2 out outn outc 1 cs w fun a an ac w1=>R G6 Q4 [(1,.int .i64 kind),(5,.slice a an ac),(9,.slice x9 x9n x9c),(10,.int .i64 x10),(11,.int .i64 (IntKind.wrap .i64 (x11+1)))] w1))
 (R G6 Q4 [(1,.int .i64 kind),(5,.slice out outn outc),(9,.slice x9 x9n x9c),(10,.int .i64 x10),(11,.int .i64 (IntKind.wrap .i64 (x11+1)))] h)))
 (some (.slice out outn outc,h)):=by kernel_rfl
def Aq9:Cuts:=⟨0,[(3,[1,5,9,10,11])],[],[]⟩
def A81:List Item:=A5 Tryz.f253
def Z9:List Item:=stk [0,1,0,1,0,0,1,4,5] A81
theorem Ei3 (x:List Value) (kind:Int) (h:H) :
 A4 PR Aq9 C R J5 Tryz.f253 100000 true A81 [(0,.agg ⟨x⟩),(1,.int .i64 kind)] h =
 nw (.cells Ar3 false x) h fun b w=>gSl ⟨b,1,none⟩ w fun z1 xn xc=>R J5 Z9 [(1,.int .i64 kind),(5,.slice none 0 0),(9,.slice z1 xn xc),(10,.int .i64 (xn:Int)),(11,.int .i64 0)] w:=by kernel_rfl
theorem Br7 (kind:Int) (out:Option Addr) (outn outc:Nat) (x9:Option Addr) (x9n x9c:Nat) (x10:Int) (x11:Int) (h:H) :
 A4 PR Aq9 C R J5 Tryz.f253 100000 true Z9 [(1,.int .i64 kind),(5,.slice out outn outc),(9,.slice x9 x9n x9c),(10,.int .i64 x10),(11,.int .i64 x11)] h =
 cond (decide (x11<x10))
 (aSome x9 fun p=>ck ((0:Int)≤x11∧x11<(x9n:Int)) (gInt .i64 (Addr.add (B3 p) (Int.toNat x11*1)) h fun x=>cond (x==2)
 (nw (.cells B8 false [.int .i64 kind,.int .i64 x11]) h fun b w=>gCells (some ⟨b,0,none⟩) (1*2) w fun cs=>ckB (fitsOpen out B8 w) (apd B8 2 out outn outc 1 cs w fun a an ac w1=>R J5 Z9 [(1,.int .i64 kind),(5,.slice a an ac),(9,.slice x9 x9n x9c),(10,.int .i64 x10),(11,.int .i64 (IntKind.wrap .i64 (x11+1)))] w1))
 (R J5 Z9 [(1,.int .i64 kind),(5,.slice out outn outc),(9,.slice x9 x9n x9c),(10,.int .i64 x10),(11,.int .i64 (IntKind.wrap .i64 (x11+1)))] h)))
 (some (.slice out outn outc,h)):=by kernel_rfl
def Ax0:Cuts:=⟨0,[(3,[0,1,2,4,10,11,15,16])],[],[]⟩
def Bk0:List Item:=A5 Tryz.f254
def Am7:List Item:=stk [0,1,0,1,0,0,1,4,5] Bk0
theorem Ev4 (b:Option Addr) (bn bc:Nat) (atv:Int) (size:Int) (n:Int) (decode:Value) (h:H) :
 A4 PR Ax0 C R Q0 Tryz.f254 100000 true Bk0 [(0,.slice b bn bc),(1,.int .i64 atv),(2,.int .i64 size),(3,.int .i64 n),(4,decode)] h =
 nw (.cells W2 false [.slice none 0 0,.slice none 0 0]) h fun p1 w=>nw (.cells W2 false [.slice none 0 0,.slice none 0 0]) w fun p2 w1=>R Q0 Am7 [(0,.slice b bn bc),(1,.int .i64 atv),(2,.int .i64 size),(4,decode),(10,.pointer (some ⟨p1,0,none⟩)),(11,.pointer (some ⟨p2,0,none⟩)),(15,.int .i64 n),(16,.int .i64 0)] w1:=by kernel_rfl
theorem B01 (b:Option Addr) (bn bc:Nat) (atv:Int) (size:Int) (decode:Value) (x10:Addr) (out:Addr) (x15:Int) (x16:Int) (h:H) :
 A4 PR Ax0 C R Q0 Tryz.f254 100000 true Am7 [(0,.slice b bn bc),(1,.int .i64 atv),(2,.int .i64 size),(4,decode),(10,.pointer (some x10)),(11,.pointer (some out)),(15,.int .i64 x15),(16,.int .i64 x16)] h =
 cond (decide (x16<x15))
 (ckB (fitsOpen b A3 h) (ck ((0:Int)≤IntKind.wrap .i64 (atv+(IntKind.wrap .i64 (size*(IntKind.wrap .i64 (x16+1)))))∧IntKind.wrap .i64 (atv+(IntKind.wrap .i64 (size*(IntKind.wrap .i64 (x16+1)))))≤(bc:Int)) (ck ((0:Int)≤IntKind.wrap .i64 (atv+(IntKind.wrap .i64 (size*x16)))∧IntKind.wrap .i64 (atv+(IntKind.wrap .i64 (size*x16)))≤((Int.toNat (IntKind.wrap .i64 (atv+(IntKind.wrap .i64 (size*(IntKind.wrap .i64 (x16+1)))))):Nat):Int)) (aFn decode fun g fi cp=>bnd (C g (fi++([.slice (I0 b (decide (Int.toNat (IntKind.wrap .i64 (atv+(IntKind.wrap .i64 (size*x16))))<bc)) ((Int.toNat (IntKind.wrap .i64 (atv+(IntKind.wrap .i64 (size*x16)))))*1)) ((Int.toNat (IntKind.wrap .i64 (atv+(IntKind.wrap .i64 (size*(IntKind.wrap .i64 (x16+1)))))))-(Int.toNat (IntKind.wrap .i64 (atv+(IntKind.wrap .i64 (size*x16)))))) (bc-(Int.toNat (IntKind.wrap .i64 (atv+(IntKind.wrap .i64 (size*x16))))))]++cp)) h) fun r w=>as2 r fun q1 q2=>aAgg q1 fun x=>aInt .i64 q2 fun z1=>nw (.cells A7 false zz1) w fun p1 w1=>ck (List.length x=16) (pAgg ⟨p1,0,none⟩ x w1 fun w2=>gSl (Addr.add out 0) w2 fun z2 xn xc=>gAgg ⟨p1,0,none⟩ 16 w2 fun z3=>ck (List.length z3=16) (nw (.cells A7 false (z3++[])) w2 fun p2 w3=>gCells (some ⟨p2,0,none⟩) (1*16) w3 fun cs=>ckB (fitsOpen z2 A7 w3) (apd A7 16 z2 xn xc 1 cs w3 fun a an ac w4=>pV (Addr.add out 0) (.slice a an ac) w4 fun w5=>gSl (Addr.add out 1) w5 fun z4 xn_1 xc_1=>nw (.cells A8 false [.int .i64 z1]) w5 fun p3 w6=>gCells (some ⟨p3,0,none⟩) (1*1) w6 fun cs_1=>ckB (fitsOpen z4 A8 w6) (apd A8 1 z4 xn_1 xc_1 1 cs_1 w6 fun a_1 an_1 ac_1 w7=>pV (Addr.add out 1) (.slice a_1 an_1 ac_1) w7 fun w8=>R Q0 Am7 [(0,.slice b bn bc),(1,.int .i64 atv),(2,.int .i64 size),(4,decode),(10,.pointer (some x10)),(11,.pointer (some out)),(15,.int .i64 x15),(16,.int .i64 (IntKind.wrap .i64 (x16+1)))] w8))))))))
 (gAgg out 2 h fun z5=>ck (List.length z5=2) (pAgg x10 z5 h fun w9=>gAgg x10 2 w9 fun z6=>some (.agg ⟨z6⟩,w9))):=by kernel_rfl
def Bm7:Cuts:=⟨0,[(3,[0,1,2,4,10,11,15,16])],[],[]⟩
def Dd0:List Item:=A5 Tryz.f257
def A65:List Item:=stk [0,1,0,1,0,0,1,4,5] Dd0
theorem G52 (b:Option Addr) (bn bc:Nat) (atv:Int) (size:Int) (n:Int) (decode:Value) (h:H) :
 A4 PR Bm7 C R Ad9 Tryz.f257 100000 true Dd0 [(0,.slice b bn bc),(1,.int .i64 atv),(2,.int .i64 size),(3,.int .i64 n),(4,decode)] h =
 nw (.cells Ar3 false [.slice none 0 0,.slice none 0 0]) h fun p1 w=>nw (.cells Ar3 false [.slice none 0 0,.slice none 0 0]) w fun p2 w1=>R Ad9 A65 [(0,.slice b bn bc),(1,.int .i64 atv),(2,.int .i64 size),(4,decode),(10,.pointer (some ⟨p1,0,none⟩)),(11,.pointer (some ⟨p2,0,none⟩)),(15,.int .i64 n),(16,.int .i64 0)] w1:=by kernel_rfl
theorem Dp7 (b:Option Addr) (bn bc:Nat) (atv:Int) (size:Int) (decode:Value) (x10:Addr) (out:Addr) (x15:Int) (x16:Int) (h:H) :
 A4 PR Bm7 C R Ad9 Tryz.f257 100000 true A65 [(0,.slice b bn bc),(1,.int .i64 atv),(2,.int .i64 size),(4,decode),(10,.pointer (some x10)),(11,.pointer (some out)),(15,.int .i64 x15),(16,.int .i64 x16)] h =
 cond (decide (x16<x15))
 (ckB (fitsOpen b A3 h) (ck ((0:Int)≤IntKind.wrap .i64 (atv+(IntKind.wrap .i64 (size*(IntKind.wrap .i64 (x16+1)))))∧IntKind.wrap .i64 (atv+(IntKind.wrap .i64 (size*(IntKind.wrap .i64 (x16+1)))))≤(bc:Int)) (ck ((0:Int)≤IntKind.wrap .i64 (atv+(IntKind.wrap .i64 (size*x16)))∧IntKind.wrap .i64 (atv+(IntKind.wrap .i64 (size*x16)))≤((Int.toNat (IntKind.wrap .i64 (atv+(IntKind.wrap .i64 (size*(IntKind.wrap .i64 (x16+1)))))):Nat):Int)) (aFn decode fun g fi cp=>bnd (C g (fi++([.slice (I0 b (decide (Int.toNat (IntKind.wrap .i64 (atv+(IntKind.wrap .i64 (size*x16))))<bc)) ((Int.toNat (IntKind.wrap .i64 (atv+(IntKind.wrap .i64 (size*x16)))))*1)) ((Int.toNat (IntKind.wrap .i64 (atv+(IntKind.wrap .i64 (size*(IntKind.wrap .i64 (x16+1)))))))-(Int.toNat (IntKind.wrap .i64 (atv+(IntKind.wrap .i64 (size*x16)))))) (bc-(Int.toNat (IntKind.wrap .i64 (atv+(IntKind.wrap .i64 (size*x16))))))]++cp)) h) fun r w=>as2 r fun q1 q2=>aInt .i64 q1 fun x=>aInt .i64 q2 fun z1=>gSl (Addr.add out 0) w fun z2 xn xc=>nw (.cells A8 false [.int .i64 x]) w fun p1 w1=>gCells (some ⟨p1,0,none⟩) (1*1) w1 fun cs=>ckB (fitsOpen z2 A8 w1) (apd A8 1 z2 xn xc 1 cs w1 fun a an ac w2=>pV (Addr.add out 0) (.slice a an ac) w2 fun w3=>gSl (Addr.add out 1) w3 fun z3 xn_1 xc_1=>nw (.cells A8 false [.int .i64 z1]) w3 fun p2 w4=>gCells (some ⟨p2,0,none⟩) (1*1) w4 fun cs_1=>ckB (fitsOpen z3 A8 w4) (apd A8 1 z3 xn_1 xc_1 1 cs_1 w4 fun a_1 an_1 ac_1 w5=>pV (Addr.add out 1) (.slice a_1 an_1 ac_1) w5 fun w6=>R Ad9 A65 [(0,.slice b bn bc),(1,.int .i64 atv),(2,.int .i64 size),(4,decode),(10,.pointer (some x10)),(11,.pointer (some out)),(15,.int .i64 x15),(16,.int .i64 (IntKind.wrap .i64 (x16+1)))] w6))))))
 (gAgg out 2 h fun z4=>ck (List.length z4=2) (pAgg x10 z4 h fun w7=>gAgg x10 2 w7 fun z5=>some (.agg ⟨z5⟩,w7))):=by kernel_rfl
def D20:Cuts:=⟨0,[],[],[]⟩
def E84:List Item:=A5 Tryz.f269
theorem Ht8  (h:H) :
 A4 PR D20 C R Bq8 Tryz.f269 100000 true E84 [] h =
 bnd (C Az6 [.int .i64 8,.func (.func A25) ⟨[]⟩ ⟨[]⟩,.func (.func A30) ⟨[]⟩ ⟨[]⟩] h) fun r w=>aPtr r fun x=>some (.pointer x,w):=by kernel_rfl
def Aq0:Cuts:=⟨0,[],[],[(4,⟨[0,1,2,3,4,10,5,6,7,8,9,11,12],[0,1,3,7,0,16,63,127,255,255,0,1535,4095],[(5,[3])],[]⟩)]⟩
def Be8:List Item:=A5 Tryz.f272
theorem Dp3 (c:Option Addr) (b:Option Addr) (bn bc:Nat) (h:H) :
 A4 PR Aq0 C R Ac7 Tryz.f272 100000 true Be8 [(0,.pointer c),(1,.slice b bn bc)] h =
 nw (.cells D9 false zz4) h fun p1 w=>nw (.cells D9 false zz4) w fun p2 w1=>aSome c fun p=>gFv (Addr.add p 2) w1 fun x=>isNilF x fun p3=>bnd (cond p3 (some (true,w1)) (aSome c fun p_1=>gInt .i64 (Addr.add p_1 0) w1 fun z1=>some ((bn:Int) != z1,w1))) fun c_1 w2=>cond c_1
 (gAgg ⟨p2,0,none⟩ 36 w2 fun z2=>ck (List.length z2=36) (pAgg ⟨p1,0,none⟩ z2 w2 fun w3=>gAgg ⟨p1,0,none⟩ 36 w3 fun z3=>some (.tuple ⟨[.agg ⟨z3⟩,.bool false]⟩,w3)))
 (aSome c fun p_2=>gFv (Addr.add p_2 2) w2 fun z4=>nw (.cells D9 false zz4) w2 fun p4 w4=>bnd (C H6 [.slice b bn bc] w4) fun r w5=>aSl r fun z5 xn xc=>gFv (Addr.add p_2 2) w5 fun z6=>B16 (z4) (z6) (aFn z4 fun g fi cp=>bnd (C g (fi++([.slice z5 xn xc]++cp)) w5) fun q1 w6=>as2 q1 fun q2 q3=>aAgg q2 fun z7=>aBool q3 fun z8=>ck (List.length z7=36) (pAgg ⟨p4,0,none⟩ z7 w6 fun w7=>cond (!z8)
 (gAgg ⟨p2,0,none⟩ 36 w7 fun z9=>ck (List.length z9=36) (pAgg ⟨p1,0,none⟩ z9 w7 fun w8=>gAgg ⟨p1,0,none⟩ 36 w8 fun z10=>some (.tuple ⟨[.agg ⟨z10⟩,.bool false]⟩,w8)))
 (gAgg ⟨p4,0,none⟩ 36 w7 fun z11=>ck (List.length z11=36) (pAgg ⟨p1,0,none⟩ z11 w7 fun w9=>gAgg ⟨p1,0,none⟩ 36 w9 fun z12=>some (.tuple ⟨[.agg ⟨z12⟩,.bool true]⟩,w9)))))):=by kernel_rfl
def Ap9:Cuts:=⟨0,[],[],[(2,⟨[0,1,2,3,4,5,6,7,8,9,10,11,12,13,14],[0,1,3,7,15,31,63,127,255,511,63,63,4095,8191,16383],[],[]⟩)]⟩
def Be9:List Item:=A5 Tryz.f273
theorem Dp0 (c:Option Addr) (v:List Value) (h:H) :
 A4 PR Ap9 C R Ac9 Tryz.f273 100000 true Be9 [(0,.pointer c),(1,.agg ⟨v⟩)] h =
 nw (.cells D9 false v) h fun b w=>aSome c fun p=>gInt .i64 (Addr.add p 0) w fun x=>ck ((0:Int)≤x∧(x:Int)≤x∧x≤(A9:Int)) (nw (.cells A3 false (I6 (Int.toNat x) [.int .u8 0])) w fun p1 w1=>aSome c fun p_1=>gFv (Addr.add p_1 1) w1 fun z1=>isNilF z1 fun p2=>bnd (cond p2 (some (true,w1)) (aSome c fun p_2=>gFv (Addr.add p_2 1) w1 fun z2=>gAgg ⟨b,0,none⟩ 36 w1 fun z3=>aFn z2 fun g fi cp=>bnd (C g (fi++([.agg ⟨z3⟩,.slice (some ⟨p1,0,none⟩) (Int.toNat x) (Int.toNat x)]++cp)) w1) fun r w2=>aBool r fun z4=>some (!z4,w2))) fun c_1 w3=>cond c_1
 (some (.tuple ⟨[.slice none 0 0,.bool false]⟩,w3))
 (some (.tuple ⟨[.slice (some ⟨p1,0,none⟩) (Int.toNat x) (Int.toNat x),.bool true]⟩,w3))):=by kernel_rfl
def Bl6:Cuts:=⟨0,[],[],[]⟩
def Dh2:List Item:=A5 Tryz.f283
theorem E18 (g:Int) (h:H) :
 A4 PR Bl6 C R A04 Tryz.f283 100000 true Dh2 [(0,.int .i64 g)] h =
 bnd (cond (decide (g<0)) (some (true,h)) (some (decide (g≥8),h))) fun c w=>cond c
 (some (.tuple ⟨[.slice none 0 0,.bool false]⟩,w))
 (nw (.cells A3 false [.int .u8 (IntKind.wrap .u8 (g)),.int .u8 211]) w fun b w1=>bnd (C Ai0 [.slice (some ⟨b,0,none⟩) 2 2] w1) fun r w2=>aInt .u8 r fun x=>nw (.cells A3 false [.int .u8 x,.int .u8 0]) w2 fun p1 w3=>gCells (some ⟨p1,0,none⟩) (2*1) w3 fun cs=>ckB (fitsOpen (some ⟨b,0,none⟩) A3 w3) (apd A3 1 (some ⟨b,0,none⟩) 2 2 2 cs w3 fun a an ac w4=>some (.tuple ⟨[.slice a an ac,.bool true]⟩,w4))):=by kernel_rfl
def Dr7:Cuts:=⟨0,[],[],[]⟩
def Ew2:List Item:=A5 Tryz.f285
theorem Hg9 (s:Int) (fv0:Addr) (h:H) :
 A4 PR Dr7 C R I2 Tryz.f285 100000 true Ew2 [(0,.int .i64 s),(1,.pointer (some fv0))] h =
 bnd (cond (decide (s<0)) (some (true,h)) (gSl (Addr.add fv0 0) h fun _ xn _=>some (decide (s≥(xn:Int)),h))) fun c w=>some (.bool c,w):=by kernel_rfl
def A70:Cuts:=⟨0,[(3,[3,15,16])],[],[]⟩
def Bt3:List Item:=A5 Tryz.f287
def At8:List Item:=stk [0,1,0,1,0,0,1,4,5] Bt3
theorem Ga6 (size:Int) (h:H) :
 A4 PR A70 C R V6 Tryz.f287 100000 true Bt3 [(0,.int .i64 size)] h =
 ck ((0:Int)≤mm2 false (mm2 true size 0) 256∧(mm2 false (mm2 true size 0) 256:Int)≤mm2 false (mm2 true size 0) 256∧mm2 false (mm2 true size 0) 256≤(A9:Int)) (nw (.cells Aw5 false (I6 (Int.toNat (mm2 false (mm2 true size 0) 256)) [.int .i64 0,.int .i64 0,.int .i64 0,.int .i64 0,.int .i64 0,.int .i64 0,.int .i64 0,.bool false])) h fun b w=>nw (.cells Dg1 false [.slice (some ⟨b,0,none⟩) (Int.toNat (mm2 false (mm2 true size 0) 256)) (Int.toNat (mm2 false (mm2 true size 0) 256))]) w fun p1 w1=>gSl ⟨p1,0,none⟩ w1 fun _ xn _=>R V6 At8 [(3,.pointer (some ⟨p1,0,none⟩)),(15,.int .i64 (xn:Int)),(16,.int .i64 0)] w1):=by kernel_rfl
theorem B83 (t:Addr) (x15:Int) (x16:Int) (h:H) :
 A4 PR A70 C R V6 Tryz.f287 100000 true At8 [(3,.pointer (some t)),(15,.int .i64 x15),(16,.int .i64 x16)] h =
 cond (decide (x16<x15))
 (gSl (Addr.add t 0) h fun x xn _=>aSome x fun p=>ck ((0:Int)≤x16∧x16<(xn:Int)) (pV (Addr.add (Addr.add (B3 p) (Int.toNat x16*8)) 6) (.int .i64 1) h fun w=>R V6 At8 [(3,.pointer (some t)),(15,.int .i64 x15),(16,.int .i64 (IntKind.wrap .i64 (x16+1)))] w))
 (some (.pointer (some t),h)):=by kernel_rfl
def Du5:Cuts:=⟨0,[],[],[]⟩
def Ew7:List Item:=A5 Tryz.f288
theorem Hi2 (m:Option Addr) (h:H) :
 A4 PR Du5 C R Bh3 Tryz.f288 100000 true Ew7 [(0,.pointer m)] h =
 aSome m fun p=>gSl (Addr.add p 0) h fun _ xn _=>some (.int .i64 (xn:Int),h):=by kernel_rfl
def Bx0:Cuts:=⟨0,[],[],[]⟩
def D11:List Item:=A5 Tryz.f301
theorem Gi6 (q:Option Addr) (s:Int) (k:Int) (h:H) :
 A4 PR Bx0 C R Bb7 Tryz.f301 100000 true D11 [(0,.pointer q),(1,.int .i64 s),(2,.int .i64 k)] h =
 bnd (C As4 [.pointer q,.int .i64 s] h) fun r w=>aBool r fun x=>bnd (cond x (some (decide (k≥0),w)) (some (false,w))) fun c w1=>bnd (cond c (aSome q fun p=>gSl (Addr.add p 0) w1 fun z1 xn _=>aSome z1 fun p_1=>ck ((0:Int)≤s∧s<(xn:Int)) (gSl (Addr.add (B3 p_1) (Int.toNat s*1)) w1 fun _ xn_1 _=>some (decide (k<(xn_1:Int)),w1))) (some (false,w1))) fun c_1 w2=>bnd (cond c_1 (aSome q fun p_2=>gSl (Addr.add p_2 0) w2 fun z3 xn_2 _=>aSome z3 fun p_3=>ck ((0:Int)≤s∧s<(xn_2:Int)) (gSl (Addr.add (B3 p_3) (Int.toNat s*1)) w2 fun z4 xn_3 _=>aSome z4 fun p_4=>ck ((0:Int)≤k∧k<(xn_3:Int)) (gInt .i64 (Addr.add (B3 p_4) (Int.toNat k*1)) w2 fun z5=>some (decide (z5>0),w2)))) (some (false,w2))) fun c_2 w3=>some (.bool c_2,w3):=by kernel_rfl
def Aa8:Cuts:=⟨0,[(18,[0,1,2])],[(10,[0,1,2]),(11,[0,1,2]),(14,[0,1,2]),(17,[])],[(11,⟨[0,1,2,3,4,5,6,7,8,9,10,11,12,13,14,15,16],[0,1,3,7,15,31,31,95,223,479,1023,31,2079,6175,14367,32767,65535],[],[]⟩),(18,⟨[0,1,2,3,4,5,6,7,8,9,10,11,12,13,14,15,16,17,18,19,20],[0,1,3,7,15,31,0,127,255,511,511,1535,3583,7679,16383,511,33279,98815,229887,524287,1048575],[],[]⟩)]⟩
def Af9:List Item:=A5 Tryz.f303
def A16:List Item:=stk [0,1,0,1,0,1,0,1,0,1,0,0,1,2,0,1] Af9
def A18:List Item:=stk [0,1,0,1,0,1,0,1,0,1,0,1,0,0] Af9
def Az1:List Item:=stk [0,1,0,1,0,1,0,1,0,1,0,1,0,1,0,0] Af9
def A21:List Item:=stk [0,1,0,1,0,1,0,1,0,1,0,1,0,1,0,0,1,2,0,1,0] Af9
def Am9:List Item:=stk [0,1,0,1,0,1,0,1,0,1,0,1,0,1,0,1,0,4,5] Af9
theorem Gr3 (s:Option Addr) (who:Int) (now:Int) (h:H) :
 A4 PR Aa8 C R D1 Tryz.f303 100000 true Af9 [(0,.pointer s),(1,.int .i64 who),(2,.int .i64 now)] h =
 aSome s fun p=>gInt .i64 (Addr.add p 7) h fun x=>bnd (cond (decide (who<0)) (some (true,h)) (some (decide (who>99),h))) fun c w=>cond c
 (some (.tuple ⟨[.int .i64 0,.bool false]⟩,w))
 (aSome s fun p_1=>pV (Addr.add p_1 7) (.int .i64 (mm2 true now x)) w fun w1=>aSome s fun p_2=>gBool (Addr.add p_2 1) w1 fun z1=>bnd (cond z1 (aSome s fun p_3=>gInt .i64 (Addr.add p_3 2) w1 fun z2=>some (z2==who,w1)) (some (false,w1))) fun c_1 w2=>cond c_1
 (aSome s fun p_4=>gInt .i64 (Addr.add p_4 3) w2 fun z3=>some (.tuple ⟨[.int .i64 z3,.bool true]⟩,w2))
 (aSome s fun p_5=>gSl (Addr.add p_5 5) w2 fun z4 xn xc=>bnd (C P9 [.slice z4 xn xc,.int .i64 who] w2) fun r w3=>aBool r fun z5=>cond (!z5)
 (aSome s fun p_6=>gSl (Addr.add p_6 5) w3 fun _ xn_1 _=>cond ((xn_1:Int)==0)
 (aSome s fun p_7=>pV (Addr.add p_7 6) (.int .i64 (mm2 true now x)) w3 fun w4=>R D1 A16 [(0,.pointer s),(1,.int .i64 who),(2,.int .i64 (mm2 true now x))] w4)
 (R D1 A16 [(0,.pointer s),(1,.int .i64 who),(2,.int .i64 (mm2 true now x))] w3))
 (R D1 A18 [(0,.pointer s),(1,.int .i64 who),(2,.int .i64 (mm2 true now x))] w3))):=by kernel_rfl
theorem E05 (s:Option Addr) (who:Int) (now:Int) (h:H) :
 A4 PR Aa8 C R D1 Tryz.f303 100000 true A16 [(0,.pointer s),(1,.int .i64 who),(2,.int .i64 now)] h =
 aSome s fun p=>gSl (Addr.add p 5) h fun x xn xc=>nw (.cells A8 false [.int .i64 who]) h fun b w=>gCells (some ⟨b,0,none⟩) (1*1) w fun cs=>ckB (fitsOpen x A8 w) (apd A8 1 x xn xc 1 cs w fun a an ac w1=>aSome s fun p_1=>pV (Addr.add p_1 5) (.slice a an ac) w1 fun w2=>R D1 A18 [(0,.pointer s),(1,.int .i64 who),(2,.int .i64 now)] w2):=by kernel_rfl
theorem E65 (s:Option Addr) (who:Int) (now:Int) (h:H) :
 A4 PR Aa8 C R D1 Tryz.f303 100000 true A18 [(0,.pointer s),(1,.int .i64 who),(2,.int .i64 now)] h =
 aSome s fun p=>gBool (Addr.add p 1) h fun x=>bnd (cond x (aSome s fun p_1=>gInt .i64 (Addr.add p_1 4) h fun z1=>aSome s fun p_2=>gInt .i64 (Addr.add p_2 0) h fun z2=>some (decide ((IntKind.wrap .i64 (now-z1))≥z2),h)) (some (false,h))) fun c w=>cond c
 (aSome s fun p_3=>pV (Addr.add p_3 1) (.bool false) w fun w1=>aSome s fun p_4=>pV (Addr.add p_4 6) (.int .i64 now) w1 fun w2=>R D1 Az1 [(0,.pointer s),(1,.int .i64 who),(2,.int .i64 now)] w2)
 (R D1 Az1 [(0,.pointer s),(1,.int .i64 who),(2,.int .i64 now)] w):=by kernel_rfl
theorem Ey5 (s:Option Addr) (who:Int) (now:Int) (h:H) :
 A4 PR Aa8 C R D1 Tryz.f303 100000 true Az1 [(0,.pointer s),(1,.int .i64 who),(2,.int .i64 now)] h =
 aSome s fun p=>gBool (Addr.add p 1) h fun x=>cond x
 (aSome s fun p_1=>gSl (Addr.add p_1 5) h fun z1 xn _=>aSome z1 fun p_2=>ck ((0:Int)≤0∧0<(xn:Int)) (gInt .i64 (Addr.add (B3 p_2) (Int.toNat 0*1)) h fun z2=>cond (z2==who)
 (aSome s fun p_3=>pV (Addr.add p_3 6) (.int .i64 now) h fun w=>R D1 A21 [] w)
 (R D1 A21 [] h)))
 (R D1 Am9 [(0,.pointer s),(1,.int .i64 who),(2,.int .i64 now)] h):=by kernel_rfl
theorem Ex8  (h:H) :
 A4 PR Aa8 C R D1 Tryz.f303 100000 true A21 [] h =
 some (.tuple ⟨[.int .i64 0,.bool false]⟩,h):=by kernel_rfl
theorem Dh3 (s:Option Addr) (who:Int) (now:Int) (h:H) :
 A4 PR Aa8 C R D1 Tryz.f303 100000 true Am9 [(0,.pointer s),(1,.int .i64 who),(2,.int .i64 now)] h =
 aSome s fun p=>gSl (Addr.add p 5) h fun x xn _=>aSome x fun p_1=>ck ((0:Int)≤0∧0<(xn:Int)) (gInt .i64 (Addr.add (B3 p_1) (Int.toNat 0*1)) h fun z1=>bnd (cond (z1 != who) (aSome s fun p_2=>gInt .i64 (Addr.add p_2 6) h fun z2=>aSome s fun p_3=>gInt .i64 (Addr.add p_3 0) h fun z3=>some (decide ((IntKind.wrap .i64 (now-z2))≥z3),h)) (some (false,h))) fun c w=>cond c
 (aSome s fun p_4=>gSl (Addr.add p_4 5) w fun z4 xn_1 xc_1=>ckB (fitsOpen z4 A8 w) (ck ((0:Int)≤1∧1≤(xn_1:Int)) (aSome s fun p_5=>pV (Addr.add p_5 5) (.slice (I0 z4 (decide (Int.toNat 1<xc_1)) ((Int.toNat 1)*1)) (xn_1-(Int.toNat 1)) (xc_1-(Int.toNat 1))) w fun w1=>aSome s fun p_6=>pV (Addr.add p_6 6) (.int .i64 now) w1 fun w2=>R D1 Am9 [(0,.pointer s),(1,.int .i64 who),(2,.int .i64 now)] w2)))
 (aSome s fun p_7=>gSl (Addr.add p_7 5) w fun z5 xn_2 _=>aSome z5 fun p_8=>ck ((0:Int)≤0∧0<(xn_2:Int)) (gInt .i64 (Addr.add (B3 p_8) (Int.toNat 0*1)) w fun z6=>cond (z6 != who)
 (some (.tuple ⟨[.int .i64 0,.bool false]⟩,w))
 (aSome s fun p_9=>gSl (Addr.add p_9 5) w fun z7 xn_3 xc_3=>ckB (fitsOpen z7 A8 w) (ck ((0:Int)≤1∧1≤(xn_3:Int)) (aSome s fun p_10=>pV (Addr.add p_10 5) (.slice (I0 z7 (decide (Int.toNat 1<xc_3)) ((Int.toNat 1)*1)) (xn_3-(Int.toNat 1)) (xc_3-(Int.toNat 1))) w fun w3=>aSome s fun p_11=>pV (Addr.add p_11 6) (.int .i64 now) w3 fun w4=>aSome s fun p_12=>gInt .i64 (Addr.add p_12 8) w4 fun z8=>aSome s fun p_13=>pV (Addr.add p_13 8) (.int .i64 (IntKind.wrap .i64 (z8+1))) w4 fun w5=>aSome s fun p_14=>gInt .i64 (Addr.add p_14 8) w5 fun z9=>aSome s fun p_15=>pV (Addr.add p_15 1) (.bool true) w5 fun w6=>aSome s fun p_16=>pV (Addr.add p_16 2) (.int .i64 who) w6 fun w7=>aSome s fun p_17=>pV (Addr.add p_17 3) (.int .i64 z9) w7 fun w8=>aSome s fun p_18=>pV (Addr.add p_18 4) (.int .i64 now) w8 fun w9=>aSome s fun p_19=>gInt .i64 (Addr.add p_19 3) w9 fun z10=>some (.tuple ⟨[.int .i64 z10,.bool true]⟩,w9))))))):=by kernel_rfl
def E22:Cuts:=⟨0,[],[],[]⟩
def Hd8:List Item:=A5 Tryz.f310
theorem Iq4 (p:List Value) (h:H) :
 A4 PR E22 C R D55 Tryz.f310 100000 true Hd8 [(0,.agg ⟨p⟩)] h =
 nw (.cells A7 false p) h fun b w=>gInt .i64 ⟨b,0,none⟩ w fun x=>bnd (cond (decide (x<1)) (some (true,w)) (gInt .i64 ⟨b,0,none⟩ w fun z1=>some (decide (z1>3),w))) fun c w1=>bnd (cond c (some (true,w1)) (gInt .i64 ⟨b,1,none⟩ w1 fun z2=>some (decide (z2<0),w1))) fun c_1 w2=>bnd (cond c_1 (some (true,w2)) (gInt .i64 ⟨b,1,none⟩ w2 fun z3=>some (decide (z3>8),w2))) fun c_2 w3=>bnd (cond c_2 (some (true,w3)) (gInt .i64 ⟨b,2,none⟩ w3 fun z4=>some (decide (z4<0),w3))) fun c_3 w4=>bnd (cond c_3 (some (true,w4)) (gInt .i64 ⟨b,2,none⟩ w4 fun z5=>some (decide (z5≥8),w4))) fun c_4 w5=>bnd (cond c_4 (some (true,w5)) (gInt .i64 ⟨b,3,none⟩ w5 fun z6=>some (decide (z6<0),w5))) fun c_5 w6=>bnd (cond c_5 (some (true,w6)) (gInt .i64 ⟨b,3,none⟩ w6 fun z7=>some (decide (z7>255),w6))) fun c_6 w7=>cond c_6
 (some (.bool false,w7))
 (gInt .i64 ⟨b,4,none⟩ w7 fun z8=>bnd (C Av1 [.int .i64 z8,.int .i64 0] w7) fun r w8=>aBool r fun z9=>bnd (cond (!z9) (some (true,w8)) (gInt .i64 ⟨b,5,none⟩ w8 fun z10=>bnd (C Av1 [.int .i64 z10,.int .i64 16896] w8) fun q1 w9=>aBool q1 fun z11=>some (!z11,w9))) fun c_7 w10=>bnd (cond c_7 (some (true,w10)) (gInt .i64 ⟨b,6,none⟩ w10 fun z12=>bnd (C Av1 [.int .i64 z12,.int .i64 16896] w10) fun q2 w11=>aBool q2 fun z13=>some (!z13,w11))) fun c_8 w12=>bnd (cond c_8 (some (true,w12)) (gInt .i64 ⟨b,7,none⟩ w12 fun z14=>bnd (C Av1 [.int .i64 z14,.int .i64 16896] w12) fun q3 w13=>aBool q3 fun z15=>some (!z15,w13))) fun c_9 w14=>bnd (cond c_9 (some (true,w14)) (gInt .i64 ⟨b,6,none⟩ w14 fun z16=>gInt .i64 ⟨b,7,none⟩ w14 fun z17=>some ((O1 .i64 z16 z17) != 0,w14))) fun c_10 w15=>cond c_10
 (some (.bool false,w15))
 (ckB (liveA ⟨b,8,none⟩ w15) (bnd (C E3 [.slice (I0 (some ⟨b,8,none⟩) (decide (0<8)) (0*1)) (8-0) (8-0),.func (.func Bw7) ⟨[]⟩ ⟨[]⟩] w15) fun q4 w16=>aBool q4 fun z18=>cond z18
 (some (.bool false,w16))
 (gInt .i64 ⟨b,0,none⟩ w16 fun z19=>cond (z19==2)
 (gInt .i64 ⟨b,4,none⟩ w16 fun z20=>bnd (cond (z20==0) (gAgg ⟨b,8,none⟩ 8 w16 fun z21=>Dw0 PR Hg5 z21 [.int .i64 0,.int .i64 0,.int .i64 0,.int .i64 0,.int .i64 0,.int .i64 0,.int .i64 0,.int .i64 0] fun eq=>some (eq,w16)) (some (false,w16))) fun c_11 w17=>some (.bool c_11,w17))
 (gInt .i64 ⟨b,3,none⟩ w16 fun z22=>some (.bool (z22==0),w16)))))):=by kernel_rfl
def Ec5:Cuts:=⟨0,[],[],[]⟩
def Ge7:List Item:=A5 Tryz.f311
theorem Ia3 (b:Option Addr) (bn bc:Nat) (atv:Int) (n:Int) (h:H) :
 A4 PR Ec5 C R B03 Tryz.f311 100000 true Ge7 [(0,.slice b bn bc),(1,.int .i64 atv),(2,.int .i64 n)] h =
 bnd (cond (decide (atv<0)) (some (true,h)) (some (decide (atv>(IntKind.wrap .i64 ((bn:Int)-2))),h))) fun c w=>bnd (cond c (some (true,w)) (some (decide (n<0),w))) fun c_1 w1=>bnd (cond c_1 (some (true,w1)) (some (decide (n>65535),w1))) fun c_2 w2=>cond c_2
 (some (.bool false,w2))
 (aSome b fun p=>ck ((0:Int)≤atv∧atv<(bn:Int)) (pV (Addr.add (B3 p) (Int.toNat atv*1)) (.int .u8 (IntKind.wrap .u8 (Int.fdiv n (2 ^ 8)))) w2 fun w3=>aSome b fun p_1=>ck ((0:Int)≤IntKind.wrap .i64 (atv+1)∧IntKind.wrap .i64 (atv+1)<(bn:Int)) (pV (Addr.add (B3 p_1) (Int.toNat (IntKind.wrap .i64 (atv+1))*1)) (.int .u8 (IntKind.wrap .u8 (n))) w3 fun w4=>some (.bool true,w4)))):=by kernel_rfl
def Bm6:Cuts:=⟨0,[],[],[]⟩
def Dg4:List Item:=A5 Tryz.f323
theorem E15 (size:Int) (put:Value) (get:Value) (h:H) :
 A4 PR Bm6 C R Az6 Tryz.f323 100000 true Dg4 [(0,.int .i64 size),(1,put),(2,get)] h =
 one put (one get (nw (.cells At7 false [.int .i64 (mm2 false (mm2 true size 0) 64),put,get]) h fun b w=>some (.pointer (some ⟨b,0,none⟩),w))):=by kernel_rfl
def E73:Cuts:=⟨0,[],[],[(1,⟨[0,1,2,3,4,5,6,7,8,9,10,11,12,13,14,15,16,17,18],[0,1,3,7,0,16,48,112,0,256,768,1792,0,4096,12288,28672,65535,0,262143],[],[]⟩),(2,⟨[0,1,2,3,4],[0,1,0,4,15],[],[]⟩),(4,⟨[0,1,2,3,4,5,6,7,8],[0,0,2,6,6,30,62,63,255],[(5,[0])],[]⟩)]⟩
def G87:List Item:=A5 Tryz.f328
theorem Iv7 (b:Option Addr) (bn bc:Nat) (h:H) :
 A4 PR E73 C R B36 Tryz.f328 100000 true G87 [(0,.slice b bn bc)] h =
 nw (.cells D9 false zz4) h fun p1 w=>aSome b fun p=>ck ((0:Int)≤1∧1<(bn:Int)) (gInt .u8 (Addr.add (B3 p) (Int.toNat 1*1)) w fun x=>aSome b fun p_1=>ck ((0:Int)≤2∧2<(bn:Int)) (gInt .u8 (Addr.add (B3 p_1) (Int.toNat 2*1)) w fun z1=>aSome b fun p_2=>ck ((0:Int)≤3∧3<(bn:Int)) (gInt .u8 (Addr.add (B3 p_2) (Int.toNat 3*1)) w fun z2=>aSome b fun p_3=>ck ((0:Int)≤4∧4<(bn:Int)) (gInt .u8 (Addr.add (B3 p_3) (Int.toNat 4*1)) w fun z3=>nw (.cells D9 false zz4) w fun p2 w1=>pAgg ⟨p2,0,none⟩ [.int .i64 (IntKind.wrap .i64 (x)),.int .i64 (IntKind.wrap .i64 (z1)),.int .i64 (IntKind.wrap .i64 (z2)),.int .i64 (IntKind.wrap .i64 (z3)),.int .u8 0,.int .u8 0,.int .u8 0,.int .u8 0,.int .u8 0,.int .u8 0,.int .u8 0,.int .u8 0,.int .u8 0,.int .u8 0,.int .u8 0,.int .u8 0,.int .u8 0,.int .u8 0,.int .u8 0,.int .u8 0,.int .u8 0,.int .u8 0,.int .u8 0,.int .u8 0,.int .u8 0,.int .u8 0,.int .u8 0,.int .u8 0,.int .u8 0,.int .u8 0,.int .u8 0,.int .u8 0,.int .u8 0,.int .u8 0,.int .u8 0,.int .u8 0] w1 fun w2=>ckB (liveA ⟨p2,4,none⟩ w2) (ckB (fitsOpen b A3 w2) (ck ((0:Int)≤8∧8≤(bn:Int)) (gCells (I0 b (decide (Int.toNat 8<bc)) ((Int.toNat 8)*1)) (min (bn-(Int.toNat 8)) (32-0)*1) w2 fun cs=>pCells (I0 (some ⟨p2,4,none⟩) (decide (0<32)) (0*1)) cs w2 fun w3=>gAgg ⟨p2,0,none⟩ 36 w3 fun z4=>bnd (C Bs0 [.agg ⟨z4⟩] w3) fun r w4=>as2 r fun q1 q2=>aSl q1 fun z5 xn xc=>aBool q2 fun z6=>gAgg ⟨p2,0,none⟩ 36 w4 fun z7=>bnd (cond z6 (bnd (C D7 [.slice z5 xn xc,.slice b bn bc] w4) fun q3 w5=>aBool q3 fun z8=>gAgg ⟨p2,0,none⟩ 36 w5 fun z9=>same (.agg ⟨z7⟩) (.agg ⟨z9⟩) (some (z8,w5))) (some (false,w4))) fun c w6=>ck (List.length z7=36) (pAgg ⟨p1,0,none⟩ z7 w6 fun w7=>gAgg ⟨p1,0,none⟩ 36 w7 fun z10=>some (.tuple ⟨[.agg ⟨z10⟩,.bool c]⟩,w7))))))))):=by kernel_rfl
def A59:Cuts:=⟨0,[],[],[]⟩
def Bz6:List Item:=A5 Tryz.f336
theorem Ec4 (t:Option Addr) (name:Int) (h:H) :
 A4 PR A59 C R Am8 Tryz.f336 100000 true Bz6 [(0,.pointer t),(1,.int .i64 name)] h =
 bnd (cond (decide (name<0)) (some (true,h)) (aSome t fun p=>gSl (Addr.add p 0) h fun _ xn _=>some (decide ((O1 .i64 name 255)≥(xn:Int)),h))) fun c w=>bnd (cond c (some (true,w)) (aSome t fun p_1=>gSl (Addr.add p_1 0) w fun z1 xn_1 _=>aSome z1 fun p_2=>ck ((0:Int)≤O1 .i64 name 255∧O1 .i64 name 255<(xn_1:Int)) (gBool (Addr.add (Addr.add (B3 p_2) (Int.toNat (O1 .i64 name 255)*8)) 7) w fun z2=>some (!z2,w)))) fun c_1 w1=>bnd (cond c_1 (some (true,w1)) (bnd (C Q8 [.pointer t,.int .i64 (O1 .i64 name 255)] w1) fun r w2=>aInt .i64 r fun z3=>some (z3 != name,w2))) fun c_2 w3=>cond c_2
 (some (.pointer none,w3))
 (aSome t fun p_3=>gSl (Addr.add p_3 0) w3 fun z4 xn_2 _=>aSome z4 fun p_4=>ck ((0:Int)≤O1 .i64 name 255∧O1 .i64 name 255<(xn_2:Int)) (some (.pointer (some (Addr.add (B3 p_4) (Int.toNat (O1 .i64 name 255)*8))),w3))):=by kernel_rfl
def B48:Cuts:=⟨0,[],[],[]⟩
def D43:List Item:=A5 Tryz.f337
theorem Gt3 (s:Option Addr) (who:Int) (stamp:Int) (h:H) :
 A4 PR B48 C R Bf4 Tryz.f337 100000 true D43 [(0,.pointer s),(1,.int .i64 who),(2,.int .i64 stamp)] h =
 aSome s fun p=>gBool (Addr.add p 1) h fun x=>bnd (cond x (aSome s fun p_1=>gInt .i64 (Addr.add p_1 2) h fun z1=>some (z1==who,h)) (some (false,h))) fun c w=>bnd (cond c (aSome s fun p_2=>gInt .i64 (Addr.add p_2 3) w fun z2=>some (z2==stamp,w)) (some (false,w))) fun c_1 w1=>some (.bool c_1,w1):=by kernel_rfl
def Ei1:Cuts:=⟨0,[],[],[]⟩
def Ge8:List Item:=A5 Tryz.f338
theorem Hz1 (n:Int) (without:Int) (h:H) :
 A4 PR Ei1 C R Av1 Tryz.f338 100000 true Ge8 [(0,.int .i64 n),(1,.int .i64 without)] h =
 bnd (cond ((Au4 .i64 n 65534)==0) (some ((O1 .i64 n without)==0,h)) (some (false,h))) fun c w=>some (.bool c,w):=by kernel_rfl
def E21:Cuts:=⟨0,[],[],[]⟩
def G83:List Item:=A5 Tryz.f340
theorem It9 (f:List Value) (h:H) :
 A4 PR E21 C R D61 Tryz.f340 100000 true G83 [(0,.agg ⟨f⟩)] h =
 nw (.cells D2 false f) h fun b w=>gInt .i64 ⟨b,0,none⟩ w fun x=>bnd (cond (decide (x≥1)) (gInt .i64 ⟨b,0,none⟩ w fun z1=>some (decide (z1≤3),w)) (some (false,w))) fun c w1=>bnd (cond c (gInt .i64 ⟨b,1,none⟩ w1 fun z2=>some (decide (z2≥0),w1)) (some (false,w1))) fun c_1 w2=>bnd (cond c_1 (gInt .i64 ⟨b,1,none⟩ w2 fun z3=>some (decide (z3≤7),w2)) (some (false,w2))) fun c_2 w3=>bnd (cond c_2 (gInt .i64 ⟨b,0,none⟩ w3 fun z4=>bnd (cond (z4 != 3) (some (true,w3)) (gInt .i64 ⟨b,1,none⟩ w3 fun z5=>some (z5==0,w3))) fun c_3 w4=>some (c_3,w4)) (some (false,w3))) fun c_4 w5=>bnd (cond c_4 (gInt .i64 ⟨b,2,none⟩ w5 fun z6=>some (decide (z6≥1),w5)) (some (false,w5))) fun c_5 w6=>bnd (cond c_5 (gInt .i64 ⟨b,2,none⟩ w6 fun z7=>some (decide (z7≤64),w6)) (some (false,w6))) fun c_6 w7=>bnd (cond c_6 (gInt .i64 ⟨b,3,none⟩ w7 fun z8=>bnd (cond (z8==0) (some (true,w7)) (gInt .i64 ⟨b,3,none⟩ w7 fun z9=>some (z9==1,w7))) fun c_7 w8=>some (c_7,w8)) (some (false,w7))) fun c_8 w9=>some (.bool c_8,w9):=by kernel_rfl
end
end Go.EQ
