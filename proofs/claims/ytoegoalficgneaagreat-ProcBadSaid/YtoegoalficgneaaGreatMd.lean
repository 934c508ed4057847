/- A process whose own record is bad is told EIO whatever it asks, and nobody's record is changed by it. -/
import Derived.Test.YtoegoalficgneaaGreatMc
import Derived.Test.YtoegoalficgneaaGreatProg
import Derived.KernelRfl
set_option linter.all false
namespace Go.EQ
open Go Go.NN Go.Proofs
noncomputable abbrev PR:Program:=Tryz.prog
abbrev D6:FuncId:=4
abbrev W8:FuncId:=8
abbrev Bi6:FuncId:=9
abbrev A53:FuncId:=10
abbrev Hi6:FuncId:=11
abbrev Bx2:FuncId:=12
abbrev I9:FuncId:=13
abbrev B02:FuncId:=14
abbrev N5:FuncId:=15
abbrev Ah8:FuncId:=16
abbrev V3:FuncId:=17
abbrev Dt6:FuncId:=18
abbrev Ac2:FuncId:=19
abbrev Ah7:FuncId:=20
abbrev D0:FuncId:=21
abbrev Dj1:FuncId:=22
abbrev Ab8:FuncId:=23
abbrev Bp1:FuncId:=33
abbrev B64:FuncId:=34
abbrev N7:FuncId:=35
abbrev V0:FuncId:=36
abbrev Ae6:FuncId:=37
abbrev Bh5:FuncId:=38
abbrev Aq9:FuncId:=39
abbrev Q8:FuncId:=40
abbrev Aw0:FuncId:=41
abbrev G7:FuncId:=42
abbrev Av6:FuncId:=43
abbrev V4:FuncId:=44
abbrev G13:FuncId:=48
abbrev L7:FuncId:=50
abbrev Aw2:FuncId:=51
abbrev Aw3:FuncId:=52
abbrev Bc2:FuncId:=53
abbrev Ai1:FuncId:=54
abbrev I2:FuncId:=55
abbrev Aa9:FuncId:=56
abbrev Ah5:FuncId:=57
abbrev Ai4:FuncId:=58
abbrev Ag8:FuncId:=59
abbrev Y9:FuncId:=60
abbrev Eg5:FuncId:=61
abbrev D55:FuncId:=62
abbrev Bq2:FuncId:=63
abbrev Gl2:FuncId:=64
abbrev Du6:FuncId:=65
abbrev L5:FuncId:=66
abbrev B8:FuncId:=67
abbrev A94:FuncId:=68
abbrev U7:FuncId:=69
abbrev Hd5:FuncId:=70
abbrev O2:FuncId:=71
abbrev Ag5:FuncId:=72
abbrev Bh7:FuncId:=73
abbrev A74:FuncId:=74
abbrev U9:FuncId:=80
abbrev An2:FuncId:=82
abbrev Af4:FuncId:=84
abbrev N3:FuncId:=90
abbrev J6:FuncId:=100
abbrev I5:FuncId:=101
abbrev G5:FuncId:=102
abbrev Bz5:FuncId:=103
abbrev A09:FuncId:=104
abbrev A66:FuncId:=105
abbrev A07:FuncId:=106
abbrev Az1:FuncId:=107
abbrev As7:FuncId:=108
abbrev Ex9:FuncId:=109
abbrev E06:FuncId:=110
abbrev Ey0:FuncId:=111
abbrev E87:FuncId:=112
abbrev Gd9:FuncId:=113
abbrev D84:FuncId:=114
abbrev Ge4:FuncId:=115
abbrev Ge9:FuncId:=116
abbrev Ae5:FuncId:=117
abbrev A82:FuncId:=118
abbrev O1:FuncId:=119
abbrev P6:FuncId:=123
abbrev Aq6:FuncId:=124
abbrev Bh9:FuncId:=125
abbrev W1:FuncId:=126
abbrev Af8:FuncId:=127
abbrev Z0:FuncId:=128
abbrev At2:FuncId:=129
abbrev D2:FuncId:=136
abbrev At3:FuncId:=140
abbrev An5:FuncId:=143
abbrev Ak8:FuncId:=144
abbrev Bo1:FuncId:=145
abbrev H1:FuncId:=146
abbrev Ak7:FuncId:=148
abbrev L1:FuncId:=157
abbrev Bb1:FuncId:=158
abbrev Aw4:FuncId:=159
abbrev I7:FuncId:=160
abbrev Bs4:FuncId:=161
abbrev Aq5:FuncId:=162
abbrev B01:FuncId:=163
abbrev Bb3:FuncId:=164
abbrev H9:FuncId:=165
abbrev Ap4:FuncId:=175
abbrev Ac6:FuncId:=176
abbrev Ar4:FuncId:=183
abbrev U5:FuncId:=190
abbrev Bg9:FuncId:=191
abbrev Y2:FuncId:=192
abbrev D42:FuncId:=193
abbrev A25:FuncId:=194
abbrev Av2:FuncId:=195
abbrev Da7:FuncId:=196
abbrev Dt8:FuncId:=197
abbrev At8:FuncId:=198
abbrev P8:FuncId:=199
abbrev Bf8:FuncId:=200
abbrev Ab1:FuncId:=201
abbrev O9:FuncId:=202
abbrev Ab0:FuncId:=203
abbrev Bs8:FuncId:=204
abbrev A24:FuncId:=205
abbrev Bb5:FuncId:=206
abbrev Bc0:FuncId:=207
abbrev Ar0:FuncId:=208
abbrev Ao4:FuncId:=209
abbrev Bc1:FuncId:=210
abbrev Ae0:FuncId:=211
abbrev Ab7:FuncId:=212
abbrev Ap7:FuncId:=213
abbrev A17:FuncId:=214
abbrev Ex5:FuncId:=215
abbrev Ay8:FuncId:=216
abbrev A18:FuncId:=217
abbrev A75:FuncId:=218
abbrev A78:FuncId:=219
abbrev Ah2:FuncId:=220
abbrev Be5:FuncId:=221
abbrev Am4:FuncId:=222
abbrev Aj0:FuncId:=223
abbrev Be4:FuncId:=224
abbrev W7:FuncId:=231
abbrev S8:FuncId:=232
abbrev R0:FuncId:=233
abbrev Ah0:FuncId:=234
abbrev Ar8:FuncId:=235
abbrev P3:FuncId:=236
abbrev Y7:FuncId:=237
abbrev U4:FuncId:=238
abbrev O5:FuncId:=239
abbrev Z2:FuncId:=240
abbrev Bs5:FuncId:=241
abbrev Br6:FuncId:=242
abbrev Ad6:FuncId:=244
abbrev Q2:FuncId:=246
abbrev U3:FuncId:=247
abbrev Ai5:FuncId:=248
abbrev E7:FuncId:=261
abbrev Bh6:FuncId:=269
abbrev W2:FuncId:=270
abbrev Bo6:FuncId:=271
abbrev W6:FuncId:=272
abbrev W4:FuncId:=273
abbrev W5:FuncId:=274
abbrev D66:FuncId:=276
abbrev G0:FuncId:=280
abbrev Ad5:FuncId:=281
abbrev Br0:FuncId:=282
abbrev At7:FuncId:=283
abbrev H4:FuncId:=285
abbrev B77:FuncId:=286
abbrev Q0:FuncId:=287
abbrev Ba6:FuncId:=288
abbrev Ao1:FuncId:=289
abbrev Ah1:FuncId:=290
abbrev Ax9:FuncId:=291
abbrev Ab2:FuncId:=292
abbrev G2:FuncId:=293
abbrev S9:FuncId:=294
abbrev Ac0:FuncId:=295
abbrev Bl6:FuncId:=296
abbrev Ay2:FuncId:=297
abbrev Al9:FuncId:=300
abbrev A08:FuncId:=301
abbrev Aw9:FuncId:=302
abbrev B5:FuncId:=303
abbrev A73:FuncId:=304
abbrev Bc7:FuncId:=305
abbrev Y4:FuncId:=306
abbrev G3:FuncId:=309
abbrev Ds9:FuncId:=310
abbrev Bo9:FuncId:=311
abbrev Ac1:FuncId:=312
abbrev B96:FuncId:=313
abbrev B9:FuncId:=314
abbrev Ap0:FuncId:=315
abbrev Q1:FuncId:=316
abbrev Ac5:FuncId:=317
abbrev Ai0:FuncId:=318
abbrev D9:FuncId:=321
abbrev At6:FuncId:=323
abbrev Au9:FuncId:=324
abbrev Av9:FuncId:=325
abbrev Au4:FuncId:=326
abbrev Bt2:FuncId:=327
abbrev Bs7:FuncId:=328
abbrev Av4:FuncId:=329
abbrev Bm3:FuncId:=330
abbrev I6:FuncId:=331
abbrev O4:FuncId:=332
abbrev Af2:FuncId:=333
abbrev Ag4:FuncId:=336
abbrev A72:FuncId:=337
abbrev Ao7:FuncId:=338
abbrev Bo5:FuncId:=339
abbrev Ds6:FuncId:=340
abbrev B2:TypeId:=3
abbrev Gt8:TypeId:=4
abbrev A1:TypeId:=5
abbrev L0:TypeId:=22
abbrev Dd5:TypeId:=24
abbrev O8:TypeId:=34
abbrev G52:TypeId:=38
abbrev B1:TypeId:=40
abbrev A29:TypeId:=46
abbrev A6:TypeId:=59
abbrev D07:TypeId:=74
abbrev B62:TypeId:=77
abbrev As4:TypeId:=80
abbrev E5:TypeId:=84
abbrev E79:TypeId:=86
abbrev H5:TypeId:=93
abbrev Y6:TypeId:=106
abbrev Dj8:TypeId:=121
abbrev Dx1:TypeId:=132
abbrev A05:TypeId:=135
abbrev Dq8:TypeId:=138
abbrev E4:TypeId:=163
abbrev B98:TypeId:=172
abbrev Gh8:TypeId:=181
abbrev Ej3:TypeId:=189
abbrev Bh2:TypeId:=196
abbrev Em7:TypeId:=198
abbrev E64:TypeId:=211
abbrev J4:TypeId:=244
abbrev A02:TypeId:=251
abbrev P9:TypeId:=258
abbrev B85:TypeId:=266
abbrev Ba3:TypeId:=281
abbrev E45:TypeId:=285
abbrev E55:TypeId:=288
abbrev Gj4:TypeId:=290
abbrev Bm4:TypeId:=292
abbrev Bw8:TypeId:=300
abbrev Ay3:TypeId:=348
abbrev H3:TypeId:=349
abbrev A04:TypeId:=352
abbrev Gg5:TypeId:=354
abbrev By0:TypeId:=356
abbrev Bm9:TypeId:=368
abbrev E99:TypeId:=371
abbrev I71:TypeId:=375
abbrev G11:TypeId:=382
abbrev An4:TypeId:=391
abbrev Bw6:TypeId:=395
abbrev B44:TypeId:=399
abbrev Ap9:TypeId:=401
noncomputable abbrev iI (n:Int):Value:=.int .i64 n
noncomputable abbrev pP (b:Nat):Value:=.pointer (some ⟨b,0,none⟩)
noncomputable abbrev xQ (c:Cuts) (C:D1) (R:Aa4) (f:FuncId) (fn:Func) (T:List Item) (s:B3) (h:H):Option (Value × H):=V9 PR c C R f fn 100000 true T s h
theorem kR {α:Type} {a b:α} (h:a=b:=by kernel_rfl):a=b:=h
noncomputable abbrev zZ1:List Value:=[.int .i64 0,.int .i64 0,.int .i64 0,.int .i64 0,.int .i64 0,.int .i64 0,.int .i64 0,.int .i64 0,.int .i64 0,.int .i64 0,.int .i64 0,.int .i64 0,.int .i64 0,.int .i64 0,.int .i64 0,.int .i64 0]
noncomputable abbrev zZ2:List Value:=[.int .i64 0,.int .i64 0,.int .i64 0,.int .i64 0,.int .i64 0,.int .i64 0,.int .i64 0,.int .i64 0,.int .i64 0,.int .i64 0,.int .i64 0,.int .i64 0,.int .i64 0,.int .i64 0,.int .i64 0,.int .i64 0,.int .i64 0]
noncomputable abbrev zZ3:List Value:=[.int .i64 0,.int .i64 0,.int .i64 0,.int .i64 0,.int .i64 0,.int .i64 0,.int .i64 0,.int .i64 0,.int .i64 0,.int .i64 0,.int .i64 0,.int .i64 0]
noncomputable abbrev zZ4:List Value:=[.int .i64 0,.int .i64 0,.int .i64 0,.int .i64 0,.int .u8 0,.int .u8 0,.int .u8 0,.int .u8 0,.int .u8 0,.int .u8 0,.int .u8 0,.int .u8 0,.int .u8 0,.int .u8 0,.int .u8 0,.int .u8 0,.int .u8 0,.int .u8 0,.int .u8 0,.int .u8 0,.int .u8 0,.int .u8 0,.int .u8 0,.int .u8 0,.int .u8 0,.int .u8 0,.int .u8 0,.int .u8 0,.int .u8 0,.int .u8 0,.int .u8 0,.int .u8 0,.int .u8 0,.int .u8 0,.int .u8 0,.int .u8 0]
end Go.EQ

set_option maxRecDepth 100000
namespace Go.EQ
open Go Go.NN Go.Proofs
open Go.IntKind (wrap)
open Go.Addr (add)
variable (C:D1) (R:Aa4) (more nonev x2 x4 x8:Addr) (ok:Bool) (h:H) (a atv byv e env fd first g i j j_1 kind lo n name size target to v x10 x11 x14 x15 x16 x54 x7:Int) (o p r:List Value) (bc bn datac datan lc ln outc outn s1c s1n s2c s2n sc sn x13c x13n x14c x14n x9c x9n xc xn:Nat) (b c data k l m out q s s1 s2 t x x13 x9:Option Addr) (cmp decode f:Value)
noncomputable section
def A38:Cuts:=⟨0,[],[(5,[1,2,7,9,10]),(14,[7,9,11,12,14])],[]⟩
def Bm1:List Item:=A2 Tryz.f4
def A27:List Item:=stk [0,1,0,1,0,1,0,1,0] Bm1
def A35:List Item:=stk [0,1,0,1,0,1,0,1,0,1,0,1,0,1,0,1,0,1,0,1,0,1,0,0] Bm1
theorem Gs0 :
 xQ A38 C R D6 Tryz.f4 Bm1 [(0,.slice l ln lc),(1,iI atv),(2,.int .u8 byv),(3,.agg ⟨o⟩)] h =
 nw (.cells A29 false o) h fun b w=>bnd (C Bi6 [] w) fun r w1=>aSl r fun x xn xc=>bnd (C Ah8 [.slice l ln lc] w1) fun q1 w2=>aAgg q1 fun z1=>bnd (C N5 [.agg ⟨z1⟩] w2) fun q2 w3=>aStr q2 fun z2=>ck (ByteArray.size z2≤A5) (nw (.cells A1 false (A0 (ByteArray.data z2).toList)) w3 fun p1 w4=>cond (byv==0)
 (R D6 A27 [(1,iI atv),(2,.int .u8 1),(7,pP b),(9,.slice x xn xc),(10,.slice (some (G9 p1)) (ByteArray.size z2) (ByteArray.size z2))] w4)
 (R D6 A27 [(1,iI atv),(2,.int .u8 byv),(7,pP b),(9,.slice x xn xc),(10,.slice (some (G9 p1)) (ByteArray.size z2) (ByteArray.size z2))] w4)):=kR
theorem E10 (o:Addr) :
 xQ A38 C R D6 Tryz.f4 A27 [(1,iI atv),(2,.int .u8 byv),(7,.pointer (some o)),(9,.slice b bn bc),(10,.slice x xn xc)] h =
 aSome x fun p=>ck ((0:Int)≤Int.tmod (B4 .i64 atv 65535) 24∧Int.tmod (B4 .i64 atv 65535) 24<(xn:Int)) (gInt .u8 (add (B0 p) (Int.toNat (Int.tmod (B4 .i64 atv 65535) 24)*1)) h fun z1=>aSome x fun p_1=>ck ((0:Int)≤Int.tmod (B4 .i64 atv 65535) 24∧Int.tmod (B4 .i64 atv 65535) 24<(xn:Int)) (pV (add (B0 p_1) (Int.toNat (Int.tmod (B4 .i64 atv 65535) 24)*1)) (.int .u8 (wrap .u8 (z1+byv))) h fun w=>ckB (fitsOpen b A1 w) (ck ((0:Int)≤48∧48≤(bn:Int)) (gCells x (min xn (bn-(Int.toNat 48))*1) w fun cs=>pCells (G4 b (decide (Int.toNat 48<bc)) ((Int.toNat 48)*1)) cs w fun w1=>bnd (C W8 [.slice b bn bc] w1) fun r w2=>as4 r fun q1 q2 q3 q4=>aPtr q1 fun z2=>aPtr q2 fun z3=>aPtr q3 fun _=>aPtr q4 fun z5=>bnd (cond z3.isNone (some (true,w2)) (bnd (C V3 [.pointer z2] w2) fun q5 w3=>aPtr q5 fun z6=>some (z6.isNone,w3))) fun c w4=>cond c
 (some (.bool false,w4))
 (pV (add o 1) (iI 2) w4 fun w5=>gInt .i64 (add o 0) w5 fun z7=>pV (add o 0) (iI (B4 .i64 z7 3)) w5 fun w6=>gInt .i64 (add o 0) w6 fun z8=>cond (z8==3)
 (gInt .i64 (add o 2) w6 fun z9=>gInt .i64 (add o 3) w6 fun z10=>pV (add o 2) (iI (B4 .i64 z9 15)) w6 fun w7=>pV (add o 3) (iI (B4 .i64 z10 15)) w7 fun w8=>R D6 A35 [(7,.pointer (some o)),(9,.slice b bn bc),(11,.pointer z2),(12,.pointer z3),(14,.pointer z5)] w8)
 (R D6 A35 [(7,.pointer (some o)),(9,.slice b bn bc),(11,.pointer z2),(12,.pointer z3),(14,.pointer z5)] w6)))))):=kR
theorem E54 (o:Addr) :
 xQ A38 C R D6 Tryz.f4 A35 [(7,.pointer (some o)),(9,.slice b bn bc),(11,.pointer k),(12,.pointer c),(14,.pointer m)] h =
 gAgg o 4 h fun x=>bnd (C Dt6 [.pointer c,.pointer m,.agg ⟨x⟩] h) fun r w=>aBool r fun z1=>cond (!z1)
 (some (.bool false,w))
 (bnd (C Ac2 [.pointer c,iI 2] w) fun q1 w1=>as2 q1 fun q2 q3=>aAgg q2 fun z2=>aInt .i64 q3 fun z3=>nw (.cells B1 false zZ1) w1 fun p1 w2=>ck (List.length z2=16) (pAgg ⟨p1,0,none⟩ z2 w2 fun w3=>bnd (C A53 [.pointer c,iI 2] w3) fun q4 w4=>aAgg q4 fun z4=>nw (.cells O8 false [iI 0,iI 0,.slice none 0 0,.bool false]) w4 fun p2 w5=>ck (List.length z4=4) (pAgg ⟨p2,0,none⟩ z4 w5 fun w6=>bnd (C V3 [.pointer k] w6) fun q5 w7=>aPtr q5 fun z5=>bnd (C Ah7 [.pointer z5,iI 0] w7) fun q6 w8=>as2 q6 fun q7 q8=>aSl q7 fun z6 xn _=>aInt .i64 q8 fun z7=>bnd (cond (z3==105) (gInt .i64 ⟨p2,1,none⟩ w8 fun z8=>some (z8==105,w8)) (some (false,w8))) fun c_1 w9=>bnd (cond c_1 (some (z7==0,w9)) (some (false,w9))) fun c_2 w10=>bnd (cond c_2 (gCells z6 xn w10 fun cs=>asBytes cs fun l=>gCells b bn w10 fun cs_1=>asBytes cs_1 fun l_1=>some ((ByteArray.mk ⟨l⟩).toList==(ByteArray.mk ⟨l_1⟩).toList,w10)) (some (false,w10))) fun c_3 w11=>bnd (cond c_3 (bnd (C D0 [.pointer c] w11) fun q9 w12=>aSl q9 fun _ xn_1 _=>some ((xn_1:Int)==1,w12)) (some (false,w11))) fun c_4 w13=>bnd (cond c_4 (bnd (C D0 [.pointer c] w13) fun q10 w14=>aSl q10 fun z10 xn_2 _=>aSome z10 fun p=>ck ((0:Int)≤0∧0<(xn_2:Int)) (gAgg (add (B0 p) (Int.toNat 0*2)) 2 w14 fun z11=>A70 PR A6 z11 [iI 1,iI 2] fun eq=>some (eq,w14))) (some (false,w13))) fun c_5 w15=>bnd (cond c_5 (bnd (C B02 [] w15) fun q11 w16=>aBool q11 fun z12=>some (z12,w16)) (some (false,w15))) fun c_6 w17=>some (.bool c_6,w17)))):=kR
def B89:Cuts:=⟨0,[(9,[6,7,8,9,10,11,12])],[],[]⟩
def Dy4:List Item:=A2 Tryz.f8
def A39:List Item:=stk [0,1,0,1,0,1,0,1,0,1,0,1,0,1,0,0,1,4,5] Dy4
theorem E76 :
 xQ B89 C R W8 Tryz.f8 Dy4 [(0,.slice b bn bc)] h =
 bnd (C B64 [] h) fun r w=>aAgg r fun x=>bnd (C Bp1 [.agg ⟨x⟩] w) fun q1 w1=>as4 q1 fun q2 q3 q4 q5=>aPtr q2 fun z1=>aPtr q3 fun z2=>aPtr q4 fun z3=>aPtr q5 fun z4=>bnd (cond z2.isNone (some (true,w1)) (some ((bn:Int) != 492,w1))) fun c w2=>cond c
 (some (.tuple ⟨[.pointer none,.pointer none,.pointer none,.pointer none]⟩,w2))
 (nw (.cells As4 false [iI 0,iI 0,iI 0,iI 0,iI 0,iI 0,.slice none 0 0]) w2 fun p1 w3=>pAgg ⟨p1,0,none⟩ [iI 2,iI 256,iI 0,iI 0,iI 0,iI 0,.slice b bn bc] w3 fun w4=>bnd (C N7 [.agg ⟨[iI 0,iI 0,iI 1,iI 1,.int .u8 0,.int .u8 0,.int .u8 0,.int .u8 0,.int .u8 0,.int .u8 0,.int .u8 0,.int .u8 0,.int .u8 0,.int .u8 0,.int .u8 0,.int .u8 0,.int .u8 0,.int .u8 0,.int .u8 0,.int .u8 0,.int .u8 0,.int .u8 0,.int .u8 0,.int .u8 0,.int .u8 0,.int .u8 0,.int .u8 0,.int .u8 0,.int .u8 0,.int .u8 0,.int .u8 0,.int .u8 0,.int .u8 0,.int .u8 0,.int .u8 0,.int .u8 0]⟩] w4) fun q6 w5=>aStr q6 fun z5=>gAgg ⟨p1,0,none⟩ 7 w5 fun z6=>bnd (C V0 [.pointer z1,iI 0,.agg ⟨z6⟩] w5) fun q7 w6=>aAgg q7 fun _=>gAgg ⟨p1,0,none⟩ 7 w6 fun z8=>bnd (C Ae6 [.pointer z3,iI 0,.agg ⟨z8⟩] w6) fun q8 w7=>as3 q8 fun q9 q10 q11=>aInt .i64 q9 fun _=>aInt .i64 q10 fun _=>aStr q11 fun _=>R W8 A39 [(6,.pointer z1),(7,.pointer z2),(8,.pointer z3),(9,.pointer z4),(10,pP p1),(11,.string z5),(12,iI 1)] w7):=kR
theorem Aq0 (wv:Option Addr) (x:Addr) (pipe:ByteArray) :
 xQ B89 C R W8 Tryz.f8 A39 [(6,.pointer k),(7,.pointer c),(8,.pointer wv),(9,.pointer m),(10,.pointer (some x)),(11,.string pipe),(12,iI i)] h =
 cond (decide (i<3))
 (ck (ByteArray.size pipe≤A5) (nw (.cells A1 false (A0 (ByteArray.data pipe).toList)) h fun b w=>pAgg x [iI 2,iI (wrap .i64 (256+i)),iI 0,iI 0,iI 0,iI 0,.slice (some (G9 b)) (ByteArray.size pipe) (ByteArray.size pipe)] w fun w1=>gAgg x 7 w1 fun z1=>bnd (C V0 [.pointer k,iI 0,.agg ⟨z1⟩] w1) fun r w2=>aAgg r fun _=>gAgg x 7 w2 fun z3=>bnd (C Ae6 [.pointer wv,iI 0,.agg ⟨z3⟩] w2) fun q1 w3=>as3 q1 fun q2 q3 q4=>aInt .i64 q2 fun _=>aInt .i64 q3 fun _=>aStr q4 fun _=>R W8 A39 [(6,.pointer k),(7,.pointer c),(8,.pointer wv),(9,.pointer m),(10,.pointer (some x)),(11,.string pipe),(12,iI (wrap .i64 (i+1)))] w3))
 (some (.tuple ⟨[.pointer k,.pointer c,.pointer wv,.pointer m]⟩,h)):=kR
def Ed0:Cuts:=⟨0,[(10,[0,3,8,53,54,55])],[],[]⟩
def D93:List Item:=A2 Tryz.f12
def G20:List Item:=stk [0,1,0,1,0,1,0,1,0,1,0,0,1,4,5] D93
theorem H24 :
 xQ Ed0 C R Bx2 Tryz.f12 D93 [(0,.pointer c),(1,iI i),(2,iI target),(3,iI n)] h =
 nw (.cells O8 false [iI 0,iI 0,.slice none 0 0,.bool false]) h fun b w=>bnd (C Ac2 [.pointer c,iI i] w) fun r w1=>as2 r fun q1 q2=>aAgg q1 fun x=>aInt .i64 q2 fun z1=>nw (.cells B1 false zZ1) w1 fun p1 w2=>ck (List.length x=16) (pAgg ⟨p1,0,none⟩ x w2 fun w3=>cond (z1 != 0)
 (bnd (C Q8 [iI z1] w3) fun q3 w4=>aAgg q3 fun z2=>ck (List.length z2=4) (pAgg ⟨b,0,none⟩ z2 w4 fun w5=>gAgg ⟨b,0,none⟩ 4 w5 fun z3=>some (.agg ⟨z3⟩,w5)))
 (bnd (cond (decide (target<0)) (some (true,w3)) (some (decide (target>15),w3))) fun c_1 w6=>bnd (cond c_1 (some (true,w6)) (some (decide (n<0),w6))) fun c_2 w7=>bnd (cond c_2 (some (true,w7)) (some (decide (n>15),w7))) fun c_3 w8=>cond c_3
 (bnd (C Q8 [iI 122] w8) fun q4 w9=>aAgg q4 fun z4=>ck (List.length z4=4) (pAgg ⟨b,0,none⟩ z4 w9 fun w10=>gAgg ⟨b,0,none⟩ 4 w10 fun z5=>some (.agg ⟨z5⟩,w10)))
 (bnd (C G13 [.pointer c,iI target] w8) fun q5 w11=>as2 q5 fun q6 q7=>aSl q6 fun z6 xn xc=>aInt .i64 q7 fun z7=>cond (z7 != 0)
 (bnd (C Q8 [iI z7] w11) fun q8 w12=>aAgg q8 fun z8=>ck (List.length z8=4) (pAgg ⟨b,0,none⟩ z8 w12 fun w13=>gAgg ⟨b,0,none⟩ 4 w13 fun z9=>some (.agg ⟨z9⟩,w13)))
 (R Bx2 G20 [(0,.pointer c),(3,iI n),(8,pP b),(53,.slice z6 xn xc),(54,iI (xn:Int)),(55,iI 0)] w11)))):=kR
def A55:Cuts:=⟨0,[],[],[]⟩
def By1:List Item:=A2 Tryz.f13
theorem Eb3 :
 xQ A55 C R I9 Tryz.f13 By1 [(0,.pointer c),(1,iI i)] h =
 nw (.cells B1 false zZ1) h fun b w=>bnd (C Aw2 [iI i] w) fun r w1=>aAgg r fun x=>bnd (C L7 [.pointer c,.agg ⟨x⟩,.func (.func Aw3) ⟨[]⟩ ⟨[]⟩] w1) fun q1 w2=>as2 q1 fun q2 q3=>aAgg q2 fun z1=>aInt .i64 q3 fun z2=>ck (List.length z1=16) (pAgg ⟨b,0,none⟩ z1 w2 fun w3=>gAgg ⟨b,0,none⟩ 16 w3 fun z3=>some (.tuple ⟨[.agg ⟨z3⟩,iI z2]⟩,w3)):=kR
def Bk6:Cuts:=⟨0,[],[],[]⟩
def Dd2:List Item:=A2 Tryz.f17
theorem Ey5 :
 xQ Bk6 C R V3 Tryz.f17 Dd2 [(0,.pointer k)] h =
 aSome k fun p=>gPtr (add p 5) h fun x=>some (.pointer x,h):=kR
def Dz3:Cuts:=⟨0,[],[],[]⟩
def E43:List Item:=A2 Tryz.f33
theorem Hq9 :
 xQ Dz3 C R Bp1 Tryz.f33 E43 [(0,.agg ⟨p⟩)] h =
 nw (.cells B62 false p) h fun b w=>gAgg ⟨b,0,none⟩ 3 w fun x=>bnd (C J6 [.agg ⟨x⟩] w) fun r w1=>aAgg r fun z1=>nw (.cells E4 false [.slice none 0 0,.slice none 0 0,.slice none 0 0,iI 0,.slice none 0 0]) w1 fun p1 w2=>ck (List.length z1=5) (pAgg ⟨p1,0,none⟩ z1 w2 fun w3=>gAgg ⟨p1,0,none⟩ 5 w3 fun z2=>bnd (C I5 [.agg ⟨z2⟩] w3) fun q1 w4=>as2 q1 fun q2 q3=>aPtr q2 fun z3=>aInt .i64 q3 fun z4=>bnd (cond z3.isNone (some (true,w4)) (some (z4 != 0,w4))) fun c w5=>cond c
 (some (.tuple ⟨[.pointer none,.pointer none,.pointer none,.pointer none]⟩,w5))
 (gAgg ⟨p1,0,none⟩ 5 w5 fun z5=>bnd (C G5 [.agg ⟨z5⟩] w5) fun q4 w6=>aPtr q4 fun z6=>bnd (C Bz5 [.pointer z3,iI 0] w6) fun q5 w7=>as2 q5 fun q6 q7=>aPtr q6 fun z7=>aInt .i64 q7 fun z8=>bnd (cond z7.isNone (some (true,w7)) (some (z8 != 0,w7))) fun c_1 w8=>cond c_1
 (some (.tuple ⟨[.pointer none,.pointer none,.pointer none,.pointer none]⟩,w8))
 (bnd (C Bh5 [] w8) fun q8 w9=>aStr q8 fun z9=>ck (ByteArray.size z9≤A5) (nw (.cells A1 false (A0 (ByteArray.data z9).toList)) w9 fun p2 w10=>bnd (C V0 [.pointer z3,iI 0,.agg ⟨[iI 2,iI 256,iI 0,iI 0,iI 0,iI 0,.slice (some (G9 p2)) (ByteArray.size z9) (ByteArray.size z9)]⟩] w10) fun q9 w11=>aAgg q9 fun z10=>nth z10 0 fun E=>aInt .i64 E fun E_1=>cond (E_1 != 0)
 (some (.tuple ⟨[.pointer none,.pointer none,.pointer none,.pointer none]⟩,w11))
 (ck (ByteArray.size z9≤A5) (nw (.cells A1 false (A0 (ByteArray.data z9).toList)) w11 fun p3 w12=>bnd (C Ae6 [.pointer z6,iI 0,.agg ⟨[iI 2,iI 256,iI 0,iI 0,iI 0,iI 0,.slice (some (G9 p3)) (ByteArray.size z9) (ByteArray.size z9)]⟩] w12) fun q10 w13=>as3 q10 fun q11 q12 q13=>aInt .i64 q11 fun _=>aInt .i64 q12 fun _=>aStr q13 fun _=>bnd (C A09 [.pointer z6,iI 0] w13) fun q14 w14=>aPtr q14 fun z14=>some (.tuple ⟨[.pointer z3,.pointer z7,.pointer z6,.pointer z14]⟩,w14))))))):=kR
def Df2:Cuts:=⟨0,[],[],[]⟩
def Eg2:List Item:=A2 Tryz.f36
theorem G40 (c:List Value) :
 xQ Df2 C R V0 Tryz.f36 Eg2 [(0,.pointer k),(1,iI env),(2,.agg ⟨c⟩)] h =
 nw (.cells As4 false c) h fun b w=>nw (.cells E79 false [iI 0,iI 0,.slice none 0 0]) w fun p1 w1=>bnd (cond (decide (env<0)) (some (true,w1)) (aSome k fun p=>gSl (add p 0) w1 fun _ xn _=>some (decide (env≥(xn:Int)),w1))) fun c_1 w2=>cond c_1
 (pAgg ⟨p1,0,none⟩ [iI 1,iI 0,.slice none 0 0] w2 fun w3=>gAgg ⟨p1,0,none⟩ 3 w3 fun z1=>some (.agg ⟨z1⟩,w3))
 (gAgg ⟨b,0,none⟩ 7 w2 fun z2=>bnd (C A66 [.pointer k,iI env,.agg ⟨z2⟩] w2) fun r w4=>as3 r fun q1 q2 q3=>aSl q1 fun z3 xn_1 xc_1=>aInt .i64 q2 fun z4=>aBool q3 fun z5=>cond z5
 (pAgg ⟨p1,0,none⟩ [iI z4,iI 0,.slice z3 xn_1 xc_1] w4 fun w5=>gAgg ⟨p1,0,none⟩ 3 w5 fun z6=>some (.agg ⟨z6⟩,w5))
 (gAgg ⟨b,0,none⟩ 7 w4 fun z7=>bnd (C A07 [.pointer k,iI env,.agg ⟨z7⟩] w4) fun q4 w6=>as2 q4 fun q5 q6=>aInt .i64 q5 fun z8=>aInt .i64 q6 fun z9=>pAgg ⟨p1,0,none⟩ [iI z9,iI z8,.slice none 0 0] w6 fun w7=>gAgg ⟨p1,0,none⟩ 3 w7 fun z10=>some (.agg ⟨z10⟩,w7))):=kR
def Dp6:Cuts:=⟨0,[],[],[(1,⟨[0,1,2,3,4,5,6,7],[0,1,0,4,15,12,63,127],[(3,[1]),(5,[1])],[]⟩)]⟩
def Ev3:List Item:=A2 Tryz.f38
theorem Hd0 :
 xQ Dp6 C R Bh5 Tryz.f38 Ev3 [] h =
 ck ((0:Int)≤448∧(448:Int)≤448∧448≤(A5:Int)) (nw (.cells A1 false (I0 (Int.toNat 448) [.int .u8 0])) h fun b w=>gCells (some ⟨b,0,none⟩) (Int.toNat 448) w fun cs=>asBytes cs fun l=>bnd (C N7 [.agg ⟨[iI 0,iI 0,iI 1,iI 1,.int .u8 0,.int .u8 0,.int .u8 0,.int .u8 0,.int .u8 0,.int .u8 0,.int .u8 0,.int .u8 0,.int .u8 0,.int .u8 0,.int .u8 0,.int .u8 0,.int .u8 0,.int .u8 0,.int .u8 0,.int .u8 0,.int .u8 0,.int .u8 0,.int .u8 0,.int .u8 0,.int .u8 0,.int .u8 0,.int .u8 0,.int .u8 0,.int .u8 0,.int .u8 0,.int .u8 0,.int .u8 0,.int .u8 0,.int .u8 0,.int .u8 0,.int .u8 0]⟩] w) fun r w1=>aStr r fun x=>gCells (some ⟨b,0,none⟩) (Int.toNat 448) w1 fun cs_1=>asBytes cs_1 fun l_1=>same (.string (ByteArray.mk ⟨l⟩)) (.string (ByteArray.mk ⟨l_1⟩)) (ck (ByteArray.size (ByteArray.mk ⟨l⟩)+ByteArray.size x≤A5) (bnd (C Ae5 [iI 0] w1) fun q1 w2=>aStr q1 fun z1=>gCells (some ⟨b,0,none⟩) (Int.toNat 448) w2 fun cs_2=>asBytes cs_2 fun l_2=>same (.string (ByteArray.mk ⟨l⟩)) (.string (ByteArray.mk ⟨l_2⟩)) (ck (ByteArray.size ((ByteArray.mk ⟨l⟩)++x)+ByteArray.size z1≤A5) (some (.string (((ByteArray.mk ⟨l⟩)++x)++z1),w2)))))):=kR
def Bv2:Cuts:=⟨0,[],[],[]⟩
def Dq1:List Item:=A2 Tryz.f39
theorem Gf1 (f:List Value) :
 xQ Bv2 C R Aq9 Tryz.f39 Dq1 [(0,.agg ⟨f⟩)] h =
 nw (.cells H5 false f) h fun b w=>gInt .i64 ⟨b,0,none⟩ w fun x=>gInt .i64 ⟨b,1,none⟩ w fun z1=>gInt .i64 ⟨b,2,none⟩ w fun z2=>gInt .i64 ⟨b,3,none⟩ w fun z3=>nw (.cells A1 false [.int .u8 (wrap .u8 (x)),.int .u8 (wrap .u8 (z1)),.int .u8 (wrap .u8 (z2)),.int .u8 (wrap .u8 (z3)),.int .u8 179]) w fun p1 w1=>gCells (some ⟨p1,0,none⟩) 5 w1 fun cs=>asBytes cs fun l=>bnd (C Ai1 [.string (ByteArray.mk ⟨l⟩)] w1) fun r w2=>aInt .u8 r fun z4=>nw (.cells A1 false [.int .u8 z4,.int .u8 0,.int .u8 0]) w2 fun p2 w3=>gCells (some ⟨p2,0,none⟩) 3 w3 fun cs_1=>asBytes cs_1 fun l_1=>ck (ByteArray.size (ByteArray.mk ⟨l⟩)+ByteArray.size (ByteArray.mk ⟨l_1⟩)≤A5) (some (.string ((ByteArray.mk ⟨l⟩)++(ByteArray.mk ⟨l_1⟩)),w3)):=kR
def Bb4:Cuts:=⟨0,[(3,[0,3,5,17,18]),(9,[0,5,31,32]),(19,[0,57,58])],[],[(15,⟨[0,1,2,3,4,5,6,7,8],[0,1,0,4,12,28,63,127,255],[],[]⟩)]⟩
def Bo2:List Item:=A2 Tryz.f42
def A14:List Item:=stk [0,1,0,1,0,0,1,4,5] Bo2
def Ap5:List Item:=stk [0,1,0,1,0,1,0,0,1,4,5] Bo2
def Ap2:List Item:=stk [0,1,0,1,0,1,0,1,0,0,1,4,5] Bo2
theorem Hm9 :
 xQ Bb4 C R G7 Tryz.f42 Bo2 [(0,.pointer c),(1,.agg ⟨p⟩)] h =
 nw (.cells B1 false p) h fun b w=>nw (.cells Em7 false zZ3) w fun p1 w1=>gAgg ⟨b,8,none⟩ 8 w1 fun x=>R G7 A14 [(0,.pointer c),(3,pP b),(5,pP p1),(17,.agg ⟨x⟩),(18,iI 0)] w1:=kR
theorem D58 (p:Addr) (x17:List Value) (x18:Int) :
 xQ Bb4 C R G7 Tryz.f42 A14 [(0,.pointer c),(3,.pointer (some p)),(5,.pointer (some more)),(17,.agg ⟨x17⟩),(18,iI x18)] h =
 cond (decide (x18<8))
 (ck ((0:Int)≤x18∧x18<((8:Nat):Int)) (nth x17 (Int.toNat x18*1) fun x=>aInt .i64 x fun z1=>cond (decide (z1>0))
 (ck ((0:Int)≤wrap .i64 (z1-1)∧wrap .i64 (z1-1)<((12:Nat):Int)) (gInt .i64 (add more (Int.toNat (wrap .i64 (z1-1))*1)) h fun z2=>ck ((0:Int)≤wrap .i64 (z1-1)∧wrap .i64 (z1-1)<((12:Nat):Int)) (pV (add more (Int.toNat (wrap .i64 (z1-1))*1)) (iI (wrap .i64 (z2+1))) h fun w=>R G7 A14 [(0,.pointer c),(3,.pointer (some p)),(5,.pointer (some more)),(17,.agg ⟨x17⟩),(18,iI (wrap .i64 (x18+1)))] w)))
 (R G7 A14 [(0,.pointer c),(3,.pointer (some p)),(5,.pointer (some more)),(17,.agg ⟨x17⟩),(18,iI (wrap .i64 (x18+1)))] h)))
 (gAgg (add p 8) 8 h fun z3=>R G7 Ap5 [(0,.pointer c),(5,.pointer (some more)),(31,.agg ⟨z3⟩),(32,iI 0)] h):=kR
theorem D78 (x31:List Value) (x32:Int) :
 xQ Bb4 C R G7 Tryz.f42 Ap5 [(0,.pointer c),(5,.pointer (some more)),(31,.agg ⟨x31⟩),(32,iI x32)] h =
 cond (decide (x32<8))
 (ck ((0:Int)≤x32∧x32<((8:Nat):Int)) (nth x31 (Int.toNat x32*1) fun x=>aInt .i64 x fun z1=>cond (z1==0)
 (R G7 Ap5 [(0,.pointer c),(5,.pointer (some more)),(31,.agg ⟨x31⟩),(32,iI (wrap .i64 (x32+1)))] h)
 (bnd (C U9 [.pointer c,iI (wrap .i64 (z1-1))] h) fun r w=>as2 r fun q1 q2=>aAgg q1 fun z2=>aInt .i64 q2 fun z3=>nw (.cells H5 false [iI 0,iI 0,iI 0,iI 0]) w fun b w1=>ck (List.length z2=4) (pAgg ⟨b,0,none⟩ z2 w1 fun w2=>cond (z3 != 1)
 (some (iI 105,w2))
 (gInt .i64 ⟨b,2,none⟩ w2 fun z4=>ck ((0:Int)≤wrap .i64 (z1-1)∧wrap .i64 (z1-1)<((12:Nat):Int)) (gInt .i64 (add more (Int.toNat (wrap .i64 (z1-1))*1)) w2 fun z5=>cond (decide ((wrap .i64 (z4+z5))>64))
 (some (iI 123,w2))
 (R G7 Ap5 [(0,.pointer c),(5,.pointer (some more)),(31,.agg ⟨x31⟩),(32,iI (wrap .i64 (x32+1)))] w2)))))))
 (gAgg more 12 h fun z6=>R G7 Ap2 [(0,.pointer c),(57,.agg ⟨z6⟩),(58,iI 0)] h):=kR
theorem D69 (x57:List Value) (x58:Int) :
 xQ Bb4 C R G7 Tryz.f42 Ap2 [(0,.pointer c),(57,.agg ⟨x57⟩),(58,iI x58)] h =
 cond (decide (x58<12))
 (ck ((0:Int)≤x58∧x58<((12:Nat):Int)) (nth x57 (Int.toNat x58*1) fun x=>aInt .i64 x fun z1=>cond (z1==0)
 (R G7 Ap2 [(0,.pointer c),(57,.agg ⟨x57⟩),(58,iI (wrap .i64 (x58+1)))] h)
 (bnd (C U9 [.pointer c,iI x58] h) fun r w=>as2 r fun q1 q2=>aAgg q1 fun z2=>aInt .i64 q2 fun _=>nw (.cells H5 false [iI 0,iI 0,iI 0,iI 0]) w fun b w1=>ck (List.length z2=4) (pAgg ⟨b,0,none⟩ z2 w1 fun w2=>gInt .i64 ⟨b,2,none⟩ w2 fun z4=>pV ⟨b,2,none⟩ (iI (wrap .i64 (z4+z1))) w2 fun w3=>gAgg ⟨b,0,none⟩ 4 w3 fun z5=>bnd (C Af4 [.pointer c,iI x58,.agg ⟨z5⟩] w3) fun q3 w4=>aBool q3 fun z6=>cond (!z6)
 (some (iI 105,w4))
 (R G7 Ap2 [(0,.pointer c),(57,.agg ⟨x57⟩),(58,iI (wrap .i64 (x58+1)))] w4)))))
 (some (iI 0,h)):=kR
def Ec6:Cuts:=⟨0,[],[],[]⟩
def Gj0:List Item:=A2 Tryz.f43
theorem Hx9 :
 xQ Ec6 C R Av6 Tryz.f43 Gj0 [(0,.bool ok),(1,iI n)] h =
 nw (.cells O8 false [iI 0,iI 0,.slice none 0 0,.bool false]) h fun b w=>cond (!ok)
 (bnd (C Q8 [iI 105] w) fun r w1=>aAgg r fun x=>ck (List.length x=4) (pAgg ⟨b,0,none⟩ x w1 fun w2=>gAgg ⟨b,0,none⟩ 4 w2 fun z1=>some (.agg ⟨z1⟩,w2)))
 (pAgg ⟨b,0,none⟩ [iI n,iI 0,.slice none 0 0,.bool false] w fun w3=>gAgg ⟨b,0,none⟩ 4 w3 fun z2=>some (.agg ⟨z2⟩,w3)):=kR
def Es5:Cuts:=⟨0,[],[],[]⟩
def Gq6:List Item:=A2 Tryz.f53
theorem H97 :
 xQ Es5 C R Bc2 Tryz.f53 Gq6 [(0,iI n)] h =
 nw (.cells A1 false [.int .u8 (wrap .u8 (Int.fdiv n (2 ^ 8))),.int .u8 (wrap .u8 (n))]) h fun b w=>gCells (some ⟨b,0,none⟩) 2 w fun cs=>asBytes cs fun l=>some (.string (ByteArray.mk ⟨l⟩),w):=kR
def B59:Cuts:=⟨0,[],[],[]⟩
def D50:List Item:=A2 Tryz.f56
theorem Gu4 (a:List Value) (b:List Value) :
 xQ B59 C R Aa9 Tryz.f56 D50 [(0,.agg ⟨a⟩),(1,.agg ⟨b⟩)] h =
 nw (.cells O8 false a) h fun p1 w=>nw (.cells O8 false b) w fun p2 w1=>gInt .i64 ⟨p1,0,none⟩ w1 fun x=>gInt .i64 ⟨p2,0,none⟩ w1 fun z1=>bnd (cond (x==z1) (gInt .i64 ⟨p1,1,none⟩ w1 fun z2=>gInt .i64 ⟨p2,1,none⟩ w1 fun z3=>some (z2==z3,w1)) (some (false,w1))) fun c w2=>bnd (cond c (gSl ⟨p1,2,none⟩ w2 fun z4 xn _=>gCells z4 xn w2 fun cs=>asBytes cs fun l=>gSl ⟨p2,2,none⟩ w2 fun z5 xn_1 _=>gCells z5 xn_1 w2 fun cs_1=>asBytes cs_1 fun l_1=>some ((ByteArray.mk ⟨l⟩).toList==(ByteArray.mk ⟨l_1⟩).toList,w2)) (some (false,w2))) fun c_1 w3=>bnd (cond c_1 (gBool ⟨p1,3,none⟩ w3 fun z6=>gBool ⟨p2,3,none⟩ w3 fun z7=>some (z6==z7,w3)) (some (false,w3))) fun c_2 w4=>some (.bool c_2,w4):=kR
def Bf4:Cuts:=⟨0,[(16,[0,2,3,8,11,14]),(24,[0,3,8,11,17])],[(15,[0,2,3,8,11])],[(28,⟨[0,1,2,3,4,5,6,7,8,9,10],[0,1,3,3,3,27,59,3,255,511,1023],[],[]⟩)]⟩
def Bg2:List Item:=A2 Tryz.f60
def Bt9:List Item:=stk [0,1,0,1,0,1,0,1,0,1,0,0] Bg2
theorem En3 :
 xQ Bf4 C R Y9 Tryz.f60 Bg2 [(0,.pointer c),(1,iI i),(2,iI target),(3,iI n)] h =
 nw (.cells O8 false [iI 0,iI 0,.slice none 0 0,.bool false]) h fun b w=>bnd (C L5 [.pointer c,iI i] w) fun r w1=>as2 r fun q1 q2=>aAgg q1 fun x=>aInt .i64 q2 fun z1=>nw (.cells B1 false zZ1) w1 fun p1 w2=>ck (List.length x=16) (pAgg ⟨p1,0,none⟩ x w2 fun w3=>cond (z1 != 0)
 (bnd (C Af8 [iI z1] w3) fun q3 w4=>aAgg q3 fun z2=>ck (List.length z2=4) (pAgg ⟨b,0,none⟩ z2 w4 fun w5=>gAgg ⟨b,0,none⟩ 4 w5 fun z3=>some (.agg ⟨z3⟩,w5)))
 (bnd (cond (decide (target<0)) (some (true,w3)) (some (decide (target>15),w3))) fun c_1 w6=>bnd (cond c_1 (some (true,w6)) (some (decide (n<0),w6))) fun c_2 w7=>bnd (cond c_2 (some (true,w7)) (some (decide (n>15),w7))) fun c_3 w8=>cond c_3
 (bnd (C Af8 [iI 122] w8) fun q4 w9=>aAgg q4 fun z4=>ck (List.length z4=4) (pAgg ⟨b,0,none⟩ z4 w9 fun w10=>gAgg ⟨b,0,none⟩ 4 w10 fun z5=>some (.agg ⟨z5⟩,w10)))
 (cond (decide (target<8))
 (bnd (C Z0 [.pointer c,iI target] w8) fun q5 w11=>as2 q5 fun q6 q7=>aAgg q6 fun z6=>aInt .i64 q7 fun z7=>nw (.cells B1 false zZ1) w11 fun p2 w12=>ck (List.length z6=16) (pAgg ⟨p2,0,none⟩ z6 w12 fun w13=>cond (z7==2)
 (bnd (C Af8 [iI 105] w13) fun q8 w14=>aAgg q8 fun z8=>ck (List.length z8=4) (pAgg ⟨b,0,none⟩ z8 w14 fun w15=>gAgg ⟨b,0,none⟩ 4 w15 fun z9=>some (.agg ⟨z9⟩,w15)))
 (cond (z7==0)
 (bnd (C Af8 [iI 103] w13) fun q9 w16=>aAgg q9 fun z10=>ck (List.length z10=4) (pAgg ⟨b,0,none⟩ z10 w16 fun w17=>gAgg ⟨b,0,none⟩ 4 w17 fun z11=>some (.agg ⟨z11⟩,w17)))
 (nw (.cells B2 false [iI target]) w13 fun p3 w18=>gCells (some ⟨p3,0,none⟩) (1*1) w18 fun cs=>ckB (fitsOpen none B2 w18) (apd B2 1 none 0 0 1 cs w18 fun a an ac w19=>R Y9 Bt9 [(0,.pointer c),(2,iI target),(3,iI n),(8,pP b),(11,.slice a an ac)] w19)))))
 (R Y9 Bt9 [(0,.pointer c),(2,iI target),(3,iI n),(8,pP b),(11,.slice none 0 0)] w8)))):=kR
def Aw1:Cuts:=⟨0,[(4,[1,3,4]),(8,[1,3,5]),(13,[1,3,5,6,7,9])],[],[(1,⟨[0,1,2,3,4,5,6],[0,0,2,6,15,31,63],[(3,[0])],[]⟩),(2,⟨[0,1,2,3,4,5,6,7,11,12,13,8,9,10,14,15,16,17,18,19],[0,0,2,6,14,0,32,96,254,510,1022,0,2048,6144,14846,32766,65534,131071,262143,524287],[(8,[12])],[]⟩),(6,⟨[0,1,2,3,4,5,6,7,8,9,10,11,12],[0,0,2,6,14,0,32,96,224,510,1023,2047,4095],[(7,[4])],[]⟩),(11,⟨[0,1,2,3,4,5,6,7,8,9,11,12,15,16,18,19,10,13,14,17,20,21,22,23,24,25],[0,1,3,7,0,16,48,112,0,256,1008,0,2048,8176,16368,0,32768,131056,0,262144,1048575,2097151,4194303,4194303,8388607,33554431],[(10,[3,12,16,19])],[]⟩),(15,⟨[0,1,2,3,4,5,6,7],[0,1,0,4,0,28,60,127],[],[]⟩),(16,⟨[0,1,2,3,4,5,6,7,8,9,10,11,12],[0,1,3,7,15,31,63,0,0,0,512,1792,4095],[],[]⟩)]⟩
def Ba7:List Item:=A2 Tryz.f102
def A76:List Item:=stk [0,1,0,1,0,1,0,0,1,4,5] Ba7
def Aq8:List Item:=stk [0,1,0,1,0,1,0,1,0,0,1,4,5] Ba7
def Ar1:List Item:=stk [0,1,0,1,0,1,0,1,0,0,1,4,5,6,0,1,0,4,0,1,0,1,0,1,4,5] Ba7
theorem G30 (b:List Value) :
 xQ Aw1 C R G5 Tryz.f102 Ba7 [(0,.agg ⟨b⟩)] h =
 nw (.cells E4 false b) h fun p1 w=>gAgg ⟨p1,0,none⟩ 5 w fun x=>gSl ⟨p1,0,none⟩ w fun z1 xn xc=>bnd (C Ab1 [.slice z1 xn xc] w) fun r w1=>aPtr r fun z2=>gAgg ⟨p1,0,none⟩ 5 w1 fun z3=>same (.agg ⟨x⟩) (.agg ⟨z3⟩) (ck (List.length x=5) (nw (.cells Gh8 false (x++(.pointer z2::(.pointer none::(.slice none 0 0::[iI 0]))))) w1 fun p2 w2=>gPtr ⟨p2,5,none⟩ w2 fun z4=>gSl ⟨p1,0,none⟩ w2 fun _ xn_1 _=>gSl ⟨p1,1,none⟩ w2 fun z6 xn_2 xc_2=>bnd (C O9 [.pointer z4,iI (xn_1:Int)] w2) fun q1 w3=>aInt .i64 q1 fun z7=>gSl ⟨p1,1,none⟩ w3 fun z8 xn_3 xc_3=>same (.slice z6 xn_2 xc_2) (.slice z8 xn_3 xc_3) (ck ((0:Int)≤wrap .i64 (64*z7)∧(wrap .i64 (64*z7):Int)≤wrap .i64 (64*z7)∧wrap .i64 (64*z7)≤(A5:Int)) (nw (.cells A1 false (I0 (Int.toNat (wrap .i64 (64*z7))) [.int .u8 0])) w3 fun p3 w4=>bnd (C Ab0 [iI (xn_2:Int)] w4) fun q2 w5=>aPtr q2 fun z9=>nw (.cells Ej3 false [.slice (some ⟨p3,0,none⟩) (Int.toNat (wrap .i64 (64*z7))) (Int.toNat (wrap .i64 (64*z7))),.slice none 0 0,.slice none 0 0,.pointer z9]) w5 fun p4 w6=>pV ⟨p2,6,none⟩ (pP p4) w6 fun w7=>R G5 A76 [(1,pP p1),(3,pP p2),(4,iI 0)] w7)))):=kR
theorem Dq3 (b:Addr) (k:Addr) :
 xQ Aw1 C R G5 Tryz.f102 A76 [(1,.pointer (some b)),(3,.pointer (some k)),(4,iI i)] h =
 gSl (add b 2) h fun _ xn _=>cond (decide (i<(xn:Int)))
 (gSl (add k 7) h fun z1 xn_1 xc_1=>gInt .i64 (add b 3) h fun z2=>bnd (C Bs8 [iI z2] h) fun r w=>aPtr r fun z3=>gSl (add k 7) w fun z4 xn_2 xc_2=>same (.slice z1 xn_1 xc_1) (.slice z4 xn_2 xc_2) (nw (.cells Bh2 false [.pointer z3]) w fun p1 w1=>gCells (some ⟨p1,0,none⟩) (1*1) w1 fun cs=>ckB (fitsOpen z1 Bh2 w1) (apd Bh2 1 z1 xn_1 xc_1 1 cs w1 fun a an ac w2=>pV (add k 7) (.slice a an ac) w2 fun w3=>R G5 A76 [(1,.pointer (some b)),(3,.pointer (some k)),(4,iI (wrap .i64 (i+1)))] w3)))
 (R G5 Aq8 [(1,.pointer (some b)),(3,.pointer (some k)),(5,iI 0)] h):=kR
theorem Dq4 (b:Addr) (k:Addr) :
 xQ Aw1 C R G5 Tryz.f102 Aq8 [(1,.pointer (some b)),(3,.pointer (some k)),(5,iI i)] h =
 gSl (add b 4) h fun _ xn _=>cond (decide (i<(xn:Int)))
 (gSl (add b 4) h fun z1 xn_1 _=>aSome z1 fun p=>ck ((0:Int)≤i∧i<(xn_1:Int)) (gAgg (add (B0 p) (Int.toNat i*5)) 5 h fun z2=>nw (.cells J4 false [iI 0,iI 0,iI 0,iI 0,.slice none 0 0]) h fun p1 w=>ck (List.length z2=5) (pAgg ⟨p1,0,none⟩ z2 w fun w1=>gPtr (add k 6) w1 fun z3=>gPtr (add k 5) w1 fun z4=>gInt .i64 ⟨p1,0,none⟩ w1 fun z5=>gInt .i64 ⟨p1,1,none⟩ w1 fun z6=>gInt .i64 ⟨p1,2,none⟩ w1 fun z7=>gInt .i64 ⟨p1,3,none⟩ w1 fun z8=>bnd (C O9 [.pointer z4,iI z5] w1) fun r w2=>aInt .i64 r fun z9=>gPtr (add k 6) w2 fun z10=>same (.pointer z3) (.pointer z10) (gInt .i64 ⟨p1,1,none⟩ w2 fun z11=>same (iI z6) (iI z11) (gInt .i64 ⟨p1,2,none⟩ w2 fun z12=>same (iI z7) (iI z12) (gInt .i64 ⟨p1,3,none⟩ w2 fun z13=>same (iI z8) (iI z13) (bnd (C A24 [.pointer z3,iI (wrap .i64 ((wrap .i64 (64*(wrap .i64 (z9+z6))))+z7)),iI z8] w2) fun q1 w3=>as2 q1 fun q2 q3=>aInt .i64 q2 fun z14=>aInt .i64 q3 fun _=>R G5 Ar1 [(1,.pointer (some b)),(3,.pointer (some k)),(5,iI i),(6,pP p1),(7,iI z14),(9,iI 0)] w3)))))))
 (some (.pointer (some k),h)):=kR
theorem Dr0 (b:Addr) (k:Addr) (s:Addr) (obj:Int) :
 xQ Aw1 C R G5 Tryz.f102 Ar1 [(1,.pointer (some b)),(3,.pointer (some k)),(5,iI i),(6,.pointer (some s)),(7,iI obj),(9,iI e)] h =
 gSl (add b 1) h fun _ xn _=>cond (decide (e<(xn:Int)))
 (gSl (add s 4) h fun z1 xn_1 xc_1=>gSl (add b 1) h fun z2 xn_2 _=>aSome z2 fun p=>ck ((0:Int)≤e∧e<(xn_2:Int)) (gInt .i64 (add (B0 p) (Int.toNat e*1)) h fun z3=>bnd (C Bb5 [.slice z1 xn_1 xc_1,iI z3] h) fun r w=>aBool r fun z4=>cond z4
 (gPtr (add k 6) w fun z5=>aSome z5 fun p_1=>gPtr (add p_1 3) w fun z6=>gInt .i64 (add s 3) w fun z7=>bnd (C Bc0 [.pointer z6,iI e,.agg ⟨[iI obj,iI 3,iI 0,iI z7,iI 0,iI 0]⟩] w) fun q1 w1=>as2 q1 fun q2 q3=>aInt .i64 q2 fun _=>aInt .i64 q3 fun _=>R G5 Ar1 [(1,.pointer (some b)),(3,.pointer (some k)),(5,iI i),(6,.pointer (some s)),(7,iI obj),(9,iI (wrap .i64 (e+1)))] w1)
 (R G5 Ar1 [(1,.pointer (some b)),(3,.pointer (some k)),(5,iI i),(6,.pointer (some s)),(7,iI obj),(9,iI (wrap .i64 (e+1)))] w)))
 (R G5 Aq8 [(1,.pointer (some b)),(3,.pointer (some k)),(5,iI (wrap .i64 (i+1)))] h):=kR
def Bu5:Cuts:=⟨0,[],[],[(4,⟨[0,1,2,3,4,5,6,7,8,9,10,11,12,13,14,15,16],[0,1,3,7,0,0,32,0,128,0,512,2047,4095,8191,8191,16383,65535],[],[]⟩),(6,⟨[0,1,2,3,4,5,6,7,8,9,10,11,12],[0,1,3,7,0,0,32,0,128,0,512,2047,4095],[],[]⟩),(8,⟨[0,1,2,3,4,5,6,7,8,9,10,11,12,13,14,15,16],[0,1,3,7,0,0,32,0,128,0,512,0,2048,0,8192,32767,65535],[],[]⟩)]⟩
def Dr2:List Item:=A2 Tryz.f105
theorem Ge3 (c:List Value) :
 xQ Bu5 C R A66 Tryz.f105 Dr2 [(0,.pointer k),(1,iI env),(2,.agg ⟨c⟩)] h =
 nw (.cells As4 false c) h fun b w=>gInt .i64 ⟨b,0,none⟩ w fun x=>cond (x==1)
 (aSome k fun p=>gPtr (add p 5) w fun z1=>gInt .i64 ⟨b,1,none⟩ w fun z2=>gInt .i64 ⟨b,2,none⟩ w fun z3=>gInt .i64 ⟨b,3,none⟩ w fun z4=>bnd (C Ae0 [.pointer z1,iI env,iI z2,iI z3,iI z4] w) fun r w1=>as2 r fun q1 q2=>aSl q1 fun z5 xn xc=>aInt .i64 q2 fun z6=>some (.tuple ⟨[.slice z5 xn xc,iI z6,.bool true]⟩,w1))
 (cond (x==2)
 (aSome k fun p_1=>gPtr (add p_1 5) w fun z7=>gInt .i64 ⟨b,1,none⟩ w fun z8=>gInt .i64 ⟨b,2,none⟩ w fun z9=>gSl ⟨b,6,none⟩ w fun z10 xn_1 xc_1=>bnd (C Ab7 [.pointer z7,iI env,iI z8,iI z9,.slice z10 xn_1 xc_1] w) fun q3 w2=>aInt .i64 q3 fun z11=>some (.tuple ⟨[.slice none 0 0,iI z11,.bool true]⟩,w2))
 (cond (x==3)
 (aSome k fun p_2=>gPtr (add p_2 5) w fun z12=>gInt .i64 ⟨b,1,none⟩ w fun z13=>gInt .i64 ⟨b,2,none⟩ w fun z14=>gInt .i64 ⟨b,4,none⟩ w fun z15=>gInt .i64 ⟨b,5,none⟩ w fun z16=>gInt .i64 ⟨b,3,none⟩ w fun z17=>bnd (C Ap7 [.pointer z12,iI env,iI z13,iI z14,iI z15,iI z16,iI z17] w) fun q4 w3=>aInt .i64 q4 fun z18=>some (.tuple ⟨[.slice none 0 0,iI z18,.bool true]⟩,w3))
 (some (.tuple ⟨[.slice none 0 0,iI 0,.bool false]⟩,w)))):=kR
def Bn6:Cuts:=⟨0,[],[],[]⟩
def Dn3:List Item:=A2 Tryz.f117
theorem Ey9 :
 xQ Bn6 C R Ae5 Tryz.f117 Dn3 [(0,iI g)] h =
 nw (.cells A1 false [.int .u8 (wrap .u8 (g)),.int .u8 211]) h fun b w=>gCells (some ⟨b,0,none⟩) 2 w fun cs=>asBytes cs fun l=>bnd (C Ai1 [.string (ByteArray.mk ⟨l⟩)] w) fun r w1=>aInt .u8 r fun x=>nw (.cells A1 false [.int .u8 x,.int .u8 0]) w1 fun p1 w2=>gCells (some ⟨p1,0,none⟩) 2 w2 fun cs_1=>asBytes cs_1 fun l_1=>ck (ByteArray.size (ByteArray.mk ⟨l⟩)+ByteArray.size (ByteArray.mk ⟨l_1⟩)≤A5) (some (.string ((ByteArray.mk ⟨l⟩)++(ByteArray.mk ⟨l_1⟩)),w2)):=kR
def Dh6:Cuts:=⟨0,[],[],[(1,⟨[1,0,2,3,4,5,6],[0,0,3,7,7,31,63],[(0,[1])],[]⟩)]⟩
def Eh9:List Item:=A2 Tryz.f118
theorem G05 :
 xQ Dh6 C R A82 Tryz.f118 Eh9 [(0,.agg ⟨p⟩)] h =
 nw (.cells B1 false p) h fun b w=>gAgg ⟨b,0,none⟩ 16 w fun x=>bnd (C Bh9 [] w) fun r w1=>aPtr r fun z1=>gAgg ⟨b,0,none⟩ 16 w1 fun z2=>same (.agg ⟨x⟩) (.agg ⟨z2⟩) (bnd (C W7 [.pointer z1,.agg ⟨x⟩] w1) fun q1 w2=>as2 q1 fun q2 q3=>aSl q2 fun z3 xn xc=>aBool q3 fun z4=>some (.tuple ⟨[.slice z3 xn xc,.bool z4]⟩,w2)):=kR
def Az9:Cuts:=⟨0,[],[],[(2,⟨[0,1,2,3,4,5,6,7,8,9,10,11,12,13,14],[0,1,3,7,15,31,63,127,255,511,1023,127,4095,8191,16383],[],[]⟩),(4,⟨[0,1,2,3,4,5,6,7,8,9,10,11,12,13,14,15,16,17],[0,1,3,7,0,16,48,112,0,256,0,1024,0,7936,16383,32767,65535,131071],[],[]⟩)]⟩
def Bu2:List Item:=A2 Tryz.f119
theorem D37 :
 xQ Az9 C R O1 Tryz.f119 Bu2 [(0,.pointer c),(1,.agg ⟨r⟩),(2,.slice b bn bc),(3,.bool ok)] h =
 nw (.cells A6 false r) h fun p1 w=>gAgg ⟨p1,0,none⟩ 2 w fun x=>bnd (C S8 [.pointer c,.agg ⟨x⟩] w) fun q1 w1=>as2 q1 fun q2 q3=>aAgg q2 fun z1=>aBool q3 fun z2=>nw (.cells Bm4 false [iI 0,iI 0,iI 0]) w1 fun p2 w2=>ck (List.length z1=3) (pAgg ⟨p2,0,none⟩ z1 w2 fun w3=>bnd (cond (!z2) (some (true,w3)) (some (!ok,w3))) fun c_1 w4=>bnd (cond c_1 (some (true,w4)) (aSome c fun p=>gMap (add p 3) w4 fun z3=>gAgg ⟨p1,0,none⟩ 2 w4 fun z4=>keyN PR A6 (.agg ⟨z4⟩) (opt z3 fun q4=>mapAt w4 q4 fun es _=>opt (An1 (iI 0) (.agg ⟨z4⟩) es) fun f=>aInt .i64 f.1 fun z5=>some (decide (z5>0),w4)))) fun c_2 w5=>cond c_2
 (some (.bool false,w5))
 (aSome c fun p_1=>gPtr (add p_1 0) w5 fun z6=>aSome c fun p_2=>gInt .i64 (add p_2 1) w5 fun z7=>gInt .i64 ⟨p2,0,none⟩ w5 fun z8=>gInt .i64 ⟨p2,1,none⟩ w5 fun z9=>bnd (C V0 [.pointer z6,iI z7,.agg ⟨[iI 2,iI z8,iI z9,iI 0,iI 0,iI 0,.slice b bn bc]⟩] w5) fun q5 w6=>aAgg q5 fun z10=>nth z10 0 fun E=>aInt .i64 E fun E_1=>some (.bool (E_1==0),w6))):=kR
def A51:Cuts:=⟨0,[],[],[(2,⟨[0,1,2,3,4,5,6,7,8,9,10],[0,1,3,7,15,31,63,7,255,511,1023],[],[]⟩),(4,⟨[0,1,2,3,4,5,6,7,8,9,10,11,12,13,14,16,15,17],[0,1,3,7,0,16,48,112,0,256,0,1024,0,4096,16128,32767,0,131071],[],[]⟩),(6,⟨[0,1,2,3,4,5,6,7,8,9],[0,1,3,7,0,31,63,31,159,511],[(7,[5])],[]⟩)]⟩
def By2:List Item:=A2 Tryz.f123
theorem Ed6 :
 xQ A51 C R P6 Tryz.f123 By2 [(0,.pointer c),(1,.agg ⟨r⟩)] h =
 nw (.cells A6 false r) h fun b w=>gAgg ⟨b,0,none⟩ 2 w fun x=>bnd (C S8 [.pointer c,.agg ⟨x⟩] w) fun q1 w1=>as2 q1 fun q2 q3=>aAgg q2 fun z1=>aBool q3 fun z2=>nw (.cells Bm4 false [iI 0,iI 0,iI 0]) w1 fun p1 w2=>ck (List.length z1=3) (pAgg ⟨p1,0,none⟩ z1 w2 fun w3=>bnd (cond (!z2) (some (true,w3)) (aSome c fun p=>gMap (add p 3) w3 fun z3=>gAgg ⟨b,0,none⟩ 2 w3 fun z4=>keyN PR A6 (.agg ⟨z4⟩) (opt z3 fun q4=>mapAt w3 q4 fun es _=>opt (An1 (iI 0) (.agg ⟨z4⟩) es) fun f=>aInt .i64 f.1 fun z5=>some (decide (z5>0),w3)))) fun c_1 w4=>cond c_1
 (some (.tuple ⟨[.slice none 0 0,.bool false]⟩,w4))
 (aSome c fun p_1=>gPtr (add p_1 0) w4 fun z6=>aSome c fun p_2=>gInt .i64 (add p_2 1) w4 fun z7=>gInt .i64 ⟨p1,0,none⟩ w4 fun z8=>gInt .i64 ⟨p1,1,none⟩ w4 fun z9=>gInt .i64 ⟨p1,2,none⟩ w4 fun z10=>nw (.cells E79 false [iI 0,iI 0,.slice none 0 0]) w4 fun p2 w5=>bnd (C V0 [.pointer z6,iI z7,.agg ⟨[iI 1,iI z8,iI z9,iI z10,iI 0,iI 0,.slice none 0 0]⟩] w5) fun q5 w6=>aAgg q5 fun z11=>ck (List.length z11=3) (pAgg ⟨p2,0,none⟩ z11 w6 fun w7=>gInt .i64 ⟨p2,0,none⟩ w7 fun z12=>cond (z12 != 0)
 (aSome c fun p_3=>gMap (add p_3 3) w7 fun z13=>gAgg ⟨b,0,none⟩ 2 w7 fun z14=>keyN PR A6 (.agg ⟨z14⟩) (opt z13 fun q6=>mapAt w7 q6 fun es_1 _=>opt (An1 (iI 0) (.agg ⟨z14⟩) es_1) fun f_1=>aInt .i64 f_1.1 fun z15=>keyN PR A6 (.agg ⟨z14⟩) (opt z13 fun q7=>mapAt w7 q7 fun es_2 cl_2=>opt (Ed7 (iI 0) (.agg ⟨z14⟩) es_2 cl_2) fun f_2=>aInt .i64 f_2.1 fun _=>lt (H.set w7 q7 f_2.2.2) fun w8=>keyN PR A6 (.agg ⟨z14⟩) (opt z13 fun q8=>mapAt w8 q8 fun es_3 _=>opt (An1 (iI 0) (.agg ⟨z14⟩) es_3) fun f_3=>aInt .i64 f_3.1 fun z17=>same (iI z15) (iI z17) (opt z13 fun q9=>mapAt w8 q9 fun es_4 cl_4=>opt (Bs0 (f_2.2.1:Int) es_4 0) fun i=>lt (H.set w8 q9 (.map (modN (fun e=>{ e with val:=iI (wrap .i64 (z15+1)) }) i es_4) cl_4)) fun w9=>some (.tuple ⟨[.slice none 0 0,.bool false]⟩,w9))))))
 (gSl ⟨p2,2,none⟩ w7 fun z18 xn xc=>some (.tuple ⟨[.slice z18 xn xc,.bool true]⟩,w7))))):=kR
def Do9:Cuts:=⟨0,[],[],[]⟩
def Ew6:List Item:=A2 Tryz.f124
theorem Hb9 :
 xQ Do9 C R Aq6 Tryz.f124 Ew6 [(0,.slice b bn bc)] h =
 bnd (C R0 [.slice b bn bc,.func (.func Ah0) ⟨[]⟩ ⟨[]⟩] h) fun r w=>aBool r fun x=>some (.bool (!x),w):=kR
def Aq3:Cuts:=⟨0,[],[],[]⟩
def Bh8:List Item:=A2 Tryz.f146
theorem Bi8 :
 xQ Aq3 C R H1 Tryz.f146 Bh8 [(0,.slice s sn sc)] h =
 cond s.isNone
 (some (.slice none 0 0,h))
 (nw (.cells A1 false []) h fun b w=>gCells s (sn*1) w fun cs=>ckB (fitsOpen (some ⟨b,0,none⟩) A1 w) (apd A1 1 (some ⟨b,0,none⟩) 0 0 sn cs w fun a an ac w1=>some (.slice a an ac,w1))):=kR
def Af3:Cuts:=⟨0,[],[(8,[6,8,11,12])],[(7,⟨[0,1,2,3,4,5,6,7,8,9],[0,1,3,7,0,31,63,31,159,511],[(7,[5])],[]⟩)]⟩
def Au0:List Item:=A2 Tryz.f157
def Am1:List Item:=stk [0,1,0,1,0,1,0,1,0,1,0,1,0,0] Au0
theorem Du1 :
 xQ Af3 C R L1 Tryz.f157 Au0 [(0,.pointer c),(1,.agg ⟨r⟩),(2,decode)] h =
 nw (.cells A6 false r) h fun b w=>nw (.cells H5 false [iI 0,iI 0,iI 0,iI 0]) w fun p1 w1=>nw (.cells H5 false [iI 0,iI 0,iI 0,iI 0]) w1 fun p2 w2=>gAgg ⟨b,0,none⟩ 2 w2 fun x=>bnd (C P6 [.pointer c,.agg ⟨x⟩] w2) fun q1 w3=>as2 q1 fun q2 q3=>aSl q2 fun z1 xn xc=>aBool q3 fun z2=>cond (!z2)
 (gAgg ⟨p2,0,none⟩ 4 w3 fun z3=>ck (List.length z3=4) (pAgg ⟨p1,0,none⟩ z3 w3 fun w4=>gAgg ⟨p1,0,none⟩ 4 w4 fun z4=>some (.tuple ⟨[.agg ⟨z4⟩,iI 2]⟩,w4)))
 (aFn decode fun g fi cp=>bnd (C g (fi++([.slice z1 xn xc]++cp)) w3) fun q4 w5=>as2 q4 fun q5 q6=>aAgg q5 fun z5=>aInt .i64 q6 fun z6=>nw (.cells H5 false [iI 0,iI 0,iI 0,iI 0]) w5 fun p3 w6=>ck (List.length z5=4) (pAgg ⟨p3,0,none⟩ z5 w6 fun w7=>cond (z6==2)
 (aSome c fun p=>gMap (add p 3) w7 fun z7=>gAgg ⟨b,0,none⟩ 2 w7 fun z8=>keyN PR A6 (.agg ⟨z8⟩) (opt z7 fun q7=>mapAt w7 q7 fun es _=>opt (An1 (iI 0) (.agg ⟨z8⟩) es) fun f=>aInt .i64 f.1 fun z9=>keyN PR A6 (.agg ⟨z8⟩) (opt z7 fun q8=>mapAt w7 q8 fun es_1 cl_1=>opt (Ed7 (iI 0) (.agg ⟨z8⟩) es_1 cl_1) fun f_1=>aInt .i64 f_1.1 fun _=>lt (H.set w7 q8 f_1.2.2) fun w8=>keyN PR A6 (.agg ⟨z8⟩) (opt z7 fun q9=>mapAt w8 q9 fun es_2 _=>opt (An1 (iI 0) (.agg ⟨z8⟩) es_2) fun f_2=>aInt .i64 f_2.1 fun z11=>same (iI z9) (iI z11) (opt z7 fun q10=>mapAt w8 q10 fun es_3 cl_3=>opt (Bs0 (f_1.2.1:Int) es_3 0) fun i=>lt (H.set w8 q10 (.map (modN (fun e=>{ e with val:=iI (wrap .i64 (z9+1)) }) i es_3) cl_3)) fun w9=>R L1 Am1 [(6,pP p1),(8,pP p2),(11,pP p3),(12,iI z6)] w9)))))
 (R L1 Am1 [(6,pP p1),(8,pP p2),(11,pP p3),(12,iI z6)] w7))):=kR
theorem A88 (x6:Addr) (v:Addr) (isv:Int) :
 xQ Af3 C R L1 Tryz.f157 Am1 [(6,.pointer (some x6)),(8,.pointer (some nonev)),(11,.pointer (some v)),(12,iI isv)] h =
 cond (isv != 1)
 (gAgg nonev 4 h fun x=>ck (List.length x=4) (pAgg x6 x h fun w=>gAgg x6 4 w fun z1=>some (.tuple ⟨[.agg ⟨z1⟩,iI isv]⟩,w)))
 (gAgg v 4 h fun z2=>ck (List.length z2=4) (pAgg x6 z2 h fun w1=>gAgg x6 4 w1 fun z3=>some (.tuple ⟨[.agg ⟨z3⟩,iI isv]⟩,w1))):=kR
def Ah4:Cuts:=⟨0,[(2,[0,1,7,8])],[],[]⟩
def Aw6:List Item:=A2 Tryz.f165
def Aa7:List Item:=stk [0,1,0,0,1,4,5] Aw6
theorem D14 :
 xQ Ah4 C R H9 Tryz.f165 Aw6 [(0,.slice s sn sc),(1,iI v)] h =
 R H9 Aa7 [(0,.slice s sn sc),(1,iI v),(7,iI (sn:Int)),(8,iI 0)] h:=kR
theorem Bb7 (x8:Int) :
 xQ Ah4 C R H9 Tryz.f165 Aa7 [(0,.slice s sn sc),(1,iI v),(7,iI x7),(8,iI x8)] h =
 cond (decide (x8<x7))
 (aSome s fun p=>ck ((0:Int)≤x8∧x8<(sn:Int)) (gInt .i64 (add (B0 p) (Int.toNat x8*1)) h fun x=>cond (v==x)
 (some (iI x8,h))
 (R H9 Aa7 [(0,.slice s sn sc),(1,iI v),(7,iI x7),(8,iI (wrap .i64 (x8+1)))] h)))
 (some (iI (-1),h)):=kR
def Bo0:Cuts:=⟨0,[(7,[1,3,52,53,54]),(13,[1,3,63,64,65])],[],[]⟩
def B79:List Item:=A2 Tryz.f190
def Bm6:List Item:=stk [0,1,0,1,0,1,0,1,0,0,1,4,5] B79
def Bl3:List Item:=stk [0,1,0,1,0,1,0,1,0,1,0,0,1,4,5] B79
theorem Hk6 (c:List Value) :
 xQ Bo0 C R U5 Tryz.f190 B79 [(0,.agg ⟨c⟩)] h =
 nw (.cells E4 false c) h fun b w=>gSl ⟨b,0,none⟩ w fun _ xn _=>bnd (cond (decide ((xn:Int)<1)) (some (true,w)) (gSl ⟨b,0,none⟩ w fun _ xn_1 _=>some (decide ((xn_1:Int)>4),w))) fun c_1 w1=>bnd (cond c_1 (some (true,w1)) (gSl ⟨b,1,none⟩ w1 fun _ xn_2 _=>some (decide ((xn_2:Int)>40),w1))) fun c_2 w2=>bnd (cond c_2 (some (true,w2)) (gSl ⟨b,2,none⟩ w2 fun _ xn_3 _=>some (decide ((xn_3:Int)>8),w2))) fun c_3 w3=>bnd (cond c_3 (some (true,w3)) (gSl ⟨b,4,none⟩ w3 fun _ xn_4 _=>some (decide ((xn_4:Int)>16),w3))) fun c_4 w4=>bnd (cond c_4 (some (true,w4)) (gInt .i64 ⟨b,3,none⟩ w4 fun z5=>some (decide (z5<1),w4))) fun c_5 w5=>bnd (cond c_5 (some (true,w5)) (gInt .i64 ⟨b,3,none⟩ w5 fun z6=>some (decide (z6>1000),w5))) fun c_6 w6=>cond c_6
 (some (.bool false,w6))
 (gSl ⟨b,1,none⟩ w6 fun z7 xn_5 xc_5=>bnd (C E7 [.slice z7 xn_5 xc_5,.func (.func H4) ⟨[]⟩ ⟨[pP b]⟩] w6) fun r w7=>aBool r fun z8=>cond z8
 (some (.bool false,w7))
 (gSl ⟨b,2,none⟩ w7 fun z9 xn_6 xc_6=>R U5 Bm6 [(1,pP b),(3,.func (.func H4) ⟨[]⟩ ⟨[pP b]⟩),(52,.slice z9 xn_6 xc_6),(53,iI (xn_6:Int)),(54,iI 0)] w7)):=kR
theorem D73 (c:Addr) (x52:Option Addr) (x52n x52c:Nat) (x53:Int) :
 xQ Bo0 C R U5 Tryz.f190 Bm6 [(1,.pointer (some c)),(3,.func (.func H4) ⟨[]⟩ ⟨[.pointer (some nonev)]⟩),(52,.slice x52 x52n x52c),(53,iI x53),(54,iI x54)] h =
 cond (decide (x54<x53))
 (aSome x52 fun p=>ck ((0:Int)≤x54∧x54<(x52n:Int)) (gSl (add (B0 p) (Int.toNat x54*1)) h fun x xn xc=>bnd (C E7 [.slice x xn xc,.func (.func H4) ⟨[]⟩ ⟨[.pointer (some nonev)]⟩] h) fun r w=>aBool r fun z1=>cond z1
 (some (.bool false,w))
 (R U5 Bm6 [(1,.pointer (some c)),(3,.func (.func H4) ⟨[]⟩ ⟨[.pointer (some nonev)]⟩),(52,.slice x52 x52n x52c),(53,iI x53),(54,iI (wrap .i64 (x54+1)))] w)))
 (gSl (add c 4) h fun z2 xn_1 xc_1=>R U5 Bl3 [(1,.pointer (some c)),(3,.func (.func H4) ⟨[]⟩ ⟨[.pointer (some nonev)]⟩),(63,.slice z2 xn_1 xc_1),(64,iI (xn_1:Int)),(65,iI 0)] h):=kR
theorem D86 (c:Addr) (x63:Option Addr) (x63n x63c:Nat) (x64:Int) (x65:Int) :
 xQ Bo0 C R U5 Tryz.f190 Bl3 [(1,.pointer (some c)),(3,.func (.func H4) ⟨[]⟩ ⟨[.pointer (some nonev)]⟩),(63,.slice x63 x63n x63c),(64,iI x64),(65,iI x65)] h =
 cond (decide (x65<x64))
 (aSome x63 fun p=>ck ((0:Int)≤x65∧x65<(x63n:Int)) (gAgg (add (B0 p) (Int.toNat x65*5)) 5 h fun x=>nw (.cells J4 false [iI 0,iI 0,iI 0,iI 0,.slice none 0 0]) h fun b w=>ck (List.length x=5) (pAgg ⟨b,0,none⟩ x w fun w1=>gAgg c 5 w1 fun z1=>gAgg ⟨b,0,none⟩ 5 w1 fun z2=>bnd (C B77 [.agg ⟨z1⟩,.agg ⟨z2⟩] w1) fun r w2=>aBool r fun z3=>bnd (cond (!z3) (some (true,w2)) (gSl ⟨b,4,none⟩ w2 fun z4 xn xc=>bnd (C E7 [.slice z4 xn xc,.func (.func H4) ⟨[]⟩ ⟨[.pointer (some nonev)]⟩] w2) fun q1 w3=>aBool q1 fun z5=>some (z5,w3))) fun c_1 w4=>cond c_1
 (some (.bool false,w4))
 (R U5 Bl3 [(1,.pointer (some c)),(3,.func (.func H4) ⟨[]⟩ ⟨[.pointer (some nonev)]⟩),(63,.slice x63 x63n x63c),(64,iI x64),(65,iI (wrap .i64 (x65+1)))] w4))))
 (some (.bool true,h)):=kR
def Dx6:Cuts:=⟨0,[],[],[]⟩
def E70:List Item:=A2 Tryz.f196
theorem Ho6 :
 xQ Dx6 C R Da7 Tryz.f196 E70 [(0,.pointer m),(1,.pointer s)] h =
 nw (.cells Dx1 false [.pointer m,.pointer s,.slice none 0 0]) h fun b w=>some (pP b,w):=kR
def Bf3:Cuts:=⟨0,[],[],[]⟩
def B91:List Item:=A2 Tryz.f198
theorem Ek8 (r:Option Addr) :
 xQ Bf3 C R At8 Tryz.f198 B91 [(0,.pointer r),(1,iI lo),(2,iI n)] h =
 bnd (cond (decide (lo<0)) (some (true,h)) (some (decide (n<0),h))) fun c w=>bnd (cond c (some (true,w)) (aSome r fun p=>gPtr (add p 0) w fun x=>bnd (C Ba6 [.pointer x] w) fun q1 w1=>aInt .i64 q1 fun z1=>some (decide (lo>z1),w1))) fun c_1 w2=>bnd (cond c_1 (some (true,w2)) (aSome r fun p_1=>gPtr (add p_1 0) w2 fun z2=>bnd (C Ba6 [.pointer z2] w2) fun q2 w3=>aInt .i64 q2 fun z3=>some (decide (n>(wrap .i64 (z3-lo))),w3))) fun c_2 w4=>cond c_2
 (some (.tuple ⟨[iI 0,iI 1]⟩,w4))
 (aSome r fun p_2=>gSl (add p_2 2) w4 fun _ xn _=>cond (decide ((xn:Int)≥32))
 (some (.tuple ⟨[iI 0,iI 4]⟩,w4))
 (aSome r fun p_3=>gSl (add p_3 2) w4 fun z5 xn_1 xc_1=>nw (.cells A05 false [iI lo,iI n]) w4 fun b w5=>gCells (some ⟨b,0,none⟩) (1*2) w5 fun cs=>ckB (fitsOpen z5 A05 w5) (apd A05 2 z5 xn_1 xc_1 1 cs w5 fun a an ac w6=>aSome r fun p_4=>pV (add p_4 2) (.slice a an ac) w6 fun w7=>aSome r fun p_5=>gSl (add p_5 2) w7 fun _ xn_2 _=>some (.tuple ⟨[iI (wrap .i64 ((xn_2:Int)-1)),iI 0]⟩,w7)))):=kR
def Bm8:Cuts:=⟨0,[(3,[0,3,4])],[],[(5,⟨[0,1,2,3,4,5,6,7,8,9,10,11,12,13,14,15,16],[0,0,2,6,14,0,0,96,224,480,992,2016,4064,8190,16383,32767,65535],[],[]⟩)]⟩
def B94:List Item:=A2 Tryz.f201
def A32:List Item:=stk [0,1,0,1,0,0,1,4,5] B94
theorem Gy4 :
 xQ Bm8 C R Ab1 Tryz.f201 B94 [(0,.slice l ln lc)] h =
 nw (.cells E55 false [.slice none 0 0]) h fun b w=>R Ab1 A32 [(0,.slice l ln lc),(3,pP b),(4,iI 0)] w:=kR
theorem Dm8 (q:Addr) :
 xQ Bm8 C R Ab1 Tryz.f201 A32 [(0,.slice l ln lc),(3,.pointer (some q)),(4,iI i)] h =
 bnd (cond (decide (i<(ln:Int))) (some (decide (i<4),h)) (some (false,h))) fun c w=>cond c
 (gSl (add q 0) w fun x xn xc=>aSome l fun p=>ck ((0:Int)≤i∧i<(ln:Int)) (gInt .i64 (add (B0 p) (Int.toNat i*1)) w fun z1=>ck ((0:Int)≤mm2 false (mm2 true z1 0) 64∧(mm2 false (mm2 true z1 0) 64:Int)≤mm2 false (mm2 true z1 0) 64∧mm2 false (mm2 true z1 0) 64≤(A5:Int)) (nw (.cells Gt8 false (I0 (Int.toNat (mm2 false (mm2 true z1 0) 64)) [.bool false])) w fun b w1=>nw (.cells D07 false [.slice (some ⟨b,0,none⟩) (Int.toNat (mm2 false (mm2 true z1 0) 64)) (Int.toNat (mm2 false (mm2 true z1 0) 64))]) w1 fun p1 w2=>gCells (some ⟨p1,0,none⟩) (1*1) w2 fun cs=>ckB (fitsOpen x D07 w2) (apd D07 1 x xn xc 1 cs w2 fun a an ac w3=>pV (add q 0) (.slice a an ac) w3 fun w4=>R Ab1 A32 [(0,.slice l ln lc),(3,.pointer (some q)),(4,iI (wrap .i64 (i+1)))] w4))))
 (some (.pointer (some q),w)):=kR
def A10:Cuts:=⟨0,[(3,[0,1,5,6])],[],[]⟩
def Bn3:List Item:=A2 Tryz.f202
def Ap1:List Item:=stk [0,1,0,1,0,0,1,4,5] Bn3
theorem E69 (s:Int) :
 xQ A10 C R O9 Tryz.f202 Bn3 [(0,.pointer q),(1,iI s)] h =
 R O9 Ap1 [(0,.pointer q),(1,iI s),(5,iI 0),(6,iI 0)] h:=kR
theorem B47 (s:Int) :
 xQ A10 C R O9 Tryz.f202 Ap1 [(0,.pointer q),(1,iI s),(5,iI n),(6,iI i)] h =
 cond (decide (i<s))
 (aSome q fun p=>gSl (add p 0) h fun x xn _=>aSome x fun p_1=>ck ((0:Int)≤i∧i<(xn:Int)) (gSl (add (B0 p_1) (Int.toNat i*1)) h fun _ xn_1 _=>R O9 Ap1 [(0,.pointer q),(1,iI s),(5,iI (wrap .i64 (n+(xn_1:Int)))),(6,iI (wrap .i64 (i+1)))] h))
 (some (iI n,h)):=kR
def D89:Cuts:=⟨0,[(2,[0,1,5])],[],[]⟩
def E20:List Item:=A2 Tryz.f206
def B87:List Item:=stk [0,1,0,0,1,4,5] E20
theorem Ik7 (s:Int) :
 xQ D89 C R Bb5 Tryz.f206 E20 [(0,.slice l ln lc),(1,iI s)] h =
 R Bb5 B87 [(0,.slice l ln lc),(1,iI s),(5,iI 0)] h:=kR
theorem E75 (s:Int) :
 xQ D89 C R Bb5 Tryz.f206 B87 [(0,.slice l ln lc),(1,iI s),(5,iI i)] h =
 cond (decide (i<(ln:Int)))
 (aSome l fun p=>ck ((0:Int)≤i∧i<(ln:Int)) (gInt .i64 (add (B0 p) (Int.toNat i*1)) h fun x=>cond (x==s)
 (some (.bool true,h))
 (R Bb5 B87 [(0,.slice l ln lc),(1,iI s),(5,iI (wrap .i64 (i+1)))] h)))
 (some (.bool false,h)):=kR
def Bn0:Cuts:=⟨0,[],[],[]⟩
def Dm2:List Item:=A2 Tryz.f209
theorem E49 :
 xQ Bn0 C R Ao4 Tryz.f209 Dm2 [(0,.pointer s),(1,iI env)] h =
 bnd (C Ah1 [.pointer s,iI env] h) fun r w=>aBool r fun x=>cond (!x)
 (some (.slice none 0 0,w))
 (aSome s fun p=>gSl (add p 0) w fun z1 xn _=>aSome z1 fun p_1=>ck ((0:Int)≤env∧env<(xn:Int)) (gPtr (add (B0 p_1) (Int.toNat env*1)) w fun z2=>bnd (C G2 [.pointer z2] w) fun q1 w1=>aSl q1 fun z3 xn_1 xc_1=>some (.slice z3 xn_1 xc_1,w1))):=kR
def A40:Cuts:=⟨0,[],[],[]⟩
def Bx6:List Item:=A2 Tryz.f212
theorem Ea6 (r:Option Addr) :
 xQ A40 C R Ab7 Tryz.f212 Bx6 [(0,.pointer r),(1,iI env),(2,iI name),(3,iI atv),(4,.slice b bn bc)] h =
 bnd (C Ac0 [.pointer r,iI env,iI name,iI 2,iI atv,iI (bn:Int)] h) fun q1 w=>as2 q1 fun q2 q3=>aInt .i64 q2 fun x=>aInt .i64 q3 fun z1=>cond (z1 != 0)
 (some (iI z1,w))
 (aSome r fun p=>gPtr (add p 0) w fun z2=>bnd (C Bl6 [.pointer z2,iI x,.slice b bn bc] w) fun q4 w1=>aInt .i64 q4 fun z3=>some (iI z3,w1)):=kR
def Bp7:Cuts:=⟨0,[],[],[]⟩
def Dl8:List Item:=A2 Tryz.f214
theorem E34 (give:Int) :
 xQ Bp7 C R A17 Tryz.f214 Dl8 [(0,.pointer s),(1,iI env),(2,iI name),(3,iI to),(4,iI give),(5,iI lo),(6,iI n)] h =
 bnd (C Ay2 [.pointer s,iI env,iI name] h) fun r w=>as2 r fun q1 q2=>aAgg q1 fun x=>aInt .i64 q2 fun z1=>nw (.cells P9 false [iI 0,iI 0,iI 0,iI 0,iI 0,iI 0]) w fun b w1=>ck (List.length x=6) (pAgg ⟨b,0,none⟩ x w1 fun w2=>cond (z1 != 0)
 (some (.tuple ⟨[iI 0,iI z1]⟩,w2))
 (gInt .i64 ⟨b,1,none⟩ w2 fun z2=>bnd (cond ((B4 .i64 z2 4)==0) (some (true,w2)) (gInt .i64 ⟨b,1,none⟩ w2 fun z3=>some ((Q4 .i64 give z3) != 0,w2))) fun c w3=>cond c
 (some (.tuple ⟨[iI 0,iI 3]⟩,w3))
 (bnd (C Ah1 [.pointer s,iI to] w3) fun q3 w4=>aBool q3 fun z4=>bnd (cond (!z4) (some (true,w4)) (some (decide (lo<0),w4))) fun c_1 w5=>bnd (cond c_1 (some (true,w5)) (some (decide (n<0),w5))) fun c_2 w6=>bnd (cond c_2 (some (true,w6)) (gInt .i64 ⟨b,3,none⟩ w6 fun z5=>some (decide (lo>z5),w6))) fun c_3 w7=>bnd (cond c_3 (some (true,w7)) (gInt .i64 ⟨b,3,none⟩ w7 fun z6=>some (decide (n>(wrap .i64 (z6-lo))),w7))) fun c_4 w8=>cond c_4
 (some (.tuple ⟨[iI 0,iI 1]⟩,w8))
 (gInt .i64 ⟨b,0,none⟩ w8 fun z7=>gInt .i64 ⟨b,2,none⟩ w8 fun z8=>bnd (C Ax9 [.pointer s,iI to,.agg ⟨[iI z7,iI give,iI (wrap .i64 (z8+lo)),iI n,iI env,iI name]⟩] w8) fun q4 w9=>as2 q4 fun q5 q6=>aInt .i64 q5 fun z9=>aInt .i64 q6 fun z10=>some (.tuple ⟨[iI z9,iI z10]⟩,w9))))):=kR
def Bv0:Cuts:=⟨0,[],[],[]⟩
def Dq0:List Item:=A2 Tryz.f219
theorem Gf8 (c:List Value) :
 xQ Bv0 C R A78 Tryz.f219 Dq0 [(0,.pointer k),(1,iI env),(2,.agg ⟨c⟩)] h =
 nw (.cells As4 false c) h fun b w=>gInt .i64 ⟨b,3,none⟩ w fun x=>bnd (C Aw9 [.pointer k,iI env,iI x] w) fun r w1=>as2 r fun q1 q2=>aPtr q1 fun z1=>aInt .i64 q2 fun z2=>bnd (cond (z2==0) (gInt .i64 ⟨b,2,none⟩ w1 fun z3=>bnd (C A73 [.pointer z1,iI env,iI z3] w1) fun q3 w2=>aBool q3 fun z4=>some (!z4,w2)) (some (false,w1))) fun c_1 w3=>cond c_1
 (some (iI 8,w3))
 (some (iI z2,w3)):=kR
def Be8:Cuts:=⟨0,[],[],[(6,⟨[0,1,2,3,4,5,6,7,8,9,10,11,12,13,14,15,16,17,18,19,20,21],[0,0,0,4,15,31,63,127,255,511,1023,2047,4095,8191,4095,20479,53247,118783,249855,524287,1048575,2097151],[],[]⟩),(8,⟨[0,1,2,3,4,5,6,7,8,9,10,11,12,13,14,15,16,17,18,19,20,21,22,23,24,25,26,27,28,29,30],[0,1,0,0,8,24,56,0,128,504,1016,2047,4095,8191,16383,32767,16383,131071,16383,16383,540671,1589247,3686399,16383,8404991,33046527,66600959,134217727,268435455,536870911,1073741823],[],[]⟩),(10,⟨[0,1,2,3,4,5,6,7,8,9,10,11,12,13,14],[0,1,3,7,0,16,63,127,0,256,1023,0,4095,8191,16383],[],[]⟩)]⟩
def B65:List Item:=A2 Tryz.f220
theorem Es3 (r:Option Addr) (right:Int) :
 xQ Be8 C R Ah2 Tryz.f220 B65 [(0,.pointer r),(1,iI e),(2,iI name),(3,iI right),(4,iI atv),(5,iI n)] h =
 aSome r fun p=>gPtr (add p 3) h fun x=>bnd (C Be5 [.pointer x,iI e,iI name] h) fun q1 w=>as2 q1 fun q2 q3=>aAgg q2 fun z1=>aInt .i64 q3 fun z2=>nw (.cells P9 false [iI 0,iI 0,iI 0,iI 0,iI 0,iI 0]) w fun b w1=>ck (List.length z1=6) (pAgg ⟨b,0,none⟩ z1 w1 fun w2=>cond (z2 != 0)
 (some (.tuple ⟨[iI 0,iI z2]⟩,w2))
 (gInt .i64 ⟨b,1,none⟩ w2 fun z3=>cond ((B4 .i64 z3 right)==0)
 (some (.tuple ⟨[iI 0,iI 3]⟩,w2))
 (gInt .i64 ⟨b,3,none⟩ w2 fun z4=>bnd (C Aj0 [iI atv,iI n,iI z4] w2) fun q4 w3=>aBool q4 fun z5=>bnd (cond (!z5) (some (true,w3)) (gInt .i64 ⟨b,0,none⟩ w3 fun z6=>some (decide (z6<0),w3))) fun c w4=>bnd (cond c (some (true,w4)) (gInt .i64 ⟨b,0,none⟩ w4 fun z7=>aSome r fun p_1=>gSl (add p_1 1) w4 fun _ xn _=>some (decide (z7≥(xn:Int)),w4))) fun c_1 w5=>cond c_1
 (some (.tuple ⟨[iI 0,iI 1]⟩,w5))
 (gInt .i64 ⟨b,2,none⟩ w5 fun z9=>aSome r fun p_2=>gSl (add p_2 2) w5 fun z10 xn_1 _=>gInt .i64 ⟨b,0,none⟩ w5 fun z11=>aSome z10 fun p_3=>ck ((0:Int)≤z11∧z11<(xn_1:Int)) (gInt .i64 (add (B0 p_3) (Int.toNat z11*1)) w5 fun z12=>bnd (C Aj0 [iI z9,iI atv,iI z12] w5) fun q5 w6=>aBool q5 fun z13=>bnd (cond (!z13) (some (true,w6)) (gInt .i64 ⟨b,2,none⟩ w6 fun z14=>aSome r fun p_4=>gSl (add p_4 2) w6 fun z15 xn_2 _=>gInt .i64 ⟨b,0,none⟩ w6 fun z16=>aSome z15 fun p_5=>ck ((0:Int)≤z16∧z16<(xn_2:Int)) (gInt .i64 (add (B0 p_5) (Int.toNat z16*1)) w6 fun z17=>bnd (C Aj0 [iI (wrap .i64 (z14+atv)),iI n,iI z17] w6) fun q6 w7=>aBool q6 fun z18=>some (!z18,w7)))) fun c_2 w8=>cond c_2
 (some (.tuple ⟨[iI 0,iI 1]⟩,w8))
 (aSome r fun p_6=>gSl (add p_6 1) w8 fun z19 xn_3 _=>gInt .i64 ⟨b,0,none⟩ w8 fun z20=>aSome z19 fun p_7=>ck ((0:Int)≤z20∧z20<(xn_3:Int)) (gInt .i64 (add (B0 p_7) (Int.toNat z20*1)) w8 fun z21=>gInt .i64 ⟨b,2,none⟩ w8 fun z22=>some (.tuple ⟨[iI (wrap .i64 ((wrap .i64 (z21+z22))+atv)),iI 0]⟩,w8)))))))):=kR
def B22:Cuts:=⟨0,[],[],[]⟩
def D29:List Item:=A2 Tryz.f222
theorem Gp4 :
 xQ B22 C R Am4 Tryz.f222 D29 [(0,.pointer s),(1,iI e)] h =
 bnd (cond (decide (e≥0)) (aSome s fun p=>gSl (add p 0) h fun _ xn _=>some (decide (e<(xn:Int)),h)) (some (false,h))) fun c w=>some (.bool c,w):=kR
def Aj6:Cuts:=⟨0,[],[],[(2,⟨[0,1,2,3,4,5,6,7,8,9,10,11,12,13,14],[0,1,3,7,15,31,63,127,255,511,63,63,4095,8191,16383],[],[]⟩)]⟩
def A61:List Item:=A2 Tryz.f231
theorem Dd0 (v:List Value) :
 xQ Aj6 C R W7 Tryz.f231 A61 [(0,.pointer c),(1,.agg ⟨v⟩)] h =
 nw (.cells B1 false v) h fun b w=>aSome c fun p=>gInt .i64 (add p 0) w fun x=>ck ((0:Int)≤x∧(x:Int)≤x∧x≤(A5:Int)) (nw (.cells A1 false (I0 (Int.toNat x) [.int .u8 0])) w fun p1 w1=>aSome c fun p_1=>gFv (add p_1 1) w1 fun z1=>isNilF z1 fun p2=>bnd (cond p2 (some (true,w1)) (aSome c fun p_2=>gFv (add p_2 1) w1 fun z2=>gAgg ⟨b,0,none⟩ 16 w1 fun z3=>aFn z2 fun g fi cp=>bnd (C g (fi++([.agg ⟨z3⟩,.slice (some ⟨p1,0,none⟩) (Int.toNat x) (Int.toNat x)]++cp)) w1) fun r w2=>aBool r fun z4=>some (!z4,w2))) fun c_1 w3=>cond c_1
 (some (.tuple ⟨[.slice none 0 0,.bool false]⟩,w3))
 (some (.tuple ⟨[.slice (some ⟨p1,0,none⟩) (Int.toNat x) (Int.toNat x),.bool true]⟩,w3))):=kR
def Ab9:Cuts:=⟨0,[],[],[]⟩
def Av5:List Item:=A2 Tryz.f233
theorem Bx7 :
 xQ Ab9 C R R0 Tryz.f233 Av5 [(0,.slice s sn sc),(1,f)] h =
 bnd (C G3 [.slice s sn sc,f] h) fun r w=>aInt .i64 r fun x=>some (.bool (decide (x≥0)),w):=kR
def A99:Cuts:=⟨0,[(7,[0,2,4,5]),(12,[0,2,6,7])],[],[(9,⟨[0,1,2,3,4,5,6,7,8,9,10,11,12,13,14,15,16],[0,0,0,4,12,30,62,126,0,0,512,1536,3840,7936,16382,32767,65535],[],[]⟩),(10,⟨[0,1,2,3,4,5,6,7,8,9,10,11,12,13,14,15,16,17,18,19,20,21,22],[0,1,3,0,8,24,0,64,192,0,512,1536,0,4096,0,16384,0,65536,0,262144,1048575,0,4194303],[],[]⟩)]⟩
def Bt5:List Item:=A2 Tryz.f239
def A79:List Item:=stk [0,1,0,1,0,1,0,1,0,0,1,4,5] Bt5
def A68:List Item:=stk [0,1,0,1,0,1,0,1,0,1,0,1,0,0,1,4,5] Bt5
theorem G33 (b:ByteArray) :
 xQ A99 C R O5 Tryz.f239 Bt5 [(0,.string b)] h =
 nw (.cells B1 false zZ1) h fun p1 w=>cond (((ByteArray.size b:Nat):Int) != 24)
 (pAgg ⟨p1,0,none⟩ zZ1 w fun w1=>gAgg ⟨p1,0,none⟩ 16 w1 fun x=>some (.tuple ⟨[.agg ⟨x⟩,iI 2]⟩,w1))
 (bnd (C Ac5 [.string b] w) fun r w2=>aBool r fun z1=>cond z1
 (pAgg ⟨p1,0,none⟩ zZ1 w2 fun w3=>gAgg ⟨p1,0,none⟩ 16 w3 fun z2=>some (.tuple ⟨[.agg ⟨z2⟩,iI 0]⟩,w3))
 (nw (.cells G11 false [iI 0,iI 0,iI 0,iI 0]) w2 fun p2 w4=>pAgg ⟨p2,0,none⟩ [iI 0,iI 0,iI 0,iI 0] w4 fun w5=>R O5 A79 [(0,.string b),(2,pP p1),(4,pP p2),(5,iI 0)] w5)):=kR
theorem Dp8 (b:ByteArray) (two:Addr) :
 xQ A99 C R O5 Tryz.f239 A79 [(0,.string b),(2,.pointer (some x2)),(4,.pointer (some two)),(5,iI i)] h =
 cond (decide (i<4))
 (ck ((0:Int)≤wrap .i64 (4+(wrap .i64 (2*i)))∧wrap .i64 (4+(wrap .i64 (2*i)))<((ByteArray.size b:Nat):Int)) (ck ((0:Int)≤wrap .i64 (5+(wrap .i64 (2*i)))∧wrap .i64 (5+(wrap .i64 (2*i)))<((ByteArray.size b:Nat):Int)) (ck ((0:Int)≤i∧i<((4:Nat):Int)) (pV (add two (Int.toNat i*1)) (iI (Dy7 .i64 (wrap .i64 ((wrap .i64 (((List.getD (ByteArray.data b).toList (Int.toNat (wrap .i64 (4+(wrap .i64 (2*i))))) 0).toNat:Int)))*2 ^ 8)) (wrap .i64 (((List.getD (ByteArray.data b).toList (Int.toNat (wrap .i64 (5+(wrap .i64 (2*i))))) 0).toNat:Int))))) h fun w=>R O5 A79 [(0,.string b),(2,.pointer (some x2)),(4,.pointer (some two)),(5,iI (wrap .i64 (i+1)))] w))))
 (ck ((0:Int)≤0∧0<((ByteArray.size b:Nat):Int)) (ck ((0:Int)≤1∧1<((ByteArray.size b:Nat):Int)) (ck ((0:Int)≤2∧2<((ByteArray.size b:Nat):Int)) (ck ((0:Int)≤3∧3<((ByteArray.size b:Nat):Int)) (ck ((0:Int)≤0∧0<((4:Nat):Int)) (gInt .i64 (add two (Int.toNat 0*1)) h fun x=>ck ((0:Int)≤1∧1<((4:Nat):Int)) (gInt .i64 (add two (Int.toNat 1*1)) h fun z1=>ck ((0:Int)≤2∧2<((4:Nat):Int)) (gInt .i64 (add two (Int.toNat 2*1)) h fun z2=>ck ((0:Int)≤3∧3<((4:Nat):Int)) (gInt .i64 (add two (Int.toNat 3*1)) h fun z3=>nw (.cells B1 false zZ1) h fun p1 w1=>pAgg ⟨p1,0,none⟩ [iI (wrap .i64 (((List.getD (ByteArray.data b).toList (Int.toNat 0) 0).toNat:Int))),iI (wrap .i64 (((List.getD (ByteArray.data b).toList (Int.toNat 1) 0).toNat:Int))),iI (wrap .i64 (((List.getD (ByteArray.data b).toList (Int.toNat 2) 0).toNat:Int))),iI (wrap .i64 (((List.getD (ByteArray.data b).toList (Int.toNat 3) 0).toNat:Int))),iI x,iI z1,iI z2,iI z3,iI 0,iI 0,iI 0,iI 0,iI 0,iI 0,iI 0,iI 0] w1 fun w2=>R O5 A68 [(0,.string b),(2,.pointer (some x2)),(6,pP p1),(7,iI 0)] w2))))))))):=kR
theorem Dp7 (b:ByteArray) (p:Addr) :
 xQ A99 C R O5 Tryz.f239 A68 [(0,.string b),(2,.pointer (some x2)),(6,.pointer (some p)),(7,iI i)] h =
 cond (decide (i<8))
 (ck ((0:Int)≤wrap .i64 (12+i)∧wrap .i64 (12+i)<((ByteArray.size b:Nat):Int)) (ck ((0:Int)≤i∧i<((8:Nat):Int)) (pV (add (add p 8) (Int.toNat i*1)) (iI (wrap .i64 (((List.getD (ByteArray.data b).toList (Int.toNat (wrap .i64 (12+i))) 0).toNat:Int)))) h fun w=>R O5 A68 [(0,.string b),(2,.pointer (some x2)),(6,.pointer (some p)),(7,iI (wrap .i64 (i+1)))] w)))
 (gAgg p 16 h fun x=>bnd (C Ad6 [.agg ⟨x⟩] h) fun r w1=>aBool r fun z1=>bnd (cond (!z1) (some (true,w1)) (gAgg p 16 w1 fun z2=>bnd (C N5 [.agg ⟨z2⟩] w1) fun q1 w2=>aStr q1 fun z3=>some (!(z3.toList==b.toList),w2))) fun c w3=>cond c
 (pAgg x2 zZ1 w3 fun w4=>gAgg x2 16 w4 fun z4=>some (.tuple ⟨[.agg ⟨z4⟩,iI 2]⟩,w4))
 (gAgg p 16 w3 fun z5=>ck (List.length z5=16) (pAgg x2 z5 w3 fun w5=>gAgg x2 16 w5 fun z6=>some (.tuple ⟨[.agg ⟨z6⟩,iI 1]⟩,w5)))):=kR
def Bv3:Cuts:=⟨0,[],[],[]⟩
def Dr1:List Item:=A2 Tryz.f248
theorem Gf4 :
 xQ Bv3 C R Ai5 Tryz.f248 Dr1 [(0,.slice b bn bc)] h =
 cond ((bn:Int) != 4)
 (some (.tuple ⟨[iI 0,iI 2]⟩,h))
 (aSome b fun p=>ck ((0:Int)≤0∧0<(bn:Int)) (gInt .u8 (add (B0 p) (Int.toNat 0*1)) h fun x=>bnd (C At7 [iI (wrap .i64 (x))] h) fun r w=>as2 r fun q1 q2=>aSl q1 fun z1 xn _=>aBool q2 fun z2=>bnd (cond (!z2) (some (true,w)) (gCells z1 xn w fun cs=>asBytes cs fun l=>gCells b bn w fun cs_1=>asBytes cs_1 fun l_1=>some (!((ByteArray.mk ⟨l⟩).toList==(ByteArray.mk ⟨l_1⟩).toList),w))) fun c w1=>cond c
 (some (.tuple ⟨[iI 0,iI 2]⟩,w1))
 (aSome b fun p_1=>ck ((0:Int)≤0∧0<(bn:Int)) (gInt .u8 (add (B0 p_1) (Int.toNat 0*1)) w1 fun z3=>some (.tuple ⟨[iI (wrap .i64 (z3)),iI 1]⟩,w1))))):=kR
def Af7:Cuts:=⟨0,[],[],[]⟩
def Az3:List Item:=A2 Tryz.f261
theorem Az4 :
 xQ Af7 C R E7 Tryz.f261 Az3 [(0,.slice s sn sc),(1,f)] h =
 bnd (C D9 [.slice s sn sc,f] h) fun r w=>aInt .i64 r fun x=>some (.bool (decide (x≥0)),w):=kR
def E59:Cuts:=⟨0,[],[],[]⟩
def G80:List Item:=A2 Tryz.f276
theorem In0 :
 xQ E59 C R D66 Tryz.f276 G80 [(0,.agg ⟨p⟩)] h =
 nw (.cells E5 false p) h fun b w=>gInt .i64 ⟨b,0,none⟩ w fun x=>bnd (C Av4 [iI x,iI 31] w) fun r w1=>aBool r fun z1=>bnd (cond z1 (gInt .i64 ⟨b,1,none⟩ w1 fun z2=>bnd (C Av4 [iI z2,iI 32] w1) fun q1 w2=>aBool q1 fun z3=>some (z3,w2)) (some (false,w1))) fun c w3=>bnd (cond c (gInt .i64 ⟨b,2,none⟩ w3 fun z4=>bnd (C Av4 [iI z4,iI 8] w3) fun q2 w4=>aBool q2 fun z5=>some (z5,w4)) (some (false,w3))) fun c_1 w5=>bnd (cond c_1 (gInt .i64 ⟨b,3,none⟩ w5 fun z6=>bnd (C Av4 [iI z6,iI 8] w5) fun q3 w6=>aBool q3 fun z7=>some (z7,w6)) (some (false,w5))) fun c_2 w7=>some (.bool c_2,w7):=kR
def B81:Cuts:=⟨0,[],[],[]⟩
def D60:List Item:=A2 Tryz.f290
theorem Gt9 :
 xQ B81 C R Ah1 Tryz.f290 D60 [(0,.pointer s),(1,iI env)] h =
 bnd (cond (decide (env≥0)) (aSome s fun p=>gSl (add p 0) h fun _ xn _=>some (decide (env<(xn:Int)),h)) (some (false,h))) fun c w=>some (.bool c,w):=kR
def Bk9:Cuts:=⟨0,[(3,[0,3,4])],[],[]⟩
def B82:List Item:=A2 Tryz.f292
def A36:List Item:=stk [0,1,0,1,0,0,1,4,5] B82
theorem Gz2 :
 xQ Bk9 C R Ab2 Tryz.f292 B82 [(0,iI size)] h =
 nw (.cells E99 false [.slice none 0 0]) h fun b w=>R Ab2 A36 [(0,iI size),(3,pP b),(4,iI 0)] w:=kR
theorem Dm1 (n:Addr) :
 xQ Bk9 C R Ab2 Tryz.f292 A36 [(0,iI size),(3,.pointer (some n)),(4,iI i)] h =
 bnd (cond (decide (i<size)) (some (decide (i<256),h)) (some (false,h))) fun c w=>cond c
 (gSl (add n 0) w fun x xn xc=>nw (.cells Bm9 false [iI 1,.bool false]) w fun b w1=>gCells (some ⟨b,0,none⟩) (1*2) w1 fun cs=>ckB (fitsOpen x Bm9 w1) (apd Bm9 2 x xn xc 1 cs w1 fun a an ac w2=>pV (add n 0) (.slice a an ac) w2 fun w3=>R Ab2 A36 [(0,iI size),(3,.pointer (some n)),(4,iI (wrap .i64 (i+1)))] w3))
 (some (.pointer (some n),w)):=kR
def Aa5:Cuts:=⟨0,[(3,[0,3,9,10,11])],[],[]⟩
def Ao5:List Item:=A2 Tryz.f293
def P1:List Item:=stk [0,1,0,1,0,0,1,4,5] Ao5
theorem Dm3 :
 xQ Aa5 C R G2 Tryz.f293 Ao5 [(0,.pointer t)] h =
 aSome t fun p=>gSl (add p 0) h fun x xn xc=>R G2 P1 [(0,.pointer t),(3,.slice none 0 0),(9,.slice x xn xc),(10,iI (xn:Int)),(11,iI 0)] h:=kR
theorem A19 :
 xQ Aa5 C R G2 Tryz.f293 P1 [(0,.pointer t),(3,.slice out outn outc),(9,.slice x9 x9n x9c),(10,iI x10),(11,iI x11)] h =
 cond (decide (x11<x10))
 (aSome x9 fun p=>ck ((0:Int)≤x11∧x11<(x9n:Int)) (gAgg (add (B0 p) (Int.toNat x11*8)) 8 h fun x=>nw (.cells Ap9 false [iI 0,iI 0,iI 0,iI 0,iI 0,iI 0,iI 0,.bool false]) h fun b w=>ck (List.length x=8) (pAgg ⟨b,0,none⟩ x w fun w1=>gBool ⟨b,7,none⟩ w1 fun z1=>cond z1
 (bnd (C O4 [.pointer t,iI x11] w1) fun r w2=>aInt .i64 r fun z2=>nw (.cells B2 false [iI z2]) w2 fun p1 w3=>gCells (some ⟨p1,0,none⟩) (1*1) w3 fun cs=>ckB (fitsOpen out B2 w3) (apd B2 1 out outn outc 1 cs w3 fun a an ac w4=>R G2 P1 [(0,.pointer t),(3,.slice a an ac),(9,.slice x9 x9n x9c),(10,iI x10),(11,iI (wrap .i64 (x11+1)))] w4))
 (R G2 P1 [(0,.pointer t),(3,.slice out outn outc),(9,.slice x9 x9n x9c),(10,iI x10),(11,iI (wrap .i64 (x11+1)))] w1))))
 (some (.slice out outn outc,h)):=kR
def B20:Cuts:=⟨0,[],[],[(1,⟨[0,1,2,3,4,5,6,7,8,9,10,11,12,13,14,15,16,17,18,19,20,21,22,23,24,25,26,27,28],[0,1,3,7,7,23,55,119,247,511,1023,2047,4095,8191,16383,32767,4095,131071,262143,4095,528383,1576959,3674111,4095,16257023,33034239,67108863,134217727,268435455],[],[]⟩)]⟩
def D27:List Item:=A2 Tryz.f302
theorem Gn3 :
 xQ B20 C R Aw9 Tryz.f302 D27 [(0,.pointer k),(1,iI env),(2,iI n)] h =
 bnd (cond (decide (n<0)) (some (true,h)) (aSome k fun p=>gSl (add p 6) h fun _ xn _=>some (decide (n≥(xn:Int)),h))) fun c w=>bnd (cond c (some (true,w)) (aSome k fun p_1=>gSl (add p_1 1) w fun z1 xn_1 _=>aSome z1 fun p_2=>ck ((0:Int)≤n∧n<(xn_1:Int)) (gSl (add (B0 p_2) (Int.toNat n*1)) w fun z2 xn_2 xc_2=>aSome k fun p_3=>gSl (add p_3 0) w fun z3 xn_3 _=>aSome z3 fun p_4=>ck ((0:Int)≤env∧env<(xn_3:Int)) (gInt .i64 (add (B0 p_4) (Int.toNat env*1)) w fun z4=>bnd (C N3 [.slice z2 xn_2 xc_2,iI z4] w) fun r w1=>aBool r fun z5=>some (!z5,w1))))) fun c_1 w2=>cond c_1
 (some (.tuple ⟨[.pointer none,iI 8]⟩,w2))
 (aSome k fun p_5=>gSl (add p_5 6) w2 fun z6 xn_4 _=>aSome z6 fun p_6=>ck ((0:Int)≤n∧n<(xn_4:Int)) (gPtr (add (B0 p_6) (Int.toNat n*1)) w2 fun z7=>some (.tuple ⟨[.pointer z7,iI 0]⟩,w2))):=kR
def Bu8:Cuts:=⟨0,[],[],[]⟩
def Dp9:List Item:=A2 Tryz.f304
theorem Ge7 (who:Int) (stamp:Int) :
 xQ Bu8 C R A73 Tryz.f304 Dp9 [(0,.pointer s),(1,iI who),(2,iI stamp)] h =
 bnd (C A72 [.pointer s,iI who,iI stamp] h) fun r w=>aBool r fun x=>cond (!x)
 (some (.bool false,w))
 (aSome s fun p=>pV (add p 1) (.bool false) w fun w1=>aSome s fun p_1=>gInt .i64 (add p_1 7) w1 fun z1=>aSome s fun p_2=>pV (add p_2 6) (iI z1) w1 fun w2=>some (.bool true,w2)):=kR
def Bf6:Cuts:=⟨0,[(2,[0,4])],[],[]⟩
def B09:List Item:=A2 Tryz.f306
def Az2:List Item:=stk [0,1,0,0,1,4,5] B09
theorem Gl7 (n:Option Addr) :
 xQ Bf6 C R Y4 Tryz.f306 B09 [(0,.pointer n)] h =
 R Y4 Az2 [(0,.pointer n),(4,iI 0)] h:=kR
theorem Dd3 (n:Option Addr) :
 xQ Bf6 C R Y4 Tryz.f306 Az2 [(0,.pointer n),(4,iI i)] h =
 aSome n fun p=>gSl (add p 0) h fun _ xn _=>cond (decide (i<(xn:Int)))
 (aSome n fun p_1=>gSl (add p_1 0) h fun z1 xn_1 _=>aSome z1 fun p_2=>ck ((0:Int)≤i∧i<(xn_1:Int)) (gBool (add (add (B0 p_2) (Int.toNat i*2)) 1) h fun z2=>bnd (cond (!z2) (aSome n fun p_3=>gSl (add p_3 0) h fun z3 xn_2 _=>aSome z3 fun p_4=>ck ((0:Int)≤i∧i<(xn_2:Int)) (gInt .i64 (add (add (B0 p_4) (Int.toNat i*2)) 0) h fun z4=>some (decide (z4≤1000000),h))) (some (false,h))) fun c w=>cond c
 (aSome n fun p_5=>gSl (add p_5 0) w fun z5 xn_3 _=>aSome z5 fun p_6=>ck ((0:Int)≤i∧i<(xn_3:Int)) (pV (add (add (B0 p_6) (Int.toNat i*2)) 1) (.bool true) w fun w1=>aSome n fun p_7=>gSl (add p_7 0) w1 fun z6 xn_4 _=>aSome z6 fun p_8=>ck ((0:Int)≤i∧i<(xn_4:Int)) (gInt .i64 (add (add (B0 p_8) (Int.toNat i*2)) 0) w1 fun z7=>some (.tuple ⟨[iI (wrap .i64 (i+(wrap .i64 (256*z7)))),.bool true]⟩,w1))))
 (R Y4 Az2 [(0,.pointer n),(4,iI (wrap .i64 (i+1)))] w)))
 (some (.tuple ⟨[iI 0,.bool false]⟩,h)):=kR
def Ad0:Cuts:=⟨0,[(4,[0,1,12,13])],[],[(6,⟨[0,1,2,3,4,5,6,7,8],[0,0,3,7,0,0,48,112,255],[],[]⟩)]⟩
def Aq7:List Item:=A2 Tryz.f314
def W3:List Item:=stk [0,1,0,1,0,0,1,4,5] Aq7
theorem Do3 :
 xQ Ad0 C R B9 Tryz.f314 Aq7 [(0,.slice s1 s1n s1c),(1,.slice s2 s2n s2c)] h =
 cond ((s1n:Int) != (s2n:Int))
 (some (.bool false,h))
 (R B9 W3 [(0,.slice s1 s1n s1c),(1,.slice s2 s2n s2c),(12,iI (s1n:Int)),(13,iI 0)] h):=kR
theorem A62 (x12:Int) (x13:Int) :
 xQ Ad0 C R B9 Tryz.f314 W3 [(0,.slice s1 s1n s1c),(1,.slice s2 s2n s2c),(12,iI x12),(13,iI x13)] h =
 cond (decide (x13<x12))
 (aSome s1 fun p=>ck ((0:Int)≤x13∧x13<(s1n:Int)) (gInt .u8 (add (B0 p) (Int.toNat x13*1)) h fun x=>aSome s2 fun p_1=>ck ((0:Int)≤x13∧x13<(s2n:Int)) (gInt .u8 (add (B0 p_1) (Int.toNat x13*1)) h fun z1=>cond (x != z1)
 (some (.bool false,h))
 (R B9 W3 [(0,.slice s1 s1n s1c),(1,.slice s2 s2n s2c),(12,iI x12),(13,iI (wrap .i64 (x13+1)))] h))))
 (some (.bool true,h)):=kR
def A91:Cuts:=⟨0,[],[],[]⟩
def B34:List Item:=A2 Tryz.f315
theorem Eh4 :
 xQ A91 C R Ap0 Tryz.f315 B34 [(0,.pointer c),(1,.agg ⟨r⟩)] h =
 nw (.cells A6 false r) h fun b w=>gInt .i64 ⟨b,1,none⟩ w fun x=>gInt .i64 ⟨b,0,none⟩ w fun z1=>cond (z1==1)
 (bnd (cond (decide (x≥0)) (some (decide (x<8),w)) (some (false,w))) fun c_1 w1=>some (.tuple ⟨[iI 0,iI (wrap .i64 (24*(mm2 false (mm2 true x 0) 7))),iI 24,.bool c_1]⟩,w1))
 (cond (z1==2)
 (bnd (cond (decide (x≥0)) (some (decide (x<12),w)) (some (false,w))) fun c_2 w2=>some (.tuple ⟨[iI 0,iI (wrap .i64 (192+(wrap .i64 (8*(mm2 false (mm2 true x 0) 11))))),iI 8,.bool c_2]⟩,w2))
 (cond (z1==3)
 (bnd (cond (decide (x≥4)) (aSome c fun p=>gSl (add p 2) w fun _ xn _=>some (decide ((wrap .i64 (x-3))<(xn:Int)),w)) (some (false,w))) fun c_3 w3=>cond c_3
 (some (.tuple ⟨[iI (wrap .i64 (x-3)),iI 0,iI 40,.bool true]⟩,w3))
 (bnd (cond (decide (x≥0)) (some (decide (x<4),w3)) (some (false,w3))) fun c_4 w4=>some (.tuple ⟨[iI 0,iI (wrap .i64 (288+(wrap .i64 (40*(mm2 false (mm2 true x 0) 3))))),iI 40,.bool c_4]⟩,w4)))
 (cond (z1==4)
 (some (.tuple ⟨[iI 0,iI 448,iI 40,.bool true]⟩,w))
 (some (.tuple ⟨[iI 0,iI 488,iI 4,.bool true]⟩,w))))):=kR
def Db0:Cuts:=⟨0,[(2,[0,3])],[],[]⟩
def Dw9:List Item:=A2 Tryz.f317
def Bl7:List Item:=stk [0,1,0,0,1,4,5] Dw9
theorem Hg6 (b:ByteArray) :
 xQ Db0 C R Ac5 Tryz.f317 Dw9 [(0,.string b)] h =
 R Ac5 Bl7 [(0,.string b),(3,iI 0)] h:=kR
theorem D85 (b:ByteArray) :
 xQ Db0 C R Ac5 Tryz.f317 Bl7 [(0,.string b),(3,iI i)] h =
 cond (decide (i<((ByteArray.size b:Nat):Int)))
 (ck ((0:Int)≤i∧i<((ByteArray.size b:Nat):Int)) (cond (((List.getD (ByteArray.data b).toList (Int.toNat i) 0).toNat:Int) != 0)
 (some (.bool false,h))
 (R Ac5 Bl7 [(0,.string b),(3,iI (wrap .i64 (i+1)))] h)))
 (some (.bool true,h)):=kR
def Z1:Cuts:=⟨0,[(2,[0,1,7,8])],[],[]⟩
def Al5:List Item:=A2 Tryz.f321
def N9:List Item:=stk [0,1,0,0,1,4,5] Al5
theorem A87 :
 xQ Z1 C R D9 Tryz.f321 Al5 [(0,.slice s sn sc),(1,f)] h =
 R D9 N9 [(0,.slice s sn sc),(1,f),(7,iI (sn:Int)),(8,iI 0)] h:=kR
theorem U6 (x8:Int) :
 xQ Z1 C R D9 Tryz.f321 N9 [(0,.slice s sn sc),(1,f),(7,iI x7),(8,iI x8)] h =
 cond (decide (x8<x7))
 (aSome s fun p=>ck ((0:Int)≤x8∧x8<(sn:Int)) (gInt .i64 (add (B0 p) (Int.toNat x8*1)) h fun x=>aFn f fun g fi cp=>bnd (C g (fi++([iI x]++cp)) h) fun r w=>aBool r fun z1=>cond z1
 (some (iI x8,w))
 (R D9 N9 [(0,.slice s sn sc),(1,f),(7,iI x7),(8,iI (wrap .i64 (x8+1)))] w)))
 (some (iI (-1),h)):=kR
def Eb2:Cuts:=⟨0,[],[],[(1,⟨[0,1,2,3,4,5,6,7,8,9,10,11,12,13,14,15,16,17,18],[0,1,3,7,0,16,48,112,0,256,768,1792,0,4096,12288,28672,65535,0,262143],[],[]⟩),(3,⟨[0,1,2,3,4,5,6,7,8],[0,0,2,6,6,30,62,63,255],[(5,[0])],[]⟩)]⟩
def Gj2:List Item:=A2 Tryz.f325
theorem H02 :
 xQ Eb2 C R Av9 Tryz.f325 Gj2 [(0,.slice b bn bc)] h =
 nw (.cells H5 false [iI 0,iI 0,iI 0,iI 0]) h fun p1 w=>aSome b fun p=>ck ((0:Int)≤0∧0<(bn:Int)) (gInt .u8 (add (B0 p) (Int.toNat 0*1)) w fun x=>aSome b fun p_1=>ck ((0:Int)≤1∧1<(bn:Int)) (gInt .u8 (add (B0 p_1) (Int.toNat 1*1)) w fun z1=>aSome b fun p_2=>ck ((0:Int)≤2∧2<(bn:Int)) (gInt .u8 (add (B0 p_2) (Int.toNat 2*1)) w fun z2=>aSome b fun p_3=>ck ((0:Int)≤3∧3<(bn:Int)) (gInt .u8 (add (B0 p_3) (Int.toNat 3*1)) w fun z3=>nw (.cells H5 false [iI 0,iI 0,iI 0,iI 0]) w fun p2 w1=>pAgg ⟨p2,0,none⟩ [iI (wrap .i64 (x)),iI (wrap .i64 (z1)),iI (wrap .i64 (z2)),iI (wrap .i64 (z3))] w1 fun w2=>gAgg ⟨p2,0,none⟩ 4 w2 fun z4=>bnd (C Bb3 [.agg ⟨z4⟩] w2) fun r w3=>as2 r fun q1 q2=>aSl q1 fun z5 xn xc=>aBool q2 fun z6=>gAgg ⟨p2,0,none⟩ 4 w3 fun z7=>bnd (cond z6 (bnd (C B9 [.slice z5 xn xc,.slice b bn bc] w3) fun q3 w4=>aBool q3 fun z8=>gAgg ⟨p2,0,none⟩ 4 w4 fun z9=>same (.agg ⟨z7⟩) (.agg ⟨z9⟩) (some (z8,w4))) (some (false,w3))) fun c w5=>ck (List.length z7=4) (pAgg ⟨p1,0,none⟩ z7 w5 fun w6=>gAgg ⟨p1,0,none⟩ 4 w6 fun z10=>some (.tuple ⟨[.agg ⟨z10⟩,.bool c]⟩,w6)))))):=kR
def Ar9:Cuts:=⟨0,[],[],[]⟩
def Bl2:List Item:=A2 Tryz.f333
theorem Dr5 :
 xQ Ar9 C R Af2 Tryz.f333 Bl2 [(0,.pointer t),(1,iI name)] h =
 nw (.cells P9 false [iI 0,iI 0,iI 0,iI 0,iI 0,iI 0]) h fun b w=>bnd (C Ag4 [.pointer t,iI name] w) fun r w1=>aPtr r fun x=>cond x.isNone
 (nw (.cells P9 false [iI 0,iI 0,iI 0,iI 0,iI 0,iI 0]) w1 fun p1 w2=>gAgg ⟨p1,0,none⟩ 6 w2 fun z1=>ck (List.length z1=6) (pAgg ⟨b,0,none⟩ z1 w2 fun w3=>gAgg ⟨b,0,none⟩ 6 w3 fun z2=>some (.tuple ⟨[.agg ⟨z2⟩,.bool false]⟩,w3)))
 (aSome x fun p=>gAgg (add p 0) 6 w1 fun z3=>ck (List.length z3=6) (pAgg ⟨b,0,none⟩ z3 w1 fun w4=>gAgg ⟨b,0,none⟩ 6 w4 fun z4=>some (.tuple ⟨[.agg ⟨z4⟩,.bool true]⟩,w4))):=kR
def D00:Cuts:=⟨0,[],[],[]⟩
def E29:List Item:=A2 Tryz.f339
theorem Hn1 (f:Int) :
 xQ D00 C R Bo5 Tryz.f339 E29 [(0,iI f)] h =
 bnd (cond (decide (f<0)) (some (true,h)) (some (decide (f>12),h))) fun c w=>some (.bool c,w):=kR
end
end Go.EQ

set_option maxRecDepth 100000
namespace Go.EQ
open Go Go.NN Go.Proofs
open Go.IntKind (wrap)
open Go.Addr (add)
variable (C:D1) (R:Aa4) (fv0 nonev v x2 x4 x6:Addr) (wasBalanced wasPartitioned:Bool) (h:H) (a atv e env fd g i isv j k kind length limit n name now pivot size target who x10 x11 x13 x14 x15 x16:Int) (f p x:List Value) (bc bn datac datan outc outn x9c x9n:Nat) (b c data m out q r s x9:Option Addr) (cmp decode:Value)
noncomputable section
def Ea7:Cuts:=⟨0,[],[],[]⟩
def Gi6:List Item:=A2 Tryz.f19
theorem Gh0 :
 xQ Ea7 C R Ac2 Tryz.f19 Gi6 [(0,.pointer c),(1,iI i)] h =
 nw (.cells B1 false zZ1) h fun b w=>bnd (C B8 [.pointer c] w) fun r w1=>as0 r (bnd (C I9 [.pointer c,iI i] w1) fun q1 w2=>as2 q1 fun q2 q3=>aAgg q2 fun x=>aInt .i64 q3 fun z1=>nw (.cells B1 false zZ1) w2 fun p1 w3=>ck (List.length x=16) (pAgg ⟨p1,0,none⟩ x w3 fun w4=>bnd (cond (z1 != 1) (some (true,w4)) (gInt .i64 ⟨p1,0,none⟩ w4 fun z2=>some (z2 != 1,w4))) fun c_1 w5=>cond c_1
 (pAgg ⟨b,0,none⟩ zZ1 w5 fun w6=>gAgg ⟨b,0,none⟩ 16 w6 fun z3=>some (.tuple ⟨[.agg ⟨z3⟩,iI 105]⟩,w6))
 (gAgg ⟨p1,0,none⟩ 16 w5 fun z4=>ck (List.length z4=16) (pAgg ⟨b,0,none⟩ z4 w5 fun w7=>gAgg ⟨b,0,none⟩ 16 w7 fun z5=>some (.tuple ⟨[.agg ⟨z5⟩,iI 0]⟩,w7))))):=kR
def Bg8:Cuts:=⟨0,[],[],[(3,⟨[0,1,2,3,4,5,6,7,8,9,10,11,12,13,14,15,16,17,18,19,20,21,22,23,24],[0,1,3,7,0,16,48,112,0,496,1008,2032,0,4096,12288,28672,0,126976,258048,520192,1048575,2097151,2097151,8388607,16777215],[],[]⟩)]⟩
def B54:List Item:=A2 Tryz.f20
theorem Eo0 (obj:Int) :
 xQ Bg8 C R Ah7 Tryz.f20 B54 [(0,.pointer r),(1,iI obj)] h =
 bnd (cond (decide (obj<0)) (some (true,h)) (aSome r fun p=>gSl (add p 2) h fun _ xn _=>some (decide (obj≥(xn:Int)),h))) fun c w=>cond c
 (some (.tuple ⟨[.slice none 0 0,iI 1]⟩,w))
 (aSome r fun p_1=>gPtr (add p_1 0) w fun z1=>aSome r fun p_2=>gSl (add p_2 2) w fun z2 xn_1 _=>aSome z2 fun p_3=>ck ((0:Int)≤obj∧obj<(xn_1:Int)) (gInt .i64 (add (add (B0 p_3) (Int.toNat obj*2)) 0) w fun z3=>aSome r fun p_4=>gSl (add p_4 2) w fun z4 xn_2 _=>aSome z4 fun p_5=>ck ((0:Int)≤obj∧obj<(xn_2:Int)) (gInt .i64 (add (add (B0 p_5) (Int.toNat obj*2)) 1) w fun z5=>bnd (C A94 [.pointer z1,iI z3,iI z5] w) fun q1 w1=>as2 q1 fun q2 q3=>aSl q2 fun z6 xn_3 xc_3=>aInt .i64 q3 fun z7=>some (.tuple ⟨[.slice z6 xn_3 xc_3,iI z7]⟩,w1)))):=kR
def Ae1:Cuts:=⟨0,[(3,[0,3,4]),(6,[0,3,4,13,14])],[],[(9,⟨[0,1,2,3,4,5,6],[0,1,3,7,0,31,63],[],[]⟩)]⟩
def Ap6:List Item:=A2 Tryz.f21
def Y3:List Item:=stk [0,1,0,1,0,0,1,4,5] Ap6
def Y1:List Item:=stk [0,1,0,1,0,0,1,4,5,6,0,1,0,4,0,1,4,5] Ap6
theorem Ef3 :
 xQ Ae1 C R D0 Tryz.f21 Ap6 [(0,.pointer c)] h =
 R D0 Y3 [(0,.pointer c),(3,.slice none 0 0),(4,iI 1)] h:=kR
theorem Bo7 :
 xQ Ae1 C R D0 Tryz.f21 Y3 [(0,.pointer c),(3,.slice out outn outc),(4,iI kind)] h =
 cond (decide (kind≤5))
 (bnd (C U7 [.pointer c,iI kind] h) fun r w=>aInt .i64 r fun x=>R D0 Y1 [(0,.pointer c),(3,.slice out outn outc),(4,iI kind),(13,iI x),(14,iI 0)] w)
 (some (.slice out outn outc,h)):=kR
theorem Bo4 :
 xQ Ae1 C R D0 Tryz.f21 Y1 [(0,.pointer c),(3,.slice out outn outc),(4,iI kind),(13,iI x13),(14,iI x14)] h =
 cond (decide (x14<x13))
 (nw (.cells A6 false [iI 0,iI 0]) h fun b w=>pAgg ⟨b,0,none⟩ [iI kind,iI x14] w fun w1=>aSome c fun p=>gMap (add p 3) w1 fun x=>gAgg ⟨b,0,none⟩ 2 w1 fun z1=>keyN PR A6 (.agg ⟨z1⟩) (opt x fun r=>mapAt w1 r fun es _=>opt (An1 (iI 0) (.agg ⟨z1⟩) es) fun f=>aInt .i64 f.1 fun z2=>cond (decide (z2>0))
 (gAgg ⟨b,0,none⟩ 2 w1 fun z3=>ck (List.length z3=2) (nw (.cells A6 false (z3++[])) w1 fun p1 w2=>gCells (some ⟨p1,0,none⟩) (1*2) w2 fun cs=>ckB (fitsOpen out A6 w2) (apd A6 2 out outn outc 1 cs w2 fun a an ac w3=>R D0 Y1 [(0,.pointer c),(3,.slice a an ac),(4,iI kind),(13,iI x13),(14,iI (wrap .i64 (x14+1)))] w3)))
 (R D0 Y1 [(0,.pointer c),(3,.slice out outn outc),(4,iI kind),(13,iI x13),(14,iI (wrap .i64 (x14+1)))] w1)))
 (R D0 Y3 [(0,.pointer c),(3,.slice out outn outc),(4,iI (wrap .i64 (kind+1)))] h):=kR
def D92:Cuts:=⟨0,[],[],[]⟩
def Gj1:List Item:=A2 Tryz.f22
theorem H17 (code:Int) :
 xQ D92 C R Dj1 Tryz.f22 Gj1 [(0,.pointer c),(1,iI i),(2,iI code)] h =
 nw (.cells O8 false [iI 0,iI 0,.slice none 0 0,.bool false]) h fun b w=>bnd (C Ac2 [.pointer c,iI i] w) fun r w1=>as2 r fun q1 q2=>aAgg q1 fun x=>aInt .i64 q2 fun z1=>nw (.cells B1 false zZ1) w1 fun p1 w2=>ck (List.length x=16) (pAgg ⟨p1,0,none⟩ x w2 fun w3=>cond (z1 != 0)
 (bnd (C Q8 [iI z1] w3) fun q3 w4=>aAgg q3 fun z2=>ck (List.length z2=4) (pAgg ⟨b,0,none⟩ z2 w4 fun w5=>gAgg ⟨b,0,none⟩ 4 w5 fun z3=>some (.agg ⟨z3⟩,w5)))
 (bnd (C D55 [.pointer c,iI i] w3) fun q4 w6=>as0 q4 (bnd (C Hd5 [.pointer c,iI i] w6) fun q5 w7=>as0 q5 (bnd (C I9 [.pointer c,iI i] w7) fun q6 w8=>as2 q6 fun q7 q8=>aAgg q7 fun z4=>aInt .i64 q8 fun z5=>nw (.cells B1 false zZ1) w8 fun p2 w9=>ck (List.length z4=16) (pAgg ⟨p2,0,none⟩ z4 w9 fun w10=>cond (z5 != 1)
 (bnd (C Q8 [iI 105] w10) fun q9 w11=>aAgg q9 fun z6=>ck (List.length z6=4) (pAgg ⟨b,0,none⟩ z6 w11 fun w12=>gAgg ⟨b,0,none⟩ 4 w12 fun z7=>some (.agg ⟨z7⟩,w12)))
 (gInt .i64 ⟨p2,1,none⟩ w10 fun z8=>cond (decide (z8>0))
 (gInt .i64 ⟨p2,1,none⟩ w10 fun z9=>bnd (C I9 [.pointer c,iI (wrap .i64 (z9-1))] w10) fun q10 w13=>as2 q10 fun q11 q12=>aAgg q11 fun z10=>aInt .i64 q12 fun z11=>nw (.cells B1 false zZ1) w13 fun p3 w14=>ck (List.length z10=16) (pAgg ⟨p3,0,none⟩ z10 w14 fun w15=>bnd (cond (z11==1) (gInt .i64 ⟨p3,0,none⟩ w15 fun z12=>some (z12 != 2,w15)) (some (false,w15))) fun c_1 w16=>cond c_1
 (pV ⟨p2,0,none⟩ (iI 2) w16 fun w17=>pV ⟨p2,3,none⟩ (iI (Int.tmod (wrap .i64 ((Int.tmod code 256)+256)) 256)) w17 fun w18=>pV ⟨p2,4,none⟩ (iI 0) w18 fun w19=>pAgg ⟨p2,8,none⟩ [iI 0,iI 0,iI 0,iI 0,iI 0,iI 0,iI 0,iI 0] w19 fun w20=>gAgg ⟨p2,0,none⟩ 16 w20 fun z13=>bnd (C V4 [.pointer c,iI i,.agg ⟨z13⟩] w20) fun q13 w21=>aBool q13 fun z14=>bnd (C Av6 [.bool z14,iI 0] w21) fun q14 w22=>aAgg q14 fun z15=>ck (List.length z15=4) (pAgg ⟨b,0,none⟩ z15 w22 fun w23=>gAgg ⟨b,0,none⟩ 4 w23 fun z16=>some (.agg ⟨z16⟩,w23)))
 (bnd (C O2 [.pointer c,iI i] w16) fun q15 w24=>aBool q15 fun z17=>bnd (C Av6 [.bool z17,iI 0] w24) fun q16 w25=>aAgg q16 fun z18=>ck (List.length z18=4) (pAgg ⟨b,0,none⟩ z18 w25 fun w26=>gAgg ⟨b,0,none⟩ 4 w26 fun z19=>some (.agg ⟨z19⟩,w26)))))
 (bnd (C O2 [.pointer c,iI i] w10) fun q17 w27=>aBool q17 fun z20=>bnd (C Av6 [.bool z20,iI 0] w27) fun q18 w28=>aAgg q18 fun z21=>ck (List.length z21=4) (pAgg ⟨b,0,none⟩ z21 w28 fun w29=>gAgg ⟨b,0,none⟩ 4 w29 fun z22=>some (.agg ⟨z22⟩,w29))))))))):=kR
def D12:Cuts:=⟨0,[],[],[]⟩
def E80:List Item:=A2 Tryz.f34
theorem Ht1 :
 xQ D12 C R B64 Tryz.f34 E80 [] h =
 nw (.cells B62 false [.slice none 0 0,.slice none 0 0,iI 0]) h fun b w=>nw (.cells Gt8 false [.bool false,.bool false]) w fun p1 w1=>nw (.cells B98 false [iI 0,iI 1,iI 1,iI 0]) w1 fun p2 w2=>pAgg ⟨b,0,none⟩ [.slice (some ⟨p1,0,none⟩) 2 2,.slice (some ⟨p2,0,none⟩) 2 2,iI 5] w2 fun w3=>gAgg ⟨b,0,none⟩ 3 w3 fun x=>some (.agg ⟨x⟩,w3):=kR
def Ea4:Cuts:=⟨0,[],[],[]⟩
def Gh1:List Item:=A2 Tryz.f40
theorem H19 :
 xQ Ea4 C R Q8 Tryz.f40 Gh1 [(0,iI e)] h =
 nw (.cells O8 false [iI 0,iI 0,.slice none 0 0,.bool false]) h fun b w=>pAgg ⟨b,0,none⟩ [iI 0,iI e,.slice none 0 0,.bool false] w fun w1=>gAgg ⟨b,0,none⟩ 4 w1 fun x=>some (.agg ⟨x⟩,w1):=kR
def As1:Cuts:=⟨0,[],[],[]⟩
def Bl8:List Item:=A2 Tryz.f44
theorem Dr4 :
 xQ As1 C R V4 Tryz.f44 Bl8 [(0,.pointer c),(1,iI i),(2,.agg ⟨p⟩)] h =
 nw (.cells B1 false p) h fun b w=>gAgg ⟨b,0,none⟩ 16 w fun x=>bnd (C A82 [.agg ⟨x⟩] w) fun r w1=>as2 r fun q1 q2=>aSl q1 fun z1 xn xc=>aBool q2 fun z2=>bnd (C Aw2 [iI i] w1) fun q3 w2=>aAgg q3 fun z3=>bnd (C O1 [.pointer c,.agg ⟨z3⟩,.slice z1 xn xc,.bool z2] w2) fun q4 w3=>aBool q4 fun z4=>some (.bool z4,w3):=kR
def Af5:Cuts:=⟨0,[],[(8,[6,8,11,12])],[(7,⟨[0,1,2,3,4,5,6,7,8,9],[0,1,3,7,0,31,63,31,159,511],[(7,[5])],[]⟩)]⟩
def As0:List Item:=A2 Tryz.f50
def Al3:List Item:=stk [0,1,0,1,0,1,0,1,0,1,0,1,0,0] As0
theorem Du9 (r:List Value) :
 xQ Af5 C R L7 Tryz.f50 As0 [(0,.pointer c),(1,.agg ⟨r⟩),(2,decode)] h =
 nw (.cells A6 false r) h fun b w=>nw (.cells B1 false zZ1) w fun p1 w1=>nw (.cells B1 false zZ1) w1 fun p2 w2=>gAgg ⟨b,0,none⟩ 2 w2 fun x=>bnd (C P6 [.pointer c,.agg ⟨x⟩] w2) fun q1 w3=>as2 q1 fun q2 q3=>aSl q2 fun z1 xn xc=>aBool q3 fun z2=>cond (!z2)
 (gAgg ⟨p2,0,none⟩ 16 w3 fun z3=>ck (List.length z3=16) (pAgg ⟨p1,0,none⟩ z3 w3 fun w4=>gAgg ⟨p1,0,none⟩ 16 w4 fun z4=>some (.tuple ⟨[.agg ⟨z4⟩,iI 2]⟩,w4)))
 (aFn decode fun g fi cp=>bnd (C g (fi++([.slice z1 xn xc]++cp)) w3) fun q4 w5=>as2 q4 fun q5 q6=>aAgg q5 fun z5=>aInt .i64 q6 fun z6=>nw (.cells B1 false zZ1) w5 fun p3 w6=>ck (List.length z5=16) (pAgg ⟨p3,0,none⟩ z5 w6 fun w7=>cond (z6==2)
 (aSome c fun p=>gMap (add p 3) w7 fun z7=>gAgg ⟨b,0,none⟩ 2 w7 fun z8=>keyN PR A6 (.agg ⟨z8⟩) (opt z7 fun q7=>mapAt w7 q7 fun es _=>opt (An1 (iI 0) (.agg ⟨z8⟩) es) fun f=>aInt .i64 f.1 fun z9=>keyN PR A6 (.agg ⟨z8⟩) (opt z7 fun q8=>mapAt w7 q8 fun es_1 cl_1=>opt (Ed7 (iI 0) (.agg ⟨z8⟩) es_1 cl_1) fun f_1=>aInt .i64 f_1.1 fun _=>lt (H.set w7 q8 f_1.2.2) fun w8=>keyN PR A6 (.agg ⟨z8⟩) (opt z7 fun q9=>mapAt w8 q9 fun es_2 _=>opt (An1 (iI 0) (.agg ⟨z8⟩) es_2) fun f_2=>aInt .i64 f_2.1 fun z11=>same (iI z9) (iI z11) (opt z7 fun q10=>mapAt w8 q10 fun es_3 cl_3=>opt (Bs0 (f_1.2.1:Int) es_3 0) fun i=>lt (H.set w8 q10 (.map (modN (fun e=>{ e with val:=iI (wrap .i64 (z9+1)) }) i es_3) cl_3)) fun w9=>R L7 Al3 [(6,pP p1),(8,pP p2),(11,pP p3),(12,iI z6)] w9)))))
 (R L7 Al3 [(6,pP p1),(8,pP p2),(11,pP p3),(12,iI z6)] w7))):=kR
theorem A96 :
 xQ Af5 C R L7 Tryz.f50 Al3 [(6,.pointer (some x6)),(8,.pointer (some nonev)),(11,.pointer (some v)),(12,iI isv)] h =
 cond (isv != 1)
 (gAgg nonev 16 h fun x=>ck (List.length x=16) (pAgg x6 x h fun w=>gAgg x6 16 w fun z1=>some (.tuple ⟨[.agg ⟨z1⟩,iI isv]⟩,w)))
 (gAgg v 16 h fun z2=>ck (List.length z2=16) (pAgg x6 z2 h fun w1=>gAgg x6 16 w1 fun z3=>some (.tuple ⟨[.agg ⟨z3⟩,iI isv]⟩,w1))):=kR
def Dg9:Cuts:=⟨0,[],[],[]⟩
def Ee8:List Item:=A2 Tryz.f51
theorem G09 :
 xQ Dg9 C R Aw2 Tryz.f51 Ee8 [(0,iI i)] h =
 nw (.cells A6 false [iI 0,iI 0]) h fun b w=>pAgg ⟨b,0,none⟩ [iI 1,iI i] w fun w1=>gAgg ⟨b,0,none⟩ 2 w1 fun x=>some (.agg ⟨x⟩,w1):=kR
def Be0:Cuts:=⟨0,[],[],[]⟩
def Da6:List Item:=A2 Tryz.f66
theorem En6 :
 xQ Be0 C R L5 Tryz.f66 Da6 [(0,.pointer c),(1,iI i)] h =
 nw (.cells B1 false zZ1) h fun b w=>bnd (C D2 [.pointer c] w) fun r w1=>as0 r (bnd (C Z0 [.pointer c,iI i] w1) fun q1 w2=>as2 q1 fun q2 q3=>aAgg q2 fun x=>aInt .i64 q3 fun z1=>nw (.cells B1 false zZ1) w2 fun p1 w3=>ck (List.length x=16) (pAgg ⟨p1,0,none⟩ x w3 fun w4=>bnd (cond (z1 != 1) (some (true,w4)) (gInt .i64 ⟨p1,0,none⟩ w4 fun z2=>some (z2 != 1,w4))) fun c_1 w5=>cond c_1
 (pAgg ⟨b,0,none⟩ zZ1 w5 fun w6=>gAgg ⟨b,0,none⟩ 16 w6 fun z3=>some (.tuple ⟨[.agg ⟨z3⟩,iI 105]⟩,w6))
 (gAgg ⟨p1,0,none⟩ 16 w5 fun z4=>ck (List.length z4=16) (pAgg ⟨b,0,none⟩ z4 w5 fun w7=>gAgg ⟨b,0,none⟩ 16 w7 fun z5=>some (.tuple ⟨[.agg ⟨z5⟩,iI 0]⟩,w7))))):=kR
def A42:Cuts:=⟨0,[],[],[]⟩
def By4:List Item:=A2 Tryz.f69
theorem Eb6 :
 xQ A42 C R U7 Tryz.f69 By4 [(0,.pointer c),(1,iI kind)] h =
 cond (kind==1)
 (some (iI 8,h))
 (cond (kind==2)
 (some (iI 12,h))
 (cond (kind==3)
 (aSome c fun p=>gSl (add p 2) h fun _ xn _=>some (iI (wrap .i64 ((wrap .i64 (4+(xn:Int)))-1)),h))
 (some (iI 1,h)))):=kR
def Dp2:Cuts:=⟨0,[],[],[]⟩
def Ev8:List Item:=A2 Tryz.f103
theorem Hd9 (k:Option Addr) :
 xQ Dp2 C R Bz5 Tryz.f103 Ev8 [(0,.pointer k),(1,iI env)] h =
 bnd (cond k.isNone (some (true,h)) (bnd (C Ar0 [.pointer k] h) fun r w=>aPtr r fun x=>bnd (C Ao4 [.pointer x,iI env] w) fun q1 w1=>aSl q1 fun _ xn _=>some ((xn:Int)==0,w1))) fun c w2=>cond c
 (some (.tuple ⟨[.pointer none,iI 1]⟩,w2))
 (bnd (C Ar0 [.pointer k] w2) fun q2 w3=>aPtr q2 fun z2=>bnd (C Ao4 [.pointer z2,iI env] w3) fun q3 w4=>aSl q3 fun z3 xn_1 xc_1=>nw (.map [] 0) w4 fun b w5=>nw (.cells Dq8 false [.pointer k,iI env,.slice z3 xn_1 xc_1,.map (some b)]) w5 fun p1 w6=>some (.tuple ⟨[pP p1,iI 0]⟩,w6)):=kR
def Bj6:Cuts:=⟨0,[],[],[]⟩
def Dd7:List Item:=A2 Tryz.f107
theorem Ey3 :
 xQ Bj6 C R Az1 Tryz.f107 Dd7 [(0,.pointer r),(1,iI e),(2,iI name),(3,iI atv),(4,iI n)] h =
 bnd (C Ah2 [.pointer r,iI e,iI name,iI 1,iI atv,iI n] h) fun q1 w=>as2 q1 fun q2 q3=>aInt .i64 q2 fun x=>aInt .i64 q3 fun z1=>cond (z1 != 0)
 (some (.tuple ⟨[.string (ByteArray.mk ⟨[]⟩),iI z1]⟩,w))
 (aSome r fun p=>gSl (add p 0) w fun z2 _ xc=>ckB (fitsOpen z2 A1 w) (ck ((0:Int)≤wrap .i64 (x+n)∧wrap .i64 (x+n)≤(xc:Int)) (ck ((0:Int)≤x∧x≤((Int.toNat (wrap .i64 (x+n)):Nat):Int)) (gCells (G4 z2 (decide (Int.toNat x<xc)) ((Int.toNat x)*1)) ((Int.toNat (wrap .i64 (x+n)))-(Int.toNat x)) w fun cs=>asBytes cs fun l=>some (.tuple ⟨[.string (ByteArray.mk ⟨l⟩),iI 0]⟩,w))))):=kR
def Aj2:Cuts:=⟨0,[],[],[(4,⟨[0,1,2,3,4,10,5,6,7,8,9,11,12],[0,1,3,7,0,16,63,127,255,255,0,1535,4095],[(5,[3])],[]⟩)]⟩
def A58:List Item:=A2 Tryz.f126
theorem Dd1 :
 xQ Aj2 C R W1 Tryz.f126 A58 [(0,.pointer c),(1,.slice b bn bc)] h =
 nw (.cells B1 false zZ1) h fun p1 w=>nw (.cells B1 false zZ1) w fun p2 w1=>aSome c fun p=>gFv (add p 2) w1 fun x=>isNilF x fun p3=>bnd (cond p3 (some (true,w1)) (aSome c fun p_1=>gInt .i64 (add p_1 0) w1 fun z1=>some ((bn:Int) != z1,w1))) fun c_1 w2=>cond c_1
 (gAgg ⟨p2,0,none⟩ 16 w2 fun z2=>ck (List.length z2=16) (pAgg ⟨p1,0,none⟩ z2 w2 fun w3=>gAgg ⟨p1,0,none⟩ 16 w3 fun z3=>some (.tuple ⟨[.agg ⟨z3⟩,.bool false]⟩,w3)))
 (aSome c fun p_2=>gFv (add p_2 2) w2 fun z4=>nw (.cells B1 false zZ1) w2 fun p4 w4=>bnd (C H1 [.slice b bn bc] w4) fun r w5=>aSl r fun z5 xn xc=>gFv (add p_2 2) w5 fun z6=>Bt4 (z4) (z6) (aFn z4 fun g fi cp=>bnd (C g (fi++([.slice z5 xn xc]++cp)) w5) fun q1 w6=>as2 q1 fun q2 q3=>aAgg q2 fun z7=>aBool q3 fun z8=>ck (List.length z7=16) (pAgg ⟨p4,0,none⟩ z7 w6 fun w7=>cond (!z8)
 (gAgg ⟨p2,0,none⟩ 16 w7 fun z9=>ck (List.length z9=16) (pAgg ⟨p1,0,none⟩ z9 w7 fun w8=>gAgg ⟨p1,0,none⟩ 16 w8 fun z10=>some (.tuple ⟨[.agg ⟨z10⟩,.bool false]⟩,w8)))
 (gAgg ⟨p4,0,none⟩ 16 w7 fun z11=>ck (List.length z11=16) (pAgg ⟨p1,0,none⟩ z11 w7 fun w9=>gAgg ⟨p1,0,none⟩ 16 w9 fun z12=>some (.tuple ⟨[.agg ⟨z12⟩,.bool true]⟩,w9)))))):=kR
def Be2:Cuts:=⟨0,[],[],[(6,⟨[0,1,2,3,4,5,6],[0,0,0,0,14,31,63],[(4,[0])],[]⟩)]⟩
def B99:List Item:=A2 Tryz.f128
theorem Eq0 :
 xQ Be2 C R Z0 Tryz.f128 B99 [(0,.pointer c),(1,iI i)] h =
 nw (.cells B1 false zZ1) h fun b w=>nw (.cells A6 false [iI 0,iI 0]) w fun p1 w1=>pAgg ⟨p1,0,none⟩ [iI 1,iI i] w1 fun w2=>gAgg ⟨p1,0,none⟩ 2 w2 fun x=>bnd (C U4 [.pointer c,.agg ⟨x⟩] w2) fun r w3=>as2 r fun q1 q2=>aStr q1 fun z1=>aBool q2 fun z2=>cond (!z2)
 (pAgg ⟨b,0,none⟩ zZ1 w3 fun w4=>gAgg ⟨b,0,none⟩ 16 w4 fun z3=>some (.tuple ⟨[.agg ⟨z3⟩,iI 2]⟩,w4))
 (bnd (C O5 [.string z1] w3) fun q3 w5=>as2 q3 fun q4 q5=>aAgg q4 fun z4=>aInt .i64 q5 fun z5=>nw (.cells B1 false zZ1) w5 fun p2 w6=>ck (List.length z4=16) (pAgg ⟨p2,0,none⟩ z4 w6 fun w7=>gAgg ⟨p2,0,none⟩ 16 w7 fun z6=>gAgg ⟨p1,0,none⟩ 2 w7 fun z7=>bnd (C Z2 [.pointer c,.agg ⟨z7⟩,iI z5] w7) fun q6 w8=>aInt .i64 q6 fun z8=>gAgg ⟨p2,0,none⟩ 16 w8 fun z9=>same (.agg ⟨z6⟩) (.agg ⟨z9⟩) (ck (List.length z6=16) (pAgg ⟨b,0,none⟩ z6 w8 fun w9=>gAgg ⟨b,0,none⟩ 16 w9 fun z10=>some (.tuple ⟨[.agg ⟨z10⟩,iI z8]⟩,w9))))):=kR
def Ae7:Cuts:=⟨0,[],[(8,[6,8,11,12])],[(7,⟨[0,1,2,3,4,5,6,7,8,9],[0,1,3,7,0,31,63,31,159,511],[(7,[5])],[]⟩)]⟩
def As5:List Item:=A2 Tryz.f160
def Al6:List Item:=stk [0,1,0,1,0,1,0,1,0,1,0,1,0,0] As5
theorem Dr7 (r:List Value) :
 xQ Ae7 C R I7 Tryz.f160 As5 [(0,.pointer c),(1,.agg ⟨r⟩),(2,decode)] h =
 nw (.cells A6 false r) h fun b w=>nw (.cells E5 false zZ4) w fun p1 w1=>nw (.cells E5 false zZ4) w1 fun p2 w2=>gAgg ⟨b,0,none⟩ 2 w2 fun x=>bnd (C P6 [.pointer c,.agg ⟨x⟩] w2) fun q1 w3=>as2 q1 fun q2 q3=>aSl q2 fun z1 xn xc=>aBool q3 fun z2=>cond (!z2)
 (gAgg ⟨p2,0,none⟩ 36 w3 fun z3=>ck (List.length z3=36) (pAgg ⟨p1,0,none⟩ z3 w3 fun w4=>gAgg ⟨p1,0,none⟩ 36 w4 fun z4=>some (.tuple ⟨[.agg ⟨z4⟩,iI 2]⟩,w4)))
 (aFn decode fun g fi cp=>bnd (C g (fi++([.slice z1 xn xc]++cp)) w3) fun q4 w5=>as2 q4 fun q5 q6=>aAgg q5 fun z5=>aInt .i64 q6 fun z6=>nw (.cells E5 false zZ4) w5 fun p3 w6=>ck (List.length z5=36) (pAgg ⟨p3,0,none⟩ z5 w6 fun w7=>cond (z6==2)
 (aSome c fun p=>gMap (add p 3) w7 fun z7=>gAgg ⟨b,0,none⟩ 2 w7 fun z8=>keyN PR A6 (.agg ⟨z8⟩) (opt z7 fun q7=>mapAt w7 q7 fun es _=>opt (An1 (iI 0) (.agg ⟨z8⟩) es) fun f=>aInt .i64 f.1 fun z9=>keyN PR A6 (.agg ⟨z8⟩) (opt z7 fun q8=>mapAt w7 q8 fun es_1 cl_1=>opt (Ed7 (iI 0) (.agg ⟨z8⟩) es_1 cl_1) fun f_1=>aInt .i64 f_1.1 fun _=>lt (H.set w7 q8 f_1.2.2) fun w8=>keyN PR A6 (.agg ⟨z8⟩) (opt z7 fun q9=>mapAt w8 q9 fun es_2 _=>opt (An1 (iI 0) (.agg ⟨z8⟩) es_2) fun f_2=>aInt .i64 f_2.1 fun z11=>same (iI z9) (iI z11) (opt z7 fun q10=>mapAt w8 q10 fun es_3 cl_3=>opt (Bs0 (f_1.2.1:Int) es_3 0) fun i=>lt (H.set w8 q10 (.map (modN (fun e=>{ e with val:=iI (wrap .i64 (z9+1)) }) i es_3) cl_3)) fun w9=>R I7 Al6 [(6,pP p1),(8,pP p2),(11,pP p3),(12,iI z6)] w9)))))
 (R I7 Al6 [(6,pP p1),(8,pP p2),(11,pP p3),(12,iI z6)] w7))):=kR
theorem Bb0 :
 xQ Ae7 C R I7 Tryz.f160 Al6 [(6,.pointer (some x6)),(8,.pointer (some nonev)),(11,.pointer (some v)),(12,iI isv)] h =
 cond (isv != 1)
 (gAgg nonev 36 h fun x=>ck (List.length x=36) (pAgg x6 x h fun w=>gAgg x6 36 w fun z1=>some (.tuple ⟨[.agg ⟨z1⟩,iI isv]⟩,w)))
 (gAgg v 36 h fun z2=>ck (List.length z2=36) (pAgg x6 z2 h fun w1=>gAgg x6 36 w1 fun z3=>some (.tuple ⟨[.agg ⟨z3⟩,iI isv]⟩,w1))):=kR
def Do0:Cuts:=⟨0,[],[],[]⟩
def Ew2:List Item:=A2 Tryz.f162
theorem He3 :
 xQ Do0 C R Aq5 Tryz.f162 Ew2 [(0,.slice b bn bc)] h =
 nw (.cells E5 false zZ4) h fun p1 w=>bnd (cond ((bn:Int)==40) (bnd (C Aq6 [.slice b bn bc] w) fun r w1=>aBool r fun x=>some (x,w1)) (some (false,w))) fun c w2=>cond c
 (pAgg ⟨p1,0,none⟩ zZ4 w2 fun w3=>gAgg ⟨p1,0,none⟩ 36 w3 fun z1=>some (.tuple ⟨[.agg ⟨z1⟩,iI 0]⟩,w3))
 (bnd (C Bo6 [] w2) fun q1 w4=>aPtr q1 fun z2=>bnd (C W6 [.pointer z2,.slice b bn bc] w4) fun q2 w5=>as2 q2 fun q3 q4=>aAgg q3 fun z3=>aBool q4 fun z4=>nw (.cells E5 false zZ4) w5 fun p2 w6=>ck (List.length z3=36) (pAgg ⟨p2,0,none⟩ z3 w6 fun w7=>cond (!z4)
 (pAgg ⟨p1,0,none⟩ zZ4 w7 fun w8=>gAgg ⟨p1,0,none⟩ 36 w8 fun z5=>some (.tuple ⟨[.agg ⟨z5⟩,iI 2]⟩,w8))
 (gAgg ⟨p2,0,none⟩ 36 w7 fun z6=>ck (List.length z6=36) (pAgg ⟨p1,0,none⟩ z6 w7 fun w9=>gAgg ⟨p1,0,none⟩ 36 w9 fun z7=>some (.tuple ⟨[.agg ⟨z7⟩,iI 1]⟩,w9))))):=kR
def Dn7:Cuts:=⟨0,[],[],[(1,⟨[1,0,2,3,4,5,6],[0,0,3,7,7,31,63],[(0,[1])],[]⟩)]⟩
def Ew0:List Item:=A2 Tryz.f163
theorem Hc8 :
 xQ Dn7 C R B01 Tryz.f163 Ew0 [(0,.agg ⟨p⟩)] h =
 nw (.cells E5 false p) h fun b w=>gAgg ⟨b,0,none⟩ 36 w fun x=>bnd (C Bo6 [] w) fun r w1=>aPtr r fun z1=>gAgg ⟨b,0,none⟩ 36 w1 fun z2=>same (.agg ⟨x⟩) (.agg ⟨z2⟩) (bnd (C W4 [.pointer z1,.agg ⟨x⟩] w1) fun q1 w2=>as2 q1 fun q2 q3=>aSl q2 fun z3 xn xc=>aBool q3 fun z4=>some (.tuple ⟨[.slice z3 xn xc,.bool z4]⟩,w2)):=kR
def Bf5:Cuts:=⟨0,[],[],[]⟩
def B78:List Item:=A2 Tryz.f183
theorem Er4 :
 xQ Bf5 C R Ar4 Tryz.f183 B78 [(0,.pointer c)] h =
 nw (.cells E5 false zZ4) h fun b w=>bnd (C Ac6 [.pointer c,.agg ⟨[iI 4,iI 0]⟩] w) fun r w1=>as2 r fun q1 q2=>aAgg q1 fun x=>aInt .i64 q2 fun z1=>ck (List.length x=36) (pAgg ⟨b,0,none⟩ x w1 fun w2=>gAgg ⟨b,0,none⟩ 36 w2 fun z2=>some (.tuple ⟨[.agg ⟨z2⟩,iI z1]⟩,w2)):=kR
def Do7:Cuts:=⟨0,[],[],[]⟩
def Eu8:List Item:=A2 Tryz.f191
theorem Hc0 :
 xQ Do7 C R Bg9 Tryz.f191 Eu8 [(0,iI n)] h =
 some (iI (mm2 false (mm2 true n 0) 64),h):=kR
def Ax2:Cuts:=⟨0,[],[],[]⟩
def Bq0:List Item:=A2 Tryz.f192
theorem Dz7 (sn sc:Nat) :
 xQ Ax2 C R Y2 Tryz.f192 Bq0 [(0,.slice s sn sc)] h =
 cond s.isNone
 (some (.slice none 0 0,h))
 (nw (.cells B2 false []) h fun b w=>gCells s (sn*1) w fun cs=>ckB (fitsOpen (some ⟨b,0,none⟩) B2 w) (apd B2 1 (some ⟨b,0,none⟩) 0 0 sn cs w fun a an ac w1=>some (.slice a an ac,w1))):=kR
def E17:Cuts:=⟨0,[],[],[]⟩
def Ha8:List Item:=A2 Tryz.f193
theorem Im9 (frames:Int) :
 xQ E17 C R D42 Tryz.f193 Ha8 [(0,iI frames)] h =
 ck ((0:Int)≤wrap .i64 (64*(mm2 false (mm2 true frames 0) 256))∧(wrap .i64 (64*(mm2 false (mm2 true frames 0) 256)):Int)≤wrap .i64 (64*(mm2 false (mm2 true frames 0) 256))∧wrap .i64 (64*(mm2 false (mm2 true frames 0) 256))≤(A5:Int)) (nw (.cells A1 false (I0 (Int.toNat (wrap .i64 (64*(mm2 false (mm2 true frames 0) 256)))) [.int .u8 0])) h fun b w=>nw (.cells E64 false [.slice (some ⟨b,0,none⟩) (Int.toNat (wrap .i64 (64*(mm2 false (mm2 true frames 0) 256)))) (Int.toNat (wrap .i64 (64*(mm2 false (mm2 true frames 0) 256))))]) w fun p1 w1=>some (pP p1,w1)):=kR
def Di4:Cuts:=⟨0,[(3,[3,12,13,14])],[],[(5,⟨[0,1,2,3,4,5,6,7,8,9,10,11,12,13],[0,0,2,6,14,0,32,96,224,480,1022,2047,4095,8191],[],[]⟩)]⟩
def D99:List Item:=A2 Tryz.f195
def Bq5:List Item:=stk [0,1,0,1,0,0,1,4,5] D99
theorem H20 (frames:Option Addr) (framesn framesc:Nat) :
 xQ Di4 C R Av2 Tryz.f195 D99 [(0,.slice frames framesn framesc)] h =
 nw (.cells A04 false [.slice none 0 0]) h fun b w=>ckB (fitsOpen frames B2 w) (ck ((0:Int)≤mm2 false (framesn:Int) 4∧mm2 false (framesn:Int) 4≤(framesc:Int)) (R Av2 Bq5 [(3,pP b),(12,.slice (G4 frames (decide (0<framesc)) (0*1)) ((Int.toNat (mm2 false (framesn:Int) 4))-0) (framesc-0)),(13,iI (((Int.toNat (mm2 false (framesn:Int) 4))-0:Nat):Int)),(14,iI 0)] w)):=kR
theorem Ee5 (q:Addr) (x12:Option Addr) (x12n x12c:Nat) :
 xQ Di4 C R Av2 Tryz.f195 Bq5 [(3,.pointer (some q)),(12,.slice x12 x12n x12c),(13,iI x13),(14,iI x14)] h =
 cond (decide (x14<x13))
 (aSome x12 fun p=>ck ((0:Int)≤x14∧x14<(x12n:Int)) (gInt .i64 (add (B0 p) (Int.toNat x14*1)) h fun x=>gSl (add q 0) h fun z1 xn xc=>ck ((0:Int)≤mm2 false (mm2 true x 0) 64∧(mm2 false (mm2 true x 0) 64:Int)≤mm2 false (mm2 true x 0) 64∧mm2 false (mm2 true x 0) 64≤(A5:Int)) (nw (.cells B2 false (I0 (Int.toNat (mm2 false (mm2 true x 0) 64)) [iI 0])) h fun b w=>nw (.cells L0 false [.slice (some ⟨b,0,none⟩) (Int.toNat (mm2 false (mm2 true x 0) 64)) (Int.toNat (mm2 false (mm2 true x 0) 64))]) w fun p1 w1=>gCells (some ⟨p1,0,none⟩) (1*1) w1 fun cs=>ckB (fitsOpen z1 L0 w1) (apd L0 1 z1 xn xc 1 cs w1 fun a an ac w2=>pV (add q 0) (.slice a an ac) w2 fun w3=>R Av2 Bq5 [(3,.pointer (some q)),(12,.slice x12 x12n x12c),(13,iI x13),(14,iI (wrap .i64 (x14+1)))] w3))))
 (some (.pointer (some q),h)):=kR
def B24:Cuts:=⟨0,[],[],[]⟩
def D11:List Item:=A2 Tryz.f200
theorem Gl1 (c:List Value) :
 xQ B24 C R Bf8 Tryz.f200 D11 [(0,.pointer s),(1,iI env),(2,.agg ⟨c⟩)] h =
 nw (.cells P9 false c) h fun b w=>bnd (C Ah1 [.pointer s,iI env] w) fun r w1=>aBool r fun x=>bnd (cond (!x) (some (true,w1)) (gInt .i64 ⟨b,1,none⟩ w1 fun z1=>some ((Q4 .i64 z1 7) != 0,w1))) fun c_1 w2=>bnd (cond c_1 (some (true,w2)) (gInt .i64 ⟨b,2,none⟩ w2 fun z2=>bnd (C Ao1 [iI z2] w2) fun q1 w3=>aBool q1 fun z3=>some (!z3,w3))) fun c_2 w4=>bnd (cond c_2 (some (true,w4)) (gInt .i64 ⟨b,3,none⟩ w4 fun z4=>bnd (C Ao1 [iI z4] w4) fun q2 w5=>aBool q2 fun z5=>some (!z5,w5))) fun c_3 w6=>cond c_3
 (some (.tuple ⟨[iI 0,iI 1]⟩,w6))
 (pAgg ⟨b,4,none⟩ [iI 0,iI 0] w6 fun w7=>gAgg ⟨b,0,none⟩ 6 w7 fun z6=>bnd (C Ax9 [.pointer s,iI env,.agg ⟨z6⟩] w7) fun q3 w8=>as2 q3 fun q4 q5=>aInt .i64 q4 fun z7=>aInt .i64 q5 fun z8=>some (.tuple ⟨[iI z7,iI z8]⟩,w8)):=kR
def Bn9:Cuts:=⟨0,[],[],[(5,⟨[0,1,2,3,4,5,6,7,9,10,11,12,13,14,8,15,16,17,18,19,20,21],[0,0,0,4,12,28,0,64,252,0,512,1536,3584,0,8192,32764,65533,131069,262141,524287,1048575,2097151],[(8,[12])],[]⟩)]⟩
def Dl1:List Item:=A2 Tryz.f205
theorem E21 (lo:Int) :
 xQ Bn9 C R A24 Tryz.f205 Dl1 [(0,.pointer r),(1,iI lo),(2,iI n)] h =
 aSome r fun p=>gSl (add p 0) h fun _ xn _=>bnd (C Aj0 [iI lo,iI n,iI (xn:Int)] h) fun q1 w=>aBool q1 fun z1=>cond (!z1)
 (some (.tuple ⟨[iI 0,iI 1]⟩,w))
 (aSome r fun p_1=>gSl (add p_1 1) w fun _ xn_1 _=>cond (decide ((xn_1:Int)≥32))
 (some (.tuple ⟨[iI 0,iI 4]⟩,w))
 (aSome r fun p_2=>gSl (add p_2 1) w fun z3 xn_2 xc_2=>nw (.cells B2 false [iI lo]) w fun b w1=>aSome r fun p_3=>gSl (add p_3 2) w1 fun z4 xn_3 xc_3=>nw (.cells B2 false [iI n]) w1 fun p1 w2=>gCells (some ⟨b,0,none⟩) (1*1) w2 fun cs=>ckB (fitsOpen z3 B2 w2) (apd B2 1 z3 xn_2 xc_2 1 cs w2 fun a an ac w3=>gSl (add p_3 2) w3 fun z5 xn_4 xc_4=>same (.slice z4 xn_3 xc_3) (.slice z5 xn_4 xc_4) (gCells (some ⟨p1,0,none⟩) (1*1) w3 fun cs_1=>ckB (fitsOpen z4 B2 w3) (apd B2 1 z4 xn_3 xc_3 1 cs_1 w3 fun a_1 an_1 ac_1 w4=>aSome r fun p_4=>pV (add p_4 1) (.slice a an ac) w4 fun w5=>aSome r fun p_5=>pV (add p_5 2) (.slice a_1 an_1 ac_1) w5 fun w6=>aSome r fun p_6=>gSl (add p_6 1) w6 fun _ xn_5 _=>some (.tuple ⟨[iI (wrap .i64 ((xn_5:Int)-1)),iI 0]⟩,w6)))))):=kR
def A85:Cuts:=⟨0,[],[],[]⟩
def B41:List Item:=A2 Tryz.f211
theorem Ej5 :
 xQ A85 C R Ae0 Tryz.f211 B41 [(0,.pointer r),(1,iI env),(2,iI name),(3,iI atv),(4,iI n)] h =
 bnd (C Ac0 [.pointer r,iI env,iI name,iI 1,iI atv,iI n] h) fun q1 w=>as2 q1 fun q2 q3=>aInt .i64 q2 fun x=>aInt .i64 q3 fun z1=>cond (z1 != 0)
 (some (.tuple ⟨[.slice none 0 0,iI z1]⟩,w))
 (aSome r fun p=>gPtr (add p 0) w fun z2=>bnd (C A94 [.pointer z2,iI x,iI n] w) fun q4 w1=>as2 q4 fun q5 q6=>aSl q5 fun z3 xn xc=>aInt .i64 q6 fun z4=>some (.tuple ⟨[.slice z3 xn xc,iI z4]⟩,w1)):=kR
def Dp4:Cuts:=⟨0,[],[],[]⟩
def Ex1:List Item:=A2 Tryz.f223
theorem He4 :
 xQ Dp4 C R Aj0 Tryz.f223 Ex1 [(0,iI atv),(1,iI n),(2,iI size)] h =
 bnd (cond (decide (atv≥0)) (some (decide (n≥0),h)) (some (false,h))) fun c w=>bnd (cond c (some (decide (atv≤size),w)) (some (false,w))) fun c_1 w1=>bnd (cond c_1 (some (decide (n≤(wrap .i64 (size-atv))),w1)) (some (false,w1))) fun c_2 w2=>some (.bool c_2,w2):=kR
def B26:Cuts:=⟨0,[],[],[(4,⟨[0,1,2,3,4,5,6,7,8,9,10,11],[0,1,3,7,0,31,63,0,128,0,1023,2047],[],[]⟩)]⟩
def Dz5:List Item:=A2 Tryz.f224
theorem Gp7 (c:List Value) :
 xQ B26 C R Be4 Tryz.f224 Dz5 [(0,.pointer s),(1,iI e),(2,.agg ⟨c⟩)] h =
 nw (.cells P9 false c) h fun b w=>aSome s fun p=>gSl (add p 0) w fun x xn _=>aSome x fun p_1=>ck ((0:Int)≤e∧e<(xn:Int)) (gPtr (add (B0 p_1) (Int.toNat e*1)) w fun z1=>bnd (C Y4 [.pointer z1] w) fun r w1=>as2 r fun q1 q2=>aInt .i64 q1 fun z2=>aBool q2 fun z3=>cond (!z3)
 (some (.tuple ⟨[iI 0,iI 4]⟩,w1))
 (aSome s fun p_2=>gSl (add p_2 1) w1 fun z4 xn_1 _=>aSome z4 fun p_3=>ck ((0:Int)≤e∧e<(xn_1:Int)) (gSl (add (B0 p_3) (Int.toNat e*1)) w1 fun z5 xn_2 _=>gAgg ⟨b,0,none⟩ 6 w1 fun z6=>aSome z5 fun p_4=>ck ((0:Int)≤B4 .i64 z2 255∧B4 .i64 z2 255<(xn_2:Int)) (ck (List.length z6=6) (pAgg (add (B0 p_4) (Int.toNat (B4 .i64 z2 255)*6)) z6 w1 fun w2=>some (.tuple ⟨[iI z2,iI 0]⟩,w2)))))):=kR
def By5:Cuts:=⟨0,[(3,[0,2,4,31,32,33]),(8,[0,2,4,49])],[],[(1,⟨[0,1,2,3,4,5,6,7,8,9,10,11,12,13,14,15,16,17,18],[0,1,3,7,0,16,48,112,0,256,768,1792,0,4096,12288,28672,65535,0,262143],[],[]⟩),(13,⟨[0,1,2,3,4,5,6,7,8],[0,0,2,6,6,30,62,63,255],[(5,[0])],[]⟩)]⟩
def Di3:List Item:=A2 Tryz.f237
def Df6:List Item:=stk [0,1,0,1,0,0,1,4,5] Di3
def Dg7:List Item:=stk [0,1,0,1,0,1,0,0,1,4,5] Di3
theorem H06 :
 xQ By5 C R Y7 Tryz.f237 Di3 [(0,.slice b bn bc)] h =
 nw (.cells B1 false zZ1) h fun p1 w=>aSome b fun p=>ck ((0:Int)≤0∧0<(bn:Int)) (gInt .u8 (add (B0 p) (Int.toNat 0*1)) w fun x=>aSome b fun p_1=>ck ((0:Int)≤1∧1<(bn:Int)) (gInt .u8 (add (B0 p_1) (Int.toNat 1*1)) w fun z1=>aSome b fun p_2=>ck ((0:Int)≤2∧2<(bn:Int)) (gInt .u8 (add (B0 p_2) (Int.toNat 2*1)) w fun z2=>aSome b fun p_3=>ck ((0:Int)≤3∧3<(bn:Int)) (gInt .u8 (add (B0 p_3) (Int.toNat 3*1)) w fun z3=>nw (.cells B1 false zZ1) w fun p2 w1=>pAgg ⟨p2,0,none⟩ [iI (wrap .i64 (x)),iI (wrap .i64 (z1)),iI (wrap .i64 (z2)),iI (wrap .i64 (z3)),iI 0,iI 0,iI 0,iI 0,iI 0,iI 0,iI 0,iI 0,iI 0,iI 0,iI 0,iI 0] w1 fun w2=>nw (.cells I71 false [.pointer (some ⟨p2,4,none⟩),.pointer (some ⟨p2,5,none⟩),.pointer (some ⟨p2,6,none⟩),.pointer (some ⟨p2,7,none⟩)]) w2 fun p3 w3=>R Y7 Df6 [(0,.slice b bn bc),(2,pP p1),(4,pP p2),(31,.slice (some ⟨p3,0,none⟩) 4 4),(32,iI 4),(33,iI 0)] w3)))):=kR
theorem A83 (p:Addr) (x31:Option Addr) (x31n x31c:Nat) (x32:Int) (x33:Int) :
 xQ By5 C R Y7 Tryz.f237 Df6 [(0,.slice b bn bc),(2,.pointer (some x2)),(4,.pointer (some p)),(31,.slice x31 x31n x31c),(32,iI x32),(33,iI x33)] h =
 cond (decide (x33<x32))
 (aSome x31 fun p_1=>ck ((0:Int)≤x33∧x33<(x31n:Int)) (gPtr (add (B0 p_1) (Int.toNat x33*1)) h fun x=>bnd (C B96 [.slice b bn bc,iI (wrap .i64 (4+(wrap .i64 (2*x33))))] h) fun r w=>as2 r fun q1 q2=>aInt .i64 q1 fun z1=>aBool q2 fun _=>aSome x fun p_2=>pV p_2 (iI z1) w fun w1=>R Y7 Df6 [(0,.slice b bn bc),(2,.pointer (some x2)),(4,.pointer (some p)),(31,.slice x31 x31n x31c),(32,iI x32),(33,iI (wrap .i64 (x33+1)))] w1))
 (R Y7 Dg7 [(0,.slice b bn bc),(2,.pointer (some x2)),(4,.pointer (some p)),(49,iI 0)] h):=kR
theorem Z3 (p:Addr) (x49:Int) :
 xQ By5 C R Y7 Tryz.f237 Dg7 [(0,.slice b bn bc),(2,.pointer (some x2)),(4,.pointer (some p)),(49,iI x49)] h =
 cond (decide (x49<8))
 (aSome b fun p_1=>ck ((0:Int)≤wrap .i64 (12+x49)∧wrap .i64 (12+x49)<(bn:Int)) (gInt .u8 (add (B0 p_1) (Int.toNat (wrap .i64 (12+x49))*1)) h fun x=>ck ((0:Int)≤x49∧x49<((8:Nat):Int)) (pV (add (add p 8) (Int.toNat x49*1)) (iI (wrap .i64 (x))) h fun w=>R Y7 Dg7 [(0,.slice b bn bc),(2,.pointer (some x2)),(4,.pointer (some p)),(49,iI (wrap .i64 (x49+1)))] w)))
 (gAgg p 16 h fun z1=>bnd (C A82 [.agg ⟨z1⟩] h) fun r w1=>as2 r fun q1 q2=>aSl q1 fun z2 xn xc=>aBool q2 fun z3=>gAgg p 16 w1 fun z4=>bnd (cond z3 (bnd (C B9 [.slice z2 xn xc,.slice b bn bc] w1) fun q3 w2=>aBool q3 fun z5=>gAgg p 16 w2 fun z6=>same (.agg ⟨z4⟩) (.agg ⟨z6⟩) (some (z5,w2))) (some (false,w1))) fun c w3=>ck (List.length z4=16) (pAgg x2 z4 w3 fun w4=>gAgg x2 16 w4 fun z7=>some (.tuple ⟨[.agg ⟨z7⟩,.bool c]⟩,w4))):=kR
def Bg7:Cuts:=⟨0,[],[],[]⟩
def B55:List Item:=A2 Tryz.f240
theorem En4 (r:List Value) (d:Int) :
 xQ Bg7 C R Z2 Tryz.f240 B55 [(0,.pointer c),(1,.agg ⟨r⟩),(2,iI d)] h =
 nw (.cells A6 false r) h fun b w=>cond (d==2)
 (gAgg ⟨b,0,none⟩ 2 w fun x=>bnd (C G0 [.pointer c,.agg ⟨x⟩] w) fun q1 w1=>as0 q1 (some (iI d,w1)))
 (some (iI d,w)):=kR
def Bq6:Cuts:=⟨0,[(7,[1,3,4])],[],[]⟩
def Df7:List Item:=A2 Tryz.f244
def A67:List Item:=stk [0,1,0,1,0,1,0,1,0,0,1,4,5] Df7
theorem G35 :
 xQ Bq6 C R Ad6 Tryz.f244 Df7 [(0,.agg ⟨p⟩)] h =
 nw (.cells B1 false p) h fun b w=>gInt .i64 ⟨b,0,none⟩ w fun x=>bnd (C Q2 [iI x,iI 1,iI 3] w) fun r w1=>aBool r fun z1=>bnd (cond (!z1) (some (true,w1)) (gInt .i64 ⟨b,1,none⟩ w1 fun z2=>bnd (C Q2 [iI z2,iI 0,iI 8] w1) fun q1 w2=>aBool q1 fun z3=>some (!z3,w2))) fun c w3=>bnd (cond c (some (true,w3)) (gInt .i64 ⟨b,2,none⟩ w3 fun z4=>bnd (C Q2 [iI z4,iI 0,iI 7] w3) fun q2 w4=>aBool q2 fun z5=>some (!z5,w4))) fun c_1 w5=>bnd (cond c_1 (some (true,w5)) (gInt .i64 ⟨b,3,none⟩ w5 fun z6=>bnd (C Q2 [iI z6,iI 0,iI 255] w5) fun q3 w6=>aBool q3 fun z7=>some (!z7,w6))) fun c_2 w7=>cond c_2
 (some (.bool false,w7))
 (gInt .i64 ⟨b,4,none⟩ w7 fun z8=>bnd (C Ai0 [iI z8] w7) fun q4 w8=>aBool q4 fun z9=>bnd (cond (!z9) (some (true,w8)) (gInt .i64 ⟨b,5,none⟩ w8 fun z10=>bnd (C Ai0 [iI z10] w8) fun q5 w9=>aBool q5 fun z11=>some (!z11,w9))) fun c_3 w10=>bnd (cond c_3 (some (true,w10)) (gInt .i64 ⟨b,6,none⟩ w10 fun z12=>bnd (C Ai0 [iI z12] w10) fun q6 w11=>aBool q6 fun z13=>some (!z13,w11))) fun c_4 w12=>bnd (cond c_4 (some (true,w12)) (gInt .i64 ⟨b,7,none⟩ w12 fun z14=>bnd (C Ai0 [iI z14] w12) fun q7 w13=>aBool q7 fun z15=>some (!z15,w13))) fun c_5 w14=>bnd (cond c_5 (some (true,w14)) (gInt .i64 ⟨b,5,none⟩ w14 fun z16=>gInt .i64 ⟨b,6,none⟩ w14 fun z17=>gInt .i64 ⟨b,7,none⟩ w14 fun z18=>some ((B4 .i64 (Dy7 .i64 (Dy7 .i64 z16 z17) z18) 16896) != 0,w14))) fun c_6 w15=>bnd (cond c_6 (some (true,w15)) (gInt .i64 ⟨b,6,none⟩ w15 fun z19=>gInt .i64 ⟨b,7,none⟩ w15 fun z20=>some ((B4 .i64 z19 z20) != 0,w15))) fun c_7 w16=>cond c_7
 (some (.bool false,w16))
 (R Ad6 A67 [(1,pP b),(3,.bool false),(4,iI 0)] w16)):=kR
theorem Dq6 (p:Addr) (somev:Bool) :
 xQ Bq6 C R Ad6 Tryz.f244 A67 [(1,.pointer (some p)),(3,.bool somev),(4,iI i)] h =
 cond (decide (i<8))
 (ck ((0:Int)≤i∧i<((8:Nat):Int)) (gInt .i64 (add (add p 8) (Int.toNat i*1)) h fun x=>bnd (C Q2 [iI x,iI 0,iI 12] h) fun r w=>aBool r fun z1=>cond (!z1)
 (some (.bool false,w))
 (bnd (cond somev (some (true,w)) (ck ((0:Int)≤i∧i<((8:Nat):Int)) (gInt .i64 (add (add p 8) (Int.toNat i*1)) w fun z2=>some (z2 != 0,w)))) fun c w1=>R Ad6 A67 [(1,.pointer (some p)),(3,.bool c),(4,iI (wrap .i64 (i+1)))] w1)))
 (gInt .i64 (add p 0) h fun z3=>cond (z3==2)
 (bnd (cond (!somev) (gInt .i64 (add p 4) h fun z4=>some (z4==0,h)) (some (false,h))) fun c_1 w2=>some (.bool c_1,w2))
 (gInt .i64 (add p 3) h fun z5=>some (.bool (z5==0),h))):=kR
def Dn5:Cuts:=⟨0,[],[],[]⟩
def Ew9:List Item:=A2 Tryz.f269
theorem He7 :
 xQ Dn5 C R Bh6 Tryz.f269 Ew9 [] h =
 bnd (C At6 [iI 8,.func (.func Au9) ⟨[]⟩ ⟨[]⟩,.func (.func Av9) ⟨[]⟩ ⟨[]⟩] h) fun r w=>aPtr r fun x=>some (.pointer x,w):=kR
def Aj9:Cuts:=⟨0,[],[],[(4,⟨[0,1,2,3,4,10,5,6,7,8,9,11,12],[0,1,3,7,0,16,63,127,255,255,0,1535,4095],[(5,[3])],[]⟩)]⟩
def A59:List Item:=A2 Tryz.f272
theorem Dc7 :
 xQ Aj9 C R W6 Tryz.f272 A59 [(0,.pointer c),(1,.slice b bn bc)] h =
 nw (.cells E5 false zZ4) h fun p1 w=>nw (.cells E5 false zZ4) w fun p2 w1=>aSome c fun p=>gFv (add p 2) w1 fun x=>isNilF x fun p3=>bnd (cond p3 (some (true,w1)) (aSome c fun p_1=>gInt .i64 (add p_1 0) w1 fun z1=>some ((bn:Int) != z1,w1))) fun c_1 w2=>cond c_1
 (gAgg ⟨p2,0,none⟩ 36 w2 fun z2=>ck (List.length z2=36) (pAgg ⟨p1,0,none⟩ z2 w2 fun w3=>gAgg ⟨p1,0,none⟩ 36 w3 fun z3=>some (.tuple ⟨[.agg ⟨z3⟩,.bool false]⟩,w3)))
 (aSome c fun p_2=>gFv (add p_2 2) w2 fun z4=>nw (.cells E5 false zZ4) w2 fun p4 w4=>bnd (C H1 [.slice b bn bc] w4) fun r w5=>aSl r fun z5 xn xc=>gFv (add p_2 2) w5 fun z6=>Bt4 (z4) (z6) (aFn z4 fun g fi cp=>bnd (C g (fi++([.slice z5 xn xc]++cp)) w5) fun q1 w6=>as2 q1 fun q2 q3=>aAgg q2 fun z7=>aBool q3 fun z8=>ck (List.length z7=36) (pAgg ⟨p4,0,none⟩ z7 w6 fun w7=>cond (!z8)
 (gAgg ⟨p2,0,none⟩ 36 w7 fun z9=>ck (List.length z9=36) (pAgg ⟨p1,0,none⟩ z9 w7 fun w8=>gAgg ⟨p1,0,none⟩ 36 w8 fun z10=>some (.tuple ⟨[.agg ⟨z10⟩,.bool false]⟩,w8)))
 (gAgg ⟨p4,0,none⟩ 36 w7 fun z11=>ck (List.length z11=36) (pAgg ⟨p1,0,none⟩ z11 w7 fun w9=>gAgg ⟨p1,0,none⟩ 36 w9 fun z12=>some (.tuple ⟨[.agg ⟨z12⟩,.bool true]⟩,w9)))))):=kR
def Aj5:Cuts:=⟨0,[],[],[(2,⟨[0,1,2,3,4,5,6,7,8,9,10,11,12,13,14],[0,1,3,7,15,31,63,127,255,511,63,63,4095,8191,16383],[],[]⟩)]⟩
def A56:List Item:=A2 Tryz.f273
theorem Dc0 (v:List Value) :
 xQ Aj5 C R W4 Tryz.f273 A56 [(0,.pointer c),(1,.agg ⟨v⟩)] h =
 nw (.cells E5 false v) h fun b w=>aSome c fun p=>gInt .i64 (add p 0) w fun x=>ck ((0:Int)≤x∧(x:Int)≤x∧x≤(A5:Int)) (nw (.cells A1 false (I0 (Int.toNat x) [.int .u8 0])) w fun p1 w1=>aSome c fun p_1=>gFv (add p_1 1) w1 fun z1=>isNilF z1 fun p2=>bnd (cond p2 (some (true,w1)) (aSome c fun p_2=>gFv (add p_2 1) w1 fun z2=>gAgg ⟨b,0,none⟩ 36 w1 fun z3=>aFn z2 fun g fi cp=>bnd (C g (fi++([.agg ⟨z3⟩,.slice (some ⟨p1,0,none⟩) (Int.toNat x) (Int.toNat x)]++cp)) w1) fun r w2=>aBool r fun z4=>some (!z4,w2))) fun c_1 w3=>cond c_1
 (some (.tuple ⟨[.slice none 0 0,.bool false]⟩,w3))
 (some (.tuple ⟨[.slice (some ⟨p1,0,none⟩) (Int.toNat x) (Int.toNat x),.bool true]⟩,w3))):=kR
def Bq8:Cuts:=⟨0,[(7,[0,2,4,5])],[],[(5,⟨[0,1,2,3,4,5,6,7,8,9,10,11,12,13,14],[0,1,3,0,8,24,0,64,192,0,512,1536,4095,0,16383],[],[]⟩)]⟩
def Dg0:List Item:=A2 Tryz.f281
def A65:List Item:=stk [0,1,0,1,0,1,0,1,0,0,1,4,5] Dg0
theorem G03 (b:ByteArray) :
 xQ Bq8 C R Ad5 Tryz.f281 Dg0 [(0,.string b)] h =
 nw (.cells E5 false zZ4) h fun p1 w=>cond (((ByteArray.size b:Nat):Int) != 40)
 (pAgg ⟨p1,0,none⟩ zZ4 w fun w1=>gAgg ⟨p1,0,none⟩ 36 w1 fun x=>some (.tuple ⟨[.agg ⟨x⟩,iI 2]⟩,w1))
 (bnd (C Ac5 [.string b] w) fun r w2=>aBool r fun z1=>cond z1
 (pAgg ⟨p1,0,none⟩ zZ4 w2 fun w3=>gAgg ⟨p1,0,none⟩ 36 w3 fun z2=>some (.tuple ⟨[.agg ⟨z2⟩,iI 0]⟩,w3))
 (ck ((0:Int)≤1∧1<((ByteArray.size b:Nat):Int)) (ck ((0:Int)≤2∧2<((ByteArray.size b:Nat):Int)) (ck ((0:Int)≤3∧3<((ByteArray.size b:Nat):Int)) (ck ((0:Int)≤4∧4<((ByteArray.size b:Nat):Int)) (nw (.cells E5 false zZ4) w2 fun p2 w4=>pAgg ⟨p2,0,none⟩ [iI (wrap .i64 (((List.getD (ByteArray.data b).toList (Int.toNat 1) 0).toNat:Int))),iI (wrap .i64 (((List.getD (ByteArray.data b).toList (Int.toNat 2) 0).toNat:Int))),iI (wrap .i64 (((List.getD (ByteArray.data b).toList (Int.toNat 3) 0).toNat:Int))),iI (wrap .i64 (((List.getD (ByteArray.data b).toList (Int.toNat 4) 0).toNat:Int))),.int .u8 0,.int .u8 0,.int .u8 0,.int .u8 0,.int .u8 0,.int .u8 0,.int .u8 0,.int .u8 0,.int .u8 0,.int .u8 0,.int .u8 0,.int .u8 0,.int .u8 0,.int .u8 0,.int .u8 0,.int .u8 0,.int .u8 0,.int .u8 0,.int .u8 0,.int .u8 0,.int .u8 0,.int .u8 0,.int .u8 0,.int .u8 0,.int .u8 0,.int .u8 0,.int .u8 0,.int .u8 0,.int .u8 0,.int .u8 0,.int .u8 0,.int .u8 0] w4 fun w5=>R Ad5 A65 [(0,.string b),(2,pP p1),(4,pP p2),(5,iI 0)] w5)))))):=kR
theorem Dq5 (b:ByteArray) (p:Addr) :
 xQ Bq8 C R Ad5 Tryz.f281 A65 [(0,.string b),(2,.pointer (some x2)),(4,.pointer (some p)),(5,iI i)] h =
 cond (decide (i<32))
 (ck ((0:Int)≤wrap .i64 (8+i)∧wrap .i64 (8+i)<((ByteArray.size b:Nat):Int)) (ck ((0:Int)≤i∧i<((32:Nat):Int)) (pV (add (add p 4) (Int.toNat i*1)) (.int .u8 ((List.getD (ByteArray.data b).toList (Int.toNat (wrap .i64 (8+i))) 0).toNat:Int)) h fun w=>R Ad5 A65 [(0,.string b),(2,.pointer (some x2)),(4,.pointer (some p)),(5,iI (wrap .i64 (i+1)))] w)))
 (gAgg p 36 h fun x=>bnd (C Br0 [.agg ⟨x⟩] h) fun r w1=>aBool r fun z1=>bnd (cond (!z1) (some (true,w1)) (gAgg p 36 w1 fun z2=>bnd (C N7 [.agg ⟨z2⟩] w1) fun q1 w2=>aStr q1 fun z3=>some (!(z3.toList==b.toList),w2))) fun c w3=>cond c
 (pAgg x2 zZ4 w3 fun w4=>gAgg x2 36 w4 fun z4=>some (.tuple ⟨[.agg ⟨z4⟩,iI 2]⟩,w4))
 (gAgg p 36 w3 fun z5=>ck (List.length z5=36) (pAgg x2 z5 w3 fun w5=>gAgg x2 36 w5 fun z6=>some (.tuple ⟨[.agg ⟨z6⟩,iI 1]⟩,w5)))):=kR
def Bc6:Cuts:=⟨0,[],[],[]⟩
def Da9:List Item:=A2 Tryz.f283
theorem Eu1 :
 xQ Bc6 C R At7 Tryz.f283 Da9 [(0,iI g)] h =
 bnd (cond (decide (g<0)) (some (true,h)) (some (decide (g≥8),h))) fun c w=>cond c
 (some (.tuple ⟨[.slice none 0 0,.bool false]⟩,w))
 (nw (.cells A1 false [.int .u8 (wrap .u8 (g)),.int .u8 211]) w fun b w1=>bnd (C Ac1 [.slice (some ⟨b,0,none⟩) 2 2] w1) fun r w2=>aInt .u8 r fun x=>nw (.cells A1 false [.int .u8 x,.int .u8 0]) w2 fun p1 w3=>gCells (some ⟨p1,0,none⟩) (2*1) w3 fun cs=>ckB (fitsOpen (some ⟨b,0,none⟩) A1 w3) (apd A1 1 (some ⟨b,0,none⟩) 2 2 2 cs w3 fun a an ac w4=>some (.tuple ⟨[.slice a an ac,.bool true]⟩,w4))):=kR
def De0:Cuts:=⟨0,[],[],[]⟩
def Eg3:List Item:=A2 Tryz.f285
theorem G67 (s:Int) :
 xQ De0 C R H4 Tryz.f285 Eg3 [(0,iI s),(1,.pointer (some fv0))] h =
 bnd (cond (decide (s<0)) (some (true,h)) (gSl (add fv0 0) h fun _ xn _=>some (decide (s≥(xn:Int)),h))) fun c w=>some (.bool c,w):=kR
def Az0:Cuts:=⟨0,[(3,[3,15,16])],[],[]⟩
def Bk7:List Item:=A2 Tryz.f287
def Am9:List Item:=stk [0,1,0,1,0,0,1,4,5] Bk7
theorem Ex6 :
 xQ Az0 C R Q0 Tryz.f287 Bk7 [(0,iI size)] h =
 ck ((0:Int)≤mm2 false (mm2 true size 0) 256∧(mm2 false (mm2 true size 0) 256:Int)≤mm2 false (mm2 true size 0) 256∧mm2 false (mm2 true size 0) 256≤(A5:Int)) (nw (.cells Ap9 false (I0 (Int.toNat (mm2 false (mm2 true size 0) 256)) [iI 0,iI 0,iI 0,iI 0,iI 0,iI 0,iI 0,.bool false])) h fun b w=>nw (.cells B44 false [.slice (some ⟨b,0,none⟩) (Int.toNat (mm2 false (mm2 true size 0) 256)) (Int.toNat (mm2 false (mm2 true size 0) 256))]) w fun p1 w1=>gSl ⟨p1,0,none⟩ w1 fun _ xn _=>R Q0 Am9 [(3,pP p1),(15,iI (xn:Int)),(16,iI 0)] w1):=kR
theorem Bx4 (t:Addr) :
 xQ Az0 C R Q0 Tryz.f287 Am9 [(3,.pointer (some t)),(15,iI x15),(16,iI x16)] h =
 cond (decide (x16<x15))
 (gSl (add t 0) h fun x xn _=>aSome x fun p=>ck ((0:Int)≤x16∧x16<(xn:Int)) (pV (add (add (B0 p) (Int.toNat x16*8)) 6) (iI 1) h fun w=>R Q0 Am9 [(3,.pointer (some t)),(15,iI x15),(16,iI (wrap .i64 (x16+1)))] w))
 (some (.pointer (some t),h)):=kR
def Dh0:Cuts:=⟨0,[],[],[]⟩
def Eh5:List Item:=A2 Tryz.f288
theorem G43 :
 xQ Dh0 C R Ba6 Tryz.f288 Eh5 [(0,.pointer m)] h =
 aSome m fun p=>gSl (add p 0) h fun _ xn _=>some (iI (xn:Int),h):=kR
def Bq4:Cuts:=⟨0,[],[],[]⟩
def Dl6:List Item:=A2 Tryz.f301
theorem E67 (s:Int) :
 xQ Bq4 C R A08 Tryz.f301 Dl6 [(0,.pointer q),(1,iI s),(2,iI k)] h =
 bnd (C Al9 [.pointer q,iI s] h) fun r w=>aBool r fun x=>bnd (cond x (some (decide (k≥0),w)) (some (false,w))) fun c w1=>bnd (cond c (aSome q fun p=>gSl (add p 0) w1 fun z1 xn _=>aSome z1 fun p_1=>ck ((0:Int)≤s∧s<(xn:Int)) (gSl (add (B0 p_1) (Int.toNat s*1)) w1 fun _ xn_1 _=>some (decide (k<(xn_1:Int)),w1))) (some (false,w1))) fun c_1 w2=>bnd (cond c_1 (aSome q fun p_2=>gSl (add p_2 0) w2 fun z3 xn_2 _=>aSome z3 fun p_3=>ck ((0:Int)≤s∧s<(xn_2:Int)) (gSl (add (B0 p_3) (Int.toNat s*1)) w2 fun z4 xn_3 _=>aSome z4 fun p_4=>ck ((0:Int)≤k∧k<(xn_3:Int)) (gInt .i64 (add (B0 p_4) (Int.toNat k*1)) w2 fun z5=>some (decide (z5>0),w2)))) (some (false,w2))) fun c_2 w3=>some (.bool c_2,w3):=kR
def V1:Cuts:=⟨0,[(18,[0,1,2])],[(10,[0,1,2]),(11,[0,1,2]),(14,[0,1,2]),(17,[])],[(11,⟨[0,1,2,3,4,5,6,7,8,9,10,11,12,13,14,15,16],[0,1,3,7,15,31,31,95,223,479,1023,31,2079,6175,14367,32767,65535],[],[]⟩),(18,⟨[0,1,2,3,4,5,6,7,8,9,10,11,12,13,14,15,16,17,18,19,20],[0,1,3,7,15,31,0,127,255,511,511,1535,3583,7679,16383,511,33279,98815,229887,524287,1048575],[],[]⟩)]⟩
def Aa1:List Item:=A2 Tryz.f303
def At1:List Item:=stk [0,1,0,1,0,1,0,1,0,1,0,0,1,2,0,1] Aa1
def Au3:List Item:=stk [0,1,0,1,0,1,0,1,0,1,0,1,0,0] Aa1
def At4:List Item:=stk [0,1,0,1,0,1,0,1,0,1,0,1,0,1,0,0] Aa1
def At9:List Item:=stk [0,1,0,1,0,1,0,1,0,1,0,1,0,1,0,0,1,2,0,1,0] Aa1
def Ag1:List Item:=stk [0,1,0,1,0,1,0,1,0,1,0,1,0,1,0,1,0,4,5] Aa1
theorem Gf9 :
 xQ V1 C R B5 Tryz.f303 Aa1 [(0,.pointer s),(1,iI who),(2,iI now)] h =
 aSome s fun p=>gInt .i64 (add p 7) h fun x=>bnd (cond (decide (who<0)) (some (true,h)) (some (decide (who>99),h))) fun c w=>cond c
 (some (.tuple ⟨[iI 0,.bool false]⟩,w))
 (aSome s fun p_1=>pV (add p_1 7) (iI (mm2 true now x)) w fun w1=>aSome s fun p_2=>gBool (add p_2 1) w1 fun z1=>bnd (cond z1 (aSome s fun p_3=>gInt .i64 (add p_3 2) w1 fun z2=>some (z2==who,w1)) (some (false,w1))) fun c_1 w2=>cond c_1
 (aSome s fun p_4=>gInt .i64 (add p_4 3) w2 fun z3=>some (.tuple ⟨[iI z3,.bool true]⟩,w2))
 (aSome s fun p_5=>gSl (add p_5 5) w2 fun z4 xn xc=>bnd (C N3 [.slice z4 xn xc,iI who] w2) fun r w3=>aBool r fun z5=>cond (!z5)
 (aSome s fun p_6=>gSl (add p_6 5) w3 fun _ xn_1 _=>cond ((xn_1:Int)==0)
 (aSome s fun p_7=>pV (add p_7 6) (iI (mm2 true now x)) w3 fun w4=>R B5 At1 [(0,.pointer s),(1,iI who),(2,iI (mm2 true now x))] w4)
 (R B5 At1 [(0,.pointer s),(1,iI who),(2,iI (mm2 true now x))] w3))
 (R B5 Au3 [(0,.pointer s),(1,iI who),(2,iI (mm2 true now x))] w3))):=kR
theorem Et1 :
 xQ V1 C R B5 Tryz.f303 At1 [(0,.pointer s),(1,iI who),(2,iI now)] h =
 aSome s fun p=>gSl (add p 5) h fun x xn xc=>nw (.cells B2 false [iI who]) h fun b w=>gCells (some ⟨b,0,none⟩) (1*1) w fun cs=>ckB (fitsOpen x B2 w) (apd B2 1 x xn xc 1 cs w fun a an ac w1=>aSome s fun p_1=>pV (add p_1 5) (.slice a an ac) w1 fun w2=>R B5 Au3 [(0,.pointer s),(1,iI who),(2,iI now)] w2):=kR
theorem Eq5 :
 xQ V1 C R B5 Tryz.f303 Au3 [(0,.pointer s),(1,iI who),(2,iI now)] h =
 aSome s fun p=>gBool (add p 1) h fun x=>bnd (cond x (aSome s fun p_1=>gInt .i64 (add p_1 4) h fun z1=>aSome s fun p_2=>gInt .i64 (add p_2 0) h fun z2=>some (decide ((wrap .i64 (now-z1))≥z2),h)) (some (false,h))) fun c w=>cond c
 (aSome s fun p_3=>pV (add p_3 1) (.bool false) w fun w1=>aSome s fun p_4=>pV (add p_4 6) (iI now) w1 fun w2=>R B5 At4 [(0,.pointer s),(1,iI who),(2,iI now)] w2)
 (R B5 At4 [(0,.pointer s),(1,iI who),(2,iI now)] w):=kR
theorem Er9 :
 xQ V1 C R B5 Tryz.f303 At4 [(0,.pointer s),(1,iI who),(2,iI now)] h =
 aSome s fun p=>gBool (add p 1) h fun x=>cond x
 (aSome s fun p_1=>gSl (add p_1 5) h fun z1 xn _=>aSome z1 fun p_2=>ck ((0:Int)≤0∧0<(xn:Int)) (gInt .i64 (add (B0 p_2) (Int.toNat 0*1)) h fun z2=>cond (z2==who)
 (aSome s fun p_3=>pV (add p_3 6) (iI now) h fun w=>R B5 At9 [] w)
 (R B5 At9 [] h)))
 (R B5 Ag1 [(0,.pointer s),(1,iI who),(2,iI now)] h):=kR
theorem Eu4 :
 xQ V1 C R B5 Tryz.f303 At9 [] h =
 some (.tuple ⟨[iI 0,.bool false]⟩,h):=kR
theorem B86 :
 xQ V1 C R B5 Tryz.f303 Ag1 [(0,.pointer s),(1,iI who),(2,iI now)] h =
 aSome s fun p=>gSl (add p 5) h fun x xn _=>aSome x fun p_1=>ck ((0:Int)≤0∧0<(xn:Int)) (gInt .i64 (add (B0 p_1) (Int.toNat 0*1)) h fun z1=>bnd (cond (z1 != who) (aSome s fun p_2=>gInt .i64 (add p_2 6) h fun z2=>aSome s fun p_3=>gInt .i64 (add p_3 0) h fun z3=>some (decide ((wrap .i64 (now-z2))≥z3),h)) (some (false,h))) fun c w=>cond c
 (aSome s fun p_4=>gSl (add p_4 5) w fun z4 xn_1 xc_1=>ckB (fitsOpen z4 B2 w) (ck ((0:Int)≤1∧1≤(xn_1:Int)) (aSome s fun p_5=>pV (add p_5 5) (.slice (G4 z4 (decide (Int.toNat 1<xc_1)) ((Int.toNat 1)*1)) (xn_1-(Int.toNat 1)) (xc_1-(Int.toNat 1))) w fun w1=>aSome s fun p_6=>pV (add p_6 6) (iI now) w1 fun w2=>R B5 Ag1 [(0,.pointer s),(1,iI who),(2,iI now)] w2)))
 (aSome s fun p_7=>gSl (add p_7 5) w fun z5 xn_2 _=>aSome z5 fun p_8=>ck ((0:Int)≤0∧0<(xn_2:Int)) (gInt .i64 (add (B0 p_8) (Int.toNat 0*1)) w fun z6=>cond (z6 != who)
 (some (.tuple ⟨[iI 0,.bool false]⟩,w))
 (aSome s fun p_9=>gSl (add p_9 5) w fun z7 xn_3 xc_3=>ckB (fitsOpen z7 B2 w) (ck ((0:Int)≤1∧1≤(xn_3:Int)) (aSome s fun p_10=>pV (add p_10 5) (.slice (G4 z7 (decide (Int.toNat 1<xc_3)) ((Int.toNat 1)*1)) (xn_3-(Int.toNat 1)) (xc_3-(Int.toNat 1))) w fun w3=>aSome s fun p_11=>pV (add p_11 6) (iI now) w3 fun w4=>aSome s fun p_12=>gInt .i64 (add p_12 8) w4 fun z8=>aSome s fun p_13=>pV (add p_13 8) (iI (wrap .i64 (z8+1))) w4 fun w5=>aSome s fun p_14=>gInt .i64 (add p_14 8) w5 fun z9=>aSome s fun p_15=>pV (add p_15 1) (.bool true) w5 fun w6=>aSome s fun p_16=>pV (add p_16 2) (iI who) w6 fun w7=>aSome s fun p_17=>pV (add p_17 3) (iI z9) w7 fun w8=>aSome s fun p_18=>pV (add p_18 4) (iI now) w8 fun w9=>aSome s fun p_19=>gInt .i64 (add p_19 3) w9 fun z10=>some (.tuple ⟨[iI z10,.bool true]⟩,w9))))))):=kR
def Es1:Cuts:=⟨0,[],[],[]⟩
def Gq8:List Item:=A2 Tryz.f310
theorem Ic2 :
 xQ Es1 C R Ds9 Tryz.f310 Gq8 [(0,.agg ⟨p⟩)] h =
 nw (.cells B1 false p) h fun b w=>gInt .i64 ⟨b,0,none⟩ w fun x=>bnd (cond (decide (x<1)) (some (true,w)) (gInt .i64 ⟨b,0,none⟩ w fun z1=>some (decide (z1>3),w))) fun c w1=>bnd (cond c (some (true,w1)) (gInt .i64 ⟨b,1,none⟩ w1 fun z2=>some (decide (z2<0),w1))) fun c_1 w2=>bnd (cond c_1 (some (true,w2)) (gInt .i64 ⟨b,1,none⟩ w2 fun z3=>some (decide (z3>8),w2))) fun c_2 w3=>bnd (cond c_2 (some (true,w3)) (gInt .i64 ⟨b,2,none⟩ w3 fun z4=>some (decide (z4<0),w3))) fun c_3 w4=>bnd (cond c_3 (some (true,w4)) (gInt .i64 ⟨b,2,none⟩ w4 fun z5=>some (decide (z5≥8),w4))) fun c_4 w5=>bnd (cond c_4 (some (true,w5)) (gInt .i64 ⟨b,3,none⟩ w5 fun z6=>some (decide (z6<0),w5))) fun c_5 w6=>bnd (cond c_5 (some (true,w6)) (gInt .i64 ⟨b,3,none⟩ w6 fun z7=>some (decide (z7>255),w6))) fun c_6 w7=>cond c_6
 (some (.bool false,w7))
 (gInt .i64 ⟨b,4,none⟩ w7 fun z8=>bnd (C Ao7 [iI z8,iI 0] w7) fun r w8=>aBool r fun z9=>bnd (cond (!z9) (some (true,w8)) (gInt .i64 ⟨b,5,none⟩ w8 fun z10=>bnd (C Ao7 [iI z10,iI 16896] w8) fun q1 w9=>aBool q1 fun z11=>some (!z11,w9))) fun c_7 w10=>bnd (cond c_7 (some (true,w10)) (gInt .i64 ⟨b,6,none⟩ w10 fun z12=>bnd (C Ao7 [iI z12,iI 16896] w10) fun q2 w11=>aBool q2 fun z13=>some (!z13,w11))) fun c_8 w12=>bnd (cond c_8 (some (true,w12)) (gInt .i64 ⟨b,7,none⟩ w12 fun z14=>bnd (C Ao7 [iI z14,iI 16896] w12) fun q3 w13=>aBool q3 fun z15=>some (!z15,w13))) fun c_9 w14=>bnd (cond c_9 (some (true,w14)) (gInt .i64 ⟨b,6,none⟩ w14 fun z16=>gInt .i64 ⟨b,7,none⟩ w14 fun z17=>some ((B4 .i64 z16 z17) != 0,w14))) fun c_10 w15=>cond c_10
 (some (.bool false,w15))
 (ckB (liveA ⟨b,8,none⟩ w15) (bnd (C E7 [.slice (G4 (some ⟨b,8,none⟩) (decide (0<8)) (0*1)) (8-0) (8-0),.func (.func Bo5) ⟨[]⟩ ⟨[]⟩] w15) fun q4 w16=>aBool q4 fun z18=>cond z18
 (some (.bool false,w16))
 (gInt .i64 ⟨b,0,none⟩ w16 fun z19=>cond (z19==2)
 (gInt .i64 ⟨b,4,none⟩ w16 fun z20=>bnd (cond (z20==0) (gAgg ⟨b,8,none⟩ 8 w16 fun z21=>A70 PR G52 z21 [iI 0,iI 0,iI 0,iI 0,iI 0,iI 0,iI 0,iI 0] fun eq=>some (eq,w16)) (some (false,w16))) fun c_11 w17=>some (.bool c_11,w17))
 (gInt .i64 ⟨b,3,none⟩ w16 fun z22=>some (.bool (z22==0),w16)))))):=kR
def Dz6:Cuts:=⟨0,[],[],[]⟩
def E57:List Item:=A2 Tryz.f311
theorem Ho3 :
 xQ Dz6 C R Bo9 Tryz.f311 E57 [(0,.slice b bn bc),(1,iI atv),(2,iI n)] h =
 bnd (cond (decide (atv<0)) (some (true,h)) (some (decide (atv>(wrap .i64 ((bn:Int)-2))),h))) fun c w=>bnd (cond c (some (true,w)) (some (decide (n<0),w))) fun c_1 w1=>bnd (cond c_1 (some (true,w1)) (some (decide (n>65535),w1))) fun c_2 w2=>cond c_2
 (some (.bool false,w2))
 (aSome b fun p=>ck ((0:Int)≤atv∧atv<(bn:Int)) (pV (add (B0 p) (Int.toNat atv*1)) (.int .u8 (wrap .u8 (Int.fdiv n (2 ^ 8)))) w2 fun w3=>aSome b fun p_1=>ck ((0:Int)≤wrap .i64 (atv+1)∧wrap .i64 (atv+1)<(bn:Int)) (pV (add (B0 p_1) (Int.toNat (wrap .i64 (atv+1))*1)) (.int .u8 (wrap .u8 (n))) w3 fun w4=>some (.bool true,w4)))):=kR
def B92:Cuts:=⟨0,[],[],[]⟩
def D48:List Item:=A2 Tryz.f318
theorem Gv0 :
 xQ B92 C R Ai0 Tryz.f318 D48 [(0,iI n)] h =
 bnd (cond (decide (n≥0)) (some ((Q4 .i64 n 65534)==0,h)) (some (false,h))) fun c w=>some (.bool c,w):=kR
def Bd3:Cuts:=⟨0,[],[],[]⟩
def Db9:List Item:=A2 Tryz.f323
theorem Et2 (put:Value) (get:Value) :
 xQ Bd3 C R At6 Tryz.f323 Db9 [(0,iI size),(1,put),(2,get)] h =
 one put (one get (nw (.cells An4 false [iI (mm2 false (mm2 true size 0) 64),put,get]) h fun b w=>some (pP b,w))):=kR
def Eu0:Cuts:=⟨0,[],[],[(1,⟨[0,1,2,3,4,5,6,7,8,9,10,11,12,13,14,15,16,17,18],[0,1,3,7,0,16,48,112,0,256,768,1792,0,4096,12288,28672,65535,0,262143],[],[]⟩),(2,⟨[0,1,2,3,4],[0,1,0,4,15],[],[]⟩),(4,⟨[0,1,2,3,4,5,6,7,8],[0,0,2,6,6,30,62,63,255],[(5,[0])],[]⟩)]⟩
def Gy0:List Item:=A2 Tryz.f328
theorem H89 :
 xQ Eu0 C R Bs7 Tryz.f328 Gy0 [(0,.slice b bn bc)] h =
 nw (.cells E5 false zZ4) h fun p1 w=>aSome b fun p=>ck ((0:Int)≤1∧1<(bn:Int)) (gInt .u8 (add (B0 p) (Int.toNat 1*1)) w fun x=>aSome b fun p_1=>ck ((0:Int)≤2∧2<(bn:Int)) (gInt .u8 (add (B0 p_1) (Int.toNat 2*1)) w fun z1=>aSome b fun p_2=>ck ((0:Int)≤3∧3<(bn:Int)) (gInt .u8 (add (B0 p_2) (Int.toNat 3*1)) w fun z2=>aSome b fun p_3=>ck ((0:Int)≤4∧4<(bn:Int)) (gInt .u8 (add (B0 p_3) (Int.toNat 4*1)) w fun z3=>nw (.cells E5 false zZ4) w fun p2 w1=>pAgg ⟨p2,0,none⟩ [iI (wrap .i64 (x)),iI (wrap .i64 (z1)),iI (wrap .i64 (z2)),iI (wrap .i64 (z3)),.int .u8 0,.int .u8 0,.int .u8 0,.int .u8 0,.int .u8 0,.int .u8 0,.int .u8 0,.int .u8 0,.int .u8 0,.int .u8 0,.int .u8 0,.int .u8 0,.int .u8 0,.int .u8 0,.int .u8 0,.int .u8 0,.int .u8 0,.int .u8 0,.int .u8 0,.int .u8 0,.int .u8 0,.int .u8 0,.int .u8 0,.int .u8 0,.int .u8 0,.int .u8 0,.int .u8 0,.int .u8 0,.int .u8 0,.int .u8 0,.int .u8 0,.int .u8 0] w1 fun w2=>ckB (liveA ⟨p2,4,none⟩ w2) (ckB (fitsOpen b A1 w2) (ck ((0:Int)≤8∧8≤(bn:Int)) (gCells (G4 b (decide (Int.toNat 8<bc)) ((Int.toNat 8)*1)) (min (bn-(Int.toNat 8)) (32-0)*1) w2 fun cs=>pCells (G4 (some ⟨p2,4,none⟩) (decide (0<32)) (0*1)) cs w2 fun w3=>gAgg ⟨p2,0,none⟩ 36 w3 fun z4=>bnd (C B01 [.agg ⟨z4⟩] w3) fun r w4=>as2 r fun q1 q2=>aSl q1 fun z5 xn xc=>aBool q2 fun z6=>gAgg ⟨p2,0,none⟩ 36 w4 fun z7=>bnd (cond z6 (bnd (C B9 [.slice z5 xn xc,.slice b bn bc] w4) fun q3 w5=>aBool q3 fun z8=>gAgg ⟨p2,0,none⟩ 36 w5 fun z9=>same (.agg ⟨z7⟩) (.agg ⟨z9⟩) (some (z8,w5))) (some (false,w4))) fun c w6=>ck (List.length z7=36) (pAgg ⟨p1,0,none⟩ z7 w6 fun w7=>gAgg ⟨p1,0,none⟩ 36 w7 fun z10=>some (.tuple ⟨[.agg ⟨z10⟩,.bool c]⟩,w7))))))))):=kR
def Ay1:Cuts:=⟨0,[],[],[]⟩
def Bp5:List Item:=A2 Tryz.f336
theorem Dw8 (t:Option Addr) :
 xQ Ay1 C R Ag4 Tryz.f336 Bp5 [(0,.pointer t),(1,iI name)] h =
 bnd (cond (decide (name<0)) (some (true,h)) (aSome t fun p=>gSl (add p 0) h fun _ xn _=>some (decide ((B4 .i64 name 255)≥(xn:Int)),h))) fun c w=>bnd (cond c (some (true,w)) (aSome t fun p_1=>gSl (add p_1 0) w fun z1 xn_1 _=>aSome z1 fun p_2=>ck ((0:Int)≤B4 .i64 name 255∧B4 .i64 name 255<(xn_1:Int)) (gBool (add (add (B0 p_2) (Int.toNat (B4 .i64 name 255)*8)) 7) w fun z2=>some (!z2,w)))) fun c_1 w1=>bnd (cond c_1 (some (true,w1)) (bnd (C O4 [.pointer t,iI (B4 .i64 name 255)] w1) fun r w2=>aInt .i64 r fun z3=>some (z3 != name,w2))) fun c_2 w3=>cond c_2
 (some (.pointer none,w3))
 (aSome t fun p_3=>gSl (add p_3 0) w3 fun z4 xn_2 _=>aSome z4 fun p_4=>ck ((0:Int)≤B4 .i64 name 255∧B4 .i64 name 255<(xn_2:Int)) (some (.pointer (some (add (B0 p_4) (Int.toNat (B4 .i64 name 255)*8))),w3))):=kR
def Bv1:Cuts:=⟨0,[],[],[]⟩
def Dq9:List Item:=A2 Tryz.f337
theorem Ge2 (stamp:Int) :
 xQ Bv1 C R A72 Tryz.f337 Dq9 [(0,.pointer s),(1,iI who),(2,iI stamp)] h =
 aSome s fun p=>gBool (add p 1) h fun x=>bnd (cond x (aSome s fun p_1=>gInt .i64 (add p_1 2) h fun z1=>some (z1==who,h)) (some (false,h))) fun c w=>bnd (cond c (aSome s fun p_2=>gInt .i64 (add p_2 3) w fun z2=>some (z2==stamp,w)) (some (false,w))) fun c_1 w1=>some (.bool c_1,w1):=kR
def Dx7:Cuts:=⟨0,[],[],[]⟩
def E73:List Item:=A2 Tryz.f338
theorem Hn8 (without:Int) :
 xQ Dx7 C R Ao7 Tryz.f338 E73 [(0,iI n),(1,iI without)] h =
 bnd (cond ((Q4 .i64 n 65534)==0) (some ((B4 .i64 n without)==0,h)) (some (false,h))) fun c w=>some (.bool c,w):=kR
def Ek5:Cuts:=⟨0,[],[],[]⟩
def Gu8:List Item:=A2 Tryz.f340
theorem Ic6 :
 xQ Ek5 C R Ds6 Tryz.f340 Gu8 [(0,.agg ⟨f⟩)] h =
 nw (.cells H5 false f) h fun b w=>gInt .i64 ⟨b,0,none⟩ w fun x=>bnd (cond (decide (x≥1)) (gInt .i64 ⟨b,0,none⟩ w fun z1=>some (decide (z1≤3),w)) (some (false,w))) fun c w1=>bnd (cond c (gInt .i64 ⟨b,1,none⟩ w1 fun z2=>some (decide (z2≥0),w1)) (some (false,w1))) fun c_1 w2=>bnd (cond c_1 (gInt .i64 ⟨b,1,none⟩ w2 fun z3=>some (decide (z3≤7),w2)) (some (false,w2))) fun c_2 w3=>bnd (cond c_2 (gInt .i64 ⟨b,0,none⟩ w3 fun z4=>bnd (cond (z4 != 3) (some (true,w3)) (gInt .i64 ⟨b,1,none⟩ w3 fun z5=>some (z5==0,w3))) fun c_3 w4=>some (c_3,w4)) (some (false,w3))) fun c_4 w5=>bnd (cond c_4 (gInt .i64 ⟨b,2,none⟩ w5 fun z6=>some (decide (z6≥1),w5)) (some (false,w5))) fun c_5 w6=>bnd (cond c_5 (gInt .i64 ⟨b,2,none⟩ w6 fun z7=>some (decide (z7≤64),w6)) (some (false,w6))) fun c_6 w7=>bnd (cond c_6 (gInt .i64 ⟨b,3,none⟩ w7 fun z8=>bnd (cond (z8==0) (some (true,w7)) (gInt .i64 ⟨b,3,none⟩ w7 fun z9=>some (z9==1,w7))) fun c_7 w8=>some (c_7,w8)) (some (false,w7))) fun c_8 w9=>some (.bool c_8,w9):=kR
end
end Go.EQ
