/- Honest calls on descriptors, and of processes, keep sound commons sound; no conditions. -/
import Derived.Test.YtoegoalficgneaaGreatMc
import Derived.Test.YtoegoalficgneaaGreatProg
import Derived.KernelRfl
set_option linter.all false
namespace Go.EQ
open Go Go.NN Go.Proofs
noncomputable abbrev PR:Program:=Tryz.prog
abbrev D2:FuncId:=6
abbrev Ao5:FuncId:=8
abbrev Br3:FuncId:=9
abbrev Bt7:FuncId:=10
abbrev I5:FuncId:=13
abbrev Ab9:FuncId:=15
abbrev Ac1:FuncId:=17
abbrev Af2:FuncId:=19
abbrev Ao7:FuncId:=20
abbrev E3:FuncId:=21
abbrev Bt8:FuncId:=22
abbrev An2:FuncId:=23
abbrev Db3:FuncId:=24
abbrev Bq1:FuncId:=25
abbrev A41:FuncId:=26
abbrev Dh2:FuncId:=27
abbrev B41:FuncId:=28
abbrev Dh1:FuncId:=29
abbrev Db0:FuncId:=30
abbrev B19:FuncId:=33
abbrev Dj5:FuncId:=34
abbrev W3:FuncId:=35
abbrev Ab3:FuncId:=36
abbrev A47:FuncId:=37
abbrev Bt1:FuncId:=38
abbrev Bg9:FuncId:=39
abbrev Ai5:FuncId:=40
abbrev A39:FuncId:=41
abbrev H6:FuncId:=42
abbrev Aj0:FuncId:=43
abbrev H0:FuncId:=44
abbrev O8:FuncId:=50
abbrev A51:FuncId:=51
abbrev Af4:FuncId:=52
abbrev Bm8:FuncId:=53
abbrev Ap8:FuncId:=54
abbrev Ac6:FuncId:=62
abbrev Aa5:FuncId:=64
abbrev D4:FuncId:=67
abbrev Bl2:FuncId:=68
abbrev Ab5:FuncId:=69
abbrev Aj5:FuncId:=70
abbrev N6:FuncId:=71
abbrev Ai6:FuncId:=72
abbrev Bs7:FuncId:=73
abbrev A01:FuncId:=74
abbrev Ag0:FuncId:=75
abbrev J0:FuncId:=76
abbrev B79:FuncId:=77
abbrev Af5:FuncId:=78
abbrev Bj3:FuncId:=79
abbrev L7:FuncId:=80
abbrev Bj5:FuncId:=81
abbrev Ab6:FuncId:=82
abbrev Ac9:FuncId:=83
abbrev G9:FuncId:=84
abbrev B38:FuncId:=85
abbrev B87:FuncId:=86
abbrev B02:FuncId:=87
abbrev Dp4:FuncId:=88
abbrev Do4:FuncId:=89
abbrev M7:FuncId:=90
abbrev M9:FuncId:=100
abbrev J5:FuncId:=101
abbrev H4:FuncId:=102
abbrev Dc0:FuncId:=103
abbrev Bd1:FuncId:=104
abbrev Bh2:FuncId:=105
abbrev Bc2:FuncId:=106
abbrev Gb5:FuncId:=107
abbrev A05:FuncId:=108
abbrev Gb7:FuncId:=109
abbrev Gj8:FuncId:=110
abbrev Gc3:FuncId:=111
abbrev Gm5:FuncId:=112
abbrev Gu5:FuncId:=113
abbrev El3:FuncId:=114
abbrev Gu4:FuncId:=115
abbrev Gv1:FuncId:=116
abbrev Bd2:FuncId:=117
abbrev Bi1:FuncId:=118
abbrev O0:FuncId:=119
abbrev V6:FuncId:=123
abbrev Ay5:FuncId:=124
abbrev Bs8:FuncId:=125
abbrev Ad8:FuncId:=126
abbrev Aj6:FuncId:=137
abbrev Aj7:FuncId:=138
abbrev Au6:FuncId:=143
abbrev Ar7:FuncId:=144
abbrev By1:FuncId:=145
abbrev H7:FuncId:=146
abbrev Bd3:FuncId:=147
abbrev Z9:FuncId:=148
abbrev Dx5:FuncId:=149
abbrev Dj3:FuncId:=150
abbrev Z5:FuncId:=151
abbrev B48:FuncId:=152
abbrev Ae4:FuncId:=153
abbrev Bn7:FuncId:=154
abbrev H8:FuncId:=155
abbrev Bs3:FuncId:=156
abbrev O6:FuncId:=157
abbrev A48:FuncId:=158
abbrev Ag1:FuncId:=159
abbrev J7:FuncId:=160
abbrev A50:FuncId:=161
abbrev Aa6:FuncId:=162
abbrev Br8:FuncId:=163
abbrev Bk6:FuncId:=164
abbrev I8:FuncId:=165
abbrev Aa8:FuncId:=190
abbrev Bt4:FuncId:=191
abbrev Ae9:FuncId:=192
abbrev Ek8:FuncId:=193
abbrev Be1:FuncId:=194
abbrev A45:FuncId:=195
abbrev Dl4:FuncId:=196
abbrev Ea8:FuncId:=197
abbrev A25:FuncId:=198
abbrev W2:FuncId:=199
abbrev Bn0:FuncId:=200
abbrev Ah3:FuncId:=201
abbrev U2:FuncId:=202
abbrev Ah8:FuncId:=203
abbrev B39:FuncId:=204
abbrev Bb3:FuncId:=205
abbrev Bm5:FuncId:=206
abbrev Bp9:FuncId:=207
abbrev Az4:FuncId:=208
abbrev Av8:FuncId:=209
abbrev Bn3:FuncId:=210
abbrev Ak7:FuncId:=211
abbrev Ai7:FuncId:=212
abbrev Ay3:FuncId:=213
abbrev Be0:FuncId:=214
abbrev Gb6:FuncId:=215
abbrev A78:FuncId:=216
abbrev Ba7:FuncId:=217
abbrev Bh9:FuncId:=218
abbrev Bh4:FuncId:=219
abbrev A07:FuncId:=220
abbrev Bp7:FuncId:=221
abbrev At1:FuncId:=222
abbrev Aq6:FuncId:=223
abbrev Bq7:FuncId:=224
abbrev Ad6:FuncId:=231
abbrev Aa0:FuncId:=232
abbrev Z1:FuncId:=233
abbrev Ap3:FuncId:=234
abbrev A21:FuncId:=235
abbrev V4:FuncId:=236
abbrev Af1:FuncId:=237
abbrev Aa2:FuncId:=247
abbrev W4:FuncId:=248
abbrev D3:FuncId:=249
abbrev G4:FuncId:=250
abbrev G5:FuncId:=251
abbrev E9:FuncId:=252
abbrev J6:FuncId:=253
abbrev Q3:FuncId:=254
abbrev Q2:FuncId:=255
abbrev N4:FuncId:=256
abbrev Ae5:FuncId:=257
abbrev Ad1:FuncId:=258
abbrev O2:FuncId:=259
abbrev A54:FuncId:=260
abbrev E2:FuncId:=261
abbrev Av7:FuncId:=262
abbrev U4:FuncId:=263
abbrev I0:FuncId:=264
abbrev O1:FuncId:=265
abbrev Aw2:FuncId:=266
abbrev Da4:FuncId:=267
abbrev S8:FuncId:=268
abbrev Bs1:FuncId:=269
abbrev Ae0:FuncId:=270
abbrev Bz4:FuncId:=271
abbrev Ad9:FuncId:=272
abbrev Ad5:FuncId:=273
abbrev Ae1:FuncId:=274
abbrev El4:FuncId:=276
abbrev A30:FuncId:=283
abbrev I2:FuncId:=285
abbrev Dj2:FuncId:=286
abbrev W0:FuncId:=287
abbrev Bl3:FuncId:=288
abbrev Aw3:FuncId:=289
abbrev Ap1:FuncId:=290
abbrev A55:FuncId:=291
abbrev Ah4:FuncId:=292
abbrev H2:FuncId:=293
abbrev Aa1:FuncId:=294
abbrev Aj2:FuncId:=295
abbrev Bx1:FuncId:=296
abbrev A58:FuncId:=297
abbrev At6:FuncId:=300
abbrev Bb4:FuncId:=301
abbrev A62:FuncId:=302
abbrev D1:FuncId:=303
abbrev Bh0:FuncId:=304
abbrev Bn1:FuncId:=305
abbrev Af0:FuncId:=306
abbrev H3:FuncId:=309
abbrev D99:FuncId:=310
abbrev B27:FuncId:=311
abbrev Ai9:FuncId:=312
abbrev Dj9:FuncId:=313
abbrev D5:FuncId:=314
abbrev M0:FuncId:=319
abbrev E1:FuncId:=320
abbrev D6:FuncId:=321
abbrev E0:FuncId:=322
abbrev A13:FuncId:=323
abbrev A42:FuncId:=324
abbrev A37:FuncId:=325
abbrev A08:FuncId:=326
abbrev B47:FuncId:=327
abbrev B53:FuncId:=328
abbrev A38:FuncId:=329
abbrev J9:FuncId:=331
abbrev S5:FuncId:=332
abbrev Al5:FuncId:=333
abbrev Ap5:FuncId:=336
abbrev Bh1:FuncId:=337
abbrev Aw0:FuncId:=338
abbrev By3:FuncId:=339
abbrev D95:FuncId:=340
abbrev A6:TypeId:=3
abbrev Hi8:TypeId:=4
abbrev A3:TypeId:=5
abbrev Ez2:TypeId:=9
abbrev Z7:TypeId:=22
abbrev Bu7:TypeId:=24
abbrev Ab8:TypeId:=34
abbrev Hl1:TypeId:=38
abbrev A9:TypeId:=40
abbrev Da5:TypeId:=56
abbrev B6:TypeId:=59
abbrev Ei5:TypeId:=65
abbrev Dm6:TypeId:=66
abbrev Ed2:TypeId:=74
abbrev Dp9:TypeId:=77
abbrev Bc7:TypeId:=80
abbrev D7:TypeId:=84
abbrev Gl1:TypeId:=86
abbrev B7:TypeId:=93
abbrev V3:TypeId:=106
abbrev Dy9:TypeId:=121
abbrev Ee9:TypeId:=132
abbrev Ba4:TypeId:=135
abbrev D54:TypeId:=138
abbrev G2:TypeId:=163
abbrev Dn4:TypeId:=172
abbrev G15:TypeId:=181
abbrev Ev6:TypeId:=189
abbrev Br2:TypeId:=196
abbrev E63:TypeId:=198
abbrev Gg5:TypeId:=211
abbrev Dc4:TypeId:=214
abbrev As0:TypeId:=216
abbrev L5:TypeId:=244
abbrev Ba1:TypeId:=251
abbrev W1:TypeId:=258
abbrev En4:TypeId:=266
abbrev Bk9:TypeId:=281
abbrev Gf0:TypeId:=285
abbrev Gf5:TypeId:=288
abbrev Gz8:TypeId:=290
abbrev Bw8:TypeId:=292
abbrev B83:TypeId:=300
abbrev W8:TypeId:=314
abbrev W7:TypeId:=317
abbrev W6:TypeId:=320
abbrev As2:TypeId:=322
abbrev Eo5:TypeId:=324
abbrev A75:TypeId:=348
abbrev I1:TypeId:=349
abbrev Ba0:TypeId:=352
abbrev Gw7:TypeId:=354
abbrev B80:TypeId:=356
abbrev Bz1:TypeId:=368
abbrev Gn7:TypeId:=371
abbrev Ju6:TypeId:=375
abbrev Av4:TypeId:=391
abbrev Da0:TypeId:=395
abbrev Dh4:TypeId:=399
abbrev Ay1:TypeId:=401
noncomputable abbrev iI (n:Int):Value:=.int .i64 n
noncomputable abbrev pP (b:Nat):Value:=.pointer (some ⟨b,0,none⟩)
noncomputable abbrev xQ (c:Cuts) (C:D9) (R:Ah2) (f:FuncId) (fn:Func) (T:List Item) (s:D0) (h:H):Option (Value × H):=Ad4 PR c C R f fn 100000 true T s h
theorem kR {α:Type} {a b:α} (h:a=b:=by kernel_rfl):a=b:=h
noncomputable abbrev zZ1:List Value:=[.int .i64 0,.int .i64 0,.int .i64 0,.int .i64 0,.int .i64 0,.int .i64 0,.int .i64 0,.int .i64 0,.int .i64 0,.int .i64 0,.int .i64 0,.int .i64 0,.int .i64 0,.int .i64 0,.int .i64 0,.int .i64 0]
noncomputable abbrev zZ2:List Value:=[.int .i64 0,.int .i64 0,.int .i64 0,.int .i64 0,.int .i64 0,.int .i64 0,.int .i64 0,.int .i64 0,.int .i64 0,.int .i64 0,.int .i64 0,.int .i64 0,.int .i64 0,.int .i64 0,.int .i64 0,.int .i64 0,.int .i64 0]
noncomputable abbrev zZ3:List Value:=[.int .i64 0,.int .i64 0,.int .i64 0,.int .i64 0,.int .i64 0,.int .i64 0,.int .i64 0,.int .i64 0,.int .i64 0,.int .i64 0,.int .i64 0,.int .i64 0]
noncomputable abbrev zZ4:List Value:=[.int .i64 0,.int .i64 0,.int .i64 0,.int .i64 0,.int .u8 0,.int .u8 0,.int .u8 0,.int .u8 0,.int .u8 0,.int .u8 0,.int .u8 0,.int .u8 0,.int .u8 0,.int .u8 0,.int .u8 0,.int .u8 0,.int .u8 0,.int .u8 0,.int .u8 0,.int .u8 0,.int .u8 0,.int .u8 0,.int .u8 0,.int .u8 0,.int .u8 0,.int .u8 0,.int .u8 0,.int .u8 0,.int .u8 0,.int .u8 0,.int .u8 0,.int .u8 0,.int .u8 0,.int .u8 0,.int .u8 0,.int .u8 0]
end Go.EQ

set_option maxRecDepth 100000
namespace Go.EQ
open Go Go.NN Go.Proofs
open Go.IntKind (wrap)
open Go.Addr (add)
variable (C:D9) (R:Ah2) (more nonev x2 x4 x8:Addr) (ok:Bool) (h:H) (a atv byv e env fd first g i j j_1 kind lo n name size target to v x10 x11 x14 x15 x16 x54 x7:Int) (o p r:List Value) (bc bn datac datan lc ln outc outn s1c s1n s2c s2n sc sn x13c x13n x14c x14n x9c x9n xc xn:Nat) (b c data k l m out q s s1 s2 t x x13 x9:Option Addr) (cmp decode f:Value)
noncomputable section
def Di9:Cuts:=⟨0,[(9,[6,7,8,9,10,11,12])],[],[]⟩
def Eh0:List Item:=A4 Tryz.f8
def Bx5:List Item:=stk [0,1,0,1,0,1,0,1,0,1,0,1,0,1,0,0,1,4,5] Eh0
theorem H29 :
 xQ Di9 C R Ao5 Tryz.f8 Eh0 [(0,.slice b bn bc)] h =
 bnd (C Dj5 [] h) fun r w=>aAgg r fun x=>bnd (C B19 [.agg ⟨x⟩] w) fun q1 w1=>as4 q1 fun q2 q3 q4 q5=>aPtr q2 fun z1=>aPtr q3 fun z2=>aPtr q4 fun z3=>aPtr q5 fun z4=>bnd (cond z2.isNone (some (true,w1)) (some ((bn:Int) != 492,w1))) fun c w2=>cond c
 (some (.tuple ⟨[.pointer none,.pointer none,.pointer none,.pointer none]⟩,w2))
 (nw (.cells Bc7 false [iI 0,iI 0,iI 0,iI 0,iI 0,iI 0,.slice none 0 0]) w2 fun p1 w3=>pAgg ⟨p1,0,none⟩ [iI 2,iI 256,iI 0,iI 0,iI 0,iI 0,.slice b bn bc] w3 fun w4=>bnd (C W3 [.agg ⟨[iI 0,iI 0,iI 1,iI 1,.int .u8 0,.int .u8 0,.int .u8 0,.int .u8 0,.int .u8 0,.int .u8 0,.int .u8 0,.int .u8 0,.int .u8 0,.int .u8 0,.int .u8 0,.int .u8 0,.int .u8 0,.int .u8 0,.int .u8 0,.int .u8 0,.int .u8 0,.int .u8 0,.int .u8 0,.int .u8 0,.int .u8 0,.int .u8 0,.int .u8 0,.int .u8 0,.int .u8 0,.int .u8 0,.int .u8 0,.int .u8 0,.int .u8 0,.int .u8 0,.int .u8 0,.int .u8 0]⟩] w4) fun q6 w5=>aStr q6 fun z5=>gAgg ⟨p1,0,none⟩ 7 w5 fun z6=>bnd (C Ab3 [.pointer z1,iI 0,.agg ⟨z6⟩] w5) fun q7 w6=>aAgg q7 fun _=>gAgg ⟨p1,0,none⟩ 7 w6 fun z8=>bnd (C A47 [.pointer z3,iI 0,.agg ⟨z8⟩] w6) fun q8 w7=>as3 q8 fun q9 q10 q11=>aInt .i64 q9 fun _=>aInt .i64 q10 fun _=>aStr q11 fun _=>R Ao5 Bx5 [(6,.pointer z1),(7,.pointer z2),(8,.pointer z3),(9,.pointer z4),(10,pP p1),(11,.string z5),(12,iI 1)] w7):=kR
theorem Dm2 (wv:Option Addr) (x:Addr) (pipe:ByteArray) :
 xQ Di9 C R Ao5 Tryz.f8 Bx5 [(6,.pointer k),(7,.pointer c),(8,.pointer wv),(9,.pointer m),(10,.pointer (some x)),(11,.string pipe),(12,iI i)] h =
 cond (decide (i<3))
 (ck (ByteArray.size pipe≤A7) (nw (.cells A3 false (A0 (ByteArray.data pipe).toList)) h fun b w=>pAgg x [iI 2,iI (wrap .i64 (256+i)),iI 0,iI 0,iI 0,iI 0,.slice (some (P4 b)) (ByteArray.size pipe) (ByteArray.size pipe)] w fun w1=>gAgg x 7 w1 fun z1=>bnd (C Ab3 [.pointer k,iI 0,.agg ⟨z1⟩] w1) fun r w2=>aAgg r fun _=>gAgg x 7 w2 fun z3=>bnd (C A47 [.pointer wv,iI 0,.agg ⟨z3⟩] w2) fun q1 w3=>as3 q1 fun q2 q3 q4=>aInt .i64 q2 fun _=>aInt .i64 q3 fun _=>aStr q4 fun _=>R Ao5 Bx5 [(6,.pointer k),(7,.pointer c),(8,.pointer wv),(9,.pointer m),(10,.pointer (some x)),(11,.string pipe),(12,iI (wrap .i64 (i+1)))] w3))
 (some (.tuple ⟨[.pointer k,.pointer c,.pointer wv,.pointer m]⟩,h)):=kR
def Bf5:Cuts:=⟨0,[],[],[]⟩
def B88:List Item:=A4 Tryz.f13
theorem Ep5 :
 xQ Bf5 C R I5 Tryz.f13 B88 [(0,.pointer c),(1,iI i)] h =
 nw (.cells A9 false zZ1) h fun b w=>bnd (C A51 [iI i] w) fun r w1=>aAgg r fun x=>bnd (C O8 [.pointer c,.agg ⟨x⟩,.func (.func Af4) ⟨[]⟩ ⟨[]⟩] w1) fun q1 w2=>as2 q1 fun q2 q3=>aAgg q2 fun z1=>aInt .i64 q3 fun z2=>ck (List.length z1=16) (pAgg ⟨b,0,none⟩ z1 w2 fun w3=>gAgg ⟨b,0,none⟩ 16 w3 fun z3=>some (.tuple ⟨[.agg ⟨z3⟩,iI z2]⟩,w3)):=kR
def Bv6:Cuts:=⟨0,[],[],[]⟩
def Dr9:List Item:=A4 Tryz.f17
theorem Gc2 :
 xQ Bv6 C R Ac1 Tryz.f17 Dr9 [(0,.pointer k)] h =
 aSome k fun p=>gPtr (add p 5) h fun x=>some (.pointer x,h):=kR
def D35:Cuts:=⟨0,[],[],[]⟩
def Ga1:List Item:=A4 Tryz.f24
theorem Hy8 :
 xQ D35 C R Db3 Tryz.f24 Ga1 [(0,.slice b bn bc)] h =
 bnd (C Ag0 [.slice b bn bc] h) fun r w=>aSl r fun _ xn _=>some (.bool ((xn:Int)==0),w):=kR
def Eq8:Cuts:=⟨0,[],[],[]⟩
def Gy1:List Item:=A4 Tryz.f26
theorem Gx2 :
 xQ Eq8 C R A41 Tryz.f26 Gy1 [(0,.pointer c),(1,iI i),(2,iI fd)] h =
 nw (.cells Ab8 false [iI 0,iI 0,.slice none 0 0,.bool false]) h fun b w=>bnd (C Af2 [.pointer c,iI i] w) fun r w1=>as2 r fun q1 q2=>aAgg q1 fun x=>aInt .i64 q2 fun z1=>nw (.cells A9 false zZ1) w1 fun p1 w2=>ck (List.length x=16) (pAgg ⟨p1,0,none⟩ x w2 fun w3=>cond (z1 != 0)
 (bnd (C J0 [iI z1] w3) fun q3 w4=>aAgg q3 fun z2=>ck (List.length z2=4) (pAgg ⟨b,0,none⟩ z2 w4 fun w5=>gAgg ⟨b,0,none⟩ 4 w5 fun z3=>some (.agg ⟨z3⟩,w5)))
 (gAgg ⟨p1,0,none⟩ 16 w3 fun z4=>bnd (C B87 [.agg ⟨z4⟩,iI fd] w3) fun q4 w6=>aBool q4 fun z5=>cond (!z5)
 (bnd (C J0 [iI 109] w6) fun q5 w7=>aAgg q5 fun z6=>ck (List.length z6=4) (pAgg ⟨b,0,none⟩ z6 w7 fun w8=>gAgg ⟨b,0,none⟩ 4 w8 fun z7=>some (.agg ⟨z7⟩,w8)))
 (ck ((0:Int)≤fd∧fd<((8:Nat):Int)) (gInt .i64 (add ⟨p1,8,none⟩ (Int.toNat fd*1)) w6 fun z8=>ck ((0:Int)≤fd∧fd<((8:Nat):Int)) (pV (add ⟨p1,8,none⟩ (Int.toNat fd*1)) (iI 0) w6 fun w9=>gAgg ⟨p1,0,none⟩ 16 w9 fun z9=>bnd (C H0 [.pointer c,iI i,.agg ⟨z9⟩] w9) fun q6 w10=>aBool q6 fun z10=>cond (!z10)
 (bnd (C J0 [iI 105] w10) fun q7 w11=>aAgg q7 fun z11=>ck (List.length z11=4) (pAgg ⟨b,0,none⟩ z11 w11 fun w12=>gAgg ⟨b,0,none⟩ 4 w12 fun z12=>some (.agg ⟨z12⟩,w12)))
 (bnd (C Aa5 [.pointer c,iI (wrap .i64 (z8-1))] w10) fun q8 w13=>aInt .i64 q8 fun z13=>bnd (C J0 [iI z13] w13) fun q9 w14=>aAgg q9 fun z14=>ck (List.length z14=4) (pAgg ⟨b,0,none⟩ z14 w14 fun w15=>gAgg ⟨b,0,none⟩ 4 w15 fun z15=>some (.agg ⟨z15⟩,w15)))))))):=kR
def Eh7:Cuts:=⟨0,[],[],[]⟩
def Gj4:List Item:=A4 Tryz.f33
theorem H53 :
 xQ Eh7 C R B19 Tryz.f33 Gj4 [(0,.agg ⟨p⟩)] h =
 nw (.cells Dp9 false p) h fun b w=>gAgg ⟨b,0,none⟩ 3 w fun x=>bnd (C M9 [.agg ⟨x⟩] w) fun r w1=>aAgg r fun z1=>nw (.cells G2 false [.slice none 0 0,.slice none 0 0,.slice none 0 0,iI 0,.slice none 0 0]) w1 fun p1 w2=>ck (List.length z1=5) (pAgg ⟨p1,0,none⟩ z1 w2 fun w3=>gAgg ⟨p1,0,none⟩ 5 w3 fun z2=>bnd (C J5 [.agg ⟨z2⟩] w3) fun q1 w4=>as2 q1 fun q2 q3=>aPtr q2 fun z3=>aInt .i64 q3 fun z4=>bnd (cond z3.isNone (some (true,w4)) (some (z4 != 0,w4))) fun c w5=>cond c
 (some (.tuple ⟨[.pointer none,.pointer none,.pointer none,.pointer none]⟩,w5))
 (gAgg ⟨p1,0,none⟩ 5 w5 fun z5=>bnd (C H4 [.agg ⟨z5⟩] w5) fun q4 w6=>aPtr q4 fun z6=>bnd (C Dc0 [.pointer z3,iI 0] w6) fun q5 w7=>as2 q5 fun q6 q7=>aPtr q6 fun z7=>aInt .i64 q7 fun z8=>bnd (cond z7.isNone (some (true,w7)) (some (z8 != 0,w7))) fun c_1 w8=>cond c_1
 (some (.tuple ⟨[.pointer none,.pointer none,.pointer none,.pointer none]⟩,w8))
 (bnd (C Bt1 [] w8) fun q8 w9=>aStr q8 fun z9=>ck (ByteArray.size z9≤A7) (nw (.cells A3 false (A0 (ByteArray.data z9).toList)) w9 fun p2 w10=>bnd (C Ab3 [.pointer z3,iI 0,.agg ⟨[iI 2,iI 256,iI 0,iI 0,iI 0,iI 0,.slice (some (P4 p2)) (ByteArray.size z9) (ByteArray.size z9)]⟩] w10) fun q9 w11=>aAgg q9 fun z10=>nth z10 0 fun E=>aInt .i64 E fun E_1=>cond (E_1 != 0)
 (some (.tuple ⟨[.pointer none,.pointer none,.pointer none,.pointer none]⟩,w11))
 (ck (ByteArray.size z9≤A7) (nw (.cells A3 false (A0 (ByteArray.data z9).toList)) w11 fun p3 w12=>bnd (C A47 [.pointer z6,iI 0,.agg ⟨[iI 2,iI 256,iI 0,iI 0,iI 0,iI 0,.slice (some (P4 p3)) (ByteArray.size z9) (ByteArray.size z9)]⟩] w12) fun q10 w13=>as3 q10 fun q11 q12 q13=>aInt .i64 q11 fun _=>aInt .i64 q12 fun _=>aStr q13 fun _=>bnd (C Bd1 [.pointer z6,iI 0] w13) fun q14 w14=>aPtr q14 fun z14=>some (.tuple ⟨[.pointer z3,.pointer z7,.pointer z6,.pointer z14]⟩,w14))))))):=kR
def Du2:Cuts:=⟨0,[],[],[]⟩
def Ev7:List Item:=A4 Tryz.f36
theorem Hp4 (c:List Value) :
 xQ Du2 C R Ab3 Tryz.f36 Ev7 [(0,.pointer k),(1,iI env),(2,.agg ⟨c⟩)] h =
 nw (.cells Bc7 false c) h fun b w=>nw (.cells Gl1 false [iI 0,iI 0,.slice none 0 0]) w fun p1 w1=>bnd (cond (decide (env<0)) (some (true,w1)) (aSome k fun p=>gSl (add p 0) w1 fun _ xn _=>some (decide (env≥(xn:Int)),w1))) fun c_1 w2=>cond c_1
 (pAgg ⟨p1,0,none⟩ [iI 1,iI 0,.slice none 0 0] w2 fun w3=>gAgg ⟨p1,0,none⟩ 3 w3 fun z1=>some (.agg ⟨z1⟩,w3))
 (gAgg ⟨b,0,none⟩ 7 w2 fun z2=>bnd (C Bh2 [.pointer k,iI env,.agg ⟨z2⟩] w2) fun r w4=>as3 r fun q1 q2 q3=>aSl q1 fun z3 xn_1 xc_1=>aInt .i64 q2 fun z4=>aBool q3 fun z5=>cond z5
 (pAgg ⟨p1,0,none⟩ [iI z4,iI 0,.slice z3 xn_1 xc_1] w4 fun w5=>gAgg ⟨p1,0,none⟩ 3 w5 fun z6=>some (.agg ⟨z6⟩,w5))
 (gAgg ⟨b,0,none⟩ 7 w4 fun z7=>bnd (C Bc2 [.pointer k,iI env,.agg ⟨z7⟩] w4) fun q4 w6=>as2 q4 fun q5 q6=>aInt .i64 q5 fun z8=>aInt .i64 q6 fun z9=>pAgg ⟨p1,0,none⟩ [iI z9,iI z8,.slice none 0 0] w6 fun w7=>gAgg ⟨p1,0,none⟩ 3 w7 fun z10=>some (.agg ⟨z10⟩,w7))):=kR
def D32:Cuts:=⟨0,[],[],[(1,⟨[0,1,2,3,4,5,6,7],[0,1,0,4,15,12,63,127],[(3,[1]),(5,[1])],[]⟩)]⟩
def E96:List Item:=A4 Tryz.f38
theorem Hx6 :
 xQ D32 C R Bt1 Tryz.f38 E96 [] h =
 ck ((0:Int)≤448∧(448:Int)≤448∧448≤(A7:Int)) (nw (.cells A3 false (I7 (Int.toNat 448) [.int .u8 0])) h fun b w=>gCells (some ⟨b,0,none⟩) (Int.toNat 448) w fun cs=>asBytes cs fun l=>bnd (C W3 [.agg ⟨[iI 0,iI 0,iI 1,iI 1,.int .u8 0,.int .u8 0,.int .u8 0,.int .u8 0,.int .u8 0,.int .u8 0,.int .u8 0,.int .u8 0,.int .u8 0,.int .u8 0,.int .u8 0,.int .u8 0,.int .u8 0,.int .u8 0,.int .u8 0,.int .u8 0,.int .u8 0,.int .u8 0,.int .u8 0,.int .u8 0,.int .u8 0,.int .u8 0,.int .u8 0,.int .u8 0,.int .u8 0,.int .u8 0,.int .u8 0,.int .u8 0,.int .u8 0,.int .u8 0,.int .u8 0,.int .u8 0]⟩] w) fun r w1=>aStr r fun x=>gCells (some ⟨b,0,none⟩) (Int.toNat 448) w1 fun cs_1=>asBytes cs_1 fun l_1=>same (.string (ByteArray.mk ⟨l⟩)) (.string (ByteArray.mk ⟨l_1⟩)) (ck (ByteArray.size (ByteArray.mk ⟨l⟩)+ByteArray.size x≤A7) (bnd (C Bd2 [iI 0] w1) fun q1 w2=>aStr q1 fun z1=>gCells (some ⟨b,0,none⟩) (Int.toNat 448) w2 fun cs_2=>asBytes cs_2 fun l_2=>same (.string (ByteArray.mk ⟨l⟩)) (.string (ByteArray.mk ⟨l_2⟩)) (ck (ByteArray.size ((ByteArray.mk ⟨l⟩)++x)+ByteArray.size z1≤A7) (some (.string (((ByteArray.mk ⟨l⟩)++x)++z1),w2)))))):=kR
def B63:Cuts:=⟨0,[],[],[]⟩
def D60:List Item:=A4 Tryz.f39
theorem Gv7 (f:List Value) :
 xQ B63 C R Bg9 Tryz.f39 D60 [(0,.agg ⟨f⟩)] h =
 nw (.cells B7 false f) h fun b w=>gInt .i64 ⟨b,0,none⟩ w fun x=>gInt .i64 ⟨b,1,none⟩ w fun z1=>gInt .i64 ⟨b,2,none⟩ w fun z2=>gInt .i64 ⟨b,3,none⟩ w fun z3=>nw (.cells A3 false [.int .u8 (wrap .u8 (x)),.int .u8 (wrap .u8 (z1)),.int .u8 (wrap .u8 (z2)),.int .u8 (wrap .u8 (z3)),.int .u8 179]) w fun p1 w1=>gCells (some ⟨p1,0,none⟩) 5 w1 fun cs=>asBytes cs fun l=>bnd (C Ap8 [.string (ByteArray.mk ⟨l⟩)] w1) fun r w2=>aInt .u8 r fun z4=>nw (.cells A3 false [.int .u8 z4,.int .u8 0,.int .u8 0]) w2 fun p2 w3=>gCells (some ⟨p2,0,none⟩) 3 w3 fun cs_1=>asBytes cs_1 fun l_1=>ck (ByteArray.size (ByteArray.mk ⟨l⟩)+ByteArray.size (ByteArray.mk ⟨l_1⟩)≤A7) (some (.string ((ByteArray.mk ⟨l⟩)++(ByteArray.mk ⟨l_1⟩)),w3)):=kR
def Bi8:Cuts:=⟨0,[(3,[0,3,5,17,18]),(9,[0,5,31,32]),(19,[0,57,58])],[],[(15,⟨[0,1,2,3,4,5,6,7,8],[0,1,0,4,12,28,63,127,255],[],[]⟩)]⟩
def Bz5:List Item:=A4 Tryz.f42
def Bd8:List Item:=stk [0,1,0,1,0,0,1,4,5] Bz5
def Ax3:List Item:=stk [0,1,0,1,0,1,0,0,1,4,5] Bz5
def Ay2:List Item:=stk [0,1,0,1,0,1,0,1,0,0,1,4,5] Bz5
theorem H08 :
 xQ Bi8 C R H6 Tryz.f42 Bz5 [(0,.pointer c),(1,.agg ⟨p⟩)] h =
 nw (.cells A9 false p) h fun b w=>nw (.cells E63 false zZ3) w fun p1 w1=>gAgg ⟨b,8,none⟩ 8 w1 fun x=>R H6 Bd8 [(0,.pointer c),(3,pP b),(5,pP p1),(17,.agg ⟨x⟩),(18,iI 0)] w1:=kR
theorem En0 (p:Addr) (x17:List Value) (x18:Int) :
 xQ Bi8 C R H6 Tryz.f42 Bd8 [(0,.pointer c),(3,.pointer (some p)),(5,.pointer (some more)),(17,.agg ⟨x17⟩),(18,iI x18)] h =
 cond (decide (x18<8))
 (ck ((0:Int)≤x18∧x18<((8:Nat):Int)) (nth x17 (Int.toNat x18*1) fun x=>aInt .i64 x fun z1=>cond (decide (z1>0))
 (ck ((0:Int)≤wrap .i64 (z1-1)∧wrap .i64 (z1-1)<((12:Nat):Int)) (gInt .i64 (add more (Int.toNat (wrap .i64 (z1-1))*1)) h fun z2=>ck ((0:Int)≤wrap .i64 (z1-1)∧wrap .i64 (z1-1)<((12:Nat):Int)) (pV (add more (Int.toNat (wrap .i64 (z1-1))*1)) (iI (wrap .i64 (z2+1))) h fun w=>R H6 Bd8 [(0,.pointer c),(3,.pointer (some p)),(5,.pointer (some more)),(17,.agg ⟨x17⟩),(18,iI (wrap .i64 (x18+1)))] w)))
 (R H6 Bd8 [(0,.pointer c),(3,.pointer (some p)),(5,.pointer (some more)),(17,.agg ⟨x17⟩),(18,iI (wrap .i64 (x18+1)))] h)))
 (gAgg (add p 8) 8 h fun z3=>R H6 Ax3 [(0,.pointer c),(5,.pointer (some more)),(31,.agg ⟨z3⟩),(32,iI 0)] h):=kR
theorem El5 (x31:List Value) (x32:Int) :
 xQ Bi8 C R H6 Tryz.f42 Ax3 [(0,.pointer c),(5,.pointer (some more)),(31,.agg ⟨x31⟩),(32,iI x32)] h =
 cond (decide (x32<8))
 (ck ((0:Int)≤x32∧x32<((8:Nat):Int)) (nth x31 (Int.toNat x32*1) fun x=>aInt .i64 x fun z1=>cond (z1==0)
 (R H6 Ax3 [(0,.pointer c),(5,.pointer (some more)),(31,.agg ⟨x31⟩),(32,iI (wrap .i64 (x32+1)))] h)
 (bnd (C L7 [.pointer c,iI (wrap .i64 (z1-1))] h) fun r w=>as2 r fun q1 q2=>aAgg q1 fun z2=>aInt .i64 q2 fun z3=>nw (.cells B7 false [iI 0,iI 0,iI 0,iI 0]) w fun b w1=>ck (List.length z2=4) (pAgg ⟨b,0,none⟩ z2 w1 fun w2=>cond (z3 != 1)
 (some (iI 105,w2))
 (gInt .i64 ⟨b,2,none⟩ w2 fun z4=>ck ((0:Int)≤wrap .i64 (z1-1)∧wrap .i64 (z1-1)<((12:Nat):Int)) (gInt .i64 (add more (Int.toNat (wrap .i64 (z1-1))*1)) w2 fun z5=>cond (decide ((wrap .i64 (z4+z5))>64))
 (some (iI 123,w2))
 (R H6 Ax3 [(0,.pointer c),(5,.pointer (some more)),(31,.agg ⟨x31⟩),(32,iI (wrap .i64 (x32+1)))] w2)))))))
 (gAgg more 12 h fun z6=>R H6 Ay2 [(0,.pointer c),(57,.agg ⟨z6⟩),(58,iI 0)] h):=kR
theorem Ek5 (x57:List Value) (x58:Int) :
 xQ Bi8 C R H6 Tryz.f42 Ay2 [(0,.pointer c),(57,.agg ⟨x57⟩),(58,iI x58)] h =
 cond (decide (x58<12))
 (ck ((0:Int)≤x58∧x58<((12:Nat):Int)) (nth x57 (Int.toNat x58*1) fun x=>aInt .i64 x fun z1=>cond (z1==0)
 (R H6 Ay2 [(0,.pointer c),(57,.agg ⟨x57⟩),(58,iI (wrap .i64 (x58+1)))] h)
 (bnd (C L7 [.pointer c,iI x58] h) fun r w=>as2 r fun q1 q2=>aAgg q1 fun z2=>aInt .i64 q2 fun _=>nw (.cells B7 false [iI 0,iI 0,iI 0,iI 0]) w fun b w1=>ck (List.length z2=4) (pAgg ⟨b,0,none⟩ z2 w1 fun w2=>gInt .i64 ⟨b,2,none⟩ w2 fun z4=>pV ⟨b,2,none⟩ (iI (wrap .i64 (z4+z1))) w2 fun w3=>gAgg ⟨b,0,none⟩ 4 w3 fun z5=>bnd (C G9 [.pointer c,iI x58,.agg ⟨z5⟩] w3) fun q3 w4=>aBool q3 fun z6=>cond (!z6)
 (some (iI 105,w4))
 (R H6 Ay2 [(0,.pointer c),(57,.agg ⟨x57⟩),(58,iI (wrap .i64 (x58+1)))] w4)))))
 (some (iI 0,h)):=kR
def Ep0:Cuts:=⟨0,[],[],[]⟩
def Gz6:List Item:=A4 Tryz.f43
theorem Ih4 :
 xQ Ep0 C R Aj0 Tryz.f43 Gz6 [(0,.bool ok),(1,iI n)] h =
 nw (.cells Ab8 false [iI 0,iI 0,.slice none 0 0,.bool false]) h fun b w=>cond (!ok)
 (bnd (C Ai5 [iI 105] w) fun r w1=>aAgg r fun x=>ck (List.length x=4) (pAgg ⟨b,0,none⟩ x w1 fun w2=>gAgg ⟨b,0,none⟩ 4 w2 fun z1=>some (.agg ⟨z1⟩,w2)))
 (pAgg ⟨b,0,none⟩ [iI n,iI 0,.slice none 0 0,.bool false] w fun w3=>gAgg ⟨b,0,none⟩ 4 w3 fun z2=>some (.agg ⟨z2⟩,w3)):=kR
def E81:Cuts:=⟨0,[],[],[]⟩
def Hd4:List Item:=A4 Tryz.f53
theorem Iz6 :
 xQ E81 C R Bm8 Tryz.f53 Hd4 [(0,iI n)] h =
 nw (.cells A3 false [.int .u8 (wrap .u8 (Int.fdiv n (2 ^ 8))),.int .u8 (wrap .u8 (n))]) h fun b w=>gCells (some ⟨b,0,none⟩) 2 w fun cs=>asBytes cs fun l=>some (.string (ByteArray.mk ⟨l⟩),w):=kR
def B30:Cuts:=⟨0,[(6,[4,29,30,31])],[],[]⟩
def Dv5:List Item:=A4 Tryz.f75
def A03:List Item:=stk [0,1,0,1,0,1,0,1,0,0,1,4,5] Dv5
theorem Ho8 :
 xQ B30 C R Ag0 Tryz.f75 Dv5 [(0,.slice b bn bc)] h =
 bnd (C Dx5 [.slice b bn bc] h) fun r w=>aSl r fun _ xn _=>cond (decide ((xn:Int)>0))
 (nw (.cells Ez2 false [.string (ByteArray.mk ⟨[98,97,100]⟩)]) w fun p1 w1=>some (.slice (some ⟨p1,0,none⟩) 1 1,w1))
 (bnd (C Dj3 [.slice b bn bc] w) fun q1 w2=>aPtr q1 fun z1=>bnd (C Z5 [.pointer z1] w2) fun q2 w3=>aBool q2 fun z2=>bnd (C B48 [.pointer z1] w3) fun q3 w4=>aBool q3 fun z3=>bnd (C Ae4 [.pointer z1] w4) fun q4 w5=>aBool q4 fun z4=>bnd (C Bn7 [.pointer z1] w5) fun q5 w6=>aBool q5 fun z5=>bnd (C H8 [.pointer z1] w6) fun q6 w7=>aBool q6 fun z6=>nw (.cells As0 false [.string (ByteArray.mk ⟨[112,97,114,101,110,116]⟩),.bool z2,.string (ByteArray.mk ⟨[102,100]⟩),.bool z3,.string (ByteArray.mk ⟨[114,101,102,115]⟩),.bool z4,.string (ByteArray.mk ⟨[112,105,112,101]⟩),.bool z5,.string (ByteArray.mk ⟨[101,110,100,115]⟩),.bool z6]) w7 fun p2 w8=>R Ag0 A03 [(4,.slice none 0 0),(29,.slice (some ⟨p2,0,none⟩) 5 5),(30,iI 5),(31,iI 0)] w8):=kR
theorem D61 (x29:Option Addr) (x29n x29c:Nat) (x30:Int) (x31:Int) :
 xQ B30 C R Ag0 Tryz.f75 A03 [(4,.slice out outn outc),(29,.slice x29 x29n x29c),(30,iI x30),(31,iI x31)] h =
 cond (decide (x31<x30))
 (aSome x29 fun p=>ck ((0:Int)≤x31∧x31<(x29n:Int)) (gAgg (add (A8 p) (Int.toNat x31*2)) 2 h fun x=>nw (.cells As0 false [.string (ByteArray.mk ⟨[]⟩),.bool false]) h fun b w=>ck (List.length x=2) (pAgg ⟨b,0,none⟩ x w fun w1=>gBool ⟨b,1,none⟩ w1 fun z1=>cond z1
 (gStr ⟨b,0,none⟩ w1 fun z2=>nw (.cells Ez2 false [.string z2]) w1 fun p1 w2=>gCells (some ⟨p1,0,none⟩) (1*1) w2 fun cs=>ckB (fitsOpen out Ez2 w2) (apd Ez2 1 out outn outc 1 cs w2 fun a an ac w3=>R Ag0 A03 [(4,.slice a an ac),(29,.slice x29 x29n x29c),(30,iI x30),(31,iI (wrap .i64 (x31+1)))] w3))
 (R Ag0 A03 [(4,.slice out outn outc),(29,.slice x29 x29n x29c),(30,iI x30),(31,iI (wrap .i64 (x31+1)))] w1))))
 (some (.slice out outn outc,h)):=kR
def A49:Cuts:=⟨0,[(4,[1,3,4]),(8,[1,3,5]),(13,[1,3,5,6,7,9])],[],[(1,⟨[0,1,2,3,4,5,6],[0,0,2,6,15,31,63],[(3,[0])],[]⟩),(2,⟨[0,1,2,3,4,5,6,7,11,12,13,8,9,10,14,15,16,17,18,19],[0,0,2,6,14,0,32,96,254,510,1022,0,2048,6144,14846,32766,65534,131071,262143,524287],[(8,[12])],[]⟩),(6,⟨[0,1,2,3,4,5,6,7,8,9,10,11,12],[0,0,2,6,14,0,32,96,224,510,1023,2047,4095],[(7,[4])],[]⟩),(11,⟨[0,1,2,3,4,5,6,7,8,9,11,12,15,16,18,19,10,13,14,17,20,21,22,23,24,25],[0,1,3,7,0,16,48,112,0,256,1008,0,2048,8176,16368,0,32768,131056,0,262144,1048575,2097151,4194303,4194303,8388607,33554431],[(10,[3,12,16,19])],[]⟩),(15,⟨[0,1,2,3,4,5,6,7],[0,1,0,4,0,28,60,127],[],[]⟩),(16,⟨[0,1,2,3,4,5,6,7,8,9,10,11,12],[0,1,3,7,15,31,63,0,0,0,512,1792,4095],[],[]⟩)]⟩
def Bj7:List Item:=A4 Tryz.f102
def Bh8:List Item:=stk [0,1,0,1,0,1,0,0,1,4,5] Bj7
def Az9:List Item:=stk [0,1,0,1,0,1,0,1,0,0,1,4,5] Bj7
def A02:List Item:=stk [0,1,0,1,0,1,0,1,0,0,1,4,5,6,0,1,0,4,0,1,0,1,0,1,4,5] Bj7
theorem Hp2 (b:List Value) :
 xQ A49 C R H4 Tryz.f102 Bj7 [(0,.agg ⟨b⟩)] h =
 nw (.cells G2 false b) h fun p1 w=>gAgg ⟨p1,0,none⟩ 5 w fun x=>gSl ⟨p1,0,none⟩ w fun z1 xn xc=>bnd (C Ah3 [.slice z1 xn xc] w) fun r w1=>aPtr r fun z2=>gAgg ⟨p1,0,none⟩ 5 w1 fun z3=>same (.agg ⟨x⟩) (.agg ⟨z3⟩) (ck (List.length x=5) (nw (.cells G15 false (x++(.pointer z2::(.pointer none::(.slice none 0 0::[iI 0]))))) w1 fun p2 w2=>gPtr ⟨p2,5,none⟩ w2 fun z4=>gSl ⟨p1,0,none⟩ w2 fun _ xn_1 _=>gSl ⟨p1,1,none⟩ w2 fun z6 xn_2 xc_2=>bnd (C U2 [.pointer z4,iI (xn_1:Int)] w2) fun q1 w3=>aInt .i64 q1 fun z7=>gSl ⟨p1,1,none⟩ w3 fun z8 xn_3 xc_3=>same (.slice z6 xn_2 xc_2) (.slice z8 xn_3 xc_3) (ck ((0:Int)≤wrap .i64 (64*z7)∧(wrap .i64 (64*z7):Int)≤wrap .i64 (64*z7)∧wrap .i64 (64*z7)≤(A7:Int)) (nw (.cells A3 false (I7 (Int.toNat (wrap .i64 (64*z7))) [.int .u8 0])) w3 fun p3 w4=>bnd (C Ah8 [iI (xn_2:Int)] w4) fun q2 w5=>aPtr q2 fun z9=>nw (.cells Ev6 false [.slice (some ⟨p3,0,none⟩) (Int.toNat (wrap .i64 (64*z7))) (Int.toNat (wrap .i64 (64*z7))),.slice none 0 0,.slice none 0 0,.pointer z9]) w5 fun p4 w6=>pV ⟨p2,6,none⟩ (pP p4) w6 fun w7=>R H4 Bh8 [(1,pP p1),(3,pP p2),(4,iI 0)] w7)))):=kR
theorem D63 (b:Addr) (k:Addr) :
 xQ A49 C R H4 Tryz.f102 Bh8 [(1,.pointer (some b)),(3,.pointer (some k)),(4,iI i)] h =
 gSl (add b 2) h fun _ xn _=>cond (decide (i<(xn:Int)))
 (gSl (add k 7) h fun z1 xn_1 xc_1=>gInt .i64 (add b 3) h fun z2=>bnd (C B39 [iI z2] h) fun r w=>aPtr r fun z3=>gSl (add k 7) w fun z4 xn_2 xc_2=>same (.slice z1 xn_1 xc_1) (.slice z4 xn_2 xc_2) (nw (.cells Br2 false [.pointer z3]) w fun p1 w1=>gCells (some ⟨p1,0,none⟩) (1*1) w1 fun cs=>ckB (fitsOpen z1 Br2 w1) (apd Br2 1 z1 xn_1 xc_1 1 cs w1 fun a an ac w2=>pV (add k 7) (.slice a an ac) w2 fun w3=>R H4 Bh8 [(1,.pointer (some b)),(3,.pointer (some k)),(4,iI (wrap .i64 (i+1)))] w3)))
 (R H4 Az9 [(1,.pointer (some b)),(3,.pointer (some k)),(5,iI 0)] h):=kR
theorem D65 (b:Addr) (k:Addr) :
 xQ A49 C R H4 Tryz.f102 Az9 [(1,.pointer (some b)),(3,.pointer (some k)),(5,iI i)] h =
 gSl (add b 4) h fun _ xn _=>cond (decide (i<(xn:Int)))
 (gSl (add b 4) h fun z1 xn_1 _=>aSome z1 fun p=>ck ((0:Int)≤i∧i<(xn_1:Int)) (gAgg (add (A8 p) (Int.toNat i*5)) 5 h fun z2=>nw (.cells L5 false [iI 0,iI 0,iI 0,iI 0,.slice none 0 0]) h fun p1 w=>ck (List.length z2=5) (pAgg ⟨p1,0,none⟩ z2 w fun w1=>gPtr (add k 6) w1 fun z3=>gPtr (add k 5) w1 fun z4=>gInt .i64 ⟨p1,0,none⟩ w1 fun z5=>gInt .i64 ⟨p1,1,none⟩ w1 fun z6=>gInt .i64 ⟨p1,2,none⟩ w1 fun z7=>gInt .i64 ⟨p1,3,none⟩ w1 fun z8=>bnd (C U2 [.pointer z4,iI z5] w1) fun r w2=>aInt .i64 r fun z9=>gPtr (add k 6) w2 fun z10=>same (.pointer z3) (.pointer z10) (gInt .i64 ⟨p1,1,none⟩ w2 fun z11=>same (iI z6) (iI z11) (gInt .i64 ⟨p1,2,none⟩ w2 fun z12=>same (iI z7) (iI z12) (gInt .i64 ⟨p1,3,none⟩ w2 fun z13=>same (iI z8) (iI z13) (bnd (C Bb3 [.pointer z3,iI (wrap .i64 ((wrap .i64 (64*(wrap .i64 (z9+z6))))+z7)),iI z8] w2) fun q1 w3=>as2 q1 fun q2 q3=>aInt .i64 q2 fun z14=>aInt .i64 q3 fun _=>R H4 A02 [(1,.pointer (some b)),(3,.pointer (some k)),(5,iI i),(6,pP p1),(7,iI z14),(9,iI 0)] w3)))))))
 (some (.pointer (some k),h)):=kR
theorem D64 (b:Addr) (k:Addr) (s:Addr) (obj:Int) :
 xQ A49 C R H4 Tryz.f102 A02 [(1,.pointer (some b)),(3,.pointer (some k)),(5,iI i),(6,.pointer (some s)),(7,iI obj),(9,iI e)] h =
 gSl (add b 1) h fun _ xn _=>cond (decide (e<(xn:Int)))
 (gSl (add s 4) h fun z1 xn_1 xc_1=>gSl (add b 1) h fun z2 xn_2 _=>aSome z2 fun p=>ck ((0:Int)≤e∧e<(xn_2:Int)) (gInt .i64 (add (A8 p) (Int.toNat e*1)) h fun z3=>bnd (C Bm5 [.slice z1 xn_1 xc_1,iI z3] h) fun r w=>aBool r fun z4=>cond z4
 (gPtr (add k 6) w fun z5=>aSome z5 fun p_1=>gPtr (add p_1 3) w fun z6=>gInt .i64 (add s 3) w fun z7=>bnd (C Bp9 [.pointer z6,iI e,.agg ⟨[iI obj,iI 3,iI 0,iI z7,iI 0,iI 0]⟩] w) fun q1 w1=>as2 q1 fun q2 q3=>aInt .i64 q2 fun _=>aInt .i64 q3 fun _=>R H4 A02 [(1,.pointer (some b)),(3,.pointer (some k)),(5,iI i),(6,.pointer (some s)),(7,iI obj),(9,iI (wrap .i64 (e+1)))] w1)
 (R H4 A02 [(1,.pointer (some b)),(3,.pointer (some k)),(5,iI i),(6,.pointer (some s)),(7,iI obj),(9,iI (wrap .i64 (e+1)))] w)))
 (R H4 Az9 [(1,.pointer (some b)),(3,.pointer (some k)),(5,iI (wrap .i64 (i+1)))] h):=kR
def B70:Cuts:=⟨0,[],[],[(4,⟨[0,1,2,3,4,5,6,7,8,9,10,11,12,13,14,15,16],[0,1,3,7,0,0,32,0,128,0,512,2047,4095,8191,8191,16383,65535],[],[]⟩),(6,⟨[0,1,2,3,4,5,6,7,8,9,10,11,12],[0,1,3,7,0,0,32,0,128,0,512,2047,4095],[],[]⟩),(8,⟨[0,1,2,3,4,5,6,7,8,9,10,11,12,13,14,15,16],[0,1,3,7,0,0,32,0,128,0,512,0,2048,0,8192,32767,65535],[],[]⟩)]⟩
def D58:List Item:=A4 Tryz.f105
theorem Gu7 (c:List Value) :
 xQ B70 C R Bh2 Tryz.f105 D58 [(0,.pointer k),(1,iI env),(2,.agg ⟨c⟩)] h =
 nw (.cells Bc7 false c) h fun b w=>gInt .i64 ⟨b,0,none⟩ w fun x=>cond (x==1)
 (aSome k fun p=>gPtr (add p 5) w fun z1=>gInt .i64 ⟨b,1,none⟩ w fun z2=>gInt .i64 ⟨b,2,none⟩ w fun z3=>gInt .i64 ⟨b,3,none⟩ w fun z4=>bnd (C Ak7 [.pointer z1,iI env,iI z2,iI z3,iI z4] w) fun r w1=>as2 r fun q1 q2=>aSl q1 fun z5 xn xc=>aInt .i64 q2 fun z6=>some (.tuple ⟨[.slice z5 xn xc,iI z6,.bool true]⟩,w1))
 (cond (x==2)
 (aSome k fun p_1=>gPtr (add p_1 5) w fun z7=>gInt .i64 ⟨b,1,none⟩ w fun z8=>gInt .i64 ⟨b,2,none⟩ w fun z9=>gSl ⟨b,6,none⟩ w fun z10 xn_1 xc_1=>bnd (C Ai7 [.pointer z7,iI env,iI z8,iI z9,.slice z10 xn_1 xc_1] w) fun q3 w2=>aInt .i64 q3 fun z11=>some (.tuple ⟨[.slice none 0 0,iI z11,.bool true]⟩,w2))
 (cond (x==3)
 (aSome k fun p_2=>gPtr (add p_2 5) w fun z12=>gInt .i64 ⟨b,1,none⟩ w fun z13=>gInt .i64 ⟨b,2,none⟩ w fun z14=>gInt .i64 ⟨b,4,none⟩ w fun z15=>gInt .i64 ⟨b,5,none⟩ w fun z16=>gInt .i64 ⟨b,3,none⟩ w fun z17=>bnd (C Ay3 [.pointer z12,iI env,iI z13,iI z14,iI z15,iI z16,iI z17] w) fun q4 w3=>aInt .i64 q4 fun z18=>some (.tuple ⟨[.slice none 0 0,iI z18,.bool true]⟩,w3))
 (some (.tuple ⟨[.slice none 0 0,iI 0,.bool false]⟩,w)))):=kR
def B09:Cuts:=⟨0,[],[],[]⟩
def D17:List Item:=A4 Tryz.f117
theorem Gm4 :
 xQ B09 C R Bd2 Tryz.f117 D17 [(0,iI g)] h =
 nw (.cells A3 false [.int .u8 (wrap .u8 (g)),.int .u8 211]) h fun b w=>gCells (some ⟨b,0,none⟩) 2 w fun cs=>asBytes cs fun l=>bnd (C Ap8 [.string (ByteArray.mk ⟨l⟩)] w) fun r w1=>aInt .u8 r fun x=>nw (.cells A3 false [.int .u8 x,.int .u8 0]) w1 fun p1 w2=>gCells (some ⟨p1,0,none⟩) 2 w2 fun cs_1=>asBytes cs_1 fun l_1=>ck (ByteArray.size (ByteArray.mk ⟨l⟩)+ByteArray.size (ByteArray.mk ⟨l_1⟩)≤A7) (some (.string ((ByteArray.mk ⟨l⟩)++(ByteArray.mk ⟨l_1⟩)),w2)):=kR
def Dw7:Cuts:=⟨0,[],[],[(1,⟨[1,0,2,3,4,5,6],[0,0,3,7,7,31,63],[(0,[1])],[]⟩)]⟩
def Ex6:List Item:=A4 Tryz.f118
theorem Ho5 :
 xQ Dw7 C R Bi1 Tryz.f118 Ex6 [(0,.agg ⟨p⟩)] h =
 nw (.cells A9 false p) h fun b w=>gAgg ⟨b,0,none⟩ 16 w fun x=>bnd (C Bs8 [] w) fun r w1=>aPtr r fun z1=>gAgg ⟨b,0,none⟩ 16 w1 fun z2=>same (.agg ⟨x⟩) (.agg ⟨z2⟩) (bnd (C Ad6 [.pointer z1,.agg ⟨x⟩] w1) fun q1 w2=>as2 q1 fun q2 q3=>aSl q2 fun z3 xn xc=>aBool q3 fun z4=>some (.tuple ⟨[.slice z3 xn xc,.bool z4]⟩,w2)):=kR
def A91:Cuts:=⟨0,[],[],[(2,⟨[0,1,2,3,4,5,6,7,8,9,10,11,12,13,14],[0,1,3,7,15,31,63,127,255,511,1023,127,4095,8191,16383],[],[]⟩),(4,⟨[0,1,2,3,4,5,6,7,8,9,10,11,12,13,14,15,16,17],[0,1,3,7,0,16,48,112,0,256,0,1024,0,7936,16383,32767,65535,131071],[],[]⟩)]⟩
def B60:List Item:=A4 Tryz.f119
theorem Ej7 :
 xQ A91 C R O0 Tryz.f119 B60 [(0,.pointer c),(1,.agg ⟨r⟩),(2,.slice b bn bc),(3,.bool ok)] h =
 nw (.cells B6 false r) h fun p1 w=>gAgg ⟨p1,0,none⟩ 2 w fun x=>bnd (C Aa0 [.pointer c,.agg ⟨x⟩] w) fun q1 w1=>as2 q1 fun q2 q3=>aAgg q2 fun z1=>aBool q3 fun z2=>nw (.cells Bw8 false [iI 0,iI 0,iI 0]) w1 fun p2 w2=>ck (List.length z1=3) (pAgg ⟨p2,0,none⟩ z1 w2 fun w3=>bnd (cond (!z2) (some (true,w3)) (some (!ok,w3))) fun c_1 w4=>bnd (cond c_1 (some (true,w4)) (aSome c fun p=>gMap (add p 3) w4 fun z3=>gAgg ⟨p1,0,none⟩ 2 w4 fun z4=>keyN PR B6 (.agg ⟨z4⟩) (opt z3 fun q4=>mapAt w4 q4 fun es _=>opt (Au7 (iI 0) (.agg ⟨z4⟩) es) fun f=>aInt .i64 f.1 fun z5=>some (decide (z5>0),w4)))) fun c_2 w5=>cond c_2
 (some (.bool false,w5))
 (aSome c fun p_1=>gPtr (add p_1 0) w5 fun z6=>aSome c fun p_2=>gInt .i64 (add p_2 1) w5 fun z7=>gInt .i64 ⟨p2,0,none⟩ w5 fun z8=>gInt .i64 ⟨p2,1,none⟩ w5 fun z9=>bnd (C Ab3 [.pointer z6,iI z7,.agg ⟨[iI 2,iI z8,iI z9,iI 0,iI 0,iI 0,.slice b bn bc]⟩] w5) fun q5 w6=>aAgg q5 fun z10=>nth z10 0 fun E=>aInt .i64 E fun E_1=>some (.bool (E_1==0),w6))):=kR
def Bf2:Cuts:=⟨0,[],[],[(2,⟨[0,1,2,3,4,5,6,7,8,9,10],[0,1,3,7,15,31,63,7,255,511,1023],[],[]⟩),(4,⟨[0,1,2,3,4,5,6,7,8,9,10,11,12,13,14,16,15,17],[0,1,3,7,0,16,48,112,0,256,0,1024,0,4096,16128,32767,0,131071],[],[]⟩),(6,⟨[0,1,2,3,4,5,6,7,8,9],[0,1,3,7,0,31,63,31,159,511],[(7,[5])],[]⟩)]⟩
def B95:List Item:=A4 Tryz.f123
theorem Ep4 :
 xQ Bf2 C R V6 Tryz.f123 B95 [(0,.pointer c),(1,.agg ⟨r⟩)] h =
 nw (.cells B6 false r) h fun b w=>gAgg ⟨b,0,none⟩ 2 w fun x=>bnd (C Aa0 [.pointer c,.agg ⟨x⟩] w) fun q1 w1=>as2 q1 fun q2 q3=>aAgg q2 fun z1=>aBool q3 fun z2=>nw (.cells Bw8 false [iI 0,iI 0,iI 0]) w1 fun p1 w2=>ck (List.length z1=3) (pAgg ⟨p1,0,none⟩ z1 w2 fun w3=>bnd (cond (!z2) (some (true,w3)) (aSome c fun p=>gMap (add p 3) w3 fun z3=>gAgg ⟨b,0,none⟩ 2 w3 fun z4=>keyN PR B6 (.agg ⟨z4⟩) (opt z3 fun q4=>mapAt w3 q4 fun es _=>opt (Au7 (iI 0) (.agg ⟨z4⟩) es) fun f=>aInt .i64 f.1 fun z5=>some (decide (z5>0),w3)))) fun c_1 w4=>cond c_1
 (some (.tuple ⟨[.slice none 0 0,.bool false]⟩,w4))
 (aSome c fun p_1=>gPtr (add p_1 0) w4 fun z6=>aSome c fun p_2=>gInt .i64 (add p_2 1) w4 fun z7=>gInt .i64 ⟨p1,0,none⟩ w4 fun z8=>gInt .i64 ⟨p1,1,none⟩ w4 fun z9=>gInt .i64 ⟨p1,2,none⟩ w4 fun z10=>nw (.cells Gl1 false [iI 0,iI 0,.slice none 0 0]) w4 fun p2 w5=>bnd (C Ab3 [.pointer z6,iI z7,.agg ⟨[iI 1,iI z8,iI z9,iI z10,iI 0,iI 0,.slice none 0 0]⟩] w5) fun q5 w6=>aAgg q5 fun z11=>ck (List.length z11=3) (pAgg ⟨p2,0,none⟩ z11 w6 fun w7=>gInt .i64 ⟨p2,0,none⟩ w7 fun z12=>cond (z12 != 0)
 (aSome c fun p_3=>gMap (add p_3 3) w7 fun z13=>gAgg ⟨b,0,none⟩ 2 w7 fun z14=>keyN PR B6 (.agg ⟨z14⟩) (opt z13 fun q6=>mapAt w7 q6 fun es_1 _=>opt (Au7 (iI 0) (.agg ⟨z14⟩) es_1) fun f_1=>aInt .i64 f_1.1 fun z15=>keyN PR B6 (.agg ⟨z14⟩) (opt z13 fun q7=>mapAt w7 q7 fun es_2 cl_2=>opt (Ep6 (iI 0) (.agg ⟨z14⟩) es_2 cl_2) fun f_2=>aInt .i64 f_2.1 fun _=>lt (H.set w7 q7 f_2.2.2) fun w8=>keyN PR B6 (.agg ⟨z14⟩) (opt z13 fun q8=>mapAt w8 q8 fun es_3 _=>opt (Au7 (iI 0) (.agg ⟨z14⟩) es_3) fun f_3=>aInt .i64 f_3.1 fun z17=>same (iI z15) (iI z17) (opt z13 fun q9=>mapAt w8 q9 fun es_4 cl_4=>opt (B49 (f_2.2.1:Int) es_4 0) fun i=>lt (H.set w8 q9 (.map (modN (fun e=>{ e with val:=iI (wrap .i64 (z15+1)) }) i es_4) cl_4)) fun w9=>some (.tuple ⟨[.slice none 0 0,.bool false]⟩,w9))))))
 (gSl ⟨p2,2,none⟩ w7 fun z18 xn xc=>some (.tuple ⟨[.slice z18 xn xc,.bool true]⟩,w7))))):=kR
def D45:Cuts:=⟨0,[],[],[]⟩
def Ga9:List Item:=A4 Tryz.f124
theorem Hy0 :
 xQ D45 C R Ay5 Tryz.f124 Ga9 [(0,.slice b bn bc)] h =
 bnd (C Z1 [.slice b bn bc,.func (.func Ap3) ⟨[]⟩ ⟨[]⟩] h) fun r w=>aBool r fun x=>some (.bool (!x),w):=kR
def Ay6:Cuts:=⟨0,[],[],[]⟩
def Br1:List Item:=A4 Tryz.f146
theorem Br0 :
 xQ Ay6 C R H7 Tryz.f146 Br1 [(0,.slice s sn sc)] h =
 cond s.isNone
 (some (.slice none 0 0,h))
 (nw (.cells A3 false []) h fun b w=>gCells s (sn*1) w fun cs=>ckB (fitsOpen (some ⟨b,0,none⟩) A3 w) (apd A3 1 (some ⟨b,0,none⟩) 0 0 sn cs w fun a an ac w1=>some (.slice a an ac,w1))):=kR
def Es2:Cuts:=⟨0,[],[],[(4,⟨[0,1,2,3,5,6,7,8,10,11,12,13,15,16,17,18,20,21,22,23,4,9,14,19,24,25,26,27],[0,1,3,7,15,0,32,96,224,511,0,1024,3072,7168,16383,0,32768,98304,229376,524287,0,1048576,3145728,7340032,16777215,33554431,67108863,134217727],[(4,[8,13,18,23]),(9,[13,18,23]),(14,[18,23]),(19,[23])],[]⟩)]⟩
def Gz2:List Item:=A4 Tryz.f149
theorem Ig4 :
 xQ Es2 C R Dx5 Tryz.f149 Gz2 [(0,.slice b bn bc)] h =
 cond ((bn:Int) != 492)
 (nw (.cells B6 false [iI 0,iI 0]) h fun p1 w=>some (.slice (some ⟨p1,0,none⟩) 1 1,w))
 (bnd (C Dj3 [.slice b bn bc] h) fun r w1=>aPtr r fun x=>aSome x fun p=>gAgg (add p 0) 2 w1 fun z1=>aSome x fun p_1=>gAgg (add p_1 2) 2 w1 fun z2=>aSome x fun p_2=>gAgg (add p_2 4) 2 w1 fun z3=>aSome x fun p_3=>gAgg (add p_3 6) 2 w1 fun z4=>aSome x fun p_4=>gAgg (add p_4 8) 2 w1 fun z5=>bnd (C G4 [.agg ⟨z1⟩,iI 1] w1) fun q1 w2=>aSl q1 fun z6 xn xc=>gAgg (add p_1 2) 2 w2 fun z7=>same (.agg ⟨z2⟩) (.agg ⟨z7⟩) (gAgg (add p_2 4) 2 w2 fun z8=>same (.agg ⟨z3⟩) (.agg ⟨z8⟩) (gAgg (add p_3 6) 2 w2 fun z9=>same (.agg ⟨z4⟩) (.agg ⟨z9⟩) (gAgg (add p_4 8) 2 w2 fun z10=>same (.agg ⟨z5⟩) (.agg ⟨z10⟩) (bnd (C G5 [.agg ⟨z2⟩,iI 2] w2) fun q2 w3=>aSl q2 fun z11 xn_1 xc_1=>gAgg (add p_2 4) 2 w3 fun z12=>same (.agg ⟨z3⟩) (.agg ⟨z12⟩) (gAgg (add p_3 6) 2 w3 fun z13=>same (.agg ⟨z4⟩) (.agg ⟨z13⟩) (gAgg (add p_4 8) 2 w3 fun z14=>same (.agg ⟨z5⟩) (.agg ⟨z14⟩) (bnd (C E9 [.agg ⟨z3⟩,iI 3] w3) fun q3 w4=>aSl q3 fun z15 xn_2 xc_2=>gAgg (add p_3 6) 2 w4 fun z16=>same (.agg ⟨z4⟩) (.agg ⟨z16⟩) (gAgg (add p_4 8) 2 w4 fun z17=>same (.agg ⟨z5⟩) (.agg ⟨z17⟩) (bnd (C E9 [.agg ⟨z4⟩,iI 4] w4) fun q4 w5=>aSl q4 fun z18 xn_3 xc_3=>gAgg (add p_4 8) 2 w5 fun z19=>same (.agg ⟨z5⟩) (.agg ⟨z19⟩) (bnd (C J6 [.agg ⟨z5⟩,iI 5] w5) fun q5 w6=>aSl q5 fun z20 xn_4 xc_4=>nw (.cells Da5 false [.slice z6 xn xc,.slice z11 xn_1 xc_1,.slice z15 xn_2 xc_2,.slice z18 xn_3 xc_3,.slice z20 xn_4 xc_4]) w6 fun p2 w7=>bnd (C D3 [.slice (some ⟨p2,0,none⟩) 5 5] w7) fun q6 w8=>aSl q6 fun z21 xn_5 xc_5=>some (.slice z21 xn_5 xc_5,w8)))))))))))):=kR
def A69:Cuts:=⟨0,[(2,[0,13,14,15]),(6,[0,3,4,5,6,13,14,15,24,25,26])],[],[]⟩
def Bq3:List Item:=A4 Tryz.f155
def As3:List Item:=stk [0,1,0,0,1,4,5] Bq3
def Ai0:List Item:=stk [0,1,0,0,1,4,5,6,0,1,0,1,0,4,0,1,0,1,0,0,1,4,5] Bq3
theorem G30 :
 xQ A69 C R H8 Tryz.f155 Bq3 [(0,.pointer x)] h =
 aSome x fun p=>gSl (add (add p 4) 0) h fun z1 xn xc=>R H8 As3 [(0,.pointer x),(13,.slice z1 xn xc),(14,iI (xn:Int)),(15,iI 0)] h:=kR
theorem Dr6 :
 xQ A69 C R H8 Tryz.f155 As3 [(0,.pointer x),(13,.slice x13 x13n x13c),(14,iI x14),(15,iI x15)] h =
 cond (decide (x15<x14))
 (aSome x13 fun p=>ck ((0:Int)≤x15∧x15<(x13n:Int)) (gAgg (add (A8 p) (Int.toNat x15*36)) 36 h fun z1=>nw (.cells D7 false zZ4) h fun b w=>ck (List.length z1=36) (pAgg ⟨b,0,none⟩ z1 w fun w1=>aSome x fun p_1=>gSl (add (add p_1 2) 0) w1 fun z2 xn xc=>R H8 Ai0 [(0,.pointer x),(3,iI x15),(4,pP b),(5,iI 0),(6,iI 0),(13,.slice x13 x13n x13c),(14,iI x14),(15,iI x15),(24,.slice z2 xn xc),(25,iI (xn:Int)),(26,iI 0)] w1)))
 (some (.bool false,h)):=kR
theorem Dr5 (p:Addr) (readers:Int) (writers:Int) (x24:Option Addr) (x24n x24c:Nat) (x25:Int) (x26:Int) :
 xQ A69 C R H8 Tryz.f155 Ai0 [(0,.pointer x),(3,iI i),(4,.pointer (some p)),(5,iI readers),(6,iI writers),(13,.slice x13 x13n x13c),(14,iI x14),(15,iI x15),(24,.slice x24 x24n x24c),(25,iI x25),(26,iI x26)] h =
 cond (decide (x26<x25))
 (aSome x24 fun p_1=>ck ((0:Int)≤x26∧x26<(x24n:Int)) (gAgg (add (A8 p_1) (Int.toNat x26*4)) 4 h fun z1=>nw (.cells B7 false [iI 0,iI 0,iI 0,iI 0]) h fun b w=>ck (List.length z1=4) (pAgg ⟨b,0,none⟩ z1 w fun w1=>gAgg ⟨b,0,none⟩ 4 w1 fun z2=>bnd (C Da4 [.agg ⟨z2⟩] w1) fun r w2=>aBool r fun z3=>bnd (cond (!z3) (some (true,w2)) (gInt .i64 ⟨b,1,none⟩ w2 fun z4=>some (z4 != i,w2))) fun c w3=>cond c
 (R H8 Ai0 [(0,.pointer x),(3,iI i),(4,.pointer (some p)),(5,iI readers),(6,iI writers),(13,.slice x13 x13n x13c),(14,iI x14),(15,iI x15),(24,.slice x24 x24n x24c),(25,iI x25),(26,iI (wrap .i64 (x26+1)))] w3)
 (gInt .i64 ⟨b,0,none⟩ w3 fun z5=>cond (z5==1)
 (R H8 Ai0 [(0,.pointer x),(3,iI i),(4,.pointer (some p)),(5,iI (wrap .i64 (readers+1))),(6,iI writers),(13,.slice x13 x13n x13c),(14,iI x14),(15,iI x15),(24,.slice x24 x24n x24c),(25,iI x25),(26,iI (wrap .i64 (x26+1)))] w3)
 (R H8 Ai0 [(0,.pointer x),(3,iI i),(4,.pointer (some p)),(5,iI readers),(6,iI (wrap .i64 (writers+1))),(13,.slice x13 x13n x13c),(14,iI x14),(15,iI x15),(24,.slice x24 x24n x24c),(25,iI x25),(26,iI (wrap .i64 (x26+1)))] w3)))))
 (aSome x fun p_2=>gAgg (add p_2 4) 2 h fun z6=>bnd (C S8 [.agg ⟨z6⟩,iI i] h) fun q1 w4=>aBool q1 fun z7=>bnd (cond z7 (gInt .i64 (add p 2) w4 fun z8=>bnd (cond (z8 != readers) (some (true,w4)) (gInt .i64 (add p 3) w4 fun z9=>some (z9 != writers,w4))) fun c_1 w5=>bnd (cond c_1 (some (true,w5)) (some ((wrap .i64 (readers+writers))==0,w5))) fun c_2 w6=>some (c_2,w6)) (some (false,w4))) fun c_3 w7=>cond c_3
 (some (.bool true,w7))
 (R H8 As3 [(0,.pointer x),(13,.slice x13 x13n x13c),(14,iI x14),(15,iI (wrap .i64 (x15+1)))] w7)):=kR
def Am0:Cuts:=⟨0,[],[(8,[6,8,11,12])],[(7,⟨[0,1,2,3,4,5,6,7,8,9],[0,1,3,7,0,31,63,31,159,511],[(7,[5])],[]⟩)]⟩
def A28:List Item:=A4 Tryz.f157
def As7:List Item:=stk [0,1,0,1,0,1,0,1,0,1,0,1,0,0] A28
theorem D69 :
 xQ Am0 C R O6 Tryz.f157 A28 [(0,.pointer c),(1,.agg ⟨r⟩),(2,decode)] h =
 nw (.cells B6 false r) h fun b w=>nw (.cells B7 false [iI 0,iI 0,iI 0,iI 0]) w fun p1 w1=>nw (.cells B7 false [iI 0,iI 0,iI 0,iI 0]) w1 fun p2 w2=>gAgg ⟨b,0,none⟩ 2 w2 fun x=>bnd (C V6 [.pointer c,.agg ⟨x⟩] w2) fun q1 w3=>as2 q1 fun q2 q3=>aSl q2 fun z1 xn xc=>aBool q3 fun z2=>cond (!z2)
 (gAgg ⟨p2,0,none⟩ 4 w3 fun z3=>ck (List.length z3=4) (pAgg ⟨p1,0,none⟩ z3 w3 fun w4=>gAgg ⟨p1,0,none⟩ 4 w4 fun z4=>some (.tuple ⟨[.agg ⟨z4⟩,iI 2]⟩,w4)))
 (aFn decode fun g fi cp=>bnd (C g (fi++([.slice z1 xn xc]++cp)) w3) fun q4 w5=>as2 q4 fun q5 q6=>aAgg q5 fun z5=>aInt .i64 q6 fun z6=>nw (.cells B7 false [iI 0,iI 0,iI 0,iI 0]) w5 fun p3 w6=>ck (List.length z5=4) (pAgg ⟨p3,0,none⟩ z5 w6 fun w7=>cond (z6==2)
 (aSome c fun p=>gMap (add p 3) w7 fun z7=>gAgg ⟨b,0,none⟩ 2 w7 fun z8=>keyN PR B6 (.agg ⟨z8⟩) (opt z7 fun q7=>mapAt w7 q7 fun es _=>opt (Au7 (iI 0) (.agg ⟨z8⟩) es) fun f=>aInt .i64 f.1 fun z9=>keyN PR B6 (.agg ⟨z8⟩) (opt z7 fun q8=>mapAt w7 q8 fun es_1 cl_1=>opt (Ep6 (iI 0) (.agg ⟨z8⟩) es_1 cl_1) fun f_1=>aInt .i64 f_1.1 fun _=>lt (H.set w7 q8 f_1.2.2) fun w8=>keyN PR B6 (.agg ⟨z8⟩) (opt z7 fun q9=>mapAt w8 q9 fun es_2 _=>opt (Au7 (iI 0) (.agg ⟨z8⟩) es_2) fun f_2=>aInt .i64 f_2.1 fun z11=>same (iI z9) (iI z11) (opt z7 fun q10=>mapAt w8 q10 fun es_3 cl_3=>opt (B49 (f_1.2.1:Int) es_3 0) fun i=>lt (H.set w8 q10 (.map (modN (fun e=>{ e with val:=iI (wrap .i64 (z9+1)) }) i es_3) cl_3)) fun w9=>R O6 As7 [(6,pP p1),(8,pP p2),(11,pP p3),(12,iI z6)] w9)))))
 (R O6 As7 [(6,pP p1),(8,pP p2),(11,pP p3),(12,iI z6)] w7))):=kR
theorem Bk5 (x6:Addr) (v:Addr) (isv:Int) :
 xQ Am0 C R O6 Tryz.f157 As7 [(6,.pointer (some x6)),(8,.pointer (some nonev)),(11,.pointer (some v)),(12,iI isv)] h =
 cond (isv != 1)
 (gAgg nonev 4 h fun x=>ck (List.length x=4) (pAgg x6 x h fun w=>gAgg x6 4 w fun z1=>some (.tuple ⟨[.agg ⟨z1⟩,iI isv]⟩,w)))
 (gAgg v 4 h fun z2=>ck (List.length z2=4) (pAgg x6 z2 h fun w1=>gAgg x6 4 w1 fun z3=>some (.tuple ⟨[.agg ⟨z3⟩,iI isv]⟩,w1))):=kR
def An6:Cuts:=⟨0,[(2,[0,1,7,8])],[],[]⟩
def A71:List Item:=A4 Tryz.f165
def Ah6:List Item:=stk [0,1,0,0,1,4,5] A71
theorem Eh9 :
 xQ An6 C R I8 Tryz.f165 A71 [(0,.slice s sn sc),(1,iI v)] h =
 R I8 Ah6 [(0,.slice s sn sc),(1,iI v),(7,iI (sn:Int)),(8,iI 0)] h:=kR
theorem Bm6 (x8:Int) :
 xQ An6 C R I8 Tryz.f165 Ah6 [(0,.slice s sn sc),(1,iI v),(7,iI x7),(8,iI x8)] h =
 cond (decide (x8<x7))
 (aSome s fun p=>ck ((0:Int)≤x8∧x8<(sn:Int)) (gInt .i64 (add (A8 p) (Int.toNat x8*1)) h fun x=>cond (v==x)
 (some (iI x8,h))
 (R I8 Ah6 [(0,.slice s sn sc),(1,iI v),(7,iI x7),(8,iI (wrap .i64 (x8+1)))] h)))
 (some (iI (-1),h)):=kR
def B16:Cuts:=⟨0,[(7,[1,3,52,53,54]),(13,[1,3,63,64,65])],[],[]⟩
def Dn2:List Item:=A4 Tryz.f190
def Bw4:List Item:=stk [0,1,0,1,0,1,0,1,0,0,1,4,5] Dn2
def Bw6:List Item:=stk [0,1,0,1,0,1,0,1,0,1,0,0,1,4,5] Dn2
theorem H30 (c:List Value) :
 xQ B16 C R Aa8 Tryz.f190 Dn2 [(0,.agg ⟨c⟩)] h =
 nw (.cells G2 false c) h fun b w=>gSl ⟨b,0,none⟩ w fun _ xn _=>bnd (cond (decide ((xn:Int)<1)) (some (true,w)) (gSl ⟨b,0,none⟩ w fun _ xn_1 _=>some (decide ((xn_1:Int)>4),w))) fun c_1 w1=>bnd (cond c_1 (some (true,w1)) (gSl ⟨b,1,none⟩ w1 fun _ xn_2 _=>some (decide ((xn_2:Int)>40),w1))) fun c_2 w2=>bnd (cond c_2 (some (true,w2)) (gSl ⟨b,2,none⟩ w2 fun _ xn_3 _=>some (decide ((xn_3:Int)>8),w2))) fun c_3 w3=>bnd (cond c_3 (some (true,w3)) (gSl ⟨b,4,none⟩ w3 fun _ xn_4 _=>some (decide ((xn_4:Int)>16),w3))) fun c_4 w4=>bnd (cond c_4 (some (true,w4)) (gInt .i64 ⟨b,3,none⟩ w4 fun z5=>some (decide (z5<1),w4))) fun c_5 w5=>bnd (cond c_5 (some (true,w5)) (gInt .i64 ⟨b,3,none⟩ w5 fun z6=>some (decide (z6>1000),w5))) fun c_6 w6=>cond c_6
 (some (.bool false,w6))
 (gSl ⟨b,1,none⟩ w6 fun z7 xn_5 xc_5=>bnd (C E2 [.slice z7 xn_5 xc_5,.func (.func I2) ⟨[]⟩ ⟨[pP b]⟩] w6) fun r w7=>aBool r fun z8=>cond z8
 (some (.bool false,w7))
 (gSl ⟨b,2,none⟩ w7 fun z9 xn_6 xc_6=>R Aa8 Bw4 [(1,pP b),(3,.func (.func I2) ⟨[]⟩ ⟨[pP b]⟩),(52,.slice z9 xn_6 xc_6),(53,iI (xn_6:Int)),(54,iI 0)] w7)):=kR
theorem Em5 (c:Addr) (x52:Option Addr) (x52n x52c:Nat) (x53:Int) :
 xQ B16 C R Aa8 Tryz.f190 Bw4 [(1,.pointer (some c)),(3,.func (.func I2) ⟨[]⟩ ⟨[.pointer (some nonev)]⟩),(52,.slice x52 x52n x52c),(53,iI x53),(54,iI x54)] h =
 cond (decide (x54<x53))
 (aSome x52 fun p=>ck ((0:Int)≤x54∧x54<(x52n:Int)) (gSl (add (A8 p) (Int.toNat x54*1)) h fun x xn xc=>bnd (C E2 [.slice x xn xc,.func (.func I2) ⟨[]⟩ ⟨[.pointer (some nonev)]⟩] h) fun r w=>aBool r fun z1=>cond z1
 (some (.bool false,w))
 (R Aa8 Bw4 [(1,.pointer (some c)),(3,.func (.func I2) ⟨[]⟩ ⟨[.pointer (some nonev)]⟩),(52,.slice x52 x52n x52c),(53,iI x53),(54,iI (wrap .i64 (x54+1)))] w)))
 (gSl (add c 4) h fun z2 xn_1 xc_1=>R Aa8 Bw6 [(1,.pointer (some c)),(3,.func (.func I2) ⟨[]⟩ ⟨[.pointer (some nonev)]⟩),(63,.slice z2 xn_1 xc_1),(64,iI (xn_1:Int)),(65,iI 0)] h):=kR
theorem Ek0 (c:Addr) (x63:Option Addr) (x63n x63c:Nat) (x64:Int) (x65:Int) :
 xQ B16 C R Aa8 Tryz.f190 Bw6 [(1,.pointer (some c)),(3,.func (.func I2) ⟨[]⟩ ⟨[.pointer (some nonev)]⟩),(63,.slice x63 x63n x63c),(64,iI x64),(65,iI x65)] h =
 cond (decide (x65<x64))
 (aSome x63 fun p=>ck ((0:Int)≤x65∧x65<(x63n:Int)) (gAgg (add (A8 p) (Int.toNat x65*5)) 5 h fun x=>nw (.cells L5 false [iI 0,iI 0,iI 0,iI 0,.slice none 0 0]) h fun b w=>ck (List.length x=5) (pAgg ⟨b,0,none⟩ x w fun w1=>gAgg c 5 w1 fun z1=>gAgg ⟨b,0,none⟩ 5 w1 fun z2=>bnd (C Dj2 [.agg ⟨z1⟩,.agg ⟨z2⟩] w1) fun r w2=>aBool r fun z3=>bnd (cond (!z3) (some (true,w2)) (gSl ⟨b,4,none⟩ w2 fun z4 xn xc=>bnd (C E2 [.slice z4 xn xc,.func (.func I2) ⟨[]⟩ ⟨[.pointer (some nonev)]⟩] w2) fun q1 w3=>aBool q1 fun z5=>some (z5,w3))) fun c_1 w4=>cond c_1
 (some (.bool false,w4))
 (R Aa8 Bw6 [(1,.pointer (some c)),(3,.func (.func I2) ⟨[]⟩ ⟨[.pointer (some nonev)]⟩),(63,.slice x63 x63n x63c),(64,iI x64),(65,iI (wrap .i64 (x65+1)))] w4))))
 (some (.bool true,h)):=kR
def Ei1:Cuts:=⟨0,[],[],[]⟩
def Gm1:List Item:=A4 Tryz.f196
theorem H89 :
 xQ Ei1 C R Dl4 Tryz.f196 Gm1 [(0,.pointer m),(1,.pointer s)] h =
 nw (.cells Ee9 false [.pointer m,.pointer s,.slice none 0 0]) h fun b w=>some (pP b,w):=kR
def Bo4:Cuts:=⟨0,[],[],[]⟩
def Dq0:List Item:=A4 Tryz.f198
theorem E29 (r:Option Addr) :
 xQ Bo4 C R A25 Tryz.f198 Dq0 [(0,.pointer r),(1,iI lo),(2,iI n)] h =
 bnd (cond (decide (lo<0)) (some (true,h)) (some (decide (n<0),h))) fun c w=>bnd (cond c (some (true,w)) (aSome r fun p=>gPtr (add p 0) w fun x=>bnd (C Bl3 [.pointer x] w) fun q1 w1=>aInt .i64 q1 fun z1=>some (decide (lo>z1),w1))) fun c_1 w2=>bnd (cond c_1 (some (true,w2)) (aSome r fun p_1=>gPtr (add p_1 0) w2 fun z2=>bnd (C Bl3 [.pointer z2] w2) fun q2 w3=>aInt .i64 q2 fun z3=>some (decide (n>(wrap .i64 (z3-lo))),w3))) fun c_2 w4=>cond c_2
 (some (.tuple ⟨[iI 0,iI 1]⟩,w4))
 (aSome r fun p_2=>gSl (add p_2 2) w4 fun _ xn _=>cond (decide ((xn:Int)≥32))
 (some (.tuple ⟨[iI 0,iI 4]⟩,w4))
 (aSome r fun p_3=>gSl (add p_3 2) w4 fun z5 xn_1 xc_1=>nw (.cells Ba4 false [iI lo,iI n]) w4 fun b w5=>gCells (some ⟨b,0,none⟩) (1*2) w5 fun cs=>ckB (fitsOpen z5 Ba4 w5) (apd Ba4 2 z5 xn_1 xc_1 1 cs w5 fun a an ac w6=>aSome r fun p_4=>pV (add p_4 2) (.slice a an ac) w6 fun w7=>aSome r fun p_5=>gSl (add p_5 2) w7 fun _ xn_2 _=>some (.tuple ⟨[iI (wrap .i64 ((xn_2:Int)-1)),iI 0]⟩,w7)))):=kR
def Bw9:Cuts:=⟨0,[(3,[0,3,4])],[],[(5,⟨[0,1,2,3,4,5,6,7,8,9,10,11,12,13,14,15,16],[0,0,2,6,14,0,0,96,224,480,992,2016,4064,8190,16383,32767,65535],[],[]⟩)]⟩
def Dk5:List Item:=A4 Tryz.f201
def Bc1:List Item:=stk [0,1,0,1,0,0,1,4,5] Dk5
theorem Hg4 :
 xQ Bw9 C R Ah3 Tryz.f201 Dk5 [(0,.slice l ln lc)] h =
 nw (.cells Gf5 false [.slice none 0 0]) h fun b w=>R Ah3 Bc1 [(0,.slice l ln lc),(3,pP b),(4,iI 0)] w:=kR
theorem D12 (q:Addr) :
 xQ Bw9 C R Ah3 Tryz.f201 Bc1 [(0,.slice l ln lc),(3,.pointer (some q)),(4,iI i)] h =
 bnd (cond (decide (i<(ln:Int))) (some (decide (i<4),h)) (some (false,h))) fun c w=>cond c
 (gSl (add q 0) w fun x xn xc=>aSome l fun p=>ck ((0:Int)≤i∧i<(ln:Int)) (gInt .i64 (add (A8 p) (Int.toNat i*1)) w fun z1=>ck ((0:Int)≤mm2 false (mm2 true z1 0) 64∧(mm2 false (mm2 true z1 0) 64:Int)≤mm2 false (mm2 true z1 0) 64∧mm2 false (mm2 true z1 0) 64≤(A7:Int)) (nw (.cells Hi8 false (I7 (Int.toNat (mm2 false (mm2 true z1 0) 64)) [.bool false])) w fun b w1=>nw (.cells Ed2 false [.slice (some ⟨b,0,none⟩) (Int.toNat (mm2 false (mm2 true z1 0) 64)) (Int.toNat (mm2 false (mm2 true z1 0) 64))]) w1 fun p1 w2=>gCells (some ⟨p1,0,none⟩) (1*1) w2 fun cs=>ckB (fitsOpen x Ed2 w2) (apd Ed2 1 x xn xc 1 cs w2 fun a an ac w3=>pV (add q 0) (.slice a an ac) w3 fun w4=>R Ah3 Bc1 [(0,.slice l ln lc),(3,.pointer (some q)),(4,iI (wrap .i64 (i+1)))] w4))))
 (some (.pointer (some q),w)):=kR
def Ba8:Cuts:=⟨0,[(3,[0,1,5,6])],[],[]⟩
def B20:List Item:=A4 Tryz.f202
def Ax0:List Item:=stk [0,1,0,1,0,0,1,4,5] B20
theorem Ge8 (s:Int) :
 xQ Ba8 C R U2 Tryz.f202 B20 [(0,.pointer q),(1,iI s)] h =
 R U2 Ax0 [(0,.pointer q),(1,iI s),(5,iI 0),(6,iI 0)] h:=kR
theorem Dh9 (s:Int) :
 xQ Ba8 C R U2 Tryz.f202 Ax0 [(0,.pointer q),(1,iI s),(5,iI n),(6,iI i)] h =
 cond (decide (i<s))
 (aSome q fun p=>gSl (add p 0) h fun x xn _=>aSome x fun p_1=>ck ((0:Int)≤i∧i<(xn:Int)) (gSl (add (A8 p_1) (Int.toNat i*1)) h fun _ xn_1 _=>R U2 Ax0 [(0,.pointer q),(1,iI s),(5,iI (wrap .i64 (n+(xn_1:Int)))),(6,iI (wrap .i64 (i+1)))] h))
 (some (iI n,h)):=kR
def El1:Cuts:=⟨0,[(2,[0,1,5])],[],[]⟩
def Gd6:List Item:=A4 Tryz.f206
def Di8:List Item:=stk [0,1,0,0,1,4,5] Gd6
theorem I42 (s:Int) :
 xQ El1 C R Bm5 Tryz.f206 Gd6 [(0,.slice l ln lc),(1,iI s)] h =
 R Bm5 Di8 [(0,.slice l ln lc),(1,iI s),(5,iI 0)] h:=kR
theorem Gh5 (s:Int) :
 xQ El1 C R Bm5 Tryz.f206 Di8 [(0,.slice l ln lc),(1,iI s),(5,iI i)] h =
 cond (decide (i<(ln:Int)))
 (aSome l fun p=>ck ((0:Int)≤i∧i<(ln:Int)) (gInt .i64 (add (A8 p) (Int.toNat i*1)) h fun x=>cond (x==s)
 (some (.bool true,h))
 (R Bm5 Di8 [(0,.slice l ln lc),(1,iI s),(5,iI (wrap .i64 (i+1)))] h)))
 (some (.bool false,h)):=kR
def Bx7:Cuts:=⟨0,[],[],[]⟩
def D08:List Item:=A4 Tryz.f209
theorem Gf8 :
 xQ Bx7 C R Av8 Tryz.f209 D08 [(0,.pointer s),(1,iI env)] h =
 bnd (C Ap1 [.pointer s,iI env] h) fun r w=>aBool r fun x=>cond (!x)
 (some (.slice none 0 0,w))
 (aSome s fun p=>gSl (add p 0) w fun z1 xn _=>aSome z1 fun p_1=>ck ((0:Int)≤env∧env<(xn:Int)) (gPtr (add (A8 p_1) (Int.toNat env*1)) w fun z2=>bnd (C H2 [.pointer z2] w) fun q1 w1=>aSl q1 fun z3 xn_1 xc_1=>some (.slice z3 xn_1 xc_1,w1))):=kR
def Bf8:Cuts:=⟨0,[],[],[]⟩
def B94:List Item:=A4 Tryz.f212
theorem Er1 (r:Option Addr) :
 xQ Bf8 C R Ai7 Tryz.f212 B94 [(0,.pointer r),(1,iI env),(2,iI name),(3,iI atv),(4,.slice b bn bc)] h =
 bnd (C Aj2 [.pointer r,iI env,iI name,iI 2,iI atv,iI (bn:Int)] h) fun q1 w=>as2 q1 fun q2 q3=>aInt .i64 q2 fun x=>aInt .i64 q3 fun z1=>cond (z1 != 0)
 (some (iI z1,w))
 (aSome r fun p=>gPtr (add p 0) w fun z2=>bnd (C Bx1 [.pointer z2,iI x,.slice b bn bc] w) fun q4 w1=>aInt .i64 q4 fun z3=>some (iI z3,w1)):=kR
def B18:Cuts:=⟨0,[],[],[]⟩
def Dz4:List Item:=A4 Tryz.f214
theorem Gk6 (give:Int) :
 xQ B18 C R Be0 Tryz.f214 Dz4 [(0,.pointer s),(1,iI env),(2,iI name),(3,iI to),(4,iI give),(5,iI lo),(6,iI n)] h =
 bnd (C A58 [.pointer s,iI env,iI name] h) fun r w=>as2 r fun q1 q2=>aAgg q1 fun x=>aInt .i64 q2 fun z1=>nw (.cells W1 false [iI 0,iI 0,iI 0,iI 0,iI 0,iI 0]) w fun b w1=>ck (List.length x=6) (pAgg ⟨b,0,none⟩ x w1 fun w2=>cond (z1 != 0)
 (some (.tuple ⟨[iI 0,iI z1]⟩,w2))
 (gInt .i64 ⟨b,1,none⟩ w2 fun z2=>bnd (cond ((V5 .i64 z2 4)==0) (some (true,w2)) (gInt .i64 ⟨b,1,none⟩ w2 fun z3=>some ((Bv3 .i64 give z3) != 0,w2))) fun c w3=>cond c
 (some (.tuple ⟨[iI 0,iI 3]⟩,w3))
 (bnd (C Ap1 [.pointer s,iI to] w3) fun q3 w4=>aBool q3 fun z4=>bnd (cond (!z4) (some (true,w4)) (some (decide (lo<0),w4))) fun c_1 w5=>bnd (cond c_1 (some (true,w5)) (some (decide (n<0),w5))) fun c_2 w6=>bnd (cond c_2 (some (true,w6)) (gInt .i64 ⟨b,3,none⟩ w6 fun z5=>some (decide (lo>z5),w6))) fun c_3 w7=>bnd (cond c_3 (some (true,w7)) (gInt .i64 ⟨b,3,none⟩ w7 fun z6=>some (decide (n>(wrap .i64 (z6-lo))),w7))) fun c_4 w8=>cond c_4
 (some (.tuple ⟨[iI 0,iI 1]⟩,w8))
 (gInt .i64 ⟨b,0,none⟩ w8 fun z7=>gInt .i64 ⟨b,2,none⟩ w8 fun z8=>bnd (C A55 [.pointer s,iI to,.agg ⟨[iI z7,iI give,iI (wrap .i64 (z8+lo)),iI n,iI env,iI name]⟩] w8) fun q4 w9=>as2 q4 fun q5 q6=>aInt .i64 q5 fun z9=>aInt .i64 q6 fun z10=>some (.tuple ⟨[iI z9,iI z10]⟩,w9))))):=kR
def B65:Cuts:=⟨0,[],[],[]⟩
def D57:List Item:=A4 Tryz.f219
theorem Gu2 (c:List Value) :
 xQ B65 C R Bh4 Tryz.f219 D57 [(0,.pointer k),(1,iI env),(2,.agg ⟨c⟩)] h =
 nw (.cells Bc7 false c) h fun b w=>gInt .i64 ⟨b,3,none⟩ w fun x=>bnd (C A62 [.pointer k,iI env,iI x] w) fun r w1=>as2 r fun q1 q2=>aPtr q1 fun z1=>aInt .i64 q2 fun z2=>bnd (cond (z2==0) (gInt .i64 ⟨b,2,none⟩ w1 fun z3=>bnd (C Bh0 [.pointer z1,iI env,iI z3] w1) fun q3 w2=>aBool q3 fun z4=>some (!z4,w2)) (some (false,w1))) fun c_1 w3=>cond c_1
 (some (iI 8,w3))
 (some (iI z2,w3)):=kR
def Bq4:Cuts:=⟨0,[],[],[(6,⟨[0,1,2,3,4,5,6,7,8,9,10,11,12,13,14,15,16,17,18,19,20,21],[0,0,0,4,15,31,63,127,255,511,1023,2047,4095,8191,4095,20479,53247,118783,249855,524287,1048575,2097151],[],[]⟩),(8,⟨[0,1,2,3,4,5,6,7,8,9,10,11,12,13,14,15,16,17,18,19,20,21,22,23,24,25,26,27,28,29,30],[0,1,0,0,8,24,56,0,128,504,1016,2047,4095,8191,16383,32767,16383,131071,16383,16383,540671,1589247,3686399,16383,8404991,33046527,66600959,134217727,268435455,536870911,1073741823],[],[]⟩),(10,⟨[0,1,2,3,4,5,6,7,8,9,10,11,12,13,14],[0,1,3,7,0,16,63,127,0,256,1023,0,4095,8191,16383],[],[]⟩)]⟩
def Do2:List Item:=A4 Tryz.f220
theorem E11 (r:Option Addr) (right:Int) :
 xQ Bq4 C R A07 Tryz.f220 Do2 [(0,.pointer r),(1,iI e),(2,iI name),(3,iI right),(4,iI atv),(5,iI n)] h =
 aSome r fun p=>gPtr (add p 3) h fun x=>bnd (C Bp7 [.pointer x,iI e,iI name] h) fun q1 w=>as2 q1 fun q2 q3=>aAgg q2 fun z1=>aInt .i64 q3 fun z2=>nw (.cells W1 false [iI 0,iI 0,iI 0,iI 0,iI 0,iI 0]) w fun b w1=>ck (List.length z1=6) (pAgg ⟨b,0,none⟩ z1 w1 fun w2=>cond (z2 != 0)
 (some (.tuple ⟨[iI 0,iI z2]⟩,w2))
 (gInt .i64 ⟨b,1,none⟩ w2 fun z3=>cond ((V5 .i64 z3 right)==0)
 (some (.tuple ⟨[iI 0,iI 3]⟩,w2))
 (gInt .i64 ⟨b,3,none⟩ w2 fun z4=>bnd (C Aq6 [iI atv,iI n,iI z4] w2) fun q4 w3=>aBool q4 fun z5=>bnd (cond (!z5) (some (true,w3)) (gInt .i64 ⟨b,0,none⟩ w3 fun z6=>some (decide (z6<0),w3))) fun c w4=>bnd (cond c (some (true,w4)) (gInt .i64 ⟨b,0,none⟩ w4 fun z7=>aSome r fun p_1=>gSl (add p_1 1) w4 fun _ xn _=>some (decide (z7≥(xn:Int)),w4))) fun c_1 w5=>cond c_1
 (some (.tuple ⟨[iI 0,iI 1]⟩,w5))
 (gInt .i64 ⟨b,2,none⟩ w5 fun z9=>aSome r fun p_2=>gSl (add p_2 2) w5 fun z10 xn_1 _=>gInt .i64 ⟨b,0,none⟩ w5 fun z11=>aSome z10 fun p_3=>ck ((0:Int)≤z11∧z11<(xn_1:Int)) (gInt .i64 (add (A8 p_3) (Int.toNat z11*1)) w5 fun z12=>bnd (C Aq6 [iI z9,iI atv,iI z12] w5) fun q5 w6=>aBool q5 fun z13=>bnd (cond (!z13) (some (true,w6)) (gInt .i64 ⟨b,2,none⟩ w6 fun z14=>aSome r fun p_4=>gSl (add p_4 2) w6 fun z15 xn_2 _=>gInt .i64 ⟨b,0,none⟩ w6 fun z16=>aSome z15 fun p_5=>ck ((0:Int)≤z16∧z16<(xn_2:Int)) (gInt .i64 (add (A8 p_5) (Int.toNat z16*1)) w6 fun z17=>bnd (C Aq6 [iI (wrap .i64 (z14+atv)),iI n,iI z17] w6) fun q6 w7=>aBool q6 fun z18=>some (!z18,w7)))) fun c_2 w8=>cond c_2
 (some (.tuple ⟨[iI 0,iI 1]⟩,w8))
 (aSome r fun p_6=>gSl (add p_6 1) w8 fun z19 xn_3 _=>gInt .i64 ⟨b,0,none⟩ w8 fun z20=>aSome z19 fun p_7=>ck ((0:Int)≤z20∧z20<(xn_3:Int)) (gInt .i64 (add (A8 p_7) (Int.toNat z20*1)) w8 fun z21=>gInt .i64 ⟨b,2,none⟩ w8 fun z22=>some (.tuple ⟨[iI (wrap .i64 ((wrap .i64 (z21+z22))+atv)),iI 0]⟩,w8)))))))):=kR
def Dd4:Cuts:=⟨0,[],[],[]⟩
def Ef9:List Item:=A4 Tryz.f222
theorem G71 :
 xQ Dd4 C R At1 Tryz.f222 Ef9 [(0,.pointer s),(1,iI e)] h =
 bnd (cond (decide (e≥0)) (aSome s fun p=>gSl (add p 0) h fun _ xn _=>some (decide (e<(xn:Int)),h)) (some (false,h))) fun c w=>some (.bool c,w):=kR
def Aq9:Cuts:=⟨0,[],[],[(2,⟨[0,1,2,3,4,5,6,7,8,9,10,11,12,13,14],[0,1,3,7,15,31,63,127,255,511,63,63,4095,8191,16383],[],[]⟩)]⟩
def Bg7:List Item:=A4 Tryz.f231
theorem Dr3 (v:List Value) :
 xQ Aq9 C R Ad6 Tryz.f231 Bg7 [(0,.pointer c),(1,.agg ⟨v⟩)] h =
 nw (.cells A9 false v) h fun b w=>aSome c fun p=>gInt .i64 (add p 0) w fun x=>ck ((0:Int)≤x∧(x:Int)≤x∧x≤(A7:Int)) (nw (.cells A3 false (I7 (Int.toNat x) [.int .u8 0])) w fun p1 w1=>aSome c fun p_1=>gFv (add p_1 1) w1 fun z1=>isNilF z1 fun p2=>bnd (cond p2 (some (true,w1)) (aSome c fun p_2=>gFv (add p_2 1) w1 fun z2=>gAgg ⟨b,0,none⟩ 16 w1 fun z3=>aFn z2 fun g fi cp=>bnd (C g (fi++([.agg ⟨z3⟩,.slice (some ⟨p1,0,none⟩) (Int.toNat x) (Int.toNat x)]++cp)) w1) fun r w2=>aBool r fun z4=>some (!z4,w2))) fun c_1 w3=>cond c_1
 (some (.tuple ⟨[.slice none 0 0,.bool false]⟩,w3))
 (some (.tuple ⟨[.slice (some ⟨p1,0,none⟩) (Int.toNat x) (Int.toNat x),.bool true]⟩,w3))):=kR
def Ai2:Cuts:=⟨0,[],[],[]⟩
def A43:List Item:=A4 Tryz.f233
theorem B85 :
 xQ Ai2 C R Z1 Tryz.f233 A43 [(0,.slice s sn sc),(1,f)] h =
 bnd (C H3 [.slice s sn sc,f] h) fun r w=>aInt .i64 r fun x=>some (.bool (decide (x≥0)),w):=kR
def B69:Cuts:=⟨0,[],[],[]⟩
def D55:List Item:=A4 Tryz.f248
theorem Gv4 :
 xQ B69 C R W4 Tryz.f248 D55 [(0,.slice b bn bc)] h =
 cond ((bn:Int) != 4)
 (some (.tuple ⟨[iI 0,iI 2]⟩,h))
 (aSome b fun p=>ck ((0:Int)≤0∧0<(bn:Int)) (gInt .u8 (add (A8 p) (Int.toNat 0*1)) h fun x=>bnd (C A30 [iI (wrap .i64 (x))] h) fun r w=>as2 r fun q1 q2=>aSl q1 fun z1 xn _=>aBool q2 fun z2=>bnd (cond (!z2) (some (true,w)) (gCells z1 xn w fun cs=>asBytes cs fun l=>gCells b bn w fun cs_1=>asBytes cs_1 fun l_1=>some (!((ByteArray.mk ⟨l⟩).toList==(ByteArray.mk ⟨l_1⟩).toList),w))) fun c w1=>cond c
 (some (.tuple ⟨[iI 0,iI 2]⟩,w1))
 (aSome b fun p_1=>ck ((0:Int)≤0∧0<(bn:Int)) (gInt .u8 (add (A8 p_1) (Int.toNat 0*1)) w1 fun z3=>some (.tuple ⟨[iI (wrap .i64 (z3)),iI 1]⟩,w1))))):=kR
def Af3:Cuts:=⟨0,[(3,[1,5,9,10,11])],[],[]⟩
def As5:List Item:=A4 Tryz.f250
def Q7:List Item:=stk [0,1,0,1,0,0,1,4,5] As5
theorem Dw5 (x:List Value) :
 xQ Af3 C R G4 Tryz.f250 As5 [(0,.agg ⟨x⟩),(1,iI kind)] h =
 nw (.cells W8 false x) h fun b w=>gSl ⟨b,1,none⟩ w fun z1 xn xc=>R G4 Q7 [(1,iI kind),(5,.slice none 0 0),(9,.slice z1 xn xc),(10,iI (xn:Int)),(11,iI 0)] w:=kR
theorem A89 :
 xQ Af3 C R G4 Tryz.f250 Q7 [(1,iI kind),(5,.slice out outn outc),(9,.slice x9 x9n x9c),(10,iI x10),(11,iI x11)] h =
 cond (decide (x11<x10))
 (aSome x9 fun p=>ck ((0:Int)≤x11∧x11<(x9n:Int)) (gInt .i64 (add (A8 p) (Int.toNat x11*1)) h fun x=>cond (x==2)
 (nw (.cells B6 false [iI kind,iI x11]) h fun b w=>gCells (some ⟨b,0,none⟩) (1*2) w fun cs=>ckB (fitsOpen out B6 w) (apd B6 2 out outn outc 1 cs w fun a an ac w1=>R G4 Q7 [(1,iI kind),(5,.slice a an ac),(9,.slice x9 x9n x9c),(10,iI x10),(11,iI (wrap .i64 (x11+1)))] w1))
 (R G4 Q7 [(1,iI kind),(5,.slice out outn outc),(9,.slice x9 x9n x9c),(10,iI x10),(11,iI (wrap .i64 (x11+1)))] h)))
 (some (.slice out outn outc,h)):=kR
def Ax9:Cuts:=⟨0,[(3,[0,1,2,4,10,11,15,16])],[],[]⟩
def Bi2:List Item:=A4 Tryz.f256
def Ao8:List Item:=stk [0,1,0,1,0,0,1,4,5] Bi2
theorem Ex4 :
 xQ Ax9 C R N4 Tryz.f256 Bi2 [(0,.slice b bn bc),(1,iI atv),(2,iI size),(3,iI n),(4,decode)] h =
 nw (.cells W6 false [.slice none 0 0,.slice none 0 0]) h fun p1 w=>nw (.cells W6 false [.slice none 0 0,.slice none 0 0]) w fun p2 w1=>R N4 Ao8 [(0,.slice b bn bc),(1,iI atv),(2,iI size),(4,decode),(10,pP p1),(11,pP p2),(15,iI n),(16,iI 0)] w1:=kR
theorem By9 (x10:Addr) (out:Addr) :
 xQ Ax9 C R N4 Tryz.f256 Ao8 [(0,.slice b bn bc),(1,iI atv),(2,iI size),(4,decode),(10,.pointer (some x10)),(11,.pointer (some out)),(15,iI x15),(16,iI x16)] h =
 cond (decide (x16<x15))
 (ckB (fitsOpen b A3 h) (ck ((0:Int)≤wrap .i64 (atv+(wrap .i64 (size*(wrap .i64 (x16+1)))))∧wrap .i64 (atv+(wrap .i64 (size*(wrap .i64 (x16+1)))))≤(bc:Int)) (ck ((0:Int)≤wrap .i64 (atv+(wrap .i64 (size*x16)))∧wrap .i64 (atv+(wrap .i64 (size*x16)))≤((Int.toNat (wrap .i64 (atv+(wrap .i64 (size*(wrap .i64 (x16+1)))))):Nat):Int)) (aFn decode fun g fi cp=>bnd (C g (fi++([.slice (H9 b (decide (Int.toNat (wrap .i64 (atv+(wrap .i64 (size*x16))))<bc)) ((Int.toNat (wrap .i64 (atv+(wrap .i64 (size*x16)))))*1)) ((Int.toNat (wrap .i64 (atv+(wrap .i64 (size*(wrap .i64 (x16+1)))))))-(Int.toNat (wrap .i64 (atv+(wrap .i64 (size*x16)))))) (bc-(Int.toNat (wrap .i64 (atv+(wrap .i64 (size*x16))))))]++cp)) h) fun r w=>as2 r fun q1 q2=>aAgg q1 fun x=>aInt .i64 q2 fun z1=>nw (.cells D7 false zZ4) w fun p1 w1=>ck (List.length x=36) (pAgg ⟨p1,0,none⟩ x w1 fun w2=>gSl (add out 0) w2 fun z2 xn xc=>gAgg ⟨p1,0,none⟩ 36 w2 fun z3=>ck (List.length z3=36) (nw (.cells D7 false (z3++[])) w2 fun p2 w3=>gCells (some ⟨p2,0,none⟩) (1*36) w3 fun cs=>ckB (fitsOpen z2 D7 w3) (apd D7 36 z2 xn xc 1 cs w3 fun a an ac w4=>pV (add out 0) (.slice a an ac) w4 fun w5=>gSl (add out 1) w5 fun z4 xn_1 xc_1=>nw (.cells A6 false [iI z1]) w5 fun p3 w6=>gCells (some ⟨p3,0,none⟩) (1*1) w6 fun cs_1=>ckB (fitsOpen z4 A6 w6) (apd A6 1 z4 xn_1 xc_1 1 cs_1 w6 fun a_1 an_1 ac_1 w7=>pV (add out 1) (.slice a_1 an_1 ac_1) w7 fun w8=>R N4 Ao8 [(0,.slice b bn bc),(1,iI atv),(2,iI size),(4,decode),(10,.pointer (some x10)),(11,.pointer (some out)),(15,iI x15),(16,iI (wrap .i64 (x16+1)))] w8))))))))
 (gAgg out 2 h fun z5=>ck (List.length z5=2) (pAgg x10 z5 h fun w9=>gAgg x10 2 w9 fun z6=>some (.agg ⟨z6⟩,w9))):=kR
def Z4:Cuts:=⟨0,[],[],[]⟩
def An1:List Item:=A4 Tryz.f259
theorem Bm0 :
 xQ Z4 C R O2 Tryz.f259 An1 [(0,.slice s sn sc),(1,f)] h =
 bnd (C E1 [.slice s sn sc,f] h) fun r w=>aInt .i64 r fun x=>some (.bool (decide (x≥0)),w):=kR
def Df2:Cuts:=⟨0,[],[],[]⟩
def Ec9:List Item:=A4 Tryz.f260
theorem G72 (fv0:Addr) :
 xQ Df2 C R A54 Tryz.f260 Ec9 [(0,.agg ⟨p⟩),(1,.pointer (some fv0))] h =
 nw (.cells A9 false p) h fun b w=>ckB (liveA ⟨b,8,none⟩ w) (bnd (C E2 [.slice (H9 (some ⟨b,8,none⟩) (decide (0<8)) (0*1)) (8-0) (8-0),.func (.func Av7) ⟨[]⟩ ⟨[.pointer (some fv0)]⟩] w) fun r w1=>aBool r fun x=>some (.bool x,w1)):=kR
def Am5:Cuts:=⟨0,[],[],[]⟩
def A86:List Item:=A4 Tryz.f261
theorem Am3 :
 xQ Am5 C R E2 Tryz.f261 A86 [(0,.slice s sn sc),(1,f)] h =
 bnd (C D6 [.slice s sn sc,f] h) fun r w=>aInt .i64 r fun x=>some (.bool (decide (x≥0)),w):=kR
def Ao3:Cuts:=⟨0,[],[],[]⟩
def Bb5:List Item:=A4 Tryz.f263
theorem Dp8 (x:List Value) :
 xQ Ao3 C R U4 Tryz.f263 Bb5 [(0,.agg ⟨x⟩),(1,iI i)] h =
 nw (.cells W7 false x) h fun b w=>gSl ⟨b,1,none⟩ w fun z1 xn _=>aSome z1 fun p=>ck ((0:Int)≤i∧i<(xn:Int)) (gInt .i64 (add (A8 p) (Int.toNat i*1)) w fun z2=>some (.bool (z2==1),w)):=kR
def A04:Cuts:=⟨0,[(3,[1,5,14,15,16]),(6,[1,5,14,15,16,21,22])],[],[]⟩
def Bg8:List Item:=A4 Tryz.f264
def Ap0:List Item:=stk [0,1,0,1,0,0,1,4,5] Bg8
def Aq1:List Item:=stk [0,1,0,1,0,0,1,4,5,6,0,1,0,1,0,4,0,1,0,1,4,5] Bg8
theorem Gu1 (f:Int) :
 xQ A04 C R I0 Tryz.f264 Bg8 [(0,.pointer x),(1,iI f)] h =
 aSome x fun p=>gSl (add (add p 0) 0) h fun z1 xn xc=>R I0 Ap0 [(1,iI f),(5,iI 0),(14,.slice z1 xn xc),(15,iI (xn:Int)),(16,iI 0)] h:=kR
theorem Dn0 (f:Int) (x14:Option Addr) :
 xQ A04 C R I0 Tryz.f264 Ap0 [(1,iI f),(5,iI n),(14,.slice x14 x14n x14c),(15,iI x15),(16,iI x16)] h =
 cond (decide (x16<x15))
 (aSome x14 fun p=>ck ((0:Int)≤x16∧x16<(x14n:Int)) (gAgg (add (A8 p) (Int.toNat x16*16)) 16 h fun x=>nw (.cells A9 false zZ1) h fun b w=>ck (List.length x=16) (pAgg ⟨b,0,none⟩ x w fun w1=>gAgg ⟨b,8,none⟩ 8 w1 fun z1=>R I0 Aq1 [(1,iI f),(5,iI n),(14,.slice x14 x14n x14c),(15,iI x15),(16,iI x16),(21,.agg ⟨z1⟩),(22,iI 0)] w1)))
 (some (iI n,h)):=kR
theorem Dp5 (f:Int) (x14:Option Addr) (x21:List Value) (x22:Int) :
 xQ A04 C R I0 Tryz.f264 Aq1 [(1,iI f),(5,iI n),(14,.slice x14 x14n x14c),(15,iI x15),(16,iI x16),(21,.agg ⟨x21⟩),(22,iI x22)] h =
 cond (decide (x22<8))
 (ck ((0:Int)≤x22∧x22<((8:Nat):Int)) (nth x21 (Int.toNat x22*1) fun x=>aInt .i64 x fun z1=>cond (z1==(wrap .i64 (f+1)))
 (R I0 Aq1 [(1,iI f),(5,iI (wrap .i64 (n+1))),(14,.slice x14 x14n x14c),(15,iI x15),(16,iI x16),(21,.agg ⟨x21⟩),(22,iI (wrap .i64 (x22+1)))] h)
 (R I0 Aq1 [(1,iI f),(5,iI n),(14,.slice x14 x14n x14c),(15,iI x15),(16,iI x16),(21,.agg ⟨x21⟩),(22,iI (wrap .i64 (x22+1)))] h)))
 (R I0 Ap0 [(1,iI f),(5,iI n),(14,.slice x14 x14n x14c),(15,iI x15),(16,iI (wrap .i64 (x16+1)))] h):=kR
def Z3:Cuts:=⟨0,[],[],[]⟩
def Am8:List Item:=A4 Tryz.f265
theorem Bm1 :
 xQ Z3 C R O1 Tryz.f265 Am8 [(0,.slice s sn sc),(1,f)] h =
 bnd (C E0 [.slice s sn sc,f] h) fun r w=>aInt .i64 r fun x=>some (.bool (decide (x≥0)),w):=kR
def Ge9:Cuts:=⟨0,[],[],[]⟩
def Hu6:List Item:=A4 Tryz.f276
theorem I21 :
 xQ Ge9 C R El4 Tryz.f276 Hu6 [(0,.agg ⟨p⟩)] h =
 nw (.cells D7 false p) h fun b w=>gInt .i64 ⟨b,0,none⟩ w fun x=>bnd (C A38 [iI x,iI 31] w) fun r w1=>aBool r fun z1=>bnd (cond z1 (gInt .i64 ⟨b,1,none⟩ w1 fun z2=>bnd (C A38 [iI z2,iI 32] w1) fun q1 w2=>aBool q1 fun z3=>some (z3,w2)) (some (false,w1))) fun c w3=>bnd (cond c (gInt .i64 ⟨b,2,none⟩ w3 fun z4=>bnd (C A38 [iI z4,iI 8] w3) fun q2 w4=>aBool q2 fun z5=>some (z5,w4)) (some (false,w3))) fun c_1 w5=>bnd (cond c_1 (gInt .i64 ⟨b,3,none⟩ w5 fun z6=>bnd (C A38 [iI z6,iI 8] w5) fun q3 w6=>aBool q3 fun z7=>some (z7,w6)) (some (false,w5))) fun c_2 w7=>some (.bool c_2,w7):=kR
def Dj1:Cuts:=⟨0,[],[],[]⟩
def Ek4:List Item:=A4 Tryz.f290
theorem Hd6 :
 xQ Dj1 C R Ap1 Tryz.f290 Ek4 [(0,.pointer s),(1,iI env)] h =
 bnd (cond (decide (env≥0)) (aSome s fun p=>gSl (add p 0) h fun _ xn _=>some (decide (env<(xn:Int)),h)) (some (false,h))) fun c w=>some (.bool c,w):=kR
def Bw7:Cuts:=⟨0,[(3,[0,3,4])],[],[]⟩
def Dk4:List Item:=A4 Tryz.f292
def Bb6:List Item:=stk [0,1,0,1,0,0,1,4,5] Dk4
theorem Hi4 :
 xQ Bw7 C R Ah4 Tryz.f292 Dk4 [(0,iI size)] h =
 nw (.cells Gn7 false [.slice none 0 0]) h fun b w=>R Ah4 Bb6 [(0,iI size),(3,pP b),(4,iI 0)] w:=kR
theorem D13 (n:Addr) :
 xQ Bw7 C R Ah4 Tryz.f292 Bb6 [(0,iI size),(3,.pointer (some n)),(4,iI i)] h =
 bnd (cond (decide (i<size)) (some (decide (i<256),h)) (some (false,h))) fun c w=>cond c
 (gSl (add n 0) w fun x xn xc=>nw (.cells Bz1 false [iI 1,.bool false]) w fun b w1=>gCells (some ⟨b,0,none⟩) (1*2) w1 fun cs=>ckB (fitsOpen x Bz1 w1) (apd Bz1 2 x xn xc 1 cs w1 fun a an ac w2=>pV (add n 0) (.slice a an ac) w2 fun w3=>R Ah4 Bb6 [(0,iI size),(3,.pointer (some n)),(4,iI (wrap .i64 (i+1)))] w3))
 (some (.pointer (some n),w)):=kR
def Ah5:Cuts:=⟨0,[(3,[0,3,9,10,11])],[],[]⟩
def Aw4:List Item:=A4 Tryz.f293
def S7:List Item:=stk [0,1,0,1,0,0,1,4,5] Aw4
theorem D03 :
 xQ Ah5 C R H2 Tryz.f293 Aw4 [(0,.pointer t)] h =
 aSome t fun p=>gSl (add p 0) h fun x xn xc=>R H2 S7 [(0,.pointer t),(3,.slice none 0 0),(9,.slice x xn xc),(10,iI (xn:Int)),(11,iI 0)] h:=kR
theorem Bc9 :
 xQ Ah5 C R H2 Tryz.f293 S7 [(0,.pointer t),(3,.slice out outn outc),(9,.slice x9 x9n x9c),(10,iI x10),(11,iI x11)] h =
 cond (decide (x11<x10))
 (aSome x9 fun p=>ck ((0:Int)≤x11∧x11<(x9n:Int)) (gAgg (add (A8 p) (Int.toNat x11*8)) 8 h fun x=>nw (.cells Ay1 false [iI 0,iI 0,iI 0,iI 0,iI 0,iI 0,iI 0,.bool false]) h fun b w=>ck (List.length x=8) (pAgg ⟨b,0,none⟩ x w fun w1=>gBool ⟨b,7,none⟩ w1 fun z1=>cond z1
 (bnd (C S5 [.pointer t,iI x11] w1) fun r w2=>aInt .i64 r fun z2=>nw (.cells A6 false [iI z2]) w2 fun p1 w3=>gCells (some ⟨p1,0,none⟩) (1*1) w3 fun cs=>ckB (fitsOpen out A6 w3) (apd A6 1 out outn outc 1 cs w3 fun a an ac w4=>R H2 S7 [(0,.pointer t),(3,.slice a an ac),(9,.slice x9 x9n x9c),(10,iI x10),(11,iI (wrap .i64 (x11+1)))] w4))
 (R H2 S7 [(0,.pointer t),(3,.slice out outn outc),(9,.slice x9 x9n x9c),(10,iI x10),(11,iI (wrap .i64 (x11+1)))] w1))))
 (some (.slice out outn outc,h)):=kR
def Dd1:Cuts:=⟨0,[],[],[(1,⟨[0,1,2,3,4,5,6,7,8,9,10,11,12,13,14,15,16,17,18,19,20,21,22,23,24,25,26,27,28],[0,1,3,7,7,23,55,119,247,511,1023,2047,4095,8191,16383,32767,4095,131071,262143,4095,528383,1576959,3674111,4095,16257023,33034239,67108863,134217727,268435455],[],[]⟩)]⟩
def Ef1:List Item:=A4 Tryz.f302
theorem G18 :
 xQ Dd1 C R A62 Tryz.f302 Ef1 [(0,.pointer k),(1,iI env),(2,iI n)] h =
 bnd (cond (decide (n<0)) (some (true,h)) (aSome k fun p=>gSl (add p 6) h fun _ xn _=>some (decide (n≥(xn:Int)),h))) fun c w=>bnd (cond c (some (true,w)) (aSome k fun p_1=>gSl (add p_1 1) w fun z1 xn_1 _=>aSome z1 fun p_2=>ck ((0:Int)≤n∧n<(xn_1:Int)) (gSl (add (A8 p_2) (Int.toNat n*1)) w fun z2 xn_2 xc_2=>aSome k fun p_3=>gSl (add p_3 0) w fun z3 xn_3 _=>aSome z3 fun p_4=>ck ((0:Int)≤env∧env<(xn_3:Int)) (gInt .i64 (add (A8 p_4) (Int.toNat env*1)) w fun z4=>bnd (C M7 [.slice z2 xn_2 xc_2,iI z4] w) fun r w1=>aBool r fun z5=>some (!z5,w1))))) fun c_1 w2=>cond c_1
 (some (.tuple ⟨[.pointer none,iI 8]⟩,w2))
 (aSome k fun p_5=>gSl (add p_5 6) w2 fun z6 xn_4 _=>aSome z6 fun p_6=>ck ((0:Int)≤n∧n<(xn_4:Int)) (gPtr (add (A8 p_6) (Int.toNat n*1)) w2 fun z7=>some (.tuple ⟨[.pointer z7,iI 0]⟩,w2))):=kR
def B66:Cuts:=⟨0,[],[],[]⟩
def D66:List Item:=A4 Tryz.f304
theorem Gv5 (who:Int) (stamp:Int) :
 xQ B66 C R Bh0 Tryz.f304 D66 [(0,.pointer s),(1,iI who),(2,iI stamp)] h =
 bnd (C Bh1 [.pointer s,iI who,iI stamp] h) fun r w=>aBool r fun x=>cond (!x)
 (some (.bool false,w))
 (aSome s fun p=>pV (add p 1) (.bool false) w fun w1=>aSome s fun p_1=>gInt .i64 (add p_1 7) w1 fun z1=>aSome s fun p_2=>pV (add p_2 6) (iI z1) w1 fun w2=>some (.bool true,w2)):=kR
def Bo6:Cuts:=⟨0,[(2,[0,4])],[],[]⟩
def Df1:List Item:=A4 Tryz.f306
def A79:List Item:=stk [0,1,0,0,1,4,5] Df1
theorem G73 (n:Option Addr) :
 xQ Bo6 C R Af0 Tryz.f306 Df1 [(0,.pointer n)] h =
 R Af0 A79 [(0,.pointer n),(4,iI 0)] h:=kR
theorem Ds1 (n:Option Addr) :
 xQ Bo6 C R Af0 Tryz.f306 A79 [(0,.pointer n),(4,iI i)] h =
 aSome n fun p=>gSl (add p 0) h fun _ xn _=>cond (decide (i<(xn:Int)))
 (aSome n fun p_1=>gSl (add p_1 0) h fun z1 xn_1 _=>aSome z1 fun p_2=>ck ((0:Int)≤i∧i<(xn_1:Int)) (gBool (add (add (A8 p_2) (Int.toNat i*2)) 1) h fun z2=>bnd (cond (!z2) (aSome n fun p_3=>gSl (add p_3 0) h fun z3 xn_2 _=>aSome z3 fun p_4=>ck ((0:Int)≤i∧i<(xn_2:Int)) (gInt .i64 (add (add (A8 p_4) (Int.toNat i*2)) 0) h fun z4=>some (decide (z4≤1000000),h))) (some (false,h))) fun c w=>cond c
 (aSome n fun p_5=>gSl (add p_5 0) w fun z5 xn_3 _=>aSome z5 fun p_6=>ck ((0:Int)≤i∧i<(xn_3:Int)) (pV (add (add (A8 p_6) (Int.toNat i*2)) 1) (.bool true) w fun w1=>aSome n fun p_7=>gSl (add p_7 0) w1 fun z6 xn_4 _=>aSome z6 fun p_8=>ck ((0:Int)≤i∧i<(xn_4:Int)) (gInt .i64 (add (add (A8 p_8) (Int.toNat i*2)) 0) w1 fun z7=>some (.tuple ⟨[iI (wrap .i64 (i+(wrap .i64 (256*z7)))),.bool true]⟩,w1))))
 (R Af0 A79 [(0,.pointer n),(4,iI (wrap .i64 (i+1)))] w)))
 (some (.tuple ⟨[iI 0,.bool false]⟩,h)):=kR
def Aj8:Cuts:=⟨0,[(4,[0,1,12,13])],[],[(6,⟨[0,1,2,3,4,5,6,7,8],[0,0,3,7,0,0,48,112,255],[],[]⟩)]⟩
def Ay8:List Item:=A4 Tryz.f314
def Ad7:List Item:=stk [0,1,0,1,0,0,1,4,5] Ay8
theorem D43 :
 xQ Aj8 C R D5 Tryz.f314 Ay8 [(0,.slice s1 s1n s1c),(1,.slice s2 s2n s2c)] h =
 cond ((s1n:Int) != (s2n:Int))
 (some (.bool false,h))
 (R D5 Ad7 [(0,.slice s1 s1n s1c),(1,.slice s2 s2n s2c),(12,iI (s1n:Int)),(13,iI 0)] h):=kR
theorem Bg3 (x12:Int) (x13:Int) :
 xQ Aj8 C R D5 Tryz.f314 Ad7 [(0,.slice s1 s1n s1c),(1,.slice s2 s2n s2c),(12,iI x12),(13,iI x13)] h =
 cond (decide (x13<x12))
 (aSome s1 fun p=>ck ((0:Int)≤x13∧x13<(s1n:Int)) (gInt .u8 (add (A8 p) (Int.toNat x13*1)) h fun x=>aSome s2 fun p_1=>ck ((0:Int)≤x13∧x13<(s2n:Int)) (gInt .u8 (add (A8 p_1) (Int.toNat x13*1)) h fun z1=>cond (x != z1)
 (some (.bool false,h))
 (R D5 Ad7 [(0,.slice s1 s1n s1c),(1,.slice s2 s2n s2c),(12,iI x12),(13,iI (wrap .i64 (x13+1)))] h))))
 (some (.bool true,h)):=kR
def Ag2:Cuts:=⟨0,[(2,[0,1,7,8])],[],[]⟩
def Au1:List Item:=A4 Tryz.f321
def L9:List Item:=stk [0,1,0,0,1,4,5] Au1
theorem At8 :
 xQ Ag2 C R D6 Tryz.f321 Au1 [(0,.slice s sn sc),(1,f)] h =
 R D6 L9 [(0,.slice s sn sc),(1,f),(7,iI (sn:Int)),(8,iI 0)] h:=kR
theorem L8 (x8:Int) :
 xQ Ag2 C R D6 Tryz.f321 L9 [(0,.slice s sn sc),(1,f),(7,iI x7),(8,iI x8)] h =
 cond (decide (x8<x7))
 (aSome s fun p=>ck ((0:Int)≤x8∧x8<(sn:Int)) (gInt .i64 (add (A8 p) (Int.toNat x8*1)) h fun x=>aFn f fun g fi cp=>bnd (C g (fi++([iI x]++cp)) h) fun r w=>aBool r fun z1=>cond z1
 (some (iI x8,w))
 (R D6 L9 [(0,.slice s sn sc),(1,f),(7,iI x7),(8,iI (wrap .i64 (x8+1)))] w)))
 (some (iI (-1),h)):=kR
def Er2:Cuts:=⟨0,[],[],[(1,⟨[0,1,2,3,4,5,6,7,8,9,10,11,12,13,14,15,16,17,18],[0,1,3,7,0,16,48,112,0,256,768,1792,0,4096,12288,28672,65535,0,262143],[],[]⟩),(3,⟨[0,1,2,3,4,5,6,7,8],[0,0,2,6,6,30,62,63,255],[(5,[0])],[]⟩)]⟩
def G08:List Item:=A4 Tryz.f325
theorem Ig1 :
 xQ Er2 C R A37 Tryz.f325 G08 [(0,.slice b bn bc)] h =
 nw (.cells B7 false [iI 0,iI 0,iI 0,iI 0]) h fun p1 w=>aSome b fun p=>ck ((0:Int)≤0∧0<(bn:Int)) (gInt .u8 (add (A8 p) (Int.toNat 0*1)) w fun x=>aSome b fun p_1=>ck ((0:Int)≤1∧1<(bn:Int)) (gInt .u8 (add (A8 p_1) (Int.toNat 1*1)) w fun z1=>aSome b fun p_2=>ck ((0:Int)≤2∧2<(bn:Int)) (gInt .u8 (add (A8 p_2) (Int.toNat 2*1)) w fun z2=>aSome b fun p_3=>ck ((0:Int)≤3∧3<(bn:Int)) (gInt .u8 (add (A8 p_3) (Int.toNat 3*1)) w fun z3=>nw (.cells B7 false [iI 0,iI 0,iI 0,iI 0]) w fun p2 w1=>pAgg ⟨p2,0,none⟩ [iI (wrap .i64 (x)),iI (wrap .i64 (z1)),iI (wrap .i64 (z2)),iI (wrap .i64 (z3))] w1 fun w2=>gAgg ⟨p2,0,none⟩ 4 w2 fun z4=>bnd (C Bk6 [.agg ⟨z4⟩] w2) fun r w3=>as2 r fun q1 q2=>aSl q1 fun z5 xn xc=>aBool q2 fun z6=>gAgg ⟨p2,0,none⟩ 4 w3 fun z7=>bnd (cond z6 (bnd (C D5 [.slice z5 xn xc,.slice b bn bc] w3) fun q3 w4=>aBool q3 fun z8=>gAgg ⟨p2,0,none⟩ 4 w4 fun z9=>same (.agg ⟨z7⟩) (.agg ⟨z9⟩) (some (z8,w4))) (some (false,w3))) fun c w5=>ck (List.length z7=4) (pAgg ⟨p1,0,none⟩ z7 w5 fun w6=>gAgg ⟨p1,0,none⟩ 4 w6 fun z10=>some (.tuple ⟨[.agg ⟨z10⟩,.bool c]⟩,w6)))))):=kR
def A16:Cuts:=⟨0,[],[],[]⟩
def Bv7:List Item:=A4 Tryz.f333
theorem D88 :
 xQ A16 C R Al5 Tryz.f333 Bv7 [(0,.pointer t),(1,iI name)] h =
 nw (.cells W1 false [iI 0,iI 0,iI 0,iI 0,iI 0,iI 0]) h fun b w=>bnd (C Ap5 [.pointer t,iI name] w) fun r w1=>aPtr r fun x=>cond x.isNone
 (nw (.cells W1 false [iI 0,iI 0,iI 0,iI 0,iI 0,iI 0]) w1 fun p1 w2=>gAgg ⟨p1,0,none⟩ 6 w2 fun z1=>ck (List.length z1=6) (pAgg ⟨b,0,none⟩ z1 w2 fun w3=>gAgg ⟨b,0,none⟩ 6 w3 fun z2=>some (.tuple ⟨[.agg ⟨z2⟩,.bool false]⟩,w3)))
 (aSome x fun p=>gAgg (add p 0) 6 w1 fun z3=>ck (List.length z3=6) (pAgg ⟨b,0,none⟩ z3 w1 fun w4=>gAgg ⟨b,0,none⟩ 6 w4 fun z4=>some (.tuple ⟨[.agg ⟨z4⟩,.bool true]⟩,w4))):=kR
def Ec1:Cuts:=⟨0,[],[],[]⟩
def Gn3:List Item:=A4 Tryz.f339
theorem Ib6 (f:Int) :
 xQ Ec1 C R By3 Tryz.f339 Gn3 [(0,iI f)] h =
 bnd (cond (decide (f<0)) (some (true,h)) (some (decide (f>12),h))) fun c w=>some (.bool c,w):=kR
end
end Go.EQ

set_option maxRecDepth 100000
namespace Go.EQ
open Go Go.NN Go.Proofs
open Go.IntKind (wrap)
open Go.Addr (add)
variable (C:D9) (R:Ah2) (fv0 nonev v x2 x4 x6:Addr) (wasBalanced wasPartitioned:Bool) (h:H) (a atv e env fd g i isv j k kind length limit n name now pivot size target who x10 x11 x13 x14 x15 x16:Int) (f p x:List Value) (bc bn datac datan outc outn x9c x9n:Nat) (b c data m out q r s x9:Option Addr) (cmp decode:Value)
noncomputable section
def Eq4:Cuts:=⟨0,[],[],[]⟩
def Gy7:List Item:=A4 Tryz.f19
theorem Gv9 :
 xQ Eq4 C R Af2 Tryz.f19 Gy7 [(0,.pointer c),(1,iI i)] h =
 nw (.cells A9 false zZ1) h fun b w=>bnd (C D4 [.pointer c] w) fun r w1=>as0 r (bnd (C I5 [.pointer c,iI i] w1) fun q1 w2=>as2 q1 fun q2 q3=>aAgg q2 fun x=>aInt .i64 q3 fun z1=>nw (.cells A9 false zZ1) w2 fun p1 w3=>ck (List.length x=16) (pAgg ⟨p1,0,none⟩ x w3 fun w4=>bnd (cond (z1 != 1) (some (true,w4)) (gInt .i64 ⟨p1,0,none⟩ w4 fun z2=>some (z2 != 1,w4))) fun c_1 w5=>cond c_1
 (pAgg ⟨b,0,none⟩ zZ1 w5 fun w6=>gAgg ⟨b,0,none⟩ 16 w6 fun z3=>some (.tuple ⟨[.agg ⟨z3⟩,iI 105]⟩,w6))
 (gAgg ⟨p1,0,none⟩ 16 w5 fun z4=>ck (List.length z4=16) (pAgg ⟨b,0,none⟩ z4 w5 fun w7=>gAgg ⟨b,0,none⟩ 16 w7 fun z5=>some (.tuple ⟨[.agg ⟨z5⟩,iI 0]⟩,w7))))):=kR
def Bq5:Cuts:=⟨0,[],[],[(3,⟨[0,1,2,3,4,5,6,7,8,9,10,11,12,13,14,15,16,17,18,19,20,21,22,23,24],[0,1,3,7,0,16,48,112,0,496,1008,2032,0,4096,12288,28672,0,126976,258048,520192,1048575,2097151,2097151,8388607,16777215],[],[]⟩)]⟩
def Dp0:List Item:=A4 Tryz.f20
theorem E17 (obj:Int) :
 xQ Bq5 C R Ao7 Tryz.f20 Dp0 [(0,.pointer r),(1,iI obj)] h =
 bnd (cond (decide (obj<0)) (some (true,h)) (aSome r fun p=>gSl (add p 2) h fun _ xn _=>some (decide (obj≥(xn:Int)),h))) fun c w=>cond c
 (some (.tuple ⟨[.slice none 0 0,iI 1]⟩,w))
 (aSome r fun p_1=>gPtr (add p_1 0) w fun z1=>aSome r fun p_2=>gSl (add p_2 2) w fun z2 xn_1 _=>aSome z2 fun p_3=>ck ((0:Int)≤obj∧obj<(xn_1:Int)) (gInt .i64 (add (add (A8 p_3) (Int.toNat obj*2)) 0) w fun z3=>aSome r fun p_4=>gSl (add p_4 2) w fun z4 xn_2 _=>aSome z4 fun p_5=>ck ((0:Int)≤obj∧obj<(xn_2:Int)) (gInt .i64 (add (add (A8 p_5) (Int.toNat obj*2)) 1) w fun z5=>bnd (C Bl2 [.pointer z1,iI z3,iI z5] w) fun q1 w1=>as2 q1 fun q2 q3=>aSl q2 fun z6 xn_3 xc_3=>aInt .i64 q3 fun z7=>some (.tuple ⟨[.slice z6 xn_3 xc_3,iI z7]⟩,w1)))):=kR
def Ak8:Cuts:=⟨0,[(3,[0,3,4]),(6,[0,3,4,13,14])],[],[(9,⟨[0,1,2,3,4,5,6],[0,1,3,7,0,31,63],[],[]⟩)]⟩
def Ax6:List Item:=A4 Tryz.f21
def Ae2:List Item:=stk [0,1,0,1,0,0,1,4,5] Ax6
def Ae7:List Item:=stk [0,1,0,1,0,0,1,4,5,6,0,1,0,4,0,1,4,5] Ax6
theorem Ex7 :
 xQ Ak8 C R E3 Tryz.f21 Ax6 [(0,.pointer c)] h =
 R E3 Ae2 [(0,.pointer c),(3,.slice none 0 0),(4,iI 1)] h:=kR
theorem Bz0 :
 xQ Ak8 C R E3 Tryz.f21 Ae2 [(0,.pointer c),(3,.slice out outn outc),(4,iI kind)] h =
 cond (decide (kind≤5))
 (bnd (C Ab5 [.pointer c,iI kind] h) fun r w=>aInt .i64 r fun x=>R E3 Ae7 [(0,.pointer c),(3,.slice out outn outc),(4,iI kind),(13,iI x),(14,iI 0)] w)
 (some (.slice out outn outc,h)):=kR
theorem By4 :
 xQ Ak8 C R E3 Tryz.f21 Ae7 [(0,.pointer c),(3,.slice out outn outc),(4,iI kind),(13,iI x13),(14,iI x14)] h =
 cond (decide (x14<x13))
 (nw (.cells B6 false [iI 0,iI 0]) h fun b w=>pAgg ⟨b,0,none⟩ [iI kind,iI x14] w fun w1=>aSome c fun p=>gMap (add p 3) w1 fun x=>gAgg ⟨b,0,none⟩ 2 w1 fun z1=>keyN PR B6 (.agg ⟨z1⟩) (opt x fun r=>mapAt w1 r fun es _=>opt (Au7 (iI 0) (.agg ⟨z1⟩) es) fun f=>aInt .i64 f.1 fun z2=>cond (decide (z2>0))
 (gAgg ⟨b,0,none⟩ 2 w1 fun z3=>ck (List.length z3=2) (nw (.cells B6 false (z3++[])) w1 fun p1 w2=>gCells (some ⟨p1,0,none⟩) (1*2) w2 fun cs=>ckB (fitsOpen out B6 w2) (apd B6 2 out outn outc 1 cs w2 fun a an ac w3=>R E3 Ae7 [(0,.pointer c),(3,.slice a an ac),(4,iI kind),(13,iI x13),(14,iI (wrap .i64 (x14+1)))] w3)))
 (R E3 Ae7 [(0,.pointer c),(3,.slice out outn outc),(4,iI kind),(13,iI x13),(14,iI (wrap .i64 (x14+1)))] w1)))
 (R E3 Ae2 [(0,.pointer c),(3,.slice out outn outc),(4,iI (wrap .i64 (kind+1)))] h):=kR
def Et5:Cuts:=⟨0,[],[],[]⟩
def G00:List Item:=A4 Tryz.f22
theorem G10 (code:Int) :
 xQ Et5 C R Bt8 Tryz.f22 G00 [(0,.pointer c),(1,iI i),(2,iI code)] h =
 nw (.cells Ab8 false [iI 0,iI 0,.slice none 0 0,.bool false]) h fun b w=>bnd (C Af2 [.pointer c,iI i] w) fun r w1=>as2 r fun q1 q2=>aAgg q1 fun x=>aInt .i64 q2 fun z1=>nw (.cells A9 false zZ1) w1 fun p1 w2=>ck (List.length x=16) (pAgg ⟨p1,0,none⟩ x w2 fun w3=>cond (z1 != 0)
 (bnd (C Ai5 [iI z1] w3) fun q3 w4=>aAgg q3 fun z2=>ck (List.length z2=4) (pAgg ⟨b,0,none⟩ z2 w4 fun w5=>gAgg ⟨b,0,none⟩ 4 w5 fun z3=>some (.agg ⟨z3⟩,w5)))
 (bnd (C Ac6 [.pointer c,iI i] w3) fun q4 w6=>as0 q4 (bnd (C Aj5 [.pointer c,iI i] w6) fun q5 w7=>as0 q5 (bnd (C I5 [.pointer c,iI i] w7) fun q6 w8=>as2 q6 fun q7 q8=>aAgg q7 fun z4=>aInt .i64 q8 fun z5=>nw (.cells A9 false zZ1) w8 fun p2 w9=>ck (List.length z4=16) (pAgg ⟨p2,0,none⟩ z4 w9 fun w10=>cond (z5 != 1)
 (bnd (C Ai5 [iI 105] w10) fun q9 w11=>aAgg q9 fun z6=>ck (List.length z6=4) (pAgg ⟨b,0,none⟩ z6 w11 fun w12=>gAgg ⟨b,0,none⟩ 4 w12 fun z7=>some (.agg ⟨z7⟩,w12)))
 (gInt .i64 ⟨p2,1,none⟩ w10 fun z8=>cond (decide (z8>0))
 (gInt .i64 ⟨p2,1,none⟩ w10 fun z9=>bnd (C I5 [.pointer c,iI (wrap .i64 (z9-1))] w10) fun q10 w13=>as2 q10 fun q11 q12=>aAgg q11 fun z10=>aInt .i64 q12 fun z11=>nw (.cells A9 false zZ1) w13 fun p3 w14=>ck (List.length z10=16) (pAgg ⟨p3,0,none⟩ z10 w14 fun w15=>bnd (cond (z11==1) (gInt .i64 ⟨p3,0,none⟩ w15 fun z12=>some (z12 != 2,w15)) (some (false,w15))) fun c_1 w16=>cond c_1
 (pV ⟨p2,0,none⟩ (iI 2) w16 fun w17=>pV ⟨p2,3,none⟩ (iI (Int.tmod (wrap .i64 ((Int.tmod code 256)+256)) 256)) w17 fun w18=>pV ⟨p2,4,none⟩ (iI 0) w18 fun w19=>pAgg ⟨p2,8,none⟩ [iI 0,iI 0,iI 0,iI 0,iI 0,iI 0,iI 0,iI 0] w19 fun w20=>gAgg ⟨p2,0,none⟩ 16 w20 fun z13=>bnd (C H0 [.pointer c,iI i,.agg ⟨z13⟩] w20) fun q13 w21=>aBool q13 fun z14=>bnd (C Aj0 [.bool z14,iI 0] w21) fun q14 w22=>aAgg q14 fun z15=>ck (List.length z15=4) (pAgg ⟨b,0,none⟩ z15 w22 fun w23=>gAgg ⟨b,0,none⟩ 4 w23 fun z16=>some (.agg ⟨z16⟩,w23)))
 (bnd (C N6 [.pointer c,iI i] w16) fun q15 w24=>aBool q15 fun z17=>bnd (C Aj0 [.bool z17,iI 0] w24) fun q16 w25=>aAgg q16 fun z18=>ck (List.length z18=4) (pAgg ⟨b,0,none⟩ z18 w25 fun w26=>gAgg ⟨b,0,none⟩ 4 w26 fun z19=>some (.agg ⟨z19⟩,w26)))))
 (bnd (C N6 [.pointer c,iI i] w10) fun q17 w27=>aBool q17 fun z20=>bnd (C Aj0 [.bool z20,iI 0] w27) fun q18 w28=>aAgg q18 fun z21=>ck (List.length z21=4) (pAgg ⟨b,0,none⟩ z21 w28 fun w29=>gAgg ⟨b,0,none⟩ 4 w29 fun z22=>some (.agg ⟨z22⟩,w29))))))))):=kR
def Ez1:Cuts:=⟨0,[],[],[(11,⟨[0,1,2,3,4,5,6,7,8,9,10,11,12,13,14,15,16,17,18,19,20,21,22,23,24,25,26,27,28],[0,0,2,6,0,31,63,127,127,383,895,127,2175,6271,14463,32767,65535,131071,262143,262143,786431,1835007,262143,4456447,12845055,29622271,67108863,134217727,268435455],[],[]⟩),(12,⟨[0,1,2,3,4,5,6,7,8,9,10,11,12,13,14,15,17,16,18,19],[0,1,3,0,8,24,0,64,192,448,0,1024,3072,7168,0,17351,50119,0,262143,524287],[(16,[5,12])],[]⟩),(13,⟨[0,1,7,8,9,10,11,12,13,14,2,3,4,5,6,15,16],[0,1,3,3,3,31,63,0,128,384,0,1024,3072,7168,16256,32767,65535],[(5,[9,12])],[]⟩)]⟩
def Hb7:List Item:=A4 Tryz.f25
theorem Ha2 :
 xQ Ez1 C R Bq1 Tryz.f25 Hb7 [(0,.pointer c),(1,iI i)] h =
 nw (.cells Bu7 false [.pointer c]) h fun b w=>nw (.cells Ab8 false [iI 0,iI 0,.slice none 0 0,.bool false]) w fun p1 w1=>gPtr ⟨b,0,none⟩ w1 fun x=>bnd (C Af2 [.pointer x,iI i] w1) fun r w2=>as2 r fun q1 q2=>aAgg q1 fun z1=>aInt .i64 q2 fun z2=>nw (.cells A9 false zZ1) w2 fun p2 w3=>ck (List.length z1=16) (pAgg ⟨p2,0,none⟩ z1 w3 fun w4=>cond (z2 != 0)
 (bnd (C J0 [iI z2] w4) fun q3 w5=>aAgg q3 fun z3=>ck (List.length z3=4) (pAgg ⟨p1,0,none⟩ z3 w5 fun w6=>gAgg ⟨p1,0,none⟩ 4 w6 fun z4=>some (.agg ⟨z4⟩,w6)))
 (gAgg ⟨p2,0,none⟩ 16 w4 fun z5=>bnd (C B79 [.agg ⟨z5⟩,iI 2] w4) fun q4 w7=>aSl q4 fun z6 xn _=>cond (decide ((xn:Int)<2))
 (bnd (C J0 [iI 124] w7) fun q5 w8=>aAgg q5 fun z7=>ck (List.length z7=4) (pAgg ⟨p1,0,none⟩ z7 w8 fun w9=>gAgg ⟨p1,0,none⟩ 4 w9 fun z8=>some (.agg ⟨z8⟩,w9)))
 (bnd (C Af5 [iI 12,iI 2,.func (.func Bj3) ⟨[]⟩ ⟨[pP b]⟩] w7) fun q6 w10=>aSl q6 fun z9 xn_1 _=>bnd (C Af5 [iI 4,iI 1,.func (.func Bj5) ⟨[]⟩ ⟨[pP b]⟩] w10) fun q7 w11=>aSl q7 fun z10 xn_2 _=>bnd (cond (decide ((xn_1:Int)<2)) (some (true,w11)) (some ((xn_2:Int)==0,w11))) fun c_1 w12=>cond c_1
 (bnd (C J0 [iI 123] w12) fun q8 w13=>aAgg q8 fun z11=>ck (List.length z11=4) (pAgg ⟨p1,0,none⟩ z11 w13 fun w14=>gAgg ⟨p1,0,none⟩ 4 w14 fun z12=>some (.agg ⟨z12⟩,w14)))
 (gPtr ⟨b,0,none⟩ w12 fun z13=>aSome z10 fun p=>ck ((0:Int)≤0∧0<(xn_2:Int)) (gInt .i64 (add (A8 p) (Int.toNat 0*1)) w12 fun z14=>bnd (C Ac9 [.pointer z13,iI z14,.agg ⟨[iI 0,iI 0,iI 1,iI 1,.int .u8 0,.int .u8 0,.int .u8 0,.int .u8 0,.int .u8 0,.int .u8 0,.int .u8 0,.int .u8 0,.int .u8 0,.int .u8 0,.int .u8 0,.int .u8 0,.int .u8 0,.int .u8 0,.int .u8 0,.int .u8 0,.int .u8 0,.int .u8 0,.int .u8 0,.int .u8 0,.int .u8 0,.int .u8 0,.int .u8 0,.int .u8 0,.int .u8 0,.int .u8 0,.int .u8 0,.int .u8 0,.int .u8 0,.int .u8 0,.int .u8 0,.int .u8 0]⟩] w12) fun q9 w15=>aBool q9 fun z15=>bnd (cond z15 (gPtr ⟨b,0,none⟩ w15 fun z16=>aSome z9 fun p_1=>ck ((0:Int)≤0∧0<(xn_1:Int)) (gInt .i64 (add (A8 p_1) (Int.toNat 0*1)) w15 fun z17=>aSome z10 fun p_2=>ck ((0:Int)≤0∧0<(xn_2:Int)) (gInt .i64 (add (A8 p_2) (Int.toNat 0*1)) w15 fun z18=>bnd (C G9 [.pointer z16,iI z17,.agg ⟨[iI 1,iI z18,iI 1,iI 0]⟩] w15) fun q10 w16=>aBool q10 fun z19=>some (z19,w16)))) (some (false,w15))) fun c_2 w17=>bnd (cond c_2 (gPtr ⟨b,0,none⟩ w17 fun z20=>aSome z9 fun p_3=>ck ((0:Int)≤1∧1<(xn_1:Int)) (gInt .i64 (add (A8 p_3) (Int.toNat 1*1)) w17 fun z21=>aSome z10 fun p_4=>ck ((0:Int)≤0∧0<(xn_2:Int)) (gInt .i64 (add (A8 p_4) (Int.toNat 0*1)) w17 fun z22=>bnd (C G9 [.pointer z20,iI z21,.agg ⟨[iI 2,iI z22,iI 1,iI 0]⟩] w17) fun q11 w18=>aBool q11 fun z23=>some (z23,w18)))) (some (false,w17))) fun c_3 w19=>aSome z6 fun p_5=>ck ((0:Int)≤0∧0<(xn:Int)) (gInt .i64 (add (A8 p_5) (Int.toNat 0*1)) w19 fun z24=>aSome z6 fun p_6=>ck ((0:Int)≤1∧1<(xn:Int)) (gInt .i64 (add (A8 p_6) (Int.toNat 1*1)) w19 fun z25=>aSome z9 fun p_7=>ck ((0:Int)≤0∧0<(xn_1:Int)) (gInt .i64 (add (A8 p_7) (Int.toNat 0*1)) w19 fun z26=>aSome z9 fun p_8=>ck ((0:Int)≤1∧1<(xn_1:Int)) (gInt .i64 (add (A8 p_8) (Int.toNat 1*1)) w19 fun z27=>ck ((0:Int)≤z24∧z24<((8:Nat):Int)) (pV (add ⟨p2,8,none⟩ (Int.toNat z24*1)) (iI (wrap .i64 (z26+1))) w19 fun w20=>gInt .i64 (add (A8 p_6) (Int.toNat 1*1)) w20 fun z28=>same (iI z25) (iI z28) (gInt .i64 (add (A8 p_8) (Int.toNat 1*1)) w20 fun z29=>same (iI z27) (iI z29) (ck ((0:Int)≤z25∧z25<((8:Nat):Int)) (pV (add ⟨p2,8,none⟩ (Int.toNat z25*1)) (iI (wrap .i64 (z27+1))) w20 fun w21=>aSome z6 fun p_9=>ck ((0:Int)≤0∧0<(xn:Int)) (gInt .i64 (add (A8 p_9) (Int.toNat 0*1)) w21 fun z30=>aSome z6 fun p_10=>ck ((0:Int)≤1∧1<(xn:Int)) (gInt .i64 (add (A8 p_10) (Int.toNat 1*1)) w21 fun z31=>bnd (cond c_3 (gPtr ⟨b,0,none⟩ w21 fun z32=>gAgg ⟨p2,0,none⟩ 16 w21 fun z33=>bnd (C H0 [.pointer z32,iI i,.agg ⟨z33⟩] w21) fun q12 w22=>aBool q12 fun z34=>gInt .i64 (add (A8 p_9) (Int.toNat 0*1)) w22 fun z35=>same (iI z30) (iI z35) (gInt .i64 (add (A8 p_10) (Int.toNat 1*1)) w22 fun z36=>same (iI z31) (iI z36) (some (z34,w22)))) (some (false,w21))) fun c_4 w23=>bnd (C B38 [.bool c_4,iI (wrap .i64 (z30+(wrap .i64 (16*z31))))] w23) fun q13 w24=>aAgg q13 fun z37=>ck (List.length z37=4) (pAgg ⟨p1,0,none⟩ z37 w24 fun w25=>gAgg ⟨p1,0,none⟩ 4 w25 fun z38=>some (.agg ⟨z38⟩,w25))))))))))))))))):=kR
def D37:Cuts:=⟨0,[],[],[]⟩
def E91:List Item:=A4 Tryz.f30
theorem Hy5 :
 xQ D37 C R Db0 Tryz.f30 E91 [] h =
 bnd (C Br3 [] h) fun r w=>aSl r fun x xn xc=>bnd (C Ao5 [.slice x xn xc] w) fun q1 w1=>as4 q1 fun q2 q3 q4 q5=>aPtr q2 fun _=>aPtr q3 fun z2=>aPtr q4 fun _=>aPtr q5 fun _=>cond z2.isNone
 (some (.bool false,w1))
 (bnd (C Bq1 [.pointer z2,iI 0] w1) fun q6 w2=>aAgg q6 fun z5=>nw (.cells Ab8 false [iI 0,iI 0,.slice none 0 0,.bool false]) w2 fun b w3=>ck (List.length z5=4) (pAgg ⟨b,0,none⟩ z5 w3 fun w4=>bnd (C A41 [.pointer z2,iI 0,iI 5] w4) fun q7 w5=>aAgg q7 fun z6=>nw (.cells Ab8 false [iI 0,iI 0,.slice none 0 0,.bool false]) w5 fun p1 w6=>ck (List.length z6=4) (pAgg ⟨p1,0,none⟩ z6 w6 fun w7=>bnd (C B02 [.pointer z2,iI 0,iI 1] w7) fun q8 w8=>as3 q8 fun q9 q10 q11=>aInt .i64 q9 fun z7=>aAgg q10 fun z8=>aInt .i64 q11 fun z9=>nw (.cells B7 false [iI 0,iI 0,iI 0,iI 0]) w8 fun p2 w9=>ck (List.length z8=4) (pAgg ⟨p2,0,none⟩ z8 w9 fun w10=>gInt .i64 ⟨b,1,none⟩ w10 fun z10=>bnd (cond (z10==0) (gInt .i64 ⟨b,0,none⟩ w10 fun z11=>some (z11==33,w10)) (some (false,w10))) fun c w11=>bnd (cond c (gInt .i64 ⟨p1,1,none⟩ w11 fun z12=>some (z12==109,w11)) (some (false,w11))) fun c_1 w12=>bnd (cond c_1 (some (z7==1,w12)) (some (false,w12))) fun c_2 w13=>bnd (cond c_2 (gAgg ⟨p2,0,none⟩ 4 w13 fun z13=>B54 PR B7 z13 [iI 1,iI 0,iI 1,iI 0] fun eq=>some (eq,w13)) (some (false,w13))) fun c_3 w14=>bnd (cond c_3 (some (z9==0,w14)) (some (false,w14))) fun c_4 w15=>some (.bool c_4,w15))))):=kR
def Ed3:Cuts:=⟨0,[],[],[]⟩
def Gd5:List Item:=A4 Tryz.f34
theorem Id3 :
 xQ Ed3 C R Dj5 Tryz.f34 Gd5 [] h =
 nw (.cells Dp9 false [.slice none 0 0,.slice none 0 0,iI 0]) h fun b w=>nw (.cells Hi8 false [.bool false,.bool false]) w fun p1 w1=>nw (.cells Dn4 false [iI 0,iI 1,iI 1,iI 0]) w1 fun p2 w2=>pAgg ⟨b,0,none⟩ [.slice (some ⟨p1,0,none⟩) 2 2,.slice (some ⟨p2,0,none⟩) 2 2,iI 5] w2 fun w3=>gAgg ⟨b,0,none⟩ 3 w3 fun x=>some (.agg ⟨x⟩,w3):=kR
def Es9:Cuts:=⟨0,[],[],[]⟩
def Gz5:List Item:=A4 Tryz.f40
theorem Ih5 :
 xQ Es9 C R Ai5 Tryz.f40 Gz5 [(0,iI e)] h =
 nw (.cells Ab8 false [iI 0,iI 0,.slice none 0 0,.bool false]) h fun b w=>pAgg ⟨b,0,none⟩ [iI 0,iI e,.slice none 0 0,.bool false] w fun w1=>gAgg ⟨b,0,none⟩ 4 w1 fun x=>some (.agg ⟨x⟩,w1):=kR
def A12:Cuts:=⟨0,[],[],[]⟩
def Bx3:List Item:=A4 Tryz.f44
theorem D97 :
 xQ A12 C R H0 Tryz.f44 Bx3 [(0,.pointer c),(1,iI i),(2,.agg ⟨p⟩)] h =
 nw (.cells A9 false p) h fun b w=>gAgg ⟨b,0,none⟩ 16 w fun x=>bnd (C Bi1 [.agg ⟨x⟩] w) fun r w1=>as2 r fun q1 q2=>aSl q1 fun z1 xn xc=>aBool q2 fun z2=>bnd (C A51 [iI i] w1) fun q3 w2=>aAgg q3 fun z3=>bnd (C O0 [.pointer c,.agg ⟨z3⟩,.slice z1 xn xc,.bool z2] w2) fun q4 w3=>aBool q4 fun z4=>some (.bool z4,w3):=kR
def Al2:Cuts:=⟨0,[],[(8,[6,8,11,12])],[(7,⟨[0,1,2,3,4,5,6,7,8,9],[0,1,3,7,0,31,63,31,159,511],[(7,[5])],[]⟩)]⟩
def A20:List Item:=A4 Tryz.f50
def Au5:List Item:=stk [0,1,0,1,0,1,0,1,0,1,0,1,0,0] A20
theorem D89 (r:List Value) :
 xQ Al2 C R O8 Tryz.f50 A20 [(0,.pointer c),(1,.agg ⟨r⟩),(2,decode)] h =
 nw (.cells B6 false r) h fun b w=>nw (.cells A9 false zZ1) w fun p1 w1=>nw (.cells A9 false zZ1) w1 fun p2 w2=>gAgg ⟨b,0,none⟩ 2 w2 fun x=>bnd (C V6 [.pointer c,.agg ⟨x⟩] w2) fun q1 w3=>as2 q1 fun q2 q3=>aSl q2 fun z1 xn xc=>aBool q3 fun z2=>cond (!z2)
 (gAgg ⟨p2,0,none⟩ 16 w3 fun z3=>ck (List.length z3=16) (pAgg ⟨p1,0,none⟩ z3 w3 fun w4=>gAgg ⟨p1,0,none⟩ 16 w4 fun z4=>some (.tuple ⟨[.agg ⟨z4⟩,iI 2]⟩,w4)))
 (aFn decode fun g fi cp=>bnd (C g (fi++([.slice z1 xn xc]++cp)) w3) fun q4 w5=>as2 q4 fun q5 q6=>aAgg q5 fun z5=>aInt .i64 q6 fun z6=>nw (.cells A9 false zZ1) w5 fun p3 w6=>ck (List.length z5=16) (pAgg ⟨p3,0,none⟩ z5 w6 fun w7=>cond (z6==2)
 (aSome c fun p=>gMap (add p 3) w7 fun z7=>gAgg ⟨b,0,none⟩ 2 w7 fun z8=>keyN PR B6 (.agg ⟨z8⟩) (opt z7 fun q7=>mapAt w7 q7 fun es _=>opt (Au7 (iI 0) (.agg ⟨z8⟩) es) fun f=>aInt .i64 f.1 fun z9=>keyN PR B6 (.agg ⟨z8⟩) (opt z7 fun q8=>mapAt w7 q8 fun es_1 cl_1=>opt (Ep6 (iI 0) (.agg ⟨z8⟩) es_1 cl_1) fun f_1=>aInt .i64 f_1.1 fun _=>lt (H.set w7 q8 f_1.2.2) fun w8=>keyN PR B6 (.agg ⟨z8⟩) (opt z7 fun q9=>mapAt w8 q9 fun es_2 _=>opt (Au7 (iI 0) (.agg ⟨z8⟩) es_2) fun f_2=>aInt .i64 f_2.1 fun z11=>same (iI z9) (iI z11) (opt z7 fun q10=>mapAt w8 q10 fun es_3 cl_3=>opt (B49 (f_1.2.1:Int) es_3 0) fun i=>lt (H.set w8 q10 (.map (modN (fun e=>{ e with val:=iI (wrap .i64 (z9+1)) }) i es_3) cl_3)) fun w9=>R O8 Au5 [(6,pP p1),(8,pP p2),(11,pP p3),(12,iI z6)] w9)))))
 (R O8 Au5 [(6,pP p1),(8,pP p2),(11,pP p3),(12,iI z6)] w7))):=kR
theorem Bj0 :
 xQ Al2 C R O8 Tryz.f50 Au5 [(6,.pointer (some x6)),(8,.pointer (some nonev)),(11,.pointer (some v)),(12,iI isv)] h =
 cond (isv != 1)
 (gAgg nonev 16 h fun x=>ck (List.length x=16) (pAgg x6 x h fun w=>gAgg x6 16 w fun z1=>some (.tuple ⟨[.agg ⟨z1⟩,iI isv]⟩,w)))
 (gAgg v 16 h fun z2=>ck (List.length z2=16) (pAgg x6 z2 h fun w1=>gAgg x6 16 w1 fun z3=>some (.tuple ⟨[.agg ⟨z3⟩,iI isv]⟩,w1))):=kR
def Dw4:Cuts:=⟨0,[],[],[]⟩
def Ev3:List Item:=A4 Tryz.f51
theorem Ho6 :
 xQ Dw4 C R A51 Tryz.f51 Ev3 [(0,iI i)] h =
 nw (.cells B6 false [iI 0,iI 0]) h fun b w=>pAgg ⟨b,0,none⟩ [iI 1,iI i] w fun w1=>gAgg ⟨b,0,none⟩ 2 w1 fun x=>some (.agg ⟨x⟩,w1):=kR
def Bw0:Cuts:=⟨0,[(4,[0,1,4,19,20])],[],[]⟩
def Dn1:List Item:=A4 Tryz.f62
def Aw5:List Item:=stk [0,1,0,1,0,1,0,0,1,4,5] Dn1
theorem Hd9 :
 xQ Bw0 C R Ac6 Tryz.f62 Dn1 [(0,.pointer c),(1,iI i)] h =
 bnd (C D4 [.pointer c] h) fun r w=>as0 r (bnd (C I5 [.pointer c,iI i] w) fun q1 w1=>as2 q1 fun q2 q3=>aAgg q2 fun x=>aInt .i64 q3 fun z1=>nw (.cells A9 false zZ1) w1 fun b w2=>ck (List.length x=16) (pAgg ⟨b,0,none⟩ x w2 fun w3=>cond (z1 != 1)
 (some (.tuple ⟨[]⟩,w3))
 (gAgg ⟨b,8,none⟩ 8 w3 fun z2=>R Ac6 Aw5 [(0,.pointer c),(1,iI i),(4,pP b),(19,.agg ⟨z2⟩),(20,iI 0)] w3))):=kR
theorem D00 (p:Addr) (x19:List Value) (x20:Int) :
 xQ Bw0 C R Ac6 Tryz.f62 Aw5 [(0,.pointer c),(1,iI i),(4,.pointer (some p)),(19,.agg ⟨x19⟩),(20,iI x20)] h =
 cond (decide (x20<8))
 (ck ((0:Int)≤x20∧x20<((8:Nat):Int)) (nth x19 (Int.toNat x20*1) fun x=>aInt .i64 x fun z1=>cond (decide (z1>0))
 (bnd (C Aa5 [.pointer c,iI (wrap .i64 (z1-1))] h) fun r w=>aInt .i64 r fun _=>R Ac6 Aw5 [(0,.pointer c),(1,iI i),(4,.pointer (some p)),(19,.agg ⟨x19⟩),(20,iI (wrap .i64 (x20+1)))] w)
 (R Ac6 Aw5 [(0,.pointer c),(1,iI i),(4,.pointer (some p)),(19,.agg ⟨x19⟩),(20,iI (wrap .i64 (x20+1)))] h)))
 (pAgg (add p 8) [iI 0,iI 0,iI 0,iI 0,iI 0,iI 0,iI 0,iI 0] h fun w1=>gAgg p 16 w1 fun z3=>bnd (C H0 [.pointer c,iI i,.agg ⟨z3⟩] w1) fun q1 w2=>aBool q1 fun _=>some (.tuple ⟨[]⟩,w2)):=kR
def Bf6:Cuts:=⟨0,[],[],[]⟩
def B77:List Item:=A4 Tryz.f69
theorem Eo6 :
 xQ Bf6 C R Ab5 Tryz.f69 B77 [(0,.pointer c),(1,iI kind)] h =
 cond (kind==1)
 (some (iI 8,h))
 (cond (kind==2)
 (some (iI 12,h))
 (cond (kind==3)
 (aSome c fun p=>gSl (add p 2) h fun _ xn _=>some (iI (wrap .i64 ((wrap .i64 (4+(xn:Int)))-1)),h))
 (some (iI 1,h)))):=kR
def E70:Cuts:=⟨0,[],[],[]⟩
def Hf5:List Item:=A4 Tryz.f89
theorem I00 (f:Int) :
 xQ E70 C R Do4 Tryz.f89 Hf5 [(0,.pointer c),(1,iI i),(2,iI fd),(3,iI f)] h =
 nw (.cells Ab8 false [iI 0,iI 0,.slice none 0 0,.bool false]) h fun b w=>bnd (C Af2 [.pointer c,iI i] w) fun r w1=>as2 r fun q1 q2=>aAgg q1 fun x=>aInt .i64 q2 fun z1=>nw (.cells A9 false zZ1) w1 fun p1 w2=>ck (List.length x=16) (pAgg ⟨p1,0,none⟩ x w2 fun w3=>cond (z1 != 0)
 (bnd (C J0 [iI z1] w3) fun q3 w4=>aAgg q3 fun z2=>ck (List.length z2=4) (pAgg ⟨b,0,none⟩ z2 w4 fun w5=>gAgg ⟨b,0,none⟩ 4 w5 fun z3=>some (.agg ⟨z3⟩,w5)))
 (ck ((0:Int)≤fd∧fd<((8:Nat):Int)) (pV (add ⟨p1,8,none⟩ (Int.toNat fd*1)) (iI (wrap .i64 (f+1))) w3 fun w6=>gAgg ⟨p1,0,none⟩ 16 w6 fun z4=>bnd (C H0 [.pointer c,iI i,.agg ⟨z4⟩] w6) fun q4 w7=>aBool q4 fun z5=>bnd (C B38 [.bool z5,iI fd] w7) fun q5 w8=>aAgg q5 fun z6=>ck (List.length z6=4) (pAgg ⟨b,0,none⟩ z6 w8 fun w9=>gAgg ⟨b,0,none⟩ 4 w9 fun z7=>some (.agg ⟨z7⟩,w9))))):=kR
def D24:Cuts:=⟨0,[],[],[]⟩
def E98:List Item:=A4 Tryz.f103
theorem Hx9 (k:Option Addr) :
 xQ D24 C R Dc0 Tryz.f103 E98 [(0,.pointer k),(1,iI env)] h =
 bnd (cond k.isNone (some (true,h)) (bnd (C Az4 [.pointer k] h) fun r w=>aPtr r fun x=>bnd (C Av8 [.pointer x,iI env] w) fun q1 w1=>aSl q1 fun _ xn _=>some ((xn:Int)==0,w1))) fun c w2=>cond c
 (some (.tuple ⟨[.pointer none,iI 1]⟩,w2))
 (bnd (C Az4 [.pointer k] w2) fun q2 w3=>aPtr q2 fun z2=>bnd (C Av8 [.pointer z2,iI env] w3) fun q3 w4=>aSl q3 fun z3 xn_1 xc_1=>nw (.map [] 0) w4 fun b w5=>nw (.cells D54 false [.pointer k,iI env,.slice z3 xn_1 xc_1,.map (some b)]) w5 fun p1 w6=>some (.tuple ⟨[pP p1,iI 0]⟩,w6)):=kR
def Aq7:Cuts:=⟨0,[],[],[(4,⟨[0,1,2,3,4,10,5,6,7,8,9,11,12],[0,1,3,7,0,16,63,127,255,255,0,1535,4095],[(5,[3])],[]⟩)]⟩
def Bg6:List Item:=A4 Tryz.f126
theorem Dq3 :
 xQ Aq7 C R Ad8 Tryz.f126 Bg6 [(0,.pointer c),(1,.slice b bn bc)] h =
 nw (.cells A9 false zZ1) h fun p1 w=>nw (.cells A9 false zZ1) w fun p2 w1=>aSome c fun p=>gFv (add p 2) w1 fun x=>isNilF x fun p3=>bnd (cond p3 (some (true,w1)) (aSome c fun p_1=>gInt .i64 (add p_1 0) w1 fun z1=>some ((bn:Int) != z1,w1))) fun c_1 w2=>cond c_1
 (gAgg ⟨p2,0,none⟩ 16 w2 fun z2=>ck (List.length z2=16) (pAgg ⟨p1,0,none⟩ z2 w2 fun w3=>gAgg ⟨p1,0,none⟩ 16 w3 fun z3=>some (.tuple ⟨[.agg ⟨z3⟩,.bool false]⟩,w3)))
 (aSome c fun p_2=>gFv (add p_2 2) w2 fun z4=>nw (.cells A9 false zZ1) w2 fun p4 w4=>bnd (C H7 [.slice b bn bc] w4) fun r w5=>aSl r fun z5 xn xc=>gFv (add p_2 2) w5 fun z6=>B50 (z4) (z6) (aFn z4 fun g fi cp=>bnd (C g (fi++([.slice z5 xn xc]++cp)) w5) fun q1 w6=>as2 q1 fun q2 q3=>aAgg q2 fun z7=>aBool q3 fun z8=>ck (List.length z7=16) (pAgg ⟨p4,0,none⟩ z7 w6 fun w7=>cond (!z8)
 (gAgg ⟨p2,0,none⟩ 16 w7 fun z9=>ck (List.length z9=16) (pAgg ⟨p1,0,none⟩ z9 w7 fun w8=>gAgg ⟨p1,0,none⟩ 16 w8 fun z10=>some (.tuple ⟨[.agg ⟨z10⟩,.bool false]⟩,w8)))
 (gAgg ⟨p4,0,none⟩ 16 w7 fun z11=>ck (List.length z11=16) (pAgg ⟨p1,0,none⟩ z11 w7 fun w9=>gAgg ⟨p1,0,none⟩ 16 w9 fun z12=>some (.tuple ⟨[.agg ⟨z12⟩,.bool true]⟩,w9)))))):=kR
def Az1:Cuts:=⟨0,[],[],[]⟩
def Bs0:List Item:=A4 Tryz.f138
theorem D44 :
 xQ Az1 C R Aj7 Tryz.f138 Bs0 [(0,.pointer c),(1,iI i)] h =
 bnd (C A50 [iI i] h) fun r w=>aAgg r fun x=>bnd (C Z9 [.pointer c,.agg ⟨x⟩] w) fun q1 w1=>aBool q1 fun z1=>some (.bool z1,w1):=kR
def Dq1:Cuts:=⟨0,[],[],[]⟩
def En7:List Item:=A4 Tryz.f147
theorem He0 :
 xQ Dq1 C R Bd3 Tryz.f147 En7 [(0,.agg ⟨x⟩),(1,.pointer (some fv0))] h =
 nw (.cells V3 false x) h fun b w=>gInt .i64 ⟨b,0,none⟩ w fun z1=>gInt .i64 fv0 w fun z2=>bnd (cond (z1 != z2) (gInt .i64 ⟨b,2,none⟩ w fun z3=>gInt .i64 fv0 w fun z4=>some (z3==(wrap .i64 (z4+1)),w)) (some (false,w))) fun c w1=>some (.bool c,w1):=kR
def Bc4:Cuts:=⟨0,[(2,[0,9,10,11])],[],[(4,⟨[0,1,2,3,4,5,6,7,8,9,10,11,12,13,14,15,16,17,18,19,20],[0,1,3,7,15,31,15,79,255,511,1023,2047,4095,8191,1023,17407,50175,131071,262143,524287,1048575],[],[]⟩)]⟩
def B07:List Item:=A4 Tryz.f151
def Ax4:List Item:=stk [0,1,0,0,1,4,5] B07
theorem Gn8 (x:Option Addr) :
 xQ Bc4 C R Z5 Tryz.f151 B07 [(0,.pointer x)] h =
 aSome x fun p=>gSl (add (add p 0) 0) h fun z1 xn xc=>R Z5 Ax4 [(0,.pointer x),(9,.slice z1 xn xc),(10,iI (xn:Int)),(11,iI 0)] h:=kR
theorem Dh5 (x:Option Addr) :
 xQ Bc4 C R Z5 Tryz.f151 Ax4 [(0,.pointer x),(9,.slice x9 x9n x9c),(10,iI x10),(11,iI x11)] h =
 cond (decide (x11<x10))
 (aSome x9 fun p=>ck ((0:Int)≤x11∧x11<(x9n:Int)) (gAgg (add (A8 p) (Int.toNat x11*16)) 16 h fun z1=>nw (.cells A9 false zZ1) h fun b w=>ck (List.length z1=16) (pAgg ⟨b,0,none⟩ z1 w fun w1=>gInt .i64 ⟨b,1,none⟩ w1 fun z2=>bnd (cond (decide (z2>0)) (gInt .i64 ⟨b,1,none⟩ w1 fun z3=>bnd (cond (z3==(wrap .i64 (x11+1))) (some (true,w1)) (aSome x fun p_1=>gAgg (add p_1 0) 2 w1 fun z4=>gInt .i64 ⟨b,1,none⟩ w1 fun z5=>bnd (C Ad1 [.agg ⟨z4⟩,iI (wrap .i64 (z5-1))] w1) fun r w2=>aBool r fun z6=>some (!z6,w2))) fun c w3=>some (c,w3)) (some (false,w1))) fun c_1 w4=>cond c_1
 (some (.bool true,w4))
 (R Z5 Ax4 [(0,.pointer x),(9,.slice x9 x9n x9c),(10,iI x10),(11,iI (wrap .i64 (x11+1)))] w4))))
 (some (.bool false,h)):=kR
def Al6:Cuts:=⟨0,[],[(8,[6,8,11,12])],[(7,⟨[0,1,2,3,4,5,6,7,8,9],[0,1,3,7,0,31,63,31,159,511],[(7,[5])],[]⟩)]⟩
def A24:List Item:=A4 Tryz.f160
def Au2:List Item:=stk [0,1,0,1,0,1,0,1,0,1,0,1,0,0] A24
theorem D86 (r:List Value) :
 xQ Al6 C R J7 Tryz.f160 A24 [(0,.pointer c),(1,.agg ⟨r⟩),(2,decode)] h =
 nw (.cells B6 false r) h fun b w=>nw (.cells D7 false zZ4) w fun p1 w1=>nw (.cells D7 false zZ4) w1 fun p2 w2=>gAgg ⟨b,0,none⟩ 2 w2 fun x=>bnd (C V6 [.pointer c,.agg ⟨x⟩] w2) fun q1 w3=>as2 q1 fun q2 q3=>aSl q2 fun z1 xn xc=>aBool q3 fun z2=>cond (!z2)
 (gAgg ⟨p2,0,none⟩ 36 w3 fun z3=>ck (List.length z3=36) (pAgg ⟨p1,0,none⟩ z3 w3 fun w4=>gAgg ⟨p1,0,none⟩ 36 w4 fun z4=>some (.tuple ⟨[.agg ⟨z4⟩,iI 2]⟩,w4)))
 (aFn decode fun g fi cp=>bnd (C g (fi++([.slice z1 xn xc]++cp)) w3) fun q4 w5=>as2 q4 fun q5 q6=>aAgg q5 fun z5=>aInt .i64 q6 fun z6=>nw (.cells D7 false zZ4) w5 fun p3 w6=>ck (List.length z5=36) (pAgg ⟨p3,0,none⟩ z5 w6 fun w7=>cond (z6==2)
 (aSome c fun p=>gMap (add p 3) w7 fun z7=>gAgg ⟨b,0,none⟩ 2 w7 fun z8=>keyN PR B6 (.agg ⟨z8⟩) (opt z7 fun q7=>mapAt w7 q7 fun es _=>opt (Au7 (iI 0) (.agg ⟨z8⟩) es) fun f=>aInt .i64 f.1 fun z9=>keyN PR B6 (.agg ⟨z8⟩) (opt z7 fun q8=>mapAt w7 q8 fun es_1 cl_1=>opt (Ep6 (iI 0) (.agg ⟨z8⟩) es_1 cl_1) fun f_1=>aInt .i64 f_1.1 fun _=>lt (H.set w7 q8 f_1.2.2) fun w8=>keyN PR B6 (.agg ⟨z8⟩) (opt z7 fun q9=>mapAt w8 q9 fun es_2 _=>opt (Au7 (iI 0) (.agg ⟨z8⟩) es_2) fun f_2=>aInt .i64 f_2.1 fun z11=>same (iI z9) (iI z11) (opt z7 fun q10=>mapAt w8 q10 fun es_3 cl_3=>opt (B49 (f_1.2.1:Int) es_3 0) fun i=>lt (H.set w8 q10 (.map (modN (fun e=>{ e with val:=iI (wrap .i64 (z9+1)) }) i es_3) cl_3)) fun w9=>R J7 Au2 [(6,pP p1),(8,pP p2),(11,pP p3),(12,iI z6)] w9)))))
 (R J7 Au2 [(6,pP p1),(8,pP p2),(11,pP p3),(12,iI z6)] w7))):=kR
theorem Bk1 :
 xQ Al6 C R J7 Tryz.f160 Au2 [(6,.pointer (some x6)),(8,.pointer (some nonev)),(11,.pointer (some v)),(12,iI isv)] h =
 cond (isv != 1)
 (gAgg nonev 36 h fun x=>ck (List.length x=36) (pAgg x6 x h fun w=>gAgg x6 36 w fun z1=>some (.tuple ⟨[.agg ⟨z1⟩,iI isv]⟩,w)))
 (gAgg v 36 h fun z2=>ck (List.length z2=36) (pAgg x6 z2 h fun w1=>gAgg x6 36 w1 fun z3=>some (.tuple ⟨[.agg ⟨z3⟩,iI isv]⟩,w1))):=kR
def D50:Cuts:=⟨0,[],[],[]⟩
def E97:List Item:=A4 Tryz.f162
theorem Hw0 :
 xQ D50 C R Aa6 Tryz.f162 E97 [(0,.slice b bn bc)] h =
 nw (.cells D7 false zZ4) h fun p1 w=>bnd (cond ((bn:Int)==40) (bnd (C Ay5 [.slice b bn bc] w) fun r w1=>aBool r fun x=>some (x,w1)) (some (false,w))) fun c w2=>cond c
 (pAgg ⟨p1,0,none⟩ zZ4 w2 fun w3=>gAgg ⟨p1,0,none⟩ 36 w3 fun z1=>some (.tuple ⟨[.agg ⟨z1⟩,iI 0]⟩,w3))
 (bnd (C Bz4 [] w2) fun q1 w4=>aPtr q1 fun z2=>bnd (C Ad9 [.pointer z2,.slice b bn bc] w4) fun q2 w5=>as2 q2 fun q3 q4=>aAgg q3 fun z3=>aBool q4 fun z4=>nw (.cells D7 false zZ4) w5 fun p2 w6=>ck (List.length z3=36) (pAgg ⟨p2,0,none⟩ z3 w6 fun w7=>cond (!z4)
 (pAgg ⟨p1,0,none⟩ zZ4 w7 fun w8=>gAgg ⟨p1,0,none⟩ 36 w8 fun z5=>some (.tuple ⟨[.agg ⟨z5⟩,iI 2]⟩,w8))
 (gAgg ⟨p2,0,none⟩ 36 w7 fun z6=>ck (List.length z6=36) (pAgg ⟨p1,0,none⟩ z6 w7 fun w9=>gAgg ⟨p1,0,none⟩ 36 w9 fun z7=>some (.tuple ⟨[.agg ⟨z7⟩,iI 1]⟩,w9))))):=kR
def D31:Cuts:=⟨0,[],[],[(1,⟨[1,0,2,3,4,5,6],[0,0,3,7,7,31,63],[(0,[1])],[]⟩)]⟩
def Ga0:List Item:=A4 Tryz.f163
theorem Hz0 :
 xQ D31 C R Br8 Tryz.f163 Ga0 [(0,.agg ⟨p⟩)] h =
 nw (.cells D7 false p) h fun b w=>gAgg ⟨b,0,none⟩ 36 w fun x=>bnd (C Bz4 [] w) fun r w1=>aPtr r fun z1=>gAgg ⟨b,0,none⟩ 36 w1 fun z2=>same (.agg ⟨x⟩) (.agg ⟨z2⟩) (bnd (C Ad5 [.pointer z1,.agg ⟨x⟩] w1) fun q1 w2=>as2 q1 fun q2 q3=>aSl q2 fun z3 xn xc=>aBool q3 fun z4=>some (.tuple ⟨[.slice z3 xn xc,.bool z4]⟩,w2)):=kR
def D47:Cuts:=⟨0,[],[],[]⟩
def Ga5:List Item:=A4 Tryz.f191
theorem Hw4 :
 xQ D47 C R Bt4 Tryz.f191 Ga5 [(0,iI n)] h =
 some (iI (mm2 false (mm2 true n 0) 64),h):=kR
def A72:Cuts:=⟨0,[],[],[]⟩
def By0:List Item:=A4 Tryz.f192
theorem Eg7 (sn sc:Nat) :
 xQ A72 C R Ae9 Tryz.f192 By0 [(0,.slice s sn sc)] h =
 cond s.isNone
 (some (.slice none 0 0,h))
 (nw (.cells A6 false []) h fun b w=>gCells s (sn*1) w fun cs=>ckB (fitsOpen (some ⟨b,0,none⟩) A6 w) (apd A6 1 (some ⟨b,0,none⟩) 0 0 sn cs w fun a an ac w1=>some (.slice a an ac,w1))):=kR
def Gk2:Cuts:=⟨0,[],[],[]⟩
def Hu3:List Item:=A4 Tryz.f193
theorem I28 (frames:Int) :
 xQ Gk2 C R Ek8 Tryz.f193 Hu3 [(0,iI frames)] h =
 ck ((0:Int)≤wrap .i64 (64*(mm2 false (mm2 true frames 0) 256))∧(wrap .i64 (64*(mm2 false (mm2 true frames 0) 256)):Int)≤wrap .i64 (64*(mm2 false (mm2 true frames 0) 256))∧wrap .i64 (64*(mm2 false (mm2 true frames 0) 256))≤(A7:Int)) (nw (.cells A3 false (I7 (Int.toNat (wrap .i64 (64*(mm2 false (mm2 true frames 0) 256)))) [.int .u8 0])) h fun b w=>nw (.cells Gg5 false [.slice (some ⟨b,0,none⟩) (Int.toNat (wrap .i64 (64*(mm2 false (mm2 true frames 0) 256)))) (Int.toNat (wrap .i64 (64*(mm2 false (mm2 true frames 0) 256))))]) w fun p1 w1=>some (pP p1,w1)):=kR
def Dy3:Cuts:=⟨0,[(3,[3,12,13,14])],[],[(5,⟨[0,1,2,3,4,5,6,7,8,9,10,11,12,13],[0,0,2,6,14,0,32,96,224,480,1022,2047,4095,8191],[],[]⟩)]⟩
def Et2:List Item:=A4 Tryz.f195
def B46:List Item:=stk [0,1,0,1,0,0,1,4,5] Et2
theorem Im8 (frames:Option Addr) (framesn framesc:Nat) :
 xQ Dy3 C R A45 Tryz.f195 Et2 [(0,.slice frames framesn framesc)] h =
 nw (.cells Ba0 false [.slice none 0 0]) h fun b w=>ckB (fitsOpen frames A6 w) (ck ((0:Int)≤mm2 false (framesn:Int) 4∧mm2 false (framesn:Int) 4≤(framesc:Int)) (R A45 B46 [(3,pP b),(12,.slice (H9 frames (decide (0<framesc)) (0*1)) ((Int.toNat (mm2 false (framesn:Int) 4))-0) (framesc-0)),(13,iI (((Int.toNat (mm2 false (framesn:Int) 4))-0:Nat):Int)),(14,iI 0)] w)):=kR
theorem Ev5 (q:Addr) (x12:Option Addr) (x12n x12c:Nat) :
 xQ Dy3 C R A45 Tryz.f195 B46 [(3,.pointer (some q)),(12,.slice x12 x12n x12c),(13,iI x13),(14,iI x14)] h =
 cond (decide (x14<x13))
 (aSome x12 fun p=>ck ((0:Int)≤x14∧x14<(x12n:Int)) (gInt .i64 (add (A8 p) (Int.toNat x14*1)) h fun x=>gSl (add q 0) h fun z1 xn xc=>ck ((0:Int)≤mm2 false (mm2 true x 0) 64∧(mm2 false (mm2 true x 0) 64:Int)≤mm2 false (mm2 true x 0) 64∧mm2 false (mm2 true x 0) 64≤(A7:Int)) (nw (.cells A6 false (I7 (Int.toNat (mm2 false (mm2 true x 0) 64)) [iI 0])) h fun b w=>nw (.cells Z7 false [.slice (some ⟨b,0,none⟩) (Int.toNat (mm2 false (mm2 true x 0) 64)) (Int.toNat (mm2 false (mm2 true x 0) 64))]) w fun p1 w1=>gCells (some ⟨p1,0,none⟩) (1*1) w1 fun cs=>ckB (fitsOpen z1 Z7 w1) (apd Z7 1 z1 xn xc 1 cs w1 fun a an ac w2=>pV (add q 0) (.slice a an ac) w2 fun w3=>R A45 B46 [(3,.pointer (some q)),(12,.slice x12 x12n x12c),(13,iI x13),(14,iI (wrap .i64 (x14+1)))] w3))))
 (some (.pointer (some q),h)):=kR
def Dd3:Cuts:=⟨0,[],[],[]⟩
def Eh2:List Item:=A4 Tryz.f200
theorem G36 (c:List Value) :
 xQ Dd3 C R Bn0 Tryz.f200 Eh2 [(0,.pointer s),(1,iI env),(2,.agg ⟨c⟩)] h =
 nw (.cells W1 false c) h fun b w=>bnd (C Ap1 [.pointer s,iI env] w) fun r w1=>aBool r fun x=>bnd (cond (!x) (some (true,w1)) (gInt .i64 ⟨b,1,none⟩ w1 fun z1=>some ((Bv3 .i64 z1 7) != 0,w1))) fun c_1 w2=>bnd (cond c_1 (some (true,w2)) (gInt .i64 ⟨b,2,none⟩ w2 fun z2=>bnd (C Aw3 [iI z2] w2) fun q1 w3=>aBool q1 fun z3=>some (!z3,w3))) fun c_2 w4=>bnd (cond c_2 (some (true,w4)) (gInt .i64 ⟨b,3,none⟩ w4 fun z4=>bnd (C Aw3 [iI z4] w4) fun q2 w5=>aBool q2 fun z5=>some (!z5,w5))) fun c_3 w6=>cond c_3
 (some (.tuple ⟨[iI 0,iI 1]⟩,w6))
 (pAgg ⟨b,4,none⟩ [iI 0,iI 0] w6 fun w7=>gAgg ⟨b,0,none⟩ 6 w7 fun z6=>bnd (C A55 [.pointer s,iI env,.agg ⟨z6⟩] w7) fun q3 w8=>as2 q3 fun q4 q5=>aInt .i64 q4 fun z7=>aInt .i64 q5 fun z8=>some (.tuple ⟨[iI z7,iI z8]⟩,w8)):=kR
def B23:Cuts:=⟨0,[],[],[(5,⟨[0,1,2,3,4,5,6,7,9,10,11,12,13,14,8,15,16,17,18,19,20,21],[0,0,0,4,12,28,0,64,252,0,512,1536,3584,0,8192,32764,65533,131069,262141,524287,1048575,2097151],[(8,[12])],[]⟩)]⟩
def D07:List Item:=A4 Tryz.f205
theorem Gg9 (lo:Int) :
 xQ B23 C R Bb3 Tryz.f205 D07 [(0,.pointer r),(1,iI lo),(2,iI n)] h =
 aSome r fun p=>gSl (add p 0) h fun _ xn _=>bnd (C Aq6 [iI lo,iI n,iI (xn:Int)] h) fun q1 w=>aBool q1 fun z1=>cond (!z1)
 (some (.tuple ⟨[iI 0,iI 1]⟩,w))
 (aSome r fun p_1=>gSl (add p_1 1) w fun _ xn_1 _=>cond (decide ((xn_1:Int)≥32))
 (some (.tuple ⟨[iI 0,iI 4]⟩,w))
 (aSome r fun p_2=>gSl (add p_2 1) w fun z3 xn_2 xc_2=>nw (.cells A6 false [iI lo]) w fun b w1=>aSome r fun p_3=>gSl (add p_3 2) w1 fun z4 xn_3 xc_3=>nw (.cells A6 false [iI n]) w1 fun p1 w2=>gCells (some ⟨b,0,none⟩) (1*1) w2 fun cs=>ckB (fitsOpen z3 A6 w2) (apd A6 1 z3 xn_2 xc_2 1 cs w2 fun a an ac w3=>gSl (add p_3 2) w3 fun z5 xn_4 xc_4=>same (.slice z4 xn_3 xc_3) (.slice z5 xn_4 xc_4) (gCells (some ⟨p1,0,none⟩) (1*1) w3 fun cs_1=>ckB (fitsOpen z4 A6 w3) (apd A6 1 z4 xn_3 xc_3 1 cs_1 w3 fun a_1 an_1 ac_1 w4=>aSome r fun p_4=>pV (add p_4 1) (.slice a an ac) w4 fun w5=>aSome r fun p_5=>pV (add p_5 2) (.slice a_1 an_1 ac_1) w5 fun w6=>aSome r fun p_6=>gSl (add p_6 1) w6 fun _ xn_5 _=>some (.tuple ⟨[iI (wrap .i64 ((xn_5:Int)-1)),iI 0]⟩,w6)))))):=kR
def Bl0:Cuts:=⟨0,[],[],[]⟩
def Dh0:List Item:=A4 Tryz.f211
theorem Ey1 :
 xQ Bl0 C R Ak7 Tryz.f211 Dh0 [(0,.pointer r),(1,iI env),(2,iI name),(3,iI atv),(4,iI n)] h =
 bnd (C Aj2 [.pointer r,iI env,iI name,iI 1,iI atv,iI n] h) fun q1 w=>as2 q1 fun q2 q3=>aInt .i64 q2 fun x=>aInt .i64 q3 fun z1=>cond (z1 != 0)
 (some (.tuple ⟨[.slice none 0 0,iI z1]⟩,w))
 (aSome r fun p=>gPtr (add p 0) w fun z2=>bnd (C Bl2 [.pointer z2,iI x,iI n] w) fun q4 w1=>as2 q4 fun q5 q6=>aSl q5 fun z3 xn xc=>aInt .i64 q6 fun z4=>some (.tuple ⟨[.slice z3 xn xc,iI z4]⟩,w1)):=kR
def D46:Cuts:=⟨0,[],[],[]⟩
def Gb0:List Item:=A4 Tryz.f223
theorem Hw6 :
 xQ D46 C R Aq6 Tryz.f223 Gb0 [(0,iI atv),(1,iI n),(2,iI size)] h =
 bnd (cond (decide (atv≥0)) (some (decide (n≥0),h)) (some (false,h))) fun c w=>bnd (cond c (some (decide (atv≤size),w)) (some (false,w))) fun c_1 w1=>bnd (cond c_1 (some (decide (n≤(wrap .i64 (size-atv))),w1)) (some (false,w1))) fun c_2 w2=>some (.bool c_2,w2):=kR
def Dc7:Cuts:=⟨0,[],[],[(4,⟨[0,1,2,3,4,5,6,7,8,9,10,11],[0,1,3,7,0,31,63,0,128,0,1023,2047],[],[]⟩)]⟩
def Ed9:List Item:=A4 Tryz.f224
theorem G54 (c:List Value) :
 xQ Dc7 C R Bq7 Tryz.f224 Ed9 [(0,.pointer s),(1,iI e),(2,.agg ⟨c⟩)] h =
 nw (.cells W1 false c) h fun b w=>aSome s fun p=>gSl (add p 0) w fun x xn _=>aSome x fun p_1=>ck ((0:Int)≤e∧e<(xn:Int)) (gPtr (add (A8 p_1) (Int.toNat e*1)) w fun z1=>bnd (C Af0 [.pointer z1] w) fun r w1=>as2 r fun q1 q2=>aInt .i64 q1 fun z2=>aBool q2 fun z3=>cond (!z3)
 (some (.tuple ⟨[iI 0,iI 4]⟩,w1))
 (aSome s fun p_2=>gSl (add p_2 1) w1 fun z4 xn_1 _=>aSome z4 fun p_3=>ck ((0:Int)≤e∧e<(xn_1:Int)) (gSl (add (A8 p_3) (Int.toNat e*1)) w1 fun z5 xn_2 _=>gAgg ⟨b,0,none⟩ 6 w1 fun z6=>aSome z5 fun p_4=>ck ((0:Int)≤V5 .i64 z2 255∧V5 .i64 z2 255<(xn_2:Int)) (ck (List.length z6=6) (pAgg (add (A8 p_4) (Int.toNat (V5 .i64 z2 255)*6)) z6 w1 fun w2=>some (.tuple ⟨[iI z2,iI 0]⟩,w2)))))):=kR
def B90:Cuts:=⟨0,[(3,[0,2,4,31,32,33]),(8,[0,2,4,49])],[],[(1,⟨[0,1,2,3,4,5,6,7,8,9,10,11,12,13,14,15,16,17,18],[0,1,3,7,0,16,48,112,0,256,768,1792,0,4096,12288,28672,65535,0,262143],[],[]⟩),(13,⟨[0,1,2,3,4,5,6,7,8],[0,0,2,6,6,30,62,63,255],[(5,[0])],[]⟩)]⟩
def Dy2:List Item:=A4 Tryz.f237
def Dw8:List Item:=stk [0,1,0,1,0,0,1,4,5] Dy2
def Dw0:List Item:=stk [0,1,0,1,0,1,0,0,1,4,5] Dy2
theorem Il0 :
 xQ B90 C R Af1 Tryz.f237 Dy2 [(0,.slice b bn bc)] h =
 nw (.cells A9 false zZ1) h fun p1 w=>aSome b fun p=>ck ((0:Int)≤0∧0<(bn:Int)) (gInt .u8 (add (A8 p) (Int.toNat 0*1)) w fun x=>aSome b fun p_1=>ck ((0:Int)≤1∧1<(bn:Int)) (gInt .u8 (add (A8 p_1) (Int.toNat 1*1)) w fun z1=>aSome b fun p_2=>ck ((0:Int)≤2∧2<(bn:Int)) (gInt .u8 (add (A8 p_2) (Int.toNat 2*1)) w fun z2=>aSome b fun p_3=>ck ((0:Int)≤3∧3<(bn:Int)) (gInt .u8 (add (A8 p_3) (Int.toNat 3*1)) w fun z3=>nw (.cells A9 false zZ1) w fun p2 w1=>pAgg ⟨p2,0,none⟩ [iI (wrap .i64 (x)),iI (wrap .i64 (z1)),iI (wrap .i64 (z2)),iI (wrap .i64 (z3)),iI 0,iI 0,iI 0,iI 0,iI 0,iI 0,iI 0,iI 0,iI 0,iI 0,iI 0,iI 0] w1 fun w2=>nw (.cells Ju6 false [.pointer (some ⟨p2,4,none⟩),.pointer (some ⟨p2,5,none⟩),.pointer (some ⟨p2,6,none⟩),.pointer (some ⟨p2,7,none⟩)]) w2 fun p3 w3=>R Af1 Dw8 [(0,.slice b bn bc),(2,pP p1),(4,pP p2),(31,.slice (some ⟨p3,0,none⟩) 4 4),(32,iI 4),(33,iI 0)] w3)))):=kR
theorem Bk2 (p:Addr) (x31:Option Addr) (x31n x31c:Nat) (x32:Int) (x33:Int) :
 xQ B90 C R Af1 Tryz.f237 Dw8 [(0,.slice b bn bc),(2,.pointer (some x2)),(4,.pointer (some p)),(31,.slice x31 x31n x31c),(32,iI x32),(33,iI x33)] h =
 cond (decide (x33<x32))
 (aSome x31 fun p_1=>ck ((0:Int)≤x33∧x33<(x31n:Int)) (gPtr (add (A8 p_1) (Int.toNat x33*1)) h fun x=>bnd (C Dj9 [.slice b bn bc,iI (wrap .i64 (4+(wrap .i64 (2*x33))))] h) fun r w=>as2 r fun q1 q2=>aInt .i64 q1 fun z1=>aBool q2 fun _=>aSome x fun p_2=>pV p_2 (iI z1) w fun w1=>R Af1 Dw8 [(0,.slice b bn bc),(2,.pointer (some x2)),(4,.pointer (some p)),(31,.slice x31 x31n x31c),(32,iI x32),(33,iI (wrap .i64 (x33+1)))] w1))
 (R Af1 Dw0 [(0,.slice b bn bc),(2,.pointer (some x2)),(4,.pointer (some p)),(49,iI 0)] h):=kR
theorem Af9 (p:Addr) (x49:Int) :
 xQ B90 C R Af1 Tryz.f237 Dw0 [(0,.slice b bn bc),(2,.pointer (some x2)),(4,.pointer (some p)),(49,iI x49)] h =
 cond (decide (x49<8))
 (aSome b fun p_1=>ck ((0:Int)≤wrap .i64 (12+x49)∧wrap .i64 (12+x49)<(bn:Int)) (gInt .u8 (add (A8 p_1) (Int.toNat (wrap .i64 (12+x49))*1)) h fun x=>ck ((0:Int)≤x49∧x49<((8:Nat):Int)) (pV (add (add p 8) (Int.toNat x49*1)) (iI (wrap .i64 (x))) h fun w=>R Af1 Dw0 [(0,.slice b bn bc),(2,.pointer (some x2)),(4,.pointer (some p)),(49,iI (wrap .i64 (x49+1)))] w)))
 (gAgg p 16 h fun z1=>bnd (C Bi1 [.agg ⟨z1⟩] h) fun r w1=>as2 r fun q1 q2=>aSl q1 fun z2 xn xc=>aBool q2 fun z3=>gAgg p 16 w1 fun z4=>bnd (cond z3 (bnd (C D5 [.slice z2 xn xc,.slice b bn bc] w1) fun q3 w2=>aBool q3 fun z5=>gAgg p 16 w2 fun z6=>same (.agg ⟨z4⟩) (.agg ⟨z6⟩) (some (z5,w2))) (some (false,w1))) fun c w3=>ck (List.length z4=16) (pAgg x2 z4 w3 fun w4=>gAgg x2 16 w4 fun z7=>some (.tuple ⟨[.agg ⟨z7⟩,.bool c]⟩,w4))):=kR
def Af6:Cuts:=⟨0,[(3,[1,5,9,10,11])],[],[]⟩
def At0:List Item:=A4 Tryz.f251
def Q6:List Item:=stk [0,1,0,1,0,0,1,4,5] At0
theorem Dw9 :
 xQ Af6 C R G5 Tryz.f251 At0 [(0,.agg ⟨x⟩),(1,iI kind)] h =
 nw (.cells W7 false x) h fun b w=>gSl ⟨b,1,none⟩ w fun z1 xn xc=>R G5 Q6 [(1,iI kind),(5,.slice none 0 0),(9,.slice z1 xn xc),(10,iI (xn:Int)),(11,iI 0)] w:=kR
theorem A90 :
 xQ Af6 C R G5 Tryz.f251 Q6 [(1,iI kind),(5,.slice out outn outc),(9,.slice x9 x9n x9c),(10,iI x10),(11,iI x11)] h =
 cond (decide (x11<x10))
 (aSome x9 fun p=>ck ((0:Int)≤x11∧x11<(x9n:Int)) (gInt .i64 (add (A8 p) (Int.toNat x11*1)) h fun x=>cond (x==2)
 (nw (.cells B6 false [iI kind,iI x11]) h fun b w=>gCells (some ⟨b,0,none⟩) (1*2) w fun cs=>ckB (fitsOpen out B6 w) (apd B6 2 out outn outc 1 cs w fun a an ac w1=>R G5 Q6 [(1,iI kind),(5,.slice a an ac),(9,.slice x9 x9n x9c),(10,iI x10),(11,iI (wrap .i64 (x11+1)))] w1))
 (R G5 Q6 [(1,iI kind),(5,.slice out outn outc),(9,.slice x9 x9n x9c),(10,iI x10),(11,iI (wrap .i64 (x11+1)))] h)))
 (some (.slice out outn outc,h)):=kR
def Ar9:Cuts:=⟨0,[(3,[1,5,9,10,11])],[],[]⟩
def A94:List Item:=A4 Tryz.f253
def Aa9:List Item:=stk [0,1,0,1,0,0,1,4,5] A94
theorem Ej4 :
 xQ Ar9 C R J6 Tryz.f253 A94 [(0,.agg ⟨x⟩),(1,iI kind)] h =
 nw (.cells As2 false x) h fun b w=>gSl ⟨b,1,none⟩ w fun z1 xn xc=>R J6 Aa9 [(1,iI kind),(5,.slice none 0 0),(9,.slice z1 xn xc),(10,iI (xn:Int)),(11,iI 0)] w:=kR
theorem Bs9 :
 xQ Ar9 C R J6 Tryz.f253 Aa9 [(1,iI kind),(5,.slice out outn outc),(9,.slice x9 x9n x9c),(10,iI x10),(11,iI x11)] h =
 cond (decide (x11<x10))
 (aSome x9 fun p=>ck ((0:Int)≤x11∧x11<(x9n:Int)) (gInt .i64 (add (A8 p) (Int.toNat x11*1)) h fun x=>cond (x==2)
 (nw (.cells B6 false [iI kind,iI x11]) h fun b w=>gCells (some ⟨b,0,none⟩) (1*2) w fun cs=>ckB (fitsOpen out B6 w) (apd B6 2 out outn outc 1 cs w fun a an ac w1=>R J6 Aa9 [(1,iI kind),(5,.slice a an ac),(9,.slice x9 x9n x9c),(10,iI x10),(11,iI (wrap .i64 (x11+1)))] w1))
 (R J6 Aa9 [(1,iI kind),(5,.slice out outn outc),(9,.slice x9 x9n x9c),(10,iI x10),(11,iI (wrap .i64 (x11+1)))] h)))
 (some (.slice out outn outc,h)):=kR
def Ax7:Cuts:=⟨0,[(3,[0,1,2,4,10,11,15,16])],[],[]⟩
def Bj6:List Item:=A4 Tryz.f254
def Ao6:List Item:=stk [0,1,0,1,0,0,1,4,5] Bj6
theorem Ex2 :
 xQ Ax7 C R Q3 Tryz.f254 Bj6 [(0,.slice b bn bc),(1,iI atv),(2,iI size),(3,iI n),(4,decode)] h =
 nw (.cells W8 false [.slice none 0 0,.slice none 0 0]) h fun p1 w=>nw (.cells W8 false [.slice none 0 0,.slice none 0 0]) w fun p2 w1=>R Q3 Ao6 [(0,.slice b bn bc),(1,iI atv),(2,iI size),(4,decode),(10,pP p1),(11,pP p2),(15,iI n),(16,iI 0)] w1:=kR
theorem B06 (x10:Addr) (out:Addr) :
 xQ Ax7 C R Q3 Tryz.f254 Ao6 [(0,.slice b bn bc),(1,iI atv),(2,iI size),(4,decode),(10,.pointer (some x10)),(11,.pointer (some out)),(15,iI x15),(16,iI x16)] h =
 cond (decide (x16<x15))
 (ckB (fitsOpen b A3 h) (ck ((0:Int)≤wrap .i64 (atv+(wrap .i64 (size*(wrap .i64 (x16+1)))))∧wrap .i64 (atv+(wrap .i64 (size*(wrap .i64 (x16+1)))))≤(bc:Int)) (ck ((0:Int)≤wrap .i64 (atv+(wrap .i64 (size*x16)))∧wrap .i64 (atv+(wrap .i64 (size*x16)))≤((Int.toNat (wrap .i64 (atv+(wrap .i64 (size*(wrap .i64 (x16+1)))))):Nat):Int)) (aFn decode fun g fi cp=>bnd (C g (fi++([.slice (H9 b (decide (Int.toNat (wrap .i64 (atv+(wrap .i64 (size*x16))))<bc)) ((Int.toNat (wrap .i64 (atv+(wrap .i64 (size*x16)))))*1)) ((Int.toNat (wrap .i64 (atv+(wrap .i64 (size*(wrap .i64 (x16+1)))))))-(Int.toNat (wrap .i64 (atv+(wrap .i64 (size*x16)))))) (bc-(Int.toNat (wrap .i64 (atv+(wrap .i64 (size*x16))))))]++cp)) h) fun r w=>as2 r fun q1 q2=>aAgg q1 fun x=>aInt .i64 q2 fun z1=>nw (.cells A9 false zZ1) w fun p1 w1=>ck (List.length x=16) (pAgg ⟨p1,0,none⟩ x w1 fun w2=>gSl (add out 0) w2 fun z2 xn xc=>gAgg ⟨p1,0,none⟩ 16 w2 fun z3=>ck (List.length z3=16) (nw (.cells A9 false (z3++[])) w2 fun p2 w3=>gCells (some ⟨p2,0,none⟩) (1*16) w3 fun cs=>ckB (fitsOpen z2 A9 w3) (apd A9 16 z2 xn xc 1 cs w3 fun a an ac w4=>pV (add out 0) (.slice a an ac) w4 fun w5=>gSl (add out 1) w5 fun z4 xn_1 xc_1=>nw (.cells A6 false [iI z1]) w5 fun p3 w6=>gCells (some ⟨p3,0,none⟩) (1*1) w6 fun cs_1=>ckB (fitsOpen z4 A6 w6) (apd A6 1 z4 xn_1 xc_1 1 cs_1 w6 fun a_1 an_1 ac_1 w7=>pV (add out 1) (.slice a_1 an_1 ac_1) w7 fun w8=>R Q3 Ao6 [(0,.slice b bn bc),(1,iI atv),(2,iI size),(4,decode),(10,.pointer (some x10)),(11,.pointer (some out)),(15,iI x15),(16,iI (wrap .i64 (x16+1)))] w8))))))))
 (gAgg out 2 h fun z5=>ck (List.length z5=2) (pAgg x10 z5 h fun w9=>gAgg x10 2 w9 fun z6=>some (.agg ⟨z6⟩,w9))):=kR
def Bq0:Cuts:=⟨0,[(3,[0,1,2,4,10,11,15,16])],[],[]⟩
def De0:List Item:=A4 Tryz.f257
def A80:List Item:=stk [0,1,0,1,0,0,1,4,5] De0
theorem G34 :
 xQ Bq0 C R Ae5 Tryz.f257 De0 [(0,.slice b bn bc),(1,iI atv),(2,iI size),(3,iI n),(4,decode)] h =
 nw (.cells As2 false [.slice none 0 0,.slice none 0 0]) h fun p1 w=>nw (.cells As2 false [.slice none 0 0,.slice none 0 0]) w fun p2 w1=>R Ae5 A80 [(0,.slice b bn bc),(1,iI atv),(2,iI size),(4,decode),(10,pP p1),(11,pP p2),(15,iI n),(16,iI 0)] w1:=kR
theorem Ds2 (x10:Addr) (out:Addr) :
 xQ Bq0 C R Ae5 Tryz.f257 A80 [(0,.slice b bn bc),(1,iI atv),(2,iI size),(4,decode),(10,.pointer (some x10)),(11,.pointer (some out)),(15,iI x15),(16,iI x16)] h =
 cond (decide (x16<x15))
 (ckB (fitsOpen b A3 h) (ck ((0:Int)≤wrap .i64 (atv+(wrap .i64 (size*(wrap .i64 (x16+1)))))∧wrap .i64 (atv+(wrap .i64 (size*(wrap .i64 (x16+1)))))≤(bc:Int)) (ck ((0:Int)≤wrap .i64 (atv+(wrap .i64 (size*x16)))∧wrap .i64 (atv+(wrap .i64 (size*x16)))≤((Int.toNat (wrap .i64 (atv+(wrap .i64 (size*(wrap .i64 (x16+1)))))):Nat):Int)) (aFn decode fun g fi cp=>bnd (C g (fi++([.slice (H9 b (decide (Int.toNat (wrap .i64 (atv+(wrap .i64 (size*x16))))<bc)) ((Int.toNat (wrap .i64 (atv+(wrap .i64 (size*x16)))))*1)) ((Int.toNat (wrap .i64 (atv+(wrap .i64 (size*(wrap .i64 (x16+1)))))))-(Int.toNat (wrap .i64 (atv+(wrap .i64 (size*x16)))))) (bc-(Int.toNat (wrap .i64 (atv+(wrap .i64 (size*x16))))))]++cp)) h) fun r w=>as2 r fun q1 q2=>aInt .i64 q1 fun x=>aInt .i64 q2 fun z1=>gSl (add out 0) w fun z2 xn xc=>nw (.cells A6 false [iI x]) w fun p1 w1=>gCells (some ⟨p1,0,none⟩) (1*1) w1 fun cs=>ckB (fitsOpen z2 A6 w1) (apd A6 1 z2 xn xc 1 cs w1 fun a an ac w2=>pV (add out 0) (.slice a an ac) w2 fun w3=>gSl (add out 1) w3 fun z3 xn_1 xc_1=>nw (.cells A6 false [iI z1]) w3 fun p2 w4=>gCells (some ⟨p2,0,none⟩) (1*1) w4 fun cs_1=>ckB (fitsOpen z3 A6 w4) (apd A6 1 z3 xn_1 xc_1 1 cs_1 w4 fun a_1 an_1 ac_1 w5=>pV (add out 1) (.slice a_1 an_1 ac_1) w5 fun w6=>R Ae5 A80 [(0,.slice b bn bc),(1,iI atv),(2,iI size),(4,decode),(10,.pointer (some x10)),(11,.pointer (some out)),(15,iI x15),(16,iI (wrap .i64 (x16+1)))] w6))))))
 (gAgg out 2 h fun z4=>ck (List.length z4=2) (pAgg x10 z4 h fun w7=>gAgg x10 2 w7 fun z5=>some (.agg ⟨z5⟩,w7))):=kR
def D28:Cuts:=⟨0,[],[],[]⟩
def Ga2:List Item:=A4 Tryz.f269
theorem Hx7 :
 xQ D28 C R Bs1 Tryz.f269 Ga2 [] h =
 bnd (C A13 [iI 8,.func (.func A42) ⟨[]⟩ ⟨[]⟩,.func (.func A37) ⟨[]⟩ ⟨[]⟩] h) fun r w=>aPtr r fun x=>some (.pointer x,w):=kR
def Ar2:Cuts:=⟨0,[],[],[(4,⟨[0,1,2,3,4,10,5,6,7,8,9,11,12],[0,1,3,7,0,16,63,127,255,255,0,1535,4095],[(5,[3])],[]⟩)]⟩
def Bg2:List Item:=A4 Tryz.f272
theorem Dq4 :
 xQ Ar2 C R Ad9 Tryz.f272 Bg2 [(0,.pointer c),(1,.slice b bn bc)] h =
 nw (.cells D7 false zZ4) h fun p1 w=>nw (.cells D7 false zZ4) w fun p2 w1=>aSome c fun p=>gFv (add p 2) w1 fun x=>isNilF x fun p3=>bnd (cond p3 (some (true,w1)) (aSome c fun p_1=>gInt .i64 (add p_1 0) w1 fun z1=>some ((bn:Int) != z1,w1))) fun c_1 w2=>cond c_1
 (gAgg ⟨p2,0,none⟩ 36 w2 fun z2=>ck (List.length z2=36) (pAgg ⟨p1,0,none⟩ z2 w2 fun w3=>gAgg ⟨p1,0,none⟩ 36 w3 fun z3=>some (.tuple ⟨[.agg ⟨z3⟩,.bool false]⟩,w3)))
 (aSome c fun p_2=>gFv (add p_2 2) w2 fun z4=>nw (.cells D7 false zZ4) w2 fun p4 w4=>bnd (C H7 [.slice b bn bc] w4) fun r w5=>aSl r fun z5 xn xc=>gFv (add p_2 2) w5 fun z6=>B50 (z4) (z6) (aFn z4 fun g fi cp=>bnd (C g (fi++([.slice z5 xn xc]++cp)) w5) fun q1 w6=>as2 q1 fun q2 q3=>aAgg q2 fun z7=>aBool q3 fun z8=>ck (List.length z7=36) (pAgg ⟨p4,0,none⟩ z7 w6 fun w7=>cond (!z8)
 (gAgg ⟨p2,0,none⟩ 36 w7 fun z9=>ck (List.length z9=36) (pAgg ⟨p1,0,none⟩ z9 w7 fun w8=>gAgg ⟨p1,0,none⟩ 36 w8 fun z10=>some (.tuple ⟨[.agg ⟨z10⟩,.bool false]⟩,w8)))
 (gAgg ⟨p4,0,none⟩ 36 w7 fun z11=>ck (List.length z11=36) (pAgg ⟨p1,0,none⟩ z11 w7 fun w9=>gAgg ⟨p1,0,none⟩ 36 w9 fun z12=>some (.tuple ⟨[.agg ⟨z12⟩,.bool true]⟩,w9)))))):=kR
def Ar0:Cuts:=⟨0,[],[],[(2,⟨[0,1,2,3,4,5,6,7,8,9,10,11,12,13,14],[0,1,3,7,15,31,63,127,255,511,63,63,4095,8191,16383],[],[]⟩)]⟩
def Bg4:List Item:=A4 Tryz.f273
theorem Dq6 (v:List Value) :
 xQ Ar0 C R Ad5 Tryz.f273 Bg4 [(0,.pointer c),(1,.agg ⟨v⟩)] h =
 nw (.cells D7 false v) h fun b w=>aSome c fun p=>gInt .i64 (add p 0) w fun x=>ck ((0:Int)≤x∧(x:Int)≤x∧x≤(A7:Int)) (nw (.cells A3 false (I7 (Int.toNat x) [.int .u8 0])) w fun p1 w1=>aSome c fun p_1=>gFv (add p_1 1) w1 fun z1=>isNilF z1 fun p2=>bnd (cond p2 (some (true,w1)) (aSome c fun p_2=>gFv (add p_2 1) w1 fun z2=>gAgg ⟨b,0,none⟩ 36 w1 fun z3=>aFn z2 fun g fi cp=>bnd (C g (fi++([.agg ⟨z3⟩,.slice (some ⟨p1,0,none⟩) (Int.toNat x) (Int.toNat x)]++cp)) w1) fun r w2=>aBool r fun z4=>some (!z4,w2))) fun c_1 w3=>cond c_1
 (some (.tuple ⟨[.slice none 0 0,.bool false]⟩,w3))
 (some (.tuple ⟨[.slice (some ⟨p1,0,none⟩) (Int.toNat x) (Int.toNat x),.bool true]⟩,w3))):=kR
def Bn8:Cuts:=⟨0,[],[],[]⟩
def Do7:List Item:=A4 Tryz.f283
theorem E21 :
 xQ Bn8 C R A30 Tryz.f283 Do7 [(0,iI g)] h =
 bnd (cond (decide (g<0)) (some (true,h)) (some (decide (g≥8),h))) fun c w=>cond c
 (some (.tuple ⟨[.slice none 0 0,.bool false]⟩,w))
 (nw (.cells A3 false [.int .u8 (wrap .u8 (g)),.int .u8 211]) w fun b w1=>bnd (C Ai9 [.slice (some ⟨b,0,none⟩) 2 2] w1) fun r w2=>aInt .u8 r fun x=>nw (.cells A3 false [.int .u8 x,.int .u8 0]) w2 fun p1 w3=>gCells (some ⟨p1,0,none⟩) (2*1) w3 fun cs=>ckB (fitsOpen (some ⟨b,0,none⟩) A3 w3) (apd A3 1 (some ⟨b,0,none⟩) 2 2 2 cs w3 fun a an ac w4=>some (.tuple ⟨[.slice a an ac,.bool true]⟩,w4))):=kR
def Dx2:Cuts:=⟨0,[],[],[]⟩
def Ey2:List Item:=A4 Tryz.f285
theorem Hk1 (s:Int) :
 xQ Dx2 C R I2 Tryz.f285 Ey2 [(0,iI s),(1,.pointer (some fv0))] h =
 bnd (cond (decide (s<0)) (some (true,h)) (gSl (add fv0 0) h fun _ xn _=>some (decide (s≥(xn:Int)),h))) fun c w=>some (.bool c,w):=kR
def A76:Cuts:=⟨0,[(3,[3,15,16])],[],[]⟩
def Bu9:List Item:=A4 Tryz.f287
def Av1:List Item:=stk [0,1,0,1,0,0,1,4,5] Bu9
theorem Gc5 :
 xQ A76 C R W0 Tryz.f287 Bu9 [(0,iI size)] h =
 ck ((0:Int)≤mm2 false (mm2 true size 0) 256∧(mm2 false (mm2 true size 0) 256:Int)≤mm2 false (mm2 true size 0) 256∧mm2 false (mm2 true size 0) 256≤(A7:Int)) (nw (.cells Ay1 false (I7 (Int.toNat (mm2 false (mm2 true size 0) 256)) [iI 0,iI 0,iI 0,iI 0,iI 0,iI 0,iI 0,.bool false])) h fun b w=>nw (.cells Dh4 false [.slice (some ⟨b,0,none⟩) (Int.toNat (mm2 false (mm2 true size 0) 256)) (Int.toNat (mm2 false (mm2 true size 0) 256))]) w fun p1 w1=>gSl ⟨p1,0,none⟩ w1 fun _ xn _=>R W0 Av1 [(3,pP p1),(15,iI (xn:Int)),(16,iI 0)] w1):=kR
theorem Da2 (t:Addr) :
 xQ A76 C R W0 Tryz.f287 Av1 [(3,.pointer (some t)),(15,iI x15),(16,iI x16)] h =
 cond (decide (x16<x15))
 (gSl (add t 0) h fun x xn _=>aSome x fun p=>ck ((0:Int)≤x16∧x16<(xn:Int)) (pV (add (add (A8 p) (Int.toNat x16*8)) 6) (iI 1) h fun w=>R W0 Av1 [(3,.pointer (some t)),(15,iI x15),(16,iI (wrap .i64 (x16+1)))] w))
 (some (.pointer (some t),h)):=kR
def Dt7:Cuts:=⟨0,[],[],[]⟩
def Eu1:List Item:=A4 Tryz.f288
theorem Hk2 :
 xQ Dt7 C R Bl3 Tryz.f288 Eu1 [(0,.pointer m)] h =
 aSome m fun p=>gSl (add p 0) h fun _ xn _=>some (iI (xn:Int),h):=kR
def B25:Cuts:=⟨0,[],[],[]⟩
def D18:List Item:=A4 Tryz.f301
theorem Go0 (s:Int) :
 xQ B25 C R Bb4 Tryz.f301 D18 [(0,.pointer q),(1,iI s),(2,iI k)] h =
 bnd (C At6 [.pointer q,iI s] h) fun r w=>aBool r fun x=>bnd (cond x (some (decide (k≥0),w)) (some (false,w))) fun c w1=>bnd (cond c (aSome q fun p=>gSl (add p 0) w1 fun z1 xn _=>aSome z1 fun p_1=>ck ((0:Int)≤s∧s<(xn:Int)) (gSl (add (A8 p_1) (Int.toNat s*1)) w1 fun _ xn_1 _=>some (decide (k<(xn_1:Int)),w1))) (some (false,w1))) fun c_1 w2=>bnd (cond c_1 (aSome q fun p_2=>gSl (add p_2 0) w2 fun z3 xn_2 _=>aSome z3 fun p_3=>ck ((0:Int)≤s∧s<(xn_2:Int)) (gSl (add (A8 p_3) (Int.toNat s*1)) w2 fun z4 xn_3 _=>aSome z4 fun p_4=>ck ((0:Int)≤k∧k<(xn_3:Int)) (gInt .i64 (add (A8 p_4) (Int.toNat k*1)) w2 fun z5=>some (decide (z5>0),w2)))) (some (false,w2))) fun c_2 w3=>some (.bool c_2,w3):=kR
def Ac0:Cuts:=⟨0,[(18,[0,1,2])],[(10,[0,1,2]),(11,[0,1,2]),(14,[0,1,2]),(17,[])],[(11,⟨[0,1,2,3,4,5,6,7,8,9,10,11,12,13,14,15,16],[0,1,3,7,15,31,31,95,223,479,1023,31,2079,6175,14367,32767,65535],[],[]⟩),(18,⟨[0,1,2,3,4,5,6,7,8,9,10,11,12,13,14,15,16,17,18,19,20],[0,1,3,7,15,31,0,127,255,511,511,1535,3583,7679,16383,511,33279,98815,229887,524287,1048575],[],[]⟩)]⟩
def Ah0:List Item:=A4 Tryz.f303
def A09:List Item:=stk [0,1,0,1,0,1,0,1,0,1,0,0,1,2,0,1] Ah0
def A22:List Item:=stk [0,1,0,1,0,1,0,1,0,1,0,1,0,0] Ah0
def A23:List Item:=stk [0,1,0,1,0,1,0,1,0,1,0,1,0,1,0,0] Ah0
def A11:List Item:=stk [0,1,0,1,0,1,0,1,0,1,0,1,0,1,0,0,1,2,0,1,0] Ah0
def Ao4:List Item:=stk [0,1,0,1,0,1,0,1,0,1,0,1,0,1,0,1,0,4,5] Ah0
theorem Gu0 :
 xQ Ac0 C R D1 Tryz.f303 Ah0 [(0,.pointer s),(1,iI who),(2,iI now)] h =
 aSome s fun p=>gInt .i64 (add p 7) h fun x=>bnd (cond (decide (who<0)) (some (true,h)) (some (decide (who>99),h))) fun c w=>cond c
 (some (.tuple ⟨[iI 0,.bool false]⟩,w))
 (aSome s fun p_1=>pV (add p_1 7) (iI (mm2 true now x)) w fun w1=>aSome s fun p_2=>gBool (add p_2 1) w1 fun z1=>bnd (cond z1 (aSome s fun p_3=>gInt .i64 (add p_3 2) w1 fun z2=>some (z2==who,w1)) (some (false,w1))) fun c_1 w2=>cond c_1
 (aSome s fun p_4=>gInt .i64 (add p_4 3) w2 fun z3=>some (.tuple ⟨[iI z3,.bool true]⟩,w2))
 (aSome s fun p_5=>gSl (add p_5 5) w2 fun z4 xn xc=>bnd (C M7 [.slice z4 xn xc,iI who] w2) fun r w3=>aBool r fun z5=>cond (!z5)
 (aSome s fun p_6=>gSl (add p_6 5) w3 fun _ xn_1 _=>cond ((xn_1:Int)==0)
 (aSome s fun p_7=>pV (add p_7 6) (iI (mm2 true now x)) w3 fun w4=>R D1 A09 [(0,.pointer s),(1,iI who),(2,iI (mm2 true now x))] w4)
 (R D1 A09 [(0,.pointer s),(1,iI who),(2,iI (mm2 true now x))] w3))
 (R D1 A22 [(0,.pointer s),(1,iI who),(2,iI (mm2 true now x))] w3))):=kR
theorem E13 :
 xQ Ac0 C R D1 Tryz.f303 A09 [(0,.pointer s),(1,iI who),(2,iI now)] h =
 aSome s fun p=>gSl (add p 5) h fun x xn xc=>nw (.cells A6 false [iI who]) h fun b w=>gCells (some ⟨b,0,none⟩) (1*1) w fun cs=>ckB (fitsOpen x A6 w) (apd A6 1 x xn xc 1 cs w fun a an ac w1=>aSome s fun p_1=>pV (add p_1 5) (.slice a an ac) w1 fun w2=>R D1 A22 [(0,.pointer s),(1,iI who),(2,iI now)] w2):=kR
theorem E55 :
 xQ Ac0 C R D1 Tryz.f303 A22 [(0,.pointer s),(1,iI who),(2,iI now)] h =
 aSome s fun p=>gBool (add p 1) h fun x=>bnd (cond x (aSome s fun p_1=>gInt .i64 (add p_1 4) h fun z1=>aSome s fun p_2=>gInt .i64 (add p_2 0) h fun z2=>some (decide ((wrap .i64 (now-z1))≥z2),h)) (some (false,h))) fun c w=>cond c
 (aSome s fun p_3=>pV (add p_3 1) (.bool false) w fun w1=>aSome s fun p_4=>pV (add p_4 6) (iI now) w1 fun w2=>R D1 A23 [(0,.pointer s),(1,iI who),(2,iI now)] w2)
 (R D1 A23 [(0,.pointer s),(1,iI who),(2,iI now)] w):=kR
theorem E10 :
 xQ Ac0 C R D1 Tryz.f303 A23 [(0,.pointer s),(1,iI who),(2,iI now)] h =
 aSome s fun p=>gBool (add p 1) h fun x=>cond x
 (aSome s fun p_1=>gSl (add p_1 5) h fun z1 xn _=>aSome z1 fun p_2=>ck ((0:Int)≤0∧0<(xn:Int)) (gInt .i64 (add (A8 p_2) (Int.toNat 0*1)) h fun z2=>cond (z2==who)
 (aSome s fun p_3=>pV (add p_3 6) (iI now) h fun w=>R D1 A11 [] w)
 (R D1 A11 [] h)))
 (R D1 Ao4 [(0,.pointer s),(1,iI who),(2,iI now)] h):=kR
theorem E80 :
 xQ Ac0 C R D1 Tryz.f303 A11 [] h =
 some (.tuple ⟨[iI 0,.bool false]⟩,h):=kR
theorem Dp2 :
 xQ Ac0 C R D1 Tryz.f303 Ao4 [(0,.pointer s),(1,iI who),(2,iI now)] h =
 aSome s fun p=>gSl (add p 5) h fun x xn _=>aSome x fun p_1=>ck ((0:Int)≤0∧0<(xn:Int)) (gInt .i64 (add (A8 p_1) (Int.toNat 0*1)) h fun z1=>bnd (cond (z1 != who) (aSome s fun p_2=>gInt .i64 (add p_2 6) h fun z2=>aSome s fun p_3=>gInt .i64 (add p_3 0) h fun z3=>some (decide ((wrap .i64 (now-z2))≥z3),h)) (some (false,h))) fun c w=>cond c
 (aSome s fun p_4=>gSl (add p_4 5) w fun z4 xn_1 xc_1=>ckB (fitsOpen z4 A6 w) (ck ((0:Int)≤1∧1≤(xn_1:Int)) (aSome s fun p_5=>pV (add p_5 5) (.slice (H9 z4 (decide (Int.toNat 1<xc_1)) ((Int.toNat 1)*1)) (xn_1-(Int.toNat 1)) (xc_1-(Int.toNat 1))) w fun w1=>aSome s fun p_6=>pV (add p_6 6) (iI now) w1 fun w2=>R D1 Ao4 [(0,.pointer s),(1,iI who),(2,iI now)] w2)))
 (aSome s fun p_7=>gSl (add p_7 5) w fun z5 xn_2 _=>aSome z5 fun p_8=>ck ((0:Int)≤0∧0<(xn_2:Int)) (gInt .i64 (add (A8 p_8) (Int.toNat 0*1)) w fun z6=>cond (z6 != who)
 (some (.tuple ⟨[iI 0,.bool false]⟩,w))
 (aSome s fun p_9=>gSl (add p_9 5) w fun z7 xn_3 xc_3=>ckB (fitsOpen z7 A6 w) (ck ((0:Int)≤1∧1≤(xn_3:Int)) (aSome s fun p_10=>pV (add p_10 5) (.slice (H9 z7 (decide (Int.toNat 1<xc_3)) ((Int.toNat 1)*1)) (xn_3-(Int.toNat 1)) (xc_3-(Int.toNat 1))) w fun w3=>aSome s fun p_11=>pV (add p_11 6) (iI now) w3 fun w4=>aSome s fun p_12=>gInt .i64 (add p_12 8) w4 fun z8=>aSome s fun p_13=>pV (add p_13 8) (iI (wrap .i64 (z8+1))) w4 fun w5=>aSome s fun p_14=>gInt .i64 (add p_14 8) w5 fun z9=>aSome s fun p_15=>pV (add p_15 1) (.bool true) w5 fun w6=>aSome s fun p_16=>pV (add p_16 2) (iI who) w6 fun w7=>aSome s fun p_17=>pV (add p_17 3) (iI z9) w7 fun w8=>aSome s fun p_18=>pV (add p_18 4) (iI now) w8 fun w9=>aSome s fun p_19=>gInt .i64 (add p_19 3) w9 fun z10=>some (.tuple ⟨[iI z10,.bool true]⟩,w9))))))):=kR
def E49:Cuts:=⟨0,[],[],[]⟩
def G98:List Item:=A4 Tryz.f310
theorem Iv9 :
 xQ E49 C R D99 Tryz.f310 G98 [(0,.agg ⟨p⟩)] h =
 nw (.cells A9 false p) h fun b w=>gInt .i64 ⟨b,0,none⟩ w fun x=>bnd (cond (decide (x<1)) (some (true,w)) (gInt .i64 ⟨b,0,none⟩ w fun z1=>some (decide (z1>3),w))) fun c w1=>bnd (cond c (some (true,w1)) (gInt .i64 ⟨b,1,none⟩ w1 fun z2=>some (decide (z2<0),w1))) fun c_1 w2=>bnd (cond c_1 (some (true,w2)) (gInt .i64 ⟨b,1,none⟩ w2 fun z3=>some (decide (z3>8),w2))) fun c_2 w3=>bnd (cond c_2 (some (true,w3)) (gInt .i64 ⟨b,2,none⟩ w3 fun z4=>some (decide (z4<0),w3))) fun c_3 w4=>bnd (cond c_3 (some (true,w4)) (gInt .i64 ⟨b,2,none⟩ w4 fun z5=>some (decide (z5≥8),w4))) fun c_4 w5=>bnd (cond c_4 (some (true,w5)) (gInt .i64 ⟨b,3,none⟩ w5 fun z6=>some (decide (z6<0),w5))) fun c_5 w6=>bnd (cond c_5 (some (true,w6)) (gInt .i64 ⟨b,3,none⟩ w6 fun z7=>some (decide (z7>255),w6))) fun c_6 w7=>cond c_6
 (some (.bool false,w7))
 (gInt .i64 ⟨b,4,none⟩ w7 fun z8=>bnd (C Aw0 [iI z8,iI 0] w7) fun r w8=>aBool r fun z9=>bnd (cond (!z9) (some (true,w8)) (gInt .i64 ⟨b,5,none⟩ w8 fun z10=>bnd (C Aw0 [iI z10,iI 16896] w8) fun q1 w9=>aBool q1 fun z11=>some (!z11,w9))) fun c_7 w10=>bnd (cond c_7 (some (true,w10)) (gInt .i64 ⟨b,6,none⟩ w10 fun z12=>bnd (C Aw0 [iI z12,iI 16896] w10) fun q2 w11=>aBool q2 fun z13=>some (!z13,w11))) fun c_8 w12=>bnd (cond c_8 (some (true,w12)) (gInt .i64 ⟨b,7,none⟩ w12 fun z14=>bnd (C Aw0 [iI z14,iI 16896] w12) fun q3 w13=>aBool q3 fun z15=>some (!z15,w13))) fun c_9 w14=>bnd (cond c_9 (some (true,w14)) (gInt .i64 ⟨b,6,none⟩ w14 fun z16=>gInt .i64 ⟨b,7,none⟩ w14 fun z17=>some ((V5 .i64 z16 z17) != 0,w14))) fun c_10 w15=>cond c_10
 (some (.bool false,w15))
 (ckB (liveA ⟨b,8,none⟩ w15) (bnd (C E2 [.slice (H9 (some ⟨b,8,none⟩) (decide (0<8)) (0*1)) (8-0) (8-0),.func (.func By3) ⟨[]⟩ ⟨[]⟩] w15) fun q4 w16=>aBool q4 fun z18=>cond z18
 (some (.bool false,w16))
 (gInt .i64 ⟨b,0,none⟩ w16 fun z19=>cond (z19==2)
 (gInt .i64 ⟨b,4,none⟩ w16 fun z20=>bnd (cond (z20==0) (gAgg ⟨b,8,none⟩ 8 w16 fun z21=>B54 PR Hl1 z21 [iI 0,iI 0,iI 0,iI 0,iI 0,iI 0,iI 0,iI 0] fun eq=>some (eq,w16)) (some (false,w16))) fun c_11 w17=>some (.bool c_11,w17))
 (gInt .i64 ⟨b,3,none⟩ w16 fun z22=>some (.bool (z22==0),w16)))))):=kR
def Ee0:Cuts:=⟨0,[],[],[]⟩
def Gn6:List Item:=A4 Tryz.f311
theorem Ia5 :
 xQ Ee0 C R B27 Tryz.f311 Gn6 [(0,.slice b bn bc),(1,iI atv),(2,iI n)] h =
 bnd (cond (decide (atv<0)) (some (true,h)) (some (decide (atv>(wrap .i64 ((bn:Int)-2))),h))) fun c w=>bnd (cond c (some (true,w)) (some (decide (n<0),w))) fun c_1 w1=>bnd (cond c_1 (some (true,w1)) (some (decide (n>65535),w1))) fun c_2 w2=>cond c_2
 (some (.bool false,w2))
 (aSome b fun p=>ck ((0:Int)≤atv∧atv<(bn:Int)) (pV (add (A8 p) (Int.toNat atv*1)) (.int .u8 (wrap .u8 (Int.fdiv n (2 ^ 8)))) w2 fun w3=>aSome b fun p_1=>ck ((0:Int)≤wrap .i64 (atv+1)∧wrap .i64 (atv+1)<(bn:Int)) (pV (add (A8 p_1) (Int.toNat (wrap .i64 (atv+1))*1)) (.int .u8 (wrap .u8 (n))) w3 fun w4=>some (.bool true,w4)))):=kR
def Bn6:Cuts:=⟨0,[],[],[]⟩
def Dl0:List Item:=A4 Tryz.f323
theorem E18 (put:Value) (get:Value) :
 xQ Bn6 C R A13 Tryz.f323 Dl0 [(0,iI size),(1,put),(2,get)] h =
 one put (one get (nw (.cells Av4 false [iI (mm2 false (mm2 true size 0) 64),put,get]) h fun b w=>some (pP b,w))):=kR
def E09:Cuts:=⟨0,[],[],[(1,⟨[0,1,2,3,4,5,6,7,8,9,10,11,12,13,14,15,16,17,18],[0,1,3,7,0,16,48,112,0,256,768,1792,0,4096,12288,28672,65535,0,262143],[],[]⟩),(2,⟨[0,1,2,3,4],[0,1,0,4,15],[],[]⟩),(4,⟨[0,1,2,3,4,5,6,7,8],[0,0,2,6,6,30,62,63,255],[(5,[0])],[]⟩)]⟩
def He7:List Item:=A4 Tryz.f328
theorem It7 :
 xQ E09 C R B53 Tryz.f328 He7 [(0,.slice b bn bc)] h =
 nw (.cells D7 false zZ4) h fun p1 w=>aSome b fun p=>ck ((0:Int)≤1∧1<(bn:Int)) (gInt .u8 (add (A8 p) (Int.toNat 1*1)) w fun x=>aSome b fun p_1=>ck ((0:Int)≤2∧2<(bn:Int)) (gInt .u8 (add (A8 p_1) (Int.toNat 2*1)) w fun z1=>aSome b fun p_2=>ck ((0:Int)≤3∧3<(bn:Int)) (gInt .u8 (add (A8 p_2) (Int.toNat 3*1)) w fun z2=>aSome b fun p_3=>ck ((0:Int)≤4∧4<(bn:Int)) (gInt .u8 (add (A8 p_3) (Int.toNat 4*1)) w fun z3=>nw (.cells D7 false zZ4) w fun p2 w1=>pAgg ⟨p2,0,none⟩ [iI (wrap .i64 (x)),iI (wrap .i64 (z1)),iI (wrap .i64 (z2)),iI (wrap .i64 (z3)),.int .u8 0,.int .u8 0,.int .u8 0,.int .u8 0,.int .u8 0,.int .u8 0,.int .u8 0,.int .u8 0,.int .u8 0,.int .u8 0,.int .u8 0,.int .u8 0,.int .u8 0,.int .u8 0,.int .u8 0,.int .u8 0,.int .u8 0,.int .u8 0,.int .u8 0,.int .u8 0,.int .u8 0,.int .u8 0,.int .u8 0,.int .u8 0,.int .u8 0,.int .u8 0,.int .u8 0,.int .u8 0,.int .u8 0,.int .u8 0,.int .u8 0,.int .u8 0] w1 fun w2=>ckB (liveA ⟨p2,4,none⟩ w2) (ckB (fitsOpen b A3 w2) (ck ((0:Int)≤8∧8≤(bn:Int)) (gCells (H9 b (decide (Int.toNat 8<bc)) ((Int.toNat 8)*1)) (min (bn-(Int.toNat 8)) (32-0)*1) w2 fun cs=>pCells (H9 (some ⟨p2,4,none⟩) (decide (0<32)) (0*1)) cs w2 fun w3=>gAgg ⟨p2,0,none⟩ 36 w3 fun z4=>bnd (C Br8 [.agg ⟨z4⟩] w3) fun r w4=>as2 r fun q1 q2=>aSl q1 fun z5 xn xc=>aBool q2 fun z6=>gAgg ⟨p2,0,none⟩ 36 w4 fun z7=>bnd (cond z6 (bnd (C D5 [.slice z5 xn xc,.slice b bn bc] w4) fun q3 w5=>aBool q3 fun z8=>gAgg ⟨p2,0,none⟩ 36 w5 fun z9=>same (.agg ⟨z7⟩) (.agg ⟨z9⟩) (some (z8,w5))) (some (false,w4))) fun c w6=>ck (List.length z7=36) (pAgg ⟨p1,0,none⟩ z7 w6 fun w7=>gAgg ⟨p1,0,none⟩ 36 w7 fun z10=>some (.tuple ⟨[.agg ⟨z10⟩,.bool c]⟩,w7))))))))):=kR
def A59:Cuts:=⟨0,[],[],[]⟩
def B10:List Item:=A4 Tryz.f336
theorem Eb9 (t:Option Addr) :
 xQ A59 C R Ap5 Tryz.f336 B10 [(0,.pointer t),(1,iI name)] h =
 bnd (cond (decide (name<0)) (some (true,h)) (aSome t fun p=>gSl (add p 0) h fun _ xn _=>some (decide ((V5 .i64 name 255)≥(xn:Int)),h))) fun c w=>bnd (cond c (some (true,w)) (aSome t fun p_1=>gSl (add p_1 0) w fun z1 xn_1 _=>aSome z1 fun p_2=>ck ((0:Int)≤V5 .i64 name 255∧V5 .i64 name 255<(xn_1:Int)) (gBool (add (add (A8 p_2) (Int.toNat (V5 .i64 name 255)*8)) 7) w fun z2=>some (!z2,w)))) fun c_1 w1=>bnd (cond c_1 (some (true,w1)) (bnd (C S5 [.pointer t,iI (V5 .i64 name 255)] w1) fun r w2=>aInt .i64 r fun z3=>some (z3 != name,w2))) fun c_2 w3=>cond c_2
 (some (.pointer none,w3))
 (aSome t fun p_3=>gSl (add p_3 0) w3 fun z4 xn_2 _=>aSome z4 fun p_4=>ck ((0:Int)≤V5 .i64 name 255∧V5 .i64 name 255<(xn_2:Int)) (some (.pointer (some (add (A8 p_4) (Int.toNat (V5 .i64 name 255)*8))),w3))):=kR
def B61:Cuts:=⟨0,[],[],[]⟩
def D53:List Item:=A4 Tryz.f337
theorem Gv2 (stamp:Int) :
 xQ B61 C R Bh1 Tryz.f337 D53 [(0,.pointer s),(1,iI who),(2,iI stamp)] h =
 aSome s fun p=>gBool (add p 1) h fun x=>bnd (cond x (aSome s fun p_1=>gInt .i64 (add p_1 2) h fun z1=>some (z1==who,h)) (some (false,h))) fun c w=>bnd (cond c (aSome s fun p_2=>gInt .i64 (add p_2 3) w fun z2=>some (z2==stamp,w)) (some (false,w))) fun c_1 w1=>some (.bool c_1,w1):=kR
def Eh5:Cuts:=⟨0,[],[],[]⟩
def Go3:List Item:=A4 Tryz.f338
theorem H78 (without:Int) :
 xQ Eh5 C R Aw0 Tryz.f338 Go3 [(0,iI n),(1,iI without)] h =
 bnd (cond ((Bv3 .i64 n 65534)==0) (some ((V5 .i64 n without)==0,h)) (some (false,h))) fun c w=>some (.bool c,w):=kR
def E66:Cuts:=⟨0,[],[],[]⟩
def Hh3:List Item:=A4 Tryz.f340
theorem Iy1 :
 xQ E66 C R D95 Tryz.f340 Hh3 [(0,.agg ⟨f⟩)] h =
 nw (.cells B7 false f) h fun b w=>gInt .i64 ⟨b,0,none⟩ w fun x=>bnd (cond (decide (x≥1)) (gInt .i64 ⟨b,0,none⟩ w fun z1=>some (decide (z1≤3),w)) (some (false,w))) fun c w1=>bnd (cond c (gInt .i64 ⟨b,1,none⟩ w1 fun z2=>some (decide (z2≥0),w1)) (some (false,w1))) fun c_1 w2=>bnd (cond c_1 (gInt .i64 ⟨b,1,none⟩ w2 fun z3=>some (decide (z3≤7),w2)) (some (false,w2))) fun c_2 w3=>bnd (cond c_2 (gInt .i64 ⟨b,0,none⟩ w3 fun z4=>bnd (cond (z4 != 3) (some (true,w3)) (gInt .i64 ⟨b,1,none⟩ w3 fun z5=>some (z5==0,w3))) fun c_3 w4=>some (c_3,w4)) (some (false,w3))) fun c_4 w5=>bnd (cond c_4 (gInt .i64 ⟨b,2,none⟩ w5 fun z6=>some (decide (z6≥1),w5)) (some (false,w5))) fun c_5 w6=>bnd (cond c_5 (gInt .i64 ⟨b,2,none⟩ w6 fun z7=>some (decide (z7≤64),w6)) (some (false,w6))) fun c_6 w7=>bnd (cond c_6 (gInt .i64 ⟨b,3,none⟩ w7 fun z8=>bnd (cond (z8==0) (some (true,w7)) (gInt .i64 ⟨b,3,none⟩ w7 fun z9=>some (z9==1,w7))) fun c_7 w8=>some (c_7,w8)) (some (false,w7))) fun c_8 w9=>some (.bool c_8,w9):=kR
end
end Go.EQ
