/- A read that found nothing is woken by bytes, and by the end, and by nothing else: till then its picks do nothing. -/
import Derived.Test.YtonlefldpebcpaaGreatDoorMc
import Derived.Test.YtonlefldpebcpaaGreatDoorProg
import Derived.KernelRfl
set_option linter.all false
namespace Go.EQ
open Go Go.NN Go.Proofs
noncomputable abbrev PR:Program:=Tryz.prog
abbrev B8:FuncId:=6
abbrev Ae5:FuncId:=7
abbrev Ad3:FuncId:=9
abbrev J7:FuncId:=10
abbrev Ba2:FuncId:=11
abbrev M7:FuncId:=13
abbrev At7:FuncId:=15
abbrev Bk7:FuncId:=16
abbrev D2:FuncId:=20
abbrev Aq2:FuncId:=21
abbrev B15:FuncId:=22
abbrev A73:FuncId:=23
abbrev Bn4:FuncId:=24
abbrev B6:FuncId:=25
abbrev E9:FuncId:=26
abbrev G66:FuncId:=27
abbrev Az8:FuncId:=28
abbrev Al1:FuncId:=29
abbrev Bh3:FuncId:=30
abbrev Bd5:FuncId:=31
abbrev A17:FuncId:=32
abbrev Ar0:FuncId:=33
abbrev At0:FuncId:=34
abbrev O0:FuncId:=35
abbrev Bd0:FuncId:=36
abbrev Ay6:FuncId:=37
abbrev Bs5:FuncId:=40
abbrev B89:FuncId:=41
abbrev U4:FuncId:=42
abbrev L9:FuncId:=43
abbrev Ay7:FuncId:=44
abbrev Bl5:FuncId:=45
abbrev Y4:FuncId:=46
abbrev Ba3:FuncId:=47
abbrev Aa7:FuncId:=48
abbrev Ap8:FuncId:=49
abbrev M8:FuncId:=50
abbrev Af1:FuncId:=51
abbrev Q8:FuncId:=52
abbrev Ae8:FuncId:=53
abbrev An0:FuncId:=54
abbrev Az6:FuncId:=55
abbrev Gu1:FuncId:=56
abbrev Al4:FuncId:=57
abbrev Dz8:FuncId:=58
abbrev Dn8:FuncId:=59
abbrev Ay2:FuncId:=60
abbrev Ap4:FuncId:=61
abbrev A62:FuncId:=62
abbrev De5:FuncId:=63
abbrev Ag5:FuncId:=64
abbrev O1:FuncId:=65
abbrev Gq6:FuncId:=66
abbrev At4:FuncId:=67
abbrev Aq4:FuncId:=68
abbrev S5:FuncId:=69
abbrev As4:FuncId:=70
abbrev Bl2:FuncId:=71
abbrev Aa5:FuncId:=72
abbrev N4:FuncId:=73
abbrev L1:FuncId:=74
abbrev I2:FuncId:=75
abbrev Ak9:FuncId:=76
abbrev Bb4:FuncId:=77
abbrev A59:FuncId:=78
abbrev E38:FuncId:=79
abbrev Aw9:FuncId:=80
abbrev E39:FuncId:=81
abbrev Gd5:FuncId:=82
abbrev E44:FuncId:=83
abbrev Ge1:FuncId:=84
abbrev Gk6:FuncId:=85
abbrev Ee3:FuncId:=86
abbrev Gl2:FuncId:=87
abbrev Gl4:FuncId:=88
abbrev A46:FuncId:=89
abbrev Bg2:FuncId:=90
abbrev Bh5:FuncId:=91
abbrev O2:FuncId:=92
abbrev Az2:FuncId:=93
abbrev Ay8:FuncId:=94
abbrev L6:FuncId:=95
abbrev Az0:FuncId:=96
abbrev As6:FuncId:=97
abbrev W1:FuncId:=98
abbrev Al2:FuncId:=99
abbrev J6:FuncId:=100
abbrev Ab1:FuncId:=102
abbrev Bj8:FuncId:=103
abbrev Dm2:FuncId:=104
abbrev Ie3:FuncId:=105
abbrev H99:FuncId:=106
abbrev Hr3:FuncId:=107
abbrev Ae6:FuncId:=108
abbrev Bs8:FuncId:=109
abbrev A40:FuncId:=110
abbrev Ab2:FuncId:=111
abbrev Bb1:FuncId:=112
abbrev Dj2:FuncId:=113
abbrev Db0:FuncId:=114
abbrev B18:FuncId:=115
abbrev Be4:FuncId:=116
abbrev N7:FuncId:=117
abbrev Ay0:FuncId:=118
abbrev A78:FuncId:=119
abbrev A75:FuncId:=122
abbrev Ak1:FuncId:=124
abbrev H0:FuncId:=125
abbrev V8:FuncId:=126
abbrev U9:FuncId:=127
abbrev Ak8:FuncId:=128
abbrev Ax1:FuncId:=129
abbrev S4:FuncId:=130
abbrev Ab9:FuncId:=131
abbrev W4:FuncId:=132
abbrev Bk5:FuncId:=133
abbrev Ee9:FuncId:=134
abbrev A68:FuncId:=135
abbrev Ax9:FuncId:=136
abbrev Dc4:FuncId:=137
abbrev Dz1:FuncId:=138
abbrev Au4:FuncId:=139
abbrev U1:FuncId:=140
abbrev P7:FuncId:=141
abbrev Bg1:FuncId:=142
abbrev Ad7:FuncId:=143
abbrev Q5:FuncId:=144
abbrev Ad6:FuncId:=145
abbrev Bt4:FuncId:=146
abbrev A50:FuncId:=147
abbrev Be7:FuncId:=148
abbrev Bi2:FuncId:=149
abbrev Ah5:FuncId:=150
abbrev Af5:FuncId:=151
abbrev Ar9:FuncId:=152
abbrev A51:FuncId:=153
abbrev E37:FuncId:=154
abbrev A14:FuncId:=155
abbrev A53:FuncId:=156
abbrev Bb2:FuncId:=157
abbrev Ba4:FuncId:=158
abbrev Au2:FuncId:=159
abbrev Bf5:FuncId:=160
abbrev Ao4:FuncId:=161
abbrev Al6:FuncId:=162
abbrev Bf3:FuncId:=163
abbrev V9:FuncId:=170
abbrev Bj2:FuncId:=171
abbrev Aa6:FuncId:=172
abbrev Bp4:FuncId:=173
abbrev Aa4:FuncId:=174
abbrev Aw0:FuncId:=175
abbrev Dy4:FuncId:=176
abbrev De7:FuncId:=177
abbrev B21:FuncId:=178
abbrev Dm6:FuncId:=179
abbrev I00:FuncId:=180
abbrev It4:FuncId:=181
abbrev Ix5:FuncId:=182
abbrev Hm8:FuncId:=183
abbrev Ax3:FuncId:=184
abbrev I4:FuncId:=185
abbrev Iq1:FuncId:=194
abbrev Hw0:FuncId:=195
abbrev Dy9:FuncId:=196
abbrev Ee6:FuncId:=197
abbrev Dc3:FuncId:=198
abbrev By5:FuncId:=199
abbrev Dp4:FuncId:=200
abbrev D5:FuncId:=201
abbrev W6:FuncId:=202
abbrev Aa1:FuncId:=203
abbrev Ab8:FuncId:=204
abbrev Ac8:FuncId:=206
abbrev Q0:FuncId:=207
abbrev I0:FuncId:=208
abbrev D14:FuncId:=209
abbrev Bs0:FuncId:=210
abbrev Af2:FuncId:=211
abbrev Df2:FuncId:=212
abbrev D4:FuncId:=213
abbrev J4:FuncId:=214
abbrev G7:FuncId:=215
abbrev Dg0:FuncId:=216
abbrev U0:FuncId:=217
abbrev Bc4:FuncId:=218
abbrev Aq9:FuncId:=219
abbrev A02:FuncId:=220
abbrev Ae2:FuncId:=221
abbrev Af4:FuncId:=222
abbrev Bt6:FuncId:=223
abbrev Bo1:FuncId:=224
abbrev Az9:FuncId:=225
abbrev An9:FuncId:=228
abbrev A72:FuncId:=229
abbrev A06:FuncId:=230
abbrev B9:FuncId:=231
abbrev Ba6:FuncId:=232
abbrev Bg9:FuncId:=233
abbrev Ab0:FuncId:=234
abbrev At9:FuncId:=237
abbrev Ax2:FuncId:=238
abbrev Ay3:FuncId:=239
abbrev Au7:FuncId:=240
abbrev Bv2:FuncId:=241
abbrev Bu3:FuncId:=242
abbrev Ak0:FuncId:=243
abbrev Dm0:FuncId:=244
abbrev Ac3:FuncId:=245
abbrev Be5:FuncId:=246
abbrev Bc3:FuncId:=247
abbrev S6:FuncId:=248
abbrev N8:FuncId:=249
abbrev D09:FuncId:=250
abbrev Dm8:FuncId:=251
abbrev U5:FuncId:=252
abbrev Da9:FuncId:=253
abbrev A38:FuncId:=254
abbrev Dn9:FuncId:=255
abbrev G81:FuncId:=256
abbrev A64:FuncId:=257
abbrev N1:FuncId:=266
abbrev Ag4:FuncId:=267
abbrev Ag3:FuncId:=268
abbrev Aq1:FuncId:=269
abbrev Bp6:FuncId:=270
abbrev E2:FuncId:=271
abbrev L8:FuncId:=272
abbrev Bq9:FuncId:=273
abbrev Ai1:FuncId:=274
abbrev Ak7:FuncId:=277
abbrev Dx9:FuncId:=278
abbrev Bc7:FuncId:=279
abbrev B76:FuncId:=280
abbrev Bk9:FuncId:=281
abbrev Bj0:FuncId:=282
abbrev Hm5:FuncId:=283
abbrev Bp2:FuncId:=284
abbrev Bb8:FuncId:=285
abbrev Aq7:FuncId:=286
abbrev Y8:FuncId:=287
abbrev Aa3:FuncId:=290
abbrev Ay4:FuncId:=291
abbrev Aa2:FuncId:=292
abbrev B5:TypeId:=3
abbrev Gy6:TypeId:=4
abbrev A5:TypeId:=5
abbrev O9:TypeId:=23
abbrev Dp9:TypeId:=28
abbrev Bp5:TypeId:=30
abbrev V7:TypeId:=32
abbrev W9:TypeId:=34
abbrev I7:TypeId:=35
abbrev U2:TypeId:=40
abbrev Hb0:TypeId:=42
abbrev D0:TypeId:=44
abbrev An4:TypeId:=60
abbrev Ax4:TypeId:=63
abbrev E3:TypeId:=72
abbrev Eh8:TypeId:=83
abbrev D49:TypeId:=85
abbrev Dd9:TypeId:=88
abbrev A69:TypeId:=91
abbrev D1:TypeId:=95
abbrev D29:TypeId:=97
abbrev D3:TypeId:=105
abbrev A35:TypeId:=106
abbrev H33:TypeId:=110
abbrev Q2:TypeId:=120
abbrev Gn6:TypeId:=124
abbrev Dw8:TypeId:=134
abbrev E6:TypeId:=144
abbrev B87:TypeId:=150
abbrev Gn3:TypeId:=160
abbrev El8:TypeId:=168
abbrev Bk3:TypeId:=173
abbrev Ec0:TypeId:=178
abbrev Gq7:TypeId:=186
abbrev El7:TypeId:=199
abbrev P6:TypeId:=201
abbrev J0:TypeId:=215
abbrev Az5:TypeId:=218
abbrev U3:TypeId:=223
abbrev Bp3:TypeId:=225
abbrev Bz1:TypeId:=233
abbrev M6:TypeId:=235
abbrev Bd9:TypeId:=262
abbrev E73:TypeId:=266
abbrev E96:TypeId:=269
abbrev Gp6:TypeId:=271
abbrev B70:TypeId:=307
abbrev Ar4:TypeId:=309
abbrev Ji1:TypeId:=313
abbrev Ga7:TypeId:=320
abbrev A34:TypeId:=323
abbrev D68:TypeId:=326
abbrev A36:TypeId:=328
abbrev By7:TypeId:=330
abbrev Br3:TypeId:=342
abbrev E82:TypeId:=345
abbrev Ap3:TypeId:=349
abbrev Bz2:TypeId:=353
abbrev De3:TypeId:=362
abbrev Ez8:TypeId:=370
abbrev Ik4:TypeId:=390
noncomputable abbrev iI (n:Int):Value:=.int .i64 n
noncomputable abbrev pP (b:Nat):Value:=.pointer (some ⟨b,0,none⟩)
noncomputable abbrev xQ (c:Cuts) (C:D8) (R:Ad8) (f:FuncId) (fn:Func) (T:List Item) (s:B7) (h:H):Option (Value × H):=Z7 PR c C R f fn 100000 true T s h
theorem kR {α:Type} {a b:α} (h:a=b:=by kernel_rfl):a=b:=h
noncomputable abbrev zZ1:List Value:=[.int .i64 0,.int .i64 0,.int .i64 0,.int .i64 0,.int .i64 0,.int .i64 0,.int .i64 0,.int .i64 0,.int .i64 0,.int .i64 0,.int .i64 0,.int .i64 0,.int .i64 0,.int .i64 0,.int .i64 0,.int .i64 0]
noncomputable abbrev zZ2:List Value:=[.int .i64 0,.int .i64 0,.int .i64 0,.int .i64 0,.int .u8 0,.int .u8 0,.int .u8 0,.int .u8 0,.int .u8 0,.int .u8 0,.int .u8 0,.int .u8 0,.int .u8 0,.int .u8 0,.int .u8 0,.int .u8 0,.int .u8 0,.int .u8 0,.int .u8 0,.int .u8 0,.int .u8 0,.int .u8 0,.int .u8 0,.int .u8 0,.int .u8 0,.int .u8 0,.int .u8 0,.int .u8 0,.int .u8 0,.int .u8 0,.int .u8 0,.int .u8 0,.int .u8 0,.int .u8 0,.int .u8 0,.int .u8 0]
noncomputable abbrev zZ3:List Value:=[.int .i64 0,.int .i64 0,.int .i64 0,.int .i64 0,.int .i64 0,.int .i64 0,.int .i64 0,.int .i64 0,.int .i64 0,.int .i64 0,.int .i64 0,.int .i64 0]
end Go.EQ

set_option maxRecDepth 100000
namespace Go.EQ
open Go Go.NN Go.Proofs
open Go.IntKind (wrap)
open Go.Addr (add)
variable (C:D8) (R:Ad8) (dov fv0 hs more nonev x:Addr) (h:H) (a atv e env envs f fd g i j j_1 n name now size stamp want who x10 x12 x20:Int) (p r:List Value) (bc bn datac datan lc ln outc outn s1c s1n s2c s2n sc slicesc slicesn sn:Nat) (b c data k l out q s s1 s2 slices swaps w:Option Addr) (cmp isv of:Value)
noncomputable section
def Al3:Cuts:=⟨2,[(15,[0,1,6,9,14]),(27,[1,6,20])],[(23,[1,6,9,17])],[]⟩
def At8:List Item:=A6 Tryz.f6
def Ak5:List Item:=stk [0,1,0,1,0,1,0,1,0,1,0,1,0,1,0,1,0,1,0,0,1,4,5] At8
def Bi4:List Item:=stk [0,1,0,1,0,1,0,1,0,1,0,1,0,1,0,1,0,1,0,1,0,1,0,1,0,0] At8
def Av9:List Item:=stk [0,1,0,1,0,1,0,1,0,1,0,1,0,1,0,1,0,1,0,1,0,1,0,1,0,1,0,0,1,4,5] At8
theorem Gn0 :
 xQ Al3 C R B8 Tryz.f6 At8 [(0,iI n),(1,.slice b bn bc)] h =
 bnd (C Ae5 [] h) fun r w=>as4 r fun q1 q2 q3 q4=>aPtr q1 fun x=>aSl q2 fun z1 xn xc=>aPtr q3 fun _=>aSl q4 fun _ _ _=>nw (.cells O9 false [.slice none 0 0]) w fun p1 w1=>pV ⟨p1,0,none⟩ (.slice z1 xn xc) w1 fun w2=>bnd (cond x.isNone (some (true,w2)) (some (decide ((bn:Int)>8),w2))) fun c w3=>cond c
 (bnd (cond (!x.isNone) (bnd (C Bk7 [] w3) fun q5 w4=>aBool q5 fun z4=>some (z4,w4)) (some (false,w3))) fun c_1 w5=>some (.bool c_1,w5))
 (bnd (C D2 [iI 0,.agg ⟨[iI 9,iI 0,iI 0,.slice none 0 0]⟩,pP p1] w3) fun q6 w6=>as2 q6 fun q7 q8=>aAgg q7 fun _=>aBool q8 fun _=>bnd (C D2 [iI 0,.agg ⟨[iI 2,iI 0,iI 0,.slice none 0 0]⟩,pP p1] w6) fun q9 w7=>as2 q9 fun q10 q11=>aAgg q10 fun _=>aBool q11 fun _=>gSl ⟨p1,0,none⟩ w7 fun z9 xn_2 _=>aSome z9 fun p=>ck ((0:Int)≤1∧1<(xn_2:Int)) (gPtr (add (B0 p) (Int.toNat 1*1)) w7 fun z10=>bnd (C Ba2 [.pointer z10] w7) fun q12 w8=>as0 q12 (bnd (C D2 [iI 1,.agg ⟨[iI 12,iI 2,iI 0,.slice none 0 0]⟩,pP p1] w8) fun q13 w9=>as2 q13 fun q14 q15=>aAgg q14 fun z11=>aBool q15 fun z12=>nw (.cells W9 false [iI 0,iI 0,iI 0,iI 0,iI 0,.slice none 0 0,iI 0,iI 0,.slice none 0 0,.bool false,.slice none 0 0,iI 0]) w9 fun p2 w10=>ck (List.length z11=12) (pAgg ⟨p2,0,none⟩ z11 w10 fun w11=>bnd (cond (!z12) (some (true,w11)) (gInt .i64 ⟨p2,7,none⟩ w11 fun z13=>some (z13 != 0,w11))) fun c_2 w12=>cond c_2
 (some (.bool false,w12))
 (bnd (C D2 [iI 1,.agg ⟨[iI 10,iI 1,iI 32,.slice none 0 0]⟩,pP p1] w12) fun q16 w13=>as2 q16 fun q17 q18=>aAgg q17 fun z14=>aBool q18 fun z15=>nw (.cells W9 false [iI 0,iI 0,iI 0,iI 0,iI 0,.slice none 0 0,iI 0,iI 0,.slice none 0 0,.bool false,.slice none 0 0,iI 0]) w13 fun p3 w14=>ck (List.length z14=12) (pAgg ⟨p3,0,none⟩ z14 w14 fun w15=>cond z15
 (some (.bool false,w15))
 (R B8 Ak5 [(0,iI n),(1,.slice b bn bc),(6,pP p1),(9,.func (.func D2) ⟨[]⟩ ⟨[pP p1]⟩),(14,iI 0)] w15))))))):=kR
theorem Da5 :
 xQ Al3 C R B8 Tryz.f6 Ak5 [(0,iI n),(1,.slice b bn bc),(6,.pointer (some hs)),(9,.func (.func D2) ⟨[]⟩ ⟨[.pointer (some dov)]⟩),(14,iI i)] h =
 cond (decide (i<(J8 .i64 n 7)))
 (gSl hs h fun x xn _=>aSome x fun p=>ck ((0:Int)≤1∧1<(xn:Int)) (gPtr (add (B0 p) (Int.toNat 1*1)) h fun z1=>bnd (C J7 [.pointer z1] h) fun r w=>as2 r fun q1 q2=>aAgg q1 fun z2=>aBool q2 fun z3=>nw (.cells W9 false [iI 0,iI 0,iI 0,iI 0,iI 0,.slice none 0 0,iI 0,iI 0,.slice none 0 0,.bool false,.slice none 0 0,iI 0]) w fun p1 w1=>ck (List.length z2=12) (pAgg ⟨p1,0,none⟩ z2 w1 fun w2=>bnd (cond z3 (some (true,w2)) (gSl hs w2 fun z4 xn_1 _=>aSome z4 fun p_1=>ck ((0:Int)≤1∧1<(xn_1:Int)) (gPtr (add (B0 p_1) (Int.toNat 1*1)) w2 fun z5=>bnd (C At7 [.pointer z5] w2) fun q3 w3=>aInt .i64 q3 fun z6=>some (z6 != 3,w3)))) fun c w4=>cond c
 (some (.bool false,w4))
 (R B8 Ak5 [(0,iI n),(1,.slice b bn bc),(6,.pointer (some hs)),(9,.func (.func D2) ⟨[]⟩ ⟨[.pointer (some dov)]⟩),(14,iI (wrap .i64 (i+1)))] w4))))
 (nw (.cells Bp5 false [iI 0,iI 0,iI 0,.slice none 0 0]) h fun p2 w5=>pAgg ⟨p2,0,none⟩ [iI 11,iI 2,iI 0,.slice b bn bc] w5 fun w6=>cond ((bn:Int)==0)
 (pAgg ⟨p2,0,none⟩ [iI 12,iI 2,iI 0,.slice none 0 0] w6 fun w7=>R B8 Bi4 [(1,.slice b bn bc),(6,.pointer (some hs)),(9,.func (.func D2) ⟨[]⟩ ⟨[.pointer (some dov)]⟩),(17,pP p2)] w7)
 (R B8 Bi4 [(1,.slice b bn bc),(6,.pointer (some hs)),(9,.func (.func D2) ⟨[]⟩ ⟨[.pointer (some dov)]⟩),(17,pP p2)] w6)):=kR
theorem B94 (last:Addr) :
 xQ Al3 C R B8 Tryz.f6 Bi4 [(1,.slice b bn bc),(6,.pointer (some hs)),(9,.func (.func D2) ⟨[]⟩ ⟨[.pointer (some dov)]⟩),(17,.pointer (some last))] h =
 gAgg last 4 h fun x=>bnd (C D2 [iI 0,.agg ⟨x⟩,.pointer (some dov)] h) fun r w=>as2 r fun q1 q2=>aAgg q1 fun z1=>aBool q2 fun z2=>nw (.cells W9 false [iI 0,iI 0,iI 0,iI 0,iI 0,.slice none 0 0,iI 0,iI 0,.slice none 0 0,.bool false,.slice none 0 0,iI 0]) w fun p1 w1=>ck (List.length z1=12) (pAgg ⟨p1,0,none⟩ z1 w1 fun w2=>bnd (cond (!z2) (some (true,w2)) (gInt .i64 ⟨p1,7,none⟩ w2 fun z3=>some (z3 != 0,w2))) fun c w3=>cond c
 (some (.bool false,w3))
 (R B8 Av9 [(1,.slice b bn bc),(6,.pointer (some hs)),(20,iI 0)] w3)):=kR
theorem Bh0 :
 xQ Al3 C R B8 Tryz.f6 Av9 [(1,.slice b bn bc),(6,.pointer (some hs)),(20,iI i)] h =
 cond (decide (i<3))
 (gSl hs h fun x xn _=>aSome x fun p=>ck ((0:Int)≤1∧1<(xn:Int)) (gPtr (add (B0 p) (Int.toNat 1*1)) h fun z1=>bnd (C J7 [.pointer z1] h) fun r w=>as2 r fun q1 q2=>aAgg q1 fun z2=>aBool q2 fun z3=>nw (.cells W9 false [iI 0,iI 0,iI 0,iI 0,iI 0,.slice none 0 0,iI 0,iI 0,.slice none 0 0,.bool false,.slice none 0 0,iI 0]) w fun p1 w1=>ck (List.length z2=12) (pAgg ⟨p1,0,none⟩ z2 w1 fun w2=>cond (!(z3==(i==2)))
 (some (.bool false,w2))
 (cond z3
 (gBool ⟨p1,9,none⟩ w2 fun z4=>bnd (cond z4 (gInt .i64 ⟨p1,7,none⟩ w2 fun z5=>some (z5==0,w2)) (some (false,w2))) fun c w3=>bnd (cond c (gSl ⟨p1,8,none⟩ w3 fun z6 xn_1 _=>gCells z6 xn_1 w3 fun cs=>asBytes cs fun l=>gCells b bn w3 fun cs_1=>asBytes cs_1 fun l_1=>some ((ByteArray.mk ⟨l⟩).toList==(ByteArray.mk ⟨l_1⟩).toList,w3)) (some (false,w3))) fun c_1 w4=>bnd (cond c_1 (bnd (C Bk7 [] w4) fun q3 w5=>aBool q3 fun z7=>some (z7,w5)) (some (false,w4))) fun c_2 w6=>some (.bool c_2,w6))
 (R B8 Av9 [(1,.slice b bn bc),(6,.pointer (some hs)),(20,iI (wrap .i64 (i+1)))] w2)))))
 (some (.bool false,h)):=kR
def Da2:Cuts:=⟨2,[(9,[6,7,8,9,10,11,12])],[],[]⟩
def D79:List Item:=A6 Tryz.f21
def Bn9:List Item:=stk [0,1,0,1,0,1,0,1,0,1,0,1,0,1,0,0,1,4,5] D79
theorem H56 :
 xQ Da2 C R Aq2 Tryz.f21 D79 [(0,.slice b bn bc)] h =
 bnd (C B89 [] h) fun r w=>aAgg r fun x=>bnd (C Bs5 [.agg ⟨x⟩] w) fun q1 w1=>as4 q1 fun q2 q3 q4 q5=>aPtr q2 fun z1=>aPtr q3 fun z2=>aPtr q4 fun z3=>aPtr q5 fun z4=>bnd (cond z2.isNone (some (true,w1)) (some ((bn:Int) != 492,w1))) fun c w2=>cond c
 (some (.tuple ⟨[.pointer none,.pointer none,.pointer none,.pointer none]⟩,w2))
 (nw (.cells A69 false [iI 0,iI 0,iI 0,iI 0,iI 0,iI 0,.slice none 0 0]) w2 fun p1 w3=>pAgg ⟨p1,0,none⟩ [iI 2,iI 256,iI 0,iI 0,iI 0,iI 0,.slice b bn bc] w3 fun w4=>bnd (C U4 [.agg ⟨[iI 0,iI 0,iI 1,iI 1,.int .u8 0,.int .u8 0,.int .u8 0,.int .u8 0,.int .u8 0,.int .u8 0,.int .u8 0,.int .u8 0,.int .u8 0,.int .u8 0,.int .u8 0,.int .u8 0,.int .u8 0,.int .u8 0,.int .u8 0,.int .u8 0,.int .u8 0,.int .u8 0,.int .u8 0,.int .u8 0,.int .u8 0,.int .u8 0,.int .u8 0,.int .u8 0,.int .u8 0,.int .u8 0,.int .u8 0,.int .u8 0,.int .u8 0,.int .u8 0,.int .u8 0,.int .u8 0]⟩] w4) fun q6 w5=>aStr q6 fun z5=>gAgg ⟨p1,0,none⟩ 7 w5 fun z6=>bnd (C L9 [.pointer z1,iI 0,.agg ⟨z6⟩] w5) fun q7 w6=>aAgg q7 fun _=>gAgg ⟨p1,0,none⟩ 7 w6 fun z8=>bnd (C Ay7 [.pointer z3,iI 0,.agg ⟨z8⟩] w6) fun q8 w7=>as3 q8 fun q9 q10 q11=>aInt .i64 q9 fun _=>aInt .i64 q10 fun _=>aStr q11 fun _=>R Aq2 Bn9 [(6,.pointer z1),(7,.pointer z2),(8,.pointer z3),(9,.pointer z4),(10,pP p1),(11,.string z5),(12,iI 1)] w7):=kR
theorem Df8 (wv:Option Addr) (m:Option Addr) (pipe:ByteArray) :
 xQ Da2 C R Aq2 Tryz.f21 Bn9 [(6,.pointer k),(7,.pointer c),(8,.pointer wv),(9,.pointer m),(10,.pointer (some x)),(11,.string pipe),(12,iI i)] h =
 cond (decide (i<3))
 (ck (ByteArray.size pipe≤A8) (nw (.cells A5 false (A0 (ByteArray.data pipe).toList)) h fun b w=>pAgg x [iI 2,iI (wrap .i64 (256+i)),iI 0,iI 0,iI 0,iI 0,.slice (some (O4 b)) (ByteArray.size pipe) (ByteArray.size pipe)] w fun w1=>gAgg x 7 w1 fun z1=>bnd (C L9 [.pointer k,iI 0,.agg ⟨z1⟩] w1) fun r w2=>aAgg r fun _=>gAgg x 7 w2 fun z3=>bnd (C Ay7 [.pointer wv,iI 0,.agg ⟨z3⟩] w2) fun q1 w3=>as3 q1 fun q2 q3 q4=>aInt .i64 q2 fun _=>aInt .i64 q3 fun _=>aStr q4 fun _=>R Aq2 Bn9 [(6,.pointer k),(7,.pointer c),(8,.pointer wv),(9,.pointer m),(10,.pointer (some x)),(11,.string pipe),(12,iI (wrap .i64 (i+1)))] w3))
 (some (.tuple ⟨[.pointer k,.pointer c,.pointer wv,.pointer m]⟩,h)):=kR
def Dt3:Cuts:=⟨2,[],[],[(5,⟨[0,1,2,3,4],[0,1,0,4,15],[(3,[1])],[]⟩)]⟩
def E30:List Item:=A6 Tryz.f22
theorem Hk4 :
 xQ Dt3 C R B15 Tryz.f22 E30 [] h =
 bnd (C Bl5 [] h) fun r w=>aStr r fun x=>ck (ByteArray.size x≤A8) (nw (.cells A5 false (A0 (ByteArray.data x).toList)) w fun b w1=>nw (.cells D0 false zZ1) w1 fun p1 w2=>pAgg ⟨p1,0,none⟩ [iI 1,iI 0,iI 0,iI 0,iI 0,iI 0,iI 0,iI 0,iI 0,iI 0,iI 0,iI 0,iI 0,iI 0,iI 0,iI 0] w2 fun w3=>ck ((0:Int)≤0∧0<((8:Nat):Int)) (pV (add ⟨p1,8,none⟩ (Int.toNat 0*1)) (iI 1) w3 fun w4=>gAgg ⟨p1,0,none⟩ 16 w4 fun z1=>bnd (C Y4 [.agg ⟨z1⟩] w4) fun q1 w5=>aStr q1 fun z2=>pCells (some (O4 b)) (A0 (List.take (min (ByteArray.size z2) (ByteArray.size x)) (ByteArray.data z2).toList)) w5 fun w6=>ckB (fitsOpen (some (O4 b)) A5 w6) (ck ((0:Int)≤192∧192≤((ByteArray.size x:Nat):Int)) (bnd (C Ba3 [.agg ⟨[iI 3,iI 0,iI 1,iI 0]⟩] w6) fun q2 w7=>aStr q2 fun z3=>ckB (fitsOpen (some (O4 b)) A5 w7) (ck ((0:Int)≤192∧192≤((ByteArray.size x:Nat):Int)) (same (.slice (E1 (some (O4 b)) (decide (Int.toNat 192<ByteArray.size x)) ((Int.toNat 192)*1)) ((ByteArray.size x)-(Int.toNat 192)) ((ByteArray.size x)-(Int.toNat 192))) (.slice (E1 (some (O4 b)) (decide (Int.toNat 192<ByteArray.size x)) ((Int.toNat 192)*1)) ((ByteArray.size x)-(Int.toNat 192)) ((ByteArray.size x)-(Int.toNat 192))) (pCells (E1 (some (O4 b)) (decide (Int.toNat 192<ByteArray.size x)) ((Int.toNat 192)*1)) (A0 (List.take (min (ByteArray.size z3) ((ByteArray.size x)-(Int.toNat 192))) (ByteArray.data z3).toList)) w7 fun w8=>some (.slice (some (O4 b)) (ByteArray.size x) (ByteArray.size x),w8)))))))):=kR
def Et3:Cuts:=⟨2,[],[],[]⟩
def G22:List Item:=A6 Tryz.f23
theorem Es8 (slot:Int) (sectionv:Int) :
 xQ Et3 C R A73 Tryz.f23 G22 [(0,.pointer k),(1,iI env),(2,iI slot),(3,iI sectionv)] h =
 bnd (C At0 [.pointer k,iI env] h) fun r w=>as2 r fun q1 q2=>aPtr q1 fun x=>aInt .i64 q2 fun z1=>cond (z1 != 0)
 (some (.tuple ⟨[.pointer none,iI z1]⟩,w))
 (bnd (cond (decide (slot<0)) (some (true,w)) (some (decide (slot≥8),w))) fun c w1=>cond c
 (some (.tuple ⟨[.pointer none,iI 1]⟩,w1))
 (bnd (C Aa7 [.pointer k,iI sectionv] w1) fun q3 w2=>aPtr q3 fun z2=>cond z2.isNone
 (some (.tuple ⟨[.pointer none,iI 8]⟩,w2))
 (nw (.cells Ax4 false [.pointer k,iI env,iI slot,iI sectionv,.pointer x,iI 0,iI 0,iI 0,iI 0,iI 0,.slice none 0 0]) w2 fun b w3=>some (.tuple ⟨[pP b,iI 0]⟩,w3)))):=kR
def W8:Cuts:=⟨2,[(1,[0,5]),(6,[0,12]),(11,[0,20,21])],[],[]⟩
def Ae4:List Item:=A6 Tryz.f25
def Ai4:List Item:=stk [0,0,1,4,5] Ae4
def Ai7:List Item:=stk [0,1,0,0,1,4,5] Ae4
def Ai2:List Item:=stk [0,1,0,1,0,0,1,4,5] Ae4
theorem Eg7 :
 xQ W8 C R B6 Tryz.f25 Ae4 [(0,.pointer c)] h =
 R B6 Ai4 [(0,.pointer c),(5,iI 0)] h:=kR
theorem Bo7 (x5:Int) :
 xQ W8 C R B6 Tryz.f25 Ai4 [(0,.pointer c),(5,iI x5)] h =
 cond (decide (x5<8))
 (bnd (C M7 [.pointer c,iI x5] h) fun r w=>as2 r fun q1 q2=>aAgg q1 fun _=>aInt .i64 q2 fun _=>R B6 Ai4 [(0,.pointer c),(5,iI (wrap .i64 (x5+1)))] w)
 (R B6 Ai7 [(0,.pointer c),(12,iI 0)] h):=kR
theorem Bp0 :
 xQ W8 C R B6 Tryz.f25 Ai7 [(0,.pointer c),(12,iI x12)] h =
 cond (decide (x12<12))
 (bnd (C M8 [.pointer c,iI x12] h) fun r w=>as2 r fun q1 q2=>aAgg q1 fun _=>aInt .i64 q2 fun _=>R B6 Ai7 [(0,.pointer c),(12,iI (wrap .i64 (x12+1)))] w)
 (bnd (C Af1 [.pointer c,iI 3] h) fun q3 w1=>aInt .i64 q3 fun z2=>R B6 Ai2 [(0,.pointer c),(20,iI z2),(21,iI 0)] w1):=kR
theorem Bn2 (x21:Int) :
 xQ W8 C R B6 Tryz.f25 Ai2 [(0,.pointer c),(20,iI x20),(21,iI x21)] h =
 cond (decide (x21<x20))
 (bnd (C Q8 [.pointer c,iI x21] h) fun r w=>as2 r fun q1 q2=>aAgg q1 fun _=>aInt .i64 q2 fun _=>R B6 Ai2 [(0,.pointer c),(20,iI x20),(21,iI (wrap .i64 (x21+1)))] w)
 (bnd (C Ae8 [.pointer c] h) fun q3 w1=>as2 q3 fun q4 q5=>aAgg q4 fun _=>aInt .i64 q5 fun _=>bnd (C An0 [.pointer c] w1) fun q6 w2=>as2 q6 fun q7 q8=>aInt .i64 q7 fun _=>aBool q8 fun _=>some (.tuple ⟨[]⟩,w2)):=kR
def B33:Cuts:=⟨2,[],[],[(0,⟨[0,1,2,3,4,5,6,7,8,9,10,11,12,14,13,15],[0,1,3,7,0,16,48,112,0,256,768,1792,3840,8191,0,32767],[],[]⟩),(2,⟨[0,1,2,3,4,5,6,7,8,9],[0,0,0,4,1,17,49,127,255,511],[(6,[3])],[]⟩)]⟩
def D50:List Item:=A6 Tryz.f30
theorem Gw2 :
 xQ B33 C R Bh3 Tryz.f30 D50 [(0,.pointer w)] h =
 aSome w fun p=>gPtr (add p 0) h fun x=>aSome w fun p_1=>gInt .i64 (add p_1 1) h fun z1=>aSome w fun p_2=>gInt .i64 (add p_2 3) h fun z2=>nw (.cells D29 false [iI 0,iI 0,.slice none 0 0]) h fun b w1=>bnd (C L9 [.pointer x,iI z1,.agg ⟨[iI 8,iI 0,iI 0,iI z2,iI 0,iI 0,.slice none 0 0]⟩] w1) fun r w2=>aAgg r fun z3=>ck (List.length z3=3) (pAgg ⟨b,0,none⟩ z3 w2 fun w3=>gInt .i64 ⟨b,1,none⟩ w3 fun z4=>cond (decide (z4>0))
 (gInt .i64 ⟨b,1,none⟩ w3 fun z5=>aSome w fun p_3=>pV (add p_3 5) (iI 2) w3 fun w4=>gInt .i64 ⟨b,1,none⟩ w4 fun z6=>same (iI z5) (iI z6) (aSome w fun p_4=>pV (add p_4 6) (iI z5) w4 fun w5=>some (.tuple ⟨[]⟩,w5)))
 (some (.tuple ⟨[]⟩,w3))):=kR
def De6:Cuts:=⟨2,[],[],[(1,⟨[0,1,2,3,4,5,6,7,12,8,9,10,11,13,14],[0,1,3,7,0,16,48,112,255,511,1023,1023,0,6143,16383],[],[]⟩),(5,⟨[0,1,2,3,4,5,6,7,8,9],[0,1,3,7,0,16,48,112,0,511],[],[]⟩),(7,⟨[0,1,2,3,4,5,6,7,8,9,10,11],[0,1,3,7,0,16,48,112,0,256,768,2047],[],[]⟩)]⟩
def Ec1:List Item:=A6 Tryz.f33
theorem G63 (o:List Value) :
 xQ De6 C R Ar0 Tryz.f33 Ec1 [(0,.pointer w),(1,.agg ⟨o⟩)] h =
 nw (.cells W9 false o) h fun b w1=>nw (.cells W9 false [iI 0,iI 0,iI 0,iI 0,iI 0,.slice none 0 0,iI 0,iI 0,.slice none 0 0,.bool false,.slice none 0 0,iI 0]) w1 fun p1 w2=>aSome w fun p=>gPtr (add p 4) w2 fun x=>aSome w fun p_1=>gInt .i64 (add p_1 2) w2 fun z1=>nw (.cells D0 false zZ1) w2 fun p2 w3=>bnd (C M7 [.pointer x,iI z1] w3) fun r w4=>as2 r fun q1 q2=>aAgg q1 fun z2=>aInt .i64 q2 fun z3=>ck (List.length z2=16) (pAgg ⟨p2,0,none⟩ z2 w4 fun w5=>bnd (cond (z3 != 1) (some (true,w5)) (gInt .i64 ⟨p2,0,none⟩ w5 fun z4=>some (z4 != 1,w5))) fun c w6=>cond c
 (gAgg ⟨b,0,none⟩ 12 w6 fun z5=>ck (List.length z5=12) (pAgg ⟨p1,0,none⟩ z5 w6 fun w7=>gAgg ⟨p1,0,none⟩ 12 w7 fun z6=>some (.agg ⟨z6⟩,w7)))
 (gAgg ⟨p2,0,none⟩ 16 w6 fun z7=>bnd (C Ag5 [.agg ⟨z7⟩] w6) fun q3 w8=>as3 q3 fun q4 q5 q6=>aAgg q4 fun z8=>aSl q5 fun z9 xn xc=>aInt .i64 q6 fun z10=>ck (List.length z8=16) (pAgg ⟨p2,0,none⟩ z8 w8 fun w9=>pV ⟨b,10,none⟩ (.slice z9 xn xc) w9 fun w10=>pV ⟨b,11,none⟩ (iI z10) w10 fun w11=>aSome w fun p_2=>gPtr (add p_2 4) w11 fun z11=>aSome w fun p_3=>gInt .i64 (add p_3 2) w11 fun z12=>gAgg ⟨p2,0,none⟩ 16 w11 fun z13=>bnd (C O1 [.pointer z11,iI z12,.agg ⟨z13⟩] w11) fun q7 w12=>aBool q7 fun _=>gInt .i64 ⟨b,11,none⟩ w12 fun z15=>cond (decide (z15>0))
 (aSome w fun p_4=>gPtr (add p_4 4) w12 fun z16=>aSome w fun p_5=>gInt .i64 (add p_5 2) w12 fun z17=>gInt .i64 ⟨b,11,none⟩ w12 fun z18=>bnd (C Gq6 [.pointer z16,iI z17,iI (wrap .i64 (128+z18))] w12) fun q8 w13=>aAgg q8 fun _=>gAgg ⟨b,0,none⟩ 12 w13 fun z20=>ck (List.length z20=12) (pAgg ⟨p1,0,none⟩ z20 w13 fun w14=>gAgg ⟨p1,0,none⟩ 12 w14 fun z21=>some (.agg ⟨z21⟩,w14)))
 (gAgg ⟨b,0,none⟩ 12 w12 fun z22=>ck (List.length z22=12) (pAgg ⟨p1,0,none⟩ z22 w12 fun w15=>gAgg ⟨p1,0,none⟩ 12 w15 fun z23=>some (.agg ⟨z23⟩,w15)))))):=kR
def Dk5:Cuts:=⟨2,[],[],[]⟩
def Em6:List Item:=A6 Tryz.f36
theorem Hc6 :
 xQ Dk5 C R Bd0 Tryz.f36 Em6 [(0,iI i)] h =
 nw (.cells E3 false [iI 0,iI 0]) h fun b w=>pAgg ⟨b,0,none⟩ [iI 1,iI i] w fun w1=>gAgg ⟨b,0,none⟩ 2 w1 fun x=>some (.agg ⟨x⟩,w1):=kR
def A92:Cuts:=⟨2,[],[],[]⟩
def B05:List Item:=A6 Tryz.f52
theorem El0 :
 xQ A92 C R Q8 Tryz.f52 B05 [(0,.pointer c),(1,iI i)] h =
 nw (.cells D1 false zZ2) h fun b w=>bnd (C Az0 [iI i] w) fun r w1=>aAgg r fun x=>bnd (C L6 [.pointer c,.agg ⟨x⟩,.func (.func As6) ⟨[]⟩ ⟨[]⟩] w1) fun q1 w2=>as2 q1 fun q2 q3=>aAgg q2 fun z1=>aInt .i64 q3 fun z2=>ck (List.length z1=36) (pAgg ⟨b,0,none⟩ z1 w2 fun w3=>gAgg ⟨b,0,none⟩ 36 w3 fun z3=>some (.tuple ⟨[.agg ⟨z3⟩,iI z2]⟩,w3)):=kR
def A74:Cuts:=⟨2,[],[],[]⟩
def B01:List Item:=A6 Tryz.f53
theorem Ef7 :
 xQ A74 C R Ae8 Tryz.f53 B01 [(0,.pointer c)] h =
 nw (.cells D1 false zZ2) h fun b w=>bnd (C L6 [.pointer c,.agg ⟨[iI 4,iI 0]⟩,.func (.func As6) ⟨[]⟩ ⟨[]⟩] w) fun r w1=>as2 r fun q1 q2=>aAgg q1 fun x=>aInt .i64 q2 fun z1=>ck (List.length x=36) (pAgg ⟨b,0,none⟩ x w1 fun w2=>gAgg ⟨b,0,none⟩ 36 w2 fun z2=>some (.tuple ⟨[.agg ⟨z2⟩,iI z1]⟩,w2)):=kR
def B30:Cuts:=⟨2,[],[],[(1,⟨[0,1,2,3,4,5,6,7,8,9,10,11,12,13,14,15],[0,1,3,7,0,16,48,112,0,256,0,1024,0,4096,16383,32767],[],[]⟩)]⟩
def D42:List Item:=A6 Tryz.f55
theorem Gw5 :
 xQ B30 C R Az6 Tryz.f55 D42 [(0,.pointer w),(1,.agg ⟨r⟩)] h =
 nw (.cells Q2 false r) h fun b w1=>nw (.cells W9 false [iI 0,iI 0,iI 0,iI 0,iI 0,.slice none 0 0,iI 0,iI 0,.slice none 0 0,.bool false,.slice none 0 0,iI 0]) w1 fun p1 w2=>aSome w fun p=>gInt .i64 (add p 2) w2 fun x=>aSome w fun p_1=>gAgg (add p_1 7) 4 w2 fun z1=>gInt .i64 ⟨b,0,none⟩ w2 fun z2=>gInt .i64 ⟨b,1,none⟩ w2 fun z3=>gSl ⟨b,2,none⟩ w2 fun z4 xn xc=>ck (List.length z1=4) (ck (List.length (iI 0::(iI x::(z1++(iI z2::(iI z3::(.slice z4 xn xc::(.bool true::(.slice none 0 0::[iI 0]))))))))=12) (pAgg ⟨p1,0,none⟩ (iI 0::(iI x::(z1++(iI z2::(iI z3::(.slice z4 xn xc::(.bool true::(.slice none 0 0::[iI 0])))))))) w2 fun w3=>gAgg ⟨p1,0,none⟩ 12 w3 fun z5=>some (.agg ⟨z5⟩,w3))):=kR
def A87:Cuts:=⟨2,[],[],[(1,⟨[0,1,2,3,4,5,6,7,8,9,10,11,12,13,14,15,16,17],[0,1,3,7,0,16,48,112,0,256,768,1792,3840,7936,16128,32767,65535,131071],[],[]⟩)]⟩
def Bz8:List Item:=A6 Tryz.f61
theorem Ei9 :
 xQ A87 C R Ap4 Tryz.f61 Bz8 [(0,.pointer c)] h =
 aSome c fun p=>gPtr (add p 0) h fun x=>aSome c fun p_1=>gInt .i64 (add p_1 1) h fun z1=>aSome c fun p_2=>gSl (add p_2 2) h fun z2 xn _=>aSome z2 fun p_3=>ck ((0:Int)≤0∧0<(xn:Int)) (gInt .i64 (add (B0 p_3) (Int.toNat 0*1)) h fun z3=>bnd (C L9 [.pointer x,iI z1,.agg ⟨[iI 1,iI z3,iI 0,iI 492,iI 0,iI 0,.slice none 0 0]⟩] h) fun r w=>aAgg r fun z4=>nth z4 2 fun B=>aSl B fun B_1 Bn Bc=>some (.slice B_1 Bn Bc,w)):=kR
def Av8:Cuts:=⟨2,[],[],[]⟩
def Bo4:List Item:=A6 Tryz.f65
theorem Dy1 :
 xQ Av8 C R O1 Tryz.f65 Bo4 [(0,.pointer c),(1,iI i),(2,.agg ⟨p⟩)] h =
 nw (.cells D0 false p) h fun b w=>gAgg ⟨b,0,none⟩ 16 w fun x=>bnd (C Be4 [.agg ⟨x⟩] w) fun r w1=>as2 r fun q1 q2=>aSl q1 fun z1 xn xc=>aBool q2 fun z2=>bnd (C Bd0 [iI i] w1) fun q3 w2=>aAgg q3 fun z3=>bnd (C N7 [.pointer c,.agg ⟨z3⟩,.slice z1 xn xc,.bool z2] w2) fun q4 w3=>aBool q4 fun z4=>some (.bool z4,w3):=kR
def Dy7:Cuts:=⟨2,[(3,[0,3,4])],[],[]⟩
def Er2:List Item:=A6 Tryz.f76
def B13:List Item:=stk [0,1,0,1,0,0,1,4,5] Er2
theorem In9 (b:ByteArray) :
 xQ Dy7 C R Ak9 Tryz.f76 Er2 [(0,.string b)] h =
 R Ak9 B13 [(0,.string b),(3,iI ((ByteArray.size b:Nat):Int)),(4,iI 0)] h:=kR
theorem E14 (b:ByteArray) :
 xQ Dy7 C R Ak9 Tryz.f76 B13 [(0,.string b),(3,iI n),(4,iI i)] h =
 cond (decide (i<((ByteArray.size b:Nat):Int)))
 (ck ((0:Int)≤i∧i<((ByteArray.size b:Nat):Int)) (R Ak9 B13 [(0,.string b),(3,iI (wrap .i64 (n+(wrap .i64 (((List.getD (ByteArray.data b).toList (Int.toNat i) 0).toNat:Int)))))),(4,iI (wrap .i64 (i+1)))] h))
 (some (.int .u8 (wrap .u8 (n)),h)):=kR
def Dt2:Cuts:=⟨2,[],[],[]⟩
def E33:List Item:=A6 Tryz.f103
theorem Bj4 (s:List Value) :
 xQ Dt2 C R Bj8 Tryz.f103 E33 [(0,.pointer c),(1,iI i),(2,.agg ⟨s⟩)] h =
 nw (.cells Bp5 false s) h fun b w=>nw (.cells Q2 false [iI 0,iI 0,.slice none 0 0,.bool false]) w fun p1 w1=>gInt .i64 ⟨b,0,none⟩ w1 fun x=>cond (x==9)
 (bnd (C Dy4 [.pointer c,iI i] w1) fun r w2=>aAgg r fun z1=>ck (List.length z1=4) (pAgg ⟨p1,0,none⟩ z1 w2 fun w3=>gAgg ⟨p1,0,none⟩ 4 w3 fun z2=>some (.tuple ⟨[.agg ⟨z2⟩,.bool true]⟩,w3)))
 (cond (x==10)
 (gInt .i64 ⟨b,1,none⟩ w1 fun z3=>gInt .i64 ⟨b,2,none⟩ w1 fun z4=>bnd (C De7 [.pointer c,iI i,iI z3,iI z4] w1) fun q1 w4=>aAgg q1 fun z5=>ck (List.length z5=4) (pAgg ⟨p1,0,none⟩ z5 w4 fun w5=>gAgg ⟨p1,0,none⟩ 4 w5 fun z6=>some (.tuple ⟨[.agg ⟨z6⟩,.bool true]⟩,w5)))
 (cond (x==11)
 (gInt .i64 ⟨b,1,none⟩ w1 fun z7=>gSl ⟨b,3,none⟩ w1 fun z8 xn xc=>bnd (C B21 [.pointer c,iI i,iI z7,.slice z8 xn xc] w1) fun q2 w6=>aAgg q2 fun z9=>ck (List.length z9=4) (pAgg ⟨p1,0,none⟩ z9 w6 fun w7=>gAgg ⟨p1,0,none⟩ 4 w7 fun z10=>some (.tuple ⟨[.agg ⟨z10⟩,.bool true]⟩,w7)))
 (cond (x==12)
 (gInt .i64 ⟨b,1,none⟩ w1 fun z11=>bnd (C Dm6 [.pointer c,iI i,iI z11] w1) fun q3 w8=>aAgg q3 fun z12=>ck (List.length z12=4) (pAgg ⟨p1,0,none⟩ z12 w8 fun w9=>gAgg ⟨p1,0,none⟩ 4 w9 fun z13=>some (.tuple ⟨[.agg ⟨z13⟩,.bool true]⟩,w9)))
 (cond (x==13)
 (gInt .i64 ⟨b,1,none⟩ w1 fun z14=>bnd (C I00 [.pointer c,iI i,iI z14] w1) fun q4 w10=>aAgg q4 fun z15=>ck (List.length z15=4) (pAgg ⟨p1,0,none⟩ z15 w10 fun w11=>gAgg ⟨p1,0,none⟩ 4 w11 fun z16=>some (.tuple ⟨[.agg ⟨z16⟩,.bool true]⟩,w11)))
 (cond (x==14)
 (gInt .i64 ⟨b,1,none⟩ w1 fun z17=>gInt .i64 ⟨b,2,none⟩ w1 fun z18=>bnd (C It4 [.pointer c,iI i,iI z17,iI z18] w1) fun q5 w12=>aAgg q5 fun z19=>ck (List.length z19=4) (pAgg ⟨p1,0,none⟩ z19 w12 fun w13=>gAgg ⟨p1,0,none⟩ 4 w13 fun z20=>some (.tuple ⟨[.agg ⟨z20⟩,.bool true]⟩,w13)))
 (cond (x==15)
 (gInt .i64 ⟨b,1,none⟩ w1 fun z21=>gInt .i64 ⟨b,2,none⟩ w1 fun z22=>bnd (C Ix5 [.pointer c,iI i,iI z21,iI z22] w1) fun q6 w14=>aAgg q6 fun z23=>ck (List.length z23=4) (pAgg ⟨p1,0,none⟩ z23 w14 fun w15=>gAgg ⟨p1,0,none⟩ 4 w15 fun z24=>some (.tuple ⟨[.agg ⟨z24⟩,.bool true]⟩,w15)))
 (cond (x==16)
 (gInt .i64 ⟨b,1,none⟩ w1 fun z25=>bnd (C Hm8 [.pointer c,iI i,iI z25] w1) fun q7 w16=>aAgg q7 fun z26=>ck (List.length z26=4) (pAgg ⟨p1,0,none⟩ z26 w16 fun w17=>gAgg ⟨p1,0,none⟩ 4 w17 fun z27=>some (.tuple ⟨[.agg ⟨z27⟩,.bool true]⟩,w17)))
 (pAgg ⟨p1,0,none⟩ [iI 0,iI 0,.slice none 0 0,.bool false] w1 fun w18=>gAgg ⟨p1,0,none⟩ 4 w18 fun z28=>some (.tuple ⟨[.agg ⟨z28⟩,.bool false]⟩,w18))))))))):=kR
def A26:Cuts:=⟨2,[],[],[(2,⟨[0,1,2,3,4,5,6,7,8,9,10,11,12,13,14],[0,1,3,7,15,31,63,127,255,511,1023,127,4095,8191,16383],[],[]⟩),(4,⟨[0,1,2,3,4,5,6,7,8,9,10,11,12,13,14,15,16,17],[0,1,3,7,0,16,48,112,0,256,0,1024,0,7936,16383,32767,65535,131071],[],[]⟩)]⟩
def Bv9:List Item:=A6 Tryz.f117
theorem Ea8 (ok:Bool) :
 xQ A26 C R N7 Tryz.f117 Bv9 [(0,.pointer c),(1,.agg ⟨r⟩),(2,.slice b bn bc),(3,.bool ok)] h =
 nw (.cells E3 false r) h fun p1 w=>gAgg ⟨p1,0,none⟩ 2 w fun x=>bnd (C V8 [.pointer c,.agg ⟨x⟩] w) fun q1 w1=>as2 q1 fun q2 q3=>aAgg q2 fun z1=>aBool q3 fun z2=>nw (.cells Bp3 false [iI 0,iI 0,iI 0]) w1 fun p2 w2=>ck (List.length z1=3) (pAgg ⟨p2,0,none⟩ z1 w2 fun w3=>bnd (cond (!z2) (some (true,w3)) (some (!ok,w3))) fun c_1 w4=>bnd (cond c_1 (some (true,w4)) (aSome c fun p=>gMap (add p 3) w4 fun z3=>gAgg ⟨p1,0,none⟩ 2 w4 fun z4=>keyN PR E3 (.agg ⟨z4⟩) (opt z3 fun q4=>mapAt w4 q4 fun es _=>opt (As0 (iI 0) (.agg ⟨z4⟩) es) fun f=>aInt .i64 f.1 fun z5=>some (decide (z5>0),w4)))) fun c_2 w5=>cond c_2
 (some (.bool false,w5))
 (aSome c fun p_1=>gPtr (add p_1 0) w5 fun z6=>aSome c fun p_2=>gInt .i64 (add p_2 1) w5 fun z7=>gInt .i64 ⟨p2,0,none⟩ w5 fun z8=>gInt .i64 ⟨p2,1,none⟩ w5 fun z9=>bnd (C L9 [.pointer z6,iI z7,.agg ⟨[iI 2,iI z8,iI z9,iI 0,iI 0,iI 0,.slice b bn bc]⟩] w5) fun q5 w6=>aAgg q5 fun z10=>nth z10 0 fun E=>aInt .i64 E fun E_1=>some (.bool (E_1==0),w6))):=kR
def Db1:Cuts:=⟨2,[],[],[]⟩
def Ec6:List Item:=A6 Tryz.f124
theorem G05 :
 xQ Db1 C R Ak1 Tryz.f124 Ec6 [(0,.pointer s),(1,iI env)] h =
 bnd (cond (decide (env≥0)) (aSome s fun p=>gSl (add p 0) h fun _ xn _=>some (decide (env<(xn:Int)),h)) (some (false,h))) fun c w=>some (.bool c,w):=kR
def Bt2:Cuts:=⟨2,[(7,[1,3,52,53,54]),(13,[1,3,63,64,65])],[],[]⟩
def Dc7:List Item:=A6 Tryz.f132
def Bo6:List Item:=stk [0,1,0,1,0,1,0,1,0,0,1,4,5] Dc7
def Bo9:List Item:=stk [0,1,0,1,0,1,0,1,0,1,0,0,1,4,5] Dc7
theorem Hy2 (c:List Value) :
 xQ Bt2 C R W4 Tryz.f132 Dc7 [(0,.agg ⟨c⟩)] h =
 nw (.cells E6 false c) h fun b w=>gSl ⟨b,0,none⟩ w fun _ xn _=>bnd (cond (decide ((xn:Int)<1)) (some (true,w)) (gSl ⟨b,0,none⟩ w fun _ xn_1 _=>some (decide ((xn_1:Int)>4),w))) fun c_1 w1=>bnd (cond c_1 (some (true,w1)) (gSl ⟨b,1,none⟩ w1 fun _ xn_2 _=>some (decide ((xn_2:Int)>40),w1))) fun c_2 w2=>bnd (cond c_2 (some (true,w2)) (gSl ⟨b,2,none⟩ w2 fun _ xn_3 _=>some (decide ((xn_3:Int)>8),w2))) fun c_3 w3=>bnd (cond c_3 (some (true,w3)) (gSl ⟨b,4,none⟩ w3 fun _ xn_4 _=>some (decide ((xn_4:Int)>16),w3))) fun c_4 w4=>bnd (cond c_4 (some (true,w4)) (gInt .i64 ⟨b,3,none⟩ w4 fun z5=>some (decide (z5<1),w4))) fun c_5 w5=>bnd (cond c_5 (some (true,w5)) (gInt .i64 ⟨b,3,none⟩ w5 fun z6=>some (decide (z6>1000),w5))) fun c_6 w6=>cond c_6
 (some (.bool false,w6))
 (gSl ⟨b,1,none⟩ w6 fun z7 xn_5 xc_5=>bnd (C G7 [.slice z7 xn_5 xc_5,.func (.func J4) ⟨[]⟩ ⟨[pP b]⟩] w6) fun r w7=>aBool r fun z8=>cond z8
 (some (.bool false,w7))
 (gSl ⟨b,2,none⟩ w7 fun z9 xn_6 xc_6=>R W4 Bo6 [(1,pP b),(3,.func (.func J4) ⟨[]⟩ ⟨[pP b]⟩),(52,.slice z9 xn_6 xc_6),(53,iI (xn_6:Int)),(54,iI 0)] w7)):=kR
theorem Eb0 (c:Addr) (x52:Option Addr) (x52n x52c:Nat) (x53:Int) (x54:Int) :
 xQ Bt2 C R W4 Tryz.f132 Bo6 [(1,.pointer (some c)),(3,.func (.func J4) ⟨[]⟩ ⟨[.pointer (some nonev)]⟩),(52,.slice x52 x52n x52c),(53,iI x53),(54,iI x54)] h =
 cond (decide (x54<x53))
 (aSome x52 fun p=>ck ((0:Int)≤x54∧x54<(x52n:Int)) (gSl (add (B0 p) (Int.toNat x54*1)) h fun x xn xc=>bnd (C G7 [.slice x xn xc,.func (.func J4) ⟨[]⟩ ⟨[.pointer (some nonev)]⟩] h) fun r w=>aBool r fun z1=>cond z1
 (some (.bool false,w))
 (R W4 Bo6 [(1,.pointer (some c)),(3,.func (.func J4) ⟨[]⟩ ⟨[.pointer (some nonev)]⟩),(52,.slice x52 x52n x52c),(53,iI x53),(54,iI (wrap .i64 (x54+1)))] w)))
 (gSl (add c 4) h fun z2 xn_1 xc_1=>R W4 Bo9 [(1,.pointer (some c)),(3,.func (.func J4) ⟨[]⟩ ⟨[.pointer (some nonev)]⟩),(63,.slice z2 xn_1 xc_1),(64,iI (xn_1:Int)),(65,iI 0)] h):=kR
theorem Ef0 (c:Addr) (x63:Option Addr) (x63n x63c:Nat) (x64:Int) (x65:Int) :
 xQ Bt2 C R W4 Tryz.f132 Bo9 [(1,.pointer (some c)),(3,.func (.func J4) ⟨[]⟩ ⟨[.pointer (some nonev)]⟩),(63,.slice x63 x63n x63c),(64,iI x64),(65,iI x65)] h =
 cond (decide (x65<x64))
 (aSome x63 fun p=>ck ((0:Int)≤x65∧x65<(x63n:Int)) (gAgg (add (B0 p) (Int.toNat x65*5)) 5 h fun x=>nw (.cells M6 false [iI 0,iI 0,iI 0,iI 0,.slice none 0 0]) h fun b w=>ck (List.length x=5) (pAgg ⟨b,0,none⟩ x w fun w1=>gAgg c 5 w1 fun z1=>gAgg ⟨b,0,none⟩ 5 w1 fun z2=>bnd (C Dg0 [.agg ⟨z1⟩,.agg ⟨z2⟩] w1) fun r w2=>aBool r fun z3=>bnd (cond (!z3) (some (true,w2)) (gSl ⟨b,4,none⟩ w2 fun z4 xn xc=>bnd (C G7 [.slice z4 xn xc,.func (.func J4) ⟨[]⟩ ⟨[.pointer (some nonev)]⟩] w2) fun q1 w3=>aBool q1 fun z5=>some (z5,w3))) fun c_1 w4=>cond c_1
 (some (.bool false,w4))
 (R W4 Bo9 [(1,.pointer (some c)),(3,.func (.func J4) ⟨[]⟩ ⟨[.pointer (some nonev)]⟩),(63,.slice x63 x63n x63c),(64,iI x64),(65,iI (wrap .i64 (x65+1)))] w4))))
 (some (.bool true,h)):=kR
def E62:Cuts:=⟨2,[],[],[]⟩
def Hf7:List Item:=A6 Tryz.f134
theorem I45 (frames:Int) :
 xQ E62 C R Ee9 Tryz.f134 Hf7 [(0,iI frames)] h =
 ck ((0:Int)≤wrap .i64 (64*(mm2 false (mm2 true frames 0) 256))∧(wrap .i64 (64*(mm2 false (mm2 true frames 0) 256)):Int)≤wrap .i64 (64*(mm2 false (mm2 true frames 0) 256))∧wrap .i64 (64*(mm2 false (mm2 true frames 0) 256))≤(A8:Int)) (nw (.cells A5 false (E7 (Int.toNat (wrap .i64 (64*(mm2 false (mm2 true frames 0) 256)))) [.int .u8 0])) h fun b w=>nw (.cells Ga7 false [.slice (some ⟨b,0,none⟩) (Int.toNat (wrap .i64 (64*(mm2 false (mm2 true frames 0) 256)))) (Int.toNat (wrap .i64 (64*(mm2 false (mm2 true frames 0) 256))))]) w fun p1 w1=>some (pP p1,w1)):=kR
def Bg3:Cuts:=⟨2,[],[],[]⟩
def Df1:List Item:=A6 Tryz.f139
theorem E00 (r:Option Addr) (lo:Int) :
 xQ Bg3 C R Au4 Tryz.f139 Df1 [(0,.pointer r),(1,iI lo),(2,iI n)] h =
 bnd (cond (decide (lo<0)) (some (true,h)) (some (decide (n<0),h))) fun c w=>bnd (cond c (some (true,w)) (aSome r fun p=>gPtr (add p 0) w fun x=>bnd (C Bc4 [.pointer x] w) fun q1 w1=>aInt .i64 q1 fun z1=>some (decide (lo>z1),w1))) fun c_1 w2=>bnd (cond c_1 (some (true,w2)) (aSome r fun p_1=>gPtr (add p_1 0) w2 fun z2=>bnd (C Bc4 [.pointer z2] w2) fun q2 w3=>aInt .i64 q2 fun z3=>some (decide (n>(wrap .i64 (z3-lo))),w3))) fun c_2 w4=>cond c_2
 (some (.tuple ⟨[iI 0,iI 1]⟩,w4))
 (aSome r fun p_2=>gSl (add p_2 2) w4 fun _ xn _=>cond (decide ((xn:Int)≥32))
 (some (.tuple ⟨[iI 0,iI 4]⟩,w4))
 (aSome r fun p_3=>gSl (add p_3 2) w4 fun z5 xn_1 xc_1=>nw (.cells A36 false [iI lo,iI n]) w4 fun b w5=>gCells (some ⟨b,0,none⟩) (1*2) w5 fun cs=>ckB (fitsOpen z5 A36 w5) (apd A36 2 z5 xn_1 xc_1 1 cs w5 fun a an ac w6=>aSome r fun p_4=>pV (add p_4 2) (.slice a an ac) w6 fun w7=>aSome r fun p_5=>gSl (add p_5 2) w7 fun _ xn_2 _=>some (.tuple ⟨[iI (wrap .i64 ((xn_2:Int)-1)),iI 0]⟩,w7)))):=kR
def A45:Cuts:=⟨2,[(3,[0,1,5,6])],[],[]⟩
def Bq1:List Item:=A6 Tryz.f144
def Ar5:List Item:=stk [0,1,0,1,0,0,1,4,5] Bq1
theorem Gf7 (s:Int) :
 xQ A45 C R Q5 Tryz.f144 Bq1 [(0,.pointer q),(1,iI s)] h =
 R Q5 Ar5 [(0,.pointer q),(1,iI s),(5,iI 0),(6,iI 0)] h:=kR
theorem B79 (s:Int) :
 xQ A45 C R Q5 Tryz.f144 Ar5 [(0,.pointer q),(1,iI s),(5,iI n),(6,iI i)] h =
 cond (decide (i<s))
 (aSome q fun p=>gSl (add p 0) h fun x xn _=>aSome x fun p_1=>ck ((0:Int)≤i∧i<(xn:Int)) (gSl (add (B0 p_1) (Int.toNat i*1)) h fun _ xn_1 _=>R Q5 Ar5 [(0,.pointer q),(1,iI s),(5,iI (wrap .i64 (n+(xn_1:Int)))),(6,iI (wrap .i64 (i+1)))] h))
 (some (iI n,h)):=kR
def Bo0:Cuts:=⟨2,[(3,[0,3,4])],[],[(5,⟨[0,1,2,3,4,5,6,7,8,9,10],[0,0,2,6,14,0,32,126,255,511,1023],[(5,[4])],[]⟩),(6,⟨[0,1,2,3,4,5,6,7,8,9,10],[0,0,2,6,14,0,32,126,255,511,1023],[],[]⟩)]⟩
def Dc2:List Item:=A6 Tryz.f145
def A43:List Item:=stk [0,1,0,1,0,0,1,4,5] Dc2
theorem G21 :
 xQ Bo0 C R Ad6 Tryz.f145 Dc2 [(0,iI envs)] h =
 nw (.cells E73 false [.slice none 0 0,.slice none 0 0]) h fun b w=>R Ad6 A43 [(0,iI envs),(3,pP b),(4,iI 0)] w:=kR
theorem Dq1 (s:Addr) :
 xQ Bo0 C R Ad6 Tryz.f145 A43 [(0,iI envs),(3,.pointer (some s)),(4,iI i)] h =
 bnd (cond (decide (i<envs)) (some (decide (i<40),h)) (some (false,h))) fun c w=>cond c
 (gSl (add s 0) w fun x xn xc=>bnd (C Ae2 [iI 32] w) fun r w1=>aPtr r fun z1=>gSl (add s 0) w1 fun z2 xn_1 xc_1=>same (.slice x xn xc) (.slice z2 xn_1 xc_1) (nw (.cells Bd9 false [.pointer z1]) w1 fun b w2=>gCells (some ⟨b,0,none⟩) (1*1) w2 fun cs=>ckB (fitsOpen x Bd9 w2) (apd Bd9 1 x xn xc 1 cs w2 fun a an ac w3=>pV (add s 0) (.slice a an ac) w3 fun w4=>gSl (add s 1) w4 fun z3 xn_2 xc_2=>ck ((0:Int)≤32∧(32:Int)≤32∧32≤(A8:Int)) (nw (.cells U3 false (E7 (Int.toNat 32) [iI 0,iI 0,iI 0,iI 0,iI 0,iI 0])) w4 fun p1 w5=>nw (.cells By7 false [.slice (some ⟨p1,0,none⟩) (Int.toNat 32) (Int.toNat 32)]) w5 fun p2 w6=>gCells (some ⟨p2,0,none⟩) (1*1) w6 fun cs_1=>ckB (fitsOpen z3 By7 w6) (apd By7 1 z3 xn_2 xc_2 1 cs_1 w6 fun a_1 an_1 ac_1 w7=>pV (add s 1) (.slice a_1 an_1 ac_1) w7 fun w8=>R Ad6 A43 [(0,iI envs),(3,.pointer (some s)),(4,iI (wrap .i64 (i+1)))] w8)))))
 (some (.pointer (some s),w)):=kR
def Bb6:Cuts:=⟨2,[],[],[]⟩
def B78:List Item:=A6 Tryz.f152
theorem Ep2 (r:Option Addr) (fromv:Int) (to:Int) (on:Int) :
 xQ Bb6 C R Ar9 Tryz.f152 B78 [(0,.pointer r),(1,iI env),(2,iI fromv),(3,iI atv),(4,iI to),(5,iI on),(6,iI n)] h =
 bnd (C Ah5 [.pointer r,iI env,iI fromv,iI atv,iI n] h) fun q1 w=>as2 q1 fun q2 q3=>aSl q2 fun x xn xc=>aInt .i64 q3 fun z1=>cond (z1 != 0)
 (some (iI z1,w))
 (bnd (C Af5 [.pointer r,iI env,iI to,iI on,.slice x xn xc] w) fun q4 w1=>aInt .i64 q4 fun z2=>some (iI z2,w1)):=kR
def Bq5:Cuts:=⟨2,[],[],[]⟩
def Dr9:List Item:=A6 Tryz.f156
theorem E60 (s:Int) (k:Int) :
 xQ Bq5 C R A53 Tryz.f156 Dr9 [(0,.pointer q),(1,iI s),(2,iI k)] h =
 bnd (C An9 [.pointer q,iI s] h) fun r w=>aBool r fun x=>cond (!x)
 (some (iI 1,w))
 (bnd (C A72 [.pointer q,iI s,iI k] w) fun q1 w1=>aBool q1 fun z1=>cond (!z1)
 (some (iI 5,w1))
 (aSome q fun p=>gSl (add p 0) w1 fun z2 xn _=>aSome z2 fun p_1=>ck ((0:Int)≤s∧s<(xn:Int)) (gSl (add (B0 p_1) (Int.toNat s*1)) w1 fun z3 xn_1 _=>aSome z3 fun p_2=>ck ((0:Int)≤k∧k<(xn_1:Int)) (pV (add (B0 p_2) (Int.toNat k*1)) (iI 0) w1 fun w2=>some (iI 0,w2))))):=kR
def B51:Cuts:=⟨2,[],[],[]⟩
def D70:List Item:=A6 Tryz.f161
theorem Gw0 :
 xQ B51 C R Ao4 Tryz.f161 D70 [(0,.pointer s),(1,iI e)] h =
 bnd (cond (decide (e≥0)) (aSome s fun p=>gSl (add p 0) h fun _ xn _=>some (decide (e<(xn:Int)),h)) (some (false,h))) fun c w=>some (.bool c,w):=kR
def Dt6:Cuts:=⟨2,[],[],[]⟩
def E36:List Item:=A6 Tryz.f162
theorem Hm9 :
 xQ Dt6 C R Al6 Tryz.f162 E36 [(0,iI atv),(1,iI n),(2,iI size)] h =
 bnd (cond (decide (atv≥0)) (some (decide (n≥0),h)) (some (false,h))) fun c w=>bnd (cond c (some (decide (atv≤size),w)) (some (false,w))) fun c_1 w1=>bnd (cond c_1 (some (decide (n≤(wrap .i64 (size-atv))),w1)) (some (false,w1))) fun c_2 w2=>some (.bool c_2,w2):=kR
def Ds9:Cuts:=⟨2,[],[],[]⟩
def E10:List Item:=A6 Tryz.f171
theorem Ho2 :
 xQ Ds9 C R Bj2 Tryz.f171 E10 [] h =
 bnd (C At9 [iI 8,.func (.func Ax2) ⟨[]⟩ ⟨[]⟩,.func (.func Ay3) ⟨[]⟩ ⟨[]⟩] h) fun r w=>aPtr r fun x=>some (.pointer x,w):=kR
def Ds1:Cuts:=⟨2,[],[],[]⟩
def E08:List Item:=A6 Tryz.f178
theorem Hl6 :
 xQ Ds1 C R B21 Tryz.f178 E08 [(0,.pointer c),(1,iI i),(2,iI fd),(3,.slice b bn bc)] h =
 nw (.cells Q2 false [iI 0,iI 0,.slice none 0 0,.bool false]) h fun p1 w=>bnd (C Dj2 [.pointer c,iI i,iI fd] w) fun r w1=>as3 r fun q1 q2 q3=>aInt .i64 q1 fun _=>aAgg q2 fun z1=>aInt .i64 q3 fun z2=>nw (.cells D3 false [iI 0,iI 0,iI 0,iI 0]) w1 fun p2 w2=>ck (List.length z1=4) (pAgg ⟨p2,0,none⟩ z1 w2 fun w3=>cond (z2 != 0)
 (bnd (C U5 [iI z2] w3) fun q4 w4=>aAgg q4 fun z3=>ck (List.length z3=4) (pAgg ⟨p1,0,none⟩ z3 w4 fun w5=>gAgg ⟨p1,0,none⟩ 4 w5 fun z4=>some (.agg ⟨z4⟩,w5)))
 (gInt .i64 ⟨p2,0,none⟩ w3 fun z5=>cond (z5 != 2)
 (bnd (C U5 [iI 109] w3) fun q5 w6=>aAgg q5 fun z6=>ck (List.length z6=4) (pAgg ⟨p1,0,none⟩ z6 w6 fun w7=>gAgg ⟨p1,0,none⟩ 4 w7 fun z7=>some (.agg ⟨z7⟩,w7)))
 (cond (decide ((bn:Int)>32))
 (bnd (C U5 [iI 122] w3) fun q6 w8=>aAgg q6 fun z8=>ck (List.length z8=4) (pAgg ⟨p1,0,none⟩ z8 w8 fun w9=>gAgg ⟨p1,0,none⟩ 4 w9 fun z9=>some (.agg ⟨z9⟩,w9)))
 (cond ((bn:Int)==0)
 (pAgg ⟨p1,0,none⟩ [iI 0,iI 0,.slice none 0 0,.bool false] w3 fun w10=>gAgg ⟨p1,0,none⟩ 4 w10 fun z10=>some (.agg ⟨z10⟩,w10))
 (gAgg ⟨p2,0,none⟩ 4 w3 fun z11=>bnd (C Da9 [.pointer c,.agg ⟨z11⟩] w3) fun q7 w11=>as2 q7 fun q8 q9=>aAgg q8 fun z12=>aBool q9 fun z13=>nw (.cells De3 false [iI 0,iI 0,iI 0,iI 0,.int .u8 0,.int .u8 0,.int .u8 0,.int .u8 0,.int .u8 0,.int .u8 0,.int .u8 0,.int .u8 0,.int .u8 0,.int .u8 0,.int .u8 0,.int .u8 0,.int .u8 0,.int .u8 0,.int .u8 0,.int .u8 0,.int .u8 0,.int .u8 0,.int .u8 0,.int .u8 0,.int .u8 0,.int .u8 0,.int .u8 0,.int .u8 0,.int .u8 0,.int .u8 0,.int .u8 0,.int .u8 0,.int .u8 0,.int .u8 0,.int .u8 0,.int .u8 0,.nilFunc]) w11 fun p3 w12=>ck (List.length z12=37) (pAgg ⟨p3,0,none⟩ z12 w12 fun w13=>cond (!z13)
 (bnd (C U5 [iI 105] w13) fun q10 w14=>aAgg q10 fun z14=>ck (List.length z14=4) (pAgg ⟨p1,0,none⟩ z14 w14 fun w15=>gAgg ⟨p1,0,none⟩ 4 w15 fun z15=>some (.agg ⟨z15⟩,w15)))
 (gInt .i64 ⟨p3,2,none⟩ w13 fun z16=>cond (z16==0)
 (bnd (C G81 [.pointer c,iI i] w13) fun q11 w16=>aAgg q11 fun z17=>ck (List.length z17=4) (pAgg ⟨p1,0,none⟩ z17 w16 fun w17=>gAgg ⟨p1,0,none⟩ 4 w17 fun z18=>some (.agg ⟨z18⟩,w17)))
 (gInt .i64 ⟨p3,1,none⟩ w13 fun z19=>bnd (cond ((wrap .i64 (32-z19))==0) (some (true,w13)) (bnd (cond (decide ((bn:Int)≤8)) (some (decide ((wrap .i64 (32-z19))<(bn:Int)),w13)) (some (false,w13))) fun c_1 w18=>some (c_1,w18))) fun c_2 w19=>cond c_2
 (gAgg ⟨p2,0,none⟩ 4 w19 fun z20=>bnd (C A38 [.agg ⟨z20⟩] w19) fun q12 w20=>aAgg q12 fun z21=>ck (List.length z21=4) (pAgg ⟨p1,0,none⟩ z21 w20 fun w21=>gAgg ⟨p1,0,none⟩ 4 w21 fun z22=>some (.agg ⟨z22⟩,w21)))
 (gAgg ⟨p3,0,none⟩ 36 w19 fun z23=>bnd (C A64 [.agg ⟨z23⟩,.slice b bn bc] w19) fun q13 w22=>as2 q13 fun q14 q15=>aAgg q14 fun z24=>aInt .i64 q15 fun z25=>nw (.cells D1 false zZ2) w22 fun p4 w23=>ck (List.length z24=36) (pAgg ⟨p4,0,none⟩ z24 w23 fun w24=>gFv ⟨p3,36,none⟩ w24 fun z26=>gAgg ⟨p4,0,none⟩ 36 w24 fun z27=>aFn z26 fun g fi cp=>bnd (C g (fi++([.agg ⟨z27⟩]++cp)) w24) fun q16 w25=>aBool q16 fun z28=>cond (!z28)
 (bnd (C U5 [iI 105] w25) fun q17 w26=>aAgg q17 fun z29=>ck (List.length z29=4) (pAgg ⟨p1,0,none⟩ z29 w26 fun w27=>gAgg ⟨p1,0,none⟩ 4 w27 fun z30=>some (.agg ⟨z30⟩,w27)))
 (pAgg ⟨p1,0,none⟩ [iI z25,iI 0,.slice none 0 0,.bool false] w25 fun w28=>gAgg ⟨p1,0,none⟩ 4 w28 fun z31=>some (.agg ⟨z31⟩,w28)))))))))))):=kR
def Bd8:Cuts:=⟨2,[(3,[0,3,5,17,18]),(9,[0,5,31,32]),(19,[0,57,58])],[],[(15,⟨[0,1,2,3,4,5,6,7,8],[0,1,0,4,12,28,63,127,255],[],[]⟩)]⟩
def Bq2:List Item:=A6 Tryz.f185
def A41:List Item:=stk [0,1,0,1,0,0,1,4,5] Bq2
def Ar6:List Item:=stk [0,1,0,1,0,1,0,0,1,4,5] Bq2
def Ar8:List Item:=stk [0,1,0,1,0,1,0,1,0,0,1,4,5] Bq2
theorem H50 :
 xQ Bd8 C R I4 Tryz.f185 Bq2 [(0,.pointer c),(1,.agg ⟨p⟩)] h =
 nw (.cells D0 false p) h fun b w=>nw (.cells Ez8 false zZ3) w fun p1 w1=>gAgg ⟨b,8,none⟩ 8 w1 fun x=>R I4 A41 [(0,.pointer c),(3,pP b),(5,pP p1),(17,.agg ⟨x⟩),(18,iI 0)] w1:=kR
theorem Ec5 (p:Addr) (x17:List Value) (x18:Int) :
 xQ Bd8 C R I4 Tryz.f185 A41 [(0,.pointer c),(3,.pointer (some p)),(5,.pointer (some more)),(17,.agg ⟨x17⟩),(18,iI x18)] h =
 cond (decide (x18<8))
 (ck ((0:Int)≤x18∧x18<((8:Nat):Int)) (nth x17 (Int.toNat x18*1) fun x=>aInt .i64 x fun z1=>cond (decide (z1>0))
 (ck ((0:Int)≤wrap .i64 (z1-1)∧wrap .i64 (z1-1)<((12:Nat):Int)) (gInt .i64 (add more (Int.toNat (wrap .i64 (z1-1))*1)) h fun z2=>ck ((0:Int)≤wrap .i64 (z1-1)∧wrap .i64 (z1-1)<((12:Nat):Int)) (pV (add more (Int.toNat (wrap .i64 (z1-1))*1)) (iI (wrap .i64 (z2+1))) h fun w=>R I4 A41 [(0,.pointer c),(3,.pointer (some p)),(5,.pointer (some more)),(17,.agg ⟨x17⟩),(18,iI (wrap .i64 (x18+1)))] w)))
 (R I4 A41 [(0,.pointer c),(3,.pointer (some p)),(5,.pointer (some more)),(17,.agg ⟨x17⟩),(18,iI (wrap .i64 (x18+1)))] h)))
 (gAgg (add p 8) 8 h fun z3=>R I4 Ar6 [(0,.pointer c),(5,.pointer (some more)),(31,.agg ⟨z3⟩),(32,iI 0)] h):=kR
theorem Ed8 (x31:List Value) (x32:Int) :
 xQ Bd8 C R I4 Tryz.f185 Ar6 [(0,.pointer c),(5,.pointer (some more)),(31,.agg ⟨x31⟩),(32,iI x32)] h =
 cond (decide (x32<8))
 (ck ((0:Int)≤x32∧x32<((8:Nat):Int)) (nth x31 (Int.toNat x32*1) fun x=>aInt .i64 x fun z1=>cond (z1==0)
 (R I4 Ar6 [(0,.pointer c),(5,.pointer (some more)),(31,.agg ⟨x31⟩),(32,iI (wrap .i64 (x32+1)))] h)
 (bnd (C M8 [.pointer c,iI (wrap .i64 (z1-1))] h) fun r w=>as2 r fun q1 q2=>aAgg q1 fun z2=>aInt .i64 q2 fun z3=>nw (.cells D3 false [iI 0,iI 0,iI 0,iI 0]) w fun b w1=>ck (List.length z2=4) (pAgg ⟨b,0,none⟩ z2 w1 fun w2=>cond (z3 != 1)
 (some (iI 105,w2))
 (gInt .i64 ⟨b,2,none⟩ w2 fun z4=>ck ((0:Int)≤wrap .i64 (z1-1)∧wrap .i64 (z1-1)<((12:Nat):Int)) (gInt .i64 (add more (Int.toNat (wrap .i64 (z1-1))*1)) w2 fun z5=>cond (decide ((wrap .i64 (z4+z5))>64))
 (some (iI 123,w2))
 (R I4 Ar6 [(0,.pointer c),(5,.pointer (some more)),(31,.agg ⟨x31⟩),(32,iI (wrap .i64 (x32+1)))] w2)))))))
 (gAgg more 12 h fun z6=>R I4 Ar8 [(0,.pointer c),(57,.agg ⟨z6⟩),(58,iI 0)] h):=kR
theorem Ec7 (x57:List Value) (x58:Int) :
 xQ Bd8 C R I4 Tryz.f185 Ar8 [(0,.pointer c),(57,.agg ⟨x57⟩),(58,iI x58)] h =
 cond (decide (x58<12))
 (ck ((0:Int)≤x58∧x58<((12:Nat):Int)) (nth x57 (Int.toNat x58*1) fun x=>aInt .i64 x fun z1=>cond (z1==0)
 (R I4 Ar8 [(0,.pointer c),(57,.agg ⟨x57⟩),(58,iI (wrap .i64 (x58+1)))] h)
 (bnd (C M8 [.pointer c,iI x58] h) fun r w=>as2 r fun q1 q2=>aAgg q1 fun z2=>aInt .i64 q2 fun _=>nw (.cells D3 false [iI 0,iI 0,iI 0,iI 0]) w fun b w1=>ck (List.length z2=4) (pAgg ⟨b,0,none⟩ z2 w1 fun w2=>gInt .i64 ⟨b,2,none⟩ w2 fun z4=>pV ⟨b,2,none⟩ (iI (wrap .i64 (z4+z1))) w2 fun w3=>gAgg ⟨b,0,none⟩ 4 w3 fun z5=>bnd (C N8 [.pointer c,iI x58,.agg ⟨z5⟩] w3) fun q3 w4=>aBool q3 fun z6=>cond (!z6)
 (some (iI 105,w4))
 (R I4 Ar8 [(0,.pointer c),(57,.agg ⟨x57⟩),(58,iI (wrap .i64 (x58+1)))] w4)))))
 (some (iI 0,h)):=kR
def E84:Cuts:=⟨2,[],[],[]⟩
def He5:List Item:=A6 Tryz.f200
theorem I04 :
 xQ E84 C R Dp4 Tryz.f200 He5 [(0,iI n)] h =
 bnd (cond (decide (n≥0)) (some (decide (n≤65535),h)) (some (false,h))) fun c w=>some (.bool c,w):=kR
def O6:Cuts:=⟨2,[(3,[0,3,9,10,11]),(11,[6,25,26,27])],[],[]⟩
def V2:List Item:=A6 Tryz.f201
def Ab3:List Item:=stk [0,1,0,1,0,0,1,4,5] V2
def Ab6:List Item:=stk [0,1,0,1,0,1,0,1,0,0,1,4,5] V2
theorem By6 :
 xQ O6 C R D5 Tryz.f201 V2 [(0,.slice slices slicesn slicesc)] h =
 R D5 Ab3 [(0,.slice slices slicesn slicesc),(3,iI 0),(9,.slice slices slicesn slicesc),(10,iI (slicesn:Int)),(11,iI 0)] h:=kR
theorem Ab7 (x9:Option Addr) (x9n x9c:Nat) (x11:Int) :
 xQ O6 C R D5 Tryz.f201 Ab3 [(0,.slice slices slicesn slicesc),(3,iI size),(9,.slice x9 x9n x9c),(10,iI x10),(11,iI x11)] h =
 cond (decide (x11<x10))
 (aSome x9 fun p=>ck ((0:Int)≤x11∧x11<(x9n:Int)) (gSl (add (B0 p) (Int.toNat x11*1)) h fun _ xn _=>cond (decide ((wrap .i64 (size+(xn:Int)))<0))
 (none)
 (R D5 Ab3 [(0,.slice slices slicesn slicesc),(3,iI (wrap .i64 (size+(xn:Int)))),(9,.slice x9 x9n x9c),(10,iI x10),(11,iI (wrap .i64 (x11+1)))] h)))
 (bnd (C N1 [.slice none 0 0,iI size] h) fun r w=>aSl r fun z1 xn_1 xc_1=>R D5 Ab6 [(6,.slice z1 xn_1 xc_1),(25,.slice slices slicesn slicesc),(26,iI (slicesn:Int)),(27,iI 0)] w):=kR
theorem Aa9 (newslice:Option Addr) (newslicen newslicec:Nat) (x25:Option Addr) (x25n x25c:Nat) (x26:Int) (x27:Int) :
 xQ O6 C R D5 Tryz.f201 Ab6 [(6,.slice newslice newslicen newslicec),(25,.slice x25 x25n x25c),(26,iI x26),(27,iI x27)] h =
 cond (decide (x27<x26))
 (aSome x25 fun p=>ck ((0:Int)≤x27∧x27<(x25n:Int)) (gSl (add (B0 p) (Int.toNat x27*1)) h fun x xn _=>gCells x (xn*3) h fun cs=>ckB (fitsOpen newslice P6 h) (apd P6 3 newslice newslicen newslicec xn cs h fun a an ac w=>R D5 Ab6 [(6,.slice a an ac),(25,.slice x25 x25n x25c),(26,iI x26),(27,iI (wrap .i64 (x27+1)))] w)))
 (some (.slice newslice newslicen newslicec,h)):=kR
def Am4:Cuts:=⟨2,[],[],[(2,⟨[0,1,2,3,4,5,6,7,8,9,10,11,12,13,14],[0,1,3,7,15,31,63,127,255,511,63,63,4095,8191,16383],[],[]⟩)]⟩
def A95:List Item:=A6 Tryz.f203
theorem Dg3 (v:List Value) :
 xQ Am4 C R Aa1 Tryz.f203 A95 [(0,.pointer c),(1,.agg ⟨v⟩)] h =
 nw (.cells D0 false v) h fun b w=>aSome c fun p=>gInt .i64 (add p 0) w fun x=>ck ((0:Int)≤x∧(x:Int)≤x∧x≤(A8:Int)) (nw (.cells A5 false (E7 (Int.toNat x) [.int .u8 0])) w fun p1 w1=>aSome c fun p_1=>gFv (add p_1 1) w1 fun z1=>isNilF z1 fun p2=>bnd (cond p2 (some (true,w1)) (aSome c fun p_2=>gFv (add p_2 1) w1 fun z2=>gAgg ⟨b,0,none⟩ 16 w1 fun z3=>aFn z2 fun g fi cp=>bnd (C g (fi++([.agg ⟨z3⟩,.slice (some ⟨p1,0,none⟩) (Int.toNat x) (Int.toNat x)]++cp)) w1) fun r w2=>aBool r fun z4=>some (!z4,w2))) fun c_1 w3=>cond c_1
 (some (.tuple ⟨[.slice none 0 0,.bool false]⟩,w3))
 (some (.tuple ⟨[.slice (some ⟨p1,0,none⟩) (Int.toNat x) (Int.toNat x),.bool true]⟩,w3))):=kR
def Bg5:Cuts:=⟨2,[],[(18,[0,5,7])],[]⟩
def B47:List Item:=A6 Tryz.f204
def A19:List Item:=stk [0,1,0,1,0,1,0,1,0,1,0,1,0,1,0,1,0,1,0,1,0,0] B47
theorem Gt0 :
 xQ Bg5 C R Ab8 Tryz.f204 B47 [(0,.pointer c),(1,iI f)] h =
 bnd (C B6 [.pointer c] h) fun r w=>as0 r (bnd (C M8 [.pointer c,iI f] w) fun q1 w1=>as2 q1 fun q2 q3=>aAgg q2 fun x=>aInt .i64 q3 fun z1=>nw (.cells D3 false [iI 0,iI 0,iI 0,iI 0]) w1 fun b w2=>ck (List.length x=4) (pAgg ⟨b,0,none⟩ x w2 fun w3=>cond (z1 != 1)
 (some (iI 105,w3))
 (gInt .i64 ⟨b,2,none⟩ w3 fun z2=>pV ⟨b,2,none⟩ (iI (wrap .i64 (z2-1))) w3 fun w4=>gInt .i64 ⟨b,2,none⟩ w4 fun z3=>cond (decide (z3>0))
 (gAgg ⟨b,0,none⟩ 4 w4 fun z4=>bnd (C N8 [.pointer c,iI f,.agg ⟨z4⟩] w4) fun q4 w5=>aBool q4 fun z5=>bnd (C A75 [.bool z5,iI 0] w5) fun q5 w6=>aAgg q5 fun z6=>nth z6 1 fun E=>aInt .i64 E fun E_1=>some (iI E_1,w6))
 (bnd (C Ag4 [.pointer c,iI f] w4) fun q6 w7=>aBool q6 fun z7=>cond (!z7)
 (some (iI 105,w7))
 (gInt .i64 ⟨b,0,none⟩ w7 fun z8=>cond (z8==3)
 (some (iI 0,w7))
 (gInt .i64 ⟨b,1,none⟩ w7 fun z9=>bnd (C Q8 [.pointer c,iI z9] w7) fun q7 w8=>as2 q7 fun q8 q9=>aAgg q8 fun z10=>aInt .i64 q9 fun z11=>nw (.cells D1 false zZ2) w8 fun p1 w9=>ck (List.length z10=36) (pAgg ⟨p1,0,none⟩ z10 w9 fun w10=>cond (z11 != 1)
 (some (iI 105,w10))
 (gInt .i64 ⟨b,0,none⟩ w10 fun z12=>cond (z12==1)
 (gInt .i64 ⟨p1,2,none⟩ w10 fun z13=>pV ⟨p1,2,none⟩ (iI (mm2 true (wrap .i64 (z13-1)) 0)) w10 fun w11=>R Ab8 A19 [(0,.pointer c),(5,pP b),(7,pP p1)] w11)
 (gInt .i64 ⟨p1,3,none⟩ w10 fun z14=>pV ⟨p1,3,none⟩ (iI (mm2 true (wrap .i64 (z14-1)) 0)) w10 fun w12=>R Ab8 A19 [(0,.pointer c),(5,pP b),(7,pP p1)] w12))))))))):=kR
theorem E45 (p:Addr) :
 xQ Bg5 C R Ab8 Tryz.f204 A19 [(0,.pointer c),(5,.pointer (some x)),(7,.pointer (some p))] h =
 gInt .i64 (add p 2) h fun z1=>gInt .i64 (add p 3) h fun z2=>bnd (cond ((wrap .i64 (z1+z2))==0) (gInt .i64 (add x 1) h fun z3=>some (decide (z3<4),h)) (some (false,h))) fun c_1 w=>cond c_1
 (gInt .i64 (add x 1) w fun z4=>bnd (C Ag3 [.pointer c,iI z4] w) fun r w1=>aBool r fun z5=>bnd (C A75 [.bool z5,iI 0] w1) fun q1 w2=>aAgg q1 fun z6=>nth z6 1 fun E=>aInt .i64 E fun E_1=>some (iI E_1,w2))
 (gInt .i64 (add x 1) w fun z7=>gAgg p 36 w fun z8=>bnd (C S6 [.pointer c,iI z7,.agg ⟨z8⟩] w) fun q2 w3=>aBool q2 fun z9=>bnd (C A75 [.bool z9,iI 0] w3) fun q3 w4=>aAgg q3 fun z10=>nth z10 1 fun E_2=>aInt .i64 E_2 fun E_3=>some (iI E_3,w4)):=kR
def Af6:Cuts:=⟨2,[(4,[0,1,12,13])],[],[(6,⟨[0,1,2,3,4,5,6,7,8],[0,0,3,7,0,0,48,112,255],[],[]⟩)]⟩
def As8:List Item:=A6 Tryz.f213
def Aa0:List Item:=stk [0,1,0,1,0,0,1,4,5] As8
theorem Ds4 :
 xQ Af6 C R D4 Tryz.f213 As8 [(0,.slice s1 s1n s1c),(1,.slice s2 s2n s2c)] h =
 cond ((s1n:Int) != (s2n:Int))
 (some (.bool false,h))
 (R D4 Aa0 [(0,.slice s1 s1n s1c),(1,.slice s2 s2n s2c),(12,iI (s1n:Int)),(13,iI 0)] h):=kR
theorem A97 (x13:Int) :
 xQ Af6 C R D4 Tryz.f213 Aa0 [(0,.slice s1 s1n s1c),(1,.slice s2 s2n s2c),(12,iI x12),(13,iI x13)] h =
 cond (decide (x13<x12))
 (aSome s1 fun p=>ck ((0:Int)≤x13∧x13<(s1n:Int)) (gInt .u8 (add (B0 p) (Int.toNat x13*1)) h fun x=>aSome s2 fun p_1=>ck ((0:Int)≤x13∧x13<(s2n:Int)) (gInt .u8 (add (B0 p_1) (Int.toNat x13*1)) h fun z1=>cond (x != z1)
 (some (.bool false,h))
 (R D4 Aa0 [(0,.slice s1 s1n s1c),(1,.slice s2 s2n s2c),(12,iI x12),(13,iI (wrap .i64 (x13+1)))] h))))
 (some (.bool true,h)):=kR
def Bq7:Cuts:=⟨2,[],[],[]⟩
def Dp3:List Item:=A6 Tryz.f219
theorem E70 :
 xQ Bq7 C R Aq9 Tryz.f219 Dp3 [(0,iI n)] h =
 bnd (cond (decide (n≥0)) (some (decide (n≤65536),h)) (some (false,h))) fun c w=>some (.bool c,w):=kR
def B48:Cuts:=⟨2,[],[],[]⟩
def D80:List Item:=A6 Tryz.f225
theorem Gt9 :
 xQ B48 C R Az9 Tryz.f225 D80 [(0,.pointer s),(1,iI env),(2,iI name)] h =
 nw (.cells U3 false [iI 0,iI 0,iI 0,iI 0,iI 0,iI 0]) h fun b w=>bnd (C Ak1 [.pointer s,iI env] w) fun r w1=>aBool r fun x=>cond (!x)
 (pAgg ⟨b,0,none⟩ [iI 0,iI 0,iI 0,iI 0,iI 0,iI 0] w1 fun w2=>gAgg ⟨b,0,none⟩ 6 w2 fun z1=>some (.tuple ⟨[.agg ⟨z1⟩,iI 2]⟩,w2))
 (aSome s fun p=>gSl (add p 0) w1 fun z2 xn _=>aSome z2 fun p_1=>ck ((0:Int)≤env∧env<(xn:Int)) (gPtr (add (B0 p_1) (Int.toNat env*1)) w1 fun z3=>bnd (C Ai1 [.pointer z3,iI name] w1) fun q1 w3=>as2 q1 fun q2 q3=>aAgg q2 fun z4=>aBool q3 fun z5=>nw (.cells U3 false [iI 0,iI 0,iI 0,iI 0,iI 0,iI 0]) w3 fun p1 w4=>ck (List.length z4=6) (pAgg ⟨p1,0,none⟩ z4 w4 fun w5=>cond (!z5)
 (pAgg ⟨b,0,none⟩ [iI 0,iI 0,iI 0,iI 0,iI 0,iI 0] w5 fun w6=>gAgg ⟨b,0,none⟩ 6 w6 fun z6=>some (.tuple ⟨[.agg ⟨z6⟩,iI 2]⟩,w6))
 (gAgg ⟨p1,0,none⟩ 6 w5 fun z7=>ck (List.length z7=6) (pAgg ⟨b,0,none⟩ z7 w5 fun w7=>gAgg ⟨b,0,none⟩ 6 w7 fun z8=>some (.tuple ⟨[.agg ⟨z8⟩,iI 0]⟩,w7)))))):=kR
def Y2:Cuts:=⟨2,[(18,[0,1,2])],[(10,[0,1,2]),(11,[0,1,2]),(14,[0,1,2]),(17,[])],[(11,⟨[0,1,2,3,4,5,6,7,8,9,10,11,12,13,14,15,16],[0,1,3,7,15,31,31,95,223,479,1023,31,2079,6175,14367,32767,65535],[],[]⟩),(18,⟨[0,1,2,3,4,5,6,7,8,9,10,11,12,13,14,15,16,17,18,19,20],[0,1,3,7,15,31,0,127,255,511,511,1535,3583,7679,16383,511,33279,98815,229887,524287,1048575],[],[]⟩)]⟩
def Ad4:List Item:=A6 Tryz.f231
def Aw2:List Item:=stk [0,1,0,1,0,1,0,1,0,1,0,0,1,2,0,1] Ad4
def Au5:List Item:=stk [0,1,0,1,0,1,0,1,0,1,0,1,0,0] Ad4
def Av2:List Item:=stk [0,1,0,1,0,1,0,1,0,1,0,1,0,1,0,0] Ad4
def Av1:List Item:=stk [0,1,0,1,0,1,0,1,0,1,0,1,0,1,0,0,1,2,0,1,0] Ad4
def Aj9:List Item:=stk [0,1,0,1,0,1,0,1,0,1,0,1,0,1,0,1,0,4,5] Ad4
theorem Gm1 :
 xQ Y2 C R B9 Tryz.f231 Ad4 [(0,.pointer s),(1,iI who),(2,iI now)] h =
 aSome s fun p=>gInt .i64 (add p 7) h fun x=>bnd (cond (decide (who<0)) (some (true,h)) (some (decide (who>99),h))) fun c w=>cond c
 (some (.tuple ⟨[iI 0,.bool false]⟩,w))
 (aSome s fun p_1=>pV (add p_1 7) (iI (mm2 true now x)) w fun w1=>aSome s fun p_2=>gBool (add p_2 1) w1 fun z1=>bnd (cond z1 (aSome s fun p_3=>gInt .i64 (add p_3 2) w1 fun z2=>some (z2==who,w1)) (some (false,w1))) fun c_1 w2=>cond c_1
 (aSome s fun p_4=>gInt .i64 (add p_4 3) w2 fun z3=>some (.tuple ⟨[iI z3,.bool true]⟩,w2))
 (aSome s fun p_5=>gSl (add p_5 5) w2 fun z4 xn xc=>bnd (C P7 [.slice z4 xn xc,iI who] w2) fun r w3=>aBool r fun z5=>cond (!z5)
 (aSome s fun p_6=>gSl (add p_6 5) w3 fun _ xn_1 _=>cond ((xn_1:Int)==0)
 (aSome s fun p_7=>pV (add p_7 6) (iI (mm2 true now x)) w3 fun w4=>R B9 Aw2 [(0,.pointer s),(1,iI who),(2,iI (mm2 true now x))] w4)
 (R B9 Aw2 [(0,.pointer s),(1,iI who),(2,iI (mm2 true now x))] w3))
 (R B9 Au5 [(0,.pointer s),(1,iI who),(2,iI (mm2 true now x))] w3))):=kR
theorem Es7 :
 xQ Y2 C R B9 Tryz.f231 Aw2 [(0,.pointer s),(1,iI who),(2,iI now)] h =
 aSome s fun p=>gSl (add p 5) h fun x xn xc=>nw (.cells B5 false [iI who]) h fun b w=>gCells (some ⟨b,0,none⟩) (1*1) w fun cs=>ckB (fitsOpen x B5 w) (apd B5 1 x xn xc 1 cs w fun a an ac w1=>aSome s fun p_1=>pV (add p_1 5) (.slice a an ac) w1 fun w2=>R B9 Au5 [(0,.pointer s),(1,iI who),(2,iI now)] w2):=kR
theorem Ev9 :
 xQ Y2 C R B9 Tryz.f231 Au5 [(0,.pointer s),(1,iI who),(2,iI now)] h =
 aSome s fun p=>gBool (add p 1) h fun x=>bnd (cond x (aSome s fun p_1=>gInt .i64 (add p_1 4) h fun z1=>aSome s fun p_2=>gInt .i64 (add p_2 0) h fun z2=>some (decide ((wrap .i64 (now-z1))≥z2),h)) (some (false,h))) fun c w=>cond c
 (aSome s fun p_3=>pV (add p_3 1) (.bool false) w fun w1=>aSome s fun p_4=>pV (add p_4 6) (iI now) w1 fun w2=>R B9 Av2 [(0,.pointer s),(1,iI who),(2,iI now)] w2)
 (R B9 Av2 [(0,.pointer s),(1,iI who),(2,iI now)] w):=kR
theorem Eu7 :
 xQ Y2 C R B9 Tryz.f231 Av2 [(0,.pointer s),(1,iI who),(2,iI now)] h =
 aSome s fun p=>gBool (add p 1) h fun x=>cond x
 (aSome s fun p_1=>gSl (add p_1 5) h fun z1 xn _=>aSome z1 fun p_2=>ck ((0:Int)≤0∧0<(xn:Int)) (gInt .i64 (add (B0 p_2) (Int.toNat 0*1)) h fun z2=>cond (z2==who)
 (aSome s fun p_3=>pV (add p_3 6) (iI now) h fun w=>R B9 Av1 [] w)
 (R B9 Av1 [] h)))
 (R B9 Aj9 [(0,.pointer s),(1,iI who),(2,iI now)] h):=kR
theorem Et4 :
 xQ Y2 C R B9 Tryz.f231 Av1 [] h =
 some (.tuple ⟨[iI 0,.bool false]⟩,h):=kR
theorem Db4 :
 xQ Y2 C R B9 Tryz.f231 Aj9 [(0,.pointer s),(1,iI who),(2,iI now)] h =
 aSome s fun p=>gSl (add p 5) h fun x xn _=>aSome x fun p_1=>ck ((0:Int)≤0∧0<(xn:Int)) (gInt .i64 (add (B0 p_1) (Int.toNat 0*1)) h fun z1=>bnd (cond (z1 != who) (aSome s fun p_2=>gInt .i64 (add p_2 6) h fun z2=>aSome s fun p_3=>gInt .i64 (add p_3 0) h fun z3=>some (decide ((wrap .i64 (now-z2))≥z3),h)) (some (false,h))) fun c w=>cond c
 (aSome s fun p_4=>gSl (add p_4 5) w fun z4 xn_1 xc_1=>ckB (fitsOpen z4 B5 w) (ck ((0:Int)≤1∧1≤(xn_1:Int)) (aSome s fun p_5=>pV (add p_5 5) (.slice (E1 z4 (decide (Int.toNat 1<xc_1)) ((Int.toNat 1)*1)) (xn_1-(Int.toNat 1)) (xc_1-(Int.toNat 1))) w fun w1=>aSome s fun p_6=>pV (add p_6 6) (iI now) w1 fun w2=>R B9 Aj9 [(0,.pointer s),(1,iI who),(2,iI now)] w2)))
 (aSome s fun p_7=>gSl (add p_7 5) w fun z5 xn_2 _=>aSome z5 fun p_8=>ck ((0:Int)≤0∧0<(xn_2:Int)) (gInt .i64 (add (B0 p_8) (Int.toNat 0*1)) w fun z6=>cond (z6 != who)
 (some (.tuple ⟨[iI 0,.bool false]⟩,w))
 (aSome s fun p_9=>gSl (add p_9 5) w fun z7 xn_3 xc_3=>ckB (fitsOpen z7 B5 w) (ck ((0:Int)≤1∧1≤(xn_3:Int)) (aSome s fun p_10=>pV (add p_10 5) (.slice (E1 z7 (decide (Int.toNat 1<xc_3)) ((Int.toNat 1)*1)) (xn_3-(Int.toNat 1)) (xc_3-(Int.toNat 1))) w fun w3=>aSome s fun p_11=>pV (add p_11 6) (iI now) w3 fun w4=>aSome s fun p_12=>gInt .i64 (add p_12 8) w4 fun z8=>aSome s fun p_13=>pV (add p_13 8) (iI (wrap .i64 (z8+1))) w4 fun w5=>aSome s fun p_14=>gInt .i64 (add p_14 8) w5 fun z9=>aSome s fun p_15=>pV (add p_15 1) (.bool true) w5 fun w6=>aSome s fun p_16=>pV (add p_16 2) (iI who) w6 fun w7=>aSome s fun p_17=>pV (add p_17 3) (iI z9) w7 fun w8=>aSome s fun p_18=>pV (add p_18 4) (iI now) w8 fun w9=>aSome s fun p_19=>gInt .i64 (add p_19 3) w9 fun z10=>some (.tuple ⟨[iI z10,.bool true]⟩,w9))))))):=kR
def Bw4:Cuts:=⟨2,[],[],[]⟩
def Dw6:List Item:=A6 Tryz.f232
theorem Gm7 :
 xQ Bw4 C R Ba6 Tryz.f232 Dw6 [(0,.pointer s),(1,iI who),(2,iI stamp)] h =
 bnd (C Al4 [.pointer s,iI who,iI stamp] h) fun r w=>aBool r fun x=>cond (!x)
 (some (.bool false,w))
 (aSome s fun p=>pV (add p 1) (.bool false) w fun w1=>aSome s fun p_1=>gInt .i64 (add p_1 7) w1 fun z1=>aSome s fun p_2=>pV (add p_2 6) (iI z1) w1 fun w2=>some (.bool true,w2)):=kR
def Bi9:Cuts:=⟨2,[(2,[0,4])],[],[]⟩
def B31:List Item:=A6 Tryz.f234
def A15:List Item:=stk [0,1,0,0,1,4,5] B31
theorem Gt1 (n:Option Addr) :
 xQ Bi9 C R Ab0 Tryz.f234 B31 [(0,.pointer n)] h =
 R Ab0 A15 [(0,.pointer n),(4,iI 0)] h:=kR
theorem Dh3 (n:Option Addr) :
 xQ Bi9 C R Ab0 Tryz.f234 A15 [(0,.pointer n),(4,iI i)] h =
 aSome n fun p=>gSl (add p 0) h fun _ xn _=>cond (decide (i<(xn:Int)))
 (aSome n fun p_1=>gSl (add p_1 0) h fun z1 xn_1 _=>aSome z1 fun p_2=>ck ((0:Int)≤i∧i<(xn_1:Int)) (gBool (add (add (B0 p_2) (Int.toNat i*2)) 1) h fun z2=>bnd (cond (!z2) (aSome n fun p_3=>gSl (add p_3 0) h fun z3 xn_2 _=>aSome z3 fun p_4=>ck ((0:Int)≤i∧i<(xn_2:Int)) (gInt .i64 (add (add (B0 p_4) (Int.toNat i*2)) 0) h fun z4=>some (decide (z4≤1000000),h))) (some (false,h))) fun c w=>cond c
 (aSome n fun p_5=>gSl (add p_5 0) w fun z5 xn_3 _=>aSome z5 fun p_6=>ck ((0:Int)≤i∧i<(xn_3:Int)) (pV (add (add (B0 p_6) (Int.toNat i*2)) 1) (.bool true) w fun w1=>aSome n fun p_7=>gSl (add p_7 0) w1 fun z6 xn_4 _=>aSome z6 fun p_8=>ck ((0:Int)≤i∧i<(xn_4:Int)) (gInt .i64 (add (add (B0 p_8) (Int.toNat i*2)) 0) w1 fun z7=>some (.tuple ⟨[iI (wrap .i64 (i+(wrap .i64 (256*z7)))),.bool true]⟩,w1))))
 (R Ab0 A15 [(0,.pointer n),(4,iI (wrap .i64 (i+1)))] w)))
 (some (.tuple ⟨[iI 0,.bool false]⟩,h)):=kR
def Bf8:Cuts:=⟨2,[],[],[]⟩
def B97:List Item:=A6 Tryz.f237
theorem Ex3 (put:Value) (get:Value) :
 xQ Bf8 C R At9 Tryz.f237 B97 [(0,iI size),(1,put),(2,get)] h =
 one put (one get (nw (.cells Ap3 false [iI (mm2 false (mm2 true size 0) 64),put,get]) h fun b w=>some (pP b,w))):=kR
def Ej9:Cuts:=⟨2,[],[],[]⟩
def Gq9:List Item:=A6 Tryz.f238
theorem Ib6 (f:List Value) :
 xQ Ej9 C R Ax2 Tryz.f238 Gq9 [(0,.agg ⟨f⟩),(1,.slice b bn bc)] h =
 nw (.cells D3 false f) h fun p1 w=>gAgg ⟨p1,0,none⟩ 4 w fun x=>bnd (C Dx9 [.agg ⟨x⟩] w) fun r w1=>aBool r fun z1=>cond (!z1)
 (some (.bool false,w1))
 (gInt .i64 ⟨p1,0,none⟩ w1 fun z2=>gInt .i64 ⟨p1,1,none⟩ w1 fun z3=>gInt .i64 ⟨p1,2,none⟩ w1 fun z4=>gInt .i64 ⟨p1,3,none⟩ w1 fun z5=>nw (.cells A5 false [.int .u8 (wrap .u8 (z2)),.int .u8 (wrap .u8 (z3)),.int .u8 (wrap .u8 (z4)),.int .u8 (wrap .u8 (z5)),.int .u8 179]) w1 fun p2 w2=>gCells (some ⟨p2,0,none⟩) (min 5 bn*1) w2 fun cs=>pCells b cs w2 fun w3=>ckB (fitsOpen b A5 w3) (ck ((0:Int)≤5∧5≤(bc:Int)) (bnd (C Af2 [.slice (E1 b (decide (0<bc)) (0*1)) ((Int.toNat 5)-0) (bc-0)] w3) fun q1 w4=>aInt .u8 q1 fun z6=>aSome b fun p=>ck ((0:Int)≤5∧5<(bn:Int)) (pV (add (B0 p) (Int.toNat 5*1)) (.int .u8 z6) w4 fun w5=>some (.bool true,w5))))):=kR
def Et0:Cuts:=⟨2,[],[],[]⟩
def G55:List Item:=A6 Tryz.f243
theorem Ik8 :
 xQ Et0 C R Ak0 Tryz.f243 G55 [(0,iI e)] h =
 nw (.cells Q2 false [iI 0,iI 0,.slice none 0 0,.bool false]) h fun b w=>pAgg ⟨b,0,none⟩ [iI 0,iI e,.slice none 0 0,.bool false] w fun w1=>gAgg ⟨b,0,none⟩ 4 w1 fun x=>some (.agg ⟨x⟩,w1):=kR
def D05:Cuts:=⟨2,[(3,[0,1,2,7,8])],[],[]⟩
def Ez5:List Item:=A6 Tryz.f245
def Bk4:List Item:=stk [0,1,0,1,0,0,1,4,5] Ez5
theorem Im6 :
 xQ D05 C R Ac3 Tryz.f245 Ez5 [(0,iI n),(1,iI want),(2,isv)] h =
 R Ac3 Bk4 [(0,iI n),(1,iI want),(2,isv),(7,.slice none 0 0),(8,iI 0)] h:=kR
theorem Dt4 :
 xQ D05 C R Ac3 Tryz.f245 Bk4 [(0,iI n),(1,iI want),(2,isv),(7,.slice out outn outc),(8,iI i)] h =
 bnd (cond (decide (i<n)) (some (decide ((outn:Int)<want),h)) (some (false,h))) fun c w=>cond c
 (aFn isv fun g fi cp=>bnd (C g (fi++([iI i]++cp)) w) fun r w1=>aBool r fun x=>cond x
 (nw (.cells B5 false [iI i]) w1 fun b w2=>gCells (some ⟨b,0,none⟩) (1*1) w2 fun cs=>ckB (fitsOpen out B5 w2) (apd B5 1 out outn outc 1 cs w2 fun a an ac w3=>R Ac3 Bk4 [(0,iI n),(1,iI want),(2,isv),(7,.slice a an ac),(8,iI (wrap .i64 (i+1)))] w3))
 (R Ac3 Bk4 [(0,iI n),(1,iI want),(2,isv),(7,.slice out outn outc),(8,iI (wrap .i64 (i+1)))] w1))
 (some (.slice out outn outc,w)):=kR
def Av3:Cuts:=⟨2,[],[],[]⟩
def Bn0:List Item:=A6 Tryz.f248
theorem Dy2 :
 xQ Av3 C R S6 Tryz.f248 Bn0 [(0,.pointer c),(1,iI i),(2,.agg ⟨p⟩)] h =
 nw (.cells D1 false p) h fun b w=>gAgg ⟨b,0,none⟩ 36 w fun x=>bnd (C Bk9 [.agg ⟨x⟩] w) fun r w1=>as2 r fun q1 q2=>aSl q1 fun z1 xn xc=>aBool q2 fun z2=>bnd (C Az0 [iI i] w1) fun q3 w2=>aAgg q3 fun z3=>bnd (C N7 [.pointer c,.agg ⟨z3⟩,.slice z1 xn xc,.bool z2] w2) fun q4 w3=>aBool q4 fun z4=>some (.bool z4,w3):=kR
def W5:Cuts:=⟨2,[],[(3,[0,1])],[]⟩
def Aj1:List Item:=A6 Tryz.f266
def At5:List Item:=stk [0,1,0,1,0,0] Aj1
theorem B83 :
 xQ W5 C R N1 Tryz.f266 Aj1 [(0,.slice s sn sc),(1,iI n)] h =
 cond (decide (n<0))
 (none)
 (R N1 At5 [(0,.slice s sn sc),(1,iI n)] h):=kR
theorem Bx7 :
 xQ W5 C R N1 Tryz.f266 At5 [(0,.slice s sn sc),(1,iI n)] h =
 Gb5 s sc fun cap=>cond (decide ((wrap .i64 (n-(wrap .i64 ((cap:Int)-(sn:Int)))))>0))
 (Gb5 s sc fun cap_1=>ckB (fitsOpen s P6 h) (ck ((0:Int)≤(cap_1:Int)∧(cap_1:Int)≤(sc:Int)) (ck ((0:Int)≤wrap .i64 (n-(wrap .i64 ((cap:Int)-(sn:Int))))∧wrap .i64 (n-(wrap .i64 ((cap:Int)-(sn:Int))))≤(A8:Int)) (ckB (fitsOpen (E1 s (decide (0<sc)) (0*3)) P6 h) (apd P6 3 (E1 s (decide (0<sc)) (0*3)) ((Int.toNat (cap_1:Int))-0) (sc-0) (Int.toNat (wrap .i64 (n-(wrap .i64 ((cap:Int)-(sn:Int)))))) (E7 (Int.toNat (wrap .i64 (n-(wrap .i64 ((cap:Int)-(sn:Int)))))) [iI 0,iI 0,iI 0]) h fun a _ ac w=>ckB (fitsOpen a P6 w) (ck ((0:Int)≤(sn:Int)∧(sn:Int)≤(ac:Int)) (some (.slice (E1 a (decide (0<ac)) (0*3)) ((Int.toNat (sn:Int))-0) (ac-0),w))))))))
 (some (.slice s sn sc,h)):=kR
def As5:Cuts:=⟨2,[],[],[]⟩
def Bl3:List Item:=A6 Tryz.f267
theorem Du7 :
 xQ As5 C R Ag4 Tryz.f267 Bl3 [(0,.pointer c),(1,iI i)] h =
 bnd (C Az2 [iI i] h) fun r w=>aAgg r fun x=>bnd (C Ac8 [.pointer c,.agg ⟨x⟩] w) fun q1 w1=>aBool q1 fun z1=>some (.bool z1,w1):=kR
def Du0:Cuts:=⟨2,[],[],[(1,⟨[1,0,2,3,4,5,6],[0,0,3,7,7,31,63],[(0,[1])],[]⟩)]⟩
def E25:List Item:=A6 Tryz.f281
theorem Hm4 :
 xQ Du0 C R Bk9 Tryz.f281 E25 [(0,.agg ⟨p⟩)] h =
 nw (.cells D1 false p) h fun b w=>gAgg ⟨b,0,none⟩ 36 w fun x=>bnd (C Bp4 [] w) fun r w1=>aPtr r fun z1=>gAgg ⟨b,0,none⟩ 36 w1 fun z2=>same (.agg ⟨x⟩) (.agg ⟨z2⟩) (bnd (C Aa2 [.pointer z1,.agg ⟨x⟩] w1) fun q1 w2=>as2 q1 fun q2 q3=>aSl q2 fun z3 xn xc=>aBool q3 fun z4=>some (.tuple ⟨[.slice z3 xn xc,.bool z4]⟩,w2)):=kR
def B92:Cuts:=⟨2,[(5,[1,3,9,10])],[],[]⟩
def Ea1:List Item:=A6 Tryz.f286
def Bo5:List Item:=stk [0,1,0,1,0,1,0,0,1,4,5] Ea1
theorem H25 :
 xQ B92 C R Aq7 Tryz.f286 Ea1 [(0,.agg ⟨p⟩)] h =
 nw (.cells D1 false p) h fun b w=>gAgg ⟨b,0,none⟩ 36 w fun x=>bnd (C B76 [.agg ⟨x⟩] w) fun r w1=>aBool r fun z1=>cond (!z1)
 (some (.slice none 0 0,w1))
 (gInt .i64 ⟨b,1,none⟩ w1 fun z2=>R Aq7 Bo5 [(1,pP b),(3,.slice none 0 0),(9,iI z2),(10,iI 0)] w1):=kR
theorem Eb2 (p:Addr) (x9:Int) :
 xQ B92 C R Aq7 Tryz.f286 Bo5 [(1,.pointer (some p)),(3,.slice out outn outc),(9,iI x9),(10,iI x10)] h =
 cond (decide (x10<x9))
 (gInt .i64 (add p 0) h fun x=>ck ((0:Int)≤Int.tmod (wrap .i64 (x+x10)) 32∧Int.tmod (wrap .i64 (x+x10)) 32<((32:Nat):Int)) (gInt .u8 (add (add p 4) (Int.toNat (Int.tmod (wrap .i64 (x+x10)) 32)*1)) h fun z1=>nw (.cells A5 false [.int .u8 z1]) h fun b w=>gCells (some ⟨b,0,none⟩) (1*1) w fun cs=>ckB (fitsOpen out A5 w) (apd A5 1 out outn outc 1 cs w fun a an ac w1=>R Aq7 Bo5 [(1,.pointer (some p)),(3,.slice a an ac),(9,iI x9),(10,iI (wrap .i64 (x10+1)))] w1)))
 (some (.slice out outn outc,h)):=kR
end
end Go.EQ

set_option maxRecDepth 100000
namespace Go.EQ
open Go Go.NN Go.Proofs
open Go.IntKind (wrap)
open Go.Addr (add)
variable (C:D8) (R:Ad8) (fv0 random:Addr) (wasBalanced wasPartitioned:Bool) (h:H) (a atv e env fd i idx j length limit lo modulus n name pivot size to x x10 x9:Int) (f p:List Value) (bc bn datac datan lc ln sc sn:Nat) (b c data k l m q r s w:Option Addr) (cmp:Value)
noncomputable section
def B52:Cuts:=⟨2,[],[(11,[2])],[(2,⟨[0,1,2,3,4,5,6,7,12,8,9,10,11,13,14],[0,1,3,7,0,16,48,112,255,511,1023,1023,0,6143,16383],[],[]⟩)]⟩
def B64:List Item:=A6 Tryz.f10
def Dh8:List Item:=stk [0,1,0,1,0,1,0,4,0,1,3,0,1,3,0,1,2,0,1,0] B64
theorem Bi6 :
 xQ B52 C R J7 Tryz.f10 B64 [(0,.pointer w)] h =
 nw (.cells W9 false [iI 0,iI 0,iI 0,iI 0,iI 0,.slice none 0 0,iI 0,iI 0,.slice none 0 0,.bool false,.slice none 0 0,iI 0]) h fun b w1=>aSome w fun p=>gPtr (add p 4) w1 fun x=>bnd (C B6 [.pointer x] w1) fun r w2=>as0 r (aSome w fun p_1=>gPtr (add p_1 4) w2 fun z1=>aSome w fun p_2=>gInt .i64 (add p_2 2) w2 fun z2=>nw (.cells D0 false zZ1) w2 fun p1 w3=>bnd (C M7 [.pointer z1,iI z2] w3) fun q1 w4=>as2 q1 fun q2 q3=>aAgg q2 fun z3=>aInt .i64 q3 fun z4=>ck (List.length z3=16) (pAgg ⟨p1,0,none⟩ z3 w4 fun w5=>cond (z4==2)
 (bnd (C G66 [.pointer w] w5) fun q4 w6=>as2 q4 fun q5 q6=>aAgg q5 fun z5=>aBool q6 fun z6=>ck (List.length z5=12) (pAgg ⟨b,0,none⟩ z5 w6 fun w7=>gAgg ⟨b,0,none⟩ 12 w7 fun z7=>some (.tuple ⟨[.agg ⟨z7⟩,.bool z6]⟩,w7)))
 (bnd (cond (z4==0) (some (true,w5)) (gInt .i64 ⟨p1,0,none⟩ w5 fun z8=>some (z8==2,w5))) fun c w8=>cond c
 (bnd (C Az8 [.pointer w] w8) fun q7 w9=>as0 q7 (pAgg ⟨b,0,none⟩ [iI 0,iI 0,iI 0,iI 0,iI 0,.slice none 0 0,iI 0,iI 0,.slice none 0 0,.bool false,.slice none 0 0,iI 0] w9 fun w10=>gAgg ⟨b,0,none⟩ 12 w10 fun z9=>some (.tuple ⟨[.agg ⟨z9⟩,.bool false]⟩,w10)))
 (gInt .i64 ⟨p1,0,none⟩ w8 fun z10=>cond (z10==3)
 (aSome w fun p_3=>gInt .i64 (add p_3 5) w8 fun z11=>cond (z11==2)
 (bnd (C Al1 [.pointer w,iI 1] w8) fun q8 w11=>as0 q8 (R J7 Dh8 [(2,pP b)] w11))
 (R J7 Dh8 [(2,pP b)] w8))
 (aSome w fun p_4=>gInt .i64 (add p_4 5) w8 fun z12=>cond (z12==1)
 (bnd (C Bh3 [.pointer w] w8) fun q9 w12=>as0 q9 (pAgg ⟨b,0,none⟩ [iI 0,iI 0,iI 0,iI 0,iI 0,.slice none 0 0,iI 0,iI 0,.slice none 0 0,.bool false,.slice none 0 0,iI 0] w12 fun w13=>gAgg ⟨b,0,none⟩ 12 w13 fun z13=>some (.tuple ⟨[.agg ⟨z13⟩,.bool false]⟩,w13)))
 (cond (z12==2)
 (bnd (C Bd5 [.pointer w] w8) fun q10 w14=>as2 q10 fun q11 q12=>aAgg q11 fun z14=>aBool q12 fun z15=>ck (List.length z14=12) (pAgg ⟨b,0,none⟩ z14 w14 fun w15=>gAgg ⟨b,0,none⟩ 12 w15 fun z16=>some (.tuple ⟨[.agg ⟨z16⟩,.bool z15]⟩,w15)))
 (cond (z12==3)
 (gAgg ⟨p1,0,none⟩ 16 w8 fun z17=>bnd (C A17 [.pointer w,.agg ⟨z17⟩] w8) fun q13 w16=>as2 q13 fun q14 q15=>aAgg q14 fun z18=>aBool q15 fun z19=>ck (List.length z18=12) (pAgg ⟨b,0,none⟩ z18 w16 fun w17=>gAgg ⟨b,0,none⟩ 12 w17 fun z20=>some (.tuple ⟨[.agg ⟨z20⟩,.bool z19]⟩,w17)))
 (aSome w fun p_5=>gInt .i64 (add p_5 2) w8 fun z21=>bnd (C Ar0 [.pointer w,.agg ⟨[iI 0,iI z21,iI 0,iI 0,iI 0,.slice none 0 0,iI 0,iI 0,.slice none 0 0,.bool false,.slice none 0 0,iI 0]⟩] w8) fun q16 w18=>aAgg q16 fun z22=>nw (.cells W9 false [iI 0,iI 0,iI 0,iI 0,iI 0,.slice none 0 0,iI 0,iI 0,.slice none 0 0,.bool false,.slice none 0 0,iI 0]) w18 fun p2 w19=>ck (List.length z22=12) (pAgg ⟨p2,0,none⟩ z22 w19 fun w20=>gSl ⟨p2,10,none⟩ w20 fun _ xn _=>bnd (cond (decide ((xn:Int)>0)) (some (true,w20)) (gInt .i64 ⟨p2,11,none⟩ w20 fun z24=>some (decide (z24>0),w20))) fun c_1 w21=>cond c_1
 (gAgg ⟨p2,0,none⟩ 12 w21 fun z25=>ck (List.length z25=12) (pAgg ⟨b,0,none⟩ z25 w21 fun w22=>gAgg ⟨b,0,none⟩ 12 w22 fun z26=>some (.tuple ⟨[.agg ⟨z26⟩,.bool true]⟩,w22)))
 (pAgg ⟨b,0,none⟩ [iI 0,iI 0,iI 0,iI 0,iI 0,.slice none 0 0,iI 0,iI 0,.slice none 0 0,.bool false,.slice none 0 0,iI 0] w21 fun w23=>gAgg ⟨b,0,none⟩ 12 w23 fun z27=>some (.tuple ⟨[.agg ⟨z27⟩,.bool false]⟩,w23))))))))))):=kR
def Bw1:Cuts:=⟨2,[],[],[]⟩
def Dv4:List Item:=A6 Tryz.f15
theorem Gk7 :
 xQ Bw1 C R At7 Tryz.f15 Dv4 [(0,.pointer w)] h =
 aSome w fun p=>gInt .i64 (add p 5) h fun x=>some (iI x,h):=kR
def Du3:Cuts:=⟨2,[],[],[]⟩
def E23:List Item:=A6 Tryz.f16
theorem Hm1 :
 xQ Du3 C R Bk7 Tryz.f16 E23 [] h =
 bnd (C Ae5 [] h) fun r w=>as4 r fun q1 q2 q3 q4=>aPtr q1 fun x=>aSl q2 fun z1 xn _=>aPtr q3 fun _=>aSl q4 fun _ _ _=>cond x.isNone
 (some (.bool false,w))
 (aSome z1 fun p=>ck ((0:Int)≤0∧0<(xn:Int)) (gPtr (add (B0 p) (Int.toNat 0*1)) w fun z4=>bnd (C Ad3 [.pointer z4,.agg ⟨[iI 1,iI 0,iI 0,.slice none 0 0]⟩] w) fun q5 w1=>aBool q5 fun z5=>aSome z1 fun p_1=>ck ((0:Int)≤0∧0<(xn:Int)) (gPtr (add (B0 p_1) (Int.toNat 0*1)) w1 fun z6=>bnd (C J7 [.pointer z6] w1) fun q6 w2=>as2 q6 fun q7 q8=>aAgg q7 fun z7=>aBool q8 fun z8=>nw (.cells W9 false [iI 0,iI 0,iI 0,iI 0,iI 0,.slice none 0 0,iI 0,iI 0,.slice none 0 0,.bool false,.slice none 0 0,iI 0]) w2 fun b w3=>ck (List.length z7=12) (pAgg ⟨b,0,none⟩ z7 w3 fun w4=>aSome z1 fun p_2=>ck ((0:Int)≤0∧0<(xn:Int)) (gPtr (add (B0 p_2) (Int.toNat 0*1)) w4 fun z9=>bnd (C J7 [.pointer z9] w4) fun q9 w5=>as2 q9 fun q10 q11=>aAgg q10 fun z10=>aBool q11 fun z11=>nw (.cells W9 false [iI 0,iI 0,iI 0,iI 0,iI 0,.slice none 0 0,iI 0,iI 0,.slice none 0 0,.bool false,.slice none 0 0,iI 0]) w5 fun p1 w6=>ck (List.length z10=12) (pAgg ⟨p1,0,none⟩ z10 w6 fun w7=>bnd (C A73 [.pointer x,iI 0,iI 9,iI 0] w7) fun q12 w8=>as2 q12 fun q13 q14=>aPtr q13 fun _=>aInt .i64 q14 fun z13=>bnd (C A73 [.pointer x,iI 0,iI 0,iI 9] w8) fun q15 w9=>as2 q15 fun q16 q17=>aPtr q16 fun _=>aInt .i64 q17 fun z15=>bnd (cond z5 (some (!z8,w9)) (some (false,w9))) fun c w10=>bnd (cond c (some (z11,w10)) (some (false,w10))) fun c_1 w11=>bnd (cond c_1 (gBool ⟨p1,9,none⟩ w11 fun z16=>some (z16,w11)) (some (false,w11))) fun c_2 w12=>bnd (cond c_2 (gInt .i64 ⟨p1,7,none⟩ w12 fun z17=>some (z17==0,w12)) (some (false,w12))) fun c_3 w13=>bnd (cond c_3 (gInt .i64 ⟨p1,6,none⟩ w13 fun z18=>some (z18==0,w13)) (some (false,w13))) fun c_4 w14=>bnd (cond c_4 (aSome z1 fun p_3=>ck ((0:Int)≤0∧0<(xn:Int)) (gPtr (add (B0 p_3) (Int.toNat 0*1)) w14 fun z19=>bnd (C At7 [.pointer z19] w14) fun q18 w15=>aInt .i64 q18 fun z20=>some (z20==0,w15))) (some (false,w14))) fun c_5 w16=>bnd (cond c_5 (some (z13==1,w16)) (some (false,w16))) fun c_6 w17=>bnd (cond c_6 (some (z15==8,w17)) (some (false,w17))) fun c_7 w18=>bnd (cond c_7 (aSome z1 fun p_4=>ck ((0:Int)≤1∧1<(xn:Int)) (gPtr (add (B0 p_4) (Int.toNat 1*1)) w18 fun z21=>bnd (C Ad3 [.pointer z21,.agg ⟨[iI 1,iI 0,iI 0,.slice none 0 0]⟩] w18) fun q19 w19=>aBool q19 fun z22=>some (!z22,w19))) (some (false,w18))) fun c_8 w20=>some (.bool c_8,w20))))))):=kR
def Dd4:Cuts:=⟨2,[],[],[]⟩
def Ef3:List Item:=A6 Tryz.f24
theorem G00 (slot:Int) (sectionv:Int) :
 xQ Dd4 C R Bn4 Tryz.f24 Ef3 [(0,.pointer k),(1,iI env),(2,iI slot),(3,iI sectionv)] h =
 bnd (C Ap8 [.pointer k,iI env] h) fun r w=>aPtr r fun x=>nw (.cells H33 false [.pointer k,.pointer x,iI env,iI slot,iI sectionv,iI 0,iI 0,iI 0,iI 0,iI 0,.slice none 0 0]) w fun b w1=>some (pP b,w1):=kR
def Dl6:Cuts:=⟨2,[],[],[(1,⟨[0,1,2,3,4,5,6,7,9,10,11,12,13,14,15,16,8,17,18],[0,1,3,7,0,16,48,112,255,0,512,1536,3584,0,8192,24576,57344,131071,262143],[(8,[12,16])],[]⟩),(4,⟨[0,1,2,3,4,5,6,7,8,9,10,11,13,12,14],[0,1,3,7,0,16,48,112,0,256,768,1792,4095,0,16383],[],[]⟩)]⟩
def En8:List Item:=A6 Tryz.f31
theorem Eo8 :
 xQ Dl6 C R Bd5 Tryz.f31 En8 [(0,.pointer w)] h =
 nw (.cells W9 false [iI 0,iI 0,iI 0,iI 0,iI 0,.slice none 0 0,iI 0,iI 0,.slice none 0 0,.bool false,.slice none 0 0,iI 0]) h fun b w1=>aSome w fun p=>gPtr (add p 0) w1 fun x=>aSome w fun p_1=>gInt .i64 (add p_1 3) w1 fun z1=>aSome w fun p_2=>gInt .i64 (add p_2 1) w1 fun z2=>aSome w fun p_3=>gInt .i64 (add p_3 6) w1 fun z3=>bnd (C Aa7 [.pointer x,iI z1] w1) fun r w2=>aPtr r fun z4=>gInt .i64 (add p_2 1) w2 fun z5=>same (iI z2) (iI z5) (gInt .i64 (add p_3 6) w2 fun z6=>same (iI z3) (iI z6) (bnd (C Al4 [.pointer z4,iI z2,iI z3] w2) fun q1 w3=>aBool q1 fun z7=>cond (!z7)
 (aSome w fun p_4=>pV (add p_4 5) (iI 1) w3 fun w4=>pAgg ⟨b,0,none⟩ [iI 0,iI 0,iI 0,iI 0,iI 0,.slice none 0 0,iI 0,iI 0,.slice none 0 0,.bool false,.slice none 0 0,iI 0] w4 fun w5=>gAgg ⟨b,0,none⟩ 12 w5 fun z8=>some (.tuple ⟨[.agg ⟨z8⟩,.bool false]⟩,w5))
 (aSome w fun p_5=>gPtr (add p_5 4) w3 fun z9=>aSome w fun p_6=>gInt .i64 (add p_6 2) w3 fun z10=>aSome w fun p_7=>gAgg (add p_7 7) 4 w3 fun z11=>nw (.cells Q2 false [iI 0,iI 0,.slice none 0 0,.bool false]) w3 fun p1 w6=>bnd (C Dz8 [.pointer z9,iI z10,.agg ⟨z11⟩] w6) fun q2 w7=>aAgg q2 fun z12=>ck (List.length z12=4) (pAgg ⟨p1,0,none⟩ z12 w7 fun w8=>gBool ⟨p1,3,none⟩ w8 fun z13=>cond z13
 (bnd (C Al1 [.pointer w,iI 3] w8) fun q3 w9=>as0 q3 (pAgg ⟨b,0,none⟩ [iI 0,iI 0,iI 0,iI 0,iI 0,.slice none 0 0,iI 0,iI 0,.slice none 0 0,.bool false,.slice none 0 0,iI 0] w9 fun w10=>gAgg ⟨b,0,none⟩ 12 w10 fun z14=>some (.tuple ⟨[.agg ⟨z14⟩,.bool false]⟩,w10)))
 (bnd (C Al1 [.pointer w,iI 0] w8) fun q4 w11=>as0 q4 (gAgg ⟨p1,0,none⟩ 4 w11 fun z15=>bnd (C Az6 [.pointer w,.agg ⟨z15⟩] w11) fun q5 w12=>aAgg q5 fun z16=>nw (.cells W9 false [iI 0,iI 0,iI 0,iI 0,iI 0,.slice none 0 0,iI 0,iI 0,.slice none 0 0,.bool false,.slice none 0 0,iI 0]) w12 fun p2 w13=>ck (List.length z16=12) (pAgg ⟨p2,0,none⟩ z16 w13 fun w14=>aSome w fun p_8=>gInt .i64 (add (add p_8 7) 0) w14 fun z17=>cond (z17 != 3)
 (gAgg ⟨p2,0,none⟩ 12 w14 fun z18=>bnd (C Ar0 [.pointer w,.agg ⟨z18⟩] w14) fun q6 w15=>aAgg q6 fun z19=>ck (List.length z19=12) (pAgg ⟨p2,0,none⟩ z19 w15 fun w16=>gAgg ⟨p2,0,none⟩ 12 w16 fun z20=>ck (List.length z20=12) (pAgg ⟨b,0,none⟩ z20 w16 fun w17=>gAgg ⟨b,0,none⟩ 12 w17 fun z21=>some (.tuple ⟨[.agg ⟨z21⟩,.bool true]⟩,w17))))
 (gAgg ⟨p2,0,none⟩ 12 w14 fun z22=>ck (List.length z22=12) (pAgg ⟨b,0,none⟩ z22 w14 fun w18=>gAgg ⟨b,0,none⟩ 12 w18 fun z23=>some (.tuple ⟨[.agg ⟨z23⟩,.bool true]⟩,w18)))))))))):=kR
def Dt1:Cuts:=⟨2,[],[],[]⟩
def E31:List Item:=A6 Tryz.f34
theorem Hn3 :
 xQ Dt1 C R At0 Tryz.f34 E31 [(0,.pointer k),(1,iI env)] h =
 bnd (cond k.isNone (some (true,h)) (bnd (C At4 [.pointer k] h) fun r w=>aPtr r fun x=>bnd (C Aq4 [.pointer x,iI env] w) fun q1 w1=>aSl q1 fun _ xn _=>some ((xn:Int)==0,w1))) fun c w2=>cond c
 (some (.tuple ⟨[.pointer none,iI 1]⟩,w2))
 (bnd (C At4 [.pointer k] w2) fun q2 w3=>aPtr q2 fun z2=>bnd (C Aq4 [.pointer z2,iI env] w3) fun q3 w4=>aSl q3 fun z3 xn_1 xc_1=>nw (.map [] 0) w4 fun b w5=>nw (.cells Dw8 false [.pointer k,iI env,.slice z3 xn_1 xc_1,.map (some b)]) w5 fun p1 w6=>some (.tuple ⟨[pP p1,iI 0]⟩,w6)):=kR
def D51:Cuts:=⟨2,[],[],[]⟩
def Ga8:List Item:=A6 Tryz.f40
theorem Hy1 :
 xQ D51 C R Bs5 Tryz.f40 Ga8 [(0,.agg ⟨p⟩)] h =
 nw (.cells Dd9 false p) h fun b w=>gAgg ⟨b,0,none⟩ 3 w fun x=>bnd (C N4 [.agg ⟨x⟩] w) fun r w1=>aAgg r fun z1=>nw (.cells E6 false [.slice none 0 0,.slice none 0 0,.slice none 0 0,iI 0,.slice none 0 0]) w1 fun p1 w2=>ck (List.length z1=5) (pAgg ⟨p1,0,none⟩ z1 w2 fun w3=>gAgg ⟨p1,0,none⟩ 5 w3 fun z2=>bnd (C L1 [.agg ⟨z2⟩] w3) fun q1 w4=>as2 q1 fun q2 q3=>aPtr q2 fun z3=>aInt .i64 q3 fun z4=>bnd (cond z3.isNone (some (true,w4)) (some (z4 != 0,w4))) fun c w5=>cond c
 (some (.tuple ⟨[.pointer none,.pointer none,.pointer none,.pointer none]⟩,w5))
 (gAgg ⟨p1,0,none⟩ 5 w5 fun z5=>bnd (C I2 [.agg ⟨z5⟩] w5) fun q4 w6=>aPtr q4 fun z6=>bnd (C At0 [.pointer z3,iI 0] w6) fun q5 w7=>as2 q5 fun q6 q7=>aPtr q6 fun z7=>aInt .i64 q7 fun z8=>bnd (cond z7.isNone (some (true,w7)) (some (z8 != 0,w7))) fun c_1 w8=>cond c_1
 (some (.tuple ⟨[.pointer none,.pointer none,.pointer none,.pointer none]⟩,w8))
 (bnd (C Bl5 [] w8) fun q8 w9=>aStr q8 fun z9=>ck (ByteArray.size z9≤A8) (nw (.cells A5 false (A0 (ByteArray.data z9).toList)) w9 fun p2 w10=>bnd (C L9 [.pointer z3,iI 0,.agg ⟨[iI 2,iI 256,iI 0,iI 0,iI 0,iI 0,.slice (some (O4 p2)) (ByteArray.size z9) (ByteArray.size z9)]⟩] w10) fun q9 w11=>aAgg q9 fun z10=>nth z10 0 fun E=>aInt .i64 E fun E_1=>cond (E_1 != 0)
 (some (.tuple ⟨[.pointer none,.pointer none,.pointer none,.pointer none]⟩,w11))
 (ck (ByteArray.size z9≤A8) (nw (.cells A5 false (A0 (ByteArray.data z9).toList)) w11 fun p3 w12=>bnd (C Ay7 [.pointer z6,iI 0,.agg ⟨[iI 2,iI 256,iI 0,iI 0,iI 0,iI 0,.slice (some (O4 p3)) (ByteArray.size z9) (ByteArray.size z9)]⟩] w12) fun q10 w13=>as3 q10 fun q11 q12 q13=>aInt .i64 q11 fun _=>aInt .i64 q12 fun _=>aStr q13 fun _=>bnd (C Ap8 [.pointer z6,iI 0] w13) fun q14 w14=>aPtr q14 fun z14=>some (.tuple ⟨[.pointer z3,.pointer z7,.pointer z6,.pointer z14]⟩,w14))))))):=kR
def Dj4:Cuts:=⟨2,[],[],[(7,⟨[0,1,2,3,4,5,6,7,8,9,10,11,12,13,14,15,16],[0,1,3,7,0,0,32,0,128,0,512,2047,4095,8191,8191,16383,65535],[],[]⟩),(9,⟨[0,1,2,3,4,5,6,7,8,9,10,11,12,13],[0,1,3,7,0,0,32,0,128,0,512,1536,4095,8191],[],[]⟩),(11,⟨[0,1,2,3,4,5,6,7,8,9,10,11,12,13,14,15,16],[0,1,3,7,0,0,32,0,128,0,512,0,2048,0,8192,32767,65535],[],[]⟩),(13,⟨[0,1,2,3,4,5,6,7,8,9,10,11,12,13,14,15,16,17,18,19,20,21,22,23],[0,1,3,7,15,31,63,0,0,256,0,1024,0,4096,0,16384,0,65536,262143,524287,1048575,1048575,2097151,8388607],[],[]⟩),(15,⟨[0,1,2,3,4,5,6,7,8,9,10,11,12,13,14,15],[0,1,3,7,15,31,63,0,0,256,1023,2047,4095,4095,8191,32767],[],[]⟩),(17,⟨[0,1,2,3,4,5,6,7,8,9,10,11,12,13,14,15,16,17],[0,1,3,7,0,16,48,112,240,0,1008,2032,4095,8191,16383,16383,32767,131071],[],[]⟩),(19,⟨[0,1,2,3,4,5,6,7,8,9,10,11,12,13,14,15],[0,1,3,7,0,16,48,112,240,0,1008,2032,0,4096,16383,32767],[],[]⟩),(23,⟨[0,1,2,3,4,5,6,7,8,9,10,11,12,13,14,15,16,17],[0,1,3,7,0,16,63,127,0,0,512,1536,3584,8191,16383,32767,32767,65535],[],[]⟩),(27,⟨[0,1,2,3,4,5,6,7,8,9,10,11,12,13,14,15,16,17,18],[0,0,0,4,15,31,63,127,255,511,63,1087,4095,8191,63,63,32831,131071,262143],[],[]⟩)]⟩
def Em8:List Item:=A6 Tryz.f44
theorem G82 (c:List Value) :
 xQ Dj4 C R Ay7 Tryz.f44 Em8 [(0,.pointer k),(1,iI e),(2,.agg ⟨c⟩)] h =
 nw (.cells A69 false c) h fun b w=>bnd (cond (decide (e<0)) (some (true,w)) (aSome k fun p=>gSl (add (add p 0) 1) w fun _ xn _=>some (decide (e≥(xn:Int)),w))) fun c_1 w1=>cond c_1
 (some (.tuple ⟨[iI 1,iI 0,.string (ByteArray.mk ⟨[]⟩)]⟩,w1))
 (gInt .i64 ⟨b,0,none⟩ w1 fun z1=>cond (z1==1)
 (aSome k fun p_1=>gPtr (add p_1 6) w1 fun z2=>gInt .i64 ⟨b,1,none⟩ w1 fun z3=>gInt .i64 ⟨b,2,none⟩ w1 fun z4=>gInt .i64 ⟨b,3,none⟩ w1 fun z5=>bnd (C E38 [.pointer z2,iI e,iI z3,iI z4,iI z5] w1) fun r w2=>as2 r fun q1 q2=>aStr q1 fun z6=>aInt .i64 q2 fun z7=>some (.tuple ⟨[iI z7,iI 0,.string z6]⟩,w2))
 (cond (z1==2)
 (aSome k fun p_2=>gPtr (add p_2 6) w1 fun z8=>gInt .i64 ⟨b,1,none⟩ w1 fun z9=>gInt .i64 ⟨b,2,none⟩ w1 fun z10=>gSl ⟨b,6,none⟩ w1 fun z11 xn_1 _=>gCells z11 xn_1 w1 fun cs=>asBytes cs fun l=>bnd (C Aw9 [.pointer z8,iI e,iI z9,iI z10,.string (ByteArray.mk ⟨l⟩)] w1) fun q3 w3=>aInt .i64 q3 fun z12=>some (.tuple ⟨[iI z12,iI 0,.string (ByteArray.mk ⟨[]⟩)]⟩,w3))
 (cond (z1==3)
 (aSome k fun p_3=>gPtr (add p_3 6) w1 fun z13=>gInt .i64 ⟨b,1,none⟩ w1 fun z14=>gInt .i64 ⟨b,2,none⟩ w1 fun z15=>gInt .i64 ⟨b,4,none⟩ w1 fun z16=>gInt .i64 ⟨b,5,none⟩ w1 fun z17=>gInt .i64 ⟨b,3,none⟩ w1 fun z18=>bnd (C E39 [.pointer z13,iI e,iI z14,iI z15,iI z16,iI z17,iI z18] w1) fun q4 w4=>aInt .i64 q4 fun z19=>some (.tuple ⟨[iI z19,iI 0,.string (ByteArray.mk ⟨[]⟩)]⟩,w4))
 (cond (z1==4)
 (aSome k fun p_4=>gPtr (add p_4 6) w1 fun z20=>aSome z20 fun p_5=>gPtr (add p_5 3) w1 fun z21=>gInt .i64 ⟨b,1,none⟩ w1 fun z22=>gInt .i64 ⟨b,4,none⟩ w1 fun z23=>gInt .i64 ⟨b,5,none⟩ w1 fun z24=>gInt .i64 ⟨b,2,none⟩ w1 fun z25=>gInt .i64 ⟨b,3,none⟩ w1 fun z26=>bnd (C Gd5 [.pointer z21,iI e,iI z22,iI z23,iI z24,iI z25,iI z26] w1) fun q5 w5=>as2 q5 fun q6 q7=>aInt .i64 q6 fun z27=>aInt .i64 q7 fun z28=>some (.tuple ⟨[iI z28,iI z27,.string (ByteArray.mk ⟨[]⟩)]⟩,w5))
 (cond (z1==5)
 (aSome k fun p_6=>gPtr (add p_6 6) w1 fun z29=>aSome z29 fun p_7=>gPtr (add p_7 3) w1 fun z30=>gInt .i64 ⟨b,1,none⟩ w1 fun z31=>bnd (C E44 [.pointer z30,iI e,iI z31] w1) fun q8 w6=>as2 q8 fun q9 q10=>aInt .i64 q9 fun z32=>aInt .i64 q10 fun z33=>some (.tuple ⟨[iI z33,iI z32,.string (ByteArray.mk ⟨[]⟩)]⟩,w6))
 (cond (z1==6)
 (aSome k fun p_8=>gPtr (add p_8 5) w1 fun z34=>aSome k fun p_9=>gSl (add (add p_9 0) 1) w1 fun z35 xn_2 _=>aSome z35 fun p_10=>ck ((0:Int)≤e∧e<(xn_2:Int)) (gInt .i64 (add (B0 p_10) (Int.toNat e*1)) w1 fun z36=>bnd (C Ge1 [.pointer z34,iI z36] w1) fun q11 w7=>as2 q11 fun q12 q13=>aInt .i64 q12 fun z37=>aInt .i64 q13 fun z38=>some (.tuple ⟨[iI z38,iI z37,.string (ByteArray.mk ⟨[]⟩)]⟩,w7)))
 (cond (z1==7)
 (aSome k fun p_11=>gPtr (add p_11 5) w1 fun z39=>aSome k fun p_12=>gSl (add (add p_12 0) 1) w1 fun z40 xn_3 _=>aSome z40 fun p_13=>ck ((0:Int)≤e∧e<(xn_3:Int)) (gInt .i64 (add (B0 p_13) (Int.toNat e*1)) w1 fun z41=>gInt .i64 ⟨b,3,none⟩ w1 fun z42=>bnd (C Gk6 [.pointer z39,iI z41,iI z42] w1) fun q14 w8=>aInt .i64 q14 fun z43=>some (.tuple ⟨[iI z43,iI 0,.string (ByteArray.mk ⟨[]⟩)]⟩,w8)))
 (cond (z1==8)
 (gInt .i64 ⟨b,3,none⟩ w1 fun z44=>bnd (C Ee3 [.pointer k,iI e,iI z44] w1) fun q15 w9=>aBool q15 fun z45=>cond z45
 (aSome k fun p_14=>gSl (add p_14 7) w9 fun z46 xn_4 _=>gInt .i64 ⟨b,3,none⟩ w9 fun z47=>aSome z46 fun p_15=>ck ((0:Int)≤z47∧z47<(xn_4:Int)) (gPtr (add (B0 p_15) (Int.toNat z47*1)) w9 fun z48=>aSome k fun p_16=>gInt .i64 (add p_16 8) w9 fun z49=>bnd (C Gl2 [.pointer z48,iI e,iI z49] w9) fun q16 w10=>as2 q16 fun q17 q18=>aInt .i64 q17 fun z50=>aBool q18 fun _=>some (.tuple ⟨[iI 0,iI z50,.string (ByteArray.mk ⟨[]⟩)]⟩,w10)))
 (some (.tuple ⟨[iI 8,iI 0,.string (ByteArray.mk ⟨[]⟩)]⟩,w9)))
 (cond (z1==9)
 (gInt .i64 ⟨b,3,none⟩ w1 fun z52=>bnd (C Ee3 [.pointer k,iI e,iI z52] w1) fun q19 w11=>aBool q19 fun z53=>bnd (cond z53 (aSome k fun p_17=>gSl (add p_17 7) w11 fun z54 xn_5 _=>gInt .i64 ⟨b,3,none⟩ w11 fun z55=>aSome z54 fun p_18=>ck ((0:Int)≤z55∧z55<(xn_5:Int)) (gPtr (add (B0 p_18) (Int.toNat z55*1)) w11 fun z56=>gInt .i64 ⟨b,2,none⟩ w11 fun z57=>bnd (C Gl4 [.pointer z56,iI e,iI z57] w11) fun q20 w12=>aBool q20 fun z58=>some (z58,w12))) (some (false,w11))) fun c_2 w13=>cond c_2
 (some (.tuple ⟨[iI 0,iI 0,.string (ByteArray.mk ⟨[]⟩)]⟩,w13))
 (some (.tuple ⟨[iI 8,iI 0,.string (ByteArray.mk ⟨[]⟩)]⟩,w13)))
 (cond (z1==10)
 (aSome k fun p_19=>gInt .i64 (add p_19 8) w1 fun z59=>some (.tuple ⟨[iI 0,iI z59,.string (ByteArray.mk ⟨[]⟩)]⟩,w1))
 (some (.tuple ⟨[iI 7,iI 0,.string (ByteArray.mk ⟨[]⟩)]⟩,w1)))))))))))):=kR
def Bx4:Cuts:=⟨2,[],[],[]⟩
def Dw4:List Item:=A6 Tryz.f47
theorem Gl0 :
 xQ Bx4 C R Ba3 Tryz.f47 Dw4 [(0,.agg ⟨f⟩)] h =
 nw (.cells D3 false f) h fun b w=>gInt .i64 ⟨b,0,none⟩ w fun x=>gInt .i64 ⟨b,1,none⟩ w fun z1=>gInt .i64 ⟨b,2,none⟩ w fun z2=>gInt .i64 ⟨b,3,none⟩ w fun z3=>nw (.cells A5 false [.int .u8 (wrap .u8 (x)),.int .u8 (wrap .u8 (z1)),.int .u8 (wrap .u8 (z2)),.int .u8 (wrap .u8 (z3)),.int .u8 179]) w fun p1 w1=>gCells (some ⟨p1,0,none⟩) 5 w1 fun cs=>asBytes cs fun l=>bnd (C Ak9 [.string (ByteArray.mk ⟨l⟩)] w1) fun r w2=>aInt .u8 r fun z4=>nw (.cells A5 false [.int .u8 z4,.int .u8 0,.int .u8 0]) w2 fun p2 w3=>gCells (some ⟨p2,0,none⟩) 3 w3 fun cs_1=>asBytes cs_1 fun l_1=>ck (ByteArray.size (ByteArray.mk ⟨l⟩)+ByteArray.size (ByteArray.mk ⟨l_1⟩)≤A8) (some (.string ((ByteArray.mk ⟨l⟩)++(ByteArray.mk ⟨l_1⟩)),w3)):=kR
def A77:Cuts:=⟨2,[],[],[]⟩
def B06:List Item:=A6 Tryz.f50
theorem Ej0 :
 xQ A77 C R M8 Tryz.f50 B06 [(0,.pointer c),(1,iI i)] h =
 nw (.cells D3 false [iI 0,iI 0,iI 0,iI 0]) h fun b w=>bnd (C Az2 [iI i] w) fun r w1=>aAgg r fun x=>bnd (C O2 [.pointer c,.agg ⟨x⟩,.func (.func Ay8) ⟨[]⟩ ⟨[]⟩] w1) fun q1 w2=>as2 q1 fun q2 q3=>aAgg q2 fun z1=>aInt .i64 q3 fun z2=>ck (List.length z1=4) (pAgg ⟨b,0,none⟩ z1 w2 fun w3=>gAgg ⟨b,0,none⟩ 4 w3 fun z3=>some (.tuple ⟨[.agg ⟨z3⟩,iI z2]⟩,w3)):=kR
def Bw6:Cuts:=⟨2,[],[],[]⟩
def Dw2:List Item:=A6 Tryz.f57
theorem Gm5 (who:Int) (stamp:Int) :
 xQ Bw6 C R Al4 Tryz.f57 Dw2 [(0,.pointer s),(1,iI who),(2,iI stamp)] h =
 aSome s fun p=>gBool (add p 1) h fun x=>bnd (cond x (aSome s fun p_1=>gInt .i64 (add p_1 2) h fun z1=>some (z1==who,h)) (some (false,h))) fun c w=>bnd (cond c (aSome s fun p_2=>gInt .i64 (add p_2 3) w fun z2=>some (z2==stamp,w)) (some (false,w))) fun c_1 w1=>some (.bool c_1,w1):=kR
def Eg1:Cuts:=⟨2,[],[],[]⟩
def Gq3:List Item:=A6 Tryz.f59
theorem H92 :
 xQ Eg1 C R Dn8 Tryz.f59 Gq3 [(0,.agg ⟨p⟩)] h =
 nw (.cells D0 false p) h fun b w=>gAgg ⟨b,0,none⟩ 16 w fun x=>bnd (C A40 [.agg ⟨x⟩] w) fun r w1=>as2 r fun q1 q2=>aInt .i64 q1 fun _=>aInt .i64 q2 fun z2=>some (.bool (decide (z2>1)),w1):=kR
def B16:Cuts:=⟨2,[(1,[1,2,3])],[],[]⟩
def Du2:List Item:=A6 Tryz.f64
def A07:List Item:=stk [0,1,4,5] Du2
theorem Hn5 :
 xQ B16 C R Ag5 Tryz.f64 Du2 [(0,.agg ⟨p⟩)] h =
 nw (.cells D0 false p) h fun b w=>nw (.cells D0 false zZ1) w fun p1 w1=>R Ag5 A07 [(1,pP b),(2,pP p1),(3,.slice none 0 0)] w1:=kR
theorem Gs7 (p:Addr) (q:Addr) (caught:Option Addr) (caughtn caughtc:Nat) :
 xQ B16 C R Ag5 Tryz.f64 A07 [(1,.pointer (some p)),(2,.pointer (some q)),(3,.slice caught caughtn caughtc)] h =
 gAgg p 16 h fun x=>bnd (C A40 [.agg ⟨x⟩] h) fun r w=>as2 r fun q1 q2=>aInt .i64 q1 fun z1=>aInt .i64 q2 fun z2=>cond (z2==0)
 (gAgg p 16 w fun z3=>ck (List.length z3=16) (pAgg q z3 w fun w1=>gAgg q 16 w1 fun z4=>some (.tuple ⟨[.agg ⟨z4⟩,.slice caught caughtn caughtc,iI 0]⟩,w1)))
 (gInt .i64 (add p 4) w fun z5=>ck ((0:Int)≤(wrap .u64 (z1))) (pV (add p 4) (iI (Bx3 .i64 z5 (wrap .i64 (1*2 ^ (min (Int.toNat (wrap .u64 (z1))) 64))))) w fun w2=>cond (z2==2)
 (nw (.cells B5 false [iI z1]) w2 fun b w3=>gCells (some ⟨b,0,none⟩) (1*1) w3 fun cs=>ckB (fitsOpen caught B5 w3) (apd B5 1 caught caughtn caughtc 1 cs w3 fun a an ac w4=>R Ag5 A07 [(1,.pointer (some p)),(2,.pointer (some q)),(3,.slice a an ac)] w4))
 (cond (z2==3)
 (pV (add p 0) (iI 3) w2 fun w5=>R Ag5 A07 [(1,.pointer (some p)),(2,.pointer (some q)),(3,.slice caught caughtn caughtc)] w5)
 (cond (z2==4)
 (gAgg p 16 w2 fun z6=>ck (List.length z6=16) (pAgg q z6 w2 fun w6=>gAgg q 16 w6 fun z7=>some (.tuple ⟨[.agg ⟨z7⟩,.slice caught caughtn caughtc,iI z1]⟩,w6)))
 (R Ag5 A07 [(1,.pointer (some p)),(2,.pointer (some q)),(3,.slice caught caughtn caughtc)] w2))))):=kR
def Br2:Cuts:=⟨2,[],[],[]⟩
def Dq4:List Item:=A6 Tryz.f68
theorem Gd7 :
 xQ Br2 C R Aq4 Tryz.f68 Dq4 [(0,.pointer s),(1,iI env)] h =
 bnd (C Ak1 [.pointer s,iI env] h) fun r w=>aBool r fun x=>cond (!x)
 (some (.slice none 0 0,w))
 (aSome s fun p=>gSl (add p 0) w fun z1 xn _=>aSome z1 fun p_1=>ck ((0:Int)≤env∧env<(xn:Int)) (gPtr (add (B0 p_1) (Int.toNat env*1)) w fun z2=>bnd (C H0 [.pointer z2] w) fun q1 w1=>aSl q1 fun z3 xn_1 xc_1=>some (.slice z3 xn_1 xc_1,w1))):=kR
def Ds3:Cuts:=⟨2,[],[],[]⟩
def E11:List Item:=A6 Tryz.f70
theorem Hm0 :
 xQ Ds3 C R As4 Tryz.f70 E11 [(0,.slice b bn bc)] h =
 bnd (C U9 [.slice b bn bc,.func (.func Ak8) ⟨[]⟩ ⟨[]⟩] h) fun r w=>aBool r fun x=>some (.bool (!x),w):=kR
def Dt8:Cuts:=⟨2,[],[],[]⟩
def E27:List Item:=A6 Tryz.f71
theorem Hk9 :
 xQ Dt8 C R Bl2 Tryz.f71 E27 [] h =
 bnd (C Ax1 [iI 24,.func (.func S4) ⟨[]⟩ ⟨[]⟩,.func (.func Ab9) ⟨[]⟩ ⟨[]⟩] h) fun r w=>aPtr r fun x=>some (.pointer x,w):=kR
def By2:Cuts:=⟨2,[],[],[(4,⟨[0,1,2,3,4,5,6,7,8,9,10,11,12,13,14,15,16],[0,1,3,7,0,0,32,0,128,0,512,2047,4095,8191,8191,16383,65535],[],[]⟩),(6,⟨[0,1,2,3,4,5,6,7,8,9,10,11,12],[0,1,3,7,0,0,32,0,128,0,512,2047,4095],[],[]⟩),(8,⟨[0,1,2,3,4,5,6,7,8,9,10,11,12,13,14,15,16],[0,1,3,7,0,0,32,0,128,0,512,0,2048,0,8192,32767,65535],[],[]⟩)]⟩
def Dv1:List Item:=A6 Tryz.f77
theorem Gm9 (c:List Value) :
 xQ By2 C R Bb4 Tryz.f77 Dv1 [(0,.pointer k),(1,iI env),(2,.agg ⟨c⟩)] h =
 nw (.cells A69 false c) h fun b w=>gInt .i64 ⟨b,0,none⟩ w fun x=>cond (x==1)
 (aSome k fun p=>gPtr (add p 5) w fun z1=>gInt .i64 ⟨b,1,none⟩ w fun z2=>gInt .i64 ⟨b,2,none⟩ w fun z3=>gInt .i64 ⟨b,3,none⟩ w fun z4=>bnd (C Ah5 [.pointer z1,iI env,iI z2,iI z3,iI z4] w) fun r w1=>as2 r fun q1 q2=>aSl q1 fun z5 xn xc=>aInt .i64 q2 fun z6=>some (.tuple ⟨[.slice z5 xn xc,iI z6,.bool true]⟩,w1))
 (cond (x==2)
 (aSome k fun p_1=>gPtr (add p_1 5) w fun z7=>gInt .i64 ⟨b,1,none⟩ w fun z8=>gInt .i64 ⟨b,2,none⟩ w fun z9=>gSl ⟨b,6,none⟩ w fun z10 xn_1 xc_1=>bnd (C Af5 [.pointer z7,iI env,iI z8,iI z9,.slice z10 xn_1 xc_1] w) fun q3 w2=>aInt .i64 q3 fun z11=>some (.tuple ⟨[.slice none 0 0,iI z11,.bool true]⟩,w2))
 (cond (x==3)
 (aSome k fun p_2=>gPtr (add p_2 5) w fun z12=>gInt .i64 ⟨b,1,none⟩ w fun z13=>gInt .i64 ⟨b,2,none⟩ w fun z14=>gInt .i64 ⟨b,4,none⟩ w fun z15=>gInt .i64 ⟨b,5,none⟩ w fun z16=>gInt .i64 ⟨b,3,none⟩ w fun z17=>bnd (C Ar9 [.pointer z12,iI env,iI z13,iI z14,iI z15,iI z16,iI z17] w) fun q4 w3=>aInt .i64 q4 fun z18=>some (.tuple ⟨[.slice none 0 0,iI z18,.bool true]⟩,w3))
 (some (.tuple ⟨[.slice none 0 0,iI 0,.bool false]⟩,w)))):=kR
def B35:Cuts:=⟨2,[],[],[]⟩
def D26:List Item:=A6 Tryz.f91
theorem Gx0 :
 xQ B35 C R Bh5 Tryz.f91 D26 [(0,.pointer s),(1,iI e)] h =
 bnd (C Ao4 [.pointer s,iI e] h) fun r w=>aBool r fun x=>cond (!x)
 (some (.slice none 0 0,w))
 (aSome s fun p=>gSl (add p 0) w fun z1 xn _=>aSome z1 fun p_1=>ck ((0:Int)≤e∧e<(xn:Int)) (gPtr (add (B0 p_1) (Int.toNat e*1)) w fun z2=>bnd (C V9 [.pointer z2] w) fun q1 w1=>aSl q1 fun z3 xn_1 xc_1=>some (.slice z3 xn_1 xc_1,w1))):=kR
def Dk0:Cuts:=⟨2,[],[],[]⟩
def El6:List Item:=A6 Tryz.f93
theorem Hc3 :
 xQ Dk0 C R Az2 Tryz.f93 El6 [(0,iI i)] h =
 nw (.cells E3 false [iI 0,iI 0]) h fun b w=>pAgg ⟨b,0,none⟩ [iI 2,iI i] w fun w1=>gAgg ⟨b,0,none⟩ 2 w1 fun x=>some (.agg ⟨x⟩,w1):=kR
def Dj6:Cuts:=⟨2,[],[],[]⟩
def Em9:List Item:=A6 Tryz.f94
theorem G93 :
 xQ Dj6 C R Ay8 Tryz.f94 Em9 [(0,.slice b bn bc)] h =
 nw (.cells D3 false [iI 0,iI 0,iI 0,iI 0]) h fun p1 w=>bnd (cond ((bn:Int)==8) (bnd (C As4 [.slice b bn bc] w) fun r w1=>aBool r fun x=>some (x,w1)) (some (false,w))) fun c w2=>cond c
 (pAgg ⟨p1,0,none⟩ [iI 0,iI 0,iI 0,iI 0] w2 fun w3=>gAgg ⟨p1,0,none⟩ 4 w3 fun z1=>some (.tuple ⟨[.agg ⟨z1⟩,iI 0]⟩,w3))
 (bnd (C Bj2 [] w2) fun q1 w4=>aPtr q1 fun z2=>bnd (C Aa6 [.pointer z2,.slice b bn bc] w4) fun q2 w5=>as2 q2 fun q3 q4=>aAgg q3 fun z3=>aBool q4 fun z4=>nw (.cells D3 false [iI 0,iI 0,iI 0,iI 0]) w5 fun p2 w6=>ck (List.length z3=4) (pAgg ⟨p2,0,none⟩ z3 w6 fun w7=>cond (!z4)
 (pAgg ⟨p1,0,none⟩ [iI 0,iI 0,iI 0,iI 0] w7 fun w8=>gAgg ⟨p1,0,none⟩ 4 w8 fun z5=>some (.tuple ⟨[.agg ⟨z5⟩,iI 2]⟩,w8))
 (gAgg ⟨p2,0,none⟩ 4 w7 fun z6=>ck (List.length z6=4) (pAgg ⟨p1,0,none⟩ z6 w7 fun w9=>gAgg ⟨p1,0,none⟩ 4 w9 fun z7=>some (.tuple ⟨[.agg ⟨z7⟩,iI 1]⟩,w9))))):=kR
def Ds0:Cuts:=⟨2,[],[],[]⟩
def E28:List Item:=A6 Tryz.f97
theorem Hl8 :
 xQ Ds0 C R As6 Tryz.f97 E28 [(0,.slice b bn bc)] h =
 nw (.cells D1 false zZ2) h fun p1 w=>bnd (cond ((bn:Int)==40) (bnd (C As4 [.slice b bn bc] w) fun r w1=>aBool r fun x=>some (x,w1)) (some (false,w))) fun c w2=>cond c
 (pAgg ⟨p1,0,none⟩ zZ2 w2 fun w3=>gAgg ⟨p1,0,none⟩ 36 w3 fun z1=>some (.tuple ⟨[.agg ⟨z1⟩,iI 0]⟩,w3))
 (bnd (C Bp4 [] w2) fun q1 w4=>aPtr q1 fun z2=>bnd (C Aa4 [.pointer z2,.slice b bn bc] w4) fun q2 w5=>as2 q2 fun q3 q4=>aAgg q3 fun z3=>aBool q4 fun z4=>nw (.cells D1 false zZ2) w5 fun p2 w6=>ck (List.length z3=36) (pAgg ⟨p2,0,none⟩ z3 w6 fun w7=>cond (!z4)
 (pAgg ⟨p1,0,none⟩ zZ2 w7 fun w8=>gAgg ⟨p1,0,none⟩ 36 w8 fun z5=>some (.tuple ⟨[.agg ⟨z5⟩,iI 2]⟩,w8))
 (gAgg ⟨p2,0,none⟩ 36 w7 fun z6=>ck (List.length z6=36) (pAgg ⟨p1,0,none⟩ z6 w7 fun w9=>gAgg ⟨p1,0,none⟩ 36 w9 fun z7=>some (.tuple ⟨[.agg ⟨z7⟩,iI 1]⟩,w9))))):=kR
def Eh5:Cuts:=⟨2,[],[(13,[0,1,6,7,8,9])],[]⟩
def Eh0:List Item:=A6 Tryz.f108
def Dk1:List Item:=stk [0,1,0,1,0,1,0,1,0,4,0] Eh0
theorem Ia1 (s:List Value) :
 xQ Eh5 C R Ae6 Tryz.f108 Eh0 [(0,.pointer c),(1,iI i),(2,.agg ⟨s⟩)] h =
 nw (.cells Bp5 false s) h fun b w=>nw (.cells Q2 false [iI 0,iI 0,.slice none 0 0,.bool false]) w fun p1 w1=>bnd (C Ay0 [.pointer c,iI i] w1) fun r w2=>as2 r fun q1 q2=>aAgg q1 fun x=>aInt .i64 q2 fun z1=>nw (.cells D0 false zZ1) w2 fun p2 w3=>ck (List.length x=16) (pAgg ⟨p2,0,none⟩ x w3 fun w4=>cond (z1 != 0)
 (R Ae6 Dk1 [(0,.pointer c),(1,iI i),(6,pP p1),(7,pP p2),(8,iI z1),(9,iI 0)] w4)
 (gInt .i64 ⟨b,0,none⟩ w4 fun z2=>cond (z2==1)
 (pAgg ⟨p1,0,none⟩ [iI i,iI 0,.slice none 0 0,.bool false] w4 fun w5=>gAgg ⟨p1,0,none⟩ 4 w5 fun z3=>some (.agg ⟨z3⟩,w5))
 (gInt .i64 ⟨b,0,none⟩ w4 fun z4=>cond (z4==17)
 (gInt .i64 ⟨p2,1,none⟩ w4 fun z5=>pAgg ⟨p1,0,none⟩ [iI (wrap .i64 (z5-1)),iI 0,.slice none 0 0,.bool false] w4 fun w6=>gAgg ⟨p1,0,none⟩ 4 w6 fun z6=>some (.agg ⟨z6⟩,w6))
 (gInt .i64 ⟨b,0,none⟩ w4 fun z7=>cond (z7==18)
 (gInt .i64 ⟨p2,2,none⟩ w4 fun z8=>pAgg ⟨p1,0,none⟩ [iI z8,iI 0,.slice none 0 0,.bool false] w4 fun w7=>gAgg ⟨p1,0,none⟩ 4 w7 fun z9=>some (.agg ⟨z9⟩,w7))
 (gInt .i64 ⟨b,0,none⟩ w4 fun z10=>cond (z10==6)
 (gAgg ⟨p2,0,none⟩ 16 w4 fun z11=>gInt .i64 ⟨b,1,none⟩ w4 fun z12=>bnd (C Iq1 [.agg ⟨z11⟩,iI z12] w4) fun q3 w8=>as3 q3 fun q4 q5 q6=>aAgg q4 fun z13=>aInt .i64 q5 fun z14=>aInt .i64 q6 fun z15=>ck (List.length z13=16) (pAgg ⟨p2,0,none⟩ z13 w8 fun w9=>R Ae6 Dk1 [(0,.pointer c),(1,iI i),(6,pP p1),(7,pP p2),(8,iI z15),(9,iI z14)] w9))
 (gAgg ⟨p2,0,none⟩ 16 w4 fun z16=>gInt .i64 ⟨b,1,none⟩ w4 fun z17=>gInt .i64 ⟨b,2,none⟩ w4 fun z18=>bnd (C Hw0 [.agg ⟨z16⟩,iI z17,iI z18] w4) fun q7 w10=>as2 q7 fun q8 q9=>aAgg q8 fun z19=>aInt .i64 q9 fun z20=>ck (List.length z19=16) (pAgg ⟨p2,0,none⟩ z19 w10 fun w11=>R Ae6 Dk1 [(0,.pointer c),(1,iI i),(6,pP p1),(7,pP p2),(8,iI z20),(9,iI 0)] w11))))))):=kR
def Da6:Cuts:=⟨2,[(4,[0,8,9,10])],[],[]⟩
def D81:List Item:=A6 Tryz.f111
def Bn5:List Item:=stk [0,1,0,1,0,0,1,4,5] D81
theorem H36 :
 xQ Da6 C R Ab2 Tryz.f111 D81 [(0,.slice l ln lc)] h =
 cond (decide ((ln:Int)>32))
 (some (iI 6,h))
 (R Ab2 Bn5 [(0,.slice l ln lc),(8,.slice l ln lc),(9,iI (ln:Int)),(10,iI 0)] h):=kR
theorem Eb3 (x8:Option Addr) (x8n x8c:Nat) :
 xQ Da6 C R Ab2 Tryz.f111 Bn5 [(0,.slice l ln lc),(8,.slice x8 x8n x8c),(9,iI x9),(10,iI x10)] h =
 cond (decide (x10<x9))
 (aSome x8 fun p=>ck ((0:Int)≤x10∧x10<(x8n:Int)) (gAgg (add (B0 p) (Int.toNat x10*3)) 3 h fun x=>nw (.cells P6 false [iI 0,iI 0,iI 0]) h fun b w=>ck (List.length x=3) (pAgg ⟨b,0,none⟩ x w fun w1=>gAgg ⟨b,0,none⟩ 3 w1 fun z1=>bnd (C Ee6 [.agg ⟨z1⟩,iI (wrap .i64 ((wrap .i64 ((ln:Int)-1))-x10))] w1) fun r w2=>aBool r fun z2=>cond (!z2)
 (some (iI 1,w2))
 (R Ab2 Bn5 [(0,.slice l ln lc),(8,.slice x8 x8n x8c),(9,iI x9),(10,iI (wrap .i64 (x10+1)))] w2))))
 (some (iI 0,h)):=kR
def Ek3:Cuts:=⟨2,[],[],[]⟩
def Gn4:List Item:=A6 Tryz.f118
theorem Ia0 :
 xQ Ek3 C R Ay0 Tryz.f118 Gn4 [(0,.pointer c),(1,iI i)] h =
 nw (.cells D0 false zZ1) h fun b w=>bnd (C B6 [.pointer c] w) fun r w1=>as0 r (bnd (C M7 [.pointer c,iI i] w1) fun q1 w2=>as2 q1 fun q2 q3=>aAgg q2 fun x=>aInt .i64 q3 fun z1=>nw (.cells D0 false zZ1) w2 fun p1 w3=>ck (List.length x=16) (pAgg ⟨p1,0,none⟩ x w3 fun w4=>bnd (cond (z1 != 1) (some (true,w4)) (gInt .i64 ⟨p1,0,none⟩ w4 fun z2=>some (z2 != 1,w4))) fun c_1 w5=>cond c_1
 (pAgg ⟨b,0,none⟩ zZ1 w5 fun w6=>gAgg ⟨b,0,none⟩ 16 w6 fun z3=>some (.tuple ⟨[.agg ⟨z3⟩,iI 105]⟩,w6))
 (gAgg ⟨p1,0,none⟩ 16 w5 fun z4=>ck (List.length z4=16) (pAgg ⟨b,0,none⟩ z4 w5 fun w7=>gAgg ⟨b,0,none⟩ 16 w7 fun z5=>some (.tuple ⟨[.agg ⟨z5⟩,iI 0]⟩,w7))))):=kR
def Af0:Cuts:=⟨2,[],[],[]⟩
def Ay1:List Item:=A6 Tryz.f127
theorem B04 (f:Value) :
 xQ Af0 C R U9 Tryz.f127 Ay1 [(0,.slice s sn sc),(1,f)] h =
 bnd (C I0 [.slice s sn sc,f] h) fun r w=>aInt .i64 r fun x=>some (.bool (decide (x≥0)),w):=kR
def De8:Cuts:=⟨2,[],[],[]⟩
def Ee1:List Item:=A6 Tryz.f128
theorem Gz7 (c:Int) :
 xQ De8 C R Ak8 Tryz.f128 Ee1 [(0,.int .u8 c)] h =
 some (.bool (c != 0),h):=kR
def Bh7:Cuts:=⟨2,[],[],[]⟩
def De4:List Item:=A6 Tryz.f129
theorem Ex9 (put:Value) (get:Value) :
 xQ Bh7 C R Ax1 Tryz.f129 De4 [(0,iI size),(1,put),(2,get)] h =
 one put (one get (nw (.cells Bz1 false [iI (mm2 false (mm2 true size 0) 64),put,get]) h fun b w=>some (pP b,w))):=kR
def Dz2:Cuts:=⟨2,[(3,[3,8,9])],[],[(4,⟨[0,1,2,3,4,5,6,7,8,9,10],[0,0,2,6,14,0,32,126,255,511,1023],[(5,[4])],[]⟩)]⟩
def Ey4:List Item:=A6 Tryz.f135
def B12:List Item:=stk [0,1,0,1,0,0,1,4,5] Ey4
theorem Ir5 (envs:Int) :
 xQ Dz2 C R A68 Tryz.f135 Ey4 [(0,iI envs)] h =
 nw (.cells Az5 false [.slice none 0 0]) h fun b w=>R A68 B12 [(3,pP b),(8,iI (mm2 false (mm2 true envs 0) 40)),(9,iI 0)] w:=kR
theorem E17 (s:Addr) (x8:Int) :
 xQ Dz2 C R A68 Tryz.f135 B12 [(3,.pointer (some s)),(8,iI x8),(9,iI x9)] h =
 cond (decide (x9<x8))
 (gSl (add s 0) h fun x xn xc=>bnd (C U0 [iI 32] h) fun r w=>aPtr r fun z1=>gSl (add s 0) w fun z2 xn_1 xc_1=>same (.slice x xn xc) (.slice z2 xn_1 xc_1) (nw (.cells J0 false [.pointer z1]) w fun b w1=>gCells (some ⟨b,0,none⟩) (1*1) w1 fun cs=>ckB (fitsOpen x J0 w1) (apd J0 1 x xn xc 1 cs w1 fun a an ac w2=>pV (add s 0) (.slice a an ac) w2 fun w3=>R A68 B12 [(3,.pointer (some s)),(8,iI x8),(9,iI (wrap .i64 (x9+1)))] w3)))
 (some (.pointer (some s),h)):=kR
def Aq5:Cuts:=⟨2,[],[],[]⟩
def Be9:List Item:=A6 Tryz.f141
theorem Dp0 (v:Int) :
 xQ Aq5 C R P7 Tryz.f141 Be9 [(0,.slice s sn sc),(1,iI v)] h =
 bnd (C J6 [.slice s sn sc,iI v] h) fun r w=>aInt .i64 r fun x=>some (.bool (decide (x≥0)),w):=kR
def Bs2:Cuts:=⟨2,[],[],[(5,⟨[0,1,2,3,4,5,6,7,9,10,11,12,13,14,8,15,16,17,18,19,20,21],[0,0,0,4,12,28,0,64,252,0,512,1536,3584,0,8192,32764,65533,131069,262141,524287,1048575,2097151],[(8,[12])],[]⟩)]⟩
def Dp5:List Item:=A6 Tryz.f147
theorem Gf4 :
 xQ Bs2 C R A50 Tryz.f147 Dp5 [(0,.pointer r),(1,iI lo),(2,iI n)] h =
 aSome r fun p=>gSl (add p 0) h fun _ xn _=>bnd (C Al6 [iI lo,iI n,iI (xn:Int)] h) fun q1 w=>aBool q1 fun z1=>cond (!z1)
 (some (.tuple ⟨[iI 0,iI 1]⟩,w))
 (aSome r fun p_1=>gSl (add p_1 1) w fun _ xn_1 _=>cond (decide ((xn_1:Int)≥32))
 (some (.tuple ⟨[iI 0,iI 4]⟩,w))
 (aSome r fun p_2=>gSl (add p_2 1) w fun z3 xn_2 xc_2=>nw (.cells B5 false [iI lo]) w fun b w1=>aSome r fun p_3=>gSl (add p_3 2) w1 fun z4 xn_3 xc_3=>nw (.cells B5 false [iI n]) w1 fun p1 w2=>gCells (some ⟨b,0,none⟩) (1*1) w2 fun cs=>ckB (fitsOpen z3 B5 w2) (apd B5 1 z3 xn_2 xc_2 1 cs w2 fun a an ac w3=>gSl (add p_3 2) w3 fun z5 xn_4 xc_4=>same (.slice z4 xn_3 xc_3) (.slice z5 xn_4 xc_4) (gCells (some ⟨p1,0,none⟩) (1*1) w3 fun cs_1=>ckB (fitsOpen z4 B5 w3) (apd B5 1 z4 xn_3 xc_3 1 cs_1 w3 fun a_1 an_1 ac_1 w4=>aSome r fun p_4=>pV (add p_4 1) (.slice a an ac) w4 fun w5=>aSome r fun p_5=>pV (add p_5 2) (.slice a_1 an_1 ac_1) w5 fun w6=>aSome r fun p_6=>gSl (add p_6 1) w6 fun _ xn_5 _=>some (.tuple ⟨[iI (wrap .i64 ((xn_5:Int)-1)),iI 0]⟩,w6)))))):=kR
def Bb7:Cuts:=⟨2,[],[],[]⟩
def B71:List Item:=A6 Tryz.f150
theorem Eo9 :
 xQ Bb7 C R Ah5 Tryz.f150 B71 [(0,.pointer r),(1,iI env),(2,iI name),(3,iI atv),(4,iI n)] h =
 bnd (C Af4 [.pointer r,iI env,iI name,iI 1,iI atv,iI n] h) fun q1 w=>as2 q1 fun q2 q3=>aInt .i64 q2 fun x=>aInt .i64 q3 fun z1=>cond (z1 != 0)
 (some (.tuple ⟨[.slice none 0 0,iI z1]⟩,w))
 (aSome r fun p=>gPtr (add p 0) w fun z2=>bnd (C Bt6 [.pointer z2,iI x,iI n] w) fun q4 w1=>as2 q4 fun q5 q6=>aSl q5 fun z3 xn xc=>aInt .i64 q6 fun z4=>some (.tuple ⟨[.slice z3 xn xc,iI z4]⟩,w1)):=kR
def Bs9:Cuts:=⟨2,[],[],[]⟩
def Dr5:List Item:=A6 Tryz.f153
theorem E91 (give:Int) :
 xQ Bs9 C R A51 Tryz.f153 Dr5 [(0,.pointer s),(1,iI env),(2,iI name),(3,iI to),(4,iI give),(5,iI lo),(6,iI n)] h =
 bnd (C Az9 [.pointer s,iI env,iI name] h) fun r w=>as2 r fun q1 q2=>aAgg q1 fun x=>aInt .i64 q2 fun z1=>nw (.cells U3 false [iI 0,iI 0,iI 0,iI 0,iI 0,iI 0]) w fun b w1=>ck (List.length x=6) (pAgg ⟨b,0,none⟩ x w1 fun w2=>cond (z1 != 0)
 (some (.tuple ⟨[iI 0,iI z1]⟩,w2))
 (gInt .i64 ⟨b,1,none⟩ w2 fun z2=>bnd (cond ((J8 .i64 z2 4)==0) (some (true,w2)) (gInt .i64 ⟨b,1,none⟩ w2 fun z3=>some ((Bx3 .i64 give z3) != 0,w2))) fun c w3=>cond c
 (some (.tuple ⟨[iI 0,iI 3]⟩,w3))
 (bnd (C Ak1 [.pointer s,iI to] w3) fun q3 w4=>aBool q3 fun z4=>bnd (cond (!z4) (some (true,w4)) (some (decide (lo<0),w4))) fun c_1 w5=>bnd (cond c_1 (some (true,w5)) (some (decide (n<0),w5))) fun c_2 w6=>bnd (cond c_2 (some (true,w6)) (gInt .i64 ⟨b,3,none⟩ w6 fun z5=>some (decide (lo>z5),w6))) fun c_3 w7=>bnd (cond c_3 (some (true,w7)) (gInt .i64 ⟨b,3,none⟩ w7 fun z6=>some (decide (n>(wrap .i64 (z6-lo))),w7))) fun c_4 w8=>cond c_4
 (some (.tuple ⟨[iI 0,iI 1]⟩,w8))
 (gInt .i64 ⟨b,0,none⟩ w8 fun z7=>gInt .i64 ⟨b,2,none⟩ w8 fun z8=>bnd (C A02 [.pointer s,iI to,.agg ⟨[iI z7,iI give,iI (wrap .i64 (z8+lo)),iI n,iI env,iI name]⟩] w8) fun q4 w9=>as2 q4 fun q5 q6=>aInt .i64 q5 fun z9=>aInt .i64 q6 fun z10=>some (.tuple ⟨[iI z9,iI z10]⟩,w9))))):=kR
def Bm6:Cuts:=⟨2,[],[],[]⟩
def Dh5:List Item:=A6 Tryz.f155
theorem E40 (s:Int) :
 xQ Bm6 C R A14 Tryz.f155 Dh5 [(0,.pointer q),(1,iI s)] h =
 bnd (C An9 [.pointer q,iI s] h) fun r w=>aBool r fun x=>cond (!x)
 (some (.tuple ⟨[iI 0,iI 1]⟩,w))
 (aSome q fun p=>gSl (add p 0) w fun z1 xn _=>aSome z1 fun p_1=>ck ((0:Int)≤s∧s<(xn:Int)) (gSl (add (B0 p_1) (Int.toNat s*1)) w fun z2 xn_1 xc_1=>bnd (C J6 [.slice z2 xn_1 xc_1,iI 0] w) fun q1 w1=>aInt .i64 q1 fun z3=>cond (decide (z3<0))
 (some (.tuple ⟨[iI 0,iI 4]⟩,w1))
 (aSome q fun p_2=>gSl (add p_2 0) w1 fun z4 xn_2 _=>aSome z4 fun p_3=>ck ((0:Int)≤s∧s<(xn_2:Int)) (gSl (add (B0 p_3) (Int.toNat s*1)) w1 fun z5 xn_3 _=>aSome z5 fun p_4=>ck ((0:Int)≤z3∧z3<(xn_3:Int)) (pV (add (B0 p_4) (Int.toNat z3*1)) (iI 1) w1 fun w2=>some (.tuple ⟨[iI z3,iI 0]⟩,w2)))))):=kR
def Bw2:Cuts:=⟨2,[],[],[]⟩
def Dv3:List Item:=A6 Tryz.f157
theorem Gk0 (c:List Value) :
 xQ Bw2 C R Bb2 Tryz.f157 Dv3 [(0,.pointer k),(1,iI env),(2,.agg ⟨c⟩)] h =
 nw (.cells A69 false c) h fun b w=>gInt .i64 ⟨b,3,none⟩ w fun x=>bnd (C A06 [.pointer k,iI env,iI x] w) fun r w1=>as2 r fun q1 q2=>aPtr q1 fun z1=>aInt .i64 q2 fun z2=>cond (z2 != 0)
 (some (.tuple ⟨[iI 0,iI z2]⟩,w1))
 (aSome k fun p=>gInt .i64 (add p 7) w1 fun z3=>bnd (C B9 [.pointer z1,iI env,iI z3] w1) fun q3 w2=>as2 q3 fun q4 q5=>aInt .i64 q4 fun z4=>aBool q5 fun _=>some (.tuple ⟨[iI z4,iI 0]⟩,w2)):=kR
def Bh8:Cuts:=⟨2,[],[],[(6,⟨[0,1,2,3,4,5,6,7,8,9,10,11,12,13,14,15,16,17,18,19,20,21],[0,0,0,4,15,31,63,127,255,511,1023,2047,4095,8191,4095,20479,53247,118783,249855,524287,1048575,2097151],[],[]⟩),(8,⟨[0,1,2,3,4,5,6,7,8,9,10,11,12,13,14,15,16,17,18,19,20,21,22,23,24,25,26,27,28,29,30],[0,1,0,0,8,24,56,0,128,504,1016,2047,4095,8191,16383,32767,16383,131071,16383,16383,540671,1589247,3686399,16383,8404991,33046527,66600959,134217727,268435455,536870911,1073741823],[],[]⟩),(10,⟨[0,1,2,3,4,5,6,7,8,9,10,11,12,13,14],[0,1,3,7,0,16,63,127,0,256,1023,0,4095,8191,16383],[],[]⟩)]⟩
def Dc8:List Item:=A6 Tryz.f159
theorem Ev3 (right:Int) :
 xQ Bh8 C R Au2 Tryz.f159 Dc8 [(0,.pointer r),(1,iI e),(2,iI name),(3,iI right),(4,iI atv),(5,iI n)] h =
 aSome r fun p=>gPtr (add p 3) h fun x=>bnd (C Bf5 [.pointer x,iI e,iI name] h) fun q1 w=>as2 q1 fun q2 q3=>aAgg q2 fun z1=>aInt .i64 q3 fun z2=>nw (.cells U3 false [iI 0,iI 0,iI 0,iI 0,iI 0,iI 0]) w fun b w1=>ck (List.length z1=6) (pAgg ⟨b,0,none⟩ z1 w1 fun w2=>cond (z2 != 0)
 (some (.tuple ⟨[iI 0,iI z2]⟩,w2))
 (gInt .i64 ⟨b,1,none⟩ w2 fun z3=>cond ((J8 .i64 z3 right)==0)
 (some (.tuple ⟨[iI 0,iI 3]⟩,w2))
 (gInt .i64 ⟨b,3,none⟩ w2 fun z4=>bnd (C Al6 [iI atv,iI n,iI z4] w2) fun q4 w3=>aBool q4 fun z5=>bnd (cond (!z5) (some (true,w3)) (gInt .i64 ⟨b,0,none⟩ w3 fun z6=>some (decide (z6<0),w3))) fun c w4=>bnd (cond c (some (true,w4)) (gInt .i64 ⟨b,0,none⟩ w4 fun z7=>aSome r fun p_1=>gSl (add p_1 1) w4 fun _ xn _=>some (decide (z7≥(xn:Int)),w4))) fun c_1 w5=>cond c_1
 (some (.tuple ⟨[iI 0,iI 1]⟩,w5))
 (gInt .i64 ⟨b,2,none⟩ w5 fun z9=>aSome r fun p_2=>gSl (add p_2 2) w5 fun z10 xn_1 _=>gInt .i64 ⟨b,0,none⟩ w5 fun z11=>aSome z10 fun p_3=>ck ((0:Int)≤z11∧z11<(xn_1:Int)) (gInt .i64 (add (B0 p_3) (Int.toNat z11*1)) w5 fun z12=>bnd (C Al6 [iI z9,iI atv,iI z12] w5) fun q5 w6=>aBool q5 fun z13=>bnd (cond (!z13) (some (true,w6)) (gInt .i64 ⟨b,2,none⟩ w6 fun z14=>aSome r fun p_4=>gSl (add p_4 2) w6 fun z15 xn_2 _=>gInt .i64 ⟨b,0,none⟩ w6 fun z16=>aSome z15 fun p_5=>ck ((0:Int)≤z16∧z16<(xn_2:Int)) (gInt .i64 (add (B0 p_5) (Int.toNat z16*1)) w6 fun z17=>bnd (C Al6 [iI (wrap .i64 (z14+atv)),iI n,iI z17] w6) fun q6 w7=>aBool q6 fun z18=>some (!z18,w7)))) fun c_2 w8=>cond c_2
 (some (.tuple ⟨[iI 0,iI 1]⟩,w8))
 (aSome r fun p_6=>gSl (add p_6 1) w8 fun z19 xn_3 _=>gInt .i64 ⟨b,0,none⟩ w8 fun z20=>aSome z19 fun p_7=>ck ((0:Int)≤z20∧z20<(xn_3:Int)) (gInt .i64 (add (B0 p_7) (Int.toNat z20*1)) w8 fun z21=>gInt .i64 ⟨b,2,none⟩ w8 fun z22=>some (.tuple ⟨[iI (wrap .i64 ((wrap .i64 (z21+z22))+atv)),iI 0]⟩,w8)))))))):=kR
def B28:Cuts:=⟨2,[],[],[]⟩
def D89:List Item:=A6 Tryz.f160
theorem Gu6 :
 xQ B28 C R Bf5 Tryz.f160 D89 [(0,.pointer s),(1,iI e),(2,iI name)] h =
 nw (.cells U3 false [iI 0,iI 0,iI 0,iI 0,iI 0,iI 0]) h fun b w=>bnd (C Ao4 [.pointer s,iI e] w) fun r w1=>aBool r fun x=>bnd (cond (!x) (some (true,w1)) (aSome s fun p=>gSl (add p 0) w1 fun z1 xn _=>aSome z1 fun p_1=>ck ((0:Int)≤e∧e<(xn:Int)) (gPtr (add (B0 p_1) (Int.toNat e*1)) w1 fun z2=>bnd (C Bg9 [.pointer z2,iI name] w1) fun q1 w2=>aBool q1 fun z3=>some (!z3,w2)))) fun c w3=>cond c
 (pAgg ⟨b,0,none⟩ [iI 0,iI 0,iI 0,iI 0,iI 0,iI 0] w3 fun w4=>gAgg ⟨b,0,none⟩ 6 w4 fun z4=>some (.tuple ⟨[.agg ⟨z4⟩,iI 2]⟩,w4))
 (aSome s fun p_2=>gSl (add p_2 1) w3 fun z5 xn_1 _=>aSome z5 fun p_3=>ck ((0:Int)≤e∧e<(xn_1:Int)) (gSl (add (B0 p_3) (Int.toNat e*1)) w3 fun z6 xn_2 _=>aSome z6 fun p_4=>ck ((0:Int)≤J8 .i64 name 255∧J8 .i64 name 255<(xn_2:Int)) (gAgg (add (B0 p_4) (Int.toNat (J8 .i64 name 255)*6)) 6 w3 fun z7=>ck (List.length z7=6) (pAgg ⟨b,0,none⟩ z7 w3 fun w5=>gAgg ⟨b,0,none⟩ 6 w5 fun z8=>some (.tuple ⟨[.agg ⟨z8⟩,iI 0]⟩,w5))))):=kR
def Am1:Cuts:=⟨2,[],[],[(4,⟨[0,1,2,3,4,10,5,6,7,8,9,11,12],[0,1,3,7,0,16,63,127,255,255,0,1535,4095],[(5,[3])],[]⟩)]⟩
def A96:List Item:=A6 Tryz.f172
theorem Dh0 :
 xQ Am1 C R Aa6 Tryz.f172 A96 [(0,.pointer c),(1,.slice b bn bc)] h =
 nw (.cells D3 false [iI 0,iI 0,iI 0,iI 0]) h fun p1 w=>nw (.cells D3 false [iI 0,iI 0,iI 0,iI 0]) w fun p2 w1=>aSome c fun p=>gFv (add p 2) w1 fun x=>isNilF x fun p3=>bnd (cond p3 (some (true,w1)) (aSome c fun p_1=>gInt .i64 (add p_1 0) w1 fun z1=>some ((bn:Int) != z1,w1))) fun c_1 w2=>cond c_1
 (gAgg ⟨p2,0,none⟩ 4 w2 fun z2=>ck (List.length z2=4) (pAgg ⟨p1,0,none⟩ z2 w2 fun w3=>gAgg ⟨p1,0,none⟩ 4 w3 fun z3=>some (.tuple ⟨[.agg ⟨z3⟩,.bool false]⟩,w3)))
 (aSome c fun p_2=>gFv (add p_2 2) w2 fun z4=>nw (.cells D3 false [iI 0,iI 0,iI 0,iI 0]) w2 fun p4 w4=>bnd (C E9 [.slice b bn bc] w4) fun r w5=>aSl r fun z5 xn xc=>gFv (add p_2 2) w5 fun z6=>Bu4 (z4) (z6) (aFn z4 fun g fi cp=>bnd (C g (fi++([.slice z5 xn xc]++cp)) w5) fun q1 w6=>as2 q1 fun q2 q3=>aAgg q2 fun z7=>aBool q3 fun z8=>ck (List.length z7=4) (pAgg ⟨p4,0,none⟩ z7 w6 fun w7=>cond (!z8)
 (gAgg ⟨p2,0,none⟩ 4 w7 fun z9=>ck (List.length z9=4) (pAgg ⟨p1,0,none⟩ z9 w7 fun w8=>gAgg ⟨p1,0,none⟩ 4 w8 fun z10=>some (.tuple ⟨[.agg ⟨z10⟩,.bool false]⟩,w8)))
 (gAgg ⟨p4,0,none⟩ 4 w7 fun z11=>ck (List.length z11=4) (pAgg ⟨p1,0,none⟩ z11 w7 fun w9=>gAgg ⟨p1,0,none⟩ 4 w9 fun z12=>some (.tuple ⟨[.agg ⟨z12⟩,.bool true]⟩,w9)))))):=kR
def Am5:Cuts:=⟨2,[],[],[(4,⟨[0,1,2,3,4,10,5,6,7,8,9,11,12],[0,1,3,7,0,16,63,127,255,255,0,1535,4095],[(5,[3])],[]⟩)]⟩
def A94:List Item:=A6 Tryz.f174
theorem Dg1 :
 xQ Am5 C R Aa4 Tryz.f174 A94 [(0,.pointer c),(1,.slice b bn bc)] h =
 nw (.cells D1 false zZ2) h fun p1 w=>nw (.cells D1 false zZ2) w fun p2 w1=>aSome c fun p=>gFv (add p 2) w1 fun x=>isNilF x fun p3=>bnd (cond p3 (some (true,w1)) (aSome c fun p_1=>gInt .i64 (add p_1 0) w1 fun z1=>some ((bn:Int) != z1,w1))) fun c_1 w2=>cond c_1
 (gAgg ⟨p2,0,none⟩ 36 w2 fun z2=>ck (List.length z2=36) (pAgg ⟨p1,0,none⟩ z2 w2 fun w3=>gAgg ⟨p1,0,none⟩ 36 w3 fun z3=>some (.tuple ⟨[.agg ⟨z3⟩,.bool false]⟩,w3)))
 (aSome c fun p_2=>gFv (add p_2 2) w2 fun z4=>nw (.cells D1 false zZ2) w2 fun p4 w4=>bnd (C E9 [.slice b bn bc] w4) fun r w5=>aSl r fun z5 xn xc=>gFv (add p_2 2) w5 fun z6=>Bu4 (z4) (z6) (aFn z4 fun g fi cp=>bnd (C g (fi++([.slice z5 xn xc]++cp)) w5) fun q1 w6=>as2 q1 fun q2 q3=>aAgg q2 fun z7=>aBool q3 fun z8=>ck (List.length z7=36) (pAgg ⟨p4,0,none⟩ z7 w6 fun w7=>cond (!z8)
 (gAgg ⟨p2,0,none⟩ 36 w7 fun z9=>ck (List.length z9=36) (pAgg ⟨p1,0,none⟩ z9 w7 fun w8=>gAgg ⟨p1,0,none⟩ 36 w8 fun z10=>some (.tuple ⟨[.agg ⟨z10⟩,.bool false]⟩,w8)))
 (gAgg ⟨p4,0,none⟩ 36 w7 fun z11=>ck (List.length z11=36) (pAgg ⟨p1,0,none⟩ z11 w7 fun w9=>gAgg ⟨p1,0,none⟩ 36 w9 fun z12=>some (.tuple ⟨[.agg ⟨z12⟩,.bool true]⟩,w9)))))):=kR
def E01:Cuts:=⟨2,[],[],[(11,⟨[0,1,2,3,4,5,6,7,8,9,10,11,12,13,14,15,16,17,18,19,20,21,22,23,24,25,26,27,28],[0,0,2,6,0,31,63,127,127,383,895,127,2175,6271,14463,32767,65535,131071,262143,262143,786431,1835007,262143,4456447,12845055,29622271,67108863,134217727,268435455],[],[]⟩),(12,⟨[0,1,2,3,4,5,6,7,8,9,10,11,12,13,14,15,17,16,18,19],[0,1,3,0,8,24,0,64,192,448,0,1024,3072,7168,0,17351,50119,0,262143,524287],[(16,[5,12])],[]⟩),(13,⟨[0,1,7,8,9,10,11,12,13,14,2,3,4,5,6,15,16],[0,1,3,3,3,31,63,0,128,384,0,1024,3072,7168,16256,32767,65535],[(5,[9,12])],[]⟩)]⟩
def G07:List Item:=A6 Tryz.f176
theorem Ir7 :
 xQ E01 C R Dy4 Tryz.f176 G07 [(0,.pointer c),(1,iI i)] h =
 nw (.cells U2 false [.pointer c]) h fun b w=>nw (.cells Q2 false [iI 0,iI 0,.slice none 0 0,.bool false]) w fun p1 w1=>gPtr ⟨b,0,none⟩ w1 fun x=>bnd (C Ay0 [.pointer x,iI i] w1) fun r w2=>as2 r fun q1 q2=>aAgg q1 fun z1=>aInt .i64 q2 fun z2=>nw (.cells D0 false zZ1) w2 fun p2 w3=>ck (List.length z1=16) (pAgg ⟨p2,0,none⟩ z1 w3 fun w4=>cond (z2 != 0)
 (bnd (C Ak0 [iI z2] w4) fun q3 w5=>aAgg q3 fun z3=>ck (List.length z3=4) (pAgg ⟨p1,0,none⟩ z3 w5 fun w6=>gAgg ⟨p1,0,none⟩ 4 w6 fun z4=>some (.agg ⟨z4⟩,w6)))
 (gAgg ⟨p2,0,none⟩ 16 w4 fun z5=>bnd (C Dm0 [.agg ⟨z5⟩,iI 2] w4) fun q4 w7=>aSl q4 fun z6 xn _=>cond (decide ((xn:Int)<2))
 (bnd (C Ak0 [iI 124] w7) fun q5 w8=>aAgg q5 fun z7=>ck (List.length z7=4) (pAgg ⟨p1,0,none⟩ z7 w8 fun w9=>gAgg ⟨p1,0,none⟩ 4 w9 fun z8=>some (.agg ⟨z8⟩,w9)))
 (bnd (C Ac3 [iI 12,iI 2,.func (.func Be5) ⟨[]⟩ ⟨[pP b]⟩] w7) fun q6 w10=>aSl q6 fun z9 xn_1 _=>bnd (C Ac3 [iI 4,iI 1,.func (.func Bc3) ⟨[]⟩ ⟨[pP b]⟩] w10) fun q7 w11=>aSl q7 fun z10 xn_2 _=>bnd (cond (decide ((xn_1:Int)<2)) (some (true,w11)) (some ((xn_2:Int)==0,w11))) fun c_1 w12=>cond c_1
 (bnd (C Ak0 [iI 123] w12) fun q8 w13=>aAgg q8 fun z11=>ck (List.length z11=4) (pAgg ⟨p1,0,none⟩ z11 w13 fun w14=>gAgg ⟨p1,0,none⟩ 4 w14 fun z12=>some (.agg ⟨z12⟩,w14)))
 (gPtr ⟨b,0,none⟩ w12 fun z13=>aSome z10 fun p=>ck ((0:Int)≤0∧0<(xn_2:Int)) (gInt .i64 (add (B0 p) (Int.toNat 0*1)) w12 fun z14=>bnd (C S6 [.pointer z13,iI z14,.agg ⟨[iI 0,iI 0,iI 1,iI 1,.int .u8 0,.int .u8 0,.int .u8 0,.int .u8 0,.int .u8 0,.int .u8 0,.int .u8 0,.int .u8 0,.int .u8 0,.int .u8 0,.int .u8 0,.int .u8 0,.int .u8 0,.int .u8 0,.int .u8 0,.int .u8 0,.int .u8 0,.int .u8 0,.int .u8 0,.int .u8 0,.int .u8 0,.int .u8 0,.int .u8 0,.int .u8 0,.int .u8 0,.int .u8 0,.int .u8 0,.int .u8 0,.int .u8 0,.int .u8 0,.int .u8 0,.int .u8 0]⟩] w12) fun q9 w15=>aBool q9 fun z15=>bnd (cond z15 (gPtr ⟨b,0,none⟩ w15 fun z16=>aSome z9 fun p_1=>ck ((0:Int)≤0∧0<(xn_1:Int)) (gInt .i64 (add (B0 p_1) (Int.toNat 0*1)) w15 fun z17=>aSome z10 fun p_2=>ck ((0:Int)≤0∧0<(xn_2:Int)) (gInt .i64 (add (B0 p_2) (Int.toNat 0*1)) w15 fun z18=>bnd (C N8 [.pointer z16,iI z17,.agg ⟨[iI 1,iI z18,iI 1,iI 0]⟩] w15) fun q10 w16=>aBool q10 fun z19=>some (z19,w16)))) (some (false,w15))) fun c_2 w17=>bnd (cond c_2 (gPtr ⟨b,0,none⟩ w17 fun z20=>aSome z9 fun p_3=>ck ((0:Int)≤1∧1<(xn_1:Int)) (gInt .i64 (add (B0 p_3) (Int.toNat 1*1)) w17 fun z21=>aSome z10 fun p_4=>ck ((0:Int)≤0∧0<(xn_2:Int)) (gInt .i64 (add (B0 p_4) (Int.toNat 0*1)) w17 fun z22=>bnd (C N8 [.pointer z20,iI z21,.agg ⟨[iI 2,iI z22,iI 1,iI 0]⟩] w17) fun q11 w18=>aBool q11 fun z23=>some (z23,w18)))) (some (false,w17))) fun c_3 w19=>aSome z6 fun p_5=>ck ((0:Int)≤0∧0<(xn:Int)) (gInt .i64 (add (B0 p_5) (Int.toNat 0*1)) w19 fun z24=>aSome z6 fun p_6=>ck ((0:Int)≤1∧1<(xn:Int)) (gInt .i64 (add (B0 p_6) (Int.toNat 1*1)) w19 fun z25=>aSome z9 fun p_7=>ck ((0:Int)≤0∧0<(xn_1:Int)) (gInt .i64 (add (B0 p_7) (Int.toNat 0*1)) w19 fun z26=>aSome z9 fun p_8=>ck ((0:Int)≤1∧1<(xn_1:Int)) (gInt .i64 (add (B0 p_8) (Int.toNat 1*1)) w19 fun z27=>ck ((0:Int)≤z24∧z24<((8:Nat):Int)) (pV (add ⟨p2,8,none⟩ (Int.toNat z24*1)) (iI (wrap .i64 (z26+1))) w19 fun w20=>gInt .i64 (add (B0 p_6) (Int.toNat 1*1)) w20 fun z28=>same (iI z25) (iI z28) (gInt .i64 (add (B0 p_8) (Int.toNat 1*1)) w20 fun z29=>same (iI z27) (iI z29) (ck ((0:Int)≤z25∧z25<((8:Nat):Int)) (pV (add ⟨p2,8,none⟩ (Int.toNat z25*1)) (iI (wrap .i64 (z27+1))) w20 fun w21=>aSome z6 fun p_9=>ck ((0:Int)≤0∧0<(xn:Int)) (gInt .i64 (add (B0 p_9) (Int.toNat 0*1)) w21 fun z30=>aSome z6 fun p_10=>ck ((0:Int)≤1∧1<(xn:Int)) (gInt .i64 (add (B0 p_10) (Int.toNat 1*1)) w21 fun z31=>bnd (cond c_3 (gPtr ⟨b,0,none⟩ w21 fun z32=>gAgg ⟨p2,0,none⟩ 16 w21 fun z33=>bnd (C O1 [.pointer z32,iI i,.agg ⟨z33⟩] w21) fun q12 w22=>aBool q12 fun z34=>gInt .i64 (add (B0 p_9) (Int.toNat 0*1)) w22 fun z35=>same (iI z30) (iI z35) (gInt .i64 (add (B0 p_10) (Int.toNat 1*1)) w22 fun z36=>same (iI z31) (iI z36) (some (z34,w22)))) (some (false,w21))) fun c_4 w23=>bnd (C D09 [.bool c_4,iI (wrap .i64 (z30+(wrap .i64 (16*z31))))] w23) fun q13 w24=>aAgg q13 fun z37=>ck (List.length z37=4) (pAgg ⟨p1,0,none⟩ z37 w24 fun w25=>gAgg ⟨p1,0,none⟩ 4 w25 fun z38=>some (.agg ⟨z38⟩,w25))))))))))))))))):=kR
def Eh6:Cuts:=⟨2,[],[],[]⟩
def Gp0:List Item:=A6 Tryz.f179
theorem H78 :
 xQ Eh6 C R Dm6 Tryz.f179 Gp0 [(0,.pointer c),(1,iI i),(2,iI fd)] h =
 nw (.cells Q2 false [iI 0,iI 0,.slice none 0 0,.bool false]) h fun b w=>bnd (C Ay0 [.pointer c,iI i] w) fun r w1=>as2 r fun q1 q2=>aAgg q1 fun x=>aInt .i64 q2 fun z1=>nw (.cells D0 false zZ1) w1 fun p1 w2=>ck (List.length x=16) (pAgg ⟨p1,0,none⟩ x w2 fun w3=>cond (z1 != 0)
 (bnd (C Ak0 [iI z1] w3) fun q3 w4=>aAgg q3 fun z2=>ck (List.length z2=4) (pAgg ⟨b,0,none⟩ z2 w4 fun w5=>gAgg ⟨b,0,none⟩ 4 w5 fun z3=>some (.agg ⟨z3⟩,w5)))
 (gAgg ⟨p1,0,none⟩ 16 w3 fun z4=>bnd (C By5 [.agg ⟨z4⟩,iI fd] w3) fun q4 w6=>aBool q4 fun z5=>cond (!z5)
 (bnd (C Ak0 [iI 109] w6) fun q5 w7=>aAgg q5 fun z6=>ck (List.length z6=4) (pAgg ⟨b,0,none⟩ z6 w7 fun w8=>gAgg ⟨b,0,none⟩ 4 w8 fun z7=>some (.agg ⟨z7⟩,w8)))
 (ck ((0:Int)≤fd∧fd<((8:Nat):Int)) (gInt .i64 (add ⟨p1,8,none⟩ (Int.toNat fd*1)) w6 fun z8=>ck ((0:Int)≤fd∧fd<((8:Nat):Int)) (pV (add ⟨p1,8,none⟩ (Int.toNat fd*1)) (iI 0) w6 fun w9=>gAgg ⟨p1,0,none⟩ 16 w9 fun z9=>bnd (C O1 [.pointer c,iI i,.agg ⟨z9⟩] w9) fun q6 w10=>aBool q6 fun z10=>cond (!z10)
 (bnd (C Ak0 [iI 105] w10) fun q7 w11=>aAgg q7 fun z11=>ck (List.length z11=4) (pAgg ⟨b,0,none⟩ z11 w11 fun w12=>gAgg ⟨b,0,none⟩ 4 w12 fun z12=>some (.agg ⟨z12⟩,w12)))
 (bnd (C Ab8 [.pointer c,iI (wrap .i64 (z8-1))] w10) fun q8 w13=>aInt .i64 q8 fun z13=>bnd (C Ak0 [iI z13] w13) fun q9 w14=>aAgg q9 fun z14=>ck (List.length z14=4) (pAgg ⟨b,0,none⟩ z14 w14 fun w15=>gAgg ⟨b,0,none⟩ 4 w15 fun z15=>some (.agg ⟨z15⟩,w15)))))))):=kR
def Ef9:Cuts:=⟨2,[],[],[]⟩
def Gp1:List Item:=A6 Tryz.f199
theorem H98 :
 xQ Ef9 C R By5 Tryz.f199 Gp1 [(0,.agg ⟨p⟩),(1,iI fd)] h =
 nw (.cells D0 false p) h fun b w=>bnd (cond (decide (fd≥0)) (some (decide (fd<8),w)) (some (false,w))) fun c w1=>bnd (cond c (ck ((0:Int)≤fd∧fd<((8:Nat):Int)) (gInt .i64 (add ⟨b,8,none⟩ (Int.toNat fd*1)) w1 fun x=>some (decide (x>0),w1))) (some (false,w1))) fun c_1 w2=>some (.bool c_1,w2):=kR
def Ew7:Cuts:=⟨2,[],[],[]⟩
def Gz6:List Item:=A6 Tryz.f209
theorem Io2 :
 xQ Ew7 C R D14 Tryz.f209 Gz6 [(0,.agg ⟨p⟩)] h =
 nw (.cells D0 false p) h fun b w=>gInt .i64 ⟨b,0,none⟩ w fun x=>bnd (cond (decide (x<1)) (some (true,w)) (gInt .i64 ⟨b,0,none⟩ w fun z1=>some (decide (z1>3),w))) fun c w1=>bnd (cond c (some (true,w1)) (gInt .i64 ⟨b,1,none⟩ w1 fun z2=>some (decide (z2<0),w1))) fun c_1 w2=>bnd (cond c_1 (some (true,w2)) (gInt .i64 ⟨b,1,none⟩ w2 fun z3=>some (decide (z3>8),w2))) fun c_2 w3=>bnd (cond c_2 (some (true,w3)) (gInt .i64 ⟨b,2,none⟩ w3 fun z4=>some (decide (z4<0),w3))) fun c_3 w4=>bnd (cond c_3 (some (true,w4)) (gInt .i64 ⟨b,2,none⟩ w4 fun z5=>some (decide (z5≥8),w4))) fun c_4 w5=>bnd (cond c_4 (some (true,w5)) (gInt .i64 ⟨b,3,none⟩ w5 fun z6=>some (decide (z6<0),w5))) fun c_5 w6=>bnd (cond c_5 (some (true,w6)) (gInt .i64 ⟨b,3,none⟩ w6 fun z7=>some (decide (z7>255),w6))) fun c_6 w7=>cond c_6
 (some (.bool false,w7))
 (gInt .i64 ⟨b,4,none⟩ w7 fun z8=>bnd (C Aq1 [iI z8,iI 0] w7) fun r w8=>aBool r fun z9=>bnd (cond (!z9) (some (true,w8)) (gInt .i64 ⟨b,5,none⟩ w8 fun z10=>bnd (C Aq1 [iI z10,iI 16896] w8) fun q1 w9=>aBool q1 fun z11=>some (!z11,w9))) fun c_7 w10=>bnd (cond c_7 (some (true,w10)) (gInt .i64 ⟨b,6,none⟩ w10 fun z12=>bnd (C Aq1 [iI z12,iI 16896] w10) fun q2 w11=>aBool q2 fun z13=>some (!z13,w11))) fun c_8 w12=>bnd (cond c_8 (some (true,w12)) (gInt .i64 ⟨b,7,none⟩ w12 fun z14=>bnd (C Aq1 [iI z14,iI 16896] w12) fun q3 w13=>aBool q3 fun z15=>some (!z15,w13))) fun c_9 w14=>bnd (cond c_9 (some (true,w14)) (gInt .i64 ⟨b,6,none⟩ w14 fun z16=>gInt .i64 ⟨b,7,none⟩ w14 fun z17=>some ((J8 .i64 z16 z17) != 0,w14))) fun c_10 w15=>cond c_10
 (some (.bool false,w15))
 (ckB (liveA ⟨b,8,none⟩ w15) (bnd (C G7 [.slice (E1 (some ⟨b,8,none⟩) (decide (0<8)) (0*1)) (8-0) (8-0),.func (.func Bp6) ⟨[]⟩ ⟨[]⟩] w15) fun q4 w16=>aBool q4 fun z18=>cond z18
 (some (.bool false,w16))
 (gInt .i64 ⟨b,0,none⟩ w16 fun z19=>cond (z19==2)
 (gInt .i64 ⟨b,4,none⟩ w16 fun z20=>bnd (cond (z20==0) (gAgg ⟨b,8,none⟩ 8 w16 fun z21=>Dn0 PR Hb0 z21 [iI 0,iI 0,iI 0,iI 0,iI 0,iI 0,iI 0,iI 0] fun eq=>some (eq,w16)) (some (false,w16))) fun c_11 w17=>some (.bool c_11,w17))
 (gInt .i64 ⟨b,3,none⟩ w16 fun z22=>some (.bool (z22==0),w16)))))):=kR
def D27:Cuts:=⟨2,[],[],[]⟩
def Gf5:List Item:=A6 Tryz.f210
theorem Hp7 :
 xQ D27 C R Bs0 Tryz.f210 Gf5 [(0,.slice b bn bc),(1,iI atv),(2,iI n)] h =
 bnd (cond (decide (atv<0)) (some (true,h)) (some (decide (atv>(wrap .i64 ((bn:Int)-2))),h))) fun c w=>bnd (cond c (some (true,w)) (some (decide (n<0),w))) fun c_1 w1=>bnd (cond c_1 (some (true,w1)) (some (decide (n>65535),w1))) fun c_2 w2=>cond c_2
 (some (.bool false,w2))
 (aSome b fun p=>ck ((0:Int)≤atv∧atv<(bn:Int)) (pV (add (B0 p) (Int.toNat atv*1)) (.int .u8 (wrap .u8 (Int.fdiv n (2 ^ 8)))) w2 fun w3=>aSome b fun p_1=>ck ((0:Int)≤wrap .i64 (atv+1)∧wrap .i64 (atv+1)<(bn:Int)) (pV (add (B0 p_1) (Int.toNat (wrap .i64 (atv+1))*1)) (.int .u8 (wrap .u8 (n))) w3 fun w4=>some (.bool true,w4)))):=kR
def Dn6:Cuts:=⟨2,[(3,[3,9,10,11])],[],[]⟩
def Ej8:List Item:=A6 Tryz.f211
def Bu7:List Item:=stk [0,1,0,1,0,0,1,4,5] Ej8
theorem Id8 :
 xQ Dn6 C R Af2 Tryz.f211 Ej8 [(0,.slice b bn bc)] h =
 R Af2 Bu7 [(3,.int .u8 (wrap .u8 ((bn:Int)))),(9,.slice b bn bc),(10,iI (bn:Int)),(11,iI 0)] h:=kR
theorem El9 (x9:Option Addr) (x9n x9c:Nat) (x11:Int) :
 xQ Dn6 C R Af2 Tryz.f211 Bu7 [(3,.int .u8 n),(9,.slice x9 x9n x9c),(10,iI x10),(11,iI x11)] h =
 cond (decide (x11<x10))
 (aSome x9 fun p=>ck ((0:Int)≤x11∧x11<(x9n:Int)) (gInt .u8 (add (B0 p) (Int.toNat x11*1)) h fun x=>R Af2 Bu7 [(3,.int .u8 (wrap .u8 (n+x))),(9,.slice x9 x9n x9c),(10,iI x10),(11,iI (wrap .i64 (x11+1)))] h))
 (some (.int .u8 n,h)):=kR
def D97:Cuts:=⟨2,[],[],[(3,⟨[0,1,2,3,4,5,6,7,8,9,10,11,12,13,14],[0,0,3,7,15,31,0,0,128,448,960,1984,4095,8191,16383],[],[]⟩)]⟩
def E57:List Item:=A6 Tryz.f212
theorem H43 :
 xQ D97 C R Df2 Tryz.f212 E57 [(0,.slice b bn bc),(1,iI atv)] h =
 bnd (cond (decide (atv<0)) (some (true,h)) (some (decide (atv>(wrap .i64 ((bn:Int)-2))),h))) fun c w=>cond c
 (some (.tuple ⟨[iI 0,.bool false]⟩,w))
 (aSome b fun p=>ck ((0:Int)≤atv∧atv<(bn:Int)) (gInt .u8 (add (B0 p) (Int.toNat atv*1)) w fun x=>aSome b fun p_1=>ck ((0:Int)≤wrap .i64 (atv+1)∧wrap .i64 (atv+1)<(bn:Int)) (gInt .u8 (add (B0 p_1) (Int.toNat (wrap .i64 (atv+1))*1)) w fun z1=>some (.tuple ⟨[iI (Iq2 .i64 (wrap .i64 ((wrap .i64 (x))*2 ^ 8)) (wrap .i64 (z1))),.bool true]⟩,w)))):=kR
def A20:Cuts:=⟨2,[(3,[3,15,16])],[],[]⟩
def Bm9:List Item:=A6 Tryz.f217
def Ap0:List Item:=stk [0,1,0,1,0,0,1,4,5] Bm9
theorem E42 :
 xQ A20 C R U0 Tryz.f217 Bm9 [(0,iI size)] h =
 ck ((0:Int)≤mm2 false (mm2 true size 0) 256∧(mm2 false (mm2 true size 0) 256:Int)≤mm2 false (mm2 true size 0) 256∧mm2 false (mm2 true size 0) 256≤(A8:Int)) (nw (.cells Ar4 false (E7 (Int.toNat (mm2 false (mm2 true size 0) 256)) [iI 0,iI 0,iI 0,iI 0,iI 0,iI 0,iI 0,.bool false])) h fun b w=>nw (.cells B70 false [.slice (some ⟨b,0,none⟩) (Int.toNat (mm2 false (mm2 true size 0) 256)) (Int.toNat (mm2 false (mm2 true size 0) 256))]) w fun p1 w1=>gSl ⟨p1,0,none⟩ w1 fun _ xn _=>R U0 Ap0 [(3,pP p1),(15,iI (xn:Int)),(16,iI 0)] w1):=kR
theorem Bz9 (t:Addr) (x15:Int) (x16:Int) :
 xQ A20 C R U0 Tryz.f217 Ap0 [(3,.pointer (some t)),(15,iI x15),(16,iI x16)] h =
 cond (decide (x16<x15))
 (gSl (add t 0) h fun x xn _=>aSome x fun p=>ck ((0:Int)≤x16∧x16<(xn:Int)) (pV (add (add (B0 p) (Int.toNat x16*8)) 6) (iI 1) h fun w=>R U0 Ap0 [(3,.pointer (some t)),(15,iI x15),(16,iI (wrap .i64 (x16+1)))] w))
 (some (.pointer (some t),h)):=kR
def Di4:Cuts:=⟨2,[],[],[]⟩
def Eo7:List Item:=A6 Tryz.f218
theorem G85 :
 xQ Di4 C R Bc4 Tryz.f218 Eo7 [(0,.pointer m)] h =
 aSome m fun p=>gSl (add p 0) h fun _ xn _=>some (iI (xn:Int),h):=kR
def Dk3:Cuts:=⟨2,[],[],[]⟩
def Ep6:List Item:=A6 Tryz.f223
theorem Ha8 :
 xQ Dk3 C R Bt6 Tryz.f223 Ep6 [(0,.pointer m),(1,iI atv),(2,iI n)] h =
 bnd (C Bq9 [.pointer m,iI atv,iI n] h) fun r w=>aBool r fun x=>cond (!x)
 (some (.tuple ⟨[.slice none 0 0,iI 1]⟩,w))
 (aSome m fun p=>gSl (add p 0) w fun z1 _ xc=>ckB (fitsOpen z1 A5 w) (ck ((0:Int)≤wrap .i64 (atv+n)∧wrap .i64 (atv+n)≤(xc:Int)) (ck ((0:Int)≤atv∧atv≤((Int.toNat (wrap .i64 (atv+n)):Nat):Int)) (bnd (C E9 [.slice (E1 z1 (decide (Int.toNat atv<xc)) ((Int.toNat atv)*1)) ((Int.toNat (wrap .i64 (atv+n)))-(Int.toNat atv)) (xc-(Int.toNat atv))] w) fun q1 w1=>aSl q1 fun z2 xn_1 xc_1=>some (.tuple ⟨[.slice z2 xn_1 xc_1,iI 0]⟩,w1))))):=kR
def B50:Cuts:=⟨2,[],[],[]⟩
def D34:List Item:=A6 Tryz.f228
theorem Gt2 (s:Int) :
 xQ B50 C R An9 Tryz.f228 D34 [(0,.pointer q),(1,iI s)] h =
 bnd (cond (decide (s≥0)) (aSome q fun p=>gSl (add p 0) h fun _ xn _=>some (decide (s<(xn:Int)),h)) (some (false,h))) fun c w=>some (.bool c,w):=kR
def Bs4:Cuts:=⟨2,[],[],[]⟩
def Dr6:List Item:=A6 Tryz.f229
theorem E99 (s:Int) (k:Int) :
 xQ Bs4 C R A72 Tryz.f229 Dr6 [(0,.pointer q),(1,iI s),(2,iI k)] h =
 bnd (C An9 [.pointer q,iI s] h) fun r w=>aBool r fun x=>bnd (cond x (some (decide (k≥0),w)) (some (false,w))) fun c w1=>bnd (cond c (aSome q fun p=>gSl (add p 0) w1 fun z1 xn _=>aSome z1 fun p_1=>ck ((0:Int)≤s∧s<(xn:Int)) (gSl (add (B0 p_1) (Int.toNat s*1)) w1 fun _ xn_1 _=>some (decide (k<(xn_1:Int)),w1))) (some (false,w1))) fun c_1 w2=>bnd (cond c_1 (aSome q fun p_2=>gSl (add p_2 0) w2 fun z3 xn_2 _=>aSome z3 fun p_3=>ck ((0:Int)≤s∧s<(xn_2:Int)) (gSl (add (B0 p_3) (Int.toNat s*1)) w2 fun z4 xn_3 _=>aSome z4 fun p_4=>ck ((0:Int)≤k∧k<(xn_3:Int)) (gInt .i64 (add (B0 p_4) (Int.toNat k*1)) w2 fun z5=>some (decide (z5>0),w2)))) (some (false,w2))) fun c_2 w3=>some (.bool c_2,w3):=kR
def Ey6:Cuts:=⟨2,[],[],[(5,⟨[0,1,2,3,4],[0,1,0,4,15],[],[]⟩)]⟩
def G19:List Item:=A6 Tryz.f241
theorem Is4 :
 xQ Ey6 C R Bv2 Tryz.f241 G19 [(0,.agg ⟨p⟩),(1,.slice b bn bc)] h =
 nw (.cells D1 false p) h fun p1 w=>gAgg ⟨p1,0,none⟩ 36 w fun x=>bnd (C B76 [.agg ⟨x⟩] w) fun r w1=>aBool r fun z1=>cond (!z1)
 (some (.bool false,w1))
 (gInt .i64 ⟨p1,0,none⟩ w1 fun z2=>gInt .i64 ⟨p1,1,none⟩ w1 fun z3=>gInt .i64 ⟨p1,2,none⟩ w1 fun z4=>gInt .i64 ⟨p1,3,none⟩ w1 fun z5=>nw (.cells A5 false [.int .u8 1,.int .u8 (wrap .u8 (z2)),.int .u8 (wrap .u8 (z3)),.int .u8 (wrap .u8 (z4)),.int .u8 (wrap .u8 (z5)),.int .u8 197]) w1 fun p2 w2=>gCells (some ⟨p2,0,none⟩) (min 6 bn*1) w2 fun cs=>pCells b cs w2 fun w3=>ckB (fitsOpen b A5 w3) (ck ((0:Int)≤6∧6≤(bc:Int)) (bnd (C Af2 [.slice (E1 b (decide (0<bc)) (0*1)) ((Int.toNat 6)-0) (bc-0)] w3) fun q1 w4=>aInt .u8 q1 fun z6=>aSome b fun p_1=>ck ((0:Int)≤6∧6<(bn:Int)) (pV (add (B0 p_1) (Int.toNat 6*1)) (.int .u8 z6) w4 fun w5=>ckB (fitsOpen b A5 w5) (ck ((0:Int)≤8∧8≤(bn:Int)) (ckB (liveA ⟨p1,4,none⟩ w5) (gCells (E1 (some ⟨p1,4,none⟩) (decide (0<32)) (0*1)) (min (32-0) (bn-(Int.toNat 8))*1) w5 fun cs_1=>pCells (E1 b (decide (Int.toNat 8<bc)) ((Int.toNat 8)*1)) cs_1 w5 fun w6=>some (.bool true,w6)))))))):=kR
def D59:Cuts:=⟨2,[],[],[]⟩
def Ga4:List Item:=A6 Tryz.f246
theorem H07 (k:Int) :
 xQ D59 C R Be5 Tryz.f246 Ga4 [(0,iI k),(1,.pointer (some fv0))] h =
 gPtr fv0 h fun x=>bnd (C M8 [.pointer x,iI k] h) fun r w=>as2 r fun q1 q2=>aAgg q1 fun z1=>aInt .i64 q2 fun z2=>nw (.cells D3 false [iI 0,iI 0,iI 0,iI 0]) w fun b w1=>ck (List.length z1=4) (pAgg ⟨b,0,none⟩ z1 w1 fun w2=>some (.bool (z2==0),w2)):=kR
def Eh1:Cuts:=⟨2,[],[],[(9,⟨[0,1,2,3,4,5],[0,0,0,6,15,31],[(3,[0])],[]⟩)]⟩
def Gn8:List Item:=A6 Tryz.f251
theorem H73 :
 xQ Eh1 C R Dm8 Tryz.f251 Gn8 [(0,.pointer c),(1,iI i),(2,iI fd),(3,iI n)] h =
 nw (.cells D3 false [iI 0,iI 0,iI 0,iI 0]) h fun b w=>bnd (C Dj2 [.pointer c,iI i,iI fd] w) fun r w1=>as3 r fun q1 q2 q3=>aInt .i64 q1 fun _=>aAgg q2 fun z1=>aInt .i64 q3 fun z2=>nw (.cells D3 false [iI 0,iI 0,iI 0,iI 0]) w1 fun p1 w2=>ck (List.length z1=4) (pAgg ⟨p1,0,none⟩ z1 w2 fun w3=>cond (z2 != 0)
 (gAgg ⟨p1,0,none⟩ 4 w3 fun z3=>ck (List.length z3=4) (pAgg ⟨b,0,none⟩ z3 w3 fun w4=>gAgg ⟨b,0,none⟩ 4 w4 fun z4=>some (.tuple ⟨[.agg ⟨z4⟩,iI z2]⟩,w4)))
 (gInt .i64 ⟨p1,0,none⟩ w3 fun z5=>cond (z5==2)
 (gAgg ⟨p1,0,none⟩ 4 w3 fun z6=>ck (List.length z6=4) (pAgg ⟨b,0,none⟩ z6 w3 fun w5=>gAgg ⟨b,0,none⟩ 4 w5 fun z7=>some (.tuple ⟨[.agg ⟨z7⟩,iI 109]⟩,w5)))
 (bnd (cond (decide (n<0)) (some (true,w3)) (some (decide (n>32),w3))) fun c_1 w6=>cond c_1
 (gAgg ⟨p1,0,none⟩ 4 w6 fun z8=>ck (List.length z8=4) (pAgg ⟨b,0,none⟩ z8 w6 fun w7=>gAgg ⟨b,0,none⟩ 4 w7 fun z9=>some (.tuple ⟨[.agg ⟨z9⟩,iI 122]⟩,w7)))
 (gInt .i64 ⟨p1,0,none⟩ w6 fun z10=>cond (z10==3)
 (gAgg ⟨p1,0,none⟩ 4 w6 fun z11=>bnd (C Hm5 [.pointer c,iI i] w6) fun q4 w8=>aInt .i64 q4 fun z12=>gAgg ⟨p1,0,none⟩ 4 w8 fun z13=>same (.agg ⟨z11⟩) (.agg ⟨z13⟩) (ck (List.length z11=4) (pAgg ⟨b,0,none⟩ z11 w8 fun w9=>gAgg ⟨b,0,none⟩ 4 w9 fun z14=>some (.tuple ⟨[.agg ⟨z14⟩,iI z12]⟩,w9))))
 (gAgg ⟨p1,0,none⟩ 4 w6 fun z15=>ck (List.length z15=4) (pAgg ⟨b,0,none⟩ z15 w6 fun w10=>gAgg ⟨b,0,none⟩ 4 w10 fun z16=>some (.tuple ⟨[.agg ⟨z16⟩,iI 0]⟩,w10))))))):=kR
def D25:Cuts:=⟨2,[],[],[]⟩
def E76:List Item:=A6 Tryz.f252
theorem H28 :
 xQ D25 C R U5 Tryz.f252 E76 [(0,iI e)] h =
 nw (.cells Q2 false [iI 0,iI 0,.slice none 0 0,.bool false]) h fun b w=>pAgg ⟨b,0,none⟩ [iI 0,iI e,.slice none 0 0,.bool false] w fun w1=>gAgg ⟨b,0,none⟩ 4 w1 fun x=>some (.agg ⟨x⟩,w1):=kR
def Dt0:Cuts:=⟨2,[],[],[]⟩
def E06:List Item:=A6 Tryz.f254
theorem Hk0 :
 xQ Dt0 C R A38 Tryz.f254 E06 [(0,.agg ⟨f⟩)] h =
 nw (.cells D3 false f) h fun b w=>nw (.cells Q2 false [iI 0,iI 0,.slice none 0 0,.bool false]) w fun p1 w1=>gInt .i64 ⟨b,3,none⟩ w1 fun x=>cond (x==1)
 (bnd (C U5 [iI 111] w1) fun r w2=>aAgg r fun z1=>ck (List.length z1=4) (pAgg ⟨p1,0,none⟩ z1 w2 fun w3=>gAgg ⟨p1,0,none⟩ 4 w3 fun z2=>some (.agg ⟨z2⟩,w3)))
 (pAgg ⟨p1,0,none⟩ [iI 0,iI 0,.slice none 0 0,.bool true] w1 fun w4=>gAgg ⟨p1,0,none⟩ 4 w4 fun z3=>some (.agg ⟨z3⟩,w4)):=kR
def A09:Cuts:=⟨2,[],[],[]⟩
def Bp9:List Item:=A6 Tryz.f277
theorem D48 (t:Option Addr) :
 xQ A09 C R Ak7 Tryz.f277 Bp9 [(0,.pointer t),(1,iI name)] h =
 bnd (cond (decide (name<0)) (some (true,h)) (aSome t fun p=>gSl (add p 0) h fun _ xn _=>some (decide ((J8 .i64 name 255)≥(xn:Int)),h))) fun c w=>bnd (cond c (some (true,w)) (aSome t fun p_1=>gSl (add p_1 0) w fun z1 xn_1 _=>aSome z1 fun p_2=>ck ((0:Int)≤J8 .i64 name 255∧J8 .i64 name 255<(xn_1:Int)) (gBool (add (add (B0 p_2) (Int.toNat (J8 .i64 name 255)*8)) 7) w fun z2=>some (!z2,w)))) fun c_1 w1=>bnd (cond c_1 (some (true,w1)) (bnd (C Q0 [.pointer t,iI (J8 .i64 name 255)] w1) fun r w2=>aInt .i64 r fun z3=>some (z3 != name,w2))) fun c_2 w3=>cond c_2
 (some (.pointer none,w3))
 (aSome t fun p_3=>gSl (add p_3 0) w3 fun z4 xn_2 _=>aSome z4 fun p_4=>ck ((0:Int)≤J8 .i64 name 255∧J8 .i64 name 255<(xn_2:Int)) (some (.pointer (some (add (B0 p_4) (Int.toNat (J8 .i64 name 255)*8))),w3))):=kR
def Dk2:Cuts:=⟨2,[],[],[(1,⟨[1,0,2,3,4,5,6],[0,0,3,7,7,31,63],[(0,[1])],[]⟩)]⟩
def Ep4:List Item:=A6 Tryz.f279
theorem G95 :
 xQ Dk2 C R Bc7 Tryz.f279 Ep4 [(0,.agg ⟨f⟩)] h =
 nw (.cells D3 false f) h fun b w=>gAgg ⟨b,0,none⟩ 4 w fun x=>bnd (C Bj2 [] w) fun r w1=>aPtr r fun z1=>gAgg ⟨b,0,none⟩ 4 w1 fun z2=>same (.agg ⟨x⟩) (.agg ⟨z2⟩) (bnd (C Aa3 [.pointer z1,.agg ⟨x⟩] w1) fun q1 w2=>as2 q1 fun q2 q3=>aSl q2 fun z3 xn xc=>aBool q3 fun z4=>some (.tuple ⟨[.slice z3 xn xc,.bool z4]⟩,w2)):=kR
def D43:Cuts:=⟨2,[],[],[]⟩
def Gc5:List Item:=A6 Tryz.f285
theorem Hs7 (fv1:Addr) :
 xQ D43 C R Bb8 Tryz.f285 Gc5 [(0,.agg ⟨p⟩),(1,.pointer (some fv0)),(2,.pointer (some fv1))] h =
 nw (.cells D1 false p) h fun b w=>gPtr fv0 w fun x=>gInt .i64 (add fv1 1) w fun z1=>gAgg ⟨b,0,none⟩ 36 w fun z2=>bnd (C S6 [.pointer x,iI z1,.agg ⟨z2⟩] w) fun r w1=>aBool r fun z3=>some (.bool z3,w1):=kR
def Am3:Cuts:=⟨2,[],[],[(2,⟨[0,1,2,3,4,5,6,7,8,9,10,11,12,13,14],[0,1,3,7,15,31,63,127,255,511,63,63,4095,8191,16383],[],[]⟩)]⟩
def A93:List Item:=A6 Tryz.f292
theorem Dg4 (v:List Value) :
 xQ Am3 C R Aa2 Tryz.f292 A93 [(0,.pointer c),(1,.agg ⟨v⟩)] h =
 nw (.cells D1 false v) h fun b w=>aSome c fun p=>gInt .i64 (add p 0) w fun x=>ck ((0:Int)≤x∧(x:Int)≤x∧x≤(A8:Int)) (nw (.cells A5 false (E7 (Int.toNat x) [.int .u8 0])) w fun p1 w1=>aSome c fun p_1=>gFv (add p_1 1) w1 fun z1=>isNilF z1 fun p2=>bnd (cond p2 (some (true,w1)) (aSome c fun p_2=>gFv (add p_2 1) w1 fun z2=>gAgg ⟨b,0,none⟩ 36 w1 fun z3=>aFn z2 fun g fi cp=>bnd (C g (fi++([.agg ⟨z3⟩,.slice (some ⟨p1,0,none⟩) (Int.toNat x) (Int.toNat x)]++cp)) w1) fun r w2=>aBool r fun z4=>some (!z4,w2))) fun c_1 w3=>cond c_1
 (some (.tuple ⟨[.slice none 0 0,.bool false]⟩,w3))
 (some (.tuple ⟨[.slice (some ⟨p1,0,none⟩) (Int.toNat x) (Int.toNat x),.bool true]⟩,w3))):=kR
end
end Go.EQ
