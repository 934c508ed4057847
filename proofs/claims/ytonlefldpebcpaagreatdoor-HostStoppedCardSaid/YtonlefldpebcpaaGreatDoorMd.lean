/- One that is stopped does nothing till it goes on, and holds nobody up; then its call is done. -/
import Derived.Test.YtonlefldpebcpaaGreatDoorMc
import Derived.Test.YtonlefldpebcpaaGreatDoorProg
import Derived.KernelRfl
set_option linter.all false
namespace Go.EQ
open Go Go.NN Go.Proofs
noncomputable abbrev PR:Program:=Tryz.prog
abbrev D0:FuncId:=3
abbrev Ad4:FuncId:=7
abbrev E7:FuncId:=8
abbrev Q9:FuncId:=9
abbrev D6:FuncId:=10
abbrev A74:FuncId:=11
abbrev Ak9:FuncId:=12
abbrev E2:FuncId:=13
abbrev Ae5:FuncId:=14
abbrev Ai8:FuncId:=15
abbrev Bx2:FuncId:=16
abbrev An9:FuncId:=21
abbrev Bw9:FuncId:=22
abbrev A25:FuncId:=23
abbrev Bj4:FuncId:=24
abbrev B8:FuncId:=25
abbrev E3:FuncId:=26
abbrev Gm8:FuncId:=27
abbrev Ay5:FuncId:=28
abbrev Ai6:FuncId:=29
abbrev Bd7:FuncId:=30
abbrev A85:FuncId:=31
abbrev Er1:FuncId:=32
abbrev Ao5:FuncId:=33
abbrev Aq1:FuncId:=34
abbrev N5:FuncId:=35
abbrev A98:FuncId:=36
abbrev Aw4:FuncId:=37
abbrev A30:FuncId:=38
abbrev Ah8:FuncId:=39
abbrev Bm3:FuncId:=40
abbrev B84:FuncId:=41
abbrev S4:FuncId:=42
abbrev M7:FuncId:=43
abbrev Aw1:FuncId:=44
abbrev Bf4:FuncId:=45
abbrev W3:FuncId:=46
abbrev A69:FuncId:=47
abbrev Z8:FuncId:=48
abbrev Ao4:FuncId:=49
abbrev W0:FuncId:=50
abbrev Ac6:FuncId:=51
abbrev Am8:FuncId:=52
abbrev Am4:FuncId:=53
abbrev Ak5:FuncId:=54
abbrev Bc9:FuncId:=55
abbrev Ge9:FuncId:=56
abbrev Ai7:FuncId:=57
abbrev Dp4:FuncId:=58
abbrev P1:FuncId:=64
abbrev Q2:FuncId:=65
abbrev Ga4:FuncId:=66
abbrev Ar0:FuncId:=67
abbrev An6:FuncId:=68
abbrev Q1:FuncId:=69
abbrev Aq4:FuncId:=70
abbrev Bf5:FuncId:=71
abbrev Y8:FuncId:=72
abbrev M6:FuncId:=73
abbrev J6:FuncId:=74
abbrev I0:FuncId:=75
abbrev Ah2:FuncId:=76
abbrev A63:FuncId:=77
abbrev A06:FuncId:=78
abbrev Er6:FuncId:=79
abbrev As5:FuncId:=80
abbrev Er7:FuncId:=81
abbrev E15:FuncId:=82
abbrev Eq8:FuncId:=83
abbrev Et3:FuncId:=84
abbrev E68:FuncId:=85
abbrev D36:FuncId:=86
abbrev E70:FuncId:=87
abbrev E60:FuncId:=88
abbrev A33:FuncId:=89
abbrev Bd5:FuncId:=90
abbrev Bd3:FuncId:=91
abbrev N3:FuncId:=92
abbrev A89:FuncId:=93
abbrev Aw3:FuncId:=94
abbrev L0:FuncId:=95
abbrev Bo4:FuncId:=96
abbrev Ap9:FuncId:=97
abbrev V0:FuncId:=98
abbrev Ai9:FuncId:=99
abbrev I9:FuncId:=100
abbrev Aa1:FuncId:=102
abbrev Bw7:FuncId:=103
abbrev Dg1:FuncId:=104
abbrev Ho0:FuncId:=105
abbrev Au9:FuncId:=106
abbrev Hb6:FuncId:=107
abbrev V9:FuncId:=108
abbrev Bn6:FuncId:=109
abbrev As6:FuncId:=110
abbrev Ba4:FuncId:=116
abbrev S9:FuncId:=117
abbrev Bg7:FuncId:=118
abbrev Ac9:FuncId:=119
abbrev Dg2:FuncId:=122
abbrev Ai0:FuncId:=124
abbrev H0:FuncId:=125
abbrev Ab0:FuncId:=126
abbrev S8:FuncId:=127
abbrev Ai5:FuncId:=128
abbrev As8:FuncId:=129
abbrev P6:FuncId:=130
abbrev Aa2:FuncId:=131
abbrev V5:FuncId:=132
abbrev Bg1:FuncId:=133
abbrev D13:FuncId:=134
abbrev A24:FuncId:=135
abbrev Av1:FuncId:=136
abbrev B85:FuncId:=137
abbrev Dr2:FuncId:=138
abbrev At8:FuncId:=139
abbrev Q6:FuncId:=140
abbrev O5:FuncId:=141
abbrev Bc1:FuncId:=142
abbrev Ac1:FuncId:=143
abbrev P4:FuncId:=144
abbrev Ab9:FuncId:=145
abbrev Bn9:FuncId:=146
abbrev A38:FuncId:=147
abbrev Ba8:FuncId:=148
abbrev Bc6:FuncId:=149
abbrev Ae6:FuncId:=150
abbrev Ad3:FuncId:=151
abbrev Ao7:FuncId:=152
abbrev A08:FuncId:=153
abbrev Es0:FuncId:=154
abbrev Ay7:FuncId:=155
abbrev A10:FuncId:=156
abbrev A66:FuncId:=157
abbrev A64:FuncId:=158
abbrev Ar7:FuncId:=159
abbrev Be2:FuncId:=160
abbrev Am3:FuncId:=161
abbrev Aj3:FuncId:=162
abbrev Be0:FuncId:=163
abbrev V3:FuncId:=170
abbrev Bf7:FuncId:=171
abbrev Y9:FuncId:=172
abbrev Bm7:FuncId:=173
abbrev Z0:FuncId:=174
abbrev At6:FuncId:=175
abbrev H41:FuncId:=176
abbrev Hc6:FuncId:=177
abbrev G52:FuncId:=178
abbrev Hp2:FuncId:=179
abbrev Ig7:FuncId:=180
abbrev H52:FuncId:=181
abbrev Id1:FuncId:=182
abbrev G62:FuncId:=183
abbrev Av3:FuncId:=184
abbrev I2:FuncId:=185
abbrev Ah0:FuncId:=186
abbrev A73:FuncId:=188
abbrev Bo8:FuncId:=189
abbrev W1:FuncId:=190
abbrev Hy4:FuncId:=194
abbrev G96:FuncId:=195
abbrev W8:FuncId:=196
abbrev Z2:FuncId:=203
abbrev O9:FuncId:=207
abbrev G0:FuncId:=208
abbrev Ds0:FuncId:=209
abbrev Bn3:FuncId:=210
abbrev Ad0:FuncId:=211
abbrev B74:FuncId:=212
abbrev D1:FuncId:=213
abbrev I7:FuncId:=214
abbrev E5:FuncId:=215
abbrev B22:FuncId:=216
abbrev Q7:FuncId:=217
abbrev A82:FuncId:=218
abbrev An1:FuncId:=219
abbrev Ay1:FuncId:=220
abbrev Ab5:FuncId:=221
abbrev Ac4:FuncId:=222
abbrev Bo6:FuncId:=223
abbrev Bj3:FuncId:=224
abbrev Ay2:FuncId:=225
abbrev Al4:FuncId:=228
abbrev A21:FuncId:=229
abbrev Aw8:FuncId:=230
abbrev B7:FuncId:=231
abbrev A65:FuncId:=232
abbrev Bc4:FuncId:=233
abbrev Z6:FuncId:=234
abbrev As3:FuncId:=237
abbrev Av5:FuncId:=238
abbrev Au6:FuncId:=239
abbrev At2:FuncId:=240
abbrev Bp4:FuncId:=241
abbrev Bn7:FuncId:=242
abbrev Ag1:FuncId:=249
abbrev Ax7:FuncId:=261
abbrev Eh9:FuncId:=262
abbrev Ab7:FuncId:=265
abbrev An5:FuncId:=269
abbrev Bm4:FuncId:=270
abbrev D7:FuncId:=271
abbrev L1:FuncId:=272
abbrev Bk8:FuncId:=273
abbrev Ag4:FuncId:=274
abbrev Ag9:FuncId:=277
abbrev Dq2:FuncId:=278
abbrev A91:FuncId:=279
abbrev D05:FuncId:=280
abbrev Bv9:FuncId:=281
abbrev Y7:FuncId:=290
abbrev Av2:FuncId:=291
abbrev Y6:FuncId:=292
abbrev B3:TypeId:=3
abbrev Gp4:TypeId:=4
abbrev A4:TypeId:=5
abbrev Ao8:TypeId:=23
abbrev Di8:TypeId:=30
abbrev U5:TypeId:=32
abbrev Z7:TypeId:=34
abbrev P2:TypeId:=35
abbrev Da3:TypeId:=40
abbrev Gx1:TypeId:=42
abbrev B2:TypeId:=44
abbrev Am0:TypeId:=60
abbrev Au8:TypeId:=63
abbrev E0:TypeId:=72
abbrev D89:TypeId:=83
abbrev Dy6:TypeId:=85
abbrev B36:TypeId:=88
abbrev A29:TypeId:=91
abbrev O3:TypeId:=95
abbrev Dt0:TypeId:=97
abbrev N1:TypeId:=105
abbrev A01:TypeId:=106
abbrev Hg4:TypeId:=110
abbrev An3:TypeId:=120
abbrev Dm9:TypeId:=134
abbrev D9:TypeId:=144
abbrev B35:TypeId:=150
abbrev E87:TypeId:=160
abbrev Ed3:TypeId:=168
abbrev Bg3:TypeId:=173
abbrev D22:TypeId:=178
abbrev Ga1:TypeId:=186
abbrev I6:TypeId:=215
abbrev Aw5:TypeId:=218
abbrev Q8:TypeId:=223
abbrev B61:TypeId:=225
abbrev Bv0:TypeId:=233
abbrev L7:TypeId:=235
abbrev Ba2:TypeId:=262
abbrev Ev7:TypeId:=266
abbrev Et9:TypeId:=269
abbrev E90:TypeId:=271
abbrev N6:TypeId:=287
abbrev B19:TypeId:=307
abbrev Ap1:TypeId:=309
abbrev Is4:TypeId:=313
abbrev Ez7:TypeId:=320
abbrev A02:TypeId:=323
abbrev Du4:TypeId:=326
abbrev A03:TypeId:=328
abbrev Bv1:TypeId:=330
abbrev Bn5:TypeId:=342
abbrev Es5:TypeId:=345
abbrev Am5:TypeId:=349
abbrev Bv5:TypeId:=353
abbrev Eg2:TypeId:=370
abbrev H57:TypeId:=390
noncomputable abbrev iI (n:Int):Value:=.int .i64 n
noncomputable abbrev pP (b:Nat):Value:=.pointer (some ⟨b,0,none⟩)
noncomputable abbrev xQ (c:Cuts) (C:D3) (R:Aa7) (f:FuncId) (fn:Func) (T:List Item) (s:B6) (h:H):Option (Value × H):=Y2 PR c C R f fn 100000 true T s h
theorem kR {α:Type} {a b:α} (h:a=b:=by kernel_rfl):a=b:=h
noncomputable abbrev zZ1:List Value:=[.int .i64 0,.int .i64 0,.int .i64 0,.int .i64 0,.int .i64 0,.int .i64 0,.int .i64 0,.int .i64 0,.int .i64 0,.int .i64 0,.int .i64 0,.int .i64 0,.int .i64 0,.int .i64 0,.int .i64 0,.int .i64 0]
noncomputable abbrev zZ2:List Value:=[.int .i64 0,.int .i64 0,.int .i64 0,.int .i64 0,.int .u8 0,.int .u8 0,.int .u8 0,.int .u8 0,.int .u8 0,.int .u8 0,.int .u8 0,.int .u8 0,.int .u8 0,.int .u8 0,.int .u8 0,.int .u8 0,.int .u8 0,.int .u8 0,.int .u8 0,.int .u8 0,.int .u8 0,.int .u8 0,.int .u8 0,.int .u8 0,.int .u8 0,.int .u8 0,.int .u8 0,.int .u8 0,.int .u8 0,.int .u8 0,.int .u8 0,.int .u8 0,.int .u8 0,.int .u8 0,.int .u8 0,.int .u8 0]
noncomputable abbrev zZ3:List Value:=[.int .i64 0,.int .i64 0,.int .i64 0,.int .i64 0,.int .i64 0,.int .i64 0,.int .i64 0,.int .i64 0,.int .i64 0,.int .i64 0,.int .i64 0,.int .i64 0]
noncomputable abbrev zZ4:List Value:=[.int .i64 0,.int .i64 0,.int .i64 0,.int .i64 0,.int .i64 0,.int .i64 0,.int .i64 0,.int .i64 0,.int .i64 0,.int .i64 0,.int .i64 0,.int .i64 0,.int .i64 0,.int .i64 0,.int .i64 0,.int .i64 0,.int .i64 0]
end Go.EQ

set_option maxRecDepth 100000
namespace Go.EQ
open Go Go.NN Go.Proofs
open Go.IntKind (wrap)
open Go.Addr (add)
variable (C:D3) (R:Aa7) (dov fv0 hs more nonev p:Addr) (h:H) (a atv e env envs f fd g i j j_1 n name now size target who x x10 x12 x20 x9:Int) (r:List Value) (bc bn datac datan lc ln outc outn s1c s1n s2c s2n sc slicesc slicesn sn:Nat) (b c data k l m out q s s1 s2 slices t w:Option Addr) (cmp of:Value)
noncomputable section
def A44:Cuts:=⟨2,[],[],[]⟩
def Bv3:List Item:=A5 Tryz.f13
theorem D84 :
 xQ A44 C R E2 Tryz.f13 Bv3 [(0,.pointer c),(1,iI i)] h =
 nw (.cells B2 false zZ1) h fun b w=>bnd (C A98 [iI i] w) fun r w1=>aAgg r fun x=>bnd (C N5 [.pointer c,.agg ⟨x⟩,.func (.func Aw4) ⟨[]⟩ ⟨[]⟩] w1) fun q1 w2=>as2 q1 fun q2 q3=>aAgg q2 fun z1=>aInt .i64 q3 fun z2=>ck (List.length z1=16) (pAgg ⟨b,0,none⟩ z1 w2 fun w3=>gAgg ⟨b,0,none⟩ 16 w3 fun z3=>some (.tuple ⟨[.agg ⟨z3⟩,iI z2]⟩,w3)):=kR
def Bo3:Cuts:=⟨2,[(7,[1,3,4])],[],[]⟩
def De7:List Item:=A5 Tryz.f14
def A72:List Item:=stk [0,1,0,1,0,1,0,1,0,0,1,4,5] De7
theorem Gq7 (p:List Value) :
 xQ Bo3 C R Ae5 Tryz.f14 De7 [(0,.agg ⟨p⟩)] h =
 nw (.cells B2 false p) h fun b w=>gInt .i64 ⟨b,0,none⟩ w fun x=>bnd (C A30 [iI x,iI 1,iI 3] w) fun r w1=>aBool r fun z1=>bnd (cond (!z1) (some (true,w1)) (gInt .i64 ⟨b,1,none⟩ w1 fun z2=>bnd (C A30 [iI z2,iI 0,iI 8] w1) fun q1 w2=>aBool q1 fun z3=>some (!z3,w2))) fun c w3=>bnd (cond c (some (true,w3)) (gInt .i64 ⟨b,2,none⟩ w3 fun z4=>bnd (C A30 [iI z4,iI 0,iI 7] w3) fun q2 w4=>aBool q2 fun z5=>some (!z5,w4))) fun c_1 w5=>bnd (cond c_1 (some (true,w5)) (gInt .i64 ⟨b,3,none⟩ w5 fun z6=>bnd (C A30 [iI z6,iI 0,iI 255] w5) fun q3 w6=>aBool q3 fun z7=>some (!z7,w6))) fun c_2 w7=>cond c_2
 (some (.bool false,w7))
 (gInt .i64 ⟨b,4,none⟩ w7 fun z8=>bnd (C Ah8 [iI z8] w7) fun q4 w8=>aBool q4 fun z9=>bnd (cond (!z9) (some (true,w8)) (gInt .i64 ⟨b,5,none⟩ w8 fun z10=>bnd (C Ah8 [iI z10] w8) fun q5 w9=>aBool q5 fun z11=>some (!z11,w9))) fun c_3 w10=>bnd (cond c_3 (some (true,w10)) (gInt .i64 ⟨b,6,none⟩ w10 fun z12=>bnd (C Ah8 [iI z12] w10) fun q6 w11=>aBool q6 fun z13=>some (!z13,w11))) fun c_4 w12=>bnd (cond c_4 (some (true,w12)) (gInt .i64 ⟨b,7,none⟩ w12 fun z14=>bnd (C Ah8 [iI z14] w12) fun q7 w13=>aBool q7 fun z15=>some (!z15,w13))) fun c_5 w14=>bnd (cond c_5 (some (true,w14)) (gInt .i64 ⟨b,5,none⟩ w14 fun z16=>gInt .i64 ⟨b,6,none⟩ w14 fun z17=>gInt .i64 ⟨b,7,none⟩ w14 fun z18=>some ((D2 .i64 (Bb7 .i64 (Bb7 .i64 z16 z17) z18) 16896) != 0,w14))) fun c_6 w15=>bnd (cond c_6 (some (true,w15)) (gInt .i64 ⟨b,6,none⟩ w15 fun z19=>gInt .i64 ⟨b,7,none⟩ w15 fun z20=>some ((D2 .i64 z19 z20) != 0,w15))) fun c_7 w16=>cond c_7
 (some (.bool false,w16))
 (R Ae5 A72 [(1,pP b),(3,.bool false),(4,iI 0)] w16)):=kR
theorem Dm7 (somev:Bool) :
 xQ Bo3 C R Ae5 Tryz.f14 A72 [(1,.pointer (some p)),(3,.bool somev),(4,iI i)] h =
 cond (decide (i<8))
 (ck ((0:Int)≤i∧i<((8:Nat):Int)) (gInt .i64 (add (add p 8) (Int.toNat i*1)) h fun x=>bnd (C A30 [iI x,iI 0,iI 12] h) fun r w=>aBool r fun z1=>cond (!z1)
 (some (.bool false,w))
 (bnd (cond somev (some (true,w)) (ck ((0:Int)≤i∧i<((8:Nat):Int)) (gInt .i64 (add (add p 8) (Int.toNat i*1)) w fun z2=>some (z2 != 0,w)))) fun c w1=>R Ae5 A72 [(1,.pointer (some p)),(3,.bool c),(4,iI (wrap .i64 (i+1)))] w1)))
 (gInt .i64 (add p 0) h fun z3=>cond (z3==2)
 (bnd (cond (!somev) (gInt .i64 (add p 4) h fun z4=>some (z4==0,h)) (some (false,h))) fun c_1 w2=>some (.bool c_1,w2))
 (gInt .i64 (add p 3) h fun z5=>some (.bool (z5==0),h))):=kR
def B43:Cuts:=⟨2,[(9,[6,7,8,9,10,11,12])],[],[]⟩
def Dv1:List Item:=A5 Tryz.f21
def Bj6:List Item:=stk [0,1,0,1,0,1,0,1,0,1,0,1,0,1,0,0,1,4,5] Dv1
theorem Hl6 :
 xQ B43 C R An9 Tryz.f21 Dv1 [(0,.slice b bn bc)] h =
 bnd (C B84 [] h) fun r w=>aAgg r fun x=>bnd (C Bm3 [.agg ⟨x⟩] w) fun q1 w1=>as4 q1 fun q2 q3 q4 q5=>aPtr q2 fun z1=>aPtr q3 fun z2=>aPtr q4 fun z3=>aPtr q5 fun z4=>bnd (cond z2.isNone (some (true,w1)) (some ((bn:Int) != 492,w1))) fun c w2=>cond c
 (some (.tuple ⟨[.pointer none,.pointer none,.pointer none,.pointer none]⟩,w2))
 (nw (.cells A29 false [iI 0,iI 0,iI 0,iI 0,iI 0,iI 0,.slice none 0 0]) w2 fun p1 w3=>pAgg ⟨p1,0,none⟩ [iI 2,iI 256,iI 0,iI 0,iI 0,iI 0,.slice b bn bc] w3 fun w4=>bnd (C S4 [.agg ⟨[iI 0,iI 0,iI 1,iI 1,.int .u8 0,.int .u8 0,.int .u8 0,.int .u8 0,.int .u8 0,.int .u8 0,.int .u8 0,.int .u8 0,.int .u8 0,.int .u8 0,.int .u8 0,.int .u8 0,.int .u8 0,.int .u8 0,.int .u8 0,.int .u8 0,.int .u8 0,.int .u8 0,.int .u8 0,.int .u8 0,.int .u8 0,.int .u8 0,.int .u8 0,.int .u8 0,.int .u8 0,.int .u8 0,.int .u8 0,.int .u8 0,.int .u8 0,.int .u8 0,.int .u8 0,.int .u8 0]⟩] w4) fun q6 w5=>aStr q6 fun z5=>gAgg ⟨p1,0,none⟩ 7 w5 fun z6=>bnd (C M7 [.pointer z1,iI 0,.agg ⟨z6⟩] w5) fun q7 w6=>aAgg q7 fun _=>gAgg ⟨p1,0,none⟩ 7 w6 fun z8=>bnd (C Aw1 [.pointer z3,iI 0,.agg ⟨z8⟩] w6) fun q8 w7=>as3 q8 fun q9 q10 q11=>aInt .i64 q9 fun _=>aInt .i64 q10 fun _=>aStr q11 fun _=>R An9 Bj6 [(6,.pointer z1),(7,.pointer z2),(8,.pointer z3),(9,.pointer z4),(10,pP p1),(11,.string z5),(12,iI 1)] w7):=kR
theorem B60 (wv:Option Addr) (x:Addr) (pipe:ByteArray) :
 xQ B43 C R An9 Tryz.f21 Bj6 [(6,.pointer k),(7,.pointer c),(8,.pointer wv),(9,.pointer m),(10,.pointer (some x)),(11,.string pipe),(12,iI i)] h =
 cond (decide (i<3))
 (ck (ByteArray.size pipe≤A8) (nw (.cells A4 false (A0 (ByteArray.data pipe).toList)) h fun b w=>pAgg x [iI 2,iI (wrap .i64 (256+i)),iI 0,iI 0,iI 0,iI 0,.slice (some (N7 b)) (ByteArray.size pipe) (ByteArray.size pipe)] w fun w1=>gAgg x 7 w1 fun z1=>bnd (C M7 [.pointer k,iI 0,.agg ⟨z1⟩] w1) fun r w2=>aAgg r fun _=>gAgg x 7 w2 fun z3=>bnd (C Aw1 [.pointer wv,iI 0,.agg ⟨z3⟩] w2) fun q1 w3=>as3 q1 fun q2 q3 q4=>aInt .i64 q2 fun _=>aInt .i64 q3 fun _=>aStr q4 fun _=>R An9 Bj6 [(6,.pointer k),(7,.pointer c),(8,.pointer wv),(9,.pointer m),(10,.pointer (some x)),(11,.string pipe),(12,iI (wrap .i64 (i+1)))] w3))
 (some (.tuple ⟨[.pointer k,.pointer c,.pointer wv,.pointer m]⟩,h)):=kR
def Dk6:Cuts:=⟨2,[],[],[(5,⟨[0,1,2,3,4],[0,1,0,4,15],[(3,[1])],[]⟩)]⟩
def Eo6:List Item:=A5 Tryz.f22
theorem G41 :
 xQ Dk6 C R Bw9 Tryz.f22 Eo6 [] h =
 bnd (C Bf4 [] h) fun r w=>aStr r fun x=>ck (ByteArray.size x≤A8) (nw (.cells A4 false (A0 (ByteArray.data x).toList)) w fun b w1=>nw (.cells B2 false zZ1) w1 fun p1 w2=>pAgg ⟨p1,0,none⟩ [iI 1,iI 0,iI 0,iI 0,iI 0,iI 0,iI 0,iI 0,iI 0,iI 0,iI 0,iI 0,iI 0,iI 0,iI 0,iI 0] w2 fun w3=>ck ((0:Int)≤0∧0<((8:Nat):Int)) (pV (add ⟨p1,8,none⟩ (Int.toNat 0*1)) (iI 1) w3 fun w4=>gAgg ⟨p1,0,none⟩ 16 w4 fun z1=>bnd (C W3 [.agg ⟨z1⟩] w4) fun q1 w5=>aStr q1 fun z2=>pCells (some (N7 b)) (A0 (List.take (min (ByteArray.size z2) (ByteArray.size x)) (ByteArray.data z2).toList)) w5 fun w6=>ckB (fitsOpen (some (N7 b)) A4 w6) (ck ((0:Int)≤192∧192≤((ByteArray.size x:Nat):Int)) (bnd (C A69 [.agg ⟨[iI 3,iI 0,iI 1,iI 0]⟩] w6) fun q2 w7=>aStr q2 fun z3=>ckB (fitsOpen (some (N7 b)) A4 w7) (ck ((0:Int)≤192∧192≤((ByteArray.size x:Nat):Int)) (same (.slice (L5 (some (N7 b)) (decide (Int.toNat 192<ByteArray.size x)) ((Int.toNat 192)*1)) ((ByteArray.size x)-(Int.toNat 192)) ((ByteArray.size x)-(Int.toNat 192))) (.slice (L5 (some (N7 b)) (decide (Int.toNat 192<ByteArray.size x)) ((Int.toNat 192)*1)) ((ByteArray.size x)-(Int.toNat 192)) ((ByteArray.size x)-(Int.toNat 192))) (pCells (L5 (some (N7 b)) (decide (Int.toNat 192<ByteArray.size x)) ((Int.toNat 192)*1)) (A0 (List.take (min (ByteArray.size z3) ((ByteArray.size x)-(Int.toNat 192))) (ByteArray.data z3).toList)) w7 fun w8=>some (.slice (some (N7 b)) (ByteArray.size x) (ByteArray.size x),w8)))))))):=kR
def V8:Cuts:=⟨2,[(1,[0,5]),(6,[0,12]),(11,[0,20,21])],[],[]⟩
def Ac3:List Item:=A5 Tryz.f25
def Ag2:List Item:=stk [0,0,1,4,5] Ac3
def Af7:List Item:=stk [0,1,0,0,1,4,5] Ac3
def Ag3:List Item:=stk [0,1,0,1,0,0,1,4,5] Ac3
theorem D72 :
 xQ V8 C R B8 Tryz.f25 Ac3 [(0,.pointer c)] h =
 R B8 Ag2 [(0,.pointer c),(5,iI 0)] h:=kR
theorem Bj7 (x5:Int) :
 xQ V8 C R B8 Tryz.f25 Ag2 [(0,.pointer c),(5,iI x5)] h =
 cond (decide (x5<8))
 (bnd (C E2 [.pointer c,iI x5] h) fun r w=>as2 r fun q1 q2=>aAgg q1 fun _=>aInt .i64 q2 fun _=>R B8 Ag2 [(0,.pointer c),(5,iI (wrap .i64 (x5+1)))] w)
 (R B8 Af7 [(0,.pointer c),(12,iI 0)] h):=kR
theorem Bi3 :
 xQ V8 C R B8 Tryz.f25 Af7 [(0,.pointer c),(12,iI x12)] h =
 cond (decide (x12<12))
 (bnd (C W0 [.pointer c,iI x12] h) fun r w=>as2 r fun q1 q2=>aAgg q1 fun _=>aInt .i64 q2 fun _=>R B8 Af7 [(0,.pointer c),(12,iI (wrap .i64 (x12+1)))] w)
 (bnd (C Ac6 [.pointer c,iI 3] h) fun q3 w1=>aInt .i64 q3 fun z2=>R B8 Ag3 [(0,.pointer c),(20,iI z2),(21,iI 0)] w1):=kR
theorem Bj9 (x21:Int) :
 xQ V8 C R B8 Tryz.f25 Ag3 [(0,.pointer c),(20,iI x20),(21,iI x21)] h =
 cond (decide (x21<x20))
 (bnd (C Am8 [.pointer c,iI x21] h) fun r w=>as2 r fun q1 q2=>aAgg q1 fun _=>aInt .i64 q2 fun _=>R B8 Ag3 [(0,.pointer c),(20,iI x20),(21,iI (wrap .i64 (x21+1)))] w)
 (bnd (C Am4 [.pointer c] h) fun q3 w1=>as2 q3 fun q4 q5=>aAgg q4 fun _=>aInt .i64 q5 fun _=>bnd (C Ak5 [.pointer c] w1) fun q6 w2=>as2 q6 fun q7 q8=>aInt .i64 q7 fun _=>aBool q8 fun _=>some (.tuple ⟨[]⟩,w2)):=kR
def Br2:Cuts:=⟨2,[],[],[(0,⟨[0,1,2,3,4,5,6,7,8,9,10,11,12,13,14,15,16,17],[0,1,3,7,0,16,48,112,0,256,768,1792,0,4096,12288,28672,65280,131071],[],[]⟩)]⟩
def Dn7:List Item:=A5 Tryz.f29
theorem E66 (phase:Int) :
 xQ Br2 C R Ai6 Tryz.f29 Dn7 [(0,.pointer w),(1,iI phase)] h =
 aSome w fun p=>gPtr (add p 0) h fun x=>aSome w fun p_1=>gInt .i64 (add p_1 1) h fun z1=>aSome w fun p_2=>gInt .i64 (add p_2 3) h fun z2=>aSome w fun p_3=>gInt .i64 (add p_3 6) h fun z3=>bnd (C M7 [.pointer x,iI z1,.agg ⟨[iI 9,iI 0,iI z3,iI z2,iI 0,iI 0,.slice none 0 0]⟩] h) fun r w1=>aAgg r fun _=>aSome w fun p_4=>pV (add p_4 5) (iI phase) w1 fun w2=>some (.tuple ⟨[]⟩,w2):=kR
def B62:Cuts:=⟨2,[],[],[(1,⟨[0,1,2,3,4,5,6,7,12,8,9,10,11,13,14],[0,1,3,7,0,16,48,112,255,511,1023,1023,0,6143,16383],[],[]⟩),(5,⟨[0,1,2,3,4,5,6,7,8,9],[0,1,3,7,0,16,48,112,0,511],[],[]⟩),(7,⟨[0,1,2,3,4,5,6,7,8,9,10,11],[0,1,3,7,0,16,48,112,0,256,768,2047],[],[]⟩)]⟩
def D41:List Item:=A5 Tryz.f33
theorem D23 (o:List Value) :
 xQ B62 C R Ao5 Tryz.f33 D41 [(0,.pointer w),(1,.agg ⟨o⟩)] h =
 nw (.cells Z7 false o) h fun b w1=>nw (.cells Z7 false [iI 0,iI 0,iI 0,iI 0,iI 0,.slice none 0 0,iI 0,iI 0,.slice none 0 0,.bool false,.slice none 0 0,iI 0]) w1 fun p1 w2=>aSome w fun p=>gPtr (add p 4) w2 fun x=>aSome w fun p_1=>gInt .i64 (add p_1 2) w2 fun z1=>nw (.cells B2 false zZ1) w2 fun p2 w3=>bnd (C E2 [.pointer x,iI z1] w3) fun r w4=>as2 r fun q1 q2=>aAgg q1 fun z2=>aInt .i64 q2 fun z3=>ck (List.length z2=16) (pAgg ⟨p2,0,none⟩ z2 w4 fun w5=>bnd (cond (z3 != 1) (some (true,w5)) (gInt .i64 ⟨p2,0,none⟩ w5 fun z4=>some (z4 != 1,w5))) fun c w6=>cond c
 (gAgg ⟨b,0,none⟩ 12 w6 fun z5=>ck (List.length z5=12) (pAgg ⟨p1,0,none⟩ z5 w6 fun w7=>gAgg ⟨p1,0,none⟩ 12 w7 fun z6=>some (.agg ⟨z6⟩,w7)))
 (gAgg ⟨p2,0,none⟩ 16 w6 fun z7=>bnd (C P1 [.agg ⟨z7⟩] w6) fun q3 w8=>as3 q3 fun q4 q5 q6=>aAgg q4 fun z8=>aSl q5 fun z9 xn xc=>aInt .i64 q6 fun z10=>ck (List.length z8=16) (pAgg ⟨p2,0,none⟩ z8 w8 fun w9=>pV ⟨b,10,none⟩ (.slice z9 xn xc) w9 fun w10=>pV ⟨b,11,none⟩ (iI z10) w10 fun w11=>aSome w fun p_2=>gPtr (add p_2 4) w11 fun z11=>aSome w fun p_3=>gInt .i64 (add p_3 2) w11 fun z12=>gAgg ⟨p2,0,none⟩ 16 w11 fun z13=>bnd (C Q2 [.pointer z11,iI z12,.agg ⟨z13⟩] w11) fun q7 w12=>aBool q7 fun _=>gInt .i64 ⟨b,11,none⟩ w12 fun z15=>cond (decide (z15>0))
 (aSome w fun p_4=>gPtr (add p_4 4) w12 fun z16=>aSome w fun p_5=>gInt .i64 (add p_5 2) w12 fun z17=>gInt .i64 ⟨b,11,none⟩ w12 fun z18=>bnd (C Ga4 [.pointer z16,iI z17,iI (wrap .i64 (128+z18))] w12) fun q8 w13=>aAgg q8 fun _=>gAgg ⟨b,0,none⟩ 12 w13 fun z20=>ck (List.length z20=12) (pAgg ⟨p1,0,none⟩ z20 w13 fun w14=>gAgg ⟨p1,0,none⟩ 12 w14 fun z21=>some (.agg ⟨z21⟩,w14)))
 (gAgg ⟨b,0,none⟩ 12 w12 fun z22=>ck (List.length z22=12) (pAgg ⟨p1,0,none⟩ z22 w12 fun w15=>gAgg ⟨p1,0,none⟩ 12 w15 fun z23=>some (.agg ⟨z23⟩,w15)))))):=kR
def De0:Cuts:=⟨2,[],[],[]⟩
def Ee4:List Item:=A5 Tryz.f36
theorem Gw3 :
 xQ De0 C R A98 Tryz.f36 Ee4 [(0,iI i)] h =
 nw (.cells E0 false [iI 0,iI 0]) h fun b w=>pAgg ⟨b,0,none⟩ [iI 1,iI i] w fun w1=>gAgg ⟨b,0,none⟩ 2 w1 fun x=>some (.agg ⟨x⟩,w1):=kR
def Dx5:Cuts:=⟨2,[],[],[]⟩
def Ey8:List Item:=A5 Tryz.f41
theorem Hc0 :
 xQ Dx5 C R B84 Tryz.f41 Ey8 [] h =
 nw (.cells B36 false [.slice none 0 0,.slice none 0 0,iI 0]) h fun b w=>nw (.cells Gp4 false [.bool false,.bool false]) w fun p1 w1=>nw (.cells B35 false [iI 0,iI 1,iI 1,iI 0]) w1 fun p2 w2=>pAgg ⟨b,0,none⟩ [.slice (some ⟨p1,0,none⟩) 2 2,.slice (some ⟨p2,0,none⟩) 2 2,iI 5] w2 fun w3=>gAgg ⟨b,0,none⟩ 3 w3 fun x=>some (.agg ⟨x⟩,w3):=kR
def A70:Cuts:=⟨2,[(4,[1,3,4])],[],[]⟩
def Bs0:List Item:=A5 Tryz.f42
def Au4:List Item:=stk [0,1,0,1,0,1,0,0,1,4,5] Bs0
theorem E81 (p:List Value) :
 xQ A70 C R S4 Tryz.f42 Bs0 [(0,.agg ⟨p⟩)] h =
 nw (.cells O3 false p) h fun b w=>gInt .i64 ⟨b,0,none⟩ w fun x=>gInt .i64 ⟨b,1,none⟩ w fun z1=>gInt .i64 ⟨b,2,none⟩ w fun z2=>gInt .i64 ⟨b,3,none⟩ w fun z3=>nw (.cells A4 false [.int .u8 1,.int .u8 (wrap .u8 (x)),.int .u8 (wrap .u8 (z1)),.int .u8 (wrap .u8 (z2)),.int .u8 (wrap .u8 (z3)),.int .u8 197]) w fun p1 w1=>gCells (some ⟨p1,0,none⟩) 6 w1 fun cs=>asBytes cs fun l=>bnd (C Ah2 [.string (ByteArray.mk ⟨l⟩)] w1) fun r w2=>aInt .u8 r fun z4=>nw (.cells A4 false [.int .u8 z4,.int .u8 0]) w2 fun p2 w3=>gCells (some ⟨p2,0,none⟩) 2 w3 fun cs_1=>asBytes cs_1 fun l_1=>ck (ByteArray.size (ByteArray.mk ⟨l⟩)+ByteArray.size (ByteArray.mk ⟨l_1⟩)≤A8) (R S4 Au4 [(1,pP b),(3,.string ((ByteArray.mk ⟨l⟩)++(ByteArray.mk ⟨l_1⟩))),(4,iI 0)] w3):=kR
theorem B47 (s:ByteArray) :
 xQ A70 C R S4 Tryz.f42 Au4 [(1,.pointer (some p)),(3,.string s),(4,iI i)] h =
 cond (decide (i<32))
 (ck ((0:Int)≤i∧i<((32:Nat):Int)) (gInt .u8 (add (add p 4) (Int.toNat i*1)) h fun x=>nw (.cells A4 false [.int .u8 x]) h fun b w=>gCells (some ⟨b,0,none⟩) 1 w fun cs=>asBytes cs fun l=>ck (ByteArray.size s+ByteArray.size (ByteArray.mk ⟨l⟩)≤A8) (R S4 Au4 [(1,.pointer (some p)),(3,.string (s++(ByteArray.mk ⟨l⟩))),(4,iI (wrap .i64 (i+1)))] w)))
 (some (.string s,h)):=kR
def Bz1:Cuts:=⟨2,[],[],[]⟩
def Dw1:List Item:=A5 Tryz.f48
theorem Du2 :
 xQ Bz1 C R Z8 Tryz.f48 Dw1 [(0,.pointer k),(1,iI n)] h =
 bnd (cond (decide (n<0)) (some (true,h)) (aSome k fun p=>gSl (add p 6) h fun _ xn _=>some (decide (n≥(xn:Int)),h))) fun c w=>cond c
 (some (.pointer none,w))
 (aSome k fun p_1=>gSl (add p_1 6) w fun z1 xn_1 _=>aSome z1 fun p_2=>ck ((0:Int)≤n∧n<(xn_1:Int)) (gPtr (add (B1 p_2) (Int.toNat n*1)) w fun z2=>some (.pointer z2,w))):=kR
def A43:Cuts:=⟨2,[],[],[]⟩
def Bt3:List Item:=A5 Tryz.f51
theorem D65 (kind:Int) :
 xQ A43 C R Ac6 Tryz.f51 Bt3 [(0,.pointer c),(1,iI kind)] h =
 cond (kind==1)
 (some (iI 8,h))
 (cond (kind==2)
 (some (iI 12,h))
 (cond (kind==3)
 (aSome c fun p=>gSl (add p 2) h fun _ xn _=>some (iI (wrap .i64 ((wrap .i64 (4+(xn:Int)))-1)),h))
 (some (iI 1,h)))):=kR
def Bz7:Cuts:=⟨2,[],[],[(1,⟨[0,1,2,3,4,5,6,7,8,9,10,11,12,13,14,15],[0,1,3,7,0,16,48,112,0,256,0,1024,0,4096,16383,32767],[],[]⟩)]⟩
def Dy9:List Item:=A5 Tryz.f55
theorem Gd1 :
 xQ Bz7 C R Bc9 Tryz.f55 Dy9 [(0,.pointer w),(1,.agg ⟨r⟩)] h =
 nw (.cells An3 false r) h fun b w1=>nw (.cells Z7 false [iI 0,iI 0,iI 0,iI 0,iI 0,.slice none 0 0,iI 0,iI 0,.slice none 0 0,.bool false,.slice none 0 0,iI 0]) w1 fun p1 w2=>aSome w fun p=>gInt .i64 (add p 2) w2 fun x=>aSome w fun p_1=>gAgg (add p_1 7) 4 w2 fun z1=>gInt .i64 ⟨b,0,none⟩ w2 fun z2=>gInt .i64 ⟨b,1,none⟩ w2 fun z3=>gSl ⟨b,2,none⟩ w2 fun z4 xn xc=>ck (List.length z1=4) (ck (List.length (iI 0::(iI x::(z1++(iI z2::(iI z3::(.slice z4 xn xc::(.bool true::(.slice none 0 0::[iI 0]))))))))=12) (pAgg ⟨p1,0,none⟩ (iI 0::(iI x::(z1++(iI z2::(iI z3::(.slice z4 xn xc::(.bool true::(.slice none 0 0::[iI 0])))))))) w2 fun w3=>gAgg ⟨p1,0,none⟩ 12 w3 fun z5=>some (.agg ⟨z5⟩,w3))):=kR
def Bd8:Cuts:=⟨2,[],[],[]⟩
def B45:List Item:=A5 Tryz.f80
theorem En0 (r:Option Addr) (b:ByteArray) :
 xQ Bd8 C R As5 Tryz.f80 B45 [(0,.pointer r),(1,iI e),(2,iI name),(3,iI atv),(4,.string b)] h =
 bnd (C Ar7 [.pointer r,iI e,iI name,iI 2,iI atv,iI ((ByteArray.size b:Nat):Int)] h) fun q1 w=>as2 q1 fun q2 q3=>aInt .i64 q2 fun x=>aInt .i64 q3 fun z1=>cond (z1 != 0)
 (some (iI z1,w))
 (aSome r fun p=>gSl (add p 0) w fun z2 xn xc=>ckB (fitsOpen z2 A4 w) (ck ((0:Int)≤x∧x≤(xn:Int)) (pCells (L5 z2 (decide (Int.toNat x<xc)) ((Int.toNat x)*1)) (A0 (List.take (min (ByteArray.size b) (xn-(Int.toNat x))) (ByteArray.data b).toList)) w fun w1=>some (iI 0,w1)))):=kR
def Bm8:Cuts:=⟨2,[],[],[]⟩
def Di3:List Item:=A5 Tryz.f89
theorem Ez0 :
 xQ Bm8 C R A33 Tryz.f89 Di3 [(0,iI g)] h =
 nw (.cells A4 false [.int .u8 (wrap .u8 (g)),.int .u8 211]) h fun b w=>gCells (some ⟨b,0,none⟩) 2 w fun cs=>asBytes cs fun l=>bnd (C Ah2 [.string (ByteArray.mk ⟨l⟩)] w) fun r w1=>aInt .u8 r fun x=>nw (.cells A4 false [.int .u8 x,.int .u8 0]) w1 fun p1 w2=>gCells (some ⟨p1,0,none⟩) 2 w2 fun cs_1=>asBytes cs_1 fun l_1=>ck (ByteArray.size (ByteArray.mk ⟨l⟩)+ByteArray.size (ByteArray.mk ⟨l_1⟩)≤A8) (some (.string ((ByteArray.mk ⟨l⟩)++(ByteArray.mk ⟨l_1⟩)),w2)):=kR
def Dl3:Cuts:=⟨2,[],[],[]⟩
def Eq3:List Item:=A5 Tryz.f103
theorem G38 (s:List Value) :
 xQ Dl3 C R Bw7 Tryz.f103 Eq3 [(0,.pointer c),(1,iI i),(2,.agg ⟨s⟩)] h =
 nw (.cells Di8 false s) h fun b w=>nw (.cells An3 false [iI 0,iI 0,.slice none 0 0,.bool false]) w fun p1 w1=>gInt .i64 ⟨b,0,none⟩ w1 fun x=>cond (x==9)
 (bnd (C H41 [.pointer c,iI i] w1) fun r w2=>aAgg r fun z1=>ck (List.length z1=4) (pAgg ⟨p1,0,none⟩ z1 w2 fun w3=>gAgg ⟨p1,0,none⟩ 4 w3 fun z2=>some (.tuple ⟨[.agg ⟨z2⟩,.bool true]⟩,w3)))
 (cond (x==10)
 (gInt .i64 ⟨b,1,none⟩ w1 fun z3=>gInt .i64 ⟨b,2,none⟩ w1 fun z4=>bnd (C Hc6 [.pointer c,iI i,iI z3,iI z4] w1) fun q1 w4=>aAgg q1 fun z5=>ck (List.length z5=4) (pAgg ⟨p1,0,none⟩ z5 w4 fun w5=>gAgg ⟨p1,0,none⟩ 4 w5 fun z6=>some (.tuple ⟨[.agg ⟨z6⟩,.bool true]⟩,w5)))
 (cond (x==11)
 (gInt .i64 ⟨b,1,none⟩ w1 fun z7=>gSl ⟨b,3,none⟩ w1 fun z8 xn xc=>bnd (C G52 [.pointer c,iI i,iI z7,.slice z8 xn xc] w1) fun q2 w6=>aAgg q2 fun z9=>ck (List.length z9=4) (pAgg ⟨p1,0,none⟩ z9 w6 fun w7=>gAgg ⟨p1,0,none⟩ 4 w7 fun z10=>some (.tuple ⟨[.agg ⟨z10⟩,.bool true]⟩,w7)))
 (cond (x==12)
 (gInt .i64 ⟨b,1,none⟩ w1 fun z11=>bnd (C Hp2 [.pointer c,iI i,iI z11] w1) fun q3 w8=>aAgg q3 fun z12=>ck (List.length z12=4) (pAgg ⟨p1,0,none⟩ z12 w8 fun w9=>gAgg ⟨p1,0,none⟩ 4 w9 fun z13=>some (.tuple ⟨[.agg ⟨z13⟩,.bool true]⟩,w9)))
 (cond (x==13)
 (gInt .i64 ⟨b,1,none⟩ w1 fun z14=>bnd (C Ig7 [.pointer c,iI i,iI z14] w1) fun q4 w10=>aAgg q4 fun z15=>ck (List.length z15=4) (pAgg ⟨p1,0,none⟩ z15 w10 fun w11=>gAgg ⟨p1,0,none⟩ 4 w11 fun z16=>some (.tuple ⟨[.agg ⟨z16⟩,.bool true]⟩,w11)))
 (cond (x==14)
 (gInt .i64 ⟨b,1,none⟩ w1 fun z17=>gInt .i64 ⟨b,2,none⟩ w1 fun z18=>bnd (C H52 [.pointer c,iI i,iI z17,iI z18] w1) fun q5 w12=>aAgg q5 fun z19=>ck (List.length z19=4) (pAgg ⟨p1,0,none⟩ z19 w12 fun w13=>gAgg ⟨p1,0,none⟩ 4 w13 fun z20=>some (.tuple ⟨[.agg ⟨z20⟩,.bool true]⟩,w13)))
 (cond (x==15)
 (gInt .i64 ⟨b,1,none⟩ w1 fun z21=>gInt .i64 ⟨b,2,none⟩ w1 fun z22=>bnd (C Id1 [.pointer c,iI i,iI z21,iI z22] w1) fun q6 w14=>aAgg q6 fun z23=>ck (List.length z23=4) (pAgg ⟨p1,0,none⟩ z23 w14 fun w15=>gAgg ⟨p1,0,none⟩ 4 w15 fun z24=>some (.tuple ⟨[.agg ⟨z24⟩,.bool true]⟩,w15)))
 (cond (x==16)
 (gInt .i64 ⟨b,1,none⟩ w1 fun z25=>bnd (C G62 [.pointer c,iI i,iI z25] w1) fun q7 w16=>aAgg q7 fun z26=>ck (List.length z26=4) (pAgg ⟨p1,0,none⟩ z26 w16 fun w17=>gAgg ⟨p1,0,none⟩ 4 w17 fun z27=>some (.tuple ⟨[.agg ⟨z27⟩,.bool true]⟩,w17)))
 (pAgg ⟨p1,0,none⟩ [iI 0,iI 0,.slice none 0 0,.bool false] w1 fun w18=>gAgg ⟨p1,0,none⟩ 4 w18 fun z28=>some (.tuple ⟨[.agg ⟨z28⟩,.bool false]⟩,w18))))))))):=kR
def Db6:Cuts:=⟨2,[],[],[(1,⟨[1,0,2,3,4,5,6],[0,0,3,7,7,31,63],[(0,[1])],[]⟩)]⟩
def Ec6:List Item:=A5 Tryz.f116
theorem Gs0 (p:List Value) :
 xQ Db6 C R Ba4 Tryz.f116 Ec6 [(0,.agg ⟨p⟩)] h =
 nw (.cells B2 false p) h fun b w=>gAgg ⟨b,0,none⟩ 16 w fun x=>bnd (C Bf5 [] w) fun r w1=>aPtr r fun z1=>gAgg ⟨b,0,none⟩ 16 w1 fun z2=>same (.agg ⟨x⟩) (.agg ⟨z2⟩) (bnd (C Z2 [.pointer z1,.agg ⟨x⟩] w1) fun q1 w2=>as2 q1 fun q2 q3=>aSl q2 fun z3 xn xc=>aBool q3 fun z4=>some (.tuple ⟨[.slice z3 xn xc,.bool z4]⟩,w2)):=kR
def D82:Cuts:=⟨2,[],[],[]⟩
def Gb7:List Item:=A5 Tryz.f122
theorem Hp7 (ok:Bool) :
 xQ D82 C R Dg2 Tryz.f122 Gb7 [(0,.bool ok),(1,iI n)] h =
 nw (.cells An3 false [iI 0,iI 0,.slice none 0 0,.bool false]) h fun b w=>cond (!ok)
 (bnd (C Ac9 [iI 105] w) fun r w1=>aAgg r fun x=>ck (List.length x=4) (pAgg ⟨b,0,none⟩ x w1 fun w2=>gAgg ⟨b,0,none⟩ 4 w2 fun z1=>some (.agg ⟨z1⟩,w2)))
 (pAgg ⟨b,0,none⟩ [iI n,iI 0,.slice none 0 0,.bool false] w fun w3=>gAgg ⟨b,0,none⟩ 4 w3 fun z2=>some (.agg ⟨z2⟩,w3)):=kR
def B66:Cuts:=⟨2,[],[],[]⟩
def D44:List Item:=A5 Tryz.f124
theorem Go1 :
 xQ B66 C R Ai0 Tryz.f124 D44 [(0,.pointer s),(1,iI env)] h =
 bnd (cond (decide (env≥0)) (aSome s fun p=>gSl (add p 0) h fun _ xn _=>some (decide (env<(xn:Int)),h)) (some (false,h))) fun c w=>some (.bool c,w):=kR
def Bk7:Cuts:=⟨2,[(7,[1,3,52,53,54]),(13,[1,3,63,64,65])],[],[]⟩
def B72:List Item:=A5 Tryz.f132
def Bj2:List Item:=stk [0,1,0,1,0,1,0,1,0,0,1,4,5] B72
def Bj5:List Item:=stk [0,1,0,1,0,1,0,1,0,1,0,0,1,4,5] B72
theorem Hc2 (c:List Value) :
 xQ Bk7 C R V5 Tryz.f132 B72 [(0,.agg ⟨c⟩)] h =
 nw (.cells D9 false c) h fun b w=>gSl ⟨b,0,none⟩ w fun _ xn _=>bnd (cond (decide ((xn:Int)<1)) (some (true,w)) (gSl ⟨b,0,none⟩ w fun _ xn_1 _=>some (decide ((xn_1:Int)>4),w))) fun c_1 w1=>bnd (cond c_1 (some (true,w1)) (gSl ⟨b,1,none⟩ w1 fun _ xn_2 _=>some (decide ((xn_2:Int)>40),w1))) fun c_2 w2=>bnd (cond c_2 (some (true,w2)) (gSl ⟨b,2,none⟩ w2 fun _ xn_3 _=>some (decide ((xn_3:Int)>8),w2))) fun c_3 w3=>bnd (cond c_3 (some (true,w3)) (gSl ⟨b,4,none⟩ w3 fun _ xn_4 _=>some (decide ((xn_4:Int)>16),w3))) fun c_4 w4=>bnd (cond c_4 (some (true,w4)) (gInt .i64 ⟨b,3,none⟩ w4 fun z5=>some (decide (z5<1),w4))) fun c_5 w5=>bnd (cond c_5 (some (true,w5)) (gInt .i64 ⟨b,3,none⟩ w5 fun z6=>some (decide (z6>1000),w5))) fun c_6 w6=>cond c_6
 (some (.bool false,w6))
 (gSl ⟨b,1,none⟩ w6 fun z7 xn_5 xc_5=>bnd (C E5 [.slice z7 xn_5 xc_5,.func (.func I7) ⟨[]⟩ ⟨[pP b]⟩] w6) fun r w7=>aBool r fun z8=>cond z8
 (some (.bool false,w7))
 (gSl ⟨b,2,none⟩ w7 fun z9 xn_6 xc_6=>R V5 Bj2 [(1,pP b),(3,.func (.func I7) ⟨[]⟩ ⟨[pP b]⟩),(52,.slice z9 xn_6 xc_6),(53,iI (xn_6:Int)),(54,iI 0)] w7)):=kR
theorem D09 (c:Addr) (x52:Option Addr) (x52n x52c:Nat) (x53:Int) (x54:Int) :
 xQ Bk7 C R V5 Tryz.f132 Bj2 [(1,.pointer (some c)),(3,.func (.func I7) ⟨[]⟩ ⟨[.pointer (some nonev)]⟩),(52,.slice x52 x52n x52c),(53,iI x53),(54,iI x54)] h =
 cond (decide (x54<x53))
 (aSome x52 fun p=>ck ((0:Int)≤x54∧x54<(x52n:Int)) (gSl (add (B1 p) (Int.toNat x54*1)) h fun x xn xc=>bnd (C E5 [.slice x xn xc,.func (.func I7) ⟨[]⟩ ⟨[.pointer (some nonev)]⟩] h) fun r w=>aBool r fun z1=>cond z1
 (some (.bool false,w))
 (R V5 Bj2 [(1,.pointer (some c)),(3,.func (.func I7) ⟨[]⟩ ⟨[.pointer (some nonev)]⟩),(52,.slice x52 x52n x52c),(53,iI x53),(54,iI (wrap .i64 (x54+1)))] w)))
 (gSl (add c 4) h fun z2 xn_1 xc_1=>R V5 Bj5 [(1,.pointer (some c)),(3,.func (.func I7) ⟨[]⟩ ⟨[.pointer (some nonev)]⟩),(63,.slice z2 xn_1 xc_1),(64,iI (xn_1:Int)),(65,iI 0)] h):=kR
theorem D19 (c:Addr) (x63:Option Addr) (x63n x63c:Nat) (x64:Int) (x65:Int) :
 xQ Bk7 C R V5 Tryz.f132 Bj5 [(1,.pointer (some c)),(3,.func (.func I7) ⟨[]⟩ ⟨[.pointer (some nonev)]⟩),(63,.slice x63 x63n x63c),(64,iI x64),(65,iI x65)] h =
 cond (decide (x65<x64))
 (aSome x63 fun p=>ck ((0:Int)≤x65∧x65<(x63n:Int)) (gAgg (add (B1 p) (Int.toNat x65*5)) 5 h fun x=>nw (.cells L7 false [iI 0,iI 0,iI 0,iI 0,.slice none 0 0]) h fun b w=>ck (List.length x=5) (pAgg ⟨b,0,none⟩ x w fun w1=>gAgg c 5 w1 fun z1=>gAgg ⟨b,0,none⟩ 5 w1 fun z2=>bnd (C B22 [.agg ⟨z1⟩,.agg ⟨z2⟩] w1) fun r w2=>aBool r fun z3=>bnd (cond (!z3) (some (true,w2)) (gSl ⟨b,4,none⟩ w2 fun z4 xn xc=>bnd (C E5 [.slice z4 xn xc,.func (.func I7) ⟨[]⟩ ⟨[.pointer (some nonev)]⟩] w2) fun q1 w3=>aBool q1 fun z5=>some (z5,w3))) fun c_1 w4=>cond c_1
 (some (.bool false,w4))
 (R V5 Bj5 [(1,.pointer (some c)),(3,.func (.func I7) ⟨[]⟩ ⟨[.pointer (some nonev)]⟩),(63,.slice x63 x63n x63c),(64,iI x64),(65,iI (wrap .i64 (x65+1)))] w4))))
 (some (.bool true,h)):=kR
def Dp5:Cuts:=⟨2,[(3,[3,8,9])],[],[(4,⟨[0,1,2,3,4,5,6,7,8,9,10],[0,0,2,6,14,0,32,126,255,511,1023],[(5,[4])],[]⟩)]⟩
def El1:List Item:=A5 Tryz.f135
def Bw8:List Item:=stk [0,1,0,1,0,0,1,4,5] El1
theorem H13 :
 xQ Dp5 C R A24 Tryz.f135 El1 [(0,iI envs)] h =
 nw (.cells Aw5 false [.slice none 0 0]) h fun b w=>R A24 Bw8 [(3,pP b),(8,iI (mm2 false (mm2 true envs 0) 40)),(9,iI 0)] w:=kR
theorem Ep6 (s:Addr) (x8:Int) :
 xQ Dp5 C R A24 Tryz.f135 Bw8 [(3,.pointer (some s)),(8,iI x8),(9,iI x9)] h =
 cond (decide (x9<x8))
 (gSl (add s 0) h fun x xn xc=>bnd (C Q7 [iI 32] h) fun r w=>aPtr r fun z1=>gSl (add s 0) w fun z2 xn_1 xc_1=>same (.slice x xn xc) (.slice z2 xn_1 xc_1) (nw (.cells I6 false [.pointer z1]) w fun b w1=>gCells (some ⟨b,0,none⟩) (1*1) w1 fun cs=>ckB (fitsOpen x I6 w1) (apd I6 1 x xn xc 1 cs w1 fun a an ac w2=>pV (add s 0) (.slice a an ac) w2 fun w3=>R A24 Bw8 [(3,.pointer (some s)),(8,iI x8),(9,iI (wrap .i64 (x9+1)))] w3)))
 (some (.pointer (some s),h)):=kR
def Bk1:Cuts:=⟨2,[(3,[0,3,4])],[],[(5,⟨[0,1,2,3,4,5,6,7,8,9,10],[0,0,2,6,14,0,32,126,255,511,1023],[(5,[4])],[]⟩),(6,⟨[0,1,2,3,4,5,6,7,8,9,10],[0,0,2,6,14,0,32,126,255,511,1023],[],[]⟩)]⟩
def B38:List Item:=A5 Tryz.f145
def A37:List Item:=stk [0,1,0,1,0,0,1,4,5] B38
theorem Gl5 :
 xQ Bk1 C R Ab9 Tryz.f145 B38 [(0,iI envs)] h =
 nw (.cells Ev7 false [.slice none 0 0,.slice none 0 0]) h fun b w=>R Ab9 A37 [(0,iI envs),(3,pP b),(4,iI 0)] w:=kR
theorem Dk1 (s:Addr) :
 xQ Bk1 C R Ab9 Tryz.f145 A37 [(0,iI envs),(3,.pointer (some s)),(4,iI i)] h =
 bnd (cond (decide (i<envs)) (some (decide (i<40),h)) (some (false,h))) fun c w=>cond c
 (gSl (add s 0) w fun x xn xc=>bnd (C Ab5 [iI 32] w) fun r w1=>aPtr r fun z1=>gSl (add s 0) w1 fun z2 xn_1 xc_1=>same (.slice x xn xc) (.slice z2 xn_1 xc_1) (nw (.cells Ba2 false [.pointer z1]) w1 fun b w2=>gCells (some ⟨b,0,none⟩) (1*1) w2 fun cs=>ckB (fitsOpen x Ba2 w2) (apd Ba2 1 x xn xc 1 cs w2 fun a an ac w3=>pV (add s 0) (.slice a an ac) w3 fun w4=>gSl (add s 1) w4 fun z3 xn_2 xc_2=>ck ((0:Int)≤32∧(32:Int)≤32∧32≤(A8:Int)) (nw (.cells Q8 false (L8 (Int.toNat 32) [iI 0,iI 0,iI 0,iI 0,iI 0,iI 0])) w4 fun p1 w5=>nw (.cells Bv1 false [.slice (some ⟨p1,0,none⟩) (Int.toNat 32) (Int.toNat 32)]) w5 fun p2 w6=>gCells (some ⟨p2,0,none⟩) (1*1) w6 fun cs_1=>ckB (fitsOpen z3 Bv1 w6) (apd Bv1 1 z3 xn_2 xc_2 1 cs_1 w6 fun a_1 an_1 ac_1 w7=>pV (add s 1) (.slice a_1 an_1 ac_1) w7 fun w8=>R Ab9 A37 [(0,iI envs),(3,.pointer (some s)),(4,iI (wrap .i64 (i+1)))] w8)))))
 (some (.pointer (some s),w)):=kR
def D47:Cuts:=⟨2,[(2,[0,1,5])],[],[]⟩
def Ex5:List Item:=A5 Tryz.f148
def B33:List Item:=stk [0,1,0,0,1,4,5] Ex5
theorem H77 (s:Int) :
 xQ D47 C R Ba8 Tryz.f148 Ex5 [(0,.slice l ln lc),(1,iI s)] h =
 R Ba8 B33 [(0,.slice l ln lc),(1,iI s),(5,iI 0)] h:=kR
theorem Ey5 (s:Int) :
 xQ D47 C R Ba8 Tryz.f148 B33 [(0,.slice l ln lc),(1,iI s),(5,iI i)] h =
 cond (decide (i<(ln:Int)))
 (aSome l fun p=>ck ((0:Int)≤i∧i<(ln:Int)) (gInt .i64 (add (B1 p) (Int.toNat i*1)) h fun x=>cond (x==s)
 (some (.bool true,h))
 (R Ba8 B33 [(0,.slice l ln lc),(1,iI s),(5,iI (wrap .i64 (i+1)))] h)))
 (some (.bool false,h)):=kR
def Bi0:Cuts:=⟨2,[],[],[]⟩
def Da4:List Item:=A5 Tryz.f155
theorem Eq9 (s:Int) :
 xQ Bi0 C R Ay7 Tryz.f155 Da4 [(0,.pointer q),(1,iI s)] h =
 bnd (C Al4 [.pointer q,iI s] h) fun r w=>aBool r fun x=>cond (!x)
 (some (.tuple ⟨[iI 0,iI 1]⟩,w))
 (aSome q fun p=>gSl (add p 0) w fun z1 xn _=>aSome z1 fun p_1=>ck ((0:Int)≤s∧s<(xn:Int)) (gSl (add (B1 p_1) (Int.toNat s*1)) w fun z2 xn_1 xc_1=>bnd (C I9 [.slice z2 xn_1 xc_1,iI 0] w) fun q1 w1=>aInt .i64 q1 fun z3=>cond (decide (z3<0))
 (some (.tuple ⟨[iI 0,iI 4]⟩,w1))
 (aSome q fun p_2=>gSl (add p_2 0) w1 fun z4 xn_2 _=>aSome z4 fun p_3=>ck ((0:Int)≤s∧s<(xn_2:Int)) (gSl (add (B1 p_3) (Int.toNat s*1)) w1 fun z5 xn_3 _=>aSome z5 fun p_4=>ck ((0:Int)≤z3∧z3<(xn_3:Int)) (pV (add (B1 p_4) (Int.toNat z3*1)) (iI 1) w1 fun w2=>some (.tuple ⟨[iI z3,iI 0]⟩,w2)))))):=kR
def Br4:Cuts:=⟨2,[],[],[]⟩
def Dn5:List Item:=A5 Tryz.f158
theorem E63 (c:List Value) :
 xQ Br4 C R A64 Tryz.f158 Dn5 [(0,.pointer k),(1,iI env),(2,.agg ⟨c⟩)] h =
 nw (.cells A29 false c) h fun b w=>gInt .i64 ⟨b,3,none⟩ w fun x=>bnd (C Aw8 [.pointer k,iI env,iI x] w) fun r w1=>as2 r fun q1 q2=>aPtr q1 fun z1=>aInt .i64 q2 fun z2=>bnd (cond (z2==0) (gInt .i64 ⟨b,2,none⟩ w1 fun z3=>bnd (C A65 [.pointer z1,iI env,iI z3] w1) fun q3 w2=>aBool q3 fun z4=>some (!z4,w2)) (some (false,w1))) fun c_1 w3=>cond c_1
 (some (iI 8,w3))
 (some (iI z2,w3)):=kR
def By8:Cuts:=⟨2,[],[],[]⟩
def Dw3:List Item:=A5 Tryz.f161
theorem Gh9 :
 xQ By8 C R Am3 Tryz.f161 Dw3 [(0,.pointer s),(1,iI e)] h =
 bnd (cond (decide (e≥0)) (aSome s fun p=>gSl (add p 0) h fun _ xn _=>some (decide (e<(xn:Int)),h)) (some (false,h))) fun c w=>some (.bool c,w):=kR
def Dl1:Cuts:=⟨2,[],[],[]⟩
def Ep3:List Item:=A5 Tryz.f171
theorem G35 :
 xQ Dl1 C R Bf7 Tryz.f171 Ep3 [] h =
 bnd (C As3 [iI 8,.func (.func Av5) ⟨[]⟩ ⟨[]⟩,.func (.func Au6) ⟨[]⟩ ⟨[]⟩] h) fun r w=>aPtr r fun x=>some (.pointer x,w):=kR
def Bb3:Cuts:=⟨2,[],[],[]⟩
def B73:List Item:=A5 Tryz.f175
theorem Ej3 :
 xQ Bb3 C R At6 Tryz.f175 B73 [(0,iI g)] h =
 bnd (cond (decide (g<0)) (some (true,h)) (some (decide (g≥8),h))) fun c w=>cond c
 (some (.tuple ⟨[.slice none 0 0,.bool false]⟩,w))
 (nw (.cells A4 false [.int .u8 (wrap .u8 (g)),.int .u8 211]) w fun b w1=>bnd (C Ad0 [.slice (some ⟨b,0,none⟩) 2 2] w1) fun r w2=>aInt .u8 r fun x=>nw (.cells A4 false [.int .u8 x,.int .u8 0]) w2 fun p1 w3=>gCells (some ⟨p1,0,none⟩) (2*1) w3 fun cs=>ckB (fitsOpen (some ⟨b,0,none⟩) A4 w3) (apd A4 1 (some ⟨b,0,none⟩) 2 2 2 cs w3 fun a an ac w4=>some (.tuple ⟨[.slice a an ac,.bool true]⟩,w4))):=kR
def A87:Cuts:=⟨2,[(3,[0,3,5,17,18]),(9,[0,5,31,32]),(19,[0,57,58])],[],[(15,⟨[0,1,2,3,4,5,6,7,8],[0,1,0,4,12,28,63,127,255],[],[]⟩)]⟩
def Bn1:List Item:=A5 Tryz.f185
def A11:List Item:=stk [0,1,0,1,0,0,1,4,5] Bn1
def Ap3:List Item:=stk [0,1,0,1,0,1,0,0,1,4,5] Bn1
def Ap4:List Item:=stk [0,1,0,1,0,1,0,1,0,0,1,4,5] Bn1
theorem Hh0 (p:List Value) :
 xQ A87 C R I2 Tryz.f185 Bn1 [(0,.pointer c),(1,.agg ⟨p⟩)] h =
 nw (.cells B2 false p) h fun b w=>nw (.cells Eg2 false zZ3) w fun p1 w1=>gAgg ⟨b,8,none⟩ 8 w1 fun x=>R I2 A11 [(0,.pointer c),(3,pP b),(5,pP p1),(17,.agg ⟨x⟩),(18,iI 0)] w1:=kR
theorem D37 (x17:List Value) (x18:Int) :
 xQ A87 C R I2 Tryz.f185 A11 [(0,.pointer c),(3,.pointer (some p)),(5,.pointer (some more)),(17,.agg ⟨x17⟩),(18,iI x18)] h =
 cond (decide (x18<8))
 (ck ((0:Int)≤x18∧x18<((8:Nat):Int)) (nth x17 (Int.toNat x18*1) fun x=>aInt .i64 x fun z1=>cond (decide (z1>0))
 (ck ((0:Int)≤wrap .i64 (z1-1)∧wrap .i64 (z1-1)<((12:Nat):Int)) (gInt .i64 (add more (Int.toNat (wrap .i64 (z1-1))*1)) h fun z2=>ck ((0:Int)≤wrap .i64 (z1-1)∧wrap .i64 (z1-1)<((12:Nat):Int)) (pV (add more (Int.toNat (wrap .i64 (z1-1))*1)) (iI (wrap .i64 (z2+1))) h fun w=>R I2 A11 [(0,.pointer c),(3,.pointer (some p)),(5,.pointer (some more)),(17,.agg ⟨x17⟩),(18,iI (wrap .i64 (x18+1)))] w)))
 (R I2 A11 [(0,.pointer c),(3,.pointer (some p)),(5,.pointer (some more)),(17,.agg ⟨x17⟩),(18,iI (wrap .i64 (x18+1)))] h)))
 (gAgg (add p 8) 8 h fun z3=>R I2 Ap3 [(0,.pointer c),(5,.pointer (some more)),(31,.agg ⟨z3⟩),(32,iI 0)] h):=kR
theorem D34 (x31:List Value) (x32:Int) :
 xQ A87 C R I2 Tryz.f185 Ap3 [(0,.pointer c),(5,.pointer (some more)),(31,.agg ⟨x31⟩),(32,iI x32)] h =
 cond (decide (x32<8))
 (ck ((0:Int)≤x32∧x32<((8:Nat):Int)) (nth x31 (Int.toNat x32*1) fun x=>aInt .i64 x fun z1=>cond (z1==0)
 (R I2 Ap3 [(0,.pointer c),(5,.pointer (some more)),(31,.agg ⟨x31⟩),(32,iI (wrap .i64 (x32+1)))] h)
 (bnd (C W0 [.pointer c,iI (wrap .i64 (z1-1))] h) fun r w=>as2 r fun q1 q2=>aAgg q1 fun z2=>aInt .i64 q2 fun z3=>nw (.cells N1 false [iI 0,iI 0,iI 0,iI 0]) w fun b w1=>ck (List.length z2=4) (pAgg ⟨b,0,none⟩ z2 w1 fun w2=>cond (z3 != 1)
 (some (iI 105,w2))
 (gInt .i64 ⟨b,2,none⟩ w2 fun z4=>ck ((0:Int)≤wrap .i64 (z1-1)∧wrap .i64 (z1-1)<((12:Nat):Int)) (gInt .i64 (add more (Int.toNat (wrap .i64 (z1-1))*1)) w2 fun z5=>cond (decide ((wrap .i64 (z4+z5))>64))
 (some (iI 123,w2))
 (R I2 Ap3 [(0,.pointer c),(5,.pointer (some more)),(31,.agg ⟨x31⟩),(32,iI (wrap .i64 (x32+1)))] w2)))))))
 (gAgg more 12 h fun z6=>R I2 Ap4 [(0,.pointer c),(57,.agg ⟨z6⟩),(58,iI 0)] h):=kR
theorem D20 (x57:List Value) (x58:Int) :
 xQ A87 C R I2 Tryz.f185 Ap4 [(0,.pointer c),(57,.agg ⟨x57⟩),(58,iI x58)] h =
 cond (decide (x58<12))
 (ck ((0:Int)≤x58∧x58<((12:Nat):Int)) (nth x57 (Int.toNat x58*1) fun x=>aInt .i64 x fun z1=>cond (z1==0)
 (R I2 Ap4 [(0,.pointer c),(57,.agg ⟨x57⟩),(58,iI (wrap .i64 (x58+1)))] h)
 (bnd (C W0 [.pointer c,iI x58] h) fun r w=>as2 r fun q1 q2=>aAgg q1 fun z2=>aInt .i64 q2 fun _=>nw (.cells N1 false [iI 0,iI 0,iI 0,iI 0]) w fun b w1=>ck (List.length z2=4) (pAgg ⟨b,0,none⟩ z2 w1 fun w2=>gInt .i64 ⟨b,2,none⟩ w2 fun z4=>pV ⟨b,2,none⟩ (iI (wrap .i64 (z4+z1))) w2 fun w3=>gAgg ⟨b,0,none⟩ 4 w3 fun z5=>bnd (C Ag1 [.pointer c,iI x58,.agg ⟨z5⟩] w3) fun q3 w4=>aBool q3 fun z6=>cond (!z6)
 (some (iI 105,w4))
 (R I2 Ap4 [(0,.pointer c),(57,.agg ⟨x57⟩),(58,iI (wrap .i64 (x58+1)))] w4)))))
 (some (iI 0,h)):=kR
def B44:Cuts:=⟨2,[(3,[0,1,5,10])],[],[]⟩
def Dx3:List Item:=A5 Tryz.f186
def A31:List Item:=stk [0,1,0,1,0,0,1,4,5] Dx3
theorem Hg7 :
 xQ B44 C R Ah0 Tryz.f186 Dx3 [(0,.pointer c),(1,of)] h =
 R Ah0 A31 [(0,.pointer c),(1,of),(5,.slice none 0 0),(10,iI 0)] h:=kR
theorem D31 :
 xQ B44 C R Ah0 Tryz.f186 A31 [(0,.pointer c),(1,of),(5,.slice out outn outc),(10,iI x10)] h =
 cond (decide (x10<8))
 (bnd (C E2 [.pointer c,iI x10] h) fun r w=>as2 r fun q1 q2=>aAgg q1 fun x=>aInt .i64 q2 fun z1=>nw (.cells B2 false zZ1) w fun b w1=>ck (List.length x=16) (pAgg ⟨b,0,none⟩ x w1 fun w2=>gAgg ⟨b,0,none⟩ 16 w2 fun z2=>ck (List.length z2=16) (nw (.cells N6 false zZ4) w2 fun p1 w3=>ck (List.length (iI x10::(z2++[]))=17) (pAgg ⟨p1,0,none⟩ (iI x10::(z2++[])) w3 fun w4=>bnd (cond (z1==1) (gAgg ⟨p1,0,none⟩ 17 w4 fun z3=>aFn of fun g fi cp=>bnd (C g (fi++([.agg ⟨z3⟩]++cp)) w4) fun q3 w5=>aBool q3 fun z4=>some (z4,w5)) (some (false,w4))) fun c_1 w6=>cond c_1
 (gAgg ⟨p1,0,none⟩ 17 w6 fun z5=>ck (List.length z5=17) (nw (.cells N6 false (z5++[])) w6 fun p2 w7=>gCells (some ⟨p2,0,none⟩) (1*17) w7 fun cs=>ckB (fitsOpen out N6 w7) (apd N6 17 out outn outc 1 cs w7 fun a an ac w8=>R Ah0 A31 [(0,.pointer c),(1,of),(5,.slice a an ac),(10,iI (wrap .i64 (x10+1)))] w8)))
 (R Ah0 A31 [(0,.pointer c),(1,of),(5,.slice out outn outc),(10,iI (wrap .i64 (x10+1)))] w6)))))
 (some (.slice out outn outc,h)):=kR
def Dd4:Cuts:=⟨2,[],[],[]⟩
def Ea9:List Item:=A5 Tryz.f189
theorem Gt9 :
 xQ Dd4 C R Bo8 Tryz.f189 Ea9 [(0,.pointer c),(1,iI target)] h =
 nw (.cells B3 false [iI target]) h fun b w=>gInt .i64 ⟨b,0,none⟩ w fun x=>cond (decide (x≥8))
 (bnd (C Ah0 [.pointer c,.func (.func Ax7) ⟨[]⟩ ⟨[pP b]⟩] w) fun r w1=>aSl r fun z1 xn xc=>cond ((xn:Int)==0)
 (some (.tuple ⟨[.slice none 0 0,iI 103]⟩,w1))
 (some (.tuple ⟨[.slice z1 xn xc,iI 0]⟩,w1)))
 (gInt .i64 ⟨b,0,none⟩ w fun z2=>bnd (C E2 [.pointer c,iI z2] w) fun q1 w2=>as2 q1 fun q2 q3=>aAgg q2 fun z3=>aInt .i64 q3 fun z4=>nw (.cells B2 false zZ1) w2 fun p1 w3=>ck (List.length z3=16) (pAgg ⟨p1,0,none⟩ z3 w3 fun w4=>cond (z4==0)
 (some (.tuple ⟨[.slice none 0 0,iI 103]⟩,w4))
 (cond (z4==2)
 (some (.tuple ⟨[.slice none 0 0,iI 105]⟩,w4))
 (gInt .i64 ⟨b,0,none⟩ w4 fun z5=>gAgg ⟨p1,0,none⟩ 16 w4 fun z6=>ck (List.length z6=16) (ck (List.length (iI z5::(z6++[]))=17) (nw (.cells N6 false ((iI z5::(z6++[]))++[])) w4 fun p2 w5=>some (.tuple ⟨[.slice (some ⟨p2,0,none⟩) 1 1,iI 0]⟩,w5))))))):=kR
def Ar8:Cuts:=⟨2,[],[],[]⟩
def Bj1:List Item:=A5 Tryz.f196
theorem Do8 :
 xQ Ar8 C R W8 Tryz.f196 Bj1 [(0,.int .u64 x)] h =
 bnd (C Ab7 [.int .u64 x] h) fun r w=>aInt .i64 r fun z1=>some (iI z1,w):=kR
def Ad9:Cuts:=⟨2,[(4,[0,1,12,13])],[],[(6,⟨[0,1,2,3,4,5,6,7,8],[0,0,3,7,0,0,48,112,255],[],[]⟩)]⟩
def Ap7:List Item:=A5 Tryz.f213
def Z1:List Item:=stk [0,1,0,1,0,0,1,4,5] Ap7
theorem Dl0 :
 xQ Ad9 C R D1 Tryz.f213 Ap7 [(0,.slice s1 s1n s1c),(1,.slice s2 s2n s2c)] h =
 cond ((s1n:Int) != (s2n:Int))
 (some (.bool false,h))
 (R D1 Z1 [(0,.slice s1 s1n s1c),(1,.slice s2 s2n s2c),(12,iI (s1n:Int)),(13,iI 0)] h):=kR
theorem A56 (x13:Int) :
 xQ Ad9 C R D1 Tryz.f213 Z1 [(0,.slice s1 s1n s1c),(1,.slice s2 s2n s2c),(12,iI x12),(13,iI x13)] h =
 cond (decide (x13<x12))
 (aSome s1 fun p=>ck ((0:Int)≤x13∧x13<(s1n:Int)) (gInt .u8 (add (B1 p) (Int.toNat x13*1)) h fun x=>aSome s2 fun p_1=>ck ((0:Int)≤x13∧x13<(s2n:Int)) (gInt .u8 (add (B1 p_1) (Int.toNat x13*1)) h fun z1=>cond (x != z1)
 (some (.bool false,h))
 (R D1 Z1 [(0,.slice s1 s1n s1c),(1,.slice s2 s2n s2c),(12,iI x12),(13,iI (wrap .i64 (x13+1)))] h))))
 (some (.bool true,h)):=kR
def Dy4:Cuts:=⟨2,[],[],[]⟩
def E16:List Item:=A5 Tryz.f216
theorem G82 (c:List Value) (x:List Value) :
 xQ Dy4 C R B22 Tryz.f216 E16 [(0,.agg ⟨c⟩),(1,.agg ⟨x⟩)] h =
 nw (.cells D9 false c) h fun b w=>nw (.cells L7 false x) w fun p1 w1=>gInt .i64 ⟨p1,0,none⟩ w1 fun z1=>bnd (cond (decide (z1<0)) (some (true,w1)) (gInt .i64 ⟨p1,0,none⟩ w1 fun z2=>gSl ⟨b,0,none⟩ w1 fun _ xn _=>some (decide (z2≥(xn:Int)),w1))) fun c_1 w2=>bnd (cond c_1 (some (true,w2)) (gInt .i64 ⟨p1,1,none⟩ w2 fun z4=>some (decide (z4<0),w2))) fun c_2 w3=>bnd (cond c_2 (some (true,w3)) (gInt .i64 ⟨p1,2,none⟩ w3 fun z5=>some (decide (z5<0),w3))) fun c_3 w4=>bnd (cond c_3 (some (true,w4)) (gInt .i64 ⟨p1,3,none⟩ w4 fun z6=>some (decide (z6<0),w4))) fun c_4 w5=>cond c_4
 (some (.bool false,w5))
 (gSl ⟨b,0,none⟩ w5 fun z7 xn_1 _=>gInt .i64 ⟨p1,0,none⟩ w5 fun z8=>aSome z7 fun p=>ck ((0:Int)≤z8∧z8<(xn_1:Int)) (gInt .i64 (add (B1 p) (Int.toNat z8*1)) w5 fun z9=>bnd (C Bg1 [iI z9] w5) fun r w6=>aInt .i64 r fun z10=>gInt .i64 ⟨p1,1,none⟩ w6 fun z11=>cond (decide (z11>z10))
 (some (.bool false,w6))
 (gInt .i64 ⟨p1,1,none⟩ w6 fun z12=>gInt .i64 ⟨p1,2,none⟩ w6 fun z13=>bnd (cond (decide (z13≤(wrap .i64 ((wrap .i64 (z10-z12))*64)))) (gInt .i64 ⟨p1,3,none⟩ w6 fun z14=>gInt .i64 ⟨p1,2,none⟩ w6 fun z15=>some (decide (z14≤(wrap .i64 ((wrap .i64 ((wrap .i64 (z10-z12))*64))-z15))),w6)) (some (false,w6))) fun c_5 w7=>some (.bool c_5,w7)))):=kR
def Bn0:Cuts:=⟨2,[],[],[]⟩
def Di2:List Item:=A5 Tryz.f219
theorem Ex7 :
 xQ Bn0 C R An1 Tryz.f219 Di2 [(0,iI n)] h =
 bnd (cond (decide (n≥0)) (some (decide (n≤65536),h)) (some (false,h))) fun c w=>some (.bool c,w):=kR
def B58:Cuts:=⟨2,[],[],[]⟩
def D35:List Item:=A5 Tryz.f224
theorem Go9 :
 xQ B58 C R Bj3 Tryz.f224 D35 [(0,.pointer m),(1,iI atv),(2,.slice b bn bc)] h =
 bnd (C Bk8 [.pointer m,iI atv,iI (bn:Int)] h) fun r w=>aBool r fun x=>cond (!x)
 (some (iI 1,w))
 (aSome m fun p=>gSl (add p 0) w fun z1 xn xc=>ckB (fitsOpen z1 A4 w) (ck ((0:Int)≤atv∧atv≤(xn:Int)) (gCells b (min bn (xn-(Int.toNat atv))*1) w fun cs=>pCells (L5 z1 (decide (Int.toNat atv<xc)) ((Int.toNat atv)*1)) cs w fun w1=>some (iI 0,w1)))):=kR
def W2:Cuts:=⟨2,[(18,[0,1,2])],[(10,[0,1,2]),(11,[0,1,2]),(14,[0,1,2]),(17,[])],[(11,⟨[0,1,2,3,4,5,6,7,8,9,10,11,12,13,14,15,16],[0,1,3,7,15,31,31,95,223,479,1023,31,2079,6175,14367,32767,65535],[],[]⟩),(18,⟨[0,1,2,3,4,5,6,7,8,9,10,11,12,13,14,15,16,17,18,19,20],[0,1,3,7,15,31,0,127,255,511,511,1535,3583,7679,16383,511,33279,98815,229887,524287,1048575],[],[]⟩)]⟩
def Ab3:List Item:=A5 Tryz.f231
def At5:List Item:=stk [0,1,0,1,0,1,0,1,0,1,0,0,1,2,0,1] Ab3
def Ar6:List Item:=stk [0,1,0,1,0,1,0,1,0,1,0,1,0,0] Ab3
def At9:List Item:=stk [0,1,0,1,0,1,0,1,0,1,0,1,0,1,0,0] Ab3
def As1:List Item:=stk [0,1,0,1,0,1,0,1,0,1,0,1,0,1,0,0,1,2,0,1,0] Ab3
def Ah5:List Item:=stk [0,1,0,1,0,1,0,1,0,1,0,1,0,1,0,1,0,4,5] Ab3
theorem E78 :
 xQ W2 C R B7 Tryz.f231 Ab3 [(0,.pointer s),(1,iI who),(2,iI now)] h =
 aSome s fun p=>gInt .i64 (add p 7) h fun x=>bnd (cond (decide (who<0)) (some (true,h)) (some (decide (who>99),h))) fun c w=>cond c
 (some (.tuple ⟨[iI 0,.bool false]⟩,w))
 (aSome s fun p_1=>pV (add p_1 7) (iI (mm2 true now x)) w fun w1=>aSome s fun p_2=>gBool (add p_2 1) w1 fun z1=>bnd (cond z1 (aSome s fun p_3=>gInt .i64 (add p_3 2) w1 fun z2=>some (z2==who,w1)) (some (false,w1))) fun c_1 w2=>cond c_1
 (aSome s fun p_4=>gInt .i64 (add p_4 3) w2 fun z3=>some (.tuple ⟨[iI z3,.bool true]⟩,w2))
 (aSome s fun p_5=>gSl (add p_5 5) w2 fun z4 xn xc=>bnd (C O5 [.slice z4 xn xc,iI who] w2) fun r w3=>aBool r fun z5=>cond (!z5)
 (aSome s fun p_6=>gSl (add p_6 5) w3 fun _ xn_1 _=>cond ((xn_1:Int)==0)
 (aSome s fun p_7=>pV (add p_7 6) (iI (mm2 true now x)) w3 fun w4=>R B7 At5 [(0,.pointer s),(1,iI who),(2,iI (mm2 true now x))] w4)
 (R B7 At5 [(0,.pointer s),(1,iI who),(2,iI (mm2 true now x))] w3))
 (R B7 Ar6 [(0,.pointer s),(1,iI who),(2,iI (mm2 true now x))] w3))):=kR
theorem Em4 :
 xQ W2 C R B7 Tryz.f231 At5 [(0,.pointer s),(1,iI who),(2,iI now)] h =
 aSome s fun p=>gSl (add p 5) h fun x xn xc=>nw (.cells B3 false [iI who]) h fun b w=>gCells (some ⟨b,0,none⟩) (1*1) w fun cs=>ckB (fitsOpen x B3 w) (apd B3 1 x xn xc 1 cs w fun a an ac w1=>aSome s fun p_1=>pV (add p_1 5) (.slice a an ac) w1 fun w2=>R B7 Ar6 [(0,.pointer s),(1,iI who),(2,iI now)] w2):=kR
theorem Eh0 :
 xQ W2 C R B7 Tryz.f231 Ar6 [(0,.pointer s),(1,iI who),(2,iI now)] h =
 aSome s fun p=>gBool (add p 1) h fun x=>bnd (cond x (aSome s fun p_1=>gInt .i64 (add p_1 4) h fun z1=>aSome s fun p_2=>gInt .i64 (add p_2 0) h fun z2=>some (decide ((wrap .i64 (now-z1))≥z2),h)) (some (false,h))) fun c w=>cond c
 (aSome s fun p_3=>pV (add p_3 1) (.bool false) w fun w1=>aSome s fun p_4=>pV (add p_4 6) (iI now) w1 fun w2=>R B7 At9 [(0,.pointer s),(1,iI who),(2,iI now)] w2)
 (R B7 At9 [(0,.pointer s),(1,iI who),(2,iI now)] w):=kR
theorem Ef6 :
 xQ W2 C R B7 Tryz.f231 At9 [(0,.pointer s),(1,iI who),(2,iI now)] h =
 aSome s fun p=>gBool (add p 1) h fun x=>cond x
 (aSome s fun p_1=>gSl (add p_1 5) h fun z1 xn _=>aSome z1 fun p_2=>ck ((0:Int)≤0∧0<(xn:Int)) (gInt .i64 (add (B1 p_2) (Int.toNat 0*1)) h fun z2=>cond (z2==who)
 (aSome s fun p_3=>pV (add p_3 6) (iI now) h fun w=>R B7 As1 [] w)
 (R B7 As1 [] h)))
 (R B7 Ah5 [(0,.pointer s),(1,iI who),(2,iI now)] h):=kR
theorem Ef2 :
 xQ W2 C R B7 Tryz.f231 As1 [] h =
 some (.tuple ⟨[iI 0,.bool false]⟩,h):=kR
theorem B52 :
 xQ W2 C R B7 Tryz.f231 Ah5 [(0,.pointer s),(1,iI who),(2,iI now)] h =
 aSome s fun p=>gSl (add p 5) h fun x xn _=>aSome x fun p_1=>ck ((0:Int)≤0∧0<(xn:Int)) (gInt .i64 (add (B1 p_1) (Int.toNat 0*1)) h fun z1=>bnd (cond (z1 != who) (aSome s fun p_2=>gInt .i64 (add p_2 6) h fun z2=>aSome s fun p_3=>gInt .i64 (add p_3 0) h fun z3=>some (decide ((wrap .i64 (now-z2))≥z3),h)) (some (false,h))) fun c w=>cond c
 (aSome s fun p_4=>gSl (add p_4 5) w fun z4 xn_1 xc_1=>ckB (fitsOpen z4 B3 w) (ck ((0:Int)≤1∧1≤(xn_1:Int)) (aSome s fun p_5=>pV (add p_5 5) (.slice (L5 z4 (decide (Int.toNat 1<xc_1)) ((Int.toNat 1)*1)) (xn_1-(Int.toNat 1)) (xc_1-(Int.toNat 1))) w fun w1=>aSome s fun p_6=>pV (add p_6 6) (iI now) w1 fun w2=>R B7 Ah5 [(0,.pointer s),(1,iI who),(2,iI now)] w2)))
 (aSome s fun p_7=>gSl (add p_7 5) w fun z5 xn_2 _=>aSome z5 fun p_8=>ck ((0:Int)≤0∧0<(xn_2:Int)) (gInt .i64 (add (B1 p_8) (Int.toNat 0*1)) w fun z6=>cond (z6 != who)
 (some (.tuple ⟨[iI 0,.bool false]⟩,w))
 (aSome s fun p_9=>gSl (add p_9 5) w fun z7 xn_3 xc_3=>ckB (fitsOpen z7 B3 w) (ck ((0:Int)≤1∧1≤(xn_3:Int)) (aSome s fun p_10=>pV (add p_10 5) (.slice (L5 z7 (decide (Int.toNat 1<xc_3)) ((Int.toNat 1)*1)) (xn_3-(Int.toNat 1)) (xc_3-(Int.toNat 1))) w fun w3=>aSome s fun p_11=>pV (add p_11 6) (iI now) w3 fun w4=>aSome s fun p_12=>gInt .i64 (add p_12 8) w4 fun z8=>aSome s fun p_13=>pV (add p_13 8) (iI (wrap .i64 (z8+1))) w4 fun w5=>aSome s fun p_14=>gInt .i64 (add p_14 8) w5 fun z9=>aSome s fun p_15=>pV (add p_15 1) (.bool true) w5 fun w6=>aSome s fun p_16=>pV (add p_16 2) (iI who) w6 fun w7=>aSome s fun p_17=>pV (add p_17 3) (iI z9) w7 fun w8=>aSome s fun p_18=>pV (add p_18 4) (iI now) w8 fun w9=>aSome s fun p_19=>gInt .i64 (add p_19 3) w9 fun z10=>some (.tuple ⟨[iI z10,.bool true]⟩,w9))))))):=kR
def Bb2:Cuts:=⟨2,[],[],[]⟩
def B59:List Item:=A5 Tryz.f237
theorem El8 (put:Value) (get:Value) :
 xQ Bb2 C R As3 Tryz.f237 B59 [(0,iI size),(1,put),(2,get)] h =
 one put (one get (nw (.cells Am5 false [iI (mm2 false (mm2 true size 0) 64),put,get]) h fun b w=>some (pP b,w))):=kR
def Ao0:Cuts:=⟨2,[],[],[]⟩
def Ba7:List Item:=A5 Tryz.f265
def Dy0:Cuts:=⟨2,[],[],[]⟩
def Ez5:List Item:=A5 Tryz.f273
theorem Hg9 :
 xQ Dy0 C R Bk8 Tryz.f273 Ez5 [(0,.pointer m),(1,iI atv),(2,iI n)] h =
 bnd (cond (decide (atv≥0)) (some (decide (n≥0),h)) (some (false,h))) fun c w=>bnd (cond c (aSome m fun p=>gSl (add p 0) w fun _ xn _=>some (decide (atv≤(xn:Int)),w)) (some (false,w))) fun c_1 w1=>bnd (cond c_1 (aSome m fun p_1=>gSl (add p_1 0) w1 fun _ xn_1 _=>some (decide (n≤(wrap .i64 ((xn_1:Int)-atv))),w1)) (some (false,w1))) fun c_2 w2=>some (.bool c_2,w2):=kR
def At4:Cuts:=⟨2,[],[],[]⟩
def Bi7:List Item:=A5 Tryz.f274
theorem Dq7 :
 xQ At4 C R Ag4 Tryz.f274 Bi7 [(0,.pointer t),(1,iI name)] h =
 nw (.cells Q8 false [iI 0,iI 0,iI 0,iI 0,iI 0,iI 0]) h fun b w=>bnd (C Ag9 [.pointer t,iI name] w) fun r w1=>aPtr r fun x=>cond x.isNone
 (nw (.cells Q8 false [iI 0,iI 0,iI 0,iI 0,iI 0,iI 0]) w1 fun p1 w2=>gAgg ⟨p1,0,none⟩ 6 w2 fun z1=>ck (List.length z1=6) (pAgg ⟨b,0,none⟩ z1 w2 fun w3=>gAgg ⟨b,0,none⟩ 6 w3 fun z2=>some (.tuple ⟨[.agg ⟨z2⟩,.bool false]⟩,w3)))
 (aSome x fun p=>gAgg (add p 0) 6 w1 fun z3=>ck (List.length z3=6) (pAgg ⟨b,0,none⟩ z3 w1 fun w4=>gAgg ⟨b,0,none⟩ 6 w4 fun z4=>some (.tuple ⟨[.agg ⟨z4⟩,.bool true]⟩,w4))):=kR
def Ax5:Cuts:=⟨2,[],[],[]⟩
def Bn4:List Item:=A5 Tryz.f277
theorem Ds7 :
 xQ Ax5 C R Ag9 Tryz.f277 Bn4 [(0,.pointer t),(1,iI name)] h =
 bnd (cond (decide (name<0)) (some (true,h)) (aSome t fun p=>gSl (add p 0) h fun _ xn _=>some (decide ((D2 .i64 name 255)≥(xn:Int)),h))) fun c w=>bnd (cond c (some (true,w)) (aSome t fun p_1=>gSl (add p_1 0) w fun z1 xn_1 _=>aSome z1 fun p_2=>ck ((0:Int)≤D2 .i64 name 255∧D2 .i64 name 255<(xn_1:Int)) (gBool (add (add (B1 p_2) (Int.toNat (D2 .i64 name 255)*8)) 7) w fun z2=>some (!z2,w)))) fun c_1 w1=>bnd (cond c_1 (some (true,w1)) (bnd (C O9 [.pointer t,iI (D2 .i64 name 255)] w1) fun r w2=>aInt .i64 r fun z3=>some (z3 != name,w2))) fun c_2 w3=>cond c_2
 (some (.pointer none,w3))
 (aSome t fun p_3=>gSl (add p_3 0) w3 fun z4 xn_2 _=>aSome z4 fun p_4=>ck ((0:Int)≤D2 .i64 name 255∧D2 .i64 name 255<(xn_2:Int)) (some (.pointer (some (add (B1 p_4) (Int.toNat (D2 .i64 name 255)*8))),w3))):=kR
end
end Go.EQ

set_option maxRecDepth 100000
namespace Go.EQ
open Go Go.NN Go.Proofs
open Go.IntKind (wrap)
open Go.Addr (add)
variable (C:D3) (R:Aa7) (fv0 random:Addr) (ok wasBalanced wasPartitioned:Bool) (h:H) (a atv e env fd i idx j lease length limit lo modulus n name on pivot size to want x:Int) (p:List Value) (bc bn datac datan lc ln sc sn:Nat) (b c data k l q r s w:Option Addr) (cmp isv:Value)
noncomputable section
def Be1:Cuts:=⟨2,[],[(11,[2])],[(2,⟨[0,1,2,3,4,5,6,7,12,8,9,10,11,13,14],[0,1,3,7,0,16,48,112,255,511,1023,1023,0,6143,16383],[],[]⟩)]⟩
def Bx5:List Item:=A5 Tryz.f10
def Bh3:List Item:=stk [0,1,0,1,0,1,0,4,0,1,3,0,1,3,0,1,2,0,1,0] Bx5
theorem Al6 :
 xQ Be1 C R D6 Tryz.f10 Bx5 [(0,.pointer w)] h =
 nw (.cells Z7 false [iI 0,iI 0,iI 0,iI 0,iI 0,.slice none 0 0,iI 0,iI 0,.slice none 0 0,.bool false,.slice none 0 0,iI 0]) h fun b w1=>aSome w fun p=>gPtr (add p 4) w1 fun x=>bnd (C B8 [.pointer x] w1) fun r w2=>as0 r (aSome w fun p_1=>gPtr (add p_1 4) w2 fun z1=>aSome w fun p_2=>gInt .i64 (add p_2 2) w2 fun z2=>nw (.cells B2 false zZ1) w2 fun p1 w3=>bnd (C E2 [.pointer z1,iI z2] w3) fun q1 w4=>as2 q1 fun q2 q3=>aAgg q2 fun z3=>aInt .i64 q3 fun z4=>ck (List.length z3=16) (pAgg ⟨p1,0,none⟩ z3 w4 fun w5=>cond (z4==2)
 (bnd (C Gm8 [.pointer w] w5) fun q4 w6=>as2 q4 fun q5 q6=>aAgg q5 fun z5=>aBool q6 fun z6=>ck (List.length z5=12) (pAgg ⟨b,0,none⟩ z5 w6 fun w7=>gAgg ⟨b,0,none⟩ 12 w7 fun z7=>some (.tuple ⟨[.agg ⟨z7⟩,.bool z6]⟩,w7)))
 (bnd (cond (z4==0) (some (true,w5)) (gInt .i64 ⟨p1,0,none⟩ w5 fun z8=>some (z8==2,w5))) fun c w8=>cond c
 (bnd (C Ay5 [.pointer w] w8) fun q7 w9=>as0 q7 (pAgg ⟨b,0,none⟩ [iI 0,iI 0,iI 0,iI 0,iI 0,.slice none 0 0,iI 0,iI 0,.slice none 0 0,.bool false,.slice none 0 0,iI 0] w9 fun w10=>gAgg ⟨b,0,none⟩ 12 w10 fun z9=>some (.tuple ⟨[.agg ⟨z9⟩,.bool false]⟩,w10)))
 (gInt .i64 ⟨p1,0,none⟩ w8 fun z10=>cond (z10==3)
 (aSome w fun p_3=>gInt .i64 (add p_3 5) w8 fun z11=>cond (z11==2)
 (bnd (C Ai6 [.pointer w,iI 1] w8) fun q8 w11=>as0 q8 (R D6 Bh3 [(2,pP b)] w11))
 (R D6 Bh3 [(2,pP b)] w8))
 (aSome w fun p_4=>gInt .i64 (add p_4 5) w8 fun z12=>cond (z12==1)
 (bnd (C Bd7 [.pointer w] w8) fun q9 w12=>as0 q9 (pAgg ⟨b,0,none⟩ [iI 0,iI 0,iI 0,iI 0,iI 0,.slice none 0 0,iI 0,iI 0,.slice none 0 0,.bool false,.slice none 0 0,iI 0] w12 fun w13=>gAgg ⟨b,0,none⟩ 12 w13 fun z13=>some (.tuple ⟨[.agg ⟨z13⟩,.bool false]⟩,w13)))
 (cond (z12==2)
 (bnd (C A85 [.pointer w] w8) fun q10 w14=>as2 q10 fun q11 q12=>aAgg q11 fun z14=>aBool q12 fun z15=>ck (List.length z14=12) (pAgg ⟨b,0,none⟩ z14 w14 fun w15=>gAgg ⟨b,0,none⟩ 12 w15 fun z16=>some (.tuple ⟨[.agg ⟨z16⟩,.bool z15]⟩,w15)))
 (cond (z12==3)
 (gAgg ⟨p1,0,none⟩ 16 w8 fun z17=>bnd (C Er1 [.pointer w,.agg ⟨z17⟩] w8) fun q13 w16=>as2 q13 fun q14 q15=>aAgg q14 fun z18=>aBool q15 fun z19=>ck (List.length z18=12) (pAgg ⟨b,0,none⟩ z18 w16 fun w17=>gAgg ⟨b,0,none⟩ 12 w17 fun z20=>some (.tuple ⟨[.agg ⟨z20⟩,.bool z19]⟩,w17)))
 (aSome w fun p_5=>gInt .i64 (add p_5 2) w8 fun z21=>bnd (C Ao5 [.pointer w,.agg ⟨[iI 0,iI z21,iI 0,iI 0,iI 0,.slice none 0 0,iI 0,iI 0,.slice none 0 0,.bool false,.slice none 0 0,iI 0]⟩] w8) fun q16 w18=>aAgg q16 fun z22=>nw (.cells Z7 false [iI 0,iI 0,iI 0,iI 0,iI 0,.slice none 0 0,iI 0,iI 0,.slice none 0 0,.bool false,.slice none 0 0,iI 0]) w18 fun p2 w19=>ck (List.length z22=12) (pAgg ⟨p2,0,none⟩ z22 w19 fun w20=>gSl ⟨p2,10,none⟩ w20 fun _ xn _=>bnd (cond (decide ((xn:Int)>0)) (some (true,w20)) (gInt .i64 ⟨p2,11,none⟩ w20 fun z24=>some (decide (z24>0),w20))) fun c_1 w21=>cond c_1
 (gAgg ⟨p2,0,none⟩ 12 w21 fun z25=>ck (List.length z25=12) (pAgg ⟨b,0,none⟩ z25 w21 fun w22=>gAgg ⟨b,0,none⟩ 12 w22 fun z26=>some (.tuple ⟨[.agg ⟨z26⟩,.bool true]⟩,w22)))
 (pAgg ⟨b,0,none⟩ [iI 0,iI 0,iI 0,iI 0,iI 0,.slice none 0 0,iI 0,iI 0,.slice none 0 0,.bool false,.slice none 0 0,iI 0] w21 fun w23=>gAgg ⟨b,0,none⟩ 12 w23 fun z27=>some (.tuple ⟨[.agg ⟨z27⟩,.bool false]⟩,w23))))))))))):=kR
theorem Er3 (x2:Addr) :
 xQ Be1 C R D6 Tryz.f10 Bh3 [(2,.pointer (some x2))] h =
 pAgg x2 [iI 0,iI 0,iI 0,iI 0,iI 0,.slice none 0 0,iI 0,iI 0,.slice none 0 0,.bool false,.slice none 0 0,iI 0] h fun w=>gAgg x2 12 w fun x=>some (.tuple ⟨[.agg ⟨x⟩,.bool false]⟩,w):=kR
def Bs3:Cuts:=⟨2,[],[],[(1,⟨[0,1,2,3,4,5,6,7,8,9,10,11,12,13,14,15],[0,0,2,6,14,0,32,96,224,510,1022,2046,2046,4095,12287,28671],[],[]⟩)]⟩
def Dn8:List Item:=A5 Tryz.f11
theorem E58 :
 xQ Bs3 C R A74 Tryz.f11 Dn8 [(0,.pointer w)] h =
 bnd (C Ay5 [.pointer w] h) fun r w1=>as0 r (aSome w fun p=>gPtr (add p 0) w1 fun x=>aSome w fun p_1=>gInt .i64 (add p_1 1) w1 fun z1=>bnd (C Aq1 [.pointer x,iI z1] w1) fun q1 w2=>as2 q1 fun q2 q3=>aPtr q2 fun z2=>aInt .i64 q3 fun _=>aSome w fun p_2=>pV (add p_2 4) (.pointer z2) w2 fun w3=>some (.tuple ⟨[]⟩,w3)):=kR
def Bs5:Cuts:=⟨2,[],[],[]⟩
def Dn3:List Item:=A5 Tryz.f15
theorem E61 :
 xQ Bs5 C R Ai8 Tryz.f15 Dn3 [(0,.pointer w)] h =
 aSome w fun p=>gInt .i64 (add p 5) h fun x=>some (iI x,h):=kR
def Dm4:Cuts:=⟨2,[],[],[]⟩
def Eo9:List Item:=A5 Tryz.f16
theorem G30 :
 xQ Dm4 C R Bx2 Tryz.f16 Eo9 [] h =
 bnd (C Ad4 [] h) fun r w=>as4 r fun q1 q2 q3 q4=>aPtr q1 fun x=>aSl q2 fun z1 xn _=>aPtr q3 fun _=>aSl q4 fun _ _ _=>cond x.isNone
 (some (.bool false,w))
 (aSome z1 fun p=>ck ((0:Int)≤0∧0<(xn:Int)) (gPtr (add (B1 p) (Int.toNat 0*1)) w fun z4=>bnd (C Q9 [.pointer z4,.agg ⟨[iI 1,iI 0,iI 0,.slice none 0 0]⟩] w) fun q5 w1=>aBool q5 fun z5=>aSome z1 fun p_1=>ck ((0:Int)≤0∧0<(xn:Int)) (gPtr (add (B1 p_1) (Int.toNat 0*1)) w1 fun z6=>bnd (C D6 [.pointer z6] w1) fun q6 w2=>as2 q6 fun q7 q8=>aAgg q7 fun z7=>aBool q8 fun z8=>nw (.cells Z7 false [iI 0,iI 0,iI 0,iI 0,iI 0,.slice none 0 0,iI 0,iI 0,.slice none 0 0,.bool false,.slice none 0 0,iI 0]) w2 fun b w3=>ck (List.length z7=12) (pAgg ⟨b,0,none⟩ z7 w3 fun w4=>aSome z1 fun p_2=>ck ((0:Int)≤0∧0<(xn:Int)) (gPtr (add (B1 p_2) (Int.toNat 0*1)) w4 fun z9=>bnd (C D6 [.pointer z9] w4) fun q9 w5=>as2 q9 fun q10 q11=>aAgg q10 fun z10=>aBool q11 fun z11=>nw (.cells Z7 false [iI 0,iI 0,iI 0,iI 0,iI 0,.slice none 0 0,iI 0,iI 0,.slice none 0 0,.bool false,.slice none 0 0,iI 0]) w5 fun p1 w6=>ck (List.length z10=12) (pAgg ⟨p1,0,none⟩ z10 w6 fun w7=>bnd (C A25 [.pointer x,iI 0,iI 9,iI 0] w7) fun q12 w8=>as2 q12 fun q13 q14=>aPtr q13 fun _=>aInt .i64 q14 fun z13=>bnd (C A25 [.pointer x,iI 0,iI 0,iI 9] w8) fun q15 w9=>as2 q15 fun q16 q17=>aPtr q16 fun _=>aInt .i64 q17 fun z15=>bnd (cond z5 (some (!z8,w9)) (some (false,w9))) fun c w10=>bnd (cond c (some (z11,w10)) (some (false,w10))) fun c_1 w11=>bnd (cond c_1 (gBool ⟨p1,9,none⟩ w11 fun z16=>some (z16,w11)) (some (false,w11))) fun c_2 w12=>bnd (cond c_2 (gInt .i64 ⟨p1,7,none⟩ w12 fun z17=>some (z17==0,w12)) (some (false,w12))) fun c_3 w13=>bnd (cond c_3 (gInt .i64 ⟨p1,6,none⟩ w13 fun z18=>some (z18==0,w13)) (some (false,w13))) fun c_4 w14=>bnd (cond c_4 (aSome z1 fun p_3=>ck ((0:Int)≤0∧0<(xn:Int)) (gPtr (add (B1 p_3) (Int.toNat 0*1)) w14 fun z19=>bnd (C Ai8 [.pointer z19] w14) fun q18 w15=>aInt .i64 q18 fun z20=>some (z20==0,w15))) (some (false,w14))) fun c_5 w16=>bnd (cond c_5 (some (z13==1,w16)) (some (false,w16))) fun c_6 w17=>bnd (cond c_6 (some (z15==8,w17)) (some (false,w17))) fun c_7 w18=>bnd (cond c_7 (aSome z1 fun p_4=>ck ((0:Int)≤1∧1<(xn:Int)) (gPtr (add (B1 p_4) (Int.toNat 1*1)) w18 fun z21=>bnd (C Q9 [.pointer z21,.agg ⟨[iI 1,iI 0,iI 0,.slice none 0 0]⟩] w18) fun q19 w19=>aBool q19 fun z22=>some (!z22,w19))) (some (false,w18))) fun c_8 w20=>some (.bool c_8,w20))))))):=kR
def Ek5:Cuts:=⟨2,[],[],[]⟩
def Gj0:List Item:=A5 Tryz.f23
theorem Em8 (slot:Int) (sectionv:Int) :
 xQ Ek5 C R A25 Tryz.f23 Gj0 [(0,.pointer k),(1,iI env),(2,iI slot),(3,iI sectionv)] h =
 bnd (C Aq1 [.pointer k,iI env] h) fun r w=>as2 r fun q1 q2=>aPtr q1 fun x=>aInt .i64 q2 fun z1=>cond (z1 != 0)
 (some (.tuple ⟨[.pointer none,iI z1]⟩,w))
 (bnd (cond (decide (slot<0)) (some (true,w)) (some (decide (slot≥8),w))) fun c w1=>cond c
 (some (.tuple ⟨[.pointer none,iI 1]⟩,w1))
 (bnd (C Z8 [.pointer k,iI sectionv] w1) fun q3 w2=>aPtr q3 fun z2=>cond z2.isNone
 (some (.tuple ⟨[.pointer none,iI 8]⟩,w2))
 (nw (.cells Au8 false [.pointer k,iI env,iI slot,iI sectionv,.pointer x,iI 0,iI 0,iI 0,iI 0,iI 0,.slice none 0 0]) w2 fun b w3=>some (.tuple ⟨[pP b,iI 0]⟩,w3)))):=kR
def De6:Cuts:=⟨2,[],[],[(1,⟨[0,1,2,3,4,5,6,7,9,10,11,12,13,14,15,16,8,17,18],[0,1,3,7,0,16,48,112,255,0,512,1536,3584,0,8192,24576,57344,131071,262143],[(8,[12,16])],[]⟩),(4,⟨[0,1,2,3,4,5,6,7,8,9,10,11,13,12,14],[0,1,3,7,0,16,48,112,0,256,768,1792,4095,0,16383],[],[]⟩)]⟩
def Ee5:List Item:=A5 Tryz.f31
theorem Ed9 :
 xQ De6 C R A85 Tryz.f31 Ee5 [(0,.pointer w)] h =
 nw (.cells Z7 false [iI 0,iI 0,iI 0,iI 0,iI 0,.slice none 0 0,iI 0,iI 0,.slice none 0 0,.bool false,.slice none 0 0,iI 0]) h fun b w1=>aSome w fun p=>gPtr (add p 0) w1 fun x=>aSome w fun p_1=>gInt .i64 (add p_1 3) w1 fun z1=>aSome w fun p_2=>gInt .i64 (add p_2 1) w1 fun z2=>aSome w fun p_3=>gInt .i64 (add p_3 6) w1 fun z3=>bnd (C Z8 [.pointer x,iI z1] w1) fun r w2=>aPtr r fun z4=>gInt .i64 (add p_2 1) w2 fun z5=>same (iI z2) (iI z5) (gInt .i64 (add p_3 6) w2 fun z6=>same (iI z3) (iI z6) (bnd (C Ai7 [.pointer z4,iI z2,iI z3] w2) fun q1 w3=>aBool q1 fun z7=>cond (!z7)
 (aSome w fun p_4=>pV (add p_4 5) (iI 1) w3 fun w4=>pAgg ⟨b,0,none⟩ [iI 0,iI 0,iI 0,iI 0,iI 0,.slice none 0 0,iI 0,iI 0,.slice none 0 0,.bool false,.slice none 0 0,iI 0] w4 fun w5=>gAgg ⟨b,0,none⟩ 12 w5 fun z8=>some (.tuple ⟨[.agg ⟨z8⟩,.bool false]⟩,w5))
 (aSome w fun p_5=>gPtr (add p_5 4) w3 fun z9=>aSome w fun p_6=>gInt .i64 (add p_6 2) w3 fun z10=>aSome w fun p_7=>gAgg (add p_7 7) 4 w3 fun z11=>nw (.cells An3 false [iI 0,iI 0,.slice none 0 0,.bool false]) w3 fun p1 w6=>bnd (C Dp4 [.pointer z9,iI z10,.agg ⟨z11⟩] w6) fun q2 w7=>aAgg q2 fun z12=>ck (List.length z12=4) (pAgg ⟨p1,0,none⟩ z12 w7 fun w8=>gBool ⟨p1,3,none⟩ w8 fun z13=>cond z13
 (bnd (C Ai6 [.pointer w,iI 3] w8) fun q3 w9=>as0 q3 (pAgg ⟨b,0,none⟩ [iI 0,iI 0,iI 0,iI 0,iI 0,.slice none 0 0,iI 0,iI 0,.slice none 0 0,.bool false,.slice none 0 0,iI 0] w9 fun w10=>gAgg ⟨b,0,none⟩ 12 w10 fun z14=>some (.tuple ⟨[.agg ⟨z14⟩,.bool false]⟩,w10)))
 (bnd (C Ai6 [.pointer w,iI 0] w8) fun q4 w11=>as0 q4 (gAgg ⟨p1,0,none⟩ 4 w11 fun z15=>bnd (C Bc9 [.pointer w,.agg ⟨z15⟩] w11) fun q5 w12=>aAgg q5 fun z16=>nw (.cells Z7 false [iI 0,iI 0,iI 0,iI 0,iI 0,.slice none 0 0,iI 0,iI 0,.slice none 0 0,.bool false,.slice none 0 0,iI 0]) w12 fun p2 w13=>ck (List.length z16=12) (pAgg ⟨p2,0,none⟩ z16 w13 fun w14=>aSome w fun p_8=>gInt .i64 (add (add p_8 7) 0) w14 fun z17=>cond (z17 != 3)
 (gAgg ⟨p2,0,none⟩ 12 w14 fun z18=>bnd (C Ao5 [.pointer w,.agg ⟨z18⟩] w14) fun q6 w15=>aAgg q6 fun z19=>ck (List.length z19=12) (pAgg ⟨p2,0,none⟩ z19 w15 fun w16=>gAgg ⟨p2,0,none⟩ 12 w16 fun z20=>ck (List.length z20=12) (pAgg ⟨b,0,none⟩ z20 w16 fun w17=>gAgg ⟨b,0,none⟩ 12 w17 fun z21=>some (.tuple ⟨[.agg ⟨z21⟩,.bool true]⟩,w17))))
 (gAgg ⟨p2,0,none⟩ 12 w14 fun z22=>ck (List.length z22=12) (pAgg ⟨b,0,none⟩ z22 w14 fun w18=>gAgg ⟨b,0,none⟩ 12 w18 fun z23=>some (.tuple ⟨[.agg ⟨z23⟩,.bool true]⟩,w18)))))))))):=kR
def En5:Cuts:=⟨2,[],[],[]⟩
def Gj9:List Item:=A5 Tryz.f38
theorem H65 (hi:Int) :
 xQ En5 C R A30 Tryz.f38 Gj9 [(0,iI n),(1,iI lo),(2,iI hi)] h =
 bnd (cond (decide (n≥lo)) (some (decide (n≤hi),h)) (some (false,h))) fun c w=>some (.bool c,w):=kR
def Dv0:Cuts:=⟨2,[],[],[]⟩
def E06:List Item:=A5 Tryz.f40
theorem Hh6 :
 xQ Dv0 C R Bm3 Tryz.f40 E06 [(0,.agg ⟨p⟩)] h =
 nw (.cells B36 false p) h fun b w=>gAgg ⟨b,0,none⟩ 3 w fun x=>bnd (C M6 [.agg ⟨x⟩] w) fun r w1=>aAgg r fun z1=>nw (.cells D9 false [.slice none 0 0,.slice none 0 0,.slice none 0 0,iI 0,.slice none 0 0]) w1 fun p1 w2=>ck (List.length z1=5) (pAgg ⟨p1,0,none⟩ z1 w2 fun w3=>gAgg ⟨p1,0,none⟩ 5 w3 fun z2=>bnd (C J6 [.agg ⟨z2⟩] w3) fun q1 w4=>as2 q1 fun q2 q3=>aPtr q2 fun z3=>aInt .i64 q3 fun z4=>bnd (cond z3.isNone (some (true,w4)) (some (z4 != 0,w4))) fun c w5=>cond c
 (some (.tuple ⟨[.pointer none,.pointer none,.pointer none,.pointer none]⟩,w5))
 (gAgg ⟨p1,0,none⟩ 5 w5 fun z5=>bnd (C I0 [.agg ⟨z5⟩] w5) fun q4 w6=>aPtr q4 fun z6=>bnd (C Aq1 [.pointer z3,iI 0] w6) fun q5 w7=>as2 q5 fun q6 q7=>aPtr q6 fun z7=>aInt .i64 q7 fun z8=>bnd (cond z7.isNone (some (true,w7)) (some (z8 != 0,w7))) fun c_1 w8=>cond c_1
 (some (.tuple ⟨[.pointer none,.pointer none,.pointer none,.pointer none]⟩,w8))
 (bnd (C Bf4 [] w8) fun q8 w9=>aStr q8 fun z9=>ck (ByteArray.size z9≤A8) (nw (.cells A4 false (A0 (ByteArray.data z9).toList)) w9 fun p2 w10=>bnd (C M7 [.pointer z3,iI 0,.agg ⟨[iI 2,iI 256,iI 0,iI 0,iI 0,iI 0,.slice (some (N7 p2)) (ByteArray.size z9) (ByteArray.size z9)]⟩] w10) fun q9 w11=>aAgg q9 fun z10=>nth z10 0 fun E=>aInt .i64 E fun E_1=>cond (E_1 != 0)
 (some (.tuple ⟨[.pointer none,.pointer none,.pointer none,.pointer none]⟩,w11))
 (ck (ByteArray.size z9≤A8) (nw (.cells A4 false (A0 (ByteArray.data z9).toList)) w11 fun p3 w12=>bnd (C Aw1 [.pointer z6,iI 0,.agg ⟨[iI 2,iI 256,iI 0,iI 0,iI 0,iI 0,.slice (some (N7 p3)) (ByteArray.size z9) (ByteArray.size z9)]⟩] w12) fun q10 w13=>as3 q10 fun q11 q12 q13=>aInt .i64 q11 fun _=>aInt .i64 q12 fun _=>aStr q13 fun _=>bnd (C Ao4 [.pointer z6,iI 0] w13) fun q14 w14=>aPtr q14 fun z14=>some (.tuple ⟨[.pointer z3,.pointer z7,.pointer z6,.pointer z14]⟩,w14))))))):=kR
def Db9:Cuts:=⟨2,[],[],[]⟩
def Ec1:List Item:=A5 Tryz.f43
theorem Gw5 (c:List Value) :
 xQ Db9 C R M7 Tryz.f43 Ec1 [(0,.pointer k),(1,iI env),(2,.agg ⟨c⟩)] h =
 nw (.cells A29 false c) h fun b w=>nw (.cells Dt0 false [iI 0,iI 0,.slice none 0 0]) w fun p1 w1=>bnd (cond (decide (env<0)) (some (true,w1)) (aSome k fun p=>gSl (add p 0) w1 fun _ xn _=>some (decide (env≥(xn:Int)),w1))) fun c_1 w2=>cond c_1
 (pAgg ⟨p1,0,none⟩ [iI 1,iI 0,.slice none 0 0] w2 fun w3=>gAgg ⟨p1,0,none⟩ 3 w3 fun z1=>some (.agg ⟨z1⟩,w3))
 (gAgg ⟨b,0,none⟩ 7 w2 fun z2=>bnd (C A63 [.pointer k,iI env,.agg ⟨z2⟩] w2) fun r w4=>as3 r fun q1 q2 q3=>aSl q1 fun z3 xn_1 xc_1=>aInt .i64 q2 fun z4=>aBool q3 fun z5=>cond z5
 (pAgg ⟨p1,0,none⟩ [iI z4,iI 0,.slice z3 xn_1 xc_1] w4 fun w5=>gAgg ⟨p1,0,none⟩ 3 w5 fun z6=>some (.agg ⟨z6⟩,w5))
 (gAgg ⟨b,0,none⟩ 7 w4 fun z7=>bnd (C A06 [.pointer k,iI env,.agg ⟨z7⟩] w4) fun q4 w6=>as2 q4 fun q5 q6=>aInt .i64 q5 fun z8=>aInt .i64 q6 fun z9=>pAgg ⟨p1,0,none⟩ [iI z9,iI z8,.slice none 0 0] w6 fun w7=>gAgg ⟨p1,0,none⟩ 3 w7 fun z10=>some (.agg ⟨z10⟩,w7))):=kR
def Dc6:Cuts:=⟨2,[],[],[(7,⟨[0,1,2,3,4,5,6,7,8,9,10,11,12,13,14,15,16],[0,1,3,7,0,0,32,0,128,0,512,2047,4095,8191,8191,16383,65535],[],[]⟩),(9,⟨[0,1,2,3,4,5,6,7,8,9,10,11,12,13],[0,1,3,7,0,0,32,0,128,0,512,1536,4095,8191],[],[]⟩),(11,⟨[0,1,2,3,4,5,6,7,8,9,10,11,12,13,14,15,16],[0,1,3,7,0,0,32,0,128,0,512,0,2048,0,8192,32767,65535],[],[]⟩),(13,⟨[0,1,2,3,4,5,6,7,8,9,10,11,12,13,14,15,16,17,18,19,20,21,22,23],[0,1,3,7,15,31,63,0,0,256,0,1024,0,4096,0,16384,0,65536,262143,524287,1048575,1048575,2097151,8388607],[],[]⟩),(15,⟨[0,1,2,3,4,5,6,7,8,9,10,11,12,13,14,15],[0,1,3,7,15,31,63,0,0,256,1023,2047,4095,4095,8191,32767],[],[]⟩),(17,⟨[0,1,2,3,4,5,6,7,8,9,10,11,12,13,14,15,16,17],[0,1,3,7,0,16,48,112,240,0,1008,2032,4095,8191,16383,16383,32767,131071],[],[]⟩),(19,⟨[0,1,2,3,4,5,6,7,8,9,10,11,12,13,14,15],[0,1,3,7,0,16,48,112,240,0,1008,2032,0,4096,16383,32767],[],[]⟩),(23,⟨[0,1,2,3,4,5,6,7,8,9,10,11,12,13,14,15,16,17],[0,1,3,7,0,16,63,127,0,0,512,1536,3584,8191,16383,32767,32767,65535],[],[]⟩),(27,⟨[0,1,2,3,4,5,6,7,8,9,10,11,12,13,14,15,16,17,18],[0,0,0,4,15,31,63,127,255,511,63,1087,4095,8191,63,63,32831,131071,262143],[],[]⟩)]⟩
def Ec4:List Item:=A5 Tryz.f44
theorem Gv0 (c:List Value) :
 xQ Dc6 C R Aw1 Tryz.f44 Ec4 [(0,.pointer k),(1,iI e),(2,.agg ⟨c⟩)] h =
 nw (.cells A29 false c) h fun b w=>bnd (cond (decide (e<0)) (some (true,w)) (aSome k fun p=>gSl (add (add p 0) 1) w fun _ xn _=>some (decide (e≥(xn:Int)),w))) fun c_1 w1=>cond c_1
 (some (.tuple ⟨[iI 1,iI 0,.string (ByteArray.mk ⟨[]⟩)]⟩,w1))
 (gInt .i64 ⟨b,0,none⟩ w1 fun z1=>cond (z1==1)
 (aSome k fun p_1=>gPtr (add p_1 6) w1 fun z2=>gInt .i64 ⟨b,1,none⟩ w1 fun z3=>gInt .i64 ⟨b,2,none⟩ w1 fun z4=>gInt .i64 ⟨b,3,none⟩ w1 fun z5=>bnd (C Er6 [.pointer z2,iI e,iI z3,iI z4,iI z5] w1) fun r w2=>as2 r fun q1 q2=>aStr q1 fun z6=>aInt .i64 q2 fun z7=>some (.tuple ⟨[iI z7,iI 0,.string z6]⟩,w2))
 (cond (z1==2)
 (aSome k fun p_2=>gPtr (add p_2 6) w1 fun z8=>gInt .i64 ⟨b,1,none⟩ w1 fun z9=>gInt .i64 ⟨b,2,none⟩ w1 fun z10=>gSl ⟨b,6,none⟩ w1 fun z11 xn_1 _=>gCells z11 xn_1 w1 fun cs=>asBytes cs fun l=>bnd (C As5 [.pointer z8,iI e,iI z9,iI z10,.string (ByteArray.mk ⟨l⟩)] w1) fun q3 w3=>aInt .i64 q3 fun z12=>some (.tuple ⟨[iI z12,iI 0,.string (ByteArray.mk ⟨[]⟩)]⟩,w3))
 (cond (z1==3)
 (aSome k fun p_3=>gPtr (add p_3 6) w1 fun z13=>gInt .i64 ⟨b,1,none⟩ w1 fun z14=>gInt .i64 ⟨b,2,none⟩ w1 fun z15=>gInt .i64 ⟨b,4,none⟩ w1 fun z16=>gInt .i64 ⟨b,5,none⟩ w1 fun z17=>gInt .i64 ⟨b,3,none⟩ w1 fun z18=>bnd (C Er7 [.pointer z13,iI e,iI z14,iI z15,iI z16,iI z17,iI z18] w1) fun q4 w4=>aInt .i64 q4 fun z19=>some (.tuple ⟨[iI z19,iI 0,.string (ByteArray.mk ⟨[]⟩)]⟩,w4))
 (cond (z1==4)
 (aSome k fun p_4=>gPtr (add p_4 6) w1 fun z20=>aSome z20 fun p_5=>gPtr (add p_5 3) w1 fun z21=>gInt .i64 ⟨b,1,none⟩ w1 fun z22=>gInt .i64 ⟨b,4,none⟩ w1 fun z23=>gInt .i64 ⟨b,5,none⟩ w1 fun z24=>gInt .i64 ⟨b,2,none⟩ w1 fun z25=>gInt .i64 ⟨b,3,none⟩ w1 fun z26=>bnd (C E15 [.pointer z21,iI e,iI z22,iI z23,iI z24,iI z25,iI z26] w1) fun q5 w5=>as2 q5 fun q6 q7=>aInt .i64 q6 fun z27=>aInt .i64 q7 fun z28=>some (.tuple ⟨[iI z28,iI z27,.string (ByteArray.mk ⟨[]⟩)]⟩,w5))
 (cond (z1==5)
 (aSome k fun p_6=>gPtr (add p_6 6) w1 fun z29=>aSome z29 fun p_7=>gPtr (add p_7 3) w1 fun z30=>gInt .i64 ⟨b,1,none⟩ w1 fun z31=>bnd (C Eq8 [.pointer z30,iI e,iI z31] w1) fun q8 w6=>as2 q8 fun q9 q10=>aInt .i64 q9 fun z32=>aInt .i64 q10 fun z33=>some (.tuple ⟨[iI z33,iI z32,.string (ByteArray.mk ⟨[]⟩)]⟩,w6))
 (cond (z1==6)
 (aSome k fun p_8=>gPtr (add p_8 5) w1 fun z34=>aSome k fun p_9=>gSl (add (add p_9 0) 1) w1 fun z35 xn_2 _=>aSome z35 fun p_10=>ck ((0:Int)≤e∧e<(xn_2:Int)) (gInt .i64 (add (B1 p_10) (Int.toNat e*1)) w1 fun z36=>bnd (C Et3 [.pointer z34,iI z36] w1) fun q11 w7=>as2 q11 fun q12 q13=>aInt .i64 q12 fun z37=>aInt .i64 q13 fun z38=>some (.tuple ⟨[iI z38,iI z37,.string (ByteArray.mk ⟨[]⟩)]⟩,w7)))
 (cond (z1==7)
 (aSome k fun p_11=>gPtr (add p_11 5) w1 fun z39=>aSome k fun p_12=>gSl (add (add p_12 0) 1) w1 fun z40 xn_3 _=>aSome z40 fun p_13=>ck ((0:Int)≤e∧e<(xn_3:Int)) (gInt .i64 (add (B1 p_13) (Int.toNat e*1)) w1 fun z41=>gInt .i64 ⟨b,3,none⟩ w1 fun z42=>bnd (C E68 [.pointer z39,iI z41,iI z42] w1) fun q14 w8=>aInt .i64 q14 fun z43=>some (.tuple ⟨[iI z43,iI 0,.string (ByteArray.mk ⟨[]⟩)]⟩,w8)))
 (cond (z1==8)
 (gInt .i64 ⟨b,3,none⟩ w1 fun z44=>bnd (C D36 [.pointer k,iI e,iI z44] w1) fun q15 w9=>aBool q15 fun z45=>cond z45
 (aSome k fun p_14=>gSl (add p_14 7) w9 fun z46 xn_4 _=>gInt .i64 ⟨b,3,none⟩ w9 fun z47=>aSome z46 fun p_15=>ck ((0:Int)≤z47∧z47<(xn_4:Int)) (gPtr (add (B1 p_15) (Int.toNat z47*1)) w9 fun z48=>aSome k fun p_16=>gInt .i64 (add p_16 8) w9 fun z49=>bnd (C E70 [.pointer z48,iI e,iI z49] w9) fun q16 w10=>as2 q16 fun q17 q18=>aInt .i64 q17 fun z50=>aBool q18 fun _=>some (.tuple ⟨[iI 0,iI z50,.string (ByteArray.mk ⟨[]⟩)]⟩,w10)))
 (some (.tuple ⟨[iI 8,iI 0,.string (ByteArray.mk ⟨[]⟩)]⟩,w9)))
 (cond (z1==9)
 (gInt .i64 ⟨b,3,none⟩ w1 fun z52=>bnd (C D36 [.pointer k,iI e,iI z52] w1) fun q19 w11=>aBool q19 fun z53=>bnd (cond z53 (aSome k fun p_17=>gSl (add p_17 7) w11 fun z54 xn_5 _=>gInt .i64 ⟨b,3,none⟩ w11 fun z55=>aSome z54 fun p_18=>ck ((0:Int)≤z55∧z55<(xn_5:Int)) (gPtr (add (B1 p_18) (Int.toNat z55*1)) w11 fun z56=>gInt .i64 ⟨b,2,none⟩ w11 fun z57=>bnd (C E60 [.pointer z56,iI e,iI z57] w11) fun q20 w12=>aBool q20 fun z58=>some (z58,w12))) (some (false,w11))) fun c_2 w13=>cond c_2
 (some (.tuple ⟨[iI 0,iI 0,.string (ByteArray.mk ⟨[]⟩)]⟩,w13))
 (some (.tuple ⟨[iI 8,iI 0,.string (ByteArray.mk ⟨[]⟩)]⟩,w13)))
 (cond (z1==10)
 (aSome k fun p_19=>gInt .i64 (add p_19 8) w1 fun z59=>some (.tuple ⟨[iI 0,iI z59,.string (ByteArray.mk ⟨[]⟩)]⟩,w1))
 (some (.tuple ⟨[iI 7,iI 0,.string (ByteArray.mk ⟨[]⟩)]⟩,w1)))))))))))):=kR
def Bm0:Cuts:=⟨2,[],[],[]⟩
def Dh8:List Item:=A5 Tryz.f49
theorem Eu3 :
 xQ Bm0 C R Ao4 Tryz.f49 Dh8 [(0,.pointer k),(1,iI env)] h =
 aSome k fun p=>gPtr (add p 6) h fun x=>aSome x fun p_1=>gPtr (add p_1 3) h fun z1=>bnd (C Bd3 [.pointer z1,iI env] h) fun r w=>aSl r fun z2 xn xc=>cond ((xn:Int)==0)
 (some (.pointer none,w))
 (nw (.cells D22 false [.pointer k,iI env,.slice z2 xn xc,.slice none 0 0]) w fun b w1=>some (pP b,w1)):=kR
def A50:Cuts:=⟨2,[],[],[]⟩
def Bu1:List Item:=A5 Tryz.f53
theorem D83 :
 xQ A50 C R Am4 Tryz.f53 Bu1 [(0,.pointer c)] h =
 nw (.cells O3 false zZ2) h fun b w=>bnd (C L0 [.pointer c,.agg ⟨[iI 4,iI 0]⟩,.func (.func Ap9) ⟨[]⟩ ⟨[]⟩] w) fun r w1=>as2 r fun q1 q2=>aAgg q1 fun x=>aInt .i64 q2 fun z1=>ck (List.length x=36) (pAgg ⟨b,0,none⟩ x w1 fun w2=>gAgg ⟨b,0,none⟩ 36 w2 fun z2=>some (.tuple ⟨[.agg ⟨z2⟩,iI z1]⟩,w2)):=kR
def Az6:Cuts:=⟨2,[],[],[]⟩
def Bq7:List Item:=A5 Tryz.f54
theorem D00 :
 xQ Az6 C R Ak5 Tryz.f54 Bq7 [(0,.pointer c)] h =
 bnd (C V0 [.pointer c,.agg ⟨[iI 5,iI 0]⟩,.func (.func Ai9) ⟨[]⟩ ⟨[]⟩] h) fun r w=>as2 r fun q1 q2=>aInt .i64 q1 fun x=>aInt .i64 q2 fun z1=>some (.tuple ⟨[iI x,.bool (z1==1)]⟩,w):=kR
def Bw5:Cuts:=⟨2,[(1,[1,2,3])],[],[]⟩
def Dk4:List Item:=A5 Tryz.f64
def Ax2:List Item:=stk [0,1,4,5] Dk4
theorem Dl8 :
 xQ Bw5 C R P1 Tryz.f64 Dk4 [(0,.agg ⟨p⟩)] h =
 nw (.cells B2 false p) h fun b w=>nw (.cells B2 false zZ1) w fun p1 w1=>R P1 Ax2 [(1,pP b),(2,pP p1),(3,.slice none 0 0)] w1:=kR
theorem Ax3 (p:Addr) (q:Addr) (caught:Option Addr) (caughtn caughtc:Nat) :
 xQ Bw5 C R P1 Tryz.f64 Ax2 [(1,.pointer (some p)),(2,.pointer (some q)),(3,.slice caught caughtn caughtc)] h =
 gAgg p 16 h fun x=>bnd (C As6 [.agg ⟨x⟩] h) fun r w=>as2 r fun q1 q2=>aInt .i64 q1 fun z1=>aInt .i64 q2 fun z2=>cond (z2==0)
 (gAgg p 16 w fun z3=>ck (List.length z3=16) (pAgg q z3 w fun w1=>gAgg q 16 w1 fun z4=>some (.tuple ⟨[.agg ⟨z4⟩,.slice caught caughtn caughtc,iI 0]⟩,w1)))
 (gInt .i64 (add p 4) w fun z5=>ck ((0:Int)≤(wrap .u64 (z1))) (pV (add p 4) (iI (J7 .i64 z5 (wrap .i64 (1*2 ^ (min (Int.toNat (wrap .u64 (z1))) 64))))) w fun w2=>cond (z2==2)
 (nw (.cells B3 false [iI z1]) w2 fun b w3=>gCells (some ⟨b,0,none⟩) (1*1) w3 fun cs=>ckB (fitsOpen caught B3 w3) (apd B3 1 caught caughtn caughtc 1 cs w3 fun a an ac w4=>R P1 Ax2 [(1,.pointer (some p)),(2,.pointer (some q)),(3,.slice a an ac)] w4))
 (cond (z2==3)
 (pV (add p 0) (iI 3) w2 fun w5=>R P1 Ax2 [(1,.pointer (some p)),(2,.pointer (some q)),(3,.slice caught caughtn caughtc)] w5)
 (cond (z2==4)
 (gAgg p 16 w2 fun z6=>ck (List.length z6=16) (pAgg q z6 w2 fun w6=>gAgg q 16 w6 fun z7=>some (.tuple ⟨[.agg ⟨z7⟩,.slice caught caughtn caughtc,iI z1]⟩,w6)))
 (R P1 Ax2 [(1,.pointer (some p)),(2,.pointer (some q)),(3,.slice caught caughtn caughtc)] w2))))):=kR
def Dl6:Cuts:=⟨2,[],[],[]⟩
def Ep8:List Item:=A5 Tryz.f70
theorem G55 :
 xQ Dl6 C R Aq4 Tryz.f70 Ep8 [(0,.slice b bn bc)] h =
 bnd (C S8 [.slice b bn bc,.func (.func Ai5) ⟨[]⟩ ⟨[]⟩] h) fun r w=>aBool r fun x=>some (.bool (!x),w):=kR
def Dl2:Cuts:=⟨2,[],[],[]⟩
def Eo2:List Item:=A5 Tryz.f71
theorem G59 :
 xQ Dl2 C R Bf5 Tryz.f71 Eo2 [] h =
 bnd (C As8 [iI 24,.func (.func P6) ⟨[]⟩ ⟨[]⟩,.func (.func Aa2) ⟨[]⟩ ⟨[]⟩] h) fun r w=>aPtr r fun x=>some (.pointer x,w):=kR
def Dr4:Cuts:=⟨2,[(3,[0,3,4])],[],[]⟩
def En6:List Item:=A5 Tryz.f76
def Bx0:List Item:=stk [0,1,0,1,0,0,1,4,5] En6
theorem H38 (b:ByteArray) :
 xQ Dr4 C R Ah2 Tryz.f76 En6 [(0,.string b)] h =
 R Ah2 Bx0 [(0,.string b),(3,iI ((ByteArray.size b:Nat):Int)),(4,iI 0)] h:=kR
theorem Ep0 (b:ByteArray) :
 xQ Dr4 C R Ah2 Tryz.f76 Bx0 [(0,.string b),(3,iI n),(4,iI i)] h =
 cond (decide (i<((ByteArray.size b:Nat):Int)))
 (ck ((0:Int)≤i∧i<((ByteArray.size b:Nat):Int)) (R Ah2 Bx0 [(0,.string b),(3,iI (wrap .i64 (n+(wrap .i64 (((List.getD (ByteArray.data b).toList (Int.toNat i) 0).toNat:Int)))))),(4,iI (wrap .i64 (i+1)))] h))
 (some (.int .u8 (wrap .u8 (n)),h)):=kR
def Bs4:Cuts:=⟨2,[],[],[(4,⟨[0,1,2,3,4,5,6,7,8,9,10,11,12,13,14,15,16],[0,1,3,7,0,0,32,0,128,0,512,2047,4095,8191,8191,16383,65535],[],[]⟩),(6,⟨[0,1,2,3,4,5,6,7,8,9,10,11,12],[0,1,3,7,0,0,32,0,128,0,512,2047,4095],[],[]⟩),(8,⟨[0,1,2,3,4,5,6,7,8,9,10,11,12,13,14,15,16],[0,1,3,7,0,0,32,0,128,0,512,0,2048,0,8192,32767,65535],[],[]⟩)]⟩
def Dn0:List Item:=A5 Tryz.f77
theorem E85 (c:List Value) :
 xQ Bs4 C R A63 Tryz.f77 Dn0 [(0,.pointer k),(1,iI env),(2,.agg ⟨c⟩)] h =
 nw (.cells A29 false c) h fun b w=>gInt .i64 ⟨b,0,none⟩ w fun x=>cond (x==1)
 (aSome k fun p=>gPtr (add p 5) w fun z1=>gInt .i64 ⟨b,1,none⟩ w fun z2=>gInt .i64 ⟨b,2,none⟩ w fun z3=>gInt .i64 ⟨b,3,none⟩ w fun z4=>bnd (C Ae6 [.pointer z1,iI env,iI z2,iI z3,iI z4] w) fun r w1=>as2 r fun q1 q2=>aSl q1 fun z5 xn xc=>aInt .i64 q2 fun z6=>some (.tuple ⟨[.slice z5 xn xc,iI z6,.bool true]⟩,w1))
 (cond (x==2)
 (aSome k fun p_1=>gPtr (add p_1 5) w fun z7=>gInt .i64 ⟨b,1,none⟩ w fun z8=>gInt .i64 ⟨b,2,none⟩ w fun z9=>gSl ⟨b,6,none⟩ w fun z10 xn_1 xc_1=>bnd (C Ad3 [.pointer z7,iI env,iI z8,iI z9,.slice z10 xn_1 xc_1] w) fun q3 w2=>aInt .i64 q3 fun z11=>some (.tuple ⟨[.slice none 0 0,iI z11,.bool true]⟩,w2))
 (cond (x==3)
 (aSome k fun p_2=>gPtr (add p_2 5) w fun z12=>gInt .i64 ⟨b,1,none⟩ w fun z13=>gInt .i64 ⟨b,2,none⟩ w fun z14=>gInt .i64 ⟨b,4,none⟩ w fun z15=>gInt .i64 ⟨b,5,none⟩ w fun z16=>gInt .i64 ⟨b,3,none⟩ w fun z17=>bnd (C Ao7 [.pointer z12,iI env,iI z13,iI z14,iI z15,iI z16,iI z17] w) fun q4 w3=>aInt .i64 q4 fun z18=>some (.tuple ⟨[.slice none 0 0,iI z18,.bool true]⟩,w3))
 (some (.tuple ⟨[.slice none 0 0,iI 0,.bool false]⟩,w)))):=kR
def Da9:Cuts:=⟨2,[],[],[]⟩
def Ee3:List Item:=A5 Tryz.f93
theorem Gw7 :
 xQ Da9 C R A89 Tryz.f93 Ee3 [(0,iI i)] h =
 nw (.cells E0 false [iI 0,iI 0]) h fun b w=>pAgg ⟨b,0,none⟩ [iI 2,iI i] w fun w1=>gAgg ⟨b,0,none⟩ 2 w1 fun x=>some (.agg ⟨x⟩,w1):=kR
def Dc3:Cuts:=⟨2,[],[],[]⟩
def Ed0:List Item:=A5 Tryz.f94
theorem Gq8 :
 xQ Dc3 C R Aw3 Tryz.f94 Ed0 [(0,.slice b bn bc)] h =
 nw (.cells N1 false [iI 0,iI 0,iI 0,iI 0]) h fun p1 w=>bnd (cond ((bn:Int)==8) (bnd (C Aq4 [.slice b bn bc] w) fun r w1=>aBool r fun x=>some (x,w1)) (some (false,w))) fun c w2=>cond c
 (pAgg ⟨p1,0,none⟩ [iI 0,iI 0,iI 0,iI 0] w2 fun w3=>gAgg ⟨p1,0,none⟩ 4 w3 fun z1=>some (.tuple ⟨[.agg ⟨z1⟩,iI 0]⟩,w3))
 (bnd (C Bf7 [] w2) fun q1 w4=>aPtr q1 fun z2=>bnd (C Y9 [.pointer z2,.slice b bn bc] w4) fun q2 w5=>as2 q2 fun q3 q4=>aAgg q3 fun z3=>aBool q4 fun z4=>nw (.cells N1 false [iI 0,iI 0,iI 0,iI 0]) w5 fun p2 w6=>ck (List.length z3=4) (pAgg ⟨p2,0,none⟩ z3 w6 fun w7=>cond (!z4)
 (pAgg ⟨p1,0,none⟩ [iI 0,iI 0,iI 0,iI 0] w7 fun w8=>gAgg ⟨p1,0,none⟩ 4 w8 fun z5=>some (.tuple ⟨[.agg ⟨z5⟩,iI 2]⟩,w8))
 (gAgg ⟨p2,0,none⟩ 4 w7 fun z6=>ck (List.length z6=4) (pAgg ⟨p1,0,none⟩ z6 w7 fun w9=>gAgg ⟨p1,0,none⟩ 4 w9 fun z7=>some (.tuple ⟨[.agg ⟨z7⟩,iI 1]⟩,w9))))):=kR
def Dk8:Cuts:=⟨2,[],[],[]⟩
def Eq2:List Item:=A5 Tryz.f97
theorem G60 :
 xQ Dk8 C R Ap9 Tryz.f97 Eq2 [(0,.slice b bn bc)] h =
 nw (.cells O3 false zZ2) h fun p1 w=>bnd (cond ((bn:Int)==40) (bnd (C Aq4 [.slice b bn bc] w) fun r w1=>aBool r fun x=>some (x,w1)) (some (false,w))) fun c w2=>cond c
 (pAgg ⟨p1,0,none⟩ zZ2 w2 fun w3=>gAgg ⟨p1,0,none⟩ 36 w3 fun z1=>some (.tuple ⟨[.agg ⟨z1⟩,iI 0]⟩,w3))
 (bnd (C Bm7 [] w2) fun q1 w4=>aPtr q1 fun z2=>bnd (C Z0 [.pointer z2,.slice b bn bc] w4) fun q2 w5=>as2 q2 fun q3 q4=>aAgg q3 fun z3=>aBool q4 fun z4=>nw (.cells O3 false zZ2) w5 fun p2 w6=>ck (List.length z3=36) (pAgg ⟨p2,0,none⟩ z3 w6 fun w7=>cond (!z4)
 (pAgg ⟨p1,0,none⟩ zZ2 w7 fun w8=>gAgg ⟨p1,0,none⟩ 36 w8 fun z5=>some (.tuple ⟨[.agg ⟨z5⟩,iI 2]⟩,w8))
 (gAgg ⟨p2,0,none⟩ 36 w7 fun z6=>ck (List.length z6=36) (pAgg ⟨p1,0,none⟩ z6 w7 fun w9=>gAgg ⟨p1,0,none⟩ 36 w9 fun z7=>some (.tuple ⟨[.agg ⟨z7⟩,iI 1]⟩,w9))))):=kR
def D51:Cuts:=⟨2,[],[(13,[0,1,6,7,8,9])],[]⟩
def D90:List Item:=A5 Tryz.f108
def Dc0:List Item:=stk [0,1,0,1,0,1,0,1,0,4,0] D90
theorem D96 (s:List Value) :
 xQ D51 C R V9 Tryz.f108 D90 [(0,.pointer c),(1,iI i),(2,.agg ⟨s⟩)] h =
 nw (.cells Di8 false s) h fun b w=>nw (.cells An3 false [iI 0,iI 0,.slice none 0 0,.bool false]) w fun p1 w1=>bnd (C Bg7 [.pointer c,iI i] w1) fun r w2=>as2 r fun q1 q2=>aAgg q1 fun x=>aInt .i64 q2 fun z1=>nw (.cells B2 false zZ1) w2 fun p2 w3=>ck (List.length x=16) (pAgg ⟨p2,0,none⟩ x w3 fun w4=>cond (z1 != 0)
 (R V9 Dc0 [(0,.pointer c),(1,iI i),(6,pP p1),(7,pP p2),(8,iI z1),(9,iI 0)] w4)
 (gInt .i64 ⟨b,0,none⟩ w4 fun z2=>cond (z2==1)
 (pAgg ⟨p1,0,none⟩ [iI i,iI 0,.slice none 0 0,.bool false] w4 fun w5=>gAgg ⟨p1,0,none⟩ 4 w5 fun z3=>some (.agg ⟨z3⟩,w5))
 (gInt .i64 ⟨b,0,none⟩ w4 fun z4=>cond (z4==17)
 (gInt .i64 ⟨p2,1,none⟩ w4 fun z5=>pAgg ⟨p1,0,none⟩ [iI (wrap .i64 (z5-1)),iI 0,.slice none 0 0,.bool false] w4 fun w6=>gAgg ⟨p1,0,none⟩ 4 w6 fun z6=>some (.agg ⟨z6⟩,w6))
 (gInt .i64 ⟨b,0,none⟩ w4 fun z7=>cond (z7==18)
 (gInt .i64 ⟨p2,2,none⟩ w4 fun z8=>pAgg ⟨p1,0,none⟩ [iI z8,iI 0,.slice none 0 0,.bool false] w4 fun w7=>gAgg ⟨p1,0,none⟩ 4 w7 fun z9=>some (.agg ⟨z9⟩,w7))
 (gInt .i64 ⟨b,0,none⟩ w4 fun z10=>cond (z10==6)
 (gAgg ⟨p2,0,none⟩ 16 w4 fun z11=>gInt .i64 ⟨b,1,none⟩ w4 fun z12=>bnd (C Hy4 [.agg ⟨z11⟩,iI z12] w4) fun q3 w8=>as3 q3 fun q4 q5 q6=>aAgg q4 fun z13=>aInt .i64 q5 fun z14=>aInt .i64 q6 fun z15=>ck (List.length z13=16) (pAgg ⟨p2,0,none⟩ z13 w8 fun w9=>R V9 Dc0 [(0,.pointer c),(1,iI i),(6,pP p1),(7,pP p2),(8,iI z15),(9,iI z14)] w9))
 (gAgg ⟨p2,0,none⟩ 16 w4 fun z16=>gInt .i64 ⟨b,1,none⟩ w4 fun z17=>gInt .i64 ⟨b,2,none⟩ w4 fun z18=>bnd (C G96 [.agg ⟨z16⟩,iI z17,iI z18] w4) fun q7 w10=>as2 q7 fun q8 q9=>aAgg q8 fun z19=>aInt .i64 q9 fun z20=>ck (List.length z19=16) (pAgg ⟨p2,0,none⟩ z19 w10 fun w11=>R V9 Dc0 [(0,.pointer c),(1,iI i),(6,pP p1),(7,pP p2),(8,iI z20),(9,iI 0)] w11))))))):=kR
def Az8:Cuts:=⟨2,[],[],[(2,⟨[0,1,2,3,4,5,6,7,8,9,10,11,12,13,14],[0,1,3,7,15,31,63,127,255,511,1023,127,4095,8191,16383],[],[]⟩),(4,⟨[0,1,2,3,4,5,6,7,8,9,10,11,12,13,14,15,16,17],[0,1,3,7,0,16,48,112,0,256,0,1024,0,7936,16383,32767,65535,131071],[],[]⟩)]⟩
def Bq4:List Item:=A5 Tryz.f117
theorem D01 (r:List Value) :
 xQ Az8 C R S9 Tryz.f117 Bq4 [(0,.pointer c),(1,.agg ⟨r⟩),(2,.slice b bn bc),(3,.bool ok)] h =
 nw (.cells E0 false r) h fun p1 w=>gAgg ⟨p1,0,none⟩ 2 w fun x=>bnd (C Ab0 [.pointer c,.agg ⟨x⟩] w) fun q1 w1=>as2 q1 fun q2 q3=>aAgg q2 fun z1=>aBool q3 fun z2=>nw (.cells B61 false [iI 0,iI 0,iI 0]) w1 fun p2 w2=>ck (List.length z1=3) (pAgg ⟨p2,0,none⟩ z1 w2 fun w3=>bnd (cond (!z2) (some (true,w3)) (some (!ok,w3))) fun c_1 w4=>bnd (cond c_1 (some (true,w4)) (aSome c fun p=>gMap (add p 3) w4 fun z3=>gAgg ⟨p1,0,none⟩ 2 w4 fun z4=>keyN PR E0 (.agg ⟨z4⟩) (opt z3 fun q4=>mapAt w4 q4 fun es _=>opt (Ap6 (iI 0) (.agg ⟨z4⟩) es) fun f=>aInt .i64 f.1 fun z5=>some (decide (z5>0),w4)))) fun c_2 w5=>cond c_2
 (some (.bool false,w5))
 (aSome c fun p_1=>gPtr (add p_1 0) w5 fun z6=>aSome c fun p_2=>gInt .i64 (add p_2 1) w5 fun z7=>gInt .i64 ⟨p2,0,none⟩ w5 fun z8=>gInt .i64 ⟨p2,1,none⟩ w5 fun z9=>bnd (C M7 [.pointer z6,iI z7,.agg ⟨[iI 2,iI z8,iI z9,iI 0,iI 0,iI 0,.slice b bn bc]⟩] w5) fun q5 w6=>aAgg q5 fun z10=>nth z10 0 fun E=>aInt .i64 E fun E_1=>some (.bool (E_1==0),w6))):=kR
def B88:Cuts:=⟨2,[],[],[]⟩
def D38:List Item:=A5 Tryz.f128
theorem Gq4 (c:Int) :
 xQ B88 C R Ai5 Tryz.f128 D38 [(0,.int .u8 c)] h =
 some (.bool (c != 0),h):=kR
def Eg9:Cuts:=⟨2,[],[],[]⟩
def Gi5:List Item:=A5 Tryz.f138
theorem Hz0 :
 xQ Eg9 C R Dr2 Tryz.f138 Gi5 [(0,iI lease)] h =
 nw (.cells Ga1 false [iI (mm2 false (mm2 true lease 1) 1000),.bool false,iI 0,iI 0,iI 0,.slice none 0 0,iI 0,iI 0,iI 0]) h fun b w=>some (pP b,w):=kR
def Ay8:Cuts:=⟨2,[(3,[5,20,21,22])],[],[(2,⟨[0,1,2,3,4,5,6,7,8,9,10,11,12,13,14],[0,1,3,7,0,16,0,64,192,448,960,2032,4095,8191,0],[],[]⟩)]⟩
def Bh4:List Item:=A5 Tryz.f140
def Am6:List Item:=stk [0,1,0,1,0,0,1,4,5] Bh4
theorem Er8 (s:Int) :
 xQ Ay8 C R Q6 Tryz.f140 Bh4 [(0,.pointer q),(1,iI s)] h =
 aSome q fun p=>gSl (add p 0) h fun x _ xc=>aSome q fun p_1=>gSl (add p_1 0) h fun _ xn_1 _=>ckB (fitsOpen x U5 h) (ck ((0:Int)≤mm2 false (mm2 true s 0) (xn_1:Int)∧mm2 false (mm2 true s 0) (xn_1:Int)≤(xc:Int)) (R Q6 Am6 [(5,iI 0),(20,.slice (L5 x (decide (0<xc)) (0*1)) ((Int.toNat (mm2 false (mm2 true s 0) (xn_1:Int)))-0) (xc-0)),(21,iI (((Int.toNat (mm2 false (mm2 true s 0) (xn_1:Int)))-0:Nat):Int)),(22,iI 0)] h)):=kR
theorem Bu9 (x20:Option Addr) (x20n x20c:Nat) (x21:Int) (x22:Int) :
 xQ Ay8 C R Q6 Tryz.f140 Am6 [(5,iI n),(20,.slice x20 x20n x20c),(21,iI x21),(22,iI x22)] h =
 cond (decide (x22<x21))
 (aSome x20 fun p=>ck ((0:Int)≤x22∧x22<(x20n:Int)) (gSl (add (B1 p) (Int.toNat x22*1)) h fun _ xn _=>R Q6 Am6 [(5,iI (wrap .i64 (n+(xn:Int)))),(20,.slice x20 x20n x20c),(21,iI x21),(22,iI (wrap .i64 (x22+1)))] h))
 (some (iI n,h)):=kR
def Dd8:Cuts:=⟨2,[],[],[]⟩
def Ec5:List Item:=A5 Tryz.f146
theorem Gr7 :
 xQ Dd8 C R Bn9 Tryz.f146 Ec5 [(0,iI lease)] h =
 nw (.cells E90 false [iI (mm2 false (mm2 true lease 1) 1000),iI 0,iI 0,iI 0,iI 0,iI 0,.bool false,iI 0,.slice none 0 0]) h fun b w=>some (pP b,w):=kR
def Bx7:Cuts:=⟨2,[],[],[]⟩
def Dv8:List Item:=A5 Tryz.f149
theorem Ge8 (c:List Value) :
 xQ Bx7 C R Bc6 Tryz.f149 Dv8 [(0,.pointer s),(1,iI e),(2,.agg ⟨c⟩)] h =
 nw (.cells Q8 false c) h fun b w=>bnd (C Am3 [.pointer s,iI e] w) fun r w1=>aBool r fun x=>bnd (cond (!x) (some (true,w1)) (gInt .i64 ⟨b,1,none⟩ w1 fun z1=>some (decide (z1<0),w1))) fun c_1 w2=>bnd (cond c_1 (some (true,w2)) (gInt .i64 ⟨b,1,none⟩ w2 fun z2=>some (decide (z2>7),w2))) fun c_2 w3=>bnd (cond c_2 (some (true,w3)) (gInt .i64 ⟨b,2,none⟩ w3 fun z3=>some (decide (z3<0),w3))) fun c_3 w4=>bnd (cond c_3 (some (true,w4)) (gInt .i64 ⟨b,2,none⟩ w4 fun z4=>some (decide (z4>65536),w4))) fun c_4 w5=>bnd (cond c_4 (some (true,w5)) (gInt .i64 ⟨b,3,none⟩ w5 fun z5=>some (decide (z5<0),w5))) fun c_5 w6=>bnd (cond c_5 (some (true,w6)) (gInt .i64 ⟨b,3,none⟩ w6 fun z6=>some (decide (z6>65536),w6))) fun c_6 w7=>cond c_6
 (some (.tuple ⟨[iI 0,iI 1]⟩,w7))
 (pAgg ⟨b,4,none⟩ [iI 0,iI 0] w7 fun w8=>gAgg ⟨b,0,none⟩ 6 w8 fun z7=>bnd (C Be0 [.pointer s,iI e,.agg ⟨z7⟩] w8) fun q1 w9=>as2 q1 fun q2 q3=>aInt .i64 q2 fun z8=>aInt .i64 q3 fun z9=>some (.tuple ⟨[iI z8,iI z9]⟩,w9)):=kR
def A52:Cuts:=⟨2,[],[],[]⟩
def Bu3:List Item:=A5 Tryz.f151
theorem D52 :
 xQ A52 C R Ad3 Tryz.f151 Bu3 [(0,.pointer r),(1,iI env),(2,iI name),(3,iI atv),(4,.slice b bn bc)] h =
 bnd (C Ac4 [.pointer r,iI env,iI name,iI 2,iI atv,iI (bn:Int)] h) fun q1 w=>as2 q1 fun q2 q3=>aInt .i64 q2 fun x=>aInt .i64 q3 fun z1=>cond (z1 != 0)
 (some (iI z1,w))
 (aSome r fun p=>gPtr (add p 0) w fun z2=>bnd (C Bj3 [.pointer z2,iI x,.slice b bn bc] w) fun q4 w1=>aInt .i64 q4 fun z3=>some (iI z3,w1)):=kR
def Bk5:Cuts:=⟨2,[],[],[]⟩
def Dh3:List Item:=A5 Tryz.f153
theorem Ew1 (give:Int) :
 xQ Bk5 C R A08 Tryz.f153 Dh3 [(0,.pointer s),(1,iI env),(2,iI name),(3,iI to),(4,iI give),(5,iI lo),(6,iI n)] h =
 bnd (C Ay2 [.pointer s,iI env,iI name] h) fun r w=>as2 r fun q1 q2=>aAgg q1 fun x=>aInt .i64 q2 fun z1=>nw (.cells Q8 false [iI 0,iI 0,iI 0,iI 0,iI 0,iI 0]) w fun b w1=>ck (List.length x=6) (pAgg ⟨b,0,none⟩ x w1 fun w2=>cond (z1 != 0)
 (some (.tuple ⟨[iI 0,iI z1]⟩,w2))
 (gInt .i64 ⟨b,1,none⟩ w2 fun z2=>bnd (cond ((D2 .i64 z2 4)==0) (some (true,w2)) (gInt .i64 ⟨b,1,none⟩ w2 fun z3=>some ((J7 .i64 give z3) != 0,w2))) fun c w3=>cond c
 (some (.tuple ⟨[iI 0,iI 3]⟩,w3))
 (bnd (C Ai0 [.pointer s,iI to] w3) fun q3 w4=>aBool q3 fun z4=>bnd (cond (!z4) (some (true,w4)) (some (decide (lo<0),w4))) fun c_1 w5=>bnd (cond c_1 (some (true,w5)) (some (decide (n<0),w5))) fun c_2 w6=>bnd (cond c_2 (some (true,w6)) (gInt .i64 ⟨b,3,none⟩ w6 fun z5=>some (decide (lo>z5),w6))) fun c_3 w7=>bnd (cond c_3 (some (true,w7)) (gInt .i64 ⟨b,3,none⟩ w7 fun z6=>some (decide (n>(wrap .i64 (z6-lo))),w7))) fun c_4 w8=>cond c_4
 (some (.tuple ⟨[iI 0,iI 1]⟩,w8))
 (gInt .i64 ⟨b,0,none⟩ w8 fun z7=>gInt .i64 ⟨b,2,none⟩ w8 fun z8=>bnd (C Ay1 [.pointer s,iI to,.agg ⟨[iI z7,iI give,iI (wrap .i64 (z8+lo)),iI n,iI env,iI name]⟩] w8) fun q4 w9=>as2 q4 fun q5 q6=>aInt .i64 q5 fun z9=>aInt .i64 q6 fun z10=>some (.tuple ⟨[iI z9,iI z10]⟩,w9))))):=kR
def Be6:Cuts:=⟨2,[],[],[(6,⟨[0,1,2,3,4,5,6,7,8,9,10,11,12,13,14,15,16,17,18,19,20,21],[0,0,0,4,15,31,63,127,255,511,1023,2047,4095,8191,4095,20479,53247,118783,249855,524287,1048575,2097151],[],[]⟩),(8,⟨[0,1,2,3,4,5,6,7,8,9,10,11,12,13,14,15,16,17,18,19,20,21,22,23,24,25,26,27,28,29,30],[0,1,0,0,8,24,56,0,128,504,1016,2047,4095,8191,16383,32767,16383,131071,16383,16383,540671,1589247,3686399,16383,8404991,33046527,66600959,134217727,268435455,536870911,1073741823],[],[]⟩),(10,⟨[0,1,2,3,4,5,6,7,8,9,10,11,12,13,14],[0,1,3,7,0,16,63,127,0,256,1023,0,4095,8191,16383],[],[]⟩)]⟩
def B46:List Item:=A5 Tryz.f159
theorem Ee9 (right:Int) :
 xQ Be6 C R Ar7 Tryz.f159 B46 [(0,.pointer r),(1,iI e),(2,iI name),(3,iI right),(4,iI atv),(5,iI n)] h =
 aSome r fun p=>gPtr (add p 3) h fun x=>bnd (C Be2 [.pointer x,iI e,iI name] h) fun q1 w=>as2 q1 fun q2 q3=>aAgg q2 fun z1=>aInt .i64 q3 fun z2=>nw (.cells Q8 false [iI 0,iI 0,iI 0,iI 0,iI 0,iI 0]) w fun b w1=>ck (List.length z1=6) (pAgg ⟨b,0,none⟩ z1 w1 fun w2=>cond (z2 != 0)
 (some (.tuple ⟨[iI 0,iI z2]⟩,w2))
 (gInt .i64 ⟨b,1,none⟩ w2 fun z3=>cond ((D2 .i64 z3 right)==0)
 (some (.tuple ⟨[iI 0,iI 3]⟩,w2))
 (gInt .i64 ⟨b,3,none⟩ w2 fun z4=>bnd (C Aj3 [iI atv,iI n,iI z4] w2) fun q4 w3=>aBool q4 fun z5=>bnd (cond (!z5) (some (true,w3)) (gInt .i64 ⟨b,0,none⟩ w3 fun z6=>some (decide (z6<0),w3))) fun c w4=>bnd (cond c (some (true,w4)) (gInt .i64 ⟨b,0,none⟩ w4 fun z7=>aSome r fun p_1=>gSl (add p_1 1) w4 fun _ xn _=>some (decide (z7≥(xn:Int)),w4))) fun c_1 w5=>cond c_1
 (some (.tuple ⟨[iI 0,iI 1]⟩,w5))
 (gInt .i64 ⟨b,2,none⟩ w5 fun z9=>aSome r fun p_2=>gSl (add p_2 2) w5 fun z10 xn_1 _=>gInt .i64 ⟨b,0,none⟩ w5 fun z11=>aSome z10 fun p_3=>ck ((0:Int)≤z11∧z11<(xn_1:Int)) (gInt .i64 (add (B1 p_3) (Int.toNat z11*1)) w5 fun z12=>bnd (C Aj3 [iI z9,iI atv,iI z12] w5) fun q5 w6=>aBool q5 fun z13=>bnd (cond (!z13) (some (true,w6)) (gInt .i64 ⟨b,2,none⟩ w6 fun z14=>aSome r fun p_4=>gSl (add p_4 2) w6 fun z15 xn_2 _=>gInt .i64 ⟨b,0,none⟩ w6 fun z16=>aSome z15 fun p_5=>ck ((0:Int)≤z16∧z16<(xn_2:Int)) (gInt .i64 (add (B1 p_5) (Int.toNat z16*1)) w6 fun z17=>bnd (C Aj3 [iI (wrap .i64 (z14+atv)),iI n,iI z17] w6) fun q6 w7=>aBool q6 fun z18=>some (!z18,w7)))) fun c_2 w8=>cond c_2
 (some (.tuple ⟨[iI 0,iI 1]⟩,w8))
 (aSome r fun p_6=>gSl (add p_6 1) w8 fun z19 xn_3 _=>gInt .i64 ⟨b,0,none⟩ w8 fun z20=>aSome z19 fun p_7=>ck ((0:Int)≤z20∧z20<(xn_3:Int)) (gInt .i64 (add (B1 p_7) (Int.toNat z20*1)) w8 fun z21=>gInt .i64 ⟨b,2,none⟩ w8 fun z22=>some (.tuple ⟨[iI (wrap .i64 ((wrap .i64 (z21+z22))+atv)),iI 0]⟩,w8)))))))):=kR
def Dk9:Cuts:=⟨2,[],[],[]⟩
def Eq0:List Item:=A5 Tryz.f162
theorem G50 :
 xQ Dk9 C R Aj3 Tryz.f162 Eq0 [(0,iI atv),(1,iI n),(2,iI size)] h =
 bnd (cond (decide (atv≥0)) (some (decide (n≥0),h)) (some (false,h))) fun c w=>bnd (cond c (some (decide (atv≤size),w)) (some (false,w))) fun c_1 w1=>bnd (cond c_1 (some (decide (n≤(wrap .i64 (size-atv))),w1)) (some (false,w1))) fun c_2 w2=>some (.bool c_2,w2):=kR
def B00:Cuts:=⟨2,[],[],[(4,⟨[0,1,2,3,4,5,6,7,8,9,10,11],[0,1,3,7,0,31,63,0,128,0,1023,2047],[],[]⟩)]⟩
def Dz0:List Item:=A5 Tryz.f163
theorem Gc8 (c:List Value) :
 xQ B00 C R Be0 Tryz.f163 Dz0 [(0,.pointer s),(1,iI e),(2,.agg ⟨c⟩)] h =
 nw (.cells Q8 false c) h fun b w=>aSome s fun p=>gSl (add p 0) w fun x xn _=>aSome x fun p_1=>ck ((0:Int)≤e∧e<(xn:Int)) (gPtr (add (B1 p_1) (Int.toNat e*1)) w fun z1=>bnd (C Z6 [.pointer z1] w) fun r w1=>as2 r fun q1 q2=>aInt .i64 q1 fun z2=>aBool q2 fun z3=>cond (!z3)
 (some (.tuple ⟨[iI 0,iI 4]⟩,w1))
 (aSome s fun p_2=>gSl (add p_2 1) w1 fun z4 xn_1 _=>aSome z4 fun p_3=>ck ((0:Int)≤e∧e<(xn_1:Int)) (gSl (add (B1 p_3) (Int.toNat e*1)) w1 fun z5 xn_2 _=>gAgg ⟨b,0,none⟩ 6 w1 fun z6=>aSome z5 fun p_4=>ck ((0:Int)≤D2 .i64 z2 255∧D2 .i64 z2 255<(xn_2:Int)) (ck (List.length z6=6) (pAgg (add (B1 p_4) (Int.toNat (D2 .i64 z2 255)*6)) z6 w1 fun w2=>some (.tuple ⟨[iI z2,iI 0]⟩,w2)))))):=kR
def Aj9:Cuts:=⟨2,[],[],[(4,⟨[0,1,2,3,4,10,5,6,7,8,9,11,12],[0,1,3,7,0,16,63,127,255,255,0,1535,4095],[(5,[3])],[]⟩)]⟩
def A58:List Item:=A5 Tryz.f174
theorem B99 :
 xQ Aj9 C R Z0 Tryz.f174 A58 [(0,.pointer c),(1,.slice b bn bc)] h =
 nw (.cells O3 false zZ2) h fun p1 w=>nw (.cells O3 false zZ2) w fun p2 w1=>aSome c fun p=>gFv (add p 2) w1 fun x=>isNilF x fun p3=>bnd (cond p3 (some (true,w1)) (aSome c fun p_1=>gInt .i64 (add p_1 0) w1 fun z1=>some ((bn:Int) != z1,w1))) fun c_1 w2=>cond c_1
 (gAgg ⟨p2,0,none⟩ 36 w2 fun z2=>ck (List.length z2=36) (pAgg ⟨p1,0,none⟩ z2 w2 fun w3=>gAgg ⟨p1,0,none⟩ 36 w3 fun z3=>some (.tuple ⟨[.agg ⟨z3⟩,.bool false]⟩,w3)))
 (aSome c fun p_2=>gFv (add p_2 2) w2 fun z4=>nw (.cells O3 false zZ2) w2 fun p4 w4=>bnd (C E3 [.slice b bn bc] w4) fun r w5=>aSl r fun z5 xn xc=>gFv (add p_2 2) w5 fun z6=>Bo9 (z4) (z6) (aFn z4 fun g fi cp=>bnd (C g (fi++([.slice z5 xn xc]++cp)) w5) fun q1 w6=>as2 q1 fun q2 q3=>aAgg q2 fun z7=>aBool q3 fun z8=>ck (List.length z7=36) (pAgg ⟨p4,0,none⟩ z7 w6 fun w7=>cond (!z8)
 (gAgg ⟨p2,0,none⟩ 36 w7 fun z9=>ck (List.length z9=36) (pAgg ⟨p1,0,none⟩ z9 w7 fun w8=>gAgg ⟨p1,0,none⟩ 36 w8 fun z10=>some (.tuple ⟨[.agg ⟨z10⟩,.bool false]⟩,w8)))
 (gAgg ⟨p4,0,none⟩ 36 w7 fun z11=>ck (List.length z11=36) (pAgg ⟨p1,0,none⟩ z11 w7 fun w9=>gAgg ⟨p1,0,none⟩ 36 w9 fun z12=>some (.tuple ⟨[.agg ⟨z12⟩,.bool true]⟩,w9)))))):=kR
def Aq3:Cuts:=⟨2,[],[],[]⟩
def Bg2:List Item:=A5 Tryz.f207
theorem Dk7 (t:Option Addr) :
 xQ Aq3 C R O9 Tryz.f207 Bg2 [(0,.pointer t),(1,iI i)] h =
 aSome t fun p=>gSl (add p 0) h fun x xn _=>aSome x fun p_1=>ck ((0:Int)≤i∧i<(xn:Int)) (gInt .i64 (add (add (B1 p_1) (Int.toNat i*8)) 6) h fun z1=>some (iI (wrap .i64 (i+(wrap .i64 (256*z1)))),h)):=kR
def Eh6:Cuts:=⟨2,[],[],[]⟩
def Go6:List Item:=A5 Tryz.f209
theorem Hy8 :
 xQ Eh6 C R Ds0 Tryz.f209 Go6 [(0,.agg ⟨p⟩)] h =
 nw (.cells B2 false p) h fun b w=>gInt .i64 ⟨b,0,none⟩ w fun x=>bnd (cond (decide (x<1)) (some (true,w)) (gInt .i64 ⟨b,0,none⟩ w fun z1=>some (decide (z1>3),w))) fun c w1=>bnd (cond c (some (true,w1)) (gInt .i64 ⟨b,1,none⟩ w1 fun z2=>some (decide (z2<0),w1))) fun c_1 w2=>bnd (cond c_1 (some (true,w2)) (gInt .i64 ⟨b,1,none⟩ w2 fun z3=>some (decide (z3>8),w2))) fun c_2 w3=>bnd (cond c_2 (some (true,w3)) (gInt .i64 ⟨b,2,none⟩ w3 fun z4=>some (decide (z4<0),w3))) fun c_3 w4=>bnd (cond c_3 (some (true,w4)) (gInt .i64 ⟨b,2,none⟩ w4 fun z5=>some (decide (z5≥8),w4))) fun c_4 w5=>bnd (cond c_4 (some (true,w5)) (gInt .i64 ⟨b,3,none⟩ w5 fun z6=>some (decide (z6<0),w5))) fun c_5 w6=>bnd (cond c_5 (some (true,w6)) (gInt .i64 ⟨b,3,none⟩ w6 fun z7=>some (decide (z7>255),w6))) fun c_6 w7=>cond c_6
 (some (.bool false,w7))
 (gInt .i64 ⟨b,4,none⟩ w7 fun z8=>bnd (C An5 [iI z8,iI 0] w7) fun r w8=>aBool r fun z9=>bnd (cond (!z9) (some (true,w8)) (gInt .i64 ⟨b,5,none⟩ w8 fun z10=>bnd (C An5 [iI z10,iI 16896] w8) fun q1 w9=>aBool q1 fun z11=>some (!z11,w9))) fun c_7 w10=>bnd (cond c_7 (some (true,w10)) (gInt .i64 ⟨b,6,none⟩ w10 fun z12=>bnd (C An5 [iI z12,iI 16896] w10) fun q2 w11=>aBool q2 fun z13=>some (!z13,w11))) fun c_8 w12=>bnd (cond c_8 (some (true,w12)) (gInt .i64 ⟨b,7,none⟩ w12 fun z14=>bnd (C An5 [iI z14,iI 16896] w12) fun q3 w13=>aBool q3 fun z15=>some (!z15,w13))) fun c_9 w14=>bnd (cond c_9 (some (true,w14)) (gInt .i64 ⟨b,6,none⟩ w14 fun z16=>gInt .i64 ⟨b,7,none⟩ w14 fun z17=>some ((D2 .i64 z16 z17) != 0,w14))) fun c_10 w15=>cond c_10
 (some (.bool false,w15))
 (ckB (liveA ⟨b,8,none⟩ w15) (bnd (C E5 [.slice (L5 (some ⟨b,8,none⟩) (decide (0<8)) (0*1)) (8-0) (8-0),.func (.func Bm4) ⟨[]⟩ ⟨[]⟩] w15) fun q4 w16=>aBool q4 fun z18=>cond z18
 (some (.bool false,w16))
 (gInt .i64 ⟨b,0,none⟩ w16 fun z19=>cond (z19==2)
 (gInt .i64 ⟨b,4,none⟩ w16 fun z20=>bnd (cond (z20==0) (gAgg ⟨b,8,none⟩ 8 w16 fun z21=>Df4 PR Gx1 z21 [iI 0,iI 0,iI 0,iI 0,iI 0,iI 0,iI 0,iI 0] fun eq=>some (eq,w16)) (some (false,w16))) fun c_11 w17=>some (.bool c_11,w17))
 (gInt .i64 ⟨b,3,none⟩ w16 fun z22=>some (.bool (z22==0),w16)))))):=kR
def Df6:Cuts:=⟨2,[(3,[3,9,10,11])],[],[]⟩
def D56:List Item:=A5 Tryz.f211
def Bp7:List Item:=stk [0,1,0,1,0,0,1,4,5] D56
theorem Hp9 :
 xQ Df6 C R Ad0 Tryz.f211 D56 [(0,.slice b bn bc)] h =
 R Ad0 Bp7 [(3,.int .u8 (wrap .u8 ((bn:Int)))),(9,.slice b bn bc),(10,iI (bn:Int)),(11,iI 0)] h:=kR
theorem Ee6 (x9:Option Addr) (x9n x9c:Nat) (x10:Int) (x11:Int) :
 xQ Df6 C R Ad0 Tryz.f211 Bp7 [(3,.int .u8 n),(9,.slice x9 x9n x9c),(10,iI x10),(11,iI x11)] h =
 cond (decide (x11<x10))
 (aSome x9 fun p=>ck ((0:Int)≤x11∧x11<(x9n:Int)) (gInt .u8 (add (B1 p) (Int.toNat x11*1)) h fun x=>R Ad0 Bp7 [(3,.int .u8 (wrap .u8 (n+x))),(9,.slice x9 x9n x9c),(10,iI x10),(11,iI (wrap .i64 (x11+1)))] h))
 (some (.int .u8 n,h)):=kR
def Ag5:Cuts:=⟨2,[],[],[]⟩
def Az3:List Item:=A5 Tryz.f215
theorem Az4 (f:Value) :
 xQ Ag5 C R E5 Tryz.f215 Az3 [(0,.slice s sn sc),(1,f)] h =
 bnd (C D7 [.slice s sn sc,f] h) fun r w=>aInt .i64 r fun x=>some (.bool (decide (x≥0)),w):=kR
def Dc7:Cuts:=⟨2,[],[],[]⟩
def Eb1:List Item:=A5 Tryz.f218
theorem Gw2 (m:Option Addr) :
 xQ Dc7 C R A82 Tryz.f218 Eb1 [(0,.pointer m)] h =
 aSome m fun p=>gSl (add p 0) h fun _ xn _=>some (iI (xn:Int),h):=kR
def By0:Cuts:=⟨2,[],[],[(1,⟨[0,1,2,3,4,5,6,7,8,9,10,11,12,13],[0,1,3,7,0,31,63,0,255,511,1023,1023,2047,8191],[],[]⟩)]⟩
def Dy3:List Item:=A5 Tryz.f220
theorem Gh8 (c:List Value) :
 xQ By0 C R Ay1 Tryz.f220 Dy3 [(0,.pointer s),(1,iI env),(2,.agg ⟨c⟩)] h =
 nw (.cells Q8 false c) h fun b w=>aSome s fun p=>gSl (add p 0) w fun x xn _=>aSome x fun p_1=>ck ((0:Int)≤env∧env<(xn:Int)) (gPtr (add (B1 p_1) (Int.toNat env*1)) w fun z1=>gAgg ⟨b,0,none⟩ 6 w fun z2=>bnd (C L1 [.pointer z1,.agg ⟨z2⟩] w) fun r w1=>as2 r fun q1 q2=>aInt .i64 q1 fun z3=>aBool q2 fun z4=>cond (!z4)
 (some (.tuple ⟨[iI 0,iI 4]⟩,w1))
 (some (.tuple ⟨[iI z3,iI 0]⟩,w1))):=kR
def Bj0:Cuts:=⟨2,[(3,[0,3,4])],[],[]⟩
def B29:List Item:=A5 Tryz.f221
def A35:List Item:=stk [0,1,0,1,0,0,1,4,5] B29
theorem Gq3 :
 xQ Bj0 C R Ab5 Tryz.f221 B29 [(0,iI size)] h =
 nw (.cells Es5 false [.slice none 0 0]) h fun b w=>R Ab5 A35 [(0,iI size),(3,pP b),(4,iI 0)] w:=kR
theorem Dh5 (n:Addr) :
 xQ Bj0 C R Ab5 Tryz.f221 A35 [(0,iI size),(3,.pointer (some n)),(4,iI i)] h =
 bnd (cond (decide (i<size)) (some (decide (i<256),h)) (some (false,h))) fun c w=>cond c
 (gSl (add n 0) w fun x xn xc=>nw (.cells Bn5 false [iI 1,.bool false]) w fun b w1=>gCells (some ⟨b,0,none⟩) (1*2) w1 fun cs=>ckB (fitsOpen x Bn5 w1) (apd Bn5 2 x xn xc 1 cs w1 fun a an ac w2=>pV (add n 0) (.slice a an ac) w2 fun w3=>R Ab5 A35 [(0,iI size),(3,.pointer (some n)),(4,iI (wrap .i64 (i+1)))] w3))
 (some (.pointer (some n),w)):=kR
def Bl5:Cuts:=⟨2,[],[],[]⟩
def Dh9:List Item:=A5 Tryz.f229
theorem Ey6 (s:Int) (k:Int) :
 xQ Bl5 C R A21 Tryz.f229 Dh9 [(0,.pointer q),(1,iI s),(2,iI k)] h =
 bnd (C Al4 [.pointer q,iI s] h) fun r w=>aBool r fun x=>bnd (cond x (some (decide (k≥0),w)) (some (false,w))) fun c w1=>bnd (cond c (aSome q fun p=>gSl (add p 0) w1 fun z1 xn _=>aSome z1 fun p_1=>ck ((0:Int)≤s∧s<(xn:Int)) (gSl (add (B1 p_1) (Int.toNat s*1)) w1 fun _ xn_1 _=>some (decide (k<(xn_1:Int)),w1))) (some (false,w1))) fun c_1 w2=>bnd (cond c_1 (aSome q fun p_2=>gSl (add p_2 0) w2 fun z3 xn_2 _=>aSome z3 fun p_3=>ck ((0:Int)≤s∧s<(xn_2:Int)) (gSl (add (B1 p_3) (Int.toNat s*1)) w2 fun z4 xn_3 _=>aSome z4 fun p_4=>ck ((0:Int)≤k∧k<(xn_3:Int)) (gInt .i64 (add (B1 p_4) (Int.toNat k*1)) w2 fun z5=>some (decide (z5>0),w2)))) (some (false,w2))) fun c_2 w3=>some (.bool c_2,w3):=kR
def By1:Cuts:=⟨2,[],[],[(1,⟨[0,1,2,3,4,5,6,7,8,9,10,11,12,13,14,15,16,17,18,19,20,21,22,23,24,25,26,27,28],[0,1,3,7,7,23,55,119,247,511,1023,2047,4095,8191,16383,32767,4095,131071,262143,4095,528383,1576959,3674111,4095,16257023,33034239,67108863,134217727,268435455],[],[]⟩)]⟩
def Dt1:List Item:=A5 Tryz.f230
theorem Gh5 :
 xQ By1 C R Aw8 Tryz.f230 Dt1 [(0,.pointer k),(1,iI env),(2,iI n)] h =
 bnd (cond (decide (n<0)) (some (true,h)) (aSome k fun p=>gSl (add p 6) h fun _ xn _=>some (decide (n≥(xn:Int)),h))) fun c w=>bnd (cond c (some (true,w)) (aSome k fun p_1=>gSl (add p_1 1) w fun z1 xn_1 _=>aSome z1 fun p_2=>ck ((0:Int)≤n∧n<(xn_1:Int)) (gSl (add (B1 p_2) (Int.toNat n*1)) w fun z2 xn_2 xc_2=>aSome k fun p_3=>gSl (add p_3 0) w fun z3 xn_3 _=>aSome z3 fun p_4=>ck ((0:Int)≤env∧env<(xn_3:Int)) (gInt .i64 (add (B1 p_4) (Int.toNat env*1)) w fun z4=>bnd (C O5 [.slice z2 xn_2 xc_2,iI z4] w) fun r w1=>aBool r fun z5=>some (!z5,w1))))) fun c_1 w2=>cond c_1
 (some (.tuple ⟨[.pointer none,iI 8]⟩,w2))
 (aSome k fun p_5=>gSl (add p_5 6) w2 fun z6 xn_4 _=>aSome z6 fun p_6=>ck ((0:Int)≤n∧n<(xn_4:Int)) (gPtr (add (B1 p_6) (Int.toNat n*1)) w2 fun z7=>some (.tuple ⟨[.pointer z7,iI 0]⟩,w2))):=kR
def D87:Cuts:=⟨2,[],[],[(1,⟨[0,1,2,3,4,5,6,7,8,9,10,11,12,13,14,15,16,17,18],[0,1,3,7,0,16,48,112,0,256,768,1792,0,4096,12288,28672,65535,0,262143],[],[]⟩),(3,⟨[0,1,2,3,4,5,6,7,8],[0,0,2,6,6,30,62,63,255],[(5,[0])],[]⟩)]⟩
def Gb5:List Item:=A5 Tryz.f239
theorem Ht4 :
 xQ D87 C R Au6 Tryz.f239 Gb5 [(0,.slice b bn bc)] h =
 nw (.cells N1 false [iI 0,iI 0,iI 0,iI 0]) h fun p1 w=>aSome b fun p=>ck ((0:Int)≤0∧0<(bn:Int)) (gInt .u8 (add (B1 p) (Int.toNat 0*1)) w fun x=>aSome b fun p_1=>ck ((0:Int)≤1∧1<(bn:Int)) (gInt .u8 (add (B1 p_1) (Int.toNat 1*1)) w fun z1=>aSome b fun p_2=>ck ((0:Int)≤2∧2<(bn:Int)) (gInt .u8 (add (B1 p_2) (Int.toNat 2*1)) w fun z2=>aSome b fun p_3=>ck ((0:Int)≤3∧3<(bn:Int)) (gInt .u8 (add (B1 p_3) (Int.toNat 3*1)) w fun z3=>nw (.cells N1 false [iI 0,iI 0,iI 0,iI 0]) w fun p2 w1=>pAgg ⟨p2,0,none⟩ [iI (wrap .i64 (x)),iI (wrap .i64 (z1)),iI (wrap .i64 (z2)),iI (wrap .i64 (z3))] w1 fun w2=>gAgg ⟨p2,0,none⟩ 4 w2 fun z4=>bnd (C A91 [.agg ⟨z4⟩] w2) fun r w3=>as2 r fun q1 q2=>aSl q1 fun z5 xn xc=>aBool q2 fun z6=>gAgg ⟨p2,0,none⟩ 4 w3 fun z7=>bnd (cond z6 (bnd (C D1 [.slice z5 xn xc,.slice b bn bc] w3) fun q3 w4=>aBool q3 fun z8=>gAgg ⟨p2,0,none⟩ 4 w4 fun z9=>same (.agg ⟨z7⟩) (.agg ⟨z9⟩) (some (z8,w4))) (some (false,w3))) fun c w5=>ck (List.length z7=4) (pAgg ⟨p1,0,none⟩ z7 w5 fun w6=>gAgg ⟨p1,0,none⟩ 4 w6 fun z10=>some (.tuple ⟨[.agg ⟨z10⟩,.bool c]⟩,w6)))))):=kR
def As0:Cuts:=⟨2,[],[],[]⟩
def Bk0:List Item:=A5 Tryz.f249
theorem Do3 (f:List Value) :
 xQ As0 C R Ag1 Tryz.f249 Bk0 [(0,.pointer c),(1,iI i),(2,.agg ⟨f⟩)] h =
 nw (.cells N1 false f) h fun b w=>gAgg ⟨b,0,none⟩ 4 w fun x=>bnd (C A91 [.agg ⟨x⟩] w) fun r w1=>as2 r fun q1 q2=>aSl q1 fun z1 xn xc=>aBool q2 fun z2=>bnd (C A89 [iI i] w1) fun q3 w2=>aAgg q3 fun z3=>bnd (C S9 [.pointer c,.agg ⟨z3⟩,.slice z1 xn xc,.bool z2] w2) fun q4 w3=>aBool q4 fun z4=>some (.bool z4,w3):=kR
def Gg9:Cuts:=⟨2,[],[],[]⟩
def He3:List Item:=A5 Tryz.f262
theorem Ik6 :
 xQ Gg9 C R Eh9 Tryz.f262 He3 [(0,iI n)] h =
 bnd (cond (decide (n≥1)) (some (decide (n≤15),h)) (some (false,h))) fun c w=>some (.bool c,w):=kR
def Ak0:Cuts:=⟨2,[],[],[(2,⟨[0,1,2,3,4,5,6,7,8,9,10,11,12,13,14],[0,1,3,7,15,31,63,127,255,511,63,63,4095,8191,16383],[],[]⟩)]⟩
def A60:List Item:=A5 Tryz.f290
theorem B90 (v:List Value) :
 xQ Ak0 C R Y7 Tryz.f290 A60 [(0,.pointer c),(1,.agg ⟨v⟩)] h =
 nw (.cells N1 false v) h fun b w=>aSome c fun p=>gInt .i64 (add p 0) w fun x=>ck ((0:Int)≤x∧(x:Int)≤x∧x≤(A8:Int)) (nw (.cells A4 false (L8 (Int.toNat x) [.int .u8 0])) w fun p1 w1=>aSome c fun p_1=>gFv (add p_1 1) w1 fun z1=>isNilF z1 fun p2=>bnd (cond p2 (some (true,w1)) (aSome c fun p_2=>gFv (add p_2 1) w1 fun z2=>gAgg ⟨b,0,none⟩ 4 w1 fun z3=>aFn z2 fun g fi cp=>bnd (C g (fi++([.agg ⟨z3⟩,.slice (some ⟨p1,0,none⟩) (Int.toNat x) (Int.toNat x)]++cp)) w1) fun r w2=>aBool r fun z4=>some (!z4,w2))) fun c_1 w3=>cond c_1
 (some (.tuple ⟨[.slice none 0 0,.bool false]⟩,w3))
 (some (.tuple ⟨[.slice (some ⟨p1,0,none⟩) (Int.toNat x) (Int.toNat x),.bool true]⟩,w3))):=kR
end
end Go.EQ
