/- One that is in and never picked again holds the others up for no longer than the lease; picked later it begins anew, and does its call once. -/
import Derived.Test.YtonlefldpebcpaaGreatDoorMc
import Derived.Test.YtonlefldpebcpaaGreatDoorProg
import Derived.KernelRfl
set_option linter.all false
namespace Go.EQ
open Go Go.NN Go.Proofs
noncomputable abbrev PR:Program:=Tryz.prog
abbrev B9:FuncId:=5
abbrev Ac3:FuncId:=7
abbrev S5:FuncId:=9
abbrev E6:FuncId:=10
abbrev A54:FuncId:=11
abbrev J9:FuncId:=13
abbrev Ah9:FuncId:=15
abbrev Bf7:FuncId:=16
abbrev E1:FuncId:=18
abbrev Aw8:FuncId:=19
abbrev An0:FuncId:=21
abbrev Bv4:FuncId:=22
abbrev A11:FuncId:=23
abbrev Bj6:FuncId:=24
abbrev D1:FuncId:=25
abbrev E9:FuncId:=26
abbrev Gq6:FuncId:=27
abbrev Av9:FuncId:=28
abbrev Ai0:FuncId:=29
abbrev Bd4:FuncId:=30
abbrev A96:FuncId:=31
abbrev Es3:FuncId:=32
abbrev A06:FuncId:=33
abbrev Ap0:FuncId:=34
abbrev N1:FuncId:=35
abbrev A94:FuncId:=36
abbrev Av0:FuncId:=37
abbrev Bm1:FuncId:=40
abbrev B55:FuncId:=41
abbrev S4:FuncId:=42
abbrev M0:FuncId:=43
abbrev Av1:FuncId:=44
abbrev Be6:FuncId:=45
abbrev V6:FuncId:=46
abbrev A62:FuncId:=47
abbrev Z2:FuncId:=48
abbrev Am3:FuncId:=49
abbrev N5:FuncId:=50
abbrev Ac9:FuncId:=51
abbrev V4:FuncId:=52
abbrev Ad0:FuncId:=53
abbrev Ak0:FuncId:=54
abbrev Bd1:FuncId:=55
abbrev Gj4:FuncId:=56
abbrev Ai1:FuncId:=57
abbrev Dq7:FuncId:=58
abbrev Ad6:FuncId:=64
abbrev Q2:FuncId:=65
abbrev Gc8:FuncId:=66
abbrev Aq0:FuncId:=67
abbrev An1:FuncId:=68
abbrev P8:FuncId:=69
abbrev Ap1:FuncId:=70
abbrev Bf4:FuncId:=71
abbrev Y7:FuncId:=72
abbrev L7:FuncId:=73
abbrev J0:FuncId:=74
abbrev G9:FuncId:=75
abbrev Ag5:FuncId:=76
abbrev A55:FuncId:=77
abbrev A19:FuncId:=78
abbrev Et0:FuncId:=79
abbrev As6:FuncId:=80
abbrev Et1:FuncId:=81
abbrev Ev5:FuncId:=82
abbrev Es5:FuncId:=83
abbrev E17:FuncId:=84
abbrev E94:FuncId:=85
abbrev D51:FuncId:=86
abbrev E78:FuncId:=87
abbrev E88:FuncId:=88
abbrev Az7:FuncId:=89
abbrev Bb4:FuncId:=90
abbrev Bd0:FuncId:=91
abbrev M9:FuncId:=92
abbrev A83:FuncId:=93
abbrev Au6:FuncId:=94
abbrev J7:FuncId:=95
abbrev A76:FuncId:=96
abbrev Ap3:FuncId:=97
abbrev U6:FuncId:=98
abbrev Ai2:FuncId:=99
abbrev I7:FuncId:=100
abbrev Z6:FuncId:=102
abbrev Bf3:FuncId:=103
abbrev Df5:FuncId:=104
abbrev Hw6:FuncId:=105
abbrev Hs4:FuncId:=106
abbrev Hd7:FuncId:=107
abbrev Ac5:FuncId:=108
abbrev Bn6:FuncId:=109
abbrev Bo8:FuncId:=110
abbrev Dv3:FuncId:=113
abbrev A80:FuncId:=116
abbrev O7:FuncId:=117
abbrev A41:FuncId:=118
abbrev A30:FuncId:=119
abbrev Df1:FuncId:=122
abbrev Ah2:FuncId:=124
abbrev G7:FuncId:=125
abbrev Ab0:FuncId:=126
abbrev U2:FuncId:=127
abbrev Ag6:FuncId:=128
abbrev As4:FuncId:=129
abbrev P9:FuncId:=130
abbrev Z8:FuncId:=131
abbrev V0:FuncId:=132
abbrev Bf0:FuncId:=133
abbrev D30:FuncId:=134
abbrev Az8:FuncId:=135
abbrev Au5:FuncId:=136
abbrev B30:FuncId:=137
abbrev Do0:FuncId:=138
abbrev Aq5:FuncId:=139
abbrev Q7:FuncId:=140
abbrev O3:FuncId:=141
abbrev Bd2:FuncId:=142
abbrev Ac0:FuncId:=143
abbrev P4:FuncId:=144
abbrev Ab6:FuncId:=145
abbrev Bo7:FuncId:=146
abbrev A24:FuncId:=147
abbrev Ba4:FuncId:=148
abbrev Bc9:FuncId:=149
abbrev Ae7:FuncId:=150
abbrev Ac4:FuncId:=151
abbrev An9:FuncId:=152
abbrev A00:FuncId:=153
abbrev Es6:FuncId:=154
abbrev Ax4:FuncId:=155
abbrev A07:FuncId:=156
abbrev A52:FuncId:=157
abbrev A56:FuncId:=158
abbrev As0:FuncId:=159
abbrev Bb9:FuncId:=160
abbrev Ak9:FuncId:=161
abbrev Ai6:FuncId:=162
abbrev Bb7:FuncId:=163
abbrev U8:FuncId:=170
abbrev Bg3:FuncId:=171
abbrev Y2:FuncId:=172
abbrev Bn4:FuncId:=173
abbrev Y4:FuncId:=174
abbrev Ar5:FuncId:=175
abbrev Do9:FuncId:=176
abbrev B53:FuncId:=177
abbrev Bv2:FuncId:=178
abbrev Hq4:FuncId:=179
abbrev If1:FuncId:=180
abbrev H61:FuncId:=181
abbrev Ic2:FuncId:=182
abbrev G71:FuncId:=183
abbrev At6:FuncId:=184
abbrev I0:FuncId:=185
abbrev H47:FuncId:=194
abbrev Hf8:FuncId:=195
abbrev Dp3:FuncId:=196
abbrev Df2:FuncId:=199
abbrev Y6:FuncId:=203
abbrev O9:FuncId:=207
abbrev G6:FuncId:=208
abbrev Dr8:FuncId:=209
abbrev Bm0:FuncId:=210
abbrev Ad4:FuncId:=211
abbrev B72:FuncId:=212
abbrev D5:FuncId:=213
abbrev I5:FuncId:=214
abbrev G2:FuncId:=215
abbrev B46:FuncId:=216
abbrev Q6:FuncId:=217
abbrev A92:FuncId:=218
abbrev Am9:FuncId:=219
abbrev Aw2:FuncId:=220
abbrev Ac2:FuncId:=221
abbrev Ac6:FuncId:=222
abbrev Bp2:FuncId:=223
abbrev Bi6:FuncId:=224
abbrev Aw0:FuncId:=225
abbrev Ak5:FuncId:=228
abbrev A18:FuncId:=229
abbrev Aw5:FuncId:=230
abbrev D0:FuncId:=231
abbrev A61:FuncId:=232
abbrev Bd5:FuncId:=233
abbrev Z3:FuncId:=234
abbrev Ar3:FuncId:=237
abbrev Au2:FuncId:=238
abbrev At5:FuncId:=239
abbrev As8:FuncId:=240
abbrev Bn7:FuncId:=241
abbrev Bp4:FuncId:=242
abbrev Bb5:FuncId:=243
abbrev De9:FuncId:=244
abbrev Z9:FuncId:=245
abbrev A88:FuncId:=246
abbrev A69:FuncId:=247
abbrev W1:FuncId:=248
abbrev Q3:FuncId:=249
abbrev Dq1:FuncId:=250
abbrev De3:FuncId:=251
abbrev S7:FuncId:=252
abbrev B29:FuncId:=253
abbrev Ay7:FuncId:=254
abbrev Df6:FuncId:=255
abbrev Gx5:FuncId:=256
abbrev A03:FuncId:=257
abbrev An5:FuncId:=269
abbrev Bk4:FuncId:=270
abbrev E2:FuncId:=271
abbrev J6:FuncId:=272
abbrev Bl0:FuncId:=273
abbrev Af5:FuncId:=274
abbrev Ah4:FuncId:=277
abbrev Dq5:FuncId:=278
abbrev A84:FuncId:=279
abbrev B11:FuncId:=280
abbrev Be5:FuncId:=281
abbrev Bg2:FuncId:=282
abbrev G55:FuncId:=283
abbrev Bi5:FuncId:=284
abbrev Ba1:FuncId:=285
abbrev An4:FuncId:=286
abbrev W4:FuncId:=287
abbrev Y5:FuncId:=290
abbrev Au1:FuncId:=291
abbrev Y3:FuncId:=292
abbrev B5:TypeId:=3
abbrev Gp8:TypeId:=4
abbrev A7:TypeId:=5
abbrev An8:TypeId:=23
abbrev Dj0:TypeId:=28
abbrev Dh3:TypeId:=30
abbrev U4:TypeId:=32
abbrev Z1:TypeId:=34
abbrev P1:TypeId:=35
abbrev R0:TypeId:=40
abbrev Gu3:TypeId:=42
abbrev D2:TypeId:=44
abbrev Al3:TypeId:=60
abbrev Au0:TypeId:=63
abbrev E5:TypeId:=72
abbrev D68:TypeId:=83
abbrev Dw2:TypeId:=85
abbrev B54:TypeId:=88
abbrev A02:TypeId:=91
abbrev D3:TypeId:=95
abbrev Dz9:TypeId:=97
abbrev D8:TypeId:=105
abbrev Ay9:TypeId:=106
abbrev Hd0:TypeId:=110
abbrev Q8:TypeId:=120
abbrev Dn2:TypeId:=134
abbrev E4:TypeId:=144
abbrev B84:TypeId:=150
abbrev Gb8:TypeId:=160
abbrev Eb8:TypeId:=168
abbrev Be4:TypeId:=173
abbrev D38:TypeId:=178
abbrev Ga9:TypeId:=186
abbrev I4:TypeId:=215
abbrev Aw3:TypeId:=218
abbrev Q9:TypeId:=223
abbrev B73:TypeId:=225
abbrev Bu2:TypeId:=233
abbrev L0:TypeId:=235
abbrev Ba0:TypeId:=262
abbrev E00:TypeId:=266
abbrev Ew2:TypeId:=269
abbrev Gc2:TypeId:=271
abbrev B13:TypeId:=307
abbrev Ao4:TypeId:=309
abbrev I14:TypeId:=313
abbrev E28:TypeId:=320
abbrev Az2:TypeId:=323
abbrev Du7:TypeId:=326
abbrev Az1:TypeId:=328
abbrev Bu4:TypeId:=330
abbrev Bk7:TypeId:=342
abbrev Ew5:TypeId:=345
abbrev Al9:TypeId:=349
abbrev Bu3:TypeId:=353
abbrev B71:TypeId:=362
abbrev Eh8:TypeId:=370
noncomputable abbrev iI (n:Int):Value:=.int .i64 n
noncomputable abbrev pP (b:Nat):Value:=.pointer (some ⟨b,0,none⟩)
noncomputable abbrev xQ (c:Cuts) (C:D7) (R:Ab9) (f:FuncId) (fn:Func) (T:List Item) (s:B8) (h:H):Option (Value × H):=W7 PR c C R f fn 100000 true T s h
theorem kR {α:Type} {a b:α} (h:a=b:=by kernel_rfl):a=b:=h
noncomputable abbrev zZ1:List Value:=[.int .i64 0,.int .i64 0,.int .i64 0,.int .i64 0,.int .i64 0,.int .i64 0,.int .i64 0,.int .i64 0,.int .i64 0,.int .i64 0,.int .i64 0,.int .i64 0,.int .i64 0,.int .i64 0,.int .i64 0,.int .i64 0]
noncomputable abbrev zZ2:List Value:=[.int .i64 0,.int .i64 0,.int .i64 0,.int .i64 0,.int .u8 0,.int .u8 0,.int .u8 0,.int .u8 0,.int .u8 0,.int .u8 0,.int .u8 0,.int .u8 0,.int .u8 0,.int .u8 0,.int .u8 0,.int .u8 0,.int .u8 0,.int .u8 0,.int .u8 0,.int .u8 0,.int .u8 0,.int .u8 0,.int .u8 0,.int .u8 0,.int .u8 0,.int .u8 0,.int .u8 0,.int .u8 0,.int .u8 0,.int .u8 0,.int .u8 0,.int .u8 0,.int .u8 0,.int .u8 0,.int .u8 0,.int .u8 0]
noncomputable abbrev zZ3:List Value:=[.int .i64 0,.int .i64 0,.int .i64 0,.int .i64 0,.int .i64 0,.int .i64 0,.int .i64 0,.int .i64 0,.int .i64 0,.int .i64 0,.int .i64 0,.int .i64 0]
end Go.EQ

set_option maxRecDepth 100000
namespace Go.EQ
open Go Go.NN Go.Proofs
open Go.IntKind (wrap)
open Go.Addr (add)
variable (C:D7) (R:Ab9) (dov fv0 hs more nonev:Addr) (h:H) (a atv e env envs f fd g i j j_1 n name now size target who x10 x12 x20 x9:Int) (p r x:List Value) (bc bn datac datan lc ln outc outn s1c s1n s2c s2n sc slicesc slicesn sn:Nat) (b c data k l m out q s s1 s2 slices t w:Option Addr) (cmp get of put:Value)
noncomputable section
def A27:Cuts:=⟨0,[],[],[]⟩
def Bu8:List Item:=A8 Tryz.f13
theorem D91 :
 xQ A27 C R J9 Tryz.f13 Bu8 [(0,.pointer c),(1,iI i)] h =
 nw (.cells D2 false zZ1) h fun b w=>bnd (C A94 [iI i] w) fun r w1=>aAgg r fun x=>bnd (C N1 [.pointer c,.agg ⟨x⟩,.func (.func Av0) ⟨[]⟩ ⟨[]⟩] w1) fun q1 w2=>as2 q1 fun q2 q3=>aAgg q2 fun z1=>aInt .i64 q3 fun z2=>ck (List.length z1=16) (pAgg ⟨b,0,none⟩ z1 w2 fun w3=>gAgg ⟨b,0,none⟩ 16 w3 fun z3=>some (.tuple ⟨[.agg ⟨z3⟩,iI z2]⟩,w3)):=kR
def B26:Cuts:=⟨0,[(9,[6,7,8,9,10,11,12])],[],[]⟩
def Dy1:List Item:=A8 Tryz.f21
def Bh8:List Item:=stk [0,1,0,1,0,1,0,1,0,1,0,1,0,1,0,0,1,4,5] Dy1
theorem Hf5 :
 xQ B26 C R An0 Tryz.f21 Dy1 [(0,.slice b bn bc)] h =
 bnd (C B55 [] h) fun r w=>aAgg r fun x=>bnd (C Bm1 [.agg ⟨x⟩] w) fun q1 w1=>as4 q1 fun q2 q3 q4 q5=>aPtr q2 fun z1=>aPtr q3 fun z2=>aPtr q4 fun z3=>aPtr q5 fun z4=>bnd (cond z2.isNone (some (true,w1)) (some ((bn:Int) != 492,w1))) fun c w2=>cond c
 (some (.tuple ⟨[.pointer none,.pointer none,.pointer none,.pointer none]⟩,w2))
 (nw (.cells A02 false [iI 0,iI 0,iI 0,iI 0,iI 0,iI 0,.slice none 0 0]) w2 fun p1 w3=>pAgg ⟨p1,0,none⟩ [iI 2,iI 256,iI 0,iI 0,iI 0,iI 0,.slice b bn bc] w3 fun w4=>bnd (C S4 [.agg ⟨[iI 0,iI 0,iI 1,iI 1,.int .u8 0,.int .u8 0,.int .u8 0,.int .u8 0,.int .u8 0,.int .u8 0,.int .u8 0,.int .u8 0,.int .u8 0,.int .u8 0,.int .u8 0,.int .u8 0,.int .u8 0,.int .u8 0,.int .u8 0,.int .u8 0,.int .u8 0,.int .u8 0,.int .u8 0,.int .u8 0,.int .u8 0,.int .u8 0,.int .u8 0,.int .u8 0,.int .u8 0,.int .u8 0,.int .u8 0,.int .u8 0,.int .u8 0,.int .u8 0,.int .u8 0,.int .u8 0]⟩] w4) fun q6 w5=>aStr q6 fun z5=>gAgg ⟨p1,0,none⟩ 7 w5 fun z6=>bnd (C M0 [.pointer z1,iI 0,.agg ⟨z6⟩] w5) fun q7 w6=>aAgg q7 fun _=>gAgg ⟨p1,0,none⟩ 7 w6 fun z8=>bnd (C Av1 [.pointer z3,iI 0,.agg ⟨z8⟩] w6) fun q8 w7=>as3 q8 fun q9 q10 q11=>aInt .i64 q9 fun _=>aInt .i64 q10 fun _=>aStr q11 fun _=>R An0 Bh8 [(6,.pointer z1),(7,.pointer z2),(8,.pointer z3),(9,.pointer z4),(10,pP p1),(11,.string z5),(12,iI 1)] w7):=kR
theorem B66 (wv:Option Addr) (x:Addr) (pipe:ByteArray) :
 xQ B26 C R An0 Tryz.f21 Bh8 [(6,.pointer k),(7,.pointer c),(8,.pointer wv),(9,.pointer m),(10,.pointer (some x)),(11,.string pipe),(12,iI i)] h =
 cond (decide (i<3))
 (ck (ByteArray.size pipe≤B1) (nw (.cells A7 false (A0 (ByteArray.data pipe).toList)) h fun b w=>pAgg x [iI 2,iI (wrap .i64 (256+i)),iI 0,iI 0,iI 0,iI 0,.slice (some (N4 b)) (ByteArray.size pipe) (ByteArray.size pipe)] w fun w1=>gAgg x 7 w1 fun z1=>bnd (C M0 [.pointer k,iI 0,.agg ⟨z1⟩] w1) fun r w2=>aAgg r fun _=>gAgg x 7 w2 fun z3=>bnd (C Av1 [.pointer wv,iI 0,.agg ⟨z3⟩] w2) fun q1 w3=>as3 q1 fun q2 q3 q4=>aInt .i64 q2 fun _=>aInt .i64 q3 fun _=>aStr q4 fun _=>R An0 Bh8 [(6,.pointer k),(7,.pointer c),(8,.pointer wv),(9,.pointer m),(10,.pointer (some x)),(11,.string pipe),(12,iI (wrap .i64 (i+1)))] w3))
 (some (.tuple ⟨[.pointer k,.pointer c,.pointer wv,.pointer m]⟩,h)):=kR
def Dj8:Cuts:=⟨0,[],[],[(5,⟨[0,1,2,3,4],[0,1,0,4,15],[(3,[1])],[]⟩)]⟩
def Er2:List Item:=A8 Tryz.f22
theorem G52 :
 xQ Dj8 C R Bv4 Tryz.f22 Er2 [] h =
 bnd (C Be6 [] h) fun r w=>aStr r fun x=>ck (ByteArray.size x≤B1) (nw (.cells A7 false (A0 (ByteArray.data x).toList)) w fun b w1=>nw (.cells D2 false zZ1) w1 fun p1 w2=>pAgg ⟨p1,0,none⟩ [iI 1,iI 0,iI 0,iI 0,iI 0,iI 0,iI 0,iI 0,iI 0,iI 0,iI 0,iI 0,iI 0,iI 0,iI 0,iI 0] w2 fun w3=>ck ((0:Int)≤0∧0<((8:Nat):Int)) (pV (add ⟨p1,8,none⟩ (Int.toNat 0*1)) (iI 1) w3 fun w4=>gAgg ⟨p1,0,none⟩ 16 w4 fun z1=>bnd (C V6 [.agg ⟨z1⟩] w4) fun q1 w5=>aStr q1 fun z2=>pCells (some (N4 b)) (A0 (List.take (min (ByteArray.size z2) (ByteArray.size x)) (ByteArray.data z2).toList)) w5 fun w6=>ckB (fitsOpen (some (N4 b)) A7 w6) (ck ((0:Int)≤192∧192≤((ByteArray.size x:Nat):Int)) (bnd (C A62 [.agg ⟨[iI 3,iI 0,iI 1,iI 0]⟩] w6) fun q2 w7=>aStr q2 fun z3=>ckB (fitsOpen (some (N4 b)) A7 w7) (ck ((0:Int)≤192∧192≤((ByteArray.size x:Nat):Int)) (same (.slice (I8 (some (N4 b)) (decide (Int.toNat 192<ByteArray.size x)) ((Int.toNat 192)*1)) ((ByteArray.size x)-(Int.toNat 192)) ((ByteArray.size x)-(Int.toNat 192))) (.slice (I8 (some (N4 b)) (decide (Int.toNat 192<ByteArray.size x)) ((Int.toNat 192)*1)) ((ByteArray.size x)-(Int.toNat 192)) ((ByteArray.size x)-(Int.toNat 192))) (pCells (I8 (some (N4 b)) (decide (Int.toNat 192<ByteArray.size x)) ((Int.toNat 192)*1)) (A0 (List.take (min (ByteArray.size z3) ((ByteArray.size x)-(Int.toNat 192))) (ByteArray.data z3).toList)) w7 fun w8=>some (.slice (some (N4 b)) (ByteArray.size x) (ByteArray.size x),w8)))))))):=kR
def B83:Cuts:=⟨0,[],[],[]⟩
def D41:List Item:=A8 Tryz.f24
theorem Gp5 (slot:Int) (sectionv:Int) :
 xQ B83 C R Bj6 Tryz.f24 D41 [(0,.pointer k),(1,iI env),(2,iI slot),(3,iI sectionv)] h =
 bnd (C Am3 [.pointer k,iI env] h) fun r w=>aPtr r fun x=>nw (.cells Hd0 false [.pointer k,.pointer x,iI env,iI slot,iI sectionv,iI 0,iI 0,iI 0,iI 0,iI 0,.slice none 0 0]) w fun b w1=>some (pP b,w1):=kR
def V3:Cuts:=⟨0,[(1,[0,5]),(6,[0,12]),(11,[0,20,21])],[],[]⟩
def Ad5:List Item:=A8 Tryz.f25
def Ag1:List Item:=stk [0,0,1,4,5] Ad5
def Ag0:List Item:=stk [0,1,0,0,1,4,5] Ad5
def Af6:List Item:=stk [0,1,0,1,0,0,1,4,5] Ad5
theorem D69 :
 xQ V3 C R D1 Tryz.f25 Ad5 [(0,.pointer c)] h =
 R D1 Ag1 [(0,.pointer c),(5,iI 0)] h:=kR
theorem Bj8 (x5:Int) :
 xQ V3 C R D1 Tryz.f25 Ag1 [(0,.pointer c),(5,iI x5)] h =
 cond (decide (x5<8))
 (bnd (C J9 [.pointer c,iI x5] h) fun r w=>as2 r fun q1 q2=>aAgg q1 fun _=>aInt .i64 q2 fun _=>R D1 Ag1 [(0,.pointer c),(5,iI (wrap .i64 (x5+1)))] w)
 (R D1 Ag0 [(0,.pointer c),(12,iI 0)] h):=kR
theorem Bi0 :
 xQ V3 C R D1 Tryz.f25 Ag0 [(0,.pointer c),(12,iI x12)] h =
 cond (decide (x12<12))
 (bnd (C N5 [.pointer c,iI x12] h) fun r w=>as2 r fun q1 q2=>aAgg q1 fun _=>aInt .i64 q2 fun _=>R D1 Ag0 [(0,.pointer c),(12,iI (wrap .i64 (x12+1)))] w)
 (bnd (C Ac9 [.pointer c,iI 3] h) fun q3 w1=>aInt .i64 q3 fun z2=>R D1 Af6 [(0,.pointer c),(20,iI z2),(21,iI 0)] w1):=kR
theorem Bj2 (x21:Int) :
 xQ V3 C R D1 Tryz.f25 Af6 [(0,.pointer c),(20,iI x20),(21,iI x21)] h =
 cond (decide (x21<x20))
 (bnd (C V4 [.pointer c,iI x21] h) fun r w=>as2 r fun q1 q2=>aAgg q1 fun _=>aInt .i64 q2 fun _=>R D1 Af6 [(0,.pointer c),(20,iI x20),(21,iI (wrap .i64 (x21+1)))] w)
 (bnd (C Ad0 [.pointer c] h) fun q3 w1=>as2 q3 fun q4 q5=>aAgg q4 fun _=>aInt .i64 q5 fun _=>bnd (C Ak0 [.pointer c] w1) fun q6 w2=>as2 q6 fun q7 q8=>aInt .i64 q7 fun _=>aBool q8 fun _=>some (.tuple ⟨[]⟩,w2)):=kR
def Bq9:Cuts:=⟨0,[],[],[(0,⟨[0,1,2,3,4,5,6,7,8,9,10,11,12,13,14,15,16,17],[0,1,3,7,0,16,48,112,0,256,768,1792,0,4096,12288,28672,65280,131071],[],[]⟩)]⟩
def Dm6:List Item:=A8 Tryz.f29
theorem E90 (phase:Int) :
 xQ Bq9 C R Ai0 Tryz.f29 Dm6 [(0,.pointer w),(1,iI phase)] h =
 aSome w fun p=>gPtr (add p 0) h fun x=>aSome w fun p_1=>gInt .i64 (add p_1 1) h fun z1=>aSome w fun p_2=>gInt .i64 (add p_2 3) h fun z2=>aSome w fun p_3=>gInt .i64 (add p_3 6) h fun z3=>bnd (C M0 [.pointer x,iI z1,.agg ⟨[iI 9,iI 0,iI z3,iI z2,iI 0,iI 0,.slice none 0 0]⟩] h) fun r w1=>aAgg r fun _=>aSome w fun p_4=>pV (add p_4 5) (iI phase) w1 fun w2=>some (.tuple ⟨[]⟩,w2):=kR
def B87:Cuts:=⟨0,[],[],[(1,⟨[0,1,2,3,4,5,6,7,12,8,9,10,11,13,14],[0,1,3,7,0,16,48,112,255,511,1023,1023,0,6143,16383],[],[]⟩),(5,⟨[0,1,2,3,4,5,6,7,8,9],[0,1,3,7,0,16,48,112,0,511],[],[]⟩),(7,⟨[0,1,2,3,4,5,6,7,8,9,10,11],[0,1,3,7,0,16,48,112,0,256,768,2047],[],[]⟩)]⟩
def D39:List Item:=A8 Tryz.f33
theorem Gm0 (o:List Value) :
 xQ B87 C R A06 Tryz.f33 D39 [(0,.pointer w),(1,.agg ⟨o⟩)] h =
 nw (.cells Z1 false o) h fun b w1=>nw (.cells Z1 false [iI 0,iI 0,iI 0,iI 0,iI 0,.slice none 0 0,iI 0,iI 0,.slice none 0 0,.bool false,.slice none 0 0,iI 0]) w1 fun p1 w2=>aSome w fun p=>gPtr (add p 4) w2 fun x=>aSome w fun p_1=>gInt .i64 (add p_1 2) w2 fun z1=>nw (.cells D2 false zZ1) w2 fun p2 w3=>bnd (C J9 [.pointer x,iI z1] w3) fun r w4=>as2 r fun q1 q2=>aAgg q1 fun z2=>aInt .i64 q2 fun z3=>ck (List.length z2=16) (pAgg ⟨p2,0,none⟩ z2 w4 fun w5=>bnd (cond (z3 != 1) (some (true,w5)) (gInt .i64 ⟨p2,0,none⟩ w5 fun z4=>some (z4 != 1,w5))) fun c w6=>cond c
 (gAgg ⟨b,0,none⟩ 12 w6 fun z5=>ck (List.length z5=12) (pAgg ⟨p1,0,none⟩ z5 w6 fun w7=>gAgg ⟨p1,0,none⟩ 12 w7 fun z6=>some (.agg ⟨z6⟩,w7)))
 (gAgg ⟨p2,0,none⟩ 16 w6 fun z7=>bnd (C Ad6 [.agg ⟨z7⟩] w6) fun q3 w8=>as3 q3 fun q4 q5 q6=>aAgg q4 fun z8=>aSl q5 fun z9 xn xc=>aInt .i64 q6 fun z10=>ck (List.length z8=16) (pAgg ⟨p2,0,none⟩ z8 w8 fun w9=>pV ⟨b,10,none⟩ (.slice z9 xn xc) w9 fun w10=>pV ⟨b,11,none⟩ (iI z10) w10 fun w11=>aSome w fun p_2=>gPtr (add p_2 4) w11 fun z11=>aSome w fun p_3=>gInt .i64 (add p_3 2) w11 fun z12=>gAgg ⟨p2,0,none⟩ 16 w11 fun z13=>bnd (C Q2 [.pointer z11,iI z12,.agg ⟨z13⟩] w11) fun q7 w12=>aBool q7 fun _=>gInt .i64 ⟨b,11,none⟩ w12 fun z15=>cond (decide (z15>0))
 (aSome w fun p_4=>gPtr (add p_4 4) w12 fun z16=>aSome w fun p_5=>gInt .i64 (add p_5 2) w12 fun z17=>gInt .i64 ⟨b,11,none⟩ w12 fun z18=>bnd (C Gc8 [.pointer z16,iI z17,iI (wrap .i64 (128+z18))] w12) fun q8 w13=>aAgg q8 fun _=>gAgg ⟨b,0,none⟩ 12 w13 fun z20=>ck (List.length z20=12) (pAgg ⟨p1,0,none⟩ z20 w13 fun w14=>gAgg ⟨p1,0,none⟩ 12 w14 fun z21=>some (.agg ⟨z21⟩,w14)))
 (gAgg ⟨b,0,none⟩ 12 w12 fun z22=>ck (List.length z22=12) (pAgg ⟨p1,0,none⟩ z22 w12 fun w15=>gAgg ⟨p1,0,none⟩ 12 w15 fun z23=>some (.agg ⟨z23⟩,w15)))))):=kR
def A59:Cuts:=⟨0,[(4,[1,3,4])],[],[]⟩
def Bs0:List Item:=A8 Tryz.f42
def Ar9:List Item:=stk [0,1,0,1,0,1,0,0,1,4,5] Bs0
theorem E85 :
 xQ A59 C R S4 Tryz.f42 Bs0 [(0,.agg ⟨p⟩)] h =
 nw (.cells D3 false p) h fun b w=>gInt .i64 ⟨b,0,none⟩ w fun x=>gInt .i64 ⟨b,1,none⟩ w fun z1=>gInt .i64 ⟨b,2,none⟩ w fun z2=>gInt .i64 ⟨b,3,none⟩ w fun z3=>nw (.cells A7 false [.int .u8 1,.int .u8 (wrap .u8 (x)),.int .u8 (wrap .u8 (z1)),.int .u8 (wrap .u8 (z2)),.int .u8 (wrap .u8 (z3)),.int .u8 197]) w fun p1 w1=>gCells (some ⟨p1,0,none⟩) 6 w1 fun cs=>asBytes cs fun l=>bnd (C Ag5 [.string (ByteArray.mk ⟨l⟩)] w1) fun r w2=>aInt .u8 r fun z4=>nw (.cells A7 false [.int .u8 z4,.int .u8 0]) w2 fun p2 w3=>gCells (some ⟨p2,0,none⟩) 2 w3 fun cs_1=>asBytes cs_1 fun l_1=>ck (ByteArray.size (ByteArray.mk ⟨l⟩)+ByteArray.size (ByteArray.mk ⟨l_1⟩)≤B1) (R S4 Ar9 [(1,pP b),(3,.string ((ByteArray.mk ⟨l⟩)++(ByteArray.mk ⟨l_1⟩))),(4,iI 0)] w3):=kR
theorem B50 (p:Addr) (s:ByteArray) :
 xQ A59 C R S4 Tryz.f42 Ar9 [(1,.pointer (some p)),(3,.string s),(4,iI i)] h =
 cond (decide (i<32))
 (ck ((0:Int)≤i∧i<((32:Nat):Int)) (gInt .u8 (add (add p 4) (Int.toNat i*1)) h fun x=>nw (.cells A7 false [.int .u8 x]) h fun b w=>gCells (some ⟨b,0,none⟩) 1 w fun cs=>asBytes cs fun l=>ck (ByteArray.size s+ByteArray.size (ByteArray.mk ⟨l⟩)≤B1) (R S4 Ar9 [(1,.pointer (some p)),(3,.string (s++(ByteArray.mk ⟨l⟩))),(4,iI (wrap .i64 (i+1)))] w)))
 (some (.string s,h)):=kR
def A31:Cuts:=⟨0,[],[],[]⟩
def Bs7:List Item:=A8 Tryz.f51
theorem D60 (kind:Int) :
 xQ A31 C R Ac9 Tryz.f51 Bs7 [(0,.pointer c),(1,iI kind)] h =
 cond (kind==1)
 (some (iI 8,h))
 (cond (kind==2)
 (some (iI 12,h))
 (cond (kind==3)
 (aSome c fun p=>gSl (add p 2) h fun _ xn _=>some (iI (wrap .i64 ((wrap .i64 (4+(xn:Int)))-1)),h))
 (some (iI 1,h)))):=kR
def Bz8:Cuts:=⟨0,[],[],[(1,⟨[0,1,2,3,4,5,6,7,8,9,10,11,12,13,14,15],[0,1,3,7,0,16,48,112,0,256,0,1024,0,4096,16383,32767],[],[]⟩)]⟩
def D02:List Item:=A8 Tryz.f55
theorem Gh9 :
 xQ Bz8 C R Bd1 Tryz.f55 D02 [(0,.pointer w),(1,.agg ⟨r⟩)] h =
 nw (.cells Q8 false r) h fun b w1=>nw (.cells Z1 false [iI 0,iI 0,iI 0,iI 0,iI 0,.slice none 0 0,iI 0,iI 0,.slice none 0 0,.bool false,.slice none 0 0,iI 0]) w1 fun p1 w2=>aSome w fun p=>gInt .i64 (add p 2) w2 fun x=>aSome w fun p_1=>gAgg (add p_1 7) 4 w2 fun z1=>gInt .i64 ⟨b,0,none⟩ w2 fun z2=>gInt .i64 ⟨b,1,none⟩ w2 fun z3=>gSl ⟨b,2,none⟩ w2 fun z4 xn xc=>ck (List.length z1=4) (ck (List.length (iI 0::(iI x::(z1++(iI z2::(iI z3::(.slice z4 xn xc::(.bool true::(.slice none 0 0::[iI 0]))))))))=12) (pAgg ⟨p1,0,none⟩ (iI 0::(iI x::(z1++(iI z2::(iI z3::(.slice z4 xn xc::(.bool true::(.slice none 0 0::[iI 0])))))))) w2 fun w3=>gAgg ⟨p1,0,none⟩ 12 w3 fun z5=>some (.agg ⟨z5⟩,w3))):=kR
def Ar2:Cuts:=⟨0,[],[],[]⟩
def Bh7:List Item:=A8 Tryz.f65
theorem Dr0 :
 xQ Ar2 C R Q2 Tryz.f65 Bh7 [(0,.pointer c),(1,iI i),(2,.agg ⟨p⟩)] h =
 nw (.cells D2 false p) h fun b w=>gAgg ⟨b,0,none⟩ 16 w fun x=>bnd (C A80 [.agg ⟨x⟩] w) fun r w1=>as2 r fun q1 q2=>aSl q1 fun z1 xn xc=>aBool q2 fun z2=>bnd (C A94 [iI i] w1) fun q3 w2=>aAgg q3 fun z3=>bnd (C O7 [.pointer c,.agg ⟨z3⟩,.slice z1 xn xc,.bool z2] w2) fun q4 w3=>aBool q4 fun z4=>some (.bool z4,w3):=kR
def Bs1:Cuts:=⟨0,[],[],[]⟩
def Dm8:List Item:=A8 Tryz.f67
theorem Ga0 :
 xQ Bs1 C R Aq0 Tryz.f67 Dm8 [(0,.pointer k)] h =
 aSome k fun p=>gPtr (add p 3) h fun x=>some (.pointer x,h):=kR
def Dj6:Cuts:=⟨0,[],[],[]⟩
def Er4:List Item:=A8 Tryz.f71
theorem G66 :
 xQ Dj6 C R Bf4 Tryz.f71 Er4 [] h =
 bnd (C As4 [iI 24,.func (.func P9) ⟨[]⟩ ⟨[]⟩,.func (.func Z8) ⟨[]⟩ ⟨[]⟩] h) fun r w=>aPtr r fun x=>some (.pointer x,w):=kR
def Bd7:Cuts:=⟨0,[],[],[]⟩
def B22:List Item:=A8 Tryz.f80
theorem Em6 (r:Option Addr) (b:ByteArray) :
 xQ Bd7 C R As6 Tryz.f80 B22 [(0,.pointer r),(1,iI e),(2,iI name),(3,iI atv),(4,.string b)] h =
 bnd (C As0 [.pointer r,iI e,iI name,iI 2,iI atv,iI ((ByteArray.size b:Nat):Int)] h) fun q1 w=>as2 q1 fun q2 q3=>aInt .i64 q2 fun x=>aInt .i64 q3 fun z1=>cond (z1 != 0)
 (some (iI z1,w))
 (aSome r fun p=>gSl (add p 0) w fun z2 xn xc=>ckB (fitsOpen z2 A7 w) (ck ((0:Int)≤x∧x≤(xn:Int)) (pCells (I8 z2 (decide (Int.toNat x<xc)) ((Int.toNat x)*1)) (A0 (List.take (min (ByteArray.size b) (xn-(Int.toNat x))) (ByteArray.data b).toList)) w fun w1=>some (iI 0,w1)))):=kR
def Dd5:Cuts:=⟨0,[],[],[]⟩
def Ee3:List Item:=A8 Tryz.f96
theorem Gt1 :
 xQ Dd5 C R A76 Tryz.f96 Ee3 [(0,iI i)] h =
 nw (.cells E5 false [iI 0,iI 0]) h fun b w=>pAgg ⟨b,0,none⟩ [iI 3,iI i] w fun w1=>gAgg ⟨b,0,none⟩ 2 w1 fun x=>some (.agg ⟨x⟩,w1):=kR
def Dk1:Cuts:=⟨0,[],[],[]⟩
def Eq9:List Item:=A8 Tryz.f103
theorem Bv6 (s:List Value) :
 xQ Dk1 C R Bf3 Tryz.f103 Eq9 [(0,.pointer c),(1,iI i),(2,.agg ⟨s⟩)] h =
 nw (.cells Dh3 false s) h fun b w=>nw (.cells Q8 false [iI 0,iI 0,.slice none 0 0,.bool false]) w fun p1 w1=>gInt .i64 ⟨b,0,none⟩ w1 fun x=>cond (x==9)
 (bnd (C Do9 [.pointer c,iI i] w1) fun r w2=>aAgg r fun z1=>ck (List.length z1=4) (pAgg ⟨p1,0,none⟩ z1 w2 fun w3=>gAgg ⟨p1,0,none⟩ 4 w3 fun z2=>some (.tuple ⟨[.agg ⟨z2⟩,.bool true]⟩,w3)))
 (cond (x==10)
 (gInt .i64 ⟨b,1,none⟩ w1 fun z3=>gInt .i64 ⟨b,2,none⟩ w1 fun z4=>bnd (C B53 [.pointer c,iI i,iI z3,iI z4] w1) fun q1 w4=>aAgg q1 fun z5=>ck (List.length z5=4) (pAgg ⟨p1,0,none⟩ z5 w4 fun w5=>gAgg ⟨p1,0,none⟩ 4 w5 fun z6=>some (.tuple ⟨[.agg ⟨z6⟩,.bool true]⟩,w5)))
 (cond (x==11)
 (gInt .i64 ⟨b,1,none⟩ w1 fun z7=>gSl ⟨b,3,none⟩ w1 fun z8 xn xc=>bnd (C Bv2 [.pointer c,iI i,iI z7,.slice z8 xn xc] w1) fun q2 w6=>aAgg q2 fun z9=>ck (List.length z9=4) (pAgg ⟨p1,0,none⟩ z9 w6 fun w7=>gAgg ⟨p1,0,none⟩ 4 w7 fun z10=>some (.tuple ⟨[.agg ⟨z10⟩,.bool true]⟩,w7)))
 (cond (x==12)
 (gInt .i64 ⟨b,1,none⟩ w1 fun z11=>bnd (C Hq4 [.pointer c,iI i,iI z11] w1) fun q3 w8=>aAgg q3 fun z12=>ck (List.length z12=4) (pAgg ⟨p1,0,none⟩ z12 w8 fun w9=>gAgg ⟨p1,0,none⟩ 4 w9 fun z13=>some (.tuple ⟨[.agg ⟨z13⟩,.bool true]⟩,w9)))
 (cond (x==13)
 (gInt .i64 ⟨b,1,none⟩ w1 fun z14=>bnd (C If1 [.pointer c,iI i,iI z14] w1) fun q4 w10=>aAgg q4 fun z15=>ck (List.length z15=4) (pAgg ⟨p1,0,none⟩ z15 w10 fun w11=>gAgg ⟨p1,0,none⟩ 4 w11 fun z16=>some (.tuple ⟨[.agg ⟨z16⟩,.bool true]⟩,w11)))
 (cond (x==14)
 (gInt .i64 ⟨b,1,none⟩ w1 fun z17=>gInt .i64 ⟨b,2,none⟩ w1 fun z18=>bnd (C H61 [.pointer c,iI i,iI z17,iI z18] w1) fun q5 w12=>aAgg q5 fun z19=>ck (List.length z19=4) (pAgg ⟨p1,0,none⟩ z19 w12 fun w13=>gAgg ⟨p1,0,none⟩ 4 w13 fun z20=>some (.tuple ⟨[.agg ⟨z20⟩,.bool true]⟩,w13)))
 (cond (x==15)
 (gInt .i64 ⟨b,1,none⟩ w1 fun z21=>gInt .i64 ⟨b,2,none⟩ w1 fun z22=>bnd (C Ic2 [.pointer c,iI i,iI z21,iI z22] w1) fun q6 w14=>aAgg q6 fun z23=>ck (List.length z23=4) (pAgg ⟨p1,0,none⟩ z23 w14 fun w15=>gAgg ⟨p1,0,none⟩ 4 w15 fun z24=>some (.tuple ⟨[.agg ⟨z24⟩,.bool true]⟩,w15)))
 (cond (x==16)
 (gInt .i64 ⟨b,1,none⟩ w1 fun z25=>bnd (C G71 [.pointer c,iI i,iI z25] w1) fun q7 w16=>aAgg q7 fun z26=>ck (List.length z26=4) (pAgg ⟨p1,0,none⟩ z26 w16 fun w17=>gAgg ⟨p1,0,none⟩ 4 w17 fun z27=>some (.tuple ⟨[.agg ⟨z27⟩,.bool true]⟩,w17)))
 (pAgg ⟨p1,0,none⟩ [iI 0,iI 0,.slice none 0 0,.bool false] w1 fun w18=>gAgg ⟨p1,0,none⟩ 4 w18 fun z28=>some (.tuple ⟨[.agg ⟨z28⟩,.bool false]⟩,w18))))))))):=kR
def B33:Cuts:=⟨0,[],[],[]⟩
def D31:List Item:=A8 Tryz.f128
theorem Gn4 (c:Int) :
 xQ B33 C R Ag6 Tryz.f128 D31 [(0,.int .u8 c)] h =
 some (.bool (c != 0),h):=kR
def Bb6:Cuts:=⟨0,[],[],[]⟩
def B56:List Item:=A8 Tryz.f129
theorem Ei3 :
 xQ Bb6 C R As4 Tryz.f129 B56 [(0,iI size),(1,put),(2,get)] h =
 one put (one get (nw (.cells Bu2 false [iI (mm2 false (mm2 true size 0) 64),put,get]) h fun b w=>some (pP b,w))):=kR
def Bl4:Cuts:=⟨0,[(7,[1,3,52,53,54]),(13,[1,3,63,64,65])],[],[]⟩
def B65:List Item:=A8 Tryz.f132
def Bi8:List Item:=stk [0,1,0,1,0,1,0,1,0,0,1,4,5] B65
def Bi4:List Item:=stk [0,1,0,1,0,1,0,1,0,1,0,0,1,4,5] B65
theorem Hb5 (c:List Value) :
 xQ Bl4 C R V0 Tryz.f132 B65 [(0,.agg ⟨c⟩)] h =
 nw (.cells E4 false c) h fun b w=>gSl ⟨b,0,none⟩ w fun _ xn _=>bnd (cond (decide ((xn:Int)<1)) (some (true,w)) (gSl ⟨b,0,none⟩ w fun _ xn_1 _=>some (decide ((xn_1:Int)>4),w))) fun c_1 w1=>bnd (cond c_1 (some (true,w1)) (gSl ⟨b,1,none⟩ w1 fun _ xn_2 _=>some (decide ((xn_2:Int)>40),w1))) fun c_2 w2=>bnd (cond c_2 (some (true,w2)) (gSl ⟨b,2,none⟩ w2 fun _ xn_3 _=>some (decide ((xn_3:Int)>8),w2))) fun c_3 w3=>bnd (cond c_3 (some (true,w3)) (gSl ⟨b,4,none⟩ w3 fun _ xn_4 _=>some (decide ((xn_4:Int)>16),w3))) fun c_4 w4=>bnd (cond c_4 (some (true,w4)) (gInt .i64 ⟨b,3,none⟩ w4 fun z5=>some (decide (z5<1),w4))) fun c_5 w5=>bnd (cond c_5 (some (true,w5)) (gInt .i64 ⟨b,3,none⟩ w5 fun z6=>some (decide (z6>1000),w5))) fun c_6 w6=>cond c_6
 (some (.bool false,w6))
 (gSl ⟨b,1,none⟩ w6 fun z7 xn_5 xc_5=>bnd (C G2 [.slice z7 xn_5 xc_5,.func (.func I5) ⟨[]⟩ ⟨[pP b]⟩] w6) fun r w7=>aBool r fun z8=>cond z8
 (some (.bool false,w7))
 (gSl ⟨b,2,none⟩ w7 fun z9 xn_6 xc_6=>R V0 Bi8 [(1,pP b),(3,.func (.func I5) ⟨[]⟩ ⟨[pP b]⟩),(52,.slice z9 xn_6 xc_6),(53,iI (xn_6:Int)),(54,iI 0)] w7)):=kR
theorem D17 (c:Addr) (x52:Option Addr) (x52n x52c:Nat) (x53:Int) (x54:Int) :
 xQ Bl4 C R V0 Tryz.f132 Bi8 [(1,.pointer (some c)),(3,.func (.func I5) ⟨[]⟩ ⟨[.pointer (some nonev)]⟩),(52,.slice x52 x52n x52c),(53,iI x53),(54,iI x54)] h =
 cond (decide (x54<x53))
 (aSome x52 fun p=>ck ((0:Int)≤x54∧x54<(x52n:Int)) (gSl (add (B2 p) (Int.toNat x54*1)) h fun x xn xc=>bnd (C G2 [.slice x xn xc,.func (.func I5) ⟨[]⟩ ⟨[.pointer (some nonev)]⟩] h) fun r w=>aBool r fun z1=>cond z1
 (some (.bool false,w))
 (R V0 Bi8 [(1,.pointer (some c)),(3,.func (.func I5) ⟨[]⟩ ⟨[.pointer (some nonev)]⟩),(52,.slice x52 x52n x52c),(53,iI x53),(54,iI (wrap .i64 (x54+1)))] w)))
 (gSl (add c 4) h fun z2 xn_1 xc_1=>R V0 Bi4 [(1,.pointer (some c)),(3,.func (.func I5) ⟨[]⟩ ⟨[.pointer (some nonev)]⟩),(63,.slice z2 xn_1 xc_1),(64,iI (xn_1:Int)),(65,iI 0)] h):=kR
theorem D25 (c:Addr) (x63:Option Addr) (x63n x63c:Nat) (x64:Int) (x65:Int) :
 xQ Bl4 C R V0 Tryz.f132 Bi4 [(1,.pointer (some c)),(3,.func (.func I5) ⟨[]⟩ ⟨[.pointer (some nonev)]⟩),(63,.slice x63 x63n x63c),(64,iI x64),(65,iI x65)] h =
 cond (decide (x65<x64))
 (aSome x63 fun p=>ck ((0:Int)≤x65∧x65<(x63n:Int)) (gAgg (add (B2 p) (Int.toNat x65*5)) 5 h fun x=>nw (.cells L0 false [iI 0,iI 0,iI 0,iI 0,.slice none 0 0]) h fun b w=>ck (List.length x=5) (pAgg ⟨b,0,none⟩ x w fun w1=>gAgg c 5 w1 fun z1=>gAgg ⟨b,0,none⟩ 5 w1 fun z2=>bnd (C B46 [.agg ⟨z1⟩,.agg ⟨z2⟩] w1) fun r w2=>aBool r fun z3=>bnd (cond (!z3) (some (true,w2)) (gSl ⟨b,4,none⟩ w2 fun z4 xn xc=>bnd (C G2 [.slice z4 xn xc,.func (.func I5) ⟨[]⟩ ⟨[.pointer (some nonev)]⟩] w2) fun q1 w3=>aBool q1 fun z5=>some (z5,w3))) fun c_1 w4=>cond c_1
 (some (.bool false,w4))
 (R V0 Bi4 [(1,.pointer (some c)),(3,.func (.func I5) ⟨[]⟩ ⟨[.pointer (some nonev)]⟩),(63,.slice x63 x63n x63c),(64,iI x64),(65,iI (wrap .i64 (x65+1)))] w4))))
 (some (.bool true,h)):=kR
def Dp4:Cuts:=⟨0,[(3,[3,8,9])],[],[(4,⟨[0,1,2,3,4,5,6,7,8,9,10],[0,0,2,6,14,0,32,126,255,511,1023],[(5,[4])],[]⟩)]⟩
def Ei1:List Item:=A8 Tryz.f135
def Bw3:List Item:=stk [0,1,0,1,0,0,1,4,5] Ei1
theorem H40 :
 xQ Dp4 C R Az8 Tryz.f135 Ei1 [(0,iI envs)] h =
 nw (.cells Aw3 false [.slice none 0 0]) h fun b w=>R Az8 Bw3 [(3,pP b),(8,iI (mm2 false (mm2 true envs 0) 40)),(9,iI 0)] w:=kR
theorem Ep4 (s:Addr) (x8:Int) :
 xQ Dp4 C R Az8 Tryz.f135 Bw3 [(3,.pointer (some s)),(8,iI x8),(9,iI x9)] h =
 cond (decide (x9<x8))
 (gSl (add s 0) h fun x xn xc=>bnd (C Q6 [iI 32] h) fun r w=>aPtr r fun z1=>gSl (add s 0) w fun z2 xn_1 xc_1=>same (.slice x xn xc) (.slice z2 xn_1 xc_1) (nw (.cells I4 false [.pointer z1]) w fun b w1=>gCells (some ⟨b,0,none⟩) (1*1) w1 fun cs=>ckB (fitsOpen x I4 w1) (apd I4 1 x xn xc 1 cs w1 fun a an ac w2=>pV (add s 0) (.slice a an ac) w2 fun w3=>R Az8 Bw3 [(3,.pointer (some s)),(8,iI x8),(9,iI (wrap .i64 (x9+1)))] w3)))
 (some (.pointer (some s),h)):=kR
def Ej2:Cuts:=⟨0,[],[],[]⟩
def Gr5:List Item:=A8 Tryz.f138
theorem Ia0 (lease:Int) :
 xQ Ej2 C R Do0 Tryz.f138 Gr5 [(0,iI lease)] h =
 nw (.cells Ga9 false [iI (mm2 false (mm2 true lease 1) 1000),.bool false,iI 0,iI 0,iI 0,.slice none 0 0,iI 0,iI 0,iI 0]) h fun b w=>some (pP b,w):=kR
def Bj1:Cuts:=⟨0,[(3,[0,3,4])],[],[(5,⟨[0,1,2,3,4,5,6,7,8,9,10],[0,0,2,6,14,0,32,126,255,511,1023],[(5,[4])],[]⟩),(6,⟨[0,1,2,3,4,5,6,7,8,9,10],[0,0,2,6,14,0,32,126,255,511,1023],[],[]⟩)]⟩
def B70:List Item:=A8 Tryz.f145
def A08:List Item:=stk [0,1,0,1,0,0,1,4,5] B70
theorem Go4 :
 xQ Bj1 C R Ab6 Tryz.f145 B70 [(0,iI envs)] h =
 nw (.cells E00 false [.slice none 0 0,.slice none 0 0]) h fun b w=>R Ab6 A08 [(0,iI envs),(3,pP b),(4,iI 0)] w:=kR
theorem Di3 (s:Addr) :
 xQ Bj1 C R Ab6 Tryz.f145 A08 [(0,iI envs),(3,.pointer (some s)),(4,iI i)] h =
 bnd (cond (decide (i<envs)) (some (decide (i<40),h)) (some (false,h))) fun c w=>cond c
 (gSl (add s 0) w fun x xn xc=>bnd (C Ac2 [iI 32] w) fun r w1=>aPtr r fun z1=>gSl (add s 0) w1 fun z2 xn_1 xc_1=>same (.slice x xn xc) (.slice z2 xn_1 xc_1) (nw (.cells Ba0 false [.pointer z1]) w1 fun b w2=>gCells (some ⟨b,0,none⟩) (1*1) w2 fun cs=>ckB (fitsOpen x Ba0 w2) (apd Ba0 1 x xn xc 1 cs w2 fun a an ac w3=>pV (add s 0) (.slice a an ac) w3 fun w4=>gSl (add s 1) w4 fun z3 xn_2 xc_2=>ck ((0:Int)≤32∧(32:Int)≤32∧32≤(B1:Int)) (nw (.cells Q9 false (L5 (Int.toNat 32) [iI 0,iI 0,iI 0,iI 0,iI 0,iI 0])) w4 fun p1 w5=>nw (.cells Bu4 false [.slice (some ⟨p1,0,none⟩) (Int.toNat 32) (Int.toNat 32)]) w5 fun p2 w6=>gCells (some ⟨p2,0,none⟩) (1*1) w6 fun cs_1=>ckB (fitsOpen z3 Bu4 w6) (apd Bu4 1 z3 xn_2 xc_2 1 cs_1 w6 fun a_1 an_1 ac_1 w7=>pV (add s 1) (.slice a_1 an_1 ac_1) w7 fun w8=>R Ab6 A08 [(0,iI envs),(3,.pointer (some s)),(4,iI (wrap .i64 (i+1)))] w8)))))
 (some (.pointer (some s),w)):=kR
def D19:Cuts:=⟨0,[(2,[0,1,5])],[],[]⟩
def Ez6:List Item:=A8 Tryz.f148
def B31:List Item:=stk [0,1,0,0,1,4,5] Ez6
theorem Ig5 (s:Int) :
 xQ D19 C R Ba4 Tryz.f148 Ez6 [(0,.slice l ln lc),(1,iI s)] h =
 R Ba4 B31 [(0,.slice l ln lc),(1,iI s),(5,iI 0)] h:=kR
theorem Ew1 (s:Int) :
 xQ D19 C R Ba4 Tryz.f148 B31 [(0,.slice l ln lc),(1,iI s),(5,iI i)] h =
 cond (decide (i<(ln:Int)))
 (aSome l fun p=>ck ((0:Int)≤i∧i<(ln:Int)) (gInt .i64 (add (B2 p) (Int.toNat i*1)) h fun x=>cond (x==s)
 (some (.bool true,h))
 (R Ba4 B31 [(0,.slice l ln lc),(1,iI s),(5,iI (wrap .i64 (i+1)))] h)))
 (some (.bool false,h)):=kR
def Bh0:Cuts:=⟨0,[],[],[]⟩
def Da1:List Item:=A8 Tryz.f155
theorem Es4 (s:Int) :
 xQ Bh0 C R Ax4 Tryz.f155 Da1 [(0,.pointer q),(1,iI s)] h =
 bnd (C Ak5 [.pointer q,iI s] h) fun r w=>aBool r fun x=>cond (!x)
 (some (.tuple ⟨[iI 0,iI 1]⟩,w))
 (aSome q fun p=>gSl (add p 0) w fun z1 xn _=>aSome z1 fun p_1=>ck ((0:Int)≤s∧s<(xn:Int)) (gSl (add (B2 p_1) (Int.toNat s*1)) w fun z2 xn_1 xc_1=>bnd (C I7 [.slice z2 xn_1 xc_1,iI 0] w) fun q1 w1=>aInt .i64 q1 fun z3=>cond (decide (z3<0))
 (some (.tuple ⟨[iI 0,iI 4]⟩,w1))
 (aSome q fun p_2=>gSl (add p_2 0) w1 fun z4 xn_2 _=>aSome z4 fun p_3=>ck ((0:Int)≤s∧s<(xn_2:Int)) (gSl (add (B2 p_3) (Int.toNat s*1)) w1 fun z5 xn_3 _=>aSome z5 fun p_4=>ck ((0:Int)≤z3∧z3<(xn_3:Int)) (pV (add (B2 p_4) (Int.toNat z3*1)) (iI 1) w1 fun w2=>some (.tuple ⟨[iI z3,iI 0]⟩,w2)))))):=kR
def Br7:Cuts:=⟨0,[],[],[]⟩
def Dm0:List Item:=A8 Tryz.f158
theorem E87 (c:List Value) :
 xQ Br7 C R A56 Tryz.f158 Dm0 [(0,.pointer k),(1,iI env),(2,.agg ⟨c⟩)] h =
 nw (.cells A02 false c) h fun b w=>gInt .i64 ⟨b,3,none⟩ w fun x=>bnd (C Aw5 [.pointer k,iI env,iI x] w) fun r w1=>as2 r fun q1 q2=>aPtr q1 fun z1=>aInt .i64 q2 fun z2=>bnd (cond (z2==0) (gInt .i64 ⟨b,2,none⟩ w1 fun z3=>bnd (C A61 [.pointer z1,iI env,iI z3] w1) fun q3 w2=>aBool q3 fun z4=>some (!z4,w2)) (some (false,w1))) fun c_1 w3=>cond c_1
 (some (iI 8,w3))
 (some (iI z2,w3)):=kR
def Dl6:Cuts:=⟨0,[],[],[]⟩
def Er8:List Item:=A8 Tryz.f162
theorem G68 :
 xQ Dl6 C R Ai6 Tryz.f162 Er8 [(0,iI atv),(1,iI n),(2,iI size)] h =
 bnd (cond (decide (atv≥0)) (some (decide (n≥0),h)) (some (false,h))) fun c w=>bnd (cond c (some (decide (atv≤size),w)) (some (false,w))) fun c_1 w1=>bnd (cond c_1 (some (decide (n≤(wrap .i64 (size-atv))),w1)) (some (false,w1))) fun c_2 w2=>some (.bool c_2,w2):=kR
def Bd8:Cuts:=⟨0,[],[],[]⟩
def B34:List Item:=A8 Tryz.f175
theorem Ek6 :
 xQ Bd8 C R Ar5 Tryz.f175 B34 [(0,iI g)] h =
 bnd (cond (decide (g<0)) (some (true,h)) (some (decide (g≥8),h))) fun c w=>cond c
 (some (.tuple ⟨[.slice none 0 0,.bool false]⟩,w))
 (nw (.cells A7 false [.int .u8 (wrap .u8 (g)),.int .u8 211]) w fun b w1=>bnd (C Ad4 [.slice (some ⟨b,0,none⟩) 2 2] w1) fun r w2=>aInt .u8 r fun x=>nw (.cells A7 false [.int .u8 x,.int .u8 0]) w2 fun p1 w3=>gCells (some ⟨p1,0,none⟩) (2*1) w3 fun cs=>ckB (fitsOpen (some ⟨b,0,none⟩) A7 w3) (apd A7 1 (some ⟨b,0,none⟩) 2 2 2 cs w3 fun a an ac w4=>some (.tuple ⟨[.slice a an ac,.bool true]⟩,w4))):=kR
def Dj9:Cuts:=⟨0,[],[],[]⟩
def Er1:List Item:=A8 Tryz.f178
theorem G64 :
 xQ Dj9 C R Bv2 Tryz.f178 Er1 [(0,.pointer c),(1,iI i),(2,iI fd),(3,.slice b bn bc)] h =
 nw (.cells Q8 false [iI 0,iI 0,.slice none 0 0,.bool false]) h fun p1 w=>bnd (C Dv3 [.pointer c,iI i,iI fd] w) fun r w1=>as3 r fun q1 q2 q3=>aInt .i64 q1 fun _=>aAgg q2 fun z1=>aInt .i64 q3 fun z2=>nw (.cells D8 false [iI 0,iI 0,iI 0,iI 0]) w1 fun p2 w2=>ck (List.length z1=4) (pAgg ⟨p2,0,none⟩ z1 w2 fun w3=>cond (z2 != 0)
 (bnd (C S7 [iI z2] w3) fun q4 w4=>aAgg q4 fun z3=>ck (List.length z3=4) (pAgg ⟨p1,0,none⟩ z3 w4 fun w5=>gAgg ⟨p1,0,none⟩ 4 w5 fun z4=>some (.agg ⟨z4⟩,w5)))
 (gInt .i64 ⟨p2,0,none⟩ w3 fun z5=>cond (z5 != 2)
 (bnd (C S7 [iI 109] w3) fun q5 w6=>aAgg q5 fun z6=>ck (List.length z6=4) (pAgg ⟨p1,0,none⟩ z6 w6 fun w7=>gAgg ⟨p1,0,none⟩ 4 w7 fun z7=>some (.agg ⟨z7⟩,w7)))
 (cond (decide ((bn:Int)>32))
 (bnd (C S7 [iI 122] w3) fun q6 w8=>aAgg q6 fun z8=>ck (List.length z8=4) (pAgg ⟨p1,0,none⟩ z8 w8 fun w9=>gAgg ⟨p1,0,none⟩ 4 w9 fun z9=>some (.agg ⟨z9⟩,w9)))
 (cond ((bn:Int)==0)
 (pAgg ⟨p1,0,none⟩ [iI 0,iI 0,.slice none 0 0,.bool false] w3 fun w10=>gAgg ⟨p1,0,none⟩ 4 w10 fun z10=>some (.agg ⟨z10⟩,w10))
 (gAgg ⟨p2,0,none⟩ 4 w3 fun z11=>bnd (C B29 [.pointer c,.agg ⟨z11⟩] w3) fun q7 w11=>as2 q7 fun q8 q9=>aAgg q8 fun z12=>aBool q9 fun z13=>nw (.cells B71 false [iI 0,iI 0,iI 0,iI 0,.int .u8 0,.int .u8 0,.int .u8 0,.int .u8 0,.int .u8 0,.int .u8 0,.int .u8 0,.int .u8 0,.int .u8 0,.int .u8 0,.int .u8 0,.int .u8 0,.int .u8 0,.int .u8 0,.int .u8 0,.int .u8 0,.int .u8 0,.int .u8 0,.int .u8 0,.int .u8 0,.int .u8 0,.int .u8 0,.int .u8 0,.int .u8 0,.int .u8 0,.int .u8 0,.int .u8 0,.int .u8 0,.int .u8 0,.int .u8 0,.int .u8 0,.int .u8 0,.nilFunc]) w11 fun p3 w12=>ck (List.length z12=37) (pAgg ⟨p3,0,none⟩ z12 w12 fun w13=>cond (!z13)
 (bnd (C S7 [iI 105] w13) fun q10 w14=>aAgg q10 fun z14=>ck (List.length z14=4) (pAgg ⟨p1,0,none⟩ z14 w14 fun w15=>gAgg ⟨p1,0,none⟩ 4 w15 fun z15=>some (.agg ⟨z15⟩,w15)))
 (gInt .i64 ⟨p3,2,none⟩ w13 fun z16=>cond (z16==0)
 (bnd (C Gx5 [.pointer c,iI i] w13) fun q11 w16=>aAgg q11 fun z17=>ck (List.length z17=4) (pAgg ⟨p1,0,none⟩ z17 w16 fun w17=>gAgg ⟨p1,0,none⟩ 4 w17 fun z18=>some (.agg ⟨z18⟩,w17)))
 (gInt .i64 ⟨p3,1,none⟩ w13 fun z19=>bnd (cond ((wrap .i64 (32-z19))==0) (some (true,w13)) (bnd (cond (decide ((bn:Int)≤8)) (some (decide ((wrap .i64 (32-z19))<(bn:Int)),w13)) (some (false,w13))) fun c_1 w18=>some (c_1,w18))) fun c_2 w19=>cond c_2
 (gAgg ⟨p2,0,none⟩ 4 w19 fun z20=>bnd (C Ay7 [.agg ⟨z20⟩] w19) fun q12 w20=>aAgg q12 fun z21=>ck (List.length z21=4) (pAgg ⟨p1,0,none⟩ z21 w20 fun w21=>gAgg ⟨p1,0,none⟩ 4 w21 fun z22=>some (.agg ⟨z22⟩,w21)))
 (gAgg ⟨p3,0,none⟩ 36 w19 fun z23=>bnd (C A03 [.agg ⟨z23⟩,.slice b bn bc] w19) fun q13 w22=>as2 q13 fun q14 q15=>aAgg q14 fun z24=>aInt .i64 q15 fun z25=>nw (.cells D3 false zZ2) w22 fun p4 w23=>ck (List.length z24=36) (pAgg ⟨p4,0,none⟩ z24 w23 fun w24=>gFv ⟨p3,36,none⟩ w24 fun z26=>gAgg ⟨p4,0,none⟩ 36 w24 fun z27=>aFn z26 fun g fi cp=>bnd (C g (fi++([.agg ⟨z27⟩]++cp)) w24) fun q16 w25=>aBool q16 fun z28=>cond (!z28)
 (bnd (C S7 [iI 105] w25) fun q17 w26=>aAgg q17 fun z29=>ck (List.length z29=4) (pAgg ⟨p1,0,none⟩ z29 w26 fun w27=>gAgg ⟨p1,0,none⟩ 4 w27 fun z30=>some (.agg ⟨z30⟩,w27)))
 (pAgg ⟨p1,0,none⟩ [iI z25,iI 0,.slice none 0 0,.bool false] w25 fun w28=>gAgg ⟨p1,0,none⟩ 4 w28 fun z31=>some (.agg ⟨z31⟩,w28)))))))))))):=kR
def A90:Cuts:=⟨0,[(3,[0,3,5,17,18]),(9,[0,5,31,32]),(19,[0,57,58])],[],[(15,⟨[0,1,2,3,4,5,6,7,8],[0,1,0,4,12,28,63,127,255],[],[]⟩)]⟩
def Bl7:List Item:=A8 Tryz.f185
def A05:List Item:=stk [0,1,0,1,0,0,1,4,5] Bl7
def Ao7:List Item:=stk [0,1,0,1,0,1,0,0,1,4,5] Bl7
def Ao2:List Item:=stk [0,1,0,1,0,1,0,1,0,0,1,4,5] Bl7
theorem Hb8 :
 xQ A90 C R I0 Tryz.f185 Bl7 [(0,.pointer c),(1,.agg ⟨p⟩)] h =
 nw (.cells D2 false p) h fun b w=>nw (.cells Eh8 false zZ3) w fun p1 w1=>gAgg ⟨b,8,none⟩ 8 w1 fun x=>R I0 A05 [(0,.pointer c),(3,pP b),(5,pP p1),(17,.agg ⟨x⟩),(18,iI 0)] w1:=kR
theorem D26 (p:Addr) (x17:List Value) (x18:Int) :
 xQ A90 C R I0 Tryz.f185 A05 [(0,.pointer c),(3,.pointer (some p)),(5,.pointer (some more)),(17,.agg ⟨x17⟩),(18,iI x18)] h =
 cond (decide (x18<8))
 (ck ((0:Int)≤x18∧x18<((8:Nat):Int)) (nth x17 (Int.toNat x18*1) fun x=>aInt .i64 x fun z1=>cond (decide (z1>0))
 (ck ((0:Int)≤wrap .i64 (z1-1)∧wrap .i64 (z1-1)<((12:Nat):Int)) (gInt .i64 (add more (Int.toNat (wrap .i64 (z1-1))*1)) h fun z2=>ck ((0:Int)≤wrap .i64 (z1-1)∧wrap .i64 (z1-1)<((12:Nat):Int)) (pV (add more (Int.toNat (wrap .i64 (z1-1))*1)) (iI (wrap .i64 (z2+1))) h fun w=>R I0 A05 [(0,.pointer c),(3,.pointer (some p)),(5,.pointer (some more)),(17,.agg ⟨x17⟩),(18,iI (wrap .i64 (x18+1)))] w)))
 (R I0 A05 [(0,.pointer c),(3,.pointer (some p)),(5,.pointer (some more)),(17,.agg ⟨x17⟩),(18,iI (wrap .i64 (x18+1)))] h)))
 (gAgg (add p 8) 8 h fun z3=>R I0 Ao7 [(0,.pointer c),(5,.pointer (some more)),(31,.agg ⟨z3⟩),(32,iI 0)] h):=kR
theorem D47 (x31:List Value) (x32:Int) :
 xQ A90 C R I0 Tryz.f185 Ao7 [(0,.pointer c),(5,.pointer (some more)),(31,.agg ⟨x31⟩),(32,iI x32)] h =
 cond (decide (x32<8))
 (ck ((0:Int)≤x32∧x32<((8:Nat):Int)) (nth x31 (Int.toNat x32*1) fun x=>aInt .i64 x fun z1=>cond (z1==0)
 (R I0 Ao7 [(0,.pointer c),(5,.pointer (some more)),(31,.agg ⟨x31⟩),(32,iI (wrap .i64 (x32+1)))] h)
 (bnd (C N5 [.pointer c,iI (wrap .i64 (z1-1))] h) fun r w=>as2 r fun q1 q2=>aAgg q1 fun z2=>aInt .i64 q2 fun z3=>nw (.cells D8 false [iI 0,iI 0,iI 0,iI 0]) w fun b w1=>ck (List.length z2=4) (pAgg ⟨b,0,none⟩ z2 w1 fun w2=>cond (z3 != 1)
 (some (iI 105,w2))
 (gInt .i64 ⟨b,2,none⟩ w2 fun z4=>ck ((0:Int)≤wrap .i64 (z1-1)∧wrap .i64 (z1-1)<((12:Nat):Int)) (gInt .i64 (add more (Int.toNat (wrap .i64 (z1-1))*1)) w2 fun z5=>cond (decide ((wrap .i64 (z4+z5))>64))
 (some (iI 123,w2))
 (R I0 Ao7 [(0,.pointer c),(5,.pointer (some more)),(31,.agg ⟨x31⟩),(32,iI (wrap .i64 (x32+1)))] w2)))))))
 (gAgg more 12 h fun z6=>R I0 Ao2 [(0,.pointer c),(57,.agg ⟨z6⟩),(58,iI 0)] h):=kR
theorem D24 (x57:List Value) (x58:Int) :
 xQ A90 C R I0 Tryz.f185 Ao2 [(0,.pointer c),(57,.agg ⟨x57⟩),(58,iI x58)] h =
 cond (decide (x58<12))
 (ck ((0:Int)≤x58∧x58<((12:Nat):Int)) (nth x57 (Int.toNat x58*1) fun x=>aInt .i64 x fun z1=>cond (z1==0)
 (R I0 Ao2 [(0,.pointer c),(57,.agg ⟨x57⟩),(58,iI (wrap .i64 (x58+1)))] h)
 (bnd (C N5 [.pointer c,iI x58] h) fun r w=>as2 r fun q1 q2=>aAgg q1 fun z2=>aInt .i64 q2 fun _=>nw (.cells D8 false [iI 0,iI 0,iI 0,iI 0]) w fun b w1=>ck (List.length z2=4) (pAgg ⟨b,0,none⟩ z2 w1 fun w2=>gInt .i64 ⟨b,2,none⟩ w2 fun z4=>pV ⟨b,2,none⟩ (iI (wrap .i64 (z4+z1))) w2 fun w3=>gAgg ⟨b,0,none⟩ 4 w3 fun z5=>bnd (C Q3 [.pointer c,iI x58,.agg ⟨z5⟩] w3) fun q3 w4=>aBool q3 fun z6=>cond (!z6)
 (some (iI 105,w4))
 (R I0 Ao2 [(0,.pointer c),(57,.agg ⟨x57⟩),(58,iI (wrap .i64 (x58+1)))] w4)))))
 (some (iI 0,h)):=kR
def Ad7:Cuts:=⟨0,[(4,[0,1,12,13])],[],[(6,⟨[0,1,2,3,4,5,6,7,8],[0,0,3,7,0,0,48,112,255],[],[]⟩)]⟩
def Ap4:List Item:=A8 Tryz.f213
def Y8:List Item:=stk [0,1,0,1,0,0,1,4,5] Ap4
theorem Dl3 :
 xQ Ad7 C R D5 Tryz.f213 Ap4 [(0,.slice s1 s1n s1c),(1,.slice s2 s2n s2c)] h =
 cond ((s1n:Int) != (s2n:Int))
 (some (.bool false,h))
 (R D5 Y8 [(0,.slice s1 s1n s1c),(1,.slice s2 s2n s2c),(12,iI (s1n:Int)),(13,iI 0)] h):=kR
theorem A49 (x13:Int) :
 xQ Ad7 C R D5 Tryz.f213 Y8 [(0,.slice s1 s1n s1c),(1,.slice s2 s2n s2c),(12,iI x12),(13,iI x13)] h =
 cond (decide (x13<x12))
 (aSome s1 fun p=>ck ((0:Int)≤x13∧x13<(s1n:Int)) (gInt .u8 (add (B2 p) (Int.toNat x13*1)) h fun x=>aSome s2 fun p_1=>ck ((0:Int)≤x13∧x13<(s2n:Int)) (gInt .u8 (add (B2 p_1) (Int.toNat x13*1)) h fun z1=>cond (x != z1)
 (some (.bool false,h))
 (R D5 Y8 [(0,.slice s1 s1n s1c),(1,.slice s2 s2n s2c),(12,iI x12),(13,iI (wrap .i64 (x13+1)))] h))))
 (some (.bool true,h)):=kR
def Dd7:Cuts:=⟨0,[],[],[]⟩
def Ee6:List Item:=A8 Tryz.f214
theorem Gy6 (s:Int) :
 xQ Dd7 C R I5 Tryz.f214 Ee6 [(0,iI s),(1,.pointer (some fv0))] h =
 bnd (cond (decide (s<0)) (some (true,h)) (gSl (add fv0 0) h fun _ xn _=>some (decide (s≥(xn:Int)),h))) fun c w=>some (.bool c,w):=kR
def Dy2:Cuts:=⟨0,[],[],[]⟩
def E09:List Item:=A8 Tryz.f216
theorem Hm8 (c:List Value) :
 xQ Dy2 C R B46 Tryz.f216 E09 [(0,.agg ⟨c⟩),(1,.agg ⟨x⟩)] h =
 nw (.cells E4 false c) h fun b w=>nw (.cells L0 false x) w fun p1 w1=>gInt .i64 ⟨p1,0,none⟩ w1 fun z1=>bnd (cond (decide (z1<0)) (some (true,w1)) (gInt .i64 ⟨p1,0,none⟩ w1 fun z2=>gSl ⟨b,0,none⟩ w1 fun _ xn _=>some (decide (z2≥(xn:Int)),w1))) fun c_1 w2=>bnd (cond c_1 (some (true,w2)) (gInt .i64 ⟨p1,1,none⟩ w2 fun z4=>some (decide (z4<0),w2))) fun c_2 w3=>bnd (cond c_2 (some (true,w3)) (gInt .i64 ⟨p1,2,none⟩ w3 fun z5=>some (decide (z5<0),w3))) fun c_3 w4=>bnd (cond c_3 (some (true,w4)) (gInt .i64 ⟨p1,3,none⟩ w4 fun z6=>some (decide (z6<0),w4))) fun c_4 w5=>cond c_4
 (some (.bool false,w5))
 (gSl ⟨b,0,none⟩ w5 fun z7 xn_1 _=>gInt .i64 ⟨p1,0,none⟩ w5 fun z8=>aSome z7 fun p=>ck ((0:Int)≤z8∧z8<(xn_1:Int)) (gInt .i64 (add (B2 p) (Int.toNat z8*1)) w5 fun z9=>bnd (C Bf0 [iI z9] w5) fun r w6=>aInt .i64 r fun z10=>gInt .i64 ⟨p1,1,none⟩ w6 fun z11=>cond (decide (z11>z10))
 (some (.bool false,w6))
 (gInt .i64 ⟨p1,1,none⟩ w6 fun z12=>gInt .i64 ⟨p1,2,none⟩ w6 fun z13=>bnd (cond (decide (z13≤(wrap .i64 ((wrap .i64 (z10-z12))*64)))) (gInt .i64 ⟨p1,3,none⟩ w6 fun z14=>gInt .i64 ⟨p1,2,none⟩ w6 fun z15=>some (decide (z14≤(wrap .i64 ((wrap .i64 ((wrap .i64 (z10-z12))*64))-z15))),w6)) (some (false,w6))) fun c_5 w7=>some (.bool c_5,w7)))):=kR
def V8:Cuts:=⟨0,[(18,[0,1,2])],[(10,[0,1,2]),(11,[0,1,2]),(14,[0,1,2]),(17,[])],[(11,⟨[0,1,2,3,4,5,6,7,8,9,10,11,12,13,14,15,16],[0,1,3,7,15,31,31,95,223,479,1023,31,2079,6175,14367,32767,65535],[],[]⟩),(18,⟨[0,1,2,3,4,5,6,7,8,9,10,11,12,13,14,15,16,17,18,19,20],[0,1,3,7,15,31,0,127,255,511,511,1535,3583,7679,16383,511,33279,98815,229887,524287,1048575],[],[]⟩)]⟩
def Ab3:List Item:=A8 Tryz.f231
def At1:List Item:=stk [0,1,0,1,0,1,0,1,0,1,0,0,1,2,0,1] Ab3
def Aq1:List Item:=stk [0,1,0,1,0,1,0,1,0,1,0,1,0,0] Ab3
def As7:List Item:=stk [0,1,0,1,0,1,0,1,0,1,0,1,0,1,0,0] Ab3
def At2:List Item:=stk [0,1,0,1,0,1,0,1,0,1,0,1,0,1,0,0,1,2,0,1,0] Ab3
def Ah7:List Item:=stk [0,1,0,1,0,1,0,1,0,1,0,1,0,1,0,1,0,4,5] Ab3
theorem E96 :
 xQ V8 C R D0 Tryz.f231 Ab3 [(0,.pointer s),(1,iI who),(2,iI now)] h =
 aSome s fun p=>gInt .i64 (add p 7) h fun x=>bnd (cond (decide (who<0)) (some (true,h)) (some (decide (who>99),h))) fun c w=>cond c
 (some (.tuple ⟨[iI 0,.bool false]⟩,w))
 (aSome s fun p_1=>pV (add p_1 7) (iI (mm2 true now x)) w fun w1=>aSome s fun p_2=>gBool (add p_2 1) w1 fun z1=>bnd (cond z1 (aSome s fun p_3=>gInt .i64 (add p_3 2) w1 fun z2=>some (z2==who,w1)) (some (false,w1))) fun c_1 w2=>cond c_1
 (aSome s fun p_4=>gInt .i64 (add p_4 3) w2 fun z3=>some (.tuple ⟨[iI z3,.bool true]⟩,w2))
 (aSome s fun p_5=>gSl (add p_5 5) w2 fun z4 xn xc=>bnd (C O3 [.slice z4 xn xc,iI who] w2) fun r w3=>aBool r fun z5=>cond (!z5)
 (aSome s fun p_6=>gSl (add p_6 5) w3 fun _ xn_1 _=>cond ((xn_1:Int)==0)
 (aSome s fun p_7=>pV (add p_7 6) (iI (mm2 true now x)) w3 fun w4=>R D0 At1 [(0,.pointer s),(1,iI who),(2,iI (mm2 true now x))] w4)
 (R D0 At1 [(0,.pointer s),(1,iI who),(2,iI (mm2 true now x))] w3))
 (R D0 Aq1 [(0,.pointer s),(1,iI who),(2,iI (mm2 true now x))] w3))):=kR
theorem Ek3 :
 xQ V8 C R D0 Tryz.f231 At1 [(0,.pointer s),(1,iI who),(2,iI now)] h =
 aSome s fun p=>gSl (add p 5) h fun x xn xc=>nw (.cells B5 false [iI who]) h fun b w=>gCells (some ⟨b,0,none⟩) (1*1) w fun cs=>ckB (fitsOpen x B5 w) (apd B5 1 x xn xc 1 cs w fun a an ac w1=>aSome s fun p_1=>pV (add p_1 5) (.slice a an ac) w1 fun w2=>R D0 Aq1 [(0,.pointer s),(1,iI who),(2,iI now)] w2):=kR
theorem Em8 :
 xQ V8 C R D0 Tryz.f231 Aq1 [(0,.pointer s),(1,iI who),(2,iI now)] h =
 aSome s fun p=>gBool (add p 1) h fun x=>bnd (cond x (aSome s fun p_1=>gInt .i64 (add p_1 4) h fun z1=>aSome s fun p_2=>gInt .i64 (add p_2 0) h fun z2=>some (decide ((wrap .i64 (now-z1))≥z2),h)) (some (false,h))) fun c w=>cond c
 (aSome s fun p_3=>pV (add p_3 1) (.bool false) w fun w1=>aSome s fun p_4=>pV (add p_4 6) (iI now) w1 fun w2=>R D0 As7 [(0,.pointer s),(1,iI who),(2,iI now)] w2)
 (R D0 As7 [(0,.pointer s),(1,iI who),(2,iI now)] w):=kR
theorem El9 :
 xQ V8 C R D0 Tryz.f231 As7 [(0,.pointer s),(1,iI who),(2,iI now)] h =
 aSome s fun p=>gBool (add p 1) h fun x=>cond x
 (aSome s fun p_1=>gSl (add p_1 5) h fun z1 xn _=>aSome z1 fun p_2=>ck ((0:Int)≤0∧0<(xn:Int)) (gInt .i64 (add (B2 p_2) (Int.toNat 0*1)) h fun z2=>cond (z2==who)
 (aSome s fun p_3=>pV (add p_3 6) (iI now) h fun w=>R D0 At2 [] w)
 (R D0 At2 [] h)))
 (R D0 Ah7 [(0,.pointer s),(1,iI who),(2,iI now)] h):=kR
theorem Em1 :
 xQ V8 C R D0 Tryz.f231 At2 [] h =
 some (.tuple ⟨[iI 0,.bool false]⟩,h):=kR
theorem B80 :
 xQ V8 C R D0 Tryz.f231 Ah7 [(0,.pointer s),(1,iI who),(2,iI now)] h =
 aSome s fun p=>gSl (add p 5) h fun x xn _=>aSome x fun p_1=>ck ((0:Int)≤0∧0<(xn:Int)) (gInt .i64 (add (B2 p_1) (Int.toNat 0*1)) h fun z1=>bnd (cond (z1 != who) (aSome s fun p_2=>gInt .i64 (add p_2 6) h fun z2=>aSome s fun p_3=>gInt .i64 (add p_3 0) h fun z3=>some (decide ((wrap .i64 (now-z2))≥z3),h)) (some (false,h))) fun c w=>cond c
 (aSome s fun p_4=>gSl (add p_4 5) w fun z4 xn_1 xc_1=>ckB (fitsOpen z4 B5 w) (ck ((0:Int)≤1∧1≤(xn_1:Int)) (aSome s fun p_5=>pV (add p_5 5) (.slice (I8 z4 (decide (Int.toNat 1<xc_1)) ((Int.toNat 1)*1)) (xn_1-(Int.toNat 1)) (xc_1-(Int.toNat 1))) w fun w1=>aSome s fun p_6=>pV (add p_6 6) (iI now) w1 fun w2=>R D0 Ah7 [(0,.pointer s),(1,iI who),(2,iI now)] w2)))
 (aSome s fun p_7=>gSl (add p_7 5) w fun z5 xn_2 _=>aSome z5 fun p_8=>ck ((0:Int)≤0∧0<(xn_2:Int)) (gInt .i64 (add (B2 p_8) (Int.toNat 0*1)) w fun z6=>cond (z6 != who)
 (some (.tuple ⟨[iI 0,.bool false]⟩,w))
 (aSome s fun p_9=>gSl (add p_9 5) w fun z7 xn_3 xc_3=>ckB (fitsOpen z7 B5 w) (ck ((0:Int)≤1∧1≤(xn_3:Int)) (aSome s fun p_10=>pV (add p_10 5) (.slice (I8 z7 (decide (Int.toNat 1<xc_3)) ((Int.toNat 1)*1)) (xn_3-(Int.toNat 1)) (xc_3-(Int.toNat 1))) w fun w3=>aSome s fun p_11=>pV (add p_11 6) (iI now) w3 fun w4=>aSome s fun p_12=>gInt .i64 (add p_12 8) w4 fun z8=>aSome s fun p_13=>pV (add p_13 8) (iI (wrap .i64 (z8+1))) w4 fun w5=>aSome s fun p_14=>gInt .i64 (add p_14 8) w5 fun z9=>aSome s fun p_15=>pV (add p_15 1) (.bool true) w5 fun w6=>aSome s fun p_16=>pV (add p_16 2) (iI who) w6 fun w7=>aSome s fun p_17=>pV (add p_17 3) (iI z9) w7 fun w8=>aSome s fun p_18=>pV (add p_18 4) (iI now) w8 fun w9=>aSome s fun p_19=>gInt .i64 (add p_19 3) w9 fun z10=>some (.tuple ⟨[iI z10,.bool true]⟩,w9))))))):=kR
def Ba8:Cuts:=⟨0,[],[],[]⟩
def B40:List Item:=A8 Tryz.f240
theorem Ep0 :
 xQ Ba8 C R As8 Tryz.f240 B40 [(0,iI size),(1,put),(2,get)] h =
 one put (one get (nw (.cells Bu3 false [iI (mm2 false (mm2 true size 0) 64),put,get]) h fun b w=>some (pP b,w))):=kR
def Ar4:Cuts:=⟨0,[],[],[]⟩
def Bi3:List Item:=A8 Tryz.f248
theorem Dp2 :
 xQ Ar4 C R W1 Tryz.f248 Bi3 [(0,.pointer c),(1,iI i),(2,.agg ⟨p⟩)] h =
 nw (.cells D3 false p) h fun b w=>gAgg ⟨b,0,none⟩ 36 w fun x=>bnd (C Be5 [.agg ⟨x⟩] w) fun r w1=>as2 r fun q1 q2=>aSl q1 fun z1 xn xc=>aBool q2 fun z2=>bnd (C A76 [iI i] w1) fun q3 w2=>aAgg q3 fun z3=>bnd (C O7 [.pointer c,.agg ⟨z3⟩,.slice z1 xn xc,.bool z2] w2) fun q4 w3=>aBool q4 fun z4=>some (.bool z4,w3):=kR
def Dt4:Cuts:=⟨0,[],[],[]⟩
def Ex3:List Item:=A8 Tryz.f252
theorem Hn4 :
 xQ Dt4 C R S7 Tryz.f252 Ex3 [(0,iI e)] h =
 nw (.cells Q8 false [iI 0,iI 0,.slice none 0 0,.bool false]) h fun b w=>pAgg ⟨b,0,none⟩ [iI 0,iI e,.slice none 0 0,.bool false] w fun w1=>gAgg ⟨b,0,none⟩ 4 w1 fun x=>some (.agg ⟨x⟩,w1):=kR
def Dz6:Cuts:=⟨0,[],[],[]⟩
def E16:List Item:=A8 Tryz.f273
theorem Hj6 :
 xQ Dz6 C R Bl0 Tryz.f273 E16 [(0,.pointer m),(1,iI atv),(2,iI n)] h =
 bnd (cond (decide (atv≥0)) (some (decide (n≥0),h)) (some (false,h))) fun c w=>bnd (cond c (aSome m fun p=>gSl (add p 0) w fun _ xn _=>some (decide (atv≤(xn:Int)),w)) (some (false,w))) fun c_1 w1=>bnd (cond c_1 (aSome m fun p_1=>gSl (add p_1 0) w1 fun _ xn_1 _=>some (decide (n≤(wrap .i64 ((xn_1:Int)-atv))),w1)) (some (false,w1))) fun c_2 w2=>some (.bool c_2,w2):=kR
def At0:Cuts:=⟨0,[],[],[]⟩
def Bj0:List Item:=A8 Tryz.f274
theorem Dn8 :
 xQ At0 C R Af5 Tryz.f274 Bj0 [(0,.pointer t),(1,iI name)] h =
 nw (.cells Q9 false [iI 0,iI 0,iI 0,iI 0,iI 0,iI 0]) h fun b w=>bnd (C Ah4 [.pointer t,iI name] w) fun r w1=>aPtr r fun x=>cond x.isNone
 (nw (.cells Q9 false [iI 0,iI 0,iI 0,iI 0,iI 0,iI 0]) w1 fun p1 w2=>gAgg ⟨p1,0,none⟩ 6 w2 fun z1=>ck (List.length z1=6) (pAgg ⟨b,0,none⟩ z1 w2 fun w3=>gAgg ⟨b,0,none⟩ 6 w3 fun z2=>some (.tuple ⟨[.agg ⟨z2⟩,.bool false]⟩,w3)))
 (aSome x fun p=>gAgg (add p 0) 6 w1 fun z3=>ck (List.length z3=6) (pAgg ⟨b,0,none⟩ z3 w1 fun w4=>gAgg ⟨b,0,none⟩ 6 w4 fun z4=>some (.tuple ⟨[.agg ⟨z4⟩,.bool true]⟩,w4))):=kR
def Av8:Cuts:=⟨0,[],[],[]⟩
def Bm8:List Item:=A8 Tryz.f277
theorem Dt2 :
 xQ Av8 C R Ah4 Tryz.f277 Bm8 [(0,.pointer t),(1,iI name)] h =
 bnd (cond (decide (name<0)) (some (true,h)) (aSome t fun p=>gSl (add p 0) h fun _ xn _=>some (decide ((M8 .i64 name 255)≥(xn:Int)),h))) fun c w=>bnd (cond c (some (true,w)) (aSome t fun p_1=>gSl (add p_1 0) w fun z1 xn_1 _=>aSome z1 fun p_2=>ck ((0:Int)≤M8 .i64 name 255∧M8 .i64 name 255<(xn_1:Int)) (gBool (add (add (B2 p_2) (Int.toNat (M8 .i64 name 255)*8)) 7) w fun z2=>some (!z2,w)))) fun c_1 w1=>bnd (cond c_1 (some (true,w1)) (bnd (C O9 [.pointer t,iI (M8 .i64 name 255)] w1) fun r w2=>aInt .i64 r fun z3=>some (z3 != name,w2))) fun c_2 w3=>cond c_2
 (some (.pointer none,w3))
 (aSome t fun p_3=>gSl (add p_3 0) w3 fun z4 xn_2 _=>aSome z4 fun p_4=>ck ((0:Int)≤M8 .i64 name 255∧M8 .i64 name 255<(xn_2:Int)) (some (.pointer (some (add (B2 p_4) (Int.toNat (M8 .i64 name 255)*8))),w3))):=kR
def B85:Cuts:=⟨0,[(5,[1,3,9,10])],[],[]⟩
def Dv7:List Item:=A8 Tryz.f286
def Bi9:List Item:=stk [0,1,0,1,0,1,0,0,1,4,5] Dv7
theorem Hk3 :
 xQ B85 C R An4 Tryz.f286 Dv7 [(0,.agg ⟨p⟩)] h =
 nw (.cells D3 false p) h fun b w=>gAgg ⟨b,0,none⟩ 36 w fun x=>bnd (C B11 [.agg ⟨x⟩] w) fun r w1=>aBool r fun z1=>cond (!z1)
 (some (.slice none 0 0,w1))
 (gInt .i64 ⟨b,1,none⟩ w1 fun z2=>R An4 Bi9 [(1,pP b),(3,.slice none 0 0),(9,iI z2),(10,iI 0)] w1):=kR
theorem D12 (p:Addr) :
 xQ B85 C R An4 Tryz.f286 Bi9 [(1,.pointer (some p)),(3,.slice out outn outc),(9,iI x9),(10,iI x10)] h =
 cond (decide (x10<x9))
 (gInt .i64 (add p 0) h fun x=>ck ((0:Int)≤Int.tmod (wrap .i64 (x+x10)) 32∧Int.tmod (wrap .i64 (x+x10)) 32<((32:Nat):Int)) (gInt .u8 (add (add p 4) (Int.toNat (Int.tmod (wrap .i64 (x+x10)) 32)*1)) h fun z1=>nw (.cells A7 false [.int .u8 z1]) h fun b w=>gCells (some ⟨b,0,none⟩) (1*1) w fun cs=>ckB (fitsOpen out A7 w) (apd A7 1 out outn outc 1 cs w fun a an ac w1=>R An4 Bi9 [(1,.pointer (some p)),(3,.slice a an ac),(9,iI x9),(10,iI (wrap .i64 (x10+1)))] w1)))
 (some (.slice out outn outc,h)):=kR
def D67:Cuts:=⟨0,[],[],[]⟩
def Ga3:List Item:=A8 Tryz.f291
theorem Hw7 (B1:Int) :
 xQ D67 C R Au1 Tryz.f291 Ga3 [(0,iI n),(1,iI B1)] h =
 bnd (cond (decide (n≥0)) (some (decide (n≤B1),h)) (some (false,h))) fun c w=>some (.bool c,w):=kR
end
end Go.EQ

set_option maxRecDepth 100000
namespace Go.EQ
open Go Go.NN Go.Proofs
open Go.IntKind (wrap)
open Go.Addr (add)
variable (C:D7) (R:Ab9) (fv0 random:Addr) (ok wasBalanced wasPartitioned:Bool) (h:H) (a atv e env fd i idx j length limit lo modulus n name on pivot size to want x:Int) (f p:List Value) (bc bn datac datan lc ln sc sn:Nat) (b c data k l q r s t w:Option Addr) (cmp isv:Value)
noncomputable section
def Bx2:Cuts:=⟨0,[],[(11,[2])],[(2,⟨[0,1,2,3,4,5,6,7,12,8,9,10,11,13,14],[0,1,3,7,0,16,48,112,255,511,1023,1023,0,6143,16383],[],[]⟩)]⟩
def Bx9:List Item:=A8 Tryz.f10
def Da4:List Item:=stk [0,1,0,1,0,1,0,4,0,1,3,0,1,3,0,1,2,0,1,0] Bx9
theorem Bc7 :
 xQ Bx2 C R E6 Tryz.f10 Bx9 [(0,.pointer w)] h =
 nw (.cells Z1 false [iI 0,iI 0,iI 0,iI 0,iI 0,.slice none 0 0,iI 0,iI 0,.slice none 0 0,.bool false,.slice none 0 0,iI 0]) h fun b w1=>aSome w fun p=>gPtr (add p 4) w1 fun x=>bnd (C D1 [.pointer x] w1) fun r w2=>as0 r (aSome w fun p_1=>gPtr (add p_1 4) w2 fun z1=>aSome w fun p_2=>gInt .i64 (add p_2 2) w2 fun z2=>nw (.cells D2 false zZ1) w2 fun p1 w3=>bnd (C J9 [.pointer z1,iI z2] w3) fun q1 w4=>as2 q1 fun q2 q3=>aAgg q2 fun z3=>aInt .i64 q3 fun z4=>ck (List.length z3=16) (pAgg ⟨p1,0,none⟩ z3 w4 fun w5=>cond (z4==2)
 (bnd (C Gq6 [.pointer w] w5) fun q4 w6=>as2 q4 fun q5 q6=>aAgg q5 fun z5=>aBool q6 fun z6=>ck (List.length z5=12) (pAgg ⟨b,0,none⟩ z5 w6 fun w7=>gAgg ⟨b,0,none⟩ 12 w7 fun z7=>some (.tuple ⟨[.agg ⟨z7⟩,.bool z6]⟩,w7)))
 (bnd (cond (z4==0) (some (true,w5)) (gInt .i64 ⟨p1,0,none⟩ w5 fun z8=>some (z8==2,w5))) fun c w8=>cond c
 (bnd (C Av9 [.pointer w] w8) fun q7 w9=>as0 q7 (pAgg ⟨b,0,none⟩ [iI 0,iI 0,iI 0,iI 0,iI 0,.slice none 0 0,iI 0,iI 0,.slice none 0 0,.bool false,.slice none 0 0,iI 0] w9 fun w10=>gAgg ⟨b,0,none⟩ 12 w10 fun z9=>some (.tuple ⟨[.agg ⟨z9⟩,.bool false]⟩,w10)))
 (gInt .i64 ⟨p1,0,none⟩ w8 fun z10=>cond (z10==3)
 (aSome w fun p_3=>gInt .i64 (add p_3 5) w8 fun z11=>cond (z11==2)
 (bnd (C Ai0 [.pointer w,iI 1] w8) fun q8 w11=>as0 q8 (R E6 Da4 [(2,pP b)] w11))
 (R E6 Da4 [(2,pP b)] w8))
 (aSome w fun p_4=>gInt .i64 (add p_4 5) w8 fun z12=>cond (z12==1)
 (bnd (C Bd4 [.pointer w] w8) fun q9 w12=>as0 q9 (pAgg ⟨b,0,none⟩ [iI 0,iI 0,iI 0,iI 0,iI 0,.slice none 0 0,iI 0,iI 0,.slice none 0 0,.bool false,.slice none 0 0,iI 0] w12 fun w13=>gAgg ⟨b,0,none⟩ 12 w13 fun z13=>some (.tuple ⟨[.agg ⟨z13⟩,.bool false]⟩,w13)))
 (cond (z12==2)
 (bnd (C A96 [.pointer w] w8) fun q10 w14=>as2 q10 fun q11 q12=>aAgg q11 fun z14=>aBool q12 fun z15=>ck (List.length z14=12) (pAgg ⟨b,0,none⟩ z14 w14 fun w15=>gAgg ⟨b,0,none⟩ 12 w15 fun z16=>some (.tuple ⟨[.agg ⟨z16⟩,.bool z15]⟩,w15)))
 (cond (z12==3)
 (gAgg ⟨p1,0,none⟩ 16 w8 fun z17=>bnd (C Es3 [.pointer w,.agg ⟨z17⟩] w8) fun q13 w16=>as2 q13 fun q14 q15=>aAgg q14 fun z18=>aBool q15 fun z19=>ck (List.length z18=12) (pAgg ⟨b,0,none⟩ z18 w16 fun w17=>gAgg ⟨b,0,none⟩ 12 w17 fun z20=>some (.tuple ⟨[.agg ⟨z20⟩,.bool z19]⟩,w17)))
 (aSome w fun p_5=>gInt .i64 (add p_5 2) w8 fun z21=>bnd (C A06 [.pointer w,.agg ⟨[iI 0,iI z21,iI 0,iI 0,iI 0,.slice none 0 0,iI 0,iI 0,.slice none 0 0,.bool false,.slice none 0 0,iI 0]⟩] w8) fun q16 w18=>aAgg q16 fun z22=>nw (.cells Z1 false [iI 0,iI 0,iI 0,iI 0,iI 0,.slice none 0 0,iI 0,iI 0,.slice none 0 0,.bool false,.slice none 0 0,iI 0]) w18 fun p2 w19=>ck (List.length z22=12) (pAgg ⟨p2,0,none⟩ z22 w19 fun w20=>gSl ⟨p2,10,none⟩ w20 fun _ xn _=>bnd (cond (decide ((xn:Int)>0)) (some (true,w20)) (gInt .i64 ⟨p2,11,none⟩ w20 fun z24=>some (decide (z24>0),w20))) fun c_1 w21=>cond c_1
 (gAgg ⟨p2,0,none⟩ 12 w21 fun z25=>ck (List.length z25=12) (pAgg ⟨b,0,none⟩ z25 w21 fun w22=>gAgg ⟨b,0,none⟩ 12 w22 fun z26=>some (.tuple ⟨[.agg ⟨z26⟩,.bool true]⟩,w22)))
 (pAgg ⟨b,0,none⟩ [iI 0,iI 0,iI 0,iI 0,iI 0,.slice none 0 0,iI 0,iI 0,.slice none 0 0,.bool false,.slice none 0 0,iI 0] w21 fun w23=>gAgg ⟨b,0,none⟩ 12 w23 fun z27=>some (.tuple ⟨[.agg ⟨z27⟩,.bool false]⟩,w23))))))))))):=kR
def Bq8:Cuts:=⟨0,[],[],[(1,⟨[0,1,2,3,4,5,6,7,8,9,10,11,12,13,14,15],[0,0,2,6,14,0,32,96,224,510,1022,2046,2046,4095,12287,28671],[],[]⟩)]⟩
def Dm7:List Item:=A8 Tryz.f11
theorem E99 :
 xQ Bq8 C R A54 Tryz.f11 Dm7 [(0,.pointer w)] h =
 bnd (C Av9 [.pointer w] h) fun r w1=>as0 r (aSome w fun p=>gPtr (add p 0) w1 fun x=>aSome w fun p_1=>gInt .i64 (add p_1 1) w1 fun z1=>bnd (C Ap0 [.pointer x,iI z1] w1) fun q1 w2=>as2 q1 fun q2 q3=>aPtr q2 fun z2=>aInt .i64 q3 fun _=>aSome w fun p_2=>pV (add p_2 4) (.pointer z2) w2 fun w3=>some (.tuple ⟨[]⟩,w3)):=kR
def Bs5:Cuts:=⟨0,[],[],[]⟩
def Dn4:List Item:=A8 Tryz.f15
theorem E79 :
 xQ Bs5 C R Ah9 Tryz.f15 Dn4 [(0,.pointer w)] h =
 aSome w fun p=>gInt .i64 (add p 5) h fun x=>some (iI x,h):=kR
def Dj7:Cuts:=⟨0,[],[],[]⟩
def Eq7:List Item:=A8 Tryz.f16
theorem G85 :
 xQ Dj7 C R Bf7 Tryz.f16 Eq7 [] h =
 bnd (C Ac3 [] h) fun r w=>as4 r fun q1 q2 q3 q4=>aPtr q1 fun x=>aSl q2 fun z1 xn _=>aPtr q3 fun _=>aSl q4 fun _ _ _=>cond x.isNone
 (some (.bool false,w))
 (aSome z1 fun p=>ck ((0:Int)≤0∧0<(xn:Int)) (gPtr (add (B2 p) (Int.toNat 0*1)) w fun z4=>bnd (C S5 [.pointer z4,.agg ⟨[iI 1,iI 0,iI 0,.slice none 0 0]⟩] w) fun q5 w1=>aBool q5 fun z5=>aSome z1 fun p_1=>ck ((0:Int)≤0∧0<(xn:Int)) (gPtr (add (B2 p_1) (Int.toNat 0*1)) w1 fun z6=>bnd (C E6 [.pointer z6] w1) fun q6 w2=>as2 q6 fun q7 q8=>aAgg q7 fun z7=>aBool q8 fun z8=>nw (.cells Z1 false [iI 0,iI 0,iI 0,iI 0,iI 0,.slice none 0 0,iI 0,iI 0,.slice none 0 0,.bool false,.slice none 0 0,iI 0]) w2 fun b w3=>ck (List.length z7=12) (pAgg ⟨b,0,none⟩ z7 w3 fun w4=>aSome z1 fun p_2=>ck ((0:Int)≤0∧0<(xn:Int)) (gPtr (add (B2 p_2) (Int.toNat 0*1)) w4 fun z9=>bnd (C E6 [.pointer z9] w4) fun q9 w5=>as2 q9 fun q10 q11=>aAgg q10 fun z10=>aBool q11 fun z11=>nw (.cells Z1 false [iI 0,iI 0,iI 0,iI 0,iI 0,.slice none 0 0,iI 0,iI 0,.slice none 0 0,.bool false,.slice none 0 0,iI 0]) w5 fun p1 w6=>ck (List.length z10=12) (pAgg ⟨p1,0,none⟩ z10 w6 fun w7=>bnd (C A11 [.pointer x,iI 0,iI 9,iI 0] w7) fun q12 w8=>as2 q12 fun q13 q14=>aPtr q13 fun _=>aInt .i64 q14 fun z13=>bnd (C A11 [.pointer x,iI 0,iI 0,iI 9] w8) fun q15 w9=>as2 q15 fun q16 q17=>aPtr q16 fun _=>aInt .i64 q17 fun z15=>bnd (cond z5 (some (!z8,w9)) (some (false,w9))) fun c w10=>bnd (cond c (some (z11,w10)) (some (false,w10))) fun c_1 w11=>bnd (cond c_1 (gBool ⟨p1,9,none⟩ w11 fun z16=>some (z16,w11)) (some (false,w11))) fun c_2 w12=>bnd (cond c_2 (gInt .i64 ⟨p1,7,none⟩ w12 fun z17=>some (z17==0,w12)) (some (false,w12))) fun c_3 w13=>bnd (cond c_3 (gInt .i64 ⟨p1,6,none⟩ w13 fun z18=>some (z18==0,w13)) (some (false,w13))) fun c_4 w14=>bnd (cond c_4 (aSome z1 fun p_3=>ck ((0:Int)≤0∧0<(xn:Int)) (gPtr (add (B2 p_3) (Int.toNat 0*1)) w14 fun z19=>bnd (C Ah9 [.pointer z19] w14) fun q18 w15=>aInt .i64 q18 fun z20=>some (z20==0,w15))) (some (false,w14))) fun c_5 w16=>bnd (cond c_5 (some (z13==1,w16)) (some (false,w16))) fun c_6 w17=>bnd (cond c_6 (some (z15==8,w17)) (some (false,w17))) fun c_7 w18=>bnd (cond c_7 (aSome z1 fun p_4=>ck ((0:Int)≤1∧1<(xn:Int)) (gPtr (add (B2 p_4) (Int.toNat 1*1)) w18 fun z21=>bnd (C S5 [.pointer z21,.agg ⟨[iI 1,iI 0,iI 0,.slice none 0 0]⟩] w18) fun q19 w19=>aBool q19 fun z22=>some (!z22,w19))) (some (false,w18))) fun c_8 w20=>some (.bool c_8,w20))))))):=kR
def Eg1:Cuts:=⟨0,[],[],[]⟩
def Go0:List Item:=A8 Tryz.f23
theorem Ek1 (slot:Int) (sectionv:Int) :
 xQ Eg1 C R A11 Tryz.f23 Go0 [(0,.pointer k),(1,iI env),(2,iI slot),(3,iI sectionv)] h =
 bnd (C Ap0 [.pointer k,iI env] h) fun r w=>as2 r fun q1 q2=>aPtr q1 fun x=>aInt .i64 q2 fun z1=>cond (z1 != 0)
 (some (.tuple ⟨[.pointer none,iI z1]⟩,w))
 (bnd (cond (decide (slot<0)) (some (true,w)) (some (decide (slot≥8),w))) fun c w1=>cond c
 (some (.tuple ⟨[.pointer none,iI 1]⟩,w1))
 (bnd (C Z2 [.pointer k,iI sectionv] w1) fun q3 w2=>aPtr q3 fun z2=>cond z2.isNone
 (some (.tuple ⟨[.pointer none,iI 8]⟩,w2))
 (nw (.cells Au0 false [.pointer k,iI env,iI slot,iI sectionv,.pointer x,iI 0,iI 0,iI 0,iI 0,iI 0,.slice none 0 0]) w2 fun b w3=>some (.tuple ⟨[pP b,iI 0]⟩,w3)))):=kR
def Dd3:Cuts:=⟨0,[],[],[(1,⟨[0,1,2,3,4,5,6,7,9,10,11,12,13,14,15,16,8,17,18],[0,1,3,7,0,16,48,112,255,0,512,1536,3584,0,8192,24576,57344,131071,262143],[(8,[12,16])],[]⟩),(4,⟨[0,1,2,3,4,5,6,7,8,9,10,11,13,12,14],[0,1,3,7,0,16,48,112,0,256,768,1792,4095,0,16383],[],[]⟩)]⟩
def Ee8:List Item:=A8 Tryz.f31
theorem Eb7 :
 xQ Dd3 C R A96 Tryz.f31 Ee8 [(0,.pointer w)] h =
 nw (.cells Z1 false [iI 0,iI 0,iI 0,iI 0,iI 0,.slice none 0 0,iI 0,iI 0,.slice none 0 0,.bool false,.slice none 0 0,iI 0]) h fun b w1=>aSome w fun p=>gPtr (add p 0) w1 fun x=>aSome w fun p_1=>gInt .i64 (add p_1 3) w1 fun z1=>aSome w fun p_2=>gInt .i64 (add p_2 1) w1 fun z2=>aSome w fun p_3=>gInt .i64 (add p_3 6) w1 fun z3=>bnd (C Z2 [.pointer x,iI z1] w1) fun r w2=>aPtr r fun z4=>gInt .i64 (add p_2 1) w2 fun z5=>same (iI z2) (iI z5) (gInt .i64 (add p_3 6) w2 fun z6=>same (iI z3) (iI z6) (bnd (C Ai1 [.pointer z4,iI z2,iI z3] w2) fun q1 w3=>aBool q1 fun z7=>cond (!z7)
 (aSome w fun p_4=>pV (add p_4 5) (iI 1) w3 fun w4=>pAgg ⟨b,0,none⟩ [iI 0,iI 0,iI 0,iI 0,iI 0,.slice none 0 0,iI 0,iI 0,.slice none 0 0,.bool false,.slice none 0 0,iI 0] w4 fun w5=>gAgg ⟨b,0,none⟩ 12 w5 fun z8=>some (.tuple ⟨[.agg ⟨z8⟩,.bool false]⟩,w5))
 (aSome w fun p_5=>gPtr (add p_5 4) w3 fun z9=>aSome w fun p_6=>gInt .i64 (add p_6 2) w3 fun z10=>aSome w fun p_7=>gAgg (add p_7 7) 4 w3 fun z11=>nw (.cells Q8 false [iI 0,iI 0,.slice none 0 0,.bool false]) w3 fun p1 w6=>bnd (C Dq7 [.pointer z9,iI z10,.agg ⟨z11⟩] w6) fun q2 w7=>aAgg q2 fun z12=>ck (List.length z12=4) (pAgg ⟨p1,0,none⟩ z12 w7 fun w8=>gBool ⟨p1,3,none⟩ w8 fun z13=>cond z13
 (bnd (C Ai0 [.pointer w,iI 3] w8) fun q3 w9=>as0 q3 (pAgg ⟨b,0,none⟩ [iI 0,iI 0,iI 0,iI 0,iI 0,.slice none 0 0,iI 0,iI 0,.slice none 0 0,.bool false,.slice none 0 0,iI 0] w9 fun w10=>gAgg ⟨b,0,none⟩ 12 w10 fun z14=>some (.tuple ⟨[.agg ⟨z14⟩,.bool false]⟩,w10)))
 (bnd (C Ai0 [.pointer w,iI 0] w8) fun q4 w11=>as0 q4 (gAgg ⟨p1,0,none⟩ 4 w11 fun z15=>bnd (C Bd1 [.pointer w,.agg ⟨z15⟩] w11) fun q5 w12=>aAgg q5 fun z16=>nw (.cells Z1 false [iI 0,iI 0,iI 0,iI 0,iI 0,.slice none 0 0,iI 0,iI 0,.slice none 0 0,.bool false,.slice none 0 0,iI 0]) w12 fun p2 w13=>ck (List.length z16=12) (pAgg ⟨p2,0,none⟩ z16 w13 fun w14=>aSome w fun p_8=>gInt .i64 (add (add p_8 7) 0) w14 fun z17=>cond (z17 != 3)
 (gAgg ⟨p2,0,none⟩ 12 w14 fun z18=>bnd (C A06 [.pointer w,.agg ⟨z18⟩] w14) fun q6 w15=>aAgg q6 fun z19=>ck (List.length z19=12) (pAgg ⟨p2,0,none⟩ z19 w15 fun w16=>gAgg ⟨p2,0,none⟩ 12 w16 fun z20=>ck (List.length z20=12) (pAgg ⟨b,0,none⟩ z20 w16 fun w17=>gAgg ⟨b,0,none⟩ 12 w17 fun z21=>some (.tuple ⟨[.agg ⟨z21⟩,.bool true]⟩,w17))))
 (gAgg ⟨p2,0,none⟩ 12 w14 fun z22=>ck (List.length z22=12) (pAgg ⟨b,0,none⟩ z22 w14 fun w18=>gAgg ⟨b,0,none⟩ 12 w18 fun z23=>some (.tuple ⟨[.agg ⟨z23⟩,.bool true]⟩,w18)))))))))):=kR
def Dv9:Cuts:=⟨0,[],[],[]⟩
def E33:List Item:=A8 Tryz.f40
theorem Hh0 :
 xQ Dv9 C R Bm1 Tryz.f40 E33 [(0,.agg ⟨p⟩)] h =
 nw (.cells B54 false p) h fun b w=>gAgg ⟨b,0,none⟩ 3 w fun x=>bnd (C L7 [.agg ⟨x⟩] w) fun r w1=>aAgg r fun z1=>nw (.cells E4 false [.slice none 0 0,.slice none 0 0,.slice none 0 0,iI 0,.slice none 0 0]) w1 fun p1 w2=>ck (List.length z1=5) (pAgg ⟨p1,0,none⟩ z1 w2 fun w3=>gAgg ⟨p1,0,none⟩ 5 w3 fun z2=>bnd (C J0 [.agg ⟨z2⟩] w3) fun q1 w4=>as2 q1 fun q2 q3=>aPtr q2 fun z3=>aInt .i64 q3 fun z4=>bnd (cond z3.isNone (some (true,w4)) (some (z4 != 0,w4))) fun c w5=>cond c
 (some (.tuple ⟨[.pointer none,.pointer none,.pointer none,.pointer none]⟩,w5))
 (gAgg ⟨p1,0,none⟩ 5 w5 fun z5=>bnd (C G9 [.agg ⟨z5⟩] w5) fun q4 w6=>aPtr q4 fun z6=>bnd (C Ap0 [.pointer z3,iI 0] w6) fun q5 w7=>as2 q5 fun q6 q7=>aPtr q6 fun z7=>aInt .i64 q7 fun z8=>bnd (cond z7.isNone (some (true,w7)) (some (z8 != 0,w7))) fun c_1 w8=>cond c_1
 (some (.tuple ⟨[.pointer none,.pointer none,.pointer none,.pointer none]⟩,w8))
 (bnd (C Be6 [] w8) fun q8 w9=>aStr q8 fun z9=>ck (ByteArray.size z9≤B1) (nw (.cells A7 false (A0 (ByteArray.data z9).toList)) w9 fun p2 w10=>bnd (C M0 [.pointer z3,iI 0,.agg ⟨[iI 2,iI 256,iI 0,iI 0,iI 0,iI 0,.slice (some (N4 p2)) (ByteArray.size z9) (ByteArray.size z9)]⟩] w10) fun q9 w11=>aAgg q9 fun z10=>nth z10 0 fun E=>aInt .i64 E fun E_1=>cond (E_1 != 0)
 (some (.tuple ⟨[.pointer none,.pointer none,.pointer none,.pointer none]⟩,w11))
 (ck (ByteArray.size z9≤B1) (nw (.cells A7 false (A0 (ByteArray.data z9).toList)) w11 fun p3 w12=>bnd (C Av1 [.pointer z6,iI 0,.agg ⟨[iI 2,iI 256,iI 0,iI 0,iI 0,iI 0,.slice (some (N4 p3)) (ByteArray.size z9) (ByteArray.size z9)]⟩] w12) fun q10 w13=>as3 q10 fun q11 q12 q13=>aInt .i64 q11 fun _=>aInt .i64 q12 fun _=>aStr q13 fun _=>bnd (C Am3 [.pointer z6,iI 0] w13) fun q14 w14=>aPtr q14 fun z14=>some (.tuple ⟨[.pointer z3,.pointer z7,.pointer z6,.pointer z14]⟩,w14))))))):=kR
def Db0:Cuts:=⟨0,[],[],[]⟩
def Ee0:List Item:=A8 Tryz.f43
theorem Gu6 (c:List Value) :
 xQ Db0 C R M0 Tryz.f43 Ee0 [(0,.pointer k),(1,iI env),(2,.agg ⟨c⟩)] h =
 nw (.cells A02 false c) h fun b w=>nw (.cells Dz9 false [iI 0,iI 0,.slice none 0 0]) w fun p1 w1=>bnd (cond (decide (env<0)) (some (true,w1)) (aSome k fun p=>gSl (add p 0) w1 fun _ xn _=>some (decide (env≥(xn:Int)),w1))) fun c_1 w2=>cond c_1
 (pAgg ⟨p1,0,none⟩ [iI 1,iI 0,.slice none 0 0] w2 fun w3=>gAgg ⟨p1,0,none⟩ 3 w3 fun z1=>some (.agg ⟨z1⟩,w3))
 (gAgg ⟨b,0,none⟩ 7 w2 fun z2=>bnd (C A55 [.pointer k,iI env,.agg ⟨z2⟩] w2) fun r w4=>as3 r fun q1 q2 q3=>aSl q1 fun z3 xn_1 xc_1=>aInt .i64 q2 fun z4=>aBool q3 fun z5=>cond z5
 (pAgg ⟨p1,0,none⟩ [iI z4,iI 0,.slice z3 xn_1 xc_1] w4 fun w5=>gAgg ⟨p1,0,none⟩ 3 w5 fun z6=>some (.agg ⟨z6⟩,w5))
 (gAgg ⟨b,0,none⟩ 7 w4 fun z7=>bnd (C A19 [.pointer k,iI env,.agg ⟨z7⟩] w4) fun q4 w6=>as2 q4 fun q5 q6=>aInt .i64 q5 fun z8=>aInt .i64 q6 fun z9=>pAgg ⟨p1,0,none⟩ [iI z9,iI z8,.slice none 0 0] w6 fun w7=>gAgg ⟨p1,0,none⟩ 3 w7 fun z10=>some (.agg ⟨z10⟩,w7))):=kR
def Dc2:Cuts:=⟨0,[],[],[(7,⟨[0,1,2,3,4,5,6,7,8,9,10,11,12,13,14,15,16],[0,1,3,7,0,0,32,0,128,0,512,2047,4095,8191,8191,16383,65535],[],[]⟩),(9,⟨[0,1,2,3,4,5,6,7,8,9,10,11,12,13],[0,1,3,7,0,0,32,0,128,0,512,1536,4095,8191],[],[]⟩),(11,⟨[0,1,2,3,4,5,6,7,8,9,10,11,12,13,14,15,16],[0,1,3,7,0,0,32,0,128,0,512,0,2048,0,8192,32767,65535],[],[]⟩),(13,⟨[0,1,2,3,4,5,6,7,8,9,10,11,12,13,14,15,16,17,18,19,20,21,22,23],[0,1,3,7,15,31,63,0,0,256,0,1024,0,4096,0,16384,0,65536,262143,524287,1048575,1048575,2097151,8388607],[],[]⟩),(15,⟨[0,1,2,3,4,5,6,7,8,9,10,11,12,13,14,15],[0,1,3,7,15,31,63,0,0,256,1023,2047,4095,4095,8191,32767],[],[]⟩),(17,⟨[0,1,2,3,4,5,6,7,8,9,10,11,12,13,14,15,16,17],[0,1,3,7,0,16,48,112,240,0,1008,2032,4095,8191,16383,16383,32767,131071],[],[]⟩),(19,⟨[0,1,2,3,4,5,6,7,8,9,10,11,12,13,14,15],[0,1,3,7,0,16,48,112,240,0,1008,2032,0,4096,16383,32767],[],[]⟩),(23,⟨[0,1,2,3,4,5,6,7,8,9,10,11,12,13,14,15,16,17],[0,1,3,7,0,16,63,127,0,0,512,1536,3584,8191,16383,32767,32767,65535],[],[]⟩),(27,⟨[0,1,2,3,4,5,6,7,8,9,10,11,12,13,14,15,16,17,18],[0,0,0,4,15,31,63,127,255,511,63,1087,4095,8191,63,63,32831,131071,262143],[],[]⟩)]⟩
def Eb1:List Item:=A8 Tryz.f44
theorem Gx3 (c:List Value) :
 xQ Dc2 C R Av1 Tryz.f44 Eb1 [(0,.pointer k),(1,iI e),(2,.agg ⟨c⟩)] h =
 nw (.cells A02 false c) h fun b w=>bnd (cond (decide (e<0)) (some (true,w)) (aSome k fun p=>gSl (add (add p 0) 1) w fun _ xn _=>some (decide (e≥(xn:Int)),w))) fun c_1 w1=>cond c_1
 (some (.tuple ⟨[iI 1,iI 0,.string (ByteArray.mk ⟨[]⟩)]⟩,w1))
 (gInt .i64 ⟨b,0,none⟩ w1 fun z1=>cond (z1==1)
 (aSome k fun p_1=>gPtr (add p_1 6) w1 fun z2=>gInt .i64 ⟨b,1,none⟩ w1 fun z3=>gInt .i64 ⟨b,2,none⟩ w1 fun z4=>gInt .i64 ⟨b,3,none⟩ w1 fun z5=>bnd (C Et0 [.pointer z2,iI e,iI z3,iI z4,iI z5] w1) fun r w2=>as2 r fun q1 q2=>aStr q1 fun z6=>aInt .i64 q2 fun z7=>some (.tuple ⟨[iI z7,iI 0,.string z6]⟩,w2))
 (cond (z1==2)
 (aSome k fun p_2=>gPtr (add p_2 6) w1 fun z8=>gInt .i64 ⟨b,1,none⟩ w1 fun z9=>gInt .i64 ⟨b,2,none⟩ w1 fun z10=>gSl ⟨b,6,none⟩ w1 fun z11 xn_1 _=>gCells z11 xn_1 w1 fun cs=>asBytes cs fun l=>bnd (C As6 [.pointer z8,iI e,iI z9,iI z10,.string (ByteArray.mk ⟨l⟩)] w1) fun q3 w3=>aInt .i64 q3 fun z12=>some (.tuple ⟨[iI z12,iI 0,.string (ByteArray.mk ⟨[]⟩)]⟩,w3))
 (cond (z1==3)
 (aSome k fun p_3=>gPtr (add p_3 6) w1 fun z13=>gInt .i64 ⟨b,1,none⟩ w1 fun z14=>gInt .i64 ⟨b,2,none⟩ w1 fun z15=>gInt .i64 ⟨b,4,none⟩ w1 fun z16=>gInt .i64 ⟨b,5,none⟩ w1 fun z17=>gInt .i64 ⟨b,3,none⟩ w1 fun z18=>bnd (C Et1 [.pointer z13,iI e,iI z14,iI z15,iI z16,iI z17,iI z18] w1) fun q4 w4=>aInt .i64 q4 fun z19=>some (.tuple ⟨[iI z19,iI 0,.string (ByteArray.mk ⟨[]⟩)]⟩,w4))
 (cond (z1==4)
 (aSome k fun p_4=>gPtr (add p_4 6) w1 fun z20=>aSome z20 fun p_5=>gPtr (add p_5 3) w1 fun z21=>gInt .i64 ⟨b,1,none⟩ w1 fun z22=>gInt .i64 ⟨b,4,none⟩ w1 fun z23=>gInt .i64 ⟨b,5,none⟩ w1 fun z24=>gInt .i64 ⟨b,2,none⟩ w1 fun z25=>gInt .i64 ⟨b,3,none⟩ w1 fun z26=>bnd (C Ev5 [.pointer z21,iI e,iI z22,iI z23,iI z24,iI z25,iI z26] w1) fun q5 w5=>as2 q5 fun q6 q7=>aInt .i64 q6 fun z27=>aInt .i64 q7 fun z28=>some (.tuple ⟨[iI z28,iI z27,.string (ByteArray.mk ⟨[]⟩)]⟩,w5))
 (cond (z1==5)
 (aSome k fun p_6=>gPtr (add p_6 6) w1 fun z29=>aSome z29 fun p_7=>gPtr (add p_7 3) w1 fun z30=>gInt .i64 ⟨b,1,none⟩ w1 fun z31=>bnd (C Es5 [.pointer z30,iI e,iI z31] w1) fun q8 w6=>as2 q8 fun q9 q10=>aInt .i64 q9 fun z32=>aInt .i64 q10 fun z33=>some (.tuple ⟨[iI z33,iI z32,.string (ByteArray.mk ⟨[]⟩)]⟩,w6))
 (cond (z1==6)
 (aSome k fun p_8=>gPtr (add p_8 5) w1 fun z34=>aSome k fun p_9=>gSl (add (add p_9 0) 1) w1 fun z35 xn_2 _=>aSome z35 fun p_10=>ck ((0:Int)≤e∧e<(xn_2:Int)) (gInt .i64 (add (B2 p_10) (Int.toNat e*1)) w1 fun z36=>bnd (C E17 [.pointer z34,iI z36] w1) fun q11 w7=>as2 q11 fun q12 q13=>aInt .i64 q12 fun z37=>aInt .i64 q13 fun z38=>some (.tuple ⟨[iI z38,iI z37,.string (ByteArray.mk ⟨[]⟩)]⟩,w7)))
 (cond (z1==7)
 (aSome k fun p_11=>gPtr (add p_11 5) w1 fun z39=>aSome k fun p_12=>gSl (add (add p_12 0) 1) w1 fun z40 xn_3 _=>aSome z40 fun p_13=>ck ((0:Int)≤e∧e<(xn_3:Int)) (gInt .i64 (add (B2 p_13) (Int.toNat e*1)) w1 fun z41=>gInt .i64 ⟨b,3,none⟩ w1 fun z42=>bnd (C E94 [.pointer z39,iI z41,iI z42] w1) fun q14 w8=>aInt .i64 q14 fun z43=>some (.tuple ⟨[iI z43,iI 0,.string (ByteArray.mk ⟨[]⟩)]⟩,w8)))
 (cond (z1==8)
 (gInt .i64 ⟨b,3,none⟩ w1 fun z44=>bnd (C D51 [.pointer k,iI e,iI z44] w1) fun q15 w9=>aBool q15 fun z45=>cond z45
 (aSome k fun p_14=>gSl (add p_14 7) w9 fun z46 xn_4 _=>gInt .i64 ⟨b,3,none⟩ w9 fun z47=>aSome z46 fun p_15=>ck ((0:Int)≤z47∧z47<(xn_4:Int)) (gPtr (add (B2 p_15) (Int.toNat z47*1)) w9 fun z48=>aSome k fun p_16=>gInt .i64 (add p_16 8) w9 fun z49=>bnd (C E78 [.pointer z48,iI e,iI z49] w9) fun q16 w10=>as2 q16 fun q17 q18=>aInt .i64 q17 fun z50=>aBool q18 fun _=>some (.tuple ⟨[iI 0,iI z50,.string (ByteArray.mk ⟨[]⟩)]⟩,w10)))
 (some (.tuple ⟨[iI 8,iI 0,.string (ByteArray.mk ⟨[]⟩)]⟩,w9)))
 (cond (z1==9)
 (gInt .i64 ⟨b,3,none⟩ w1 fun z52=>bnd (C D51 [.pointer k,iI e,iI z52] w1) fun q19 w11=>aBool q19 fun z53=>bnd (cond z53 (aSome k fun p_17=>gSl (add p_17 7) w11 fun z54 xn_5 _=>gInt .i64 ⟨b,3,none⟩ w11 fun z55=>aSome z54 fun p_18=>ck ((0:Int)≤z55∧z55<(xn_5:Int)) (gPtr (add (B2 p_18) (Int.toNat z55*1)) w11 fun z56=>gInt .i64 ⟨b,2,none⟩ w11 fun z57=>bnd (C E88 [.pointer z56,iI e,iI z57] w11) fun q20 w12=>aBool q20 fun z58=>some (z58,w12))) (some (false,w11))) fun c_2 w13=>cond c_2
 (some (.tuple ⟨[iI 0,iI 0,.string (ByteArray.mk ⟨[]⟩)]⟩,w13))
 (some (.tuple ⟨[iI 8,iI 0,.string (ByteArray.mk ⟨[]⟩)]⟩,w13)))
 (cond (z1==10)
 (aSome k fun p_19=>gInt .i64 (add p_19 8) w1 fun z59=>some (.tuple ⟨[iI 0,iI z59,.string (ByteArray.mk ⟨[]⟩)]⟩,w1))
 (some (.tuple ⟨[iI 7,iI 0,.string (ByteArray.mk ⟨[]⟩)]⟩,w1)))))))))))):=kR
def A33:Cuts:=⟨0,[],[],[]⟩
def Bu0:List Item:=A8 Tryz.f53
theorem D96 :
 xQ A33 C R Ad0 Tryz.f53 Bu0 [(0,.pointer c)] h =
 nw (.cells D3 false zZ2) h fun b w=>bnd (C J7 [.pointer c,.agg ⟨[iI 4,iI 0]⟩,.func (.func Ap3) ⟨[]⟩ ⟨[]⟩] w) fun r w1=>as2 r fun q1 q2=>aAgg q1 fun x=>aInt .i64 q2 fun z1=>ck (List.length x=36) (pAgg ⟨b,0,none⟩ x w1 fun w2=>gAgg ⟨b,0,none⟩ 36 w2 fun z2=>some (.tuple ⟨[.agg ⟨z2⟩,iI z1]⟩,w2)):=kR
def Ay3:Cuts:=⟨0,[],[],[]⟩
def Bq5:List Item:=A8 Tryz.f54
theorem D05 :
 xQ Ay3 C R Ak0 Tryz.f54 Bq5 [(0,.pointer c)] h =
 bnd (C U6 [.pointer c,.agg ⟨[iI 5,iI 0]⟩,.func (.func Ai2) ⟨[]⟩ ⟨[]⟩] h) fun r w=>as2 r fun q1 q2=>aInt .i64 q1 fun x=>aInt .i64 q2 fun z1=>some (.tuple ⟨[iI x,.bool (z1==1)]⟩,w):=kR
def Bq7:Cuts:=⟨0,[],[],[]⟩
def Dm2:List Item:=A8 Tryz.f57
theorem E97 (who:Int) (stamp:Int) :
 xQ Bq7 C R Ai1 Tryz.f57 Dm2 [(0,.pointer s),(1,iI who),(2,iI stamp)] h =
 aSome s fun p=>gBool (add p 1) h fun x=>bnd (cond x (aSome s fun p_1=>gInt .i64 (add p_1 2) h fun z1=>some (z1==who,h)) (some (false,h))) fun c w=>bnd (cond c (aSome s fun p_2=>gInt .i64 (add p_2 3) w fun z2=>some (z2==stamp,w)) (some (false,w))) fun c_1 w1=>some (.bool c_1,w1):=kR
def Bv5:Cuts:=⟨0,[(1,[1,2,3])],[],[]⟩
def Dk6:List Item:=A8 Tryz.f64
def Av4:List Item:=stk [0,1,4,5] Dk6
theorem G82 :
 xQ Bv5 C R Ad6 Tryz.f64 Dk6 [(0,.agg ⟨p⟩)] h =
 nw (.cells D2 false p) h fun b w=>nw (.cells D2 false zZ1) w fun p1 w1=>R Ad6 Av4 [(1,pP b),(2,pP p1),(3,.slice none 0 0)] w1:=kR
theorem Gh6 (p:Addr) (q:Addr) (caught:Option Addr) (caughtn caughtc:Nat) :
 xQ Bv5 C R Ad6 Tryz.f64 Av4 [(1,.pointer (some p)),(2,.pointer (some q)),(3,.slice caught caughtn caughtc)] h =
 gAgg p 16 h fun x=>bnd (C Bo8 [.agg ⟨x⟩] h) fun r w=>as2 r fun q1 q2=>aInt .i64 q1 fun z1=>aInt .i64 q2 fun z2=>cond (z2==0)
 (gAgg p 16 w fun z3=>ck (List.length z3=16) (pAgg q z3 w fun w1=>gAgg q 16 w1 fun z4=>some (.tuple ⟨[.agg ⟨z4⟩,.slice caught caughtn caughtc,iI 0]⟩,w1)))
 (gInt .i64 (add p 4) w fun z5=>ck ((0:Int)≤(wrap .u64 (z1))) (pV (add p 4) (iI (B21 .i64 z5 (wrap .i64 (1*2 ^ (min (Int.toNat (wrap .u64 (z1))) 64))))) w fun w2=>cond (z2==2)
 (nw (.cells B5 false [iI z1]) w2 fun b w3=>gCells (some ⟨b,0,none⟩) (1*1) w3 fun cs=>ckB (fitsOpen caught B5 w3) (apd B5 1 caught caughtn caughtc 1 cs w3 fun a an ac w4=>R Ad6 Av4 [(1,.pointer (some p)),(2,.pointer (some q)),(3,.slice a an ac)] w4))
 (cond (z2==3)
 (pV (add p 0) (iI 3) w2 fun w5=>R Ad6 Av4 [(1,.pointer (some p)),(2,.pointer (some q)),(3,.slice caught caughtn caughtc)] w5)
 (cond (z2==4)
 (gAgg p 16 w2 fun z6=>ck (List.length z6=16) (pAgg q z6 w2 fun w6=>gAgg q 16 w6 fun z7=>some (.tuple ⟨[.agg ⟨z7⟩,.slice caught caughtn caughtc,iI z1]⟩,w6)))
 (R Ad6 Av4 [(1,.pointer (some p)),(2,.pointer (some q)),(3,.slice caught caughtn caughtc)] w2))))):=kR
def Bk8:Cuts:=⟨0,[],[],[]⟩
def Dh9:List Item:=A8 Tryz.f68
theorem Ey8 :
 xQ Bk8 C R An1 Tryz.f68 Dh9 [(0,.pointer s),(1,iI env)] h =
 bnd (C Ah2 [.pointer s,iI env] h) fun r w=>aBool r fun x=>cond (!x)
 (some (.slice none 0 0,w))
 (aSome s fun p=>gSl (add p 0) w fun z1 xn _=>aSome z1 fun p_1=>ck ((0:Int)≤env∧env<(xn:Int)) (gPtr (add (B2 p_1) (Int.toNat env*1)) w fun z2=>bnd (C G7 [.pointer z2] w) fun q1 w1=>aSl q1 fun z3 xn_1 xc_1=>some (.slice z3 xn_1 xc_1,w1))):=kR
def Dk0:Cuts:=⟨0,[],[],[]⟩
def Eq5:List Item:=A8 Tryz.f70
theorem G77 :
 xQ Dk0 C R Ap1 Tryz.f70 Eq5 [(0,.slice b bn bc)] h =
 bnd (C U2 [.slice b bn bc,.func (.func Ag6) ⟨[]⟩ ⟨[]⟩] h) fun r w=>aBool r fun x=>some (.bool (!x),w):=kR
def Dr2:Cuts:=⟨0,[(3,[0,3,4])],[],[]⟩
def El8:List Item:=A8 Tryz.f76
def Bw5:List Item:=stk [0,1,0,1,0,0,1,4,5] El8
theorem H75 (b:ByteArray) :
 xQ Dr2 C R Ag5 Tryz.f76 El8 [(0,.string b)] h =
 R Ag5 Bw5 [(0,.string b),(3,iI ((ByteArray.size b:Nat):Int)),(4,iI 0)] h:=kR
theorem Eq8 (b:ByteArray) :
 xQ Dr2 C R Ag5 Tryz.f76 Bw5 [(0,.string b),(3,iI n),(4,iI i)] h =
 cond (decide (i<((ByteArray.size b:Nat):Int)))
 (ck ((0:Int)≤i∧i<((ByteArray.size b:Nat):Int)) (R Ag5 Bw5 [(0,.string b),(3,iI (wrap .i64 (n+(wrap .i64 (((List.getD (ByteArray.data b).toList (Int.toNat i) 0).toNat:Int)))))),(4,iI (wrap .i64 (i+1)))] h))
 (some (.int .u8 (wrap .u8 (n)),h)):=kR
def Bs3:Cuts:=⟨0,[],[],[(4,⟨[0,1,2,3,4,5,6,7,8,9,10,11,12,13,14,15,16],[0,1,3,7,0,0,32,0,128,0,512,2047,4095,8191,8191,16383,65535],[],[]⟩),(6,⟨[0,1,2,3,4,5,6,7,8,9,10,11,12],[0,1,3,7,0,0,32,0,128,0,512,2047,4095],[],[]⟩),(8,⟨[0,1,2,3,4,5,6,7,8,9,10,11,12,13,14,15,16],[0,1,3,7,0,0,32,0,128,0,512,0,2048,0,8192,32767,65535],[],[]⟩)]⟩
def Dn3:List Item:=A8 Tryz.f77
theorem E93 (c:List Value) :
 xQ Bs3 C R A55 Tryz.f77 Dn3 [(0,.pointer k),(1,iI env),(2,.agg ⟨c⟩)] h =
 nw (.cells A02 false c) h fun b w=>gInt .i64 ⟨b,0,none⟩ w fun x=>cond (x==1)
 (aSome k fun p=>gPtr (add p 5) w fun z1=>gInt .i64 ⟨b,1,none⟩ w fun z2=>gInt .i64 ⟨b,2,none⟩ w fun z3=>gInt .i64 ⟨b,3,none⟩ w fun z4=>bnd (C Ae7 [.pointer z1,iI env,iI z2,iI z3,iI z4] w) fun r w1=>as2 r fun q1 q2=>aSl q1 fun z5 xn xc=>aInt .i64 q2 fun z6=>some (.tuple ⟨[.slice z5 xn xc,iI z6,.bool true]⟩,w1))
 (cond (x==2)
 (aSome k fun p_1=>gPtr (add p_1 5) w fun z7=>gInt .i64 ⟨b,1,none⟩ w fun z8=>gInt .i64 ⟨b,2,none⟩ w fun z9=>gSl ⟨b,6,none⟩ w fun z10 xn_1 xc_1=>bnd (C Ac4 [.pointer z7,iI env,iI z8,iI z9,.slice z10 xn_1 xc_1] w) fun q3 w2=>aInt .i64 q3 fun z11=>some (.tuple ⟨[.slice none 0 0,iI z11,.bool true]⟩,w2))
 (cond (x==3)
 (aSome k fun p_2=>gPtr (add p_2 5) w fun z12=>gInt .i64 ⟨b,1,none⟩ w fun z13=>gInt .i64 ⟨b,2,none⟩ w fun z14=>gInt .i64 ⟨b,4,none⟩ w fun z15=>gInt .i64 ⟨b,5,none⟩ w fun z16=>gInt .i64 ⟨b,3,none⟩ w fun z17=>bnd (C An9 [.pointer z12,iI env,iI z13,iI z14,iI z15,iI z16,iI z17] w) fun q4 w3=>aInt .i64 q4 fun z18=>some (.tuple ⟨[.slice none 0 0,iI z18,.bool true]⟩,w3))
 (some (.tuple ⟨[.slice none 0 0,iI 0,.bool false]⟩,w)))):=kR
def Dc3:Cuts:=⟨0,[],[],[]⟩
def Ec9:List Item:=A8 Tryz.f94
theorem Gx7 :
 xQ Dc3 C R Au6 Tryz.f94 Ec9 [(0,.slice b bn bc)] h =
 nw (.cells D8 false [iI 0,iI 0,iI 0,iI 0]) h fun p1 w=>bnd (cond ((bn:Int)==8) (bnd (C Ap1 [.slice b bn bc] w) fun r w1=>aBool r fun x=>some (x,w1)) (some (false,w))) fun c w2=>cond c
 (pAgg ⟨p1,0,none⟩ [iI 0,iI 0,iI 0,iI 0] w2 fun w3=>gAgg ⟨p1,0,none⟩ 4 w3 fun z1=>some (.tuple ⟨[.agg ⟨z1⟩,iI 0]⟩,w3))
 (bnd (C Bg3 [] w2) fun q1 w4=>aPtr q1 fun z2=>bnd (C Y2 [.pointer z2,.slice b bn bc] w4) fun q2 w5=>as2 q2 fun q3 q4=>aAgg q3 fun z3=>aBool q4 fun z4=>nw (.cells D8 false [iI 0,iI 0,iI 0,iI 0]) w5 fun p2 w6=>ck (List.length z3=4) (pAgg ⟨p2,0,none⟩ z3 w6 fun w7=>cond (!z4)
 (pAgg ⟨p1,0,none⟩ [iI 0,iI 0,iI 0,iI 0] w7 fun w8=>gAgg ⟨p1,0,none⟩ 4 w8 fun z5=>some (.tuple ⟨[.agg ⟨z5⟩,iI 2]⟩,w8))
 (gAgg ⟨p2,0,none⟩ 4 w7 fun z6=>ck (List.length z6=4) (pAgg ⟨p1,0,none⟩ z6 w7 fun w9=>gAgg ⟨p1,0,none⟩ 4 w9 fun z7=>some (.tuple ⟨[.agg ⟨z7⟩,iI 1]⟩,w9))))):=kR
def Dj5:Cuts:=⟨0,[],[],[]⟩
def Es2:List Item:=A8 Tryz.f97
theorem G75 :
 xQ Dj5 C R Ap3 Tryz.f97 Es2 [(0,.slice b bn bc)] h =
 nw (.cells D3 false zZ2) h fun p1 w=>bnd (cond ((bn:Int)==40) (bnd (C Ap1 [.slice b bn bc] w) fun r w1=>aBool r fun x=>some (x,w1)) (some (false,w))) fun c w2=>cond c
 (pAgg ⟨p1,0,none⟩ zZ2 w2 fun w3=>gAgg ⟨p1,0,none⟩ 36 w3 fun z1=>some (.tuple ⟨[.agg ⟨z1⟩,iI 0]⟩,w3))
 (bnd (C Bn4 [] w2) fun q1 w4=>aPtr q1 fun z2=>bnd (C Y4 [.pointer z2,.slice b bn bc] w4) fun q2 w5=>as2 q2 fun q3 q4=>aAgg q3 fun z3=>aBool q4 fun z4=>nw (.cells D3 false zZ2) w5 fun p2 w6=>ck (List.length z3=36) (pAgg ⟨p2,0,none⟩ z3 w6 fun w7=>cond (!z4)
 (pAgg ⟨p1,0,none⟩ zZ2 w7 fun w8=>gAgg ⟨p1,0,none⟩ 36 w8 fun z5=>some (.tuple ⟨[.agg ⟨z5⟩,iI 2]⟩,w8))
 (gAgg ⟨p2,0,none⟩ 36 w7 fun z6=>ck (List.length z6=36) (pAgg ⟨p1,0,none⟩ z6 w7 fun w9=>gAgg ⟨p1,0,none⟩ 36 w9 fun z7=>some (.tuple ⟨[.agg ⟨z7⟩,iI 1]⟩,w9))))):=kR
def D70:Cuts:=⟨0,[],[(13,[0,1,6,7,8,9])],[]⟩
def Ea2:List Item:=A8 Tryz.f108
def Db4:List Item:=stk [0,1,0,1,0,1,0,1,0,4,0] Ea2
theorem Hv5 (s:List Value) :
 xQ D70 C R Ac5 Tryz.f108 Ea2 [(0,.pointer c),(1,iI i),(2,.agg ⟨s⟩)] h =
 nw (.cells Dh3 false s) h fun b w=>nw (.cells Q8 false [iI 0,iI 0,.slice none 0 0,.bool false]) w fun p1 w1=>bnd (C A41 [.pointer c,iI i] w1) fun r w2=>as2 r fun q1 q2=>aAgg q1 fun x=>aInt .i64 q2 fun z1=>nw (.cells D2 false zZ1) w2 fun p2 w3=>ck (List.length x=16) (pAgg ⟨p2,0,none⟩ x w3 fun w4=>cond (z1 != 0)
 (R Ac5 Db4 [(0,.pointer c),(1,iI i),(6,pP p1),(7,pP p2),(8,iI z1),(9,iI 0)] w4)
 (gInt .i64 ⟨b,0,none⟩ w4 fun z2=>cond (z2==1)
 (pAgg ⟨p1,0,none⟩ [iI i,iI 0,.slice none 0 0,.bool false] w4 fun w5=>gAgg ⟨p1,0,none⟩ 4 w5 fun z3=>some (.agg ⟨z3⟩,w5))
 (gInt .i64 ⟨b,0,none⟩ w4 fun z4=>cond (z4==17)
 (gInt .i64 ⟨p2,1,none⟩ w4 fun z5=>pAgg ⟨p1,0,none⟩ [iI (wrap .i64 (z5-1)),iI 0,.slice none 0 0,.bool false] w4 fun w6=>gAgg ⟨p1,0,none⟩ 4 w6 fun z6=>some (.agg ⟨z6⟩,w6))
 (gInt .i64 ⟨b,0,none⟩ w4 fun z7=>cond (z7==18)
 (gInt .i64 ⟨p2,2,none⟩ w4 fun z8=>pAgg ⟨p1,0,none⟩ [iI z8,iI 0,.slice none 0 0,.bool false] w4 fun w7=>gAgg ⟨p1,0,none⟩ 4 w7 fun z9=>some (.agg ⟨z9⟩,w7))
 (gInt .i64 ⟨b,0,none⟩ w4 fun z10=>cond (z10==6)
 (gAgg ⟨p2,0,none⟩ 16 w4 fun z11=>gInt .i64 ⟨b,1,none⟩ w4 fun z12=>bnd (C H47 [.agg ⟨z11⟩,iI z12] w4) fun q3 w8=>as3 q3 fun q4 q5 q6=>aAgg q4 fun z13=>aInt .i64 q5 fun z14=>aInt .i64 q6 fun z15=>ck (List.length z13=16) (pAgg ⟨p2,0,none⟩ z13 w8 fun w9=>R Ac5 Db4 [(0,.pointer c),(1,iI i),(6,pP p1),(7,pP p2),(8,iI z15),(9,iI z14)] w9))
 (gAgg ⟨p2,0,none⟩ 16 w4 fun z16=>gInt .i64 ⟨b,1,none⟩ w4 fun z17=>gInt .i64 ⟨b,2,none⟩ w4 fun z18=>bnd (C Hf8 [.agg ⟨z16⟩,iI z17,iI z18] w4) fun q7 w10=>as2 q7 fun q8 q9=>aAgg q8 fun z19=>aInt .i64 q9 fun z20=>ck (List.length z19=16) (pAgg ⟨p2,0,none⟩ z19 w10 fun w11=>R Ac5 Db4 [(0,.pointer c),(1,iI i),(6,pP p1),(7,pP p2),(8,iI z20),(9,iI 0)] w11))))))):=kR
def Ay6:Cuts:=⟨0,[],[],[(2,⟨[0,1,2,3,4,5,6,7,8,9,10,11,12,13,14],[0,1,3,7,15,31,63,127,255,511,1023,127,4095,8191,16383],[],[]⟩),(4,⟨[0,1,2,3,4,5,6,7,8,9,10,11,12,13,14,15,16,17],[0,1,3,7,0,16,48,112,0,256,0,1024,0,7936,16383,32767,65535,131071],[],[]⟩)]⟩
def Bq2:List Item:=A8 Tryz.f117
theorem D08 (r:List Value) :
 xQ Ay6 C R O7 Tryz.f117 Bq2 [(0,.pointer c),(1,.agg ⟨r⟩),(2,.slice b bn bc),(3,.bool ok)] h =
 nw (.cells E5 false r) h fun p1 w=>gAgg ⟨p1,0,none⟩ 2 w fun x=>bnd (C Ab0 [.pointer c,.agg ⟨x⟩] w) fun q1 w1=>as2 q1 fun q2 q3=>aAgg q2 fun z1=>aBool q3 fun z2=>nw (.cells B73 false [iI 0,iI 0,iI 0]) w1 fun p2 w2=>ck (List.length z1=3) (pAgg ⟨p2,0,none⟩ z1 w2 fun w3=>bnd (cond (!z2) (some (true,w3)) (some (!ok,w3))) fun c_1 w4=>bnd (cond c_1 (some (true,w4)) (aSome c fun p=>gMap (add p 3) w4 fun z3=>gAgg ⟨p1,0,none⟩ 2 w4 fun z4=>keyN PR E5 (.agg ⟨z4⟩) (opt z3 fun q4=>mapAt w4 q4 fun es _=>opt (Ao6 (iI 0) (.agg ⟨z4⟩) es) fun f=>aInt .i64 f.1 fun z5=>some (decide (z5>0),w4)))) fun c_2 w5=>cond c_2
 (some (.bool false,w5))
 (aSome c fun p_1=>gPtr (add p_1 0) w5 fun z6=>aSome c fun p_2=>gInt .i64 (add p_2 1) w5 fun z7=>gInt .i64 ⟨p2,0,none⟩ w5 fun z8=>gInt .i64 ⟨p2,1,none⟩ w5 fun z9=>bnd (C M0 [.pointer z6,iI z7,.agg ⟨[iI 2,iI z8,iI z9,iI 0,iI 0,iI 0,.slice b bn bc]⟩] w5) fun q5 w6=>aAgg q5 fun z10=>nth z10 0 fun E=>aInt .i64 E fun E_1=>some (.bool (E_1==0),w6))):=kR
def D86:Cuts:=⟨0,[],[],[]⟩
def Gd4:List Item:=A8 Tryz.f122
theorem Ht1 :
 xQ D86 C R Df1 Tryz.f122 Gd4 [(0,.bool ok),(1,iI n)] h =
 nw (.cells Q8 false [iI 0,iI 0,.slice none 0 0,.bool false]) h fun b w=>cond (!ok)
 (bnd (C A30 [iI 105] w) fun r w1=>aAgg r fun x=>ck (List.length x=4) (pAgg ⟨b,0,none⟩ x w1 fun w2=>gAgg ⟨b,0,none⟩ 4 w2 fun z1=>some (.agg ⟨z1⟩,w2)))
 (pAgg ⟨b,0,none⟩ [iI n,iI 0,.slice none 0 0,.bool false] w fun w3=>gAgg ⟨b,0,none⟩ 4 w3 fun z2=>some (.agg ⟨z2⟩,w3)):=kR
def Ad2:Cuts:=⟨0,[],[],[]⟩
def At8:List Item:=A8 Tryz.f127
theorem Bt6 (f:Value) :
 xQ Ad2 C R U2 Tryz.f127 At8 [(0,.slice s sn sc),(1,f)] h =
 bnd (C G6 [.slice s sn sc,f] h) fun r w=>aInt .i64 r fun x=>some (.bool (decide (x≥0)),w):=kR
def Dl4:Cuts:=⟨0,[],[],[]⟩
def Ep5:List Item:=A8 Tryz.f133
theorem G88 :
 xQ Dl4 C R Bf0 Tryz.f133 Ep5 [(0,iI n)] h =
 some (iI (mm2 false (mm2 true n 0) 64),h):=kR
def Ax8:Cuts:=⟨0,[(3,[5,20,21,22])],[],[(2,⟨[0,1,2,3,4,5,6,7,8,9,10,11,12,13,14],[0,1,3,7,0,16,0,64,192,448,960,2032,4095,8191,0],[],[]⟩)]⟩
def Bh5:List Item:=A8 Tryz.f140
def Al7:List Item:=stk [0,1,0,1,0,0,1,4,5] Bh5
theorem Es8 (s:Int) :
 xQ Ax8 C R Q7 Tryz.f140 Bh5 [(0,.pointer q),(1,iI s)] h =
 aSome q fun p=>gSl (add p 0) h fun x _ xc=>aSome q fun p_1=>gSl (add p_1 0) h fun _ xn_1 _=>ckB (fitsOpen x U4 h) (ck ((0:Int)≤mm2 false (mm2 true s 0) (xn_1:Int)∧mm2 false (mm2 true s 0) (xn_1:Int)≤(xc:Int)) (R Q7 Al7 [(5,iI 0),(20,.slice (I8 x (decide (0<xc)) (0*1)) ((Int.toNat (mm2 false (mm2 true s 0) (xn_1:Int)))-0) (xc-0)),(21,iI (((Int.toNat (mm2 false (mm2 true s 0) (xn_1:Int)))-0:Nat):Int)),(22,iI 0)] h)):=kR
theorem Bt5 (x20:Option Addr) (x20n x20c:Nat) (x21:Int) (x22:Int) :
 xQ Ax8 C R Q7 Tryz.f140 Al7 [(5,iI n),(20,.slice x20 x20n x20c),(21,iI x21),(22,iI x22)] h =
 cond (decide (x22<x21))
 (aSome x20 fun p=>ck ((0:Int)≤x22∧x22<(x20n:Int)) (gSl (add (B2 p) (Int.toNat x22*1)) h fun _ xn _=>R Q7 Al7 [(5,iI (wrap .i64 (n+(xn:Int)))),(20,.slice x20 x20n x20c),(21,iI x21),(22,iI (wrap .i64 (x22+1)))] h))
 (some (iI n,h)):=kR
def Am8:Cuts:=⟨0,[],[],[]⟩
def Ba2:List Item:=A8 Tryz.f141
theorem Dg8 (v:Int) :
 xQ Am8 C R O3 Tryz.f141 Ba2 [(0,.slice s sn sc),(1,iI v)] h =
 bnd (C I7 [.slice s sn sc,iI v] h) fun r w=>aInt .i64 r fun x=>some (.bool (decide (x≥0)),w):=kR
def B01:Cuts:=⟨0,[],[],[]⟩
def Dx9:List Item:=A8 Tryz.f149
theorem Gj0 (c:List Value) :
 xQ B01 C R Bc9 Tryz.f149 Dx9 [(0,.pointer s),(1,iI e),(2,.agg ⟨c⟩)] h =
 nw (.cells Q9 false c) h fun b w=>bnd (C Ak9 [.pointer s,iI e] w) fun r w1=>aBool r fun x=>bnd (cond (!x) (some (true,w1)) (gInt .i64 ⟨b,1,none⟩ w1 fun z1=>some (decide (z1<0),w1))) fun c_1 w2=>bnd (cond c_1 (some (true,w2)) (gInt .i64 ⟨b,1,none⟩ w2 fun z2=>some (decide (z2>7),w2))) fun c_2 w3=>bnd (cond c_2 (some (true,w3)) (gInt .i64 ⟨b,2,none⟩ w3 fun z3=>some (decide (z3<0),w3))) fun c_3 w4=>bnd (cond c_3 (some (true,w4)) (gInt .i64 ⟨b,2,none⟩ w4 fun z4=>some (decide (z4>65536),w4))) fun c_4 w5=>bnd (cond c_4 (some (true,w5)) (gInt .i64 ⟨b,3,none⟩ w5 fun z5=>some (decide (z5<0),w5))) fun c_5 w6=>bnd (cond c_5 (some (true,w6)) (gInt .i64 ⟨b,3,none⟩ w6 fun z6=>some (decide (z6>65536),w6))) fun c_6 w7=>cond c_6
 (some (.tuple ⟨[iI 0,iI 1]⟩,w7))
 (pAgg ⟨b,4,none⟩ [iI 0,iI 0] w7 fun w8=>gAgg ⟨b,0,none⟩ 6 w8 fun z7=>bnd (C Bb7 [.pointer s,iI e,.agg ⟨z7⟩] w8) fun q1 w9=>as2 q1 fun q2 q3=>aInt .i64 q2 fun z8=>aInt .i64 q3 fun z9=>some (.tuple ⟨[iI z8,iI z9]⟩,w9)):=kR
def A42:Cuts:=⟨0,[],[],[]⟩
def Bt3:List Item:=A8 Tryz.f151
theorem D71 :
 xQ A42 C R Ac4 Tryz.f151 Bt3 [(0,.pointer r),(1,iI env),(2,iI name),(3,iI atv),(4,.slice b bn bc)] h =
 bnd (C Ac6 [.pointer r,iI env,iI name,iI 2,iI atv,iI (bn:Int)] h) fun q1 w=>as2 q1 fun q2 q3=>aInt .i64 q2 fun x=>aInt .i64 q3 fun z1=>cond (z1 != 0)
 (some (iI z1,w))
 (aSome r fun p=>gPtr (add p 0) w fun z2=>bnd (C Bi6 [.pointer z2,iI x,.slice b bn bc] w) fun q4 w1=>aInt .i64 q4 fun z3=>some (iI z3,w1)):=kR
def Bk5:Cuts:=⟨0,[],[],[]⟩
def Di5:List Item:=A8 Tryz.f153
theorem Ey1 (give:Int) :
 xQ Bk5 C R A00 Tryz.f153 Di5 [(0,.pointer s),(1,iI env),(2,iI name),(3,iI to),(4,iI give),(5,iI lo),(6,iI n)] h =
 bnd (C Aw0 [.pointer s,iI env,iI name] h) fun r w=>as2 r fun q1 q2=>aAgg q1 fun x=>aInt .i64 q2 fun z1=>nw (.cells Q9 false [iI 0,iI 0,iI 0,iI 0,iI 0,iI 0]) w fun b w1=>ck (List.length x=6) (pAgg ⟨b,0,none⟩ x w1 fun w2=>cond (z1 != 0)
 (some (.tuple ⟨[iI 0,iI z1]⟩,w2))
 (gInt .i64 ⟨b,1,none⟩ w2 fun z2=>bnd (cond ((M8 .i64 z2 4)==0) (some (true,w2)) (gInt .i64 ⟨b,1,none⟩ w2 fun z3=>some ((B21 .i64 give z3) != 0,w2))) fun c w3=>cond c
 (some (.tuple ⟨[iI 0,iI 3]⟩,w3))
 (bnd (C Ah2 [.pointer s,iI to] w3) fun q3 w4=>aBool q3 fun z4=>bnd (cond (!z4) (some (true,w4)) (some (decide (lo<0),w4))) fun c_1 w5=>bnd (cond c_1 (some (true,w5)) (some (decide (n<0),w5))) fun c_2 w6=>bnd (cond c_2 (some (true,w6)) (gInt .i64 ⟨b,3,none⟩ w6 fun z5=>some (decide (lo>z5),w6))) fun c_3 w7=>bnd (cond c_3 (some (true,w7)) (gInt .i64 ⟨b,3,none⟩ w7 fun z6=>some (decide (n>(wrap .i64 (z6-lo))),w7))) fun c_4 w8=>cond c_4
 (some (.tuple ⟨[iI 0,iI 1]⟩,w8))
 (gInt .i64 ⟨b,0,none⟩ w8 fun z7=>gInt .i64 ⟨b,2,none⟩ w8 fun z8=>bnd (C Aw2 [.pointer s,iI to,.agg ⟨[iI z7,iI give,iI (wrap .i64 (z8+lo)),iI n,iI env,iI name]⟩] w8) fun q4 w9=>as2 q4 fun q5 q6=>aInt .i64 q5 fun z9=>aInt .i64 q6 fun z10=>some (.tuple ⟨[iI z9,iI z10]⟩,w9))))):=kR
def Bd3:Cuts:=⟨0,[],[],[(6,⟨[0,1,2,3,4,5,6,7,8,9,10,11,12,13,14,15,16,17,18,19,20,21],[0,0,0,4,15,31,63,127,255,511,1023,2047,4095,8191,4095,20479,53247,118783,249855,524287,1048575,2097151],[],[]⟩),(8,⟨[0,1,2,3,4,5,6,7,8,9,10,11,12,13,14,15,16,17,18,19,20,21,22,23,24,25,26,27,28,29,30],[0,1,0,0,8,24,56,0,128,504,1016,2047,4095,8191,16383,32767,16383,131071,16383,16383,540671,1589247,3686399,16383,8404991,33046527,66600959,134217727,268435455,536870911,1073741823],[],[]⟩),(10,⟨[0,1,2,3,4,5,6,7,8,9,10,11,12,13,14],[0,1,3,7,0,16,63,127,0,256,1023,0,4095,8191,16383],[],[]⟩)]⟩
def B51:List Item:=A8 Tryz.f159
theorem Eg3 (right:Int) :
 xQ Bd3 C R As0 Tryz.f159 B51 [(0,.pointer r),(1,iI e),(2,iI name),(3,iI right),(4,iI atv),(5,iI n)] h =
 aSome r fun p=>gPtr (add p 3) h fun x=>bnd (C Bb9 [.pointer x,iI e,iI name] h) fun q1 w=>as2 q1 fun q2 q3=>aAgg q2 fun z1=>aInt .i64 q3 fun z2=>nw (.cells Q9 false [iI 0,iI 0,iI 0,iI 0,iI 0,iI 0]) w fun b w1=>ck (List.length z1=6) (pAgg ⟨b,0,none⟩ z1 w1 fun w2=>cond (z2 != 0)
 (some (.tuple ⟨[iI 0,iI z2]⟩,w2))
 (gInt .i64 ⟨b,1,none⟩ w2 fun z3=>cond ((M8 .i64 z3 right)==0)
 (some (.tuple ⟨[iI 0,iI 3]⟩,w2))
 (gInt .i64 ⟨b,3,none⟩ w2 fun z4=>bnd (C Ai6 [iI atv,iI n,iI z4] w2) fun q4 w3=>aBool q4 fun z5=>bnd (cond (!z5) (some (true,w3)) (gInt .i64 ⟨b,0,none⟩ w3 fun z6=>some (decide (z6<0),w3))) fun c w4=>bnd (cond c (some (true,w4)) (gInt .i64 ⟨b,0,none⟩ w4 fun z7=>aSome r fun p_1=>gSl (add p_1 1) w4 fun _ xn _=>some (decide (z7≥(xn:Int)),w4))) fun c_1 w5=>cond c_1
 (some (.tuple ⟨[iI 0,iI 1]⟩,w5))
 (gInt .i64 ⟨b,2,none⟩ w5 fun z9=>aSome r fun p_2=>gSl (add p_2 2) w5 fun z10 xn_1 _=>gInt .i64 ⟨b,0,none⟩ w5 fun z11=>aSome z10 fun p_3=>ck ((0:Int)≤z11∧z11<(xn_1:Int)) (gInt .i64 (add (B2 p_3) (Int.toNat z11*1)) w5 fun z12=>bnd (C Ai6 [iI z9,iI atv,iI z12] w5) fun q5 w6=>aBool q5 fun z13=>bnd (cond (!z13) (some (true,w6)) (gInt .i64 ⟨b,2,none⟩ w6 fun z14=>aSome r fun p_4=>gSl (add p_4 2) w6 fun z15 xn_2 _=>gInt .i64 ⟨b,0,none⟩ w6 fun z16=>aSome z15 fun p_5=>ck ((0:Int)≤z16∧z16<(xn_2:Int)) (gInt .i64 (add (B2 p_5) (Int.toNat z16*1)) w6 fun z17=>bnd (C Ai6 [iI (wrap .i64 (z14+atv)),iI n,iI z17] w6) fun q6 w7=>aBool q6 fun z18=>some (!z18,w7)))) fun c_2 w8=>cond c_2
 (some (.tuple ⟨[iI 0,iI 1]⟩,w8))
 (aSome r fun p_6=>gSl (add p_6 1) w8 fun z19 xn_3 _=>gInt .i64 ⟨b,0,none⟩ w8 fun z20=>aSome z19 fun p_7=>ck ((0:Int)≤z20∧z20<(xn_3:Int)) (gInt .i64 (add (B2 p_7) (Int.toNat z20*1)) w8 fun z21=>gInt .i64 ⟨b,2,none⟩ w8 fun z22=>some (.tuple ⟨[iI (wrap .i64 ((wrap .i64 (z21+z22))+atv)),iI 0]⟩,w8)))))))):=kR
def By4:Cuts:=⟨0,[],[],[(4,⟨[0,1,2,3,4,5,6,7,8,9,10,11],[0,1,3,7,0,31,63,0,128,0,1023,2047],[],[]⟩)]⟩
def Dw7:List Item:=A8 Tryz.f163
theorem Gf9 (c:List Value) :
 xQ By4 C R Bb7 Tryz.f163 Dw7 [(0,.pointer s),(1,iI e),(2,.agg ⟨c⟩)] h =
 nw (.cells Q9 false c) h fun b w=>aSome s fun p=>gSl (add p 0) w fun x xn _=>aSome x fun p_1=>ck ((0:Int)≤e∧e<(xn:Int)) (gPtr (add (B2 p_1) (Int.toNat e*1)) w fun z1=>bnd (C Z3 [.pointer z1] w) fun r w1=>as2 r fun q1 q2=>aInt .i64 q1 fun z2=>aBool q2 fun z3=>cond (!z3)
 (some (.tuple ⟨[iI 0,iI 4]⟩,w1))
 (aSome s fun p_2=>gSl (add p_2 1) w1 fun z4 xn_1 _=>aSome z4 fun p_3=>ck ((0:Int)≤e∧e<(xn_1:Int)) (gSl (add (B2 p_3) (Int.toNat e*1)) w1 fun z5 xn_2 _=>gAgg ⟨b,0,none⟩ 6 w1 fun z6=>aSome z5 fun p_4=>ck ((0:Int)≤M8 .i64 z2 255∧M8 .i64 z2 255<(xn_2:Int)) (ck (List.length z6=6) (pAgg (add (B2 p_4) (Int.toNat (M8 .i64 z2 255)*6)) z6 w1 fun w2=>some (.tuple ⟨[iI z2,iI 0]⟩,w2)))))):=kR
def Aj0:Cuts:=⟨0,[],[],[(4,⟨[0,1,2,3,4,10,5,6,7,8,9,11,12],[0,1,3,7,0,16,63,127,255,255,0,1535,4095],[(5,[3])],[]⟩)]⟩
def A47:List Item:=A8 Tryz.f174
theorem B90 :
 xQ Aj0 C R Y4 Tryz.f174 A47 [(0,.pointer c),(1,.slice b bn bc)] h =
 nw (.cells D3 false zZ2) h fun p1 w=>nw (.cells D3 false zZ2) w fun p2 w1=>aSome c fun p=>gFv (add p 2) w1 fun x=>isNilF x fun p3=>bnd (cond p3 (some (true,w1)) (aSome c fun p_1=>gInt .i64 (add p_1 0) w1 fun z1=>some ((bn:Int) != z1,w1))) fun c_1 w2=>cond c_1
 (gAgg ⟨p2,0,none⟩ 36 w2 fun z2=>ck (List.length z2=36) (pAgg ⟨p1,0,none⟩ z2 w2 fun w3=>gAgg ⟨p1,0,none⟩ 36 w3 fun z3=>some (.tuple ⟨[.agg ⟨z3⟩,.bool false]⟩,w3)))
 (aSome c fun p_2=>gFv (add p_2 2) w2 fun z4=>nw (.cells D3 false zZ2) w2 fun p4 w4=>bnd (C E9 [.slice b bn bc] w4) fun r w5=>aSl r fun z5 xn xc=>gFv (add p_2 2) w5 fun z6=>Bp0 (z4) (z6) (aFn z4 fun g fi cp=>bnd (C g (fi++([.slice z5 xn xc]++cp)) w5) fun q1 w6=>as2 q1 fun q2 q3=>aAgg q2 fun z7=>aBool q3 fun z8=>ck (List.length z7=36) (pAgg ⟨p4,0,none⟩ z7 w6 fun w7=>cond (!z8)
 (gAgg ⟨p2,0,none⟩ 36 w7 fun z9=>ck (List.length z9=36) (pAgg ⟨p1,0,none⟩ z9 w7 fun w8=>gAgg ⟨p1,0,none⟩ 36 w8 fun z10=>some (.tuple ⟨[.agg ⟨z10⟩,.bool false]⟩,w8)))
 (gAgg ⟨p4,0,none⟩ 36 w7 fun z11=>ck (List.length z11=36) (pAgg ⟨p1,0,none⟩ z11 w7 fun w9=>gAgg ⟨p1,0,none⟩ 36 w9 fun z12=>some (.tuple ⟨[.agg ⟨z12⟩,.bool true]⟩,w9)))))):=kR
def Em2:Cuts:=⟨0,[],[],[(11,⟨[0,1,2,3,4,5,6,7,8,9,10,11,12,13,14,15,16,17,18,19,20,21,22,23,24,25,26,27,28],[0,0,2,6,0,31,63,127,127,383,895,127,2175,6271,14463,32767,65535,131071,262143,262143,786431,1835007,262143,4456447,12845055,29622271,67108863,134217727,268435455],[],[]⟩),(12,⟨[0,1,2,3,4,5,6,7,8,9,10,11,12,13,14,15,17,16,18,19],[0,1,3,0,8,24,0,64,192,448,0,1024,3072,7168,0,17351,50119,0,262143,524287],[(16,[5,12])],[]⟩),(13,⟨[0,1,7,8,9,10,11,12,13,14,2,3,4,5,6,15,16],[0,1,3,3,3,31,63,0,128,384,0,1024,3072,7168,16256,32767,65535],[(5,[9,12])],[]⟩)]⟩
def Gm5:List Item:=A8 Tryz.f176
theorem H06 :
 xQ Em2 C R Do9 Tryz.f176 Gm5 [(0,.pointer c),(1,iI i)] h =
 nw (.cells R0 false [.pointer c]) h fun b w=>nw (.cells Q8 false [iI 0,iI 0,.slice none 0 0,.bool false]) w fun p1 w1=>gPtr ⟨b,0,none⟩ w1 fun x=>bnd (C A41 [.pointer x,iI i] w1) fun r w2=>as2 r fun q1 q2=>aAgg q1 fun z1=>aInt .i64 q2 fun z2=>nw (.cells D2 false zZ1) w2 fun p2 w3=>ck (List.length z1=16) (pAgg ⟨p2,0,none⟩ z1 w3 fun w4=>cond (z2 != 0)
 (bnd (C Bb5 [iI z2] w4) fun q3 w5=>aAgg q3 fun z3=>ck (List.length z3=4) (pAgg ⟨p1,0,none⟩ z3 w5 fun w6=>gAgg ⟨p1,0,none⟩ 4 w6 fun z4=>some (.agg ⟨z4⟩,w6)))
 (gAgg ⟨p2,0,none⟩ 16 w4 fun z5=>bnd (C De9 [.agg ⟨z5⟩,iI 2] w4) fun q4 w7=>aSl q4 fun z6 xn _=>cond (decide ((xn:Int)<2))
 (bnd (C Bb5 [iI 124] w7) fun q5 w8=>aAgg q5 fun z7=>ck (List.length z7=4) (pAgg ⟨p1,0,none⟩ z7 w8 fun w9=>gAgg ⟨p1,0,none⟩ 4 w9 fun z8=>some (.agg ⟨z8⟩,w9)))
 (bnd (C Z9 [iI 12,iI 2,.func (.func A88) ⟨[]⟩ ⟨[pP b]⟩] w7) fun q6 w10=>aSl q6 fun z9 xn_1 _=>bnd (C Z9 [iI 4,iI 1,.func (.func A69) ⟨[]⟩ ⟨[pP b]⟩] w10) fun q7 w11=>aSl q7 fun z10 xn_2 _=>bnd (cond (decide ((xn_1:Int)<2)) (some (true,w11)) (some ((xn_2:Int)==0,w11))) fun c_1 w12=>cond c_1
 (bnd (C Bb5 [iI 123] w12) fun q8 w13=>aAgg q8 fun z11=>ck (List.length z11=4) (pAgg ⟨p1,0,none⟩ z11 w13 fun w14=>gAgg ⟨p1,0,none⟩ 4 w14 fun z12=>some (.agg ⟨z12⟩,w14)))
 (gPtr ⟨b,0,none⟩ w12 fun z13=>aSome z10 fun p=>ck ((0:Int)≤0∧0<(xn_2:Int)) (gInt .i64 (add (B2 p) (Int.toNat 0*1)) w12 fun z14=>bnd (C W1 [.pointer z13,iI z14,.agg ⟨[iI 0,iI 0,iI 1,iI 1,.int .u8 0,.int .u8 0,.int .u8 0,.int .u8 0,.int .u8 0,.int .u8 0,.int .u8 0,.int .u8 0,.int .u8 0,.int .u8 0,.int .u8 0,.int .u8 0,.int .u8 0,.int .u8 0,.int .u8 0,.int .u8 0,.int .u8 0,.int .u8 0,.int .u8 0,.int .u8 0,.int .u8 0,.int .u8 0,.int .u8 0,.int .u8 0,.int .u8 0,.int .u8 0,.int .u8 0,.int .u8 0,.int .u8 0,.int .u8 0,.int .u8 0,.int .u8 0]⟩] w12) fun q9 w15=>aBool q9 fun z15=>bnd (cond z15 (gPtr ⟨b,0,none⟩ w15 fun z16=>aSome z9 fun p_1=>ck ((0:Int)≤0∧0<(xn_1:Int)) (gInt .i64 (add (B2 p_1) (Int.toNat 0*1)) w15 fun z17=>aSome z10 fun p_2=>ck ((0:Int)≤0∧0<(xn_2:Int)) (gInt .i64 (add (B2 p_2) (Int.toNat 0*1)) w15 fun z18=>bnd (C Q3 [.pointer z16,iI z17,.agg ⟨[iI 1,iI z18,iI 1,iI 0]⟩] w15) fun q10 w16=>aBool q10 fun z19=>some (z19,w16)))) (some (false,w15))) fun c_2 w17=>bnd (cond c_2 (gPtr ⟨b,0,none⟩ w17 fun z20=>aSome z9 fun p_3=>ck ((0:Int)≤1∧1<(xn_1:Int)) (gInt .i64 (add (B2 p_3) (Int.toNat 1*1)) w17 fun z21=>aSome z10 fun p_4=>ck ((0:Int)≤0∧0<(xn_2:Int)) (gInt .i64 (add (B2 p_4) (Int.toNat 0*1)) w17 fun z22=>bnd (C Q3 [.pointer z20,iI z21,.agg ⟨[iI 2,iI z22,iI 1,iI 0]⟩] w17) fun q11 w18=>aBool q11 fun z23=>some (z23,w18)))) (some (false,w17))) fun c_3 w19=>aSome z6 fun p_5=>ck ((0:Int)≤0∧0<(xn:Int)) (gInt .i64 (add (B2 p_5) (Int.toNat 0*1)) w19 fun z24=>aSome z6 fun p_6=>ck ((0:Int)≤1∧1<(xn:Int)) (gInt .i64 (add (B2 p_6) (Int.toNat 1*1)) w19 fun z25=>aSome z9 fun p_7=>ck ((0:Int)≤0∧0<(xn_1:Int)) (gInt .i64 (add (B2 p_7) (Int.toNat 0*1)) w19 fun z26=>aSome z9 fun p_8=>ck ((0:Int)≤1∧1<(xn_1:Int)) (gInt .i64 (add (B2 p_8) (Int.toNat 1*1)) w19 fun z27=>ck ((0:Int)≤z24∧z24<((8:Nat):Int)) (pV (add ⟨p2,8,none⟩ (Int.toNat z24*1)) (iI (wrap .i64 (z26+1))) w19 fun w20=>gInt .i64 (add (B2 p_6) (Int.toNat 1*1)) w20 fun z28=>same (iI z25) (iI z28) (gInt .i64 (add (B2 p_8) (Int.toNat 1*1)) w20 fun z29=>same (iI z27) (iI z29) (ck ((0:Int)≤z25∧z25<((8:Nat):Int)) (pV (add ⟨p2,8,none⟩ (Int.toNat z25*1)) (iI (wrap .i64 (z27+1))) w20 fun w21=>aSome z6 fun p_9=>ck ((0:Int)≤0∧0<(xn:Int)) (gInt .i64 (add (B2 p_9) (Int.toNat 0*1)) w21 fun z30=>aSome z6 fun p_10=>ck ((0:Int)≤1∧1<(xn:Int)) (gInt .i64 (add (B2 p_10) (Int.toNat 1*1)) w21 fun z31=>bnd (cond c_3 (gPtr ⟨b,0,none⟩ w21 fun z32=>gAgg ⟨p2,0,none⟩ 16 w21 fun z33=>bnd (C Q2 [.pointer z32,iI i,.agg ⟨z33⟩] w21) fun q12 w22=>aBool q12 fun z34=>gInt .i64 (add (B2 p_9) (Int.toNat 0*1)) w22 fun z35=>same (iI z30) (iI z35) (gInt .i64 (add (B2 p_10) (Int.toNat 1*1)) w22 fun z36=>same (iI z31) (iI z36) (some (z34,w22)))) (some (false,w21))) fun c_4 w23=>bnd (C Dq1 [.bool c_4,iI (wrap .i64 (z30+(wrap .i64 (16*z31))))] w23) fun q13 w24=>aAgg q13 fun z37=>ck (List.length z37=4) (pAgg ⟨p1,0,none⟩ z37 w24 fun w25=>gAgg ⟨p1,0,none⟩ 4 w25 fun z38=>some (.agg ⟨z38⟩,w25))))))))))))))))):=kR
def Ap6:Cuts:=⟨0,[],[],[]⟩
def Be8:List Item:=A8 Tryz.f207
theorem Dk7 :
 xQ Ap6 C R O9 Tryz.f207 Be8 [(0,.pointer t),(1,iI i)] h =
 aSome t fun p=>gSl (add p 0) h fun x xn _=>aSome x fun p_1=>ck ((0:Int)≤i∧i<(xn:Int)) (gInt .i64 (add (add (B2 p_1) (Int.toNat i*8)) 6) h fun z1=>some (iI (wrap .i64 (i+(wrap .i64 (256*z1)))),h)):=kR
def Ek0:Cuts:=⟨0,[],[],[]⟩
def Gr1:List Item:=A8 Tryz.f209
theorem Ia3 :
 xQ Ek0 C R Dr8 Tryz.f209 Gr1 [(0,.agg ⟨p⟩)] h =
 nw (.cells D2 false p) h fun b w=>gInt .i64 ⟨b,0,none⟩ w fun x=>bnd (cond (decide (x<1)) (some (true,w)) (gInt .i64 ⟨b,0,none⟩ w fun z1=>some (decide (z1>3),w))) fun c w1=>bnd (cond c (some (true,w1)) (gInt .i64 ⟨b,1,none⟩ w1 fun z2=>some (decide (z2<0),w1))) fun c_1 w2=>bnd (cond c_1 (some (true,w2)) (gInt .i64 ⟨b,1,none⟩ w2 fun z3=>some (decide (z3>8),w2))) fun c_2 w3=>bnd (cond c_2 (some (true,w3)) (gInt .i64 ⟨b,2,none⟩ w3 fun z4=>some (decide (z4<0),w3))) fun c_3 w4=>bnd (cond c_3 (some (true,w4)) (gInt .i64 ⟨b,2,none⟩ w4 fun z5=>some (decide (z5≥8),w4))) fun c_4 w5=>bnd (cond c_4 (some (true,w5)) (gInt .i64 ⟨b,3,none⟩ w5 fun z6=>some (decide (z6<0),w5))) fun c_5 w6=>bnd (cond c_5 (some (true,w6)) (gInt .i64 ⟨b,3,none⟩ w6 fun z7=>some (decide (z7>255),w6))) fun c_6 w7=>cond c_6
 (some (.bool false,w7))
 (gInt .i64 ⟨b,4,none⟩ w7 fun z8=>bnd (C An5 [iI z8,iI 0] w7) fun r w8=>aBool r fun z9=>bnd (cond (!z9) (some (true,w8)) (gInt .i64 ⟨b,5,none⟩ w8 fun z10=>bnd (C An5 [iI z10,iI 16896] w8) fun q1 w9=>aBool q1 fun z11=>some (!z11,w9))) fun c_7 w10=>bnd (cond c_7 (some (true,w10)) (gInt .i64 ⟨b,6,none⟩ w10 fun z12=>bnd (C An5 [iI z12,iI 16896] w10) fun q2 w11=>aBool q2 fun z13=>some (!z13,w11))) fun c_8 w12=>bnd (cond c_8 (some (true,w12)) (gInt .i64 ⟨b,7,none⟩ w12 fun z14=>bnd (C An5 [iI z14,iI 16896] w12) fun q3 w13=>aBool q3 fun z15=>some (!z15,w13))) fun c_9 w14=>bnd (cond c_9 (some (true,w14)) (gInt .i64 ⟨b,6,none⟩ w14 fun z16=>gInt .i64 ⟨b,7,none⟩ w14 fun z17=>some ((M8 .i64 z16 z17) != 0,w14))) fun c_10 w15=>cond c_10
 (some (.bool false,w15))
 (ckB (liveA ⟨b,8,none⟩ w15) (bnd (C G2 [.slice (I8 (some ⟨b,8,none⟩) (decide (0<8)) (0*1)) (8-0) (8-0),.func (.func Bk4) ⟨[]⟩ ⟨[]⟩] w15) fun q4 w16=>aBool q4 fun z18=>cond z18
 (some (.bool false,w16))
 (gInt .i64 ⟨b,0,none⟩ w16 fun z19=>cond (z19==2)
 (gInt .i64 ⟨b,4,none⟩ w16 fun z20=>bnd (cond (z20==0) (gAgg ⟨b,8,none⟩ 8 w16 fun z21=>Df0 PR Gu3 z21 [iI 0,iI 0,iI 0,iI 0,iI 0,iI 0,iI 0,iI 0] fun eq=>some (eq,w16)) (some (false,w16))) fun c_11 w17=>some (.bool c_11,w17))
 (gInt .i64 ⟨b,3,none⟩ w16 fun z22=>some (.bool (z22==0),w16)))))):=kR
def De1:Cuts:=⟨0,[(3,[3,9,10,11])],[],[]⟩
def D65:List Item:=A8 Tryz.f211
def Bo2:List Item:=stk [0,1,0,1,0,0,1,4,5] D65
theorem Hs3 :
 xQ De1 C R Ad4 Tryz.f211 D65 [(0,.slice b bn bc)] h =
 R Ad4 Bo2 [(3,.int .u8 (wrap .u8 ((bn:Int)))),(9,.slice b bn bc),(10,iI (bn:Int)),(11,iI 0)] h:=kR
theorem Ec4 (x9:Option Addr) (x9n x9c:Nat) (x10:Int) (x11:Int) :
 xQ De1 C R Ad4 Tryz.f211 Bo2 [(3,.int .u8 n),(9,.slice x9 x9n x9c),(10,iI x10),(11,iI x11)] h =
 cond (decide (x11<x10))
 (aSome x9 fun p=>ck ((0:Int)≤x11∧x11<(x9n:Int)) (gInt .u8 (add (B2 p) (Int.toNat x11*1)) h fun x=>R Ad4 Bo2 [(3,.int .u8 (wrap .u8 (n+x))),(9,.slice x9 x9n x9c),(10,iI x10),(11,iI (wrap .i64 (x11+1)))] h))
 (some (.int .u8 n,h)):=kR
def Bz0:Cuts:=⟨0,[],[],[(1,⟨[0,1,2,3,4,5,6,7,8,9,10,11,12,13],[0,1,3,7,0,31,63,0,255,511,1023,1023,2047,8191],[],[]⟩)]⟩
def Du4:List Item:=A8 Tryz.f220
theorem Gk8 (c:List Value) :
 xQ Bz0 C R Aw2 Tryz.f220 Du4 [(0,.pointer s),(1,iI env),(2,.agg ⟨c⟩)] h =
 nw (.cells Q9 false c) h fun b w=>aSome s fun p=>gSl (add p 0) w fun x xn _=>aSome x fun p_1=>ck ((0:Int)≤env∧env<(xn:Int)) (gPtr (add (B2 p_1) (Int.toNat env*1)) w fun z1=>gAgg ⟨b,0,none⟩ 6 w fun z2=>bnd (C J6 [.pointer z1,.agg ⟨z2⟩] w) fun r w1=>as2 r fun q1 q2=>aInt .i64 q1 fun z3=>aBool q2 fun z4=>cond (!z4)
 (some (.tuple ⟨[iI 0,iI 4]⟩,w1))
 (some (.tuple ⟨[iI z3,iI 0]⟩,w1))):=kR
def Bj5:Cuts:=⟨0,[(3,[0,3,4])],[],[]⟩
def B59:List Item:=A8 Tryz.f221
def A04:List Item:=stk [0,1,0,1,0,0,1,4,5] B59
theorem Gq9 :
 xQ Bj5 C R Ac2 Tryz.f221 B59 [(0,iI size)] h =
 nw (.cells Ew5 false [.slice none 0 0]) h fun b w=>R Ac2 A04 [(0,iI size),(3,pP b),(4,iI 0)] w:=kR
theorem Dj2 (n:Addr) :
 xQ Bj5 C R Ac2 Tryz.f221 A04 [(0,iI size),(3,.pointer (some n)),(4,iI i)] h =
 bnd (cond (decide (i<size)) (some (decide (i<256),h)) (some (false,h))) fun c w=>cond c
 (gSl (add n 0) w fun x xn xc=>nw (.cells Bk7 false [iI 1,.bool false]) w fun b w1=>gCells (some ⟨b,0,none⟩) (1*2) w1 fun cs=>ckB (fitsOpen x Bk7 w1) (apd Bk7 2 x xn xc 1 cs w1 fun a an ac w2=>pV (add n 0) (.slice a an ac) w2 fun w3=>R Ac2 A04 [(0,iI size),(3,.pointer (some n)),(4,iI (wrap .i64 (i+1)))] w3))
 (some (.pointer (some n),w)):=kR
def Bl2:Cuts:=⟨0,[],[],[]⟩
def Dh4:List Item:=A8 Tryz.f229
theorem E26 (s:Int) (k:Int) :
 xQ Bl2 C R A18 Tryz.f229 Dh4 [(0,.pointer q),(1,iI s),(2,iI k)] h =
 bnd (C Ak5 [.pointer q,iI s] h) fun r w=>aBool r fun x=>bnd (cond x (some (decide (k≥0),w)) (some (false,w))) fun c w1=>bnd (cond c (aSome q fun p=>gSl (add p 0) w1 fun z1 xn _=>aSome z1 fun p_1=>ck ((0:Int)≤s∧s<(xn:Int)) (gSl (add (B2 p_1) (Int.toNat s*1)) w1 fun _ xn_1 _=>some (decide (k<(xn_1:Int)),w1))) (some (false,w1))) fun c_1 w2=>bnd (cond c_1 (aSome q fun p_2=>gSl (add p_2 0) w2 fun z3 xn_2 _=>aSome z3 fun p_3=>ck ((0:Int)≤s∧s<(xn_2:Int)) (gSl (add (B2 p_3) (Int.toNat s*1)) w2 fun z4 xn_3 _=>aSome z4 fun p_4=>ck ((0:Int)≤k∧k<(xn_3:Int)) (gInt .i64 (add (B2 p_4) (Int.toNat k*1)) w2 fun z5=>some (decide (z5>0),w2)))) (some (false,w2))) fun c_2 w3=>some (.bool c_2,w3):=kR
def B04:Cuts:=⟨0,[],[],[(1,⟨[0,1,2,3,4,5,6,7,8,9,10,11,12,13,14,15,16,17,18,19,20,21,22,23,24,25,26,27,28],[0,1,3,7,7,23,55,119,247,511,1023,2047,4095,8191,16383,32767,4095,131071,262143,4095,528383,1576959,3674111,4095,16257023,33034239,67108863,134217727,268435455],[],[]⟩)]⟩
def Dy4:List Item:=A8 Tryz.f230
theorem Gj1 :
 xQ B04 C R Aw5 Tryz.f230 Dy4 [(0,.pointer k),(1,iI env),(2,iI n)] h =
 bnd (cond (decide (n<0)) (some (true,h)) (aSome k fun p=>gSl (add p 6) h fun _ xn _=>some (decide (n≥(xn:Int)),h))) fun c w=>bnd (cond c (some (true,w)) (aSome k fun p_1=>gSl (add p_1 1) w fun z1 xn_1 _=>aSome z1 fun p_2=>ck ((0:Int)≤n∧n<(xn_1:Int)) (gSl (add (B2 p_2) (Int.toNat n*1)) w fun z2 xn_2 xc_2=>aSome k fun p_3=>gSl (add p_3 0) w fun z3 xn_3 _=>aSome z3 fun p_4=>ck ((0:Int)≤env∧env<(xn_3:Int)) (gInt .i64 (add (B2 p_4) (Int.toNat env*1)) w fun z4=>bnd (C O3 [.slice z2 xn_2 xc_2,iI z4] w) fun r w1=>aBool r fun z5=>some (!z5,w1))))) fun c_1 w2=>cond c_1
 (some (.tuple ⟨[.pointer none,iI 8]⟩,w2))
 (aSome k fun p_5=>gSl (add p_5 6) w2 fun z6 xn_4 _=>aSome z6 fun p_6=>ck ((0:Int)≤n∧n<(xn_4:Int)) (gPtr (add (B2 p_6) (Int.toNat n*1)) w2 fun z7=>some (.tuple ⟨[.pointer z7,iI 0]⟩,w2))):=kR
def Ea8:Cuts:=⟨0,[],[],[(1,⟨[0,1,2,3,4,5,6,7,8,9,10,11,12,13,14,15,16,17,18],[0,1,3,7,0,16,48,112,0,256,768,1792,0,4096,12288,28672,65535,0,262143],[],[]⟩),(3,⟨[0,1,2,3,4,5,6,7,8],[0,0,2,6,6,30,62,63,255],[(5,[0])],[]⟩)]⟩
def Gd0:List Item:=A8 Tryz.f239
theorem Hp3 :
 xQ Ea8 C R At5 Tryz.f239 Gd0 [(0,.slice b bn bc)] h =
 nw (.cells D8 false [iI 0,iI 0,iI 0,iI 0]) h fun p1 w=>aSome b fun p=>ck ((0:Int)≤0∧0<(bn:Int)) (gInt .u8 (add (B2 p) (Int.toNat 0*1)) w fun x=>aSome b fun p_1=>ck ((0:Int)≤1∧1<(bn:Int)) (gInt .u8 (add (B2 p_1) (Int.toNat 1*1)) w fun z1=>aSome b fun p_2=>ck ((0:Int)≤2∧2<(bn:Int)) (gInt .u8 (add (B2 p_2) (Int.toNat 2*1)) w fun z2=>aSome b fun p_3=>ck ((0:Int)≤3∧3<(bn:Int)) (gInt .u8 (add (B2 p_3) (Int.toNat 3*1)) w fun z3=>nw (.cells D8 false [iI 0,iI 0,iI 0,iI 0]) w fun p2 w1=>pAgg ⟨p2,0,none⟩ [iI (wrap .i64 (x)),iI (wrap .i64 (z1)),iI (wrap .i64 (z2)),iI (wrap .i64 (z3))] w1 fun w2=>gAgg ⟨p2,0,none⟩ 4 w2 fun z4=>bnd (C A84 [.agg ⟨z4⟩] w2) fun r w3=>as2 r fun q1 q2=>aSl q1 fun z5 xn xc=>aBool q2 fun z6=>gAgg ⟨p2,0,none⟩ 4 w3 fun z7=>bnd (cond z6 (bnd (C D5 [.slice z5 xn xc,.slice b bn bc] w3) fun q3 w4=>aBool q3 fun z8=>gAgg ⟨p2,0,none⟩ 4 w4 fun z9=>same (.agg ⟨z7⟩) (.agg ⟨z9⟩) (some (z8,w4))) (some (false,w3))) fun c w5=>ck (List.length z7=4) (pAgg ⟨p1,0,none⟩ z7 w5 fun w6=>gAgg ⟨p1,0,none⟩ 4 w6 fun z10=>some (.tuple ⟨[.agg ⟨z10⟩,.bool c]⟩,w6)))))):=kR
def En1:Cuts:=⟨0,[],[],[]⟩
def Gl7:List Item:=A8 Tryz.f243
theorem Ia6 :
 xQ En1 C R Bb5 Tryz.f243 Gl7 [(0,iI e)] h =
 nw (.cells Q8 false [iI 0,iI 0,.slice none 0 0,.bool false]) h fun b w=>pAgg ⟨b,0,none⟩ [iI 0,iI e,.slice none 0 0,.bool false] w fun w1=>gAgg ⟨b,0,none⟩ 4 w1 fun x=>some (.agg ⟨x⟩,w1):=kR
def D92:Cuts:=⟨0,[],[],[]⟩
def Gd2:List Item:=A8 Tryz.f244
theorem Hr4 :
 xQ D92 C R De9 Tryz.f244 Gd2 [(0,.agg ⟨p⟩),(1,iI want)] h =
 nw (.cells D2 false p) h fun b w=>bnd (C Z9 [iI 8,iI want,.func (.func Bg2) ⟨[]⟩ ⟨[pP b]⟩] w) fun r w1=>aSl r fun x xn xc=>some (.slice x xn xc,w1):=kR
def Do8:Cuts:=⟨0,[(3,[0,1,2,7,8])],[],[]⟩
def Ef7:List Item:=A8 Tryz.f245
def Bf8:List Item:=stk [0,1,0,1,0,0,1,4,5] Ef7
theorem H32 :
 xQ Do8 C R Z9 Tryz.f245 Ef7 [(0,iI n),(1,iI want),(2,isv)] h =
 R Z9 Bf8 [(0,iI n),(1,iI want),(2,isv),(7,.slice none 0 0),(8,iI 0)] h:=kR
theorem Dk3 (out:Option Addr) (outn outc:Nat) :
 xQ Do8 C R Z9 Tryz.f245 Bf8 [(0,iI n),(1,iI want),(2,isv),(7,.slice out outn outc),(8,iI i)] h =
 bnd (cond (decide (i<n)) (some (decide ((outn:Int)<want),h)) (some (false,h))) fun c w=>cond c
 (aFn isv fun g fi cp=>bnd (C g (fi++([iI i]++cp)) w) fun r w1=>aBool r fun x=>cond x
 (nw (.cells B5 false [iI i]) w1 fun b w2=>gCells (some ⟨b,0,none⟩) (1*1) w2 fun cs=>ckB (fitsOpen out B5 w2) (apd B5 1 out outn outc 1 cs w2 fun a an ac w3=>R Z9 Bf8 [(0,iI n),(1,iI want),(2,isv),(7,.slice a an ac),(8,iI (wrap .i64 (i+1)))] w3))
 (R Z9 Bf8 [(0,iI n),(1,iI want),(2,isv),(7,.slice out outn outc),(8,iI (wrap .i64 (i+1)))] w1))
 (some (.slice out outn outc,w)):=kR
def Dt6:Cuts:=⟨0,[],[],[]⟩
def Ey3:List Item:=A8 Tryz.f247
theorem Hg5 (k:Int) :
 xQ Dt6 C R A69 Tryz.f247 Ey3 [(0,iI k),(1,.pointer (some fv0))] h =
 gPtr fv0 h fun x=>bnd (C V4 [.pointer x,iI k] h) fun r w=>as2 r fun q1 q2=>aAgg q1 fun z1=>aInt .i64 q2 fun z2=>nw (.cells D3 false zZ2) w fun b w1=>ck (List.length z1=36) (pAgg ⟨b,0,none⟩ z1 w1 fun w2=>some (.bool (z2==0),w2)):=kR
def Ej9:Cuts:=⟨0,[],[],[]⟩
def Gp1:List Item:=A8 Tryz.f250
theorem H94 :
 xQ Ej9 C R Dq1 Tryz.f250 Gp1 [(0,.bool ok),(1,iI n)] h =
 nw (.cells Q8 false [iI 0,iI 0,.slice none 0 0,.bool false]) h fun b w=>cond (!ok)
 (bnd (C Bb5 [iI 105] w) fun r w1=>aAgg r fun x=>ck (List.length x=4) (pAgg ⟨b,0,none⟩ x w1 fun w2=>gAgg ⟨b,0,none⟩ 4 w2 fun z1=>some (.agg ⟨z1⟩,w2)))
 (pAgg ⟨b,0,none⟩ [iI n,iI 0,.slice none 0 0,.bool false] w fun w3=>gAgg ⟨b,0,none⟩ 4 w3 fun z2=>some (.agg ⟨z2⟩,w3)):=kR
def D76:Cuts:=⟨0,[],[],[(9,⟨[0,1,2,3,4,5],[0,0,0,6,15,31],[(3,[0])],[]⟩)]⟩
def Ga8:List Item:=A8 Tryz.f251
theorem Hs0 :
 xQ D76 C R De3 Tryz.f251 Ga8 [(0,.pointer c),(1,iI i),(2,iI fd),(3,iI n)] h =
 nw (.cells D8 false [iI 0,iI 0,iI 0,iI 0]) h fun b w=>bnd (C Dv3 [.pointer c,iI i,iI fd] w) fun r w1=>as3 r fun q1 q2 q3=>aInt .i64 q1 fun _=>aAgg q2 fun z1=>aInt .i64 q3 fun z2=>nw (.cells D8 false [iI 0,iI 0,iI 0,iI 0]) w1 fun p1 w2=>ck (List.length z1=4) (pAgg ⟨p1,0,none⟩ z1 w2 fun w3=>cond (z2 != 0)
 (gAgg ⟨p1,0,none⟩ 4 w3 fun z3=>ck (List.length z3=4) (pAgg ⟨b,0,none⟩ z3 w3 fun w4=>gAgg ⟨b,0,none⟩ 4 w4 fun z4=>some (.tuple ⟨[.agg ⟨z4⟩,iI z2]⟩,w4)))
 (gInt .i64 ⟨p1,0,none⟩ w3 fun z5=>cond (z5==2)
 (gAgg ⟨p1,0,none⟩ 4 w3 fun z6=>ck (List.length z6=4) (pAgg ⟨b,0,none⟩ z6 w3 fun w5=>gAgg ⟨b,0,none⟩ 4 w5 fun z7=>some (.tuple ⟨[.agg ⟨z7⟩,iI 109]⟩,w5)))
 (bnd (cond (decide (n<0)) (some (true,w3)) (some (decide (n>32),w3))) fun c_1 w6=>cond c_1
 (gAgg ⟨p1,0,none⟩ 4 w6 fun z8=>ck (List.length z8=4) (pAgg ⟨b,0,none⟩ z8 w6 fun w7=>gAgg ⟨b,0,none⟩ 4 w7 fun z9=>some (.tuple ⟨[.agg ⟨z9⟩,iI 122]⟩,w7)))
 (gInt .i64 ⟨p1,0,none⟩ w6 fun z10=>cond (z10==3)
 (gAgg ⟨p1,0,none⟩ 4 w6 fun z11=>bnd (C G55 [.pointer c,iI i] w6) fun q4 w8=>aInt .i64 q4 fun z12=>gAgg ⟨p1,0,none⟩ 4 w8 fun z13=>same (.agg ⟨z11⟩) (.agg ⟨z13⟩) (ck (List.length z11=4) (pAgg ⟨b,0,none⟩ z11 w8 fun w9=>gAgg ⟨b,0,none⟩ 4 w9 fun z14=>some (.tuple ⟨[.agg ⟨z14⟩,iI z12]⟩,w9))))
 (gAgg ⟨p1,0,none⟩ 4 w6 fun z15=>ck (List.length z15=4) (pAgg ⟨b,0,none⟩ z15 w6 fun w10=>gAgg ⟨b,0,none⟩ 4 w10 fun z16=>some (.tuple ⟨[.agg ⟨z16⟩,iI 0]⟩,w10))))))):=kR
def Dk5:Cuts:=⟨0,[],[],[]⟩
def Er5:List Item:=A8 Tryz.f254
theorem G53 :
 xQ Dk5 C R Ay7 Tryz.f254 Er5 [(0,.agg ⟨f⟩)] h =
 nw (.cells D8 false f) h fun b w=>nw (.cells Q8 false [iI 0,iI 0,.slice none 0 0,.bool false]) w fun p1 w1=>gInt .i64 ⟨b,3,none⟩ w1 fun x=>cond (x==1)
 (bnd (C S7 [iI 111] w1) fun r w2=>aAgg r fun z1=>ck (List.length z1=4) (pAgg ⟨p1,0,none⟩ z1 w2 fun w3=>gAgg ⟨p1,0,none⟩ 4 w3 fun z2=>some (.agg ⟨z2⟩,w3)))
 (pAgg ⟨p1,0,none⟩ [iI 0,iI 0,.slice none 0 0,.bool true] w1 fun w4=>gAgg ⟨p1,0,none⟩ 4 w4 fun z3=>some (.agg ⟨z3⟩,w4)):=kR
def Dw9:Cuts:=⟨0,[],[],[]⟩
def Ez4:List Item:=A8 Tryz.f269
theorem Hm0 (without:Int) :
 xQ Dw9 C R An5 Tryz.f269 Ez4 [(0,iI n),(1,iI without)] h =
 bnd (cond ((B21 .i64 n 65534)==0) (some ((M8 .i64 n without)==0,h)) (some (false,h))) fun c w=>some (.bool c,w):=kR
def Da8:Cuts:=⟨0,[],[],[(1,⟨[1,0,2,3,4,5,6],[0,0,3,7,7,31,63],[(0,[1])],[]⟩)]⟩
def Ed2:List Item:=A8 Tryz.f279
theorem Gw5 :
 xQ Da8 C R A84 Tryz.f279 Ed2 [(0,.agg ⟨f⟩)] h =
 nw (.cells D8 false f) h fun b w=>gAgg ⟨b,0,none⟩ 4 w fun x=>bnd (C Bg3 [] w) fun r w1=>aPtr r fun z1=>gAgg ⟨b,0,none⟩ 4 w1 fun z2=>same (.agg ⟨x⟩) (.agg ⟨z2⟩) (bnd (C Y5 [.pointer z1,.agg ⟨x⟩] w1) fun q1 w2=>as2 q1 fun q2 q3=>aSl q2 fun z3 xn xc=>aBool q3 fun z4=>some (.tuple ⟨[.slice z3 xn xc,.bool z4]⟩,w2)):=kR
def Dy3:Cuts:=⟨0,[],[],[]⟩
def E13:List Item:=A8 Tryz.f285
theorem Ho0 (fv1:Addr) :
 xQ Dy3 C R Ba1 Tryz.f285 E13 [(0,.agg ⟨p⟩),(1,.pointer (some fv0)),(2,.pointer (some fv1))] h =
 nw (.cells D3 false p) h fun b w=>gPtr fv0 w fun x=>gInt .i64 (add fv1 1) w fun z1=>gAgg ⟨b,0,none⟩ 36 w fun z2=>bnd (C W1 [.pointer x,iI z1,.agg ⟨z2⟩] w) fun r w1=>aBool r fun z3=>some (.bool z3,w1):=kR
def Aj6:Cuts:=⟨0,[],[],[(2,⟨[0,1,2,3,4,5,6,7,8,9,10,11,12,13,14],[0,1,3,7,15,31,63,127,255,511,63,63,4095,8191,16383],[],[]⟩)]⟩
def A48:List Item:=A8 Tryz.f290
theorem B95 (v:List Value) :
 xQ Aj6 C R Y5 Tryz.f290 A48 [(0,.pointer c),(1,.agg ⟨v⟩)] h =
 nw (.cells D8 false v) h fun b w=>aSome c fun p=>gInt .i64 (add p 0) w fun x=>ck ((0:Int)≤x∧(x:Int)≤x∧x≤(B1:Int)) (nw (.cells A7 false (L5 (Int.toNat x) [.int .u8 0])) w fun p1 w1=>aSome c fun p_1=>gFv (add p_1 1) w1 fun z1=>isNilF z1 fun p2=>bnd (cond p2 (some (true,w1)) (aSome c fun p_2=>gFv (add p_2 1) w1 fun z2=>gAgg ⟨b,0,none⟩ 4 w1 fun z3=>aFn z2 fun g fi cp=>bnd (C g (fi++([.agg ⟨z3⟩,.slice (some ⟨p1,0,none⟩) (Int.toNat x) (Int.toNat x)]++cp)) w1) fun r w2=>aBool r fun z4=>some (!z4,w2))) fun c_1 w3=>cond c_1
 (some (.tuple ⟨[.slice none 0 0,.bool false]⟩,w3))
 (some (.tuple ⟨[.slice (some ⟨p1,0,none⟩) (Int.toNat x) (Int.toNat x),.bool true]⟩,w3))):=kR
end
end Go.EQ
