/- A blocked call ends when a signal that is caught comes, and tells so; one that ends the process ends it with that code; one that is ignored, or kept off, does nothing. -/
import Derived.Test.YtonlefldpebcpaaGreatDoorMc
import Derived.Test.YtonlefldpebcpaaGreatDoorProg
import Derived.KernelRfl
set_option linter.all false
namespace Go.EQ
open Go Go.NN Go.Proofs
noncomputable abbrev PR:Program:=Tryz.prog
abbrev D8:FuncId:=4
abbrev Ah7:FuncId:=7
abbrev Af2:FuncId:=9
abbrev L9:FuncId:=10
abbrev Bd0:FuncId:=11
abbrev E4:FuncId:=13
abbrev Af3:FuncId:=15
abbrev A68:FuncId:=16
abbrev D4:FuncId:=17
abbrev As3:FuncId:=21
abbrev B66:FuncId:=22
abbrev A92:FuncId:=23
abbrev Br6:FuncId:=24
abbrev D1:FuncId:=25
abbrev I1:FuncId:=26
abbrev Hg9:FuncId:=27
abbrev A29:FuncId:=28
abbrev Am9:FuncId:=29
abbrev Bj3:FuncId:=30
abbrev Be5:FuncId:=31
abbrev Ap0:FuncId:=32
abbrev Am8:FuncId:=33
abbrev Au4:FuncId:=34
abbrev P5:FuncId:=35
abbrev A11:FuncId:=36
abbrev A17:FuncId:=37
abbrev Bv6:FuncId:=40
abbrev Dk3:FuncId:=41
abbrev W5:FuncId:=42
abbrev N7:FuncId:=43
abbrev A13:FuncId:=44
abbrev Bn1:FuncId:=45
abbrev Aa2:FuncId:=46
abbrev Be0:FuncId:=47
abbrev Ad9:FuncId:=48
abbrev At1:FuncId:=49
abbrev O2:FuncId:=50
abbrev Ah3:FuncId:=51
abbrev U9:FuncId:=52
abbrev Ag8:FuncId:=53
abbrev Ao8:FuncId:=54
abbrev A40:FuncId:=55
abbrev G21:FuncId:=56
abbrev An2:FuncId:=57
abbrev D63:FuncId:=58
abbrev Ar1:FuncId:=59
abbrev A02:FuncId:=60
abbrev Ar0:FuncId:=61
abbrev A76:FuncId:=62
abbrev Dh3:FuncId:=63
abbrev S9:FuncId:=64
abbrev G8:FuncId:=65
abbrev B51:FuncId:=66
abbrev Aw0:FuncId:=67
abbrev Ar9:FuncId:=68
abbrev U6:FuncId:=69
abbrev Au2:FuncId:=70
abbrev Bm6:FuncId:=71
abbrev Ac0:FuncId:=72
abbrev O6:FuncId:=73
abbrev M8:FuncId:=74
abbrev J0:FuncId:=75
abbrev Am7:FuncId:=76
abbrev Bd9:FuncId:=77
abbrev A88:FuncId:=78
abbrev Ge5:FuncId:=79
abbrev Ax7:FuncId:=80
abbrev Gd7:FuncId:=81
abbrev Gp5:FuncId:=82
abbrev Ge4:FuncId:=83
abbrev Gl8:FuncId:=84
abbrev Gw7:FuncId:=85
abbrev El6:FuncId:=86
abbrev Gx0:FuncId:=87
abbrev Gv6:FuncId:=88
abbrev Ba3:FuncId:=89
abbrev Bi9:FuncId:=90
abbrev Bj0:FuncId:=91
abbrev P7:FuncId:=92
abbrev A10:FuncId:=93
abbrev A12:FuncId:=94
abbrev N5:FuncId:=95
abbrev A14:FuncId:=96
abbrev Au8:FuncId:=97
abbrev Y8:FuncId:=98
abbrev An1:FuncId:=99
abbrev L8:FuncId:=100
abbrev Ac6:FuncId:=102
abbrev Bm9:FuncId:=103
abbrev Du1:FuncId:=104
abbrev Az8:FuncId:=105
abbrev A04:FuncId:=106
abbrev Ig6:FuncId:=107
abbrev W9:FuncId:=108
abbrev A35:FuncId:=109
abbrev Aq5:FuncId:=110
abbrev Ad4:FuncId:=111
abbrev Be1:FuncId:=112
abbrev Eb9:FuncId:=113
abbrev De8:FuncId:=114
abbrev B63:FuncId:=115
abbrev Bg1:FuncId:=116
abbrev P4:FuncId:=117
abbrev Al3:FuncId:=118
abbrev U4:FuncId:=119
abbrev Aa8:FuncId:=120
abbrev Ai7:FuncId:=121
abbrev Ag6:FuncId:=122
abbrev O9:FuncId:=123
abbrev Al4:FuncId:=124
abbrev I8:FuncId:=125
abbrev Y5:FuncId:=126
abbrev W7:FuncId:=127
abbrev Al9:FuncId:=128
abbrev Ay3:FuncId:=129
abbrev U8:FuncId:=130
abbrev Ae2:FuncId:=131
abbrev Z2:FuncId:=132
abbrev Bo0:FuncId:=133
abbrev Em4:FuncId:=134
abbrev A90:FuncId:=135
abbrev A05:FuncId:=136
abbrev Di0:FuncId:=137
abbrev D69:FuncId:=138
abbrev Ay6:FuncId:=139
abbrev W2:FuncId:=140
abbrev R0:FuncId:=141
abbrev Bl2:FuncId:=142
abbrev Ag2:FuncId:=143
abbrev U2:FuncId:=144
abbrev Ag1:FuncId:=145
abbrev Bx6:FuncId:=146
abbrev A89:FuncId:=147
abbrev Bi5:FuncId:=148
abbrev Bk6:FuncId:=149
abbrev Aj5:FuncId:=150
abbrev Ah6:FuncId:=151
abbrev At9:FuncId:=152
abbrev A99:FuncId:=153
abbrev Gd6:FuncId:=154
abbrev A44:FuncId:=155
abbrev Ba2:FuncId:=156
abbrev Be3:FuncId:=157
abbrev Bd6:FuncId:=158
abbrev Ax1:FuncId:=159
abbrev Bl6:FuncId:=160
abbrev Aq3:FuncId:=161
abbrev An4:FuncId:=162
abbrev Bk1:FuncId:=163
abbrev Y9:FuncId:=170
abbrev Bp0:FuncId:=171
abbrev Ac1:FuncId:=172
abbrev Bx4:FuncId:=173
abbrev Ac3:FuncId:=174
abbrev Az4:FuncId:=175
abbrev D79:FuncId:=176
abbrev Dj5:FuncId:=177
abbrev Hz8:FuncId:=178
abbrev Ii2:FuncId:=179
abbrev I74:FuncId:=180
abbrev I18:FuncId:=181
abbrev I78:FuncId:=182
abbrev Hy3:FuncId:=183
abbrev Az6:FuncId:=184
abbrev J5:FuncId:=185
abbrev Ad7:FuncId:=186
abbrev Bn7:FuncId:=187
abbrev An0:FuncId:=188
abbrev Bz5:FuncId:=189
abbrev Aa1:FuncId:=190
abbrev Dk2:FuncId:=194
abbrev Bw6:FuncId:=195
abbrev Ab1:FuncId:=196
abbrev Em0:FuncId:=197
abbrev Dh5:FuncId:=198
abbrev Dv0:FuncId:=199
abbrev Dv5:FuncId:=200
abbrev D7:FuncId:=201
abbrev Z8:FuncId:=202
abbrev Ac4:FuncId:=203
abbrev Ae1:FuncId:=204
abbrev A87:FuncId:=205
abbrev Y6:FuncId:=206
abbrev S8:FuncId:=207
abbrev I7:FuncId:=208
abbrev D80:FuncId:=209
abbrev Bv1:FuncId:=210
abbrev Ag9:FuncId:=211
abbrev Dh9:FuncId:=212
abbrev D6:FuncId:=213
abbrev L6:FuncId:=214
abbrev I4:FuncId:=215
abbrev De3:FuncId:=216
abbrev W0:FuncId:=217
abbrev Be6:FuncId:=218
abbrev Ar7:FuncId:=219
abbrev A19:FuncId:=220
abbrev Af9:FuncId:=221
abbrev Ah1:FuncId:=222
abbrev Bz9:FuncId:=223
abbrev Br3:FuncId:=224
abbrev A25:FuncId:=225
abbrev Ap6:FuncId:=228
abbrev A86:FuncId:=229
abbrev A37:FuncId:=230
abbrev D3:FuncId:=231
abbrev Bd1:FuncId:=232
abbrev Bk7:FuncId:=233
abbrev Ad0:FuncId:=234
abbrev Aw5:FuncId:=237
abbrev Az7:FuncId:=238
abbrev Az9:FuncId:=239
abbrev Aw6:FuncId:=240
abbrev By3:FuncId:=241
abbrev B03:FuncId:=242
abbrev Bl5:FuncId:=243
abbrev Du3:FuncId:=244
abbrev Ae3:FuncId:=245
abbrev Bg4:FuncId:=246
abbrev Bg7:FuncId:=247
abbrev V5:FuncId:=248
abbrev P6:FuncId:=249
abbrev D82:FuncId:=250
abbrev Du9:FuncId:=251
abbrev As2:FuncId:=252
abbrev D58:FuncId:=253
abbrev Bo1:FuncId:=254
abbrev Dt3:FuncId:=255
abbrev A24:FuncId:=261
abbrev Ee2:FuncId:=262
abbrev Ag0:FuncId:=265
abbrev O5:FuncId:=266
abbrev Ai5:FuncId:=267
abbrev Ah9:FuncId:=268
abbrev Ar5:FuncId:=269
abbrev Bu7:FuncId:=270
abbrev E7:FuncId:=271
abbrev N3:FuncId:=272
abbrev Bx2:FuncId:=273
abbrev Ak7:FuncId:=274
abbrev Am3:FuncId:=277
abbrev D67:FuncId:=278
abbrev Bg8:FuncId:=279
abbrev Dx7:FuncId:=280
abbrev Bo2:FuncId:=281
abbrev Bo8:FuncId:=282
abbrev Hx7:FuncId:=283
abbrev Br5:FuncId:=284
abbrev Bf9:FuncId:=285
abbrev As1:FuncId:=286
abbrev Ab2:FuncId:=287
abbrev Ab9:FuncId:=290
abbrev A09:FuncId:=291
abbrev Ac5:FuncId:=292
abbrev B9:TypeId:=3
abbrev G95:TypeId:=4
abbrev A9:TypeId:=5
abbrev Q4:TypeId:=23
abbrev Dd1:TypeId:=30
abbrev Y4:TypeId:=32
abbrev Ae0:TypeId:=34
abbrev J9:TypeId:=35
abbrev W1:TypeId:=40
abbrev Hn4:TypeId:=42
abbrev B2:TypeId:=44
abbrev Aq0:TypeId:=60
abbrev A03:TypeId:=63
abbrev E9:TypeId:=72
abbrev Eq7:TypeId:=83
abbrev Eg7:TypeId:=85
abbrev De9:TypeId:=88
abbrev A97:TypeId:=91
abbrev E6:TypeId:=95
abbrev Ee3:TypeId:=97
abbrev D9:TypeId:=105
abbrev A62:TypeId:=106
abbrev Ie0:TypeId:=110
abbrev P3:TypeId:=120
abbrev Gy6:TypeId:=124
abbrev D38:TypeId:=134
abbrev G7:TypeId:=144
abbrev Dh8:TypeId:=150
abbrev Gy7:TypeId:=160
abbrev Ex5:TypeId:=168
abbrev Bo5:TypeId:=173
abbrev Eo2:TypeId:=178
abbrev Gy3:TypeId:=186
abbrev Ex0:TypeId:=199
abbrev Q9:TypeId:=201
abbrev L5:TypeId:=215
abbrev A32:TypeId:=218
abbrev W3:TypeId:=223
abbrev Bt0:TypeId:=225
abbrev B59:TypeId:=233
abbrev O3:TypeId:=235
abbrev Bg6:TypeId:=262
abbrev Gn6:TypeId:=266
abbrev Gh4:TypeId:=269
abbrev G01:TypeId:=271
abbrev J7:TypeId:=287
abbrev Dd3:TypeId:=307
abbrev At8:TypeId:=309
abbrev Jx6:TypeId:=313
abbrev Gl4:TypeId:=320
abbrev A64:TypeId:=323
abbrev Ee9:TypeId:=326
abbrev A66:TypeId:=328
abbrev B42:TypeId:=330
abbrev Bx5:TypeId:=342
abbrev Gh1:TypeId:=345
abbrev Aq8:TypeId:=349
abbrev B37:TypeId:=353
abbrev Ed2:TypeId:=362
abbrev E63:TypeId:=370
abbrev I36:TypeId:=390
noncomputable abbrev iI (n:Int):Value:=.int .i64 n
noncomputable abbrev pP (b:Nat):Value:=.pointer (some ⟨b,0,none⟩)
noncomputable abbrev xQ (c:Cuts) (C:E0) (R:Ab8) (f:FuncId) (fn:Func) (T:List Item) (s:D2) (h:H):Option (Value × H):=Z0 PR c C R f fn 100000 true T s h
theorem kR {α:Type} {a b:α} (h:a=b:=by kernel_rfl):a=b:=h
noncomputable abbrev zZ1:List Value:=[.int .i64 0,.int .i64 0,.int .i64 0,.int .i64 0,.int .i64 0,.int .i64 0,.int .i64 0,.int .i64 0,.int .i64 0,.int .i64 0,.int .i64 0,.int .i64 0,.int .i64 0,.int .i64 0,.int .i64 0,.int .i64 0]
noncomputable abbrev zZ2:List Value:=[.int .i64 0,.int .i64 0,.int .i64 0,.int .i64 0,.int .u8 0,.int .u8 0,.int .u8 0,.int .u8 0,.int .u8 0,.int .u8 0,.int .u8 0,.int .u8 0,.int .u8 0,.int .u8 0,.int .u8 0,.int .u8 0,.int .u8 0,.int .u8 0,.int .u8 0,.int .u8 0,.int .u8 0,.int .u8 0,.int .u8 0,.int .u8 0,.int .u8 0,.int .u8 0,.int .u8 0,.int .u8 0,.int .u8 0,.int .u8 0,.int .u8 0,.int .u8 0,.int .u8 0,.int .u8 0,.int .u8 0,.int .u8 0]
noncomputable abbrev zZ3:List Value:=[.int .i64 0,.int .i64 0,.int .i64 0,.int .i64 0,.int .i64 0,.int .i64 0,.int .i64 0,.int .i64 0,.int .i64 0,.int .i64 0,.int .i64 0,.int .i64 0]
noncomputable abbrev zZ4:List Value:=[.int .i64 0,.int .i64 0,.int .i64 0,.int .i64 0,.int .i64 0,.int .i64 0,.int .i64 0,.int .i64 0,.int .i64 0,.int .i64 0,.int .i64 0,.int .i64 0,.int .i64 0,.int .i64 0,.int .i64 0,.int .i64 0,.int .i64 0]
end Go.EQ

set_option maxRecDepth 100000
namespace Go.EQ
open Go Go.NN Go.Proofs
open Go.IntKind (wrap)
open Go.Addr (add)
variable (C:E0) (R:Ab8) (dov fv0 hs more nonev x:Addr) (h:H) (a atv e env envs f fd g i j j_1 n name now size stamp want who x10 x12 x20:Int) (p r:List Value) (bc bn datac datan lc ln outc outn s1c s1n s2c s2n sc slicesc slicesn sn:Nat) (b c data k l out q s s1 s2 slices swaps w:Option Addr) (cmp isv of:Value)
noncomputable section
def Di9:Cuts:=⟨2,[(9,[6,7,8,9,10,11,12])],[],[]⟩
def Eh5:List Item:=A8 Tryz.f21
def Br4:List Item:=stk [0,1,0,1,0,1,0,1,0,1,0,1,0,1,0,0,1,4,5] Eh5
theorem H70 :
 xQ Di9 C R As3 Tryz.f21 Eh5 [(0,.slice b bn bc)] h =
 bnd (C Dk3 [] h) fun r w=>aAgg r fun x=>bnd (C Bv6 [.agg ⟨x⟩] w) fun q1 w1=>as4 q1 fun q2 q3 q4 q5=>aPtr q2 fun z1=>aPtr q3 fun z2=>aPtr q4 fun z3=>aPtr q5 fun z4=>jO z2.isNone w1 (some ((bn:Int) != 492,w1)) fun c w2=>cond c
 (jT [.pointer none,.pointer none,.pointer none,.pointer none] w2)
 (nw (.cells A97 false [iI 0,iI 0,iI 0,iI 0,iI 0,iI 0,sN]) w2 fun p1 w3=>jW p1 0 [iI 2,iI 256,iI 0,iI 0,iI 0,iI 0,.slice b bn bc] w3 fun w4=>bnd (C W5 [.agg ⟨[iI 0,iI 0,iI 1,iI 1,.int .u8 0,.int .u8 0,.int .u8 0,.int .u8 0,.int .u8 0,.int .u8 0,.int .u8 0,.int .u8 0,.int .u8 0,.int .u8 0,.int .u8 0,.int .u8 0,.int .u8 0,.int .u8 0,.int .u8 0,.int .u8 0,.int .u8 0,.int .u8 0,.int .u8 0,.int .u8 0,.int .u8 0,.int .u8 0,.int .u8 0,.int .u8 0,.int .u8 0,.int .u8 0,.int .u8 0,.int .u8 0,.int .u8 0,.int .u8 0,.int .u8 0,.int .u8 0]⟩] w4) fun q6 w5=>aStr q6 fun z5=>jA p1 0 7 w5 fun z6=>bnd (C N7 [.pointer z1,iI 0,.agg ⟨z6⟩] w5) fun q7 w6=>aAgg q7 fun _=>jA p1 0 7 w6 fun z8=>bnd (C A13 [.pointer z3,iI 0,.agg ⟨z8⟩] w6) fun q8 w7=>as3 q8 fun q9 q10 q11=>aI q9 fun _=>aI q10 fun _=>aStr q11 fun _=>R As3 Br4 [(6,.pointer z1),(7,.pointer z2),(8,.pointer z3),(9,.pointer z4),(10,pP p1),(11,.string z5),(12,iI 1)] w7):=kR
theorem Dh7 (wv:Option Addr) (m:Option Addr) (pipe:ByteArray) :
 xQ Di9 C R As3 Tryz.f21 Br4 [(6,.pointer k),(7,.pointer c),(8,.pointer wv),(9,.pointer m),(10,.pointer (some x)),(11,.string pipe),(12,iI i)] h =
 cond (decide (i<3))
 (ck (ByteArray.size pipe≤B3) (nw (.cells A9 false (A0 (ByteArray.data pipe).toList)) h fun b w=>pAgg x [iI 2,iI (wrap .i64 (256+i)),iI 0,iI 0,iI 0,iI 0,.slice (some (Q0 b)) (ByteArray.size pipe) (ByteArray.size pipe)] w fun w1=>gAgg x 7 w1 fun z1=>bnd (C N7 [.pointer k,iI 0,.agg ⟨z1⟩] w1) fun r w2=>aAgg r fun _=>gAgg x 7 w2 fun z3=>bnd (C A13 [.pointer wv,iI 0,.agg ⟨z3⟩] w2) fun q1 w3=>as3 q1 fun q2 q3 q4=>aI q2 fun _=>aI q3 fun _=>aStr q4 fun _=>R As3 Br4 [(6,.pointer k),(7,.pointer c),(8,.pointer wv),(9,.pointer m),(10,.pointer (some x)),(11,.string pipe),(12,iI (wrap .i64 (i+1)))] w3))
 (jT [.pointer k,.pointer c,.pointer wv,.pointer m] h):=kR
def Dy9:Cuts:=⟨2,[],[],[(5,⟨[0,1,2,3,4],[0,1,0,4,15],[(3,[1])],[]⟩)]⟩
def Gd1:List Item:=A8 Tryz.f22
theorem Hw1 :
 xQ Dy9 C R B66 Tryz.f22 Gd1 [] h =
 bnd (C Bn1 [] h) fun r w=>aStr r fun x=>ck (ByteArray.size x≤B3) (nw (.cells A9 false (A0 (ByteArray.data x).toList)) w fun b w1=>nw (.cells B2 false zZ1) w1 fun p1 w2=>jW p1 0 [iI 1,iI 0,iI 0,iI 0,iI 0,iI 0,iI 0,iI 0,iI 0,iI 0,iI 0,iI 0,iI 0,iI 0,iI 0,iI 0] w2 fun w3=>ck ((0:Int)≤0∧0<((8:Nat):Int)) (pV (add ⟨p1,8,none⟩ (Int.toNat 0*1)) (iI 1) w3 fun w4=>jA p1 0 16 w4 fun z1=>bnd (C Aa2 [.agg ⟨z1⟩] w4) fun q1 w5=>aStr q1 fun z2=>pCells (some (Q0 b)) (A0 (List.take (min (ByteArray.size z2) (ByteArray.size x)) (ByteArray.data z2).toList)) w5 fun w6=>ckB (fitsOpen (some (Q0 b)) A9 w6) (ck ((0:Int)≤192∧192≤((ByteArray.size x:Nat):Int)) (bnd (C Be0 [.agg ⟨[iI 3,iI 0,iI 1,iI 0]⟩] w6) fun q2 w7=>aStr q2 fun z3=>ckB (fitsOpen (some (Q0 b)) A9 w7) (ck ((0:Int)≤192∧192≤((ByteArray.size x:Nat):Int)) (same (.slice (E5 (some (Q0 b)) (decide (Int.toNat 192<ByteArray.size x)) ((Int.toNat 192)*1)) ((ByteArray.size x)-(Int.toNat 192)) ((ByteArray.size x)-(Int.toNat 192))) (.slice (E5 (some (Q0 b)) (decide (Int.toNat 192<ByteArray.size x)) ((Int.toNat 192)*1)) ((ByteArray.size x)-(Int.toNat 192)) ((ByteArray.size x)-(Int.toNat 192))) (pCells (E5 (some (Q0 b)) (decide (Int.toNat 192<ByteArray.size x)) ((Int.toNat 192)*1)) (A0 (List.take (min (ByteArray.size z3) ((ByteArray.size x)-(Int.toNat 192))) (ByteArray.data z3).toList)) w7 fun w8=>some (.slice (some (Q0 b)) (ByteArray.size x) (ByteArray.size x),w8)))))))):=kR
def E57:Cuts:=⟨2,[],[],[]⟩
def Hi4:List Item:=A8 Tryz.f23
theorem E34 (slot:Int) (sectionv:Int) :
 xQ E57 C R A92 Tryz.f23 Hi4 [(0,.pointer k),(1,iI env),(2,iI slot),(3,iI sectionv)] h =
 bnd (C Au4 [.pointer k,iI env] h) fun r w=>as2 r fun q1 q2=>aPtr q1 fun x=>aI q2 fun z1=>cond (z1 != 0)
 (jT [.pointer none,iI z1] w)
 (jO (decide (slot<0)) w (some (decide (slot≥8),w)) fun c w1=>cond c
 (jT [.pointer none,iI 1] w1)
 (bnd (C Ad9 [.pointer k,iI sectionv] w1) fun q3 w2=>aPtr q3 fun z2=>cond z2.isNone
 (jT [.pointer none,iI 8] w2)
 (nw (.cells A03 false [.pointer k,iI env,iI slot,iI sectionv,.pointer x,iI 0,iI 0,iI 0,iI 0,iI 0,sN]) w2 fun b w3=>jT [pP b,iI 0] w3))):=kR
def Aa0:Cuts:=⟨2,[(1,[0,5]),(6,[0,12]),(11,[0,20,21])],[],[]⟩
def Ah5:List Item:=A8 Tryz.f25
def Ak5:List Item:=stk [0,0,1,4,5] Ah5
def Ak4:List Item:=stk [0,1,0,0,1,4,5] Ah5
def Ak0:List Item:=stk [0,1,0,1,0,0,1,4,5] Ah5
theorem Ep1 :
 xQ Aa0 C R D1 Tryz.f25 Ah5 [(0,.pointer c)] h =
 R D1 Ak5 [(0,.pointer c),(5,iI 0)] h:=kR
theorem Bs6 (x5:Int) :
 xQ Aa0 C R D1 Tryz.f25 Ak5 [(0,.pointer c),(5,iI x5)] h =
 cond (decide (x5<8))
 (bnd (C E4 [.pointer c,iI x5] h) fun r w=>as2 r fun q1 q2=>aAgg q1 fun _=>aI q2 fun _=>R D1 Ak5 [(0,.pointer c),(5,iI (wrap .i64 (x5+1)))] w)
 (R D1 Ak4 [(0,.pointer c),(12,iI 0)] h):=kR
theorem Br2 :
 xQ Aa0 C R D1 Tryz.f25 Ak4 [(0,.pointer c),(12,iI x12)] h =
 cond (decide (x12<12))
 (bnd (C O2 [.pointer c,iI x12] h) fun r w=>as2 r fun q1 q2=>aAgg q1 fun _=>aI q2 fun _=>R D1 Ak4 [(0,.pointer c),(12,iI (wrap .i64 (x12+1)))] w)
 (bnd (C Ah3 [.pointer c,iI 3] h) fun q3 w1=>aI q3 fun z2=>R D1 Ak0 [(0,.pointer c),(20,iI z2),(21,iI 0)] w1):=kR
theorem Bt7 (x21:Int) :
 xQ Aa0 C R D1 Tryz.f25 Ak0 [(0,.pointer c),(20,iI x20),(21,iI x21)] h =
 cond (decide (x21<x20))
 (bnd (C U9 [.pointer c,iI x21] h) fun r w=>as2 r fun q1 q2=>aAgg q1 fun _=>aI q2 fun _=>R D1 Ak0 [(0,.pointer c),(20,iI x20),(21,iI (wrap .i64 (x21+1)))] w)
 (bnd (C Ag8 [.pointer c] h) fun q3 w1=>as2 q3 fun q4 q5=>aAgg q4 fun _=>aI q5 fun _=>bnd (C Ao8 [.pointer c] w1) fun q6 w2=>as2 q6 fun q7 q8=>aI q7 fun _=>aBool q8 fun _=>jT [] w2):=kR
def Db7:Cuts:=⟨2,[],[],[(0,⟨[0,1,2,3,4,5,6,7,8,9,10,11,12,14,13,15],[0,1,3,7,0,16,48,112,0,256,768,1792,3840,8191,0,32767],[],[]⟩),(2,⟨[0,1,2,3,4,5,6,7,8,9],[0,0,0,4,1,17,49,127,255,511],[(6,[3])],[]⟩)]⟩
def Eb0:List Item:=A8 Tryz.f30
theorem G52 :
 xQ Db7 C R Bj3 Tryz.f30 Eb0 [(0,.pointer w)] h =
 aSome w fun p=>gPtr (add p 0) h fun x=>aSome w fun p_1=>gInt .i64 (add p_1 1) h fun z1=>aSome w fun p_2=>gInt .i64 (add p_2 3) h fun z2=>nw (.cells Ee3 false [iI 0,iI 0,sN]) h fun b w1=>bnd (C N7 [.pointer x,iI z1,.agg ⟨[iI 8,iI 0,iI 0,iI z2,iI 0,iI 0,sN]⟩] w1) fun r w2=>aAgg r fun z3=>jK 3 b 0 z3 w2 fun w3=>jI b 1 w3 fun z4=>cond (decide (z4>0))
 (jI b 1 w3 fun z5=>aSome w fun p_3=>pV (add p_3 5) (iI 2) w3 fun w4=>jI b 1 w4 fun z6=>same (iI z5) (iI z6) (aSome w fun p_4=>pV (add p_4 6) (iI z5) w4 fun w5=>jT [] w5))
 (jT [] w3):=kR
def Dh6:Cuts:=⟨2,[],[],[(1,⟨[0,1,2,3,4,5,6,7,12,8,9,10,11,13,14],[0,1,3,7,0,16,48,112,255,511,1023,1023,0,6143,16383],[],[]⟩),(5,⟨[0,1,2,3,4,5,6,7,8,9],[0,1,3,7,0,16,48,112,0,511],[],[]⟩),(7,⟨[0,1,2,3,4,5,6,7,8,9,10,11],[0,1,3,7,0,16,48,112,0,256,768,2047],[],[]⟩)]⟩
def En3:List Item:=A8 Tryz.f33
theorem Dl8 (o:List Value) :
 xQ Dh6 C R Am8 Tryz.f33 En3 [(0,.pointer w),(1,.agg ⟨o⟩)] h =
 nw (.cells Ae0 false o) h fun b w1=>nw (.cells Ae0 false [iI 0,iI 0,iI 0,iI 0,iI 0,sN,iI 0,iI 0,sN,.bool false,sN,iI 0]) w1 fun p1 w2=>aSome w fun p=>gPtr (add p 4) w2 fun x=>aSome w fun p_1=>gInt .i64 (add p_1 2) w2 fun z1=>nw (.cells B2 false zZ1) w2 fun p2 w3=>bnd (C E4 [.pointer x,iI z1] w3) fun r w4=>as2 r fun q1 q2=>aAgg q1 fun z2=>aI q2 fun z3=>jK 16 p2 0 z2 w4 fun w5=>jO (z3 != 1) w5 (jI p2 0 w5 fun z4=>some (z4 != 1,w5)) fun c w6=>cond c
 (jA b 0 12 w6 fun z5=>jK 12 p1 0 z5 w6 fun w7=>jA p1 0 12 w7 fun z6=>jG z6 w7)
 (jA p2 0 16 w6 fun z7=>bnd (C S9 [.agg ⟨z7⟩] w6) fun q3 w8=>as3 q3 fun q4 q5 q6=>aAgg q4 fun z8=>aSl q5 fun z9 xn xc=>aI q6 fun z10=>jK 16 p2 0 z8 w8 fun w9=>jV b 10 (.slice z9 xn xc) w9 fun w10=>jV b 11 (iI z10) w10 fun w11=>aSome w fun p_2=>gPtr (add p_2 4) w11 fun z11=>aSome w fun p_3=>gInt .i64 (add p_3 2) w11 fun z12=>jA p2 0 16 w11 fun z13=>bnd (C G8 [.pointer z11,iI z12,.agg ⟨z13⟩] w11) fun q7 w12=>aBool q7 fun _=>jI b 11 w12 fun z15=>cond (decide (z15>0))
 (aSome w fun p_4=>gPtr (add p_4 4) w12 fun z16=>aSome w fun p_5=>gInt .i64 (add p_5 2) w12 fun z17=>jI b 11 w12 fun z18=>bnd (C B51 [.pointer z16,iI z17,iI (wrap .i64 (128+z18))] w12) fun q8 w13=>aAgg q8 fun _=>jA b 0 12 w13 fun z20=>jK 12 p1 0 z20 w13 fun w14=>jA p1 0 12 w14 fun z21=>jG z21 w14)
 (jA b 0 12 w12 fun z22=>jK 12 p1 0 z22 w12 fun w15=>jA p1 0 12 w15 fun z23=>jG z23 w15)):=kR
def Dr4:Cuts:=⟨2,[],[],[]⟩
def Ex2:List Item:=A8 Tryz.f36
theorem Hj8 :
 xQ Dr4 C R A11 Tryz.f36 Ex2 [(0,iI i)] h =
 nw (.cells E9 false [iI 0,iI 0]) h fun b w=>jW b 0 [iI 1,iI i] w fun w1=>jA b 0 2 w1 fun x=>jG x w1:=kR
def Ba7:Cuts:=⟨2,[],[],[]⟩
def B45:List Item:=A8 Tryz.f52
theorem Eq2 :
 xQ Ba7 C R U9 Tryz.f52 B45 [(0,.pointer c),(1,iI i)] h =
 nw (.cells E6 false zZ2) h fun b w=>bnd (C A14 [iI i] w) fun r w1=>aAgg r fun x=>bnd (C N5 [.pointer c,.agg ⟨x⟩,.func (.func Au8) ⟨[]⟩ ⟨[]⟩] w1) fun q1 w2=>as2 q1 fun q2 q3=>aAgg q2 fun z1=>aI q3 fun z2=>jK 36 b 0 z1 w2 fun w3=>jA b 0 36 w3 fun z3=>jT [.agg ⟨z3⟩,iI z2] w3:=kR
def Bb8:Cuts:=⟨2,[],[],[]⟩
def B50:List Item:=A8 Tryz.f53
theorem Er8 :
 xQ Bb8 C R Ag8 Tryz.f53 B50 [(0,.pointer c)] h =
 nw (.cells E6 false zZ2) h fun b w=>bnd (C N5 [.pointer c,.agg ⟨[iI 4,iI 0]⟩,.func (.func Au8) ⟨[]⟩ ⟨[]⟩] w) fun r w1=>as2 r fun q1 q2=>aAgg q1 fun x=>aI q2 fun z1=>jK 36 b 0 x w1 fun w2=>jA b 0 36 w2 fun z2=>jT [.agg ⟨z2⟩,iI z1] w2:=kR
def B83:Cuts:=⟨2,[],[],[(1,⟨[0,1,2,3,4,5,6,7,8,9,10,11,12,13,14,15],[0,1,3,7,0,16,48,112,0,256,0,1024,0,4096,16383,32767],[],[]⟩)]⟩
def Eh1:List Item:=A8 Tryz.f55
theorem G57 :
 xQ B83 C R A40 Tryz.f55 Eh1 [(0,.pointer w),(1,.agg ⟨r⟩)] h =
 nw (.cells P3 false r) h fun b w1=>nw (.cells Ae0 false [iI 0,iI 0,iI 0,iI 0,iI 0,sN,iI 0,iI 0,sN,.bool false,sN,iI 0]) w1 fun p1 w2=>aSome w fun p=>gInt .i64 (add p 2) w2 fun x=>aSome w fun p_1=>gAgg (add p_1 7) 4 w2 fun z1=>jI b 0 w2 fun z2=>jI b 1 w2 fun z3=>jS b 2 w2 fun z4 xn xc=>ck (List.length z1=4) (ck (List.length (iI 0::(iI x::(z1++(iI z2::(iI z3::(.slice z4 xn xc::(.bool true::(sN::[iI 0]))))))))=12) (jW p1 0 (iI 0::(iI x::(z1++(iI z2::(iI z3::(.slice z4 xn xc::(.bool true::(sN::[iI 0])))))))) w2 fun w3=>jA p1 0 12 w3 fun z5=>jG z5 w3)):=kR
def Bb5:Cuts:=⟨2,[],[],[(1,⟨[0,1,2,3,4,5,6,7,8,9,10,11,12,13,14,15,16,17],[0,1,3,7,0,16,48,112,0,256,768,1792,3840,7936,16128,32767,65535,131071],[],[]⟩)]⟩
def B62:List Item:=A8 Tryz.f61
theorem Ev0 :
 xQ Bb5 C R Ar0 Tryz.f61 B62 [(0,.pointer c)] h =
 aSome c fun p=>gPtr (add p 0) h fun x=>aSome c fun p_1=>gInt .i64 (add p_1 1) h fun z1=>aSome c fun p_2=>gSl (add p_2 2) h fun z2 xn _=>aSome z2 fun p_3=>jR 0 xn (gInt .i64 (add (B4 p_3) (Int.toNat 0*1)) h fun z3=>bnd (C N7 [.pointer x,iI z1,.agg ⟨[iI 1,iI z3,iI 0,iI 492,iI 0,iI 0,sN]⟩] h) fun r w=>aAgg r fun z4=>nth z4 2 fun B=>aSl B fun B_1 Bn Bc=>some (.slice B_1 Bn Bc,w)):=kR
def Aw4:Cuts:=⟨2,[],[],[]⟩
def Bs7:List Item:=A8 Tryz.f65
theorem D72 :
 xQ Aw4 C R G8 Tryz.f65 Bs7 [(0,.pointer c),(1,iI i),(2,.agg ⟨p⟩)] h =
 nw (.cells B2 false p) h fun b w=>jA b 0 16 w fun x=>bnd (C Bg1 [.agg ⟨x⟩] w) fun r w1=>as2 r fun q1 q2=>aSl q1 fun z1 xn xc=>aBool q2 fun z2=>bnd (C A11 [iI i] w1) fun q3 w2=>aAgg q3 fun z3=>bnd (C P4 [.pointer c,.agg ⟨z3⟩,.slice z1 xn xc,.bool z2] w2) fun q4 w3=>aBool q4 fun z4=>some (.bool z4,w3):=kR
def Es3:Cuts:=⟨2,[],[],[]⟩
def Gy4:List Item:=A8 Tryz.f66
theorem Il7 (code:Int) :
 xQ Es3 C R B51 Tryz.f66 Gy4 [(0,.pointer c),(1,iI i),(2,iI code)] h =
 nw (.cells P3 false [iI 0,iI 0,sN,.bool false]) h fun b w=>bnd (C Al3 [.pointer c,iI i] w) fun r w1=>as2 r fun q1 q2=>aAgg q1 fun x=>aI q2 fun z1=>nw (.cells B2 false zZ1) w1 fun p1 w2=>jK 16 p1 0 x w2 fun w3=>cond (z1 != 0)
 (bnd (C U4 [iI z1] w3) fun q3 w4=>aAgg q3 fun z2=>jK 4 b 0 z2 w4 fun w5=>jA b 0 4 w5 fun z3=>jG z3 w5)
 (bnd (C Aa8 [.pointer c,iI i] w3) fun q4 w6=>as0 q4 (bnd (C Ai7 [.pointer c,iI i] w6) fun q5 w7=>as0 q5 (bnd (C E4 [.pointer c,iI i] w7) fun q6 w8=>as2 q6 fun q7 q8=>aAgg q7 fun z4=>aI q8 fun z5=>nw (.cells B2 false zZ1) w8 fun p2 w9=>jK 16 p2 0 z4 w9 fun w10=>cond (z5 != 1)
 (bnd (C U4 [iI 105] w10) fun q9 w11=>aAgg q9 fun z6=>jK 4 b 0 z6 w11 fun w12=>jA b 0 4 w12 fun z7=>jG z7 w12)
 (jI p2 1 w10 fun z8=>cond (decide (z8>0))
 (jI p2 1 w10 fun z9=>bnd (C E4 [.pointer c,iI (wrap .i64 (z9-1))] w10) fun q10 w13=>as2 q10 fun q11 q12=>aAgg q11 fun z10=>aI q12 fun z11=>nw (.cells B2 false zZ1) w13 fun p3 w14=>jK 16 p3 0 z10 w14 fun w15=>jN (z11==1) (jI p3 0 w15 fun z12=>some (z12 != 2,w15)) w15 fun c_1 w16=>cond c_1
 (jV p2 0 (iI 2) w16 fun w17=>jV p2 3 (iI (Int.tmod (wrap .i64 ((Int.tmod code 256)+256)) 256)) w17 fun w18=>jV p2 4 (iI 0) w18 fun w19=>jW p2 8 [iI 0,iI 0,iI 0,iI 0,iI 0,iI 0,iI 0,iI 0] w19 fun w20=>jA p2 0 16 w20 fun z13=>bnd (C G8 [.pointer c,iI i,.agg ⟨z13⟩] w20) fun q13 w21=>aBool q13 fun z14=>bnd (C Ag6 [.bool z14,iI 0] w21) fun q14 w22=>aAgg q14 fun z15=>jK 4 b 0 z15 w22 fun w23=>jA b 0 4 w23 fun z16=>jG z16 w23)
 (bnd (C O9 [.pointer c,iI i] w16) fun q15 w24=>aBool q15 fun z17=>bnd (C Ag6 [.bool z17,iI 0] w24) fun q16 w25=>aAgg q16 fun z18=>jK 4 b 0 z18 w25 fun w26=>jA b 0 4 w26 fun z19=>jG z19 w26))
 (bnd (C O9 [.pointer c,iI i] w10) fun q17 w27=>aBool q17 fun z20=>bnd (C Ag6 [.bool z20,iI 0] w27) fun q18 w28=>aAgg q18 fun z21=>jK 4 b 0 z21 w28 fun w29=>jA b 0 4 w29 fun z22=>jG z22 w29))))):=kR
def D91:Cuts:=⟨2,[(3,[0,3,4])],[],[]⟩
def E65:List Item:=A8 Tryz.f76
def B64:List Item:=stk [0,1,0,1,0,0,1,4,5] E65
theorem I44 (b:ByteArray) :
 xQ D91 C R Am7 Tryz.f76 E65 [(0,.string b)] h =
 R Am7 B64 [(0,.string b),(3,iI ((ByteArray.size b:Nat):Int)),(4,iI 0)] h:=kR
theorem Gc1 (b:ByteArray) :
 xQ D91 C R Am7 Tryz.f76 B64 [(0,.string b),(3,iI n),(4,iI i)] h =
 cond (decide (i<((ByteArray.size b:Nat):Int)))
 (ck ((0:Int)≤i∧i<((ByteArray.size b:Nat):Int)) (R Am7 B64 [(0,.string b),(3,iI (wrap .i64 (n+(wrap .i64 (((List.getD (ByteArray.data b).toList (Int.toNat i) 0).toNat:Int)))))),(4,iI (wrap .i64 (i+1)))] h))
 (some (.int .u8 (wrap .u8 (n)),h)):=kR
def D14:Cuts:=⟨2,[],[],[]⟩
def Ga9:List Item:=A8 Tryz.f103
theorem D13 (s:List Value) :
 xQ D14 C R Bm9 Tryz.f103 Ga9 [(0,.pointer c),(1,iI i),(2,.agg ⟨s⟩)] h =
 nw (.cells Dd1 false s) h fun b w=>nw (.cells P3 false [iI 0,iI 0,sN,.bool false]) w fun p1 w1=>jI b 0 w1 fun x=>cond (x==9)
 (bnd (C D79 [.pointer c,iI i] w1) fun r w2=>aAgg r fun z1=>jK 4 p1 0 z1 w2 fun w3=>jA p1 0 4 w3 fun z2=>jT [.agg ⟨z2⟩,.bool true] w3)
 (cond (x==10)
 (jI b 1 w1 fun z3=>jI b 2 w1 fun z4=>bnd (C Dj5 [.pointer c,iI i,iI z3,iI z4] w1) fun q1 w4=>aAgg q1 fun z5=>jK 4 p1 0 z5 w4 fun w5=>jA p1 0 4 w5 fun z6=>jT [.agg ⟨z6⟩,.bool true] w5)
 (cond (x==11)
 (jI b 1 w1 fun z7=>jS b 3 w1 fun z8 xn xc=>bnd (C Hz8 [.pointer c,iI i,iI z7,.slice z8 xn xc] w1) fun q2 w6=>aAgg q2 fun z9=>jK 4 p1 0 z9 w6 fun w7=>jA p1 0 4 w7 fun z10=>jT [.agg ⟨z10⟩,.bool true] w7)
 (cond (x==12)
 (jI b 1 w1 fun z11=>bnd (C Ii2 [.pointer c,iI i,iI z11] w1) fun q3 w8=>aAgg q3 fun z12=>jK 4 p1 0 z12 w8 fun w9=>jA p1 0 4 w9 fun z13=>jT [.agg ⟨z13⟩,.bool true] w9)
 (cond (x==13)
 (jI b 1 w1 fun z14=>bnd (C I74 [.pointer c,iI i,iI z14] w1) fun q4 w10=>aAgg q4 fun z15=>jK 4 p1 0 z15 w10 fun w11=>jA p1 0 4 w11 fun z16=>jT [.agg ⟨z16⟩,.bool true] w11)
 (cond (x==14)
 (jI b 1 w1 fun z17=>jI b 2 w1 fun z18=>bnd (C I18 [.pointer c,iI i,iI z17,iI z18] w1) fun q5 w12=>aAgg q5 fun z19=>jK 4 p1 0 z19 w12 fun w13=>jA p1 0 4 w13 fun z20=>jT [.agg ⟨z20⟩,.bool true] w13)
 (cond (x==15)
 (jI b 1 w1 fun z21=>jI b 2 w1 fun z22=>bnd (C I78 [.pointer c,iI i,iI z21,iI z22] w1) fun q6 w14=>aAgg q6 fun z23=>jK 4 p1 0 z23 w14 fun w15=>jA p1 0 4 w15 fun z24=>jT [.agg ⟨z24⟩,.bool true] w15)
 (cond (x==16)
 (jI b 1 w1 fun z25=>bnd (C Hy3 [.pointer c,iI i,iI z25] w1) fun q7 w16=>aAgg q7 fun z26=>jK 4 p1 0 z26 w16 fun w17=>jA p1 0 4 w17 fun z27=>jT [.agg ⟨z27⟩,.bool true] w17)
 (jW p1 0 [iI 0,iI 0,sN,.bool false] w1 fun w18=>jA p1 0 4 w18 fun z28=>jT [.agg ⟨z28⟩,.bool false] w18)))))))):=kR
def A55:Cuts:=⟨2,[],[],[(2,⟨[0,1,2,3,4,5,6,7,8,9,10,11,12,13,14],[0,1,3,7,15,31,63,127,255,511,1023,127,4095,8191,16383],[],[]⟩),(4,⟨[0,1,2,3,4,5,6,7,8,9,10,11,12,13,14,15,16,17],[0,1,3,7,0,16,48,112,0,256,0,1024,0,7936,16383,32767,65535,131071],[],[]⟩)]⟩
def B07:List Item:=A8 Tryz.f117
theorem Ej5 (ok:Bool) :
 xQ A55 C R P4 Tryz.f117 B07 [(0,.pointer c),(1,.agg ⟨r⟩),(2,.slice b bn bc),(3,.bool ok)] h =
 nw (.cells E9 false r) h fun p1 w=>jA p1 0 2 w fun x=>bnd (C Y5 [.pointer c,.agg ⟨x⟩] w) fun q1 w1=>as2 q1 fun q2 q3=>aAgg q2 fun z1=>aBool q3 fun z2=>nw (.cells Bt0 false [iI 0,iI 0,iI 0]) w1 fun p2 w2=>jK 3 p2 0 z1 w2 fun w3=>jO (!z2) w3 (some (!ok,w3)) fun c_1 w4=>jO c_1 w4 (aSome c fun p=>gMap (add p 3) w4 fun z3=>jA p1 0 2 w4 fun z4=>keyN PR E9 (.agg ⟨z4⟩) (opt z3 fun q4=>mapAt w4 q4 fun es _=>opt (At5 (iI 0) (.agg ⟨z4⟩) es) fun f=>aI f.1 fun z5=>some (decide (z5>0),w4))) fun c_2 w5=>cond c_2
 (some (.bool false,w5))
 (aSome c fun p_1=>gPtr (add p_1 0) w5 fun z6=>aSome c fun p_2=>gInt .i64 (add p_2 1) w5 fun z7=>jI p2 0 w5 fun z8=>jI p2 1 w5 fun z9=>bnd (C N7 [.pointer z6,iI z7,.agg ⟨[iI 2,iI z8,iI z9,iI 0,iI 0,iI 0,.slice b bn bc]⟩] w5) fun q5 w6=>aAgg q5 fun z10=>nth z10 0 fun E=>aI E fun E_1=>some (.bool (E_1==0),w6)):=kR
def Bt3:Cuts:=⟨2,[(4,[0,1,4,19,20])],[],[]⟩
def Dj6:List Item:=A8 Tryz.f120
def As0:List Item:=stk [0,1,0,1,0,1,0,0,1,4,5] Dj6
theorem Hi2 :
 xQ Bt3 C R Aa8 Tryz.f120 Dj6 [(0,.pointer c),(1,iI i)] h =
 bnd (C D1 [.pointer c] h) fun r w=>as0 r (bnd (C E4 [.pointer c,iI i] w) fun q1 w1=>as2 q1 fun q2 q3=>aAgg q2 fun x=>aI q3 fun z1=>nw (.cells B2 false zZ1) w1 fun b w2=>jK 16 b 0 x w2 fun w3=>cond (z1 != 1)
 (jT [] w3)
 (jA b 8 8 w3 fun z2=>R Aa8 As0 [(0,.pointer c),(1,iI i),(4,pP b),(19,.agg ⟨z2⟩),(20,iI 0)] w3)):=kR
theorem Dw7 (p:Addr) (x19:List Value) :
 xQ Bt3 C R Aa8 Tryz.f120 As0 [(0,.pointer c),(1,iI i),(4,.pointer (some p)),(19,.agg ⟨x19⟩),(20,iI x20)] h =
 cond (decide (x20<8))
 (ck ((0:Int)≤x20∧x20<((8:Nat):Int)) (nth x19 (Int.toNat x20*1) fun x=>aI x fun z1=>cond (decide (z1>0))
 (bnd (C Ae1 [.pointer c,iI (wrap .i64 (z1-1))] h) fun r w=>aI r fun _=>R Aa8 As0 [(0,.pointer c),(1,iI i),(4,.pointer (some p)),(19,.agg ⟨x19⟩),(20,iI (wrap .i64 (x20+1)))] w)
 (R Aa8 As0 [(0,.pointer c),(1,iI i),(4,.pointer (some p)),(19,.agg ⟨x19⟩),(20,iI (wrap .i64 (x20+1)))] h)))
 (pAgg (add p 8) [iI 0,iI 0,iI 0,iI 0,iI 0,iI 0,iI 0,iI 0] h fun w1=>gAgg p 16 w1 fun z3=>bnd (C G8 [.pointer c,iI i,.agg ⟨z3⟩] w1) fun q1 w2=>aBool q1 fun _=>jT [] w2):=kR
def Dl0:Cuts:=⟨2,[],[],[]⟩
def Ek6:List Item:=A8 Tryz.f124
theorem Hc0 :
 xQ Dl0 C R Al4 Tryz.f124 Ek6 [(0,.pointer s),(1,iI env)] h =
 jN (decide (env≥0)) (aSome s fun p=>gSl (add p 0) h fun _ xn _=>some (decide (env<(xn:Int)),h)) h fun c w=>some (.bool c,w):=kR
def Bw9:Cuts:=⟨2,[(7,[1,3,52,53,54]),(13,[1,3,63,64,65])],[],[]⟩
def Dh4:List Item:=A8 Tryz.f132
def Bq9:List Item:=stk [0,1,0,1,0,1,0,1,0,0,1,4,5] Dh4
def Br1:List Item:=stk [0,1,0,1,0,1,0,1,0,1,0,0,1,4,5] Dh4
theorem H63 (c:List Value) :
 xQ Bw9 C R Z2 Tryz.f132 Dh4 [(0,.agg ⟨c⟩)] h =
 nw (.cells G7 false c) h fun b w=>jS b 0 w fun _ xn _=>jO (decide ((xn:Int)<1)) w (jS b 0 w fun _ xn_1 _=>some (decide ((xn_1:Int)>4),w)) fun c_1 w1=>jO c_1 w1 (jS b 1 w1 fun _ xn_2 _=>some (decide ((xn_2:Int)>40),w1)) fun c_2 w2=>jO c_2 w2 (jS b 2 w2 fun _ xn_3 _=>some (decide ((xn_3:Int)>8),w2)) fun c_3 w3=>jO c_3 w3 (jS b 4 w3 fun _ xn_4 _=>some (decide ((xn_4:Int)>16),w3)) fun c_4 w4=>jO c_4 w4 (jI b 3 w4 fun z5=>some (decide (z5<1),w4)) fun c_5 w5=>jO c_5 w5 (jI b 3 w5 fun z6=>some (decide (z6>1000),w5)) fun c_6 w6=>cond c_6
 (some (.bool false,w6))
 (jS b 1 w6 fun z7 xn_5 xc_5=>bnd (C I4 [.slice z7 xn_5 xc_5,.func (.func L6) ⟨[]⟩ ⟨[pP b]⟩] w6) fun r w7=>aBool r fun z8=>cond z8
 (some (.bool false,w7))
 (jS b 2 w7 fun z9 xn_6 xc_6=>R Z2 Bq9 [(1,pP b),(3,.func (.func L6) ⟨[]⟩ ⟨[pP b]⟩),(52,.slice z9 xn_6 xc_6),(53,iI (xn_6:Int)),(54,iI 0)] w7)):=kR
theorem En8 (c:Addr) (x52:Option Addr) (x52n x52c:Nat) (x53:Int) (x54:Int) :
 xQ Bw9 C R Z2 Tryz.f132 Bq9 [(1,.pointer (some c)),(3,.func (.func L6) ⟨[]⟩ ⟨[.pointer (some nonev)]⟩),(52,.slice x52 x52n x52c),(53,iI x53),(54,iI x54)] h =
 cond (decide (x54<x53))
 (aSome x52 fun p=>jR x54 x52n (gSl (add (B4 p) (Int.toNat x54*1)) h fun x xn xc=>bnd (C I4 [.slice x xn xc,.func (.func L6) ⟨[]⟩ ⟨[.pointer (some nonev)]⟩] h) fun r w=>aBool r fun z1=>cond z1
 (some (.bool false,w))
 (R Z2 Bq9 [(1,.pointer (some c)),(3,.func (.func L6) ⟨[]⟩ ⟨[.pointer (some nonev)]⟩),(52,.slice x52 x52n x52c),(53,iI x53),(54,iI (wrap .i64 (x54+1)))] w)))
 (gSl (add c 4) h fun z2 xn_1 xc_1=>R Z2 Br1 [(1,.pointer (some c)),(3,.func (.func L6) ⟨[]⟩ ⟨[.pointer (some nonev)]⟩),(63,.slice z2 xn_1 xc_1),(64,iI (xn_1:Int)),(65,iI 0)] h):=kR
theorem Ek2 (c:Addr) (x63:Option Addr) (x63n x63c:Nat) (x64:Int) (x65:Int) :
 xQ Bw9 C R Z2 Tryz.f132 Br1 [(1,.pointer (some c)),(3,.func (.func L6) ⟨[]⟩ ⟨[.pointer (some nonev)]⟩),(63,.slice x63 x63n x63c),(64,iI x64),(65,iI x65)] h =
 cond (decide (x65<x64))
 (aSome x63 fun p=>jR x65 x63n (gAgg (add (B4 p) (Int.toNat x65*5)) 5 h fun x=>nw (.cells O3 false [iI 0,iI 0,iI 0,iI 0,sN]) h fun b w=>jK 5 b 0 x w fun w1=>gAgg c 5 w1 fun z1=>jA b 0 5 w1 fun z2=>bnd (C De3 [.agg ⟨z1⟩,.agg ⟨z2⟩] w1) fun r w2=>aBool r fun z3=>jO (!z3) w2 (jS b 4 w2 fun z4 xn xc=>bnd (C I4 [.slice z4 xn xc,.func (.func L6) ⟨[]⟩ ⟨[.pointer (some nonev)]⟩] w2) fun q1 w3=>aBool q1 fun z5=>some (z5,w3)) fun c_1 w4=>cond c_1
 (some (.bool false,w4))
 (R Z2 Br1 [(1,.pointer (some c)),(3,.func (.func L6) ⟨[]⟩ ⟨[.pointer (some nonev)]⟩),(63,.slice x63 x63n x63c),(64,iI x64),(65,iI (wrap .i64 (x65+1)))] w4)))
 (some (.bool true,h)):=kR
def Go4:Cuts:=⟨2,[],[],[]⟩
def Hr8:List Item:=A8 Tryz.f134
theorem Jf9 (frames:Int) :
 xQ Go4 C R Em4 Tryz.f134 Hr8 [(0,iI frames)] h =
 ck ((0:Int)≤wrap .i64 (64*(mm2 false (mm2 true frames 0) 256))∧(wrap .i64 (64*(mm2 false (mm2 true frames 0) 256)):Int)≤wrap .i64 (64*(mm2 false (mm2 true frames 0) 256))∧wrap .i64 (64*(mm2 false (mm2 true frames 0) 256))≤(B3:Int)) (nw (.cells A9 false (G9 (Int.toNat (wrap .i64 (64*(mm2 false (mm2 true frames 0) 256)))) [.int .u8 0])) h fun b w=>nw (.cells Gl4 false [.slice (some ⟨b,0,none⟩) (Int.toNat (wrap .i64 (64*(mm2 false (mm2 true frames 0) 256)))) (Int.toNat (wrap .i64 (64*(mm2 false (mm2 true frames 0) 256))))]) w fun p1 w1=>some (pP p1,w1)):=kR
def Bl8:Cuts:=⟨2,[],[],[]⟩
def Dg8:List Item:=A8 Tryz.f139
theorem E80 (r:Option Addr) (lo:Int) :
 xQ Bl8 C R Ay6 Tryz.f139 Dg8 [(0,.pointer r),(1,iI lo),(2,iI n)] h =
 jO (decide (lo<0)) h (some (decide (n<0),h)) fun c w=>jO c w (aSome r fun p=>gPtr (add p 0) w fun x=>bnd (C Be6 [.pointer x] w) fun q1 w1=>aI q1 fun z1=>some (decide (lo>z1),w1)) fun c_1 w2=>jO c_1 w2 (aSome r fun p_1=>gPtr (add p_1 0) w2 fun z2=>bnd (C Be6 [.pointer z2] w2) fun q2 w3=>aI q2 fun z3=>some (decide (n>(wrap .i64 (z3-lo))),w3)) fun c_2 w4=>cond c_2
 (jT [iI 0,iI 1] w4)
 (aSome r fun p_2=>gSl (add p_2 2) w4 fun _ xn _=>cond (decide ((xn:Int)≥32))
 (jT [iI 0,iI 4] w4)
 (aSome r fun p_3=>gSl (add p_3 2) w4 fun z5 xn_1 xc_1=>nw (.cells A66 false [iI lo,iI n]) w4 fun b w5=>gCells (some ⟨b,0,none⟩) (1*2) w5 fun cs=>ckB (fitsOpen z5 A66 w5) (apd A66 2 z5 xn_1 xc_1 1 cs w5 fun a an ac w6=>aSome r fun p_4=>pV (add p_4 2) (.slice a an ac) w6 fun w7=>aSome r fun p_5=>gSl (add p_5 2) w7 fun _ xn_2 _=>jT [iI (wrap .i64 ((xn_2:Int)-1)),iI 0] w7))):=kR
def A75:Cuts:=⟨2,[(3,[0,1,5,6])],[],[]⟩
def Bv7:List Item:=A8 Tryz.f144
def Au1:List Item:=stk [0,1,0,1,0,0,1,4,5] Bv7
theorem Go2 (s:Int) :
 xQ A75 C R U2 Tryz.f144 Bv7 [(0,.pointer q),(1,iI s)] h =
 R U2 Au1 [(0,.pointer q),(1,iI s),(5,iI 0),(6,iI 0)] h:=kR
theorem Dd7 (s:Int) :
 xQ A75 C R U2 Tryz.f144 Au1 [(0,.pointer q),(1,iI s),(5,iI n),(6,iI i)] h =
 cond (decide (i<s))
 (aSome q fun p=>gSl (add p 0) h fun x xn _=>aSome x fun p_1=>jR i xn (gSl (add (B4 p_1) (Int.toNat i*1)) h fun _ xn_1 _=>R U2 Au1 [(0,.pointer q),(1,iI s),(5,iI (wrap .i64 (n+(xn_1:Int)))),(6,iI (wrap .i64 (i+1)))] h))
 (some (iI n,h)):=kR
def Bs0:Cuts:=⟨2,[(3,[0,3,4])],[],[(5,⟨[0,1,2,3,4,5,6,7,8,9,10],[0,0,2,6,14,0,32,126,255,511,1023],[(5,[4])],[]⟩),(6,⟨[0,1,2,3,4,5,6,7,8,9,10],[0,0,2,6,14,0,32,126,255,511,1023],[],[]⟩)]⟩
def Dj3:List Item:=A8 Tryz.f145
def A96:List Item:=stk [0,1,0,1,0,0,1,4,5] Dj3
theorem He9 :
 xQ Bs0 C R Ag1 Tryz.f145 Dj3 [(0,iI envs)] h =
 nw (.cells Gn6 false [sN,sN]) h fun b w=>R Ag1 A96 [(0,iI envs),(3,pP b),(4,iI 0)] w:=kR
theorem Dx4 (s:Addr) :
 xQ Bs0 C R Ag1 Tryz.f145 A96 [(0,iI envs),(3,.pointer (some s)),(4,iI i)] h =
 jN (decide (i<envs)) (some (decide (i<40),h)) h fun c w=>cond c
 (gSl (add s 0) w fun x xn xc=>bnd (C Af9 [iI 32] w) fun r w1=>aPtr r fun z1=>gSl (add s 0) w1 fun z2 xn_1 xc_1=>same (.slice x xn xc) (.slice z2 xn_1 xc_1) (nw (.cells Bg6 false [.pointer z1]) w1 fun b w2=>gCells (some ⟨b,0,none⟩) (1*1) w2 fun cs=>ckB (fitsOpen x Bg6 w2) (apd Bg6 1 x xn xc 1 cs w2 fun a an ac w3=>pV (add s 0) (.slice a an ac) w3 fun w4=>gSl (add s 1) w4 fun z3 xn_2 xc_2=>ck ((0:Int)≤32∧(32:Int)≤32∧32≤(B3:Int)) (nw (.cells W3 false (G9 (Int.toNat 32) [iI 0,iI 0,iI 0,iI 0,iI 0,iI 0])) w4 fun p1 w5=>nw (.cells B42 false [.slice (some ⟨p1,0,none⟩) (Int.toNat 32) (Int.toNat 32)]) w5 fun p2 w6=>gCells (some ⟨p2,0,none⟩) (1*1) w6 fun cs_1=>ckB (fitsOpen z3 B42 w6) (apd B42 1 z3 xn_2 xc_2 1 cs_1 w6 fun a_1 an_1 ac_1 w7=>pV (add s 1) (.slice a_1 an_1 ac_1) w7 fun w8=>R Ag1 A96 [(0,iI envs),(3,.pointer (some s)),(4,iI (wrap .i64 (i+1)))] w8)))))
 (some (.pointer (some s),w)):=kR
def Bh2:Cuts:=⟨2,[],[],[]⟩
def Dc8:List Item:=A8 Tryz.f152
theorem Ey1 (r:Option Addr) (fromv:Int) (to:Int) (on:Int) :
 xQ Bh2 C R At9 Tryz.f152 Dc8 [(0,.pointer r),(1,iI env),(2,iI fromv),(3,iI atv),(4,iI to),(5,iI on),(6,iI n)] h =
 bnd (C Aj5 [.pointer r,iI env,iI fromv,iI atv,iI n] h) fun q1 w=>as2 q1 fun q2 q3=>aSl q2 fun x xn xc=>aI q3 fun z1=>cond (z1 != 0)
 (some (iI z1,w))
 (bnd (C Ah6 [.pointer r,iI env,iI to,iI on,.slice x xn xc] w) fun q4 w1=>aI q4 fun z2=>some (iI z2,w1)):=kR
def Bv8:Cuts:=⟨2,[],[],[]⟩
def Dv7:List Item:=A8 Tryz.f156
theorem Gk1 (s:Int) (k:Int) :
 xQ Bv8 C R Ba2 Tryz.f156 Dv7 [(0,.pointer q),(1,iI s),(2,iI k)] h =
 bnd (C Ap6 [.pointer q,iI s] h) fun r w=>aBool r fun x=>cond (!x)
 (some (iI 1,w))
 (bnd (C A86 [.pointer q,iI s,iI k] w) fun q1 w1=>aBool q1 fun z1=>cond (!z1)
 (some (iI 5,w1))
 (aSome q fun p=>gSl (add p 0) w1 fun z2 xn _=>aSome z2 fun p_1=>jR s xn (gSl (add (B4 p_1) (Int.toNat s*1)) w1 fun z3 xn_1 _=>aSome z3 fun p_2=>jR k xn_1 (pV (add (B4 p_2) (Int.toNat k*1)) (iI 0) w1 fun w2=>some (iI 0,w2))))):=kR
def B85:Cuts:=⟨2,[],[],[]⟩
def Ee7:List Item:=A8 Tryz.f161
theorem G66 :
 xQ B85 C R Aq3 Tryz.f161 Ee7 [(0,.pointer s),(1,iI e)] h =
 jN (decide (e≥0)) (aSome s fun p=>gSl (add p 0) h fun _ xn _=>some (decide (e<(xn:Int)),h)) h fun c w=>some (.bool c,w):=kR
def Dz9:Cuts:=⟨2,[],[],[]⟩
def Gc6:List Item:=A8 Tryz.f162
theorem Hx3 :
 xQ Dz9 C R An4 Tryz.f162 Gc6 [(0,iI atv),(1,iI n),(2,iI size)] h =
 jN (decide (atv≥0)) (some (decide (n≥0),h)) h fun c w=>jN c (some (decide (atv≤size),w)) w fun c_1 w1=>jN c_1 (some (decide (n≤(wrap .i64 (size-atv))),w1)) w1 fun c_2 w2=>some (.bool c_2,w2):=kR
def D06:Cuts:=⟨2,[],[],[]⟩
def Gc3:List Item:=A8 Tryz.f171
theorem Hv5 :
 xQ D06 C R Bp0 Tryz.f171 Gc3 [] h =
 bnd (C Aw5 [iI 8,.func (.func Az7) ⟨[]⟩ ⟨[]⟩,.func (.func Az9) ⟨[]⟩ ⟨[]⟩] h) fun r w=>aPtr r fun x=>some (.pointer x,w):=kR
def Bh6:Cuts:=⟨2,[(3,[0,3,5,17,18]),(9,[0,5,31,32]),(19,[0,57,58])],[],[(15,⟨[0,1,2,3,4,5,6,7,8],[0,1,0,4,12,28,63,127,255],[],[]⟩)]⟩
def Bv4:List Item:=A8 Tryz.f185
def Ba4:List Item:=stk [0,1,0,1,0,0,1,4,5] Bv4
def At3:List Item:=stk [0,1,0,1,0,1,0,0,1,4,5] Bv4
def At7:List Item:=stk [0,1,0,1,0,1,0,1,0,0,1,4,5] Bv4
theorem Ib4 :
 xQ Bh6 C R J5 Tryz.f185 Bv4 [(0,.pointer c),(1,.agg ⟨p⟩)] h =
 nw (.cells B2 false p) h fun b w=>nw (.cells E63 false zZ3) w fun p1 w1=>jA b 8 8 w1 fun x=>R J5 Ba4 [(0,.pointer c),(3,pP b),(5,pP p1),(17,.agg ⟨x⟩),(18,iI 0)] w1:=kR
theorem Ek8 (p:Addr) (x17:List Value) (x18:Int) :
 xQ Bh6 C R J5 Tryz.f185 Ba4 [(0,.pointer c),(3,.pointer (some p)),(5,.pointer (some more)),(17,.agg ⟨x17⟩),(18,iI x18)] h =
 cond (decide (x18<8))
 (ck ((0:Int)≤x18∧x18<((8:Nat):Int)) (nth x17 (Int.toNat x18*1) fun x=>aI x fun z1=>cond (decide (z1>0))
 (ck ((0:Int)≤wrap .i64 (z1-1)∧wrap .i64 (z1-1)<((12:Nat):Int)) (gInt .i64 (add more (Int.toNat (wrap .i64 (z1-1))*1)) h fun z2=>ck ((0:Int)≤wrap .i64 (z1-1)∧wrap .i64 (z1-1)<((12:Nat):Int)) (pV (add more (Int.toNat (wrap .i64 (z1-1))*1)) (iI (wrap .i64 (z2+1))) h fun w=>R J5 Ba4 [(0,.pointer c),(3,.pointer (some p)),(5,.pointer (some more)),(17,.agg ⟨x17⟩),(18,iI (wrap .i64 (x18+1)))] w)))
 (R J5 Ba4 [(0,.pointer c),(3,.pointer (some p)),(5,.pointer (some more)),(17,.agg ⟨x17⟩),(18,iI (wrap .i64 (x18+1)))] h)))
 (gAgg (add p 8) 8 h fun z3=>R J5 At3 [(0,.pointer c),(5,.pointer (some more)),(31,.agg ⟨z3⟩),(32,iI 0)] h):=kR
theorem En5 (x31:List Value) (x32:Int) :
 xQ Bh6 C R J5 Tryz.f185 At3 [(0,.pointer c),(5,.pointer (some more)),(31,.agg ⟨x31⟩),(32,iI x32)] h =
 cond (decide (x32<8))
 (ck ((0:Int)≤x32∧x32<((8:Nat):Int)) (nth x31 (Int.toNat x32*1) fun x=>aI x fun z1=>cond (z1==0)
 (R J5 At3 [(0,.pointer c),(5,.pointer (some more)),(31,.agg ⟨x31⟩),(32,iI (wrap .i64 (x32+1)))] h)
 (bnd (C O2 [.pointer c,iI (wrap .i64 (z1-1))] h) fun r w=>as2 r fun q1 q2=>aAgg q1 fun z2=>aI q2 fun z3=>nw (.cells D9 false [iI 0,iI 0,iI 0,iI 0]) w fun b w1=>jK 4 b 0 z2 w1 fun w2=>cond (z3 != 1)
 (some (iI 105,w2))
 (jI b 2 w2 fun z4=>ck ((0:Int)≤wrap .i64 (z1-1)∧wrap .i64 (z1-1)<((12:Nat):Int)) (gInt .i64 (add more (Int.toNat (wrap .i64 (z1-1))*1)) w2 fun z5=>cond (decide ((wrap .i64 (z4+z5))>64))
 (some (iI 123,w2))
 (R J5 At3 [(0,.pointer c),(5,.pointer (some more)),(31,.agg ⟨x31⟩),(32,iI (wrap .i64 (x32+1)))] w2))))))
 (gAgg more 12 h fun z6=>R J5 At7 [(0,.pointer c),(57,.agg ⟨z6⟩),(58,iI 0)] h):=kR
theorem Em9 (x57:List Value) (x58:Int) :
 xQ Bh6 C R J5 Tryz.f185 At7 [(0,.pointer c),(57,.agg ⟨x57⟩),(58,iI x58)] h =
 cond (decide (x58<12))
 (ck ((0:Int)≤x58∧x58<((12:Nat):Int)) (nth x57 (Int.toNat x58*1) fun x=>aI x fun z1=>cond (z1==0)
 (R J5 At7 [(0,.pointer c),(57,.agg ⟨x57⟩),(58,iI (wrap .i64 (x58+1)))] h)
 (bnd (C O2 [.pointer c,iI x58] h) fun r w=>as2 r fun q1 q2=>aAgg q1 fun z2=>aI q2 fun _=>nw (.cells D9 false [iI 0,iI 0,iI 0,iI 0]) w fun b w1=>jK 4 b 0 z2 w1 fun w2=>jI b 2 w2 fun z4=>jV b 2 (iI (wrap .i64 (z4+z1))) w2 fun w3=>jA b 0 4 w3 fun z5=>bnd (C P6 [.pointer c,iI x58,.agg ⟨z5⟩] w3) fun q3 w4=>aBool q3 fun z6=>cond (!z6)
 (some (iI 105,w4))
 (R J5 At7 [(0,.pointer c),(57,.agg ⟨x57⟩),(58,iI (wrap .i64 (x58+1)))] w4))))
 (some (iI 0,h)):=kR
def Dj0:Cuts:=⟨2,[(3,[0,1,5,10])],[],[]⟩
def Ea5:List Item:=A8 Tryz.f186
def A79:List Item:=stk [0,1,0,1,0,0,1,4,5] Ea5
theorem Ih1 :
 xQ Dj0 C R Ad7 Tryz.f186 Ea5 [(0,.pointer c),(1,of)] h =
 R Ad7 A79 [(0,.pointer c),(1,of),(5,sN),(10,iI 0)] h:=kR
theorem Em6 :
 xQ Dj0 C R Ad7 Tryz.f186 A79 [(0,.pointer c),(1,of),(5,.slice out outn outc),(10,iI x10)] h =
 cond (decide (x10<8))
 (bnd (C E4 [.pointer c,iI x10] h) fun r w=>as2 r fun q1 q2=>aAgg q1 fun x=>aI q2 fun z1=>nw (.cells B2 false zZ1) w fun b w1=>jK 16 b 0 x w1 fun w2=>jA b 0 16 w2 fun z2=>ck (List.length z2=16) (nw (.cells J7 false zZ4) w2 fun p1 w3=>ck (List.length (iI x10::(z2++[]))=17) (jW p1 0 (iI x10::(z2++[])) w3 fun w4=>jN (z1==1) (jA p1 0 17 w4 fun z3=>aFn of fun g fi cp=>bnd (C g (fi++([.agg ⟨z3⟩]++cp)) w4) fun q3 w5=>aBool q3 fun z4=>some (z4,w5)) w4 fun c_1 w6=>cond c_1
 (jA p1 0 17 w6 fun z5=>ck (List.length z5=17) (nw (.cells J7 false (z5++[])) w6 fun p2 w7=>gCells (some ⟨p2,0,none⟩) (1*17) w7 fun cs=>ckB (fitsOpen out J7 w7) (apd J7 17 out outn outc 1 cs w7 fun a an ac w8=>R Ad7 A79 [(0,.pointer c),(1,of),(5,.slice a an ac),(10,iI (wrap .i64 (x10+1)))] w8)))
 (R Ad7 A79 [(0,.pointer c),(1,of),(5,.slice out outn outc),(10,iI (wrap .i64 (x10+1)))] w6))))
 (some (.slice out outn outc,h)):=kR
def Ax5:Cuts:=⟨2,[],[],[]⟩
def Br7:List Item:=A8 Tryz.f196
theorem D71 (x:Int) :
 xQ Ax5 C R Ab1 Tryz.f196 Br7 [(0,.int .u64 x)] h =
 bnd (C Ag0 [.int .u64 x] h) fun r w=>aI r fun z1=>some (iI z1,w):=kR
def Gn0:Cuts:=⟨2,[],[],[]⟩
def Hq2:List Item:=A8 Tryz.f200
theorem I60 :
 xQ Gn0 C R Dv5 Tryz.f200 Hq2 [(0,iI n)] h =
 jN (decide (n≥0)) (some (decide (n≤65535),h)) h fun c w=>some (.bool c,w):=kR
def Q2:Cuts:=⟨2,[(3,[0,3,9,10,11]),(11,[6,25,26,27])],[],[]⟩
def W8:List Item:=A8 Tryz.f201
def Ad8:List Item:=stk [0,1,0,1,0,0,1,4,5] W8
def Ad6:List Item:=stk [0,1,0,1,0,1,0,1,0,0,1,4,5] W8
theorem B49 :
 xQ Q2 C R D7 Tryz.f201 W8 [(0,.slice slices slicesn slicesc)] h =
 R D7 Ad8 [(0,.slice slices slicesn slicesc),(3,iI 0),(9,.slice slices slicesn slicesc),(10,iI (slicesn:Int)),(11,iI 0)] h:=kR
theorem Ad1 (x9:Option Addr) (x9n x9c:Nat) (x11:Int) :
 xQ Q2 C R D7 Tryz.f201 Ad8 [(0,.slice slices slicesn slicesc),(3,iI size),(9,.slice x9 x9n x9c),(10,iI x10),(11,iI x11)] h =
 cond (decide (x11<x10))
 (aSome x9 fun p=>jR x11 x9n (gSl (add (B4 p) (Int.toNat x11*1)) h fun _ xn _=>cond (decide ((wrap .i64 (size+(xn:Int)))<0))
 (none)
 (R D7 Ad8 [(0,.slice slices slicesn slicesc),(3,iI (wrap .i64 (size+(xn:Int)))),(9,.slice x9 x9n x9c),(10,iI x10),(11,iI (wrap .i64 (x11+1)))] h)))
 (bnd (C O5 [sN,iI size] h) fun r w=>aSl r fun z1 xn_1 xc_1=>R D7 Ad6 [(6,.slice z1 xn_1 xc_1),(25,.slice slices slicesn slicesc),(26,iI (slicesn:Int)),(27,iI 0)] w):=kR
theorem Ad3 (newslice:Option Addr) (newslicen newslicec:Nat) (x25:Option Addr) (x25n x25c:Nat) (x26:Int) (x27:Int) :
 xQ Q2 C R D7 Tryz.f201 Ad6 [(6,.slice newslice newslicen newslicec),(25,.slice x25 x25n x25c),(26,iI x26),(27,iI x27)] h =
 cond (decide (x27<x26))
 (aSome x25 fun p=>jR x27 x25n (gSl (add (B4 p) (Int.toNat x27*1)) h fun x xn _=>gCells x (xn*3) h fun cs=>ckB (fitsOpen newslice Q9 h) (apd Q9 3 newslice newslicen newslicec xn cs h fun a an ac w=>R D7 Ad6 [(6,.slice a an ac),(25,.slice x25 x25n x25c),(26,iI x26),(27,iI (wrap .i64 (x27+1)))] w)))
 (some (.slice newslice newslicen newslicec,h)):=kR
def Ao5:Cuts:=⟨2,[],[],[(2,⟨[0,1,2,3,4,5,6,7,8,9,10,11,12,13,14],[0,1,3,7,15,31,63,127,255,511,63,63,4095,8191,16383],[],[]⟩)]⟩
def Bc4:List Item:=A8 Tryz.f203
theorem Dm4 (v:List Value) :
 xQ Ao5 C R Ac4 Tryz.f203 Bc4 [(0,.pointer c),(1,.agg ⟨v⟩)] h =
 nw (.cells B2 false v) h fun b w=>aSome c fun p=>gInt .i64 (add p 0) w fun x=>ck ((0:Int)≤x∧(x:Int)≤x∧x≤(B3:Int)) (nw (.cells A9 false (G9 (Int.toNat x) [.int .u8 0])) w fun p1 w1=>aSome c fun p_1=>gFv (add p_1 1) w1 fun z1=>isNilF z1 fun p2=>jO p2 w1 (aSome c fun p_2=>gFv (add p_2 1) w1 fun z2=>jA b 0 16 w1 fun z3=>aFn z2 fun g fi cp=>bnd (C g (fi++([.agg ⟨z3⟩,.slice (some ⟨p1,0,none⟩) (Int.toNat x) (Int.toNat x)]++cp)) w1) fun r w2=>aBool r fun z4=>some (!z4,w2)) fun c_1 w3=>cond c_1
 (jT [sN,.bool false] w3)
 (jT [.slice (some ⟨p1,0,none⟩) (Int.toNat x) (Int.toNat x),.bool true] w3)):=kR
def Bj4:Cuts:=⟨2,[],[(18,[0,5,7])],[]⟩
def B94:List Item:=A8 Tryz.f204
def A45:List Item:=stk [0,1,0,1,0,1,0,1,0,1,0,1,0,1,0,1,0,1,0,1,0,0] B94
theorem G23 :
 xQ Bj4 C R Ae1 Tryz.f204 B94 [(0,.pointer c),(1,iI f)] h =
 bnd (C D1 [.pointer c] h) fun r w=>as0 r (bnd (C O2 [.pointer c,iI f] w) fun q1 w1=>as2 q1 fun q2 q3=>aAgg q2 fun x=>aI q3 fun z1=>nw (.cells D9 false [iI 0,iI 0,iI 0,iI 0]) w1 fun b w2=>jK 4 b 0 x w2 fun w3=>cond (z1 != 1)
 (some (iI 105,w3))
 (jI b 2 w3 fun z2=>jV b 2 (iI (wrap .i64 (z2-1))) w3 fun w4=>jI b 2 w4 fun z3=>cond (decide (z3>0))
 (jA b 0 4 w4 fun z4=>bnd (C P6 [.pointer c,iI f,.agg ⟨z4⟩] w4) fun q4 w5=>aBool q4 fun z5=>bnd (C Ag6 [.bool z5,iI 0] w5) fun q5 w6=>aAgg q5 fun z6=>nth z6 1 fun E=>aI E fun E_1=>some (iI E_1,w6))
 (bnd (C Ai5 [.pointer c,iI f] w4) fun q6 w7=>aBool q6 fun z7=>cond (!z7)
 (some (iI 105,w7))
 (jI b 0 w7 fun z8=>cond (z8==3)
 (some (iI 0,w7))
 (jI b 1 w7 fun z9=>bnd (C U9 [.pointer c,iI z9] w7) fun q7 w8=>as2 q7 fun q8 q9=>aAgg q8 fun z10=>aI q9 fun z11=>nw (.cells E6 false zZ2) w8 fun p1 w9=>jK 36 p1 0 z10 w9 fun w10=>cond (z11 != 1)
 (some (iI 105,w10))
 (jI b 0 w10 fun z12=>cond (z12==1)
 (jI p1 2 w10 fun z13=>jV p1 2 (iI (mm2 true (wrap .i64 (z13-1)) 0)) w10 fun w11=>R Ae1 A45 [(0,.pointer c),(5,pP b),(7,pP p1)] w11)
 (jI p1 3 w10 fun z14=>jV p1 3 (iI (mm2 true (wrap .i64 (z14-1)) 0)) w10 fun w12=>R Ae1 A45 [(0,.pointer c),(5,pP b),(7,pP p1)] w12))))))):=kR
theorem Ge1 (p:Addr) :
 xQ Bj4 C R Ae1 Tryz.f204 A45 [(0,.pointer c),(5,.pointer (some x)),(7,.pointer (some p))] h =
 gInt .i64 (add p 2) h fun z1=>gInt .i64 (add p 3) h fun z2=>jN ((wrap .i64 (z1+z2))==0) (gInt .i64 (add x 1) h fun z3=>some (decide (z3<4),h)) h fun c_1 w=>cond c_1
 (gInt .i64 (add x 1) w fun z4=>bnd (C Ah9 [.pointer c,iI z4] w) fun r w1=>aBool r fun z5=>bnd (C Ag6 [.bool z5,iI 0] w1) fun q1 w2=>aAgg q1 fun z6=>nth z6 1 fun E=>aI E fun E_1=>some (iI E_1,w2))
 (gInt .i64 (add x 1) w fun z7=>gAgg p 36 w fun z8=>bnd (C V5 [.pointer c,iI z7,.agg ⟨z8⟩] w) fun q2 w3=>aBool q2 fun z9=>bnd (C Ag6 [.bool z9,iI 0] w3) fun q3 w4=>aAgg q3 fun z10=>nth z10 1 fun E_2=>aI E_2 fun E_3=>some (iI E_3,w4)):=kR
def Df2:Cuts:=⟨2,[],[],[]⟩
def El5:List Item:=A8 Tryz.f205
theorem He2 (x:List Value) :
 xQ Df2 C R A87 Tryz.f205 El5 [(0,.agg ⟨x⟩),(1,.pointer (some fv0))] h =
 nw (.cells J7 false x) h fun b w=>jI b 0 w fun z1=>gInt .i64 fv0 w fun z2=>jN (z1 != z2) (jI b 2 w fun z3=>gInt .i64 fv0 w fun z4=>some (z3==(wrap .i64 (z4+1)),w)) w fun c w1=>some (.bool c,w1):=kR
def Ai0:Cuts:=⟨2,[(4,[0,1,12,13])],[],[(6,⟨[0,1,2,3,4,5,6,7,8],[0,0,3,7,0,0,48,112,255],[],[]⟩)]⟩
def Au9:List Item:=A8 Tryz.f213
def Ac2:List Item:=stk [0,1,0,1,0,0,1,4,5] Au9
theorem Dz3 :
 xQ Ai0 C R D6 Tryz.f213 Au9 [(0,.slice s1 s1n s1c),(1,.slice s2 s2n s2c)] h =
 cond ((s1n:Int) != (s2n:Int))
 (some (.bool false,h))
 (R D6 Ac2 [(0,.slice s1 s1n s1c),(1,.slice s2 s2n s2c),(12,iI (s1n:Int)),(13,iI 0)] h):=kR
theorem Bc6 (x13:Int) :
 xQ Ai0 C R D6 Tryz.f213 Ac2 [(0,.slice s1 s1n s1c),(1,.slice s2 s2n s2c),(12,iI x12),(13,iI x13)] h =
 cond (decide (x13<x12))
 (aSome s1 fun p=>jR x13 s1n (gInt .u8 (add (B4 p) (Int.toNat x13*1)) h fun x=>aSome s2 fun p_1=>jR x13 s2n (gInt .u8 (add (B4 p_1) (Int.toNat x13*1)) h fun z1=>cond (x != z1)
 (some (.bool false,h))
 (R D6 Ac2 [(0,.slice s1 s1n s1c),(1,.slice s2 s2n s2c),(12,iI x12),(13,iI (wrap .i64 (x13+1)))] h))))
 (some (.bool true,h)):=kR
def Bw7:Cuts:=⟨2,[],[],[]⟩
def Dw4:List Item:=A8 Tryz.f219
theorem Gp0 :
 xQ Bw7 C R Ar7 Tryz.f219 Dw4 [(0,iI n)] h =
 jN (decide (n≥0)) (some (decide (n≤65536),h)) h fun c w=>some (.bool c,w):=kR
def Db4:Cuts:=⟨2,[],[],[]⟩
def Eg1:List Item:=A8 Tryz.f225
theorem G49 :
 xQ Db4 C R A25 Tryz.f225 Eg1 [(0,.pointer s),(1,iI env),(2,iI name)] h =
 nw (.cells W3 false [iI 0,iI 0,iI 0,iI 0,iI 0,iI 0]) h fun b w=>bnd (C Al4 [.pointer s,iI env] w) fun r w1=>aBool r fun x=>cond (!x)
 (jW b 0 [iI 0,iI 0,iI 0,iI 0,iI 0,iI 0] w1 fun w2=>jA b 0 6 w2 fun z1=>jT [.agg ⟨z1⟩,iI 2] w2)
 (aSome s fun p=>gSl (add p 0) w1 fun z2 xn _=>aSome z2 fun p_1=>jR env xn (gPtr (add (B4 p_1) (Int.toNat env*1)) w1 fun z3=>bnd (C Ak7 [.pointer z3,iI name] w1) fun q1 w3=>as2 q1 fun q2 q3=>aAgg q2 fun z4=>aBool q3 fun z5=>nw (.cells W3 false [iI 0,iI 0,iI 0,iI 0,iI 0,iI 0]) w3 fun p1 w4=>jK 6 p1 0 z4 w4 fun w5=>cond (!z5)
 (jW b 0 [iI 0,iI 0,iI 0,iI 0,iI 0,iI 0] w5 fun w6=>jA b 0 6 w6 fun z6=>jT [.agg ⟨z6⟩,iI 2] w6)
 (jA p1 0 6 w5 fun z7=>jK 6 b 0 z7 w5 fun w7=>jA b 0 6 w7 fun z8=>jT [.agg ⟨z8⟩,iI 0] w7))):=kR
def Aa3:Cuts:=⟨2,[(18,[0,1,2])],[(10,[0,1,2]),(11,[0,1,2]),(14,[0,1,2]),(17,[])],[(11,⟨[0,1,2,3,4,5,6,7,8,9,10,11,12,13,14,15,16],[0,1,3,7,15,31,31,95,223,479,1023,31,2079,6175,14367,32767,65535],[],[]⟩),(18,⟨[0,1,2,3,4,5,6,7,8,9,10,11,12,13,14,15,16,17,18,19,20],[0,1,3,7,15,31,0,127,255,511,511,1535,3583,7679,16383,511,33279,98815,229887,524287,1048575],[],[]⟩)]⟩
def Af5:List Item:=A8 Tryz.f231
def Ax9:List Item:=stk [0,1,0,1,0,1,0,1,0,1,0,0,1,2,0,1] Af5
def Ax3:List Item:=stk [0,1,0,1,0,1,0,1,0,1,0,1,0,0] Af5
def Ax0:List Item:=stk [0,1,0,1,0,1,0,1,0,1,0,1,0,1,0,0] Af5
def Aw3:List Item:=stk [0,1,0,1,0,1,0,1,0,1,0,1,0,1,0,0,1,2,0,1,0] Af5
def Am2:List Item:=stk [0,1,0,1,0,1,0,1,0,1,0,1,0,1,0,1,0,4,5] Af5
theorem Gv8 :
 xQ Aa3 C R D3 Tryz.f231 Af5 [(0,.pointer s),(1,iI who),(2,iI now)] h =
 aSome s fun p=>gInt .i64 (add p 7) h fun x=>jO (decide (who<0)) h (some (decide (who>99),h)) fun c w=>cond c
 (jT [iI 0,.bool false] w)
 (aSome s fun p_1=>pV (add p_1 7) (iI (mm2 true now x)) w fun w1=>aSome s fun p_2=>gBool (add p_2 1) w1 fun z1=>jN z1 (aSome s fun p_3=>gInt .i64 (add p_3 2) w1 fun z2=>some (z2==who,w1)) w1 fun c_1 w2=>cond c_1
 (aSome s fun p_4=>gInt .i64 (add p_4 3) w2 fun z3=>jT [iI z3,.bool true] w2)
 (aSome s fun p_5=>gSl (add p_5 5) w2 fun z4 xn xc=>bnd (C R0 [.slice z4 xn xc,iI who] w2) fun r w3=>aBool r fun z5=>cond (!z5)
 (aSome s fun p_6=>gSl (add p_6 5) w3 fun _ xn_1 _=>cond ((xn_1:Int)==0)
 (aSome s fun p_7=>pV (add p_7 6) (iI (mm2 true now x)) w3 fun w4=>R D3 Ax9 [(0,.pointer s),(1,iI who),(2,iI (mm2 true now x))] w4)
 (R D3 Ax9 [(0,.pointer s),(1,iI who),(2,iI (mm2 true now x))] w3))
 (R D3 Ax3 [(0,.pointer s),(1,iI who),(2,iI (mm2 true now x))] w3))):=kR
theorem E53 :
 xQ Aa3 C R D3 Tryz.f231 Ax9 [(0,.pointer s),(1,iI who),(2,iI now)] h =
 aSome s fun p=>gSl (add p 5) h fun x xn xc=>nw (.cells B9 false [iI who]) h fun b w=>gCells (some ⟨b,0,none⟩) (1*1) w fun cs=>ckB (fitsOpen x B9 w) (apd B9 1 x xn xc 1 cs w fun a an ac w1=>aSome s fun p_1=>pV (add p_1 5) (.slice a an ac) w1 fun w2=>R D3 Ax3 [(0,.pointer s),(1,iI who),(2,iI now)] w2):=kR
theorem E07 :
 xQ Aa3 C R D3 Tryz.f231 Ax3 [(0,.pointer s),(1,iI who),(2,iI now)] h =
 aSome s fun p=>gBool (add p 1) h fun x=>jN x (aSome s fun p_1=>gInt .i64 (add p_1 4) h fun z1=>aSome s fun p_2=>gInt .i64 (add p_2 0) h fun z2=>some (decide ((wrap .i64 (now-z1))≥z2),h)) h fun c w=>cond c
 (aSome s fun p_3=>pV (add p_3 1) (.bool false) w fun w1=>aSome s fun p_4=>pV (add p_4 6) (iI now) w1 fun w2=>R D3 Ax0 [(0,.pointer s),(1,iI who),(2,iI now)] w2)
 (R D3 Ax0 [(0,.pointer s),(1,iI who),(2,iI now)] w):=kR
theorem E95 :
 xQ Aa3 C R D3 Tryz.f231 Ax0 [(0,.pointer s),(1,iI who),(2,iI now)] h =
 aSome s fun p=>gBool (add p 1) h fun x=>cond x
 (aSome s fun p_1=>gSl (add p_1 5) h fun z1 xn _=>aSome z1 fun p_2=>jR 0 xn (gInt .i64 (add (B4 p_2) (Int.toNat 0*1)) h fun z2=>cond (z2==who)
 (aSome s fun p_3=>pV (add p_3 6) (iI now) h fun w=>R D3 Aw3 [] w)
 (R D3 Aw3 [] h)))
 (R D3 Am2 [(0,.pointer s),(1,iI who),(2,iI now)] h):=kR
theorem E81 :
 xQ Aa3 C R D3 Tryz.f231 Aw3 [] h =
 jT [iI 0,.bool false] h:=kR
theorem Dl9 :
 xQ Aa3 C R D3 Tryz.f231 Am2 [(0,.pointer s),(1,iI who),(2,iI now)] h =
 aSome s fun p=>gSl (add p 5) h fun x xn _=>aSome x fun p_1=>jR 0 xn (gInt .i64 (add (B4 p_1) (Int.toNat 0*1)) h fun z1=>jN (z1 != who) (aSome s fun p_2=>gInt .i64 (add p_2 6) h fun z2=>aSome s fun p_3=>gInt .i64 (add p_3 0) h fun z3=>some (decide ((wrap .i64 (now-z2))≥z3),h)) h fun c w=>cond c
 (aSome s fun p_4=>gSl (add p_4 5) w fun z4 xn_1 xc_1=>ckB (fitsOpen z4 B9 w) (ck ((0:Int)≤1∧1≤(xn_1:Int)) (aSome s fun p_5=>pV (add p_5 5) (.slice (E5 z4 (decide (Int.toNat 1<xc_1)) ((Int.toNat 1)*1)) (xn_1-(Int.toNat 1)) (xc_1-(Int.toNat 1))) w fun w1=>aSome s fun p_6=>pV (add p_6 6) (iI now) w1 fun w2=>R D3 Am2 [(0,.pointer s),(1,iI who),(2,iI now)] w2)))
 (aSome s fun p_7=>gSl (add p_7 5) w fun z5 xn_2 _=>aSome z5 fun p_8=>jR 0 xn_2 (gInt .i64 (add (B4 p_8) (Int.toNat 0*1)) w fun z6=>cond (z6 != who)
 (jT [iI 0,.bool false] w)
 (aSome s fun p_9=>gSl (add p_9 5) w fun z7 xn_3 xc_3=>ckB (fitsOpen z7 B9 w) (ck ((0:Int)≤1∧1≤(xn_3:Int)) (aSome s fun p_10=>pV (add p_10 5) (.slice (E5 z7 (decide (Int.toNat 1<xc_3)) ((Int.toNat 1)*1)) (xn_3-(Int.toNat 1)) (xc_3-(Int.toNat 1))) w fun w3=>aSome s fun p_11=>pV (add p_11 6) (iI now) w3 fun w4=>aSome s fun p_12=>gInt .i64 (add p_12 8) w4 fun z8=>aSome s fun p_13=>pV (add p_13 8) (iI (wrap .i64 (z8+1))) w4 fun w5=>aSome s fun p_14=>gInt .i64 (add p_14 8) w5 fun z9=>aSome s fun p_15=>pV (add p_15 1) (.bool true) w5 fun w6=>aSome s fun p_16=>pV (add p_16 2) (iI who) w6 fun w7=>aSome s fun p_17=>pV (add p_17 3) (iI z9) w7 fun w8=>aSome s fun p_18=>pV (add p_18 4) (iI now) w8 fun w9=>aSome s fun p_19=>gInt .i64 (add p_19 3) w9 fun z10=>jT [iI z10,.bool true] w9)))))):=kR
def B32:Cuts:=⟨2,[],[],[]⟩
def D39:List Item:=A8 Tryz.f232
theorem Gu7 :
 xQ B32 C R Bd1 Tryz.f232 D39 [(0,.pointer s),(1,iI who),(2,iI stamp)] h =
 bnd (C An2 [.pointer s,iI who,iI stamp] h) fun r w=>aBool r fun x=>cond (!x)
 (some (.bool false,w))
 (aSome s fun p=>pV (add p 1) (.bool false) w fun w1=>aSome s fun p_1=>gInt .i64 (add p_1 7) w1 fun z1=>aSome s fun p_2=>pV (add p_2 6) (iI z1) w1 fun w2=>some (.bool true,w2)):=kR
def Bj9:Cuts:=⟨2,[(2,[0,4])],[],[]⟩
def Da6:List Item:=A8 Tryz.f234
def A43:List Item:=stk [0,1,0,0,1,4,5] Da6
theorem G18 (n:Option Addr) :
 xQ Bj9 C R Ad0 Tryz.f234 Da6 [(0,.pointer n)] h =
 R Ad0 A43 [(0,.pointer n),(4,iI 0)] h:=kR
theorem Dn7 (n:Option Addr) :
 xQ Bj9 C R Ad0 Tryz.f234 A43 [(0,.pointer n),(4,iI i)] h =
 aSome n fun p=>gSl (add p 0) h fun _ xn _=>cond (decide (i<(xn:Int)))
 (aSome n fun p_1=>gSl (add p_1 0) h fun z1 xn_1 _=>aSome z1 fun p_2=>jR i xn_1 (gBool (add (add (B4 p_2) (Int.toNat i*2)) 1) h fun z2=>jN (!z2) (aSome n fun p_3=>gSl (add p_3 0) h fun z3 xn_2 _=>aSome z3 fun p_4=>jR i xn_2 (gInt .i64 (add (add (B4 p_4) (Int.toNat i*2)) 0) h fun z4=>some (decide (z4≤1000000),h))) h fun c w=>cond c
 (aSome n fun p_5=>gSl (add p_5 0) w fun z5 xn_3 _=>aSome z5 fun p_6=>jR i xn_3 (pV (add (add (B4 p_6) (Int.toNat i*2)) 1) (.bool true) w fun w1=>aSome n fun p_7=>gSl (add p_7 0) w1 fun z6 xn_4 _=>aSome z6 fun p_8=>jR i xn_4 (gInt .i64 (add (add (B4 p_8) (Int.toNat i*2)) 0) w1 fun z7=>jT [iI (wrap .i64 (i+(wrap .i64 (256*z7)))),.bool true] w1)))
 (R Ad0 A43 [(0,.pointer n),(4,iI (wrap .i64 (i+1)))] w)))
 (jT [iI 0,.bool false] h):=kR
def Bi8:Cuts:=⟨2,[],[],[]⟩
def Dj8:List Item:=A8 Tryz.f237
theorem E09 (put:Value) (get:Value) :
 xQ Bi8 C R Aw5 Tryz.f237 Dj8 [(0,iI size),(1,put),(2,get)] h =
 one put (one get (nw (.cells Aq8 false [iI (mm2 false (mm2 true size 0) 64),put,get]) h fun b w=>some (pP b,w))):=kR
def Es2:Cuts:=⟨2,[],[],[]⟩
def Gy1:List Item:=A8 Tryz.f238
theorem Il0 (f:List Value) :
 xQ Es2 C R Az7 Tryz.f238 Gy1 [(0,.agg ⟨f⟩),(1,.slice b bn bc)] h =
 nw (.cells D9 false f) h fun p1 w=>jA p1 0 4 w fun x=>bnd (C D67 [.agg ⟨x⟩] w) fun r w1=>aBool r fun z1=>cond (!z1)
 (some (.bool false,w1))
 (jI p1 0 w1 fun z2=>jI p1 1 w1 fun z3=>jI p1 2 w1 fun z4=>jI p1 3 w1 fun z5=>nw (.cells A9 false [.int .u8 (wrap .u8 (z2)),.int .u8 (wrap .u8 (z3)),.int .u8 (wrap .u8 (z4)),.int .u8 (wrap .u8 (z5)),.int .u8 179]) w1 fun p2 w2=>gCells (some ⟨p2,0,none⟩) (min 5 bn*1) w2 fun cs=>pCells b cs w2 fun w3=>ckB (fitsOpen b A9 w3) (ck ((0:Int)≤5∧5≤(bc:Int)) (bnd (C Ag9 [.slice (E5 b (decide (0<bc)) (0*1)) ((Int.toNat 5)-0) (bc-0)] w3) fun q1 w4=>aInt .u8 q1 fun z6=>aSome b fun p=>jR 5 bn (pV (add (B4 p) (Int.toNat 5*1)) (.int .u8 z6) w4 fun w5=>some (.bool true,w5))))):=kR
def E42:Cuts:=⟨2,[],[],[]⟩
def Hd8:List Item:=A8 Tryz.f243
theorem Iy8 :
 xQ E42 C R Bl5 Tryz.f243 Hd8 [(0,iI e)] h =
 nw (.cells P3 false [iI 0,iI 0,sN,.bool false]) h fun b w=>jW b 0 [iI 0,iI e,sN,.bool false] w fun w1=>jA b 0 4 w1 fun x=>jG x w1:=kR
def D68:Cuts:=⟨2,[(3,[0,1,2,7,8])],[],[]⟩
def E20:List Item:=A8 Tryz.f245
def Bn0:List Item:=stk [0,1,0,1,0,0,1,4,5] E20
theorem I54 :
 xQ D68 C R Ae3 Tryz.f245 E20 [(0,iI n),(1,iI want),(2,isv)] h =
 R Ae3 Bn0 [(0,iI n),(1,iI want),(2,isv),(7,sN),(8,iI 0)] h:=kR
theorem D23 :
 xQ D68 C R Ae3 Tryz.f245 Bn0 [(0,iI n),(1,iI want),(2,isv),(7,.slice out outn outc),(8,iI i)] h =
 jN (decide (i<n)) (some (decide ((outn:Int)<want),h)) h fun c w=>cond c
 (aFn isv fun g fi cp=>bnd (C g (fi++([iI i]++cp)) w) fun r w1=>aBool r fun x=>cond x
 (nw (.cells B9 false [iI i]) w1 fun b w2=>gCells (some ⟨b,0,none⟩) (1*1) w2 fun cs=>ckB (fitsOpen out B9 w2) (apd B9 1 out outn outc 1 cs w2 fun a an ac w3=>R Ae3 Bn0 [(0,iI n),(1,iI want),(2,isv),(7,.slice a an ac),(8,iI (wrap .i64 (i+1)))] w3))
 (R Ae3 Bn0 [(0,iI n),(1,iI want),(2,isv),(7,.slice out outn outc),(8,iI (wrap .i64 (i+1)))] w1))
 (some (.slice out outn outc,w)):=kR
def Aw8:Cuts:=⟨2,[],[],[]⟩
def Bs1:List Item:=A8 Tryz.f248
theorem D89 :
 xQ Aw8 C R V5 Tryz.f248 Bs1 [(0,.pointer c),(1,iI i),(2,.agg ⟨p⟩)] h =
 nw (.cells E6 false p) h fun b w=>jA b 0 36 w fun x=>bnd (C Bo2 [.agg ⟨x⟩] w) fun r w1=>as2 r fun q1 q2=>aSl q1 fun z1 xn xc=>aBool q2 fun z2=>bnd (C A14 [iI i] w1) fun q3 w2=>aAgg q3 fun z3=>bnd (C P4 [.pointer c,.agg ⟨z3⟩,.slice z1 xn xc,.bool z2] w2) fun q4 w3=>aBool q4 fun z4=>some (.bool z4,w3):=kR
def Z7:Cuts:=⟨2,[],[(3,[0,1])],[]⟩
def Al2:List Item:=A8 Tryz.f266
def Av7:List Item:=stk [0,1,0,1,0,0] Al2
theorem Dd9 :
 xQ Z7 C R O5 Tryz.f266 Al2 [(0,.slice s sn sc),(1,iI n)] h =
 cond (decide (n<0))
 (none)
 (R O5 Av7 [(0,.slice s sn sc),(1,iI n)] h):=kR
theorem B25 :
 xQ Z7 C R O5 Tryz.f266 Av7 [(0,.slice s sn sc),(1,iI n)] h =
 Gg5 s sc fun cap=>cond (decide ((wrap .i64 (n-(wrap .i64 ((cap:Int)-(sn:Int)))))>0))
 (Gg5 s sc fun cap_1=>ckB (fitsOpen s Q9 h) (ck ((0:Int)≤(cap_1:Int)∧(cap_1:Int)≤(sc:Int)) (ck ((0:Int)≤wrap .i64 (n-(wrap .i64 ((cap:Int)-(sn:Int))))∧wrap .i64 (n-(wrap .i64 ((cap:Int)-(sn:Int))))≤(B3:Int)) (ckB (fitsOpen (E5 s (decide (0<sc)) (0*3)) Q9 h) (apd Q9 3 (E5 s (decide (0<sc)) (0*3)) ((Int.toNat (cap_1:Int))-0) (sc-0) (Int.toNat (wrap .i64 (n-(wrap .i64 ((cap:Int)-(sn:Int)))))) (G9 (Int.toNat (wrap .i64 (n-(wrap .i64 ((cap:Int)-(sn:Int)))))) [iI 0,iI 0,iI 0]) h fun a _ ac w=>ckB (fitsOpen a Q9 w) (ck ((0:Int)≤(sn:Int)∧(sn:Int)≤(ac:Int)) (some (.slice (E5 a (decide (0<ac)) (0*3)) ((Int.toNat (sn:Int))-0) (ac-0),w))))))))
 (some (.slice s sn sc,h)):=kR
def Au6:Cuts:=⟨2,[],[],[]⟩
def Bm7:List Item:=A8 Tryz.f267
theorem Dz7 :
 xQ Au6 C R Ai5 Tryz.f267 Bm7 [(0,.pointer c),(1,iI i)] h =
 bnd (C A10 [iI i] h) fun r w=>aAgg r fun x=>bnd (C Y6 [.pointer c,.agg ⟨x⟩] w) fun q1 w1=>aBool q1 fun z1=>some (.bool z1,w1):=kR
def D05:Cuts:=⟨2,[],[],[(1,⟨[1,0,2,3,4,5,6],[0,0,3,7,7,31,63],[(0,[1])],[]⟩)]⟩
def Gc4:List Item:=A8 Tryz.f281
theorem Hw8 :
 xQ D05 C R Bo2 Tryz.f281 Gc4 [(0,.agg ⟨p⟩)] h =
 nw (.cells E6 false p) h fun b w=>jA b 0 36 w fun x=>bnd (C Bx4 [] w) fun r w1=>aPtr r fun z1=>jA b 0 36 w1 fun z2=>same (.agg ⟨x⟩) (.agg ⟨z2⟩) (bnd (C Ac5 [.pointer z1,.agg ⟨x⟩] w1) fun q1 w2=>as2 q1 fun q2 q3=>aSl q2 fun z3 xn xc=>aBool q3 fun z4=>jT [.slice z3 xn xc,.bool z4] w2):=kR
def Df7:Cuts:=⟨2,[(5,[1,3,9,10])],[],[]⟩
def Ei1:List Item:=A8 Tryz.f286
def Bt4:List Item:=stk [0,1,0,1,0,1,0,0,1,4,5] Ei1
theorem If8 :
 xQ Df7 C R As1 Tryz.f286 Ei1 [(0,.agg ⟨p⟩)] h =
 nw (.cells E6 false p) h fun b w=>jA b 0 36 w fun x=>bnd (C Dx7 [.agg ⟨x⟩] w) fun r w1=>aBool r fun z1=>cond (!z1)
 (some (sN,w1))
 (jI b 1 w1 fun z2=>R As1 Bt4 [(1,pP b),(3,sN),(9,iI z2),(10,iI 0)] w1):=kR
theorem Em7 (p:Addr) (x9:Int) :
 xQ Df7 C R As1 Tryz.f286 Bt4 [(1,.pointer (some p)),(3,.slice out outn outc),(9,iI x9),(10,iI x10)] h =
 cond (decide (x10<x9))
 (gInt .i64 (add p 0) h fun x=>ck ((0:Int)≤Int.tmod (wrap .i64 (x+x10)) 32∧Int.tmod (wrap .i64 (x+x10)) 32<((32:Nat):Int)) (gInt .u8 (add (add p 4) (Int.toNat (Int.tmod (wrap .i64 (x+x10)) 32)*1)) h fun z1=>nw (.cells A9 false [.int .u8 z1]) h fun b w=>gCells (some ⟨b,0,none⟩) (1*1) w fun cs=>ckB (fitsOpen out A9 w) (apd A9 1 out outn outc 1 cs w fun a an ac w1=>R As1 Bt4 [(1,.pointer (some p)),(3,.slice a an ac),(9,iI x9),(10,iI (wrap .i64 (x10+1)))] w1)))
 (some (.slice out outn outc,h)):=kR
end
end Go.EQ

set_option maxRecDepth 100000
namespace Go.EQ
open Go Go.NN Go.Proofs
open Go.IntKind (wrap)
open Go.Addr (add)
variable (C:E0) (R:Ab8) (fv0 random:Addr) (wasBalanced wasPartitioned:Bool) (h:H) (a atv e env fd i idx j length limit lo modulus n name pivot size to x x10 x9:Int) (f p:List Value) (bc bn datac datan lc ln sc sn:Nat) (b c data k l m q r s w:Option Addr) (cmp:Value)
noncomputable section
def Dc0:Cuts:=⟨2,[],[(11,[2])],[(2,⟨[0,1,2,3,4,5,6,7,12,8,9,10,11,13,14],[0,1,3,7,0,16,48,112,255,511,1023,1023,0,6143,16383],[],[]⟩)]⟩
def Db5:List Item:=A8 Tryz.f10
def Dn4:List Item:=stk [0,1,0,1,0,1,0,4,0,1,3,0,1,3,0,1,2,0,1,0] Db5
theorem A23 :
 xQ Dc0 C R L9 Tryz.f10 Db5 [(0,.pointer w)] h =
 nw (.cells Ae0 false [iI 0,iI 0,iI 0,iI 0,iI 0,sN,iI 0,iI 0,sN,.bool false,sN,iI 0]) h fun b w1=>aSome w fun p=>gPtr (add p 4) w1 fun x=>bnd (C D1 [.pointer x] w1) fun r w2=>as0 r (aSome w fun p_1=>gPtr (add p_1 4) w2 fun z1=>aSome w fun p_2=>gInt .i64 (add p_2 2) w2 fun z2=>nw (.cells B2 false zZ1) w2 fun p1 w3=>bnd (C E4 [.pointer z1,iI z2] w3) fun q1 w4=>as2 q1 fun q2 q3=>aAgg q2 fun z3=>aI q3 fun z4=>jK 16 p1 0 z3 w4 fun w5=>cond (z4==2)
 (bnd (C Hg9 [.pointer w] w5) fun q4 w6=>as2 q4 fun q5 q6=>aAgg q5 fun z5=>aBool q6 fun z6=>jK 12 b 0 z5 w6 fun w7=>jA b 0 12 w7 fun z7=>jT [.agg ⟨z7⟩,.bool z6] w7)
 (jO (z4==0) w5 (jI p1 0 w5 fun z8=>some (z8==2,w5)) fun c w8=>cond c
 (bnd (C A29 [.pointer w] w8) fun q7 w9=>as0 q7 (jW b 0 [iI 0,iI 0,iI 0,iI 0,iI 0,sN,iI 0,iI 0,sN,.bool false,sN,iI 0] w9 fun w10=>jA b 0 12 w10 fun z9=>jT [.agg ⟨z9⟩,.bool false] w10))
 (jI p1 0 w8 fun z10=>cond (z10==3)
 (aSome w fun p_3=>gInt .i64 (add p_3 5) w8 fun z11=>cond (z11==2)
 (bnd (C Am9 [.pointer w,iI 1] w8) fun q8 w11=>as0 q8 (R L9 Dn4 [(2,pP b)] w11))
 (R L9 Dn4 [(2,pP b)] w8))
 (aSome w fun p_4=>gInt .i64 (add p_4 5) w8 fun z12=>cond (z12==1)
 (bnd (C Bj3 [.pointer w] w8) fun q9 w12=>as0 q9 (jW b 0 [iI 0,iI 0,iI 0,iI 0,iI 0,sN,iI 0,iI 0,sN,.bool false,sN,iI 0] w12 fun w13=>jA b 0 12 w13 fun z13=>jT [.agg ⟨z13⟩,.bool false] w13))
 (cond (z12==2)
 (bnd (C Be5 [.pointer w] w8) fun q10 w14=>as2 q10 fun q11 q12=>aAgg q11 fun z14=>aBool q12 fun z15=>jK 12 b 0 z14 w14 fun w15=>jA b 0 12 w15 fun z16=>jT [.agg ⟨z16⟩,.bool z15] w15)
 (cond (z12==3)
 (jA p1 0 16 w8 fun z17=>bnd (C Ap0 [.pointer w,.agg ⟨z17⟩] w8) fun q13 w16=>as2 q13 fun q14 q15=>aAgg q14 fun z18=>aBool q15 fun z19=>jK 12 b 0 z18 w16 fun w17=>jA b 0 12 w17 fun z20=>jT [.agg ⟨z20⟩,.bool z19] w17)
 (aSome w fun p_5=>gInt .i64 (add p_5 2) w8 fun z21=>bnd (C Am8 [.pointer w,.agg ⟨[iI 0,iI z21,iI 0,iI 0,iI 0,sN,iI 0,iI 0,sN,.bool false,sN,iI 0]⟩] w8) fun q16 w18=>aAgg q16 fun z22=>nw (.cells Ae0 false [iI 0,iI 0,iI 0,iI 0,iI 0,sN,iI 0,iI 0,sN,.bool false,sN,iI 0]) w18 fun p2 w19=>jK 12 p2 0 z22 w19 fun w20=>jS p2 10 w20 fun _ xn _=>jO (decide ((xn:Int)>0)) w20 (jI p2 11 w20 fun z24=>some (decide (z24>0),w20)) fun c_1 w21=>cond c_1
 (jA p2 0 12 w21 fun z25=>jK 12 b 0 z25 w21 fun w22=>jA b 0 12 w22 fun z26=>jT [.agg ⟨z26⟩,.bool true] w22)
 (jW b 0 [iI 0,iI 0,iI 0,iI 0,iI 0,sN,iI 0,iI 0,sN,.bool false,sN,iI 0] w21 fun w23=>jA b 0 12 w23 fun z27=>jT [.agg ⟨z27⟩,.bool false] w23)))))))):=kR
def B29:Cuts:=⟨2,[],[],[]⟩
def D37:List Item:=A8 Tryz.f15
theorem Gw4 :
 xQ B29 C R Af3 Tryz.f15 D37 [(0,.pointer w)] h =
 aSome w fun p=>gInt .i64 (add p 5) h fun x=>some (iI x,h):=kR
def D26:Cuts:=⟨2,[],[],[]⟩
def Gc8:List Item:=A8 Tryz.f16
theorem Hx2 :
 xQ D26 C R A68 Tryz.f16 Gc8 [] h =
 bnd (C Ah7 [] h) fun r w=>as4 r fun q1 q2 q3 q4=>aPtr q1 fun x=>aSl q2 fun z1 xn _=>aPtr q3 fun _=>aSl q4 fun _ _ _=>cond x.isNone
 (some (.bool false,w))
 (aSome z1 fun p=>jR 0 xn (gPtr (add (B4 p) (Int.toNat 0*1)) w fun z4=>bnd (C Af2 [.pointer z4,.agg ⟨[iI 1,iI 0,iI 0,sN]⟩] w) fun q5 w1=>aBool q5 fun z5=>aSome z1 fun p_1=>jR 0 xn (gPtr (add (B4 p_1) (Int.toNat 0*1)) w1 fun z6=>bnd (C L9 [.pointer z6] w1) fun q6 w2=>as2 q6 fun q7 q8=>aAgg q7 fun z7=>aBool q8 fun z8=>nw (.cells Ae0 false [iI 0,iI 0,iI 0,iI 0,iI 0,sN,iI 0,iI 0,sN,.bool false,sN,iI 0]) w2 fun b w3=>jK 12 b 0 z7 w3 fun w4=>aSome z1 fun p_2=>jR 0 xn (gPtr (add (B4 p_2) (Int.toNat 0*1)) w4 fun z9=>bnd (C L9 [.pointer z9] w4) fun q9 w5=>as2 q9 fun q10 q11=>aAgg q10 fun z10=>aBool q11 fun z11=>nw (.cells Ae0 false [iI 0,iI 0,iI 0,iI 0,iI 0,sN,iI 0,iI 0,sN,.bool false,sN,iI 0]) w5 fun p1 w6=>jK 12 p1 0 z10 w6 fun w7=>bnd (C A92 [.pointer x,iI 0,iI 9,iI 0] w7) fun q12 w8=>as2 q12 fun q13 q14=>aPtr q13 fun _=>aI q14 fun z13=>bnd (C A92 [.pointer x,iI 0,iI 0,iI 9] w8) fun q15 w9=>as2 q15 fun q16 q17=>aPtr q16 fun _=>aI q17 fun z15=>jN z5 (some (!z8,w9)) w9 fun c w10=>jN c (some (z11,w10)) w10 fun c_1 w11=>jN c_1 (jB p1 9 w11 fun z16=>some (z16,w11)) w11 fun c_2 w12=>jN c_2 (jI p1 7 w12 fun z17=>some (z17==0,w12)) w12 fun c_3 w13=>jN c_3 (jI p1 6 w13 fun z18=>some (z18==0,w13)) w13 fun c_4 w14=>jN c_4 (aSome z1 fun p_3=>jR 0 xn (gPtr (add (B4 p_3) (Int.toNat 0*1)) w14 fun z19=>bnd (C Af3 [.pointer z19] w14) fun q18 w15=>aI q18 fun z20=>some (z20==0,w15))) w14 fun c_5 w16=>jN c_5 (some (z13==1,w16)) w16 fun c_6 w17=>jN c_6 (some (z15==8,w17)) w17 fun c_7 w18=>jN c_7 (aSome z1 fun p_4=>jR 1 xn (gPtr (add (B4 p_4) (Int.toNat 1*1)) w18 fun z21=>bnd (C Af2 [.pointer z21,.agg ⟨[iI 1,iI 0,iI 0,sN]⟩] w18) fun q19 w19=>aBool q19 fun z22=>some (!z22,w19))) w18 fun c_8 w20=>some (.bool c_8,w20))))):=kR
def Dl6:Cuts:=⟨2,[],[],[]⟩
def Em5:List Item:=A8 Tryz.f24
theorem G90 (slot:Int) (sectionv:Int) :
 xQ Dl6 C R Br6 Tryz.f24 Em5 [(0,.pointer k),(1,iI env),(2,iI slot),(3,iI sectionv)] h =
 bnd (C At1 [.pointer k,iI env] h) fun r w=>aPtr r fun x=>nw (.cells Ie0 false [.pointer k,.pointer x,iI env,iI slot,iI sectionv,iI 0,iI 0,iI 0,iI 0,iI 0,sN]) w fun b w1=>some (pP b,w1):=kR
def Dp1:Cuts:=⟨2,[],[],[(1,⟨[0,1,2,3,4,5,6,7,9,10,11,12,13,14,15,16,8,17,18],[0,1,3,7,0,16,48,112,255,0,512,1536,3584,0,8192,24576,57344,131071,262143],[(8,[12,16])],[]⟩),(4,⟨[0,1,2,3,4,5,6,7,8,9,10,11,13,12,14],[0,1,3,7,0,16,48,112,0,256,768,1792,4095,0,16383],[],[]⟩)]⟩
def E01:List Item:=A8 Tryz.f31
theorem Ev8 :
 xQ Dp1 C R Be5 Tryz.f31 E01 [(0,.pointer w)] h =
 nw (.cells Ae0 false [iI 0,iI 0,iI 0,iI 0,iI 0,sN,iI 0,iI 0,sN,.bool false,sN,iI 0]) h fun b w1=>aSome w fun p=>gPtr (add p 0) w1 fun x=>aSome w fun p_1=>gInt .i64 (add p_1 3) w1 fun z1=>aSome w fun p_2=>gInt .i64 (add p_2 1) w1 fun z2=>aSome w fun p_3=>gInt .i64 (add p_3 6) w1 fun z3=>bnd (C Ad9 [.pointer x,iI z1] w1) fun r w2=>aPtr r fun z4=>gInt .i64 (add p_2 1) w2 fun z5=>same (iI z2) (iI z5) (gInt .i64 (add p_3 6) w2 fun z6=>same (iI z3) (iI z6) (bnd (C An2 [.pointer z4,iI z2,iI z3] w2) fun q1 w3=>aBool q1 fun z7=>cond (!z7)
 (aSome w fun p_4=>pV (add p_4 5) (iI 1) w3 fun w4=>jW b 0 [iI 0,iI 0,iI 0,iI 0,iI 0,sN,iI 0,iI 0,sN,.bool false,sN,iI 0] w4 fun w5=>jA b 0 12 w5 fun z8=>jT [.agg ⟨z8⟩,.bool false] w5)
 (aSome w fun p_5=>gPtr (add p_5 4) w3 fun z9=>aSome w fun p_6=>gInt .i64 (add p_6 2) w3 fun z10=>aSome w fun p_7=>gAgg (add p_7 7) 4 w3 fun z11=>nw (.cells P3 false [iI 0,iI 0,sN,.bool false]) w3 fun p1 w6=>bnd (C D63 [.pointer z9,iI z10,.agg ⟨z11⟩] w6) fun q2 w7=>aAgg q2 fun z12=>jK 4 p1 0 z12 w7 fun w8=>jB p1 3 w8 fun z13=>cond z13
 (bnd (C Am9 [.pointer w,iI 3] w8) fun q3 w9=>as0 q3 (jW b 0 [iI 0,iI 0,iI 0,iI 0,iI 0,sN,iI 0,iI 0,sN,.bool false,sN,iI 0] w9 fun w10=>jA b 0 12 w10 fun z14=>jT [.agg ⟨z14⟩,.bool false] w10))
 (bnd (C Am9 [.pointer w,iI 0] w8) fun q4 w11=>as0 q4 (jA p1 0 4 w11 fun z15=>bnd (C A40 [.pointer w,.agg ⟨z15⟩] w11) fun q5 w12=>aAgg q5 fun z16=>nw (.cells Ae0 false [iI 0,iI 0,iI 0,iI 0,iI 0,sN,iI 0,iI 0,sN,.bool false,sN,iI 0]) w12 fun p2 w13=>jK 12 p2 0 z16 w13 fun w14=>aSome w fun p_8=>gInt .i64 (add (add p_8 7) 0) w14 fun z17=>cond (z17 != 3)
 (jA p2 0 12 w14 fun z18=>bnd (C Am8 [.pointer w,.agg ⟨z18⟩] w14) fun q6 w15=>aAgg q6 fun z19=>jK 12 p2 0 z19 w15 fun w16=>jA p2 0 12 w16 fun z20=>jK 12 b 0 z20 w16 fun w17=>jA b 0 12 w17 fun z21=>jT [.agg ⟨z21⟩,.bool true] w17)
 (jA p2 0 12 w14 fun z22=>jK 12 b 0 z22 w14 fun w18=>jA b 0 12 w18 fun z23=>jT [.agg ⟨z23⟩,.bool true] w18)))))):=kR
def D10:Cuts:=⟨2,[],[],[]⟩
def Gb5:List Item:=A8 Tryz.f34
theorem Hz0 :
 xQ D10 C R Au4 Tryz.f34 Gb5 [(0,.pointer k),(1,iI env)] h =
 jO k.isNone h (bnd (C Aw0 [.pointer k] h) fun r w=>aPtr r fun x=>bnd (C Ar9 [.pointer x,iI env] w) fun q1 w1=>aSl q1 fun _ xn _=>some ((xn:Int)==0,w1)) fun c w2=>cond c
 (jT [.pointer none,iI 1] w2)
 (bnd (C Aw0 [.pointer k] w2) fun q2 w3=>aPtr q2 fun z2=>bnd (C Ar9 [.pointer z2,iI env] w3) fun q3 w4=>aSl q3 fun z3 xn_1 xc_1=>nw (.map [] 0) w4 fun b w5=>nw (.cells D38 false [.pointer k,iI env,.slice z3 xn_1 xc_1,.map (some b)]) w5 fun p1 w6=>jT [pP p1,iI 0] w6):=kR
def Ee0:Cuts:=⟨2,[],[],[]⟩
def Gh9:List Item:=A8 Tryz.f40
theorem If9 :
 xQ Ee0 C R Bv6 Tryz.f40 Gh9 [(0,.agg ⟨p⟩)] h =
 nw (.cells De9 false p) h fun b w=>jA b 0 3 w fun x=>bnd (C O6 [.agg ⟨x⟩] w) fun r w1=>aAgg r fun z1=>nw (.cells G7 false [sN,sN,sN,iI 0,sN]) w1 fun p1 w2=>jK 5 p1 0 z1 w2 fun w3=>jA p1 0 5 w3 fun z2=>bnd (C M8 [.agg ⟨z2⟩] w3) fun q1 w4=>as2 q1 fun q2 q3=>aPtr q2 fun z3=>aI q3 fun z4=>jO z3.isNone w4 (some (z4 != 0,w4)) fun c w5=>cond c
 (jT [.pointer none,.pointer none,.pointer none,.pointer none] w5)
 (jA p1 0 5 w5 fun z5=>bnd (C J0 [.agg ⟨z5⟩] w5) fun q4 w6=>aPtr q4 fun z6=>bnd (C Au4 [.pointer z3,iI 0] w6) fun q5 w7=>as2 q5 fun q6 q7=>aPtr q6 fun z7=>aI q7 fun z8=>jO z7.isNone w7 (some (z8 != 0,w7)) fun c_1 w8=>cond c_1
 (jT [.pointer none,.pointer none,.pointer none,.pointer none] w8)
 (bnd (C Bn1 [] w8) fun q8 w9=>aStr q8 fun z9=>ck (ByteArray.size z9≤B3) (nw (.cells A9 false (A0 (ByteArray.data z9).toList)) w9 fun p2 w10=>bnd (C N7 [.pointer z3,iI 0,.agg ⟨[iI 2,iI 256,iI 0,iI 0,iI 0,iI 0,.slice (some (Q0 p2)) (ByteArray.size z9) (ByteArray.size z9)]⟩] w10) fun q9 w11=>aAgg q9 fun z10=>nth z10 0 fun E=>aI E fun E_1=>cond (E_1 != 0)
 (jT [.pointer none,.pointer none,.pointer none,.pointer none] w11)
 (ck (ByteArray.size z9≤B3) (nw (.cells A9 false (A0 (ByteArray.data z9).toList)) w11 fun p3 w12=>bnd (C A13 [.pointer z6,iI 0,.agg ⟨[iI 2,iI 256,iI 0,iI 0,iI 0,iI 0,.slice (some (Q0 p3)) (ByteArray.size z9) (ByteArray.size z9)]⟩] w12) fun q10 w13=>as3 q10 fun q11 q12 q13=>aI q11 fun _=>aI q12 fun _=>aStr q13 fun _=>bnd (C At1 [.pointer z6,iI 0] w13) fun q14 w14=>aPtr q14 fun z14=>jT [.pointer z3,.pointer z7,.pointer z6,.pointer z14] w14))))):=kR
def Dq6:Cuts:=⟨2,[],[],[(7,⟨[0,1,2,3,4,5,6,7,8,9,10,11,12,13,14,15,16],[0,1,3,7,0,0,32,0,128,0,512,2047,4095,8191,8191,16383,65535],[],[]⟩),(9,⟨[0,1,2,3,4,5,6,7,8,9,10,11,12,13],[0,1,3,7,0,0,32,0,128,0,512,1536,4095,8191],[],[]⟩),(11,⟨[0,1,2,3,4,5,6,7,8,9,10,11,12,13,14,15,16],[0,1,3,7,0,0,32,0,128,0,512,0,2048,0,8192,32767,65535],[],[]⟩),(13,⟨[0,1,2,3,4,5,6,7,8,9,10,11,12,13,14,15,16,17,18,19,20,21,22,23],[0,1,3,7,15,31,63,0,0,256,0,1024,0,4096,0,16384,0,65536,262143,524287,1048575,1048575,2097151,8388607],[],[]⟩),(15,⟨[0,1,2,3,4,5,6,7,8,9,10,11,12,13,14,15],[0,1,3,7,15,31,63,0,0,256,1023,2047,4095,4095,8191,32767],[],[]⟩),(17,⟨[0,1,2,3,4,5,6,7,8,9,10,11,12,13,14,15,16,17],[0,1,3,7,0,16,48,112,240,0,1008,2032,4095,8191,16383,16383,32767,131071],[],[]⟩),(19,⟨[0,1,2,3,4,5,6,7,8,9,10,11,12,13,14,15],[0,1,3,7,0,16,48,112,240,0,1008,2032,0,4096,16383,32767],[],[]⟩),(23,⟨[0,1,2,3,4,5,6,7,8,9,10,11,12,13,14,15,16,17],[0,1,3,7,0,16,63,127,0,0,512,1536,3584,8191,16383,32767,32767,65535],[],[]⟩),(27,⟨[0,1,2,3,4,5,6,7,8,9,10,11,12,13,14,15,16,17,18],[0,0,0,4,15,31,63,127,255,511,63,1087,4095,8191,63,63,32831,131071,262143],[],[]⟩)]⟩
def Ew8:List Item:=A8 Tryz.f44
theorem Hm1 (c:List Value) :
 xQ Dq6 C R A13 Tryz.f44 Ew8 [(0,.pointer k),(1,iI e),(2,.agg ⟨c⟩)] h =
 nw (.cells A97 false c) h fun b w=>jO (decide (e<0)) w (aSome k fun p=>gSl (add (add p 0) 1) w fun _ xn _=>some (decide (e≥(xn:Int)),w)) fun c_1 w1=>cond c_1
 (jT [iI 1,iI 0,.string (ByteArray.mk ⟨[]⟩)] w1)
 (jI b 0 w1 fun z1=>cond (z1==1)
 (aSome k fun p_1=>gPtr (add p_1 6) w1 fun z2=>jI b 1 w1 fun z3=>jI b 2 w1 fun z4=>jI b 3 w1 fun z5=>bnd (C Ge5 [.pointer z2,iI e,iI z3,iI z4,iI z5] w1) fun r w2=>as2 r fun q1 q2=>aStr q1 fun z6=>aI q2 fun z7=>jT [iI z7,iI 0,.string z6] w2)
 (cond (z1==2)
 (aSome k fun p_2=>gPtr (add p_2 6) w1 fun z8=>jI b 1 w1 fun z9=>jI b 2 w1 fun z10=>jS b 6 w1 fun z11 xn_1 _=>gCells z11 xn_1 w1 fun cs=>asBytes cs fun l=>bnd (C Ax7 [.pointer z8,iI e,iI z9,iI z10,.string (ByteArray.mk ⟨l⟩)] w1) fun q3 w3=>aI q3 fun z12=>jT [iI z12,iI 0,.string (ByteArray.mk ⟨[]⟩)] w3)
 (cond (z1==3)
 (aSome k fun p_3=>gPtr (add p_3 6) w1 fun z13=>jI b 1 w1 fun z14=>jI b 2 w1 fun z15=>jI b 4 w1 fun z16=>jI b 5 w1 fun z17=>jI b 3 w1 fun z18=>bnd (C Gd7 [.pointer z13,iI e,iI z14,iI z15,iI z16,iI z17,iI z18] w1) fun q4 w4=>aI q4 fun z19=>jT [iI z19,iI 0,.string (ByteArray.mk ⟨[]⟩)] w4)
 (cond (z1==4)
 (aSome k fun p_4=>gPtr (add p_4 6) w1 fun z20=>aSome z20 fun p_5=>gPtr (add p_5 3) w1 fun z21=>jI b 1 w1 fun z22=>jI b 4 w1 fun z23=>jI b 5 w1 fun z24=>jI b 2 w1 fun z25=>jI b 3 w1 fun z26=>bnd (C Gp5 [.pointer z21,iI e,iI z22,iI z23,iI z24,iI z25,iI z26] w1) fun q5 w5=>as2 q5 fun q6 q7=>aI q6 fun z27=>aI q7 fun z28=>jT [iI z28,iI z27,.string (ByteArray.mk ⟨[]⟩)] w5)
 (cond (z1==5)
 (aSome k fun p_6=>gPtr (add p_6 6) w1 fun z29=>aSome z29 fun p_7=>gPtr (add p_7 3) w1 fun z30=>jI b 1 w1 fun z31=>bnd (C Ge4 [.pointer z30,iI e,iI z31] w1) fun q8 w6=>as2 q8 fun q9 q10=>aI q9 fun z32=>aI q10 fun z33=>jT [iI z33,iI z32,.string (ByteArray.mk ⟨[]⟩)] w6)
 (cond (z1==6)
 (aSome k fun p_8=>gPtr (add p_8 5) w1 fun z34=>aSome k fun p_9=>gSl (add (add p_9 0) 1) w1 fun z35 xn_2 _=>aSome z35 fun p_10=>jR e xn_2 (gInt .i64 (add (B4 p_10) (Int.toNat e*1)) w1 fun z36=>bnd (C Gl8 [.pointer z34,iI z36] w1) fun q11 w7=>as2 q11 fun q12 q13=>aI q12 fun z37=>aI q13 fun z38=>jT [iI z38,iI z37,.string (ByteArray.mk ⟨[]⟩)] w7))
 (cond (z1==7)
 (aSome k fun p_11=>gPtr (add p_11 5) w1 fun z39=>aSome k fun p_12=>gSl (add (add p_12 0) 1) w1 fun z40 xn_3 _=>aSome z40 fun p_13=>jR e xn_3 (gInt .i64 (add (B4 p_13) (Int.toNat e*1)) w1 fun z41=>jI b 3 w1 fun z42=>bnd (C Gw7 [.pointer z39,iI z41,iI z42] w1) fun q14 w8=>aI q14 fun z43=>jT [iI z43,iI 0,.string (ByteArray.mk ⟨[]⟩)] w8))
 (cond (z1==8)
 (jI b 3 w1 fun z44=>bnd (C El6 [.pointer k,iI e,iI z44] w1) fun q15 w9=>aBool q15 fun z45=>cond z45
 (aSome k fun p_14=>gSl (add p_14 7) w9 fun z46 xn_4 _=>jI b 3 w9 fun z47=>aSome z46 fun p_15=>jR z47 xn_4 (gPtr (add (B4 p_15) (Int.toNat z47*1)) w9 fun z48=>aSome k fun p_16=>gInt .i64 (add p_16 8) w9 fun z49=>bnd (C Gx0 [.pointer z48,iI e,iI z49] w9) fun q16 w10=>as2 q16 fun q17 q18=>aI q17 fun z50=>aBool q18 fun _=>jT [iI 0,iI z50,.string (ByteArray.mk ⟨[]⟩)] w10))
 (jT [iI 8,iI 0,.string (ByteArray.mk ⟨[]⟩)] w9))
 (cond (z1==9)
 (jI b 3 w1 fun z52=>bnd (C El6 [.pointer k,iI e,iI z52] w1) fun q19 w11=>aBool q19 fun z53=>jN z53 (aSome k fun p_17=>gSl (add p_17 7) w11 fun z54 xn_5 _=>jI b 3 w11 fun z55=>aSome z54 fun p_18=>jR z55 xn_5 (gPtr (add (B4 p_18) (Int.toNat z55*1)) w11 fun z56=>jI b 2 w11 fun z57=>bnd (C Gv6 [.pointer z56,iI e,iI z57] w11) fun q20 w12=>aBool q20 fun z58=>some (z58,w12))) w11 fun c_2 w13=>cond c_2
 (jT [iI 0,iI 0,.string (ByteArray.mk ⟨[]⟩)] w13)
 (jT [iI 8,iI 0,.string (ByteArray.mk ⟨[]⟩)] w13))
 (cond (z1==10)
 (aSome k fun p_19=>gInt .i64 (add p_19 8) w1 fun z59=>jT [iI 0,iI z59,.string (ByteArray.mk ⟨[]⟩)] w1)
 (jT [iI 7,iI 0,.string (ByteArray.mk ⟨[]⟩)] w1))))))))))):=kR
def B13:Cuts:=⟨2,[],[],[]⟩
def D28:List Item:=A8 Tryz.f47
theorem Gu8 :
 xQ B13 C R Be0 Tryz.f47 D28 [(0,.agg ⟨f⟩)] h =
 nw (.cells D9 false f) h fun b w=>jI b 0 w fun x=>jI b 1 w fun z1=>jI b 2 w fun z2=>jI b 3 w fun z3=>nw (.cells A9 false [.int .u8 (wrap .u8 (x)),.int .u8 (wrap .u8 (z1)),.int .u8 (wrap .u8 (z2)),.int .u8 (wrap .u8 (z3)),.int .u8 179]) w fun p1 w1=>gCells (some ⟨p1,0,none⟩) 5 w1 fun cs=>asBytes cs fun l=>bnd (C Am7 [.string (ByteArray.mk ⟨l⟩)] w1) fun r w2=>aInt .u8 r fun z4=>nw (.cells A9 false [.int .u8 z4,.int .u8 0,.int .u8 0]) w2 fun p2 w3=>gCells (some ⟨p2,0,none⟩) 3 w3 fun cs_1=>asBytes cs_1 fun l_1=>ck (ByteArray.size (ByteArray.mk ⟨l⟩)+ByteArray.size (ByteArray.mk ⟨l_1⟩)≤B3) (some (.string ((ByteArray.mk ⟨l⟩)++(ByteArray.mk ⟨l_1⟩)),w3)):=kR
def Bb2:Cuts:=⟨2,[],[],[]⟩
def B38:List Item:=A8 Tryz.f50
theorem Ev5 :
 xQ Bb2 C R O2 Tryz.f50 B38 [(0,.pointer c),(1,iI i)] h =
 nw (.cells D9 false [iI 0,iI 0,iI 0,iI 0]) h fun b w=>bnd (C A10 [iI i] w) fun r w1=>aAgg r fun x=>bnd (C P7 [.pointer c,.agg ⟨x⟩,.func (.func A12) ⟨[]⟩ ⟨[]⟩] w1) fun q1 w2=>as2 q1 fun q2 q3=>aAgg q2 fun z1=>aI q3 fun z2=>jK 4 b 0 z1 w2 fun w3=>jA b 0 4 w3 fun z3=>jT [.agg ⟨z3⟩,iI z2] w3:=kR
def B27:Cuts:=⟨2,[],[],[]⟩
def D36:List Item:=A8 Tryz.f57
theorem Gx3 (who:Int) (stamp:Int) :
 xQ B27 C R An2 Tryz.f57 D36 [(0,.pointer s),(1,iI who),(2,iI stamp)] h =
 aSome s fun p=>gBool (add p 1) h fun x=>jN x (aSome s fun p_1=>gInt .i64 (add p_1 2) h fun z1=>some (z1==who,h)) h fun c w=>jN c (aSome s fun p_2=>gInt .i64 (add p_2 3) w fun z2=>some (z2==stamp,w)) w fun c_1 w1=>some (.bool c_1,w1):=kR
def Er4:Cuts:=⟨2,[],[],[]⟩
def G09:List Item:=A8 Tryz.f59
theorem Gx9 :
 xQ Er4 C R Ar1 Tryz.f59 G09 [(0,.agg ⟨p⟩)] h =
 nw (.cells B2 false p) h fun b w=>jA b 0 16 w fun x=>bnd (C Aq5 [.agg ⟨x⟩] w) fun r w1=>as2 r fun q1 q2=>aI q1 fun _=>aI q2 fun z2=>some (.bool (decide (z2>1)),w1):=kR
def B67:Cuts:=⟨2,[(1,[1,2,3])],[],[]⟩
def D01:List Item:=A8 Tryz.f64
def A33:List Item:=stk [0,1,4,5] D01
theorem Dz4 :
 xQ B67 C R S9 Tryz.f64 D01 [(0,.agg ⟨p⟩)] h =
 nw (.cells B2 false p) h fun b w=>nw (.cells B2 false zZ1) w fun p1 w1=>R S9 A33 [(1,pP b),(2,pP p1),(3,sN)] w1:=kR
theorem Bi7 (p:Addr) (q:Addr) (caught:Option Addr) (caughtn caughtc:Nat) :
 xQ B67 C R S9 Tryz.f64 A33 [(1,.pointer (some p)),(2,.pointer (some q)),(3,.slice caught caughtn caughtc)] h =
 gAgg p 16 h fun x=>bnd (C Aq5 [.agg ⟨x⟩] h) fun r w=>as2 r fun q1 q2=>aI q1 fun z1=>aI q2 fun z2=>cond (z2==0)
 (gAgg p 16 w fun z3=>ck (List.length z3=16) (pAgg q z3 w fun w1=>gAgg q 16 w1 fun z4=>jT [.agg ⟨z4⟩,.slice caught caughtn caughtc,iI 0] w1))
 (gInt .i64 (add p 4) w fun z5=>ck ((0:Int)≤(wrap .u64 (z1))) (pV (add p 4) (iI (J8 .i64 z5 (wrap .i64 (1*2 ^ (min (Int.toNat (wrap .u64 (z1))) 64))))) w fun w2=>cond (z2==2)
 (nw (.cells B9 false [iI z1]) w2 fun b w3=>gCells (some ⟨b,0,none⟩) (1*1) w3 fun cs=>ckB (fitsOpen caught B9 w3) (apd B9 1 caught caughtn caughtc 1 cs w3 fun a an ac w4=>R S9 A33 [(1,.pointer (some p)),(2,.pointer (some q)),(3,.slice a an ac)] w4))
 (cond (z2==3)
 (pV (add p 0) (iI 3) w2 fun w5=>R S9 A33 [(1,.pointer (some p)),(2,.pointer (some q)),(3,.slice caught caughtn caughtc)] w5)
 (cond (z2==4)
 (gAgg p 16 w2 fun z6=>ck (List.length z6=16) (pAgg q z6 w2 fun w6=>gAgg q 16 w6 fun z7=>jT [.agg ⟨z7⟩,.slice caught caughtn caughtc,iI z1] w6))
 (R S9 A33 [(1,.pointer (some p)),(2,.pointer (some q)),(3,.slice caught caughtn caughtc)] w2))))):=kR
def Bw4:Cuts:=⟨2,[],[],[]⟩
def Dx1:List Item:=A8 Tryz.f68
theorem Gp4 :
 xQ Bw4 C R Ar9 Tryz.f68 Dx1 [(0,.pointer s),(1,iI env)] h =
 bnd (C Al4 [.pointer s,iI env] h) fun r w=>aBool r fun x=>cond (!x)
 (some (sN,w))
 (aSome s fun p=>gSl (add p 0) w fun z1 xn _=>aSome z1 fun p_1=>jR env xn (gPtr (add (B4 p_1) (Int.toNat env*1)) w fun z2=>bnd (C I8 [.pointer z2] w) fun q1 w1=>aSl q1 fun z3 xn_1 xc_1=>some (.slice z3 xn_1 xc_1,w1))):=kR
def D19:Cuts:=⟨2,[],[],[]⟩
def Gb6:List Item:=A8 Tryz.f70
theorem Hv4 :
 xQ D19 C R Au2 Tryz.f70 Gb6 [(0,.slice b bn bc)] h =
 bnd (C W7 [.slice b bn bc,.func (.func Al9) ⟨[]⟩ ⟨[]⟩] h) fun r w=>aBool r fun x=>some (.bool (!x),w):=kR
def D02:Cuts:=⟨2,[],[],[]⟩
def Ga8:List Item:=A8 Tryz.f71
theorem Hy2 :
 xQ D02 C R Bm6 Tryz.f71 Ga8 [] h =
 bnd (C Ay3 [iI 24,.func (.func U8) ⟨[]⟩ ⟨[]⟩,.func (.func Ae2) ⟨[]⟩ ⟨[]⟩] h) fun r w=>aPtr r fun x=>some (.pointer x,w):=kR
def B21:Cuts:=⟨2,[],[],[(4,⟨[0,1,2,3,4,5,6,7,8,9,10,11,12,13,14,15,16],[0,1,3,7,0,0,32,0,128,0,512,2047,4095,8191,8191,16383,65535],[],[]⟩),(6,⟨[0,1,2,3,4,5,6,7,8,9,10,11,12],[0,1,3,7,0,0,32,0,128,0,512,2047,4095],[],[]⟩),(8,⟨[0,1,2,3,4,5,6,7,8,9,10,11,12,13,14,15,16],[0,1,3,7,0,0,32,0,128,0,512,0,2048,0,8192,32767,65535],[],[]⟩)]⟩
def D34:List Item:=A8 Tryz.f77
theorem Gv4 (c:List Value) :
 xQ B21 C R Bd9 Tryz.f77 D34 [(0,.pointer k),(1,iI env),(2,.agg ⟨c⟩)] h =
 nw (.cells A97 false c) h fun b w=>jI b 0 w fun x=>cond (x==1)
 (aSome k fun p=>gPtr (add p 5) w fun z1=>jI b 1 w fun z2=>jI b 2 w fun z3=>jI b 3 w fun z4=>bnd (C Aj5 [.pointer z1,iI env,iI z2,iI z3,iI z4] w) fun r w1=>as2 r fun q1 q2=>aSl q1 fun z5 xn xc=>aI q2 fun z6=>jT [.slice z5 xn xc,iI z6,.bool true] w1)
 (cond (x==2)
 (aSome k fun p_1=>gPtr (add p_1 5) w fun z7=>jI b 1 w fun z8=>jI b 2 w fun z9=>jS b 6 w fun z10 xn_1 xc_1=>bnd (C Ah6 [.pointer z7,iI env,iI z8,iI z9,.slice z10 xn_1 xc_1] w) fun q3 w2=>aI q3 fun z11=>jT [sN,iI z11,.bool true] w2)
 (cond (x==3)
 (aSome k fun p_2=>gPtr (add p_2 5) w fun z12=>jI b 1 w fun z13=>jI b 2 w fun z14=>jI b 4 w fun z15=>jI b 5 w fun z16=>jI b 3 w fun z17=>bnd (C At9 [.pointer z12,iI env,iI z13,iI z14,iI z15,iI z16,iI z17] w) fun q4 w3=>aI q4 fun z18=>jT [sN,iI z18,.bool true] w3)
 (jT [sN,iI 0,.bool false] w))):=kR
def B96:Cuts:=⟨2,[],[],[]⟩
def Ec8:List Item:=A8 Tryz.f91
theorem G33 :
 xQ B96 C R Bj0 Tryz.f91 Ec8 [(0,.pointer s),(1,iI e)] h =
 bnd (C Aq3 [.pointer s,iI e] h) fun r w=>aBool r fun x=>cond (!x)
 (some (sN,w))
 (aSome s fun p=>gSl (add p 0) w fun z1 xn _=>aSome z1 fun p_1=>jR e xn (gPtr (add (B4 p_1) (Int.toNat e*1)) w fun z2=>bnd (C Y9 [.pointer z2] w) fun q1 w1=>aSl q1 fun z3 xn_1 xc_1=>some (.slice z3 xn_1 xc_1,w1))):=kR
def Ds0:Cuts:=⟨2,[],[],[]⟩
def Ew4:List Item:=A8 Tryz.f93
theorem Hm9 :
 xQ Ds0 C R A10 Tryz.f93 Ew4 [(0,iI i)] h =
 nw (.cells E9 false [iI 0,iI 0]) h fun b w=>jW b 0 [iI 2,iI i] w fun w1=>jA b 0 2 w1 fun x=>jG x w1:=kR
def Dr8:Cuts:=⟨2,[],[],[]⟩
def Ex8:List Item:=A8 Tryz.f94
theorem Hn0 :
 xQ Dr8 C R A12 Tryz.f94 Ex8 [(0,.slice b bn bc)] h =
 nw (.cells D9 false [iI 0,iI 0,iI 0,iI 0]) h fun p1 w=>jN ((bn:Int)==8) (bnd (C Au2 [.slice b bn bc] w) fun r w1=>aBool r fun x=>some (x,w1)) w fun c w2=>cond c
 (jW p1 0 [iI 0,iI 0,iI 0,iI 0] w2 fun w3=>jA p1 0 4 w3 fun z1=>jT [.agg ⟨z1⟩,iI 0] w3)
 (bnd (C Bp0 [] w2) fun q1 w4=>aPtr q1 fun z2=>bnd (C Ac1 [.pointer z2,.slice b bn bc] w4) fun q2 w5=>as2 q2 fun q3 q4=>aAgg q3 fun z3=>aBool q4 fun z4=>nw (.cells D9 false [iI 0,iI 0,iI 0,iI 0]) w5 fun p2 w6=>jK 4 p2 0 z3 w6 fun w7=>cond (!z4)
 (jW p1 0 [iI 0,iI 0,iI 0,iI 0] w7 fun w8=>jA p1 0 4 w8 fun z5=>jT [.agg ⟨z5⟩,iI 2] w8)
 (jA p2 0 4 w7 fun z6=>jK 4 p1 0 z6 w7 fun w9=>jA p1 0 4 w9 fun z7=>jT [.agg ⟨z7⟩,iI 1] w9)):=kR
def Dz6:Cuts:=⟨2,[],[],[]⟩
def Ga7:List Item:=A8 Tryz.f97
theorem Hz7 :
 xQ Dz6 C R Au8 Tryz.f97 Ga7 [(0,.slice b bn bc)] h =
 nw (.cells E6 false zZ2) h fun p1 w=>jN ((bn:Int)==40) (bnd (C Au2 [.slice b bn bc] w) fun r w1=>aBool r fun x=>some (x,w1)) w fun c w2=>cond c
 (jW p1 0 zZ2 w2 fun w3=>jA p1 0 36 w3 fun z1=>jT [.agg ⟨z1⟩,iI 0] w3)
 (bnd (C Bx4 [] w2) fun q1 w4=>aPtr q1 fun z2=>bnd (C Ac3 [.pointer z2,.slice b bn bc] w4) fun q2 w5=>as2 q2 fun q3 q4=>aAgg q3 fun z3=>aBool q4 fun z4=>nw (.cells E6 false zZ2) w5 fun p2 w6=>jK 36 p2 0 z3 w6 fun w7=>cond (!z4)
 (jW p1 0 zZ2 w7 fun w8=>jA p1 0 36 w8 fun z5=>jT [.agg ⟨z5⟩,iI 2] w8)
 (jA p2 0 36 w7 fun z6=>jK 36 p1 0 z6 w7 fun w9=>jA p1 0 36 w9 fun z7=>jT [.agg ⟨z7⟩,iI 1] w9)):=kR
def Dt5:Cuts:=⟨2,[(6,[0,4,7,23,24,25])],[],[(9,⟨[0,1,2,4,5,6,7,8,9,10,3,11,12],[0,0,2,7,0,16,48,0,128,384,1008,2047,4095],[(3,[5,9])],[]⟩)]⟩
def Et0:List Item:=A8 Tryz.f105
def Bx8:List Item:=stk [0,1,0,1,0,1,0,0,1,4,5] Et0
theorem In5 :
 xQ Dt5 C R Az8 Tryz.f105 Et0 [(0,.pointer c),(1,iI i)] h =
 nw (.cells B9 false [iI i]) h fun b w=>nw (.cells P3 false [iI 0,iI 0,sN,.bool false]) w fun p1 w1=>jI b 0 w1 fun x=>bnd (C Al3 [.pointer c,iI x] w1) fun r w2=>as2 r fun q1 q2=>aAgg q1 fun z1=>aI q2 fun z2=>nw (.cells B2 false zZ1) w2 fun p2 w3=>jK 16 p2 0 z1 w3 fun w4=>cond (z2 != 0)
 (bnd (C U4 [iI z2] w4) fun q3 w5=>aAgg q3 fun z3=>jK 4 p1 0 z3 w5 fun w6=>jA p1 0 4 w6 fun z4=>jG z4 w6)
 (bnd (C Ad7 [.pointer c,.func (.func Bn7) ⟨[]⟩ ⟨[pP b]⟩] w4) fun q4 w7=>aSl q4 fun z5 xn xc=>R Az8 Bx8 [(0,.pointer c),(4,pP p1),(7,.slice z5 xn xc),(23,.slice z5 xn xc),(24,iI (xn:Int)),(25,iI 0)] w7):=kR
theorem Ez6 (x4:Addr) (x23:Option Addr) (x23n x23c:Nat) (x24:Int) (x25:Int) :
 xQ Dt5 C R Az8 Tryz.f105 Bx8 [(0,.pointer c),(4,.pointer (some x4)),(7,.slice l ln lc),(23,.slice x23 x23n x23c),(24,iI x24),(25,iI x25)] h =
 cond (decide (x25<x24))
 (aSome x23 fun p=>jR x25 x23n (gAgg (add (B4 p) (Int.toNat x25*17)) 17 h fun x=>nw (.cells J7 false zZ4) h fun b w=>jK 17 b 0 x w fun w1=>jA b 0 17 w1 fun z1=>bnd (C An0 [.agg ⟨z1⟩] w1) fun r w2=>aBool r fun z2=>cond (!z2)
 (jI b 0 w2 fun z3=>jI b 0 w2 fun z4=>jI b 4 w2 fun z5=>bnd (C O9 [.pointer c,iI z3] w2) fun q1 w3=>aBool q1 fun z6=>jI b 0 w3 fun z7=>same (iI z4) (iI z7) (jI b 4 w3 fun z8=>same (iI z5) (iI z8) (bnd (C Ag6 [.bool z6,iI (wrap .i64 ((wrap .i64 (256*z4))+z5))] w3) fun q2 w4=>aAgg q2 fun z9=>ck (List.length z9=4) (pAgg x4 z9 w4 fun w5=>gAgg x4 4 w5 fun z10=>jG z10 w5))))
 (R Az8 Bx8 [(0,.pointer c),(4,.pointer (some x4)),(7,.slice l ln lc),(23,.slice x23 x23n x23c),(24,iI x24),(25,iI (wrap .i64 (x25+1)))] w2)))
 (cond ((ln:Int)==0)
 (bnd (C U4 [iI 110] h) fun q3 w6=>aAgg q3 fun z11=>ck (List.length z11=4) (pAgg x4 z11 w6 fun w7=>gAgg x4 4 w7 fun z12=>jG z12 w7))
 (pAgg x4 [iI 0,iI 0,sN,.bool true] h fun w8=>gAgg x4 4 w8 fun z13=>jG z13 w8)):=kR
def Du7:Cuts:=⟨2,[],[(13,[0,1,6,7,8,9])],[]⟩
def Eu9:List Item:=A8 Tryz.f108
def B01:List Item:=stk [0,1,0,1,0,1,0,1,0,4,0] Eu9
theorem Er2 (s:List Value) :
 xQ Du7 C R W9 Tryz.f108 Eu9 [(0,.pointer c),(1,iI i),(2,.agg ⟨s⟩)] h =
 nw (.cells Dd1 false s) h fun b w=>nw (.cells P3 false [iI 0,iI 0,sN,.bool false]) w fun p1 w1=>bnd (C Al3 [.pointer c,iI i] w1) fun r w2=>as2 r fun q1 q2=>aAgg q1 fun x=>aI q2 fun z1=>nw (.cells B2 false zZ1) w2 fun p2 w3=>jK 16 p2 0 x w3 fun w4=>cond (z1 != 0)
 (R W9 B01 [(0,.pointer c),(1,iI i),(6,pP p1),(7,pP p2),(8,iI z1),(9,iI 0)] w4)
 (jI b 0 w4 fun z2=>cond (z2==1)
 (jW p1 0 [iI i,iI 0,sN,.bool false] w4 fun w5=>jA p1 0 4 w5 fun z3=>jG z3 w5)
 (jI b 0 w4 fun z4=>cond (z4==17)
 (jI p2 1 w4 fun z5=>jW p1 0 [iI (wrap .i64 (z5-1)),iI 0,sN,.bool false] w4 fun w6=>jA p1 0 4 w6 fun z6=>jG z6 w6)
 (jI b 0 w4 fun z7=>cond (z7==18)
 (jI p2 2 w4 fun z8=>jW p1 0 [iI z8,iI 0,sN,.bool false] w4 fun w7=>jA p1 0 4 w7 fun z9=>jG z9 w7)
 (jI b 0 w4 fun z10=>cond (z10==6)
 (jA p2 0 16 w4 fun z11=>jI b 1 w4 fun z12=>bnd (C Dk2 [.agg ⟨z11⟩,iI z12] w4) fun q3 w8=>as3 q3 fun q4 q5 q6=>aAgg q4 fun z13=>aI q5 fun z14=>aI q6 fun z15=>jK 16 p2 0 z13 w8 fun w9=>R W9 B01 [(0,.pointer c),(1,iI i),(6,pP p1),(7,pP p2),(8,iI z15),(9,iI z14)] w9)
 (jA p2 0 16 w4 fun z16=>jI b 1 w4 fun z17=>jI b 2 w4 fun z18=>bnd (C Bw6 [.agg ⟨z16⟩,iI z17,iI z18] w4) fun q7 w10=>as2 q7 fun q8 q9=>aAgg q8 fun z19=>aI q9 fun z20=>jK 16 p2 0 z19 w10 fun w11=>R W9 B01 [(0,.pointer c),(1,iI i),(6,pP p1),(7,pP p2),(8,iI z20),(9,iI 0)] w11))))):=kR
theorem Ey9 (x6:Addr) (p:Addr) :
 xQ Du7 C R W9 Tryz.f108 B01 [(0,.pointer c),(1,iI i),(6,.pointer (some x6)),(7,.pointer (some p)),(8,iI e),(9,iI n)] h =
 cond (e != 0)
 (bnd (C A35 [iI e] h) fun r w=>aAgg r fun x=>ck (List.length x=4) (pAgg x6 x w fun w1=>gAgg x6 4 w1 fun z1=>jG z1 w1))
 (gAgg p 16 h fun z2=>bnd (C G8 [.pointer c,iI i,.agg ⟨z2⟩] h) fun q1 w2=>aBool q1 fun z3=>cond (!z3)
 (bnd (C A35 [iI 105] w2) fun q2 w3=>aAgg q2 fun z4=>ck (List.length z4=4) (pAgg x6 z4 w3 fun w4=>gAgg x6 4 w4 fun z5=>jG z5 w4))
 (pAgg x6 [iI n,iI 0,sN,.bool false] w2 fun w5=>gAgg x6 4 w5 fun z6=>jG z6 w5)):=kR
def Di4:Cuts:=⟨2,[(4,[0,8,9,10])],[],[]⟩
def Ed7:List Item:=A8 Tryz.f111
def Br9:List Item:=stk [0,1,0,1,0,0,1,4,5] Ed7
theorem If0 :
 xQ Di4 C R Ad4 Tryz.f111 Ed7 [(0,.slice l ln lc)] h =
 cond (decide ((ln:Int)>32))
 (some (iI 6,h))
 (R Ad4 Br9 [(0,.slice l ln lc),(8,.slice l ln lc),(9,iI (ln:Int)),(10,iI 0)] h):=kR
theorem En4 (x8:Option Addr) (x8n x8c:Nat) :
 xQ Di4 C R Ad4 Tryz.f111 Br9 [(0,.slice l ln lc),(8,.slice x8 x8n x8c),(9,iI x9),(10,iI x10)] h =
 cond (decide (x10<x9))
 (aSome x8 fun p=>jR x10 x8n (gAgg (add (B4 p) (Int.toNat x10*3)) 3 h fun x=>nw (.cells Q9 false [iI 0,iI 0,iI 0]) h fun b w=>jK 3 b 0 x w fun w1=>jA b 0 3 w1 fun z1=>bnd (C Em0 [.agg ⟨z1⟩,iI (wrap .i64 ((wrap .i64 ((ln:Int)-1))-x10))] w1) fun r w2=>aBool r fun z2=>cond (!z2)
 (some (iI 1,w2))
 (R Ad4 Br9 [(0,.slice l ln lc),(8,.slice x8 x8n x8c),(9,iI x9),(10,iI (wrap .i64 (x10+1)))] w2)))
 (some (iI 0,h)):=kR
def Er0:Cuts:=⟨2,[],[],[]⟩
def G02:List Item:=A8 Tryz.f118
theorem Iq2 :
 xQ Er0 C R Al3 Tryz.f118 G02 [(0,.pointer c),(1,iI i)] h =
 nw (.cells B2 false zZ1) h fun b w=>bnd (C D1 [.pointer c] w) fun r w1=>as0 r (bnd (C E4 [.pointer c,iI i] w1) fun q1 w2=>as2 q1 fun q2 q3=>aAgg q2 fun x=>aI q3 fun z1=>nw (.cells B2 false zZ1) w2 fun p1 w3=>jK 16 p1 0 x w3 fun w4=>jO (z1 != 1) w4 (jI p1 0 w4 fun z2=>some (z2 != 1,w4)) fun c_1 w5=>cond c_1
 (jW b 0 zZ1 w5 fun w6=>jA b 0 16 w6 fun z3=>jT [.agg ⟨z3⟩,iI 105] w6)
 (jA p1 0 16 w5 fun z4=>jK 16 b 0 z4 w5 fun w7=>jA b 0 16 w7 fun z5=>jT [.agg ⟨z5⟩,iI 0] w7)):=kR
def Ah4:Cuts:=⟨2,[],[],[]⟩
def A08:List Item:=A8 Tryz.f127
theorem B61 (f:Value) :
 xQ Ah4 C R W7 Tryz.f127 A08 [(0,.slice s sn sc),(1,f)] h =
 bnd (C I7 [.slice s sn sc,f] h) fun r w=>aI r fun x=>some (.bool (decide (x≥0)),w):=kR
def Dg4:Cuts:=⟨2,[],[],[]⟩
def El9:List Item:=A8 Tryz.f128
theorem Hi3 (c:Int) :
 xQ Dg4 C R Al9 Tryz.f128 El9 [(0,.int .u8 c)] h =
 some (.bool (c != 0),h):=kR
def Bj2:Cuts:=⟨2,[],[],[]⟩
def Di1:List Item:=A8 Tryz.f129
theorem E45 (put:Value) (get:Value) :
 xQ Bj2 C R Ay3 Tryz.f129 Di1 [(0,iI size),(1,put),(2,get)] h =
 one put (one get (nw (.cells B59 false [iI (mm2 false (mm2 true size 0) 64),put,get]) h fun b w=>some (pP b,w))):=kR
def D52:Cuts:=⟨2,[(3,[3,8,9])],[],[(4,⟨[0,1,2,3,4,5,6,7,8,9,10],[0,0,2,6,14,0,32,126,255,511,1023],[(5,[4])],[]⟩)]⟩
def Ga2:List Item:=A8 Tryz.f135
def B77:List Item:=stk [0,1,0,1,0,0,1,4,5] Ga2
theorem Iy2 (envs:Int) :
 xQ D52 C R A90 Tryz.f135 Ga2 [(0,iI envs)] h =
 nw (.cells A32 false [sN]) h fun b w=>R A90 B77 [(3,pP b),(8,iI (mm2 false (mm2 true envs 0) 40)),(9,iI 0)] w:=kR
theorem Gb2 (s:Addr) (x8:Int) :
 xQ D52 C R A90 Tryz.f135 B77 [(3,.pointer (some s)),(8,iI x8),(9,iI x9)] h =
 cond (decide (x9<x8))
 (gSl (add s 0) h fun x xn xc=>bnd (C W0 [iI 32] h) fun r w=>aPtr r fun z1=>gSl (add s 0) w fun z2 xn_1 xc_1=>same (.slice x xn xc) (.slice z2 xn_1 xc_1) (nw (.cells L5 false [.pointer z1]) w fun b w1=>gCells (some ⟨b,0,none⟩) (1*1) w1 fun cs=>ckB (fitsOpen x L5 w1) (apd L5 1 x xn xc 1 cs w1 fun a an ac w2=>pV (add s 0) (.slice a an ac) w2 fun w3=>R A90 B77 [(3,.pointer (some s)),(8,iI x8),(9,iI (wrap .i64 (x9+1)))] w3)))
 (some (.pointer (some s),h)):=kR
def As6:Cuts:=⟨2,[],[],[]⟩
def Bi6:List Item:=A8 Tryz.f141
theorem Dx2 (v:Int) :
 xQ As6 C R R0 Tryz.f141 Bi6 [(0,.slice s sn sc),(1,iI v)] h =
 bnd (C L8 [.slice s sn sc,iI v] h) fun r w=>aI r fun x=>some (.bool (decide (x≥0)),w):=kR
def Bv3:Cuts:=⟨2,[],[],[(5,⟨[0,1,2,3,4,5,6,7,9,10,11,12,13,14,8,15,16,17,18,19,20,21],[0,0,0,4,12,28,0,64,252,0,512,1536,3584,0,8192,32764,65533,131069,262141,524287,1048575,2097151],[(8,[12])],[]⟩)]⟩
def Dx8:List Item:=A8 Tryz.f147
theorem Go0 :
 xQ Bv3 C R A89 Tryz.f147 Dx8 [(0,.pointer r),(1,iI lo),(2,iI n)] h =
 aSome r fun p=>gSl (add p 0) h fun _ xn _=>bnd (C An4 [iI lo,iI n,iI (xn:Int)] h) fun q1 w=>aBool q1 fun z1=>cond (!z1)
 (jT [iI 0,iI 1] w)
 (aSome r fun p_1=>gSl (add p_1 1) w fun _ xn_1 _=>cond (decide ((xn_1:Int)≥32))
 (jT [iI 0,iI 4] w)
 (aSome r fun p_2=>gSl (add p_2 1) w fun z3 xn_2 xc_2=>nw (.cells B9 false [iI lo]) w fun b w1=>aSome r fun p_3=>gSl (add p_3 2) w1 fun z4 xn_3 xc_3=>nw (.cells B9 false [iI n]) w1 fun p1 w2=>gCells (some ⟨b,0,none⟩) (1*1) w2 fun cs=>ckB (fitsOpen z3 B9 w2) (apd B9 1 z3 xn_2 xc_2 1 cs w2 fun a an ac w3=>gSl (add p_3 2) w3 fun z5 xn_4 xc_4=>same (.slice z4 xn_3 xc_3) (.slice z5 xn_4 xc_4) (gCells (some ⟨p1,0,none⟩) (1*1) w3 fun cs_1=>ckB (fitsOpen z4 B9 w3) (apd B9 1 z4 xn_3 xc_3 1 cs_1 w3 fun a_1 an_1 ac_1 w4=>aSome r fun p_4=>pV (add p_4 1) (.slice a an ac) w4 fun w5=>aSome r fun p_5=>pV (add p_5 2) (.slice a_1 an_1 ac_1) w5 fun w6=>aSome r fun p_6=>gSl (add p_6 1) w6 fun _ xn_5 _=>jT [iI (wrap .i64 ((xn_5:Int)-1)),iI 0] w6))))):=kR
def Bf8:Cuts:=⟨2,[],[],[]⟩
def Dd4:List Item:=A8 Tryz.f150
theorem Ez2 :
 xQ Bf8 C R Aj5 Tryz.f150 Dd4 [(0,.pointer r),(1,iI env),(2,iI name),(3,iI atv),(4,iI n)] h =
 bnd (C Ah1 [.pointer r,iI env,iI name,iI 1,iI atv,iI n] h) fun q1 w=>as2 q1 fun q2 q3=>aI q2 fun x=>aI q3 fun z1=>cond (z1 != 0)
 (jT [sN,iI z1] w)
 (aSome r fun p=>gPtr (add p 0) w fun z2=>bnd (C Bz9 [.pointer z2,iI x,iI n] w) fun q4 w1=>as2 q4 fun q5 q6=>aSl q5 fun z3 xn xc=>aI q6 fun z4=>jT [.slice z3 xn xc,iI z4] w1):=kR
def Bu1:Cuts:=⟨2,[],[],[]⟩
def Dw2:List Item:=A8 Tryz.f153
theorem Gp8 (give:Int) :
 xQ Bu1 C R A99 Tryz.f153 Dw2 [(0,.pointer s),(1,iI env),(2,iI name),(3,iI to),(4,iI give),(5,iI lo),(6,iI n)] h =
 bnd (C A25 [.pointer s,iI env,iI name] h) fun r w=>as2 r fun q1 q2=>aAgg q1 fun x=>aI q2 fun z1=>nw (.cells W3 false [iI 0,iI 0,iI 0,iI 0,iI 0,iI 0]) w fun b w1=>jK 6 b 0 x w1 fun w2=>cond (z1 != 0)
 (jT [iI 0,iI z1] w2)
 (jI b 1 w2 fun z2=>jO ((D5 .i64 z2 4)==0) w2 (jI b 1 w2 fun z3=>some ((J8 .i64 give z3) != 0,w2)) fun c w3=>cond c
 (jT [iI 0,iI 3] w3)
 (bnd (C Al4 [.pointer s,iI to] w3) fun q3 w4=>aBool q3 fun z4=>jO (!z4) w4 (some (decide (lo<0),w4)) fun c_1 w5=>jO c_1 w5 (some (decide (n<0),w5)) fun c_2 w6=>jO c_2 w6 (jI b 3 w6 fun z5=>some (decide (lo>z5),w6)) fun c_3 w7=>jO c_3 w7 (jI b 3 w7 fun z6=>some (decide (n>(wrap .i64 (z6-lo))),w7)) fun c_4 w8=>cond c_4
 (jT [iI 0,iI 1] w8)
 (jI b 0 w8 fun z7=>jI b 2 w8 fun z8=>bnd (C A19 [.pointer s,iI to,.agg ⟨[iI z7,iI give,iI (wrap .i64 (z8+lo)),iI n,iI env,iI name]⟩] w8) fun q4 w9=>as2 q4 fun q5 q6=>aI q5 fun z9=>aI q6 fun z10=>jT [iI z9,iI z10] w9))):=kR
def Bq7:Cuts:=⟨2,[],[],[]⟩
def Dn9:List Item:=A8 Tryz.f155
theorem Ge3 (s:Int) :
 xQ Bq7 C R A44 Tryz.f155 Dn9 [(0,.pointer q),(1,iI s)] h =
 bnd (C Ap6 [.pointer q,iI s] h) fun r w=>aBool r fun x=>cond (!x)
 (jT [iI 0,iI 1] w)
 (aSome q fun p=>gSl (add p 0) w fun z1 xn _=>aSome z1 fun p_1=>jR s xn (gSl (add (B4 p_1) (Int.toNat s*1)) w fun z2 xn_1 xc_1=>bnd (C L8 [.slice z2 xn_1 xc_1,iI 0] w) fun q1 w1=>aI q1 fun z3=>cond (decide (z3<0))
 (jT [iI 0,iI 4] w1)
 (aSome q fun p_2=>gSl (add p_2 0) w1 fun z4 xn_2 _=>aSome z4 fun p_3=>jR s xn_2 (gSl (add (B4 p_3) (Int.toNat s*1)) w1 fun z5 xn_3 _=>aSome z5 fun p_4=>jR z3 xn_3 (pV (add (B4 p_4) (Int.toNat z3*1)) (iI 1) w1 fun w2=>jT [iI z3,iI 0] w2))))):=kR
def B12:Cuts:=⟨2,[],[],[]⟩
def D35:List Item:=A8 Tryz.f157
theorem Gw0 (c:List Value) :
 xQ B12 C R Be3 Tryz.f157 D35 [(0,.pointer k),(1,iI env),(2,.agg ⟨c⟩)] h =
 nw (.cells A97 false c) h fun b w=>jI b 3 w fun x=>bnd (C A37 [.pointer k,iI env,iI x] w) fun r w1=>as2 r fun q1 q2=>aPtr q1 fun z1=>aI q2 fun z2=>cond (z2 != 0)
 (jT [iI 0,iI z2] w1)
 (aSome k fun p=>gInt .i64 (add p 7) w1 fun z3=>bnd (C D3 [.pointer z1,iI env,iI z3] w1) fun q3 w2=>as2 q3 fun q4 q5=>aI q4 fun z4=>aBool q5 fun _=>jT [iI z4,iI 0] w2):=kR
def Bl0:Cuts:=⟨2,[],[],[(6,⟨[0,1,2,3,4,5,6,7,8,9,10,11,12,13,14,15,16,17,18,19,20,21],[0,0,0,4,15,31,63,127,255,511,1023,2047,4095,8191,4095,20479,53247,118783,249855,524287,1048575,2097151],[],[]⟩),(8,⟨[0,1,2,3,4,5,6,7,8,9,10,11,12,13,14,15,16,17,18,19,20,21,22,23,24,25,26,27,28,29,30],[0,1,0,0,8,24,56,0,128,504,1016,2047,4095,8191,16383,32767,16383,131071,16383,16383,540671,1589247,3686399,16383,8404991,33046527,66600959,134217727,268435455,536870911,1073741823],[],[]⟩),(10,⟨[0,1,2,3,4,5,6,7,8,9,10,11,12,13,14],[0,1,3,7,0,16,63,127,0,256,1023,0,4095,8191,16383],[],[]⟩)]⟩
def Di2:List Item:=A8 Tryz.f159
theorem E32 (right:Int) :
 xQ Bl0 C R Ax1 Tryz.f159 Di2 [(0,.pointer r),(1,iI e),(2,iI name),(3,iI right),(4,iI atv),(5,iI n)] h =
 aSome r fun p=>gPtr (add p 3) h fun x=>bnd (C Bl6 [.pointer x,iI e,iI name] h) fun q1 w=>as2 q1 fun q2 q3=>aAgg q2 fun z1=>aI q3 fun z2=>nw (.cells W3 false [iI 0,iI 0,iI 0,iI 0,iI 0,iI 0]) w fun b w1=>jK 6 b 0 z1 w1 fun w2=>cond (z2 != 0)
 (jT [iI 0,iI z2] w2)
 (jI b 1 w2 fun z3=>cond ((D5 .i64 z3 right)==0)
 (jT [iI 0,iI 3] w2)
 (jI b 3 w2 fun z4=>bnd (C An4 [iI atv,iI n,iI z4] w2) fun q4 w3=>aBool q4 fun z5=>jO (!z5) w3 (jI b 0 w3 fun z6=>some (decide (z6<0),w3)) fun c w4=>jO c w4 (jI b 0 w4 fun z7=>aSome r fun p_1=>gSl (add p_1 1) w4 fun _ xn _=>some (decide (z7≥(xn:Int)),w4)) fun c_1 w5=>cond c_1
 (jT [iI 0,iI 1] w5)
 (jI b 2 w5 fun z9=>aSome r fun p_2=>gSl (add p_2 2) w5 fun z10 xn_1 _=>jI b 0 w5 fun z11=>aSome z10 fun p_3=>jR z11 xn_1 (gInt .i64 (add (B4 p_3) (Int.toNat z11*1)) w5 fun z12=>bnd (C An4 [iI z9,iI atv,iI z12] w5) fun q5 w6=>aBool q5 fun z13=>jO (!z13) w6 (jI b 2 w6 fun z14=>aSome r fun p_4=>gSl (add p_4 2) w6 fun z15 xn_2 _=>jI b 0 w6 fun z16=>aSome z15 fun p_5=>jR z16 xn_2 (gInt .i64 (add (B4 p_5) (Int.toNat z16*1)) w6 fun z17=>bnd (C An4 [iI (wrap .i64 (z14+atv)),iI n,iI z17] w6) fun q6 w7=>aBool q6 fun z18=>some (!z18,w7))) fun c_2 w8=>cond c_2
 (jT [iI 0,iI 1] w8)
 (aSome r fun p_6=>gSl (add p_6 1) w8 fun z19 xn_3 _=>jI b 0 w8 fun z20=>aSome z19 fun p_7=>jR z20 xn_3 (gInt .i64 (add (B4 p_7) (Int.toNat z20*1)) w8 fun z21=>jI b 2 w8 fun z22=>jT [iI (wrap .i64 ((wrap .i64 (z21+z22))+atv)),iI 0] w8)))))):=kR
def B82:Cuts:=⟨2,[],[],[]⟩
def Ec3:List Item:=A8 Tryz.f160
theorem G61 :
 xQ B82 C R Bl6 Tryz.f160 Ec3 [(0,.pointer s),(1,iI e),(2,iI name)] h =
 nw (.cells W3 false [iI 0,iI 0,iI 0,iI 0,iI 0,iI 0]) h fun b w=>bnd (C Aq3 [.pointer s,iI e] w) fun r w1=>aBool r fun x=>jO (!x) w1 (aSome s fun p=>gSl (add p 0) w1 fun z1 xn _=>aSome z1 fun p_1=>jR e xn (gPtr (add (B4 p_1) (Int.toNat e*1)) w1 fun z2=>bnd (C Bk7 [.pointer z2,iI name] w1) fun q1 w2=>aBool q1 fun z3=>some (!z3,w2))) fun c w3=>cond c
 (jW b 0 [iI 0,iI 0,iI 0,iI 0,iI 0,iI 0] w3 fun w4=>jA b 0 6 w4 fun z4=>jT [.agg ⟨z4⟩,iI 2] w4)
 (aSome s fun p_2=>gSl (add p_2 1) w3 fun z5 xn_1 _=>aSome z5 fun p_3=>jR e xn_1 (gSl (add (B4 p_3) (Int.toNat e*1)) w3 fun z6 xn_2 _=>aSome z6 fun p_4=>ck ((0:Int)≤D5 .i64 name 255∧D5 .i64 name 255<(xn_2:Int)) (gAgg (add (B4 p_4) (Int.toNat (D5 .i64 name 255)*6)) 6 w3 fun z7=>jK 6 b 0 z7 w3 fun w5=>jA b 0 6 w5 fun z8=>jT [.agg ⟨z8⟩,iI 0] w5))):=kR
def Ao4:Cuts:=⟨2,[],[],[(4,⟨[0,1,2,3,4,10,5,6,7,8,9,11,12],[0,1,3,7,0,16,63,127,255,255,0,1535,4095],[(5,[3])],[]⟩)]⟩
def Bc8:List Item:=A8 Tryz.f172
theorem Dm2 :
 xQ Ao4 C R Ac1 Tryz.f172 Bc8 [(0,.pointer c),(1,.slice b bn bc)] h =
 nw (.cells D9 false [iI 0,iI 0,iI 0,iI 0]) h fun p1 w=>nw (.cells D9 false [iI 0,iI 0,iI 0,iI 0]) w fun p2 w1=>aSome c fun p=>gFv (add p 2) w1 fun x=>isNilF x fun p3=>jO p3 w1 (aSome c fun p_1=>gInt .i64 (add p_1 0) w1 fun z1=>some ((bn:Int) != z1,w1)) fun c_1 w2=>cond c_1
 (jA p2 0 4 w2 fun z2=>jK 4 p1 0 z2 w2 fun w3=>jA p1 0 4 w3 fun z3=>jT [.agg ⟨z3⟩,.bool false] w3)
 (aSome c fun p_2=>gFv (add p_2 2) w2 fun z4=>nw (.cells D9 false [iI 0,iI 0,iI 0,iI 0]) w2 fun p4 w4=>bnd (C I1 [.slice b bn bc] w4) fun r w5=>aSl r fun z5 xn xc=>gFv (add p_2 2) w5 fun z6=>B00 (z4) (z6) (aFn z4 fun g fi cp=>bnd (C g (fi++([.slice z5 xn xc]++cp)) w5) fun q1 w6=>as2 q1 fun q2 q3=>aAgg q2 fun z7=>aBool q3 fun z8=>jK 4 p4 0 z7 w6 fun w7=>cond (!z8)
 (jA p2 0 4 w7 fun z9=>jK 4 p1 0 z9 w7 fun w8=>jA p1 0 4 w8 fun z10=>jT [.agg ⟨z10⟩,.bool false] w8)
 (jA p4 0 4 w7 fun z11=>jK 4 p1 0 z11 w7 fun w9=>jA p1 0 4 w9 fun z12=>jT [.agg ⟨z12⟩,.bool true] w9))):=kR
def An9:Cuts:=⟨2,[],[],[(4,⟨[0,1,2,3,4,10,5,6,7,8,9,11,12],[0,1,3,7,0,16,63,127,255,255,0,1535,4095],[(5,[3])],[]⟩)]⟩
def Bc3:List Item:=A8 Tryz.f174
theorem Dm5 :
 xQ An9 C R Ac3 Tryz.f174 Bc3 [(0,.pointer c),(1,.slice b bn bc)] h =
 nw (.cells E6 false zZ2) h fun p1 w=>nw (.cells E6 false zZ2) w fun p2 w1=>aSome c fun p=>gFv (add p 2) w1 fun x=>isNilF x fun p3=>jO p3 w1 (aSome c fun p_1=>gInt .i64 (add p_1 0) w1 fun z1=>some ((bn:Int) != z1,w1)) fun c_1 w2=>cond c_1
 (jA p2 0 36 w2 fun z2=>jK 36 p1 0 z2 w2 fun w3=>jA p1 0 36 w3 fun z3=>jT [.agg ⟨z3⟩,.bool false] w3)
 (aSome c fun p_2=>gFv (add p_2 2) w2 fun z4=>nw (.cells E6 false zZ2) w2 fun p4 w4=>bnd (C I1 [.slice b bn bc] w4) fun r w5=>aSl r fun z5 xn xc=>gFv (add p_2 2) w5 fun z6=>B00 (z4) (z6) (aFn z4 fun g fi cp=>bnd (C g (fi++([.slice z5 xn xc]++cp)) w5) fun q1 w6=>as2 q1 fun q2 q3=>aAgg q2 fun z7=>aBool q3 fun z8=>jK 36 p4 0 z7 w6 fun w7=>cond (!z8)
 (jA p2 0 36 w7 fun z9=>jK 36 p1 0 z9 w7 fun w8=>jA p1 0 36 w8 fun z10=>jT [.agg ⟨z10⟩,.bool false] w8)
 (jA p4 0 36 w7 fun z11=>jK 36 p1 0 z11 w7 fun w9=>jA p1 0 36 w9 fun z12=>jT [.agg ⟨z12⟩,.bool true] w9))):=kR
def E24:Cuts:=⟨2,[],[],[(11,⟨[0,1,2,3,4,5,6,7,8,9,10,11,12,13,14,15,16,17,18,19,20,21,22,23,24,25,26,27,28],[0,0,2,6,0,31,63,127,127,383,895,127,2175,6271,14463,32767,65535,131071,262143,262143,786431,1835007,262143,4456447,12845055,29622271,67108863,134217727,268435455],[],[]⟩),(12,⟨[0,1,2,3,4,5,6,7,8,9,10,11,12,13,14,15,17,16,18,19],[0,1,3,0,8,24,0,64,192,448,0,1024,3072,7168,0,17351,50119,0,262143,524287],[(16,[5,12])],[]⟩),(13,⟨[0,1,7,8,9,10,11,12,13,14,2,3,4,5,6,15,16],[0,1,3,3,3,31,63,0,128,384,0,1024,3072,7168,16256,32767,65535],[(5,[9,12])],[]⟩)]⟩
def He3:List Item:=A8 Tryz.f176
theorem Iv3 :
 xQ E24 C R D79 Tryz.f176 He3 [(0,.pointer c),(1,iI i)] h =
 nw (.cells W1 false [.pointer c]) h fun b w=>nw (.cells P3 false [iI 0,iI 0,sN,.bool false]) w fun p1 w1=>jP b 0 w1 fun x=>bnd (C Al3 [.pointer x,iI i] w1) fun r w2=>as2 r fun q1 q2=>aAgg q1 fun z1=>aI q2 fun z2=>nw (.cells B2 false zZ1) w2 fun p2 w3=>jK 16 p2 0 z1 w3 fun w4=>cond (z2 != 0)
 (bnd (C Bl5 [iI z2] w4) fun q3 w5=>aAgg q3 fun z3=>jK 4 p1 0 z3 w5 fun w6=>jA p1 0 4 w6 fun z4=>jG z4 w6)
 (jA p2 0 16 w4 fun z5=>bnd (C Du3 [.agg ⟨z5⟩,iI 2] w4) fun q4 w7=>aSl q4 fun z6 xn _=>cond (decide ((xn:Int)<2))
 (bnd (C Bl5 [iI 124] w7) fun q5 w8=>aAgg q5 fun z7=>jK 4 p1 0 z7 w8 fun w9=>jA p1 0 4 w9 fun z8=>jG z8 w9)
 (bnd (C Ae3 [iI 12,iI 2,.func (.func Bg4) ⟨[]⟩ ⟨[pP b]⟩] w7) fun q6 w10=>aSl q6 fun z9 xn_1 _=>bnd (C Ae3 [iI 4,iI 1,.func (.func Bg7) ⟨[]⟩ ⟨[pP b]⟩] w10) fun q7 w11=>aSl q7 fun z10 xn_2 _=>jO (decide ((xn_1:Int)<2)) w11 (some ((xn_2:Int)==0,w11)) fun c_1 w12=>cond c_1
 (bnd (C Bl5 [iI 123] w12) fun q8 w13=>aAgg q8 fun z11=>jK 4 p1 0 z11 w13 fun w14=>jA p1 0 4 w14 fun z12=>jG z12 w14)
 (jP b 0 w12 fun z13=>aSome z10 fun p=>jR 0 xn_2 (gInt .i64 (add (B4 p) (Int.toNat 0*1)) w12 fun z14=>bnd (C V5 [.pointer z13,iI z14,.agg ⟨[iI 0,iI 0,iI 1,iI 1,.int .u8 0,.int .u8 0,.int .u8 0,.int .u8 0,.int .u8 0,.int .u8 0,.int .u8 0,.int .u8 0,.int .u8 0,.int .u8 0,.int .u8 0,.int .u8 0,.int .u8 0,.int .u8 0,.int .u8 0,.int .u8 0,.int .u8 0,.int .u8 0,.int .u8 0,.int .u8 0,.int .u8 0,.int .u8 0,.int .u8 0,.int .u8 0,.int .u8 0,.int .u8 0,.int .u8 0,.int .u8 0,.int .u8 0,.int .u8 0,.int .u8 0,.int .u8 0]⟩] w12) fun q9 w15=>aBool q9 fun z15=>jN z15 (jP b 0 w15 fun z16=>aSome z9 fun p_1=>jR 0 xn_1 (gInt .i64 (add (B4 p_1) (Int.toNat 0*1)) w15 fun z17=>aSome z10 fun p_2=>jR 0 xn_2 (gInt .i64 (add (B4 p_2) (Int.toNat 0*1)) w15 fun z18=>bnd (C P6 [.pointer z16,iI z17,.agg ⟨[iI 1,iI z18,iI 1,iI 0]⟩] w15) fun q10 w16=>aBool q10 fun z19=>some (z19,w16)))) w15 fun c_2 w17=>jN c_2 (jP b 0 w17 fun z20=>aSome z9 fun p_3=>jR 1 xn_1 (gInt .i64 (add (B4 p_3) (Int.toNat 1*1)) w17 fun z21=>aSome z10 fun p_4=>jR 0 xn_2 (gInt .i64 (add (B4 p_4) (Int.toNat 0*1)) w17 fun z22=>bnd (C P6 [.pointer z20,iI z21,.agg ⟨[iI 2,iI z22,iI 1,iI 0]⟩] w17) fun q11 w18=>aBool q11 fun z23=>some (z23,w18)))) w17 fun c_3 w19=>aSome z6 fun p_5=>jR 0 xn (gInt .i64 (add (B4 p_5) (Int.toNat 0*1)) w19 fun z24=>aSome z6 fun p_6=>jR 1 xn (gInt .i64 (add (B4 p_6) (Int.toNat 1*1)) w19 fun z25=>aSome z9 fun p_7=>jR 0 xn_1 (gInt .i64 (add (B4 p_7) (Int.toNat 0*1)) w19 fun z26=>aSome z9 fun p_8=>jR 1 xn_1 (gInt .i64 (add (B4 p_8) (Int.toNat 1*1)) w19 fun z27=>ck ((0:Int)≤z24∧z24<((8:Nat):Int)) (pV (add ⟨p2,8,none⟩ (Int.toNat z24*1)) (iI (wrap .i64 (z26+1))) w19 fun w20=>gInt .i64 (add (B4 p_6) (Int.toNat 1*1)) w20 fun z28=>same (iI z25) (iI z28) (gInt .i64 (add (B4 p_8) (Int.toNat 1*1)) w20 fun z29=>same (iI z27) (iI z29) (ck ((0:Int)≤z25∧z25<((8:Nat):Int)) (pV (add ⟨p2,8,none⟩ (Int.toNat z25*1)) (iI (wrap .i64 (z27+1))) w20 fun w21=>aSome z6 fun p_9=>jR 0 xn (gInt .i64 (add (B4 p_9) (Int.toNat 0*1)) w21 fun z30=>aSome z6 fun p_10=>jR 1 xn (gInt .i64 (add (B4 p_10) (Int.toNat 1*1)) w21 fun z31=>jN c_3 (jP b 0 w21 fun z32=>jA p2 0 16 w21 fun z33=>bnd (C G8 [.pointer z32,iI i,.agg ⟨z33⟩] w21) fun q12 w22=>aBool q12 fun z34=>gInt .i64 (add (B4 p_9) (Int.toNat 0*1)) w22 fun z35=>same (iI z30) (iI z35) (gInt .i64 (add (B4 p_10) (Int.toNat 1*1)) w22 fun z36=>same (iI z31) (iI z36) (some (z34,w22)))) w21 fun c_4 w23=>bnd (C D82 [.bool c_4,iI (wrap .i64 (z30+(wrap .i64 (16*z31))))] w23) fun q13 w24=>aAgg q13 fun z37=>jK 4 p1 0 z37 w24 fun w25=>jA p1 0 4 w25 fun z38=>jG z38 w25)))))))))))))):=kR
def Eh9:Cuts:=⟨2,[],[],[]⟩
def Gl3:List Item:=A8 Tryz.f195
theorem H31 (how:Int) :
 xQ Eh9 C R Bw6 Tryz.f195 Gl3 [(0,.agg ⟨p⟩),(1,iI n),(2,iI how)] h =
 nw (.cells B2 false p) h fun b w=>nw (.cells B2 false zZ1) w fun p1 w1=>bnd (C Ee2 [iI n] w1) fun r w2=>aBool r fun x=>jO (!x) w2 (ck ((0:Int)≤(wrap .u64 (n))) (some ((D5 .i64 (wrap .i64 (1*2 ^ (min (Int.toNat (wrap .u64 (n))) 64))) 16896) != 0,w2))) fun c w3=>jO c w3 (some (decide (how<0),w3)) fun c_1 w4=>jO c_1 w4 (some (decide (how>2),w4)) fun c_2 w5=>cond c_2
 (jW p1 0 zZ1 w5 fun w6=>jA p1 0 16 w6 fun z1=>jT [.agg ⟨z1⟩,iI 122] w6)
 (ck ((0:Int)≤(wrap .u64 (n))) (jI b 6 w5 fun z2=>jV b 6 (iI (J8 .i64 z2 (wrap .i64 (1*2 ^ (min (Int.toNat (wrap .u64 (n))) 64))))) w5 fun w7=>jI b 7 w7 fun z3=>jV b 7 (iI (J8 .i64 z3 (wrap .i64 (1*2 ^ (min (Int.toNat (wrap .u64 (n))) 64))))) w7 fun w8=>cond (how==1)
 (jI b 6 w8 fun z4=>jV b 6 (iI (Bb7 .i64 z4 (wrap .i64 (1*2 ^ (min (Int.toNat (wrap .u64 (n))) 64))))) w8 fun w9=>jI b 4 w9 fun z5=>jV b 4 (iI (J8 .i64 z5 (wrap .i64 (1*2 ^ (min (Int.toNat (wrap .u64 (n))) 64))))) w9 fun w10=>jA b 0 16 w10 fun z6=>jK 16 p1 0 z6 w10 fun w11=>jA p1 0 16 w11 fun z7=>jT [.agg ⟨z7⟩,iI 0] w11)
 (cond (how==2)
 (jI b 7 w8 fun z8=>jV b 7 (iI (Bb7 .i64 z8 (wrap .i64 (1*2 ^ (min (Int.toNat (wrap .u64 (n))) 64))))) w8 fun w12=>jA b 0 16 w12 fun z9=>jK 16 p1 0 z9 w12 fun w13=>jA p1 0 16 w13 fun z10=>jT [.agg ⟨z10⟩,iI 0] w13)
 (jA b 0 16 w8 fun z11=>jK 16 p1 0 z11 w8 fun w14=>jA p1 0 16 w14 fun z12=>jT [.agg ⟨z12⟩,iI 0] w14)))):=kR
def Ep4:Cuts:=⟨2,[],[],[]⟩
def G03:List Item:=A8 Tryz.f199
theorem Ip5 :
 xQ Ep4 C R Dv0 Tryz.f199 G03 [(0,.agg ⟨p⟩),(1,iI fd)] h =
 nw (.cells B2 false p) h fun b w=>jN (decide (fd≥0)) (some (decide (fd<8),w)) w fun c w1=>jN c (ck ((0:Int)≤fd∧fd<((8:Nat):Int)) (gInt .i64 (add ⟨b,8,none⟩ (Int.toNat fd*1)) w1 fun x=>some (decide (x>0),w1))) w1 fun c_1 w2=>some (.bool c_1,w2):=kR
def E61:Cuts:=⟨2,[],[],[]⟩
def Hd5:List Item:=A8 Tryz.f209
theorem I05 :
 xQ E61 C R D80 Tryz.f209 Hd5 [(0,.agg ⟨p⟩)] h =
 nw (.cells B2 false p) h fun b w=>jI b 0 w fun x=>jO (decide (x<1)) w (jI b 0 w fun z1=>some (decide (z1>3),w)) fun c w1=>jO c w1 (jI b 1 w1 fun z2=>some (decide (z2<0),w1)) fun c_1 w2=>jO c_1 w2 (jI b 1 w2 fun z3=>some (decide (z3>8),w2)) fun c_2 w3=>jO c_2 w3 (jI b 2 w3 fun z4=>some (decide (z4<0),w3)) fun c_3 w4=>jO c_3 w4 (jI b 2 w4 fun z5=>some (decide (z5≥8),w4)) fun c_4 w5=>jO c_4 w5 (jI b 3 w5 fun z6=>some (decide (z6<0),w5)) fun c_5 w6=>jO c_5 w6 (jI b 3 w6 fun z7=>some (decide (z7>255),w6)) fun c_6 w7=>cond c_6
 (some (.bool false,w7))
 (jI b 4 w7 fun z8=>bnd (C Ar5 [iI z8,iI 0] w7) fun r w8=>aBool r fun z9=>jO (!z9) w8 (jI b 5 w8 fun z10=>bnd (C Ar5 [iI z10,iI 16896] w8) fun q1 w9=>aBool q1 fun z11=>some (!z11,w9)) fun c_7 w10=>jO c_7 w10 (jI b 6 w10 fun z12=>bnd (C Ar5 [iI z12,iI 16896] w10) fun q2 w11=>aBool q2 fun z13=>some (!z13,w11)) fun c_8 w12=>jO c_8 w12 (jI b 7 w12 fun z14=>bnd (C Ar5 [iI z14,iI 16896] w12) fun q3 w13=>aBool q3 fun z15=>some (!z15,w13)) fun c_9 w14=>jO c_9 w14 (jI b 6 w14 fun z16=>jI b 7 w14 fun z17=>some ((D5 .i64 z16 z17) != 0,w14)) fun c_10 w15=>cond c_10
 (some (.bool false,w15))
 (ckB (liveA ⟨b,8,none⟩ w15) (bnd (C I4 [.slice (E5 (some ⟨b,8,none⟩) (decide (0<8)) (0*1)) (8-0) (8-0),.func (.func Bu7) ⟨[]⟩ ⟨[]⟩] w15) fun q4 w16=>aBool q4 fun z18=>cond z18
 (some (.bool false,w16))
 (jI b 0 w16 fun z19=>cond (z19==2)
 (jI b 4 w16 fun z20=>jN (z20==0) (jA b 8 8 w16 fun z21=>Dt0 PR Hn4 z21 [iI 0,iI 0,iI 0,iI 0,iI 0,iI 0,iI 0,iI 0] fun eq=>some (eq,w16)) w16 fun c_11 w17=>some (.bool c_11,w17))
 (jI b 3 w16 fun z22=>some (.bool (z22==0),w16)))))):=kR
def Ef9:Cuts:=⟨2,[],[],[]⟩
def Gl5:List Item:=A8 Tryz.f210
theorem Ia1 :
 xQ Ef9 C R Bv1 Tryz.f210 Gl5 [(0,.slice b bn bc),(1,iI atv),(2,iI n)] h =
 jO (decide (atv<0)) h (some (decide (atv>(wrap .i64 ((bn:Int)-2))),h)) fun c w=>jO c w (some (decide (n<0),w)) fun c_1 w1=>jO c_1 w1 (some (decide (n>65535),w1)) fun c_2 w2=>cond c_2
 (some (.bool false,w2))
 (aSome b fun p=>jR atv bn (pV (add (B4 p) (Int.toNat atv*1)) (.int .u8 (wrap .u8 (Int.fdiv n (2 ^ 8)))) w2 fun w3=>aSome b fun p_1=>ck ((0:Int)≤wrap .i64 (atv+1)∧wrap .i64 (atv+1)<(bn:Int)) (pV (add (B4 p_1) (Int.toNat (wrap .i64 (atv+1))*1)) (.int .u8 (wrap .u8 (n))) w3 fun w4=>some (.bool true,w4)))):=kR
def Dt7:Cuts:=⟨2,[(3,[3,9,10,11])],[],[]⟩
def Er5:List Item:=A8 Tryz.f211
def B05:List Item:=stk [0,1,0,1,0,0,1,4,5] Er5
theorem Il4 :
 xQ Dt7 C R Ag9 Tryz.f211 Er5 [(0,.slice b bn bc)] h =
 R Ag9 B05 [(3,.int .u8 (wrap .u8 ((bn:Int)))),(9,.slice b bn bc),(10,iI (bn:Int)),(11,iI 0)] h:=kR
theorem Ey4 (x9:Option Addr) (x9n x9c:Nat) (x11:Int) :
 xQ Dt7 C R Ag9 Tryz.f211 B05 [(3,.int .u8 n),(9,.slice x9 x9n x9c),(10,iI x10),(11,iI x11)] h =
 cond (decide (x11<x10))
 (aSome x9 fun p=>jR x11 x9n (gInt .u8 (add (B4 p) (Int.toNat x11*1)) h fun x=>R Ag9 B05 [(3,.int .u8 (wrap .u8 (n+x))),(9,.slice x9 x9n x9c),(10,iI x10),(11,iI (wrap .i64 (x11+1)))] h))
 (some (.int .u8 n,h)):=kR
def Ef0:Cuts:=⟨2,[],[],[(3,⟨[0,1,2,3,4,5,6,7,8,9,10,11,12,13,14],[0,0,3,7,15,31,0,0,128,448,960,1984,4095,8191,16383],[],[]⟩)]⟩
def Gg8:List Item:=A8 Tryz.f212
theorem Ih2 :
 xQ Ef0 C R Dh9 Tryz.f212 Gg8 [(0,.slice b bn bc),(1,iI atv)] h =
 jO (decide (atv<0)) h (some (decide (atv>(wrap .i64 ((bn:Int)-2))),h)) fun c w=>cond c
 (jT [iI 0,.bool false] w)
 (aSome b fun p=>jR atv bn (gInt .u8 (add (B4 p) (Int.toNat atv*1)) w fun x=>aSome b fun p_1=>ck ((0:Int)≤wrap .i64 (atv+1)∧wrap .i64 (atv+1)<(bn:Int)) (gInt .u8 (add (B4 p_1) (Int.toNat (wrap .i64 (atv+1))*1)) w fun z1=>jT [iI (Bb7 .i64 (wrap .i64 ((wrap .i64 (x))*2 ^ 8)) (wrap .i64 (z1))),.bool true] w))):=kR
def A47:Cuts:=⟨2,[(3,[3,15,16])],[],[]⟩
def Bp9:List Item:=A8 Tryz.f217
def Ar2:List Item:=stk [0,1,0,1,0,0,1,4,5] Bp9
theorem Gd9 :
 xQ A47 C R W0 Tryz.f217 Bp9 [(0,iI size)] h =
 ck ((0:Int)≤mm2 false (mm2 true size 0) 256∧(mm2 false (mm2 true size 0) 256:Int)≤mm2 false (mm2 true size 0) 256∧mm2 false (mm2 true size 0) 256≤(B3:Int)) (nw (.cells At8 false (G9 (Int.toNat (mm2 false (mm2 true size 0) 256)) [iI 0,iI 0,iI 0,iI 0,iI 0,iI 0,iI 0,.bool false])) h fun b w=>nw (.cells Dd3 false [.slice (some ⟨b,0,none⟩) (Int.toNat (mm2 false (mm2 true size 0) 256)) (Int.toNat (mm2 false (mm2 true size 0) 256))]) w fun p1 w1=>jS p1 0 w1 fun _ xn _=>R W0 Ar2 [(3,pP p1),(15,iI (xn:Int)),(16,iI 0)] w1):=kR
theorem B58 (t:Addr) (x15:Int) (x16:Int) :
 xQ A47 C R W0 Tryz.f217 Ar2 [(3,.pointer (some t)),(15,iI x15),(16,iI x16)] h =
 cond (decide (x16<x15))
 (gSl (add t 0) h fun x xn _=>aSome x fun p=>jR x16 xn (pV (add (add (B4 p) (Int.toNat x16*8)) 6) (iI 1) h fun w=>R W0 Ar2 [(3,.pointer (some t)),(15,iI x15),(16,iI (wrap .i64 (x16+1)))] w))
 (some (.pointer (some t),h)):=kR
def Dq3:Cuts:=⟨2,[],[],[]⟩
def Ey2:List Item:=A8 Tryz.f218
theorem Hk8 :
 xQ Dq3 C R Be6 Tryz.f218 Ey2 [(0,.pointer m)] h =
 aSome m fun p=>gSl (add p 0) h fun _ xn _=>some (iI (xn:Int),h):=kR
def Do3:Cuts:=⟨2,[],[],[]⟩
def Ey3:List Item:=A8 Tryz.f223
theorem Hk6 :
 xQ Do3 C R Bz9 Tryz.f223 Ey3 [(0,.pointer m),(1,iI atv),(2,iI n)] h =
 bnd (C Bx2 [.pointer m,iI atv,iI n] h) fun r w=>aBool r fun x=>cond (!x)
 (jT [sN,iI 1] w)
 (aSome m fun p=>gSl (add p 0) w fun z1 _ xc=>ckB (fitsOpen z1 A9 w) (ck ((0:Int)≤wrap .i64 (atv+n)∧wrap .i64 (atv+n)≤(xc:Int)) (ck ((0:Int)≤atv∧atv≤((Int.toNat (wrap .i64 (atv+n)):Nat):Int)) (bnd (C I1 [.slice (E5 z1 (decide (Int.toNat atv<xc)) ((Int.toNat atv)*1)) ((Int.toNat (wrap .i64 (atv+n)))-(Int.toNat atv)) (xc-(Int.toNat atv))] w) fun q1 w1=>aSl q1 fun z2 xn_1 xc_1=>jT [.slice z2 xn_1 xc_1,iI 0] w1)))):=kR
def Db0:Cuts:=⟨2,[],[],[]⟩
def Ec4:List Item:=A8 Tryz.f228
theorem G76 (s:Int) :
 xQ Db0 C R Ap6 Tryz.f228 Ec4 [(0,.pointer q),(1,iI s)] h =
 jN (decide (s≥0)) (aSome q fun p=>gSl (add p 0) h fun _ xn _=>some (decide (s<(xn:Int)),h)) h fun c w=>some (.bool c,w):=kR
def Bu3:Cuts:=⟨2,[],[],[]⟩
def Dw8:List Item:=A8 Tryz.f229
theorem Gf6 (s:Int) (k:Int) :
 xQ Bu3 C R A86 Tryz.f229 Dw8 [(0,.pointer q),(1,iI s),(2,iI k)] h =
 bnd (C Ap6 [.pointer q,iI s] h) fun r w=>aBool r fun x=>jN x (some (decide (k≥0),w)) w fun c w1=>jN c (aSome q fun p=>gSl (add p 0) w1 fun z1 xn _=>aSome z1 fun p_1=>jR s xn (gSl (add (B4 p_1) (Int.toNat s*1)) w1 fun _ xn_1 _=>some (decide (k<(xn_1:Int)),w1))) w1 fun c_1 w2=>jN c_1 (aSome q fun p_2=>gSl (add p_2 0) w2 fun z3 xn_2 _=>aSome z3 fun p_3=>jR s xn_2 (gSl (add (B4 p_3) (Int.toNat s*1)) w2 fun z4 xn_3 _=>aSome z4 fun p_4=>jR k xn_3 (gInt .i64 (add (B4 p_4) (Int.toNat k*1)) w2 fun z5=>some (decide (z5>0),w2)))) w2 fun c_2 w3=>some (.bool c_2,w3):=kR
def E44:Cuts:=⟨2,[],[],[(5,⟨[0,1,2,3,4],[0,1,0,4,15],[],[]⟩)]⟩
def Hg4:List Item:=A8 Tryz.f241
theorem Iv2 :
 xQ E44 C R By3 Tryz.f241 Hg4 [(0,.agg ⟨p⟩),(1,.slice b bn bc)] h =
 nw (.cells E6 false p) h fun p1 w=>jA p1 0 36 w fun x=>bnd (C Dx7 [.agg ⟨x⟩] w) fun r w1=>aBool r fun z1=>cond (!z1)
 (some (.bool false,w1))
 (jI p1 0 w1 fun z2=>jI p1 1 w1 fun z3=>jI p1 2 w1 fun z4=>jI p1 3 w1 fun z5=>nw (.cells A9 false [.int .u8 1,.int .u8 (wrap .u8 (z2)),.int .u8 (wrap .u8 (z3)),.int .u8 (wrap .u8 (z4)),.int .u8 (wrap .u8 (z5)),.int .u8 197]) w1 fun p2 w2=>gCells (some ⟨p2,0,none⟩) (min 6 bn*1) w2 fun cs=>pCells b cs w2 fun w3=>ckB (fitsOpen b A9 w3) (ck ((0:Int)≤6∧6≤(bc:Int)) (bnd (C Ag9 [.slice (E5 b (decide (0<bc)) (0*1)) ((Int.toNat 6)-0) (bc-0)] w3) fun q1 w4=>aInt .u8 q1 fun z6=>aSome b fun p_1=>jR 6 bn (pV (add (B4 p_1) (Int.toNat 6*1)) (.int .u8 z6) w4 fun w5=>ckB (fitsOpen b A9 w5) (ck ((0:Int)≤8∧8≤(bn:Int)) (ckB (liveA ⟨p1,4,none⟩ w5) (gCells (E5 (some ⟨p1,4,none⟩) (decide (0<32)) (0*1)) (min (32-0) (bn-(Int.toNat 8))*1) w5 fun cs_1=>pCells (E5 b (decide (Int.toNat 8<bc)) ((Int.toNat 8)*1)) cs_1 w5 fun w6=>some (.bool true,w6)))))))):=kR
def Ei8:Cuts:=⟨2,[],[],[]⟩
def Gk9:List Item:=A8 Tryz.f246
theorem H72 (k:Int) :
 xQ Ei8 C R Bg4 Tryz.f246 Gk9 [(0,iI k),(1,.pointer (some fv0))] h =
 gPtr fv0 h fun x=>bnd (C O2 [.pointer x,iI k] h) fun r w=>as2 r fun q1 q2=>aAgg q1 fun z1=>aI q2 fun z2=>nw (.cells D9 false [iI 0,iI 0,iI 0,iI 0]) w fun b w1=>jK 4 b 0 z1 w1 fun w2=>some (.bool (z2==0),w2):=kR
def Ep7:Cuts:=⟨2,[],[],[(9,⟨[0,1,2,3,4,5],[0,0,0,6,15,31],[(3,[0])],[]⟩)]⟩
def G12:List Item:=A8 Tryz.f251
theorem Ii8 :
 xQ Ep7 C R Du9 Tryz.f251 G12 [(0,.pointer c),(1,iI i),(2,iI fd),(3,iI n)] h =
 nw (.cells D9 false [iI 0,iI 0,iI 0,iI 0]) h fun b w=>bnd (C Eb9 [.pointer c,iI i,iI fd] w) fun r w1=>as3 r fun q1 q2 q3=>aI q1 fun _=>aAgg q2 fun z1=>aI q3 fun z2=>nw (.cells D9 false [iI 0,iI 0,iI 0,iI 0]) w1 fun p1 w2=>jK 4 p1 0 z1 w2 fun w3=>cond (z2 != 0)
 (jA p1 0 4 w3 fun z3=>jK 4 b 0 z3 w3 fun w4=>jA b 0 4 w4 fun z4=>jT [.agg ⟨z4⟩,iI z2] w4)
 (jI p1 0 w3 fun z5=>cond (z5==2)
 (jA p1 0 4 w3 fun z6=>jK 4 b 0 z6 w3 fun w5=>jA b 0 4 w5 fun z7=>jT [.agg ⟨z7⟩,iI 109] w5)
 (jO (decide (n<0)) w3 (some (decide (n>32),w3)) fun c_1 w6=>cond c_1
 (jA p1 0 4 w6 fun z8=>jK 4 b 0 z8 w6 fun w7=>jA b 0 4 w7 fun z9=>jT [.agg ⟨z9⟩,iI 122] w7)
 (jI p1 0 w6 fun z10=>cond (z10==3)
 (jA p1 0 4 w6 fun z11=>bnd (C Hx7 [.pointer c,iI i] w6) fun q4 w8=>aI q4 fun z12=>jA p1 0 4 w8 fun z13=>same (.agg ⟨z11⟩) (.agg ⟨z13⟩) (jK 4 b 0 z11 w8 fun w9=>jA b 0 4 w9 fun z14=>jT [.agg ⟨z14⟩,iI z12] w9))
 (jA p1 0 4 w6 fun z15=>jK 4 b 0 z15 w6 fun w10=>jA b 0 4 w10 fun z16=>jT [.agg ⟨z16⟩,iI 0] w10)))):=kR
def Ei0:Cuts:=⟨2,[],[],[]⟩
def Gj3:List Item:=A8 Tryz.f252
theorem Id1 :
 xQ Ei0 C R As2 Tryz.f252 Gj3 [(0,iI e)] h =
 nw (.cells P3 false [iI 0,iI 0,sN,.bool false]) h fun b w=>jW b 0 [iI 0,iI e,sN,.bool false] w fun w1=>jA b 0 4 w1 fun x=>jG x w1:=kR
def D03:Cuts:=⟨2,[],[],[]⟩
def Gc9:List Item:=A8 Tryz.f254
theorem Hz6 :
 xQ D03 C R Bo1 Tryz.f254 Gc9 [(0,.agg ⟨f⟩)] h =
 nw (.cells D9 false f) h fun b w=>nw (.cells P3 false [iI 0,iI 0,sN,.bool false]) w fun p1 w1=>jI b 3 w1 fun x=>cond (x==1)
 (bnd (C As2 [iI 111] w1) fun r w2=>aAgg r fun z1=>jK 4 p1 0 z1 w2 fun w3=>jA p1 0 4 w3 fun z2=>jG z2 w3)
 (jW p1 0 [iI 0,iI 0,sN,.bool true] w1 fun w4=>jA p1 0 4 w4 fun z3=>jG z3 w4):=kR
def Da5:Cuts:=⟨2,[],[],[]⟩
def Ee8:List Item:=A8 Tryz.f261
theorem G71 (x:List Value) :
 xQ Da5 C R A24 Tryz.f261 Ee8 [(0,.agg ⟨x⟩),(1,.pointer (some fv0))] h =
 nw (.cells J7 false x) h fun b w=>jA b 0 17 w fun z1=>bnd (C An0 [.agg ⟨z1⟩] w) fun r w1=>aBool r fun z2=>jN z2 (jI b 3 w1 fun z3=>gInt .i64 fv0 w1 fun z4=>some (z3==(wrap .i64 (z4-8)),w1)) w1 fun c w2=>some (.bool c,w2):=kR
def G26:Cuts:=⟨2,[],[],[]⟩
def Ie3:List Item:=A8 Tryz.f262
theorem Jo4 :
 xQ G26 C R Ee2 Tryz.f262 Ie3 [(0,iI n)] h =
 jN (decide (n≥1)) (some (decide (n≤15),h)) h fun c w=>some (.bool c,w):=kR
def A30:Cuts:=⟨2,[],[],[]⟩
def Bv0:List Item:=A8 Tryz.f277
theorem Eg6 (t:Option Addr) :
 xQ A30 C R Am3 Tryz.f277 Bv0 [(0,.pointer t),(1,iI name)] h =
 jO (decide (name<0)) h (aSome t fun p=>gSl (add p 0) h fun _ xn _=>some (decide ((D5 .i64 name 255)≥(xn:Int)),h)) fun c w=>jO c w (aSome t fun p_1=>gSl (add p_1 0) w fun z1 xn_1 _=>aSome z1 fun p_2=>ck ((0:Int)≤D5 .i64 name 255∧D5 .i64 name 255<(xn_1:Int)) (gBool (add (add (B4 p_2) (Int.toNat (D5 .i64 name 255)*8)) 7) w fun z2=>some (!z2,w))) fun c_1 w1=>jO c_1 w1 (bnd (C S8 [.pointer t,iI (D5 .i64 name 255)] w1) fun r w2=>aI r fun z3=>some (z3 != name,w2)) fun c_2 w3=>cond c_2
 (some (.pointer none,w3))
 (aSome t fun p_3=>gSl (add p_3 0) w3 fun z4 xn_2 _=>aSome z4 fun p_4=>ck ((0:Int)≤D5 .i64 name 255∧D5 .i64 name 255<(xn_2:Int)) (some (.pointer (some (add (B4 p_4) (Int.toNat (D5 .i64 name 255)*8))),w3))):=kR
def Dr7:Cuts:=⟨2,[],[],[(1,⟨[1,0,2,3,4,5,6],[0,0,3,7,7,31,63],[(0,[1])],[]⟩)]⟩
def Ez7:List Item:=A8 Tryz.f279
theorem Hl6 :
 xQ Dr7 C R Bg8 Tryz.f279 Ez7 [(0,.agg ⟨f⟩)] h =
 nw (.cells D9 false f) h fun b w=>jA b 0 4 w fun x=>bnd (C Bp0 [] w) fun r w1=>aPtr r fun z1=>jA b 0 4 w1 fun z2=>same (.agg ⟨x⟩) (.agg ⟨z2⟩) (bnd (C Ab9 [.pointer z1,.agg ⟨x⟩] w1) fun q1 w2=>as2 q1 fun q2 q3=>aSl q2 fun z3 xn xc=>aBool q3 fun z4=>jT [.slice z3 xn xc,.bool z4] w2):=kR
def Eb6:Cuts:=⟨2,[],[],[]⟩
def Gk6:List Item:=A8 Tryz.f285
theorem H13 (fv1:Addr) :
 xQ Eb6 C R Bf9 Tryz.f285 Gk6 [(0,.agg ⟨p⟩),(1,.pointer (some fv0)),(2,.pointer (some fv1))] h =
 nw (.cells E6 false p) h fun b w=>gPtr fv0 w fun x=>gInt .i64 (add fv1 1) w fun z1=>jA b 0 36 w fun z2=>bnd (C V5 [.pointer x,iI z1,.agg ⟨z2⟩] w) fun r w1=>aBool r fun z3=>some (.bool z3,w1):=kR
def Ao2:Cuts:=⟨2,[],[],[(2,⟨[0,1,2,3,4,5,6,7,8,9,10,11,12,13,14],[0,1,3,7,15,31,63,127,255,511,63,63,4095,8191,16383],[],[]⟩)]⟩
def Bc5:List Item:=A8 Tryz.f292
theorem Dn1 (v:List Value) :
 xQ Ao2 C R Ac5 Tryz.f292 Bc5 [(0,.pointer c),(1,.agg ⟨v⟩)] h =
 nw (.cells E6 false v) h fun b w=>aSome c fun p=>gInt .i64 (add p 0) w fun x=>ck ((0:Int)≤x∧(x:Int)≤x∧x≤(B3:Int)) (nw (.cells A9 false (G9 (Int.toNat x) [.int .u8 0])) w fun p1 w1=>aSome c fun p_1=>gFv (add p_1 1) w1 fun z1=>isNilF z1 fun p2=>jO p2 w1 (aSome c fun p_2=>gFv (add p_2 1) w1 fun z2=>jA b 0 36 w1 fun z3=>aFn z2 fun g fi cp=>bnd (C g (fi++([.agg ⟨z3⟩,.slice (some ⟨p1,0,none⟩) (Int.toNat x) (Int.toNat x)]++cp)) w1) fun r w2=>aBool r fun z4=>some (!z4,w2)) fun c_1 w3=>cond c_1
 (jT [sN,.bool false] w3)
 (jT [.slice (some ⟨p1,0,none⟩) (Int.toNat x) (Int.toNat x),.bool true] w3)):=kR
end
end Go.EQ
