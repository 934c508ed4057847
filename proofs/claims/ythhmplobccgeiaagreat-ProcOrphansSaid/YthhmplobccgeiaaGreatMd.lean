/- Orphans -/
import Derived.Test.YthhmplobccgeiaaGreatMc
import Derived.Test.YthhmplobccgeiaaGreatProg
import Derived.KernelRfl
set_option linter.all false
namespace Go.EQ
open Go Go.NN Go.Proofs
noncomputable abbrev PR:Program:=Tryz.prog
abbrev P3:FuncId:=7
abbrev Bj3:FuncId:=13
abbrev B04:FuncId:=14
abbrev Br8:FuncId:=15
abbrev Ae5:FuncId:=17
abbrev Aa7:FuncId:=18
abbrev U4:FuncId:=20
abbrev U1:FuncId:=22
abbrev E4:FuncId:=23
abbrev L5:FuncId:=24
abbrev J9:FuncId:=25
abbrev U6:FuncId:=28
abbrev Af0:FuncId:=31
abbrev Bc2:FuncId:=32
abbrev A19:FuncId:=35
abbrev O9:FuncId:=36
abbrev Bq8:FuncId:=37
abbrev Bc9:FuncId:=38
abbrev Ab8:FuncId:=39
abbrev A09:FuncId:=40
abbrev Ak1:FuncId:=48
abbrev Ai1:FuncId:=49
abbrev J6:FuncId:=50
abbrev I3:FuncId:=51
abbrev G8:FuncId:=52
abbrev Bb8:FuncId:=53
abbrev As2:FuncId:=54
abbrev Ax4:FuncId:=55
abbrev An1:FuncId:=56
abbrev Al1:FuncId:=57
abbrev Ba6:FuncId:=58
abbrev L0:FuncId:=59
abbrev As4:FuncId:=60
abbrev I6:FuncId:=61
abbrev Aw8:FuncId:=62
abbrev Ab7:FuncId:=63
abbrev A94:FuncId:=64
abbrev Ag0:FuncId:=65
abbrev A29:FuncId:=67
abbrev Ax0:FuncId:=68
abbrev L7:FuncId:=69
abbrev As3:FuncId:=70
abbrev A40:FuncId:=71
abbrev A55:FuncId:=72
abbrev Q7:FuncId:=73
abbrev A59:FuncId:=74
abbrev As7:FuncId:=75
abbrev Ao2:FuncId:=76
abbrev P8:FuncId:=77
abbrev A37:FuncId:=78
abbrev Bk7:FuncId:=79
abbrev Aa8:FuncId:=80
abbrev Ar0:FuncId:=81
abbrev H0:FuncId:=82
abbrev Aa6:FuncId:=83
abbrev L8:FuncId:=84
abbrev A56:FuncId:=85
abbrev U9:FuncId:=86
abbrev Ac0:FuncId:=87
abbrev Ab0:FuncId:=88
abbrev Ba7:FuncId:=89
abbrev An3:FuncId:=90
abbrev E0:FuncId:=91
abbrev W2:FuncId:=107
abbrev S5:FuncId:=108
abbrev An5:FuncId:=109
abbrev S7:FuncId:=110
abbrev Bb9:FuncId:=111
abbrev W1:FuncId:=112
abbrev Dt4:FuncId:=113
abbrev A00:FuncId:=114
abbrev Ar9:FuncId:=115
abbrev By5:FuncId:=116
abbrev Dh7:FuncId:=117
abbrev Ao0:FuncId:=118
abbrev P6:FuncId:=119
abbrev N3:FuncId:=120
abbrev A87:FuncId:=121
abbrev Aa2:FuncId:=122
abbrev O0:FuncId:=123
abbrev Aa5:FuncId:=124
abbrev Bj9:FuncId:=125
abbrev Ay5:FuncId:=126
abbrev A71:FuncId:=127
abbrev A77:FuncId:=128
abbrev Ax1:FuncId:=129
abbrev Eg2:FuncId:=130
abbrev Aq9:FuncId:=131
abbrev Eh1:FuncId:=132
abbrev Ej8:FuncId:=133
abbrev Eg7:FuncId:=134
abbrev En1:FuncId:=135
abbrev Ew8:FuncId:=136
abbrev Dw5:FuncId:=137
abbrev Ex0:FuncId:=138
abbrev Ev3:FuncId:=139
abbrev A88:FuncId:=140
abbrev Af5:FuncId:=141
abbrev G7:FuncId:=142
abbrev Bg8:FuncId:=143
abbrev V7:FuncId:=144
abbrev Q6:FuncId:=145
abbrev O2:FuncId:=146
abbrev Am6:FuncId:=147
abbrev V8:FuncId:=148
abbrev Ad0:FuncId:=149
abbrev Ab4:FuncId:=150
abbrev Al9:FuncId:=151
abbrev Ay1:FuncId:=152
abbrev Eg3:FuncId:=153
abbrev Av0:FuncId:=154
abbrev Az3:FuncId:=155
abbrev A39:FuncId:=156
abbrev A27:FuncId:=157
abbrev Bc4:FuncId:=158
abbrev V5:FuncId:=159
abbrev V9:FuncId:=160
abbrev Bc1:FuncId:=161
abbrev V4:FuncId:=162
abbrev Ab1:FuncId:=163
abbrev Bj1:FuncId:=164
abbrev H1:FuncId:=165
abbrev V6:FuncId:=166
abbrev Az1:FuncId:=167
abbrev Ac2:FuncId:=172
abbrev Ac3:FuncId:=173
abbrev H3:FuncId:=174
abbrev G3:FuncId:=175
abbrev Bx5:FuncId:=176
abbrev P5:FuncId:=177
abbrev A52:FuncId:=178
abbrev H9:FuncId:=179
abbrev Al4:FuncId:=180
abbrev Au1:FuncId:=181
abbrev Z8:FuncId:=182
abbrev Ag7:FuncId:=183
abbrev Ai9:FuncId:=184
abbrev A93:FuncId:=185
abbrev Ap5:FuncId:=186
abbrev Ba1:FuncId:=187
abbrev Q9:FuncId:=194
abbrev N9:FuncId:=195
abbrev An9:FuncId:=196
abbrev Bl4:FuncId:=197
abbrev Bk9:FuncId:=198
abbrev Q1:FuncId:=199
abbrev Ag5:FuncId:=200
abbrev Aa9:FuncId:=201
abbrev Be3:FuncId:=202
abbrev Au5:FuncId:=203
abbrev Aj7:FuncId:=206
abbrev Ax3:FuncId:=207
abbrev Au2:FuncId:=208
abbrev D9:FuncId:=209
abbrev A30:FuncId:=210
abbrev Ap0:FuncId:=211
abbrev O4:FuncId:=212
abbrev W7:FuncId:=213
abbrev Ap8:FuncId:=214
abbrev Ar8:FuncId:=215
abbrev Ar6:FuncId:=216
abbrev E6:FuncId:=217
abbrev I5:FuncId:=218
abbrev W3:FuncId:=219
abbrev A74:FuncId:=220
abbrev Dt7:FuncId:=223
abbrev E3:FuncId:=224
abbrev G6:FuncId:=225
abbrev Ad9:FuncId:=226
abbrev Af4:FuncId:=229
abbrev A33:FuncId:=230
abbrev Dj9:FuncId:=231
abbrev Bi1:FuncId:=232
abbrev Bx4:FuncId:=233
abbrev Dk3:FuncId:=234
abbrev Ar7:FuncId:=235
abbrev Al5:FuncId:=238
abbrev Bh1:FuncId:=239
abbrev D6:TypeId:=3
abbrev E97:TypeId:=4
abbrev B0:TypeId:=5
abbrev Dl7:TypeId:=30
abbrev Bz4:TypeId:=33
abbrev I9:TypeId:=40
abbrev Q4:TypeId:=48
abbrev Gj0:TypeId:=50
abbrev E1:TypeId:=52
abbrev Em6:TypeId:=55
abbrev Ay8:TypeId:=58
abbrev J0:TypeId:=67
abbrev As1:TypeId:=76
abbrev E9:TypeId:=99
abbrev Bx7:TypeId:=109
abbrev Dh0:TypeId:=115
abbrev E8:TypeId:=120
abbrev Dy0:TypeId:=132
abbrev Dm1:TypeId:=147
abbrev Aw5:TypeId:=150
abbrev O5:TypeId:=161
abbrev J4:TypeId:=180
abbrev Aw7:TypeId:=187
abbrev P7:TypeId:=194
abbrev Ex8:TypeId:=200
abbrev D20:TypeId:=204
abbrev Bc6:TypeId:=205
abbrev Du2:TypeId:=218
abbrev H2:TypeId:=219
abbrev Au6:TypeId:=222
abbrev Bf1:TypeId:=227
abbrev Ei6:TypeId:=249
abbrev Ed1:TypeId:=250
abbrev Aw4:TypeId:=257
abbrev E06:TypeId:=259
abbrev Ei7:TypeId:=263
abbrev Ep7:TypeId:=267
abbrev A67:TypeId:=268
abbrev Bq2:TypeId:=270
abbrev Ez6:TypeId:=272
abbrev Bw7:TypeId:=283
abbrev Al7:TypeId:=285
abbrev Bp8:TypeId:=289
abbrev Bo9:TypeId:=303
abbrev Ak0:TypeId:=307
abbrev El0:TypeId:=312
abbrev Bh0:TypeId:=314
abbrev H73:TypeId:=328
end Go.EQ

set_option maxRecDepth 100000
namespace Go.EQ
open Go Go.NN Go.Proofs
variable (C : A8) (R : A9)
noncomputable section
def Do8:Cuts:={ globs:=0,loops:=[],regs:=[],plans:=[] }
def Eq5:List Item:=D0 Tryz.f14
theorem Gy3 (C:A8) (R:A9)  (h:H) :
 B9 PR Do8 C R B04 Tryz.f14 100000 true Eq5 [] h =
 nw (.cells Bz4 false [.slice none 0 0,.slice none 0 0,.int .i64 0]) h fun b w=>nw (.cells E97 false [.bool false,.bool false]) w fun b_1 w1=>nw (.cells Bx7 false [.int .i64 0,.int .i64 1,.int .i64 1,.int .i64 0]) w1 fun b_2 w2=>pAgg ⟨b,0,none⟩ [.slice (some ⟨b_1,0,none⟩) 2 2,.slice (some ⟨b_2,0,none⟩) 2 2,.int .i64 5] w2 fun w3=>gAgg ⟨b,0,none⟩ 3 w3 fun x=>some (.agg ⟨x⟩,w3):=by kernel_rfl
def B03:Cuts:={ globs:=0,loops:=[(9,[6,7,8,9,10,11,12])],regs:=[],plans:=[] }
def Dl6:List Item:=D0 Tryz.f31
def Bf8:List Item:=stk [0,1,0,1,0,1,0,1,0,1,0,1,0,1,0,0,1,4,5] Dl6
theorem Gu4 (C:A8) (R:A9) (b:Option Addr) (bn bc:Nat) (h:H) :
 B9 PR B03 C R Af0 Tryz.f31 100000 true Dl6 [(0,.slice b bn bc)] h =
 bnd (C B04 [] h) fun r w=>aAgg r fun x=>bnd (C Bj3 [.agg ⟨x⟩] w) fun r_1 w1=>as4 r_1 fun r_2 r_3 r_4 r_5=>aPtr r_2 fun x_1=>aPtr r_3 fun x_2=>aPtr r_4 fun x_3=>aPtr r_5 fun x_4=>bnd (cond x_2.isNone (some (true,w1)) (some (((bn:Nat):Int) != 492,w1))) fun c w2=>cond c
 (some (.tuple ⟨[.pointer none,.pointer none,.pointer none,.pointer none]⟩,w2))
 (nw (.cells Ay8 false [.int .i64 0,.int .i64 0,.int .i64 0,.int .i64 0,.int .i64 0,.int .i64 0,.slice none 0 0]) w2 fun b_1 w3=>pAgg ⟨b_1,0,none⟩ [.int .i64 2,.int .i64 256,.int .i64 0,.int .i64 0,.int .i64 0,.int .i64 0,.slice b bn bc] w3 fun w4=>bnd (C P8 [.agg ⟨[.int .i64 0,.int .i64 0,.int .i64 1,.int .i64 1,.int .u8 0,.int .u8 0,.int .u8 0,.int .u8 0,.int .u8 0,.int .u8 0,.int .u8 0,.int .u8 0,.int .u8 0,.int .u8 0,.int .u8 0,.int .u8 0,.int .u8 0,.int .u8 0,.int .u8 0,.int .u8 0,.int .u8 0,.int .u8 0,.int .u8 0,.int .u8 0,.int .u8 0,.int .u8 0,.int .u8 0,.int .u8 0,.int .u8 0,.int .u8 0,.int .u8 0,.int .u8 0,.int .u8 0,.int .u8 0,.int .u8 0,.int .u8 0]⟩] w4) fun r_6 w5=>aStr r_6 fun x_5=>gAgg ⟨b_1,0,none⟩ 7 w5 fun x_6=>bnd (C U1 [.pointer x_1,.int .i64 0,.agg ⟨x_6⟩] w5) fun r_7 w6=>aAgg r_7 fun _=>gAgg ⟨b_1,0,none⟩ 7 w6 fun x_8=>bnd (C As2 [.pointer x_3,.int .i64 0,.agg ⟨x_8⟩] w6) fun r_8 w7=>as3 r_8 fun r_9 r_10 r_11=>aInt .i64 r_9 fun _=>aInt .i64 r_10 fun _=>aStr r_11 fun _=>R Af0 Bf8 [(6,.pointer x_1),(7,.pointer x_2),(8,.pointer x_3),(9,.pointer x_4),(10,.pointer (some ⟨b_1,0,none⟩)),(11,.string x_5),(12,.int .i64 1)] w7):=by kernel_rfl
theorem B20 (C:A8) (R:A9) (k:Option Addr) (c:Option Addr) (wv:Option Addr) (m:Option Addr) (x:Addr) (pipe:ByteArray) (i:Int) (h:H) :
 B9 PR B03 C R Af0 Tryz.f31 100000 true Bf8 [(6,.pointer k),(7,.pointer c),(8,.pointer wv),(9,.pointer m),(10,.pointer (some x)),(11,.string pipe),(12,.int .i64 i)] h =
 cond (decide (i<3))
 (ck (ByteArray.size pipe≤D3) (nw (.cells B0 false (A0 (ByteArray.data pipe).toList)) h fun b w=>pAgg x [.int .i64 2,.int .i64 (IntKind.wrap .i64 (256+i)),.int .i64 0,.int .i64 0,.int .i64 0,.int .i64 0,.slice (some (M0 b)) (ByteArray.size pipe) (ByteArray.size pipe)] w fun w1=>gAgg x 7 w1 fun x_1=>bnd (C U1 [.pointer k,.int .i64 0,.agg ⟨x_1⟩] w1) fun r w2=>aAgg r fun _=>gAgg x 7 w2 fun x_3=>bnd (C As2 [.pointer wv,.int .i64 0,.agg ⟨x_3⟩] w2) fun r_1 w3=>as3 r_1 fun r_2 r_3 r_4=>aInt .i64 r_2 fun _=>aInt .i64 r_3 fun _=>aStr r_4 fun _=>R Af0 Bf8 [(6,.pointer k),(7,.pointer c),(8,.pointer wv),(9,.pointer m),(10,.pointer (some x)),(11,.string pipe),(12,.int .i64 (IntKind.wrap .i64 (i+1)))] w3))
 (some (.tuple ⟨[.pointer k,.pointer c,.pointer wv,.pointer m]⟩,h)):=by kernel_rfl
def A15:Cuts:={ globs:=0,loops:=[],regs:=[],plans:=[] }
def Bq6:List Item:=D0 Tryz.f48
theorem Dy2 (C:A8) (R:A9) (c:Option Addr) (h:H) :
 B9 PR A15 C R Ak1 Tryz.f48 100000 true Bq6 [(0,.pointer c)] h =
 nw (.cells I9 false [.int .i64 0,.int .i64 0,.int .i64 0,.int .i64 0,.int .u8 0,.int .u8 0,.int .u8 0,.int .u8 0,.int .u8 0,.int .u8 0,.int .u8 0,.int .u8 0,.int .u8 0,.int .u8 0,.int .u8 0,.int .u8 0,.int .u8 0,.int .u8 0,.int .u8 0,.int .u8 0,.int .u8 0,.int .u8 0,.int .u8 0,.int .u8 0,.int .u8 0,.int .u8 0,.int .u8 0,.int .u8 0,.int .u8 0,.int .u8 0,.int .u8 0,.int .u8 0,.int .u8 0,.int .u8 0,.int .u8 0,.int .u8 0]) h fun b w=>bnd (C I6 [.pointer c,.agg ⟨[.int .i64 4,.int .i64 0]⟩,.func (.func Aw8) ⟨[]⟩ ⟨[]⟩] w) fun r w1=>as2 r fun r_1 r_2=>aAgg r_1 fun x=>aInt .i64 r_2 fun x_1=>ck (List.length x=36) (pAgg ⟨b,0,none⟩ x w1 fun w2=>gAgg ⟨b,0,none⟩ 36 w2 fun x_2=>some (.tuple ⟨[.agg ⟨x_2⟩,.int .i64 x_1]⟩,w2)):=by kernel_rfl
def Aw2:Cuts:={ globs:=0,loops:=[],regs:=[],plans:=[] }
def Bl9:List Item:=D0 Tryz.f49
theorem Dr9 (C:A8) (R:A9) (c:Option Addr) (h:H) :
 B9 PR Aw2 C R Ai1 Tryz.f49 100000 true Bl9 [(0,.pointer c)] h =
 bnd (C S5 [.pointer c,.agg ⟨[.int .i64 5,.int .i64 0]⟩,.func (.func An5) ⟨[]⟩ ⟨[]⟩] h) fun r w=>as2 r fun r_1 r_2=>aInt .i64 r_1 fun x=>aInt .i64 r_2 fun x_1=>some (.tuple ⟨[.int .i64 x,.bool (x_1==1)]⟩,w):=by kernel_rfl
def A65:Cuts:={ globs:=0,loops:=[(3,[1,2,3,4]),(7,[1,2,3,4,5]),(13,[1,2,3,6])],regs:=[],plans:=[] }
def Bh9:List Item:=D0 Tryz.f50
def Be9:List Item:=stk [0,1,0,1,0,0,1,4,5] Bh9
def Ay0:List Item:=stk [0,1,0,1,0,0,1,4,5,6,0,1,0,4,0,1,0,0,1,4,5] Bh9
def Bf2:List Item:=stk [0,1,0,1,0,1,0,0,1,4,5] Bh9
theorem G42 (C:A8) (R:A9) (p:List Value) (h:H) :
 B9 PR A65 C R J6 Tryz.f50 100000 true Bh9 [(0,.agg ⟨p⟩)] h =
 nw (.cells Bz4 false p) h fun b w=>nw (.cells E9 false [.slice none 0 0,.slice none 0 0,.slice none 0 0,.int .i64 0,.slice none 0 0]) w fun b_1 w1=>gInt .i64 (Addr.add ⟨b,0,none⟩ 2) w1 fun x=>nw (.cells E9 false [.slice none 0 0,.slice none 0 0,.slice none 0 0,.int .i64 0,.slice none 0 0]) w1 fun b_2 w2=>pAgg ⟨b_2,0,none⟩ [.slice none 0 0,.slice none 0 0,.slice none 0 0,.int .i64 x,.slice none 0 0] w2 fun w3=>R J6 Be9 [(1,.pointer (some ⟨b,0,none⟩)),(2,.pointer (some ⟨b_1,0,none⟩)),(3,.pointer (some ⟨b_2,0,none⟩)),(4,.int .i64 0)] w3:=by kernel_rfl
theorem Ds9 (C:A8) (R:A9) (p:Addr) (x2:Addr) (b:Addr) (s:Int) (h:H) :
 B9 PR A65 C R J6 Tryz.f50 100000 true Be9 [(1,.pointer (some p)),(2,.pointer (some x2)),(3,.pointer (some b)),(4,.int .i64 s)] h =
 gSl (Addr.add p 0) h fun _ xn _=>cond (decide (s<((xn:Nat):Int)))
 (gSl (Addr.add b 0) h fun x_1 xn_1 xc_1=>nw (.cells D6 false [.int .i64 20]) h fun b_1 w=>gCells (some ⟨b_1,0,none⟩) (1*1) w fun cs=>ckB (fitsOpen x_1 D6 w) (apd D6 1 x_1 xn_1 xc_1 1 cs w fun a an ac w1=>pV (Addr.add b 0) (.slice a an ac) w1 fun w2=>R J6 Ay0 [(1,.pointer (some p)),(2,.pointer (some x2)),(3,.pointer (some b)),(4,.int .i64 s),(5,.int .i64 0)] w2))
 (R J6 Bf2 [(1,.pointer (some p)),(2,.pointer (some x2)),(3,.pointer (some b)),(6,.int .i64 0)] h):=by kernel_rfl
theorem Dv8 (C:A8) (R:A9) (p:Addr) (x2:Addr) (b:Addr) (s:Int) (i:Int) (h:H) :
 B9 PR A65 C R J6 Tryz.f50 100000 true Ay0 [(1,.pointer (some p)),(2,.pointer (some x2)),(3,.pointer (some b)),(4,.int .i64 s),(5,.int .i64 i)] h =
 cond (decide (i<9))
 (gSl (Addr.add b 1) h fun x xn xc=>nw (.cells D6 false [.int .i64 s]) h fun b_1 w=>gCells (some ⟨b_1,0,none⟩) (1*1) w fun cs=>ckB (fitsOpen x D6 w) (apd D6 1 x xn xc 1 cs w fun a an ac w1=>pV (Addr.add b 1) (.slice a an ac) w1 fun w2=>R J6 Ay0 [(1,.pointer (some p)),(2,.pointer (some x2)),(3,.pointer (some b)),(4,.int .i64 s),(5,.int .i64 (IntKind.wrap .i64 (i+1)))] w2))
 (gSl (Addr.add b 2) h fun x_1 xn_1 xc_1=>nw (.cells D6 false [.int .i64 s]) h fun b_2 w3=>nw (.cells Q4 false [.slice (some ⟨b_2,0,none⟩) 1 1]) w3 fun b_3 w4=>gCells (some ⟨b_3,0,none⟩) (1*1) w4 fun cs_1=>ckB (fitsOpen x_1 Q4 w4) (apd Q4 1 x_1 xn_1 xc_1 1 cs_1 w4 fun a_1 an_1 ac_1 w5=>pV (Addr.add b 2) (.slice a_1 an_1 ac_1) w5 fun w6=>gSl (Addr.add b 4) w6 fun x_2 xn_2 xc_2=>nw (.cells D6 false [.int .i64 s]) w6 fun b_4 w7=>nw (.cells J4 false [.int .i64 s,.int .i64 0,.int .i64 0,.int .i64 492,.slice (some ⟨b_4,0,none⟩) 1 1]) w7 fun b_5 w8=>gCells (some ⟨b_5,0,none⟩) (1*5) w8 fun cs_2=>ckB (fitsOpen x_2 J4 w8) (apd J4 5 x_2 xn_2 xc_2 1 cs_2 w8 fun a_2 an_2 ac_2 w9=>pV (Addr.add b 4) (.slice a_2 an_2 ac_2) w9 fun w10=>R J6 Be9 [(1,.pointer (some p)),(2,.pointer (some x2)),(3,.pointer (some b)),(4,.int .i64 (IntKind.wrap .i64 (s+1)))] w10))):=by kernel_rfl
theorem Dw6 (C:A8) (R:A9) (p:Addr) (x2:Addr) (b:Addr) (i:Int) (h:H) :
 B9 PR A65 C R J6 Tryz.f50 100000 true Bf2 [(1,.pointer (some p)),(2,.pointer (some x2)),(3,.pointer (some b)),(6,.int .i64 i)] h =
 gSl (Addr.add p 1) h fun _ xn _=>cond (decide (i<((xn:Nat):Int)))
 (gSl (Addr.add p 1) h fun x_1 xn_1 _=>aSome x_1 fun p_1=>ck ((0:Int)≤i∧i<((xn_1:Nat):Int)) (gAgg (Addr.add (D5 p_1) (Int.toNat i*2)) 2 h fun x_2=>nw (.cells Bx7 false [.int .i64 0,.int .i64 0]) h fun b_1 w=>ck (List.length x_2=2) (pAgg ⟨b_1,0,none⟩ x_2 w fun w1=>gSl (Addr.add b 4) w1 fun x_3 xn_2 xc_2=>gInt .i64 (Addr.add ⟨b_1,0,none⟩ 0) w1 fun x_4=>gInt .i64 (Addr.add ⟨b_1,0,none⟩ 0) w1 fun x_5=>gInt .i64 (Addr.add ⟨b_1,0,none⟩ 1) w1 fun x_6=>nw (.cells D6 false [.int .i64 x_5,.int .i64 x_6]) w1 fun b_2 w2=>nw (.cells J4 false [.int .i64 x_4,.int .i64 (IntKind.wrap .i64 (8+i)),.int .i64 0,.int .i64 40,.slice (some ⟨b_2,0,none⟩) 2 2]) w2 fun b_3 w3=>gCells (some ⟨b_3,0,none⟩) (1*5) w3 fun cs=>ckB (fitsOpen x_3 J4 w3) (apd J4 5 x_3 xn_2 xc_2 1 cs w3 fun a an ac w4=>pV (Addr.add b 4) (.slice a an ac) w4 fun w5=>R J6 Bf2 [(1,.pointer (some p)),(2,.pointer (some x2)),(3,.pointer (some b)),(6,.int .i64 (IntKind.wrap .i64 (i+1)))] w5))))
 (gAgg b 5 h fun x_7=>ck (List.length x_7=5) (pAgg x2 x_7 h fun w6=>gAgg x2 5 w6 fun x_8=>some (.agg ⟨x_8⟩,w6))):=by kernel_rfl
def Dd6:Cuts:={ globs:=0,loops:=[],regs:=[],plans:=[(1,⟨[1,0,2,3,4,5,6],[0,0,3,7,7,31,63],[(0,[1])],[]⟩)] }
def Ef2:List Item:=D0 Tryz.f58
theorem Gq1 (C:A8) (R:A9) (p:List Value) (h:H) :
 B9 PR Dd6 C R Ba6 Tryz.f58 100000 true Ef2 [(0,.agg ⟨p⟩)] h =
 nw (.cells I9 false p) h fun b w=>gAgg ⟨b,0,none⟩ 36 w fun x=>bnd (C Bg8 [] w) fun r w1=>aPtr r fun x_1=>gAgg ⟨b,0,none⟩ 36 w1 fun x_2=>same (.agg ⟨x⟩) (.agg ⟨x_2⟩) (bnd (C V7 [.pointer x_1,.agg ⟨x⟩] w1) fun r_1 w2=>as2 r_1 fun r_2 r_3=>aSl r_2 fun x_3 xn xc=>aBool r_3 fun x_4=>some (.tuple ⟨[.slice x_3 xn xc,.bool x_4]⟩,w2)):=by kernel_rfl
def Av9:Cuts:={ globs:=0,loops:=[],regs:=[],plans:=[(2,⟨[0,1,2,3,4,5,6,7,8,9,10,11,12,13,14],[0,1,3,7,15,31,63,127,255,511,1023,127,4095,8191,16383],[],[]⟩),(4,⟨[0,1,2,3,4,5,6,7,8,9,10,11,12,13,14,15,16,17],[0,1,3,7,0,16,48,112,0,256,0,1024,0,7936,16383,32767,65535,131071],[],[]⟩)] }
def Bm1:List Item:=D0 Tryz.f59
theorem Ds4 (C:A8) (R:A9) (c:Option Addr) (r:List Value) (b:Option Addr) (bn bc:Nat) (ok:Bool) (h:H) :
 B9 PR Av9 C R L0 Tryz.f59 100000 true Bm1 [(0,.pointer c),(1,.agg ⟨r⟩),(2,.slice b bn bc),(3,.bool ok)] h =
 nw (.cells E8 false r) h fun b_1 w=>gAgg ⟨b_1,0,none⟩ 2 w fun x=>bnd (C Q6 [.pointer c,.agg ⟨x⟩] w) fun r_1 w1=>as2 r_1 fun r_2 r_3=>aAgg r_2 fun x_1=>aBool r_3 fun x_2=>nw (.cells Bf1 false [.int .i64 0,.int .i64 0,.int .i64 0]) w1 fun b_2 w2=>ck (List.length x_1=3) (pAgg ⟨b_2,0,none⟩ x_1 w2 fun w3=>bnd (cond (!x_2) (some (true,w3)) (some (!ok,w3))) fun c_1 w4=>bnd (cond c_1 (some (true,w4)) (aSome c fun p=>gMap (Addr.add p 3) w4 fun x_3=>gAgg ⟨b_1,0,none⟩ 2 w4 fun x_4=>keyN PR E8 (.agg ⟨x_4⟩) (opt x_3 fun r_4=>mapAt w4 r_4 fun es _=>opt (Am0 (.int .i64 0) (.agg ⟨x_4⟩) es) fun f=>aInt .i64 f.1 fun x_5=>some (decide (x_5>0),w4)))) fun c_2 w5=>cond c_2
 (some (.bool false,w5))
 (aSome c fun p_1=>gPtr (Addr.add p_1 0) w5 fun x_6=>aSome c fun p_2=>gInt .i64 (Addr.add p_2 1) w5 fun x_7=>gInt .i64 (Addr.add ⟨b_2,0,none⟩ 0) w5 fun x_8=>gInt .i64 (Addr.add ⟨b_2,0,none⟩ 1) w5 fun x_9=>bnd (C U1 [.pointer x_6,.int .i64 x_7,.agg ⟨[.int .i64 2,.int .i64 x_8,.int .i64 x_9,.int .i64 0,.int .i64 0,.int .i64 0,.slice b bn bc]⟩] w5) fun r_5 w6=>aAgg r_5 fun x_10=>nth x_10 0 fun E=>aInt .i64 E fun E_1=>some (.bool (E_1==0),w6))):=by kernel_rfl
def Eb5:Cuts:={ globs:=0,loops:=[],regs:=[],plans:=[] }
def Gd4:List Item:=D0 Tryz.f64
theorem Hn1 (C:A8) (R:A9) (n:Int) (h:H) :
 B9 PR Eb5 C R A94 Tryz.f64 100000 true Gd4 [(0,.int .i64 n)] h =
 nw (.cells B0 false [.int .u8 (IntKind.wrap .u8 (Int.fdiv n (2 ^ 8))),.int .u8 (IntKind.wrap .u8 (n))]) h fun b w=>gCells (some ⟨b,0,none⟩) 2 w fun cs=>asBytes cs fun l=>some (.string (ByteArray.mk ⟨l⟩),w):=by kernel_rfl
def B60:Cuts:={ globs:=0,loops:=[],regs:=[],plans:=[] }
def D30:List Item:=D0 Tryz.f71
theorem Ge5 (C:A8) (R:A9) (b:Option Addr) (bn bc:Nat) (h:H) :
 B9 PR B60 C R A40 Tryz.f71 100000 true D30 [(0,.slice b bn bc)] h =
 nw (.cells E1 false [.int .i64 0,.int .i64 0,.int .i64 0,.int .i64 0,.int .i64 0,.int .i64 0,.int .i64 0,.int .i64 0,.int .i64 0,.int .i64 0,.int .i64 0,.int .i64 0,.int .i64 0,.int .i64 0,.int .i64 0,.int .i64 0]) h fun b_1 w=>bnd (cond (((bn:Nat):Int)==24) (bnd (C Am6 [.slice b bn bc] w) fun r w1=>aBool r fun x=>some (x,w1)) (some (false,w))) fun c w2=>cond c
 (pAgg ⟨b_1,0,none⟩ [.int .i64 0,.int .i64 0,.int .i64 0,.int .i64 0,.int .i64 0,.int .i64 0,.int .i64 0,.int .i64 0,.int .i64 0,.int .i64 0,.int .i64 0,.int .i64 0,.int .i64 0,.int .i64 0,.int .i64 0,.int .i64 0] w2 fun w3=>gAgg ⟨b_1,0,none⟩ 16 w3 fun x_1=>some (.tuple ⟨[.agg ⟨x_1⟩,.int .i64 0]⟩,w3))
 (bnd (C Bc4 [] w2) fun r_1 w4=>aPtr r_1 fun x_2=>bnd (C V5 [.pointer x_2,.slice b bn bc] w4) fun r_2 w5=>as2 r_2 fun r_3 r_4=>aAgg r_3 fun x_3=>aBool r_4 fun x_4=>nw (.cells E1 false [.int .i64 0,.int .i64 0,.int .i64 0,.int .i64 0,.int .i64 0,.int .i64 0,.int .i64 0,.int .i64 0,.int .i64 0,.int .i64 0,.int .i64 0,.int .i64 0,.int .i64 0,.int .i64 0,.int .i64 0,.int .i64 0]) w5 fun b_2 w6=>ck (List.length x_3=16) (pAgg ⟨b_2,0,none⟩ x_3 w6 fun w7=>cond (!x_4)
 (pAgg ⟨b_1,0,none⟩ [.int .i64 0,.int .i64 0,.int .i64 0,.int .i64 0,.int .i64 0,.int .i64 0,.int .i64 0,.int .i64 0,.int .i64 0,.int .i64 0,.int .i64 0,.int .i64 0,.int .i64 0,.int .i64 0,.int .i64 0,.int .i64 0] w7 fun w8=>gAgg ⟨b_1,0,none⟩ 16 w8 fun x_5=>some (.tuple ⟨[.agg ⟨x_5⟩,.int .i64 2]⟩,w8))
 (gAgg ⟨b_2,0,none⟩ 16 w7 fun x_6=>ck (List.length x_6=16) (pAgg ⟨b_1,0,none⟩ x_6 w7 fun w9=>gAgg ⟨b_1,0,none⟩ 16 w9 fun x_7=>some (.tuple ⟨[.agg ⟨x_7⟩,.int .i64 1]⟩,w9))))):=by kernel_rfl
def Av8:Cuts:={ globs:=0,loops:=[],regs:=[],plans:=[(2,⟨[0,1,2,3,4,5,6,7],[0,0,0,4,12,0,63,127],[],[]⟩)] }
def Bm2:List Item:=D0 Tryz.f73
theorem Ds0 (C:A8) (R:A9) (c:Option Addr) (r:List Value) (h:H) :
 B9 PR Av8 C R Q7 Tryz.f73 100000 true Bm2 [(0,.pointer c),(1,.agg ⟨r⟩)] h =
 nw (.cells E8 false r) h fun b w=>gAgg ⟨b,0,none⟩ 2 w fun x=>bnd (C Q6 [.pointer c,.agg ⟨x⟩] w) fun r_1 w1=>as2 r_1 fun r_2 r_3=>aAgg r_2 fun x_1=>aBool r_3 fun x_2=>nw (.cells Bf1 false [.int .i64 0,.int .i64 0,.int .i64 0]) w1 fun b_1 w2=>ck (List.length x_1=3) (pAgg ⟨b_1,0,none⟩ x_1 w2 fun w3=>gAgg ⟨b,0,none⟩ 2 w3 fun x_3=>gInt .i64 (Addr.add ⟨b_1,0,none⟩ 2) w3 fun x_4=>ck ((0:Int)≤x_4∧(x_4:Int)≤x_4∧x_4≤(D3:Int)) (nw (.cells B0 false (I0 (Int.toNat x_4) [.int .u8 0])) w3 fun b_2 w4=>bnd (C L0 [.pointer c,.agg ⟨x_3⟩,.slice (some ⟨b_2,0,none⟩) (Int.toNat x_4) (Int.toNat x_4),.bool x_2] w4) fun r_4 w5=>aBool r_4 fun x_5=>some (.bool x_5,w5))):=by kernel_rfl
def A36:Cuts:={ globs:=0,loops:=[(4,[1,3,4])],regs:=[],plans:=[] }
def Bn0:List Item:=D0 Tryz.f77
def Aq6:List Item:=stk [0,1,0,1,0,1,0,0,1,4,5] Bn0
theorem Ev9 (C:A8) (R:A9) (p:List Value) (h:H) :
 B9 PR A36 C R P8 Tryz.f77 100000 true Bn0 [(0,.agg ⟨p⟩)] h =
 nw (.cells I9 false p) h fun b w=>gInt .i64 (Addr.add ⟨b,0,none⟩ 0) w fun x=>gInt .i64 (Addr.add ⟨b,0,none⟩ 1) w fun x_1=>gInt .i64 (Addr.add ⟨b,0,none⟩ 2) w fun x_2=>gInt .i64 (Addr.add ⟨b,0,none⟩ 3) w fun x_3=>nw (.cells B0 false [.int .u8 1,.int .u8 (IntKind.wrap .u8 (x)),.int .u8 (IntKind.wrap .u8 (x_1)),.int .u8 (IntKind.wrap .u8 (x_2)),.int .u8 (IntKind.wrap .u8 (x_3)),.int .u8 197]) w fun b_1 w1=>gCells (some ⟨b_1,0,none⟩) 6 w1 fun cs=>asBytes cs fun l=>bnd (C Ag0 [.string (ByteArray.mk ⟨l⟩)] w1) fun r w2=>aInt .u8 r fun x_4=>nw (.cells B0 false [.int .u8 x_4,.int .u8 0]) w2 fun b_2 w3=>gCells (some ⟨b_2,0,none⟩) 2 w3 fun cs_1=>asBytes cs_1 fun l_1=>ck (ByteArray.size (ByteArray.mk ⟨l⟩)+ByteArray.size (ByteArray.mk ⟨l_1⟩)≤D3) (R P8 Aq6 [(1,.pointer (some ⟨b,0,none⟩)),(3,.string ((ByteArray.mk ⟨l⟩)++(ByteArray.mk ⟨l_1⟩))),(4,.int .i64 0)] w3):=by kernel_rfl
theorem B08 (C:A8) (R:A9) (p:Addr) (s:ByteArray) (i:Int) (h:H) :
 B9 PR A36 C R P8 Tryz.f77 100000 true Aq6 [(1,.pointer (some p)),(3,.string s),(4,.int .i64 i)] h =
 cond (decide (i<32))
 (ck ((0:Int)≤i∧i<((32:Nat):Int)) (gInt .u8 (Addr.add (Addr.add p 4) (Int.toNat i*1)) h fun x=>nw (.cells B0 false [.int .u8 x]) h fun b w=>gCells (some ⟨b,0,none⟩) 1 w fun cs=>asBytes cs fun l=>ck (ByteArray.size s+ByteArray.size (ByteArray.mk ⟨l⟩)≤D3) (R P8 Aq6 [(1,.pointer (some p)),(3,.string (s++(ByteArray.mk ⟨l⟩))),(4,.int .i64 (IntKind.wrap .i64 (i+1)))] w)))
 (some (.string s,h)):=by kernel_rfl
def Br4:Cuts:={ globs:=0,loops:=[(2,[0,8,9,10])],regs:=[],plans:=[] }
def Df4:List Item:=D0 Tryz.f87
def At8:List Item:=stk [0,1,0,1,4,5] Df4
theorem Gp2 (C:A8) (R:A9) (c:Option Addr) (i:Int) (h:H) :
 B9 PR Br4 C R Ac0 Tryz.f87 100000 true Df4 [(0,.pointer c),(1,.int .i64 i)] h =
 nw (.cells D6 false [.int .i64 i]) h fun b w=>bnd (C Ab0 [.pointer c,.func (.func Az1) ⟨[]⟩ ⟨[.pointer (some ⟨b,0,none⟩)]⟩] w) fun r w1=>aSl r fun x xn xc=>R Ac0 At8 [(0,.pointer c),(8,.slice x xn xc),(9,.int .i64 ((xn:Nat):Int)),(10,.int .i64 0)] w1:=by kernel_rfl
theorem Dr3 (C:A8) (R:A9) (c:Option Addr) (x8:Option Addr) (x8n x8c:Nat) (x9:Int) (x10:Int) (h:H) :
 B9 PR Br4 C R Ac0 Tryz.f87 100000 true At8 [(0,.pointer c),(8,.slice x8 x8n x8c),(9,.int .i64 x9),(10,.int .i64 x10)] h =
 cond (decide (x10<x9))
 (aSome x8 fun p=>ck ((0:Int)≤x10∧x10<((x8n:Nat):Int)) (gAgg (Addr.add (D5 p) (Int.toNat x10*17)) 17 h fun x=>nw (.cells O5 false [.int .i64 0,.int .i64 0,.int .i64 0,.int .i64 0,.int .i64 0,.int .i64 0,.int .i64 0,.int .i64 0,.int .i64 0,.int .i64 0,.int .i64 0,.int .i64 0,.int .i64 0,.int .i64 0,.int .i64 0,.int .i64 0,.int .i64 0]) h fun b w=>ck (List.length x=17) (pAgg ⟨b,0,none⟩ x w fun w1=>gAgg ⟨b,0,none⟩ 17 w1 fun x_1=>bnd (C An3 [.agg ⟨x_1⟩] w1) fun r w2=>aBool r fun x_2=>cond (!x_2)
 (gInt .i64 (Addr.add ⟨b,0,none⟩ 0) w2 fun x_3=>bnd (C J9 [.pointer c,.int .i64 x_3] w2) fun r_1 w3=>aBool r_1 fun _=>R Ac0 At8 [(0,.pointer c),(8,.slice x8 x8n x8c),(9,.int .i64 x9),(10,.int .i64 (IntKind.wrap .i64 (x10+1)))] w3)
 (pV (Addr.add (Addr.add ⟨b,0,none⟩ 1) 1) (.int .i64 0) w2 fun w4=>gInt .i64 (Addr.add ⟨b,0,none⟩ 0) w4 fun x_5=>gAgg (Addr.add ⟨b,0,none⟩ 1) 16 w4 fun x_6=>bnd (C L5 [.pointer c,.int .i64 x_5,.agg ⟨x_6⟩] w4) fun r_2 w5=>aBool r_2 fun _=>R Ac0 At8 [(0,.pointer c),(8,.slice x8 x8n x8c),(9,.int .i64 x9),(10,.int .i64 (IntKind.wrap .i64 (x10+1)))] w5))))
 (some (.tuple ⟨[]⟩,h)):=by kernel_rfl
def Ap3:Cuts:={ globs:=0,loops:=[],regs:=[(8,[8,11,12])],plans:=[(7,⟨[0,1,2,3,4,5,6,7,8,9],[0,1,3,7,0,31,63,31,159,511],[(7,[5])],[]⟩)] }
def A85:List Item:=D0 Tryz.f108
def Aw3:List Item:=stk [0,1,0,1,0,1,0,1,0,1,0,1,0,0] A85
theorem D91 (C:A8) (R:A9) (c:Option Addr) (r:List Value) (decode:Value) (h:H) :
 B9 PR Ap3 C R S5 Tryz.f108 100000 true A85 [(0,.pointer c),(1,.agg ⟨r⟩),(2,decode)] h =
 nw (.cells E8 false r) h fun b w=>gAgg ⟨b,0,none⟩ 2 w fun x=>bnd (C O2 [.pointer c,.agg ⟨x⟩] w) fun r_1 w1=>as2 r_1 fun r_2 r_3=>aSl r_2 fun x_1 xn xc=>aBool r_3 fun x_2=>cond (!x_2)
 (some (.tuple ⟨[.int .i64 0,.int .i64 2]⟩,w1))
 (aFn decode fun g fi cp=>bnd (C g (fi++([.slice x_1 xn xc]++cp)) w1) fun r_4 w2=>as2 r_4 fun r_5 r_6=>aInt .i64 r_5 fun x_3=>aInt .i64 r_6 fun x_4=>cond (x_4==2)
 (aSome c fun p=>gMap (Addr.add p 3) w2 fun x_5=>gAgg ⟨b,0,none⟩ 2 w2 fun x_6=>keyN PR E8 (.agg ⟨x_6⟩) (opt x_5 fun r_7=>mapAt w2 r_7 fun es _=>opt (Am0 (.int .i64 0) (.agg ⟨x_6⟩) es) fun f=>aInt .i64 f.1 fun x_7=>keyN PR E8 (.agg ⟨x_6⟩) (opt x_5 fun r_8=>mapAt w2 r_8 fun es_1 cl_1=>opt (D05 (.int .i64 0) (.agg ⟨x_6⟩) es_1 cl_1) fun f_1=>aInt .i64 f_1.1 fun _=>lt (H.set w2 r_8 f_1.2.2) fun w3=>keyN PR E8 (.agg ⟨x_6⟩) (opt x_5 fun r_9=>mapAt w3 r_9 fun es_2 _=>opt (Am0 (.int .i64 0) (.agg ⟨x_6⟩) es_2) fun f_2=>aInt .i64 f_2.1 fun x_9=>same (.int .i64 x_7) (.int .i64 x_9) (opt x_5 fun r_10=>mapAt w3 r_10 fun es_3 cl_3=>opt (Bl7 (f_1.2.1:Int) es_3 0) fun i=>lt (H.set w3 r_10 (.map (modN (fun e=>{ e with val:=.int .i64 (IntKind.wrap .i64 (x_7+1)) }) i es_3) cl_3)) fun w4=>R S5 Aw3 [(8,.int .i64 0),(11,.int .i64 x_3),(12,.int .i64 x_4)] w4)))))
 (R S5 Aw3 [(8,.int .i64 0),(11,.int .i64 x_3),(12,.int .i64 x_4)] w2)):=by kernel_rfl
theorem Bm0 (C:A8) (R:A9) (nonev:Int) (v:Int) (isv:Int) (h:H) :
 B9 PR Ap3 C R S5 Tryz.f108 100000 true Aw3 [(8,.int .i64 nonev),(11,.int .i64 v),(12,.int .i64 isv)] h =
 cond (isv != 1)
 (some (.tuple ⟨[.int .i64 nonev,.int .i64 isv]⟩,h))
 (some (.tuple ⟨[.int .i64 v,.int .i64 isv]⟩,h)):=by kernel_rfl
def Bm5:Cuts:={ globs:=0,loops:=[],regs:=[],plans:=[] }
def Dg3:List Item:=D0 Tryz.f109
theorem Ex2 (C:A8) (R:A9) (b:Option Addr) (bn bc:Nat) (h:H) :
 B9 PR Bm5 C R An5 Tryz.f109 100000 true Dg3 [(0,.slice b bn bc)] h =
 cond (((bn:Nat):Int) != 4)
 (some (.tuple ⟨[.int .i64 0,.int .i64 2]⟩,h))
 (aSome b fun p=>ck ((0:Int)≤0∧0<((bn:Nat):Int)) (gInt .u8 (Addr.add (D5 p) (Int.toNat 0*1)) h fun x=>bnd (C Ao2 [.int .i64 (IntKind.wrap .i64 (x))] h) fun r w=>as2 r fun r_1 r_2=>aSl r_1 fun x_1 xn _=>aBool r_2 fun x_2=>bnd (cond (!x_2) (some (true,w)) (gCells x_1 xn w fun cs=>asBytes cs fun l=>gCells b bn w fun cs_1=>asBytes cs_1 fun l_1=>some (!((ByteArray.mk ⟨l⟩).toList==(ByteArray.mk ⟨l_1⟩).toList),w))) fun c w1=>cond c
 (some (.tuple ⟨[.int .i64 0,.int .i64 2]⟩,w1))
 (aSome b fun p_1=>ck ((0:Int)≤0∧0<((bn:Nat):Int)) (gInt .u8 (Addr.add (D5 p_1) (Int.toNat 0*1)) w1 fun x_3=>some (.tuple ⟨[.int .i64 (IntKind.wrap .i64 (x_3)),.int .i64 1]⟩,w1))))):=by kernel_rfl
def Da1:Cuts:={ globs:=0,loops:=[(3,[3,12,13,14])],regs:=[],plans:=[(5,⟨[0,1,2,3,4,5,6,7,8,9,10,11,12,13],[0,0,2,6,14,0,32,96,224,480,1022,2047,4095,8191],[],[]⟩)] }
def Dz8:List Item:=D0 Tryz.f115
def Bl6:List Item:=stk [0,1,0,1,0,0,1,4,5] Dz8
theorem Hd1 (C:A8) (R:A9) (frames:Option Addr) (framesn framesc:Nat) (h:H) :
 B9 PR Da1 C R Ar9 Tryz.f115 100000 true Dz8 [(0,.slice frames framesn framesc)] h =
 nw (.cells Aw4 false [.slice none 0 0]) h fun b w=>ckB (fitsOpen frames D6 w) (ck ((0:Int)≤mm2 false ((framesn:Nat):Int) 4∧mm2 false ((framesn:Nat):Int) 4≤((framesc:Nat):Int)) (R Ar9 Bl6 [(3,.pointer (some ⟨b,0,none⟩)),(12,.slice (I4 frames (decide (0<framesc)) (0*1)) ((Int.toNat (mm2 false ((framesn:Nat):Int) 4))-0) (framesc-0)),(13,.int .i64 (((Int.toNat (mm2 false ((framesn:Nat):Int) 4))-0:Nat):Int)),(14,.int .i64 0)] w)):=by kernel_rfl
theorem D35 (C:A8) (R:A9) (q:Addr) (x12:Option Addr) (x12n x12c:Nat) (x13:Int) (x14:Int) (h:H) :
 B9 PR Da1 C R Ar9 Tryz.f115 100000 true Bl6 [(3,.pointer (some q)),(12,.slice x12 x12n x12c),(13,.int .i64 x13),(14,.int .i64 x14)] h =
 cond (decide (x14<x13))
 (aSome x12 fun p=>ck ((0:Int)≤x14∧x14<((x12n:Nat):Int)) (gInt .i64 (Addr.add (D5 p) (Int.toNat x14*1)) h fun x=>gSl (Addr.add q 0) h fun x_1 xn xc=>ck ((0:Int)≤mm2 false (mm2 true x 0) 64∧(mm2 false (mm2 true x 0) 64:Int)≤mm2 false (mm2 true x 0) 64∧mm2 false (mm2 true x 0) 64≤(D3:Int)) (nw (.cells D6 false (I0 (Int.toNat (mm2 false (mm2 true x 0) 64)) [.int .i64 0])) h fun b w=>nw (.cells Q4 false [.slice (some ⟨b,0,none⟩) (Int.toNat (mm2 false (mm2 true x 0) 64)) (Int.toNat (mm2 false (mm2 true x 0) 64))]) w fun b_1 w1=>gCells (some ⟨b_1,0,none⟩) (1*1) w1 fun cs=>ckB (fitsOpen x_1 Q4 w1) (apd Q4 1 x_1 xn xc 1 cs w1 fun a an ac w2=>pV (Addr.add q 0) (.slice a an ac) w2 fun w3=>R Ar9 Bl6 [(3,.pointer (some q)),(12,.slice x12 x12n x12c),(13,.int .i64 x13),(14,.int .i64 (IntKind.wrap .i64 (x14+1)))] w3))))
 (some (.pointer (some q),h)):=by kernel_rfl
def Do0:Cuts:={ globs:=0,loops:=[],regs:=[],plans:=[] }
def Eq0:List Item:=D0 Tryz.f116
theorem Gz6 (C:A8) (R:A9) (m:Option Addr) (s:Option Addr) (h:H) :
 B9 PR Do0 C R By5 Tryz.f116 100000 true Eq0 [(0,.pointer m),(1,.pointer s)] h =
 nw (.cells Dm1 false [.pointer m,.pointer s,.slice none 0 0]) h fun b w=>some (.pointer (some ⟨b,0,none⟩),w):=by kernel_rfl
def Av2:Cuts:={ globs:=0,loops:=[(3,[5,20,21,22])],regs:=[],plans:=[(2,⟨[0,1,2,3,4,5,6,7,8,9,10,11,12,13,14],[0,1,3,7,0,16,0,64,192,448,960,2032,4095,8191,0],[],[]⟩)] }
def Bd4:List Item:=D0 Tryz.f119
def Ak2:List Item:=stk [0,1,0,1,0,0,1,4,5] Bd4
theorem Eg8 (C:A8) (R:A9) (q:Option Addr) (s:Int) (h:H) :
 B9 PR Av2 C R P6 Tryz.f119 100000 true Bd4 [(0,.pointer q),(1,.int .i64 s)] h =
 aSome q fun p=>gSl (Addr.add p 0) h fun x _ xc=>aSome q fun p_1=>gSl (Addr.add p_1 0) h fun _ xn_1 _=>ckB (fitsOpen x Q4 h) (ck ((0:Int)≤mm2 false (mm2 true s 0) ((xn_1:Nat):Int)∧mm2 false (mm2 true s 0) ((xn_1:Nat):Int)≤((xc:Nat):Int)) (R P6 Ak2 [(5,.int .i64 0),(20,.slice (I4 x (decide (0<xc)) (0*1)) ((Int.toNat (mm2 false (mm2 true s 0) ((xn_1:Nat):Int)))-0) (xc-0)),(21,.int .i64 (((Int.toNat (mm2 false (mm2 true s 0) ((xn_1:Nat):Int)))-0:Nat):Int)),(22,.int .i64 0)] h)):=by kernel_rfl
theorem Bq3 (C:A8) (R:A9) (n:Int) (x20:Option Addr) (x20n x20c:Nat) (x21:Int) (x22:Int) (h:H) :
 B9 PR Av2 C R P6 Tryz.f119 100000 true Ak2 [(5,.int .i64 n),(20,.slice x20 x20n x20c),(21,.int .i64 x21),(22,.int .i64 x22)] h =
 cond (decide (x22<x21))
 (aSome x20 fun p=>ck ((0:Int)≤x22∧x22<((x20n:Nat):Int)) (gSl (Addr.add (D5 p) (Int.toNat x22*1)) h fun _ xn _=>R P6 Ak2 [(5,.int .i64 (IntKind.wrap .i64 (n+((xn:Nat):Int)))),(20,.slice x20 x20n x20c),(21,.int .i64 x21),(22,.int .i64 (IntKind.wrap .i64 (x22+1)))] h))
 (some (.int .i64 n,h)):=by kernel_rfl
def Ak8:Cuts:={ globs:=0,loops:=[],regs:=[],plans:=[] }
def A68:List Item:=D0 Tryz.f120
theorem Dc4 (C:A8) (R:A9) (s:Option Addr) (sn sc:Nat) (v:Int) (h:H) :
 B9 PR Ak8 C R N3 Tryz.f120 100000 true A68 [(0,.slice s sn sc),(1,.int .i64 v)] h =
 bnd (C H9 [.slice s sn sc,.int .i64 v] h) fun r w=>aInt .i64 r fun x=>some (.bool (decide (x≥0)),w):=by kernel_rfl
def Ax5:Cuts:={ globs:=0,loops:=[(3,[0,1,5,6])],regs:=[],plans:=[] }
def Bg7:List Item:=D0 Tryz.f123
def Al6:List Item:=stk [0,1,0,1,0,0,1,4,5] Bg7
theorem Ep4 (C:A8) (R:A9) (q:Option Addr) (s:Int) (h:H) :
 B9 PR Ax5 C R O0 Tryz.f123 100000 true Bg7 [(0,.pointer q),(1,.int .i64 s)] h =
 R O0 Al6 [(0,.pointer q),(1,.int .i64 s),(5,.int .i64 0),(6,.int .i64 0)] h:=by kernel_rfl
theorem Bv6 (C:A8) (R:A9) (q:Option Addr) (s:Int) (n:Int) (i:Int) (h:H) :
 B9 PR Ax5 C R O0 Tryz.f123 100000 true Al6 [(0,.pointer q),(1,.int .i64 s),(5,.int .i64 n),(6,.int .i64 i)] h =
 cond (decide (i<s))
 (aSome q fun p=>gSl (Addr.add p 0) h fun x xn _=>aSome x fun p_1=>ck ((0:Int)≤i∧i<((xn:Nat):Int)) (gSl (Addr.add (D5 p_1) (Int.toNat i*1)) h fun _ xn_1 _=>R O0 Al6 [(0,.pointer q),(1,.int .i64 s),(5,.int .i64 (IntKind.wrap .i64 (n+((xn_1:Nat):Int)))),(6,.int .i64 (IntKind.wrap .i64 (i+1)))] h))
 (some (.int .i64 n,h)):=by kernel_rfl
def Bu4:Cuts:={ globs:=0,loops:=[],regs:=[],plans:=[] }
def Dp7:List Item:=D0 Tryz.f140
theorem E42 (C:A8) (R:A9) (s:Option Addr) (e:Int) (h:H) :
 B9 PR Bu4 C R A88 Tryz.f140 100000 true Dp7 [(0,.pointer s),(1,.int .i64 e)] h =
 bnd (C Ai9 [.pointer s,.int .i64 e] h) fun r w=>aBool r fun x=>cond (!x)
 (some (.slice none 0 0,w))
 (aSome s fun p=>gSl (Addr.add p 0) w fun x_1 xn _=>aSome x_1 fun p_1=>ck ((0:Int)≤e∧e<((xn:Nat):Int)) (gPtr (Addr.add (D5 p_1) (Int.toNat e*1)) w fun x_2=>bnd (C Q9 [.pointer x_2] w) fun r_1 w1=>aSl r_1 fun x_3 xn_1 xc_1=>some (.slice x_3 xn_1 xc_1,w1))):=by kernel_rfl
def Ah5:Cuts:={ globs:=0,loops:=[],regs:=[],plans:=[(2,⟨[0,1,2,3,4,5,6,7,8,9,10,11,12,13,14],[0,1,3,7,15,31,63,127,255,511,63,63,4095,8191,16383],[],[]⟩)] }
def A23:List Item:=D0 Tryz.f144
theorem B34 (C:A8) (R:A9) (c:Option Addr) (v:List Value) (h:H) :
 B9 PR Ah5 C R V7 Tryz.f144 100000 true A23 [(0,.pointer c),(1,.agg ⟨v⟩)] h =
 nw (.cells I9 false v) h fun b w=>aSome c fun p=>gInt .i64 (Addr.add p 0) w fun x=>ck ((0:Int)≤x∧(x:Int)≤x∧x≤(D3:Int)) (nw (.cells B0 false (I0 (Int.toNat x) [.int .u8 0])) w fun b_1 w1=>aSome c fun p_1=>gFv (Addr.add p_1 1) w1 fun x_1=>isNilF x_1 fun b_2=>bnd (cond b_2 (some (true,w1)) (aSome c fun p_2=>gFv (Addr.add p_2 1) w1 fun x_2=>gAgg ⟨b,0,none⟩ 36 w1 fun x_3=>aFn x_2 fun g fi cp=>bnd (C g (fi++([.agg ⟨x_3⟩,.slice (some ⟨b_1,0,none⟩) (Int.toNat x) (Int.toNat x)]++cp)) w1) fun r w2=>aBool r fun x_4=>some (!x_4,w2))) fun c_1 w3=>cond c_1
 (some (.tuple ⟨[.slice none 0 0,.bool false]⟩,w3))
 (some (.tuple ⟨[.slice (some ⟨b_1,0,none⟩) (Int.toNat x) (Int.toNat x),.bool true]⟩,w3))):=by kernel_rfl
def Dd4:Cuts:={ globs:=0,loops:=[],regs:=[],plans:=[] }
def Ef8:List Item:=D0 Tryz.f147
theorem Gq8 (C:A8) (R:A9) (b:Option Addr) (bn bc:Nat) (h:H) :
 B9 PR Dd4 C R Am6 Tryz.f147 100000 true Ef8 [(0,.slice b bn bc)] h =
 bnd (C Q1 [.slice b bn bc,.func (.func Ag5) ⟨[]⟩ ⟨[]⟩] h) fun r w=>aBool r fun x=>some (.bool (!x),w):=by kernel_rfl
def A17:Cuts:={ globs:=0,loops:=[],regs:=[],plans:=[] }
def Bo4:List Item:=D0 Tryz.f150
theorem Dx8 (C:A8) (R:A9) (r:Option Addr) (env:Int) (name:Int) (atv:Int) (b:Option Addr) (bn bc:Nat) (h:H) :
 B9 PR A17 C R Ab4 Tryz.f150 100000 true Bo4 [(0,.pointer r),(1,.int .i64 env),(2,.int .i64 name),(3,.int .i64 atv),(4,.slice b bn bc)] h =
 bnd (C Aa9 [.pointer r,.int .i64 env,.int .i64 name,.int .i64 2,.int .i64 atv,.int .i64 ((bn:Nat):Int)] h) fun r_1 w=>as2 r_1 fun r_2 r_3=>aInt .i64 r_2 fun x=>aInt .i64 r_3 fun x_1=>cond (x_1 != 0)
 (some (.int .i64 x_1,w))
 (aSome r fun p=>gPtr (Addr.add p 0) w fun x_2=>bnd (C Be3 [.pointer x_2,.int .i64 x,.slice b bn bc] w) fun r_4 w1=>aInt .i64 r_4 fun x_3=>some (.int .i64 x_3,w1)):=by kernel_rfl
def Dn3:Cuts:={ globs:=0,loops:=[],regs:=[],plans:=[] }
def Eo8:List Item:=D0 Tryz.f164
theorem Gx6 (C:A8) (R:A9) (m:Option Addr) (atv:Int) (n:Int) (h:H) :
 B9 PR Dn3 C R Bj1 Tryz.f164 100000 true Eo8 [(0,.pointer m),(1,.int .i64 atv),(2,.int .i64 n)] h =
 bnd (cond (decide (atv≥0)) (some (decide (n≥0),h)) (some (false,h))) fun c w=>bnd (cond c (aSome m fun p=>gSl (Addr.add p 0) w fun _ xn _=>some (decide (atv≤((xn:Nat):Int)),w)) (some (false,w))) fun c_1 w1=>bnd (cond c_1 (aSome m fun p_1=>gSl (Addr.add p_1 0) w1 fun _ xn_1 _=>some (decide (n≤(IntKind.wrap .i64 (((xn_1:Nat):Int)-atv))),w1)) (some (false,w1))) fun c_2 w2=>some (.bool c_2,w2):=by kernel_rfl
def An0:Cuts:={ globs:=0,loops:=[],regs:=[],plans:=[] }
def Bb6:List Item:=D0 Tryz.f165
theorem Bb4 (C:A8) (R:A9) (s:Option Addr) (sn sc:Nat) (h:H) :
 B9 PR An0 C R H1 Tryz.f165 100000 true Bb6 [(0,.slice s sn sc)] h =
 cond s.isNone
 (some (.slice none 0 0,h))
 (nw (.cells B0 false []) h fun b w=>gCells s (sn*1) w fun cs=>ckB (fitsOpen (some ⟨b,0,none⟩) B0 w) (apd B0 1 (some ⟨b,0,none⟩) 0 0 sn cs w fun a an ac w1=>some (.slice a an ac,w1))):=by kernel_rfl
def B15:Cuts:={ globs:=0,loops:=[],regs:=[],plans:=[] }
def Du1:List Item:=D0 Tryz.f167
theorem Gd7 (C:A8) (R:A9) (x:List Value) (fv0:Addr) (h:H) :
 B9 PR B15 C R Az1 Tryz.f167 100000 true Du1 [(0,.agg ⟨x⟩),(1,.pointer (some fv0))] h =
 nw (.cells O5 false x) h fun b w=>gInt .i64 (Addr.add ⟨b,0,none⟩ 0) w fun x_1=>gInt .i64 fv0 w fun x_2=>bnd (cond (x_1 != x_2) (gInt .i64 (Addr.add (Addr.add ⟨b,0,none⟩ 1) 1) w fun x_3=>gInt .i64 fv0 w fun x_4=>some (x_3==(IntKind.wrap .i64 (x_4+1)),w)) (some (false,w))) fun c w1=>some (.bool c,w1):=by kernel_rfl
def Af6:Cuts:={ globs:=0,loops:=[(2,[0,1,7,8])],regs:=[],plans:=[] }
def At9:List Item:=D0 Tryz.f179
def Aa4:List Item:=stk [0,1,0,0,1,4,5] At9
theorem Dl5 (C:A8) (R:A9) (s:Option Addr) (sn sc:Nat) (v:Int) (h:H) :
 B9 PR Af6 C R H9 Tryz.f179 100000 true At9 [(0,.slice s sn sc),(1,.int .i64 v)] h =
 R H9 Aa4 [(0,.slice s sn sc),(1,.int .i64 v),(7,.int .i64 ((sn:Nat):Int)),(8,.int .i64 0)] h:=by kernel_rfl
theorem A69 (C:A8) (R:A9) (s:Option Addr) (sn sc:Nat) (v:Int) (x7:Int) (x8:Int) (h:H) :
 B9 PR Af6 C R H9 Tryz.f179 100000 true Aa4 [(0,.slice s sn sc),(1,.int .i64 v),(7,.int .i64 x7),(8,.int .i64 x8)] h =
 cond (decide (x8<x7))
 (aSome s fun p=>ck ((0:Int)≤x8∧x8<((sn:Nat):Int)) (gInt .i64 (Addr.add (D5 p) (Int.toNat x8*1)) h fun x=>cond (v==x)
 (some (.int .i64 x8,h))
 (R H9 Aa4 [(0,.slice s sn sc),(1,.int .i64 v),(7,.int .i64 x7),(8,.int .i64 (IntKind.wrap .i64 (x8+1)))] h)))
 (some (.int .i64 (-1),h)):=by kernel_rfl
def Bu7:Cuts:={ globs:=0,loops:=[],regs:=[],plans:=[(1,⟨[0,1,2,3,4,5,6,7,8,9,10,11,12,13],[0,1,3,7,0,31,63,0,255,511,1023,1023,2047,8191],[],[]⟩)] }
def Dp2:List Item:=D0 Tryz.f181
theorem E55 (C:A8) (R:A9) (s:Option Addr) (env:Int) (c:List Value) (h:H) :
 B9 PR Bu7 C R Au1 Tryz.f181 100000 true Dp2 [(0,.pointer s),(1,.int .i64 env),(2,.agg ⟨c⟩)] h =
 nw (.cells P7 false c) h fun b w=>aSome s fun p=>gSl (Addr.add p 0) w fun x xn _=>aSome x fun p_1=>ck ((0:Int)≤env∧env<((xn:Nat):Int)) (gPtr (Addr.add (D5 p_1) (Int.toNat env*1)) w fun x_1=>gAgg ⟨b,0,none⟩ 6 w fun x_2=>bnd (C I5 [.pointer x_1,.agg ⟨x_2⟩] w) fun r w1=>as2 r fun r_1 r_2=>aInt .i64 r_1 fun x_3=>aBool r_2 fun x_4=>cond (!x_4)
 (some (.tuple ⟨[.int .i64 0,.int .i64 4]⟩,w1))
 (some (.tuple ⟨[.int .i64 x_3,.int .i64 0]⟩,w1))):=by kernel_rfl
def Bs3:Cuts:={ globs:=0,loops:=[],regs:=[],plans:=[] }
def Do4:List Item:=D0 Tryz.f184
theorem E34 (C:A8) (R:A9) (s:Option Addr) (e:Int) (h:H) :
 B9 PR Bs3 C R Ai9 Tryz.f184 100000 true Do4 [(0,.pointer s),(1,.int .i64 e)] h =
 bnd (cond (decide (e≥0)) (aSome s fun p=>gSl (Addr.add p 0) h fun _ xn _=>some (decide (e<((xn:Nat):Int)),h)) (some (false,h))) fun c w=>some (.bool c,w):=by kernel_rfl
def A97:Cuts:={ globs:=0,loops:=[],regs:=[],plans:=[(6,⟨[0,1,2,3,4,5,6,7,8,9,10,11,12,13,14,15,16,17,18,19,20,21],[0,0,0,4,15,31,63,127,255,511,1023,2047,4095,8191,4095,20479,53247,118783,249855,524287,1048575,2097151],[],[]⟩),(8,⟨[0,1,2,3,4,5,6,7,8,9,10,11,12,13,14,15,16,17,18,19,20,21,22,23,24,25,26,27,28,29,30],[0,1,0,0,8,24,56,0,128,504,1016,2047,4095,8191,16383,32767,16383,131071,16383,16383,540671,1589247,3686399,16383,8404991,33046527,66600959,134217727,268435455,536870911,1073741823],[],[]⟩),(10,⟨[0,1,2,3,4,5,6,7,8,9,10,11,12,13,14],[0,1,3,7,0,16,63,127,0,256,1023,0,4095,8191,16383],[],[]⟩)] }
def B14:List Item:=D0 Tryz.f186
theorem Ed4 (C:A8) (R:A9) (r:Option Addr) (e:Int) (name:Int) (right:Int) (atv:Int) (n:Int) (h:H) :
 B9 PR A97 C R Ap5 Tryz.f186 100000 true B14 [(0,.pointer r),(1,.int .i64 e),(2,.int .i64 name),(3,.int .i64 right),(4,.int .i64 atv),(5,.int .i64 n)] h =
 aSome r fun p=>gPtr (Addr.add p 3) h fun x=>bnd (C Ba1 [.pointer x,.int .i64 e,.int .i64 name] h) fun r_1 w=>as2 r_1 fun r_2 r_3=>aAgg r_2 fun x_1=>aInt .i64 r_3 fun x_2=>nw (.cells P7 false [.int .i64 0,.int .i64 0,.int .i64 0,.int .i64 0,.int .i64 0,.int .i64 0]) w fun b w1=>ck (List.length x_1=6) (pAgg ⟨b,0,none⟩ x_1 w1 fun w2=>cond (x_2 != 0)
 (some (.tuple ⟨[.int .i64 0,.int .i64 x_2]⟩,w2))
 (gInt .i64 (Addr.add ⟨b,0,none⟩ 1) w2 fun x_3=>cond ((S4 .i64 x_3 right)==0)
 (some (.tuple ⟨[.int .i64 0,.int .i64 3]⟩,w2))
 (gInt .i64 (Addr.add ⟨b,0,none⟩ 3) w2 fun x_4=>bnd (C Ag7 [.int .i64 atv,.int .i64 n,.int .i64 x_4] w2) fun r_4 w3=>aBool r_4 fun x_5=>bnd (cond (!x_5) (some (true,w3)) (gInt .i64 (Addr.add ⟨b,0,none⟩ 0) w3 fun x_6=>some (decide (x_6<0),w3))) fun c w4=>bnd (cond c (some (true,w4)) (gInt .i64 (Addr.add ⟨b,0,none⟩ 0) w4 fun x_7=>aSome r fun p_1=>gSl (Addr.add p_1 1) w4 fun _ xn _=>some (decide (x_7≥((xn:Nat):Int)),w4))) fun c_1 w5=>cond c_1
 (some (.tuple ⟨[.int .i64 0,.int .i64 1]⟩,w5))
 (gInt .i64 (Addr.add ⟨b,0,none⟩ 2) w5 fun x_9=>aSome r fun p_2=>gSl (Addr.add p_2 2) w5 fun x_10 xn_1 _=>gInt .i64 (Addr.add ⟨b,0,none⟩ 0) w5 fun x_11=>aSome x_10 fun p_3=>ck ((0:Int)≤x_11∧x_11<((xn_1:Nat):Int)) (gInt .i64 (Addr.add (D5 p_3) (Int.toNat x_11*1)) w5 fun x_12=>bnd (C Ag7 [.int .i64 x_9,.int .i64 atv,.int .i64 x_12] w5) fun r_5 w6=>aBool r_5 fun x_13=>bnd (cond (!x_13) (some (true,w6)) (gInt .i64 (Addr.add ⟨b,0,none⟩ 2) w6 fun x_14=>aSome r fun p_4=>gSl (Addr.add p_4 2) w6 fun x_15 xn_2 _=>gInt .i64 (Addr.add ⟨b,0,none⟩ 0) w6 fun x_16=>aSome x_15 fun p_5=>ck ((0:Int)≤x_16∧x_16<((xn_2:Nat):Int)) (gInt .i64 (Addr.add (D5 p_5) (Int.toNat x_16*1)) w6 fun x_17=>bnd (C Ag7 [.int .i64 (IntKind.wrap .i64 (x_14+atv)),.int .i64 n,.int .i64 x_17] w6) fun r_6 w7=>aBool r_6 fun x_18=>some (!x_18,w7)))) fun c_2 w8=>cond c_2
 (some (.tuple ⟨[.int .i64 0,.int .i64 1]⟩,w8))
 (aSome r fun p_6=>gSl (Addr.add p_6 1) w8 fun x_19 xn_3 _=>gInt .i64 (Addr.add ⟨b,0,none⟩ 0) w8 fun x_20=>aSome x_19 fun p_7=>ck ((0:Int)≤x_20∧x_20<((xn_3:Nat):Int)) (gInt .i64 (Addr.add (D5 p_7) (Int.toNat x_20*1)) w8 fun x_21=>gInt .i64 (Addr.add ⟨b,0,none⟩ 2) w8 fun x_22=>some (.tuple ⟨[.int .i64 (IntKind.wrap .i64 ((IntKind.wrap .i64 (x_21+x_22))+atv)),.int .i64 0]⟩,w8)))))))):=by kernel_rfl
def B10:Cuts:={ globs:=0,loops:=[],regs:=[],plans:=[] }
def Du0:List Item:=D0 Tryz.f202
theorem E88 (C:A8) (R:A9) (m:Option Addr) (atv:Int) (b:Option Addr) (bn bc:Nat) (h:H) :
 B9 PR B10 C R Be3 Tryz.f202 100000 true Du0 [(0,.pointer m),(1,.int .i64 atv),(2,.slice b bn bc)] h =
 bnd (C Bj1 [.pointer m,.int .i64 atv,.int .i64 ((bn:Nat):Int)] h) fun r w=>aBool r fun x=>cond (!x)
 (some (.int .i64 1,w))
 (aSome m fun p=>gSl (Addr.add p 0) w fun x_1 xn xc=>ckB (fitsOpen x_1 B0 w) (ck ((0:Int)≤atv∧atv≤((xn:Nat):Int)) (gCells b (min bn (xn-(Int.toNat atv))*1) w fun cs=>pCells (I4 x_1 (decide (Int.toNat atv<xc)) ((Int.toNat atv)*1)) cs w fun w1=>some (.int .i64 0,w1)))):=by kernel_rfl
def Bs4:Cuts:={ globs:=0,loops:=[],regs:=[],plans:=[] }
def Dq2:List Item:=D0 Tryz.f206
theorem E56 (C:A8) (R:A9) (q:Option Addr) (s:Int) (h:H) :
 B9 PR Bs4 C R Aj7 Tryz.f206 100000 true Dq2 [(0,.pointer q),(1,.int .i64 s)] h =
 bnd (cond (decide (s≥0)) (aSome q fun p=>gSl (Addr.add p 0) h fun _ xn _=>some (decide (s<((xn:Nat):Int)),h)) (some (false,h))) fun c w=>some (.bool c,w):=by kernel_rfl
def Bt7:Cuts:={ globs:=0,loops:=[],regs:=[],plans:=[(1,⟨[0,1,2,3,4,5,6,7,8,9,10,11,12,13,14,15,16,17,18,19,20,21,22,23,24,25,26,27,28],[0,1,3,7,7,23,55,119,247,511,1023,2047,4095,8191,16383,32767,4095,131071,262143,4095,528383,1576959,3674111,4095,16257023,33034239,67108863,134217727,268435455],[],[]⟩)] }
def Dq4:List Item:=D0 Tryz.f208
theorem E32 (C:A8) (R:A9) (k:Option Addr) (env:Int) (n:Int) (h:H) :
 B9 PR Bt7 C R Au2 Tryz.f208 100000 true Dq4 [(0,.pointer k),(1,.int .i64 env),(2,.int .i64 n)] h =
 bnd (cond (decide (n<0)) (some (true,h)) (aSome k fun p=>gSl (Addr.add p 6) h fun _ xn _=>some (decide (n≥((xn:Nat):Int)),h))) fun c w=>bnd (cond c (some (true,w)) (aSome k fun p_1=>gSl (Addr.add p_1 1) w fun x_1 xn_1 _=>aSome x_1 fun p_2=>ck ((0:Int)≤n∧n<((xn_1:Nat):Int)) (gSl (Addr.add (D5 p_2) (Int.toNat n*1)) w fun x_2 xn_2 xc_2=>aSome k fun p_3=>gSl (Addr.add p_3 0) w fun x_3 xn_3 _=>aSome x_3 fun p_4=>ck ((0:Int)≤env∧env<((xn_3:Nat):Int)) (gInt .i64 (Addr.add (D5 p_4) (Int.toNat env*1)) w fun x_4=>bnd (C N3 [.slice x_2 xn_2 xc_2,.int .i64 x_4] w) fun r w1=>aBool r fun x_5=>some (!x_5,w1))))) fun c_1 w2=>cond c_1
 (some (.tuple ⟨[.pointer none,.int .i64 8]⟩,w2))
 (aSome k fun p_5=>gSl (Addr.add p_5 6) w2 fun x_6 xn_4 _=>aSome x_6 fun p_6=>ck ((0:Int)≤n∧n<((xn_4:Nat):Int)) (gPtr (Addr.add (D5 p_6) (Int.toNat n*1)) w2 fun x_7=>some (.tuple ⟨[.pointer x_7,.int .i64 0]⟩,w2))):=by kernel_rfl
def U3:Cuts:={ globs:=0,loops:=[(18,[0,1,2])],regs:=[(10,[0,1,2]),(11,[0,1,2]),(14,[0,1,2]),(17,[])],plans:=[(11,⟨[0,1,2,3,4,5,6,7,8,9,10,11,12,13,14,15,16],[0,1,3,7,15,31,31,95,223,479,1023,31,2079,6175,14367,32767,65535],[],[]⟩),(18,⟨[0,1,2,3,4,5,6,7,8,9,10,11,12,13,14,15,16,17,18,19,20],[0,1,3,7,15,31,0,127,255,511,511,1535,3583,7679,16383,511,33279,98815,229887,524287,1048575],[],[]⟩)] }
def Z7:List Item:=D0 Tryz.f209
def Ao4:List Item:=stk [0,1,0,1,0,1,0,1,0,1,0,0,1,2,0,1] Z7
def Aq1:List Item:=stk [0,1,0,1,0,1,0,1,0,1,0,1,0,0] Z7
def Ao7:List Item:=stk [0,1,0,1,0,1,0,1,0,1,0,1,0,1,0,0] Z7
def Ap1:List Item:=stk [0,1,0,1,0,1,0,1,0,1,0,1,0,1,0,0,1,2,0,1,0] Z7
def Ag1:List Item:=stk [0,1,0,1,0,1,0,1,0,1,0,1,0,1,0,1,0,4,5] Z7
theorem Ev4 (C:A8) (R:A9) (s:Option Addr) (who:Int) (now:Int) (h:H) :
 B9 PR U3 C R D9 Tryz.f209 100000 true Z7 [(0,.pointer s),(1,.int .i64 who),(2,.int .i64 now)] h =
 aSome s fun p=>gInt .i64 (Addr.add p 7) h fun x=>bnd (cond (decide (who<0)) (some (true,h)) (some (decide (who>99),h))) fun c w=>cond c
 (some (.tuple ⟨[.int .i64 0,.bool false]⟩,w))
 (aSome s fun p_1=>pV (Addr.add p_1 7) (.int .i64 (mm2 true now x)) w fun w1=>aSome s fun p_2=>gBool (Addr.add p_2 1) w1 fun x_1=>bnd (cond x_1 (aSome s fun p_3=>gInt .i64 (Addr.add p_3 2) w1 fun x_2=>some (x_2==who,w1)) (some (false,w1))) fun c_1 w2=>cond c_1
 (aSome s fun p_4=>gInt .i64 (Addr.add p_4 3) w2 fun x_3=>some (.tuple ⟨[.int .i64 x_3,.bool true]⟩,w2))
 (aSome s fun p_5=>gSl (Addr.add p_5 5) w2 fun x_4 xn xc=>bnd (C N3 [.slice x_4 xn xc,.int .i64 who] w2) fun r w3=>aBool r fun x_5=>cond (!x_5)
 (aSome s fun p_6=>gSl (Addr.add p_6 5) w3 fun _ xn_1 _=>cond (((xn_1:Nat):Int)==0)
 (aSome s fun p_7=>pV (Addr.add p_7 6) (.int .i64 (mm2 true now x)) w3 fun w4=>R D9 Ao4 [(0,.pointer s),(1,.int .i64 who),(2,.int .i64 (mm2 true now x))] w4)
 (R D9 Ao4 [(0,.pointer s),(1,.int .i64 who),(2,.int .i64 (mm2 true now x))] w3))
 (R D9 Aq1 [(0,.pointer s),(1,.int .i64 who),(2,.int .i64 (mm2 true now x))] w3))):=by kernel_rfl
theorem D79 (C:A8) (R:A9) (s:Option Addr) (who:Int) (now:Int) (h:H) :
 B9 PR U3 C R D9 Tryz.f209 100000 true Ao4 [(0,.pointer s),(1,.int .i64 who),(2,.int .i64 now)] h =
 aSome s fun p=>gSl (Addr.add p 5) h fun x xn xc=>nw (.cells D6 false [.int .i64 who]) h fun b w=>gCells (some ⟨b,0,none⟩) (1*1) w fun cs=>ckB (fitsOpen x D6 w) (apd D6 1 x xn xc 1 cs w fun a an ac w1=>aSome s fun p_1=>pV (Addr.add p_1 5) (.slice a an ac) w1 fun w2=>R D9 Aq1 [(0,.pointer s),(1,.int .i64 who),(2,.int .i64 now)] w2):=by kernel_rfl
theorem Eb2 (C:A8) (R:A9) (s:Option Addr) (who:Int) (now:Int) (h:H) :
 B9 PR U3 C R D9 Tryz.f209 100000 true Aq1 [(0,.pointer s),(1,.int .i64 who),(2,.int .i64 now)] h =
 aSome s fun p=>gBool (Addr.add p 1) h fun x=>bnd (cond x (aSome s fun p_1=>gInt .i64 (Addr.add p_1 4) h fun x_1=>aSome s fun p_2=>gInt .i64 (Addr.add p_2 0) h fun x_2=>some (decide ((IntKind.wrap .i64 (now-x_1))≥x_2),h)) (some (false,h))) fun c w=>cond c
 (aSome s fun p_3=>pV (Addr.add p_3 1) (.bool false) w fun w1=>aSome s fun p_4=>pV (Addr.add p_4 6) (.int .i64 now) w1 fun w2=>R D9 Ao7 [(0,.pointer s),(1,.int .i64 who),(2,.int .i64 now)] w2)
 (R D9 Ao7 [(0,.pointer s),(1,.int .i64 who),(2,.int .i64 now)] w):=by kernel_rfl
theorem Ea1 (C:A8) (R:A9) (s:Option Addr) (who:Int) (now:Int) (h:H) :
 B9 PR U3 C R D9 Tryz.f209 100000 true Ao7 [(0,.pointer s),(1,.int .i64 who),(2,.int .i64 now)] h =
 aSome s fun p=>gBool (Addr.add p 1) h fun x=>cond x
 (aSome s fun p_1=>gSl (Addr.add p_1 5) h fun x_1 xn _=>aSome x_1 fun p_2=>ck ((0:Int)≤0∧0<((xn:Nat):Int)) (gInt .i64 (Addr.add (D5 p_2) (Int.toNat 0*1)) h fun x_2=>cond (x_2==who)
 (aSome s fun p_3=>pV (Addr.add p_3 6) (.int .i64 now) h fun w=>R D9 Ap1 [] w)
 (R D9 Ap1 [] h)))
 (R D9 Ag1 [(0,.pointer s),(1,.int .i64 who),(2,.int .i64 now)] h):=by kernel_rfl
theorem D90 (C:A8) (R:A9)  (h:H) :
 B9 PR U3 C R D9 Tryz.f209 100000 true Ap1 [] h =
 some (.tuple ⟨[.int .i64 0,.bool false]⟩,h):=by kernel_rfl
theorem By2 (C:A8) (R:A9) (s:Option Addr) (who:Int) (now:Int) (h:H) :
 B9 PR U3 C R D9 Tryz.f209 100000 true Ag1 [(0,.pointer s),(1,.int .i64 who),(2,.int .i64 now)] h =
 aSome s fun p=>gSl (Addr.add p 5) h fun x xn _=>aSome x fun p_1=>ck ((0:Int)≤0∧0<((xn:Nat):Int)) (gInt .i64 (Addr.add (D5 p_1) (Int.toNat 0*1)) h fun x_1=>bnd (cond (x_1 != who) (aSome s fun p_2=>gInt .i64 (Addr.add p_2 6) h fun x_2=>aSome s fun p_3=>gInt .i64 (Addr.add p_3 0) h fun x_3=>some (decide ((IntKind.wrap .i64 (now-x_2))≥x_3),h)) (some (false,h))) fun c w=>cond c
 (aSome s fun p_4=>gSl (Addr.add p_4 5) w fun x_4 xn_1 xc_1=>ckB (fitsOpen x_4 D6 w) (ck ((0:Int)≤1∧1≤((xn_1:Nat):Int)) (aSome s fun p_5=>pV (Addr.add p_5 5) (.slice (I4 x_4 (decide (Int.toNat 1<xc_1)) ((Int.toNat 1)*1)) (xn_1-(Int.toNat 1)) (xc_1-(Int.toNat 1))) w fun w1=>aSome s fun p_6=>pV (Addr.add p_6 6) (.int .i64 now) w1 fun w2=>R D9 Ag1 [(0,.pointer s),(1,.int .i64 who),(2,.int .i64 now)] w2)))
 (aSome s fun p_7=>gSl (Addr.add p_7 5) w fun x_5 xn_2 _=>aSome x_5 fun p_8=>ck ((0:Int)≤0∧0<((xn_2:Nat):Int)) (gInt .i64 (Addr.add (D5 p_8) (Int.toNat 0*1)) w fun x_6=>cond (x_6 != who)
 (some (.tuple ⟨[.int .i64 0,.bool false]⟩,w))
 (aSome s fun p_9=>gSl (Addr.add p_9 5) w fun x_7 xn_3 xc_3=>ckB (fitsOpen x_7 D6 w) (ck ((0:Int)≤1∧1≤((xn_3:Nat):Int)) (aSome s fun p_10=>pV (Addr.add p_10 5) (.slice (I4 x_7 (decide (Int.toNat 1<xc_3)) ((Int.toNat 1)*1)) (xn_3-(Int.toNat 1)) (xc_3-(Int.toNat 1))) w fun w3=>aSome s fun p_11=>pV (Addr.add p_11 6) (.int .i64 now) w3 fun w4=>aSome s fun p_12=>gInt .i64 (Addr.add p_12 8) w4 fun x_8=>aSome s fun p_13=>pV (Addr.add p_13 8) (.int .i64 (IntKind.wrap .i64 (x_8+1))) w4 fun w5=>aSome s fun p_14=>gInt .i64 (Addr.add p_14 8) w5 fun x_9=>aSome s fun p_15=>pV (Addr.add p_15 1) (.bool true) w5 fun w6=>aSome s fun p_16=>pV (Addr.add p_16 2) (.int .i64 who) w6 fun w7=>aSome s fun p_17=>pV (Addr.add p_17 3) (.int .i64 x_9) w7 fun w8=>aSome s fun p_18=>pV (Addr.add p_18 4) (.int .i64 now) w8 fun w9=>aSome s fun p_19=>gInt .i64 (Addr.add p_19 3) w9 fun x_10=>some (.tuple ⟨[.int .i64 x_10,.bool true]⟩,w9))))))):=by kernel_rfl
def A72:Cuts:={ globs:=0,loops:=[],regs:=[],plans:=[] }
def B06:List Item:=D0 Tryz.f211
theorem D94 (C:A8) (R:A9) (size:Int) (put:Value) (get:Value) (h:H) :
 B9 PR A72 C R Ap0 Tryz.f211 100000 true B06 [(0,.int .i64 size),(1,put),(2,get)] h =
 one put (one get (nw (.cells Bo9 false [.int .i64 (mm2 false (mm2 true size 0) 64),put,get]) h fun b w=>some (.pointer (some ⟨b,0,none⟩),w))):=by kernel_rfl
def Bd0:Cuts:={ globs:=0,loops:=[(4,[1,2,22,23,24]),(9,[1,2,43,44,45]),(14,[1,58,59])],regs:=[],plans:=[] }
def Bo2:List Item:=D0 Tryz.f212
def B51:List Item:=stk [0,1,0,1,0,0,1,4,5] Bo2
def B81:List Item:=stk [0,1,0,1,0,1,0,0,1,4,5] Bo2
def B54:List Item:=stk [0,1,0,1,0,1,0,1,0,0,1,4,5] Bo2
theorem Ha9 (C:A8) (R:A9) (p:List Value) (b:Option Addr) (bn bc:Nat) (h:H) :
 B9 PR Bd0 C R O4 Tryz.f212 100000 true Bo2 [(0,.agg ⟨p⟩),(1,.slice b bn bc)] h =
 nw (.cells E1 false p) h fun b_1 w=>gAgg ⟨b_1,0,none⟩ 16 w fun x=>bnd (C Dj9 [.agg ⟨x⟩] w) fun r w1=>aBool r fun x_1=>cond (!x_1)
 (some (.bool false,w1))
 (gInt .i64 (Addr.add ⟨b_1,0,none⟩ 0) w1 fun x_2=>gInt .i64 (Addr.add ⟨b_1,0,none⟩ 1) w1 fun x_3=>gInt .i64 (Addr.add ⟨b_1,0,none⟩ 2) w1 fun x_4=>gInt .i64 (Addr.add ⟨b_1,0,none⟩ 3) w1 fun x_5=>nw (.cells D6 false [.int .i64 x_2,.int .i64 x_3,.int .i64 x_4,.int .i64 x_5]) w1 fun b_2 w2=>R O4 B51 [(1,.slice b bn bc),(2,.pointer (some ⟨b_1,0,none⟩)),(22,.slice (some ⟨b_2,0,none⟩) 4 4),(23,.int .i64 4),(24,.int .i64 0)] w2):=by kernel_rfl
theorem A47 (C:A8) (R:A9) (b:Option Addr) (bn bc:Nat) (p:Addr) (x22:Option Addr) (x22n x22c:Nat) (x23:Int) (x24:Int) (h:H) :
 B9 PR Bd0 C R O4 Tryz.f212 100000 true B51 [(1,.slice b bn bc),(2,.pointer (some p)),(22,.slice x22 x22n x22c),(23,.int .i64 x23),(24,.int .i64 x24)] h =
 cond (decide (x24<x23))
 (aSome x22 fun p_1=>ck ((0:Int)≤x24∧x24<((x22n:Nat):Int)) (gInt .i64 (Addr.add (D5 p_1) (Int.toNat x24*1)) h fun x=>aSome b fun p_2=>ck ((0:Int)≤x24∧x24<((bn:Nat):Int)) (pV (Addr.add (D5 p_2) (Int.toNat x24*1)) (.int .u8 (IntKind.wrap .u8 (x))) h fun w=>R O4 B51 [(1,.slice b bn bc),(2,.pointer (some p)),(22,.slice x22 x22n x22c),(23,.int .i64 x23),(24,.int .i64 (IntKind.wrap .i64 (x24+1)))] w)))
 (gInt .i64 (Addr.add p 4) h fun x_1=>gInt .i64 (Addr.add p 5) h fun x_2=>gInt .i64 (Addr.add p 6) h fun x_3=>gInt .i64 (Addr.add p 7) h fun x_4=>nw (.cells D6 false [.int .i64 x_1,.int .i64 x_2,.int .i64 x_3,.int .i64 x_4]) h fun b_1 w1=>R O4 B81 [(1,.slice b bn bc),(2,.pointer (some p)),(43,.slice (some ⟨b_1,0,none⟩) 4 4),(44,.int .i64 4),(45,.int .i64 0)] w1):=by kernel_rfl
theorem A57 (C:A8) (R:A9) (b:Option Addr) (bn bc:Nat) (p:Addr) (x43:Option Addr) (x43n x43c:Nat) (x44:Int) (x45:Int) (h:H) :
 B9 PR Bd0 C R O4 Tryz.f212 100000 true B81 [(1,.slice b bn bc),(2,.pointer (some p)),(43,.slice x43 x43n x43c),(44,.int .i64 x44),(45,.int .i64 x45)] h =
 cond (decide (x45<x44))
 (aSome x43 fun p_1=>ck ((0:Int)≤x45∧x45<((x43n:Nat):Int)) (gInt .i64 (Addr.add (D5 p_1) (Int.toNat x45*1)) h fun x=>bnd (C Bi1 [.slice b bn bc,.int .i64 (IntKind.wrap .i64 (4+(IntKind.wrap .i64 (2*x45)))),.int .i64 x] h) fun r w=>aBool r fun _=>R O4 B81 [(1,.slice b bn bc),(2,.pointer (some p)),(43,.slice x43 x43n x43c),(44,.int .i64 x44),(45,.int .i64 (IntKind.wrap .i64 (x45+1)))] w))
 (gAgg (Addr.add p 8) 8 h fun x_2=>R O4 B54 [(1,.slice b bn bc),(58,.agg ⟨x_2⟩),(59,.int .i64 0)] h):=by kernel_rfl
theorem W9 (C:A8) (R:A9) (b:Option Addr) (bn bc:Nat) (x58:List Value) (x59:Int) (h:H) :
 B9 PR Bd0 C R O4 Tryz.f212 100000 true B54 [(1,.slice b bn bc),(58,.agg ⟨x58⟩),(59,.int .i64 x59)] h =
 cond (decide (x59<8))
 (ck ((0:Int)≤x59∧x59<((8:Nat):Int)) (nth x58 (Int.toNat x59*1) fun x=>aInt .i64 x fun x_1=>aSome b fun p=>ck ((0:Int)≤IntKind.wrap .i64 (12+x59)∧IntKind.wrap .i64 (12+x59)<((bn:Nat):Int)) (pV (Addr.add (D5 p) (Int.toNat (IntKind.wrap .i64 (12+x59))*1)) (.int .u8 (IntKind.wrap .u8 (x_1))) h fun w=>R O4 B54 [(1,.slice b bn bc),(58,.agg ⟨x58⟩),(59,.int .i64 (IntKind.wrap .i64 (x59+1)))] w)))
 (aSome b fun p_1=>ck ((0:Int)≤20∧20<((bn:Nat):Int)) (pV (Addr.add (D5 p_1) (Int.toNat 20*1)) (.int .u8 167) h fun w1=>ckB (fitsOpen b B0 w1) (ck ((0:Int)≤21∧21≤((bc:Nat):Int)) (bnd (C Ab1 [.slice (I4 b (decide (0<bc)) (0*1)) ((Int.toNat 21)-0) (bc-0)] w1) fun r w2=>aInt .u8 r fun x_2=>aSome b fun p_2=>ck ((0:Int)≤21∧21<((bn:Nat):Int)) (pV (Addr.add (D5 p_2) (Int.toNat 21*1)) (.int .u8 x_2) w2 fun w3=>some (.bool true,w3)))))):=by kernel_rfl
def Eq9:Cuts:={ globs:=0,loops:=[],regs:=[],plans:=[] }
def Go6:List Item:=D0 Tryz.f223
theorem Ht2 (C:A8) (R:A9) (p:List Value) (h:H) :
 B9 PR Eq9 C R Dt7 Tryz.f223 100000 true Go6 [(0,.agg ⟨p⟩)] h =
 nw (.cells I9 false p) h fun b w=>gInt .i64 (Addr.add ⟨b,0,none⟩ 0) w fun x=>bnd (C Ar7 [.int .i64 x,.int .i64 31] w) fun r w1=>aBool r fun x_1=>bnd (cond x_1 (gInt .i64 (Addr.add ⟨b,0,none⟩ 1) w1 fun x_2=>bnd (C Ar7 [.int .i64 x_2,.int .i64 32] w1) fun r_1 w2=>aBool r_1 fun x_3=>some (x_3,w2)) (some (false,w1))) fun c w3=>bnd (cond c (gInt .i64 (Addr.add ⟨b,0,none⟩ 2) w3 fun x_4=>bnd (C Ar7 [.int .i64 x_4,.int .i64 8] w3) fun r_2 w4=>aBool r_2 fun x_5=>some (x_5,w4)) (some (false,w3))) fun c_1 w5=>bnd (cond c_1 (gInt .i64 (Addr.add ⟨b,0,none⟩ 3) w5 fun x_6=>bnd (C Ar7 [.int .i64 x_6,.int .i64 8] w5) fun r_3 w6=>aBool r_3 fun x_7=>some (x_7,w6)) (some (false,w5))) fun c_2 w7=>some (.bool c_2,w7):=by kernel_rfl
def Ac6:Cuts:={ globs:=0,loops:=[(4,[0,1,12,13])],regs:=[],plans:=[(6,⟨[0,1,2,3,4,5,6,7,8],[0,0,3,7,0,0,48,112,255],[],[]⟩)] }
def Am4:List Item:=D0 Tryz.f224
def V3:List Item:=stk [0,1,0,1,0,0,1,4,5] Am4
theorem Dd5 (C:A8) (R:A9) (s1:Option Addr) (s1n s1c:Nat) (s2:Option Addr) (s2n s2c:Nat) (h:H) :
 B9 PR Ac6 C R E3 Tryz.f224 100000 true Am4 [(0,.slice s1 s1n s1c),(1,.slice s2 s2n s2c)] h =
 cond (((s1n:Nat):Int) != ((s2n:Nat):Int))
 (some (.bool false,h))
 (R E3 V3 [(0,.slice s1 s1n s1c),(1,.slice s2 s2n s2c),(12,.int .i64 ((s1n:Nat):Int)),(13,.int .i64 0)] h):=by kernel_rfl
theorem A24 (C:A8) (R:A9) (s1:Option Addr) (s1n s1c:Nat) (s2:Option Addr) (s2n s2c:Nat) (x12:Int) (x13:Int) (h:H) :
 B9 PR Ac6 C R E3 Tryz.f224 100000 true V3 [(0,.slice s1 s1n s1c),(1,.slice s2 s2n s2c),(12,.int .i64 x12),(13,.int .i64 x13)] h =
 cond (decide (x13<x12))
 (aSome s1 fun p=>ck ((0:Int)≤x13∧x13<((s1n:Nat):Int)) (gInt .u8 (Addr.add (D5 p) (Int.toNat x13*1)) h fun x=>aSome s2 fun p_1=>ck ((0:Int)≤x13∧x13<((s2n:Nat):Int)) (gInt .u8 (Addr.add (D5 p_1) (Int.toNat x13*1)) h fun x_1=>cond (x != x_1)
 (some (.bool false,h))
 (R E3 V3 [(0,.slice s1 s1n s1c),(1,.slice s2 s2n s2c),(12,.int .i64 x12),(13,.int .i64 (IntKind.wrap .i64 (x13+1)))] h))))
 (some (.bool true,h)):=by kernel_rfl
def U5:Cuts:={ globs:=0,loops:=[(2,[0,1,7,8])],regs:=[],plans:=[] }
def Af3:List Item:=D0 Tryz.f225
def Q3:List Item:=stk [0,1,0,0,1,4,5] Af3
theorem B25 (C:A8) (R:A9) (s:Option Addr) (sn sc:Nat) (f:Value) (h:H) :
 B9 PR U5 C R G6 Tryz.f225 100000 true Af3 [(0,.slice s sn sc),(1,f)] h =
 R G6 Q3 [(0,.slice s sn sc),(1,f),(7,.int .i64 ((sn:Nat):Int)),(8,.int .i64 0)] h:=by kernel_rfl
theorem Ar5 (C:A8) (R:A9) (s:Option Addr) (sn sc:Nat) (f:Value) (x7:Int) (x8:Int) (h:H) :
 B9 PR U5 C R G6 Tryz.f225 100000 true Q3 [(0,.slice s sn sc),(1,f),(7,.int .i64 x7),(8,.int .i64 x8)] h =
 cond (decide (x8<x7))
 (aSome s fun p=>ck ((0:Int)≤x8∧x8<((sn:Nat):Int)) (gInt .u8 (Addr.add (D5 p) (Int.toNat x8*1)) h fun x=>aFn f fun g fi cp=>bnd (C g (fi++([.int .u8 x]++cp)) h) fun r w=>aBool r fun x_1=>cond x_1
 (some (.int .i64 x8,w))
 (R G6 Q3 [(0,.slice s sn sc),(1,f),(7,.int .i64 x7),(8,.int .i64 (IntKind.wrap .i64 (x8+1)))] w)))
 (some (.int .i64 (-1),h)):=by kernel_rfl
def D78:Cuts:={ globs:=0,loops:=[],regs:=[],plans:=[] }
def Gb2:List Item:=D0 Tryz.f231
theorem Hh8 (C:A8) (R:A9) (p:List Value) (h:H) :
 B9 PR D78 C R Dj9 Tryz.f231 100000 true Gb2 [(0,.agg ⟨p⟩)] h =
 nw (.cells E1 false p) h fun b w=>gInt .i64 (Addr.add ⟨b,0,none⟩ 0) w fun x=>bnd (cond (decide (x<1)) (some (true,w)) (gInt .i64 (Addr.add ⟨b,0,none⟩ 0) w fun x_1=>some (decide (x_1>3),w))) fun c w1=>bnd (cond c (some (true,w1)) (gInt .i64 (Addr.add ⟨b,0,none⟩ 1) w1 fun x_2=>some (decide (x_2<0),w1))) fun c_1 w2=>bnd (cond c_1 (some (true,w2)) (gInt .i64 (Addr.add ⟨b,0,none⟩ 1) w2 fun x_3=>some (decide (x_3>8),w2))) fun c_2 w3=>bnd (cond c_2 (some (true,w3)) (gInt .i64 (Addr.add ⟨b,0,none⟩ 2) w3 fun x_4=>some (decide (x_4<0),w3))) fun c_3 w4=>bnd (cond c_3 (some (true,w4)) (gInt .i64 (Addr.add ⟨b,0,none⟩ 2) w4 fun x_5=>some (decide (x_5≥8),w4))) fun c_4 w5=>bnd (cond c_4 (some (true,w5)) (gInt .i64 (Addr.add ⟨b,0,none⟩ 3) w5 fun x_6=>some (decide (x_6<0),w5))) fun c_5 w6=>bnd (cond c_5 (some (true,w6)) (gInt .i64 (Addr.add ⟨b,0,none⟩ 3) w6 fun x_7=>some (decide (x_7>255),w6))) fun c_6 w7=>cond c_6
 (some (.bool false,w7))
 (gInt .i64 (Addr.add ⟨b,0,none⟩ 4) w7 fun x_8=>bnd (C Al5 [.int .i64 x_8,.int .i64 0] w7) fun r w8=>aBool r fun x_9=>bnd (cond (!x_9) (some (true,w8)) (gInt .i64 (Addr.add ⟨b,0,none⟩ 5) w8 fun x_10=>bnd (C Al5 [.int .i64 x_10,.int .i64 16896] w8) fun r_1 w9=>aBool r_1 fun x_11=>some (!x_11,w9))) fun c_7 w10=>bnd (cond c_7 (some (true,w10)) (gInt .i64 (Addr.add ⟨b,0,none⟩ 6) w10 fun x_12=>bnd (C Al5 [.int .i64 x_12,.int .i64 16896] w10) fun r_2 w11=>aBool r_2 fun x_13=>some (!x_13,w11))) fun c_8 w12=>bnd (cond c_8 (some (true,w12)) (gInt .i64 (Addr.add ⟨b,0,none⟩ 7) w12 fun x_14=>bnd (C Al5 [.int .i64 x_14,.int .i64 16896] w12) fun r_3 w13=>aBool r_3 fun x_15=>some (!x_15,w13))) fun c_9 w14=>bnd (cond c_9 (some (true,w14)) (gInt .i64 (Addr.add ⟨b,0,none⟩ 6) w14 fun x_16=>gInt .i64 (Addr.add ⟨b,0,none⟩ 7) w14 fun x_17=>some ((S4 .i64 x_16 x_17) != 0,w14))) fun c_10 w15=>cond c_10
 (some (.bool false,w15))
 (ckB (liveA (Addr.add ⟨b,0,none⟩ 8) w15) (bnd (C G3 [.slice (I4 (some (Addr.add ⟨b,0,none⟩ 8)) (decide (0<8)) (0*1)) (8-0) (8-0),.func (.func Bh1) ⟨[]⟩ ⟨[]⟩] w15) fun r_4 w16=>aBool r_4 fun x_18=>cond x_18
 (some (.bool false,w16))
 (gInt .i64 (Addr.add ⟨b,0,none⟩ 0) w16 fun x_19=>cond (x_19==2)
 (gInt .i64 (Addr.add ⟨b,0,none⟩ 4) w16 fun x_20=>bnd (cond (x_20==0) (gAgg (Addr.add ⟨b,0,none⟩ 8) 8 w16 fun x_21=>B98 PR Gj0 x_21 [.int .i64 0,.int .i64 0,.int .i64 0,.int .i64 0,.int .i64 0,.int .i64 0,.int .i64 0,.int .i64 0] fun eq=>some (eq,w16)) (some (false,w16))) fun c_11 w17=>some (.bool c_11,w17))
 (gInt .i64 (Addr.add ⟨b,0,none⟩ 3) w16 fun x_22=>some (.bool (x_22==0),w16)))))):=by kernel_rfl
def D06:Cuts:={ globs:=0,loops:=[],regs:=[],plans:=[] }
def E04:List Item:=D0 Tryz.f235
theorem G76 (C:A8) (R:A9) (n:Int) (D3:Int) (h:H) :
 B9 PR D06 C R Ar7 Tryz.f235 100000 true E04 [(0,.int .i64 n),(1,.int .i64 D3)] h =
 bnd (cond (decide (n≥0)) (some (decide (n≤D3),h)) (some (false,h))) fun c w=>some (.bool c,w):=by kernel_rfl
end
end Go.EQ

set_option maxRecDepth 100000
namespace Go.EQ
open Go Go.NN Go.Proofs
variable (C : A8) (R : A9)
noncomputable section
def Dn0:Cuts:={ globs:=0,loops:=[],regs:=[],plans:=[] }
def Eo9:List Item:=D0 Tryz.f13
theorem Gx7 (C:A8) (R:A9) (p:List Value) (h:H) :
 B9 PR Dn0 C R Bj3 Tryz.f13 100000 true Eo9 [(0,.agg ⟨p⟩)] h =
 nw (.cells Bz4 false p) h fun b w=>gAgg ⟨b,0,none⟩ 3 w fun x=>bnd (C J6 [.agg ⟨x⟩] w) fun r w1=>aAgg r fun x_1=>nw (.cells E9 false [.slice none 0 0,.slice none 0 0,.slice none 0 0,.int .i64 0,.slice none 0 0]) w1 fun b_1 w2=>ck (List.length x_1=5) (pAgg ⟨b_1,0,none⟩ x_1 w2 fun w3=>gAgg ⟨b_1,0,none⟩ 5 w3 fun x_2=>bnd (C I3 [.agg ⟨x_2⟩] w3) fun r_1 w4=>as2 r_1 fun r_2 r_3=>aPtr r_2 fun x_3=>aInt .i64 r_3 fun x_4=>bnd (cond x_3.isNone (some (true,w4)) (some (x_4 != 0,w4))) fun c w5=>cond c
 (some (.tuple ⟨[.pointer none,.pointer none,.pointer none,.pointer none]⟩,w5))
 (gAgg ⟨b_1,0,none⟩ 5 w5 fun x_5=>bnd (C G8 [.agg ⟨x_5⟩] w5) fun r_4 w6=>aPtr r_4 fun x_6=>bnd (C Br8 [.pointer x_3,.int .i64 0] w6) fun r_5 w7=>as2 r_5 fun r_6 r_7=>aPtr r_6 fun x_7=>aInt .i64 r_7 fun x_8=>bnd (cond x_7.isNone (some (true,w7)) (some (x_8 != 0,w7))) fun c_1 w8=>cond c_1
 (some (.tuple ⟨[.pointer none,.pointer none,.pointer none,.pointer none]⟩,w8))
 (bnd (C Bb8 [] w8) fun r_8 w9=>aStr r_8 fun x_9=>ck (ByteArray.size x_9≤D3) (nw (.cells B0 false (A0 (ByteArray.data x_9).toList)) w9 fun b_2 w10=>bnd (C U1 [.pointer x_3,.int .i64 0,.agg ⟨[.int .i64 2,.int .i64 256,.int .i64 0,.int .i64 0,.int .i64 0,.int .i64 0,.slice (some (M0 b_2)) (ByteArray.size x_9) (ByteArray.size x_9)]⟩] w10) fun r_9 w11=>aAgg r_9 fun x_10=>nth x_10 0 fun E=>aInt .i64 E fun E_1=>cond (E_1 != 0)
 (some (.tuple ⟨[.pointer none,.pointer none,.pointer none,.pointer none]⟩,w11))
 (ck (ByteArray.size x_9≤D3) (nw (.cells B0 false (A0 (ByteArray.data x_9).toList)) w11 fun b_3 w12=>bnd (C As2 [.pointer x_6,.int .i64 0,.agg ⟨[.int .i64 2,.int .i64 256,.int .i64 0,.int .i64 0,.int .i64 0,.int .i64 0,.slice (some (M0 b_3)) (ByteArray.size x_9) (ByteArray.size x_9)]⟩] w12) fun r_10 w13=>as3 r_10 fun r_11 r_12 r_13=>aInt .i64 r_11 fun _=>aInt .i64 r_12 fun _=>aStr r_13 fun _=>bnd (C Ax4 [.pointer x_6,.int .i64 0] w13) fun r_14 w14=>aPtr r_14 fun x_14=>some (.tuple ⟨[.pointer x_3,.pointer x_7,.pointer x_6,.pointer x_14]⟩,w14))))))):=by kernel_rfl
def Ap7:Cuts:={ globs:=0,loops:=[],regs:=[],plans:=[] }
def Bf4:List Item:=D0 Tryz.f17
theorem Dh6 (C:A8) (R:A9) (c:Option Addr) (i:Int) (p:List Value) (h:H) :
 B9 PR Ap7 C R Ae5 Tryz.f17 100000 true Bf4 [(0,.pointer c),(1,.int .i64 i),(2,.agg ⟨p⟩)] h =
 nw (.cells I9 false p) h fun b w=>gAgg ⟨b,0,none⟩ 36 w fun x=>bnd (C Ba6 [.agg ⟨x⟩] w) fun r w1=>as2 r fun r_1 r_2=>aSl r_1 fun x_1 xn xc=>aBool r_2 fun x_2=>bnd (C As4 [.int .i64 i] w1) fun r_3 w2=>aAgg r_3 fun x_3=>bnd (C L0 [.pointer c,.agg ⟨x_3⟩,.slice x_1 xn xc,.bool x_2] w2) fun r_4 w3=>aBool r_4 fun x_4=>some (.bool x_4,w3):=by kernel_rfl
def A32:Cuts:={ globs:=0,loops:=[(4,[1,3,4])],regs:=[],plans:=[(2,⟨[0,1,2,5,6,9,10,13,14,3,4,7,8,11,12,15,16,17],[0,0,2,6,15,0,32,110,255,0,512,1774,4095,0,8192,28398,65535,131071],[(3,[6,10,14]),(7,[10,14]),(11,[14])],[]⟩)] }
def Bn1:List Item:=D0 Tryz.f20
def Ao1:List Item:=stk [0,1,0,1,0,1,0,0,1,4,5] Bn1
theorem Ev6 (C:A8) (R:A9) (p:List Value) (h:H) :
 B9 PR A32 C R U4 Tryz.f20 100000 true Bn1 [(0,.agg ⟨p⟩)] h =
 nw (.cells E1 false p) h fun b w=>gInt .i64 (Addr.add ⟨b,0,none⟩ 0) w fun x=>gInt .i64 (Addr.add ⟨b,0,none⟩ 1) w fun x_1=>gInt .i64 (Addr.add ⟨b,0,none⟩ 2) w fun x_2=>gInt .i64 (Addr.add ⟨b,0,none⟩ 3) w fun x_3=>nw (.cells B0 false [.int .u8 (IntKind.wrap .u8 (x)),.int .u8 (IntKind.wrap .u8 (x_1)),.int .u8 (IntKind.wrap .u8 (x_2)),.int .u8 (IntKind.wrap .u8 (x_3))]) w fun b_1 w1=>gCells (some ⟨b_1,0,none⟩) 4 w1 fun cs=>asBytes cs fun l=>gInt .i64 (Addr.add ⟨b,0,none⟩ 4) w1 fun x_4=>gInt .i64 (Addr.add ⟨b,0,none⟩ 5) w1 fun x_5=>gInt .i64 (Addr.add ⟨b,0,none⟩ 6) w1 fun x_6=>gInt .i64 (Addr.add ⟨b,0,none⟩ 7) w1 fun x_7=>bnd (C A94 [.int .i64 x_4] w1) fun r w2=>aStr r fun x_8=>gInt .i64 (Addr.add ⟨b,0,none⟩ 5) w2 fun x_9=>same (.int .i64 x_5) (.int .i64 x_9) (gInt .i64 (Addr.add ⟨b,0,none⟩ 6) w2 fun x_10=>same (.int .i64 x_6) (.int .i64 x_10) (gInt .i64 (Addr.add ⟨b,0,none⟩ 7) w2 fun x_11=>same (.int .i64 x_7) (.int .i64 x_11) (ck (ByteArray.size (ByteArray.mk ⟨l⟩)+ByteArray.size x_8≤D3) (bnd (C A94 [.int .i64 x_5] w2) fun r_1 w3=>aStr r_1 fun x_12=>gInt .i64 (Addr.add ⟨b,0,none⟩ 6) w3 fun x_13=>same (.int .i64 x_6) (.int .i64 x_13) (gInt .i64 (Addr.add ⟨b,0,none⟩ 7) w3 fun x_14=>same (.int .i64 x_7) (.int .i64 x_14) (ck (ByteArray.size ((ByteArray.mk ⟨l⟩)++x_8)+ByteArray.size x_12≤D3) (bnd (C A94 [.int .i64 x_6] w3) fun r_2 w4=>aStr r_2 fun x_15=>gInt .i64 (Addr.add ⟨b,0,none⟩ 7) w4 fun x_16=>same (.int .i64 x_7) (.int .i64 x_16) (ck (ByteArray.size (((ByteArray.mk ⟨l⟩)++x_8)++x_12)+ByteArray.size x_15≤D3) (bnd (C A94 [.int .i64 x_7] w4) fun r_3 w5=>aStr r_3 fun x_17=>ck (ByteArray.size ((((ByteArray.mk ⟨l⟩)++x_8)++x_12)++x_15)+ByteArray.size x_17≤D3) (R U4 Ao1 [(1,.pointer (some ⟨b,0,none⟩)),(3,.string (((((ByteArray.mk ⟨l⟩)++x_8)++x_12)++x_15)++x_17)),(4,.int .i64 0)] w5)))))))))):=by kernel_rfl
theorem B31 (C:A8) (R:A9) (p:Addr) (s:ByteArray) (i:Int) (h:H) :
 B9 PR A32 C R U4 Tryz.f20 100000 true Ao1 [(1,.pointer (some p)),(3,.string s),(4,.int .i64 i)] h =
 cond (decide (i<8))
 (ck ((0:Int)≤i∧i<((8:Nat):Int)) (gInt .i64 (Addr.add (Addr.add p 8) (Int.toNat i*1)) h fun x=>nw (.cells B0 false [.int .u8 (IntKind.wrap .u8 (x))]) h fun b w=>gCells (some ⟨b,0,none⟩) 1 w fun cs=>asBytes cs fun l=>ck (ByteArray.size s+ByteArray.size (ByteArray.mk ⟨l⟩)≤D3) (R U4 Ao1 [(1,.pointer (some p)),(3,.string (s++(ByteArray.mk ⟨l⟩))),(4,.int .i64 (IntKind.wrap .i64 (i+1)))] w)))
 (ck (ByteArray.size s+ByteArray.size (ByteArray.mk ⟨[167]⟩)≤D3) (bnd (C Ag0 [.string (s++(ByteArray.mk ⟨[167]⟩))] h) fun r w1=>aInt .u8 r fun x_1=>nw (.cells B0 false [.int .u8 x_1,.int .u8 0,.int .u8 0]) w1 fun b_1 w2=>gCells (some ⟨b_1,0,none⟩) 3 w2 fun cs_1=>asBytes cs_1 fun l_1=>ck (ByteArray.size (s++(ByteArray.mk ⟨[167]⟩))+ByteArray.size (ByteArray.mk ⟨l_1⟩)≤D3) (some (.string ((s++(ByteArray.mk ⟨[167]⟩))++(ByteArray.mk ⟨l_1⟩)),w2)))):=by kernel_rfl
def Am3:Cuts:={ globs:=0,loops:=[],regs:=[],plans:=[] }
def Ba9:List Item:=D0 Tryz.f25
theorem De0 (C:A8) (R:A9) (c:Option Addr) (i:Int) (h:H) :
 B9 PR Am3 C R J9 Tryz.f25 100000 true Ba9 [(0,.pointer c),(1,.int .i64 i)] h =
 bnd (C As3 [.int .i64 i] h) fun r w=>aAgg r fun x=>bnd (C Q7 [.pointer c,.agg ⟨x⟩] w) fun r_1 w1=>aBool r_1 fun x_1=>some (.bool x_1,w1):=by kernel_rfl
def Dd9:Cuts:={ globs:=0,loops:=[],regs:=[],plans:=[(5,⟨[0,1,2,3,4],[0,1,0,4,15],[(3,[1])],[]⟩)] }
def Ee4:List Item:=D0 Tryz.f32
theorem Gq6 (C:A8) (R:A9)  (h:H) :
 B9 PR Dd9 C R Bc2 Tryz.f32 100000 true Ee4 [] h =
 bnd (C Bb8 [] h) fun r w=>aStr r fun x=>ck (ByteArray.size x≤D3) (nw (.cells B0 false (A0 (ByteArray.data x).toList)) w fun b w1=>nw (.cells E1 false [.int .i64 0,.int .i64 0,.int .i64 0,.int .i64 0,.int .i64 0,.int .i64 0,.int .i64 0,.int .i64 0,.int .i64 0,.int .i64 0,.int .i64 0,.int .i64 0,.int .i64 0,.int .i64 0,.int .i64 0,.int .i64 0]) w1 fun b_1 w2=>pAgg ⟨b_1,0,none⟩ [.int .i64 1,.int .i64 0,.int .i64 0,.int .i64 0,.int .i64 0,.int .i64 0,.int .i64 0,.int .i64 0,.int .i64 0,.int .i64 0,.int .i64 0,.int .i64 0,.int .i64 0,.int .i64 0,.int .i64 0,.int .i64 0] w2 fun w3=>ck ((0:Int)≤0∧0<((8:Nat):Int)) (pV (Addr.add (Addr.add ⟨b_1,0,none⟩ 8) (Int.toNat 0*1)) (.int .i64 1) w3 fun w4=>gAgg ⟨b_1,0,none⟩ 16 w4 fun x_1=>bnd (C U4 [.agg ⟨x_1⟩] w4) fun r_1 w5=>aStr r_1 fun x_2=>pCells (some (M0 b)) (A0 (List.take (min (ByteArray.size x_2) (ByteArray.size x)) (ByteArray.data x_2).toList)) w5 fun w6=>ckB (fitsOpen (some (M0 b)) B0 w6) (ck ((0:Int)≤192∧192≤((ByteArray.size x:Nat):Int)) (bnd (C A37 [.agg ⟨[.int .i64 3,.int .i64 0,.int .i64 1,.int .i64 0]⟩] w6) fun r_2 w7=>aStr r_2 fun x_3=>ckB (fitsOpen (some (M0 b)) B0 w7) (ck ((0:Int)≤192∧192≤((ByteArray.size x:Nat):Int)) (same (.slice (I4 (some (M0 b)) (decide (Int.toNat 192<ByteArray.size x)) ((Int.toNat 192)*1)) ((ByteArray.size x)-(Int.toNat 192)) ((ByteArray.size x)-(Int.toNat 192))) (.slice (I4 (some (M0 b)) (decide (Int.toNat 192<ByteArray.size x)) ((Int.toNat 192)*1)) ((ByteArray.size x)-(Int.toNat 192)) ((ByteArray.size x)-(Int.toNat 192))) (pCells (I4 (some (M0 b)) (decide (Int.toNat 192<ByteArray.size x)) ((Int.toNat 192)*1)) (A0 (List.take (min (ByteArray.size x_3) ((ByteArray.size x)-(Int.toNat 192))) (ByteArray.data x_3).toList)) w7 fun w8=>some (.slice (some (M0 b)) (ByteArray.size x) (ByteArray.size x),w8)))))))):=by kernel_rfl
def Dx5:Cuts:={ globs:=0,loops:=[],regs:=[],plans:=[] }
def Ez0:List Item:=D0 Tryz.f38
theorem Hc0 (C:A8) (R:A9) (c:Option Addr) (i:Int) (code:Int) (h:H) :
 B9 PR Dx5 C R Bc9 Tryz.f38 100000 true Ez0 [(0,.pointer c),(1,.int .i64 i),(2,.int .i64 code)] h =
 nw (.cells As1 false [.int .i64 0,.int .i64 0,.slice none 0 0,.bool false]) h fun b w=>bnd (C A09 [.pointer c,.int .i64 i] w) fun r w1=>as2 r fun r_1 r_2=>aAgg r_1 fun x=>aInt .i64 r_2 fun x_1=>nw (.cells E1 false [.int .i64 0,.int .i64 0,.int .i64 0,.int .i64 0,.int .i64 0,.int .i64 0,.int .i64 0,.int .i64 0,.int .i64 0,.int .i64 0,.int .i64 0,.int .i64 0,.int .i64 0,.int .i64 0,.int .i64 0,.int .i64 0]) w1 fun b_1 w2=>ck (List.length x=16) (pAgg ⟨b_1,0,none⟩ x w2 fun w3=>cond (x_1 != 0)
 (bnd (C Aa8 [.int .i64 x_1] w3) fun r_3 w4=>aAgg r_3 fun x_2=>ck (List.length x_2=4) (pAgg ⟨b,0,none⟩ x_2 w4 fun w5=>gAgg ⟨b,0,none⟩ 4 w5 fun x_3=>some (.agg ⟨x_3⟩,w5)))
 (bnd (C U9 [.pointer c,.int .i64 i] w3) fun r_4 w6=>as0 r_4 (bnd (C Ac0 [.pointer c,.int .i64 i] w6) fun r_5 w7=>as0 r_5 (bnd (C E4 [.pointer c,.int .i64 i] w7) fun r_6 w8=>as2 r_6 fun r_7 r_8=>aAgg r_7 fun x_4=>aInt .i64 r_8 fun x_5=>nw (.cells E1 false [.int .i64 0,.int .i64 0,.int .i64 0,.int .i64 0,.int .i64 0,.int .i64 0,.int .i64 0,.int .i64 0,.int .i64 0,.int .i64 0,.int .i64 0,.int .i64 0,.int .i64 0,.int .i64 0,.int .i64 0,.int .i64 0]) w8 fun b_2 w9=>ck (List.length x_4=16) (pAgg ⟨b_2,0,none⟩ x_4 w9 fun w10=>cond (x_5 != 1)
 (bnd (C Aa8 [.int .i64 105] w10) fun r_9 w11=>aAgg r_9 fun x_6=>ck (List.length x_6=4) (pAgg ⟨b,0,none⟩ x_6 w11 fun w12=>gAgg ⟨b,0,none⟩ 4 w12 fun x_7=>some (.agg ⟨x_7⟩,w12)))
 (gInt .i64 (Addr.add ⟨b_2,0,none⟩ 1) w10 fun x_8=>cond (decide (x_8>0))
 (gInt .i64 (Addr.add ⟨b_2,0,none⟩ 1) w10 fun x_9=>bnd (C E4 [.pointer c,.int .i64 (IntKind.wrap .i64 (x_9-1))] w10) fun r_10 w13=>as2 r_10 fun r_11 r_12=>aAgg r_11 fun x_10=>aInt .i64 r_12 fun x_11=>nw (.cells E1 false [.int .i64 0,.int .i64 0,.int .i64 0,.int .i64 0,.int .i64 0,.int .i64 0,.int .i64 0,.int .i64 0,.int .i64 0,.int .i64 0,.int .i64 0,.int .i64 0,.int .i64 0,.int .i64 0,.int .i64 0,.int .i64 0]) w13 fun b_3 w14=>ck (List.length x_10=16) (pAgg ⟨b_3,0,none⟩ x_10 w14 fun w15=>bnd (cond (x_11==1) (gInt .i64 (Addr.add ⟨b_3,0,none⟩ 0) w15 fun x_12=>some (x_12 != 2,w15)) (some (false,w15))) fun c_1 w16=>cond c_1
 (pV (Addr.add ⟨b_2,0,none⟩ 0) (.int .i64 2) w16 fun w17=>pV (Addr.add ⟨b_2,0,none⟩ 3) (.int .i64 (Int.tmod (IntKind.wrap .i64 ((Int.tmod code 256)+256)) 256)) w17 fun w18=>pV (Addr.add ⟨b_2,0,none⟩ 4) (.int .i64 0) w18 fun w19=>pAgg (Addr.add ⟨b_2,0,none⟩ 8) [.int .i64 0,.int .i64 0,.int .i64 0,.int .i64 0,.int .i64 0,.int .i64 0,.int .i64 0,.int .i64 0] w19 fun w20=>gAgg ⟨b_2,0,none⟩ 16 w20 fun x_13=>bnd (C L5 [.pointer c,.int .i64 i,.agg ⟨x_13⟩] w20) fun r_13 w21=>aBool r_13 fun x_14=>bnd (C Aa6 [.bool x_14,.int .i64 0] w21) fun r_14 w22=>aAgg r_14 fun x_15=>ck (List.length x_15=4) (pAgg ⟨b,0,none⟩ x_15 w22 fun w23=>gAgg ⟨b,0,none⟩ 4 w23 fun x_16=>some (.agg ⟨x_16⟩,w23)))
 (bnd (C J9 [.pointer c,.int .i64 i] w16) fun r_15 w24=>aBool r_15 fun x_17=>bnd (C Aa6 [.bool x_17,.int .i64 0] w24) fun r_16 w25=>aAgg r_16 fun x_18=>ck (List.length x_18=4) (pAgg ⟨b,0,none⟩ x_18 w25 fun w26=>gAgg ⟨b,0,none⟩ 4 w26 fun x_19=>some (.agg ⟨x_19⟩,w26)))))
 (bnd (C J9 [.pointer c,.int .i64 i] w10) fun r_17 w27=>aBool r_17 fun x_20=>bnd (C Aa6 [.bool x_20,.int .i64 0] w27) fun r_18 w28=>aAgg r_18 fun x_21=>ck (List.length x_21=4) (pAgg ⟨b,0,none⟩ x_21 w28 fun w29=>gAgg ⟨b,0,none⟩ 4 w29 fun x_22=>some (.agg ⟨x_22⟩,w29))))))))):=by kernel_rfl
def B96:Cuts:={ globs:=0,loops:=[(6,[0,4,7,23,24,25])],regs:=[],plans:=[(9,⟨[0,1,2,4,5,6,7,8,9,10,3,11,12],[0,0,2,7,0,16,48,0,128,384,1008,2047,4095],[(3,[5,9])],[]⟩)] }
def Dz5:List Item:=D0 Tryz.f39
def Bk8:List Item:=stk [0,1,0,1,0,1,0,0,1,4,5] Dz5
theorem Ha5 (C:A8) (R:A9) (c:Option Addr) (i:Int) (h:H) :
 B9 PR B96 C R Ab8 Tryz.f39 100000 true Dz5 [(0,.pointer c),(1,.int .i64 i)] h =
 nw (.cells D6 false [.int .i64 i]) h fun b w=>nw (.cells As1 false [.int .i64 0,.int .i64 0,.slice none 0 0,.bool false]) w fun b_1 w1=>gInt .i64 ⟨b,0,none⟩ w1 fun x=>bnd (C A09 [.pointer c,.int .i64 x] w1) fun r w2=>as2 r fun r_1 r_2=>aAgg r_1 fun x_1=>aInt .i64 r_2 fun x_2=>nw (.cells E1 false [.int .i64 0,.int .i64 0,.int .i64 0,.int .i64 0,.int .i64 0,.int .i64 0,.int .i64 0,.int .i64 0,.int .i64 0,.int .i64 0,.int .i64 0,.int .i64 0,.int .i64 0,.int .i64 0,.int .i64 0,.int .i64 0]) w2 fun b_2 w3=>ck (List.length x_1=16) (pAgg ⟨b_2,0,none⟩ x_1 w3 fun w4=>cond (x_2 != 0)
 (bnd (C Aa8 [.int .i64 x_2] w4) fun r_3 w5=>aAgg r_3 fun x_3=>ck (List.length x_3=4) (pAgg ⟨b_1,0,none⟩ x_3 w5 fun w6=>gAgg ⟨b_1,0,none⟩ 4 w6 fun x_4=>some (.agg ⟨x_4⟩,w6)))
 (bnd (C Ab0 [.pointer c,.func (.func Ba7) ⟨[]⟩ ⟨[.pointer (some ⟨b,0,none⟩)]⟩] w4) fun r_4 w7=>aSl r_4 fun x_5 xn xc=>R Ab8 Bk8 [(0,.pointer c),(4,.pointer (some ⟨b_1,0,none⟩)),(7,.slice x_5 xn xc),(23,.slice x_5 xn xc),(24,.int .i64 ((xn:Nat):Int)),(25,.int .i64 0)] w7)):=by kernel_rfl
theorem D42 (C:A8) (R:A9) (c:Option Addr) (x4:Addr) (l:Option Addr) (ln lc:Nat) (x23:Option Addr) (x23n x23c:Nat) (x24:Int) (x25:Int) (h:H) :
 B9 PR B96 C R Ab8 Tryz.f39 100000 true Bk8 [(0,.pointer c),(4,.pointer (some x4)),(7,.slice l ln lc),(23,.slice x23 x23n x23c),(24,.int .i64 x24),(25,.int .i64 x25)] h =
 cond (decide (x25<x24))
 (aSome x23 fun p=>ck ((0:Int)≤x25∧x25<((x23n:Nat):Int)) (gAgg (Addr.add (D5 p) (Int.toNat x25*17)) 17 h fun x=>nw (.cells O5 false [.int .i64 0,.int .i64 0,.int .i64 0,.int .i64 0,.int .i64 0,.int .i64 0,.int .i64 0,.int .i64 0,.int .i64 0,.int .i64 0,.int .i64 0,.int .i64 0,.int .i64 0,.int .i64 0,.int .i64 0,.int .i64 0,.int .i64 0]) h fun b w=>ck (List.length x=17) (pAgg ⟨b,0,none⟩ x w fun w1=>gAgg ⟨b,0,none⟩ 17 w1 fun x_1=>bnd (C An3 [.agg ⟨x_1⟩] w1) fun r w2=>aBool r fun x_2=>cond (!x_2)
 (gInt .i64 (Addr.add ⟨b,0,none⟩ 0) w2 fun x_3=>gInt .i64 (Addr.add ⟨b,0,none⟩ 0) w2 fun x_4=>gInt .i64 (Addr.add (Addr.add ⟨b,0,none⟩ 1) 3) w2 fun x_5=>bnd (C J9 [.pointer c,.int .i64 x_3] w2) fun r_1 w3=>aBool r_1 fun x_6=>gInt .i64 (Addr.add ⟨b,0,none⟩ 0) w3 fun x_7=>same (.int .i64 x_4) (.int .i64 x_7) (gInt .i64 (Addr.add (Addr.add ⟨b,0,none⟩ 1) 3) w3 fun x_8=>same (.int .i64 x_5) (.int .i64 x_8) (bnd (C Aa6 [.bool x_6,.int .i64 (IntKind.wrap .i64 ((IntKind.wrap .i64 (256*x_4))+x_5))] w3) fun r_2 w4=>aAgg r_2 fun x_9=>ck (List.length x_9=4) (pAgg x4 x_9 w4 fun w5=>gAgg x4 4 w5 fun x_10=>some (.agg ⟨x_10⟩,w5)))))
 (R Ab8 Bk8 [(0,.pointer c),(4,.pointer (some x4)),(7,.slice l ln lc),(23,.slice x23 x23n x23c),(24,.int .i64 x24),(25,.int .i64 (IntKind.wrap .i64 (x25+1)))] w2))))
 (cond (((ln:Nat):Int)==0)
 (bnd (C Aa8 [.int .i64 110] h) fun r_3 w6=>aAgg r_3 fun x_11=>ck (List.length x_11=4) (pAgg x4 x_11 w6 fun w7=>gAgg x4 4 w7 fun x_12=>some (.agg ⟨x_12⟩,w7)))
 (pAgg x4 [.int .i64 0,.int .i64 0,.slice none 0 0,.bool true] h fun w8=>gAgg x4 4 w8 fun x_13=>some (.agg ⟨x_13⟩,w8))):=by kernel_rfl
def B50:Cuts:={ globs:=0,loops:=[],regs:=[],plans:=[(7,⟨[0,1,2,3,4,5,6,7,8,9,10,11,12,13,14,15,16],[0,1,3,7,0,0,32,0,128,0,512,2047,4095,8191,8191,16383,65535],[],[]⟩),(9,⟨[0,1,2,3,4,5,6,7,8,9,10,11,12,13],[0,1,3,7,0,0,32,0,128,0,512,1536,4095,8191],[],[]⟩),(11,⟨[0,1,2,3,4,5,6,7,8,9,10,11,12,13,14,15,16],[0,1,3,7,0,0,32,0,128,0,512,0,2048,0,8192,32767,65535],[],[]⟩),(13,⟨[0,1,2,3,4,5,6,7,8,9,10,11,12,13,14,15,16,17,18,19,20,21,22,23],[0,1,3,7,15,31,63,0,0,256,0,1024,0,4096,0,16384,0,65536,262143,524287,1048575,1048575,2097151,8388607],[],[]⟩),(15,⟨[0,1,2,3,4,5,6,7,8,9,10,11,12,13,14,15],[0,1,3,7,15,31,63,0,0,256,1023,2047,4095,4095,8191,32767],[],[]⟩),(17,⟨[0,1,2,3,4,5,6,7,8,9,10,11,12,13,14,15,16,17],[0,1,3,7,0,16,48,112,240,0,1008,2032,4095,8191,16383,16383,32767,131071],[],[]⟩),(19,⟨[0,1,2,3,4,5,6,7,8,9,10,11,12,13,14,15],[0,1,3,7,0,16,48,112,240,0,1008,2032,0,4096,16383,32767],[],[]⟩),(23,⟨[0,1,2,3,4,5,6,7,8,9,10,11,12,13,14,15,16,17],[0,1,3,7,0,16,63,127,0,0,512,1536,3584,8191,16383,32767,32767,65535],[],[]⟩),(27,⟨[0,1,2,3,4,5,6,7,8,9,10,11,12,13,14,15,16,17,18],[0,0,0,4,15,31,63,127,255,511,63,1087,4095,8191,63,63,32831,131071,262143],[],[]⟩)] }
def D18:List Item:=D0 Tryz.f54
theorem Gj4 (C:A8) (R:A9) (k:Option Addr) (e:Int) (c:List Value) (h:H) :
 B9 PR B50 C R As2 Tryz.f54 100000 true D18 [(0,.pointer k),(1,.int .i64 e),(2,.agg ⟨c⟩)] h =
 nw (.cells Ay8 false c) h fun b w=>bnd (cond (decide (e<0)) (some (true,w)) (aSome k fun p=>gSl (Addr.add (Addr.add p 0) 1) w fun _ xn _=>some (decide (e≥((xn:Nat):Int)),w))) fun c_1 w1=>cond c_1
 (some (.tuple ⟨[.int .i64 1,.int .i64 0,.string (ByteArray.mk ⟨[]⟩)]⟩,w1))
 (gInt .i64 (Addr.add ⟨b,0,none⟩ 0) w1 fun x_1=>cond (x_1==1)
 (aSome k fun p_1=>gPtr (Addr.add p_1 6) w1 fun x_2=>gInt .i64 (Addr.add ⟨b,0,none⟩ 1) w1 fun x_3=>gInt .i64 (Addr.add ⟨b,0,none⟩ 2) w1 fun x_4=>gInt .i64 (Addr.add ⟨b,0,none⟩ 3) w1 fun x_5=>bnd (C Eg2 [.pointer x_2,.int .i64 e,.int .i64 x_3,.int .i64 x_4,.int .i64 x_5] w1) fun r w2=>as2 r fun r_1 r_2=>aStr r_1 fun x_6=>aInt .i64 r_2 fun x_7=>some (.tuple ⟨[.int .i64 x_7,.int .i64 0,.string x_6]⟩,w2))
 (cond (x_1==2)
 (aSome k fun p_2=>gPtr (Addr.add p_2 6) w1 fun x_8=>gInt .i64 (Addr.add ⟨b,0,none⟩ 1) w1 fun x_9=>gInt .i64 (Addr.add ⟨b,0,none⟩ 2) w1 fun x_10=>gSl (Addr.add ⟨b,0,none⟩ 6) w1 fun x_11 xn_1 _=>gCells x_11 xn_1 w1 fun cs=>asBytes cs fun l=>bnd (C Aq9 [.pointer x_8,.int .i64 e,.int .i64 x_9,.int .i64 x_10,.string (ByteArray.mk ⟨l⟩)] w1) fun r_3 w3=>aInt .i64 r_3 fun x_12=>some (.tuple ⟨[.int .i64 x_12,.int .i64 0,.string (ByteArray.mk ⟨[]⟩)]⟩,w3))
 (cond (x_1==3)
 (aSome k fun p_3=>gPtr (Addr.add p_3 6) w1 fun x_13=>gInt .i64 (Addr.add ⟨b,0,none⟩ 1) w1 fun x_14=>gInt .i64 (Addr.add ⟨b,0,none⟩ 2) w1 fun x_15=>gInt .i64 (Addr.add ⟨b,0,none⟩ 4) w1 fun x_16=>gInt .i64 (Addr.add ⟨b,0,none⟩ 5) w1 fun x_17=>gInt .i64 (Addr.add ⟨b,0,none⟩ 3) w1 fun x_18=>bnd (C Eh1 [.pointer x_13,.int .i64 e,.int .i64 x_14,.int .i64 x_15,.int .i64 x_16,.int .i64 x_17,.int .i64 x_18] w1) fun r_4 w4=>aInt .i64 r_4 fun x_19=>some (.tuple ⟨[.int .i64 x_19,.int .i64 0,.string (ByteArray.mk ⟨[]⟩)]⟩,w4))
 (cond (x_1==4)
 (aSome k fun p_4=>gPtr (Addr.add p_4 6) w1 fun x_20=>aSome x_20 fun p_5=>gPtr (Addr.add p_5 3) w1 fun x_21=>gInt .i64 (Addr.add ⟨b,0,none⟩ 1) w1 fun x_22=>gInt .i64 (Addr.add ⟨b,0,none⟩ 4) w1 fun x_23=>gInt .i64 (Addr.add ⟨b,0,none⟩ 5) w1 fun x_24=>gInt .i64 (Addr.add ⟨b,0,none⟩ 2) w1 fun x_25=>gInt .i64 (Addr.add ⟨b,0,none⟩ 3) w1 fun x_26=>bnd (C Ej8 [.pointer x_21,.int .i64 e,.int .i64 x_22,.int .i64 x_23,.int .i64 x_24,.int .i64 x_25,.int .i64 x_26] w1) fun r_5 w5=>as2 r_5 fun r_6 r_7=>aInt .i64 r_6 fun x_27=>aInt .i64 r_7 fun x_28=>some (.tuple ⟨[.int .i64 x_28,.int .i64 x_27,.string (ByteArray.mk ⟨[]⟩)]⟩,w5))
 (cond (x_1==5)
 (aSome k fun p_6=>gPtr (Addr.add p_6 6) w1 fun x_29=>aSome x_29 fun p_7=>gPtr (Addr.add p_7 3) w1 fun x_30=>gInt .i64 (Addr.add ⟨b,0,none⟩ 1) w1 fun x_31=>bnd (C Eg7 [.pointer x_30,.int .i64 e,.int .i64 x_31] w1) fun r_8 w6=>as2 r_8 fun r_9 r_10=>aInt .i64 r_9 fun x_32=>aInt .i64 r_10 fun x_33=>some (.tuple ⟨[.int .i64 x_33,.int .i64 x_32,.string (ByteArray.mk ⟨[]⟩)]⟩,w6))
 (cond (x_1==6)
 (aSome k fun p_8=>gPtr (Addr.add p_8 5) w1 fun x_34=>aSome k fun p_9=>gSl (Addr.add (Addr.add p_9 0) 1) w1 fun x_35 xn_2 _=>aSome x_35 fun p_10=>ck ((0:Int)≤e∧e<((xn_2:Nat):Int)) (gInt .i64 (Addr.add (D5 p_10) (Int.toNat e*1)) w1 fun x_36=>bnd (C En1 [.pointer x_34,.int .i64 x_36] w1) fun r_11 w7=>as2 r_11 fun r_12 r_13=>aInt .i64 r_12 fun x_37=>aInt .i64 r_13 fun x_38=>some (.tuple ⟨[.int .i64 x_38,.int .i64 x_37,.string (ByteArray.mk ⟨[]⟩)]⟩,w7)))
 (cond (x_1==7)
 (aSome k fun p_11=>gPtr (Addr.add p_11 5) w1 fun x_39=>aSome k fun p_12=>gSl (Addr.add (Addr.add p_12 0) 1) w1 fun x_40 xn_3 _=>aSome x_40 fun p_13=>ck ((0:Int)≤e∧e<((xn_3:Nat):Int)) (gInt .i64 (Addr.add (D5 p_13) (Int.toNat e*1)) w1 fun x_41=>gInt .i64 (Addr.add ⟨b,0,none⟩ 3) w1 fun x_42=>bnd (C Ew8 [.pointer x_39,.int .i64 x_41,.int .i64 x_42] w1) fun r_14 w8=>aInt .i64 r_14 fun x_43=>some (.tuple ⟨[.int .i64 x_43,.int .i64 0,.string (ByteArray.mk ⟨[]⟩)]⟩,w8)))
 (cond (x_1==8)
 (gInt .i64 (Addr.add ⟨b,0,none⟩ 3) w1 fun x_44=>bnd (C Dw5 [.pointer k,.int .i64 e,.int .i64 x_44] w1) fun r_15 w9=>aBool r_15 fun x_45=>cond x_45
 (aSome k fun p_14=>gSl (Addr.add p_14 7) w9 fun x_46 xn_4 _=>gInt .i64 (Addr.add ⟨b,0,none⟩ 3) w9 fun x_47=>aSome x_46 fun p_15=>ck ((0:Int)≤x_47∧x_47<((xn_4:Nat):Int)) (gPtr (Addr.add (D5 p_15) (Int.toNat x_47*1)) w9 fun x_48=>aSome k fun p_16=>gInt .i64 (Addr.add p_16 8) w9 fun x_49=>bnd (C Ex0 [.pointer x_48,.int .i64 e,.int .i64 x_49] w9) fun r_16 w10=>as2 r_16 fun r_17 r_18=>aInt .i64 r_17 fun x_50=>aBool r_18 fun _=>some (.tuple ⟨[.int .i64 0,.int .i64 x_50,.string (ByteArray.mk ⟨[]⟩)]⟩,w10)))
 (some (.tuple ⟨[.int .i64 8,.int .i64 0,.string (ByteArray.mk ⟨[]⟩)]⟩,w9)))
 (cond (x_1==9)
 (gInt .i64 (Addr.add ⟨b,0,none⟩ 3) w1 fun x_52=>bnd (C Dw5 [.pointer k,.int .i64 e,.int .i64 x_52] w1) fun r_19 w11=>aBool r_19 fun x_53=>bnd (cond x_53 (aSome k fun p_17=>gSl (Addr.add p_17 7) w11 fun x_54 xn_5 _=>gInt .i64 (Addr.add ⟨b,0,none⟩ 3) w11 fun x_55=>aSome x_54 fun p_18=>ck ((0:Int)≤x_55∧x_55<((xn_5:Nat):Int)) (gPtr (Addr.add (D5 p_18) (Int.toNat x_55*1)) w11 fun x_56=>gInt .i64 (Addr.add ⟨b,0,none⟩ 2) w11 fun x_57=>bnd (C Ev3 [.pointer x_56,.int .i64 e,.int .i64 x_57] w11) fun r_20 w12=>aBool r_20 fun x_58=>some (x_58,w12))) (some (false,w11))) fun c_2 w13=>cond c_2
 (some (.tuple ⟨[.int .i64 0,.int .i64 0,.string (ByteArray.mk ⟨[]⟩)]⟩,w13))
 (some (.tuple ⟨[.int .i64 8,.int .i64 0,.string (ByteArray.mk ⟨[]⟩)]⟩,w13)))
 (cond (x_1==10)
 (aSome k fun p_19=>gInt .i64 (Addr.add p_19 8) w1 fun x_59=>some (.tuple ⟨[.int .i64 0,.int .i64 x_59,.string (ByteArray.mk ⟨[]⟩)]⟩,w1))
 (some (.tuple ⟨[.int .i64 7,.int .i64 0,.string (ByteArray.mk ⟨[]⟩)]⟩,w1)))))))))))):=by kernel_rfl
def Di2:Cuts:={ globs:=0,loops:=[(3,[0,3,4])],regs:=[],plans:=[] }
def Ea4:List Item:=D0 Tryz.f65
def Br6:List Item:=stk [0,1,0,1,0,0,1,4,5] Ea4
theorem Hk0 (C:A8) (R:A9) (b:ByteArray) (h:H) :
 B9 PR Di2 C R Ag0 Tryz.f65 100000 true Ea4 [(0,.string b)] h =
 R Ag0 Br6 [(0,.string b),(3,.int .i64 ((ByteArray.size b:Nat):Int)),(4,.int .i64 0)] h:=by kernel_rfl
theorem Ee6 (C:A8) (R:A9) (b:ByteArray) (n:Int) (i:Int) (h:H) :
 B9 PR Di2 C R Ag0 Tryz.f65 100000 true Br6 [(0,.string b),(3,.int .i64 n),(4,.int .i64 i)] h =
 cond (decide (i<((ByteArray.size b:Nat):Int)))
 (ck ((0:Int)≤i∧i<((ByteArray.size b:Nat):Int)) (R Ag0 Br6 [(0,.string b),(3,.int .i64 (IntKind.wrap .i64 (n+(IntKind.wrap .i64 (((List.getD (ByteArray.data b).toList (Int.toNat i) 0).toNat:Int)))))),(4,.int .i64 (IntKind.wrap .i64 (i+1)))] h))
 (some (.int .u8 (IntKind.wrap .u8 (n)),h)):=by kernel_rfl
def B57:Cuts:={ globs:=0,loops:=[],regs:=[],plans:=[(1,⟨[1,0,2,3,4,5,6],[0,0,3,7,7,31,63],[(0,[1])],[]⟩)] }
def D33:List Item:=D0 Tryz.f74
theorem Ge7 (C:A8) (R:A9) (f:List Value) (h:H) :
 B9 PR B57 C R A59 Tryz.f74 100000 true D33 [(0,.agg ⟨f⟩)] h =
 nw (.cells J0 false f) h fun b w=>gAgg ⟨b,0,none⟩ 4 w fun x=>bnd (C Bc1 [] w) fun r w1=>aPtr r fun x_1=>gAgg ⟨b,0,none⟩ 4 w1 fun x_2=>same (.agg ⟨x⟩) (.agg ⟨x_2⟩) (bnd (C V4 [.pointer x_1,.agg ⟨x⟩] w1) fun r_1 w2=>as2 r_1 fun r_2 r_3=>aSl r_2 fun x_3 xn xc=>aBool r_3 fun x_4=>some (.tuple ⟨[.slice x_3 xn xc,.bool x_4]⟩,w2)):=by kernel_rfl
def A78:Cuts:={ globs:=0,loops:=[],regs:=[],plans:=[] }
def B13:List Item:=D0 Tryz.f76
theorem Ed5 (C:A8) (R:A9) (g:Int) (h:H) :
 B9 PR A78 C R Ao2 Tryz.f76 100000 true B13 [(0,.int .i64 g)] h =
 bnd (cond (decide (g<0)) (some (true,h)) (some (decide (g≥8),h))) fun c w=>cond c
 (some (.tuple ⟨[.slice none 0 0,.bool false]⟩,w))
 (nw (.cells B0 false [.int .u8 (IntKind.wrap .u8 (g)),.int .u8 211]) w fun b w1=>bnd (C Ab1 [.slice (some ⟨b,0,none⟩) 2 2] w1) fun r w2=>aInt .u8 r fun x=>nw (.cells B0 false [.int .u8 x,.int .u8 0]) w2 fun b_1 w3=>gCells (some ⟨b_1,0,none⟩) (2*1) w3 fun cs=>ckB (fitsOpen (some ⟨b,0,none⟩) B0 w3) (apd B0 1 (some ⟨b,0,none⟩) 2 2 2 cs w3 fun a an ac w4=>some (.tuple ⟨[.slice a an ac,.bool true]⟩,w4))):=by kernel_rfl
def D04:Cuts:={ globs:=0,loops:=[],regs:=[],plans:=[] }
def Ez2:List Item:=D0 Tryz.f83
theorem Hc1 (C:A8) (R:A9) (ok:Bool) (n:Int) (h:H) :
 B9 PR D04 C R Aa6 Tryz.f83 100000 true Ez2 [(0,.bool ok),(1,.int .i64 n)] h =
 nw (.cells As1 false [.int .i64 0,.int .i64 0,.slice none 0 0,.bool false]) h fun b w=>cond (!ok)
 (bnd (C Aa8 [.int .i64 105] w) fun r w1=>aAgg r fun x=>ck (List.length x=4) (pAgg ⟨b,0,none⟩ x w1 fun w2=>gAgg ⟨b,0,none⟩ 4 w2 fun x_1=>some (.agg ⟨x_1⟩,w2)))
 (pAgg ⟨b,0,none⟩ [.int .i64 n,.int .i64 0,.slice none 0 0,.bool false] w fun w3=>gAgg ⟨b,0,none⟩ 4 w3 fun x_2=>some (.agg ⟨x_2⟩,w3)):=by kernel_rfl
def Dd3:Cuts:={ globs:=0,loops:=[],regs:=[],plans:=[] }
def Ef3:List Item:=D0 Tryz.f89
theorem Gs4 (C:A8) (R:A9) (x:List Value) (fv0:Addr) (h:H) :
 B9 PR Dd3 C R Ba7 Tryz.f89 100000 true Ef3 [(0,.agg ⟨x⟩),(1,.pointer (some fv0))] h =
 nw (.cells O5 false x) h fun b w=>gInt .i64 (Addr.add (Addr.add ⟨b,0,none⟩ 1) 1) w fun x_1=>gInt .i64 fv0 w fun x_2=>some (.bool (x_1==(IntKind.wrap .i64 (x_2+1))),w):=by kernel_rfl
def U0:Cuts:={ globs:=0,loops:=[(1,[0,5]),(6,[0,12]),(11,[0,20,21])],regs:=[],plans:=[] }
def Ab5:List Item:=D0 Tryz.f91
def Ae6:List Item:=stk [0,0,1,4,5] Ab5
def Ae1:List Item:=stk [0,1,0,0,1,4,5] Ab5
def Ae0:List Item:=stk [0,1,0,1,0,0,1,4,5] Ab5
theorem Dx7 (C:A8) (R:A9) (c:Option Addr) (h:H) :
 B9 PR U0 C R E0 Tryz.f91 100000 true Ab5 [(0,.pointer c)] h =
 R E0 Ae6 [(0,.pointer c),(5,.int .i64 0)] h:=by kernel_rfl
theorem Bf9 (C:A8) (R:A9) (c:Option Addr) (x5:Int) (h:H) :
 B9 PR U0 C R E0 Tryz.f91 100000 true Ae6 [(0,.pointer c),(5,.int .i64 x5)] h =
 cond (decide (x5<8))
 (bnd (C E4 [.pointer c,.int .i64 x5] h) fun r w=>as2 r fun r_1 r_2=>aAgg r_1 fun _=>aInt .i64 r_2 fun _=>R E0 Ae6 [(0,.pointer c),(5,.int .i64 (IntKind.wrap .i64 (x5+1)))] w)
 (R E0 Ae1 [(0,.pointer c),(12,.int .i64 0)] h):=by kernel_rfl
theorem Be2 (C:A8) (R:A9) (c:Option Addr) (x12:Int) (h:H) :
 B9 PR U0 C R E0 Tryz.f91 100000 true Ae1 [(0,.pointer c),(12,.int .i64 x12)] h =
 cond (decide (x12<12))
 (bnd (C O9 [.pointer c,.int .i64 x12] h) fun r w=>as2 r fun r_1 r_2=>aAgg r_1 fun _=>aInt .i64 r_2 fun _=>R E0 Ae1 [(0,.pointer c),(12,.int .i64 (IntKind.wrap .i64 (x12+1)))] w)
 (bnd (C Ab7 [.pointer c,.int .i64 3] h) fun r_3 w1=>aInt .i64 r_3 fun x_2=>R E0 Ae0 [(0,.pointer c),(20,.int .i64 x_2),(21,.int .i64 0)] w1):=by kernel_rfl
theorem Bf0 (C:A8) (R:A9) (c:Option Addr) (x20:Int) (x21:Int) (h:H) :
 B9 PR U0 C R E0 Tryz.f91 100000 true Ae0 [(0,.pointer c),(20,.int .i64 x20),(21,.int .i64 x21)] h =
 cond (decide (x21<x20))
 (bnd (C Aa7 [.pointer c,.int .i64 x21] h) fun r w=>as2 r fun r_1 r_2=>aAgg r_1 fun _=>aInt .i64 r_2 fun _=>R E0 Ae0 [(0,.pointer c),(20,.int .i64 x20),(21,.int .i64 (IntKind.wrap .i64 (x21+1)))] w)
 (bnd (C Ak1 [.pointer c] h) fun r_3 w1=>as2 r_3 fun r_4 r_5=>aAgg r_4 fun _=>aInt .i64 r_5 fun _=>bnd (C Ai1 [.pointer c] w1) fun r_6 w2=>as2 r_6 fun r_7 r_8=>aInt .i64 r_7 fun _=>aBool r_8 fun _=>some (.tuple ⟨[]⟩,w2)):=by kernel_rfl
def De1:Cuts:={ globs:=0,loops:=[],regs:=[],plans:=[] }
def Ee8:List Item:=D0 Tryz.f111
theorem Gq9 (C:A8) (R:A9) (n:Int) (h:H) :
 B9 PR De1 C R Bb9 Tryz.f111 100000 true Ee8 [(0,.int .i64 n)] h =
 some (.int .i64 (mm2 false (mm2 true n 0) 64),h):=by kernel_rfl
def As9:Cuts:={ globs:=0,loops:=[],regs:=[],plans:=[] }
def Bh8:List Item:=D0 Tryz.f112
theorem Do1 (C:A8) (R:A9) (s:Option Addr) (sn sc:Nat) (h:H) :
 B9 PR As9 C R W1 Tryz.f112 100000 true Bh8 [(0,.slice s sn sc)] h =
 cond s.isNone
 (some (.slice none 0 0,h))
 (nw (.cells D6 false []) h fun b w=>gCells s (sn*1) w fun cs=>ckB (fitsOpen (some ⟨b,0,none⟩) D6 w) (apd D6 1 (some ⟨b,0,none⟩) 0 0 sn cs w fun a an ac w1=>some (.slice a an ac,w1))):=by kernel_rfl
def Dk2:Cuts:={ globs:=0,loops:=[(3,[3,8,9])],regs:=[],plans:=[(4,⟨[0,1,2,3,4,5,6,7,8,9,10],[0,0,2,6,14,0,32,126,255,511,1023],[(5,[4])],[]⟩)] }
def D66:List Item:=D0 Tryz.f114
def Br1:List Item:=stk [0,1,0,1,0,0,1,4,5] D66
theorem Hh0 (C:A8) (R:A9) (envs:Int) (h:H) :
 B9 PR Dk2 C R A00 Tryz.f114 100000 true D66 [(0,.int .i64 envs)] h =
 nw (.cells Au6 false [.slice none 0 0]) h fun b w=>R A00 Br1 [(3,.pointer (some ⟨b,0,none⟩)),(8,.int .i64 (mm2 false (mm2 true envs 0) 40)),(9,.int .i64 0)] w:=by kernel_rfl
theorem Ed7 (C:A8) (R:A9) (s:Addr) (x8:Int) (x9:Int) (h:H) :
 B9 PR Dk2 C R A00 Tryz.f114 100000 true Br1 [(3,.pointer (some s)),(8,.int .i64 x8),(9,.int .i64 x9)] h =
 cond (decide (x9<x8))
 (gSl (Addr.add s 0) h fun x xn xc=>bnd (C P5 [.int .i64 32] h) fun r w=>aPtr r fun x_1=>gSl (Addr.add s 0) w fun x_2 xn_1 xc_1=>same (.slice x xn xc) (.slice x_2 xn_1 xc_1) (nw (.cells H2 false [.pointer x_1]) w fun b w1=>gCells (some ⟨b,0,none⟩) (1*1) w1 fun cs=>ckB (fitsOpen x H2 w1) (apd H2 1 x xn xc 1 cs w1 fun a an ac w2=>pV (Addr.add s 0) (.slice a an ac) w2 fun w3=>R A00 Br1 [(3,.pointer (some s)),(8,.int .i64 x8),(9,.int .i64 (IntKind.wrap .i64 (x9+1)))] w3)))
 (some (.pointer (some s),h)):=by kernel_rfl
def Bs6:Cuts:={ globs:=0,loops:=[],regs:=[],plans:=[] }
def Dp9:List Item:=D0 Tryz.f121
theorem E46 (C:A8) (R:A9) (s:Option Addr) (env:Int) (c:List Value) (h:H) :
 B9 PR Bs6 C R A87 Tryz.f121 100000 true Dp9 [(0,.pointer s),(1,.int .i64 env),(2,.agg ⟨c⟩)] h =
 nw (.cells P7 false c) h fun b w=>bnd (C Af5 [.pointer s,.int .i64 env] w) fun r w1=>aBool r fun x=>bnd (cond (!x) (some (true,w1)) (gInt .i64 (Addr.add ⟨b,0,none⟩ 1) w1 fun x_1=>some ((Ep6 .i64 x_1 7) != 0,w1))) fun c_1 w2=>bnd (cond c_1 (some (true,w2)) (gInt .i64 (Addr.add ⟨b,0,none⟩ 2) w2 fun x_2=>bnd (C Al4 [.int .i64 x_2] w2) fun r_1 w3=>aBool r_1 fun x_3=>some (!x_3,w3))) fun c_2 w4=>bnd (cond c_2 (some (true,w4)) (gInt .i64 (Addr.add ⟨b,0,none⟩ 3) w4 fun x_4=>bnd (C Al4 [.int .i64 x_4] w4) fun r_2 w5=>aBool r_2 fun x_5=>some (!x_5,w5))) fun c_3 w6=>cond c_3
 (some (.tuple ⟨[.int .i64 0,.int .i64 1]⟩,w6))
 (pAgg (Addr.add ⟨b,0,none⟩ 4) [.int .i64 0,.int .i64 0] w6 fun w7=>gAgg ⟨b,0,none⟩ 6 w7 fun x_6=>bnd (C Au1 [.pointer s,.int .i64 env,.agg ⟨x_6⟩] w7) fun r_3 w8=>as2 r_3 fun r_4 r_5=>aInt .i64 r_4 fun x_7=>aInt .i64 r_5 fun x_8=>some (.tuple ⟨[.int .i64 x_7,.int .i64 x_8]⟩,w8)):=by kernel_rfl
def A99:Cuts:={ globs:=0,loops:=[],regs:=[],plans:=[] }
def B26:List Item:=D0 Tryz.f131
theorem Ea7 (C:A8) (R:A9) (r:Option Addr) (e:Int) (name:Int) (atv:Int) (b:ByteArray) (h:H) :
 B9 PR A99 C R Aq9 Tryz.f131 100000 true B26 [(0,.pointer r),(1,.int .i64 e),(2,.int .i64 name),(3,.int .i64 atv),(4,.string b)] h =
 bnd (C Ap5 [.pointer r,.int .i64 e,.int .i64 name,.int .i64 2,.int .i64 atv,.int .i64 ((ByteArray.size b:Nat):Int)] h) fun r_1 w=>as2 r_1 fun r_2 r_3=>aInt .i64 r_2 fun x=>aInt .i64 r_3 fun x_1=>cond (x_1 != 0)
 (some (.int .i64 x_1,w))
 (aSome r fun p=>gSl (Addr.add p 0) w fun x_2 xn xc=>ckB (fitsOpen x_2 B0 w) (ck ((0:Int)≤x∧x≤((xn:Nat):Int)) (pCells (I4 x_2 (decide (Int.toNat x<xc)) ((Int.toNat x)*1)) (A0 (List.take (min (ByteArray.size b) (xn-(Int.toNat x))) (ByteArray.data b).toList)) w fun w1=>some (.int .i64 0,w1)))):=by kernel_rfl
def B12:Cuts:={ globs:=0,loops:=[],regs:=[],plans:=[] }
def Dw1:List Item:=D0 Tryz.f141
theorem Gb0 (C:A8) (R:A9) (s:Option Addr) (env:Int) (h:H) :
 B9 PR B12 C R Af5 Tryz.f141 100000 true Dw1 [(0,.pointer s),(1,.int .i64 env)] h =
 bnd (cond (decide (env≥0)) (aSome s fun p=>gSl (Addr.add p 0) h fun _ xn _=>some (decide (env<((xn:Nat):Int)),h)) (some (false,h))) fun c w=>some (.bool c,w):=by kernel_rfl
def A06:Cuts:={ globs:=0,loops:=[],regs:=[],plans:=[(2,⟨[0,1,2,3,4,5,6,7,8,9,10],[0,1,3,7,15,31,63,7,255,511,1023],[],[]⟩),(4,⟨[0,1,2,3,4,5,6,7,8,9,10,11,12,13,14,16,15,17],[0,1,3,7,0,16,48,112,0,256,0,1024,0,4096,16128,32767,0,131071],[],[]⟩),(6,⟨[0,1,2,3,4,5,6,7,8,9],[0,1,3,7,0,31,63,31,159,511],[(7,[5])],[]⟩)] }
def Bo8:List Item:=D0 Tryz.f146
theorem D07 (C:A8) (R:A9) (c:Option Addr) (r:List Value) (h:H) :
 B9 PR A06 C R O2 Tryz.f146 100000 true Bo8 [(0,.pointer c),(1,.agg ⟨r⟩)] h =
 nw (.cells E8 false r) h fun b w=>gAgg ⟨b,0,none⟩ 2 w fun x=>bnd (C Q6 [.pointer c,.agg ⟨x⟩] w) fun r_1 w1=>as2 r_1 fun r_2 r_3=>aAgg r_2 fun x_1=>aBool r_3 fun x_2=>nw (.cells Bf1 false [.int .i64 0,.int .i64 0,.int .i64 0]) w1 fun b_1 w2=>ck (List.length x_1=3) (pAgg ⟨b_1,0,none⟩ x_1 w2 fun w3=>bnd (cond (!x_2) (some (true,w3)) (aSome c fun p=>gMap (Addr.add p 3) w3 fun x_3=>gAgg ⟨b,0,none⟩ 2 w3 fun x_4=>keyN PR E8 (.agg ⟨x_4⟩) (opt x_3 fun r_4=>mapAt w3 r_4 fun es _=>opt (Am0 (.int .i64 0) (.agg ⟨x_4⟩) es) fun f=>aInt .i64 f.1 fun x_5=>some (decide (x_5>0),w3)))) fun c_1 w4=>cond c_1
 (some (.tuple ⟨[.slice none 0 0,.bool false]⟩,w4))
 (aSome c fun p_1=>gPtr (Addr.add p_1 0) w4 fun x_6=>aSome c fun p_2=>gInt .i64 (Addr.add p_2 1) w4 fun x_7=>gInt .i64 (Addr.add ⟨b_1,0,none⟩ 0) w4 fun x_8=>gInt .i64 (Addr.add ⟨b_1,0,none⟩ 1) w4 fun x_9=>gInt .i64 (Addr.add ⟨b_1,0,none⟩ 2) w4 fun x_10=>nw (.cells Em6 false [.int .i64 0,.int .i64 0,.slice none 0 0]) w4 fun b_2 w5=>bnd (C U1 [.pointer x_6,.int .i64 x_7,.agg ⟨[.int .i64 1,.int .i64 x_8,.int .i64 x_9,.int .i64 x_10,.int .i64 0,.int .i64 0,.slice none 0 0]⟩] w5) fun r_5 w6=>aAgg r_5 fun x_11=>ck (List.length x_11=3) (pAgg ⟨b_2,0,none⟩ x_11 w6 fun w7=>gInt .i64 (Addr.add ⟨b_2,0,none⟩ 0) w7 fun x_12=>cond (x_12 != 0)
 (aSome c fun p_3=>gMap (Addr.add p_3 3) w7 fun x_13=>gAgg ⟨b,0,none⟩ 2 w7 fun x_14=>keyN PR E8 (.agg ⟨x_14⟩) (opt x_13 fun r_6=>mapAt w7 r_6 fun es_1 _=>opt (Am0 (.int .i64 0) (.agg ⟨x_14⟩) es_1) fun f_1=>aInt .i64 f_1.1 fun x_15=>keyN PR E8 (.agg ⟨x_14⟩) (opt x_13 fun r_7=>mapAt w7 r_7 fun es_2 cl_2=>opt (D05 (.int .i64 0) (.agg ⟨x_14⟩) es_2 cl_2) fun f_2=>aInt .i64 f_2.1 fun _=>lt (H.set w7 r_7 f_2.2.2) fun w8=>keyN PR E8 (.agg ⟨x_14⟩) (opt x_13 fun r_8=>mapAt w8 r_8 fun es_3 _=>opt (Am0 (.int .i64 0) (.agg ⟨x_14⟩) es_3) fun f_3=>aInt .i64 f_3.1 fun x_17=>same (.int .i64 x_15) (.int .i64 x_17) (opt x_13 fun r_9=>mapAt w8 r_9 fun es_4 cl_4=>opt (Bl7 (f_2.2.1:Int) es_4 0) fun i=>lt (H.set w8 r_9 (.map (modN (fun e=>{ e with val:=.int .i64 (IntKind.wrap .i64 (x_15+1)) }) i es_4) cl_4)) fun w9=>some (.tuple ⟨[.slice none 0 0,.bool false]⟩,w9))))))
 (gSl (Addr.add ⟨b_2,0,none⟩ 2) w7 fun x_18 xn xc=>some (.tuple ⟨[.slice x_18 xn xc,.bool true]⟩,w7))))):=by kernel_rfl
def Bg1:Cuts:={ globs:=0,loops:=[],regs:=[],plans:=[] }
def Db7:List Item:=D0 Tryz.f155
theorem Ek3 (C:A8) (R:A9) (q:Option Addr) (s:Int) (k:Int) (h:H) :
 B9 PR Bg1 C R Az3 Tryz.f155 100000 true Db7 [(0,.pointer q),(1,.int .i64 s),(2,.int .i64 k)] h =
 bnd (C Aj7 [.pointer q,.int .i64 s] h) fun r w=>aBool r fun x=>cond (!x)
 (some (.int .i64 1,w))
 (bnd (C Ax3 [.pointer q,.int .i64 s,.int .i64 k] w) fun r_1 w1=>aBool r_1 fun x_1=>cond (!x_1)
 (some (.int .i64 5,w1))
 (aSome q fun p=>gSl (Addr.add p 0) w1 fun x_2 xn _=>aSome x_2 fun p_1=>ck ((0:Int)≤s∧s<((xn:Nat):Int)) (gSl (Addr.add (D5 p_1) (Int.toNat s*1)) w1 fun x_3 xn_1 _=>aSome x_3 fun p_2=>ck ((0:Int)≤k∧k<((xn_1:Nat):Int)) (pV (Addr.add (D5 p_2) (Int.toNat k*1)) (.int .i64 0) w1 fun w2=>some (.int .i64 0,w2))))):=by kernel_rfl
def Ah0:Cuts:={ globs:=0,loops:=[],regs:=[],plans:=[(2,⟨[0,1,2,3,4,5,6,7,8,9,10,11,12,13,14],[0,1,3,7,15,31,63,127,255,511,63,63,4095,8191,16383],[],[]⟩)] }
def A22:List Item:=D0 Tryz.f162
theorem B39 (C:A8) (R:A9) (c:Option Addr) (v:List Value) (h:H) :
 B9 PR Ah0 C R V4 Tryz.f162 100000 true A22 [(0,.pointer c),(1,.agg ⟨v⟩)] h =
 nw (.cells J0 false v) h fun b w=>aSome c fun p=>gInt .i64 (Addr.add p 0) w fun x=>ck ((0:Int)≤x∧(x:Int)≤x∧x≤(D3:Int)) (nw (.cells B0 false (I0 (Int.toNat x) [.int .u8 0])) w fun b_1 w1=>aSome c fun p_1=>gFv (Addr.add p_1 1) w1 fun x_1=>isNilF x_1 fun b_2=>bnd (cond b_2 (some (true,w1)) (aSome c fun p_2=>gFv (Addr.add p_2 1) w1 fun x_2=>gAgg ⟨b,0,none⟩ 4 w1 fun x_3=>aFn x_2 fun g fi cp=>bnd (C g (fi++([.agg ⟨x_3⟩,.slice (some ⟨b_1,0,none⟩) (Int.toNat x) (Int.toNat x)]++cp)) w1) fun r w2=>aBool r fun x_4=>some (!x_4,w2))) fun c_1 w3=>cond c_1
 (some (.tuple ⟨[.slice none 0 0,.bool false]⟩,w3))
 (some (.tuple ⟨[.slice (some ⟨b_1,0,none⟩) (Int.toNat x) (Int.toNat x),.bool true]⟩,w3))):=by kernel_rfl
def B74:Cuts:={ globs:=0,loops:=[],regs:=[],plans:=[] }
def D28:List Item:=D0 Tryz.f178
theorem Gf1 (C:A8) (R:A9) (m:Option Addr) (h:H) :
 B9 PR B74 C R A52 Tryz.f178 100000 true D28 [(0,.pointer m)] h =
 aSome m fun p=>gSl (Addr.add p 0) h fun _ xn _=>some (.int .i64 ((xn:Nat):Int),h):=by kernel_rfl
def Bj4:Cuts:={ globs:=0,loops:=[],regs:=[],plans:=[] }
def Da8:List Item:=D0 Tryz.f180
theorem El8 (C:A8) (R:A9) (n:Int) (h:H) :
 B9 PR Bj4 C R Al4 Tryz.f180 100000 true Da8 [(0,.int .i64 n)] h =
 bnd (cond (decide (n≥0)) (some (decide (n≤65536),h)) (some (false,h))) fun c w=>some (.bool c,w):=by kernel_rfl
def Bu3:Cuts:={ globs:=0,loops:=[],regs:=[],plans:=[] }
def Dm9:List Item:=D0 Tryz.f187
theorem E30 (C:A8) (R:A9) (s:Option Addr) (e:Int) (name:Int) (h:H) :
 B9 PR Bu3 C R Ba1 Tryz.f187 100000 true Dm9 [(0,.pointer s),(1,.int .i64 e),(2,.int .i64 name)] h =
 nw (.cells P7 false [.int .i64 0,.int .i64 0,.int .i64 0,.int .i64 0,.int .i64 0,.int .i64 0]) h fun b w=>bnd (C Ai9 [.pointer s,.int .i64 e] w) fun r w1=>aBool r fun x=>bnd (cond (!x) (some (true,w1)) (aSome s fun p=>gSl (Addr.add p 0) w1 fun x_1 xn _=>aSome x_1 fun p_1=>ck ((0:Int)≤e∧e<((xn:Nat):Int)) (gPtr (Addr.add (D5 p_1) (Int.toNat e*1)) w1 fun x_2=>bnd (C A74 [.pointer x_2,.int .i64 name] w1) fun r_1 w2=>aBool r_1 fun x_3=>some (!x_3,w2)))) fun c w3=>cond c
 (pAgg ⟨b,0,none⟩ [.int .i64 0,.int .i64 0,.int .i64 0,.int .i64 0,.int .i64 0,.int .i64 0] w3 fun w4=>gAgg ⟨b,0,none⟩ 6 w4 fun x_4=>some (.tuple ⟨[.agg ⟨x_4⟩,.int .i64 2]⟩,w4))
 (aSome s fun p_2=>gSl (Addr.add p_2 1) w3 fun x_5 xn_1 _=>aSome x_5 fun p_3=>ck ((0:Int)≤e∧e<((xn_1:Nat):Int)) (gSl (Addr.add (D5 p_3) (Int.toNat e*1)) w3 fun x_6 xn_2 _=>aSome x_6 fun p_4=>ck ((0:Int)≤S4 .i64 name 255∧S4 .i64 name 255<((xn_2:Nat):Int)) (gAgg (Addr.add (D5 p_4) (Int.toNat (S4 .i64 name 255)*6)) 6 w3 fun x_7=>ck (List.length x_7=6) (pAgg ⟨b,0,none⟩ x_7 w3 fun w5=>gAgg ⟨b,0,none⟩ 6 w5 fun x_8=>some (.tuple ⟨[.agg ⟨x_8⟩,.int .i64 0]⟩,w5))))):=by kernel_rfl
def A76:Cuts:={ globs:=0,loops:=[(3,[0,3,4])],regs:=[],plans:=[] }
def Bt9:List Item:=D0 Tryz.f194
def Ai5:List Item:=stk [0,1,0,1,0,0,1,4,5] Bt9
theorem E64 (C:A8) (R:A9) (n:Option Addr) (h:H) :
 B9 PR A76 C R Q9 Tryz.f194 100000 true Bt9 [(0,.pointer n)] h =
 R Q9 Ai5 [(0,.pointer n),(3,.slice none 0 0),(4,.int .i64 0)] h:=by kernel_rfl
theorem B49 (C:A8) (R:A9) (n:Option Addr) (out:Option Addr) (outn outc:Nat) (i:Int) (h:H) :
 B9 PR A76 C R Q9 Tryz.f194 100000 true Ai5 [(0,.pointer n),(3,.slice out outn outc),(4,.int .i64 i)] h =
 aSome n fun p=>gSl (Addr.add p 0) h fun _ xn _=>cond (decide (i<((xn:Nat):Int)))
 (aSome n fun p_1=>gSl (Addr.add p_1 0) h fun x_1 xn_1 _=>aSome x_1 fun p_2=>ck ((0:Int)≤i∧i<((xn_1:Nat):Int)) (gBool (Addr.add (Addr.add (D5 p_2) (Int.toNat i*2)) 1) h fun x_2=>cond x_2
 (aSome n fun p_3=>gSl (Addr.add p_3 0) h fun x_3 xn_2 _=>aSome x_3 fun p_4=>ck ((0:Int)≤i∧i<((xn_2:Nat):Int)) (gInt .i64 (Addr.add (Addr.add (D5 p_4) (Int.toNat i*2)) 0) h fun x_4=>nw (.cells D6 false [.int .i64 (IntKind.wrap .i64 (i+(IntKind.wrap .i64 (256*x_4))))]) h fun b w=>gCells (some ⟨b,0,none⟩) (1*1) w fun cs=>ckB (fitsOpen out D6 w) (apd D6 1 out outn outc 1 cs w fun a an ac w1=>R Q9 Ai5 [(0,.pointer n),(3,.slice a an ac),(4,.int .i64 (IntKind.wrap .i64 (i+1)))] w1)))
 (R Q9 Ai5 [(0,.pointer n),(3,.slice out outn outc),(4,.int .i64 (IntKind.wrap .i64 (i+1)))] h)))
 (some (.slice out outn outc,h)):=by kernel_rfl
def A82:Cuts:={ globs:=0,loops:=[],regs:=[],plans:=[] }
def B09:List Item:=D0 Tryz.f196
theorem D89 (C:A8) (R:A9) (size:Int) (put:Value) (get:Value) (h:H) :
 B9 PR A82 C R An9 Tryz.f196 100000 true B09 [(0,.int .i64 size),(1,put),(2,get)] h =
 one put (one get (nw (.cells Bp8 false [.int .i64 (mm2 false (mm2 true size 0) 64),put,get]) h fun b w=>some (.pointer (some ⟨b,0,none⟩),w))):=by kernel_rfl
def Ea2:Cuts:={ globs:=0,loops:=[],regs:=[],plans:=[(1,⟨[0,1,2,3,4,5,6,7,8,9,10,11,12,13,14,15,16,17,18],[0,1,3,7,0,16,48,112,0,256,768,1792,0,4096,12288,28672,65535,0,262143],[],[]⟩),(2,⟨[0,1,2,3,4],[0,1,0,4,15],[],[]⟩),(4,⟨[0,1,2,3,4,5,6,7,8],[0,0,2,6,6,30,62,63,255],[(5,[0])],[]⟩)] }
def E90:List Item:=D0 Tryz.f198
theorem Hl9 (C:A8) (R:A9) (b:Option Addr) (bn bc:Nat) (h:H) :
 B9 PR Ea2 C R Bk9 Tryz.f198 100000 true E90 [(0,.slice b bn bc)] h =
 nw (.cells I9 false [.int .i64 0,.int .i64 0,.int .i64 0,.int .i64 0,.int .u8 0,.int .u8 0,.int .u8 0,.int .u8 0,.int .u8 0,.int .u8 0,.int .u8 0,.int .u8 0,.int .u8 0,.int .u8 0,.int .u8 0,.int .u8 0,.int .u8 0,.int .u8 0,.int .u8 0,.int .u8 0,.int .u8 0,.int .u8 0,.int .u8 0,.int .u8 0,.int .u8 0,.int .u8 0,.int .u8 0,.int .u8 0,.int .u8 0,.int .u8 0,.int .u8 0,.int .u8 0,.int .u8 0,.int .u8 0,.int .u8 0,.int .u8 0]) h fun b_1 w=>aSome b fun p=>ck ((0:Int)≤1∧1<((bn:Nat):Int)) (gInt .u8 (Addr.add (D5 p) (Int.toNat 1*1)) w fun x=>aSome b fun p_1=>ck ((0:Int)≤2∧2<((bn:Nat):Int)) (gInt .u8 (Addr.add (D5 p_1) (Int.toNat 2*1)) w fun x_1=>aSome b fun p_2=>ck ((0:Int)≤3∧3<((bn:Nat):Int)) (gInt .u8 (Addr.add (D5 p_2) (Int.toNat 3*1)) w fun x_2=>aSome b fun p_3=>ck ((0:Int)≤4∧4<((bn:Nat):Int)) (gInt .u8 (Addr.add (D5 p_3) (Int.toNat 4*1)) w fun x_3=>nw (.cells I9 false [.int .i64 0,.int .i64 0,.int .i64 0,.int .i64 0,.int .u8 0,.int .u8 0,.int .u8 0,.int .u8 0,.int .u8 0,.int .u8 0,.int .u8 0,.int .u8 0,.int .u8 0,.int .u8 0,.int .u8 0,.int .u8 0,.int .u8 0,.int .u8 0,.int .u8 0,.int .u8 0,.int .u8 0,.int .u8 0,.int .u8 0,.int .u8 0,.int .u8 0,.int .u8 0,.int .u8 0,.int .u8 0,.int .u8 0,.int .u8 0,.int .u8 0,.int .u8 0,.int .u8 0,.int .u8 0,.int .u8 0,.int .u8 0]) w fun b_2 w1=>pAgg ⟨b_2,0,none⟩ [.int .i64 (IntKind.wrap .i64 (x)),.int .i64 (IntKind.wrap .i64 (x_1)),.int .i64 (IntKind.wrap .i64 (x_2)),.int .i64 (IntKind.wrap .i64 (x_3)),.int .u8 0,.int .u8 0,.int .u8 0,.int .u8 0,.int .u8 0,.int .u8 0,.int .u8 0,.int .u8 0,.int .u8 0,.int .u8 0,.int .u8 0,.int .u8 0,.int .u8 0,.int .u8 0,.int .u8 0,.int .u8 0,.int .u8 0,.int .u8 0,.int .u8 0,.int .u8 0,.int .u8 0,.int .u8 0,.int .u8 0,.int .u8 0,.int .u8 0,.int .u8 0,.int .u8 0,.int .u8 0,.int .u8 0,.int .u8 0,.int .u8 0,.int .u8 0] w1 fun w2=>ckB (liveA (Addr.add ⟨b_2,0,none⟩ 4) w2) (ckB (fitsOpen b B0 w2) (ck ((0:Int)≤8∧8≤((bn:Nat):Int)) (gCells (I4 b (decide (Int.toNat 8<bc)) ((Int.toNat 8)*1)) (min (bn-(Int.toNat 8)) (32-0)*1) w2 fun cs=>pCells (I4 (some (Addr.add ⟨b_2,0,none⟩ 4)) (decide (0<32)) (0*1)) cs w2 fun w3=>gAgg ⟨b_2,0,none⟩ 36 w3 fun x_4=>bnd (C Ba6 [.agg ⟨x_4⟩] w3) fun r w4=>as2 r fun r_1 r_2=>aSl r_1 fun x_5 xn xc=>aBool r_2 fun x_6=>gAgg ⟨b_2,0,none⟩ 36 w4 fun x_7=>bnd (cond x_6 (bnd (C E3 [.slice x_5 xn xc,.slice b bn bc] w4) fun r_3 w5=>aBool r_3 fun x_8=>gAgg ⟨b_2,0,none⟩ 36 w5 fun x_9=>same (.agg ⟨x_7⟩) (.agg ⟨x_9⟩) (some (x_8,w5))) (some (false,w4))) fun c w6=>ck (List.length x_7=36) (pAgg ⟨b_1,0,none⟩ x_7 w6 fun w7=>gAgg ⟨b_1,0,none⟩ 36 w7 fun x_10=>some (.tuple ⟨[.agg ⟨x_10⟩,.bool c]⟩,w7))))))))):=by kernel_rfl
def By7:Cuts:={ globs:=0,loops:=[],regs:=[],plans:=[] }
def Du5:List Item:=D0 Tryz.f200
theorem E72 (C:A8) (R:A9) (c:Int) (h:H) :
 B9 PR By7 C R Ag5 Tryz.f200 100000 true Du5 [(0,.int .u8 c)] h =
 some (.bool (c != 0),h):=by kernel_rfl
def Bs7:Cuts:={ globs:=0,loops:=[],regs:=[],plans:=[] }
def Dp5:List Item:=D0 Tryz.f203
theorem E61 (C:A8) (R:A9) (s:Option Addr) (env:Int) (name:Int) (h:H) :
 B9 PR Bs7 C R Au5 Tryz.f203 100000 true Dp5 [(0,.pointer s),(1,.int .i64 env),(2,.int .i64 name)] h =
 nw (.cells P7 false [.int .i64 0,.int .i64 0,.int .i64 0,.int .i64 0,.int .i64 0,.int .i64 0]) h fun b w=>bnd (C Af5 [.pointer s,.int .i64 env] w) fun r w1=>aBool r fun x=>cond (!x)
 (pAgg ⟨b,0,none⟩ [.int .i64 0,.int .i64 0,.int .i64 0,.int .i64 0,.int .i64 0,.int .i64 0] w1 fun w2=>gAgg ⟨b,0,none⟩ 6 w2 fun x_1=>some (.tuple ⟨[.agg ⟨x_1⟩,.int .i64 2]⟩,w2))
 (aSome s fun p=>gSl (Addr.add p 0) w1 fun x_2 xn _=>aSome x_2 fun p_1=>ck ((0:Int)≤env∧env<((xn:Nat):Int)) (gPtr (Addr.add (D5 p_1) (Int.toNat env*1)) w1 fun x_3=>bnd (C Ad9 [.pointer x_3,.int .i64 name] w1) fun r_1 w3=>as2 r_1 fun r_2 r_3=>aAgg r_2 fun x_4=>aBool r_3 fun x_5=>nw (.cells P7 false [.int .i64 0,.int .i64 0,.int .i64 0,.int .i64 0,.int .i64 0,.int .i64 0]) w3 fun b_1 w4=>ck (List.length x_4=6) (pAgg ⟨b_1,0,none⟩ x_4 w4 fun w5=>cond (!x_5)
 (pAgg ⟨b,0,none⟩ [.int .i64 0,.int .i64 0,.int .i64 0,.int .i64 0,.int .i64 0,.int .i64 0] w5 fun w6=>gAgg ⟨b,0,none⟩ 6 w6 fun x_6=>some (.tuple ⟨[.agg ⟨x_6⟩,.int .i64 2]⟩,w6))
 (gAgg ⟨b_1,0,none⟩ 6 w5 fun x_7=>ck (List.length x_7=6) (pAgg ⟨b,0,none⟩ x_7 w5 fun w7=>gAgg ⟨b,0,none⟩ 6 w7 fun x_8=>some (.tuple ⟨[.agg ⟨x_8⟩,.int .i64 0]⟩,w7)))))):=by kernel_rfl
def A80:Cuts:={ globs:=0,loops:=[],regs:=[],plans:=[] }
def Bx6:List Item:=D0 Tryz.f214
theorem Ec8 (C:A8) (R:A9) (size:Int) (put:Value) (get:Value) (h:H) :
 B9 PR A80 C R Ap8 Tryz.f214 100000 true Bx6 [(0,.int .i64 size),(1,put),(2,get)] h =
 one put (one get (nw (.cells Ak0 false [.int .i64 (mm2 false (mm2 true size 0) 64),put,get]) h fun b w=>some (.pointer (some ⟨b,0,none⟩),w))):=by kernel_rfl
def Dx2:Cuts:={ globs:=0,loops:=[],regs:=[],plans:=[] }
def E02:List Item:=D0 Tryz.f215
theorem G83 (C:A8) (R:A9) (f:List Value) (b:Option Addr) (bn bc:Nat) (h:H) :
 B9 PR Dx2 C R Ar8 Tryz.f215 100000 true E02 [(0,.agg ⟨f⟩),(1,.slice b bn bc)] h =
 nw (.cells J0 false f) h fun b_1 w=>gAgg ⟨b_1,0,none⟩ 4 w fun x=>bnd (C Dk3 [.agg ⟨x⟩] w) fun r w1=>aBool r fun x_1=>cond (!x_1)
 (some (.bool false,w1))
 (gInt .i64 (Addr.add ⟨b_1,0,none⟩ 0) w1 fun x_2=>gInt .i64 (Addr.add ⟨b_1,0,none⟩ 1) w1 fun x_3=>gInt .i64 (Addr.add ⟨b_1,0,none⟩ 2) w1 fun x_4=>gInt .i64 (Addr.add ⟨b_1,0,none⟩ 3) w1 fun x_5=>nw (.cells B0 false [.int .u8 (IntKind.wrap .u8 (x_2)),.int .u8 (IntKind.wrap .u8 (x_3)),.int .u8 (IntKind.wrap .u8 (x_4)),.int .u8 (IntKind.wrap .u8 (x_5)),.int .u8 179]) w1 fun b_2 w2=>gCells (some ⟨b_2,0,none⟩) (min 5 bn*1) w2 fun cs=>pCells b cs w2 fun w3=>ckB (fitsOpen b B0 w3) (ck ((0:Int)≤5∧5≤((bc:Nat):Int)) (bnd (C Ab1 [.slice (I4 b (decide (0<bc)) (0*1)) ((Int.toNat 5)-0) (bc-0)] w3) fun r_1 w4=>aInt .u8 r_1 fun x_6=>aSome b fun p=>ck ((0:Int)≤5∧5<((bn:Nat):Int)) (pV (Addr.add (D5 p) (Int.toNat 5*1)) (.int .u8 x_6) w4 fun w5=>some (.bool true,w5))))):=by kernel_rfl
def W8:Cuts:={ globs:=0,loops:=[(2,[0,1,7,8])],regs:=[],plans:=[] }
def Aj9:List Item:=D0 Tryz.f217
def N6:List Item:=stk [0,1,0,0,1,4,5] Aj9
theorem A49 (C:A8) (R:A9) (s:Option Addr) (sn sc:Nat) (f:Value) (h:H) :
 B9 PR W8 C R E6 Tryz.f217 100000 true Aj9 [(0,.slice s sn sc),(1,f)] h =
 R E6 N6 [(0,.slice s sn sc),(1,f),(7,.int .i64 ((sn:Nat):Int)),(8,.int .i64 0)] h:=by kernel_rfl
theorem S9 (C:A8) (R:A9) (s:Option Addr) (sn sc:Nat) (f:Value) (x7:Int) (x8:Int) (h:H) :
 B9 PR W8 C R E6 Tryz.f217 100000 true N6 [(0,.slice s sn sc),(1,f),(7,.int .i64 x7),(8,.int .i64 x8)] h =
 cond (decide (x8<x7))
 (aSome s fun p=>ck ((0:Int)≤x8∧x8<((sn:Nat):Int)) (gInt .i64 (Addr.add (D5 p) (Int.toNat x8*1)) h fun x=>aFn f fun g fi cp=>bnd (C g (fi++([.int .i64 x]++cp)) h) fun r w=>aBool r fun x_1=>cond x_1
 (some (.int .i64 x8,w))
 (R E6 N6 [(0,.slice s sn sc),(1,f),(7,.int .i64 x7),(8,.int .i64 (IntKind.wrap .i64 (x8+1)))] w)))
 (some (.int .i64 (-1),h)):=by kernel_rfl
def Ad7:Cuts:={ globs:=0,loops:=[(2,[0,3,11,12,13])],regs:=[],plans:=[(5,⟨[0,1,2,3,4,5,6,7,8,9,10,11,12,13,14,15,16],[0,1,3,7,0,0,32,96,224,0,0,1535,3583,7679,16383,32767,65535],[],[]⟩)] }
def Ap4:List Item:=D0 Tryz.f218
def Y9:List Item:=stk [0,1,0,0,1,4,5] Ap4
theorem Dh3 (C:A8) (R:A9) (t:Option Addr) (v:List Value) (h:H) :
 B9 PR Ad7 C R I5 Tryz.f218 100000 true Ap4 [(0,.pointer t),(1,.agg ⟨v⟩)] h =
 nw (.cells P7 false v) h fun b w=>aSome t fun p=>gSl (Addr.add p 0) w fun x xn xc=>R I5 Y9 [(0,.pointer t),(3,.pointer (some ⟨b,0,none⟩)),(11,.slice x xn xc),(12,.int .i64 ((xn:Nat):Int)),(13,.int .i64 0)] w:=by kernel_rfl
theorem A48 (C:A8) (R:A9) (t:Option Addr) (v:Addr) (x11:Option Addr) (x11n x11c:Nat) (x12:Int) (x13:Int) (h:H) :
 B9 PR Ad7 C R I5 Tryz.f218 100000 true Y9 [(0,.pointer t),(3,.pointer (some v)),(11,.slice x11 x11n x11c),(12,.int .i64 x12),(13,.int .i64 x13)] h =
 cond (decide (x13<x12))
 (aSome x11 fun p=>ck ((0:Int)≤x13∧x13<((x11n:Nat):Int)) (gAgg (Addr.add (D5 p) (Int.toNat x13*8)) 8 h fun x=>nw (.cells Al7 false [.int .i64 0,.int .i64 0,.int .i64 0,.int .i64 0,.int .i64 0,.int .i64 0,.int .i64 0,.bool false]) h fun b w=>ck (List.length x=8) (pAgg ⟨b,0,none⟩ x w fun w1=>gBool (Addr.add ⟨b,0,none⟩ 7) w1 fun x_1=>bnd (cond (!x_1) (gInt .i64 (Addr.add ⟨b,0,none⟩ 6) w1 fun x_2=>some (decide (x_2≤1000000),w1)) (some (false,w1))) fun c w2=>cond c
 (aSome t fun p_1=>gSl (Addr.add p_1 0) w2 fun x_3 xn _=>aSome t fun p_2=>gSl (Addr.add p_2 0) w2 fun x_4 xn_1 _=>gAgg v 6 w2 fun x_5=>aSome x_3 fun p_3=>ck ((0:Int)≤x13∧x13<((xn:Nat):Int)) (ck (List.length x_5=6) (pAgg (Addr.add (Addr.add (D5 p_3) (Int.toNat x13*8)) 0) x_5 w2 fun w3=>aSome x_4 fun p_4=>ck ((0:Int)≤x13∧x13<((xn_1:Nat):Int)) (pV (Addr.add (Addr.add (D5 p_4) (Int.toNat x13*8)) 7) (.bool true) w3 fun w4=>bnd (C N9 [.pointer t,.int .i64 x13] w4) fun r w5=>aInt .i64 r fun x_6=>some (.tuple ⟨[.int .i64 x_6,.bool true]⟩,w5)))))
 (R I5 Y9 [(0,.pointer t),(3,.pointer (some v)),(11,.slice x11 x11n x11c),(12,.int .i64 x12),(13,.int .i64 (IntKind.wrap .i64 (x13+1)))] w2))))
 (some (.tuple ⟨[.int .i64 0,.bool false]⟩,h)):=by kernel_rfl
def A81:Cuts:={ globs:=0,loops:=[(2,[0,4])],regs:=[],plans:=[] }
def Bt6:List Item:=D0 Tryz.f219
def Au9:List Item:=stk [0,1,0,0,1,4,5] Bt6
theorem E63 (C:A8) (R:A9) (n:Option Addr) (h:H) :
 B9 PR A81 C R W3 Tryz.f219 100000 true Bt6 [(0,.pointer n)] h =
 R W3 Au9 [(0,.pointer n),(4,.int .i64 0)] h:=by kernel_rfl
theorem B48 (C:A8) (R:A9) (n:Option Addr) (i:Int) (h:H) :
 B9 PR A81 C R W3 Tryz.f219 100000 true Au9 [(0,.pointer n),(4,.int .i64 i)] h =
 aSome n fun p=>gSl (Addr.add p 0) h fun _ xn _=>cond (decide (i<((xn:Nat):Int)))
 (aSome n fun p_1=>gSl (Addr.add p_1 0) h fun x_1 xn_1 _=>aSome x_1 fun p_2=>ck ((0:Int)≤i∧i<((xn_1:Nat):Int)) (gBool (Addr.add (Addr.add (D5 p_2) (Int.toNat i*2)) 1) h fun x_2=>bnd (cond (!x_2) (aSome n fun p_3=>gSl (Addr.add p_3 0) h fun x_3 xn_2 _=>aSome x_3 fun p_4=>ck ((0:Int)≤i∧i<((xn_2:Nat):Int)) (gInt .i64 (Addr.add (Addr.add (D5 p_4) (Int.toNat i*2)) 0) h fun x_4=>some (decide (x_4≤1000000),h))) (some (false,h))) fun c w=>cond c
 (aSome n fun p_5=>gSl (Addr.add p_5 0) w fun x_5 xn_3 _=>aSome x_5 fun p_6=>ck ((0:Int)≤i∧i<((xn_3:Nat):Int)) (pV (Addr.add (Addr.add (D5 p_6) (Int.toNat i*2)) 1) (.bool true) w fun w1=>aSome n fun p_7=>gSl (Addr.add p_7 0) w1 fun x_6 xn_4 _=>aSome x_6 fun p_8=>ck ((0:Int)≤i∧i<((xn_4:Nat):Int)) (gInt .i64 (Addr.add (Addr.add (D5 p_8) (Int.toNat i*2)) 0) w1 fun x_7=>some (.tuple ⟨[.int .i64 (IntKind.wrap .i64 (i+(IntKind.wrap .i64 (256*x_7)))),.bool true]⟩,w1))))
 (R W3 Au9 [(0,.pointer n),(4,.int .i64 (IntKind.wrap .i64 (i+1)))] w)))
 (some (.tuple ⟨[.int .i64 0,.bool false]⟩,h)):=by kernel_rfl
def Bt2:Cuts:={ globs:=0,loops:=[],regs:=[],plans:=[] }
def Dq6:List Item:=D0 Tryz.f220
theorem E13 (C:A8) (R:A9) (n:Option Addr) (name:Int) (h:H) :
 B9 PR Bt2 C R A74 Tryz.f220 100000 true Dq6 [(0,.pointer n),(1,.int .i64 name)] h =
 bnd (cond (decide (name≥0)) (aSome n fun p=>gSl (Addr.add p 0) h fun _ xn _=>some (decide ((S4 .i64 name 255)<((xn:Nat):Int)),h)) (some (false,h))) fun c w=>bnd (cond c (aSome n fun p_1=>gSl (Addr.add p_1 0) w fun x_1 xn_1 _=>aSome x_1 fun p_2=>ck ((0:Int)≤S4 .i64 name 255∧S4 .i64 name 255<((xn_1:Nat):Int)) (gBool (Addr.add (Addr.add (D5 p_2) (Int.toNat (S4 .i64 name 255)*2)) 1) w fun x_2=>some (x_2,w))) (some (false,w))) fun c_1 w1=>bnd (cond c_1 (aSome n fun p_3=>gSl (Addr.add p_3 0) w1 fun x_3 xn_2 _=>aSome x_3 fun p_4=>ck ((0:Int)≤S4 .i64 name 255∧S4 .i64 name 255<((xn_2:Nat):Int)) (gInt .i64 (Addr.add (Addr.add (D5 p_4) (Int.toNat (S4 .i64 name 255)*2)) 0) w1 fun x_4=>some (x_4==(Int.fdiv name (2 ^ 8)),w1))) (some (false,w1))) fun c_2 w2=>some (.bool c_2,w2):=by kernel_rfl
def Ao5:Cuts:={ globs:=0,loops:=[],regs:=[],plans:=[] }
def Bf3:List Item:=D0 Tryz.f226
theorem Dk4 (C:A8) (R:A9) (t:Option Addr) (name:Int) (h:H) :
 B9 PR Ao5 C R Ad9 Tryz.f226 100000 true Bf3 [(0,.pointer t),(1,.int .i64 name)] h =
 nw (.cells P7 false [.int .i64 0,.int .i64 0,.int .i64 0,.int .i64 0,.int .i64 0,.int .i64 0]) h fun b w=>bnd (C Af4 [.pointer t,.int .i64 name] w) fun r w1=>aPtr r fun x=>cond x.isNone
 (nw (.cells P7 false [.int .i64 0,.int .i64 0,.int .i64 0,.int .i64 0,.int .i64 0,.int .i64 0]) w1 fun b_1 w2=>gAgg ⟨b_1,0,none⟩ 6 w2 fun x_1=>ck (List.length x_1=6) (pAgg ⟨b,0,none⟩ x_1 w2 fun w3=>gAgg ⟨b,0,none⟩ 6 w3 fun x_2=>some (.tuple ⟨[.agg ⟨x_2⟩,.bool false]⟩,w3)))
 (aSome x fun p=>gAgg (Addr.add p 0) 6 w1 fun x_3=>ck (List.length x_3=6) (pAgg ⟨b,0,none⟩ x_3 w1 fun w4=>gAgg ⟨b,0,none⟩ 6 w4 fun x_4=>some (.tuple ⟨[.agg ⟨x_4⟩,.bool true]⟩,w4))):=by kernel_rfl
def Bm9:Cuts:={ globs:=0,loops:=[],regs:=[],plans:=[] }
def Dg4:List Item:=D0 Tryz.f230
theorem Ew5 (C:A8) (R:A9) (s:Option Addr) (who:Int) (stamp:Int) (h:H) :
 B9 PR Bm9 C R A33 Tryz.f230 100000 true Dg4 [(0,.pointer s),(1,.int .i64 who),(2,.int .i64 stamp)] h =
 aSome s fun p=>gBool (Addr.add p 1) h fun x=>bnd (cond x (aSome s fun p_1=>gInt .i64 (Addr.add p_1 2) h fun x_1=>some (x_1==who,h)) (some (false,h))) fun c w=>bnd (cond c (aSome s fun p_2=>gInt .i64 (Addr.add p_2 3) w fun x_2=>some (x_2==stamp,w)) (some (false,w))) fun c_1 w1=>some (.bool c_1,w1):=by kernel_rfl
def Dn6:Cuts:={ globs:=0,loops:=[],regs:=[],plans:=[] }
def En8:List Item:=D0 Tryz.f238
theorem G36 (C:A8) (R:A9) (n:Int) (without:Int) (h:H) :
 B9 PR Dn6 C R Al5 Tryz.f238 100000 true En8 [(0,.int .i64 n),(1,.int .i64 without)] h =
 bnd (cond ((Ep6 .i64 n 65534)==0) (some ((S4 .i64 n without)==0,h)) (some (false,h))) fun c w=>some (.bool c,w):=by kernel_rfl
end
end Go.EQ

set_option maxRecDepth 100000
namespace Go.EQ
open Go Go.NN Go.Proofs
variable (C : A8) (R : A9)
noncomputable section
def Dz2:Cuts:={ globs:=0,loops:=[],regs:=[],plans:=[] }
def Ey5:List Item:=D0 Tryz.f35
theorem Hc6 (C:A8) (R:A9) (c:Option Addr) (i:Int) (h:H) :
 B9 PR Dz2 C R A19 Tryz.f35 100000 true Ey5 [(0,.pointer c),(1,.int .i64 i)] h =
 nw (.cells As1 false [.int .i64 0,.int .i64 0,.slice none 0 0,.bool false]) h fun b w=>bnd (C A09 [.pointer c,.int .i64 i] w) fun r w1=>as2 r fun r_1 r_2=>aAgg r_1 fun x=>aInt .i64 r_2 fun x_1=>nw (.cells E1 false [.int .i64 0,.int .i64 0,.int .i64 0,.int .i64 0,.int .i64 0,.int .i64 0,.int .i64 0,.int .i64 0,.int .i64 0,.int .i64 0,.int .i64 0,.int .i64 0,.int .i64 0,.int .i64 0,.int .i64 0,.int .i64 0]) w1 fun b_1 w2=>ck (List.length x=16) (pAgg ⟨b_1,0,none⟩ x w2 fun w3=>cond (x_1 != 0)
 (bnd (C Aa8 [.int .i64 x_1] w3) fun r_3 w4=>aAgg r_3 fun x_2=>ck (List.length x_2=4) (pAgg ⟨b,0,none⟩ x_2 w4 fun w5=>gAgg ⟨b,0,none⟩ 4 w5 fun x_3=>some (.agg ⟨x_3⟩,w5)))
 (bnd (C Ar0 [.pointer c] w3) fun r_4 w6=>aInt .i64 r_4 fun x_4=>cond (decide (x_4<0))
 (bnd (C Aa8 [.int .i64 111] w6) fun r_5 w7=>aAgg r_5 fun x_5=>ck (List.length x_5=4) (pAgg ⟨b,0,none⟩ x_5 w7 fun w8=>gAgg ⟨b,0,none⟩ 4 w8 fun x_6=>some (.agg ⟨x_6⟩,w8)))
 (gAgg ⟨b_1,0,none⟩ 16 w6 fun x_7=>bnd (C H0 [.pointer c,.agg ⟨x_7⟩] w6) fun r_6 w9=>aInt .i64 r_6 fun x_8=>cond (x_8 != 0)
 (bnd (C Aa8 [.int .i64 x_8] w9) fun r_7 w10=>aAgg r_7 fun x_9=>ck (List.length x_9=4) (pAgg ⟨b,0,none⟩ x_9 w10 fun w11=>gAgg ⟨b,0,none⟩ 4 w11 fun x_10=>some (.agg ⟨x_10⟩,w11)))
 (pV (Addr.add ⟨b_1,0,none⟩ 1) (.int .i64 (IntKind.wrap .i64 (i+1))) w9 fun w12=>pV (Addr.add ⟨b_1,0,none⟩ 4) (.int .i64 0) w12 fun w13=>gAgg ⟨b_1,0,none⟩ 16 w13 fun x_11=>bnd (C L5 [.pointer c,.int .i64 x_4,.agg ⟨x_11⟩] w13) fun r_8 w14=>aBool r_8 fun x_12=>bnd (C Aa6 [.bool x_12,.int .i64 x_4] w14) fun r_9 w15=>aAgg r_9 fun x_13=>ck (List.length x_13=4) (pAgg ⟨b,0,none⟩ x_13 w15 fun w16=>gAgg ⟨b,0,none⟩ 4 w16 fun x_14=>some (.agg ⟨x_14⟩,w16)))))):=by kernel_rfl
def A04:Cuts:={ globs:=0,loops:=[],regs:=[],plans:=[] }
def Bp7:List Item:=D0 Tryz.f36
theorem Dz3 (C:A8) (R:A9) (c:Option Addr) (i:Int) (h:H) :
 B9 PR A04 C R O9 Tryz.f36 100000 true Bp7 [(0,.pointer c),(1,.int .i64 i)] h =
 nw (.cells J0 false [.int .i64 0,.int .i64 0,.int .i64 0,.int .i64 0]) h fun b w=>bnd (C As7 [.int .i64 i] w) fun r w1=>aAgg r fun x=>bnd (C L8 [.pointer c,.agg ⟨x⟩,.func (.func A56) ⟨[]⟩ ⟨[]⟩] w1) fun r_1 w2=>as2 r_1 fun r_2 r_3=>aAgg r_2 fun x_1=>aInt .i64 r_3 fun x_2=>ck (List.length x_1=4) (pAgg ⟨b,0,none⟩ x_1 w2 fun w3=>gAgg ⟨b,0,none⟩ 4 w3 fun x_3=>some (.tuple ⟨[.agg ⟨x_3⟩,.int .i64 x_2]⟩,w3)):=by kernel_rfl
def Df0:Cuts:={ globs:=0,loops:=[],regs:=[],plans:=[] }
def Ee9:List Item:=D0 Tryz.f37
theorem Gs0 (C:A8) (R:A9)  (h:H) :
 B9 PR Df0 C R Bq8 Tryz.f37 100000 true Ee9 [] h =
 bnd (C Bc2 [] h) fun r w=>aSl r fun x xn xc=>bnd (C Af0 [.slice x xn xc] w) fun r_1 w1=>as4 r_1 fun r_2 r_3 r_4 r_5=>aPtr r_2 fun _=>aPtr r_3 fun x_2=>aPtr r_4 fun _=>aPtr r_5 fun _=>cond x_2.isNone
 (some (.bool false,w1))
 (bnd (C Ab8 [.pointer x_2,.int .i64 0] w1) fun r_6 w2=>aAgg r_6 fun x_5=>nw (.cells As1 false [.int .i64 0,.int .i64 0,.slice none 0 0,.bool false]) w2 fun b w3=>ck (List.length x_5=4) (pAgg ⟨b,0,none⟩ x_5 w3 fun w4=>bnd (C A19 [.pointer x_2,.int .i64 0] w4) fun r_7 w5=>aAgg r_7 fun x_6=>nw (.cells As1 false [.int .i64 0,.int .i64 0,.slice none 0 0,.bool false]) w5 fun b_1 w6=>ck (List.length x_6=4) (pAgg ⟨b_1,0,none⟩ x_6 w6 fun w7=>bnd (C Ab8 [.pointer x_2,.int .i64 0] w7) fun r_8 w8=>aAgg r_8 fun x_7=>nw (.cells As1 false [.int .i64 0,.int .i64 0,.slice none 0 0,.bool false]) w8 fun b_2 w9=>ck (List.length x_7=4) (pAgg ⟨b_2,0,none⟩ x_7 w9 fun w10=>bnd (C A09 [.pointer x_2,.int .i64 1] w10) fun r_9 w11=>as2 r_9 fun r_10 r_11=>aAgg r_10 fun x_8=>aInt .i64 r_11 fun x_9=>nw (.cells E1 false [.int .i64 0,.int .i64 0,.int .i64 0,.int .i64 0,.int .i64 0,.int .i64 0,.int .i64 0,.int .i64 0,.int .i64 0,.int .i64 0,.int .i64 0,.int .i64 0,.int .i64 0,.int .i64 0,.int .i64 0,.int .i64 0]) w11 fun b_3 w12=>ck (List.length x_8=16) (pAgg ⟨b_3,0,none⟩ x_8 w12 fun w13=>gInt .i64 (Addr.add ⟨b,0,none⟩ 1) w13 fun x_10=>bnd (cond (x_10==110) (gInt .i64 (Addr.add ⟨b_1,0,none⟩ 1) w13 fun x_11=>some (x_11==0,w13)) (some (false,w13))) fun c w14=>bnd (cond c (gInt .i64 (Addr.add ⟨b_1,0,none⟩ 0) w14 fun x_12=>some (x_12==1,w14)) (some (false,w14))) fun c_1 w15=>bnd (cond c_1 (gBool (Addr.add ⟨b_2,0,none⟩ 3) w15 fun x_13=>some (x_13,w15)) (some (false,w15))) fun c_2 w16=>bnd (cond c_2 (some (x_9==0,w16)) (some (false,w16))) fun c_3 w17=>bnd (cond c_3 (gInt .i64 (Addr.add ⟨b_3,0,none⟩ 1) w17 fun x_14=>some (x_14==1,w17)) (some (false,w17))) fun c_4 w18=>bnd (cond c_4 (ck ((0:Int)≤0∧0<((8:Nat):Int)) (gInt .i64 (Addr.add (Addr.add ⟨b_3,0,none⟩ 8) (Int.toNat 0*1)) w18 fun x_15=>some (x_15==1,w18))) (some (false,w18))) fun c_5 w19=>some (.bool c_5,w19)))))):=by kernel_rfl
def Dy6:Cuts:={ globs:=0,loops:=[],regs:=[],plans:=[] }
def Ez3:List Item:=D0 Tryz.f40
theorem G89 (C:A8) (R:A9) (c:Option Addr) (i:Int) (h:H) :
 B9 PR Dy6 C R A09 Tryz.f40 100000 true Ez3 [(0,.pointer c),(1,.int .i64 i)] h =
 nw (.cells E1 false [.int .i64 0,.int .i64 0,.int .i64 0,.int .i64 0,.int .i64 0,.int .i64 0,.int .i64 0,.int .i64 0,.int .i64 0,.int .i64 0,.int .i64 0,.int .i64 0,.int .i64 0,.int .i64 0,.int .i64 0,.int .i64 0]) h fun b w=>bnd (C E0 [.pointer c] w) fun r w1=>as0 r (bnd (C E4 [.pointer c,.int .i64 i] w1) fun r_1 w2=>as2 r_1 fun r_2 r_3=>aAgg r_2 fun x=>aInt .i64 r_3 fun x_1=>nw (.cells E1 false [.int .i64 0,.int .i64 0,.int .i64 0,.int .i64 0,.int .i64 0,.int .i64 0,.int .i64 0,.int .i64 0,.int .i64 0,.int .i64 0,.int .i64 0,.int .i64 0,.int .i64 0,.int .i64 0,.int .i64 0,.int .i64 0]) w2 fun b_1 w3=>ck (List.length x=16) (pAgg ⟨b_1,0,none⟩ x w3 fun w4=>bnd (cond (x_1 != 1) (some (true,w4)) (gInt .i64 (Addr.add ⟨b_1,0,none⟩ 0) w4 fun x_2=>some (x_2 != 1,w4))) fun c_1 w5=>cond c_1
 (pAgg ⟨b,0,none⟩ [.int .i64 0,.int .i64 0,.int .i64 0,.int .i64 0,.int .i64 0,.int .i64 0,.int .i64 0,.int .i64 0,.int .i64 0,.int .i64 0,.int .i64 0,.int .i64 0,.int .i64 0,.int .i64 0,.int .i64 0,.int .i64 0] w5 fun w6=>gAgg ⟨b,0,none⟩ 16 w6 fun x_3=>some (.tuple ⟨[.agg ⟨x_3⟩,.int .i64 105]⟩,w6))
 (gAgg ⟨b_1,0,none⟩ 16 w5 fun x_4=>ck (List.length x_4=16) (pAgg ⟨b,0,none⟩ x_4 w5 fun w7=>gAgg ⟨b,0,none⟩ 16 w7 fun x_5=>some (.tuple ⟨[.agg ⟨x_5⟩,.int .i64 0]⟩,w7))))):=by kernel_rfl
def Ba2:Cuts:={ globs:=0,loops:=[(5,[1,4,20,21,22]),(12,[1,7,58,59,60]),(18,[7,89,90,91]),(22,[7,11,12,89,90,91,122,123,124])],regs:=[],plans:=[(9,⟨[0,1,3,5,6,7,9,10,2,4,8,11,12,13,14],[0,1,3,0,15,0,32,96,255,0,512,2047,4095,8191,16383],[(2,[6,10]),(4,[6,10]),(8,[10])],[]⟩),(10,⟨[0,1,2,3,4,5,6,7,8,9,10,11,12],[0,0,2,6,14,0,32,96,224,510,1023,2047,4095],[],[]⟩),(14,⟨[0,1,2,3,4,5,6,7,8,9,10,11],[0,0,2,6,14,0,32,96,254,511,1023,2047],[(6,[4])],[]⟩),(15,⟨[0,1,2,3,4,5,6,7,8,9,10,11,12],[0,0,2,6,14,0,32,96,224,510,1023,2047,4095],[(7,[4])],[]⟩),(20,⟨[0,1,2,3,4,5,6,7,8,9,11,12,15,16,18,19,10,13,14,17,20,21,22,23,24,25],[0,1,3,7,0,16,48,112,0,256,1008,0,2048,8176,16368,0,32768,131056,0,262144,1048575,2097151,4194303,4194303,8388607,33554431],[(10,[3,12,16,19])],[]⟩),(25,⟨[0,1,2,3,4,5,6,7,8,9],[0,1,3,7,0,0,0,64,224,511],[],[]⟩)] }
def Bk5:List Item:=D0 Tryz.f51
def Bs0:List Item:=stk [0,1,0,1,0,1,0,0,1,4,5] Bk5
def Br0:List Item:=stk [0,1,0,1,0,1,0,1,0,1,0,1,0,0,1,4,5] Bk5
def Bb3:List Item:=stk [0,1,0,1,0,1,0,1,0,1,0,1,0,1,0,0,1,4,5] Bk5
def Ba8:List Item:=stk [0,1,0,1,0,1,0,1,0,1,0,1,0,1,0,0,1,4,5,6,0,1,0,1,0,4,0,1,0,1,0,1,4,5] Bk5
theorem Hm9 (C:A8) (R:A9) (c:List Value) (h:H) :
 B9 PR Ba2 C R I3 Tryz.f51 100000 true Bk5 [(0,.agg ⟨c⟩)] h =
 nw (.cells E9 false c) h fun b w=>gAgg ⟨b,0,none⟩ 5 w fun x=>bnd (C S7 [.agg ⟨x⟩] w) fun r w1=>aBool r fun x_1=>cond (!x_1)
 (some (.tuple ⟨[.pointer none,.int .i64 1]⟩,w1))
 (gSl (Addr.add ⟨b,0,none⟩ 0) w1 fun x_2 xn xc=>R I3 Bs0 [(1,.pointer (some ⟨b,0,none⟩)),(4,.int .i64 0),(20,.slice x_2 xn xc),(21,.int .i64 ((xn:Nat):Int)),(22,.int .i64 0)] w1):=by kernel_rfl
theorem Ef7 (C:A8) (R:A9) (c:Addr) (all:Int) (x20:Option Addr) (x20n x20c:Nat) (x21:Int) (x22:Int) (h:H) :
 B9 PR Ba2 C R I3 Tryz.f51 100000 true Bs0 [(1,.pointer (some c)),(4,.int .i64 all),(20,.slice x20 x20n x20c),(21,.int .i64 x21),(22,.int .i64 x22)] h =
 cond (decide (x22<x21))
 (aSome x20 fun p=>ck ((0:Int)≤x22∧x22<((x20n:Nat):Int)) (gInt .i64 (Addr.add (D5 p) (Int.toNat x22*1)) h fun x=>bnd (C Bb9 [.int .i64 x] h) fun r w=>aInt .i64 r fun x_1=>R I3 Bs0 [(1,.pointer (some c)),(4,.int .i64 (IntKind.wrap .i64 (all+x_1))),(20,.slice x20 x20n x20c),(21,.int .i64 x21),(22,.int .i64 (IntKind.wrap .i64 (x22+1)))] w))
 (gSl (Addr.add c 1) h fun x_2 xn xc=>gSl (Addr.add c 1) h fun x_3 xn_1 xc_1=>gSl (Addr.add c 0) h fun x_4 xn_2 xc_2=>bnd (C W1 [.slice x_2 xn xc] h) fun r_1 w1=>aSl r_1 fun x_5 xn_3 xc_3=>gSl (Addr.add c 1) w1 fun x_6 xn_4 xc_4=>same (.slice x_3 xn_1 xc_1) (.slice x_6 xn_4 xc_4) (gSl (Addr.add c 0) w1 fun x_7 xn_5 xc_5=>same (.slice x_4 xn_2 xc_2) (.slice x_7 xn_5 xc_5) (bnd (C Dt4 [.int .i64 all] w1) fun r_2 w2=>aPtr r_2 fun x_8=>gSl (Addr.add c 1) w2 fun x_9 xn_6 xc_6=>same (.slice x_3 xn_1 xc_1) (.slice x_9 xn_6 xc_6) (gSl (Addr.add c 0) w2 fun x_10 xn_7 xc_7=>same (.slice x_4 xn_2 xc_2) (.slice x_10 xn_7 xc_7) (bnd (C A00 [.int .i64 ((xn_1:Nat):Int)] w2) fun r_3 w3=>aPtr r_3 fun x_11=>gSl (Addr.add c 0) w3 fun x_12 xn_8 xc_8=>same (.slice x_4 xn_2 xc_2) (.slice x_12 xn_8 xc_8) (bnd (C Ar9 [.slice x_4 xn_2 xc_2] w3) fun r_4 w4=>aPtr r_4 fun x_13=>nw (.cells Dy0 false [.slice x_5 xn_3 xc_3,.slice none 0 0,.pointer x_8,.pointer x_11,.pointer x_13,.pointer none,.slice none 0 0,.int .i64 0]) w4 fun b w5=>gPtr (Addr.add ⟨b,0,none⟩ 2) w5 fun x_14=>gPtr (Addr.add ⟨b,0,none⟩ 3) w5 fun x_15=>bnd (C By5 [.pointer x_14,.pointer x_15] w5) fun r_5 w6=>aPtr r_5 fun x_16=>pV (Addr.add ⟨b,0,none⟩ 5) (.pointer x_16) w6 fun w7=>gSl (Addr.add c 2) w7 fun x_17 xn_9 xc_9=>R I3 Br0 [(1,.pointer (some c)),(7,.pointer (some ⟨b,0,none⟩)),(58,.slice x_17 xn_9 xc_9),(59,.int .i64 ((xn_9:Nat):Int)),(60,.int .i64 0)] w7)))))):=by kernel_rfl
theorem Eg0 (C:A8) (R:A9) (c:Addr) (k:Addr) (x58:Option Addr) (x58n x58c:Nat) (x59:Int) (x60:Int) (h:H) :
 B9 PR Ba2 C R I3 Tryz.f51 100000 true Br0 [(1,.pointer (some c)),(7,.pointer (some k)),(58,.slice x58 x58n x58c),(59,.int .i64 x59),(60,.int .i64 x60)] h =
 cond (decide (x60<x59))
 (aSome x58 fun p=>ck ((0:Int)≤x60∧x60<((x58n:Nat):Int)) (gSl (Addr.add (D5 p) (Int.toNat x60*1)) h fun x xn xc=>gSl (Addr.add k 1) h fun x_1 xn_1 xc_1=>bnd (C W1 [.slice x xn xc] h) fun r w=>aSl r fun x_2 xn_2 xc_2=>gSl (Addr.add k 1) w fun x_3 xn_3 xc_3=>same (.slice x_1 xn_1 xc_1) (.slice x_3 xn_3 xc_3) (nw (.cells Q4 false [.slice x_2 xn_2 xc_2]) w fun b w1=>gCells (some ⟨b,0,none⟩) (1*1) w1 fun cs=>ckB (fitsOpen x_1 Q4 w1) (apd Q4 1 x_1 xn_1 xc_1 1 cs w1 fun a an ac w2=>pV (Addr.add k 1) (.slice a an ac) w2 fun w3=>gSl (Addr.add k 6) w3 fun x_4 xn_4 xc_4=>gInt .i64 (Addr.add c 3) w3 fun x_5=>bnd (C Dh7 [.int .i64 x_5] w3) fun r_1 w4=>aPtr r_1 fun x_6=>gSl (Addr.add k 6) w4 fun x_7 xn_5 xc_5=>same (.slice x_4 xn_4 xc_4) (.slice x_7 xn_5 xc_5) (nw (.cells Aw7 false [.pointer x_6]) w4 fun b_1 w5=>gCells (some ⟨b_1,0,none⟩) (1*1) w5 fun cs_1=>ckB (fitsOpen x_4 Aw7 w5) (apd Aw7 1 x_4 xn_4 xc_4 1 cs_1 w5 fun a_1 an_1 ac_1 w6=>pV (Addr.add k 6) (.slice a_1 an_1 ac_1) w6 fun w7=>R I3 Br0 [(1,.pointer (some c)),(7,.pointer (some k)),(58,.slice x58 x58n x58c),(59,.int .i64 x59),(60,.int .i64 (IntKind.wrap .i64 (x60+1)))] w7))))))
 (gSl (Addr.add c 4) h fun x_8 xn_6 xc_6=>R I3 Bb3 [(7,.pointer (some k)),(89,.slice x_8 xn_6 xc_6),(90,.int .i64 ((xn_6:Nat):Int)),(91,.int .i64 0)] h):=by kernel_rfl
theorem Ee0 (C:A8) (R:A9) (k:Addr) (x89:Option Addr) (x89n x89c:Nat) (x90:Int) (x91:Int) (h:H) :
 B9 PR Ba2 C R I3 Tryz.f51 100000 true Bb3 [(7,.pointer (some k)),(89,.slice x89 x89n x89c),(90,.int .i64 x90),(91,.int .i64 x91)] h =
 cond (decide (x91<x90))
 (aSome x89 fun p=>ck ((0:Int)≤x91∧x91<((x89n:Nat):Int)) (gAgg (Addr.add (D5 p) (Int.toNat x91*5)) 5 h fun x=>nw (.cells J4 false [.int .i64 0,.int .i64 0,.int .i64 0,.int .i64 0,.slice none 0 0]) h fun b w=>ck (List.length x=5) (pAgg ⟨b,0,none⟩ x w fun w1=>gPtr (Addr.add k 5) w1 fun x_1=>gPtr (Addr.add k 4) w1 fun x_2=>gInt .i64 (Addr.add ⟨b,0,none⟩ 0) w1 fun x_3=>gInt .i64 (Addr.add ⟨b,0,none⟩ 1) w1 fun x_4=>gInt .i64 (Addr.add ⟨b,0,none⟩ 2) w1 fun x_5=>gInt .i64 (Addr.add ⟨b,0,none⟩ 3) w1 fun x_6=>bnd (C P6 [.pointer x_2,.int .i64 x_3] w1) fun r w2=>aInt .i64 r fun x_7=>gPtr (Addr.add k 5) w2 fun x_8=>same (.pointer x_1) (.pointer x_8) (gInt .i64 (Addr.add ⟨b,0,none⟩ 1) w2 fun x_9=>same (.int .i64 x_4) (.int .i64 x_9) (gInt .i64 (Addr.add ⟨b,0,none⟩ 2) w2 fun x_10=>same (.int .i64 x_5) (.int .i64 x_10) (gInt .i64 (Addr.add ⟨b,0,none⟩ 3) w2 fun x_11=>same (.int .i64 x_6) (.int .i64 x_11) (bnd (C Ao0 [.pointer x_1,.int .i64 (IntKind.wrap .i64 ((IntKind.wrap .i64 ((IntKind.wrap .i64 (x_7+x_4))*64))+x_5)),.int .i64 x_6] w2) fun r_1 w3=>as2 r_1 fun r_2 r_3=>aInt .i64 r_2 fun x_12=>aInt .i64 r_3 fun _=>gSl (Addr.add k 0) w3 fun x_14 xn xc=>R I3 Ba8 [(7,.pointer (some k)),(11,.pointer (some ⟨b,0,none⟩)),(12,.int .i64 x_12),(89,.slice x89 x89n x89c),(90,.int .i64 x90),(91,.int .i64 x91),(122,.slice x_14 xn xc),(123,.int .i64 ((xn:Nat):Int)),(124,.int .i64 0)] w3)))))))
 (some (.tuple ⟨[.pointer (some k),.int .i64 0]⟩,h)):=by kernel_rfl
theorem Ef5 (C:A8) (R:A9) (k:Addr) (x:Addr) (obj:Int) (x89:Option Addr) (x89n x89c:Nat) (x90:Int) (x91:Int) (x122:Option Addr) (x122n x122c:Nat) (x123:Int) (x124:Int) (h:H) :
 B9 PR Ba2 C R I3 Tryz.f51 100000 true Ba8 [(7,.pointer (some k)),(11,.pointer (some x)),(12,.int .i64 obj),(89,.slice x89 x89n x89c),(90,.int .i64 x90),(91,.int .i64 x91),(122,.slice x122 x122n x122c),(123,.int .i64 x123),(124,.int .i64 x124)] h =
 cond (decide (x124<x123))
 (aSome x122 fun p=>ck ((0:Int)≤x124∧x124<((x122n:Nat):Int)) (gInt .i64 (Addr.add (D5 p) (Int.toNat x124*1)) h fun x_1=>gSl (Addr.add x 4) h fun x_2 xn xc=>bnd (C N3 [.slice x_2 xn xc,.int .i64 x_1] h) fun r w=>aBool r fun x_3=>cond x_3
 (gPtr (Addr.add k 3) w fun x_4=>gInt .i64 (Addr.add x 3) w fun x_5=>bnd (C A87 [.pointer x_4,.int .i64 x124,.agg ⟨[.int .i64 obj,.int .i64 3,.int .i64 0,.int .i64 x_5,.int .i64 0,.int .i64 0]⟩] w) fun r_1 w1=>as2 r_1 fun r_2 r_3=>aInt .i64 r_2 fun _=>aInt .i64 r_3 fun _=>R I3 Ba8 [(7,.pointer (some k)),(11,.pointer (some x)),(12,.int .i64 obj),(89,.slice x89 x89n x89c),(90,.int .i64 x90),(91,.int .i64 x91),(122,.slice x122 x122n x122c),(123,.int .i64 x123),(124,.int .i64 (IntKind.wrap .i64 (x124+1)))] w1)
 (R I3 Ba8 [(7,.pointer (some k)),(11,.pointer (some x)),(12,.int .i64 obj),(89,.slice x89 x89n x89c),(90,.int .i64 x90),(91,.int .i64 x91),(122,.slice x122 x122n x122c),(123,.int .i64 x123),(124,.int .i64 (IntKind.wrap .i64 (x124+1)))] w)))
 (R I3 Bb3 [(7,.pointer (some k)),(89,.slice x89 x89n x89c),(90,.int .i64 x90),(91,.int .i64 (IntKind.wrap .i64 (x91+1)))] h):=by kernel_rfl
def As5:Cuts:={ globs:=0,loops:=[(4,[1,3,4]),(8,[1,3,5]),(13,[1,3,5,6,7,9])],regs:=[],plans:=[(1,⟨[0,1,2,3,4,5,6],[0,0,2,6,15,31,63],[(3,[0])],[]⟩),(2,⟨[0,1,2,3,4,5,6,7,11,12,13,8,9,10,14,15,16,17,18,19],[0,0,2,6,14,0,32,96,254,510,1022,0,2048,6144,14846,32766,65534,131071,262143,524287],[(8,[12])],[]⟩),(6,⟨[0,1,2,3,4,5,6,7,8,9,10,11,12],[0,0,2,6,14,0,32,96,224,510,1023,2047,4095],[(7,[4])],[]⟩),(11,⟨[0,1,2,3,4,5,6,7,8,9,11,12,15,16,18,19,10,13,14,17,20,21,22,23,24,25],[0,1,3,7,0,16,48,112,0,256,1008,0,2048,8176,16368,0,32768,131056,0,262144,1048575,2097151,4194303,4194303,8388607,33554431],[(10,[3,12,16,19])],[]⟩),(15,⟨[0,1,2,3,4,5,6,7],[0,1,0,4,0,28,60,127],[],[]⟩),(16,⟨[0,1,2,3,4,5,6,7,8,9,10,11,12],[0,1,3,7,15,31,63,0,0,0,512,1792,4095],[],[]⟩)] }
def A66:List Item:=D0 Tryz.f52
def A31:List Item:=stk [0,1,0,1,0,1,0,0,1,4,5] A66
def An6:List Item:=stk [0,1,0,1,0,1,0,1,0,0,1,4,5] A66
def An7:List Item:=stk [0,1,0,1,0,1,0,1,0,0,1,4,5,6,0,1,0,4,0,1,0,1,0,1,4,5] A66
theorem Ge8 (C:A8) (R:A9) (b:List Value) (h:H) :
 B9 PR As5 C R G8 Tryz.f52 100000 true A66 [(0,.agg ⟨b⟩)] h =
 nw (.cells E9 false b) h fun b_1 w=>gAgg ⟨b_1,0,none⟩ 5 w fun x=>gSl (Addr.add ⟨b_1,0,none⟩ 0) w fun x_1 xn xc=>bnd (C Aa2 [.slice x_1 xn xc] w) fun r w1=>aPtr r fun x_2=>gAgg ⟨b_1,0,none⟩ 5 w1 fun x_3=>same (.agg ⟨x⟩) (.agg ⟨x_3⟩) (ck (List.length x=5) (nw (.cells Ex8 false (x++(.pointer x_2::(.pointer none::(.slice none 0 0::[.int .i64 0]))))) w1 fun b_2 w2=>gPtr (Addr.add ⟨b_2,0,none⟩ 5) w2 fun x_4=>gSl (Addr.add ⟨b_1,0,none⟩ 0) w2 fun _ xn_1 _=>gSl (Addr.add ⟨b_1,0,none⟩ 1) w2 fun x_6 xn_2 xc_2=>bnd (C O0 [.pointer x_4,.int .i64 ((xn_1:Nat):Int)] w2) fun r_1 w3=>aInt .i64 r_1 fun x_7=>gSl (Addr.add ⟨b_1,0,none⟩ 1) w3 fun x_8 xn_3 xc_3=>same (.slice x_6 xn_2 xc_2) (.slice x_8 xn_3 xc_3) (ck ((0:Int)≤IntKind.wrap .i64 (64*x_7)∧(IntKind.wrap .i64 (64*x_7):Int)≤IntKind.wrap .i64 (64*x_7)∧IntKind.wrap .i64 (64*x_7)≤(D3:Int)) (nw (.cells B0 false (I0 (Int.toNat (IntKind.wrap .i64 (64*x_7))) [.int .u8 0])) w3 fun b_3 w4=>bnd (C Aa5 [.int .i64 ((xn_2:Nat):Int)] w4) fun r_2 w5=>aPtr r_2 fun x_9=>nw (.cells D20 false [.slice (some ⟨b_3,0,none⟩) (Int.toNat (IntKind.wrap .i64 (64*x_7))) (Int.toNat (IntKind.wrap .i64 (64*x_7))),.slice none 0 0,.slice none 0 0,.pointer x_9]) w5 fun b_4 w6=>pV (Addr.add ⟨b_2,0,none⟩ 6) (.pointer (some ⟨b_4,0,none⟩)) w6 fun w7=>R G8 A31 [(1,.pointer (some ⟨b_1,0,none⟩)),(3,.pointer (some ⟨b_2,0,none⟩)),(4,.int .i64 0)] w7)))):=by kernel_rfl
theorem Dg7 (C:A8) (R:A9) (b:Addr) (k:Addr) (i:Int) (h:H) :
 B9 PR As5 C R G8 Tryz.f52 100000 true A31 [(1,.pointer (some b)),(3,.pointer (some k)),(4,.int .i64 i)] h =
 gSl (Addr.add b 2) h fun _ xn _=>cond (decide (i<((xn:Nat):Int)))
 (gSl (Addr.add k 7) h fun x_1 xn_1 xc_1=>gInt .i64 (Addr.add b 3) h fun x_2=>bnd (C Bj9 [.int .i64 x_2] h) fun r w=>aPtr r fun x_3=>gSl (Addr.add k 7) w fun x_4 xn_2 xc_2=>same (.slice x_1 xn_1 xc_1) (.slice x_4 xn_2 xc_2) (nw (.cells Bc6 false [.pointer x_3]) w fun b_1 w1=>gCells (some ⟨b_1,0,none⟩) (1*1) w1 fun cs=>ckB (fitsOpen x_1 Bc6 w1) (apd Bc6 1 x_1 xn_1 xc_1 1 cs w1 fun a an ac w2=>pV (Addr.add k 7) (.slice a an ac) w2 fun w3=>R G8 A31 [(1,.pointer (some b)),(3,.pointer (some k)),(4,.int .i64 (IntKind.wrap .i64 (i+1)))] w3)))
 (R G8 An6 [(1,.pointer (some b)),(3,.pointer (some k)),(5,.int .i64 0)] h):=by kernel_rfl
theorem Dg8 (C:A8) (R:A9) (b:Addr) (k:Addr) (i:Int) (h:H) :
 B9 PR As5 C R G8 Tryz.f52 100000 true An6 [(1,.pointer (some b)),(3,.pointer (some k)),(5,.int .i64 i)] h =
 gSl (Addr.add b 4) h fun _ xn _=>cond (decide (i<((xn:Nat):Int)))
 (gSl (Addr.add b 4) h fun x_1 xn_1 _=>aSome x_1 fun p=>ck ((0:Int)≤i∧i<((xn_1:Nat):Int)) (gAgg (Addr.add (D5 p) (Int.toNat i*5)) 5 h fun x_2=>nw (.cells J4 false [.int .i64 0,.int .i64 0,.int .i64 0,.int .i64 0,.slice none 0 0]) h fun b_1 w=>ck (List.length x_2=5) (pAgg ⟨b_1,0,none⟩ x_2 w fun w1=>gPtr (Addr.add k 6) w1 fun x_3=>gPtr (Addr.add k 5) w1 fun x_4=>gInt .i64 (Addr.add ⟨b_1,0,none⟩ 0) w1 fun x_5=>gInt .i64 (Addr.add ⟨b_1,0,none⟩ 1) w1 fun x_6=>gInt .i64 (Addr.add ⟨b_1,0,none⟩ 2) w1 fun x_7=>gInt .i64 (Addr.add ⟨b_1,0,none⟩ 3) w1 fun x_8=>bnd (C O0 [.pointer x_4,.int .i64 x_5] w1) fun r w2=>aInt .i64 r fun x_9=>gPtr (Addr.add k 6) w2 fun x_10=>same (.pointer x_3) (.pointer x_10) (gInt .i64 (Addr.add ⟨b_1,0,none⟩ 1) w2 fun x_11=>same (.int .i64 x_6) (.int .i64 x_11) (gInt .i64 (Addr.add ⟨b_1,0,none⟩ 2) w2 fun x_12=>same (.int .i64 x_7) (.int .i64 x_12) (gInt .i64 (Addr.add ⟨b_1,0,none⟩ 3) w2 fun x_13=>same (.int .i64 x_8) (.int .i64 x_13) (bnd (C Ay5 [.pointer x_3,.int .i64 (IntKind.wrap .i64 ((IntKind.wrap .i64 (64*(IntKind.wrap .i64 (x_9+x_6))))+x_7)),.int .i64 x_8] w2) fun r_1 w3=>as2 r_1 fun r_2 r_3=>aInt .i64 r_2 fun x_14=>aInt .i64 r_3 fun _=>R G8 An7 [(1,.pointer (some b)),(3,.pointer (some k)),(5,.int .i64 i),(6,.pointer (some ⟨b_1,0,none⟩)),(7,.int .i64 x_14),(9,.int .i64 0)] w3)))))))
 (some (.pointer (some k),h)):=by kernel_rfl
theorem Dg6 (C:A8) (R:A9) (b:Addr) (k:Addr) (i:Int) (s:Addr) (obj:Int) (e:Int) (h:H) :
 B9 PR As5 C R G8 Tryz.f52 100000 true An7 [(1,.pointer (some b)),(3,.pointer (some k)),(5,.int .i64 i),(6,.pointer (some s)),(7,.int .i64 obj),(9,.int .i64 e)] h =
 gSl (Addr.add b 1) h fun _ xn _=>cond (decide (e<((xn:Nat):Int)))
 (gSl (Addr.add s 4) h fun x_1 xn_1 xc_1=>gSl (Addr.add b 1) h fun x_2 xn_2 _=>aSome x_2 fun p=>ck ((0:Int)≤e∧e<((xn_2:Nat):Int)) (gInt .i64 (Addr.add (D5 p) (Int.toNat e*1)) h fun x_3=>bnd (C A71 [.slice x_1 xn_1 xc_1,.int .i64 x_3] h) fun r w=>aBool r fun x_4=>cond x_4
 (gPtr (Addr.add k 6) w fun x_5=>aSome x_5 fun p_1=>gPtr (Addr.add p_1 3) w fun x_6=>gInt .i64 (Addr.add s 3) w fun x_7=>bnd (C A77 [.pointer x_6,.int .i64 e,.agg ⟨[.int .i64 obj,.int .i64 3,.int .i64 0,.int .i64 x_7,.int .i64 0,.int .i64 0]⟩] w) fun r_1 w1=>as2 r_1 fun r_2 r_3=>aInt .i64 r_2 fun _=>aInt .i64 r_3 fun _=>R G8 An7 [(1,.pointer (some b)),(3,.pointer (some k)),(5,.int .i64 i),(6,.pointer (some s)),(7,.int .i64 obj),(9,.int .i64 (IntKind.wrap .i64 (e+1)))] w1)
 (R G8 An7 [(1,.pointer (some b)),(3,.pointer (some k)),(5,.int .i64 i),(6,.pointer (some s)),(7,.int .i64 obj),(9,.int .i64 (IntKind.wrap .i64 (e+1)))] w)))
 (R G8 An6 [(1,.pointer (some b)),(3,.pointer (some k)),(5,.int .i64 (IntKind.wrap .i64 (i+1)))] h):=by kernel_rfl
def Bj0:Cuts:={ globs:=0,loops:=[],regs:=[],plans:=[] }
def Dc6:List Item:=D0 Tryz.f55
theorem El2 (C:A8) (R:A9) (k:Option Addr) (env:Int) (h:H) :
 B9 PR Bj0 C R Ax4 Tryz.f55 100000 true Dc6 [(0,.pointer k),(1,.int .i64 env)] h =
 aSome k fun p=>gPtr (Addr.add p 6) h fun x=>aSome x fun p_1=>gPtr (Addr.add p_1 3) h fun x_1=>bnd (C A88 [.pointer x_1,.int .i64 env] h) fun r w=>aSl r fun x_2 xn xc=>cond (((xn:Nat):Int)==0)
 (some (.pointer none,w))
 (nw (.cells Du2 false [.pointer k,.int .i64 env,.slice x_2 xn xc,.slice none 0 0]) w fun b w1=>some (.pointer (some ⟨b,0,none⟩),w1)):=by kernel_rfl
def Bn7:Cuts:={ globs:=0,loops:=[],regs:=[],plans:=[] }
def Dg1:List Item:=D0 Tryz.f56
theorem Ex4 (C:A8) (R:A9) (k:Option Addr) (h:H) :
 B9 PR Bn7 C R An1 Tryz.f56 100000 true Dg1 [(0,.pointer k)] h =
 aSome k fun p=>gPtr (Addr.add p 3) h fun x=>some (.pointer x,h):=by kernel_rfl
def Bi2:Cuts:={ globs:=0,loops:=[],regs:=[],plans:=[] }
def Db6:List Item:=D0 Tryz.f57
theorem El5 (C:A8) (R:A9) (s:Option Addr) (env:Int) (h:H) :
 B9 PR Bi2 C R Al1 Tryz.f57 100000 true Db6 [(0,.pointer s),(1,.int .i64 env)] h =
 bnd (C Af5 [.pointer s,.int .i64 env] h) fun r w=>aBool r fun x=>cond (!x)
 (some (.slice none 0 0,w))
 (aSome s fun p=>gSl (Addr.add p 0) w fun x_1 xn _=>aSome x_1 fun p_1=>ck ((0:Int)≤env∧env<((xn:Nat):Int)) (gPtr (Addr.add (D5 p_1) (Int.toNat env*1)) w fun x_2=>bnd (C G7 [.pointer x_2] w) fun r_1 w1=>aSl r_1 fun x_3 xn_1 xc_1=>some (.slice x_3 xn_1 xc_1,w1))):=by kernel_rfl
def A13:Cuts:={ globs:=0,loops:=[],regs:=[],plans:=[] }
def Bp3:List Item:=D0 Tryz.f63
theorem Dy9 (C:A8) (R:A9) (c:Option Addr) (kind:Int) (h:H) :
 B9 PR A13 C R Ab7 Tryz.f63 100000 true Bp3 [(0,.pointer c),(1,.int .i64 kind)] h =
 cond (kind==1)
 (some (.int .i64 8,h))
 (cond (kind==2)
 (some (.int .i64 12,h))
 (cond (kind==3)
 (aSome c fun p=>gSl (Addr.add p 2) h fun _ xn _=>some (.int .i64 (IntKind.wrap .i64 ((IntKind.wrap .i64 (4+((xn:Nat):Int)))-1)),h))
 (some (.int .i64 1,h)))):=by kernel_rfl
def Bi3:Cuts:={ globs:=0,loops:=[],regs:=[],plans:=[(3,⟨[0,1,2,3,4,5,6,7,8,9,10,11,12,13,14,15,16,17,18,19],[0,1,3,7,0,0,32,0,128,0,512,0,2048,0,8192,32767,65535,65535,262143,524287],[],[]⟩),(5,⟨[0,1,2,3,4,5,6,7,8,9,10,11],[0,1,3,7,0,0,32,127,255,255,1023,2047],[],[]⟩),(7,⟨[0,1,2,3,4,5,6,7,8,9,10,11,12,13,14,15],[0,1,3,7,0,16,48,112,0,496,1008,2047,4095,4095,16383,32767],[],[]⟩),(9,⟨[0,1,2,3,4,5,6,7,8,9,10,11,12,13,14,15],[0,1,3,7,0,16,48,112,0,496,1008,0,2048,8191,16383,32767],[],[]⟩)] }
def Db0:List Item:=D0 Tryz.f68
theorem Eo4 (C:A8) (R:A9) (k:Option Addr) (env:Int) (c:List Value) (h:H) :
 B9 PR Bi3 C R Ax0 Tryz.f68 100000 true Db0 [(0,.pointer k),(1,.int .i64 env),(2,.agg ⟨c⟩)] h =
 nw (.cells Ay8 false c) h fun b w=>gInt .i64 (Addr.add ⟨b,0,none⟩ 0) w fun x=>cond (x==4)
 (aSome k fun p=>gPtr (Addr.add p 3) w fun x_1=>gInt .i64 (Addr.add ⟨b,0,none⟩ 1) w fun x_2=>gInt .i64 (Addr.add ⟨b,0,none⟩ 4) w fun x_3=>gInt .i64 (Addr.add ⟨b,0,none⟩ 5) w fun x_4=>gInt .i64 (Addr.add ⟨b,0,none⟩ 2) w fun x_5=>gInt .i64 (Addr.add ⟨b,0,none⟩ 3) w fun x_6=>bnd (C Ay1 [.pointer x_1,.int .i64 env,.int .i64 x_2,.int .i64 x_3,.int .i64 x_4,.int .i64 x_5,.int .i64 x_6] w) fun r w1=>as2 r fun r_1 r_2=>aInt .i64 r_1 fun x_7=>aInt .i64 r_2 fun x_8=>some (.tuple ⟨[.int .i64 x_7,.int .i64 x_8]⟩,w1))
 (cond (x==5)
 (aSome k fun p_1=>gPtr (Addr.add p_1 3) w fun x_9=>gInt .i64 (Addr.add ⟨b,0,none⟩ 1) w fun x_10=>bnd (C Eg3 [.pointer x_9,.int .i64 env,.int .i64 x_10] w) fun r_3 w2=>as2 r_3 fun r_4 r_5=>aInt .i64 r_4 fun x_11=>aInt .i64 r_5 fun x_12=>some (.tuple ⟨[.int .i64 x_11,.int .i64 x_12]⟩,w2))
 (cond (x==6)
 (aSome k fun p_2=>gPtr (Addr.add p_2 4) w fun x_13=>aSome k fun p_3=>gSl (Addr.add p_3 0) w fun x_14 xn _=>aSome x_14 fun p_4=>ck ((0:Int)≤env∧env<((xn:Nat):Int)) (gInt .i64 (Addr.add (D5 p_4) (Int.toNat env*1)) w fun x_15=>bnd (C Av0 [.pointer x_13,.int .i64 x_15] w) fun r_6 w3=>as2 r_6 fun r_7 r_8=>aInt .i64 r_7 fun x_16=>aInt .i64 r_8 fun x_17=>some (.tuple ⟨[.int .i64 x_16,.int .i64 x_17]⟩,w3)))
 (cond (x==7)
 (aSome k fun p_5=>gPtr (Addr.add p_5 4) w fun x_18=>aSome k fun p_6=>gSl (Addr.add p_6 0) w fun x_19 xn_1 _=>aSome x_19 fun p_7=>ck ((0:Int)≤env∧env<((xn_1:Nat):Int)) (gInt .i64 (Addr.add (D5 p_7) (Int.toNat env*1)) w fun x_20=>gInt .i64 (Addr.add ⟨b,0,none⟩ 3) w fun x_21=>bnd (C Az3 [.pointer x_18,.int .i64 x_20,.int .i64 x_21] w) fun r_9 w4=>aInt .i64 r_9 fun x_22=>some (.tuple ⟨[.int .i64 0,.int .i64 x_22]⟩,w4)))
 (cond (x==8)
 (gAgg ⟨b,0,none⟩ 7 w fun x_23=>bnd (C A39 [.pointer k,.int .i64 env,.agg ⟨x_23⟩] w) fun r_10 w5=>as2 r_10 fun r_11 r_12=>aInt .i64 r_11 fun x_24=>aInt .i64 r_12 fun x_25=>some (.tuple ⟨[.int .i64 x_24,.int .i64 x_25]⟩,w5))
 (cond (x==9)
 (gAgg ⟨b,0,none⟩ 7 w fun x_26=>bnd (C A27 [.pointer k,.int .i64 env,.agg ⟨x_26⟩] w) fun r_13 w6=>aInt .i64 r_13 fun x_27=>some (.tuple ⟨[.int .i64 0,.int .i64 x_27]⟩,w6))
 (cond (x==10)
 (aSome k fun p_8=>gInt .i64 (Addr.add p_8 7) w fun x_28=>some (.tuple ⟨[.int .i64 x_28,.int .i64 0]⟩,w))
 (some (.tuple ⟨[.int .i64 0,.int .i64 7]⟩,w)))))))):=by kernel_rfl
def B80:Cuts:={ globs:=0,loops:=[],regs:=[],plans:=[] }
def D39:List Item:=D0 Tryz.f75
theorem Gf6 (C:A8) (R:A9) (i:Int) (h:H) :
 B9 PR B80 C R As7 Tryz.f75 100000 true D39 [(0,.int .i64 i)] h =
 nw (.cells E8 false [.int .i64 0,.int .i64 0]) h fun b w=>pAgg ⟨b,0,none⟩ [.int .i64 2,.int .i64 i] w fun w1=>gAgg ⟨b,0,none⟩ 2 w1 fun x=>some (.agg ⟨x⟩,w1):=by kernel_rfl
def B84:Cuts:={ globs:=0,loops:=[],regs:=[],plans:=[] }
def D16:List Item:=D0 Tryz.f79
theorem Gi8 (C:A8) (R:A9) (m:Option Addr) (atv:Int) (n:Int) (h:H) :
 B9 PR B84 C R Bk7 Tryz.f79 100000 true D16 [(0,.pointer m),(1,.int .i64 atv),(2,.int .i64 n)] h =
 bnd (C Bj1 [.pointer m,.int .i64 atv,.int .i64 n] h) fun r w=>aBool r fun x=>cond (!x)
 (some (.tuple ⟨[.slice none 0 0,.int .i64 1]⟩,w))
 (aSome m fun p=>gSl (Addr.add p 0) w fun x_1 _ xc=>ckB (fitsOpen x_1 B0 w) (ck ((0:Int)≤IntKind.wrap .i64 (atv+n)∧IntKind.wrap .i64 (atv+n)≤((xc:Nat):Int)) (ck ((0:Int)≤atv∧atv≤((Int.toNat (IntKind.wrap .i64 (atv+n)):Nat):Int)) (bnd (C H1 [.slice (I4 x_1 (decide (Int.toNat atv<xc)) ((Int.toNat atv)*1)) ((Int.toNat (IntKind.wrap .i64 (atv+n)))-(Int.toNat atv)) (xc-(Int.toNat atv))] w) fun r_1 w1=>aSl r_1 fun x_2 xn_1 xc_1=>some (.tuple ⟨[.slice x_2 xn_1 xc_1,.int .i64 0]⟩,w1))))):=by kernel_rfl
def Dz7:Cuts:={ globs:=0,loops:=[],regs:=[],plans:=[] }
def E09:List Item:=D0 Tryz.f80
theorem G95 (C:A8) (R:A9) (e:Int) (h:H) :
 B9 PR Dz7 C R Aa8 Tryz.f80 100000 true E09 [(0,.int .i64 e)] h =
 nw (.cells As1 false [.int .i64 0,.int .i64 0,.slice none 0 0,.bool false]) h fun b w=>pAgg ⟨b,0,none⟩ [.int .i64 0,.int .i64 e,.slice none 0 0,.bool false] w fun w1=>gAgg ⟨b,0,none⟩ 4 w1 fun x=>some (.agg ⟨x⟩,w1):=by kernel_rfl
def A41:Cuts:={ globs:=0,loops:=[(3,[0,3,5,17,18]),(9,[0,5,31,32]),(19,[0,57,58])],regs:=[],plans:=[(15,⟨[0,1,2,3,4,5,6,7,8],[0,1,0,4,12,28,63,127,255],[],[]⟩)] }
def Bi0:List Item:=D0 Tryz.f82
def Az0:List Item:=stk [0,1,0,1,0,0,1,4,5] Bi0
def Am1:List Item:=stk [0,1,0,1,0,1,0,0,1,4,5] Bi0
def Al8:List Item:=stk [0,1,0,1,0,1,0,1,0,0,1,4,5] Bi0
theorem Gu7 (C:A8) (R:A9) (c:Option Addr) (p:List Value) (h:H) :
 B9 PR A41 C R H0 Tryz.f82 100000 true Bi0 [(0,.pointer c),(1,.agg ⟨p⟩)] h =
 nw (.cells E1 false p) h fun b w=>nw (.cells Ed1 false [.int .i64 0,.int .i64 0,.int .i64 0,.int .i64 0,.int .i64 0,.int .i64 0,.int .i64 0,.int .i64 0,.int .i64 0,.int .i64 0,.int .i64 0,.int .i64 0]) w fun b_1 w1=>gAgg (Addr.add ⟨b,0,none⟩ 8) 8 w1 fun x=>R H0 Az0 [(0,.pointer c),(3,.pointer (some ⟨b,0,none⟩)),(5,.pointer (some ⟨b_1,0,none⟩)),(17,.agg ⟨x⟩),(18,.int .i64 0)] w1:=by kernel_rfl
theorem Dt8 (C:A8) (R:A9) (c:Option Addr) (p:Addr) (more:Addr) (x17:List Value) (x18:Int) (h:H) :
 B9 PR A41 C R H0 Tryz.f82 100000 true Az0 [(0,.pointer c),(3,.pointer (some p)),(5,.pointer (some more)),(17,.agg ⟨x17⟩),(18,.int .i64 x18)] h =
 cond (decide (x18<8))
 (ck ((0:Int)≤x18∧x18<((8:Nat):Int)) (nth x17 (Int.toNat x18*1) fun x=>aInt .i64 x fun x_1=>cond (decide (x_1>0))
 (ck ((0:Int)≤IntKind.wrap .i64 (x_1-1)∧IntKind.wrap .i64 (x_1-1)<((12:Nat):Int)) (gInt .i64 (Addr.add more (Int.toNat (IntKind.wrap .i64 (x_1-1))*1)) h fun x_2=>ck ((0:Int)≤IntKind.wrap .i64 (x_1-1)∧IntKind.wrap .i64 (x_1-1)<((12:Nat):Int)) (pV (Addr.add more (Int.toNat (IntKind.wrap .i64 (x_1-1))*1)) (.int .i64 (IntKind.wrap .i64 (x_2+1))) h fun w=>R H0 Az0 [(0,.pointer c),(3,.pointer (some p)),(5,.pointer (some more)),(17,.agg ⟨x17⟩),(18,.int .i64 (IntKind.wrap .i64 (x18+1)))] w)))
 (R H0 Az0 [(0,.pointer c),(3,.pointer (some p)),(5,.pointer (some more)),(17,.agg ⟨x17⟩),(18,.int .i64 (IntKind.wrap .i64 (x18+1)))] h)))
 (gAgg (Addr.add p 8) 8 h fun x_3=>R H0 Am1 [(0,.pointer c),(5,.pointer (some more)),(31,.agg ⟨x_3⟩),(32,.int .i64 0)] h):=by kernel_rfl
theorem Ds6 (C:A8) (R:A9) (c:Option Addr) (more:Addr) (x31:List Value) (x32:Int) (h:H) :
 B9 PR A41 C R H0 Tryz.f82 100000 true Am1 [(0,.pointer c),(5,.pointer (some more)),(31,.agg ⟨x31⟩),(32,.int .i64 x32)] h =
 cond (decide (x32<8))
 (ck ((0:Int)≤x32∧x32<((8:Nat):Int)) (nth x31 (Int.toNat x32*1) fun x=>aInt .i64 x fun x_1=>cond (x_1==0)
 (R H0 Am1 [(0,.pointer c),(5,.pointer (some more)),(31,.agg ⟨x31⟩),(32,.int .i64 (IntKind.wrap .i64 (x32+1)))] h)
 (bnd (C O9 [.pointer c,.int .i64 (IntKind.wrap .i64 (x_1-1))] h) fun r w=>as2 r fun r_1 r_2=>aAgg r_1 fun x_2=>aInt .i64 r_2 fun x_3=>nw (.cells J0 false [.int .i64 0,.int .i64 0,.int .i64 0,.int .i64 0]) w fun b w1=>ck (List.length x_2=4) (pAgg ⟨b,0,none⟩ x_2 w1 fun w2=>cond (x_3 != 1)
 (some (.int .i64 105,w2))
 (gInt .i64 (Addr.add ⟨b,0,none⟩ 2) w2 fun x_4=>ck ((0:Int)≤IntKind.wrap .i64 (x_1-1)∧IntKind.wrap .i64 (x_1-1)<((12:Nat):Int)) (gInt .i64 (Addr.add more (Int.toNat (IntKind.wrap .i64 (x_1-1))*1)) w2 fun x_5=>cond (decide ((IntKind.wrap .i64 (x_4+x_5))>64))
 (some (.int .i64 123,w2))
 (R H0 Am1 [(0,.pointer c),(5,.pointer (some more)),(31,.agg ⟨x31⟩),(32,.int .i64 (IntKind.wrap .i64 (x32+1)))] w2)))))))
 (gAgg more 12 h fun x_6=>R H0 Al8 [(0,.pointer c),(57,.agg ⟨x_6⟩),(58,.int .i64 0)] h):=by kernel_rfl
theorem Dv6 (C:A8) (R:A9) (c:Option Addr) (x57:List Value) (x58:Int) (h:H) :
 B9 PR A41 C R H0 Tryz.f82 100000 true Al8 [(0,.pointer c),(57,.agg ⟨x57⟩),(58,.int .i64 x58)] h =
 cond (decide (x58<12))
 (ck ((0:Int)≤x58∧x58<((12:Nat):Int)) (nth x57 (Int.toNat x58*1) fun x=>aInt .i64 x fun x_1=>cond (x_1==0)
 (R H0 Al8 [(0,.pointer c),(57,.agg ⟨x57⟩),(58,.int .i64 (IntKind.wrap .i64 (x58+1)))] h)
 (bnd (C O9 [.pointer c,.int .i64 x58] h) fun r w=>as2 r fun r_1 r_2=>aAgg r_1 fun x_2=>aInt .i64 r_2 fun _=>nw (.cells J0 false [.int .i64 0,.int .i64 0,.int .i64 0,.int .i64 0]) w fun b w1=>ck (List.length x_2=4) (pAgg ⟨b,0,none⟩ x_2 w1 fun w2=>gInt .i64 (Addr.add ⟨b,0,none⟩ 2) w2 fun x_4=>pV (Addr.add ⟨b,0,none⟩ 2) (.int .i64 (IntKind.wrap .i64 (x_4+x_1))) w2 fun w3=>gAgg ⟨b,0,none⟩ 4 w3 fun x_5=>bnd (C U6 [.pointer c,.int .i64 x58,.agg ⟨x_5⟩] w3) fun r_3 w4=>aBool r_3 fun x_6=>cond (!x_6)
 (some (.int .i64 105,w4))
 (R H0 Al8 [(0,.pointer c),(57,.agg ⟨x57⟩),(58,.int .i64 (IntKind.wrap .i64 (x58+1)))] w4)))))
 (some (.int .i64 0,h)):=by kernel_rfl
def Bf6:Cuts:={ globs:=0,loops:=[(4,[0,1,4,19,20])],regs:=[],plans:=[] }
def By4:List Item:=D0 Tryz.f86
def Ak6:List Item:=stk [0,1,0,1,0,1,0,0,1,4,5] By4
theorem Gd5 (C:A8) (R:A9) (c:Option Addr) (i:Int) (h:H) :
 B9 PR Bf6 C R U9 Tryz.f86 100000 true By4 [(0,.pointer c),(1,.int .i64 i)] h =
 bnd (C E0 [.pointer c] h) fun r w=>as0 r (bnd (C E4 [.pointer c,.int .i64 i] w) fun r_1 w1=>as2 r_1 fun r_2 r_3=>aAgg r_2 fun x=>aInt .i64 r_3 fun x_1=>nw (.cells E1 false [.int .i64 0,.int .i64 0,.int .i64 0,.int .i64 0,.int .i64 0,.int .i64 0,.int .i64 0,.int .i64 0,.int .i64 0,.int .i64 0,.int .i64 0,.int .i64 0,.int .i64 0,.int .i64 0,.int .i64 0,.int .i64 0]) w1 fun b w2=>ck (List.length x=16) (pAgg ⟨b,0,none⟩ x w2 fun w3=>cond (x_1 != 1)
 (some (.tuple ⟨[]⟩,w3))
 (gAgg (Addr.add ⟨b,0,none⟩ 8) 8 w3 fun x_2=>R U9 Ak6 [(0,.pointer c),(1,.int .i64 i),(4,.pointer (some ⟨b,0,none⟩)),(19,.agg ⟨x_2⟩),(20,.int .i64 0)] w3))):=by kernel_rfl
theorem Db8 (C:A8) (R:A9) (c:Option Addr) (i:Int) (p:Addr) (x19:List Value) (x20:Int) (h:H) :
 B9 PR Bf6 C R U9 Tryz.f86 100000 true Ak6 [(0,.pointer c),(1,.int .i64 i),(4,.pointer (some p)),(19,.agg ⟨x19⟩),(20,.int .i64 x20)] h =
 cond (decide (x20<8))
 (ck ((0:Int)≤x20∧x20<((8:Nat):Int)) (nth x19 (Int.toNat x20*1) fun x=>aInt .i64 x fun x_1=>cond (decide (x_1>0))
 (bnd (C W2 [.pointer c,.int .i64 (IntKind.wrap .i64 (x_1-1))] h) fun r w=>aInt .i64 r fun _=>R U9 Ak6 [(0,.pointer c),(1,.int .i64 i),(4,.pointer (some p)),(19,.agg ⟨x19⟩),(20,.int .i64 (IntKind.wrap .i64 (x20+1)))] w)
 (R U9 Ak6 [(0,.pointer c),(1,.int .i64 i),(4,.pointer (some p)),(19,.agg ⟨x19⟩),(20,.int .i64 (IntKind.wrap .i64 (x20+1)))] h)))
 (pAgg (Addr.add p 8) [.int .i64 0,.int .i64 0,.int .i64 0,.int .i64 0,.int .i64 0,.int .i64 0,.int .i64 0,.int .i64 0] h fun w1=>gAgg p 16 w1 fun x_3=>bnd (C L5 [.pointer c,.int .i64 i,.agg ⟨x_3⟩] w1) fun r_1 w2=>aBool r_1 fun _=>some (.tuple ⟨[]⟩,w2)):=by kernel_rfl
def Ba0:Cuts:={ globs:=0,loops:=[],regs:=[(18,[0,5,7])],plans:=[] }
def Bs8:List Item:=D0 Tryz.f107
def Av4:List Item:=stk [0,1,0,1,0,1,0,1,0,1,0,1,0,1,0,1,0,1,0,1,0,0] Bs8
theorem E20 (C:A8) (R:A9) (c:Option Addr) (f:Int) (h:H) :
 B9 PR Ba0 C R W2 Tryz.f107 100000 true Bs8 [(0,.pointer c),(1,.int .i64 f)] h =
 bnd (C E0 [.pointer c] h) fun r w=>as0 r (bnd (C O9 [.pointer c,.int .i64 f] w) fun r_1 w1=>as2 r_1 fun r_2 r_3=>aAgg r_2 fun x=>aInt .i64 r_3 fun x_1=>nw (.cells J0 false [.int .i64 0,.int .i64 0,.int .i64 0,.int .i64 0]) w1 fun b w2=>ck (List.length x=4) (pAgg ⟨b,0,none⟩ x w2 fun w3=>cond (x_1 != 1)
 (some (.int .i64 105,w3))
 (gInt .i64 (Addr.add ⟨b,0,none⟩ 2) w3 fun x_2=>pV (Addr.add ⟨b,0,none⟩ 2) (.int .i64 (IntKind.wrap .i64 (x_2-1))) w3 fun w4=>gInt .i64 (Addr.add ⟨b,0,none⟩ 2) w4 fun x_3=>cond (decide (x_3>0))
 (gAgg ⟨b,0,none⟩ 4 w4 fun x_4=>bnd (C U6 [.pointer c,.int .i64 f,.agg ⟨x_4⟩] w4) fun r_4 w5=>aBool r_4 fun x_5=>bnd (C Aa6 [.bool x_5,.int .i64 0] w5) fun r_5 w6=>aAgg r_5 fun x_6=>nth x_6 1 fun E=>aInt .i64 E fun E_1=>some (.int .i64 E_1,w6))
 (bnd (C Ac2 [.pointer c,.int .i64 f] w4) fun r_6 w7=>aBool r_6 fun x_7=>cond (!x_7)
 (some (.int .i64 105,w7))
 (gInt .i64 (Addr.add ⟨b,0,none⟩ 0) w7 fun x_8=>cond (x_8==3)
 (some (.int .i64 0,w7))
 (gInt .i64 (Addr.add ⟨b,0,none⟩ 1) w7 fun x_9=>bnd (C Aa7 [.pointer c,.int .i64 x_9] w7) fun r_7 w8=>as2 r_7 fun r_8 r_9=>aAgg r_8 fun x_10=>aInt .i64 r_9 fun x_11=>nw (.cells I9 false [.int .i64 0,.int .i64 0,.int .i64 0,.int .i64 0,.int .u8 0,.int .u8 0,.int .u8 0,.int .u8 0,.int .u8 0,.int .u8 0,.int .u8 0,.int .u8 0,.int .u8 0,.int .u8 0,.int .u8 0,.int .u8 0,.int .u8 0,.int .u8 0,.int .u8 0,.int .u8 0,.int .u8 0,.int .u8 0,.int .u8 0,.int .u8 0,.int .u8 0,.int .u8 0,.int .u8 0,.int .u8 0,.int .u8 0,.int .u8 0,.int .u8 0,.int .u8 0,.int .u8 0,.int .u8 0,.int .u8 0,.int .u8 0]) w8 fun b_1 w9=>ck (List.length x_10=36) (pAgg ⟨b_1,0,none⟩ x_10 w9 fun w10=>cond (x_11 != 1)
 (some (.int .i64 105,w10))
 (gInt .i64 (Addr.add ⟨b,0,none⟩ 0) w10 fun x_12=>cond (x_12==1)
 (gInt .i64 (Addr.add ⟨b_1,0,none⟩ 2) w10 fun x_13=>pV (Addr.add ⟨b_1,0,none⟩ 2) (.int .i64 (mm2 true (IntKind.wrap .i64 (x_13-1)) 0)) w10 fun w11=>R W2 Av4 [(0,.pointer c),(5,.pointer (some ⟨b,0,none⟩)),(7,.pointer (some ⟨b_1,0,none⟩))] w11)
 (gInt .i64 (Addr.add ⟨b_1,0,none⟩ 3) w10 fun x_14=>pV (Addr.add ⟨b_1,0,none⟩ 3) (.int .i64 (mm2 true (IntKind.wrap .i64 (x_14-1)) 0)) w10 fun w12=>R W2 Av4 [(0,.pointer c),(5,.pointer (some ⟨b,0,none⟩)),(7,.pointer (some ⟨b_1,0,none⟩))] w12))))))))):=by kernel_rfl
theorem Eg1 (C:A8) (R:A9) (c:Option Addr) (x:Addr) (p:Addr) (h:H) :
 B9 PR Ba0 C R W2 Tryz.f107 100000 true Av4 [(0,.pointer c),(5,.pointer (some x)),(7,.pointer (some p))] h =
 gInt .i64 (Addr.add p 2) h fun x_1=>gInt .i64 (Addr.add p 3) h fun x_2=>bnd (cond ((IntKind.wrap .i64 (x_1+x_2))==0) (gInt .i64 (Addr.add x 1) h fun x_3=>some (decide (x_3<4),h)) (some (false,h))) fun c_1 w=>cond c_1
 (gInt .i64 (Addr.add x 1) w fun x_4=>bnd (C Ac3 [.pointer c,.int .i64 x_4] w) fun r w1=>aBool r fun x_5=>bnd (C Aa6 [.bool x_5,.int .i64 0] w1) fun r_1 w2=>aAgg r_1 fun x_6=>nth x_6 1 fun E=>aInt .i64 E fun E_1=>some (.int .i64 E_1,w2))
 (gInt .i64 (Addr.add x 1) w fun x_7=>gAgg p 36 w fun x_8=>bnd (C Ae5 [.pointer c,.int .i64 x_7,.agg ⟨x_8⟩] w) fun r_2 w3=>aBool r_2 fun x_9=>bnd (C Aa6 [.bool x_9,.int .i64 0] w3) fun r_3 w4=>aAgg r_3 fun x_10=>nth x_10 1 fun E_2=>aInt .i64 E_2 fun E_3=>some (.int .i64 E_3,w4)):=by kernel_rfl
def Bh7:Cuts:={ globs:=0,loops:=[(7,[1,3,52,53,54]),(13,[1,3,63,64,65])],regs:=[],plans:=[] }
def B05:List Item:=D0 Tryz.f110
def Be7:List Item:=stk [0,1,0,1,0,1,0,1,0,0,1,4,5] B05
def Be8:List Item:=stk [0,1,0,1,0,1,0,1,0,1,0,0,1,4,5] B05
theorem G20 (C:A8) (R:A9) (c:List Value) (h:H) :
 B9 PR Bh7 C R S7 Tryz.f110 100000 true B05 [(0,.agg ⟨c⟩)] h =
 nw (.cells E9 false c) h fun b w=>gSl (Addr.add ⟨b,0,none⟩ 0) w fun _ xn _=>bnd (cond (decide (((xn:Nat):Int)<1)) (some (true,w)) (gSl (Addr.add ⟨b,0,none⟩ 0) w fun _ xn_1 _=>some (decide (((xn_1:Nat):Int)>4),w))) fun c_1 w1=>bnd (cond c_1 (some (true,w1)) (gSl (Addr.add ⟨b,0,none⟩ 1) w1 fun _ xn_2 _=>some (decide (((xn_2:Nat):Int)>40),w1))) fun c_2 w2=>bnd (cond c_2 (some (true,w2)) (gSl (Addr.add ⟨b,0,none⟩ 2) w2 fun _ xn_3 _=>some (decide (((xn_3:Nat):Int)>8),w2))) fun c_3 w3=>bnd (cond c_3 (some (true,w3)) (gSl (Addr.add ⟨b,0,none⟩ 4) w3 fun _ xn_4 _=>some (decide (((xn_4:Nat):Int)>16),w3))) fun c_4 w4=>bnd (cond c_4 (some (true,w4)) (gInt .i64 (Addr.add ⟨b,0,none⟩ 3) w4 fun x_5=>some (decide (x_5<1),w4))) fun c_5 w5=>bnd (cond c_5 (some (true,w5)) (gInt .i64 (Addr.add ⟨b,0,none⟩ 3) w5 fun x_6=>some (decide (x_6>1000),w5))) fun c_6 w6=>cond c_6
 (some (.bool false,w6))
 (gSl (Addr.add ⟨b,0,none⟩ 1) w6 fun x_7 xn_5 xc_5=>bnd (C G3 [.slice x_7 xn_5 xc_5,.func (.func H3) ⟨[]⟩ ⟨[.pointer (some ⟨b,0,none⟩)]⟩] w6) fun r w7=>aBool r fun x_8=>cond x_8
 (some (.bool false,w7))
 (gSl (Addr.add ⟨b,0,none⟩ 2) w7 fun x_9 xn_6 xc_6=>R S7 Be7 [(1,.pointer (some ⟨b,0,none⟩)),(3,.func (.func H3) ⟨[]⟩ ⟨[.pointer (some ⟨b,0,none⟩)]⟩),(52,.slice x_9 xn_6 xc_6),(53,.int .i64 ((xn_6:Nat):Int)),(54,.int .i64 0)] w7)):=by kernel_rfl
theorem Dt0 (C:A8) (R:A9) (c:Addr) (nonev:Addr) (x52:Option Addr) (x52n x52c:Nat) (x53:Int) (x54:Int) (h:H) :
 B9 PR Bh7 C R S7 Tryz.f110 100000 true Be7 [(1,.pointer (some c)),(3,.func (.func H3) ⟨[]⟩ ⟨[.pointer (some nonev)]⟩),(52,.slice x52 x52n x52c),(53,.int .i64 x53),(54,.int .i64 x54)] h =
 cond (decide (x54<x53))
 (aSome x52 fun p=>ck ((0:Int)≤x54∧x54<((x52n:Nat):Int)) (gSl (Addr.add (D5 p) (Int.toNat x54*1)) h fun x xn xc=>bnd (C G3 [.slice x xn xc,.func (.func H3) ⟨[]⟩ ⟨[.pointer (some nonev)]⟩] h) fun r w=>aBool r fun x_1=>cond x_1
 (some (.bool false,w))
 (R S7 Be7 [(1,.pointer (some c)),(3,.func (.func H3) ⟨[]⟩ ⟨[.pointer (some nonev)]⟩),(52,.slice x52 x52n x52c),(53,.int .i64 x53),(54,.int .i64 (IntKind.wrap .i64 (x54+1)))] w)))
 (gSl (Addr.add c 4) h fun x_2 xn_1 xc_1=>R S7 Be8 [(1,.pointer (some c)),(3,.func (.func H3) ⟨[]⟩ ⟨[.pointer (some nonev)]⟩),(63,.slice x_2 xn_1 xc_1),(64,.int .i64 ((xn_1:Nat):Int)),(65,.int .i64 0)] h):=by kernel_rfl
theorem Dt6 (C:A8) (R:A9) (c:Addr) (nonev:Addr) (x63:Option Addr) (x63n x63c:Nat) (x64:Int) (x65:Int) (h:H) :
 B9 PR Bh7 C R S7 Tryz.f110 100000 true Be8 [(1,.pointer (some c)),(3,.func (.func H3) ⟨[]⟩ ⟨[.pointer (some nonev)]⟩),(63,.slice x63 x63n x63c),(64,.int .i64 x64),(65,.int .i64 x65)] h =
 cond (decide (x65<x64))
 (aSome x63 fun p=>ck ((0:Int)≤x65∧x65<((x63n:Nat):Int)) (gAgg (Addr.add (D5 p) (Int.toNat x65*5)) 5 h fun x=>nw (.cells J4 false [.int .i64 0,.int .i64 0,.int .i64 0,.int .i64 0,.slice none 0 0]) h fun b w=>ck (List.length x=5) (pAgg ⟨b,0,none⟩ x w fun w1=>gAgg c 5 w1 fun x_1=>gAgg ⟨b,0,none⟩ 5 w1 fun x_2=>bnd (C Bx5 [.agg ⟨x_1⟩,.agg ⟨x_2⟩] w1) fun r w2=>aBool r fun x_3=>bnd (cond (!x_3) (some (true,w2)) (gSl (Addr.add ⟨b,0,none⟩ 4) w2 fun x_4 xn xc=>bnd (C G3 [.slice x_4 xn xc,.func (.func H3) ⟨[]⟩ ⟨[.pointer (some nonev)]⟩] w2) fun r_1 w3=>aBool r_1 fun x_5=>some (x_5,w3))) fun c_1 w4=>cond c_1
 (some (.bool false,w4))
 (R S7 Be8 [(1,.pointer (some c)),(3,.func (.func H3) ⟨[]⟩ ⟨[.pointer (some nonev)]⟩),(63,.slice x63 x63n x63c),(64,.int .i64 x64),(65,.int .i64 (IntKind.wrap .i64 (x65+1)))] w4))))
 (some (.bool true,h)):=by kernel_rfl
def Be4:Cuts:={ globs:=0,loops:=[(3,[0,3,4])],regs:=[],plans:=[(5,⟨[0,1,2,3,4,5,6,7,8,9,10,11,12,13,14,15,16],[0,0,2,6,14,0,0,96,224,480,992,2016,4064,8190,16383,32767,65535],[],[]⟩)] }
def By0:List Item:=D0 Tryz.f122
def Ay9:List Item:=stk [0,1,0,1,0,0,1,4,5] By0
theorem Gb1 (C:A8) (R:A9) (l:Option Addr) (ln lc:Nat) (h:H) :
 B9 PR Be4 C R Aa2 Tryz.f122 100000 true By0 [(0,.slice l ln lc)] h =
 nw (.cells Ei7 false [.slice none 0 0]) h fun b w=>R Aa2 Ay9 [(0,.slice l ln lc),(3,.pointer (some ⟨b,0,none⟩)),(4,.int .i64 0)] w:=by kernel_rfl
theorem Dc2 (C:A8) (R:A9) (l:Option Addr) (ln lc:Nat) (q:Addr) (i:Int) (h:H) :
 B9 PR Be4 C R Aa2 Tryz.f122 100000 true Ay9 [(0,.slice l ln lc),(3,.pointer (some q)),(4,.int .i64 i)] h =
 bnd (cond (decide (i<((ln:Nat):Int))) (some (decide (i<4),h)) (some (false,h))) fun c w=>cond c
 (gSl (Addr.add q 0) w fun x xn xc=>aSome l fun p=>ck ((0:Int)≤i∧i<((ln:Nat):Int)) (gInt .i64 (Addr.add (D5 p) (Int.toNat i*1)) w fun x_1=>ck ((0:Int)≤mm2 false (mm2 true x_1 0) 64∧(mm2 false (mm2 true x_1 0) 64:Int)≤mm2 false (mm2 true x_1 0) 64∧mm2 false (mm2 true x_1 0) 64≤(D3:Int)) (nw (.cells E97 false (I0 (Int.toNat (mm2 false (mm2 true x_1 0) 64)) [.bool false])) w fun b w1=>nw (.cells Dl7 false [.slice (some ⟨b,0,none⟩) (Int.toNat (mm2 false (mm2 true x_1 0) 64)) (Int.toNat (mm2 false (mm2 true x_1 0) 64))]) w1 fun b_1 w2=>gCells (some ⟨b_1,0,none⟩) (1*1) w2 fun cs=>ckB (fitsOpen x Dl7 w2) (apd Dl7 1 x xn xc 1 cs w2 fun a an ac w3=>pV (Addr.add q 0) (.slice a an ac) w3 fun w4=>R Aa2 Ay9 [(0,.slice l ln lc),(3,.pointer (some q)),(4,.int .i64 (IntKind.wrap .i64 (i+1)))] w4))))
 (some (.pointer (some q),w)):=by kernel_rfl
def Bg6:Cuts:={ globs:=0,loops:=[],regs:=[],plans:=[(5,⟨[0,1,2,3,4,5,6,7,9,10,11,12,13,14,8,15,16,17,18,19,20,21],[0,0,0,4,12,28,0,64,252,0,512,1536,3584,0,8192,32764,65533,131069,262141,524287,1048575,2097151],[(8,[12])],[]⟩)] }
def Da3:List Item:=D0 Tryz.f126
theorem Ep3 (C:A8) (R:A9) (r:Option Addr) (lo:Int) (n:Int) (h:H) :
 B9 PR Bg6 C R Ay5 Tryz.f126 100000 true Da3 [(0,.pointer r),(1,.int .i64 lo),(2,.int .i64 n)] h =
 aSome r fun p=>gSl (Addr.add p 0) h fun _ xn _=>bnd (C Ag7 [.int .i64 lo,.int .i64 n,.int .i64 ((xn:Nat):Int)] h) fun r_1 w=>aBool r_1 fun x_1=>cond (!x_1)
 (some (.tuple ⟨[.int .i64 0,.int .i64 1]⟩,w))
 (aSome r fun p_1=>gSl (Addr.add p_1 1) w fun _ xn_1 _=>cond (decide (((xn_1:Nat):Int)≥32))
 (some (.tuple ⟨[.int .i64 0,.int .i64 4]⟩,w))
 (aSome r fun p_2=>gSl (Addr.add p_2 1) w fun x_3 xn_2 xc_2=>nw (.cells D6 false [.int .i64 lo]) w fun b w1=>aSome r fun p_3=>gSl (Addr.add p_3 2) w1 fun x_4 xn_3 xc_3=>nw (.cells D6 false [.int .i64 n]) w1 fun b_1 w2=>gCells (some ⟨b,0,none⟩) (1*1) w2 fun cs=>ckB (fitsOpen x_3 D6 w2) (apd D6 1 x_3 xn_2 xc_2 1 cs w2 fun a an ac w3=>gSl (Addr.add p_3 2) w3 fun x_5 xn_4 xc_4=>same (.slice x_4 xn_3 xc_3) (.slice x_5 xn_4 xc_4) (gCells (some ⟨b_1,0,none⟩) (1*1) w3 fun cs_1=>ckB (fitsOpen x_4 D6 w3) (apd D6 1 x_4 xn_3 xc_3 1 cs_1 w3 fun a_1 an_1 ac_1 w4=>aSome r fun p_4=>pV (Addr.add p_4 1) (.slice a an ac) w4 fun w5=>aSome r fun p_5=>pV (Addr.add p_5 2) (.slice a_1 an_1 ac_1) w5 fun w6=>aSome r fun p_6=>gSl (Addr.add p_6 1) w6 fun _ xn_5 _=>some (.tuple ⟨[.int .i64 (IntKind.wrap .i64 (((xn_5:Nat):Int)-1)),.int .i64 0]⟩,w6)))))):=by kernel_rfl
def Bv3:Cuts:={ globs:=0,loops:=[],regs:=[],plans:=[] }
def Do7:List Item:=D0 Tryz.f128
theorem E14 (C:A8) (R:A9) (s:Option Addr) (e:Int) (c:List Value) (h:H) :
 B9 PR Bv3 C R A77 Tryz.f128 100000 true Do7 [(0,.pointer s),(1,.int .i64 e),(2,.agg ⟨c⟩)] h =
 nw (.cells P7 false c) h fun b w=>bnd (C Ai9 [.pointer s,.int .i64 e] w) fun r w1=>aBool r fun x=>bnd (cond (!x) (some (true,w1)) (gInt .i64 (Addr.add ⟨b,0,none⟩ 1) w1 fun x_1=>some (decide (x_1<0),w1))) fun c_1 w2=>bnd (cond c_1 (some (true,w2)) (gInt .i64 (Addr.add ⟨b,0,none⟩ 1) w2 fun x_2=>some (decide (x_2>7),w2))) fun c_2 w3=>bnd (cond c_2 (some (true,w3)) (gInt .i64 (Addr.add ⟨b,0,none⟩ 2) w3 fun x_3=>some (decide (x_3<0),w3))) fun c_3 w4=>bnd (cond c_3 (some (true,w4)) (gInt .i64 (Addr.add ⟨b,0,none⟩ 2) w4 fun x_4=>some (decide (x_4>65536),w4))) fun c_4 w5=>bnd (cond c_4 (some (true,w5)) (gInt .i64 (Addr.add ⟨b,0,none⟩ 3) w5 fun x_5=>some (decide (x_5<0),w5))) fun c_5 w6=>bnd (cond c_5 (some (true,w6)) (gInt .i64 (Addr.add ⟨b,0,none⟩ 3) w6 fun x_6=>some (decide (x_6>65536),w6))) fun c_6 w7=>cond c_6
 (some (.tuple ⟨[.int .i64 0,.int .i64 1]⟩,w7))
 (pAgg (Addr.add ⟨b,0,none⟩ 4) [.int .i64 0,.int .i64 0] w7 fun w8=>gAgg ⟨b,0,none⟩ 6 w8 fun x_7=>bnd (C A93 [.pointer s,.int .i64 e,.agg ⟨x_7⟩] w8) fun r_1 w9=>as2 r_1 fun r_2 r_3=>aInt .i64 r_2 fun x_8=>aInt .i64 r_3 fun x_9=>some (.tuple ⟨[.int .i64 x_8,.int .i64 x_9]⟩,w9)):=by kernel_rfl
def Bg5:Cuts:={ globs:=0,loops:=[],regs:=[],plans:=[] }
def Db9:List Item:=D0 Tryz.f129
theorem Eh5 (C:A8) (R:A9) (g:Int) (h:H) :
 B9 PR Bg5 C R Ax1 Tryz.f129 100000 true Db9 [(0,.int .i64 g)] h =
 nw (.cells B0 false [.int .u8 (IntKind.wrap .u8 (g)),.int .u8 211]) h fun b w=>gCells (some ⟨b,0,none⟩) 2 w fun cs=>asBytes cs fun l=>bnd (C Ag0 [.string (ByteArray.mk ⟨l⟩)] w) fun r w1=>aInt .u8 r fun x=>nw (.cells B0 false [.int .u8 x,.int .u8 0]) w1 fun b_1 w2=>gCells (some ⟨b_1,0,none⟩) 2 w2 fun cs_1=>asBytes cs_1 fun l_1=>ck (ByteArray.size (ByteArray.mk ⟨l⟩)+ByteArray.size (ByteArray.mk ⟨l_1⟩)≤D3) (some (.string ((ByteArray.mk ⟨l⟩)++(ByteArray.mk ⟨l_1⟩)),w2)):=by kernel_rfl
def Aa3:Cuts:={ globs:=0,loops:=[(3,[0,3,9,10,11])],regs:=[],plans:=[] }
def Al0:List Item:=D0 Tryz.f142
def O1:List Item:=stk [0,1,0,1,0,0,1,4,5] Al0
theorem Dc8 (C:A8) (R:A9) (t:Option Addr) (h:H) :
 B9 PR Aa3 C R G7 Tryz.f142 100000 true Al0 [(0,.pointer t)] h =
 aSome t fun p=>gSl (Addr.add p 0) h fun x xn xc=>R G7 O1 [(0,.pointer t),(3,.slice none 0 0),(9,.slice x xn xc),(10,.int .i64 ((xn:Nat):Int)),(11,.int .i64 0)] h:=by kernel_rfl
theorem A03 (C:A8) (R:A9) (t:Option Addr) (out:Option Addr) (outn outc:Nat) (x9:Option Addr) (x9n x9c:Nat) (x10:Int) (x11:Int) (h:H) :
 B9 PR Aa3 C R G7 Tryz.f142 100000 true O1 [(0,.pointer t),(3,.slice out outn outc),(9,.slice x9 x9n x9c),(10,.int .i64 x10),(11,.int .i64 x11)] h =
 cond (decide (x11<x10))
 (aSome x9 fun p=>ck ((0:Int)≤x11∧x11<((x9n:Nat):Int)) (gAgg (Addr.add (D5 p) (Int.toNat x11*8)) 8 h fun x=>nw (.cells Al7 false [.int .i64 0,.int .i64 0,.int .i64 0,.int .i64 0,.int .i64 0,.int .i64 0,.int .i64 0,.bool false]) h fun b w=>ck (List.length x=8) (pAgg ⟨b,0,none⟩ x w fun w1=>gBool (Addr.add ⟨b,0,none⟩ 7) w1 fun x_1=>cond x_1
 (bnd (C N9 [.pointer t,.int .i64 x11] w1) fun r w2=>aInt .i64 r fun x_2=>nw (.cells D6 false [.int .i64 x_2]) w2 fun b_1 w3=>gCells (some ⟨b_1,0,none⟩) (1*1) w3 fun cs=>ckB (fitsOpen out D6 w3) (apd D6 1 out outn outc 1 cs w3 fun a an ac w4=>R G7 O1 [(0,.pointer t),(3,.slice a an ac),(9,.slice x9 x9n x9c),(10,.int .i64 x10),(11,.int .i64 (IntKind.wrap .i64 (x11+1)))] w4))
 (R G7 O1 [(0,.pointer t),(3,.slice out outn outc),(9,.slice x9 x9n x9c),(10,.int .i64 x10),(11,.int .i64 (IntKind.wrap .i64 (x11+1)))] w1))))
 (some (.slice out outn outc,h)):=by kernel_rfl
def Aw0:Cuts:={ globs:=0,loops:=[],regs:=[],plans:=[] }
def Bm3:List Item:=D0 Tryz.f145
theorem Ds1 (C:A8) (R:A9) (c:Option Addr) (r:List Value) (h:H) :
 B9 PR Aw0 C R Q6 Tryz.f145 100000 true Bm3 [(0,.pointer c),(1,.agg ⟨r⟩)] h =
 nw (.cells E8 false r) h fun b w=>nw (.cells Bf1 false [.int .i64 0,.int .i64 0,.int .i64 0]) w fun b_1 w1=>gInt .i64 (Addr.add ⟨b,0,none⟩ 1) w1 fun x=>bnd (cond (decide (x<0)) (some (true,w1)) (gInt .i64 (Addr.add ⟨b,0,none⟩ 0) w1 fun x_1=>bnd (C Ab7 [.pointer c,.int .i64 x_1] w1) fun r_1 w2=>aInt .i64 r_1 fun x_2=>some (decide (x≥x_2),w2))) fun c_1 w3=>cond c_1
 (pAgg ⟨b_1,0,none⟩ [.int .i64 0,.int .i64 0,.int .i64 0] w3 fun w4=>gAgg ⟨b_1,0,none⟩ 3 w4 fun x_3=>some (.tuple ⟨[.agg ⟨x_3⟩,.bool false]⟩,w4))
 (aSome c fun p=>gSl (Addr.add p 2) w3 fun x_4 xn _=>aSome x_4 fun p_1=>ck ((0:Int)≤0∧0<((xn:Nat):Int)) (gInt .i64 (Addr.add (D5 p_1) (Int.toNat 0*1)) w3 fun x_5=>gInt .i64 (Addr.add ⟨b,0,none⟩ 0) w3 fun x_6=>cond (x_6==1)
 (pAgg ⟨b_1,0,none⟩ [.int .i64 x_5,.int .i64 (IntKind.wrap .i64 (24*x)),.int .i64 24] w3 fun w5=>gAgg ⟨b_1,0,none⟩ 3 w5 fun x_7=>some (.tuple ⟨[.agg ⟨x_7⟩,.bool true]⟩,w5))
 (gInt .i64 (Addr.add ⟨b,0,none⟩ 0) w3 fun x_8=>cond (x_8==2)
 (pAgg ⟨b_1,0,none⟩ [.int .i64 x_5,.int .i64 (IntKind.wrap .i64 (192+(IntKind.wrap .i64 (8*x)))),.int .i64 8] w3 fun w6=>gAgg ⟨b_1,0,none⟩ 3 w6 fun x_9=>some (.tuple ⟨[.agg ⟨x_9⟩,.bool true]⟩,w6))
 (gInt .i64 (Addr.add ⟨b,0,none⟩ 0) w3 fun x_10=>bnd (cond (x_10==3) (some (decide (x<4),w3)) (some (false,w3))) fun c_2 w7=>cond c_2
 (pAgg ⟨b_1,0,none⟩ [.int .i64 x_5,.int .i64 (IntKind.wrap .i64 (288+(IntKind.wrap .i64 (40*x)))),.int .i64 40] w7 fun w8=>gAgg ⟨b_1,0,none⟩ 3 w8 fun x_11=>some (.tuple ⟨[.agg ⟨x_11⟩,.bool true]⟩,w8))
 (gInt .i64 (Addr.add ⟨b,0,none⟩ 0) w7 fun x_12=>cond (x_12==3)
 (aSome c fun p_2=>gSl (Addr.add p_2 2) w7 fun x_13 xn_1 _=>aSome x_13 fun p_3=>ck ((0:Int)≤IntKind.wrap .i64 ((IntKind.wrap .i64 (x-4))+1)∧IntKind.wrap .i64 ((IntKind.wrap .i64 (x-4))+1)<((xn_1:Nat):Int)) (gInt .i64 (Addr.add (D5 p_3) (Int.toNat (IntKind.wrap .i64 ((IntKind.wrap .i64 (x-4))+1))*1)) w7 fun x_14=>pAgg ⟨b_1,0,none⟩ [.int .i64 x_14,.int .i64 0,.int .i64 40] w7 fun w9=>gAgg ⟨b_1,0,none⟩ 3 w9 fun x_15=>some (.tuple ⟨[.agg ⟨x_15⟩,.bool true]⟩,w9)))
 (gInt .i64 (Addr.add ⟨b,0,none⟩ 0) w7 fun x_16=>cond (x_16==4)
 (pAgg ⟨b_1,0,none⟩ [.int .i64 x_5,.int .i64 448,.int .i64 40] w7 fun w10=>gAgg ⟨b_1,0,none⟩ 3 w10 fun x_17=>some (.tuple ⟨[.agg ⟨x_17⟩,.bool true]⟩,w10))
 (pAgg ⟨b_1,0,none⟩ [.int .i64 x_5,.int .i64 488,.int .i64 4] w7 fun w11=>gAgg ⟨b_1,0,none⟩ 3 w11 fun x_18=>some (.tuple ⟨[.agg ⟨x_18⟩,.bool true]⟩,w11)))))))):=by kernel_rfl
def A50:Cuts:={ globs:=0,loops:=[],regs:=[],plans:=[] }
def Bx2:List Item:=D0 Tryz.f149
theorem D51 (C:A8) (R:A9) (r:Option Addr) (env:Int) (name:Int) (atv:Int) (n:Int) (h:H) :
 B9 PR A50 C R Ad0 Tryz.f149 100000 true Bx2 [(0,.pointer r),(1,.int .i64 env),(2,.int .i64 name),(3,.int .i64 atv),(4,.int .i64 n)] h =
 bnd (C Aa9 [.pointer r,.int .i64 env,.int .i64 name,.int .i64 1,.int .i64 atv,.int .i64 n] h) fun r_1 w=>as2 r_1 fun r_2 r_3=>aInt .i64 r_2 fun x=>aInt .i64 r_3 fun x_1=>cond (x_1 != 0)
 (some (.tuple ⟨[.slice none 0 0,.int .i64 x_1]⟩,w))
 (aSome r fun p=>gPtr (Addr.add p 0) w fun x_2=>bnd (C Bk7 [.pointer x_2,.int .i64 x,.int .i64 n] w) fun r_4 w1=>as2 r_4 fun r_5 r_6=>aSl r_5 fun x_3 xn xc=>aInt .i64 r_6 fun x_4=>some (.tuple ⟨[.slice x_3 xn xc,.int .i64 x_4]⟩,w1)):=by kernel_rfl
def Bd5:Cuts:={ globs:=0,loops:=[],regs:=[],plans:=[] }
def B46:List Item:=D0 Tryz.f154
theorem Eg9 (C:A8) (R:A9) (q:Option Addr) (s:Int) (h:H) :
 B9 PR Bd5 C R Av0 Tryz.f154 100000 true B46 [(0,.pointer q),(1,.int .i64 s)] h =
 bnd (C Aj7 [.pointer q,.int .i64 s] h) fun r w=>aBool r fun x=>cond (!x)
 (some (.tuple ⟨[.int .i64 0,.int .i64 1]⟩,w))
 (aSome q fun p=>gSl (Addr.add p 0) w fun x_1 xn _=>aSome x_1 fun p_1=>ck ((0:Int)≤s∧s<((xn:Nat):Int)) (gSl (Addr.add (D5 p_1) (Int.toNat s*1)) w fun x_2 xn_1 xc_1=>bnd (C H9 [.slice x_2 xn_1 xc_1,.int .i64 0] w) fun r_1 w1=>aInt .i64 r_1 fun x_3=>cond (decide (x_3<0))
 (some (.tuple ⟨[.int .i64 0,.int .i64 4]⟩,w1))
 (aSome q fun p_2=>gSl (Addr.add p_2 0) w1 fun x_4 xn_2 _=>aSome x_4 fun p_3=>ck ((0:Int)≤s∧s<((xn_2:Nat):Int)) (gSl (Addr.add (D5 p_3) (Int.toNat s*1)) w1 fun x_5 xn_3 _=>aSome x_5 fun p_4=>ck ((0:Int)≤x_3∧x_3<((xn_3:Nat):Int)) (pV (Addr.add (D5 p_4) (Int.toNat x_3*1)) (.int .i64 1) w1 fun w2=>some (.tuple ⟨[.int .i64 x_3,.int .i64 0]⟩,w2)))))):=by kernel_rfl
def Bn5:Cuts:={ globs:=0,loops:=[],regs:=[],plans:=[] }
def Dg5:List Item:=D0 Tryz.f156
theorem Ev2 (C:A8) (R:A9) (k:Option Addr) (env:Int) (c:List Value) (h:H) :
 B9 PR Bn5 C R A39 Tryz.f156 100000 true Dg5 [(0,.pointer k),(1,.int .i64 env),(2,.agg ⟨c⟩)] h =
 nw (.cells Ay8 false c) h fun b w=>gInt .i64 (Addr.add ⟨b,0,none⟩ 3) w fun x=>bnd (C Au2 [.pointer k,.int .i64 env,.int .i64 x] w) fun r w1=>as2 r fun r_1 r_2=>aPtr r_1 fun x_1=>aInt .i64 r_2 fun x_2=>cond (x_2 != 0)
 (some (.tuple ⟨[.int .i64 0,.int .i64 x_2]⟩,w1))
 (aSome k fun p=>gInt .i64 (Addr.add p 7) w1 fun x_3=>bnd (C D9 [.pointer x_1,.int .i64 env,.int .i64 x_3] w1) fun r_3 w2=>as2 r_3 fun r_4 r_5=>aInt .i64 r_4 fun x_4=>aBool r_5 fun _=>some (.tuple ⟨[.int .i64 x_4,.int .i64 0]⟩,w2)):=by kernel_rfl
def Bm7:Cuts:={ globs:=0,loops:=[],regs:=[],plans:=[] }
def Dg2:List Item:=D0 Tryz.f157
theorem Ew0 (C:A8) (R:A9) (k:Option Addr) (env:Int) (c:List Value) (h:H) :
 B9 PR Bm7 C R A27 Tryz.f157 100000 true Dg2 [(0,.pointer k),(1,.int .i64 env),(2,.agg ⟨c⟩)] h =
 nw (.cells Ay8 false c) h fun b w=>gInt .i64 (Addr.add ⟨b,0,none⟩ 3) w fun x=>bnd (C Au2 [.pointer k,.int .i64 env,.int .i64 x] w) fun r w1=>as2 r fun r_1 r_2=>aPtr r_1 fun x_1=>aInt .i64 r_2 fun x_2=>bnd (cond (x_2==0) (gInt .i64 (Addr.add ⟨b,0,none⟩ 2) w1 fun x_3=>bnd (C A30 [.pointer x_1,.int .i64 env,.int .i64 x_3] w1) fun r_3 w2=>aBool r_3 fun x_4=>some (!x_4,w2)) (some (false,w1))) fun c_1 w3=>cond c_1
 (some (.int .i64 8,w3))
 (some (.int .i64 x_2,w3)):=by kernel_rfl
def De8:Cuts:={ globs:=0,loops:=[],regs:=[],plans:=[] }
def Ed8:List Item:=D0 Tryz.f158
theorem Gs1 (C:A8) (R:A9)  (h:H) :
 B9 PR De8 C R Bc4 Tryz.f158 100000 true Ed8 [] h =
 bnd (C Ap0 [.int .i64 24,.func (.func O4) ⟨[]⟩ ⟨[]⟩,.func (.func W7) ⟨[]⟩ ⟨[]⟩] h) fun r w=>aPtr r fun x=>some (.pointer x,w):=by kernel_rfl
def Ah4:Cuts:={ globs:=0,loops:=[],regs:=[],plans:=[(4,⟨[0,1,2,3,4,10,5,6,7,8,9,11,12],[0,1,3,7,0,16,63,127,255,255,0,1535,4095],[(5,[3])],[]⟩)] }
def A21:List Item:=D0 Tryz.f159
theorem B38 (C:A8) (R:A9) (c:Option Addr) (b:Option Addr) (bn bc:Nat) (h:H) :
 B9 PR Ah4 C R V5 Tryz.f159 100000 true A21 [(0,.pointer c),(1,.slice b bn bc)] h =
 nw (.cells E1 false [.int .i64 0,.int .i64 0,.int .i64 0,.int .i64 0,.int .i64 0,.int .i64 0,.int .i64 0,.int .i64 0,.int .i64 0,.int .i64 0,.int .i64 0,.int .i64 0,.int .i64 0,.int .i64 0,.int .i64 0,.int .i64 0]) h fun b_1 w=>nw (.cells E1 false [.int .i64 0,.int .i64 0,.int .i64 0,.int .i64 0,.int .i64 0,.int .i64 0,.int .i64 0,.int .i64 0,.int .i64 0,.int .i64 0,.int .i64 0,.int .i64 0,.int .i64 0,.int .i64 0,.int .i64 0,.int .i64 0]) w fun b_2 w1=>aSome c fun p=>gFv (Addr.add p 2) w1 fun x=>isNilF x fun b_3=>bnd (cond b_3 (some (true,w1)) (aSome c fun p_1=>gInt .i64 (Addr.add p_1 0) w1 fun x_1=>some (((bn:Nat):Int) != x_1,w1))) fun c_1 w2=>cond c_1
 (gAgg ⟨b_2,0,none⟩ 16 w2 fun x_2=>ck (List.length x_2=16) (pAgg ⟨b_1,0,none⟩ x_2 w2 fun w3=>gAgg ⟨b_1,0,none⟩ 16 w3 fun x_3=>some (.tuple ⟨[.agg ⟨x_3⟩,.bool false]⟩,w3)))
 (aSome c fun p_2=>gFv (Addr.add p_2 2) w2 fun x_4=>nw (.cells E1 false [.int .i64 0,.int .i64 0,.int .i64 0,.int .i64 0,.int .i64 0,.int .i64 0,.int .i64 0,.int .i64 0,.int .i64 0,.int .i64 0,.int .i64 0,.int .i64 0,.int .i64 0,.int .i64 0,.int .i64 0,.int .i64 0]) w2 fun b_4 w4=>bnd (C H1 [.slice b bn bc] w4) fun r w5=>aSl r fun x_5 xn xc=>gFv (Addr.add p_2 2) w5 fun x_6=>Bj5 (x_4) (x_6) (aFn x_4 fun g fi cp=>bnd (C g (fi++([.slice x_5 xn xc]++cp)) w5) fun r_1 w6=>as2 r_1 fun r_2 r_3=>aAgg r_2 fun x_7=>aBool r_3 fun x_8=>ck (List.length x_7=16) (pAgg ⟨b_4,0,none⟩ x_7 w6 fun w7=>cond (!x_8)
 (gAgg ⟨b_2,0,none⟩ 16 w7 fun x_9=>ck (List.length x_9=16) (pAgg ⟨b_1,0,none⟩ x_9 w7 fun w8=>gAgg ⟨b_1,0,none⟩ 16 w8 fun x_10=>some (.tuple ⟨[.agg ⟨x_10⟩,.bool false]⟩,w8)))
 (gAgg ⟨b_4,0,none⟩ 16 w7 fun x_11=>ck (List.length x_11=16) (pAgg ⟨b_1,0,none⟩ x_11 w7 fun w9=>gAgg ⟨b_1,0,none⟩ 16 w9 fun x_12=>some (.tuple ⟨[.agg ⟨x_12⟩,.bool true]⟩,w9)))))):=by kernel_rfl
def De3:Cuts:={ globs:=0,loops:=[],regs:=[],plans:=[] }
def Ef1:List Item:=D0 Tryz.f161
theorem Gp3 (C:A8) (R:A9)  (h:H) :
 B9 PR De3 C R Bc1 Tryz.f161 100000 true Ef1 [] h =
 bnd (C Ap8 [.int .i64 8,.func (.func Ar8) ⟨[]⟩ ⟨[]⟩,.func (.func Ar6) ⟨[]⟩ ⟨[]⟩] h) fun r w=>aPtr r fun x=>some (.pointer x,w):=by kernel_rfl
def B93:Cuts:={ globs:=0,loops:=[(3,[3,9,10,11])],regs:=[],plans:=[] }
def Dy8:List Item:=D0 Tryz.f163
def Bk4:List Item:=stk [0,1,0,1,0,0,1,4,5] Dy8
theorem Hb2 (C:A8) (R:A9) (b:Option Addr) (bn bc:Nat) (h:H) :
 B9 PR B93 C R Ab1 Tryz.f163 100000 true Dy8 [(0,.slice b bn bc)] h =
 R Ab1 Bk4 [(3,.int .u8 (IntKind.wrap .u8 (((bn:Nat):Int)))),(9,.slice b bn bc),(10,.int .i64 ((bn:Nat):Int)),(11,.int .i64 0)] h:=by kernel_rfl
theorem D23 (C:A8) (R:A9) (n:Int) (x9:Option Addr) (x9n x9c:Nat) (x10:Int) (x11:Int) (h:H) :
 B9 PR B93 C R Ab1 Tryz.f163 100000 true Bk4 [(3,.int .u8 n),(9,.slice x9 x9n x9c),(10,.int .i64 x10),(11,.int .i64 x11)] h =
 cond (decide (x11<x10))
 (aSome x9 fun p=>ck ((0:Int)≤x11∧x11<((x9n:Nat):Int)) (gInt .u8 (Addr.add (D5 p) (Int.toNat x11*1)) h fun x=>R Ab1 Bk4 [(3,.int .u8 (IntKind.wrap .u8 (n+x))),(9,.slice x9 x9n x9c),(10,.int .i64 x10),(11,.int .i64 (IntKind.wrap .i64 (x11+1)))] h))
 (some (.int .u8 n,h)):=by kernel_rfl
def Am9:Cuts:={ globs:=0,loops:=[],regs:=[],plans:=[] }
def Ba4:List Item:=D0 Tryz.f173
theorem De6 (C:A8) (R:A9) (c:Option Addr) (i:Int) (h:H) :
 B9 PR Am9 C R Ac3 Tryz.f173 100000 true Ba4 [(0,.pointer c),(1,.int .i64 i)] h =
 bnd (C As4 [.int .i64 i] h) fun r w=>aAgg r fun x=>bnd (C Q7 [.pointer c,.agg ⟨x⟩] w) fun r_1 w1=>aBool r_1 fun x_1=>some (.bool x_1,w1):=by kernel_rfl
def B67:Cuts:={ globs:=0,loops:=[],regs:=[],plans:=[] }
def D21:List Item:=D0 Tryz.f174
theorem Gj8 (C:A8) (R:A9) (s:Int) (fv0:Addr) (h:H) :
 B9 PR B67 C R H3 Tryz.f174 100000 true D21 [(0,.int .i64 s),(1,.pointer (some fv0))] h =
 bnd (cond (decide (s<0)) (some (true,h)) (gSl (Addr.add fv0 0) h fun _ xn _=>some (decide (s≥((xn:Nat):Int)),h))) fun c w=>some (.bool c,w):=by kernel_rfl
def Ae8:Cuts:={ globs:=0,loops:=[],regs:=[],plans:=[] }
def Av7:List Item:=D0 Tryz.f175
theorem Av6 (C:A8) (R:A9) (s:Option Addr) (sn sc:Nat) (f:Value) (h:H) :
 B9 PR Ae8 C R G3 Tryz.f175 100000 true Av7 [(0,.slice s sn sc),(1,f)] h =
 bnd (C E6 [.slice s sn sc,f] h) fun r w=>aInt .i64 r fun x=>some (.bool (decide (x≥0)),w):=by kernel_rfl
def Bg0:Cuts:={ globs:=0,loops:=[(3,[0,3,4])],regs:=[],plans:=[] }
def B21:List Item:=D0 Tryz.f182
def Az5:List Item:=stk [0,1,0,1,0,0,1,4,5] B21
theorem E79 (C:A8) (R:A9) (size:Int) (h:H) :
 B9 PR Bg0 C R Z8 Tryz.f182 100000 true B21 [(0,.int .i64 size)] h =
 nw (.cells El0 false [.slice none 0 0]) h fun b w=>R Z8 Az5 [(0,.int .i64 size),(3,.pointer (some ⟨b,0,none⟩)),(4,.int .i64 0)] w:=by kernel_rfl
theorem Da5 (C:A8) (R:A9) (size:Int) (n:Addr) (i:Int) (h:H) :
 B9 PR Bg0 C R Z8 Tryz.f182 100000 true Az5 [(0,.int .i64 size),(3,.pointer (some n)),(4,.int .i64 i)] h =
 bnd (cond (decide (i<size)) (some (decide (i<256),h)) (some (false,h))) fun c w=>cond c
 (gSl (Addr.add n 0) w fun x xn xc=>nw (.cells Bh0 false [.int .i64 1,.bool false]) w fun b w1=>gCells (some ⟨b,0,none⟩) (1*2) w1 fun cs=>ckB (fitsOpen x Bh0 w1) (apd Bh0 2 x xn xc 1 cs w1 fun a an ac w2=>pV (Addr.add n 0) (.slice a an ac) w2 fun w3=>R Z8 Az5 [(0,.int .i64 size),(3,.pointer (some n)),(4,.int .i64 (IntKind.wrap .i64 (i+1)))] w3))
 (some (.pointer (some n),w)):=by kernel_rfl
def Bu1:Cuts:={ globs:=0,loops:=[],regs:=[],plans:=[(4,⟨[0,1,2,3,4,5,6,7,8,9,10,11],[0,1,3,7,0,31,63,0,128,0,1023,2047],[],[]⟩)] }
def Dn2:List Item:=D0 Tryz.f185
theorem E29 (C:A8) (R:A9) (s:Option Addr) (e:Int) (c:List Value) (h:H) :
 B9 PR Bu1 C R A93 Tryz.f185 100000 true Dn2 [(0,.pointer s),(1,.int .i64 e),(2,.agg ⟨c⟩)] h =
 nw (.cells P7 false c) h fun b w=>aSome s fun p=>gSl (Addr.add p 0) w fun x xn _=>aSome x fun p_1=>ck ((0:Int)≤e∧e<((xn:Nat):Int)) (gPtr (Addr.add (D5 p_1) (Int.toNat e*1)) w fun x_1=>bnd (C W3 [.pointer x_1] w) fun r w1=>as2 r fun r_1 r_2=>aInt .i64 r_1 fun x_2=>aBool r_2 fun x_3=>cond (!x_3)
 (some (.tuple ⟨[.int .i64 0,.int .i64 4]⟩,w1))
 (aSome s fun p_2=>gSl (Addr.add p_2 1) w1 fun x_4 xn_1 _=>aSome x_4 fun p_3=>ck ((0:Int)≤e∧e<((xn_1:Nat):Int)) (gSl (Addr.add (D5 p_3) (Int.toNat e*1)) w1 fun x_5 xn_2 _=>gAgg ⟨b,0,none⟩ 6 w1 fun x_6=>aSome x_5 fun p_4=>ck ((0:Int)≤S4 .i64 x_2 255∧S4 .i64 x_2 255<((xn_2:Nat):Int)) (ck (List.length x_6=6) (pAgg (Addr.add (D5 p_4) (Int.toNat (S4 .i64 x_2 255)*6)) x_6 w1 fun w2=>some (.tuple ⟨[.int .i64 x_2,.int .i64 0]⟩,w2)))))):=by kernel_rfl
def A14:Cuts:={ globs:=0,loops:=[],regs:=[],plans:=[(6,⟨[0,1,2,3,4,5,6,7,8,9,10,11,12,13,14,15,16,17,18,19,20,21,22,23,24,25,26,27,28,29,30,31,32,33,34,35],[0,1,3,7,15,31,63,127,127,383,1023,2047,4095,8191,8191,24575,8191,122879,262143,524287,1048575,2097151,4194303,8388607,16777215,33554431,67108863,134217727,67108863,335544319,872415231,1946157055,4093640703,8589934591,17179869183,34359738367],[],[]⟩),(8,⟨[0,1,2,3,4,5,6,7,8,9],[0,1,3,7,0,16,63,127,0,511],[],[]⟩)] }
def Bp5:List Item:=D0 Tryz.f201
theorem D11 (C:A8) (R:A9) (r:Option Addr) (env:Int) (name:Int) (right:Int) (atv:Int) (n:Int) (h:H) :
 B9 PR A14 C R Aa9 Tryz.f201 100000 true Bp5 [(0,.pointer r),(1,.int .i64 env),(2,.int .i64 name),(3,.int .i64 right),(4,.int .i64 atv),(5,.int .i64 n)] h =
 aSome r fun p=>gPtr (Addr.add p 1) h fun x=>bnd (C Au5 [.pointer x,.int .i64 env,.int .i64 name] h) fun r_1 w=>as2 r_1 fun r_2 r_3=>aAgg r_2 fun x_1=>aInt .i64 r_3 fun x_2=>nw (.cells P7 false [.int .i64 0,.int .i64 0,.int .i64 0,.int .i64 0,.int .i64 0,.int .i64 0]) w fun b w1=>ck (List.length x_1=6) (pAgg ⟨b,0,none⟩ x_1 w1 fun w2=>cond (x_2 != 0)
 (some (.tuple ⟨[.int .i64 0,.int .i64 x_2]⟩,w2))
 (gInt .i64 (Addr.add ⟨b,0,none⟩ 1) w2 fun x_3=>cond ((S4 .i64 x_3 right)==0)
 (some (.tuple ⟨[.int .i64 0,.int .i64 3]⟩,w2))
 (bnd (cond (decide (atv<0)) (some (true,w2)) (some (decide (n<0),w2))) fun c w3=>bnd (cond c (some (true,w3)) (gInt .i64 (Addr.add ⟨b,0,none⟩ 3) w3 fun x_4=>some (decide (atv>x_4),w3))) fun c_1 w4=>bnd (cond c_1 (some (true,w4)) (gInt .i64 (Addr.add ⟨b,0,none⟩ 3) w4 fun x_5=>some (decide (n>(IntKind.wrap .i64 (x_5-atv))),w4))) fun c_2 w5=>bnd (cond c_2 (some (true,w5)) (gInt .i64 (Addr.add ⟨b,0,none⟩ 0) w5 fun x_6=>some (decide (x_6<0),w5))) fun c_3 w6=>bnd (cond c_3 (some (true,w6)) (gInt .i64 (Addr.add ⟨b,0,none⟩ 0) w6 fun x_7=>aSome r fun p_1=>gSl (Addr.add p_1 2) w6 fun _ xn _=>some (decide (x_7≥((xn:Nat):Int)),w6))) fun c_4 w7=>cond c_4
 (some (.tuple ⟨[.int .i64 0,.int .i64 1]⟩,w7))
 (aSome r fun p_2=>gSl (Addr.add p_2 2) w7 fun x_9 xn_1 _=>gInt .i64 (Addr.add ⟨b,0,none⟩ 0) w7 fun x_10=>aSome x_9 fun p_3=>ck ((0:Int)≤x_10∧x_10<((xn_1:Nat):Int)) (gAgg (Addr.add (D5 p_3) (Int.toNat x_10*2)) 2 w7 fun x_11=>nw (.cells Aw5 false [.int .i64 0,.int .i64 0]) w7 fun b_1 w8=>ck (List.length x_11=2) (pAgg ⟨b_1,0,none⟩ x_11 w8 fun w9=>gInt .i64 (Addr.add ⟨b,0,none⟩ 2) w9 fun x_12=>gInt .i64 (Addr.add ⟨b_1,0,none⟩ 1) w9 fun x_13=>bnd (cond (decide ((IntKind.wrap .i64 (x_12+atv))>x_13)) (some (true,w9)) (gInt .i64 (Addr.add ⟨b_1,0,none⟩ 1) w9 fun x_14=>gInt .i64 (Addr.add ⟨b,0,none⟩ 2) w9 fun x_15=>some (decide (n>(IntKind.wrap .i64 ((IntKind.wrap .i64 (x_14-x_15))-atv))),w9))) fun c_5 w10=>cond c_5
 (some (.tuple ⟨[.int .i64 0,.int .i64 1]⟩,w10))
 (gInt .i64 (Addr.add ⟨b_1,0,none⟩ 0) w10 fun x_16=>gInt .i64 (Addr.add ⟨b,0,none⟩ 2) w10 fun x_17=>some (.tuple ⟨[.int .i64 (IntKind.wrap .i64 ((IntKind.wrap .i64 (x_16+x_17))+atv)),.int .i64 0]⟩,w10)))))))):=by kernel_rfl
def Bi4:Cuts:={ globs:=0,loops:=[],regs:=[],plans:=[] }
def Db5:List Item:=D0 Tryz.f207
theorem El7 (C:A8) (R:A9) (q:Option Addr) (s:Int) (k:Int) (h:H) :
 B9 PR Bi4 C R Ax3 Tryz.f207 100000 true Db5 [(0,.pointer q),(1,.int .i64 s),(2,.int .i64 k)] h =
 bnd (C Aj7 [.pointer q,.int .i64 s] h) fun r w=>aBool r fun x=>bnd (cond x (some (decide (k≥0),w)) (some (false,w))) fun c w1=>bnd (cond c (aSome q fun p=>gSl (Addr.add p 0) w1 fun x_1 xn _=>aSome x_1 fun p_1=>ck ((0:Int)≤s∧s<((xn:Nat):Int)) (gSl (Addr.add (D5 p_1) (Int.toNat s*1)) w1 fun _ xn_1 _=>some (decide (k<((xn_1:Nat):Int)),w1))) (some (false,w1))) fun c_1 w2=>bnd (cond c_1 (aSome q fun p_2=>gSl (Addr.add p_2 0) w2 fun x_3 xn_2 _=>aSome x_3 fun p_3=>ck ((0:Int)≤s∧s<((xn_2:Nat):Int)) (gSl (Addr.add (D5 p_3) (Int.toNat s*1)) w2 fun x_4 xn_3 _=>aSome x_4 fun p_4=>ck ((0:Int)≤k∧k<((xn_3:Nat):Int)) (gInt .i64 (Addr.add (D5 p_4) (Int.toNat k*1)) w2 fun x_5=>some (decide (x_5>0),w2)))) (some (false,w2))) fun c_2 w3=>some (.bool c_2,w3):=by kernel_rfl
def Dz0:Cuts:={ globs:=0,loops:=[],regs:=[],plans:=[(1,⟨[0,1,2,3,4,5,6,7,8,9,10,11,12,13,14,15,16,17,18],[0,1,3,7,0,16,48,112,0,256,768,1792,0,4096,12288,28672,65535,0,262143],[],[]⟩),(3,⟨[0,1,2,3,4,5,6,7,8],[0,0,2,6,6,30,62,63,255],[(5,[0])],[]⟩)] }
def Ey1:List Item:=D0 Tryz.f216
theorem G82 (C:A8) (R:A9) (b:Option Addr) (bn bc:Nat) (h:H) :
 B9 PR Dz0 C R Ar6 Tryz.f216 100000 true Ey1 [(0,.slice b bn bc)] h =
 nw (.cells J0 false [.int .i64 0,.int .i64 0,.int .i64 0,.int .i64 0]) h fun b_1 w=>aSome b fun p=>ck ((0:Int)≤0∧0<((bn:Nat):Int)) (gInt .u8 (Addr.add (D5 p) (Int.toNat 0*1)) w fun x=>aSome b fun p_1=>ck ((0:Int)≤1∧1<((bn:Nat):Int)) (gInt .u8 (Addr.add (D5 p_1) (Int.toNat 1*1)) w fun x_1=>aSome b fun p_2=>ck ((0:Int)≤2∧2<((bn:Nat):Int)) (gInt .u8 (Addr.add (D5 p_2) (Int.toNat 2*1)) w fun x_2=>aSome b fun p_3=>ck ((0:Int)≤3∧3<((bn:Nat):Int)) (gInt .u8 (Addr.add (D5 p_3) (Int.toNat 3*1)) w fun x_3=>nw (.cells J0 false [.int .i64 0,.int .i64 0,.int .i64 0,.int .i64 0]) w fun b_2 w1=>pAgg ⟨b_2,0,none⟩ [.int .i64 (IntKind.wrap .i64 (x)),.int .i64 (IntKind.wrap .i64 (x_1)),.int .i64 (IntKind.wrap .i64 (x_2)),.int .i64 (IntKind.wrap .i64 (x_3))] w1 fun w2=>gAgg ⟨b_2,0,none⟩ 4 w2 fun x_4=>bnd (C A59 [.agg ⟨x_4⟩] w2) fun r w3=>as2 r fun r_1 r_2=>aSl r_1 fun x_5 xn xc=>aBool r_2 fun x_6=>gAgg ⟨b_2,0,none⟩ 4 w3 fun x_7=>bnd (cond x_6 (bnd (C E3 [.slice x_5 xn xc,.slice b bn bc] w3) fun r_3 w4=>aBool r_3 fun x_8=>gAgg ⟨b_2,0,none⟩ 4 w4 fun x_9=>same (.agg ⟨x_7⟩) (.agg ⟨x_9⟩) (some (x_8,w4))) (some (false,w3))) fun c w5=>ck (List.length x_7=4) (pAgg ⟨b_1,0,none⟩ x_7 w5 fun w6=>gAgg ⟨b_1,0,none⟩ 4 w6 fun x_10=>some (.tuple ⟨[.agg ⟨x_10⟩,.bool c]⟩,w6)))))):=by kernel_rfl
def Dr5:Cuts:={ globs:=0,loops:=[],regs:=[],plans:=[(3,⟨[0,1,2,3,4,5,6,7,8,9,10,11,12,13,14],[0,0,3,7,15,31,0,0,128,448,960,1984,4095,8191,16383],[],[]⟩)] }
def Ej0:List Item:=D0 Tryz.f233
theorem Gv4 (C:A8) (R:A9) (b:Option Addr) (bn bc:Nat) (atv:Int) (h:H) :
 B9 PR Dr5 C R Bx4 Tryz.f233 100000 true Ej0 [(0,.slice b bn bc),(1,.int .i64 atv)] h =
 bnd (cond (decide (atv<0)) (some (true,h)) (some (decide (atv>(IntKind.wrap .i64 (((bn:Nat):Int)-2))),h))) fun c w=>cond c
 (some (.tuple ⟨[.int .i64 0,.bool false]⟩,w))
 (aSome b fun p=>ck ((0:Int)≤atv∧atv<((bn:Nat):Int)) (gInt .u8 (Addr.add (D5 p) (Int.toNat atv*1)) w fun x=>aSome b fun p_1=>ck ((0:Int)≤IntKind.wrap .i64 (atv+1)∧IntKind.wrap .i64 (atv+1)<((bn:Nat):Int)) (gInt .u8 (Addr.add (D5 p_1) (Int.toNat (IntKind.wrap .i64 (atv+1))*1)) w fun x_1=>some (.tuple ⟨[.int .i64 (Hn3 .i64 (IntKind.wrap .i64 ((IntKind.wrap .i64 (x))*2 ^ 8)) (IntKind.wrap .i64 (x_1))),.bool true]⟩,w)))):=by kernel_rfl
def D99:Cuts:={ globs:=0,loops:=[],regs:=[],plans:=[] }
def Gb9:List Item:=D0 Tryz.f234
theorem Ho6 (C:A8) (R:A9) (f:List Value) (h:H) :
 B9 PR D99 C R Dk3 Tryz.f234 100000 true Gb9 [(0,.agg ⟨f⟩)] h =
 nw (.cells J0 false f) h fun b w=>gInt .i64 (Addr.add ⟨b,0,none⟩ 0) w fun x=>bnd (cond (decide (x≥1)) (gInt .i64 (Addr.add ⟨b,0,none⟩ 0) w fun x_1=>some (decide (x_1≤3),w)) (some (false,w))) fun c w1=>bnd (cond c (gInt .i64 (Addr.add ⟨b,0,none⟩ 1) w1 fun x_2=>some (decide (x_2≥0),w1)) (some (false,w1))) fun c_1 w2=>bnd (cond c_1 (gInt .i64 (Addr.add ⟨b,0,none⟩ 1) w2 fun x_3=>some (decide (x_3≤7),w2)) (some (false,w2))) fun c_2 w3=>bnd (cond c_2 (gInt .i64 (Addr.add ⟨b,0,none⟩ 0) w3 fun x_4=>bnd (cond (x_4 != 3) (some (true,w3)) (gInt .i64 (Addr.add ⟨b,0,none⟩ 1) w3 fun x_5=>some (x_5==0,w3))) fun c_3 w4=>some (c_3,w4)) (some (false,w3))) fun c_4 w5=>bnd (cond c_4 (gInt .i64 (Addr.add ⟨b,0,none⟩ 2) w5 fun x_6=>some (decide (x_6≥1),w5)) (some (false,w5))) fun c_5 w6=>bnd (cond c_5 (gInt .i64 (Addr.add ⟨b,0,none⟩ 2) w6 fun x_7=>some (decide (x_7≤64),w6)) (some (false,w6))) fun c_6 w7=>bnd (cond c_6 (gInt .i64 (Addr.add ⟨b,0,none⟩ 3) w7 fun x_8=>bnd (cond (x_8==0) (some (true,w7)) (gInt .i64 (Addr.add ⟨b,0,none⟩ 3) w7 fun x_9=>some (x_9==1,w7))) fun c_7 w8=>some (c_7,w8)) (some (false,w7))) fun c_8 w9=>some (.bool c_8,w9):=by kernel_rfl
end
end Go.EQ

set_option maxRecDepth 100000
namespace Go.EQ
open Go Go.NN Go.Proofs
variable (C : A8) (R : A9)
noncomputable section
def Bd6:Cuts:={ globs:=0,loops:=[],regs:=[],plans:=[] }
def B47:List Item:=D0 Tryz.f7
theorem Eg5 (C:A8) (R:A9) (code:Int) (other:Int) (h:H) :
 B9 PR Bd6 C R P3 Tryz.f7 100000 true B47 [(0,.int .i64 code),(1,.int .i64 other)] h =
 bnd (C Bc2 [] h) fun r w=>aSl r fun x xn xc=>bnd (C Af0 [.slice x xn xc] w) fun r_1 w1=>as4 r_1 fun r_2 r_3 r_4 r_5=>aPtr r_2 fun _=>aPtr r_3 fun x_2=>aPtr r_4 fun _=>aPtr r_5 fun _=>cond x_2.isNone
 (some (.bool false,w1))
 (bnd (C A19 [.pointer x_2,.int .i64 0] w1) fun r_6 w2=>aAgg r_6 fun x_5=>nth x_5 0 fun N=>aInt .i64 N fun N_1=>bnd (cond (N_1 != 1) (some (true,w2)) (bnd (C A19 [.pointer x_2,.int .i64 1] w2) fun r_7 w3=>aAgg r_7 fun x_6=>nth x_6 0 fun N_2=>aInt .i64 N_2 fun N_3=>some (N_3 != 2,w3))) fun c w4=>bnd (cond c (some (true,w4)) (bnd (C A19 [.pointer x_2,.int .i64 1] w4) fun r_8 w5=>aAgg r_8 fun x_7=>nth x_7 0 fun N_4=>aInt .i64 N_4 fun N_5=>some (N_5 != 3,w5))) fun c_1 w6=>cond c_1
 (some (.bool false,w6))
 (bnd (C Bc9 [.pointer x_2,.int .i64 2,.int .i64 other] w6) fun r_9 w7=>aAgg r_9 fun x_8=>nth x_8 1 fun E=>aInt .i64 E fun E_1=>bnd (cond (E_1 != 0) (some (true,w7)) (bnd (C Bc9 [.pointer x_2,.int .i64 1,.int .i64 code] w7) fun r_10 w8=>aAgg r_10 fun x_9=>nth x_9 1 fun E_2=>aInt .i64 E_2 fun E_3=>some (E_3 != 0,w8))) fun c_2 w9=>cond c_2
 (some (.bool false,w9))
 (bnd (C E4 [.pointer x_2,.int .i64 2] w9) fun r_11 w10=>as2 r_11 fun r_12 r_13=>aAgg r_12 fun x_10=>aInt .i64 r_13 fun x_11=>nw (.cells E1 false [.int .i64 0,.int .i64 0,.int .i64 0,.int .i64 0,.int .i64 0,.int .i64 0,.int .i64 0,.int .i64 0,.int .i64 0,.int .i64 0,.int .i64 0,.int .i64 0,.int .i64 0,.int .i64 0,.int .i64 0,.int .i64 0]) w10 fun b w11=>ck (List.length x_10=16) (pAgg ⟨b,0,none⟩ x_10 w11 fun w12=>bnd (C E4 [.pointer x_2,.int .i64 3] w12) fun r_14 w13=>as2 r_14 fun r_15 r_16=>aAgg r_15 fun x_12=>aInt .i64 r_16 fun x_13=>nw (.cells E1 false [.int .i64 0,.int .i64 0,.int .i64 0,.int .i64 0,.int .i64 0,.int .i64 0,.int .i64 0,.int .i64 0,.int .i64 0,.int .i64 0,.int .i64 0,.int .i64 0,.int .i64 0,.int .i64 0,.int .i64 0,.int .i64 0]) w13 fun b_1 w14=>ck (List.length x_12=16) (pAgg ⟨b_1,0,none⟩ x_12 w14 fun w15=>bnd (C E4 [.pointer x_2,.int .i64 1] w15) fun r_17 w16=>as2 r_17 fun r_18 r_19=>aAgg r_18 fun x_14=>aInt .i64 r_19 fun x_15=>nw (.cells E1 false [.int .i64 0,.int .i64 0,.int .i64 0,.int .i64 0,.int .i64 0,.int .i64 0,.int .i64 0,.int .i64 0,.int .i64 0,.int .i64 0,.int .i64 0,.int .i64 0,.int .i64 0,.int .i64 0,.int .i64 0,.int .i64 0]) w16 fun b_2 w17=>ck (List.length x_14=16) (pAgg ⟨b_2,0,none⟩ x_14 w17 fun w18=>bnd (cond (x_11 != 0) (some (true,w18)) (some (x_13 != 1,w18))) fun c_3 w19=>bnd (cond c_3 (some (true,w19)) (gInt .i64 (Addr.add ⟨b_1,0,none⟩ 1) w19 fun x_16=>some (x_16 != 0,w19))) fun c_4 w20=>bnd (cond c_4 (some (true,w20)) (some (x_15 != 1,w20))) fun c_5 w21=>bnd (cond c_5 (some (true,w21)) (gInt .i64 (Addr.add ⟨b_2,0,none⟩ 0) w21 fun x_17=>some (x_17 != 2,w21))) fun c_6 w22=>bnd (cond c_6 (some (true,w22)) (gInt .i64 (Addr.add ⟨b_2,0,none⟩ 3) w22 fun x_18=>some (x_18 != (Int.tmod (IntKind.wrap .i64 ((Int.tmod code 256)+256)) 256),w22))) fun c_7 w23=>cond c_7
 (some (.bool false,w23))
 (bnd (C Bc9 [.pointer x_2,.int .i64 3,.int .i64 5] w23) fun r_20 w24=>aAgg r_20 fun x_19=>nth x_19 1 fun E_4=>aInt .i64 E_4 fun E_5=>cond (E_5 != 0)
 (some (.bool false,w24))
 (bnd (C E4 [.pointer x_2,.int .i64 3] w24) fun r_21 w25=>as2 r_21 fun r_22 r_23=>aAgg r_22 fun x_20=>aInt .i64 r_23 fun x_21=>nw (.cells E1 false [.int .i64 0,.int .i64 0,.int .i64 0,.int .i64 0,.int .i64 0,.int .i64 0,.int .i64 0,.int .i64 0,.int .i64 0,.int .i64 0,.int .i64 0,.int .i64 0,.int .i64 0,.int .i64 0,.int .i64 0,.int .i64 0]) w25 fun b_3 w26=>ck (List.length x_20=16) (pAgg ⟨b_3,0,none⟩ x_20 w26 fun w27=>bnd (C Ab8 [.pointer x_2,.int .i64 0] w27) fun r_24 w28=>aAgg r_24 fun x_22=>nw (.cells As1 false [.int .i64 0,.int .i64 0,.slice none 0 0,.bool false]) w28 fun b_4 w29=>ck (List.length x_22=4) (pAgg ⟨b_4,0,none⟩ x_22 w29 fun w30=>bnd (cond (x_21==0) (gInt .i64 (Addr.add ⟨b_4,0,none⟩ 0) w30 fun x_23=>some (x_23==(IntKind.wrap .i64 (256+(Int.tmod (IntKind.wrap .i64 ((Int.tmod code 256)+256)) 256))),w30)) (some (false,w30))) fun c_8 w31=>bnd (cond c_8 (bnd (C Ab8 [.pointer x_2,.int .i64 0] w31) fun r_25 w32=>aAgg r_25 fun x_24=>nth x_24 1 fun E_6=>aInt .i64 E_6 fun E_7=>some (E_7==110,w32)) (some (false,w31))) fun c_9 w33=>bnd (cond c_9 (bnd (C Bq8 [] w33) fun r_26 w34=>aBool r_26 fun x_25=>some (x_25,w34)) (some (false,w33))) fun c_10 w35=>some (.bool c_10,w35))))))))))):=by kernel_rfl
def Df9:Cuts:={ globs:=0,loops:=[],regs:=[],plans:=[] }
def Ee7:List Item:=D0 Tryz.f15
theorem Gr7 (C:A8) (R:A9) (k:Option Addr) (env:Int) (h:H) :
 B9 PR Df9 C R Br8 Tryz.f15 100000 true Ee7 [(0,.pointer k),(1,.int .i64 env)] h =
 bnd (cond k.isNone (some (true,h)) (bnd (C An1 [.pointer k] h) fun r w=>aPtr r fun x=>bnd (C Al1 [.pointer x,.int .i64 env] w) fun r_1 w1=>aSl r_1 fun _ xn _=>some (((xn:Nat):Int)==0,w1))) fun c w2=>cond c
 (some (.tuple ⟨[.pointer none,.int .i64 1]⟩,w2))
 (bnd (C An1 [.pointer k] w2) fun r_2 w3=>aPtr r_2 fun x_2=>bnd (C Al1 [.pointer x_2,.int .i64 env] w3) fun r_3 w4=>aSl r_3 fun x_3 xn_1 xc_1=>nw (.map [] 0) w4 fun b w5=>nw (.cells Dh0 false [.pointer k,.int .i64 env,.slice x_3 xn_1 xc_1,.map (some b)]) w5 fun b_1 w6=>some (.tuple ⟨[.pointer (some ⟨b_1,0,none⟩),.int .i64 0]⟩,w6)):=by kernel_rfl
def A16:Cuts:={ globs:=0,loops:=[],regs:=[],plans:=[] }
def Bo1:List Item:=D0 Tryz.f18
theorem Dz1 (C:A8) (R:A9) (c:Option Addr) (i:Int) (h:H) :
 B9 PR A16 C R Aa7 Tryz.f18 100000 true Bo1 [(0,.pointer c),(1,.int .i64 i)] h =
 nw (.cells I9 false [.int .i64 0,.int .i64 0,.int .i64 0,.int .i64 0,.int .u8 0,.int .u8 0,.int .u8 0,.int .u8 0,.int .u8 0,.int .u8 0,.int .u8 0,.int .u8 0,.int .u8 0,.int .u8 0,.int .u8 0,.int .u8 0,.int .u8 0,.int .u8 0,.int .u8 0,.int .u8 0,.int .u8 0,.int .u8 0,.int .u8 0,.int .u8 0,.int .u8 0,.int .u8 0,.int .u8 0,.int .u8 0,.int .u8 0,.int .u8 0,.int .u8 0,.int .u8 0,.int .u8 0,.int .u8 0,.int .u8 0,.int .u8 0]) h fun b w=>bnd (C As4 [.int .i64 i] w) fun r w1=>aAgg r fun x=>bnd (C I6 [.pointer c,.agg ⟨x⟩,.func (.func Aw8) ⟨[]⟩ ⟨[]⟩] w1) fun r_1 w2=>as2 r_1 fun r_2 r_3=>aAgg r_2 fun x_1=>aInt .i64 r_3 fun x_2=>ck (List.length x_1=36) (pAgg ⟨b,0,none⟩ x_1 w2 fun w3=>gAgg ⟨b,0,none⟩ 36 w3 fun x_3=>some (.tuple ⟨[.agg ⟨x_3⟩,.int .i64 x_2]⟩,w3)):=by kernel_rfl
def B71:Cuts:={ globs:=0,loops:=[],regs:=[],plans:=[] }
def D45:List Item:=D0 Tryz.f22
theorem Ge3 (C:A8) (R:A9) (k:Option Addr) (env:Int) (c:List Value) (h:H) :
 B9 PR B71 C R U1 Tryz.f22 100000 true D45 [(0,.pointer k),(1,.int .i64 env),(2,.agg ⟨c⟩)] h =
 nw (.cells Ay8 false c) h fun b w=>nw (.cells Em6 false [.int .i64 0,.int .i64 0,.slice none 0 0]) w fun b_1 w1=>bnd (cond (decide (env<0)) (some (true,w1)) (aSome k fun p=>gSl (Addr.add p 0) w1 fun _ xn _=>some (decide (env≥((xn:Nat):Int)),w1))) fun c_1 w2=>cond c_1
 (pAgg ⟨b_1,0,none⟩ [.int .i64 1,.int .i64 0,.slice none 0 0] w2 fun w3=>gAgg ⟨b_1,0,none⟩ 3 w3 fun x_1=>some (.agg ⟨x_1⟩,w3))
 (gAgg ⟨b,0,none⟩ 7 w2 fun x_2=>bnd (C A29 [.pointer k,.int .i64 env,.agg ⟨x_2⟩] w2) fun r w4=>as3 r fun r_1 r_2 r_3=>aSl r_1 fun x_3 xn_1 xc_1=>aInt .i64 r_2 fun x_4=>aBool r_3 fun x_5=>cond x_5
 (pAgg ⟨b_1,0,none⟩ [.int .i64 x_4,.int .i64 0,.slice x_3 xn_1 xc_1] w4 fun w5=>gAgg ⟨b_1,0,none⟩ 3 w5 fun x_6=>some (.agg ⟨x_6⟩,w5))
 (gAgg ⟨b,0,none⟩ 7 w4 fun x_7=>bnd (C Ax0 [.pointer k,.int .i64 env,.agg ⟨x_7⟩] w4) fun r_4 w6=>as2 r_4 fun r_5 r_6=>aInt .i64 r_5 fun x_8=>aInt .i64 r_6 fun x_9=>pAgg ⟨b_1,0,none⟩ [.int .i64 x_9,.int .i64 x_8,.slice none 0 0] w6 fun w7=>gAgg ⟨b_1,0,none⟩ 3 w7 fun x_10=>some (.agg ⟨x_10⟩,w7))):=by kernel_rfl
def A05:Cuts:={ globs:=0,loops:=[],regs:=[],plans:=[] }
def Bq5:List Item:=D0 Tryz.f23
theorem D08 (C:A8) (R:A9) (c:Option Addr) (i:Int) (h:H) :
 B9 PR A05 C R E4 Tryz.f23 100000 true Bq5 [(0,.pointer c),(1,.int .i64 i)] h =
 nw (.cells E1 false [.int .i64 0,.int .i64 0,.int .i64 0,.int .i64 0,.int .i64 0,.int .i64 0,.int .i64 0,.int .i64 0,.int .i64 0,.int .i64 0,.int .i64 0,.int .i64 0,.int .i64 0,.int .i64 0,.int .i64 0,.int .i64 0]) h fun b w=>bnd (C As3 [.int .i64 i] w) fun r w1=>aAgg r fun x=>bnd (C L7 [.pointer c,.agg ⟨x⟩,.func (.func A40) ⟨[]⟩ ⟨[]⟩] w1) fun r_1 w2=>as2 r_1 fun r_2 r_3=>aAgg r_2 fun x_1=>aInt .i64 r_3 fun x_2=>ck (List.length x_1=16) (pAgg ⟨b,0,none⟩ x_1 w2 fun w3=>gAgg ⟨b,0,none⟩ 16 w3 fun x_3=>some (.tuple ⟨[.agg ⟨x_3⟩,.int .i64 x_2]⟩,w3)):=by kernel_rfl
def An8:Cuts:={ globs:=0,loops:=[],regs:=[],plans:=[] }
def Be1:List Item:=D0 Tryz.f24
theorem Dk6 (C:A8) (R:A9) (c:Option Addr) (i:Int) (p:List Value) (h:H) :
 B9 PR An8 C R L5 Tryz.f24 100000 true Be1 [(0,.pointer c),(1,.int .i64 i),(2,.agg ⟨p⟩)] h =
 nw (.cells E1 false p) h fun b w=>gAgg ⟨b,0,none⟩ 16 w fun x=>bnd (C A55 [.agg ⟨x⟩] w) fun r w1=>as2 r fun r_1 r_2=>aSl r_1 fun x_1 xn xc=>aBool r_2 fun x_2=>bnd (C As3 [.int .i64 i] w1) fun r_3 w2=>aAgg r_3 fun x_3=>bnd (C L0 [.pointer c,.agg ⟨x_3⟩,.slice x_1 xn xc,.bool x_2] w2) fun r_4 w3=>aBool r_4 fun x_4=>some (.bool x_4,w3):=by kernel_rfl
def Ao8:Cuts:={ globs:=0,loops:=[],regs:=[],plans:=[] }
def Be5:List Item:=D0 Tryz.f28
theorem Dk5 (C:A8) (R:A9) (c:Option Addr) (i:Int) (f:List Value) (h:H) :
 B9 PR Ao8 C R U6 Tryz.f28 100000 true Be5 [(0,.pointer c),(1,.int .i64 i),(2,.agg ⟨f⟩)] h =
 nw (.cells J0 false f) h fun b w=>gAgg ⟨b,0,none⟩ 4 w fun x=>bnd (C A59 [.agg ⟨x⟩] w) fun r w1=>as2 r fun r_1 r_2=>aSl r_1 fun x_1 xn xc=>aBool r_2 fun x_2=>bnd (C As7 [.int .i64 i] w1) fun r_3 w2=>aAgg r_3 fun x_3=>bnd (C L0 [.pointer c,.agg ⟨x_3⟩,.slice x_1 xn xc,.bool x_2] w2) fun r_4 w3=>aBool r_4 fun x_4=>some (.bool x_4,w3):=by kernel_rfl
def De7:Cuts:={ globs:=0,loops:=[],regs:=[],plans:=[(1,⟨[0,1,2,3,4,5,6,7],[0,1,0,4,15,12,63,127],[(3,[1]),(5,[1])],[]⟩)] }
def Ef4:List Item:=D0 Tryz.f53
theorem Gr5 (C:A8) (R:A9)  (h:H) :
 B9 PR De7 C R Bb8 Tryz.f53 100000 true Ef4 [] h =
 ck ((0:Int)≤448∧(448:Int)≤448∧448≤(D3:Int)) (nw (.cells B0 false (I0 (Int.toNat 448) [.int .u8 0])) h fun b w=>gCells (some ⟨b,0,none⟩) (Int.toNat 448) w fun cs=>asBytes cs fun l=>bnd (C P8 [.agg ⟨[.int .i64 0,.int .i64 0,.int .i64 1,.int .i64 1,.int .u8 0,.int .u8 0,.int .u8 0,.int .u8 0,.int .u8 0,.int .u8 0,.int .u8 0,.int .u8 0,.int .u8 0,.int .u8 0,.int .u8 0,.int .u8 0,.int .u8 0,.int .u8 0,.int .u8 0,.int .u8 0,.int .u8 0,.int .u8 0,.int .u8 0,.int .u8 0,.int .u8 0,.int .u8 0,.int .u8 0,.int .u8 0,.int .u8 0,.int .u8 0,.int .u8 0,.int .u8 0,.int .u8 0,.int .u8 0,.int .u8 0,.int .u8 0]⟩] w) fun r w1=>aStr r fun x=>gCells (some ⟨b,0,none⟩) (Int.toNat 448) w1 fun cs_1=>asBytes cs_1 fun l_1=>same (.string (ByteArray.mk ⟨l⟩)) (.string (ByteArray.mk ⟨l_1⟩)) (ck (ByteArray.size (ByteArray.mk ⟨l⟩)+ByteArray.size x≤D3) (bnd (C Ax1 [.int .i64 0] w1) fun r_1 w2=>aStr r_1 fun x_1=>gCells (some ⟨b,0,none⟩) (Int.toNat 448) w2 fun cs_2=>asBytes cs_2 fun l_2=>same (.string (ByteArray.mk ⟨l⟩)) (.string (ByteArray.mk ⟨l_2⟩)) (ck (ByteArray.size ((ByteArray.mk ⟨l⟩)++x)+ByteArray.size x_1≤D3) (some (.string (((ByteArray.mk ⟨l⟩)++x)++x_1),w2)))))):=by kernel_rfl
def B78:Cuts:={ globs:=0,loops:=[],regs:=[],plans:=[] }
def D43:List Item:=D0 Tryz.f60
theorem Gg0 (C:A8) (R:A9) (i:Int) (h:H) :
 B9 PR B78 C R As4 Tryz.f60 100000 true D43 [(0,.int .i64 i)] h =
 nw (.cells E8 false [.int .i64 0,.int .i64 0]) h fun b w=>pAgg ⟨b,0,none⟩ [.int .i64 3,.int .i64 i] w fun w1=>gAgg ⟨b,0,none⟩ 2 w1 fun x=>some (.agg ⟨x⟩,w1):=by kernel_rfl
def Ae4:Cuts:={ globs:=0,loops:=[],regs:=[(8,[6,8,11,12])],plans:=[(7,⟨[0,1,2,3,4,5,6,7,8,9],[0,1,3,7,0,31,63,31,159,511],[(7,[5])],[]⟩)] }
def Aq5:List Item:=D0 Tryz.f61
def Ai8:List Item:=stk [0,1,0,1,0,1,0,1,0,1,0,1,0,0] Aq5
theorem Dj4 (C:A8) (R:A9) (c:Option Addr) (r:List Value) (decode:Value) (h:H) :
 B9 PR Ae4 C R I6 Tryz.f61 100000 true Aq5 [(0,.pointer c),(1,.agg ⟨r⟩),(2,decode)] h =
 nw (.cells E8 false r) h fun b w=>nw (.cells I9 false [.int .i64 0,.int .i64 0,.int .i64 0,.int .i64 0,.int .u8 0,.int .u8 0,.int .u8 0,.int .u8 0,.int .u8 0,.int .u8 0,.int .u8 0,.int .u8 0,.int .u8 0,.int .u8 0,.int .u8 0,.int .u8 0,.int .u8 0,.int .u8 0,.int .u8 0,.int .u8 0,.int .u8 0,.int .u8 0,.int .u8 0,.int .u8 0,.int .u8 0,.int .u8 0,.int .u8 0,.int .u8 0,.int .u8 0,.int .u8 0,.int .u8 0,.int .u8 0,.int .u8 0,.int .u8 0,.int .u8 0,.int .u8 0]) w fun b_1 w1=>nw (.cells I9 false [.int .i64 0,.int .i64 0,.int .i64 0,.int .i64 0,.int .u8 0,.int .u8 0,.int .u8 0,.int .u8 0,.int .u8 0,.int .u8 0,.int .u8 0,.int .u8 0,.int .u8 0,.int .u8 0,.int .u8 0,.int .u8 0,.int .u8 0,.int .u8 0,.int .u8 0,.int .u8 0,.int .u8 0,.int .u8 0,.int .u8 0,.int .u8 0,.int .u8 0,.int .u8 0,.int .u8 0,.int .u8 0,.int .u8 0,.int .u8 0,.int .u8 0,.int .u8 0,.int .u8 0,.int .u8 0,.int .u8 0,.int .u8 0]) w1 fun b_2 w2=>gAgg ⟨b,0,none⟩ 2 w2 fun x=>bnd (C O2 [.pointer c,.agg ⟨x⟩] w2) fun r_1 w3=>as2 r_1 fun r_2 r_3=>aSl r_2 fun x_1 xn xc=>aBool r_3 fun x_2=>cond (!x_2)
 (gAgg ⟨b_2,0,none⟩ 36 w3 fun x_3=>ck (List.length x_3=36) (pAgg ⟨b_1,0,none⟩ x_3 w3 fun w4=>gAgg ⟨b_1,0,none⟩ 36 w4 fun x_4=>some (.tuple ⟨[.agg ⟨x_4⟩,.int .i64 2]⟩,w4)))
 (aFn decode fun g fi cp=>bnd (C g (fi++([.slice x_1 xn xc]++cp)) w3) fun r_4 w5=>as2 r_4 fun r_5 r_6=>aAgg r_5 fun x_5=>aInt .i64 r_6 fun x_6=>nw (.cells I9 false [.int .i64 0,.int .i64 0,.int .i64 0,.int .i64 0,.int .u8 0,.int .u8 0,.int .u8 0,.int .u8 0,.int .u8 0,.int .u8 0,.int .u8 0,.int .u8 0,.int .u8 0,.int .u8 0,.int .u8 0,.int .u8 0,.int .u8 0,.int .u8 0,.int .u8 0,.int .u8 0,.int .u8 0,.int .u8 0,.int .u8 0,.int .u8 0,.int .u8 0,.int .u8 0,.int .u8 0,.int .u8 0,.int .u8 0,.int .u8 0,.int .u8 0,.int .u8 0,.int .u8 0,.int .u8 0,.int .u8 0,.int .u8 0]) w5 fun b_3 w6=>ck (List.length x_5=36) (pAgg ⟨b_3,0,none⟩ x_5 w6 fun w7=>cond (x_6==2)
 (aSome c fun p=>gMap (Addr.add p 3) w7 fun x_7=>gAgg ⟨b,0,none⟩ 2 w7 fun x_8=>keyN PR E8 (.agg ⟨x_8⟩) (opt x_7 fun r_7=>mapAt w7 r_7 fun es _=>opt (Am0 (.int .i64 0) (.agg ⟨x_8⟩) es) fun f=>aInt .i64 f.1 fun x_9=>keyN PR E8 (.agg ⟨x_8⟩) (opt x_7 fun r_8=>mapAt w7 r_8 fun es_1 cl_1=>opt (D05 (.int .i64 0) (.agg ⟨x_8⟩) es_1 cl_1) fun f_1=>aInt .i64 f_1.1 fun _=>lt (H.set w7 r_8 f_1.2.2) fun w8=>keyN PR E8 (.agg ⟨x_8⟩) (opt x_7 fun r_9=>mapAt w8 r_9 fun es_2 _=>opt (Am0 (.int .i64 0) (.agg ⟨x_8⟩) es_2) fun f_2=>aInt .i64 f_2.1 fun x_11=>same (.int .i64 x_9) (.int .i64 x_11) (opt x_7 fun r_10=>mapAt w8 r_10 fun es_3 cl_3=>opt (Bl7 (f_1.2.1:Int) es_3 0) fun i=>lt (H.set w8 r_10 (.map (modN (fun e=>{ e with val:=.int .i64 (IntKind.wrap .i64 (x_9+1)) }) i es_3) cl_3)) fun w9=>R I6 Ai8 [(6,.pointer (some ⟨b_1,0,none⟩)),(8,.pointer (some ⟨b_2,0,none⟩)),(11,.pointer (some ⟨b_3,0,none⟩)),(12,.int .i64 x_6)] w9)))))
 (R I6 Ai8 [(6,.pointer (some ⟨b_1,0,none⟩)),(8,.pointer (some ⟨b_2,0,none⟩)),(11,.pointer (some ⟨b_3,0,none⟩)),(12,.int .i64 x_6)] w7))):=by kernel_rfl
theorem A53 (C:A8) (R:A9) (x6:Addr) (nonev:Addr) (v:Addr) (isv:Int) (h:H) :
 B9 PR Ae4 C R I6 Tryz.f61 100000 true Ai8 [(6,.pointer (some x6)),(8,.pointer (some nonev)),(11,.pointer (some v)),(12,.int .i64 isv)] h =
 cond (isv != 1)
 (gAgg nonev 36 h fun x=>ck (List.length x=36) (pAgg x6 x h fun w=>gAgg x6 36 w fun x_1=>some (.tuple ⟨[.agg ⟨x_1⟩,.int .i64 isv]⟩,w)))
 (gAgg v 36 h fun x_2=>ck (List.length x_2=36) (pAgg x6 x_2 h fun w1=>gAgg x6 36 w1 fun x_3=>some (.tuple ⟨[.agg ⟨x_3⟩,.int .i64 isv]⟩,w1))):=by kernel_rfl
def Df2:Cuts:={ globs:=0,loops:=[],regs:=[],plans:=[] }
def Ee1:List Item:=D0 Tryz.f62
theorem Gr1 (C:A8) (R:A9) (b:Option Addr) (bn bc:Nat) (h:H) :
 B9 PR Df2 C R Aw8 Tryz.f62 100000 true Ee1 [(0,.slice b bn bc)] h =
 nw (.cells I9 false [.int .i64 0,.int .i64 0,.int .i64 0,.int .i64 0,.int .u8 0,.int .u8 0,.int .u8 0,.int .u8 0,.int .u8 0,.int .u8 0,.int .u8 0,.int .u8 0,.int .u8 0,.int .u8 0,.int .u8 0,.int .u8 0,.int .u8 0,.int .u8 0,.int .u8 0,.int .u8 0,.int .u8 0,.int .u8 0,.int .u8 0,.int .u8 0,.int .u8 0,.int .u8 0,.int .u8 0,.int .u8 0,.int .u8 0,.int .u8 0,.int .u8 0,.int .u8 0,.int .u8 0,.int .u8 0,.int .u8 0,.int .u8 0]) h fun b_1 w=>bnd (cond (((bn:Nat):Int)==40) (bnd (C Am6 [.slice b bn bc] w) fun r w1=>aBool r fun x=>some (x,w1)) (some (false,w))) fun c w2=>cond c
 (pAgg ⟨b_1,0,none⟩ [.int .i64 0,.int .i64 0,.int .i64 0,.int .i64 0,.int .u8 0,.int .u8 0,.int .u8 0,.int .u8 0,.int .u8 0,.int .u8 0,.int .u8 0,.int .u8 0,.int .u8 0,.int .u8 0,.int .u8 0,.int .u8 0,.int .u8 0,.int .u8 0,.int .u8 0,.int .u8 0,.int .u8 0,.int .u8 0,.int .u8 0,.int .u8 0,.int .u8 0,.int .u8 0,.int .u8 0,.int .u8 0,.int .u8 0,.int .u8 0,.int .u8 0,.int .u8 0,.int .u8 0,.int .u8 0,.int .u8 0,.int .u8 0] w2 fun w3=>gAgg ⟨b_1,0,none⟩ 36 w3 fun x_1=>some (.tuple ⟨[.agg ⟨x_1⟩,.int .i64 0]⟩,w3))
 (bnd (C Bg8 [] w2) fun r_1 w4=>aPtr r_1 fun x_2=>bnd (C V8 [.pointer x_2,.slice b bn bc] w4) fun r_2 w5=>as2 r_2 fun r_3 r_4=>aAgg r_3 fun x_3=>aBool r_4 fun x_4=>nw (.cells I9 false [.int .i64 0,.int .i64 0,.int .i64 0,.int .i64 0,.int .u8 0,.int .u8 0,.int .u8 0,.int .u8 0,.int .u8 0,.int .u8 0,.int .u8 0,.int .u8 0,.int .u8 0,.int .u8 0,.int .u8 0,.int .u8 0,.int .u8 0,.int .u8 0,.int .u8 0,.int .u8 0,.int .u8 0,.int .u8 0,.int .u8 0,.int .u8 0,.int .u8 0,.int .u8 0,.int .u8 0,.int .u8 0,.int .u8 0,.int .u8 0,.int .u8 0,.int .u8 0,.int .u8 0,.int .u8 0,.int .u8 0,.int .u8 0]) w5 fun b_2 w6=>ck (List.length x_3=36) (pAgg ⟨b_2,0,none⟩ x_3 w6 fun w7=>cond (!x_4)
 (pAgg ⟨b_1,0,none⟩ [.int .i64 0,.int .i64 0,.int .i64 0,.int .i64 0,.int .u8 0,.int .u8 0,.int .u8 0,.int .u8 0,.int .u8 0,.int .u8 0,.int .u8 0,.int .u8 0,.int .u8 0,.int .u8 0,.int .u8 0,.int .u8 0,.int .u8 0,.int .u8 0,.int .u8 0,.int .u8 0,.int .u8 0,.int .u8 0,.int .u8 0,.int .u8 0,.int .u8 0,.int .u8 0,.int .u8 0,.int .u8 0,.int .u8 0,.int .u8 0,.int .u8 0,.int .u8 0,.int .u8 0,.int .u8 0,.int .u8 0,.int .u8 0] w7 fun w8=>gAgg ⟨b_1,0,none⟩ 36 w8 fun x_5=>some (.tuple ⟨[.agg ⟨x_5⟩,.int .i64 2]⟩,w8))
 (gAgg ⟨b_2,0,none⟩ 36 w7 fun x_6=>ck (List.length x_6=36) (pAgg ⟨b_1,0,none⟩ x_6 w7 fun w9=>gAgg ⟨b_1,0,none⟩ 36 w9 fun x_7=>some (.tuple ⟨[.agg ⟨x_7⟩,.int .i64 1]⟩,w9))))):=by kernel_rfl
def Bn3:Cuts:={ globs:=0,loops:=[],regs:=[],plans:=[(4,⟨[0,1,2,3,4,5,6,7,8,9,10,11,12,13,14,15,16],[0,1,3,7,0,0,32,0,128,0,512,2047,4095,8191,8191,16383,65535],[],[]⟩),(6,⟨[0,1,2,3,4,5,6,7,8,9,10,11,12],[0,1,3,7,0,0,32,0,128,0,512,2047,4095],[],[]⟩),(8,⟨[0,1,2,3,4,5,6,7,8,9,10,11,12,13,14,15,16],[0,1,3,7,0,0,32,0,128,0,512,0,2048,0,8192,32767,65535],[],[]⟩)] }
def Dh2:List Item:=D0 Tryz.f67
theorem Ew2 (C:A8) (R:A9) (k:Option Addr) (env:Int) (c:List Value) (h:H) :
 B9 PR Bn3 C R A29 Tryz.f67 100000 true Dh2 [(0,.pointer k),(1,.int .i64 env),(2,.agg ⟨c⟩)] h =
 nw (.cells Ay8 false c) h fun b w=>gInt .i64 (Addr.add ⟨b,0,none⟩ 0) w fun x=>cond (x==1)
 (aSome k fun p=>gPtr (Addr.add p 5) w fun x_1=>gInt .i64 (Addr.add ⟨b,0,none⟩ 1) w fun x_2=>gInt .i64 (Addr.add ⟨b,0,none⟩ 2) w fun x_3=>gInt .i64 (Addr.add ⟨b,0,none⟩ 3) w fun x_4=>bnd (C Ad0 [.pointer x_1,.int .i64 env,.int .i64 x_2,.int .i64 x_3,.int .i64 x_4] w) fun r w1=>as2 r fun r_1 r_2=>aSl r_1 fun x_5 xn xc=>aInt .i64 r_2 fun x_6=>some (.tuple ⟨[.slice x_5 xn xc,.int .i64 x_6,.bool true]⟩,w1))
 (cond (x==2)
 (aSome k fun p_1=>gPtr (Addr.add p_1 5) w fun x_7=>gInt .i64 (Addr.add ⟨b,0,none⟩ 1) w fun x_8=>gInt .i64 (Addr.add ⟨b,0,none⟩ 2) w fun x_9=>gSl (Addr.add ⟨b,0,none⟩ 6) w fun x_10 xn_1 xc_1=>bnd (C Ab4 [.pointer x_7,.int .i64 env,.int .i64 x_8,.int .i64 x_9,.slice x_10 xn_1 xc_1] w) fun r_3 w2=>aInt .i64 r_3 fun x_11=>some (.tuple ⟨[.slice none 0 0,.int .i64 x_11,.bool true]⟩,w2))
 (cond (x==3)
 (aSome k fun p_2=>gPtr (Addr.add p_2 5) w fun x_12=>gInt .i64 (Addr.add ⟨b,0,none⟩ 1) w fun x_13=>gInt .i64 (Addr.add ⟨b,0,none⟩ 2) w fun x_14=>gInt .i64 (Addr.add ⟨b,0,none⟩ 4) w fun x_15=>gInt .i64 (Addr.add ⟨b,0,none⟩ 5) w fun x_16=>gInt .i64 (Addr.add ⟨b,0,none⟩ 3) w fun x_17=>bnd (C Al9 [.pointer x_12,.int .i64 env,.int .i64 x_13,.int .i64 x_14,.int .i64 x_15,.int .i64 x_16,.int .i64 x_17] w) fun r_4 w3=>aInt .i64 r_4 fun x_18=>some (.tuple ⟨[.slice none 0 0,.int .i64 x_18,.bool true]⟩,w3))
 (some (.tuple ⟨[.slice none 0 0,.int .i64 0,.bool false]⟩,w)))):=by kernel_rfl
def Ae3:Cuts:={ globs:=0,loops:=[],regs:=[(8,[6,8,11,12])],plans:=[(7,⟨[0,1,2,3,4,5,6,7,8,9],[0,1,3,7,0,31,63,31,159,511],[(7,[5])],[]⟩)] }
def Ap2:List Item:=D0 Tryz.f69
def Ai7:List Item:=stk [0,1,0,1,0,1,0,1,0,1,0,1,0,0] Ap2
theorem Dk8 (C:A8) (R:A9) (c:Option Addr) (r:List Value) (decode:Value) (h:H) :
 B9 PR Ae3 C R L7 Tryz.f69 100000 true Ap2 [(0,.pointer c),(1,.agg ⟨r⟩),(2,decode)] h =
 nw (.cells E8 false r) h fun b w=>nw (.cells E1 false [.int .i64 0,.int .i64 0,.int .i64 0,.int .i64 0,.int .i64 0,.int .i64 0,.int .i64 0,.int .i64 0,.int .i64 0,.int .i64 0,.int .i64 0,.int .i64 0,.int .i64 0,.int .i64 0,.int .i64 0,.int .i64 0]) w fun b_1 w1=>nw (.cells E1 false [.int .i64 0,.int .i64 0,.int .i64 0,.int .i64 0,.int .i64 0,.int .i64 0,.int .i64 0,.int .i64 0,.int .i64 0,.int .i64 0,.int .i64 0,.int .i64 0,.int .i64 0,.int .i64 0,.int .i64 0,.int .i64 0]) w1 fun b_2 w2=>gAgg ⟨b,0,none⟩ 2 w2 fun x=>bnd (C O2 [.pointer c,.agg ⟨x⟩] w2) fun r_1 w3=>as2 r_1 fun r_2 r_3=>aSl r_2 fun x_1 xn xc=>aBool r_3 fun x_2=>cond (!x_2)
 (gAgg ⟨b_2,0,none⟩ 16 w3 fun x_3=>ck (List.length x_3=16) (pAgg ⟨b_1,0,none⟩ x_3 w3 fun w4=>gAgg ⟨b_1,0,none⟩ 16 w4 fun x_4=>some (.tuple ⟨[.agg ⟨x_4⟩,.int .i64 2]⟩,w4)))
 (aFn decode fun g fi cp=>bnd (C g (fi++([.slice x_1 xn xc]++cp)) w3) fun r_4 w5=>as2 r_4 fun r_5 r_6=>aAgg r_5 fun x_5=>aInt .i64 r_6 fun x_6=>nw (.cells E1 false [.int .i64 0,.int .i64 0,.int .i64 0,.int .i64 0,.int .i64 0,.int .i64 0,.int .i64 0,.int .i64 0,.int .i64 0,.int .i64 0,.int .i64 0,.int .i64 0,.int .i64 0,.int .i64 0,.int .i64 0,.int .i64 0]) w5 fun b_3 w6=>ck (List.length x_5=16) (pAgg ⟨b_3,0,none⟩ x_5 w6 fun w7=>cond (x_6==2)
 (aSome c fun p=>gMap (Addr.add p 3) w7 fun x_7=>gAgg ⟨b,0,none⟩ 2 w7 fun x_8=>keyN PR E8 (.agg ⟨x_8⟩) (opt x_7 fun r_7=>mapAt w7 r_7 fun es _=>opt (Am0 (.int .i64 0) (.agg ⟨x_8⟩) es) fun f=>aInt .i64 f.1 fun x_9=>keyN PR E8 (.agg ⟨x_8⟩) (opt x_7 fun r_8=>mapAt w7 r_8 fun es_1 cl_1=>opt (D05 (.int .i64 0) (.agg ⟨x_8⟩) es_1 cl_1) fun f_1=>aInt .i64 f_1.1 fun _=>lt (H.set w7 r_8 f_1.2.2) fun w8=>keyN PR E8 (.agg ⟨x_8⟩) (opt x_7 fun r_9=>mapAt w8 r_9 fun es_2 _=>opt (Am0 (.int .i64 0) (.agg ⟨x_8⟩) es_2) fun f_2=>aInt .i64 f_2.1 fun x_11=>same (.int .i64 x_9) (.int .i64 x_11) (opt x_7 fun r_10=>mapAt w8 r_10 fun es_3 cl_3=>opt (Bl7 (f_1.2.1:Int) es_3 0) fun i=>lt (H.set w8 r_10 (.map (modN (fun e=>{ e with val:=.int .i64 (IntKind.wrap .i64 (x_9+1)) }) i es_3) cl_3)) fun w9=>R L7 Ai7 [(6,.pointer (some ⟨b_1,0,none⟩)),(8,.pointer (some ⟨b_2,0,none⟩)),(11,.pointer (some ⟨b_3,0,none⟩)),(12,.int .i64 x_6)] w9)))))
 (R L7 Ai7 [(6,.pointer (some ⟨b_1,0,none⟩)),(8,.pointer (some ⟨b_2,0,none⟩)),(11,.pointer (some ⟨b_3,0,none⟩)),(12,.int .i64 x_6)] w7))):=by kernel_rfl
theorem A64 (C:A8) (R:A9) (x6:Addr) (nonev:Addr) (v:Addr) (isv:Int) (h:H) :
 B9 PR Ae3 C R L7 Tryz.f69 100000 true Ai7 [(6,.pointer (some x6)),(8,.pointer (some nonev)),(11,.pointer (some v)),(12,.int .i64 isv)] h =
 cond (isv != 1)
 (gAgg nonev 16 h fun x=>ck (List.length x=16) (pAgg x6 x h fun w=>gAgg x6 16 w fun x_1=>some (.tuple ⟨[.agg ⟨x_1⟩,.int .i64 isv]⟩,w)))
 (gAgg v 16 h fun x_2=>ck (List.length x_2=16) (pAgg x6 x_2 h fun w1=>gAgg x6 16 w1 fun x_3=>some (.tuple ⟨[.agg ⟨x_3⟩,.int .i64 isv]⟩,w1))):=by kernel_rfl
def B56:Cuts:={ globs:=0,loops:=[],regs:=[],plans:=[] }
def D46:List Item:=D0 Tryz.f70
theorem Gh2 (C:A8) (R:A9) (i:Int) (h:H) :
 B9 PR B56 C R As3 Tryz.f70 100000 true D46 [(0,.int .i64 i)] h =
 nw (.cells E8 false [.int .i64 0,.int .i64 0]) h fun b w=>pAgg ⟨b,0,none⟩ [.int .i64 1,.int .i64 i] w fun w1=>gAgg ⟨b,0,none⟩ 2 w1 fun x=>some (.agg ⟨x⟩,w1):=by kernel_rfl
def B52:Cuts:={ globs:=0,loops:=[],regs:=[],plans:=[(1,⟨[1,0,2,3,4,5,6],[0,0,3,7,7,31,63],[(0,[1])],[]⟩)] }
def D24:List Item:=D0 Tryz.f72
theorem Gi3 (C:A8) (R:A9) (p:List Value) (h:H) :
 B9 PR B52 C R A55 Tryz.f72 100000 true D24 [(0,.agg ⟨p⟩)] h =
 nw (.cells E1 false p) h fun b w=>gAgg ⟨b,0,none⟩ 16 w fun x=>bnd (C Bc4 [] w) fun r w1=>aPtr r fun x_1=>gAgg ⟨b,0,none⟩ 16 w1 fun x_2=>same (.agg ⟨x⟩) (.agg ⟨x_2⟩) (bnd (C V9 [.pointer x_1,.agg ⟨x⟩] w1) fun r_1 w2=>as2 r_1 fun r_2 r_3=>aSl r_2 fun x_3 xn xc=>aBool r_3 fun x_4=>some (.tuple ⟨[.slice x_3 xn xc,.bool x_4]⟩,w2)):=by kernel_rfl
def Bn8:Cuts:={ globs:=0,loops:=[],regs:=[],plans:=[] }
def Dg0:List Item:=D0 Tryz.f78
theorem Ex1 (C:A8) (R:A9) (f:List Value) (h:H) :
 B9 PR Bn8 C R A37 Tryz.f78 100000 true Dg0 [(0,.agg ⟨f⟩)] h =
 nw (.cells J0 false f) h fun b w=>gInt .i64 (Addr.add ⟨b,0,none⟩ 0) w fun x=>gInt .i64 (Addr.add ⟨b,0,none⟩ 1) w fun x_1=>gInt .i64 (Addr.add ⟨b,0,none⟩ 2) w fun x_2=>gInt .i64 (Addr.add ⟨b,0,none⟩ 3) w fun x_3=>nw (.cells B0 false [.int .u8 (IntKind.wrap .u8 (x)),.int .u8 (IntKind.wrap .u8 (x_1)),.int .u8 (IntKind.wrap .u8 (x_2)),.int .u8 (IntKind.wrap .u8 (x_3)),.int .u8 179]) w fun b_1 w1=>gCells (some ⟨b_1,0,none⟩) 5 w1 fun cs=>asBytes cs fun l=>bnd (C Ag0 [.string (ByteArray.mk ⟨l⟩)] w1) fun r w2=>aInt .u8 r fun x_4=>nw (.cells B0 false [.int .u8 x_4,.int .u8 0,.int .u8 0]) w2 fun b_2 w3=>gCells (some ⟨b_2,0,none⟩) 3 w3 fun cs_1=>asBytes cs_1 fun l_1=>ck (ByteArray.size (ByteArray.mk ⟨l⟩)+ByteArray.size (ByteArray.mk ⟨l_1⟩)≤D3) (some (.string ((ByteArray.mk ⟨l⟩)++(ByteArray.mk ⟨l_1⟩)),w3)):=by kernel_rfl
def B89:Cuts:={ globs:=0,loops:=[(2,[0,6])],regs:=[],plans:=[] }
def D09:List Item:=D0 Tryz.f81
def Bl0:List Item:=stk [0,1,0,0,1,4,5] D09
theorem G71 (C:A8) (R:A9) (c:Option Addr) (h:H) :
 B9 PR B89 C R Ar0 Tryz.f81 100000 true D09 [(0,.pointer c)] h =
 R Ar0 Bl0 [(0,.pointer c),(6,.int .i64 0)] h:=by kernel_rfl
theorem D31 (C:A8) (R:A9) (c:Option Addr) (x6:Int) (h:H) :
 B9 PR B89 C R Ar0 Tryz.f81 100000 true Bl0 [(0,.pointer c),(6,.int .i64 x6)] h =
 cond (decide (x6<8))
 (bnd (C E4 [.pointer c,.int .i64 x6] h) fun r w=>as2 r fun r_1 r_2=>aAgg r_1 fun x=>aInt .i64 r_2 fun x_1=>nw (.cells E1 false [.int .i64 0,.int .i64 0,.int .i64 0,.int .i64 0,.int .i64 0,.int .i64 0,.int .i64 0,.int .i64 0,.int .i64 0,.int .i64 0,.int .i64 0,.int .i64 0,.int .i64 0,.int .i64 0,.int .i64 0,.int .i64 0]) w fun b w1=>ck (List.length x=16) (pAgg ⟨b,0,none⟩ x w1 fun w2=>cond (x_1==0)
 (some (.int .i64 x6,w2))
 (R Ar0 Bl0 [(0,.pointer c),(6,.int .i64 (IntKind.wrap .i64 (x6+1)))] w2)))
 (some (.int .i64 (-1),h)):=by kernel_rfl
def Ae2:Cuts:={ globs:=0,loops:=[],regs:=[(8,[6,8,11,12])],plans:=[(7,⟨[0,1,2,3,4,5,6,7,8,9],[0,1,3,7,0,31,63,31,159,511],[(7,[5])],[]⟩)] }
def Ap6:List Item:=D0 Tryz.f84
def Aj2:List Item:=stk [0,1,0,1,0,1,0,1,0,1,0,1,0,0] Ap6
theorem Dh9 (C:A8) (R:A9) (c:Option Addr) (r:List Value) (decode:Value) (h:H) :
 B9 PR Ae2 C R L8 Tryz.f84 100000 true Ap6 [(0,.pointer c),(1,.agg ⟨r⟩),(2,decode)] h =
 nw (.cells E8 false r) h fun b w=>nw (.cells J0 false [.int .i64 0,.int .i64 0,.int .i64 0,.int .i64 0]) w fun b_1 w1=>nw (.cells J0 false [.int .i64 0,.int .i64 0,.int .i64 0,.int .i64 0]) w1 fun b_2 w2=>gAgg ⟨b,0,none⟩ 2 w2 fun x=>bnd (C O2 [.pointer c,.agg ⟨x⟩] w2) fun r_1 w3=>as2 r_1 fun r_2 r_3=>aSl r_2 fun x_1 xn xc=>aBool r_3 fun x_2=>cond (!x_2)
 (gAgg ⟨b_2,0,none⟩ 4 w3 fun x_3=>ck (List.length x_3=4) (pAgg ⟨b_1,0,none⟩ x_3 w3 fun w4=>gAgg ⟨b_1,0,none⟩ 4 w4 fun x_4=>some (.tuple ⟨[.agg ⟨x_4⟩,.int .i64 2]⟩,w4)))
 (aFn decode fun g fi cp=>bnd (C g (fi++([.slice x_1 xn xc]++cp)) w3) fun r_4 w5=>as2 r_4 fun r_5 r_6=>aAgg r_5 fun x_5=>aInt .i64 r_6 fun x_6=>nw (.cells J0 false [.int .i64 0,.int .i64 0,.int .i64 0,.int .i64 0]) w5 fun b_3 w6=>ck (List.length x_5=4) (pAgg ⟨b_3,0,none⟩ x_5 w6 fun w7=>cond (x_6==2)
 (aSome c fun p=>gMap (Addr.add p 3) w7 fun x_7=>gAgg ⟨b,0,none⟩ 2 w7 fun x_8=>keyN PR E8 (.agg ⟨x_8⟩) (opt x_7 fun r_7=>mapAt w7 r_7 fun es _=>opt (Am0 (.int .i64 0) (.agg ⟨x_8⟩) es) fun f=>aInt .i64 f.1 fun x_9=>keyN PR E8 (.agg ⟨x_8⟩) (opt x_7 fun r_8=>mapAt w7 r_8 fun es_1 cl_1=>opt (D05 (.int .i64 0) (.agg ⟨x_8⟩) es_1 cl_1) fun f_1=>aInt .i64 f_1.1 fun _=>lt (H.set w7 r_8 f_1.2.2) fun w8=>keyN PR E8 (.agg ⟨x_8⟩) (opt x_7 fun r_9=>mapAt w8 r_9 fun es_2 _=>opt (Am0 (.int .i64 0) (.agg ⟨x_8⟩) es_2) fun f_2=>aInt .i64 f_2.1 fun x_11=>same (.int .i64 x_9) (.int .i64 x_11) (opt x_7 fun r_10=>mapAt w8 r_10 fun es_3 cl_3=>opt (Bl7 (f_1.2.1:Int) es_3 0) fun i=>lt (H.set w8 r_10 (.map (modN (fun e=>{ e with val:=.int .i64 (IntKind.wrap .i64 (x_9+1)) }) i es_3) cl_3)) fun w9=>R L8 Aj2 [(6,.pointer (some ⟨b_1,0,none⟩)),(8,.pointer (some ⟨b_2,0,none⟩)),(11,.pointer (some ⟨b_3,0,none⟩)),(12,.int .i64 x_6)] w9)))))
 (R L8 Aj2 [(6,.pointer (some ⟨b_1,0,none⟩)),(8,.pointer (some ⟨b_2,0,none⟩)),(11,.pointer (some ⟨b_3,0,none⟩)),(12,.int .i64 x_6)] w7))):=by kernel_rfl
theorem A58 (C:A8) (R:A9) (x6:Addr) (nonev:Addr) (v:Addr) (isv:Int) (h:H) :
 B9 PR Ae2 C R L8 Tryz.f84 100000 true Aj2 [(6,.pointer (some x6)),(8,.pointer (some nonev)),(11,.pointer (some v)),(12,.int .i64 isv)] h =
 cond (isv != 1)
 (gAgg nonev 4 h fun x=>ck (List.length x=4) (pAgg x6 x h fun w=>gAgg x6 4 w fun x_1=>some (.tuple ⟨[.agg ⟨x_1⟩,.int .i64 isv]⟩,w)))
 (gAgg v 4 h fun x_2=>ck (List.length x_2=4) (pAgg x6 x_2 h fun w1=>gAgg x6 4 w1 fun x_3=>some (.tuple ⟨[.agg ⟨x_3⟩,.int .i64 isv]⟩,w1))):=by kernel_rfl
def B75:Cuts:={ globs:=0,loops:=[],regs:=[],plans:=[] }
def D34:List Item:=D0 Tryz.f85
theorem Gi0 (C:A8) (R:A9) (b:Option Addr) (bn bc:Nat) (h:H) :
 B9 PR B75 C R A56 Tryz.f85 100000 true D34 [(0,.slice b bn bc)] h =
 nw (.cells J0 false [.int .i64 0,.int .i64 0,.int .i64 0,.int .i64 0]) h fun b_1 w=>bnd (cond (((bn:Nat):Int)==8) (bnd (C Am6 [.slice b bn bc] w) fun r w1=>aBool r fun x=>some (x,w1)) (some (false,w))) fun c w2=>cond c
 (pAgg ⟨b_1,0,none⟩ [.int .i64 0,.int .i64 0,.int .i64 0,.int .i64 0] w2 fun w3=>gAgg ⟨b_1,0,none⟩ 4 w3 fun x_1=>some (.tuple ⟨[.agg ⟨x_1⟩,.int .i64 0]⟩,w3))
 (bnd (C Bc1 [] w2) fun r_1 w4=>aPtr r_1 fun x_2=>bnd (C V6 [.pointer x_2,.slice b bn bc] w4) fun r_2 w5=>as2 r_2 fun r_3 r_4=>aAgg r_3 fun x_3=>aBool r_4 fun x_4=>nw (.cells J0 false [.int .i64 0,.int .i64 0,.int .i64 0,.int .i64 0]) w5 fun b_2 w6=>ck (List.length x_3=4) (pAgg ⟨b_2,0,none⟩ x_3 w6 fun w7=>cond (!x_4)
 (pAgg ⟨b_1,0,none⟩ [.int .i64 0,.int .i64 0,.int .i64 0,.int .i64 0] w7 fun w8=>gAgg ⟨b_1,0,none⟩ 4 w8 fun x_5=>some (.tuple ⟨[.agg ⟨x_5⟩,.int .i64 2]⟩,w8))
 (gAgg ⟨b_2,0,none⟩ 4 w7 fun x_6=>ck (List.length x_6=4) (pAgg ⟨b_1,0,none⟩ x_6 w7 fun w9=>gAgg ⟨b_1,0,none⟩ 4 w9 fun x_7=>some (.tuple ⟨[.agg ⟨x_7⟩,.int .i64 1]⟩,w9))))):=by kernel_rfl
def Bx9:Cuts:={ globs:=0,loops:=[(3,[0,1,5,10])],regs:=[],plans:=[] }
def Dq7:List Item:=D0 Tryz.f88
def Ax2:List Item:=stk [0,1,0,1,0,0,1,4,5] Dq7
theorem Gu2 (C:A8) (R:A9) (c:Option Addr) (of:Value) (h:H) :
 B9 PR Bx9 C R Ab0 Tryz.f88 100000 true Dq7 [(0,.pointer c),(1,of)] h =
 R Ab0 Ax2 [(0,.pointer c),(1,of),(5,.slice none 0 0),(10,.int .i64 0)] h:=by kernel_rfl
theorem Du8 (C:A8) (R:A9) (c:Option Addr) (of:Value) (out:Option Addr) (outn outc:Nat) (x10:Int) (h:H) :
 B9 PR Bx9 C R Ab0 Tryz.f88 100000 true Ax2 [(0,.pointer c),(1,of),(5,.slice out outn outc),(10,.int .i64 x10)] h =
 cond (decide (x10<8))
 (bnd (C E4 [.pointer c,.int .i64 x10] h) fun r w=>as2 r fun r_1 r_2=>aAgg r_1 fun x=>aInt .i64 r_2 fun x_1=>nw (.cells E1 false [.int .i64 0,.int .i64 0,.int .i64 0,.int .i64 0,.int .i64 0,.int .i64 0,.int .i64 0,.int .i64 0,.int .i64 0,.int .i64 0,.int .i64 0,.int .i64 0,.int .i64 0,.int .i64 0,.int .i64 0,.int .i64 0]) w fun b w1=>ck (List.length x=16) (pAgg ⟨b,0,none⟩ x w1 fun w2=>gAgg ⟨b,0,none⟩ 16 w2 fun x_2=>ck (List.length x_2=16) (nw (.cells O5 false [.int .i64 0,.int .i64 0,.int .i64 0,.int .i64 0,.int .i64 0,.int .i64 0,.int .i64 0,.int .i64 0,.int .i64 0,.int .i64 0,.int .i64 0,.int .i64 0,.int .i64 0,.int .i64 0,.int .i64 0,.int .i64 0,.int .i64 0]) w2 fun b_1 w3=>ck (List.length (.int .i64 x10::(x_2++[]))=17) (pAgg ⟨b_1,0,none⟩ (.int .i64 x10::(x_2++[])) w3 fun w4=>bnd (cond (x_1==1) (gAgg ⟨b_1,0,none⟩ 17 w4 fun x_3=>aFn of fun g fi cp=>bnd (C g (fi++([.agg ⟨x_3⟩]++cp)) w4) fun r_3 w5=>aBool r_3 fun x_4=>some (x_4,w5)) (some (false,w4))) fun c_1 w6=>cond c_1
 (gAgg ⟨b_1,0,none⟩ 17 w6 fun x_5=>ck (List.length x_5=17) (nw (.cells O5 false (x_5++[])) w6 fun b_2 w7=>gCells (some ⟨b_2,0,none⟩) (1*17) w7 fun cs=>ckB (fitsOpen out O5 w7) (apd O5 17 out outn outc 1 cs w7 fun a an ac w8=>R Ab0 Ax2 [(0,.pointer c),(1,of),(5,.slice a an ac),(10,.int .i64 (IntKind.wrap .i64 (x10+1)))] w8)))
 (R Ab0 Ax2 [(0,.pointer c),(1,of),(5,.slice out outn outc),(10,.int .i64 (IntKind.wrap .i64 (x10+1)))] w6)))))
 (some (.slice out outn outc,h)):=by kernel_rfl
def Bm8:Cuts:={ globs:=0,loops:=[],regs:=[],plans:=[] }
def Dg9:List Item:=D0 Tryz.f90
theorem Ev5 (C:A8) (R:A9) (x:List Value) (h:H) :
 B9 PR Bm8 C R An3 Tryz.f90 100000 true Dg9 [(0,.agg ⟨x⟩)] h =
 nw (.cells O5 false x) h fun b w=>gInt .i64 (Addr.add (Addr.add ⟨b,0,none⟩ 1) 0) w fun x_1=>some (.bool (x_1 != 2),w):=by kernel_rfl
def Eq7:Cuts:={ globs:=0,loops:=[],regs:=[],plans:=[] }
def Gl5:List Item:=D0 Tryz.f113
theorem Hw8 (C:A8) (R:A9) (frames:Int) (h:H) :
 B9 PR Eq7 C R Dt4 Tryz.f113 100000 true Gl5 [(0,.int .i64 frames)] h =
 ck ((0:Int)≤IntKind.wrap .i64 (64*(mm2 false (mm2 true frames 0) 256))∧(IntKind.wrap .i64 (64*(mm2 false (mm2 true frames 0) 256)):Int)≤IntKind.wrap .i64 (64*(mm2 false (mm2 true frames 0) 256))∧IntKind.wrap .i64 (64*(mm2 false (mm2 true frames 0) 256))≤(D3:Int)) (nw (.cells B0 false (I0 (Int.toNat (IntKind.wrap .i64 (64*(mm2 false (mm2 true frames 0) 256)))) [.int .u8 0])) h fun b w=>nw (.cells Ei6 false [.slice (some ⟨b,0,none⟩) (Int.toNat (IntKind.wrap .i64 (64*(mm2 false (mm2 true frames 0) 256)))) (Int.toNat (IntKind.wrap .i64 (64*(mm2 false (mm2 true frames 0) 256))))]) w fun b_1 w1=>some (.pointer (some ⟨b_1,0,none⟩),w1)):=by kernel_rfl
def Ed2:Cuts:={ globs:=0,loops:=[],regs:=[],plans:=[] }
def Gc4:List Item:=D0 Tryz.f117
theorem Hk4 (C:A8) (R:A9) (lease:Int) (h:H) :
 B9 PR Ed2 C R Dh7 Tryz.f117 100000 true Gc4 [(0,.int .i64 lease)] h =
 nw (.cells E06 false [.int .i64 (mm2 false (mm2 true lease 1) 1000),.bool false,.int .i64 0,.int .i64 0,.int .i64 0,.slice none 0 0,.int .i64 0,.int .i64 0,.int .i64 0]) h fun b w=>some (.pointer (some ⟨b,0,none⟩),w):=by kernel_rfl
def A79:Cuts:={ globs:=0,loops:=[],regs:=[],plans:=[] }
def Bz5:List Item:=D0 Tryz.f118
theorem D92 (C:A8) (R:A9) (r:Option Addr) (lo:Int) (n:Int) (h:H) :
 B9 PR A79 C R Ao0 Tryz.f118 100000 true Bz5 [(0,.pointer r),(1,.int .i64 lo),(2,.int .i64 n)] h =
 bnd (cond (decide (lo<0)) (some (true,h)) (some (decide (n<0),h))) fun c w=>bnd (cond c (some (true,w)) (aSome r fun p=>gPtr (Addr.add p 0) w fun x=>bnd (C A52 [.pointer x] w) fun r_1 w1=>aInt .i64 r_1 fun x_1=>some (decide (lo>x_1),w1))) fun c_1 w2=>bnd (cond c_1 (some (true,w2)) (aSome r fun p_1=>gPtr (Addr.add p_1 0) w2 fun x_2=>bnd (C A52 [.pointer x_2] w2) fun r_2 w3=>aInt .i64 r_2 fun x_3=>some (decide (n>(IntKind.wrap .i64 (x_3-lo))),w3))) fun c_2 w4=>cond c_2
 (some (.tuple ⟨[.int .i64 0,.int .i64 1]⟩,w4))
 (aSome r fun p_2=>gSl (Addr.add p_2 2) w4 fun _ xn _=>cond (decide (((xn:Nat):Int)≥32))
 (some (.tuple ⟨[.int .i64 0,.int .i64 4]⟩,w4))
 (aSome r fun p_3=>gSl (Addr.add p_3 2) w4 fun x_5 xn_1 xc_1=>nw (.cells Aw5 false [.int .i64 lo,.int .i64 n]) w4 fun b w5=>gCells (some ⟨b,0,none⟩) (1*2) w5 fun cs=>ckB (fitsOpen x_5 Aw5 w5) (apd Aw5 2 x_5 xn_1 xc_1 1 cs w5 fun a an ac w6=>aSome r fun p_4=>pV (Addr.add p_4 2) (.slice a an ac) w6 fun w7=>aSome r fun p_5=>gSl (Addr.add p_5 2) w7 fun _ xn_2 _=>some (.tuple ⟨[.int .i64 (IntKind.wrap .i64 (((xn_2:Nat):Int)-1)),.int .i64 0]⟩,w7)))):=by kernel_rfl
def Be6:Cuts:={ globs:=0,loops:=[(3,[0,3,4])],regs:=[],plans:=[(5,⟨[0,1,2,3,4,5,6,7,8,9,10],[0,0,2,6,14,0,32,126,255,511,1023],[(5,[4])],[]⟩),(6,⟨[0,1,2,3,4,5,6,7,8,9,10],[0,0,2,6,14,0,32,126,255,511,1023],[],[]⟩)] }
def B11:List Item:=D0 Tryz.f124
def Az8:List Item:=stk [0,1,0,1,0,0,1,4,5] B11
theorem E89 (C:A8) (R:A9) (envs:Int) (h:H) :
 B9 PR Be6 C R Aa5 Tryz.f124 100000 true B11 [(0,.int .i64 envs)] h =
 nw (.cells Ep7 false [.slice none 0 0,.slice none 0 0]) h fun b w=>R Aa5 Az8 [(0,.int .i64 envs),(3,.pointer (some ⟨b,0,none⟩)),(4,.int .i64 0)] w:=by kernel_rfl
theorem Dc3 (C:A8) (R:A9) (envs:Int) (s:Addr) (i:Int) (h:H) :
 B9 PR Be6 C R Aa5 Tryz.f124 100000 true Az8 [(0,.int .i64 envs),(3,.pointer (some s)),(4,.int .i64 i)] h =
 bnd (cond (decide (i<envs)) (some (decide (i<40),h)) (some (false,h))) fun c w=>cond c
 (gSl (Addr.add s 0) w fun x xn xc=>bnd (C Z8 [.int .i64 32] w) fun r w1=>aPtr r fun x_1=>gSl (Addr.add s 0) w1 fun x_2 xn_1 xc_1=>same (.slice x xn xc) (.slice x_2 xn_1 xc_1) (nw (.cells A67 false [.pointer x_1]) w1 fun b w2=>gCells (some ⟨b,0,none⟩) (1*1) w2 fun cs=>ckB (fitsOpen x A67 w2) (apd A67 1 x xn xc 1 cs w2 fun a an ac w3=>pV (Addr.add s 0) (.slice a an ac) w3 fun w4=>gSl (Addr.add s 1) w4 fun x_3 xn_2 xc_2=>ck ((0:Int)≤32∧(32:Int)≤32∧32≤(D3:Int)) (nw (.cells P7 false (I0 (Int.toNat 32) [.int .i64 0,.int .i64 0,.int .i64 0,.int .i64 0,.int .i64 0,.int .i64 0])) w4 fun b_1 w5=>nw (.cells Bq2 false [.slice (some ⟨b_1,0,none⟩) (Int.toNat 32) (Int.toNat 32)]) w5 fun b_2 w6=>gCells (some ⟨b_2,0,none⟩) (1*1) w6 fun cs_1=>ckB (fitsOpen x_3 Bq2 w6) (apd Bq2 1 x_3 xn_2 xc_2 1 cs_1 w6 fun a_1 an_1 ac_1 w7=>pV (Addr.add s 1) (.slice a_1 an_1 ac_1) w7 fun w8=>R Aa5 Az8 [(0,.int .i64 envs),(3,.pointer (some s)),(4,.int .i64 (IntKind.wrap .i64 (i+1)))] w8)))))
 (some (.pointer (some s),w)):=by kernel_rfl
def B65:Cuts:={ globs:=0,loops:=[],regs:=[],plans:=[] }
def D15:List Item:=D0 Tryz.f125
theorem Gi5 (C:A8) (R:A9) (lease:Int) (h:H) :
 B9 PR B65 C R Bj9 Tryz.f125 100000 true D15 [(0,.int .i64 lease)] h =
 nw (.cells Ez6 false [.int .i64 (mm2 false (mm2 true lease 1) 1000),.int .i64 0,.int .i64 0,.int .i64 0,.int .i64 0,.int .i64 0,.bool false,.int .i64 0,.slice none 0 0]) h fun b w=>some (.pointer (some ⟨b,0,none⟩),w):=by kernel_rfl
def Du3:Cuts:={ globs:=0,loops:=[(2,[0,1,5])],regs:=[],plans:=[] }
def El9:List Item:=D0 Tryz.f127
def Bz7:List Item:=stk [0,1,0,0,1,4,5] El9
theorem Hw5 (C:A8) (R:A9) (l:Option Addr) (ln lc:Nat) (s:Int) (h:H) :
 B9 PR Du3 C R A71 Tryz.f127 100000 true El9 [(0,.slice l ln lc),(1,.int .i64 s)] h =
 R A71 Bz7 [(0,.slice l ln lc),(1,.int .i64 s),(5,.int .i64 0)] h:=by kernel_rfl
theorem Ep8 (C:A8) (R:A9) (l:Option Addr) (ln lc:Nat) (s:Int) (i:Int) (h:H) :
 B9 PR Du3 C R A71 Tryz.f127 100000 true Bz7 [(0,.slice l ln lc),(1,.int .i64 s),(5,.int .i64 i)] h =
 cond (decide (i<((ln:Nat):Int)))
 (aSome l fun p=>ck ((0:Int)≤i∧i<((ln:Nat):Int)) (gInt .i64 (Addr.add (D5 p) (Int.toNat i*1)) h fun x=>cond (x==s)
 (some (.bool true,h))
 (R A71 Bz7 [(0,.slice l ln lc),(1,.int .i64 s),(5,.int .i64 (IntKind.wrap .i64 (i+1)))] h)))
 (some (.bool false,h)):=by kernel_rfl
def Dr0:Cuts:={ globs:=0,loops:=[],regs:=[],plans:=[] }
def Ek4:List Item:=D0 Tryz.f143
theorem Gv2 (C:A8) (R:A9)  (h:H) :
 B9 PR Dr0 C R Bg8 Tryz.f143 100000 true Ek4 [] h =
 bnd (C An9 [.int .i64 40,.func (.func Bl4) ⟨[]⟩ ⟨[]⟩,.func (.func Bk9) ⟨[]⟩ ⟨[]⟩] h) fun r w=>aPtr r fun x=>some (.pointer x,w):=by kernel_rfl
def Ah3:Cuts:={ globs:=0,loops:=[],regs:=[],plans:=[(4,⟨[0,1,2,3,4,10,5,6,7,8,9,11,12],[0,1,3,7,0,16,63,127,255,255,0,1535,4095],[(5,[3])],[]⟩)] }
def A26:List Item:=D0 Tryz.f148
theorem B43 (C:A8) (R:A9) (c:Option Addr) (b:Option Addr) (bn bc:Nat) (h:H) :
 B9 PR Ah3 C R V8 Tryz.f148 100000 true A26 [(0,.pointer c),(1,.slice b bn bc)] h =
 nw (.cells I9 false [.int .i64 0,.int .i64 0,.int .i64 0,.int .i64 0,.int .u8 0,.int .u8 0,.int .u8 0,.int .u8 0,.int .u8 0,.int .u8 0,.int .u8 0,.int .u8 0,.int .u8 0,.int .u8 0,.int .u8 0,.int .u8 0,.int .u8 0,.int .u8 0,.int .u8 0,.int .u8 0,.int .u8 0,.int .u8 0,.int .u8 0,.int .u8 0,.int .u8 0,.int .u8 0,.int .u8 0,.int .u8 0,.int .u8 0,.int .u8 0,.int .u8 0,.int .u8 0,.int .u8 0,.int .u8 0,.int .u8 0,.int .u8 0]) h fun b_1 w=>nw (.cells I9 false [.int .i64 0,.int .i64 0,.int .i64 0,.int .i64 0,.int .u8 0,.int .u8 0,.int .u8 0,.int .u8 0,.int .u8 0,.int .u8 0,.int .u8 0,.int .u8 0,.int .u8 0,.int .u8 0,.int .u8 0,.int .u8 0,.int .u8 0,.int .u8 0,.int .u8 0,.int .u8 0,.int .u8 0,.int .u8 0,.int .u8 0,.int .u8 0,.int .u8 0,.int .u8 0,.int .u8 0,.int .u8 0,.int .u8 0,.int .u8 0,.int .u8 0,.int .u8 0,.int .u8 0,.int .u8 0,.int .u8 0,.int .u8 0]) w fun b_2 w1=>aSome c fun p=>gFv (Addr.add p 2) w1 fun x=>isNilF x fun b_3=>bnd (cond b_3 (some (true,w1)) (aSome c fun p_1=>gInt .i64 (Addr.add p_1 0) w1 fun x_1=>some (((bn:Nat):Int) != x_1,w1))) fun c_1 w2=>cond c_1
 (gAgg ⟨b_2,0,none⟩ 36 w2 fun x_2=>ck (List.length x_2=36) (pAgg ⟨b_1,0,none⟩ x_2 w2 fun w3=>gAgg ⟨b_1,0,none⟩ 36 w3 fun x_3=>some (.tuple ⟨[.agg ⟨x_3⟩,.bool false]⟩,w3)))
 (aSome c fun p_2=>gFv (Addr.add p_2 2) w2 fun x_4=>nw (.cells I9 false [.int .i64 0,.int .i64 0,.int .i64 0,.int .i64 0,.int .u8 0,.int .u8 0,.int .u8 0,.int .u8 0,.int .u8 0,.int .u8 0,.int .u8 0,.int .u8 0,.int .u8 0,.int .u8 0,.int .u8 0,.int .u8 0,.int .u8 0,.int .u8 0,.int .u8 0,.int .u8 0,.int .u8 0,.int .u8 0,.int .u8 0,.int .u8 0,.int .u8 0,.int .u8 0,.int .u8 0,.int .u8 0,.int .u8 0,.int .u8 0,.int .u8 0,.int .u8 0,.int .u8 0,.int .u8 0,.int .u8 0,.int .u8 0]) w2 fun b_4 w4=>bnd (C H1 [.slice b bn bc] w4) fun r w5=>aSl r fun x_5 xn xc=>gFv (Addr.add p_2 2) w5 fun x_6=>Bj5 (x_4) (x_6) (aFn x_4 fun g fi cp=>bnd (C g (fi++([.slice x_5 xn xc]++cp)) w5) fun r_1 w6=>as2 r_1 fun r_2 r_3=>aAgg r_2 fun x_7=>aBool r_3 fun x_8=>ck (List.length x_7=36) (pAgg ⟨b_4,0,none⟩ x_7 w6 fun w7=>cond (!x_8)
 (gAgg ⟨b_2,0,none⟩ 36 w7 fun x_9=>ck (List.length x_9=36) (pAgg ⟨b_1,0,none⟩ x_9 w7 fun w8=>gAgg ⟨b_1,0,none⟩ 36 w8 fun x_10=>some (.tuple ⟨[.agg ⟨x_10⟩,.bool false]⟩,w8)))
 (gAgg ⟨b_4,0,none⟩ 36 w7 fun x_11=>ck (List.length x_11=36) (pAgg ⟨b_1,0,none⟩ x_11 w7 fun w9=>gAgg ⟨b_1,0,none⟩ 36 w9 fun x_12=>some (.tuple ⟨[.agg ⟨x_12⟩,.bool true]⟩,w9)))))):=by kernel_rfl
def A54:Cuts:={ globs:=0,loops:=[],regs:=[],plans:=[] }
def Bx0:List Item:=D0 Tryz.f151
theorem D47 (C:A8) (R:A9) (r:Option Addr) (env:Int) (fromv:Int) (atv:Int) (to:Int) (on:Int) (n:Int) (h:H) :
 B9 PR A54 C R Al9 Tryz.f151 100000 true Bx0 [(0,.pointer r),(1,.int .i64 env),(2,.int .i64 fromv),(3,.int .i64 atv),(4,.int .i64 to),(5,.int .i64 on),(6,.int .i64 n)] h =
 bnd (C Ad0 [.pointer r,.int .i64 env,.int .i64 fromv,.int .i64 atv,.int .i64 n] h) fun r_1 w=>as2 r_1 fun r_2 r_3=>aSl r_2 fun x xn xc=>aInt .i64 r_3 fun x_1=>cond (x_1 != 0)
 (some (.int .i64 x_1,w))
 (bnd (C Ab4 [.pointer r,.int .i64 env,.int .i64 to,.int .i64 on,.slice x xn xc] w) fun r_4 w1=>aInt .i64 r_4 fun x_2=>some (.int .i64 x_2,w1)):=by kernel_rfl
def Bh4:Cuts:={ globs:=0,loops:=[],regs:=[],plans:=[] }
def Dd2:List Item:=D0 Tryz.f152
theorem Ek1 (C:A8) (R:A9) (s:Option Addr) (env:Int) (name:Int) (to:Int) (give:Int) (lo:Int) (n:Int) (h:H) :
 B9 PR Bh4 C R Ay1 Tryz.f152 100000 true Dd2 [(0,.pointer s),(1,.int .i64 env),(2,.int .i64 name),(3,.int .i64 to),(4,.int .i64 give),(5,.int .i64 lo),(6,.int .i64 n)] h =
 bnd (C Au5 [.pointer s,.int .i64 env,.int .i64 name] h) fun r w=>as2 r fun r_1 r_2=>aAgg r_1 fun x=>aInt .i64 r_2 fun x_1=>nw (.cells P7 false [.int .i64 0,.int .i64 0,.int .i64 0,.int .i64 0,.int .i64 0,.int .i64 0]) w fun b w1=>ck (List.length x=6) (pAgg ⟨b,0,none⟩ x w1 fun w2=>cond (x_1 != 0)
 (some (.tuple ⟨[.int .i64 0,.int .i64 x_1]⟩,w2))
 (gInt .i64 (Addr.add ⟨b,0,none⟩ 1) w2 fun x_2=>bnd (cond ((S4 .i64 x_2 4)==0) (some (true,w2)) (gInt .i64 (Addr.add ⟨b,0,none⟩ 1) w2 fun x_3=>some ((Ep6 .i64 give x_3) != 0,w2))) fun c w3=>cond c
 (some (.tuple ⟨[.int .i64 0,.int .i64 3]⟩,w3))
 (bnd (C Af5 [.pointer s,.int .i64 to] w3) fun r_3 w4=>aBool r_3 fun x_4=>bnd (cond (!x_4) (some (true,w4)) (some (decide (lo<0),w4))) fun c_1 w5=>bnd (cond c_1 (some (true,w5)) (some (decide (n<0),w5))) fun c_2 w6=>bnd (cond c_2 (some (true,w6)) (gInt .i64 (Addr.add ⟨b,0,none⟩ 3) w6 fun x_5=>some (decide (lo>x_5),w6))) fun c_3 w7=>bnd (cond c_3 (some (true,w7)) (gInt .i64 (Addr.add ⟨b,0,none⟩ 3) w7 fun x_6=>some (decide (n>(IntKind.wrap .i64 (x_6-lo))),w7))) fun c_4 w8=>cond c_4
 (some (.tuple ⟨[.int .i64 0,.int .i64 1]⟩,w8))
 (gInt .i64 (Addr.add ⟨b,0,none⟩ 0) w8 fun x_7=>gInt .i64 (Addr.add ⟨b,0,none⟩ 2) w8 fun x_8=>bnd (C Au1 [.pointer s,.int .i64 to,.agg ⟨[.int .i64 x_7,.int .i64 give,.int .i64 (IntKind.wrap .i64 (x_8+lo)),.int .i64 n,.int .i64 env,.int .i64 name]⟩] w8) fun r_4 w9=>as2 r_4 fun r_5 r_6=>aInt .i64 r_5 fun x_9=>aInt .i64 r_6 fun x_10=>some (.tuple ⟨[.int .i64 x_9,.int .i64 x_10]⟩,w9))))):=by kernel_rfl
def Ah8:Cuts:={ globs:=0,loops:=[],regs:=[],plans:=[(2,⟨[0,1,2,3,4,5,6,7,8,9,10,11,12,13,14],[0,1,3,7,15,31,63,127,255,511,63,63,4095,8191,16383],[],[]⟩)] }
def A25:List Item:=D0 Tryz.f160
theorem B44 (C:A8) (R:A9) (c:Option Addr) (v:List Value) (h:H) :
 B9 PR Ah8 C R V9 Tryz.f160 100000 true A25 [(0,.pointer c),(1,.agg ⟨v⟩)] h =
 nw (.cells E1 false v) h fun b w=>aSome c fun p=>gInt .i64 (Addr.add p 0) w fun x=>ck ((0:Int)≤x∧(x:Int)≤x∧x≤(D3:Int)) (nw (.cells B0 false (I0 (Int.toNat x) [.int .u8 0])) w fun b_1 w1=>aSome c fun p_1=>gFv (Addr.add p_1 1) w1 fun x_1=>isNilF x_1 fun b_2=>bnd (cond b_2 (some (true,w1)) (aSome c fun p_2=>gFv (Addr.add p_2 1) w1 fun x_2=>gAgg ⟨b,0,none⟩ 16 w1 fun x_3=>aFn x_2 fun g fi cp=>bnd (C g (fi++([.agg ⟨x_3⟩,.slice (some ⟨b_1,0,none⟩) (Int.toNat x) (Int.toNat x)]++cp)) w1) fun r w2=>aBool r fun x_4=>some (!x_4,w2))) fun c_1 w3=>cond c_1
 (some (.tuple ⟨[.slice none 0 0,.bool false]⟩,w3))
 (some (.tuple ⟨[.slice (some ⟨b_1,0,none⟩) (Int.toNat x) (Int.toNat x),.bool true]⟩,w3))):=by kernel_rfl
def Ah2:Cuts:={ globs:=0,loops:=[],regs:=[],plans:=[(4,⟨[0,1,2,3,4,10,5,6,7,8,9,11,12],[0,1,3,7,0,16,63,127,255,255,0,1535,4095],[(5,[3])],[]⟩)] }
def A20:List Item:=D0 Tryz.f166
theorem B37 (C:A8) (R:A9) (c:Option Addr) (b:Option Addr) (bn bc:Nat) (h:H) :
 B9 PR Ah2 C R V6 Tryz.f166 100000 true A20 [(0,.pointer c),(1,.slice b bn bc)] h =
 nw (.cells J0 false [.int .i64 0,.int .i64 0,.int .i64 0,.int .i64 0]) h fun b_1 w=>nw (.cells J0 false [.int .i64 0,.int .i64 0,.int .i64 0,.int .i64 0]) w fun b_2 w1=>aSome c fun p=>gFv (Addr.add p 2) w1 fun x=>isNilF x fun b_3=>bnd (cond b_3 (some (true,w1)) (aSome c fun p_1=>gInt .i64 (Addr.add p_1 0) w1 fun x_1=>some (((bn:Nat):Int) != x_1,w1))) fun c_1 w2=>cond c_1
 (gAgg ⟨b_2,0,none⟩ 4 w2 fun x_2=>ck (List.length x_2=4) (pAgg ⟨b_1,0,none⟩ x_2 w2 fun w3=>gAgg ⟨b_1,0,none⟩ 4 w3 fun x_3=>some (.tuple ⟨[.agg ⟨x_3⟩,.bool false]⟩,w3)))
 (aSome c fun p_2=>gFv (Addr.add p_2 2) w2 fun x_4=>nw (.cells J0 false [.int .i64 0,.int .i64 0,.int .i64 0,.int .i64 0]) w2 fun b_4 w4=>bnd (C H1 [.slice b bn bc] w4) fun r w5=>aSl r fun x_5 xn xc=>gFv (Addr.add p_2 2) w5 fun x_6=>Bj5 (x_4) (x_6) (aFn x_4 fun g fi cp=>bnd (C g (fi++([.slice x_5 xn xc]++cp)) w5) fun r_1 w6=>as2 r_1 fun r_2 r_3=>aAgg r_2 fun x_7=>aBool r_3 fun x_8=>ck (List.length x_7=4) (pAgg ⟨b_4,0,none⟩ x_7 w6 fun w7=>cond (!x_8)
 (gAgg ⟨b_2,0,none⟩ 4 w7 fun x_9=>ck (List.length x_9=4) (pAgg ⟨b_1,0,none⟩ x_9 w7 fun w8=>gAgg ⟨b_1,0,none⟩ 4 w8 fun x_10=>some (.tuple ⟨[.agg ⟨x_10⟩,.bool false]⟩,w8)))
 (gAgg ⟨b_4,0,none⟩ 4 w7 fun x_11=>ck (List.length x_11=4) (pAgg ⟨b_1,0,none⟩ x_11 w7 fun w9=>gAgg ⟨b_1,0,none⟩ 4 w9 fun x_12=>some (.tuple ⟨[.agg ⟨x_12⟩,.bool true]⟩,w9)))))):=by kernel_rfl
def Am5:Cuts:={ globs:=0,loops:=[],regs:=[],plans:=[] }
def Bc0:List Item:=D0 Tryz.f172
theorem Dd7 (C:A8) (R:A9) (c:Option Addr) (i:Int) (h:H) :
 B9 PR Am5 C R Ac2 Tryz.f172 100000 true Bc0 [(0,.pointer c),(1,.int .i64 i)] h =
 bnd (C As7 [.int .i64 i] h) fun r w=>aAgg r fun x=>bnd (C Q7 [.pointer c,.agg ⟨x⟩] w) fun r_1 w1=>aBool r_1 fun x_1=>some (.bool x_1,w1):=by kernel_rfl
def Dq3:Cuts:={ globs:=0,loops:=[],regs:=[],plans:=[] }
def Eo3:List Item:=D0 Tryz.f176
theorem Gw9 (C:A8) (R:A9) (c:List Value) (x:List Value) (h:H) :
 B9 PR Dq3 C R Bx5 Tryz.f176 100000 true Eo3 [(0,.agg ⟨c⟩),(1,.agg ⟨x⟩)] h =
 nw (.cells E9 false c) h fun b w=>nw (.cells J4 false x) w fun b_1 w1=>gInt .i64 (Addr.add ⟨b_1,0,none⟩ 0) w1 fun x_1=>bnd (cond (decide (x_1<0)) (some (true,w1)) (gInt .i64 (Addr.add ⟨b_1,0,none⟩ 0) w1 fun x_2=>gSl (Addr.add ⟨b,0,none⟩ 0) w1 fun _ xn _=>some (decide (x_2≥((xn:Nat):Int)),w1))) fun c_1 w2=>bnd (cond c_1 (some (true,w2)) (gInt .i64 (Addr.add ⟨b_1,0,none⟩ 1) w2 fun x_4=>some (decide (x_4<0),w2))) fun c_2 w3=>bnd (cond c_2 (some (true,w3)) (gInt .i64 (Addr.add ⟨b_1,0,none⟩ 2) w3 fun x_5=>some (decide (x_5<0),w3))) fun c_3 w4=>bnd (cond c_3 (some (true,w4)) (gInt .i64 (Addr.add ⟨b_1,0,none⟩ 3) w4 fun x_6=>some (decide (x_6<0),w4))) fun c_4 w5=>cond c_4
 (some (.bool false,w5))
 (gSl (Addr.add ⟨b,0,none⟩ 0) w5 fun x_7 xn_1 _=>gInt .i64 (Addr.add ⟨b_1,0,none⟩ 0) w5 fun x_8=>aSome x_7 fun p=>ck ((0:Int)≤x_8∧x_8<((xn_1:Nat):Int)) (gInt .i64 (Addr.add (D5 p) (Int.toNat x_8*1)) w5 fun x_9=>bnd (C Bb9 [.int .i64 x_9] w5) fun r w6=>aInt .i64 r fun x_10=>gInt .i64 (Addr.add ⟨b_1,0,none⟩ 1) w6 fun x_11=>cond (decide (x_11>x_10))
 (some (.bool false,w6))
 (gInt .i64 (Addr.add ⟨b_1,0,none⟩ 1) w6 fun x_12=>gInt .i64 (Addr.add ⟨b_1,0,none⟩ 2) w6 fun x_13=>bnd (cond (decide (x_13≤(IntKind.wrap .i64 ((IntKind.wrap .i64 (x_10-x_12))*64)))) (gInt .i64 (Addr.add ⟨b_1,0,none⟩ 3) w6 fun x_14=>gInt .i64 (Addr.add ⟨b_1,0,none⟩ 2) w6 fun x_15=>some (decide (x_14≤(IntKind.wrap .i64 ((IntKind.wrap .i64 ((IntKind.wrap .i64 (x_10-x_12))*64))-x_15))),w6)) (some (false,w6))) fun c_5 w7=>some (.bool c_5,w7)))):=by kernel_rfl
def Au8:Cuts:={ globs:=0,loops:=[(3,[3,15,16])],regs:=[],plans:=[] }
def Bd7:List Item:=D0 Tryz.f177
def Ak3:List Item:=stk [0,1,0,1,0,0,1,4,5] Bd7
theorem Eg6 (C:A8) (R:A9) (size:Int) (h:H) :
 B9 PR Au8 C R P5 Tryz.f177 100000 true Bd7 [(0,.int .i64 size)] h =
 ck ((0:Int)≤mm2 false (mm2 true size 0) 256∧(mm2 false (mm2 true size 0) 256:Int)≤mm2 false (mm2 true size 0) 256∧mm2 false (mm2 true size 0) 256≤(D3:Int)) (nw (.cells Al7 false (I0 (Int.toNat (mm2 false (mm2 true size 0) 256)) [.int .i64 0,.int .i64 0,.int .i64 0,.int .i64 0,.int .i64 0,.int .i64 0,.int .i64 0,.bool false])) h fun b w=>nw (.cells Bw7 false [.slice (some ⟨b,0,none⟩) (Int.toNat (mm2 false (mm2 true size 0) 256)) (Int.toNat (mm2 false (mm2 true size 0) 256))]) w fun b_1 w1=>gSl (Addr.add ⟨b_1,0,none⟩ 0) w1 fun _ xn _=>R P5 Ak3 [(3,.pointer (some ⟨b_1,0,none⟩)),(15,.int .i64 ((xn:Nat):Int)),(16,.int .i64 0)] w1):=by kernel_rfl
theorem Bo3 (C:A8) (R:A9) (t:Addr) (x15:Int) (x16:Int) (h:H) :
 B9 PR Au8 C R P5 Tryz.f177 100000 true Ak3 [(3,.pointer (some t)),(15,.int .i64 x15),(16,.int .i64 x16)] h =
 cond (decide (x16<x15))
 (gSl (Addr.add t 0) h fun x xn _=>aSome x fun p=>ck ((0:Int)≤x16∧x16<((xn:Nat):Int)) (pV (Addr.add (Addr.add (D5 p) (Int.toNat x16*8)) 6) (.int .i64 1) h fun w=>R P5 Ak3 [(3,.pointer (some t)),(15,.int .i64 x15),(16,.int .i64 (IntKind.wrap .i64 (x16+1)))] w))
 (some (.pointer (some t),h)):=by kernel_rfl
def Df6:Cuts:={ globs:=0,loops:=[],regs:=[],plans:=[] }
def Ef0:List Item:=D0 Tryz.f183
theorem Gp7 (C:A8) (R:A9) (atv:Int) (n:Int) (size:Int) (h:H) :
 B9 PR Df6 C R Ag7 Tryz.f183 100000 true Ef0 [(0,.int .i64 atv),(1,.int .i64 n),(2,.int .i64 size)] h =
 bnd (cond (decide (atv≥0)) (some (decide (n≥0),h)) (some (false,h))) fun c w=>bnd (cond c (some (decide (atv≤size),w)) (some (false,w))) fun c_1 w1=>bnd (cond c_1 (some (decide (n≤(IntKind.wrap .i64 (size-atv))),w1)) (some (false,w1))) fun c_2 w2=>some (.bool c_2,w2):=by kernel_rfl
def Am7:Cuts:={ globs:=0,loops:=[],regs:=[],plans:=[] }
def Bb5:List Item:=D0 Tryz.f195
theorem Df3 (C:A8) (R:A9) (t:Option Addr) (i:Int) (h:H) :
 B9 PR Am7 C R N9 Tryz.f195 100000 true Bb5 [(0,.pointer t),(1,.int .i64 i)] h =
 aSome t fun p=>gSl (Addr.add p 0) h fun x xn _=>aSome x fun p_1=>ck ((0:Int)≤i∧i<((xn:Nat):Int)) (gInt .i64 (Addr.add (Addr.add (D5 p_1) (Int.toNat i*8)) 6) h fun x_1=>some (.int .i64 (IntKind.wrap .i64 (i+(IntKind.wrap .i64 (256*x_1)))),h)):=by kernel_rfl
def Ec6:Cuts:={ globs:=0,loops:=[],regs:=[],plans:=[(5,⟨[0,1,2,3,4],[0,1,0,4,15],[],[]⟩)] }
def Gd8:List Item:=D0 Tryz.f197
theorem Hn8 (C:A8) (R:A9) (p:List Value) (b:Option Addr) (bn bc:Nat) (h:H) :
 B9 PR Ec6 C R Bl4 Tryz.f197 100000 true Gd8 [(0,.agg ⟨p⟩),(1,.slice b bn bc)] h =
 nw (.cells I9 false p) h fun b_1 w=>gAgg ⟨b_1,0,none⟩ 36 w fun x=>bnd (C Dt7 [.agg ⟨x⟩] w) fun r w1=>aBool r fun x_1=>cond (!x_1)
 (some (.bool false,w1))
 (gInt .i64 (Addr.add ⟨b_1,0,none⟩ 0) w1 fun x_2=>gInt .i64 (Addr.add ⟨b_1,0,none⟩ 1) w1 fun x_3=>gInt .i64 (Addr.add ⟨b_1,0,none⟩ 2) w1 fun x_4=>gInt .i64 (Addr.add ⟨b_1,0,none⟩ 3) w1 fun x_5=>nw (.cells B0 false [.int .u8 1,.int .u8 (IntKind.wrap .u8 (x_2)),.int .u8 (IntKind.wrap .u8 (x_3)),.int .u8 (IntKind.wrap .u8 (x_4)),.int .u8 (IntKind.wrap .u8 (x_5)),.int .u8 197]) w1 fun b_2 w2=>gCells (some ⟨b_2,0,none⟩) (min 6 bn*1) w2 fun cs=>pCells b cs w2 fun w3=>ckB (fitsOpen b B0 w3) (ck ((0:Int)≤6∧6≤((bc:Nat):Int)) (bnd (C Ab1 [.slice (I4 b (decide (0<bc)) (0*1)) ((Int.toNat 6)-0) (bc-0)] w3) fun r_1 w4=>aInt .u8 r_1 fun x_6=>aSome b fun p_1=>ck ((0:Int)≤6∧6<((bn:Nat):Int)) (pV (Addr.add (D5 p_1) (Int.toNat 6*1)) (.int .u8 x_6) w4 fun w5=>ckB (fitsOpen b B0 w5) (ck ((0:Int)≤8∧8≤((bn:Nat):Int)) (ckB (liveA (Addr.add ⟨b_1,0,none⟩ 4) w5) (gCells (I4 (some (Addr.add ⟨b_1,0,none⟩ 4)) (decide (0<32)) (0*1)) (min (32-0) (bn-(Int.toNat 8))*1) w5 fun cs_1=>pCells (I4 b (decide (Int.toNat 8<bc)) ((Int.toNat 8)*1)) cs_1 w5 fun w6=>some (.bool true,w6)))))))):=by kernel_rfl
def Ab9:Cuts:={ globs:=0,loops:=[],regs:=[],plans:=[] }
def As0:List Item:=D0 Tryz.f199
theorem Bq0 (C:A8) (R:A9) (s:Option Addr) (sn sc:Nat) (f:Value) (h:H) :
 B9 PR Ab9 C R Q1 Tryz.f199 100000 true As0 [(0,.slice s sn sc),(1,f)] h =
 bnd (C G6 [.slice s sn sc,f] h) fun r w=>aInt .i64 r fun x=>some (.bool (decide (x≥0)),w):=by kernel_rfl
def Bm4:Cuts:={ globs:=0,loops:=[],regs:=[],plans:=[] }
def Dh1:List Item:=D0 Tryz.f210
theorem Ew6 (C:A8) (R:A9) (s:Option Addr) (who:Int) (stamp:Int) (h:H) :
 B9 PR Bm4 C R A30 Tryz.f210 100000 true Dh1 [(0,.pointer s),(1,.int .i64 who),(2,.int .i64 stamp)] h =
 bnd (C A33 [.pointer s,.int .i64 who,.int .i64 stamp] h) fun r w=>aBool r fun x=>cond (!x)
 (some (.bool false,w))
 (aSome s fun p=>pV (Addr.add p 1) (.bool false) w fun w1=>aSome s fun p_1=>gInt .i64 (Addr.add p_1 7) w1 fun x_1=>aSome s fun p_2=>pV (Addr.add p_2 6) (.int .i64 x_1) w1 fun w2=>some (.bool true,w2)):=by kernel_rfl
def Bq4:Cuts:={ globs:=0,loops:=[(3,[0,2,4,31,32,33]),(8,[0,2,4,49])],regs:=[],plans:=[(1,⟨[0,1,2,3,4,5,6,7,8,9,10,11,12,13,14,15,16,17,18],[0,1,3,7,0,16,48,112,0,256,768,1792,0,4096,12288,28672,65535,0,262143],[],[]⟩),(13,⟨[0,1,2,3,4,5,6,7,8],[0,0,2,6,6,30,62,63,255],[(5,[0])],[]⟩)] }
def B99:List Item:=D0 Tryz.f213
def B72:List Item:=stk [0,1,0,1,0,0,1,4,5] B99
def B79:List Item:=stk [0,1,0,1,0,1,0,0,1,4,5] B99
theorem G77 (C:A8) (R:A9) (b:Option Addr) (bn bc:Nat) (h:H) :
 B9 PR Bq4 C R W7 Tryz.f213 100000 true B99 [(0,.slice b bn bc)] h =
 nw (.cells E1 false [.int .i64 0,.int .i64 0,.int .i64 0,.int .i64 0,.int .i64 0,.int .i64 0,.int .i64 0,.int .i64 0,.int .i64 0,.int .i64 0,.int .i64 0,.int .i64 0,.int .i64 0,.int .i64 0,.int .i64 0,.int .i64 0]) h fun b_1 w=>aSome b fun p=>ck ((0:Int)≤0∧0<((bn:Nat):Int)) (gInt .u8 (Addr.add (D5 p) (Int.toNat 0*1)) w fun x=>aSome b fun p_1=>ck ((0:Int)≤1∧1<((bn:Nat):Int)) (gInt .u8 (Addr.add (D5 p_1) (Int.toNat 1*1)) w fun x_1=>aSome b fun p_2=>ck ((0:Int)≤2∧2<((bn:Nat):Int)) (gInt .u8 (Addr.add (D5 p_2) (Int.toNat 2*1)) w fun x_2=>aSome b fun p_3=>ck ((0:Int)≤3∧3<((bn:Nat):Int)) (gInt .u8 (Addr.add (D5 p_3) (Int.toNat 3*1)) w fun x_3=>nw (.cells E1 false [.int .i64 0,.int .i64 0,.int .i64 0,.int .i64 0,.int .i64 0,.int .i64 0,.int .i64 0,.int .i64 0,.int .i64 0,.int .i64 0,.int .i64 0,.int .i64 0,.int .i64 0,.int .i64 0,.int .i64 0,.int .i64 0]) w fun b_2 w1=>pAgg ⟨b_2,0,none⟩ [.int .i64 (IntKind.wrap .i64 (x)),.int .i64 (IntKind.wrap .i64 (x_1)),.int .i64 (IntKind.wrap .i64 (x_2)),.int .i64 (IntKind.wrap .i64 (x_3)),.int .i64 0,.int .i64 0,.int .i64 0,.int .i64 0,.int .i64 0,.int .i64 0,.int .i64 0,.int .i64 0,.int .i64 0,.int .i64 0,.int .i64 0,.int .i64 0] w1 fun w2=>nw (.cells H73 false [.pointer (some (Addr.add ⟨b_2,0,none⟩ 4)),.pointer (some (Addr.add ⟨b_2,0,none⟩ 5)),.pointer (some (Addr.add ⟨b_2,0,none⟩ 6)),.pointer (some (Addr.add ⟨b_2,0,none⟩ 7))]) w2 fun b_3 w3=>R W7 B72 [(0,.slice b bn bc),(2,.pointer (some ⟨b_1,0,none⟩)),(4,.pointer (some ⟨b_2,0,none⟩)),(31,.slice (some ⟨b_3,0,none⟩) 4 4),(32,.int .i64 4),(33,.int .i64 0)] w3)))):=by kernel_rfl
theorem A51 (C:A8) (R:A9) (b:Option Addr) (bn bc:Nat) (x2:Addr) (p:Addr) (x31:Option Addr) (x31n x31c:Nat) (x32:Int) (x33:Int) (h:H) :
 B9 PR Bq4 C R W7 Tryz.f213 100000 true B72 [(0,.slice b bn bc),(2,.pointer (some x2)),(4,.pointer (some p)),(31,.slice x31 x31n x31c),(32,.int .i64 x32),(33,.int .i64 x33)] h =
 cond (decide (x33<x32))
 (aSome x31 fun p_1=>ck ((0:Int)≤x33∧x33<((x31n:Nat):Int)) (gPtr (Addr.add (D5 p_1) (Int.toNat x33*1)) h fun x=>bnd (C Bx4 [.slice b bn bc,.int .i64 (IntKind.wrap .i64 (4+(IntKind.wrap .i64 (2*x33))))] h) fun r w=>as2 r fun r_1 r_2=>aInt .i64 r_1 fun x_1=>aBool r_2 fun _=>aSome x fun p_2=>pV p_2 (.int .i64 x_1) w fun w1=>R W7 B72 [(0,.slice b bn bc),(2,.pointer (some x2)),(4,.pointer (some p)),(31,.slice x31 x31n x31c),(32,.int .i64 x32),(33,.int .i64 (IntKind.wrap .i64 (x33+1)))] w1))
 (R W7 B79 [(0,.slice b bn bc),(2,.pointer (some x2)),(4,.pointer (some p)),(49,.int .i64 0)] h):=by kernel_rfl
theorem Y0 (C:A8) (R:A9) (b:Option Addr) (bn bc:Nat) (x2:Addr) (p:Addr) (x49:Int) (h:H) :
 B9 PR Bq4 C R W7 Tryz.f213 100000 true B79 [(0,.slice b bn bc),(2,.pointer (some x2)),(4,.pointer (some p)),(49,.int .i64 x49)] h =
 cond (decide (x49<8))
 (aSome b fun p_1=>ck ((0:Int)≤IntKind.wrap .i64 (12+x49)∧IntKind.wrap .i64 (12+x49)<((bn:Nat):Int)) (gInt .u8 (Addr.add (D5 p_1) (Int.toNat (IntKind.wrap .i64 (12+x49))*1)) h fun x=>ck ((0:Int)≤x49∧x49<((8:Nat):Int)) (pV (Addr.add (Addr.add p 8) (Int.toNat x49*1)) (.int .i64 (IntKind.wrap .i64 (x))) h fun w=>R W7 B79 [(0,.slice b bn bc),(2,.pointer (some x2)),(4,.pointer (some p)),(49,.int .i64 (IntKind.wrap .i64 (x49+1)))] w)))
 (gAgg p 16 h fun x_1=>bnd (C A55 [.agg ⟨x_1⟩] h) fun r w1=>as2 r fun r_1 r_2=>aSl r_1 fun x_2 xn xc=>aBool r_2 fun x_3=>gAgg p 16 w1 fun x_4=>bnd (cond x_3 (bnd (C E3 [.slice x_2 xn xc,.slice b bn bc] w1) fun r_3 w2=>aBool r_3 fun x_5=>gAgg p 16 w2 fun x_6=>same (.agg ⟨x_4⟩) (.agg ⟨x_6⟩) (some (x_5,w2))) (some (false,w1))) fun c w3=>ck (List.length x_4=16) (pAgg x2 x_4 w3 fun w4=>gAgg x2 16 w4 fun x_7=>some (.tuple ⟨[.agg ⟨x_7⟩,.bool c]⟩,w4))):=by kernel_rfl
def Au0:Cuts:={ globs:=0,loops:=[],regs:=[],plans:=[] }
def Bi8:List Item:=D0 Tryz.f229
theorem Dm5 (C:A8) (R:A9) (t:Option Addr) (name:Int) (h:H) :
 B9 PR Au0 C R Af4 Tryz.f229 100000 true Bi8 [(0,.pointer t),(1,.int .i64 name)] h =
 bnd (cond (decide (name<0)) (some (true,h)) (aSome t fun p=>gSl (Addr.add p 0) h fun _ xn _=>some (decide ((S4 .i64 name 255)≥((xn:Nat):Int)),h))) fun c w=>bnd (cond c (some (true,w)) (aSome t fun p_1=>gSl (Addr.add p_1 0) w fun x_1 xn_1 _=>aSome x_1 fun p_2=>ck ((0:Int)≤S4 .i64 name 255∧S4 .i64 name 255<((xn_1:Nat):Int)) (gBool (Addr.add (Addr.add (D5 p_2) (Int.toNat (S4 .i64 name 255)*8)) 7) w fun x_2=>some (!x_2,w)))) fun c_1 w1=>bnd (cond c_1 (some (true,w1)) (bnd (C N9 [.pointer t,.int .i64 (S4 .i64 name 255)] w1) fun r w2=>aInt .i64 r fun x_3=>some (x_3 != name,w2))) fun c_2 w3=>cond c_2
 (some (.pointer none,w3))
 (aSome t fun p_3=>gSl (Addr.add p_3 0) w3 fun x_4 xn_2 _=>aSome x_4 fun p_4=>ck ((0:Int)≤S4 .i64 name 255∧S4 .i64 name 255<((xn_2:Nat):Int)) (some (.pointer (some (Addr.add (D5 p_4) (Int.toNat (S4 .i64 name 255)*8))),w3))):=by kernel_rfl
def Dr2:Cuts:={ globs:=0,loops:=[],regs:=[],plans:=[] }
def Ej2:List Item:=D0 Tryz.f232
theorem Gt7 (C:A8) (R:A9) (b:Option Addr) (bn bc:Nat) (atv:Int) (n:Int) (h:H) :
 B9 PR Dr2 C R Bi1 Tryz.f232 100000 true Ej2 [(0,.slice b bn bc),(1,.int .i64 atv),(2,.int .i64 n)] h =
 bnd (cond (decide (atv<0)) (some (true,h)) (some (decide (atv>(IntKind.wrap .i64 (((bn:Nat):Int)-2))),h))) fun c w=>bnd (cond c (some (true,w)) (some (decide (n<0),w))) fun c_1 w1=>bnd (cond c_1 (some (true,w1)) (some (decide (n>65535),w1))) fun c_2 w2=>cond c_2
 (some (.bool false,w2))
 (aSome b fun p=>ck ((0:Int)≤atv∧atv<((bn:Nat):Int)) (pV (Addr.add (D5 p) (Int.toNat atv*1)) (.int .u8 (IntKind.wrap .u8 (Int.fdiv n (2 ^ 8)))) w2 fun w3=>aSome b fun p_1=>ck ((0:Int)≤IntKind.wrap .i64 (atv+1)∧IntKind.wrap .i64 (atv+1)<((bn:Nat):Int)) (pV (Addr.add (D5 p_1) (Int.toNat (IntKind.wrap .i64 (atv+1))*1)) (.int .u8 (IntKind.wrap .u8 (n))) w3 fun w4=>some (.bool true,w4)))):=by kernel_rfl
def Dl4:Cuts:={ globs:=0,loops:=[],regs:=[],plans:=[] }
def En3:List Item:=D0 Tryz.f239
theorem Gt2 (C:A8) (R:A9) (f:Int) (h:H) :
 B9 PR Dl4 C R Bh1 Tryz.f239 100000 true En3 [(0,.int .i64 f)] h =
 bnd (cond (decide (f<0)) (some (true,h)) (some (decide (f>12),h))) fun c w=>some (.bool c,w):=by kernel_rfl
end
end Go.EQ

set_option maxRecDepth 100000
namespace Go.EQ
open Go Go.NN Go.Proofs
variable (C : A8) (R : A9)
noncomputable section
def H50:List (Nat × Cuts):=[(7,Bd6),(13,Dn0),(14,Do8),(15,Df9),(17,Ap7),(18,A16),(20,A32),(22,B71),(23,A05),(24,An8),(25,Am3),(28,Ao8),(31,B03),(32,Dd9),(35,Dz2),(36,A04),(37,Df0),(38,Dx5),(39,B96),(40,Dy6),(48,A15),(49,Aw2),(50,A65),(51,Ba2),(52,As5),(53,De7),(54,B50),(55,Bj0),(56,Bn7),(57,Bi2),(58,Dd6),(59,Av9),(60,B78),(61,Ae4),(62,Df2),(63,A13),(64,Eb5),(65,Di2),(67,Bn3),(68,Bi3),(69,Ae3),(70,B56),(71,B60),(72,B52),(73,Av8),(74,B57),(75,B80),(76,A78),(77,A36),(78,Bn8),(79,B84),(80,Dz7),(81,B89),(82,A41),(83,D04),(84,Ae2),(85,B75),(86,Bf6),(87,Br4),(88,Bx9),(89,Dd3),(90,Bm8),(91,U0),(107,Ba0),(108,Ap3),(109,Bm5),(110,Bh7),(111,De1),(112,As9),(113,Eq7),(114,Dk2),(115,Da1),(116,Do0),(117,Ed2),(118,A79),(119,Av2),(120,Ak8),(121,Bs6),(122,Be4),(123,Ax5),(124,Be6),(125,B65),(126,Bg6),(127,Du3),(128,Bv3),(129,Bg5),(131,A99),(140,Bu4),(141,B12),(142,Aa3),(143,Dr0),(144,Ah5),(145,Aw0),(146,A06),(147,Dd4),(148,Ah3),(149,A50),(150,A17),(151,A54),(152,Bh4),(154,Bd5),(155,Bg1),(156,Bn5),(157,Bm7),(158,De8),(159,Ah4),(160,Ah8),(161,De3),(162,Ah0),(163,B93),(164,Dn3),(165,An0),(166,Ah2),(167,B15),(172,Am5),(173,Am9),(174,B67),(175,Ae8),(176,Dq3),(177,Au8),(178,B74),(179,Af6),(180,Bj4),(181,Bu7),(182,Bg0),(183,Df6),(184,Bs3),(185,Bu1),(186,A97),(187,Bu3),(194,A76),(195,Am7),(196,A82),(197,Ec6),(198,Ea2),(199,Ab9),(200,By7),(201,A14),(202,B10),(203,Bs7),(206,Bs4),(207,Bi4),(208,Bt7),(209,U3),(210,Bm4),(211,A72),(212,Bd0),(213,Bq4),(214,A80),(215,Dx2),(216,Dz0),(217,W8),(218,Ad7),(219,A81),(220,Bt2),(223,Eq9),(224,Ac6),(225,U5),(226,Ao5),(229,Au0),(230,Bm9),(231,D78),(232,Dr2),(233,Dr5),(234,D99),(235,D06),(238,Dn6),(239,Dl4)]
def cutsOf:FuncId→Cuts:=Ge0 H50
noncomputable abbrev D2:A8:=NN.Call PR cutsOf
noncomputable abbrev H7:A9:=NN.Jump PR cutsOf
theorem Eg4:FnOk PR cutsOf P3 Tryz.f7 Bd6 B47 2:=⟨Tryz.func7,⟨_,rfl⟩,by kernel_rfl,rfl,rfl,by kernel_rfl⟩
theorem Gx5:FnOk PR cutsOf Bj3 Tryz.f13 Dn0 Eo9 1:=⟨Tryz.func13,⟨_,rfl⟩,by kernel_rfl,rfl,rfl,by kernel_rfl⟩
theorem Gv9:FnOk PR cutsOf B04 Tryz.f14 Do8 Eq5 0:=⟨Tryz.func14,⟨_,rfl⟩,by kernel_rfl,rfl,rfl,by kernel_rfl⟩
theorem Gq3:FnOk PR cutsOf Br8 Tryz.f15 Df9 Ee7 2:=⟨Tryz.func15,⟨_,rfl⟩,by kernel_rfl,rfl,rfl,by kernel_rfl⟩
theorem Di6:FnOk PR cutsOf Ae5 Tryz.f17 Ap7 Bf4 3:=⟨Tryz.func17,⟨_,rfl⟩,by kernel_rfl,rfl,rfl,by kernel_rfl⟩
theorem Dz6:FnOk PR cutsOf Aa7 Tryz.f18 A16 Bo1 2:=⟨Tryz.func18,⟨_,rfl⟩,by kernel_rfl,rfl,rfl,by kernel_rfl⟩
theorem Bm6:FnOk PR cutsOf U4 Tryz.f20 A32 Bn1 1:=⟨Tryz.func20,⟨_,rfl⟩,by kernel_rfl,rfl,rfl,by kernel_rfl⟩
theorem Gh3:FnOk PR cutsOf U1 Tryz.f22 B71 D45 3:=⟨Tryz.func22,⟨_,rfl⟩,by kernel_rfl,rfl,rfl,by kernel_rfl⟩
theorem D10:FnOk PR cutsOf E4 Tryz.f23 A05 Bq5 2:=⟨Tryz.func23,⟨_,rfl⟩,by kernel_rfl,rfl,rfl,by kernel_rfl⟩
theorem Di0:FnOk PR cutsOf L5 Tryz.f24 An8 Be1 3:=⟨Tryz.func24,⟨_,rfl⟩,by kernel_rfl,rfl,rfl,by kernel_rfl⟩
theorem Df5:FnOk PR cutsOf J9 Tryz.f25 Am3 Ba9 2:=⟨Tryz.func25,⟨_,rfl⟩,by kernel_rfl,rfl,rfl,by kernel_rfl⟩
theorem Di4:FnOk PR cutsOf U6 Tryz.f28 Ao8 Be5 3:=⟨Tryz.func28,⟨_,rfl⟩,by kernel_rfl,rfl,rfl,by kernel_rfl⟩
theorem Bz1:FnOk PR cutsOf Af0 Tryz.f31 B03 Dl6 1:=⟨Tryz.func31,⟨_,rfl⟩,by kernel_rfl,rfl,rfl,by kernel_rfl⟩
theorem Gr4:FnOk PR cutsOf Bc2 Tryz.f32 Dd9 Ee4 0:=⟨Tryz.func32,⟨_,rfl⟩,by kernel_rfl,rfl,rfl,by kernel_rfl⟩
theorem Hb7:FnOk PR cutsOf A19 Tryz.f35 Dz2 Ey5 2:=⟨Tryz.func35,⟨_,rfl⟩,by kernel_rfl,rfl,rfl,by kernel_rfl⟩
theorem Dw9:FnOk PR cutsOf O9 Tryz.f36 A04 Bp7 2:=⟨Tryz.func36,⟨_,rfl⟩,by kernel_rfl,rfl,rfl,by kernel_rfl⟩
theorem Gq7:FnOk PR cutsOf Bq8 Tryz.f37 Df0 Ee9 0:=⟨Tryz.func37,⟨_,rfl⟩,by kernel_rfl,rfl,rfl,by kernel_rfl⟩
theorem Hc7:FnOk PR cutsOf Bc9 Tryz.f38 Dx5 Ez0 3:=⟨Tryz.func38,⟨_,rfl⟩,by kernel_rfl,rfl,rfl,by kernel_rfl⟩
theorem D02:FnOk PR cutsOf Ab8 Tryz.f39 B96 Dz5 2:=⟨Tryz.func39,⟨_,rfl⟩,by kernel_rfl,rfl,rfl,by kernel_rfl⟩
theorem Hd0:FnOk PR cutsOf A09 Tryz.f40 Dy6 Ez3 2:=⟨Tryz.func40,⟨_,rfl⟩,by kernel_rfl,rfl,rfl,by kernel_rfl⟩
theorem Dx3:FnOk PR cutsOf Ak1 Tryz.f48 A15 Bq6 1:=⟨Tryz.func48,⟨_,rfl⟩,by kernel_rfl,rfl,rfl,by kernel_rfl⟩
theorem Ds3:FnOk PR cutsOf Ai1 Tryz.f49 Aw2 Bl9 1:=⟨Tryz.func49,⟨_,rfl⟩,by kernel_rfl,rfl,rfl,by kernel_rfl⟩
theorem At2:FnOk PR cutsOf J6 Tryz.f50 A65 Bh9 1:=⟨Tryz.func50,⟨_,rfl⟩,by kernel_rfl,rfl,rfl,by kernel_rfl⟩
theorem Aq7:FnOk PR cutsOf I3 Tryz.f51 Ba2 Bk5 1:=⟨Tryz.func51,⟨_,rfl⟩,by kernel_rfl,rfl,rfl,by kernel_rfl⟩
theorem Aj6:FnOk PR cutsOf G8 Tryz.f52 As5 A66 1:=⟨Tryz.func52,⟨_,rfl⟩,by kernel_rfl,rfl,rfl,by kernel_rfl⟩
theorem Gs3:FnOk PR cutsOf Bb8 Tryz.f53 De7 Ef4 0:=⟨Tryz.func53,⟨_,rfl⟩,by kernel_rfl,rfl,rfl,by kernel_rfl⟩
theorem Gg4:FnOk PR cutsOf As2 Tryz.f54 B50 D18 3:=⟨Tryz.func54,⟨_,rfl⟩,by kernel_rfl,rfl,rfl,by kernel_rfl⟩
theorem Em3:FnOk PR cutsOf Ax4 Tryz.f55 Bj0 Dc6 2:=⟨Tryz.func55,⟨_,rfl⟩,by kernel_rfl,rfl,rfl,by kernel_rfl⟩
theorem Ev8:FnOk PR cutsOf An1 Tryz.f56 Bn7 Dg1 1:=⟨Tryz.func56,⟨_,rfl⟩,by kernel_rfl,rfl,rfl,by kernel_rfl⟩
theorem Ei3:FnOk PR cutsOf Al1 Tryz.f57 Bi2 Db6 2:=⟨Tryz.func57,⟨_,rfl⟩,by kernel_rfl,rfl,rfl,by kernel_rfl⟩
theorem Gq5:FnOk PR cutsOf Ba6 Tryz.f58 Dd6 Ef2 1:=⟨Tryz.func58,⟨_,rfl⟩,by kernel_rfl,rfl,rfl,by kernel_rfl⟩
theorem Ds2:FnOk PR cutsOf L0 Tryz.f59 Av9 Bm1 4:=⟨Tryz.func59,⟨_,rfl⟩,by kernel_rfl,rfl,rfl,by kernel_rfl⟩
theorem Gi2:FnOk PR cutsOf As4 Tryz.f60 B78 D43 1:=⟨Tryz.func60,⟨_,rfl⟩,by kernel_rfl,rfl,rfl,by kernel_rfl⟩
theorem Aq3:FnOk PR cutsOf I6 Tryz.f61 Ae4 Aq5 3:=⟨Tryz.func61,⟨_,rfl⟩,by kernel_rfl,rfl,rfl,by kernel_rfl⟩
theorem Gr8:FnOk PR cutsOf Aw8 Tryz.f62 Df2 Ee1 1:=⟨Tryz.func62,⟨_,rfl⟩,by kernel_rfl,rfl,rfl,by kernel_rfl⟩
theorem Dy5:FnOk PR cutsOf Ab7 Tryz.f63 A13 Bp3 2:=⟨Tryz.func63,⟨_,rfl⟩,by kernel_rfl,rfl,rfl,by kernel_rfl⟩
theorem Hh4:FnOk PR cutsOf A94 Tryz.f64 Eb5 Gd4 1:=⟨Tryz.func64,⟨_,rfl⟩,by kernel_rfl,rfl,rfl,by kernel_rfl⟩
theorem D85:FnOk PR cutsOf Ag0 Tryz.f65 Di2 Ea4 1:=⟨Tryz.func65,⟨_,rfl⟩,by kernel_rfl,rfl,rfl,by kernel_rfl⟩
theorem Ex5:FnOk PR cutsOf A29 Tryz.f67 Bn3 Dh2 3:=⟨Tryz.func67,⟨_,rfl⟩,by kernel_rfl,rfl,rfl,by kernel_rfl⟩
theorem Eh8:FnOk PR cutsOf Ax0 Tryz.f68 Bi3 Db0 3:=⟨Tryz.func68,⟨_,rfl⟩,by kernel_rfl,rfl,rfl,by kernel_rfl⟩
theorem Aq4:FnOk PR cutsOf L7 Tryz.f69 Ae3 Ap2 3:=⟨Tryz.func69,⟨_,rfl⟩,by kernel_rfl,rfl,rfl,by kernel_rfl⟩
theorem Ge4:FnOk PR cutsOf As3 Tryz.f70 B56 D46 1:=⟨Tryz.func70,⟨_,rfl⟩,by kernel_rfl,rfl,rfl,by kernel_rfl⟩
theorem Ge6:FnOk PR cutsOf A40 Tryz.f71 B60 D30 1:=⟨Tryz.func71,⟨_,rfl⟩,by kernel_rfl,rfl,rfl,by kernel_rfl⟩
theorem Gh4:FnOk PR cutsOf A55 Tryz.f72 B52 D24 1:=⟨Tryz.func72,⟨_,rfl⟩,by kernel_rfl,rfl,rfl,by kernel_rfl⟩
theorem Dr8:FnOk PR cutsOf Q7 Tryz.f73 Av8 Bm2 2:=⟨Tryz.func73,⟨_,rfl⟩,by kernel_rfl,rfl,rfl,by kernel_rfl⟩
theorem Gh5:FnOk PR cutsOf A59 Tryz.f74 B57 D33 1:=⟨Tryz.func74,⟨_,rfl⟩,by kernel_rfl,rfl,rfl,by kernel_rfl⟩
theorem Gg3:FnOk PR cutsOf As7 Tryz.f75 B80 D39 1:=⟨Tryz.func75,⟨_,rfl⟩,by kernel_rfl,rfl,rfl,by kernel_rfl⟩
theorem D58:FnOk PR cutsOf Ao2 Tryz.f76 A78 B13 1:=⟨Tryz.func76,⟨_,rfl⟩,by kernel_rfl,rfl,rfl,by kernel_rfl⟩
theorem Bn9:FnOk PR cutsOf P8 Tryz.f77 A36 Bn0 1:=⟨Tryz.func77,⟨_,rfl⟩,by kernel_rfl,rfl,rfl,by kernel_rfl⟩
theorem Ex3:FnOk PR cutsOf A37 Tryz.f78 Bn8 Dg0 1:=⟨Tryz.func78,⟨_,rfl⟩,by kernel_rfl,rfl,rfl,by kernel_rfl⟩
theorem Gi6:FnOk PR cutsOf Bk7 Tryz.f79 B84 D16 3:=⟨Tryz.func79,⟨_,rfl⟩,by kernel_rfl,rfl,rfl,by kernel_rfl⟩
theorem Hc2:FnOk PR cutsOf Aa8 Tryz.f80 Dz7 E09 1:=⟨Tryz.func80,⟨_,rfl⟩,by kernel_rfl,rfl,rfl,by kernel_rfl⟩
theorem D01:FnOk PR cutsOf Ar0 Tryz.f81 B89 D09 1:=⟨Tryz.func81,⟨_,rfl⟩,by kernel_rfl,rfl,rfl,by kernel_rfl⟩
theorem At0:FnOk PR cutsOf H0 Tryz.f82 A41 Bi0 2:=⟨Tryz.func82,⟨_,rfl⟩,by kernel_rfl,rfl,rfl,by kernel_rfl⟩
theorem G68:FnOk PR cutsOf Aa6 Tryz.f83 D04 Ez2 2:=⟨Tryz.func83,⟨_,rfl⟩,by kernel_rfl,rfl,rfl,by kernel_rfl⟩
theorem Ao6:FnOk PR cutsOf L8 Tryz.f84 Ae2 Ap6 3:=⟨Tryz.func84,⟨_,rfl⟩,by kernel_rfl,rfl,rfl,by kernel_rfl⟩
theorem Gi9:FnOk PR cutsOf A56 Tryz.f85 B75 D34 1:=⟨Tryz.func85,⟨_,rfl⟩,by kernel_rfl,rfl,rfl,by kernel_rfl⟩
theorem By6:FnOk PR cutsOf U9 Tryz.f86 Bf6 By4 2:=⟨Tryz.func86,⟨_,rfl⟩,by kernel_rfl,rfl,rfl,by kernel_rfl⟩
theorem Df7:FnOk PR cutsOf Ac0 Tryz.f87 Br4 Df4 2:=⟨Tryz.func87,⟨_,rfl⟩,by kernel_rfl,rfl,rfl,by kernel_rfl⟩
theorem Dn8:FnOk PR cutsOf Ab0 Tryz.f88 Bx9 Dq7 2:=⟨Tryz.func88,⟨_,rfl⟩,by kernel_rfl,rfl,rfl,by kernel_rfl⟩
theorem Gp6:FnOk PR cutsOf Ba7 Tryz.f89 Dd3 Ef3 2:=⟨Tryz.func89,⟨_,rfl⟩,by kernel_rfl,rfl,rfl,by kernel_rfl⟩
theorem Ew7:FnOk PR cutsOf An3 Tryz.f90 Bm8 Dg9 1:=⟨Tryz.func90,⟨_,rfl⟩,by kernel_rfl,rfl,rfl,by kernel_rfl⟩
theorem O8:FnOk PR cutsOf E0 Tryz.f91 U0 Ab5 1:=⟨Tryz.func91,⟨_,rfl⟩,by kernel_rfl,rfl,rfl,by kernel_rfl⟩
theorem Dq8:FnOk PR cutsOf W2 Tryz.f107 Ba0 Bs8 2:=⟨Tryz.func107,⟨_,rfl⟩,by kernel_rfl,rfl,rfl,by kernel_rfl⟩
theorem A92:FnOk PR cutsOf S5 Tryz.f108 Ap3 A85 3:=⟨Tryz.func108,⟨_,rfl⟩,by kernel_rfl,rfl,rfl,by kernel_rfl⟩
theorem Ew1:FnOk PR cutsOf An5 Tryz.f109 Bm5 Dg3 1:=⟨Tryz.func109,⟨_,rfl⟩,by kernel_rfl,rfl,rfl,by kernel_rfl⟩
theorem Bg4:FnOk PR cutsOf S7 Tryz.f110 Bh7 B05 1:=⟨Tryz.func110,⟨_,rfl⟩,by kernel_rfl,rfl,rfl,by kernel_rfl⟩
theorem Gr9:FnOk PR cutsOf Bb9 Tryz.f111 De1 Ee8 1:=⟨Tryz.func111,⟨_,rfl⟩,by kernel_rfl,rfl,rfl,by kernel_rfl⟩
theorem Dn5:FnOk PR cutsOf W1 Tryz.f112 As9 Bh8 1:=⟨Tryz.func112,⟨_,rfl⟩,by kernel_rfl,rfl,rfl,by kernel_rfl⟩
theorem Hr7:FnOk PR cutsOf Dt4 Tryz.f113 Eq7 Gl5 1:=⟨Tryz.func113,⟨_,rfl⟩,by kernel_rfl,rfl,rfl,by kernel_rfl⟩
theorem D73:FnOk PR cutsOf A00 Tryz.f114 Dk2 D66 1:=⟨Tryz.func114,⟨_,rfl⟩,by kernel_rfl,rfl,rfl,by kernel_rfl⟩
theorem Dy3:FnOk PR cutsOf Ar9 Tryz.f115 Da1 Dz8 1:=⟨Tryz.func115,⟨_,rfl⟩,by kernel_rfl,rfl,rfl,by kernel_rfl⟩
theorem Gy0:FnOk PR cutsOf By5 Tryz.f116 Do0 Eq0 2:=⟨Tryz.func116,⟨_,rfl⟩,by kernel_rfl,rfl,rfl,by kernel_rfl⟩
theorem Hh6:FnOk PR cutsOf Dh7 Tryz.f117 Ed2 Gc4 1:=⟨Tryz.func117,⟨_,rfl⟩,by kernel_rfl,rfl,rfl,by kernel_rfl⟩
theorem D71:FnOk PR cutsOf Ao0 Tryz.f118 A79 Bz5 3:=⟨Tryz.func118,⟨_,rfl⟩,by kernel_rfl,rfl,rfl,by kernel_rfl⟩
theorem Bd8:FnOk PR cutsOf P6 Tryz.f119 Av2 Bd4 2:=⟨Tryz.func119,⟨_,rfl⟩,by kernel_rfl,rfl,rfl,by kernel_rfl⟩
theorem Db4:FnOk PR cutsOf N3 Tryz.f120 Ak8 A68 2:=⟨Tryz.func120,⟨_,rfl⟩,by kernel_rfl,rfl,rfl,by kernel_rfl⟩
theorem E50:FnOk PR cutsOf A87 Tryz.f121 Bs6 Dp9 3:=⟨Tryz.func121,⟨_,rfl⟩,by kernel_rfl,rfl,rfl,by kernel_rfl⟩
theorem B27:FnOk PR cutsOf Aa2 Tryz.f122 Be4 By0 1:=⟨Tryz.func122,⟨_,rfl⟩,by kernel_rfl,rfl,rfl,by kernel_rfl⟩
theorem Bh3:FnOk PR cutsOf O0 Tryz.f123 Ax5 Bg7 2:=⟨Tryz.func123,⟨_,rfl⟩,by kernel_rfl,rfl,rfl,by kernel_rfl⟩
theorem Bz6:FnOk PR cutsOf Aa5 Tryz.f124 Be6 B11 1:=⟨Tryz.func124,⟨_,rfl⟩,by kernel_rfl,rfl,rfl,by kernel_rfl⟩
theorem Gj3:FnOk PR cutsOf Bj9 Tryz.f125 B65 D15 1:=⟨Tryz.func125,⟨_,rfl⟩,by kernel_rfl,rfl,rfl,by kernel_rfl⟩
theorem Ej9:FnOk PR cutsOf Ay5 Tryz.f126 Bg6 Da3 3:=⟨Tryz.func126,⟨_,rfl⟩,by kernel_rfl,rfl,rfl,by kernel_rfl⟩
theorem Ek8:FnOk PR cutsOf A71 Tryz.f127 Du3 El9 2:=⟨Tryz.func127,⟨_,rfl⟩,by kernel_rfl,rfl,rfl,by kernel_rfl⟩
theorem E11:FnOk PR cutsOf A77 Tryz.f128 Bv3 Do7 3:=⟨Tryz.func128,⟨_,rfl⟩,by kernel_rfl,rfl,rfl,by kernel_rfl⟩
theorem Eh7:FnOk PR cutsOf Ax1 Tryz.f129 Bg5 Db9 1:=⟨Tryz.func129,⟨_,rfl⟩,by kernel_rfl,rfl,rfl,by kernel_rfl⟩
theorem D81:FnOk PR cutsOf Aq9 Tryz.f131 A99 B26 5:=⟨Tryz.func131,⟨_,rfl⟩,by kernel_rfl,rfl,rfl,by kernel_rfl⟩
theorem E37:FnOk PR cutsOf A88 Tryz.f140 Bu4 Dp7 2:=⟨Tryz.func140,⟨_,rfl⟩,by kernel_rfl,rfl,rfl,by kernel_rfl⟩
theorem Gc1:FnOk PR cutsOf Af5 Tryz.f141 B12 Dw1 2:=⟨Tryz.func141,⟨_,rfl⟩,by kernel_rfl,rfl,rfl,by kernel_rfl⟩
theorem Ak9:FnOk PR cutsOf G7 Tryz.f142 Aa3 Al0 1:=⟨Tryz.func142,⟨_,rfl⟩,by kernel_rfl,rfl,rfl,by kernel_rfl⟩
theorem G55:FnOk PR cutsOf Bg8 Tryz.f143 Dr0 Ek4 0:=⟨Tryz.func143,⟨_,rfl⟩,by kernel_rfl,rfl,rfl,by kernel_rfl⟩
theorem B36:FnOk PR cutsOf V7 Tryz.f144 Ah5 A23 2:=⟨Tryz.func144,⟨_,rfl⟩,by kernel_rfl,rfl,rfl,by kernel_rfl⟩
theorem Dr7:FnOk PR cutsOf Q6 Tryz.f145 Aw0 Bm3 2:=⟨Tryz.func145,⟨_,rfl⟩,by kernel_rfl,rfl,rfl,by kernel_rfl⟩
theorem D12:FnOk PR cutsOf O2 Tryz.f146 A06 Bo8 2:=⟨Tryz.func146,⟨_,rfl⟩,by kernel_rfl,rfl,rfl,by kernel_rfl⟩
theorem Gr3:FnOk PR cutsOf Am6 Tryz.f147 Dd4 Ef8 1:=⟨Tryz.func147,⟨_,rfl⟩,by kernel_rfl,rfl,rfl,by kernel_rfl⟩
theorem B41:FnOk PR cutsOf V8 Tryz.f148 Ah3 A26 2:=⟨Tryz.func148,⟨_,rfl⟩,by kernel_rfl,rfl,rfl,by kernel_rfl⟩
theorem D53:FnOk PR cutsOf Ad0 Tryz.f149 A50 Bx2 5:=⟨Tryz.func149,⟨_,rfl⟩,by kernel_rfl,rfl,rfl,by kernel_rfl⟩
theorem Dy1:FnOk PR cutsOf Ab4 Tryz.f150 A17 Bo4 5:=⟨Tryz.func150,⟨_,rfl⟩,by kernel_rfl,rfl,rfl,by kernel_rfl⟩
theorem D48:FnOk PR cutsOf Al9 Tryz.f151 A54 Bx0 7:=⟨Tryz.func151,⟨_,rfl⟩,by kernel_rfl,rfl,rfl,by kernel_rfl⟩
theorem En0:FnOk PR cutsOf Ay1 Tryz.f152 Bh4 Dd2 7:=⟨Tryz.func152,⟨_,rfl⟩,by kernel_rfl,rfl,rfl,by kernel_rfl⟩
theorem Eh0:FnOk PR cutsOf Av0 Tryz.f154 Bd5 B46 2:=⟨Tryz.func154,⟨_,rfl⟩,by kernel_rfl,rfl,rfl,by kernel_rfl⟩
theorem Eq4:FnOk PR cutsOf Az3 Tryz.f155 Bg1 Db7 3:=⟨Tryz.func155,⟨_,rfl⟩,by kernel_rfl,rfl,rfl,by kernel_rfl⟩
theorem Ew9:FnOk PR cutsOf A39 Tryz.f156 Bn5 Dg5 3:=⟨Tryz.func156,⟨_,rfl⟩,by kernel_rfl,rfl,rfl,by kernel_rfl⟩
theorem Ew4:FnOk PR cutsOf A27 Tryz.f157 Bm7 Dg2 3:=⟨Tryz.func157,⟨_,rfl⟩,by kernel_rfl,rfl,rfl,by kernel_rfl⟩
theorem Gq4:FnOk PR cutsOf Bc4 Tryz.f158 De8 Ed8 0:=⟨Tryz.func158,⟨_,rfl⟩,by kernel_rfl,rfl,rfl,by kernel_rfl⟩
theorem B40:FnOk PR cutsOf V5 Tryz.f159 Ah4 A21 2:=⟨Tryz.func159,⟨_,rfl⟩,by kernel_rfl,rfl,rfl,by kernel_rfl⟩
theorem B35:FnOk PR cutsOf V9 Tryz.f160 Ah8 A25 2:=⟨Tryz.func160,⟨_,rfl⟩,by kernel_rfl,rfl,rfl,by kernel_rfl⟩
theorem Gp9:FnOk PR cutsOf Bc1 Tryz.f161 De3 Ef1 0:=⟨Tryz.func161,⟨_,rfl⟩,by kernel_rfl,rfl,rfl,by kernel_rfl⟩
theorem B42:FnOk PR cutsOf V4 Tryz.f162 Ah0 A22 2:=⟨Tryz.func162,⟨_,rfl⟩,by kernel_rfl,rfl,rfl,by kernel_rfl⟩
theorem D00:FnOk PR cutsOf Ab1 Tryz.f163 B93 Dy8 1:=⟨Tryz.func163,⟨_,rfl⟩,by kernel_rfl,rfl,rfl,by kernel_rfl⟩
theorem G52:FnOk PR cutsOf Bj1 Tryz.f164 Dn3 Eo8 3:=⟨Tryz.func164,⟨_,rfl⟩,by kernel_rfl,rfl,rfl,by kernel_rfl⟩
theorem Bb1:FnOk PR cutsOf H1 Tryz.f165 An0 Bb6 1:=⟨Tryz.func165,⟨_,rfl⟩,by kernel_rfl,rfl,rfl,by kernel_rfl⟩
theorem B45:FnOk PR cutsOf V6 Tryz.f166 Ah2 A20 2:=⟨Tryz.func166,⟨_,rfl⟩,by kernel_rfl,rfl,rfl,by kernel_rfl⟩
theorem Gd9:FnOk PR cutsOf Az1 Tryz.f167 B15 Du1 2:=⟨Tryz.func167,⟨_,rfl⟩,by kernel_rfl,rfl,rfl,by kernel_rfl⟩
theorem De4:FnOk PR cutsOf Ac2 Tryz.f172 Am5 Bc0 2:=⟨Tryz.func172,⟨_,rfl⟩,by kernel_rfl,rfl,rfl,by kernel_rfl⟩
theorem De2:FnOk PR cutsOf Ac3 Tryz.f173 Am9 Ba4 2:=⟨Tryz.func173,⟨_,rfl⟩,by kernel_rfl,rfl,rfl,by kernel_rfl⟩
theorem Gf5:FnOk PR cutsOf H3 Tryz.f174 B67 D21 2:=⟨Tryz.func174,⟨_,rfl⟩,by kernel_rfl,rfl,rfl,by kernel_rfl⟩
theorem Av5:FnOk PR cutsOf G3 Tryz.f175 Ae8 Av7 2:=⟨Tryz.func175,⟨_,rfl⟩,by kernel_rfl,rfl,rfl,by kernel_rfl⟩
theorem G54:FnOk PR cutsOf Bx5 Tryz.f176 Dq3 Eo3 2:=⟨Tryz.func176,⟨_,rfl⟩,by kernel_rfl,rfl,rfl,by kernel_rfl⟩
theorem Bd9:FnOk PR cutsOf P5 Tryz.f177 Au8 Bd7 1:=⟨Tryz.func177,⟨_,rfl⟩,by kernel_rfl,rfl,rfl,by kernel_rfl⟩
theorem Gg5:FnOk PR cutsOf A52 Tryz.f178 B74 D28 1:=⟨Tryz.func178,⟨_,rfl⟩,by kernel_rfl,rfl,rfl,by kernel_rfl⟩
theorem At5:FnOk PR cutsOf H9 Tryz.f179 Af6 At9 2:=⟨Tryz.func179,⟨_,rfl⟩,by kernel_rfl,rfl,rfl,by kernel_rfl⟩
theorem Ej1:FnOk PR cutsOf Al4 Tryz.f180 Bj4 Da8 1:=⟨Tryz.func180,⟨_,rfl⟩,by kernel_rfl,rfl,rfl,by kernel_rfl⟩
theorem E60:FnOk PR cutsOf Au1 Tryz.f181 Bu7 Dp2 3:=⟨Tryz.func181,⟨_,rfl⟩,by kernel_rfl,rfl,rfl,by kernel_rfl⟩
theorem B32:FnOk PR cutsOf Z8 Tryz.f182 Bg0 B21 1:=⟨Tryz.func182,⟨_,rfl⟩,by kernel_rfl,rfl,rfl,by kernel_rfl⟩
theorem Gq2:FnOk PR cutsOf Ag7 Tryz.f183 Df6 Ef0 3:=⟨Tryz.func183,⟨_,rfl⟩,by kernel_rfl,rfl,rfl,by kernel_rfl⟩
theorem E38:FnOk PR cutsOf Ai9 Tryz.f184 Bs3 Do4 2:=⟨Tryz.func184,⟨_,rfl⟩,by kernel_rfl,rfl,rfl,by kernel_rfl⟩
theorem E22:FnOk PR cutsOf A93 Tryz.f185 Bu1 Dn2 3:=⟨Tryz.func185,⟨_,rfl⟩,by kernel_rfl,rfl,rfl,by kernel_rfl⟩
theorem Eb3:FnOk PR cutsOf Ap5 Tryz.f186 A97 B14 6:=⟨Tryz.func186,⟨_,rfl⟩,by kernel_rfl,rfl,rfl,by kernel_rfl⟩
theorem E21:FnOk PR cutsOf Ba1 Tryz.f187 Bu3 Dm9 3:=⟨Tryz.func187,⟨_,rfl⟩,by kernel_rfl,rfl,rfl,by kernel_rfl⟩
theorem Bv4:FnOk PR cutsOf Q9 Tryz.f194 A76 Bt9 1:=⟨Tryz.func194,⟨_,rfl⟩,by kernel_rfl,rfl,rfl,by kernel_rfl⟩
theorem Df1:FnOk PR cutsOf N9 Tryz.f195 Am7 Bb5 2:=⟨Tryz.func195,⟨_,rfl⟩,by kernel_rfl,rfl,rfl,by kernel_rfl⟩
theorem D72:FnOk PR cutsOf An9 Tryz.f196 A82 B09 3:=⟨Tryz.func196,⟨_,rfl⟩,by kernel_rfl,rfl,rfl,by kernel_rfl⟩
theorem Hl4:FnOk PR cutsOf Bl4 Tryz.f197 Ec6 Gd8 2:=⟨Tryz.func197,⟨_,rfl⟩,by kernel_rfl,rfl,rfl,by kernel_rfl⟩
theorem Hi7:FnOk PR cutsOf Bk9 Tryz.f198 Ea2 E90 1:=⟨Tryz.func198,⟨_,rfl⟩,by kernel_rfl,rfl,rfl,by kernel_rfl⟩
theorem Bo6:FnOk PR cutsOf Q1 Tryz.f199 Ab9 As0 2:=⟨Tryz.func199,⟨_,rfl⟩,by kernel_rfl,rfl,rfl,by kernel_rfl⟩
theorem E80:FnOk PR cutsOf Ag5 Tryz.f200 By7 Du5 1:=⟨Tryz.func200,⟨_,rfl⟩,by kernel_rfl,rfl,rfl,by kernel_rfl⟩
theorem D03:FnOk PR cutsOf Aa9 Tryz.f201 A14 Bp5 6:=⟨Tryz.func201,⟨_,rfl⟩,by kernel_rfl,rfl,rfl,by kernel_rfl⟩
theorem E99:FnOk PR cutsOf Be3 Tryz.f202 B10 Du0 3:=⟨Tryz.func202,⟨_,rfl⟩,by kernel_rfl,rfl,rfl,by kernel_rfl⟩
theorem E25:FnOk PR cutsOf Au5 Tryz.f203 Bs7 Dp5 3:=⟨Tryz.func203,⟨_,rfl⟩,by kernel_rfl,rfl,rfl,by kernel_rfl⟩
theorem E53:FnOk PR cutsOf Aj7 Tryz.f206 Bs4 Dq2 2:=⟨Tryz.func206,⟨_,rfl⟩,by kernel_rfl,rfl,rfl,by kernel_rfl⟩
theorem Ej3:FnOk PR cutsOf Ax3 Tryz.f207 Bi4 Db5 3:=⟨Tryz.func207,⟨_,rfl⟩,by kernel_rfl,rfl,rfl,by kernel_rfl⟩
theorem E45:FnOk PR cutsOf Au2 Tryz.f208 Bt7 Dq4 3:=⟨Tryz.func208,⟨_,rfl⟩,by kernel_rfl,rfl,rfl,by kernel_rfl⟩
theorem Z5:FnOk PR cutsOf D9 Tryz.f209 U3 Z7 3:=⟨Tryz.func209,⟨_,rfl⟩,by kernel_rfl,rfl,rfl,by kernel_rfl⟩
theorem Ew3:FnOk PR cutsOf A30 Tryz.f210 Bm4 Dh1 3:=⟨Tryz.func210,⟨_,rfl⟩,by kernel_rfl,rfl,rfl,by kernel_rfl⟩
theorem D61:FnOk PR cutsOf Ap0 Tryz.f211 A72 B06 3:=⟨Tryz.func211,⟨_,rfl⟩,by kernel_rfl,rfl,rfl,by kernel_rfl⟩
theorem I1:FnOk PR cutsOf O4 Tryz.f212 Bd0 Bo2 2:=⟨Tryz.func212,⟨_,rfl⟩,by kernel_rfl,rfl,rfl,by kernel_rfl⟩
theorem O3:FnOk PR cutsOf W7 Tryz.f213 Bq4 B99 1:=⟨Tryz.func213,⟨_,rfl⟩,by kernel_rfl,rfl,rfl,by kernel_rfl⟩
theorem Ea3:FnOk PR cutsOf Ap8 Tryz.f214 A80 Bx6 3:=⟨Tryz.func214,⟨_,rfl⟩,by kernel_rfl,rfl,rfl,by kernel_rfl⟩
theorem G87:FnOk PR cutsOf Ar8 Tryz.f215 Dx2 E02 2:=⟨Tryz.func215,⟨_,rfl⟩,by kernel_rfl,rfl,rfl,by kernel_rfl⟩
theorem G84:FnOk PR cutsOf Ar6 Tryz.f216 Dz0 Ey1 1:=⟨Tryz.func216,⟨_,rfl⟩,by kernel_rfl,rfl,rfl,by kernel_rfl⟩
theorem M7:FnOk PR cutsOf E6 Tryz.f217 W8 Aj9 2:=⟨Tryz.func217,⟨_,rfl⟩,by kernel_rfl,rfl,rfl,by kernel_rfl⟩
theorem Ap9:FnOk PR cutsOf I5 Tryz.f218 Ad7 Ap4 2:=⟨Tryz.func218,⟨_,rfl⟩,by kernel_rfl,rfl,rfl,by kernel_rfl⟩
theorem Bt4:FnOk PR cutsOf W3 Tryz.f219 A81 Bt6 1:=⟨Tryz.func219,⟨_,rfl⟩,by kernel_rfl,rfl,rfl,by kernel_rfl⟩
theorem E26:FnOk PR cutsOf A74 Tryz.f220 Bt2 Dq6 2:=⟨Tryz.func220,⟨_,rfl⟩,by kernel_rfl,rfl,rfl,by kernel_rfl⟩
theorem Hv0:FnOk PR cutsOf Dt7 Tryz.f223 Eq9 Go6 1:=⟨Tryz.func223,⟨_,rfl⟩,by kernel_rfl,rfl,rfl,by kernel_rfl⟩
theorem Am8:FnOk PR cutsOf E3 Tryz.f224 Ac6 Am4 2:=⟨Tryz.func224,⟨_,rfl⟩,by kernel_rfl,rfl,rfl,by kernel_rfl⟩
theorem Af7:FnOk PR cutsOf G6 Tryz.f225 U5 Af3 2:=⟨Tryz.func225,⟨_,rfl⟩,by kernel_rfl,rfl,rfl,by kernel_rfl⟩
theorem Di5:FnOk PR cutsOf Ad9 Tryz.f226 Ao5 Bf3 2:=⟨Tryz.func226,⟨_,rfl⟩,by kernel_rfl,rfl,rfl,by kernel_rfl⟩
theorem Dp0:FnOk PR cutsOf Af4 Tryz.f229 Au0 Bi8 2:=⟨Tryz.func229,⟨_,rfl⟩,by kernel_rfl,rfl,rfl,by kernel_rfl⟩
theorem Ev7:FnOk PR cutsOf A33 Tryz.f230 Bm9 Dg4 3:=⟨Tryz.func230,⟨_,rfl⟩,by kernel_rfl,rfl,rfl,by kernel_rfl⟩
theorem Hh7:FnOk PR cutsOf Dj9 Tryz.f231 D78 Gb2 1:=⟨Tryz.func231,⟨_,rfl⟩,by kernel_rfl,rfl,rfl,by kernel_rfl⟩
theorem G34:FnOk PR cutsOf Bi1 Tryz.f232 Dr2 Ej2 3:=⟨Tryz.func232,⟨_,rfl⟩,by kernel_rfl,rfl,rfl,by kernel_rfl⟩
theorem G13:FnOk PR cutsOf Bx4 Tryz.f233 Dr5 Ej0 2:=⟨Tryz.func233,⟨_,rfl⟩,by kernel_rfl,rfl,rfl,by kernel_rfl⟩
theorem Hn2:FnOk PR cutsOf Dk3 Tryz.f234 D99 Gb9 1:=⟨Tryz.func234,⟨_,rfl⟩,by kernel_rfl,rfl,rfl,by kernel_rfl⟩
theorem G66:FnOk PR cutsOf Ar7 Tryz.f235 D06 E04 2:=⟨Tryz.func235,⟨_,rfl⟩,by kernel_rfl,rfl,rfl,by kernel_rfl⟩
theorem Gv3:FnOk PR cutsOf Al5 Tryz.f238 Dn6 En8 2:=⟨Tryz.func238,⟨_,rfl⟩,by kernel_rfl,rfl,rfl,by kernel_rfl⟩
theorem Gu1:FnOk PR cutsOf Bh1 Tryz.f239 Dl4 En3 1:=⟨Tryz.func239,⟨_,rfl⟩,by kernel_rfl,rfl,rfl,by kernel_rfl⟩
end
end Go.EQ

namespace Go.EQ
open Go Go.NN Go.Proofs
theorem H57:type_of% Tryz.underlying3:=Tryz.underlying3
theorem Ie0:type_of% Tryz.underlying4:=Tryz.underlying4
end Go.EQ
