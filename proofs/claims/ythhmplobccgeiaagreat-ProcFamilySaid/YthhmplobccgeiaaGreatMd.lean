/- A process' children are waited for each once, with the code each ended with; no conditions. -/
import Derived.Test.YthhmplobccgeiaaGreatMc
import Derived.Test.YthhmplobccgeiaaGreatProg
import Derived.KernelRfl
set_option linter.all false
namespace Go.EQ
open Go Go.NN Go.Proofs
noncomputable abbrev PR:Program:=Tryz.prog
abbrev A9:FuncId:=8
abbrev Bh2:FuncId:=13
abbrev By0:FuncId:=14
abbrev Br6:FuncId:=15
abbrev Ac8:FuncId:=17
abbrev Aa2:FuncId:=18
abbrev U0:FuncId:=20
abbrev S7:FuncId:=22
abbrev E2:FuncId:=23
abbrev J9:FuncId:=24
abbrev J0:FuncId:=25
abbrev U2:FuncId:=28
abbrev Ae2:FuncId:=31
abbrev Bc5:FuncId:=32
abbrev Bc8:FuncId:=35
abbrev L5:FuncId:=36
abbrev Bq8:FuncId:=37
abbrev Bq6:FuncId:=38
abbrev Aa6:FuncId:=39
abbrev Ar6:FuncId:=40
abbrev Aj6:FuncId:=48
abbrev Ah4:FuncId:=49
abbrev I7:FuncId:=50
abbrev H7:FuncId:=51
abbrev G0:FuncId:=52
abbrev Bc0:FuncId:=53
abbrev As5:FuncId:=54
abbrev Az5:FuncId:=55
abbrev An5:FuncId:=56
abbrev Ak2:FuncId:=57
abbrev Ba8:FuncId:=58
abbrev J5:FuncId:=59
abbrev As6:FuncId:=60
abbrev I0:FuncId:=61
abbrev Aw7:FuncId:=62
abbrev Aa3:FuncId:=63
abbrev A72:FuncId:=64
abbrev Ae1:FuncId:=65
abbrev A24:FuncId:=67
abbrev Ax2:FuncId:=68
abbrev L1:FuncId:=69
abbrev As3:FuncId:=70
abbrev A42:FuncId:=71
abbrev A46:FuncId:=72
abbrev Q2:FuncId:=73
abbrev A51:FuncId:=74
abbrev As4:FuncId:=75
abbrev Ap5:FuncId:=76
abbrev P4:FuncId:=77
abbrev A26:FuncId:=78
abbrev Bl0:FuncId:=79
abbrev Ab1:FuncId:=80
abbrev Ar1:FuncId:=81
abbrev G2:FuncId:=82
abbrev Aa9:FuncId:=83
abbrev L0:FuncId:=84
abbrev A40:FuncId:=85
abbrev U5:FuncId:=86
abbrev Ab8:FuncId:=87
abbrev Aa7:FuncId:=88
abbrev Bb9:FuncId:=89
abbrev An7:FuncId:=90
abbrev D1:FuncId:=91
abbrev W2:FuncId:=107
abbrev Q6:FuncId:=108
abbrev An2:FuncId:=109
abbrev R0:FuncId:=110
abbrev Ba3:FuncId:=111
abbrev W1:FuncId:=112
abbrev Du0:FuncId:=113
abbrev Ay9:FuncId:=114
abbrev Ar5:FuncId:=115
abbrev B23:FuncId:=116
abbrev Dl4:FuncId:=117
abbrev Ao1:FuncId:=118
abbrev P3:FuncId:=119
abbrev N0:FuncId:=120
abbrev A70:FuncId:=121
abbrev Z6:FuncId:=122
abbrev N8:FuncId:=123
abbrev Z7:FuncId:=124
abbrev Bl8:FuncId:=125
abbrev A00:FuncId:=126
abbrev A67:FuncId:=127
abbrev A86:FuncId:=128
abbrev Ax9:FuncId:=129
abbrev Ei9:FuncId:=130
abbrev An9:FuncId:=131
abbrev Ej1:FuncId:=132
abbrev El4:FuncId:=133
abbrev Ej2:FuncId:=134
abbrev Es4:FuncId:=135
abbrev Ex1:FuncId:=136
abbrev Dw2:FuncId:=137
abbrev Ey3:FuncId:=138
abbrev Ey9:FuncId:=139
abbrev A90:FuncId:=140
abbrev Ae6:FuncId:=141
abbrev E9:FuncId:=142
abbrev Bg8:FuncId:=143
abbrev V5:FuncId:=144
abbrev Q3:FuncId:=145
abbrev O5:FuncId:=146
abbrev Am6:FuncId:=147
abbrev V3:FuncId:=148
abbrev Ac3:FuncId:=149
abbrev Aa8:FuncId:=150
abbrev Am0:FuncId:=151
abbrev Ax4:FuncId:=152
abbrev Ej3:FuncId:=153
abbrev Av1:FuncId:=154
abbrev Az2:FuncId:=155
abbrev A30:FuncId:=156
abbrev A28:FuncId:=157
abbrev Bc2:FuncId:=158
abbrev V1:FuncId:=159
abbrev V2:FuncId:=160
abbrev Bb2:FuncId:=161
abbrev V7:FuncId:=162
abbrev Aa0:FuncId:=163
abbrev Bh6:FuncId:=164
abbrev G3:FuncId:=165
abbrev V4:FuncId:=166
abbrev Ay8:FuncId:=167
abbrev Ab4:FuncId:=172
abbrev Ab7:FuncId:=173
abbrev G7:FuncId:=174
abbrev E5:FuncId:=175
abbrev B18:FuncId:=176
abbrev P2:FuncId:=177
abbrev A39:FuncId:=178
abbrev H4:FuncId:=179
abbrev Ak9:FuncId:=180
abbrev As9:FuncId:=181
abbrev Z9:FuncId:=182
abbrev Af8:FuncId:=183
abbrev Ai9:FuncId:=184
abbrev A77:FuncId:=185
abbrev Ao6:FuncId:=186
abbrev A71:FuncId:=187
abbrev Q5:FuncId:=194
abbrev N7:FuncId:=195
abbrev Ao2:FuncId:=196
abbrev Bk6:FuncId:=197
abbrev Bk8:FuncId:=198
abbrev P8:FuncId:=199
abbrev Af4:FuncId:=200
abbrev Aa4:FuncId:=201
abbrev Be7:FuncId:=202
abbrev At7:FuncId:=203
abbrev Aj0:FuncId:=206
abbrev Az8:FuncId:=207
abbrev At3:FuncId:=208
abbrev D0:FuncId:=209
abbrev A31:FuncId:=210
abbrev Ao8:FuncId:=211
abbrev O4:FuncId:=212
abbrev W5:FuncId:=213
abbrev Ap6:FuncId:=214
abbrev As0:FuncId:=215
abbrev Ar2:FuncId:=216
abbrev D6:FuncId:=217
abbrev I1:FuncId:=218
abbrev W4:FuncId:=219
abbrev A73:FuncId:=220
abbrev Du3:FuncId:=223
abbrev D4:FuncId:=224
abbrev E8:FuncId:=225
abbrev Ac9:FuncId:=226
abbrev Ae7:FuncId:=229
abbrev A27:FuncId:=230
abbrev Di1:FuncId:=231
abbrev Bi3:FuncId:=232
abbrev B07:FuncId:=233
abbrev Dk5:FuncId:=234
abbrev Ar7:FuncId:=235
abbrev Ak3:FuncId:=238
abbrev Bj2:FuncId:=239
abbrev B5:TypeId:=3
abbrev D39:TypeId:=4
abbrev A5:TypeId:=5
abbrev Dn3:TypeId:=30
abbrev B16:TypeId:=33
abbrev I4:TypeId:=40
abbrev M9:TypeId:=48
abbrev Gg3:TypeId:=50
abbrev D2:TypeId:=52
abbrev Eo3:TypeId:=55
abbrev Az7:TypeId:=58
abbrev H8:TypeId:=67
abbrev Z4:TypeId:=76
abbrev D9:TypeId:=99
abbrev B39:TypeId:=109
abbrev Dh8:TypeId:=115
abbrev D7:TypeId:=120
abbrev D05:TypeId:=132
abbrev Dn6:TypeId:=147
abbrev Aw6:TypeId:=150
abbrev O0:TypeId:=161
abbrev I5:TypeId:=180
abbrev Aw4:TypeId:=187
abbrev O9:TypeId:=194
abbrev Ez5:TypeId:=200
abbrev D55:TypeId:=204
abbrev Ba7:TypeId:=205
abbrev Dv9:TypeId:=218
abbrev G5:TypeId:=219
abbrev At1:TypeId:=222
abbrev Bf6:TypeId:=227
abbrev Et4:TypeId:=249
abbrev Ee3:TypeId:=250
abbrev Aw5:TypeId:=257
abbrev E22:TypeId:=259
abbrev Ek5:TypeId:=263
abbrev Ep6:TypeId:=267
abbrev A48:TypeId:=268
abbrev Bo4:TypeId:=270
abbrev E25:TypeId:=272
abbrev Bw0:TypeId:=283
abbrev Al1:TypeId:=285
abbrev Bo6:TypeId:=289
abbrev Bp7:TypeId:=303
abbrev Aj3:TypeId:=307
abbrev En3:TypeId:=312
abbrev Bi8:TypeId:=314
abbrev Ie6:TypeId:=328
end Go.EQ

set_option maxRecDepth 100000
namespace Go.EQ
open Go Go.NN Go.Proofs
variable (C : A3) (R : A4)
noncomputable section
def Ds5:Cuts:={ globs:=0,loops:=[],regs:=[],plans:=[] }
def Er9:List Item:=A7 Tryz.f14
theorem Gx8 (C:A3) (R:A4)  (h:H) :
 A6 PR Ds5 C R By0 Tryz.f14 100000 true Er9 [] h =
 nw (.cells B16 false [.slice none 0 0,.slice none 0 0,.int .i64 0]) h fun b w=>nw (.cells D39 false [.bool false,.bool false]) w fun b_1 w1=>nw (.cells B39 false [.int .i64 0,.int .i64 1,.int .i64 1,.int .i64 0]) w1 fun b_2 w2=>pAgg ⟨b,0,none⟩ [.slice (some ⟨b_1,0,none⟩) 2 2,.slice (some ⟨b_2,0,none⟩) 2 2,.int .i64 5] w2 fun w3=>gAgg ⟨b,0,none⟩ 3 w3 fun x=>some (.agg ⟨x⟩,w3):=by kernel_rfl
def Bz3:Cuts:={ globs:=0,loops:=[(9,[6,7,8,9,10,11,12])],regs:=[],plans:=[] }
def Dr3:List Item:=A7 Tryz.f31
def Be0:List Item:=stk [0,1,0,1,0,1,0,1,0,1,0,1,0,1,0,0,1,4,5] Dr3
theorem G35 (C:A3) (R:A4) (b:Option Addr) (bn bc:Nat) (h:H) :
 A6 PR Bz3 C R Ae2 Tryz.f31 100000 true Dr3 [(0,.slice b bn bc)] h =
 bnd (C By0 [] h) fun r w=>aAgg r fun x=>bnd (C Bh2 [.agg ⟨x⟩] w) fun r_1 w1=>as4 r_1 fun r_2 r_3 r_4 r_5=>aPtr r_2 fun x_1=>aPtr r_3 fun x_2=>aPtr r_4 fun x_3=>aPtr r_5 fun x_4=>bnd (cond x_2.isNone (some (true,w1)) (some (((bn:Nat):Int) != 492,w1))) fun c w2=>cond c
 (some (.tuple ⟨[.pointer none,.pointer none,.pointer none,.pointer none]⟩,w2))
 (nw (.cells Az7 false [.int .i64 0,.int .i64 0,.int .i64 0,.int .i64 0,.int .i64 0,.int .i64 0,.slice none 0 0]) w2 fun b_1 w3=>pAgg ⟨b_1,0,none⟩ [.int .i64 2,.int .i64 256,.int .i64 0,.int .i64 0,.int .i64 0,.int .i64 0,.slice b bn bc] w3 fun w4=>bnd (C P4 [.agg ⟨[.int .i64 0,.int .i64 0,.int .i64 1,.int .i64 1,.int .u8 0,.int .u8 0,.int .u8 0,.int .u8 0,.int .u8 0,.int .u8 0,.int .u8 0,.int .u8 0,.int .u8 0,.int .u8 0,.int .u8 0,.int .u8 0,.int .u8 0,.int .u8 0,.int .u8 0,.int .u8 0,.int .u8 0,.int .u8 0,.int .u8 0,.int .u8 0,.int .u8 0,.int .u8 0,.int .u8 0,.int .u8 0,.int .u8 0,.int .u8 0,.int .u8 0,.int .u8 0,.int .u8 0,.int .u8 0,.int .u8 0,.int .u8 0]⟩] w4) fun r_6 w5=>aStr r_6 fun x_5=>gAgg ⟨b_1,0,none⟩ 7 w5 fun x_6=>bnd (C S7 [.pointer x_1,.int .i64 0,.agg ⟨x_6⟩] w5) fun r_7 w6=>aAgg r_7 fun _=>gAgg ⟨b_1,0,none⟩ 7 w6 fun x_8=>bnd (C As5 [.pointer x_3,.int .i64 0,.agg ⟨x_8⟩] w6) fun r_8 w7=>as3 r_8 fun r_9 r_10 r_11=>aInt .i64 r_9 fun _=>aInt .i64 r_10 fun _=>aStr r_11 fun _=>R Ae2 Be0 [(6,.pointer x_1),(7,.pointer x_2),(8,.pointer x_3),(9,.pointer x_4),(10,.pointer (some ⟨b_1,0,none⟩)),(11,.string x_5),(12,.int .i64 1)] w7):=by kernel_rfl
theorem B36 (C:A3) (R:A4) (k:Option Addr) (c:Option Addr) (wv:Option Addr) (m:Option Addr) (x:Addr) (pipe:ByteArray) (i:Int) (h:H) :
 A6 PR Bz3 C R Ae2 Tryz.f31 100000 true Be0 [(6,.pointer k),(7,.pointer c),(8,.pointer wv),(9,.pointer m),(10,.pointer (some x)),(11,.string pipe),(12,.int .i64 i)] h =
 cond (decide (i<3))
 (ck (ByteArray.size pipe≤B4) (nw (.cells A5 false (A0 (ByteArray.data pipe).toList)) h fun b w=>pAgg x [.int .i64 2,.int .i64 (IntKind.wrap .i64 (256+i)),.int .i64 0,.int .i64 0,.int .i64 0,.int .i64 0,.slice (some (L8 b)) (ByteArray.size pipe) (ByteArray.size pipe)] w fun w1=>gAgg x 7 w1 fun x_1=>bnd (C S7 [.pointer k,.int .i64 0,.agg ⟨x_1⟩] w1) fun r w2=>aAgg r fun _=>gAgg x 7 w2 fun x_3=>bnd (C As5 [.pointer wv,.int .i64 0,.agg ⟨x_3⟩] w2) fun r_1 w3=>as3 r_1 fun r_2 r_3 r_4=>aInt .i64 r_2 fun _=>aInt .i64 r_3 fun _=>aStr r_4 fun _=>R Ae2 Be0 [(6,.pointer k),(7,.pointer c),(8,.pointer wv),(9,.pointer m),(10,.pointer (some x)),(11,.string pipe),(12,.int .i64 (IntKind.wrap .i64 (i+1)))] w3))
 (some (.tuple ⟨[.pointer k,.pointer c,.pointer wv,.pointer m]⟩,h)):=by kernel_rfl
def A07:Cuts:={ globs:=0,loops:=[],regs:=[],plans:=[] }
def Bp8:List Item:=A7 Tryz.f48
theorem D15 (C:A3) (R:A4) (c:Option Addr) (h:H) :
 A6 PR A07 C R Aj6 Tryz.f48 100000 true Bp8 [(0,.pointer c)] h =
 nw (.cells I4 false [.int .i64 0,.int .i64 0,.int .i64 0,.int .i64 0,.int .u8 0,.int .u8 0,.int .u8 0,.int .u8 0,.int .u8 0,.int .u8 0,.int .u8 0,.int .u8 0,.int .u8 0,.int .u8 0,.int .u8 0,.int .u8 0,.int .u8 0,.int .u8 0,.int .u8 0,.int .u8 0,.int .u8 0,.int .u8 0,.int .u8 0,.int .u8 0,.int .u8 0,.int .u8 0,.int .u8 0,.int .u8 0,.int .u8 0,.int .u8 0,.int .u8 0,.int .u8 0,.int .u8 0,.int .u8 0,.int .u8 0,.int .u8 0]) h fun b w=>bnd (C I0 [.pointer c,.agg ⟨[.int .i64 4,.int .i64 0]⟩,.func (.func Aw7) ⟨[]⟩ ⟨[]⟩] w) fun r w1=>as2 r fun r_1 r_2=>aAgg r_1 fun x=>aInt .i64 r_2 fun x_1=>ck (List.length x=36) (pAgg ⟨b,0,none⟩ x w1 fun w2=>gAgg ⟨b,0,none⟩ 36 w2 fun x_2=>some (.tuple ⟨[.agg ⟨x_2⟩,.int .i64 x_1]⟩,w2)):=by kernel_rfl
def Aw0:Cuts:={ globs:=0,loops:=[],regs:=[],plans:=[] }
def Bm3:List Item:=A7 Tryz.f49
theorem Dt1 (C:A3) (R:A4) (c:Option Addr) (h:H) :
 A6 PR Aw0 C R Ah4 Tryz.f49 100000 true Bm3 [(0,.pointer c)] h =
 bnd (C Q6 [.pointer c,.agg ⟨[.int .i64 5,.int .i64 0]⟩,.func (.func An2) ⟨[]⟩ ⟨[]⟩] h) fun r w=>as2 r fun r_1 r_2=>aInt .i64 r_1 fun x=>aInt .i64 r_2 fun x_1=>some (.tuple ⟨[.int .i64 x,.bool (x_1==1)]⟩,w):=by kernel_rfl
def A35:Cuts:={ globs:=0,loops:=[(3,[1,2,3,4]),(7,[1,2,3,4,5]),(13,[1,2,3,6])],regs:=[],plans:=[] }
def Bi1:List Item:=A7 Tryz.f50
def Be8:List Item:=stk [0,1,0,1,0,0,1,4,5] Bi1
def Ax3:List Item:=stk [0,1,0,1,0,0,1,4,5,6,0,1,0,4,0,1,0,0,1,4,5] Bi1
def Be2:List Item:=stk [0,1,0,1,0,1,0,0,1,4,5] Bi1
theorem G67 (C:A3) (R:A4) (p:List Value) (h:H) :
 A6 PR A35 C R I7 Tryz.f50 100000 true Bi1 [(0,.agg ⟨p⟩)] h =
 nw (.cells B16 false p) h fun b w=>nw (.cells D9 false [.slice none 0 0,.slice none 0 0,.slice none 0 0,.int .i64 0,.slice none 0 0]) w fun b_1 w1=>gInt .i64 (Addr.add ⟨b,0,none⟩ 2) w1 fun x=>nw (.cells D9 false [.slice none 0 0,.slice none 0 0,.slice none 0 0,.int .i64 0,.slice none 0 0]) w1 fun b_2 w2=>pAgg ⟨b_2,0,none⟩ [.slice none 0 0,.slice none 0 0,.slice none 0 0,.int .i64 x,.slice none 0 0] w2 fun w3=>R I7 Be8 [(1,.pointer (some ⟨b,0,none⟩)),(2,.pointer (some ⟨b_1,0,none⟩)),(3,.pointer (some ⟨b_2,0,none⟩)),(4,.int .i64 0)] w3:=by kernel_rfl
theorem Du1 (C:A3) (R:A4) (p:Addr) (x2:Addr) (b:Addr) (s:Int) (h:H) :
 A6 PR A35 C R I7 Tryz.f50 100000 true Be8 [(1,.pointer (some p)),(2,.pointer (some x2)),(3,.pointer (some b)),(4,.int .i64 s)] h =
 gSl (Addr.add p 0) h fun _ xn _=>cond (decide (s<((xn:Nat):Int)))
 (gSl (Addr.add b 0) h fun x_1 xn_1 xc_1=>nw (.cells B5 false [.int .i64 20]) h fun b_1 w=>gCells (some ⟨b_1,0,none⟩) (1*1) w fun cs=>ckB (fitsOpen x_1 B5 w) (apd B5 1 x_1 xn_1 xc_1 1 cs w fun a an ac w1=>pV (Addr.add b 0) (.slice a an ac) w1 fun w2=>R I7 Ax3 [(1,.pointer (some p)),(2,.pointer (some x2)),(3,.pointer (some b)),(4,.int .i64 s),(5,.int .i64 0)] w2))
 (R I7 Be2 [(1,.pointer (some p)),(2,.pointer (some x2)),(3,.pointer (some b)),(6,.int .i64 0)] h):=by kernel_rfl
theorem Dw7 (C:A3) (R:A4) (p:Addr) (x2:Addr) (b:Addr) (s:Int) (i:Int) (h:H) :
 A6 PR A35 C R I7 Tryz.f50 100000 true Ax3 [(1,.pointer (some p)),(2,.pointer (some x2)),(3,.pointer (some b)),(4,.int .i64 s),(5,.int .i64 i)] h =
 cond (decide (i<9))
 (gSl (Addr.add b 1) h fun x xn xc=>nw (.cells B5 false [.int .i64 s]) h fun b_1 w=>gCells (some ⟨b_1,0,none⟩) (1*1) w fun cs=>ckB (fitsOpen x B5 w) (apd B5 1 x xn xc 1 cs w fun a an ac w1=>pV (Addr.add b 1) (.slice a an ac) w1 fun w2=>R I7 Ax3 [(1,.pointer (some p)),(2,.pointer (some x2)),(3,.pointer (some b)),(4,.int .i64 s),(5,.int .i64 (IntKind.wrap .i64 (i+1)))] w2))
 (gSl (Addr.add b 2) h fun x_1 xn_1 xc_1=>nw (.cells B5 false [.int .i64 s]) h fun b_2 w3=>nw (.cells M9 false [.slice (some ⟨b_2,0,none⟩) 1 1]) w3 fun b_3 w4=>gCells (some ⟨b_3,0,none⟩) (1*1) w4 fun cs_1=>ckB (fitsOpen x_1 M9 w4) (apd M9 1 x_1 xn_1 xc_1 1 cs_1 w4 fun a_1 an_1 ac_1 w5=>pV (Addr.add b 2) (.slice a_1 an_1 ac_1) w5 fun w6=>gSl (Addr.add b 4) w6 fun x_2 xn_2 xc_2=>nw (.cells B5 false [.int .i64 s]) w6 fun b_4 w7=>nw (.cells I5 false [.int .i64 s,.int .i64 0,.int .i64 0,.int .i64 492,.slice (some ⟨b_4,0,none⟩) 1 1]) w7 fun b_5 w8=>gCells (some ⟨b_5,0,none⟩) (1*5) w8 fun cs_2=>ckB (fitsOpen x_2 I5 w8) (apd I5 5 x_2 xn_2 xc_2 1 cs_2 w8 fun a_2 an_2 ac_2 w9=>pV (Addr.add b 4) (.slice a_2 an_2 ac_2) w9 fun w10=>R I7 Be8 [(1,.pointer (some p)),(2,.pointer (some x2)),(3,.pointer (some b)),(4,.int .i64 (IntKind.wrap .i64 (s+1)))] w10))):=by kernel_rfl
theorem Dy1 (C:A3) (R:A4) (p:Addr) (x2:Addr) (b:Addr) (i:Int) (h:H) :
 A6 PR A35 C R I7 Tryz.f50 100000 true Be2 [(1,.pointer (some p)),(2,.pointer (some x2)),(3,.pointer (some b)),(6,.int .i64 i)] h =
 gSl (Addr.add p 1) h fun _ xn _=>cond (decide (i<((xn:Nat):Int)))
 (gSl (Addr.add p 1) h fun x_1 xn_1 _=>aSome x_1 fun p_1=>ck ((0:Int)≤i∧i<((xn_1:Nat):Int)) (gAgg (Addr.add (B7 p_1) (Int.toNat i*2)) 2 h fun x_2=>nw (.cells B39 false [.int .i64 0,.int .i64 0]) h fun b_1 w=>ck (List.length x_2=2) (pAgg ⟨b_1,0,none⟩ x_2 w fun w1=>gSl (Addr.add b 4) w1 fun x_3 xn_2 xc_2=>gInt .i64 (Addr.add ⟨b_1,0,none⟩ 0) w1 fun x_4=>gInt .i64 (Addr.add ⟨b_1,0,none⟩ 0) w1 fun x_5=>gInt .i64 (Addr.add ⟨b_1,0,none⟩ 1) w1 fun x_6=>nw (.cells B5 false [.int .i64 x_5,.int .i64 x_6]) w1 fun b_2 w2=>nw (.cells I5 false [.int .i64 x_4,.int .i64 (IntKind.wrap .i64 (8+i)),.int .i64 0,.int .i64 40,.slice (some ⟨b_2,0,none⟩) 2 2]) w2 fun b_3 w3=>gCells (some ⟨b_3,0,none⟩) (1*5) w3 fun cs=>ckB (fitsOpen x_3 I5 w3) (apd I5 5 x_3 xn_2 xc_2 1 cs w3 fun a an ac w4=>pV (Addr.add b 4) (.slice a an ac) w4 fun w5=>R I7 Be2 [(1,.pointer (some p)),(2,.pointer (some x2)),(3,.pointer (some b)),(6,.int .i64 (IntKind.wrap .i64 (i+1)))] w5))))
 (gAgg b 5 h fun x_7=>ck (List.length x_7=5) (pAgg x2 x_7 h fun w6=>gAgg x2 5 w6 fun x_8=>some (.agg ⟨x_8⟩,w6))):=by kernel_rfl
def De4:Cuts:={ globs:=0,loops:=[],regs:=[],plans:=[(1,⟨[1,0,2,3,4,5,6],[0,0,3,7,7,31,63],[(0,[1])],[]⟩)] }
def Eh6:List Item:=A7 Tryz.f58
theorem Gu1 (C:A3) (R:A4) (p:List Value) (h:H) :
 A6 PR De4 C R Ba8 Tryz.f58 100000 true Eh6 [(0,.agg ⟨p⟩)] h =
 nw (.cells I4 false p) h fun b w=>gAgg ⟨b,0,none⟩ 36 w fun x=>bnd (C Bg8 [] w) fun r w1=>aPtr r fun x_1=>gAgg ⟨b,0,none⟩ 36 w1 fun x_2=>same (.agg ⟨x⟩) (.agg ⟨x_2⟩) (bnd (C V5 [.pointer x_1,.agg ⟨x⟩] w1) fun r_1 w2=>as2 r_1 fun r_2 r_3=>aSl r_2 fun x_3 xn xc=>aBool r_3 fun x_4=>some (.tuple ⟨[.slice x_3 xn xc,.bool x_4]⟩,w2)):=by kernel_rfl
def Av8:Cuts:={ globs:=0,loops:=[],regs:=[],plans:=[(2,⟨[0,1,2,3,4,5,6,7,8,9,10,11,12,13,14],[0,1,3,7,15,31,63,127,255,511,1023,127,4095,8191,16383],[],[]⟩),(4,⟨[0,1,2,3,4,5,6,7,8,9,10,11,12,13,14,15,16,17],[0,1,3,7,0,16,48,112,0,256,0,1024,0,7936,16383,32767,65535,131071],[],[]⟩)] }
def Bm1:List Item:=A7 Tryz.f59
theorem Dt4 (C:A3) (R:A4) (c:Option Addr) (r:List Value) (b:Option Addr) (bn bc:Nat) (ok:Bool) (h:H) :
 A6 PR Av8 C R J5 Tryz.f59 100000 true Bm1 [(0,.pointer c),(1,.agg ⟨r⟩),(2,.slice b bn bc),(3,.bool ok)] h =
 nw (.cells D7 false r) h fun b_1 w=>gAgg ⟨b_1,0,none⟩ 2 w fun x=>bnd (C Q3 [.pointer c,.agg ⟨x⟩] w) fun r_1 w1=>as2 r_1 fun r_2 r_3=>aAgg r_2 fun x_1=>aBool r_3 fun x_2=>nw (.cells Bf6 false [.int .i64 0,.int .i64 0,.int .i64 0]) w1 fun b_2 w2=>ck (List.length x_1=3) (pAgg ⟨b_2,0,none⟩ x_1 w2 fun w3=>bnd (cond (!x_2) (some (true,w3)) (some (!ok,w3))) fun c_1 w4=>bnd (cond c_1 (some (true,w4)) (aSome c fun p=>gMap (Addr.add p 3) w4 fun x_3=>gAgg ⟨b_1,0,none⟩ 2 w4 fun x_4=>keyN PR D7 (.agg ⟨x_4⟩) (opt x_3 fun r_4=>mapAt w4 r_4 fun es _=>opt (Al4 (.int .i64 0) (.agg ⟨x_4⟩) es) fun f=>aInt .i64 f.1 fun x_5=>some (decide (x_5>0),w4)))) fun c_2 w5=>cond c_2
 (some (.bool false,w5))
 (aSome c fun p_1=>gPtr (Addr.add p_1 0) w5 fun x_6=>aSome c fun p_2=>gInt .i64 (Addr.add p_2 1) w5 fun x_7=>gInt .i64 (Addr.add ⟨b_2,0,none⟩ 0) w5 fun x_8=>gInt .i64 (Addr.add ⟨b_2,0,none⟩ 1) w5 fun x_9=>bnd (C S7 [.pointer x_6,.int .i64 x_7,.agg ⟨[.int .i64 2,.int .i64 x_8,.int .i64 x_9,.int .i64 0,.int .i64 0,.int .i64 0,.slice b bn bc]⟩] w5) fun r_5 w6=>aAgg r_5 fun x_10=>nth x_10 0 fun E=>aInt .i64 E fun E_1=>some (.bool (E_1==0),w6))):=by kernel_rfl
def Ef9:Cuts:={ globs:=0,loops:=[],regs:=[],plans:=[] }
def Gb3:List Item:=A7 Tryz.f64
theorem Hm0 (C:A3) (R:A4) (n:Int) (h:H) :
 A6 PR Ef9 C R A72 Tryz.f64 100000 true Gb3 [(0,.int .i64 n)] h =
 nw (.cells A5 false [.int .u8 (IntKind.wrap .u8 (Int.fdiv n (2 ^ 8))),.int .u8 (IntKind.wrap .u8 (n))]) h fun b w=>gCells (some ⟨b,0,none⟩) 2 w fun cs=>asBytes cs fun l=>some (.string (ByteArray.mk ⟨l⟩),w):=by kernel_rfl
def B80:Cuts:={ globs:=0,loops:=[],regs:=[],plans:=[] }
def D67:List Item:=A7 Tryz.f71
theorem Gj9 (C:A3) (R:A4) (b:Option Addr) (bn bc:Nat) (h:H) :
 A6 PR B80 C R A42 Tryz.f71 100000 true D67 [(0,.slice b bn bc)] h =
 nw (.cells D2 false [.int .i64 0,.int .i64 0,.int .i64 0,.int .i64 0,.int .i64 0,.int .i64 0,.int .i64 0,.int .i64 0,.int .i64 0,.int .i64 0,.int .i64 0,.int .i64 0,.int .i64 0,.int .i64 0,.int .i64 0,.int .i64 0]) h fun b_1 w=>bnd (cond (((bn:Nat):Int)==24) (bnd (C Am6 [.slice b bn bc] w) fun r w1=>aBool r fun x=>some (x,w1)) (some (false,w))) fun c w2=>cond c
 (pAgg ⟨b_1,0,none⟩ [.int .i64 0,.int .i64 0,.int .i64 0,.int .i64 0,.int .i64 0,.int .i64 0,.int .i64 0,.int .i64 0,.int .i64 0,.int .i64 0,.int .i64 0,.int .i64 0,.int .i64 0,.int .i64 0,.int .i64 0,.int .i64 0] w2 fun w3=>gAgg ⟨b_1,0,none⟩ 16 w3 fun x_1=>some (.tuple ⟨[.agg ⟨x_1⟩,.int .i64 0]⟩,w3))
 (bnd (C Bc2 [] w2) fun r_1 w4=>aPtr r_1 fun x_2=>bnd (C V1 [.pointer x_2,.slice b bn bc] w4) fun r_2 w5=>as2 r_2 fun r_3 r_4=>aAgg r_3 fun x_3=>aBool r_4 fun x_4=>nw (.cells D2 false [.int .i64 0,.int .i64 0,.int .i64 0,.int .i64 0,.int .i64 0,.int .i64 0,.int .i64 0,.int .i64 0,.int .i64 0,.int .i64 0,.int .i64 0,.int .i64 0,.int .i64 0,.int .i64 0,.int .i64 0,.int .i64 0]) w5 fun b_2 w6=>ck (List.length x_3=16) (pAgg ⟨b_2,0,none⟩ x_3 w6 fun w7=>cond (!x_4)
 (pAgg ⟨b_1,0,none⟩ [.int .i64 0,.int .i64 0,.int .i64 0,.int .i64 0,.int .i64 0,.int .i64 0,.int .i64 0,.int .i64 0,.int .i64 0,.int .i64 0,.int .i64 0,.int .i64 0,.int .i64 0,.int .i64 0,.int .i64 0,.int .i64 0] w7 fun w8=>gAgg ⟨b_1,0,none⟩ 16 w8 fun x_5=>some (.tuple ⟨[.agg ⟨x_5⟩,.int .i64 2]⟩,w8))
 (gAgg ⟨b_2,0,none⟩ 16 w7 fun x_6=>ck (List.length x_6=16) (pAgg ⟨b_1,0,none⟩ x_6 w7 fun w9=>gAgg ⟨b_1,0,none⟩ 16 w9 fun x_7=>some (.tuple ⟨[.agg ⟨x_7⟩,.int .i64 1]⟩,w9))))):=by kernel_rfl
def Aw3:Cuts:={ globs:=0,loops:=[],regs:=[],plans:=[(2,⟨[0,1,2,3,4,5,6,7],[0,0,0,4,12,0,63,127],[],[]⟩)] }
def Bm2:List Item:=A7 Tryz.f73
theorem Dt6 (C:A3) (R:A4) (c:Option Addr) (r:List Value) (h:H) :
 A6 PR Aw3 C R Q2 Tryz.f73 100000 true Bm2 [(0,.pointer c),(1,.agg ⟨r⟩)] h =
 nw (.cells D7 false r) h fun b w=>gAgg ⟨b,0,none⟩ 2 w fun x=>bnd (C Q3 [.pointer c,.agg ⟨x⟩] w) fun r_1 w1=>as2 r_1 fun r_2 r_3=>aAgg r_2 fun x_1=>aBool r_3 fun x_2=>nw (.cells Bf6 false [.int .i64 0,.int .i64 0,.int .i64 0]) w1 fun b_1 w2=>ck (List.length x_1=3) (pAgg ⟨b_1,0,none⟩ x_1 w2 fun w3=>gAgg ⟨b,0,none⟩ 2 w3 fun x_3=>gInt .i64 (Addr.add ⟨b_1,0,none⟩ 2) w3 fun x_4=>ck ((0:Int)≤x_4∧(x_4:Int)≤x_4∧x_4≤(B4:Int)) (nw (.cells A5 false (H3 (Int.toNat x_4) [.int .u8 0])) w3 fun b_2 w4=>bnd (C J5 [.pointer c,.agg ⟨x_3⟩,.slice (some ⟨b_2,0,none⟩) (Int.toNat x_4) (Int.toNat x_4),.bool x_2] w4) fun r_4 w5=>aBool r_4 fun x_5=>some (.bool x_5,w5))):=by kernel_rfl
def A23:Cuts:={ globs:=0,loops:=[(4,[1,3,4])],regs:=[],plans:=[] }
def Bn2:List Item:=A7 Tryz.f77
def Aq3:List Item:=stk [0,1,0,1,0,1,0,0,1,4,5] Bn2
theorem Ey8 (C:A3) (R:A4) (p:List Value) (h:H) :
 A6 PR A23 C R P4 Tryz.f77 100000 true Bn2 [(0,.agg ⟨p⟩)] h =
 nw (.cells I4 false p) h fun b w=>gInt .i64 (Addr.add ⟨b,0,none⟩ 0) w fun x=>gInt .i64 (Addr.add ⟨b,0,none⟩ 1) w fun x_1=>gInt .i64 (Addr.add ⟨b,0,none⟩ 2) w fun x_2=>gInt .i64 (Addr.add ⟨b,0,none⟩ 3) w fun x_3=>nw (.cells A5 false [.int .u8 1,.int .u8 (IntKind.wrap .u8 (x)),.int .u8 (IntKind.wrap .u8 (x_1)),.int .u8 (IntKind.wrap .u8 (x_2)),.int .u8 (IntKind.wrap .u8 (x_3)),.int .u8 197]) w fun b_1 w1=>gCells (some ⟨b_1,0,none⟩) 6 w1 fun cs=>asBytes cs fun l=>bnd (C Ae1 [.string (ByteArray.mk ⟨l⟩)] w1) fun r w2=>aInt .u8 r fun x_4=>nw (.cells A5 false [.int .u8 x_4,.int .u8 0]) w2 fun b_2 w3=>gCells (some ⟨b_2,0,none⟩) 2 w3 fun cs_1=>asBytes cs_1 fun l_1=>ck (ByteArray.size (ByteArray.mk ⟨l⟩)+ByteArray.size (ByteArray.mk ⟨l_1⟩)≤B4) (R P4 Aq3 [(1,.pointer (some ⟨b,0,none⟩)),(3,.string ((ByteArray.mk ⟨l⟩)++(ByteArray.mk ⟨l_1⟩))),(4,.int .i64 0)] w3):=by kernel_rfl
theorem B27 (C:A3) (R:A4) (p:Addr) (s:ByteArray) (i:Int) (h:H) :
 A6 PR A23 C R P4 Tryz.f77 100000 true Aq3 [(1,.pointer (some p)),(3,.string s),(4,.int .i64 i)] h =
 cond (decide (i<32))
 (ck ((0:Int)≤i∧i<((32:Nat):Int)) (gInt .u8 (Addr.add (Addr.add p 4) (Int.toNat i*1)) h fun x=>nw (.cells A5 false [.int .u8 x]) h fun b w=>gCells (some ⟨b,0,none⟩) 1 w fun cs=>asBytes cs fun l=>ck (ByteArray.size s+ByteArray.size (ByteArray.mk ⟨l⟩)≤B4) (R P4 Aq3 [(1,.pointer (some p)),(3,.string (s++(ByteArray.mk ⟨l⟩))),(4,.int .i64 (IntKind.wrap .i64 (i+1)))] w)))
 (some (.string s,h)):=by kernel_rfl
def Bs4:Cuts:={ globs:=0,loops:=[(2,[0,8,9,10])],regs:=[],plans:=[] }
def Df8:List Item:=A7 Tryz.f87
def At9:List Item:=stk [0,1,0,1,4,5] Df8
theorem Gt4 (C:A3) (R:A4) (c:Option Addr) (i:Int) (h:H) :
 A6 PR Bs4 C R Ab8 Tryz.f87 100000 true Df8 [(0,.pointer c),(1,.int .i64 i)] h =
 nw (.cells B5 false [.int .i64 i]) h fun b w=>bnd (C Aa7 [.pointer c,.func (.func Ay8) ⟨[]⟩ ⟨[.pointer (some ⟨b,0,none⟩)]⟩] w) fun r w1=>aSl r fun x xn xc=>R Ab8 At9 [(0,.pointer c),(8,.slice x xn xc),(9,.int .i64 ((xn:Nat):Int)),(10,.int .i64 0)] w1:=by kernel_rfl
theorem Do6 (C:A3) (R:A4) (c:Option Addr) (x8:Option Addr) (x8n x8c:Nat) (x9:Int) (x10:Int) (h:H) :
 A6 PR Bs4 C R Ab8 Tryz.f87 100000 true At9 [(0,.pointer c),(8,.slice x8 x8n x8c),(9,.int .i64 x9),(10,.int .i64 x10)] h =
 cond (decide (x10<x9))
 (aSome x8 fun p=>ck ((0:Int)≤x10∧x10<((x8n:Nat):Int)) (gAgg (Addr.add (B7 p) (Int.toNat x10*17)) 17 h fun x=>nw (.cells O0 false [.int .i64 0,.int .i64 0,.int .i64 0,.int .i64 0,.int .i64 0,.int .i64 0,.int .i64 0,.int .i64 0,.int .i64 0,.int .i64 0,.int .i64 0,.int .i64 0,.int .i64 0,.int .i64 0,.int .i64 0,.int .i64 0,.int .i64 0]) h fun b w=>ck (List.length x=17) (pAgg ⟨b,0,none⟩ x w fun w1=>gAgg ⟨b,0,none⟩ 17 w1 fun x_1=>bnd (C An7 [.agg ⟨x_1⟩] w1) fun r w2=>aBool r fun x_2=>cond (!x_2)
 (gInt .i64 (Addr.add ⟨b,0,none⟩ 0) w2 fun x_3=>bnd (C J0 [.pointer c,.int .i64 x_3] w2) fun r_1 w3=>aBool r_1 fun _=>R Ab8 At9 [(0,.pointer c),(8,.slice x8 x8n x8c),(9,.int .i64 x9),(10,.int .i64 (IntKind.wrap .i64 (x10+1)))] w3)
 (pV (Addr.add (Addr.add ⟨b,0,none⟩ 1) 1) (.int .i64 0) w2 fun w4=>gInt .i64 (Addr.add ⟨b,0,none⟩ 0) w4 fun x_5=>gAgg (Addr.add ⟨b,0,none⟩ 1) 16 w4 fun x_6=>bnd (C J9 [.pointer c,.int .i64 x_5,.agg ⟨x_6⟩] w4) fun r_2 w5=>aBool r_2 fun _=>R Ab8 At9 [(0,.pointer c),(8,.slice x8 x8n x8c),(9,.int .i64 x9),(10,.int .i64 (IntKind.wrap .i64 (x10+1)))] w5))))
 (some (.tuple ⟨[]⟩,h)):=by kernel_rfl
def Ap7:Cuts:={ globs:=0,loops:=[],regs:=[(8,[8,11,12])],plans:=[(7,⟨[0,1,2,3,4,5,6,7,8,9],[0,1,3,7,0,31,63,31,159,511],[(7,[5])],[]⟩)] }
def A88:List Item:=A7 Tryz.f108
def Aw1:List Item:=stk [0,1,0,1,0,1,0,1,0,1,0,1,0,0] A88
theorem D98 (C:A3) (R:A4) (c:Option Addr) (r:List Value) (decode:Value) (h:H) :
 A6 PR Ap7 C R Q6 Tryz.f108 100000 true A88 [(0,.pointer c),(1,.agg ⟨r⟩),(2,decode)] h =
 nw (.cells D7 false r) h fun b w=>gAgg ⟨b,0,none⟩ 2 w fun x=>bnd (C O5 [.pointer c,.agg ⟨x⟩] w) fun r_1 w1=>as2 r_1 fun r_2 r_3=>aSl r_2 fun x_1 xn xc=>aBool r_3 fun x_2=>cond (!x_2)
 (some (.tuple ⟨[.int .i64 0,.int .i64 2]⟩,w1))
 (aFn decode fun g fi cp=>bnd (C g (fi++([.slice x_1 xn xc]++cp)) w1) fun r_4 w2=>as2 r_4 fun r_5 r_6=>aInt .i64 r_5 fun x_3=>aInt .i64 r_6 fun x_4=>cond (x_4==2)
 (aSome c fun p=>gMap (Addr.add p 3) w2 fun x_5=>gAgg ⟨b,0,none⟩ 2 w2 fun x_6=>keyN PR D7 (.agg ⟨x_6⟩) (opt x_5 fun r_7=>mapAt w2 r_7 fun es _=>opt (Al4 (.int .i64 0) (.agg ⟨x_6⟩) es) fun f=>aInt .i64 f.1 fun x_7=>keyN PR D7 (.agg ⟨x_6⟩) (opt x_5 fun r_8=>mapAt w2 r_8 fun es_1 cl_1=>opt (D18 (.int .i64 0) (.agg ⟨x_6⟩) es_1 cl_1) fun f_1=>aInt .i64 f_1.1 fun _=>lt (H.set w2 r_8 f_1.2.2) fun w3=>keyN PR D7 (.agg ⟨x_6⟩) (opt x_5 fun r_9=>mapAt w3 r_9 fun es_2 _=>opt (Al4 (.int .i64 0) (.agg ⟨x_6⟩) es_2) fun f_2=>aInt .i64 f_2.1 fun x_9=>same (.int .i64 x_7) (.int .i64 x_9) (opt x_5 fun r_10=>mapAt w3 r_10 fun es_3 cl_3=>opt (Bj8 (f_1.2.1:Int) es_3 0) fun i=>lt (H.set w3 r_10 (.map (modN (fun e=>{ e with val:=.int .i64 (IntKind.wrap .i64 (x_7+1)) }) i es_3) cl_3)) fun w4=>R Q6 Aw1 [(8,.int .i64 0),(11,.int .i64 x_3),(12,.int .i64 x_4)] w4)))))
 (R Q6 Aw1 [(8,.int .i64 0),(11,.int .i64 x_3),(12,.int .i64 x_4)] w2)):=by kernel_rfl
theorem Bm0 (C:A3) (R:A4) (nonev:Int) (v:Int) (isv:Int) (h:H) :
 A6 PR Ap7 C R Q6 Tryz.f108 100000 true Aw1 [(8,.int .i64 nonev),(11,.int .i64 v),(12,.int .i64 isv)] h =
 cond (isv != 1)
 (some (.tuple ⟨[.int .i64 nonev,.int .i64 isv]⟩,h))
 (some (.tuple ⟨[.int .i64 v,.int .i64 isv]⟩,h)):=by kernel_rfl
def Bn7:Cuts:={ globs:=0,loops:=[],regs:=[],plans:=[] }
def Dh7:List Item:=A7 Tryz.f109
theorem Ex4 (C:A3) (R:A4) (b:Option Addr) (bn bc:Nat) (h:H) :
 A6 PR Bn7 C R An2 Tryz.f109 100000 true Dh7 [(0,.slice b bn bc)] h =
 cond (((bn:Nat):Int) != 4)
 (some (.tuple ⟨[.int .i64 0,.int .i64 2]⟩,h))
 (aSome b fun p=>ck ((0:Int)≤0∧0<((bn:Nat):Int)) (gInt .u8 (Addr.add (B7 p) (Int.toNat 0*1)) h fun x=>bnd (C Ap5 [.int .i64 (IntKind.wrap .i64 (x))] h) fun r w=>as2 r fun r_1 r_2=>aSl r_1 fun x_1 xn _=>aBool r_2 fun x_2=>bnd (cond (!x_2) (some (true,w)) (gCells x_1 xn w fun cs=>asBytes cs fun l=>gCells b bn w fun cs_1=>asBytes cs_1 fun l_1=>some (!((ByteArray.mk ⟨l⟩).toList==(ByteArray.mk ⟨l_1⟩).toList),w))) fun c w1=>cond c
 (some (.tuple ⟨[.int .i64 0,.int .i64 2]⟩,w1))
 (aSome b fun p_1=>ck ((0:Int)≤0∧0<((bn:Nat):Int)) (gInt .u8 (Addr.add (B7 p_1) (Int.toNat 0*1)) w1 fun x_3=>some (.tuple ⟨[.int .i64 (IntKind.wrap .i64 (x_3)),.int .i64 1]⟩,w1))))):=by kernel_rfl
def Da4:Cuts:={ globs:=0,loops:=[(3,[3,12,13,14])],regs:=[],plans:=[(5,⟨[0,1,2,3,4,5,6,7,8,9,10,11,12,13],[0,0,2,6,14,0,32,96,224,480,1022,2047,4095,8191],[],[]⟩)] }
def D16:List Item:=A7 Tryz.f115
def Bk0:List Item:=stk [0,1,0,1,0,0,1,4,5] D16
theorem Hf1 (C:A3) (R:A4) (frames:Option Addr) (framesn framesc:Nat) (h:H) :
 A6 PR Da4 C R Ar5 Tryz.f115 100000 true D16 [(0,.slice frames framesn framesc)] h =
 nw (.cells Aw5 false [.slice none 0 0]) h fun b w=>ckB (fitsOpen frames B5 w) (ck ((0:Int)≤mm2 false ((framesn:Nat):Int) 4∧mm2 false ((framesn:Nat):Int) 4≤((framesc:Nat):Int)) (R Ar5 Bk0 [(3,.pointer (some ⟨b,0,none⟩)),(12,.slice (H2 frames (decide (0<framesc)) (0*1)) ((Int.toNat (mm2 false ((framesn:Nat):Int) 4))-0) (framesc-0)),(13,.int .i64 (((Int.toNat (mm2 false ((framesn:Nat):Int) 4))-0:Nat):Int)),(14,.int .i64 0)] w)):=by kernel_rfl
theorem D48 (C:A3) (R:A4) (q:Addr) (x12:Option Addr) (x12n x12c:Nat) (x13:Int) (x14:Int) (h:H) :
 A6 PR Da4 C R Ar5 Tryz.f115 100000 true Bk0 [(3,.pointer (some q)),(12,.slice x12 x12n x12c),(13,.int .i64 x13),(14,.int .i64 x14)] h =
 cond (decide (x14<x13))
 (aSome x12 fun p=>ck ((0:Int)≤x14∧x14<((x12n:Nat):Int)) (gInt .i64 (Addr.add (B7 p) (Int.toNat x14*1)) h fun x=>gSl (Addr.add q 0) h fun x_1 xn xc=>ck ((0:Int)≤mm2 false (mm2 true x 0) 64∧(mm2 false (mm2 true x 0) 64:Int)≤mm2 false (mm2 true x 0) 64∧mm2 false (mm2 true x 0) 64≤(B4:Int)) (nw (.cells B5 false (H3 (Int.toNat (mm2 false (mm2 true x 0) 64)) [.int .i64 0])) h fun b w=>nw (.cells M9 false [.slice (some ⟨b,0,none⟩) (Int.toNat (mm2 false (mm2 true x 0) 64)) (Int.toNat (mm2 false (mm2 true x 0) 64))]) w fun b_1 w1=>gCells (some ⟨b_1,0,none⟩) (1*1) w1 fun cs=>ckB (fitsOpen x_1 M9 w1) (apd M9 1 x_1 xn xc 1 cs w1 fun a an ac w2=>pV (Addr.add q 0) (.slice a an ac) w2 fun w3=>R Ar5 Bk0 [(3,.pointer (some q)),(12,.slice x12 x12n x12c),(13,.int .i64 x13),(14,.int .i64 (IntKind.wrap .i64 (x14+1)))] w3))))
 (some (.pointer (some q),h)):=by kernel_rfl
def Dp3:Cuts:={ globs:=0,loops:=[],regs:=[],plans:=[] }
def Es0:List Item:=A7 Tryz.f116
theorem Gx1 (C:A3) (R:A4) (m:Option Addr) (s:Option Addr) (h:H) :
 A6 PR Dp3 C R B23 Tryz.f116 100000 true Es0 [(0,.pointer m),(1,.pointer s)] h =
 nw (.cells Dn6 false [.pointer m,.pointer s,.slice none 0 0]) h fun b w=>some (.pointer (some ⟨b,0,none⟩),w):=by kernel_rfl
def Au7:Cuts:={ globs:=0,loops:=[(3,[5,20,21,22])],regs:=[],plans:=[(2,⟨[0,1,2,3,4,5,6,7,8,9,10,11,12,13,14],[0,1,3,7,0,16,0,64,192,448,960,2032,4095,8191,0],[],[]⟩)] }
def Bd7:List Item:=A7 Tryz.f119
def Aj7:List Item:=stk [0,1,0,1,0,0,1,4,5] Bd7
theorem Ei7 (C:A3) (R:A4) (q:Option Addr) (s:Int) (h:H) :
 A6 PR Au7 C R P3 Tryz.f119 100000 true Bd7 [(0,.pointer q),(1,.int .i64 s)] h =
 aSome q fun p=>gSl (Addr.add p 0) h fun x _ xc=>aSome q fun p_1=>gSl (Addr.add p_1 0) h fun _ xn_1 _=>ckB (fitsOpen x M9 h) (ck ((0:Int)≤mm2 false (mm2 true s 0) ((xn_1:Nat):Int)∧mm2 false (mm2 true s 0) ((xn_1:Nat):Int)≤((xc:Nat):Int)) (R P3 Aj7 [(5,.int .i64 0),(20,.slice (H2 x (decide (0<xc)) (0*1)) ((Int.toNat (mm2 false (mm2 true s 0) ((xn_1:Nat):Int)))-0) (xc-0)),(21,.int .i64 (((Int.toNat (mm2 false (mm2 true s 0) ((xn_1:Nat):Int)))-0:Nat):Int)),(22,.int .i64 0)] h)):=by kernel_rfl
theorem Bq5 (C:A3) (R:A4) (n:Int) (x20:Option Addr) (x20n x20c:Nat) (x21:Int) (x22:Int) (h:H) :
 A6 PR Au7 C R P3 Tryz.f119 100000 true Aj7 [(5,.int .i64 n),(20,.slice x20 x20n x20c),(21,.int .i64 x21),(22,.int .i64 x22)] h =
 cond (decide (x22<x21))
 (aSome x20 fun p=>ck ((0:Int)≤x22∧x22<((x20n:Nat):Int)) (gSl (Addr.add (B7 p) (Int.toNat x22*1)) h fun _ xn _=>R P3 Aj7 [(5,.int .i64 (IntKind.wrap .i64 (n+((xn:Nat):Int)))),(20,.slice x20 x20n x20c),(21,.int .i64 x21),(22,.int .i64 (IntKind.wrap .i64 (x22+1)))] h))
 (some (.int .i64 n,h)):=by kernel_rfl
def Ak7:Cuts:={ globs:=0,loops:=[],regs:=[],plans:=[] }
def A66:List Item:=A7 Tryz.f120
theorem Dc8 (C:A3) (R:A4) (s:Option Addr) (sn sc:Nat) (v:Int) (h:H) :
 A6 PR Ak7 C R N0 Tryz.f120 100000 true A66 [(0,.slice s sn sc),(1,.int .i64 v)] h =
 bnd (C H4 [.slice s sn sc,.int .i64 v] h) fun r w=>aInt .i64 r fun x=>some (.bool (decide (x≥0)),w):=by kernel_rfl
def Ay5:Cuts:={ globs:=0,loops:=[(3,[0,1,5,6])],regs:=[],plans:=[] }
def Bh3:List Item:=A7 Tryz.f123
def Al3:List Item:=stk [0,1,0,1,0,0,1,4,5] Bh3
theorem Eo9 (C:A3) (R:A4) (q:Option Addr) (s:Int) (h:H) :
 A6 PR Ay5 C R N8 Tryz.f123 100000 true Bh3 [(0,.pointer q),(1,.int .i64 s)] h =
 R N8 Al3 [(0,.pointer q),(1,.int .i64 s),(5,.int .i64 0),(6,.int .i64 0)] h:=by kernel_rfl
theorem Bw9 (C:A3) (R:A4) (q:Option Addr) (s:Int) (n:Int) (i:Int) (h:H) :
 A6 PR Ay5 C R N8 Tryz.f123 100000 true Al3 [(0,.pointer q),(1,.int .i64 s),(5,.int .i64 n),(6,.int .i64 i)] h =
 cond (decide (i<s))
 (aSome q fun p=>gSl (Addr.add p 0) h fun x xn _=>aSome x fun p_1=>ck ((0:Int)≤i∧i<((xn:Nat):Int)) (gSl (Addr.add (B7 p_1) (Int.toNat i*1)) h fun _ xn_1 _=>R N8 Al3 [(0,.pointer q),(1,.int .i64 s),(5,.int .i64 (IntKind.wrap .i64 (n+((xn_1:Nat):Int)))),(6,.int .i64 (IntKind.wrap .i64 (i+1)))] h))
 (some (.int .i64 n,h)):=by kernel_rfl
def Bu2:Cuts:={ globs:=0,loops:=[],regs:=[],plans:=[] }
def Dr1:List Item:=A7 Tryz.f140
theorem E63 (C:A3) (R:A4) (s:Option Addr) (e:Int) (h:H) :
 A6 PR Bu2 C R A90 Tryz.f140 100000 true Dr1 [(0,.pointer s),(1,.int .i64 e)] h =
 bnd (C Ai9 [.pointer s,.int .i64 e] h) fun r w=>aBool r fun x=>cond (!x)
 (some (.slice none 0 0,w))
 (aSome s fun p=>gSl (Addr.add p 0) w fun x_1 xn _=>aSome x_1 fun p_1=>ck ((0:Int)≤e∧e<((xn:Nat):Int)) (gPtr (Addr.add (B7 p_1) (Int.toNat e*1)) w fun x_2=>bnd (C Q5 [.pointer x_2] w) fun r_1 w1=>aSl r_1 fun x_3 xn_1 xc_1=>some (.slice x_3 xn_1 xc_1,w1))):=by kernel_rfl
def Ag7:Cuts:={ globs:=0,loops:=[],regs:=[],plans:=[(2,⟨[0,1,2,3,4,5,6,7,8,9,10,11,12,13,14],[0,1,3,7,15,31,63,127,255,511,63,63,4095,8191,16383],[],[]⟩)] }
def A18:List Item:=A7 Tryz.f144
theorem B48 (C:A3) (R:A4) (c:Option Addr) (v:List Value) (h:H) :
 A6 PR Ag7 C R V5 Tryz.f144 100000 true A18 [(0,.pointer c),(1,.agg ⟨v⟩)] h =
 nw (.cells I4 false v) h fun b w=>aSome c fun p=>gInt .i64 (Addr.add p 0) w fun x=>ck ((0:Int)≤x∧(x:Int)≤x∧x≤(B4:Int)) (nw (.cells A5 false (H3 (Int.toNat x) [.int .u8 0])) w fun b_1 w1=>aSome c fun p_1=>gFv (Addr.add p_1 1) w1 fun x_1=>isNilF x_1 fun b_2=>bnd (cond b_2 (some (true,w1)) (aSome c fun p_2=>gFv (Addr.add p_2 1) w1 fun x_2=>gAgg ⟨b,0,none⟩ 36 w1 fun x_3=>aFn x_2 fun g fi cp=>bnd (C g (fi++([.agg ⟨x_3⟩,.slice (some ⟨b_1,0,none⟩) (Int.toNat x) (Int.toNat x)]++cp)) w1) fun r w2=>aBool r fun x_4=>some (!x_4,w2))) fun c_1 w3=>cond c_1
 (some (.tuple ⟨[.slice none 0 0,.bool false]⟩,w3))
 (some (.tuple ⟨[.slice (some ⟨b_1,0,none⟩) (Int.toNat x) (Int.toNat x),.bool true]⟩,w3))):=by kernel_rfl
def De3:Cuts:={ globs:=0,loops:=[],regs:=[],plans:=[] }
def Eg0:List Item:=A7 Tryz.f147
theorem Gu4 (C:A3) (R:A4) (b:Option Addr) (bn bc:Nat) (h:H) :
 A6 PR De3 C R Am6 Tryz.f147 100000 true Eg0 [(0,.slice b bn bc)] h =
 bnd (C P8 [.slice b bn bc,.func (.func Af4) ⟨[]⟩ ⟨[]⟩] h) fun r w=>aBool r fun x=>some (.bool (!x),w):=by kernel_rfl
def A15:Cuts:={ globs:=0,loops:=[],regs:=[],plans:=[] }
def Bp3:List Item:=A7 Tryz.f150
theorem D17 (C:A3) (R:A4) (r:Option Addr) (env:Int) (name:Int) (atv:Int) (b:Option Addr) (bn bc:Nat) (h:H) :
 A6 PR A15 C R Aa8 Tryz.f150 100000 true Bp3 [(0,.pointer r),(1,.int .i64 env),(2,.int .i64 name),(3,.int .i64 atv),(4,.slice b bn bc)] h =
 bnd (C Aa4 [.pointer r,.int .i64 env,.int .i64 name,.int .i64 2,.int .i64 atv,.int .i64 ((bn:Nat):Int)] h) fun r_1 w=>as2 r_1 fun r_2 r_3=>aInt .i64 r_2 fun x=>aInt .i64 r_3 fun x_1=>cond (x_1 != 0)
 (some (.int .i64 x_1,w))
 (aSome r fun p=>gPtr (Addr.add p 0) w fun x_2=>bnd (C Be7 [.pointer x_2,.int .i64 x,.slice b bn bc] w) fun r_4 w1=>aInt .i64 r_4 fun x_3=>some (.int .i64 x_3,w1)):=by kernel_rfl
def Dn1:Cuts:={ globs:=0,loops:=[],regs:=[],plans:=[] }
def Ek3:List Item:=A7 Tryz.f164
theorem G69 (C:A3) (R:A4) (m:Option Addr) (atv:Int) (n:Int) (h:H) :
 A6 PR Dn1 C R Bh6 Tryz.f164 100000 true Ek3 [(0,.pointer m),(1,.int .i64 atv),(2,.int .i64 n)] h =
 bnd (cond (decide (atv≥0)) (some (decide (n≥0),h)) (some (false,h))) fun c w=>bnd (cond c (aSome m fun p=>gSl (Addr.add p 0) w fun _ xn _=>some (decide (atv≤((xn:Nat):Int)),w)) (some (false,w))) fun c_1 w1=>bnd (cond c_1 (aSome m fun p_1=>gSl (Addr.add p_1 0) w1 fun _ xn_1 _=>some (decide (n≤(IntKind.wrap .i64 (((xn_1:Nat):Int)-atv))),w1)) (some (false,w1))) fun c_2 w2=>some (.bool c_2,w2):=by kernel_rfl
def An1:Cuts:={ globs:=0,loops:=[],regs:=[],plans:=[] }
def Bb5:List Item:=A7 Tryz.f165
theorem Bb7 (C:A3) (R:A4) (s:Option Addr) (sn sc:Nat) (h:H) :
 A6 PR An1 C R G3 Tryz.f165 100000 true Bb5 [(0,.slice s sn sc)] h =
 cond s.isNone
 (some (.slice none 0 0,h))
 (nw (.cells A5 false []) h fun b w=>gCells s (sn*1) w fun cs=>ckB (fitsOpen (some ⟨b,0,none⟩) A5 w) (apd A5 1 (some ⟨b,0,none⟩) 0 0 sn cs w fun a an ac w1=>some (.slice a an ac,w1))):=by kernel_rfl
def B40:Cuts:={ globs:=0,loops:=[],regs:=[],plans:=[] }
def Dx2:List Item:=A7 Tryz.f167
theorem E97 (C:A3) (R:A4) (x:List Value) (fv0:Addr) (h:H) :
 A6 PR B40 C R Ay8 Tryz.f167 100000 true Dx2 [(0,.agg ⟨x⟩),(1,.pointer (some fv0))] h =
 nw (.cells O0 false x) h fun b w=>gInt .i64 (Addr.add ⟨b,0,none⟩ 0) w fun x_1=>gInt .i64 fv0 w fun x_2=>bnd (cond (x_1 != x_2) (gInt .i64 (Addr.add (Addr.add ⟨b,0,none⟩ 1) 1) w fun x_3=>gInt .i64 fv0 w fun x_4=>some (x_3==(IntKind.wrap .i64 (x_4+1)),w)) (some (false,w))) fun c w1=>some (.bool c,w1):=by kernel_rfl
def Af5:Cuts:={ globs:=0,loops:=[(2,[0,1,7,8])],regs:=[],plans:=[] }
def Au0:List Item:=A7 Tryz.f179
def Z3:List Item:=stk [0,1,0,0,1,4,5] Au0
theorem Ds7 (C:A3) (R:A4) (s:Option Addr) (sn sc:Nat) (v:Int) (h:H) :
 A6 PR Af5 C R H4 Tryz.f179 100000 true Au0 [(0,.slice s sn sc),(1,.int .i64 v)] h =
 R H4 Z3 [(0,.slice s sn sc),(1,.int .i64 v),(7,.int .i64 ((sn:Nat):Int)),(8,.int .i64 0)] h:=by kernel_rfl
theorem A64 (C:A3) (R:A4) (s:Option Addr) (sn sc:Nat) (v:Int) (x7:Int) (x8:Int) (h:H) :
 A6 PR Af5 C R H4 Tryz.f179 100000 true Z3 [(0,.slice s sn sc),(1,.int .i64 v),(7,.int .i64 x7),(8,.int .i64 x8)] h =
 cond (decide (x8<x7))
 (aSome s fun p=>ck ((0:Int)≤x8∧x8<((sn:Nat):Int)) (gInt .i64 (Addr.add (B7 p) (Int.toNat x8*1)) h fun x=>cond (v==x)
 (some (.int .i64 x8,h))
 (R H4 Z3 [(0,.slice s sn sc),(1,.int .i64 v),(7,.int .i64 x7),(8,.int .i64 (IntKind.wrap .i64 (x8+1)))] h)))
 (some (.int .i64 (-1),h)):=by kernel_rfl
def Bt4:Cuts:={ globs:=0,loops:=[],regs:=[],plans:=[(1,⟨[0,1,2,3,4,5,6,7,8,9,10,11,12,13],[0,1,3,7,0,31,63,0,255,511,1023,1023,2047,8191],[],[]⟩)] }
def Dn7:List Item:=A7 Tryz.f181
theorem E45 (C:A3) (R:A4) (s:Option Addr) (env:Int) (c:List Value) (h:H) :
 A6 PR Bt4 C R As9 Tryz.f181 100000 true Dn7 [(0,.pointer s),(1,.int .i64 env),(2,.agg ⟨c⟩)] h =
 nw (.cells O9 false c) h fun b w=>aSome s fun p=>gSl (Addr.add p 0) w fun x xn _=>aSome x fun p_1=>ck ((0:Int)≤env∧env<((xn:Nat):Int)) (gPtr (Addr.add (B7 p_1) (Int.toNat env*1)) w fun x_1=>gAgg ⟨b,0,none⟩ 6 w fun x_2=>bnd (C I1 [.pointer x_1,.agg ⟨x_2⟩] w) fun r w1=>as2 r fun r_1 r_2=>aInt .i64 r_1 fun x_3=>aBool r_2 fun x_4=>cond (!x_4)
 (some (.tuple ⟨[.int .i64 0,.int .i64 4]⟩,w1))
 (some (.tuple ⟨[.int .i64 x_3,.int .i64 0]⟩,w1))):=by kernel_rfl
def Bt8:Cuts:={ globs:=0,loops:=[],regs:=[],plans:=[] }
def Dr6:List Item:=A7 Tryz.f184
theorem E52 (C:A3) (R:A4) (s:Option Addr) (e:Int) (h:H) :
 A6 PR Bt8 C R Ai9 Tryz.f184 100000 true Dr6 [(0,.pointer s),(1,.int .i64 e)] h =
 bnd (cond (decide (e≥0)) (aSome s fun p=>gSl (Addr.add p 0) h fun _ xn _=>some (decide (e<((xn:Nat):Int)),h)) (some (false,h))) fun c w=>some (.bool c,w):=by kernel_rfl
def A75:Cuts:={ globs:=0,loops:=[],regs:=[],plans:=[(6,⟨[0,1,2,3,4,5,6,7,8,9,10,11,12,13,14,15,16,17,18,19,20,21],[0,0,0,4,15,31,63,127,255,511,1023,2047,4095,8191,4095,20479,53247,118783,249855,524287,1048575,2097151],[],[]⟩),(8,⟨[0,1,2,3,4,5,6,7,8,9,10,11,12,13,14,15,16,17,18,19,20,21,22,23,24,25,26,27,28,29,30],[0,1,0,0,8,24,56,0,128,504,1016,2047,4095,8191,16383,32767,16383,131071,16383,16383,540671,1589247,3686399,16383,8404991,33046527,66600959,134217727,268435455,536870911,1073741823],[],[]⟩),(10,⟨[0,1,2,3,4,5,6,7,8,9,10,11,12,13,14],[0,1,3,7,0,16,63,127,0,256,1023,0,4095,8191,16383],[],[]⟩)] }
def By3:List Item:=A7 Tryz.f186
theorem Ed2 (C:A3) (R:A4) (r:Option Addr) (e:Int) (name:Int) (right:Int) (atv:Int) (n:Int) (h:H) :
 A6 PR A75 C R Ao6 Tryz.f186 100000 true By3 [(0,.pointer r),(1,.int .i64 e),(2,.int .i64 name),(3,.int .i64 right),(4,.int .i64 atv),(5,.int .i64 n)] h =
 aSome r fun p=>gPtr (Addr.add p 3) h fun x=>bnd (C A71 [.pointer x,.int .i64 e,.int .i64 name] h) fun r_1 w=>as2 r_1 fun r_2 r_3=>aAgg r_2 fun x_1=>aInt .i64 r_3 fun x_2=>nw (.cells O9 false [.int .i64 0,.int .i64 0,.int .i64 0,.int .i64 0,.int .i64 0,.int .i64 0]) w fun b w1=>ck (List.length x_1=6) (pAgg ⟨b,0,none⟩ x_1 w1 fun w2=>cond (x_2 != 0)
 (some (.tuple ⟨[.int .i64 0,.int .i64 x_2]⟩,w2))
 (gInt .i64 (Addr.add ⟨b,0,none⟩ 1) w2 fun x_3=>cond ((P5 .i64 x_3 right)==0)
 (some (.tuple ⟨[.int .i64 0,.int .i64 3]⟩,w2))
 (gInt .i64 (Addr.add ⟨b,0,none⟩ 3) w2 fun x_4=>bnd (C Af8 [.int .i64 atv,.int .i64 n,.int .i64 x_4] w2) fun r_4 w3=>aBool r_4 fun x_5=>bnd (cond (!x_5) (some (true,w3)) (gInt .i64 (Addr.add ⟨b,0,none⟩ 0) w3 fun x_6=>some (decide (x_6<0),w3))) fun c w4=>bnd (cond c (some (true,w4)) (gInt .i64 (Addr.add ⟨b,0,none⟩ 0) w4 fun x_7=>aSome r fun p_1=>gSl (Addr.add p_1 1) w4 fun _ xn _=>some (decide (x_7≥((xn:Nat):Int)),w4))) fun c_1 w5=>cond c_1
 (some (.tuple ⟨[.int .i64 0,.int .i64 1]⟩,w5))
 (gInt .i64 (Addr.add ⟨b,0,none⟩ 2) w5 fun x_9=>aSome r fun p_2=>gSl (Addr.add p_2 2) w5 fun x_10 xn_1 _=>gInt .i64 (Addr.add ⟨b,0,none⟩ 0) w5 fun x_11=>aSome x_10 fun p_3=>ck ((0:Int)≤x_11∧x_11<((xn_1:Nat):Int)) (gInt .i64 (Addr.add (B7 p_3) (Int.toNat x_11*1)) w5 fun x_12=>bnd (C Af8 [.int .i64 x_9,.int .i64 atv,.int .i64 x_12] w5) fun r_5 w6=>aBool r_5 fun x_13=>bnd (cond (!x_13) (some (true,w6)) (gInt .i64 (Addr.add ⟨b,0,none⟩ 2) w6 fun x_14=>aSome r fun p_4=>gSl (Addr.add p_4 2) w6 fun x_15 xn_2 _=>gInt .i64 (Addr.add ⟨b,0,none⟩ 0) w6 fun x_16=>aSome x_15 fun p_5=>ck ((0:Int)≤x_16∧x_16<((xn_2:Nat):Int)) (gInt .i64 (Addr.add (B7 p_5) (Int.toNat x_16*1)) w6 fun x_17=>bnd (C Af8 [.int .i64 (IntKind.wrap .i64 (x_14+atv)),.int .i64 n,.int .i64 x_17] w6) fun r_6 w7=>aBool r_6 fun x_18=>some (!x_18,w7)))) fun c_2 w8=>cond c_2
 (some (.tuple ⟨[.int .i64 0,.int .i64 1]⟩,w8))
 (aSome r fun p_6=>gSl (Addr.add p_6 1) w8 fun x_19 xn_3 _=>gInt .i64 (Addr.add ⟨b,0,none⟩ 0) w8 fun x_20=>aSome x_19 fun p_7=>ck ((0:Int)≤x_20∧x_20<((xn_3:Nat):Int)) (gInt .i64 (Addr.add (B7 p_7) (Int.toNat x_20*1)) w8 fun x_21=>gInt .i64 (Addr.add ⟨b,0,none⟩ 2) w8 fun x_22=>some (.tuple ⟨[.int .i64 (IntKind.wrap .i64 ((IntKind.wrap .i64 (x_21+x_22))+atv)),.int .i64 0]⟩,w8)))))))):=by kernel_rfl
def Bz4:Cuts:={ globs:=0,loops:=[],regs:=[],plans:=[] }
def Dy0:List Item:=A7 Tryz.f202
theorem Ge5 (C:A3) (R:A4) (m:Option Addr) (atv:Int) (b:Option Addr) (bn bc:Nat) (h:H) :
 A6 PR Bz4 C R Be7 Tryz.f202 100000 true Dy0 [(0,.pointer m),(1,.int .i64 atv),(2,.slice b bn bc)] h =
 bnd (C Bh6 [.pointer m,.int .i64 atv,.int .i64 ((bn:Nat):Int)] h) fun r w=>aBool r fun x=>cond (!x)
 (some (.int .i64 1,w))
 (aSome m fun p=>gSl (Addr.add p 0) w fun x_1 xn xc=>ckB (fitsOpen x_1 A5 w) (ck ((0:Int)≤atv∧atv≤((xn:Nat):Int)) (gCells b (min bn (xn-(Int.toNat atv))*1) w fun cs=>pCells (H2 x_1 (decide (Int.toNat atv<xc)) ((Int.toNat atv)*1)) cs w fun w1=>some (.int .i64 0,w1)))):=by kernel_rfl
def Bt7:Cuts:={ globs:=0,loops:=[],regs:=[],plans:=[] }
def Dn4:List Item:=A7 Tryz.f206
theorem E29 (C:A3) (R:A4) (q:Option Addr) (s:Int) (h:H) :
 A6 PR Bt7 C R Aj0 Tryz.f206 100000 true Dn4 [(0,.pointer q),(1,.int .i64 s)] h =
 bnd (cond (decide (s≥0)) (aSome q fun p=>gSl (Addr.add p 0) h fun _ xn _=>some (decide (s<((xn:Nat):Int)),h)) (some (false,h))) fun c w=>some (.bool c,w):=by kernel_rfl
def Bu3:Cuts:={ globs:=0,loops:=[],regs:=[],plans:=[(1,⟨[0,1,2,3,4,5,6,7,8,9,10,11,12,13,14,15,16,17,18,19,20,21,22,23,24,25,26,27,28],[0,1,3,7,7,23,55,119,247,511,1023,2047,4095,8191,16383,32767,4095,131071,262143,4095,528383,1576959,3674111,4095,16257023,33034239,67108863,134217727,268435455],[],[]⟩)] }
def Dq9:List Item:=A7 Tryz.f208
theorem E37 (C:A3) (R:A4) (k:Option Addr) (env:Int) (n:Int) (h:H) :
 A6 PR Bu3 C R At3 Tryz.f208 100000 true Dq9 [(0,.pointer k),(1,.int .i64 env),(2,.int .i64 n)] h =
 bnd (cond (decide (n<0)) (some (true,h)) (aSome k fun p=>gSl (Addr.add p 6) h fun _ xn _=>some (decide (n≥((xn:Nat):Int)),h))) fun c w=>bnd (cond c (some (true,w)) (aSome k fun p_1=>gSl (Addr.add p_1 1) w fun x_1 xn_1 _=>aSome x_1 fun p_2=>ck ((0:Int)≤n∧n<((xn_1:Nat):Int)) (gSl (Addr.add (B7 p_2) (Int.toNat n*1)) w fun x_2 xn_2 xc_2=>aSome k fun p_3=>gSl (Addr.add p_3 0) w fun x_3 xn_3 _=>aSome x_3 fun p_4=>ck ((0:Int)≤env∧env<((xn_3:Nat):Int)) (gInt .i64 (Addr.add (B7 p_4) (Int.toNat env*1)) w fun x_4=>bnd (C N0 [.slice x_2 xn_2 xc_2,.int .i64 x_4] w) fun r w1=>aBool r fun x_5=>some (!x_5,w1))))) fun c_1 w2=>cond c_1
 (some (.tuple ⟨[.pointer none,.int .i64 8]⟩,w2))
 (aSome k fun p_5=>gSl (Addr.add p_5 6) w2 fun x_6 xn_4 _=>aSome x_6 fun p_6=>ck ((0:Int)≤n∧n<((xn_4:Nat):Int)) (gPtr (Addr.add (B7 p_6) (Int.toNat n*1)) w2 fun x_7=>some (.tuple ⟨[.pointer x_7,.int .i64 0]⟩,w2))):=by kernel_rfl
def U1:Cuts:={ globs:=0,loops:=[(18,[0,1,2])],regs:=[(10,[0,1,2]),(11,[0,1,2]),(14,[0,1,2]),(17,[])],plans:=[(11,⟨[0,1,2,3,4,5,6,7,8,9,10,11,12,13,14,15,16],[0,1,3,7,15,31,31,95,223,479,1023,31,2079,6175,14367,32767,65535],[],[]⟩),(18,⟨[0,1,2,3,4,5,6,7,8,9,10,11,12,13,14,15,16,17,18,19,20],[0,1,3,7,15,31,0,127,255,511,511,1535,3583,7679,16383,511,33279,98815,229887,524287,1048575],[],[]⟩)] }
def Y8:List Item:=A7 Tryz.f209
def Aq4:List Item:=stk [0,1,0,1,0,1,0,1,0,1,0,0,1,2,0,1] Y8
def Ap2:List Item:=stk [0,1,0,1,0,1,0,1,0,1,0,1,0,0] Y8
def Ao4:List Item:=stk [0,1,0,1,0,1,0,1,0,1,0,1,0,1,0,0] Y8
def Ao5:List Item:=stk [0,1,0,1,0,1,0,1,0,1,0,1,0,1,0,0,1,2,0,1,0] Y8
def Ae0:List Item:=stk [0,1,0,1,0,1,0,1,0,1,0,1,0,1,0,1,0,4,5] Y8
theorem Ey5 (C:A3) (R:A4) (s:Option Addr) (who:Int) (now:Int) (h:H) :
 A6 PR U1 C R D0 Tryz.f209 100000 true Y8 [(0,.pointer s),(1,.int .i64 who),(2,.int .i64 now)] h =
 aSome s fun p=>gInt .i64 (Addr.add p 7) h fun x=>bnd (cond (decide (who<0)) (some (true,h)) (some (decide (who>99),h))) fun c w=>cond c
 (some (.tuple ⟨[.int .i64 0,.bool false]⟩,w))
 (aSome s fun p_1=>pV (Addr.add p_1 7) (.int .i64 (mm2 true now x)) w fun w1=>aSome s fun p_2=>gBool (Addr.add p_2 1) w1 fun x_1=>bnd (cond x_1 (aSome s fun p_3=>gInt .i64 (Addr.add p_3 2) w1 fun x_2=>some (x_2==who,w1)) (some (false,w1))) fun c_1 w2=>cond c_1
 (aSome s fun p_4=>gInt .i64 (Addr.add p_4 3) w2 fun x_3=>some (.tuple ⟨[.int .i64 x_3,.bool true]⟩,w2))
 (aSome s fun p_5=>gSl (Addr.add p_5 5) w2 fun x_4 xn xc=>bnd (C N0 [.slice x_4 xn xc,.int .i64 who] w2) fun r w3=>aBool r fun x_5=>cond (!x_5)
 (aSome s fun p_6=>gSl (Addr.add p_6 5) w3 fun _ xn_1 _=>cond (((xn_1:Nat):Int)==0)
 (aSome s fun p_7=>pV (Addr.add p_7 6) (.int .i64 (mm2 true now x)) w3 fun w4=>R D0 Aq4 [(0,.pointer s),(1,.int .i64 who),(2,.int .i64 (mm2 true now x))] w4)
 (R D0 Aq4 [(0,.pointer s),(1,.int .i64 who),(2,.int .i64 (mm2 true now x))] w3))
 (R D0 Ap2 [(0,.pointer s),(1,.int .i64 who),(2,.int .i64 (mm2 true now x))] w3))):=by kernel_rfl
theorem Ef0 (C:A3) (R:A4) (s:Option Addr) (who:Int) (now:Int) (h:H) :
 A6 PR U1 C R D0 Tryz.f209 100000 true Aq4 [(0,.pointer s),(1,.int .i64 who),(2,.int .i64 now)] h =
 aSome s fun p=>gSl (Addr.add p 5) h fun x xn xc=>nw (.cells B5 false [.int .i64 who]) h fun b w=>gCells (some ⟨b,0,none⟩) (1*1) w fun cs=>ckB (fitsOpen x B5 w) (apd B5 1 x xn xc 1 cs w fun a an ac w1=>aSome s fun p_1=>pV (Addr.add p_1 5) (.slice a an ac) w1 fun w2=>R D0 Ap2 [(0,.pointer s),(1,.int .i64 who),(2,.int .i64 now)] w2):=by kernel_rfl
theorem Ea8 (C:A3) (R:A4) (s:Option Addr) (who:Int) (now:Int) (h:H) :
 A6 PR U1 C R D0 Tryz.f209 100000 true Ap2 [(0,.pointer s),(1,.int .i64 who),(2,.int .i64 now)] h =
 aSome s fun p=>gBool (Addr.add p 1) h fun x=>bnd (cond x (aSome s fun p_1=>gInt .i64 (Addr.add p_1 4) h fun x_1=>aSome s fun p_2=>gInt .i64 (Addr.add p_2 0) h fun x_2=>some (decide ((IntKind.wrap .i64 (now-x_1))≥x_2),h)) (some (false,h))) fun c w=>cond c
 (aSome s fun p_3=>pV (Addr.add p_3 1) (.bool false) w fun w1=>aSome s fun p_4=>pV (Addr.add p_4 6) (.int .i64 now) w1 fun w2=>R D0 Ao4 [(0,.pointer s),(1,.int .i64 who),(2,.int .i64 now)] w2)
 (R D0 Ao4 [(0,.pointer s),(1,.int .i64 who),(2,.int .i64 now)] w):=by kernel_rfl
theorem Ef8 (C:A3) (R:A4) (s:Option Addr) (who:Int) (now:Int) (h:H) :
 A6 PR U1 C R D0 Tryz.f209 100000 true Ao4 [(0,.pointer s),(1,.int .i64 who),(2,.int .i64 now)] h =
 aSome s fun p=>gBool (Addr.add p 1) h fun x=>cond x
 (aSome s fun p_1=>gSl (Addr.add p_1 5) h fun x_1 xn _=>aSome x_1 fun p_2=>ck ((0:Int)≤0∧0<((xn:Nat):Int)) (gInt .i64 (Addr.add (B7 p_2) (Int.toNat 0*1)) h fun x_2=>cond (x_2==who)
 (aSome s fun p_3=>pV (Addr.add p_3 6) (.int .i64 now) h fun w=>R D0 Ao5 [] w)
 (R D0 Ao5 [] h)))
 (R D0 Ae0 [(0,.pointer s),(1,.int .i64 who),(2,.int .i64 now)] h):=by kernel_rfl
theorem Ee5 (C:A3) (R:A4)  (h:H) :
 A6 PR U1 C R D0 Tryz.f209 100000 true Ao5 [] h =
 some (.tuple ⟨[.int .i64 0,.bool false]⟩,h):=by kernel_rfl
theorem B17 (C:A3) (R:A4) (s:Option Addr) (who:Int) (now:Int) (h:H) :
 A6 PR U1 C R D0 Tryz.f209 100000 true Ae0 [(0,.pointer s),(1,.int .i64 who),(2,.int .i64 now)] h =
 aSome s fun p=>gSl (Addr.add p 5) h fun x xn _=>aSome x fun p_1=>ck ((0:Int)≤0∧0<((xn:Nat):Int)) (gInt .i64 (Addr.add (B7 p_1) (Int.toNat 0*1)) h fun x_1=>bnd (cond (x_1 != who) (aSome s fun p_2=>gInt .i64 (Addr.add p_2 6) h fun x_2=>aSome s fun p_3=>gInt .i64 (Addr.add p_3 0) h fun x_3=>some (decide ((IntKind.wrap .i64 (now-x_2))≥x_3),h)) (some (false,h))) fun c w=>cond c
 (aSome s fun p_4=>gSl (Addr.add p_4 5) w fun x_4 xn_1 xc_1=>ckB (fitsOpen x_4 B5 w) (ck ((0:Int)≤1∧1≤((xn_1:Nat):Int)) (aSome s fun p_5=>pV (Addr.add p_5 5) (.slice (H2 x_4 (decide (Int.toNat 1<xc_1)) ((Int.toNat 1)*1)) (xn_1-(Int.toNat 1)) (xc_1-(Int.toNat 1))) w fun w1=>aSome s fun p_6=>pV (Addr.add p_6 6) (.int .i64 now) w1 fun w2=>R D0 Ae0 [(0,.pointer s),(1,.int .i64 who),(2,.int .i64 now)] w2)))
 (aSome s fun p_7=>gSl (Addr.add p_7 5) w fun x_5 xn_2 _=>aSome x_5 fun p_8=>ck ((0:Int)≤0∧0<((xn_2:Nat):Int)) (gInt .i64 (Addr.add (B7 p_8) (Int.toNat 0*1)) w fun x_6=>cond (x_6 != who)
 (some (.tuple ⟨[.int .i64 0,.bool false]⟩,w))
 (aSome s fun p_9=>gSl (Addr.add p_9 5) w fun x_7 xn_3 xc_3=>ckB (fitsOpen x_7 B5 w) (ck ((0:Int)≤1∧1≤((xn_3:Nat):Int)) (aSome s fun p_10=>pV (Addr.add p_10 5) (.slice (H2 x_7 (decide (Int.toNat 1<xc_3)) ((Int.toNat 1)*1)) (xn_3-(Int.toNat 1)) (xc_3-(Int.toNat 1))) w fun w3=>aSome s fun p_11=>pV (Addr.add p_11 6) (.int .i64 now) w3 fun w4=>aSome s fun p_12=>gInt .i64 (Addr.add p_12 8) w4 fun x_8=>aSome s fun p_13=>pV (Addr.add p_13 8) (.int .i64 (IntKind.wrap .i64 (x_8+1))) w4 fun w5=>aSome s fun p_14=>gInt .i64 (Addr.add p_14 8) w5 fun x_9=>aSome s fun p_15=>pV (Addr.add p_15 1) (.bool true) w5 fun w6=>aSome s fun p_16=>pV (Addr.add p_16 2) (.int .i64 who) w6 fun w7=>aSome s fun p_17=>pV (Addr.add p_17 3) (.int .i64 x_9) w7 fun w8=>aSome s fun p_18=>pV (Addr.add p_18 4) (.int .i64 now) w8 fun w9=>aSome s fun p_19=>gInt .i64 (Addr.add p_19 3) w9 fun x_10=>some (.tuple ⟨[.int .i64 x_10,.bool true]⟩,w9))))))):=by kernel_rfl
def A97:Cuts:={ globs:=0,loops:=[],regs:=[],plans:=[] }
def B29:List Item:=A7 Tryz.f211
theorem D80 (C:A3) (R:A4) (size:Int) (put:Value) (get:Value) (h:H) :
 A6 PR A97 C R Ao8 Tryz.f211 100000 true B29 [(0,.int .i64 size),(1,put),(2,get)] h =
 one put (one get (nw (.cells Bp7 false [.int .i64 (mm2 false (mm2 true size 0) 64),put,get]) h fun b w=>some (.pointer (some ⟨b,0,none⟩),w))):=by kernel_rfl
def Bc9:Cuts:={ globs:=0,loops:=[(4,[1,2,22,23,24]),(9,[1,2,43,44,45]),(14,[1,58,59])],regs:=[],plans:=[] }
def Bp5:List Item:=A7 Tryz.f212
def B83:List Item:=stk [0,1,0,1,0,0,1,4,5] Bp5
def B70:List Item:=stk [0,1,0,1,0,1,0,0,1,4,5] Bp5
def B82:List Item:=stk [0,1,0,1,0,1,0,1,0,0,1,4,5] Bp5
theorem Hf5 (C:A3) (R:A4) (p:List Value) (b:Option Addr) (bn bc:Nat) (h:H) :
 A6 PR Bc9 C R O4 Tryz.f212 100000 true Bp5 [(0,.agg ⟨p⟩),(1,.slice b bn bc)] h =
 nw (.cells D2 false p) h fun b_1 w=>gAgg ⟨b_1,0,none⟩ 16 w fun x=>bnd (C Di1 [.agg ⟨x⟩] w) fun r w1=>aBool r fun x_1=>cond (!x_1)
 (some (.bool false,w1))
 (gInt .i64 (Addr.add ⟨b_1,0,none⟩ 0) w1 fun x_2=>gInt .i64 (Addr.add ⟨b_1,0,none⟩ 1) w1 fun x_3=>gInt .i64 (Addr.add ⟨b_1,0,none⟩ 2) w1 fun x_4=>gInt .i64 (Addr.add ⟨b_1,0,none⟩ 3) w1 fun x_5=>nw (.cells B5 false [.int .i64 x_2,.int .i64 x_3,.int .i64 x_4,.int .i64 x_5]) w1 fun b_2 w2=>R O4 B83 [(1,.slice b bn bc),(2,.pointer (some ⟨b_1,0,none⟩)),(22,.slice (some ⟨b_2,0,none⟩) 4 4),(23,.int .i64 4),(24,.int .i64 0)] w2):=by kernel_rfl
theorem A49 (C:A3) (R:A4) (b:Option Addr) (bn bc:Nat) (p:Addr) (x22:Option Addr) (x22n x22c:Nat) (x23:Int) (x24:Int) (h:H) :
 A6 PR Bc9 C R O4 Tryz.f212 100000 true B83 [(1,.slice b bn bc),(2,.pointer (some p)),(22,.slice x22 x22n x22c),(23,.int .i64 x23),(24,.int .i64 x24)] h =
 cond (decide (x24<x23))
 (aSome x22 fun p_1=>ck ((0:Int)≤x24∧x24<((x22n:Nat):Int)) (gInt .i64 (Addr.add (B7 p_1) (Int.toNat x24*1)) h fun x=>aSome b fun p_2=>ck ((0:Int)≤x24∧x24<((bn:Nat):Int)) (pV (Addr.add (B7 p_2) (Int.toNat x24*1)) (.int .u8 (IntKind.wrap .u8 (x))) h fun w=>R O4 B83 [(1,.slice b bn bc),(2,.pointer (some p)),(22,.slice x22 x22n x22c),(23,.int .i64 x23),(24,.int .i64 (IntKind.wrap .i64 (x24+1)))] w)))
 (gInt .i64 (Addr.add p 4) h fun x_1=>gInt .i64 (Addr.add p 5) h fun x_2=>gInt .i64 (Addr.add p 6) h fun x_3=>gInt .i64 (Addr.add p 7) h fun x_4=>nw (.cells B5 false [.int .i64 x_1,.int .i64 x_2,.int .i64 x_3,.int .i64 x_4]) h fun b_1 w1=>R O4 B70 [(1,.slice b bn bc),(2,.pointer (some p)),(43,.slice (some ⟨b_1,0,none⟩) 4 4),(44,.int .i64 4),(45,.int .i64 0)] w1):=by kernel_rfl
theorem A52 (C:A3) (R:A4) (b:Option Addr) (bn bc:Nat) (p:Addr) (x43:Option Addr) (x43n x43c:Nat) (x44:Int) (x45:Int) (h:H) :
 A6 PR Bc9 C R O4 Tryz.f212 100000 true B70 [(1,.slice b bn bc),(2,.pointer (some p)),(43,.slice x43 x43n x43c),(44,.int .i64 x44),(45,.int .i64 x45)] h =
 cond (decide (x45<x44))
 (aSome x43 fun p_1=>ck ((0:Int)≤x45∧x45<((x43n:Nat):Int)) (gInt .i64 (Addr.add (B7 p_1) (Int.toNat x45*1)) h fun x=>bnd (C Bi3 [.slice b bn bc,.int .i64 (IntKind.wrap .i64 (4+(IntKind.wrap .i64 (2*x45)))),.int .i64 x] h) fun r w=>aBool r fun _=>R O4 B70 [(1,.slice b bn bc),(2,.pointer (some p)),(43,.slice x43 x43n x43c),(44,.int .i64 x44),(45,.int .i64 (IntKind.wrap .i64 (x45+1)))] w))
 (gAgg (Addr.add p 8) 8 h fun x_2=>R O4 B82 [(1,.slice b bn bc),(58,.agg ⟨x_2⟩),(59,.int .i64 0)] h):=by kernel_rfl
theorem Y0 (C:A3) (R:A4) (b:Option Addr) (bn bc:Nat) (x58:List Value) (x59:Int) (h:H) :
 A6 PR Bc9 C R O4 Tryz.f212 100000 true B82 [(1,.slice b bn bc),(58,.agg ⟨x58⟩),(59,.int .i64 x59)] h =
 cond (decide (x59<8))
 (ck ((0:Int)≤x59∧x59<((8:Nat):Int)) (nth x58 (Int.toNat x59*1) fun x=>aInt .i64 x fun x_1=>aSome b fun p=>ck ((0:Int)≤IntKind.wrap .i64 (12+x59)∧IntKind.wrap .i64 (12+x59)<((bn:Nat):Int)) (pV (Addr.add (B7 p) (Int.toNat (IntKind.wrap .i64 (12+x59))*1)) (.int .u8 (IntKind.wrap .u8 (x_1))) h fun w=>R O4 B82 [(1,.slice b bn bc),(58,.agg ⟨x58⟩),(59,.int .i64 (IntKind.wrap .i64 (x59+1)))] w)))
 (aSome b fun p_1=>ck ((0:Int)≤20∧20<((bn:Nat):Int)) (pV (Addr.add (B7 p_1) (Int.toNat 20*1)) (.int .u8 167) h fun w1=>ckB (fitsOpen b A5 w1) (ck ((0:Int)≤21∧21≤((bc:Nat):Int)) (bnd (C Aa0 [.slice (H2 b (decide (0<bc)) (0*1)) ((Int.toNat 21)-0) (bc-0)] w1) fun r w2=>aInt .u8 r fun x_2=>aSome b fun p_2=>ck ((0:Int)≤21∧21<((bn:Nat):Int)) (pV (Addr.add (B7 p_2) (Int.toNat 21*1)) (.int .u8 x_2) w2 fun w3=>some (.bool true,w3)))))):=by kernel_rfl
def Es3:Cuts:={ globs:=0,loops:=[],regs:=[],plans:=[] }
def Gn4:List Item:=A7 Tryz.f223
theorem Hs9 (C:A3) (R:A4) (p:List Value) (h:H) :
 A6 PR Es3 C R Du3 Tryz.f223 100000 true Gn4 [(0,.agg ⟨p⟩)] h =
 nw (.cells I4 false p) h fun b w=>gInt .i64 (Addr.add ⟨b,0,none⟩ 0) w fun x=>bnd (C Ar7 [.int .i64 x,.int .i64 31] w) fun r w1=>aBool r fun x_1=>bnd (cond x_1 (gInt .i64 (Addr.add ⟨b,0,none⟩ 1) w1 fun x_2=>bnd (C Ar7 [.int .i64 x_2,.int .i64 32] w1) fun r_1 w2=>aBool r_1 fun x_3=>some (x_3,w2)) (some (false,w1))) fun c w3=>bnd (cond c (gInt .i64 (Addr.add ⟨b,0,none⟩ 2) w3 fun x_4=>bnd (C Ar7 [.int .i64 x_4,.int .i64 8] w3) fun r_2 w4=>aBool r_2 fun x_5=>some (x_5,w4)) (some (false,w3))) fun c_1 w5=>bnd (cond c_1 (gInt .i64 (Addr.add ⟨b,0,none⟩ 3) w5 fun x_6=>bnd (C Ar7 [.int .i64 x_6,.int .i64 8] w5) fun r_3 w6=>aBool r_3 fun x_7=>some (x_7,w6)) (some (false,w5))) fun c_2 w7=>some (.bool c_2,w7):=by kernel_rfl
def Ab5:Cuts:={ globs:=0,loops:=[(4,[0,1,12,13])],regs:=[],plans:=[(6,⟨[0,1,2,3,4,5,6,7,8],[0,0,3,7,0,0,48,112,255],[],[]⟩)] }
def Am5:List Item:=A7 Tryz.f224
def V6:List Item:=stk [0,1,0,1,0,0,1,4,5] Am5
theorem Df4 (C:A3) (R:A4) (s1:Option Addr) (s1n s1c:Nat) (s2:Option Addr) (s2n s2c:Nat) (h:H) :
 A6 PR Ab5 C R D4 Tryz.f224 100000 true Am5 [(0,.slice s1 s1n s1c),(1,.slice s2 s2n s2c)] h =
 cond (((s1n:Nat):Int) != ((s2n:Nat):Int))
 (some (.bool false,h))
 (R D4 V6 [(0,.slice s1 s1n s1c),(1,.slice s2 s2n s2c),(12,.int .i64 ((s1n:Nat):Int)),(13,.int .i64 0)] h):=by kernel_rfl
theorem A22 (C:A3) (R:A4) (s1:Option Addr) (s1n s1c:Nat) (s2:Option Addr) (s2n s2c:Nat) (x12:Int) (x13:Int) (h:H) :
 A6 PR Ab5 C R D4 Tryz.f224 100000 true V6 [(0,.slice s1 s1n s1c),(1,.slice s2 s2n s2c),(12,.int .i64 x12),(13,.int .i64 x13)] h =
 cond (decide (x13<x12))
 (aSome s1 fun p=>ck ((0:Int)≤x13∧x13<((s1n:Nat):Int)) (gInt .u8 (Addr.add (B7 p) (Int.toNat x13*1)) h fun x=>aSome s2 fun p_1=>ck ((0:Int)≤x13∧x13<((s2n:Nat):Int)) (gInt .u8 (Addr.add (B7 p_1) (Int.toNat x13*1)) h fun x_1=>cond (x != x_1)
 (some (.bool false,h))
 (R D4 V6 [(0,.slice s1 s1n s1c),(1,.slice s2 s2n s2c),(12,.int .i64 x12),(13,.int .i64 (IntKind.wrap .i64 (x13+1)))] h))))
 (some (.bool true,h)):=by kernel_rfl
def U6:Cuts:={ globs:=0,loops:=[(2,[0,1,7,8])],regs:=[],plans:=[] }
def Ae4:List Item:=A7 Tryz.f225
def Q0:List Item:=stk [0,1,0,0,1,4,5] Ae4
theorem B15 (C:A3) (R:A4) (s:Option Addr) (sn sc:Nat) (f:Value) (h:H) :
 A6 PR U6 C R E8 Tryz.f225 100000 true Ae4 [(0,.slice s sn sc),(1,f)] h =
 R E8 Q0 [(0,.slice s sn sc),(1,f),(7,.int .i64 ((sn:Nat):Int)),(8,.int .i64 0)] h:=by kernel_rfl
theorem As1 (C:A3) (R:A4) (s:Option Addr) (sn sc:Nat) (f:Value) (x7:Int) (x8:Int) (h:H) :
 A6 PR U6 C R E8 Tryz.f225 100000 true Q0 [(0,.slice s sn sc),(1,f),(7,.int .i64 x7),(8,.int .i64 x8)] h =
 cond (decide (x8<x7))
 (aSome s fun p=>ck ((0:Int)≤x8∧x8<((sn:Nat):Int)) (gInt .u8 (Addr.add (B7 p) (Int.toNat x8*1)) h fun x=>aFn f fun g fi cp=>bnd (C g (fi++([.int .u8 x]++cp)) h) fun r w=>aBool r fun x_1=>cond x_1
 (some (.int .i64 x8,w))
 (R E8 Q0 [(0,.slice s sn sc),(1,f),(7,.int .i64 x7),(8,.int .i64 (IntKind.wrap .i64 (x8+1)))] w)))
 (some (.int .i64 (-1),h)):=by kernel_rfl
def Ef1:Cuts:={ globs:=0,loops:=[],regs:=[],plans:=[] }
def Gc9:List Item:=A7 Tryz.f231
theorem Hp9 (C:A3) (R:A4) (p:List Value) (h:H) :
 A6 PR Ef1 C R Di1 Tryz.f231 100000 true Gc9 [(0,.agg ⟨p⟩)] h =
 nw (.cells D2 false p) h fun b w=>gInt .i64 (Addr.add ⟨b,0,none⟩ 0) w fun x=>bnd (cond (decide (x<1)) (some (true,w)) (gInt .i64 (Addr.add ⟨b,0,none⟩ 0) w fun x_1=>some (decide (x_1>3),w))) fun c w1=>bnd (cond c (some (true,w1)) (gInt .i64 (Addr.add ⟨b,0,none⟩ 1) w1 fun x_2=>some (decide (x_2<0),w1))) fun c_1 w2=>bnd (cond c_1 (some (true,w2)) (gInt .i64 (Addr.add ⟨b,0,none⟩ 1) w2 fun x_3=>some (decide (x_3>8),w2))) fun c_2 w3=>bnd (cond c_2 (some (true,w3)) (gInt .i64 (Addr.add ⟨b,0,none⟩ 2) w3 fun x_4=>some (decide (x_4<0),w3))) fun c_3 w4=>bnd (cond c_3 (some (true,w4)) (gInt .i64 (Addr.add ⟨b,0,none⟩ 2) w4 fun x_5=>some (decide (x_5≥8),w4))) fun c_4 w5=>bnd (cond c_4 (some (true,w5)) (gInt .i64 (Addr.add ⟨b,0,none⟩ 3) w5 fun x_6=>some (decide (x_6<0),w5))) fun c_5 w6=>bnd (cond c_5 (some (true,w6)) (gInt .i64 (Addr.add ⟨b,0,none⟩ 3) w6 fun x_7=>some (decide (x_7>255),w6))) fun c_6 w7=>cond c_6
 (some (.bool false,w7))
 (gInt .i64 (Addr.add ⟨b,0,none⟩ 4) w7 fun x_8=>bnd (C Ak3 [.int .i64 x_8,.int .i64 0] w7) fun r w8=>aBool r fun x_9=>bnd (cond (!x_9) (some (true,w8)) (gInt .i64 (Addr.add ⟨b,0,none⟩ 5) w8 fun x_10=>bnd (C Ak3 [.int .i64 x_10,.int .i64 16896] w8) fun r_1 w9=>aBool r_1 fun x_11=>some (!x_11,w9))) fun c_7 w10=>bnd (cond c_7 (some (true,w10)) (gInt .i64 (Addr.add ⟨b,0,none⟩ 6) w10 fun x_12=>bnd (C Ak3 [.int .i64 x_12,.int .i64 16896] w10) fun r_2 w11=>aBool r_2 fun x_13=>some (!x_13,w11))) fun c_8 w12=>bnd (cond c_8 (some (true,w12)) (gInt .i64 (Addr.add ⟨b,0,none⟩ 7) w12 fun x_14=>bnd (C Ak3 [.int .i64 x_14,.int .i64 16896] w12) fun r_3 w13=>aBool r_3 fun x_15=>some (!x_15,w13))) fun c_9 w14=>bnd (cond c_9 (some (true,w14)) (gInt .i64 (Addr.add ⟨b,0,none⟩ 6) w14 fun x_16=>gInt .i64 (Addr.add ⟨b,0,none⟩ 7) w14 fun x_17=>some ((P5 .i64 x_16 x_17) != 0,w14))) fun c_10 w15=>cond c_10
 (some (.bool false,w15))
 (ckB (liveA (Addr.add ⟨b,0,none⟩ 8) w15) (bnd (C E5 [.slice (H2 (some (Addr.add ⟨b,0,none⟩ 8)) (decide (0<8)) (0*1)) (8-0) (8-0),.func (.func Bj2) ⟨[]⟩ ⟨[]⟩] w15) fun r_4 w16=>aBool r_4 fun x_18=>cond x_18
 (some (.bool false,w16))
 (gInt .i64 (Addr.add ⟨b,0,none⟩ 0) w16 fun x_19=>cond (x_19==2)
 (gInt .i64 (Addr.add ⟨b,0,none⟩ 4) w16 fun x_20=>bnd (cond (x_20==0) (gAgg (Addr.add ⟨b,0,none⟩ 8) 8 w16 fun x_21=>B96 PR Gg3 x_21 [.int .i64 0,.int .i64 0,.int .i64 0,.int .i64 0,.int .i64 0,.int .i64 0,.int .i64 0,.int .i64 0] fun eq=>some (eq,w16)) (some (false,w16))) fun c_11 w17=>some (.bool c_11,w17))
 (gInt .i64 (Addr.add ⟨b,0,none⟩ 3) w16 fun x_22=>some (.bool (x_22==0),w16)))))):=by kernel_rfl
def Dz1:Cuts:={ globs:=0,loops:=[],regs:=[],plans:=[] }
def E01:List Item:=A7 Tryz.f235
theorem Ha0 (C:A3) (R:A4) (n:Int) (B4:Int) (h:H) :
 A6 PR Dz1 C R Ar7 Tryz.f235 100000 true E01 [(0,.int .i64 n),(1,.int .i64 B4)] h =
 bnd (cond (decide (n≥0)) (some (decide (n≤B4),h)) (some (false,h))) fun c w=>some (.bool c,w):=by kernel_rfl
end
end Go.EQ

set_option maxRecDepth 100000
namespace Go.EQ
open Go Go.NN Go.Proofs
variable (C : A3) (R : A4)
noncomputable section
def I8:Cuts:={ globs:=0,loops:=[(6,[0,1,2,3,10,13]),(19,[0,1,2,10,15,17,18]),(23,[0,1,2,10,15,17,19]),(49,[10,30])],regs:=[(17,[0,1,2,10,15]),(28,[0,1,2,10,15,17,19,20,21]),(48,[10]),(30,[0,1,2,10,15,17,19,20,21])],plans:=[(31,⟨[0,1,2,3,5,6,7,8,4,9,10],[0,0,0,6,15,0,0,64,224,511,1023],[(4,[8])],[]⟩)] }
def L7:List Item:=A7 Tryz.f8
def Al0:List Item:=stk [0,1,0,1,0,1,0,1,0,0,1,4,5] L7
def Al7:List Item:=stk [0,1,0,1,0,1,0,1,0,1,0,1,0,1,0] L7
def Al5:List Item:=stk [0,1,0,1,0,1,0,1,0,1,0,1,0,1,0,1,0,0,1,4,5] L7
def V0:List Item:=stk [0,1,0,1,0,1,0,1,0,1,0,1,0,1,0,1,0,1,0,0,1,4,5] L7
def Al8:List Item:=stk [0,1,0,1,0,1,0,1,0,1,0,1,0,1,0,1,0,1,0,0,1,4,5,6,0,1,0,4,0,1,0,1,0,0] L7
def Al9:List Item:=stk [0,1,0,1,0,1,0,1,0,1,0,1,0,1,0,1,0,1,0,1,0,1,0,0] L7
def Am2:List Item:=stk [0,1,0,1,0,1,0,1,0,1,0,1,0,1,0,1,0,1,0,0,1,4,5,6,0,1,0,4,0,1,0,1,0,1,0] L7
def Am1:List Item:=stk [0,1,0,1,0,1,0,1,0,1,0,1,0,1,0,1,0,1,0,1,0,1,0,0,1,4,5] L7
theorem Ep1 (C:A3) (R:A4) (n:Int) (order:Option Addr) (ordern orderc:Nat) (codes:Option Addr) (codesn codesc:Nat) (fork:Bool) (h:H) :
 A6 PR I8 C R A9 Tryz.f8 100000 true L7 [(0,.int .i64 n),(1,.slice order ordern orderc),(2,.slice codes codesn codesc),(3,.bool fork)] h =
 bnd (C Bc5 [] h) fun r w=>aSl r fun x xn xc=>bnd (C Ae2 [.slice x xn xc] w) fun r_1 w1=>as4 r_1 fun r_2 r_3 r_4 r_5=>aPtr r_2 fun _=>aPtr r_3 fun x_2=>aPtr r_4 fun _=>aPtr r_5 fun _=>cond x_2.isNone
 (some (.bool false,w1))
 (R A9 Al0 [(0,.int .i64 (IntKind.wrap .i64 ((Int.tmod (P5 .i64 n 255) 6)+1))),(1,.slice order ordern orderc),(2,.slice codes codesn codesc),(3,.bool fork),(10,.pointer x_2),(13,.int .i64 0)] w1):=by kernel_rfl
theorem Bx0 (C:A3) (R:A4) (n:Int) (order:Option Addr) (ordern orderc:Nat) (codes:Option Addr) (codesn codesc:Nat) (fork:Bool) (c:Option Addr) (i:Int) (h:H) :
 A6 PR I8 C R A9 Tryz.f8 100000 true Al0 [(0,.int .i64 n),(1,.slice order ordern orderc),(2,.slice codes codesn codesc),(3,.bool fork),(10,.pointer c),(13,.int .i64 i)] h =
 cond (decide (i<n))
 (bnd (C Bc8 [.pointer c,.int .i64 0] h) fun r w=>aAgg r fun x=>nw (.cells Z4 false [.int .i64 0,.int .i64 0,.slice none 0 0,.bool false]) w fun b w1=>ck (List.length x=4) (pAgg ⟨b,0,none⟩ x w1 fun w2=>gInt .i64 (Addr.add ⟨b,0,none⟩ 1) w2 fun x_1=>bnd (cond (x_1 != 0) (some (true,w2)) (gInt .i64 (Addr.add ⟨b,0,none⟩ 0) w2 fun x_2=>some (x_2 != (IntKind.wrap .i64 (i+1)),w2))) fun c_1 w3=>cond c_1
 (some (.bool false,w3))
 (R A9 Al0 [(0,.int .i64 n),(1,.slice order ordern orderc),(2,.slice codes codesn codesc),(3,.bool fork),(10,.pointer c),(13,.int .i64 (IntKind.wrap .i64 (i+1)))] w3)))
 (bnd (cond fork (some (decide (n<7),h)) (some (false,h))) fun c_2 w4=>cond c_2
 (bnd (C Bc8 [.pointer c,.int .i64 1] w4) fun r_1 w5=>aAgg r_1 fun x_3=>nw (.cells Z4 false [.int .i64 0,.int .i64 0,.slice none 0 0,.bool false]) w5 fun b_1 w6=>ck (List.length x_3=4) (pAgg ⟨b_1,0,none⟩ x_3 w6 fun w7=>gInt .i64 (Addr.add ⟨b_1,0,none⟩ 1) w7 fun x_4=>bnd (cond (x_4 != 0) (some (true,w7)) (gInt .i64 (Addr.add ⟨b_1,0,none⟩ 0) w7 fun x_5=>some (x_5 != (IntKind.wrap .i64 (n+1)),w7))) fun c_3 w8=>cond c_3
 (some (.bool false,w8))
 (R A9 Al7 [(0,.int .i64 n),(1,.slice order ordern orderc),(2,.slice codes codesn codesc),(10,.pointer c),(15,.int .i64 1)] w8)))
 (R A9 Al7 [(0,.int .i64 n),(1,.slice order ordern orderc),(2,.slice codes codesn codesc),(10,.pointer c),(15,.int .i64 0)] w4)):=by kernel_rfl
theorem D64 (C:A3) (R:A4) (n:Int) (order:Option Addr) (ordern orderc:Nat) (codes:Option Addr) (codesn codesc:Nat) (c:Option Addr) (extra:Int) (h:H) :
 A6 PR I8 C R A9 Tryz.f8 100000 true Al7 [(0,.int .i64 n),(1,.slice order ordern orderc),(2,.slice codes codesn codesc),(10,.pointer c),(15,.int .i64 extra)] h =
 R A9 Al5 [(0,.int .i64 n),(1,.slice order ordern orderc),(2,.slice codes codesn codesc),(10,.pointer c),(15,.int .i64 extra),(17,.slice none 0 0),(18,.int .i64 1)] h:=by kernel_rfl
theorem Bx3 (C:A3) (R:A4) (n:Int) (order:Option Addr) (ordern orderc:Nat) (codes:Option Addr) (codesn codesc:Nat) (c:Option Addr) (extra:Int) (left:Option Addr) (leftn leftc:Nat) (i:Int) (h:H) :
 A6 PR I8 C R A9 Tryz.f8 100000 true Al5 [(0,.int .i64 n),(1,.slice order ordern orderc),(2,.slice codes codesn codesc),(10,.pointer c),(15,.int .i64 extra),(17,.slice left leftn leftc),(18,.int .i64 i)] h =
 cond (decide (i≤n))
 (nw (.cells B5 false [.int .i64 i]) h fun b w=>gCells (some ⟨b,0,none⟩) (1*1) w fun cs=>ckB (fitsOpen left B5 w) (apd B5 1 left leftn leftc 1 cs w fun a an ac w1=>R A9 Al5 [(0,.int .i64 n),(1,.slice order ordern orderc),(2,.slice codes codesn codesc),(10,.pointer c),(15,.int .i64 extra),(17,.slice a an ac),(18,.int .i64 (IntKind.wrap .i64 (i+1)))] w1))
 (R A9 V0 [(0,.int .i64 n),(1,.slice order ordern orderc),(2,.slice codes codesn codesc),(10,.pointer c),(15,.int .i64 extra),(17,.slice left leftn leftc),(19,.int .i64 0)] h):=by kernel_rfl
theorem Bx4 (C:A3) (R:A4) (n:Int) (order:Option Addr) (ordern orderc:Nat) (codes:Option Addr) (codesn codesc:Nat) (c:Option Addr) (extra:Int) (left:Option Addr) (leftn leftc:Nat) (i:Int) (h:H) :
 A6 PR I8 C R A9 Tryz.f8 100000 true V0 [(0,.int .i64 n),(1,.slice order ordern orderc),(2,.slice codes codesn codesc),(10,.pointer c),(15,.int .i64 extra),(17,.slice left leftn leftc),(19,.int .i64 i)] h =
 cond (decide (i<n))
 (cond (decide (i<((ordern:Nat):Int)))
 (aSome order fun p=>ck ((0:Int)≤i∧i<((ordern:Nat):Int)) (gInt .i64 (Addr.add (B7 p) (Int.toNat i*1)) h fun x=>ck (((leftn:Nat):Int)≠(0:Int)) (R A9 Al8 [(0,.int .i64 n),(1,.slice order ordern orderc),(2,.slice codes codesn codesc),(10,.pointer c),(15,.int .i64 extra),(17,.slice left leftn leftc),(19,.int .i64 i),(20,.int .i64 (Int.tmod (P5 .i64 x 255) ((leftn:Nat):Int))),(21,.int .i64 0)] h)))
 (R A9 Al8 [(0,.int .i64 n),(1,.slice order ordern orderc),(2,.slice codes codesn codesc),(10,.pointer c),(15,.int .i64 extra),(17,.slice left leftn leftc),(19,.int .i64 i),(20,.int .i64 0),(21,.int .i64 0)] h))
 (cond (extra==1)
 (bnd (C Ar6 [.pointer c,.int .i64 (IntKind.wrap .i64 (n+1))] h) fun r w=>as2 r fun r_1 r_2=>aAgg r_1 fun x_1=>aInt .i64 r_2 fun x_2=>nw (.cells D2 false [.int .i64 0,.int .i64 0,.int .i64 0,.int .i64 0,.int .i64 0,.int .i64 0,.int .i64 0,.int .i64 0,.int .i64 0,.int .i64 0,.int .i64 0,.int .i64 0,.int .i64 0,.int .i64 0,.int .i64 0,.int .i64 0]) w fun b w1=>ck (List.length x_1=16) (pAgg ⟨b,0,none⟩ x_1 w1 fun w2=>bnd (cond (x_2 != 0) (some (true,w2)) (gInt .i64 (Addr.add ⟨b,0,none⟩ 1) w2 fun x_3=>some (x_3 != 0,w2))) fun c_1 w3=>bnd (cond c_1 (some (true,w3)) (bnd (C Bq6 [.pointer c,.int .i64 (IntKind.wrap .i64 (n+1)),.int .i64 0] w3) fun r_3 w4=>aAgg r_3 fun x_4=>nth x_4 1 fun E=>aInt .i64 E fun E_1=>some (E_1 != 0,w4))) fun c_2 w5=>cond c_2
 (some (.bool false,w5))
 (bnd (C E2 [.pointer c,.int .i64 (IntKind.wrap .i64 (n+1))] w5) fun r_4 w6=>as2 r_4 fun r_5 r_6=>aAgg r_5 fun x_5=>aInt .i64 r_6 fun x_6=>nw (.cells D2 false [.int .i64 0,.int .i64 0,.int .i64 0,.int .i64 0,.int .i64 0,.int .i64 0,.int .i64 0,.int .i64 0,.int .i64 0,.int .i64 0,.int .i64 0,.int .i64 0,.int .i64 0,.int .i64 0,.int .i64 0,.int .i64 0]) w6 fun b_1 w7=>ck (List.length x_5=16) (pAgg ⟨b_1,0,none⟩ x_5 w7 fun w8=>cond (x_6 != 0)
 (some (.bool false,w8))
 (R A9 Al9 [(10,.pointer c)] w8)))))
 (R A9 Al9 [(10,.pointer c)] h)):=by kernel_rfl
theorem D47 (C:A3) (R:A4) (n:Int) (order:Option Addr) (ordern orderc:Nat) (codes:Option Addr) (codesn codesc:Nat) (c:Option Addr) (extra:Int) (left:Option Addr) (leftn leftc:Nat) (i:Int) (k:Int) (code:Int) (h:H) :
 A6 PR I8 C R A9 Tryz.f8 100000 true Al8 [(0,.int .i64 n),(1,.slice order ordern orderc),(2,.slice codes codesn codesc),(10,.pointer c),(15,.int .i64 extra),(17,.slice left leftn leftc),(19,.int .i64 i),(20,.int .i64 k),(21,.int .i64 code)] h =
 cond (decide (i<((codesn:Nat):Int)))
 (aSome codes fun p=>ck ((0:Int)≤i∧i<((codesn:Nat):Int)) (gInt .i64 (Addr.add (B7 p) (Int.toNat i*1)) h fun x=>R A9 Am2 [(0,.int .i64 n),(1,.slice order ordern orderc),(2,.slice codes codesn codesc),(10,.pointer c),(15,.int .i64 extra),(17,.slice left leftn leftc),(19,.int .i64 i),(20,.int .i64 k),(21,.int .i64 x)] h))
 (R A9 Am2 [(0,.int .i64 n),(1,.slice order ordern orderc),(2,.slice codes codesn codesc),(10,.pointer c),(15,.int .i64 extra),(17,.slice left leftn leftc),(19,.int .i64 i),(20,.int .i64 k),(21,.int .i64 code)] h):=by kernel_rfl
theorem D60 (C:A3) (R:A4) (c:Option Addr) (h:H) :
 A6 PR I8 C R A9 Tryz.f8 100000 true Al9 [(10,.pointer c)] h =
 R A9 Am1 [(10,.pointer c),(30,.int .i64 1)] h:=by kernel_rfl
theorem D41 (C:A3) (R:A4) (n:Int) (order:Option Addr) (ordern orderc:Nat) (codes:Option Addr) (codesn codesc:Nat) (c:Option Addr) (extra:Int) (left:Option Addr) (leftn leftc:Nat) (i:Int) (k:Int) (code:Int) (h:H) :
 A6 PR I8 C R A9 Tryz.f8 100000 true Am2 [(0,.int .i64 n),(1,.slice order ordern orderc),(2,.slice codes codesn codesc),(10,.pointer c),(15,.int .i64 extra),(17,.slice left leftn leftc),(19,.int .i64 i),(20,.int .i64 k),(21,.int .i64 code)] h =
 aSome left fun p=>ck ((0:Int)≤k∧k<((leftn:Nat):Int)) (gInt .i64 (Addr.add (B7 p) (Int.toNat k*1)) h fun x=>nw (.cells B5 false []) h fun b w=>ckB (fitsOpen left B5 w) (ck ((0:Int)≤k∧k≤((leftc:Nat):Int)) (ckB (fitsOpen left B5 w) (ck ((0:Int)≤IntKind.wrap .i64 (k+1)∧IntKind.wrap .i64 (k+1)≤((leftn:Nat):Int)) (gCells (H2 left (decide (0<leftc)) (0*1)) (((Int.toNat k)-0)*1) w fun cs=>ckB (fitsOpen (some ⟨b,0,none⟩) B5 w) (apd B5 1 (some ⟨b,0,none⟩) 0 0 ((Int.toNat k)-0) cs w fun a an ac w1=>ckB (fitsOpen left B5 w1) (ck ((0:Int)≤IntKind.wrap .i64 (k+1)∧IntKind.wrap .i64 (k+1)≤((leftn:Nat):Int)) (same (.slice (H2 left (decide (Int.toNat (IntKind.wrap .i64 (k+1))<leftc)) ((Int.toNat (IntKind.wrap .i64 (k+1)))*1)) (leftn-(Int.toNat (IntKind.wrap .i64 (k+1)))) (leftc-(Int.toNat (IntKind.wrap .i64 (k+1))))) (.slice (H2 left (decide (Int.toNat (IntKind.wrap .i64 (k+1))<leftc)) ((Int.toNat (IntKind.wrap .i64 (k+1)))*1)) (leftn-(Int.toNat (IntKind.wrap .i64 (k+1)))) (leftc-(Int.toNat (IntKind.wrap .i64 (k+1))))) (gCells (H2 left (decide (Int.toNat (IntKind.wrap .i64 (k+1))<leftc)) ((Int.toNat (IntKind.wrap .i64 (k+1)))*1)) ((leftn-(Int.toNat (IntKind.wrap .i64 (k+1))))*1) w1 fun cs_1=>ckB (fitsOpen a B5 w1) (apd B5 1 a an ac (leftn-(Int.toNat (IntKind.wrap .i64 (k+1)))) cs_1 w1 fun a_1 an_1 ac_1 w2=>bnd (C Bq6 [.pointer c,.int .i64 x,.int .i64 code] w2) fun r w3=>aAgg r fun x_1=>nw (.cells Z4 false [.int .i64 0,.int .i64 0,.slice none 0 0,.bool false]) w3 fun b_1 w4=>ck (List.length x_1=4) (pAgg ⟨b_1,0,none⟩ x_1 w4 fun w5=>gInt .i64 (Addr.add ⟨b_1,0,none⟩ 1) w5 fun x_2=>cond (x_2 != 0)
 (some (.bool false,w5))
 (bnd (C Aa6 [.pointer c,.int .i64 0] w5) fun r_1 w6=>aAgg r_1 fun x_3=>nw (.cells Z4 false [.int .i64 0,.int .i64 0,.slice none 0 0,.bool false]) w6 fun b_2 w7=>ck (List.length x_3=4) (pAgg ⟨b_2,0,none⟩ x_3 w7 fun w8=>gInt .i64 (Addr.add ⟨b_2,0,none⟩ 1) w8 fun x_4=>bnd (cond (x_4 != 0) (some (true,w8)) (gBool (Addr.add ⟨b_2,0,none⟩ 3) w8 fun x_5=>some (x_5,w8))) fun c_1 w9=>bnd (cond c_1 (some (true,w9)) (gInt .i64 (Addr.add ⟨b_2,0,none⟩ 0) w9 fun x_6=>some (x_6 != (IntKind.wrap .i64 ((IntKind.wrap .i64 (256*x))+(Int.tmod (IntKind.wrap .i64 ((Int.tmod code 256)+256)) 256))),w9))) fun c_2 w10=>cond c_2
 (some (.bool false,w10))
 (bnd (C Aa6 [.pointer c,.int .i64 0] w10) fun r_2 w11=>aAgg r_2 fun x_7=>nw (.cells Z4 false [.int .i64 0,.int .i64 0,.slice none 0 0,.bool false]) w11 fun b_3 w12=>ck (List.length x_7=4) (pAgg ⟨b_3,0,none⟩ x_7 w12 fun w13=>gBool (Addr.add ⟨b_3,0,none⟩ 3) w13 fun x_8=>bnd (cond (!(x_8==(decide (((an_1:Nat):Int)>0)))) (some (true,w13)) (gBool (Addr.add ⟨b_3,0,none⟩ 3) w13 fun x_9=>bnd (cond (!x_9) (gInt .i64 (Addr.add ⟨b_3,0,none⟩ 1) w13 fun x_10=>some (x_10 != 110,w13)) (some (false,w13))) fun c_3 w14=>some (c_3,w14))) fun c_4 w15=>cond c_4
 (some (.bool false,w15))
 (R A9 V0 [(0,.int .i64 n),(1,.slice order ordern orderc),(2,.slice codes codesn codesc),(10,.pointer c),(15,.int .i64 extra),(17,.slice a_1 an_1 ac_1),(19,.int .i64 (IntKind.wrap .i64 (i+1)))] w15)))))))))))))))):=by kernel_rfl
theorem Bw3 (C:A3) (R:A4) (c:Option Addr) (i:Int) (h:H) :
 A6 PR I8 C R A9 Tryz.f8 100000 true Am1 [(10,.pointer c),(30,.int .i64 i)] h =
 cond (decide (i<8))
 (bnd (C E2 [.pointer c,.int .i64 i] h) fun r w=>as2 r fun r_1 r_2=>aAgg r_1 fun x=>aInt .i64 r_2 fun x_1=>nw (.cells D2 false [.int .i64 0,.int .i64 0,.int .i64 0,.int .i64 0,.int .i64 0,.int .i64 0,.int .i64 0,.int .i64 0,.int .i64 0,.int .i64 0,.int .i64 0,.int .i64 0,.int .i64 0,.int .i64 0,.int .i64 0,.int .i64 0]) w fun b w1=>ck (List.length x=16) (pAgg ⟨b,0,none⟩ x w1 fun w2=>cond (x_1 != 0)
 (some (.bool false,w2))
 (R A9 Am1 [(10,.pointer c),(30,.int .i64 (IntKind.wrap .i64 (i+1)))] w2)))
 (bnd (C L5 [.pointer c,.int .i64 0] h) fun r_3 w3=>as2 r_3 fun r_4 r_5=>aAgg r_4 fun x_2=>aInt .i64 r_5 fun x_3=>nw (.cells H8 false [.int .i64 0,.int .i64 0,.int .i64 0,.int .i64 0]) w3 fun b_1 w4=>ck (List.length x_2=4) (pAgg ⟨b_1,0,none⟩ x_2 w4 fun w5=>bnd (cond (x_3==1) (gInt .i64 (Addr.add ⟨b_1,0,none⟩ 2) w5 fun x_4=>some (x_4==1,w5)) (some (false,w5))) fun c_1 w6=>bnd (cond c_1 (bnd (C Bq8 [] w6) fun r_6 w7=>aBool r_6 fun x_5=>some (x_5,w7)) (some (false,w6))) fun c_2 w8=>some (.bool c_2,w8))):=by kernel_rfl
def Dr0:Cuts:={ globs:=0,loops:=[],regs:=[],plans:=[] }
def Er4:List Item:=A7 Tryz.f13
theorem G13 (C:A3) (R:A4) (p:List Value) (h:H) :
 A6 PR Dr0 C R Bh2 Tryz.f13 100000 true Er4 [(0,.agg ⟨p⟩)] h =
 nw (.cells B16 false p) h fun b w=>gAgg ⟨b,0,none⟩ 3 w fun x=>bnd (C I7 [.agg ⟨x⟩] w) fun r w1=>aAgg r fun x_1=>nw (.cells D9 false [.slice none 0 0,.slice none 0 0,.slice none 0 0,.int .i64 0,.slice none 0 0]) w1 fun b_1 w2=>ck (List.length x_1=5) (pAgg ⟨b_1,0,none⟩ x_1 w2 fun w3=>gAgg ⟨b_1,0,none⟩ 5 w3 fun x_2=>bnd (C H7 [.agg ⟨x_2⟩] w3) fun r_1 w4=>as2 r_1 fun r_2 r_3=>aPtr r_2 fun x_3=>aInt .i64 r_3 fun x_4=>bnd (cond x_3.isNone (some (true,w4)) (some (x_4 != 0,w4))) fun c w5=>cond c
 (some (.tuple ⟨[.pointer none,.pointer none,.pointer none,.pointer none]⟩,w5))
 (gAgg ⟨b_1,0,none⟩ 5 w5 fun x_5=>bnd (C G0 [.agg ⟨x_5⟩] w5) fun r_4 w6=>aPtr r_4 fun x_6=>bnd (C Br6 [.pointer x_3,.int .i64 0] w6) fun r_5 w7=>as2 r_5 fun r_6 r_7=>aPtr r_6 fun x_7=>aInt .i64 r_7 fun x_8=>bnd (cond x_7.isNone (some (true,w7)) (some (x_8 != 0,w7))) fun c_1 w8=>cond c_1
 (some (.tuple ⟨[.pointer none,.pointer none,.pointer none,.pointer none]⟩,w8))
 (bnd (C Bc0 [] w8) fun r_8 w9=>aStr r_8 fun x_9=>ck (ByteArray.size x_9≤B4) (nw (.cells A5 false (A0 (ByteArray.data x_9).toList)) w9 fun b_2 w10=>bnd (C S7 [.pointer x_3,.int .i64 0,.agg ⟨[.int .i64 2,.int .i64 256,.int .i64 0,.int .i64 0,.int .i64 0,.int .i64 0,.slice (some (L8 b_2)) (ByteArray.size x_9) (ByteArray.size x_9)]⟩] w10) fun r_9 w11=>aAgg r_9 fun x_10=>nth x_10 0 fun E=>aInt .i64 E fun E_1=>cond (E_1 != 0)
 (some (.tuple ⟨[.pointer none,.pointer none,.pointer none,.pointer none]⟩,w11))
 (ck (ByteArray.size x_9≤B4) (nw (.cells A5 false (A0 (ByteArray.data x_9).toList)) w11 fun b_3 w12=>bnd (C As5 [.pointer x_6,.int .i64 0,.agg ⟨[.int .i64 2,.int .i64 256,.int .i64 0,.int .i64 0,.int .i64 0,.int .i64 0,.slice (some (L8 b_3)) (ByteArray.size x_9) (ByteArray.size x_9)]⟩] w12) fun r_10 w13=>as3 r_10 fun r_11 r_12 r_13=>aInt .i64 r_11 fun _=>aInt .i64 r_12 fun _=>aStr r_13 fun _=>bnd (C Az5 [.pointer x_6,.int .i64 0] w13) fun r_14 w14=>aPtr r_14 fun x_14=>some (.tuple ⟨[.pointer x_3,.pointer x_7,.pointer x_6,.pointer x_14]⟩,w14))))))):=by kernel_rfl
def Aq5:Cuts:={ globs:=0,loops:=[],regs:=[],plans:=[] }
def Bf1:List Item:=A7 Tryz.f17
theorem Dj9 (C:A3) (R:A4) (c:Option Addr) (i:Int) (p:List Value) (h:H) :
 A6 PR Aq5 C R Ac8 Tryz.f17 100000 true Bf1 [(0,.pointer c),(1,.int .i64 i),(2,.agg ⟨p⟩)] h =
 nw (.cells I4 false p) h fun b w=>gAgg ⟨b,0,none⟩ 36 w fun x=>bnd (C Ba8 [.agg ⟨x⟩] w) fun r w1=>as2 r fun r_1 r_2=>aSl r_1 fun x_1 xn xc=>aBool r_2 fun x_2=>bnd (C As6 [.int .i64 i] w1) fun r_3 w2=>aAgg r_3 fun x_3=>bnd (C J5 [.pointer c,.agg ⟨x_3⟩,.slice x_1 xn xc,.bool x_2] w2) fun r_4 w3=>aBool r_4 fun x_4=>some (.bool x_4,w3):=by kernel_rfl
def A33:Cuts:={ globs:=0,loops:=[(4,[1,3,4])],regs:=[],plans:=[(2,⟨[0,1,2,5,6,9,10,13,14,3,4,7,8,11,12,15,16,17],[0,0,2,6,15,0,32,110,255,0,512,1774,4095,0,8192,28398,65535,131071],[(3,[6,10,14]),(7,[10,14]),(11,[14])],[]⟩)] }
def Bn0:List Item:=A7 Tryz.f20
def Ao7:List Item:=stk [0,1,0,1,0,1,0,0,1,4,5] Bn0
theorem Ey1 (C:A3) (R:A4) (p:List Value) (h:H) :
 A6 PR A33 C R U0 Tryz.f20 100000 true Bn0 [(0,.agg ⟨p⟩)] h =
 nw (.cells D2 false p) h fun b w=>gInt .i64 (Addr.add ⟨b,0,none⟩ 0) w fun x=>gInt .i64 (Addr.add ⟨b,0,none⟩ 1) w fun x_1=>gInt .i64 (Addr.add ⟨b,0,none⟩ 2) w fun x_2=>gInt .i64 (Addr.add ⟨b,0,none⟩ 3) w fun x_3=>nw (.cells A5 false [.int .u8 (IntKind.wrap .u8 (x)),.int .u8 (IntKind.wrap .u8 (x_1)),.int .u8 (IntKind.wrap .u8 (x_2)),.int .u8 (IntKind.wrap .u8 (x_3))]) w fun b_1 w1=>gCells (some ⟨b_1,0,none⟩) 4 w1 fun cs=>asBytes cs fun l=>gInt .i64 (Addr.add ⟨b,0,none⟩ 4) w1 fun x_4=>gInt .i64 (Addr.add ⟨b,0,none⟩ 5) w1 fun x_5=>gInt .i64 (Addr.add ⟨b,0,none⟩ 6) w1 fun x_6=>gInt .i64 (Addr.add ⟨b,0,none⟩ 7) w1 fun x_7=>bnd (C A72 [.int .i64 x_4] w1) fun r w2=>aStr r fun x_8=>gInt .i64 (Addr.add ⟨b,0,none⟩ 5) w2 fun x_9=>same (.int .i64 x_5) (.int .i64 x_9) (gInt .i64 (Addr.add ⟨b,0,none⟩ 6) w2 fun x_10=>same (.int .i64 x_6) (.int .i64 x_10) (gInt .i64 (Addr.add ⟨b,0,none⟩ 7) w2 fun x_11=>same (.int .i64 x_7) (.int .i64 x_11) (ck (ByteArray.size (ByteArray.mk ⟨l⟩)+ByteArray.size x_8≤B4) (bnd (C A72 [.int .i64 x_5] w2) fun r_1 w3=>aStr r_1 fun x_12=>gInt .i64 (Addr.add ⟨b,0,none⟩ 6) w3 fun x_13=>same (.int .i64 x_6) (.int .i64 x_13) (gInt .i64 (Addr.add ⟨b,0,none⟩ 7) w3 fun x_14=>same (.int .i64 x_7) (.int .i64 x_14) (ck (ByteArray.size ((ByteArray.mk ⟨l⟩)++x_8)+ByteArray.size x_12≤B4) (bnd (C A72 [.int .i64 x_6] w3) fun r_2 w4=>aStr r_2 fun x_15=>gInt .i64 (Addr.add ⟨b,0,none⟩ 7) w4 fun x_16=>same (.int .i64 x_7) (.int .i64 x_16) (ck (ByteArray.size (((ByteArray.mk ⟨l⟩)++x_8)++x_12)+ByteArray.size x_15≤B4) (bnd (C A72 [.int .i64 x_7] w4) fun r_3 w5=>aStr r_3 fun x_17=>ck (ByteArray.size ((((ByteArray.mk ⟨l⟩)++x_8)++x_12)++x_15)+ByteArray.size x_17≤B4) (R U0 Ao7 [(1,.pointer (some ⟨b,0,none⟩)),(3,.string (((((ByteArray.mk ⟨l⟩)++x_8)++x_12)++x_15)++x_17)),(4,.int .i64 0)] w5)))))))))):=by kernel_rfl
theorem B00 (C:A3) (R:A4) (p:Addr) (s:ByteArray) (i:Int) (h:H) :
 A6 PR A33 C R U0 Tryz.f20 100000 true Ao7 [(1,.pointer (some p)),(3,.string s),(4,.int .i64 i)] h =
 cond (decide (i<8))
 (ck ((0:Int)≤i∧i<((8:Nat):Int)) (gInt .i64 (Addr.add (Addr.add p 8) (Int.toNat i*1)) h fun x=>nw (.cells A5 false [.int .u8 (IntKind.wrap .u8 (x))]) h fun b w=>gCells (some ⟨b,0,none⟩) 1 w fun cs=>asBytes cs fun l=>ck (ByteArray.size s+ByteArray.size (ByteArray.mk ⟨l⟩)≤B4) (R U0 Ao7 [(1,.pointer (some p)),(3,.string (s++(ByteArray.mk ⟨l⟩))),(4,.int .i64 (IntKind.wrap .i64 (i+1)))] w)))
 (ck (ByteArray.size s+ByteArray.size (ByteArray.mk ⟨[167]⟩)≤B4) (bnd (C Ae1 [.string (s++(ByteArray.mk ⟨[167]⟩))] h) fun r w1=>aInt .u8 r fun x_1=>nw (.cells A5 false [.int .u8 x_1,.int .u8 0,.int .u8 0]) w1 fun b_1 w2=>gCells (some ⟨b_1,0,none⟩) 3 w2 fun cs_1=>asBytes cs_1 fun l_1=>ck (ByteArray.size (s++(ByteArray.mk ⟨[167]⟩))+ByteArray.size (ByteArray.mk ⟨l_1⟩)≤B4) (some (.string ((s++(ByteArray.mk ⟨[167]⟩))++(ByteArray.mk ⟨l_1⟩)),w2)))):=by kernel_rfl
def Am8:Cuts:={ globs:=0,loops:=[],regs:=[],plans:=[] }
def Bc7:List Item:=A7 Tryz.f25
theorem Dg3 (C:A3) (R:A4) (c:Option Addr) (i:Int) (h:H) :
 A6 PR Am8 C R J0 Tryz.f25 100000 true Bc7 [(0,.pointer c),(1,.int .i64 i)] h =
 bnd (C As3 [.int .i64 i] h) fun r w=>aAgg r fun x=>bnd (C Q2 [.pointer c,.agg ⟨x⟩] w) fun r_1 w1=>aBool r_1 fun x_1=>some (.bool x_1,w1):=by kernel_rfl
def De6:Cuts:={ globs:=0,loops:=[],regs:=[],plans:=[(5,⟨[0,1,2,3,4],[0,1,0,4,15],[(3,[1])],[]⟩)] }
def Ei1:List Item:=A7 Tryz.f32
theorem Gs1 (C:A3) (R:A4)  (h:H) :
 A6 PR De6 C R Bc5 Tryz.f32 100000 true Ei1 [] h =
 bnd (C Bc0 [] h) fun r w=>aStr r fun x=>ck (ByteArray.size x≤B4) (nw (.cells A5 false (A0 (ByteArray.data x).toList)) w fun b w1=>nw (.cells D2 false [.int .i64 0,.int .i64 0,.int .i64 0,.int .i64 0,.int .i64 0,.int .i64 0,.int .i64 0,.int .i64 0,.int .i64 0,.int .i64 0,.int .i64 0,.int .i64 0,.int .i64 0,.int .i64 0,.int .i64 0,.int .i64 0]) w1 fun b_1 w2=>pAgg ⟨b_1,0,none⟩ [.int .i64 1,.int .i64 0,.int .i64 0,.int .i64 0,.int .i64 0,.int .i64 0,.int .i64 0,.int .i64 0,.int .i64 0,.int .i64 0,.int .i64 0,.int .i64 0,.int .i64 0,.int .i64 0,.int .i64 0,.int .i64 0] w2 fun w3=>ck ((0:Int)≤0∧0<((8:Nat):Int)) (pV (Addr.add (Addr.add ⟨b_1,0,none⟩ 8) (Int.toNat 0*1)) (.int .i64 1) w3 fun w4=>gAgg ⟨b_1,0,none⟩ 16 w4 fun x_1=>bnd (C U0 [.agg ⟨x_1⟩] w4) fun r_1 w5=>aStr r_1 fun x_2=>pCells (some (L8 b)) (A0 (List.take (min (ByteArray.size x_2) (ByteArray.size x)) (ByteArray.data x_2).toList)) w5 fun w6=>ckB (fitsOpen (some (L8 b)) A5 w6) (ck ((0:Int)≤192∧192≤((ByteArray.size x:Nat):Int)) (bnd (C A26 [.agg ⟨[.int .i64 3,.int .i64 0,.int .i64 1,.int .i64 0]⟩] w6) fun r_2 w7=>aStr r_2 fun x_3=>ckB (fitsOpen (some (L8 b)) A5 w7) (ck ((0:Int)≤192∧192≤((ByteArray.size x:Nat):Int)) (same (.slice (H2 (some (L8 b)) (decide (Int.toNat 192<ByteArray.size x)) ((Int.toNat 192)*1)) ((ByteArray.size x)-(Int.toNat 192)) ((ByteArray.size x)-(Int.toNat 192))) (.slice (H2 (some (L8 b)) (decide (Int.toNat 192<ByteArray.size x)) ((Int.toNat 192)*1)) ((ByteArray.size x)-(Int.toNat 192)) ((ByteArray.size x)-(Int.toNat 192))) (pCells (H2 (some (L8 b)) (decide (Int.toNat 192<ByteArray.size x)) ((Int.toNat 192)*1)) (A0 (List.take (min (ByteArray.size x_3) ((ByteArray.size x)-(Int.toNat 192))) (ByteArray.data x_3).toList)) w7 fun w8=>some (.slice (some (L8 b)) (ByteArray.size x) (ByteArray.size x),w8)))))))):=by kernel_rfl
def D12:Cuts:={ globs:=0,loops:=[],regs:=[],plans:=[] }
def E17:List Item:=A7 Tryz.f38
theorem G91 (C:A3) (R:A4) (c:Option Addr) (i:Int) (code:Int) (h:H) :
 A6 PR D12 C R Bq6 Tryz.f38 100000 true E17 [(0,.pointer c),(1,.int .i64 i),(2,.int .i64 code)] h =
 nw (.cells Z4 false [.int .i64 0,.int .i64 0,.slice none 0 0,.bool false]) h fun b w=>bnd (C Ar6 [.pointer c,.int .i64 i] w) fun r w1=>as2 r fun r_1 r_2=>aAgg r_1 fun x=>aInt .i64 r_2 fun x_1=>nw (.cells D2 false [.int .i64 0,.int .i64 0,.int .i64 0,.int .i64 0,.int .i64 0,.int .i64 0,.int .i64 0,.int .i64 0,.int .i64 0,.int .i64 0,.int .i64 0,.int .i64 0,.int .i64 0,.int .i64 0,.int .i64 0,.int .i64 0]) w1 fun b_1 w2=>ck (List.length x=16) (pAgg ⟨b_1,0,none⟩ x w2 fun w3=>cond (x_1 != 0)
 (bnd (C Ab1 [.int .i64 x_1] w3) fun r_3 w4=>aAgg r_3 fun x_2=>ck (List.length x_2=4) (pAgg ⟨b,0,none⟩ x_2 w4 fun w5=>gAgg ⟨b,0,none⟩ 4 w5 fun x_3=>some (.agg ⟨x_3⟩,w5)))
 (bnd (C U5 [.pointer c,.int .i64 i] w3) fun r_4 w6=>as0 r_4 (bnd (C Ab8 [.pointer c,.int .i64 i] w6) fun r_5 w7=>as0 r_5 (bnd (C E2 [.pointer c,.int .i64 i] w7) fun r_6 w8=>as2 r_6 fun r_7 r_8=>aAgg r_7 fun x_4=>aInt .i64 r_8 fun x_5=>nw (.cells D2 false [.int .i64 0,.int .i64 0,.int .i64 0,.int .i64 0,.int .i64 0,.int .i64 0,.int .i64 0,.int .i64 0,.int .i64 0,.int .i64 0,.int .i64 0,.int .i64 0,.int .i64 0,.int .i64 0,.int .i64 0,.int .i64 0]) w8 fun b_2 w9=>ck (List.length x_4=16) (pAgg ⟨b_2,0,none⟩ x_4 w9 fun w10=>cond (x_5 != 1)
 (bnd (C Ab1 [.int .i64 105] w10) fun r_9 w11=>aAgg r_9 fun x_6=>ck (List.length x_6=4) (pAgg ⟨b,0,none⟩ x_6 w11 fun w12=>gAgg ⟨b,0,none⟩ 4 w12 fun x_7=>some (.agg ⟨x_7⟩,w12)))
 (gInt .i64 (Addr.add ⟨b_2,0,none⟩ 1) w10 fun x_8=>cond (decide (x_8>0))
 (gInt .i64 (Addr.add ⟨b_2,0,none⟩ 1) w10 fun x_9=>bnd (C E2 [.pointer c,.int .i64 (IntKind.wrap .i64 (x_9-1))] w10) fun r_10 w13=>as2 r_10 fun r_11 r_12=>aAgg r_11 fun x_10=>aInt .i64 r_12 fun x_11=>nw (.cells D2 false [.int .i64 0,.int .i64 0,.int .i64 0,.int .i64 0,.int .i64 0,.int .i64 0,.int .i64 0,.int .i64 0,.int .i64 0,.int .i64 0,.int .i64 0,.int .i64 0,.int .i64 0,.int .i64 0,.int .i64 0,.int .i64 0]) w13 fun b_3 w14=>ck (List.length x_10=16) (pAgg ⟨b_3,0,none⟩ x_10 w14 fun w15=>bnd (cond (x_11==1) (gInt .i64 (Addr.add ⟨b_3,0,none⟩ 0) w15 fun x_12=>some (x_12 != 2,w15)) (some (false,w15))) fun c_1 w16=>cond c_1
 (pV (Addr.add ⟨b_2,0,none⟩ 0) (.int .i64 2) w16 fun w17=>pV (Addr.add ⟨b_2,0,none⟩ 3) (.int .i64 (Int.tmod (IntKind.wrap .i64 ((Int.tmod code 256)+256)) 256)) w17 fun w18=>pV (Addr.add ⟨b_2,0,none⟩ 4) (.int .i64 0) w18 fun w19=>pAgg (Addr.add ⟨b_2,0,none⟩ 8) [.int .i64 0,.int .i64 0,.int .i64 0,.int .i64 0,.int .i64 0,.int .i64 0,.int .i64 0,.int .i64 0] w19 fun w20=>gAgg ⟨b_2,0,none⟩ 16 w20 fun x_13=>bnd (C J9 [.pointer c,.int .i64 i,.agg ⟨x_13⟩] w20) fun r_13 w21=>aBool r_13 fun x_14=>bnd (C Aa9 [.bool x_14,.int .i64 0] w21) fun r_14 w22=>aAgg r_14 fun x_15=>ck (List.length x_15=4) (pAgg ⟨b,0,none⟩ x_15 w22 fun w23=>gAgg ⟨b,0,none⟩ 4 w23 fun x_16=>some (.agg ⟨x_16⟩,w23)))
 (bnd (C J0 [.pointer c,.int .i64 i] w16) fun r_15 w24=>aBool r_15 fun x_17=>bnd (C Aa9 [.bool x_17,.int .i64 0] w24) fun r_16 w25=>aAgg r_16 fun x_18=>ck (List.length x_18=4) (pAgg ⟨b,0,none⟩ x_18 w25 fun w26=>gAgg ⟨b,0,none⟩ 4 w26 fun x_19=>some (.agg ⟨x_19⟩,w26)))))
 (bnd (C J0 [.pointer c,.int .i64 i] w10) fun r_17 w27=>aBool r_17 fun x_20=>bnd (C Aa9 [.bool x_20,.int .i64 0] w27) fun r_18 w28=>aAgg r_18 fun x_21=>ck (List.length x_21=4) (pAgg ⟨b,0,none⟩ x_21 w28 fun w29=>gAgg ⟨b,0,none⟩ 4 w29 fun x_22=>some (.agg ⟨x_22⟩,w29))))))))):=by kernel_rfl
def B98:Cuts:={ globs:=0,loops:=[(6,[0,4,7,23,24,25])],regs:=[],plans:=[(9,⟨[0,1,2,4,5,6,7,8,9,10,3,11,12],[0,0,2,7,0,16,48,0,128,384,1008,2047,4095],[(3,[5,9])],[]⟩)] }
def D26:List Item:=A7 Tryz.f39
def Bl7:List Item:=stk [0,1,0,1,0,1,0,0,1,4,5] D26
theorem Ha7 (C:A3) (R:A4) (c:Option Addr) (i:Int) (h:H) :
 A6 PR B98 C R Aa6 Tryz.f39 100000 true D26 [(0,.pointer c),(1,.int .i64 i)] h =
 nw (.cells B5 false [.int .i64 i]) h fun b w=>nw (.cells Z4 false [.int .i64 0,.int .i64 0,.slice none 0 0,.bool false]) w fun b_1 w1=>gInt .i64 ⟨b,0,none⟩ w1 fun x=>bnd (C Ar6 [.pointer c,.int .i64 x] w1) fun r w2=>as2 r fun r_1 r_2=>aAgg r_1 fun x_1=>aInt .i64 r_2 fun x_2=>nw (.cells D2 false [.int .i64 0,.int .i64 0,.int .i64 0,.int .i64 0,.int .i64 0,.int .i64 0,.int .i64 0,.int .i64 0,.int .i64 0,.int .i64 0,.int .i64 0,.int .i64 0,.int .i64 0,.int .i64 0,.int .i64 0,.int .i64 0]) w2 fun b_2 w3=>ck (List.length x_1=16) (pAgg ⟨b_2,0,none⟩ x_1 w3 fun w4=>cond (x_2 != 0)
 (bnd (C Ab1 [.int .i64 x_2] w4) fun r_3 w5=>aAgg r_3 fun x_3=>ck (List.length x_3=4) (pAgg ⟨b_1,0,none⟩ x_3 w5 fun w6=>gAgg ⟨b_1,0,none⟩ 4 w6 fun x_4=>some (.agg ⟨x_4⟩,w6)))
 (bnd (C Aa7 [.pointer c,.func (.func Bb9) ⟨[]⟩ ⟨[.pointer (some ⟨b,0,none⟩)]⟩] w4) fun r_4 w7=>aSl r_4 fun x_5 xn xc=>R Aa6 Bl7 [(0,.pointer c),(4,.pointer (some ⟨b_1,0,none⟩)),(7,.slice x_5 xn xc),(23,.slice x_5 xn xc),(24,.int .i64 ((xn:Nat):Int)),(25,.int .i64 0)] w7)):=by kernel_rfl
theorem D44 (C:A3) (R:A4) (c:Option Addr) (x4:Addr) (l:Option Addr) (ln lc:Nat) (x23:Option Addr) (x23n x23c:Nat) (x24:Int) (x25:Int) (h:H) :
 A6 PR B98 C R Aa6 Tryz.f39 100000 true Bl7 [(0,.pointer c),(4,.pointer (some x4)),(7,.slice l ln lc),(23,.slice x23 x23n x23c),(24,.int .i64 x24),(25,.int .i64 x25)] h =
 cond (decide (x25<x24))
 (aSome x23 fun p=>ck ((0:Int)≤x25∧x25<((x23n:Nat):Int)) (gAgg (Addr.add (B7 p) (Int.toNat x25*17)) 17 h fun x=>nw (.cells O0 false [.int .i64 0,.int .i64 0,.int .i64 0,.int .i64 0,.int .i64 0,.int .i64 0,.int .i64 0,.int .i64 0,.int .i64 0,.int .i64 0,.int .i64 0,.int .i64 0,.int .i64 0,.int .i64 0,.int .i64 0,.int .i64 0,.int .i64 0]) h fun b w=>ck (List.length x=17) (pAgg ⟨b,0,none⟩ x w fun w1=>gAgg ⟨b,0,none⟩ 17 w1 fun x_1=>bnd (C An7 [.agg ⟨x_1⟩] w1) fun r w2=>aBool r fun x_2=>cond (!x_2)
 (gInt .i64 (Addr.add ⟨b,0,none⟩ 0) w2 fun x_3=>gInt .i64 (Addr.add ⟨b,0,none⟩ 0) w2 fun x_4=>gInt .i64 (Addr.add (Addr.add ⟨b,0,none⟩ 1) 3) w2 fun x_5=>bnd (C J0 [.pointer c,.int .i64 x_3] w2) fun r_1 w3=>aBool r_1 fun x_6=>gInt .i64 (Addr.add ⟨b,0,none⟩ 0) w3 fun x_7=>same (.int .i64 x_4) (.int .i64 x_7) (gInt .i64 (Addr.add (Addr.add ⟨b,0,none⟩ 1) 3) w3 fun x_8=>same (.int .i64 x_5) (.int .i64 x_8) (bnd (C Aa9 [.bool x_6,.int .i64 (IntKind.wrap .i64 ((IntKind.wrap .i64 (256*x_4))+x_5))] w3) fun r_2 w4=>aAgg r_2 fun x_9=>ck (List.length x_9=4) (pAgg x4 x_9 w4 fun w5=>gAgg x4 4 w5 fun x_10=>some (.agg ⟨x_10⟩,w5)))))
 (R Aa6 Bl7 [(0,.pointer c),(4,.pointer (some x4)),(7,.slice l ln lc),(23,.slice x23 x23n x23c),(24,.int .i64 x24),(25,.int .i64 (IntKind.wrap .i64 (x25+1)))] w2))))
 (cond (((ln:Nat):Int)==0)
 (bnd (C Ab1 [.int .i64 110] h) fun r_3 w6=>aAgg r_3 fun x_11=>ck (List.length x_11=4) (pAgg x4 x_11 w6 fun w7=>gAgg x4 4 w7 fun x_12=>some (.agg ⟨x_12⟩,w7)))
 (pAgg x4 [.int .i64 0,.int .i64 0,.slice none 0 0,.bool true] h fun w8=>gAgg x4 4 w8 fun x_13=>some (.agg ⟨x_13⟩,w8))):=by kernel_rfl
def B60:Cuts:={ globs:=0,loops:=[],regs:=[],plans:=[(7,⟨[0,1,2,3,4,5,6,7,8,9,10,11,12,13,14,15,16],[0,1,3,7,0,0,32,0,128,0,512,2047,4095,8191,8191,16383,65535],[],[]⟩),(9,⟨[0,1,2,3,4,5,6,7,8,9,10,11,12,13],[0,1,3,7,0,0,32,0,128,0,512,1536,4095,8191],[],[]⟩),(11,⟨[0,1,2,3,4,5,6,7,8,9,10,11,12,13,14,15,16],[0,1,3,7,0,0,32,0,128,0,512,0,2048,0,8192,32767,65535],[],[]⟩),(13,⟨[0,1,2,3,4,5,6,7,8,9,10,11,12,13,14,15,16,17,18,19,20,21,22,23],[0,1,3,7,15,31,63,0,0,256,0,1024,0,4096,0,16384,0,65536,262143,524287,1048575,1048575,2097151,8388607],[],[]⟩),(15,⟨[0,1,2,3,4,5,6,7,8,9,10,11,12,13,14,15],[0,1,3,7,15,31,63,0,0,256,1023,2047,4095,4095,8191,32767],[],[]⟩),(17,⟨[0,1,2,3,4,5,6,7,8,9,10,11,12,13,14,15,16,17],[0,1,3,7,0,16,48,112,240,0,1008,2032,4095,8191,16383,16383,32767,131071],[],[]⟩),(19,⟨[0,1,2,3,4,5,6,7,8,9,10,11,12,13,14,15],[0,1,3,7,0,16,48,112,240,0,1008,2032,0,4096,16383,32767],[],[]⟩),(23,⟨[0,1,2,3,4,5,6,7,8,9,10,11,12,13,14,15,16,17],[0,1,3,7,0,16,63,127,0,0,512,1536,3584,8191,16383,32767,32767,65535],[],[]⟩),(27,⟨[0,1,2,3,4,5,6,7,8,9,10,11,12,13,14,15,16,17,18],[0,0,0,4,15,31,63,127,255,511,63,1087,4095,8191,63,63,32831,131071,262143],[],[]⟩)] }
def D72:List Item:=A7 Tryz.f54
theorem Gf6 (C:A3) (R:A4) (k:Option Addr) (e:Int) (c:List Value) (h:H) :
 A6 PR B60 C R As5 Tryz.f54 100000 true D72 [(0,.pointer k),(1,.int .i64 e),(2,.agg ⟨c⟩)] h =
 nw (.cells Az7 false c) h fun b w=>bnd (cond (decide (e<0)) (some (true,w)) (aSome k fun p=>gSl (Addr.add (Addr.add p 0) 1) w fun _ xn _=>some (decide (e≥((xn:Nat):Int)),w))) fun c_1 w1=>cond c_1
 (some (.tuple ⟨[.int .i64 1,.int .i64 0,.string (ByteArray.mk ⟨[]⟩)]⟩,w1))
 (gInt .i64 (Addr.add ⟨b,0,none⟩ 0) w1 fun x_1=>cond (x_1==1)
 (aSome k fun p_1=>gPtr (Addr.add p_1 6) w1 fun x_2=>gInt .i64 (Addr.add ⟨b,0,none⟩ 1) w1 fun x_3=>gInt .i64 (Addr.add ⟨b,0,none⟩ 2) w1 fun x_4=>gInt .i64 (Addr.add ⟨b,0,none⟩ 3) w1 fun x_5=>bnd (C Ei9 [.pointer x_2,.int .i64 e,.int .i64 x_3,.int .i64 x_4,.int .i64 x_5] w1) fun r w2=>as2 r fun r_1 r_2=>aStr r_1 fun x_6=>aInt .i64 r_2 fun x_7=>some (.tuple ⟨[.int .i64 x_7,.int .i64 0,.string x_6]⟩,w2))
 (cond (x_1==2)
 (aSome k fun p_2=>gPtr (Addr.add p_2 6) w1 fun x_8=>gInt .i64 (Addr.add ⟨b,0,none⟩ 1) w1 fun x_9=>gInt .i64 (Addr.add ⟨b,0,none⟩ 2) w1 fun x_10=>gSl (Addr.add ⟨b,0,none⟩ 6) w1 fun x_11 xn_1 _=>gCells x_11 xn_1 w1 fun cs=>asBytes cs fun l=>bnd (C An9 [.pointer x_8,.int .i64 e,.int .i64 x_9,.int .i64 x_10,.string (ByteArray.mk ⟨l⟩)] w1) fun r_3 w3=>aInt .i64 r_3 fun x_12=>some (.tuple ⟨[.int .i64 x_12,.int .i64 0,.string (ByteArray.mk ⟨[]⟩)]⟩,w3))
 (cond (x_1==3)
 (aSome k fun p_3=>gPtr (Addr.add p_3 6) w1 fun x_13=>gInt .i64 (Addr.add ⟨b,0,none⟩ 1) w1 fun x_14=>gInt .i64 (Addr.add ⟨b,0,none⟩ 2) w1 fun x_15=>gInt .i64 (Addr.add ⟨b,0,none⟩ 4) w1 fun x_16=>gInt .i64 (Addr.add ⟨b,0,none⟩ 5) w1 fun x_17=>gInt .i64 (Addr.add ⟨b,0,none⟩ 3) w1 fun x_18=>bnd (C Ej1 [.pointer x_13,.int .i64 e,.int .i64 x_14,.int .i64 x_15,.int .i64 x_16,.int .i64 x_17,.int .i64 x_18] w1) fun r_4 w4=>aInt .i64 r_4 fun x_19=>some (.tuple ⟨[.int .i64 x_19,.int .i64 0,.string (ByteArray.mk ⟨[]⟩)]⟩,w4))
 (cond (x_1==4)
 (aSome k fun p_4=>gPtr (Addr.add p_4 6) w1 fun x_20=>aSome x_20 fun p_5=>gPtr (Addr.add p_5 3) w1 fun x_21=>gInt .i64 (Addr.add ⟨b,0,none⟩ 1) w1 fun x_22=>gInt .i64 (Addr.add ⟨b,0,none⟩ 4) w1 fun x_23=>gInt .i64 (Addr.add ⟨b,0,none⟩ 5) w1 fun x_24=>gInt .i64 (Addr.add ⟨b,0,none⟩ 2) w1 fun x_25=>gInt .i64 (Addr.add ⟨b,0,none⟩ 3) w1 fun x_26=>bnd (C El4 [.pointer x_21,.int .i64 e,.int .i64 x_22,.int .i64 x_23,.int .i64 x_24,.int .i64 x_25,.int .i64 x_26] w1) fun r_5 w5=>as2 r_5 fun r_6 r_7=>aInt .i64 r_6 fun x_27=>aInt .i64 r_7 fun x_28=>some (.tuple ⟨[.int .i64 x_28,.int .i64 x_27,.string (ByteArray.mk ⟨[]⟩)]⟩,w5))
 (cond (x_1==5)
 (aSome k fun p_6=>gPtr (Addr.add p_6 6) w1 fun x_29=>aSome x_29 fun p_7=>gPtr (Addr.add p_7 3) w1 fun x_30=>gInt .i64 (Addr.add ⟨b,0,none⟩ 1) w1 fun x_31=>bnd (C Ej2 [.pointer x_30,.int .i64 e,.int .i64 x_31] w1) fun r_8 w6=>as2 r_8 fun r_9 r_10=>aInt .i64 r_9 fun x_32=>aInt .i64 r_10 fun x_33=>some (.tuple ⟨[.int .i64 x_33,.int .i64 x_32,.string (ByteArray.mk ⟨[]⟩)]⟩,w6))
 (cond (x_1==6)
 (aSome k fun p_8=>gPtr (Addr.add p_8 5) w1 fun x_34=>aSome k fun p_9=>gSl (Addr.add (Addr.add p_9 0) 1) w1 fun x_35 xn_2 _=>aSome x_35 fun p_10=>ck ((0:Int)≤e∧e<((xn_2:Nat):Int)) (gInt .i64 (Addr.add (B7 p_10) (Int.toNat e*1)) w1 fun x_36=>bnd (C Es4 [.pointer x_34,.int .i64 x_36] w1) fun r_11 w7=>as2 r_11 fun r_12 r_13=>aInt .i64 r_12 fun x_37=>aInt .i64 r_13 fun x_38=>some (.tuple ⟨[.int .i64 x_38,.int .i64 x_37,.string (ByteArray.mk ⟨[]⟩)]⟩,w7)))
 (cond (x_1==7)
 (aSome k fun p_11=>gPtr (Addr.add p_11 5) w1 fun x_39=>aSome k fun p_12=>gSl (Addr.add (Addr.add p_12 0) 1) w1 fun x_40 xn_3 _=>aSome x_40 fun p_13=>ck ((0:Int)≤e∧e<((xn_3:Nat):Int)) (gInt .i64 (Addr.add (B7 p_13) (Int.toNat e*1)) w1 fun x_41=>gInt .i64 (Addr.add ⟨b,0,none⟩ 3) w1 fun x_42=>bnd (C Ex1 [.pointer x_39,.int .i64 x_41,.int .i64 x_42] w1) fun r_14 w8=>aInt .i64 r_14 fun x_43=>some (.tuple ⟨[.int .i64 x_43,.int .i64 0,.string (ByteArray.mk ⟨[]⟩)]⟩,w8)))
 (cond (x_1==8)
 (gInt .i64 (Addr.add ⟨b,0,none⟩ 3) w1 fun x_44=>bnd (C Dw2 [.pointer k,.int .i64 e,.int .i64 x_44] w1) fun r_15 w9=>aBool r_15 fun x_45=>cond x_45
 (aSome k fun p_14=>gSl (Addr.add p_14 7) w9 fun x_46 xn_4 _=>gInt .i64 (Addr.add ⟨b,0,none⟩ 3) w9 fun x_47=>aSome x_46 fun p_15=>ck ((0:Int)≤x_47∧x_47<((xn_4:Nat):Int)) (gPtr (Addr.add (B7 p_15) (Int.toNat x_47*1)) w9 fun x_48=>aSome k fun p_16=>gInt .i64 (Addr.add p_16 8) w9 fun x_49=>bnd (C Ey3 [.pointer x_48,.int .i64 e,.int .i64 x_49] w9) fun r_16 w10=>as2 r_16 fun r_17 r_18=>aInt .i64 r_17 fun x_50=>aBool r_18 fun _=>some (.tuple ⟨[.int .i64 0,.int .i64 x_50,.string (ByteArray.mk ⟨[]⟩)]⟩,w10)))
 (some (.tuple ⟨[.int .i64 8,.int .i64 0,.string (ByteArray.mk ⟨[]⟩)]⟩,w9)))
 (cond (x_1==9)
 (gInt .i64 (Addr.add ⟨b,0,none⟩ 3) w1 fun x_52=>bnd (C Dw2 [.pointer k,.int .i64 e,.int .i64 x_52] w1) fun r_19 w11=>aBool r_19 fun x_53=>bnd (cond x_53 (aSome k fun p_17=>gSl (Addr.add p_17 7) w11 fun x_54 xn_5 _=>gInt .i64 (Addr.add ⟨b,0,none⟩ 3) w11 fun x_55=>aSome x_54 fun p_18=>ck ((0:Int)≤x_55∧x_55<((xn_5:Nat):Int)) (gPtr (Addr.add (B7 p_18) (Int.toNat x_55*1)) w11 fun x_56=>gInt .i64 (Addr.add ⟨b,0,none⟩ 2) w11 fun x_57=>bnd (C Ey9 [.pointer x_56,.int .i64 e,.int .i64 x_57] w11) fun r_20 w12=>aBool r_20 fun x_58=>some (x_58,w12))) (some (false,w11))) fun c_2 w13=>cond c_2
 (some (.tuple ⟨[.int .i64 0,.int .i64 0,.string (ByteArray.mk ⟨[]⟩)]⟩,w13))
 (some (.tuple ⟨[.int .i64 8,.int .i64 0,.string (ByteArray.mk ⟨[]⟩)]⟩,w13)))
 (cond (x_1==10)
 (aSome k fun p_19=>gInt .i64 (Addr.add p_19 8) w1 fun x_59=>some (.tuple ⟨[.int .i64 0,.int .i64 x_59,.string (ByteArray.mk ⟨[]⟩)]⟩,w1))
 (some (.tuple ⟨[.int .i64 7,.int .i64 0,.string (ByteArray.mk ⟨[]⟩)]⟩,w1)))))))))))):=by kernel_rfl
def Di3:Cuts:={ globs:=0,loops:=[(3,[0,3,4])],regs:=[],plans:=[] }
def Ec8:List Item:=A7 Tryz.f65
def Br5:List Item:=stk [0,1,0,1,0,0,1,4,5] Ec8
theorem Hm9 (C:A3) (R:A4) (b:ByteArray) (h:H) :
 A6 PR Di3 C R Ae1 Tryz.f65 100000 true Ec8 [(0,.string b)] h =
 R Ae1 Br5 [(0,.string b),(3,.int .i64 ((ByteArray.size b:Nat):Int)),(4,.int .i64 0)] h:=by kernel_rfl
theorem Eh5 (C:A3) (R:A4) (b:ByteArray) (n:Int) (i:Int) (h:H) :
 A6 PR Di3 C R Ae1 Tryz.f65 100000 true Br5 [(0,.string b),(3,.int .i64 n),(4,.int .i64 i)] h =
 cond (decide (i<((ByteArray.size b:Nat):Int)))
 (ck ((0:Int)≤i∧i<((ByteArray.size b:Nat):Int)) (R Ae1 Br5 [(0,.string b),(3,.int .i64 (IntKind.wrap .i64 (n+(IntKind.wrap .i64 (((List.getD (ByteArray.data b).toList (Int.toNat i) 0).toNat:Int)))))),(4,.int .i64 (IntKind.wrap .i64 (i+1)))] h))
 (some (.int .u8 (IntKind.wrap .u8 (n)),h)):=by kernel_rfl
def B88:Cuts:={ globs:=0,loops:=[],regs:=[],plans:=[(1,⟨[1,0,2,3,4,5,6],[0,0,3,7,7,31,63],[(0,[1])],[]⟩)] }
def D70:List Item:=A7 Tryz.f74
theorem Gj3 (C:A3) (R:A4) (f:List Value) (h:H) :
 A6 PR B88 C R A51 Tryz.f74 100000 true D70 [(0,.agg ⟨f⟩)] h =
 nw (.cells H8 false f) h fun b w=>gAgg ⟨b,0,none⟩ 4 w fun x=>bnd (C Bb2 [] w) fun r w1=>aPtr r fun x_1=>gAgg ⟨b,0,none⟩ 4 w1 fun x_2=>same (.agg ⟨x⟩) (.agg ⟨x_2⟩) (bnd (C V7 [.pointer x_1,.agg ⟨x⟩] w1) fun r_1 w2=>as2 r_1 fun r_2 r_3=>aSl r_2 fun x_3 xn xc=>aBool r_3 fun x_4=>some (.tuple ⟨[.slice x_3 xn xc,.bool x_4]⟩,w2)):=by kernel_rfl
def A98:Cuts:={ globs:=0,loops:=[],regs:=[],plans:=[] }
def Bz2:List Item:=A7 Tryz.f76
theorem Ec3 (C:A3) (R:A4) (g:Int) (h:H) :
 A6 PR A98 C R Ap5 Tryz.f76 100000 true Bz2 [(0,.int .i64 g)] h =
 bnd (cond (decide (g<0)) (some (true,h)) (some (decide (g≥8),h))) fun c w=>cond c
 (some (.tuple ⟨[.slice none 0 0,.bool false]⟩,w))
 (nw (.cells A5 false [.int .u8 (IntKind.wrap .u8 (g)),.int .u8 211]) w fun b w1=>bnd (C Aa0 [.slice (some ⟨b,0,none⟩) 2 2] w1) fun r w2=>aInt .u8 r fun x=>nw (.cells A5 false [.int .u8 x,.int .u8 0]) w2 fun b_1 w3=>gCells (some ⟨b_1,0,none⟩) (2*1) w3 fun cs=>ckB (fitsOpen (some ⟨b,0,none⟩) A5 w3) (apd A5 1 (some ⟨b,0,none⟩) 2 2 2 cs w3 fun a an ac w4=>some (.tuple ⟨[.slice a an ac,.bool true]⟩,w4))):=by kernel_rfl
def Dz9:Cuts:={ globs:=0,loops:=[],regs:=[],plans:=[] }
def E23:List Item:=A7 Tryz.f83
theorem Hd8 (C:A3) (R:A4) (ok:Bool) (n:Int) (h:H) :
 A6 PR Dz9 C R Aa9 Tryz.f83 100000 true E23 [(0,.bool ok),(1,.int .i64 n)] h =
 nw (.cells Z4 false [.int .i64 0,.int .i64 0,.slice none 0 0,.bool false]) h fun b w=>cond (!ok)
 (bnd (C Ab1 [.int .i64 105] w) fun r w1=>aAgg r fun x=>ck (List.length x=4) (pAgg ⟨b,0,none⟩ x w1 fun w2=>gAgg ⟨b,0,none⟩ 4 w2 fun x_1=>some (.agg ⟨x_1⟩,w2)))
 (pAgg ⟨b,0,none⟩ [.int .i64 n,.int .i64 0,.slice none 0 0,.bool false] w fun w3=>gAgg ⟨b,0,none⟩ 4 w3 fun x_2=>some (.agg ⟨x_2⟩,w3)):=by kernel_rfl
def Df3:Cuts:={ globs:=0,loops:=[],regs:=[],plans:=[] }
def Eh2:List Item:=A7 Tryz.f89
theorem Gt9 (C:A3) (R:A4) (x:List Value) (fv0:Addr) (h:H) :
 A6 PR Df3 C R Bb9 Tryz.f89 100000 true Eh2 [(0,.agg ⟨x⟩),(1,.pointer (some fv0))] h =
 nw (.cells O0 false x) h fun b w=>gInt .i64 (Addr.add (Addr.add ⟨b,0,none⟩ 1) 1) w fun x_1=>gInt .i64 fv0 w fun x_2=>some (.bool (x_1==(IntKind.wrap .i64 (x_2+1))),w):=by kernel_rfl
def S6:Cuts:={ globs:=0,loops:=[(1,[0,5]),(6,[0,12]),(11,[0,20,21])],regs:=[],plans:=[] }
def Aa1:List Item:=A7 Tryz.f91
def Ad0:List Item:=stk [0,0,1,4,5] Aa1
def Ad4:List Item:=stk [0,1,0,0,1,4,5] Aa1
def Ad7:List Item:=stk [0,1,0,1,0,0,1,4,5] Aa1
theorem D27 (C:A3) (R:A4) (c:Option Addr) (h:H) :
 A6 PR S6 C R D1 Tryz.f91 100000 true Aa1 [(0,.pointer c)] h =
 R D1 Ad0 [(0,.pointer c),(5,.int .i64 0)] h:=by kernel_rfl
theorem Be3 (C:A3) (R:A4) (c:Option Addr) (x5:Int) (h:H) :
 A6 PR S6 C R D1 Tryz.f91 100000 true Ad0 [(0,.pointer c),(5,.int .i64 x5)] h =
 cond (decide (x5<8))
 (bnd (C E2 [.pointer c,.int .i64 x5] h) fun r w=>as2 r fun r_1 r_2=>aAgg r_1 fun _=>aInt .i64 r_2 fun _=>R D1 Ad0 [(0,.pointer c),(5,.int .i64 (IntKind.wrap .i64 (x5+1)))] w)
 (R D1 Ad4 [(0,.pointer c),(12,.int .i64 0)] h):=by kernel_rfl
theorem Bf0 (C:A3) (R:A4) (c:Option Addr) (x12:Int) (h:H) :
 A6 PR S6 C R D1 Tryz.f91 100000 true Ad4 [(0,.pointer c),(12,.int .i64 x12)] h =
 cond (decide (x12<12))
 (bnd (C L5 [.pointer c,.int .i64 x12] h) fun r w=>as2 r fun r_1 r_2=>aAgg r_1 fun _=>aInt .i64 r_2 fun _=>R D1 Ad4 [(0,.pointer c),(12,.int .i64 (IntKind.wrap .i64 (x12+1)))] w)
 (bnd (C Aa3 [.pointer c,.int .i64 3] h) fun r_3 w1=>aInt .i64 r_3 fun x_2=>R D1 Ad7 [(0,.pointer c),(20,.int .i64 x_2),(21,.int .i64 0)] w1):=by kernel_rfl
theorem Bf2 (C:A3) (R:A4) (c:Option Addr) (x20:Int) (x21:Int) (h:H) :
 A6 PR S6 C R D1 Tryz.f91 100000 true Ad7 [(0,.pointer c),(20,.int .i64 x20),(21,.int .i64 x21)] h =
 cond (decide (x21<x20))
 (bnd (C Aa2 [.pointer c,.int .i64 x21] h) fun r w=>as2 r fun r_1 r_2=>aAgg r_1 fun _=>aInt .i64 r_2 fun _=>R D1 Ad7 [(0,.pointer c),(20,.int .i64 x20),(21,.int .i64 (IntKind.wrap .i64 (x21+1)))] w)
 (bnd (C Aj6 [.pointer c] h) fun r_3 w1=>as2 r_3 fun r_4 r_5=>aAgg r_4 fun _=>aInt .i64 r_5 fun _=>bnd (C Ah4 [.pointer c] w1) fun r_6 w2=>as2 r_6 fun r_7 r_8=>aInt .i64 r_7 fun _=>aBool r_8 fun _=>some (.tuple ⟨[]⟩,w2)):=by kernel_rfl
def Df7:Cuts:={ globs:=0,loops:=[],regs:=[],plans:=[] }
def Eg6:List Item:=A7 Tryz.f111
theorem Gt0 (C:A3) (R:A4) (n:Int) (h:H) :
 A6 PR Df7 C R Ba3 Tryz.f111 100000 true Eg6 [(0,.int .i64 n)] h =
 some (.int .i64 (mm2 false (mm2 true n 0) 64),h):=by kernel_rfl
def At2:Cuts:={ globs:=0,loops:=[],regs:=[],plans:=[] }
def Bi9:List Item:=A7 Tryz.f112
theorem Dq5 (C:A3) (R:A4) (s:Option Addr) (sn sc:Nat) (h:H) :
 A6 PR At2 C R W1 Tryz.f112 100000 true Bi9 [(0,.slice s sn sc)] h =
 cond s.isNone
 (some (.slice none 0 0,h))
 (nw (.cells B5 false []) h fun b w=>gCells s (sn*1) w fun cs=>ckB (fitsOpen (some ⟨b,0,none⟩) B5 w) (apd B5 1 (some ⟨b,0,none⟩) 0 0 sn cs w fun a an ac w1=>some (.slice a an ac,w1))):=by kernel_rfl
def Dk4:Cuts:={ globs:=0,loops:=[(3,[3,8,9])],regs:=[],plans:=[(4,⟨[0,1,2,3,4,5,6,7,8,9,10],[0,0,2,6,14,0,32,126,255,511,1023],[(5,[4])],[]⟩)] }
def D84:List Item:=A7 Tryz.f114
def Br4:List Item:=stk [0,1,0,1,0,0,1,4,5] D84
theorem Hr1 (C:A3) (R:A4) (envs:Int) (h:H) :
 A6 PR Dk4 C R Ay9 Tryz.f114 100000 true D84 [(0,.int .i64 envs)] h =
 nw (.cells At1 false [.slice none 0 0]) h fun b w=>R Ay9 Br4 [(3,.pointer (some ⟨b,0,none⟩)),(8,.int .i64 (mm2 false (mm2 true envs 0) 40)),(9,.int .i64 0)] w:=by kernel_rfl
theorem Ei0 (C:A3) (R:A4) (s:Addr) (x8:Int) (x9:Int) (h:H) :
 A6 PR Dk4 C R Ay9 Tryz.f114 100000 true Br4 [(3,.pointer (some s)),(8,.int .i64 x8),(9,.int .i64 x9)] h =
 cond (decide (x9<x8))
 (gSl (Addr.add s 0) h fun x xn xc=>bnd (C P2 [.int .i64 32] h) fun r w=>aPtr r fun x_1=>gSl (Addr.add s 0) w fun x_2 xn_1 xc_1=>same (.slice x xn xc) (.slice x_2 xn_1 xc_1) (nw (.cells G5 false [.pointer x_1]) w fun b w1=>gCells (some ⟨b,0,none⟩) (1*1) w1 fun cs=>ckB (fitsOpen x G5 w1) (apd G5 1 x xn xc 1 cs w1 fun a an ac w2=>pV (Addr.add s 0) (.slice a an ac) w2 fun w3=>R Ay9 Br4 [(3,.pointer (some s)),(8,.int .i64 x8),(9,.int .i64 (IntKind.wrap .i64 (x9+1)))] w3)))
 (some (.pointer (some s),h)):=by kernel_rfl
def Bv6:Cuts:={ globs:=0,loops:=[],regs:=[],plans:=[] }
def Dq7:List Item:=A7 Tryz.f121
theorem E33 (C:A3) (R:A4) (s:Option Addr) (env:Int) (c:List Value) (h:H) :
 A6 PR Bv6 C R A70 Tryz.f121 100000 true Dq7 [(0,.pointer s),(1,.int .i64 env),(2,.agg ⟨c⟩)] h =
 nw (.cells O9 false c) h fun b w=>bnd (C Ae6 [.pointer s,.int .i64 env] w) fun r w1=>aBool r fun x=>bnd (cond (!x) (some (true,w1)) (gInt .i64 (Addr.add ⟨b,0,none⟩ 1) w1 fun x_1=>some ((En1 .i64 x_1 7) != 0,w1))) fun c_1 w2=>bnd (cond c_1 (some (true,w2)) (gInt .i64 (Addr.add ⟨b,0,none⟩ 2) w2 fun x_2=>bnd (C Ak9 [.int .i64 x_2] w2) fun r_1 w3=>aBool r_1 fun x_3=>some (!x_3,w3))) fun c_2 w4=>bnd (cond c_2 (some (true,w4)) (gInt .i64 (Addr.add ⟨b,0,none⟩ 3) w4 fun x_4=>bnd (C Ak9 [.int .i64 x_4] w4) fun r_2 w5=>aBool r_2 fun x_5=>some (!x_5,w5))) fun c_3 w6=>cond c_3
 (some (.tuple ⟨[.int .i64 0,.int .i64 1]⟩,w6))
 (pAgg (Addr.add ⟨b,0,none⟩ 4) [.int .i64 0,.int .i64 0] w6 fun w7=>gAgg ⟨b,0,none⟩ 6 w7 fun x_6=>bnd (C As9 [.pointer s,.int .i64 env,.agg ⟨x_6⟩] w7) fun r_3 w8=>as2 r_3 fun r_4 r_5=>aInt .i64 r_4 fun x_7=>aInt .i64 r_5 fun x_8=>some (.tuple ⟨[.int .i64 x_7,.int .i64 x_8]⟩,w8)):=by kernel_rfl
def A91:Cuts:={ globs:=0,loops:=[],regs:=[],plans:=[] }
def B38:List Item:=A7 Tryz.f131
theorem Ec7 (C:A3) (R:A4) (r:Option Addr) (e:Int) (name:Int) (atv:Int) (b:ByteArray) (h:H) :
 A6 PR A91 C R An9 Tryz.f131 100000 true B38 [(0,.pointer r),(1,.int .i64 e),(2,.int .i64 name),(3,.int .i64 atv),(4,.string b)] h =
 bnd (C Ao6 [.pointer r,.int .i64 e,.int .i64 name,.int .i64 2,.int .i64 atv,.int .i64 ((ByteArray.size b:Nat):Int)] h) fun r_1 w=>as2 r_1 fun r_2 r_3=>aInt .i64 r_2 fun x=>aInt .i64 r_3 fun x_1=>cond (x_1 != 0)
 (some (.int .i64 x_1,w))
 (aSome r fun p=>gSl (Addr.add p 0) w fun x_2 xn xc=>ckB (fitsOpen x_2 A5 w) (ck ((0:Int)≤x∧x≤((xn:Nat):Int)) (pCells (H2 x_2 (decide (Int.toNat x<xc)) ((Int.toNat x)*1)) (A0 (List.take (min (ByteArray.size b) (xn-(Int.toNat x))) (ByteArray.data b).toList)) w fun w1=>some (.int .i64 0,w1)))):=by kernel_rfl
def By1:Cuts:={ globs:=0,loops:=[],regs:=[],plans:=[] }
def Dx1:List Item:=A7 Tryz.f141
theorem Ge2 (C:A3) (R:A4) (s:Option Addr) (env:Int) (h:H) :
 A6 PR By1 C R Ae6 Tryz.f141 100000 true Dx1 [(0,.pointer s),(1,.int .i64 env)] h =
 bnd (cond (decide (env≥0)) (aSome s fun p=>gSl (Addr.add p 0) h fun _ xn _=>some (decide (env<((xn:Nat):Int)),h)) (some (false,h))) fun c w=>some (.bool c,w):=by kernel_rfl
def A03:Cuts:={ globs:=0,loops:=[],regs:=[],plans:=[(2,⟨[0,1,2,3,4,5,6,7,8,9,10],[0,1,3,7,15,31,63,7,255,511,1023],[],[]⟩),(4,⟨[0,1,2,3,4,5,6,7,8,9,10,11,12,13,14,16,15,17],[0,1,3,7,0,16,48,112,0,256,0,1024,0,4096,16128,32767,0,131071],[],[]⟩),(6,⟨[0,1,2,3,4,5,6,7,8,9],[0,1,3,7,0,31,63,31,159,511],[(7,[5])],[]⟩)] }
def Bp6:List Item:=A7 Tryz.f146
theorem D08 (C:A3) (R:A4) (c:Option Addr) (r:List Value) (h:H) :
 A6 PR A03 C R O5 Tryz.f146 100000 true Bp6 [(0,.pointer c),(1,.agg ⟨r⟩)] h =
 nw (.cells D7 false r) h fun b w=>gAgg ⟨b,0,none⟩ 2 w fun x=>bnd (C Q3 [.pointer c,.agg ⟨x⟩] w) fun r_1 w1=>as2 r_1 fun r_2 r_3=>aAgg r_2 fun x_1=>aBool r_3 fun x_2=>nw (.cells Bf6 false [.int .i64 0,.int .i64 0,.int .i64 0]) w1 fun b_1 w2=>ck (List.length x_1=3) (pAgg ⟨b_1,0,none⟩ x_1 w2 fun w3=>bnd (cond (!x_2) (some (true,w3)) (aSome c fun p=>gMap (Addr.add p 3) w3 fun x_3=>gAgg ⟨b,0,none⟩ 2 w3 fun x_4=>keyN PR D7 (.agg ⟨x_4⟩) (opt x_3 fun r_4=>mapAt w3 r_4 fun es _=>opt (Al4 (.int .i64 0) (.agg ⟨x_4⟩) es) fun f=>aInt .i64 f.1 fun x_5=>some (decide (x_5>0),w3)))) fun c_1 w4=>cond c_1
 (some (.tuple ⟨[.slice none 0 0,.bool false]⟩,w4))
 (aSome c fun p_1=>gPtr (Addr.add p_1 0) w4 fun x_6=>aSome c fun p_2=>gInt .i64 (Addr.add p_2 1) w4 fun x_7=>gInt .i64 (Addr.add ⟨b_1,0,none⟩ 0) w4 fun x_8=>gInt .i64 (Addr.add ⟨b_1,0,none⟩ 1) w4 fun x_9=>gInt .i64 (Addr.add ⟨b_1,0,none⟩ 2) w4 fun x_10=>nw (.cells Eo3 false [.int .i64 0,.int .i64 0,.slice none 0 0]) w4 fun b_2 w5=>bnd (C S7 [.pointer x_6,.int .i64 x_7,.agg ⟨[.int .i64 1,.int .i64 x_8,.int .i64 x_9,.int .i64 x_10,.int .i64 0,.int .i64 0,.slice none 0 0]⟩] w5) fun r_5 w6=>aAgg r_5 fun x_11=>ck (List.length x_11=3) (pAgg ⟨b_2,0,none⟩ x_11 w6 fun w7=>gInt .i64 (Addr.add ⟨b_2,0,none⟩ 0) w7 fun x_12=>cond (x_12 != 0)
 (aSome c fun p_3=>gMap (Addr.add p_3 3) w7 fun x_13=>gAgg ⟨b,0,none⟩ 2 w7 fun x_14=>keyN PR D7 (.agg ⟨x_14⟩) (opt x_13 fun r_6=>mapAt w7 r_6 fun es_1 _=>opt (Al4 (.int .i64 0) (.agg ⟨x_14⟩) es_1) fun f_1=>aInt .i64 f_1.1 fun x_15=>keyN PR D7 (.agg ⟨x_14⟩) (opt x_13 fun r_7=>mapAt w7 r_7 fun es_2 cl_2=>opt (D18 (.int .i64 0) (.agg ⟨x_14⟩) es_2 cl_2) fun f_2=>aInt .i64 f_2.1 fun _=>lt (H.set w7 r_7 f_2.2.2) fun w8=>keyN PR D7 (.agg ⟨x_14⟩) (opt x_13 fun r_8=>mapAt w8 r_8 fun es_3 _=>opt (Al4 (.int .i64 0) (.agg ⟨x_14⟩) es_3) fun f_3=>aInt .i64 f_3.1 fun x_17=>same (.int .i64 x_15) (.int .i64 x_17) (opt x_13 fun r_9=>mapAt w8 r_9 fun es_4 cl_4=>opt (Bj8 (f_2.2.1:Int) es_4 0) fun i=>lt (H.set w8 r_9 (.map (modN (fun e=>{ e with val:=.int .i64 (IntKind.wrap .i64 (x_15+1)) }) i es_4) cl_4)) fun w9=>some (.tuple ⟨[.slice none 0 0,.bool false]⟩,w9))))))
 (gSl (Addr.add ⟨b_2,0,none⟩ 2) w7 fun x_18 xn xc=>some (.tuple ⟨[.slice x_18 xn xc,.bool true]⟩,w7))))):=by kernel_rfl
def Bi4:Cuts:={ globs:=0,loops:=[],regs:=[],plans:=[] }
def Db0:List Item:=A7 Tryz.f155
theorem Ep3 (C:A3) (R:A4) (q:Option Addr) (s:Int) (k:Int) (h:H) :
 A6 PR Bi4 C R Az2 Tryz.f155 100000 true Db0 [(0,.pointer q),(1,.int .i64 s),(2,.int .i64 k)] h =
 bnd (C Aj0 [.pointer q,.int .i64 s] h) fun r w=>aBool r fun x=>cond (!x)
 (some (.int .i64 1,w))
 (bnd (C Az8 [.pointer q,.int .i64 s,.int .i64 k] w) fun r_1 w1=>aBool r_1 fun x_1=>cond (!x_1)
 (some (.int .i64 5,w1))
 (aSome q fun p=>gSl (Addr.add p 0) w1 fun x_2 xn _=>aSome x_2 fun p_1=>ck ((0:Int)≤s∧s<((xn:Nat):Int)) (gSl (Addr.add (B7 p_1) (Int.toNat s*1)) w1 fun x_3 xn_1 _=>aSome x_3 fun p_2=>ck ((0:Int)≤k∧k<((xn_1:Nat):Int)) (pV (Addr.add (B7 p_2) (Int.toNat k*1)) (.int .i64 0) w1 fun w2=>some (.int .i64 0,w2))))):=by kernel_rfl
def Ag8:Cuts:={ globs:=0,loops:=[],regs:=[],plans:=[(2,⟨[0,1,2,3,4,5,6,7,8,9,10,11,12,13,14],[0,1,3,7,15,31,63,127,255,511,63,63,4095,8191,16383],[],[]⟩)] }
def A21:List Item:=A7 Tryz.f162
theorem B53 (C:A3) (R:A4) (c:Option Addr) (v:List Value) (h:H) :
 A6 PR Ag8 C R V7 Tryz.f162 100000 true A21 [(0,.pointer c),(1,.agg ⟨v⟩)] h =
 nw (.cells H8 false v) h fun b w=>aSome c fun p=>gInt .i64 (Addr.add p 0) w fun x=>ck ((0:Int)≤x∧(x:Int)≤x∧x≤(B4:Int)) (nw (.cells A5 false (H3 (Int.toNat x) [.int .u8 0])) w fun b_1 w1=>aSome c fun p_1=>gFv (Addr.add p_1 1) w1 fun x_1=>isNilF x_1 fun b_2=>bnd (cond b_2 (some (true,w1)) (aSome c fun p_2=>gFv (Addr.add p_2 1) w1 fun x_2=>gAgg ⟨b,0,none⟩ 4 w1 fun x_3=>aFn x_2 fun g fi cp=>bnd (C g (fi++([.agg ⟨x_3⟩,.slice (some ⟨b_1,0,none⟩) (Int.toNat x) (Int.toNat x)]++cp)) w1) fun r w2=>aBool r fun x_4=>some (!x_4,w2))) fun c_1 w3=>cond c_1
 (some (.tuple ⟨[.slice none 0 0,.bool false]⟩,w3))
 (some (.tuple ⟨[.slice (some ⟨b_1,0,none⟩) (Int.toNat x) (Int.toNat x),.bool true]⟩,w3))):=by kernel_rfl
def B85:Cuts:={ globs:=0,loops:=[],regs:=[],plans:=[] }
def D54:List Item:=A7 Tryz.f178
theorem Gj1 (C:A3) (R:A4) (m:Option Addr) (h:H) :
 A6 PR B85 C R A39 Tryz.f178 100000 true D54 [(0,.pointer m)] h =
 aSome m fun p=>gSl (Addr.add p 0) h fun _ xn _=>some (.int .i64 ((xn:Nat):Int),h):=by kernel_rfl
def Bh7:Cuts:={ globs:=0,loops:=[],regs:=[],plans:=[] }
def Dc5:List Item:=A7 Tryz.f180
theorem Eq9 (C:A3) (R:A4) (n:Int) (h:H) :
 A6 PR Bh7 C R Ak9 Tryz.f180 100000 true Dc5 [(0,.int .i64 n)] h =
 bnd (cond (decide (n≥0)) (some (decide (n≤65536),h)) (some (false,h))) fun c w=>some (.bool c,w):=by kernel_rfl
def Bt3:Cuts:={ globs:=0,loops:=[],regs:=[],plans:=[] }
def Dp4:List Item:=A7 Tryz.f187
theorem E39 (C:A3) (R:A4) (s:Option Addr) (e:Int) (name:Int) (h:H) :
 A6 PR Bt3 C R A71 Tryz.f187 100000 true Dp4 [(0,.pointer s),(1,.int .i64 e),(2,.int .i64 name)] h =
 nw (.cells O9 false [.int .i64 0,.int .i64 0,.int .i64 0,.int .i64 0,.int .i64 0,.int .i64 0]) h fun b w=>bnd (C Ai9 [.pointer s,.int .i64 e] w) fun r w1=>aBool r fun x=>bnd (cond (!x) (some (true,w1)) (aSome s fun p=>gSl (Addr.add p 0) w1 fun x_1 xn _=>aSome x_1 fun p_1=>ck ((0:Int)≤e∧e<((xn:Nat):Int)) (gPtr (Addr.add (B7 p_1) (Int.toNat e*1)) w1 fun x_2=>bnd (C A73 [.pointer x_2,.int .i64 name] w1) fun r_1 w2=>aBool r_1 fun x_3=>some (!x_3,w2)))) fun c w3=>cond c
 (pAgg ⟨b,0,none⟩ [.int .i64 0,.int .i64 0,.int .i64 0,.int .i64 0,.int .i64 0,.int .i64 0] w3 fun w4=>gAgg ⟨b,0,none⟩ 6 w4 fun x_4=>some (.tuple ⟨[.agg ⟨x_4⟩,.int .i64 2]⟩,w4))
 (aSome s fun p_2=>gSl (Addr.add p_2 1) w3 fun x_5 xn_1 _=>aSome x_5 fun p_3=>ck ((0:Int)≤e∧e<((xn_1:Nat):Int)) (gSl (Addr.add (B7 p_3) (Int.toNat e*1)) w3 fun x_6 xn_2 _=>aSome x_6 fun p_4=>ck ((0:Int)≤P5 .i64 name 255∧P5 .i64 name 255<((xn_2:Nat):Int)) (gAgg (Addr.add (B7 p_4) (Int.toNat (P5 .i64 name 255)*6)) 6 w3 fun x_7=>ck (List.length x_7=6) (pAgg ⟨b,0,none⟩ x_7 w3 fun w5=>gAgg ⟨b,0,none⟩ 6 w5 fun x_8=>some (.tuple ⟨[.agg ⟨x_8⟩,.int .i64 0]⟩,w5))))):=by kernel_rfl
def A95:Cuts:={ globs:=0,loops:=[(3,[0,3,4])],regs:=[],plans:=[] }
def Bt2:List Item:=A7 Tryz.f194
def Ah6:List Item:=stk [0,1,0,1,0,0,1,4,5] Bt2
theorem E81 (C:A3) (R:A4) (n:Option Addr) (h:H) :
 A6 PR A95 C R Q5 Tryz.f194 100000 true Bt2 [(0,.pointer n)] h =
 R Q5 Ah6 [(0,.pointer n),(3,.slice none 0 0),(4,.int .i64 0)] h:=by kernel_rfl
theorem B56 (C:A3) (R:A4) (n:Option Addr) (out:Option Addr) (outn outc:Nat) (i:Int) (h:H) :
 A6 PR A95 C R Q5 Tryz.f194 100000 true Ah6 [(0,.pointer n),(3,.slice out outn outc),(4,.int .i64 i)] h =
 aSome n fun p=>gSl (Addr.add p 0) h fun _ xn _=>cond (decide (i<((xn:Nat):Int)))
 (aSome n fun p_1=>gSl (Addr.add p_1 0) h fun x_1 xn_1 _=>aSome x_1 fun p_2=>ck ((0:Int)≤i∧i<((xn_1:Nat):Int)) (gBool (Addr.add (Addr.add (B7 p_2) (Int.toNat i*2)) 1) h fun x_2=>cond x_2
 (aSome n fun p_3=>gSl (Addr.add p_3 0) h fun x_3 xn_2 _=>aSome x_3 fun p_4=>ck ((0:Int)≤i∧i<((xn_2:Nat):Int)) (gInt .i64 (Addr.add (Addr.add (B7 p_4) (Int.toNat i*2)) 0) h fun x_4=>nw (.cells B5 false [.int .i64 (IntKind.wrap .i64 (i+(IntKind.wrap .i64 (256*x_4))))]) h fun b w=>gCells (some ⟨b,0,none⟩) (1*1) w fun cs=>ckB (fitsOpen out B5 w) (apd B5 1 out outn outc 1 cs w fun a an ac w1=>R Q5 Ah6 [(0,.pointer n),(3,.slice a an ac),(4,.int .i64 (IntKind.wrap .i64 (i+1)))] w1)))
 (R Q5 Ah6 [(0,.pointer n),(3,.slice out outn outc),(4,.int .i64 (IntKind.wrap .i64 (i+1)))] h)))
 (some (.slice out outn outc,h)):=by kernel_rfl
def A81:Cuts:={ globs:=0,loops:=[],regs:=[],plans:=[] }
def B28:List Item:=A7 Tryz.f196
theorem Eb8 (C:A3) (R:A4) (size:Int) (put:Value) (get:Value) (h:H) :
 A6 PR A81 C R Ao2 Tryz.f196 100000 true B28 [(0,.int .i64 size),(1,put),(2,get)] h =
 one put (one get (nw (.cells Bo6 false [.int .i64 (mm2 false (mm2 true size 0) 64),put,get]) h fun b w=>some (.pointer (some ⟨b,0,none⟩),w))):=by kernel_rfl
def Ed8:Cuts:={ globs:=0,loops:=[],regs:=[],plans:=[(1,⟨[0,1,2,3,4,5,6,7,8,9,10,11,12,13,14,15,16,17,18],[0,1,3,7,0,16,48,112,0,256,768,1792,0,4096,12288,28672,65535,0,262143],[],[]⟩),(2,⟨[0,1,2,3,4],[0,1,0,4,15],[],[]⟩),(4,⟨[0,1,2,3,4,5,6,7,8],[0,0,2,6,6,30,62,63,255],[(5,[0])],[]⟩)] }
def Ga8:List Item:=A7 Tryz.f198
theorem Hl4 (C:A3) (R:A4) (b:Option Addr) (bn bc:Nat) (h:H) :
 A6 PR Ed8 C R Bk8 Tryz.f198 100000 true Ga8 [(0,.slice b bn bc)] h =
 nw (.cells I4 false [.int .i64 0,.int .i64 0,.int .i64 0,.int .i64 0,.int .u8 0,.int .u8 0,.int .u8 0,.int .u8 0,.int .u8 0,.int .u8 0,.int .u8 0,.int .u8 0,.int .u8 0,.int .u8 0,.int .u8 0,.int .u8 0,.int .u8 0,.int .u8 0,.int .u8 0,.int .u8 0,.int .u8 0,.int .u8 0,.int .u8 0,.int .u8 0,.int .u8 0,.int .u8 0,.int .u8 0,.int .u8 0,.int .u8 0,.int .u8 0,.int .u8 0,.int .u8 0,.int .u8 0,.int .u8 0,.int .u8 0,.int .u8 0]) h fun b_1 w=>aSome b fun p=>ck ((0:Int)≤1∧1<((bn:Nat):Int)) (gInt .u8 (Addr.add (B7 p) (Int.toNat 1*1)) w fun x=>aSome b fun p_1=>ck ((0:Int)≤2∧2<((bn:Nat):Int)) (gInt .u8 (Addr.add (B7 p_1) (Int.toNat 2*1)) w fun x_1=>aSome b fun p_2=>ck ((0:Int)≤3∧3<((bn:Nat):Int)) (gInt .u8 (Addr.add (B7 p_2) (Int.toNat 3*1)) w fun x_2=>aSome b fun p_3=>ck ((0:Int)≤4∧4<((bn:Nat):Int)) (gInt .u8 (Addr.add (B7 p_3) (Int.toNat 4*1)) w fun x_3=>nw (.cells I4 false [.int .i64 0,.int .i64 0,.int .i64 0,.int .i64 0,.int .u8 0,.int .u8 0,.int .u8 0,.int .u8 0,.int .u8 0,.int .u8 0,.int .u8 0,.int .u8 0,.int .u8 0,.int .u8 0,.int .u8 0,.int .u8 0,.int .u8 0,.int .u8 0,.int .u8 0,.int .u8 0,.int .u8 0,.int .u8 0,.int .u8 0,.int .u8 0,.int .u8 0,.int .u8 0,.int .u8 0,.int .u8 0,.int .u8 0,.int .u8 0,.int .u8 0,.int .u8 0,.int .u8 0,.int .u8 0,.int .u8 0,.int .u8 0]) w fun b_2 w1=>pAgg ⟨b_2,0,none⟩ [.int .i64 (IntKind.wrap .i64 (x)),.int .i64 (IntKind.wrap .i64 (x_1)),.int .i64 (IntKind.wrap .i64 (x_2)),.int .i64 (IntKind.wrap .i64 (x_3)),.int .u8 0,.int .u8 0,.int .u8 0,.int .u8 0,.int .u8 0,.int .u8 0,.int .u8 0,.int .u8 0,.int .u8 0,.int .u8 0,.int .u8 0,.int .u8 0,.int .u8 0,.int .u8 0,.int .u8 0,.int .u8 0,.int .u8 0,.int .u8 0,.int .u8 0,.int .u8 0,.int .u8 0,.int .u8 0,.int .u8 0,.int .u8 0,.int .u8 0,.int .u8 0,.int .u8 0,.int .u8 0,.int .u8 0,.int .u8 0,.int .u8 0,.int .u8 0] w1 fun w2=>ckB (liveA (Addr.add ⟨b_2,0,none⟩ 4) w2) (ckB (fitsOpen b A5 w2) (ck ((0:Int)≤8∧8≤((bn:Nat):Int)) (gCells (H2 b (decide (Int.toNat 8<bc)) ((Int.toNat 8)*1)) (min (bn-(Int.toNat 8)) (32-0)*1) w2 fun cs=>pCells (H2 (some (Addr.add ⟨b_2,0,none⟩ 4)) (decide (0<32)) (0*1)) cs w2 fun w3=>gAgg ⟨b_2,0,none⟩ 36 w3 fun x_4=>bnd (C Ba8 [.agg ⟨x_4⟩] w3) fun r w4=>as2 r fun r_1 r_2=>aSl r_1 fun x_5 xn xc=>aBool r_2 fun x_6=>gAgg ⟨b_2,0,none⟩ 36 w4 fun x_7=>bnd (cond x_6 (bnd (C D4 [.slice x_5 xn xc,.slice b bn bc] w4) fun r_3 w5=>aBool r_3 fun x_8=>gAgg ⟨b_2,0,none⟩ 36 w5 fun x_9=>same (.agg ⟨x_7⟩) (.agg ⟨x_9⟩) (some (x_8,w5))) (some (false,w4))) fun c w6=>ck (List.length x_7=36) (pAgg ⟨b_1,0,none⟩ x_7 w6 fun w7=>gAgg ⟨b_1,0,none⟩ 36 w7 fun x_10=>some (.tuple ⟨[.agg ⟨x_10⟩,.bool c]⟩,w7))))))))):=by kernel_rfl
def By8:Cuts:={ globs:=0,loops:=[],regs:=[],plans:=[] }
def Dx3:List Item:=A7 Tryz.f200
theorem Gb8 (C:A3) (R:A4) (c:Int) (h:H) :
 A6 PR By8 C R Af4 Tryz.f200 100000 true Dx3 [(0,.int .u8 c)] h =
 some (.bool (c != 0),h):=by kernel_rfl
def Bu8:Cuts:={ globs:=0,loops:=[],regs:=[],plans:=[] }
def Dq8:List Item:=A7 Tryz.f203
theorem E71 (C:A3) (R:A4) (s:Option Addr) (env:Int) (name:Int) (h:H) :
 A6 PR Bu8 C R At7 Tryz.f203 100000 true Dq8 [(0,.pointer s),(1,.int .i64 env),(2,.int .i64 name)] h =
 nw (.cells O9 false [.int .i64 0,.int .i64 0,.int .i64 0,.int .i64 0,.int .i64 0,.int .i64 0]) h fun b w=>bnd (C Ae6 [.pointer s,.int .i64 env] w) fun r w1=>aBool r fun x=>cond (!x)
 (pAgg ⟨b,0,none⟩ [.int .i64 0,.int .i64 0,.int .i64 0,.int .i64 0,.int .i64 0,.int .i64 0] w1 fun w2=>gAgg ⟨b,0,none⟩ 6 w2 fun x_1=>some (.tuple ⟨[.agg ⟨x_1⟩,.int .i64 2]⟩,w2))
 (aSome s fun p=>gSl (Addr.add p 0) w1 fun x_2 xn _=>aSome x_2 fun p_1=>ck ((0:Int)≤env∧env<((xn:Nat):Int)) (gPtr (Addr.add (B7 p_1) (Int.toNat env*1)) w1 fun x_3=>bnd (C Ac9 [.pointer x_3,.int .i64 name] w1) fun r_1 w3=>as2 r_1 fun r_2 r_3=>aAgg r_2 fun x_4=>aBool r_3 fun x_5=>nw (.cells O9 false [.int .i64 0,.int .i64 0,.int .i64 0,.int .i64 0,.int .i64 0,.int .i64 0]) w3 fun b_1 w4=>ck (List.length x_4=6) (pAgg ⟨b_1,0,none⟩ x_4 w4 fun w5=>cond (!x_5)
 (pAgg ⟨b,0,none⟩ [.int .i64 0,.int .i64 0,.int .i64 0,.int .i64 0,.int .i64 0,.int .i64 0] w5 fun w6=>gAgg ⟨b,0,none⟩ 6 w6 fun x_6=>some (.tuple ⟨[.agg ⟨x_6⟩,.int .i64 2]⟩,w6))
 (gAgg ⟨b_1,0,none⟩ 6 w5 fun x_7=>ck (List.length x_7=6) (pAgg ⟨b,0,none⟩ x_7 w5 fun w7=>gAgg ⟨b,0,none⟩ 6 w7 fun x_8=>some (.tuple ⟨[.agg ⟨x_8⟩,.int .i64 0]⟩,w7)))))):=by kernel_rfl
def A94:Cuts:={ globs:=0,loops:=[],regs:=[],plans:=[] }
def B33:List Item:=A7 Tryz.f214
theorem D94 (C:A3) (R:A4) (size:Int) (put:Value) (get:Value) (h:H) :
 A6 PR A94 C R Ap6 Tryz.f214 100000 true B33 [(0,.int .i64 size),(1,put),(2,get)] h =
 one put (one get (nw (.cells Aj3 false [.int .i64 (mm2 false (mm2 true size 0) 64),put,get]) h fun b w=>some (.pointer (some ⟨b,0,none⟩),w))):=by kernel_rfl
def D11:Cuts:={ globs:=0,loops:=[],regs:=[],plans:=[] }
def Ez4:List Item:=A7 Tryz.f215
theorem Hb7 (C:A3) (R:A4) (f:List Value) (b:Option Addr) (bn bc:Nat) (h:H) :
 A6 PR D11 C R As0 Tryz.f215 100000 true Ez4 [(0,.agg ⟨f⟩),(1,.slice b bn bc)] h =
 nw (.cells H8 false f) h fun b_1 w=>gAgg ⟨b_1,0,none⟩ 4 w fun x=>bnd (C Dk5 [.agg ⟨x⟩] w) fun r w1=>aBool r fun x_1=>cond (!x_1)
 (some (.bool false,w1))
 (gInt .i64 (Addr.add ⟨b_1,0,none⟩ 0) w1 fun x_2=>gInt .i64 (Addr.add ⟨b_1,0,none⟩ 1) w1 fun x_3=>gInt .i64 (Addr.add ⟨b_1,0,none⟩ 2) w1 fun x_4=>gInt .i64 (Addr.add ⟨b_1,0,none⟩ 3) w1 fun x_5=>nw (.cells A5 false [.int .u8 (IntKind.wrap .u8 (x_2)),.int .u8 (IntKind.wrap .u8 (x_3)),.int .u8 (IntKind.wrap .u8 (x_4)),.int .u8 (IntKind.wrap .u8 (x_5)),.int .u8 179]) w1 fun b_2 w2=>gCells (some ⟨b_2,0,none⟩) (min 5 bn*1) w2 fun cs=>pCells b cs w2 fun w3=>ckB (fitsOpen b A5 w3) (ck ((0:Int)≤5∧5≤((bc:Nat):Int)) (bnd (C Aa0 [.slice (H2 b (decide (0<bc)) (0*1)) ((Int.toNat 5)-0) (bc-0)] w3) fun r_1 w4=>aInt .u8 r_1 fun x_6=>aSome b fun p=>ck ((0:Int)≤5∧5<((bn:Nat):Int)) (pV (Addr.add (B7 p) (Int.toNat 5*1)) (.int .u8 x_6) w4 fun w5=>some (.bool true,w5))))):=by kernel_rfl
def W9:Cuts:={ globs:=0,loops:=[(2,[0,1,7,8])],regs:=[],plans:=[] }
def Ah9:List Item:=A7 Tryz.f217
def N4:List Item:=stk [0,1,0,0,1,4,5] Ah9
theorem A56 (C:A3) (R:A4) (s:Option Addr) (sn sc:Nat) (f:Value) (h:H) :
 A6 PR W9 C R D6 Tryz.f217 100000 true Ah9 [(0,.slice s sn sc),(1,f)] h =
 R D6 N4 [(0,.slice s sn sc),(1,f),(7,.int .i64 ((sn:Nat):Int)),(8,.int .i64 0)] h:=by kernel_rfl
theorem S5 (C:A3) (R:A4) (s:Option Addr) (sn sc:Nat) (f:Value) (x7:Int) (x8:Int) (h:H) :
 A6 PR W9 C R D6 Tryz.f217 100000 true N4 [(0,.slice s sn sc),(1,f),(7,.int .i64 x7),(8,.int .i64 x8)] h =
 cond (decide (x8<x7))
 (aSome s fun p=>ck ((0:Int)≤x8∧x8<((sn:Nat):Int)) (gInt .i64 (Addr.add (B7 p) (Int.toNat x8*1)) h fun x=>aFn f fun g fi cp=>bnd (C g (fi++([.int .i64 x]++cp)) h) fun r w=>aBool r fun x_1=>cond x_1
 (some (.int .i64 x8,w))
 (R D6 N4 [(0,.slice s sn sc),(1,f),(7,.int .i64 x7),(8,.int .i64 (IntKind.wrap .i64 (x8+1)))] w)))
 (some (.int .i64 (-1),h)):=by kernel_rfl
def Ad3:Cuts:={ globs:=0,loops:=[(2,[0,3,11,12,13])],regs:=[],plans:=[(5,⟨[0,1,2,3,4,5,6,7,8,9,10,11,12,13,14,15,16],[0,1,3,7,0,0,32,96,224,0,0,1535,3583,7679,16383,32767,65535],[],[]⟩)] }
def Aq7:List Item:=A7 Tryz.f218
def W7:List Item:=stk [0,1,0,0,1,4,5] Aq7
theorem Dj3 (C:A3) (R:A4) (t:Option Addr) (v:List Value) (h:H) :
 A6 PR Ad3 C R I1 Tryz.f218 100000 true Aq7 [(0,.pointer t),(1,.agg ⟨v⟩)] h =
 nw (.cells O9 false v) h fun b w=>aSome t fun p=>gSl (Addr.add p 0) w fun x xn xc=>R I1 W7 [(0,.pointer t),(3,.pointer (some ⟨b,0,none⟩)),(11,.slice x xn xc),(12,.int .i64 ((xn:Nat):Int)),(13,.int .i64 0)] w:=by kernel_rfl
theorem A60 (C:A3) (R:A4) (t:Option Addr) (v:Addr) (x11:Option Addr) (x11n x11c:Nat) (x12:Int) (x13:Int) (h:H) :
 A6 PR Ad3 C R I1 Tryz.f218 100000 true W7 [(0,.pointer t),(3,.pointer (some v)),(11,.slice x11 x11n x11c),(12,.int .i64 x12),(13,.int .i64 x13)] h =
 cond (decide (x13<x12))
 (aSome x11 fun p=>ck ((0:Int)≤x13∧x13<((x11n:Nat):Int)) (gAgg (Addr.add (B7 p) (Int.toNat x13*8)) 8 h fun x=>nw (.cells Al1 false [.int .i64 0,.int .i64 0,.int .i64 0,.int .i64 0,.int .i64 0,.int .i64 0,.int .i64 0,.bool false]) h fun b w=>ck (List.length x=8) (pAgg ⟨b,0,none⟩ x w fun w1=>gBool (Addr.add ⟨b,0,none⟩ 7) w1 fun x_1=>bnd (cond (!x_1) (gInt .i64 (Addr.add ⟨b,0,none⟩ 6) w1 fun x_2=>some (decide (x_2≤1000000),w1)) (some (false,w1))) fun c w2=>cond c
 (aSome t fun p_1=>gSl (Addr.add p_1 0) w2 fun x_3 xn _=>aSome t fun p_2=>gSl (Addr.add p_2 0) w2 fun x_4 xn_1 _=>gAgg v 6 w2 fun x_5=>aSome x_3 fun p_3=>ck ((0:Int)≤x13∧x13<((xn:Nat):Int)) (ck (List.length x_5=6) (pAgg (Addr.add (Addr.add (B7 p_3) (Int.toNat x13*8)) 0) x_5 w2 fun w3=>aSome x_4 fun p_4=>ck ((0:Int)≤x13∧x13<((xn_1:Nat):Int)) (pV (Addr.add (Addr.add (B7 p_4) (Int.toNat x13*8)) 7) (.bool true) w3 fun w4=>bnd (C N7 [.pointer t,.int .i64 x13] w4) fun r w5=>aInt .i64 r fun x_6=>some (.tuple ⟨[.int .i64 x_6,.bool true]⟩,w5)))))
 (R I1 W7 [(0,.pointer t),(3,.pointer (some v)),(11,.slice x11 x11n x11c),(12,.int .i64 x12),(13,.int .i64 (IntKind.wrap .i64 (x13+1)))] w2))))
 (some (.tuple ⟨[.int .i64 0,.bool false]⟩,h)):=by kernel_rfl
def A87:Cuts:={ globs:=0,loops:=[(2,[0,4])],regs:=[],plans:=[] }
def Bu6:List Item:=A7 Tryz.f219
def Au8:List Item:=stk [0,1,0,0,1,4,5] Bu6
theorem E36 (C:A3) (R:A4) (n:Option Addr) (h:H) :
 A6 PR A87 C R W4 Tryz.f219 100000 true Bu6 [(0,.pointer n)] h =
 R W4 Au8 [(0,.pointer n),(4,.int .i64 0)] h:=by kernel_rfl
theorem B55 (C:A3) (R:A4) (n:Option Addr) (i:Int) (h:H) :
 A6 PR A87 C R W4 Tryz.f219 100000 true Au8 [(0,.pointer n),(4,.int .i64 i)] h =
 aSome n fun p=>gSl (Addr.add p 0) h fun _ xn _=>cond (decide (i<((xn:Nat):Int)))
 (aSome n fun p_1=>gSl (Addr.add p_1 0) h fun x_1 xn_1 _=>aSome x_1 fun p_2=>ck ((0:Int)≤i∧i<((xn_1:Nat):Int)) (gBool (Addr.add (Addr.add (B7 p_2) (Int.toNat i*2)) 1) h fun x_2=>bnd (cond (!x_2) (aSome n fun p_3=>gSl (Addr.add p_3 0) h fun x_3 xn_2 _=>aSome x_3 fun p_4=>ck ((0:Int)≤i∧i<((xn_2:Nat):Int)) (gInt .i64 (Addr.add (Addr.add (B7 p_4) (Int.toNat i*2)) 0) h fun x_4=>some (decide (x_4≤1000000),h))) (some (false,h))) fun c w=>cond c
 (aSome n fun p_5=>gSl (Addr.add p_5 0) w fun x_5 xn_3 _=>aSome x_5 fun p_6=>ck ((0:Int)≤i∧i<((xn_3:Nat):Int)) (pV (Addr.add (Addr.add (B7 p_6) (Int.toNat i*2)) 1) (.bool true) w fun w1=>aSome n fun p_7=>gSl (Addr.add p_7 0) w1 fun x_6 xn_4 _=>aSome x_6 fun p_8=>ck ((0:Int)≤i∧i<((xn_4:Nat):Int)) (gInt .i64 (Addr.add (Addr.add (B7 p_8) (Int.toNat i*2)) 0) w1 fun x_7=>some (.tuple ⟨[.int .i64 (IntKind.wrap .i64 (i+(IntKind.wrap .i64 (256*x_7)))),.bool true]⟩,w1))))
 (R W4 Au8 [(0,.pointer n),(4,.int .i64 (IntKind.wrap .i64 (i+1)))] w)))
 (some (.tuple ⟨[.int .i64 0,.bool false]⟩,h)):=by kernel_rfl
def Bv3:Cuts:={ globs:=0,loops:=[],regs:=[],plans:=[] }
def Dp6:List Item:=A7 Tryz.f220
theorem E77 (C:A3) (R:A4) (n:Option Addr) (name:Int) (h:H) :
 A6 PR Bv3 C R A73 Tryz.f220 100000 true Dp6 [(0,.pointer n),(1,.int .i64 name)] h =
 bnd (cond (decide (name≥0)) (aSome n fun p=>gSl (Addr.add p 0) h fun _ xn _=>some (decide ((P5 .i64 name 255)<((xn:Nat):Int)),h)) (some (false,h))) fun c w=>bnd (cond c (aSome n fun p_1=>gSl (Addr.add p_1 0) w fun x_1 xn_1 _=>aSome x_1 fun p_2=>ck ((0:Int)≤P5 .i64 name 255∧P5 .i64 name 255<((xn_1:Nat):Int)) (gBool (Addr.add (Addr.add (B7 p_2) (Int.toNat (P5 .i64 name 255)*2)) 1) w fun x_2=>some (x_2,w))) (some (false,w))) fun c_1 w1=>bnd (cond c_1 (aSome n fun p_3=>gSl (Addr.add p_3 0) w1 fun x_3 xn_2 _=>aSome x_3 fun p_4=>ck ((0:Int)≤P5 .i64 name 255∧P5 .i64 name 255<((xn_2:Nat):Int)) (gInt .i64 (Addr.add (Addr.add (B7 p_4) (Int.toNat (P5 .i64 name 255)*2)) 0) w1 fun x_4=>some (x_4==(Int.fdiv name (2 ^ 8)),w1))) (some (false,w1))) fun c_2 w2=>some (.bool c_2,w2):=by kernel_rfl
def Aq8:Cuts:={ globs:=0,loops:=[],regs:=[],plans:=[] }
def Bf9:List Item:=A7 Tryz.f226
theorem Dl5 (C:A3) (R:A4) (t:Option Addr) (name:Int) (h:H) :
 A6 PR Aq8 C R Ac9 Tryz.f226 100000 true Bf9 [(0,.pointer t),(1,.int .i64 name)] h =
 nw (.cells O9 false [.int .i64 0,.int .i64 0,.int .i64 0,.int .i64 0,.int .i64 0,.int .i64 0]) h fun b w=>bnd (C Ae7 [.pointer t,.int .i64 name] w) fun r w1=>aPtr r fun x=>cond x.isNone
 (nw (.cells O9 false [.int .i64 0,.int .i64 0,.int .i64 0,.int .i64 0,.int .i64 0,.int .i64 0]) w1 fun b_1 w2=>gAgg ⟨b_1,0,none⟩ 6 w2 fun x_1=>ck (List.length x_1=6) (pAgg ⟨b,0,none⟩ x_1 w2 fun w3=>gAgg ⟨b,0,none⟩ 6 w3 fun x_2=>some (.tuple ⟨[.agg ⟨x_2⟩,.bool false]⟩,w3)))
 (aSome x fun p=>gAgg (Addr.add p 0) 6 w1 fun x_3=>ck (List.length x_3=6) (pAgg ⟨b,0,none⟩ x_3 w1 fun w4=>gAgg ⟨b,0,none⟩ 6 w4 fun x_4=>some (.tuple ⟨[.agg ⟨x_4⟩,.bool true]⟩,w4))):=by kernel_rfl
def Bm9:Cuts:={ globs:=0,loops:=[],regs:=[],plans:=[] }
def Dh6:List Item:=A7 Tryz.f230
theorem Ey4 (C:A3) (R:A4) (s:Option Addr) (who:Int) (stamp:Int) (h:H) :
 A6 PR Bm9 C R A27 Tryz.f230 100000 true Dh6 [(0,.pointer s),(1,.int .i64 who),(2,.int .i64 stamp)] h =
 aSome s fun p=>gBool (Addr.add p 1) h fun x=>bnd (cond x (aSome s fun p_1=>gInt .i64 (Addr.add p_1 2) h fun x_1=>some (x_1==who,h)) (some (false,h))) fun c w=>bnd (cond c (aSome s fun p_2=>gInt .i64 (Addr.add p_2 3) w fun x_2=>some (x_2==stamp,w)) (some (false,w))) fun c_1 w1=>some (.bool c_1,w1):=by kernel_rfl
def Dp1:Cuts:={ globs:=0,loops:=[],regs:=[],plans:=[] }
def Ep4:List Item:=A7 Tryz.f238
theorem G25 (C:A3) (R:A4) (n:Int) (without:Int) (h:H) :
 A6 PR Dp1 C R Ak3 Tryz.f238 100000 true Ep4 [(0,.int .i64 n),(1,.int .i64 without)] h =
 bnd (cond ((En1 .i64 n 65534)==0) (some ((P5 .i64 n without)==0,h)) (some (false,h))) fun c w=>some (.bool c,w):=by kernel_rfl
end
end Go.EQ

set_option maxRecDepth 100000
namespace Go.EQ
open Go Go.NN Go.Proofs
variable (C : A3) (R : A4)
noncomputable section
def D03:Cuts:={ globs:=0,loops:=[],regs:=[],plans:=[] }
def E28:List Item:=A7 Tryz.f35
theorem He3 (C:A3) (R:A4) (c:Option Addr) (i:Int) (h:H) :
 A6 PR D03 C R Bc8 Tryz.f35 100000 true E28 [(0,.pointer c),(1,.int .i64 i)] h =
 nw (.cells Z4 false [.int .i64 0,.int .i64 0,.slice none 0 0,.bool false]) h fun b w=>bnd (C Ar6 [.pointer c,.int .i64 i] w) fun r w1=>as2 r fun r_1 r_2=>aAgg r_1 fun x=>aInt .i64 r_2 fun x_1=>nw (.cells D2 false [.int .i64 0,.int .i64 0,.int .i64 0,.int .i64 0,.int .i64 0,.int .i64 0,.int .i64 0,.int .i64 0,.int .i64 0,.int .i64 0,.int .i64 0,.int .i64 0,.int .i64 0,.int .i64 0,.int .i64 0,.int .i64 0]) w1 fun b_1 w2=>ck (List.length x=16) (pAgg ⟨b_1,0,none⟩ x w2 fun w3=>cond (x_1 != 0)
 (bnd (C Ab1 [.int .i64 x_1] w3) fun r_3 w4=>aAgg r_3 fun x_2=>ck (List.length x_2=4) (pAgg ⟨b,0,none⟩ x_2 w4 fun w5=>gAgg ⟨b,0,none⟩ 4 w5 fun x_3=>some (.agg ⟨x_3⟩,w5)))
 (bnd (C Ar1 [.pointer c] w3) fun r_4 w6=>aInt .i64 r_4 fun x_4=>cond (decide (x_4<0))
 (bnd (C Ab1 [.int .i64 111] w6) fun r_5 w7=>aAgg r_5 fun x_5=>ck (List.length x_5=4) (pAgg ⟨b,0,none⟩ x_5 w7 fun w8=>gAgg ⟨b,0,none⟩ 4 w8 fun x_6=>some (.agg ⟨x_6⟩,w8)))
 (gAgg ⟨b_1,0,none⟩ 16 w6 fun x_7=>bnd (C G2 [.pointer c,.agg ⟨x_7⟩] w6) fun r_6 w9=>aInt .i64 r_6 fun x_8=>cond (x_8 != 0)
 (bnd (C Ab1 [.int .i64 x_8] w9) fun r_7 w10=>aAgg r_7 fun x_9=>ck (List.length x_9=4) (pAgg ⟨b,0,none⟩ x_9 w10 fun w11=>gAgg ⟨b,0,none⟩ 4 w11 fun x_10=>some (.agg ⟨x_10⟩,w11)))
 (pV (Addr.add ⟨b_1,0,none⟩ 1) (.int .i64 (IntKind.wrap .i64 (i+1))) w9 fun w12=>pV (Addr.add ⟨b_1,0,none⟩ 4) (.int .i64 0) w12 fun w13=>gAgg ⟨b_1,0,none⟩ 16 w13 fun x_11=>bnd (C J9 [.pointer c,.int .i64 x_4,.agg ⟨x_11⟩] w13) fun r_8 w14=>aBool r_8 fun x_12=>bnd (C Aa9 [.bool x_12,.int .i64 x_4] w14) fun r_9 w15=>aAgg r_9 fun x_13=>ck (List.length x_13=4) (pAgg ⟨b,0,none⟩ x_13 w15 fun w16=>gAgg ⟨b,0,none⟩ 4 w16 fun x_14=>some (.agg ⟨x_14⟩,w16)))))):=by kernel_rfl
def A08:Cuts:={ globs:=0,loops:=[],regs:=[],plans:=[] }
def Bp2:List Item:=A7 Tryz.f36
theorem Dz7 (C:A3) (R:A4) (c:Option Addr) (i:Int) (h:H) :
 A6 PR A08 C R L5 Tryz.f36 100000 true Bp2 [(0,.pointer c),(1,.int .i64 i)] h =
 nw (.cells H8 false [.int .i64 0,.int .i64 0,.int .i64 0,.int .i64 0]) h fun b w=>bnd (C As4 [.int .i64 i] w) fun r w1=>aAgg r fun x=>bnd (C L0 [.pointer c,.agg ⟨x⟩,.func (.func A40) ⟨[]⟩ ⟨[]⟩] w1) fun r_1 w2=>as2 r_1 fun r_2 r_3=>aAgg r_2 fun x_1=>aInt .i64 r_3 fun x_2=>ck (List.length x_1=4) (pAgg ⟨b,0,none⟩ x_1 w2 fun w3=>gAgg ⟨b,0,none⟩ 4 w3 fun x_3=>some (.tuple ⟨[.agg ⟨x_3⟩,.int .i64 x_2]⟩,w3)):=by kernel_rfl
def De0:Cuts:={ globs:=0,loops:=[],regs:=[],plans:=[] }
def Eg7:List Item:=A7 Tryz.f37
theorem Gs7 (C:A3) (R:A4)  (h:H) :
 A6 PR De0 C R Bq8 Tryz.f37 100000 true Eg7 [] h =
 bnd (C Bc5 [] h) fun r w=>aSl r fun x xn xc=>bnd (C Ae2 [.slice x xn xc] w) fun r_1 w1=>as4 r_1 fun r_2 r_3 r_4 r_5=>aPtr r_2 fun _=>aPtr r_3 fun x_2=>aPtr r_4 fun _=>aPtr r_5 fun _=>cond x_2.isNone
 (some (.bool false,w1))
 (bnd (C Aa6 [.pointer x_2,.int .i64 0] w1) fun r_6 w2=>aAgg r_6 fun x_5=>nw (.cells Z4 false [.int .i64 0,.int .i64 0,.slice none 0 0,.bool false]) w2 fun b w3=>ck (List.length x_5=4) (pAgg ⟨b,0,none⟩ x_5 w3 fun w4=>bnd (C Bc8 [.pointer x_2,.int .i64 0] w4) fun r_7 w5=>aAgg r_7 fun x_6=>nw (.cells Z4 false [.int .i64 0,.int .i64 0,.slice none 0 0,.bool false]) w5 fun b_1 w6=>ck (List.length x_6=4) (pAgg ⟨b_1,0,none⟩ x_6 w6 fun w7=>bnd (C Aa6 [.pointer x_2,.int .i64 0] w7) fun r_8 w8=>aAgg r_8 fun x_7=>nw (.cells Z4 false [.int .i64 0,.int .i64 0,.slice none 0 0,.bool false]) w8 fun b_2 w9=>ck (List.length x_7=4) (pAgg ⟨b_2,0,none⟩ x_7 w9 fun w10=>bnd (C Ar6 [.pointer x_2,.int .i64 1] w10) fun r_9 w11=>as2 r_9 fun r_10 r_11=>aAgg r_10 fun x_8=>aInt .i64 r_11 fun x_9=>nw (.cells D2 false [.int .i64 0,.int .i64 0,.int .i64 0,.int .i64 0,.int .i64 0,.int .i64 0,.int .i64 0,.int .i64 0,.int .i64 0,.int .i64 0,.int .i64 0,.int .i64 0,.int .i64 0,.int .i64 0,.int .i64 0,.int .i64 0]) w11 fun b_3 w12=>ck (List.length x_8=16) (pAgg ⟨b_3,0,none⟩ x_8 w12 fun w13=>gInt .i64 (Addr.add ⟨b,0,none⟩ 1) w13 fun x_10=>bnd (cond (x_10==110) (gInt .i64 (Addr.add ⟨b_1,0,none⟩ 1) w13 fun x_11=>some (x_11==0,w13)) (some (false,w13))) fun c w14=>bnd (cond c (gInt .i64 (Addr.add ⟨b_1,0,none⟩ 0) w14 fun x_12=>some (x_12==1,w14)) (some (false,w14))) fun c_1 w15=>bnd (cond c_1 (gBool (Addr.add ⟨b_2,0,none⟩ 3) w15 fun x_13=>some (x_13,w15)) (some (false,w15))) fun c_2 w16=>bnd (cond c_2 (some (x_9==0,w16)) (some (false,w16))) fun c_3 w17=>bnd (cond c_3 (gInt .i64 (Addr.add ⟨b_3,0,none⟩ 1) w17 fun x_14=>some (x_14==1,w17)) (some (false,w17))) fun c_4 w18=>bnd (cond c_4 (ck ((0:Int)≤0∧0<((8:Nat):Int)) (gInt .i64 (Addr.add (Addr.add ⟨b_3,0,none⟩ 8) (Int.toNat 0*1)) w18 fun x_15=>some (x_15==1,w18))) (some (false,w18))) fun c_5 w19=>some (.bool c_5,w19)))))):=by kernel_rfl
def D24:Cuts:={ globs:=0,loops:=[],regs:=[],plans:=[] }
def Ez9:List Item:=A7 Tryz.f40
theorem Ha1 (C:A3) (R:A4) (c:Option Addr) (i:Int) (h:H) :
 A6 PR D24 C R Ar6 Tryz.f40 100000 true Ez9 [(0,.pointer c),(1,.int .i64 i)] h =
 nw (.cells D2 false [.int .i64 0,.int .i64 0,.int .i64 0,.int .i64 0,.int .i64 0,.int .i64 0,.int .i64 0,.int .i64 0,.int .i64 0,.int .i64 0,.int .i64 0,.int .i64 0,.int .i64 0,.int .i64 0,.int .i64 0,.int .i64 0]) h fun b w=>bnd (C D1 [.pointer c] w) fun r w1=>as0 r (bnd (C E2 [.pointer c,.int .i64 i] w1) fun r_1 w2=>as2 r_1 fun r_2 r_3=>aAgg r_2 fun x=>aInt .i64 r_3 fun x_1=>nw (.cells D2 false [.int .i64 0,.int .i64 0,.int .i64 0,.int .i64 0,.int .i64 0,.int .i64 0,.int .i64 0,.int .i64 0,.int .i64 0,.int .i64 0,.int .i64 0,.int .i64 0,.int .i64 0,.int .i64 0,.int .i64 0,.int .i64 0]) w2 fun b_1 w3=>ck (List.length x=16) (pAgg ⟨b_1,0,none⟩ x w3 fun w4=>bnd (cond (x_1 != 1) (some (true,w4)) (gInt .i64 (Addr.add ⟨b_1,0,none⟩ 0) w4 fun x_2=>some (x_2 != 1,w4))) fun c_1 w5=>cond c_1
 (pAgg ⟨b,0,none⟩ [.int .i64 0,.int .i64 0,.int .i64 0,.int .i64 0,.int .i64 0,.int .i64 0,.int .i64 0,.int .i64 0,.int .i64 0,.int .i64 0,.int .i64 0,.int .i64 0,.int .i64 0,.int .i64 0,.int .i64 0,.int .i64 0] w5 fun w6=>gAgg ⟨b,0,none⟩ 16 w6 fun x_3=>some (.tuple ⟨[.agg ⟨x_3⟩,.int .i64 105]⟩,w6))
 (gAgg ⟨b_1,0,none⟩ 16 w5 fun x_4=>ck (List.length x_4=16) (pAgg ⟨b,0,none⟩ x_4 w5 fun w7=>gAgg ⟨b,0,none⟩ 16 w7 fun x_5=>some (.tuple ⟨[.agg ⟨x_5⟩,.int .i64 0]⟩,w7))))):=by kernel_rfl
def A99:Cuts:={ globs:=0,loops:=[(5,[1,4,20,21,22]),(12,[1,7,58,59,60]),(18,[7,89,90,91]),(22,[7,11,12,89,90,91,122,123,124])],regs:=[],plans:=[(9,⟨[0,1,3,5,6,7,9,10,2,4,8,11,12,13,14],[0,1,3,0,15,0,32,96,255,0,512,2047,4095,8191,16383],[(2,[6,10]),(4,[6,10]),(8,[10])],[]⟩),(10,⟨[0,1,2,3,4,5,6,7,8,9,10,11,12],[0,0,2,6,14,0,32,96,224,510,1023,2047,4095],[],[]⟩),(14,⟨[0,1,2,3,4,5,6,7,8,9,10,11],[0,0,2,6,14,0,32,96,254,511,1023,2047],[(6,[4])],[]⟩),(15,⟨[0,1,2,3,4,5,6,7,8,9,10,11,12],[0,0,2,6,14,0,32,96,224,510,1023,2047,4095],[(7,[4])],[]⟩),(20,⟨[0,1,2,3,4,5,6,7,8,9,11,12,15,16,18,19,10,13,14,17,20,21,22,23,24,25],[0,1,3,7,0,16,48,112,0,256,1008,0,2048,8176,16368,0,32768,131056,0,262144,1048575,2097151,4194303,4194303,8388607,33554431],[(10,[3,12,16,19])],[]⟩),(25,⟨[0,1,2,3,4,5,6,7,8,9],[0,1,3,7,0,0,0,64,224,511],[],[]⟩)] }
def Bj5:List Item:=A7 Tryz.f51
def Br8:List Item:=stk [0,1,0,1,0,1,0,0,1,4,5] Bj5
def Br0:List Item:=stk [0,1,0,1,0,1,0,1,0,1,0,1,0,0,1,4,5] Bj5
def Bb8:List Item:=stk [0,1,0,1,0,1,0,1,0,1,0,1,0,1,0,0,1,4,5] Bj5
def Bb0:List Item:=stk [0,1,0,1,0,1,0,1,0,1,0,1,0,1,0,0,1,4,5,6,0,1,0,1,0,4,0,1,0,1,0,1,4,5] Bj5
theorem Hk2 (C:A3) (R:A4) (c:List Value) (h:H) :
 A6 PR A99 C R H7 Tryz.f51 100000 true Bj5 [(0,.agg ⟨c⟩)] h =
 nw (.cells D9 false c) h fun b w=>gAgg ⟨b,0,none⟩ 5 w fun x=>bnd (C R0 [.agg ⟨x⟩] w) fun r w1=>aBool r fun x_1=>cond (!x_1)
 (some (.tuple ⟨[.pointer none,.int .i64 1]⟩,w1))
 (gSl (Addr.add ⟨b,0,none⟩ 0) w1 fun x_2 xn xc=>R H7 Br8 [(1,.pointer (some ⟨b,0,none⟩)),(4,.int .i64 0),(20,.slice x_2 xn xc),(21,.int .i64 ((xn:Nat):Int)),(22,.int .i64 0)] w1):=by kernel_rfl
theorem Eh1 (C:A3) (R:A4) (c:Addr) (all:Int) (x20:Option Addr) (x20n x20c:Nat) (x21:Int) (x22:Int) (h:H) :
 A6 PR A99 C R H7 Tryz.f51 100000 true Br8 [(1,.pointer (some c)),(4,.int .i64 all),(20,.slice x20 x20n x20c),(21,.int .i64 x21),(22,.int .i64 x22)] h =
 cond (decide (x22<x21))
 (aSome x20 fun p=>ck ((0:Int)≤x22∧x22<((x20n:Nat):Int)) (gInt .i64 (Addr.add (B7 p) (Int.toNat x22*1)) h fun x=>bnd (C Ba3 [.int .i64 x] h) fun r w=>aInt .i64 r fun x_1=>R H7 Br8 [(1,.pointer (some c)),(4,.int .i64 (IntKind.wrap .i64 (all+x_1))),(20,.slice x20 x20n x20c),(21,.int .i64 x21),(22,.int .i64 (IntKind.wrap .i64 (x22+1)))] w))
 (gSl (Addr.add c 1) h fun x_2 xn xc=>gSl (Addr.add c 1) h fun x_3 xn_1 xc_1=>gSl (Addr.add c 0) h fun x_4 xn_2 xc_2=>bnd (C W1 [.slice x_2 xn xc] h) fun r_1 w1=>aSl r_1 fun x_5 xn_3 xc_3=>gSl (Addr.add c 1) w1 fun x_6 xn_4 xc_4=>same (.slice x_3 xn_1 xc_1) (.slice x_6 xn_4 xc_4) (gSl (Addr.add c 0) w1 fun x_7 xn_5 xc_5=>same (.slice x_4 xn_2 xc_2) (.slice x_7 xn_5 xc_5) (bnd (C Du0 [.int .i64 all] w1) fun r_2 w2=>aPtr r_2 fun x_8=>gSl (Addr.add c 1) w2 fun x_9 xn_6 xc_6=>same (.slice x_3 xn_1 xc_1) (.slice x_9 xn_6 xc_6) (gSl (Addr.add c 0) w2 fun x_10 xn_7 xc_7=>same (.slice x_4 xn_2 xc_2) (.slice x_10 xn_7 xc_7) (bnd (C Ay9 [.int .i64 ((xn_1:Nat):Int)] w2) fun r_3 w3=>aPtr r_3 fun x_11=>gSl (Addr.add c 0) w3 fun x_12 xn_8 xc_8=>same (.slice x_4 xn_2 xc_2) (.slice x_12 xn_8 xc_8) (bnd (C Ar5 [.slice x_4 xn_2 xc_2] w3) fun r_4 w4=>aPtr r_4 fun x_13=>nw (.cells D05 false [.slice x_5 xn_3 xc_3,.slice none 0 0,.pointer x_8,.pointer x_11,.pointer x_13,.pointer none,.slice none 0 0,.int .i64 0]) w4 fun b w5=>gPtr (Addr.add ⟨b,0,none⟩ 2) w5 fun x_14=>gPtr (Addr.add ⟨b,0,none⟩ 3) w5 fun x_15=>bnd (C B23 [.pointer x_14,.pointer x_15] w5) fun r_5 w6=>aPtr r_5 fun x_16=>pV (Addr.add ⟨b,0,none⟩ 5) (.pointer x_16) w6 fun w7=>gSl (Addr.add c 2) w7 fun x_17 xn_9 xc_9=>R H7 Br0 [(1,.pointer (some c)),(7,.pointer (some ⟨b,0,none⟩)),(58,.slice x_17 xn_9 xc_9),(59,.int .i64 ((xn_9:Nat):Int)),(60,.int .i64 0)] w7)))))):=by kernel_rfl
theorem Eg9 (C:A3) (R:A4) (c:Addr) (k:Addr) (x58:Option Addr) (x58n x58c:Nat) (x59:Int) (x60:Int) (h:H) :
 A6 PR A99 C R H7 Tryz.f51 100000 true Br0 [(1,.pointer (some c)),(7,.pointer (some k)),(58,.slice x58 x58n x58c),(59,.int .i64 x59),(60,.int .i64 x60)] h =
 cond (decide (x60<x59))
 (aSome x58 fun p=>ck ((0:Int)≤x60∧x60<((x58n:Nat):Int)) (gSl (Addr.add (B7 p) (Int.toNat x60*1)) h fun x xn xc=>gSl (Addr.add k 1) h fun x_1 xn_1 xc_1=>bnd (C W1 [.slice x xn xc] h) fun r w=>aSl r fun x_2 xn_2 xc_2=>gSl (Addr.add k 1) w fun x_3 xn_3 xc_3=>same (.slice x_1 xn_1 xc_1) (.slice x_3 xn_3 xc_3) (nw (.cells M9 false [.slice x_2 xn_2 xc_2]) w fun b w1=>gCells (some ⟨b,0,none⟩) (1*1) w1 fun cs=>ckB (fitsOpen x_1 M9 w1) (apd M9 1 x_1 xn_1 xc_1 1 cs w1 fun a an ac w2=>pV (Addr.add k 1) (.slice a an ac) w2 fun w3=>gSl (Addr.add k 6) w3 fun x_4 xn_4 xc_4=>gInt .i64 (Addr.add c 3) w3 fun x_5=>bnd (C Dl4 [.int .i64 x_5] w3) fun r_1 w4=>aPtr r_1 fun x_6=>gSl (Addr.add k 6) w4 fun x_7 xn_5 xc_5=>same (.slice x_4 xn_4 xc_4) (.slice x_7 xn_5 xc_5) (nw (.cells Aw4 false [.pointer x_6]) w4 fun b_1 w5=>gCells (some ⟨b_1,0,none⟩) (1*1) w5 fun cs_1=>ckB (fitsOpen x_4 Aw4 w5) (apd Aw4 1 x_4 xn_4 xc_4 1 cs_1 w5 fun a_1 an_1 ac_1 w6=>pV (Addr.add k 6) (.slice a_1 an_1 ac_1) w6 fun w7=>R H7 Br0 [(1,.pointer (some c)),(7,.pointer (some k)),(58,.slice x58 x58n x58c),(59,.int .i64 x59),(60,.int .i64 (IntKind.wrap .i64 (x60+1)))] w7))))))
 (gSl (Addr.add c 4) h fun x_8 xn_6 xc_6=>R H7 Bb8 [(7,.pointer (some k)),(89,.slice x_8 xn_6 xc_6),(90,.int .i64 ((xn_6:Nat):Int)),(91,.int .i64 0)] h):=by kernel_rfl
theorem Eh4 (C:A3) (R:A4) (k:Addr) (x89:Option Addr) (x89n x89c:Nat) (x90:Int) (x91:Int) (h:H) :
 A6 PR A99 C R H7 Tryz.f51 100000 true Bb8 [(7,.pointer (some k)),(89,.slice x89 x89n x89c),(90,.int .i64 x90),(91,.int .i64 x91)] h =
 cond (decide (x91<x90))
 (aSome x89 fun p=>ck ((0:Int)≤x91∧x91<((x89n:Nat):Int)) (gAgg (Addr.add (B7 p) (Int.toNat x91*5)) 5 h fun x=>nw (.cells I5 false [.int .i64 0,.int .i64 0,.int .i64 0,.int .i64 0,.slice none 0 0]) h fun b w=>ck (List.length x=5) (pAgg ⟨b,0,none⟩ x w fun w1=>gPtr (Addr.add k 5) w1 fun x_1=>gPtr (Addr.add k 4) w1 fun x_2=>gInt .i64 (Addr.add ⟨b,0,none⟩ 0) w1 fun x_3=>gInt .i64 (Addr.add ⟨b,0,none⟩ 1) w1 fun x_4=>gInt .i64 (Addr.add ⟨b,0,none⟩ 2) w1 fun x_5=>gInt .i64 (Addr.add ⟨b,0,none⟩ 3) w1 fun x_6=>bnd (C P3 [.pointer x_2,.int .i64 x_3] w1) fun r w2=>aInt .i64 r fun x_7=>gPtr (Addr.add k 5) w2 fun x_8=>same (.pointer x_1) (.pointer x_8) (gInt .i64 (Addr.add ⟨b,0,none⟩ 1) w2 fun x_9=>same (.int .i64 x_4) (.int .i64 x_9) (gInt .i64 (Addr.add ⟨b,0,none⟩ 2) w2 fun x_10=>same (.int .i64 x_5) (.int .i64 x_10) (gInt .i64 (Addr.add ⟨b,0,none⟩ 3) w2 fun x_11=>same (.int .i64 x_6) (.int .i64 x_11) (bnd (C Ao1 [.pointer x_1,.int .i64 (IntKind.wrap .i64 ((IntKind.wrap .i64 ((IntKind.wrap .i64 (x_7+x_4))*64))+x_5)),.int .i64 x_6] w2) fun r_1 w3=>as2 r_1 fun r_2 r_3=>aInt .i64 r_2 fun x_12=>aInt .i64 r_3 fun _=>gSl (Addr.add k 0) w3 fun x_14 xn xc=>R H7 Bb0 [(7,.pointer (some k)),(11,.pointer (some ⟨b,0,none⟩)),(12,.int .i64 x_12),(89,.slice x89 x89n x89c),(90,.int .i64 x90),(91,.int .i64 x91),(122,.slice x_14 xn xc),(123,.int .i64 ((xn:Nat):Int)),(124,.int .i64 0)] w3)))))))
 (some (.tuple ⟨[.pointer (some k),.int .i64 0]⟩,h)):=by kernel_rfl
theorem Eh3 (C:A3) (R:A4) (k:Addr) (x:Addr) (obj:Int) (x89:Option Addr) (x89n x89c:Nat) (x90:Int) (x91:Int) (x122:Option Addr) (x122n x122c:Nat) (x123:Int) (x124:Int) (h:H) :
 A6 PR A99 C R H7 Tryz.f51 100000 true Bb0 [(7,.pointer (some k)),(11,.pointer (some x)),(12,.int .i64 obj),(89,.slice x89 x89n x89c),(90,.int .i64 x90),(91,.int .i64 x91),(122,.slice x122 x122n x122c),(123,.int .i64 x123),(124,.int .i64 x124)] h =
 cond (decide (x124<x123))
 (aSome x122 fun p=>ck ((0:Int)≤x124∧x124<((x122n:Nat):Int)) (gInt .i64 (Addr.add (B7 p) (Int.toNat x124*1)) h fun x_1=>gSl (Addr.add x 4) h fun x_2 xn xc=>bnd (C N0 [.slice x_2 xn xc,.int .i64 x_1] h) fun r w=>aBool r fun x_3=>cond x_3
 (gPtr (Addr.add k 3) w fun x_4=>gInt .i64 (Addr.add x 3) w fun x_5=>bnd (C A70 [.pointer x_4,.int .i64 x124,.agg ⟨[.int .i64 obj,.int .i64 3,.int .i64 0,.int .i64 x_5,.int .i64 0,.int .i64 0]⟩] w) fun r_1 w1=>as2 r_1 fun r_2 r_3=>aInt .i64 r_2 fun _=>aInt .i64 r_3 fun _=>R H7 Bb0 [(7,.pointer (some k)),(11,.pointer (some x)),(12,.int .i64 obj),(89,.slice x89 x89n x89c),(90,.int .i64 x90),(91,.int .i64 x91),(122,.slice x122 x122n x122c),(123,.int .i64 x123),(124,.int .i64 (IntKind.wrap .i64 (x124+1)))] w1)
 (R H7 Bb0 [(7,.pointer (some k)),(11,.pointer (some x)),(12,.int .i64 obj),(89,.slice x89 x89n x89c),(90,.int .i64 x90),(91,.int .i64 x91),(122,.slice x122 x122n x122c),(123,.int .i64 x123),(124,.int .i64 (IntKind.wrap .i64 (x124+1)))] w)))
 (R H7 Bb8 [(7,.pointer (some k)),(89,.slice x89 x89n x89c),(90,.int .i64 x90),(91,.int .i64 (IntKind.wrap .i64 (x91+1)))] h):=by kernel_rfl
def As8:Cuts:={ globs:=0,loops:=[(4,[1,3,4]),(8,[1,3,5]),(13,[1,3,5,6,7,9])],regs:=[],plans:=[(1,⟨[0,1,2,3,4,5,6],[0,0,2,6,15,31,63],[(3,[0])],[]⟩),(2,⟨[0,1,2,3,4,5,6,7,11,12,13,8,9,10,14,15,16,17,18,19],[0,0,2,6,14,0,32,96,254,510,1022,0,2048,6144,14846,32766,65534,131071,262143,524287],[(8,[12])],[]⟩),(6,⟨[0,1,2,3,4,5,6,7,8,9,10,11,12],[0,0,2,6,14,0,32,96,224,510,1023,2047,4095],[(7,[4])],[]⟩),(11,⟨[0,1,2,3,4,5,6,7,8,9,11,12,15,16,18,19,10,13,14,17,20,21,22,23,24,25],[0,1,3,7,0,16,48,112,0,256,1008,0,2048,8176,16368,0,32768,131056,0,262144,1048575,2097151,4194303,4194303,8388607,33554431],[(10,[3,12,16,19])],[]⟩),(15,⟨[0,1,2,3,4,5,6,7],[0,1,0,4,0,28,60,127],[],[]⟩),(16,⟨[0,1,2,3,4,5,6,7,8,9,10,11,12],[0,1,3,7,15,31,63,0,0,0,512,1792,4095],[],[]⟩)] }
def A41:List Item:=A7 Tryz.f52
def A34:List Item:=stk [0,1,0,1,0,1,0,0,1,4,5] A41
def An6:List Item:=stk [0,1,0,1,0,1,0,1,0,0,1,4,5] A41
def An4:List Item:=stk [0,1,0,1,0,1,0,1,0,0,1,4,5,6,0,1,0,4,0,1,0,1,0,1,4,5] A41
theorem Gk7 (C:A3) (R:A4) (b:List Value) (h:H) :
 A6 PR As8 C R G0 Tryz.f52 100000 true A41 [(0,.agg ⟨b⟩)] h =
 nw (.cells D9 false b) h fun b_1 w=>gAgg ⟨b_1,0,none⟩ 5 w fun x=>gSl (Addr.add ⟨b_1,0,none⟩ 0) w fun x_1 xn xc=>bnd (C Z6 [.slice x_1 xn xc] w) fun r w1=>aPtr r fun x_2=>gAgg ⟨b_1,0,none⟩ 5 w1 fun x_3=>same (.agg ⟨x⟩) (.agg ⟨x_3⟩) (ck (List.length x=5) (nw (.cells Ez5 false (x++(.pointer x_2::(.pointer none::(.slice none 0 0::[.int .i64 0]))))) w1 fun b_2 w2=>gPtr (Addr.add ⟨b_2,0,none⟩ 5) w2 fun x_4=>gSl (Addr.add ⟨b_1,0,none⟩ 0) w2 fun _ xn_1 _=>gSl (Addr.add ⟨b_1,0,none⟩ 1) w2 fun x_6 xn_2 xc_2=>bnd (C N8 [.pointer x_4,.int .i64 ((xn_1:Nat):Int)] w2) fun r_1 w3=>aInt .i64 r_1 fun x_7=>gSl (Addr.add ⟨b_1,0,none⟩ 1) w3 fun x_8 xn_3 xc_3=>same (.slice x_6 xn_2 xc_2) (.slice x_8 xn_3 xc_3) (ck ((0:Int)≤IntKind.wrap .i64 (64*x_7)∧(IntKind.wrap .i64 (64*x_7):Int)≤IntKind.wrap .i64 (64*x_7)∧IntKind.wrap .i64 (64*x_7)≤(B4:Int)) (nw (.cells A5 false (H3 (Int.toNat (IntKind.wrap .i64 (64*x_7))) [.int .u8 0])) w3 fun b_3 w4=>bnd (C Z7 [.int .i64 ((xn_2:Nat):Int)] w4) fun r_2 w5=>aPtr r_2 fun x_9=>nw (.cells D55 false [.slice (some ⟨b_3,0,none⟩) (Int.toNat (IntKind.wrap .i64 (64*x_7))) (Int.toNat (IntKind.wrap .i64 (64*x_7))),.slice none 0 0,.slice none 0 0,.pointer x_9]) w5 fun b_4 w6=>pV (Addr.add ⟨b_2,0,none⟩ 6) (.pointer (some ⟨b_4,0,none⟩)) w6 fun w7=>R G0 A34 [(1,.pointer (some ⟨b_1,0,none⟩)),(3,.pointer (some ⟨b_2,0,none⟩)),(4,.int .i64 0)] w7)))):=by kernel_rfl
theorem Dh0 (C:A3) (R:A4) (b:Addr) (k:Addr) (i:Int) (h:H) :
 A6 PR As8 C R G0 Tryz.f52 100000 true A34 [(1,.pointer (some b)),(3,.pointer (some k)),(4,.int .i64 i)] h =
 gSl (Addr.add b 2) h fun _ xn _=>cond (decide (i<((xn:Nat):Int)))
 (gSl (Addr.add k 7) h fun x_1 xn_1 xc_1=>gInt .i64 (Addr.add b 3) h fun x_2=>bnd (C Bl8 [.int .i64 x_2] h) fun r w=>aPtr r fun x_3=>gSl (Addr.add k 7) w fun x_4 xn_2 xc_2=>same (.slice x_1 xn_1 xc_1) (.slice x_4 xn_2 xc_2) (nw (.cells Ba7 false [.pointer x_3]) w fun b_1 w1=>gCells (some ⟨b_1,0,none⟩) (1*1) w1 fun cs=>ckB (fitsOpen x_1 Ba7 w1) (apd Ba7 1 x_1 xn_1 xc_1 1 cs w1 fun a an ac w2=>pV (Addr.add k 7) (.slice a an ac) w2 fun w3=>R G0 A34 [(1,.pointer (some b)),(3,.pointer (some k)),(4,.int .i64 (IntKind.wrap .i64 (i+1)))] w3)))
 (R G0 An6 [(1,.pointer (some b)),(3,.pointer (some k)),(5,.int .i64 0)] h):=by kernel_rfl
theorem Dh1 (C:A3) (R:A4) (b:Addr) (k:Addr) (i:Int) (h:H) :
 A6 PR As8 C R G0 Tryz.f52 100000 true An6 [(1,.pointer (some b)),(3,.pointer (some k)),(5,.int .i64 i)] h =
 gSl (Addr.add b 4) h fun _ xn _=>cond (decide (i<((xn:Nat):Int)))
 (gSl (Addr.add b 4) h fun x_1 xn_1 _=>aSome x_1 fun p=>ck ((0:Int)≤i∧i<((xn_1:Nat):Int)) (gAgg (Addr.add (B7 p) (Int.toNat i*5)) 5 h fun x_2=>nw (.cells I5 false [.int .i64 0,.int .i64 0,.int .i64 0,.int .i64 0,.slice none 0 0]) h fun b_1 w=>ck (List.length x_2=5) (pAgg ⟨b_1,0,none⟩ x_2 w fun w1=>gPtr (Addr.add k 6) w1 fun x_3=>gPtr (Addr.add k 5) w1 fun x_4=>gInt .i64 (Addr.add ⟨b_1,0,none⟩ 0) w1 fun x_5=>gInt .i64 (Addr.add ⟨b_1,0,none⟩ 1) w1 fun x_6=>gInt .i64 (Addr.add ⟨b_1,0,none⟩ 2) w1 fun x_7=>gInt .i64 (Addr.add ⟨b_1,0,none⟩ 3) w1 fun x_8=>bnd (C N8 [.pointer x_4,.int .i64 x_5] w1) fun r w2=>aInt .i64 r fun x_9=>gPtr (Addr.add k 6) w2 fun x_10=>same (.pointer x_3) (.pointer x_10) (gInt .i64 (Addr.add ⟨b_1,0,none⟩ 1) w2 fun x_11=>same (.int .i64 x_6) (.int .i64 x_11) (gInt .i64 (Addr.add ⟨b_1,0,none⟩ 2) w2 fun x_12=>same (.int .i64 x_7) (.int .i64 x_12) (gInt .i64 (Addr.add ⟨b_1,0,none⟩ 3) w2 fun x_13=>same (.int .i64 x_8) (.int .i64 x_13) (bnd (C A00 [.pointer x_3,.int .i64 (IntKind.wrap .i64 ((IntKind.wrap .i64 (64*(IntKind.wrap .i64 (x_9+x_6))))+x_7)),.int .i64 x_8] w2) fun r_1 w3=>as2 r_1 fun r_2 r_3=>aInt .i64 r_2 fun x_14=>aInt .i64 r_3 fun _=>R G0 An4 [(1,.pointer (some b)),(3,.pointer (some k)),(5,.int .i64 i),(6,.pointer (some ⟨b_1,0,none⟩)),(7,.int .i64 x_14),(9,.int .i64 0)] w3)))))))
 (some (.pointer (some k),h)):=by kernel_rfl
theorem Dh4 (C:A3) (R:A4) (b:Addr) (k:Addr) (i:Int) (s:Addr) (obj:Int) (e:Int) (h:H) :
 A6 PR As8 C R G0 Tryz.f52 100000 true An4 [(1,.pointer (some b)),(3,.pointer (some k)),(5,.int .i64 i),(6,.pointer (some s)),(7,.int .i64 obj),(9,.int .i64 e)] h =
 gSl (Addr.add b 1) h fun _ xn _=>cond (decide (e<((xn:Nat):Int)))
 (gSl (Addr.add s 4) h fun x_1 xn_1 xc_1=>gSl (Addr.add b 1) h fun x_2 xn_2 _=>aSome x_2 fun p=>ck ((0:Int)≤e∧e<((xn_2:Nat):Int)) (gInt .i64 (Addr.add (B7 p) (Int.toNat e*1)) h fun x_3=>bnd (C A67 [.slice x_1 xn_1 xc_1,.int .i64 x_3] h) fun r w=>aBool r fun x_4=>cond x_4
 (gPtr (Addr.add k 6) w fun x_5=>aSome x_5 fun p_1=>gPtr (Addr.add p_1 3) w fun x_6=>gInt .i64 (Addr.add s 3) w fun x_7=>bnd (C A86 [.pointer x_6,.int .i64 e,.agg ⟨[.int .i64 obj,.int .i64 3,.int .i64 0,.int .i64 x_7,.int .i64 0,.int .i64 0]⟩] w) fun r_1 w1=>as2 r_1 fun r_2 r_3=>aInt .i64 r_2 fun _=>aInt .i64 r_3 fun _=>R G0 An4 [(1,.pointer (some b)),(3,.pointer (some k)),(5,.int .i64 i),(6,.pointer (some s)),(7,.int .i64 obj),(9,.int .i64 (IntKind.wrap .i64 (e+1)))] w1)
 (R G0 An4 [(1,.pointer (some b)),(3,.pointer (some k)),(5,.int .i64 i),(6,.pointer (some s)),(7,.int .i64 obj),(9,.int .i64 (IntKind.wrap .i64 (e+1)))] w)))
 (R G0 An6 [(1,.pointer (some b)),(3,.pointer (some k)),(5,.int .i64 (IntKind.wrap .i64 (i+1)))] h):=by kernel_rfl
def Bg7:Cuts:={ globs:=0,loops:=[],regs:=[],plans:=[] }
def Dc1:List Item:=A7 Tryz.f55
theorem El1 (C:A3) (R:A4) (k:Option Addr) (env:Int) (h:H) :
 A6 PR Bg7 C R Az5 Tryz.f55 100000 true Dc1 [(0,.pointer k),(1,.int .i64 env)] h =
 aSome k fun p=>gPtr (Addr.add p 6) h fun x=>aSome x fun p_1=>gPtr (Addr.add p_1 3) h fun x_1=>bnd (C A90 [.pointer x_1,.int .i64 env] h) fun r w=>aSl r fun x_2 xn xc=>cond (((xn:Nat):Int)==0)
 (some (.pointer none,w))
 (nw (.cells Dv9 false [.pointer k,.int .i64 env,.slice x_2 xn xc,.slice none 0 0]) w fun b w1=>some (.pointer (some ⟨b,0,none⟩),w1)):=by kernel_rfl
def Bm8:Cuts:={ globs:=0,loops:=[],regs:=[],plans:=[] }
def Dh5:List Item:=A7 Tryz.f56
theorem Ey7 (C:A3) (R:A4) (k:Option Addr) (h:H) :
 A6 PR Bm8 C R An5 Tryz.f56 100000 true Dh5 [(0,.pointer k)] h =
 aSome k fun p=>gPtr (Addr.add p 3) h fun x=>some (.pointer x,h):=by kernel_rfl
def Bg6:Cuts:={ globs:=0,loops:=[],regs:=[],plans:=[] }
def Dc9:List Item:=A7 Tryz.f57
theorem Ek0 (C:A3) (R:A4) (s:Option Addr) (env:Int) (h:H) :
 A6 PR Bg6 C R Ak2 Tryz.f57 100000 true Dc9 [(0,.pointer s),(1,.int .i64 env)] h =
 bnd (C Ae6 [.pointer s,.int .i64 env] h) fun r w=>aBool r fun x=>cond (!x)
 (some (.slice none 0 0,w))
 (aSome s fun p=>gSl (Addr.add p 0) w fun x_1 xn _=>aSome x_1 fun p_1=>ck ((0:Int)≤env∧env<((xn:Nat):Int)) (gPtr (Addr.add (B7 p_1) (Int.toNat env*1)) w fun x_2=>bnd (C E9 [.pointer x_2] w) fun r_1 w1=>aSl r_1 fun x_3 xn_1 xc_1=>some (.slice x_3 xn_1 xc_1,w1))):=by kernel_rfl
def A14:Cuts:={ globs:=0,loops:=[],regs:=[],plans:=[] }
def Bp4:List Item:=A7 Tryz.f63
theorem Dy5 (C:A3) (R:A4) (c:Option Addr) (kind:Int) (h:H) :
 A6 PR A14 C R Aa3 Tryz.f63 100000 true Bp4 [(0,.pointer c),(1,.int .i64 kind)] h =
 cond (kind==1)
 (some (.int .i64 8,h))
 (cond (kind==2)
 (some (.int .i64 12,h))
 (cond (kind==3)
 (aSome c fun p=>gSl (Addr.add p 2) h fun _ xn _=>some (.int .i64 (IntKind.wrap .i64 ((IntKind.wrap .i64 (4+((xn:Nat):Int)))-1)),h))
 (some (.int .i64 1,h)))):=by kernel_rfl
def Bi5:Cuts:={ globs:=0,loops:=[],regs:=[],plans:=[(3,⟨[0,1,2,3,4,5,6,7,8,9,10,11,12,13,14,15,16,17,18,19],[0,1,3,7,0,0,32,0,128,0,512,0,2048,0,8192,32767,65535,65535,262143,524287],[],[]⟩),(5,⟨[0,1,2,3,4,5,6,7,8,9,10,11],[0,1,3,7,0,0,32,127,255,255,1023,2047],[],[]⟩),(7,⟨[0,1,2,3,4,5,6,7,8,9,10,11,12,13,14,15],[0,1,3,7,0,16,48,112,0,496,1008,2047,4095,4095,16383,32767],[],[]⟩),(9,⟨[0,1,2,3,4,5,6,7,8,9,10,11,12,13,14,15],[0,1,3,7,0,16,48,112,0,496,1008,0,2048,8191,16383,32767],[],[]⟩)] }
def Db6:List Item:=A7 Tryz.f68
theorem Eq6 (C:A3) (R:A4) (k:Option Addr) (env:Int) (c:List Value) (h:H) :
 A6 PR Bi5 C R Ax2 Tryz.f68 100000 true Db6 [(0,.pointer k),(1,.int .i64 env),(2,.agg ⟨c⟩)] h =
 nw (.cells Az7 false c) h fun b w=>gInt .i64 (Addr.add ⟨b,0,none⟩ 0) w fun x=>cond (x==4)
 (aSome k fun p=>gPtr (Addr.add p 3) w fun x_1=>gInt .i64 (Addr.add ⟨b,0,none⟩ 1) w fun x_2=>gInt .i64 (Addr.add ⟨b,0,none⟩ 4) w fun x_3=>gInt .i64 (Addr.add ⟨b,0,none⟩ 5) w fun x_4=>gInt .i64 (Addr.add ⟨b,0,none⟩ 2) w fun x_5=>gInt .i64 (Addr.add ⟨b,0,none⟩ 3) w fun x_6=>bnd (C Ax4 [.pointer x_1,.int .i64 env,.int .i64 x_2,.int .i64 x_3,.int .i64 x_4,.int .i64 x_5,.int .i64 x_6] w) fun r w1=>as2 r fun r_1 r_2=>aInt .i64 r_1 fun x_7=>aInt .i64 r_2 fun x_8=>some (.tuple ⟨[.int .i64 x_7,.int .i64 x_8]⟩,w1))
 (cond (x==5)
 (aSome k fun p_1=>gPtr (Addr.add p_1 3) w fun x_9=>gInt .i64 (Addr.add ⟨b,0,none⟩ 1) w fun x_10=>bnd (C Ej3 [.pointer x_9,.int .i64 env,.int .i64 x_10] w) fun r_3 w2=>as2 r_3 fun r_4 r_5=>aInt .i64 r_4 fun x_11=>aInt .i64 r_5 fun x_12=>some (.tuple ⟨[.int .i64 x_11,.int .i64 x_12]⟩,w2))
 (cond (x==6)
 (aSome k fun p_2=>gPtr (Addr.add p_2 4) w fun x_13=>aSome k fun p_3=>gSl (Addr.add p_3 0) w fun x_14 xn _=>aSome x_14 fun p_4=>ck ((0:Int)≤env∧env<((xn:Nat):Int)) (gInt .i64 (Addr.add (B7 p_4) (Int.toNat env*1)) w fun x_15=>bnd (C Av1 [.pointer x_13,.int .i64 x_15] w) fun r_6 w3=>as2 r_6 fun r_7 r_8=>aInt .i64 r_7 fun x_16=>aInt .i64 r_8 fun x_17=>some (.tuple ⟨[.int .i64 x_16,.int .i64 x_17]⟩,w3)))
 (cond (x==7)
 (aSome k fun p_5=>gPtr (Addr.add p_5 4) w fun x_18=>aSome k fun p_6=>gSl (Addr.add p_6 0) w fun x_19 xn_1 _=>aSome x_19 fun p_7=>ck ((0:Int)≤env∧env<((xn_1:Nat):Int)) (gInt .i64 (Addr.add (B7 p_7) (Int.toNat env*1)) w fun x_20=>gInt .i64 (Addr.add ⟨b,0,none⟩ 3) w fun x_21=>bnd (C Az2 [.pointer x_18,.int .i64 x_20,.int .i64 x_21] w) fun r_9 w4=>aInt .i64 r_9 fun x_22=>some (.tuple ⟨[.int .i64 0,.int .i64 x_22]⟩,w4)))
 (cond (x==8)
 (gAgg ⟨b,0,none⟩ 7 w fun x_23=>bnd (C A30 [.pointer k,.int .i64 env,.agg ⟨x_23⟩] w) fun r_10 w5=>as2 r_10 fun r_11 r_12=>aInt .i64 r_11 fun x_24=>aInt .i64 r_12 fun x_25=>some (.tuple ⟨[.int .i64 x_24,.int .i64 x_25]⟩,w5))
 (cond (x==9)
 (gAgg ⟨b,0,none⟩ 7 w fun x_26=>bnd (C A28 [.pointer k,.int .i64 env,.agg ⟨x_26⟩] w) fun r_13 w6=>aInt .i64 r_13 fun x_27=>some (.tuple ⟨[.int .i64 0,.int .i64 x_27]⟩,w6))
 (cond (x==10)
 (aSome k fun p_8=>gInt .i64 (Addr.add p_8 7) w fun x_28=>some (.tuple ⟨[.int .i64 x_28,.int .i64 0]⟩,w))
 (some (.tuple ⟨[.int .i64 0,.int .i64 7]⟩,w)))))))):=by kernel_rfl
def B93:Cuts:={ globs:=0,loops:=[],regs:=[],plans:=[] }
def D77:List Item:=A7 Tryz.f75
theorem Gg5 (C:A3) (R:A4) (i:Int) (h:H) :
 A6 PR B93 C R As4 Tryz.f75 100000 true D77 [(0,.int .i64 i)] h =
 nw (.cells D7 false [.int .i64 0,.int .i64 0]) h fun b w=>pAgg ⟨b,0,none⟩ [.int .i64 2,.int .i64 i] w fun w1=>gAgg ⟨b,0,none⟩ 2 w1 fun x=>some (.agg ⟨x⟩,w1):=by kernel_rfl
def B64:Cuts:={ globs:=0,loops:=[],regs:=[],plans:=[] }
def D57:List Item:=A7 Tryz.f79
theorem Gi1 (C:A3) (R:A4) (m:Option Addr) (atv:Int) (n:Int) (h:H) :
 A6 PR B64 C R Bl0 Tryz.f79 100000 true D57 [(0,.pointer m),(1,.int .i64 atv),(2,.int .i64 n)] h =
 bnd (C Bh6 [.pointer m,.int .i64 atv,.int .i64 n] h) fun r w=>aBool r fun x=>cond (!x)
 (some (.tuple ⟨[.slice none 0 0,.int .i64 1]⟩,w))
 (aSome m fun p=>gSl (Addr.add p 0) w fun x_1 _ xc=>ckB (fitsOpen x_1 A5 w) (ck ((0:Int)≤IntKind.wrap .i64 (atv+n)∧IntKind.wrap .i64 (atv+n)≤((xc:Nat):Int)) (ck ((0:Int)≤atv∧atv≤((Int.toNat (IntKind.wrap .i64 (atv+n)):Nat):Int)) (bnd (C G3 [.slice (H2 x_1 (decide (Int.toNat atv<xc)) ((Int.toNat atv)*1)) ((Int.toNat (IntKind.wrap .i64 (atv+n)))-(Int.toNat atv)) (xc-(Int.toNat atv))] w) fun r_1 w1=>aSl r_1 fun x_2 xn_1 xc_1=>some (.tuple ⟨[.slice x_2 xn_1 xc_1,.int .i64 0]⟩,w1))))):=by kernel_rfl
def Dy4:Cuts:={ globs:=0,loops:=[],regs:=[],plans:=[] }
def E03:List Item:=A7 Tryz.f80
theorem G89 (C:A3) (R:A4) (e:Int) (h:H) :
 A6 PR Dy4 C R Ab1 Tryz.f80 100000 true E03 [(0,.int .i64 e)] h =
 nw (.cells Z4 false [.int .i64 0,.int .i64 0,.slice none 0 0,.bool false]) h fun b w=>pAgg ⟨b,0,none⟩ [.int .i64 0,.int .i64 e,.slice none 0 0,.bool false] w fun w1=>gAgg ⟨b,0,none⟩ 4 w1 fun x=>some (.agg ⟨x⟩,w1):=by kernel_rfl
def A44:Cuts:={ globs:=0,loops:=[(3,[0,3,5,17,18]),(9,[0,5,31,32]),(19,[0,57,58])],regs:=[],plans:=[(15,⟨[0,1,2,3,4,5,6,7,8],[0,1,0,4,12,28,63,127,255],[],[]⟩)] }
def Bj1:List Item:=A7 Tryz.f82
def Az0:List Item:=stk [0,1,0,1,0,0,1,4,5] Bj1
def Al6:List Item:=stk [0,1,0,1,0,1,0,0,1,4,5] Bj1
def Am3:List Item:=stk [0,1,0,1,0,1,0,1,0,0,1,4,5] Bj1
theorem Gv8 (C:A3) (R:A4) (c:Option Addr) (p:List Value) (h:H) :
 A6 PR A44 C R G2 Tryz.f82 100000 true Bj1 [(0,.pointer c),(1,.agg ⟨p⟩)] h =
 nw (.cells D2 false p) h fun b w=>nw (.cells Ee3 false [.int .i64 0,.int .i64 0,.int .i64 0,.int .i64 0,.int .i64 0,.int .i64 0,.int .i64 0,.int .i64 0,.int .i64 0,.int .i64 0,.int .i64 0,.int .i64 0]) w fun b_1 w1=>gAgg (Addr.add ⟨b,0,none⟩ 8) 8 w1 fun x=>R G2 Az0 [(0,.pointer c),(3,.pointer (some ⟨b,0,none⟩)),(5,.pointer (some ⟨b_1,0,none⟩)),(17,.agg ⟨x⟩),(18,.int .i64 0)] w1:=by kernel_rfl
theorem Dx0 (C:A3) (R:A4) (c:Option Addr) (p:Addr) (more:Addr) (x17:List Value) (x18:Int) (h:H) :
 A6 PR A44 C R G2 Tryz.f82 100000 true Az0 [(0,.pointer c),(3,.pointer (some p)),(5,.pointer (some more)),(17,.agg ⟨x17⟩),(18,.int .i64 x18)] h =
 cond (decide (x18<8))
 (ck ((0:Int)≤x18∧x18<((8:Nat):Int)) (nth x17 (Int.toNat x18*1) fun x=>aInt .i64 x fun x_1=>cond (decide (x_1>0))
 (ck ((0:Int)≤IntKind.wrap .i64 (x_1-1)∧IntKind.wrap .i64 (x_1-1)<((12:Nat):Int)) (gInt .i64 (Addr.add more (Int.toNat (IntKind.wrap .i64 (x_1-1))*1)) h fun x_2=>ck ((0:Int)≤IntKind.wrap .i64 (x_1-1)∧IntKind.wrap .i64 (x_1-1)<((12:Nat):Int)) (pV (Addr.add more (Int.toNat (IntKind.wrap .i64 (x_1-1))*1)) (.int .i64 (IntKind.wrap .i64 (x_2+1))) h fun w=>R G2 Az0 [(0,.pointer c),(3,.pointer (some p)),(5,.pointer (some more)),(17,.agg ⟨x17⟩),(18,.int .i64 (IntKind.wrap .i64 (x18+1)))] w)))
 (R G2 Az0 [(0,.pointer c),(3,.pointer (some p)),(5,.pointer (some more)),(17,.agg ⟨x17⟩),(18,.int .i64 (IntKind.wrap .i64 (x18+1)))] h)))
 (gAgg (Addr.add p 8) 8 h fun x_3=>R G2 Al6 [(0,.pointer c),(5,.pointer (some more)),(31,.agg ⟨x_3⟩),(32,.int .i64 0)] h):=by kernel_rfl
theorem Dw0 (C:A3) (R:A4) (c:Option Addr) (more:Addr) (x31:List Value) (x32:Int) (h:H) :
 A6 PR A44 C R G2 Tryz.f82 100000 true Al6 [(0,.pointer c),(5,.pointer (some more)),(31,.agg ⟨x31⟩),(32,.int .i64 x32)] h =
 cond (decide (x32<8))
 (ck ((0:Int)≤x32∧x32<((8:Nat):Int)) (nth x31 (Int.toNat x32*1) fun x=>aInt .i64 x fun x_1=>cond (x_1==0)
 (R G2 Al6 [(0,.pointer c),(5,.pointer (some more)),(31,.agg ⟨x31⟩),(32,.int .i64 (IntKind.wrap .i64 (x32+1)))] h)
 (bnd (C L5 [.pointer c,.int .i64 (IntKind.wrap .i64 (x_1-1))] h) fun r w=>as2 r fun r_1 r_2=>aAgg r_1 fun x_2=>aInt .i64 r_2 fun x_3=>nw (.cells H8 false [.int .i64 0,.int .i64 0,.int .i64 0,.int .i64 0]) w fun b w1=>ck (List.length x_2=4) (pAgg ⟨b,0,none⟩ x_2 w1 fun w2=>cond (x_3 != 1)
 (some (.int .i64 105,w2))
 (gInt .i64 (Addr.add ⟨b,0,none⟩ 2) w2 fun x_4=>ck ((0:Int)≤IntKind.wrap .i64 (x_1-1)∧IntKind.wrap .i64 (x_1-1)<((12:Nat):Int)) (gInt .i64 (Addr.add more (Int.toNat (IntKind.wrap .i64 (x_1-1))*1)) w2 fun x_5=>cond (decide ((IntKind.wrap .i64 (x_4+x_5))>64))
 (some (.int .i64 123,w2))
 (R G2 Al6 [(0,.pointer c),(5,.pointer (some more)),(31,.agg ⟨x31⟩),(32,.int .i64 (IntKind.wrap .i64 (x32+1)))] w2)))))))
 (gAgg more 12 h fun x_6=>R G2 Am3 [(0,.pointer c),(57,.agg ⟨x_6⟩),(58,.int .i64 0)] h):=by kernel_rfl
theorem Du2 (C:A3) (R:A4) (c:Option Addr) (x57:List Value) (x58:Int) (h:H) :
 A6 PR A44 C R G2 Tryz.f82 100000 true Am3 [(0,.pointer c),(57,.agg ⟨x57⟩),(58,.int .i64 x58)] h =
 cond (decide (x58<12))
 (ck ((0:Int)≤x58∧x58<((12:Nat):Int)) (nth x57 (Int.toNat x58*1) fun x=>aInt .i64 x fun x_1=>cond (x_1==0)
 (R G2 Am3 [(0,.pointer c),(57,.agg ⟨x57⟩),(58,.int .i64 (IntKind.wrap .i64 (x58+1)))] h)
 (bnd (C L5 [.pointer c,.int .i64 x58] h) fun r w=>as2 r fun r_1 r_2=>aAgg r_1 fun x_2=>aInt .i64 r_2 fun _=>nw (.cells H8 false [.int .i64 0,.int .i64 0,.int .i64 0,.int .i64 0]) w fun b w1=>ck (List.length x_2=4) (pAgg ⟨b,0,none⟩ x_2 w1 fun w2=>gInt .i64 (Addr.add ⟨b,0,none⟩ 2) w2 fun x_4=>pV (Addr.add ⟨b,0,none⟩ 2) (.int .i64 (IntKind.wrap .i64 (x_4+x_1))) w2 fun w3=>gAgg ⟨b,0,none⟩ 4 w3 fun x_5=>bnd (C U2 [.pointer c,.int .i64 x58,.agg ⟨x_5⟩] w3) fun r_3 w4=>aBool r_3 fun x_6=>cond (!x_6)
 (some (.int .i64 105,w4))
 (R G2 Am3 [(0,.pointer c),(57,.agg ⟨x57⟩),(58,.int .i64 (IntKind.wrap .i64 (x58+1)))] w4)))))
 (some (.int .i64 0,h)):=by kernel_rfl
def Bf3:Cuts:={ globs:=0,loops:=[(4,[0,1,4,19,20])],regs:=[],plans:=[] }
def Bz9:List Item:=A7 Tryz.f86
def Ak5:List Item:=stk [0,1,0,1,0,1,0,0,1,4,5] Bz9
theorem Gd2 (C:A3) (R:A4) (c:Option Addr) (i:Int) (h:H) :
 A6 PR Bf3 C R U5 Tryz.f86 100000 true Bz9 [(0,.pointer c),(1,.int .i64 i)] h =
 bnd (C D1 [.pointer c] h) fun r w=>as0 r (bnd (C E2 [.pointer c,.int .i64 i] w) fun r_1 w1=>as2 r_1 fun r_2 r_3=>aAgg r_2 fun x=>aInt .i64 r_3 fun x_1=>nw (.cells D2 false [.int .i64 0,.int .i64 0,.int .i64 0,.int .i64 0,.int .i64 0,.int .i64 0,.int .i64 0,.int .i64 0,.int .i64 0,.int .i64 0,.int .i64 0,.int .i64 0,.int .i64 0,.int .i64 0,.int .i64 0,.int .i64 0]) w1 fun b w2=>ck (List.length x=16) (pAgg ⟨b,0,none⟩ x w2 fun w3=>cond (x_1 != 1)
 (some (.tuple ⟨[]⟩,w3))
 (gAgg (Addr.add ⟨b,0,none⟩ 8) 8 w3 fun x_2=>R U5 Ak5 [(0,.pointer c),(1,.int .i64 i),(4,.pointer (some ⟨b,0,none⟩)),(19,.agg ⟨x_2⟩),(20,.int .i64 0)] w3))):=by kernel_rfl
theorem Dc3 (C:A3) (R:A4) (c:Option Addr) (i:Int) (p:Addr) (x19:List Value) (x20:Int) (h:H) :
 A6 PR Bf3 C R U5 Tryz.f86 100000 true Ak5 [(0,.pointer c),(1,.int .i64 i),(4,.pointer (some p)),(19,.agg ⟨x19⟩),(20,.int .i64 x20)] h =
 cond (decide (x20<8))
 (ck ((0:Int)≤x20∧x20<((8:Nat):Int)) (nth x19 (Int.toNat x20*1) fun x=>aInt .i64 x fun x_1=>cond (decide (x_1>0))
 (bnd (C W2 [.pointer c,.int .i64 (IntKind.wrap .i64 (x_1-1))] h) fun r w=>aInt .i64 r fun _=>R U5 Ak5 [(0,.pointer c),(1,.int .i64 i),(4,.pointer (some p)),(19,.agg ⟨x19⟩),(20,.int .i64 (IntKind.wrap .i64 (x20+1)))] w)
 (R U5 Ak5 [(0,.pointer c),(1,.int .i64 i),(4,.pointer (some p)),(19,.agg ⟨x19⟩),(20,.int .i64 (IntKind.wrap .i64 (x20+1)))] h)))
 (pAgg (Addr.add p 8) [.int .i64 0,.int .i64 0,.int .i64 0,.int .i64 0,.int .i64 0,.int .i64 0,.int .i64 0,.int .i64 0] h fun w1=>gAgg p 16 w1 fun x_3=>bnd (C J9 [.pointer c,.int .i64 i,.agg ⟨x_3⟩] w1) fun r_1 w2=>aBool r_1 fun _=>some (.tuple ⟨[]⟩,w2)):=by kernel_rfl
def A96:Cuts:={ globs:=0,loops:=[],regs:=[(18,[0,5,7])],plans:=[] }
def Bu1:List Item:=A7 Tryz.f107
def Au9:List Item:=stk [0,1,0,1,0,1,0,1,0,1,0,1,0,1,0,1,0,1,0,1,0,0] Bu1
theorem E43 (C:A3) (R:A4) (c:Option Addr) (f:Int) (h:H) :
 A6 PR A96 C R W2 Tryz.f107 100000 true Bu1 [(0,.pointer c),(1,.int .i64 f)] h =
 bnd (C D1 [.pointer c] h) fun r w=>as0 r (bnd (C L5 [.pointer c,.int .i64 f] w) fun r_1 w1=>as2 r_1 fun r_2 r_3=>aAgg r_2 fun x=>aInt .i64 r_3 fun x_1=>nw (.cells H8 false [.int .i64 0,.int .i64 0,.int .i64 0,.int .i64 0]) w1 fun b w2=>ck (List.length x=4) (pAgg ⟨b,0,none⟩ x w2 fun w3=>cond (x_1 != 1)
 (some (.int .i64 105,w3))
 (gInt .i64 (Addr.add ⟨b,0,none⟩ 2) w3 fun x_2=>pV (Addr.add ⟨b,0,none⟩ 2) (.int .i64 (IntKind.wrap .i64 (x_2-1))) w3 fun w4=>gInt .i64 (Addr.add ⟨b,0,none⟩ 2) w4 fun x_3=>cond (decide (x_3>0))
 (gAgg ⟨b,0,none⟩ 4 w4 fun x_4=>bnd (C U2 [.pointer c,.int .i64 f,.agg ⟨x_4⟩] w4) fun r_4 w5=>aBool r_4 fun x_5=>bnd (C Aa9 [.bool x_5,.int .i64 0] w5) fun r_5 w6=>aAgg r_5 fun x_6=>nth x_6 1 fun E=>aInt .i64 E fun E_1=>some (.int .i64 E_1,w6))
 (bnd (C Ab4 [.pointer c,.int .i64 f] w4) fun r_6 w7=>aBool r_6 fun x_7=>cond (!x_7)
 (some (.int .i64 105,w7))
 (gInt .i64 (Addr.add ⟨b,0,none⟩ 0) w7 fun x_8=>cond (x_8==3)
 (some (.int .i64 0,w7))
 (gInt .i64 (Addr.add ⟨b,0,none⟩ 1) w7 fun x_9=>bnd (C Aa2 [.pointer c,.int .i64 x_9] w7) fun r_7 w8=>as2 r_7 fun r_8 r_9=>aAgg r_8 fun x_10=>aInt .i64 r_9 fun x_11=>nw (.cells I4 false [.int .i64 0,.int .i64 0,.int .i64 0,.int .i64 0,.int .u8 0,.int .u8 0,.int .u8 0,.int .u8 0,.int .u8 0,.int .u8 0,.int .u8 0,.int .u8 0,.int .u8 0,.int .u8 0,.int .u8 0,.int .u8 0,.int .u8 0,.int .u8 0,.int .u8 0,.int .u8 0,.int .u8 0,.int .u8 0,.int .u8 0,.int .u8 0,.int .u8 0,.int .u8 0,.int .u8 0,.int .u8 0,.int .u8 0,.int .u8 0,.int .u8 0,.int .u8 0,.int .u8 0,.int .u8 0,.int .u8 0,.int .u8 0]) w8 fun b_1 w9=>ck (List.length x_10=36) (pAgg ⟨b_1,0,none⟩ x_10 w9 fun w10=>cond (x_11 != 1)
 (some (.int .i64 105,w10))
 (gInt .i64 (Addr.add ⟨b,0,none⟩ 0) w10 fun x_12=>cond (x_12==1)
 (gInt .i64 (Addr.add ⟨b_1,0,none⟩ 2) w10 fun x_13=>pV (Addr.add ⟨b_1,0,none⟩ 2) (.int .i64 (mm2 true (IntKind.wrap .i64 (x_13-1)) 0)) w10 fun w11=>R W2 Au9 [(0,.pointer c),(5,.pointer (some ⟨b,0,none⟩)),(7,.pointer (some ⟨b_1,0,none⟩))] w11)
 (gInt .i64 (Addr.add ⟨b_1,0,none⟩ 3) w10 fun x_14=>pV (Addr.add ⟨b_1,0,none⟩ 3) (.int .i64 (mm2 true (IntKind.wrap .i64 (x_14-1)) 0)) w10 fun w12=>R W2 Au9 [(0,.pointer c),(5,.pointer (some ⟨b,0,none⟩)),(7,.pointer (some ⟨b_1,0,none⟩))] w12))))))))):=by kernel_rfl
theorem Ei8 (C:A3) (R:A4) (c:Option Addr) (x:Addr) (p:Addr) (h:H) :
 A6 PR A96 C R W2 Tryz.f107 100000 true Au9 [(0,.pointer c),(5,.pointer (some x)),(7,.pointer (some p))] h =
 gInt .i64 (Addr.add p 2) h fun x_1=>gInt .i64 (Addr.add p 3) h fun x_2=>bnd (cond ((IntKind.wrap .i64 (x_1+x_2))==0) (gInt .i64 (Addr.add x 1) h fun x_3=>some (decide (x_3<4),h)) (some (false,h))) fun c_1 w=>cond c_1
 (gInt .i64 (Addr.add x 1) w fun x_4=>bnd (C Ab7 [.pointer c,.int .i64 x_4] w) fun r w1=>aBool r fun x_5=>bnd (C Aa9 [.bool x_5,.int .i64 0] w1) fun r_1 w2=>aAgg r_1 fun x_6=>nth x_6 1 fun E=>aInt .i64 E fun E_1=>some (.int .i64 E_1,w2))
 (gInt .i64 (Addr.add x 1) w fun x_7=>gAgg p 36 w fun x_8=>bnd (C Ac8 [.pointer c,.int .i64 x_7,.agg ⟨x_8⟩] w) fun r_2 w3=>aBool r_2 fun x_9=>bnd (C Aa9 [.bool x_9,.int .i64 0] w3) fun r_3 w4=>aAgg r_3 fun x_10=>nth x_10 1 fun E_2=>aInt .i64 E_2 fun E_3=>some (.int .i64 E_3,w4)):=by kernel_rfl
def Bg4:Cuts:={ globs:=0,loops:=[(7,[1,3,52,53,54]),(13,[1,3,63,64,65])],regs:=[],plans:=[] }
def B22:List Item:=A7 Tryz.f110
def Bf7:List Item:=stk [0,1,0,1,0,1,0,1,0,0,1,4,5] B22
def Bf8:List Item:=stk [0,1,0,1,0,1,0,1,0,1,0,0,1,4,5] B22
theorem G08 (C:A3) (R:A4) (c:List Value) (h:H) :
 A6 PR Bg4 C R R0 Tryz.f110 100000 true B22 [(0,.agg ⟨c⟩)] h =
 nw (.cells D9 false c) h fun b w=>gSl (Addr.add ⟨b,0,none⟩ 0) w fun _ xn _=>bnd (cond (decide (((xn:Nat):Int)<1)) (some (true,w)) (gSl (Addr.add ⟨b,0,none⟩ 0) w fun _ xn_1 _=>some (decide (((xn_1:Nat):Int)>4),w))) fun c_1 w1=>bnd (cond c_1 (some (true,w1)) (gSl (Addr.add ⟨b,0,none⟩ 1) w1 fun _ xn_2 _=>some (decide (((xn_2:Nat):Int)>40),w1))) fun c_2 w2=>bnd (cond c_2 (some (true,w2)) (gSl (Addr.add ⟨b,0,none⟩ 2) w2 fun _ xn_3 _=>some (decide (((xn_3:Nat):Int)>8),w2))) fun c_3 w3=>bnd (cond c_3 (some (true,w3)) (gSl (Addr.add ⟨b,0,none⟩ 4) w3 fun _ xn_4 _=>some (decide (((xn_4:Nat):Int)>16),w3))) fun c_4 w4=>bnd (cond c_4 (some (true,w4)) (gInt .i64 (Addr.add ⟨b,0,none⟩ 3) w4 fun x_5=>some (decide (x_5<1),w4))) fun c_5 w5=>bnd (cond c_5 (some (true,w5)) (gInt .i64 (Addr.add ⟨b,0,none⟩ 3) w5 fun x_6=>some (decide (x_6>1000),w5))) fun c_6 w6=>cond c_6
 (some (.bool false,w6))
 (gSl (Addr.add ⟨b,0,none⟩ 1) w6 fun x_7 xn_5 xc_5=>bnd (C E5 [.slice x_7 xn_5 xc_5,.func (.func G7) ⟨[]⟩ ⟨[.pointer (some ⟨b,0,none⟩)]⟩] w6) fun r w7=>aBool r fun x_8=>cond x_8
 (some (.bool false,w7))
 (gSl (Addr.add ⟨b,0,none⟩ 2) w7 fun x_9 xn_6 xc_6=>R R0 Bf7 [(1,.pointer (some ⟨b,0,none⟩)),(3,.func (.func G7) ⟨[]⟩ ⟨[.pointer (some ⟨b,0,none⟩)]⟩),(52,.slice x_9 xn_6 xc_6),(53,.int .i64 ((xn_6:Nat):Int)),(54,.int .i64 0)] w7)):=by kernel_rfl
theorem Dx4 (C:A3) (R:A4) (c:Addr) (nonev:Addr) (x52:Option Addr) (x52n x52c:Nat) (x53:Int) (x54:Int) (h:H) :
 A6 PR Bg4 C R R0 Tryz.f110 100000 true Bf7 [(1,.pointer (some c)),(3,.func (.func G7) ⟨[]⟩ ⟨[.pointer (some nonev)]⟩),(52,.slice x52 x52n x52c),(53,.int .i64 x53),(54,.int .i64 x54)] h =
 cond (decide (x54<x53))
 (aSome x52 fun p=>ck ((0:Int)≤x54∧x54<((x52n:Nat):Int)) (gSl (Addr.add (B7 p) (Int.toNat x54*1)) h fun x xn xc=>bnd (C E5 [.slice x xn xc,.func (.func G7) ⟨[]⟩ ⟨[.pointer (some nonev)]⟩] h) fun r w=>aBool r fun x_1=>cond x_1
 (some (.bool false,w))
 (R R0 Bf7 [(1,.pointer (some c)),(3,.func (.func G7) ⟨[]⟩ ⟨[.pointer (some nonev)]⟩),(52,.slice x52 x52n x52c),(53,.int .i64 x53),(54,.int .i64 (IntKind.wrap .i64 (x54+1)))] w)))
 (gSl (Addr.add c 4) h fun x_2 xn_1 xc_1=>R R0 Bf8 [(1,.pointer (some c)),(3,.func (.func G7) ⟨[]⟩ ⟨[.pointer (some nonev)]⟩),(63,.slice x_2 xn_1 xc_1),(64,.int .i64 ((xn_1:Nat):Int)),(65,.int .i64 0)] h):=by kernel_rfl
theorem Dv3 (C:A3) (R:A4) (c:Addr) (nonev:Addr) (x63:Option Addr) (x63n x63c:Nat) (x64:Int) (x65:Int) (h:H) :
 A6 PR Bg4 C R R0 Tryz.f110 100000 true Bf8 [(1,.pointer (some c)),(3,.func (.func G7) ⟨[]⟩ ⟨[.pointer (some nonev)]⟩),(63,.slice x63 x63n x63c),(64,.int .i64 x64),(65,.int .i64 x65)] h =
 cond (decide (x65<x64))
 (aSome x63 fun p=>ck ((0:Int)≤x65∧x65<((x63n:Nat):Int)) (gAgg (Addr.add (B7 p) (Int.toNat x65*5)) 5 h fun x=>nw (.cells I5 false [.int .i64 0,.int .i64 0,.int .i64 0,.int .i64 0,.slice none 0 0]) h fun b w=>ck (List.length x=5) (pAgg ⟨b,0,none⟩ x w fun w1=>gAgg c 5 w1 fun x_1=>gAgg ⟨b,0,none⟩ 5 w1 fun x_2=>bnd (C B18 [.agg ⟨x_1⟩,.agg ⟨x_2⟩] w1) fun r w2=>aBool r fun x_3=>bnd (cond (!x_3) (some (true,w2)) (gSl (Addr.add ⟨b,0,none⟩ 4) w2 fun x_4 xn xc=>bnd (C E5 [.slice x_4 xn xc,.func (.func G7) ⟨[]⟩ ⟨[.pointer (some nonev)]⟩] w2) fun r_1 w3=>aBool r_1 fun x_5=>some (x_5,w3))) fun c_1 w4=>cond c_1
 (some (.bool false,w4))
 (R R0 Bf8 [(1,.pointer (some c)),(3,.func (.func G7) ⟨[]⟩ ⟨[.pointer (some nonev)]⟩),(63,.slice x63 x63n x63c),(64,.int .i64 x64),(65,.int .i64 (IntKind.wrap .i64 (x65+1)))] w4))))
 (some (.bool true,h)):=by kernel_rfl
def Be6:Cuts:={ globs:=0,loops:=[(3,[0,3,4])],regs:=[],plans:=[(5,⟨[0,1,2,3,4,5,6,7,8,9,10,11,12,13,14,15,16],[0,0,2,6,14,0,0,96,224,480,992,2016,4064,8190,16383,32767,65535],[],[]⟩)] }
def By2:List Item:=A7 Tryz.f122
def Ax1:List Item:=stk [0,1,0,1,0,0,1,4,5] By2
theorem Ga6 (C:A3) (R:A4) (l:Option Addr) (ln lc:Nat) (h:H) :
 A6 PR Be6 C R Z6 Tryz.f122 100000 true By2 [(0,.slice l ln lc)] h =
 nw (.cells Ek5 false [.slice none 0 0]) h fun b w=>R Z6 Ax1 [(0,.slice l ln lc),(3,.pointer (some ⟨b,0,none⟩)),(4,.int .i64 0)] w:=by kernel_rfl
theorem Dd6 (C:A3) (R:A4) (l:Option Addr) (ln lc:Nat) (q:Addr) (i:Int) (h:H) :
 A6 PR Be6 C R Z6 Tryz.f122 100000 true Ax1 [(0,.slice l ln lc),(3,.pointer (some q)),(4,.int .i64 i)] h =
 bnd (cond (decide (i<((ln:Nat):Int))) (some (decide (i<4),h)) (some (false,h))) fun c w=>cond c
 (gSl (Addr.add q 0) w fun x xn xc=>aSome l fun p=>ck ((0:Int)≤i∧i<((ln:Nat):Int)) (gInt .i64 (Addr.add (B7 p) (Int.toNat i*1)) w fun x_1=>ck ((0:Int)≤mm2 false (mm2 true x_1 0) 64∧(mm2 false (mm2 true x_1 0) 64:Int)≤mm2 false (mm2 true x_1 0) 64∧mm2 false (mm2 true x_1 0) 64≤(B4:Int)) (nw (.cells D39 false (H3 (Int.toNat (mm2 false (mm2 true x_1 0) 64)) [.bool false])) w fun b w1=>nw (.cells Dn3 false [.slice (some ⟨b,0,none⟩) (Int.toNat (mm2 false (mm2 true x_1 0) 64)) (Int.toNat (mm2 false (mm2 true x_1 0) 64))]) w1 fun b_1 w2=>gCells (some ⟨b_1,0,none⟩) (1*1) w2 fun cs=>ckB (fitsOpen x Dn3 w2) (apd Dn3 1 x xn xc 1 cs w2 fun a an ac w3=>pV (Addr.add q 0) (.slice a an ac) w3 fun w4=>R Z6 Ax1 [(0,.slice l ln lc),(3,.pointer (some q)),(4,.int .i64 (IntKind.wrap .i64 (i+1)))] w4))))
 (some (.pointer (some q),w)):=by kernel_rfl
def Bg3:Cuts:={ globs:=0,loops:=[],regs:=[],plans:=[(5,⟨[0,1,2,3,4,5,6,7,9,10,11,12,13,14,8,15,16,17,18,19,20,21],[0,0,0,4,12,28,0,64,252,0,512,1536,3584,0,8192,32764,65533,131069,262141,524287,1048575,2097151],[(8,[12])],[]⟩)] }
def Dc0:List Item:=A7 Tryz.f126
theorem Eo5 (C:A3) (R:A4) (r:Option Addr) (lo:Int) (n:Int) (h:H) :
 A6 PR Bg3 C R A00 Tryz.f126 100000 true Dc0 [(0,.pointer r),(1,.int .i64 lo),(2,.int .i64 n)] h =
 aSome r fun p=>gSl (Addr.add p 0) h fun _ xn _=>bnd (C Af8 [.int .i64 lo,.int .i64 n,.int .i64 ((xn:Nat):Int)] h) fun r_1 w=>aBool r_1 fun x_1=>cond (!x_1)
 (some (.tuple ⟨[.int .i64 0,.int .i64 1]⟩,w))
 (aSome r fun p_1=>gSl (Addr.add p_1 1) w fun _ xn_1 _=>cond (decide (((xn_1:Nat):Int)≥32))
 (some (.tuple ⟨[.int .i64 0,.int .i64 4]⟩,w))
 (aSome r fun p_2=>gSl (Addr.add p_2 1) w fun x_3 xn_2 xc_2=>nw (.cells B5 false [.int .i64 lo]) w fun b w1=>aSome r fun p_3=>gSl (Addr.add p_3 2) w1 fun x_4 xn_3 xc_3=>nw (.cells B5 false [.int .i64 n]) w1 fun b_1 w2=>gCells (some ⟨b,0,none⟩) (1*1) w2 fun cs=>ckB (fitsOpen x_3 B5 w2) (apd B5 1 x_3 xn_2 xc_2 1 cs w2 fun a an ac w3=>gSl (Addr.add p_3 2) w3 fun x_5 xn_4 xc_4=>same (.slice x_4 xn_3 xc_3) (.slice x_5 xn_4 xc_4) (gCells (some ⟨b_1,0,none⟩) (1*1) w3 fun cs_1=>ckB (fitsOpen x_4 B5 w3) (apd B5 1 x_4 xn_3 xc_3 1 cs_1 w3 fun a_1 an_1 ac_1 w4=>aSome r fun p_4=>pV (Addr.add p_4 1) (.slice a an ac) w4 fun w5=>aSome r fun p_5=>pV (Addr.add p_5 2) (.slice a_1 an_1 ac_1) w5 fun w6=>aSome r fun p_6=>gSl (Addr.add p_6 1) w6 fun _ xn_5 _=>some (.tuple ⟨[.int .i64 (IntKind.wrap .i64 (((xn_5:Nat):Int)-1)),.int .i64 0]⟩,w6)))))):=by kernel_rfl
def Bu5:Cuts:={ globs:=0,loops:=[],regs:=[],plans:=[] }
def Dn2:List Item:=A7 Tryz.f128
theorem E44 (C:A3) (R:A4) (s:Option Addr) (e:Int) (c:List Value) (h:H) :
 A6 PR Bu5 C R A86 Tryz.f128 100000 true Dn2 [(0,.pointer s),(1,.int .i64 e),(2,.agg ⟨c⟩)] h =
 nw (.cells O9 false c) h fun b w=>bnd (C Ai9 [.pointer s,.int .i64 e] w) fun r w1=>aBool r fun x=>bnd (cond (!x) (some (true,w1)) (gInt .i64 (Addr.add ⟨b,0,none⟩ 1) w1 fun x_1=>some (decide (x_1<0),w1))) fun c_1 w2=>bnd (cond c_1 (some (true,w2)) (gInt .i64 (Addr.add ⟨b,0,none⟩ 1) w2 fun x_2=>some (decide (x_2>7),w2))) fun c_2 w3=>bnd (cond c_2 (some (true,w3)) (gInt .i64 (Addr.add ⟨b,0,none⟩ 2) w3 fun x_3=>some (decide (x_3<0),w3))) fun c_3 w4=>bnd (cond c_3 (some (true,w4)) (gInt .i64 (Addr.add ⟨b,0,none⟩ 2) w4 fun x_4=>some (decide (x_4>65536),w4))) fun c_4 w5=>bnd (cond c_4 (some (true,w5)) (gInt .i64 (Addr.add ⟨b,0,none⟩ 3) w5 fun x_5=>some (decide (x_5<0),w5))) fun c_5 w6=>bnd (cond c_5 (some (true,w6)) (gInt .i64 (Addr.add ⟨b,0,none⟩ 3) w6 fun x_6=>some (decide (x_6>65536),w6))) fun c_6 w7=>cond c_6
 (some (.tuple ⟨[.int .i64 0,.int .i64 1]⟩,w7))
 (pAgg (Addr.add ⟨b,0,none⟩ 4) [.int .i64 0,.int .i64 0] w7 fun w8=>gAgg ⟨b,0,none⟩ 6 w8 fun x_7=>bnd (C A77 [.pointer s,.int .i64 e,.agg ⟨x_7⟩] w8) fun r_1 w9=>as2 r_1 fun r_2 r_3=>aInt .i64 r_2 fun x_8=>aInt .i64 r_3 fun x_9=>some (.tuple ⟨[.int .i64 x_8,.int .i64 x_9]⟩,w9)):=by kernel_rfl
def Bi6:Cuts:={ globs:=0,loops:=[],regs:=[],plans:=[] }
def Dd1:List Item:=A7 Tryz.f129
theorem Et1 (C:A3) (R:A4) (g:Int) (h:H) :
 A6 PR Bi6 C R Ax9 Tryz.f129 100000 true Dd1 [(0,.int .i64 g)] h =
 nw (.cells A5 false [.int .u8 (IntKind.wrap .u8 (g)),.int .u8 211]) h fun b w=>gCells (some ⟨b,0,none⟩) 2 w fun cs=>asBytes cs fun l=>bnd (C Ae1 [.string (ByteArray.mk ⟨l⟩)] w) fun r w1=>aInt .u8 r fun x=>nw (.cells A5 false [.int .u8 x,.int .u8 0]) w1 fun b_1 w2=>gCells (some ⟨b_1,0,none⟩) 2 w2 fun cs_1=>asBytes cs_1 fun l_1=>ck (ByteArray.size (ByteArray.mk ⟨l⟩)+ByteArray.size (ByteArray.mk ⟨l_1⟩)≤B4) (some (.string ((ByteArray.mk ⟨l⟩)++(ByteArray.mk ⟨l_1⟩)),w2)):=by kernel_rfl
def Z8:Cuts:={ globs:=0,loops:=[(3,[0,3,9,10,11])],regs:=[],plans:=[] }
def Ak0:List Item:=A7 Tryz.f142
def N9:List Item:=stk [0,1,0,1,0,0,1,4,5] Ak0
theorem Db1 (C:A3) (R:A4) (t:Option Addr) (h:H) :
 A6 PR Z8 C R E9 Tryz.f142 100000 true Ak0 [(0,.pointer t)] h =
 aSome t fun p=>gSl (Addr.add p 0) h fun x xn xc=>R E9 N9 [(0,.pointer t),(3,.slice none 0 0),(9,.slice x xn xc),(10,.int .i64 ((xn:Nat):Int)),(11,.int .i64 0)] h:=by kernel_rfl
theorem Ax8 (C:A3) (R:A4) (t:Option Addr) (out:Option Addr) (outn outc:Nat) (x9:Option Addr) (x9n x9c:Nat) (x10:Int) (x11:Int) (h:H) :
 A6 PR Z8 C R E9 Tryz.f142 100000 true N9 [(0,.pointer t),(3,.slice out outn outc),(9,.slice x9 x9n x9c),(10,.int .i64 x10),(11,.int .i64 x11)] h =
 cond (decide (x11<x10))
 (aSome x9 fun p=>ck ((0:Int)≤x11∧x11<((x9n:Nat):Int)) (gAgg (Addr.add (B7 p) (Int.toNat x11*8)) 8 h fun x=>nw (.cells Al1 false [.int .i64 0,.int .i64 0,.int .i64 0,.int .i64 0,.int .i64 0,.int .i64 0,.int .i64 0,.bool false]) h fun b w=>ck (List.length x=8) (pAgg ⟨b,0,none⟩ x w fun w1=>gBool (Addr.add ⟨b,0,none⟩ 7) w1 fun x_1=>cond x_1
 (bnd (C N7 [.pointer t,.int .i64 x11] w1) fun r w2=>aInt .i64 r fun x_2=>nw (.cells B5 false [.int .i64 x_2]) w2 fun b_1 w3=>gCells (some ⟨b_1,0,none⟩) (1*1) w3 fun cs=>ckB (fitsOpen out B5 w3) (apd B5 1 out outn outc 1 cs w3 fun a an ac w4=>R E9 N9 [(0,.pointer t),(3,.slice a an ac),(9,.slice x9 x9n x9c),(10,.int .i64 x10),(11,.int .i64 (IntKind.wrap .i64 (x11+1)))] w4))
 (R E9 N9 [(0,.pointer t),(3,.slice out outn outc),(9,.slice x9 x9n x9c),(10,.int .i64 x10),(11,.int .i64 (IntKind.wrap .i64 (x11+1)))] w1))))
 (some (.slice out outn outc,h)):=by kernel_rfl
def Aw2:Cuts:={ globs:=0,loops:=[],regs:=[],plans:=[] }
def Bl9:List Item:=A7 Tryz.f145
theorem Ds9 (C:A3) (R:A4) (c:Option Addr) (r:List Value) (h:H) :
 A6 PR Aw2 C R Q3 Tryz.f145 100000 true Bl9 [(0,.pointer c),(1,.agg ⟨r⟩)] h =
 nw (.cells D7 false r) h fun b w=>nw (.cells Bf6 false [.int .i64 0,.int .i64 0,.int .i64 0]) w fun b_1 w1=>gInt .i64 (Addr.add ⟨b,0,none⟩ 1) w1 fun x=>bnd (cond (decide (x<0)) (some (true,w1)) (gInt .i64 (Addr.add ⟨b,0,none⟩ 0) w1 fun x_1=>bnd (C Aa3 [.pointer c,.int .i64 x_1] w1) fun r_1 w2=>aInt .i64 r_1 fun x_2=>some (decide (x≥x_2),w2))) fun c_1 w3=>cond c_1
 (pAgg ⟨b_1,0,none⟩ [.int .i64 0,.int .i64 0,.int .i64 0] w3 fun w4=>gAgg ⟨b_1,0,none⟩ 3 w4 fun x_3=>some (.tuple ⟨[.agg ⟨x_3⟩,.bool false]⟩,w4))
 (aSome c fun p=>gSl (Addr.add p 2) w3 fun x_4 xn _=>aSome x_4 fun p_1=>ck ((0:Int)≤0∧0<((xn:Nat):Int)) (gInt .i64 (Addr.add (B7 p_1) (Int.toNat 0*1)) w3 fun x_5=>gInt .i64 (Addr.add ⟨b,0,none⟩ 0) w3 fun x_6=>cond (x_6==1)
 (pAgg ⟨b_1,0,none⟩ [.int .i64 x_5,.int .i64 (IntKind.wrap .i64 (24*x)),.int .i64 24] w3 fun w5=>gAgg ⟨b_1,0,none⟩ 3 w5 fun x_7=>some (.tuple ⟨[.agg ⟨x_7⟩,.bool true]⟩,w5))
 (gInt .i64 (Addr.add ⟨b,0,none⟩ 0) w3 fun x_8=>cond (x_8==2)
 (pAgg ⟨b_1,0,none⟩ [.int .i64 x_5,.int .i64 (IntKind.wrap .i64 (192+(IntKind.wrap .i64 (8*x)))),.int .i64 8] w3 fun w6=>gAgg ⟨b_1,0,none⟩ 3 w6 fun x_9=>some (.tuple ⟨[.agg ⟨x_9⟩,.bool true]⟩,w6))
 (gInt .i64 (Addr.add ⟨b,0,none⟩ 0) w3 fun x_10=>bnd (cond (x_10==3) (some (decide (x<4),w3)) (some (false,w3))) fun c_2 w7=>cond c_2
 (pAgg ⟨b_1,0,none⟩ [.int .i64 x_5,.int .i64 (IntKind.wrap .i64 (288+(IntKind.wrap .i64 (40*x)))),.int .i64 40] w7 fun w8=>gAgg ⟨b_1,0,none⟩ 3 w8 fun x_11=>some (.tuple ⟨[.agg ⟨x_11⟩,.bool true]⟩,w8))
 (gInt .i64 (Addr.add ⟨b,0,none⟩ 0) w7 fun x_12=>cond (x_12==3)
 (aSome c fun p_2=>gSl (Addr.add p_2 2) w7 fun x_13 xn_1 _=>aSome x_13 fun p_3=>ck ((0:Int)≤IntKind.wrap .i64 ((IntKind.wrap .i64 (x-4))+1)∧IntKind.wrap .i64 ((IntKind.wrap .i64 (x-4))+1)<((xn_1:Nat):Int)) (gInt .i64 (Addr.add (B7 p_3) (Int.toNat (IntKind.wrap .i64 ((IntKind.wrap .i64 (x-4))+1))*1)) w7 fun x_14=>pAgg ⟨b_1,0,none⟩ [.int .i64 x_14,.int .i64 0,.int .i64 40] w7 fun w9=>gAgg ⟨b_1,0,none⟩ 3 w9 fun x_15=>some (.tuple ⟨[.agg ⟨x_15⟩,.bool true]⟩,w9)))
 (gInt .i64 (Addr.add ⟨b,0,none⟩ 0) w7 fun x_16=>cond (x_16==4)
 (pAgg ⟨b_1,0,none⟩ [.int .i64 x_5,.int .i64 448,.int .i64 40] w7 fun w10=>gAgg ⟨b_1,0,none⟩ 3 w10 fun x_17=>some (.tuple ⟨[.agg ⟨x_17⟩,.bool true]⟩,w10))
 (pAgg ⟨b_1,0,none⟩ [.int .i64 x_5,.int .i64 488,.int .i64 4] w7 fun w11=>gAgg ⟨b_1,0,none⟩ 3 w11 fun x_18=>some (.tuple ⟨[.agg ⟨x_18⟩,.bool true]⟩,w11)))))))):=by kernel_rfl
def A43:Cuts:={ globs:=0,loops:=[],regs:=[],plans:=[] }
def Bv8:List Item:=A7 Tryz.f149
theorem D37 (C:A3) (R:A4) (r:Option Addr) (env:Int) (name:Int) (atv:Int) (n:Int) (h:H) :
 A6 PR A43 C R Ac3 Tryz.f149 100000 true Bv8 [(0,.pointer r),(1,.int .i64 env),(2,.int .i64 name),(3,.int .i64 atv),(4,.int .i64 n)] h =
 bnd (C Aa4 [.pointer r,.int .i64 env,.int .i64 name,.int .i64 1,.int .i64 atv,.int .i64 n] h) fun r_1 w=>as2 r_1 fun r_2 r_3=>aInt .i64 r_2 fun x=>aInt .i64 r_3 fun x_1=>cond (x_1 != 0)
 (some (.tuple ⟨[.slice none 0 0,.int .i64 x_1]⟩,w))
 (aSome r fun p=>gPtr (Addr.add p 0) w fun x_2=>bnd (C Bl0 [.pointer x_2,.int .i64 x,.int .i64 n] w) fun r_4 w1=>as2 r_4 fun r_5 r_6=>aSl r_5 fun x_3 xn xc=>aInt .i64 r_6 fun x_4=>some (.tuple ⟨[.slice x_3 xn xc,.int .i64 x_4]⟩,w1)):=by kernel_rfl
def Bd4:Cuts:={ globs:=0,loops:=[],regs:=[],plans:=[] }
def B54:List Item:=A7 Tryz.f154
theorem Ei6 (C:A3) (R:A4) (q:Option Addr) (s:Int) (h:H) :
 A6 PR Bd4 C R Av1 Tryz.f154 100000 true B54 [(0,.pointer q),(1,.int .i64 s)] h =
 bnd (C Aj0 [.pointer q,.int .i64 s] h) fun r w=>aBool r fun x=>cond (!x)
 (some (.tuple ⟨[.int .i64 0,.int .i64 1]⟩,w))
 (aSome q fun p=>gSl (Addr.add p 0) w fun x_1 xn _=>aSome x_1 fun p_1=>ck ((0:Int)≤s∧s<((xn:Nat):Int)) (gSl (Addr.add (B7 p_1) (Int.toNat s*1)) w fun x_2 xn_1 xc_1=>bnd (C H4 [.slice x_2 xn_1 xc_1,.int .i64 0] w) fun r_1 w1=>aInt .i64 r_1 fun x_3=>cond (decide (x_3<0))
 (some (.tuple ⟨[.int .i64 0,.int .i64 4]⟩,w1))
 (aSome q fun p_2=>gSl (Addr.add p_2 0) w1 fun x_4 xn_2 _=>aSome x_4 fun p_3=>ck ((0:Int)≤s∧s<((xn_2:Nat):Int)) (gSl (Addr.add (B7 p_3) (Int.toNat s*1)) w1 fun x_5 xn_3 _=>aSome x_5 fun p_4=>ck ((0:Int)≤x_3∧x_3<((xn_3:Nat):Int)) (pV (Addr.add (B7 p_4) (Int.toNat x_3*1)) (.int .i64 1) w1 fun w2=>some (.tuple ⟨[.int .i64 x_3,.int .i64 0]⟩,w2)))))):=by kernel_rfl
def Bn8:Cuts:={ globs:=0,loops:=[],regs:=[],plans:=[] }
def Dg8:List Item:=A7 Tryz.f156
theorem Ex8 (C:A3) (R:A4) (k:Option Addr) (env:Int) (c:List Value) (h:H) :
 A6 PR Bn8 C R A30 Tryz.f156 100000 true Dg8 [(0,.pointer k),(1,.int .i64 env),(2,.agg ⟨c⟩)] h =
 nw (.cells Az7 false c) h fun b w=>gInt .i64 (Addr.add ⟨b,0,none⟩ 3) w fun x=>bnd (C At3 [.pointer k,.int .i64 env,.int .i64 x] w) fun r w1=>as2 r fun r_1 r_2=>aPtr r_1 fun x_1=>aInt .i64 r_2 fun x_2=>cond (x_2 != 0)
 (some (.tuple ⟨[.int .i64 0,.int .i64 x_2]⟩,w1))
 (aSome k fun p=>gInt .i64 (Addr.add p 7) w1 fun x_3=>bnd (C D0 [.pointer x_1,.int .i64 env,.int .i64 x_3] w1) fun r_3 w2=>as2 r_3 fun r_4 r_5=>aInt .i64 r_4 fun x_4=>aBool r_5 fun _=>some (.tuple ⟨[.int .i64 x_4,.int .i64 0]⟩,w2)):=by kernel_rfl
def Bn4:Cuts:={ globs:=0,loops:=[],regs:=[],plans:=[] }
def Dh3:List Item:=A7 Tryz.f157
theorem Ex7 (C:A3) (R:A4) (k:Option Addr) (env:Int) (c:List Value) (h:H) :
 A6 PR Bn4 C R A28 Tryz.f157 100000 true Dh3 [(0,.pointer k),(1,.int .i64 env),(2,.agg ⟨c⟩)] h =
 nw (.cells Az7 false c) h fun b w=>gInt .i64 (Addr.add ⟨b,0,none⟩ 3) w fun x=>bnd (C At3 [.pointer k,.int .i64 env,.int .i64 x] w) fun r w1=>as2 r fun r_1 r_2=>aPtr r_1 fun x_1=>aInt .i64 r_2 fun x_2=>bnd (cond (x_2==0) (gInt .i64 (Addr.add ⟨b,0,none⟩ 2) w1 fun x_3=>bnd (C A31 [.pointer x_1,.int .i64 env,.int .i64 x_3] w1) fun r_3 w2=>aBool r_3 fun x_4=>some (!x_4,w2)) (some (false,w1))) fun c_1 w3=>cond c_1
 (some (.int .i64 8,w3))
 (some (.int .i64 x_2,w3)):=by kernel_rfl
def De7:Cuts:={ globs:=0,loops:=[],regs:=[],plans:=[] }
def Eg2:List Item:=A7 Tryz.f158
theorem Gu2 (C:A3) (R:A4)  (h:H) :
 A6 PR De7 C R Bc2 Tryz.f158 100000 true Eg2 [] h =
 bnd (C Ao8 [.int .i64 24,.func (.func O4) ⟨[]⟩ ⟨[]⟩,.func (.func W5) ⟨[]⟩ ⟨[]⟩] h) fun r w=>aPtr r fun x=>some (.pointer x,w):=by kernel_rfl
def Ag3:Cuts:={ globs:=0,loops:=[],regs:=[],plans:=[(4,⟨[0,1,2,3,4,10,5,6,7,8,9,11,12],[0,1,3,7,0,16,63,127,255,255,0,1535,4095],[(5,[3])],[]⟩)] }
def A19:List Item:=A7 Tryz.f159
theorem B49 (C:A3) (R:A4) (c:Option Addr) (b:Option Addr) (bn bc:Nat) (h:H) :
 A6 PR Ag3 C R V1 Tryz.f159 100000 true A19 [(0,.pointer c),(1,.slice b bn bc)] h =
 nw (.cells D2 false [.int .i64 0,.int .i64 0,.int .i64 0,.int .i64 0,.int .i64 0,.int .i64 0,.int .i64 0,.int .i64 0,.int .i64 0,.int .i64 0,.int .i64 0,.int .i64 0,.int .i64 0,.int .i64 0,.int .i64 0,.int .i64 0]) h fun b_1 w=>nw (.cells D2 false [.int .i64 0,.int .i64 0,.int .i64 0,.int .i64 0,.int .i64 0,.int .i64 0,.int .i64 0,.int .i64 0,.int .i64 0,.int .i64 0,.int .i64 0,.int .i64 0,.int .i64 0,.int .i64 0,.int .i64 0,.int .i64 0]) w fun b_2 w1=>aSome c fun p=>gFv (Addr.add p 2) w1 fun x=>isNilF x fun b_3=>bnd (cond b_3 (some (true,w1)) (aSome c fun p_1=>gInt .i64 (Addr.add p_1 0) w1 fun x_1=>some (((bn:Nat):Int) != x_1,w1))) fun c_1 w2=>cond c_1
 (gAgg ⟨b_2,0,none⟩ 16 w2 fun x_2=>ck (List.length x_2=16) (pAgg ⟨b_1,0,none⟩ x_2 w2 fun w3=>gAgg ⟨b_1,0,none⟩ 16 w3 fun x_3=>some (.tuple ⟨[.agg ⟨x_3⟩,.bool false]⟩,w3)))
 (aSome c fun p_2=>gFv (Addr.add p_2 2) w2 fun x_4=>nw (.cells D2 false [.int .i64 0,.int .i64 0,.int .i64 0,.int .i64 0,.int .i64 0,.int .i64 0,.int .i64 0,.int .i64 0,.int .i64 0,.int .i64 0,.int .i64 0,.int .i64 0,.int .i64 0,.int .i64 0,.int .i64 0,.int .i64 0]) w2 fun b_4 w4=>bnd (C G3 [.slice b bn bc] w4) fun r w5=>aSl r fun x_5 xn xc=>gFv (Addr.add p_2 2) w5 fun x_6=>Bk7 (x_4) (x_6) (aFn x_4 fun g fi cp=>bnd (C g (fi++([.slice x_5 xn xc]++cp)) w5) fun r_1 w6=>as2 r_1 fun r_2 r_3=>aAgg r_2 fun x_7=>aBool r_3 fun x_8=>ck (List.length x_7=16) (pAgg ⟨b_4,0,none⟩ x_7 w6 fun w7=>cond (!x_8)
 (gAgg ⟨b_2,0,none⟩ 16 w7 fun x_9=>ck (List.length x_9=16) (pAgg ⟨b_1,0,none⟩ x_9 w7 fun w8=>gAgg ⟨b_1,0,none⟩ 16 w8 fun x_10=>some (.tuple ⟨[.agg ⟨x_10⟩,.bool false]⟩,w8)))
 (gAgg ⟨b_4,0,none⟩ 16 w7 fun x_11=>ck (List.length x_11=16) (pAgg ⟨b_1,0,none⟩ x_11 w7 fun w9=>gAgg ⟨b_1,0,none⟩ 16 w9 fun x_12=>some (.tuple ⟨[.agg ⟨x_12⟩,.bool true]⟩,w9)))))):=by kernel_rfl
def De8:Cuts:={ globs:=0,loops:=[],regs:=[],plans:=[] }
def Eh9:List Item:=A7 Tryz.f161
theorem Gr0 (C:A3) (R:A4)  (h:H) :
 A6 PR De8 C R Bb2 Tryz.f161 100000 true Eh9 [] h =
 bnd (C Ap6 [.int .i64 8,.func (.func As0) ⟨[]⟩ ⟨[]⟩,.func (.func Ar2) ⟨[]⟩ ⟨[]⟩] h) fun r w=>aPtr r fun x=>some (.pointer x,w):=by kernel_rfl
def Da7:Cuts:={ globs:=0,loops:=[(3,[3,9,10,11])],regs:=[],plans:=[] }
def D00:List Item:=A7 Tryz.f163
def Bj7:List Item:=stk [0,1,0,1,0,0,1,4,5] D00
theorem Hd0 (C:A3) (R:A4) (b:Option Addr) (bn bc:Nat) (h:H) :
 A6 PR Da7 C R Aa0 Tryz.f163 100000 true D00 [(0,.slice b bn bc)] h =
 R Aa0 Bj7 [(3,.int .u8 (IntKind.wrap .u8 (((bn:Nat):Int)))),(9,.slice b bn bc),(10,.int .i64 ((bn:Nat):Int)),(11,.int .i64 0)] h:=by kernel_rfl
theorem D32 (C:A3) (R:A4) (n:Int) (x9:Option Addr) (x9n x9c:Nat) (x10:Int) (x11:Int) (h:H) :
 A6 PR Da7 C R Aa0 Tryz.f163 100000 true Bj7 [(3,.int .u8 n),(9,.slice x9 x9n x9c),(10,.int .i64 x10),(11,.int .i64 x11)] h =
 cond (decide (x11<x10))
 (aSome x9 fun p=>ck ((0:Int)≤x11∧x11<((x9n:Nat):Int)) (gInt .u8 (Addr.add (B7 p) (Int.toNat x11*1)) h fun x=>R Aa0 Bj7 [(3,.int .u8 (IntKind.wrap .u8 (n+x))),(9,.slice x9 x9n x9c),(10,.int .i64 x10),(11,.int .i64 (IntKind.wrap .i64 (x11+1)))] h))
 (some (.int .u8 n,h)):=by kernel_rfl
def Am9:Cuts:={ globs:=0,loops:=[],regs:=[],plans:=[] }
def Bb1:List Item:=A7 Tryz.f173
theorem Dg0 (C:A3) (R:A4) (c:Option Addr) (i:Int) (h:H) :
 A6 PR Am9 C R Ab7 Tryz.f173 100000 true Bb1 [(0,.pointer c),(1,.int .i64 i)] h =
 bnd (C As6 [.int .i64 i] h) fun r w=>aAgg r fun x=>bnd (C Q2 [.pointer c,.agg ⟨x⟩] w) fun r_1 w1=>aBool r_1 fun x_1=>some (.bool x_1,w1):=by kernel_rfl
def B76:Cuts:={ globs:=0,loops:=[],regs:=[],plans:=[] }
def D29:List Item:=A7 Tryz.f174
theorem Gg9 (C:A3) (R:A4) (s:Int) (fv0:Addr) (h:H) :
 A6 PR B76 C R G7 Tryz.f174 100000 true D29 [(0,.int .i64 s),(1,.pointer (some fv0))] h =
 bnd (cond (decide (s<0)) (some (true,h)) (gSl (Addr.add fv0 0) h fun _ xn _=>some (decide (s≥((xn:Nat):Int)),h))) fun c w=>some (.bool c,w):=by kernel_rfl
def Ad9:Cuts:={ globs:=0,loops:=[],regs:=[],plans:=[] }
def Av7:List Item:=A7 Tryz.f175
theorem Av5 (C:A3) (R:A4) (s:Option Addr) (sn sc:Nat) (f:Value) (h:H) :
 A6 PR Ad9 C R E5 Tryz.f175 100000 true Av7 [(0,.slice s sn sc),(1,f)] h =
 bnd (C D6 [.slice s sn sc,f] h) fun r w=>aInt .i64 r fun x=>some (.bool (decide (x≥0)),w):=by kernel_rfl
def Be4:Cuts:={ globs:=0,loops:=[(3,[0,3,4])],regs:=[],plans:=[] }
def B19:List Item:=A7 Tryz.f182
def Az9:List Item:=stk [0,1,0,1,0,0,1,4,5] B19
theorem Gd5 (C:A3) (R:A4) (size:Int) (h:H) :
 A6 PR Be4 C R Z9 Tryz.f182 100000 true B19 [(0,.int .i64 size)] h =
 nw (.cells En3 false [.slice none 0 0]) h fun b w=>R Z9 Az9 [(0,.int .i64 size),(3,.pointer (some ⟨b,0,none⟩)),(4,.int .i64 0)] w:=by kernel_rfl
theorem Db5 (C:A3) (R:A4) (size:Int) (n:Addr) (i:Int) (h:H) :
 A6 PR Be4 C R Z9 Tryz.f182 100000 true Az9 [(0,.int .i64 size),(3,.pointer (some n)),(4,.int .i64 i)] h =
 bnd (cond (decide (i<size)) (some (decide (i<256),h)) (some (false,h))) fun c w=>cond c
 (gSl (Addr.add n 0) w fun x xn xc=>nw (.cells Bi8 false [.int .i64 1,.bool false]) w fun b w1=>gCells (some ⟨b,0,none⟩) (1*2) w1 fun cs=>ckB (fitsOpen x Bi8 w1) (apd Bi8 2 x xn xc 1 cs w1 fun a an ac w2=>pV (Addr.add n 0) (.slice a an ac) w2 fun w3=>R Z9 Az9 [(0,.int .i64 size),(3,.pointer (some n)),(4,.int .i64 (IntKind.wrap .i64 (i+1)))] w3))
 (some (.pointer (some n),w)):=by kernel_rfl
def Bs9:Cuts:={ globs:=0,loops:=[],regs:=[],plans:=[(4,⟨[0,1,2,3,4,5,6,7,8,9,10,11],[0,1,3,7,0,31,63,0,128,0,1023,2047],[],[]⟩)] }
def Dr5:List Item:=A7 Tryz.f185
theorem E35 (C:A3) (R:A4) (s:Option Addr) (e:Int) (c:List Value) (h:H) :
 A6 PR Bs9 C R A77 Tryz.f185 100000 true Dr5 [(0,.pointer s),(1,.int .i64 e),(2,.agg ⟨c⟩)] h =
 nw (.cells O9 false c) h fun b w=>aSome s fun p=>gSl (Addr.add p 0) w fun x xn _=>aSome x fun p_1=>ck ((0:Int)≤e∧e<((xn:Nat):Int)) (gPtr (Addr.add (B7 p_1) (Int.toNat e*1)) w fun x_1=>bnd (C W4 [.pointer x_1] w) fun r w1=>as2 r fun r_1 r_2=>aInt .i64 r_1 fun x_2=>aBool r_2 fun x_3=>cond (!x_3)
 (some (.tuple ⟨[.int .i64 0,.int .i64 4]⟩,w1))
 (aSome s fun p_2=>gSl (Addr.add p_2 1) w1 fun x_4 xn_1 _=>aSome x_4 fun p_3=>ck ((0:Int)≤e∧e<((xn_1:Nat):Int)) (gSl (Addr.add (B7 p_3) (Int.toNat e*1)) w1 fun x_5 xn_2 _=>gAgg ⟨b,0,none⟩ 6 w1 fun x_6=>aSome x_5 fun p_4=>ck ((0:Int)≤P5 .i64 x_2 255∧P5 .i64 x_2 255<((xn_2:Nat):Int)) (ck (List.length x_6=6) (pAgg (Addr.add (B7 p_4) (Int.toNat (P5 .i64 x_2 255)*6)) x_6 w1 fun w2=>some (.tuple ⟨[.int .i64 x_2,.int .i64 0]⟩,w2)))))):=by kernel_rfl
def A06:Cuts:={ globs:=0,loops:=[],regs:=[],plans:=[(6,⟨[0,1,2,3,4,5,6,7,8,9,10,11,12,13,14,15,16,17,18,19,20,21,22,23,24,25,26,27,28,29,30,31,32,33,34,35],[0,1,3,7,15,31,63,127,127,383,1023,2047,4095,8191,8191,24575,8191,122879,262143,524287,1048575,2097151,4194303,8388607,16777215,33554431,67108863,134217727,67108863,335544319,872415231,1946157055,4093640703,8589934591,17179869183,34359738367],[],[]⟩),(8,⟨[0,1,2,3,4,5,6,7,8,9],[0,1,3,7,0,16,63,127,0,511],[],[]⟩)] }
def Bq4:List Item:=A7 Tryz.f201
theorem Dy9 (C:A3) (R:A4) (r:Option Addr) (env:Int) (name:Int) (right:Int) (atv:Int) (n:Int) (h:H) :
 A6 PR A06 C R Aa4 Tryz.f201 100000 true Bq4 [(0,.pointer r),(1,.int .i64 env),(2,.int .i64 name),(3,.int .i64 right),(4,.int .i64 atv),(5,.int .i64 n)] h =
 aSome r fun p=>gPtr (Addr.add p 1) h fun x=>bnd (C At7 [.pointer x,.int .i64 env,.int .i64 name] h) fun r_1 w=>as2 r_1 fun r_2 r_3=>aAgg r_2 fun x_1=>aInt .i64 r_3 fun x_2=>nw (.cells O9 false [.int .i64 0,.int .i64 0,.int .i64 0,.int .i64 0,.int .i64 0,.int .i64 0]) w fun b w1=>ck (List.length x_1=6) (pAgg ⟨b,0,none⟩ x_1 w1 fun w2=>cond (x_2 != 0)
 (some (.tuple ⟨[.int .i64 0,.int .i64 x_2]⟩,w2))
 (gInt .i64 (Addr.add ⟨b,0,none⟩ 1) w2 fun x_3=>cond ((P5 .i64 x_3 right)==0)
 (some (.tuple ⟨[.int .i64 0,.int .i64 3]⟩,w2))
 (bnd (cond (decide (atv<0)) (some (true,w2)) (some (decide (n<0),w2))) fun c w3=>bnd (cond c (some (true,w3)) (gInt .i64 (Addr.add ⟨b,0,none⟩ 3) w3 fun x_4=>some (decide (atv>x_4),w3))) fun c_1 w4=>bnd (cond c_1 (some (true,w4)) (gInt .i64 (Addr.add ⟨b,0,none⟩ 3) w4 fun x_5=>some (decide (n>(IntKind.wrap .i64 (x_5-atv))),w4))) fun c_2 w5=>bnd (cond c_2 (some (true,w5)) (gInt .i64 (Addr.add ⟨b,0,none⟩ 0) w5 fun x_6=>some (decide (x_6<0),w5))) fun c_3 w6=>bnd (cond c_3 (some (true,w6)) (gInt .i64 (Addr.add ⟨b,0,none⟩ 0) w6 fun x_7=>aSome r fun p_1=>gSl (Addr.add p_1 2) w6 fun _ xn _=>some (decide (x_7≥((xn:Nat):Int)),w6))) fun c_4 w7=>cond c_4
 (some (.tuple ⟨[.int .i64 0,.int .i64 1]⟩,w7))
 (aSome r fun p_2=>gSl (Addr.add p_2 2) w7 fun x_9 xn_1 _=>gInt .i64 (Addr.add ⟨b,0,none⟩ 0) w7 fun x_10=>aSome x_9 fun p_3=>ck ((0:Int)≤x_10∧x_10<((xn_1:Nat):Int)) (gAgg (Addr.add (B7 p_3) (Int.toNat x_10*2)) 2 w7 fun x_11=>nw (.cells Aw6 false [.int .i64 0,.int .i64 0]) w7 fun b_1 w8=>ck (List.length x_11=2) (pAgg ⟨b_1,0,none⟩ x_11 w8 fun w9=>gInt .i64 (Addr.add ⟨b,0,none⟩ 2) w9 fun x_12=>gInt .i64 (Addr.add ⟨b_1,0,none⟩ 1) w9 fun x_13=>bnd (cond (decide ((IntKind.wrap .i64 (x_12+atv))>x_13)) (some (true,w9)) (gInt .i64 (Addr.add ⟨b_1,0,none⟩ 1) w9 fun x_14=>gInt .i64 (Addr.add ⟨b,0,none⟩ 2) w9 fun x_15=>some (decide (n>(IntKind.wrap .i64 ((IntKind.wrap .i64 (x_14-x_15))-atv))),w9))) fun c_5 w10=>cond c_5
 (some (.tuple ⟨[.int .i64 0,.int .i64 1]⟩,w10))
 (gInt .i64 (Addr.add ⟨b_1,0,none⟩ 0) w10 fun x_16=>gInt .i64 (Addr.add ⟨b,0,none⟩ 2) w10 fun x_17=>some (.tuple ⟨[.int .i64 (IntKind.wrap .i64 ((IntKind.wrap .i64 (x_16+x_17))+atv)),.int .i64 0]⟩,w10)))))))):=by kernel_rfl
def Bi0:Cuts:={ globs:=0,loops:=[],regs:=[],plans:=[] }
def Db3:List Item:=A7 Tryz.f207
theorem Er0 (C:A3) (R:A4) (q:Option Addr) (s:Int) (k:Int) (h:H) :
 A6 PR Bi0 C R Az8 Tryz.f207 100000 true Db3 [(0,.pointer q),(1,.int .i64 s),(2,.int .i64 k)] h =
 bnd (C Aj0 [.pointer q,.int .i64 s] h) fun r w=>aBool r fun x=>bnd (cond x (some (decide (k≥0),w)) (some (false,w))) fun c w1=>bnd (cond c (aSome q fun p=>gSl (Addr.add p 0) w1 fun x_1 xn _=>aSome x_1 fun p_1=>ck ((0:Int)≤s∧s<((xn:Nat):Int)) (gSl (Addr.add (B7 p_1) (Int.toNat s*1)) w1 fun _ xn_1 _=>some (decide (k<((xn_1:Nat):Int)),w1))) (some (false,w1))) fun c_1 w2=>bnd (cond c_1 (aSome q fun p_2=>gSl (Addr.add p_2 0) w2 fun x_3 xn_2 _=>aSome x_3 fun p_3=>ck ((0:Int)≤s∧s<((xn_2:Nat):Int)) (gSl (Addr.add (B7 p_3) (Int.toNat s*1)) w2 fun x_4 xn_3 _=>aSome x_4 fun p_4=>ck ((0:Int)≤k∧k<((xn_3:Nat):Int)) (gInt .i64 (Addr.add (B7 p_4) (Int.toNat k*1)) w2 fun x_5=>some (decide (x_5>0),w2)))) (some (false,w2))) fun c_2 w3=>some (.bool c_2,w3):=by kernel_rfl
def D09:Cuts:={ globs:=0,loops:=[],regs:=[],plans:=[(1,⟨[0,1,2,3,4,5,6,7,8,9,10,11,12,13,14,15,16,17,18],[0,1,3,7,0,16,48,112,0,256,768,1792,0,4096,12288,28672,65535,0,262143],[],[]⟩),(3,⟨[0,1,2,3,4,5,6,7,8],[0,0,2,6,6,30,62,63,255],[(5,[0])],[]⟩)] }
def E12:List Item:=A7 Tryz.f216
theorem He1 (C:A3) (R:A4) (b:Option Addr) (bn bc:Nat) (h:H) :
 A6 PR D09 C R Ar2 Tryz.f216 100000 true E12 [(0,.slice b bn bc)] h =
 nw (.cells H8 false [.int .i64 0,.int .i64 0,.int .i64 0,.int .i64 0]) h fun b_1 w=>aSome b fun p=>ck ((0:Int)≤0∧0<((bn:Nat):Int)) (gInt .u8 (Addr.add (B7 p) (Int.toNat 0*1)) w fun x=>aSome b fun p_1=>ck ((0:Int)≤1∧1<((bn:Nat):Int)) (gInt .u8 (Addr.add (B7 p_1) (Int.toNat 1*1)) w fun x_1=>aSome b fun p_2=>ck ((0:Int)≤2∧2<((bn:Nat):Int)) (gInt .u8 (Addr.add (B7 p_2) (Int.toNat 2*1)) w fun x_2=>aSome b fun p_3=>ck ((0:Int)≤3∧3<((bn:Nat):Int)) (gInt .u8 (Addr.add (B7 p_3) (Int.toNat 3*1)) w fun x_3=>nw (.cells H8 false [.int .i64 0,.int .i64 0,.int .i64 0,.int .i64 0]) w fun b_2 w1=>pAgg ⟨b_2,0,none⟩ [.int .i64 (IntKind.wrap .i64 (x)),.int .i64 (IntKind.wrap .i64 (x_1)),.int .i64 (IntKind.wrap .i64 (x_2)),.int .i64 (IntKind.wrap .i64 (x_3))] w1 fun w2=>gAgg ⟨b_2,0,none⟩ 4 w2 fun x_4=>bnd (C A51 [.agg ⟨x_4⟩] w2) fun r w3=>as2 r fun r_1 r_2=>aSl r_1 fun x_5 xn xc=>aBool r_2 fun x_6=>gAgg ⟨b_2,0,none⟩ 4 w3 fun x_7=>bnd (cond x_6 (bnd (C D4 [.slice x_5 xn xc,.slice b bn bc] w3) fun r_3 w4=>aBool r_3 fun x_8=>gAgg ⟨b_2,0,none⟩ 4 w4 fun x_9=>same (.agg ⟨x_7⟩) (.agg ⟨x_9⟩) (some (x_8,w4))) (some (false,w3))) fun c w5=>ck (List.length x_7=4) (pAgg ⟨b_1,0,none⟩ x_7 w5 fun w6=>gAgg ⟨b_1,0,none⟩ 4 w6 fun x_10=>some (.tuple ⟨[.agg ⟨x_10⟩,.bool c]⟩,w6)))))):=by kernel_rfl
def Dp5:Cuts:={ globs:=0,loops:=[],regs:=[],plans:=[(3,⟨[0,1,2,3,4,5,6,7,8,9,10,11,12,13,14],[0,0,3,7,15,31,0,0,128,448,960,1984,4095,8191,16383],[],[]⟩)] }
def En4:List Item:=A7 Tryz.f233
theorem Gz0 (C:A3) (R:A4) (b:Option Addr) (bn bc:Nat) (atv:Int) (h:H) :
 A6 PR Dp5 C R B07 Tryz.f233 100000 true En4 [(0,.slice b bn bc),(1,.int .i64 atv)] h =
 bnd (cond (decide (atv<0)) (some (true,h)) (some (decide (atv>(IntKind.wrap .i64 (((bn:Nat):Int)-2))),h))) fun c w=>cond c
 (some (.tuple ⟨[.int .i64 0,.bool false]⟩,w))
 (aSome b fun p=>ck ((0:Int)≤atv∧atv<((bn:Nat):Int)) (gInt .u8 (Addr.add (B7 p) (Int.toNat atv*1)) w fun x=>aSome b fun p_1=>ck ((0:Int)≤IntKind.wrap .i64 (atv+1)∧IntKind.wrap .i64 (atv+1)<((bn:Nat):Int)) (gInt .u8 (Addr.add (B7 p_1) (Int.toNat (IntKind.wrap .i64 (atv+1))*1)) w fun x_1=>some (.tuple ⟨[.int .i64 (Hr3 .i64 (IntKind.wrap .i64 ((IntKind.wrap .i64 (x))*2 ^ 8)) (IntKind.wrap .i64 (x_1))),.bool true]⟩,w)))):=by kernel_rfl
def Eb5:Cuts:={ globs:=0,loops:=[],regs:=[],plans:=[] }
def Ge1:List Item:=A7 Tryz.f234
theorem Hj5 (C:A3) (R:A4) (f:List Value) (h:H) :
 A6 PR Eb5 C R Dk5 Tryz.f234 100000 true Ge1 [(0,.agg ⟨f⟩)] h =
 nw (.cells H8 false f) h fun b w=>gInt .i64 (Addr.add ⟨b,0,none⟩ 0) w fun x=>bnd (cond (decide (x≥1)) (gInt .i64 (Addr.add ⟨b,0,none⟩ 0) w fun x_1=>some (decide (x_1≤3),w)) (some (false,w))) fun c w1=>bnd (cond c (gInt .i64 (Addr.add ⟨b,0,none⟩ 1) w1 fun x_2=>some (decide (x_2≥0),w1)) (some (false,w1))) fun c_1 w2=>bnd (cond c_1 (gInt .i64 (Addr.add ⟨b,0,none⟩ 1) w2 fun x_3=>some (decide (x_3≤7),w2)) (some (false,w2))) fun c_2 w3=>bnd (cond c_2 (gInt .i64 (Addr.add ⟨b,0,none⟩ 0) w3 fun x_4=>bnd (cond (x_4 != 3) (some (true,w3)) (gInt .i64 (Addr.add ⟨b,0,none⟩ 1) w3 fun x_5=>some (x_5==0,w3))) fun c_3 w4=>some (c_3,w4)) (some (false,w3))) fun c_4 w5=>bnd (cond c_4 (gInt .i64 (Addr.add ⟨b,0,none⟩ 2) w5 fun x_6=>some (decide (x_6≥1),w5)) (some (false,w5))) fun c_5 w6=>bnd (cond c_5 (gInt .i64 (Addr.add ⟨b,0,none⟩ 2) w6 fun x_7=>some (decide (x_7≤64),w6)) (some (false,w6))) fun c_6 w7=>bnd (cond c_6 (gInt .i64 (Addr.add ⟨b,0,none⟩ 3) w7 fun x_8=>bnd (cond (x_8==0) (some (true,w7)) (gInt .i64 (Addr.add ⟨b,0,none⟩ 3) w7 fun x_9=>some (x_9==1,w7))) fun c_7 w8=>some (c_7,w8)) (some (false,w7))) fun c_8 w9=>some (.bool c_8,w9):=by kernel_rfl
end
end Go.EQ

set_option maxRecDepth 100000
namespace Go.EQ
open Go Go.NN Go.Proofs
variable (C : A3) (R : A4)
noncomputable section
def Dg5:Cuts:={ globs:=0,loops:=[],regs:=[],plans:=[] }
def Eg5:List Item:=A7 Tryz.f15
theorem Gr4 (C:A3) (R:A4) (k:Option Addr) (env:Int) (h:H) :
 A6 PR Dg5 C R Br6 Tryz.f15 100000 true Eg5 [(0,.pointer k),(1,.int .i64 env)] h =
 bnd (cond k.isNone (some (true,h)) (bnd (C An5 [.pointer k] h) fun r w=>aPtr r fun x=>bnd (C Ak2 [.pointer x,.int .i64 env] w) fun r_1 w1=>aSl r_1 fun _ xn _=>some (((xn:Nat):Int)==0,w1))) fun c w2=>cond c
 (some (.tuple ⟨[.pointer none,.int .i64 1]⟩,w2))
 (bnd (C An5 [.pointer k] w2) fun r_2 w3=>aPtr r_2 fun x_2=>bnd (C Ak2 [.pointer x_2,.int .i64 env] w3) fun r_3 w4=>aSl r_3 fun x_3 xn_1 xc_1=>nw (.map [] 0) w4 fun b w5=>nw (.cells Dh8 false [.pointer k,.int .i64 env,.slice x_3 xn_1 xc_1,.map (some b)]) w5 fun b_1 w6=>some (.tuple ⟨[.pointer (some ⟨b_1,0,none⟩),.int .i64 0]⟩,w6)):=by kernel_rfl
def A09:Cuts:={ globs:=0,loops:=[],regs:=[],plans:=[] }
def Bo5:List Item:=A7 Tryz.f18
theorem D02 (C:A3) (R:A4) (c:Option Addr) (i:Int) (h:H) :
 A6 PR A09 C R Aa2 Tryz.f18 100000 true Bo5 [(0,.pointer c),(1,.int .i64 i)] h =
 nw (.cells I4 false [.int .i64 0,.int .i64 0,.int .i64 0,.int .i64 0,.int .u8 0,.int .u8 0,.int .u8 0,.int .u8 0,.int .u8 0,.int .u8 0,.int .u8 0,.int .u8 0,.int .u8 0,.int .u8 0,.int .u8 0,.int .u8 0,.int .u8 0,.int .u8 0,.int .u8 0,.int .u8 0,.int .u8 0,.int .u8 0,.int .u8 0,.int .u8 0,.int .u8 0,.int .u8 0,.int .u8 0,.int .u8 0,.int .u8 0,.int .u8 0,.int .u8 0,.int .u8 0,.int .u8 0,.int .u8 0,.int .u8 0,.int .u8 0]) h fun b w=>bnd (C As6 [.int .i64 i] w) fun r w1=>aAgg r fun x=>bnd (C I0 [.pointer c,.agg ⟨x⟩,.func (.func Aw7) ⟨[]⟩ ⟨[]⟩] w1) fun r_1 w2=>as2 r_1 fun r_2 r_3=>aAgg r_2 fun x_1=>aInt .i64 r_3 fun x_2=>ck (List.length x_1=36) (pAgg ⟨b,0,none⟩ x_1 w2 fun w3=>gAgg ⟨b,0,none⟩ 36 w3 fun x_3=>some (.tuple ⟨[.agg ⟨x_3⟩,.int .i64 x_2]⟩,w3)):=by kernel_rfl
def B57:Cuts:={ globs:=0,loops:=[],regs:=[],plans:=[] }
def D75:List Item:=A7 Tryz.f22
theorem Gk4 (C:A3) (R:A4) (k:Option Addr) (env:Int) (c:List Value) (h:H) :
 A6 PR B57 C R S7 Tryz.f22 100000 true D75 [(0,.pointer k),(1,.int .i64 env),(2,.agg ⟨c⟩)] h =
 nw (.cells Az7 false c) h fun b w=>nw (.cells Eo3 false [.int .i64 0,.int .i64 0,.slice none 0 0]) w fun b_1 w1=>bnd (cond (decide (env<0)) (some (true,w1)) (aSome k fun p=>gSl (Addr.add p 0) w1 fun _ xn _=>some (decide (env≥((xn:Nat):Int)),w1))) fun c_1 w2=>cond c_1
 (pAgg ⟨b_1,0,none⟩ [.int .i64 1,.int .i64 0,.slice none 0 0] w2 fun w3=>gAgg ⟨b_1,0,none⟩ 3 w3 fun x_1=>some (.agg ⟨x_1⟩,w3))
 (gAgg ⟨b,0,none⟩ 7 w2 fun x_2=>bnd (C A24 [.pointer k,.int .i64 env,.agg ⟨x_2⟩] w2) fun r w4=>as3 r fun r_1 r_2 r_3=>aSl r_1 fun x_3 xn_1 xc_1=>aInt .i64 r_2 fun x_4=>aBool r_3 fun x_5=>cond x_5
 (pAgg ⟨b_1,0,none⟩ [.int .i64 x_4,.int .i64 0,.slice x_3 xn_1 xc_1] w4 fun w5=>gAgg ⟨b_1,0,none⟩ 3 w5 fun x_6=>some (.agg ⟨x_6⟩,w5))
 (gAgg ⟨b,0,none⟩ 7 w4 fun x_7=>bnd (C Ax2 [.pointer k,.int .i64 env,.agg ⟨x_7⟩] w4) fun r_4 w6=>as2 r_4 fun r_5 r_6=>aInt .i64 r_5 fun x_8=>aInt .i64 r_6 fun x_9=>pAgg ⟨b_1,0,none⟩ [.int .i64 x_9,.int .i64 x_8,.slice none 0 0] w6 fun w7=>gAgg ⟨b_1,0,none⟩ 3 w7 fun x_10=>some (.agg ⟨x_10⟩,w7))):=by kernel_rfl
def A11:Cuts:={ globs:=0,loops:=[],regs:=[],plans:=[] }
def Bq3:List Item:=A7 Tryz.f23
theorem D13 (C:A3) (R:A4) (c:Option Addr) (i:Int) (h:H) :
 A6 PR A11 C R E2 Tryz.f23 100000 true Bq3 [(0,.pointer c),(1,.int .i64 i)] h =
 nw (.cells D2 false [.int .i64 0,.int .i64 0,.int .i64 0,.int .i64 0,.int .i64 0,.int .i64 0,.int .i64 0,.int .i64 0,.int .i64 0,.int .i64 0,.int .i64 0,.int .i64 0,.int .i64 0,.int .i64 0,.int .i64 0,.int .i64 0]) h fun b w=>bnd (C As3 [.int .i64 i] w) fun r w1=>aAgg r fun x=>bnd (C L1 [.pointer c,.agg ⟨x⟩,.func (.func A42) ⟨[]⟩ ⟨[]⟩] w1) fun r_1 w2=>as2 r_1 fun r_2 r_3=>aAgg r_2 fun x_1=>aInt .i64 r_3 fun x_2=>ck (List.length x_1=16) (pAgg ⟨b,0,none⟩ x_1 w2 fun w3=>gAgg ⟨b,0,none⟩ 16 w3 fun x_3=>some (.tuple ⟨[.agg ⟨x_3⟩,.int .i64 x_2]⟩,w3)):=by kernel_rfl
def Aq1:Cuts:={ globs:=0,loops:=[],regs:=[],plans:=[] }
def Bg0:List Item:=A7 Tryz.f24
theorem Di4 (C:A3) (R:A4) (c:Option Addr) (i:Int) (p:List Value) (h:H) :
 A6 PR Aq1 C R J9 Tryz.f24 100000 true Bg0 [(0,.pointer c),(1,.int .i64 i),(2,.agg ⟨p⟩)] h =
 nw (.cells D2 false p) h fun b w=>gAgg ⟨b,0,none⟩ 16 w fun x=>bnd (C A46 [.agg ⟨x⟩] w) fun r w1=>as2 r fun r_1 r_2=>aSl r_1 fun x_1 xn xc=>aBool r_2 fun x_2=>bnd (C As3 [.int .i64 i] w1) fun r_3 w2=>aAgg r_3 fun x_3=>bnd (C J5 [.pointer c,.agg ⟨x_3⟩,.slice x_1 xn xc,.bool x_2] w2) fun r_4 w3=>aBool r_4 fun x_4=>some (.bool x_4,w3):=by kernel_rfl
def Ap1:Cuts:={ globs:=0,loops:=[],regs:=[],plans:=[] }
def Bf4:List Item:=A7 Tryz.f28
theorem Dl0 (C:A3) (R:A4) (c:Option Addr) (i:Int) (f:List Value) (h:H) :
 A6 PR Ap1 C R U2 Tryz.f28 100000 true Bf4 [(0,.pointer c),(1,.int .i64 i),(2,.agg ⟨f⟩)] h =
 nw (.cells H8 false f) h fun b w=>gAgg ⟨b,0,none⟩ 4 w fun x=>bnd (C A51 [.agg ⟨x⟩] w) fun r w1=>as2 r fun r_1 r_2=>aSl r_1 fun x_1 xn xc=>aBool r_2 fun x_2=>bnd (C As4 [.int .i64 i] w1) fun r_3 w2=>aAgg r_3 fun x_3=>bnd (C J5 [.pointer c,.agg ⟨x_3⟩,.slice x_1 xn xc,.bool x_2] w2) fun r_4 w3=>aBool r_4 fun x_4=>some (.bool x_4,w3):=by kernel_rfl
def Dg1:Cuts:={ globs:=0,loops:=[],regs:=[],plans:=[(1,⟨[0,1,2,3,4,5,6,7],[0,1,0,4,15,12,63,127],[(3,[1]),(5,[1])],[]⟩)] }
def Eh0:List Item:=A7 Tryz.f53
theorem Gs2 (C:A3) (R:A4)  (h:H) :
 A6 PR Dg1 C R Bc0 Tryz.f53 100000 true Eh0 [] h =
 ck ((0:Int)≤448∧(448:Int)≤448∧448≤(B4:Int)) (nw (.cells A5 false (H3 (Int.toNat 448) [.int .u8 0])) h fun b w=>gCells (some ⟨b,0,none⟩) (Int.toNat 448) w fun cs=>asBytes cs fun l=>bnd (C P4 [.agg ⟨[.int .i64 0,.int .i64 0,.int .i64 1,.int .i64 1,.int .u8 0,.int .u8 0,.int .u8 0,.int .u8 0,.int .u8 0,.int .u8 0,.int .u8 0,.int .u8 0,.int .u8 0,.int .u8 0,.int .u8 0,.int .u8 0,.int .u8 0,.int .u8 0,.int .u8 0,.int .u8 0,.int .u8 0,.int .u8 0,.int .u8 0,.int .u8 0,.int .u8 0,.int .u8 0,.int .u8 0,.int .u8 0,.int .u8 0,.int .u8 0,.int .u8 0,.int .u8 0,.int .u8 0,.int .u8 0,.int .u8 0,.int .u8 0]⟩] w) fun r w1=>aStr r fun x=>gCells (some ⟨b,0,none⟩) (Int.toNat 448) w1 fun cs_1=>asBytes cs_1 fun l_1=>same (.string (ByteArray.mk ⟨l⟩)) (.string (ByteArray.mk ⟨l_1⟩)) (ck (ByteArray.size (ByteArray.mk ⟨l⟩)+ByteArray.size x≤B4) (bnd (C Ax9 [.int .i64 0] w1) fun r_1 w2=>aStr r_1 fun x_1=>gCells (some ⟨b,0,none⟩) (Int.toNat 448) w2 fun cs_2=>asBytes cs_2 fun l_2=>same (.string (ByteArray.mk ⟨l⟩)) (.string (ByteArray.mk ⟨l_2⟩)) (ck (ByteArray.size ((ByteArray.mk ⟨l⟩)++x)+ByteArray.size x_1≤B4) (some (.string (((ByteArray.mk ⟨l⟩)++x)++x_1),w2)))))):=by kernel_rfl
def B62:Cuts:={ globs:=0,loops:=[],regs:=[],plans:=[] }
def D35:List Item:=A7 Tryz.f60
theorem Gk1 (C:A3) (R:A4) (i:Int) (h:H) :
 A6 PR B62 C R As6 Tryz.f60 100000 true D35 [(0,.int .i64 i)] h =
 nw (.cells D7 false [.int .i64 0,.int .i64 0]) h fun b w=>pAgg ⟨b,0,none⟩ [.int .i64 3,.int .i64 i] w fun w1=>gAgg ⟨b,0,none⟩ 2 w1 fun x=>some (.agg ⟨x⟩,w1):=by kernel_rfl
def Ad1:Cuts:={ globs:=0,loops:=[],regs:=[(8,[6,8,11,12])],plans:=[(7,⟨[0,1,2,3,4,5,6,7,8,9],[0,1,3,7,0,31,63,31,159,511],[(7,[5])],[]⟩)] }
def Ap4:List Item:=A7 Tryz.f61
def Ai6:List Item:=stk [0,1,0,1,0,1,0,1,0,1,0,1,0,0] Ap4
theorem Dk9 (C:A3) (R:A4) (c:Option Addr) (r:List Value) (decode:Value) (h:H) :
 A6 PR Ad1 C R I0 Tryz.f61 100000 true Ap4 [(0,.pointer c),(1,.agg ⟨r⟩),(2,decode)] h =
 nw (.cells D7 false r) h fun b w=>nw (.cells I4 false [.int .i64 0,.int .i64 0,.int .i64 0,.int .i64 0,.int .u8 0,.int .u8 0,.int .u8 0,.int .u8 0,.int .u8 0,.int .u8 0,.int .u8 0,.int .u8 0,.int .u8 0,.int .u8 0,.int .u8 0,.int .u8 0,.int .u8 0,.int .u8 0,.int .u8 0,.int .u8 0,.int .u8 0,.int .u8 0,.int .u8 0,.int .u8 0,.int .u8 0,.int .u8 0,.int .u8 0,.int .u8 0,.int .u8 0,.int .u8 0,.int .u8 0,.int .u8 0,.int .u8 0,.int .u8 0,.int .u8 0,.int .u8 0]) w fun b_1 w1=>nw (.cells I4 false [.int .i64 0,.int .i64 0,.int .i64 0,.int .i64 0,.int .u8 0,.int .u8 0,.int .u8 0,.int .u8 0,.int .u8 0,.int .u8 0,.int .u8 0,.int .u8 0,.int .u8 0,.int .u8 0,.int .u8 0,.int .u8 0,.int .u8 0,.int .u8 0,.int .u8 0,.int .u8 0,.int .u8 0,.int .u8 0,.int .u8 0,.int .u8 0,.int .u8 0,.int .u8 0,.int .u8 0,.int .u8 0,.int .u8 0,.int .u8 0,.int .u8 0,.int .u8 0,.int .u8 0,.int .u8 0,.int .u8 0,.int .u8 0]) w1 fun b_2 w2=>gAgg ⟨b,0,none⟩ 2 w2 fun x=>bnd (C O5 [.pointer c,.agg ⟨x⟩] w2) fun r_1 w3=>as2 r_1 fun r_2 r_3=>aSl r_2 fun x_1 xn xc=>aBool r_3 fun x_2=>cond (!x_2)
 (gAgg ⟨b_2,0,none⟩ 36 w3 fun x_3=>ck (List.length x_3=36) (pAgg ⟨b_1,0,none⟩ x_3 w3 fun w4=>gAgg ⟨b_1,0,none⟩ 36 w4 fun x_4=>some (.tuple ⟨[.agg ⟨x_4⟩,.int .i64 2]⟩,w4)))
 (aFn decode fun g fi cp=>bnd (C g (fi++([.slice x_1 xn xc]++cp)) w3) fun r_4 w5=>as2 r_4 fun r_5 r_6=>aAgg r_5 fun x_5=>aInt .i64 r_6 fun x_6=>nw (.cells I4 false [.int .i64 0,.int .i64 0,.int .i64 0,.int .i64 0,.int .u8 0,.int .u8 0,.int .u8 0,.int .u8 0,.int .u8 0,.int .u8 0,.int .u8 0,.int .u8 0,.int .u8 0,.int .u8 0,.int .u8 0,.int .u8 0,.int .u8 0,.int .u8 0,.int .u8 0,.int .u8 0,.int .u8 0,.int .u8 0,.int .u8 0,.int .u8 0,.int .u8 0,.int .u8 0,.int .u8 0,.int .u8 0,.int .u8 0,.int .u8 0,.int .u8 0,.int .u8 0,.int .u8 0,.int .u8 0,.int .u8 0,.int .u8 0]) w5 fun b_3 w6=>ck (List.length x_5=36) (pAgg ⟨b_3,0,none⟩ x_5 w6 fun w7=>cond (x_6==2)
 (aSome c fun p=>gMap (Addr.add p 3) w7 fun x_7=>gAgg ⟨b,0,none⟩ 2 w7 fun x_8=>keyN PR D7 (.agg ⟨x_8⟩) (opt x_7 fun r_7=>mapAt w7 r_7 fun es _=>opt (Al4 (.int .i64 0) (.agg ⟨x_8⟩) es) fun f=>aInt .i64 f.1 fun x_9=>keyN PR D7 (.agg ⟨x_8⟩) (opt x_7 fun r_8=>mapAt w7 r_8 fun es_1 cl_1=>opt (D18 (.int .i64 0) (.agg ⟨x_8⟩) es_1 cl_1) fun f_1=>aInt .i64 f_1.1 fun _=>lt (H.set w7 r_8 f_1.2.2) fun w8=>keyN PR D7 (.agg ⟨x_8⟩) (opt x_7 fun r_9=>mapAt w8 r_9 fun es_2 _=>opt (Al4 (.int .i64 0) (.agg ⟨x_8⟩) es_2) fun f_2=>aInt .i64 f_2.1 fun x_11=>same (.int .i64 x_9) (.int .i64 x_11) (opt x_7 fun r_10=>mapAt w8 r_10 fun es_3 cl_3=>opt (Bj8 (f_1.2.1:Int) es_3 0) fun i=>lt (H.set w8 r_10 (.map (modN (fun e=>{ e with val:=.int .i64 (IntKind.wrap .i64 (x_9+1)) }) i es_3) cl_3)) fun w9=>R I0 Ai6 [(6,.pointer (some ⟨b_1,0,none⟩)),(8,.pointer (some ⟨b_2,0,none⟩)),(11,.pointer (some ⟨b_3,0,none⟩)),(12,.int .i64 x_6)] w9)))))
 (R I0 Ai6 [(6,.pointer (some ⟨b_1,0,none⟩)),(8,.pointer (some ⟨b_2,0,none⟩)),(11,.pointer (some ⟨b_3,0,none⟩)),(12,.int .i64 x_6)] w7))):=by kernel_rfl
theorem A47 (C:A3) (R:A4) (x6:Addr) (nonev:Addr) (v:Addr) (isv:Int) (h:H) :
 A6 PR Ad1 C R I0 Tryz.f61 100000 true Ai6 [(6,.pointer (some x6)),(8,.pointer (some nonev)),(11,.pointer (some v)),(12,.int .i64 isv)] h =
 cond (isv != 1)
 (gAgg nonev 36 h fun x=>ck (List.length x=36) (pAgg x6 x h fun w=>gAgg x6 36 w fun x_1=>some (.tuple ⟨[.agg ⟨x_1⟩,.int .i64 isv]⟩,w)))
 (gAgg v 36 h fun x_2=>ck (List.length x_2=36) (pAgg x6 x_2 h fun w1=>gAgg x6 36 w1 fun x_3=>some (.tuple ⟨[.agg ⟨x_3⟩,.int .i64 isv]⟩,w1))):=by kernel_rfl
def Dg2:Cuts:={ globs:=0,loops:=[],regs:=[],plans:=[] }
def Eh8:List Item:=A7 Tryz.f62
theorem Gr1 (C:A3) (R:A4) (b:Option Addr) (bn bc:Nat) (h:H) :
 A6 PR Dg2 C R Aw7 Tryz.f62 100000 true Eh8 [(0,.slice b bn bc)] h =
 nw (.cells I4 false [.int .i64 0,.int .i64 0,.int .i64 0,.int .i64 0,.int .u8 0,.int .u8 0,.int .u8 0,.int .u8 0,.int .u8 0,.int .u8 0,.int .u8 0,.int .u8 0,.int .u8 0,.int .u8 0,.int .u8 0,.int .u8 0,.int .u8 0,.int .u8 0,.int .u8 0,.int .u8 0,.int .u8 0,.int .u8 0,.int .u8 0,.int .u8 0,.int .u8 0,.int .u8 0,.int .u8 0,.int .u8 0,.int .u8 0,.int .u8 0,.int .u8 0,.int .u8 0,.int .u8 0,.int .u8 0,.int .u8 0,.int .u8 0]) h fun b_1 w=>bnd (cond (((bn:Nat):Int)==40) (bnd (C Am6 [.slice b bn bc] w) fun r w1=>aBool r fun x=>some (x,w1)) (some (false,w))) fun c w2=>cond c
 (pAgg ⟨b_1,0,none⟩ [.int .i64 0,.int .i64 0,.int .i64 0,.int .i64 0,.int .u8 0,.int .u8 0,.int .u8 0,.int .u8 0,.int .u8 0,.int .u8 0,.int .u8 0,.int .u8 0,.int .u8 0,.int .u8 0,.int .u8 0,.int .u8 0,.int .u8 0,.int .u8 0,.int .u8 0,.int .u8 0,.int .u8 0,.int .u8 0,.int .u8 0,.int .u8 0,.int .u8 0,.int .u8 0,.int .u8 0,.int .u8 0,.int .u8 0,.int .u8 0,.int .u8 0,.int .u8 0,.int .u8 0,.int .u8 0,.int .u8 0,.int .u8 0] w2 fun w3=>gAgg ⟨b_1,0,none⟩ 36 w3 fun x_1=>some (.tuple ⟨[.agg ⟨x_1⟩,.int .i64 0]⟩,w3))
 (bnd (C Bg8 [] w2) fun r_1 w4=>aPtr r_1 fun x_2=>bnd (C V3 [.pointer x_2,.slice b bn bc] w4) fun r_2 w5=>as2 r_2 fun r_3 r_4=>aAgg r_3 fun x_3=>aBool r_4 fun x_4=>nw (.cells I4 false [.int .i64 0,.int .i64 0,.int .i64 0,.int .i64 0,.int .u8 0,.int .u8 0,.int .u8 0,.int .u8 0,.int .u8 0,.int .u8 0,.int .u8 0,.int .u8 0,.int .u8 0,.int .u8 0,.int .u8 0,.int .u8 0,.int .u8 0,.int .u8 0,.int .u8 0,.int .u8 0,.int .u8 0,.int .u8 0,.int .u8 0,.int .u8 0,.int .u8 0,.int .u8 0,.int .u8 0,.int .u8 0,.int .u8 0,.int .u8 0,.int .u8 0,.int .u8 0,.int .u8 0,.int .u8 0,.int .u8 0,.int .u8 0]) w5 fun b_2 w6=>ck (List.length x_3=36) (pAgg ⟨b_2,0,none⟩ x_3 w6 fun w7=>cond (!x_4)
 (pAgg ⟨b_1,0,none⟩ [.int .i64 0,.int .i64 0,.int .i64 0,.int .i64 0,.int .u8 0,.int .u8 0,.int .u8 0,.int .u8 0,.int .u8 0,.int .u8 0,.int .u8 0,.int .u8 0,.int .u8 0,.int .u8 0,.int .u8 0,.int .u8 0,.int .u8 0,.int .u8 0,.int .u8 0,.int .u8 0,.int .u8 0,.int .u8 0,.int .u8 0,.int .u8 0,.int .u8 0,.int .u8 0,.int .u8 0,.int .u8 0,.int .u8 0,.int .u8 0,.int .u8 0,.int .u8 0,.int .u8 0,.int .u8 0,.int .u8 0,.int .u8 0] w7 fun w8=>gAgg ⟨b_1,0,none⟩ 36 w8 fun x_5=>some (.tuple ⟨[.agg ⟨x_5⟩,.int .i64 2]⟩,w8))
 (gAgg ⟨b_2,0,none⟩ 36 w7 fun x_6=>ck (List.length x_6=36) (pAgg ⟨b_1,0,none⟩ x_6 w7 fun w9=>gAgg ⟨b_1,0,none⟩ 36 w9 fun x_7=>some (.tuple ⟨[.agg ⟨x_7⟩,.int .i64 1]⟩,w9))))):=by kernel_rfl
def Bn6:Cuts:={ globs:=0,loops:=[],regs:=[],plans:=[(4,⟨[0,1,2,3,4,5,6,7,8,9,10,11,12,13,14,15,16],[0,1,3,7,0,0,32,0,128,0,512,2047,4095,8191,8191,16383,65535],[],[]⟩),(6,⟨[0,1,2,3,4,5,6,7,8,9,10,11,12],[0,1,3,7,0,0,32,0,128,0,512,2047,4095],[],[]⟩),(8,⟨[0,1,2,3,4,5,6,7,8,9,10,11,12,13,14,15,16],[0,1,3,7,0,0,32,0,128,0,512,0,2048,0,8192,32767,65535],[],[]⟩)] }
def Dg9:List Item:=A7 Tryz.f67
theorem Ex6 (C:A3) (R:A4) (k:Option Addr) (env:Int) (c:List Value) (h:H) :
 A6 PR Bn6 C R A24 Tryz.f67 100000 true Dg9 [(0,.pointer k),(1,.int .i64 env),(2,.agg ⟨c⟩)] h =
 nw (.cells Az7 false c) h fun b w=>gInt .i64 (Addr.add ⟨b,0,none⟩ 0) w fun x=>cond (x==1)
 (aSome k fun p=>gPtr (Addr.add p 5) w fun x_1=>gInt .i64 (Addr.add ⟨b,0,none⟩ 1) w fun x_2=>gInt .i64 (Addr.add ⟨b,0,none⟩ 2) w fun x_3=>gInt .i64 (Addr.add ⟨b,0,none⟩ 3) w fun x_4=>bnd (C Ac3 [.pointer x_1,.int .i64 env,.int .i64 x_2,.int .i64 x_3,.int .i64 x_4] w) fun r w1=>as2 r fun r_1 r_2=>aSl r_1 fun x_5 xn xc=>aInt .i64 r_2 fun x_6=>some (.tuple ⟨[.slice x_5 xn xc,.int .i64 x_6,.bool true]⟩,w1))
 (cond (x==2)
 (aSome k fun p_1=>gPtr (Addr.add p_1 5) w fun x_7=>gInt .i64 (Addr.add ⟨b,0,none⟩ 1) w fun x_8=>gInt .i64 (Addr.add ⟨b,0,none⟩ 2) w fun x_9=>gSl (Addr.add ⟨b,0,none⟩ 6) w fun x_10 xn_1 xc_1=>bnd (C Aa8 [.pointer x_7,.int .i64 env,.int .i64 x_8,.int .i64 x_9,.slice x_10 xn_1 xc_1] w) fun r_3 w2=>aInt .i64 r_3 fun x_11=>some (.tuple ⟨[.slice none 0 0,.int .i64 x_11,.bool true]⟩,w2))
 (cond (x==3)
 (aSome k fun p_2=>gPtr (Addr.add p_2 5) w fun x_12=>gInt .i64 (Addr.add ⟨b,0,none⟩ 1) w fun x_13=>gInt .i64 (Addr.add ⟨b,0,none⟩ 2) w fun x_14=>gInt .i64 (Addr.add ⟨b,0,none⟩ 4) w fun x_15=>gInt .i64 (Addr.add ⟨b,0,none⟩ 5) w fun x_16=>gInt .i64 (Addr.add ⟨b,0,none⟩ 3) w fun x_17=>bnd (C Am0 [.pointer x_12,.int .i64 env,.int .i64 x_13,.int .i64 x_14,.int .i64 x_15,.int .i64 x_16,.int .i64 x_17] w) fun r_4 w3=>aInt .i64 r_4 fun x_18=>some (.tuple ⟨[.slice none 0 0,.int .i64 x_18,.bool true]⟩,w3))
 (some (.tuple ⟨[.slice none 0 0,.int .i64 0,.bool false]⟩,w)))):=by kernel_rfl
def Ad2:Cuts:={ globs:=0,loops:=[],regs:=[(8,[6,8,11,12])],plans:=[(7,⟨[0,1,2,3,4,5,6,7,8,9],[0,1,3,7,0,31,63,31,159,511],[(7,[5])],[]⟩)] }
def Ar0:List Item:=A7 Tryz.f69
def Ai7:List Item:=stk [0,1,0,1,0,1,0,1,0,1,0,1,0,0] Ar0
theorem Dj8 (C:A3) (R:A4) (c:Option Addr) (r:List Value) (decode:Value) (h:H) :
 A6 PR Ad2 C R L1 Tryz.f69 100000 true Ar0 [(0,.pointer c),(1,.agg ⟨r⟩),(2,decode)] h =
 nw (.cells D7 false r) h fun b w=>nw (.cells D2 false [.int .i64 0,.int .i64 0,.int .i64 0,.int .i64 0,.int .i64 0,.int .i64 0,.int .i64 0,.int .i64 0,.int .i64 0,.int .i64 0,.int .i64 0,.int .i64 0,.int .i64 0,.int .i64 0,.int .i64 0,.int .i64 0]) w fun b_1 w1=>nw (.cells D2 false [.int .i64 0,.int .i64 0,.int .i64 0,.int .i64 0,.int .i64 0,.int .i64 0,.int .i64 0,.int .i64 0,.int .i64 0,.int .i64 0,.int .i64 0,.int .i64 0,.int .i64 0,.int .i64 0,.int .i64 0,.int .i64 0]) w1 fun b_2 w2=>gAgg ⟨b,0,none⟩ 2 w2 fun x=>bnd (C O5 [.pointer c,.agg ⟨x⟩] w2) fun r_1 w3=>as2 r_1 fun r_2 r_3=>aSl r_2 fun x_1 xn xc=>aBool r_3 fun x_2=>cond (!x_2)
 (gAgg ⟨b_2,0,none⟩ 16 w3 fun x_3=>ck (List.length x_3=16) (pAgg ⟨b_1,0,none⟩ x_3 w3 fun w4=>gAgg ⟨b_1,0,none⟩ 16 w4 fun x_4=>some (.tuple ⟨[.agg ⟨x_4⟩,.int .i64 2]⟩,w4)))
 (aFn decode fun g fi cp=>bnd (C g (fi++([.slice x_1 xn xc]++cp)) w3) fun r_4 w5=>as2 r_4 fun r_5 r_6=>aAgg r_5 fun x_5=>aInt .i64 r_6 fun x_6=>nw (.cells D2 false [.int .i64 0,.int .i64 0,.int .i64 0,.int .i64 0,.int .i64 0,.int .i64 0,.int .i64 0,.int .i64 0,.int .i64 0,.int .i64 0,.int .i64 0,.int .i64 0,.int .i64 0,.int .i64 0,.int .i64 0,.int .i64 0]) w5 fun b_3 w6=>ck (List.length x_5=16) (pAgg ⟨b_3,0,none⟩ x_5 w6 fun w7=>cond (x_6==2)
 (aSome c fun p=>gMap (Addr.add p 3) w7 fun x_7=>gAgg ⟨b,0,none⟩ 2 w7 fun x_8=>keyN PR D7 (.agg ⟨x_8⟩) (opt x_7 fun r_7=>mapAt w7 r_7 fun es _=>opt (Al4 (.int .i64 0) (.agg ⟨x_8⟩) es) fun f=>aInt .i64 f.1 fun x_9=>keyN PR D7 (.agg ⟨x_8⟩) (opt x_7 fun r_8=>mapAt w7 r_8 fun es_1 cl_1=>opt (D18 (.int .i64 0) (.agg ⟨x_8⟩) es_1 cl_1) fun f_1=>aInt .i64 f_1.1 fun _=>lt (H.set w7 r_8 f_1.2.2) fun w8=>keyN PR D7 (.agg ⟨x_8⟩) (opt x_7 fun r_9=>mapAt w8 r_9 fun es_2 _=>opt (Al4 (.int .i64 0) (.agg ⟨x_8⟩) es_2) fun f_2=>aInt .i64 f_2.1 fun x_11=>same (.int .i64 x_9) (.int .i64 x_11) (opt x_7 fun r_10=>mapAt w8 r_10 fun es_3 cl_3=>opt (Bj8 (f_1.2.1:Int) es_3 0) fun i=>lt (H.set w8 r_10 (.map (modN (fun e=>{ e with val:=.int .i64 (IntKind.wrap .i64 (x_9+1)) }) i es_3) cl_3)) fun w9=>R L1 Ai7 [(6,.pointer (some ⟨b_1,0,none⟩)),(8,.pointer (some ⟨b_2,0,none⟩)),(11,.pointer (some ⟨b_3,0,none⟩)),(12,.int .i64 x_6)] w9)))))
 (R L1 Ai7 [(6,.pointer (some ⟨b_1,0,none⟩)),(8,.pointer (some ⟨b_2,0,none⟩)),(11,.pointer (some ⟨b_3,0,none⟩)),(12,.int .i64 x_6)] w7))):=by kernel_rfl
theorem A53 (C:A3) (R:A4) (x6:Addr) (nonev:Addr) (v:Addr) (isv:Int) (h:H) :
 A6 PR Ad2 C R L1 Tryz.f69 100000 true Ai7 [(6,.pointer (some x6)),(8,.pointer (some nonev)),(11,.pointer (some v)),(12,.int .i64 isv)] h =
 cond (isv != 1)
 (gAgg nonev 16 h fun x=>ck (List.length x=16) (pAgg x6 x h fun w=>gAgg x6 16 w fun x_1=>some (.tuple ⟨[.agg ⟨x_1⟩,.int .i64 isv]⟩,w)))
 (gAgg v 16 h fun x_2=>ck (List.length x_2=16) (pAgg x6 x_2 h fun w1=>gAgg x6 16 w1 fun x_3=>some (.tuple ⟨[.agg ⟨x_3⟩,.int .i64 isv]⟩,w1))):=by kernel_rfl
def B87:Cuts:={ globs:=0,loops:=[],regs:=[],plans:=[] }
def D71:List Item:=A7 Tryz.f70
theorem Gk6 (C:A3) (R:A4) (i:Int) (h:H) :
 A6 PR B87 C R As3 Tryz.f70 100000 true D71 [(0,.int .i64 i)] h =
 nw (.cells D7 false [.int .i64 0,.int .i64 0]) h fun b w=>pAgg ⟨b,0,none⟩ [.int .i64 1,.int .i64 i] w fun w1=>gAgg ⟨b,0,none⟩ 2 w1 fun x=>some (.agg ⟨x⟩,w1):=by kernel_rfl
def B71:Cuts:={ globs:=0,loops:=[],regs:=[],plans:=[(1,⟨[1,0,2,3,4,5,6],[0,0,3,7,7,31,63],[(0,[1])],[]⟩)] }
def D69:List Item:=A7 Tryz.f72
theorem Gl0 (C:A3) (R:A4) (p:List Value) (h:H) :
 A6 PR B71 C R A46 Tryz.f72 100000 true D69 [(0,.agg ⟨p⟩)] h =
 nw (.cells D2 false p) h fun b w=>gAgg ⟨b,0,none⟩ 16 w fun x=>bnd (C Bc2 [] w) fun r w1=>aPtr r fun x_1=>gAgg ⟨b,0,none⟩ 16 w1 fun x_2=>same (.agg ⟨x⟩) (.agg ⟨x_2⟩) (bnd (C V2 [.pointer x_1,.agg ⟨x⟩] w1) fun r_1 w2=>as2 r_1 fun r_2 r_3=>aSl r_2 fun x_3 xn xc=>aBool r_3 fun x_4=>some (.tuple ⟨[.slice x_3 xn xc,.bool x_4]⟩,w2)):=by kernel_rfl
def Bn9:Cuts:={ globs:=0,loops:=[],regs:=[],plans:=[] }
def Dh2:List Item:=A7 Tryz.f78
theorem Ey0 (C:A3) (R:A4) (f:List Value) (h:H) :
 A6 PR Bn9 C R A26 Tryz.f78 100000 true Dh2 [(0,.agg ⟨f⟩)] h =
 nw (.cells H8 false f) h fun b w=>gInt .i64 (Addr.add ⟨b,0,none⟩ 0) w fun x=>gInt .i64 (Addr.add ⟨b,0,none⟩ 1) w fun x_1=>gInt .i64 (Addr.add ⟨b,0,none⟩ 2) w fun x_2=>gInt .i64 (Addr.add ⟨b,0,none⟩ 3) w fun x_3=>nw (.cells A5 false [.int .u8 (IntKind.wrap .u8 (x)),.int .u8 (IntKind.wrap .u8 (x_1)),.int .u8 (IntKind.wrap .u8 (x_2)),.int .u8 (IntKind.wrap .u8 (x_3)),.int .u8 179]) w fun b_1 w1=>gCells (some ⟨b_1,0,none⟩) 5 w1 fun cs=>asBytes cs fun l=>bnd (C Ae1 [.string (ByteArray.mk ⟨l⟩)] w1) fun r w2=>aInt .u8 r fun x_4=>nw (.cells A5 false [.int .u8 x_4,.int .u8 0,.int .u8 0]) w2 fun b_2 w3=>gCells (some ⟨b_2,0,none⟩) 3 w3 fun cs_1=>asBytes cs_1 fun l_1=>ck (ByteArray.size (ByteArray.mk ⟨l⟩)+ByteArray.size (ByteArray.mk ⟨l_1⟩)≤B4) (some (.string ((ByteArray.mk ⟨l⟩)++(ByteArray.mk ⟨l_1⟩)),w3)):=by kernel_rfl
def B95:Cuts:={ globs:=0,loops:=[(2,[0,6])],regs:=[],plans:=[] }
def Dy8:List Item:=A7 Tryz.f81
def Bl6:List Item:=stk [0,1,0,0,1,4,5] Dy8
theorem Hc3 (C:A3) (R:A4) (c:Option Addr) (h:H) :
 A6 PR B95 C R Ar1 Tryz.f81 100000 true Dy8 [(0,.pointer c)] h =
 R Ar1 Bl6 [(0,.pointer c),(6,.int .i64 0)] h:=by kernel_rfl
theorem D79 (C:A3) (R:A4) (c:Option Addr) (x6:Int) (h:H) :
 A6 PR B95 C R Ar1 Tryz.f81 100000 true Bl6 [(0,.pointer c),(6,.int .i64 x6)] h =
 cond (decide (x6<8))
 (bnd (C E2 [.pointer c,.int .i64 x6] h) fun r w=>as2 r fun r_1 r_2=>aAgg r_1 fun x=>aInt .i64 r_2 fun x_1=>nw (.cells D2 false [.int .i64 0,.int .i64 0,.int .i64 0,.int .i64 0,.int .i64 0,.int .i64 0,.int .i64 0,.int .i64 0,.int .i64 0,.int .i64 0,.int .i64 0,.int .i64 0,.int .i64 0,.int .i64 0,.int .i64 0,.int .i64 0]) w fun b w1=>ck (List.length x=16) (pAgg ⟨b,0,none⟩ x w1 fun w2=>cond (x_1==0)
 (some (.int .i64 x6,w2))
 (R Ar1 Bl6 [(0,.pointer c),(6,.int .i64 (IntKind.wrap .i64 (x6+1)))] w2)))
 (some (.int .i64 (-1),h)):=by kernel_rfl
def Ad5:Cuts:={ globs:=0,loops:=[],regs:=[(8,[6,8,11,12])],plans:=[(7,⟨[0,1,2,3,4,5,6,7,8,9],[0,1,3,7,0,31,63,31,159,511],[(7,[5])],[]⟩)] }
def Aq2:List Item:=A7 Tryz.f84
def Aj1:List Item:=stk [0,1,0,1,0,1,0,1,0,1,0,1,0,0] Aq2
theorem Dl8 (C:A3) (R:A4) (c:Option Addr) (r:List Value) (decode:Value) (h:H) :
 A6 PR Ad5 C R L0 Tryz.f84 100000 true Aq2 [(0,.pointer c),(1,.agg ⟨r⟩),(2,decode)] h =
 nw (.cells D7 false r) h fun b w=>nw (.cells H8 false [.int .i64 0,.int .i64 0,.int .i64 0,.int .i64 0]) w fun b_1 w1=>nw (.cells H8 false [.int .i64 0,.int .i64 0,.int .i64 0,.int .i64 0]) w1 fun b_2 w2=>gAgg ⟨b,0,none⟩ 2 w2 fun x=>bnd (C O5 [.pointer c,.agg ⟨x⟩] w2) fun r_1 w3=>as2 r_1 fun r_2 r_3=>aSl r_2 fun x_1 xn xc=>aBool r_3 fun x_2=>cond (!x_2)
 (gAgg ⟨b_2,0,none⟩ 4 w3 fun x_3=>ck (List.length x_3=4) (pAgg ⟨b_1,0,none⟩ x_3 w3 fun w4=>gAgg ⟨b_1,0,none⟩ 4 w4 fun x_4=>some (.tuple ⟨[.agg ⟨x_4⟩,.int .i64 2]⟩,w4)))
 (aFn decode fun g fi cp=>bnd (C g (fi++([.slice x_1 xn xc]++cp)) w3) fun r_4 w5=>as2 r_4 fun r_5 r_6=>aAgg r_5 fun x_5=>aInt .i64 r_6 fun x_6=>nw (.cells H8 false [.int .i64 0,.int .i64 0,.int .i64 0,.int .i64 0]) w5 fun b_3 w6=>ck (List.length x_5=4) (pAgg ⟨b_3,0,none⟩ x_5 w6 fun w7=>cond (x_6==2)
 (aSome c fun p=>gMap (Addr.add p 3) w7 fun x_7=>gAgg ⟨b,0,none⟩ 2 w7 fun x_8=>keyN PR D7 (.agg ⟨x_8⟩) (opt x_7 fun r_7=>mapAt w7 r_7 fun es _=>opt (Al4 (.int .i64 0) (.agg ⟨x_8⟩) es) fun f=>aInt .i64 f.1 fun x_9=>keyN PR D7 (.agg ⟨x_8⟩) (opt x_7 fun r_8=>mapAt w7 r_8 fun es_1 cl_1=>opt (D18 (.int .i64 0) (.agg ⟨x_8⟩) es_1 cl_1) fun f_1=>aInt .i64 f_1.1 fun _=>lt (H.set w7 r_8 f_1.2.2) fun w8=>keyN PR D7 (.agg ⟨x_8⟩) (opt x_7 fun r_9=>mapAt w8 r_9 fun es_2 _=>opt (Al4 (.int .i64 0) (.agg ⟨x_8⟩) es_2) fun f_2=>aInt .i64 f_2.1 fun x_11=>same (.int .i64 x_9) (.int .i64 x_11) (opt x_7 fun r_10=>mapAt w8 r_10 fun es_3 cl_3=>opt (Bj8 (f_1.2.1:Int) es_3 0) fun i=>lt (H.set w8 r_10 (.map (modN (fun e=>{ e with val:=.int .i64 (IntKind.wrap .i64 (x_9+1)) }) i es_3) cl_3)) fun w9=>R L0 Aj1 [(6,.pointer (some ⟨b_1,0,none⟩)),(8,.pointer (some ⟨b_2,0,none⟩)),(11,.pointer (some ⟨b_3,0,none⟩)),(12,.int .i64 x_6)] w9)))))
 (R L0 Aj1 [(6,.pointer (some ⟨b_1,0,none⟩)),(8,.pointer (some ⟨b_2,0,none⟩)),(11,.pointer (some ⟨b_3,0,none⟩)),(12,.int .i64 x_6)] w7))):=by kernel_rfl
theorem A37 (C:A3) (R:A4) (x6:Addr) (nonev:Addr) (v:Addr) (isv:Int) (h:H) :
 A6 PR Ad5 C R L0 Tryz.f84 100000 true Aj1 [(6,.pointer (some x6)),(8,.pointer (some nonev)),(11,.pointer (some v)),(12,.int .i64 isv)] h =
 cond (isv != 1)
 (gAgg nonev 4 h fun x=>ck (List.length x=4) (pAgg x6 x h fun w=>gAgg x6 4 w fun x_1=>some (.tuple ⟨[.agg ⟨x_1⟩,.int .i64 isv]⟩,w)))
 (gAgg v 4 h fun x_2=>ck (List.length x_2=4) (pAgg x6 x_2 h fun w1=>gAgg x6 4 w1 fun x_3=>some (.tuple ⟨[.agg ⟨x_3⟩,.int .i64 isv]⟩,w1))):=by kernel_rfl
def B91:Cuts:={ globs:=0,loops:=[],regs:=[],plans:=[] }
def D56:List Item:=A7 Tryz.f85
theorem Gf4 (C:A3) (R:A4) (b:Option Addr) (bn bc:Nat) (h:H) :
 A6 PR B91 C R A40 Tryz.f85 100000 true D56 [(0,.slice b bn bc)] h =
 nw (.cells H8 false [.int .i64 0,.int .i64 0,.int .i64 0,.int .i64 0]) h fun b_1 w=>bnd (cond (((bn:Nat):Int)==8) (bnd (C Am6 [.slice b bn bc] w) fun r w1=>aBool r fun x=>some (x,w1)) (some (false,w))) fun c w2=>cond c
 (pAgg ⟨b_1,0,none⟩ [.int .i64 0,.int .i64 0,.int .i64 0,.int .i64 0] w2 fun w3=>gAgg ⟨b_1,0,none⟩ 4 w3 fun x_1=>some (.tuple ⟨[.agg ⟨x_1⟩,.int .i64 0]⟩,w3))
 (bnd (C Bb2 [] w2) fun r_1 w4=>aPtr r_1 fun x_2=>bnd (C V4 [.pointer x_2,.slice b bn bc] w4) fun r_2 w5=>as2 r_2 fun r_3 r_4=>aAgg r_3 fun x_3=>aBool r_4 fun x_4=>nw (.cells H8 false [.int .i64 0,.int .i64 0,.int .i64 0,.int .i64 0]) w5 fun b_2 w6=>ck (List.length x_3=4) (pAgg ⟨b_2,0,none⟩ x_3 w6 fun w7=>cond (!x_4)
 (pAgg ⟨b_1,0,none⟩ [.int .i64 0,.int .i64 0,.int .i64 0,.int .i64 0] w7 fun w8=>gAgg ⟨b_1,0,none⟩ 4 w8 fun x_5=>some (.tuple ⟨[.agg ⟨x_5⟩,.int .i64 2]⟩,w8))
 (gAgg ⟨b_2,0,none⟩ 4 w7 fun x_6=>ck (List.length x_6=4) (pAgg ⟨b_1,0,none⟩ x_6 w7 fun w9=>gAgg ⟨b_1,0,none⟩ 4 w9 fun x_7=>some (.tuple ⟨[.agg ⟨x_7⟩,.int .i64 1]⟩,w9))))):=by kernel_rfl
def Bz6:Cuts:={ globs:=0,loops:=[(3,[0,1,5,10])],regs:=[],plans:=[] }
def Do3:List Item:=A7 Tryz.f88
def Ay0:List Item:=stk [0,1,0,1,0,0,1,4,5] Do3
theorem G43 (C:A3) (R:A4) (c:Option Addr) (of:Value) (h:H) :
 A6 PR Bz6 C R Aa7 Tryz.f88 100000 true Do3 [(0,.pointer c),(1,of)] h =
 R Aa7 Ay0 [(0,.pointer c),(1,of),(5,.slice none 0 0),(10,.int .i64 0)] h:=by kernel_rfl
theorem Du7 (C:A3) (R:A4) (c:Option Addr) (of:Value) (out:Option Addr) (outn outc:Nat) (x10:Int) (h:H) :
 A6 PR Bz6 C R Aa7 Tryz.f88 100000 true Ay0 [(0,.pointer c),(1,of),(5,.slice out outn outc),(10,.int .i64 x10)] h =
 cond (decide (x10<8))
 (bnd (C E2 [.pointer c,.int .i64 x10] h) fun r w=>as2 r fun r_1 r_2=>aAgg r_1 fun x=>aInt .i64 r_2 fun x_1=>nw (.cells D2 false [.int .i64 0,.int .i64 0,.int .i64 0,.int .i64 0,.int .i64 0,.int .i64 0,.int .i64 0,.int .i64 0,.int .i64 0,.int .i64 0,.int .i64 0,.int .i64 0,.int .i64 0,.int .i64 0,.int .i64 0,.int .i64 0]) w fun b w1=>ck (List.length x=16) (pAgg ⟨b,0,none⟩ x w1 fun w2=>gAgg ⟨b,0,none⟩ 16 w2 fun x_2=>ck (List.length x_2=16) (nw (.cells O0 false [.int .i64 0,.int .i64 0,.int .i64 0,.int .i64 0,.int .i64 0,.int .i64 0,.int .i64 0,.int .i64 0,.int .i64 0,.int .i64 0,.int .i64 0,.int .i64 0,.int .i64 0,.int .i64 0,.int .i64 0,.int .i64 0,.int .i64 0]) w2 fun b_1 w3=>ck (List.length (.int .i64 x10::(x_2++[]))=17) (pAgg ⟨b_1,0,none⟩ (.int .i64 x10::(x_2++[])) w3 fun w4=>bnd (cond (x_1==1) (gAgg ⟨b_1,0,none⟩ 17 w4 fun x_3=>aFn of fun g fi cp=>bnd (C g (fi++([.agg ⟨x_3⟩]++cp)) w4) fun r_3 w5=>aBool r_3 fun x_4=>some (x_4,w5)) (some (false,w4))) fun c_1 w6=>cond c_1
 (gAgg ⟨b_1,0,none⟩ 17 w6 fun x_5=>ck (List.length x_5=17) (nw (.cells O0 false (x_5++[])) w6 fun b_2 w7=>gCells (some ⟨b_2,0,none⟩) (1*17) w7 fun cs=>ckB (fitsOpen out O0 w7) (apd O0 17 out outn outc 1 cs w7 fun a an ac w8=>R Aa7 Ay0 [(0,.pointer c),(1,of),(5,.slice a an ac),(10,.int .i64 (IntKind.wrap .i64 (x10+1)))] w8)))
 (R Aa7 Ay0 [(0,.pointer c),(1,of),(5,.slice out outn outc),(10,.int .i64 (IntKind.wrap .i64 (x10+1)))] w6)))))
 (some (.slice out outn outc,h)):=by kernel_rfl
def Bm6:Cuts:={ globs:=0,loops:=[],regs:=[],plans:=[] }
def Dh9:List Item:=A7 Tryz.f90
theorem Ey6 (C:A3) (R:A4) (x:List Value) (h:H) :
 A6 PR Bm6 C R An7 Tryz.f90 100000 true Dh9 [(0,.agg ⟨x⟩)] h =
 nw (.cells O0 false x) h fun b w=>gInt .i64 (Addr.add (Addr.add ⟨b,0,none⟩ 1) 0) w fun x_1=>some (.bool (x_1 != 2),w):=by kernel_rfl
def Es8:Cuts:={ globs:=0,loops:=[],regs:=[],plans:=[] }
def Gq6:List Item:=A7 Tryz.f113
theorem Hv1 (C:A3) (R:A4) (frames:Int) (h:H) :
 A6 PR Es8 C R Du0 Tryz.f113 100000 true Gq6 [(0,.int .i64 frames)] h =
 ck ((0:Int)≤IntKind.wrap .i64 (64*(mm2 false (mm2 true frames 0) 256))∧(IntKind.wrap .i64 (64*(mm2 false (mm2 true frames 0) 256)):Int)≤IntKind.wrap .i64 (64*(mm2 false (mm2 true frames 0) 256))∧IntKind.wrap .i64 (64*(mm2 false (mm2 true frames 0) 256))≤(B4:Int)) (nw (.cells A5 false (H3 (Int.toNat (IntKind.wrap .i64 (64*(mm2 false (mm2 true frames 0) 256)))) [.int .u8 0])) h fun b w=>nw (.cells Et4 false [.slice (some ⟨b,0,none⟩) (Int.toNat (IntKind.wrap .i64 (64*(mm2 false (mm2 true frames 0) 256)))) (Int.toNat (IntKind.wrap .i64 (64*(mm2 false (mm2 true frames 0) 256))))]) w fun b_1 w1=>some (.pointer (some ⟨b_1,0,none⟩),w1)):=by kernel_rfl
def Ea9:Cuts:={ globs:=0,loops:=[],regs:=[],plans:=[] }
def E95:List Item:=A7 Tryz.f117
theorem Hn4 (C:A3) (R:A4) (lease:Int) (h:H) :
 A6 PR Ea9 C R Dl4 Tryz.f117 100000 true E95 [(0,.int .i64 lease)] h =
 nw (.cells E22 false [.int .i64 (mm2 false (mm2 true lease 1) 1000),.bool false,.int .i64 0,.int .i64 0,.int .i64 0,.slice none 0 0,.int .i64 0,.int .i64 0,.int .i64 0]) h fun b w=>some (.pointer (some ⟨b,0,none⟩),w):=by kernel_rfl
def A79:Cuts:={ globs:=0,loops:=[],regs:=[],plans:=[] }
def B21:List Item:=A7 Tryz.f118
theorem D87 (C:A3) (R:A4) (r:Option Addr) (lo:Int) (n:Int) (h:H) :
 A6 PR A79 C R Ao1 Tryz.f118 100000 true B21 [(0,.pointer r),(1,.int .i64 lo),(2,.int .i64 n)] h =
 bnd (cond (decide (lo<0)) (some (true,h)) (some (decide (n<0),h))) fun c w=>bnd (cond c (some (true,w)) (aSome r fun p=>gPtr (Addr.add p 0) w fun x=>bnd (C A39 [.pointer x] w) fun r_1 w1=>aInt .i64 r_1 fun x_1=>some (decide (lo>x_1),w1))) fun c_1 w2=>bnd (cond c_1 (some (true,w2)) (aSome r fun p_1=>gPtr (Addr.add p_1 0) w2 fun x_2=>bnd (C A39 [.pointer x_2] w2) fun r_2 w3=>aInt .i64 r_2 fun x_3=>some (decide (n>(IntKind.wrap .i64 (x_3-lo))),w3))) fun c_2 w4=>cond c_2
 (some (.tuple ⟨[.int .i64 0,.int .i64 1]⟩,w4))
 (aSome r fun p_2=>gSl (Addr.add p_2 2) w4 fun _ xn _=>cond (decide (((xn:Nat):Int)≥32))
 (some (.tuple ⟨[.int .i64 0,.int .i64 4]⟩,w4))
 (aSome r fun p_3=>gSl (Addr.add p_3 2) w4 fun x_5 xn_1 xc_1=>nw (.cells Aw6 false [.int .i64 lo,.int .i64 n]) w4 fun b w5=>gCells (some ⟨b,0,none⟩) (1*2) w5 fun cs=>ckB (fitsOpen x_5 Aw6 w5) (apd Aw6 2 x_5 xn_1 xc_1 1 cs w5 fun a an ac w6=>aSome r fun p_4=>pV (Addr.add p_4 2) (.slice a an ac) w6 fun w7=>aSome r fun p_5=>gSl (Addr.add p_5 2) w7 fun _ xn_2 _=>some (.tuple ⟨[.int .i64 (IntKind.wrap .i64 (((xn_2:Nat):Int)-1)),.int .i64 0]⟩,w7)))):=by kernel_rfl
def Bf5:Cuts:={ globs:=0,loops:=[(3,[0,3,4])],regs:=[],plans:=[(5,⟨[0,1,2,3,4,5,6,7,8,9,10],[0,0,2,6,14,0,32,126,255,511,1023],[(5,[4])],[]⟩),(6,⟨[0,1,2,3,4,5,6,7,8,9,10],[0,0,2,6,14,0,32,126,255,511,1023],[],[]⟩)] }
def Bz1:List Item:=A7 Tryz.f124
def Ay3:List Item:=stk [0,1,0,1,0,0,1,4,5] Bz1
theorem Gd6 (C:A3) (R:A4) (envs:Int) (h:H) :
 A6 PR Bf5 C R Z7 Tryz.f124 100000 true Bz1 [(0,.int .i64 envs)] h =
 nw (.cells Ep6 false [.slice none 0 0,.slice none 0 0]) h fun b w=>R Z7 Ay3 [(0,.int .i64 envs),(3,.pointer (some ⟨b,0,none⟩)),(4,.int .i64 0)] w:=by kernel_rfl
theorem Dd8 (C:A3) (R:A4) (envs:Int) (s:Addr) (i:Int) (h:H) :
 A6 PR Bf5 C R Z7 Tryz.f124 100000 true Ay3 [(0,.int .i64 envs),(3,.pointer (some s)),(4,.int .i64 i)] h =
 bnd (cond (decide (i<envs)) (some (decide (i<40),h)) (some (false,h))) fun c w=>cond c
 (gSl (Addr.add s 0) w fun x xn xc=>bnd (C Z9 [.int .i64 32] w) fun r w1=>aPtr r fun x_1=>gSl (Addr.add s 0) w1 fun x_2 xn_1 xc_1=>same (.slice x xn xc) (.slice x_2 xn_1 xc_1) (nw (.cells A48 false [.pointer x_1]) w1 fun b w2=>gCells (some ⟨b,0,none⟩) (1*1) w2 fun cs=>ckB (fitsOpen x A48 w2) (apd A48 1 x xn xc 1 cs w2 fun a an ac w3=>pV (Addr.add s 0) (.slice a an ac) w3 fun w4=>gSl (Addr.add s 1) w4 fun x_3 xn_2 xc_2=>ck ((0:Int)≤32∧(32:Int)≤32∧32≤(B4:Int)) (nw (.cells O9 false (H3 (Int.toNat 32) [.int .i64 0,.int .i64 0,.int .i64 0,.int .i64 0,.int .i64 0,.int .i64 0])) w4 fun b_1 w5=>nw (.cells Bo4 false [.slice (some ⟨b_1,0,none⟩) (Int.toNat 32) (Int.toNat 32)]) w5 fun b_2 w6=>gCells (some ⟨b_2,0,none⟩) (1*1) w6 fun cs_1=>ckB (fitsOpen x_3 Bo4 w6) (apd Bo4 1 x_3 xn_2 xc_2 1 cs_1 w6 fun a_1 an_1 ac_1 w7=>pV (Addr.add s 1) (.slice a_1 an_1 ac_1) w7 fun w8=>R Z7 Ay3 [(0,.int .i64 envs),(3,.pointer (some s)),(4,.int .i64 (IntKind.wrap .i64 (i+1)))] w8)))))
 (some (.pointer (some s),w)):=by kernel_rfl
def B68:Cuts:={ globs:=0,loops:=[],regs:=[],plans:=[] }
def D42:List Item:=A7 Tryz.f125
theorem Gh6 (C:A3) (R:A4) (lease:Int) (h:H) :
 A6 PR B68 C R Bl8 Tryz.f125 100000 true D42 [(0,.int .i64 lease)] h =
 nw (.cells E25 false [.int .i64 (mm2 false (mm2 true lease 1) 1000),.int .i64 0,.int .i64 0,.int .i64 0,.int .i64 0,.int .i64 0,.bool false,.int .i64 0,.slice none 0 0]) h fun b w=>some (.pointer (some ⟨b,0,none⟩),w):=by kernel_rfl
def Dv8:Cuts:={ globs:=0,loops:=[(2,[0,1,5])],regs:=[],plans:=[] }
def Er2:List Item:=A7 Tryz.f127
def B41:List Item:=stk [0,1,0,0,1,4,5] Er2
theorem H09 (C:A3) (R:A4) (l:Option Addr) (ln lc:Nat) (s:Int) (h:H) :
 A6 PR Dv8 C R A67 Tryz.f127 100000 true Er2 [(0,.slice l ln lc),(1,.int .i64 s)] h =
 R A67 B41 [(0,.slice l ln lc),(1,.int .i64 s),(5,.int .i64 0)] h:=by kernel_rfl
theorem En9 (C:A3) (R:A4) (l:Option Addr) (ln lc:Nat) (s:Int) (i:Int) (h:H) :
 A6 PR Dv8 C R A67 Tryz.f127 100000 true B41 [(0,.slice l ln lc),(1,.int .i64 s),(5,.int .i64 i)] h =
 cond (decide (i<((ln:Nat):Int)))
 (aSome l fun p=>ck ((0:Int)≤i∧i<((ln:Nat):Int)) (gInt .i64 (Addr.add (B7 p) (Int.toNat i*1)) h fun x=>cond (x==s)
 (some (.bool true,h))
 (R A67 B41 [(0,.slice l ln lc),(1,.int .i64 s),(5,.int .i64 (IntKind.wrap .i64 (i+1)))] h)))
 (some (.bool false,h)):=by kernel_rfl
def Do7:Cuts:={ globs:=0,loops:=[],regs:=[],plans:=[] }
def Eo1:List Item:=A7 Tryz.f143
theorem G22 (C:A3) (R:A4)  (h:H) :
 A6 PR Do7 C R Bg8 Tryz.f143 100000 true Eo1 [] h =
 bnd (C Ao2 [.int .i64 40,.func (.func Bk6) ⟨[]⟩ ⟨[]⟩,.func (.func Bk8) ⟨[]⟩ ⟨[]⟩] h) fun r w=>aPtr r fun x=>some (.pointer x,w):=by kernel_rfl
def Ag9:Cuts:={ globs:=0,loops:=[],regs:=[],plans:=[(4,⟨[0,1,2,3,4,10,5,6,7,8,9,11,12],[0,1,3,7,0,16,63,127,255,255,0,1535,4095],[(5,[3])],[]⟩)] }
def A20:List Item:=A7 Tryz.f148
theorem B50 (C:A3) (R:A4) (c:Option Addr) (b:Option Addr) (bn bc:Nat) (h:H) :
 A6 PR Ag9 C R V3 Tryz.f148 100000 true A20 [(0,.pointer c),(1,.slice b bn bc)] h =
 nw (.cells I4 false [.int .i64 0,.int .i64 0,.int .i64 0,.int .i64 0,.int .u8 0,.int .u8 0,.int .u8 0,.int .u8 0,.int .u8 0,.int .u8 0,.int .u8 0,.int .u8 0,.int .u8 0,.int .u8 0,.int .u8 0,.int .u8 0,.int .u8 0,.int .u8 0,.int .u8 0,.int .u8 0,.int .u8 0,.int .u8 0,.int .u8 0,.int .u8 0,.int .u8 0,.int .u8 0,.int .u8 0,.int .u8 0,.int .u8 0,.int .u8 0,.int .u8 0,.int .u8 0,.int .u8 0,.int .u8 0,.int .u8 0,.int .u8 0]) h fun b_1 w=>nw (.cells I4 false [.int .i64 0,.int .i64 0,.int .i64 0,.int .i64 0,.int .u8 0,.int .u8 0,.int .u8 0,.int .u8 0,.int .u8 0,.int .u8 0,.int .u8 0,.int .u8 0,.int .u8 0,.int .u8 0,.int .u8 0,.int .u8 0,.int .u8 0,.int .u8 0,.int .u8 0,.int .u8 0,.int .u8 0,.int .u8 0,.int .u8 0,.int .u8 0,.int .u8 0,.int .u8 0,.int .u8 0,.int .u8 0,.int .u8 0,.int .u8 0,.int .u8 0,.int .u8 0,.int .u8 0,.int .u8 0,.int .u8 0,.int .u8 0]) w fun b_2 w1=>aSome c fun p=>gFv (Addr.add p 2) w1 fun x=>isNilF x fun b_3=>bnd (cond b_3 (some (true,w1)) (aSome c fun p_1=>gInt .i64 (Addr.add p_1 0) w1 fun x_1=>some (((bn:Nat):Int) != x_1,w1))) fun c_1 w2=>cond c_1
 (gAgg ⟨b_2,0,none⟩ 36 w2 fun x_2=>ck (List.length x_2=36) (pAgg ⟨b_1,0,none⟩ x_2 w2 fun w3=>gAgg ⟨b_1,0,none⟩ 36 w3 fun x_3=>some (.tuple ⟨[.agg ⟨x_3⟩,.bool false]⟩,w3)))
 (aSome c fun p_2=>gFv (Addr.add p_2 2) w2 fun x_4=>nw (.cells I4 false [.int .i64 0,.int .i64 0,.int .i64 0,.int .i64 0,.int .u8 0,.int .u8 0,.int .u8 0,.int .u8 0,.int .u8 0,.int .u8 0,.int .u8 0,.int .u8 0,.int .u8 0,.int .u8 0,.int .u8 0,.int .u8 0,.int .u8 0,.int .u8 0,.int .u8 0,.int .u8 0,.int .u8 0,.int .u8 0,.int .u8 0,.int .u8 0,.int .u8 0,.int .u8 0,.int .u8 0,.int .u8 0,.int .u8 0,.int .u8 0,.int .u8 0,.int .u8 0,.int .u8 0,.int .u8 0,.int .u8 0,.int .u8 0]) w2 fun b_4 w4=>bnd (C G3 [.slice b bn bc] w4) fun r w5=>aSl r fun x_5 xn xc=>gFv (Addr.add p_2 2) w5 fun x_6=>Bk7 (x_4) (x_6) (aFn x_4 fun g fi cp=>bnd (C g (fi++([.slice x_5 xn xc]++cp)) w5) fun r_1 w6=>as2 r_1 fun r_2 r_3=>aAgg r_2 fun x_7=>aBool r_3 fun x_8=>ck (List.length x_7=36) (pAgg ⟨b_4,0,none⟩ x_7 w6 fun w7=>cond (!x_8)
 (gAgg ⟨b_2,0,none⟩ 36 w7 fun x_9=>ck (List.length x_9=36) (pAgg ⟨b_1,0,none⟩ x_9 w7 fun w8=>gAgg ⟨b_1,0,none⟩ 36 w8 fun x_10=>some (.tuple ⟨[.agg ⟨x_10⟩,.bool false]⟩,w8)))
 (gAgg ⟨b_4,0,none⟩ 36 w7 fun x_11=>ck (List.length x_11=36) (pAgg ⟨b_1,0,none⟩ x_11 w7 fun w9=>gAgg ⟨b_1,0,none⟩ 36 w9 fun x_12=>some (.tuple ⟨[.agg ⟨x_12⟩,.bool true]⟩,w9)))))):=by kernel_rfl
def A61:Cuts:={ globs:=0,loops:=[],regs:=[],plans:=[] }
def Bx1:List Item:=A7 Tryz.f151
theorem D46 (C:A3) (R:A4) (r:Option Addr) (env:Int) (fromv:Int) (atv:Int) (to:Int) (on:Int) (n:Int) (h:H) :
 A6 PR A61 C R Am0 Tryz.f151 100000 true Bx1 [(0,.pointer r),(1,.int .i64 env),(2,.int .i64 fromv),(3,.int .i64 atv),(4,.int .i64 to),(5,.int .i64 on),(6,.int .i64 n)] h =
 bnd (C Ac3 [.pointer r,.int .i64 env,.int .i64 fromv,.int .i64 atv,.int .i64 n] h) fun r_1 w=>as2 r_1 fun r_2 r_3=>aSl r_2 fun x xn xc=>aInt .i64 r_3 fun x_1=>cond (x_1 != 0)
 (some (.int .i64 x_1,w))
 (bnd (C Aa8 [.pointer r,.int .i64 env,.int .i64 to,.int .i64 on,.slice x xn xc] w) fun r_4 w1=>aInt .i64 r_4 fun x_2=>some (.int .i64 x_2,w1)):=by kernel_rfl
def Bi7:Cuts:={ globs:=0,loops:=[],regs:=[],plans:=[] }
def Db8:List Item:=A7 Tryz.f152
theorem En5 (C:A3) (R:A4) (s:Option Addr) (env:Int) (name:Int) (to:Int) (give:Int) (lo:Int) (n:Int) (h:H) :
 A6 PR Bi7 C R Ax4 Tryz.f152 100000 true Db8 [(0,.pointer s),(1,.int .i64 env),(2,.int .i64 name),(3,.int .i64 to),(4,.int .i64 give),(5,.int .i64 lo),(6,.int .i64 n)] h =
 bnd (C At7 [.pointer s,.int .i64 env,.int .i64 name] h) fun r w=>as2 r fun r_1 r_2=>aAgg r_1 fun x=>aInt .i64 r_2 fun x_1=>nw (.cells O9 false [.int .i64 0,.int .i64 0,.int .i64 0,.int .i64 0,.int .i64 0,.int .i64 0]) w fun b w1=>ck (List.length x=6) (pAgg ⟨b,0,none⟩ x w1 fun w2=>cond (x_1 != 0)
 (some (.tuple ⟨[.int .i64 0,.int .i64 x_1]⟩,w2))
 (gInt .i64 (Addr.add ⟨b,0,none⟩ 1) w2 fun x_2=>bnd (cond ((P5 .i64 x_2 4)==0) (some (true,w2)) (gInt .i64 (Addr.add ⟨b,0,none⟩ 1) w2 fun x_3=>some ((En1 .i64 give x_3) != 0,w2))) fun c w3=>cond c
 (some (.tuple ⟨[.int .i64 0,.int .i64 3]⟩,w3))
 (bnd (C Ae6 [.pointer s,.int .i64 to] w3) fun r_3 w4=>aBool r_3 fun x_4=>bnd (cond (!x_4) (some (true,w4)) (some (decide (lo<0),w4))) fun c_1 w5=>bnd (cond c_1 (some (true,w5)) (some (decide (n<0),w5))) fun c_2 w6=>bnd (cond c_2 (some (true,w6)) (gInt .i64 (Addr.add ⟨b,0,none⟩ 3) w6 fun x_5=>some (decide (lo>x_5),w6))) fun c_3 w7=>bnd (cond c_3 (some (true,w7)) (gInt .i64 (Addr.add ⟨b,0,none⟩ 3) w7 fun x_6=>some (decide (n>(IntKind.wrap .i64 (x_6-lo))),w7))) fun c_4 w8=>cond c_4
 (some (.tuple ⟨[.int .i64 0,.int .i64 1]⟩,w8))
 (gInt .i64 (Addr.add ⟨b,0,none⟩ 0) w8 fun x_7=>gInt .i64 (Addr.add ⟨b,0,none⟩ 2) w8 fun x_8=>bnd (C As9 [.pointer s,.int .i64 to,.agg ⟨[.int .i64 x_7,.int .i64 give,.int .i64 (IntKind.wrap .i64 (x_8+lo)),.int .i64 n,.int .i64 env,.int .i64 name]⟩] w8) fun r_4 w9=>as2 r_4 fun r_5 r_6=>aInt .i64 r_5 fun x_9=>aInt .i64 r_6 fun x_10=>some (.tuple ⟨[.int .i64 x_9,.int .i64 x_10]⟩,w9))))):=by kernel_rfl
def Ag4:Cuts:={ globs:=0,loops:=[],regs:=[],plans:=[(2,⟨[0,1,2,3,4,5,6,7,8,9,10,11,12,13,14],[0,1,3,7,15,31,63,127,255,511,63,63,4095,8191,16383],[],[]⟩)] }
def A17:List Item:=A7 Tryz.f160
theorem B52 (C:A3) (R:A4) (c:Option Addr) (v:List Value) (h:H) :
 A6 PR Ag4 C R V2 Tryz.f160 100000 true A17 [(0,.pointer c),(1,.agg ⟨v⟩)] h =
 nw (.cells D2 false v) h fun b w=>aSome c fun p=>gInt .i64 (Addr.add p 0) w fun x=>ck ((0:Int)≤x∧(x:Int)≤x∧x≤(B4:Int)) (nw (.cells A5 false (H3 (Int.toNat x) [.int .u8 0])) w fun b_1 w1=>aSome c fun p_1=>gFv (Addr.add p_1 1) w1 fun x_1=>isNilF x_1 fun b_2=>bnd (cond b_2 (some (true,w1)) (aSome c fun p_2=>gFv (Addr.add p_2 1) w1 fun x_2=>gAgg ⟨b,0,none⟩ 16 w1 fun x_3=>aFn x_2 fun g fi cp=>bnd (C g (fi++([.agg ⟨x_3⟩,.slice (some ⟨b_1,0,none⟩) (Int.toNat x) (Int.toNat x)]++cp)) w1) fun r w2=>aBool r fun x_4=>some (!x_4,w2))) fun c_1 w3=>cond c_1
 (some (.tuple ⟨[.slice none 0 0,.bool false]⟩,w3))
 (some (.tuple ⟨[.slice (some ⟨b_1,0,none⟩) (Int.toNat x) (Int.toNat x),.bool true]⟩,w3))):=by kernel_rfl
def Ag6:Cuts:={ globs:=0,loops:=[],regs:=[],plans:=[(4,⟨[0,1,2,3,4,10,5,6,7,8,9,11,12],[0,1,3,7,0,16,63,127,255,255,0,1535,4095],[(5,[3])],[]⟩)] }
def A16:List Item:=A7 Tryz.f166
theorem B46 (C:A3) (R:A4) (c:Option Addr) (b:Option Addr) (bn bc:Nat) (h:H) :
 A6 PR Ag6 C R V4 Tryz.f166 100000 true A16 [(0,.pointer c),(1,.slice b bn bc)] h =
 nw (.cells H8 false [.int .i64 0,.int .i64 0,.int .i64 0,.int .i64 0]) h fun b_1 w=>nw (.cells H8 false [.int .i64 0,.int .i64 0,.int .i64 0,.int .i64 0]) w fun b_2 w1=>aSome c fun p=>gFv (Addr.add p 2) w1 fun x=>isNilF x fun b_3=>bnd (cond b_3 (some (true,w1)) (aSome c fun p_1=>gInt .i64 (Addr.add p_1 0) w1 fun x_1=>some (((bn:Nat):Int) != x_1,w1))) fun c_1 w2=>cond c_1
 (gAgg ⟨b_2,0,none⟩ 4 w2 fun x_2=>ck (List.length x_2=4) (pAgg ⟨b_1,0,none⟩ x_2 w2 fun w3=>gAgg ⟨b_1,0,none⟩ 4 w3 fun x_3=>some (.tuple ⟨[.agg ⟨x_3⟩,.bool false]⟩,w3)))
 (aSome c fun p_2=>gFv (Addr.add p_2 2) w2 fun x_4=>nw (.cells H8 false [.int .i64 0,.int .i64 0,.int .i64 0,.int .i64 0]) w2 fun b_4 w4=>bnd (C G3 [.slice b bn bc] w4) fun r w5=>aSl r fun x_5 xn xc=>gFv (Addr.add p_2 2) w5 fun x_6=>Bk7 (x_4) (x_6) (aFn x_4 fun g fi cp=>bnd (C g (fi++([.slice x_5 xn xc]++cp)) w5) fun r_1 w6=>as2 r_1 fun r_2 r_3=>aAgg r_2 fun x_7=>aBool r_3 fun x_8=>ck (List.length x_7=4) (pAgg ⟨b_4,0,none⟩ x_7 w6 fun w7=>cond (!x_8)
 (gAgg ⟨b_2,0,none⟩ 4 w7 fun x_9=>ck (List.length x_9=4) (pAgg ⟨b_1,0,none⟩ x_9 w7 fun w8=>gAgg ⟨b_1,0,none⟩ 4 w8 fun x_10=>some (.tuple ⟨[.agg ⟨x_10⟩,.bool false]⟩,w8)))
 (gAgg ⟨b_4,0,none⟩ 4 w7 fun x_11=>ck (List.length x_11=4) (pAgg ⟨b_1,0,none⟩ x_11 w7 fun w9=>gAgg ⟨b_1,0,none⟩ 4 w9 fun x_12=>some (.tuple ⟨[.agg ⟨x_12⟩,.bool true]⟩,w9)))))):=by kernel_rfl
def An0:Cuts:={ globs:=0,loops:=[],regs:=[],plans:=[] }
def Bc1:List Item:=A7 Tryz.f172
theorem Dg6 (C:A3) (R:A4) (c:Option Addr) (i:Int) (h:H) :
 A6 PR An0 C R Ab4 Tryz.f172 100000 true Bc1 [(0,.pointer c),(1,.int .i64 i)] h =
 bnd (C As4 [.int .i64 i] h) fun r w=>aAgg r fun x=>bnd (C Q2 [.pointer c,.agg ⟨x⟩] w) fun r_1 w1=>aBool r_1 fun x_1=>some (.bool x_1,w1):=by kernel_rfl
def Do4:Cuts:={ globs:=0,loops:=[],regs:=[],plans:=[] }
def Ek6:List Item:=A7 Tryz.f176
theorem G17 (C:A3) (R:A4) (c:List Value) (x:List Value) (h:H) :
 A6 PR Do4 C R B18 Tryz.f176 100000 true Ek6 [(0,.agg ⟨c⟩),(1,.agg ⟨x⟩)] h =
 nw (.cells D9 false c) h fun b w=>nw (.cells I5 false x) w fun b_1 w1=>gInt .i64 (Addr.add ⟨b_1,0,none⟩ 0) w1 fun x_1=>bnd (cond (decide (x_1<0)) (some (true,w1)) (gInt .i64 (Addr.add ⟨b_1,0,none⟩ 0) w1 fun x_2=>gSl (Addr.add ⟨b,0,none⟩ 0) w1 fun _ xn _=>some (decide (x_2≥((xn:Nat):Int)),w1))) fun c_1 w2=>bnd (cond c_1 (some (true,w2)) (gInt .i64 (Addr.add ⟨b_1,0,none⟩ 1) w2 fun x_4=>some (decide (x_4<0),w2))) fun c_2 w3=>bnd (cond c_2 (some (true,w3)) (gInt .i64 (Addr.add ⟨b_1,0,none⟩ 2) w3 fun x_5=>some (decide (x_5<0),w3))) fun c_3 w4=>bnd (cond c_3 (some (true,w4)) (gInt .i64 (Addr.add ⟨b_1,0,none⟩ 3) w4 fun x_6=>some (decide (x_6<0),w4))) fun c_4 w5=>cond c_4
 (some (.bool false,w5))
 (gSl (Addr.add ⟨b,0,none⟩ 0) w5 fun x_7 xn_1 _=>gInt .i64 (Addr.add ⟨b_1,0,none⟩ 0) w5 fun x_8=>aSome x_7 fun p=>ck ((0:Int)≤x_8∧x_8<((xn_1:Nat):Int)) (gInt .i64 (Addr.add (B7 p) (Int.toNat x_8*1)) w5 fun x_9=>bnd (C Ba3 [.int .i64 x_9] w5) fun r w6=>aInt .i64 r fun x_10=>gInt .i64 (Addr.add ⟨b_1,0,none⟩ 1) w6 fun x_11=>cond (decide (x_11>x_10))
 (some (.bool false,w6))
 (gInt .i64 (Addr.add ⟨b_1,0,none⟩ 1) w6 fun x_12=>gInt .i64 (Addr.add ⟨b_1,0,none⟩ 2) w6 fun x_13=>bnd (cond (decide (x_13≤(IntKind.wrap .i64 ((IntKind.wrap .i64 (x_10-x_12))*64)))) (gInt .i64 (Addr.add ⟨b_1,0,none⟩ 3) w6 fun x_14=>gInt .i64 (Addr.add ⟨b_1,0,none⟩ 2) w6 fun x_15=>some (decide (x_14≤(IntKind.wrap .i64 ((IntKind.wrap .i64 ((IntKind.wrap .i64 (x_10-x_12))*64))-x_15))),w6)) (some (false,w6))) fun c_5 w7=>some (.bool c_5,w7)))):=by kernel_rfl
def Av4:Cuts:={ globs:=0,loops:=[(3,[3,15,16])],regs:=[],plans:=[] }
def Bd5:List Item:=A7 Tryz.f177
def Aj2:List Item:=stk [0,1,0,1,0,0,1,4,5] Bd5
theorem Ei5 (C:A3) (R:A4) (size:Int) (h:H) :
 A6 PR Av4 C R P2 Tryz.f177 100000 true Bd5 [(0,.int .i64 size)] h =
 ck ((0:Int)≤mm2 false (mm2 true size 0) 256∧(mm2 false (mm2 true size 0) 256:Int)≤mm2 false (mm2 true size 0) 256∧mm2 false (mm2 true size 0) 256≤(B4:Int)) (nw (.cells Al1 false (H3 (Int.toNat (mm2 false (mm2 true size 0) 256)) [.int .i64 0,.int .i64 0,.int .i64 0,.int .i64 0,.int .i64 0,.int .i64 0,.int .i64 0,.bool false])) h fun b w=>nw (.cells Bw0 false [.slice (some ⟨b,0,none⟩) (Int.toNat (mm2 false (mm2 true size 0) 256)) (Int.toNat (mm2 false (mm2 true size 0) 256))]) w fun b_1 w1=>gSl (Addr.add ⟨b_1,0,none⟩ 0) w1 fun _ xn _=>R P2 Aj2 [(3,.pointer (some ⟨b_1,0,none⟩)),(15,.int .i64 ((xn:Nat):Int)),(16,.int .i64 0)] w1):=by kernel_rfl
theorem Bo1 (C:A3) (R:A4) (t:Addr) (x15:Int) (x16:Int) (h:H) :
 A6 PR Av4 C R P2 Tryz.f177 100000 true Aj2 [(3,.pointer (some t)),(15,.int .i64 x15),(16,.int .i64 x16)] h =
 cond (decide (x16<x15))
 (gSl (Addr.add t 0) h fun x xn _=>aSome x fun p=>ck ((0:Int)≤x16∧x16<((xn:Nat):Int)) (pV (Addr.add (Addr.add (B7 p) (Int.toNat x16*8)) 6) (.int .i64 1) h fun w=>R P2 Aj2 [(3,.pointer (some t)),(15,.int .i64 x15),(16,.int .i64 (IntKind.wrap .i64 (x16+1)))] w))
 (some (.pointer (some t),h)):=by kernel_rfl
def Df1:Cuts:={ globs:=0,loops:=[],regs:=[],plans:=[] }
def Eh7:List Item:=A7 Tryz.f183
theorem Gr6 (C:A3) (R:A4) (atv:Int) (n:Int) (size:Int) (h:H) :
 A6 PR Df1 C R Af8 Tryz.f183 100000 true Eh7 [(0,.int .i64 atv),(1,.int .i64 n),(2,.int .i64 size)] h =
 bnd (cond (decide (atv≥0)) (some (decide (n≥0),h)) (some (false,h))) fun c w=>bnd (cond c (some (decide (atv≤size),w)) (some (false,w))) fun c_1 w1=>bnd (cond c_1 (some (decide (n≤(IntKind.wrap .i64 (size-atv))),w1)) (some (false,w1))) fun c_2 w2=>some (.bool c_2,w2):=by kernel_rfl
def Am7:Cuts:={ globs:=0,loops:=[],regs:=[],plans:=[] }
def Bc6:List Item:=A7 Tryz.f195
theorem De9 (C:A3) (R:A4) (t:Option Addr) (i:Int) (h:H) :
 A6 PR Am7 C R N7 Tryz.f195 100000 true Bc6 [(0,.pointer t),(1,.int .i64 i)] h =
 aSome t fun p=>gSl (Addr.add p 0) h fun x xn _=>aSome x fun p_1=>ck ((0:Int)≤i∧i<((xn:Nat):Int)) (gInt .i64 (Addr.add (Addr.add (B7 p_1) (Int.toNat i*8)) 6) h fun x_1=>some (.int .i64 (IntKind.wrap .i64 (i+(IntKind.wrap .i64 (256*x_1)))),h)):=by kernel_rfl
def Ef5:Cuts:={ globs:=0,loops:=[],regs:=[],plans:=[(5,⟨[0,1,2,3,4],[0,1,0,4,15],[],[]⟩)] }
def E87:List Item:=A7 Tryz.f197
theorem Hk9 (C:A3) (R:A4) (p:List Value) (b:Option Addr) (bn bc:Nat) (h:H) :
 A6 PR Ef5 C R Bk6 Tryz.f197 100000 true E87 [(0,.agg ⟨p⟩),(1,.slice b bn bc)] h =
 nw (.cells I4 false p) h fun b_1 w=>gAgg ⟨b_1,0,none⟩ 36 w fun x=>bnd (C Du3 [.agg ⟨x⟩] w) fun r w1=>aBool r fun x_1=>cond (!x_1)
 (some (.bool false,w1))
 (gInt .i64 (Addr.add ⟨b_1,0,none⟩ 0) w1 fun x_2=>gInt .i64 (Addr.add ⟨b_1,0,none⟩ 1) w1 fun x_3=>gInt .i64 (Addr.add ⟨b_1,0,none⟩ 2) w1 fun x_4=>gInt .i64 (Addr.add ⟨b_1,0,none⟩ 3) w1 fun x_5=>nw (.cells A5 false [.int .u8 1,.int .u8 (IntKind.wrap .u8 (x_2)),.int .u8 (IntKind.wrap .u8 (x_3)),.int .u8 (IntKind.wrap .u8 (x_4)),.int .u8 (IntKind.wrap .u8 (x_5)),.int .u8 197]) w1 fun b_2 w2=>gCells (some ⟨b_2,0,none⟩) (min 6 bn*1) w2 fun cs=>pCells b cs w2 fun w3=>ckB (fitsOpen b A5 w3) (ck ((0:Int)≤6∧6≤((bc:Nat):Int)) (bnd (C Aa0 [.slice (H2 b (decide (0<bc)) (0*1)) ((Int.toNat 6)-0) (bc-0)] w3) fun r_1 w4=>aInt .u8 r_1 fun x_6=>aSome b fun p_1=>ck ((0:Int)≤6∧6<((bn:Nat):Int)) (pV (Addr.add (B7 p_1) (Int.toNat 6*1)) (.int .u8 x_6) w4 fun w5=>ckB (fitsOpen b A5 w5) (ck ((0:Int)≤8∧8≤((bn:Nat):Int)) (ckB (liveA (Addr.add ⟨b_1,0,none⟩ 4) w5) (gCells (H2 (some (Addr.add ⟨b_1,0,none⟩ 4)) (decide (0<32)) (0*1)) (min (32-0) (bn-(Int.toNat 8))*1) w5 fun cs_1=>pCells (H2 b (decide (Int.toNat 8<bc)) ((Int.toNat 8)*1)) cs_1 w5 fun w6=>some (.bool true,w6)))))))):=by kernel_rfl
def Ab2:Cuts:={ globs:=0,loops:=[],regs:=[],plans:=[] }
def As2:List Item:=A7 Tryz.f199
theorem Bo3 (C:A3) (R:A4) (s:Option Addr) (sn sc:Nat) (f:Value) (h:H) :
 A6 PR Ab2 C R P8 Tryz.f199 100000 true As2 [(0,.slice s sn sc),(1,f)] h =
 bnd (C E8 [.slice s sn sc,f] h) fun r w=>aInt .i64 r fun x=>some (.bool (decide (x≥0)),w):=by kernel_rfl
def Bm7:Cuts:={ globs:=0,loops:=[],regs:=[],plans:=[] }
def Dg7:List Item:=A7 Tryz.f210
theorem Ew9 (C:A3) (R:A4) (s:Option Addr) (who:Int) (stamp:Int) (h:H) :
 A6 PR Bm7 C R A31 Tryz.f210 100000 true Dg7 [(0,.pointer s),(1,.int .i64 who),(2,.int .i64 stamp)] h =
 bnd (C A27 [.pointer s,.int .i64 who,.int .i64 stamp] h) fun r w=>aBool r fun x=>cond (!x)
 (some (.bool false,w))
 (aSome s fun p=>pV (Addr.add p 1) (.bool false) w fun w1=>aSome s fun p_1=>gInt .i64 (Addr.add p_1 7) w1 fun x_1=>aSome s fun p_2=>pV (Addr.add p_2 6) (.int .i64 x_1) w1 fun w2=>some (.bool true,w2)):=by kernel_rfl
def Bq2:Cuts:={ globs:=0,loops:=[(3,[0,2,4,31,32,33]),(8,[0,2,4,49])],regs:=[],plans:=[(1,⟨[0,1,2,3,4,5,6,7,8,9,10,11,12,13,14,15,16,17,18],[0,1,3,7,0,16,48,112,0,256,768,1792,0,4096,12288,28672,65535,0,262143],[],[]⟩),(13,⟨[0,1,2,3,4,5,6,7,8],[0,0,2,6,6,30,62,63,255],[(5,[0])],[]⟩)] }
def B99:List Item:=A7 Tryz.f213
def B59:List Item:=stk [0,1,0,1,0,0,1,4,5] B99
def B58:List Item:=stk [0,1,0,1,0,1,0,0,1,4,5] B99
theorem Ha5 (C:A3) (R:A4) (b:Option Addr) (bn bc:Nat) (h:H) :
 A6 PR Bq2 C R W5 Tryz.f213 100000 true B99 [(0,.slice b bn bc)] h =
 nw (.cells D2 false [.int .i64 0,.int .i64 0,.int .i64 0,.int .i64 0,.int .i64 0,.int .i64 0,.int .i64 0,.int .i64 0,.int .i64 0,.int .i64 0,.int .i64 0,.int .i64 0,.int .i64 0,.int .i64 0,.int .i64 0,.int .i64 0]) h fun b_1 w=>aSome b fun p=>ck ((0:Int)≤0∧0<((bn:Nat):Int)) (gInt .u8 (Addr.add (B7 p) (Int.toNat 0*1)) w fun x=>aSome b fun p_1=>ck ((0:Int)≤1∧1<((bn:Nat):Int)) (gInt .u8 (Addr.add (B7 p_1) (Int.toNat 1*1)) w fun x_1=>aSome b fun p_2=>ck ((0:Int)≤2∧2<((bn:Nat):Int)) (gInt .u8 (Addr.add (B7 p_2) (Int.toNat 2*1)) w fun x_2=>aSome b fun p_3=>ck ((0:Int)≤3∧3<((bn:Nat):Int)) (gInt .u8 (Addr.add (B7 p_3) (Int.toNat 3*1)) w fun x_3=>nw (.cells D2 false [.int .i64 0,.int .i64 0,.int .i64 0,.int .i64 0,.int .i64 0,.int .i64 0,.int .i64 0,.int .i64 0,.int .i64 0,.int .i64 0,.int .i64 0,.int .i64 0,.int .i64 0,.int .i64 0,.int .i64 0,.int .i64 0]) w fun b_2 w1=>pAgg ⟨b_2,0,none⟩ [.int .i64 (IntKind.wrap .i64 (x)),.int .i64 (IntKind.wrap .i64 (x_1)),.int .i64 (IntKind.wrap .i64 (x_2)),.int .i64 (IntKind.wrap .i64 (x_3)),.int .i64 0,.int .i64 0,.int .i64 0,.int .i64 0,.int .i64 0,.int .i64 0,.int .i64 0,.int .i64 0,.int .i64 0,.int .i64 0,.int .i64 0,.int .i64 0] w1 fun w2=>nw (.cells Ie6 false [.pointer (some (Addr.add ⟨b_2,0,none⟩ 4)),.pointer (some (Addr.add ⟨b_2,0,none⟩ 5)),.pointer (some (Addr.add ⟨b_2,0,none⟩ 6)),.pointer (some (Addr.add ⟨b_2,0,none⟩ 7))]) w2 fun b_3 w3=>R W5 B59 [(0,.slice b bn bc),(2,.pointer (some ⟨b_1,0,none⟩)),(4,.pointer (some ⟨b_2,0,none⟩)),(31,.slice (some ⟨b_3,0,none⟩) 4 4),(32,.int .i64 4),(33,.int .i64 0)] w3)))):=by kernel_rfl
theorem A57 (C:A3) (R:A4) (b:Option Addr) (bn bc:Nat) (x2:Addr) (p:Addr) (x31:Option Addr) (x31n x31c:Nat) (x32:Int) (x33:Int) (h:H) :
 A6 PR Bq2 C R W5 Tryz.f213 100000 true B59 [(0,.slice b bn bc),(2,.pointer (some x2)),(4,.pointer (some p)),(31,.slice x31 x31n x31c),(32,.int .i64 x32),(33,.int .i64 x33)] h =
 cond (decide (x33<x32))
 (aSome x31 fun p_1=>ck ((0:Int)≤x33∧x33<((x31n:Nat):Int)) (gPtr (Addr.add (B7 p_1) (Int.toNat x33*1)) h fun x=>bnd (C B07 [.slice b bn bc,.int .i64 (IntKind.wrap .i64 (4+(IntKind.wrap .i64 (2*x33))))] h) fun r w=>as2 r fun r_1 r_2=>aInt .i64 r_1 fun x_1=>aBool r_2 fun _=>aSome x fun p_2=>pV p_2 (.int .i64 x_1) w fun w1=>R W5 B59 [(0,.slice b bn bc),(2,.pointer (some x2)),(4,.pointer (some p)),(31,.slice x31 x31n x31c),(32,.int .i64 x32),(33,.int .i64 (IntKind.wrap .i64 (x33+1)))] w1))
 (R W5 B58 [(0,.slice b bn bc),(2,.pointer (some x2)),(4,.pointer (some p)),(49,.int .i64 0)] h):=by kernel_rfl
theorem Y4 (C:A3) (R:A4) (b:Option Addr) (bn bc:Nat) (x2:Addr) (p:Addr) (x49:Int) (h:H) :
 A6 PR Bq2 C R W5 Tryz.f213 100000 true B58 [(0,.slice b bn bc),(2,.pointer (some x2)),(4,.pointer (some p)),(49,.int .i64 x49)] h =
 cond (decide (x49<8))
 (aSome b fun p_1=>ck ((0:Int)≤IntKind.wrap .i64 (12+x49)∧IntKind.wrap .i64 (12+x49)<((bn:Nat):Int)) (gInt .u8 (Addr.add (B7 p_1) (Int.toNat (IntKind.wrap .i64 (12+x49))*1)) h fun x=>ck ((0:Int)≤x49∧x49<((8:Nat):Int)) (pV (Addr.add (Addr.add p 8) (Int.toNat x49*1)) (.int .i64 (IntKind.wrap .i64 (x))) h fun w=>R W5 B58 [(0,.slice b bn bc),(2,.pointer (some x2)),(4,.pointer (some p)),(49,.int .i64 (IntKind.wrap .i64 (x49+1)))] w)))
 (gAgg p 16 h fun x_1=>bnd (C A46 [.agg ⟨x_1⟩] h) fun r w1=>as2 r fun r_1 r_2=>aSl r_1 fun x_2 xn xc=>aBool r_2 fun x_3=>gAgg p 16 w1 fun x_4=>bnd (cond x_3 (bnd (C D4 [.slice x_2 xn xc,.slice b bn bc] w1) fun r_3 w2=>aBool r_3 fun x_5=>gAgg p 16 w2 fun x_6=>same (.agg ⟨x_4⟩) (.agg ⟨x_6⟩) (some (x_5,w2))) (some (false,w1))) fun c w3=>ck (List.length x_4=16) (pAgg x2 x_4 w3 fun w4=>gAgg x2 16 w4 fun x_7=>some (.tuple ⟨[.agg ⟨x_7⟩,.bool c]⟩,w4))):=by kernel_rfl
def Au4:Cuts:={ globs:=0,loops:=[],regs:=[],plans:=[] }
def Bh4:List Item:=A7 Tryz.f229
theorem Dq1 (C:A3) (R:A4) (t:Option Addr) (name:Int) (h:H) :
 A6 PR Au4 C R Ae7 Tryz.f229 100000 true Bh4 [(0,.pointer t),(1,.int .i64 name)] h =
 bnd (cond (decide (name<0)) (some (true,h)) (aSome t fun p=>gSl (Addr.add p 0) h fun _ xn _=>some (decide ((P5 .i64 name 255)≥((xn:Nat):Int)),h))) fun c w=>bnd (cond c (some (true,w)) (aSome t fun p_1=>gSl (Addr.add p_1 0) w fun x_1 xn_1 _=>aSome x_1 fun p_2=>ck ((0:Int)≤P5 .i64 name 255∧P5 .i64 name 255<((xn_1:Nat):Int)) (gBool (Addr.add (Addr.add (B7 p_2) (Int.toNat (P5 .i64 name 255)*8)) 7) w fun x_2=>some (!x_2,w)))) fun c_1 w1=>bnd (cond c_1 (some (true,w1)) (bnd (C N7 [.pointer t,.int .i64 (P5 .i64 name 255)] w1) fun r w2=>aInt .i64 r fun x_3=>some (x_3 != name,w2))) fun c_2 w3=>cond c_2
 (some (.pointer none,w3))
 (aSome t fun p_3=>gSl (Addr.add p_3 0) w3 fun x_4 xn_2 _=>aSome x_4 fun p_4=>ck ((0:Int)≤P5 .i64 name 255∧P5 .i64 name 255<((xn_2:Nat):Int)) (some (.pointer (some (Addr.add (B7 p_4) (Int.toNat (P5 .i64 name 255)*8))),w3))):=by kernel_rfl
def Dp8:Cuts:={ globs:=0,loops:=[],regs:=[],plans:=[] }
def Ek4:List Item:=A7 Tryz.f232
theorem G86 (C:A3) (R:A4) (b:Option Addr) (bn bc:Nat) (atv:Int) (n:Int) (h:H) :
 A6 PR Dp8 C R Bi3 Tryz.f232 100000 true Ek4 [(0,.slice b bn bc),(1,.int .i64 atv),(2,.int .i64 n)] h =
 bnd (cond (decide (atv<0)) (some (true,h)) (some (decide (atv>(IntKind.wrap .i64 (((bn:Nat):Int)-2))),h))) fun c w=>bnd (cond c (some (true,w)) (some (decide (n<0),w))) fun c_1 w1=>bnd (cond c_1 (some (true,w1)) (some (decide (n>65535),w1))) fun c_2 w2=>cond c_2
 (some (.bool false,w2))
 (aSome b fun p=>ck ((0:Int)≤atv∧atv<((bn:Nat):Int)) (pV (Addr.add (B7 p) (Int.toNat atv*1)) (.int .u8 (IntKind.wrap .u8 (Int.fdiv n (2 ^ 8)))) w2 fun w3=>aSome b fun p_1=>ck ((0:Int)≤IntKind.wrap .i64 (atv+1)∧IntKind.wrap .i64 (atv+1)<((bn:Nat):Int)) (pV (Addr.add (B7 p_1) (Int.toNat (IntKind.wrap .i64 (atv+1))*1)) (.int .u8 (IntKind.wrap .u8 (n))) w3 fun w4=>some (.bool true,w4)))):=by kernel_rfl
def Dr4:Cuts:={ globs:=0,loops:=[],regs:=[],plans:=[] }
def Eo7:List Item:=A7 Tryz.f239
theorem Gv2 (C:A3) (R:A4) (f:Int) (h:H) :
 A6 PR Dr4 C R Bj2 Tryz.f239 100000 true Eo7 [(0,.int .i64 f)] h =
 bnd (cond (decide (f<0)) (some (true,h)) (some (decide (f>12),h))) fun c w=>some (.bool c,w):=by kernel_rfl
end
end Go.EQ

set_option maxRecDepth 100000
namespace Go.EQ
open Go Go.NN Go.Proofs
variable (C : A3) (R : A4)
noncomputable section
def H88:List (Nat × Cuts):=[(8,I8),(13,Dr0),(14,Ds5),(15,Dg5),(17,Aq5),(18,A09),(20,A33),(22,B57),(23,A11),(24,Aq1),(25,Am8),(28,Ap1),(31,Bz3),(32,De6),(35,D03),(36,A08),(37,De0),(38,D12),(39,B98),(40,D24),(48,A07),(49,Aw0),(50,A35),(51,A99),(52,As8),(53,Dg1),(54,B60),(55,Bg7),(56,Bm8),(57,Bg6),(58,De4),(59,Av8),(60,B62),(61,Ad1),(62,Dg2),(63,A14),(64,Ef9),(65,Di3),(67,Bn6),(68,Bi5),(69,Ad2),(70,B87),(71,B80),(72,B71),(73,Aw3),(74,B88),(75,B93),(76,A98),(77,A23),(78,Bn9),(79,B64),(80,Dy4),(81,B95),(82,A44),(83,Dz9),(84,Ad5),(85,B91),(86,Bf3),(87,Bs4),(88,Bz6),(89,Df3),(90,Bm6),(91,S6),(107,A96),(108,Ap7),(109,Bn7),(110,Bg4),(111,Df7),(112,At2),(113,Es8),(114,Dk4),(115,Da4),(116,Dp3),(117,Ea9),(118,A79),(119,Au7),(120,Ak7),(121,Bv6),(122,Be6),(123,Ay5),(124,Bf5),(125,B68),(126,Bg3),(127,Dv8),(128,Bu5),(129,Bi6),(131,A91),(140,Bu2),(141,By1),(142,Z8),(143,Do7),(144,Ag7),(145,Aw2),(146,A03),(147,De3),(148,Ag9),(149,A43),(150,A15),(151,A61),(152,Bi7),(154,Bd4),(155,Bi4),(156,Bn8),(157,Bn4),(158,De7),(159,Ag3),(160,Ag4),(161,De8),(162,Ag8),(163,Da7),(164,Dn1),(165,An1),(166,Ag6),(167,B40),(172,An0),(173,Am9),(174,B76),(175,Ad9),(176,Do4),(177,Av4),(178,B85),(179,Af5),(180,Bh7),(181,Bt4),(182,Be4),(183,Df1),(184,Bt8),(185,Bs9),(186,A75),(187,Bt3),(194,A95),(195,Am7),(196,A81),(197,Ef5),(198,Ed8),(199,Ab2),(200,By8),(201,A06),(202,Bz4),(203,Bu8),(206,Bt7),(207,Bi0),(208,Bu3),(209,U1),(210,Bm7),(211,A97),(212,Bc9),(213,Bq2),(214,A94),(215,D11),(216,D09),(217,W9),(218,Ad3),(219,A87),(220,Bv3),(223,Es3),(224,Ab5),(225,U6),(226,Aq8),(229,Au4),(230,Bm9),(231,Ef1),(232,Dp8),(233,Dp5),(234,Eb5),(235,Dz1),(238,Dp1),(239,Dr4)]
def cutsOf:FuncId→Cuts:=Gc8 H88
noncomputable abbrev B0:A3:=NN.Call PR cutsOf
noncomputable abbrev E3:A4:=NN.Jump PR cutsOf
theorem G6:FnOk PR cutsOf A9 Tryz.f8 I8 L7 4:=⟨Tryz.func8,⟨_,rfl⟩,by kernel_rfl,rfl,rfl,by kernel_rfl⟩
theorem G00:FnOk PR cutsOf Bh2 Tryz.f13 Dr0 Er4 1:=⟨Tryz.func13,⟨_,rfl⟩,by kernel_rfl,rfl,rfl,by kernel_rfl⟩
theorem G66:FnOk PR cutsOf By0 Tryz.f14 Ds5 Er9 0:=⟨Tryz.func14,⟨_,rfl⟩,by kernel_rfl,rfl,rfl,by kernel_rfl⟩
theorem Gu3:FnOk PR cutsOf Br6 Tryz.f15 Dg5 Eg5 2:=⟨Tryz.func15,⟨_,rfl⟩,by kernel_rfl,rfl,rfl,by kernel_rfl⟩
theorem Di6:FnOk PR cutsOf Ac8 Tryz.f17 Aq5 Bf1 3:=⟨Tryz.func17,⟨_,rfl⟩,by kernel_rfl,rfl,rfl,by kernel_rfl⟩
theorem Dy7:FnOk PR cutsOf Aa2 Tryz.f18 A09 Bo5 2:=⟨Tryz.func18,⟨_,rfl⟩,by kernel_rfl,rfl,rfl,by kernel_rfl⟩
theorem Bn1:FnOk PR cutsOf U0 Tryz.f20 A33 Bn0 1:=⟨Tryz.func20,⟨_,rfl⟩,by kernel_rfl,rfl,rfl,by kernel_rfl⟩
theorem Gf7:FnOk PR cutsOf S7 Tryz.f22 B57 D75 3:=⟨Tryz.func22,⟨_,rfl⟩,by kernel_rfl,rfl,rfl,by kernel_rfl⟩
theorem D21:FnOk PR cutsOf E2 Tryz.f23 A11 Bq3 2:=⟨Tryz.func23,⟨_,rfl⟩,by kernel_rfl,rfl,rfl,by kernel_rfl⟩
theorem Di9:FnOk PR cutsOf J9 Tryz.f24 Aq1 Bg0 3:=⟨Tryz.func24,⟨_,rfl⟩,by kernel_rfl,rfl,rfl,by kernel_rfl⟩
theorem Df9:FnOk PR cutsOf J0 Tryz.f25 Am8 Bc7 2:=⟨Tryz.func25,⟨_,rfl⟩,by kernel_rfl,rfl,rfl,by kernel_rfl⟩
theorem Di2:FnOk PR cutsOf U2 Tryz.f28 Ap1 Bf4 3:=⟨Tryz.func28,⟨_,rfl⟩,by kernel_rfl,rfl,rfl,by kernel_rfl⟩
theorem Bz8:FnOk PR cutsOf Ae2 Tryz.f31 Bz3 Dr3 1:=⟨Tryz.func31,⟨_,rfl⟩,by kernel_rfl,rfl,rfl,by kernel_rfl⟩
theorem Gt2:FnOk PR cutsOf Bc5 Tryz.f32 De6 Ei1 0:=⟨Tryz.func32,⟨_,rfl⟩,by kernel_rfl,rfl,rfl,by kernel_rfl⟩
theorem Hg3:FnOk PR cutsOf Bc8 Tryz.f35 D03 E28 2:=⟨Tryz.func35,⟨_,rfl⟩,by kernel_rfl,rfl,rfl,by kernel_rfl⟩
theorem Dy2:FnOk PR cutsOf L5 Tryz.f36 A08 Bp2 2:=⟨Tryz.func36,⟨_,rfl⟩,by kernel_rfl,rfl,rfl,by kernel_rfl⟩
theorem Gs0:FnOk PR cutsOf Bq8 Tryz.f37 De0 Eg7 0:=⟨Tryz.func37,⟨_,rfl⟩,by kernel_rfl,rfl,rfl,by kernel_rfl⟩
theorem G94:FnOk PR cutsOf Bq6 Tryz.f38 D12 E17 3:=⟨Tryz.func38,⟨_,rfl⟩,by kernel_rfl,rfl,rfl,by kernel_rfl⟩
theorem Dz2:FnOk PR cutsOf Aa6 Tryz.f39 B98 D26 2:=⟨Tryz.func39,⟨_,rfl⟩,by kernel_rfl,rfl,rfl,by kernel_rfl⟩
theorem G95:FnOk PR cutsOf Ar6 Tryz.f40 D24 Ez9 2:=⟨Tryz.func40,⟨_,rfl⟩,by kernel_rfl,rfl,rfl,by kernel_rfl⟩
theorem Dy3:FnOk PR cutsOf Aj6 Tryz.f48 A07 Bp8 1:=⟨Tryz.func48,⟨_,rfl⟩,by kernel_rfl,rfl,rfl,by kernel_rfl⟩
theorem Dt3:FnOk PR cutsOf Ah4 Tryz.f49 Aw0 Bm3 1:=⟨Tryz.func49,⟨_,rfl⟩,by kernel_rfl,rfl,rfl,by kernel_rfl⟩
theorem At4:FnOk PR cutsOf I7 Tryz.f50 A35 Bi1 1:=⟨Tryz.func50,⟨_,rfl⟩,by kernel_rfl,rfl,rfl,by kernel_rfl⟩
theorem Ap3:FnOk PR cutsOf H7 Tryz.f51 A99 Bj5 1:=⟨Tryz.func51,⟨_,rfl⟩,by kernel_rfl,rfl,rfl,by kernel_rfl⟩
theorem Ai5:FnOk PR cutsOf G0 Tryz.f52 As8 A41 1:=⟨Tryz.func52,⟨_,rfl⟩,by kernel_rfl,rfl,rfl,by kernel_rfl⟩
theorem Gr9:FnOk PR cutsOf Bc0 Tryz.f53 Dg1 Eh0 0:=⟨Tryz.func53,⟨_,rfl⟩,by kernel_rfl,rfl,rfl,by kernel_rfl⟩
theorem Gi6:FnOk PR cutsOf As5 Tryz.f54 B60 D72 3:=⟨Tryz.func54,⟨_,rfl⟩,by kernel_rfl,rfl,rfl,by kernel_rfl⟩
theorem Ek1:FnOk PR cutsOf Az5 Tryz.f55 Bg7 Dc1 2:=⟨Tryz.func55,⟨_,rfl⟩,by kernel_rfl,rfl,rfl,by kernel_rfl⟩
theorem Ex0:FnOk PR cutsOf An5 Tryz.f56 Bm8 Dh5 1:=⟨Tryz.func56,⟨_,rfl⟩,by kernel_rfl,rfl,rfl,by kernel_rfl⟩
theorem Em0:FnOk PR cutsOf Ak2 Tryz.f57 Bg6 Dc9 2:=⟨Tryz.func57,⟨_,rfl⟩,by kernel_rfl,rfl,rfl,by kernel_rfl⟩
theorem Gr5:FnOk PR cutsOf Ba8 Tryz.f58 De4 Eh6 1:=⟨Tryz.func58,⟨_,rfl⟩,by kernel_rfl,rfl,rfl,by kernel_rfl⟩
theorem Dt0:FnOk PR cutsOf J5 Tryz.f59 Av8 Bm1 4:=⟨Tryz.func59,⟨_,rfl⟩,by kernel_rfl,rfl,rfl,by kernel_rfl⟩
theorem Gg2:FnOk PR cutsOf As6 Tryz.f60 B62 D35 1:=⟨Tryz.func60,⟨_,rfl⟩,by kernel_rfl,rfl,rfl,by kernel_rfl⟩
theorem Ao3:FnOk PR cutsOf I0 Tryz.f61 Ad1 Ap4 3:=⟨Tryz.func61,⟨_,rfl⟩,by kernel_rfl,rfl,rfl,by kernel_rfl⟩
theorem Gq9:FnOk PR cutsOf Aw7 Tryz.f62 Dg2 Eh8 1:=⟨Tryz.func62,⟨_,rfl⟩,by kernel_rfl,rfl,rfl,by kernel_rfl⟩
theorem D10:FnOk PR cutsOf Aa3 Tryz.f63 A14 Bp4 2:=⟨Tryz.func63,⟨_,rfl⟩,by kernel_rfl,rfl,rfl,by kernel_rfl⟩
theorem Ho8:FnOk PR cutsOf A72 Tryz.f64 Ef9 Gb3 1:=⟨Tryz.func64,⟨_,rfl⟩,by kernel_rfl,rfl,rfl,by kernel_rfl⟩
theorem Ec6:FnOk PR cutsOf Ae1 Tryz.f65 Di3 Ec8 1:=⟨Tryz.func65,⟨_,rfl⟩,by kernel_rfl,rfl,rfl,by kernel_rfl⟩
theorem Ex5:FnOk PR cutsOf A24 Tryz.f67 Bn6 Dg9 3:=⟨Tryz.func67,⟨_,rfl⟩,by kernel_rfl,rfl,rfl,by kernel_rfl⟩
theorem Ej8:FnOk PR cutsOf Ax2 Tryz.f68 Bi5 Db6 3:=⟨Tryz.func68,⟨_,rfl⟩,by kernel_rfl,rfl,rfl,by kernel_rfl⟩
theorem Ao0:FnOk PR cutsOf L1 Tryz.f69 Ad2 Ar0 3:=⟨Tryz.func69,⟨_,rfl⟩,by kernel_rfl,rfl,rfl,by kernel_rfl⟩
theorem Gg6:FnOk PR cutsOf As3 Tryz.f70 B87 D71 1:=⟨Tryz.func70,⟨_,rfl⟩,by kernel_rfl,rfl,rfl,by kernel_rfl⟩
theorem Gi8:FnOk PR cutsOf A42 Tryz.f71 B80 D67 1:=⟨Tryz.func71,⟨_,rfl⟩,by kernel_rfl,rfl,rfl,by kernel_rfl⟩
theorem Gi7:FnOk PR cutsOf A46 Tryz.f72 B71 D69 1:=⟨Tryz.func72,⟨_,rfl⟩,by kernel_rfl,rfl,rfl,by kernel_rfl⟩
theorem Dt5:FnOk PR cutsOf Q2 Tryz.f73 Aw3 Bm2 2:=⟨Tryz.func73,⟨_,rfl⟩,by kernel_rfl,rfl,rfl,by kernel_rfl⟩
theorem Gg1:FnOk PR cutsOf A51 Tryz.f74 B88 D70 1:=⟨Tryz.func74,⟨_,rfl⟩,by kernel_rfl,rfl,rfl,by kernel_rfl⟩
theorem Gj2:FnOk PR cutsOf As4 Tryz.f75 B93 D77 1:=⟨Tryz.func75,⟨_,rfl⟩,by kernel_rfl,rfl,rfl,by kernel_rfl⟩
theorem Eb1:FnOk PR cutsOf Ap5 Tryz.f76 A98 Bz2 1:=⟨Tryz.func76,⟨_,rfl⟩,by kernel_rfl,rfl,rfl,by kernel_rfl⟩
theorem Bm5:FnOk PR cutsOf P4 Tryz.f77 A23 Bn2 1:=⟨Tryz.func77,⟨_,rfl⟩,by kernel_rfl,rfl,rfl,by kernel_rfl⟩
theorem Ex3:FnOk PR cutsOf A26 Tryz.f78 Bn9 Dh2 1:=⟨Tryz.func78,⟨_,rfl⟩,by kernel_rfl,rfl,rfl,by kernel_rfl⟩
theorem Gj6:FnOk PR cutsOf Bl0 Tryz.f79 B64 D57 3:=⟨Tryz.func79,⟨_,rfl⟩,by kernel_rfl,rfl,rfl,by kernel_rfl⟩
theorem Hc4:FnOk PR cutsOf Ab1 Tryz.f80 Dy4 E03 1:=⟨Tryz.func80,⟨_,rfl⟩,by kernel_rfl,rfl,rfl,by kernel_rfl⟩
theorem Dz6:FnOk PR cutsOf Ar1 Tryz.f81 B95 Dy8 1:=⟨Tryz.func81,⟨_,rfl⟩,by kernel_rfl,rfl,rfl,by kernel_rfl⟩
theorem At6:FnOk PR cutsOf G2 Tryz.f82 A44 Bj1 2:=⟨Tryz.func82,⟨_,rfl⟩,by kernel_rfl,rfl,rfl,by kernel_rfl⟩
theorem Hb5:FnOk PR cutsOf Aa9 Tryz.f83 Dz9 E23 2:=⟨Tryz.func83,⟨_,rfl⟩,by kernel_rfl,rfl,rfl,by kernel_rfl⟩
theorem Aq6:FnOk PR cutsOf L0 Tryz.f84 Ad5 Aq2 3:=⟨Tryz.func84,⟨_,rfl⟩,by kernel_rfl,rfl,rfl,by kernel_rfl⟩
theorem Gl1:FnOk PR cutsOf A40 Tryz.f85 B91 D56 1:=⟨Tryz.func85,⟨_,rfl⟩,by kernel_rfl,rfl,rfl,by kernel_rfl⟩
theorem B37:FnOk PR cutsOf U5 Tryz.f86 Bf3 Bz9 2:=⟨Tryz.func86,⟨_,rfl⟩,by kernel_rfl,rfl,rfl,by kernel_rfl⟩
theorem De1:FnOk PR cutsOf Ab8 Tryz.f87 Bs4 Df8 2:=⟨Tryz.func87,⟨_,rfl⟩,by kernel_rfl,rfl,rfl,by kernel_rfl⟩
theorem Dr8:FnOk PR cutsOf Aa7 Tryz.f88 Bz6 Do3 2:=⟨Tryz.func88,⟨_,rfl⟩,by kernel_rfl,rfl,rfl,by kernel_rfl⟩
theorem Gt8:FnOk PR cutsOf Bb9 Tryz.f89 Df3 Eh2 2:=⟨Tryz.func89,⟨_,rfl⟩,by kernel_rfl,rfl,rfl,by kernel_rfl⟩
theorem Ey2:FnOk PR cutsOf An7 Tryz.f90 Bm6 Dh9 1:=⟨Tryz.func90,⟨_,rfl⟩,by kernel_rfl,rfl,rfl,by kernel_rfl⟩
theorem O1:FnOk PR cutsOf D1 Tryz.f91 S6 Aa1 1:=⟨Tryz.func91,⟨_,rfl⟩,by kernel_rfl,rfl,rfl,by kernel_rfl⟩
theorem Do5:FnOk PR cutsOf W2 Tryz.f107 A96 Bu1 2:=⟨Tryz.func107,⟨_,rfl⟩,by kernel_rfl,rfl,rfl,by kernel_rfl⟩
theorem A74:FnOk PR cutsOf Q6 Tryz.f108 Ap7 A88 3:=⟨Tryz.func108,⟨_,rfl⟩,by kernel_rfl,rfl,rfl,by kernel_rfl⟩
theorem Ez1:FnOk PR cutsOf An2 Tryz.f109 Bn7 Dh7 1:=⟨Tryz.func109,⟨_,rfl⟩,by kernel_rfl,rfl,rfl,by kernel_rfl⟩
theorem Bh8:FnOk PR cutsOf R0 Tryz.f110 Bg4 B22 1:=⟨Tryz.func110,⟨_,rfl⟩,by kernel_rfl,rfl,rfl,by kernel_rfl⟩
theorem Gt3:FnOk PR cutsOf Ba3 Tryz.f111 Df7 Eg6 1:=⟨Tryz.func111,⟨_,rfl⟩,by kernel_rfl,rfl,rfl,by kernel_rfl⟩
theorem Ds4:FnOk PR cutsOf W1 Tryz.f112 At2 Bi9 1:=⟨Tryz.func112,⟨_,rfl⟩,by kernel_rfl,rfl,rfl,by kernel_rfl⟩
theorem Hz6:FnOk PR cutsOf Du0 Tryz.f113 Es8 Gq6 1:=⟨Tryz.func113,⟨_,rfl⟩,by kernel_rfl,rfl,rfl,by kernel_rfl⟩
theorem D95:FnOk PR cutsOf Ay9 Tryz.f114 Dk4 D84 1:=⟨Tryz.func114,⟨_,rfl⟩,by kernel_rfl,rfl,rfl,by kernel_rfl⟩
theorem Dy6:FnOk PR cutsOf Ar5 Tryz.f115 Da4 D16 1:=⟨Tryz.func115,⟨_,rfl⟩,by kernel_rfl,rfl,rfl,by kernel_rfl⟩
theorem G49:FnOk PR cutsOf B23 Tryz.f116 Dp3 Es0 2:=⟨Tryz.func116,⟨_,rfl⟩,by kernel_rfl,rfl,rfl,by kernel_rfl⟩
theorem Hn2:FnOk PR cutsOf Dl4 Tryz.f117 Ea9 E95 1:=⟨Tryz.func117,⟨_,rfl⟩,by kernel_rfl,rfl,rfl,by kernel_rfl⟩
theorem D81:FnOk PR cutsOf Ao1 Tryz.f118 A79 B21 3:=⟨Tryz.func118,⟨_,rfl⟩,by kernel_rfl,rfl,rfl,by kernel_rfl⟩
theorem Bd3:FnOk PR cutsOf P3 Tryz.f119 Au7 Bd7 2:=⟨Tryz.func119,⟨_,rfl⟩,by kernel_rfl,rfl,rfl,by kernel_rfl⟩
theorem Db9:FnOk PR cutsOf N0 Tryz.f120 Ak7 A66 2:=⟨Tryz.func120,⟨_,rfl⟩,by kernel_rfl,rfl,rfl,by kernel_rfl⟩
theorem E61:FnOk PR cutsOf A70 Tryz.f121 Bv6 Dq7 3:=⟨Tryz.func121,⟨_,rfl⟩,by kernel_rfl,rfl,rfl,by kernel_rfl⟩
theorem B05:FnOk PR cutsOf Z6 Tryz.f122 Be6 By2 1:=⟨Tryz.func122,⟨_,rfl⟩,by kernel_rfl,rfl,rfl,by kernel_rfl⟩
theorem Bh5:FnOk PR cutsOf N8 Tryz.f123 Ay5 Bh3 2:=⟨Tryz.func123,⟨_,rfl⟩,by kernel_rfl,rfl,rfl,by kernel_rfl⟩
theorem B13:FnOk PR cutsOf Z7 Tryz.f124 Bf5 Bz1 1:=⟨Tryz.func124,⟨_,rfl⟩,by kernel_rfl,rfl,rfl,by kernel_rfl⟩
theorem Gk2:FnOk PR cutsOf Bl8 Tryz.f125 B68 D42 1:=⟨Tryz.func125,⟨_,rfl⟩,by kernel_rfl,rfl,rfl,by kernel_rfl⟩
theorem Es6:FnOk PR cutsOf A00 Tryz.f126 Bg3 Dc0 3:=⟨Tryz.func126,⟨_,rfl⟩,by kernel_rfl,rfl,rfl,by kernel_rfl⟩
theorem Er1:FnOk PR cutsOf A67 Tryz.f127 Dv8 Er2 2:=⟨Tryz.func127,⟨_,rfl⟩,by kernel_rfl,rfl,rfl,by kernel_rfl⟩
theorem E66:FnOk PR cutsOf A86 Tryz.f128 Bu5 Dn2 3:=⟨Tryz.func128,⟨_,rfl⟩,by kernel_rfl,rfl,rfl,by kernel_rfl⟩
theorem Em8:FnOk PR cutsOf Ax9 Tryz.f129 Bi6 Dd1 1:=⟨Tryz.func129,⟨_,rfl⟩,by kernel_rfl,rfl,rfl,by kernel_rfl⟩
theorem D97:FnOk PR cutsOf An9 Tryz.f131 A91 B38 5:=⟨Tryz.func131,⟨_,rfl⟩,by kernel_rfl,rfl,rfl,by kernel_rfl⟩
theorem E65:FnOk PR cutsOf A90 Tryz.f140 Bu2 Dr1 2:=⟨Tryz.func140,⟨_,rfl⟩,by kernel_rfl,rfl,rfl,by kernel_rfl⟩
theorem Gb6:FnOk PR cutsOf Ae6 Tryz.f141 By1 Dx1 2:=⟨Tryz.func141,⟨_,rfl⟩,by kernel_rfl,rfl,rfl,by kernel_rfl⟩
theorem Ak6:FnOk PR cutsOf E9 Tryz.f142 Z8 Ak0 1:=⟨Tryz.func142,⟨_,rfl⟩,by kernel_rfl,rfl,rfl,by kernel_rfl⟩
theorem G34:FnOk PR cutsOf Bg8 Tryz.f143 Do7 Eo1 0:=⟨Tryz.func143,⟨_,rfl⟩,by kernel_rfl,rfl,rfl,by kernel_rfl⟩
theorem B45:FnOk PR cutsOf V5 Tryz.f144 Ag7 A18 2:=⟨Tryz.func144,⟨_,rfl⟩,by kernel_rfl,rfl,rfl,by kernel_rfl⟩
theorem Dt2:FnOk PR cutsOf Q3 Tryz.f145 Aw2 Bl9 2:=⟨Tryz.func145,⟨_,rfl⟩,by kernel_rfl,rfl,rfl,by kernel_rfl⟩
theorem D07:FnOk PR cutsOf O5 Tryz.f146 A03 Bp6 2:=⟨Tryz.func146,⟨_,rfl⟩,by kernel_rfl,rfl,rfl,by kernel_rfl⟩
theorem Gt5:FnOk PR cutsOf Am6 Tryz.f147 De3 Eg0 1:=⟨Tryz.func147,⟨_,rfl⟩,by kernel_rfl,rfl,rfl,by kernel_rfl⟩
theorem B47:FnOk PR cutsOf V3 Tryz.f148 Ag9 A20 2:=⟨Tryz.func148,⟨_,rfl⟩,by kernel_rfl,rfl,rfl,by kernel_rfl⟩
theorem D30:FnOk PR cutsOf Ac3 Tryz.f149 A43 Bv8 5:=⟨Tryz.func149,⟨_,rfl⟩,by kernel_rfl,rfl,rfl,by kernel_rfl⟩
theorem D04:FnOk PR cutsOf Aa8 Tryz.f150 A15 Bp3 5:=⟨Tryz.func150,⟨_,rfl⟩,by kernel_rfl,rfl,rfl,by kernel_rfl⟩
theorem D28:FnOk PR cutsOf Am0 Tryz.f151 A61 Bx1 7:=⟨Tryz.func151,⟨_,rfl⟩,by kernel_rfl,rfl,rfl,by kernel_rfl⟩
theorem Em6:FnOk PR cutsOf Ax4 Tryz.f152 Bi7 Db8 7:=⟨Tryz.func152,⟨_,rfl⟩,by kernel_rfl,rfl,rfl,by kernel_rfl⟩
theorem Ej0:FnOk PR cutsOf Av1 Tryz.f154 Bd4 B54 2:=⟨Tryz.func154,⟨_,rfl⟩,by kernel_rfl,rfl,rfl,by kernel_rfl⟩
theorem En8:FnOk PR cutsOf Az2 Tryz.f155 Bi4 Db0 3:=⟨Tryz.func155,⟨_,rfl⟩,by kernel_rfl,rfl,rfl,by kernel_rfl⟩
theorem Ez0:FnOk PR cutsOf A30 Tryz.f156 Bn8 Dg8 3:=⟨Tryz.func156,⟨_,rfl⟩,by kernel_rfl,rfl,rfl,by kernel_rfl⟩
theorem Ex2:FnOk PR cutsOf A28 Tryz.f157 Bn4 Dh3 3:=⟨Tryz.func157,⟨_,rfl⟩,by kernel_rfl,rfl,rfl,by kernel_rfl⟩
theorem Gs9:FnOk PR cutsOf Bc2 Tryz.f158 De7 Eg2 0:=⟨Tryz.func158,⟨_,rfl⟩,by kernel_rfl,rfl,rfl,by kernel_rfl⟩
theorem B51:FnOk PR cutsOf V1 Tryz.f159 Ag3 A19 2:=⟨Tryz.func159,⟨_,rfl⟩,by kernel_rfl,rfl,rfl,by kernel_rfl⟩
theorem B43:FnOk PR cutsOf V2 Tryz.f160 Ag4 A17 2:=⟨Tryz.func160,⟨_,rfl⟩,by kernel_rfl,rfl,rfl,by kernel_rfl⟩
theorem Gr2:FnOk PR cutsOf Bb2 Tryz.f161 De8 Eh9 0:=⟨Tryz.func161,⟨_,rfl⟩,by kernel_rfl,rfl,rfl,by kernel_rfl⟩
theorem B42:FnOk PR cutsOf V7 Tryz.f162 Ag8 A21 2:=⟨Tryz.func162,⟨_,rfl⟩,by kernel_rfl,rfl,rfl,by kernel_rfl⟩
theorem D06:FnOk PR cutsOf Aa0 Tryz.f163 Da7 D00 1:=⟨Tryz.func163,⟨_,rfl⟩,by kernel_rfl,rfl,rfl,by kernel_rfl⟩
theorem Gx2:FnOk PR cutsOf Bh6 Tryz.f164 Dn1 Ek3 3:=⟨Tryz.func164,⟨_,rfl⟩,by kernel_rfl,rfl,rfl,by kernel_rfl⟩
theorem Bc4:FnOk PR cutsOf G3 Tryz.f165 An1 Bb5 1:=⟨Tryz.func165,⟨_,rfl⟩,by kernel_rfl,rfl,rfl,by kernel_rfl⟩
theorem B44:FnOk PR cutsOf V4 Tryz.f166 Ag6 A16 2:=⟨Tryz.func166,⟨_,rfl⟩,by kernel_rfl,rfl,rfl,by kernel_rfl⟩
theorem Gb2:FnOk PR cutsOf Ay8 Tryz.f167 B40 Dx2 2:=⟨Tryz.func167,⟨_,rfl⟩,by kernel_rfl,rfl,rfl,by kernel_rfl⟩
theorem Dd9:FnOk PR cutsOf Ab4 Tryz.f172 An0 Bc1 2:=⟨Tryz.func172,⟨_,rfl⟩,by kernel_rfl,rfl,rfl,by kernel_rfl⟩
theorem Dg4:FnOk PR cutsOf Ab7 Tryz.f173 Am9 Bb1 2:=⟨Tryz.func173,⟨_,rfl⟩,by kernel_rfl,rfl,rfl,by kernel_rfl⟩
theorem Gj5:FnOk PR cutsOf G7 Tryz.f174 B76 D29 2:=⟨Tryz.func174,⟨_,rfl⟩,by kernel_rfl,rfl,rfl,by kernel_rfl⟩
theorem Av6:FnOk PR cutsOf E5 Tryz.f175 Ad9 Av7 2:=⟨Tryz.func175,⟨_,rfl⟩,by kernel_rfl,rfl,rfl,by kernel_rfl⟩
theorem Gv4:FnOk PR cutsOf B18 Tryz.f176 Do4 Ek6 2:=⟨Tryz.func176,⟨_,rfl⟩,by kernel_rfl,rfl,rfl,by kernel_rfl⟩
theorem Bd9:FnOk PR cutsOf P2 Tryz.f177 Av4 Bd5 1:=⟨Tryz.func177,⟨_,rfl⟩,by kernel_rfl,rfl,rfl,by kernel_rfl⟩
theorem Gk8:FnOk PR cutsOf A39 Tryz.f178 B85 D54 1:=⟨Tryz.func178,⟨_,rfl⟩,by kernel_rfl,rfl,rfl,by kernel_rfl⟩
theorem At0:FnOk PR cutsOf H4 Tryz.f179 Af5 Au0 2:=⟨Tryz.func179,⟨_,rfl⟩,by kernel_rfl,rfl,rfl,by kernel_rfl⟩
theorem Er7:FnOk PR cutsOf Ak9 Tryz.f180 Bh7 Dc5 1:=⟨Tryz.func180,⟨_,rfl⟩,by kernel_rfl,rfl,rfl,by kernel_rfl⟩
theorem E53:FnOk PR cutsOf As9 Tryz.f181 Bt4 Dn7 3:=⟨Tryz.func181,⟨_,rfl⟩,by kernel_rfl,rfl,rfl,by kernel_rfl⟩
theorem B04:FnOk PR cutsOf Z9 Tryz.f182 Be4 B19 1:=⟨Tryz.func182,⟨_,rfl⟩,by kernel_rfl,rfl,rfl,by kernel_rfl⟩
theorem Gr3:FnOk PR cutsOf Af8 Tryz.f183 Df1 Eh7 3:=⟨Tryz.func183,⟨_,rfl⟩,by kernel_rfl,rfl,rfl,by kernel_rfl⟩
theorem E32:FnOk PR cutsOf Ai9 Tryz.f184 Bt8 Dr6 2:=⟨Tryz.func184,⟨_,rfl⟩,by kernel_rfl,rfl,rfl,by kernel_rfl⟩
theorem E40:FnOk PR cutsOf A77 Tryz.f185 Bs9 Dr5 3:=⟨Tryz.func185,⟨_,rfl⟩,by kernel_rfl,rfl,rfl,by kernel_rfl⟩
theorem Ea4:FnOk PR cutsOf Ao6 Tryz.f186 A75 By3 6:=⟨Tryz.func186,⟨_,rfl⟩,by kernel_rfl,rfl,rfl,by kernel_rfl⟩
theorem E62:FnOk PR cutsOf A71 Tryz.f187 Bt3 Dp4 3:=⟨Tryz.func187,⟨_,rfl⟩,by kernel_rfl,rfl,rfl,by kernel_rfl⟩
theorem Bu9:FnOk PR cutsOf Q5 Tryz.f194 A95 Bt2 1:=⟨Tryz.func194,⟨_,rfl⟩,by kernel_rfl,rfl,rfl,by kernel_rfl⟩
theorem De2:FnOk PR cutsOf N7 Tryz.f195 Am7 Bc6 2:=⟨Tryz.func195,⟨_,rfl⟩,by kernel_rfl,rfl,rfl,by kernel_rfl⟩
theorem Ea2:FnOk PR cutsOf Ao2 Tryz.f196 A81 B28 3:=⟨Tryz.func196,⟨_,rfl⟩,by kernel_rfl,rfl,rfl,by kernel_rfl⟩
theorem Hn9:FnOk PR cutsOf Bk6 Tryz.f197 Ef5 E87 2:=⟨Tryz.func197,⟨_,rfl⟩,by kernel_rfl,rfl,rfl,by kernel_rfl⟩
theorem Hj4:FnOk PR cutsOf Bk8 Tryz.f198 Ed8 Ga8 1:=⟨Tryz.func198,⟨_,rfl⟩,by kernel_rfl,rfl,rfl,by kernel_rfl⟩
theorem Bo0:FnOk PR cutsOf P8 Tryz.f199 Ab2 As2 2:=⟨Tryz.func199,⟨_,rfl⟩,by kernel_rfl,rfl,rfl,by kernel_rfl⟩
theorem Ga0:FnOk PR cutsOf Af4 Tryz.f200 By8 Dx3 1:=⟨Tryz.func200,⟨_,rfl⟩,by kernel_rfl,rfl,rfl,by kernel_rfl⟩
theorem D20:FnOk PR cutsOf Aa4 Tryz.f201 A06 Bq4 6:=⟨Tryz.func201,⟨_,rfl⟩,by kernel_rfl,rfl,rfl,by kernel_rfl⟩
theorem Gd8:FnOk PR cutsOf Be7 Tryz.f202 Bz4 Dy0 3:=⟨Tryz.func202,⟨_,rfl⟩,by kernel_rfl,rfl,rfl,by kernel_rfl⟩
theorem E46:FnOk PR cutsOf At7 Tryz.f203 Bu8 Dq8 3:=⟨Tryz.func203,⟨_,rfl⟩,by kernel_rfl,rfl,rfl,by kernel_rfl⟩
theorem E78:FnOk PR cutsOf Aj0 Tryz.f206 Bt7 Dn4 2:=⟨Tryz.func206,⟨_,rfl⟩,by kernel_rfl,rfl,rfl,by kernel_rfl⟩
theorem Eq3:FnOk PR cutsOf Az8 Tryz.f207 Bi0 Db3 3:=⟨Tryz.func207,⟨_,rfl⟩,by kernel_rfl,rfl,rfl,by kernel_rfl⟩
theorem E74:FnOk PR cutsOf At3 Tryz.f208 Bu3 Dq9 3:=⟨Tryz.func208,⟨_,rfl⟩,by kernel_rfl,rfl,rfl,by kernel_rfl⟩
theorem Y7:FnOk PR cutsOf D0 Tryz.f209 U1 Y8 3:=⟨Tryz.func209,⟨_,rfl⟩,by kernel_rfl,rfl,rfl,by kernel_rfl⟩
theorem Ex9:FnOk PR cutsOf A31 Tryz.f210 Bm7 Dg7 3:=⟨Tryz.func210,⟨_,rfl⟩,by kernel_rfl,rfl,rfl,by kernel_rfl⟩
theorem Ea1:FnOk PR cutsOf Ao8 Tryz.f211 A97 B29 3:=⟨Tryz.func211,⟨_,rfl⟩,by kernel_rfl,rfl,rfl,by kernel_rfl⟩
theorem H6:FnOk PR cutsOf O4 Tryz.f212 Bc9 Bp5 2:=⟨Tryz.func212,⟨_,rfl⟩,by kernel_rfl,rfl,rfl,by kernel_rfl⟩
theorem O3:FnOk PR cutsOf W5 Tryz.f213 Bq2 B99 1:=⟨Tryz.func213,⟨_,rfl⟩,by kernel_rfl,rfl,rfl,by kernel_rfl⟩
theorem Eb0:FnOk PR cutsOf Ap6 Tryz.f214 A94 B33 3:=⟨Tryz.func214,⟨_,rfl⟩,by kernel_rfl,rfl,rfl,by kernel_rfl⟩
theorem G99:FnOk PR cutsOf As0 Tryz.f215 D11 Ez4 2:=⟨Tryz.func215,⟨_,rfl⟩,by kernel_rfl,rfl,rfl,by kernel_rfl⟩
theorem G90:FnOk PR cutsOf Ar2 Tryz.f216 D09 E12 1:=⟨Tryz.func216,⟨_,rfl⟩,by kernel_rfl,rfl,rfl,by kernel_rfl⟩
theorem M0:FnOk PR cutsOf D6 Tryz.f217 W9 Ah9 2:=⟨Tryz.func217,⟨_,rfl⟩,by kernel_rfl,rfl,rfl,by kernel_rfl⟩
theorem Ao9:FnOk PR cutsOf I1 Tryz.f218 Ad3 Aq7 2:=⟨Tryz.func218,⟨_,rfl⟩,by kernel_rfl,rfl,rfl,by kernel_rfl⟩
theorem Bu0:FnOk PR cutsOf W4 Tryz.f219 A87 Bu6 1:=⟨Tryz.func219,⟨_,rfl⟩,by kernel_rfl,rfl,rfl,by kernel_rfl⟩
theorem E83:FnOk PR cutsOf A73 Tryz.f220 Bv3 Dp6 2:=⟨Tryz.func220,⟨_,rfl⟩,by kernel_rfl,rfl,rfl,by kernel_rfl⟩
theorem Hx5:FnOk PR cutsOf Du3 Tryz.f223 Es3 Gn4 1:=⟨Tryz.func223,⟨_,rfl⟩,by kernel_rfl,rfl,rfl,by kernel_rfl⟩
theorem Am4:FnOk PR cutsOf D4 Tryz.f224 Ab5 Am5 2:=⟨Tryz.func224,⟨_,rfl⟩,by kernel_rfl,rfl,rfl,by kernel_rfl⟩
theorem Af3:FnOk PR cutsOf E8 Tryz.f225 U6 Ae4 2:=⟨Tryz.func225,⟨_,rfl⟩,by kernel_rfl,rfl,rfl,by kernel_rfl⟩
theorem Dk6:FnOk PR cutsOf Ac9 Tryz.f226 Aq8 Bf9 2:=⟨Tryz.func226,⟨_,rfl⟩,by kernel_rfl,rfl,rfl,by kernel_rfl⟩
theorem Dn0:FnOk PR cutsOf Ae7 Tryz.f229 Au4 Bh4 2:=⟨Tryz.func229,⟨_,rfl⟩,by kernel_rfl,rfl,rfl,by kernel_rfl⟩
theorem Ez2:FnOk PR cutsOf A27 Tryz.f230 Bm9 Dh6 3:=⟨Tryz.func230,⟨_,rfl⟩,by kernel_rfl,rfl,rfl,by kernel_rfl⟩
theorem Hk5:FnOk PR cutsOf Di1 Tryz.f231 Ef1 Gc9 1:=⟨Tryz.func231,⟨_,rfl⟩,by kernel_rfl,rfl,rfl,by kernel_rfl⟩
theorem G58:FnOk PR cutsOf Bi3 Tryz.f232 Dp8 Ek4 3:=⟨Tryz.func232,⟨_,rfl⟩,by kernel_rfl,rfl,rfl,by kernel_rfl⟩
theorem G40:FnOk PR cutsOf B07 Tryz.f233 Dp5 En4 2:=⟨Tryz.func233,⟨_,rfl⟩,by kernel_rfl,rfl,rfl,by kernel_rfl⟩
theorem Hl3:FnOk PR cutsOf Dk5 Tryz.f234 Eb5 Ge1 1:=⟨Tryz.func234,⟨_,rfl⟩,by kernel_rfl,rfl,rfl,by kernel_rfl⟩
theorem Hf9:FnOk PR cutsOf Ar7 Tryz.f235 Dz1 E01 2:=⟨Tryz.func235,⟨_,rfl⟩,by kernel_rfl,rfl,rfl,by kernel_rfl⟩
theorem Gz1:FnOk PR cutsOf Ak3 Tryz.f238 Dp1 Ep4 2:=⟨Tryz.func238,⟨_,rfl⟩,by kernel_rfl,rfl,rfl,by kernel_rfl⟩
theorem G51:FnOk PR cutsOf Bj2 Tryz.f239 Dr4 Eo7 1:=⟨Tryz.func239,⟨_,rfl⟩,by kernel_rfl,rfl,rfl,by kernel_rfl⟩
end
end Go.EQ

namespace Go.EQ
open Go Go.NN Go.Proofs
theorem Hl1:type_of% Tryz.underlying3:=Tryz.underlying3
theorem Hv2:type_of% Tryz.underlying4:=Tryz.underlying4
theorem Eu6:type_of% Tryz.underlying48:=Tryz.underlying48
end Go.EQ
