/- Processes: forks till there is no room; a fork that finds none changes nothing -/
import Derived.Test.YthhmplobccgeiaaGreatMc
import Derived.Test.YthhmplobccgeiaaGreatProg
import Derived.KernelRfl
set_option linter.unusedVariables false
set_option linter.unusedSimpArgs false
set_option linter.unusedSectionVars false
namespace Go.EQ
open Go Go.NN Go.Proofs
noncomputable abbrev PR:Program:=Tryz.prog
abbrev G2:FuncId:=6
abbrev Bc7:FuncId:=13
abbrev Bq9:FuncId:=14
abbrev Bl5:FuncId:=15
abbrev Ag4:FuncId:=18
abbrev P9:FuncId:=20
abbrev P5:FuncId:=22
abbrev L9:FuncId:=23
abbrev Aa4:FuncId:=24
abbrev Y6:FuncId:=25
abbrev Aa3:FuncId:=28
abbrev Ac0:FuncId:=31
abbrev A70:FuncId:=32
abbrev N4:FuncId:=33
abbrev U5:FuncId:=34
abbrev Bi8:FuncId:=35
abbrev M6:FuncId:=36
abbrev Bl0:FuncId:=37
abbrev Ah1:FuncId:=39
abbrev A79:FuncId:=40
abbrev Ag3:FuncId:=48
abbrev Ae2:FuncId:=49
abbrev H6:FuncId:=50
abbrev G7:FuncId:=51
abbrev E2:FuncId:=52
abbrev A69:FuncId:=53
abbrev Ao5:FuncId:=54
abbrev Av7:FuncId:=55
abbrev Ak1:FuncId:=56
abbrev Ah7:FuncId:=57
abbrev Bl4:FuncId:=58
abbrev J9:FuncId:=59
abbrev Be9:FuncId:=60
abbrev H1:FuncId:=61
abbrev As6:FuncId:=62
abbrev W6:FuncId:=63
abbrev A54:FuncId:=64
abbrev Ab9:FuncId:=65
abbrev Ay3:FuncId:=67
abbrev As8:FuncId:=68
abbrev I3:FuncId:=69
abbrev Ao6:FuncId:=70
abbrev A16:FuncId:=71
abbrev A05:FuncId:=72
abbrev Ae5:FuncId:=73
abbrev A00:FuncId:=74
abbrev Az7:FuncId:=75
abbrev Ak8:FuncId:=76
abbrev N8:FuncId:=77
abbrev Ay2:FuncId:=78
abbrev A04:FuncId:=79
abbrev Ah0:FuncId:=80
abbrev An9:FuncId:=81
abbrev E3:FuncId:=82
abbrev Bk2:FuncId:=83
abbrev I0:FuncId:=84
abbrev A13:FuncId:=85
abbrev Ac1:FuncId:=88
abbrev A58:FuncId:=89
abbrev Ay1:FuncId:=90
abbrev B5:FuncId:=91
abbrev O8:FuncId:=108
abbrev Aj7:FuncId:=109
abbrev P1:FuncId:=110
abbrev A75:FuncId:=111
abbrev U0:FuncId:=112
abbrev Dk8:FuncId:=113
abbrev At3:FuncId:=114
abbrev Ao0:FuncId:=115
abbrev Bv1:FuncId:=116
abbrev Da7:FuncId:=117
abbrev Ak5:FuncId:=118
abbrev N5:FuncId:=119
abbrev J4:FuncId:=120
abbrev A28:FuncId:=121
abbrev W0:FuncId:=122
abbrev L1:FuncId:=123
abbrev V8:FuncId:=124
abbrev Be4:FuncId:=125
abbrev Au6:FuncId:=126
abbrev A21:FuncId:=127
abbrev A33:FuncId:=128
abbrev At1:FuncId:=129
abbrev D76:FuncId:=130
abbrev Ak9:FuncId:=131
abbrev D80:FuncId:=132
abbrev Ec1:FuncId:=133
abbrev D84:FuncId:=134
abbrev Eg0:FuncId:=135
abbrev Em5:FuncId:=136
abbrev Dm1:FuncId:=137
abbrev En1:FuncId:=138
abbrev El8:FuncId:=139
abbrev A25:FuncId:=140
abbrev Ac8:FuncId:=141
abbrev E0:FuncId:=142
abbrev Bb8:FuncId:=143
abbrev Q6:FuncId:=144
abbrev O6:FuncId:=145
abbrev M8:FuncId:=146
abbrev Aj1:FuncId:=147
abbrev S5:FuncId:=148
abbrev Z3:FuncId:=149
abbrev W8:FuncId:=150
abbrev Ai9:FuncId:=151
abbrev Av6:FuncId:=152
abbrev D83:FuncId:=153
abbrev Ar0:FuncId:=154
abbrev Au4:FuncId:=155
abbrev Ay9:FuncId:=156
abbrev Ay6:FuncId:=157
abbrev A74:FuncId:=158
abbrev Q7:FuncId:=159
abbrev S4:FuncId:=160
abbrev A61:FuncId:=161
abbrev Q5:FuncId:=162
abbrev W7:FuncId:=163
abbrev Bd0:FuncId:=164
abbrev E5:FuncId:=165
abbrev R0:FuncId:=166
abbrev E7:FuncId:=174
abbrev D6:FuncId:=175
abbrev Bt8:FuncId:=176
abbrev N7:FuncId:=177
abbrev Az8:FuncId:=178
abbrev G4:FuncId:=179
abbrev Ah5:FuncId:=180
abbrev Ao9:FuncId:=181
abbrev W4:FuncId:=182
abbrev Ad2:FuncId:=183
abbrev Ag2:FuncId:=184
abbrev A55:FuncId:=185
abbrev An3:FuncId:=186
abbrev A44:FuncId:=187
abbrev O9:FuncId:=194
abbrev L0:FuncId:=195
abbrev Al0:FuncId:=196
abbrev Bf8:FuncId:=197
abbrev Be7:FuncId:=198
abbrev O1:FuncId:=199
abbrev Ac3:FuncId:=200
abbrev Y0:FuncId:=201
abbrev Ba1:FuncId:=202
abbrev Aq1:FuncId:=203
abbrev Af8:FuncId:=206
abbrev As9:FuncId:=207
abbrev Aq2:FuncId:=208
abbrev B4:FuncId:=209
abbrev Ax8:FuncId:=210
abbrev Al7:FuncId:=211
abbrev L8:FuncId:=212
abbrev U2:FuncId:=213
abbrev An0:FuncId:=214
abbrev An7:FuncId:=215
abbrev Ao3:FuncId:=216
abbrev D0:FuncId:=217
abbrev H0:FuncId:=218
abbrev S7:FuncId:=219
abbrev A53:FuncId:=220
abbrev Dm7:FuncId:=223
abbrev B6:FuncId:=224
abbrev E1:FuncId:=225
abbrev Z9:FuncId:=226
abbrev Ab6:FuncId:=229
abbrev Ax9:FuncId:=230
abbrev Db1:FuncId:=231
abbrev Bb6:FuncId:=232
abbrev Bu8:FuncId:=233
abbrev Dc8:FuncId:=234
abbrev Ao2:FuncId:=235
abbrev Ah6:FuncId:=238
abbrev Bb9:FuncId:=239
abbrev B2:TypeId:=3
abbrev E21:TypeId:=4
abbrev A3:TypeId:=5
abbrev Dg8:TypeId:=30
abbrev Br7:TypeId:=33
abbrev J0:TypeId:=40
abbrev N0:TypeId:=48
abbrev E99:TypeId:=50
abbrev B9:TypeId:=52
abbrev Eb7:TypeId:=55
abbrev At9:TypeId:=58
abbrev H7:TypeId:=67
abbrev Ah3:TypeId:=76
abbrev D3:TypeId:=99
abbrev Bu4:TypeId:=109
abbrev B90:TypeId:=115
abbrev D1:TypeId:=120
abbrev B15:TypeId:=132
abbrev Df0:TypeId:=147
abbrev As7:TypeId:=150
abbrev U3:TypeId:=161
abbrev H4:TypeId:=180
abbrev As3:TypeId:=187
abbrev N6:TypeId:=194
abbrev Eo6:TypeId:=200
abbrev Dt2:TypeId:=204
abbrev A63:TypeId:=205
abbrev Dm4:TypeId:=218
abbrev E6:TypeId:=219
abbrev Ap9:TypeId:=222
abbrev A95:TypeId:=227
abbrev Eb4:TypeId:=249
abbrev Dx2:TypeId:=250
abbrev As2:TypeId:=257
abbrev Eq2:TypeId:=259
abbrev Ea7:TypeId:=263
abbrev Ea5:TypeId:=267
abbrev Az0:TypeId:=268
abbrev Bj3:TypeId:=270
abbrev Eo4:TypeId:=272
abbrev Bq2:TypeId:=283
abbrev Ai7:TypeId:=285
abbrev Bi3:TypeId:=289
abbrev Bj2:TypeId:=303
abbrev Ag7:TypeId:=307
abbrev D94:TypeId:=312
abbrev Bb4:TypeId:=314
abbrev Hz2:TypeId:=328
end Go.EQ

set_option maxRecDepth 100000
namespace Go.EQ
open Go Go.NN Go.Proofs
variable (C : A1) (R : A2)
noncomputable section
def A27:Cuts:={ globs:=0,loops:=[(6,[0,3,4,7,8])],regs:=[],plans:=[] }
def Bn1:List Item:=A5 Tryz.f6
def W5:List Item:=stk [0,1,0,1,0,1,0,1,0,0,1,4,5] Bn1
theorem Ew6 (C:A1) (R:A2) (who:Option Addr) (whon whoc:Nat) (h:H) :
 A4 PR A27 C R G2 Tryz.f6 100000 true Bn1 [(0,.slice who whon whoc)] h =
 bnd (C A70 [] h) fun r w=>aSl r fun x xn xc=>bnd (C Ac0 [.slice x xn xc] w) fun r_1 w1=>as4 r_1 fun r_2 r_3 r_4 r_5=>aPtr r_2 fun x_1=>aPtr r_3 fun x_2=>aPtr r_4 fun _=>aPtr r_5 fun _=>bnd (cond x_2.isNone (some (true,w1)) (bnd (C N4 [.pointer x_1] w1) fun r_6 w2=>aPtr r_6 fun x_5=>some (x_5.isNone,w2))) fun c w3=>cond c
 (some (.bool false,w3))
 (R G2 W5 [(0,.slice who whon whoc),(3,.pointer x_1),(4,.pointer x_2),(7,.int .i64 1),(8,.int .i64 0)] w3):=by kernel_rfl
theorem Bx8 (C:A1) (R:A2) (who:Option Addr) (whon whoc:Nat) (k:Option Addr) (c:Option Addr) (n:Int) (i:Int) (h:H) :
 A4 PR A27 C R G2 Tryz.f6 100000 true W5 [(0,.slice who whon whoc),(3,.pointer k),(4,.pointer c),(7,.int .i64 n),(8,.int .i64 i)] h =
 bnd (cond (decide (i < ((whon:Nat):Int))) (some (decide (i < 20),h)) (some (false,h))) fun c_1 w=>cond c_1
 (bnd (C N4 [.pointer k] w) fun r w1=>aPtr r fun x=>bnd (C U5 [.pointer x,.int .i64 0] w1) fun r_1 w2=>as2 r_1 fun r_2 r_3=>aSl r_2 fun x_1 xn _=>aInt .i64 r_3 fun _=>aSome who fun p=>ck ((0:Int) ≤ i ∧ i < ((whon:Nat):Int)) (gInt .i64 (Addr.add (B0 p) (Int.toNat i * 1)) w2 fun x_3=>ck (n ≠ (0:Int)) (bnd (C Bi8 [.pointer c,.int .i64 (Int.tmod (O4 .i64 x_3 255) n)] w2) fun r_4 w3=>aAgg r_4 fun x_4=>nw (.cells Ah3 false [.int .i64 0,.int .i64 0,.slice none 0 0,.bool false]) w3 fun b w4=>ck (List.length x_4 = 4) (pAgg ⟨b,0,none⟩ x_4 w4 fun w5=>bnd (C N4 [.pointer k] w5) fun r_5 w6=>aPtr r_5 fun x_5=>bnd (C U5 [.pointer x_5,.int .i64 0] w6) fun r_6 w7=>as2 r_6 fun r_7 r_8=>aSl r_7 fun x_6 xn_1 _=>aInt .i64 r_8 fun _=>cond (decide (n < 8))
 (gInt .i64 (Addr.add ⟨b,0,none⟩ 1) w7 fun x_8=>bnd (cond (x_8 != 0) (some (true,w7)) (gInt .i64 (Addr.add ⟨b,0,none⟩ 0) w7 fun x_9=>some (x_9 != n,w7))) fun c_2 w8=>cond c_2
 (some (.bool false,w8))
 (R G2 W5 [(0,.slice who whon whoc),(3,.pointer k),(4,.pointer c),(7,.int .i64 (IntKind.wrap .i64 (n + 1))),(8,.int .i64 (IntKind.wrap .i64 (i + 1)))] w8))
 (gInt .i64 (Addr.add ⟨b,0,none⟩ 1) w7 fun x_10=>bnd (cond (x_10 != 111) (some (true,w7)) (gCells x_1 xn w7 fun cs=>asBytes cs fun l=>gCells x_6 xn_1 w7 fun cs_1=>asBytes cs_1 fun l_1=>some (!((ByteArray.mk ⟨l⟩).toList == (ByteArray.mk ⟨l_1⟩).toList),w7))) fun c_3 w9=>cond c_3
 (some (.bool false,w9))
 (R G2 W5 [(0,.slice who whon whoc),(3,.pointer k),(4,.pointer c),(7,.int .i64 n),(8,.int .i64 (IntKind.wrap .i64 (i + 1)))] w9))))))
 (bnd (C M6 [.pointer c,.int .i64 0] w) fun r_9 w10=>as2 r_9 fun r_10 r_11=>aAgg r_10 fun x_11=>aInt .i64 r_11 fun x_12=>nw (.cells H7 false [.int .i64 0,.int .i64 0,.int .i64 0,.int .i64 0]) w10 fun b_1 w11=>ck (List.length x_11 = 4) (pAgg ⟨b_1,0,none⟩ x_11 w11 fun w12=>bnd (cond (x_12 == 1) (gInt .i64 (Addr.add ⟨b_1,0,none⟩ 2) w12 fun x_13=>some (x_13 == n,w12)) (some (false,w12))) fun c_4 w13=>bnd (cond c_4 (bnd (C Bl0 [] w13) fun r_12 w14=>aBool r_12 fun x_14=>some (x_14,w14)) (some (false,w13))) fun c_5 w15=>some (.bool c_5,w15))):=by kernel_rfl
def De7:Cuts:={ globs:=0,loops:=[],regs:=[],plans:=[] }
def Ee0:List Item:=A5 Tryz.f14
theorem Gk0 (C:A1) (R:A2)  (h:H) :
 A4 PR De7 C R Bq9 Tryz.f14 100000 true Ee0 [] h =
 nw (.cells Br7 false [.slice none 0 0,.slice none 0 0,.int .i64 0]) h fun b w=>nw (.cells E21 false [.bool false,.bool false]) w fun b_1 w1=>nw (.cells Bu4 false [.int .i64 0,.int .i64 1,.int .i64 1,.int .i64 0]) w1 fun b_2 w2=>pAgg ⟨b,0,none⟩ [.slice (some ⟨b_1,0,none⟩) 2 2,.slice (some ⟨b_2,0,none⟩) 2 2,.int .i64 5] w2 fun w3=>gAgg ⟨b,0,none⟩ 3 w3 fun x=>some (.agg ⟨x⟩,w3):=by kernel_rfl
def Bv7:Cuts:={ globs:=0,loops:=[(9,[6,7,8,9,10,11,12])],regs:=[],plans:=[] }
def Df1:List Item:=A5 Tryz.f31
def A89:List Item:=stk [0,1,0,1,0,1,0,1,0,1,0,1,0,1,0,0,1,4,5] Df1
theorem Gn2 (C:A1) (R:A2) (b:Option Addr) (bn bc:Nat) (h:H) :
 A4 PR Bv7 C R Ac0 Tryz.f31 100000 true Df1 [(0,.slice b bn bc)] h =
 bnd (C Bq9 [] h) fun r w=>aAgg r fun x=>bnd (C Bc7 [.agg ⟨x⟩] w) fun r_1 w1=>as4 r_1 fun r_2 r_3 r_4 r_5=>aPtr r_2 fun x_1=>aPtr r_3 fun x_2=>aPtr r_4 fun x_3=>aPtr r_5 fun x_4=>bnd (cond x_2.isNone (some (true,w1)) (some (((bn:Nat):Int) != 492,w1))) fun c w2=>cond c
 (some (.tuple ⟨[.pointer none,.pointer none,.pointer none,.pointer none]⟩,w2))
 (nw (.cells At9 false [.int .i64 0,.int .i64 0,.int .i64 0,.int .i64 0,.int .i64 0,.int .i64 0,.slice none 0 0]) w2 fun b_1 w3=>pAgg ⟨b_1,0,none⟩ [.int .i64 2,.int .i64 256,.int .i64 0,.int .i64 0,.int .i64 0,.int .i64 0,.slice b bn bc] w3 fun w4=>bnd (C N8 [.agg ⟨[.int .i64 0,.int .i64 0,.int .i64 1,.int .i64 1,.int .u8 0,.int .u8 0,.int .u8 0,.int .u8 0,.int .u8 0,.int .u8 0,.int .u8 0,.int .u8 0,.int .u8 0,.int .u8 0,.int .u8 0,.int .u8 0,.int .u8 0,.int .u8 0,.int .u8 0,.int .u8 0,.int .u8 0,.int .u8 0,.int .u8 0,.int .u8 0,.int .u8 0,.int .u8 0,.int .u8 0,.int .u8 0,.int .u8 0,.int .u8 0,.int .u8 0,.int .u8 0,.int .u8 0,.int .u8 0,.int .u8 0,.int .u8 0]⟩] w4) fun r_6 w5=>aStr r_6 fun x_5=>gAgg ⟨b_1,0,none⟩ 7 w5 fun x_6=>bnd (C P5 [.pointer x_1,.int .i64 0,.agg ⟨x_6⟩] w5) fun r_7 w6=>aAgg r_7 fun _=>gAgg ⟨b_1,0,none⟩ 7 w6 fun x_8=>bnd (C Ao5 [.pointer x_3,.int .i64 0,.agg ⟨x_8⟩] w6) fun r_8 w7=>as3 r_8 fun r_9 r_10 r_11=>aInt .i64 r_9 fun _=>aInt .i64 r_10 fun _=>aStr r_11 fun _=>R Ac0 A89 [(6,.pointer x_1),(7,.pointer x_2),(8,.pointer x_3),(9,.pointer x_4),(10,.pointer (some ⟨b_1,0,none⟩)),(11,.string x_5),(12,.int .i64 1)] w7):=by kernel_rfl
theorem Br5 (C:A1) (R:A2) (k:Option Addr) (c:Option Addr) (wv:Option Addr) (m:Option Addr) (x:Addr) (pipe:ByteArray) (i:Int) (h:H) :
 A4 PR Bv7 C R Ac0 Tryz.f31 100000 true A89 [(6,.pointer k),(7,.pointer c),(8,.pointer wv),(9,.pointer m),(10,.pointer (some x)),(11,.string pipe),(12,.int .i64 i)] h =
 cond (decide (i < 3))
 (ck (ByteArray.size pipe ≤ A8) (nw (.cells A3 false (A0 (ByteArray.data pipe).toList)) h fun b w=>pAgg x [.int .i64 2,.int .i64 (IntKind.wrap .i64 (256 + i)),.int .i64 0,.int .i64 0,.int .i64 0,.int .i64 0,.slice (some (I5 b)) (ByteArray.size pipe) (ByteArray.size pipe)] w fun w1=>gAgg x 7 w1 fun x_1=>bnd (C P5 [.pointer k,.int .i64 0,.agg ⟨x_1⟩] w1) fun r w2=>aAgg r fun _=>gAgg x 7 w2 fun x_3=>bnd (C Ao5 [.pointer wv,.int .i64 0,.agg ⟨x_3⟩] w2) fun r_1 w3=>as3 r_1 fun r_2 r_3 r_4=>aInt .i64 r_2 fun _=>aInt .i64 r_3 fun _=>aStr r_4 fun _=>R Ac0 A89 [(6,.pointer k),(7,.pointer c),(8,.pointer wv),(9,.pointer m),(10,.pointer (some x)),(11,.string pipe),(12,.int .i64 (IntKind.wrap .i64 (i + 1)))] w3))
 (some (.tuple ⟨[.pointer k,.pointer c,.pointer wv,.pointer m]⟩,h)):=by kernel_rfl
def A86:Cuts:={ globs:=0,loops:=[],regs:=[],plans:=[] }
def Bx5:List Item:=A5 Tryz.f33
theorem D81 (C:A1) (R:A2) (k:Option Addr) (h:H) :
 A4 PR A86 C R N4 Tryz.f33 100000 true Bx5 [(0,.pointer k)] h =
 aSome k fun p=>gPtr (Addr.add p 5) h fun x=>some (.pointer x,h):=by kernel_rfl
def A52:Cuts:={ globs:=0,loops:=[],regs:=[],plans:=[(3,⟨[0,1,2,3,4,5,6,7,8,9,10,11,12,13,14,15,16,17,18,19,20,21,22,23,24],[0,1,3,7,0,16,48,112,0,496,1008,2032,0,4096,12288,28672,0,126976,258048,520192,1048575,2097151,2097151,8388607,16777215],[],[]⟩)] }
def Bt7:List Item:=A5 Tryz.f34
theorem D29 (C:A1) (R:A2) (r:Option Addr) (obj:Int) (h:H) :
 A4 PR A52 C R U5 Tryz.f34 100000 true Bt7 [(0,.pointer r),(1,.int .i64 obj)] h =
 bnd (cond (decide (obj < 0)) (some (true,h)) (aSome r fun p=>gSl (Addr.add p 2) h fun _ xn _=>some (decide (obj ≥ ((xn:Nat):Int)),h))) fun c w=>cond c
 (some (.tuple ⟨[.slice none 0 0,.int .i64 1]⟩,w))
 (aSome r fun p_1=>gPtr (Addr.add p_1 0) w fun x_1=>aSome r fun p_2=>gSl (Addr.add p_2 2) w fun x_2 xn_1 _=>aSome x_2 fun p_3=>ck ((0:Int) ≤ obj ∧ obj < ((xn_1:Nat):Int)) (gInt .i64 (Addr.add (Addr.add (B0 p_3) (Int.toNat obj * 2)) 0) w fun x_3=>aSome r fun p_4=>gSl (Addr.add p_4 2) w fun x_4 xn_2 _=>aSome x_4 fun p_5=>ck ((0:Int) ≤ obj ∧ obj < ((xn_2:Nat):Int)) (gInt .i64 (Addr.add (Addr.add (B0 p_5) (Int.toNat obj * 2)) 1) w fun x_5=>bnd (C A04 [.pointer x_1,.int .i64 x_3,.int .i64 x_5] w) fun r_1 w1=>as2 r_1 fun r_2 r_3=>aSl r_2 fun x_6 xn_3 xc_3=>aInt .i64 r_3 fun x_7=>some (.tuple ⟨[.slice x_6 xn_3 xc_3,.int .i64 x_7]⟩,w1)))):=by kernel_rfl
def Aw0:Cuts:={ globs:=0,loops:=[],regs:=[],plans:=[] }
def Bk4:List Item:=A5 Tryz.f48
theorem Dp1 (C:A1) (R:A2) (c:Option Addr) (h:H) :
 A4 PR Aw0 C R Ag3 Tryz.f48 100000 true Bk4 [(0,.pointer c)] h =
 nw (.cells J0 false [.int .i64 0,.int .i64 0,.int .i64 0,.int .i64 0,.int .u8 0,.int .u8 0,.int .u8 0,.int .u8 0,.int .u8 0,.int .u8 0,.int .u8 0,.int .u8 0,.int .u8 0,.int .u8 0,.int .u8 0,.int .u8 0,.int .u8 0,.int .u8 0,.int .u8 0,.int .u8 0,.int .u8 0,.int .u8 0,.int .u8 0,.int .u8 0,.int .u8 0,.int .u8 0,.int .u8 0,.int .u8 0,.int .u8 0,.int .u8 0,.int .u8 0,.int .u8 0,.int .u8 0,.int .u8 0,.int .u8 0,.int .u8 0]) h fun b w=>bnd (C H1 [.pointer c,.agg ⟨[.int .i64 4,.int .i64 0]⟩,.func (.func As6) ⟨[]⟩ ⟨[]⟩] w) fun r w1=>as2 r fun r_1 r_2=>aAgg r_1 fun x=>aInt .i64 r_2 fun x_1=>ck (List.length x = 36) (pAgg ⟨b,0,none⟩ x w1 fun w2=>gAgg ⟨b,0,none⟩ 36 w2 fun x_2=>some (.tuple ⟨[.agg ⟨x_2⟩,.int .i64 x_1]⟩,w2)):=by kernel_rfl
def Ar7:Cuts:={ globs:=0,loops:=[],regs:=[],plans:=[] }
def Bf9:List Item:=A5 Tryz.f49
theorem Dk1 (C:A1) (R:A2) (c:Option Addr) (h:H) :
 A4 PR Ar7 C R Ae2 Tryz.f49 100000 true Bf9 [(0,.pointer c)] h =
 bnd (C O8 [.pointer c,.agg ⟨[.int .i64 5,.int .i64 0]⟩,.func (.func Aj7) ⟨[]⟩ ⟨[]⟩] h) fun r w=>as2 r fun r_1 r_2=>aInt .i64 r_1 fun x=>aInt .i64 r_2 fun x_1=>some (.tuple ⟨[.int .i64 x,.bool (x_1 == 1)]⟩,w):=by kernel_rfl
def Az1:Cuts:={ globs:=0,loops:=[(3,[1,2,3,4]),(7,[1,2,3,4,5]),(13,[1,2,3,6])],regs:=[],plans:=[] }
def Bc1:List Item:=A5 Tryz.f50
def A92:List Item:=stk [0,1,0,1,0,0,1,4,5] Bc1
def Av5:List Item:=stk [0,1,0,1,0,0,1,4,5,6,0,1,0,4,0,1,0,0,1,4,5] Bc1
def A90:List Item:=stk [0,1,0,1,0,1,0,0,1,4,5] Bc1
theorem Gr4 (C:A1) (R:A2) (p:List Value) (h:H) :
 A4 PR Az1 C R H6 Tryz.f50 100000 true Bc1 [(0,.agg ⟨p⟩)] h =
 nw (.cells Br7 false p) h fun b w=>nw (.cells D3 false [.slice none 0 0,.slice none 0 0,.slice none 0 0,.int .i64 0,.slice none 0 0]) w fun b_1 w1=>gInt .i64 (Addr.add ⟨b,0,none⟩ 2) w1 fun x=>nw (.cells D3 false [.slice none 0 0,.slice none 0 0,.slice none 0 0,.int .i64 0,.slice none 0 0]) w1 fun b_2 w2=>pAgg ⟨b_2,0,none⟩ [.slice none 0 0,.slice none 0 0,.slice none 0 0,.int .i64 x,.slice none 0 0] w2 fun w3=>R H6 A92 [(1,.pointer (some ⟨b,0,none⟩)),(2,.pointer (some ⟨b_1,0,none⟩)),(3,.pointer (some ⟨b_2,0,none⟩)),(4,.int .i64 0)] w3:=by kernel_rfl
theorem Dl0 (C:A1) (R:A2) (p:Addr) (x2:Addr) (b:Addr) (s:Int) (h:H) :
 A4 PR Az1 C R H6 Tryz.f50 100000 true A92 [(1,.pointer (some p)),(2,.pointer (some x2)),(3,.pointer (some b)),(4,.int .i64 s)] h =
 gSl (Addr.add p 0) h fun _ xn _=>cond (decide (s < ((xn:Nat):Int)))
 (gSl (Addr.add b 0) h fun x_1 xn_1 xc_1=>nw (.cells B2 false [.int .i64 20]) h fun b_1 w=>gCells (some ⟨b_1,0,none⟩) (1 * 1) w fun cs=>ckB (fitsOpen x_1 B2 w) (apd B2 1 x_1 xn_1 xc_1 1 cs w fun a an ac w1=>pV (Addr.add b 0) (.slice a an ac) w1 fun w2=>R H6 Av5 [(1,.pointer (some p)),(2,.pointer (some x2)),(3,.pointer (some b)),(4,.int .i64 s),(5,.int .i64 0)] w2))
 (R H6 A90 [(1,.pointer (some p)),(2,.pointer (some x2)),(3,.pointer (some b)),(6,.int .i64 0)] h):=by kernel_rfl
theorem Dm9 (C:A1) (R:A2) (p:Addr) (x2:Addr) (b:Addr) (s:Int) (i:Int) (h:H) :
 A4 PR Az1 C R H6 Tryz.f50 100000 true Av5 [(1,.pointer (some p)),(2,.pointer (some x2)),(3,.pointer (some b)),(4,.int .i64 s),(5,.int .i64 i)] h =
 cond (decide (i < 9))
 (gSl (Addr.add b 1) h fun x xn xc=>nw (.cells B2 false [.int .i64 s]) h fun b_1 w=>gCells (some ⟨b_1,0,none⟩) (1 * 1) w fun cs=>ckB (fitsOpen x B2 w) (apd B2 1 x xn xc 1 cs w fun a an ac w1=>pV (Addr.add b 1) (.slice a an ac) w1 fun w2=>R H6 Av5 [(1,.pointer (some p)),(2,.pointer (some x2)),(3,.pointer (some b)),(4,.int .i64 s),(5,.int .i64 (IntKind.wrap .i64 (i + 1)))] w2))
 (gSl (Addr.add b 2) h fun x_1 xn_1 xc_1=>nw (.cells B2 false [.int .i64 s]) h fun b_2 w3=>nw (.cells N0 false [.slice (some ⟨b_2,0,none⟩) 1 1]) w3 fun b_3 w4=>gCells (some ⟨b_3,0,none⟩) (1 * 1) w4 fun cs_1=>ckB (fitsOpen x_1 N0 w4) (apd N0 1 x_1 xn_1 xc_1 1 cs_1 w4 fun a_1 an_1 ac_1 w5=>pV (Addr.add b 2) (.slice a_1 an_1 ac_1) w5 fun w6=>gSl (Addr.add b 4) w6 fun x_2 xn_2 xc_2=>nw (.cells B2 false [.int .i64 s]) w6 fun b_4 w7=>nw (.cells H4 false [.int .i64 s,.int .i64 0,.int .i64 0,.int .i64 492,.slice (some ⟨b_4,0,none⟩) 1 1]) w7 fun b_5 w8=>gCells (some ⟨b_5,0,none⟩) (1 * 5) w8 fun cs_2=>ckB (fitsOpen x_2 H4 w8) (apd H4 5 x_2 xn_2 xc_2 1 cs_2 w8 fun a_2 an_2 ac_2 w9=>pV (Addr.add b 4) (.slice a_2 an_2 ac_2) w9 fun w10=>R H6 A92 [(1,.pointer (some p)),(2,.pointer (some x2)),(3,.pointer (some b)),(4,.int .i64 (IntKind.wrap .i64 (s + 1)))] w10))):=by kernel_rfl
theorem Dl2 (C:A1) (R:A2) (p:Addr) (x2:Addr) (b:Addr) (i:Int) (h:H) :
 A4 PR Az1 C R H6 Tryz.f50 100000 true A90 [(1,.pointer (some p)),(2,.pointer (some x2)),(3,.pointer (some b)),(6,.int .i64 i)] h =
 gSl (Addr.add p 1) h fun _ xn _=>cond (decide (i < ((xn:Nat):Int)))
 (gSl (Addr.add p 1) h fun x_1 xn_1 _=>aSome x_1 fun p_1=>ck ((0:Int) ≤ i ∧ i < ((xn_1:Nat):Int)) (gAgg (Addr.add (B0 p_1) (Int.toNat i * 2)) 2 h fun x_2=>nw (.cells Bu4 false [.int .i64 0,.int .i64 0]) h fun b_1 w=>ck (List.length x_2 = 2) (pAgg ⟨b_1,0,none⟩ x_2 w fun w1=>gSl (Addr.add b 4) w1 fun x_3 xn_2 xc_2=>gInt .i64 (Addr.add ⟨b_1,0,none⟩ 0) w1 fun x_4=>gInt .i64 (Addr.add ⟨b_1,0,none⟩ 0) w1 fun x_5=>gInt .i64 (Addr.add ⟨b_1,0,none⟩ 1) w1 fun x_6=>nw (.cells B2 false [.int .i64 x_5,.int .i64 x_6]) w1 fun b_2 w2=>nw (.cells H4 false [.int .i64 x_4,.int .i64 (IntKind.wrap .i64 (8 + i)),.int .i64 0,.int .i64 40,.slice (some ⟨b_2,0,none⟩) 2 2]) w2 fun b_3 w3=>gCells (some ⟨b_3,0,none⟩) (1 * 5) w3 fun cs=>ckB (fitsOpen x_3 H4 w3) (apd H4 5 x_3 xn_2 xc_2 1 cs w3 fun a an ac w4=>pV (Addr.add b 4) (.slice a an ac) w4 fun w5=>R H6 A90 [(1,.pointer (some p)),(2,.pointer (some x2)),(3,.pointer (some b)),(6,.int .i64 (IntKind.wrap .i64 (i + 1)))] w5))))
 (gAgg b 5 h fun x_7=>ck (List.length x_7 = 5) (pAgg x2 x_7 h fun w6=>gAgg x2 5 w6 fun x_8=>some (.agg ⟨x_8⟩,w6))):=by kernel_rfl
def B61:Cuts:={ globs:=0,loops:=[],regs:=[],plans:=[(1,⟨[1,0,2,3,4,5,6],[0,0,3,7,7,31,63],[(0,[1])],[]⟩)] }
def D68:List Item:=A5 Tryz.f58
theorem Gg3 (C:A1) (R:A2) (p:List Value) (h:H) :
 A4 PR B61 C R Bl4 Tryz.f58 100000 true D68 [(0,.agg ⟨p⟩)] h =
 nw (.cells J0 false p) h fun b w=>gAgg ⟨b,0,none⟩ 36 w fun x=>bnd (C Bb8 [] w) fun r w1=>aPtr r fun x_1=>gAgg ⟨b,0,none⟩ 36 w1 fun x_2=>same (.agg ⟨x⟩) (.agg ⟨x_2⟩) (bnd (C Q6 [.pointer x_1,.agg ⟨x⟩] w1) fun r_1 w2=>as2 r_1 fun r_2 r_3=>aSl r_2 fun x_3 xn xc=>aBool r_3 fun x_4=>some (.tuple ⟨[.slice x_3 xn xc,.bool x_4]⟩,w2)):=by kernel_rfl
def Ar9:Cuts:={ globs:=0,loops:=[],regs:=[],plans:=[(2,⟨[0,1,2,3,4,5,6,7,8,9,10,11,12,13,14],[0,1,3,7,15,31,63,127,255,511,1023,127,4095,8191,16383],[],[]⟩),(4,⟨[0,1,2,3,4,5,6,7,8,9,10,11,12,13,14,15,16,17],[0,1,3,7,0,16,48,112,0,256,0,1024,0,7936,16383,32767,65535,131071],[],[]⟩)] }
def Bg1:List Item:=A5 Tryz.f59
theorem Dk0 (C:A1) (R:A2) (c:Option Addr) (r:List Value) (b:Option Addr) (bn bc:Nat) (ok:Bool) (h:H) :
 A4 PR Ar9 C R J9 Tryz.f59 100000 true Bg1 [(0,.pointer c),(1,.agg ⟨r⟩),(2,.slice b bn bc),(3,.bool ok)] h =
 nw (.cells D1 false r) h fun b_1 w=>gAgg ⟨b_1,0,none⟩ 2 w fun x=>bnd (C O6 [.pointer c,.agg ⟨x⟩] w) fun r_1 w1=>as2 r_1 fun r_2 r_3=>aAgg r_2 fun x_1=>aBool r_3 fun x_2=>nw (.cells A95 false [.int .i64 0,.int .i64 0,.int .i64 0]) w1 fun b_2 w2=>ck (List.length x_1 = 3) (pAgg ⟨b_2,0,none⟩ x_1 w2 fun w3=>bnd (cond (!x_2) (some (true,w3)) (some (!ok,w3))) fun c_1 w4=>bnd (cond c_1 (some (true,w4)) (aSome c fun p=>gMap (Addr.add p 3) w4 fun x_3=>gAgg ⟨b_1,0,none⟩ 2 w4 fun x_4=>keyN PR D1 (.agg ⟨x_4⟩) (opt x_3 fun r_4=>mapAt w4 r_4 fun es _=>opt (Ai5 (.int .i64 0) (.agg ⟨x_4⟩) es) fun f=>aInt .i64 f.1 fun x_5=>some (decide (x_5 > 0),w4)))) fun c_2 w5=>cond c_2
 (some (.bool false,w5))
 (aSome c fun p_1=>gPtr (Addr.add p_1 0) w5 fun x_6=>aSome c fun p_2=>gInt .i64 (Addr.add p_2 1) w5 fun x_7=>gInt .i64 (Addr.add ⟨b_2,0,none⟩ 0) w5 fun x_8=>gInt .i64 (Addr.add ⟨b_2,0,none⟩ 1) w5 fun x_9=>bnd (C P5 [.pointer x_6,.int .i64 x_7,.agg ⟨[.int .i64 2,.int .i64 x_8,.int .i64 x_9,.int .i64 0,.int .i64 0,.int .i64 0,.slice b bn bc]⟩] w5) fun r_5 w6=>aAgg r_5 fun x_10=>nth x_10 0 fun E=>aInt .i64 E fun E_1=>some (.bool (E_1 == 0),w6))):=by kernel_rfl
def D34:Cuts:={ globs:=0,loops:=[],regs:=[],plans:=[] }
def E19:List Item:=A5 Tryz.f64
theorem G92 (C:A1) (R:A2) (n:Int) (h:H) :
 A4 PR D34 C R A54 Tryz.f64 100000 true E19 [(0,.int .i64 n)] h =
 nw (.cells A3 false [.int .u8 (IntKind.wrap .u8 (Int.fdiv n (2 ^ 8))),.int .u8 (IntKind.wrap .u8 (n))]) h fun b w=>gCells (some ⟨b,0,none⟩) 2 w fun cs=>asBytes cs fun l=>some (.string (ByteArray.mk ⟨l⟩),w):=by kernel_rfl
def Bz5:Cuts:={ globs:=0,loops:=[],regs:=[],plans:=[] }
def Dv9:List Item:=A5 Tryz.f71
theorem E80 (C:A1) (R:A2) (b:Option Addr) (bn bc:Nat) (h:H) :
 A4 PR Bz5 C R A16 Tryz.f71 100000 true Dv9 [(0,.slice b bn bc)] h =
 nw (.cells B9 false [.int .i64 0,.int .i64 0,.int .i64 0,.int .i64 0,.int .i64 0,.int .i64 0,.int .i64 0,.int .i64 0,.int .i64 0,.int .i64 0,.int .i64 0,.int .i64 0,.int .i64 0,.int .i64 0,.int .i64 0,.int .i64 0]) h fun b_1 w=>bnd (cond (((bn:Nat):Int) == 24) (bnd (C Aj1 [.slice b bn bc] w) fun r w1=>aBool r fun x=>some (x,w1)) (some (false,w))) fun c w2=>cond c
 (pAgg ⟨b_1,0,none⟩ [.int .i64 0,.int .i64 0,.int .i64 0,.int .i64 0,.int .i64 0,.int .i64 0,.int .i64 0,.int .i64 0,.int .i64 0,.int .i64 0,.int .i64 0,.int .i64 0,.int .i64 0,.int .i64 0,.int .i64 0,.int .i64 0] w2 fun w3=>gAgg ⟨b_1,0,none⟩ 16 w3 fun x_1=>some (.tuple ⟨[.agg ⟨x_1⟩,.int .i64 0]⟩,w3))
 (bnd (C A74 [] w2) fun r_1 w4=>aPtr r_1 fun x_2=>bnd (C Q7 [.pointer x_2,.slice b bn bc] w4) fun r_2 w5=>as2 r_2 fun r_3 r_4=>aAgg r_3 fun x_3=>aBool r_4 fun x_4=>nw (.cells B9 false [.int .i64 0,.int .i64 0,.int .i64 0,.int .i64 0,.int .i64 0,.int .i64 0,.int .i64 0,.int .i64 0,.int .i64 0,.int .i64 0,.int .i64 0,.int .i64 0,.int .i64 0,.int .i64 0,.int .i64 0,.int .i64 0]) w5 fun b_2 w6=>ck (List.length x_3 = 16) (pAgg ⟨b_2,0,none⟩ x_3 w6 fun w7=>cond (!x_4)
 (pAgg ⟨b_1,0,none⟩ [.int .i64 0,.int .i64 0,.int .i64 0,.int .i64 0,.int .i64 0,.int .i64 0,.int .i64 0,.int .i64 0,.int .i64 0,.int .i64 0,.int .i64 0,.int .i64 0,.int .i64 0,.int .i64 0,.int .i64 0,.int .i64 0] w7 fun w8=>gAgg ⟨b_1,0,none⟩ 16 w8 fun x_5=>some (.tuple ⟨[.agg ⟨x_5⟩,.int .i64 2]⟩,w8))
 (gAgg ⟨b_2,0,none⟩ 16 w7 fun x_6=>ck (List.length x_6 = 16) (pAgg ⟨b_1,0,none⟩ x_6 w7 fun w9=>gAgg ⟨b_1,0,none⟩ 16 w9 fun x_7=>some (.tuple ⟨[.agg ⟨x_7⟩,.int .i64 1]⟩,w9))))):=by kernel_rfl
def Ar5:Cuts:={ globs:=0,loops:=[],regs:=[],plans:=[(2,⟨[0,1,2,3,4,5,6,7],[0,0,0,4,12,0,63,127],[],[]⟩)] }
def Bg3:List Item:=A5 Tryz.f73
theorem Dj8 (C:A1) (R:A2) (c:Option Addr) (r:List Value) (h:H) :
 A4 PR Ar5 C R Ae5 Tryz.f73 100000 true Bg3 [(0,.pointer c),(1,.agg ⟨r⟩)] h =
 nw (.cells D1 false r) h fun b w=>gAgg ⟨b,0,none⟩ 2 w fun x=>bnd (C O6 [.pointer c,.agg ⟨x⟩] w) fun r_1 w1=>as2 r_1 fun r_2 r_3=>aAgg r_2 fun x_1=>aBool r_3 fun x_2=>nw (.cells A95 false [.int .i64 0,.int .i64 0,.int .i64 0]) w1 fun b_1 w2=>ck (List.length x_1 = 3) (pAgg ⟨b_1,0,none⟩ x_1 w2 fun w3=>gAgg ⟨b,0,none⟩ 2 w3 fun x_3=>gInt .i64 (Addr.add ⟨b_1,0,none⟩ 2) w3 fun x_4=>ck ((0:Int) ≤ x_4 ∧ (x_4:Int) ≤ x_4 ∧ x_4 ≤ (A8:Int)) (nw (.cells A3 false (G3 (Int.toNat x_4) [.int .u8 0])) w3 fun b_2 w4=>bnd (C J9 [.pointer c,.agg ⟨x_3⟩,.slice (some ⟨b_2,0,none⟩) (Int.toNat x_4) (Int.toNat x_4),.bool x_2] w4) fun r_4 w5=>aBool r_4 fun x_5=>some (.bool x_5,w5))):=by kernel_rfl
def Ay5:Cuts:={ globs:=0,loops:=[(4,[1,3,4])],regs:=[],plans:=[] }
def Bh0:List Item:=A5 Tryz.f77
def An2:List Item:=stk [0,1,0,1,0,1,0,0,1,4,5] Bh0
theorem En3 (C:A1) (R:A2) (p:List Value) (h:H) :
 A4 PR Ay5 C R N8 Tryz.f77 100000 true Bh0 [(0,.agg ⟨p⟩)] h =
 nw (.cells J0 false p) h fun b w=>gInt .i64 (Addr.add ⟨b,0,none⟩ 0) w fun x=>gInt .i64 (Addr.add ⟨b,0,none⟩ 1) w fun x_1=>gInt .i64 (Addr.add ⟨b,0,none⟩ 2) w fun x_2=>gInt .i64 (Addr.add ⟨b,0,none⟩ 3) w fun x_3=>nw (.cells A3 false [.int .u8 1,.int .u8 (IntKind.wrap .u8 (x)),.int .u8 (IntKind.wrap .u8 (x_1)),.int .u8 (IntKind.wrap .u8 (x_2)),.int .u8 (IntKind.wrap .u8 (x_3)),.int .u8 197]) w fun b_1 w1=>gCells (some ⟨b_1,0,none⟩) 6 w1 fun cs=>asBytes cs fun l=>bnd (C Ab9 [.string (ByteArray.mk ⟨l⟩)] w1) fun r w2=>aInt .u8 r fun x_4=>nw (.cells A3 false [.int .u8 x_4,.int .u8 0]) w2 fun b_2 w3=>gCells (some ⟨b_2,0,none⟩) 2 w3 fun cs_1=>asBytes cs_1 fun l_1=>ck (ByteArray.size (ByteArray.mk ⟨l⟩) + ByteArray.size (ByteArray.mk ⟨l_1⟩) ≤ A8) (R N8 An2 [(1,.pointer (some ⟨b,0,none⟩)),(3,.string ((ByteArray.mk ⟨l⟩) ++ (ByteArray.mk ⟨l_1⟩))),(4,.int .i64 0)] w3):=by kernel_rfl
theorem Bu7 (C:A1) (R:A2) (p:Addr) (s:ByteArray) (i:Int) (h:H) :
 A4 PR Ay5 C R N8 Tryz.f77 100000 true An2 [(1,.pointer (some p)),(3,.string s),(4,.int .i64 i)] h =
 cond (decide (i < 32))
 (ck ((0:Int) ≤ i ∧ i < ((32:Nat):Int)) (gInt .u8 (Addr.add (Addr.add p 4) (Int.toNat i * 1)) h fun x=>nw (.cells A3 false [.int .u8 x]) h fun b w=>gCells (some ⟨b,0,none⟩) 1 w fun cs=>asBytes cs fun l=>ck (ByteArray.size s + ByteArray.size (ByteArray.mk ⟨l⟩) ≤ A8) (R N8 An2 [(1,.pointer (some p)),(3,.string (s ++ (ByteArray.mk ⟨l⟩))),(4,.int .i64 (IntKind.wrap .i64 (i + 1)))] w)))
 (some (.string s,h)):=by kernel_rfl
def Al5:Cuts:={ globs:=0,loops:=[],regs:=[(8,[8,11,12])],plans:=[(7,⟨[0,1,2,3,4,5,6,7,8,9],[0,1,3,7,0,31,63,31,159,511],[(7,[5])],[]⟩)] }
def A56:List Item:=A5 Tryz.f108
def Ar8:List Item:=stk [0,1,0,1,0,1,0,1,0,1,0,1,0,0] A56
theorem Dy8 (C:A1) (R:A2) (c:Option Addr) (r:List Value) (decode:Value) (h:H) :
 A4 PR Al5 C R O8 Tryz.f108 100000 true A56 [(0,.pointer c),(1,.agg ⟨r⟩),(2,decode)] h =
 nw (.cells D1 false r) h fun b w=>gAgg ⟨b,0,none⟩ 2 w fun x=>bnd (C M8 [.pointer c,.agg ⟨x⟩] w) fun r_1 w1=>as2 r_1 fun r_2 r_3=>aSl r_2 fun x_1 xn xc=>aBool r_3 fun x_2=>cond (!x_2)
 (some (.tuple ⟨[.int .i64 0,.int .i64 2]⟩,w1))
 (aFn decode fun g fi cp=>bnd (C g (fi ++ ([.slice x_1 xn xc] ++ cp)) w1) fun r_4 w2=>as2 r_4 fun r_5 r_6=>aInt .i64 r_5 fun x_3=>aInt .i64 r_6 fun x_4=>cond (x_4 == 2)
 (aSome c fun p=>gMap (Addr.add p 3) w2 fun x_5=>gAgg ⟨b,0,none⟩ 2 w2 fun x_6=>keyN PR D1 (.agg ⟨x_6⟩) (opt x_5 fun r_7=>mapAt w2 r_7 fun es _=>opt (Ai5 (.int .i64 0) (.agg ⟨x_6⟩) es) fun f=>aInt .i64 f.1 fun x_7=>keyN PR D1 (.agg ⟨x_6⟩) (opt x_5 fun r_8=>mapAt w2 r_8 fun es_1 cl_1=>opt (Do6 (.int .i64 0) (.agg ⟨x_6⟩) es_1 cl_1) fun f_1=>aInt .i64 f_1.1 fun _=>lt (H.set w2 r_8 f_1.2.2) fun w3=>keyN PR D1 (.agg ⟨x_6⟩) (opt x_5 fun r_9=>mapAt w3 r_9 fun es_2 _=>opt (Ai5 (.int .i64 0) (.agg ⟨x_6⟩) es_2) fun f_2=>aInt .i64 f_2.1 fun x_9=>same (.int .i64 x_7) (.int .i64 x_9) (opt x_5 fun r_10=>mapAt w3 r_10 fun es_3 cl_3=>opt (Be3 (f_1.2.1:Int) es_3 0) fun i=>lt (H.set w3 r_10 (.map (modN (fun e=>{ e with val:=.int .i64 (IntKind.wrap .i64 (x_7 + 1)) }) i es_3) cl_3)) fun w4=>R O8 Ar8 [(8,.int .i64 0),(11,.int .i64 x_3),(12,.int .i64 x_4)] w4)))))
 (R O8 Ar8 [(8,.int .i64 0),(11,.int .i64 x_3),(12,.int .i64 x_4)] w2)):=by kernel_rfl
theorem Bg0 (C:A1) (R:A2) (nonev:Int) (v:Int) (isv:Int) (h:H) :
 A4 PR Al5 C R O8 Tryz.f108 100000 true Ar8 [(8,.int .i64 nonev),(11,.int .i64 v),(12,.int .i64 isv)] h =
 cond (isv != 1)
 (some (.tuple ⟨[.int .i64 nonev,.int .i64 isv]⟩,h))
 (some (.tuple ⟨[.int .i64 v,.int .i64 isv]⟩,h)):=by kernel_rfl
def Bh7:Cuts:={ globs:=0,loops:=[],regs:=[],plans:=[] }
def B82:List Item:=A5 Tryz.f109
theorem Em6 (C:A1) (R:A2) (b:Option Addr) (bn bc:Nat) (h:H) :
 A4 PR Bh7 C R Aj7 Tryz.f109 100000 true B82 [(0,.slice b bn bc)] h =
 cond (((bn:Nat):Int) != 4)
 (some (.tuple ⟨[.int .i64 0,.int .i64 2]⟩,h))
 (aSome b fun p=>ck ((0:Int) ≤ 0 ∧ 0 < ((bn:Nat):Int)) (gInt .u8 (Addr.add (B0 p) (Int.toNat 0 * 1)) h fun x=>bnd (C Ak8 [.int .i64 (IntKind.wrap .i64 (x))] h) fun r w=>as2 r fun r_1 r_2=>aSl r_1 fun x_1 xn _=>aBool r_2 fun x_2=>bnd (cond (!x_2) (some (true,w)) (gCells x_1 xn w fun cs=>asBytes cs fun l=>gCells b bn w fun cs_1=>asBytes cs_1 fun l_1=>some (!((ByteArray.mk ⟨l⟩).toList == (ByteArray.mk ⟨l_1⟩).toList),w))) fun c w1=>cond c
 (some (.tuple ⟨[.int .i64 0,.int .i64 2]⟩,w1))
 (aSome b fun p_1=>ck ((0:Int) ≤ 0 ∧ 0 < ((bn:Nat):Int)) (gInt .u8 (Addr.add (B0 p_1) (Int.toNat 0 * 1)) w1 fun x_3=>some (.tuple ⟨[.int .i64 (IntKind.wrap .i64 (x_3)),.int .i64 1]⟩,w1))))):=by kernel_rfl
def B27:Cuts:={ globs:=0,loops:=[(3,[3,12,13,14])],regs:=[],plans:=[(5,⟨[0,1,2,3,4,5,6,7,8,9,10,11,12,13],[0,0,2,6,14,0,32,96,224,480,1022,2047,4095,8191],[],[]⟩)] }
def Do4:List Item:=A5 Tryz.f115
def Bf3:List Item:=stk [0,1,0,1,0,0,1,4,5] Do4
theorem Gu4 (C:A1) (R:A2) (frames:Option Addr) (framesn framesc:Nat) (h:H) :
 A4 PR B27 C R Ao0 Tryz.f115 100000 true Do4 [(0,.slice frames framesn framesc)] h =
 nw (.cells As2 false [.slice none 0 0]) h fun b w=>ckB (fitsOpen frames B2 w) (ck ((0:Int) ≤ mm2 false ((framesn:Nat):Int) 4 ∧ mm2 false ((framesn:Nat):Int) 4 ≤ ((framesc:Nat):Int)) (R Ao0 Bf3 [(3,.pointer (some ⟨b,0,none⟩)),(12,.slice (G9 frames (decide (0 < framesc)) (0 * 1)) ((Int.toNat (mm2 false ((framesn:Nat):Int) 4)) - 0) (framesc - 0)),(13,.int .i64 (((Int.toNat (mm2 false ((framesn:Nat):Int) 4)) - 0:Nat):Int)),(14,.int .i64 0)] w)):=by kernel_rfl
theorem Du9 (C:A1) (R:A2) (q:Addr) (x12:Option Addr) (x12n x12c:Nat) (x13:Int) (x14:Int) (h:H) :
 A4 PR B27 C R Ao0 Tryz.f115 100000 true Bf3 [(3,.pointer (some q)),(12,.slice x12 x12n x12c),(13,.int .i64 x13),(14,.int .i64 x14)] h =
 cond (decide (x14 < x13))
 (aSome x12 fun p=>ck ((0:Int) ≤ x14 ∧ x14 < ((x12n:Nat):Int)) (gInt .i64 (Addr.add (B0 p) (Int.toNat x14 * 1)) h fun x=>gSl (Addr.add q 0) h fun x_1 xn xc=>ck ((0:Int) ≤ mm2 false (mm2 true x 0) 64 ∧ (mm2 false (mm2 true x 0) 64:Int) ≤ mm2 false (mm2 true x 0) 64 ∧ mm2 false (mm2 true x 0) 64 ≤ (A8:Int)) (nw (.cells B2 false (G3 (Int.toNat (mm2 false (mm2 true x 0) 64)) [.int .i64 0])) h fun b w=>nw (.cells N0 false [.slice (some ⟨b,0,none⟩) (Int.toNat (mm2 false (mm2 true x 0) 64)) (Int.toNat (mm2 false (mm2 true x 0) 64))]) w fun b_1 w1=>gCells (some ⟨b_1,0,none⟩) (1 * 1) w1 fun cs=>ckB (fitsOpen x_1 N0 w1) (apd N0 1 x_1 xn xc 1 cs w1 fun a an ac w2=>pV (Addr.add q 0) (.slice a an ac) w2 fun w3=>R Ao0 Bf3 [(3,.pointer (some q)),(12,.slice x12 x12n x12c),(13,.int .i64 x13),(14,.int .i64 (IntKind.wrap .i64 (x14 + 1)))] w3))))
 (some (.pointer (some q),h)):=by kernel_rfl
def Di6:Cuts:={ globs:=0,loops:=[],regs:=[],plans:=[] }
def Ec9:List Item:=A5 Tryz.f116
theorem Gu2 (C:A1) (R:A2) (m:Option Addr) (s:Option Addr) (h:H) :
 A4 PR Di6 C R Bv1 Tryz.f116 100000 true Ec9 [(0,.pointer m),(1,.pointer s)] h =
 nw (.cells Df0 false [.pointer m,.pointer s,.slice none 0 0]) h fun b w=>some (.pointer (some ⟨b,0,none⟩),w):=by kernel_rfl
def Aq7:Cuts:={ globs:=0,loops:=[(3,[5,20,21,22])],regs:=[],plans:=[(2,⟨[0,1,2,3,4,5,6,7,8,9,10,11,12,13,14],[0,1,3,7,0,16,0,64,192,448,960,2032,4095,8191,0],[],[]⟩)] }
def A87:List Item:=A5 Tryz.f119
def Ag6:List Item:=stk [0,1,0,1,0,0,1,4,5] A87
theorem D82 (C:A1) (R:A2) (q:Option Addr) (s:Int) (h:H) :
 A4 PR Aq7 C R N5 Tryz.f119 100000 true A87 [(0,.pointer q),(1,.int .i64 s)] h =
 aSome q fun p=>gSl (Addr.add p 0) h fun x _ xc=>aSome q fun p_1=>gSl (Addr.add p_1 0) h fun _ xn_1 _=>ckB (fitsOpen x N0 h) (ck ((0:Int) ≤ mm2 false (mm2 true s 0) ((xn_1:Nat):Int) ∧ mm2 false (mm2 true s 0) ((xn_1:Nat):Int) ≤ ((xc:Nat):Int)) (R N5 Ag6 [(5,.int .i64 0),(20,.slice (G9 x (decide (0 < xc)) (0 * 1)) ((Int.toNat (mm2 false (mm2 true s 0) ((xn_1:Nat):Int))) - 0) (xc - 0)),(21,.int .i64 (((Int.toNat (mm2 false (mm2 true s 0) ((xn_1:Nat):Int))) - 0:Nat):Int)),(22,.int .i64 0)] h)):=by kernel_rfl
theorem Bi6 (C:A1) (R:A2) (n:Int) (x20:Option Addr) (x20n x20c:Nat) (x21:Int) (x22:Int) (h:H) :
 A4 PR Aq7 C R N5 Tryz.f119 100000 true Ag6 [(5,.int .i64 n),(20,.slice x20 x20n x20c),(21,.int .i64 x21),(22,.int .i64 x22)] h =
 cond (decide (x22 < x21))
 (aSome x20 fun p=>ck ((0:Int) ≤ x22 ∧ x22 < ((x20n:Nat):Int)) (gSl (Addr.add (B0 p) (Int.toNat x22 * 1)) h fun _ xn _=>R N5 Ag6 [(5,.int .i64 (IntKind.wrap .i64 (n + ((xn:Nat):Int)))),(20,.slice x20 x20n x20c),(21,.int .i64 x21),(22,.int .i64 (IntKind.wrap .i64 (x22 + 1)))] h))
 (some (.int .i64 n,h)):=by kernel_rfl
def Ah4:Cuts:={ globs:=0,loops:=[],regs:=[],plans:=[] }
def A20:List Item:=A5 Tryz.f120
theorem B30 (C:A1) (R:A2) (s:Option Addr) (sn sc:Nat) (v:Int) (h:H) :
 A4 PR Ah4 C R J4 Tryz.f120 100000 true A20 [(0,.slice s sn sc),(1,.int .i64 v)] h =
 bnd (C G4 [.slice s sn sc,.int .i64 v] h) fun r w=>aInt .i64 r fun x=>some (.bool (decide (x ≥ 0)),w):=by kernel_rfl
def At2:Cuts:={ globs:=0,loops:=[(3,[0,1,5,6])],regs:=[],plans:=[] }
def Bd3:List Item:=A5 Tryz.f123
def Ai8:List Item:=stk [0,1,0,1,0,0,1,4,5] Bd3
theorem Eg4 (C:A1) (R:A2) (q:Option Addr) (s:Int) (h:H) :
 A4 PR At2 C R L1 Tryz.f123 100000 true Bd3 [(0,.pointer q),(1,.int .i64 s)] h =
 R L1 Ai8 [(0,.pointer q),(1,.int .i64 s),(5,.int .i64 0),(6,.int .i64 0)] h:=by kernel_rfl
theorem Bp6 (C:A1) (R:A2) (q:Option Addr) (s:Int) (n:Int) (i:Int) (h:H) :
 A4 PR At2 C R L1 Tryz.f123 100000 true Ai8 [(0,.pointer q),(1,.int .i64 s),(5,.int .i64 n),(6,.int .i64 i)] h =
 cond (decide (i < s))
 (aSome q fun p=>gSl (Addr.add p 0) h fun x xn _=>aSome x fun p_1=>ck ((0:Int) ≤ i ∧ i < ((xn:Nat):Int)) (gSl (Addr.add (B0 p_1) (Int.toNat i * 1)) h fun _ xn_1 _=>R L1 Ai8 [(0,.pointer q),(1,.int .i64 s),(5,.int .i64 (IntKind.wrap .i64 (n + ((xn_1:Nat):Int)))),(6,.int .i64 (IntKind.wrap .i64 (i + 1)))] h))
 (some (.int .i64 n,h)):=by kernel_rfl
def Bm8:Cuts:={ globs:=0,loops:=[],regs:=[],plans:=[] }
def De4:List Item:=A5 Tryz.f140
theorem Eu7 (C:A1) (R:A2) (s:Option Addr) (e:Int) (h:H) :
 A4 PR Bm8 C R A25 Tryz.f140 100000 true De4 [(0,.pointer s),(1,.int .i64 e)] h =
 bnd (C Ag2 [.pointer s,.int .i64 e] h) fun r w=>aBool r fun x=>cond (!x)
 (some (.slice none 0 0,w))
 (aSome s fun p=>gSl (Addr.add p 0) w fun x_1 xn _=>aSome x_1 fun p_1=>ck ((0:Int) ≤ e ∧ e < ((xn:Nat):Int)) (gPtr (Addr.add (B0 p_1) (Int.toNat e * 1)) w fun x_2=>bnd (C O9 [.pointer x_2] w) fun r_1 w1=>aSl r_1 fun x_3 xn_1 xc_1=>some (.slice x_3 xn_1 xc_1,w1))):=by kernel_rfl
def Ad7:Cuts:={ globs:=0,loops:=[],regs:=[],plans:=[(2,⟨[0,1,2,3,4,5,6,7,8,9,10,11,12,13,14],[0,1,3,7,15,31,63,127,255,511,63,63,4095,8191,16383],[],[]⟩)] }
def Ax0:List Item:=A5 Tryz.f144
theorem Bx2 (C:A1) (R:A2) (c:Option Addr) (v:List Value) (h:H) :
 A4 PR Ad7 C R Q6 Tryz.f144 100000 true Ax0 [(0,.pointer c),(1,.agg ⟨v⟩)] h =
 nw (.cells J0 false v) h fun b w=>aSome c fun p=>gInt .i64 (Addr.add p 0) w fun x=>ck ((0:Int) ≤ x ∧ (x:Int) ≤ x ∧ x ≤ (A8:Int)) (nw (.cells A3 false (G3 (Int.toNat x) [.int .u8 0])) w fun b_1 w1=>aSome c fun p_1=>gFv (Addr.add p_1 1) w1 fun x_1=>isNilF x_1 fun b_2=>bnd (cond b_2 (some (true,w1)) (aSome c fun p_2=>gFv (Addr.add p_2 1) w1 fun x_2=>gAgg ⟨b,0,none⟩ 36 w1 fun x_3=>aFn x_2 fun g fi cp=>bnd (C g (fi ++ ([.agg ⟨x_3⟩,.slice (some ⟨b_1,0,none⟩) (Int.toNat x) (Int.toNat x)] ++ cp)) w1) fun r w2=>aBool r fun x_4=>some (!x_4,w2))) fun c_1 w3=>cond c_1
 (some (.tuple ⟨[.slice none 0 0,.bool false]⟩,w3))
 (some (.tuple ⟨[.slice (some ⟨b_1,0,none⟩) (Int.toNat x) (Int.toNat x),.bool true]⟩,w3))):=by kernel_rfl
def B72:Cuts:={ globs:=0,loops:=[],regs:=[],plans:=[] }
def D55:List Item:=A5 Tryz.f147
theorem Gg9 (C:A1) (R:A2) (b:Option Addr) (bn bc:Nat) (h:H) :
 A4 PR B72 C R Aj1 Tryz.f147 100000 true D55 [(0,.slice b bn bc)] h =
 bnd (C O1 [.slice b bn bc,.func (.func Ac3) ⟨[]⟩ ⟨[]⟩] h) fun r w=>aBool r fun x=>some (.bool (!x),w):=by kernel_rfl
def Aw2:Cuts:={ globs:=0,loops:=[],regs:=[],plans:=[] }
def Bi9:List Item:=A5 Tryz.f150
theorem Dp7 (C:A1) (R:A2) (r:Option Addr) (env:Int) (name:Int) (atv:Int) (b:Option Addr) (bn bc:Nat) (h:H) :
 A4 PR Aw2 C R W8 Tryz.f150 100000 true Bi9 [(0,.pointer r),(1,.int .i64 env),(2,.int .i64 name),(3,.int .i64 atv),(4,.slice b bn bc)] h =
 bnd (C Y0 [.pointer r,.int .i64 env,.int .i64 name,.int .i64 2,.int .i64 atv,.int .i64 ((bn:Nat):Int)] h) fun r_1 w=>as2 r_1 fun r_2 r_3=>aInt .i64 r_2 fun x=>aInt .i64 r_3 fun x_1=>cond (x_1 != 0)
 (some (.int .i64 x_1,w))
 (aSome r fun p=>gPtr (Addr.add p 0) w fun x_2=>bnd (C Ba1 [.pointer x_2,.int .i64 x,.slice b bn bc] w) fun r_4 w1=>aInt .i64 r_4 fun x_3=>some (.int .i64 x_3,w1)):=by kernel_rfl
def Dj5:Cuts:={ globs:=0,loops:=[],regs:=[],plans:=[] }
def Ef2:List Item:=A5 Tryz.f164
theorem Gj8 (C:A1) (R:A2) (m:Option Addr) (atv:Int) (n:Int) (h:H) :
 A4 PR Dj5 C R Bd0 Tryz.f164 100000 true Ef2 [(0,.pointer m),(1,.int .i64 atv),(2,.int .i64 n)] h =
 bnd (cond (decide (atv ≥ 0)) (some (decide (n ≥ 0),h)) (some (false,h))) fun c w=>bnd (cond c (aSome m fun p=>gSl (Addr.add p 0) w fun _ xn _=>some (decide (atv ≤ ((xn:Nat):Int)),w)) (some (false,w))) fun c_1 w1=>bnd (cond c_1 (aSome m fun p_1=>gSl (Addr.add p_1 0) w1 fun _ xn_1 _=>some (decide (n ≤ (IntKind.wrap .i64 (((xn_1:Nat):Int) - atv))),w1)) (some (false,w1))) fun c_2 w2=>some (.bool c_2,w2):=by kernel_rfl
def Aj4:Cuts:={ globs:=0,loops:=[],regs:=[],plans:=[] }
def A76:List Item:=A5 Tryz.f165
theorem A66 (C:A1) (R:A2) (s:Option Addr) (sn sc:Nat) (h:H) :
 A4 PR Aj4 C R E5 Tryz.f165 100000 true A76 [(0,.slice s sn sc)] h =
 cond s.isNone
 (some (.slice none 0 0,h))
 (nw (.cells A3 false []) h fun b w=>gCells s (sn * 1) w fun cs=>ckB (fitsOpen (some ⟨b,0,none⟩) A3 w) (apd A3 1 (some ⟨b,0,none⟩) 0 0 sn cs w fun a an ac w1=>some (.slice a an ac,w1))):=by kernel_rfl
def Ab7:Cuts:={ globs:=0,loops:=[(2,[0,1,7,8])],regs:=[],plans:=[] }
def Ao8:List Item:=A5 Tryz.f179
def V9:List Item:=stk [0,1,0,0,1,4,5] Ao8
theorem Dj2 (C:A1) (R:A2) (s:Option Addr) (sn sc:Nat) (v:Int) (h:H) :
 A4 PR Ab7 C R G4 Tryz.f179 100000 true Ao8 [(0,.slice s sn sc),(1,.int .i64 v)] h =
 R G4 V9 [(0,.slice s sn sc),(1,.int .i64 v),(7,.int .i64 ((sn:Nat):Int)),(8,.int .i64 0)] h:=by kernel_rfl
theorem A22 (C:A1) (R:A2) (s:Option Addr) (sn sc:Nat) (v:Int) (x7:Int) (x8:Int) (h:H) :
 A4 PR Ab7 C R G4 Tryz.f179 100000 true V9 [(0,.slice s sn sc),(1,.int .i64 v),(7,.int .i64 x7),(8,.int .i64 x8)] h =
 cond (decide (x8 < x7))
 (aSome s fun p=>ck ((0:Int) ≤ x8 ∧ x8 < ((sn:Nat):Int)) (gInt .i64 (Addr.add (B0 p) (Int.toNat x8 * 1)) h fun x=>cond (v == x)
 (some (.int .i64 x8,h))
 (R G4 V9 [(0,.slice s sn sc),(1,.int .i64 v),(7,.int .i64 x7),(8,.int .i64 (IntKind.wrap .i64 (x8 + 1)))] h)))
 (some (.int .i64 (-1),h)):=by kernel_rfl
def Bm7:Cuts:={ globs:=0,loops:=[],regs:=[],plans:=[(1,⟨[0,1,2,3,4,5,6,7,8,9,10,11,12,13],[0,1,3,7,0,31,63,0,255,511,1023,1023,2047,8191],[],[]⟩)] }
def De3:List Item:=A5 Tryz.f181
theorem Eu5 (C:A1) (R:A2) (s:Option Addr) (env:Int) (c:List Value) (h:H) :
 A4 PR Bm7 C R Ao9 Tryz.f181 100000 true De3 [(0,.pointer s),(1,.int .i64 env),(2,.agg ⟨c⟩)] h =
 nw (.cells N6 false c) h fun b w=>aSome s fun p=>gSl (Addr.add p 0) w fun x xn _=>aSome x fun p_1=>ck ((0:Int) ≤ env ∧ env < ((xn:Nat):Int)) (gPtr (Addr.add (B0 p_1) (Int.toNat env * 1)) w fun x_1=>gAgg ⟨b,0,none⟩ 6 w fun x_2=>bnd (C H0 [.pointer x_1,.agg ⟨x_2⟩] w) fun r w1=>as2 r fun r_1 r_2=>aInt .i64 r_1 fun x_3=>aBool r_2 fun x_4=>cond (!x_4)
 (some (.tuple ⟨[.int .i64 0,.int .i64 4]⟩,w1))
 (some (.tuple ⟨[.int .i64 x_3,.int .i64 0]⟩,w1))):=by kernel_rfl
def Bo8:Cuts:={ globs:=0,loops:=[],regs:=[],plans:=[] }
def Dg1:List Item:=A5 Tryz.f184
theorem Ew7 (C:A1) (R:A2) (s:Option Addr) (e:Int) (h:H) :
 A4 PR Bo8 C R Ag2 Tryz.f184 100000 true Dg1 [(0,.pointer s),(1,.int .i64 e)] h =
 bnd (cond (decide (e ≥ 0)) (aSome s fun p=>gSl (Addr.add p 0) h fun _ xn _=>some (decide (e < ((xn:Nat):Int)),h)) (some (false,h))) fun c w=>some (.bool c,w):=by kernel_rfl
def A41:Cuts:={ globs:=0,loops:=[],regs:=[],plans:=[(6,⟨[0,1,2,3,4,5,6,7,8,9,10,11,12,13,14,15,16,17,18,19,20,21],[0,0,0,4,15,31,63,127,255,511,1023,2047,4095,8191,4095,20479,53247,118783,249855,524287,1048575,2097151],[],[]⟩),(8,⟨[0,1,2,3,4,5,6,7,8,9,10,11,12,13,14,15,16,17,18,19,20,21,22,23,24,25,26,27,28,29,30],[0,1,0,0,8,24,56,0,128,504,1016,2047,4095,8191,16383,32767,16383,131071,16383,16383,540671,1589247,3686399,16383,8404991,33046527,66600959,134217727,268435455,536870911,1073741823],[],[]⟩),(10,⟨[0,1,2,3,4,5,6,7,8,9,10,11,12,13,14],[0,1,3,7,0,16,63,127,0,256,1023,0,4095,8191,16383],[],[]⟩)] }
def Bq8:List Item:=A5 Tryz.f186
theorem Dy5 (C:A1) (R:A2) (r:Option Addr) (e:Int) (name:Int) (right:Int) (atv:Int) (n:Int) (h:H) :
 A4 PR A41 C R An3 Tryz.f186 100000 true Bq8 [(0,.pointer r),(1,.int .i64 e),(2,.int .i64 name),(3,.int .i64 right),(4,.int .i64 atv),(5,.int .i64 n)] h =
 aSome r fun p=>gPtr (Addr.add p 3) h fun x=>bnd (C A44 [.pointer x,.int .i64 e,.int .i64 name] h) fun r_1 w=>as2 r_1 fun r_2 r_3=>aAgg r_2 fun x_1=>aInt .i64 r_3 fun x_2=>nw (.cells N6 false [.int .i64 0,.int .i64 0,.int .i64 0,.int .i64 0,.int .i64 0,.int .i64 0]) w fun b w1=>ck (List.length x_1 = 6) (pAgg ⟨b,0,none⟩ x_1 w1 fun w2=>cond (x_2 != 0)
 (some (.tuple ⟨[.int .i64 0,.int .i64 x_2]⟩,w2))
 (gInt .i64 (Addr.add ⟨b,0,none⟩ 1) w2 fun x_3=>cond ((O4 .i64 x_3 right) == 0)
 (some (.tuple ⟨[.int .i64 0,.int .i64 3]⟩,w2))
 (gInt .i64 (Addr.add ⟨b,0,none⟩ 3) w2 fun x_4=>bnd (C Ad2 [.int .i64 atv,.int .i64 n,.int .i64 x_4] w2) fun r_4 w3=>aBool r_4 fun x_5=>bnd (cond (!x_5) (some (true,w3)) (gInt .i64 (Addr.add ⟨b,0,none⟩ 0) w3 fun x_6=>some (decide (x_6 < 0),w3))) fun c w4=>bnd (cond c (some (true,w4)) (gInt .i64 (Addr.add ⟨b,0,none⟩ 0) w4 fun x_7=>aSome r fun p_1=>gSl (Addr.add p_1 1) w4 fun _ xn _=>some (decide (x_7 ≥ ((xn:Nat):Int)),w4))) fun c_1 w5=>cond c_1
 (some (.tuple ⟨[.int .i64 0,.int .i64 1]⟩,w5))
 (gInt .i64 (Addr.add ⟨b,0,none⟩ 2) w5 fun x_9=>aSome r fun p_2=>gSl (Addr.add p_2 2) w5 fun x_10 xn_1 _=>gInt .i64 (Addr.add ⟨b,0,none⟩ 0) w5 fun x_11=>aSome x_10 fun p_3=>ck ((0:Int) ≤ x_11 ∧ x_11 < ((xn_1:Nat):Int)) (gInt .i64 (Addr.add (B0 p_3) (Int.toNat x_11 * 1)) w5 fun x_12=>bnd (C Ad2 [.int .i64 x_9,.int .i64 atv,.int .i64 x_12] w5) fun r_5 w6=>aBool r_5 fun x_13=>bnd (cond (!x_13) (some (true,w6)) (gInt .i64 (Addr.add ⟨b,0,none⟩ 2) w6 fun x_14=>aSome r fun p_4=>gSl (Addr.add p_4 2) w6 fun x_15 xn_2 _=>gInt .i64 (Addr.add ⟨b,0,none⟩ 0) w6 fun x_16=>aSome x_15 fun p_5=>ck ((0:Int) ≤ x_16 ∧ x_16 < ((xn_2:Nat):Int)) (gInt .i64 (Addr.add (B0 p_5) (Int.toNat x_16 * 1)) w6 fun x_17=>bnd (C Ad2 [.int .i64 (IntKind.wrap .i64 (x_14 + atv)),.int .i64 n,.int .i64 x_17] w6) fun r_6 w7=>aBool r_6 fun x_18=>some (!x_18,w7)))) fun c_2 w8=>cond c_2
 (some (.tuple ⟨[.int .i64 0,.int .i64 1]⟩,w8))
 (aSome r fun p_6=>gSl (Addr.add p_6 1) w8 fun x_19 xn_3 _=>gInt .i64 (Addr.add ⟨b,0,none⟩ 0) w8 fun x_20=>aSome x_19 fun p_7=>ck ((0:Int) ≤ x_20 ∧ x_20 < ((xn_3:Nat):Int)) (gInt .i64 (Addr.add (B0 p_7) (Int.toNat x_20 * 1)) w8 fun x_21=>gInt .i64 (Addr.add ⟨b,0,none⟩ 2) w8 fun x_22=>some (.tuple ⟨[.int .i64 (IntKind.wrap .i64 ((IntKind.wrap .i64 (x_21 + x_22)) + atv)),.int .i64 0]⟩,w8)))))))):=by kernel_rfl
def Bv3:Cuts:={ globs:=0,loops:=[],regs:=[],plans:=[] }
def Dn6:List Item:=A5 Tryz.f202
theorem E09 (C:A1) (R:A2) (m:Option Addr) (atv:Int) (b:Option Addr) (bn bc:Nat) (h:H) :
 A4 PR Bv3 C R Ba1 Tryz.f202 100000 true Dn6 [(0,.pointer m),(1,.int .i64 atv),(2,.slice b bn bc)] h =
 bnd (C Bd0 [.pointer m,.int .i64 atv,.int .i64 ((bn:Nat):Int)] h) fun r w=>aBool r fun x=>cond (!x)
 (some (.int .i64 1,w))
 (aSome m fun p=>gSl (Addr.add p 0) w fun x_1 xn xc=>ckB (fitsOpen x_1 A3 w) (ck ((0:Int) ≤ atv ∧ atv ≤ ((xn:Nat):Int)) (gCells b (min bn (xn - (Int.toNat atv)) * 1) w fun cs=>pCells (G9 x_1 (decide (Int.toNat atv < xc)) ((Int.toNat atv) * 1)) cs w fun w1=>some (.int .i64 0,w1)))):=by kernel_rfl
def Bm9:Cuts:={ globs:=0,loops:=[],regs:=[],plans:=[] }
def Df5:List Item:=A5 Tryz.f206
theorem Es8 (C:A1) (R:A2) (q:Option Addr) (s:Int) (h:H) :
 A4 PR Bm9 C R Af8 Tryz.f206 100000 true Df5 [(0,.pointer q),(1,.int .i64 s)] h =
 bnd (cond (decide (s ≥ 0)) (aSome q fun p=>gSl (Addr.add p 0) h fun _ xn _=>some (decide (s < ((xn:Nat):Int)),h)) (some (false,h))) fun c w=>some (.bool c,w):=by kernel_rfl
def Bn0:Cuts:={ globs:=0,loops:=[],regs:=[],plans:=[(1,⟨[0,1,2,3,4,5,6,7,8,9,10,11,12,13,14,15,16,17,18,19,20,21,22,23,24,25,26,27,28],[0,1,3,7,7,23,55,119,247,511,1023,2047,4095,8191,16383,32767,4095,131071,262143,4095,528383,1576959,3674111,4095,16257023,33034239,67108863,134217727,268435455],[],[]⟩)] }
def Dg0:List Item:=A5 Tryz.f208
theorem Ev4 (C:A1) (R:A2) (k:Option Addr) (env:Int) (n:Int) (h:H) :
 A4 PR Bn0 C R Aq2 Tryz.f208 100000 true Dg0 [(0,.pointer k),(1,.int .i64 env),(2,.int .i64 n)] h =
 bnd (cond (decide (n < 0)) (some (true,h)) (aSome k fun p=>gSl (Addr.add p 6) h fun _ xn _=>some (decide (n ≥ ((xn:Nat):Int)),h))) fun c w=>bnd (cond c (some (true,w)) (aSome k fun p_1=>gSl (Addr.add p_1 1) w fun x_1 xn_1 _=>aSome x_1 fun p_2=>ck ((0:Int) ≤ n ∧ n < ((xn_1:Nat):Int)) (gSl (Addr.add (B0 p_2) (Int.toNat n * 1)) w fun x_2 xn_2 xc_2=>aSome k fun p_3=>gSl (Addr.add p_3 0) w fun x_3 xn_3 _=>aSome x_3 fun p_4=>ck ((0:Int) ≤ env ∧ env < ((xn_3:Nat):Int)) (gInt .i64 (Addr.add (B0 p_4) (Int.toNat env * 1)) w fun x_4=>bnd (C J4 [.slice x_2 xn_2 xc_2,.int .i64 x_4] w) fun r w1=>aBool r fun x_5=>some (!x_5,w1))))) fun c_1 w2=>cond c_1
 (some (.tuple ⟨[.pointer none,.int .i64 8]⟩,w2))
 (aSome k fun p_5=>gSl (Addr.add p_5 6) w2 fun x_6 xn_4 _=>aSome x_6 fun p_6=>ck ((0:Int) ≤ n ∧ n < ((xn_4:Nat):Int)) (gPtr (Addr.add (B0 p_6) (Int.toNat n * 1)) w2 fun x_7=>some (.tuple ⟨[.pointer x_7,.int .i64 0]⟩,w2))):=by kernel_rfl
def P7:Cuts:={ globs:=0,loops:=[(18,[0,1,2])],regs:=[(10,[0,1,2]),(11,[0,1,2]),(14,[0,1,2]),(17,[])],plans:=[(11,⟨[0,1,2,3,4,5,6,7,8,9,10,11,12,13,14,15,16],[0,1,3,7,15,31,31,95,223,479,1023,31,2079,6175,14367,32767,65535],[],[]⟩),(18,⟨[0,1,2,3,4,5,6,7,8,9,10,11,12,13,14,15,16,17,18,19,20],[0,1,3,7,15,31,0,127,255,511,511,1535,3583,7679,16383,511,33279,98815,229887,524287,1048575],[],[]⟩)] }
def V6:List Item:=A5 Tryz.f209
def Al1:List Item:=stk [0,1,0,1,0,1,0,1,0,1,0,0,1,2,0,1] V6
def Am8:List Item:=stk [0,1,0,1,0,1,0,1,0,1,0,1,0,0] V6
def Am9:List Item:=stk [0,1,0,1,0,1,0,1,0,1,0,1,0,1,0,0] V6
def Ak6:List Item:=stk [0,1,0,1,0,1,0,1,0,1,0,1,0,1,0,0,1,2,0,1,0] V6
def Ab2:List Item:=stk [0,1,0,1,0,1,0,1,0,1,0,1,0,1,0,1,0,4,5] V6
theorem Eo1 (C:A1) (R:A2) (s:Option Addr) (who:Int) (now:Int) (h:H) :
 A4 PR P7 C R B4 Tryz.f209 100000 true V6 [(0,.pointer s),(1,.int .i64 who),(2,.int .i64 now)] h =
 aSome s fun p=>gInt .i64 (Addr.add p 7) h fun x=>bnd (cond (decide (who < 0)) (some (true,h)) (some (decide (who > 99),h))) fun c w=>cond c
 (some (.tuple ⟨[.int .i64 0,.bool false]⟩,w))
 (aSome s fun p_1=>pV (Addr.add p_1 7) (.int .i64 (mm2 true now x)) w fun w1=>aSome s fun p_2=>gBool (Addr.add p_2 1) w1 fun x_1=>bnd (cond x_1 (aSome s fun p_3=>gInt .i64 (Addr.add p_3 2) w1 fun x_2=>some (x_2 == who,w1)) (some (false,w1))) fun c_1 w2=>cond c_1
 (aSome s fun p_4=>gInt .i64 (Addr.add p_4 3) w2 fun x_3=>some (.tuple ⟨[.int .i64 x_3,.bool true]⟩,w2))
 (aSome s fun p_5=>gSl (Addr.add p_5 5) w2 fun x_4 xn xc=>bnd (C J4 [.slice x_4 xn xc,.int .i64 who] w2) fun r w3=>aBool r fun x_5=>cond (!x_5)
 (aSome s fun p_6=>gSl (Addr.add p_6 5) w3 fun _ xn_1 _=>cond (((xn_1:Nat):Int) == 0)
 (aSome s fun p_7=>pV (Addr.add p_7 6) (.int .i64 (mm2 true now x)) w3 fun w4=>R B4 Al1 [(0,.pointer s),(1,.int .i64 who),(2,.int .i64 (mm2 true now x))] w4)
 (R B4 Al1 [(0,.pointer s),(1,.int .i64 who),(2,.int .i64 (mm2 true now x))] w3))
 (R B4 Am8 [(0,.pointer s),(1,.int .i64 who),(2,.int .i64 (mm2 true now x))] w3))):=by kernel_rfl
theorem D12 (C:A1) (R:A2) (s:Option Addr) (who:Int) (now:Int) (h:H) :
 A4 PR P7 C R B4 Tryz.f209 100000 true Al1 [(0,.pointer s),(1,.int .i64 who),(2,.int .i64 now)] h =
 aSome s fun p=>gSl (Addr.add p 5) h fun x xn xc=>nw (.cells B2 false [.int .i64 who]) h fun b w=>gCells (some ⟨b,0,none⟩) (1 * 1) w fun cs=>ckB (fitsOpen x B2 w) (apd B2 1 x xn xc 1 cs w fun a an ac w1=>aSome s fun p_1=>pV (Addr.add p_1 5) (.slice a an ac) w1 fun w2=>R B4 Am8 [(0,.pointer s),(1,.int .i64 who),(2,.int .i64 now)] w2):=by kernel_rfl
theorem D03 (C:A1) (R:A2) (s:Option Addr) (who:Int) (now:Int) (h:H) :
 A4 PR P7 C R B4 Tryz.f209 100000 true Am8 [(0,.pointer s),(1,.int .i64 who),(2,.int .i64 now)] h =
 aSome s fun p=>gBool (Addr.add p 1) h fun x=>bnd (cond x (aSome s fun p_1=>gInt .i64 (Addr.add p_1 4) h fun x_1=>aSome s fun p_2=>gInt .i64 (Addr.add p_2 0) h fun x_2=>some (decide ((IntKind.wrap .i64 (now - x_1)) ≥ x_2),h)) (some (false,h))) fun c w=>cond c
 (aSome s fun p_3=>pV (Addr.add p_3 1) (.bool false) w fun w1=>aSome s fun p_4=>pV (Addr.add p_4 6) (.int .i64 now) w1 fun w2=>R B4 Am9 [(0,.pointer s),(1,.int .i64 who),(2,.int .i64 now)] w2)
 (R B4 Am9 [(0,.pointer s),(1,.int .i64 who),(2,.int .i64 now)] w):=by kernel_rfl
theorem D16 (C:A1) (R:A2) (s:Option Addr) (who:Int) (now:Int) (h:H) :
 A4 PR P7 C R B4 Tryz.f209 100000 true Am9 [(0,.pointer s),(1,.int .i64 who),(2,.int .i64 now)] h =
 aSome s fun p=>gBool (Addr.add p 1) h fun x=>cond x
 (aSome s fun p_1=>gSl (Addr.add p_1 5) h fun x_1 xn _=>aSome x_1 fun p_2=>ck ((0:Int) ≤ 0 ∧ 0 < ((xn:Nat):Int)) (gInt .i64 (Addr.add (B0 p_2) (Int.toNat 0 * 1)) h fun x_2=>cond (x_2 == who)
 (aSome s fun p_3=>pV (Addr.add p_3 6) (.int .i64 now) h fun w=>R B4 Ak6 [] w)
 (R B4 Ak6 [] h)))
 (R B4 Ab2 [(0,.pointer s),(1,.int .i64 who),(2,.int .i64 now)] h):=by kernel_rfl
theorem Dw7 (C:A1) (R:A2)  (h:H) :
 A4 PR P7 C R B4 Tryz.f209 100000 true Ak6 [] h =
 some (.tuple ⟨[.int .i64 0,.bool false]⟩,h):=by kernel_rfl
theorem Bt6 (C:A1) (R:A2) (s:Option Addr) (who:Int) (now:Int) (h:H) :
 A4 PR P7 C R B4 Tryz.f209 100000 true Ab2 [(0,.pointer s),(1,.int .i64 who),(2,.int .i64 now)] h =
 aSome s fun p=>gSl (Addr.add p 5) h fun x xn _=>aSome x fun p_1=>ck ((0:Int) ≤ 0 ∧ 0 < ((xn:Nat):Int)) (gInt .i64 (Addr.add (B0 p_1) (Int.toNat 0 * 1)) h fun x_1=>bnd (cond (x_1 != who) (aSome s fun p_2=>gInt .i64 (Addr.add p_2 6) h fun x_2=>aSome s fun p_3=>gInt .i64 (Addr.add p_3 0) h fun x_3=>some (decide ((IntKind.wrap .i64 (now - x_2)) ≥ x_3),h)) (some (false,h))) fun c w=>cond c
 (aSome s fun p_4=>gSl (Addr.add p_4 5) w fun x_4 xn_1 xc_1=>ckB (fitsOpen x_4 B2 w) (ck ((0:Int) ≤ 1 ∧ 1 ≤ ((xn_1:Nat):Int)) (aSome s fun p_5=>pV (Addr.add p_5 5) (.slice (G9 x_4 (decide (Int.toNat 1 < xc_1)) ((Int.toNat 1) * 1)) (xn_1 - (Int.toNat 1)) (xc_1 - (Int.toNat 1))) w fun w1=>aSome s fun p_6=>pV (Addr.add p_6 6) (.int .i64 now) w1 fun w2=>R B4 Ab2 [(0,.pointer s),(1,.int .i64 who),(2,.int .i64 now)] w2)))
 (aSome s fun p_7=>gSl (Addr.add p_7 5) w fun x_5 xn_2 _=>aSome x_5 fun p_8=>ck ((0:Int) ≤ 0 ∧ 0 < ((xn_2:Nat):Int)) (gInt .i64 (Addr.add (B0 p_8) (Int.toNat 0 * 1)) w fun x_6=>cond (x_6 != who)
 (some (.tuple ⟨[.int .i64 0,.bool false]⟩,w))
 (aSome s fun p_9=>gSl (Addr.add p_9 5) w fun x_7 xn_3 xc_3=>ckB (fitsOpen x_7 B2 w) (ck ((0:Int) ≤ 1 ∧ 1 ≤ ((xn_3:Nat):Int)) (aSome s fun p_10=>pV (Addr.add p_10 5) (.slice (G9 x_7 (decide (Int.toNat 1 < xc_3)) ((Int.toNat 1) * 1)) (xn_3 - (Int.toNat 1)) (xc_3 - (Int.toNat 1))) w fun w3=>aSome s fun p_11=>pV (Addr.add p_11 6) (.int .i64 now) w3 fun w4=>aSome s fun p_12=>gInt .i64 (Addr.add p_12 8) w4 fun x_8=>aSome s fun p_13=>pV (Addr.add p_13 8) (.int .i64 (IntKind.wrap .i64 (x_8 + 1))) w4 fun w5=>aSome s fun p_14=>gInt .i64 (Addr.add p_14 8) w5 fun x_9=>aSome s fun p_15=>pV (Addr.add p_15 1) (.bool true) w5 fun w6=>aSome s fun p_16=>pV (Addr.add p_16 2) (.int .i64 who) w6 fun w7=>aSome s fun p_17=>pV (Addr.add p_17 3) (.int .i64 x_9) w7 fun w8=>aSome s fun p_18=>pV (Addr.add p_18 4) (.int .i64 now) w8 fun w9=>aSome s fun p_19=>gInt .i64 (Addr.add p_19 3) w9 fun x_10=>some (.tuple ⟨[.int .i64 x_10,.bool true]⟩,w9))))))):=by kernel_rfl
def A34:Cuts:={ globs:=0,loops:=[],regs:=[],plans:=[] }
def Bs0:List Item:=A5 Tryz.f211
theorem D42 (C:A1) (R:A2) (size:Int) (put:Value) (get:Value) (h:H) :
 A4 PR A34 C R Al7 Tryz.f211 100000 true Bs0 [(0,.int .i64 size),(1,put),(2,get)] h =
 one put (one get (nw (.cells Bj2 false [.int .i64 (mm2 false (mm2 true size 0) 64),put,get]) h fun b w=>some (.pointer (some ⟨b,0,none⟩),w))):=by kernel_rfl
def A81:Cuts:={ globs:=0,loops:=[(4,[1,2,22,23,24]),(9,[1,2,43,44,45]),(14,[1,58,59])],regs:=[],plans:=[] }
def Bk6:List Item:=A5 Tryz.f212
def B09:List Item:=stk [0,1,0,1,0,0,1,4,5] Bk6
def Bz3:List Item:=stk [0,1,0,1,0,1,0,0,1,4,5] Bk6
def Bz2:List Item:=stk [0,1,0,1,0,1,0,1,0,0,1,4,5] Bk6
theorem Gx8 (C:A1) (R:A2) (p:List Value) (b:Option Addr) (bn bc:Nat) (h:H) :
 A4 PR A81 C R L8 Tryz.f212 100000 true Bk6 [(0,.agg ⟨p⟩),(1,.slice b bn bc)] h =
 nw (.cells B9 false p) h fun b_1 w=>gAgg ⟨b_1,0,none⟩ 16 w fun x=>bnd (C Db1 [.agg ⟨x⟩] w) fun r w1=>aBool r fun x_1=>cond (!x_1)
 (some (.bool false,w1))
 (gInt .i64 (Addr.add ⟨b_1,0,none⟩ 0) w1 fun x_2=>gInt .i64 (Addr.add ⟨b_1,0,none⟩ 1) w1 fun x_3=>gInt .i64 (Addr.add ⟨b_1,0,none⟩ 2) w1 fun x_4=>gInt .i64 (Addr.add ⟨b_1,0,none⟩ 3) w1 fun x_5=>nw (.cells B2 false [.int .i64 x_2,.int .i64 x_3,.int .i64 x_4,.int .i64 x_5]) w1 fun b_2 w2=>R L8 B09 [(1,.slice b bn bc),(2,.pointer (some ⟨b_1,0,none⟩)),(22,.slice (some ⟨b_2,0,none⟩) 4 4),(23,.int .i64 4),(24,.int .i64 0)] w2):=by kernel_rfl
theorem A12 (C:A1) (R:A2) (b:Option Addr) (bn bc:Nat) (p:Addr) (x22:Option Addr) (x22n x22c:Nat) (x23:Int) (x24:Int) (h:H) :
 A4 PR A81 C R L8 Tryz.f212 100000 true B09 [(1,.slice b bn bc),(2,.pointer (some p)),(22,.slice x22 x22n x22c),(23,.int .i64 x23),(24,.int .i64 x24)] h =
 cond (decide (x24 < x23))
 (aSome x22 fun p_1=>ck ((0:Int) ≤ x24 ∧ x24 < ((x22n:Nat):Int)) (gInt .i64 (Addr.add (B0 p_1) (Int.toNat x24 * 1)) h fun x=>aSome b fun p_2=>ck ((0:Int) ≤ x24 ∧ x24 < ((bn:Nat):Int)) (pV (Addr.add (B0 p_2) (Int.toNat x24 * 1)) (.int .u8 (IntKind.wrap .u8 (x))) h fun w=>R L8 B09 [(1,.slice b bn bc),(2,.pointer (some p)),(22,.slice x22 x22n x22c),(23,.int .i64 x23),(24,.int .i64 (IntKind.wrap .i64 (x24 + 1)))] w)))
 (gInt .i64 (Addr.add p 4) h fun x_1=>gInt .i64 (Addr.add p 5) h fun x_2=>gInt .i64 (Addr.add p 6) h fun x_3=>gInt .i64 (Addr.add p 7) h fun x_4=>nw (.cells B2 false [.int .i64 x_1,.int .i64 x_2,.int .i64 x_3,.int .i64 x_4]) h fun b_1 w1=>R L8 Bz3 [(1,.slice b bn bc),(2,.pointer (some p)),(43,.slice (some ⟨b_1,0,none⟩) 4 4),(44,.int .i64 4),(45,.int .i64 0)] w1):=by kernel_rfl
theorem A06 (C:A1) (R:A2) (b:Option Addr) (bn bc:Nat) (p:Addr) (x43:Option Addr) (x43n x43c:Nat) (x44:Int) (x45:Int) (h:H) :
 A4 PR A81 C R L8 Tryz.f212 100000 true Bz3 [(1,.slice b bn bc),(2,.pointer (some p)),(43,.slice x43 x43n x43c),(44,.int .i64 x44),(45,.int .i64 x45)] h =
 cond (decide (x45 < x44))
 (aSome x43 fun p_1=>ck ((0:Int) ≤ x45 ∧ x45 < ((x43n:Nat):Int)) (gInt .i64 (Addr.add (B0 p_1) (Int.toNat x45 * 1)) h fun x=>bnd (C Bb6 [.slice b bn bc,.int .i64 (IntKind.wrap .i64 (4 + (IntKind.wrap .i64 (2 * x45)))),.int .i64 x] h) fun r w=>aBool r fun _=>R L8 Bz3 [(1,.slice b bn bc),(2,.pointer (some p)),(43,.slice x43 x43n x43c),(44,.int .i64 x44),(45,.int .i64 (IntKind.wrap .i64 (x45 + 1)))] w))
 (gAgg (Addr.add p 8) 8 h fun x_2=>R L8 Bz2 [(1,.slice b bn bc),(58,.agg ⟨x_2⟩),(59,.int .i64 0)] h):=by kernel_rfl
theorem U8 (C:A1) (R:A2) (b:Option Addr) (bn bc:Nat) (x58:List Value) (x59:Int) (h:H) :
 A4 PR A81 C R L8 Tryz.f212 100000 true Bz2 [(1,.slice b bn bc),(58,.agg ⟨x58⟩),(59,.int .i64 x59)] h =
 cond (decide (x59 < 8))
 (ck ((0:Int) ≤ x59 ∧ x59 < ((8:Nat):Int)) (nth x58 (Int.toNat x59 * 1) fun x=>aInt .i64 x fun x_1=>aSome b fun p=>ck ((0:Int) ≤ IntKind.wrap .i64 (12 + x59) ∧ IntKind.wrap .i64 (12 + x59) < ((bn:Nat):Int)) (pV (Addr.add (B0 p) (Int.toNat (IntKind.wrap .i64 (12 + x59)) * 1)) (.int .u8 (IntKind.wrap .u8 (x_1))) h fun w=>R L8 Bz2 [(1,.slice b bn bc),(58,.agg ⟨x58⟩),(59,.int .i64 (IntKind.wrap .i64 (x59 + 1)))] w)))
 (aSome b fun p_1=>ck ((0:Int) ≤ 20 ∧ 20 < ((bn:Nat):Int)) (pV (Addr.add (B0 p_1) (Int.toNat 20 * 1)) (.int .u8 167) h fun w1=>ckB (fitsOpen b A3 w1) (ck ((0:Int) ≤ 21 ∧ 21 ≤ ((bc:Nat):Int)) (bnd (C W7 [.slice (G9 b (decide (0 < bc)) (0 * 1)) ((Int.toNat 21) - 0) (bc - 0)] w1) fun r w2=>aInt .u8 r fun x_2=>aSome b fun p_2=>ck ((0:Int) ≤ 21 ∧ 21 < ((bn:Nat):Int)) (pV (Addr.add (B0 p_2) (Int.toNat 21 * 1)) (.int .u8 x_2) w2 fun w3=>some (.bool true,w3)))))):=by kernel_rfl
def D98:Cuts:={ globs:=0,loops:=[],regs:=[],plans:=[] }
def Gd1:List Item:=A5 Tryz.f223
theorem Hj0 (C:A1) (R:A2) (p:List Value) (h:H) :
 A4 PR D98 C R Dm7 Tryz.f223 100000 true Gd1 [(0,.agg ⟨p⟩)] h =
 nw (.cells J0 false p) h fun b w=>gInt .i64 (Addr.add ⟨b,0,none⟩ 0) w fun x=>bnd (C Ao2 [.int .i64 x,.int .i64 31] w) fun r w1=>aBool r fun x_1=>bnd (cond x_1 (gInt .i64 (Addr.add ⟨b,0,none⟩ 1) w1 fun x_2=>bnd (C Ao2 [.int .i64 x_2,.int .i64 32] w1) fun r_1 w2=>aBool r_1 fun x_3=>some (x_3,w2)) (some (false,w1))) fun c w3=>bnd (cond c (gInt .i64 (Addr.add ⟨b,0,none⟩ 2) w3 fun x_4=>bnd (C Ao2 [.int .i64 x_4,.int .i64 8] w3) fun r_2 w4=>aBool r_2 fun x_5=>some (x_5,w4)) (some (false,w3))) fun c_1 w5=>bnd (cond c_1 (gInt .i64 (Addr.add ⟨b,0,none⟩ 3) w5 fun x_6=>bnd (C Ao2 [.int .i64 x_6,.int .i64 8] w5) fun r_3 w6=>aBool r_3 fun x_7=>some (x_7,w6)) (some (false,w5))) fun c_2 w7=>some (.bool c_2,w7):=by kernel_rfl
def Y5:Cuts:={ globs:=0,loops:=[(4,[0,1,12,13])],regs:=[],plans:=[(6,⟨[0,1,2,3,4,5,6,7,8],[0,0,3,7,0,0,48,112,255],[],[]⟩)] }
def Aj5:List Item:=A5 Tryz.f224
def Q9:List Item:=stk [0,1,0,1,0,0,1,4,5] Aj5
theorem B71 (C:A1) (R:A2) (s1:Option Addr) (s1n s1c:Nat) (s2:Option Addr) (s2n s2c:Nat) (h:H) :
 A4 PR Y5 C R B6 Tryz.f224 100000 true Aj5 [(0,.slice s1 s1n s1c),(1,.slice s2 s2n s2c)] h =
 cond (((s1n:Nat):Int) != ((s2n:Nat):Int))
 (some (.bool false,h))
 (R B6 Q9 [(0,.slice s1 s1n s1c),(1,.slice s2 s2n s2c),(12,.int .i64 ((s1n:Nat):Int)),(13,.int .i64 0)] h):=by kernel_rfl
theorem Ax2 (C:A1) (R:A2) (s1:Option Addr) (s1n s1c:Nat) (s2:Option Addr) (s2n s2c:Nat) (x12:Int) (x13:Int) (h:H) :
 A4 PR Y5 C R B6 Tryz.f224 100000 true Q9 [(0,.slice s1 s1n s1c),(1,.slice s2 s2n s2c),(12,.int .i64 x12),(13,.int .i64 x13)] h =
 cond (decide (x13 < x12))
 (aSome s1 fun p=>ck ((0:Int) ≤ x13 ∧ x13 < ((s1n:Nat):Int)) (gInt .u8 (Addr.add (B0 p) (Int.toNat x13 * 1)) h fun x=>aSome s2 fun p_1=>ck ((0:Int) ≤ x13 ∧ x13 < ((s2n:Nat):Int)) (gInt .u8 (Addr.add (B0 p_1) (Int.toNat x13 * 1)) h fun x_1=>cond (x != x_1)
 (some (.bool false,h))
 (R B6 Q9 [(0,.slice s1 s1n s1c),(1,.slice s2 s2n s2c),(12,.int .i64 x12),(13,.int .i64 (IntKind.wrap .i64 (x13 + 1)))] h))))
 (some (.bool true,h)):=by kernel_rfl
def Q2:Cuts:={ globs:=0,loops:=[(2,[0,1,7,8])],regs:=[],plans:=[] }
def Ab4:List Item:=A5 Tryz.f225
def O2:List Item:=stk [0,1,0,0,1,4,5] Ab4
theorem Bu3 (C:A1) (R:A2) (s:Option Addr) (sn sc:Nat) (f:Value) (h:H) :
 A4 PR Q2 C R E1 Tryz.f225 100000 true Ab4 [(0,.slice s sn sc),(1,f)] h =
 R E1 O2 [(0,.slice s sn sc),(1,f),(7,.int .i64 ((sn:Nat):Int)),(8,.int .i64 0)] h:=by kernel_rfl
theorem An8 (C:A1) (R:A2) (s:Option Addr) (sn sc:Nat) (f:Value) (x7:Int) (x8:Int) (h:H) :
 A4 PR Q2 C R E1 Tryz.f225 100000 true O2 [(0,.slice s sn sc),(1,f),(7,.int .i64 x7),(8,.int .i64 x8)] h =
 cond (decide (x8 < x7))
 (aSome s fun p=>ck ((0:Int) ≤ x8 ∧ x8 < ((sn:Nat):Int)) (gInt .u8 (Addr.add (B0 p) (Int.toNat x8 * 1)) h fun x=>aFn f fun g fi cp=>bnd (C g (fi ++ ([.int .u8 x] ++ cp)) h) fun r w=>aBool r fun x_1=>cond x_1
 (some (.int .i64 x8,w))
 (R E1 O2 [(0,.slice s sn sc),(1,f),(7,.int .i64 x7),(8,.int .i64 (IntKind.wrap .i64 (x8 + 1)))] w)))
 (some (.int .i64 (-1),h)):=by kernel_rfl
def D08:Cuts:={ globs:=0,loops:=[],regs:=[],plans:=[] }
def E17:List Item:=A5 Tryz.f231
theorem Hc7 (C:A1) (R:A2) (p:List Value) (h:H) :
 A4 PR D08 C R Db1 Tryz.f231 100000 true E17 [(0,.agg ⟨p⟩)] h =
 nw (.cells B9 false p) h fun b w=>gInt .i64 (Addr.add ⟨b,0,none⟩ 0) w fun x=>bnd (cond (decide (x < 1)) (some (true,w)) (gInt .i64 (Addr.add ⟨b,0,none⟩ 0) w fun x_1=>some (decide (x_1 > 3),w))) fun c w1=>bnd (cond c (some (true,w1)) (gInt .i64 (Addr.add ⟨b,0,none⟩ 1) w1 fun x_2=>some (decide (x_2 < 0),w1))) fun c_1 w2=>bnd (cond c_1 (some (true,w2)) (gInt .i64 (Addr.add ⟨b,0,none⟩ 1) w2 fun x_3=>some (decide (x_3 > 8),w2))) fun c_2 w3=>bnd (cond c_2 (some (true,w3)) (gInt .i64 (Addr.add ⟨b,0,none⟩ 2) w3 fun x_4=>some (decide (x_4 < 0),w3))) fun c_3 w4=>bnd (cond c_3 (some (true,w4)) (gInt .i64 (Addr.add ⟨b,0,none⟩ 2) w4 fun x_5=>some (decide (x_5 ≥ 8),w4))) fun c_4 w5=>bnd (cond c_4 (some (true,w5)) (gInt .i64 (Addr.add ⟨b,0,none⟩ 3) w5 fun x_6=>some (decide (x_6 < 0),w5))) fun c_5 w6=>bnd (cond c_5 (some (true,w6)) (gInt .i64 (Addr.add ⟨b,0,none⟩ 3) w6 fun x_7=>some (decide (x_7 > 255),w6))) fun c_6 w7=>cond c_6
 (some (.bool false,w7))
 (gInt .i64 (Addr.add ⟨b,0,none⟩ 4) w7 fun x_8=>bnd (C Ah6 [.int .i64 x_8,.int .i64 0] w7) fun r w8=>aBool r fun x_9=>bnd (cond (!x_9) (some (true,w8)) (gInt .i64 (Addr.add ⟨b,0,none⟩ 5) w8 fun x_10=>bnd (C Ah6 [.int .i64 x_10,.int .i64 16896] w8) fun r_1 w9=>aBool r_1 fun x_11=>some (!x_11,w9))) fun c_7 w10=>bnd (cond c_7 (some (true,w10)) (gInt .i64 (Addr.add ⟨b,0,none⟩ 6) w10 fun x_12=>bnd (C Ah6 [.int .i64 x_12,.int .i64 16896] w10) fun r_2 w11=>aBool r_2 fun x_13=>some (!x_13,w11))) fun c_8 w12=>bnd (cond c_8 (some (true,w12)) (gInt .i64 (Addr.add ⟨b,0,none⟩ 7) w12 fun x_14=>bnd (C Ah6 [.int .i64 x_14,.int .i64 16896] w12) fun r_3 w13=>aBool r_3 fun x_15=>some (!x_15,w13))) fun c_9 w14=>bnd (cond c_9 (some (true,w14)) (gInt .i64 (Addr.add ⟨b,0,none⟩ 6) w14 fun x_16=>gInt .i64 (Addr.add ⟨b,0,none⟩ 7) w14 fun x_17=>some ((O4 .i64 x_16 x_17) != 0,w14))) fun c_10 w15=>cond c_10
 (some (.bool false,w15))
 (ckB (liveA (Addr.add ⟨b,0,none⟩ 8) w15) (bnd (C D6 [.slice (G9 (some (Addr.add ⟨b,0,none⟩ 8)) (decide (0 < 8)) (0 * 1)) (8 - 0) (8 - 0),.func (.func Bb9) ⟨[]⟩ ⟨[]⟩] w15) fun r_4 w16=>aBool r_4 fun x_18=>cond x_18
 (some (.bool false,w16))
 (gInt .i64 (Addr.add ⟨b,0,none⟩ 0) w16 fun x_19=>cond (x_19 == 2)
 (gInt .i64 (Addr.add ⟨b,0,none⟩ 4) w16 fun x_20=>bnd (cond (x_20 == 0) (gAgg (Addr.add ⟨b,0,none⟩ 8) 8 w16 fun x_21=>B21 PR E99 x_21 [.int .i64 0,.int .i64 0,.int .i64 0,.int .i64 0,.int .i64 0,.int .i64 0,.int .i64 0,.int .i64 0] fun eq=>some (eq,w16)) (some (false,w16))) fun c_11 w17=>some (.bool c_11,w17))
 (gInt .i64 (Addr.add ⟨b,0,none⟩ 3) w16 fun x_22=>some (.bool (x_22 == 0),w16)))))):=by kernel_rfl
def Dr3:Cuts:={ globs:=0,loops:=[],regs:=[],plans:=[] }
def Ep6:List Item:=A5 Tryz.f235
theorem G02 (C:A1) (R:A2) (n:Int) (A8:Int) (h:H) :
 A4 PR Dr3 C R Ao2 Tryz.f235 100000 true Ep6 [(0,.int .i64 n),(1,.int .i64 A8)] h =
 bnd (cond (decide (n ≥ 0)) (some (decide (n ≤ A8),h)) (some (false,h))) fun c w=>some (.bool c,w):=by kernel_rfl
end
end Go.EQ

set_option maxRecDepth 100000
namespace Go.EQ
open Go Go.NN Go.Proofs
variable (C : A1) (R : A2)
noncomputable section
def Dh9:Cuts:={ globs:=0,loops:=[],regs:=[],plans:=[] }
def Ea9:List Item:=A5 Tryz.f13
theorem Gj0 (C:A1) (R:A2) (p:List Value) (h:H) :
 A4 PR Dh9 C R Bc7 Tryz.f13 100000 true Ea9 [(0,.agg ⟨p⟩)] h =
 nw (.cells Br7 false p) h fun b w=>gAgg ⟨b,0,none⟩ 3 w fun x=>bnd (C H6 [.agg ⟨x⟩] w) fun r w1=>aAgg r fun x_1=>nw (.cells D3 false [.slice none 0 0,.slice none 0 0,.slice none 0 0,.int .i64 0,.slice none 0 0]) w1 fun b_1 w2=>ck (List.length x_1 = 5) (pAgg ⟨b_1,0,none⟩ x_1 w2 fun w3=>gAgg ⟨b_1,0,none⟩ 5 w3 fun x_2=>bnd (C G7 [.agg ⟨x_2⟩] w3) fun r_1 w4=>as2 r_1 fun r_2 r_3=>aPtr r_2 fun x_3=>aInt .i64 r_3 fun x_4=>bnd (cond x_3.isNone (some (true,w4)) (some (x_4 != 0,w4))) fun c w5=>cond c
 (some (.tuple ⟨[.pointer none,.pointer none,.pointer none,.pointer none]⟩,w5))
 (gAgg ⟨b_1,0,none⟩ 5 w5 fun x_5=>bnd (C E2 [.agg ⟨x_5⟩] w5) fun r_4 w6=>aPtr r_4 fun x_6=>bnd (C Bl5 [.pointer x_3,.int .i64 0] w6) fun r_5 w7=>as2 r_5 fun r_6 r_7=>aPtr r_6 fun x_7=>aInt .i64 r_7 fun x_8=>bnd (cond x_7.isNone (some (true,w7)) (some (x_8 != 0,w7))) fun c_1 w8=>cond c_1
 (some (.tuple ⟨[.pointer none,.pointer none,.pointer none,.pointer none]⟩,w8))
 (bnd (C A69 [] w8) fun r_8 w9=>aStr r_8 fun x_9=>ck (ByteArray.size x_9 ≤ A8) (nw (.cells A3 false (A0 (ByteArray.data x_9).toList)) w9 fun b_2 w10=>bnd (C P5 [.pointer x_3,.int .i64 0,.agg ⟨[.int .i64 2,.int .i64 256,.int .i64 0,.int .i64 0,.int .i64 0,.int .i64 0,.slice (some (I5 b_2)) (ByteArray.size x_9) (ByteArray.size x_9)]⟩] w10) fun r_9 w11=>aAgg r_9 fun x_10=>nth x_10 0 fun E=>aInt .i64 E fun E_1=>cond (E_1 != 0)
 (some (.tuple ⟨[.pointer none,.pointer none,.pointer none,.pointer none]⟩,w11))
 (ck (ByteArray.size x_9 ≤ A8) (nw (.cells A3 false (A0 (ByteArray.data x_9).toList)) w11 fun b_3 w12=>bnd (C Ao5 [.pointer x_6,.int .i64 0,.agg ⟨[.int .i64 2,.int .i64 256,.int .i64 0,.int .i64 0,.int .i64 0,.int .i64 0,.slice (some (I5 b_3)) (ByteArray.size x_9) (ByteArray.size x_9)]⟩] w12) fun r_10 w13=>as3 r_10 fun r_11 r_12 r_13=>aInt .i64 r_11 fun _=>aInt .i64 r_12 fun _=>aStr r_13 fun _=>bnd (C Av7 [.pointer x_6,.int .i64 0] w13) fun r_14 w14=>aPtr r_14 fun x_14=>some (.tuple ⟨[.pointer x_3,.pointer x_7,.pointer x_6,.pointer x_14]⟩,w14))))))):=by kernel_rfl
def Ay0:Cuts:={ globs:=0,loops:=[(4,[1,3,4])],regs:=[],plans:=[(2,⟨[0,1,2,5,6,9,10,13,14,3,4,7,8,11,12,15,16,17],[0,0,2,6,15,0,32,110,255,0,512,1774,4095,0,8192,28398,65535,131071],[(3,[6,10,14]),(7,[10,14]),(11,[14])],[]⟩)] }
def Bh2:List Item:=A5 Tryz.f20
def An1:List Item:=stk [0,1,0,1,0,1,0,0,1,4,5] Bh2
theorem Eo0 (C:A1) (R:A2) (p:List Value) (h:H) :
 A4 PR Ay0 C R P9 Tryz.f20 100000 true Bh2 [(0,.agg ⟨p⟩)] h =
 nw (.cells B9 false p) h fun b w=>gInt .i64 (Addr.add ⟨b,0,none⟩ 0) w fun x=>gInt .i64 (Addr.add ⟨b,0,none⟩ 1) w fun x_1=>gInt .i64 (Addr.add ⟨b,0,none⟩ 2) w fun x_2=>gInt .i64 (Addr.add ⟨b,0,none⟩ 3) w fun x_3=>nw (.cells A3 false [.int .u8 (IntKind.wrap .u8 (x)),.int .u8 (IntKind.wrap .u8 (x_1)),.int .u8 (IntKind.wrap .u8 (x_2)),.int .u8 (IntKind.wrap .u8 (x_3))]) w fun b_1 w1=>gCells (some ⟨b_1,0,none⟩) 4 w1 fun cs=>asBytes cs fun l=>gInt .i64 (Addr.add ⟨b,0,none⟩ 4) w1 fun x_4=>gInt .i64 (Addr.add ⟨b,0,none⟩ 5) w1 fun x_5=>gInt .i64 (Addr.add ⟨b,0,none⟩ 6) w1 fun x_6=>gInt .i64 (Addr.add ⟨b,0,none⟩ 7) w1 fun x_7=>bnd (C A54 [.int .i64 x_4] w1) fun r w2=>aStr r fun x_8=>gInt .i64 (Addr.add ⟨b,0,none⟩ 5) w2 fun x_9=>same (.int .i64 x_5) (.int .i64 x_9) (gInt .i64 (Addr.add ⟨b,0,none⟩ 6) w2 fun x_10=>same (.int .i64 x_6) (.int .i64 x_10) (gInt .i64 (Addr.add ⟨b,0,none⟩ 7) w2 fun x_11=>same (.int .i64 x_7) (.int .i64 x_11) (ck (ByteArray.size (ByteArray.mk ⟨l⟩) + ByteArray.size x_8 ≤ A8) (bnd (C A54 [.int .i64 x_5] w2) fun r_1 w3=>aStr r_1 fun x_12=>gInt .i64 (Addr.add ⟨b,0,none⟩ 6) w3 fun x_13=>same (.int .i64 x_6) (.int .i64 x_13) (gInt .i64 (Addr.add ⟨b,0,none⟩ 7) w3 fun x_14=>same (.int .i64 x_7) (.int .i64 x_14) (ck (ByteArray.size ((ByteArray.mk ⟨l⟩) ++ x_8) + ByteArray.size x_12 ≤ A8) (bnd (C A54 [.int .i64 x_6] w3) fun r_2 w4=>aStr r_2 fun x_15=>gInt .i64 (Addr.add ⟨b,0,none⟩ 7) w4 fun x_16=>same (.int .i64 x_7) (.int .i64 x_16) (ck (ByteArray.size (((ByteArray.mk ⟨l⟩) ++ x_8) ++ x_12) + ByteArray.size x_15 ≤ A8) (bnd (C A54 [.int .i64 x_7] w4) fun r_3 w5=>aStr r_3 fun x_17=>ck (ByteArray.size ((((ByteArray.mk ⟨l⟩) ++ x_8) ++ x_12) ++ x_15) + ByteArray.size x_17 ≤ A8) (R P9 An1 [(1,.pointer (some ⟨b,0,none⟩)),(3,.string (((((ByteArray.mk ⟨l⟩) ++ x_8) ++ x_12) ++ x_15) ++ x_17)),(4,.int .i64 0)] w5)))))))))):=by kernel_rfl
theorem Br9 (C:A1) (R:A2) (p:Addr) (s:ByteArray) (i:Int) (h:H) :
 A4 PR Ay0 C R P9 Tryz.f20 100000 true An1 [(1,.pointer (some p)),(3,.string s),(4,.int .i64 i)] h =
 cond (decide (i < 8))
 (ck ((0:Int) ≤ i ∧ i < ((8:Nat):Int)) (gInt .i64 (Addr.add (Addr.add p 8) (Int.toNat i * 1)) h fun x=>nw (.cells A3 false [.int .u8 (IntKind.wrap .u8 (x))]) h fun b w=>gCells (some ⟨b,0,none⟩) 1 w fun cs=>asBytes cs fun l=>ck (ByteArray.size s + ByteArray.size (ByteArray.mk ⟨l⟩) ≤ A8) (R P9 An1 [(1,.pointer (some p)),(3,.string (s ++ (ByteArray.mk ⟨l⟩))),(4,.int .i64 (IntKind.wrap .i64 (i + 1)))] w)))
 (ck (ByteArray.size s + ByteArray.size (ByteArray.mk ⟨[167]⟩) ≤ A8) (bnd (C Ab9 [.string (s ++ (ByteArray.mk ⟨[167]⟩))] h) fun r w1=>aInt .u8 r fun x_1=>nw (.cells A3 false [.int .u8 x_1,.int .u8 0,.int .u8 0]) w1 fun b_1 w2=>gCells (some ⟨b_1,0,none⟩) 3 w2 fun cs_1=>asBytes cs_1 fun l_1=>ck (ByteArray.size (s ++ (ByteArray.mk ⟨[167]⟩)) + ByteArray.size (ByteArray.mk ⟨l_1⟩) ≤ A8) (some (.string ((s ++ (ByteArray.mk ⟨[167]⟩)) ++ (ByteArray.mk ⟨l_1⟩)),w2)))):=by kernel_rfl
def Aj2:Cuts:={ globs:=0,loops:=[],regs:=[],plans:=[] }
def A65:List Item:=A5 Tryz.f25
theorem B76 (C:A1) (R:A2) (c:Option Addr) (i:Int) (h:H) :
 A4 PR Aj2 C R Y6 Tryz.f25 100000 true A65 [(0,.pointer c),(1,.int .i64 i)] h =
 bnd (C Ao6 [.int .i64 i] h) fun r w=>aAgg r fun x=>bnd (C Ae5 [.pointer c,.agg ⟨x⟩] w) fun r_1 w1=>aBool r_1 fun x_1=>some (.bool x_1,w1):=by kernel_rfl
def B80:Cuts:={ globs:=0,loops:=[],regs:=[],plans:=[(5,⟨[0,1,2,3,4],[0,1,0,4,15],[(3,[1])],[]⟩)] }
def D57:List Item:=A5 Tryz.f32
theorem Ge5 (C:A1) (R:A2)  (h:H) :
 A4 PR B80 C R A70 Tryz.f32 100000 true D57 [] h =
 bnd (C A69 [] h) fun r w=>aStr r fun x=>ck (ByteArray.size x ≤ A8) (nw (.cells A3 false (A0 (ByteArray.data x).toList)) w fun b w1=>nw (.cells B9 false [.int .i64 0,.int .i64 0,.int .i64 0,.int .i64 0,.int .i64 0,.int .i64 0,.int .i64 0,.int .i64 0,.int .i64 0,.int .i64 0,.int .i64 0,.int .i64 0,.int .i64 0,.int .i64 0,.int .i64 0,.int .i64 0]) w1 fun b_1 w2=>pAgg ⟨b_1,0,none⟩ [.int .i64 1,.int .i64 0,.int .i64 0,.int .i64 0,.int .i64 0,.int .i64 0,.int .i64 0,.int .i64 0,.int .i64 0,.int .i64 0,.int .i64 0,.int .i64 0,.int .i64 0,.int .i64 0,.int .i64 0,.int .i64 0] w2 fun w3=>ck ((0:Int) ≤ 0 ∧ 0 < ((8:Nat):Int)) (pV (Addr.add (Addr.add ⟨b_1,0,none⟩ 8) (Int.toNat 0 * 1)) (.int .i64 1) w3 fun w4=>gAgg ⟨b_1,0,none⟩ 16 w4 fun x_1=>bnd (C P9 [.agg ⟨x_1⟩] w4) fun r_1 w5=>aStr r_1 fun x_2=>pCells (some (I5 b)) (A0 (List.take (min (ByteArray.size x_2) (ByteArray.size x)) (ByteArray.data x_2).toList)) w5 fun w6=>ckB (fitsOpen (some (I5 b)) A3 w6) (ck ((0:Int) ≤ 192 ∧ 192 ≤ ((ByteArray.size x:Nat):Int)) (bnd (C Ay2 [.agg ⟨[.int .i64 3,.int .i64 0,.int .i64 1,.int .i64 0]⟩] w6) fun r_2 w7=>aStr r_2 fun x_3=>ckB (fitsOpen (some (I5 b)) A3 w7) (ck ((0:Int) ≤ 192 ∧ 192 ≤ ((ByteArray.size x:Nat):Int)) (same (.slice (G9 (some (I5 b)) (decide (Int.toNat 192 < ByteArray.size x)) ((Int.toNat 192) * 1)) ((ByteArray.size x) - (Int.toNat 192)) ((ByteArray.size x) - (Int.toNat 192))) (.slice (G9 (some (I5 b)) (decide (Int.toNat 192 < ByteArray.size x)) ((Int.toNat 192) * 1)) ((ByteArray.size x) - (Int.toNat 192)) ((ByteArray.size x) - (Int.toNat 192))) (pCells (G9 (some (I5 b)) (decide (Int.toNat 192 < ByteArray.size x)) ((Int.toNat 192) * 1)) (A0 (List.take (min (ByteArray.size x_3) ((ByteArray.size x) - (Int.toNat 192))) (ByteArray.data x_3).toList)) w7 fun w8=>some (.slice (some (I5 b)) (ByteArray.size x) (ByteArray.size x),w8)))))))):=by kernel_rfl
def B17:Cuts:={ globs:=0,loops:=[(6,[0,4,7,23,24,25])],regs:=[],plans:=[(9,⟨[0,1,2,4,5,6,7,8,9,10,3,11,12],[0,0,2,7,0,16,48,0,128,384,1008,2047,4095],[(3,[5,9])],[]⟩)] }
def Dq9:List Item:=A5 Tryz.f39
def Be2:List Item:=stk [0,1,0,1,0,1,0,0,1,4,5] Dq9
theorem Gw4 (C:A1) (R:A2) (c:Option Addr) (i:Int) (h:H) :
 A4 PR B17 C R Ah1 Tryz.f39 100000 true Dq9 [(0,.pointer c),(1,.int .i64 i)] h =
 nw (.cells B2 false [.int .i64 i]) h fun b w=>nw (.cells Ah3 false [.int .i64 0,.int .i64 0,.slice none 0 0,.bool false]) w fun b_1 w1=>gInt .i64 ⟨b,0,none⟩ w1 fun x=>bnd (C A79 [.pointer c,.int .i64 x] w1) fun r w2=>as2 r fun r_1 r_2=>aAgg r_1 fun x_1=>aInt .i64 r_2 fun x_2=>nw (.cells B9 false [.int .i64 0,.int .i64 0,.int .i64 0,.int .i64 0,.int .i64 0,.int .i64 0,.int .i64 0,.int .i64 0,.int .i64 0,.int .i64 0,.int .i64 0,.int .i64 0,.int .i64 0,.int .i64 0,.int .i64 0,.int .i64 0]) w2 fun b_2 w3=>ck (List.length x_1 = 16) (pAgg ⟨b_2,0,none⟩ x_1 w3 fun w4=>cond (x_2 != 0)
 (bnd (C Ah0 [.int .i64 x_2] w4) fun r_3 w5=>aAgg r_3 fun x_3=>ck (List.length x_3 = 4) (pAgg ⟨b_1,0,none⟩ x_3 w5 fun w6=>gAgg ⟨b_1,0,none⟩ 4 w6 fun x_4=>some (.agg ⟨x_4⟩,w6)))
 (bnd (C Ac1 [.pointer c,.func (.func A58) ⟨[]⟩ ⟨[.pointer (some ⟨b,0,none⟩)]⟩] w4) fun r_4 w7=>aSl r_4 fun x_5 xn xc=>R Ah1 Be2 [(0,.pointer c),(4,.pointer (some ⟨b_1,0,none⟩)),(7,.slice x_5 xn xc),(23,.slice x_5 xn xc),(24,.int .i64 ((xn:Nat):Int)),(25,.int .i64 0)] w7)):=by kernel_rfl
theorem Du5 (C:A1) (R:A2) (c:Option Addr) (x4:Addr) (l:Option Addr) (ln lc:Nat) (x23:Option Addr) (x23n x23c:Nat) (x24:Int) (x25:Int) (h:H) :
 A4 PR B17 C R Ah1 Tryz.f39 100000 true Be2 [(0,.pointer c),(4,.pointer (some x4)),(7,.slice l ln lc),(23,.slice x23 x23n x23c),(24,.int .i64 x24),(25,.int .i64 x25)] h =
 cond (decide (x25 < x24))
 (aSome x23 fun p=>ck ((0:Int) ≤ x25 ∧ x25 < ((x23n:Nat):Int)) (gAgg (Addr.add (B0 p) (Int.toNat x25 * 17)) 17 h fun x=>nw (.cells U3 false [.int .i64 0,.int .i64 0,.int .i64 0,.int .i64 0,.int .i64 0,.int .i64 0,.int .i64 0,.int .i64 0,.int .i64 0,.int .i64 0,.int .i64 0,.int .i64 0,.int .i64 0,.int .i64 0,.int .i64 0,.int .i64 0,.int .i64 0]) h fun b w=>ck (List.length x = 17) (pAgg ⟨b,0,none⟩ x w fun w1=>gAgg ⟨b,0,none⟩ 17 w1 fun x_1=>bnd (C Ay1 [.agg ⟨x_1⟩] w1) fun r w2=>aBool r fun x_2=>cond (!x_2)
 (gInt .i64 (Addr.add ⟨b,0,none⟩ 0) w2 fun x_3=>gInt .i64 (Addr.add ⟨b,0,none⟩ 0) w2 fun x_4=>gInt .i64 (Addr.add (Addr.add ⟨b,0,none⟩ 1) 3) w2 fun x_5=>bnd (C Y6 [.pointer c,.int .i64 x_3] w2) fun r_1 w3=>aBool r_1 fun x_6=>gInt .i64 (Addr.add ⟨b,0,none⟩ 0) w3 fun x_7=>same (.int .i64 x_4) (.int .i64 x_7) (gInt .i64 (Addr.add (Addr.add ⟨b,0,none⟩ 1) 3) w3 fun x_8=>same (.int .i64 x_5) (.int .i64 x_8) (bnd (C Bk2 [.bool x_6,.int .i64 (IntKind.wrap .i64 ((IntKind.wrap .i64 (256 * x_4)) + x_5))] w3) fun r_2 w4=>aAgg r_2 fun x_9=>ck (List.length x_9 = 4) (pAgg x4 x_9 w4 fun w5=>gAgg x4 4 w5 fun x_10=>some (.agg ⟨x_10⟩,w5)))))
 (R Ah1 Be2 [(0,.pointer c),(4,.pointer (some x4)),(7,.slice l ln lc),(23,.slice x23 x23n x23c),(24,.int .i64 x24),(25,.int .i64 (IntKind.wrap .i64 (x25 + 1)))] w2))))
 (cond (((ln:Nat):Int) == 0)
 (bnd (C Ah0 [.int .i64 110] h) fun r_3 w6=>aAgg r_3 fun x_11=>ck (List.length x_11 = 4) (pAgg x4 x_11 w6 fun w7=>gAgg x4 4 w7 fun x_12=>some (.agg ⟨x_12⟩,w7)))
 (pAgg x4 [.int .i64 0,.int .i64 0,.slice none 0 0,.bool true] h fun w8=>gAgg x4 4 w8 fun x_13=>some (.agg ⟨x_13⟩,w8))):=by kernel_rfl
def By7:Cuts:={ globs:=0,loops:=[],regs:=[],plans:=[(7,⟨[0,1,2,3,4,5,6,7,8,9,10,11,12,13,14,15,16],[0,1,3,7,0,0,32,0,128,0,512,2047,4095,8191,8191,16383,65535],[],[]⟩),(9,⟨[0,1,2,3,4,5,6,7,8,9,10,11,12,13],[0,1,3,7,0,0,32,0,128,0,512,1536,4095,8191],[],[]⟩),(11,⟨[0,1,2,3,4,5,6,7,8,9,10,11,12,13,14,15,16],[0,1,3,7,0,0,32,0,128,0,512,0,2048,0,8192,32767,65535],[],[]⟩),(13,⟨[0,1,2,3,4,5,6,7,8,9,10,11,12,13,14,15,16,17,18,19,20,21,22,23],[0,1,3,7,15,31,63,0,0,256,0,1024,0,4096,0,16384,0,65536,262143,524287,1048575,1048575,2097151,8388607],[],[]⟩),(15,⟨[0,1,2,3,4,5,6,7,8,9,10,11,12,13,14,15],[0,1,3,7,15,31,63,0,0,256,1023,2047,4095,4095,8191,32767],[],[]⟩),(17,⟨[0,1,2,3,4,5,6,7,8,9,10,11,12,13,14,15,16,17],[0,1,3,7,0,16,48,112,240,0,1008,2032,4095,8191,16383,16383,32767,131071],[],[]⟩),(19,⟨[0,1,2,3,4,5,6,7,8,9,10,11,12,13,14,15],[0,1,3,7,0,16,48,112,240,0,1008,2032,0,4096,16383,32767],[],[]⟩),(23,⟨[0,1,2,3,4,5,6,7,8,9,10,11,12,13,14,15,16,17],[0,1,3,7,0,16,63,127,0,0,512,1536,3584,8191,16383,32767,32767,65535],[],[]⟩),(27,⟨[0,1,2,3,4,5,6,7,8,9,10,11,12,13,14,15,16,17,18],[0,0,0,4,15,31,63,127,255,511,63,1087,4095,8191,63,63,32831,131071,262143],[],[]⟩)] }
def Du0:List Item:=A5 Tryz.f54
theorem E92 (C:A1) (R:A2) (k:Option Addr) (e:Int) (c:List Value) (h:H) :
 A4 PR By7 C R Ao5 Tryz.f54 100000 true Du0 [(0,.pointer k),(1,.int .i64 e),(2,.agg ⟨c⟩)] h =
 nw (.cells At9 false c) h fun b w=>bnd (cond (decide (e < 0)) (some (true,w)) (aSome k fun p=>gSl (Addr.add (Addr.add p 0) 1) w fun _ xn _=>some (decide (e ≥ ((xn:Nat):Int)),w))) fun c_1 w1=>cond c_1
 (some (.tuple ⟨[.int .i64 1,.int .i64 0,.string (ByteArray.mk ⟨[]⟩)]⟩,w1))
 (gInt .i64 (Addr.add ⟨b,0,none⟩ 0) w1 fun x_1=>cond (x_1 == 1)
 (aSome k fun p_1=>gPtr (Addr.add p_1 6) w1 fun x_2=>gInt .i64 (Addr.add ⟨b,0,none⟩ 1) w1 fun x_3=>gInt .i64 (Addr.add ⟨b,0,none⟩ 2) w1 fun x_4=>gInt .i64 (Addr.add ⟨b,0,none⟩ 3) w1 fun x_5=>bnd (C D76 [.pointer x_2,.int .i64 e,.int .i64 x_3,.int .i64 x_4,.int .i64 x_5] w1) fun r w2=>as2 r fun r_1 r_2=>aStr r_1 fun x_6=>aInt .i64 r_2 fun x_7=>some (.tuple ⟨[.int .i64 x_7,.int .i64 0,.string x_6]⟩,w2))
 (cond (x_1 == 2)
 (aSome k fun p_2=>gPtr (Addr.add p_2 6) w1 fun x_8=>gInt .i64 (Addr.add ⟨b,0,none⟩ 1) w1 fun x_9=>gInt .i64 (Addr.add ⟨b,0,none⟩ 2) w1 fun x_10=>gSl (Addr.add ⟨b,0,none⟩ 6) w1 fun x_11 xn_1 _=>gCells x_11 xn_1 w1 fun cs=>asBytes cs fun l=>bnd (C Ak9 [.pointer x_8,.int .i64 e,.int .i64 x_9,.int .i64 x_10,.string (ByteArray.mk ⟨l⟩)] w1) fun r_3 w3=>aInt .i64 r_3 fun x_12=>some (.tuple ⟨[.int .i64 x_12,.int .i64 0,.string (ByteArray.mk ⟨[]⟩)]⟩,w3))
 (cond (x_1 == 3)
 (aSome k fun p_3=>gPtr (Addr.add p_3 6) w1 fun x_13=>gInt .i64 (Addr.add ⟨b,0,none⟩ 1) w1 fun x_14=>gInt .i64 (Addr.add ⟨b,0,none⟩ 2) w1 fun x_15=>gInt .i64 (Addr.add ⟨b,0,none⟩ 4) w1 fun x_16=>gInt .i64 (Addr.add ⟨b,0,none⟩ 5) w1 fun x_17=>gInt .i64 (Addr.add ⟨b,0,none⟩ 3) w1 fun x_18=>bnd (C D80 [.pointer x_13,.int .i64 e,.int .i64 x_14,.int .i64 x_15,.int .i64 x_16,.int .i64 x_17,.int .i64 x_18] w1) fun r_4 w4=>aInt .i64 r_4 fun x_19=>some (.tuple ⟨[.int .i64 x_19,.int .i64 0,.string (ByteArray.mk ⟨[]⟩)]⟩,w4))
 (cond (x_1 == 4)
 (aSome k fun p_4=>gPtr (Addr.add p_4 6) w1 fun x_20=>aSome x_20 fun p_5=>gPtr (Addr.add p_5 3) w1 fun x_21=>gInt .i64 (Addr.add ⟨b,0,none⟩ 1) w1 fun x_22=>gInt .i64 (Addr.add ⟨b,0,none⟩ 4) w1 fun x_23=>gInt .i64 (Addr.add ⟨b,0,none⟩ 5) w1 fun x_24=>gInt .i64 (Addr.add ⟨b,0,none⟩ 2) w1 fun x_25=>gInt .i64 (Addr.add ⟨b,0,none⟩ 3) w1 fun x_26=>bnd (C Ec1 [.pointer x_21,.int .i64 e,.int .i64 x_22,.int .i64 x_23,.int .i64 x_24,.int .i64 x_25,.int .i64 x_26] w1) fun r_5 w5=>as2 r_5 fun r_6 r_7=>aInt .i64 r_6 fun x_27=>aInt .i64 r_7 fun x_28=>some (.tuple ⟨[.int .i64 x_28,.int .i64 x_27,.string (ByteArray.mk ⟨[]⟩)]⟩,w5))
 (cond (x_1 == 5)
 (aSome k fun p_6=>gPtr (Addr.add p_6 6) w1 fun x_29=>aSome x_29 fun p_7=>gPtr (Addr.add p_7 3) w1 fun x_30=>gInt .i64 (Addr.add ⟨b,0,none⟩ 1) w1 fun x_31=>bnd (C D84 [.pointer x_30,.int .i64 e,.int .i64 x_31] w1) fun r_8 w6=>as2 r_8 fun r_9 r_10=>aInt .i64 r_9 fun x_32=>aInt .i64 r_10 fun x_33=>some (.tuple ⟨[.int .i64 x_33,.int .i64 x_32,.string (ByteArray.mk ⟨[]⟩)]⟩,w6))
 (cond (x_1 == 6)
 (aSome k fun p_8=>gPtr (Addr.add p_8 5) w1 fun x_34=>aSome k fun p_9=>gSl (Addr.add (Addr.add p_9 0) 1) w1 fun x_35 xn_2 _=>aSome x_35 fun p_10=>ck ((0:Int) ≤ e ∧ e < ((xn_2:Nat):Int)) (gInt .i64 (Addr.add (B0 p_10) (Int.toNat e * 1)) w1 fun x_36=>bnd (C Eg0 [.pointer x_34,.int .i64 x_36] w1) fun r_11 w7=>as2 r_11 fun r_12 r_13=>aInt .i64 r_12 fun x_37=>aInt .i64 r_13 fun x_38=>some (.tuple ⟨[.int .i64 x_38,.int .i64 x_37,.string (ByteArray.mk ⟨[]⟩)]⟩,w7)))
 (cond (x_1 == 7)
 (aSome k fun p_11=>gPtr (Addr.add p_11 5) w1 fun x_39=>aSome k fun p_12=>gSl (Addr.add (Addr.add p_12 0) 1) w1 fun x_40 xn_3 _=>aSome x_40 fun p_13=>ck ((0:Int) ≤ e ∧ e < ((xn_3:Nat):Int)) (gInt .i64 (Addr.add (B0 p_13) (Int.toNat e * 1)) w1 fun x_41=>gInt .i64 (Addr.add ⟨b,0,none⟩ 3) w1 fun x_42=>bnd (C Em5 [.pointer x_39,.int .i64 x_41,.int .i64 x_42] w1) fun r_14 w8=>aInt .i64 r_14 fun x_43=>some (.tuple ⟨[.int .i64 x_43,.int .i64 0,.string (ByteArray.mk ⟨[]⟩)]⟩,w8)))
 (cond (x_1 == 8)
 (gInt .i64 (Addr.add ⟨b,0,none⟩ 3) w1 fun x_44=>bnd (C Dm1 [.pointer k,.int .i64 e,.int .i64 x_44] w1) fun r_15 w9=>aBool r_15 fun x_45=>cond x_45
 (aSome k fun p_14=>gSl (Addr.add p_14 7) w9 fun x_46 xn_4 _=>gInt .i64 (Addr.add ⟨b,0,none⟩ 3) w9 fun x_47=>aSome x_46 fun p_15=>ck ((0:Int) ≤ x_47 ∧ x_47 < ((xn_4:Nat):Int)) (gPtr (Addr.add (B0 p_15) (Int.toNat x_47 * 1)) w9 fun x_48=>aSome k fun p_16=>gInt .i64 (Addr.add p_16 8) w9 fun x_49=>bnd (C En1 [.pointer x_48,.int .i64 e,.int .i64 x_49] w9) fun r_16 w10=>as2 r_16 fun r_17 r_18=>aInt .i64 r_17 fun x_50=>aBool r_18 fun _=>some (.tuple ⟨[.int .i64 0,.int .i64 x_50,.string (ByteArray.mk ⟨[]⟩)]⟩,w10)))
 (some (.tuple ⟨[.int .i64 8,.int .i64 0,.string (ByteArray.mk ⟨[]⟩)]⟩,w9)))
 (cond (x_1 == 9)
 (gInt .i64 (Addr.add ⟨b,0,none⟩ 3) w1 fun x_52=>bnd (C Dm1 [.pointer k,.int .i64 e,.int .i64 x_52] w1) fun r_19 w11=>aBool r_19 fun x_53=>bnd (cond x_53 (aSome k fun p_17=>gSl (Addr.add p_17 7) w11 fun x_54 xn_5 _=>gInt .i64 (Addr.add ⟨b,0,none⟩ 3) w11 fun x_55=>aSome x_54 fun p_18=>ck ((0:Int) ≤ x_55 ∧ x_55 < ((xn_5:Nat):Int)) (gPtr (Addr.add (B0 p_18) (Int.toNat x_55 * 1)) w11 fun x_56=>gInt .i64 (Addr.add ⟨b,0,none⟩ 2) w11 fun x_57=>bnd (C El8 [.pointer x_56,.int .i64 e,.int .i64 x_57] w11) fun r_20 w12=>aBool r_20 fun x_58=>some (x_58,w12))) (some (false,w11))) fun c_2 w13=>cond c_2
 (some (.tuple ⟨[.int .i64 0,.int .i64 0,.string (ByteArray.mk ⟨[]⟩)]⟩,w13))
 (some (.tuple ⟨[.int .i64 8,.int .i64 0,.string (ByteArray.mk ⟨[]⟩)]⟩,w13)))
 (cond (x_1 == 10)
 (aSome k fun p_19=>gInt .i64 (Addr.add p_19 8) w1 fun x_59=>some (.tuple ⟨[.int .i64 0,.int .i64 x_59,.string (ByteArray.mk ⟨[]⟩)]⟩,w1))
 (some (.tuple ⟨[.int .i64 7,.int .i64 0,.string (ByteArray.mk ⟨[]⟩)]⟩,w1)))))))))))):=by kernel_rfl
def Da5:Cuts:={ globs:=0,loops:=[(3,[0,3,4])],regs:=[],plans:=[] }
def D13:List Item:=A5 Tryz.f65
def Bl8:List Item:=stk [0,1,0,1,0,0,1,4,5] D13
theorem Hb3 (C:A1) (R:A2) (b:ByteArray) (h:H) :
 A4 PR Da5 C R Ab9 Tryz.f65 100000 true D13 [(0,.string b)] h =
 R Ab9 Bl8 [(0,.string b),(3,.int .i64 ((ByteArray.size b:Nat):Int)),(4,.int .i64 0)] h:=by kernel_rfl
theorem D72 (C:A1) (R:A2) (b:ByteArray) (n:Int) (i:Int) (h:H) :
 A4 PR Da5 C R Ab9 Tryz.f65 100000 true Bl8 [(0,.string b),(3,.int .i64 n),(4,.int .i64 i)] h =
 cond (decide (i < ((ByteArray.size b:Nat):Int)))
 (ck ((0:Int) ≤ i ∧ i < ((ByteArray.size b:Nat):Int)) (R Ab9 Bl8 [(0,.string b),(3,.int .i64 (IntKind.wrap .i64 (n + (IntKind.wrap .i64 (((List.getD (ByteArray.data b).toList (Int.toNat i) 0).toNat:Int)))))),(4,.int .i64 (IntKind.wrap .i64 (i + 1)))] h))
 (some (.int .u8 (IntKind.wrap .u8 (n)),h)):=by kernel_rfl
def By2:Cuts:={ globs:=0,loops:=[],regs:=[],plans:=[(1,⟨[1,0,2,3,4,5,6],[0,0,3,7,7,31,63],[(0,[1])],[]⟩)] }
def Dw3:List Item:=A5 Tryz.f74
theorem E95 (C:A1) (R:A2) (f:List Value) (h:H) :
 A4 PR By2 C R A00 Tryz.f74 100000 true Dw3 [(0,.agg ⟨f⟩)] h =
 nw (.cells H7 false f) h fun b w=>gAgg ⟨b,0,none⟩ 4 w fun x=>bnd (C A61 [] w) fun r w1=>aPtr r fun x_1=>gAgg ⟨b,0,none⟩ 4 w1 fun x_2=>same (.agg ⟨x⟩) (.agg ⟨x_2⟩) (bnd (C Q5 [.pointer x_1,.agg ⟨x⟩] w1) fun r_1 w2=>as2 r_1 fun r_2 r_3=>aSl r_2 fun x_3 xn xc=>aBool r_3 fun x_4=>some (.tuple ⟨[.slice x_3 xn xc,.bool x_4]⟩,w2)):=by kernel_rfl
def A30:Cuts:={ globs:=0,loops:=[],regs:=[],plans:=[] }
def Bu9:List Item:=A5 Tryz.f76
theorem Dy4 (C:A1) (R:A2) (g:Int) (h:H) :
 A4 PR A30 C R Ak8 Tryz.f76 100000 true Bu9 [(0,.int .i64 g)] h =
 bnd (cond (decide (g < 0)) (some (true,h)) (some (decide (g ≥ 8),h))) fun c w=>cond c
 (some (.tuple ⟨[.slice none 0 0,.bool false]⟩,w))
 (nw (.cells A3 false [.int .u8 (IntKind.wrap .u8 (g)),.int .u8 211]) w fun b w1=>bnd (C W7 [.slice (some ⟨b,0,none⟩) 2 2] w1) fun r w2=>aInt .u8 r fun x=>nw (.cells A3 false [.int .u8 x,.int .u8 0]) w2 fun b_1 w3=>gCells (some ⟨b_1,0,none⟩) (2 * 1) w3 fun cs=>ckB (fitsOpen (some ⟨b,0,none⟩) A3 w3) (apd A3 1 (some ⟨b,0,none⟩) 2 2 2 cs w3 fun a an ac w4=>some (.tuple ⟨[.slice a an ac,.bool true]⟩,w4))):=by kernel_rfl
def Dr1:Cuts:={ globs:=0,loops:=[],regs:=[],plans:=[] }
def Ep2:List Item:=A5 Tryz.f83
theorem Gv3 (C:A1) (R:A2) (ok:Bool) (n:Int) (h:H) :
 A4 PR Dr1 C R Bk2 Tryz.f83 100000 true Ep2 [(0,.bool ok),(1,.int .i64 n)] h =
 nw (.cells Ah3 false [.int .i64 0,.int .i64 0,.slice none 0 0,.bool false]) h fun b w=>cond (!ok)
 (bnd (C Ah0 [.int .i64 105] w) fun r w1=>aAgg r fun x=>ck (List.length x = 4) (pAgg ⟨b,0,none⟩ x w1 fun w2=>gAgg ⟨b,0,none⟩ 4 w2 fun x_1=>some (.agg ⟨x_1⟩,w2)))
 (pAgg ⟨b,0,none⟩ [.int .i64 n,.int .i64 0,.slice none 0 0,.bool false] w fun w3=>gAgg ⟨b,0,none⟩ 4 w3 fun x_2=>some (.agg ⟨x_2⟩,w3)):=by kernel_rfl
def B66:Cuts:={ globs:=0,loops:=[],regs:=[],plans:=[] }
def D70:List Item:=A5 Tryz.f89
theorem Gf4 (C:A1) (R:A2) (x:List Value) (fv0:Addr) (h:H) :
 A4 PR B66 C R A58 Tryz.f89 100000 true D70 [(0,.agg ⟨x⟩),(1,.pointer (some fv0))] h =
 nw (.cells U3 false x) h fun b w=>gInt .i64 (Addr.add (Addr.add ⟨b,0,none⟩ 1) 1) w fun x_1=>gInt .i64 fv0 w fun x_2=>some (.bool (x_1 == (IntKind.wrap .i64 (x_2 + 1))),w):=by kernel_rfl
def P6:Cuts:={ globs:=0,loops:=[(1,[0,5]),(6,[0,12]),(11,[0,20,21])],regs:=[],plans:=[] }
def Y1:List Item:=A5 Tryz.f91
def Aa5:List Item:=stk [0,0,1,4,5] Y1
def Aa6:List Item:=stk [0,1,0,0,1,4,5] Y1
def Aa1:List Item:=stk [0,1,0,1,0,0,1,4,5] Y1
theorem Dr7 (C:A1) (R:A2) (c:Option Addr) (h:H) :
 A4 PR P6 C R B5 Tryz.f91 100000 true Y1 [(0,.pointer c)] h =
 R B5 Aa5 [(0,.pointer c),(5,.int .i64 0)] h:=by kernel_rfl
theorem A91 (C:A1) (R:A2) (c:Option Addr) (x5:Int) (h:H) :
 A4 PR P6 C R B5 Tryz.f91 100000 true Aa5 [(0,.pointer c),(5,.int .i64 x5)] h =
 cond (decide (x5 < 8))
 (bnd (C L9 [.pointer c,.int .i64 x5] h) fun r w=>as2 r fun r_1 r_2=>aAgg r_1 fun _=>aInt .i64 r_2 fun _=>R B5 Aa5 [(0,.pointer c),(5,.int .i64 (IntKind.wrap .i64 (x5 + 1)))] w)
 (R B5 Aa6 [(0,.pointer c),(12,.int .i64 0)] h):=by kernel_rfl
theorem A94 (C:A1) (R:A2) (c:Option Addr) (x12:Int) (h:H) :
 A4 PR P6 C R B5 Tryz.f91 100000 true Aa6 [(0,.pointer c),(12,.int .i64 x12)] h =
 cond (decide (x12 < 12))
 (bnd (C M6 [.pointer c,.int .i64 x12] h) fun r w=>as2 r fun r_1 r_2=>aAgg r_1 fun _=>aInt .i64 r_2 fun _=>R B5 Aa6 [(0,.pointer c),(12,.int .i64 (IntKind.wrap .i64 (x12 + 1)))] w)
 (bnd (C W6 [.pointer c,.int .i64 3] h) fun r_3 w1=>aInt .i64 r_3 fun x_2=>R B5 Aa1 [(0,.pointer c),(20,.int .i64 x_2),(21,.int .i64 0)] w1):=by kernel_rfl
theorem Ba6 (C:A1) (R:A2) (c:Option Addr) (x20:Int) (x21:Int) (h:H) :
 A4 PR P6 C R B5 Tryz.f91 100000 true Aa1 [(0,.pointer c),(20,.int .i64 x20),(21,.int .i64 x21)] h =
 cond (decide (x21 < x20))
 (bnd (C Ag4 [.pointer c,.int .i64 x21] h) fun r w=>as2 r fun r_1 r_2=>aAgg r_1 fun _=>aInt .i64 r_2 fun _=>R B5 Aa1 [(0,.pointer c),(20,.int .i64 x20),(21,.int .i64 (IntKind.wrap .i64 (x21 + 1)))] w)
 (bnd (C Ag3 [.pointer c] h) fun r_3 w1=>as2 r_3 fun r_4 r_5=>aAgg r_4 fun _=>aInt .i64 r_5 fun _=>bnd (C Ae2 [.pointer c] w1) fun r_6 w2=>as2 r_6 fun r_7 r_8=>aInt .i64 r_7 fun _=>aBool r_8 fun _=>some (.tuple ⟨[]⟩,w2)):=by kernel_rfl
def B60:Cuts:={ globs:=0,loops:=[],regs:=[],plans:=[] }
def D71:List Item:=A5 Tryz.f111
theorem Gf3 (C:A1) (R:A2) (n:Int) (h:H) :
 A4 PR B60 C R A75 Tryz.f111 100000 true D71 [(0,.int .i64 n)] h =
 some (.int .i64 (mm2 false (mm2 true n 0) 64),h):=by kernel_rfl
def Ap5:Cuts:={ globs:=0,loops:=[],regs:=[],plans:=[] }
def Bd5:List Item:=A5 Tryz.f112
theorem Dj4 (C:A1) (R:A2) (s:Option Addr) (sn sc:Nat) (h:H) :
 A4 PR Ap5 C R U0 Tryz.f112 100000 true Bd5 [(0,.slice s sn sc)] h =
 cond s.isNone
 (some (.slice none 0 0,h))
 (nw (.cells B2 false []) h fun b w=>gCells s (sn * 1) w fun cs=>ckB (fitsOpen (some ⟨b,0,none⟩) B2 w) (apd B2 1 (some ⟨b,0,none⟩) 0 0 sn cs w fun a an ac w1=>some (.slice a an ac,w1))):=by kernel_rfl
def Dc7:Cuts:={ globs:=0,loops:=[(3,[3,8,9])],regs:=[],plans:=[(4,⟨[0,1,2,3,4,5,6,7,8,9,10],[0,0,2,6,14,0,32,126,255,511,1023],[(5,[4])],[]⟩)] }
def Dz9:List Item:=A5 Tryz.f114
def Bl6:List Item:=stk [0,1,0,1,0,0,1,4,5] Dz9
theorem Hc6 (C:A1) (R:A2) (envs:Int) (h:H) :
 A4 PR Dc7 C R At3 Tryz.f114 100000 true Dz9 [(0,.int .i64 envs)] h =
 nw (.cells Ap9 false [.slice none 0 0]) h fun b w=>R At3 Bl6 [(3,.pointer (some ⟨b,0,none⟩)),(8,.int .i64 (mm2 false (mm2 true envs 0) 40)),(9,.int .i64 0)] w:=by kernel_rfl
theorem D51 (C:A1) (R:A2) (s:Addr) (x8:Int) (x9:Int) (h:H) :
 A4 PR Dc7 C R At3 Tryz.f114 100000 true Bl6 [(3,.pointer (some s)),(8,.int .i64 x8),(9,.int .i64 x9)] h =
 cond (decide (x9 < x8))
 (gSl (Addr.add s 0) h fun x xn xc=>bnd (C N7 [.int .i64 32] h) fun r w=>aPtr r fun x_1=>gSl (Addr.add s 0) w fun x_2 xn_1 xc_1=>same (.slice x xn xc) (.slice x_2 xn_1 xc_1) (nw (.cells E6 false [.pointer x_1]) w fun b w1=>gCells (some ⟨b,0,none⟩) (1 * 1) w1 fun cs=>ckB (fitsOpen x E6 w1) (apd E6 1 x xn xc 1 cs w1 fun a an ac w2=>pV (Addr.add s 0) (.slice a an ac) w2 fun w3=>R At3 Bl6 [(3,.pointer (some s)),(8,.int .i64 x8),(9,.int .i64 (IntKind.wrap .i64 (x9 + 1)))] w3)))
 (some (.pointer (some s),h)):=by kernel_rfl
def Bm3:Cuts:={ globs:=0,loops:=[],regs:=[],plans:=[] }
def Df9:List Item:=A5 Tryz.f121
theorem Es4 (C:A1) (R:A2) (s:Option Addr) (env:Int) (c:List Value) (h:H) :
 A4 PR Bm3 C R A28 Tryz.f121 100000 true Df9 [(0,.pointer s),(1,.int .i64 env),(2,.agg ⟨c⟩)] h =
 nw (.cells N6 false c) h fun b w=>bnd (C Ac8 [.pointer s,.int .i64 env] w) fun r w1=>aBool r fun x=>bnd (cond (!x) (some (true,w1)) (gInt .i64 (Addr.add ⟨b,0,none⟩ 1) w1 fun x_1=>some ((Eb2 .i64 x_1 7) != 0,w1))) fun c_1 w2=>bnd (cond c_1 (some (true,w2)) (gInt .i64 (Addr.add ⟨b,0,none⟩ 2) w2 fun x_2=>bnd (C Ah5 [.int .i64 x_2] w2) fun r_1 w3=>aBool r_1 fun x_3=>some (!x_3,w3))) fun c_2 w4=>bnd (cond c_2 (some (true,w4)) (gInt .i64 (Addr.add ⟨b,0,none⟩ 3) w4 fun x_4=>bnd (C Ah5 [.int .i64 x_4] w4) fun r_2 w5=>aBool r_2 fun x_5=>some (!x_5,w5))) fun c_3 w6=>cond c_3
 (some (.tuple ⟨[.int .i64 0,.int .i64 1]⟩,w6))
 (pAgg (Addr.add ⟨b,0,none⟩ 4) [.int .i64 0,.int .i64 0] w6 fun w7=>gAgg ⟨b,0,none⟩ 6 w7 fun x_6=>bnd (C Ao9 [.pointer s,.int .i64 env,.agg ⟨x_6⟩] w7) fun r_3 w8=>as2 r_3 fun r_4 r_5=>aInt .i64 r_4 fun x_7=>aInt .i64 r_5 fun x_8=>some (.tuple ⟨[.int .i64 x_7,.int .i64 x_8]⟩,w8)):=by kernel_rfl
def A35:Cuts:={ globs:=0,loops:=[],regs:=[],plans:=[] }
def Bs5:List Item:=A5 Tryz.f131
theorem D22 (C:A1) (R:A2) (r:Option Addr) (e:Int) (name:Int) (atv:Int) (b:ByteArray) (h:H) :
 A4 PR A35 C R Ak9 Tryz.f131 100000 true Bs5 [(0,.pointer r),(1,.int .i64 e),(2,.int .i64 name),(3,.int .i64 atv),(4,.string b)] h =
 bnd (C An3 [.pointer r,.int .i64 e,.int .i64 name,.int .i64 2,.int .i64 atv,.int .i64 ((ByteArray.size b:Nat):Int)] h) fun r_1 w=>as2 r_1 fun r_2 r_3=>aInt .i64 r_2 fun x=>aInt .i64 r_3 fun x_1=>cond (x_1 != 0)
 (some (.int .i64 x_1,w))
 (aSome r fun p=>gSl (Addr.add p 0) w fun x_2 xn xc=>ckB (fitsOpen x_2 A3 w) (ck ((0:Int) ≤ x ∧ x ≤ ((xn:Nat):Int)) (pCells (G9 x_2 (decide (Int.toNat x < xc)) ((Int.toNat x) * 1)) (A0 (List.take (min (ByteArray.size b) (xn - (Int.toNat x))) (ByteArray.data b).toList)) w fun w1=>some (.int .i64 0,w1)))):=by kernel_rfl
def Br8:Cuts:={ globs:=0,loops:=[],regs:=[],plans:=[] }
def Dn1:List Item:=A5 Tryz.f141
theorem E20 (C:A1) (R:A2) (s:Option Addr) (env:Int) (h:H) :
 A4 PR Br8 C R Ac8 Tryz.f141 100000 true Dn1 [(0,.pointer s),(1,.int .i64 env)] h =
 bnd (cond (decide (env ≥ 0)) (aSome s fun p=>gSl (Addr.add p 0) h fun _ xn _=>some (decide (env < ((xn:Nat):Int)),h)) (some (false,h))) fun c w=>some (.bool c,w):=by kernel_rfl
def Aw8:Cuts:={ globs:=0,loops:=[],regs:=[],plans:=[(2,⟨[0,1,2,3,4,5,6,7,8,9,10],[0,1,3,7,15,31,63,7,255,511,1023],[],[]⟩),(4,⟨[0,1,2,3,4,5,6,7,8,9,10,11,12,13,14,16,15,17],[0,1,3,7,0,16,48,112,0,256,0,1024,0,4096,16128,32767,0,131071],[],[]⟩),(6,⟨[0,1,2,3,4,5,6,7,8,9],[0,1,3,7,0,31,63,31,159,511],[(7,[5])],[]⟩)] }
def Bi1:List Item:=A5 Tryz.f146
theorem Dq4 (C:A1) (R:A2) (c:Option Addr) (r:List Value) (h:H) :
 A4 PR Aw8 C R M8 Tryz.f146 100000 true Bi1 [(0,.pointer c),(1,.agg ⟨r⟩)] h =
 nw (.cells D1 false r) h fun b w=>gAgg ⟨b,0,none⟩ 2 w fun x=>bnd (C O6 [.pointer c,.agg ⟨x⟩] w) fun r_1 w1=>as2 r_1 fun r_2 r_3=>aAgg r_2 fun x_1=>aBool r_3 fun x_2=>nw (.cells A95 false [.int .i64 0,.int .i64 0,.int .i64 0]) w1 fun b_1 w2=>ck (List.length x_1 = 3) (pAgg ⟨b_1,0,none⟩ x_1 w2 fun w3=>bnd (cond (!x_2) (some (true,w3)) (aSome c fun p=>gMap (Addr.add p 3) w3 fun x_3=>gAgg ⟨b,0,none⟩ 2 w3 fun x_4=>keyN PR D1 (.agg ⟨x_4⟩) (opt x_3 fun r_4=>mapAt w3 r_4 fun es _=>opt (Ai5 (.int .i64 0) (.agg ⟨x_4⟩) es) fun f=>aInt .i64 f.1 fun x_5=>some (decide (x_5 > 0),w3)))) fun c_1 w4=>cond c_1
 (some (.tuple ⟨[.slice none 0 0,.bool false]⟩,w4))
 (aSome c fun p_1=>gPtr (Addr.add p_1 0) w4 fun x_6=>aSome c fun p_2=>gInt .i64 (Addr.add p_2 1) w4 fun x_7=>gInt .i64 (Addr.add ⟨b_1,0,none⟩ 0) w4 fun x_8=>gInt .i64 (Addr.add ⟨b_1,0,none⟩ 1) w4 fun x_9=>gInt .i64 (Addr.add ⟨b_1,0,none⟩ 2) w4 fun x_10=>nw (.cells Eb7 false [.int .i64 0,.int .i64 0,.slice none 0 0]) w4 fun b_2 w5=>bnd (C P5 [.pointer x_6,.int .i64 x_7,.agg ⟨[.int .i64 1,.int .i64 x_8,.int .i64 x_9,.int .i64 x_10,.int .i64 0,.int .i64 0,.slice none 0 0]⟩] w5) fun r_5 w6=>aAgg r_5 fun x_11=>ck (List.length x_11 = 3) (pAgg ⟨b_2,0,none⟩ x_11 w6 fun w7=>gInt .i64 (Addr.add ⟨b_2,0,none⟩ 0) w7 fun x_12=>cond (x_12 != 0)
 (aSome c fun p_3=>gMap (Addr.add p_3 3) w7 fun x_13=>gAgg ⟨b,0,none⟩ 2 w7 fun x_14=>keyN PR D1 (.agg ⟨x_14⟩) (opt x_13 fun r_6=>mapAt w7 r_6 fun es_1 _=>opt (Ai5 (.int .i64 0) (.agg ⟨x_14⟩) es_1) fun f_1=>aInt .i64 f_1.1 fun x_15=>keyN PR D1 (.agg ⟨x_14⟩) (opt x_13 fun r_7=>mapAt w7 r_7 fun es_2 cl_2=>opt (Do6 (.int .i64 0) (.agg ⟨x_14⟩) es_2 cl_2) fun f_2=>aInt .i64 f_2.1 fun _=>lt (H.set w7 r_7 f_2.2.2) fun w8=>keyN PR D1 (.agg ⟨x_14⟩) (opt x_13 fun r_8=>mapAt w8 r_8 fun es_3 _=>opt (Ai5 (.int .i64 0) (.agg ⟨x_14⟩) es_3) fun f_3=>aInt .i64 f_3.1 fun x_17=>same (.int .i64 x_15) (.int .i64 x_17) (opt x_13 fun r_9=>mapAt w8 r_9 fun es_4 cl_4=>opt (Be3 (f_2.2.1:Int) es_4 0) fun i=>lt (H.set w8 r_9 (.map (modN (fun e=>{ e with val:=.int .i64 (IntKind.wrap .i64 (x_15 + 1)) }) i es_4) cl_4)) fun w9=>some (.tuple ⟨[.slice none 0 0,.bool false]⟩,w9))))))
 (gSl (Addr.add ⟨b_2,0,none⟩ 2) w7 fun x_18 xn xc=>some (.tuple ⟨[.slice x_18 xn xc,.bool true]⟩,w7))))):=by kernel_rfl
def Ba8:Cuts:={ globs:=0,loops:=[],regs:=[],plans:=[] }
def B42:List Item:=A5 Tryz.f155
theorem Eh7 (C:A1) (R:A2) (q:Option Addr) (s:Int) (k:Int) (h:H) :
 A4 PR Ba8 C R Au4 Tryz.f155 100000 true B42 [(0,.pointer q),(1,.int .i64 s),(2,.int .i64 k)] h =
 bnd (C Af8 [.pointer q,.int .i64 s] h) fun r w=>aBool r fun x=>cond (!x)
 (some (.int .i64 1,w))
 (bnd (C As9 [.pointer q,.int .i64 s,.int .i64 k] w) fun r_1 w1=>aBool r_1 fun x_1=>cond (!x_1)
 (some (.int .i64 5,w1))
 (aSome q fun p=>gSl (Addr.add p 0) w1 fun x_2 xn _=>aSome x_2 fun p_1=>ck ((0:Int) ≤ s ∧ s < ((xn:Nat):Int)) (gSl (Addr.add (B0 p_1) (Int.toNat s * 1)) w1 fun x_3 xn_1 _=>aSome x_3 fun p_2=>ck ((0:Int) ≤ k ∧ k < ((xn_1:Nat):Int)) (pV (Addr.add (B0 p_2) (Int.toNat k * 1)) (.int .i64 0) w1 fun w2=>some (.int .i64 0,w2))))):=by kernel_rfl
def Ad8:Cuts:={ globs:=0,loops:=[],regs:=[],plans:=[(2,⟨[0,1,2,3,4,5,6,7,8,9,10,11,12,13,14],[0,1,3,7,15,31,63,127,255,511,63,63,4095,8191,16383],[],[]⟩)] }
def Ax3:List Item:=A5 Tryz.f162
theorem Bw9 (C:A1) (R:A2) (c:Option Addr) (v:List Value) (h:H) :
 A4 PR Ad8 C R Q5 Tryz.f162 100000 true Ax3 [(0,.pointer c),(1,.agg ⟨v⟩)] h =
 nw (.cells H7 false v) h fun b w=>aSome c fun p=>gInt .i64 (Addr.add p 0) w fun x=>ck ((0:Int) ≤ x ∧ (x:Int) ≤ x ∧ x ≤ (A8:Int)) (nw (.cells A3 false (G3 (Int.toNat x) [.int .u8 0])) w fun b_1 w1=>aSome c fun p_1=>gFv (Addr.add p_1 1) w1 fun x_1=>isNilF x_1 fun b_2=>bnd (cond b_2 (some (true,w1)) (aSome c fun p_2=>gFv (Addr.add p_2 1) w1 fun x_2=>gAgg ⟨b,0,none⟩ 4 w1 fun x_3=>aFn x_2 fun g fi cp=>bnd (C g (fi ++ ([.agg ⟨x_3⟩,.slice (some ⟨b_1,0,none⟩) (Int.toNat x) (Int.toNat x)] ++ cp)) w1) fun r w2=>aBool r fun x_4=>some (!x_4,w2))) fun c_1 w3=>cond c_1
 (some (.tuple ⟨[.slice none 0 0,.bool false]⟩,w3))
 (some (.tuple ⟨[.slice (some ⟨b_1,0,none⟩) (Int.toNat x) (Int.toNat x),.bool true]⟩,w3))):=by kernel_rfl
def B05:Cuts:={ globs:=0,loops:=[],regs:=[],plans:=[] }
def Ds9:List Item:=A5 Tryz.f178
theorem E57 (C:A1) (R:A2) (m:Option Addr) (h:H) :
 A4 PR B05 C R Az8 Tryz.f178 100000 true Ds9 [(0,.pointer m)] h =
 aSome m fun p=>gSl (Addr.add p 0) h fun _ xn _=>some (.int .i64 ((xn:Nat):Int),h):=by kernel_rfl
def Bb2:Cuts:={ globs:=0,loops:=[],regs:=[],plans:=[] }
def B46:List Item:=A5 Tryz.f180
theorem Ea3 (C:A1) (R:A2) (n:Int) (h:H) :
 A4 PR Bb2 C R Ah5 Tryz.f180 100000 true B46 [(0,.int .i64 n)] h =
 bnd (cond (decide (n ≥ 0)) (some (decide (n ≤ 65536),h)) (some (false,h))) fun c w=>some (.bool c,w):=by kernel_rfl
def Bm4:Cuts:={ globs:=0,loops:=[],regs:=[],plans:=[] }
def Di0:List Item:=A5 Tryz.f187
theorem Et7 (C:A1) (R:A2) (s:Option Addr) (e:Int) (name:Int) (h:H) :
 A4 PR Bm4 C R A44 Tryz.f187 100000 true Di0 [(0,.pointer s),(1,.int .i64 e),(2,.int .i64 name)] h =
 nw (.cells N6 false [.int .i64 0,.int .i64 0,.int .i64 0,.int .i64 0,.int .i64 0,.int .i64 0]) h fun b w=>bnd (C Ag2 [.pointer s,.int .i64 e] w) fun r w1=>aBool r fun x=>bnd (cond (!x) (some (true,w1)) (aSome s fun p=>gSl (Addr.add p 0) w1 fun x_1 xn _=>aSome x_1 fun p_1=>ck ((0:Int) ≤ e ∧ e < ((xn:Nat):Int)) (gPtr (Addr.add (B0 p_1) (Int.toNat e * 1)) w1 fun x_2=>bnd (C A53 [.pointer x_2,.int .i64 name] w1) fun r_1 w2=>aBool r_1 fun x_3=>some (!x_3,w2)))) fun c w3=>cond c
 (pAgg ⟨b,0,none⟩ [.int .i64 0,.int .i64 0,.int .i64 0,.int .i64 0,.int .i64 0,.int .i64 0] w3 fun w4=>gAgg ⟨b,0,none⟩ 6 w4 fun x_4=>some (.tuple ⟨[.agg ⟨x_4⟩,.int .i64 2]⟩,w4))
 (aSome s fun p_2=>gSl (Addr.add p_2 1) w3 fun x_5 xn_1 _=>aSome x_5 fun p_3=>ck ((0:Int) ≤ e ∧ e < ((xn_1:Nat):Int)) (gSl (Addr.add (B0 p_3) (Int.toNat e * 1)) w3 fun x_6 xn_2 _=>aSome x_6 fun p_4=>ck ((0:Int) ≤ O4 .i64 name 255 ∧ O4 .i64 name 255 < ((xn_2:Nat):Int)) (gAgg (Addr.add (B0 p_4) (Int.toNat (O4 .i64 name 255) * 6)) 6 w3 fun x_7=>ck (List.length x_7 = 6) (pAgg ⟨b,0,none⟩ x_7 w3 fun w5=>gAgg ⟨b,0,none⟩ 6 w5 fun x_8=>some (.tuple ⟨[.agg ⟨x_8⟩,.int .i64 0]⟩,w5))))):=by kernel_rfl
def A40:Cuts:={ globs:=0,loops:=[(3,[0,3,4])],regs:=[],plans:=[] }
def Bn8:List Item:=A5 Tryz.f194
def Ae8:List Item:=stk [0,1,0,1,0,0,1,4,5] Bn8
theorem Et3 (C:A1) (R:A2) (n:Option Addr) (h:H) :
 A4 PR A40 C R O9 Tryz.f194 100000 true Bn8 [(0,.pointer n)] h =
 R O9 Ae8 [(0,.pointer n),(3,.slice none 0 0),(4,.int .i64 0)] h:=by kernel_rfl
theorem Bx6 (C:A1) (R:A2) (n:Option Addr) (out:Option Addr) (outn outc:Nat) (i:Int) (h:H) :
 A4 PR A40 C R O9 Tryz.f194 100000 true Ae8 [(0,.pointer n),(3,.slice out outn outc),(4,.int .i64 i)] h =
 aSome n fun p=>gSl (Addr.add p 0) h fun _ xn _=>cond (decide (i < ((xn:Nat):Int)))
 (aSome n fun p_1=>gSl (Addr.add p_1 0) h fun x_1 xn_1 _=>aSome x_1 fun p_2=>ck ((0:Int) ≤ i ∧ i < ((xn_1:Nat):Int)) (gBool (Addr.add (Addr.add (B0 p_2) (Int.toNat i * 2)) 1) h fun x_2=>cond x_2
 (aSome n fun p_3=>gSl (Addr.add p_3 0) h fun x_3 xn_2 _=>aSome x_3 fun p_4=>ck ((0:Int) ≤ i ∧ i < ((xn_2:Nat):Int)) (gInt .i64 (Addr.add (Addr.add (B0 p_4) (Int.toNat i * 2)) 0) h fun x_4=>nw (.cells B2 false [.int .i64 (IntKind.wrap .i64 (i + (IntKind.wrap .i64 (256 * x_4))))]) h fun b w=>gCells (some ⟨b,0,none⟩) (1 * 1) w fun cs=>ckB (fitsOpen out B2 w) (apd B2 1 out outn outc 1 cs w fun a an ac w1=>R O9 Ae8 [(0,.pointer n),(3,.slice a an ac),(4,.int .i64 (IntKind.wrap .i64 (i + 1)))] w1)))
 (R O9 Ae8 [(0,.pointer n),(3,.slice out outn outc),(4,.int .i64 (IntKind.wrap .i64 (i + 1)))] h)))
 (some (.slice out outn outc,h)):=by kernel_rfl
def A42:Cuts:={ globs:=0,loops:=[],regs:=[],plans:=[] }
def Bt5:List Item:=A5 Tryz.f196
theorem D49 (C:A1) (R:A2) (size:Int) (put:Value) (get:Value) (h:H) :
 A4 PR A42 C R Al0 Tryz.f196 100000 true Bt5 [(0,.int .i64 size),(1,put),(2,get)] h =
 one put (one get (nw (.cells Bi3 false [.int .i64 (mm2 false (mm2 true size 0) 64),put,get]) h fun b w=>some (.pointer (some ⟨b,0,none⟩),w))):=by kernel_rfl
def Dw5:Cuts:={ globs:=0,loops:=[],regs:=[],plans:=[(1,⟨[0,1,2,3,4,5,6,7,8,9,10,11,12,13,14,15,16,17,18],[0,1,3,7,0,16,48,112,0,256,768,1792,0,4096,12288,28672,65535,0,262143],[],[]⟩),(2,⟨[0,1,2,3,4],[0,1,0,4,15],[],[]⟩),(4,⟨[0,1,2,3,4,5,6,7,8],[0,0,2,6,6,30,62,63,255],[(5,[0])],[]⟩)] }
def Ez9:List Item:=A5 Tryz.f198
theorem G54 (C:A1) (R:A2) (b:Option Addr) (bn bc:Nat) (h:H) :
 A4 PR Dw5 C R Be7 Tryz.f198 100000 true Ez9 [(0,.slice b bn bc)] h =
 nw (.cells J0 false [.int .i64 0,.int .i64 0,.int .i64 0,.int .i64 0,.int .u8 0,.int .u8 0,.int .u8 0,.int .u8 0,.int .u8 0,.int .u8 0,.int .u8 0,.int .u8 0,.int .u8 0,.int .u8 0,.int .u8 0,.int .u8 0,.int .u8 0,.int .u8 0,.int .u8 0,.int .u8 0,.int .u8 0,.int .u8 0,.int .u8 0,.int .u8 0,.int .u8 0,.int .u8 0,.int .u8 0,.int .u8 0,.int .u8 0,.int .u8 0,.int .u8 0,.int .u8 0,.int .u8 0,.int .u8 0,.int .u8 0,.int .u8 0]) h fun b_1 w=>aSome b fun p=>ck ((0:Int) ≤ 1 ∧ 1 < ((bn:Nat):Int)) (gInt .u8 (Addr.add (B0 p) (Int.toNat 1 * 1)) w fun x=>aSome b fun p_1=>ck ((0:Int) ≤ 2 ∧ 2 < ((bn:Nat):Int)) (gInt .u8 (Addr.add (B0 p_1) (Int.toNat 2 * 1)) w fun x_1=>aSome b fun p_2=>ck ((0:Int) ≤ 3 ∧ 3 < ((bn:Nat):Int)) (gInt .u8 (Addr.add (B0 p_2) (Int.toNat 3 * 1)) w fun x_2=>aSome b fun p_3=>ck ((0:Int) ≤ 4 ∧ 4 < ((bn:Nat):Int)) (gInt .u8 (Addr.add (B0 p_3) (Int.toNat 4 * 1)) w fun x_3=>nw (.cells J0 false [.int .i64 0,.int .i64 0,.int .i64 0,.int .i64 0,.int .u8 0,.int .u8 0,.int .u8 0,.int .u8 0,.int .u8 0,.int .u8 0,.int .u8 0,.int .u8 0,.int .u8 0,.int .u8 0,.int .u8 0,.int .u8 0,.int .u8 0,.int .u8 0,.int .u8 0,.int .u8 0,.int .u8 0,.int .u8 0,.int .u8 0,.int .u8 0,.int .u8 0,.int .u8 0,.int .u8 0,.int .u8 0,.int .u8 0,.int .u8 0,.int .u8 0,.int .u8 0,.int .u8 0,.int .u8 0,.int .u8 0,.int .u8 0]) w fun b_2 w1=>pAgg ⟨b_2,0,none⟩ [.int .i64 (IntKind.wrap .i64 (x)),.int .i64 (IntKind.wrap .i64 (x_1)),.int .i64 (IntKind.wrap .i64 (x_2)),.int .i64 (IntKind.wrap .i64 (x_3)),.int .u8 0,.int .u8 0,.int .u8 0,.int .u8 0,.int .u8 0,.int .u8 0,.int .u8 0,.int .u8 0,.int .u8 0,.int .u8 0,.int .u8 0,.int .u8 0,.int .u8 0,.int .u8 0,.int .u8 0,.int .u8 0,.int .u8 0,.int .u8 0,.int .u8 0,.int .u8 0,.int .u8 0,.int .u8 0,.int .u8 0,.int .u8 0,.int .u8 0,.int .u8 0,.int .u8 0,.int .u8 0,.int .u8 0,.int .u8 0,.int .u8 0,.int .u8 0] w1 fun w2=>ckB (liveA (Addr.add ⟨b_2,0,none⟩ 4) w2) (ckB (fitsOpen b A3 w2) (ck ((0:Int) ≤ 8 ∧ 8 ≤ ((bn:Nat):Int)) (gCells (G9 b (decide (Int.toNat 8 < bc)) ((Int.toNat 8) * 1)) (min (bn - (Int.toNat 8)) (32 - 0) * 1) w2 fun cs=>pCells (G9 (some (Addr.add ⟨b_2,0,none⟩ 4)) (decide (0 < 32)) (0 * 1)) cs w2 fun w3=>gAgg ⟨b_2,0,none⟩ 36 w3 fun x_4=>bnd (C Bl4 [.agg ⟨x_4⟩] w3) fun r w4=>as2 r fun r_1 r_2=>aSl r_1 fun x_5 xn xc=>aBool r_2 fun x_6=>gAgg ⟨b_2,0,none⟩ 36 w4 fun x_7=>bnd (cond x_6 (bnd (C B6 [.slice x_5 xn xc,.slice b bn bc] w4) fun r_3 w5=>aBool r_3 fun x_8=>gAgg ⟨b_2,0,none⟩ 36 w5 fun x_9=>same (.agg ⟨x_7⟩) (.agg ⟨x_9⟩) (some (x_8,w5))) (some (false,w4))) fun c w6=>ck (List.length x_7 = 36) (pAgg ⟨b_1,0,none⟩ x_7 w6 fun w7=>gAgg ⟨b_1,0,none⟩ 36 w7 fun x_10=>some (.tuple ⟨[.agg ⟨x_10⟩,.bool c]⟩,w7))))))))):=by kernel_rfl
def Bu1:Cuts:={ globs:=0,loops:=[],regs:=[],plans:=[] }
def Dn3:List Item:=A5 Tryz.f200
theorem E27 (C:A1) (R:A2) (c:Int) (h:H) :
 A4 PR Bu1 C R Ac3 Tryz.f200 100000 true Dn3 [(0,.int .u8 c)] h =
 some (.bool (c != 0),h):=by kernel_rfl
def Bo9:Cuts:={ globs:=0,loops:=[],regs:=[],plans:=[] }
def Dd7:List Item:=A5 Tryz.f203
theorem Eu1 (C:A1) (R:A2) (s:Option Addr) (env:Int) (name:Int) (h:H) :
 A4 PR Bo9 C R Aq1 Tryz.f203 100000 true Dd7 [(0,.pointer s),(1,.int .i64 env),(2,.int .i64 name)] h =
 nw (.cells N6 false [.int .i64 0,.int .i64 0,.int .i64 0,.int .i64 0,.int .i64 0,.int .i64 0]) h fun b w=>bnd (C Ac8 [.pointer s,.int .i64 env] w) fun r w1=>aBool r fun x=>cond (!x)
 (pAgg ⟨b,0,none⟩ [.int .i64 0,.int .i64 0,.int .i64 0,.int .i64 0,.int .i64 0,.int .i64 0] w1 fun w2=>gAgg ⟨b,0,none⟩ 6 w2 fun x_1=>some (.tuple ⟨[.agg ⟨x_1⟩,.int .i64 2]⟩,w2))
 (aSome s fun p=>gSl (Addr.add p 0) w1 fun x_2 xn _=>aSome x_2 fun p_1=>ck ((0:Int) ≤ env ∧ env < ((xn:Nat):Int)) (gPtr (Addr.add (B0 p_1) (Int.toNat env * 1)) w1 fun x_3=>bnd (C Z9 [.pointer x_3,.int .i64 name] w1) fun r_1 w3=>as2 r_1 fun r_2 r_3=>aAgg r_2 fun x_4=>aBool r_3 fun x_5=>nw (.cells N6 false [.int .i64 0,.int .i64 0,.int .i64 0,.int .i64 0,.int .i64 0,.int .i64 0]) w3 fun b_1 w4=>ck (List.length x_4 = 6) (pAgg ⟨b_1,0,none⟩ x_4 w4 fun w5=>cond (!x_5)
 (pAgg ⟨b,0,none⟩ [.int .i64 0,.int .i64 0,.int .i64 0,.int .i64 0,.int .i64 0,.int .i64 0] w5 fun w6=>gAgg ⟨b,0,none⟩ 6 w6 fun x_6=>some (.tuple ⟨[.agg ⟨x_6⟩,.int .i64 2]⟩,w6))
 (gAgg ⟨b_1,0,none⟩ 6 w5 fun x_7=>ck (List.length x_7 = 6) (pAgg ⟨b,0,none⟩ x_7 w5 fun w7=>gAgg ⟨b,0,none⟩ 6 w7 fun x_8=>some (.tuple ⟨[.agg ⟨x_8⟩,.int .i64 0]⟩,w7)))))):=by kernel_rfl
def A45:Cuts:={ globs:=0,loops:=[],regs:=[],plans:=[] }
def Bq7:List Item:=A5 Tryz.f214
theorem D15 (C:A1) (R:A2) (size:Int) (put:Value) (get:Value) (h:H) :
 A4 PR A45 C R An0 Tryz.f214 100000 true Bq7 [(0,.int .i64 size),(1,put),(2,get)] h =
 one put (one get (nw (.cells Ag7 false [.int .i64 (mm2 false (mm2 true size 0) 64),put,get]) h fun b w=>some (.pointer (some ⟨b,0,none⟩),w))):=by kernel_rfl
def Dq1:Cuts:={ globs:=0,loops:=[],regs:=[],plans:=[] }
def Eq5:List Item:=A5 Tryz.f215
theorem G10 (C:A1) (R:A2) (f:List Value) (b:Option Addr) (bn bc:Nat) (h:H) :
 A4 PR Dq1 C R An7 Tryz.f215 100000 true Eq5 [(0,.agg ⟨f⟩),(1,.slice b bn bc)] h =
 nw (.cells H7 false f) h fun b_1 w=>gAgg ⟨b_1,0,none⟩ 4 w fun x=>bnd (C Dc8 [.agg ⟨x⟩] w) fun r w1=>aBool r fun x_1=>cond (!x_1)
 (some (.bool false,w1))
 (gInt .i64 (Addr.add ⟨b_1,0,none⟩ 0) w1 fun x_2=>gInt .i64 (Addr.add ⟨b_1,0,none⟩ 1) w1 fun x_3=>gInt .i64 (Addr.add ⟨b_1,0,none⟩ 2) w1 fun x_4=>gInt .i64 (Addr.add ⟨b_1,0,none⟩ 3) w1 fun x_5=>nw (.cells A3 false [.int .u8 (IntKind.wrap .u8 (x_2)),.int .u8 (IntKind.wrap .u8 (x_3)),.int .u8 (IntKind.wrap .u8 (x_4)),.int .u8 (IntKind.wrap .u8 (x_5)),.int .u8 179]) w1 fun b_2 w2=>gCells (some ⟨b_2,0,none⟩) (min 5 bn * 1) w2 fun cs=>pCells b cs w2 fun w3=>ckB (fitsOpen b A3 w3) (ck ((0:Int) ≤ 5 ∧ 5 ≤ ((bc:Nat):Int)) (bnd (C W7 [.slice (G9 b (decide (0 < bc)) (0 * 1)) ((Int.toNat 5) - 0) (bc - 0)] w3) fun r_1 w4=>aInt .u8 r_1 fun x_6=>aSome b fun p=>ck ((0:Int) ≤ 5 ∧ 5 < ((bn:Nat):Int)) (pV (Addr.add (B0 p) (Int.toNat 5 * 1)) (.int .u8 x_6) w4 fun w5=>some (.bool true,w5))))):=by kernel_rfl
def U6:Cuts:={ globs:=0,loops:=[(2,[0,1,7,8])],regs:=[],plans:=[] }
def Ag0:List Item:=A5 Tryz.f217
def J7:List Item:=stk [0,1,0,0,1,4,5] Ag0
theorem A08 (C:A1) (R:A2) (s:Option Addr) (sn sc:Nat) (f:Value) (h:H) :
 A4 PR U6 C R D0 Tryz.f217 100000 true Ag0 [(0,.slice s sn sc),(1,f)] h =
 R D0 J7 [(0,.slice s sn sc),(1,f),(7,.int .i64 ((sn:Nat):Int)),(8,.int .i64 0)] h:=by kernel_rfl
theorem P3 (C:A1) (R:A2) (s:Option Addr) (sn sc:Nat) (f:Value) (x7:Int) (x8:Int) (h:H) :
 A4 PR U6 C R D0 Tryz.f217 100000 true J7 [(0,.slice s sn sc),(1,f),(7,.int .i64 x7),(8,.int .i64 x8)] h =
 cond (decide (x8 < x7))
 (aSome s fun p=>ck ((0:Int) ≤ x8 ∧ x8 < ((sn:Nat):Int)) (gInt .i64 (Addr.add (B0 p) (Int.toNat x8 * 1)) h fun x=>aFn f fun g fi cp=>bnd (C g (fi ++ ([.int .i64 x] ++ cp)) h) fun r w=>aBool r fun x_1=>cond x_1
 (some (.int .i64 x8,w))
 (R D0 J7 [(0,.slice s sn sc),(1,f),(7,.int .i64 x7),(8,.int .i64 (IntKind.wrap .i64 (x8 + 1)))] w)))
 (some (.int .i64 (-1),h)):=by kernel_rfl
def Aa2:Cuts:={ globs:=0,loops:=[(2,[0,3,11,12,13])],regs:=[],plans:=[(5,⟨[0,1,2,3,4,5,6,7,8,9,10,11,12,13,14,15,16],[0,1,3,7,0,0,32,96,224,0,0,1535,3583,7679,16383,32767,65535],[],[]⟩)] }
def Ak7:List Item:=A5 Tryz.f218
def U9:List Item:=stk [0,1,0,0,1,4,5] Ak7
theorem Da3 (C:A1) (R:A2) (t:Option Addr) (v:List Value) (h:H) :
 A4 PR Aa2 C R H0 Tryz.f218 100000 true Ak7 [(0,.pointer t),(1,.agg ⟨v⟩)] h =
 nw (.cells N6 false v) h fun b w=>aSome t fun p=>gSl (Addr.add p 0) w fun x xn xc=>R H0 U9 [(0,.pointer t),(3,.pointer (some ⟨b,0,none⟩)),(11,.slice x xn xc),(12,.int .i64 ((xn:Nat):Int)),(13,.int .i64 0)] w:=by kernel_rfl
theorem A18 (C:A1) (R:A2) (t:Option Addr) (v:Addr) (x11:Option Addr) (x11n x11c:Nat) (x12:Int) (x13:Int) (h:H) :
 A4 PR Aa2 C R H0 Tryz.f218 100000 true U9 [(0,.pointer t),(3,.pointer (some v)),(11,.slice x11 x11n x11c),(12,.int .i64 x12),(13,.int .i64 x13)] h =
 cond (decide (x13 < x12))
 (aSome x11 fun p=>ck ((0:Int) ≤ x13 ∧ x13 < ((x11n:Nat):Int)) (gAgg (Addr.add (B0 p) (Int.toNat x13 * 8)) 8 h fun x=>nw (.cells Ai7 false [.int .i64 0,.int .i64 0,.int .i64 0,.int .i64 0,.int .i64 0,.int .i64 0,.int .i64 0,.bool false]) h fun b w=>ck (List.length x = 8) (pAgg ⟨b,0,none⟩ x w fun w1=>gBool (Addr.add ⟨b,0,none⟩ 7) w1 fun x_1=>bnd (cond (!x_1) (gInt .i64 (Addr.add ⟨b,0,none⟩ 6) w1 fun x_2=>some (decide (x_2 ≤ 1000000),w1)) (some (false,w1))) fun c w2=>cond c
 (aSome t fun p_1=>gSl (Addr.add p_1 0) w2 fun x_3 xn _=>aSome t fun p_2=>gSl (Addr.add p_2 0) w2 fun x_4 xn_1 _=>gAgg v 6 w2 fun x_5=>aSome x_3 fun p_3=>ck ((0:Int) ≤ x13 ∧ x13 < ((xn:Nat):Int)) (ck (List.length x_5 = 6) (pAgg (Addr.add (Addr.add (B0 p_3) (Int.toNat x13 * 8)) 0) x_5 w2 fun w3=>aSome x_4 fun p_4=>ck ((0:Int) ≤ x13 ∧ x13 < ((xn_1:Nat):Int)) (pV (Addr.add (Addr.add (B0 p_4) (Int.toNat x13 * 8)) 7) (.bool true) w3 fun w4=>bnd (C L0 [.pointer t,.int .i64 x13] w4) fun r w5=>aInt .i64 r fun x_6=>some (.tuple ⟨[.int .i64 x_6,.bool true]⟩,w5)))))
 (R H0 U9 [(0,.pointer t),(3,.pointer (some v)),(11,.slice x11 x11n x11c),(12,.int .i64 x12),(13,.int .i64 (IntKind.wrap .i64 (x13 + 1)))] w2))))
 (some (.tuple ⟨[.int .i64 0,.bool false]⟩,h)):=by kernel_rfl
def A47:Cuts:={ globs:=0,loops:=[(2,[0,4])],regs:=[],plans:=[] }
def Bo5:List Item:=A5 Tryz.f219
def Ar1:List Item:=stk [0,1,0,0,1,4,5] Bo5
theorem Et5 (C:A1) (R:A2) (n:Option Addr) (h:H) :
 A4 PR A47 C R S7 Tryz.f219 100000 true Bo5 [(0,.pointer n)] h =
 R S7 Ar1 [(0,.pointer n),(4,.int .i64 0)] h:=by kernel_rfl
theorem Bx4 (C:A1) (R:A2) (n:Option Addr) (i:Int) (h:H) :
 A4 PR A47 C R S7 Tryz.f219 100000 true Ar1 [(0,.pointer n),(4,.int .i64 i)] h =
 aSome n fun p=>gSl (Addr.add p 0) h fun _ xn _=>cond (decide (i < ((xn:Nat):Int)))
 (aSome n fun p_1=>gSl (Addr.add p_1 0) h fun x_1 xn_1 _=>aSome x_1 fun p_2=>ck ((0:Int) ≤ i ∧ i < ((xn_1:Nat):Int)) (gBool (Addr.add (Addr.add (B0 p_2) (Int.toNat i * 2)) 1) h fun x_2=>bnd (cond (!x_2) (aSome n fun p_3=>gSl (Addr.add p_3 0) h fun x_3 xn_2 _=>aSome x_3 fun p_4=>ck ((0:Int) ≤ i ∧ i < ((xn_2:Nat):Int)) (gInt .i64 (Addr.add (Addr.add (B0 p_4) (Int.toNat i * 2)) 0) h fun x_4=>some (decide (x_4 ≤ 1000000),h))) (some (false,h))) fun c w=>cond c
 (aSome n fun p_5=>gSl (Addr.add p_5 0) w fun x_5 xn_3 _=>aSome x_5 fun p_6=>ck ((0:Int) ≤ i ∧ i < ((xn_3:Nat):Int)) (pV (Addr.add (Addr.add (B0 p_6) (Int.toNat i * 2)) 1) (.bool true) w fun w1=>aSome n fun p_7=>gSl (Addr.add p_7 0) w1 fun x_6 xn_4 _=>aSome x_6 fun p_8=>ck ((0:Int) ≤ i ∧ i < ((xn_4:Nat):Int)) (gInt .i64 (Addr.add (Addr.add (B0 p_8) (Int.toNat i * 2)) 0) w1 fun x_7=>some (.tuple ⟨[.int .i64 (IntKind.wrap .i64 (i + (IntKind.wrap .i64 (256 * x_7)))),.bool true]⟩,w1))))
 (R S7 Ar1 [(0,.pointer n),(4,.int .i64 (IntKind.wrap .i64 (i + 1)))] w)))
 (some (.tuple ⟨[.int .i64 0,.bool false]⟩,h)):=by kernel_rfl
def Bo6:Cuts:={ globs:=0,loops:=[],regs:=[],plans:=[] }
def Dh5:List Item:=A5 Tryz.f220
theorem Es2 (C:A1) (R:A2) (n:Option Addr) (name:Int) (h:H) :
 A4 PR Bo6 C R A53 Tryz.f220 100000 true Dh5 [(0,.pointer n),(1,.int .i64 name)] h =
 bnd (cond (decide (name ≥ 0)) (aSome n fun p=>gSl (Addr.add p 0) h fun _ xn _=>some (decide ((O4 .i64 name 255) < ((xn:Nat):Int)),h)) (some (false,h))) fun c w=>bnd (cond c (aSome n fun p_1=>gSl (Addr.add p_1 0) w fun x_1 xn_1 _=>aSome x_1 fun p_2=>ck ((0:Int) ≤ O4 .i64 name 255 ∧ O4 .i64 name 255 < ((xn_1:Nat):Int)) (gBool (Addr.add (Addr.add (B0 p_2) (Int.toNat (O4 .i64 name 255) * 2)) 1) w fun x_2=>some (x_2,w))) (some (false,w))) fun c_1 w1=>bnd (cond c_1 (aSome n fun p_3=>gSl (Addr.add p_3 0) w1 fun x_3 xn_2 _=>aSome x_3 fun p_4=>ck ((0:Int) ≤ O4 .i64 name 255 ∧ O4 .i64 name 255 < ((xn_2:Nat):Int)) (gInt .i64 (Addr.add (Addr.add (B0 p_4) (Int.toNat (O4 .i64 name 255) * 2)) 0) w1 fun x_4=>some (x_4 == (Int.fdiv name (2 ^ 8)),w1))) (some (false,w1))) fun c_2 w2=>some (.bool c_2,w2):=by kernel_rfl
def Am7:Cuts:={ globs:=0,loops:=[],regs:=[],plans:=[] }
def Ba5:List Item:=A5 Tryz.f226
theorem Dc5 (C:A1) (R:A2) (t:Option Addr) (name:Int) (h:H) :
 A4 PR Am7 C R Z9 Tryz.f226 100000 true Ba5 [(0,.pointer t),(1,.int .i64 name)] h =
 nw (.cells N6 false [.int .i64 0,.int .i64 0,.int .i64 0,.int .i64 0,.int .i64 0,.int .i64 0]) h fun b w=>bnd (C Ab6 [.pointer t,.int .i64 name] w) fun r w1=>aPtr r fun x=>cond x.isNone
 (nw (.cells N6 false [.int .i64 0,.int .i64 0,.int .i64 0,.int .i64 0,.int .i64 0,.int .i64 0]) w1 fun b_1 w2=>gAgg ⟨b_1,0,none⟩ 6 w2 fun x_1=>ck (List.length x_1 = 6) (pAgg ⟨b,0,none⟩ x_1 w2 fun w3=>gAgg ⟨b,0,none⟩ 6 w3 fun x_2=>some (.tuple ⟨[.agg ⟨x_2⟩,.bool false]⟩,w3)))
 (aSome x fun p=>gAgg (Addr.add p 0) 6 w1 fun x_3=>ck (List.length x_3 = 6) (pAgg ⟨b,0,none⟩ x_3 w1 fun w4=>gAgg ⟨b,0,none⟩ 6 w4 fun x_4=>some (.tuple ⟨[.agg ⟨x_4⟩,.bool true]⟩,w4))):=by kernel_rfl
def Bh8:Cuts:={ globs:=0,loops:=[],regs:=[],plans:=[] }
def B89:List Item:=A5 Tryz.f230
theorem Em2 (C:A1) (R:A2) (s:Option Addr) (who:Int) (stamp:Int) (h:H) :
 A4 PR Bh8 C R Ax9 Tryz.f230 100000 true B89 [(0,.pointer s),(1,.int .i64 who),(2,.int .i64 stamp)] h =
 aSome s fun p=>gBool (Addr.add p 1) h fun x=>bnd (cond x (aSome s fun p_1=>gInt .i64 (Addr.add p_1 2) h fun x_1=>some (x_1 == who,h)) (some (false,h))) fun c w=>bnd (cond c (aSome s fun p_2=>gInt .i64 (Addr.add p_2 3) w fun x_2=>some (x_2 == stamp,w)) (some (false,w))) fun c_1 w1=>some (.bool c_1,w1):=by kernel_rfl
def Df7:Cuts:={ globs:=0,loops:=[],regs:=[],plans:=[] }
def Ei5:List Item:=A5 Tryz.f238
theorem Gr7 (C:A1) (R:A2) (n:Int) (without:Int) (h:H) :
 A4 PR Df7 C R Ah6 Tryz.f238 100000 true Ei5 [(0,.int .i64 n),(1,.int .i64 without)] h =
 bnd (cond ((Eb2 .i64 n 65534) == 0) (some ((O4 .i64 n without) == 0,h)) (some (false,h))) fun c w=>some (.bool c,w):=by kernel_rfl
end
end Go.EQ

set_option maxRecDepth 100000
namespace Go.EQ
open Go Go.NN Go.Proofs
variable (C : A1) (R : A2)
noncomputable section
def Do5:Cuts:={ globs:=0,loops:=[],regs:=[],plans:=[] }
def Eo9:List Item:=A5 Tryz.f35
theorem Gv6 (C:A1) (R:A2) (c:Option Addr) (i:Int) (h:H) :
 A4 PR Do5 C R Bi8 Tryz.f35 100000 true Eo9 [(0,.pointer c),(1,.int .i64 i)] h =
 nw (.cells Ah3 false [.int .i64 0,.int .i64 0,.slice none 0 0,.bool false]) h fun b w=>bnd (C A79 [.pointer c,.int .i64 i] w) fun r w1=>as2 r fun r_1 r_2=>aAgg r_1 fun x=>aInt .i64 r_2 fun x_1=>nw (.cells B9 false [.int .i64 0,.int .i64 0,.int .i64 0,.int .i64 0,.int .i64 0,.int .i64 0,.int .i64 0,.int .i64 0,.int .i64 0,.int .i64 0,.int .i64 0,.int .i64 0,.int .i64 0,.int .i64 0,.int .i64 0,.int .i64 0]) w1 fun b_1 w2=>ck (List.length x = 16) (pAgg ⟨b_1,0,none⟩ x w2 fun w3=>cond (x_1 != 0)
 (bnd (C Ah0 [.int .i64 x_1] w3) fun r_3 w4=>aAgg r_3 fun x_2=>ck (List.length x_2 = 4) (pAgg ⟨b,0,none⟩ x_2 w4 fun w5=>gAgg ⟨b,0,none⟩ 4 w5 fun x_3=>some (.agg ⟨x_3⟩,w5)))
 (bnd (C An9 [.pointer c] w3) fun r_4 w6=>aInt .i64 r_4 fun x_4=>cond (decide (x_4 < 0))
 (bnd (C Ah0 [.int .i64 111] w6) fun r_5 w7=>aAgg r_5 fun x_5=>ck (List.length x_5 = 4) (pAgg ⟨b,0,none⟩ x_5 w7 fun w8=>gAgg ⟨b,0,none⟩ 4 w8 fun x_6=>some (.agg ⟨x_6⟩,w8)))
 (gAgg ⟨b_1,0,none⟩ 16 w6 fun x_7=>bnd (C E3 [.pointer c,.agg ⟨x_7⟩] w6) fun r_6 w9=>aInt .i64 r_6 fun x_8=>cond (x_8 != 0)
 (bnd (C Ah0 [.int .i64 x_8] w9) fun r_7 w10=>aAgg r_7 fun x_9=>ck (List.length x_9 = 4) (pAgg ⟨b,0,none⟩ x_9 w10 fun w11=>gAgg ⟨b,0,none⟩ 4 w11 fun x_10=>some (.agg ⟨x_10⟩,w11)))
 (pV (Addr.add ⟨b_1,0,none⟩ 1) (.int .i64 (IntKind.wrap .i64 (i + 1))) w9 fun w12=>pV (Addr.add ⟨b_1,0,none⟩ 4) (.int .i64 0) w12 fun w13=>gAgg ⟨b_1,0,none⟩ 16 w13 fun x_11=>bnd (C Aa4 [.pointer c,.int .i64 x_4,.agg ⟨x_11⟩] w13) fun r_8 w14=>aBool r_8 fun x_12=>bnd (C Bk2 [.bool x_12,.int .i64 x_4] w14) fun r_9 w15=>aAgg r_9 fun x_13=>ck (List.length x_13 = 4) (pAgg ⟨b,0,none⟩ x_13 w15 fun w16=>gAgg ⟨b,0,none⟩ 4 w16 fun x_14=>some (.agg ⟨x_14⟩,w16)))))):=by kernel_rfl
def Aw1:Cuts:={ globs:=0,loops:=[],regs:=[],plans:=[] }
def Bj0:List Item:=A5 Tryz.f36
theorem Ds4 (C:A1) (R:A2) (c:Option Addr) (i:Int) (h:H) :
 A4 PR Aw1 C R M6 Tryz.f36 100000 true Bj0 [(0,.pointer c),(1,.int .i64 i)] h =
 nw (.cells H7 false [.int .i64 0,.int .i64 0,.int .i64 0,.int .i64 0]) h fun b w=>bnd (C Az7 [.int .i64 i] w) fun r w1=>aAgg r fun x=>bnd (C I0 [.pointer c,.agg ⟨x⟩,.func (.func A13) ⟨[]⟩ ⟨[]⟩] w1) fun r_1 w2=>as2 r_1 fun r_2 r_3=>aAgg r_2 fun x_1=>aInt .i64 r_3 fun x_2=>ck (List.length x_1 = 4) (pAgg ⟨b,0,none⟩ x_1 w2 fun w3=>gAgg ⟨b,0,none⟩ 4 w3 fun x_3=>some (.tuple ⟨[.agg ⟨x_3⟩,.int .i64 x_2]⟩,w3)):=by kernel_rfl
def B70:Cuts:={ globs:=0,loops:=[],regs:=[],plans:=[] }
def D66:List Item:=A5 Tryz.f37
theorem Gh4 (C:A1) (R:A2)  (h:H) :
 A4 PR B70 C R Bl0 Tryz.f37 100000 true D66 [] h =
 bnd (C A70 [] h) fun r w=>aSl r fun x xn xc=>bnd (C Ac0 [.slice x xn xc] w) fun r_1 w1=>as4 r_1 fun r_2 r_3 r_4 r_5=>aPtr r_2 fun _=>aPtr r_3 fun x_2=>aPtr r_4 fun _=>aPtr r_5 fun _=>cond x_2.isNone
 (some (.bool false,w1))
 (bnd (C Ah1 [.pointer x_2,.int .i64 0] w1) fun r_6 w2=>aAgg r_6 fun x_5=>nw (.cells Ah3 false [.int .i64 0,.int .i64 0,.slice none 0 0,.bool false]) w2 fun b w3=>ck (List.length x_5 = 4) (pAgg ⟨b,0,none⟩ x_5 w3 fun w4=>bnd (C Bi8 [.pointer x_2,.int .i64 0] w4) fun r_7 w5=>aAgg r_7 fun x_6=>nw (.cells Ah3 false [.int .i64 0,.int .i64 0,.slice none 0 0,.bool false]) w5 fun b_1 w6=>ck (List.length x_6 = 4) (pAgg ⟨b_1,0,none⟩ x_6 w6 fun w7=>bnd (C Ah1 [.pointer x_2,.int .i64 0] w7) fun r_8 w8=>aAgg r_8 fun x_7=>nw (.cells Ah3 false [.int .i64 0,.int .i64 0,.slice none 0 0,.bool false]) w8 fun b_2 w9=>ck (List.length x_7 = 4) (pAgg ⟨b_2,0,none⟩ x_7 w9 fun w10=>bnd (C A79 [.pointer x_2,.int .i64 1] w10) fun r_9 w11=>as2 r_9 fun r_10 r_11=>aAgg r_10 fun x_8=>aInt .i64 r_11 fun x_9=>nw (.cells B9 false [.int .i64 0,.int .i64 0,.int .i64 0,.int .i64 0,.int .i64 0,.int .i64 0,.int .i64 0,.int .i64 0,.int .i64 0,.int .i64 0,.int .i64 0,.int .i64 0,.int .i64 0,.int .i64 0,.int .i64 0,.int .i64 0]) w11 fun b_3 w12=>ck (List.length x_8 = 16) (pAgg ⟨b_3,0,none⟩ x_8 w12 fun w13=>gInt .i64 (Addr.add ⟨b,0,none⟩ 1) w13 fun x_10=>bnd (cond (x_10 == 110) (gInt .i64 (Addr.add ⟨b_1,0,none⟩ 1) w13 fun x_11=>some (x_11 == 0,w13)) (some (false,w13))) fun c w14=>bnd (cond c (gInt .i64 (Addr.add ⟨b_1,0,none⟩ 0) w14 fun x_12=>some (x_12 == 1,w14)) (some (false,w14))) fun c_1 w15=>bnd (cond c_1 (gBool (Addr.add ⟨b_2,0,none⟩ 3) w15 fun x_13=>some (x_13,w15)) (some (false,w15))) fun c_2 w16=>bnd (cond c_2 (some (x_9 == 0,w16)) (some (false,w16))) fun c_3 w17=>bnd (cond c_3 (gInt .i64 (Addr.add ⟨b_3,0,none⟩ 1) w17 fun x_14=>some (x_14 == 1,w17)) (some (false,w17))) fun c_4 w18=>bnd (cond c_4 (ck ((0:Int) ≤ 0 ∧ 0 < ((8:Nat):Int)) (gInt .i64 (Addr.add (Addr.add ⟨b_3,0,none⟩ 8) (Int.toNat 0 * 1)) w18 fun x_15=>some (x_15 == 1,w18))) (some (false,w18))) fun c_5 w19=>some (.bool c_5,w19)))))):=by kernel_rfl
def Dr5:Cuts:={ globs:=0,loops:=[],regs:=[],plans:=[] }
def Eo3:List Item:=A5 Tryz.f40
theorem Gz4 (C:A1) (R:A2) (c:Option Addr) (i:Int) (h:H) :
 A4 PR Dr5 C R A79 Tryz.f40 100000 true Eo3 [(0,.pointer c),(1,.int .i64 i)] h =
 nw (.cells B9 false [.int .i64 0,.int .i64 0,.int .i64 0,.int .i64 0,.int .i64 0,.int .i64 0,.int .i64 0,.int .i64 0,.int .i64 0,.int .i64 0,.int .i64 0,.int .i64 0,.int .i64 0,.int .i64 0,.int .i64 0,.int .i64 0]) h fun b w=>bnd (C B5 [.pointer c] w) fun r w1=>as0 r (bnd (C L9 [.pointer c,.int .i64 i] w1) fun r_1 w2=>as2 r_1 fun r_2 r_3=>aAgg r_2 fun x=>aInt .i64 r_3 fun x_1=>nw (.cells B9 false [.int .i64 0,.int .i64 0,.int .i64 0,.int .i64 0,.int .i64 0,.int .i64 0,.int .i64 0,.int .i64 0,.int .i64 0,.int .i64 0,.int .i64 0,.int .i64 0,.int .i64 0,.int .i64 0,.int .i64 0,.int .i64 0]) w2 fun b_1 w3=>ck (List.length x = 16) (pAgg ⟨b_1,0,none⟩ x w3 fun w4=>bnd (cond (x_1 != 1) (some (true,w4)) (gInt .i64 (Addr.add ⟨b_1,0,none⟩ 0) w4 fun x_2=>some (x_2 != 1,w4))) fun c_1 w5=>cond c_1
 (pAgg ⟨b,0,none⟩ [.int .i64 0,.int .i64 0,.int .i64 0,.int .i64 0,.int .i64 0,.int .i64 0,.int .i64 0,.int .i64 0,.int .i64 0,.int .i64 0,.int .i64 0,.int .i64 0,.int .i64 0,.int .i64 0,.int .i64 0,.int .i64 0] w5 fun w6=>gAgg ⟨b,0,none⟩ 16 w6 fun x_3=>some (.tuple ⟨[.agg ⟨x_3⟩,.int .i64 105]⟩,w6))
 (gAgg ⟨b_1,0,none⟩ 16 w5 fun x_4=>ck (List.length x_4 = 16) (pAgg ⟨b,0,none⟩ x_4 w5 fun w7=>gAgg ⟨b,0,none⟩ 16 w7 fun x_5=>some (.tuple ⟨[.agg ⟨x_5⟩,.int .i64 0]⟩,w7))))):=by kernel_rfl
def A26:Cuts:={ globs:=0,loops:=[(5,[1,4,20,21,22]),(12,[1,7,58,59,60]),(18,[7,89,90,91]),(22,[7,11,12,89,90,91,122,123,124])],regs:=[],plans:=[(9,⟨[0,1,3,5,6,7,9,10,2,4,8,11,12,13,14],[0,1,3,0,15,0,32,96,255,0,512,2047,4095,8191,16383],[(2,[6,10]),(4,[6,10]),(8,[10])],[]⟩),(10,⟨[0,1,2,3,4,5,6,7,8,9,10,11,12],[0,0,2,6,14,0,32,96,224,510,1023,2047,4095],[],[]⟩),(14,⟨[0,1,2,3,4,5,6,7,8,9,10,11],[0,0,2,6,14,0,32,96,254,511,1023,2047],[(6,[4])],[]⟩),(15,⟨[0,1,2,3,4,5,6,7,8,9,10,11,12],[0,0,2,6,14,0,32,96,224,510,1023,2047,4095],[(7,[4])],[]⟩),(20,⟨[0,1,2,3,4,5,6,7,8,9,11,12,15,16,18,19,10,13,14,17,20,21,22,23,24,25],[0,1,3,7,0,16,48,112,0,256,1008,0,2048,8176,16368,0,32768,131056,0,262144,1048575,2097151,4194303,4194303,8388607,33554431],[(10,[3,12,16,19])],[]⟩),(25,⟨[0,1,2,3,4,5,6,7,8,9],[0,1,3,7,0,0,0,64,224,511],[],[]⟩)] }
def Bf4:List Item:=A5 Tryz.f51
def Bk9:List Item:=stk [0,1,0,1,0,1,0,0,1,4,5] Bf4
def Bl9:List Item:=stk [0,1,0,1,0,1,0,1,0,1,0,1,0,0,1,4,5] Bf4
def A57:List Item:=stk [0,1,0,1,0,1,0,1,0,1,0,1,0,1,0,0,1,4,5] Bf4
def A59:List Item:=stk [0,1,0,1,0,1,0,1,0,1,0,1,0,1,0,0,1,4,5,6,0,1,0,1,0,4,0,1,0,1,0,1,4,5] Bf4
theorem G95 (C:A1) (R:A2) (c:List Value) (h:H) :
 A4 PR A26 C R G7 Tryz.f51 100000 true Bf4 [(0,.agg ⟨c⟩)] h =
 nw (.cells D3 false c) h fun b w=>gAgg ⟨b,0,none⟩ 5 w fun x=>bnd (C P1 [.agg ⟨x⟩] w) fun r w1=>aBool r fun x_1=>cond (!x_1)
 (some (.tuple ⟨[.pointer none,.int .i64 1]⟩,w1))
 (gSl (Addr.add ⟨b,0,none⟩ 0) w1 fun x_2 xn xc=>R G7 Bk9 [(1,.pointer (some ⟨b,0,none⟩)),(4,.int .i64 0),(20,.slice x_2 xn xc),(21,.int .i64 ((xn:Nat):Int)),(22,.int .i64 0)] w1):=by kernel_rfl
theorem D63 (C:A1) (R:A2) (c:Addr) (all:Int) (x20:Option Addr) (x20n x20c:Nat) (x21:Int) (x22:Int) (h:H) :
 A4 PR A26 C R G7 Tryz.f51 100000 true Bk9 [(1,.pointer (some c)),(4,.int .i64 all),(20,.slice x20 x20n x20c),(21,.int .i64 x21),(22,.int .i64 x22)] h =
 cond (decide (x22 < x21))
 (aSome x20 fun p=>ck ((0:Int) ≤ x22 ∧ x22 < ((x20n:Nat):Int)) (gInt .i64 (Addr.add (B0 p) (Int.toNat x22 * 1)) h fun x=>bnd (C A75 [.int .i64 x] h) fun r w=>aInt .i64 r fun x_1=>R G7 Bk9 [(1,.pointer (some c)),(4,.int .i64 (IntKind.wrap .i64 (all + x_1))),(20,.slice x20 x20n x20c),(21,.int .i64 x21),(22,.int .i64 (IntKind.wrap .i64 (x22 + 1)))] w))
 (gSl (Addr.add c 1) h fun x_2 xn xc=>gSl (Addr.add c 1) h fun x_3 xn_1 xc_1=>gSl (Addr.add c 0) h fun x_4 xn_2 xc_2=>bnd (C U0 [.slice x_2 xn xc] h) fun r_1 w1=>aSl r_1 fun x_5 xn_3 xc_3=>gSl (Addr.add c 1) w1 fun x_6 xn_4 xc_4=>same (.slice x_3 xn_1 xc_1) (.slice x_6 xn_4 xc_4) (gSl (Addr.add c 0) w1 fun x_7 xn_5 xc_5=>same (.slice x_4 xn_2 xc_2) (.slice x_7 xn_5 xc_5) (bnd (C Dk8 [.int .i64 all] w1) fun r_2 w2=>aPtr r_2 fun x_8=>gSl (Addr.add c 1) w2 fun x_9 xn_6 xc_6=>same (.slice x_3 xn_1 xc_1) (.slice x_9 xn_6 xc_6) (gSl (Addr.add c 0) w2 fun x_10 xn_7 xc_7=>same (.slice x_4 xn_2 xc_2) (.slice x_10 xn_7 xc_7) (bnd (C At3 [.int .i64 ((xn_1:Nat):Int)] w2) fun r_3 w3=>aPtr r_3 fun x_11=>gSl (Addr.add c 0) w3 fun x_12 xn_8 xc_8=>same (.slice x_4 xn_2 xc_2) (.slice x_12 xn_8 xc_8) (bnd (C Ao0 [.slice x_4 xn_2 xc_2] w3) fun r_4 w4=>aPtr r_4 fun x_13=>nw (.cells B15 false [.slice x_5 xn_3 xc_3,.slice none 0 0,.pointer x_8,.pointer x_11,.pointer x_13,.pointer none,.slice none 0 0,.int .i64 0]) w4 fun b w5=>gPtr (Addr.add ⟨b,0,none⟩ 2) w5 fun x_14=>gPtr (Addr.add ⟨b,0,none⟩ 3) w5 fun x_15=>bnd (C Bv1 [.pointer x_14,.pointer x_15] w5) fun r_5 w6=>aPtr r_5 fun x_16=>pV (Addr.add ⟨b,0,none⟩ 5) (.pointer x_16) w6 fun w7=>gSl (Addr.add c 2) w7 fun x_17 xn_9 xc_9=>R G7 Bl9 [(1,.pointer (some c)),(7,.pointer (some ⟨b,0,none⟩)),(58,.slice x_17 xn_9 xc_9),(59,.int .i64 ((xn_9:Nat):Int)),(60,.int .i64 0)] w7)))))):=by kernel_rfl
theorem D62 (C:A1) (R:A2) (c:Addr) (k:Addr) (x58:Option Addr) (x58n x58c:Nat) (x59:Int) (x60:Int) (h:H) :
 A4 PR A26 C R G7 Tryz.f51 100000 true Bl9 [(1,.pointer (some c)),(7,.pointer (some k)),(58,.slice x58 x58n x58c),(59,.int .i64 x59),(60,.int .i64 x60)] h =
 cond (decide (x60 < x59))
 (aSome x58 fun p=>ck ((0:Int) ≤ x60 ∧ x60 < ((x58n:Nat):Int)) (gSl (Addr.add (B0 p) (Int.toNat x60 * 1)) h fun x xn xc=>gSl (Addr.add k 1) h fun x_1 xn_1 xc_1=>bnd (C U0 [.slice x xn xc] h) fun r w=>aSl r fun x_2 xn_2 xc_2=>gSl (Addr.add k 1) w fun x_3 xn_3 xc_3=>same (.slice x_1 xn_1 xc_1) (.slice x_3 xn_3 xc_3) (nw (.cells N0 false [.slice x_2 xn_2 xc_2]) w fun b w1=>gCells (some ⟨b,0,none⟩) (1 * 1) w1 fun cs=>ckB (fitsOpen x_1 N0 w1) (apd N0 1 x_1 xn_1 xc_1 1 cs w1 fun a an ac w2=>pV (Addr.add k 1) (.slice a an ac) w2 fun w3=>gSl (Addr.add k 6) w3 fun x_4 xn_4 xc_4=>gInt .i64 (Addr.add c 3) w3 fun x_5=>bnd (C Da7 [.int .i64 x_5] w3) fun r_1 w4=>aPtr r_1 fun x_6=>gSl (Addr.add k 6) w4 fun x_7 xn_5 xc_5=>same (.slice x_4 xn_4 xc_4) (.slice x_7 xn_5 xc_5) (nw (.cells As3 false [.pointer x_6]) w4 fun b_1 w5=>gCells (some ⟨b_1,0,none⟩) (1 * 1) w5 fun cs_1=>ckB (fitsOpen x_4 As3 w5) (apd As3 1 x_4 xn_4 xc_4 1 cs_1 w5 fun a_1 an_1 ac_1 w6=>pV (Addr.add k 6) (.slice a_1 an_1 ac_1) w6 fun w7=>R G7 Bl9 [(1,.pointer (some c)),(7,.pointer (some k)),(58,.slice x58 x58n x58c),(59,.int .i64 x59),(60,.int .i64 (IntKind.wrap .i64 (x60 + 1)))] w7))))))
 (gSl (Addr.add c 4) h fun x_8 xn_6 xc_6=>R G7 A57 [(7,.pointer (some k)),(89,.slice x_8 xn_6 xc_6),(90,.int .i64 ((xn_6:Nat):Int)),(91,.int .i64 0)] h):=by kernel_rfl
theorem D58 (C:A1) (R:A2) (k:Addr) (x89:Option Addr) (x89n x89c:Nat) (x90:Int) (x91:Int) (h:H) :
 A4 PR A26 C R G7 Tryz.f51 100000 true A57 [(7,.pointer (some k)),(89,.slice x89 x89n x89c),(90,.int .i64 x90),(91,.int .i64 x91)] h =
 cond (decide (x91 < x90))
 (aSome x89 fun p=>ck ((0:Int) ≤ x91 ∧ x91 < ((x89n:Nat):Int)) (gAgg (Addr.add (B0 p) (Int.toNat x91 * 5)) 5 h fun x=>nw (.cells H4 false [.int .i64 0,.int .i64 0,.int .i64 0,.int .i64 0,.slice none 0 0]) h fun b w=>ck (List.length x = 5) (pAgg ⟨b,0,none⟩ x w fun w1=>gPtr (Addr.add k 5) w1 fun x_1=>gPtr (Addr.add k 4) w1 fun x_2=>gInt .i64 (Addr.add ⟨b,0,none⟩ 0) w1 fun x_3=>gInt .i64 (Addr.add ⟨b,0,none⟩ 1) w1 fun x_4=>gInt .i64 (Addr.add ⟨b,0,none⟩ 2) w1 fun x_5=>gInt .i64 (Addr.add ⟨b,0,none⟩ 3) w1 fun x_6=>bnd (C N5 [.pointer x_2,.int .i64 x_3] w1) fun r w2=>aInt .i64 r fun x_7=>gPtr (Addr.add k 5) w2 fun x_8=>same (.pointer x_1) (.pointer x_8) (gInt .i64 (Addr.add ⟨b,0,none⟩ 1) w2 fun x_9=>same (.int .i64 x_4) (.int .i64 x_9) (gInt .i64 (Addr.add ⟨b,0,none⟩ 2) w2 fun x_10=>same (.int .i64 x_5) (.int .i64 x_10) (gInt .i64 (Addr.add ⟨b,0,none⟩ 3) w2 fun x_11=>same (.int .i64 x_6) (.int .i64 x_11) (bnd (C Ak5 [.pointer x_1,.int .i64 (IntKind.wrap .i64 ((IntKind.wrap .i64 ((IntKind.wrap .i64 (x_7 + x_4)) * 64)) + x_5)),.int .i64 x_6] w2) fun r_1 w3=>as2 r_1 fun r_2 r_3=>aInt .i64 r_2 fun x_12=>aInt .i64 r_3 fun _=>gSl (Addr.add k 0) w3 fun x_14 xn xc=>R G7 A59 [(7,.pointer (some k)),(11,.pointer (some ⟨b,0,none⟩)),(12,.int .i64 x_12),(89,.slice x89 x89n x89c),(90,.int .i64 x90),(91,.int .i64 x91),(122,.slice x_14 xn xc),(123,.int .i64 ((xn:Nat):Int)),(124,.int .i64 0)] w3)))))))
 (some (.tuple ⟨[.pointer (some k),.int .i64 0]⟩,h)):=by kernel_rfl
theorem D56 (C:A1) (R:A2) (k:Addr) (x:Addr) (obj:Int) (x89:Option Addr) (x89n x89c:Nat) (x90:Int) (x91:Int) (x122:Option Addr) (x122n x122c:Nat) (x123:Int) (x124:Int) (h:H) :
 A4 PR A26 C R G7 Tryz.f51 100000 true A59 [(7,.pointer (some k)),(11,.pointer (some x)),(12,.int .i64 obj),(89,.slice x89 x89n x89c),(90,.int .i64 x90),(91,.int .i64 x91),(122,.slice x122 x122n x122c),(123,.int .i64 x123),(124,.int .i64 x124)] h =
 cond (decide (x124 < x123))
 (aSome x122 fun p=>ck ((0:Int) ≤ x124 ∧ x124 < ((x122n:Nat):Int)) (gInt .i64 (Addr.add (B0 p) (Int.toNat x124 * 1)) h fun x_1=>gSl (Addr.add x 4) h fun x_2 xn xc=>bnd (C J4 [.slice x_2 xn xc,.int .i64 x_1] h) fun r w=>aBool r fun x_3=>cond x_3
 (gPtr (Addr.add k 3) w fun x_4=>gInt .i64 (Addr.add x 3) w fun x_5=>bnd (C A28 [.pointer x_4,.int .i64 x124,.agg ⟨[.int .i64 obj,.int .i64 3,.int .i64 0,.int .i64 x_5,.int .i64 0,.int .i64 0]⟩] w) fun r_1 w1=>as2 r_1 fun r_2 r_3=>aInt .i64 r_2 fun _=>aInt .i64 r_3 fun _=>R G7 A59 [(7,.pointer (some k)),(11,.pointer (some x)),(12,.int .i64 obj),(89,.slice x89 x89n x89c),(90,.int .i64 x90),(91,.int .i64 x91),(122,.slice x122 x122n x122c),(123,.int .i64 x123),(124,.int .i64 (IntKind.wrap .i64 (x124 + 1)))] w1)
 (R G7 A59 [(7,.pointer (some k)),(11,.pointer (some x)),(12,.int .i64 obj),(89,.slice x89 x89n x89c),(90,.int .i64 x90),(91,.int .i64 x91),(122,.slice x122 x122n x122c),(123,.int .i64 x123),(124,.int .i64 (IntKind.wrap .i64 (x124 + 1)))] w)))
 (R G7 A57 [(7,.pointer (some k)),(89,.slice x89 x89n x89c),(90,.int .i64 x90),(91,.int .i64 (IntKind.wrap .i64 (x91 + 1)))] h):=by kernel_rfl
def Ao7:Cuts:={ globs:=0,loops:=[(4,[1,3,4]),(8,[1,3,5]),(13,[1,3,5,6,7,9])],regs:=[],plans:=[(1,⟨[0,1,2,3,4,5,6],[0,0,2,6,15,31,63],[(3,[0])],[]⟩),(2,⟨[0,1,2,3,4,5,6,7,11,12,13,8,9,10,14,15,16,17,18,19],[0,0,2,6,14,0,32,96,254,510,1022,0,2048,6144,14846,32766,65534,131071,262143,524287],[(8,[12])],[]⟩),(6,⟨[0,1,2,3,4,5,6,7,8,9,10,11,12],[0,0,2,6,14,0,32,96,224,510,1023,2047,4095],[(7,[4])],[]⟩),(11,⟨[0,1,2,3,4,5,6,7,8,9,11,12,15,16,18,19,10,13,14,17,20,21,22,23,24,25],[0,1,3,7,0,16,48,112,0,256,1008,0,2048,8176,16368,0,32768,131056,0,262144,1048575,2097151,4194303,4194303,8388607,33554431],[(10,[3,12,16,19])],[]⟩),(15,⟨[0,1,2,3,4,5,6,7],[0,1,0,4,0,28,60,127],[],[]⟩),(16,⟨[0,1,2,3,4,5,6,7,8,9,10,11,12],[0,1,3,7,15,31,63,0,0,0,512,1792,4095],[],[]⟩)] }
def Az9:List Item:=A5 Tryz.f52
def Ay7:List Item:=stk [0,1,0,1,0,1,0,0,1,4,5] Az9
def Aj9:List Item:=stk [0,1,0,1,0,1,0,1,0,0,1,4,5] Az9
def Ak2:List Item:=stk [0,1,0,1,0,1,0,1,0,0,1,4,5,6,0,1,0,4,0,1,0,1,0,1,4,5] Az9
theorem E83 (C:A1) (R:A2) (b:List Value) (h:H) :
 A4 PR Ao7 C R E2 Tryz.f52 100000 true Az9 [(0,.agg ⟨b⟩)] h =
 nw (.cells D3 false b) h fun b_1 w=>gAgg ⟨b_1,0,none⟩ 5 w fun x=>gSl (Addr.add ⟨b_1,0,none⟩ 0) w fun x_1 xn xc=>bnd (C W0 [.slice x_1 xn xc] w) fun r w1=>aPtr r fun x_2=>gAgg ⟨b_1,0,none⟩ 5 w1 fun x_3=>same (.agg ⟨x⟩) (.agg ⟨x_3⟩) (ck (List.length x = 5) (nw (.cells Eo6 false (x ++ (.pointer x_2 :: (.pointer none :: (.slice none 0 0 :: [.int .i64 0]))))) w1 fun b_2 w2=>gPtr (Addr.add ⟨b_2,0,none⟩ 5) w2 fun x_4=>gSl (Addr.add ⟨b_1,0,none⟩ 0) w2 fun _ xn_1 _=>gSl (Addr.add ⟨b_1,0,none⟩ 1) w2 fun x_6 xn_2 xc_2=>bnd (C L1 [.pointer x_4,.int .i64 ((xn_1:Nat):Int)] w2) fun r_1 w3=>aInt .i64 r_1 fun x_7=>gSl (Addr.add ⟨b_1,0,none⟩ 1) w3 fun x_8 xn_3 xc_3=>same (.slice x_6 xn_2 xc_2) (.slice x_8 xn_3 xc_3) (ck ((0:Int) ≤ IntKind.wrap .i64 (64 * x_7) ∧ (IntKind.wrap .i64 (64 * x_7):Int) ≤ IntKind.wrap .i64 (64 * x_7) ∧ IntKind.wrap .i64 (64 * x_7) ≤ (A8:Int)) (nw (.cells A3 false (G3 (Int.toNat (IntKind.wrap .i64 (64 * x_7))) [.int .u8 0])) w3 fun b_3 w4=>bnd (C V8 [.int .i64 ((xn_2:Nat):Int)] w4) fun r_2 w5=>aPtr r_2 fun x_9=>nw (.cells Dt2 false [.slice (some ⟨b_3,0,none⟩) (Int.toNat (IntKind.wrap .i64 (64 * x_7))) (Int.toNat (IntKind.wrap .i64 (64 * x_7))),.slice none 0 0,.slice none 0 0,.pointer x_9]) w5 fun b_4 w6=>pV (Addr.add ⟨b_2,0,none⟩ 6) (.pointer (some ⟨b_4,0,none⟩)) w6 fun w7=>R E2 Ay7 [(1,.pointer (some ⟨b_1,0,none⟩)),(3,.pointer (some ⟨b_2,0,none⟩)),(4,.int .i64 0)] w7)))):=by kernel_rfl
theorem B88 (C:A1) (R:A2) (b:Addr) (k:Addr) (i:Int) (h:H) :
 A4 PR Ao7 C R E2 Tryz.f52 100000 true Ay7 [(1,.pointer (some b)),(3,.pointer (some k)),(4,.int .i64 i)] h =
 gSl (Addr.add b 2) h fun _ xn _=>cond (decide (i < ((xn:Nat):Int)))
 (gSl (Addr.add k 7) h fun x_1 xn_1 xc_1=>gInt .i64 (Addr.add b 3) h fun x_2=>bnd (C Be4 [.int .i64 x_2] h) fun r w=>aPtr r fun x_3=>gSl (Addr.add k 7) w fun x_4 xn_2 xc_2=>same (.slice x_1 xn_1 xc_1) (.slice x_4 xn_2 xc_2) (nw (.cells A63 false [.pointer x_3]) w fun b_1 w1=>gCells (some ⟨b_1,0,none⟩) (1 * 1) w1 fun cs=>ckB (fitsOpen x_1 A63 w1) (apd A63 1 x_1 xn_1 xc_1 1 cs w1 fun a an ac w2=>pV (Addr.add k 7) (.slice a an ac) w2 fun w3=>R E2 Ay7 [(1,.pointer (some b)),(3,.pointer (some k)),(4,.int .i64 (IntKind.wrap .i64 (i + 1)))] w3)))
 (R E2 Aj9 [(1,.pointer (some b)),(3,.pointer (some k)),(5,.int .i64 0)] h):=by kernel_rfl
theorem B86 (C:A1) (R:A2) (b:Addr) (k:Addr) (i:Int) (h:H) :
 A4 PR Ao7 C R E2 Tryz.f52 100000 true Aj9 [(1,.pointer (some b)),(3,.pointer (some k)),(5,.int .i64 i)] h =
 gSl (Addr.add b 4) h fun _ xn _=>cond (decide (i < ((xn:Nat):Int)))
 (gSl (Addr.add b 4) h fun x_1 xn_1 _=>aSome x_1 fun p=>ck ((0:Int) ≤ i ∧ i < ((xn_1:Nat):Int)) (gAgg (Addr.add (B0 p) (Int.toNat i * 5)) 5 h fun x_2=>nw (.cells H4 false [.int .i64 0,.int .i64 0,.int .i64 0,.int .i64 0,.slice none 0 0]) h fun b_1 w=>ck (List.length x_2 = 5) (pAgg ⟨b_1,0,none⟩ x_2 w fun w1=>gPtr (Addr.add k 6) w1 fun x_3=>gPtr (Addr.add k 5) w1 fun x_4=>gInt .i64 (Addr.add ⟨b_1,0,none⟩ 0) w1 fun x_5=>gInt .i64 (Addr.add ⟨b_1,0,none⟩ 1) w1 fun x_6=>gInt .i64 (Addr.add ⟨b_1,0,none⟩ 2) w1 fun x_7=>gInt .i64 (Addr.add ⟨b_1,0,none⟩ 3) w1 fun x_8=>bnd (C L1 [.pointer x_4,.int .i64 x_5] w1) fun r w2=>aInt .i64 r fun x_9=>gPtr (Addr.add k 6) w2 fun x_10=>same (.pointer x_3) (.pointer x_10) (gInt .i64 (Addr.add ⟨b_1,0,none⟩ 1) w2 fun x_11=>same (.int .i64 x_6) (.int .i64 x_11) (gInt .i64 (Addr.add ⟨b_1,0,none⟩ 2) w2 fun x_12=>same (.int .i64 x_7) (.int .i64 x_12) (gInt .i64 (Addr.add ⟨b_1,0,none⟩ 3) w2 fun x_13=>same (.int .i64 x_8) (.int .i64 x_13) (bnd (C Au6 [.pointer x_3,.int .i64 (IntKind.wrap .i64 ((IntKind.wrap .i64 (64 * (IntKind.wrap .i64 (x_9 + x_6)))) + x_7)),.int .i64 x_8] w2) fun r_1 w3=>as2 r_1 fun r_2 r_3=>aInt .i64 r_2 fun x_14=>aInt .i64 r_3 fun _=>R E2 Ak2 [(1,.pointer (some b)),(3,.pointer (some k)),(5,.int .i64 i),(6,.pointer (some ⟨b_1,0,none⟩)),(7,.int .i64 x_14),(9,.int .i64 0)] w3)))))))
 (some (.pointer (some k),h)):=by kernel_rfl
theorem B84 (C:A1) (R:A2) (b:Addr) (k:Addr) (i:Int) (s:Addr) (obj:Int) (e:Int) (h:H) :
 A4 PR Ao7 C R E2 Tryz.f52 100000 true Ak2 [(1,.pointer (some b)),(3,.pointer (some k)),(5,.int .i64 i),(6,.pointer (some s)),(7,.int .i64 obj),(9,.int .i64 e)] h =
 gSl (Addr.add b 1) h fun _ xn _=>cond (decide (e < ((xn:Nat):Int)))
 (gSl (Addr.add s 4) h fun x_1 xn_1 xc_1=>gSl (Addr.add b 1) h fun x_2 xn_2 _=>aSome x_2 fun p=>ck ((0:Int) ≤ e ∧ e < ((xn_2:Nat):Int)) (gInt .i64 (Addr.add (B0 p) (Int.toNat e * 1)) h fun x_3=>bnd (C A21 [.slice x_1 xn_1 xc_1,.int .i64 x_3] h) fun r w=>aBool r fun x_4=>cond x_4
 (gPtr (Addr.add k 6) w fun x_5=>aSome x_5 fun p_1=>gPtr (Addr.add p_1 3) w fun x_6=>gInt .i64 (Addr.add s 3) w fun x_7=>bnd (C A33 [.pointer x_6,.int .i64 e,.agg ⟨[.int .i64 obj,.int .i64 3,.int .i64 0,.int .i64 x_7,.int .i64 0,.int .i64 0]⟩] w) fun r_1 w1=>as2 r_1 fun r_2 r_3=>aInt .i64 r_2 fun _=>aInt .i64 r_3 fun _=>R E2 Ak2 [(1,.pointer (some b)),(3,.pointer (some k)),(5,.int .i64 i),(6,.pointer (some s)),(7,.int .i64 obj),(9,.int .i64 (IntKind.wrap .i64 (e + 1)))] w1)
 (R E2 Ak2 [(1,.pointer (some b)),(3,.pointer (some k)),(5,.int .i64 i),(6,.pointer (some s)),(7,.int .i64 obj),(9,.int .i64 (IntKind.wrap .i64 (e + 1)))] w)))
 (R E2 Aj9 [(1,.pointer (some b)),(3,.pointer (some k)),(5,.int .i64 (IntKind.wrap .i64 (i + 1)))] h):=by kernel_rfl
def Bb0:Cuts:={ globs:=0,loops:=[],regs:=[],plans:=[] }
def B33:List Item:=A5 Tryz.f55
theorem Ed9 (C:A1) (R:A2) (k:Option Addr) (env:Int) (h:H) :
 A4 PR Bb0 C R Av7 Tryz.f55 100000 true B33 [(0,.pointer k),(1,.int .i64 env)] h =
 aSome k fun p=>gPtr (Addr.add p 6) h fun x=>aSome x fun p_1=>gPtr (Addr.add p_1 3) h fun x_1=>bnd (C A25 [.pointer x_1,.int .i64 env] h) fun r w=>aSl r fun x_2 xn xc=>cond (((xn:Nat):Int) == 0)
 (some (.pointer none,w))
 (nw (.cells Dm4 false [.pointer k,.int .i64 env,.slice x_2 xn xc,.slice none 0 0]) w fun b w1=>some (.pointer (some ⟨b,0,none⟩),w1)):=by kernel_rfl
def Bh5:Cuts:={ globs:=0,loops:=[],regs:=[],plans:=[] }
def B93:List Item:=A5 Tryz.f56
theorem En2 (C:A1) (R:A2) (k:Option Addr) (h:H) :
 A4 PR Bh5 C R Ak1 Tryz.f56 100000 true B93 [(0,.pointer k)] h =
 aSome k fun p=>gPtr (Addr.add p 3) h fun x=>some (.pointer x,h):=by kernel_rfl
def Bb3:Cuts:={ globs:=0,loops:=[],regs:=[],plans:=[] }
def B45:List Item:=A5 Tryz.f57
theorem Eg6 (C:A1) (R:A2) (s:Option Addr) (env:Int) (h:H) :
 A4 PR Bb3 C R Ah7 Tryz.f57 100000 true B45 [(0,.pointer s),(1,.int .i64 env)] h =
 bnd (C Ac8 [.pointer s,.int .i64 env] h) fun r w=>aBool r fun x=>cond (!x)
 (some (.slice none 0 0,w))
 (aSome s fun p=>gSl (Addr.add p 0) w fun x_1 xn _=>aSome x_1 fun p_1=>ck ((0:Int) ≤ env ∧ env < ((xn:Nat):Int)) (gPtr (Addr.add (B0 p_1) (Int.toNat env * 1)) w fun x_2=>bnd (C E0 [.pointer x_2] w) fun r_1 w1=>aSl r_1 fun x_3 xn_1 xc_1=>some (.slice x_3 xn_1 xc_1,w1))):=by kernel_rfl
def Av8:Cuts:={ globs:=0,loops:=[],regs:=[],plans:=[] }
def Bj6:List Item:=A5 Tryz.f63
theorem Dp4 (C:A1) (R:A2) (c:Option Addr) (kind:Int) (h:H) :
 A4 PR Av8 C R W6 Tryz.f63 100000 true Bj6 [(0,.pointer c),(1,.int .i64 kind)] h =
 cond (kind == 1)
 (some (.int .i64 8,h))
 (cond (kind == 2)
 (some (.int .i64 12,h))
 (cond (kind == 3)
 (aSome c fun p=>gSl (Addr.add p 2) h fun _ xn _=>some (.int .i64 (IntKind.wrap .i64 ((IntKind.wrap .i64 (4 + ((xn:Nat):Int))) - 1)),h))
 (some (.int .i64 1,h)))):=by kernel_rfl
def Bd4:Cuts:={ globs:=0,loops:=[],regs:=[],plans:=[(3,⟨[0,1,2,3,4,5,6,7,8,9,10,11,12,13,14,15,16,17,18,19],[0,1,3,7,0,0,32,0,128,0,512,0,2048,0,8192,32767,65535,65535,262143,524287],[],[]⟩),(5,⟨[0,1,2,3,4,5,6,7,8,9,10,11],[0,1,3,7,0,0,32,127,255,255,1023,2047],[],[]⟩),(7,⟨[0,1,2,3,4,5,6,7,8,9,10,11,12,13,14,15],[0,1,3,7,0,16,48,112,0,496,1008,2047,4095,4095,16383,32767],[],[]⟩),(9,⟨[0,1,2,3,4,5,6,7,8,9,10,11,12,13,14,15],[0,1,3,7,0,16,48,112,0,496,1008,0,2048,8191,16383,32767],[],[]⟩)] }
def B38:List Item:=A5 Tryz.f68
theorem D88 (C:A1) (R:A2) (k:Option Addr) (env:Int) (c:List Value) (h:H) :
 A4 PR Bd4 C R As8 Tryz.f68 100000 true B38 [(0,.pointer k),(1,.int .i64 env),(2,.agg ⟨c⟩)] h =
 nw (.cells At9 false c) h fun b w=>gInt .i64 (Addr.add ⟨b,0,none⟩ 0) w fun x=>cond (x == 4)
 (aSome k fun p=>gPtr (Addr.add p 3) w fun x_1=>gInt .i64 (Addr.add ⟨b,0,none⟩ 1) w fun x_2=>gInt .i64 (Addr.add ⟨b,0,none⟩ 4) w fun x_3=>gInt .i64 (Addr.add ⟨b,0,none⟩ 5) w fun x_4=>gInt .i64 (Addr.add ⟨b,0,none⟩ 2) w fun x_5=>gInt .i64 (Addr.add ⟨b,0,none⟩ 3) w fun x_6=>bnd (C Av6 [.pointer x_1,.int .i64 env,.int .i64 x_2,.int .i64 x_3,.int .i64 x_4,.int .i64 x_5,.int .i64 x_6] w) fun r w1=>as2 r fun r_1 r_2=>aInt .i64 r_1 fun x_7=>aInt .i64 r_2 fun x_8=>some (.tuple ⟨[.int .i64 x_7,.int .i64 x_8]⟩,w1))
 (cond (x == 5)
 (aSome k fun p_1=>gPtr (Addr.add p_1 3) w fun x_9=>gInt .i64 (Addr.add ⟨b,0,none⟩ 1) w fun x_10=>bnd (C D83 [.pointer x_9,.int .i64 env,.int .i64 x_10] w) fun r_3 w2=>as2 r_3 fun r_4 r_5=>aInt .i64 r_4 fun x_11=>aInt .i64 r_5 fun x_12=>some (.tuple ⟨[.int .i64 x_11,.int .i64 x_12]⟩,w2))
 (cond (x == 6)
 (aSome k fun p_2=>gPtr (Addr.add p_2 4) w fun x_13=>aSome k fun p_3=>gSl (Addr.add p_3 0) w fun x_14 xn _=>aSome x_14 fun p_4=>ck ((0:Int) ≤ env ∧ env < ((xn:Nat):Int)) (gInt .i64 (Addr.add (B0 p_4) (Int.toNat env * 1)) w fun x_15=>bnd (C Ar0 [.pointer x_13,.int .i64 x_15] w) fun r_6 w3=>as2 r_6 fun r_7 r_8=>aInt .i64 r_7 fun x_16=>aInt .i64 r_8 fun x_17=>some (.tuple ⟨[.int .i64 x_16,.int .i64 x_17]⟩,w3)))
 (cond (x == 7)
 (aSome k fun p_5=>gPtr (Addr.add p_5 4) w fun x_18=>aSome k fun p_6=>gSl (Addr.add p_6 0) w fun x_19 xn_1 _=>aSome x_19 fun p_7=>ck ((0:Int) ≤ env ∧ env < ((xn_1:Nat):Int)) (gInt .i64 (Addr.add (B0 p_7) (Int.toNat env * 1)) w fun x_20=>gInt .i64 (Addr.add ⟨b,0,none⟩ 3) w fun x_21=>bnd (C Au4 [.pointer x_18,.int .i64 x_20,.int .i64 x_21] w) fun r_9 w4=>aInt .i64 r_9 fun x_22=>some (.tuple ⟨[.int .i64 0,.int .i64 x_22]⟩,w4)))
 (cond (x == 8)
 (gAgg ⟨b,0,none⟩ 7 w fun x_23=>bnd (C Ay9 [.pointer k,.int .i64 env,.agg ⟨x_23⟩] w) fun r_10 w5=>as2 r_10 fun r_11 r_12=>aInt .i64 r_11 fun x_24=>aInt .i64 r_12 fun x_25=>some (.tuple ⟨[.int .i64 x_24,.int .i64 x_25]⟩,w5))
 (cond (x == 9)
 (gAgg ⟨b,0,none⟩ 7 w fun x_26=>bnd (C Ay6 [.pointer k,.int .i64 env,.agg ⟨x_26⟩] w) fun r_13 w6=>aInt .i64 r_13 fun x_27=>some (.tuple ⟨[.int .i64 0,.int .i64 x_27]⟩,w6))
 (cond (x == 10)
 (aSome k fun p_8=>gInt .i64 (Addr.add p_8 7) w fun x_28=>some (.tuple ⟨[.int .i64 x_28,.int .i64 0]⟩,w))
 (some (.tuple ⟨[.int .i64 0,.int .i64 7]⟩,w)))))))):=by kernel_rfl
def By6:Cuts:={ globs:=0,loops:=[],regs:=[],plans:=[] }
def Dv3:List Item:=A5 Tryz.f75
theorem E55 (C:A1) (R:A2) (i:Int) (h:H) :
 A4 PR By6 C R Az7 Tryz.f75 100000 true Dv3 [(0,.int .i64 i)] h =
 nw (.cells D1 false [.int .i64 0,.int .i64 0]) h fun b w=>pAgg ⟨b,0,none⟩ [.int .i64 2,.int .i64 i] w fun w1=>gAgg ⟨b,0,none⟩ 2 w1 fun x=>some (.agg ⟨x⟩,w1):=by kernel_rfl
def By9:Cuts:={ globs:=0,loops:=[],regs:=[],plans:=[] }
def Dw1:List Item:=A5 Tryz.f79
theorem E51 (C:A1) (R:A2) (m:Option Addr) (atv:Int) (n:Int) (h:H) :
 A4 PR By9 C R A04 Tryz.f79 100000 true Dw1 [(0,.pointer m),(1,.int .i64 atv),(2,.int .i64 n)] h =
 bnd (C Bd0 [.pointer m,.int .i64 atv,.int .i64 n] h) fun r w=>aBool r fun x=>cond (!x)
 (some (.tuple ⟨[.slice none 0 0,.int .i64 1]⟩,w))
 (aSome m fun p=>gSl (Addr.add p 0) w fun x_1 _ xc=>ckB (fitsOpen x_1 A3 w) (ck ((0:Int) ≤ IntKind.wrap .i64 (atv + n) ∧ IntKind.wrap .i64 (atv + n) ≤ ((xc:Nat):Int)) (ck ((0:Int) ≤ atv ∧ atv ≤ ((Int.toNat (IntKind.wrap .i64 (atv + n)):Nat):Int)) (bnd (C E5 [.slice (G9 x_1 (decide (Int.toNat atv < xc)) ((Int.toNat atv) * 1)) ((Int.toNat (IntKind.wrap .i64 (atv + n))) - (Int.toNat atv)) (xc - (Int.toNat atv))] w) fun r_1 w1=>aSl r_1 fun x_2 xn_1 xc_1=>some (.tuple ⟨[.slice x_2 xn_1 xc_1,.int .i64 0]⟩,w1))))):=by kernel_rfl
def Dp5:Cuts:={ globs:=0,loops:=[],regs:=[],plans:=[] }
def Ep1:List Item:=A5 Tryz.f80
theorem G16 (C:A1) (R:A2) (e:Int) (h:H) :
 A4 PR Dp5 C R Ah0 Tryz.f80 100000 true Ep1 [(0,.int .i64 e)] h =
 nw (.cells Ah3 false [.int .i64 0,.int .i64 0,.slice none 0 0,.bool false]) h fun b w=>pAgg ⟨b,0,none⟩ [.int .i64 0,.int .i64 e,.slice none 0 0,.bool false] w fun w1=>gAgg ⟨b,0,none⟩ 4 w1 fun x=>some (.agg ⟨x⟩,w1):=by kernel_rfl
def A15:Cuts:={ globs:=0,loops:=[(3,[0,3,5,17,18]),(9,[0,5,31,32]),(19,[0,57,58])],regs:=[],plans:=[(15,⟨[0,1,2,3,4,5,6,7,8],[0,1,0,4,12,28,63,127,255],[],[]⟩)] }
def Bc5:List Item:=A5 Tryz.f82
def Av1:List Item:=stk [0,1,0,1,0,0,1,4,5] Bc5
def Ai4:List Item:=stk [0,1,0,1,0,1,0,0,1,4,5] Bc5
def Ai3:List Item:=stk [0,1,0,1,0,1,0,1,0,0,1,4,5] Bc5
theorem Gk1 (C:A1) (R:A2) (c:Option Addr) (p:List Value) (h:H) :
 A4 PR A15 C R E3 Tryz.f82 100000 true Bc5 [(0,.pointer c),(1,.agg ⟨p⟩)] h =
 nw (.cells B9 false p) h fun b w=>nw (.cells Dx2 false [.int .i64 0,.int .i64 0,.int .i64 0,.int .i64 0,.int .i64 0,.int .i64 0,.int .i64 0,.int .i64 0,.int .i64 0,.int .i64 0,.int .i64 0,.int .i64 0]) w fun b_1 w1=>gAgg (Addr.add ⟨b,0,none⟩ 8) 8 w1 fun x=>R E3 Av1 [(0,.pointer c),(3,.pointer (some ⟨b,0,none⟩)),(5,.pointer (some ⟨b_1,0,none⟩)),(17,.agg ⟨x⟩),(18,.int .i64 0)] w1:=by kernel_rfl
theorem Dl1 (C:A1) (R:A2) (c:Option Addr) (p:Addr) (more:Addr) (x17:List Value) (x18:Int) (h:H) :
 A4 PR A15 C R E3 Tryz.f82 100000 true Av1 [(0,.pointer c),(3,.pointer (some p)),(5,.pointer (some more)),(17,.agg ⟨x17⟩),(18,.int .i64 x18)] h =
 cond (decide (x18 < 8))
 (ck ((0:Int) ≤ x18 ∧ x18 < ((8:Nat):Int)) (nth x17 (Int.toNat x18 * 1) fun x=>aInt .i64 x fun x_1=>cond (decide (x_1 > 0))
 (ck ((0:Int) ≤ IntKind.wrap .i64 (x_1 - 1) ∧ IntKind.wrap .i64 (x_1 - 1) < ((12:Nat):Int)) (gInt .i64 (Addr.add more (Int.toNat (IntKind.wrap .i64 (x_1 - 1)) * 1)) h fun x_2=>ck ((0:Int) ≤ IntKind.wrap .i64 (x_1 - 1) ∧ IntKind.wrap .i64 (x_1 - 1) < ((12:Nat):Int)) (pV (Addr.add more (Int.toNat (IntKind.wrap .i64 (x_1 - 1)) * 1)) (.int .i64 (IntKind.wrap .i64 (x_2 + 1))) h fun w=>R E3 Av1 [(0,.pointer c),(3,.pointer (some p)),(5,.pointer (some more)),(17,.agg ⟨x17⟩),(18,.int .i64 (IntKind.wrap .i64 (x18 + 1)))] w)))
 (R E3 Av1 [(0,.pointer c),(3,.pointer (some p)),(5,.pointer (some more)),(17,.agg ⟨x17⟩),(18,.int .i64 (IntKind.wrap .i64 (x18 + 1)))] h)))
 (gAgg (Addr.add p 8) 8 h fun x_3=>R E3 Ai4 [(0,.pointer c),(5,.pointer (some more)),(31,.agg ⟨x_3⟩),(32,.int .i64 0)] h):=by kernel_rfl
theorem Dk4 (C:A1) (R:A2) (c:Option Addr) (more:Addr) (x31:List Value) (x32:Int) (h:H) :
 A4 PR A15 C R E3 Tryz.f82 100000 true Ai4 [(0,.pointer c),(5,.pointer (some more)),(31,.agg ⟨x31⟩),(32,.int .i64 x32)] h =
 cond (decide (x32 < 8))
 (ck ((0:Int) ≤ x32 ∧ x32 < ((8:Nat):Int)) (nth x31 (Int.toNat x32 * 1) fun x=>aInt .i64 x fun x_1=>cond (x_1 == 0)
 (R E3 Ai4 [(0,.pointer c),(5,.pointer (some more)),(31,.agg ⟨x31⟩),(32,.int .i64 (IntKind.wrap .i64 (x32 + 1)))] h)
 (bnd (C M6 [.pointer c,.int .i64 (IntKind.wrap .i64 (x_1 - 1))] h) fun r w=>as2 r fun r_1 r_2=>aAgg r_1 fun x_2=>aInt .i64 r_2 fun x_3=>nw (.cells H7 false [.int .i64 0,.int .i64 0,.int .i64 0,.int .i64 0]) w fun b w1=>ck (List.length x_2 = 4) (pAgg ⟨b,0,none⟩ x_2 w1 fun w2=>cond (x_3 != 1)
 (some (.int .i64 105,w2))
 (gInt .i64 (Addr.add ⟨b,0,none⟩ 2) w2 fun x_4=>ck ((0:Int) ≤ IntKind.wrap .i64 (x_1 - 1) ∧ IntKind.wrap .i64 (x_1 - 1) < ((12:Nat):Int)) (gInt .i64 (Addr.add more (Int.toNat (IntKind.wrap .i64 (x_1 - 1)) * 1)) w2 fun x_5=>cond (decide ((IntKind.wrap .i64 (x_4 + x_5)) > 64))
 (some (.int .i64 123,w2))
 (R E3 Ai4 [(0,.pointer c),(5,.pointer (some more)),(31,.agg ⟨x31⟩),(32,.int .i64 (IntKind.wrap .i64 (x32 + 1)))] w2)))))))
 (gAgg more 12 h fun x_6=>R E3 Ai3 [(0,.pointer c),(57,.agg ⟨x_6⟩),(58,.int .i64 0)] h):=by kernel_rfl
theorem Dm8 (C:A1) (R:A2) (c:Option Addr) (x57:List Value) (x58:Int) (h:H) :
 A4 PR A15 C R E3 Tryz.f82 100000 true Ai3 [(0,.pointer c),(57,.agg ⟨x57⟩),(58,.int .i64 x58)] h =
 cond (decide (x58 < 12))
 (ck ((0:Int) ≤ x58 ∧ x58 < ((12:Nat):Int)) (nth x57 (Int.toNat x58 * 1) fun x=>aInt .i64 x fun x_1=>cond (x_1 == 0)
 (R E3 Ai3 [(0,.pointer c),(57,.agg ⟨x57⟩),(58,.int .i64 (IntKind.wrap .i64 (x58 + 1)))] h)
 (bnd (C M6 [.pointer c,.int .i64 x58] h) fun r w=>as2 r fun r_1 r_2=>aAgg r_1 fun x_2=>aInt .i64 r_2 fun _=>nw (.cells H7 false [.int .i64 0,.int .i64 0,.int .i64 0,.int .i64 0]) w fun b w1=>ck (List.length x_2 = 4) (pAgg ⟨b,0,none⟩ x_2 w1 fun w2=>gInt .i64 (Addr.add ⟨b,0,none⟩ 2) w2 fun x_4=>pV (Addr.add ⟨b,0,none⟩ 2) (.int .i64 (IntKind.wrap .i64 (x_4 + x_1))) w2 fun w3=>gAgg ⟨b,0,none⟩ 4 w3 fun x_5=>bnd (C Aa3 [.pointer c,.int .i64 x58,.agg ⟨x_5⟩] w3) fun r_3 w4=>aBool r_3 fun x_6=>cond (!x_6)
 (some (.int .i64 105,w4))
 (R E3 Ai3 [(0,.pointer c),(57,.agg ⟨x57⟩),(58,.int .i64 (IntKind.wrap .i64 (x58 + 1)))] w4)))))
 (some (.int .i64 0,h)):=by kernel_rfl
def Bc4:Cuts:={ globs:=0,loops:=[(7,[1,3,52,53,54]),(13,[1,3,63,64,65])],regs:=[],plans:=[] }
def Br0:List Item:=A5 Tryz.f110
def Ba7:List Item:=stk [0,1,0,1,0,1,0,1,0,0,1,4,5] Br0
def A98:List Item:=stk [0,1,0,1,0,1,0,1,0,1,0,0,1,4,5] Br0
theorem Gt3 (C:A1) (R:A2) (c:List Value) (h:H) :
 A4 PR Bc4 C R P1 Tryz.f110 100000 true Br0 [(0,.agg ⟨c⟩)] h =
 nw (.cells D3 false c) h fun b w=>gSl (Addr.add ⟨b,0,none⟩ 0) w fun _ xn _=>bnd (cond (decide (((xn:Nat):Int) < 1)) (some (true,w)) (gSl (Addr.add ⟨b,0,none⟩ 0) w fun _ xn_1 _=>some (decide (((xn_1:Nat):Int) > 4),w))) fun c_1 w1=>bnd (cond c_1 (some (true,w1)) (gSl (Addr.add ⟨b,0,none⟩ 1) w1 fun _ xn_2 _=>some (decide (((xn_2:Nat):Int) > 40),w1))) fun c_2 w2=>bnd (cond c_2 (some (true,w2)) (gSl (Addr.add ⟨b,0,none⟩ 2) w2 fun _ xn_3 _=>some (decide (((xn_3:Nat):Int) > 8),w2))) fun c_3 w3=>bnd (cond c_3 (some (true,w3)) (gSl (Addr.add ⟨b,0,none⟩ 4) w3 fun _ xn_4 _=>some (decide (((xn_4:Nat):Int) > 16),w3))) fun c_4 w4=>bnd (cond c_4 (some (true,w4)) (gInt .i64 (Addr.add ⟨b,0,none⟩ 3) w4 fun x_5=>some (decide (x_5 < 1),w4))) fun c_5 w5=>bnd (cond c_5 (some (true,w5)) (gInt .i64 (Addr.add ⟨b,0,none⟩ 3) w5 fun x_6=>some (decide (x_6 > 1000),w5))) fun c_6 w6=>cond c_6
 (some (.bool false,w6))
 (gSl (Addr.add ⟨b,0,none⟩ 1) w6 fun x_7 xn_5 xc_5=>bnd (C D6 [.slice x_7 xn_5 xc_5,.func (.func E7) ⟨[]⟩ ⟨[.pointer (some ⟨b,0,none⟩)]⟩] w6) fun r w7=>aBool r fun x_8=>cond x_8
 (some (.bool false,w7))
 (gSl (Addr.add ⟨b,0,none⟩ 2) w7 fun x_9 xn_6 xc_6=>R P1 Ba7 [(1,.pointer (some ⟨b,0,none⟩)),(3,.func (.func E7) ⟨[]⟩ ⟨[.pointer (some ⟨b,0,none⟩)]⟩),(52,.slice x_9 xn_6 xc_6),(53,.int .i64 ((xn_6:Nat):Int)),(54,.int .i64 0)] w7)):=by kernel_rfl
theorem Dn2 (C:A1) (R:A2) (c:Addr) (nonev:Addr) (x52:Option Addr) (x52n x52c:Nat) (x53:Int) (x54:Int) (h:H) :
 A4 PR Bc4 C R P1 Tryz.f110 100000 true Ba7 [(1,.pointer (some c)),(3,.func (.func E7) ⟨[]⟩ ⟨[.pointer (some nonev)]⟩),(52,.slice x52 x52n x52c),(53,.int .i64 x53),(54,.int .i64 x54)] h =
 cond (decide (x54 < x53))
 (aSome x52 fun p=>ck ((0:Int) ≤ x54 ∧ x54 < ((x52n:Nat):Int)) (gSl (Addr.add (B0 p) (Int.toNat x54 * 1)) h fun x xn xc=>bnd (C D6 [.slice x xn xc,.func (.func E7) ⟨[]⟩ ⟨[.pointer (some nonev)]⟩] h) fun r w=>aBool r fun x_1=>cond x_1
 (some (.bool false,w))
 (R P1 Ba7 [(1,.pointer (some c)),(3,.func (.func E7) ⟨[]⟩ ⟨[.pointer (some nonev)]⟩),(52,.slice x52 x52n x52c),(53,.int .i64 x53),(54,.int .i64 (IntKind.wrap .i64 (x54 + 1)))] w)))
 (gSl (Addr.add c 4) h fun x_2 xn_1 xc_1=>R P1 A98 [(1,.pointer (some c)),(3,.func (.func E7) ⟨[]⟩ ⟨[.pointer (some nonev)]⟩),(63,.slice x_2 xn_1 xc_1),(64,.int .i64 ((xn_1:Nat):Int)),(65,.int .i64 0)] h):=by kernel_rfl
theorem Dl8 (C:A1) (R:A2) (c:Addr) (nonev:Addr) (x63:Option Addr) (x63n x63c:Nat) (x64:Int) (x65:Int) (h:H) :
 A4 PR Bc4 C R P1 Tryz.f110 100000 true A98 [(1,.pointer (some c)),(3,.func (.func E7) ⟨[]⟩ ⟨[.pointer (some nonev)]⟩),(63,.slice x63 x63n x63c),(64,.int .i64 x64),(65,.int .i64 x65)] h =
 cond (decide (x65 < x64))
 (aSome x63 fun p=>ck ((0:Int) ≤ x65 ∧ x65 < ((x63n:Nat):Int)) (gAgg (Addr.add (B0 p) (Int.toNat x65 * 5)) 5 h fun x=>nw (.cells H4 false [.int .i64 0,.int .i64 0,.int .i64 0,.int .i64 0,.slice none 0 0]) h fun b w=>ck (List.length x = 5) (pAgg ⟨b,0,none⟩ x w fun w1=>gAgg c 5 w1 fun x_1=>gAgg ⟨b,0,none⟩ 5 w1 fun x_2=>bnd (C Bt8 [.agg ⟨x_1⟩,.agg ⟨x_2⟩] w1) fun r w2=>aBool r fun x_3=>bnd (cond (!x_3) (some (true,w2)) (gSl (Addr.add ⟨b,0,none⟩ 4) w2 fun x_4 xn xc=>bnd (C D6 [.slice x_4 xn xc,.func (.func E7) ⟨[]⟩ ⟨[.pointer (some nonev)]⟩] w2) fun r_1 w3=>aBool r_1 fun x_5=>some (x_5,w3))) fun c_1 w4=>cond c_1
 (some (.bool false,w4))
 (R P1 A98 [(1,.pointer (some c)),(3,.func (.func E7) ⟨[]⟩ ⟨[.pointer (some nonev)]⟩),(63,.slice x63 x63n x63c),(64,.int .i64 x64),(65,.int .i64 (IntKind.wrap .i64 (x65 + 1)))] w4))))
 (some (.bool true,h)):=by kernel_rfl
def A97:Cuts:={ globs:=0,loops:=[(3,[0,3,4])],regs:=[],plans:=[(5,⟨[0,1,2,3,4,5,6,7,8,9,10,11,12,13,14,15,16],[0,0,2,6,14,0,0,96,224,480,992,2016,4064,8190,16383,32767,65535],[],[]⟩)] }
def Bq5:List Item:=A5 Tryz.f122
def At8:List Item:=stk [0,1,0,1,0,0,1,4,5] Bq5
theorem E33 (C:A1) (R:A2) (l:Option Addr) (ln lc:Nat) (h:H) :
 A4 PR A97 C R W0 Tryz.f122 100000 true Bq5 [(0,.slice l ln lc)] h =
 nw (.cells Ea7 false [.slice none 0 0]) h fun b w=>R W0 At8 [(0,.slice l ln lc),(3,.pointer (some ⟨b,0,none⟩)),(4,.int .i64 0)] w:=by kernel_rfl
theorem B34 (C:A1) (R:A2) (l:Option Addr) (ln lc:Nat) (q:Addr) (i:Int) (h:H) :
 A4 PR A97 C R W0 Tryz.f122 100000 true At8 [(0,.slice l ln lc),(3,.pointer (some q)),(4,.int .i64 i)] h =
 bnd (cond (decide (i < ((ln:Nat):Int))) (some (decide (i < 4),h)) (some (false,h))) fun c w=>cond c
 (gSl (Addr.add q 0) w fun x xn xc=>aSome l fun p=>ck ((0:Int) ≤ i ∧ i < ((ln:Nat):Int)) (gInt .i64 (Addr.add (B0 p) (Int.toNat i * 1)) w fun x_1=>ck ((0:Int) ≤ mm2 false (mm2 true x_1 0) 64 ∧ (mm2 false (mm2 true x_1 0) 64:Int) ≤ mm2 false (mm2 true x_1 0) 64 ∧ mm2 false (mm2 true x_1 0) 64 ≤ (A8:Int)) (nw (.cells E21 false (G3 (Int.toNat (mm2 false (mm2 true x_1 0) 64)) [.bool false])) w fun b w1=>nw (.cells Dg8 false [.slice (some ⟨b,0,none⟩) (Int.toNat (mm2 false (mm2 true x_1 0) 64)) (Int.toNat (mm2 false (mm2 true x_1 0) 64))]) w1 fun b_1 w2=>gCells (some ⟨b_1,0,none⟩) (1 * 1) w2 fun cs=>ckB (fitsOpen x Dg8 w2) (apd Dg8 1 x xn xc 1 cs w2 fun a an ac w3=>pV (Addr.add q 0) (.slice a an ac) w3 fun w4=>R W0 At8 [(0,.slice l ln lc),(3,.pointer (some q)),(4,.int .i64 (IntKind.wrap .i64 (i + 1)))] w4))))
 (some (.pointer (some q),w)):=by kernel_rfl
def Bc8:Cuts:={ globs:=0,loops:=[],regs:=[],plans:=[(5,⟨[0,1,2,3,4,5,6,7,9,10,11,12,13,14,8,15,16,17,18,19,20,21],[0,0,0,4,12,28,0,64,252,0,512,1536,3584,0,8192,32764,65533,131069,262141,524287,1048575,2097151],[(8,[12])],[]⟩)] }
def B55:List Item:=A5 Tryz.f126
theorem Ea8 (C:A1) (R:A2) (r:Option Addr) (lo:Int) (n:Int) (h:H) :
 A4 PR Bc8 C R Au6 Tryz.f126 100000 true B55 [(0,.pointer r),(1,.int .i64 lo),(2,.int .i64 n)] h =
 aSome r fun p=>gSl (Addr.add p 0) h fun _ xn _=>bnd (C Ad2 [.int .i64 lo,.int .i64 n,.int .i64 ((xn:Nat):Int)] h) fun r_1 w=>aBool r_1 fun x_1=>cond (!x_1)
 (some (.tuple ⟨[.int .i64 0,.int .i64 1]⟩,w))
 (aSome r fun p_1=>gSl (Addr.add p_1 1) w fun _ xn_1 _=>cond (decide (((xn_1:Nat):Int) ≥ 32))
 (some (.tuple ⟨[.int .i64 0,.int .i64 4]⟩,w))
 (aSome r fun p_2=>gSl (Addr.add p_2 1) w fun x_3 xn_2 xc_2=>nw (.cells B2 false [.int .i64 lo]) w fun b w1=>aSome r fun p_3=>gSl (Addr.add p_3 2) w1 fun x_4 xn_3 xc_3=>nw (.cells B2 false [.int .i64 n]) w1 fun b_1 w2=>gCells (some ⟨b,0,none⟩) (1 * 1) w2 fun cs=>ckB (fitsOpen x_3 B2 w2) (apd B2 1 x_3 xn_2 xc_2 1 cs w2 fun a an ac w3=>gSl (Addr.add p_3 2) w3 fun x_5 xn_4 xc_4=>same (.slice x_4 xn_3 xc_3) (.slice x_5 xn_4 xc_4) (gCells (some ⟨b_1,0,none⟩) (1 * 1) w3 fun cs_1=>ckB (fitsOpen x_4 B2 w3) (apd B2 1 x_4 xn_3 xc_3 1 cs_1 w3 fun a_1 an_1 ac_1 w4=>aSome r fun p_4=>pV (Addr.add p_4 1) (.slice a an ac) w4 fun w5=>aSome r fun p_5=>pV (Addr.add p_5 2) (.slice a_1 an_1 ac_1) w5 fun w6=>aSome r fun p_6=>gSl (Addr.add p_6 1) w6 fun _ xn_5 _=>some (.tuple ⟨[.int .i64 (IntKind.wrap .i64 (((xn_5:Nat):Int) - 1)),.int .i64 0]⟩,w6)))))):=by kernel_rfl
def Bo2:Cuts:={ globs:=0,loops:=[],regs:=[],plans:=[] }
def Dg2:List Item:=A5 Tryz.f128
theorem Er3 (C:A1) (R:A2) (s:Option Addr) (e:Int) (c:List Value) (h:H) :
 A4 PR Bo2 C R A33 Tryz.f128 100000 true Dg2 [(0,.pointer s),(1,.int .i64 e),(2,.agg ⟨c⟩)] h =
 nw (.cells N6 false c) h fun b w=>bnd (C Ag2 [.pointer s,.int .i64 e] w) fun r w1=>aBool r fun x=>bnd (cond (!x) (some (true,w1)) (gInt .i64 (Addr.add ⟨b,0,none⟩ 1) w1 fun x_1=>some (decide (x_1 < 0),w1))) fun c_1 w2=>bnd (cond c_1 (some (true,w2)) (gInt .i64 (Addr.add ⟨b,0,none⟩ 1) w2 fun x_2=>some (decide (x_2 > 7),w2))) fun c_2 w3=>bnd (cond c_2 (some (true,w3)) (gInt .i64 (Addr.add ⟨b,0,none⟩ 2) w3 fun x_3=>some (decide (x_3 < 0),w3))) fun c_3 w4=>bnd (cond c_3 (some (true,w4)) (gInt .i64 (Addr.add ⟨b,0,none⟩ 2) w4 fun x_4=>some (decide (x_4 > 65536),w4))) fun c_4 w5=>bnd (cond c_4 (some (true,w5)) (gInt .i64 (Addr.add ⟨b,0,none⟩ 3) w5 fun x_5=>some (decide (x_5 < 0),w5))) fun c_5 w6=>bnd (cond c_5 (some (true,w6)) (gInt .i64 (Addr.add ⟨b,0,none⟩ 3) w6 fun x_6=>some (decide (x_6 > 65536),w6))) fun c_6 w7=>cond c_6
 (some (.tuple ⟨[.int .i64 0,.int .i64 1]⟩,w7))
 (pAgg (Addr.add ⟨b,0,none⟩ 4) [.int .i64 0,.int .i64 0] w7 fun w8=>gAgg ⟨b,0,none⟩ 6 w8 fun x_7=>bnd (C A55 [.pointer s,.int .i64 e,.agg ⟨x_7⟩] w8) fun r_1 w9=>as2 r_1 fun r_2 r_3=>aInt .i64 r_2 fun x_8=>aInt .i64 r_3 fun x_9=>some (.tuple ⟨[.int .i64 x_8,.int .i64 x_9]⟩,w9)):=by kernel_rfl
def Bc0:Cuts:={ globs:=0,loops:=[],regs:=[],plans:=[] }
def B43:List Item:=A5 Tryz.f129
theorem Eh5 (C:A1) (R:A2) (g:Int) (h:H) :
 A4 PR Bc0 C R At1 Tryz.f129 100000 true B43 [(0,.int .i64 g)] h =
 nw (.cells A3 false [.int .u8 (IntKind.wrap .u8 (g)),.int .u8 211]) h fun b w=>gCells (some ⟨b,0,none⟩) 2 w fun cs=>asBytes cs fun l=>bnd (C Ab9 [.string (ByteArray.mk ⟨l⟩)] w) fun r w1=>aInt .u8 r fun x=>nw (.cells A3 false [.int .u8 x,.int .u8 0]) w1 fun b_1 w2=>gCells (some ⟨b_1,0,none⟩) 2 w2 fun cs_1=>asBytes cs_1 fun l_1=>ck (ByteArray.size (ByteArray.mk ⟨l⟩) + ByteArray.size (ByteArray.mk ⟨l_1⟩) ≤ A8) (some (.string ((ByteArray.mk ⟨l⟩) ++ (ByteArray.mk ⟨l_1⟩)),w2)):=by kernel_rfl
def W1:Cuts:={ globs:=0,loops:=[(3,[0,3,9,10,11])],regs:=[],plans:=[] }
def Ah8:List Item:=A5 Tryz.f142
def L5:List Item:=stk [0,1,0,1,0,0,1,4,5] Ah8
theorem B56 (C:A1) (R:A2) (t:Option Addr) (h:H) :
 A4 PR W1 C R E0 Tryz.f142 100000 true Ah8 [(0,.pointer t)] h =
 aSome t fun p=>gSl (Addr.add p 0) h fun x xn xc=>R E0 L5 [(0,.pointer t),(3,.slice none 0 0),(9,.slice x xn xc),(10,.int .i64 ((xn:Nat):Int)),(11,.int .i64 0)] h:=by kernel_rfl
theorem Au5 (C:A1) (R:A2) (t:Option Addr) (out:Option Addr) (outn outc:Nat) (x9:Option Addr) (x9n x9c:Nat) (x10:Int) (x11:Int) (h:H) :
 A4 PR W1 C R E0 Tryz.f142 100000 true L5 [(0,.pointer t),(3,.slice out outn outc),(9,.slice x9 x9n x9c),(10,.int .i64 x10),(11,.int .i64 x11)] h =
 cond (decide (x11 < x10))
 (aSome x9 fun p=>ck ((0:Int) ≤ x11 ∧ x11 < ((x9n:Nat):Int)) (gAgg (Addr.add (B0 p) (Int.toNat x11 * 8)) 8 h fun x=>nw (.cells Ai7 false [.int .i64 0,.int .i64 0,.int .i64 0,.int .i64 0,.int .i64 0,.int .i64 0,.int .i64 0,.bool false]) h fun b w=>ck (List.length x = 8) (pAgg ⟨b,0,none⟩ x w fun w1=>gBool (Addr.add ⟨b,0,none⟩ 7) w1 fun x_1=>cond x_1
 (bnd (C L0 [.pointer t,.int .i64 x11] w1) fun r w2=>aInt .i64 r fun x_2=>nw (.cells B2 false [.int .i64 x_2]) w2 fun b_1 w3=>gCells (some ⟨b_1,0,none⟩) (1 * 1) w3 fun cs=>ckB (fitsOpen out B2 w3) (apd B2 1 out outn outc 1 cs w3 fun a an ac w4=>R E0 L5 [(0,.pointer t),(3,.slice a an ac),(9,.slice x9 x9n x9c),(10,.int .i64 x10),(11,.int .i64 (IntKind.wrap .i64 (x11 + 1)))] w4))
 (R E0 L5 [(0,.pointer t),(3,.slice out outn outc),(9,.slice x9 x9n x9c),(10,.int .i64 x10),(11,.int .i64 (IntKind.wrap .i64 (x11 + 1)))] w1))))
 (some (.slice out outn outc,h)):=by kernel_rfl
def Ar6:Cuts:={ globs:=0,loops:=[],regs:=[],plans:=[] }
def Bg2:List Item:=A5 Tryz.f145
theorem Dj6 (C:A1) (R:A2) (c:Option Addr) (r:List Value) (h:H) :
 A4 PR Ar6 C R O6 Tryz.f145 100000 true Bg2 [(0,.pointer c),(1,.agg ⟨r⟩)] h =
 nw (.cells D1 false r) h fun b w=>nw (.cells A95 false [.int .i64 0,.int .i64 0,.int .i64 0]) w fun b_1 w1=>gInt .i64 (Addr.add ⟨b,0,none⟩ 1) w1 fun x=>bnd (cond (decide (x < 0)) (some (true,w1)) (gInt .i64 (Addr.add ⟨b,0,none⟩ 0) w1 fun x_1=>bnd (C W6 [.pointer c,.int .i64 x_1] w1) fun r_1 w2=>aInt .i64 r_1 fun x_2=>some (decide (x ≥ x_2),w2))) fun c_1 w3=>cond c_1
 (pAgg ⟨b_1,0,none⟩ [.int .i64 0,.int .i64 0,.int .i64 0] w3 fun w4=>gAgg ⟨b_1,0,none⟩ 3 w4 fun x_3=>some (.tuple ⟨[.agg ⟨x_3⟩,.bool false]⟩,w4))
 (aSome c fun p=>gSl (Addr.add p 2) w3 fun x_4 xn _=>aSome x_4 fun p_1=>ck ((0:Int) ≤ 0 ∧ 0 < ((xn:Nat):Int)) (gInt .i64 (Addr.add (B0 p_1) (Int.toNat 0 * 1)) w3 fun x_5=>gInt .i64 (Addr.add ⟨b,0,none⟩ 0) w3 fun x_6=>cond (x_6 == 1)
 (pAgg ⟨b_1,0,none⟩ [.int .i64 x_5,.int .i64 (IntKind.wrap .i64 (24 * x)),.int .i64 24] w3 fun w5=>gAgg ⟨b_1,0,none⟩ 3 w5 fun x_7=>some (.tuple ⟨[.agg ⟨x_7⟩,.bool true]⟩,w5))
 (gInt .i64 (Addr.add ⟨b,0,none⟩ 0) w3 fun x_8=>cond (x_8 == 2)
 (pAgg ⟨b_1,0,none⟩ [.int .i64 x_5,.int .i64 (IntKind.wrap .i64 (192 + (IntKind.wrap .i64 (8 * x)))),.int .i64 8] w3 fun w6=>gAgg ⟨b_1,0,none⟩ 3 w6 fun x_9=>some (.tuple ⟨[.agg ⟨x_9⟩,.bool true]⟩,w6))
 (gInt .i64 (Addr.add ⟨b,0,none⟩ 0) w3 fun x_10=>bnd (cond (x_10 == 3) (some (decide (x < 4),w3)) (some (false,w3))) fun c_2 w7=>cond c_2
 (pAgg ⟨b_1,0,none⟩ [.int .i64 x_5,.int .i64 (IntKind.wrap .i64 (288 + (IntKind.wrap .i64 (40 * x)))),.int .i64 40] w7 fun w8=>gAgg ⟨b_1,0,none⟩ 3 w8 fun x_11=>some (.tuple ⟨[.agg ⟨x_11⟩,.bool true]⟩,w8))
 (gInt .i64 (Addr.add ⟨b,0,none⟩ 0) w7 fun x_12=>cond (x_12 == 3)
 (aSome c fun p_2=>gSl (Addr.add p_2 2) w7 fun x_13 xn_1 _=>aSome x_13 fun p_3=>ck ((0:Int) ≤ IntKind.wrap .i64 ((IntKind.wrap .i64 (x - 4)) + 1) ∧ IntKind.wrap .i64 ((IntKind.wrap .i64 (x - 4)) + 1) < ((xn_1:Nat):Int)) (gInt .i64 (Addr.add (B0 p_3) (Int.toNat (IntKind.wrap .i64 ((IntKind.wrap .i64 (x - 4)) + 1)) * 1)) w7 fun x_14=>pAgg ⟨b_1,0,none⟩ [.int .i64 x_14,.int .i64 0,.int .i64 40] w7 fun w9=>gAgg ⟨b_1,0,none⟩ 3 w9 fun x_15=>some (.tuple ⟨[.agg ⟨x_15⟩,.bool true]⟩,w9)))
 (gInt .i64 (Addr.add ⟨b,0,none⟩ 0) w7 fun x_16=>cond (x_16 == 4)
 (pAgg ⟨b_1,0,none⟩ [.int .i64 x_5,.int .i64 448,.int .i64 40] w7 fun w10=>gAgg ⟨b_1,0,none⟩ 3 w10 fun x_17=>some (.tuple ⟨[.agg ⟨x_17⟩,.bool true]⟩,w10))
 (pAgg ⟨b_1,0,none⟩ [.int .i64 x_5,.int .i64 488,.int .i64 4] w7 fun w11=>gAgg ⟨b_1,0,none⟩ 3 w11 fun x_18=>some (.tuple ⟨[.agg ⟨x_18⟩,.bool true]⟩,w11)))))))):=by kernel_rfl
def A19:Cuts:={ globs:=0,loops:=[],regs:=[],plans:=[] }
def Bp7:List Item:=A5 Tryz.f149
theorem Du4 (C:A1) (R:A2) (r:Option Addr) (env:Int) (name:Int) (atv:Int) (n:Int) (h:H) :
 A4 PR A19 C R Z3 Tryz.f149 100000 true Bp7 [(0,.pointer r),(1,.int .i64 env),(2,.int .i64 name),(3,.int .i64 atv),(4,.int .i64 n)] h =
 bnd (C Y0 [.pointer r,.int .i64 env,.int .i64 name,.int .i64 1,.int .i64 atv,.int .i64 n] h) fun r_1 w=>as2 r_1 fun r_2 r_3=>aInt .i64 r_2 fun x=>aInt .i64 r_3 fun x_1=>cond (x_1 != 0)
 (some (.tuple ⟨[.slice none 0 0,.int .i64 x_1]⟩,w))
 (aSome r fun p=>gPtr (Addr.add p 0) w fun x_2=>bnd (C A04 [.pointer x_2,.int .i64 x,.int .i64 n] w) fun r_4 w1=>as2 r_4 fun r_5 r_6=>aSl r_5 fun x_3 xn xc=>aInt .i64 r_6 fun x_4=>some (.tuple ⟨[.slice x_3 xn xc,.int .i64 x_4]⟩,w1)):=by kernel_rfl
def A88:Cuts:={ globs:=0,loops:=[],regs:=[],plans:=[] }
def Bx7:List Item:=A5 Tryz.f154
theorem D79 (C:A1) (R:A2) (q:Option Addr) (s:Int) (h:H) :
 A4 PR A88 C R Ar0 Tryz.f154 100000 true Bx7 [(0,.pointer q),(1,.int .i64 s)] h =
 bnd (C Af8 [.pointer q,.int .i64 s] h) fun r w=>aBool r fun x=>cond (!x)
 (some (.tuple ⟨[.int .i64 0,.int .i64 1]⟩,w))
 (aSome q fun p=>gSl (Addr.add p 0) w fun x_1 xn _=>aSome x_1 fun p_1=>ck ((0:Int) ≤ s ∧ s < ((xn:Nat):Int)) (gSl (Addr.add (B0 p_1) (Int.toNat s * 1)) w fun x_2 xn_1 xc_1=>bnd (C G4 [.slice x_2 xn_1 xc_1,.int .i64 0] w) fun r_1 w1=>aInt .i64 r_1 fun x_3=>cond (decide (x_3 < 0))
 (some (.tuple ⟨[.int .i64 0,.int .i64 4]⟩,w1))
 (aSome q fun p_2=>gSl (Addr.add p_2 0) w1 fun x_4 xn_2 _=>aSome x_4 fun p_3=>ck ((0:Int) ≤ s ∧ s < ((xn_2:Nat):Int)) (gSl (Addr.add (B0 p_3) (Int.toNat s * 1)) w1 fun x_5 xn_3 _=>aSome x_5 fun p_4=>ck ((0:Int) ≤ x_3 ∧ x_3 < ((xn_3:Nat):Int)) (pV (Addr.add (B0 p_4) (Int.toNat x_3 * 1)) (.int .i64 1) w1 fun w2=>some (.tuple ⟨[.int .i64 x_3,.int .i64 0]⟩,w2)))))):=by kernel_rfl
def Bg5:Cuts:={ globs:=0,loops:=[],regs:=[],plans:=[] }
def B91:List Item:=A5 Tryz.f156
theorem En9 (C:A1) (R:A2) (k:Option Addr) (env:Int) (c:List Value) (h:H) :
 A4 PR Bg5 C R Ay9 Tryz.f156 100000 true B91 [(0,.pointer k),(1,.int .i64 env),(2,.agg ⟨c⟩)] h =
 nw (.cells At9 false c) h fun b w=>gInt .i64 (Addr.add ⟨b,0,none⟩ 3) w fun x=>bnd (C Aq2 [.pointer k,.int .i64 env,.int .i64 x] w) fun r w1=>as2 r fun r_1 r_2=>aPtr r_1 fun x_1=>aInt .i64 r_2 fun x_2=>cond (x_2 != 0)
 (some (.tuple ⟨[.int .i64 0,.int .i64 x_2]⟩,w1))
 (aSome k fun p=>gInt .i64 (Addr.add p 7) w1 fun x_3=>bnd (C B4 [.pointer x_1,.int .i64 env,.int .i64 x_3] w1) fun r_3 w2=>as2 r_3 fun r_4 r_5=>aInt .i64 r_4 fun x_4=>aBool r_5 fun _=>some (.tuple ⟨[.int .i64 x_4,.int .i64 0]⟩,w2)):=by kernel_rfl
def Bg9:Cuts:={ globs:=0,loops:=[],regs:=[],plans:=[] }
def B83:List Item:=A5 Tryz.f157
theorem En7 (C:A1) (R:A2) (k:Option Addr) (env:Int) (c:List Value) (h:H) :
 A4 PR Bg9 C R Ay6 Tryz.f157 100000 true B83 [(0,.pointer k),(1,.int .i64 env),(2,.agg ⟨c⟩)] h =
 nw (.cells At9 false c) h fun b w=>gInt .i64 (Addr.add ⟨b,0,none⟩ 3) w fun x=>bnd (C Aq2 [.pointer k,.int .i64 env,.int .i64 x] w) fun r w1=>as2 r fun r_1 r_2=>aPtr r_1 fun x_1=>aInt .i64 r_2 fun x_2=>bnd (cond (x_2 == 0) (gInt .i64 (Addr.add ⟨b,0,none⟩ 2) w1 fun x_3=>bnd (C Ax8 [.pointer x_1,.int .i64 env,.int .i64 x_3] w1) fun r_3 w2=>aBool r_3 fun x_4=>some (!x_4,w2)) (some (false,w1))) fun c_1 w3=>cond c_1
 (some (.int .i64 8,w3))
 (some (.int .i64 x_2,w3)):=by kernel_rfl
def B73:Cuts:={ globs:=0,loops:=[],regs:=[],plans:=[] }
def D54:List Item:=A5 Tryz.f158
theorem Ge6 (C:A1) (R:A2)  (h:H) :
 A4 PR B73 C R A74 Tryz.f158 100000 true D54 [] h =
 bnd (C Al7 [.int .i64 24,.func (.func L8) ⟨[]⟩ ⟨[]⟩,.func (.func U2) ⟨[]⟩ ⟨[]⟩] h) fun r w=>aPtr r fun x=>some (.pointer x,w):=by kernel_rfl
def Ad3:Cuts:={ globs:=0,loops:=[],regs:=[],plans:=[(4,⟨[0,1,2,3,4,10,5,6,7,8,9,11,12],[0,1,3,7,0,16,63,127,255,255,0,1535,4095],[(5,[3])],[]⟩)] }
def Ax6:List Item:=A5 Tryz.f159
theorem Bw3 (C:A1) (R:A2) (c:Option Addr) (b:Option Addr) (bn bc:Nat) (h:H) :
 A4 PR Ad3 C R Q7 Tryz.f159 100000 true Ax6 [(0,.pointer c),(1,.slice b bn bc)] h =
 nw (.cells B9 false [.int .i64 0,.int .i64 0,.int .i64 0,.int .i64 0,.int .i64 0,.int .i64 0,.int .i64 0,.int .i64 0,.int .i64 0,.int .i64 0,.int .i64 0,.int .i64 0,.int .i64 0,.int .i64 0,.int .i64 0,.int .i64 0]) h fun b_1 w=>nw (.cells B9 false [.int .i64 0,.int .i64 0,.int .i64 0,.int .i64 0,.int .i64 0,.int .i64 0,.int .i64 0,.int .i64 0,.int .i64 0,.int .i64 0,.int .i64 0,.int .i64 0,.int .i64 0,.int .i64 0,.int .i64 0,.int .i64 0]) w fun b_2 w1=>aSome c fun p=>gFv (Addr.add p 2) w1 fun x=>isNilF x fun b_3=>bnd (cond b_3 (some (true,w1)) (aSome c fun p_1=>gInt .i64 (Addr.add p_1 0) w1 fun x_1=>some (((bn:Nat):Int) != x_1,w1))) fun c_1 w2=>cond c_1
 (gAgg ⟨b_2,0,none⟩ 16 w2 fun x_2=>ck (List.length x_2 = 16) (pAgg ⟨b_1,0,none⟩ x_2 w2 fun w3=>gAgg ⟨b_1,0,none⟩ 16 w3 fun x_3=>some (.tuple ⟨[.agg ⟨x_3⟩,.bool false]⟩,w3)))
 (aSome c fun p_2=>gFv (Addr.add p_2 2) w2 fun x_4=>nw (.cells B9 false [.int .i64 0,.int .i64 0,.int .i64 0,.int .i64 0,.int .i64 0,.int .i64 0,.int .i64 0,.int .i64 0,.int .i64 0,.int .i64 0,.int .i64 0,.int .i64 0,.int .i64 0,.int .i64 0,.int .i64 0,.int .i64 0]) w2 fun b_4 w4=>bnd (C E5 [.slice b bn bc] w4) fun r w5=>aSl r fun x_5 xn xc=>gFv (Addr.add p_2 2) w5 fun x_6=>Be8 (x_4) (x_6) (aFn x_4 fun g fi cp=>bnd (C g (fi ++ ([.slice x_5 xn xc] ++ cp)) w5) fun r_1 w6=>as2 r_1 fun r_2 r_3=>aAgg r_2 fun x_7=>aBool r_3 fun x_8=>ck (List.length x_7 = 16) (pAgg ⟨b_4,0,none⟩ x_7 w6 fun w7=>cond (!x_8)
 (gAgg ⟨b_2,0,none⟩ 16 w7 fun x_9=>ck (List.length x_9 = 16) (pAgg ⟨b_1,0,none⟩ x_9 w7 fun w8=>gAgg ⟨b_1,0,none⟩ 16 w8 fun x_10=>some (.tuple ⟨[.agg ⟨x_10⟩,.bool false]⟩,w8)))
 (gAgg ⟨b_4,0,none⟩ 16 w7 fun x_11=>ck (List.length x_11 = 16) (pAgg ⟨b_1,0,none⟩ x_11 w7 fun w9=>gAgg ⟨b_1,0,none⟩ 16 w9 fun x_12=>some (.tuple ⟨[.agg ⟨x_12⟩,.bool true]⟩,w9)))))):=by kernel_rfl
def B67:Cuts:={ globs:=0,loops:=[],regs:=[],plans:=[] }
def D67:List Item:=A5 Tryz.f161
theorem Ge8 (C:A1) (R:A2)  (h:H) :
 A4 PR B67 C R A61 Tryz.f161 100000 true D67 [] h =
 bnd (C An0 [.int .i64 8,.func (.func An7) ⟨[]⟩ ⟨[]⟩,.func (.func Ao3) ⟨[]⟩ ⟨[]⟩] h) fun r w=>aPtr r fun x=>some (.pointer x,w):=by kernel_rfl
def B18:Cuts:={ globs:=0,loops:=[(3,[3,9,10,11])],regs:=[],plans:=[] }
def Dp3:List Item:=A5 Tryz.f163
def Bf2:List Item:=stk [0,1,0,1,0,0,1,4,5] Dp3
theorem G01 (C:A1) (R:A2) (b:Option Addr) (bn bc:Nat) (h:H) :
 A4 PR B18 C R W7 Tryz.f163 100000 true Dp3 [(0,.slice b bn bc)] h =
 R W7 Bf2 [(3,.int .u8 (IntKind.wrap .u8 (((bn:Nat):Int)))),(9,.slice b bn bc),(10,.int .i64 ((bn:Nat):Int)),(11,.int .i64 0)] h:=by kernel_rfl
theorem Dv5 (C:A1) (R:A2) (n:Int) (x9:Option Addr) (x9n x9c:Nat) (x10:Int) (x11:Int) (h:H) :
 A4 PR B18 C R W7 Tryz.f163 100000 true Bf2 [(3,.int .u8 n),(9,.slice x9 x9n x9c),(10,.int .i64 x10),(11,.int .i64 x11)] h =
 cond (decide (x11 < x10))
 (aSome x9 fun p=>ck ((0:Int) ≤ x11 ∧ x11 < ((x9n:Nat):Int)) (gInt .u8 (Addr.add (B0 p) (Int.toNat x11 * 1)) h fun x=>R W7 Bf2 [(3,.int .u8 (IntKind.wrap .u8 (n + x))),(9,.slice x9 x9n x9c),(10,.int .i64 x10),(11,.int .i64 (IntKind.wrap .i64 (x11 + 1)))] h))
 (some (.int .u8 n,h)):=by kernel_rfl
def B07:Cuts:={ globs:=0,loops:=[],regs:=[],plans:=[] }
def Dv0:List Item:=A5 Tryz.f174
theorem E96 (C:A1) (R:A2) (s:Int) (fv0:Addr) (h:H) :
 A4 PR B07 C R E7 Tryz.f174 100000 true Dv0 [(0,.int .i64 s),(1,.pointer (some fv0))] h =
 bnd (cond (decide (s < 0)) (some (true,h)) (gSl (Addr.add fv0 0) h fun _ xn _=>some (decide (s ≥ ((xn:Nat):Int)),h))) fun c w=>some (.bool c,w):=by kernel_rfl
def Ab1:Cuts:={ globs:=0,loops:=[],regs:=[],plans:=[] }
def Ar2:List Item:=A5 Tryz.f175
theorem Ar3 (C:A1) (R:A2) (s:Option Addr) (sn sc:Nat) (f:Value) (h:H) :
 A4 PR Ab1 C R D6 Tryz.f175 100000 true Ar2 [(0,.slice s sn sc),(1,f)] h =
 bnd (C D0 [.slice s sn sc,f] h) fun r w=>aInt .i64 r fun x=>some (.bool (decide (x ≥ 0)),w):=by kernel_rfl
def Ba0:Cuts:={ globs:=0,loops:=[(3,[0,3,4])],regs:=[],plans:=[] }
def Bs8:List Item:=A5 Tryz.f182
def Av2:List Item:=stk [0,1,0,1,0,0,1,4,5] Bs8
theorem E28 (C:A1) (R:A2) (size:Int) (h:H) :
 A4 PR Ba0 C R W4 Tryz.f182 100000 true Bs8 [(0,.int .i64 size)] h =
 nw (.cells D94 false [.slice none 0 0]) h fun b w=>R W4 Av2 [(0,.int .i64 size),(3,.pointer (some ⟨b,0,none⟩)),(4,.int .i64 0)] w:=by kernel_rfl
theorem B59 (C:A1) (R:A2) (size:Int) (n:Addr) (i:Int) (h:H) :
 A4 PR Ba0 C R W4 Tryz.f182 100000 true Av2 [(0,.int .i64 size),(3,.pointer (some n)),(4,.int .i64 i)] h =
 bnd (cond (decide (i < size)) (some (decide (i < 256),h)) (some (false,h))) fun c w=>cond c
 (gSl (Addr.add n 0) w fun x xn xc=>nw (.cells Bb4 false [.int .i64 1,.bool false]) w fun b w1=>gCells (some ⟨b,0,none⟩) (1 * 2) w1 fun cs=>ckB (fitsOpen x Bb4 w1) (apd Bb4 2 x xn xc 1 cs w1 fun a an ac w2=>pV (Addr.add n 0) (.slice a an ac) w2 fun w3=>R W4 Av2 [(0,.int .i64 size),(3,.pointer (some n)),(4,.int .i64 (IntKind.wrap .i64 (i + 1)))] w3))
 (some (.pointer (some n),w)):=by kernel_rfl
def Bm1:Cuts:={ globs:=0,loops:=[],regs:=[],plans:=[(4,⟨[0,1,2,3,4,5,6,7,8,9,10,11],[0,1,3,7,0,31,63,0,128,0,1023,2047],[],[]⟩)] }
def Dg4:List Item:=A5 Tryz.f185
theorem Ev2 (C:A1) (R:A2) (s:Option Addr) (e:Int) (c:List Value) (h:H) :
 A4 PR Bm1 C R A55 Tryz.f185 100000 true Dg4 [(0,.pointer s),(1,.int .i64 e),(2,.agg ⟨c⟩)] h =
 nw (.cells N6 false c) h fun b w=>aSome s fun p=>gSl (Addr.add p 0) w fun x xn _=>aSome x fun p_1=>ck ((0:Int) ≤ e ∧ e < ((xn:Nat):Int)) (gPtr (Addr.add (B0 p_1) (Int.toNat e * 1)) w fun x_1=>bnd (C S7 [.pointer x_1] w) fun r w1=>as2 r fun r_1 r_2=>aInt .i64 r_1 fun x_2=>aBool r_2 fun x_3=>cond (!x_3)
 (some (.tuple ⟨[.int .i64 0,.int .i64 4]⟩,w1))
 (aSome s fun p_2=>gSl (Addr.add p_2 1) w1 fun x_4 xn_1 _=>aSome x_4 fun p_3=>ck ((0:Int) ≤ e ∧ e < ((xn_1:Nat):Int)) (gSl (Addr.add (B0 p_3) (Int.toNat e * 1)) w1 fun x_5 xn_2 _=>gAgg ⟨b,0,none⟩ 6 w1 fun x_6=>aSome x_5 fun p_4=>ck ((0:Int) ≤ O4 .i64 x_2 255 ∧ O4 .i64 x_2 255 < ((xn_2:Nat):Int)) (ck (List.length x_6 = 6) (pAgg (Addr.add (B0 p_4) (Int.toNat (O4 .i64 x_2 255) * 6)) x_6 w1 fun w2=>some (.tuple ⟨[.int .i64 x_2,.int .i64 0]⟩,w2)))))):=by kernel_rfl
def Aw3:Cuts:={ globs:=0,loops:=[],regs:=[],plans:=[(6,⟨[0,1,2,3,4,5,6,7,8,9,10,11,12,13,14,15,16,17,18,19,20,21,22,23,24,25,26,27,28,29,30,31,32,33,34,35],[0,1,3,7,15,31,63,127,127,383,1023,2047,4095,8191,8191,24575,8191,122879,262143,524287,1048575,2097151,4194303,8388607,16777215,33554431,67108863,134217727,67108863,335544319,872415231,1946157055,4093640703,8589934591,17179869183,34359738367],[],[]⟩),(8,⟨[0,1,2,3,4,5,6,7,8,9],[0,1,3,7,0,16,63,127,0,511],[],[]⟩)] }
def Bj4:List Item:=A5 Tryz.f201
theorem Dr0 (C:A1) (R:A2) (r:Option Addr) (env:Int) (name:Int) (right:Int) (atv:Int) (n:Int) (h:H) :
 A4 PR Aw3 C R Y0 Tryz.f201 100000 true Bj4 [(0,.pointer r),(1,.int .i64 env),(2,.int .i64 name),(3,.int .i64 right),(4,.int .i64 atv),(5,.int .i64 n)] h =
 aSome r fun p=>gPtr (Addr.add p 1) h fun x=>bnd (C Aq1 [.pointer x,.int .i64 env,.int .i64 name] h) fun r_1 w=>as2 r_1 fun r_2 r_3=>aAgg r_2 fun x_1=>aInt .i64 r_3 fun x_2=>nw (.cells N6 false [.int .i64 0,.int .i64 0,.int .i64 0,.int .i64 0,.int .i64 0,.int .i64 0]) w fun b w1=>ck (List.length x_1 = 6) (pAgg ⟨b,0,none⟩ x_1 w1 fun w2=>cond (x_2 != 0)
 (some (.tuple ⟨[.int .i64 0,.int .i64 x_2]⟩,w2))
 (gInt .i64 (Addr.add ⟨b,0,none⟩ 1) w2 fun x_3=>cond ((O4 .i64 x_3 right) == 0)
 (some (.tuple ⟨[.int .i64 0,.int .i64 3]⟩,w2))
 (bnd (cond (decide (atv < 0)) (some (true,w2)) (some (decide (n < 0),w2))) fun c w3=>bnd (cond c (some (true,w3)) (gInt .i64 (Addr.add ⟨b,0,none⟩ 3) w3 fun x_4=>some (decide (atv > x_4),w3))) fun c_1 w4=>bnd (cond c_1 (some (true,w4)) (gInt .i64 (Addr.add ⟨b,0,none⟩ 3) w4 fun x_5=>some (decide (n > (IntKind.wrap .i64 (x_5 - atv))),w4))) fun c_2 w5=>bnd (cond c_2 (some (true,w5)) (gInt .i64 (Addr.add ⟨b,0,none⟩ 0) w5 fun x_6=>some (decide (x_6 < 0),w5))) fun c_3 w6=>bnd (cond c_3 (some (true,w6)) (gInt .i64 (Addr.add ⟨b,0,none⟩ 0) w6 fun x_7=>aSome r fun p_1=>gSl (Addr.add p_1 2) w6 fun _ xn _=>some (decide (x_7 ≥ ((xn:Nat):Int)),w6))) fun c_4 w7=>cond c_4
 (some (.tuple ⟨[.int .i64 0,.int .i64 1]⟩,w7))
 (aSome r fun p_2=>gSl (Addr.add p_2 2) w7 fun x_9 xn_1 _=>gInt .i64 (Addr.add ⟨b,0,none⟩ 0) w7 fun x_10=>aSome x_9 fun p_3=>ck ((0:Int) ≤ x_10 ∧ x_10 < ((xn_1:Nat):Int)) (gAgg (Addr.add (B0 p_3) (Int.toNat x_10 * 2)) 2 w7 fun x_11=>nw (.cells As7 false [.int .i64 0,.int .i64 0]) w7 fun b_1 w8=>ck (List.length x_11 = 2) (pAgg ⟨b_1,0,none⟩ x_11 w8 fun w9=>gInt .i64 (Addr.add ⟨b,0,none⟩ 2) w9 fun x_12=>gInt .i64 (Addr.add ⟨b_1,0,none⟩ 1) w9 fun x_13=>bnd (cond (decide ((IntKind.wrap .i64 (x_12 + atv)) > x_13)) (some (true,w9)) (gInt .i64 (Addr.add ⟨b_1,0,none⟩ 1) w9 fun x_14=>gInt .i64 (Addr.add ⟨b,0,none⟩ 2) w9 fun x_15=>some (decide (n > (IntKind.wrap .i64 ((IntKind.wrap .i64 (x_14 - x_15)) - atv))),w9))) fun c_5 w10=>cond c_5
 (some (.tuple ⟨[.int .i64 0,.int .i64 1]⟩,w10))
 (gInt .i64 (Addr.add ⟨b_1,0,none⟩ 0) w10 fun x_16=>gInt .i64 (Addr.add ⟨b,0,none⟩ 2) w10 fun x_17=>some (.tuple ⟨[.int .i64 (IntKind.wrap .i64 ((IntKind.wrap .i64 (x_16 + x_17)) + atv)),.int .i64 0]⟩,w10)))))))):=by kernel_rfl
def Bc2:Cuts:={ globs:=0,loops:=[],regs:=[],plans:=[] }
def B32:List Item:=A5 Tryz.f207
theorem Ef9 (C:A1) (R:A2) (q:Option Addr) (s:Int) (k:Int) (h:H) :
 A4 PR Bc2 C R As9 Tryz.f207 100000 true B32 [(0,.pointer q),(1,.int .i64 s),(2,.int .i64 k)] h =
 bnd (C Af8 [.pointer q,.int .i64 s] h) fun r w=>aBool r fun x=>bnd (cond x (some (decide (k ≥ 0),w)) (some (false,w))) fun c w1=>bnd (cond c (aSome q fun p=>gSl (Addr.add p 0) w1 fun x_1 xn _=>aSome x_1 fun p_1=>ck ((0:Int) ≤ s ∧ s < ((xn:Nat):Int)) (gSl (Addr.add (B0 p_1) (Int.toNat s * 1)) w1 fun _ xn_1 _=>some (decide (k < ((xn_1:Nat):Int)),w1))) (some (false,w1))) fun c_1 w2=>bnd (cond c_1 (aSome q fun p_2=>gSl (Addr.add p_2 0) w2 fun x_3 xn_2 _=>aSome x_3 fun p_3=>ck ((0:Int) ≤ s ∧ s < ((xn_2:Nat):Int)) (gSl (Addr.add (B0 p_3) (Int.toNat s * 1)) w2 fun x_4 xn_3 _=>aSome x_4 fun p_4=>ck ((0:Int) ≤ k ∧ k < ((xn_3:Nat):Int)) (gInt .i64 (Addr.add (B0 p_4) (Int.toNat k * 1)) w2 fun x_5=>some (decide (x_5 > 0),w2)))) (some (false,w2))) fun c_2 w3=>some (.bool c_2,w3):=by kernel_rfl
def Do8:Cuts:={ globs:=0,loops:=[],regs:=[],plans:=[(1,⟨[0,1,2,3,4,5,6,7,8,9,10,11,12,13,14,15,16,17,18],[0,1,3,7,0,16,48,112,0,256,768,1792,0,4096,12288,28672,65535,0,262143],[],[]⟩),(3,⟨[0,1,2,3,4,5,6,7,8],[0,0,2,6,6,30,62,63,255],[(5,[0])],[]⟩)] }
def Ep4:List Item:=A5 Tryz.f216
theorem Gz6 (C:A1) (R:A2) (b:Option Addr) (bn bc:Nat) (h:H) :
 A4 PR Do8 C R Ao3 Tryz.f216 100000 true Ep4 [(0,.slice b bn bc)] h =
 nw (.cells H7 false [.int .i64 0,.int .i64 0,.int .i64 0,.int .i64 0]) h fun b_1 w=>aSome b fun p=>ck ((0:Int) ≤ 0 ∧ 0 < ((bn:Nat):Int)) (gInt .u8 (Addr.add (B0 p) (Int.toNat 0 * 1)) w fun x=>aSome b fun p_1=>ck ((0:Int) ≤ 1 ∧ 1 < ((bn:Nat):Int)) (gInt .u8 (Addr.add (B0 p_1) (Int.toNat 1 * 1)) w fun x_1=>aSome b fun p_2=>ck ((0:Int) ≤ 2 ∧ 2 < ((bn:Nat):Int)) (gInt .u8 (Addr.add (B0 p_2) (Int.toNat 2 * 1)) w fun x_2=>aSome b fun p_3=>ck ((0:Int) ≤ 3 ∧ 3 < ((bn:Nat):Int)) (gInt .u8 (Addr.add (B0 p_3) (Int.toNat 3 * 1)) w fun x_3=>nw (.cells H7 false [.int .i64 0,.int .i64 0,.int .i64 0,.int .i64 0]) w fun b_2 w1=>pAgg ⟨b_2,0,none⟩ [.int .i64 (IntKind.wrap .i64 (x)),.int .i64 (IntKind.wrap .i64 (x_1)),.int .i64 (IntKind.wrap .i64 (x_2)),.int .i64 (IntKind.wrap .i64 (x_3))] w1 fun w2=>gAgg ⟨b_2,0,none⟩ 4 w2 fun x_4=>bnd (C A00 [.agg ⟨x_4⟩] w2) fun r w3=>as2 r fun r_1 r_2=>aSl r_1 fun x_5 xn xc=>aBool r_2 fun x_6=>gAgg ⟨b_2,0,none⟩ 4 w3 fun x_7=>bnd (cond x_6 (bnd (C B6 [.slice x_5 xn xc,.slice b bn bc] w3) fun r_3 w4=>aBool r_3 fun x_8=>gAgg ⟨b_2,0,none⟩ 4 w4 fun x_9=>same (.agg ⟨x_7⟩) (.agg ⟨x_9⟩) (some (x_8,w4))) (some (false,w3))) fun c w5=>ck (List.length x_7 = 4) (pAgg ⟨b_1,0,none⟩ x_7 w5 fun w6=>gAgg ⟨b_1,0,none⟩ 4 w6 fun x_10=>some (.tuple ⟨[.agg ⟨x_10⟩,.bool c]⟩,w6)))))):=by kernel_rfl
def Di9:Cuts:={ globs:=0,loops:=[],regs:=[],plans:=[(3,⟨[0,1,2,3,4,5,6,7,8,9,10,11,12,13,14],[0,0,3,7,15,31,0,0,128,448,960,1984,4095,8191,16383],[],[]⟩)] }
def D89:List Item:=A5 Tryz.f233
theorem Go4 (C:A1) (R:A2) (b:Option Addr) (bn bc:Nat) (atv:Int) (h:H) :
 A4 PR Di9 C R Bu8 Tryz.f233 100000 true D89 [(0,.slice b bn bc),(1,.int .i64 atv)] h =
 bnd (cond (decide (atv < 0)) (some (true,h)) (some (decide (atv > (IntKind.wrap .i64 (((bn:Nat):Int) - 2))),h))) fun c w=>cond c
 (some (.tuple ⟨[.int .i64 0,.bool false]⟩,w))
 (aSome b fun p=>ck ((0:Int) ≤ atv ∧ atv < ((bn:Nat):Int)) (gInt .u8 (Addr.add (B0 p) (Int.toNat atv * 1)) w fun x=>aSome b fun p_1=>ck ((0:Int) ≤ IntKind.wrap .i64 (atv + 1) ∧ IntKind.wrap .i64 (atv + 1) < ((bn:Nat):Int)) (gInt .u8 (Addr.add (B0 p_1) (Int.toNat (IntKind.wrap .i64 (atv + 1)) * 1)) w fun x_1=>some (.tuple ⟨[.int .i64 (G65 .i64 (IntKind.wrap .i64 ((IntKind.wrap .i64 (x)) * 2 ^ 8)) (IntKind.wrap .i64 (x_1))),.bool true]⟩,w)))):=by kernel_rfl
def D23:Cuts:={ globs:=0,loops:=[],regs:=[],plans:=[] }
def Ex4:List Item:=A5 Tryz.f234
theorem Hc0 (C:A1) (R:A2) (f:List Value) (h:H) :
 A4 PR D23 C R Dc8 Tryz.f234 100000 true Ex4 [(0,.agg ⟨f⟩)] h =
 nw (.cells H7 false f) h fun b w=>gInt .i64 (Addr.add ⟨b,0,none⟩ 0) w fun x=>bnd (cond (decide (x ≥ 1)) (gInt .i64 (Addr.add ⟨b,0,none⟩ 0) w fun x_1=>some (decide (x_1 ≤ 3),w)) (some (false,w))) fun c w1=>bnd (cond c (gInt .i64 (Addr.add ⟨b,0,none⟩ 1) w1 fun x_2=>some (decide (x_2 ≥ 0),w1)) (some (false,w1))) fun c_1 w2=>bnd (cond c_1 (gInt .i64 (Addr.add ⟨b,0,none⟩ 1) w2 fun x_3=>some (decide (x_3 ≤ 7),w2)) (some (false,w2))) fun c_2 w3=>bnd (cond c_2 (gInt .i64 (Addr.add ⟨b,0,none⟩ 0) w3 fun x_4=>bnd (cond (x_4 != 3) (some (true,w3)) (gInt .i64 (Addr.add ⟨b,0,none⟩ 1) w3 fun x_5=>some (x_5 == 0,w3))) fun c_3 w4=>some (c_3,w4)) (some (false,w3))) fun c_4 w5=>bnd (cond c_4 (gInt .i64 (Addr.add ⟨b,0,none⟩ 2) w5 fun x_6=>some (decide (x_6 ≥ 1),w5)) (some (false,w5))) fun c_5 w6=>bnd (cond c_5 (gInt .i64 (Addr.add ⟨b,0,none⟩ 2) w6 fun x_7=>some (decide (x_7 ≤ 64),w6)) (some (false,w6))) fun c_6 w7=>bnd (cond c_6 (gInt .i64 (Addr.add ⟨b,0,none⟩ 3) w7 fun x_8=>bnd (cond (x_8 == 0) (some (true,w7)) (gInt .i64 (Addr.add ⟨b,0,none⟩ 3) w7 fun x_9=>some (x_9 == 1,w7))) fun c_7 w8=>some (c_7,w8)) (some (false,w7))) fun c_8 w9=>some (.bool c_8,w9):=by kernel_rfl
end
end Go.EQ

set_option maxRecDepth 100000
namespace Go.EQ
open Go Go.NN Go.Proofs
variable (C : A1) (R : A2)
noncomputable section
def B62:Cuts:={ globs:=0,loops:=[],regs:=[],plans:=[] }
def D69:List Item:=A5 Tryz.f15
theorem Gh6 (C:A1) (R:A2) (k:Option Addr) (env:Int) (h:H) :
 A4 PR B62 C R Bl5 Tryz.f15 100000 true D69 [(0,.pointer k),(1,.int .i64 env)] h =
 bnd (cond k.isNone (some (true,h)) (bnd (C Ak1 [.pointer k] h) fun r w=>aPtr r fun x=>bnd (C Ah7 [.pointer x,.int .i64 env] w) fun r_1 w1=>aSl r_1 fun _ xn _=>some (((xn:Nat):Int) == 0,w1))) fun c w2=>cond c
 (some (.tuple ⟨[.pointer none,.int .i64 1]⟩,w2))
 (bnd (C Ak1 [.pointer k] w2) fun r_2 w3=>aPtr r_2 fun x_2=>bnd (C Ah7 [.pointer x_2,.int .i64 env] w3) fun r_3 w4=>aSl r_3 fun x_3 xn_1 xc_1=>nw (.map [] 0) w4 fun b w5=>nw (.cells B90 false [.pointer k,.int .i64 env,.slice x_3 xn_1 xc_1,.map (some b)]) w5 fun b_1 w6=>some (.tuple ⟨[.pointer (some ⟨b_1,0,none⟩),.int .i64 0]⟩,w6)):=by kernel_rfl
def Av9:Cuts:={ globs:=0,loops:=[],regs:=[],plans:=[] }
def Bk0:List Item:=A5 Tryz.f18
theorem Dp9 (C:A1) (R:A2) (c:Option Addr) (i:Int) (h:H) :
 A4 PR Av9 C R Ag4 Tryz.f18 100000 true Bk0 [(0,.pointer c),(1,.int .i64 i)] h =
 nw (.cells J0 false [.int .i64 0,.int .i64 0,.int .i64 0,.int .i64 0,.int .u8 0,.int .u8 0,.int .u8 0,.int .u8 0,.int .u8 0,.int .u8 0,.int .u8 0,.int .u8 0,.int .u8 0,.int .u8 0,.int .u8 0,.int .u8 0,.int .u8 0,.int .u8 0,.int .u8 0,.int .u8 0,.int .u8 0,.int .u8 0,.int .u8 0,.int .u8 0,.int .u8 0,.int .u8 0,.int .u8 0,.int .u8 0,.int .u8 0,.int .u8 0,.int .u8 0,.int .u8 0,.int .u8 0,.int .u8 0,.int .u8 0,.int .u8 0]) h fun b w=>bnd (C Be9 [.int .i64 i] w) fun r w1=>aAgg r fun x=>bnd (C H1 [.pointer c,.agg ⟨x⟩,.func (.func As6) ⟨[]⟩ ⟨[]⟩] w1) fun r_1 w2=>as2 r_1 fun r_2 r_3=>aAgg r_2 fun x_1=>aInt .i64 r_3 fun x_2=>ck (List.length x_1 = 36) (pAgg ⟨b,0,none⟩ x_1 w2 fun w3=>gAgg ⟨b,0,none⟩ 36 w3 fun x_3=>some (.tuple ⟨[.agg ⟨x_3⟩,.int .i64 x_2]⟩,w3)):=by kernel_rfl
def B12:Cuts:={ globs:=0,loops:=[],regs:=[],plans:=[] }
def Du1:List Item:=A5 Tryz.f22
theorem E90 (C:A1) (R:A2) (k:Option Addr) (env:Int) (c:List Value) (h:H) :
 A4 PR B12 C R P5 Tryz.f22 100000 true Du1 [(0,.pointer k),(1,.int .i64 env),(2,.agg ⟨c⟩)] h =
 nw (.cells At9 false c) h fun b w=>nw (.cells Eb7 false [.int .i64 0,.int .i64 0,.slice none 0 0]) w fun b_1 w1=>bnd (cond (decide (env < 0)) (some (true,w1)) (aSome k fun p=>gSl (Addr.add p 0) w1 fun _ xn _=>some (decide (env ≥ ((xn:Nat):Int)),w1))) fun c_1 w2=>cond c_1
 (pAgg ⟨b_1,0,none⟩ [.int .i64 1,.int .i64 0,.slice none 0 0] w2 fun w3=>gAgg ⟨b_1,0,none⟩ 3 w3 fun x_1=>some (.agg ⟨x_1⟩,w3))
 (gAgg ⟨b,0,none⟩ 7 w2 fun x_2=>bnd (C Ay3 [.pointer k,.int .i64 env,.agg ⟨x_2⟩] w2) fun r w4=>as3 r fun r_1 r_2 r_3=>aSl r_1 fun x_3 xn_1 xc_1=>aInt .i64 r_2 fun x_4=>aBool r_3 fun x_5=>cond x_5
 (pAgg ⟨b_1,0,none⟩ [.int .i64 x_4,.int .i64 0,.slice x_3 xn_1 xc_1] w4 fun w5=>gAgg ⟨b_1,0,none⟩ 3 w5 fun x_6=>some (.agg ⟨x_6⟩,w5))
 (gAgg ⟨b,0,none⟩ 7 w4 fun x_7=>bnd (C As8 [.pointer k,.int .i64 env,.agg ⟨x_7⟩] w4) fun r_4 w6=>as2 r_4 fun r_5 r_6=>aInt .i64 r_5 fun x_8=>aInt .i64 r_6 fun x_9=>pAgg ⟨b_1,0,none⟩ [.int .i64 x_9,.int .i64 x_8,.slice none 0 0] w6 fun w7=>gAgg ⟨b_1,0,none⟩ 3 w7 fun x_10=>some (.agg ⟨x_10⟩,w7))):=by kernel_rfl
def Aw4:Cuts:={ globs:=0,loops:=[],regs:=[],plans:=[] }
def Bi7:List Item:=A5 Tryz.f23
theorem Dr4 (C:A1) (R:A2) (c:Option Addr) (i:Int) (h:H) :
 A4 PR Aw4 C R L9 Tryz.f23 100000 true Bi7 [(0,.pointer c),(1,.int .i64 i)] h =
 nw (.cells B9 false [.int .i64 0,.int .i64 0,.int .i64 0,.int .i64 0,.int .i64 0,.int .i64 0,.int .i64 0,.int .i64 0,.int .i64 0,.int .i64 0,.int .i64 0,.int .i64 0,.int .i64 0,.int .i64 0,.int .i64 0,.int .i64 0]) h fun b w=>bnd (C Ao6 [.int .i64 i] w) fun r w1=>aAgg r fun x=>bnd (C I3 [.pointer c,.agg ⟨x⟩,.func (.func A16) ⟨[]⟩ ⟨[]⟩] w1) fun r_1 w2=>as2 r_1 fun r_2 r_3=>aAgg r_2 fun x_1=>aInt .i64 r_3 fun x_2=>ck (List.length x_1 = 16) (pAgg ⟨b,0,none⟩ x_1 w2 fun w3=>gAgg ⟨b,0,none⟩ 16 w3 fun x_3=>some (.tuple ⟨[.agg ⟨x_3⟩,.int .i64 x_2]⟩,w3)):=by kernel_rfl
def Am1:Cuts:={ globs:=0,loops:=[],regs:=[],plans:=[] }
def Ba2:List Item:=A5 Tryz.f24
theorem Db5 (C:A1) (R:A2) (c:Option Addr) (i:Int) (p:List Value) (h:H) :
 A4 PR Am1 C R Aa4 Tryz.f24 100000 true Ba2 [(0,.pointer c),(1,.int .i64 i),(2,.agg ⟨p⟩)] h =
 nw (.cells B9 false p) h fun b w=>gAgg ⟨b,0,none⟩ 16 w fun x=>bnd (C A05 [.agg ⟨x⟩] w) fun r w1=>as2 r fun r_1 r_2=>aSl r_1 fun x_1 xn xc=>aBool r_2 fun x_2=>bnd (C Ao6 [.int .i64 i] w1) fun r_3 w2=>aAgg r_3 fun x_3=>bnd (C J9 [.pointer c,.agg ⟨x_3⟩,.slice x_1 xn xc,.bool x_2] w2) fun r_4 w3=>aBool r_4 fun x_4=>some (.bool x_4,w3):=by kernel_rfl
def Am4:Cuts:={ globs:=0,loops:=[],regs:=[],plans:=[] }
def A99:List Item:=A5 Tryz.f28
theorem Db6 (C:A1) (R:A2) (c:Option Addr) (i:Int) (f:List Value) (h:H) :
 A4 PR Am4 C R Aa3 Tryz.f28 100000 true A99 [(0,.pointer c),(1,.int .i64 i),(2,.agg ⟨f⟩)] h =
 nw (.cells H7 false f) h fun b w=>gAgg ⟨b,0,none⟩ 4 w fun x=>bnd (C A00 [.agg ⟨x⟩] w) fun r w1=>as2 r fun r_1 r_2=>aSl r_1 fun x_1 xn xc=>aBool r_2 fun x_2=>bnd (C Az7 [.int .i64 i] w1) fun r_3 w2=>aAgg r_3 fun x_3=>bnd (C J9 [.pointer c,.agg ⟨x_3⟩,.slice x_1 xn xc,.bool x_2] w2) fun r_4 w3=>aBool r_4 fun x_4=>some (.bool x_4,w3):=by kernel_rfl
def B63:Cuts:={ globs:=0,loops:=[],regs:=[],plans:=[(1,⟨[0,1,2,3,4,5,6,7],[0,1,0,4,15,12,63,127],[(3,[1]),(5,[1])],[]⟩)] }
def D74:List Item:=A5 Tryz.f53
theorem Ge9 (C:A1) (R:A2)  (h:H) :
 A4 PR B63 C R A69 Tryz.f53 100000 true D74 [] h =
 ck ((0:Int) ≤ 448 ∧ (448:Int) ≤ 448 ∧ 448 ≤ (A8:Int)) (nw (.cells A3 false (G3 (Int.toNat 448) [.int .u8 0])) h fun b w=>gCells (some ⟨b,0,none⟩) (Int.toNat 448) w fun cs=>asBytes cs fun l=>bnd (C N8 [.agg ⟨[.int .i64 0,.int .i64 0,.int .i64 1,.int .i64 1,.int .u8 0,.int .u8 0,.int .u8 0,.int .u8 0,.int .u8 0,.int .u8 0,.int .u8 0,.int .u8 0,.int .u8 0,.int .u8 0,.int .u8 0,.int .u8 0,.int .u8 0,.int .u8 0,.int .u8 0,.int .u8 0,.int .u8 0,.int .u8 0,.int .u8 0,.int .u8 0,.int .u8 0,.int .u8 0,.int .u8 0,.int .u8 0,.int .u8 0,.int .u8 0,.int .u8 0,.int .u8 0,.int .u8 0,.int .u8 0,.int .u8 0,.int .u8 0]⟩] w) fun r w1=>aStr r fun x=>gCells (some ⟨b,0,none⟩) (Int.toNat 448) w1 fun cs_1=>asBytes cs_1 fun l_1=>same (.string (ByteArray.mk ⟨l⟩)) (.string (ByteArray.mk ⟨l_1⟩)) (ck (ByteArray.size (ByteArray.mk ⟨l⟩) + ByteArray.size x ≤ A8) (bnd (C At1 [.int .i64 0] w1) fun r_1 w2=>aStr r_1 fun x_1=>gCells (some ⟨b,0,none⟩) (Int.toNat 448) w2 fun cs_2=>asBytes cs_2 fun l_2=>same (.string (ByteArray.mk ⟨l⟩)) (.string (ByteArray.mk ⟨l_2⟩)) (ck (ByteArray.size ((ByteArray.mk ⟨l⟩) ++ x) + ByteArray.size x_1 ≤ A8) (some (.string (((ByteArray.mk ⟨l⟩) ++ x) ++ x_1),w2)))))):=by kernel_rfl
def B02:Cuts:={ globs:=0,loops:=[],regs:=[],plans:=[] }
def Dt7:List Item:=A5 Tryz.f60
theorem E60 (C:A1) (R:A2) (i:Int) (h:H) :
 A4 PR B02 C R Be9 Tryz.f60 100000 true Dt7 [(0,.int .i64 i)] h =
 nw (.cells D1 false [.int .i64 0,.int .i64 0]) h fun b w=>pAgg ⟨b,0,none⟩ [.int .i64 3,.int .i64 i] w fun w1=>gAgg ⟨b,0,none⟩ 2 w1 fun x=>some (.agg ⟨x⟩,w1):=by kernel_rfl
def Aa7:Cuts:={ globs:=0,loops:=[],regs:=[(8,[6,8,11,12])],plans:=[(7,⟨[0,1,2,3,4,5,6,7,8,9],[0,1,3,7,0,31,63,31,159,511],[(7,[5])],[]⟩)] }
def Al3:List Item:=A5 Tryz.f61
def Af3:List Item:=stk [0,1,0,1,0,1,0,1,0,1,0,1,0,0] Al3
theorem Db2 (C:A1) (R:A2) (c:Option Addr) (r:List Value) (decode:Value) (h:H) :
 A4 PR Aa7 C R H1 Tryz.f61 100000 true Al3 [(0,.pointer c),(1,.agg ⟨r⟩),(2,decode)] h =
 nw (.cells D1 false r) h fun b w=>nw (.cells J0 false [.int .i64 0,.int .i64 0,.int .i64 0,.int .i64 0,.int .u8 0,.int .u8 0,.int .u8 0,.int .u8 0,.int .u8 0,.int .u8 0,.int .u8 0,.int .u8 0,.int .u8 0,.int .u8 0,.int .u8 0,.int .u8 0,.int .u8 0,.int .u8 0,.int .u8 0,.int .u8 0,.int .u8 0,.int .u8 0,.int .u8 0,.int .u8 0,.int .u8 0,.int .u8 0,.int .u8 0,.int .u8 0,.int .u8 0,.int .u8 0,.int .u8 0,.int .u8 0,.int .u8 0,.int .u8 0,.int .u8 0,.int .u8 0]) w fun b_1 w1=>nw (.cells J0 false [.int .i64 0,.int .i64 0,.int .i64 0,.int .i64 0,.int .u8 0,.int .u8 0,.int .u8 0,.int .u8 0,.int .u8 0,.int .u8 0,.int .u8 0,.int .u8 0,.int .u8 0,.int .u8 0,.int .u8 0,.int .u8 0,.int .u8 0,.int .u8 0,.int .u8 0,.int .u8 0,.int .u8 0,.int .u8 0,.int .u8 0,.int .u8 0,.int .u8 0,.int .u8 0,.int .u8 0,.int .u8 0,.int .u8 0,.int .u8 0,.int .u8 0,.int .u8 0,.int .u8 0,.int .u8 0,.int .u8 0,.int .u8 0]) w1 fun b_2 w2=>gAgg ⟨b,0,none⟩ 2 w2 fun x=>bnd (C M8 [.pointer c,.agg ⟨x⟩] w2) fun r_1 w3=>as2 r_1 fun r_2 r_3=>aSl r_2 fun x_1 xn xc=>aBool r_3 fun x_2=>cond (!x_2)
 (gAgg ⟨b_2,0,none⟩ 36 w3 fun x_3=>ck (List.length x_3 = 36) (pAgg ⟨b_1,0,none⟩ x_3 w3 fun w4=>gAgg ⟨b_1,0,none⟩ 36 w4 fun x_4=>some (.tuple ⟨[.agg ⟨x_4⟩,.int .i64 2]⟩,w4)))
 (aFn decode fun g fi cp=>bnd (C g (fi ++ ([.slice x_1 xn xc] ++ cp)) w3) fun r_4 w5=>as2 r_4 fun r_5 r_6=>aAgg r_5 fun x_5=>aInt .i64 r_6 fun x_6=>nw (.cells J0 false [.int .i64 0,.int .i64 0,.int .i64 0,.int .i64 0,.int .u8 0,.int .u8 0,.int .u8 0,.int .u8 0,.int .u8 0,.int .u8 0,.int .u8 0,.int .u8 0,.int .u8 0,.int .u8 0,.int .u8 0,.int .u8 0,.int .u8 0,.int .u8 0,.int .u8 0,.int .u8 0,.int .u8 0,.int .u8 0,.int .u8 0,.int .u8 0,.int .u8 0,.int .u8 0,.int .u8 0,.int .u8 0,.int .u8 0,.int .u8 0,.int .u8 0,.int .u8 0,.int .u8 0,.int .u8 0,.int .u8 0,.int .u8 0]) w5 fun b_3 w6=>ck (List.length x_5 = 36) (pAgg ⟨b_3,0,none⟩ x_5 w6 fun w7=>cond (x_6 == 2)
 (aSome c fun p=>gMap (Addr.add p 3) w7 fun x_7=>gAgg ⟨b,0,none⟩ 2 w7 fun x_8=>keyN PR D1 (.agg ⟨x_8⟩) (opt x_7 fun r_7=>mapAt w7 r_7 fun es _=>opt (Ai5 (.int .i64 0) (.agg ⟨x_8⟩) es) fun f=>aInt .i64 f.1 fun x_9=>keyN PR D1 (.agg ⟨x_8⟩) (opt x_7 fun r_8=>mapAt w7 r_8 fun es_1 cl_1=>opt (Do6 (.int .i64 0) (.agg ⟨x_8⟩) es_1 cl_1) fun f_1=>aInt .i64 f_1.1 fun _=>lt (H.set w7 r_8 f_1.2.2) fun w8=>keyN PR D1 (.agg ⟨x_8⟩) (opt x_7 fun r_9=>mapAt w8 r_9 fun es_2 _=>opt (Ai5 (.int .i64 0) (.agg ⟨x_8⟩) es_2) fun f_2=>aInt .i64 f_2.1 fun x_11=>same (.int .i64 x_9) (.int .i64 x_11) (opt x_7 fun r_10=>mapAt w8 r_10 fun es_3 cl_3=>opt (Be3 (f_1.2.1:Int) es_3 0) fun i=>lt (H.set w8 r_10 (.map (modN (fun e=>{ e with val:=.int .i64 (IntKind.wrap .i64 (x_9 + 1)) }) i es_3) cl_3)) fun w9=>R H1 Af3 [(6,.pointer (some ⟨b_1,0,none⟩)),(8,.pointer (some ⟨b_2,0,none⟩)),(11,.pointer (some ⟨b_3,0,none⟩)),(12,.int .i64 x_6)] w9)))))
 (R H1 Af3 [(6,.pointer (some ⟨b_1,0,none⟩)),(8,.pointer (some ⟨b_2,0,none⟩)),(11,.pointer (some ⟨b_3,0,none⟩)),(12,.int .i64 x_6)] w7))):=by kernel_rfl
theorem A14 (C:A1) (R:A2) (x6:Addr) (nonev:Addr) (v:Addr) (isv:Int) (h:H) :
 A4 PR Aa7 C R H1 Tryz.f61 100000 true Af3 [(6,.pointer (some x6)),(8,.pointer (some nonev)),(11,.pointer (some v)),(12,.int .i64 isv)] h =
 cond (isv != 1)
 (gAgg nonev 36 h fun x=>ck (List.length x = 36) (pAgg x6 x h fun w=>gAgg x6 36 w fun x_1=>some (.tuple ⟨[.agg ⟨x_1⟩,.int .i64 isv]⟩,w)))
 (gAgg v 36 h fun x_2=>ck (List.length x_2 = 36) (pAgg x6 x_2 h fun w1=>gAgg x6 36 w1 fun x_3=>some (.tuple ⟨[.agg ⟨x_3⟩,.int .i64 isv]⟩,w1))):=by kernel_rfl
def B77:Cuts:={ globs:=0,loops:=[],regs:=[],plans:=[] }
def D53:List Item:=A5 Tryz.f62
theorem Gf6 (C:A1) (R:A2) (b:Option Addr) (bn bc:Nat) (h:H) :
 A4 PR B77 C R As6 Tryz.f62 100000 true D53 [(0,.slice b bn bc)] h =
 nw (.cells J0 false [.int .i64 0,.int .i64 0,.int .i64 0,.int .i64 0,.int .u8 0,.int .u8 0,.int .u8 0,.int .u8 0,.int .u8 0,.int .u8 0,.int .u8 0,.int .u8 0,.int .u8 0,.int .u8 0,.int .u8 0,.int .u8 0,.int .u8 0,.int .u8 0,.int .u8 0,.int .u8 0,.int .u8 0,.int .u8 0,.int .u8 0,.int .u8 0,.int .u8 0,.int .u8 0,.int .u8 0,.int .u8 0,.int .u8 0,.int .u8 0,.int .u8 0,.int .u8 0,.int .u8 0,.int .u8 0,.int .u8 0,.int .u8 0]) h fun b_1 w=>bnd (cond (((bn:Nat):Int) == 40) (bnd (C Aj1 [.slice b bn bc] w) fun r w1=>aBool r fun x=>some (x,w1)) (some (false,w))) fun c w2=>cond c
 (pAgg ⟨b_1,0,none⟩ [.int .i64 0,.int .i64 0,.int .i64 0,.int .i64 0,.int .u8 0,.int .u8 0,.int .u8 0,.int .u8 0,.int .u8 0,.int .u8 0,.int .u8 0,.int .u8 0,.int .u8 0,.int .u8 0,.int .u8 0,.int .u8 0,.int .u8 0,.int .u8 0,.int .u8 0,.int .u8 0,.int .u8 0,.int .u8 0,.int .u8 0,.int .u8 0,.int .u8 0,.int .u8 0,.int .u8 0,.int .u8 0,.int .u8 0,.int .u8 0,.int .u8 0,.int .u8 0,.int .u8 0,.int .u8 0,.int .u8 0,.int .u8 0] w2 fun w3=>gAgg ⟨b_1,0,none⟩ 36 w3 fun x_1=>some (.tuple ⟨[.agg ⟨x_1⟩,.int .i64 0]⟩,w3))
 (bnd (C Bb8 [] w2) fun r_1 w4=>aPtr r_1 fun x_2=>bnd (C S5 [.pointer x_2,.slice b bn bc] w4) fun r_2 w5=>as2 r_2 fun r_3 r_4=>aAgg r_3 fun x_3=>aBool r_4 fun x_4=>nw (.cells J0 false [.int .i64 0,.int .i64 0,.int .i64 0,.int .i64 0,.int .u8 0,.int .u8 0,.int .u8 0,.int .u8 0,.int .u8 0,.int .u8 0,.int .u8 0,.int .u8 0,.int .u8 0,.int .u8 0,.int .u8 0,.int .u8 0,.int .u8 0,.int .u8 0,.int .u8 0,.int .u8 0,.int .u8 0,.int .u8 0,.int .u8 0,.int .u8 0,.int .u8 0,.int .u8 0,.int .u8 0,.int .u8 0,.int .u8 0,.int .u8 0,.int .u8 0,.int .u8 0,.int .u8 0,.int .u8 0,.int .u8 0,.int .u8 0]) w5 fun b_2 w6=>ck (List.length x_3 = 36) (pAgg ⟨b_2,0,none⟩ x_3 w6 fun w7=>cond (!x_4)
 (pAgg ⟨b_1,0,none⟩ [.int .i64 0,.int .i64 0,.int .i64 0,.int .i64 0,.int .u8 0,.int .u8 0,.int .u8 0,.int .u8 0,.int .u8 0,.int .u8 0,.int .u8 0,.int .u8 0,.int .u8 0,.int .u8 0,.int .u8 0,.int .u8 0,.int .u8 0,.int .u8 0,.int .u8 0,.int .u8 0,.int .u8 0,.int .u8 0,.int .u8 0,.int .u8 0,.int .u8 0,.int .u8 0,.int .u8 0,.int .u8 0,.int .u8 0,.int .u8 0,.int .u8 0,.int .u8 0,.int .u8 0,.int .u8 0,.int .u8 0,.int .u8 0] w7 fun w8=>gAgg ⟨b_1,0,none⟩ 36 w8 fun x_5=>some (.tuple ⟨[.agg ⟨x_5⟩,.int .i64 2]⟩,w8))
 (gAgg ⟨b_2,0,none⟩ 36 w7 fun x_6=>ck (List.length x_6 = 36) (pAgg ⟨b_1,0,none⟩ x_6 w7 fun w9=>gAgg ⟨b_1,0,none⟩ 36 w9 fun x_7=>some (.tuple ⟨[.agg ⟨x_7⟩,.int .i64 1]⟩,w9))))):=by kernel_rfl
def Bh6:Cuts:={ globs:=0,loops:=[],regs:=[],plans:=[(4,⟨[0,1,2,3,4,5,6,7,8,9,10,11,12,13,14,15,16],[0,1,3,7,0,0,32,0,128,0,512,2047,4095,8191,8191,16383,65535],[],[]⟩),(6,⟨[0,1,2,3,4,5,6,7,8,9,10,11,12],[0,1,3,7,0,0,32,0,128,0,512,2047,4095],[],[]⟩),(8,⟨[0,1,2,3,4,5,6,7,8,9,10,11,12,13,14,15,16],[0,1,3,7,0,0,32,0,128,0,512,0,2048,0,8192,32767,65535],[],[]⟩)] }
def B92:List Item:=A5 Tryz.f67
theorem Em7 (C:A1) (R:A2) (k:Option Addr) (env:Int) (c:List Value) (h:H) :
 A4 PR Bh6 C R Ay3 Tryz.f67 100000 true B92 [(0,.pointer k),(1,.int .i64 env),(2,.agg ⟨c⟩)] h =
 nw (.cells At9 false c) h fun b w=>gInt .i64 (Addr.add ⟨b,0,none⟩ 0) w fun x=>cond (x == 1)
 (aSome k fun p=>gPtr (Addr.add p 5) w fun x_1=>gInt .i64 (Addr.add ⟨b,0,none⟩ 1) w fun x_2=>gInt .i64 (Addr.add ⟨b,0,none⟩ 2) w fun x_3=>gInt .i64 (Addr.add ⟨b,0,none⟩ 3) w fun x_4=>bnd (C Z3 [.pointer x_1,.int .i64 env,.int .i64 x_2,.int .i64 x_3,.int .i64 x_4] w) fun r w1=>as2 r fun r_1 r_2=>aSl r_1 fun x_5 xn xc=>aInt .i64 r_2 fun x_6=>some (.tuple ⟨[.slice x_5 xn xc,.int .i64 x_6,.bool true]⟩,w1))
 (cond (x == 2)
 (aSome k fun p_1=>gPtr (Addr.add p_1 5) w fun x_7=>gInt .i64 (Addr.add ⟨b,0,none⟩ 1) w fun x_8=>gInt .i64 (Addr.add ⟨b,0,none⟩ 2) w fun x_9=>gSl (Addr.add ⟨b,0,none⟩ 6) w fun x_10 xn_1 xc_1=>bnd (C W8 [.pointer x_7,.int .i64 env,.int .i64 x_8,.int .i64 x_9,.slice x_10 xn_1 xc_1] w) fun r_3 w2=>aInt .i64 r_3 fun x_11=>some (.tuple ⟨[.slice none 0 0,.int .i64 x_11,.bool true]⟩,w2))
 (cond (x == 3)
 (aSome k fun p_2=>gPtr (Addr.add p_2 5) w fun x_12=>gInt .i64 (Addr.add ⟨b,0,none⟩ 1) w fun x_13=>gInt .i64 (Addr.add ⟨b,0,none⟩ 2) w fun x_14=>gInt .i64 (Addr.add ⟨b,0,none⟩ 4) w fun x_15=>gInt .i64 (Addr.add ⟨b,0,none⟩ 5) w fun x_16=>gInt .i64 (Addr.add ⟨b,0,none⟩ 3) w fun x_17=>bnd (C Ai9 [.pointer x_12,.int .i64 env,.int .i64 x_13,.int .i64 x_14,.int .i64 x_15,.int .i64 x_16,.int .i64 x_17] w) fun r_4 w3=>aInt .i64 r_4 fun x_18=>some (.tuple ⟨[.slice none 0 0,.int .i64 x_18,.bool true]⟩,w3))
 (some (.tuple ⟨[.slice none 0 0,.int .i64 0,.bool false]⟩,w)))):=by kernel_rfl
def Aa9:Cuts:={ globs:=0,loops:=[],regs:=[(8,[6,8,11,12])],plans:=[(7,⟨[0,1,2,3,4,5,6,7,8,9],[0,1,3,7,0,31,63,31,159,511],[(7,[5])],[]⟩)] }
def Ak4:List Item:=A5 Tryz.f69
def Af0:List Item:=stk [0,1,0,1,0,1,0,1,0,1,0,1,0,0] Ak4
theorem Da4 (C:A1) (R:A2) (c:Option Addr) (r:List Value) (decode:Value) (h:H) :
 A4 PR Aa9 C R I3 Tryz.f69 100000 true Ak4 [(0,.pointer c),(1,.agg ⟨r⟩),(2,decode)] h =
 nw (.cells D1 false r) h fun b w=>nw (.cells B9 false [.int .i64 0,.int .i64 0,.int .i64 0,.int .i64 0,.int .i64 0,.int .i64 0,.int .i64 0,.int .i64 0,.int .i64 0,.int .i64 0,.int .i64 0,.int .i64 0,.int .i64 0,.int .i64 0,.int .i64 0,.int .i64 0]) w fun b_1 w1=>nw (.cells B9 false [.int .i64 0,.int .i64 0,.int .i64 0,.int .i64 0,.int .i64 0,.int .i64 0,.int .i64 0,.int .i64 0,.int .i64 0,.int .i64 0,.int .i64 0,.int .i64 0,.int .i64 0,.int .i64 0,.int .i64 0,.int .i64 0]) w1 fun b_2 w2=>gAgg ⟨b,0,none⟩ 2 w2 fun x=>bnd (C M8 [.pointer c,.agg ⟨x⟩] w2) fun r_1 w3=>as2 r_1 fun r_2 r_3=>aSl r_2 fun x_1 xn xc=>aBool r_3 fun x_2=>cond (!x_2)
 (gAgg ⟨b_2,0,none⟩ 16 w3 fun x_3=>ck (List.length x_3 = 16) (pAgg ⟨b_1,0,none⟩ x_3 w3 fun w4=>gAgg ⟨b_1,0,none⟩ 16 w4 fun x_4=>some (.tuple ⟨[.agg ⟨x_4⟩,.int .i64 2]⟩,w4)))
 (aFn decode fun g fi cp=>bnd (C g (fi ++ ([.slice x_1 xn xc] ++ cp)) w3) fun r_4 w5=>as2 r_4 fun r_5 r_6=>aAgg r_5 fun x_5=>aInt .i64 r_6 fun x_6=>nw (.cells B9 false [.int .i64 0,.int .i64 0,.int .i64 0,.int .i64 0,.int .i64 0,.int .i64 0,.int .i64 0,.int .i64 0,.int .i64 0,.int .i64 0,.int .i64 0,.int .i64 0,.int .i64 0,.int .i64 0,.int .i64 0,.int .i64 0]) w5 fun b_3 w6=>ck (List.length x_5 = 16) (pAgg ⟨b_3,0,none⟩ x_5 w6 fun w7=>cond (x_6 == 2)
 (aSome c fun p=>gMap (Addr.add p 3) w7 fun x_7=>gAgg ⟨b,0,none⟩ 2 w7 fun x_8=>keyN PR D1 (.agg ⟨x_8⟩) (opt x_7 fun r_7=>mapAt w7 r_7 fun es _=>opt (Ai5 (.int .i64 0) (.agg ⟨x_8⟩) es) fun f=>aInt .i64 f.1 fun x_9=>keyN PR D1 (.agg ⟨x_8⟩) (opt x_7 fun r_8=>mapAt w7 r_8 fun es_1 cl_1=>opt (Do6 (.int .i64 0) (.agg ⟨x_8⟩) es_1 cl_1) fun f_1=>aInt .i64 f_1.1 fun _=>lt (H.set w7 r_8 f_1.2.2) fun w8=>keyN PR D1 (.agg ⟨x_8⟩) (opt x_7 fun r_9=>mapAt w8 r_9 fun es_2 _=>opt (Ai5 (.int .i64 0) (.agg ⟨x_8⟩) es_2) fun f_2=>aInt .i64 f_2.1 fun x_11=>same (.int .i64 x_9) (.int .i64 x_11) (opt x_7 fun r_10=>mapAt w8 r_10 fun es_3 cl_3=>opt (Be3 (f_1.2.1:Int) es_3 0) fun i=>lt (H.set w8 r_10 (.map (modN (fun e=>{ e with val:=.int .i64 (IntKind.wrap .i64 (x_9 + 1)) }) i es_3) cl_3)) fun w9=>R I3 Af0 [(6,.pointer (some ⟨b_1,0,none⟩)),(8,.pointer (some ⟨b_2,0,none⟩)),(11,.pointer (some ⟨b_3,0,none⟩)),(12,.int .i64 x_6)] w9)))))
 (R I3 Af0 [(6,.pointer (some ⟨b_1,0,none⟩)),(8,.pointer (some ⟨b_2,0,none⟩)),(11,.pointer (some ⟨b_3,0,none⟩)),(12,.int .i64 x_6)] w7))):=by kernel_rfl
theorem Az3 (C:A1) (R:A2) (x6:Addr) (nonev:Addr) (v:Addr) (isv:Int) (h:H) :
 A4 PR Aa9 C R I3 Tryz.f69 100000 true Af0 [(6,.pointer (some x6)),(8,.pointer (some nonev)),(11,.pointer (some v)),(12,.int .i64 isv)] h =
 cond (isv != 1)
 (gAgg nonev 16 h fun x=>ck (List.length x = 16) (pAgg x6 x h fun w=>gAgg x6 16 w fun x_1=>some (.tuple ⟨[.agg ⟨x_1⟩,.int .i64 isv]⟩,w)))
 (gAgg v 16 h fun x_2=>ck (List.length x_2 = 16) (pAgg x6 x_2 h fun w1=>gAgg x6 16 w1 fun x_3=>some (.tuple ⟨[.agg ⟨x_3⟩,.int .i64 isv]⟩,w1))):=by kernel_rfl
def Bx9:Cuts:={ globs:=0,loops:=[],regs:=[],plans:=[] }
def Dt0:List Item:=A5 Tryz.f70
theorem Ga0 (C:A1) (R:A2) (i:Int) (h:H) :
 A4 PR Bx9 C R Ao6 Tryz.f70 100000 true Dt0 [(0,.int .i64 i)] h =
 nw (.cells D1 false [.int .i64 0,.int .i64 0]) h fun b w=>pAgg ⟨b,0,none⟩ [.int .i64 1,.int .i64 i] w fun w1=>gAgg ⟨b,0,none⟩ 2 w1 fun x=>some (.agg ⟨x⟩,w1):=by kernel_rfl
def By0:Cuts:={ globs:=0,loops:=[],regs:=[],plans:=[(1,⟨[1,0,2,3,4,5,6],[0,0,3,7,7,31,63],[(0,[1])],[]⟩)] }
def Du7:List Item:=A5 Tryz.f72
theorem E98 (C:A1) (R:A2) (p:List Value) (h:H) :
 A4 PR By0 C R A05 Tryz.f72 100000 true Du7 [(0,.agg ⟨p⟩)] h =
 nw (.cells B9 false p) h fun b w=>gAgg ⟨b,0,none⟩ 16 w fun x=>bnd (C A74 [] w) fun r w1=>aPtr r fun x_1=>gAgg ⟨b,0,none⟩ 16 w1 fun x_2=>same (.agg ⟨x⟩) (.agg ⟨x_2⟩) (bnd (C S4 [.pointer x_1,.agg ⟨x⟩] w1) fun r_1 w2=>as2 r_1 fun r_2 r_3=>aSl r_2 fun x_3 xn xc=>aBool r_3 fun x_4=>some (.tuple ⟨[.slice x_3 xn xc,.bool x_4]⟩,w2)):=by kernel_rfl
def Bh1:Cuts:={ globs:=0,loops:=[],regs:=[],plans:=[] }
def B87:List Item:=A5 Tryz.f78
theorem En8 (C:A1) (R:A2) (f:List Value) (h:H) :
 A4 PR Bh1 C R Ay2 Tryz.f78 100000 true B87 [(0,.agg ⟨f⟩)] h =
 nw (.cells H7 false f) h fun b w=>gInt .i64 (Addr.add ⟨b,0,none⟩ 0) w fun x=>gInt .i64 (Addr.add ⟨b,0,none⟩ 1) w fun x_1=>gInt .i64 (Addr.add ⟨b,0,none⟩ 2) w fun x_2=>gInt .i64 (Addr.add ⟨b,0,none⟩ 3) w fun x_3=>nw (.cells A3 false [.int .u8 (IntKind.wrap .u8 (x)),.int .u8 (IntKind.wrap .u8 (x_1)),.int .u8 (IntKind.wrap .u8 (x_2)),.int .u8 (IntKind.wrap .u8 (x_3)),.int .u8 179]) w fun b_1 w1=>gCells (some ⟨b_1,0,none⟩) 5 w1 fun cs=>asBytes cs fun l=>bnd (C Ab9 [.string (ByteArray.mk ⟨l⟩)] w1) fun r w2=>aInt .u8 r fun x_4=>nw (.cells A3 false [.int .u8 x_4,.int .u8 0,.int .u8 0]) w2 fun b_2 w3=>gCells (some ⟨b_2,0,none⟩) 3 w3 fun cs_1=>asBytes cs_1 fun l_1=>ck (ByteArray.size (ByteArray.mk ⟨l⟩) + ByteArray.size (ByteArray.mk ⟨l_1⟩) ≤ A8) (some (.string ((ByteArray.mk ⟨l⟩) ++ (ByteArray.mk ⟨l_1⟩)),w3)):=by kernel_rfl
def B19:Cuts:={ globs:=0,loops:=[(2,[0,6])],regs:=[],plans:=[] }
def Dr2:List Item:=A5 Tryz.f81
def Bd8:List Item:=stk [0,1,0,0,1,4,5] Dr2
theorem G18 (C:A1) (R:A2) (c:Option Addr) (h:H) :
 A4 PR B19 C R An9 Tryz.f81 100000 true Dr2 [(0,.pointer c)] h =
 R An9 Bd8 [(0,.pointer c),(6,.int .i64 0)] h:=by kernel_rfl
theorem Dt3 (C:A1) (R:A2) (c:Option Addr) (x6:Int) (h:H) :
 A4 PR B19 C R An9 Tryz.f81 100000 true Bd8 [(0,.pointer c),(6,.int .i64 x6)] h =
 cond (decide (x6 < 8))
 (bnd (C L9 [.pointer c,.int .i64 x6] h) fun r w=>as2 r fun r_1 r_2=>aAgg r_1 fun x=>aInt .i64 r_2 fun x_1=>nw (.cells B9 false [.int .i64 0,.int .i64 0,.int .i64 0,.int .i64 0,.int .i64 0,.int .i64 0,.int .i64 0,.int .i64 0,.int .i64 0,.int .i64 0,.int .i64 0,.int .i64 0,.int .i64 0,.int .i64 0,.int .i64 0,.int .i64 0]) w fun b w1=>ck (List.length x = 16) (pAgg ⟨b,0,none⟩ x w1 fun w2=>cond (x_1 == 0)
 (some (.int .i64 x6,w2))
 (R An9 Bd8 [(0,.pointer c),(6,.int .i64 (IntKind.wrap .i64 (x6 + 1)))] w2)))
 (some (.int .i64 (-1),h)):=by kernel_rfl
def Aa0:Cuts:={ globs:=0,loops:=[],regs:=[(8,[6,8,11,12])],plans:=[(7,⟨[0,1,2,3,4,5,6,7,8,9],[0,1,3,7,0,31,63,31,159,511],[(7,[5])],[]⟩)] }
def Al9:List Item:=A5 Tryz.f84
def Af6:List Item:=stk [0,1,0,1,0,1,0,1,0,1,0,1,0,0] Al9
theorem Db0 (C:A1) (R:A2) (c:Option Addr) (r:List Value) (decode:Value) (h:H) :
 A4 PR Aa0 C R I0 Tryz.f84 100000 true Al9 [(0,.pointer c),(1,.agg ⟨r⟩),(2,decode)] h =
 nw (.cells D1 false r) h fun b w=>nw (.cells H7 false [.int .i64 0,.int .i64 0,.int .i64 0,.int .i64 0]) w fun b_1 w1=>nw (.cells H7 false [.int .i64 0,.int .i64 0,.int .i64 0,.int .i64 0]) w1 fun b_2 w2=>gAgg ⟨b,0,none⟩ 2 w2 fun x=>bnd (C M8 [.pointer c,.agg ⟨x⟩] w2) fun r_1 w3=>as2 r_1 fun r_2 r_3=>aSl r_2 fun x_1 xn xc=>aBool r_3 fun x_2=>cond (!x_2)
 (gAgg ⟨b_2,0,none⟩ 4 w3 fun x_3=>ck (List.length x_3 = 4) (pAgg ⟨b_1,0,none⟩ x_3 w3 fun w4=>gAgg ⟨b_1,0,none⟩ 4 w4 fun x_4=>some (.tuple ⟨[.agg ⟨x_4⟩,.int .i64 2]⟩,w4)))
 (aFn decode fun g fi cp=>bnd (C g (fi ++ ([.slice x_1 xn xc] ++ cp)) w3) fun r_4 w5=>as2 r_4 fun r_5 r_6=>aAgg r_5 fun x_5=>aInt .i64 r_6 fun x_6=>nw (.cells H7 false [.int .i64 0,.int .i64 0,.int .i64 0,.int .i64 0]) w5 fun b_3 w6=>ck (List.length x_5 = 4) (pAgg ⟨b_3,0,none⟩ x_5 w6 fun w7=>cond (x_6 == 2)
 (aSome c fun p=>gMap (Addr.add p 3) w7 fun x_7=>gAgg ⟨b,0,none⟩ 2 w7 fun x_8=>keyN PR D1 (.agg ⟨x_8⟩) (opt x_7 fun r_7=>mapAt w7 r_7 fun es _=>opt (Ai5 (.int .i64 0) (.agg ⟨x_8⟩) es) fun f=>aInt .i64 f.1 fun x_9=>keyN PR D1 (.agg ⟨x_8⟩) (opt x_7 fun r_8=>mapAt w7 r_8 fun es_1 cl_1=>opt (Do6 (.int .i64 0) (.agg ⟨x_8⟩) es_1 cl_1) fun f_1=>aInt .i64 f_1.1 fun _=>lt (H.set w7 r_8 f_1.2.2) fun w8=>keyN PR D1 (.agg ⟨x_8⟩) (opt x_7 fun r_9=>mapAt w8 r_9 fun es_2 _=>opt (Ai5 (.int .i64 0) (.agg ⟨x_8⟩) es_2) fun f_2=>aInt .i64 f_2.1 fun x_11=>same (.int .i64 x_9) (.int .i64 x_11) (opt x_7 fun r_10=>mapAt w8 r_10 fun es_3 cl_3=>opt (Be3 (f_1.2.1:Int) es_3 0) fun i=>lt (H.set w8 r_10 (.map (modN (fun e=>{ e with val:=.int .i64 (IntKind.wrap .i64 (x_9 + 1)) }) i es_3) cl_3)) fun w9=>R I0 Af6 [(6,.pointer (some ⟨b_1,0,none⟩)),(8,.pointer (some ⟨b_2,0,none⟩)),(11,.pointer (some ⟨b_3,0,none⟩)),(12,.int .i64 x_6)] w9)))))
 (R I0 Af6 [(6,.pointer (some ⟨b_1,0,none⟩)),(8,.pointer (some ⟨b_2,0,none⟩)),(11,.pointer (some ⟨b_3,0,none⟩)),(12,.int .i64 x_6)] w7))):=by kernel_rfl
theorem A17 (C:A1) (R:A2) (x6:Addr) (nonev:Addr) (v:Addr) (isv:Int) (h:H) :
 A4 PR Aa0 C R I0 Tryz.f84 100000 true Af6 [(6,.pointer (some x6)),(8,.pointer (some nonev)),(11,.pointer (some v)),(12,.int .i64 isv)] h =
 cond (isv != 1)
 (gAgg nonev 4 h fun x=>ck (List.length x = 4) (pAgg x6 x h fun w=>gAgg x6 4 w fun x_1=>some (.tuple ⟨[.agg ⟨x_1⟩,.int .i64 isv]⟩,w)))
 (gAgg v 4 h fun x_2=>ck (List.length x_2 = 4) (pAgg x6 x_2 h fun w1=>gAgg x6 4 w1 fun x_3=>some (.tuple ⟨[.agg ⟨x_3⟩,.int .i64 isv]⟩,w1))):=by kernel_rfl
def By8:Cuts:={ globs:=0,loops:=[],regs:=[],plans:=[] }
def Dw0:List Item:=A5 Tryz.f85
theorem E44 (C:A1) (R:A2) (b:Option Addr) (bn bc:Nat) (h:H) :
 A4 PR By8 C R A13 Tryz.f85 100000 true Dw0 [(0,.slice b bn bc)] h =
 nw (.cells H7 false [.int .i64 0,.int .i64 0,.int .i64 0,.int .i64 0]) h fun b_1 w=>bnd (cond (((bn:Nat):Int) == 8) (bnd (C Aj1 [.slice b bn bc] w) fun r w1=>aBool r fun x=>some (x,w1)) (some (false,w))) fun c w2=>cond c
 (pAgg ⟨b_1,0,none⟩ [.int .i64 0,.int .i64 0,.int .i64 0,.int .i64 0] w2 fun w3=>gAgg ⟨b_1,0,none⟩ 4 w3 fun x_1=>some (.tuple ⟨[.agg ⟨x_1⟩,.int .i64 0]⟩,w3))
 (bnd (C A61 [] w2) fun r_1 w4=>aPtr r_1 fun x_2=>bnd (C R0 [.pointer x_2,.slice b bn bc] w4) fun r_2 w5=>as2 r_2 fun r_3 r_4=>aAgg r_3 fun x_3=>aBool r_4 fun x_4=>nw (.cells H7 false [.int .i64 0,.int .i64 0,.int .i64 0,.int .i64 0]) w5 fun b_2 w6=>ck (List.length x_3 = 4) (pAgg ⟨b_2,0,none⟩ x_3 w6 fun w7=>cond (!x_4)
 (pAgg ⟨b_1,0,none⟩ [.int .i64 0,.int .i64 0,.int .i64 0,.int .i64 0] w7 fun w8=>gAgg ⟨b_1,0,none⟩ 4 w8 fun x_5=>some (.tuple ⟨[.agg ⟨x_5⟩,.int .i64 2]⟩,w8))
 (gAgg ⟨b_2,0,none⟩ 4 w7 fun x_6=>ck (List.length x_6 = 4) (pAgg ⟨b_1,0,none⟩ x_6 w7 fun w9=>gAgg ⟨b_1,0,none⟩ 4 w9 fun x_7=>some (.tuple ⟨[.agg ⟨x_7⟩,.int .i64 1]⟩,w9))))):=by kernel_rfl
def Bv6:Cuts:={ globs:=0,loops:=[(3,[0,1,5,10])],regs:=[],plans:=[] }
def Dh1:List Item:=A5 Tryz.f88
def At5:List Item:=stk [0,1,0,1,0,0,1,4,5] Dh1
theorem Go6 (C:A1) (R:A2) (c:Option Addr) (of:Value) (h:H) :
 A4 PR Bv6 C R Ac1 Tryz.f88 100000 true Dh1 [(0,.pointer c),(1,of)] h =
 R Ac1 At5 [(0,.pointer c),(1,of),(5,.slice none 0 0),(10,.int .i64 0)] h:=by kernel_rfl
theorem Dl7 (C:A1) (R:A2) (c:Option Addr) (of:Value) (out:Option Addr) (outn outc:Nat) (x10:Int) (h:H) :
 A4 PR Bv6 C R Ac1 Tryz.f88 100000 true At5 [(0,.pointer c),(1,of),(5,.slice out outn outc),(10,.int .i64 x10)] h =
 cond (decide (x10 < 8))
 (bnd (C L9 [.pointer c,.int .i64 x10] h) fun r w=>as2 r fun r_1 r_2=>aAgg r_1 fun x=>aInt .i64 r_2 fun x_1=>nw (.cells B9 false [.int .i64 0,.int .i64 0,.int .i64 0,.int .i64 0,.int .i64 0,.int .i64 0,.int .i64 0,.int .i64 0,.int .i64 0,.int .i64 0,.int .i64 0,.int .i64 0,.int .i64 0,.int .i64 0,.int .i64 0,.int .i64 0]) w fun b w1=>ck (List.length x = 16) (pAgg ⟨b,0,none⟩ x w1 fun w2=>gAgg ⟨b,0,none⟩ 16 w2 fun x_2=>ck (List.length x_2 = 16) (nw (.cells U3 false [.int .i64 0,.int .i64 0,.int .i64 0,.int .i64 0,.int .i64 0,.int .i64 0,.int .i64 0,.int .i64 0,.int .i64 0,.int .i64 0,.int .i64 0,.int .i64 0,.int .i64 0,.int .i64 0,.int .i64 0,.int .i64 0,.int .i64 0]) w2 fun b_1 w3=>ck (List.length (.int .i64 x10 :: (x_2 ++ [])) = 17) (pAgg ⟨b_1,0,none⟩ (.int .i64 x10 :: (x_2 ++ [])) w3 fun w4=>bnd (cond (x_1 == 1) (gAgg ⟨b_1,0,none⟩ 17 w4 fun x_3=>aFn of fun g fi cp=>bnd (C g (fi ++ ([.agg ⟨x_3⟩] ++ cp)) w4) fun r_3 w5=>aBool r_3 fun x_4=>some (x_4,w5)) (some (false,w4))) fun c_1 w6=>cond c_1
 (gAgg ⟨b_1,0,none⟩ 17 w6 fun x_5=>ck (List.length x_5 = 17) (nw (.cells U3 false (x_5 ++ [])) w6 fun b_2 w7=>gCells (some ⟨b_2,0,none⟩) (1 * 17) w7 fun cs=>ckB (fitsOpen out U3 w7) (apd U3 17 out outn outc 1 cs w7 fun a an ac w8=>R Ac1 At5 [(0,.pointer c),(1,of),(5,.slice a an ac),(10,.int .i64 (IntKind.wrap .i64 (x10 + 1)))] w8)))
 (R Ac1 At5 [(0,.pointer c),(1,of),(5,.slice out outn outc),(10,.int .i64 (IntKind.wrap .i64 (x10 + 1)))] w6)))))
 (some (.slice out outn outc,h)):=by kernel_rfl
def Bg4:Cuts:={ globs:=0,loops:=[],regs:=[],plans:=[] }
def B94:List Item:=A5 Tryz.f90
theorem En4 (C:A1) (R:A2) (x:List Value) (h:H) :
 A4 PR Bg4 C R Ay1 Tryz.f90 100000 true B94 [(0,.agg ⟨x⟩)] h =
 nw (.cells U3 false x) h fun b w=>gInt .i64 (Addr.add (Addr.add ⟨b,0,none⟩ 1) 0) w fun x_1=>some (.bool (x_1 != 2),w):=by kernel_rfl
def D85:Cuts:={ globs:=0,loops:=[],regs:=[],plans:=[] }
def Ga6:List Item:=A5 Tryz.f113
theorem Hi6 (C:A1) (R:A2) (frames:Int) (h:H) :
 A4 PR D85 C R Dk8 Tryz.f113 100000 true Ga6 [(0,.int .i64 frames)] h =
 ck ((0:Int) ≤ IntKind.wrap .i64 (64 * (mm2 false (mm2 true frames 0) 256)) ∧ (IntKind.wrap .i64 (64 * (mm2 false (mm2 true frames 0) 256)):Int) ≤ IntKind.wrap .i64 (64 * (mm2 false (mm2 true frames 0) 256)) ∧ IntKind.wrap .i64 (64 * (mm2 false (mm2 true frames 0) 256)) ≤ (A8:Int)) (nw (.cells A3 false (G3 (Int.toNat (IntKind.wrap .i64 (64 * (mm2 false (mm2 true frames 0) 256)))) [.int .u8 0])) h fun b w=>nw (.cells Eb4 false [.slice (some ⟨b,0,none⟩) (Int.toNat (IntKind.wrap .i64 (64 * (mm2 false (mm2 true frames 0) 256)))) (Int.toNat (IntKind.wrap .i64 (64 * (mm2 false (mm2 true frames 0) 256))))]) w fun b_1 w1=>some (.pointer (some ⟨b_1,0,none⟩),w1)):=by kernel_rfl
def Dx7:Cuts:={ globs:=0,loops:=[],regs:=[],plans:=[] }
def E26:List Item:=A5 Tryz.f117
theorem G57 (C:A1) (R:A2) (lease:Int) (h:H) :
 A4 PR Dx7 C R Da7 Tryz.f117 100000 true E26 [(0,.int .i64 lease)] h =
 nw (.cells Eq2 false [.int .i64 (mm2 false (mm2 true lease 1) 1000),.bool false,.int .i64 0,.int .i64 0,.int .i64 0,.slice none 0 0,.int .i64 0,.int .i64 0,.int .i64 0]) h fun b w=>some (.pointer (some ⟨b,0,none⟩),w):=by kernel_rfl
def A48:Cuts:={ globs:=0,loops:=[],regs:=[],plans:=[] }
def Bw1:List Item:=A5 Tryz.f118
theorem Dx8 (C:A1) (R:A2) (r:Option Addr) (lo:Int) (n:Int) (h:H) :
 A4 PR A48 C R Ak5 Tryz.f118 100000 true Bw1 [(0,.pointer r),(1,.int .i64 lo),(2,.int .i64 n)] h =
 bnd (cond (decide (lo < 0)) (some (true,h)) (some (decide (n < 0),h))) fun c w=>bnd (cond c (some (true,w)) (aSome r fun p=>gPtr (Addr.add p 0) w fun x=>bnd (C Az8 [.pointer x] w) fun r_1 w1=>aInt .i64 r_1 fun x_1=>some (decide (lo > x_1),w1))) fun c_1 w2=>bnd (cond c_1 (some (true,w2)) (aSome r fun p_1=>gPtr (Addr.add p_1 0) w2 fun x_2=>bnd (C Az8 [.pointer x_2] w2) fun r_2 w3=>aInt .i64 r_2 fun x_3=>some (decide (n > (IntKind.wrap .i64 (x_3 - lo))),w3))) fun c_2 w4=>cond c_2
 (some (.tuple ⟨[.int .i64 0,.int .i64 1]⟩,w4))
 (aSome r fun p_2=>gSl (Addr.add p_2 2) w4 fun _ xn _=>cond (decide (((xn:Nat):Int) ≥ 32))
 (some (.tuple ⟨[.int .i64 0,.int .i64 4]⟩,w4))
 (aSome r fun p_3=>gSl (Addr.add p_3 2) w4 fun x_5 xn_1 xc_1=>nw (.cells As7 false [.int .i64 lo,.int .i64 n]) w4 fun b w5=>gCells (some ⟨b,0,none⟩) (1 * 2) w5 fun cs=>ckB (fitsOpen x_5 As7 w5) (apd As7 2 x_5 xn_1 xc_1 1 cs w5 fun a an ac w6=>aSome r fun p_4=>pV (Addr.add p_4 2) (.slice a an ac) w6 fun w7=>aSome r fun p_5=>gSl (Addr.add p_5 2) w7 fun _ xn_2 _=>some (.tuple ⟨[.int .i64 (IntKind.wrap .i64 (((xn_2:Nat):Int) - 1)),.int .i64 0]⟩,w7)))):=by kernel_rfl
def A93:Cuts:={ globs:=0,loops:=[(3,[0,3,4])],regs:=[],plans:=[(5,⟨[0,1,2,3,4,5,6,7,8,9,10],[0,0,2,6,14,0,32,126,255,511,1023],[(5,[4])],[]⟩),(6,⟨[0,1,2,3,4,5,6,7,8,9,10],[0,0,2,6,14,0,32,126,255,511,1023],[],[]⟩)] }
def Bs1:List Item:=A5 Tryz.f124
def Au8:List Item:=stk [0,1,0,1,0,0,1,4,5] Bs1
theorem E03 (C:A1) (R:A2) (envs:Int) (h:H) :
 A4 PR A93 C R V8 Tryz.f124 100000 true Bs1 [(0,.int .i64 envs)] h =
 nw (.cells Ea5 false [.slice none 0 0,.slice none 0 0]) h fun b w=>R V8 Au8 [(0,.int .i64 envs),(3,.pointer (some ⟨b,0,none⟩)),(4,.int .i64 0)] w:=by kernel_rfl
theorem B36 (C:A1) (R:A2) (envs:Int) (s:Addr) (i:Int) (h:H) :
 A4 PR A93 C R V8 Tryz.f124 100000 true Au8 [(0,.int .i64 envs),(3,.pointer (some s)),(4,.int .i64 i)] h =
 bnd (cond (decide (i < envs)) (some (decide (i < 40),h)) (some (false,h))) fun c w=>cond c
 (gSl (Addr.add s 0) w fun x xn xc=>bnd (C W4 [.int .i64 32] w) fun r w1=>aPtr r fun x_1=>gSl (Addr.add s 0) w1 fun x_2 xn_1 xc_1=>same (.slice x xn xc) (.slice x_2 xn_1 xc_1) (nw (.cells Az0 false [.pointer x_1]) w1 fun b w2=>gCells (some ⟨b,0,none⟩) (1 * 1) w2 fun cs=>ckB (fitsOpen x Az0 w2) (apd Az0 1 x xn xc 1 cs w2 fun a an ac w3=>pV (Addr.add s 0) (.slice a an ac) w3 fun w4=>gSl (Addr.add s 1) w4 fun x_3 xn_2 xc_2=>ck ((0:Int) ≤ 32 ∧ (32:Int) ≤ 32 ∧ 32 ≤ (A8:Int)) (nw (.cells N6 false (G3 (Int.toNat 32) [.int .i64 0,.int .i64 0,.int .i64 0,.int .i64 0,.int .i64 0,.int .i64 0])) w4 fun b_1 w5=>nw (.cells Bj3 false [.slice (some ⟨b_1,0,none⟩) (Int.toNat 32) (Int.toNat 32)]) w5 fun b_2 w6=>gCells (some ⟨b_2,0,none⟩) (1 * 1) w6 fun cs_1=>ckB (fitsOpen x_3 Bj3 w6) (apd Bj3 1 x_3 xn_2 xc_2 1 cs_1 w6 fun a_1 an_1 ac_1 w7=>pV (Addr.add s 1) (.slice a_1 an_1 ac_1) w7 fun w8=>R V8 Au8 [(0,.int .i64 envs),(3,.pointer (some s)),(4,.int .i64 (IntKind.wrap .i64 (i + 1)))] w8)))))
 (some (.pointer (some s),w)):=by kernel_rfl
def B04:Cuts:={ globs:=0,loops:=[],regs:=[],plans:=[] }
def Dv7:List Item:=A5 Tryz.f125
theorem E84 (C:A1) (R:A2) (lease:Int) (h:H) :
 A4 PR B04 C R Be4 Tryz.f125 100000 true Dv7 [(0,.int .i64 lease)] h =
 nw (.cells Eo4 false [.int .i64 (mm2 false (mm2 true lease 1) 1000),.int .i64 0,.int .i64 0,.int .i64 0,.int .i64 0,.int .i64 0,.bool false,.int .i64 0,.slice none 0 0]) h fun b w=>some (.pointer (some ⟨b,0,none⟩),w):=by kernel_rfl
def Dk7:Cuts:={ globs:=0,loops:=[(2,[0,1,5])],regs:=[],plans:=[] }
def Ef3:List Item:=A5 Tryz.f127
def Bt4:List Item:=stk [0,1,0,0,1,4,5] Ef3
theorem Hl3 (C:A1) (R:A2) (l:Option Addr) (ln lc:Nat) (s:Int) (h:H) :
 A4 PR Dk7 C R A21 Tryz.f127 100000 true Ef3 [(0,.slice l ln lc),(1,.int .i64 s)] h =
 R A21 Bt4 [(0,.slice l ln lc),(1,.int .i64 s),(5,.int .i64 0)] h:=by kernel_rfl
theorem Eh6 (C:A1) (R:A2) (l:Option Addr) (ln lc:Nat) (s:Int) (i:Int) (h:H) :
 A4 PR Dk7 C R A21 Tryz.f127 100000 true Bt4 [(0,.slice l ln lc),(1,.int .i64 s),(5,.int .i64 i)] h =
 cond (decide (i < ((ln:Nat):Int)))
 (aSome l fun p=>ck ((0:Int) ≤ i ∧ i < ((ln:Nat):Int)) (gInt .i64 (Addr.add (B0 p) (Int.toNat i * 1)) h fun x=>cond (x == s)
 (some (.bool true,h))
 (R A21 Bt4 [(0,.slice l ln lc),(1,.int .i64 s),(5,.int .i64 (IntKind.wrap .i64 (i + 1)))] h)))
 (some (.bool false,h)):=by kernel_rfl
def Dj1:Cuts:={ globs:=0,loops:=[],regs:=[],plans:=[] }
def Ei1:List Item:=A5 Tryz.f143
theorem Gl8 (C:A1) (R:A2)  (h:H) :
 A4 PR Dj1 C R Bb8 Tryz.f143 100000 true Ei1 [] h =
 bnd (C Al0 [.int .i64 40,.func (.func Bf8) ⟨[]⟩ ⟨[]⟩,.func (.func Be7) ⟨[]⟩ ⟨[]⟩] h) fun r w=>aPtr r fun x=>some (.pointer x,w):=by kernel_rfl
def Ad5:Cuts:={ globs:=0,loops:=[],regs:=[],plans:=[(4,⟨[0,1,2,3,4,10,5,6,7,8,9,11,12],[0,1,3,7,0,16,63,127,255,255,0,1535,4095],[(5,[3])],[]⟩)] }
def Ax5:List Item:=A5 Tryz.f148
theorem Bw7 (C:A1) (R:A2) (c:Option Addr) (b:Option Addr) (bn bc:Nat) (h:H) :
 A4 PR Ad5 C R S5 Tryz.f148 100000 true Ax5 [(0,.pointer c),(1,.slice b bn bc)] h =
 nw (.cells J0 false [.int .i64 0,.int .i64 0,.int .i64 0,.int .i64 0,.int .u8 0,.int .u8 0,.int .u8 0,.int .u8 0,.int .u8 0,.int .u8 0,.int .u8 0,.int .u8 0,.int .u8 0,.int .u8 0,.int .u8 0,.int .u8 0,.int .u8 0,.int .u8 0,.int .u8 0,.int .u8 0,.int .u8 0,.int .u8 0,.int .u8 0,.int .u8 0,.int .u8 0,.int .u8 0,.int .u8 0,.int .u8 0,.int .u8 0,.int .u8 0,.int .u8 0,.int .u8 0,.int .u8 0,.int .u8 0,.int .u8 0,.int .u8 0]) h fun b_1 w=>nw (.cells J0 false [.int .i64 0,.int .i64 0,.int .i64 0,.int .i64 0,.int .u8 0,.int .u8 0,.int .u8 0,.int .u8 0,.int .u8 0,.int .u8 0,.int .u8 0,.int .u8 0,.int .u8 0,.int .u8 0,.int .u8 0,.int .u8 0,.int .u8 0,.int .u8 0,.int .u8 0,.int .u8 0,.int .u8 0,.int .u8 0,.int .u8 0,.int .u8 0,.int .u8 0,.int .u8 0,.int .u8 0,.int .u8 0,.int .u8 0,.int .u8 0,.int .u8 0,.int .u8 0,.int .u8 0,.int .u8 0,.int .u8 0,.int .u8 0]) w fun b_2 w1=>aSome c fun p=>gFv (Addr.add p 2) w1 fun x=>isNilF x fun b_3=>bnd (cond b_3 (some (true,w1)) (aSome c fun p_1=>gInt .i64 (Addr.add p_1 0) w1 fun x_1=>some (((bn:Nat):Int) != x_1,w1))) fun c_1 w2=>cond c_1
 (gAgg ⟨b_2,0,none⟩ 36 w2 fun x_2=>ck (List.length x_2 = 36) (pAgg ⟨b_1,0,none⟩ x_2 w2 fun w3=>gAgg ⟨b_1,0,none⟩ 36 w3 fun x_3=>some (.tuple ⟨[.agg ⟨x_3⟩,.bool false]⟩,w3)))
 (aSome c fun p_2=>gFv (Addr.add p_2 2) w2 fun x_4=>nw (.cells J0 false [.int .i64 0,.int .i64 0,.int .i64 0,.int .i64 0,.int .u8 0,.int .u8 0,.int .u8 0,.int .u8 0,.int .u8 0,.int .u8 0,.int .u8 0,.int .u8 0,.int .u8 0,.int .u8 0,.int .u8 0,.int .u8 0,.int .u8 0,.int .u8 0,.int .u8 0,.int .u8 0,.int .u8 0,.int .u8 0,.int .u8 0,.int .u8 0,.int .u8 0,.int .u8 0,.int .u8 0,.int .u8 0,.int .u8 0,.int .u8 0,.int .u8 0,.int .u8 0,.int .u8 0,.int .u8 0,.int .u8 0,.int .u8 0]) w2 fun b_4 w4=>bnd (C E5 [.slice b bn bc] w4) fun r w5=>aSl r fun x_5 xn xc=>gFv (Addr.add p_2 2) w5 fun x_6=>Be8 (x_4) (x_6) (aFn x_4 fun g fi cp=>bnd (C g (fi ++ ([.slice x_5 xn xc] ++ cp)) w5) fun r_1 w6=>as2 r_1 fun r_2 r_3=>aAgg r_2 fun x_7=>aBool r_3 fun x_8=>ck (List.length x_7 = 36) (pAgg ⟨b_4,0,none⟩ x_7 w6 fun w7=>cond (!x_8)
 (gAgg ⟨b_2,0,none⟩ 36 w7 fun x_9=>ck (List.length x_9 = 36) (pAgg ⟨b_1,0,none⟩ x_9 w7 fun w8=>gAgg ⟨b_1,0,none⟩ 36 w8 fun x_10=>some (.tuple ⟨[.agg ⟨x_10⟩,.bool false]⟩,w8)))
 (gAgg ⟨b_4,0,none⟩ 36 w7 fun x_11=>ck (List.length x_11 = 36) (pAgg ⟨b_1,0,none⟩ x_11 w7 fun w9=>gAgg ⟨b_1,0,none⟩ 36 w9 fun x_12=>some (.tuple ⟨[.agg ⟨x_12⟩,.bool true]⟩,w9)))))):=by kernel_rfl
def A01:Cuts:={ globs:=0,loops:=[],regs:=[],plans:=[] }
def Bp3:List Item:=A5 Tryz.f151
theorem Dv1 (C:A1) (R:A2) (r:Option Addr) (env:Int) (fromv:Int) (atv:Int) (to:Int) (on:Int) (n:Int) (h:H) :
 A4 PR A01 C R Ai9 Tryz.f151 100000 true Bp3 [(0,.pointer r),(1,.int .i64 env),(2,.int .i64 fromv),(3,.int .i64 atv),(4,.int .i64 to),(5,.int .i64 on),(6,.int .i64 n)] h =
 bnd (C Z3 [.pointer r,.int .i64 env,.int .i64 fromv,.int .i64 atv,.int .i64 n] h) fun r_1 w=>as2 r_1 fun r_2 r_3=>aSl r_2 fun x xn xc=>aInt .i64 r_3 fun x_1=>cond (x_1 != 0)
 (some (.int .i64 x_1,w))
 (bnd (C W8 [.pointer r,.int .i64 env,.int .i64 to,.int .i64 on,.slice x xn xc] w) fun r_4 w1=>aInt .i64 r_4 fun x_2=>some (.int .i64 x_2,w1)):=by kernel_rfl
def Bd1:Cuts:={ globs:=0,loops:=[],regs:=[],plans:=[] }
def B48:List Item:=A5 Tryz.f152
theorem Ed5 (C:A1) (R:A2) (s:Option Addr) (env:Int) (name:Int) (to:Int) (give:Int) (lo:Int) (n:Int) (h:H) :
 A4 PR Bd1 C R Av6 Tryz.f152 100000 true B48 [(0,.pointer s),(1,.int .i64 env),(2,.int .i64 name),(3,.int .i64 to),(4,.int .i64 give),(5,.int .i64 lo),(6,.int .i64 n)] h =
 bnd (C Aq1 [.pointer s,.int .i64 env,.int .i64 name] h) fun r w=>as2 r fun r_1 r_2=>aAgg r_1 fun x=>aInt .i64 r_2 fun x_1=>nw (.cells N6 false [.int .i64 0,.int .i64 0,.int .i64 0,.int .i64 0,.int .i64 0,.int .i64 0]) w fun b w1=>ck (List.length x = 6) (pAgg ⟨b,0,none⟩ x w1 fun w2=>cond (x_1 != 0)
 (some (.tuple ⟨[.int .i64 0,.int .i64 x_1]⟩,w2))
 (gInt .i64 (Addr.add ⟨b,0,none⟩ 1) w2 fun x_2=>bnd (cond ((O4 .i64 x_2 4) == 0) (some (true,w2)) (gInt .i64 (Addr.add ⟨b,0,none⟩ 1) w2 fun x_3=>some ((Eb2 .i64 give x_3) != 0,w2))) fun c w3=>cond c
 (some (.tuple ⟨[.int .i64 0,.int .i64 3]⟩,w3))
 (bnd (C Ac8 [.pointer s,.int .i64 to] w3) fun r_3 w4=>aBool r_3 fun x_4=>bnd (cond (!x_4) (some (true,w4)) (some (decide (lo < 0),w4))) fun c_1 w5=>bnd (cond c_1 (some (true,w5)) (some (decide (n < 0),w5))) fun c_2 w6=>bnd (cond c_2 (some (true,w6)) (gInt .i64 (Addr.add ⟨b,0,none⟩ 3) w6 fun x_5=>some (decide (lo > x_5),w6))) fun c_3 w7=>bnd (cond c_3 (some (true,w7)) (gInt .i64 (Addr.add ⟨b,0,none⟩ 3) w7 fun x_6=>some (decide (n > (IntKind.wrap .i64 (x_6 - lo))),w7))) fun c_4 w8=>cond c_4
 (some (.tuple ⟨[.int .i64 0,.int .i64 1]⟩,w8))
 (gInt .i64 (Addr.add ⟨b,0,none⟩ 0) w8 fun x_7=>gInt .i64 (Addr.add ⟨b,0,none⟩ 2) w8 fun x_8=>bnd (C Ao9 [.pointer s,.int .i64 to,.agg ⟨[.int .i64 x_7,.int .i64 give,.int .i64 (IntKind.wrap .i64 (x_8 + lo)),.int .i64 n,.int .i64 env,.int .i64 name]⟩] w8) fun r_4 w9=>as2 r_4 fun r_5 r_6=>aInt .i64 r_5 fun x_9=>aInt .i64 r_6 fun x_10=>some (.tuple ⟨[.int .i64 x_9,.int .i64 x_10]⟩,w9))))):=by kernel_rfl
def Ad6:Cuts:={ globs:=0,loops:=[],regs:=[],plans:=[(2,⟨[0,1,2,3,4,5,6,7,8,9,10,11,12,13,14],[0,1,3,7,15,31,63,127,255,511,63,63,4095,8191,16383],[],[]⟩)] }
def Ax1:List Item:=A5 Tryz.f160
theorem Bw6 (C:A1) (R:A2) (c:Option Addr) (v:List Value) (h:H) :
 A4 PR Ad6 C R S4 Tryz.f160 100000 true Ax1 [(0,.pointer c),(1,.agg ⟨v⟩)] h =
 nw (.cells B9 false v) h fun b w=>aSome c fun p=>gInt .i64 (Addr.add p 0) w fun x=>ck ((0:Int) ≤ x ∧ (x:Int) ≤ x ∧ x ≤ (A8:Int)) (nw (.cells A3 false (G3 (Int.toNat x) [.int .u8 0])) w fun b_1 w1=>aSome c fun p_1=>gFv (Addr.add p_1 1) w1 fun x_1=>isNilF x_1 fun b_2=>bnd (cond b_2 (some (true,w1)) (aSome c fun p_2=>gFv (Addr.add p_2 1) w1 fun x_2=>gAgg ⟨b,0,none⟩ 16 w1 fun x_3=>aFn x_2 fun g fi cp=>bnd (C g (fi ++ ([.agg ⟨x_3⟩,.slice (some ⟨b_1,0,none⟩) (Int.toNat x) (Int.toNat x)] ++ cp)) w1) fun r w2=>aBool r fun x_4=>some (!x_4,w2))) fun c_1 w3=>cond c_1
 (some (.tuple ⟨[.slice none 0 0,.bool false]⟩,w3))
 (some (.tuple ⟨[.slice (some ⟨b_1,0,none⟩) (Int.toNat x) (Int.toNat x),.bool true]⟩,w3))):=by kernel_rfl
def Ad4:Cuts:={ globs:=0,loops:=[],regs:=[],plans:=[(4,⟨[0,1,2,3,4,10,5,6,7,8,9,11,12],[0,1,3,7,0,16,63,127,255,255,0,1535,4095],[(5,[3])],[]⟩)] }
def Ax4:List Item:=A5 Tryz.f166
theorem Bx0 (C:A1) (R:A2) (c:Option Addr) (b:Option Addr) (bn bc:Nat) (h:H) :
 A4 PR Ad4 C R R0 Tryz.f166 100000 true Ax4 [(0,.pointer c),(1,.slice b bn bc)] h =
 nw (.cells H7 false [.int .i64 0,.int .i64 0,.int .i64 0,.int .i64 0]) h fun b_1 w=>nw (.cells H7 false [.int .i64 0,.int .i64 0,.int .i64 0,.int .i64 0]) w fun b_2 w1=>aSome c fun p=>gFv (Addr.add p 2) w1 fun x=>isNilF x fun b_3=>bnd (cond b_3 (some (true,w1)) (aSome c fun p_1=>gInt .i64 (Addr.add p_1 0) w1 fun x_1=>some (((bn:Nat):Int) != x_1,w1))) fun c_1 w2=>cond c_1
 (gAgg ⟨b_2,0,none⟩ 4 w2 fun x_2=>ck (List.length x_2 = 4) (pAgg ⟨b_1,0,none⟩ x_2 w2 fun w3=>gAgg ⟨b_1,0,none⟩ 4 w3 fun x_3=>some (.tuple ⟨[.agg ⟨x_3⟩,.bool false]⟩,w3)))
 (aSome c fun p_2=>gFv (Addr.add p_2 2) w2 fun x_4=>nw (.cells H7 false [.int .i64 0,.int .i64 0,.int .i64 0,.int .i64 0]) w2 fun b_4 w4=>bnd (C E5 [.slice b bn bc] w4) fun r w5=>aSl r fun x_5 xn xc=>gFv (Addr.add p_2 2) w5 fun x_6=>Be8 (x_4) (x_6) (aFn x_4 fun g fi cp=>bnd (C g (fi ++ ([.slice x_5 xn xc] ++ cp)) w5) fun r_1 w6=>as2 r_1 fun r_2 r_3=>aAgg r_2 fun x_7=>aBool r_3 fun x_8=>ck (List.length x_7 = 4) (pAgg ⟨b_4,0,none⟩ x_7 w6 fun w7=>cond (!x_8)
 (gAgg ⟨b_2,0,none⟩ 4 w7 fun x_9=>ck (List.length x_9 = 4) (pAgg ⟨b_1,0,none⟩ x_9 w7 fun w8=>gAgg ⟨b_1,0,none⟩ 4 w8 fun x_10=>some (.tuple ⟨[.agg ⟨x_10⟩,.bool false]⟩,w8)))
 (gAgg ⟨b_4,0,none⟩ 4 w7 fun x_11=>ck (List.length x_11 = 4) (pAgg ⟨b_1,0,none⟩ x_11 w7 fun w9=>gAgg ⟨b_1,0,none⟩ 4 w9 fun x_12=>some (.tuple ⟨[.agg ⟨x_12⟩,.bool true]⟩,w9)))))):=by kernel_rfl
def Di3:Cuts:={ globs:=0,loops:=[],regs:=[],plans:=[] }
def Eg1:List Item:=A5 Tryz.f176
theorem Gk3 (C:A1) (R:A2) (c:List Value) (x:List Value) (h:H) :
 A4 PR Di3 C R Bt8 Tryz.f176 100000 true Eg1 [(0,.agg ⟨c⟩),(1,.agg ⟨x⟩)] h =
 nw (.cells D3 false c) h fun b w=>nw (.cells H4 false x) w fun b_1 w1=>gInt .i64 (Addr.add ⟨b_1,0,none⟩ 0) w1 fun x_1=>bnd (cond (decide (x_1 < 0)) (some (true,w1)) (gInt .i64 (Addr.add ⟨b_1,0,none⟩ 0) w1 fun x_2=>gSl (Addr.add ⟨b,0,none⟩ 0) w1 fun _ xn _=>some (decide (x_2 ≥ ((xn:Nat):Int)),w1))) fun c_1 w2=>bnd (cond c_1 (some (true,w2)) (gInt .i64 (Addr.add ⟨b_1,0,none⟩ 1) w2 fun x_4=>some (decide (x_4 < 0),w2))) fun c_2 w3=>bnd (cond c_2 (some (true,w3)) (gInt .i64 (Addr.add ⟨b_1,0,none⟩ 2) w3 fun x_5=>some (decide (x_5 < 0),w3))) fun c_3 w4=>bnd (cond c_3 (some (true,w4)) (gInt .i64 (Addr.add ⟨b_1,0,none⟩ 3) w4 fun x_6=>some (decide (x_6 < 0),w4))) fun c_4 w5=>cond c_4
 (some (.bool false,w5))
 (gSl (Addr.add ⟨b,0,none⟩ 0) w5 fun x_7 xn_1 _=>gInt .i64 (Addr.add ⟨b_1,0,none⟩ 0) w5 fun x_8=>aSome x_7 fun p=>ck ((0:Int) ≤ x_8 ∧ x_8 < ((xn_1:Nat):Int)) (gInt .i64 (Addr.add (B0 p) (Int.toNat x_8 * 1)) w5 fun x_9=>bnd (C A75 [.int .i64 x_9] w5) fun r w6=>aInt .i64 r fun x_10=>gInt .i64 (Addr.add ⟨b_1,0,none⟩ 1) w6 fun x_11=>cond (decide (x_11 > x_10))
 (some (.bool false,w6))
 (gInt .i64 (Addr.add ⟨b_1,0,none⟩ 1) w6 fun x_12=>gInt .i64 (Addr.add ⟨b_1,0,none⟩ 2) w6 fun x_13=>bnd (cond (decide (x_13 ≤ (IntKind.wrap .i64 ((IntKind.wrap .i64 (x_10 - x_12)) * 64)))) (gInt .i64 (Addr.add ⟨b_1,0,none⟩ 3) w6 fun x_14=>gInt .i64 (Addr.add ⟨b_1,0,none⟩ 2) w6 fun x_15=>some (decide (x_14 ≤ (IntKind.wrap .i64 ((IntKind.wrap .i64 ((IntKind.wrap .i64 (x_10 - x_12)) * 64)) - x_15))),w6)) (some (false,w6))) fun c_5 w7=>some (.bool c_5,w7)))):=by kernel_rfl
def Aq6:Cuts:={ globs:=0,loops:=[(3,[3,15,16])],regs:=[],plans:=[] }
def A82:List Item:=A5 Tryz.f177
def Ag9:List Item:=stk [0,1,0,1,0,0,1,4,5] A82
theorem D75 (C:A1) (R:A2) (size:Int) (h:H) :
 A4 PR Aq6 C R N7 Tryz.f177 100000 true A82 [(0,.int .i64 size)] h =
 ck ((0:Int) ≤ mm2 false (mm2 true size 0) 256 ∧ (mm2 false (mm2 true size 0) 256:Int) ≤ mm2 false (mm2 true size 0) 256 ∧ mm2 false (mm2 true size 0) 256 ≤ (A8:Int)) (nw (.cells Ai7 false (G3 (Int.toNat (mm2 false (mm2 true size 0) 256)) [.int .i64 0,.int .i64 0,.int .i64 0,.int .i64 0,.int .i64 0,.int .i64 0,.int .i64 0,.bool false])) h fun b w=>nw (.cells Bq2 false [.slice (some ⟨b,0,none⟩) (Int.toNat (mm2 false (mm2 true size 0) 256)) (Int.toNat (mm2 false (mm2 true size 0) 256))]) w fun b_1 w1=>gSl (Addr.add ⟨b_1,0,none⟩ 0) w1 fun _ xn _=>R N7 Ag9 [(3,.pointer (some ⟨b_1,0,none⟩)),(15,.int .i64 ((xn:Nat):Int)),(16,.int .i64 0)] w1):=by kernel_rfl
theorem Bi0 (C:A1) (R:A2) (t:Addr) (x15:Int) (x16:Int) (h:H) :
 A4 PR Aq6 C R N7 Tryz.f177 100000 true Ag9 [(3,.pointer (some t)),(15,.int .i64 x15),(16,.int .i64 x16)] h =
 cond (decide (x16 < x15))
 (gSl (Addr.add t 0) h fun x xn _=>aSome x fun p=>ck ((0:Int) ≤ x16 ∧ x16 < ((xn:Nat):Int)) (pV (Addr.add (Addr.add (B0 p) (Int.toNat x16 * 8)) 6) (.int .i64 1) h fun w=>R N7 Ag9 [(3,.pointer (some t)),(15,.int .i64 x15),(16,.int .i64 (IntKind.wrap .i64 (x16 + 1)))] w))
 (some (.pointer (some t),h)):=by kernel_rfl
def B68:Cuts:={ globs:=0,loops:=[],regs:=[],plans:=[] }
def D73:List Item:=A5 Tryz.f183
theorem Gh7 (C:A1) (R:A2) (atv:Int) (n:Int) (size:Int) (h:H) :
 A4 PR B68 C R Ad2 Tryz.f183 100000 true D73 [(0,.int .i64 atv),(1,.int .i64 n),(2,.int .i64 size)] h =
 bnd (cond (decide (atv ≥ 0)) (some (decide (n ≥ 0),h)) (some (false,h))) fun c w=>bnd (cond c (some (decide (atv ≤ size),w)) (some (false,w))) fun c_1 w1=>bnd (cond c_1 (some (decide (n ≤ (IntKind.wrap .i64 (size - atv))),w1)) (some (false,w1))) fun c_2 w2=>some (.bool c_2,w2):=by kernel_rfl
def Aj6:Cuts:={ globs:=0,loops:=[],regs:=[],plans:=[] }
def A64:List Item:=A5 Tryz.f195
theorem B69 (C:A1) (R:A2) (t:Option Addr) (i:Int) (h:H) :
 A4 PR Aj6 C R L0 Tryz.f195 100000 true A64 [(0,.pointer t),(1,.int .i64 i)] h =
 aSome t fun p=>gSl (Addr.add p 0) h fun x xn _=>aSome x fun p_1=>ck ((0:Int) ≤ i ∧ i < ((xn:Nat):Int)) (gInt .i64 (Addr.add (Addr.add (B0 p_1) (Int.toNat i * 8)) 6) h fun x_1=>some (.int .i64 (IntKind.wrap .i64 (i + (IntKind.wrap .i64 (256 * x_1)))),h)):=by kernel_rfl
def Dw6:Cuts:={ globs:=0,loops:=[],regs:=[],plans:=[(5,⟨[0,1,2,3,4],[0,1,0,4,15],[],[]⟩)] }
def Ex6:List Item:=A5 Tryz.f197
theorem G91 (C:A1) (R:A2) (p:List Value) (b:Option Addr) (bn bc:Nat) (h:H) :
 A4 PR Dw6 C R Bf8 Tryz.f197 100000 true Ex6 [(0,.agg ⟨p⟩),(1,.slice b bn bc)] h =
 nw (.cells J0 false p) h fun b_1 w=>gAgg ⟨b_1,0,none⟩ 36 w fun x=>bnd (C Dm7 [.agg ⟨x⟩] w) fun r w1=>aBool r fun x_1=>cond (!x_1)
 (some (.bool false,w1))
 (gInt .i64 (Addr.add ⟨b_1,0,none⟩ 0) w1 fun x_2=>gInt .i64 (Addr.add ⟨b_1,0,none⟩ 1) w1 fun x_3=>gInt .i64 (Addr.add ⟨b_1,0,none⟩ 2) w1 fun x_4=>gInt .i64 (Addr.add ⟨b_1,0,none⟩ 3) w1 fun x_5=>nw (.cells A3 false [.int .u8 1,.int .u8 (IntKind.wrap .u8 (x_2)),.int .u8 (IntKind.wrap .u8 (x_3)),.int .u8 (IntKind.wrap .u8 (x_4)),.int .u8 (IntKind.wrap .u8 (x_5)),.int .u8 197]) w1 fun b_2 w2=>gCells (some ⟨b_2,0,none⟩) (min 6 bn * 1) w2 fun cs=>pCells b cs w2 fun w3=>ckB (fitsOpen b A3 w3) (ck ((0:Int) ≤ 6 ∧ 6 ≤ ((bc:Nat):Int)) (bnd (C W7 [.slice (G9 b (decide (0 < bc)) (0 * 1)) ((Int.toNat 6) - 0) (bc - 0)] w3) fun r_1 w4=>aInt .u8 r_1 fun x_6=>aSome b fun p_1=>ck ((0:Int) ≤ 6 ∧ 6 < ((bn:Nat):Int)) (pV (Addr.add (B0 p_1) (Int.toNat 6 * 1)) (.int .u8 x_6) w4 fun w5=>ckB (fitsOpen b A3 w5) (ck ((0:Int) ≤ 8 ∧ 8 ≤ ((bn:Nat):Int)) (ckB (liveA (Addr.add ⟨b_1,0,none⟩ 4) w5) (gCells (G9 (some (Addr.add ⟨b_1,0,none⟩ 4)) (decide (0 < 32)) (0 * 1)) (min (32 - 0) (bn - (Int.toNat 8)) * 1) w5 fun cs_1=>pCells (G9 b (decide (Int.toNat 8 < bc)) ((Int.toNat 8) * 1)) cs_1 w5 fun w6=>some (.bool true,w6)))))))):=by kernel_rfl
def Y2:Cuts:={ globs:=0,loops:=[],regs:=[],plans:=[] }
def An5:List Item:=A5 Tryz.f199
theorem Bi4 (C:A1) (R:A2) (s:Option Addr) (sn sc:Nat) (f:Value) (h:H) :
 A4 PR Y2 C R O1 Tryz.f199 100000 true An5 [(0,.slice s sn sc),(1,f)] h =
 bnd (C E1 [.slice s sn sc,f] h) fun r w=>aInt .i64 r fun x=>some (.bool (decide (x ≥ 0)),w):=by kernel_rfl
def Bg7:Cuts:={ globs:=0,loops:=[],regs:=[],plans:=[] }
def B85:List Item:=A5 Tryz.f210
theorem Em9 (C:A1) (R:A2) (s:Option Addr) (who:Int) (stamp:Int) (h:H) :
 A4 PR Bg7 C R Ax8 Tryz.f210 100000 true B85 [(0,.pointer s),(1,.int .i64 who),(2,.int .i64 stamp)] h =
 bnd (C Ax9 [.pointer s,.int .i64 who,.int .i64 stamp] h) fun r w=>aBool r fun x=>cond (!x)
 (some (.bool false,w))
 (aSome s fun p=>pV (Addr.add p 1) (.bool false) w fun w1=>aSome s fun p_1=>gInt .i64 (Addr.add p_1 7) w1 fun x_1=>aSome s fun p_2=>pV (Addr.add p_2 6) (.int .i64 x_1) w1 fun w2=>some (.bool true,w2)):=by kernel_rfl
def Bk7:Cuts:={ globs:=0,loops:=[(3,[0,2,4,31,32,33]),(8,[0,2,4,49])],regs:=[],plans:=[(1,⟨[0,1,2,3,4,5,6,7,8,9,10,11,12,13,14,15,16,17,18],[0,1,3,7,0,16,48,112,0,256,768,1792,0,4096,12288,28672,65535,0,262143],[],[]⟩),(13,⟨[0,1,2,3,4,5,6,7,8],[0,0,2,6,6,30,62,63,255],[(5,[0])],[]⟩)] }
def B22:List Item:=A5 Tryz.f213
def B08:List Item:=stk [0,1,0,1,0,0,1,4,5] B22
def Bz8:List Item:=stk [0,1,0,1,0,1,0,0,1,4,5] B22
theorem G15 (C:A1) (R:A2) (b:Option Addr) (bn bc:Nat) (h:H) :
 A4 PR Bk7 C R U2 Tryz.f213 100000 true B22 [(0,.slice b bn bc)] h =
 nw (.cells B9 false [.int .i64 0,.int .i64 0,.int .i64 0,.int .i64 0,.int .i64 0,.int .i64 0,.int .i64 0,.int .i64 0,.int .i64 0,.int .i64 0,.int .i64 0,.int .i64 0,.int .i64 0,.int .i64 0,.int .i64 0,.int .i64 0]) h fun b_1 w=>aSome b fun p=>ck ((0:Int) ≤ 0 ∧ 0 < ((bn:Nat):Int)) (gInt .u8 (Addr.add (B0 p) (Int.toNat 0 * 1)) w fun x=>aSome b fun p_1=>ck ((0:Int) ≤ 1 ∧ 1 < ((bn:Nat):Int)) (gInt .u8 (Addr.add (B0 p_1) (Int.toNat 1 * 1)) w fun x_1=>aSome b fun p_2=>ck ((0:Int) ≤ 2 ∧ 2 < ((bn:Nat):Int)) (gInt .u8 (Addr.add (B0 p_2) (Int.toNat 2 * 1)) w fun x_2=>aSome b fun p_3=>ck ((0:Int) ≤ 3 ∧ 3 < ((bn:Nat):Int)) (gInt .u8 (Addr.add (B0 p_3) (Int.toNat 3 * 1)) w fun x_3=>nw (.cells B9 false [.int .i64 0,.int .i64 0,.int .i64 0,.int .i64 0,.int .i64 0,.int .i64 0,.int .i64 0,.int .i64 0,.int .i64 0,.int .i64 0,.int .i64 0,.int .i64 0,.int .i64 0,.int .i64 0,.int .i64 0,.int .i64 0]) w fun b_2 w1=>pAgg ⟨b_2,0,none⟩ [.int .i64 (IntKind.wrap .i64 (x)),.int .i64 (IntKind.wrap .i64 (x_1)),.int .i64 (IntKind.wrap .i64 (x_2)),.int .i64 (IntKind.wrap .i64 (x_3)),.int .i64 0,.int .i64 0,.int .i64 0,.int .i64 0,.int .i64 0,.int .i64 0,.int .i64 0,.int .i64 0,.int .i64 0,.int .i64 0,.int .i64 0,.int .i64 0] w1 fun w2=>nw (.cells Hz2 false [.pointer (some (Addr.add ⟨b_2,0,none⟩ 4)),.pointer (some (Addr.add ⟨b_2,0,none⟩ 5)),.pointer (some (Addr.add ⟨b_2,0,none⟩ 6)),.pointer (some (Addr.add ⟨b_2,0,none⟩ 7))]) w2 fun b_3 w3=>R U2 B08 [(0,.slice b bn bc),(2,.pointer (some ⟨b_1,0,none⟩)),(4,.pointer (some ⟨b_2,0,none⟩)),(31,.slice (some ⟨b_3,0,none⟩) 4 4),(32,.int .i64 4),(33,.int .i64 0)] w3)))):=by kernel_rfl
theorem A10 (C:A1) (R:A2) (b:Option Addr) (bn bc:Nat) (x2:Addr) (p:Addr) (x31:Option Addr) (x31n x31c:Nat) (x32:Int) (x33:Int) (h:H) :
 A4 PR Bk7 C R U2 Tryz.f213 100000 true B08 [(0,.slice b bn bc),(2,.pointer (some x2)),(4,.pointer (some p)),(31,.slice x31 x31n x31c),(32,.int .i64 x32),(33,.int .i64 x33)] h =
 cond (decide (x33 < x32))
 (aSome x31 fun p_1=>ck ((0:Int) ≤ x33 ∧ x33 < ((x31n:Nat):Int)) (gPtr (Addr.add (B0 p_1) (Int.toNat x33 * 1)) h fun x=>bnd (C Bu8 [.slice b bn bc,.int .i64 (IntKind.wrap .i64 (4 + (IntKind.wrap .i64 (2 * x33))))] h) fun r w=>as2 r fun r_1 r_2=>aInt .i64 r_1 fun x_1=>aBool r_2 fun _=>aSome x fun p_2=>pV p_2 (.int .i64 x_1) w fun w1=>R U2 B08 [(0,.slice b bn bc),(2,.pointer (some x2)),(4,.pointer (some p)),(31,.slice x31 x31n x31c),(32,.int .i64 x32),(33,.int .i64 (IntKind.wrap .i64 (x33 + 1)))] w1))
 (R U2 Bz8 [(0,.slice b bn bc),(2,.pointer (some x2)),(4,.pointer (some p)),(49,.int .i64 0)] h):=by kernel_rfl
theorem U4 (C:A1) (R:A2) (b:Option Addr) (bn bc:Nat) (x2:Addr) (p:Addr) (x49:Int) (h:H) :
 A4 PR Bk7 C R U2 Tryz.f213 100000 true Bz8 [(0,.slice b bn bc),(2,.pointer (some x2)),(4,.pointer (some p)),(49,.int .i64 x49)] h =
 cond (decide (x49 < 8))
 (aSome b fun p_1=>ck ((0:Int) ≤ IntKind.wrap .i64 (12 + x49) ∧ IntKind.wrap .i64 (12 + x49) < ((bn:Nat):Int)) (gInt .u8 (Addr.add (B0 p_1) (Int.toNat (IntKind.wrap .i64 (12 + x49)) * 1)) h fun x=>ck ((0:Int) ≤ x49 ∧ x49 < ((8:Nat):Int)) (pV (Addr.add (Addr.add p 8) (Int.toNat x49 * 1)) (.int .i64 (IntKind.wrap .i64 (x))) h fun w=>R U2 Bz8 [(0,.slice b bn bc),(2,.pointer (some x2)),(4,.pointer (some p)),(49,.int .i64 (IntKind.wrap .i64 (x49 + 1)))] w)))
 (gAgg p 16 h fun x_1=>bnd (C A05 [.agg ⟨x_1⟩] h) fun r w1=>as2 r fun r_1 r_2=>aSl r_1 fun x_2 xn xc=>aBool r_2 fun x_3=>gAgg p 16 w1 fun x_4=>bnd (cond x_3 (bnd (C B6 [.slice x_2 xn xc,.slice b bn bc] w1) fun r_3 w2=>aBool r_3 fun x_5=>gAgg p 16 w2 fun x_6=>same (.agg ⟨x_4⟩) (.agg ⟨x_6⟩) (some (x_5,w2))) (some (false,w1))) fun c w3=>ck (List.length x_4 = 16) (pAgg x2 x_4 w3 fun w4=>gAgg x2 16 w4 fun x_7=>some (.tuple ⟨[.agg ⟨x_7⟩,.bool c]⟩,w4))):=by kernel_rfl
def Ap1:Cuts:={ globs:=0,loops:=[],regs:=[],plans:=[] }
def Bd2:List Item:=A5 Tryz.f229
theorem Df2 (C:A1) (R:A2) (t:Option Addr) (name:Int) (h:H) :
 A4 PR Ap1 C R Ab6 Tryz.f229 100000 true Bd2 [(0,.pointer t),(1,.int .i64 name)] h =
 bnd (cond (decide (name < 0)) (some (true,h)) (aSome t fun p=>gSl (Addr.add p 0) h fun _ xn _=>some (decide ((O4 .i64 name 255) ≥ ((xn:Nat):Int)),h))) fun c w=>bnd (cond c (some (true,w)) (aSome t fun p_1=>gSl (Addr.add p_1 0) w fun x_1 xn_1 _=>aSome x_1 fun p_2=>ck ((0:Int) ≤ O4 .i64 name 255 ∧ O4 .i64 name 255 < ((xn_1:Nat):Int)) (gBool (Addr.add (Addr.add (B0 p_2) (Int.toNat (O4 .i64 name 255) * 8)) 7) w fun x_2=>some (!x_2,w)))) fun c_1 w1=>bnd (cond c_1 (some (true,w1)) (bnd (C L0 [.pointer t,.int .i64 (O4 .i64 name 255)] w1) fun r w2=>aInt .i64 r fun x_3=>some (x_3 != name,w2))) fun c_2 w3=>cond c_2
 (some (.pointer none,w3))
 (aSome t fun p_3=>gSl (Addr.add p_3 0) w3 fun x_4 xn_2 _=>aSome x_4 fun p_4=>ck ((0:Int) ≤ O4 .i64 name 255 ∧ O4 .i64 name 255 < ((xn_2:Nat):Int)) (some (.pointer (some (Addr.add (B0 p_4) (Int.toNat (O4 .i64 name 255) * 8))),w3))):=by kernel_rfl
def Dd6:Cuts:={ globs:=0,loops:=[],regs:=[],plans:=[] }
def Ei2:List Item:=A5 Tryz.f232
theorem Gs3 (C:A1) (R:A2) (b:Option Addr) (bn bc:Nat) (atv:Int) (n:Int) (h:H) :
 A4 PR Dd6 C R Bb6 Tryz.f232 100000 true Ei2 [(0,.slice b bn bc),(1,.int .i64 atv),(2,.int .i64 n)] h =
 bnd (cond (decide (atv < 0)) (some (true,h)) (some (decide (atv > (IntKind.wrap .i64 (((bn:Nat):Int) - 2))),h))) fun c w=>bnd (cond c (some (true,w)) (some (decide (n < 0),w))) fun c_1 w1=>bnd (cond c_1 (some (true,w1)) (some (decide (n > 65535),w1))) fun c_2 w2=>cond c_2
 (some (.bool false,w2))
 (aSome b fun p=>ck ((0:Int) ≤ atv ∧ atv < ((bn:Nat):Int)) (pV (Addr.add (B0 p) (Int.toNat atv * 1)) (.int .u8 (IntKind.wrap .u8 (Int.fdiv n (2 ^ 8)))) w2 fun w3=>aSome b fun p_1=>ck ((0:Int) ≤ IntKind.wrap .i64 (atv + 1) ∧ IntKind.wrap .i64 (atv + 1) < ((bn:Nat):Int)) (pV (Addr.add (B0 p_1) (Int.toNat (IntKind.wrap .i64 (atv + 1)) * 1)) (.int .u8 (IntKind.wrap .u8 (n))) w3 fun w4=>some (.bool true,w4)))):=by kernel_rfl
def Dh4:Cuts:={ globs:=0,loops:=[],regs:=[],plans:=[] }
def Ee2:List Item:=A5 Tryz.f239
theorem Gp0 (C:A1) (R:A2) (f:Int) (h:H) :
 A4 PR Dh4 C R Bb9 Tryz.f239 100000 true Ee2 [(0,.int .i64 f)] h =
 bnd (cond (decide (f < 0)) (some (true,h)) (some (decide (f > 12),h))) fun c w=>some (.bool c,w):=by kernel_rfl
end
end Go.EQ

set_option maxRecDepth 100000
namespace Go.EQ
open Go Go.NN Go.Proofs
variable (C : A1) (R : A2)
noncomputable section
def Hs7:List (Nat × Cuts):=[(6,A27),(13,Dh9),(14,De7),(15,B62),(18,Av9),(20,Ay0),(22,B12),(23,Aw4),(24,Am1),(25,Aj2),(28,Am4),(31,Bv7),(32,B80),(33,A86),(34,A52),(35,Do5),(36,Aw1),(37,B70),(39,B17),(40,Dr5),(48,Aw0),(49,Ar7),(50,Az1),(51,A26),(52,Ao7),(53,B63),(54,By7),(55,Bb0),(56,Bh5),(57,Bb3),(58,B61),(59,Ar9),(60,B02),(61,Aa7),(62,B77),(63,Av8),(64,D34),(65,Da5),(67,Bh6),(68,Bd4),(69,Aa9),(70,Bx9),(71,Bz5),(72,By0),(73,Ar5),(74,By2),(75,By6),(76,A30),(77,Ay5),(78,Bh1),(79,By9),(80,Dp5),(81,B19),(82,A15),(83,Dr1),(84,Aa0),(85,By8),(88,Bv6),(89,B66),(90,Bg4),(91,P6),(108,Al5),(109,Bh7),(110,Bc4),(111,B60),(112,Ap5),(113,D85),(114,Dc7),(115,B27),(116,Di6),(117,Dx7),(118,A48),(119,Aq7),(120,Ah4),(121,Bm3),(122,A97),(123,At2),(124,A93),(125,B04),(126,Bc8),(127,Dk7),(128,Bo2),(129,Bc0),(131,A35),(140,Bm8),(141,Br8),(142,W1),(143,Dj1),(144,Ad7),(145,Ar6),(146,Aw8),(147,B72),(148,Ad5),(149,A19),(150,Aw2),(151,A01),(152,Bd1),(154,A88),(155,Ba8),(156,Bg5),(157,Bg9),(158,B73),(159,Ad3),(160,Ad6),(161,B67),(162,Ad8),(163,B18),(164,Dj5),(165,Aj4),(166,Ad4),(174,B07),(175,Ab1),(176,Di3),(177,Aq6),(178,B05),(179,Ab7),(180,Bb2),(181,Bm7),(182,Ba0),(183,B68),(184,Bo8),(185,Bm1),(186,A41),(187,Bm4),(194,A40),(195,Aj6),(196,A42),(197,Dw6),(198,Dw5),(199,Y2),(200,Bu1),(201,Aw3),(202,Bv3),(203,Bo9),(206,Bm9),(207,Bc2),(208,Bn0),(209,P7),(210,Bg7),(211,A34),(212,A81),(213,Bk7),(214,A45),(215,Dq1),(216,Do8),(217,U6),(218,Aa2),(219,A47),(220,Bo6),(223,D98),(224,Y5),(225,Q2),(226,Am7),(229,Ap1),(230,Bh8),(231,D08),(232,Dd6),(233,Di9),(234,D23),(235,Dr3),(238,Df7),(239,Dh4)]
def cutsOf:FuncId → Cuts:=E13 Hs7
noncomputable abbrev A7:A1:=NN.Call PR cutsOf
noncomputable abbrev G1:A2:=NN.Jump PR cutsOf
theorem Bn9:FnOk PR cutsOf G2 Tryz.f6 A27 Bn1 1:=⟨Tryz.func6,⟨_,rfl⟩,by kernel_rfl,rfl,rfl,by kernel_rfl⟩
theorem Gt5:FnOk PR cutsOf Bc7 Tryz.f13 Dh9 Ea9 1:=⟨Tryz.func13,⟨_,rfl⟩,by kernel_rfl,rfl,rfl,by kernel_rfl⟩
theorem Gm9:FnOk PR cutsOf Bq9 Tryz.f14 De7 Ee0 0:=⟨Tryz.func14,⟨_,rfl⟩,by kernel_rfl,rfl,rfl,by kernel_rfl⟩
theorem Gg6:FnOk PR cutsOf Bl5 Tryz.f15 B62 D69 2:=⟨Tryz.func15,⟨_,rfl⟩,by kernel_rfl,rfl,rfl,by kernel_rfl⟩
theorem Dp2:FnOk PR cutsOf Ag4 Tryz.f18 Av9 Bk0 2:=⟨Tryz.func18,⟨_,rfl⟩,by kernel_rfl,rfl,rfl,by kernel_rfl⟩
theorem Bh3:FnOk PR cutsOf P9 Tryz.f20 Ay0 Bh2 1:=⟨Tryz.func20,⟨_,rfl⟩,by kernel_rfl,rfl,rfl,by kernel_rfl⟩
theorem E72:FnOk PR cutsOf P5 Tryz.f22 B12 Du1 3:=⟨Tryz.func22,⟨_,rfl⟩,by kernel_rfl,rfl,rfl,by kernel_rfl⟩
theorem Dp6:FnOk PR cutsOf L9 Tryz.f23 Aw4 Bi7 2:=⟨Tryz.func23,⟨_,rfl⟩,by kernel_rfl,rfl,rfl,by kernel_rfl⟩
theorem Db3:FnOk PR cutsOf Aa4 Tryz.f24 Am1 Ba2 3:=⟨Tryz.func24,⟨_,rfl⟩,by kernel_rfl,rfl,rfl,by kernel_rfl⟩
theorem B74:FnOk PR cutsOf Y6 Tryz.f25 Aj2 A65 2:=⟨Tryz.func25,⟨_,rfl⟩,by kernel_rfl,rfl,rfl,by kernel_rfl⟩
theorem Da8:FnOk PR cutsOf Aa3 Tryz.f28 Am4 A99 3:=⟨Tryz.func28,⟨_,rfl⟩,by kernel_rfl,rfl,rfl,by kernel_rfl⟩
theorem Bv9:FnOk PR cutsOf Ac0 Tryz.f31 Bv7 Df1 1:=⟨Tryz.func31,⟨_,rfl⟩,by kernel_rfl,rfl,rfl,by kernel_rfl⟩
theorem Ge7:FnOk PR cutsOf A70 Tryz.f32 B80 D57 0:=⟨Tryz.func32,⟨_,rfl⟩,by kernel_rfl,rfl,rfl,by kernel_rfl⟩
theorem D77:FnOk PR cutsOf N4 Tryz.f33 A86 Bx5 1:=⟨Tryz.func33,⟨_,rfl⟩,by kernel_rfl,rfl,rfl,by kernel_rfl⟩
theorem D26:FnOk PR cutsOf U5 Tryz.f34 A52 Bt7 2:=⟨Tryz.func34,⟨_,rfl⟩,by kernel_rfl,rfl,rfl,by kernel_rfl⟩
theorem G17:FnOk PR cutsOf Bi8 Tryz.f35 Do5 Eo9 2:=⟨Tryz.func35,⟨_,rfl⟩,by kernel_rfl,rfl,rfl,by kernel_rfl⟩
theorem Dq3:FnOk PR cutsOf M6 Tryz.f36 Aw1 Bj0 2:=⟨Tryz.func36,⟨_,rfl⟩,by kernel_rfl,rfl,rfl,by kernel_rfl⟩
theorem Gg4:FnOk PR cutsOf Bl0 Tryz.f37 B70 D66 0:=⟨Tryz.func37,⟨_,rfl⟩,by kernel_rfl,rfl,rfl,by kernel_rfl⟩
theorem Dp8:FnOk PR cutsOf Ah1 Tryz.f39 B17 Dq9 2:=⟨Tryz.func39,⟨_,rfl⟩,by kernel_rfl,rfl,rfl,by kernel_rfl⟩
theorem Gz2:FnOk PR cutsOf A79 Tryz.f40 Dr5 Eo3 2:=⟨Tryz.func40,⟨_,rfl⟩,by kernel_rfl,rfl,rfl,by kernel_rfl⟩
theorem Dq5:FnOk PR cutsOf Ag3 Tryz.f48 Aw0 Bk4 1:=⟨Tryz.func48,⟨_,rfl⟩,by kernel_rfl,rfl,rfl,by kernel_rfl⟩
theorem Dk3:FnOk PR cutsOf Ae2 Tryz.f49 Ar7 Bf9 1:=⟨Tryz.func49,⟨_,rfl⟩,by kernel_rfl,rfl,rfl,by kernel_rfl⟩
theorem Ap8:FnOk PR cutsOf H6 Tryz.f50 Az1 Bc1 1:=⟨Tryz.func50,⟨_,rfl⟩,by kernel_rfl,rfl,rfl,by kernel_rfl⟩
theorem Ak3:FnOk PR cutsOf G7 Tryz.f51 A26 Bf4 1:=⟨Tryz.func51,⟨_,rfl⟩,by kernel_rfl,rfl,rfl,by kernel_rfl⟩
theorem Af4:FnOk PR cutsOf E2 Tryz.f52 Ao7 Az9 1:=⟨Tryz.func52,⟨_,rfl⟩,by kernel_rfl,rfl,rfl,by kernel_rfl⟩
theorem Gf5:FnOk PR cutsOf A69 Tryz.f53 B63 D74 0:=⟨Tryz.func53,⟨_,rfl⟩,by kernel_rfl,rfl,rfl,by kernel_rfl⟩
theorem E56:FnOk PR cutsOf Ao5 Tryz.f54 By7 Du0 3:=⟨Tryz.func54,⟨_,rfl⟩,by kernel_rfl,rfl,rfl,by kernel_rfl⟩
theorem Ec2:FnOk PR cutsOf Av7 Tryz.f55 Bb0 B33 2:=⟨Tryz.func55,⟨_,rfl⟩,by kernel_rfl,rfl,rfl,by kernel_rfl⟩
theorem En0:FnOk PR cutsOf Ak1 Tryz.f56 Bh5 B93 1:=⟨Tryz.func56,⟨_,rfl⟩,by kernel_rfl,rfl,rfl,by kernel_rfl⟩
theorem Eh2:FnOk PR cutsOf Ah7 Tryz.f57 Bb3 B45 2:=⟨Tryz.func57,⟨_,rfl⟩,by kernel_rfl,rfl,rfl,by kernel_rfl⟩
theorem Gh3:FnOk PR cutsOf Bl4 Tryz.f58 B61 D68 1:=⟨Tryz.func58,⟨_,rfl⟩,by kernel_rfl,rfl,rfl,by kernel_rfl⟩
theorem Dj7:FnOk PR cutsOf J9 Tryz.f59 Ar9 Bg1 4:=⟨Tryz.func59,⟨_,rfl⟩,by kernel_rfl,rfl,rfl,by kernel_rfl⟩
theorem E81:FnOk PR cutsOf Be9 Tryz.f60 B02 Dt7 1:=⟨Tryz.func60,⟨_,rfl⟩,by kernel_rfl,rfl,rfl,by kernel_rfl⟩
theorem Am6:FnOk PR cutsOf H1 Tryz.f61 Aa7 Al3 3:=⟨Tryz.func61,⟨_,rfl⟩,by kernel_rfl,rfl,rfl,by kernel_rfl⟩
theorem Gg7:FnOk PR cutsOf As6 Tryz.f62 B77 D53 1:=⟨Tryz.func62,⟨_,rfl⟩,by kernel_rfl,rfl,rfl,by kernel_rfl⟩
theorem Dq6:FnOk PR cutsOf W6 Tryz.f63 Av8 Bj6 2:=⟨Tryz.func63,⟨_,rfl⟩,by kernel_rfl,rfl,rfl,by kernel_rfl⟩
theorem G88:FnOk PR cutsOf A54 Tryz.f64 D34 E19 1:=⟨Tryz.func64,⟨_,rfl⟩,by kernel_rfl,rfl,rfl,by kernel_rfl⟩
theorem Dx6:FnOk PR cutsOf Ab9 Tryz.f65 Da5 D13 1:=⟨Tryz.func65,⟨_,rfl⟩,by kernel_rfl,rfl,rfl,by kernel_rfl⟩
theorem En6:FnOk PR cutsOf Ay3 Tryz.f67 Bh6 B92 3:=⟨Tryz.func67,⟨_,rfl⟩,by kernel_rfl,rfl,rfl,by kernel_rfl⟩
theorem Eb0:FnOk PR cutsOf As8 Tryz.f68 Bd4 B38 3:=⟨Tryz.func68,⟨_,rfl⟩,by kernel_rfl,rfl,rfl,by kernel_rfl⟩
theorem Am5:FnOk PR cutsOf I3 Tryz.f69 Aa9 Ak4 3:=⟨Tryz.func69,⟨_,rfl⟩,by kernel_rfl,rfl,rfl,by kernel_rfl⟩
theorem E73:FnOk PR cutsOf Ao6 Tryz.f70 Bx9 Dt0 1:=⟨Tryz.func70,⟨_,rfl⟩,by kernel_rfl,rfl,rfl,by kernel_rfl⟩
theorem E97:FnOk PR cutsOf A16 Tryz.f71 Bz5 Dv9 1:=⟨Tryz.func71,⟨_,rfl⟩,by kernel_rfl,rfl,rfl,by kernel_rfl⟩
theorem E47:FnOk PR cutsOf A05 Tryz.f72 By0 Du7 1:=⟨Tryz.func72,⟨_,rfl⟩,by kernel_rfl,rfl,rfl,by kernel_rfl⟩
theorem Dk2:FnOk PR cutsOf Ae5 Tryz.f73 Ar5 Bg3 2:=⟨Tryz.func73,⟨_,rfl⟩,by kernel_rfl,rfl,rfl,by kernel_rfl⟩
theorem E61:FnOk PR cutsOf A00 Tryz.f74 By2 Dw3 1:=⟨Tryz.func74,⟨_,rfl⟩,by kernel_rfl,rfl,rfl,by kernel_rfl⟩
theorem E49:FnOk PR cutsOf Az7 Tryz.f75 By6 Dv3 1:=⟨Tryz.func75,⟨_,rfl⟩,by kernel_rfl,rfl,rfl,by kernel_rfl⟩
theorem D43:FnOk PR cutsOf Ak8 Tryz.f76 A30 Bu9 1:=⟨Tryz.func76,⟨_,rfl⟩,by kernel_rfl,rfl,rfl,by kernel_rfl⟩
theorem Bh9:FnOk PR cutsOf N8 Tryz.f77 Ay5 Bh0 1:=⟨Tryz.func77,⟨_,rfl⟩,by kernel_rfl,rfl,rfl,by kernel_rfl⟩
theorem Em8:FnOk PR cutsOf Ay2 Tryz.f78 Bh1 B87 1:=⟨Tryz.func78,⟨_,rfl⟩,by kernel_rfl,rfl,rfl,by kernel_rfl⟩
theorem E69:FnOk PR cutsOf A04 Tryz.f79 By9 Dw1 3:=⟨Tryz.func79,⟨_,rfl⟩,by kernel_rfl,rfl,rfl,by kernel_rfl⟩
theorem Gw5:FnOk PR cutsOf Ah0 Tryz.f80 Dp5 Ep1 1:=⟨Tryz.func80,⟨_,rfl⟩,by kernel_rfl,rfl,rfl,by kernel_rfl⟩
theorem Ds5:FnOk PR cutsOf An9 Tryz.f81 B19 Dr2 1:=⟨Tryz.func81,⟨_,rfl⟩,by kernel_rfl,rfl,rfl,by kernel_rfl⟩
theorem Aq3:FnOk PR cutsOf E3 Tryz.f82 A15 Bc5 2:=⟨Tryz.func82,⟨_,rfl⟩,by kernel_rfl,rfl,rfl,by kernel_rfl⟩
theorem G07:FnOk PR cutsOf Bk2 Tryz.f83 Dr1 Ep2 2:=⟨Tryz.func83,⟨_,rfl⟩,by kernel_rfl,rfl,rfl,by kernel_rfl⟩
theorem Am0:FnOk PR cutsOf I0 Tryz.f84 Aa0 Al9 3:=⟨Tryz.func84,⟨_,rfl⟩,by kernel_rfl,rfl,rfl,by kernel_rfl⟩
theorem E59:FnOk PR cutsOf A13 Tryz.f85 By8 Dw0 1:=⟨Tryz.func85,⟨_,rfl⟩,by kernel_rfl,rfl,rfl,by kernel_rfl⟩
theorem Di1:FnOk PR cutsOf Ac1 Tryz.f88 Bv6 Dh1 2:=⟨Tryz.func88,⟨_,rfl⟩,by kernel_rfl,rfl,rfl,by kernel_rfl⟩
theorem Gf7:FnOk PR cutsOf A58 Tryz.f89 B66 D70 2:=⟨Tryz.func89,⟨_,rfl⟩,by kernel_rfl,rfl,rfl,by kernel_rfl⟩
theorem En5:FnOk PR cutsOf Ay1 Tryz.f90 Bg4 B94 1:=⟨Tryz.func90,⟨_,rfl⟩,by kernel_rfl,rfl,rfl,by kernel_rfl⟩
theorem M9:FnOk PR cutsOf B5 Tryz.f91 P6 Y1 1:=⟨Tryz.func91,⟨_,rfl⟩,by kernel_rfl,rfl,rfl,by kernel_rfl⟩
theorem A32:FnOk PR cutsOf O8 Tryz.f108 Al5 A56 3:=⟨Tryz.func108,⟨_,rfl⟩,by kernel_rfl,rfl,rfl,by kernel_rfl⟩
theorem Em4:FnOk PR cutsOf Aj7 Tryz.f109 Bh7 B82 1:=⟨Tryz.func109,⟨_,rfl⟩,by kernel_rfl,rfl,rfl,by kernel_rfl⟩
theorem Bd6:FnOk PR cutsOf P1 Tryz.f110 Bc4 Br0 1:=⟨Tryz.func110,⟨_,rfl⟩,by kernel_rfl,rfl,rfl,by kernel_rfl⟩
theorem Gf0:FnOk PR cutsOf A75 Tryz.f111 B60 D71 1:=⟨Tryz.func111,⟨_,rfl⟩,by kernel_rfl,rfl,rfl,by kernel_rfl⟩
theorem Di4:FnOk PR cutsOf U0 Tryz.f112 Ap5 Bd5 1:=⟨Tryz.func112,⟨_,rfl⟩,by kernel_rfl,rfl,rfl,by kernel_rfl⟩
theorem Hi0:FnOk PR cutsOf Dk8 Tryz.f113 D85 Ga6 1:=⟨Tryz.func113,⟨_,rfl⟩,by kernel_rfl,rfl,rfl,by kernel_rfl⟩
theorem D48:FnOk PR cutsOf At3 Tryz.f114 Dc7 Dz9 1:=⟨Tryz.func114,⟨_,rfl⟩,by kernel_rfl,rfl,rfl,by kernel_rfl⟩
theorem Do9:FnOk PR cutsOf Ao0 Tryz.f115 B27 Do4 1:=⟨Tryz.func115,⟨_,rfl⟩,by kernel_rfl,rfl,rfl,by kernel_rfl⟩
theorem Gu0:FnOk PR cutsOf Bv1 Tryz.f116 Di6 Ec9 2:=⟨Tryz.func116,⟨_,rfl⟩,by kernel_rfl,rfl,rfl,by kernel_rfl⟩
theorem Hb1:FnOk PR cutsOf Da7 Tryz.f117 Dx7 E26 1:=⟨Tryz.func117,⟨_,rfl⟩,by kernel_rfl,rfl,rfl,by kernel_rfl⟩
theorem Dz0:FnOk PR cutsOf Ak5 Tryz.f118 A48 Bw1 3:=⟨Tryz.func118,⟨_,rfl⟩,by kernel_rfl,rfl,rfl,by kernel_rfl⟩
theorem A83:FnOk PR cutsOf N5 Tryz.f119 Aq7 A87 2:=⟨Tryz.func119,⟨_,rfl⟩,by kernel_rfl,rfl,rfl,by kernel_rfl⟩
theorem B53:FnOk PR cutsOf J4 Tryz.f120 Ah4 A20 2:=⟨Tryz.func120,⟨_,rfl⟩,by kernel_rfl,rfl,rfl,by kernel_rfl⟩
theorem Ew5:FnOk PR cutsOf A28 Tryz.f121 Bm3 Df9 3:=⟨Tryz.func121,⟨_,rfl⟩,by kernel_rfl,rfl,rfl,by kernel_rfl⟩
theorem Bt2:FnOk PR cutsOf W0 Tryz.f122 A97 Bq5 1:=⟨Tryz.func122,⟨_,rfl⟩,by kernel_rfl,rfl,rfl,by kernel_rfl⟩
theorem Bc6:FnOk PR cutsOf L1 Tryz.f123 At2 Bd3 2:=⟨Tryz.func123,⟨_,rfl⟩,by kernel_rfl,rfl,rfl,by kernel_rfl⟩
theorem Bs3:FnOk PR cutsOf V8 Tryz.f124 A93 Bs1 1:=⟨Tryz.func124,⟨_,rfl⟩,by kernel_rfl,rfl,rfl,by kernel_rfl⟩
theorem E65:FnOk PR cutsOf Be4 Tryz.f125 B04 Dv7 1:=⟨Tryz.func125,⟨_,rfl⟩,by kernel_rfl,rfl,rfl,by kernel_rfl⟩
theorem Eg8:FnOk PR cutsOf Au6 Tryz.f126 Bc8 B55 3:=⟨Tryz.func126,⟨_,rfl⟩,by kernel_rfl,rfl,rfl,by kernel_rfl⟩
theorem Eg9:FnOk PR cutsOf A21 Tryz.f127 Dk7 Ef3 2:=⟨Tryz.func127,⟨_,rfl⟩,by kernel_rfl,rfl,rfl,by kernel_rfl⟩
theorem Et2:FnOk PR cutsOf A33 Tryz.f128 Bo2 Dg2 3:=⟨Tryz.func128,⟨_,rfl⟩,by kernel_rfl,rfl,rfl,by kernel_rfl⟩
theorem Ec5:FnOk PR cutsOf At1 Tryz.f129 Bc0 B43 1:=⟨Tryz.func129,⟨_,rfl⟩,by kernel_rfl,rfl,rfl,by kernel_rfl⟩
theorem Dy6:FnOk PR cutsOf Ak9 Tryz.f131 A35 Bs5 5:=⟨Tryz.func131,⟨_,rfl⟩,by kernel_rfl,rfl,rfl,by kernel_rfl⟩
theorem Er6:FnOk PR cutsOf A25 Tryz.f140 Bm8 De4 2:=⟨Tryz.func140,⟨_,rfl⟩,by kernel_rfl,rfl,rfl,by kernel_rfl⟩
theorem Ey5:FnOk PR cutsOf Ac8 Tryz.f141 Br8 Dn1 2:=⟨Tryz.func141,⟨_,rfl⟩,by kernel_rfl,rfl,rfl,by kernel_rfl⟩
theorem Ai2:FnOk PR cutsOf E0 Tryz.f142 W1 Ah8 1:=⟨Tryz.func142,⟨_,rfl⟩,by kernel_rfl,rfl,rfl,by kernel_rfl⟩
theorem Gu1:FnOk PR cutsOf Bb8 Tryz.f143 Dj1 Ei1 0:=⟨Tryz.func143,⟨_,rfl⟩,by kernel_rfl,rfl,rfl,by kernel_rfl⟩
theorem Bw8:FnOk PR cutsOf Q6 Tryz.f144 Ad7 Ax0 2:=⟨Tryz.func144,⟨_,rfl⟩,by kernel_rfl,rfl,rfl,by kernel_rfl⟩
theorem Dj9:FnOk PR cutsOf O6 Tryz.f145 Ar6 Bg2 2:=⟨Tryz.func145,⟨_,rfl⟩,by kernel_rfl,rfl,rfl,by kernel_rfl⟩
theorem Dp0:FnOk PR cutsOf M8 Tryz.f146 Aw8 Bi1 2:=⟨Tryz.func146,⟨_,rfl⟩,by kernel_rfl,rfl,rfl,by kernel_rfl⟩
theorem Gh2:FnOk PR cutsOf Aj1 Tryz.f147 B72 D55 1:=⟨Tryz.func147,⟨_,rfl⟩,by kernel_rfl,rfl,rfl,by kernel_rfl⟩
theorem Bx3:FnOk PR cutsOf S5 Tryz.f148 Ad5 Ax5 2:=⟨Tryz.func148,⟨_,rfl⟩,by kernel_rfl,rfl,rfl,by kernel_rfl⟩
theorem Ds6:FnOk PR cutsOf Z3 Tryz.f149 A19 Bp7 5:=⟨Tryz.func149,⟨_,rfl⟩,by kernel_rfl,rfl,rfl,by kernel_rfl⟩
theorem Ds2:FnOk PR cutsOf W8 Tryz.f150 Aw2 Bi9 5:=⟨Tryz.func150,⟨_,rfl⟩,by kernel_rfl,rfl,rfl,by kernel_rfl⟩
theorem Dt1:FnOk PR cutsOf Ai9 Tryz.f151 A01 Bp3 7:=⟨Tryz.func151,⟨_,rfl⟩,by kernel_rfl,rfl,rfl,by kernel_rfl⟩
theorem Ea4:FnOk PR cutsOf Av6 Tryz.f152 Bd1 B48 7:=⟨Tryz.func152,⟨_,rfl⟩,by kernel_rfl,rfl,rfl,by kernel_rfl⟩
theorem D78:FnOk PR cutsOf Ar0 Tryz.f154 A88 Bx7 2:=⟨Tryz.func154,⟨_,rfl⟩,by kernel_rfl,rfl,rfl,by kernel_rfl⟩
theorem Ea1:FnOk PR cutsOf Au4 Tryz.f155 Ba8 B42 3:=⟨Tryz.func155,⟨_,rfl⟩,by kernel_rfl,rfl,rfl,by kernel_rfl⟩
theorem Em3:FnOk PR cutsOf Ay9 Tryz.f156 Bg5 B91 3:=⟨Tryz.func156,⟨_,rfl⟩,by kernel_rfl,rfl,rfl,by kernel_rfl⟩
theorem Em1:FnOk PR cutsOf Ay6 Tryz.f157 Bg9 B83 3:=⟨Tryz.func157,⟨_,rfl⟩,by kernel_rfl,rfl,rfl,by kernel_rfl⟩
theorem Gg5:FnOk PR cutsOf A74 Tryz.f158 B73 D54 0:=⟨Tryz.func158,⟨_,rfl⟩,by kernel_rfl,rfl,rfl,by kernel_rfl⟩
theorem Bw4:FnOk PR cutsOf Q7 Tryz.f159 Ad3 Ax6 2:=⟨Tryz.func159,⟨_,rfl⟩,by kernel_rfl,rfl,rfl,by kernel_rfl⟩
theorem Bw5:FnOk PR cutsOf S4 Tryz.f160 Ad6 Ax1 2:=⟨Tryz.func160,⟨_,rfl⟩,by kernel_rfl,rfl,rfl,by kernel_rfl⟩
theorem Gg0:FnOk PR cutsOf A61 Tryz.f161 B67 D67 0:=⟨Tryz.func161,⟨_,rfl⟩,by kernel_rfl,rfl,rfl,by kernel_rfl⟩
theorem Bx1:FnOk PR cutsOf Q5 Tryz.f162 Ad8 Ax3 2:=⟨Tryz.func162,⟨_,rfl⟩,by kernel_rfl,rfl,rfl,by kernel_rfl⟩
theorem Do7:FnOk PR cutsOf W7 Tryz.f163 B18 Dp3 1:=⟨Tryz.func163,⟨_,rfl⟩,by kernel_rfl,rfl,rfl,by kernel_rfl⟩
theorem Gr8:FnOk PR cutsOf Bd0 Tryz.f164 Dj5 Ef2 3:=⟨Tryz.func164,⟨_,rfl⟩,by kernel_rfl,rfl,rfl,by kernel_rfl⟩
theorem A73:FnOk PR cutsOf E5 Tryz.f165 Aj4 A76 1:=⟨Tryz.func165,⟨_,rfl⟩,by kernel_rfl,rfl,rfl,by kernel_rfl⟩
theorem Bw2:FnOk PR cutsOf R0 Tryz.f166 Ad4 Ax4 2:=⟨Tryz.func166,⟨_,rfl⟩,by kernel_rfl,rfl,rfl,by kernel_rfl⟩
theorem E43:FnOk PR cutsOf E7 Tryz.f174 B07 Dv0 2:=⟨Tryz.func174,⟨_,rfl⟩,by kernel_rfl,rfl,rfl,by kernel_rfl⟩
theorem Ar4:FnOk PR cutsOf D6 Tryz.f175 Ab1 Ar2 2:=⟨Tryz.func175,⟨_,rfl⟩,by kernel_rfl,rfl,rfl,by kernel_rfl⟩
theorem Gq3:FnOk PR cutsOf Bt8 Tryz.f176 Di3 Eg1 2:=⟨Tryz.func176,⟨_,rfl⟩,by kernel_rfl,rfl,rfl,by kernel_rfl⟩
theorem A84:FnOk PR cutsOf N7 Tryz.f177 Aq6 A82 1:=⟨Tryz.func177,⟨_,rfl⟩,by kernel_rfl,rfl,rfl,by kernel_rfl⟩
theorem E87:FnOk PR cutsOf Az8 Tryz.f178 B05 Ds9 1:=⟨Tryz.func178,⟨_,rfl⟩,by kernel_rfl,rfl,rfl,by kernel_rfl⟩
theorem Aq4:FnOk PR cutsOf G4 Tryz.f179 Ab7 Ao8 2:=⟨Tryz.func179,⟨_,rfl⟩,by kernel_rfl,rfl,rfl,by kernel_rfl⟩
theorem D86:FnOk PR cutsOf Ah5 Tryz.f180 Bb2 B46 1:=⟨Tryz.func180,⟨_,rfl⟩,by kernel_rfl,rfl,rfl,by kernel_rfl⟩
theorem Ev3:FnOk PR cutsOf Ao9 Tryz.f181 Bm7 De3 3:=⟨Tryz.func181,⟨_,rfl⟩,by kernel_rfl,rfl,rfl,by kernel_rfl⟩
theorem Bs7:FnOk PR cutsOf W4 Tryz.f182 Ba0 Bs8 1:=⟨Tryz.func182,⟨_,rfl⟩,by kernel_rfl,rfl,rfl,by kernel_rfl⟩
theorem Gg1:FnOk PR cutsOf Ad2 Tryz.f183 B68 D73 3:=⟨Tryz.func183,⟨_,rfl⟩,by kernel_rfl,rfl,rfl,by kernel_rfl⟩
theorem Ev8:FnOk PR cutsOf Ag2 Tryz.f184 Bo8 Dg1 2:=⟨Tryz.func184,⟨_,rfl⟩,by kernel_rfl,rfl,rfl,by kernel_rfl⟩
theorem Et1:FnOk PR cutsOf A55 Tryz.f185 Bm1 Dg4 3:=⟨Tryz.func185,⟨_,rfl⟩,by kernel_rfl,rfl,rfl,by kernel_rfl⟩
theorem D36:FnOk PR cutsOf An3 Tryz.f186 A41 Bq8 6:=⟨Tryz.func186,⟨_,rfl⟩,by kernel_rfl,rfl,rfl,by kernel_rfl⟩
theorem Ew3:FnOk PR cutsOf A44 Tryz.f187 Bm4 Di0 3:=⟨Tryz.func187,⟨_,rfl⟩,by kernel_rfl,rfl,rfl,by kernel_rfl⟩
theorem Bm6:FnOk PR cutsOf O9 Tryz.f194 A40 Bn8 1:=⟨Tryz.func194,⟨_,rfl⟩,by kernel_rfl,rfl,rfl,by kernel_rfl⟩
theorem B78:FnOk PR cutsOf L0 Tryz.f195 Aj6 A64 2:=⟨Tryz.func195,⟨_,rfl⟩,by kernel_rfl,rfl,rfl,by kernel_rfl⟩
theorem D32:FnOk PR cutsOf Al0 Tryz.f196 A42 Bt5 3:=⟨Tryz.func196,⟨_,rfl⟩,by kernel_rfl,rfl,rfl,by kernel_rfl⟩
theorem G52:FnOk PR cutsOf Bf8 Tryz.f197 Dw6 Ex6 2:=⟨Tryz.func197,⟨_,rfl⟩,by kernel_rfl,rfl,rfl,by kernel_rfl⟩
theorem Ha6:FnOk PR cutsOf Be7 Tryz.f198 Dw5 Ez9 1:=⟨Tryz.func198,⟨_,rfl⟩,by kernel_rfl,rfl,rfl,by kernel_rfl⟩
theorem Bj7:FnOk PR cutsOf O1 Tryz.f199 Y2 An5 2:=⟨Tryz.func199,⟨_,rfl⟩,by kernel_rfl,rfl,rfl,by kernel_rfl⟩
theorem Ey1:FnOk PR cutsOf Ac3 Tryz.f200 Bu1 Dn3 1:=⟨Tryz.func200,⟨_,rfl⟩,by kernel_rfl,rfl,rfl,by kernel_rfl⟩
theorem Dr8:FnOk PR cutsOf Y0 Tryz.f201 Aw3 Bj4 6:=⟨Tryz.func201,⟨_,rfl⟩,by kernel_rfl,rfl,rfl,by kernel_rfl⟩
theorem Ey4:FnOk PR cutsOf Ba1 Tryz.f202 Bv3 Dn6 3:=⟨Tryz.func202,⟨_,rfl⟩,by kernel_rfl,rfl,rfl,by kernel_rfl⟩
theorem Es9:FnOk PR cutsOf Aq1 Tryz.f203 Bo9 Dd7 3:=⟨Tryz.func203,⟨_,rfl⟩,by kernel_rfl,rfl,rfl,by kernel_rfl⟩
theorem Ew4:FnOk PR cutsOf Af8 Tryz.f206 Bm9 Df5 2:=⟨Tryz.func206,⟨_,rfl⟩,by kernel_rfl,rfl,rfl,by kernel_rfl⟩
theorem Eg3:FnOk PR cutsOf As9 Tryz.f207 Bc2 B32 3:=⟨Tryz.func207,⟨_,rfl⟩,by kernel_rfl,rfl,rfl,by kernel_rfl⟩
theorem Ew1:FnOk PR cutsOf Aq2 Tryz.f208 Bn0 Dg0 3:=⟨Tryz.func208,⟨_,rfl⟩,by kernel_rfl,rfl,rfl,by kernel_rfl⟩
theorem V7:FnOk PR cutsOf B4 Tryz.f209 P7 V6 3:=⟨Tryz.func209,⟨_,rfl⟩,by kernel_rfl,rfl,rfl,by kernel_rfl⟩
theorem Em0:FnOk PR cutsOf Ax8 Tryz.f210 Bg7 B85 3:=⟨Tryz.func210,⟨_,rfl⟩,by kernel_rfl,rfl,rfl,by kernel_rfl⟩
theorem D47:FnOk PR cutsOf Al7 Tryz.f211 A34 Bs0 3:=⟨Tryz.func211,⟨_,rfl⟩,by kernel_rfl,rfl,rfl,by kernel_rfl⟩
theorem G6:FnOk PR cutsOf L8 Tryz.f212 A81 Bk6 2:=⟨Tryz.func212,⟨_,rfl⟩,by kernel_rfl,rfl,rfl,by kernel_rfl⟩
theorem M0:FnOk PR cutsOf U2 Tryz.f213 Bk7 B22 1:=⟨Tryz.func213,⟨_,rfl⟩,by kernel_rfl,rfl,rfl,by kernel_rfl⟩
theorem Dy0:FnOk PR cutsOf An0 Tryz.f214 A45 Bq7 3:=⟨Tryz.func214,⟨_,rfl⟩,by kernel_rfl,rfl,rfl,by kernel_rfl⟩
theorem Gx4:FnOk PR cutsOf An7 Tryz.f215 Dq1 Eq5 2:=⟨Tryz.func215,⟨_,rfl⟩,by kernel_rfl,rfl,rfl,by kernel_rfl⟩
theorem G12:FnOk PR cutsOf Ao3 Tryz.f216 Do8 Ep4 1:=⟨Tryz.func216,⟨_,rfl⟩,by kernel_rfl,rfl,rfl,by kernel_rfl⟩
theorem I6:FnOk PR cutsOf D0 Tryz.f217 U6 Ag0 2:=⟨Tryz.func217,⟨_,rfl⟩,by kernel_rfl,rfl,rfl,by kernel_rfl⟩
theorem Al4:FnOk PR cutsOf H0 Tryz.f218 Aa2 Ak7 2:=⟨Tryz.func218,⟨_,rfl⟩,by kernel_rfl,rfl,rfl,by kernel_rfl⟩
theorem Bn5:FnOk PR cutsOf S7 Tryz.f219 A47 Bo5 1:=⟨Tryz.func219,⟨_,rfl⟩,by kernel_rfl,rfl,rfl,by kernel_rfl⟩
theorem Er5:FnOk PR cutsOf A53 Tryz.f220 Bo6 Dh5 2:=⟨Tryz.func220,⟨_,rfl⟩,by kernel_rfl,rfl,rfl,by kernel_rfl⟩
theorem He1:FnOk PR cutsOf Dm7 Tryz.f223 D98 Gd1 1:=⟨Tryz.func223,⟨_,rfl⟩,by kernel_rfl,rfl,rfl,by kernel_rfl⟩
theorem Aj3:FnOk PR cutsOf B6 Tryz.f224 Y5 Aj5 2:=⟨Tryz.func224,⟨_,rfl⟩,by kernel_rfl,rfl,rfl,by kernel_rfl⟩
theorem Ab3:FnOk PR cutsOf E1 Tryz.f225 Q2 Ab4 2:=⟨Tryz.func225,⟨_,rfl⟩,by kernel_rfl,rfl,rfl,by kernel_rfl⟩
theorem Dc4:FnOk PR cutsOf Z9 Tryz.f226 Am7 Ba5 2:=⟨Tryz.func226,⟨_,rfl⟩,by kernel_rfl,rfl,rfl,by kernel_rfl⟩
theorem Di5:FnOk PR cutsOf Ab6 Tryz.f229 Ap1 Bd2 2:=⟨Tryz.func229,⟨_,rfl⟩,by kernel_rfl,rfl,rfl,by kernel_rfl⟩
theorem El9:FnOk PR cutsOf Ax9 Tryz.f230 Bh8 B89 3:=⟨Tryz.func230,⟨_,rfl⟩,by kernel_rfl,rfl,rfl,by kernel_rfl⟩
theorem G77:FnOk PR cutsOf Db1 Tryz.f231 D08 E17 1:=⟨Tryz.func231,⟨_,rfl⟩,by kernel_rfl,rfl,rfl,by kernel_rfl⟩
theorem Gk7:FnOk PR cutsOf Bb6 Tryz.f232 Dd6 Ei2 3:=⟨Tryz.func232,⟨_,rfl⟩,by kernel_rfl,rfl,rfl,by kernel_rfl⟩
theorem Gt1:FnOk PR cutsOf Bu8 Tryz.f233 Di9 D89 2:=⟨Tryz.func233,⟨_,rfl⟩,by kernel_rfl,rfl,rfl,by kernel_rfl⟩
theorem G72:FnOk PR cutsOf Dc8 Tryz.f234 D23 Ex4 1:=⟨Tryz.func234,⟨_,rfl⟩,by kernel_rfl,rfl,rfl,by kernel_rfl⟩
theorem Gy1:FnOk PR cutsOf Ao2 Tryz.f235 Dr3 Ep6 2:=⟨Tryz.func235,⟨_,rfl⟩,by kernel_rfl,rfl,rfl,by kernel_rfl⟩
theorem Gp7:FnOk PR cutsOf Ah6 Tryz.f238 Df7 Ei5 2:=⟨Tryz.func238,⟨_,rfl⟩,by kernel_rfl,rfl,rfl,by kernel_rfl⟩
theorem Gi9:FnOk PR cutsOf Bb9 Tryz.f239 Dh4 Ee2 1:=⟨Tryz.func239,⟨_,rfl⟩,by kernel_rfl,rfl,rfl,by kernel_rfl⟩
end
end Go.EQ

namespace Go.EQ
open Go Go.NN Go.Proofs
theorem H45:type_of% Tryz.underlying3:=Tryz.underlying3
theorem Hz9:type_of% Tryz.underlying4:=Tryz.underlying4
theorem G40:type_of% Tryz.underlying48:=Tryz.underlying48
end Go.EQ
