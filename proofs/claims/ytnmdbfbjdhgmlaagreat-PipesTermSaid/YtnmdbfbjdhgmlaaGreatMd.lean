/- What is typed is read, in order, by the front group alone; the front goes to a group that is there, given by the front group alone; no conditions. -/
import Derived.Test.YtnmdbfbjdhgmlaaGreatMc
import Derived.Test.YtnmdbfbjdhgmlaaGreatProg
import Derived.KernelRfl
set_option linter.all false
namespace Go.EQ
open Go Go.NN Go.Proofs
noncomputable abbrev PR:Program:=Tryz.prog
abbrev I5:FuncId:=8
abbrev Af1:FuncId:=9
abbrev Bc5:FuncId:=10
abbrev Dj7:FuncId:=11
abbrev Aw0:FuncId:=12
abbrev Bt4:FuncId:=13
abbrev Ab7:FuncId:=14
abbrev Da3:FuncId:=17
abbrev Aj8:FuncId:=19
abbrev B12:FuncId:=20
abbrev Bj6:FuncId:=21
abbrev Aw8:FuncId:=22
abbrev Bi6:FuncId:=23
abbrev B00:FuncId:=24
abbrev P7:FuncId:=25
abbrev S5:FuncId:=26
abbrev As3:FuncId:=27
abbrev Bc9:FuncId:=28
abbrev U0:FuncId:=29
abbrev A25:FuncId:=30
abbrev Ba0:FuncId:=31
abbrev Da1:FuncId:=32
abbrev Y8:FuncId:=33
abbrev A71:FuncId:=34
abbrev L5:FuncId:=35
abbrev A57:FuncId:=36
abbrev S6:FuncId:=37
abbrev U9:FuncId:=38
abbrev O8:FuncId:=39
abbrev Dm4:FuncId:=40
abbrev O7:FuncId:=41
abbrev Dp7:FuncId:=42
abbrev H9:FuncId:=43
abbrev Bl3:FuncId:=44
abbrev Gm1:FuncId:=45
abbrev Aw6:FuncId:=46
abbrev Ao2:FuncId:=47
abbrev Bq5:FuncId:=48
abbrev Db1:FuncId:=49
abbrev N0:FuncId:=52
abbrev Ab6:FuncId:=53
abbrev Ar8:FuncId:=54
abbrev G5:FuncId:=55
abbrev Bq6:FuncId:=56
abbrev Db2:FuncId:=57
abbrev D4:FuncId:=59
abbrev L7:FuncId:=60
abbrev A59:FuncId:=61
abbrev By6:FuncId:=62
abbrev B07:FuncId:=63
abbrev S9:FuncId:=64
abbrev J9:FuncId:=65
abbrev Q6:FuncId:=66
abbrev Ab8:FuncId:=67
abbrev J4:FuncId:=68
abbrev H8:FuncId:=69
abbrev G3:FuncId:=70
abbrev Bs6:FuncId:=71
abbrev Ay2:FuncId:=72
abbrev Af9:FuncId:=73
abbrev A27:FuncId:=74
abbrev Az6:FuncId:=75
abbrev Em0:FuncId:=76
abbrev Ao5:FuncId:=77
abbrev Em2:FuncId:=78
abbrev Ev8:FuncId:=79
abbrev El8:FuncId:=80
abbrev Eq5:FuncId:=81
abbrev E11:FuncId:=82
abbrev Dy0:FuncId:=83
abbrev E30:FuncId:=84
abbrev E23:FuncId:=85
abbrev Ax8:FuncId:=86
abbrev Ba9:FuncId:=87
abbrev Bc8:FuncId:=88
abbrev J8:FuncId:=89
abbrev A44:FuncId:=90
abbrev A47:FuncId:=91
abbrev I3:FuncId:=92
abbrev A60:FuncId:=93
abbrev Aw5:FuncId:=94
abbrev Aw2:FuncId:=95
abbrev H6:FuncId:=96
abbrev A43:FuncId:=97
abbrev A40:FuncId:=98
abbrev A55:FuncId:=99
abbrev A73:FuncId:=100
abbrev Bw7:FuncId:=102
abbrev Bt2:FuncId:=103
abbrev Al3:FuncId:=104
abbrev U7:FuncId:=105
abbrev H4:FuncId:=106
abbrev Ab2:FuncId:=109
abbrev L1:FuncId:=110
abbrev A68:FuncId:=111
abbrev Ae7:FuncId:=112
abbrev Bk3:FuncId:=113
abbrev A22:FuncId:=114
abbrev Q9:FuncId:=115
abbrev Am8:FuncId:=116
abbrev Af2:FuncId:=117
abbrev R0:FuncId:=118
abbrev Bb3:FuncId:=119
abbrev W1:FuncId:=120
abbrev Dy5:FuncId:=121
abbrev Ay3:FuncId:=122
abbrev As0:FuncId:=123
abbrev B20:FuncId:=124
abbrev Dm2:FuncId:=125
abbrev Aq9:FuncId:=126
abbrev P5:FuncId:=127
abbrev A91:FuncId:=128
abbrev Z9:FuncId:=129
abbrev O0:FuncId:=130
abbrev Aa4:FuncId:=131
abbrev Bm9:FuncId:=132
abbrev Az5:FuncId:=133
abbrev A74:FuncId:=134
abbrev A92:FuncId:=135
abbrev An2:FuncId:=136
abbrev Al0:FuncId:=137
abbrev A84:FuncId:=138
abbrev Ac7:FuncId:=139
abbrev Aa9:FuncId:=140
abbrev Al5:FuncId:=141
abbrev Ay6:FuncId:=142
abbrev El7:FuncId:=143
abbrev Au3:FuncId:=144
abbrev Az1:FuncId:=145
abbrev A30:FuncId:=146
abbrev A33:FuncId:=147
abbrev Ao9:FuncId:=148
abbrev A77:FuncId:=149
abbrev Aj6:FuncId:=150
abbrev Ag7:FuncId:=151
abbrev Ba7:FuncId:=152
abbrev O6:FuncId:=159
abbrev Am3:FuncId:=160
abbrev Bb8:FuncId:=161
abbrev V6:FuncId:=162
abbrev Bh1:FuncId:=163
abbrev V3:FuncId:=164
abbrev V4:FuncId:=165
abbrev Z3:FuncId:=166
abbrev V7:FuncId:=167
abbrev Bc6:FuncId:=168
abbrev V8:FuncId:=169
abbrev Ar5:FuncId:=171
abbrev V9:FuncId:=173
abbrev Aa7:FuncId:=174
abbrev G9:FuncId:=175
abbrev E8:FuncId:=176
abbrev B30:FuncId:=177
abbrev P2:FuncId:=178
abbrev A54:FuncId:=179
abbrev Ak8:FuncId:=180
abbrev Af4:FuncId:=181
abbrev Au1:FuncId:=182
abbrev Aa1:FuncId:=183
abbrev G1:FuncId:=184
abbrev Q8:FuncId:=185
abbrev Aa8:FuncId:=186
abbrev Bm1:FuncId:=187
abbrev Be6:FuncId:=188
abbrev At5:FuncId:=189
abbrev Ai5:FuncId:=192
abbrev Ax1:FuncId:=193
abbrev As4:FuncId:=194
abbrev D2:FuncId:=195
abbrev A31:FuncId:=196
abbrev A82:FuncId:=197
abbrev W4:FuncId:=198
abbrev Q1:FuncId:=201
abbrev Ag2:FuncId:=202
abbrev An5:FuncId:=203
abbrev Ar1:FuncId:=204
abbrev Ar6:FuncId:=205
abbrev G6:FuncId:=206
abbrev Aq1:FuncId:=207
abbrev Bm3:FuncId:=208
abbrev Bm6:FuncId:=209
abbrev Ao8:FuncId:=210
abbrev O1:FuncId:=211
abbrev W9:FuncId:=212
abbrev D9:FuncId:=213
abbrev I2:FuncId:=214
abbrev N6:FuncId:=215
abbrev Bj9:FuncId:=216
abbrev Ad3:FuncId:=217
abbrev Ae5:FuncId:=220
abbrev A32:FuncId:=221
abbrev G2:FuncId:=222
abbrev Dn1:FuncId:=223
abbrev D6:FuncId:=224
abbrev Dj8:FuncId:=225
abbrev Bh8:FuncId:=226
abbrev Bz7:FuncId:=227
abbrev Ak9:FuncId:=230
abbrev Bh0:FuncId:=231
abbrev B8:TypeId:=3
abbrev Gj3:TypeId:=4
abbrev A5:TypeId:=5
abbrev P3:TypeId:=24
abbrev Gr5:TypeId:=29
abbrev E4:TypeId:=33
abbrev Gp7:TypeId:=44
abbrev D0:TypeId:=46
abbrev Do3:TypeId:=53
abbrev B10:TypeId:=56
abbrev Az4:TypeId:=59
abbrev D3:TypeId:=63
abbrev Ep9:TypeId:=65
abbrev D7:TypeId:=73
abbrev Q4:TypeId:=75
abbrev By2:TypeId:=91
abbrev E1:TypeId:=116
abbrev B29:TypeId:=125
abbrev D15:TypeId:=133
abbrev E47:TypeId:=142
abbrev D80:TypeId:=150
abbrev Bc2:TypeId:=156
abbrev E2:TypeId:=161
abbrev Ec5:TypeId:=176
abbrev Ae4:TypeId:=183
abbrev I9:TypeId:=189
abbrev Aw3:TypeId:=196
abbrev P4:TypeId:=203
abbrev Di2:TypeId:=212
abbrev Dx9:TypeId:=215
abbrev A72:TypeId:=231
abbrev Er2:TypeId:=235
abbrev Et7:TypeId:=238
abbrev E55:TypeId:=240
abbrev B13:TypeId:=254
abbrev Es2:TypeId:=265
abbrev At6:TypeId:=268
abbrev G8:TypeId:=269
abbrev Aw4:TypeId:=272
abbrev Dr8:TypeId:=275
abbrev E53:TypeId:=277
abbrev Aw1:TypeId:=280
abbrev Bp1:TypeId:=282
abbrev Bi1:TypeId:=295
abbrev Ew1:TypeId:=298
abbrev Ak2:TypeId:=304
abbrev Bq2:TypeId:=308
abbrev Bp4:TypeId:=312
abbrev Bx6:TypeId:=316
abbrev Al8:TypeId:=318
abbrev Im5:TypeId:=332
end Go.EQ

set_option maxRecDepth 100000
namespace Go.EQ
open Go Go.NN Go.Proofs
variable (C : A4) (R : A6)
noncomputable section
def A28:Cuts:={ globs:=0,loops:=[],regs:=[(16,[0,1,6,9,12,13,14])],plans:=[(9,⟨[0,1,2,3,4,5,6,7,8,9,10,11,12,13,14,15,16,17,18,19,20,21,22,23,24,25,26,27,28,29,30,31,32],[0,0,2,6,15,31,63,127,255,511,1023,2047,4095,8191,16383,32767,65535,131071,65535,327679,1048575,2097151,4194303,8388607,16777215,33554431,8388607,8388607,142606335,478150655,1015021567,2147483647,4294967295],[],[]⟩),(21,⟨[0,1,2,3,4,5,6,7,8,9,10,11,12,13,14,15,16,17,18,19,20,21,22,23,24,25,26,27,28,29,30],[0,1,3,7,15,31,15,79,255,511,1023,2047,4095,8191,2047,2047,34815,2047,247807,509951,1048575,2097151,4194303,8388607,16777215,33554431,67108863,134217727,268435455,536870911,1073741823],[],[]⟩)] }
def Bn4:List Item:=A7 Tryz.f8
def An8:List Item:=stk [0,1,0,1,0,1,0,1,0,1,0,1,0,1,0,1,0,1,0,1,0,1,0,1,0] Bn4
theorem E32 (C:A4) (R:A6) (b:Option Addr) (bn bc:Nat) (g:Int) (h:H) :
 A8 PR A28 C R I5 Tryz.f8 100000 true Bn4 [(0,.slice b bn bc),(1,.int .i64 g)] h =
 bnd (C Bc5 [] h) fun r w=>aSl r fun x xn xc=>bnd (C Af1 [.slice x xn xc] w) fun r_1 w1=>as4 r_1 fun r_2 r_3 r_4 r_5=>aPtr r_2 fun _=>aPtr r_3 fun x_2=>aPtr r_4 fun _=>aPtr r_5 fun _=>bnd (cond x_2.isNone (some (true,w1)) (some (decide (((bn:Nat):Int)>60),w1))) fun c w2=>cond c
 (bnd (cond (!x_2.isNone) (bnd (C Aw0 [] w2) fun r_6 w3=>aBool r_6 fun x_5=>some (x_5,w3)) (some (false,w2))) fun c_1 w4=>some (.bool c_1,w4))
 (bnd (C Da3 [.pointer x_2,.int .i64 0] w2) fun r_7 w5=>aAgg r_7 fun x_6=>nth x_6 0 fun N=>aInt .i64 N fun N_1=>bnd (cond (N_1 != 1) (some (true,w5)) (bnd (C B12 [.pointer x_2,.int .i64 1,.int .i64 1,.int .i64 1] w5) fun r_8 w6=>aAgg r_8 fun x_7=>nth x_7 1 fun E=>aInt .i64 E fun E_1=>some (E_1 != 0,w6))) fun c_2 w7=>cond c_2
 (some (.bool false,w7))
 (bnd (C Bj6 [.pointer x_2,.slice b bn bc] w7) fun r_9 w8=>aInt .i64 r_9 fun x_8=>bnd (C Ab7 [.pointer x_2,.int .i64 1,.int .i64 0,.int .i64 5] w8) fun r_10 w9=>aAgg r_10 fun x_9=>nw (.cells E4 false [.int .i64 0,.int .i64 0,.slice none 0 0,.bool false]) w9 fun b_1 w10=>ck (List.length x_9=4) (pAgg ⟨b_1,0,none⟩ x_9 w10 fun w11=>bnd (C Ab7 [.pointer x_2,.int .i64 0,.int .i64 0,.int .i64 5] w11) fun r_11 w12=>aAgg r_11 fun x_10=>nw (.cells E4 false [.int .i64 0,.int .i64 0,.slice none 0 0,.bool false]) w12 fun b_2 w13=>ck (List.length x_10=4) (pAgg ⟨b_2,0,none⟩ x_10 w13 fun w14=>bnd (cond (x_8 != (mm2 false ((bn:Nat):Int) 32)) (some (true,w14)) (gInt .i64 (Addr.add ⟨b_1,0,none⟩ 1) w14 fun x_11=>some (x_11 != 125,w14))) fun c_3 w15=>bnd (cond c_3 (some (true,w15)) (gInt .i64 (Addr.add ⟨b_2,0,none⟩ 1) w15 fun x_12=>some (x_12 != 0,w15))) fun c_4 w16=>bnd (cond c_4 (some (true,w16)) (gBool (Addr.add ⟨b_2,0,none⟩ 3) w16 fun x_13=>some (!(x_13==(x_8==0)),w16))) fun c_5 w17=>bnd (cond c_5 (some (true,w17)) (gSl (Addr.add ⟨b_2,0,none⟩ 2) w17 fun x_14 xn_1 _=>gCells x_14 xn_1 w17 fun cs=>asBytes cs fun l=>ckB (fitsOpen b A5 w17) (ck ((0:Int)≤mm2 false x_8 5∧mm2 false x_8 5≤((bc:Nat):Int)) (gCells (H0 b (decide (0<bc)) (0*1)) ((Int.toNat (mm2 false x_8 5))-0) w17 fun cs_1=>asBytes cs_1 fun l_1=>some (!((ByteArray.mk ⟨l⟩).toList==(ByteArray.mk ⟨l_1⟩).toList),w17))))) fun c_6 w18=>cond c_6
 (some (.bool false,w18))
 (bnd (C Aw8 [.pointer x_2,.int .i64 1,.int .i64 1] w18) fun r_12 w19=>aAgg r_12 fun x_15=>nw (.cells E4 false [.int .i64 0,.int .i64 0,.slice none 0 0,.bool false]) w19 fun b_3 w20=>ck (List.length x_15=4) (pAgg ⟨b_3,0,none⟩ x_15 w20 fun w21=>bnd (C Aw8 [.pointer x_2,.int .i64 0,.int .i64 (M7 .i64 g 7)] w21) fun r_13 w22=>aAgg r_13 fun x_16=>nw (.cells E4 false [.int .i64 0,.int .i64 0,.slice none 0 0,.bool false]) w22 fun b_4 w23=>ck (List.length x_16=4) (pAgg ⟨b_4,0,none⟩ x_16 w23 fun w24=>cond (decide ((M7 .i64 g 7)<2))
 (R I5 An8 [(0,.slice b bn bc),(1,.int .i64 g),(6,.pointer x_2),(9,.int .i64 x_8),(12,.pointer (some ⟨b_3,0,none⟩)),(13,.pointer (some ⟨b_4,0,none⟩)),(14,.int .i64 0)] w24)
 (R I5 An8 [(0,.slice b bn bc),(1,.int .i64 g),(6,.pointer x_2),(9,.int .i64 x_8),(12,.pointer (some ⟨b_3,0,none⟩)),(13,.pointer (some ⟨b_4,0,none⟩)),(14,.int .i64 101)] w24)))))))):=by kernel_rfl
theorem Ei4 (C:A4) (R:A6) (b:Option Addr) (bn bc:Nat) (g:Int) (c:Option Addr) (n:Int) (w:Addr) (i:Addr) (want:Int) (h:H) :
 A8 PR A28 C R I5 Tryz.f8 100000 true An8 [(0,.slice b bn bc),(1,.int .i64 g),(6,.pointer c),(9,.int .i64 n),(12,.pointer (some w)),(13,.pointer (some i)),(14,.int .i64 want)] h =
 bnd (C Aw8 [.pointer c,.int .i64 0,.int .i64 8] h) fun r w1=>aAgg r fun x=>nw (.cells E4 false [.int .i64 0,.int .i64 0,.slice none 0 0,.bool false]) w1 fun b_1 w2=>ck (List.length x=4) (pAgg ⟨b_1,0,none⟩ x w2 fun w3=>gInt .i64 (Addr.add w 1) w3 fun x_1=>bnd (cond (x_1 != 101) (some (true,w3)) (gInt .i64 (Addr.add i 1) w3 fun x_2=>some (x_2 != want,w3))) fun c_1 w4=>bnd (cond c_1 (some (true,w4)) (gInt .i64 (Addr.add ⟨b_1,0,none⟩ 1) w4 fun x_3=>some (x_3 != 122,w4))) fun c_2 w5=>cond c_2
 (some (.bool false,w5))
 (bnd (C Ab7 [.pointer c,.int .i64 1,.int .i64 0,.int .i64 32] w5) fun r_1 w6=>aAgg r_1 fun x_4=>bnd (C Ab7 [.pointer c,.int .i64 0,.int .i64 0,.int .i64 0] w6) fun r_2 w7=>aAgg r_2 fun x_5=>nw (.cells E4 false [.int .i64 0,.int .i64 0,.slice none 0 0,.bool false]) w7 fun b_2 w8=>nw (.cells E4 false [.int .i64 0,.int .i64 0,.slice none 0 0,.bool false]) w8 fun b_3 w9=>ck (List.length x_4=4) (pAgg ⟨b_2,0,none⟩ x_4 w9 fun w10=>ck (List.length x_5=4) (pAgg ⟨b_3,0,none⟩ x_5 w10 fun w11=>bnd (cond (want==0) (some ((M7 .i64 g 7)==1,w11)) (some (false,w11))) fun c_3 w12=>cond c_3
 (gInt .i64 (Addr.add ⟨b_2,0,none⟩ 1) w12 fun x_6=>bnd (cond (x_6==0) (gBool (Addr.add ⟨b_2,0,none⟩ 3) w12 fun x_7=>some (x_7==(decide (n≤5)),w12)) (some (false,w12))) fun c_4 w13=>bnd (cond c_4 (gSl (Addr.add ⟨b_2,0,none⟩ 2) w13 fun x_8 xn _=>gCells x_8 xn w13 fun cs=>asBytes cs fun l=>ckB (fitsOpen b A5 w13) (ck ((0:Int)≤n∧n≤((bc:Nat):Int)) (ck ((0:Int)≤mm2 false n 5∧mm2 false n 5≤((Int.toNat n:Nat):Int)) (gCells (H0 b (decide (Int.toNat (mm2 false n 5)<bc)) ((Int.toNat (mm2 false n 5))*1)) ((Int.toNat n)-(Int.toNat (mm2 false n 5))) w13 fun cs_1=>asBytes cs_1 fun l_1=>some ((ByteArray.mk ⟨l⟩).toList==(ByteArray.mk ⟨l_1⟩).toList,w13))))) (some (false,w13))) fun c_5 w14=>bnd (cond c_5 (gInt .i64 (Addr.add ⟨b_3,0,none⟩ 1) w14 fun x_9=>some (x_9==125,w14)) (some (false,w14))) fun c_6 w15=>bnd (cond c_6 (bnd (C Aw0 [] w15) fun r_3 w16=>aBool r_3 fun x_10=>some (x_10,w16)) (some (false,w15))) fun c_7 w17=>some (.bool c_7,w17))
 (gInt .i64 (Addr.add ⟨b_2,0,none⟩ 1) w12 fun x_11=>bnd (cond (x_11==125) (gInt .i64 (Addr.add ⟨b_3,0,none⟩ 1) w12 fun x_12=>some (x_12==0,w12)) (some (false,w12))) fun c_8 w18=>bnd (cond c_8 (gBool (Addr.add ⟨b_3,0,none⟩ 3) w18 fun x_13=>some (!x_13,w18)) (some (false,w18))) fun c_9 w19=>bnd (cond c_9 (bnd (C Aw0 [] w19) fun r_4 w20=>aBool r_4 fun x_14=>some (x_14,w20)) (some (false,w19))) fun c_10 w21=>some (.bool c_10,w21)))))):=by kernel_rfl
def Df7:Cuts:={ globs:=0,loops:=[],regs:=[],plans:=[(5,⟨[0,1,2,3,4],[0,1,0,4,15],[(3,[1])],[]⟩)] }
def Ek5:List Item:=A7 Tryz.f10
theorem Gy9 (C:A4) (R:A6)  (h:H) :
 A8 PR Df7 C R Bc5 Tryz.f10 100000 true Ek5 [] h =
 bnd (C Bc9 [] h) fun r w=>aStr r fun x=>ck (ByteArray.size x≤B1) (nw (.cells A5 false (A0 (ByteArray.data x).toList)) w fun b w1=>nw (.cells D0 false [.int .i64 0,.int .i64 0,.int .i64 0,.int .i64 0,.int .i64 0,.int .i64 0,.int .i64 0,.int .i64 0,.int .i64 0,.int .i64 0,.int .i64 0,.int .i64 0,.int .i64 0,.int .i64 0,.int .i64 0,.int .i64 0]) w1 fun b_1 w2=>pAgg ⟨b_1,0,none⟩ [.int .i64 1,.int .i64 0,.int .i64 0,.int .i64 0,.int .i64 0,.int .i64 0,.int .i64 0,.int .i64 0,.int .i64 0,.int .i64 0,.int .i64 0,.int .i64 0,.int .i64 0,.int .i64 0,.int .i64 0,.int .i64 0] w2 fun w3=>ck ((0:Int)≤0∧0<((8:Nat):Int)) (pV (Addr.add (Addr.add ⟨b_1,0,none⟩ 8) (Int.toNat 0*1)) (.int .i64 1) w3 fun w4=>gAgg ⟨b_1,0,none⟩ 16 w4 fun x_1=>bnd (C U0 [.agg ⟨x_1⟩] w4) fun r_1 w5=>aStr r_1 fun x_2=>pCells (some (L8 b)) (A0 (List.take (min (ByteArray.size x_2) (ByteArray.size x)) (ByteArray.data x_2).toList)) w5 fun w6=>ckB (fitsOpen (some (L8 b)) A5 w6) (ck ((0:Int)≤192∧192≤((ByteArray.size x:Nat):Int)) (bnd (C A25 [.agg ⟨[.int .i64 3,.int .i64 0,.int .i64 1,.int .i64 0]⟩] w6) fun r_2 w7=>aStr r_2 fun x_3=>ckB (fitsOpen (some (L8 b)) A5 w7) (ck ((0:Int)≤192∧192≤((ByteArray.size x:Nat):Int)) (same (.slice (H0 (some (L8 b)) (decide (Int.toNat 192<ByteArray.size x)) ((Int.toNat 192)*1)) ((ByteArray.size x)-(Int.toNat 192)) ((ByteArray.size x)-(Int.toNat 192))) (.slice (H0 (some (L8 b)) (decide (Int.toNat 192<ByteArray.size x)) ((Int.toNat 192)*1)) ((ByteArray.size x)-(Int.toNat 192)) ((ByteArray.size x)-(Int.toNat 192))) (pCells (H0 (some (L8 b)) (decide (Int.toNat 192<ByteArray.size x)) ((Int.toNat 192)*1)) (A0 (List.take (min (ByteArray.size x_3) ((ByteArray.size x)-(Int.toNat 192))) (ByteArray.data x_3).toList)) w7 fun w8=>some (.slice (some (L8 b)) (ByteArray.size x) (ByteArray.size x),w8)))))))):=by kernel_rfl
def Ef1:Cuts:={ globs:=0,loops:=[],regs:=[],plans:=[(11,⟨[0,1,2,3,4,5,6,7,8,9,10,11,12,13,14,15,16,17,18,19,20,21,22,23,24,25,26,27,28],[0,0,2,6,0,31,63,127,127,383,895,127,2175,6271,14463,32767,65535,131071,262143,262143,786431,1835007,262143,4456447,12845055,29622271,67108863,134217727,268435455],[],[]⟩),(12,⟨[0,1,2,3,4,5,6,7,8,9,10,11,12,13,14,15,17,16,18,19],[0,1,3,0,8,24,0,64,192,448,0,1024,3072,7168,0,17351,50119,0,262143,524287],[(16,[5,12])],[]⟩),(13,⟨[0,1,7,8,9,10,11,12,13,14,2,3,4,5,6,15,16],[0,1,3,3,3,31,63,0,128,384,0,1024,3072,7168,16256,32767,65535],[(5,[9,12])],[]⟩)] }
def Gk7:List Item:=A7 Tryz.f11
theorem Hv0 (C:A4) (R:A6) (c:Option Addr) (i:Int) (h:H) :
 A8 PR Ef1 C R Dj7 Tryz.f11 100000 true Gk7 [(0,.pointer c),(1,.int .i64 i)] h =
 nw (.cells P3 false [.pointer c]) h fun b w=>nw (.cells E4 false [.int .i64 0,.int .i64 0,.slice none 0 0,.bool false]) w fun b_1 w1=>gPtr ⟨b,0,none⟩ w1 fun x=>bnd (C Aj8 [.pointer x,.int .i64 i] w1) fun r w2=>as2 r fun r_1 r_2=>aAgg r_1 fun x_1=>aInt .i64 r_2 fun x_2=>nw (.cells D0 false [.int .i64 0,.int .i64 0,.int .i64 0,.int .i64 0,.int .i64 0,.int .i64 0,.int .i64 0,.int .i64 0,.int .i64 0,.int .i64 0,.int .i64 0,.int .i64 0,.int .i64 0,.int .i64 0,.int .i64 0,.int .i64 0]) w2 fun b_2 w3=>ck (List.length x_1=16) (pAgg ⟨b_2,0,none⟩ x_1 w3 fun w4=>cond (x_2 != 0)
 (bnd (C Ba0 [.int .i64 x_2] w4) fun r_3 w5=>aAgg r_3 fun x_3=>ck (List.length x_3=4) (pAgg ⟨b_1,0,none⟩ x_3 w5 fun w6=>gAgg ⟨b_1,0,none⟩ 4 w6 fun x_4=>some (.agg ⟨x_4⟩,w6)))
 (gAgg ⟨b_2,0,none⟩ 16 w4 fun x_5=>bnd (C Da1 [.agg ⟨x_5⟩,.int .i64 2] w4) fun r_4 w7=>aSl r_4 fun x_6 xn _=>cond (decide (((xn:Nat):Int)<2))
 (bnd (C Ba0 [.int .i64 124] w7) fun r_5 w8=>aAgg r_5 fun x_7=>ck (List.length x_7=4) (pAgg ⟨b_1,0,none⟩ x_7 w8 fun w9=>gAgg ⟨b_1,0,none⟩ 4 w9 fun x_8=>some (.agg ⟨x_8⟩,w9)))
 (bnd (C Y8 [.int .i64 12,.int .i64 2,.func (.func A71) ⟨[]⟩ ⟨[.pointer (some ⟨b,0,none⟩)]⟩] w7) fun r_6 w10=>aSl r_6 fun x_9 xn_1 _=>bnd (C Y8 [.int .i64 4,.int .i64 1,.func (.func A57) ⟨[]⟩ ⟨[.pointer (some ⟨b,0,none⟩)]⟩] w10) fun r_7 w11=>aSl r_7 fun x_10 xn_2 _=>bnd (cond (decide (((xn_1:Nat):Int)<2)) (some (true,w11)) (some (((xn_2:Nat):Int)==0,w11))) fun c_1 w12=>cond c_1
 (bnd (C Ba0 [.int .i64 123] w12) fun r_8 w13=>aAgg r_8 fun x_11=>ck (List.length x_11=4) (pAgg ⟨b_1,0,none⟩ x_11 w13 fun w14=>gAgg ⟨b_1,0,none⟩ 4 w14 fun x_12=>some (.agg ⟨x_12⟩,w14)))
 (gPtr ⟨b,0,none⟩ w12 fun x_13=>aSome x_10 fun p=>ck ((0:Int)≤0∧0<((xn_2:Nat):Int)) (gInt .i64 (Addr.add (B6 p) (Int.toNat 0*1)) w12 fun x_14=>bnd (C U9 [.pointer x_13,.int .i64 x_14,.agg ⟨[.int .i64 0,.int .i64 0,.int .i64 1,.int .i64 1,.int .u8 0,.int .u8 0,.int .u8 0,.int .u8 0,.int .u8 0,.int .u8 0,.int .u8 0,.int .u8 0,.int .u8 0,.int .u8 0,.int .u8 0,.int .u8 0,.int .u8 0,.int .u8 0,.int .u8 0,.int .u8 0,.int .u8 0,.int .u8 0,.int .u8 0,.int .u8 0,.int .u8 0,.int .u8 0,.int .u8 0,.int .u8 0,.int .u8 0,.int .u8 0,.int .u8 0,.int .u8 0,.int .u8 0,.int .u8 0,.int .u8 0,.int .u8 0]⟩] w12) fun r_9 w15=>aBool r_9 fun x_15=>bnd (cond x_15 (gPtr ⟨b,0,none⟩ w15 fun x_16=>aSome x_9 fun p_1=>ck ((0:Int)≤0∧0<((xn_1:Nat):Int)) (gInt .i64 (Addr.add (B6 p_1) (Int.toNat 0*1)) w15 fun x_17=>aSome x_10 fun p_2=>ck ((0:Int)≤0∧0<((xn_2:Nat):Int)) (gInt .i64 (Addr.add (B6 p_2) (Int.toNat 0*1)) w15 fun x_18=>bnd (C O8 [.pointer x_16,.int .i64 x_17,.agg ⟨[.int .i64 1,.int .i64 x_18,.int .i64 1,.int .i64 0]⟩] w15) fun r_10 w16=>aBool r_10 fun x_19=>some (x_19,w16)))) (some (false,w15))) fun c_2 w17=>bnd (cond c_2 (gPtr ⟨b,0,none⟩ w17 fun x_20=>aSome x_9 fun p_3=>ck ((0:Int)≤1∧1<((xn_1:Nat):Int)) (gInt .i64 (Addr.add (B6 p_3) (Int.toNat 1*1)) w17 fun x_21=>aSome x_10 fun p_4=>ck ((0:Int)≤0∧0<((xn_2:Nat):Int)) (gInt .i64 (Addr.add (B6 p_4) (Int.toNat 0*1)) w17 fun x_22=>bnd (C O8 [.pointer x_20,.int .i64 x_21,.agg ⟨[.int .i64 2,.int .i64 x_22,.int .i64 1,.int .i64 0]⟩] w17) fun r_11 w18=>aBool r_11 fun x_23=>some (x_23,w18)))) (some (false,w17))) fun c_3 w19=>aSome x_6 fun p_5=>ck ((0:Int)≤0∧0<((xn:Nat):Int)) (gInt .i64 (Addr.add (B6 p_5) (Int.toNat 0*1)) w19 fun x_24=>aSome x_6 fun p_6=>ck ((0:Int)≤1∧1<((xn:Nat):Int)) (gInt .i64 (Addr.add (B6 p_6) (Int.toNat 1*1)) w19 fun x_25=>aSome x_9 fun p_7=>ck ((0:Int)≤0∧0<((xn_1:Nat):Int)) (gInt .i64 (Addr.add (B6 p_7) (Int.toNat 0*1)) w19 fun x_26=>aSome x_9 fun p_8=>ck ((0:Int)≤1∧1<((xn_1:Nat):Int)) (gInt .i64 (Addr.add (B6 p_8) (Int.toNat 1*1)) w19 fun x_27=>ck ((0:Int)≤x_24∧x_24<((8:Nat):Int)) (pV (Addr.add (Addr.add ⟨b_2,0,none⟩ 8) (Int.toNat x_24*1)) (.int .i64 (IntKind.wrap .i64 (x_26+1))) w19 fun w20=>gInt .i64 (Addr.add (B6 p_6) (Int.toNat 1*1)) w20 fun x_28=>same (.int .i64 x_25) (.int .i64 x_28) (gInt .i64 (Addr.add (B6 p_8) (Int.toNat 1*1)) w20 fun x_29=>same (.int .i64 x_27) (.int .i64 x_29) (ck ((0:Int)≤x_25∧x_25<((8:Nat):Int)) (pV (Addr.add (Addr.add ⟨b_2,0,none⟩ 8) (Int.toNat x_25*1)) (.int .i64 (IntKind.wrap .i64 (x_27+1))) w20 fun w21=>aSome x_6 fun p_9=>ck ((0:Int)≤0∧0<((xn:Nat):Int)) (gInt .i64 (Addr.add (B6 p_9) (Int.toNat 0*1)) w21 fun x_30=>aSome x_6 fun p_10=>ck ((0:Int)≤1∧1<((xn:Nat):Int)) (gInt .i64 (Addr.add (B6 p_10) (Int.toNat 1*1)) w21 fun x_31=>bnd (cond c_3 (gPtr ⟨b,0,none⟩ w21 fun x_32=>gAgg ⟨b_2,0,none⟩ 16 w21 fun x_33=>bnd (C O7 [.pointer x_32,.int .i64 i,.agg ⟨x_33⟩] w21) fun r_12 w22=>aBool r_12 fun x_34=>gInt .i64 (Addr.add (B6 p_9) (Int.toNat 0*1)) w22 fun x_35=>same (.int .i64 x_30) (.int .i64 x_35) (gInt .i64 (Addr.add (B6 p_10) (Int.toNat 1*1)) w22 fun x_36=>same (.int .i64 x_31) (.int .i64 x_36) (some (x_34,w22)))) (some (false,w21))) fun c_4 w23=>bnd (C Dm4 [.bool c_4,.int .i64 (IntKind.wrap .i64 (x_30+(IntKind.wrap .i64 (16*x_31))))] w23) fun r_13 w24=>aAgg r_13 fun x_37=>ck (List.length x_37=4) (pAgg ⟨b_1,0,none⟩ x_37 w24 fun w25=>gAgg ⟨b_1,0,none⟩ 4 w25 fun x_38=>some (.agg ⟨x_38⟩,w25))))))))))))))))):=by kernel_rfl
def Df1:Cuts:={ globs:=0,loops:=[],regs:=[],plans:=[] }
def Ej3:List Item:=A7 Tryz.f13
theorem Gx1 (C:A4) (R:A6) (c:Option Addr) (i:Int) (fd:Int) (b:Option Addr) (bn bc:Nat) (h:H) :
 A8 PR Df1 C R Bt4 Tryz.f13 100000 true Ej3 [(0,.pointer c),(1,.int .i64 i),(2,.int .i64 fd),(3,.slice b bn bc)] h =
 nw (.cells E4 false [.int .i64 0,.int .i64 0,.slice none 0 0,.bool false]) h fun b_1 w=>bnd (C Dp7 [.pointer c,.int .i64 i,.int .i64 fd] w) fun r w1=>as3 r fun r_1 r_2 r_3=>aInt .i64 r_1 fun _=>aAgg r_2 fun x_1=>aInt .i64 r_3 fun x_2=>nw (.cells D7 false [.int .i64 0,.int .i64 0,.int .i64 0,.int .i64 0]) w1 fun b_2 w2=>ck (List.length x_1=4) (pAgg ⟨b_2,0,none⟩ x_1 w2 fun w3=>cond (x_2 != 0)
 (bnd (C H9 [.int .i64 x_2] w3) fun r_4 w4=>aAgg r_4 fun x_3=>ck (List.length x_3=4) (pAgg ⟨b_1,0,none⟩ x_3 w4 fun w5=>gAgg ⟨b_1,0,none⟩ 4 w5 fun x_4=>some (.agg ⟨x_4⟩,w5)))
 (gInt .i64 (Addr.add ⟨b_2,0,none⟩ 0) w3 fun x_5=>cond (x_5 != 2)
 (bnd (C H9 [.int .i64 109] w3) fun r_5 w6=>aAgg r_5 fun x_6=>ck (List.length x_6=4) (pAgg ⟨b_1,0,none⟩ x_6 w6 fun w7=>gAgg ⟨b_1,0,none⟩ 4 w7 fun x_7=>some (.agg ⟨x_7⟩,w7)))
 (cond (decide (((bn:Nat):Int)>32))
 (bnd (C H9 [.int .i64 122] w3) fun r_6 w8=>aAgg r_6 fun x_8=>ck (List.length x_8=4) (pAgg ⟨b_1,0,none⟩ x_8 w8 fun w9=>gAgg ⟨b_1,0,none⟩ 4 w9 fun x_9=>some (.agg ⟨x_9⟩,w9)))
 (cond (((bn:Nat):Int)==0)
 (pAgg ⟨b_1,0,none⟩ [.int .i64 0,.int .i64 0,.slice none 0 0,.bool false] w3 fun w10=>gAgg ⟨b_1,0,none⟩ 4 w10 fun x_10=>some (.agg ⟨x_10⟩,w10))
 (gAgg ⟨b_2,0,none⟩ 4 w3 fun x_11=>bnd (C Bl3 [.pointer c,.agg ⟨x_11⟩] w3) fun r_7 w11=>as2 r_7 fun r_8 r_9=>aAgg r_8 fun x_12=>aBool r_9 fun x_13=>nw (.cells By2 false [.int .i64 0,.int .i64 0,.int .i64 0,.int .i64 0,.int .u8 0,.int .u8 0,.int .u8 0,.int .u8 0,.int .u8 0,.int .u8 0,.int .u8 0,.int .u8 0,.int .u8 0,.int .u8 0,.int .u8 0,.int .u8 0,.int .u8 0,.int .u8 0,.int .u8 0,.int .u8 0,.int .u8 0,.int .u8 0,.int .u8 0,.int .u8 0,.int .u8 0,.int .u8 0,.int .u8 0,.int .u8 0,.int .u8 0,.int .u8 0,.int .u8 0,.int .u8 0,.int .u8 0,.int .u8 0,.int .u8 0,.int .u8 0,.nilFunc]) w11 fun b_3 w12=>ck (List.length x_12=37) (pAgg ⟨b_3,0,none⟩ x_12 w12 fun w13=>cond (!x_13)
 (bnd (C H9 [.int .i64 105] w13) fun r_10 w14=>aAgg r_10 fun x_14=>ck (List.length x_14=4) (pAgg ⟨b_1,0,none⟩ x_14 w14 fun w15=>gAgg ⟨b_1,0,none⟩ 4 w15 fun x_15=>some (.agg ⟨x_15⟩,w15)))
 (gInt .i64 (Addr.add (Addr.add ⟨b_3,0,none⟩ 0) 2) w13 fun x_16=>cond (x_16==0)
 (bnd (C Gm1 [.pointer c,.int .i64 i] w13) fun r_11 w16=>aAgg r_11 fun x_17=>ck (List.length x_17=4) (pAgg ⟨b_1,0,none⟩ x_17 w16 fun w17=>gAgg ⟨b_1,0,none⟩ 4 w17 fun x_18=>some (.agg ⟨x_18⟩,w17)))
 (gInt .i64 (Addr.add (Addr.add ⟨b_3,0,none⟩ 0) 1) w13 fun x_19=>bnd (cond ((IntKind.wrap .i64 (32-x_19))==0) (some (true,w13)) (bnd (cond (decide (((bn:Nat):Int)≤8)) (some (decide ((IntKind.wrap .i64 (32-x_19))<((bn:Nat):Int)),w13)) (some (false,w13))) fun c_1 w18=>some (c_1,w18))) fun c_2 w19=>cond c_2
 (gAgg ⟨b_2,0,none⟩ 4 w19 fun x_20=>bnd (C Aw6 [.agg ⟨x_20⟩] w19) fun r_12 w20=>aAgg r_12 fun x_21=>ck (List.length x_21=4) (pAgg ⟨b_1,0,none⟩ x_21 w20 fun w21=>gAgg ⟨b_1,0,none⟩ 4 w21 fun x_22=>some (.agg ⟨x_22⟩,w21)))
 (gAgg (Addr.add ⟨b_3,0,none⟩ 0) 36 w19 fun x_23=>bnd (C Ao2 [.agg ⟨x_23⟩,.slice b bn bc] w19) fun r_13 w22=>as2 r_13 fun r_14 r_15=>aAgg r_14 fun x_24=>aInt .i64 r_15 fun x_25=>nw (.cells D3 false [.int .i64 0,.int .i64 0,.int .i64 0,.int .i64 0,.int .u8 0,.int .u8 0,.int .u8 0,.int .u8 0,.int .u8 0,.int .u8 0,.int .u8 0,.int .u8 0,.int .u8 0,.int .u8 0,.int .u8 0,.int .u8 0,.int .u8 0,.int .u8 0,.int .u8 0,.int .u8 0,.int .u8 0,.int .u8 0,.int .u8 0,.int .u8 0,.int .u8 0,.int .u8 0,.int .u8 0,.int .u8 0,.int .u8 0,.int .u8 0,.int .u8 0,.int .u8 0,.int .u8 0,.int .u8 0,.int .u8 0,.int .u8 0]) w22 fun b_4 w23=>ck (List.length x_24=36) (pAgg ⟨b_4,0,none⟩ x_24 w23 fun w24=>gFv (Addr.add ⟨b_3,0,none⟩ 36) w24 fun x_26=>gAgg ⟨b_4,0,none⟩ 36 w24 fun x_27=>aFn x_26 fun g fi cp=>bnd (C g (fi++([.agg ⟨x_27⟩]++cp)) w24) fun r_16 w25=>aBool r_16 fun x_28=>cond (!x_28)
 (bnd (C H9 [.int .i64 105] w25) fun r_17 w26=>aAgg r_17 fun x_29=>ck (List.length x_29=4) (pAgg ⟨b_1,0,none⟩ x_29 w26 fun w27=>gAgg ⟨b_1,0,none⟩ 4 w27 fun x_30=>some (.agg ⟨x_30⟩,w27)))
 (pAgg ⟨b_1,0,none⟩ [.int .i64 x_25,.int .i64 0,.slice none 0 0,.bool false] w25 fun w28=>gAgg ⟨b_1,0,none⟩ 4 w28 fun x_31=>some (.agg ⟨x_31⟩,w28)))))))))))):=by kernel_rfl
def Du4:Cuts:={ globs:=0,loops:=[],regs:=[],plans:=[] }
def Em6:List Item:=A7 Tryz.f20
theorem G87 (C:A4) (R:A6) (c:Option Addr) (i:Int) (target:Int) (g:Int) (h:H) :
 A8 PR Du4 C R B12 Tryz.f20 100000 true Em6 [(0,.pointer c),(1,.int .i64 i),(2,.int .i64 target),(3,.int .i64 g)] h =
 nw (.cells E4 false [.int .i64 0,.int .i64 0,.slice none 0 0,.bool false]) h fun b w=>bnd (C Aj8 [.pointer c,.int .i64 i] w) fun r w1=>as2 r fun r_1 r_2=>aAgg r_1 fun x=>aInt .i64 r_2 fun x_1=>nw (.cells D0 false [.int .i64 0,.int .i64 0,.int .i64 0,.int .i64 0,.int .i64 0,.int .i64 0,.int .i64 0,.int .i64 0,.int .i64 0,.int .i64 0,.int .i64 0,.int .i64 0,.int .i64 0,.int .i64 0,.int .i64 0,.int .i64 0]) w1 fun b_1 w2=>ck (List.length x=16) (pAgg ⟨b_1,0,none⟩ x w2 fun w3=>cond (x_1 != 0)
 (bnd (C Ab6 [.int .i64 x_1] w3) fun r_3 w4=>aAgg r_3 fun x_2=>ck (List.length x_2=4) (pAgg ⟨b,0,none⟩ x_2 w4 fun w5=>gAgg ⟨b,0,none⟩ 4 w5 fun x_3=>some (.agg ⟨x_3⟩,w5)))
 (bnd (C A59 [.int .i64 target] w3) fun r_4 w6=>aBool r_4 fun x_4=>bnd (cond (!x_4) (some (true,w6)) (bnd (C A59 [.int .i64 g] w6) fun r_5 w7=>aBool r_5 fun x_5=>some (!x_5,w7))) fun c_1 w8=>cond c_1
 (bnd (C Ab6 [.int .i64 122] w8) fun r_6 w9=>aAgg r_6 fun x_6=>ck (List.length x_6=4) (pAgg ⟨b,0,none⟩ x_6 w9 fun w10=>gAgg ⟨b,0,none⟩ 4 w10 fun x_7=>some (.agg ⟨x_7⟩,w10)))
 (bnd (C By6 [.pointer c,.int .i64 i,.int .i64 target] w8) fun r_7 w11=>as2 r_7 fun r_8 r_9=>aAgg r_8 fun x_8=>aInt .i64 r_9 fun x_9=>nw (.cells D0 false [.int .i64 0,.int .i64 0,.int .i64 0,.int .i64 0,.int .i64 0,.int .i64 0,.int .i64 0,.int .i64 0,.int .i64 0,.int .i64 0,.int .i64 0,.int .i64 0,.int .i64 0,.int .i64 0,.int .i64 0,.int .i64 0]) w11 fun b_2 w12=>ck (List.length x_8=16) (pAgg ⟨b_2,0,none⟩ x_8 w12 fun w13=>cond (x_9 != 0)
 (bnd (C Ab6 [.int .i64 x_9] w13) fun r_10 w14=>aAgg r_10 fun x_10=>ck (List.length x_10=4) (pAgg ⟨b,0,none⟩ x_10 w14 fun w15=>gAgg ⟨b,0,none⟩ 4 w15 fun x_11=>some (.agg ⟨x_11⟩,w15)))
 (bnd (cond (g != target) (bnd (C B07 [.pointer c,.int .i64 g] w13) fun r_11 w16=>aBool r_11 fun x_12=>some (!x_12,w16)) (some (false,w13))) fun c_2 w17=>cond c_2
 (bnd (C Ab6 [.int .i64 101] w17) fun r_12 w18=>aAgg r_12 fun x_13=>ck (List.length x_13=4) (pAgg ⟨b,0,none⟩ x_13 w18 fun w19=>gAgg ⟨b,0,none⟩ 4 w19 fun x_14=>some (.agg ⟨x_14⟩,w19)))
 (pV (Addr.add ⟨b_2,0,none⟩ 2) (.int .i64 g) w17 fun w20=>gAgg ⟨b_2,0,none⟩ 16 w20 fun x_15=>bnd (C O7 [.pointer c,.int .i64 target,.agg ⟨x_15⟩] w20) fun r_13 w21=>aBool r_13 fun x_16=>bnd (C Bq6 [.bool x_16,.int .i64 0] w21) fun r_14 w22=>aAgg r_14 fun x_17=>ck (List.length x_17=4) (pAgg ⟨b,0,none⟩ x_17 w22 fun w23=>gAgg ⟨b,0,none⟩ 4 w23 fun x_18=>some (.agg ⟨x_18⟩,w23)))))))):=by kernel_rfl
def Dq0:Cuts:={ globs:=0,loops:=[],regs:=[],plans:=[] }
def Eo4:List Item:=A7 Tryz.f23
theorem Hf8 (C:A4) (R:A6) (p:List Value) (h:H) :
 A8 PR Dq0 C R Bi6 Tryz.f23 100000 true Eo4 [(0,.agg ⟨p⟩)] h =
 nw (.cells B10 false p) h fun b w=>gAgg ⟨b,0,none⟩ 3 w fun x=>bnd (C J4 [.agg ⟨x⟩] w) fun r w1=>aAgg r fun x_1=>nw (.cells E1 false [.slice none 0 0,.slice none 0 0,.slice none 0 0,.int .i64 0,.slice none 0 0]) w1 fun b_1 w2=>ck (List.length x_1=5) (pAgg ⟨b_1,0,none⟩ x_1 w2 fun w3=>gAgg ⟨b_1,0,none⟩ 5 w3 fun x_2=>bnd (C H8 [.agg ⟨x_2⟩] w3) fun r_1 w4=>as2 r_1 fun r_2 r_3=>aPtr r_2 fun x_3=>aInt .i64 r_3 fun x_4=>bnd (cond x_3.isNone (some (true,w4)) (some (x_4 != 0,w4))) fun c w5=>cond c
 (some (.tuple ⟨[.pointer none,.pointer none,.pointer none,.pointer none]⟩,w5))
 (gAgg ⟨b_1,0,none⟩ 5 w5 fun x_5=>bnd (C G3 [.agg ⟨x_5⟩] w5) fun r_4 w6=>aPtr r_4 fun x_6=>bnd (C Bs6 [.pointer x_3,.int .i64 0] w6) fun r_5 w7=>as2 r_5 fun r_6 r_7=>aPtr r_6 fun x_7=>aInt .i64 r_7 fun x_8=>bnd (cond x_7.isNone (some (true,w7)) (some (x_8 != 0,w7))) fun c_1 w8=>cond c_1
 (some (.tuple ⟨[.pointer none,.pointer none,.pointer none,.pointer none]⟩,w8))
 (bnd (C Bc9 [] w8) fun r_8 w9=>aStr r_8 fun x_9=>ck (ByteArray.size x_9≤B1) (nw (.cells A5 false (A0 (ByteArray.data x_9).toList)) w9 fun b_2 w10=>bnd (C S5 [.pointer x_3,.int .i64 0,.agg ⟨[.int .i64 2,.int .i64 256,.int .i64 0,.int .i64 0,.int .i64 0,.int .i64 0,.slice (some (L8 b_2)) (ByteArray.size x_9) (ByteArray.size x_9)]⟩] w10) fun r_9 w11=>aAgg r_9 fun x_10=>nth x_10 0 fun E=>aInt .i64 E fun E_1=>cond (E_1 != 0)
 (some (.tuple ⟨[.pointer none,.pointer none,.pointer none,.pointer none]⟩,w11))
 (ck (ByteArray.size x_9≤B1) (nw (.cells A5 false (A0 (ByteArray.data x_9).toList)) w11 fun b_3 w12=>bnd (C As3 [.pointer x_6,.int .i64 0,.agg ⟨[.int .i64 2,.int .i64 256,.int .i64 0,.int .i64 0,.int .i64 0,.int .i64 0,.slice (some (L8 b_3)) (ByteArray.size x_9) (ByteArray.size x_9)]⟩] w12) fun r_10 w13=>as3 r_10 fun r_11 r_12 r_13=>aInt .i64 r_11 fun _=>aInt .i64 r_12 fun _=>aStr r_13 fun _=>bnd (C Ay2 [.pointer x_6,.int .i64 0] w13) fun r_14 w14=>aPtr r_14 fun x_14=>some (.tuple ⟨[.pointer x_3,.pointer x_7,.pointer x_6,.pointer x_14]⟩,w14))))))):=by kernel_rfl
def De8:Cuts:={ globs:=0,loops:=[],regs:=[],plans:=[(1,⟨[0,1,2,3,4,5,6,7],[0,1,0,4,15,12,63,127],[(3,[1]),(5,[1])],[]⟩)] }
def Ej1:List Item:=A7 Tryz.f28
theorem Gx2 (C:A4) (R:A6)  (h:H) :
 A8 PR De8 C R Bc9 Tryz.f28 100000 true Ej1 [] h =
 ck ((0:Int)≤448∧(448:Int)≤448∧448≤(B1:Int)) (nw (.cells A5 false (I7 (Int.toNat 448) [.int .u8 0])) h fun b w=>gCells (some ⟨b,0,none⟩) (Int.toNat 448) w fun cs=>asBytes cs fun l=>bnd (C P7 [.agg ⟨[.int .i64 0,.int .i64 0,.int .i64 1,.int .i64 1,.int .u8 0,.int .u8 0,.int .u8 0,.int .u8 0,.int .u8 0,.int .u8 0,.int .u8 0,.int .u8 0,.int .u8 0,.int .u8 0,.int .u8 0,.int .u8 0,.int .u8 0,.int .u8 0,.int .u8 0,.int .u8 0,.int .u8 0,.int .u8 0,.int .u8 0,.int .u8 0,.int .u8 0,.int .u8 0,.int .u8 0,.int .u8 0,.int .u8 0,.int .u8 0,.int .u8 0,.int .u8 0,.int .u8 0,.int .u8 0,.int .u8 0,.int .u8 0]⟩] w) fun r w1=>aStr r fun x=>gCells (some ⟨b,0,none⟩) (Int.toNat 448) w1 fun cs_1=>asBytes cs_1 fun l_1=>same (.string (ByteArray.mk ⟨l⟩)) (.string (ByteArray.mk ⟨l_1⟩)) (ck (ByteArray.size (ByteArray.mk ⟨l⟩)+ByteArray.size x≤B1) (bnd (C Ax8 [.int .i64 0] w1) fun r_1 w2=>aStr r_1 fun x_1=>gCells (some ⟨b,0,none⟩) (Int.toNat 448) w2 fun cs_2=>asBytes cs_2 fun l_2=>same (.string (ByteArray.mk ⟨l⟩)) (.string (ByteArray.mk ⟨l_2⟩)) (ck (ByteArray.size ((ByteArray.mk ⟨l⟩)++x)+ByteArray.size x_1≤B1) (some (.string (((ByteArray.mk ⟨l⟩)++x)++x_1),w2)))))):=by kernel_rfl
def A10:Cuts:={ globs:=0,loops:=[],regs:=[],plans:=[] }
def Bq7:List Item:=A7 Tryz.f37
theorem D25 (C:A4) (R:A6) (c:Option Addr) (i:Int) (h:H) :
 A8 PR A10 C R S6 Tryz.f37 100000 true Bq7 [(0,.pointer c),(1,.int .i64 i)] h =
 nw (.cells D3 false [.int .i64 0,.int .i64 0,.int .i64 0,.int .i64 0,.int .u8 0,.int .u8 0,.int .u8 0,.int .u8 0,.int .u8 0,.int .u8 0,.int .u8 0,.int .u8 0,.int .u8 0,.int .u8 0,.int .u8 0,.int .u8 0,.int .u8 0,.int .u8 0,.int .u8 0,.int .u8 0,.int .u8 0,.int .u8 0,.int .u8 0,.int .u8 0,.int .u8 0,.int .u8 0,.int .u8 0,.int .u8 0,.int .u8 0,.int .u8 0,.int .u8 0,.int .u8 0,.int .u8 0,.int .u8 0,.int .u8 0,.int .u8 0]) h fun b w=>bnd (C A60 [.int .i64 i] w) fun r w1=>aAgg r fun x=>bnd (C I3 [.pointer c,.agg ⟨x⟩,.func (.func Aw5) ⟨[]⟩ ⟨[]⟩] w1) fun r_1 w2=>as2 r_1 fun r_2 r_3=>aAgg r_2 fun x_1=>aInt .i64 r_3 fun x_2=>ck (List.length x_1=36) (pAgg ⟨b,0,none⟩ x_1 w2 fun w3=>gAgg ⟨b,0,none⟩ 36 w3 fun x_3=>some (.tuple ⟨[.agg ⟨x_3⟩,.int .i64 x_2]⟩,w3)):=by kernel_rfl
def Eh4:Cuts:={ globs:=0,loops:=[],regs:=[],plans:=[] }
def Gh0:List Item:=A7 Tryz.f40
theorem Ht6 (C:A4) (R:A6) (ok:Bool) (n:Int) (h:H) :
 A8 PR Eh4 C R Dm4 Tryz.f40 100000 true Gh0 [(0,.bool ok),(1,.int .i64 n)] h =
 nw (.cells E4 false [.int .i64 0,.int .i64 0,.slice none 0 0,.bool false]) h fun b w=>cond (!ok)
 (bnd (C Ba0 [.int .i64 105] w) fun r w1=>aAgg r fun x=>ck (List.length x=4) (pAgg ⟨b,0,none⟩ x w1 fun w2=>gAgg ⟨b,0,none⟩ 4 w2 fun x_1=>some (.agg ⟨x_1⟩,w2)))
 (pAgg ⟨b,0,none⟩ [.int .i64 n,.int .i64 0,.slice none 0 0,.bool false] w fun w3=>gAgg ⟨b,0,none⟩ 4 w3 fun x_2=>some (.agg ⟨x_2⟩,w3)):=by kernel_rfl
def Ea1:Cuts:={ globs:=0,loops:=[],regs:=[],plans:=[] }
def Gj6:List Item:=A7 Tryz.f44
theorem Gi3 (C:A4) (R:A6) (c:Option Addr) (f:List Value) (h:H) :
 A8 PR Ea1 C R Bl3 Tryz.f44 100000 true Gj6 [(0,.pointer c),(1,.agg ⟨f⟩)] h =
 nw (.cells P3 false [.pointer c]) h fun b w=>nw (.cells D7 false f) w fun b_1 w1=>nw (.cells By2 false [.int .i64 0,.int .i64 0,.int .i64 0,.int .i64 0,.int .u8 0,.int .u8 0,.int .u8 0,.int .u8 0,.int .u8 0,.int .u8 0,.int .u8 0,.int .u8 0,.int .u8 0,.int .u8 0,.int .u8 0,.int .u8 0,.int .u8 0,.int .u8 0,.int .u8 0,.int .u8 0,.int .u8 0,.int .u8 0,.int .u8 0,.int .u8 0,.int .u8 0,.int .u8 0,.int .u8 0,.int .u8 0,.int .u8 0,.int .u8 0,.int .u8 0,.int .u8 0,.int .u8 0,.int .u8 0,.int .u8 0,.int .u8 0,.nilFunc]) w1 fun b_2 w2=>gInt .i64 (Addr.add ⟨b_1,0,none⟩ 0) w2 fun x=>cond (x==3)
 (gPtr ⟨b,0,none⟩ w2 fun x_1=>bnd (C S9 [.pointer x_1] w2) fun r w3=>as2 r fun r_1 r_2=>aAgg r_1 fun x_2=>aInt .i64 r_2 fun x_3=>nw (.cells D3 false [.int .i64 0,.int .i64 0,.int .i64 0,.int .i64 0,.int .u8 0,.int .u8 0,.int .u8 0,.int .u8 0,.int .u8 0,.int .u8 0,.int .u8 0,.int .u8 0,.int .u8 0,.int .u8 0,.int .u8 0,.int .u8 0,.int .u8 0,.int .u8 0,.int .u8 0,.int .u8 0,.int .u8 0,.int .u8 0,.int .u8 0,.int .u8 0,.int .u8 0,.int .u8 0,.int .u8 0,.int .u8 0,.int .u8 0,.int .u8 0,.int .u8 0,.int .u8 0,.int .u8 0,.int .u8 0,.int .u8 0,.int .u8 0]) w3 fun b_3 w4=>ck (List.length x_2=36) (pAgg ⟨b_3,0,none⟩ x_2 w4 fun w5=>gAgg ⟨b_3,0,none⟩ 36 w5 fun x_4=>gPtr ⟨b,0,none⟩ w5 fun x_5=>ck (List.length x_4=36) (ck (List.length (x_4++[.func (.func J9) ⟨[.pointer x_5]⟩ ⟨[]⟩])=37) (pAgg ⟨b_2,0,none⟩ (x_4++[.func (.func J9) ⟨[.pointer x_5]⟩ ⟨[]⟩]) w5 fun w6=>gAgg ⟨b_2,0,none⟩ 37 w6 fun x_6=>some (.tuple ⟨[.agg ⟨x_6⟩,.bool (x_3==1)]⟩,w6)))))
 (gPtr ⟨b,0,none⟩ w2 fun x_7=>gInt .i64 (Addr.add ⟨b_1,0,none⟩ 1) w2 fun x_8=>bnd (C S6 [.pointer x_7,.int .i64 x_8] w2) fun r_3 w7=>as2 r_3 fun r_4 r_5=>aAgg r_4 fun x_9=>aInt .i64 r_5 fun x_10=>nw (.cells D3 false [.int .i64 0,.int .i64 0,.int .i64 0,.int .i64 0,.int .u8 0,.int .u8 0,.int .u8 0,.int .u8 0,.int .u8 0,.int .u8 0,.int .u8 0,.int .u8 0,.int .u8 0,.int .u8 0,.int .u8 0,.int .u8 0,.int .u8 0,.int .u8 0,.int .u8 0,.int .u8 0,.int .u8 0,.int .u8 0,.int .u8 0,.int .u8 0,.int .u8 0,.int .u8 0,.int .u8 0,.int .u8 0,.int .u8 0,.int .u8 0,.int .u8 0,.int .u8 0,.int .u8 0,.int .u8 0,.int .u8 0,.int .u8 0]) w7 fun b_4 w8=>ck (List.length x_9=36) (pAgg ⟨b_4,0,none⟩ x_9 w8 fun w9=>gAgg ⟨b_4,0,none⟩ 36 w9 fun x_11=>ck (List.length x_11=36) (ck (List.length (x_11++[.func (.func A73) ⟨[]⟩ ⟨[.pointer (some ⟨b,0,none⟩),.pointer (some ⟨b_1,0,none⟩)]⟩])=37) (pAgg ⟨b_2,0,none⟩ (x_11++[.func (.func A73) ⟨[]⟩ ⟨[.pointer (some ⟨b,0,none⟩),.pointer (some ⟨b_1,0,none⟩)]⟩]) w9 fun w10=>gAgg ⟨b_2,0,none⟩ 37 w10 fun x_12=>some (.tuple ⟨[.agg ⟨x_12⟩,.bool (x_10==1)]⟩,w10))))):=by kernel_rfl
def D53:Cuts:={ globs:=0,loops:=[],regs:=[],plans:=[(9,⟨[0,1,2,3,4,5],[0,0,0,6,15,31],[(3,[0])],[]⟩)] }
def E50:List Item:=A7 Tryz.f48
theorem E51 (C:A4) (R:A6) (c:Option Addr) (i:Int) (fd:Int) (n:Int) (h:H) :
 A8 PR D53 C R Bq5 Tryz.f48 100000 true E50 [(0,.pointer c),(1,.int .i64 i),(2,.int .i64 fd),(3,.int .i64 n)] h =
 nw (.cells D7 false [.int .i64 0,.int .i64 0,.int .i64 0,.int .i64 0]) h fun b w=>bnd (C Dp7 [.pointer c,.int .i64 i,.int .i64 fd] w) fun r w1=>as3 r fun r_1 r_2 r_3=>aInt .i64 r_1 fun _=>aAgg r_2 fun x_1=>aInt .i64 r_3 fun x_2=>nw (.cells D7 false [.int .i64 0,.int .i64 0,.int .i64 0,.int .i64 0]) w1 fun b_1 w2=>ck (List.length x_1=4) (pAgg ⟨b_1,0,none⟩ x_1 w2 fun w3=>cond (x_2 != 0)
 (gAgg ⟨b_1,0,none⟩ 4 w3 fun x_3=>ck (List.length x_3=4) (pAgg ⟨b,0,none⟩ x_3 w3 fun w4=>gAgg ⟨b,0,none⟩ 4 w4 fun x_4=>some (.tuple ⟨[.agg ⟨x_4⟩,.int .i64 x_2]⟩,w4)))
 (gInt .i64 (Addr.add ⟨b_1,0,none⟩ 0) w3 fun x_5=>cond (x_5==2)
 (gAgg ⟨b_1,0,none⟩ 4 w3 fun x_6=>ck (List.length x_6=4) (pAgg ⟨b,0,none⟩ x_6 w3 fun w5=>gAgg ⟨b,0,none⟩ 4 w5 fun x_7=>some (.tuple ⟨[.agg ⟨x_7⟩,.int .i64 109]⟩,w5)))
 (bnd (cond (decide (n<0)) (some (true,w3)) (some (decide (n>32),w3))) fun c_1 w6=>cond c_1
 (gAgg ⟨b_1,0,none⟩ 4 w6 fun x_8=>ck (List.length x_8=4) (pAgg ⟨b,0,none⟩ x_8 w6 fun w7=>gAgg ⟨b,0,none⟩ 4 w7 fun x_9=>some (.tuple ⟨[.agg ⟨x_9⟩,.int .i64 122]⟩,w7)))
 (gInt .i64 (Addr.add ⟨b_1,0,none⟩ 0) w6 fun x_10=>cond (x_10==3)
 (gAgg ⟨b_1,0,none⟩ 4 w6 fun x_11=>bnd (C Bt2 [.pointer c,.int .i64 i] w6) fun r_4 w8=>aInt .i64 r_4 fun x_12=>gAgg ⟨b_1,0,none⟩ 4 w8 fun x_13=>same (.agg ⟨x_11⟩) (.agg ⟨x_13⟩) (ck (List.length x_11=4) (pAgg ⟨b,0,none⟩ x_11 w8 fun w9=>gAgg ⟨b,0,none⟩ 4 w9 fun x_14=>some (.tuple ⟨[.agg ⟨x_14⟩,.int .i64 x_12]⟩,w9))))
 (gAgg ⟨b_1,0,none⟩ 4 w6 fun x_15=>ck (List.length x_15=4) (pAgg ⟨b,0,none⟩ x_15 w6 fun w10=>gAgg ⟨b,0,none⟩ 4 w10 fun x_16=>some (.tuple ⟨[.agg ⟨x_16⟩,.int .i64 0]⟩,w10))))))):=by kernel_rfl
def D48:Cuts:={ globs:=0,loops:=[],regs:=[],plans:=[] }
def E35:List Item:=A7 Tryz.f53
theorem Hn3 (C:A4) (R:A6) (e:Int) (h:H) :
 A8 PR D48 C R Ab6 Tryz.f53 100000 true E35 [(0,.int .i64 e)] h =
 nw (.cells E4 false [.int .i64 0,.int .i64 0,.slice none 0 0,.bool false]) h fun b w=>pAgg ⟨b,0,none⟩ [.int .i64 0,.int .i64 e,.slice none 0 0,.bool false] w fun w1=>gAgg ⟨b,0,none⟩ 4 w1 fun x=>some (.agg ⟨x⟩,w1):=by kernel_rfl
def D28:Cuts:={ globs:=0,loops:=[],regs:=[],plans:=[] }
def E69:List Item:=A7 Tryz.f57
theorem Hm6 (C:A4) (R:A6) (p:List Value) (fd:Int) (h:H) :
 A8 PR D28 C R Db2 Tryz.f57 100000 true E69 [(0,.agg ⟨p⟩),(1,.int .i64 fd)] h =
 nw (.cells D0 false p) h fun b w=>bnd (cond (decide (fd≥0)) (some (decide (fd<8),w)) (some (false,w))) fun c w1=>bnd (cond c (ck ((0:Int)≤fd∧fd<((8:Nat):Int)) (gInt .i64 (Addr.add (Addr.add ⟨b,0,none⟩ 8) (Int.toNat fd*1)) w1 fun x=>some (decide (x>0),w1))) (some (false,w1))) fun c_1 w2=>some (.bool c_1,w2):=by kernel_rfl
def A14:Cuts:={ globs:=0,loops:=[],regs:=[],plans:=[] }
def Br9:List Item:=A7 Tryz.f60
theorem D20 (C:A4) (R:A6) (c:Option Addr) (i:Int) (h:H) :
 A8 PR A14 C R L7 Tryz.f60 100000 true Br9 [(0,.pointer c),(1,.int .i64 i)] h =
 nw (.cells D0 false [.int .i64 0,.int .i64 0,.int .i64 0,.int .i64 0,.int .i64 0,.int .i64 0,.int .i64 0,.int .i64 0,.int .i64 0,.int .i64 0,.int .i64 0,.int .i64 0,.int .i64 0,.int .i64 0,.int .i64 0,.int .i64 0]) h fun b w=>bnd (C A55 [.int .i64 i] w) fun r w1=>aAgg r fun x=>bnd (C L1 [.pointer c,.agg ⟨x⟩,.func (.func A68) ⟨[]⟩ ⟨[]⟩] w1) fun r_1 w2=>as2 r_1 fun r_2 r_3=>aAgg r_2 fun x_1=>aInt .i64 r_3 fun x_2=>ck (List.length x_1=16) (pAgg ⟨b,0,none⟩ x_1 w2 fun w3=>gAgg ⟨b,0,none⟩ 16 w3 fun x_3=>some (.tuple ⟨[.agg ⟨x_3⟩,.int .i64 x_2]⟩,w3)):=by kernel_rfl
def Dv3:Cuts:={ globs:=0,loops:=[],regs:=[],plans:=[] }
def Em9:List Item:=A7 Tryz.f62
theorem Ha8 (C:A4) (R:A6) (c:Option Addr) (i:Int) (target:Int) (h:H) :
 A8 PR Dv3 C R By6 Tryz.f62 100000 true Em9 [(0,.pointer c),(1,.int .i64 i),(2,.int .i64 target)] h =
 nw (.cells D0 false [.int .i64 0,.int .i64 0,.int .i64 0,.int .i64 0,.int .i64 0,.int .i64 0,.int .i64 0,.int .i64 0,.int .i64 0,.int .i64 0,.int .i64 0,.int .i64 0,.int .i64 0,.int .i64 0,.int .i64 0,.int .i64 0]) h fun b w=>bnd (C L7 [.pointer c,.int .i64 target] w) fun r w1=>as2 r fun r_1 r_2=>aAgg r_1 fun x=>aInt .i64 r_2 fun x_1=>nw (.cells D0 false [.int .i64 0,.int .i64 0,.int .i64 0,.int .i64 0,.int .i64 0,.int .i64 0,.int .i64 0,.int .i64 0,.int .i64 0,.int .i64 0,.int .i64 0,.int .i64 0,.int .i64 0,.int .i64 0,.int .i64 0,.int .i64 0]) w1 fun b_1 w2=>ck (List.length x=16) (pAgg ⟨b_1,0,none⟩ x w2 fun w3=>cond (target==i)
 (gAgg ⟨b_1,0,none⟩ 16 w3 fun x_2=>ck (List.length x_2=16) (pAgg ⟨b,0,none⟩ x_2 w3 fun w4=>gAgg ⟨b,0,none⟩ 16 w4 fun x_3=>some (.tuple ⟨[.agg ⟨x_3⟩,.int .i64 0]⟩,w4)))
 (cond (x_1==2)
 (gAgg ⟨b_1,0,none⟩ 16 w3 fun x_4=>ck (List.length x_4=16) (pAgg ⟨b,0,none⟩ x_4 w3 fun w5=>gAgg ⟨b,0,none⟩ 16 w5 fun x_5=>some (.tuple ⟨[.agg ⟨x_5⟩,.int .i64 105]⟩,w5)))
 (bnd (cond (x_1 != 1) (some (true,w3)) (gInt .i64 (Addr.add ⟨b_1,0,none⟩ 1) w3 fun x_6=>some (x_6 != (IntKind.wrap .i64 (i+1)),w3))) fun c_1 w6=>bnd (cond c_1 (some (true,w6)) (gInt .i64 (Addr.add ⟨b_1,0,none⟩ 0) w6 fun x_7=>some (x_7==2,w6))) fun c_2 w7=>cond c_2
 (gAgg ⟨b_1,0,none⟩ 16 w7 fun x_8=>ck (List.length x_8=16) (pAgg ⟨b,0,none⟩ x_8 w7 fun w8=>gAgg ⟨b,0,none⟩ 16 w8 fun x_9=>some (.tuple ⟨[.agg ⟨x_9⟩,.int .i64 103]⟩,w8)))
 (gAgg ⟨b_1,0,none⟩ 16 w7 fun x_10=>ck (List.length x_10=16) (pAgg ⟨b,0,none⟩ x_10 w7 fun w9=>gAgg ⟨b,0,none⟩ 16 w9 fun x_11=>some (.tuple ⟨[.agg ⟨x_11⟩,.int .i64 0]⟩,w9)))))):=by kernel_rfl
def Dl0:Cuts:={ globs:=0,loops:=[(3,[0,3,4])],regs:=[],plans:=[] }
def Eg0:List Item:=A7 Tryz.f73
def Bs9:List Item:=stk [0,1,0,1,0,0,1,4,5] Eg0
theorem Hv3 (C:A4) (R:A6) (b:ByteArray) (h:H) :
 A8 PR Dl0 C R Af9 Tryz.f73 100000 true Eg0 [(0,.string b)] h =
 R Af9 Bs9 [(0,.string b),(3,.int .i64 ((ByteArray.size b:Nat):Int)),(4,.int .i64 0)] h:=by kernel_rfl
theorem El3 (C:A4) (R:A6) (b:ByteArray) (n:Int) (i:Int) (h:H) :
 A8 PR Dl0 C R Af9 Tryz.f73 100000 true Bs9 [(0,.string b),(3,.int .i64 n),(4,.int .i64 i)] h =
 cond (decide (i<((ByteArray.size b:Nat):Int)))
 (ck ((0:Int)≤i∧i<((ByteArray.size b:Nat):Int)) (R Af9 Bs9 [(0,.string b),(3,.int .i64 (IntKind.wrap .i64 (n+(IntKind.wrap .i64 (((List.getD (ByteArray.data b).toList (Int.toNat i) 0).toNat:Int)))))),(4,.int .i64 (IntKind.wrap .i64 (i+1)))] h))
 (some (.int .u8 (IntKind.wrap .u8 (n)),h)):=by kernel_rfl
def Bh9:Cuts:={ globs:=0,loops:=[],regs:=[],plans:=[(3,⟨[0,1,2,3,4,5,6,7,8,9,10,11,12,13,14,15,16,17,18,19],[0,1,3,7,0,0,32,0,128,0,512,0,2048,0,8192,32767,65535,65535,262143,524287],[],[]⟩),(5,⟨[0,1,2,3,4,5,6,7,8,9,10,11],[0,1,3,7,0,0,32,127,255,255,1023,2047],[],[]⟩),(7,⟨[0,1,2,3,4,5,6,7,8,9,10,11,12,13,14,15],[0,1,3,7,0,16,48,112,0,496,1008,2047,4095,4095,16383,32767],[],[]⟩),(9,⟨[0,1,2,3,4,5,6,7,8,9,10,11,12,13,14,15],[0,1,3,7,0,16,48,112,0,496,1008,0,2048,8191,16383,32767],[],[]⟩)] }
def De5:List Item:=A7 Tryz.f75
theorem Eu6 (C:A4) (R:A6) (k:Option Addr) (env:Int) (c:List Value) (h:H) :
 A8 PR Bh9 C R Az6 Tryz.f75 100000 true De5 [(0,.pointer k),(1,.int .i64 env),(2,.agg ⟨c⟩)] h =
 nw (.cells Az4 false c) h fun b w=>gInt .i64 (Addr.add ⟨b,0,none⟩ 0) w fun x=>cond (x==4)
 (aSome k fun p=>gPtr (Addr.add p 3) w fun x_1=>gInt .i64 (Addr.add ⟨b,0,none⟩ 1) w fun x_2=>gInt .i64 (Addr.add ⟨b,0,none⟩ 4) w fun x_3=>gInt .i64 (Addr.add ⟨b,0,none⟩ 5) w fun x_4=>gInt .i64 (Addr.add ⟨b,0,none⟩ 2) w fun x_5=>gInt .i64 (Addr.add ⟨b,0,none⟩ 3) w fun x_6=>bnd (C Ay6 [.pointer x_1,.int .i64 env,.int .i64 x_2,.int .i64 x_3,.int .i64 x_4,.int .i64 x_5,.int .i64 x_6] w) fun r w1=>as2 r fun r_1 r_2=>aInt .i64 r_1 fun x_7=>aInt .i64 r_2 fun x_8=>some (.tuple ⟨[.int .i64 x_7,.int .i64 x_8]⟩,w1))
 (cond (x==5)
 (aSome k fun p_1=>gPtr (Addr.add p_1 3) w fun x_9=>gInt .i64 (Addr.add ⟨b,0,none⟩ 1) w fun x_10=>bnd (C El7 [.pointer x_9,.int .i64 env,.int .i64 x_10] w) fun r_3 w2=>as2 r_3 fun r_4 r_5=>aInt .i64 r_4 fun x_11=>aInt .i64 r_5 fun x_12=>some (.tuple ⟨[.int .i64 x_11,.int .i64 x_12]⟩,w2))
 (cond (x==6)
 (aSome k fun p_2=>gPtr (Addr.add p_2 4) w fun x_13=>aSome k fun p_3=>gSl (Addr.add p_3 0) w fun x_14 xn _=>aSome x_14 fun p_4=>ck ((0:Int)≤env∧env<((xn:Nat):Int)) (gInt .i64 (Addr.add (B6 p_4) (Int.toNat env*1)) w fun x_15=>bnd (C Au3 [.pointer x_13,.int .i64 x_15] w) fun r_6 w3=>as2 r_6 fun r_7 r_8=>aInt .i64 r_7 fun x_16=>aInt .i64 r_8 fun x_17=>some (.tuple ⟨[.int .i64 x_16,.int .i64 x_17]⟩,w3)))
 (cond (x==7)
 (aSome k fun p_5=>gPtr (Addr.add p_5 4) w fun x_18=>aSome k fun p_6=>gSl (Addr.add p_6 0) w fun x_19 xn_1 _=>aSome x_19 fun p_7=>ck ((0:Int)≤env∧env<((xn_1:Nat):Int)) (gInt .i64 (Addr.add (B6 p_7) (Int.toNat env*1)) w fun x_20=>gInt .i64 (Addr.add ⟨b,0,none⟩ 3) w fun x_21=>bnd (C Az1 [.pointer x_18,.int .i64 x_20,.int .i64 x_21] w) fun r_9 w4=>aInt .i64 r_9 fun x_22=>some (.tuple ⟨[.int .i64 0,.int .i64 x_22]⟩,w4)))
 (cond (x==8)
 (gAgg ⟨b,0,none⟩ 7 w fun x_23=>bnd (C A30 [.pointer k,.int .i64 env,.agg ⟨x_23⟩] w) fun r_10 w5=>as2 r_10 fun r_11 r_12=>aInt .i64 r_11 fun x_24=>aInt .i64 r_12 fun x_25=>some (.tuple ⟨[.int .i64 x_24,.int .i64 x_25]⟩,w5))
 (cond (x==9)
 (gAgg ⟨b,0,none⟩ 7 w fun x_26=>bnd (C A33 [.pointer k,.int .i64 env,.agg ⟨x_26⟩] w) fun r_13 w6=>aInt .i64 r_13 fun x_27=>some (.tuple ⟨[.int .i64 0,.int .i64 x_27]⟩,w6))
 (cond (x==10)
 (aSome k fun p_8=>gInt .i64 (Addr.add p_8 7) w fun x_28=>some (.tuple ⟨[.int .i64 x_28,.int .i64 0]⟩,w))
 (some (.tuple ⟨[.int .i64 0,.int .i64 7]⟩,w)))))))):=by kernel_rfl
def Ed4:Cuts:={ globs:=0,loops:=[],regs:=[],plans:=[] }
def Ge0:List Item:=A7 Tryz.f87
theorem Hz7 (C:A4) (R:A6) (n:Int) (h:H) :
 A8 PR Ed4 C R Ba9 Tryz.f87 100000 true Ge0 [(0,.int .i64 n)] h =
 nw (.cells A5 false [.int .u8 (IntKind.wrap .u8 (Int.fdiv n (2 ^ 8))),.int .u8 (IntKind.wrap .u8 (n))]) h fun b w=>gCells (some ⟨b,0,none⟩) 2 w fun cs=>asBytes cs fun l=>some (.string (ByteArray.mk ⟨l⟩),w):=by kernel_rfl
def Ad9:Cuts:={ globs:=0,loops:=[],regs:=[(8,[6,8,11,12])],plans:=[(7,⟨[0,1,2,3,4,5,6,7,8,9],[0,1,3,7,0,31,63,31,159,511],[(7,[5])],[]⟩)] }
def Ao0:List Item:=A7 Tryz.f89
def Ai6:List Item:=stk [0,1,0,1,0,1,0,1,0,1,0,1,0,0] Ao0
theorem Dl9 (C:A4) (R:A6) (c:Option Addr) (r:List Value) (decode:Value) (h:H) :
 A8 PR Ad9 C R J8 Tryz.f89 100000 true Ao0 [(0,.pointer c),(1,.agg ⟨r⟩),(2,decode)] h =
 nw (.cells E2 false r) h fun b w=>nw (.cells D7 false [.int .i64 0,.int .i64 0,.int .i64 0,.int .i64 0]) w fun b_1 w1=>nw (.cells D7 false [.int .i64 0,.int .i64 0,.int .i64 0,.int .i64 0]) w1 fun b_2 w2=>gAgg ⟨b,0,none⟩ 2 w2 fun x=>bnd (C O6 [.pointer c,.agg ⟨x⟩] w2) fun r_1 w3=>as2 r_1 fun r_2 r_3=>aSl r_2 fun x_1 xn xc=>aBool r_3 fun x_2=>cond (!x_2)
 (gAgg ⟨b_2,0,none⟩ 4 w3 fun x_3=>ck (List.length x_3=4) (pAgg ⟨b_1,0,none⟩ x_3 w3 fun w4=>gAgg ⟨b_1,0,none⟩ 4 w4 fun x_4=>some (.tuple ⟨[.agg ⟨x_4⟩,.int .i64 2]⟩,w4)))
 (aFn decode fun g fi cp=>bnd (C g (fi++([.slice x_1 xn xc]++cp)) w3) fun r_4 w5=>as2 r_4 fun r_5 r_6=>aAgg r_5 fun x_5=>aInt .i64 r_6 fun x_6=>nw (.cells D7 false [.int .i64 0,.int .i64 0,.int .i64 0,.int .i64 0]) w5 fun b_3 w6=>ck (List.length x_5=4) (pAgg ⟨b_3,0,none⟩ x_5 w6 fun w7=>cond (x_6==2)
 (aSome c fun p=>gMap (Addr.add p 3) w7 fun x_7=>gAgg ⟨b,0,none⟩ 2 w7 fun x_8=>keyN PR E2 (.agg ⟨x_8⟩) (opt x_7 fun r_7=>mapAt w7 r_7 fun es _=>opt (Am0 (.int .i64 0) (.agg ⟨x_8⟩) es) fun f=>aInt .i64 f.1 fun x_9=>keyN PR E2 (.agg ⟨x_8⟩) (opt x_7 fun r_8=>mapAt w7 r_8 fun es_1 cl_1=>opt (D09 (.int .i64 0) (.agg ⟨x_8⟩) es_1 cl_1) fun f_1=>aInt .i64 f_1.1 fun _=>lt (H.set w7 r_8 f_1.2.2) fun w8=>keyN PR E2 (.agg ⟨x_8⟩) (opt x_7 fun r_9=>mapAt w8 r_9 fun es_2 _=>opt (Am0 (.int .i64 0) (.agg ⟨x_8⟩) es_2) fun f_2=>aInt .i64 f_2.1 fun x_11=>same (.int .i64 x_9) (.int .i64 x_11) (opt x_7 fun r_10=>mapAt w8 r_10 fun es_3 cl_3=>opt (Bl9 (f_1.2.1:Int) es_3 0) fun i=>lt (H.set w8 r_10 (.map (modN (fun e=>{ e with val:=.int .i64 (IntKind.wrap .i64 (x_9+1)) }) i es_3) cl_3)) fun w9=>R J8 Ai6 [(6,.pointer (some ⟨b_1,0,none⟩)),(8,.pointer (some ⟨b_2,0,none⟩)),(11,.pointer (some ⟨b_3,0,none⟩)),(12,.int .i64 x_6)] w9)))))
 (R J8 Ai6 [(6,.pointer (some ⟨b_1,0,none⟩)),(8,.pointer (some ⟨b_2,0,none⟩)),(11,.pointer (some ⟨b_3,0,none⟩)),(12,.int .i64 x_6)] w7))):=by kernel_rfl
theorem A41 (C:A4) (R:A6) (x6:Addr) (nonev:Addr) (v:Addr) (isv:Int) (h:H) :
 A8 PR Ad9 C R J8 Tryz.f89 100000 true Ai6 [(6,.pointer (some x6)),(8,.pointer (some nonev)),(11,.pointer (some v)),(12,.int .i64 isv)] h =
 cond (isv != 1)
 (gAgg nonev 4 h fun x=>ck (List.length x=4) (pAgg x6 x h fun w=>gAgg x6 4 w fun x_1=>some (.tuple ⟨[.agg ⟨x_1⟩,.int .i64 isv]⟩,w)))
 (gAgg v 4 h fun x_2=>ck (List.length x_2=4) (pAgg x6 x_2 h fun w1=>gAgg x6 4 w1 fun x_3=>some (.tuple ⟨[.agg ⟨x_3⟩,.int .i64 isv]⟩,w1))):=by kernel_rfl
def B93:Cuts:={ globs:=0,loops:=[],regs:=[],plans:=[] }
def D90:List Item:=A7 Tryz.f91
theorem Go5 (C:A4) (R:A6) (b:Option Addr) (bn bc:Nat) (h:H) :
 A8 PR B93 C R A47 Tryz.f91 100000 true D90 [(0,.slice b bn bc)] h =
 nw (.cells D7 false [.int .i64 0,.int .i64 0,.int .i64 0,.int .i64 0]) h fun b_1 w=>bnd (cond (((bn:Nat):Int)==8) (bnd (C Am3 [.slice b bn bc] w) fun r w1=>aBool r fun x=>some (x,w1)) (some (false,w))) fun c w2=>cond c
 (pAgg ⟨b_1,0,none⟩ [.int .i64 0,.int .i64 0,.int .i64 0,.int .i64 0] w2 fun w3=>gAgg ⟨b_1,0,none⟩ 4 w3 fun x_1=>some (.tuple ⟨[.agg ⟨x_1⟩,.int .i64 0]⟩,w3))
 (bnd (C Bb8 [] w2) fun r_1 w4=>aPtr r_1 fun x_2=>bnd (C V6 [.pointer x_2,.slice b bn bc] w4) fun r_2 w5=>as2 r_2 fun r_3 r_4=>aAgg r_3 fun x_3=>aBool r_4 fun x_4=>nw (.cells D7 false [.int .i64 0,.int .i64 0,.int .i64 0,.int .i64 0]) w5 fun b_2 w6=>ck (List.length x_3=4) (pAgg ⟨b_2,0,none⟩ x_3 w6 fun w7=>cond (!x_4)
 (pAgg ⟨b_1,0,none⟩ [.int .i64 0,.int .i64 0,.int .i64 0,.int .i64 0] w7 fun w8=>gAgg ⟨b_1,0,none⟩ 4 w8 fun x_5=>some (.tuple ⟨[.agg ⟨x_5⟩,.int .i64 2]⟩,w8))
 (gAgg ⟨b_2,0,none⟩ 4 w7 fun x_6=>ck (List.length x_6=4) (pAgg ⟨b_1,0,none⟩ x_6 w7 fun w9=>gAgg ⟨b_1,0,none⟩ 4 w9 fun x_7=>some (.tuple ⟨[.agg ⟨x_7⟩,.int .i64 1]⟩,w9))))):=by kernel_rfl
def B82:Cuts:={ globs:=0,loops:=[],regs:=[],plans:=[] }
def D69:List Item:=A7 Tryz.f93
theorem Gl5 (C:A4) (R:A6) (i:Int) (h:H) :
 A8 PR B82 C R A60 Tryz.f93 100000 true D69 [(0,.int .i64 i)] h =
 nw (.cells E2 false [.int .i64 0,.int .i64 0]) h fun b w=>pAgg ⟨b,0,none⟩ [.int .i64 3,.int .i64 i] w fun w1=>gAgg ⟨b,0,none⟩ 2 w1 fun x=>some (.agg ⟨x⟩,w1):=by kernel_rfl
def B83:Cuts:={ globs:=0,loops:=[],regs:=[],plans:=[(1,⟨[1,0,2,3,4,5,6],[0,0,3,7,7,31,63],[(0,[1])],[]⟩)] }
def D58:List Item:=A7 Tryz.f98
theorem Gq3 (C:A4) (R:A6) (p:List Value) (h:H) :
 A8 PR B83 C R A40 Tryz.f98 100000 true D58 [(0,.agg ⟨p⟩)] h =
 nw (.cells D0 false p) h fun b w=>gAgg ⟨b,0,none⟩ 16 w fun x=>bnd (C Bc6 [] w) fun r w1=>aPtr r fun x_1=>gAgg ⟨b,0,none⟩ 16 w1 fun x_2=>same (.agg ⟨x⟩) (.agg ⟨x_2⟩) (bnd (C V8 [.pointer x_1,.agg ⟨x⟩] w1) fun r_1 w2=>as2 r_1 fun r_2 r_3=>aSl r_2 fun x_3 xn xc=>aBool r_3 fun x_4=>some (.tuple ⟨[.slice x_3 xn xc,.bool x_4]⟩,w2)):=by kernel_rfl
def Dg9:Cuts:={ globs:=0,loops:=[],regs:=[],plans:=[] }
def Ei7:List Item:=A7 Tryz.f103
theorem Gz4 (C:A4) (R:A6) (c:Option Addr) (i:Int) (h:H) :
 A8 PR Dg9 C R Bt2 Tryz.f103 100000 true Ei7 [(0,.pointer c),(1,.int .i64 i)] h =
 bnd (C Aj8 [.pointer c,.int .i64 i] h) fun r w=>as2 r fun r_1 r_2=>aAgg r_1 fun x=>aInt .i64 r_2 fun _=>nw (.cells D0 false [.int .i64 0,.int .i64 0,.int .i64 0,.int .i64 0,.int .i64 0,.int .i64 0,.int .i64 0,.int .i64 0,.int .i64 0,.int .i64 0,.int .i64 0,.int .i64 0,.int .i64 0,.int .i64 0,.int .i64 0,.int .i64 0]) w fun b w1=>ck (List.length x=16) (pAgg ⟨b,0,none⟩ x w1 fun w2=>bnd (C Q6 [.pointer c] w2) fun r_3 w3=>as2 r_3 fun r_4 r_5=>aInt .i64 r_4 fun x_2=>aBool r_5 fun x_3=>cond (!x_3)
 (some (.int .i64 105,w3))
 (gInt .i64 (Addr.add ⟨b,0,none⟩ 2) w3 fun x_4=>cond (x_2 != x_4)
 (some (.int .i64 125,w3))
 (some (.int .i64 0,w3)))):=by kernel_rfl
def A08:Cuts:={ globs:=0,loops:=[],regs:=[],plans:=[] }
def Bs0:List Item:=A7 Tryz.f109
theorem D18 (C:A4) (R:A6) (c:Option Addr) (kind:Int) (h:H) :
 A8 PR A08 C R Ab2 Tryz.f109 100000 true Bs0 [(0,.pointer c),(1,.int .i64 kind)] h =
 cond (kind==1)
 (some (.int .i64 8,h))
 (cond (kind==2)
 (some (.int .i64 12,h))
 (cond (kind==3)
 (aSome c fun p=>gSl (Addr.add p 2) h fun _ xn _=>some (.int .i64 (IntKind.wrap .i64 ((IntKind.wrap .i64 (4+((xn:Nat):Int)))-1)),h))
 (some (.int .i64 1,h)))):=by kernel_rfl
def B95:Cuts:={ globs:=0,loops:=[],regs:=[],plans:=[] }
def D77:List Item:=A7 Tryz.f111
theorem Go4 (C:A4) (R:A6) (b:Option Addr) (bn bc:Nat) (h:H) :
 A8 PR B95 C R A68 Tryz.f111 100000 true D77 [(0,.slice b bn bc)] h =
 nw (.cells D0 false [.int .i64 0,.int .i64 0,.int .i64 0,.int .i64 0,.int .i64 0,.int .i64 0,.int .i64 0,.int .i64 0,.int .i64 0,.int .i64 0,.int .i64 0,.int .i64 0,.int .i64 0,.int .i64 0,.int .i64 0,.int .i64 0]) h fun b_1 w=>bnd (cond (((bn:Nat):Int)==24) (bnd (C Am3 [.slice b bn bc] w) fun r w1=>aBool r fun x=>some (x,w1)) (some (false,w))) fun c w2=>cond c
 (pAgg ⟨b_1,0,none⟩ [.int .i64 0,.int .i64 0,.int .i64 0,.int .i64 0,.int .i64 0,.int .i64 0,.int .i64 0,.int .i64 0,.int .i64 0,.int .i64 0,.int .i64 0,.int .i64 0,.int .i64 0,.int .i64 0,.int .i64 0,.int .i64 0] w2 fun w3=>gAgg ⟨b_1,0,none⟩ 16 w3 fun x_1=>some (.tuple ⟨[.agg ⟨x_1⟩,.int .i64 0]⟩,w3))
 (bnd (C Bc6 [] w2) fun r_1 w4=>aPtr r_1 fun x_2=>bnd (C V9 [.pointer x_2,.slice b bn bc] w4) fun r_2 w5=>as2 r_2 fun r_3 r_4=>aAgg r_3 fun x_3=>aBool r_4 fun x_4=>nw (.cells D0 false [.int .i64 0,.int .i64 0,.int .i64 0,.int .i64 0,.int .i64 0,.int .i64 0,.int .i64 0,.int .i64 0,.int .i64 0,.int .i64 0,.int .i64 0,.int .i64 0,.int .i64 0,.int .i64 0,.int .i64 0,.int .i64 0]) w5 fun b_2 w6=>ck (List.length x_3=16) (pAgg ⟨b_2,0,none⟩ x_3 w6 fun w7=>cond (!x_4)
 (pAgg ⟨b_1,0,none⟩ [.int .i64 0,.int .i64 0,.int .i64 0,.int .i64 0,.int .i64 0,.int .i64 0,.int .i64 0,.int .i64 0,.int .i64 0,.int .i64 0,.int .i64 0,.int .i64 0,.int .i64 0,.int .i64 0,.int .i64 0,.int .i64 0] w7 fun w8=>gAgg ⟨b_1,0,none⟩ 16 w8 fun x_5=>some (.tuple ⟨[.agg ⟨x_5⟩,.int .i64 2]⟩,w8))
 (gAgg ⟨b_2,0,none⟩ 16 w7 fun x_6=>ck (List.length x_6=16) (pAgg ⟨b_1,0,none⟩ x_6 w7 fun w9=>gAgg ⟨b_1,0,none⟩ 16 w9 fun x_7=>some (.tuple ⟨[.agg ⟨x_7⟩,.int .i64 1]⟩,w9))))):=by kernel_rfl
def Bp0:Cuts:={ globs:=0,loops:=[],regs:=[],plans:=[] }
def Di5:List Item:=A7 Tryz.f114
theorem E09 (C:A4) (R:A6) (x:List Value) (h:H) :
 A8 PR Bp0 C R A22 Tryz.f114 100000 true Di5 [(0,.agg ⟨x⟩)] h =
 nw (.cells Ae4 false x) h fun b w=>gInt .i64 (Addr.add (Addr.add ⟨b,0,none⟩ 1) 0) w fun x_1=>some (.bool (x_1 != 2),w):=by kernel_rfl
def Df5:Cuts:={ globs:=0,loops:=[],regs:=[],plans:=[] }
def Ek0:List Item:=A7 Tryz.f119
theorem Gy6 (C:A4) (R:A6) (n:Int) (h:H) :
 A8 PR Df5 C R Bb3 Tryz.f119 100000 true Ek0 [(0,.int .i64 n)] h =
 some (.int .i64 (mm2 false (mm2 true n 0) 64),h):=by kernel_rfl
def A80:Cuts:={ globs:=0,loops:=[],regs:=[],plans:=[] }
def B35:List Item:=A7 Tryz.f126
theorem Ef4 (C:A4) (R:A6) (r:Option Addr) (lo:Int) (n:Int) (h:H) :
 A8 PR A80 C R Aq9 Tryz.f126 100000 true B35 [(0,.pointer r),(1,.int .i64 lo),(2,.int .i64 n)] h =
 bnd (cond (decide (lo<0)) (some (true,h)) (some (decide (n<0),h))) fun c w=>bnd (cond c (some (true,w)) (aSome r fun p=>gPtr (Addr.add p 0) w fun x=>bnd (C A54 [.pointer x] w) fun r_1 w1=>aInt .i64 r_1 fun x_1=>some (decide (lo>x_1),w1))) fun c_1 w2=>bnd (cond c_1 (some (true,w2)) (aSome r fun p_1=>gPtr (Addr.add p_1 0) w2 fun x_2=>bnd (C A54 [.pointer x_2] w2) fun r_2 w3=>aInt .i64 r_2 fun x_3=>some (decide (n>(IntKind.wrap .i64 (x_3-lo))),w3))) fun c_2 w4=>cond c_2
 (some (.tuple ⟨[.int .i64 0,.int .i64 1]⟩,w4))
 (aSome r fun p_2=>gSl (Addr.add p_2 2) w4 fun _ xn _=>cond (decide (((xn:Nat):Int)≥32))
 (some (.tuple ⟨[.int .i64 0,.int .i64 4]⟩,w4))
 (aSome r fun p_3=>gSl (Addr.add p_3 2) w4 fun x_5 xn_1 xc_1=>nw (.cells Aw1 false [.int .i64 lo,.int .i64 n]) w4 fun b w5=>gCells (some ⟨b,0,none⟩) (1*2) w5 fun cs=>ckB (fitsOpen x_5 Aw1 w5) (apd Aw1 2 x_5 xn_1 xc_1 1 cs w5 fun a an ac w6=>aSome r fun p_4=>pV (Addr.add p_4 2) (.slice a an ac) w6 fun w7=>aSome r fun p_5=>gSl (Addr.add p_5 2) w7 fun _ xn_2 _=>some (.tuple ⟨[.int .i64 (IntKind.wrap .i64 (((xn_2:Nat):Int)-1)),.int .i64 0]⟩,w7)))):=by kernel_rfl
def Bf9:Cuts:={ globs:=0,loops:=[(3,[0,3,4])],regs:=[],plans:=[(5,⟨[0,1,2,3,4,5,6,7,8,9,10],[0,0,2,6,14,0,32,126,255,511,1023],[(5,[4])],[]⟩),(6,⟨[0,1,2,3,4,5,6,7,8,9,10],[0,0,2,6,14,0,32,126,255,511,1023],[],[]⟩)] }
def B23:List Item:=A7 Tryz.f131
def Az8:List Item:=stk [0,1,0,1,0,0,1,4,5] B23
theorem Gg5 (C:A4) (R:A6) (envs:Int) (h:H) :
 A8 PR Bf9 C R Aa4 Tryz.f131 100000 true B23 [(0,.int .i64 envs)] h =
 nw (.cells Er2 false [.slice none 0 0,.slice none 0 0]) h fun b w=>R Aa4 Az8 [(0,.int .i64 envs),(3,.pointer (some ⟨b,0,none⟩)),(4,.int .i64 0)] w:=by kernel_rfl
theorem Dc0 (C:A4) (R:A6) (envs:Int) (s:Addr) (i:Int) (h:H) :
 A8 PR Bf9 C R Aa4 Tryz.f131 100000 true Az8 [(0,.int .i64 envs),(3,.pointer (some s)),(4,.int .i64 i)] h =
 bnd (cond (decide (i<envs)) (some (decide (i<40),h)) (some (false,h))) fun c w=>cond c
 (gSl (Addr.add s 0) w fun x xn xc=>bnd (C Aa1 [.int .i64 32] w) fun r w1=>aPtr r fun x_1=>gSl (Addr.add s 0) w1 fun x_2 xn_1 xc_1=>same (.slice x xn xc) (.slice x_2 xn_1 xc_1) (nw (.cells A72 false [.pointer x_1]) w1 fun b w2=>gCells (some ⟨b,0,none⟩) (1*1) w2 fun cs=>ckB (fitsOpen x A72 w2) (apd A72 1 x xn xc 1 cs w2 fun a an ac w3=>pV (Addr.add s 0) (.slice a an ac) w3 fun w4=>gSl (Addr.add s 1) w4 fun x_3 xn_2 xc_2=>ck ((0:Int)≤32∧(32:Int)≤32∧32≤(B1:Int)) (nw (.cells P4 false (I7 (Int.toNat 32) [.int .i64 0,.int .i64 0,.int .i64 0,.int .i64 0,.int .i64 0,.int .i64 0])) w4 fun b_1 w5=>nw (.cells Bp1 false [.slice (some ⟨b_1,0,none⟩) (Int.toNat 32) (Int.toNat 32)]) w5 fun b_2 w6=>gCells (some ⟨b_2,0,none⟩) (1*1) w6 fun cs_1=>ckB (fitsOpen x_3 Bp1 w6) (apd Bp1 1 x_3 xn_2 xc_2 1 cs_1 w6 fun a_1 an_1 ac_1 w7=>pV (Addr.add s 1) (.slice a_1 an_1 ac_1) w7 fun w8=>R Aa4 Az8 [(0,.int .i64 envs),(3,.pointer (some s)),(4,.int .i64 (IntKind.wrap .i64 (i+1)))] w8)))))
 (some (.pointer (some s),w)):=by kernel_rfl
def B73:Cuts:={ globs:=0,loops:=[],regs:=[],plans:=[] }
def D64:List Item:=A7 Tryz.f132
theorem Gq1 (C:A4) (R:A6) (lease:Int) (h:H) :
 A8 PR B73 C R Bm9 Tryz.f132 100000 true D64 [(0,.int .i64 lease)] h =
 nw (.cells E55 false [.int .i64 (mm2 false (mm2 true lease 1) 1000),.int .i64 0,.int .i64 0,.int .i64 0,.int .i64 0,.int .i64 0,.bool false,.int .i64 0,.slice none 0 0]) h fun b w=>some (.pointer (some ⟨b,0,none⟩),w):=by kernel_rfl
def Bu0:Cuts:={ globs:=0,loops:=[],regs:=[],plans:=[] }
def Ds1:List Item:=A7 Tryz.f138
theorem Gd2 (C:A4) (R:A6) (s:Option Addr) (e:Int) (h:H) :
 A8 PR Bu0 C R A84 Tryz.f138 100000 true Ds1 [(0,.pointer s),(1,.int .i64 e)] h =
 bnd (C Aj6 [.pointer s,.int .i64 e] h) fun r w=>aBool r fun x=>cond (!x)
 (some (.slice none 0 0,w))
 (aSome s fun p=>gSl (Addr.add p 0) w fun x_1 xn _=>aSome x_1 fun p_1=>ck ((0:Int)≤e∧e<((xn:Nat):Int)) (gPtr (Addr.add (B6 p_1) (Int.toNat e*1)) w fun x_2=>bnd (C Q8 [.pointer x_2] w) fun r_1 w1=>aSl r_1 fun x_3 xn_1 xc_1=>some (.slice x_3 xn_1 xc_1,w1))):=by kernel_rfl
def A07:Cuts:={ globs:=0,loops:=[],regs:=[],plans:=[] }
def Bp9:List Item:=A7 Tryz.f140
theorem D50 (C:A4) (R:A6) (r:Option Addr) (env:Int) (name:Int) (atv:Int) (b:Option Addr) (bn bc:Nat) (h:H) :
 A8 PR A07 C R Aa9 Tryz.f140 100000 true Bp9 [(0,.pointer r),(1,.int .i64 env),(2,.int .i64 name),(3,.int .i64 atv),(4,.slice b bn bc)] h =
 bnd (C Aa8 [.pointer r,.int .i64 env,.int .i64 name,.int .i64 2,.int .i64 atv,.int .i64 ((bn:Nat):Int)] h) fun r_1 w=>as2 r_1 fun r_2 r_3=>aInt .i64 r_2 fun x=>aInt .i64 r_3 fun x_1=>cond (x_1 != 0)
 (some (.int .i64 x_1,w))
 (aSome r fun p=>gPtr (Addr.add p 0) w fun x_2=>bnd (C Be6 [.pointer x_2,.int .i64 x,.slice b bn bc] w) fun r_4 w1=>aInt .i64 r_4 fun x_3=>some (.int .i64 x_3,w1)):=by kernel_rfl
def Bd8:Cuts:={ globs:=0,loops:=[],regs:=[],plans:=[] }
def B60:List Item:=A7 Tryz.f144
theorem El9 (C:A4) (R:A6) (q:Option Addr) (s:Int) (h:H) :
 A8 PR Bd8 C R Au3 Tryz.f144 100000 true B60 [(0,.pointer q),(1,.int .i64 s)] h =
 bnd (C Ai5 [.pointer q,.int .i64 s] h) fun r w=>aBool r fun x=>cond (!x)
 (some (.tuple ⟨[.int .i64 0,.int .i64 1]⟩,w))
 (aSome q fun p=>gSl (Addr.add p 0) w fun x_1 xn _=>aSome x_1 fun p_1=>ck ((0:Int)≤s∧s<((xn:Nat):Int)) (gSl (Addr.add (B6 p_1) (Int.toNat s*1)) w fun x_2 xn_1 xc_1=>bnd (C H4 [.slice x_2 xn_1 xc_1,.int .i64 0] w) fun r_1 w1=>aInt .i64 r_1 fun x_3=>cond (decide (x_3<0))
 (some (.tuple ⟨[.int .i64 0,.int .i64 4]⟩,w1))
 (aSome q fun p_2=>gSl (Addr.add p_2 0) w1 fun x_4 xn_2 _=>aSome x_4 fun p_3=>ck ((0:Int)≤s∧s<((xn_2:Nat):Int)) (gSl (Addr.add (B6 p_3) (Int.toNat s*1)) w1 fun x_5 xn_3 _=>aSome x_5 fun p_4=>ck ((0:Int)≤x_3∧x_3<((xn_3:Nat):Int)) (pV (Addr.add (B6 p_4) (Int.toNat x_3*1)) (.int .i64 1) w1 fun w2=>some (.tuple ⟨[.int .i64 x_3,.int .i64 0]⟩,w2)))))):=by kernel_rfl
def Bn6:Cuts:={ globs:=0,loops:=[],regs:=[],plans:=[] }
def Di0:List Item:=A7 Tryz.f147
theorem E18 (C:A4) (R:A6) (k:Option Addr) (env:Int) (c:List Value) (h:H) :
 A8 PR Bn6 C R A33 Tryz.f147 100000 true Di0 [(0,.pointer k),(1,.int .i64 env),(2,.agg ⟨c⟩)] h =
 nw (.cells Az4 false c) h fun b w=>gInt .i64 (Addr.add ⟨b,0,none⟩ 3) w fun x=>bnd (C As4 [.pointer k,.int .i64 env,.int .i64 x] w) fun r w1=>as2 r fun r_1 r_2=>aPtr r_1 fun x_1=>aInt .i64 r_2 fun x_2=>bnd (cond (x_2==0) (gInt .i64 (Addr.add ⟨b,0,none⟩ 2) w1 fun x_3=>bnd (C A31 [.pointer x_1,.int .i64 env,.int .i64 x_3] w1) fun r_3 w2=>aBool r_3 fun x_4=>some (!x_4,w2)) (some (false,w1))) fun c_1 w3=>cond c_1
 (some (.int .i64 8,w3))
 (some (.int .i64 x_2,w3)):=by kernel_rfl
def Dp8:Cuts:={ globs:=0,loops:=[],regs:=[],plans:=[] }
def Ex2:List Item:=A7 Tryz.f163
theorem Hf7 (C:A4) (R:A6)  (h:H) :
 A8 PR Dp8 C R Bh1 Tryz.f163 100000 true Ex2 [] h =
 bnd (C Aq1 [.int .i64 40,.func (.func Bm3) ⟨[]⟩ ⟨[]⟩,.func (.func Bm6) ⟨[]⟩ ⟨[]⟩] h) fun r w=>aPtr r fun x=>some (.pointer x,w):=by kernel_rfl
def Ah0:Cuts:={ globs:=0,loops:=[],regs:=[],plans:=[(2,⟨[0,1,2,3,4,5,6,7,8,9,10,11,12,13,14],[0,1,3,7,15,31,63,127,255,511,63,63,4095,8191,16383],[],[]⟩)] }
def A18:List Item:=A7 Tryz.f165
theorem B52 (C:A4) (R:A6) (c:Option Addr) (v:List Value) (h:H) :
 A8 PR Ah0 C R V4 Tryz.f165 100000 true A18 [(0,.pointer c),(1,.agg ⟨v⟩)] h =
 nw (.cells D3 false v) h fun b w=>aSome c fun p=>gInt .i64 (Addr.add p 0) w fun x=>ck ((0:Int)≤x∧(x:Int)≤x∧x≤(B1:Int)) (nw (.cells A5 false (I7 (Int.toNat x) [.int .u8 0])) w fun b_1 w1=>aSome c fun p_1=>gFv (Addr.add p_1 1) w1 fun x_1=>isNilF x_1 fun b_2=>bnd (cond b_2 (some (true,w1)) (aSome c fun p_2=>gFv (Addr.add p_2 1) w1 fun x_2=>gAgg ⟨b,0,none⟩ 36 w1 fun x_3=>aFn x_2 fun g fi cp=>bnd (C g (fi++([.agg ⟨x_3⟩,.slice (some ⟨b_1,0,none⟩) (Int.toNat x) (Int.toNat x)]++cp)) w1) fun r w2=>aBool r fun x_4=>some (!x_4,w2))) fun c_1 w3=>cond c_1
 (some (.tuple ⟨[.slice none 0 0,.bool false]⟩,w3))
 (some (.tuple ⟨[.slice (some ⟨b_1,0,none⟩) (Int.toNat x) (Int.toNat x),.bool true]⟩,w3))):=by kernel_rfl
def Ah6:Cuts:={ globs:=0,loops:=[],regs:=[],plans:=[(2,⟨[0,1,2,3,4,5,6,7,8,9,10,11,12,13,14],[0,1,3,7,15,31,63,127,255,511,63,63,4095,8191,16383],[],[]⟩)] }
def A17:List Item:=A7 Tryz.f167
theorem B59 (C:A4) (R:A6) (c:Option Addr) (v:List Value) (h:H) :
 A8 PR Ah6 C R V7 Tryz.f167 100000 true A17 [(0,.pointer c),(1,.agg ⟨v⟩)] h =
 nw (.cells D7 false v) h fun b w=>aSome c fun p=>gInt .i64 (Addr.add p 0) w fun x=>ck ((0:Int)≤x∧(x:Int)≤x∧x≤(B1:Int)) (nw (.cells A5 false (I7 (Int.toNat x) [.int .u8 0])) w fun b_1 w1=>aSome c fun p_1=>gFv (Addr.add p_1 1) w1 fun x_1=>isNilF x_1 fun b_2=>bnd (cond b_2 (some (true,w1)) (aSome c fun p_2=>gFv (Addr.add p_2 1) w1 fun x_2=>gAgg ⟨b,0,none⟩ 4 w1 fun x_3=>aFn x_2 fun g fi cp=>bnd (C g (fi++([.agg ⟨x_3⟩,.slice (some ⟨b_1,0,none⟩) (Int.toNat x) (Int.toNat x)]++cp)) w1) fun r w2=>aBool r fun x_4=>some (!x_4,w2))) fun c_1 w3=>cond c_1
 (some (.tuple ⟨[.slice none 0 0,.bool false]⟩,w3))
 (some (.tuple ⟨[.slice (some ⟨b_1,0,none⟩) (Int.toNat x) (Int.toNat x),.bool true]⟩,w3))):=by kernel_rfl
def D36:Cuts:={ globs:=0,loops:=[],regs:=[],plans:=[] }
def E40:List Item:=A7 Tryz.f171
theorem Hn4 (C:A4) (R:A6) (n:Int) (B1:Int) (h:H) :
 A8 PR D36 C R Ar5 Tryz.f171 100000 true E40 [(0,.int .i64 n),(1,.int .i64 B1)] h =
 bnd (cond (decide (n≥0)) (some (decide (n≤B1),h)) (some (false,h))) fun c w=>some (.bool c,w):=by kernel_rfl
def Ah2:Cuts:={ globs:=0,loops:=[],regs:=[],plans:=[(4,⟨[0,1,2,3,4,10,5,6,7,8,9,11,12],[0,1,3,7,0,16,63,127,255,255,0,1535,4095],[(5,[3])],[]⟩)] }
def A21:List Item:=A7 Tryz.f173
theorem B54 (C:A4) (R:A6) (c:Option Addr) (b:Option Addr) (bn bc:Nat) (h:H) :
 A8 PR Ah2 C R V9 Tryz.f173 100000 true A21 [(0,.pointer c),(1,.slice b bn bc)] h =
 nw (.cells D0 false [.int .i64 0,.int .i64 0,.int .i64 0,.int .i64 0,.int .i64 0,.int .i64 0,.int .i64 0,.int .i64 0,.int .i64 0,.int .i64 0,.int .i64 0,.int .i64 0,.int .i64 0,.int .i64 0,.int .i64 0,.int .i64 0]) h fun b_1 w=>nw (.cells D0 false [.int .i64 0,.int .i64 0,.int .i64 0,.int .i64 0,.int .i64 0,.int .i64 0,.int .i64 0,.int .i64 0,.int .i64 0,.int .i64 0,.int .i64 0,.int .i64 0,.int .i64 0,.int .i64 0,.int .i64 0,.int .i64 0]) w fun b_2 w1=>aSome c fun p=>gFv (Addr.add p 2) w1 fun x=>isNilF x fun b_3=>bnd (cond b_3 (some (true,w1)) (aSome c fun p_1=>gInt .i64 (Addr.add p_1 0) w1 fun x_1=>some (((bn:Nat):Int) != x_1,w1))) fun c_1 w2=>cond c_1
 (gAgg ⟨b_2,0,none⟩ 16 w2 fun x_2=>ck (List.length x_2=16) (pAgg ⟨b_1,0,none⟩ x_2 w2 fun w3=>gAgg ⟨b_1,0,none⟩ 16 w3 fun x_3=>some (.tuple ⟨[.agg ⟨x_3⟩,.bool false]⟩,w3)))
 (aSome c fun p_2=>gFv (Addr.add p_2 2) w2 fun x_4=>nw (.cells D0 false [.int .i64 0,.int .i64 0,.int .i64 0,.int .i64 0,.int .i64 0,.int .i64 0,.int .i64 0,.int .i64 0,.int .i64 0,.int .i64 0,.int .i64 0,.int .i64 0,.int .i64 0,.int .i64 0,.int .i64 0,.int .i64 0]) w2 fun b_4 w4=>bnd (C G6 [.slice b bn bc] w4) fun r w5=>aSl r fun x_5 xn xc=>gFv (Addr.add p_2 2) w5 fun x_6=>Bm4 (x_4) (x_6) (aFn x_4 fun g fi cp=>bnd (C g (fi++([.slice x_5 xn xc]++cp)) w5) fun r_1 w6=>as2 r_1 fun r_2 r_3=>aAgg r_2 fun x_7=>aBool r_3 fun x_8=>ck (List.length x_7=16) (pAgg ⟨b_4,0,none⟩ x_7 w6 fun w7=>cond (!x_8)
 (gAgg ⟨b_2,0,none⟩ 16 w7 fun x_9=>ck (List.length x_9=16) (pAgg ⟨b_1,0,none⟩ x_9 w7 fun w8=>gAgg ⟨b_1,0,none⟩ 16 w8 fun x_10=>some (.tuple ⟨[.agg ⟨x_10⟩,.bool false]⟩,w8)))
 (gAgg ⟨b_4,0,none⟩ 16 w7 fun x_11=>ck (List.length x_11=16) (pAgg ⟨b_1,0,none⟩ x_11 w7 fun w9=>gAgg ⟨b_1,0,none⟩ 16 w9 fun x_12=>some (.tuple ⟨[.agg ⟨x_12⟩,.bool true]⟩,w9)))))):=by kernel_rfl
def Da7:Cuts:={ globs:=0,loops:=[(3,[3,9,10,11])],regs:=[],plans:=[] }
def D11:List Item:=A7 Tryz.f174
def Bl0:List Item:=stk [0,1,0,1,0,0,1,4,5] D11
theorem Hn6 (C:A4) (R:A6) (b:Option Addr) (bn bc:Nat) (h:H) :
 A8 PR Da7 C R Aa7 Tryz.f174 100000 true D11 [(0,.slice b bn bc)] h =
 R Aa7 Bl0 [(3,.int .u8 (IntKind.wrap .u8 (((bn:Nat):Int)))),(9,.slice b bn bc),(10,.int .i64 ((bn:Nat):Int)),(11,.int .i64 0)] h:=by kernel_rfl
theorem D79 (C:A4) (R:A6) (n:Int) (x9:Option Addr) (x9n x9c:Nat) (x10:Int) (x11:Int) (h:H) :
 A8 PR Da7 C R Aa7 Tryz.f174 100000 true Bl0 [(3,.int .u8 n),(9,.slice x9 x9n x9c),(10,.int .i64 x10),(11,.int .i64 x11)] h =
 cond (decide (x11<x10))
 (aSome x9 fun p=>ck ((0:Int)≤x11∧x11<((x9n:Nat):Int)) (gInt .u8 (Addr.add (B6 p) (Int.toNat x11*1)) h fun x=>R Aa7 Bl0 [(3,.int .u8 (IntKind.wrap .u8 (n+x))),(9,.slice x9 x9n x9c),(10,.int .i64 x10),(11,.int .i64 (IntKind.wrap .i64 (x11+1)))] h))
 (some (.int .u8 n,h)):=by kernel_rfl
def Au9:Cuts:={ globs:=0,loops:=[(3,[3,15,16])],regs:=[],plans:=[] }
def Bd7:List Item:=A7 Tryz.f178
def Ak3:List Item:=stk [0,1,0,1,0,0,1,4,5] Bd7
theorem Em1 (C:A4) (R:A6) (size:Int) (h:H) :
 A8 PR Au9 C R P2 Tryz.f178 100000 true Bd7 [(0,.int .i64 size)] h =
 ck ((0:Int)≤mm2 false (mm2 true size 0) 256∧(mm2 false (mm2 true size 0) 256:Int)≤mm2 false (mm2 true size 0) 256∧mm2 false (mm2 true size 0) 256≤(B1:Int)) (nw (.cells Al8 false (I7 (Int.toNat (mm2 false (mm2 true size 0) 256)) [.int .i64 0,.int .i64 0,.int .i64 0,.int .i64 0,.int .i64 0,.int .i64 0,.int .i64 0,.bool false])) h fun b w=>nw (.cells Bx6 false [.slice (some ⟨b,0,none⟩) (Int.toNat (mm2 false (mm2 true size 0) 256)) (Int.toNat (mm2 false (mm2 true size 0) 256))]) w fun b_1 w1=>gSl (Addr.add ⟨b_1,0,none⟩ 0) w1 fun _ xn _=>R P2 Ak3 [(3,.pointer (some ⟨b_1,0,none⟩)),(15,.int .i64 ((xn:Nat):Int)),(16,.int .i64 0)] w1):=by kernel_rfl
theorem Br8 (C:A4) (R:A6) (t:Addr) (x15:Int) (x16:Int) (h:H) :
 A8 PR Au9 C R P2 Tryz.f178 100000 true Ak3 [(3,.pointer (some t)),(15,.int .i64 x15),(16,.int .i64 x16)] h =
 cond (decide (x16<x15))
 (gSl (Addr.add t 0) h fun x xn _=>aSome x fun p=>ck ((0:Int)≤x16∧x16<((xn:Nat):Int)) (pV (Addr.add (Addr.add (B6 p) (Int.toNat x16*8)) 6) (.int .i64 1) h fun w=>R P2 Ak3 [(3,.pointer (some t)),(15,.int .i64 x15),(16,.int .i64 (IntKind.wrap .i64 (x16+1)))] w))
 (some (.pointer (some t),h)):=by kernel_rfl
def Bg5:Cuts:={ globs:=0,loops:=[(3,[0,3,4])],regs:=[],plans:=[] }
def B03:List Item:=A7 Tryz.f183
def Az2:List Item:=stk [0,1,0,1,0,0,1,4,5] B03
theorem Gi1 (C:A4) (R:A6) (size:Int) (h:H) :
 A8 PR Bg5 C R Aa1 Tryz.f183 100000 true B03 [(0,.int .i64 size)] h =
 nw (.cells Ew1 false [.slice none 0 0]) h fun b w=>R Aa1 Az2 [(0,.int .i64 size),(3,.pointer (some ⟨b,0,none⟩)),(4,.int .i64 0)] w:=by kernel_rfl
theorem Dd3 (C:A4) (R:A6) (size:Int) (n:Addr) (i:Int) (h:H) :
 A8 PR Bg5 C R Aa1 Tryz.f183 100000 true Az2 [(0,.int .i64 size),(3,.pointer (some n)),(4,.int .i64 i)] h =
 bnd (cond (decide (i<size)) (some (decide (i<256),h)) (some (false,h))) fun c w=>cond c
 (gSl (Addr.add n 0) w fun x xn xc=>nw (.cells Bi1 false [.int .i64 1,.bool false]) w fun b w1=>gCells (some ⟨b,0,none⟩) (1*2) w1 fun cs=>ckB (fitsOpen x Bi1 w1) (apd Bi1 2 x xn xc 1 cs w1 fun a an ac w2=>pV (Addr.add n 0) (.slice a an ac) w2 fun w3=>R Aa1 Az2 [(0,.int .i64 size),(3,.pointer (some n)),(4,.int .i64 (IntKind.wrap .i64 (i+1)))] w3))
 (some (.pointer (some n),w)):=by kernel_rfl
def A97:Cuts:={ globs:=0,loops:=[(3,[0,3,4])],regs:=[],plans:=[] }
def Bu6:List Item:=A7 Tryz.f185
def Ai1:List Item:=stk [0,1,0,1,0,0,1,4,5] Bu6
theorem Ga1 (C:A4) (R:A6) (n:Option Addr) (h:H) :
 A8 PR A97 C R Q8 Tryz.f185 100000 true Bu6 [(0,.pointer n)] h =
 R Q8 Ai1 [(0,.pointer n),(3,.slice none 0 0),(4,.int .i64 0)] h:=by kernel_rfl
theorem B62 (C:A4) (R:A6) (n:Option Addr) (out:Option Addr) (outn outc:Nat) (i:Int) (h:H) :
 A8 PR A97 C R Q8 Tryz.f185 100000 true Ai1 [(0,.pointer n),(3,.slice out outn outc),(4,.int .i64 i)] h =
 aSome n fun p=>gSl (Addr.add p 0) h fun _ xn _=>cond (decide (i<((xn:Nat):Int)))
 (aSome n fun p_1=>gSl (Addr.add p_1 0) h fun x_1 xn_1 _=>aSome x_1 fun p_2=>ck ((0:Int)≤i∧i<((xn_1:Nat):Int)) (gBool (Addr.add (Addr.add (B6 p_2) (Int.toNat i*2)) 1) h fun x_2=>cond x_2
 (aSome n fun p_3=>gSl (Addr.add p_3 0) h fun x_3 xn_2 _=>aSome x_3 fun p_4=>ck ((0:Int)≤i∧i<((xn_2:Nat):Int)) (gInt .i64 (Addr.add (Addr.add (B6 p_4) (Int.toNat i*2)) 0) h fun x_4=>nw (.cells B8 false [.int .i64 (IntKind.wrap .i64 (i+(IntKind.wrap .i64 (256*x_4))))]) h fun b w=>gCells (some ⟨b,0,none⟩) (1*1) w fun cs=>ckB (fitsOpen out B8 w) (apd B8 1 out outn outc 1 cs w fun a an ac w1=>R Q8 Ai1 [(0,.pointer n),(3,.slice a an ac),(4,.int .i64 (IntKind.wrap .i64 (i+1)))] w1)))
 (R Q8 Ai1 [(0,.pointer n),(3,.slice out outn outc),(4,.int .i64 (IntKind.wrap .i64 (i+1)))] h)))
 (some (.slice out outn outc,h)):=by kernel_rfl
def B43:Cuts:={ globs:=0,loops:=[],regs:=[],plans:=[] }
def Dx7:List Item:=A7 Tryz.f188
theorem Gh3 (C:A4) (R:A6) (m:Option Addr) (atv:Int) (b:Option Addr) (bn bc:Nat) (h:H) :
 A8 PR B43 C R Be6 Tryz.f188 100000 true Dx7 [(0,.pointer m),(1,.int .i64 atv),(2,.slice b bn bc)] h =
 bnd (C Bj9 [.pointer m,.int .i64 atv,.int .i64 ((bn:Nat):Int)] h) fun r w=>aBool r fun x=>cond (!x)
 (some (.int .i64 1,w))
 (aSome m fun p=>gSl (Addr.add p 0) w fun x_1 xn xc=>ckB (fitsOpen x_1 A5 w) (ck ((0:Int)≤atv∧atv≤((xn:Nat):Int)) (gCells b (min bn (xn-(Int.toNat atv))*1) w fun cs=>pCells (H0 x_1 (decide (Int.toNat atv<xc)) ((Int.toNat atv)*1)) cs w fun w1=>some (.int .i64 0,w1)))):=by kernel_rfl
def Bv6:Cuts:={ globs:=0,loops:=[],regs:=[],plans:=[] }
def Dr3:List Item:=A7 Tryz.f189
theorem Ga7 (C:A4) (R:A6) (s:Option Addr) (env:Int) (name:Int) (h:H) :
 A8 PR Bv6 C R At5 Tryz.f189 100000 true Dr3 [(0,.pointer s),(1,.int .i64 env),(2,.int .i64 name)] h =
 nw (.cells P4 false [.int .i64 0,.int .i64 0,.int .i64 0,.int .i64 0,.int .i64 0,.int .i64 0]) h fun b w=>bnd (C Af4 [.pointer s,.int .i64 env] w) fun r w1=>aBool r fun x=>cond (!x)
 (pAgg ⟨b,0,none⟩ [.int .i64 0,.int .i64 0,.int .i64 0,.int .i64 0,.int .i64 0,.int .i64 0] w1 fun w2=>gAgg ⟨b,0,none⟩ 6 w2 fun x_1=>some (.tuple ⟨[.agg ⟨x_1⟩,.int .i64 2]⟩,w2))
 (aSome s fun p=>gSl (Addr.add p 0) w1 fun x_2 xn _=>aSome x_2 fun p_1=>ck ((0:Int)≤env∧env<((xn:Nat):Int)) (gPtr (Addr.add (B6 p_1) (Int.toNat env*1)) w1 fun x_3=>bnd (C Ad3 [.pointer x_3,.int .i64 name] w1) fun r_1 w3=>as2 r_1 fun r_2 r_3=>aAgg r_2 fun x_4=>aBool r_3 fun x_5=>nw (.cells P4 false [.int .i64 0,.int .i64 0,.int .i64 0,.int .i64 0,.int .i64 0,.int .i64 0]) w3 fun b_1 w4=>ck (List.length x_4=6) (pAgg ⟨b_1,0,none⟩ x_4 w4 fun w5=>cond (!x_5)
 (pAgg ⟨b,0,none⟩ [.int .i64 0,.int .i64 0,.int .i64 0,.int .i64 0,.int .i64 0,.int .i64 0] w5 fun w6=>gAgg ⟨b,0,none⟩ 6 w6 fun x_6=>some (.tuple ⟨[.agg ⟨x_6⟩,.int .i64 2]⟩,w6))
 (gAgg ⟨b_1,0,none⟩ 6 w5 fun x_7=>ck (List.length x_7=6) (pAgg ⟨b,0,none⟩ x_7 w5 fun w7=>gAgg ⟨b,0,none⟩ 6 w7 fun x_8=>some (.tuple ⟨[.agg ⟨x_8⟩,.int .i64 0]⟩,w7)))))):=by kernel_rfl
def B21:Cuts:={ globs:=0,loops:=[],regs:=[],plans:=[] }
def Dx5:List Item:=A7 Tryz.f202
theorem Gi2 (C:A4) (R:A6) (c:Int) (h:H) :
 A8 PR B21 C R Ag2 Tryz.f202 100000 true Dx5 [(0,.int .u8 c)] h =
 some (.bool (c != 0),h):=by kernel_rfl
def Dq4:Cuts:={ globs:=0,loops:=[],regs:=[],plans:=[] }
def Ew3:List Item:=A7 Tryz.f216
theorem G62 (C:A4) (R:A6) (m:Option Addr) (atv:Int) (n:Int) (h:H) :
 A8 PR Dq4 C R Bj9 Tryz.f216 100000 true Ew3 [(0,.pointer m),(1,.int .i64 atv),(2,.int .i64 n)] h =
 bnd (cond (decide (atv≥0)) (some (decide (n≥0),h)) (some (false,h))) fun c w=>bnd (cond c (aSome m fun p=>gSl (Addr.add p 0) w fun _ xn _=>some (decide (atv≤((xn:Nat):Int)),w)) (some (false,w))) fun c_1 w1=>bnd (cond c_1 (aSome m fun p_1=>gSl (Addr.add p_1 0) w1 fun _ xn_1 _=>some (decide (n≤(IntKind.wrap .i64 (((xn_1:Nat):Int)-atv))),w1)) (some (false,w1))) fun c_2 w2=>some (.bool c_2,w2):=by kernel_rfl
def Bo1:Cuts:={ globs:=0,loops:=[],regs:=[],plans:=[] }
def Dh7:List Item:=A7 Tryz.f221
theorem E22 (C:A4) (R:A6) (s:Option Addr) (who:Int) (stamp:Int) (h:H) :
 A8 PR Bo1 C R A32 Tryz.f221 100000 true Dh7 [(0,.pointer s),(1,.int .i64 who),(2,.int .i64 stamp)] h =
 aSome s fun p=>gBool (Addr.add p 1) h fun x=>bnd (cond x (aSome s fun p_1=>gInt .i64 (Addr.add p_1 2) h fun x_1=>some (x_1==who,h)) (some (false,h))) fun c w=>bnd (cond c (aSome s fun p_2=>gInt .i64 (Addr.add p_2 3) w fun x_2=>some (x_2==stamp,w)) (some (false,w))) fun c_1 w1=>some (.bool c_1,w1):=by kernel_rfl
def Dt0:Cuts:={ globs:=0,loops:=[],regs:=[],plans:=[(3,⟨[0,1,2,3,4,5,6,7,8,9,10,11,12,13,14],[0,0,3,7,15,31,0,0,128,448,960,1984,4095,8191,16383],[],[]⟩)] }
def Em4:List Item:=A7 Tryz.f227
theorem G54 (C:A4) (R:A6) (b:Option Addr) (bn bc:Nat) (atv:Int) (h:H) :
 A8 PR Dt0 C R Bz7 Tryz.f227 100000 true Em4 [(0,.slice b bn bc),(1,.int .i64 atv)] h =
 bnd (cond (decide (atv<0)) (some (true,h)) (some (decide (atv>(IntKind.wrap .i64 (((bn:Nat):Int)-2))),h))) fun c w=>cond c
 (some (.tuple ⟨[.int .i64 0,.bool false]⟩,w))
 (aSome b fun p=>ck ((0:Int)≤atv∧atv<((bn:Nat):Int)) (gInt .u8 (Addr.add (B6 p) (Int.toNat atv*1)) w fun x=>aSome b fun p_1=>ck ((0:Int)≤IntKind.wrap .i64 (atv+1)∧IntKind.wrap .i64 (atv+1)<((bn:Nat):Int)) (gInt .u8 (Addr.add (B6 p_1) (Int.toNat (IntKind.wrap .i64 (atv+1))*1)) w fun x_1=>some (.tuple ⟨[.int .i64 (Ht3 .i64 (IntKind.wrap .i64 ((IntKind.wrap .i64 (x))*2 ^ 8)) (IntKind.wrap .i64 (x_1))),.bool true]⟩,w)))):=by kernel_rfl
end
end Go.EQ

set_option maxRecDepth 100000
namespace Go.EQ
open Go Go.NN Go.Proofs
variable (C : A4) (R : A6)
noncomputable section
def De9:Cuts:={ globs:=0,loops:=[],regs:=[],plans:=[] }
def Ek3:List Item:=A7 Tryz.f12
theorem Gz7 (C:A4) (R:A6)  (h:H) :
 A8 PR De9 C R Aw0 Tryz.f12 100000 true Ek3 [] h =
 bnd (C Bc5 [] h) fun r w=>aSl r fun x xn xc=>bnd (C Af1 [.slice x xn xc] w) fun r_1 w1=>as4 r_1 fun r_2 r_3 r_4 r_5=>aPtr r_2 fun _=>aPtr r_3 fun x_2=>aPtr r_4 fun _=>aPtr r_5 fun _=>cond x_2.isNone
 (some (.bool false,w1))
 (bnd (C Dj7 [.pointer x_2,.int .i64 0] w1) fun r_6 w2=>aAgg r_6 fun _=>nw (.cells A5 false [.int .u8 7,.int .u8 8,.int .u8 9]) w2 fun b w3=>bnd (C Bt4 [.pointer x_2,.int .i64 0,.int .i64 2,.slice (some ⟨b,0,none⟩) 3 3] w3) fun r_7 w4=>aAgg r_7 fun x_6=>nw (.cells E4 false [.int .i64 0,.int .i64 0,.slice none 0 0,.bool false]) w4 fun b_1 w5=>ck (List.length x_6=4) (pAgg ⟨b_1,0,none⟩ x_6 w5 fun w6=>bnd (C Ab7 [.pointer x_2,.int .i64 0,.int .i64 1,.int .i64 8] w6) fun r_8 w7=>aAgg r_8 fun x_7=>nw (.cells E4 false [.int .i64 0,.int .i64 0,.slice none 0 0,.bool false]) w7 fun b_2 w8=>ck (List.length x_7=4) (pAgg ⟨b_2,0,none⟩ x_7 w8 fun w9=>bnd (C Ab7 [.pointer x_2,.int .i64 0,.int .i64 1,.int .i64 8] w9) fun r_9 w10=>aAgg r_9 fun x_8=>nw (.cells E4 false [.int .i64 0,.int .i64 0,.slice none 0 0,.bool false]) w10 fun b_3 w11=>ck (List.length x_8=4) (pAgg ⟨b_3,0,none⟩ x_8 w11 fun w12=>gInt .i64 (Addr.add ⟨b_1,0,none⟩ 0) w12 fun x_9=>bnd (cond (x_9==3) (gInt .i64 (Addr.add ⟨b_1,0,none⟩ 1) w12 fun x_10=>some (x_10==0,w12)) (some (false,w12))) fun c w13=>bnd (cond c (gSl (Addr.add ⟨b_2,0,none⟩ 2) w13 fun x_11 xn_1 _=>gCells x_11 xn_1 w13 fun cs=>asBytes cs fun l=>some ((ByteArray.mk ⟨l⟩).toList==(ByteArray.mk ⟨[7,8,9]⟩).toList,w13)) (some (false,w13))) fun c_1 w14=>bnd (cond c_1 (gBool (Addr.add ⟨b_3,0,none⟩ 3) w14 fun x_12=>some (x_12,w14)) (some (false,w14))) fun c_2 w15=>bnd (cond c_2 (nw (.cells A5 false [.int .u8 1]) w15 fun b_4 w16=>bnd (C Bj6 [.pointer x_2,.slice (some ⟨b_4,0,none⟩) 1 1] w16) fun r_10 w17=>aInt .i64 r_10 fun x_13=>some (x_13==1,w17)) (some (false,w15))) fun c_3 w18=>some (.bool c_3,w18))))):=by kernel_rfl
def D10:Cuts:={ globs:=0,loops:=[],regs:=[],plans:=[] }
def E39:List Item:=A7 Tryz.f19
theorem Hi7 (C:A4) (R:A6) (c:Option Addr) (i:Int) (h:H) :
 A8 PR D10 C R Aj8 Tryz.f19 100000 true E39 [(0,.pointer c),(1,.int .i64 i)] h =
 nw (.cells D0 false [.int .i64 0,.int .i64 0,.int .i64 0,.int .i64 0,.int .i64 0,.int .i64 0,.int .i64 0,.int .i64 0,.int .i64 0,.int .i64 0,.int .i64 0,.int .i64 0,.int .i64 0,.int .i64 0,.int .i64 0,.int .i64 0]) h fun b w=>bnd (C D4 [.pointer c] w) fun r w1=>as0 r (bnd (C L7 [.pointer c,.int .i64 i] w1) fun r_1 w2=>as2 r_1 fun r_2 r_3=>aAgg r_2 fun x=>aInt .i64 r_3 fun x_1=>nw (.cells D0 false [.int .i64 0,.int .i64 0,.int .i64 0,.int .i64 0,.int .i64 0,.int .i64 0,.int .i64 0,.int .i64 0,.int .i64 0,.int .i64 0,.int .i64 0,.int .i64 0,.int .i64 0,.int .i64 0,.int .i64 0,.int .i64 0]) w2 fun b_1 w3=>ck (List.length x=16) (pAgg ⟨b_1,0,none⟩ x w3 fun w4=>bnd (cond (x_1 != 1) (some (true,w4)) (gInt .i64 (Addr.add ⟨b_1,0,none⟩ 0) w4 fun x_2=>some (x_2 != 1,w4))) fun c_1 w5=>cond c_1
 (pAgg ⟨b,0,none⟩ [.int .i64 0,.int .i64 0,.int .i64 0,.int .i64 0,.int .i64 0,.int .i64 0,.int .i64 0,.int .i64 0,.int .i64 0,.int .i64 0,.int .i64 0,.int .i64 0,.int .i64 0,.int .i64 0,.int .i64 0,.int .i64 0] w5 fun w6=>gAgg ⟨b,0,none⟩ 16 w6 fun x_3=>some (.tuple ⟨[.agg ⟨x_3⟩,.int .i64 105]⟩,w6))
 (gAgg ⟨b_1,0,none⟩ 16 w5 fun x_4=>ck (List.length x_4=16) (pAgg ⟨b,0,none⟩ x_4 w5 fun w7=>gAgg ⟨b,0,none⟩ 16 w7 fun x_5=>some (.tuple ⟨[.agg ⟨x_5⟩,.int .i64 0]⟩,w7))))):=by kernel_rfl
def Dv1:Cuts:={ globs:=0,loops:=[],regs:=[],plans:=[] }
def Eo7:List Item:=A7 Tryz.f21
theorem Hd4 (C:A4) (R:A6) (c:Option Addr) (b:Option Addr) (bn bc:Nat) (h:H) :
 A8 PR Dv1 C R Bj6 Tryz.f21 100000 true Eo7 [(0,.pointer c),(1,.slice b bn bc)] h =
 bnd (C D4 [.pointer c] h) fun r w=>as0 r (bnd (C S9 [.pointer c] w) fun r_1 w1=>as2 r_1 fun r_2 r_3=>aAgg r_2 fun x=>aInt .i64 r_3 fun x_1=>nw (.cells D3 false [.int .i64 0,.int .i64 0,.int .i64 0,.int .i64 0,.int .u8 0,.int .u8 0,.int .u8 0,.int .u8 0,.int .u8 0,.int .u8 0,.int .u8 0,.int .u8 0,.int .u8 0,.int .u8 0,.int .u8 0,.int .u8 0,.int .u8 0,.int .u8 0,.int .u8 0,.int .u8 0,.int .u8 0,.int .u8 0,.int .u8 0,.int .u8 0,.int .u8 0,.int .u8 0,.int .u8 0,.int .u8 0,.int .u8 0,.int .u8 0,.int .u8 0,.int .u8 0,.int .u8 0,.int .u8 0,.int .u8 0,.int .u8 0]) w1 fun b_1 w2=>ck (List.length x=36) (pAgg ⟨b_1,0,none⟩ x w2 fun w3=>cond (x_1 != 1)
 (some (.int .i64 0,w3))
 (gAgg ⟨b_1,0,none⟩ 36 w3 fun x_2=>bnd (C Ao2 [.agg ⟨x_2⟩,.slice b bn bc] w3) fun r_4 w4=>as2 r_4 fun r_5 r_6=>aAgg r_5 fun x_3=>aInt .i64 r_6 fun x_4=>nw (.cells D3 false [.int .i64 0,.int .i64 0,.int .i64 0,.int .i64 0,.int .u8 0,.int .u8 0,.int .u8 0,.int .u8 0,.int .u8 0,.int .u8 0,.int .u8 0,.int .u8 0,.int .u8 0,.int .u8 0,.int .u8 0,.int .u8 0,.int .u8 0,.int .u8 0,.int .u8 0,.int .u8 0,.int .u8 0,.int .u8 0,.int .u8 0,.int .u8 0,.int .u8 0,.int .u8 0,.int .u8 0,.int .u8 0,.int .u8 0,.int .u8 0,.int .u8 0,.int .u8 0,.int .u8 0,.int .u8 0,.int .u8 0,.int .u8 0]) w4 fun b_2 w5=>ck (List.length x_3=36) (pAgg ⟨b_2,0,none⟩ x_3 w5 fun w6=>gAgg ⟨b_2,0,none⟩ 36 w6 fun x_5=>bnd (C J9 [.pointer c,.agg ⟨x_5⟩] w6) fun r_7 w7=>aBool r_7 fun x_6=>cond (!x_6)
 (some (.int .i64 0,w7))
 (some (.int .i64 x_4,w7)))))):=by kernel_rfl
def Dp1:Cuts:={ globs:=0,loops:=[],regs:=[],plans:=[] }
def En1:List Item:=A7 Tryz.f24
theorem G46 (C:A4) (R:A6)  (h:H) :
 A8 PR Dp1 C R B00 Tryz.f24 100000 true En1 [] h =
 nw (.cells B10 false [.slice none 0 0,.slice none 0 0,.int .i64 0]) h fun b w=>nw (.cells Gj3 false [.bool false,.bool false]) w fun b_1 w1=>nw (.cells B29 false [.int .i64 0,.int .i64 1,.int .i64 1,.int .i64 0]) w1 fun b_2 w2=>pAgg ⟨b,0,none⟩ [.slice (some ⟨b_1,0,none⟩) 2 2,.slice (some ⟨b_2,0,none⟩) 2 2,.int .i64 5] w2 fun w3=>gAgg ⟨b,0,none⟩ 3 w3 fun x=>some (.agg ⟨x⟩,w3):=by kernel_rfl
def A29:Cuts:={ globs:=0,loops:=[(4,[1,3,4])],regs:=[],plans:=[] }
def Bo2:List Item:=A7 Tryz.f25
def Aq4:List Item:=stk [0,1,0,1,0,1,0,0,1,4,5] Bo2
theorem E08 (C:A4) (R:A6) (p:List Value) (h:H) :
 A8 PR A29 C R P7 Tryz.f25 100000 true Bo2 [(0,.agg ⟨p⟩)] h =
 nw (.cells D3 false p) h fun b w=>gInt .i64 (Addr.add ⟨b,0,none⟩ 0) w fun x=>gInt .i64 (Addr.add ⟨b,0,none⟩ 1) w fun x_1=>gInt .i64 (Addr.add ⟨b,0,none⟩ 2) w fun x_2=>gInt .i64 (Addr.add ⟨b,0,none⟩ 3) w fun x_3=>nw (.cells A5 false [.int .u8 1,.int .u8 (IntKind.wrap .u8 (x)),.int .u8 (IntKind.wrap .u8 (x_1)),.int .u8 (IntKind.wrap .u8 (x_2)),.int .u8 (IntKind.wrap .u8 (x_3)),.int .u8 197]) w fun b_1 w1=>gCells (some ⟨b_1,0,none⟩) 6 w1 fun cs=>asBytes cs fun l=>bnd (C Af9 [.string (ByteArray.mk ⟨l⟩)] w1) fun r w2=>aInt .u8 r fun x_4=>nw (.cells A5 false [.int .u8 x_4,.int .u8 0]) w2 fun b_2 w3=>gCells (some ⟨b_2,0,none⟩) 2 w3 fun cs_1=>asBytes cs_1 fun l_1=>ck (ByteArray.size (ByteArray.mk ⟨l⟩)+ByteArray.size (ByteArray.mk ⟨l_1⟩)≤B1) (R P7 Aq4 [(1,.pointer (some ⟨b,0,none⟩)),(3,.string ((ByteArray.mk ⟨l⟩)++(ByteArray.mk ⟨l_1⟩))),(4,.int .i64 0)] w3):=by kernel_rfl
theorem B11 (C:A4) (R:A6) (p:Addr) (s:ByteArray) (i:Int) (h:H) :
 A8 PR A29 C R P7 Tryz.f25 100000 true Aq4 [(1,.pointer (some p)),(3,.string s),(4,.int .i64 i)] h =
 cond (decide (i<32))
 (ck ((0:Int)≤i∧i<((32:Nat):Int)) (gInt .u8 (Addr.add (Addr.add p 4) (Int.toNat i*1)) h fun x=>nw (.cells A5 false [.int .u8 x]) h fun b w=>gCells (some ⟨b,0,none⟩) 1 w fun cs=>asBytes cs fun l=>ck (ByteArray.size s+ByteArray.size (ByteArray.mk ⟨l⟩)≤B1) (R P7 Aq4 [(1,.pointer (some p)),(3,.string (s++(ByteArray.mk ⟨l⟩))),(4,.int .i64 (IntKind.wrap .i64 (i+1)))] w)))
 (some (.string s,h)):=by kernel_rfl
def Bn8:Cuts:={ globs:=0,loops:=[],regs:=[],plans:=[] }
def Dh4:List Item:=A7 Tryz.f30
theorem E12 (C:A4) (R:A6) (f:List Value) (h:H) :
 A8 PR Bn8 C R A25 Tryz.f30 100000 true Dh4 [(0,.agg ⟨f⟩)] h =
 nw (.cells D7 false f) h fun b w=>gInt .i64 (Addr.add ⟨b,0,none⟩ 0) w fun x=>gInt .i64 (Addr.add ⟨b,0,none⟩ 1) w fun x_1=>gInt .i64 (Addr.add ⟨b,0,none⟩ 2) w fun x_2=>gInt .i64 (Addr.add ⟨b,0,none⟩ 3) w fun x_3=>nw (.cells A5 false [.int .u8 (IntKind.wrap .u8 (x)),.int .u8 (IntKind.wrap .u8 (x_1)),.int .u8 (IntKind.wrap .u8 (x_2)),.int .u8 (IntKind.wrap .u8 (x_3)),.int .u8 179]) w fun b_1 w1=>gCells (some ⟨b_1,0,none⟩) 5 w1 fun cs=>asBytes cs fun l=>bnd (C Af9 [.string (ByteArray.mk ⟨l⟩)] w1) fun r w2=>aInt .u8 r fun x_4=>nw (.cells A5 false [.int .u8 x_4,.int .u8 0,.int .u8 0]) w2 fun b_2 w3=>gCells (some ⟨b_2,0,none⟩) 3 w3 fun cs_1=>asBytes cs_1 fun l_1=>ck (ByteArray.size (ByteArray.mk ⟨l⟩)+ByteArray.size (ByteArray.mk ⟨l_1⟩)≤B1) (some (.string ((ByteArray.mk ⟨l⟩)++(ByteArray.mk ⟨l_1⟩)),w3)):=by kernel_rfl
def A04:Cuts:={ globs:=0,loops:=[],regs:=[],plans:=[] }
def Bp7:List Item:=A7 Tryz.f35
theorem D30 (C:A4) (R:A6) (c:Option Addr) (i:Int) (h:H) :
 A8 PR A04 C R L5 Tryz.f35 100000 true Bp7 [(0,.pointer c),(1,.int .i64 i)] h =
 nw (.cells D7 false [.int .i64 0,.int .i64 0,.int .i64 0,.int .i64 0]) h fun b w=>bnd (C A44 [.int .i64 i] w) fun r w1=>aAgg r fun x=>bnd (C J8 [.pointer c,.agg ⟨x⟩,.func (.func A47) ⟨[]⟩ ⟨[]⟩] w1) fun r_1 w2=>as2 r_1 fun r_2 r_3=>aAgg r_2 fun x_1=>aInt .i64 r_3 fun x_2=>ck (List.length x_1=4) (pAgg ⟨b,0,none⟩ x_1 w2 fun w3=>gAgg ⟨b,0,none⟩ 4 w3 fun x_3=>some (.tuple ⟨[.agg ⟨x_3⟩,.int .i64 x_2]⟩,w3)):=by kernel_rfl
def Do1:Cuts:={ globs:=0,loops:=[],regs:=[],plans:=[] }
def Et5:List Item:=A7 Tryz.f36
theorem Hc5 (C:A4) (R:A6) (k:Int) (fv0:Addr) (h:H) :
 A8 PR Do1 C R A57 Tryz.f36 100000 true Et5 [(0,.int .i64 k),(1,.pointer (some fv0))] h =
 gPtr fv0 h fun x=>bnd (C S6 [.pointer x,.int .i64 k] h) fun r w=>as2 r fun r_1 r_2=>aAgg r_1 fun x_1=>aInt .i64 r_2 fun x_2=>nw (.cells D3 false [.int .i64 0,.int .i64 0,.int .i64 0,.int .i64 0,.int .u8 0,.int .u8 0,.int .u8 0,.int .u8 0,.int .u8 0,.int .u8 0,.int .u8 0,.int .u8 0,.int .u8 0,.int .u8 0,.int .u8 0,.int .u8 0,.int .u8 0,.int .u8 0,.int .u8 0,.int .u8 0,.int .u8 0,.int .u8 0,.int .u8 0,.int .u8 0,.int .u8 0,.int .u8 0,.int .u8 0,.int .u8 0,.int .u8 0,.int .u8 0,.int .u8 0,.int .u8 0,.int .u8 0,.int .u8 0,.int .u8 0,.int .u8 0]) w fun b w1=>ck (List.length x_1=36) (pAgg ⟨b,0,none⟩ x_1 w1 fun w2=>some (.bool (x_2==0),w2)):=by kernel_rfl
def Dr7:Cuts:={ globs:=0,loops:=[],regs:=[],plans:=[] }
def Er3:List Item:=A7 Tryz.f43
theorem Hb0 (C:A4) (R:A6) (e:Int) (h:H) :
 A8 PR Dr7 C R H9 Tryz.f43 100000 true Er3 [(0,.int .i64 e)] h =
 nw (.cells E4 false [.int .i64 0,.int .i64 0,.slice none 0 0,.bool false]) h fun b w=>pAgg ⟨b,0,none⟩ [.int .i64 0,.int .i64 e,.slice none 0 0,.bool false] w fun w1=>gAgg ⟨b,0,none⟩ 4 w1 fun x=>some (.agg ⟨x⟩,w1):=by kernel_rfl
def D35:Cuts:={ globs:=0,loops:=[],regs:=[],plans:=[(6,⟨[0,1,2,3,4],[0,0,2,7,15],[(2,[0])],[]⟩)] }
def E58:List Item:=A7 Tryz.f49
theorem Hh5 (C:A4) (R:A6) (p:List Value) (n:Int) (h:H) :
 A8 PR D35 C R Db1 Tryz.f49 100000 true E58 [(0,.agg ⟨p⟩),(1,.int .i64 n)] h =
 nw (.cells D3 false p) h fun b w=>nw (.cells D3 false [.int .i64 0,.int .i64 0,.int .i64 0,.int .i64 0,.int .u8 0,.int .u8 0,.int .u8 0,.int .u8 0,.int .u8 0,.int .u8 0,.int .u8 0,.int .u8 0,.int .u8 0,.int .u8 0,.int .u8 0,.int .u8 0,.int .u8 0,.int .u8 0,.int .u8 0,.int .u8 0,.int .u8 0,.int .u8 0,.int .u8 0,.int .u8 0,.int .u8 0,.int .u8 0,.int .u8 0,.int .u8 0,.int .u8 0,.int .u8 0,.int .u8 0,.int .u8 0,.int .u8 0,.int .u8 0,.int .u8 0,.int .u8 0]) w fun b_1 w1=>gAgg ⟨b,0,none⟩ 36 w1 fun x=>bnd (C Al3 [.agg ⟨x⟩] w1) fun r w2=>aSl r fun x_1 xn xc=>ckB (fitsOpen x_1 A5 w2) (ck ((0:Int)≤mm2 false (mm2 true n 0) ((xn:Nat):Int)∧mm2 false (mm2 true n 0) ((xn:Nat):Int)≤((xc:Nat):Int)) (cond (decide ((((Int.toNat (mm2 false (mm2 true n 0) ((xn:Nat):Int)))-0:Nat):Int)>0))
 (gInt .i64 (Addr.add ⟨b,0,none⟩ 0) w2 fun x_2=>pV (Addr.add ⟨b,0,none⟩ 0) (.int .i64 (Int.tmod (IntKind.wrap .i64 (x_2+(((Int.toNat (mm2 false (mm2 true n 0) ((xn:Nat):Int)))-0:Nat):Int))) 32)) w2 fun w3=>gInt .i64 (Addr.add ⟨b,0,none⟩ 1) w3 fun x_3=>pV (Addr.add ⟨b,0,none⟩ 1) (.int .i64 (IntKind.wrap .i64 (x_3-(((Int.toNat (mm2 false (mm2 true n 0) ((xn:Nat):Int)))-0:Nat):Int)))) w3 fun w4=>gAgg ⟨b,0,none⟩ 36 w4 fun x_4=>bnd (C U7 [.slice (H0 x_1 (decide (0<xc)) (0*1)) ((Int.toNat (mm2 false (mm2 true n 0) ((xn:Nat):Int)))-0) (xc-0)] w4) fun r_1 w5=>aSl r_1 fun x_5 xn_1 xc_1=>gAgg ⟨b,0,none⟩ 36 w5 fun x_6=>same (.agg ⟨x_4⟩) (.agg ⟨x_6⟩) (ck (List.length x_4=36) (pAgg ⟨b_1,0,none⟩ x_4 w5 fun w6=>gAgg ⟨b_1,0,none⟩ 36 w6 fun x_7=>some (.tuple ⟨[.agg ⟨x_7⟩,.slice x_5 xn_1 xc_1]⟩,w6))))
 (gAgg ⟨b,0,none⟩ 36 w2 fun x_8=>bnd (C U7 [.slice (H0 x_1 (decide (0<xc)) (0*1)) ((Int.toNat (mm2 false (mm2 true n 0) ((xn:Nat):Int)))-0) (xc-0)] w2) fun r_2 w7=>aSl r_2 fun x_9 xn_2 xc_2=>gAgg ⟨b,0,none⟩ 36 w7 fun x_10=>same (.agg ⟨x_8⟩) (.agg ⟨x_10⟩) (ck (List.length x_8=36) (pAgg ⟨b_1,0,none⟩ x_8 w7 fun w8=>gAgg ⟨b_1,0,none⟩ 36 w8 fun x_11=>some (.tuple ⟨[.agg ⟨x_11⟩,.slice x_9 xn_2 xc_2]⟩,w8)))))):=by kernel_rfl
def D02:Cuts:={ globs:=0,loops:=[],regs:=[],plans:=[] }
def E38:List Item:=A7 Tryz.f56
theorem Hg4 (C:A4) (R:A6) (ok:Bool) (n:Int) (h:H) :
 A8 PR D02 C R Bq6 Tryz.f56 100000 true E38 [(0,.bool ok),(1,.int .i64 n)] h =
 nw (.cells E4 false [.int .i64 0,.int .i64 0,.slice none 0 0,.bool false]) h fun b w=>cond (!ok)
 (bnd (C Ab6 [.int .i64 105] w) fun r w1=>aAgg r fun x=>ck (List.length x=4) (pAgg ⟨b,0,none⟩ x w1 fun w2=>gAgg ⟨b,0,none⟩ 4 w2 fun x_1=>some (.agg ⟨x_1⟩,w2)))
 (pAgg ⟨b,0,none⟩ [.int .i64 n,.int .i64 0,.slice none 0 0,.bool false] w fun w3=>gAgg ⟨b,0,none⟩ 4 w3 fun x_2=>some (.agg ⟨x_2⟩,w3)):=by kernel_rfl
def As1:Cuts:={ globs:=0,loops:=[(4,[1,3,4]),(8,[1,3,5]),(13,[1,3,5,6,7,9])],regs:=[],plans:=[(1,⟨[0,1,2,3,4,5,6],[0,0,2,6,15,31,63],[(3,[0])],[]⟩),(2,⟨[0,1,2,3,4,5,6,7,11,12,13,8,9,10,14,15,16,17,18,19],[0,0,2,6,14,0,32,96,254,510,1022,0,2048,6144,14846,32766,65534,131071,262143,524287],[(8,[12])],[]⟩),(6,⟨[0,1,2,3,4,5,6,7,8,9,10,11,12],[0,0,2,6,14,0,32,96,224,510,1023,2047,4095],[(7,[4])],[]⟩),(11,⟨[0,1,2,3,4,5,6,7,8,9,11,12,15,16,18,19,10,13,14,17,20,21,22,23,24,25],[0,1,3,7,0,16,48,112,0,256,1008,0,2048,8176,16368,0,32768,131056,0,262144,1048575,2097151,4194303,4194303,8388607,33554431],[(10,[3,12,16,19])],[]⟩),(15,⟨[0,1,2,3,4,5,6,7],[0,1,0,4,0,28,60,127],[],[]⟩),(16,⟨[0,1,2,3,4,5,6,7,8,9,10,11,12],[0,1,3,7,15,31,63,0,0,0,512,1792,4095],[],[]⟩)] }
def A46:List Item:=A7 Tryz.f70
def A36:List Item:=stk [0,1,0,1,0,1,0,0,1,4,5] A46
def An1:List Item:=stk [0,1,0,1,0,1,0,1,0,0,1,4,5] A46
def An4:List Item:=stk [0,1,0,1,0,1,0,1,0,0,1,4,5,6,0,1,0,4,0,1,0,1,0,1,4,5] A46
theorem Gq6 (C:A4) (R:A6) (b:List Value) (h:H) :
 A8 PR As1 C R G3 Tryz.f70 100000 true A46 [(0,.agg ⟨b⟩)] h =
 nw (.cells E1 false b) h fun b_1 w=>gAgg ⟨b_1,0,none⟩ 5 w fun x=>gSl (Addr.add ⟨b_1,0,none⟩ 0) w fun x_1 xn xc=>bnd (C Z9 [.slice x_1 xn xc] w) fun r w1=>aPtr r fun x_2=>gAgg ⟨b_1,0,none⟩ 5 w1 fun x_3=>same (.agg ⟨x⟩) (.agg ⟨x_3⟩) (ck (List.length x=5) (nw (.cells E47 false (x++(.pointer x_2::(.pointer none::(.slice none 0 0::[.int .i64 0]))))) w1 fun b_2 w2=>gPtr (Addr.add ⟨b_2,0,none⟩ 5) w2 fun x_4=>gSl (Addr.add ⟨b_1,0,none⟩ 0) w2 fun _ xn_1 _=>gSl (Addr.add ⟨b_1,0,none⟩ 1) w2 fun x_6 xn_2 xc_2=>bnd (C O0 [.pointer x_4,.int .i64 ((xn_1:Nat):Int)] w2) fun r_1 w3=>aInt .i64 r_1 fun x_7=>gSl (Addr.add ⟨b_1,0,none⟩ 1) w3 fun x_8 xn_3 xc_3=>same (.slice x_6 xn_2 xc_2) (.slice x_8 xn_3 xc_3) (ck ((0:Int)≤IntKind.wrap .i64 (64*x_7)∧(IntKind.wrap .i64 (64*x_7):Int)≤IntKind.wrap .i64 (64*x_7)∧IntKind.wrap .i64 (64*x_7)≤(B1:Int)) (nw (.cells A5 false (I7 (Int.toNat (IntKind.wrap .i64 (64*x_7))) [.int .u8 0])) w3 fun b_3 w4=>bnd (C Aa4 [.int .i64 ((xn_2:Nat):Int)] w4) fun r_2 w5=>aPtr r_2 fun x_9=>nw (.cells D80 false [.slice (some ⟨b_3,0,none⟩) (Int.toNat (IntKind.wrap .i64 (64*x_7))) (Int.toNat (IntKind.wrap .i64 (64*x_7))),.slice none 0 0,.slice none 0 0,.pointer x_9]) w5 fun b_4 w6=>pV (Addr.add ⟨b_2,0,none⟩ 6) (.pointer (some ⟨b_4,0,none⟩)) w6 fun w7=>R G3 A36 [(1,.pointer (some ⟨b_1,0,none⟩)),(3,.pointer (some ⟨b_2,0,none⟩)),(4,.int .i64 0)] w7)))):=by kernel_rfl
theorem Di3 (C:A4) (R:A6) (b:Addr) (k:Addr) (i:Int) (h:H) :
 A8 PR As1 C R G3 Tryz.f70 100000 true A36 [(1,.pointer (some b)),(3,.pointer (some k)),(4,.int .i64 i)] h =
 gSl (Addr.add b 2) h fun _ xn _=>cond (decide (i<((xn:Nat):Int)))
 (gSl (Addr.add k 7) h fun x_1 xn_1 xc_1=>gInt .i64 (Addr.add b 3) h fun x_2=>bnd (C Bm9 [.int .i64 x_2] h) fun r w=>aPtr r fun x_3=>gSl (Addr.add k 7) w fun x_4 xn_2 xc_2=>same (.slice x_1 xn_1 xc_1) (.slice x_4 xn_2 xc_2) (nw (.cells Bc2 false [.pointer x_3]) w fun b_1 w1=>gCells (some ⟨b_1,0,none⟩) (1*1) w1 fun cs=>ckB (fitsOpen x_1 Bc2 w1) (apd Bc2 1 x_1 xn_1 xc_1 1 cs w1 fun a an ac w2=>pV (Addr.add k 7) (.slice a an ac) w2 fun w3=>R G3 A36 [(1,.pointer (some b)),(3,.pointer (some k)),(4,.int .i64 (IntKind.wrap .i64 (i+1)))] w3)))
 (R G3 An1 [(1,.pointer (some b)),(3,.pointer (some k)),(5,.int .i64 0)] h):=by kernel_rfl
theorem Di1 (C:A4) (R:A6) (b:Addr) (k:Addr) (i:Int) (h:H) :
 A8 PR As1 C R G3 Tryz.f70 100000 true An1 [(1,.pointer (some b)),(3,.pointer (some k)),(5,.int .i64 i)] h =
 gSl (Addr.add b 4) h fun _ xn _=>cond (decide (i<((xn:Nat):Int)))
 (gSl (Addr.add b 4) h fun x_1 xn_1 _=>aSome x_1 fun p=>ck ((0:Int)≤i∧i<((xn_1:Nat):Int)) (gAgg (Addr.add (B6 p) (Int.toNat i*5)) 5 h fun x_2=>nw (.cells I9 false [.int .i64 0,.int .i64 0,.int .i64 0,.int .i64 0,.slice none 0 0]) h fun b_1 w=>ck (List.length x_2=5) (pAgg ⟨b_1,0,none⟩ x_2 w fun w1=>gPtr (Addr.add k 6) w1 fun x_3=>gPtr (Addr.add k 5) w1 fun x_4=>gInt .i64 (Addr.add ⟨b_1,0,none⟩ 0) w1 fun x_5=>gInt .i64 (Addr.add ⟨b_1,0,none⟩ 1) w1 fun x_6=>gInt .i64 (Addr.add ⟨b_1,0,none⟩ 2) w1 fun x_7=>gInt .i64 (Addr.add ⟨b_1,0,none⟩ 3) w1 fun x_8=>bnd (C O0 [.pointer x_4,.int .i64 x_5] w1) fun r w2=>aInt .i64 r fun x_9=>gPtr (Addr.add k 6) w2 fun x_10=>same (.pointer x_3) (.pointer x_10) (gInt .i64 (Addr.add ⟨b_1,0,none⟩ 1) w2 fun x_11=>same (.int .i64 x_6) (.int .i64 x_11) (gInt .i64 (Addr.add ⟨b_1,0,none⟩ 2) w2 fun x_12=>same (.int .i64 x_7) (.int .i64 x_12) (gInt .i64 (Addr.add ⟨b_1,0,none⟩ 3) w2 fun x_13=>same (.int .i64 x_8) (.int .i64 x_13) (bnd (C Az5 [.pointer x_3,.int .i64 (IntKind.wrap .i64 ((IntKind.wrap .i64 (64*(IntKind.wrap .i64 (x_9+x_6))))+x_7)),.int .i64 x_8] w2) fun r_1 w3=>as2 r_1 fun r_2 r_3=>aInt .i64 r_2 fun x_14=>aInt .i64 r_3 fun _=>R G3 An4 [(1,.pointer (some b)),(3,.pointer (some k)),(5,.int .i64 i),(6,.pointer (some ⟨b_1,0,none⟩)),(7,.int .i64 x_14),(9,.int .i64 0)] w3)))))))
 (some (.pointer (some k),h)):=by kernel_rfl
theorem Di6 (C:A4) (R:A6) (b:Addr) (k:Addr) (i:Int) (s:Addr) (obj:Int) (e:Int) (h:H) :
 A8 PR As1 C R G3 Tryz.f70 100000 true An4 [(1,.pointer (some b)),(3,.pointer (some k)),(5,.int .i64 i),(6,.pointer (some s)),(7,.int .i64 obj),(9,.int .i64 e)] h =
 gSl (Addr.add b 1) h fun _ xn _=>cond (decide (e<((xn:Nat):Int)))
 (gSl (Addr.add s 4) h fun x_1 xn_1 xc_1=>gSl (Addr.add b 1) h fun x_2 xn_2 _=>aSome x_2 fun p=>ck ((0:Int)≤e∧e<((xn_2:Nat):Int)) (gInt .i64 (Addr.add (B6 p) (Int.toNat e*1)) h fun x_3=>bnd (C A74 [.slice x_1 xn_1 xc_1,.int .i64 x_3] h) fun r w=>aBool r fun x_4=>cond x_4
 (gPtr (Addr.add k 6) w fun x_5=>aSome x_5 fun p_1=>gPtr (Addr.add p_1 3) w fun x_6=>gInt .i64 (Addr.add s 3) w fun x_7=>bnd (C A92 [.pointer x_6,.int .i64 e,.agg ⟨[.int .i64 obj,.int .i64 3,.int .i64 0,.int .i64 x_7,.int .i64 0,.int .i64 0]⟩] w) fun r_1 w1=>as2 r_1 fun r_2 r_3=>aInt .i64 r_2 fun _=>aInt .i64 r_3 fun _=>R G3 An4 [(1,.pointer (some b)),(3,.pointer (some k)),(5,.int .i64 i),(6,.pointer (some s)),(7,.int .i64 obj),(9,.int .i64 (IntKind.wrap .i64 (e+1)))] w1)
 (R G3 An4 [(1,.pointer (some b)),(3,.pointer (some k)),(5,.int .i64 i),(6,.pointer (some s)),(7,.int .i64 obj),(9,.int .i64 (IntKind.wrap .i64 (e+1)))] w)))
 (R G3 An1 [(1,.pointer (some b)),(3,.pointer (some k)),(5,.int .i64 (IntKind.wrap .i64 (i+1)))] h):=by kernel_rfl
def Dg4:Cuts:={ globs:=0,loops:=[],regs:=[],plans:=[] }
def Ek8:List Item:=A7 Tryz.f71
theorem Gz9 (C:A4) (R:A6) (k:Option Addr) (env:Int) (h:H) :
 A8 PR Dg4 C R Bs6 Tryz.f71 100000 true Ek8 [(0,.pointer k),(1,.int .i64 env)] h =
 bnd (cond k.isNone (some (true,h)) (bnd (C An2 [.pointer k] h) fun r w=>aPtr r fun x=>bnd (C Al0 [.pointer x,.int .i64 env] w) fun r_1 w1=>aSl r_1 fun _ xn _=>some (((xn:Nat):Int)==0,w1))) fun c w2=>cond c
 (some (.tuple ⟨[.pointer none,.int .i64 1]⟩,w2))
 (bnd (C An2 [.pointer k] w2) fun r_2 w3=>aPtr r_2 fun x_2=>bnd (C Al0 [.pointer x_2,.int .i64 env] w3) fun r_3 w4=>aSl r_3 fun x_3 xn_1 xc_1=>nw (.map [] 0) w4 fun b w5=>nw (.cells Di2 false [.pointer k,.int .i64 env,.slice x_3 xn_1 xc_1,.map (some b)]) w5 fun b_1 w6=>some (.tuple ⟨[.pointer (some ⟨b_1,0,none⟩),.int .i64 0]⟩,w6)):=by kernel_rfl
def Bj1:Cuts:={ globs:=0,loops:=[],regs:=[],plans:=[] }
def De6:List Item:=A7 Tryz.f86
theorem Ev7 (C:A4) (R:A6) (g:Int) (h:H) :
 A8 PR Bj1 C R Ax8 Tryz.f86 100000 true De6 [(0,.int .i64 g)] h =
 nw (.cells A5 false [.int .u8 (IntKind.wrap .u8 (g)),.int .u8 211]) h fun b w=>gCells (some ⟨b,0,none⟩) 2 w fun cs=>asBytes cs fun l=>bnd (C Af9 [.string (ByteArray.mk ⟨l⟩)] w) fun r w1=>aInt .u8 r fun x=>nw (.cells A5 false [.int .u8 x,.int .u8 0]) w1 fun b_1 w2=>gCells (some ⟨b_1,0,none⟩) 2 w2 fun cs_1=>asBytes cs_1 fun l_1=>ck (ByteArray.size (ByteArray.mk ⟨l⟩)+ByteArray.size (ByteArray.mk ⟨l_1⟩)≤B1) (some (.string ((ByteArray.mk ⟨l⟩)++(ByteArray.mk ⟨l_1⟩)),w2)):=by kernel_rfl
def Av6:Cuts:={ globs:=0,loops:=[],regs:=[],plans:=[(2,⟨[0,1,2,3,4,5,6,7,8,9,10,11,12,13,14],[0,1,3,7,15,31,63,127,255,511,1023,127,4095,8191,16383],[],[]⟩),(4,⟨[0,1,2,3,4,5,6,7,8,9,10,11,12,13,14,15,16,17],[0,1,3,7,0,16,48,112,0,256,0,1024,0,7936,16383,32767,65535,131071],[],[]⟩)] }
def Bn2:List Item:=A7 Tryz.f96
theorem Dv6 (C:A4) (R:A6) (c:Option Addr) (r:List Value) (b:Option Addr) (bn bc:Nat) (ok:Bool) (h:H) :
 A8 PR Av6 C R H6 Tryz.f96 100000 true Bn2 [(0,.pointer c),(1,.agg ⟨r⟩),(2,.slice b bn bc),(3,.bool ok)] h =
 nw (.cells E2 false r) h fun b_1 w=>gAgg ⟨b_1,0,none⟩ 2 w fun x=>bnd (C Z3 [.pointer c,.agg ⟨x⟩] w) fun r_1 w1=>as2 r_1 fun r_2 r_3=>aAgg r_2 fun x_1=>aBool r_3 fun x_2=>nw (.cells B13 false [.int .i64 0,.int .i64 0,.int .i64 0]) w1 fun b_2 w2=>ck (List.length x_1=3) (pAgg ⟨b_2,0,none⟩ x_1 w2 fun w3=>bnd (cond (!x_2) (some (true,w3)) (some (!ok,w3))) fun c_1 w4=>bnd (cond c_1 (some (true,w4)) (aSome c fun p=>gMap (Addr.add p 3) w4 fun x_3=>gAgg ⟨b_1,0,none⟩ 2 w4 fun x_4=>keyN PR E2 (.agg ⟨x_4⟩) (opt x_3 fun r_4=>mapAt w4 r_4 fun es _=>opt (Am0 (.int .i64 0) (.agg ⟨x_4⟩) es) fun f=>aInt .i64 f.1 fun x_5=>some (decide (x_5>0),w4)))) fun c_2 w5=>cond c_2
 (some (.bool false,w5))
 (aSome c fun p_1=>gPtr (Addr.add p_1 0) w5 fun x_6=>aSome c fun p_2=>gInt .i64 (Addr.add p_2 1) w5 fun x_7=>gInt .i64 (Addr.add ⟨b_2,0,none⟩ 0) w5 fun x_8=>gInt .i64 (Addr.add ⟨b_2,0,none⟩ 1) w5 fun x_9=>bnd (C S5 [.pointer x_6,.int .i64 x_7,.agg ⟨[.int .i64 2,.int .i64 x_8,.int .i64 x_9,.int .i64 0,.int .i64 0,.int .i64 0,.slice b bn bc]⟩] w5) fun r_5 w6=>aAgg r_5 fun x_10=>nth x_10 0 fun E=>aInt .i64 E fun E_1=>some (.bool (E_1==0),w6))):=by kernel_rfl
def B79:Cuts:={ globs:=0,loops:=[],regs:=[],plans:=[(1,⟨[1,0,2,3,4,5,6],[0,0,3,7,7,31,63],[(0,[1])],[]⟩)] }
def D83:List Item:=A7 Tryz.f97
theorem Gm6 (C:A4) (R:A6) (f:List Value) (h:H) :
 A8 PR B79 C R A43 Tryz.f97 100000 true D83 [(0,.agg ⟨f⟩)] h =
 nw (.cells D7 false f) h fun b w=>gAgg ⟨b,0,none⟩ 4 w fun x=>bnd (C Bb8 [] w) fun r w1=>aPtr r fun x_1=>gAgg ⟨b,0,none⟩ 4 w1 fun x_2=>same (.agg ⟨x⟩) (.agg ⟨x_2⟩) (bnd (C V7 [.pointer x_1,.agg ⟨x⟩] w1) fun r_1 w2=>as2 r_1 fun r_2 r_3=>aSl r_2 fun x_3 xn xc=>aBool r_3 fun x_4=>some (.tuple ⟨[.slice x_3 xn xc,.bool x_4]⟩,w2)):=by kernel_rfl
def B78:Cuts:={ globs:=0,loops:=[],regs:=[],plans:=[] }
def D61:List Item:=A7 Tryz.f99
theorem Gm7 (C:A4) (R:A6) (i:Int) (h:H) :
 A8 PR B78 C R A55 Tryz.f99 100000 true D61 [(0,.int .i64 i)] h =
 nw (.cells E2 false [.int .i64 0,.int .i64 0]) h fun b w=>pAgg ⟨b,0,none⟩ [.int .i64 1,.int .i64 i] w fun w1=>gAgg ⟨b,0,none⟩ 2 w1 fun x=>some (.agg ⟨x⟩,w1):=by kernel_rfl
def Du0:Cuts:={ globs:=0,loops:=[],regs:=[],plans:=[] }
def Em7:List Item:=A7 Tryz.f100
theorem G70 (C:A4) (R:A6) (p:List Value) (fv0:Addr) (fv1:Addr) (h:H) :
 A8 PR Du0 C R A73 Tryz.f100 100000 true Em7 [(0,.agg ⟨p⟩),(1,.pointer (some fv0)),(2,.pointer (some fv1))] h =
 nw (.cells D3 false p) h fun b w=>gPtr fv0 w fun x=>gInt .i64 (Addr.add fv1 1) w fun x_1=>gAgg ⟨b,0,none⟩ 36 w fun x_2=>bnd (C U9 [.pointer x,.int .i64 x_1,.agg ⟨x_2⟩] w) fun r w1=>aBool r fun x_3=>some (.bool x_3,w1):=by kernel_rfl
def By3:Cuts:={ globs:=0,loops:=[(3,[0,1,5,10])],regs:=[],plans:=[] }
def Dr2:List Item:=A7 Tryz.f112
def Ay0:List Item:=stk [0,1,0,1,0,0,1,4,5] Dr2
theorem Hd2 (C:A4) (R:A6) (c:Option Addr) (of:Value) (h:H) :
 A8 PR By3 C R Ae7 Tryz.f112 100000 true Dr2 [(0,.pointer c),(1,of)] h =
 R Ae7 Ay0 [(0,.pointer c),(1,of),(5,.slice none 0 0),(10,.int .i64 0)] h:=by kernel_rfl
theorem Dw6 (C:A4) (R:A6) (c:Option Addr) (of:Value) (out:Option Addr) (outn outc:Nat) (x10:Int) (h:H) :
 A8 PR By3 C R Ae7 Tryz.f112 100000 true Ay0 [(0,.pointer c),(1,of),(5,.slice out outn outc),(10,.int .i64 x10)] h =
 cond (decide (x10<8))
 (bnd (C L7 [.pointer c,.int .i64 x10] h) fun r w=>as2 r fun r_1 r_2=>aAgg r_1 fun x=>aInt .i64 r_2 fun x_1=>nw (.cells D0 false [.int .i64 0,.int .i64 0,.int .i64 0,.int .i64 0,.int .i64 0,.int .i64 0,.int .i64 0,.int .i64 0,.int .i64 0,.int .i64 0,.int .i64 0,.int .i64 0,.int .i64 0,.int .i64 0,.int .i64 0,.int .i64 0]) w fun b w1=>ck (List.length x=16) (pAgg ⟨b,0,none⟩ x w1 fun w2=>gAgg ⟨b,0,none⟩ 16 w2 fun x_2=>ck (List.length x_2=16) (nw (.cells Ae4 false [.int .i64 0,.int .i64 0,.int .i64 0,.int .i64 0,.int .i64 0,.int .i64 0,.int .i64 0,.int .i64 0,.int .i64 0,.int .i64 0,.int .i64 0,.int .i64 0,.int .i64 0,.int .i64 0,.int .i64 0,.int .i64 0,.int .i64 0]) w2 fun b_1 w3=>ck (List.length (.int .i64 x10::(x_2++[]))=17) (pAgg ⟨b_1,0,none⟩ (.int .i64 x10::(x_2++[])) w3 fun w4=>bnd (cond (x_1==1) (gAgg ⟨b_1,0,none⟩ 17 w4 fun x_3=>aFn of fun g fi cp=>bnd (C g (fi++([.agg ⟨x_3⟩]++cp)) w4) fun r_3 w5=>aBool r_3 fun x_4=>some (x_4,w5)) (some (false,w4))) fun c_1 w6=>cond c_1
 (gAgg ⟨b_1,0,none⟩ 17 w6 fun x_5=>ck (List.length x_5=17) (nw (.cells Ae4 false (x_5++[])) w6 fun b_2 w7=>gCells (some ⟨b_2,0,none⟩) (1*17) w7 fun cs=>ckB (fitsOpen out Ae4 w7) (apd Ae4 17 out outn outc 1 cs w7 fun a an ac w8=>R Ae7 Ay0 [(0,.pointer c),(1,of),(5,.slice a an ac),(10,.int .i64 (IntKind.wrap .i64 (x10+1)))] w8)))
 (R Ae7 Ay0 [(0,.pointer c),(1,of),(5,.slice out outn outc),(10,.int .i64 (IntKind.wrap .i64 (x10+1)))] w6)))))
 (some (.slice out outn outc,h)):=by kernel_rfl
def Bo3:Cuts:={ globs:=0,loops:=[],regs:=[],plans:=[] }
def Dh6:List Item:=A7 Tryz.f116
theorem E10 (C:A4) (R:A6) (b:Option Addr) (bn bc:Nat) (h:H) :
 A8 PR Bo3 C R Am8 Tryz.f116 100000 true Dh6 [(0,.slice b bn bc)] h =
 cond (((bn:Nat):Int) != 4)
 (some (.tuple ⟨[.int .i64 0,.int .i64 2]⟩,h))
 (aSome b fun p=>ck ((0:Int)≤0∧0<((bn:Nat):Int)) (gInt .u8 (Addr.add (B6 p) (Int.toNat 0*1)) h fun x=>bnd (C Af2 [.int .i64 (IntKind.wrap .i64 (x))] h) fun r w=>as2 r fun r_1 r_2=>aSl r_1 fun x_1 xn _=>aBool r_2 fun x_2=>bnd (cond (!x_2) (some (true,w)) (gCells x_1 xn w fun cs=>asBytes cs fun l=>gCells b bn w fun cs_1=>asBytes cs_1 fun l_1=>some (!((ByteArray.mk ⟨l⟩).toList==(ByteArray.mk ⟨l_1⟩).toList),w))) fun c w1=>cond c
 (some (.tuple ⟨[.int .i64 0,.int .i64 2]⟩,w1))
 (aSome b fun p_1=>ck ((0:Int)≤0∧0<((bn:Nat):Int)) (gInt .u8 (Addr.add (B6 p_1) (Int.toNat 0*1)) w1 fun x_3=>some (.tuple ⟨[.int .i64 (IntKind.wrap .i64 (x_3)),.int .i64 1]⟩,w1))))):=by kernel_rfl
def Er9:Cuts:={ globs:=0,loops:=[],regs:=[],plans:=[] }
def Gu1:List Item:=A7 Tryz.f121
theorem H58 (C:A4) (R:A6) (frames:Int) (h:H) :
 A8 PR Er9 C R Dy5 Tryz.f121 100000 true Gu1 [(0,.int .i64 frames)] h =
 ck ((0:Int)≤IntKind.wrap .i64 (64*(mm2 false (mm2 true frames 0) 256))∧(IntKind.wrap .i64 (64*(mm2 false (mm2 true frames 0) 256)):Int)≤IntKind.wrap .i64 (64*(mm2 false (mm2 true frames 0) 256))∧IntKind.wrap .i64 (64*(mm2 false (mm2 true frames 0) 256))≤(B1:Int)) (nw (.cells A5 false (I7 (Int.toNat (IntKind.wrap .i64 (64*(mm2 false (mm2 true frames 0) 256)))) [.int .u8 0])) h fun b w=>nw (.cells Es2 false [.slice (some ⟨b,0,none⟩) (Int.toNat (IntKind.wrap .i64 (64*(mm2 false (mm2 true frames 0) 256)))) (Int.toNat (IntKind.wrap .i64 (64*(mm2 false (mm2 true frames 0) 256))))]) w fun b_1 w1=>some (.pointer (some ⟨b_1,0,none⟩),w1)):=by kernel_rfl
def Eg4:Cuts:={ globs:=0,loops:=[],regs:=[],plans:=[] }
def Gg2:List Item:=A7 Tryz.f125
theorem Hy2 (C:A4) (R:A6) (lease:Int) (h:H) :
 A8 PR Eg4 C R Dm2 Tryz.f125 100000 true Gg2 [(0,.int .i64 lease)] h =
 nw (.cells E53 false [.int .i64 (mm2 false (mm2 true lease 1) 1000),.bool false,.int .i64 0,.int .i64 0,.int .i64 0,.slice none 0 0,.int .i64 0,.int .i64 0,.int .i64 0]) h fun b w=>some (.pointer (some ⟨b,0,none⟩),w):=by kernel_rfl
def Bv0:Cuts:={ globs:=0,loops:=[],regs:=[],plans:=[] }
def Dr6:List Item:=A7 Tryz.f128
theorem Ga0 (C:A4) (R:A6) (s:Option Addr) (env:Int) (c:List Value) (h:H) :
 A8 PR Bv0 C R A91 Tryz.f128 100000 true Dr6 [(0,.pointer s),(1,.int .i64 env),(2,.agg ⟨c⟩)] h =
 nw (.cells P4 false c) h fun b w=>bnd (C Af4 [.pointer s,.int .i64 env] w) fun r w1=>aBool r fun x=>bnd (cond (!x) (some (true,w1)) (gInt .i64 (Addr.add ⟨b,0,none⟩ 1) w1 fun x_1=>some ((En0 .i64 x_1 7) != 0,w1))) fun c_1 w2=>bnd (cond c_1 (some (true,w2)) (gInt .i64 (Addr.add ⟨b,0,none⟩ 2) w2 fun x_2=>bnd (C Ak8 [.int .i64 x_2] w2) fun r_1 w3=>aBool r_1 fun x_3=>some (!x_3,w3))) fun c_2 w4=>bnd (cond c_2 (some (true,w4)) (gInt .i64 (Addr.add ⟨b,0,none⟩ 3) w4 fun x_4=>bnd (C Ak8 [.int .i64 x_4] w4) fun r_2 w5=>aBool r_2 fun x_5=>some (!x_5,w5))) fun c_3 w6=>cond c_3
 (some (.tuple ⟨[.int .i64 0,.int .i64 1]⟩,w6))
 (pAgg (Addr.add ⟨b,0,none⟩ 4) [.int .i64 0,.int .i64 0] w6 fun w7=>gAgg ⟨b,0,none⟩ 6 w7 fun x_6=>bnd (C Au1 [.pointer s,.int .i64 env,.agg ⟨x_6⟩] w7) fun r_3 w8=>as2 r_3 fun r_4 r_5=>aInt .i64 r_4 fun x_7=>aInt .i64 r_5 fun x_8=>some (.tuple ⟨[.int .i64 x_7,.int .i64 x_8]⟩,w8)):=by kernel_rfl
def Ax3:Cuts:={ globs:=0,loops:=[(3,[0,1,5,6])],regs:=[],plans:=[] }
def Bk4:List Item:=A7 Tryz.f130
def Al7:List Item:=stk [0,1,0,1,0,0,1,4,5] Bk4
theorem Es8 (C:A4) (R:A6) (q:Option Addr) (s:Int) (h:H) :
 A8 PR Ax3 C R O0 Tryz.f130 100000 true Bk4 [(0,.pointer q),(1,.int .i64 s)] h =
 R O0 Al7 [(0,.pointer q),(1,.int .i64 s),(5,.int .i64 0),(6,.int .i64 0)] h:=by kernel_rfl
theorem Bx3 (C:A4) (R:A6) (q:Option Addr) (s:Int) (n:Int) (i:Int) (h:H) :
 A8 PR Ax3 C R O0 Tryz.f130 100000 true Al7 [(0,.pointer q),(1,.int .i64 s),(5,.int .i64 n),(6,.int .i64 i)] h =
 cond (decide (i<s))
 (aSome q fun p=>gSl (Addr.add p 0) h fun x xn _=>aSome x fun p_1=>ck ((0:Int)≤i∧i<((xn:Nat):Int)) (gSl (Addr.add (B6 p_1) (Int.toNat i*1)) h fun _ xn_1 _=>R O0 Al7 [(0,.pointer q),(1,.int .i64 s),(5,.int .i64 (IntKind.wrap .i64 (n+((xn_1:Nat):Int)))),(6,.int .i64 (IntKind.wrap .i64 (i+1)))] h))
 (some (.int .i64 n,h)):=by kernel_rfl
def Bh5:Cuts:={ globs:=0,loops:=[],regs:=[],plans:=[] }
def Dd7:List Item:=A7 Tryz.f137
theorem Eu5 (C:A4) (R:A6) (s:Option Addr) (env:Int) (h:H) :
 A8 PR Bh5 C R Al0 Tryz.f137 100000 true Dd7 [(0,.pointer s),(1,.int .i64 env)] h =
 bnd (C Af4 [.pointer s,.int .i64 env] h) fun r w=>aBool r fun x=>cond (!x)
 (some (.slice none 0 0,w))
 (aSome s fun p=>gSl (Addr.add p 0) w fun x_1 xn _=>aSome x_1 fun p_1=>ck ((0:Int)≤env∧env<((xn:Nat):Int)) (gPtr (Addr.add (B6 p_1) (Int.toNat env*1)) w fun x_2=>bnd (C G1 [.pointer x_2] w) fun r_1 w1=>aSl r_1 fun x_3 xn_1 xc_1=>some (.slice x_3 xn_1 xc_1,w1))):=by kernel_rfl
def A53:Cuts:={ globs:=0,loops:=[],regs:=[],plans:=[] }
def By1:List Item:=A7 Tryz.f141
theorem D60 (C:A4) (R:A6) (r:Option Addr) (env:Int) (fromv:Int) (atv:Int) (to:Int) (on:Int) (n:Int) (h:H) :
 A8 PR A53 C R Al5 Tryz.f141 100000 true By1 [(0,.pointer r),(1,.int .i64 env),(2,.int .i64 fromv),(3,.int .i64 atv),(4,.int .i64 to),(5,.int .i64 on),(6,.int .i64 n)] h =
 bnd (C Ac7 [.pointer r,.int .i64 env,.int .i64 fromv,.int .i64 atv,.int .i64 n] h) fun r_1 w=>as2 r_1 fun r_2 r_3=>aSl r_2 fun x xn xc=>aInt .i64 r_3 fun x_1=>cond (x_1 != 0)
 (some (.int .i64 x_1,w))
 (bnd (C Aa9 [.pointer r,.int .i64 env,.int .i64 to,.int .i64 on,.slice x xn xc] w) fun r_4 w1=>aInt .i64 r_4 fun x_2=>some (.int .i64 x_2,w1)):=by kernel_rfl
def A95:Cuts:={ globs:=0,loops:=[],regs:=[],plans:=[(6,⟨[0,1,2,3,4,5,6,7,8,9,10,11,12,13,14,15,16,17,18,19,20,21],[0,0,0,4,15,31,63,127,255,511,1023,2047,4095,8191,4095,20479,53247,118783,249855,524287,1048575,2097151],[],[]⟩),(8,⟨[0,1,2,3,4,5,6,7,8,9,10,11,12,13,14,15,16,17,18,19,20,21,22,23,24,25,26,27,28,29,30],[0,1,0,0,8,24,56,0,128,504,1016,2047,4095,8191,16383,32767,16383,131071,16383,16383,540671,1589247,3686399,16383,8404991,33046527,66600959,134217727,268435455,536870911,1073741823],[],[]⟩),(10,⟨[0,1,2,3,4,5,6,7,8,9,10,11,12,13,14],[0,1,3,7,0,16,63,127,0,256,1023,0,4095,8191,16383],[],[]⟩)] }
def By7:List Item:=A7 Tryz.f148
theorem D97 (C:A4) (R:A6) (r:Option Addr) (e:Int) (name:Int) (right:Int) (atv:Int) (n:Int) (h:H) :
 A8 PR A95 C R Ao9 Tryz.f148 100000 true By7 [(0,.pointer r),(1,.int .i64 e),(2,.int .i64 name),(3,.int .i64 right),(4,.int .i64 atv),(5,.int .i64 n)] h =
 aSome r fun p=>gPtr (Addr.add p 3) h fun x=>bnd (C A77 [.pointer x,.int .i64 e,.int .i64 name] h) fun r_1 w=>as2 r_1 fun r_2 r_3=>aAgg r_2 fun x_1=>aInt .i64 r_3 fun x_2=>nw (.cells P4 false [.int .i64 0,.int .i64 0,.int .i64 0,.int .i64 0,.int .i64 0,.int .i64 0]) w fun b w1=>ck (List.length x_1=6) (pAgg ⟨b,0,none⟩ x_1 w1 fun w2=>cond (x_2 != 0)
 (some (.tuple ⟨[.int .i64 0,.int .i64 x_2]⟩,w2))
 (gInt .i64 (Addr.add ⟨b,0,none⟩ 1) w2 fun x_3=>cond ((M7 .i64 x_3 right)==0)
 (some (.tuple ⟨[.int .i64 0,.int .i64 3]⟩,w2))
 (gInt .i64 (Addr.add ⟨b,0,none⟩ 3) w2 fun x_4=>bnd (C Ag7 [.int .i64 atv,.int .i64 n,.int .i64 x_4] w2) fun r_4 w3=>aBool r_4 fun x_5=>bnd (cond (!x_5) (some (true,w3)) (gInt .i64 (Addr.add ⟨b,0,none⟩ 0) w3 fun x_6=>some (decide (x_6<0),w3))) fun c w4=>bnd (cond c (some (true,w4)) (gInt .i64 (Addr.add ⟨b,0,none⟩ 0) w4 fun x_7=>aSome r fun p_1=>gSl (Addr.add p_1 1) w4 fun _ xn _=>some (decide (x_7≥((xn:Nat):Int)),w4))) fun c_1 w5=>cond c_1
 (some (.tuple ⟨[.int .i64 0,.int .i64 1]⟩,w5))
 (gInt .i64 (Addr.add ⟨b,0,none⟩ 2) w5 fun x_9=>aSome r fun p_2=>gSl (Addr.add p_2 2) w5 fun x_10 xn_1 _=>gInt .i64 (Addr.add ⟨b,0,none⟩ 0) w5 fun x_11=>aSome x_10 fun p_3=>ck ((0:Int)≤x_11∧x_11<((xn_1:Nat):Int)) (gInt .i64 (Addr.add (B6 p_3) (Int.toNat x_11*1)) w5 fun x_12=>bnd (C Ag7 [.int .i64 x_9,.int .i64 atv,.int .i64 x_12] w5) fun r_5 w6=>aBool r_5 fun x_13=>bnd (cond (!x_13) (some (true,w6)) (gInt .i64 (Addr.add ⟨b,0,none⟩ 2) w6 fun x_14=>aSome r fun p_4=>gSl (Addr.add p_4 2) w6 fun x_15 xn_2 _=>gInt .i64 (Addr.add ⟨b,0,none⟩ 0) w6 fun x_16=>aSome x_15 fun p_5=>ck ((0:Int)≤x_16∧x_16<((xn_2:Nat):Int)) (gInt .i64 (Addr.add (B6 p_5) (Int.toNat x_16*1)) w6 fun x_17=>bnd (C Ag7 [.int .i64 (IntKind.wrap .i64 (x_14+atv)),.int .i64 n,.int .i64 x_17] w6) fun r_6 w7=>aBool r_6 fun x_18=>some (!x_18,w7)))) fun c_2 w8=>cond c_2
 (some (.tuple ⟨[.int .i64 0,.int .i64 1]⟩,w8))
 (aSome r fun p_6=>gSl (Addr.add p_6 1) w8 fun x_19 xn_3 _=>gInt .i64 (Addr.add ⟨b,0,none⟩ 0) w8 fun x_20=>aSome x_19 fun p_7=>ck ((0:Int)≤x_20∧x_20<((xn_3:Nat):Int)) (gInt .i64 (Addr.add (B6 p_7) (Int.toNat x_20*1)) w8 fun x_21=>gInt .i64 (Addr.add ⟨b,0,none⟩ 2) w8 fun x_22=>some (.tuple ⟨[.int .i64 (IntKind.wrap .i64 ((IntKind.wrap .i64 (x_21+x_22))+atv)),.int .i64 0]⟩,w8)))))))):=by kernel_rfl
def Bv9:Cuts:={ globs:=0,loops:=[],regs:=[],plans:=[] }
def Do4:List Item:=A7 Tryz.f149
theorem Ga4 (C:A4) (R:A6) (s:Option Addr) (e:Int) (name:Int) (h:H) :
 A8 PR Bv9 C R A77 Tryz.f149 100000 true Do4 [(0,.pointer s),(1,.int .i64 e),(2,.int .i64 name)] h =
 nw (.cells P4 false [.int .i64 0,.int .i64 0,.int .i64 0,.int .i64 0,.int .i64 0,.int .i64 0]) h fun b w=>bnd (C Aj6 [.pointer s,.int .i64 e] w) fun r w1=>aBool r fun x=>bnd (cond (!x) (some (true,w1)) (aSome s fun p=>gSl (Addr.add p 0) w1 fun x_1 xn _=>aSome x_1 fun p_1=>ck ((0:Int)≤e∧e<((xn:Nat):Int)) (gPtr (Addr.add (B6 p_1) (Int.toNat e*1)) w1 fun x_2=>bnd (C A82 [.pointer x_2,.int .i64 name] w1) fun r_1 w2=>aBool r_1 fun x_3=>some (!x_3,w2)))) fun c w3=>cond c
 (pAgg ⟨b,0,none⟩ [.int .i64 0,.int .i64 0,.int .i64 0,.int .i64 0,.int .i64 0,.int .i64 0] w3 fun w4=>gAgg ⟨b,0,none⟩ 6 w4 fun x_4=>some (.tuple ⟨[.agg ⟨x_4⟩,.int .i64 2]⟩,w4))
 (aSome s fun p_2=>gSl (Addr.add p_2 1) w3 fun x_5 xn_1 _=>aSome x_5 fun p_3=>ck ((0:Int)≤e∧e<((xn_1:Nat):Int)) (gSl (Addr.add (B6 p_3) (Int.toNat e*1)) w3 fun x_6 xn_2 _=>aSome x_6 fun p_4=>ck ((0:Int)≤M7 .i64 name 255∧M7 .i64 name 255<((xn_2:Nat):Int)) (gAgg (Addr.add (B6 p_4) (Int.toNat (M7 .i64 name 255)*6)) 6 w3 fun x_7=>ck (List.length x_7=6) (pAgg ⟨b,0,none⟩ x_7 w3 fun w5=>gAgg ⟨b,0,none⟩ 6 w5 fun x_8=>some (.tuple ⟨[.agg ⟨x_8⟩,.int .i64 0]⟩,w5))))):=by kernel_rfl
def Bv5:Cuts:={ globs:=0,loops:=[],regs:=[],plans:=[] }
def Dq8:List Item:=A7 Tryz.f150
theorem Gb4 (C:A4) (R:A6) (s:Option Addr) (e:Int) (h:H) :
 A8 PR Bv5 C R Aj6 Tryz.f150 100000 true Dq8 [(0,.pointer s),(1,.int .i64 e)] h =
 bnd (cond (decide (e≥0)) (aSome s fun p=>gSl (Addr.add p 0) h fun _ xn _=>some (decide (e<((xn:Nat):Int)),h)) (some (false,h))) fun c w=>some (.bool c,w):=by kernel_rfl
def Ah1:Cuts:={ globs:=0,loops:=[],regs:=[],plans:=[(4,⟨[0,1,2,3,4,10,5,6,7,8,9,11,12],[0,1,3,7,0,16,63,127,255,255,0,1535,4095],[(5,[3])],[]⟩)] }
def A20:List Item:=A7 Tryz.f164
theorem B49 (C:A4) (R:A6) (c:Option Addr) (b:Option Addr) (bn bc:Nat) (h:H) :
 A8 PR Ah1 C R V3 Tryz.f164 100000 true A20 [(0,.pointer c),(1,.slice b bn bc)] h =
 nw (.cells D3 false [.int .i64 0,.int .i64 0,.int .i64 0,.int .i64 0,.int .u8 0,.int .u8 0,.int .u8 0,.int .u8 0,.int .u8 0,.int .u8 0,.int .u8 0,.int .u8 0,.int .u8 0,.int .u8 0,.int .u8 0,.int .u8 0,.int .u8 0,.int .u8 0,.int .u8 0,.int .u8 0,.int .u8 0,.int .u8 0,.int .u8 0,.int .u8 0,.int .u8 0,.int .u8 0,.int .u8 0,.int .u8 0,.int .u8 0,.int .u8 0,.int .u8 0,.int .u8 0,.int .u8 0,.int .u8 0,.int .u8 0,.int .u8 0]) h fun b_1 w=>nw (.cells D3 false [.int .i64 0,.int .i64 0,.int .i64 0,.int .i64 0,.int .u8 0,.int .u8 0,.int .u8 0,.int .u8 0,.int .u8 0,.int .u8 0,.int .u8 0,.int .u8 0,.int .u8 0,.int .u8 0,.int .u8 0,.int .u8 0,.int .u8 0,.int .u8 0,.int .u8 0,.int .u8 0,.int .u8 0,.int .u8 0,.int .u8 0,.int .u8 0,.int .u8 0,.int .u8 0,.int .u8 0,.int .u8 0,.int .u8 0,.int .u8 0,.int .u8 0,.int .u8 0,.int .u8 0,.int .u8 0,.int .u8 0,.int .u8 0]) w fun b_2 w1=>aSome c fun p=>gFv (Addr.add p 2) w1 fun x=>isNilF x fun b_3=>bnd (cond b_3 (some (true,w1)) (aSome c fun p_1=>gInt .i64 (Addr.add p_1 0) w1 fun x_1=>some (((bn:Nat):Int) != x_1,w1))) fun c_1 w2=>cond c_1
 (gAgg ⟨b_2,0,none⟩ 36 w2 fun x_2=>ck (List.length x_2=36) (pAgg ⟨b_1,0,none⟩ x_2 w2 fun w3=>gAgg ⟨b_1,0,none⟩ 36 w3 fun x_3=>some (.tuple ⟨[.agg ⟨x_3⟩,.bool false]⟩,w3)))
 (aSome c fun p_2=>gFv (Addr.add p_2 2) w2 fun x_4=>nw (.cells D3 false [.int .i64 0,.int .i64 0,.int .i64 0,.int .i64 0,.int .u8 0,.int .u8 0,.int .u8 0,.int .u8 0,.int .u8 0,.int .u8 0,.int .u8 0,.int .u8 0,.int .u8 0,.int .u8 0,.int .u8 0,.int .u8 0,.int .u8 0,.int .u8 0,.int .u8 0,.int .u8 0,.int .u8 0,.int .u8 0,.int .u8 0,.int .u8 0,.int .u8 0,.int .u8 0,.int .u8 0,.int .u8 0,.int .u8 0,.int .u8 0,.int .u8 0,.int .u8 0,.int .u8 0,.int .u8 0,.int .u8 0,.int .u8 0]) w2 fun b_4 w4=>bnd (C G6 [.slice b bn bc] w4) fun r w5=>aSl r fun x_5 xn xc=>gFv (Addr.add p_2 2) w5 fun x_6=>Bm4 (x_4) (x_6) (aFn x_4 fun g fi cp=>bnd (C g (fi++([.slice x_5 xn xc]++cp)) w5) fun r_1 w6=>as2 r_1 fun r_2 r_3=>aAgg r_2 fun x_7=>aBool r_3 fun x_8=>ck (List.length x_7=36) (pAgg ⟨b_4,0,none⟩ x_7 w6 fun w7=>cond (!x_8)
 (gAgg ⟨b_2,0,none⟩ 36 w7 fun x_9=>ck (List.length x_9=36) (pAgg ⟨b_1,0,none⟩ x_9 w7 fun w8=>gAgg ⟨b_1,0,none⟩ 36 w8 fun x_10=>some (.tuple ⟨[.agg ⟨x_10⟩,.bool false]⟩,w8)))
 (gAgg ⟨b_4,0,none⟩ 36 w7 fun x_11=>ck (List.length x_11=36) (pAgg ⟨b_1,0,none⟩ x_11 w7 fun w9=>gAgg ⟨b_1,0,none⟩ 36 w9 fun x_12=>some (.tuple ⟨[.agg ⟨x_12⟩,.bool true]⟩,w9)))))):=by kernel_rfl
def Av4:Cuts:={ globs:=0,loops:=[],regs:=[],plans:=[] }
def Bn1:List Item:=A7 Tryz.f166
theorem Dv7 (C:A4) (R:A6) (c:Option Addr) (r:List Value) (h:H) :
 A8 PR Av4 C R Z3 Tryz.f166 100000 true Bn1 [(0,.pointer c),(1,.agg ⟨r⟩)] h =
 nw (.cells E2 false r) h fun b w=>nw (.cells B13 false [.int .i64 0,.int .i64 0,.int .i64 0]) w fun b_1 w1=>gInt .i64 (Addr.add ⟨b,0,none⟩ 1) w1 fun x=>bnd (cond (decide (x<0)) (some (true,w1)) (gInt .i64 (Addr.add ⟨b,0,none⟩ 0) w1 fun x_1=>bnd (C Ab2 [.pointer c,.int .i64 x_1] w1) fun r_1 w2=>aInt .i64 r_1 fun x_2=>some (decide (x≥x_2),w2))) fun c_1 w3=>cond c_1
 (pAgg ⟨b_1,0,none⟩ [.int .i64 0,.int .i64 0,.int .i64 0] w3 fun w4=>gAgg ⟨b_1,0,none⟩ 3 w4 fun x_3=>some (.tuple ⟨[.agg ⟨x_3⟩,.bool false]⟩,w4))
 (aSome c fun p=>gSl (Addr.add p 2) w3 fun x_4 xn _=>aSome x_4 fun p_1=>ck ((0:Int)≤0∧0<((xn:Nat):Int)) (gInt .i64 (Addr.add (B6 p_1) (Int.toNat 0*1)) w3 fun x_5=>gInt .i64 (Addr.add ⟨b,0,none⟩ 0) w3 fun x_6=>cond (x_6==1)
 (pAgg ⟨b_1,0,none⟩ [.int .i64 x_5,.int .i64 (IntKind.wrap .i64 (24*x)),.int .i64 24] w3 fun w5=>gAgg ⟨b_1,0,none⟩ 3 w5 fun x_7=>some (.tuple ⟨[.agg ⟨x_7⟩,.bool true]⟩,w5))
 (gInt .i64 (Addr.add ⟨b,0,none⟩ 0) w3 fun x_8=>cond (x_8==2)
 (pAgg ⟨b_1,0,none⟩ [.int .i64 x_5,.int .i64 (IntKind.wrap .i64 (192+(IntKind.wrap .i64 (8*x)))),.int .i64 8] w3 fun w6=>gAgg ⟨b_1,0,none⟩ 3 w6 fun x_9=>some (.tuple ⟨[.agg ⟨x_9⟩,.bool true]⟩,w6))
 (gInt .i64 (Addr.add ⟨b,0,none⟩ 0) w3 fun x_10=>bnd (cond (x_10==3) (some (decide (x<4),w3)) (some (false,w3))) fun c_2 w7=>cond c_2
 (pAgg ⟨b_1,0,none⟩ [.int .i64 x_5,.int .i64 (IntKind.wrap .i64 (288+(IntKind.wrap .i64 (40*x)))),.int .i64 40] w7 fun w8=>gAgg ⟨b_1,0,none⟩ 3 w8 fun x_11=>some (.tuple ⟨[.agg ⟨x_11⟩,.bool true]⟩,w8))
 (gInt .i64 (Addr.add ⟨b,0,none⟩ 0) w7 fun x_12=>cond (x_12==3)
 (aSome c fun p_2=>gSl (Addr.add p_2 2) w7 fun x_13 xn_1 _=>aSome x_13 fun p_3=>ck ((0:Int)≤IntKind.wrap .i64 ((IntKind.wrap .i64 (x-4))+1)∧IntKind.wrap .i64 ((IntKind.wrap .i64 (x-4))+1)<((xn_1:Nat):Int)) (gInt .i64 (Addr.add (B6 p_3) (Int.toNat (IntKind.wrap .i64 ((IntKind.wrap .i64 (x-4))+1))*1)) w7 fun x_14=>pAgg ⟨b_1,0,none⟩ [.int .i64 x_14,.int .i64 0,.int .i64 40] w7 fun w9=>gAgg ⟨b_1,0,none⟩ 3 w9 fun x_15=>some (.tuple ⟨[.agg ⟨x_15⟩,.bool true]⟩,w9)))
 (gInt .i64 (Addr.add ⟨b,0,none⟩ 0) w7 fun x_16=>cond (x_16==4)
 (pAgg ⟨b_1,0,none⟩ [.int .i64 x_5,.int .i64 448,.int .i64 40] w7 fun w10=>gAgg ⟨b_1,0,none⟩ 3 w10 fun x_17=>some (.tuple ⟨[.agg ⟨x_17⟩,.bool true]⟩,w10))
 (pAgg ⟨b_1,0,none⟩ [.int .i64 x_5,.int .i64 488,.int .i64 4] w7 fun w11=>gAgg ⟨b_1,0,none⟩ 3 w11 fun x_18=>some (.tuple ⟨[.agg ⟨x_18⟩,.bool true]⟩,w11)))))))):=by kernel_rfl
def Ae2:Cuts:={ globs:=0,loops:=[],regs:=[],plans:=[] }
def Av3:List Item:=A7 Tryz.f176
theorem Av2 (C:A4) (R:A6) (s:Option Addr) (sn sc:Nat) (f:Value) (h:H) :
 A8 PR Ae2 C R E8 Tryz.f176 100000 true Av3 [(0,.slice s sn sc),(1,f)] h =
 bnd (C D9 [.slice s sn sc,f] h) fun r w=>aInt .i64 r fun x=>some (.bool (decide (x≥0)),w):=by kernel_rfl
def Bk1:Cuts:={ globs:=0,loops:=[],regs:=[],plans:=[] }
def Db7:List Item:=A7 Tryz.f180
theorem Eo5 (C:A4) (R:A6) (n:Int) (h:H) :
 A8 PR Bk1 C R Ak8 Tryz.f180 100000 true Db7 [(0,.int .i64 n)] h =
 bnd (cond (decide (n≥0)) (some (decide (n≤65536),h)) (some (false,h))) fun c w=>some (.bool c,w):=by kernel_rfl
def B96:Cuts:={ globs:=0,loops:=[],regs:=[],plans:=[] }
def D65:List Item:=A7 Tryz.f187
theorem Gp9 (C:A4) (R:A6) (m:Option Addr) (atv:Int) (n:Int) (h:H) :
 A8 PR B96 C R Bm1 Tryz.f187 100000 true D65 [(0,.pointer m),(1,.int .i64 atv),(2,.int .i64 n)] h =
 bnd (C Bj9 [.pointer m,.int .i64 atv,.int .i64 n] h) fun r w=>aBool r fun x=>cond (!x)
 (some (.tuple ⟨[.slice none 0 0,.int .i64 1]⟩,w))
 (aSome m fun p=>gSl (Addr.add p 0) w fun x_1 _ xc=>ckB (fitsOpen x_1 A5 w) (ck ((0:Int)≤IntKind.wrap .i64 (atv+n)∧IntKind.wrap .i64 (atv+n)≤((xc:Nat):Int)) (ck ((0:Int)≤atv∧atv≤((Int.toNat (IntKind.wrap .i64 (atv+n)):Nat):Int)) (bnd (C G6 [.slice (H0 x_1 (decide (Int.toNat atv<xc)) ((Int.toNat atv)*1)) ((Int.toNat (IntKind.wrap .i64 (atv+n)))-(Int.toNat atv)) (xc-(Int.toNat atv))] w) fun r_1 w1=>aSl r_1 fun x_2 xn_1 xc_1=>some (.tuple ⟨[.slice x_2 xn_1 xc_1,.int .i64 0]⟩,w1))))):=by kernel_rfl
def Ba2:Cuts:={ globs:=0,loops:=[(2,[0,4])],regs:=[],plans:=[] }
def Bu2:List Item:=A7 Tryz.f198
def Au5:List Item:=stk [0,1,0,0,1,4,5] Bu2
theorem Gc0 (C:A4) (R:A6) (n:Option Addr) (h:H) :
 A8 PR Ba2 C R W4 Tryz.f198 100000 true Bu2 [(0,.pointer n)] h =
 R W4 Au5 [(0,.pointer n),(4,.int .i64 0)] h:=by kernel_rfl
theorem B61 (C:A4) (R:A6) (n:Option Addr) (i:Int) (h:H) :
 A8 PR Ba2 C R W4 Tryz.f198 100000 true Au5 [(0,.pointer n),(4,.int .i64 i)] h =
 aSome n fun p=>gSl (Addr.add p 0) h fun _ xn _=>cond (decide (i<((xn:Nat):Int)))
 (aSome n fun p_1=>gSl (Addr.add p_1 0) h fun x_1 xn_1 _=>aSome x_1 fun p_2=>ck ((0:Int)≤i∧i<((xn_1:Nat):Int)) (gBool (Addr.add (Addr.add (B6 p_2) (Int.toNat i*2)) 1) h fun x_2=>bnd (cond (!x_2) (aSome n fun p_3=>gSl (Addr.add p_3 0) h fun x_3 xn_2 _=>aSome x_3 fun p_4=>ck ((0:Int)≤i∧i<((xn_2:Nat):Int)) (gInt .i64 (Addr.add (Addr.add (B6 p_4) (Int.toNat i*2)) 0) h fun x_4=>some (decide (x_4≤1000000),h))) (some (false,h))) fun c w=>cond c
 (aSome n fun p_5=>gSl (Addr.add p_5 0) w fun x_5 xn_3 _=>aSome x_5 fun p_6=>ck ((0:Int)≤i∧i<((xn_3:Nat):Int)) (pV (Addr.add (Addr.add (B6 p_6) (Int.toNat i*2)) 1) (.bool true) w fun w1=>aSome n fun p_7=>gSl (Addr.add p_7 0) w1 fun x_6 xn_4 _=>aSome x_6 fun p_8=>ck ((0:Int)≤i∧i<((xn_4:Nat):Int)) (gInt .i64 (Addr.add (Addr.add (B6 p_8) (Int.toNat i*2)) 0) w1 fun x_7=>some (.tuple ⟨[.int .i64 (IntKind.wrap .i64 (i+(IntKind.wrap .i64 (256*x_7)))),.bool true]⟩,w1))))
 (R W4 Au5 [(0,.pointer n),(4,.int .i64 (IntKind.wrap .i64 (i+1)))] w)))
 (some (.tuple ⟨[.int .i64 0,.bool false]⟩,h)):=by kernel_rfl
def D52:Cuts:={ globs:=0,loops:=[],regs:=[],plans:=[] }
def E66:List Item:=A7 Tryz.f204
theorem Hj7 (C:A4) (R:A6) (f:List Value) (b:Option Addr) (bn bc:Nat) (h:H) :
 A8 PR D52 C R Ar1 Tryz.f204 100000 true E66 [(0,.agg ⟨f⟩),(1,.slice b bn bc)] h =
 nw (.cells D7 false f) h fun b_1 w=>gAgg ⟨b_1,0,none⟩ 4 w fun x=>bnd (C Dn1 [.agg ⟨x⟩] w) fun r w1=>aBool r fun x_1=>cond (!x_1)
 (some (.bool false,w1))
 (gInt .i64 (Addr.add ⟨b_1,0,none⟩ 0) w1 fun x_2=>gInt .i64 (Addr.add ⟨b_1,0,none⟩ 1) w1 fun x_3=>gInt .i64 (Addr.add ⟨b_1,0,none⟩ 2) w1 fun x_4=>gInt .i64 (Addr.add ⟨b_1,0,none⟩ 3) w1 fun x_5=>nw (.cells A5 false [.int .u8 (IntKind.wrap .u8 (x_2)),.int .u8 (IntKind.wrap .u8 (x_3)),.int .u8 (IntKind.wrap .u8 (x_4)),.int .u8 (IntKind.wrap .u8 (x_5)),.int .u8 179]) w1 fun b_2 w2=>gCells (some ⟨b_2,0,none⟩) (min 5 bn*1) w2 fun cs=>pCells b cs w2 fun w3=>ckB (fitsOpen b A5 w3) (ck ((0:Int)≤5∧5≤((bc:Nat):Int)) (bnd (C Aa7 [.slice (H0 b (decide (0<bc)) (0*1)) ((Int.toNat 5)-0) (bc-0)] w3) fun r_1 w4=>aInt .u8 r_1 fun x_6=>aSome b fun p=>ck ((0:Int)≤5∧5<((bn:Nat):Int)) (pV (Addr.add (B6 p) (Int.toNat 5*1)) (.int .u8 x_6) w4 fun w5=>some (.bool true,w5))))):=by kernel_rfl
def Am4:Cuts:={ globs:=0,loops:=[],regs:=[],plans:=[] }
def Bb1:List Item:=A7 Tryz.f206
theorem Bb5 (C:A4) (R:A6) (s:Option Addr) (sn sc:Nat) (h:H) :
 A8 PR Am4 C R G6 Tryz.f206 100000 true Bb1 [(0,.slice s sn sc)] h =
 cond s.isNone
 (some (.slice none 0 0,h))
 (nw (.cells A5 false []) h fun b w=>gCells s (sn*1) w fun cs=>ckB (fitsOpen (some ⟨b,0,none⟩) A5 w) (apd A5 1 (some ⟨b,0,none⟩) 0 0 sn cs w fun a an ac w1=>some (.slice a an ac,w1))):=by kernel_rfl
def Ed3:Cuts:={ globs:=0,loops:=[],regs:=[],plans:=[(5,⟨[0,1,2,3,4],[0,1,0,4,15],[],[]⟩)] }
def Gf6:List Item:=A7 Tryz.f208
theorem H08 (C:A4) (R:A6) (p:List Value) (b:Option Addr) (bn bc:Nat) (h:H) :
 A8 PR Ed3 C R Bm3 Tryz.f208 100000 true Gf6 [(0,.agg ⟨p⟩),(1,.slice b bn bc)] h =
 nw (.cells D3 false p) h fun b_1 w=>gAgg ⟨b_1,0,none⟩ 36 w fun x=>bnd (C Bw7 [.agg ⟨x⟩] w) fun r w1=>aBool r fun x_1=>cond (!x_1)
 (some (.bool false,w1))
 (gInt .i64 (Addr.add ⟨b_1,0,none⟩ 0) w1 fun x_2=>gInt .i64 (Addr.add ⟨b_1,0,none⟩ 1) w1 fun x_3=>gInt .i64 (Addr.add ⟨b_1,0,none⟩ 2) w1 fun x_4=>gInt .i64 (Addr.add ⟨b_1,0,none⟩ 3) w1 fun x_5=>nw (.cells A5 false [.int .u8 1,.int .u8 (IntKind.wrap .u8 (x_2)),.int .u8 (IntKind.wrap .u8 (x_3)),.int .u8 (IntKind.wrap .u8 (x_4)),.int .u8 (IntKind.wrap .u8 (x_5)),.int .u8 197]) w1 fun b_2 w2=>gCells (some ⟨b_2,0,none⟩) (min 6 bn*1) w2 fun cs=>pCells b cs w2 fun w3=>ckB (fitsOpen b A5 w3) (ck ((0:Int)≤6∧6≤((bc:Nat):Int)) (bnd (C Aa7 [.slice (H0 b (decide (0<bc)) (0*1)) ((Int.toNat 6)-0) (bc-0)] w3) fun r_1 w4=>aInt .u8 r_1 fun x_6=>aSome b fun p_1=>ck ((0:Int)≤6∧6<((bn:Nat):Int)) (pV (Addr.add (B6 p_1) (Int.toNat 6*1)) (.int .u8 x_6) w4 fun w5=>ckB (fitsOpen b A5 w5) (ck ((0:Int)≤8∧8≤((bn:Nat):Int)) (ckB (liveA (Addr.add ⟨b_1,0,none⟩ 4) w5) (gCells (H0 (some (Addr.add ⟨b_1,0,none⟩ 4)) (decide (0<32)) (0*1)) (min (32-0) (bn-(Int.toNat 8))*1) w5 fun cs_1=>pCells (H0 b (decide (Int.toNat 8<bc)) ((Int.toNat 8)*1)) cs_1 w5 fun w6=>some (.bool true,w6)))))))):=by kernel_rfl
def Ed1:Cuts:={ globs:=0,loops:=[],regs:=[],plans:=[(1,⟨[0,1,2,3,4,5,6,7,8,9,10,11,12,13,14,15,16,17,18],[0,1,3,7,0,16,48,112,0,256,768,1792,0,4096,12288,28672,65535,0,262143],[],[]⟩),(2,⟨[0,1,2,3,4],[0,1,0,4,15],[],[]⟩),(4,⟨[0,1,2,3,4,5,6,7,8],[0,0,2,6,6,30,62,63,255],[(5,[0])],[]⟩)] }
def Ge5:List Item:=A7 Tryz.f209
theorem Hw0 (C:A4) (R:A6) (b:Option Addr) (bn bc:Nat) (h:H) :
 A8 PR Ed1 C R Bm6 Tryz.f209 100000 true Ge5 [(0,.slice b bn bc)] h =
 nw (.cells D3 false [.int .i64 0,.int .i64 0,.int .i64 0,.int .i64 0,.int .u8 0,.int .u8 0,.int .u8 0,.int .u8 0,.int .u8 0,.int .u8 0,.int .u8 0,.int .u8 0,.int .u8 0,.int .u8 0,.int .u8 0,.int .u8 0,.int .u8 0,.int .u8 0,.int .u8 0,.int .u8 0,.int .u8 0,.int .u8 0,.int .u8 0,.int .u8 0,.int .u8 0,.int .u8 0,.int .u8 0,.int .u8 0,.int .u8 0,.int .u8 0,.int .u8 0,.int .u8 0,.int .u8 0,.int .u8 0,.int .u8 0,.int .u8 0]) h fun b_1 w=>aSome b fun p=>ck ((0:Int)≤1∧1<((bn:Nat):Int)) (gInt .u8 (Addr.add (B6 p) (Int.toNat 1*1)) w fun x=>aSome b fun p_1=>ck ((0:Int)≤2∧2<((bn:Nat):Int)) (gInt .u8 (Addr.add (B6 p_1) (Int.toNat 2*1)) w fun x_1=>aSome b fun p_2=>ck ((0:Int)≤3∧3<((bn:Nat):Int)) (gInt .u8 (Addr.add (B6 p_2) (Int.toNat 3*1)) w fun x_2=>aSome b fun p_3=>ck ((0:Int)≤4∧4<((bn:Nat):Int)) (gInt .u8 (Addr.add (B6 p_3) (Int.toNat 4*1)) w fun x_3=>nw (.cells D3 false [.int .i64 0,.int .i64 0,.int .i64 0,.int .i64 0,.int .u8 0,.int .u8 0,.int .u8 0,.int .u8 0,.int .u8 0,.int .u8 0,.int .u8 0,.int .u8 0,.int .u8 0,.int .u8 0,.int .u8 0,.int .u8 0,.int .u8 0,.int .u8 0,.int .u8 0,.int .u8 0,.int .u8 0,.int .u8 0,.int .u8 0,.int .u8 0,.int .u8 0,.int .u8 0,.int .u8 0,.int .u8 0,.int .u8 0,.int .u8 0,.int .u8 0,.int .u8 0,.int .u8 0,.int .u8 0,.int .u8 0,.int .u8 0]) w fun b_2 w1=>pAgg ⟨b_2,0,none⟩ [.int .i64 (IntKind.wrap .i64 (x)),.int .i64 (IntKind.wrap .i64 (x_1)),.int .i64 (IntKind.wrap .i64 (x_2)),.int .i64 (IntKind.wrap .i64 (x_3)),.int .u8 0,.int .u8 0,.int .u8 0,.int .u8 0,.int .u8 0,.int .u8 0,.int .u8 0,.int .u8 0,.int .u8 0,.int .u8 0,.int .u8 0,.int .u8 0,.int .u8 0,.int .u8 0,.int .u8 0,.int .u8 0,.int .u8 0,.int .u8 0,.int .u8 0,.int .u8 0,.int .u8 0,.int .u8 0,.int .u8 0,.int .u8 0,.int .u8 0,.int .u8 0,.int .u8 0,.int .u8 0,.int .u8 0,.int .u8 0,.int .u8 0,.int .u8 0] w1 fun w2=>ckB (liveA (Addr.add ⟨b_2,0,none⟩ 4) w2) (ckB (fitsOpen b A5 w2) (ck ((0:Int)≤8∧8≤((bn:Nat):Int)) (gCells (H0 b (decide (Int.toNat 8<bc)) ((Int.toNat 8)*1)) (min (bn-(Int.toNat 8)) (32-0)*1) w2 fun cs=>pCells (H0 (some (Addr.add ⟨b_2,0,none⟩ 4)) (decide (0<32)) (0*1)) cs w2 fun w3=>gAgg ⟨b_2,0,none⟩ 36 w3 fun x_4=>bnd (C Aw2 [.agg ⟨x_4⟩] w3) fun r w4=>as2 r fun r_1 r_2=>aSl r_1 fun x_5 xn xc=>aBool r_2 fun x_6=>gAgg ⟨b_2,0,none⟩ 36 w4 fun x_7=>bnd (cond x_6 (bnd (C D6 [.slice x_5 xn xc,.slice b bn bc] w4) fun r_3 w5=>aBool r_3 fun x_8=>gAgg ⟨b_2,0,none⟩ 36 w5 fun x_9=>same (.agg ⟨x_7⟩) (.agg ⟨x_9⟩) (some (x_8,w5))) (some (false,w4))) fun c w6=>ck (List.length x_7=36) (pAgg ⟨b_1,0,none⟩ x_7 w6 fun w7=>gAgg ⟨b_1,0,none⟩ 36 w7 fun x_10=>some (.tuple ⟨[.agg ⟨x_10⟩,.bool c]⟩,w7))))))))):=by kernel_rfl
def A93:Cuts:={ globs:=0,loops:=[],regs:=[],plans:=[] }
def B01:List Item:=A7 Tryz.f210
theorem Ec3 (C:A4) (R:A6) (size:Int) (put:Value) (get:Value) (h:H) :
 A8 PR A93 C R Ao8 Tryz.f210 100000 true B01 [(0,.int .i64 size),(1,put),(2,get)] h =
 one put (one get (nw (.cells Bp4 false [.int .i64 (mm2 false (mm2 true size 0) 64),put,get]) h fun b w=>some (.pointer (some ⟨b,0,none⟩),w))):=by kernel_rfl
def Bd3:Cuts:={ globs:=0,loops:=[(4,[1,2,22,23,24]),(9,[1,2,43,44,45]),(14,[1,58,59])],regs:=[],plans:=[] }
def Bp5:List Item:=A7 Tryz.f211
def B92:List Item:=stk [0,1,0,1,0,0,1,4,5] Bp5
def B97:List Item:=stk [0,1,0,1,0,1,0,0,1,4,5] Bp5
def B63:List Item:=stk [0,1,0,1,0,1,0,1,0,0,1,4,5] Bp5
theorem Hl3 (C:A4) (R:A6) (p:List Value) (b:Option Addr) (bn bc:Nat) (h:H) :
 A8 PR Bd3 C R O1 Tryz.f211 100000 true Bp5 [(0,.agg ⟨p⟩),(1,.slice b bn bc)] h =
 nw (.cells D0 false p) h fun b_1 w=>gAgg ⟨b_1,0,none⟩ 16 w fun x=>bnd (C Dj8 [.agg ⟨x⟩] w) fun r w1=>aBool r fun x_1=>cond (!x_1)
 (some (.bool false,w1))
 (gInt .i64 (Addr.add ⟨b_1,0,none⟩ 0) w1 fun x_2=>gInt .i64 (Addr.add ⟨b_1,0,none⟩ 1) w1 fun x_3=>gInt .i64 (Addr.add ⟨b_1,0,none⟩ 2) w1 fun x_4=>gInt .i64 (Addr.add ⟨b_1,0,none⟩ 3) w1 fun x_5=>nw (.cells B8 false [.int .i64 x_2,.int .i64 x_3,.int .i64 x_4,.int .i64 x_5]) w1 fun b_2 w2=>R O1 B92 [(1,.slice b bn bc),(2,.pointer (some ⟨b_1,0,none⟩)),(22,.slice (some ⟨b_2,0,none⟩) 4 4),(23,.int .i64 4),(24,.int .i64 0)] w2):=by kernel_rfl
theorem A62 (C:A4) (R:A6) (b:Option Addr) (bn bc:Nat) (p:Addr) (x22:Option Addr) (x22n x22c:Nat) (x23:Int) (x24:Int) (h:H) :
 A8 PR Bd3 C R O1 Tryz.f211 100000 true B92 [(1,.slice b bn bc),(2,.pointer (some p)),(22,.slice x22 x22n x22c),(23,.int .i64 x23),(24,.int .i64 x24)] h =
 cond (decide (x24<x23))
 (aSome x22 fun p_1=>ck ((0:Int)≤x24∧x24<((x22n:Nat):Int)) (gInt .i64 (Addr.add (B6 p_1) (Int.toNat x24*1)) h fun x=>aSome b fun p_2=>ck ((0:Int)≤x24∧x24<((bn:Nat):Int)) (pV (Addr.add (B6 p_2) (Int.toNat x24*1)) (.int .u8 (IntKind.wrap .u8 (x))) h fun w=>R O1 B92 [(1,.slice b bn bc),(2,.pointer (some p)),(22,.slice x22 x22n x22c),(23,.int .i64 x23),(24,.int .i64 (IntKind.wrap .i64 (x24+1)))] w)))
 (gInt .i64 (Addr.add p 4) h fun x_1=>gInt .i64 (Addr.add p 5) h fun x_2=>gInt .i64 (Addr.add p 6) h fun x_3=>gInt .i64 (Addr.add p 7) h fun x_4=>nw (.cells B8 false [.int .i64 x_1,.int .i64 x_2,.int .i64 x_3,.int .i64 x_4]) h fun b_1 w1=>R O1 B97 [(1,.slice b bn bc),(2,.pointer (some p)),(43,.slice (some ⟨b_1,0,none⟩) 4 4),(44,.int .i64 4),(45,.int .i64 0)] w1):=by kernel_rfl
theorem A69 (C:A4) (R:A6) (b:Option Addr) (bn bc:Nat) (p:Addr) (x43:Option Addr) (x43n x43c:Nat) (x44:Int) (x45:Int) (h:H) :
 A8 PR Bd3 C R O1 Tryz.f211 100000 true B97 [(1,.slice b bn bc),(2,.pointer (some p)),(43,.slice x43 x43n x43c),(44,.int .i64 x44),(45,.int .i64 x45)] h =
 cond (decide (x45<x44))
 (aSome x43 fun p_1=>ck ((0:Int)≤x45∧x45<((x43n:Nat):Int)) (gInt .i64 (Addr.add (B6 p_1) (Int.toNat x45*1)) h fun x=>bnd (C Bh8 [.slice b bn bc,.int .i64 (IntKind.wrap .i64 (4+(IntKind.wrap .i64 (2*x45)))),.int .i64 x] h) fun r w=>aBool r fun _=>R O1 B97 [(1,.slice b bn bc),(2,.pointer (some p)),(43,.slice x43 x43n x43c),(44,.int .i64 x44),(45,.int .i64 (IntKind.wrap .i64 (x45+1)))] w))
 (gAgg (Addr.add p 8) 8 h fun x_2=>R O1 B63 [(1,.slice b bn bc),(58,.agg ⟨x_2⟩),(59,.int .i64 0)] h):=by kernel_rfl
theorem Z1 (C:A4) (R:A6) (b:Option Addr) (bn bc:Nat) (x58:List Value) (x59:Int) (h:H) :
 A8 PR Bd3 C R O1 Tryz.f211 100000 true B63 [(1,.slice b bn bc),(58,.agg ⟨x58⟩),(59,.int .i64 x59)] h =
 cond (decide (x59<8))
 (ck ((0:Int)≤x59∧x59<((8:Nat):Int)) (nth x58 (Int.toNat x59*1) fun x=>aInt .i64 x fun x_1=>aSome b fun p=>ck ((0:Int)≤IntKind.wrap .i64 (12+x59)∧IntKind.wrap .i64 (12+x59)<((bn:Nat):Int)) (pV (Addr.add (B6 p) (Int.toNat (IntKind.wrap .i64 (12+x59))*1)) (.int .u8 (IntKind.wrap .u8 (x_1))) h fun w=>R O1 B63 [(1,.slice b bn bc),(58,.agg ⟨x58⟩),(59,.int .i64 (IntKind.wrap .i64 (x59+1)))] w)))
 (aSome b fun p_1=>ck ((0:Int)≤20∧20<((bn:Nat):Int)) (pV (Addr.add (B6 p_1) (Int.toNat 20*1)) (.int .u8 167) h fun w1=>ckB (fitsOpen b A5 w1) (ck ((0:Int)≤21∧21≤((bc:Nat):Int)) (bnd (C Aa7 [.slice (H0 b (decide (0<bc)) (0*1)) ((Int.toNat 21)-0) (bc-0)] w1) fun r w2=>aInt .u8 r fun x_2=>aSome b fun p_2=>ck ((0:Int)≤21∧21<((bn:Nat):Int)) (pV (Addr.add (B6 p_2) (Int.toNat 21*1)) (.int .u8 x_2) w2 fun w3=>some (.bool true,w3)))))):=by kernel_rfl
def Am7:Cuts:={ globs:=0,loops:=[],regs:=[],plans:=[] }
def Bc4:List Item:=A7 Tryz.f215
theorem Dg5 (C:A4) (R:A6) (t:Option Addr) (i:Int) (h:H) :
 A8 PR Am7 C R N6 Tryz.f215 100000 true Bc4 [(0,.pointer t),(1,.int .i64 i)] h =
 aSome t fun p=>gSl (Addr.add p 0) h fun x xn _=>aSome x fun p_1=>ck ((0:Int)≤i∧i<((xn:Nat):Int)) (gInt .i64 (Addr.add (Addr.add (B6 p_1) (Int.toNat i*8)) 6) h fun x_1=>some (.int .i64 (IntKind.wrap .i64 (i+(IntKind.wrap .i64 (256*x_1)))),h)):=by kernel_rfl
def U3:Cuts:={ globs:=0,loops:=[(2,[0,1,7,8])],regs:=[],plans:=[] }
def Af3:List Item:=A7 Tryz.f222
def Q2:List Item:=stk [0,1,0,0,1,4,5] Af3
theorem B02 (C:A4) (R:A6) (s:Option Addr) (sn sc:Nat) (f:Value) (h:H) :
 A8 PR U3 C R G2 Tryz.f222 100000 true Af3 [(0,.slice s sn sc),(1,f)] h =
 R G2 Q2 [(0,.slice s sn sc),(1,f),(7,.int .i64 ((sn:Nat):Int)),(8,.int .i64 0)] h:=by kernel_rfl
theorem Ar3 (C:A4) (R:A6) (s:Option Addr) (sn sc:Nat) (f:Value) (x7:Int) (x8:Int) (h:H) :
 A8 PR U3 C R G2 Tryz.f222 100000 true Q2 [(0,.slice s sn sc),(1,f),(7,.int .i64 x7),(8,.int .i64 x8)] h =
 cond (decide (x8<x7))
 (aSome s fun p=>ck ((0:Int)≤x8∧x8<((sn:Nat):Int)) (gInt .u8 (Addr.add (B6 p) (Int.toNat x8*1)) h fun x=>aFn f fun g fi cp=>bnd (C g (fi++([.int .u8 x]++cp)) h) fun r w=>aBool r fun x_1=>cond x_1
 (some (.int .i64 x8,w))
 (R G2 Q2 [(0,.slice s sn sc),(1,f),(7,.int .i64 x7),(8,.int .i64 (IntKind.wrap .i64 (x8+1)))] w)))
 (some (.int .i64 (-1),h)):=by kernel_rfl
def Eh5:Cuts:={ globs:=0,loops:=[],regs:=[],plans:=[] }
def Gk6:List Item:=A7 Tryz.f223
theorem Hx0 (C:A4) (R:A6) (f:List Value) (h:H) :
 A8 PR Eh5 C R Dn1 Tryz.f223 100000 true Gk6 [(0,.agg ⟨f⟩)] h =
 nw (.cells D7 false f) h fun b w=>gInt .i64 (Addr.add ⟨b,0,none⟩ 0) w fun x=>bnd (cond (decide (x≥1)) (gInt .i64 (Addr.add ⟨b,0,none⟩ 0) w fun x_1=>some (decide (x_1≤3),w)) (some (false,w))) fun c w1=>bnd (cond c (gInt .i64 (Addr.add ⟨b,0,none⟩ 1) w1 fun x_2=>some (decide (x_2≥0),w1)) (some (false,w1))) fun c_1 w2=>bnd (cond c_1 (gInt .i64 (Addr.add ⟨b,0,none⟩ 1) w2 fun x_3=>some (decide (x_3≤7),w2)) (some (false,w2))) fun c_2 w3=>bnd (cond c_2 (gInt .i64 (Addr.add ⟨b,0,none⟩ 0) w3 fun x_4=>bnd (cond (x_4 != 3) (some (true,w3)) (gInt .i64 (Addr.add ⟨b,0,none⟩ 1) w3 fun x_5=>some (x_5==0,w3))) fun c_3 w4=>some (c_3,w4)) (some (false,w3))) fun c_4 w5=>bnd (cond c_4 (gInt .i64 (Addr.add ⟨b,0,none⟩ 2) w5 fun x_6=>some (decide (x_6≥1),w5)) (some (false,w5))) fun c_5 w6=>bnd (cond c_5 (gInt .i64 (Addr.add ⟨b,0,none⟩ 2) w6 fun x_7=>some (decide (x_7≤64),w6)) (some (false,w6))) fun c_6 w7=>bnd (cond c_6 (gInt .i64 (Addr.add ⟨b,0,none⟩ 3) w7 fun x_8=>bnd (cond (x_8==0) (some (true,w7)) (gInt .i64 (Addr.add ⟨b,0,none⟩ 3) w7 fun x_9=>some (x_9==1,w7))) fun c_7 w8=>some (c_7,w8)) (some (false,w7))) fun c_8 w9=>some (.bool c_8,w9):=by kernel_rfl
def Dt9:Cuts:={ globs:=0,loops:=[],regs:=[],plans:=[] }
def Eu7:List Item:=A7 Tryz.f230
theorem He7 (C:A4) (R:A6) (n:Int) (without:Int) (h:H) :
 A8 PR Dt9 C R Ak9 Tryz.f230 100000 true Eu7 [(0,.int .i64 n),(1,.int .i64 without)] h =
 bnd (cond ((En0 .i64 n 65534)==0) (some ((M7 .i64 n without)==0,h)) (some (false,h))) fun c w=>some (.bool c,w):=by kernel_rfl
end
end Go.EQ
