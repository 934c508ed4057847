/- A file that never waits is told so where another one would block; it is so for all who have it; no conditions. -/
import Derived.Test.YtnmdbfbjdhgmlaaGreatMc
import Derived.Test.YtnmdbfbjdhgmlaaGreatProg
import Derived.KernelRfl
set_option linter.all false
namespace Go.EQ
open Go Go.NN Go.Proofs
noncomputable abbrev PR:Program:=Tryz.prog
abbrev J6:FuncId:=4
abbrev Ae8:FuncId:=9
abbrev A88:FuncId:=10
abbrev Bv0:FuncId:=11
abbrev A90:FuncId:=12
abbrev Af1:FuncId:=13
abbrev Aq6:FuncId:=14
abbrev Dr2:FuncId:=15
abbrev Bf1:FuncId:=16
abbrev Ay7:FuncId:=19
abbrev By2:FuncId:=21
abbrev Bf6:FuncId:=23
abbrev Bu4:FuncId:=24
abbrev O8:FuncId:=25
abbrev Q5:FuncId:=26
abbrev Aq4:FuncId:=27
abbrev A97:FuncId:=28
abbrev R0:FuncId:=29
abbrev A07:FuncId:=30
abbrev S7:FuncId:=31
abbrev Bl3:FuncId:=32
abbrev W8:FuncId:=33
abbrev A17:FuncId:=34
abbrev Q6:FuncId:=35
abbrev A42:FuncId:=36
abbrev Q7:FuncId:=37
abbrev U4:FuncId:=38
abbrev H9:FuncId:=39
abbrev Bh7:FuncId:=40
abbrev S6:FuncId:=41
abbrev Bq2:FuncId:=42
abbrev P1:FuncId:=43
abbrev Bx6:FuncId:=44
abbrev Gh2:FuncId:=45
abbrev Au4:FuncId:=46
abbrev Ao2:FuncId:=47
abbrev B59:FuncId:=48
abbrev B56:FuncId:=49
abbrev Dg0:FuncId:=50
abbrev Dg4:FuncId:=51
abbrev J0:FuncId:=52
abbrev B57:FuncId:=57
abbrev D1:FuncId:=59
abbrev Aa0:FuncId:=60
abbrev Q3:FuncId:=64
abbrev O1:FuncId:=65
abbrev Ag5:FuncId:=66
abbrev I9:FuncId:=68
abbrev H5:FuncId:=69
abbrev G2:FuncId:=70
abbrev Bo0:FuncId:=71
abbrev Ax3:FuncId:=72
abbrev Ad4:FuncId:=73
abbrev A09:FuncId:=74
abbrev Ax1:FuncId:=75
abbrev Ed2:FuncId:=76
abbrev An6:FuncId:=77
abbrev Ed6:FuncId:=78
abbrev Eh7:FuncId:=79
abbrev Ed8:FuncId:=80
abbrev Em4:FuncId:=81
abbrev Et3:FuncId:=82
abbrev Dq6:FuncId:=83
abbrev Et4:FuncId:=84
abbrev Et2:FuncId:=85
abbrev Ax0:FuncId:=86
abbrev A76:FuncId:=87
abbrev A85:FuncId:=88
abbrev J8:FuncId:=89
abbrev A28:FuncId:=90
abbrev A15:FuncId:=91
abbrev I0:FuncId:=92
abbrev A29:FuncId:=93
abbrev Au1:FuncId:=94
abbrev Au8:FuncId:=95
abbrev J7:FuncId:=96
abbrev A40:FuncId:=97
abbrev A37:FuncId:=98
abbrev A26:FuncId:=99
abbrev A33:FuncId:=100
abbrev Bt6:FuncId:=102
abbrev Go2:FuncId:=103
abbrev Aj2:FuncId:=104
abbrev S5:FuncId:=105
abbrev H1:FuncId:=106
abbrev Z9:FuncId:=109
abbrev J9:FuncId:=110
abbrev A34:FuncId:=111
abbrev P8:FuncId:=115
abbrev Al6:FuncId:=116
abbrev An5:FuncId:=117
abbrev Q1:FuncId:=118
abbrev A89:FuncId:=119
abbrev W2:FuncId:=120
abbrev Dt3:FuncId:=121
abbrev Av6:FuncId:=122
abbrev Aq1:FuncId:=123
abbrev Bu9:FuncId:=124
abbrev Dg3:FuncId:=125
abbrev Am7:FuncId:=126
abbrev O5:FuncId:=127
abbrev A72:FuncId:=128
abbrev Y8:FuncId:=129
abbrev N4:FuncId:=130
abbrev Z0:FuncId:=131
abbrev Bj1:FuncId:=132
abbrev Aw9:FuncId:=133
abbrev A50:FuncId:=134
abbrev A58:FuncId:=135
abbrev Al7:FuncId:=136
abbrev Aj1:FuncId:=137
abbrev A61:FuncId:=138
abbrev Ab8:FuncId:=139
abbrev Z8:FuncId:=140
abbrev Ak5:FuncId:=141
abbrev Aw4:FuncId:=142
abbrev Ed3:FuncId:=143
abbrev At0:FuncId:=144
abbrev Aw8:FuncId:=145
abbrev A11:FuncId:=146
abbrev A03:FuncId:=147
abbrev An1:FuncId:=148
abbrev A56:FuncId:=149
abbrev Ah9:FuncId:=150
abbrev Ae9:FuncId:=151
abbrev A68:FuncId:=152
abbrev N6:FuncId:=159
abbrev Ak8:FuncId:=160
abbrev A96:FuncId:=161
abbrev V0:FuncId:=162
abbrev Bg5:FuncId:=163
abbrev V3:FuncId:=164
abbrev U9:FuncId:=165
abbrev Y1:FuncId:=166
abbrev U8:FuncId:=167
abbrev A87:FuncId:=168
abbrev V2:FuncId:=169
abbrev Aq3:FuncId:=171
abbrev V5:FuncId:=173
abbrev Aa4:FuncId:=174
abbrev G6:FuncId:=175
abbrev E7:FuncId:=176
abbrev Bz0:FuncId:=177
abbrev O7:FuncId:=178
abbrev A27:FuncId:=179
abbrev Aj9:FuncId:=180
abbrev Ad6:FuncId:=181
abbrev Ar2:FuncId:=182
abbrev Z1:FuncId:=183
abbrev G0:FuncId:=184
abbrev P9:FuncId:=185
abbrev Aa2:FuncId:=186
abbrev Bh2:FuncId:=187
abbrev Bd6:FuncId:=188
abbrev Ar6:FuncId:=189
abbrev Ah5:FuncId:=192
abbrev Aw3:FuncId:=193
abbrev Ar7:FuncId:=194
abbrev B9:FuncId:=195
abbrev A13:FuncId:=196
abbrev A71:FuncId:=197
abbrev V8:FuncId:=198
abbrev P2:FuncId:=201
abbrev Ad7:FuncId:=202
abbrev Ao4:FuncId:=203
abbrev Ap9:FuncId:=204
abbrev Ap6:FuncId:=205
abbrev G4:FuncId:=206
abbrev Ao3:FuncId:=207
abbrev Bi3:FuncId:=208
abbrev Bh3:FuncId:=209
abbrev Al8:FuncId:=210
abbrev N8:FuncId:=211
abbrev W3:FuncId:=212
abbrev D8:FuncId:=213
abbrev H8:FuncId:=214
abbrev M9:FuncId:=215
abbrev Bg7:FuncId:=216
abbrev Ac9:FuncId:=217
abbrev Ae7:FuncId:=220
abbrev A01:FuncId:=221
abbrev G1:FuncId:=222
abbrev Dg7:FuncId:=223
abbrev D4:FuncId:=224
abbrev Dh4:FuncId:=225
abbrev Be8:FuncId:=226
abbrev Bx0:FuncId:=227
abbrev Aj4:FuncId:=230
abbrev Bf7:FuncId:=231
abbrev B6:TypeId:=3
abbrev E99:TypeId:=4
abbrev A2:TypeId:=5
abbrev O4:TypeId:=24
abbrev Gl8:TypeId:=29
abbrev N3:TypeId:=33
abbrev Gg2:TypeId:=44
abbrev D7:TypeId:=46
abbrev Do0:TypeId:=53
abbrev By3:TypeId:=56
abbrev Aw7:TypeId:=59
abbrev D0:TypeId:=63
abbrev Eg5:TypeId:=65
abbrev D5:TypeId:=73
abbrev P6:TypeId:=75
abbrev Bw4:TypeId:=91
abbrev E0:TypeId:=116
abbrev Bu5:TypeId:=125
abbrev Dw1:TypeId:=133
abbrev Ev9:TypeId:=142
abbrev D00:TypeId:=150
abbrev A91:TypeId:=156
abbrev E1:TypeId:=161
abbrev I5:TypeId:=189
abbrev Au3:TypeId:=196
abbrev O6:TypeId:=203
abbrev Dc5:TypeId:=212
abbrev Dt5:TypeId:=215
abbrev A35:TypeId:=231
abbrev El9:TypeId:=235
abbrev Ek9:TypeId:=238
abbrev Ev0:TypeId:=240
abbrev Bv2:TypeId:=254
abbrev Ek2:TypeId:=265
abbrev Ar9:TypeId:=268
abbrev G5:TypeId:=269
abbrev Au5:TypeId:=272
abbrev Dm2:TypeId:=275
abbrev Ev1:TypeId:=277
abbrev Au6:TypeId:=280
abbrev Bn5:TypeId:=282
abbrev Be7:TypeId:=295
abbrev Eo3:TypeId:=298
abbrev Ai6:TypeId:=304
abbrev Bl6:TypeId:=308
abbrev Bn2:TypeId:=312
abbrev Bt3:TypeId:=316
abbrev Ak6:TypeId:=318
abbrev Ic1:TypeId:=332
end Go.EQ

set_option maxRecDepth 100000
namespace Go.EQ
open Go Go.NN Go.Proofs
variable (C : A1) (R : A3)
noncomputable section
def A69:Cuts:={ globs:=0,loops:=[(20,[6,12])],regs:=[],plans:=[] }
def Br6:List Item:=A4 Tryz.f4
def As6:List Item:=stk [0,1,0,1,0,1,0,1,0,1,0,1,0,1,0,1,0,1,0,1,0,1,0,1,0,1,0,0,1,4,5] Br6
theorem E15 (C:A1) (R:A3) (n:Int) (b:Option Addr) (bn bc:Nat) (h:H) :
 A5 PR A69 C R J6 Tryz.f4 100000 true Br6 [(0,.int .i64 n),(1,.slice b bn bc)] h =
 bnd (C A88 [] h) fun r w=>aSl r fun x xn xc=>bnd (C Ae8 [.slice x xn xc] w) fun r_1 w1=>as4 r_1 fun r_2 r_3 r_4 r_5=>aPtr r_2 fun _=>aPtr r_3 fun x_2=>aPtr r_4 fun _=>aPtr r_5 fun _=>bnd (cond x_2.isNone (some (true,w1)) (some (decide (((bn:Nat):Int)>32),w1))) fun c w2=>cond c
 (bnd (cond (!x_2.isNone) (bnd (C A90 [] w2) fun r_6 w3=>aBool r_6 fun x_5=>some (x_5,w3)) (some (false,w2))) fun c_1 w4=>some (.bool c_1,w4))
 (bnd (C Bv0 [.pointer x_2,.int .i64 0] w2) fun r_7 w5=>aAgg r_7 fun _=>bnd (C Dr2 [.pointer x_2,.int .i64 0,.int .i64 1] w5) fun r_8 w6=>aAgg r_8 fun x_7=>nth x_7 0 fun N=>aInt .i64 N fun N_1=>bnd (cond (N_1 != 3) (some (true,w6)) (bnd (C Bf1 [.pointer x_2,.int .i64 0,.int .i64 1,.int .i64 1] w6) fun r_9 w7=>aAgg r_9 fun x_8=>nth x_8 1 fun E=>aInt .i64 E fun E_1=>some (E_1 != 0,w7))) fun c_2 w8=>bnd (cond c_2 (some (true,w8)) (bnd (C Bf1 [.pointer x_2,.int .i64 0,.int .i64 2,.int .i64 1] w8) fun r_10 w9=>aAgg r_10 fun x_9=>nth x_9 1 fun E_2=>aInt .i64 E_2 fun E_3=>some (E_3 != 0,w9))) fun c_3 w10=>cond c_3
 (some (.bool false,w10))
 (bnd (C Aq6 [.pointer x_2,.int .i64 0,.int .i64 3,.int .i64 5] w10) fun r_11 w11=>aAgg r_11 fun x_10=>nth x_10 1 fun E_4=>aInt .i64 E_4 fun E_5=>bnd (cond (E_5 != 111) (some (true,w11)) (bnd (C Aq6 [.pointer x_2,.int .i64 0,.int .i64 1,.int .i64 5] w11) fun r_12 w12=>aAgg r_12 fun x_11=>nth x_11 1 fun E_6=>aInt .i64 E_6 fun E_7=>some (E_7 != 111,w12))) fun c_4 w13=>cond c_4
 (some (.bool false,w13))
 (bnd (cond (decide ((I4 .i64 n 31)>0)) (ck ((0:Int)≤I4 .i64 n 31∧(I4 .i64 n 31:Int)≤I4 .i64 n 31∧I4 .i64 n 31≤(A8:Int)) (nw (.cells A2 false (I1 (Int.toNat (I4 .i64 n 31)) [.int .u8 0])) w13 fun b_1 w14=>bnd (C Af1 [.pointer x_2,.int .i64 0,.int .i64 2,.slice (some ⟨b_1,0,none⟩) (Int.toNat (I4 .i64 n 31)) (Int.toNat (I4 .i64 n 31))] w14) fun r_13 w15=>aAgg r_13 fun x_12=>nth x_12 0 fun N_2=>aInt .i64 N_2 fun N_3=>some (N_3 != (I4 .i64 n 31),w15))) (some (false,w13))) fun c_5 w16=>cond c_5
 (some (.bool false,w16))
 (bnd (C Af1 [.pointer x_2,.int .i64 0,.int .i64 2,.slice b bn bc] w16) fun r_14 w17=>aAgg r_14 fun x_13=>nw (.cells N3 false [.int .i64 0,.int .i64 0,.slice none 0 0,.bool false]) w17 fun b_2 w18=>ck (List.length x_13=4) (pAgg ⟨b_2,0,none⟩ x_13 w18 fun w19=>bnd (cond (((bn:Nat):Int)==0) (some (true,w19)) (bnd (cond (decide (((bn:Nat):Int)≤8)) (some (decide (((bn:Nat):Int)≤(IntKind.wrap .i64 (32-(I4 .i64 n 31)))),w19)) (some (false,w19))) fun c_6 w20=>some (c_6,w20))) fun c_7 w21=>bnd (cond c_7 (some (true,w21)) (bnd (cond (decide (((bn:Nat):Int)>8)) (some (decide ((IntKind.wrap .i64 (32-(I4 .i64 n 31)))>0),w21)) (some (false,w21))) fun c_8 w22=>some (c_8,w22))) fun c_9 w23=>gBool (Addr.add ⟨b_2,0,none⟩ 3) w23 fun x_14=>bnd (cond x_14 (some (true,w23)) (gInt .i64 (Addr.add ⟨b_2,0,none⟩ 1) w23 fun x_15=>some (!((x_15==0)==c_9),w23))) fun c_10 w24=>bnd (cond c_10 (some (true,w24)) (bnd (cond (!c_9) (gInt .i64 (Addr.add ⟨b_2,0,none⟩ 1) w24 fun x_16=>some (x_16 != 111,w24)) (some (false,w24))) fun c_11 w25=>some (c_11,w25))) fun c_12 w26=>cond c_12
 (some (.bool false,w26))
 (bnd (C Bf1 [.pointer x_2,.int .i64 0,.int .i64 2,.int .i64 0] w26) fun r_15 w27=>aAgg r_15 fun x_17=>nth x_17 1 fun E_8=>aInt .i64 E_8 fun E_9=>bnd (cond (E_9 != 0) (some (true,w27)) (bnd (C Bf1 [.pointer x_2,.int .i64 0,.int .i64 1,.int .i64 2] w27) fun r_16 w28=>aAgg r_16 fun x_18=>nth x_18 1 fun E_10=>aInt .i64 E_10 fun E_11=>some (E_11 != 122,w28))) fun c_13 w29=>cond c_13
 (some (.bool false,w29))
 (R J6 As6 [(6,.pointer x_2),(12,.int .i64 0)] w29))))))):=by kernel_rfl
theorem B18 (C:A1) (R:A3) (c:Option Addr) (i:Int) (h:H) :
 A5 PR A69 C R J6 Tryz.f4 100000 true As6 [(6,.pointer c),(12,.int .i64 i)] h =
 cond (decide (i<40))
 (nw (.cells A2 false [.int .u8 1]) h fun b w=>bnd (C Af1 [.pointer c,.int .i64 0,.int .i64 2,.slice (some ⟨b,0,none⟩) 1 1] w) fun r w1=>aAgg r fun _=>R J6 As6 [(6,.pointer c),(12,.int .i64 (IntKind.wrap .i64 (i+1)))] w1)
 (nw (.cells A2 false [.int .u8 1]) h fun b_1 w2=>bnd (C Af1 [.pointer c,.int .i64 0,.int .i64 2,.slice (some ⟨b_1,0,none⟩) 1 1] w2) fun r_1 w3=>aAgg r_1 fun x_1=>nw (.cells N3 false [.int .i64 0,.int .i64 0,.slice none 0 0,.bool false]) w3 fun b_2 w4=>ck (List.length x_1=4) (pAgg ⟨b_2,0,none⟩ x_1 w4 fun w5=>gBool (Addr.add ⟨b_2,0,none⟩ 3) w5 fun x_2=>bnd (cond x_2 (gInt .i64 (Addr.add ⟨b_2,0,none⟩ 1) w5 fun x_3=>some (x_3==0,w5)) (some (false,w5))) fun c_1 w6=>bnd (cond c_1 (bnd (C A90 [] w6) fun r_2 w7=>aBool r_2 fun x_4=>some (x_4,w7)) (some (false,w6))) fun c_2 w8=>some (.bool c_2,w8))):=by kernel_rfl
def Db9:Cuts:={ globs:=0,loops:=[],regs:=[],plans:=[(5,⟨[0,1,2,3,4],[0,1,0,4,15],[(3,[1])],[]⟩)] }
def Ea5:List Item:=A4 Tryz.f10
theorem Gp4 (C:A1) (R:A3)  (h:H) :
 A5 PR Db9 C R A88 Tryz.f10 100000 true Ea5 [] h =
 bnd (C A97 [] h) fun r w=>aStr r fun x=>ck (ByteArray.size x≤A8) (nw (.cells A2 false (A0 (ByteArray.data x).toList)) w fun b w1=>nw (.cells D7 false [.int .i64 0,.int .i64 0,.int .i64 0,.int .i64 0,.int .i64 0,.int .i64 0,.int .i64 0,.int .i64 0,.int .i64 0,.int .i64 0,.int .i64 0,.int .i64 0,.int .i64 0,.int .i64 0,.int .i64 0,.int .i64 0]) w1 fun b_1 w2=>pAgg ⟨b_1,0,none⟩ [.int .i64 1,.int .i64 0,.int .i64 0,.int .i64 0,.int .i64 0,.int .i64 0,.int .i64 0,.int .i64 0,.int .i64 0,.int .i64 0,.int .i64 0,.int .i64 0,.int .i64 0,.int .i64 0,.int .i64 0,.int .i64 0] w2 fun w3=>ck ((0:Int)≤0∧0<((8:Nat):Int)) (pV (Addr.add (Addr.add ⟨b_1,0,none⟩ 8) (Int.toNat 0*1)) (.int .i64 1) w3 fun w4=>gAgg ⟨b_1,0,none⟩ 16 w4 fun x_1=>bnd (C R0 [.agg ⟨x_1⟩] w4) fun r_1 w5=>aStr r_1 fun x_2=>pCells (some (L5 b)) (A0 (List.take (min (ByteArray.size x_2) (ByteArray.size x)) (ByteArray.data x_2).toList)) w5 fun w6=>ckB (fitsOpen (some (L5 b)) A2 w6) (ck ((0:Int)≤192∧192≤((ByteArray.size x:Nat):Int)) (bnd (C A07 [.agg ⟨[.int .i64 3,.int .i64 0,.int .i64 1,.int .i64 0]⟩] w6) fun r_2 w7=>aStr r_2 fun x_3=>ckB (fitsOpen (some (L5 b)) A2 w7) (ck ((0:Int)≤192∧192≤((ByteArray.size x:Nat):Int)) (same (.slice (H0 (some (L5 b)) (decide (Int.toNat 192<ByteArray.size x)) ((Int.toNat 192)*1)) ((ByteArray.size x)-(Int.toNat 192)) ((ByteArray.size x)-(Int.toNat 192))) (.slice (H0 (some (L5 b)) (decide (Int.toNat 192<ByteArray.size x)) ((Int.toNat 192)*1)) ((ByteArray.size x)-(Int.toNat 192)) ((ByteArray.size x)-(Int.toNat 192))) (pCells (H0 (some (L5 b)) (decide (Int.toNat 192<ByteArray.size x)) ((Int.toNat 192)*1)) (A0 (List.take (min (ByteArray.size x_3) ((ByteArray.size x)-(Int.toNat 192))) (ByteArray.data x_3).toList)) w7 fun w8=>some (.slice (some (L5 b)) (ByteArray.size x) (ByteArray.size x),w8)))))))):=by kernel_rfl
def D59:Cuts:={ globs:=0,loops:=[],regs:=[],plans:=[(11,⟨[0,1,2,3,4,5,6,7,8,9,10,11,12,13,14,15,16,17,18,19,20,21,22,23,24,25,26,27,28],[0,0,2,6,0,31,63,127,127,383,895,127,2175,6271,14463,32767,65535,131071,262143,262143,786431,1835007,262143,4456447,12845055,29622271,67108863,134217727,268435455],[],[]⟩),(12,⟨[0,1,2,3,4,5,6,7,8,9,10,11,12,13,14,15,17,16,18,19],[0,1,3,0,8,24,0,64,192,448,0,1024,3072,7168,0,17351,50119,0,262143,524287],[(16,[5,12])],[]⟩),(13,⟨[0,1,7,8,9,10,11,12,13,14,2,3,4,5,6,15,16],[0,1,3,3,3,31,63,0,128,384,0,1024,3072,7168,16256,32767,65535],[(5,[9,12])],[]⟩)] }
def E92:List Item:=A4 Tryz.f11
theorem Ho5 (C:A1) (R:A3) (c:Option Addr) (i:Int) (h:H) :
 A5 PR D59 C R Bv0 Tryz.f11 100000 true E92 [(0,.pointer c),(1,.int .i64 i)] h =
 nw (.cells O4 false [.pointer c]) h fun b w=>nw (.cells N3 false [.int .i64 0,.int .i64 0,.slice none 0 0,.bool false]) w fun b_1 w1=>gPtr ⟨b,0,none⟩ w1 fun x=>bnd (C Ay7 [.pointer x,.int .i64 i] w1) fun r w2=>as2 r fun r_1 r_2=>aAgg r_1 fun x_1=>aInt .i64 r_2 fun x_2=>nw (.cells D7 false [.int .i64 0,.int .i64 0,.int .i64 0,.int .i64 0,.int .i64 0,.int .i64 0,.int .i64 0,.int .i64 0,.int .i64 0,.int .i64 0,.int .i64 0,.int .i64 0,.int .i64 0,.int .i64 0,.int .i64 0,.int .i64 0]) w2 fun b_2 w3=>ck (List.length x_1=16) (pAgg ⟨b_2,0,none⟩ x_1 w3 fun w4=>cond (x_2 != 0)
 (bnd (C S7 [.int .i64 x_2] w4) fun r_3 w5=>aAgg r_3 fun x_3=>ck (List.length x_3=4) (pAgg ⟨b_1,0,none⟩ x_3 w5 fun w6=>gAgg ⟨b_1,0,none⟩ 4 w6 fun x_4=>some (.agg ⟨x_4⟩,w6)))
 (gAgg ⟨b_2,0,none⟩ 16 w4 fun x_5=>bnd (C Bl3 [.agg ⟨x_5⟩,.int .i64 2] w4) fun r_4 w7=>aSl r_4 fun x_6 xn _=>cond (decide (((xn:Nat):Int)<2))
 (bnd (C S7 [.int .i64 124] w7) fun r_5 w8=>aAgg r_5 fun x_7=>ck (List.length x_7=4) (pAgg ⟨b_1,0,none⟩ x_7 w8 fun w9=>gAgg ⟨b_1,0,none⟩ 4 w9 fun x_8=>some (.agg ⟨x_8⟩,w9)))
 (bnd (C W8 [.int .i64 12,.int .i64 2,.func (.func A17) ⟨[]⟩ ⟨[.pointer (some ⟨b,0,none⟩)]⟩] w7) fun r_6 w10=>aSl r_6 fun x_9 xn_1 _=>bnd (C W8 [.int .i64 4,.int .i64 1,.func (.func A42) ⟨[]⟩ ⟨[.pointer (some ⟨b,0,none⟩)]⟩] w10) fun r_7 w11=>aSl r_7 fun x_10 xn_2 _=>bnd (cond (decide (((xn_1:Nat):Int)<2)) (some (true,w11)) (some (((xn_2:Nat):Int)==0,w11))) fun c_1 w12=>cond c_1
 (bnd (C S7 [.int .i64 123] w12) fun r_8 w13=>aAgg r_8 fun x_11=>ck (List.length x_11=4) (pAgg ⟨b_1,0,none⟩ x_11 w13 fun w14=>gAgg ⟨b_1,0,none⟩ 4 w14 fun x_12=>some (.agg ⟨x_12⟩,w14)))
 (gPtr ⟨b,0,none⟩ w12 fun x_13=>aSome x_10 fun p=>ck ((0:Int)≤0∧0<((xn_2:Nat):Int)) (gInt .i64 (Addr.add (A9 p) (Int.toNat 0*1)) w12 fun x_14=>bnd (C U4 [.pointer x_13,.int .i64 x_14,.agg ⟨[.int .i64 0,.int .i64 0,.int .i64 1,.int .i64 1,.int .u8 0,.int .u8 0,.int .u8 0,.int .u8 0,.int .u8 0,.int .u8 0,.int .u8 0,.int .u8 0,.int .u8 0,.int .u8 0,.int .u8 0,.int .u8 0,.int .u8 0,.int .u8 0,.int .u8 0,.int .u8 0,.int .u8 0,.int .u8 0,.int .u8 0,.int .u8 0,.int .u8 0,.int .u8 0,.int .u8 0,.int .u8 0,.int .u8 0,.int .u8 0,.int .u8 0,.int .u8 0,.int .u8 0,.int .u8 0,.int .u8 0,.int .u8 0]⟩] w12) fun r_9 w15=>aBool r_9 fun x_15=>bnd (cond x_15 (gPtr ⟨b,0,none⟩ w15 fun x_16=>aSome x_9 fun p_1=>ck ((0:Int)≤0∧0<((xn_1:Nat):Int)) (gInt .i64 (Addr.add (A9 p_1) (Int.toNat 0*1)) w15 fun x_17=>aSome x_10 fun p_2=>ck ((0:Int)≤0∧0<((xn_2:Nat):Int)) (gInt .i64 (Addr.add (A9 p_2) (Int.toNat 0*1)) w15 fun x_18=>bnd (C H9 [.pointer x_16,.int .i64 x_17,.agg ⟨[.int .i64 1,.int .i64 x_18,.int .i64 1,.int .i64 0]⟩] w15) fun r_10 w16=>aBool r_10 fun x_19=>some (x_19,w16)))) (some (false,w15))) fun c_2 w17=>bnd (cond c_2 (gPtr ⟨b,0,none⟩ w17 fun x_20=>aSome x_9 fun p_3=>ck ((0:Int)≤1∧1<((xn_1:Nat):Int)) (gInt .i64 (Addr.add (A9 p_3) (Int.toNat 1*1)) w17 fun x_21=>aSome x_10 fun p_4=>ck ((0:Int)≤0∧0<((xn_2:Nat):Int)) (gInt .i64 (Addr.add (A9 p_4) (Int.toNat 0*1)) w17 fun x_22=>bnd (C H9 [.pointer x_20,.int .i64 x_21,.agg ⟨[.int .i64 2,.int .i64 x_22,.int .i64 1,.int .i64 0]⟩] w17) fun r_11 w18=>aBool r_11 fun x_23=>some (x_23,w18)))) (some (false,w17))) fun c_3 w19=>aSome x_6 fun p_5=>ck ((0:Int)≤0∧0<((xn:Nat):Int)) (gInt .i64 (Addr.add (A9 p_5) (Int.toNat 0*1)) w19 fun x_24=>aSome x_6 fun p_6=>ck ((0:Int)≤1∧1<((xn:Nat):Int)) (gInt .i64 (Addr.add (A9 p_6) (Int.toNat 1*1)) w19 fun x_25=>aSome x_9 fun p_7=>ck ((0:Int)≤0∧0<((xn_1:Nat):Int)) (gInt .i64 (Addr.add (A9 p_7) (Int.toNat 0*1)) w19 fun x_26=>aSome x_9 fun p_8=>ck ((0:Int)≤1∧1<((xn_1:Nat):Int)) (gInt .i64 (Addr.add (A9 p_8) (Int.toNat 1*1)) w19 fun x_27=>ck ((0:Int)≤x_24∧x_24<((8:Nat):Int)) (pV (Addr.add (Addr.add ⟨b_2,0,none⟩ 8) (Int.toNat x_24*1)) (.int .i64 (IntKind.wrap .i64 (x_26+1))) w19 fun w20=>gInt .i64 (Addr.add (A9 p_6) (Int.toNat 1*1)) w20 fun x_28=>same (.int .i64 x_25) (.int .i64 x_28) (gInt .i64 (Addr.add (A9 p_8) (Int.toNat 1*1)) w20 fun x_29=>same (.int .i64 x_27) (.int .i64 x_29) (ck ((0:Int)≤x_25∧x_25<((8:Nat):Int)) (pV (Addr.add (Addr.add ⟨b_2,0,none⟩ 8) (Int.toNat x_25*1)) (.int .i64 (IntKind.wrap .i64 (x_27+1))) w20 fun w21=>aSome x_6 fun p_9=>ck ((0:Int)≤0∧0<((xn:Nat):Int)) (gInt .i64 (Addr.add (A9 p_9) (Int.toNat 0*1)) w21 fun x_30=>aSome x_6 fun p_10=>ck ((0:Int)≤1∧1<((xn:Nat):Int)) (gInt .i64 (Addr.add (A9 p_10) (Int.toNat 1*1)) w21 fun x_31=>bnd (cond c_3 (gPtr ⟨b,0,none⟩ w21 fun x_32=>gAgg ⟨b_2,0,none⟩ 16 w21 fun x_33=>bnd (C S6 [.pointer x_32,.int .i64 i,.agg ⟨x_33⟩] w21) fun r_12 w22=>aBool r_12 fun x_34=>gInt .i64 (Addr.add (A9 p_9) (Int.toNat 0*1)) w22 fun x_35=>same (.int .i64 x_30) (.int .i64 x_35) (gInt .i64 (Addr.add (A9 p_10) (Int.toNat 1*1)) w22 fun x_36=>same (.int .i64 x_31) (.int .i64 x_36) (some (x_34,w22)))) (some (false,w21))) fun c_4 w23=>bnd (C Bh7 [.bool c_4,.int .i64 (IntKind.wrap .i64 (x_30+(IntKind.wrap .i64 (16*x_31))))] w23) fun r_13 w24=>aAgg r_13 fun x_37=>ck (List.length x_37=4) (pAgg ⟨b_1,0,none⟩ x_37 w24 fun w25=>gAgg ⟨b_1,0,none⟩ 4 w25 fun x_38=>some (.agg ⟨x_38⟩,w25))))))))))))))))):=by kernel_rfl
def Db8:Cuts:={ globs:=0,loops:=[],regs:=[],plans:=[] }
def Ea7:List Item:=A4 Tryz.f13
theorem Gq4 (C:A1) (R:A3) (c:Option Addr) (i:Int) (fd:Int) (b:Option Addr) (bn bc:Nat) (h:H) :
 A5 PR Db8 C R Af1 Tryz.f13 100000 true Ea7 [(0,.pointer c),(1,.int .i64 i),(2,.int .i64 fd),(3,.slice b bn bc)] h =
 nw (.cells N3 false [.int .i64 0,.int .i64 0,.slice none 0 0,.bool false]) h fun b_1 w=>bnd (C Bq2 [.pointer c,.int .i64 i,.int .i64 fd] w) fun r w1=>as3 r fun r_1 r_2 r_3=>aInt .i64 r_1 fun _=>aAgg r_2 fun x_1=>aInt .i64 r_3 fun x_2=>nw (.cells D5 false [.int .i64 0,.int .i64 0,.int .i64 0,.int .i64 0]) w1 fun b_2 w2=>ck (List.length x_1=4) (pAgg ⟨b_2,0,none⟩ x_1 w2 fun w3=>cond (x_2 != 0)
 (bnd (C P1 [.int .i64 x_2] w3) fun r_4 w4=>aAgg r_4 fun x_3=>ck (List.length x_3=4) (pAgg ⟨b_1,0,none⟩ x_3 w4 fun w5=>gAgg ⟨b_1,0,none⟩ 4 w5 fun x_4=>some (.agg ⟨x_4⟩,w5)))
 (gInt .i64 (Addr.add ⟨b_2,0,none⟩ 0) w3 fun x_5=>cond (x_5 != 2)
 (bnd (C P1 [.int .i64 109] w3) fun r_5 w6=>aAgg r_5 fun x_6=>ck (List.length x_6=4) (pAgg ⟨b_1,0,none⟩ x_6 w6 fun w7=>gAgg ⟨b_1,0,none⟩ 4 w7 fun x_7=>some (.agg ⟨x_7⟩,w7)))
 (cond (decide (((bn:Nat):Int)>32))
 (bnd (C P1 [.int .i64 122] w3) fun r_6 w8=>aAgg r_6 fun x_8=>ck (List.length x_8=4) (pAgg ⟨b_1,0,none⟩ x_8 w8 fun w9=>gAgg ⟨b_1,0,none⟩ 4 w9 fun x_9=>some (.agg ⟨x_9⟩,w9)))
 (cond (((bn:Nat):Int)==0)
 (pAgg ⟨b_1,0,none⟩ [.int .i64 0,.int .i64 0,.slice none 0 0,.bool false] w3 fun w10=>gAgg ⟨b_1,0,none⟩ 4 w10 fun x_10=>some (.agg ⟨x_10⟩,w10))
 (gAgg ⟨b_2,0,none⟩ 4 w3 fun x_11=>bnd (C Bx6 [.pointer c,.agg ⟨x_11⟩] w3) fun r_7 w11=>as2 r_7 fun r_8 r_9=>aAgg r_8 fun x_12=>aBool r_9 fun x_13=>nw (.cells Bw4 false [.int .i64 0,.int .i64 0,.int .i64 0,.int .i64 0,.int .u8 0,.int .u8 0,.int .u8 0,.int .u8 0,.int .u8 0,.int .u8 0,.int .u8 0,.int .u8 0,.int .u8 0,.int .u8 0,.int .u8 0,.int .u8 0,.int .u8 0,.int .u8 0,.int .u8 0,.int .u8 0,.int .u8 0,.int .u8 0,.int .u8 0,.int .u8 0,.int .u8 0,.int .u8 0,.int .u8 0,.int .u8 0,.int .u8 0,.int .u8 0,.int .u8 0,.int .u8 0,.int .u8 0,.int .u8 0,.int .u8 0,.int .u8 0,.nilFunc]) w11 fun b_3 w12=>ck (List.length x_12=37) (pAgg ⟨b_3,0,none⟩ x_12 w12 fun w13=>cond (!x_13)
 (bnd (C P1 [.int .i64 105] w13) fun r_10 w14=>aAgg r_10 fun x_14=>ck (List.length x_14=4) (pAgg ⟨b_1,0,none⟩ x_14 w14 fun w15=>gAgg ⟨b_1,0,none⟩ 4 w15 fun x_15=>some (.agg ⟨x_15⟩,w15)))
 (gInt .i64 (Addr.add (Addr.add ⟨b_3,0,none⟩ 0) 2) w13 fun x_16=>cond (x_16==0)
 (bnd (C Gh2 [.pointer c,.int .i64 i] w13) fun r_11 w16=>aAgg r_11 fun x_17=>ck (List.length x_17=4) (pAgg ⟨b_1,0,none⟩ x_17 w16 fun w17=>gAgg ⟨b_1,0,none⟩ 4 w17 fun x_18=>some (.agg ⟨x_18⟩,w17)))
 (gInt .i64 (Addr.add (Addr.add ⟨b_3,0,none⟩ 0) 1) w13 fun x_19=>bnd (cond ((IntKind.wrap .i64 (32-x_19))==0) (some (true,w13)) (bnd (cond (decide (((bn:Nat):Int)≤8)) (some (decide ((IntKind.wrap .i64 (32-x_19))<((bn:Nat):Int)),w13)) (some (false,w13))) fun c_1 w18=>some (c_1,w18))) fun c_2 w19=>cond c_2
 (gAgg ⟨b_2,0,none⟩ 4 w19 fun x_20=>bnd (C Au4 [.agg ⟨x_20⟩] w19) fun r_12 w20=>aAgg r_12 fun x_21=>ck (List.length x_21=4) (pAgg ⟨b_1,0,none⟩ x_21 w20 fun w21=>gAgg ⟨b_1,0,none⟩ 4 w21 fun x_22=>some (.agg ⟨x_22⟩,w21)))
 (gAgg (Addr.add ⟨b_3,0,none⟩ 0) 36 w19 fun x_23=>bnd (C Ao2 [.agg ⟨x_23⟩,.slice b bn bc] w19) fun r_13 w22=>as2 r_13 fun r_14 r_15=>aAgg r_14 fun x_24=>aInt .i64 r_15 fun x_25=>nw (.cells D0 false [.int .i64 0,.int .i64 0,.int .i64 0,.int .i64 0,.int .u8 0,.int .u8 0,.int .u8 0,.int .u8 0,.int .u8 0,.int .u8 0,.int .u8 0,.int .u8 0,.int .u8 0,.int .u8 0,.int .u8 0,.int .u8 0,.int .u8 0,.int .u8 0,.int .u8 0,.int .u8 0,.int .u8 0,.int .u8 0,.int .u8 0,.int .u8 0,.int .u8 0,.int .u8 0,.int .u8 0,.int .u8 0,.int .u8 0,.int .u8 0,.int .u8 0,.int .u8 0,.int .u8 0,.int .u8 0,.int .u8 0,.int .u8 0]) w22 fun b_4 w23=>ck (List.length x_24=36) (pAgg ⟨b_4,0,none⟩ x_24 w23 fun w24=>gFv (Addr.add ⟨b_3,0,none⟩ 36) w24 fun x_26=>gAgg ⟨b_4,0,none⟩ 36 w24 fun x_27=>aFn x_26 fun g fi cp=>bnd (C g (fi++([.agg ⟨x_27⟩]++cp)) w24) fun r_16 w25=>aBool r_16 fun x_28=>cond (!x_28)
 (bnd (C P1 [.int .i64 105] w25) fun r_17 w26=>aAgg r_17 fun x_29=>ck (List.length x_29=4) (pAgg ⟨b_1,0,none⟩ x_29 w26 fun w27=>gAgg ⟨b_1,0,none⟩ 4 w27 fun x_30=>some (.agg ⟨x_30⟩,w27)))
 (pAgg ⟨b_1,0,none⟩ [.int .i64 x_25,.int .i64 0,.slice none 0 0,.bool false] w25 fun w28=>gAgg ⟨b_1,0,none⟩ 4 w28 fun x_31=>some (.agg ⟨x_31⟩,w28)))))))))))):=by kernel_rfl
def Dk0:Cuts:={ globs:=0,loops:=[],regs:=[],plans:=[] }
def Ek7:List Item:=A4 Tryz.f23
theorem Gz6 (C:A1) (R:A3) (p:List Value) (h:H) :
 A5 PR Dk0 C R Bf6 Tryz.f23 100000 true Ek7 [(0,.agg ⟨p⟩)] h =
 nw (.cells By3 false p) h fun b w=>gAgg ⟨b,0,none⟩ 3 w fun x=>bnd (C I9 [.agg ⟨x⟩] w) fun r w1=>aAgg r fun x_1=>nw (.cells E0 false [.slice none 0 0,.slice none 0 0,.slice none 0 0,.int .i64 0,.slice none 0 0]) w1 fun b_1 w2=>ck (List.length x_1=5) (pAgg ⟨b_1,0,none⟩ x_1 w2 fun w3=>gAgg ⟨b_1,0,none⟩ 5 w3 fun x_2=>bnd (C H5 [.agg ⟨x_2⟩] w3) fun r_1 w4=>as2 r_1 fun r_2 r_3=>aPtr r_2 fun x_3=>aInt .i64 r_3 fun x_4=>bnd (cond x_3.isNone (some (true,w4)) (some (x_4 != 0,w4))) fun c w5=>cond c
 (some (.tuple ⟨[.pointer none,.pointer none,.pointer none,.pointer none]⟩,w5))
 (gAgg ⟨b_1,0,none⟩ 5 w5 fun x_5=>bnd (C G2 [.agg ⟨x_5⟩] w5) fun r_4 w6=>aPtr r_4 fun x_6=>bnd (C Bo0 [.pointer x_3,.int .i64 0] w6) fun r_5 w7=>as2 r_5 fun r_6 r_7=>aPtr r_6 fun x_7=>aInt .i64 r_7 fun x_8=>bnd (cond x_7.isNone (some (true,w7)) (some (x_8 != 0,w7))) fun c_1 w8=>cond c_1
 (some (.tuple ⟨[.pointer none,.pointer none,.pointer none,.pointer none]⟩,w8))
 (bnd (C A97 [] w8) fun r_8 w9=>aStr r_8 fun x_9=>ck (ByteArray.size x_9≤A8) (nw (.cells A2 false (A0 (ByteArray.data x_9).toList)) w9 fun b_2 w10=>bnd (C Q5 [.pointer x_3,.int .i64 0,.agg ⟨[.int .i64 2,.int .i64 256,.int .i64 0,.int .i64 0,.int .i64 0,.int .i64 0,.slice (some (L5 b_2)) (ByteArray.size x_9) (ByteArray.size x_9)]⟩] w10) fun r_9 w11=>aAgg r_9 fun x_10=>nth x_10 0 fun E=>aInt .i64 E fun E_1=>cond (E_1 != 0)
 (some (.tuple ⟨[.pointer none,.pointer none,.pointer none,.pointer none]⟩,w11))
 (ck (ByteArray.size x_9≤A8) (nw (.cells A2 false (A0 (ByteArray.data x_9).toList)) w11 fun b_3 w12=>bnd (C Aq4 [.pointer x_6,.int .i64 0,.agg ⟨[.int .i64 2,.int .i64 256,.int .i64 0,.int .i64 0,.int .i64 0,.int .i64 0,.slice (some (L5 b_3)) (ByteArray.size x_9) (ByteArray.size x_9)]⟩] w12) fun r_10 w13=>as3 r_10 fun r_11 r_12 r_13=>aInt .i64 r_11 fun _=>aInt .i64 r_12 fun _=>aStr r_13 fun _=>bnd (C Ax3 [.pointer x_6,.int .i64 0] w13) fun r_14 w14=>aPtr r_14 fun x_14=>some (.tuple ⟨[.pointer x_3,.pointer x_7,.pointer x_6,.pointer x_14]⟩,w14))))))):=by kernel_rfl
def Db1:Cuts:={ globs:=0,loops:=[],regs:=[],plans:=[(1,⟨[0,1,2,3,4,5,6,7],[0,1,0,4,15,12,63,127],[(3,[1]),(5,[1])],[]⟩)] }
def Ec3:List Item:=A4 Tryz.f28
theorem Go0 (C:A1) (R:A3)  (h:H) :
 A5 PR Db1 C R A97 Tryz.f28 100000 true Ec3 [] h =
 ck ((0:Int)≤448∧(448:Int)≤448∧448≤(A8:Int)) (nw (.cells A2 false (I1 (Int.toNat 448) [.int .u8 0])) h fun b w=>gCells (some ⟨b,0,none⟩) (Int.toNat 448) w fun cs=>asBytes cs fun l=>bnd (C O8 [.agg ⟨[.int .i64 0,.int .i64 0,.int .i64 1,.int .i64 1,.int .u8 0,.int .u8 0,.int .u8 0,.int .u8 0,.int .u8 0,.int .u8 0,.int .u8 0,.int .u8 0,.int .u8 0,.int .u8 0,.int .u8 0,.int .u8 0,.int .u8 0,.int .u8 0,.int .u8 0,.int .u8 0,.int .u8 0,.int .u8 0,.int .u8 0,.int .u8 0,.int .u8 0,.int .u8 0,.int .u8 0,.int .u8 0,.int .u8 0,.int .u8 0,.int .u8 0,.int .u8 0,.int .u8 0,.int .u8 0,.int .u8 0,.int .u8 0]⟩] w) fun r w1=>aStr r fun x=>gCells (some ⟨b,0,none⟩) (Int.toNat 448) w1 fun cs_1=>asBytes cs_1 fun l_1=>same (.string (ByteArray.mk ⟨l⟩)) (.string (ByteArray.mk ⟨l_1⟩)) (ck (ByteArray.size (ByteArray.mk ⟨l⟩)+ByteArray.size x≤A8) (bnd (C Ax0 [.int .i64 0] w1) fun r_1 w2=>aStr r_1 fun x_1=>gCells (some ⟨b,0,none⟩) (Int.toNat 448) w2 fun cs_2=>asBytes cs_2 fun l_2=>same (.string (ByteArray.mk ⟨l⟩)) (.string (ByteArray.mk ⟨l_2⟩)) (ck (ByteArray.size ((ByteArray.mk ⟨l⟩)++x)+ByteArray.size x_1≤A8) (some (.string (((ByteArray.mk ⟨l⟩)++x)++x_1),w2)))))):=by kernel_rfl
def Ay8:Cuts:={ globs:=0,loops:=[],regs:=[],plans:=[] }
def Bn0:List Item:=A4 Tryz.f37
theorem Dv4 (C:A1) (R:A3) (c:Option Addr) (i:Int) (h:H) :
 A5 PR Ay8 C R Q7 Tryz.f37 100000 true Bn0 [(0,.pointer c),(1,.int .i64 i)] h =
 nw (.cells D0 false [.int .i64 0,.int .i64 0,.int .i64 0,.int .i64 0,.int .u8 0,.int .u8 0,.int .u8 0,.int .u8 0,.int .u8 0,.int .u8 0,.int .u8 0,.int .u8 0,.int .u8 0,.int .u8 0,.int .u8 0,.int .u8 0,.int .u8 0,.int .u8 0,.int .u8 0,.int .u8 0,.int .u8 0,.int .u8 0,.int .u8 0,.int .u8 0,.int .u8 0,.int .u8 0,.int .u8 0,.int .u8 0,.int .u8 0,.int .u8 0,.int .u8 0,.int .u8 0,.int .u8 0,.int .u8 0,.int .u8 0,.int .u8 0]) h fun b w=>bnd (C A29 [.int .i64 i] w) fun r w1=>aAgg r fun x=>bnd (C I0 [.pointer c,.agg ⟨x⟩,.func (.func Au1) ⟨[]⟩ ⟨[]⟩] w1) fun r_1 w2=>as2 r_1 fun r_2 r_3=>aAgg r_2 fun x_1=>aInt .i64 r_3 fun x_2=>ck (List.length x_1=36) (pAgg ⟨b,0,none⟩ x_1 w2 fun w3=>gAgg ⟨b,0,none⟩ 36 w3 fun x_3=>some (.tuple ⟨[.agg ⟨x_3⟩,.int .i64 x_2]⟩,w3)):=by kernel_rfl
def D82:Cuts:={ globs:=0,loops:=[],regs:=[],plans:=[] }
def Ga2:List Item:=A4 Tryz.f40
theorem Hn3 (C:A1) (R:A3) (ok:Bool) (n:Int) (h:H) :
 A5 PR D82 C R Bh7 Tryz.f40 100000 true Ga2 [(0,.bool ok),(1,.int .i64 n)] h =
 nw (.cells N3 false [.int .i64 0,.int .i64 0,.slice none 0 0,.bool false]) h fun b w=>cond (!ok)
 (bnd (C S7 [.int .i64 105] w) fun r w1=>aAgg r fun x=>ck (List.length x=4) (pAgg ⟨b,0,none⟩ x w1 fun w2=>gAgg ⟨b,0,none⟩ 4 w2 fun x_1=>some (.agg ⟨x_1⟩,w2)))
 (pAgg ⟨b,0,none⟩ [.int .i64 n,.int .i64 0,.slice none 0 0,.bool false] w fun w3=>gAgg ⟨b,0,none⟩ 4 w3 fun x_2=>some (.agg ⟨x_2⟩,w3)):=by kernel_rfl
def D89:Cuts:={ globs:=0,loops:=[],regs:=[],plans:=[] }
def E72:List Item:=A4 Tryz.f44
theorem Hi6 (C:A1) (R:A3) (c:Option Addr) (f:List Value) (h:H) :
 A5 PR D89 C R Bx6 Tryz.f44 100000 true E72 [(0,.pointer c),(1,.agg ⟨f⟩)] h =
 nw (.cells O4 false [.pointer c]) h fun b w=>nw (.cells D5 false f) w fun b_1 w1=>nw (.cells Bw4 false [.int .i64 0,.int .i64 0,.int .i64 0,.int .i64 0,.int .u8 0,.int .u8 0,.int .u8 0,.int .u8 0,.int .u8 0,.int .u8 0,.int .u8 0,.int .u8 0,.int .u8 0,.int .u8 0,.int .u8 0,.int .u8 0,.int .u8 0,.int .u8 0,.int .u8 0,.int .u8 0,.int .u8 0,.int .u8 0,.int .u8 0,.int .u8 0,.int .u8 0,.int .u8 0,.int .u8 0,.int .u8 0,.int .u8 0,.int .u8 0,.int .u8 0,.int .u8 0,.int .u8 0,.int .u8 0,.int .u8 0,.int .u8 0,.nilFunc]) w1 fun b_2 w2=>gInt .i64 (Addr.add ⟨b_1,0,none⟩ 0) w2 fun x=>cond (x==3)
 (gPtr ⟨b,0,none⟩ w2 fun x_1=>bnd (C Q3 [.pointer x_1] w2) fun r w3=>as2 r fun r_1 r_2=>aAgg r_1 fun x_2=>aInt .i64 r_2 fun x_3=>nw (.cells D0 false [.int .i64 0,.int .i64 0,.int .i64 0,.int .i64 0,.int .u8 0,.int .u8 0,.int .u8 0,.int .u8 0,.int .u8 0,.int .u8 0,.int .u8 0,.int .u8 0,.int .u8 0,.int .u8 0,.int .u8 0,.int .u8 0,.int .u8 0,.int .u8 0,.int .u8 0,.int .u8 0,.int .u8 0,.int .u8 0,.int .u8 0,.int .u8 0,.int .u8 0,.int .u8 0,.int .u8 0,.int .u8 0,.int .u8 0,.int .u8 0,.int .u8 0,.int .u8 0,.int .u8 0,.int .u8 0,.int .u8 0,.int .u8 0]) w3 fun b_3 w4=>ck (List.length x_2=36) (pAgg ⟨b_3,0,none⟩ x_2 w4 fun w5=>gAgg ⟨b_3,0,none⟩ 36 w5 fun x_4=>gPtr ⟨b,0,none⟩ w5 fun x_5=>ck (List.length x_4=36) (ck (List.length (x_4++[.func (.func O1) ⟨[.pointer x_5]⟩ ⟨[]⟩])=37) (pAgg ⟨b_2,0,none⟩ (x_4++[.func (.func O1) ⟨[.pointer x_5]⟩ ⟨[]⟩]) w5 fun w6=>gAgg ⟨b_2,0,none⟩ 37 w6 fun x_6=>some (.tuple ⟨[.agg ⟨x_6⟩,.bool (x_3==1)]⟩,w6)))))
 (gPtr ⟨b,0,none⟩ w2 fun x_7=>gInt .i64 (Addr.add ⟨b_1,0,none⟩ 1) w2 fun x_8=>bnd (C Q7 [.pointer x_7,.int .i64 x_8] w2) fun r_3 w7=>as2 r_3 fun r_4 r_5=>aAgg r_4 fun x_9=>aInt .i64 r_5 fun x_10=>nw (.cells D0 false [.int .i64 0,.int .i64 0,.int .i64 0,.int .i64 0,.int .u8 0,.int .u8 0,.int .u8 0,.int .u8 0,.int .u8 0,.int .u8 0,.int .u8 0,.int .u8 0,.int .u8 0,.int .u8 0,.int .u8 0,.int .u8 0,.int .u8 0,.int .u8 0,.int .u8 0,.int .u8 0,.int .u8 0,.int .u8 0,.int .u8 0,.int .u8 0,.int .u8 0,.int .u8 0,.int .u8 0,.int .u8 0,.int .u8 0,.int .u8 0,.int .u8 0,.int .u8 0,.int .u8 0,.int .u8 0,.int .u8 0,.int .u8 0]) w7 fun b_4 w8=>ck (List.length x_9=36) (pAgg ⟨b_4,0,none⟩ x_9 w8 fun w9=>gAgg ⟨b_4,0,none⟩ 36 w9 fun x_11=>ck (List.length x_11=36) (ck (List.length (x_11++[.func (.func A33) ⟨[]⟩ ⟨[.pointer (some ⟨b,0,none⟩),.pointer (some ⟨b_1,0,none⟩)]⟩])=37) (pAgg ⟨b_2,0,none⟩ (x_11++[.func (.func A33) ⟨[]⟩ ⟨[.pointer (some ⟨b,0,none⟩),.pointer (some ⟨b_1,0,none⟩)]⟩]) w9 fun w10=>gAgg ⟨b_2,0,none⟩ 37 w10 fun x_12=>some (.tuple ⟨[.agg ⟨x_12⟩,.bool (x_10==1)]⟩,w10))))):=by kernel_rfl
def Dv8:Cuts:={ globs:=0,loops:=[],regs:=[],plans:=[(9,⟨[0,1,2,3,4,5],[0,0,0,6,15,31],[(3,[0])],[]⟩)] }
def Eu8:List Item:=A4 Tryz.f48
theorem Hc8 (C:A1) (R:A3) (c:Option Addr) (i:Int) (fd:Int) (n:Int) (h:H) :
 A5 PR Dv8 C R B59 Tryz.f48 100000 true Eu8 [(0,.pointer c),(1,.int .i64 i),(2,.int .i64 fd),(3,.int .i64 n)] h =
 nw (.cells D5 false [.int .i64 0,.int .i64 0,.int .i64 0,.int .i64 0]) h fun b w=>bnd (C Bq2 [.pointer c,.int .i64 i,.int .i64 fd] w) fun r w1=>as3 r fun r_1 r_2 r_3=>aInt .i64 r_1 fun _=>aAgg r_2 fun x_1=>aInt .i64 r_3 fun x_2=>nw (.cells D5 false [.int .i64 0,.int .i64 0,.int .i64 0,.int .i64 0]) w1 fun b_1 w2=>ck (List.length x_1=4) (pAgg ⟨b_1,0,none⟩ x_1 w2 fun w3=>cond (x_2 != 0)
 (gAgg ⟨b_1,0,none⟩ 4 w3 fun x_3=>ck (List.length x_3=4) (pAgg ⟨b,0,none⟩ x_3 w3 fun w4=>gAgg ⟨b,0,none⟩ 4 w4 fun x_4=>some (.tuple ⟨[.agg ⟨x_4⟩,.int .i64 x_2]⟩,w4)))
 (gInt .i64 (Addr.add ⟨b_1,0,none⟩ 0) w3 fun x_5=>cond (x_5==2)
 (gAgg ⟨b_1,0,none⟩ 4 w3 fun x_6=>ck (List.length x_6=4) (pAgg ⟨b,0,none⟩ x_6 w3 fun w5=>gAgg ⟨b,0,none⟩ 4 w5 fun x_7=>some (.tuple ⟨[.agg ⟨x_7⟩,.int .i64 109]⟩,w5)))
 (bnd (cond (decide (n<0)) (some (true,w3)) (some (decide (n>32),w3))) fun c_1 w6=>cond c_1
 (gAgg ⟨b_1,0,none⟩ 4 w6 fun x_8=>ck (List.length x_8=4) (pAgg ⟨b,0,none⟩ x_8 w6 fun w7=>gAgg ⟨b,0,none⟩ 4 w7 fun x_9=>some (.tuple ⟨[.agg ⟨x_9⟩,.int .i64 122]⟩,w7)))
 (gInt .i64 (Addr.add ⟨b_1,0,none⟩ 0) w6 fun x_10=>cond (x_10==3)
 (gAgg ⟨b_1,0,none⟩ 4 w6 fun x_11=>bnd (C Go2 [.pointer c,.int .i64 i] w6) fun r_4 w8=>aInt .i64 r_4 fun x_12=>gAgg ⟨b_1,0,none⟩ 4 w8 fun x_13=>same (.agg ⟨x_11⟩) (.agg ⟨x_13⟩) (ck (List.length x_11=4) (pAgg ⟨b,0,none⟩ x_11 w8 fun w9=>gAgg ⟨b,0,none⟩ 4 w9 fun x_14=>some (.tuple ⟨[.agg ⟨x_14⟩,.int .i64 x_12]⟩,w9))))
 (gAgg ⟨b_1,0,none⟩ 4 w6 fun x_15=>ck (List.length x_15=4) (pAgg ⟨b,0,none⟩ x_15 w6 fun w10=>gAgg ⟨b,0,none⟩ 4 w10 fun x_16=>some (.tuple ⟨[.agg ⟨x_16⟩,.int .i64 0]⟩,w10))))))):=by kernel_rfl
def Dw5:Cuts:={ globs:=0,loops:=[],regs:=[],plans:=[] }
def Ex5:List Item:=A4 Tryz.f57
theorem G66 (C:A1) (R:A3) (p:List Value) (fd:Int) (h:H) :
 A5 PR Dw5 C R B57 Tryz.f57 100000 true Ex5 [(0,.agg ⟨p⟩),(1,.int .i64 fd)] h =
 nw (.cells D7 false p) h fun b w=>bnd (cond (decide (fd≥0)) (some (decide (fd<8),w)) (some (false,w))) fun c w1=>bnd (cond c (ck ((0:Int)≤fd∧fd<((8:Nat):Int)) (gInt .i64 (Addr.add (Addr.add ⟨b,0,none⟩ 8) (Int.toNat fd*1)) w1 fun x=>some (decide (x>0),w1))) (some (false,w1))) fun c_1 w2=>some (.bool c_1,w2):=by kernel_rfl
def Ay6:Cuts:={ globs:=0,loops:=[],regs:=[],plans:=[] }
def Bn3:List Item:=A4 Tryz.f60
theorem Dv9 (C:A1) (R:A3) (c:Option Addr) (i:Int) (h:H) :
 A5 PR Ay6 C R Aa0 Tryz.f60 100000 true Bn3 [(0,.pointer c),(1,.int .i64 i)] h =
 nw (.cells D7 false [.int .i64 0,.int .i64 0,.int .i64 0,.int .i64 0,.int .i64 0,.int .i64 0,.int .i64 0,.int .i64 0,.int .i64 0,.int .i64 0,.int .i64 0,.int .i64 0,.int .i64 0,.int .i64 0,.int .i64 0,.int .i64 0]) h fun b w=>bnd (C A26 [.int .i64 i] w) fun r w1=>aAgg r fun x=>bnd (C J9 [.pointer c,.agg ⟨x⟩,.func (.func A34) ⟨[]⟩ ⟨[]⟩] w1) fun r_1 w2=>as2 r_1 fun r_2 r_3=>aAgg r_2 fun x_1=>aInt .i64 r_3 fun x_2=>ck (List.length x_1=16) (pAgg ⟨b,0,none⟩ x_1 w2 fun w3=>gAgg ⟨b,0,none⟩ 16 w3 fun x_3=>some (.tuple ⟨[.agg ⟨x_3⟩,.int .i64 x_2]⟩,w3)):=by kernel_rfl
def Dd3:Cuts:={ globs:=0,loops:=[(3,[0,3,4])],regs:=[],plans:=[] }
def D47:List Item:=A4 Tryz.f73
def Bo6:List Item:=stk [0,1,0,1,0,0,1,4,5] D47
theorem Hm7 (C:A1) (R:A3) (b:ByteArray) (h:H) :
 A5 PR Dd3 C R Ad4 Tryz.f73 100000 true D47 [(0,.string b)] h =
 R Ad4 Bo6 [(0,.string b),(3,.int .i64 ((ByteArray.size b:Nat):Int)),(4,.int .i64 0)] h:=by kernel_rfl
theorem Eb6 (C:A1) (R:A3) (b:ByteArray) (n:Int) (i:Int) (h:H) :
 A5 PR Dd3 C R Ad4 Tryz.f73 100000 true Bo6 [(0,.string b),(3,.int .i64 n),(4,.int .i64 i)] h =
 cond (decide (i<((ByteArray.size b:Nat):Int)))
 (ck ((0:Int)≤i∧i<((ByteArray.size b:Nat):Int)) (R Ad4 Bo6 [(0,.string b),(3,.int .i64 (IntKind.wrap .i64 (n+(IntKind.wrap .i64 (((List.getD (ByteArray.data b).toList (Int.toNat i) 0).toNat:Int)))))),(4,.int .i64 (IntKind.wrap .i64 (i+1)))] h))
 (some (.int .u8 (IntKind.wrap .u8 (n)),h)):=by kernel_rfl
def Bf8:Cuts:={ globs:=0,loops:=[],regs:=[],plans:=[(3,⟨[0,1,2,3,4,5,6,7,8,9,10,11,12,13,14,15,16,17,18,19],[0,1,3,7,0,0,32,0,128,0,512,0,2048,0,8192,32767,65535,65535,262143,524287],[],[]⟩),(5,⟨[0,1,2,3,4,5,6,7,8,9,10,11],[0,1,3,7,0,0,32,127,255,255,1023,2047],[],[]⟩),(7,⟨[0,1,2,3,4,5,6,7,8,9,10,11,12,13,14,15],[0,1,3,7,0,16,48,112,0,496,1008,2047,4095,4095,16383,32767],[],[]⟩),(9,⟨[0,1,2,3,4,5,6,7,8,9,10,11,12,13,14,15],[0,1,3,7,0,16,48,112,0,496,1008,0,2048,8191,16383,32767],[],[]⟩)] }
def B82:List Item:=A4 Tryz.f75
theorem Ek5 (C:A1) (R:A3) (k:Option Addr) (env:Int) (c:List Value) (h:H) :
 A5 PR Bf8 C R Ax1 Tryz.f75 100000 true B82 [(0,.pointer k),(1,.int .i64 env),(2,.agg ⟨c⟩)] h =
 nw (.cells Aw7 false c) h fun b w=>gInt .i64 (Addr.add ⟨b,0,none⟩ 0) w fun x=>cond (x==4)
 (aSome k fun p=>gPtr (Addr.add p 3) w fun x_1=>gInt .i64 (Addr.add ⟨b,0,none⟩ 1) w fun x_2=>gInt .i64 (Addr.add ⟨b,0,none⟩ 4) w fun x_3=>gInt .i64 (Addr.add ⟨b,0,none⟩ 5) w fun x_4=>gInt .i64 (Addr.add ⟨b,0,none⟩ 2) w fun x_5=>gInt .i64 (Addr.add ⟨b,0,none⟩ 3) w fun x_6=>bnd (C Aw4 [.pointer x_1,.int .i64 env,.int .i64 x_2,.int .i64 x_3,.int .i64 x_4,.int .i64 x_5,.int .i64 x_6] w) fun r w1=>as2 r fun r_1 r_2=>aInt .i64 r_1 fun x_7=>aInt .i64 r_2 fun x_8=>some (.tuple ⟨[.int .i64 x_7,.int .i64 x_8]⟩,w1))
 (cond (x==5)
 (aSome k fun p_1=>gPtr (Addr.add p_1 3) w fun x_9=>gInt .i64 (Addr.add ⟨b,0,none⟩ 1) w fun x_10=>bnd (C Ed3 [.pointer x_9,.int .i64 env,.int .i64 x_10] w) fun r_3 w2=>as2 r_3 fun r_4 r_5=>aInt .i64 r_4 fun x_11=>aInt .i64 r_5 fun x_12=>some (.tuple ⟨[.int .i64 x_11,.int .i64 x_12]⟩,w2))
 (cond (x==6)
 (aSome k fun p_2=>gPtr (Addr.add p_2 4) w fun x_13=>aSome k fun p_3=>gSl (Addr.add p_3 0) w fun x_14 xn _=>aSome x_14 fun p_4=>ck ((0:Int)≤env∧env<((xn:Nat):Int)) (gInt .i64 (Addr.add (A9 p_4) (Int.toNat env*1)) w fun x_15=>bnd (C At0 [.pointer x_13,.int .i64 x_15] w) fun r_6 w3=>as2 r_6 fun r_7 r_8=>aInt .i64 r_7 fun x_16=>aInt .i64 r_8 fun x_17=>some (.tuple ⟨[.int .i64 x_16,.int .i64 x_17]⟩,w3)))
 (cond (x==7)
 (aSome k fun p_5=>gPtr (Addr.add p_5 4) w fun x_18=>aSome k fun p_6=>gSl (Addr.add p_6 0) w fun x_19 xn_1 _=>aSome x_19 fun p_7=>ck ((0:Int)≤env∧env<((xn_1:Nat):Int)) (gInt .i64 (Addr.add (A9 p_7) (Int.toNat env*1)) w fun x_20=>gInt .i64 (Addr.add ⟨b,0,none⟩ 3) w fun x_21=>bnd (C Aw8 [.pointer x_18,.int .i64 x_20,.int .i64 x_21] w) fun r_9 w4=>aInt .i64 r_9 fun x_22=>some (.tuple ⟨[.int .i64 0,.int .i64 x_22]⟩,w4)))
 (cond (x==8)
 (gAgg ⟨b,0,none⟩ 7 w fun x_23=>bnd (C A11 [.pointer k,.int .i64 env,.agg ⟨x_23⟩] w) fun r_10 w5=>as2 r_10 fun r_11 r_12=>aInt .i64 r_11 fun x_24=>aInt .i64 r_12 fun x_25=>some (.tuple ⟨[.int .i64 x_24,.int .i64 x_25]⟩,w5))
 (cond (x==9)
 (gAgg ⟨b,0,none⟩ 7 w fun x_26=>bnd (C A03 [.pointer k,.int .i64 env,.agg ⟨x_26⟩] w) fun r_13 w6=>aInt .i64 r_13 fun x_27=>some (.tuple ⟨[.int .i64 0,.int .i64 x_27]⟩,w6))
 (cond (x==10)
 (aSome k fun p_8=>gInt .i64 (Addr.add p_8 7) w fun x_28=>some (.tuple ⟨[.int .i64 x_28,.int .i64 0]⟩,w))
 (some (.tuple ⟨[.int .i64 0,.int .i64 7]⟩,w)))))))):=by kernel_rfl
def D46:Cuts:={ globs:=0,loops:=[],regs:=[],plans:=[] }
def E97:List Item:=A4 Tryz.f87
theorem Ho3 (C:A1) (R:A3) (n:Int) (h:H) :
 A5 PR D46 C R A76 Tryz.f87 100000 true E97 [(0,.int .i64 n)] h =
 nw (.cells A2 false [.int .u8 (IntKind.wrap .u8 (Int.fdiv n (2 ^ 8))),.int .u8 (IntKind.wrap .u8 (n))]) h fun b w=>gCells (some ⟨b,0,none⟩) 2 w fun cs=>asBytes cs fun l=>some (.string (ByteArray.mk ⟨l⟩),w):=by kernel_rfl
def Ac2:Cuts:={ globs:=0,loops:=[],regs:=[(8,[6,8,11,12])],plans:=[(7,⟨[0,1,2,3,4,5,6,7,8,9],[0,1,3,7,0,31,63,31,159,511],[(7,[5])],[]⟩)] }
def Am5:List Item:=A4 Tryz.f89
def Ah2:List Item:=stk [0,1,0,1,0,1,0,1,0,1,0,1,0,0] Am5
theorem Dh3 (C:A1) (R:A3) (c:Option Addr) (r:List Value) (decode:Value) (h:H) :
 A5 PR Ac2 C R J8 Tryz.f89 100000 true Am5 [(0,.pointer c),(1,.agg ⟨r⟩),(2,decode)] h =
 nw (.cells E1 false r) h fun b w=>nw (.cells D5 false [.int .i64 0,.int .i64 0,.int .i64 0,.int .i64 0]) w fun b_1 w1=>nw (.cells D5 false [.int .i64 0,.int .i64 0,.int .i64 0,.int .i64 0]) w1 fun b_2 w2=>gAgg ⟨b,0,none⟩ 2 w2 fun x=>bnd (C N6 [.pointer c,.agg ⟨x⟩] w2) fun r_1 w3=>as2 r_1 fun r_2 r_3=>aSl r_2 fun x_1 xn xc=>aBool r_3 fun x_2=>cond (!x_2)
 (gAgg ⟨b_2,0,none⟩ 4 w3 fun x_3=>ck (List.length x_3=4) (pAgg ⟨b_1,0,none⟩ x_3 w3 fun w4=>gAgg ⟨b_1,0,none⟩ 4 w4 fun x_4=>some (.tuple ⟨[.agg ⟨x_4⟩,.int .i64 2]⟩,w4)))
 (aFn decode fun g fi cp=>bnd (C g (fi++([.slice x_1 xn xc]++cp)) w3) fun r_4 w5=>as2 r_4 fun r_5 r_6=>aAgg r_5 fun x_5=>aInt .i64 r_6 fun x_6=>nw (.cells D5 false [.int .i64 0,.int .i64 0,.int .i64 0,.int .i64 0]) w5 fun b_3 w6=>ck (List.length x_5=4) (pAgg ⟨b_3,0,none⟩ x_5 w6 fun w7=>cond (x_6==2)
 (aSome c fun p=>gMap (Addr.add p 3) w7 fun x_7=>gAgg ⟨b,0,none⟩ 2 w7 fun x_8=>keyN PR E1 (.agg ⟨x_8⟩) (opt x_7 fun r_7=>mapAt w7 r_7 fun es _=>opt (Ak4 (.int .i64 0) (.agg ⟨x_8⟩) es) fun f=>aInt .i64 f.1 fun x_9=>keyN PR E1 (.agg ⟨x_8⟩) (opt x_7 fun r_8=>mapAt w7 r_8 fun es_1 cl_1=>opt (Dw4 (.int .i64 0) (.agg ⟨x_8⟩) es_1 cl_1) fun f_1=>aInt .i64 f_1.1 fun _=>lt (H.set w7 r_8 f_1.2.2) fun w8=>keyN PR E1 (.agg ⟨x_8⟩) (opt x_7 fun r_9=>mapAt w8 r_9 fun es_2 _=>opt (Ak4 (.int .i64 0) (.agg ⟨x_8⟩) es_2) fun f_2=>aInt .i64 f_2.1 fun x_11=>same (.int .i64 x_9) (.int .i64 x_11) (opt x_7 fun r_10=>mapAt w8 r_10 fun es_3 cl_3=>opt (Bh9 (f_1.2.1:Int) es_3 0) fun i=>lt (H.set w8 r_10 (.map (modN (fun e=>{ e with val:=.int .i64 (IntKind.wrap .i64 (x_9+1)) }) i es_3) cl_3)) fun w9=>R J8 Ah2 [(6,.pointer (some ⟨b_1,0,none⟩)),(8,.pointer (some ⟨b_2,0,none⟩)),(11,.pointer (some ⟨b_3,0,none⟩)),(12,.int .i64 x_6)] w9)))))
 (R J8 Ah2 [(6,.pointer (some ⟨b_1,0,none⟩)),(8,.pointer (some ⟨b_2,0,none⟩)),(11,.pointer (some ⟨b_3,0,none⟩)),(12,.int .i64 x_6)] w7))):=by kernel_rfl
theorem A23 (C:A1) (R:A3) (x6:Addr) (nonev:Addr) (v:Addr) (isv:Int) (h:H) :
 A5 PR Ac2 C R J8 Tryz.f89 100000 true Ah2 [(6,.pointer (some x6)),(8,.pointer (some nonev)),(11,.pointer (some v)),(12,.int .i64 isv)] h =
 cond (isv != 1)
 (gAgg nonev 4 h fun x=>ck (List.length x=4) (pAgg x6 x h fun w=>gAgg x6 4 w fun x_1=>some (.tuple ⟨[.agg ⟨x_1⟩,.int .i64 isv]⟩,w)))
 (gAgg v 4 h fun x_2=>ck (List.length x_2=4) (pAgg x6 x_2 h fun w1=>gAgg x6 4 w1 fun x_3=>some (.tuple ⟨[.agg ⟨x_3⟩,.int .i64 isv]⟩,w1))):=by kernel_rfl
def B26:Cuts:={ globs:=0,loops:=[],regs:=[],plans:=[] }
def Dy8:List Item:=A4 Tryz.f91
theorem Gf9 (C:A1) (R:A3) (b:Option Addr) (bn bc:Nat) (h:H) :
 A5 PR B26 C R A15 Tryz.f91 100000 true Dy8 [(0,.slice b bn bc)] h =
 nw (.cells D5 false [.int .i64 0,.int .i64 0,.int .i64 0,.int .i64 0]) h fun b_1 w=>bnd (cond (((bn:Nat):Int)==8) (bnd (C Ak8 [.slice b bn bc] w) fun r w1=>aBool r fun x=>some (x,w1)) (some (false,w))) fun c w2=>cond c
 (pAgg ⟨b_1,0,none⟩ [.int .i64 0,.int .i64 0,.int .i64 0,.int .i64 0] w2 fun w3=>gAgg ⟨b_1,0,none⟩ 4 w3 fun x_1=>some (.tuple ⟨[.agg ⟨x_1⟩,.int .i64 0]⟩,w3))
 (bnd (C A96 [] w2) fun r_1 w4=>aPtr r_1 fun x_2=>bnd (C V0 [.pointer x_2,.slice b bn bc] w4) fun r_2 w5=>as2 r_2 fun r_3 r_4=>aAgg r_3 fun x_3=>aBool r_4 fun x_4=>nw (.cells D5 false [.int .i64 0,.int .i64 0,.int .i64 0,.int .i64 0]) w5 fun b_2 w6=>ck (List.length x_3=4) (pAgg ⟨b_2,0,none⟩ x_3 w6 fun w7=>cond (!x_4)
 (pAgg ⟨b_1,0,none⟩ [.int .i64 0,.int .i64 0,.int .i64 0,.int .i64 0] w7 fun w8=>gAgg ⟨b_1,0,none⟩ 4 w8 fun x_5=>some (.tuple ⟨[.agg ⟨x_5⟩,.int .i64 2]⟩,w8))
 (gAgg ⟨b_2,0,none⟩ 4 w7 fun x_6=>ck (List.length x_6=4) (pAgg ⟨b_1,0,none⟩ x_6 w7 fun w9=>gAgg ⟨b_1,0,none⟩ 4 w9 fun x_7=>some (.tuple ⟨[.agg ⟨x_7⟩,.int .i64 1]⟩,w9))))):=by kernel_rfl
def B46:Cuts:={ globs:=0,loops:=[],regs:=[],plans:=[] }
def D04:List Item:=A4 Tryz.f93
theorem Gg6 (C:A1) (R:A3) (i:Int) (h:H) :
 A5 PR B46 C R A29 Tryz.f93 100000 true D04 [(0,.int .i64 i)] h =
 nw (.cells E1 false [.int .i64 0,.int .i64 0]) h fun b w=>pAgg ⟨b,0,none⟩ [.int .i64 3,.int .i64 i] w fun w1=>gAgg ⟨b,0,none⟩ 2 w1 fun x=>some (.agg ⟨x⟩,w1):=by kernel_rfl
def B44:Cuts:={ globs:=0,loops:=[],regs:=[],plans:=[(1,⟨[1,0,2,3,4,5,6],[0,0,3,7,7,31,63],[(0,[1])],[]⟩)] }
def Dz2:List Item:=A4 Tryz.f98
theorem Gd0 (C:A1) (R:A3) (p:List Value) (h:H) :
 A5 PR B44 C R A37 Tryz.f98 100000 true Dz2 [(0,.agg ⟨p⟩)] h =
 nw (.cells D7 false p) h fun b w=>gAgg ⟨b,0,none⟩ 16 w fun x=>bnd (C A87 [] w) fun r w1=>aPtr r fun x_1=>gAgg ⟨b,0,none⟩ 16 w1 fun x_2=>same (.agg ⟨x⟩) (.agg ⟨x_2⟩) (bnd (C V2 [.pointer x_1,.agg ⟨x⟩] w1) fun r_1 w2=>as2 r_1 fun r_2 r_3=>aSl r_2 fun x_3 xn xc=>aBool r_3 fun x_4=>some (.tuple ⟨[.slice x_3 xn xc,.bool x_4]⟩,w2)):=by kernel_rfl
def Ax9:Cuts:={ globs:=0,loops:=[],regs:=[],plans:=[] }
def Bl5:List Item:=A4 Tryz.f109
theorem Du9 (C:A1) (R:A3) (c:Option Addr) (kind:Int) (h:H) :
 A5 PR Ax9 C R Z9 Tryz.f109 100000 true Bl5 [(0,.pointer c),(1,.int .i64 kind)] h =
 cond (kind==1)
 (some (.int .i64 8,h))
 (cond (kind==2)
 (some (.int .i64 12,h))
 (cond (kind==3)
 (aSome c fun p=>gSl (Addr.add p 2) h fun _ xn _=>some (.int .i64 (IntKind.wrap .i64 ((IntKind.wrap .i64 (4+((xn:Nat):Int)))-1)),h))
 (some (.int .i64 1,h)))):=by kernel_rfl
def B41:Cuts:={ globs:=0,loops:=[],regs:=[],plans:=[] }
def Dz7:List Item:=A4 Tryz.f111
theorem Gf7 (C:A1) (R:A3) (b:Option Addr) (bn bc:Nat) (h:H) :
 A5 PR B41 C R A34 Tryz.f111 100000 true Dz7 [(0,.slice b bn bc)] h =
 nw (.cells D7 false [.int .i64 0,.int .i64 0,.int .i64 0,.int .i64 0,.int .i64 0,.int .i64 0,.int .i64 0,.int .i64 0,.int .i64 0,.int .i64 0,.int .i64 0,.int .i64 0,.int .i64 0,.int .i64 0,.int .i64 0,.int .i64 0]) h fun b_1 w=>bnd (cond (((bn:Nat):Int)==24) (bnd (C Ak8 [.slice b bn bc] w) fun r w1=>aBool r fun x=>some (x,w1)) (some (false,w))) fun c w2=>cond c
 (pAgg ⟨b_1,0,none⟩ [.int .i64 0,.int .i64 0,.int .i64 0,.int .i64 0,.int .i64 0,.int .i64 0,.int .i64 0,.int .i64 0,.int .i64 0,.int .i64 0,.int .i64 0,.int .i64 0,.int .i64 0,.int .i64 0,.int .i64 0,.int .i64 0] w2 fun w3=>gAgg ⟨b_1,0,none⟩ 16 w3 fun x_1=>some (.tuple ⟨[.agg ⟨x_1⟩,.int .i64 0]⟩,w3))
 (bnd (C A87 [] w2) fun r_1 w4=>aPtr r_1 fun x_2=>bnd (C V5 [.pointer x_2,.slice b bn bc] w4) fun r_2 w5=>as2 r_2 fun r_3 r_4=>aAgg r_3 fun x_3=>aBool r_4 fun x_4=>nw (.cells D7 false [.int .i64 0,.int .i64 0,.int .i64 0,.int .i64 0,.int .i64 0,.int .i64 0,.int .i64 0,.int .i64 0,.int .i64 0,.int .i64 0,.int .i64 0,.int .i64 0,.int .i64 0,.int .i64 0,.int .i64 0,.int .i64 0]) w5 fun b_2 w6=>ck (List.length x_3=16) (pAgg ⟨b_2,0,none⟩ x_3 w6 fun w7=>cond (!x_4)
 (pAgg ⟨b_1,0,none⟩ [.int .i64 0,.int .i64 0,.int .i64 0,.int .i64 0,.int .i64 0,.int .i64 0,.int .i64 0,.int .i64 0,.int .i64 0,.int .i64 0,.int .i64 0,.int .i64 0,.int .i64 0,.int .i64 0,.int .i64 0,.int .i64 0] w7 fun w8=>gAgg ⟨b_1,0,none⟩ 16 w8 fun x_5=>some (.tuple ⟨[.agg ⟨x_5⟩,.int .i64 2]⟩,w8))
 (gAgg ⟨b_2,0,none⟩ 16 w7 fun x_6=>ck (List.length x_6=16) (pAgg ⟨b_1,0,none⟩ x_6 w7 fun w9=>gAgg ⟨b_1,0,none⟩ 16 w9 fun x_7=>some (.tuple ⟨[.agg ⟨x_7⟩,.int .i64 1]⟩,w9))))):=by kernel_rfl
def Da1:Cuts:={ globs:=0,loops:=[],regs:=[],plans:=[] }
def Ea3:List Item:=A4 Tryz.f119
theorem Gq8 (C:A1) (R:A3) (n:Int) (h:H) :
 A5 PR Da1 C R A89 Tryz.f119 100000 true Ea3 [(0,.int .i64 n)] h =
 some (.int .i64 (mm2 false (mm2 true n 0) 64),h):=by kernel_rfl
def A83:Cuts:={ globs:=0,loops:=[],regs:=[],plans:=[] }
def Bx4:List Item:=A4 Tryz.f126
theorem D39 (C:A1) (R:A3) (r:Option Addr) (lo:Int) (n:Int) (h:H) :
 A5 PR A83 C R Am7 Tryz.f126 100000 true Bx4 [(0,.pointer r),(1,.int .i64 lo),(2,.int .i64 n)] h =
 bnd (cond (decide (lo<0)) (some (true,h)) (some (decide (n<0),h))) fun c w=>bnd (cond c (some (true,w)) (aSome r fun p=>gPtr (Addr.add p 0) w fun x=>bnd (C A27 [.pointer x] w) fun r_1 w1=>aInt .i64 r_1 fun x_1=>some (decide (lo>x_1),w1))) fun c_1 w2=>bnd (cond c_1 (some (true,w2)) (aSome r fun p_1=>gPtr (Addr.add p_1 0) w2 fun x_2=>bnd (C A27 [.pointer x_2] w2) fun r_2 w3=>aInt .i64 r_2 fun x_3=>some (decide (n>(IntKind.wrap .i64 (x_3-lo))),w3))) fun c_2 w4=>cond c_2
 (some (.tuple ⟨[.int .i64 0,.int .i64 1]⟩,w4))
 (aSome r fun p_2=>gSl (Addr.add p_2 2) w4 fun _ xn _=>cond (decide (((xn:Nat):Int)≥32))
 (some (.tuple ⟨[.int .i64 0,.int .i64 4]⟩,w4))
 (aSome r fun p_3=>gSl (Addr.add p_3 2) w4 fun x_5 xn_1 xc_1=>nw (.cells Au6 false [.int .i64 lo,.int .i64 n]) w4 fun b w5=>gCells (some ⟨b,0,none⟩) (1*2) w5 fun cs=>ckB (fitsOpen x_5 Au6 w5) (apd Au6 2 x_5 xn_1 xc_1 1 cs w5 fun a an ac w6=>aSome r fun p_4=>pV (Addr.add p_4 2) (.slice a an ac) w6 fun w7=>aSome r fun p_5=>gSl (Addr.add p_5 2) w7 fun _ xn_2 _=>some (.tuple ⟨[.int .i64 (IntKind.wrap .i64 (((xn_2:Nat):Int)-1)),.int .i64 0]⟩,w7)))):=by kernel_rfl
def Bc5:Cuts:={ globs:=0,loops:=[(3,[0,3,4])],regs:=[],plans:=[(5,⟨[0,1,2,3,4,5,6,7,8,9,10],[0,0,2,6,14,0,32,126,255,511,1023],[(5,[4])],[]⟩),(6,⟨[0,1,2,3,4,5,6,7,8,9,10],[0,0,2,6,14,0,32,126,255,511,1023],[],[]⟩)] }
def Bw6:List Item:=A4 Tryz.f131
def Aw0:List Item:=stk [0,1,0,1,0,0,1,4,5] Bw6
theorem E81 (C:A1) (R:A3) (envs:Int) (h:H) :
 A5 PR Bc5 C R Z0 Tryz.f131 100000 true Bw6 [(0,.int .i64 envs)] h =
 nw (.cells El9 false [.slice none 0 0,.slice none 0 0]) h fun b w=>R Z0 Aw0 [(0,.int .i64 envs),(3,.pointer (some ⟨b,0,none⟩)),(4,.int .i64 0)] w:=by kernel_rfl
theorem B68 (C:A1) (R:A3) (envs:Int) (s:Addr) (i:Int) (h:H) :
 A5 PR Bc5 C R Z0 Tryz.f131 100000 true Aw0 [(0,.int .i64 envs),(3,.pointer (some s)),(4,.int .i64 i)] h =
 bnd (cond (decide (i<envs)) (some (decide (i<40),h)) (some (false,h))) fun c w=>cond c
 (gSl (Addr.add s 0) w fun x xn xc=>bnd (C Z1 [.int .i64 32] w) fun r w1=>aPtr r fun x_1=>gSl (Addr.add s 0) w1 fun x_2 xn_1 xc_1=>same (.slice x xn xc) (.slice x_2 xn_1 xc_1) (nw (.cells A35 false [.pointer x_1]) w1 fun b w2=>gCells (some ⟨b,0,none⟩) (1*1) w2 fun cs=>ckB (fitsOpen x A35 w2) (apd A35 1 x xn xc 1 cs w2 fun a an ac w3=>pV (Addr.add s 0) (.slice a an ac) w3 fun w4=>gSl (Addr.add s 1) w4 fun x_3 xn_2 xc_2=>ck ((0:Int)≤32∧(32:Int)≤32∧32≤(A8:Int)) (nw (.cells O6 false (I1 (Int.toNat 32) [.int .i64 0,.int .i64 0,.int .i64 0,.int .i64 0,.int .i64 0,.int .i64 0])) w4 fun b_1 w5=>nw (.cells Bn5 false [.slice (some ⟨b_1,0,none⟩) (Int.toNat 32) (Int.toNat 32)]) w5 fun b_2 w6=>gCells (some ⟨b_2,0,none⟩) (1*1) w6 fun cs_1=>ckB (fitsOpen x_3 Bn5 w6) (apd Bn5 1 x_3 xn_2 xc_2 1 cs_1 w6 fun a_1 an_1 ac_1 w7=>pV (Addr.add s 1) (.slice a_1 an_1 ac_1) w7 fun w8=>R Z0 Aw0 [(0,.int .i64 envs),(3,.pointer (some s)),(4,.int .i64 (IntKind.wrap .i64 (i+1)))] w8)))))
 (some (.pointer (some s),w)):=by kernel_rfl
def B30:Cuts:={ globs:=0,loops:=[],regs:=[],plans:=[] }
def Dz9:List Item:=A4 Tryz.f132
theorem Ge2 (C:A1) (R:A3) (lease:Int) (h:H) :
 A5 PR B30 C R Bj1 Tryz.f132 100000 true Dz9 [(0,.int .i64 lease)] h =
 nw (.cells Ev0 false [.int .i64 (mm2 false (mm2 true lease 1) 1000),.int .i64 0,.int .i64 0,.int .i64 0,.int .i64 0,.int .i64 0,.bool false,.int .i64 0,.slice none 0 0]) h fun b w=>some (.pointer (some ⟨b,0,none⟩),w):=by kernel_rfl
def Bp1:Cuts:={ globs:=0,loops:=[],regs:=[],plans:=[] }
def Dk5:List Item:=A4 Tryz.f138
theorem Ey9 (C:A1) (R:A3) (s:Option Addr) (e:Int) (h:H) :
 A5 PR Bp1 C R A61 Tryz.f138 100000 true Dk5 [(0,.pointer s),(1,.int .i64 e)] h =
 bnd (C Ah9 [.pointer s,.int .i64 e] h) fun r w=>aBool r fun x=>cond (!x)
 (some (.slice none 0 0,w))
 (aSome s fun p=>gSl (Addr.add p 0) w fun x_1 xn _=>aSome x_1 fun p_1=>ck ((0:Int)≤e∧e<((xn:Nat):Int)) (gPtr (Addr.add (A9 p_1) (Int.toNat e*1)) w fun x_2=>bnd (C P9 [.pointer x_2] w) fun r_1 w1=>aSl r_1 fun x_3 xn_1 xc_1=>some (.slice x_3 xn_1 xc_1,w1))):=by kernel_rfl
def Ax7:Cuts:={ globs:=0,loops:=[],regs:=[],plans:=[] }
def Bm3:List Item:=A4 Tryz.f140
theorem Du4 (C:A1) (R:A3) (r:Option Addr) (env:Int) (name:Int) (atv:Int) (b:Option Addr) (bn bc:Nat) (h:H) :
 A5 PR Ax7 C R Z8 Tryz.f140 100000 true Bm3 [(0,.pointer r),(1,.int .i64 env),(2,.int .i64 name),(3,.int .i64 atv),(4,.slice b bn bc)] h =
 bnd (C Aa2 [.pointer r,.int .i64 env,.int .i64 name,.int .i64 2,.int .i64 atv,.int .i64 ((bn:Nat):Int)] h) fun r_1 w=>as2 r_1 fun r_2 r_3=>aInt .i64 r_2 fun x=>aInt .i64 r_3 fun x_1=>cond (x_1 != 0)
 (some (.int .i64 x_1,w))
 (aSome r fun p=>gPtr (Addr.add p 0) w fun x_2=>bnd (C Bd6 [.pointer x_2,.int .i64 x,.slice b bn bc] w) fun r_4 w1=>aInt .i64 r_4 fun x_3=>some (.int .i64 x_3,w1)):=by kernel_rfl
def Bb0:Cuts:={ globs:=0,loops:=[],regs:=[],plans:=[] }
def B15:List Item:=A4 Tryz.f144
theorem Ed7 (C:A1) (R:A3) (q:Option Addr) (s:Int) (h:H) :
 A5 PR Bb0 C R At0 Tryz.f144 100000 true B15 [(0,.pointer q),(1,.int .i64 s)] h =
 bnd (C Ah5 [.pointer q,.int .i64 s] h) fun r w=>aBool r fun x=>cond (!x)
 (some (.tuple ⟨[.int .i64 0,.int .i64 1]⟩,w))
 (aSome q fun p=>gSl (Addr.add p 0) w fun x_1 xn _=>aSome x_1 fun p_1=>ck ((0:Int)≤s∧s<((xn:Nat):Int)) (gSl (Addr.add (A9 p_1) (Int.toNat s*1)) w fun x_2 xn_1 xc_1=>bnd (C H1 [.slice x_2 xn_1 xc_1,.int .i64 0] w) fun r_1 w1=>aInt .i64 r_1 fun x_3=>cond (decide (x_3<0))
 (some (.tuple ⟨[.int .i64 0,.int .i64 4]⟩,w1))
 (aSome q fun p_2=>gSl (Addr.add p_2 0) w1 fun x_4 xn_2 _=>aSome x_4 fun p_3=>ck ((0:Int)≤s∧s<((xn_2:Nat):Int)) (gSl (Addr.add (A9 p_3) (Int.toNat s*1)) w1 fun x_5 xn_3 _=>aSome x_5 fun p_4=>ck ((0:Int)≤x_3∧x_3<((xn_3:Nat):Int)) (pV (Addr.add (A9 p_4) (Int.toNat x_3*1)) (.int .i64 1) w1 fun w2=>some (.tuple ⟨[.int .i64 x_3,.int .i64 0]⟩,w2)))))):=by kernel_rfl
def Bj9:Cuts:={ globs:=0,loops:=[],regs:=[],plans:=[] }
def Dd0:List Item:=A4 Tryz.f147
theorem Eu1 (C:A1) (R:A3) (k:Option Addr) (env:Int) (c:List Value) (h:H) :
 A5 PR Bj9 C R A03 Tryz.f147 100000 true Dd0 [(0,.pointer k),(1,.int .i64 env),(2,.agg ⟨c⟩)] h =
 nw (.cells Aw7 false c) h fun b w=>gInt .i64 (Addr.add ⟨b,0,none⟩ 3) w fun x=>bnd (C Ar7 [.pointer k,.int .i64 env,.int .i64 x] w) fun r w1=>as2 r fun r_1 r_2=>aPtr r_1 fun x_1=>aInt .i64 r_2 fun x_2=>bnd (cond (x_2==0) (gInt .i64 (Addr.add ⟨b,0,none⟩ 2) w1 fun x_3=>bnd (C A13 [.pointer x_1,.int .i64 env,.int .i64 x_3] w1) fun r_3 w2=>aBool r_3 fun x_4=>some (!x_4,w2)) (some (false,w1))) fun c_1 w3=>cond c_1
 (some (.int .i64 8,w3))
 (some (.int .i64 x_2,w3)):=by kernel_rfl
def Dk9:Cuts:={ globs:=0,loops:=[],regs:=[],plans:=[] }
def Ek8:List Item:=A4 Tryz.f163
theorem Gz3 (C:A1) (R:A3)  (h:H) :
 A5 PR Dk9 C R Bg5 Tryz.f163 100000 true Ek8 [] h =
 bnd (C Ao3 [.int .i64 40,.func (.func Bi3) ⟨[]⟩ ⟨[]⟩,.func (.func Bh3) ⟨[]⟩ ⟨[]⟩] h) fun r w=>aPtr r fun x=>some (.pointer x,w):=by kernel_rfl
def Ag2:Cuts:={ globs:=0,loops:=[],regs:=[],plans:=[(2,⟨[0,1,2,3,4,5,6,7,8,9,10,11,12,13,14],[0,1,3,7,15,31,63,127,255,511,63,63,4095,8191,16383],[],[]⟩)] }
def A00:List Item:=A4 Tryz.f165
theorem B10 (C:A1) (R:A3) (c:Option Addr) (v:List Value) (h:H) :
 A5 PR Ag2 C R U9 Tryz.f165 100000 true A00 [(0,.pointer c),(1,.agg ⟨v⟩)] h =
 nw (.cells D0 false v) h fun b w=>aSome c fun p=>gInt .i64 (Addr.add p 0) w fun x=>ck ((0:Int)≤x∧(x:Int)≤x∧x≤(A8:Int)) (nw (.cells A2 false (I1 (Int.toNat x) [.int .u8 0])) w fun b_1 w1=>aSome c fun p_1=>gFv (Addr.add p_1 1) w1 fun x_1=>isNilF x_1 fun b_2=>bnd (cond b_2 (some (true,w1)) (aSome c fun p_2=>gFv (Addr.add p_2 1) w1 fun x_2=>gAgg ⟨b,0,none⟩ 36 w1 fun x_3=>aFn x_2 fun g fi cp=>bnd (C g (fi++([.agg ⟨x_3⟩,.slice (some ⟨b_1,0,none⟩) (Int.toNat x) (Int.toNat x)]++cp)) w1) fun r w2=>aBool r fun x_4=>some (!x_4,w2))) fun c_1 w3=>cond c_1
 (some (.tuple ⟨[.slice none 0 0,.bool false]⟩,w3))
 (some (.tuple ⟨[.slice (some ⟨b_1,0,none⟩) (Int.toNat x) (Int.toNat x),.bool true]⟩,w3))):=by kernel_rfl
def Af5:Cuts:={ globs:=0,loops:=[],regs:=[],plans:=[(2,⟨[0,1,2,3,4,5,6,7,8,9,10,11,12,13,14],[0,1,3,7,15,31,63,127,255,511,63,63,4095,8191,16383],[],[]⟩)] }
def Az6:List Item:=A4 Tryz.f167
theorem B14 (C:A1) (R:A3) (c:Option Addr) (v:List Value) (h:H) :
 A5 PR Af5 C R U8 Tryz.f167 100000 true Az6 [(0,.pointer c),(1,.agg ⟨v⟩)] h =
 nw (.cells D5 false v) h fun b w=>aSome c fun p=>gInt .i64 (Addr.add p 0) w fun x=>ck ((0:Int)≤x∧(x:Int)≤x∧x≤(A8:Int)) (nw (.cells A2 false (I1 (Int.toNat x) [.int .u8 0])) w fun b_1 w1=>aSome c fun p_1=>gFv (Addr.add p_1 1) w1 fun x_1=>isNilF x_1 fun b_2=>bnd (cond b_2 (some (true,w1)) (aSome c fun p_2=>gFv (Addr.add p_2 1) w1 fun x_2=>gAgg ⟨b,0,none⟩ 4 w1 fun x_3=>aFn x_2 fun g fi cp=>bnd (C g (fi++([.agg ⟨x_3⟩,.slice (some ⟨b_1,0,none⟩) (Int.toNat x) (Int.toNat x)]++cp)) w1) fun r w2=>aBool r fun x_4=>some (!x_4,w2))) fun c_1 w3=>cond c_1
 (some (.tuple ⟨[.slice none 0 0,.bool false]⟩,w3))
 (some (.tuple ⟨[.slice (some ⟨b_1,0,none⟩) (Int.toNat x) (Int.toNat x),.bool true]⟩,w3))):=by kernel_rfl
def Dw3:Cuts:={ globs:=0,loops:=[],regs:=[],plans:=[] }
def Ev5:List Item:=A4 Tryz.f171
theorem Hb0 (C:A1) (R:A3) (n:Int) (A8:Int) (h:H) :
 A5 PR Dw3 C R Aq3 Tryz.f171 100000 true Ev5 [(0,.int .i64 n),(1,.int .i64 A8)] h =
 bnd (cond (decide (n≥0)) (some (decide (n≤A8),h)) (some (false,h))) fun c w=>some (.bool c,w):=by kernel_rfl
def Af7:Cuts:={ globs:=0,loops:=[],regs:=[],plans:=[(4,⟨[0,1,2,3,4,10,5,6,7,8,9,11,12],[0,1,3,7,0,16,63,127,255,255,0,1535,4095],[(5,[3])],[]⟩)] }
def Az4:List Item:=A4 Tryz.f173
theorem B11 (C:A1) (R:A3) (c:Option Addr) (b:Option Addr) (bn bc:Nat) (h:H) :
 A5 PR Af7 C R V5 Tryz.f173 100000 true Az4 [(0,.pointer c),(1,.slice b bn bc)] h =
 nw (.cells D7 false [.int .i64 0,.int .i64 0,.int .i64 0,.int .i64 0,.int .i64 0,.int .i64 0,.int .i64 0,.int .i64 0,.int .i64 0,.int .i64 0,.int .i64 0,.int .i64 0,.int .i64 0,.int .i64 0,.int .i64 0,.int .i64 0]) h fun b_1 w=>nw (.cells D7 false [.int .i64 0,.int .i64 0,.int .i64 0,.int .i64 0,.int .i64 0,.int .i64 0,.int .i64 0,.int .i64 0,.int .i64 0,.int .i64 0,.int .i64 0,.int .i64 0,.int .i64 0,.int .i64 0,.int .i64 0,.int .i64 0]) w fun b_2 w1=>aSome c fun p=>gFv (Addr.add p 2) w1 fun x=>isNilF x fun b_3=>bnd (cond b_3 (some (true,w1)) (aSome c fun p_1=>gInt .i64 (Addr.add p_1 0) w1 fun x_1=>some (((bn:Nat):Int) != x_1,w1))) fun c_1 w2=>cond c_1
 (gAgg ⟨b_2,0,none⟩ 16 w2 fun x_2=>ck (List.length x_2=16) (pAgg ⟨b_1,0,none⟩ x_2 w2 fun w3=>gAgg ⟨b_1,0,none⟩ 16 w3 fun x_3=>some (.tuple ⟨[.agg ⟨x_3⟩,.bool false]⟩,w3)))
 (aSome c fun p_2=>gFv (Addr.add p_2 2) w2 fun x_4=>nw (.cells D7 false [.int .i64 0,.int .i64 0,.int .i64 0,.int .i64 0,.int .i64 0,.int .i64 0,.int .i64 0,.int .i64 0,.int .i64 0,.int .i64 0,.int .i64 0,.int .i64 0,.int .i64 0,.int .i64 0,.int .i64 0,.int .i64 0]) w2 fun b_4 w4=>bnd (C G4 [.slice b bn bc] w4) fun r w5=>aSl r fun x_5 xn xc=>gFv (Addr.add p_2 2) w5 fun x_6=>Bi8 (x_4) (x_6) (aFn x_4 fun g fi cp=>bnd (C g (fi++([.slice x_5 xn xc]++cp)) w5) fun r_1 w6=>as2 r_1 fun r_2 r_3=>aAgg r_2 fun x_7=>aBool r_3 fun x_8=>ck (List.length x_7=16) (pAgg ⟨b_4,0,none⟩ x_7 w6 fun w7=>cond (!x_8)
 (gAgg ⟨b_2,0,none⟩ 16 w7 fun x_9=>ck (List.length x_9=16) (pAgg ⟨b_1,0,none⟩ x_9 w7 fun w8=>gAgg ⟨b_1,0,none⟩ 16 w8 fun x_10=>some (.tuple ⟨[.agg ⟨x_10⟩,.bool false]⟩,w8)))
 (gAgg ⟨b_4,0,none⟩ 16 w7 fun x_11=>ck (List.length x_11=16) (pAgg ⟨b_1,0,none⟩ x_11 w7 fun w9=>gAgg ⟨b_1,0,none⟩ 16 w9 fun x_12=>some (.tuple ⟨[.agg ⟨x_12⟩,.bool true]⟩,w9)))))):=by kernel_rfl
def B62:Cuts:={ globs:=0,loops:=[(3,[3,9,10,11])],regs:=[],plans:=[] }
def Du0:List Item:=A4 Tryz.f174
def Bh1:List Item:=stk [0,1,0,1,0,0,1,4,5] Du0
theorem G97 (C:A1) (R:A3) (b:Option Addr) (bn bc:Nat) (h:H) :
 A5 PR B62 C R Aa4 Tryz.f174 100000 true Du0 [(0,.slice b bn bc)] h =
 R Aa4 Bh1 [(3,.int .u8 (IntKind.wrap .u8 (((bn:Nat):Int)))),(9,.slice b bn bc),(10,.int .i64 ((bn:Nat):Int)),(11,.int .i64 0)] h:=by kernel_rfl
theorem Dy5 (C:A1) (R:A3) (n:Int) (x9:Option Addr) (x9n x9c:Nat) (x10:Int) (x11:Int) (h:H) :
 A5 PR B62 C R Aa4 Tryz.f174 100000 true Bh1 [(3,.int .u8 n),(9,.slice x9 x9n x9c),(10,.int .i64 x10),(11,.int .i64 x11)] h =
 cond (decide (x11<x10))
 (aSome x9 fun p=>ck ((0:Int)≤x11∧x11<((x9n:Nat):Int)) (gInt .u8 (Addr.add (A9 p) (Int.toNat x11*1)) h fun x=>R Aa4 Bh1 [(3,.int .u8 (IntKind.wrap .u8 (n+x))),(9,.slice x9 x9n x9c),(10,.int .i64 x10),(11,.int .i64 (IntKind.wrap .i64 (x11+1)))] h))
 (some (.int .u8 n,h)):=by kernel_rfl
def As8:Cuts:={ globs:=0,loops:=[(3,[3,15,16])],regs:=[],plans:=[] }
def Bb6:List Item:=A4 Tryz.f178
def Ai7:List Item:=stk [0,1,0,1,0,0,1,4,5] Bb6
theorem Ed4 (C:A1) (R:A3) (size:Int) (h:H) :
 A5 PR As8 C R O7 Tryz.f178 100000 true Bb6 [(0,.int .i64 size)] h =
 ck ((0:Int)≤mm2 false (mm2 true size 0) 256∧(mm2 false (mm2 true size 0) 256:Int)≤mm2 false (mm2 true size 0) 256∧mm2 false (mm2 true size 0) 256≤(A8:Int)) (nw (.cells Ak6 false (I1 (Int.toNat (mm2 false (mm2 true size 0) 256)) [.int .i64 0,.int .i64 0,.int .i64 0,.int .i64 0,.int .i64 0,.int .i64 0,.int .i64 0,.bool false])) h fun b w=>nw (.cells Bt3 false [.slice (some ⟨b,0,none⟩) (Int.toNat (mm2 false (mm2 true size 0) 256)) (Int.toNat (mm2 false (mm2 true size 0) 256))]) w fun b_1 w1=>gSl (Addr.add ⟨b_1,0,none⟩ 0) w1 fun _ xn _=>R O7 Ai7 [(3,.pointer (some ⟨b_1,0,none⟩)),(15,.int .i64 ((xn:Nat):Int)),(16,.int .i64 0)] w1):=by kernel_rfl
theorem Bm8 (C:A1) (R:A3) (t:Addr) (x15:Int) (x16:Int) (h:H) :
 A5 PR As8 C R O7 Tryz.f178 100000 true Ai7 [(3,.pointer (some t)),(15,.int .i64 x15),(16,.int .i64 x16)] h =
 cond (decide (x16<x15))
 (gSl (Addr.add t 0) h fun x xn _=>aSome x fun p=>ck ((0:Int)≤x16∧x16<((xn:Nat):Int)) (pV (Addr.add (Addr.add (A9 p) (Int.toNat x16*8)) 6) (.int .i64 1) h fun w=>R O7 Ai7 [(3,.pointer (some t)),(15,.int .i64 x15),(16,.int .i64 (IntKind.wrap .i64 (x16+1)))] w))
 (some (.pointer (some t),h)):=by kernel_rfl
def Bd2:Cuts:={ globs:=0,loops:=[(3,[0,3,4])],regs:=[],plans:=[] }
def Bz4:List Item:=A4 Tryz.f183
def Av7:List Item:=stk [0,1,0,1,0,0,1,4,5] Bz4
theorem E60 (C:A1) (R:A3) (size:Int) (h:H) :
 A5 PR Bd2 C R Z1 Tryz.f183 100000 true Bz4 [(0,.int .i64 size)] h =
 nw (.cells Eo3 false [.slice none 0 0]) h fun b w=>R Z1 Av7 [(0,.int .i64 size),(3,.pointer (some ⟨b,0,none⟩)),(4,.int .i64 0)] w:=by kernel_rfl
theorem B70 (C:A1) (R:A3) (size:Int) (n:Addr) (i:Int) (h:H) :
 A5 PR Bd2 C R Z1 Tryz.f183 100000 true Av7 [(0,.int .i64 size),(3,.pointer (some n)),(4,.int .i64 i)] h =
 bnd (cond (decide (i<size)) (some (decide (i<256),h)) (some (false,h))) fun c w=>cond c
 (gSl (Addr.add n 0) w fun x xn xc=>nw (.cells Be7 false [.int .i64 1,.bool false]) w fun b w1=>gCells (some ⟨b,0,none⟩) (1*2) w1 fun cs=>ckB (fitsOpen x Be7 w1) (apd Be7 2 x xn xc 1 cs w1 fun a an ac w2=>pV (Addr.add n 0) (.slice a an ac) w2 fun w3=>R Z1 Av7 [(0,.int .i64 size),(3,.pointer (some n)),(4,.int .i64 (IntKind.wrap .i64 (i+1)))] w3))
 (some (.pointer (some n),w)):=by kernel_rfl
def A70:Cuts:={ globs:=0,loops:=[(3,[0,3,4])],regs:=[],plans:=[] }
def Bq5:List Item:=A4 Tryz.f185
def Ag9:List Item:=stk [0,1,0,1,0,0,1,4,5] Bq5
theorem Ey0 (C:A1) (R:A3) (n:Option Addr) (h:H) :
 A5 PR A70 C R P9 Tryz.f185 100000 true Bq5 [(0,.pointer n)] h =
 R P9 Ag9 [(0,.pointer n),(3,.slice none 0 0),(4,.int .i64 0)] h:=by kernel_rfl
theorem B16 (C:A1) (R:A3) (n:Option Addr) (out:Option Addr) (outn outc:Nat) (i:Int) (h:H) :
 A5 PR A70 C R P9 Tryz.f185 100000 true Ag9 [(0,.pointer n),(3,.slice out outn outc),(4,.int .i64 i)] h =
 aSome n fun p=>gSl (Addr.add p 0) h fun _ xn _=>cond (decide (i<((xn:Nat):Int)))
 (aSome n fun p_1=>gSl (Addr.add p_1 0) h fun x_1 xn_1 _=>aSome x_1 fun p_2=>ck ((0:Int)≤i∧i<((xn_1:Nat):Int)) (gBool (Addr.add (Addr.add (A9 p_2) (Int.toNat i*2)) 1) h fun x_2=>cond x_2
 (aSome n fun p_3=>gSl (Addr.add p_3 0) h fun x_3 xn_2 _=>aSome x_3 fun p_4=>ck ((0:Int)≤i∧i<((xn_2:Nat):Int)) (gInt .i64 (Addr.add (Addr.add (A9 p_4) (Int.toNat i*2)) 0) h fun x_4=>nw (.cells B6 false [.int .i64 (IntKind.wrap .i64 (i+(IntKind.wrap .i64 (256*x_4))))]) h fun b w=>gCells (some ⟨b,0,none⟩) (1*1) w fun cs=>ckB (fitsOpen out B6 w) (apd B6 1 out outn outc 1 cs w fun a an ac w1=>R P9 Ag9 [(0,.pointer n),(3,.slice a an ac),(4,.int .i64 (IntKind.wrap .i64 (i+1)))] w1)))
 (R P9 Ag9 [(0,.pointer n),(3,.slice out outn outc),(4,.int .i64 (IntKind.wrap .i64 (i+1)))] h)))
 (some (.slice out outn outc,h)):=by kernel_rfl
def Bw9:Cuts:={ globs:=0,loops:=[],regs:=[],plans:=[] }
def Ds9:List Item:=A4 Tryz.f188
theorem E40 (C:A1) (R:A3) (m:Option Addr) (atv:Int) (b:Option Addr) (bn bc:Nat) (h:H) :
 A5 PR Bw9 C R Bd6 Tryz.f188 100000 true Ds9 [(0,.pointer m),(1,.int .i64 atv),(2,.slice b bn bc)] h =
 bnd (C Bg7 [.pointer m,.int .i64 atv,.int .i64 ((bn:Nat):Int)] h) fun r w=>aBool r fun x=>cond (!x)
 (some (.int .i64 1,w))
 (aSome m fun p=>gSl (Addr.add p 0) w fun x_1 xn xc=>ckB (fitsOpen x_1 A2 w) (ck ((0:Int)≤atv∧atv≤((xn:Nat):Int)) (gCells b (min bn (xn-(Int.toNat atv))*1) w fun cs=>pCells (H0 x_1 (decide (Int.toNat atv<xc)) ((Int.toNat atv)*1)) cs w fun w1=>some (.int .i64 0,w1)))):=by kernel_rfl
def Bs4:Cuts:={ globs:=0,loops:=[],regs:=[],plans:=[] }
def Dk1:List Item:=A4 Tryz.f189
theorem E05 (C:A1) (R:A3) (s:Option Addr) (env:Int) (name:Int) (h:H) :
 A5 PR Bs4 C R Ar6 Tryz.f189 100000 true Dk1 [(0,.pointer s),(1,.int .i64 env),(2,.int .i64 name)] h =
 nw (.cells O6 false [.int .i64 0,.int .i64 0,.int .i64 0,.int .i64 0,.int .i64 0,.int .i64 0]) h fun b w=>bnd (C Ad6 [.pointer s,.int .i64 env] w) fun r w1=>aBool r fun x=>cond (!x)
 (pAgg ⟨b,0,none⟩ [.int .i64 0,.int .i64 0,.int .i64 0,.int .i64 0,.int .i64 0,.int .i64 0] w1 fun w2=>gAgg ⟨b,0,none⟩ 6 w2 fun x_1=>some (.tuple ⟨[.agg ⟨x_1⟩,.int .i64 2]⟩,w2))
 (aSome s fun p=>gSl (Addr.add p 0) w1 fun x_2 xn _=>aSome x_2 fun p_1=>ck ((0:Int)≤env∧env<((xn:Nat):Int)) (gPtr (Addr.add (A9 p_1) (Int.toNat env*1)) w1 fun x_3=>bnd (C Ac9 [.pointer x_3,.int .i64 name] w1) fun r_1 w3=>as2 r_1 fun r_2 r_3=>aAgg r_2 fun x_4=>aBool r_3 fun x_5=>nw (.cells O6 false [.int .i64 0,.int .i64 0,.int .i64 0,.int .i64 0,.int .i64 0,.int .i64 0]) w3 fun b_1 w4=>ck (List.length x_4=6) (pAgg ⟨b_1,0,none⟩ x_4 w4 fun w5=>cond (!x_5)
 (pAgg ⟨b,0,none⟩ [.int .i64 0,.int .i64 0,.int .i64 0,.int .i64 0,.int .i64 0,.int .i64 0] w5 fun w6=>gAgg ⟨b,0,none⟩ 6 w6 fun x_6=>some (.tuple ⟨[.agg ⟨x_6⟩,.int .i64 2]⟩,w6))
 (gAgg ⟨b_1,0,none⟩ 6 w5 fun x_7=>ck (List.length x_7=6) (pAgg ⟨b,0,none⟩ x_7 w5 fun w7=>gAgg ⟨b,0,none⟩ 6 w7 fun x_8=>some (.tuple ⟨[.agg ⟨x_8⟩,.int .i64 0]⟩,w7)))))):=by kernel_rfl
def Bz1:Cuts:={ globs:=0,loops:=[],regs:=[],plans:=[] }
def Dq7:List Item:=A4 Tryz.f202
theorem E62 (C:A1) (R:A3) (c:Int) (h:H) :
 A5 PR Bz1 C R Ad7 Tryz.f202 100000 true Dq7 [(0,.int .u8 c)] h =
 some (.bool (c != 0),h):=by kernel_rfl
def Dn5:Cuts:={ globs:=0,loops:=[],regs:=[],plans:=[] }
def Ek6:List Item:=A4 Tryz.f216
theorem G10 (C:A1) (R:A3) (m:Option Addr) (atv:Int) (n:Int) (h:H) :
 A5 PR Dn5 C R Bg7 Tryz.f216 100000 true Ek6 [(0,.pointer m),(1,.int .i64 atv),(2,.int .i64 n)] h =
 bnd (cond (decide (atv≥0)) (some (decide (n≥0),h)) (some (false,h))) fun c w=>bnd (cond c (aSome m fun p=>gSl (Addr.add p 0) w fun _ xn _=>some (decide (atv≤((xn:Nat):Int)),w)) (some (false,w))) fun c_1 w1=>bnd (cond c_1 (aSome m fun p_1=>gSl (Addr.add p_1 0) w1 fun _ xn_1 _=>some (decide (n≤(IntKind.wrap .i64 (((xn_1:Nat):Int)-atv))),w1)) (some (false,w1))) fun c_2 w2=>some (.bool c_2,w2):=by kernel_rfl
def Bk4:Cuts:={ globs:=0,loops:=[],regs:=[],plans:=[] }
def Dc2:List Item:=A4 Tryz.f221
theorem Eu0 (C:A1) (R:A3) (s:Option Addr) (who:Int) (stamp:Int) (h:H) :
 A5 PR Bk4 C R A01 Tryz.f221 100000 true Dc2 [(0,.pointer s),(1,.int .i64 who),(2,.int .i64 stamp)] h =
 aSome s fun p=>gBool (Addr.add p 1) h fun x=>bnd (cond x (aSome s fun p_1=>gInt .i64 (Addr.add p_1 2) h fun x_1=>some (x_1==who,h)) (some (false,h))) fun c w=>bnd (cond c (aSome s fun p_2=>gInt .i64 (Addr.add p_2 3) w fun x_2=>some (x_2==stamp,w)) (some (false,w))) fun c_1 w1=>some (.bool c_1,w1):=by kernel_rfl
def Do4:Cuts:={ globs:=0,loops:=[],regs:=[],plans:=[(3,⟨[0,1,2,3,4,5,6,7,8,9,10,11,12,13,14],[0,0,3,7,15,31,0,0,128,448,960,1984,4095,8191,16383],[],[]⟩)] }
def Eh9:List Item:=A4 Tryz.f227
theorem G53 (C:A1) (R:A3) (b:Option Addr) (bn bc:Nat) (atv:Int) (h:H) :
 A5 PR Do4 C R Bx0 Tryz.f227 100000 true Eh9 [(0,.slice b bn bc),(1,.int .i64 atv)] h =
 bnd (cond (decide (atv<0)) (some (true,h)) (some (decide (atv>(IntKind.wrap .i64 (((bn:Nat):Int)-2))),h))) fun c w=>cond c
 (some (.tuple ⟨[.int .i64 0,.bool false]⟩,w))
 (aSome b fun p=>ck ((0:Int)≤atv∧atv<((bn:Nat):Int)) (gInt .u8 (Addr.add (A9 p) (Int.toNat atv*1)) w fun x=>aSome b fun p_1=>ck ((0:Int)≤IntKind.wrap .i64 (atv+1)∧IntKind.wrap .i64 (atv+1)<((bn:Nat):Int)) (gInt .u8 (Addr.add (A9 p_1) (Int.toNat (IntKind.wrap .i64 (atv+1))*1)) w fun x_1=>some (.tuple ⟨[.int .i64 (Ho7 .i64 (IntKind.wrap .i64 ((IntKind.wrap .i64 (x))*2 ^ 8)) (IntKind.wrap .i64 (x_1))),.bool true]⟩,w)))):=by kernel_rfl
end
end Go.EQ

set_option maxRecDepth 100000
namespace Go.EQ
open Go Go.NN Go.Proofs
variable (C : A1) (R : A3)
noncomputable section
def Da5:Cuts:={ globs:=0,loops:=[],regs:=[],plans:=[] }
def Ea6:List Item:=A4 Tryz.f12
theorem Gp3 (C:A1) (R:A3)  (h:H) :
 A5 PR Da5 C R A90 Tryz.f12 100000 true Ea6 [] h =
 bnd (C A88 [] h) fun r w=>aSl r fun x xn xc=>bnd (C Ae8 [.slice x xn xc] w) fun r_1 w1=>as4 r_1 fun r_2 r_3 r_4 r_5=>aPtr r_2 fun _=>aPtr r_3 fun x_2=>aPtr r_4 fun _=>aPtr r_5 fun _=>cond x_2.isNone
 (some (.bool false,w1))
 (bnd (C Bv0 [.pointer x_2,.int .i64 0] w1) fun r_6 w2=>aAgg r_6 fun _=>nw (.cells A2 false [.int .u8 7,.int .u8 8,.int .u8 9]) w2 fun b w3=>bnd (C Af1 [.pointer x_2,.int .i64 0,.int .i64 2,.slice (some ⟨b,0,none⟩) 3 3] w3) fun r_7 w4=>aAgg r_7 fun x_6=>nw (.cells N3 false [.int .i64 0,.int .i64 0,.slice none 0 0,.bool false]) w4 fun b_1 w5=>ck (List.length x_6=4) (pAgg ⟨b_1,0,none⟩ x_6 w5 fun w6=>bnd (C Aq6 [.pointer x_2,.int .i64 0,.int .i64 1,.int .i64 8] w6) fun r_8 w7=>aAgg r_8 fun x_7=>nw (.cells N3 false [.int .i64 0,.int .i64 0,.slice none 0 0,.bool false]) w7 fun b_2 w8=>ck (List.length x_7=4) (pAgg ⟨b_2,0,none⟩ x_7 w8 fun w9=>bnd (C Aq6 [.pointer x_2,.int .i64 0,.int .i64 1,.int .i64 8] w9) fun r_9 w10=>aAgg r_9 fun x_8=>nw (.cells N3 false [.int .i64 0,.int .i64 0,.slice none 0 0,.bool false]) w10 fun b_3 w11=>ck (List.length x_8=4) (pAgg ⟨b_3,0,none⟩ x_8 w11 fun w12=>gInt .i64 (Addr.add ⟨b_1,0,none⟩ 0) w12 fun x_9=>bnd (cond (x_9==3) (gInt .i64 (Addr.add ⟨b_1,0,none⟩ 1) w12 fun x_10=>some (x_10==0,w12)) (some (false,w12))) fun c w13=>bnd (cond c (gSl (Addr.add ⟨b_2,0,none⟩ 2) w13 fun x_11 xn_1 _=>gCells x_11 xn_1 w13 fun cs=>asBytes cs fun l=>some ((ByteArray.mk ⟨l⟩).toList==(ByteArray.mk ⟨[7,8,9]⟩).toList,w13)) (some (false,w13))) fun c_1 w14=>bnd (cond c_1 (gBool (Addr.add ⟨b_3,0,none⟩ 3) w14 fun x_12=>some (x_12,w14)) (some (false,w14))) fun c_2 w15=>bnd (cond c_2 (nw (.cells A2 false [.int .u8 1]) w15 fun b_4 w16=>bnd (C By2 [.pointer x_2,.slice (some ⟨b_4,0,none⟩) 1 1] w16) fun r_10 w17=>aInt .i64 r_10 fun x_13=>some (x_13==1,w17)) (some (false,w15))) fun c_3 w18=>some (.bool c_3,w18))))):=by kernel_rfl
def Ef0:Cuts:={ globs:=0,loops:=[],regs:=[],plans:=[] }
def Gk5:List Item:=A4 Tryz.f15
theorem Hq2 (C:A1) (R:A3) (c:Option Addr) (i:Int) (fd:Int) (h:H) :
 A5 PR Ef0 C R Dr2 Tryz.f15 100000 true Gk5 [(0,.pointer c),(1,.int .i64 i),(2,.int .i64 fd)] h =
 nw (.cells N3 false [.int .i64 0,.int .i64 0,.slice none 0 0,.bool false]) h fun b w=>bnd (C Bq2 [.pointer c,.int .i64 i,.int .i64 fd] w) fun r w1=>as3 r fun r_1 r_2 r_3=>aInt .i64 r_1 fun x=>aAgg r_2 fun x_1=>aInt .i64 r_3 fun x_2=>nw (.cells D5 false [.int .i64 0,.int .i64 0,.int .i64 0,.int .i64 0]) w1 fun b_1 w2=>ck (List.length x_1=4) (pAgg ⟨b_1,0,none⟩ x_1 w2 fun w3=>cond (x_2 != 0)
 (bnd (C S7 [.int .i64 x_2] w3) fun r_4 w4=>aAgg r_4 fun x_3=>ck (List.length x_3=4) (pAgg ⟨b,0,none⟩ x_3 w4 fun w5=>gAgg ⟨b,0,none⟩ 4 w5 fun x_4=>some (.agg ⟨x_4⟩,w5)))
 (bnd (C Ay7 [.pointer c,.int .i64 i] w3) fun r_5 w6=>as2 r_5 fun r_6 r_7=>aAgg r_6 fun x_5=>aInt .i64 r_7 fun _=>nw (.cells D7 false [.int .i64 0,.int .i64 0,.int .i64 0,.int .i64 0,.int .i64 0,.int .i64 0,.int .i64 0,.int .i64 0,.int .i64 0,.int .i64 0,.int .i64 0,.int .i64 0,.int .i64 0,.int .i64 0,.int .i64 0,.int .i64 0]) w6 fun b_2 w7=>ck (List.length x_5=16) (pAgg ⟨b_2,0,none⟩ x_5 w7 fun w8=>gAgg ⟨b_2,0,none⟩ 16 w8 fun x_7=>bnd (C Bl3 [.agg ⟨x_7⟩,.int .i64 1] w8) fun r_8 w9=>aSl r_8 fun x_8 xn _=>cond (((xn:Nat):Int)==0)
 (bnd (C S7 [.int .i64 124] w9) fun r_9 w10=>aAgg r_9 fun x_9=>ck (List.length x_9=4) (pAgg ⟨b,0,none⟩ x_9 w10 fun w11=>gAgg ⟨b,0,none⟩ 4 w11 fun x_10=>some (.agg ⟨x_10⟩,w11)))
 (gInt .i64 (Addr.add ⟨b_1,0,none⟩ 2) w9 fun x_11=>cond (decide (x_11≥64))
 (bnd (C S7 [.int .i64 123] w9) fun r_10 w12=>aAgg r_10 fun x_12=>ck (List.length x_12=4) (pAgg ⟨b,0,none⟩ x_12 w12 fun w13=>gAgg ⟨b,0,none⟩ 4 w13 fun x_13=>some (.agg ⟨x_13⟩,w13)))
 (gAgg ⟨b_1,0,none⟩ 4 w9 fun x_14=>bnd (C Dg0 [.pointer c,.int .i64 x,.agg ⟨x_14⟩] w9) fun r_11 w14=>aBool r_11 fun x_15=>cond (!x_15)
 (bnd (C S7 [.int .i64 105] w14) fun r_12 w15=>aAgg r_12 fun x_16=>ck (List.length x_16=4) (pAgg ⟨b,0,none⟩ x_16 w15 fun w16=>gAgg ⟨b,0,none⟩ 4 w16 fun x_17=>some (.agg ⟨x_17⟩,w16)))
 (aSome x_8 fun p=>ck ((0:Int)≤0∧0<((xn:Nat):Int)) (gInt .i64 (Addr.add (A9 p) (Int.toNat 0*1)) w14 fun x_18=>bnd (C Dg4 [.pointer c,.int .i64 i,.int .i64 x_18,.int .i64 x] w14) fun r_13 w17=>aAgg r_13 fun x_19=>ck (List.length x_19=4) (pAgg ⟨b,0,none⟩ x_19 w17 fun w18=>gAgg ⟨b,0,none⟩ 4 w18 fun x_20=>some (.agg ⟨x_20⟩,w18))))))))):=by kernel_rfl
def Du6:Cuts:={ globs:=0,loops:=[],regs:=[],plans:=[] }
def Ew8:List Item:=A4 Tryz.f19
theorem Hb8 (C:A1) (R:A3) (c:Option Addr) (i:Int) (h:H) :
 A5 PR Du6 C R Ay7 Tryz.f19 100000 true Ew8 [(0,.pointer c),(1,.int .i64 i)] h =
 nw (.cells D7 false [.int .i64 0,.int .i64 0,.int .i64 0,.int .i64 0,.int .i64 0,.int .i64 0,.int .i64 0,.int .i64 0,.int .i64 0,.int .i64 0,.int .i64 0,.int .i64 0,.int .i64 0,.int .i64 0,.int .i64 0,.int .i64 0]) h fun b w=>bnd (C D1 [.pointer c] w) fun r w1=>as0 r (bnd (C Aa0 [.pointer c,.int .i64 i] w1) fun r_1 w2=>as2 r_1 fun r_2 r_3=>aAgg r_2 fun x=>aInt .i64 r_3 fun x_1=>nw (.cells D7 false [.int .i64 0,.int .i64 0,.int .i64 0,.int .i64 0,.int .i64 0,.int .i64 0,.int .i64 0,.int .i64 0,.int .i64 0,.int .i64 0,.int .i64 0,.int .i64 0,.int .i64 0,.int .i64 0,.int .i64 0,.int .i64 0]) w2 fun b_1 w3=>ck (List.length x=16) (pAgg ⟨b_1,0,none⟩ x w3 fun w4=>bnd (cond (x_1 != 1) (some (true,w4)) (gInt .i64 (Addr.add ⟨b_1,0,none⟩ 0) w4 fun x_2=>some (x_2 != 1,w4))) fun c_1 w5=>cond c_1
 (pAgg ⟨b,0,none⟩ [.int .i64 0,.int .i64 0,.int .i64 0,.int .i64 0,.int .i64 0,.int .i64 0,.int .i64 0,.int .i64 0,.int .i64 0,.int .i64 0,.int .i64 0,.int .i64 0,.int .i64 0,.int .i64 0,.int .i64 0,.int .i64 0] w5 fun w6=>gAgg ⟨b,0,none⟩ 16 w6 fun x_3=>some (.tuple ⟨[.agg ⟨x_3⟩,.int .i64 105]⟩,w6))
 (gAgg ⟨b_1,0,none⟩ 16 w5 fun x_4=>ck (List.length x_4=16) (pAgg ⟨b,0,none⟩ x_4 w5 fun w7=>gAgg ⟨b,0,none⟩ 16 w7 fun x_5=>some (.tuple ⟨[.agg ⟨x_5⟩,.int .i64 0]⟩,w7))))):=by kernel_rfl
def Dj8:Cuts:={ globs:=0,loops:=[],regs:=[],plans:=[] }
def Em2:List Item:=A4 Tryz.f21
theorem Gs7 (C:A1) (R:A3) (c:Option Addr) (b:Option Addr) (bn bc:Nat) (h:H) :
 A5 PR Dj8 C R By2 Tryz.f21 100000 true Em2 [(0,.pointer c),(1,.slice b bn bc)] h =
 bnd (C D1 [.pointer c] h) fun r w=>as0 r (bnd (C Q3 [.pointer c] w) fun r_1 w1=>as2 r_1 fun r_2 r_3=>aAgg r_2 fun x=>aInt .i64 r_3 fun x_1=>nw (.cells D0 false [.int .i64 0,.int .i64 0,.int .i64 0,.int .i64 0,.int .u8 0,.int .u8 0,.int .u8 0,.int .u8 0,.int .u8 0,.int .u8 0,.int .u8 0,.int .u8 0,.int .u8 0,.int .u8 0,.int .u8 0,.int .u8 0,.int .u8 0,.int .u8 0,.int .u8 0,.int .u8 0,.int .u8 0,.int .u8 0,.int .u8 0,.int .u8 0,.int .u8 0,.int .u8 0,.int .u8 0,.int .u8 0,.int .u8 0,.int .u8 0,.int .u8 0,.int .u8 0,.int .u8 0,.int .u8 0,.int .u8 0,.int .u8 0]) w1 fun b_1 w2=>ck (List.length x=36) (pAgg ⟨b_1,0,none⟩ x w2 fun w3=>cond (x_1 != 1)
 (some (.int .i64 0,w3))
 (gAgg ⟨b_1,0,none⟩ 36 w3 fun x_2=>bnd (C Ao2 [.agg ⟨x_2⟩,.slice b bn bc] w3) fun r_4 w4=>as2 r_4 fun r_5 r_6=>aAgg r_5 fun x_3=>aInt .i64 r_6 fun x_4=>nw (.cells D0 false [.int .i64 0,.int .i64 0,.int .i64 0,.int .i64 0,.int .u8 0,.int .u8 0,.int .u8 0,.int .u8 0,.int .u8 0,.int .u8 0,.int .u8 0,.int .u8 0,.int .u8 0,.int .u8 0,.int .u8 0,.int .u8 0,.int .u8 0,.int .u8 0,.int .u8 0,.int .u8 0,.int .u8 0,.int .u8 0,.int .u8 0,.int .u8 0,.int .u8 0,.int .u8 0,.int .u8 0,.int .u8 0,.int .u8 0,.int .u8 0,.int .u8 0,.int .u8 0,.int .u8 0,.int .u8 0,.int .u8 0,.int .u8 0]) w4 fun b_2 w5=>ck (List.length x_3=36) (pAgg ⟨b_2,0,none⟩ x_3 w5 fun w6=>gAgg ⟨b_2,0,none⟩ 36 w6 fun x_5=>bnd (C O1 [.pointer c,.agg ⟨x_5⟩] w6) fun r_7 w7=>aBool r_7 fun x_6=>cond (!x_6)
 (some (.int .i64 0,w7))
 (some (.int .i64 x_4,w7)))))):=by kernel_rfl
def Do2:Cuts:={ globs:=0,loops:=[],regs:=[],plans:=[] }
def Ei2:List Item:=A4 Tryz.f24
theorem Gy1 (C:A1) (R:A3)  (h:H) :
 A5 PR Do2 C R Bu4 Tryz.f24 100000 true Ei2 [] h =
 nw (.cells By3 false [.slice none 0 0,.slice none 0 0,.int .i64 0]) h fun b w=>nw (.cells E99 false [.bool false,.bool false]) w fun b_1 w1=>nw (.cells Bu5 false [.int .i64 0,.int .i64 1,.int .i64 1,.int .i64 0]) w1 fun b_2 w2=>pAgg ⟨b,0,none⟩ [.slice (some ⟨b_1,0,none⟩) 2 2,.slice (some ⟨b_2,0,none⟩) 2 2,.int .i64 5] w2 fun w3=>gAgg ⟨b,0,none⟩ 3 w3 fun x=>some (.agg ⟨x⟩,w3):=by kernel_rfl
def A06:Cuts:={ globs:=0,loops:=[(4,[1,3,4])],regs:=[],plans:=[] }
def Bk2:List Item:=A4 Tryz.f25
def Am9:List Item:=stk [0,1,0,1,0,1,0,0,1,4,5] Bk2
theorem Eu2 (C:A1) (R:A3) (p:List Value) (h:H) :
 A5 PR A06 C R O8 Tryz.f25 100000 true Bk2 [(0,.agg ⟨p⟩)] h =
 nw (.cells D0 false p) h fun b w=>gInt .i64 (Addr.add ⟨b,0,none⟩ 0) w fun x=>gInt .i64 (Addr.add ⟨b,0,none⟩ 1) w fun x_1=>gInt .i64 (Addr.add ⟨b,0,none⟩ 2) w fun x_2=>gInt .i64 (Addr.add ⟨b,0,none⟩ 3) w fun x_3=>nw (.cells A2 false [.int .u8 1,.int .u8 (IntKind.wrap .u8 (x)),.int .u8 (IntKind.wrap .u8 (x_1)),.int .u8 (IntKind.wrap .u8 (x_2)),.int .u8 (IntKind.wrap .u8 (x_3)),.int .u8 197]) w fun b_1 w1=>gCells (some ⟨b_1,0,none⟩) 6 w1 fun cs=>asBytes cs fun l=>bnd (C Ad4 [.string (ByteArray.mk ⟨l⟩)] w1) fun r w2=>aInt .u8 r fun x_4=>nw (.cells A2 false [.int .u8 x_4,.int .u8 0]) w2 fun b_2 w3=>gCells (some ⟨b_2,0,none⟩) 2 w3 fun cs_1=>asBytes cs_1 fun l_1=>ck (ByteArray.size (ByteArray.mk ⟨l⟩)+ByteArray.size (ByteArray.mk ⟨l_1⟩)≤A8) (R O8 Am9 [(1,.pointer (some ⟨b,0,none⟩)),(3,.string ((ByteArray.mk ⟨l⟩)++(ByteArray.mk ⟨l_1⟩))),(4,.int .i64 0)] w3):=by kernel_rfl
theorem By0 (C:A1) (R:A3) (p:Addr) (s:ByteArray) (i:Int) (h:H) :
 A5 PR A06 C R O8 Tryz.f25 100000 true Am9 [(1,.pointer (some p)),(3,.string s),(4,.int .i64 i)] h =
 cond (decide (i<32))
 (ck ((0:Int)≤i∧i<((32:Nat):Int)) (gInt .u8 (Addr.add (Addr.add p 4) (Int.toNat i*1)) h fun x=>nw (.cells A2 false [.int .u8 x]) h fun b w=>gCells (some ⟨b,0,none⟩) 1 w fun cs=>asBytes cs fun l=>ck (ByteArray.size s+ByteArray.size (ByteArray.mk ⟨l⟩)≤A8) (R O8 Am9 [(1,.pointer (some p)),(3,.string (s++(ByteArray.mk ⟨l⟩))),(4,.int .i64 (IntKind.wrap .i64 (i+1)))] w)))
 (some (.string s,h)):=by kernel_rfl
def Bk9:Cuts:={ globs:=0,loops:=[],regs:=[],plans:=[] }
def Dd2:List Item:=A4 Tryz.f30
theorem Et5 (C:A1) (R:A3) (f:List Value) (h:H) :
 A5 PR Bk9 C R A07 Tryz.f30 100000 true Dd2 [(0,.agg ⟨f⟩)] h =
 nw (.cells D5 false f) h fun b w=>gInt .i64 (Addr.add ⟨b,0,none⟩ 0) w fun x=>gInt .i64 (Addr.add ⟨b,0,none⟩ 1) w fun x_1=>gInt .i64 (Addr.add ⟨b,0,none⟩ 2) w fun x_2=>gInt .i64 (Addr.add ⟨b,0,none⟩ 3) w fun x_3=>nw (.cells A2 false [.int .u8 (IntKind.wrap .u8 (x)),.int .u8 (IntKind.wrap .u8 (x_1)),.int .u8 (IntKind.wrap .u8 (x_2)),.int .u8 (IntKind.wrap .u8 (x_3)),.int .u8 179]) w fun b_1 w1=>gCells (some ⟨b_1,0,none⟩) 5 w1 fun cs=>asBytes cs fun l=>bnd (C Ad4 [.string (ByteArray.mk ⟨l⟩)] w1) fun r w2=>aInt .u8 r fun x_4=>nw (.cells A2 false [.int .u8 x_4,.int .u8 0,.int .u8 0]) w2 fun b_2 w3=>gCells (some ⟨b_2,0,none⟩) 3 w3 fun cs_1=>asBytes cs_1 fun l_1=>ck (ByteArray.size (ByteArray.mk ⟨l⟩)+ByteArray.size (ByteArray.mk ⟨l_1⟩)≤A8) (some (.string ((ByteArray.mk ⟨l⟩)++(ByteArray.mk ⟨l_1⟩)),w3)):=by kernel_rfl
def Ay4:Cuts:={ globs:=0,loops:=[],regs:=[],plans:=[] }
def Bl4:List Item:=A4 Tryz.f35
theorem Dw0 (C:A1) (R:A3) (c:Option Addr) (i:Int) (h:H) :
 A5 PR Ay4 C R Q6 Tryz.f35 100000 true Bl4 [(0,.pointer c),(1,.int .i64 i)] h =
 nw (.cells D5 false [.int .i64 0,.int .i64 0,.int .i64 0,.int .i64 0]) h fun b w=>bnd (C A28 [.int .i64 i] w) fun r w1=>aAgg r fun x=>bnd (C J8 [.pointer c,.agg ⟨x⟩,.func (.func A15) ⟨[]⟩ ⟨[]⟩] w1) fun r_1 w2=>as2 r_1 fun r_2 r_3=>aAgg r_2 fun x_1=>aInt .i64 r_3 fun x_2=>ck (List.length x_1=4) (pAgg ⟨b,0,none⟩ x_1 w2 fun w3=>gAgg ⟨b,0,none⟩ 4 w3 fun x_3=>some (.tuple ⟨[.agg ⟨x_3⟩,.int .i64 x_2]⟩,w3)):=by kernel_rfl
def Dn9:Cuts:={ globs:=0,loops:=[],regs:=[],plans:=[] }
def Em9:List Item:=A4 Tryz.f36
theorem G01 (C:A1) (R:A3) (k:Int) (fv0:Addr) (h:H) :
 A5 PR Dn9 C R A42 Tryz.f36 100000 true Em9 [(0,.int .i64 k),(1,.pointer (some fv0))] h =
 gPtr fv0 h fun x=>bnd (C Q7 [.pointer x,.int .i64 k] h) fun r w=>as2 r fun r_1 r_2=>aAgg r_1 fun x_1=>aInt .i64 r_2 fun x_2=>nw (.cells D0 false [.int .i64 0,.int .i64 0,.int .i64 0,.int .i64 0,.int .u8 0,.int .u8 0,.int .u8 0,.int .u8 0,.int .u8 0,.int .u8 0,.int .u8 0,.int .u8 0,.int .u8 0,.int .u8 0,.int .u8 0,.int .u8 0,.int .u8 0,.int .u8 0,.int .u8 0,.int .u8 0,.int .u8 0,.int .u8 0,.int .u8 0,.int .u8 0,.int .u8 0,.int .u8 0,.int .u8 0,.int .u8 0,.int .u8 0,.int .u8 0,.int .u8 0,.int .u8 0,.int .u8 0,.int .u8 0,.int .u8 0,.int .u8 0]) w fun b w1=>ck (List.length x_1=36) (pAgg ⟨b,0,none⟩ x_1 w1 fun w2=>some (.bool (x_2==0),w2)):=by kernel_rfl
def Dp2:Cuts:={ globs:=0,loops:=[],regs:=[],plans:=[] }
def Eh1:List Item:=A4 Tryz.f43
theorem G48 (C:A1) (R:A3) (e:Int) (h:H) :
 A5 PR Dp2 C R P1 Tryz.f43 100000 true Eh1 [(0,.int .i64 e)] h =
 nw (.cells N3 false [.int .i64 0,.int .i64 0,.slice none 0 0,.bool false]) h fun b w=>pAgg ⟨b,0,none⟩ [.int .i64 0,.int .i64 e,.slice none 0 0,.bool false] w fun w1=>gAgg ⟨b,0,none⟩ 4 w1 fun x=>some (.agg ⟨x⟩,w1):=by kernel_rfl
def Dx3:Cuts:={ globs:=0,loops:=[],regs:=[],plans:=[(6,⟨[0,1,2,3,4],[0,0,2,7,15],[(2,[0])],[]⟩)] }
def Ex0:List Item:=A4 Tryz.f49
theorem G80 (C:A1) (R:A3) (p:List Value) (n:Int) (h:H) :
 A5 PR Dx3 C R B56 Tryz.f49 100000 true Ex0 [(0,.agg ⟨p⟩),(1,.int .i64 n)] h =
 nw (.cells D0 false p) h fun b w=>nw (.cells D0 false [.int .i64 0,.int .i64 0,.int .i64 0,.int .i64 0,.int .u8 0,.int .u8 0,.int .u8 0,.int .u8 0,.int .u8 0,.int .u8 0,.int .u8 0,.int .u8 0,.int .u8 0,.int .u8 0,.int .u8 0,.int .u8 0,.int .u8 0,.int .u8 0,.int .u8 0,.int .u8 0,.int .u8 0,.int .u8 0,.int .u8 0,.int .u8 0,.int .u8 0,.int .u8 0,.int .u8 0,.int .u8 0,.int .u8 0,.int .u8 0,.int .u8 0,.int .u8 0,.int .u8 0,.int .u8 0,.int .u8 0,.int .u8 0]) w fun b_1 w1=>gAgg ⟨b,0,none⟩ 36 w1 fun x=>bnd (C Aj2 [.agg ⟨x⟩] w1) fun r w2=>aSl r fun x_1 xn xc=>ckB (fitsOpen x_1 A2 w2) (ck ((0:Int)≤mm2 false (mm2 true n 0) ((xn:Nat):Int)∧mm2 false (mm2 true n 0) ((xn:Nat):Int)≤((xc:Nat):Int)) (cond (decide ((((Int.toNat (mm2 false (mm2 true n 0) ((xn:Nat):Int)))-0:Nat):Int)>0))
 (gInt .i64 (Addr.add ⟨b,0,none⟩ 0) w2 fun x_2=>pV (Addr.add ⟨b,0,none⟩ 0) (.int .i64 (Int.tmod (IntKind.wrap .i64 (x_2+(((Int.toNat (mm2 false (mm2 true n 0) ((xn:Nat):Int)))-0:Nat):Int))) 32)) w2 fun w3=>gInt .i64 (Addr.add ⟨b,0,none⟩ 1) w3 fun x_3=>pV (Addr.add ⟨b,0,none⟩ 1) (.int .i64 (IntKind.wrap .i64 (x_3-(((Int.toNat (mm2 false (mm2 true n 0) ((xn:Nat):Int)))-0:Nat):Int)))) w3 fun w4=>gAgg ⟨b,0,none⟩ 36 w4 fun x_4=>bnd (C S5 [.slice (H0 x_1 (decide (0<xc)) (0*1)) ((Int.toNat (mm2 false (mm2 true n 0) ((xn:Nat):Int)))-0) (xc-0)] w4) fun r_1 w5=>aSl r_1 fun x_5 xn_1 xc_1=>gAgg ⟨b,0,none⟩ 36 w5 fun x_6=>same (.agg ⟨x_4⟩) (.agg ⟨x_6⟩) (ck (List.length x_4=36) (pAgg ⟨b_1,0,none⟩ x_4 w5 fun w6=>gAgg ⟨b_1,0,none⟩ 36 w6 fun x_7=>some (.tuple ⟨[.agg ⟨x_7⟩,.slice x_5 xn_1 xc_1]⟩,w6))))
 (gAgg ⟨b,0,none⟩ 36 w2 fun x_8=>bnd (C S5 [.slice (H0 x_1 (decide (0<xc)) (0*1)) ((Int.toNat (mm2 false (mm2 true n 0) ((xn:Nat):Int)))-0) (xc-0)] w2) fun r_2 w7=>aSl r_2 fun x_9 xn_2 xc_2=>gAgg ⟨b,0,none⟩ 36 w7 fun x_10=>same (.agg ⟨x_8⟩) (.agg ⟨x_10⟩) (ck (List.length x_8=36) (pAgg ⟨b_1,0,none⟩ x_8 w7 fun w8=>gAgg ⟨b_1,0,none⟩ 36 w8 fun x_11=>some (.tuple ⟨[.agg ⟨x_11⟩,.slice x_9 xn_2 xc_2]⟩,w8)))))):=by kernel_rfl
def Aq5:Cuts:={ globs:=0,loops:=[(4,[1,3,4]),(8,[1,3,5]),(13,[1,3,5,6,7,9])],regs:=[],plans:=[(1,⟨[0,1,2,3,4,5,6],[0,0,2,6,15,31,63],[(3,[0])],[]⟩),(2,⟨[0,1,2,3,4,5,6,7,11,12,13,8,9,10,14,15,16,17,18,19],[0,0,2,6,14,0,32,96,254,510,1022,0,2048,6144,14846,32766,65534,131071,262143,524287],[(8,[12])],[]⟩),(6,⟨[0,1,2,3,4,5,6,7,8,9,10,11,12],[0,0,2,6,14,0,32,96,224,510,1023,2047,4095],[(7,[4])],[]⟩),(11,⟨[0,1,2,3,4,5,6,7,8,9,11,12,15,16,18,19,10,13,14,17,20,21,22,23,24,25],[0,1,3,7,0,16,48,112,0,256,1008,0,2048,8176,16368,0,32768,131056,0,262144,1048575,2097151,4194303,4194303,8388607,33554431],[(10,[3,12,16,19])],[]⟩),(15,⟨[0,1,2,3,4,5,6,7],[0,1,0,4,0,28,60,127],[],[]⟩),(16,⟨[0,1,2,3,4,5,6,7,8,9,10,11,12],[0,1,3,7,15,31,63,0,0,0,512,1792,4095],[],[]⟩)] }
def A41:List Item:=A4 Tryz.f70
def A05:List Item:=stk [0,1,0,1,0,1,0,0,1,4,5] A41
def Al4:List Item:=stk [0,1,0,1,0,1,0,1,0,0,1,4,5] A41
def Al5:List Item:=stk [0,1,0,1,0,1,0,1,0,0,1,4,5,6,0,1,0,4,0,1,0,1,0,1,4,5] A41
theorem Ge9 (C:A1) (R:A3) (b:List Value) (h:H) :
 A5 PR Aq5 C R G2 Tryz.f70 100000 true A41 [(0,.agg ⟨b⟩)] h =
 nw (.cells E0 false b) h fun b_1 w=>gAgg ⟨b_1,0,none⟩ 5 w fun x=>gSl (Addr.add ⟨b_1,0,none⟩ 0) w fun x_1 xn xc=>bnd (C Y8 [.slice x_1 xn xc] w) fun r w1=>aPtr r fun x_2=>gAgg ⟨b_1,0,none⟩ 5 w1 fun x_3=>same (.agg ⟨x⟩) (.agg ⟨x_3⟩) (ck (List.length x=5) (nw (.cells Ev9 false (x++(.pointer x_2::(.pointer none::(.slice none 0 0::[.int .i64 0]))))) w1 fun b_2 w2=>gPtr (Addr.add ⟨b_2,0,none⟩ 5) w2 fun x_4=>gSl (Addr.add ⟨b_1,0,none⟩ 0) w2 fun _ xn_1 _=>gSl (Addr.add ⟨b_1,0,none⟩ 1) w2 fun x_6 xn_2 xc_2=>bnd (C N4 [.pointer x_4,.int .i64 ((xn_1:Nat):Int)] w2) fun r_1 w3=>aInt .i64 r_1 fun x_7=>gSl (Addr.add ⟨b_1,0,none⟩ 1) w3 fun x_8 xn_3 xc_3=>same (.slice x_6 xn_2 xc_2) (.slice x_8 xn_3 xc_3) (ck ((0:Int)≤IntKind.wrap .i64 (64*x_7)∧(IntKind.wrap .i64 (64*x_7):Int)≤IntKind.wrap .i64 (64*x_7)∧IntKind.wrap .i64 (64*x_7)≤(A8:Int)) (nw (.cells A2 false (I1 (Int.toNat (IntKind.wrap .i64 (64*x_7))) [.int .u8 0])) w3 fun b_3 w4=>bnd (C Z0 [.int .i64 ((xn_2:Nat):Int)] w4) fun r_2 w5=>aPtr r_2 fun x_9=>nw (.cells D00 false [.slice (some ⟨b_3,0,none⟩) (Int.toNat (IntKind.wrap .i64 (64*x_7))) (Int.toNat (IntKind.wrap .i64 (64*x_7))),.slice none 0 0,.slice none 0 0,.pointer x_9]) w5 fun b_4 w6=>pV (Addr.add ⟨b_2,0,none⟩ 6) (.pointer (some ⟨b_4,0,none⟩)) w6 fun w7=>R G2 A05 [(1,.pointer (some ⟨b_1,0,none⟩)),(3,.pointer (some ⟨b_2,0,none⟩)),(4,.int .i64 0)] w7)))):=by kernel_rfl
theorem Dc7 (C:A1) (R:A3) (b:Addr) (k:Addr) (i:Int) (h:H) :
 A5 PR Aq5 C R G2 Tryz.f70 100000 true A05 [(1,.pointer (some b)),(3,.pointer (some k)),(4,.int .i64 i)] h =
 gSl (Addr.add b 2) h fun _ xn _=>cond (decide (i<((xn:Nat):Int)))
 (gSl (Addr.add k 7) h fun x_1 xn_1 xc_1=>gInt .i64 (Addr.add b 3) h fun x_2=>bnd (C Bj1 [.int .i64 x_2] h) fun r w=>aPtr r fun x_3=>gSl (Addr.add k 7) w fun x_4 xn_2 xc_2=>same (.slice x_1 xn_1 xc_1) (.slice x_4 xn_2 xc_2) (nw (.cells A91 false [.pointer x_3]) w fun b_1 w1=>gCells (some ⟨b_1,0,none⟩) (1*1) w1 fun cs=>ckB (fitsOpen x_1 A91 w1) (apd A91 1 x_1 xn_1 xc_1 1 cs w1 fun a an ac w2=>pV (Addr.add k 7) (.slice a an ac) w2 fun w3=>R G2 A05 [(1,.pointer (some b)),(3,.pointer (some k)),(4,.int .i64 (IntKind.wrap .i64 (i+1)))] w3)))
 (R G2 Al4 [(1,.pointer (some b)),(3,.pointer (some k)),(5,.int .i64 0)] h):=by kernel_rfl
theorem Dc9 (C:A1) (R:A3) (b:Addr) (k:Addr) (i:Int) (h:H) :
 A5 PR Aq5 C R G2 Tryz.f70 100000 true Al4 [(1,.pointer (some b)),(3,.pointer (some k)),(5,.int .i64 i)] h =
 gSl (Addr.add b 4) h fun _ xn _=>cond (decide (i<((xn:Nat):Int)))
 (gSl (Addr.add b 4) h fun x_1 xn_1 _=>aSome x_1 fun p=>ck ((0:Int)≤i∧i<((xn_1:Nat):Int)) (gAgg (Addr.add (A9 p) (Int.toNat i*5)) 5 h fun x_2=>nw (.cells I5 false [.int .i64 0,.int .i64 0,.int .i64 0,.int .i64 0,.slice none 0 0]) h fun b_1 w=>ck (List.length x_2=5) (pAgg ⟨b_1,0,none⟩ x_2 w fun w1=>gPtr (Addr.add k 6) w1 fun x_3=>gPtr (Addr.add k 5) w1 fun x_4=>gInt .i64 (Addr.add ⟨b_1,0,none⟩ 0) w1 fun x_5=>gInt .i64 (Addr.add ⟨b_1,0,none⟩ 1) w1 fun x_6=>gInt .i64 (Addr.add ⟨b_1,0,none⟩ 2) w1 fun x_7=>gInt .i64 (Addr.add ⟨b_1,0,none⟩ 3) w1 fun x_8=>bnd (C N4 [.pointer x_4,.int .i64 x_5] w1) fun r w2=>aInt .i64 r fun x_9=>gPtr (Addr.add k 6) w2 fun x_10=>same (.pointer x_3) (.pointer x_10) (gInt .i64 (Addr.add ⟨b_1,0,none⟩ 1) w2 fun x_11=>same (.int .i64 x_6) (.int .i64 x_11) (gInt .i64 (Addr.add ⟨b_1,0,none⟩ 2) w2 fun x_12=>same (.int .i64 x_7) (.int .i64 x_12) (gInt .i64 (Addr.add ⟨b_1,0,none⟩ 3) w2 fun x_13=>same (.int .i64 x_8) (.int .i64 x_13) (bnd (C Aw9 [.pointer x_3,.int .i64 (IntKind.wrap .i64 ((IntKind.wrap .i64 (64*(IntKind.wrap .i64 (x_9+x_6))))+x_7)),.int .i64 x_8] w2) fun r_1 w3=>as2 r_1 fun r_2 r_3=>aInt .i64 r_2 fun x_14=>aInt .i64 r_3 fun _=>R G2 Al5 [(1,.pointer (some b)),(3,.pointer (some k)),(5,.int .i64 i),(6,.pointer (some ⟨b_1,0,none⟩)),(7,.int .i64 x_14),(9,.int .i64 0)] w3)))))))
 (some (.pointer (some k),h)):=by kernel_rfl
theorem Dc8 (C:A1) (R:A3) (b:Addr) (k:Addr) (i:Int) (s:Addr) (obj:Int) (e:Int) (h:H) :
 A5 PR Aq5 C R G2 Tryz.f70 100000 true Al5 [(1,.pointer (some b)),(3,.pointer (some k)),(5,.int .i64 i),(6,.pointer (some s)),(7,.int .i64 obj),(9,.int .i64 e)] h =
 gSl (Addr.add b 1) h fun _ xn _=>cond (decide (e<((xn:Nat):Int)))
 (gSl (Addr.add s 4) h fun x_1 xn_1 xc_1=>gSl (Addr.add b 1) h fun x_2 xn_2 _=>aSome x_2 fun p=>ck ((0:Int)≤e∧e<((xn_2:Nat):Int)) (gInt .i64 (Addr.add (A9 p) (Int.toNat e*1)) h fun x_3=>bnd (C A50 [.slice x_1 xn_1 xc_1,.int .i64 x_3] h) fun r w=>aBool r fun x_4=>cond x_4
 (gPtr (Addr.add k 6) w fun x_5=>aSome x_5 fun p_1=>gPtr (Addr.add p_1 3) w fun x_6=>gInt .i64 (Addr.add s 3) w fun x_7=>bnd (C A58 [.pointer x_6,.int .i64 e,.agg ⟨[.int .i64 obj,.int .i64 3,.int .i64 0,.int .i64 x_7,.int .i64 0,.int .i64 0]⟩] w) fun r_1 w1=>as2 r_1 fun r_2 r_3=>aInt .i64 r_2 fun _=>aInt .i64 r_3 fun _=>R G2 Al5 [(1,.pointer (some b)),(3,.pointer (some k)),(5,.int .i64 i),(6,.pointer (some s)),(7,.int .i64 obj),(9,.int .i64 (IntKind.wrap .i64 (e+1)))] w1)
 (R G2 Al5 [(1,.pointer (some b)),(3,.pointer (some k)),(5,.int .i64 i),(6,.pointer (some s)),(7,.int .i64 obj),(9,.int .i64 (IntKind.wrap .i64 (e+1)))] w)))
 (R G2 Al4 [(1,.pointer (some b)),(3,.pointer (some k)),(5,.int .i64 (IntKind.wrap .i64 (i+1)))] h):=by kernel_rfl
def Dc0:Cuts:={ globs:=0,loops:=[],regs:=[],plans:=[] }
def Eb1:List Item:=A4 Tryz.f71
theorem Gp8 (C:A1) (R:A3) (k:Option Addr) (env:Int) (h:H) :
 A5 PR Dc0 C R Bo0 Tryz.f71 100000 true Eb1 [(0,.pointer k),(1,.int .i64 env)] h =
 bnd (cond k.isNone (some (true,h)) (bnd (C Al7 [.pointer k] h) fun r w=>aPtr r fun x=>bnd (C Aj1 [.pointer x,.int .i64 env] w) fun r_1 w1=>aSl r_1 fun _ xn _=>some (((xn:Nat):Int)==0,w1))) fun c w2=>cond c
 (some (.tuple ⟨[.pointer none,.int .i64 1]⟩,w2))
 (bnd (C Al7 [.pointer k] w2) fun r_2 w3=>aPtr r_2 fun x_2=>bnd (C Aj1 [.pointer x_2,.int .i64 env] w3) fun r_3 w4=>aSl r_3 fun x_3 xn_1 xc_1=>nw (.map [] 0) w4 fun b w5=>nw (.cells Dc5 false [.pointer k,.int .i64 env,.slice x_3 xn_1 xc_1,.map (some b)]) w5 fun b_1 w6=>some (.tuple ⟨[.pointer (some ⟨b_1,0,none⟩),.int .i64 0]⟩,w6)):=by kernel_rfl
def Be9:Cuts:={ globs:=0,loops:=[],regs:=[],plans:=[] }
def B88:List Item:=A4 Tryz.f86
theorem Ej2 (C:A1) (R:A3) (g:Int) (h:H) :
 A5 PR Be9 C R Ax0 Tryz.f86 100000 true B88 [(0,.int .i64 g)] h =
 nw (.cells A2 false [.int .u8 (IntKind.wrap .u8 (g)),.int .u8 211]) h fun b w=>gCells (some ⟨b,0,none⟩) 2 w fun cs=>asBytes cs fun l=>bnd (C Ad4 [.string (ByteArray.mk ⟨l⟩)] w) fun r w1=>aInt .u8 r fun x=>nw (.cells A2 false [.int .u8 x,.int .u8 0]) w1 fun b_1 w2=>gCells (some ⟨b_1,0,none⟩) 2 w2 fun cs_1=>asBytes cs_1 fun l_1=>ck (ByteArray.size (ByteArray.mk ⟨l⟩)+ByteArray.size (ByteArray.mk ⟨l_1⟩)≤A8) (some (.string ((ByteArray.mk ⟨l⟩)++(ByteArray.mk ⟨l_1⟩)),w2)):=by kernel_rfl
def At7:Cuts:={ globs:=0,loops:=[],regs:=[],plans:=[(2,⟨[0,1,2,3,4,5,6,7,8,9,10,11,12,13,14],[0,1,3,7,15,31,63,127,255,511,1023,127,4095,8191,16383],[],[]⟩),(4,⟨[0,1,2,3,4,5,6,7,8,9,10,11,12,13,14,15,16,17],[0,1,3,7,0,16,48,112,0,256,0,1024,0,7936,16383,32767,65535,131071],[],[]⟩)] }
def Bj4:List Item:=A4 Tryz.f96
theorem Dp6 (C:A1) (R:A3) (c:Option Addr) (r:List Value) (b:Option Addr) (bn bc:Nat) (ok:Bool) (h:H) :
 A5 PR At7 C R J7 Tryz.f96 100000 true Bj4 [(0,.pointer c),(1,.agg ⟨r⟩),(2,.slice b bn bc),(3,.bool ok)] h =
 nw (.cells E1 false r) h fun b_1 w=>gAgg ⟨b_1,0,none⟩ 2 w fun x=>bnd (C Y1 [.pointer c,.agg ⟨x⟩] w) fun r_1 w1=>as2 r_1 fun r_2 r_3=>aAgg r_2 fun x_1=>aBool r_3 fun x_2=>nw (.cells Bv2 false [.int .i64 0,.int .i64 0,.int .i64 0]) w1 fun b_2 w2=>ck (List.length x_1=3) (pAgg ⟨b_2,0,none⟩ x_1 w2 fun w3=>bnd (cond (!x_2) (some (true,w3)) (some (!ok,w3))) fun c_1 w4=>bnd (cond c_1 (some (true,w4)) (aSome c fun p=>gMap (Addr.add p 3) w4 fun x_3=>gAgg ⟨b_1,0,none⟩ 2 w4 fun x_4=>keyN PR E1 (.agg ⟨x_4⟩) (opt x_3 fun r_4=>mapAt w4 r_4 fun es _=>opt (Ak4 (.int .i64 0) (.agg ⟨x_4⟩) es) fun f=>aInt .i64 f.1 fun x_5=>some (decide (x_5>0),w4)))) fun c_2 w5=>cond c_2
 (some (.bool false,w5))
 (aSome c fun p_1=>gPtr (Addr.add p_1 0) w5 fun x_6=>aSome c fun p_2=>gInt .i64 (Addr.add p_2 1) w5 fun x_7=>gInt .i64 (Addr.add ⟨b_2,0,none⟩ 0) w5 fun x_8=>gInt .i64 (Addr.add ⟨b_2,0,none⟩ 1) w5 fun x_9=>bnd (C Q5 [.pointer x_6,.int .i64 x_7,.agg ⟨[.int .i64 2,.int .i64 x_8,.int .i64 x_9,.int .i64 0,.int .i64 0,.int .i64 0,.slice b bn bc]⟩] w5) fun r_5 w6=>aAgg r_5 fun x_10=>nth x_10 0 fun E=>aInt .i64 E fun E_1=>some (.bool (E_1==0),w6))):=by kernel_rfl
def B37:Cuts:={ globs:=0,loops:=[],regs:=[],plans:=[(1,⟨[1,0,2,3,4,5,6],[0,0,3,7,7,31,63],[(0,[1])],[]⟩)] }
def Dz0:List Item:=A4 Tryz.f97
theorem Gg3 (C:A1) (R:A3) (f:List Value) (h:H) :
 A5 PR B37 C R A40 Tryz.f97 100000 true Dz0 [(0,.agg ⟨f⟩)] h =
 nw (.cells D5 false f) h fun b w=>gAgg ⟨b,0,none⟩ 4 w fun x=>bnd (C A96 [] w) fun r w1=>aPtr r fun x_1=>gAgg ⟨b,0,none⟩ 4 w1 fun x_2=>same (.agg ⟨x⟩) (.agg ⟨x_2⟩) (bnd (C U8 [.pointer x_1,.agg ⟨x⟩] w1) fun r_1 w2=>as2 r_1 fun r_2 r_3=>aSl r_2 fun x_3 xn xc=>aBool r_3 fun x_4=>some (.tuple ⟨[.slice x_3 xn xc,.bool x_4]⟩,w2)):=by kernel_rfl
def B31:Cuts:={ globs:=0,loops:=[],regs:=[],plans:=[] }
def D15:List Item:=A4 Tryz.f99
theorem Gd4 (C:A1) (R:A3) (i:Int) (h:H) :
 A5 PR B31 C R A26 Tryz.f99 100000 true D15 [(0,.int .i64 i)] h =
 nw (.cells E1 false [.int .i64 0,.int .i64 0]) h fun b w=>pAgg ⟨b,0,none⟩ [.int .i64 1,.int .i64 i] w fun w1=>gAgg ⟨b,0,none⟩ 2 w1 fun x=>some (.agg ⟨x⟩,w1):=by kernel_rfl
def Dm3:Cuts:={ globs:=0,loops:=[],regs:=[],plans:=[] }
def Em7:List Item:=A4 Tryz.f100
theorem Gy8 (C:A1) (R:A3) (p:List Value) (fv0:Addr) (fv1:Addr) (h:H) :
 A5 PR Dm3 C R A33 Tryz.f100 100000 true Em7 [(0,.agg ⟨p⟩),(1,.pointer (some fv0)),(2,.pointer (some fv1))] h =
 nw (.cells D0 false p) h fun b w=>gPtr fv0 w fun x=>gInt .i64 (Addr.add fv1 1) w fun x_1=>gAgg ⟨b,0,none⟩ 36 w fun x_2=>bnd (C U4 [.pointer x,.int .i64 x_1,.agg ⟨x_2⟩] w) fun r w1=>aBool r fun x_3=>some (.bool x_3,w1):=by kernel_rfl
def Bj8:Cuts:={ globs:=0,loops:=[],regs:=[],plans:=[] }
def Dc1:List Item:=A4 Tryz.f116
theorem Es7 (C:A1) (R:A3) (b:Option Addr) (bn bc:Nat) (h:H) :
 A5 PR Bj8 C R Al6 Tryz.f116 100000 true Dc1 [(0,.slice b bn bc)] h =
 cond (((bn:Nat):Int) != 4)
 (some (.tuple ⟨[.int .i64 0,.int .i64 2]⟩,h))
 (aSome b fun p=>ck ((0:Int)≤0∧0<((bn:Nat):Int)) (gInt .u8 (Addr.add (A9 p) (Int.toNat 0*1)) h fun x=>bnd (C An5 [.int .i64 (IntKind.wrap .i64 (x))] h) fun r w=>as2 r fun r_1 r_2=>aSl r_1 fun x_1 xn _=>aBool r_2 fun x_2=>bnd (cond (!x_2) (some (true,w)) (gCells x_1 xn w fun cs=>asBytes cs fun l=>gCells b bn w fun cs_1=>asBytes cs_1 fun l_1=>some (!((ByteArray.mk ⟨l⟩).toList==(ByteArray.mk ⟨l_1⟩).toList),w))) fun c w1=>cond c
 (some (.tuple ⟨[.int .i64 0,.int .i64 2]⟩,w1))
 (aSome b fun p_1=>ck ((0:Int)≤0∧0<((bn:Nat):Int)) (gInt .u8 (Addr.add (A9 p_1) (Int.toNat 0*1)) w1 fun x_3=>some (.tuple ⟨[.int .i64 (IntKind.wrap .i64 (x_3)),.int .i64 1]⟩,w1))))):=by kernel_rfl
def En0:Cuts:={ globs:=0,loops:=[],regs:=[],plans:=[] }
def Gj5:List Item:=A4 Tryz.f121
theorem Hv0 (C:A1) (R:A3) (frames:Int) (h:H) :
 A5 PR En0 C R Dt3 Tryz.f121 100000 true Gj5 [(0,.int .i64 frames)] h =
 ck ((0:Int)≤IntKind.wrap .i64 (64*(mm2 false (mm2 true frames 0) 256))∧(IntKind.wrap .i64 (64*(mm2 false (mm2 true frames 0) 256)):Int)≤IntKind.wrap .i64 (64*(mm2 false (mm2 true frames 0) 256))∧IntKind.wrap .i64 (64*(mm2 false (mm2 true frames 0) 256))≤(A8:Int)) (nw (.cells A2 false (I1 (Int.toNat (IntKind.wrap .i64 (64*(mm2 false (mm2 true frames 0) 256)))) [.int .u8 0])) h fun b w=>nw (.cells Ek2 false [.slice (some ⟨b,0,none⟩) (Int.toNat (IntKind.wrap .i64 (64*(mm2 false (mm2 true frames 0) 256)))) (Int.toNat (IntKind.wrap .i64 (64*(mm2 false (mm2 true frames 0) 256))))]) w fun b_1 w1=>some (.pointer (some ⟨b_1,0,none⟩),w1)):=by kernel_rfl
def D88:Cuts:={ globs:=0,loops:=[],regs:=[],plans:=[] }
def E61:List Item:=A4 Tryz.f125
theorem Hm5 (C:A1) (R:A3) (lease:Int) (h:H) :
 A5 PR D88 C R Dg3 Tryz.f125 100000 true E61 [(0,.int .i64 lease)] h =
 nw (.cells Ev1 false [.int .i64 (mm2 false (mm2 true lease 1) 1000),.bool false,.int .i64 0,.int .i64 0,.int .i64 0,.slice none 0 0,.int .i64 0,.int .i64 0,.int .i64 0]) h fun b w=>some (.pointer (some ⟨b,0,none⟩),w):=by kernel_rfl
def Bp8:Cuts:={ globs:=0,loops:=[],regs:=[],plans:=[] }
def Dl9:List Item:=A4 Tryz.f128
theorem E21 (C:A1) (R:A3) (s:Option Addr) (env:Int) (c:List Value) (h:H) :
 A5 PR Bp8 C R A72 Tryz.f128 100000 true Dl9 [(0,.pointer s),(1,.int .i64 env),(2,.agg ⟨c⟩)] h =
 nw (.cells O6 false c) h fun b w=>bnd (C Ad6 [.pointer s,.int .i64 env] w) fun r w1=>aBool r fun x=>bnd (cond (!x) (some (true,w1)) (gInt .i64 (Addr.add ⟨b,0,none⟩ 1) w1 fun x_1=>some ((El0 .i64 x_1 7) != 0,w1))) fun c_1 w2=>bnd (cond c_1 (some (true,w2)) (gInt .i64 (Addr.add ⟨b,0,none⟩ 2) w2 fun x_2=>bnd (C Aj9 [.int .i64 x_2] w2) fun r_1 w3=>aBool r_1 fun x_3=>some (!x_3,w3))) fun c_2 w4=>bnd (cond c_2 (some (true,w4)) (gInt .i64 (Addr.add ⟨b,0,none⟩ 3) w4 fun x_4=>bnd (C Aj9 [.int .i64 x_4] w4) fun r_2 w5=>aBool r_2 fun x_5=>some (!x_5,w5))) fun c_3 w6=>cond c_3
 (some (.tuple ⟨[.int .i64 0,.int .i64 1]⟩,w6))
 (pAgg (Addr.add ⟨b,0,none⟩ 4) [.int .i64 0,.int .i64 0] w6 fun w7=>gAgg ⟨b,0,none⟩ 6 w7 fun x_6=>bnd (C Ar2 [.pointer s,.int .i64 env,.agg ⟨x_6⟩] w7) fun r_3 w8=>as2 r_3 fun r_4 r_5=>aInt .i64 r_4 fun x_7=>aInt .i64 r_5 fun x_8=>some (.tuple ⟨[.int .i64 x_7,.int .i64 x_8]⟩,w8)):=by kernel_rfl
def Av3:Cuts:={ globs:=0,loops:=[(3,[0,1,5,6])],regs:=[],plans:=[] }
def Bg3:List Item:=A4 Tryz.f130
def Ak3:List Item:=stk [0,1,0,1,0,0,1,4,5] Bg3
theorem Ek0 (C:A1) (R:A3) (q:Option Addr) (s:Int) (h:H) :
 A5 PR Av3 C R N4 Tryz.f130 100000 true Bg3 [(0,.pointer q),(1,.int .i64 s)] h =
 R N4 Ak3 [(0,.pointer q),(1,.int .i64 s),(5,.int .i64 0),(6,.int .i64 0)] h:=by kernel_rfl
theorem Bt4 (C:A1) (R:A3) (q:Option Addr) (s:Int) (n:Int) (i:Int) (h:H) :
 A5 PR Av3 C R N4 Tryz.f130 100000 true Ak3 [(0,.pointer q),(1,.int .i64 s),(5,.int .i64 n),(6,.int .i64 i)] h =
 cond (decide (i<s))
 (aSome q fun p=>gSl (Addr.add p 0) h fun x xn _=>aSome x fun p_1=>ck ((0:Int)≤i∧i<((xn:Nat):Int)) (gSl (Addr.add (A9 p_1) (Int.toNat i*1)) h fun _ xn_1 _=>R N4 Ak3 [(0,.pointer q),(1,.int .i64 s),(5,.int .i64 (IntKind.wrap .i64 (n+((xn_1:Nat):Int)))),(6,.int .i64 (IntKind.wrap .i64 (i+1)))] h))
 (some (.int .i64 n,h)):=by kernel_rfl
def Bg2:Cuts:={ globs:=0,loops:=[],regs:=[],plans:=[] }
def B71:List Item:=A4 Tryz.f137
theorem El4 (C:A1) (R:A3) (s:Option Addr) (env:Int) (h:H) :
 A5 PR Bg2 C R Aj1 Tryz.f137 100000 true B71 [(0,.pointer s),(1,.int .i64 env)] h =
 bnd (C Ad6 [.pointer s,.int .i64 env] h) fun r w=>aBool r fun x=>cond (!x)
 (some (.slice none 0 0,w))
 (aSome s fun p=>gSl (Addr.add p 0) w fun x_1 xn _=>aSome x_1 fun p_1=>ck ((0:Int)≤env∧env<((xn:Nat):Int)) (gPtr (Addr.add (A9 p_1) (Int.toNat env*1)) w fun x_2=>bnd (C G0 [.pointer x_2] w) fun r_1 w1=>aSl r_1 fun x_3 xn_1 xc_1=>some (.slice x_3 xn_1 xc_1,w1))):=by kernel_rfl
def A39:Cuts:={ globs:=0,loops:=[],regs:=[],plans:=[] }
def Bt2:List Item:=A4 Tryz.f141
theorem D07 (C:A1) (R:A3) (r:Option Addr) (env:Int) (fromv:Int) (atv:Int) (to:Int) (on:Int) (n:Int) (h:H) :
 A5 PR A39 C R Ak5 Tryz.f141 100000 true Bt2 [(0,.pointer r),(1,.int .i64 env),(2,.int .i64 fromv),(3,.int .i64 atv),(4,.int .i64 to),(5,.int .i64 on),(6,.int .i64 n)] h =
 bnd (C Ab8 [.pointer r,.int .i64 env,.int .i64 fromv,.int .i64 atv,.int .i64 n] h) fun r_1 w=>as2 r_1 fun r_2 r_3=>aSl r_2 fun x xn xc=>aInt .i64 r_3 fun x_1=>cond (x_1 != 0)
 (some (.int .i64 x_1,w))
 (bnd (C Z8 [.pointer r,.int .i64 env,.int .i64 to,.int .i64 on,.slice x xn xc] w) fun r_4 w1=>aInt .i64 r_4 fun x_2=>some (.int .i64 x_2,w1)):=by kernel_rfl
def A54:Cuts:={ globs:=0,loops:=[],regs:=[],plans:=[(6,⟨[0,1,2,3,4,5,6,7,8,9,10,11,12,13,14,15,16,17,18,19,20,21],[0,0,0,4,15,31,63,127,255,511,1023,2047,4095,8191,4095,20479,53247,118783,249855,524287,1048575,2097151],[],[]⟩),(8,⟨[0,1,2,3,4,5,6,7,8,9,10,11,12,13,14,15,16,17,18,19,20,21,22,23,24,25,26,27,28,29,30],[0,1,0,0,8,24,56,0,128,504,1016,2047,4095,8191,16383,32767,16383,131071,16383,16383,540671,1589247,3686399,16383,8404991,33046527,66600959,134217727,268435455,536870911,1073741823],[],[]⟩),(10,⟨[0,1,2,3,4,5,6,7,8,9,10,11,12,13,14],[0,1,3,7,0,16,63,127,0,256,1023,0,4095,8191,16383],[],[]⟩)] }
def Bw5:List Item:=A4 Tryz.f148
theorem D73 (C:A1) (R:A3) (r:Option Addr) (e:Int) (name:Int) (right:Int) (atv:Int) (n:Int) (h:H) :
 A5 PR A54 C R An1 Tryz.f148 100000 true Bw5 [(0,.pointer r),(1,.int .i64 e),(2,.int .i64 name),(3,.int .i64 right),(4,.int .i64 atv),(5,.int .i64 n)] h =
 aSome r fun p=>gPtr (Addr.add p 3) h fun x=>bnd (C A56 [.pointer x,.int .i64 e,.int .i64 name] h) fun r_1 w=>as2 r_1 fun r_2 r_3=>aAgg r_2 fun x_1=>aInt .i64 r_3 fun x_2=>nw (.cells O6 false [.int .i64 0,.int .i64 0,.int .i64 0,.int .i64 0,.int .i64 0,.int .i64 0]) w fun b w1=>ck (List.length x_1=6) (pAgg ⟨b,0,none⟩ x_1 w1 fun w2=>cond (x_2 != 0)
 (some (.tuple ⟨[.int .i64 0,.int .i64 x_2]⟩,w2))
 (gInt .i64 (Addr.add ⟨b,0,none⟩ 1) w2 fun x_3=>cond ((I4 .i64 x_3 right)==0)
 (some (.tuple ⟨[.int .i64 0,.int .i64 3]⟩,w2))
 (gInt .i64 (Addr.add ⟨b,0,none⟩ 3) w2 fun x_4=>bnd (C Ae9 [.int .i64 atv,.int .i64 n,.int .i64 x_4] w2) fun r_4 w3=>aBool r_4 fun x_5=>bnd (cond (!x_5) (some (true,w3)) (gInt .i64 (Addr.add ⟨b,0,none⟩ 0) w3 fun x_6=>some (decide (x_6<0),w3))) fun c w4=>bnd (cond c (some (true,w4)) (gInt .i64 (Addr.add ⟨b,0,none⟩ 0) w4 fun x_7=>aSome r fun p_1=>gSl (Addr.add p_1 1) w4 fun _ xn _=>some (decide (x_7≥((xn:Nat):Int)),w4))) fun c_1 w5=>cond c_1
 (some (.tuple ⟨[.int .i64 0,.int .i64 1]⟩,w5))
 (gInt .i64 (Addr.add ⟨b,0,none⟩ 2) w5 fun x_9=>aSome r fun p_2=>gSl (Addr.add p_2 2) w5 fun x_10 xn_1 _=>gInt .i64 (Addr.add ⟨b,0,none⟩ 0) w5 fun x_11=>aSome x_10 fun p_3=>ck ((0:Int)≤x_11∧x_11<((xn_1:Nat):Int)) (gInt .i64 (Addr.add (A9 p_3) (Int.toNat x_11*1)) w5 fun x_12=>bnd (C Ae9 [.int .i64 x_9,.int .i64 atv,.int .i64 x_12] w5) fun r_5 w6=>aBool r_5 fun x_13=>bnd (cond (!x_13) (some (true,w6)) (gInt .i64 (Addr.add ⟨b,0,none⟩ 2) w6 fun x_14=>aSome r fun p_4=>gSl (Addr.add p_4 2) w6 fun x_15 xn_2 _=>gInt .i64 (Addr.add ⟨b,0,none⟩ 0) w6 fun x_16=>aSome x_15 fun p_5=>ck ((0:Int)≤x_16∧x_16<((xn_2:Nat):Int)) (gInt .i64 (Addr.add (A9 p_5) (Int.toNat x_16*1)) w6 fun x_17=>bnd (C Ae9 [.int .i64 (IntKind.wrap .i64 (x_14+atv)),.int .i64 n,.int .i64 x_17] w6) fun r_6 w7=>aBool r_6 fun x_18=>some (!x_18,w7)))) fun c_2 w8=>cond c_2
 (some (.tuple ⟨[.int .i64 0,.int .i64 1]⟩,w8))
 (aSome r fun p_6=>gSl (Addr.add p_6 1) w8 fun x_19 xn_3 _=>gInt .i64 (Addr.add ⟨b,0,none⟩ 0) w8 fun x_20=>aSome x_19 fun p_7=>ck ((0:Int)≤x_20∧x_20<((xn_3:Nat):Int)) (gInt .i64 (Addr.add (A9 p_7) (Int.toNat x_20*1)) w8 fun x_21=>gInt .i64 (Addr.add ⟨b,0,none⟩ 2) w8 fun x_22=>some (.tuple ⟨[.int .i64 (IntKind.wrap .i64 ((IntKind.wrap .i64 (x_21+x_22))+atv)),.int .i64 0]⟩,w8)))))))):=by kernel_rfl
def Bp7:Cuts:={ globs:=0,loops:=[],regs:=[],plans:=[] }
def Di8:List Item:=A4 Tryz.f149
theorem Ez5 (C:A1) (R:A3) (s:Option Addr) (e:Int) (name:Int) (h:H) :
 A5 PR Bp7 C R A56 Tryz.f149 100000 true Di8 [(0,.pointer s),(1,.int .i64 e),(2,.int .i64 name)] h =
 nw (.cells O6 false [.int .i64 0,.int .i64 0,.int .i64 0,.int .i64 0,.int .i64 0,.int .i64 0]) h fun b w=>bnd (C Ah9 [.pointer s,.int .i64 e] w) fun r w1=>aBool r fun x=>bnd (cond (!x) (some (true,w1)) (aSome s fun p=>gSl (Addr.add p 0) w1 fun x_1 xn _=>aSome x_1 fun p_1=>ck ((0:Int)≤e∧e<((xn:Nat):Int)) (gPtr (Addr.add (A9 p_1) (Int.toNat e*1)) w1 fun x_2=>bnd (C A71 [.pointer x_2,.int .i64 name] w1) fun r_1 w2=>aBool r_1 fun x_3=>some (!x_3,w2)))) fun c w3=>cond c
 (pAgg ⟨b,0,none⟩ [.int .i64 0,.int .i64 0,.int .i64 0,.int .i64 0,.int .i64 0,.int .i64 0] w3 fun w4=>gAgg ⟨b,0,none⟩ 6 w4 fun x_4=>some (.tuple ⟨[.agg ⟨x_4⟩,.int .i64 2]⟩,w4))
 (aSome s fun p_2=>gSl (Addr.add p_2 1) w3 fun x_5 xn_1 _=>aSome x_5 fun p_3=>ck ((0:Int)≤e∧e<((xn_1:Nat):Int)) (gSl (Addr.add (A9 p_3) (Int.toNat e*1)) w3 fun x_6 xn_2 _=>aSome x_6 fun p_4=>ck ((0:Int)≤I4 .i64 name 255∧I4 .i64 name 255<((xn_2:Nat):Int)) (gAgg (Addr.add (A9 p_4) (Int.toNat (I4 .i64 name 255)*6)) 6 w3 fun x_7=>ck (List.length x_7=6) (pAgg ⟨b,0,none⟩ x_7 w3 fun w5=>gAgg ⟨b,0,none⟩ 6 w5 fun x_8=>some (.tuple ⟨[.agg ⟨x_8⟩,.int .i64 0]⟩,w5))))):=by kernel_rfl
def Bq8:Cuts:={ globs:=0,loops:=[],regs:=[],plans:=[] }
def Dm1:List Item:=A4 Tryz.f150
theorem E35 (C:A1) (R:A3) (s:Option Addr) (e:Int) (h:H) :
 A5 PR Bq8 C R Ah9 Tryz.f150 100000 true Dm1 [(0,.pointer s),(1,.int .i64 e)] h =
 bnd (cond (decide (e≥0)) (aSome s fun p=>gSl (Addr.add p 0) h fun _ xn _=>some (decide (e<((xn:Nat):Int)),h)) (some (false,h))) fun c w=>some (.bool c,w):=by kernel_rfl
def Af4:Cuts:={ globs:=0,loops:=[],regs:=[],plans:=[(4,⟨[0,1,2,3,4,10,5,6,7,8,9,11,12],[0,1,3,7,0,16,63,127,255,255,0,1535,4095],[(5,[3])],[]⟩)] }
def Az7:List Item:=A4 Tryz.f164
theorem B08 (C:A1) (R:A3) (c:Option Addr) (b:Option Addr) (bn bc:Nat) (h:H) :
 A5 PR Af4 C R V3 Tryz.f164 100000 true Az7 [(0,.pointer c),(1,.slice b bn bc)] h =
 nw (.cells D0 false [.int .i64 0,.int .i64 0,.int .i64 0,.int .i64 0,.int .u8 0,.int .u8 0,.int .u8 0,.int .u8 0,.int .u8 0,.int .u8 0,.int .u8 0,.int .u8 0,.int .u8 0,.int .u8 0,.int .u8 0,.int .u8 0,.int .u8 0,.int .u8 0,.int .u8 0,.int .u8 0,.int .u8 0,.int .u8 0,.int .u8 0,.int .u8 0,.int .u8 0,.int .u8 0,.int .u8 0,.int .u8 0,.int .u8 0,.int .u8 0,.int .u8 0,.int .u8 0,.int .u8 0,.int .u8 0,.int .u8 0,.int .u8 0]) h fun b_1 w=>nw (.cells D0 false [.int .i64 0,.int .i64 0,.int .i64 0,.int .i64 0,.int .u8 0,.int .u8 0,.int .u8 0,.int .u8 0,.int .u8 0,.int .u8 0,.int .u8 0,.int .u8 0,.int .u8 0,.int .u8 0,.int .u8 0,.int .u8 0,.int .u8 0,.int .u8 0,.int .u8 0,.int .u8 0,.int .u8 0,.int .u8 0,.int .u8 0,.int .u8 0,.int .u8 0,.int .u8 0,.int .u8 0,.int .u8 0,.int .u8 0,.int .u8 0,.int .u8 0,.int .u8 0,.int .u8 0,.int .u8 0,.int .u8 0,.int .u8 0]) w fun b_2 w1=>aSome c fun p=>gFv (Addr.add p 2) w1 fun x=>isNilF x fun b_3=>bnd (cond b_3 (some (true,w1)) (aSome c fun p_1=>gInt .i64 (Addr.add p_1 0) w1 fun x_1=>some (((bn:Nat):Int) != x_1,w1))) fun c_1 w2=>cond c_1
 (gAgg ⟨b_2,0,none⟩ 36 w2 fun x_2=>ck (List.length x_2=36) (pAgg ⟨b_1,0,none⟩ x_2 w2 fun w3=>gAgg ⟨b_1,0,none⟩ 36 w3 fun x_3=>some (.tuple ⟨[.agg ⟨x_3⟩,.bool false]⟩,w3)))
 (aSome c fun p_2=>gFv (Addr.add p_2 2) w2 fun x_4=>nw (.cells D0 false [.int .i64 0,.int .i64 0,.int .i64 0,.int .i64 0,.int .u8 0,.int .u8 0,.int .u8 0,.int .u8 0,.int .u8 0,.int .u8 0,.int .u8 0,.int .u8 0,.int .u8 0,.int .u8 0,.int .u8 0,.int .u8 0,.int .u8 0,.int .u8 0,.int .u8 0,.int .u8 0,.int .u8 0,.int .u8 0,.int .u8 0,.int .u8 0,.int .u8 0,.int .u8 0,.int .u8 0,.int .u8 0,.int .u8 0,.int .u8 0,.int .u8 0,.int .u8 0,.int .u8 0,.int .u8 0,.int .u8 0,.int .u8 0]) w2 fun b_4 w4=>bnd (C G4 [.slice b bn bc] w4) fun r w5=>aSl r fun x_5 xn xc=>gFv (Addr.add p_2 2) w5 fun x_6=>Bi8 (x_4) (x_6) (aFn x_4 fun g fi cp=>bnd (C g (fi++([.slice x_5 xn xc]++cp)) w5) fun r_1 w6=>as2 r_1 fun r_2 r_3=>aAgg r_2 fun x_7=>aBool r_3 fun x_8=>ck (List.length x_7=36) (pAgg ⟨b_4,0,none⟩ x_7 w6 fun w7=>cond (!x_8)
 (gAgg ⟨b_2,0,none⟩ 36 w7 fun x_9=>ck (List.length x_9=36) (pAgg ⟨b_1,0,none⟩ x_9 w7 fun w8=>gAgg ⟨b_1,0,none⟩ 36 w8 fun x_10=>some (.tuple ⟨[.agg ⟨x_10⟩,.bool false]⟩,w8)))
 (gAgg ⟨b_4,0,none⟩ 36 w7 fun x_11=>ck (List.length x_11=36) (pAgg ⟨b_1,0,none⟩ x_11 w7 fun w9=>gAgg ⟨b_1,0,none⟩ 36 w9 fun x_12=>some (.tuple ⟨[.agg ⟨x_12⟩,.bool true]⟩,w9)))))):=by kernel_rfl
def At9:Cuts:={ globs:=0,loops:=[],regs:=[],plans:=[] }
def Bj5:List Item:=A4 Tryz.f166
theorem Dp8 (C:A1) (R:A3) (c:Option Addr) (r:List Value) (h:H) :
 A5 PR At9 C R Y1 Tryz.f166 100000 true Bj5 [(0,.pointer c),(1,.agg ⟨r⟩)] h =
 nw (.cells E1 false r) h fun b w=>nw (.cells Bv2 false [.int .i64 0,.int .i64 0,.int .i64 0]) w fun b_1 w1=>gInt .i64 (Addr.add ⟨b,0,none⟩ 1) w1 fun x=>bnd (cond (decide (x<0)) (some (true,w1)) (gInt .i64 (Addr.add ⟨b,0,none⟩ 0) w1 fun x_1=>bnd (C Z9 [.pointer c,.int .i64 x_1] w1) fun r_1 w2=>aInt .i64 r_1 fun x_2=>some (decide (x≥x_2),w2))) fun c_1 w3=>cond c_1
 (pAgg ⟨b_1,0,none⟩ [.int .i64 0,.int .i64 0,.int .i64 0] w3 fun w4=>gAgg ⟨b_1,0,none⟩ 3 w4 fun x_3=>some (.tuple ⟨[.agg ⟨x_3⟩,.bool false]⟩,w4))
 (aSome c fun p=>gSl (Addr.add p 2) w3 fun x_4 xn _=>aSome x_4 fun p_1=>ck ((0:Int)≤0∧0<((xn:Nat):Int)) (gInt .i64 (Addr.add (A9 p_1) (Int.toNat 0*1)) w3 fun x_5=>gInt .i64 (Addr.add ⟨b,0,none⟩ 0) w3 fun x_6=>cond (x_6==1)
 (pAgg ⟨b_1,0,none⟩ [.int .i64 x_5,.int .i64 (IntKind.wrap .i64 (24*x)),.int .i64 24] w3 fun w5=>gAgg ⟨b_1,0,none⟩ 3 w5 fun x_7=>some (.tuple ⟨[.agg ⟨x_7⟩,.bool true]⟩,w5))
 (gInt .i64 (Addr.add ⟨b,0,none⟩ 0) w3 fun x_8=>cond (x_8==2)
 (pAgg ⟨b_1,0,none⟩ [.int .i64 x_5,.int .i64 (IntKind.wrap .i64 (192+(IntKind.wrap .i64 (8*x)))),.int .i64 8] w3 fun w6=>gAgg ⟨b_1,0,none⟩ 3 w6 fun x_9=>some (.tuple ⟨[.agg ⟨x_9⟩,.bool true]⟩,w6))
 (gInt .i64 (Addr.add ⟨b,0,none⟩ 0) w3 fun x_10=>bnd (cond (x_10==3) (some (decide (x<4),w3)) (some (false,w3))) fun c_2 w7=>cond c_2
 (pAgg ⟨b_1,0,none⟩ [.int .i64 x_5,.int .i64 (IntKind.wrap .i64 (288+(IntKind.wrap .i64 (40*x)))),.int .i64 40] w7 fun w8=>gAgg ⟨b_1,0,none⟩ 3 w8 fun x_11=>some (.tuple ⟨[.agg ⟨x_11⟩,.bool true]⟩,w8))
 (gInt .i64 (Addr.add ⟨b,0,none⟩ 0) w7 fun x_12=>cond (x_12==3)
 (aSome c fun p_2=>gSl (Addr.add p_2 2) w7 fun x_13 xn_1 _=>aSome x_13 fun p_3=>ck ((0:Int)≤IntKind.wrap .i64 ((IntKind.wrap .i64 (x-4))+1)∧IntKind.wrap .i64 ((IntKind.wrap .i64 (x-4))+1)<((xn_1:Nat):Int)) (gInt .i64 (Addr.add (A9 p_3) (Int.toNat (IntKind.wrap .i64 ((IntKind.wrap .i64 (x-4))+1))*1)) w7 fun x_14=>pAgg ⟨b_1,0,none⟩ [.int .i64 x_14,.int .i64 0,.int .i64 40] w7 fun w9=>gAgg ⟨b_1,0,none⟩ 3 w9 fun x_15=>some (.tuple ⟨[.agg ⟨x_15⟩,.bool true]⟩,w9)))
 (gInt .i64 (Addr.add ⟨b,0,none⟩ 0) w7 fun x_16=>cond (x_16==4)
 (pAgg ⟨b_1,0,none⟩ [.int .i64 x_5,.int .i64 448,.int .i64 40] w7 fun w10=>gAgg ⟨b_1,0,none⟩ 3 w10 fun x_17=>some (.tuple ⟨[.agg ⟨x_17⟩,.bool true]⟩,w10))
 (pAgg ⟨b_1,0,none⟩ [.int .i64 x_5,.int .i64 488,.int .i64 4] w7 fun w11=>gAgg ⟨b_1,0,none⟩ 3 w11 fun x_18=>some (.tuple ⟨[.agg ⟨x_18⟩,.bool true]⟩,w11)))))))):=by kernel_rfl
def Ad1:Cuts:={ globs:=0,loops:=[],regs:=[],plans:=[] }
def At4:List Item:=A4 Tryz.f176
theorem At3 (C:A1) (R:A3) (s:Option Addr) (sn sc:Nat) (f:Value) (h:H) :
 A5 PR Ad1 C R E7 Tryz.f176 100000 true At4 [(0,.slice s sn sc),(1,f)] h =
 bnd (C D8 [.slice s sn sc,f] h) fun r w=>aInt .i64 r fun x=>some (.bool (decide (x≥0)),w):=by kernel_rfl
def Be2:Cuts:={ globs:=0,loops:=[],regs:=[],plans:=[] }
def B85:List Item:=A4 Tryz.f180
theorem Eo1 (C:A1) (R:A3) (n:Int) (h:H) :
 A5 PR Be2 C R Aj9 Tryz.f180 100000 true B85 [(0,.int .i64 n)] h =
 bnd (cond (decide (n≥0)) (some (decide (n≤65536),h)) (some (false,h))) fun c w=>some (.bool c,w):=by kernel_rfl
def B20:Cuts:={ globs:=0,loops:=[],regs:=[],plans:=[] }
def Dy3:List Item:=A4 Tryz.f187
theorem Ge4 (C:A1) (R:A3) (m:Option Addr) (atv:Int) (n:Int) (h:H) :
 A5 PR B20 C R Bh2 Tryz.f187 100000 true Dy3 [(0,.pointer m),(1,.int .i64 atv),(2,.int .i64 n)] h =
 bnd (C Bg7 [.pointer m,.int .i64 atv,.int .i64 n] h) fun r w=>aBool r fun x=>cond (!x)
 (some (.tuple ⟨[.slice none 0 0,.int .i64 1]⟩,w))
 (aSome m fun p=>gSl (Addr.add p 0) w fun x_1 _ xc=>ckB (fitsOpen x_1 A2 w) (ck ((0:Int)≤IntKind.wrap .i64 (atv+n)∧IntKind.wrap .i64 (atv+n)≤((xc:Nat):Int)) (ck ((0:Int)≤atv∧atv≤((Int.toNat (IntKind.wrap .i64 (atv+n)):Nat):Int)) (bnd (C G4 [.slice (H0 x_1 (decide (Int.toNat atv<xc)) ((Int.toNat atv)*1)) ((Int.toNat (IntKind.wrap .i64 (atv+n)))-(Int.toNat atv)) (xc-(Int.toNat atv))] w) fun r_1 w1=>aSl r_1 fun x_2 xn_1 xc_1=>some (.tuple ⟨[.slice x_2 xn_1 xc_1,.int .i64 0]⟩,w1))))):=by kernel_rfl
def A63:Cuts:={ globs:=0,loops:=[(2,[0,4])],regs:=[],plans:=[] }
def Bq6:List Item:=A4 Tryz.f198
def As9:List Item:=stk [0,1,0,0,1,4,5] Bq6
theorem Ez6 (C:A1) (R:A3) (n:Option Addr) (h:H) :
 A5 PR A63 C R V8 Tryz.f198 100000 true Bq6 [(0,.pointer n)] h =
 R V8 As9 [(0,.pointer n),(4,.int .i64 0)] h:=by kernel_rfl
theorem B17 (C:A1) (R:A3) (n:Option Addr) (i:Int) (h:H) :
 A5 PR A63 C R V8 Tryz.f198 100000 true As9 [(0,.pointer n),(4,.int .i64 i)] h =
 aSome n fun p=>gSl (Addr.add p 0) h fun _ xn _=>cond (decide (i<((xn:Nat):Int)))
 (aSome n fun p_1=>gSl (Addr.add p_1 0) h fun x_1 xn_1 _=>aSome x_1 fun p_2=>ck ((0:Int)≤i∧i<((xn_1:Nat):Int)) (gBool (Addr.add (Addr.add (A9 p_2) (Int.toNat i*2)) 1) h fun x_2=>bnd (cond (!x_2) (aSome n fun p_3=>gSl (Addr.add p_3 0) h fun x_3 xn_2 _=>aSome x_3 fun p_4=>ck ((0:Int)≤i∧i<((xn_2:Nat):Int)) (gInt .i64 (Addr.add (Addr.add (A9 p_4) (Int.toNat i*2)) 0) h fun x_4=>some (decide (x_4≤1000000),h))) (some (false,h))) fun c w=>cond c
 (aSome n fun p_5=>gSl (Addr.add p_5 0) w fun x_5 xn_3 _=>aSome x_5 fun p_6=>ck ((0:Int)≤i∧i<((xn_3:Nat):Int)) (pV (Addr.add (Addr.add (A9 p_6) (Int.toNat i*2)) 1) (.bool true) w fun w1=>aSome n fun p_7=>gSl (Addr.add p_7 0) w1 fun x_6 xn_4 _=>aSome x_6 fun p_8=>ck ((0:Int)≤i∧i<((xn_4:Nat):Int)) (gInt .i64 (Addr.add (Addr.add (A9 p_8) (Int.toNat i*2)) 0) w1 fun x_7=>some (.tuple ⟨[.int .i64 (IntKind.wrap .i64 (i+(IntKind.wrap .i64 (256*x_7)))),.bool true]⟩,w1))))
 (R V8 As9 [(0,.pointer n),(4,.int .i64 (IntKind.wrap .i64 (i+1)))] w)))
 (some (.tuple ⟨[.int .i64 0,.bool false]⟩,h)):=by kernel_rfl
def Dt9:Cuts:={ globs:=0,loops:=[],regs:=[],plans:=[] }
def Ev2:List Item:=A4 Tryz.f204
theorem Ha1 (C:A1) (R:A3) (f:List Value) (b:Option Addr) (bn bc:Nat) (h:H) :
 A5 PR Dt9 C R Ap9 Tryz.f204 100000 true Ev2 [(0,.agg ⟨f⟩),(1,.slice b bn bc)] h =
 nw (.cells D5 false f) h fun b_1 w=>gAgg ⟨b_1,0,none⟩ 4 w fun x=>bnd (C Dg7 [.agg ⟨x⟩] w) fun r w1=>aBool r fun x_1=>cond (!x_1)
 (some (.bool false,w1))
 (gInt .i64 (Addr.add ⟨b_1,0,none⟩ 0) w1 fun x_2=>gInt .i64 (Addr.add ⟨b_1,0,none⟩ 1) w1 fun x_3=>gInt .i64 (Addr.add ⟨b_1,0,none⟩ 2) w1 fun x_4=>gInt .i64 (Addr.add ⟨b_1,0,none⟩ 3) w1 fun x_5=>nw (.cells A2 false [.int .u8 (IntKind.wrap .u8 (x_2)),.int .u8 (IntKind.wrap .u8 (x_3)),.int .u8 (IntKind.wrap .u8 (x_4)),.int .u8 (IntKind.wrap .u8 (x_5)),.int .u8 179]) w1 fun b_2 w2=>gCells (some ⟨b_2,0,none⟩) (min 5 bn*1) w2 fun cs=>pCells b cs w2 fun w3=>ckB (fitsOpen b A2 w3) (ck ((0:Int)≤5∧5≤((bc:Nat):Int)) (bnd (C Aa4 [.slice (H0 b (decide (0<bc)) (0*1)) ((Int.toNat 5)-0) (bc-0)] w3) fun r_1 w4=>aInt .u8 r_1 fun x_6=>aSome b fun p=>ck ((0:Int)≤5∧5<((bn:Nat):Int)) (pV (Addr.add (A9 p) (Int.toNat 5*1)) (.int .u8 x_6) w4 fun w5=>some (.bool true,w5))))):=by kernel_rfl
def Al0:Cuts:={ globs:=0,loops:=[],regs:=[],plans:=[] }
def A92:List Item:=A4 Tryz.f206
theorem A94 (C:A1) (R:A3) (s:Option Addr) (sn sc:Nat) (h:H) :
 A5 PR Al0 C R G4 Tryz.f206 100000 true A92 [(0,.slice s sn sc)] h =
 cond s.isNone
 (some (.slice none 0 0,h))
 (nw (.cells A2 false []) h fun b w=>gCells s (sn*1) w fun cs=>ckB (fitsOpen (some ⟨b,0,none⟩) A2 w) (apd A2 1 (some ⟨b,0,none⟩) 0 0 sn cs w fun a an ac w1=>some (.slice a an ac,w1))):=by kernel_rfl
def D20:Cuts:={ globs:=0,loops:=[],regs:=[],plans:=[(5,⟨[0,1,2,3,4],[0,1,0,4,15],[],[]⟩)] }
def E86:List Item:=A4 Tryz.f208
theorem Hh3 (C:A1) (R:A3) (p:List Value) (b:Option Addr) (bn bc:Nat) (h:H) :
 A5 PR D20 C R Bi3 Tryz.f208 100000 true E86 [(0,.agg ⟨p⟩),(1,.slice b bn bc)] h =
 nw (.cells D0 false p) h fun b_1 w=>gAgg ⟨b_1,0,none⟩ 36 w fun x=>bnd (C Bt6 [.agg ⟨x⟩] w) fun r w1=>aBool r fun x_1=>cond (!x_1)
 (some (.bool false,w1))
 (gInt .i64 (Addr.add ⟨b_1,0,none⟩ 0) w1 fun x_2=>gInt .i64 (Addr.add ⟨b_1,0,none⟩ 1) w1 fun x_3=>gInt .i64 (Addr.add ⟨b_1,0,none⟩ 2) w1 fun x_4=>gInt .i64 (Addr.add ⟨b_1,0,none⟩ 3) w1 fun x_5=>nw (.cells A2 false [.int .u8 1,.int .u8 (IntKind.wrap .u8 (x_2)),.int .u8 (IntKind.wrap .u8 (x_3)),.int .u8 (IntKind.wrap .u8 (x_4)),.int .u8 (IntKind.wrap .u8 (x_5)),.int .u8 197]) w1 fun b_2 w2=>gCells (some ⟨b_2,0,none⟩) (min 6 bn*1) w2 fun cs=>pCells b cs w2 fun w3=>ckB (fitsOpen b A2 w3) (ck ((0:Int)≤6∧6≤((bc:Nat):Int)) (bnd (C Aa4 [.slice (H0 b (decide (0<bc)) (0*1)) ((Int.toNat 6)-0) (bc-0)] w3) fun r_1 w4=>aInt .u8 r_1 fun x_6=>aSome b fun p_1=>ck ((0:Int)≤6∧6<((bn:Nat):Int)) (pV (Addr.add (A9 p_1) (Int.toNat 6*1)) (.int .u8 x_6) w4 fun w5=>ckB (fitsOpen b A2 w5) (ck ((0:Int)≤8∧8≤((bn:Nat):Int)) (ckB (liveA (Addr.add ⟨b_1,0,none⟩ 4) w5) (gCells (H0 (some (Addr.add ⟨b_1,0,none⟩ 4)) (decide (0<32)) (0*1)) (min (32-0) (bn-(Int.toNat 8))*1) w5 fun cs_1=>pCells (H0 b (decide (Int.toNat 8<bc)) ((Int.toNat 8)*1)) cs_1 w5 fun w6=>some (.bool true,w6)))))))):=by kernel_rfl
def D93:Cuts:={ globs:=0,loops:=[],regs:=[],plans:=[(1,⟨[0,1,2,3,4,5,6,7,8,9,10,11,12,13,14,15,16,17,18],[0,1,3,7,0,16,48,112,0,256,768,1792,0,4096,12288,28672,65535,0,262143],[],[]⟩),(2,⟨[0,1,2,3,4],[0,1,0,4,15],[],[]⟩),(4,⟨[0,1,2,3,4,5,6,7,8],[0,0,2,6,6,30,62,63,255],[(5,[0])],[]⟩)] }
def E57:List Item:=A4 Tryz.f209
theorem Ho4 (C:A1) (R:A3) (b:Option Addr) (bn bc:Nat) (h:H) :
 A5 PR D93 C R Bh3 Tryz.f209 100000 true E57 [(0,.slice b bn bc)] h =
 nw (.cells D0 false [.int .i64 0,.int .i64 0,.int .i64 0,.int .i64 0,.int .u8 0,.int .u8 0,.int .u8 0,.int .u8 0,.int .u8 0,.int .u8 0,.int .u8 0,.int .u8 0,.int .u8 0,.int .u8 0,.int .u8 0,.int .u8 0,.int .u8 0,.int .u8 0,.int .u8 0,.int .u8 0,.int .u8 0,.int .u8 0,.int .u8 0,.int .u8 0,.int .u8 0,.int .u8 0,.int .u8 0,.int .u8 0,.int .u8 0,.int .u8 0,.int .u8 0,.int .u8 0,.int .u8 0,.int .u8 0,.int .u8 0,.int .u8 0]) h fun b_1 w=>aSome b fun p=>ck ((0:Int)≤1∧1<((bn:Nat):Int)) (gInt .u8 (Addr.add (A9 p) (Int.toNat 1*1)) w fun x=>aSome b fun p_1=>ck ((0:Int)≤2∧2<((bn:Nat):Int)) (gInt .u8 (Addr.add (A9 p_1) (Int.toNat 2*1)) w fun x_1=>aSome b fun p_2=>ck ((0:Int)≤3∧3<((bn:Nat):Int)) (gInt .u8 (Addr.add (A9 p_2) (Int.toNat 3*1)) w fun x_2=>aSome b fun p_3=>ck ((0:Int)≤4∧4<((bn:Nat):Int)) (gInt .u8 (Addr.add (A9 p_3) (Int.toNat 4*1)) w fun x_3=>nw (.cells D0 false [.int .i64 0,.int .i64 0,.int .i64 0,.int .i64 0,.int .u8 0,.int .u8 0,.int .u8 0,.int .u8 0,.int .u8 0,.int .u8 0,.int .u8 0,.int .u8 0,.int .u8 0,.int .u8 0,.int .u8 0,.int .u8 0,.int .u8 0,.int .u8 0,.int .u8 0,.int .u8 0,.int .u8 0,.int .u8 0,.int .u8 0,.int .u8 0,.int .u8 0,.int .u8 0,.int .u8 0,.int .u8 0,.int .u8 0,.int .u8 0,.int .u8 0,.int .u8 0,.int .u8 0,.int .u8 0,.int .u8 0,.int .u8 0]) w fun b_2 w1=>pAgg ⟨b_2,0,none⟩ [.int .i64 (IntKind.wrap .i64 (x)),.int .i64 (IntKind.wrap .i64 (x_1)),.int .i64 (IntKind.wrap .i64 (x_2)),.int .i64 (IntKind.wrap .i64 (x_3)),.int .u8 0,.int .u8 0,.int .u8 0,.int .u8 0,.int .u8 0,.int .u8 0,.int .u8 0,.int .u8 0,.int .u8 0,.int .u8 0,.int .u8 0,.int .u8 0,.int .u8 0,.int .u8 0,.int .u8 0,.int .u8 0,.int .u8 0,.int .u8 0,.int .u8 0,.int .u8 0,.int .u8 0,.int .u8 0,.int .u8 0,.int .u8 0,.int .u8 0,.int .u8 0,.int .u8 0,.int .u8 0,.int .u8 0,.int .u8 0,.int .u8 0,.int .u8 0] w1 fun w2=>ckB (liveA (Addr.add ⟨b_2,0,none⟩ 4) w2) (ckB (fitsOpen b A2 w2) (ck ((0:Int)≤8∧8≤((bn:Nat):Int)) (gCells (H0 b (decide (Int.toNat 8<bc)) ((Int.toNat 8)*1)) (min (bn-(Int.toNat 8)) (32-0)*1) w2 fun cs=>pCells (H0 (some (Addr.add ⟨b_2,0,none⟩ 4)) (decide (0<32)) (0*1)) cs w2 fun w3=>gAgg ⟨b_2,0,none⟩ 36 w3 fun x_4=>bnd (C Au8 [.agg ⟨x_4⟩] w3) fun r w4=>as2 r fun r_1 r_2=>aSl r_1 fun x_5 xn xc=>aBool r_2 fun x_6=>gAgg ⟨b_2,0,none⟩ 36 w4 fun x_7=>bnd (cond x_6 (bnd (C D4 [.slice x_5 xn xc,.slice b bn bc] w4) fun r_3 w5=>aBool r_3 fun x_8=>gAgg ⟨b_2,0,none⟩ 36 w5 fun x_9=>same (.agg ⟨x_7⟩) (.agg ⟨x_9⟩) (some (x_8,w5))) (some (false,w4))) fun c w6=>ck (List.length x_7=36) (pAgg ⟨b_1,0,none⟩ x_7 w6 fun w7=>gAgg ⟨b_1,0,none⟩ 36 w7 fun x_10=>some (.tuple ⟨[.agg ⟨x_10⟩,.bool c]⟩,w7))))))))):=by kernel_rfl
def A55:Cuts:={ globs:=0,loops:=[],regs:=[],plans:=[] }
def Bz6:List Item:=A4 Tryz.f210
theorem D62 (C:A1) (R:A3) (size:Int) (put:Value) (get:Value) (h:H) :
 A5 PR A55 C R Al8 Tryz.f210 100000 true Bz6 [(0,.int .i64 size),(1,put),(2,get)] h =
 one put (one get (nw (.cells Bn2 false [.int .i64 (mm2 false (mm2 true size 0) 64),put,get]) h fun b w=>some (.pointer (some ⟨b,0,none⟩),w))):=by kernel_rfl
def Ba9:Cuts:={ globs:=0,loops:=[(4,[1,2,22,23,24]),(9,[1,2,43,44,45]),(14,[1,58,59])],regs:=[],plans:=[] }
def Bm9:List Item:=A4 Tryz.f211
def B35:List Item:=stk [0,1,0,1,0,0,1,4,5] Bm9
def B42:List Item:=stk [0,1,0,1,0,1,0,0,1,4,5] Bm9
def B34:List Item:=stk [0,1,0,1,0,1,0,1,0,0,1,4,5] Bm9
theorem G75 (C:A1) (R:A3) (p:List Value) (b:Option Addr) (bn bc:Nat) (h:H) :
 A5 PR Ba9 C R N8 Tryz.f211 100000 true Bm9 [(0,.agg ⟨p⟩),(1,.slice b bn bc)] h =
 nw (.cells D7 false p) h fun b_1 w=>gAgg ⟨b_1,0,none⟩ 16 w fun x=>bnd (C Dh4 [.agg ⟨x⟩] w) fun r w1=>aBool r fun x_1=>cond (!x_1)
 (some (.bool false,w1))
 (gInt .i64 (Addr.add ⟨b_1,0,none⟩ 0) w1 fun x_2=>gInt .i64 (Addr.add ⟨b_1,0,none⟩ 1) w1 fun x_3=>gInt .i64 (Addr.add ⟨b_1,0,none⟩ 2) w1 fun x_4=>gInt .i64 (Addr.add ⟨b_1,0,none⟩ 3) w1 fun x_5=>nw (.cells B6 false [.int .i64 x_2,.int .i64 x_3,.int .i64 x_4,.int .i64 x_5]) w1 fun b_2 w2=>R N8 B35 [(1,.slice b bn bc),(2,.pointer (some ⟨b_1,0,none⟩)),(22,.slice (some ⟨b_2,0,none⟩) 4 4),(23,.int .i64 4),(24,.int .i64 0)] w2):=by kernel_rfl
theorem A14 (C:A1) (R:A3) (b:Option Addr) (bn bc:Nat) (p:Addr) (x22:Option Addr) (x22n x22c:Nat) (x23:Int) (x24:Int) (h:H) :
 A5 PR Ba9 C R N8 Tryz.f211 100000 true B35 [(1,.slice b bn bc),(2,.pointer (some p)),(22,.slice x22 x22n x22c),(23,.int .i64 x23),(24,.int .i64 x24)] h =
 cond (decide (x24<x23))
 (aSome x22 fun p_1=>ck ((0:Int)≤x24∧x24<((x22n:Nat):Int)) (gInt .i64 (Addr.add (A9 p_1) (Int.toNat x24*1)) h fun x=>aSome b fun p_2=>ck ((0:Int)≤x24∧x24<((bn:Nat):Int)) (pV (Addr.add (A9 p_2) (Int.toNat x24*1)) (.int .u8 (IntKind.wrap .u8 (x))) h fun w=>R N8 B35 [(1,.slice b bn bc),(2,.pointer (some p)),(22,.slice x22 x22n x22c),(23,.int .i64 x23),(24,.int .i64 (IntKind.wrap .i64 (x24+1)))] w)))
 (gInt .i64 (Addr.add p 4) h fun x_1=>gInt .i64 (Addr.add p 5) h fun x_2=>gInt .i64 (Addr.add p 6) h fun x_3=>gInt .i64 (Addr.add p 7) h fun x_4=>nw (.cells B6 false [.int .i64 x_1,.int .i64 x_2,.int .i64 x_3,.int .i64 x_4]) h fun b_1 w1=>R N8 B42 [(1,.slice b bn bc),(2,.pointer (some p)),(43,.slice (some ⟨b_1,0,none⟩) 4 4),(44,.int .i64 4),(45,.int .i64 0)] w1):=by kernel_rfl
theorem A46 (C:A1) (R:A3) (b:Option Addr) (bn bc:Nat) (p:Addr) (x43:Option Addr) (x43n x43c:Nat) (x44:Int) (x45:Int) (h:H) :
 A5 PR Ba9 C R N8 Tryz.f211 100000 true B42 [(1,.slice b bn bc),(2,.pointer (some p)),(43,.slice x43 x43n x43c),(44,.int .i64 x44),(45,.int .i64 x45)] h =
 cond (decide (x45<x44))
 (aSome x43 fun p_1=>ck ((0:Int)≤x45∧x45<((x43n:Nat):Int)) (gInt .i64 (Addr.add (A9 p_1) (Int.toNat x45*1)) h fun x=>bnd (C Be8 [.slice b bn bc,.int .i64 (IntKind.wrap .i64 (4+(IntKind.wrap .i64 (2*x45)))),.int .i64 x] h) fun r w=>aBool r fun _=>R N8 B42 [(1,.slice b bn bc),(2,.pointer (some p)),(43,.slice x43 x43n x43c),(44,.int .i64 x44),(45,.int .i64 (IntKind.wrap .i64 (x45+1)))] w))
 (gAgg (Addr.add p 8) 8 h fun x_2=>R N8 B34 [(1,.slice b bn bc),(58,.agg ⟨x_2⟩),(59,.int .i64 0)] h):=by kernel_rfl
theorem W7 (C:A1) (R:A3) (b:Option Addr) (bn bc:Nat) (x58:List Value) (x59:Int) (h:H) :
 A5 PR Ba9 C R N8 Tryz.f211 100000 true B34 [(1,.slice b bn bc),(58,.agg ⟨x58⟩),(59,.int .i64 x59)] h =
 cond (decide (x59<8))
 (ck ((0:Int)≤x59∧x59<((8:Nat):Int)) (nth x58 (Int.toNat x59*1) fun x=>aInt .i64 x fun x_1=>aSome b fun p=>ck ((0:Int)≤IntKind.wrap .i64 (12+x59)∧IntKind.wrap .i64 (12+x59)<((bn:Nat):Int)) (pV (Addr.add (A9 p) (Int.toNat (IntKind.wrap .i64 (12+x59))*1)) (.int .u8 (IntKind.wrap .u8 (x_1))) h fun w=>R N8 B34 [(1,.slice b bn bc),(58,.agg ⟨x58⟩),(59,.int .i64 (IntKind.wrap .i64 (x59+1)))] w)))
 (aSome b fun p_1=>ck ((0:Int)≤20∧20<((bn:Nat):Int)) (pV (Addr.add (A9 p_1) (Int.toNat 20*1)) (.int .u8 167) h fun w1=>ckB (fitsOpen b A2 w1) (ck ((0:Int)≤21∧21≤((bc:Nat):Int)) (bnd (C Aa4 [.slice (H0 b (decide (0<bc)) (0*1)) ((Int.toNat 21)-0) (bc-0)] w1) fun r w2=>aInt .u8 r fun x_2=>aSome b fun p_2=>ck ((0:Int)≤21∧21<((bn:Nat):Int)) (pV (Addr.add (A9 p_2) (Int.toNat 21*1)) (.int .u8 x_2) w2 fun w3=>some (.bool true,w3)))))):=by kernel_rfl
def Al1:Cuts:={ globs:=0,loops:=[],regs:=[],plans:=[] }
def A93:List Item:=A4 Tryz.f215
theorem Db4 (C:A1) (R:A3) (t:Option Addr) (i:Int) (h:H) :
 A5 PR Al1 C R M9 Tryz.f215 100000 true A93 [(0,.pointer t),(1,.int .i64 i)] h =
 aSome t fun p=>gSl (Addr.add p 0) h fun x xn _=>aSome x fun p_1=>ck ((0:Int)≤i∧i<((xn:Nat):Int)) (gInt .i64 (Addr.add (Addr.add (A9 p_1) (Int.toNat i*8)) 6) h fun x_1=>some (.int .i64 (IntKind.wrap .i64 (i+(IntKind.wrap .i64 (256*x_1)))),h)):=by kernel_rfl
def U5:Cuts:={ globs:=0,loops:=[(2,[0,1,7,8])],regs:=[],plans:=[] }
def Ad3:List Item:=A4 Tryz.f222
def P4:List Item:=stk [0,1,0,0,1,4,5] Ad3
theorem Bx7 (C:A1) (R:A3) (s:Option Addr) (sn sc:Nat) (f:Value) (h:H) :
 A5 PR U5 C R G1 Tryz.f222 100000 true Ad3 [(0,.slice s sn sc),(1,f)] h =
 R G1 P4 [(0,.slice s sn sc),(1,f),(7,.int .i64 ((sn:Nat):Int)),(8,.int .i64 0)] h:=by kernel_rfl
theorem Aq0 (C:A1) (R:A3) (s:Option Addr) (sn sc:Nat) (f:Value) (x7:Int) (x8:Int) (h:H) :
 A5 PR U5 C R G1 Tryz.f222 100000 true P4 [(0,.slice s sn sc),(1,f),(7,.int .i64 x7),(8,.int .i64 x8)] h =
 cond (decide (x8<x7))
 (aSome s fun p=>ck ((0:Int)≤x8∧x8<((sn:Nat):Int)) (gInt .u8 (Addr.add (A9 p) (Int.toNat x8*1)) h fun x=>aFn f fun g fi cp=>bnd (C g (fi++([.int .u8 x]++cp)) h) fun r w=>aBool r fun x_1=>cond x_1
 (some (.int .i64 x8,w))
 (R G1 P4 [(0,.slice s sn sc),(1,f),(7,.int .i64 x7),(8,.int .i64 (IntKind.wrap .i64 (x8+1)))] w)))
 (some (.int .i64 (-1),h)):=by kernel_rfl
def D76:Cuts:={ globs:=0,loops:=[],regs:=[],plans:=[] }
def Ga3:List Item:=A4 Tryz.f223
theorem Hn7 (C:A1) (R:A3) (f:List Value) (h:H) :
 A5 PR D76 C R Dg7 Tryz.f223 100000 true Ga3 [(0,.agg ⟨f⟩)] h =
 nw (.cells D5 false f) h fun b w=>gInt .i64 (Addr.add ⟨b,0,none⟩ 0) w fun x=>bnd (cond (decide (x≥1)) (gInt .i64 (Addr.add ⟨b,0,none⟩ 0) w fun x_1=>some (decide (x_1≤3),w)) (some (false,w))) fun c w1=>bnd (cond c (gInt .i64 (Addr.add ⟨b,0,none⟩ 1) w1 fun x_2=>some (decide (x_2≥0),w1)) (some (false,w1))) fun c_1 w2=>bnd (cond c_1 (gInt .i64 (Addr.add ⟨b,0,none⟩ 1) w2 fun x_3=>some (decide (x_3≤7),w2)) (some (false,w2))) fun c_2 w3=>bnd (cond c_2 (gInt .i64 (Addr.add ⟨b,0,none⟩ 0) w3 fun x_4=>bnd (cond (x_4 != 3) (some (true,w3)) (gInt .i64 (Addr.add ⟨b,0,none⟩ 1) w3 fun x_5=>some (x_5==0,w3))) fun c_3 w4=>some (c_3,w4)) (some (false,w3))) fun c_4 w5=>bnd (cond c_4 (gInt .i64 (Addr.add ⟨b,0,none⟩ 2) w5 fun x_6=>some (decide (x_6≥1),w5)) (some (false,w5))) fun c_5 w6=>bnd (cond c_5 (gInt .i64 (Addr.add ⟨b,0,none⟩ 2) w6 fun x_7=>some (decide (x_7≤64),w6)) (some (false,w6))) fun c_6 w7=>bnd (cond c_6 (gInt .i64 (Addr.add ⟨b,0,none⟩ 3) w7 fun x_8=>bnd (cond (x_8==0) (some (true,w7)) (gInt .i64 (Addr.add ⟨b,0,none⟩ 3) w7 fun x_9=>some (x_9==1,w7))) fun c_7 w8=>some (c_7,w8)) (some (false,w7))) fun c_8 w9=>some (.bool c_8,w9):=by kernel_rfl
def Dp1:Cuts:={ globs:=0,loops:=[],regs:=[],plans:=[] }
def Ef4:List Item:=A4 Tryz.f230
theorem Gy9 (C:A1) (R:A3) (n:Int) (without:Int) (h:H) :
 A5 PR Dp1 C R Aj4 Tryz.f230 100000 true Ef4 [(0,.int .i64 n),(1,.int .i64 without)] h =
 bnd (cond ((El0 .i64 n 65534)==0) (some ((I4 .i64 n without)==0,h)) (some (false,h))) fun c w=>some (.bool c,w):=by kernel_rfl
end
end Go.EQ
