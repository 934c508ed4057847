/- With the last writer gone what is left is read, then the end is told, again and again; with the last reader gone a write is refused, and its signal raised; no conditions. -/
import Derived.Test.YtnmdbfbjdhgmlaaGreatMc
import Derived.Test.YtnmdbfbjdhgmlaaGreatProg
import Derived.KernelRfl
set_option linter.all false
namespace Go.EQ
open Go Go.NN Go.Proofs
noncomputable abbrev PR:Program:=Tryz.prog
abbrev E0:FuncId:=6
abbrev Af1:FuncId:=9
abbrev Bb9:FuncId:=10
abbrev Bl7:FuncId:=11
abbrev Bd1:FuncId:=12
abbrev Ag5:FuncId:=13
abbrev As9:FuncId:=14
abbrev Dw8:FuncId:=15
abbrev Ar6:FuncId:=18
abbrev Ae4:FuncId:=19
abbrev B06:FuncId:=21
abbrev Bi4:FuncId:=23
abbrev Bz2:FuncId:=24
abbrev Q0:FuncId:=25
abbrev S8:FuncId:=26
abbrev As6:FuncId:=27
abbrev Bc2:FuncId:=28
abbrev U4:FuncId:=29
abbrev A36:FuncId:=30
abbrev P9:FuncId:=31
abbrev Br0:FuncId:=32
abbrev Y8:FuncId:=33
abbrev A69:FuncId:=34
abbrev N9:FuncId:=35
abbrev A58:FuncId:=36
abbrev O4:FuncId:=37
abbrev O8:FuncId:=38
abbrev J7:FuncId:=39
abbrev Bz0:FuncId:=40
abbrev J9:FuncId:=41
abbrev B71:FuncId:=42
abbrev M0:FuncId:=43
abbrev By5:FuncId:=44
abbrev Bm2:FuncId:=45
abbrev Aw7:FuncId:=46
abbrev Ao5:FuncId:=47
abbrev Da0:FuncId:=48
abbrev Da2:FuncId:=49
abbrev Dm3:FuncId:=50
abbrev Dl1:FuncId:=51
abbrev M9:FuncId:=52
abbrev Da6:FuncId:=53
abbrev Bd4:FuncId:=56
abbrev Bq7:FuncId:=57
abbrev W6:FuncId:=58
abbrev D2:FuncId:=59
abbrev Ab1:FuncId:=60
abbrev S7:FuncId:=64
abbrev O9:FuncId:=65
abbrev Ah9:FuncId:=66
abbrev J4:FuncId:=68
abbrev H9:FuncId:=69
abbrev G4:FuncId:=70
abbrev Bs1:FuncId:=71
abbrev Az6:FuncId:=72
abbrev Af2:FuncId:=73
abbrev A28:FuncId:=74
abbrev Ay5:FuncId:=75
abbrev Ek2:FuncId:=76
abbrev An9:FuncId:=77
abbrev Ek7:FuncId:=78
abbrev Ep0:FuncId:=79
abbrev Ek3:FuncId:=80
abbrev Ep9:FuncId:=81
abbrev E06:FuncId:=82
abbrev Dw5:FuncId:=83
abbrev Ez2:FuncId:=84
abbrev Ez1:FuncId:=85
abbrev Ay3:FuncId:=86
abbrev A92:FuncId:=87
abbrev Bb1:FuncId:=88
abbrev J8:FuncId:=89
abbrev As3:FuncId:=90
abbrev A57:FuncId:=91
abbrev I5:FuncId:=92
abbrev As7:FuncId:=93
abbrev Aw6:FuncId:=94
abbrev Aw9:FuncId:=95
abbrev I1:FuncId:=96
abbrev A62:FuncId:=97
abbrev A60:FuncId:=98
abbrev A53:FuncId:=99
abbrev A44:FuncId:=100
abbrev Ae5:FuncId:=101
abbrev Bx1:FuncId:=102
abbrev Gx7:FuncId:=103
abbrev Ak9:FuncId:=104
abbrev V0:FuncId:=105
abbrev H6:FuncId:=106
abbrev Ab9:FuncId:=107
abbrev Ac3:FuncId:=108
abbrev Ab7:FuncId:=109
abbrev L1:FuncId:=110
abbrev A71:FuncId:=111
abbrev Q9:FuncId:=115
abbrev An2:FuncId:=116
abbrev Ap7:FuncId:=117
abbrev S5:FuncId:=118
abbrev Bd0:FuncId:=119
abbrev W9:FuncId:=120
abbrev Dy1:FuncId:=121
abbrev Ay4:FuncId:=122
abbrev Ar8:FuncId:=123
abbrev B17:FuncId:=124
abbrev Dh7:FuncId:=125
abbrev Ap0:FuncId:=126
abbrev P4:FuncId:=127
abbrev Ba4:FuncId:=128
abbrev Aa5:FuncId:=129
abbrev N7:FuncId:=130
abbrev Aa3:FuncId:=131
abbrev Bl8:FuncId:=132
abbrev Ay0:FuncId:=133
abbrev A75:FuncId:=134
abbrev A95:FuncId:=135
abbrev Am9:FuncId:=136
abbrev Ak6:FuncId:=137
abbrev A85:FuncId:=138
abbrev Ad0:FuncId:=139
abbrev Ab3:FuncId:=140
abbrev Al5:FuncId:=141
abbrev A02:FuncId:=142
abbrev Ek5:FuncId:=143
abbrev Au9:FuncId:=144
abbrev Az9:FuncId:=145
abbrev A42:FuncId:=146
abbrev A32:FuncId:=147
abbrev Aq6:FuncId:=148
abbrev A78:FuncId:=149
abbrev Ai5:FuncId:=150
abbrev Ag8:FuncId:=151
abbrev A79:FuncId:=152
abbrev O3:FuncId:=159
abbrev Am1:FuncId:=160
abbrev Bb5:FuncId:=161
abbrev W1:FuncId:=162
abbrev Bj5:FuncId:=163
abbrev V7:FuncId:=164
abbrev V8:FuncId:=165
abbrev Q5:FuncId:=166
abbrev W2:FuncId:=167
abbrev Bb2:FuncId:=168
abbrev V9:FuncId:=169
abbrev Eb0:FuncId:=170
abbrev As2:FuncId:=171
abbrev Z1:FuncId:=172
abbrev W0:FuncId:=173
abbrev Ab2:FuncId:=174
abbrev G9:FuncId:=175
abbrev E8:FuncId:=176
abbrev B25:FuncId:=177
abbrev P7:FuncId:=178
abbrev A68:FuncId:=179
abbrev Ak8:FuncId:=180
abbrev Af6:FuncId:=181
abbrev At7:FuncId:=182
abbrev Aa2:FuncId:=183
abbrev G3:FuncId:=184
abbrev S4:FuncId:=185
abbrev Ab8:FuncId:=186
abbrev Bl9:FuncId:=187
abbrev Bf5:FuncId:=188
abbrev At5:FuncId:=189
abbrev Ai7:FuncId:=192
abbrev Ay8:FuncId:=193
abbrev At2:FuncId:=194
abbrev D0:FuncId:=195
abbrev A39:FuncId:=196
abbrev A82:FuncId:=197
abbrev Y0:FuncId:=198
abbrev Q3:FuncId:=201
abbrev Ae9:FuncId:=202
abbrev Aq2:FuncId:=203
abbrev As0:FuncId:=204
abbrev Ar9:FuncId:=205
abbrev G7:FuncId:=206
abbrev An6:FuncId:=207
abbrev Bk3:FuncId:=208
abbrev Bk7:FuncId:=209
abbrev Ap4:FuncId:=210
abbrev O5:FuncId:=211
abbrev Y5:FuncId:=212
abbrev D7:FuncId:=213
abbrev I3:FuncId:=214
abbrev N4:FuncId:=215
abbrev Bh4:FuncId:=216
abbrev Ad7:FuncId:=217
abbrev Ae8:FuncId:=220
abbrev A41:FuncId:=221
abbrev G2:FuncId:=222
abbrev Dl6:FuncId:=223
abbrev D4:FuncId:=224
abbrev Dl9:FuncId:=225
abbrev Bi1:FuncId:=226
abbrev Bz3:FuncId:=227
abbrev Ak5:FuncId:=230
abbrev Bj0:FuncId:=231
abbrev B7:TypeId:=3
abbrev D63:TypeId:=4
abbrev A7:TypeId:=5
abbrev P8:TypeId:=24
abbrev Gs8:TypeId:=29
abbrev L5:TypeId:=33
abbrev Gm1:TypeId:=44
abbrev D3:TypeId:=46
abbrev Dr7:TypeId:=53
abbrev Bz8:TypeId:=56
abbrev Az0:TypeId:=59
abbrev D1:TypeId:=63
abbrev Et8:TypeId:=65
abbrev D5:TypeId:=73
abbrev Q6:TypeId:=75
abbrev B00:TypeId:=91
abbrev E4:TypeId:=116
abbrev B19:TypeId:=125
abbrev D14:TypeId:=133
abbrev E28:TypeId:=142
abbrev D72:TypeId:=150
abbrev Bb7:TypeId:=156
abbrev D9:TypeId:=161
abbrev I7:TypeId:=189
abbrev Aw5:TypeId:=196
abbrev P6:TypeId:=203
abbrev Dh2:TypeId:=212
abbrev Dv9:TypeId:=215
abbrev A56:TypeId:=231
abbrev Eq6:TypeId:=235
abbrev El3:TypeId:=238
abbrev E43:TypeId:=240
abbrev Bf6:TypeId:=254
abbrev El1:TypeId:=265
abbrev Au3:TypeId:=268
abbrev G8:TypeId:=269
abbrev Ax2:TypeId:=272
abbrev Ds9:TypeId:=275
abbrev E42:TypeId:=277
abbrev Aw8:TypeId:=280
abbrev Bo8:TypeId:=282
abbrev Bh7:TypeId:=295
abbrev Eu6:TypeId:=298
abbrev Ak2:TypeId:=304
abbrev Bp0:TypeId:=308
abbrev Br2:TypeId:=312
abbrev Bv9:TypeId:=316
abbrev Al7:TypeId:=318
abbrev Ij1:TypeId:=332
end Go.EQ

set_option maxRecDepth 100000
namespace Go.EQ
open Go Go.NN Go.Proofs
variable (C : A6) (R : A8)
noncomputable section
def De2:Cuts:={ globs:=0,loops:=[],regs:=[],plans:=[(5,⟨[0,1,2,3,4],[0,1,0,4,15],[(3,[1])],[]⟩)] }
def Eh0:List Item:=A9 Tryz.f10
theorem Gv7 (C:A6) (R:A8)  (h:H) :
 B0 PR De2 C R Bb9 Tryz.f10 100000 true Eh0 [] h =
 bnd (C Bc2 [] h) fun r w=>aStr r fun x=>ck (ByteArray.size x≤B4) (nw (.cells A7 false (A5 (ByteArray.data x).toList)) w fun b w1=>nw (.cells D3 false [.int .i64 0,.int .i64 0,.int .i64 0,.int .i64 0,.int .i64 0,.int .i64 0,.int .i64 0,.int .i64 0,.int .i64 0,.int .i64 0,.int .i64 0,.int .i64 0,.int .i64 0,.int .i64 0,.int .i64 0,.int .i64 0]) w1 fun b_1 w2=>pAgg ⟨b_1,0,none⟩ [.int .i64 1,.int .i64 0,.int .i64 0,.int .i64 0,.int .i64 0,.int .i64 0,.int .i64 0,.int .i64 0,.int .i64 0,.int .i64 0,.int .i64 0,.int .i64 0,.int .i64 0,.int .i64 0,.int .i64 0,.int .i64 0] w2 fun w3=>ck ((0:Int)≤0∧0<((8:Nat):Int)) (pV (Addr.add (Addr.add ⟨b_1,0,none⟩ 8) (Int.toNat 0*1)) (.int .i64 1) w3 fun w4=>gAgg ⟨b_1,0,none⟩ 16 w4 fun x_1=>bnd (C U4 [.agg ⟨x_1⟩] w4) fun r_1 w5=>aStr r_1 fun x_2=>pCells (some (L7 b)) (A5 (List.take (min (ByteArray.size x_2) (ByteArray.size x)) (ByteArray.data x_2).toList)) w5 fun w6=>ckB (fitsOpen (some (L7 b)) A7 w6) (ck ((0:Int)≤192∧192≤((ByteArray.size x:Nat):Int)) (bnd (C A36 [.agg ⟨[.int .i64 3,.int .i64 0,.int .i64 1,.int .i64 0]⟩] w6) fun r_2 w7=>aStr r_2 fun x_3=>ckB (fitsOpen (some (L7 b)) A7 w7) (ck ((0:Int)≤192∧192≤((ByteArray.size x:Nat):Int)) (same (.slice (H5 (some (L7 b)) (decide (Int.toNat 192<ByteArray.size x)) ((Int.toNat 192)*1)) ((ByteArray.size x)-(Int.toNat 192)) ((ByteArray.size x)-(Int.toNat 192))) (.slice (H5 (some (L7 b)) (decide (Int.toNat 192<ByteArray.size x)) ((Int.toNat 192)*1)) ((ByteArray.size x)-(Int.toNat 192)) ((ByteArray.size x)-(Int.toNat 192))) (pCells (H5 (some (L7 b)) (decide (Int.toNat 192<ByteArray.size x)) ((Int.toNat 192)*1)) (A5 (List.take (min (ByteArray.size x_3) ((ByteArray.size x)-(Int.toNat 192))) (ByteArray.data x_3).toList)) w7 fun w8=>some (.slice (some (L7 b)) (ByteArray.size x) (ByteArray.size x),w8)))))))):=by kernel_rfl
def Ef7:Cuts:={ globs:=0,loops:=[],regs:=[],plans:=[(11,⟨[0,1,2,3,4,5,6,7,8,9,10,11,12,13,14,15,16,17,18,19,20,21,22,23,24,25,26,27,28],[0,0,2,6,0,31,63,127,127,383,895,127,2175,6271,14463,32767,65535,131071,262143,262143,786431,1835007,262143,4456447,12845055,29622271,67108863,134217727,268435455],[],[]⟩),(12,⟨[0,1,2,3,4,5,6,7,8,9,10,11,12,13,14,15,17,16,18,19],[0,1,3,0,8,24,0,64,192,448,0,1024,3072,7168,0,17351,50119,0,262143,524287],[(16,[5,12])],[]⟩),(13,⟨[0,1,7,8,9,10,11,12,13,14,2,3,4,5,6,15,16],[0,1,3,3,3,31,63,0,128,384,0,1024,3072,7168,16256,32767,65535],[(5,[9,12])],[]⟩)] }
def Gh8:List Item:=A9 Tryz.f11
theorem Hq4 (C:A6) (R:A8) (c:Option Addr) (i:Int) (h:H) :
 B0 PR Ef7 C R Bl7 Tryz.f11 100000 true Gh8 [(0,.pointer c),(1,.int .i64 i)] h =
 nw (.cells P8 false [.pointer c]) h fun b w=>nw (.cells L5 false [.int .i64 0,.int .i64 0,.slice none 0 0,.bool false]) w fun b_1 w1=>gPtr ⟨b,0,none⟩ w1 fun x=>bnd (C Ae4 [.pointer x,.int .i64 i] w1) fun r w2=>as2 r fun r_1 r_2=>aAgg r_1 fun x_1=>aInt .i64 r_2 fun x_2=>nw (.cells D3 false [.int .i64 0,.int .i64 0,.int .i64 0,.int .i64 0,.int .i64 0,.int .i64 0,.int .i64 0,.int .i64 0,.int .i64 0,.int .i64 0,.int .i64 0,.int .i64 0,.int .i64 0,.int .i64 0,.int .i64 0,.int .i64 0]) w2 fun b_2 w3=>ck (List.length x_1=16) (pAgg ⟨b_2,0,none⟩ x_1 w3 fun w4=>cond (x_2 != 0)
 (bnd (C P9 [.int .i64 x_2] w4) fun r_3 w5=>aAgg r_3 fun x_3=>ck (List.length x_3=4) (pAgg ⟨b_1,0,none⟩ x_3 w5 fun w6=>gAgg ⟨b_1,0,none⟩ 4 w6 fun x_4=>some (.agg ⟨x_4⟩,w6)))
 (gAgg ⟨b_2,0,none⟩ 16 w4 fun x_5=>bnd (C Br0 [.agg ⟨x_5⟩,.int .i64 2] w4) fun r_4 w7=>aSl r_4 fun x_6 xn _=>cond (decide (((xn:Nat):Int)<2))
 (bnd (C P9 [.int .i64 124] w7) fun r_5 w8=>aAgg r_5 fun x_7=>ck (List.length x_7=4) (pAgg ⟨b_1,0,none⟩ x_7 w8 fun w9=>gAgg ⟨b_1,0,none⟩ 4 w9 fun x_8=>some (.agg ⟨x_8⟩,w9)))
 (bnd (C Y8 [.int .i64 12,.int .i64 2,.func (.func A69) ⟨[]⟩ ⟨[.pointer (some ⟨b,0,none⟩)]⟩] w7) fun r_6 w10=>aSl r_6 fun x_9 xn_1 _=>bnd (C Y8 [.int .i64 4,.int .i64 1,.func (.func A58) ⟨[]⟩ ⟨[.pointer (some ⟨b,0,none⟩)]⟩] w10) fun r_7 w11=>aSl r_7 fun x_10 xn_2 _=>bnd (cond (decide (((xn_1:Nat):Int)<2)) (some (true,w11)) (some (((xn_2:Nat):Int)==0,w11))) fun c_1 w12=>cond c_1
 (bnd (C P9 [.int .i64 123] w12) fun r_8 w13=>aAgg r_8 fun x_11=>ck (List.length x_11=4) (pAgg ⟨b_1,0,none⟩ x_11 w13 fun w14=>gAgg ⟨b_1,0,none⟩ 4 w14 fun x_12=>some (.agg ⟨x_12⟩,w14)))
 (gPtr ⟨b,0,none⟩ w12 fun x_13=>aSome x_10 fun p=>ck ((0:Int)≤0∧0<((xn_2:Nat):Int)) (gInt .i64 (Addr.add (B5 p) (Int.toNat 0*1)) w12 fun x_14=>bnd (C O8 [.pointer x_13,.int .i64 x_14,.agg ⟨[.int .i64 0,.int .i64 0,.int .i64 1,.int .i64 1,.int .u8 0,.int .u8 0,.int .u8 0,.int .u8 0,.int .u8 0,.int .u8 0,.int .u8 0,.int .u8 0,.int .u8 0,.int .u8 0,.int .u8 0,.int .u8 0,.int .u8 0,.int .u8 0,.int .u8 0,.int .u8 0,.int .u8 0,.int .u8 0,.int .u8 0,.int .u8 0,.int .u8 0,.int .u8 0,.int .u8 0,.int .u8 0,.int .u8 0,.int .u8 0,.int .u8 0,.int .u8 0,.int .u8 0,.int .u8 0,.int .u8 0,.int .u8 0]⟩] w12) fun r_9 w15=>aBool r_9 fun x_15=>bnd (cond x_15 (gPtr ⟨b,0,none⟩ w15 fun x_16=>aSome x_9 fun p_1=>ck ((0:Int)≤0∧0<((xn_1:Nat):Int)) (gInt .i64 (Addr.add (B5 p_1) (Int.toNat 0*1)) w15 fun x_17=>aSome x_10 fun p_2=>ck ((0:Int)≤0∧0<((xn_2:Nat):Int)) (gInt .i64 (Addr.add (B5 p_2) (Int.toNat 0*1)) w15 fun x_18=>bnd (C J7 [.pointer x_16,.int .i64 x_17,.agg ⟨[.int .i64 1,.int .i64 x_18,.int .i64 1,.int .i64 0]⟩] w15) fun r_10 w16=>aBool r_10 fun x_19=>some (x_19,w16)))) (some (false,w15))) fun c_2 w17=>bnd (cond c_2 (gPtr ⟨b,0,none⟩ w17 fun x_20=>aSome x_9 fun p_3=>ck ((0:Int)≤1∧1<((xn_1:Nat):Int)) (gInt .i64 (Addr.add (B5 p_3) (Int.toNat 1*1)) w17 fun x_21=>aSome x_10 fun p_4=>ck ((0:Int)≤0∧0<((xn_2:Nat):Int)) (gInt .i64 (Addr.add (B5 p_4) (Int.toNat 0*1)) w17 fun x_22=>bnd (C J7 [.pointer x_20,.int .i64 x_21,.agg ⟨[.int .i64 2,.int .i64 x_22,.int .i64 1,.int .i64 0]⟩] w17) fun r_11 w18=>aBool r_11 fun x_23=>some (x_23,w18)))) (some (false,w17))) fun c_3 w19=>aSome x_6 fun p_5=>ck ((0:Int)≤0∧0<((xn:Nat):Int)) (gInt .i64 (Addr.add (B5 p_5) (Int.toNat 0*1)) w19 fun x_24=>aSome x_6 fun p_6=>ck ((0:Int)≤1∧1<((xn:Nat):Int)) (gInt .i64 (Addr.add (B5 p_6) (Int.toNat 1*1)) w19 fun x_25=>aSome x_9 fun p_7=>ck ((0:Int)≤0∧0<((xn_1:Nat):Int)) (gInt .i64 (Addr.add (B5 p_7) (Int.toNat 0*1)) w19 fun x_26=>aSome x_9 fun p_8=>ck ((0:Int)≤1∧1<((xn_1:Nat):Int)) (gInt .i64 (Addr.add (B5 p_8) (Int.toNat 1*1)) w19 fun x_27=>ck ((0:Int)≤x_24∧x_24<((8:Nat):Int)) (pV (Addr.add (Addr.add ⟨b_2,0,none⟩ 8) (Int.toNat x_24*1)) (.int .i64 (IntKind.wrap .i64 (x_26+1))) w19 fun w20=>gInt .i64 (Addr.add (B5 p_6) (Int.toNat 1*1)) w20 fun x_28=>same (.int .i64 x_25) (.int .i64 x_28) (gInt .i64 (Addr.add (B5 p_8) (Int.toNat 1*1)) w20 fun x_29=>same (.int .i64 x_27) (.int .i64 x_29) (ck ((0:Int)≤x_25∧x_25<((8:Nat):Int)) (pV (Addr.add (Addr.add ⟨b_2,0,none⟩ 8) (Int.toNat x_25*1)) (.int .i64 (IntKind.wrap .i64 (x_27+1))) w20 fun w21=>aSome x_6 fun p_9=>ck ((0:Int)≤0∧0<((xn:Nat):Int)) (gInt .i64 (Addr.add (B5 p_9) (Int.toNat 0*1)) w21 fun x_30=>aSome x_6 fun p_10=>ck ((0:Int)≤1∧1<((xn:Nat):Int)) (gInt .i64 (Addr.add (B5 p_10) (Int.toNat 1*1)) w21 fun x_31=>bnd (cond c_3 (gPtr ⟨b,0,none⟩ w21 fun x_32=>gAgg ⟨b_2,0,none⟩ 16 w21 fun x_33=>bnd (C J9 [.pointer x_32,.int .i64 i,.agg ⟨x_33⟩] w21) fun r_12 w22=>aBool r_12 fun x_34=>gInt .i64 (Addr.add (B5 p_9) (Int.toNat 0*1)) w22 fun x_35=>same (.int .i64 x_30) (.int .i64 x_35) (gInt .i64 (Addr.add (B5 p_10) (Int.toNat 1*1)) w22 fun x_36=>same (.int .i64 x_31) (.int .i64 x_36) (some (x_34,w22)))) (some (false,w21))) fun c_4 w23=>bnd (C Bz0 [.bool c_4,.int .i64 (IntKind.wrap .i64 (x_30+(IntKind.wrap .i64 (16*x_31))))] w23) fun r_13 w24=>aAgg r_13 fun x_37=>ck (List.length x_37=4) (pAgg ⟨b_1,0,none⟩ x_37 w24 fun w25=>gAgg ⟨b_1,0,none⟩ 4 w25 fun x_38=>some (.agg ⟨x_38⟩,w25))))))))))))))))):=by kernel_rfl
def Df1:Cuts:={ globs:=0,loops:=[],regs:=[],plans:=[] }
def Eh6:List Item:=A9 Tryz.f13
theorem Ej7 (C:A6) (R:A8) (c:Option Addr) (i:Int) (fd:Int) (b:Option Addr) (bn bc:Nat) (h:H) :
 B0 PR Df1 C R Ag5 Tryz.f13 100000 true Eh6 [(0,.pointer c),(1,.int .i64 i),(2,.int .i64 fd),(3,.slice b bn bc)] h =
 nw (.cells L5 false [.int .i64 0,.int .i64 0,.slice none 0 0,.bool false]) h fun b_1 w=>bnd (C B71 [.pointer c,.int .i64 i,.int .i64 fd] w) fun r w1=>as3 r fun r_1 r_2 r_3=>aInt .i64 r_1 fun _=>aAgg r_2 fun x_1=>aInt .i64 r_3 fun x_2=>nw (.cells D5 false [.int .i64 0,.int .i64 0,.int .i64 0,.int .i64 0]) w1 fun b_2 w2=>ck (List.length x_1=4) (pAgg ⟨b_2,0,none⟩ x_1 w2 fun w3=>cond (x_2 != 0)
 (bnd (C M0 [.int .i64 x_2] w3) fun r_4 w4=>aAgg r_4 fun x_3=>ck (List.length x_3=4) (pAgg ⟨b_1,0,none⟩ x_3 w4 fun w5=>gAgg ⟨b_1,0,none⟩ 4 w5 fun x_4=>some (.agg ⟨x_4⟩,w5)))
 (gInt .i64 (Addr.add ⟨b_2,0,none⟩ 0) w3 fun x_5=>cond (x_5 != 2)
 (bnd (C M0 [.int .i64 109] w3) fun r_5 w6=>aAgg r_5 fun x_6=>ck (List.length x_6=4) (pAgg ⟨b_1,0,none⟩ x_6 w6 fun w7=>gAgg ⟨b_1,0,none⟩ 4 w7 fun x_7=>some (.agg ⟨x_7⟩,w7)))
 (cond (decide (((bn:Nat):Int)>32))
 (bnd (C M0 [.int .i64 122] w3) fun r_6 w8=>aAgg r_6 fun x_8=>ck (List.length x_8=4) (pAgg ⟨b_1,0,none⟩ x_8 w8 fun w9=>gAgg ⟨b_1,0,none⟩ 4 w9 fun x_9=>some (.agg ⟨x_9⟩,w9)))
 (cond (((bn:Nat):Int)==0)
 (pAgg ⟨b_1,0,none⟩ [.int .i64 0,.int .i64 0,.slice none 0 0,.bool false] w3 fun w10=>gAgg ⟨b_1,0,none⟩ 4 w10 fun x_10=>some (.agg ⟨x_10⟩,w10))
 (gAgg ⟨b_2,0,none⟩ 4 w3 fun x_11=>bnd (C By5 [.pointer c,.agg ⟨x_11⟩] w3) fun r_7 w11=>as2 r_7 fun r_8 r_9=>aAgg r_8 fun x_12=>aBool r_9 fun x_13=>nw (.cells B00 false [.int .i64 0,.int .i64 0,.int .i64 0,.int .i64 0,.int .u8 0,.int .u8 0,.int .u8 0,.int .u8 0,.int .u8 0,.int .u8 0,.int .u8 0,.int .u8 0,.int .u8 0,.int .u8 0,.int .u8 0,.int .u8 0,.int .u8 0,.int .u8 0,.int .u8 0,.int .u8 0,.int .u8 0,.int .u8 0,.int .u8 0,.int .u8 0,.int .u8 0,.int .u8 0,.int .u8 0,.int .u8 0,.int .u8 0,.int .u8 0,.int .u8 0,.int .u8 0,.int .u8 0,.int .u8 0,.int .u8 0,.int .u8 0,.nilFunc]) w11 fun b_3 w12=>ck (List.length x_12=37) (pAgg ⟨b_3,0,none⟩ x_12 w12 fun w13=>cond (!x_13)
 (bnd (C M0 [.int .i64 105] w13) fun r_10 w14=>aAgg r_10 fun x_14=>ck (List.length x_14=4) (pAgg ⟨b_1,0,none⟩ x_14 w14 fun w15=>gAgg ⟨b_1,0,none⟩ 4 w15 fun x_15=>some (.agg ⟨x_15⟩,w15)))
 (gInt .i64 (Addr.add (Addr.add ⟨b_3,0,none⟩ 0) 2) w13 fun x_16=>cond (x_16==0)
 (bnd (C Bm2 [.pointer c,.int .i64 i] w13) fun r_11 w16=>aAgg r_11 fun x_17=>ck (List.length x_17=4) (pAgg ⟨b_1,0,none⟩ x_17 w16 fun w17=>gAgg ⟨b_1,0,none⟩ 4 w17 fun x_18=>some (.agg ⟨x_18⟩,w17)))
 (gInt .i64 (Addr.add (Addr.add ⟨b_3,0,none⟩ 0) 1) w13 fun x_19=>bnd (cond ((IntKind.wrap .i64 (32-x_19))==0) (some (true,w13)) (bnd (cond (decide (((bn:Nat):Int)≤8)) (some (decide ((IntKind.wrap .i64 (32-x_19))<((bn:Nat):Int)),w13)) (some (false,w13))) fun c_1 w18=>some (c_1,w18))) fun c_2 w19=>cond c_2
 (gAgg ⟨b_2,0,none⟩ 4 w19 fun x_20=>bnd (C Aw7 [.agg ⟨x_20⟩] w19) fun r_12 w20=>aAgg r_12 fun x_21=>ck (List.length x_21=4) (pAgg ⟨b_1,0,none⟩ x_21 w20 fun w21=>gAgg ⟨b_1,0,none⟩ 4 w21 fun x_22=>some (.agg ⟨x_22⟩,w21)))
 (gAgg (Addr.add ⟨b_3,0,none⟩ 0) 36 w19 fun x_23=>bnd (C Ao5 [.agg ⟨x_23⟩,.slice b bn bc] w19) fun r_13 w22=>as2 r_13 fun r_14 r_15=>aAgg r_14 fun x_24=>aInt .i64 r_15 fun x_25=>nw (.cells D1 false [.int .i64 0,.int .i64 0,.int .i64 0,.int .i64 0,.int .u8 0,.int .u8 0,.int .u8 0,.int .u8 0,.int .u8 0,.int .u8 0,.int .u8 0,.int .u8 0,.int .u8 0,.int .u8 0,.int .u8 0,.int .u8 0,.int .u8 0,.int .u8 0,.int .u8 0,.int .u8 0,.int .u8 0,.int .u8 0,.int .u8 0,.int .u8 0,.int .u8 0,.int .u8 0,.int .u8 0,.int .u8 0,.int .u8 0,.int .u8 0,.int .u8 0,.int .u8 0,.int .u8 0,.int .u8 0,.int .u8 0,.int .u8 0]) w22 fun b_4 w23=>ck (List.length x_24=36) (pAgg ⟨b_4,0,none⟩ x_24 w23 fun w24=>gFv (Addr.add ⟨b_3,0,none⟩ 36) w24 fun x_26=>gAgg ⟨b_4,0,none⟩ 36 w24 fun x_27=>aFn x_26 fun g fi cp=>bnd (C g (fi++([.agg ⟨x_27⟩]++cp)) w24) fun r_16 w25=>aBool r_16 fun x_28=>cond (!x_28)
 (bnd (C M0 [.int .i64 105] w25) fun r_17 w26=>aAgg r_17 fun x_29=>ck (List.length x_29=4) (pAgg ⟨b_1,0,none⟩ x_29 w26 fun w27=>gAgg ⟨b_1,0,none⟩ 4 w27 fun x_30=>some (.agg ⟨x_30⟩,w27)))
 (pAgg ⟨b_1,0,none⟩ [.int .i64 x_25,.int .i64 0,.slice none 0 0,.bool false] w25 fun w28=>gAgg ⟨b_1,0,none⟩ 4 w28 fun x_31=>some (.agg ⟨x_31⟩,w28)))))))))))):=by kernel_rfl
def Dq2:Cuts:={ globs:=0,loops:=[],regs:=[],plans:=[] }
def Es7:List Item:=A9 Tryz.f23
theorem Ha6 (C:A6) (R:A8) (p:List Value) (h:H) :
 B0 PR Dq2 C R Bi4 Tryz.f23 100000 true Es7 [(0,.agg ⟨p⟩)] h =
 nw (.cells Bz8 false p) h fun b w=>gAgg ⟨b,0,none⟩ 3 w fun x=>bnd (C J4 [.agg ⟨x⟩] w) fun r w1=>aAgg r fun x_1=>nw (.cells E4 false [.slice none 0 0,.slice none 0 0,.slice none 0 0,.int .i64 0,.slice none 0 0]) w1 fun b_1 w2=>ck (List.length x_1=5) (pAgg ⟨b_1,0,none⟩ x_1 w2 fun w3=>gAgg ⟨b_1,0,none⟩ 5 w3 fun x_2=>bnd (C H9 [.agg ⟨x_2⟩] w3) fun r_1 w4=>as2 r_1 fun r_2 r_3=>aPtr r_2 fun x_3=>aInt .i64 r_3 fun x_4=>bnd (cond x_3.isNone (some (true,w4)) (some (x_4 != 0,w4))) fun c w5=>cond c
 (some (.tuple ⟨[.pointer none,.pointer none,.pointer none,.pointer none]⟩,w5))
 (gAgg ⟨b_1,0,none⟩ 5 w5 fun x_5=>bnd (C G4 [.agg ⟨x_5⟩] w5) fun r_4 w6=>aPtr r_4 fun x_6=>bnd (C Bs1 [.pointer x_3,.int .i64 0] w6) fun r_5 w7=>as2 r_5 fun r_6 r_7=>aPtr r_6 fun x_7=>aInt .i64 r_7 fun x_8=>bnd (cond x_7.isNone (some (true,w7)) (some (x_8 != 0,w7))) fun c_1 w8=>cond c_1
 (some (.tuple ⟨[.pointer none,.pointer none,.pointer none,.pointer none]⟩,w8))
 (bnd (C Bc2 [] w8) fun r_8 w9=>aStr r_8 fun x_9=>ck (ByteArray.size x_9≤B4) (nw (.cells A7 false (A5 (ByteArray.data x_9).toList)) w9 fun b_2 w10=>bnd (C S8 [.pointer x_3,.int .i64 0,.agg ⟨[.int .i64 2,.int .i64 256,.int .i64 0,.int .i64 0,.int .i64 0,.int .i64 0,.slice (some (L7 b_2)) (ByteArray.size x_9) (ByteArray.size x_9)]⟩] w10) fun r_9 w11=>aAgg r_9 fun x_10=>nth x_10 0 fun E=>aInt .i64 E fun E_1=>cond (E_1 != 0)
 (some (.tuple ⟨[.pointer none,.pointer none,.pointer none,.pointer none]⟩,w11))
 (ck (ByteArray.size x_9≤B4) (nw (.cells A7 false (A5 (ByteArray.data x_9).toList)) w11 fun b_3 w12=>bnd (C As6 [.pointer x_6,.int .i64 0,.agg ⟨[.int .i64 2,.int .i64 256,.int .i64 0,.int .i64 0,.int .i64 0,.int .i64 0,.slice (some (L7 b_3)) (ByteArray.size x_9) (ByteArray.size x_9)]⟩] w12) fun r_10 w13=>as3 r_10 fun r_11 r_12 r_13=>aInt .i64 r_11 fun _=>aInt .i64 r_12 fun _=>aStr r_13 fun _=>bnd (C Az6 [.pointer x_6,.int .i64 0] w13) fun r_14 w14=>aPtr r_14 fun x_14=>some (.tuple ⟨[.pointer x_3,.pointer x_7,.pointer x_6,.pointer x_14]⟩,w14))))))):=by kernel_rfl
def Dd8:Cuts:={ globs:=0,loops:=[],regs:=[],plans:=[(1,⟨[0,1,2,3,4,5,6,7],[0,1,0,4,15,12,63,127],[(3,[1]),(5,[1])],[]⟩)] }
def Ei6:List Item:=A9 Tryz.f28
theorem Gv4 (C:A6) (R:A8)  (h:H) :
 B0 PR Dd8 C R Bc2 Tryz.f28 100000 true Ei6 [] h =
 ck ((0:Int)≤448∧(448:Int)≤448∧448≤(B4:Int)) (nw (.cells A7 false (H4 (Int.toNat 448) [.int .u8 0])) h fun b w=>gCells (some ⟨b,0,none⟩) (Int.toNat 448) w fun cs=>asBytes cs fun l=>bnd (C Q0 [.agg ⟨[.int .i64 0,.int .i64 0,.int .i64 1,.int .i64 1,.int .u8 0,.int .u8 0,.int .u8 0,.int .u8 0,.int .u8 0,.int .u8 0,.int .u8 0,.int .u8 0,.int .u8 0,.int .u8 0,.int .u8 0,.int .u8 0,.int .u8 0,.int .u8 0,.int .u8 0,.int .u8 0,.int .u8 0,.int .u8 0,.int .u8 0,.int .u8 0,.int .u8 0,.int .u8 0,.int .u8 0,.int .u8 0,.int .u8 0,.int .u8 0,.int .u8 0,.int .u8 0,.int .u8 0,.int .u8 0,.int .u8 0,.int .u8 0]⟩] w) fun r w1=>aStr r fun x=>gCells (some ⟨b,0,none⟩) (Int.toNat 448) w1 fun cs_1=>asBytes cs_1 fun l_1=>same (.string (ByteArray.mk ⟨l⟩)) (.string (ByteArray.mk ⟨l_1⟩)) (ck (ByteArray.size (ByteArray.mk ⟨l⟩)+ByteArray.size x≤B4) (bnd (C Ay3 [.int .i64 0] w1) fun r_1 w2=>aStr r_1 fun x_1=>gCells (some ⟨b,0,none⟩) (Int.toNat 448) w2 fun cs_2=>asBytes cs_2 fun l_2=>same (.string (ByteArray.mk ⟨l⟩)) (.string (ByteArray.mk ⟨l_2⟩)) (ck (ByteArray.size ((ByteArray.mk ⟨l⟩)++x)+ByteArray.size x_1≤B4) (some (.string (((ByteArray.mk ⟨l⟩)++x)++x_1),w2)))))):=by kernel_rfl
def A13:Cuts:={ globs:=0,loops:=[],regs:=[],plans:=[] }
def Bp7:List Item:=A9 Tryz.f37
theorem D30 (C:A6) (R:A8) (c:Option Addr) (i:Int) (h:H) :
 B0 PR A13 C R O4 Tryz.f37 100000 true Bp7 [(0,.pointer c),(1,.int .i64 i)] h =
 nw (.cells D1 false [.int .i64 0,.int .i64 0,.int .i64 0,.int .i64 0,.int .u8 0,.int .u8 0,.int .u8 0,.int .u8 0,.int .u8 0,.int .u8 0,.int .u8 0,.int .u8 0,.int .u8 0,.int .u8 0,.int .u8 0,.int .u8 0,.int .u8 0,.int .u8 0,.int .u8 0,.int .u8 0,.int .u8 0,.int .u8 0,.int .u8 0,.int .u8 0,.int .u8 0,.int .u8 0,.int .u8 0,.int .u8 0,.int .u8 0,.int .u8 0,.int .u8 0,.int .u8 0,.int .u8 0,.int .u8 0,.int .u8 0,.int .u8 0]) h fun b w=>bnd (C As7 [.int .i64 i] w) fun r w1=>aAgg r fun x=>bnd (C I5 [.pointer c,.agg ⟨x⟩,.func (.func Aw6) ⟨[]⟩ ⟨[]⟩] w1) fun r_1 w2=>as2 r_1 fun r_2 r_3=>aAgg r_2 fun x_1=>aInt .i64 r_3 fun x_2=>ck (List.length x_1=36) (pAgg ⟨b,0,none⟩ x_1 w2 fun w3=>gAgg ⟨b,0,none⟩ 36 w3 fun x_3=>some (.tuple ⟨[.agg ⟨x_3⟩,.int .i64 x_2]⟩,w3)):=by kernel_rfl
def Ef8:Cuts:={ globs:=0,loops:=[],regs:=[],plans:=[] }
def Gh0:List Item:=A9 Tryz.f40
theorem Hs0 (C:A6) (R:A8) (ok:Bool) (n:Int) (h:H) :
 B0 PR Ef8 C R Bz0 Tryz.f40 100000 true Gh0 [(0,.bool ok),(1,.int .i64 n)] h =
 nw (.cells L5 false [.int .i64 0,.int .i64 0,.slice none 0 0,.bool false]) h fun b w=>cond (!ok)
 (bnd (C P9 [.int .i64 105] w) fun r w1=>aAgg r fun x=>ck (List.length x=4) (pAgg ⟨b,0,none⟩ x w1 fun w2=>gAgg ⟨b,0,none⟩ 4 w2 fun x_1=>some (.agg ⟨x_1⟩,w2)))
 (pAgg ⟨b,0,none⟩ [.int .i64 n,.int .i64 0,.slice none 0 0,.bool false] w fun w3=>gAgg ⟨b,0,none⟩ 4 w3 fun x_2=>some (.agg ⟨x_2⟩,w3)):=by kernel_rfl
def Eb1:Cuts:={ globs:=0,loops:=[],regs:=[],plans:=[] }
def Gc6:List Item:=A9 Tryz.f44
theorem Hr3 (C:A6) (R:A8) (c:Option Addr) (f:List Value) (h:H) :
 B0 PR Eb1 C R By5 Tryz.f44 100000 true Gc6 [(0,.pointer c),(1,.agg ⟨f⟩)] h =
 nw (.cells P8 false [.pointer c]) h fun b w=>nw (.cells D5 false f) w fun b_1 w1=>nw (.cells B00 false [.int .i64 0,.int .i64 0,.int .i64 0,.int .i64 0,.int .u8 0,.int .u8 0,.int .u8 0,.int .u8 0,.int .u8 0,.int .u8 0,.int .u8 0,.int .u8 0,.int .u8 0,.int .u8 0,.int .u8 0,.int .u8 0,.int .u8 0,.int .u8 0,.int .u8 0,.int .u8 0,.int .u8 0,.int .u8 0,.int .u8 0,.int .u8 0,.int .u8 0,.int .u8 0,.int .u8 0,.int .u8 0,.int .u8 0,.int .u8 0,.int .u8 0,.int .u8 0,.int .u8 0,.int .u8 0,.int .u8 0,.int .u8 0,.nilFunc]) w1 fun b_2 w2=>gInt .i64 (Addr.add ⟨b_1,0,none⟩ 0) w2 fun x=>cond (x==3)
 (gPtr ⟨b,0,none⟩ w2 fun x_1=>bnd (C S7 [.pointer x_1] w2) fun r w3=>as2 r fun r_1 r_2=>aAgg r_1 fun x_2=>aInt .i64 r_2 fun x_3=>nw (.cells D1 false [.int .i64 0,.int .i64 0,.int .i64 0,.int .i64 0,.int .u8 0,.int .u8 0,.int .u8 0,.int .u8 0,.int .u8 0,.int .u8 0,.int .u8 0,.int .u8 0,.int .u8 0,.int .u8 0,.int .u8 0,.int .u8 0,.int .u8 0,.int .u8 0,.int .u8 0,.int .u8 0,.int .u8 0,.int .u8 0,.int .u8 0,.int .u8 0,.int .u8 0,.int .u8 0,.int .u8 0,.int .u8 0,.int .u8 0,.int .u8 0,.int .u8 0,.int .u8 0,.int .u8 0,.int .u8 0,.int .u8 0,.int .u8 0]) w3 fun b_3 w4=>ck (List.length x_2=36) (pAgg ⟨b_3,0,none⟩ x_2 w4 fun w5=>gAgg ⟨b_3,0,none⟩ 36 w5 fun x_4=>gPtr ⟨b,0,none⟩ w5 fun x_5=>ck (List.length x_4=36) (ck (List.length (x_4++[.func (.func O9) ⟨[.pointer x_5]⟩ ⟨[]⟩])=37) (pAgg ⟨b_2,0,none⟩ (x_4++[.func (.func O9) ⟨[.pointer x_5]⟩ ⟨[]⟩]) w5 fun w6=>gAgg ⟨b_2,0,none⟩ 37 w6 fun x_6=>some (.tuple ⟨[.agg ⟨x_6⟩,.bool (x_3==1)]⟩,w6)))))
 (gPtr ⟨b,0,none⟩ w2 fun x_7=>gInt .i64 (Addr.add ⟨b_1,0,none⟩ 1) w2 fun x_8=>bnd (C O4 [.pointer x_7,.int .i64 x_8] w2) fun r_3 w7=>as2 r_3 fun r_4 r_5=>aAgg r_4 fun x_9=>aInt .i64 r_5 fun x_10=>nw (.cells D1 false [.int .i64 0,.int .i64 0,.int .i64 0,.int .i64 0,.int .u8 0,.int .u8 0,.int .u8 0,.int .u8 0,.int .u8 0,.int .u8 0,.int .u8 0,.int .u8 0,.int .u8 0,.int .u8 0,.int .u8 0,.int .u8 0,.int .u8 0,.int .u8 0,.int .u8 0,.int .u8 0,.int .u8 0,.int .u8 0,.int .u8 0,.int .u8 0,.int .u8 0,.int .u8 0,.int .u8 0,.int .u8 0,.int .u8 0,.int .u8 0,.int .u8 0,.int .u8 0,.int .u8 0,.int .u8 0,.int .u8 0,.int .u8 0]) w7 fun b_4 w8=>ck (List.length x_9=36) (pAgg ⟨b_4,0,none⟩ x_9 w8 fun w9=>gAgg ⟨b_4,0,none⟩ 36 w9 fun x_11=>ck (List.length x_11=36) (ck (List.length (x_11++[.func (.func A44) ⟨[]⟩ ⟨[.pointer (some ⟨b,0,none⟩),.pointer (some ⟨b_1,0,none⟩)]⟩])=37) (pAgg ⟨b_2,0,none⟩ (x_11++[.func (.func A44) ⟨[]⟩ ⟨[.pointer (some ⟨b,0,none⟩),.pointer (some ⟨b_1,0,none⟩)]⟩]) w9 fun w10=>gAgg ⟨b_2,0,none⟩ 37 w10 fun x_12=>some (.tuple ⟨[.agg ⟨x_12⟩,.bool (x_10==1)]⟩,w10))))):=by kernel_rfl
def B73:Cuts:={ globs:=0,loops:=[],regs:=[],plans:=[] }
def D70:List Item:=A9 Tryz.f45
theorem Gl5 (C:A6) (R:A8) (c:Option Addr) (i:Int) (h:H) :
 B0 PR B73 C R Bm2 Tryz.f45 100000 true D70 [(0,.pointer c),(1,.int .i64 i)] h =
 nw (.cells L5 false [.int .i64 0,.int .i64 0,.slice none 0 0,.bool false]) h fun b w=>bnd (C Ae4 [.pointer c,.int .i64 i] w) fun r w1=>as2 r fun r_1 r_2=>aAgg r_1 fun x=>aInt .i64 r_2 fun _=>nw (.cells D3 false [.int .i64 0,.int .i64 0,.int .i64 0,.int .i64 0,.int .i64 0,.int .i64 0,.int .i64 0,.int .i64 0,.int .i64 0,.int .i64 0,.int .i64 0,.int .i64 0,.int .i64 0,.int .i64 0,.int .i64 0,.int .i64 0]) w1 fun b_1 w2=>ck (List.length x=16) (pAgg ⟨b_1,0,none⟩ x w2 fun w3=>gAgg ⟨b_1,0,none⟩ 16 w3 fun x_2=>bnd (C Ae5 [.agg ⟨x_2⟩,.int .i64 13] w3) fun r_3 w4=>as2 r_3 fun r_4 r_5=>aAgg r_4 fun x_3=>aBool r_5 fun x_4=>nw (.cells D3 false [.int .i64 0,.int .i64 0,.int .i64 0,.int .i64 0,.int .i64 0,.int .i64 0,.int .i64 0,.int .i64 0,.int .i64 0,.int .i64 0,.int .i64 0,.int .i64 0,.int .i64 0,.int .i64 0,.int .i64 0,.int .i64 0]) w4 fun b_2 w5=>ck (List.length x_3=16) (pAgg ⟨b_2,0,none⟩ x_3 w5 fun w6=>bnd (cond x_4 (gAgg ⟨b_2,0,none⟩ 16 w6 fun x_5=>bnd (C J9 [.pointer c,.int .i64 i,.agg ⟨x_5⟩] w6) fun r_6 w7=>aBool r_6 fun x_6=>some (!x_6,w7)) (some (false,w6))) fun c_1 w8=>cond c_1
 (bnd (C M0 [.int .i64 105] w8) fun r_7 w9=>aAgg r_7 fun x_7=>ck (List.length x_7=4) (pAgg ⟨b,0,none⟩ x_7 w9 fun w10=>gAgg ⟨b,0,none⟩ 4 w10 fun x_8=>some (.agg ⟨x_8⟩,w10)))
 (bnd (C M0 [.int .i64 132] w8) fun r_8 w11=>aAgg r_8 fun x_9=>ck (List.length x_9=4) (pAgg ⟨b,0,none⟩ x_9 w11 fun w12=>gAgg ⟨b,0,none⟩ 4 w12 fun x_10=>some (.agg ⟨x_10⟩,w12))))):=by kernel_rfl
def D21:Cuts:={ globs:=0,loops:=[],regs:=[],plans:=[(9,⟨[0,1,2,3,4,5],[0,0,0,6,15,31],[(3,[0])],[]⟩)] }
def E39:List Item:=A9 Tryz.f48
theorem Hg8 (C:A6) (R:A8) (c:Option Addr) (i:Int) (fd:Int) (n:Int) (h:H) :
 B0 PR D21 C R Da0 Tryz.f48 100000 true E39 [(0,.pointer c),(1,.int .i64 i),(2,.int .i64 fd),(3,.int .i64 n)] h =
 nw (.cells D5 false [.int .i64 0,.int .i64 0,.int .i64 0,.int .i64 0]) h fun b w=>bnd (C B71 [.pointer c,.int .i64 i,.int .i64 fd] w) fun r w1=>as3 r fun r_1 r_2 r_3=>aInt .i64 r_1 fun _=>aAgg r_2 fun x_1=>aInt .i64 r_3 fun x_2=>nw (.cells D5 false [.int .i64 0,.int .i64 0,.int .i64 0,.int .i64 0]) w1 fun b_1 w2=>ck (List.length x_1=4) (pAgg ⟨b_1,0,none⟩ x_1 w2 fun w3=>cond (x_2 != 0)
 (gAgg ⟨b_1,0,none⟩ 4 w3 fun x_3=>ck (List.length x_3=4) (pAgg ⟨b,0,none⟩ x_3 w3 fun w4=>gAgg ⟨b,0,none⟩ 4 w4 fun x_4=>some (.tuple ⟨[.agg ⟨x_4⟩,.int .i64 x_2]⟩,w4)))
 (gInt .i64 (Addr.add ⟨b_1,0,none⟩ 0) w3 fun x_5=>cond (x_5==2)
 (gAgg ⟨b_1,0,none⟩ 4 w3 fun x_6=>ck (List.length x_6=4) (pAgg ⟨b,0,none⟩ x_6 w3 fun w5=>gAgg ⟨b,0,none⟩ 4 w5 fun x_7=>some (.tuple ⟨[.agg ⟨x_7⟩,.int .i64 109]⟩,w5)))
 (bnd (cond (decide (n<0)) (some (true,w3)) (some (decide (n>32),w3))) fun c_1 w6=>cond c_1
 (gAgg ⟨b_1,0,none⟩ 4 w6 fun x_8=>ck (List.length x_8=4) (pAgg ⟨b,0,none⟩ x_8 w6 fun w7=>gAgg ⟨b,0,none⟩ 4 w7 fun x_9=>some (.tuple ⟨[.agg ⟨x_9⟩,.int .i64 122]⟩,w7)))
 (gInt .i64 (Addr.add ⟨b_1,0,none⟩ 0) w6 fun x_10=>cond (x_10==3)
 (gAgg ⟨b_1,0,none⟩ 4 w6 fun x_11=>bnd (C Gx7 [.pointer c,.int .i64 i] w6) fun r_4 w8=>aInt .i64 r_4 fun x_12=>gAgg ⟨b_1,0,none⟩ 4 w8 fun x_13=>same (.agg ⟨x_11⟩) (.agg ⟨x_13⟩) (ck (List.length x_11=4) (pAgg ⟨b,0,none⟩ x_11 w8 fun w9=>gAgg ⟨b,0,none⟩ 4 w9 fun x_14=>some (.tuple ⟨[.agg ⟨x_14⟩,.int .i64 x_12]⟩,w9))))
 (gAgg ⟨b_1,0,none⟩ 4 w6 fun x_15=>ck (List.length x_15=4) (pAgg ⟨b,0,none⟩ x_15 w6 fun w10=>gAgg ⟨b,0,none⟩ 4 w10 fun x_16=>some (.tuple ⟨[.agg ⟨x_16⟩,.int .i64 0]⟩,w10))))))):=by kernel_rfl
def D08:Cuts:={ globs:=0,loops:=[],regs:=[],plans:=[] }
def E10:List Item:=A9 Tryz.f53
theorem Hk5 (C:A6) (R:A8) (e:Int) (h:H) :
 B0 PR D08 C R Da6 Tryz.f53 100000 true E10 [(0,.int .i64 e)] h =
 nw (.cells L5 false [.int .i64 0,.int .i64 0,.slice none 0 0,.bool false]) h fun b w=>pAgg ⟨b,0,none⟩ [.int .i64 0,.int .i64 e,.slice none 0 0,.bool false] w fun w1=>gAgg ⟨b,0,none⟩ 4 w1 fun x=>some (.agg ⟨x⟩,w1):=by kernel_rfl
def Dz4:Cuts:={ globs:=0,loops:=[],regs:=[],plans:=[] }
def E26:List Item:=A9 Tryz.f57
theorem Hd7 (C:A6) (R:A8) (p:List Value) (fd:Int) (h:H) :
 B0 PR Dz4 C R Bq7 Tryz.f57 100000 true E26 [(0,.agg ⟨p⟩),(1,.int .i64 fd)] h =
 nw (.cells D3 false p) h fun b w=>bnd (cond (decide (fd≥0)) (some (decide (fd<8),w)) (some (false,w))) fun c w1=>bnd (cond c (ck ((0:Int)≤fd∧fd<((8:Nat):Int)) (gInt .i64 (Addr.add (Addr.add ⟨b,0,none⟩ 8) (Int.toNat fd*1)) w1 fun x=>some (decide (x>0),w1))) (some (false,w1))) fun c_1 w2=>some (.bool c_1,w2):=by kernel_rfl
def A98:Cuts:={ globs:=0,loops:=[],regs:=[(18,[0,5,7])],plans:=[] }
def Bs8:List Item:=A9 Tryz.f58
def Av3:List Item:=stk [0,1,0,1,0,1,0,1,0,1,0,1,0,1,0,1,0,1,0,1,0,0] Bs8
theorem Ga6 (C:A6) (R:A8) (c:Option Addr) (f:Int) (h:H) :
 B0 PR A98 C R W6 Tryz.f58 100000 true Bs8 [(0,.pointer c),(1,.int .i64 f)] h =
 bnd (C D2 [.pointer c] h) fun r w=>as0 r (bnd (C N9 [.pointer c,.int .i64 f] w) fun r_1 w1=>as2 r_1 fun r_2 r_3=>aAgg r_2 fun x=>aInt .i64 r_3 fun x_1=>nw (.cells D5 false [.int .i64 0,.int .i64 0,.int .i64 0,.int .i64 0]) w1 fun b w2=>ck (List.length x=4) (pAgg ⟨b,0,none⟩ x w2 fun w3=>cond (x_1 != 1)
 (some (.int .i64 105,w3))
 (gInt .i64 (Addr.add ⟨b,0,none⟩ 2) w3 fun x_2=>pV (Addr.add ⟨b,0,none⟩ 2) (.int .i64 (IntKind.wrap .i64 (x_2-1))) w3 fun w4=>gInt .i64 (Addr.add ⟨b,0,none⟩ 2) w4 fun x_3=>cond (decide (x_3>0))
 (gAgg ⟨b,0,none⟩ 4 w4 fun x_4=>bnd (C J7 [.pointer c,.int .i64 f,.agg ⟨x_4⟩] w4) fun r_4 w5=>aBool r_4 fun x_5=>bnd (C Bd4 [.bool x_5,.int .i64 0] w5) fun r_5 w6=>aAgg r_5 fun x_6=>nth x_6 1 fun E=>aInt .i64 E fun E_1=>some (.int .i64 E_1,w6))
 (bnd (C Ab9 [.pointer c,.int .i64 f] w4) fun r_6 w7=>aBool r_6 fun x_7=>cond (!x_7)
 (some (.int .i64 105,w7))
 (gInt .i64 (Addr.add ⟨b,0,none⟩ 0) w7 fun x_8=>cond (x_8==3)
 (some (.int .i64 0,w7))
 (gInt .i64 (Addr.add ⟨b,0,none⟩ 1) w7 fun x_9=>bnd (C O4 [.pointer c,.int .i64 x_9] w7) fun r_7 w8=>as2 r_7 fun r_8 r_9=>aAgg r_8 fun x_10=>aInt .i64 r_9 fun x_11=>nw (.cells D1 false [.int .i64 0,.int .i64 0,.int .i64 0,.int .i64 0,.int .u8 0,.int .u8 0,.int .u8 0,.int .u8 0,.int .u8 0,.int .u8 0,.int .u8 0,.int .u8 0,.int .u8 0,.int .u8 0,.int .u8 0,.int .u8 0,.int .u8 0,.int .u8 0,.int .u8 0,.int .u8 0,.int .u8 0,.int .u8 0,.int .u8 0,.int .u8 0,.int .u8 0,.int .u8 0,.int .u8 0,.int .u8 0,.int .u8 0,.int .u8 0,.int .u8 0,.int .u8 0,.int .u8 0,.int .u8 0,.int .u8 0,.int .u8 0]) w8 fun b_1 w9=>ck (List.length x_10=36) (pAgg ⟨b_1,0,none⟩ x_10 w9 fun w10=>cond (x_11 != 1)
 (some (.int .i64 105,w10))
 (gInt .i64 (Addr.add ⟨b,0,none⟩ 0) w10 fun x_12=>cond (x_12==1)
 (gInt .i64 (Addr.add ⟨b_1,0,none⟩ 2) w10 fun x_13=>pV (Addr.add ⟨b_1,0,none⟩ 2) (.int .i64 (mm2 true (IntKind.wrap .i64 (x_13-1)) 0)) w10 fun w11=>R W6 Av3 [(0,.pointer c),(5,.pointer (some ⟨b,0,none⟩)),(7,.pointer (some ⟨b_1,0,none⟩))] w11)
 (gInt .i64 (Addr.add ⟨b_1,0,none⟩ 3) w10 fun x_14=>pV (Addr.add ⟨b_1,0,none⟩ 3) (.int .i64 (mm2 true (IntKind.wrap .i64 (x_14-1)) 0)) w10 fun w12=>R W6 Av3 [(0,.pointer c),(5,.pointer (some ⟨b,0,none⟩)),(7,.pointer (some ⟨b_1,0,none⟩))] w12))))))))):=by kernel_rfl
theorem Ek0 (C:A6) (R:A8) (c:Option Addr) (x:Addr) (p:Addr) (h:H) :
 B0 PR A98 C R W6 Tryz.f58 100000 true Av3 [(0,.pointer c),(5,.pointer (some x)),(7,.pointer (some p))] h =
 gInt .i64 (Addr.add p 2) h fun x_1=>gInt .i64 (Addr.add p 3) h fun x_2=>bnd (cond ((IntKind.wrap .i64 (x_1+x_2))==0) (gInt .i64 (Addr.add x 1) h fun x_3=>some (decide (x_3<4),h)) (some (false,h))) fun c_1 w=>cond c_1
 (gInt .i64 (Addr.add x 1) w fun x_4=>bnd (C Ac3 [.pointer c,.int .i64 x_4] w) fun r w1=>aBool r fun x_5=>bnd (C Bd4 [.bool x_5,.int .i64 0] w1) fun r_1 w2=>aAgg r_1 fun x_6=>nth x_6 1 fun E=>aInt .i64 E fun E_1=>some (.int .i64 E_1,w2))
 (gInt .i64 (Addr.add x 1) w fun x_7=>gAgg p 36 w fun x_8=>bnd (C O8 [.pointer c,.int .i64 x_7,.agg ⟨x_8⟩] w) fun r_2 w3=>aBool r_2 fun x_9=>bnd (C Bd4 [.bool x_9,.int .i64 0] w3) fun r_3 w4=>aAgg r_3 fun x_10=>nth x_10 1 fun E_2=>aInt .i64 E_2 fun E_3=>some (.int .i64 E_3,w4)):=by kernel_rfl
def A15:Cuts:={ globs:=0,loops:=[],regs:=[],plans:=[] }
def Bp6:List Item:=A9 Tryz.f60
theorem D26 (C:A6) (R:A8) (c:Option Addr) (i:Int) (h:H) :
 B0 PR A15 C R Ab1 Tryz.f60 100000 true Bp6 [(0,.pointer c),(1,.int .i64 i)] h =
 nw (.cells D3 false [.int .i64 0,.int .i64 0,.int .i64 0,.int .i64 0,.int .i64 0,.int .i64 0,.int .i64 0,.int .i64 0,.int .i64 0,.int .i64 0,.int .i64 0,.int .i64 0,.int .i64 0,.int .i64 0,.int .i64 0,.int .i64 0]) h fun b w=>bnd (C A53 [.int .i64 i] w) fun r w1=>aAgg r fun x=>bnd (C L1 [.pointer c,.agg ⟨x⟩,.func (.func A71) ⟨[]⟩ ⟨[]⟩] w1) fun r_1 w2=>as2 r_1 fun r_2 r_3=>aAgg r_2 fun x_1=>aInt .i64 r_3 fun x_2=>ck (List.length x_1=16) (pAgg ⟨b,0,none⟩ x_1 w2 fun w3=>gAgg ⟨b,0,none⟩ 16 w3 fun x_3=>some (.tuple ⟨[.agg ⟨x_3⟩,.int .i64 x_2]⟩,w3)):=by kernel_rfl
def Dm1:Cuts:={ globs:=0,loops:=[(3,[0,3,4])],regs:=[],plans:=[] }
def Ed5:List Item:=A9 Tryz.f73
def Bs0:List Item:=stk [0,1,0,1,0,0,1,4,5] Ed5
theorem Hq0 (C:A6) (R:A8) (b:ByteArray) (h:H) :
 B0 PR Dm1 C R Af2 Tryz.f73 100000 true Ed5 [(0,.string b)] h =
 R Af2 Bs0 [(0,.string b),(3,.int .i64 ((ByteArray.size b:Nat):Int)),(4,.int .i64 0)] h:=by kernel_rfl
theorem Ei3 (C:A6) (R:A8) (b:ByteArray) (n:Int) (i:Int) (h:H) :
 B0 PR Dm1 C R Af2 Tryz.f73 100000 true Bs0 [(0,.string b),(3,.int .i64 n),(4,.int .i64 i)] h =
 cond (decide (i<((ByteArray.size b:Nat):Int)))
 (ck ((0:Int)≤i∧i<((ByteArray.size b:Nat):Int)) (R Af2 Bs0 [(0,.string b),(3,.int .i64 (IntKind.wrap .i64 (n+(IntKind.wrap .i64 (((List.getD (ByteArray.data b).toList (Int.toNat i) 0).toNat:Int)))))),(4,.int .i64 (IntKind.wrap .i64 (i+1)))] h))
 (some (.int .u8 (IntKind.wrap .u8 (n)),h)):=by kernel_rfl
def Bi5:Cuts:={ globs:=0,loops:=[],regs:=[],plans:=[(3,⟨[0,1,2,3,4,5,6,7,8,9,10,11,12,13,14,15,16,17,18,19],[0,1,3,7,0,0,32,0,128,0,512,0,2048,0,8192,32767,65535,65535,262143,524287],[],[]⟩),(5,⟨[0,1,2,3,4,5,6,7,8,9,10,11],[0,1,3,7,0,0,32,127,255,255,1023,2047],[],[]⟩),(7,⟨[0,1,2,3,4,5,6,7,8,9,10,11,12,13,14,15],[0,1,3,7,0,16,48,112,0,496,1008,2047,4095,4095,16383,32767],[],[]⟩),(9,⟨[0,1,2,3,4,5,6,7,8,9,10,11,12,13,14,15],[0,1,3,7,0,16,48,112,0,496,1008,0,2048,8191,16383,32767],[],[]⟩)] }
def Db8:List Item:=A9 Tryz.f75
theorem En5 (C:A6) (R:A8) (k:Option Addr) (env:Int) (c:List Value) (h:H) :
 B0 PR Bi5 C R Ay5 Tryz.f75 100000 true Db8 [(0,.pointer k),(1,.int .i64 env),(2,.agg ⟨c⟩)] h =
 nw (.cells Az0 false c) h fun b w=>gInt .i64 (Addr.add ⟨b,0,none⟩ 0) w fun x=>cond (x==4)
 (aSome k fun p=>gPtr (Addr.add p 3) w fun x_1=>gInt .i64 (Addr.add ⟨b,0,none⟩ 1) w fun x_2=>gInt .i64 (Addr.add ⟨b,0,none⟩ 4) w fun x_3=>gInt .i64 (Addr.add ⟨b,0,none⟩ 5) w fun x_4=>gInt .i64 (Addr.add ⟨b,0,none⟩ 2) w fun x_5=>gInt .i64 (Addr.add ⟨b,0,none⟩ 3) w fun x_6=>bnd (C A02 [.pointer x_1,.int .i64 env,.int .i64 x_2,.int .i64 x_3,.int .i64 x_4,.int .i64 x_5,.int .i64 x_6] w) fun r w1=>as2 r fun r_1 r_2=>aInt .i64 r_1 fun x_7=>aInt .i64 r_2 fun x_8=>some (.tuple ⟨[.int .i64 x_7,.int .i64 x_8]⟩,w1))
 (cond (x==5)
 (aSome k fun p_1=>gPtr (Addr.add p_1 3) w fun x_9=>gInt .i64 (Addr.add ⟨b,0,none⟩ 1) w fun x_10=>bnd (C Ek5 [.pointer x_9,.int .i64 env,.int .i64 x_10] w) fun r_3 w2=>as2 r_3 fun r_4 r_5=>aInt .i64 r_4 fun x_11=>aInt .i64 r_5 fun x_12=>some (.tuple ⟨[.int .i64 x_11,.int .i64 x_12]⟩,w2))
 (cond (x==6)
 (aSome k fun p_2=>gPtr (Addr.add p_2 4) w fun x_13=>aSome k fun p_3=>gSl (Addr.add p_3 0) w fun x_14 xn _=>aSome x_14 fun p_4=>ck ((0:Int)≤env∧env<((xn:Nat):Int)) (gInt .i64 (Addr.add (B5 p_4) (Int.toNat env*1)) w fun x_15=>bnd (C Au9 [.pointer x_13,.int .i64 x_15] w) fun r_6 w3=>as2 r_6 fun r_7 r_8=>aInt .i64 r_7 fun x_16=>aInt .i64 r_8 fun x_17=>some (.tuple ⟨[.int .i64 x_16,.int .i64 x_17]⟩,w3)))
 (cond (x==7)
 (aSome k fun p_5=>gPtr (Addr.add p_5 4) w fun x_18=>aSome k fun p_6=>gSl (Addr.add p_6 0) w fun x_19 xn_1 _=>aSome x_19 fun p_7=>ck ((0:Int)≤env∧env<((xn_1:Nat):Int)) (gInt .i64 (Addr.add (B5 p_7) (Int.toNat env*1)) w fun x_20=>gInt .i64 (Addr.add ⟨b,0,none⟩ 3) w fun x_21=>bnd (C Az9 [.pointer x_18,.int .i64 x_20,.int .i64 x_21] w) fun r_9 w4=>aInt .i64 r_9 fun x_22=>some (.tuple ⟨[.int .i64 0,.int .i64 x_22]⟩,w4)))
 (cond (x==8)
 (gAgg ⟨b,0,none⟩ 7 w fun x_23=>bnd (C A42 [.pointer k,.int .i64 env,.agg ⟨x_23⟩] w) fun r_10 w5=>as2 r_10 fun r_11 r_12=>aInt .i64 r_11 fun x_24=>aInt .i64 r_12 fun x_25=>some (.tuple ⟨[.int .i64 x_24,.int .i64 x_25]⟩,w5))
 (cond (x==9)
 (gAgg ⟨b,0,none⟩ 7 w fun x_26=>bnd (C A32 [.pointer k,.int .i64 env,.agg ⟨x_26⟩] w) fun r_13 w6=>aInt .i64 r_13 fun x_27=>some (.tuple ⟨[.int .i64 0,.int .i64 x_27]⟩,w6))
 (cond (x==10)
 (aSome k fun p_8=>gInt .i64 (Addr.add p_8 7) w fun x_28=>some (.tuple ⟨[.int .i64 x_28,.int .i64 0]⟩,w))
 (some (.tuple ⟨[.int .i64 0,.int .i64 7]⟩,w)))))))):=by kernel_rfl
def Ef2:Cuts:={ globs:=0,loops:=[],regs:=[],plans:=[] }
def Gh5:List Item:=A9 Tryz.f87
theorem Hw2 (C:A6) (R:A8) (n:Int) (h:H) :
 B0 PR Ef2 C R A92 Tryz.f87 100000 true Gh5 [(0,.int .i64 n)] h =
 nw (.cells A7 false [.int .u8 (IntKind.wrap .u8 (Int.fdiv n (2 ^ 8))),.int .u8 (IntKind.wrap .u8 (n))]) h fun b w=>gCells (some ⟨b,0,none⟩) 2 w fun cs=>asBytes cs fun l=>some (.string (ByteArray.mk ⟨l⟩),w):=by kernel_rfl
def Ad9:Cuts:={ globs:=0,loops:=[],regs:=[(8,[6,8,11,12])],plans:=[(7,⟨[0,1,2,3,4,5,6,7,8,9],[0,1,3,7,0,31,63,31,159,511],[(7,[5])],[]⟩)] }
def Ap6:List Item:=A9 Tryz.f89
def Aj4:List Item:=stk [0,1,0,1,0,1,0,1,0,1,0,1,0,0] Ap6
theorem Dm0 (C:A6) (R:A8) (c:Option Addr) (r:List Value) (decode:Value) (h:H) :
 B0 PR Ad9 C R J8 Tryz.f89 100000 true Ap6 [(0,.pointer c),(1,.agg ⟨r⟩),(2,decode)] h =
 nw (.cells D9 false r) h fun b w=>nw (.cells D5 false [.int .i64 0,.int .i64 0,.int .i64 0,.int .i64 0]) w fun b_1 w1=>nw (.cells D5 false [.int .i64 0,.int .i64 0,.int .i64 0,.int .i64 0]) w1 fun b_2 w2=>gAgg ⟨b,0,none⟩ 2 w2 fun x=>bnd (C O3 [.pointer c,.agg ⟨x⟩] w2) fun r_1 w3=>as2 r_1 fun r_2 r_3=>aSl r_2 fun x_1 xn xc=>aBool r_3 fun x_2=>cond (!x_2)
 (gAgg ⟨b_2,0,none⟩ 4 w3 fun x_3=>ck (List.length x_3=4) (pAgg ⟨b_1,0,none⟩ x_3 w3 fun w4=>gAgg ⟨b_1,0,none⟩ 4 w4 fun x_4=>some (.tuple ⟨[.agg ⟨x_4⟩,.int .i64 2]⟩,w4)))
 (aFn decode fun g fi cp=>bnd (C g (fi++([.slice x_1 xn xc]++cp)) w3) fun r_4 w5=>as2 r_4 fun r_5 r_6=>aAgg r_5 fun x_5=>aInt .i64 r_6 fun x_6=>nw (.cells D5 false [.int .i64 0,.int .i64 0,.int .i64 0,.int .i64 0]) w5 fun b_3 w6=>ck (List.length x_5=4) (pAgg ⟨b_3,0,none⟩ x_5 w6 fun w7=>cond (x_6==2)
 (aSome c fun p=>gMap (Addr.add p 3) w7 fun x_7=>gAgg ⟨b,0,none⟩ 2 w7 fun x_8=>keyN PR D9 (.agg ⟨x_8⟩) (opt x_7 fun r_7=>mapAt w7 r_7 fun es _=>opt (Al6 (.int .i64 0) (.agg ⟨x_8⟩) es) fun f=>aInt .i64 f.1 fun x_9=>keyN PR D9 (.agg ⟨x_8⟩) (opt x_7 fun r_8=>mapAt w7 r_8 fun es_1 cl_1=>opt (D17 (.int .i64 0) (.agg ⟨x_8⟩) es_1 cl_1) fun f_1=>aInt .i64 f_1.1 fun _=>lt (H.set w7 r_8 f_1.2.2) fun w8=>keyN PR D9 (.agg ⟨x_8⟩) (opt x_7 fun r_9=>mapAt w8 r_9 fun es_2 _=>opt (Al6 (.int .i64 0) (.agg ⟨x_8⟩) es_2) fun f_2=>aInt .i64 f_2.1 fun x_11=>same (.int .i64 x_9) (.int .i64 x_11) (opt x_7 fun r_10=>mapAt w8 r_10 fun es_3 cl_3=>opt (Bk6 (f_1.2.1:Int) es_3 0) fun i=>lt (H.set w8 r_10 (.map (modN (fun e=>{ e with val:=.int .i64 (IntKind.wrap .i64 (x_9+1)) }) i es_3) cl_3)) fun w9=>R J8 Aj4 [(6,.pointer (some ⟨b_1,0,none⟩)),(8,.pointer (some ⟨b_2,0,none⟩)),(11,.pointer (some ⟨b_3,0,none⟩)),(12,.int .i64 x_6)] w9)))))
 (R J8 Aj4 [(6,.pointer (some ⟨b_1,0,none⟩)),(8,.pointer (some ⟨b_2,0,none⟩)),(11,.pointer (some ⟨b_3,0,none⟩)),(12,.int .i64 x_6)] w7))):=by kernel_rfl
theorem A54 (C:A6) (R:A8) (x6:Addr) (nonev:Addr) (v:Addr) (isv:Int) (h:H) :
 B0 PR Ad9 C R J8 Tryz.f89 100000 true Aj4 [(6,.pointer (some x6)),(8,.pointer (some nonev)),(11,.pointer (some v)),(12,.int .i64 isv)] h =
 cond (isv != 1)
 (gAgg nonev 4 h fun x=>ck (List.length x=4) (pAgg x6 x h fun w=>gAgg x6 4 w fun x_1=>some (.tuple ⟨[.agg ⟨x_1⟩,.int .i64 isv]⟩,w)))
 (gAgg v 4 h fun x_2=>ck (List.length x_2=4) (pAgg x6 x_2 h fun w1=>gAgg x6 4 w1 fun x_3=>some (.tuple ⟨[.agg ⟨x_3⟩,.int .i64 isv]⟩,w1))):=by kernel_rfl
def B50:Cuts:={ globs:=0,loops:=[],regs:=[],plans:=[] }
def D78:List Item:=A9 Tryz.f91
theorem Gj9 (C:A6) (R:A8) (b:Option Addr) (bn bc:Nat) (h:H) :
 B0 PR B50 C R A57 Tryz.f91 100000 true D78 [(0,.slice b bn bc)] h =
 nw (.cells D5 false [.int .i64 0,.int .i64 0,.int .i64 0,.int .i64 0]) h fun b_1 w=>bnd (cond (((bn:Nat):Int)==8) (bnd (C Am1 [.slice b bn bc] w) fun r w1=>aBool r fun x=>some (x,w1)) (some (false,w))) fun c w2=>cond c
 (pAgg ⟨b_1,0,none⟩ [.int .i64 0,.int .i64 0,.int .i64 0,.int .i64 0] w2 fun w3=>gAgg ⟨b_1,0,none⟩ 4 w3 fun x_1=>some (.tuple ⟨[.agg ⟨x_1⟩,.int .i64 0]⟩,w3))
 (bnd (C Bb5 [] w2) fun r_1 w4=>aPtr r_1 fun x_2=>bnd (C W1 [.pointer x_2,.slice b bn bc] w4) fun r_2 w5=>as2 r_2 fun r_3 r_4=>aAgg r_3 fun x_3=>aBool r_4 fun x_4=>nw (.cells D5 false [.int .i64 0,.int .i64 0,.int .i64 0,.int .i64 0]) w5 fun b_2 w6=>ck (List.length x_3=4) (pAgg ⟨b_2,0,none⟩ x_3 w6 fun w7=>cond (!x_4)
 (pAgg ⟨b_1,0,none⟩ [.int .i64 0,.int .i64 0,.int .i64 0,.int .i64 0] w7 fun w8=>gAgg ⟨b_1,0,none⟩ 4 w8 fun x_5=>some (.tuple ⟨[.agg ⟨x_5⟩,.int .i64 2]⟩,w8))
 (gAgg ⟨b_2,0,none⟩ 4 w7 fun x_6=>ck (List.length x_6=4) (pAgg ⟨b_1,0,none⟩ x_6 w7 fun w9=>gAgg ⟨b_1,0,none⟩ 4 w9 fun x_7=>some (.tuple ⟨[.agg ⟨x_7⟩,.int .i64 1]⟩,w9))))):=by kernel_rfl
def B86:Cuts:={ globs:=0,loops:=[],regs:=[],plans:=[] }
def D46:List Item:=A9 Tryz.f93
theorem Gl2 (C:A6) (R:A8) (i:Int) (h:H) :
 B0 PR B86 C R As7 Tryz.f93 100000 true D46 [(0,.int .i64 i)] h =
 nw (.cells D9 false [.int .i64 0,.int .i64 0]) h fun b w=>pAgg ⟨b,0,none⟩ [.int .i64 3,.int .i64 i] w fun w1=>gAgg ⟨b,0,none⟩ 2 w1 fun x=>some (.agg ⟨x⟩,w1):=by kernel_rfl
def B82:Cuts:={ globs:=0,loops:=[],regs:=[],plans:=[(1,⟨[1,0,2,3,4,5,6],[0,0,3,7,7,31,63],[(0,[1])],[]⟩)] }
def D56:List Item:=A9 Tryz.f98
theorem Gn3 (C:A6) (R:A8) (p:List Value) (h:H) :
 B0 PR B82 C R A60 Tryz.f98 100000 true D56 [(0,.agg ⟨p⟩)] h =
 nw (.cells D3 false p) h fun b w=>gAgg ⟨b,0,none⟩ 16 w fun x=>bnd (C Bb2 [] w) fun r w1=>aPtr r fun x_1=>gAgg ⟨b,0,none⟩ 16 w1 fun x_2=>same (.agg ⟨x⟩) (.agg ⟨x_2⟩) (bnd (C V9 [.pointer x_1,.agg ⟨x⟩] w1) fun r_1 w2=>as2 r_1 fun r_2 r_3=>aSl r_2 fun x_3 xn xc=>aBool r_3 fun x_4=>some (.tuple ⟨[.slice x_3 xn xc,.bool x_4]⟩,w2)):=by kernel_rfl
def Am8:Cuts:={ globs:=0,loops:=[],regs:=[],plans:=[] }
def Bc0:List Item:=A9 Tryz.f107
theorem De4 (C:A6) (R:A8) (c:Option Addr) (i:Int) (h:H) :
 B0 PR Am8 C R Ab9 Tryz.f107 100000 true Bc0 [(0,.pointer c),(1,.int .i64 i)] h =
 bnd (C As3 [.int .i64 i] h) fun r w=>aAgg r fun x=>bnd (C Z1 [.pointer c,.agg ⟨x⟩] w) fun r_1 w1=>aBool r_1 fun x_1=>some (.bool x_1,w1):=by kernel_rfl
def Al9:Cuts:={ globs:=0,loops:=[],regs:=[],plans:=[] }
def Bb4:List Item:=A9 Tryz.f108
theorem Df5 (C:A6) (R:A8) (c:Option Addr) (i:Int) (h:H) :
 B0 PR Al9 C R Ac3 Tryz.f108 100000 true Bb4 [(0,.pointer c),(1,.int .i64 i)] h =
 bnd (C As7 [.int .i64 i] h) fun r w=>aAgg r fun x=>bnd (C Z1 [.pointer c,.agg ⟨x⟩] w) fun r_1 w1=>aBool r_1 fun x_1=>some (.bool x_1,w1):=by kernel_rfl
def A08:Cuts:={ globs:=0,loops:=[],regs:=[],plans:=[] }
def Bq5:List Item:=A9 Tryz.f109
theorem Dz7 (C:A6) (R:A8) (c:Option Addr) (kind:Int) (h:H) :
 B0 PR A08 C R Ab7 Tryz.f109 100000 true Bq5 [(0,.pointer c),(1,.int .i64 kind)] h =
 cond (kind==1)
 (some (.int .i64 8,h))
 (cond (kind==2)
 (some (.int .i64 12,h))
 (cond (kind==3)
 (aSome c fun p=>gSl (Addr.add p 2) h fun _ xn _=>some (.int .i64 (IntKind.wrap .i64 ((IntKind.wrap .i64 (4+((xn:Nat):Int)))-1)),h))
 (some (.int .i64 1,h)))):=by kernel_rfl
def B78:Cuts:={ globs:=0,loops:=[],regs:=[],plans:=[] }
def D55:List Item:=A9 Tryz.f111
theorem Gj2 (C:A6) (R:A8) (b:Option Addr) (bn bc:Nat) (h:H) :
 B0 PR B78 C R A71 Tryz.f111 100000 true D55 [(0,.slice b bn bc)] h =
 nw (.cells D3 false [.int .i64 0,.int .i64 0,.int .i64 0,.int .i64 0,.int .i64 0,.int .i64 0,.int .i64 0,.int .i64 0,.int .i64 0,.int .i64 0,.int .i64 0,.int .i64 0,.int .i64 0,.int .i64 0,.int .i64 0,.int .i64 0]) h fun b_1 w=>bnd (cond (((bn:Nat):Int)==24) (bnd (C Am1 [.slice b bn bc] w) fun r w1=>aBool r fun x=>some (x,w1)) (some (false,w))) fun c w2=>cond c
 (pAgg ⟨b_1,0,none⟩ [.int .i64 0,.int .i64 0,.int .i64 0,.int .i64 0,.int .i64 0,.int .i64 0,.int .i64 0,.int .i64 0,.int .i64 0,.int .i64 0,.int .i64 0,.int .i64 0,.int .i64 0,.int .i64 0,.int .i64 0,.int .i64 0] w2 fun w3=>gAgg ⟨b_1,0,none⟩ 16 w3 fun x_1=>some (.tuple ⟨[.agg ⟨x_1⟩,.int .i64 0]⟩,w3))
 (bnd (C Bb2 [] w2) fun r_1 w4=>aPtr r_1 fun x_2=>bnd (C W0 [.pointer x_2,.slice b bn bc] w4) fun r_2 w5=>as2 r_2 fun r_3 r_4=>aAgg r_3 fun x_3=>aBool r_4 fun x_4=>nw (.cells D3 false [.int .i64 0,.int .i64 0,.int .i64 0,.int .i64 0,.int .i64 0,.int .i64 0,.int .i64 0,.int .i64 0,.int .i64 0,.int .i64 0,.int .i64 0,.int .i64 0,.int .i64 0,.int .i64 0,.int .i64 0,.int .i64 0]) w5 fun b_2 w6=>ck (List.length x_3=16) (pAgg ⟨b_2,0,none⟩ x_3 w6 fun w7=>cond (!x_4)
 (pAgg ⟨b_1,0,none⟩ [.int .i64 0,.int .i64 0,.int .i64 0,.int .i64 0,.int .i64 0,.int .i64 0,.int .i64 0,.int .i64 0,.int .i64 0,.int .i64 0,.int .i64 0,.int .i64 0,.int .i64 0,.int .i64 0,.int .i64 0,.int .i64 0] w7 fun w8=>gAgg ⟨b_1,0,none⟩ 16 w8 fun x_5=>some (.tuple ⟨[.agg ⟨x_5⟩,.int .i64 2]⟩,w8))
 (gAgg ⟨b_2,0,none⟩ 16 w7 fun x_6=>ck (List.length x_6=16) (pAgg ⟨b_1,0,none⟩ x_6 w7 fun w9=>gAgg ⟨b_1,0,none⟩ 16 w9 fun x_7=>some (.tuple ⟨[.agg ⟨x_7⟩,.int .i64 1]⟩,w9))))):=by kernel_rfl
def Dg1:Cuts:={ globs:=0,loops:=[],regs:=[],plans:=[] }
def Ei5:List Item:=A9 Tryz.f119
theorem Gu6 (C:A6) (R:A8) (n:Int) (h:H) :
 B0 PR Dg1 C R Bd0 Tryz.f119 100000 true Ei5 [(0,.int .i64 n)] h =
 some (.int .i64 (mm2 false (mm2 true n 0) 64),h):=by kernel_rfl
def A89:Cuts:={ globs:=0,loops:=[],regs:=[],plans:=[] }
def Bx9:List Item:=A9 Tryz.f126
theorem Eb9 (C:A6) (R:A8) (r:Option Addr) (lo:Int) (n:Int) (h:H) :
 B0 PR A89 C R Ap0 Tryz.f126 100000 true Bx9 [(0,.pointer r),(1,.int .i64 lo),(2,.int .i64 n)] h =
 bnd (cond (decide (lo<0)) (some (true,h)) (some (decide (n<0),h))) fun c w=>bnd (cond c (some (true,w)) (aSome r fun p=>gPtr (Addr.add p 0) w fun x=>bnd (C A68 [.pointer x] w) fun r_1 w1=>aInt .i64 r_1 fun x_1=>some (decide (lo>x_1),w1))) fun c_1 w2=>bnd (cond c_1 (some (true,w2)) (aSome r fun p_1=>gPtr (Addr.add p_1 0) w2 fun x_2=>bnd (C A68 [.pointer x_2] w2) fun r_2 w3=>aInt .i64 r_2 fun x_3=>some (decide (n>(IntKind.wrap .i64 (x_3-lo))),w3))) fun c_2 w4=>cond c_2
 (some (.tuple ⟨[.int .i64 0,.int .i64 1]⟩,w4))
 (aSome r fun p_2=>gSl (Addr.add p_2 2) w4 fun _ xn _=>cond (decide (((xn:Nat):Int)≥32))
 (some (.tuple ⟨[.int .i64 0,.int .i64 4]⟩,w4))
 (aSome r fun p_3=>gSl (Addr.add p_3 2) w4 fun x_5 xn_1 xc_1=>nw (.cells Aw8 false [.int .i64 lo,.int .i64 n]) w4 fun b w5=>gCells (some ⟨b,0,none⟩) (1*2) w5 fun cs=>ckB (fitsOpen x_5 Aw8 w5) (apd Aw8 2 x_5 xn_1 xc_1 1 cs w5 fun a an ac w6=>aSome r fun p_4=>pV (Addr.add p_4 2) (.slice a an ac) w6 fun w7=>aSome r fun p_5=>gSl (Addr.add p_5 2) w7 fun _ xn_2 _=>some (.tuple ⟨[.int .i64 (IntKind.wrap .i64 (((xn_2:Nat):Int)-1)),.int .i64 0]⟩,w7)))):=by kernel_rfl
def Bf2:Cuts:={ globs:=0,loops:=[(3,[0,3,4])],regs:=[],plans:=[(5,⟨[0,1,2,3,4,5,6,7,8,9,10],[0,0,2,6,14,0,32,126,255,511,1023],[(5,[4])],[]⟩),(6,⟨[0,1,2,3,4,5,6,7,8,9,10],[0,0,2,6,14,0,32,126,255,511,1023],[],[]⟩)] }
def B05:List Item:=A9 Tryz.f131
def Az4:List Item:=stk [0,1,0,1,0,0,1,4,5] B05
theorem Gh6 (C:A6) (R:A8) (envs:Int) (h:H) :
 B0 PR Bf2 C R Aa3 Tryz.f131 100000 true B05 [(0,.int .i64 envs)] h =
 nw (.cells Eq6 false [.slice none 0 0,.slice none 0 0]) h fun b w=>R Aa3 Az4 [(0,.int .i64 envs),(3,.pointer (some ⟨b,0,none⟩)),(4,.int .i64 0)] w:=by kernel_rfl
theorem Dc4 (C:A6) (R:A8) (envs:Int) (s:Addr) (i:Int) (h:H) :
 B0 PR Bf2 C R Aa3 Tryz.f131 100000 true Az4 [(0,.int .i64 envs),(3,.pointer (some s)),(4,.int .i64 i)] h =
 bnd (cond (decide (i<envs)) (some (decide (i<40),h)) (some (false,h))) fun c w=>cond c
 (gSl (Addr.add s 0) w fun x xn xc=>bnd (C Aa2 [.int .i64 32] w) fun r w1=>aPtr r fun x_1=>gSl (Addr.add s 0) w1 fun x_2 xn_1 xc_1=>same (.slice x xn xc) (.slice x_2 xn_1 xc_1) (nw (.cells A56 false [.pointer x_1]) w1 fun b w2=>gCells (some ⟨b,0,none⟩) (1*1) w2 fun cs=>ckB (fitsOpen x A56 w2) (apd A56 1 x xn xc 1 cs w2 fun a an ac w3=>pV (Addr.add s 0) (.slice a an ac) w3 fun w4=>gSl (Addr.add s 1) w4 fun x_3 xn_2 xc_2=>ck ((0:Int)≤32∧(32:Int)≤32∧32≤(B4:Int)) (nw (.cells P6 false (H4 (Int.toNat 32) [.int .i64 0,.int .i64 0,.int .i64 0,.int .i64 0,.int .i64 0,.int .i64 0])) w4 fun b_1 w5=>nw (.cells Bo8 false [.slice (some ⟨b_1,0,none⟩) (Int.toNat 32) (Int.toNat 32)]) w5 fun b_2 w6=>gCells (some ⟨b_2,0,none⟩) (1*1) w6 fun cs_1=>ckB (fitsOpen x_3 Bo8 w6) (apd Bo8 1 x_3 xn_2 xc_2 1 cs_1 w6 fun a_1 an_1 ac_1 w7=>pV (Addr.add s 1) (.slice a_1 an_1 ac_1) w7 fun w8=>R Aa3 Az4 [(0,.int .i64 envs),(3,.pointer (some s)),(4,.int .i64 (IntKind.wrap .i64 (i+1)))] w8)))))
 (some (.pointer (some s),w)):=by kernel_rfl
def B80:Cuts:={ globs:=0,loops:=[],regs:=[],plans:=[] }
def D45:List Item:=A9 Tryz.f132
theorem Go6 (C:A6) (R:A8) (lease:Int) (h:H) :
 B0 PR B80 C R Bl8 Tryz.f132 100000 true D45 [(0,.int .i64 lease)] h =
 nw (.cells E43 false [.int .i64 (mm2 false (mm2 true lease 1) 1000),.int .i64 0,.int .i64 0,.int .i64 0,.int .i64 0,.int .i64 0,.bool false,.int .i64 0,.slice none 0 0]) h fun b w=>some (.pointer (some ⟨b,0,none⟩),w):=by kernel_rfl
def Bu9:Cuts:={ globs:=0,loops:=[],regs:=[],plans:=[] }
def Dr0:List Item:=A9 Tryz.f138
theorem E44 (C:A6) (R:A8) (s:Option Addr) (e:Int) (h:H) :
 B0 PR Bu9 C R A85 Tryz.f138 100000 true Dr0 [(0,.pointer s),(1,.int .i64 e)] h =
 bnd (C Ai5 [.pointer s,.int .i64 e] h) fun r w=>aBool r fun x=>cond (!x)
 (some (.slice none 0 0,w))
 (aSome s fun p=>gSl (Addr.add p 0) w fun x_1 xn _=>aSome x_1 fun p_1=>ck ((0:Int)≤e∧e<((xn:Nat):Int)) (gPtr (Addr.add (B5 p_1) (Int.toNat e*1)) w fun x_2=>bnd (C S4 [.pointer x_2] w) fun r_1 w1=>aSl r_1 fun x_3 xn_1 xc_1=>some (.slice x_3 xn_1 xc_1,w1))):=by kernel_rfl
def A05:Cuts:={ globs:=0,loops:=[],regs:=[],plans:=[] }
def Bo9:List Item:=A9 Tryz.f140
theorem D07 (C:A6) (R:A8) (r:Option Addr) (env:Int) (name:Int) (atv:Int) (b:Option Addr) (bn bc:Nat) (h:H) :
 B0 PR A05 C R Ab3 Tryz.f140 100000 true Bo9 [(0,.pointer r),(1,.int .i64 env),(2,.int .i64 name),(3,.int .i64 atv),(4,.slice b bn bc)] h =
 bnd (C Ab8 [.pointer r,.int .i64 env,.int .i64 name,.int .i64 2,.int .i64 atv,.int .i64 ((bn:Nat):Int)] h) fun r_1 w=>as2 r_1 fun r_2 r_3=>aInt .i64 r_2 fun x=>aInt .i64 r_3 fun x_1=>cond (x_1 != 0)
 (some (.int .i64 x_1,w))
 (aSome r fun p=>gPtr (Addr.add p 0) w fun x_2=>bnd (C Bf5 [.pointer x_2,.int .i64 x,.slice b bn bc] w) fun r_4 w1=>aInt .i64 r_4 fun x_3=>some (.int .i64 x_3,w1)):=by kernel_rfl
def Be5:Cuts:={ globs:=0,loops:=[],regs:=[],plans:=[] }
def B48:List Item:=A9 Tryz.f144
theorem Ek6 (C:A6) (R:A8) (q:Option Addr) (s:Int) (h:H) :
 B0 PR Be5 C R Au9 Tryz.f144 100000 true B48 [(0,.pointer q),(1,.int .i64 s)] h =
 bnd (C Ai7 [.pointer q,.int .i64 s] h) fun r w=>aBool r fun x=>cond (!x)
 (some (.tuple ⟨[.int .i64 0,.int .i64 1]⟩,w))
 (aSome q fun p=>gSl (Addr.add p 0) w fun x_1 xn _=>aSome x_1 fun p_1=>ck ((0:Int)≤s∧s<((xn:Nat):Int)) (gSl (Addr.add (B5 p_1) (Int.toNat s*1)) w fun x_2 xn_1 xc_1=>bnd (C H6 [.slice x_2 xn_1 xc_1,.int .i64 0] w) fun r_1 w1=>aInt .i64 r_1 fun x_3=>cond (decide (x_3<0))
 (some (.tuple ⟨[.int .i64 0,.int .i64 4]⟩,w1))
 (aSome q fun p_2=>gSl (Addr.add p_2 0) w1 fun x_4 xn_2 _=>aSome x_4 fun p_3=>ck ((0:Int)≤s∧s<((xn_2:Nat):Int)) (gSl (Addr.add (B5 p_3) (Int.toNat s*1)) w1 fun x_5 xn_3 _=>aSome x_5 fun p_4=>ck ((0:Int)≤x_3∧x_3<((xn_3:Nat):Int)) (pV (Addr.add (B5 p_4) (Int.toNat x_3*1)) (.int .i64 1) w1 fun w2=>some (.tuple ⟨[.int .i64 x_3,.int .i64 0]⟩,w2)))))):=by kernel_rfl
def Bn7:Cuts:={ globs:=0,loops:=[],regs:=[],plans:=[] }
def Dh4:List Item:=A9 Tryz.f147
theorem E03 (C:A6) (R:A8) (k:Option Addr) (env:Int) (c:List Value) (h:H) :
 B0 PR Bn7 C R A32 Tryz.f147 100000 true Dh4 [(0,.pointer k),(1,.int .i64 env),(2,.agg ⟨c⟩)] h =
 nw (.cells Az0 false c) h fun b w=>gInt .i64 (Addr.add ⟨b,0,none⟩ 3) w fun x=>bnd (C At2 [.pointer k,.int .i64 env,.int .i64 x] w) fun r w1=>as2 r fun r_1 r_2=>aPtr r_1 fun x_1=>aInt .i64 r_2 fun x_2=>bnd (cond (x_2==0) (gInt .i64 (Addr.add ⟨b,0,none⟩ 2) w1 fun x_3=>bnd (C A39 [.pointer x_1,.int .i64 env,.int .i64 x_3] w1) fun r_3 w2=>aBool r_3 fun x_4=>some (!x_4,w2)) (some (false,w1))) fun c_1 w3=>cond c_1
 (some (.int .i64 8,w3))
 (some (.int .i64 x_2,w3)):=by kernel_rfl
def Dr2:Cuts:={ globs:=0,loops:=[],regs:=[],plans:=[] }
def Eq7:List Item:=A9 Tryz.f163
theorem G97 (C:A6) (R:A8)  (h:H) :
 B0 PR Dr2 C R Bj5 Tryz.f163 100000 true Eq7 [] h =
 bnd (C An6 [.int .i64 40,.func (.func Bk3) ⟨[]⟩ ⟨[]⟩,.func (.func Bk7) ⟨[]⟩ ⟨[]⟩] h) fun r w=>aPtr r fun x=>some (.pointer x,w):=by kernel_rfl
def Ah3:Cuts:={ globs:=0,loops:=[],regs:=[],plans:=[(2,⟨[0,1,2,3,4,5,6,7,8,9,10,11,12,13,14],[0,1,3,7,15,31,63,127,255,511,63,63,4095,8191,16383],[],[]⟩)] }
def A25:List Item:=A9 Tryz.f165
theorem B36 (C:A6) (R:A8) (c:Option Addr) (v:List Value) (h:H) :
 B0 PR Ah3 C R V8 Tryz.f165 100000 true A25 [(0,.pointer c),(1,.agg ⟨v⟩)] h =
 nw (.cells D1 false v) h fun b w=>aSome c fun p=>gInt .i64 (Addr.add p 0) w fun x=>ck ((0:Int)≤x∧(x:Int)≤x∧x≤(B4:Int)) (nw (.cells A7 false (H4 (Int.toNat x) [.int .u8 0])) w fun b_1 w1=>aSome c fun p_1=>gFv (Addr.add p_1 1) w1 fun x_1=>isNilF x_1 fun b_2=>bnd (cond b_2 (some (true,w1)) (aSome c fun p_2=>gFv (Addr.add p_2 1) w1 fun x_2=>gAgg ⟨b,0,none⟩ 36 w1 fun x_3=>aFn x_2 fun g fi cp=>bnd (C g (fi++([.agg ⟨x_3⟩,.slice (some ⟨b_1,0,none⟩) (Int.toNat x) (Int.toNat x)]++cp)) w1) fun r w2=>aBool r fun x_4=>some (!x_4,w2))) fun c_1 w3=>cond c_1
 (some (.tuple ⟨[.slice none 0 0,.bool false]⟩,w3))
 (some (.tuple ⟨[.slice (some ⟨b_1,0,none⟩) (Int.toNat x) (Int.toNat x),.bool true]⟩,w3))):=by kernel_rfl
def Ah1:Cuts:={ globs:=0,loops:=[],regs:=[],plans:=[(2,⟨[0,1,2,3,4,5,6,7,8,9,10,11,12,13,14],[0,1,3,7,15,31,63,127,255,511,63,63,4095,8191,16383],[],[]⟩)] }
def A23:List Item:=A9 Tryz.f167
theorem B38 (C:A6) (R:A8) (c:Option Addr) (v:List Value) (h:H) :
 B0 PR Ah1 C R W2 Tryz.f167 100000 true A23 [(0,.pointer c),(1,.agg ⟨v⟩)] h =
 nw (.cells D5 false v) h fun b w=>aSome c fun p=>gInt .i64 (Addr.add p 0) w fun x=>ck ((0:Int)≤x∧(x:Int)≤x∧x≤(B4:Int)) (nw (.cells A7 false (H4 (Int.toNat x) [.int .u8 0])) w fun b_1 w1=>aSome c fun p_1=>gFv (Addr.add p_1 1) w1 fun x_1=>isNilF x_1 fun b_2=>bnd (cond b_2 (some (true,w1)) (aSome c fun p_2=>gFv (Addr.add p_2 1) w1 fun x_2=>gAgg ⟨b,0,none⟩ 4 w1 fun x_3=>aFn x_2 fun g fi cp=>bnd (C g (fi++([.agg ⟨x_3⟩,.slice (some ⟨b_1,0,none⟩) (Int.toNat x) (Int.toNat x)]++cp)) w1) fun r w2=>aBool r fun x_4=>some (!x_4,w2))) fun c_1 w3=>cond c_1
 (some (.tuple ⟨[.slice none 0 0,.bool false]⟩,w3))
 (some (.tuple ⟨[.slice (some ⟨b_1,0,none⟩) (Int.toNat x) (Int.toNat x),.bool true]⟩,w3))):=by kernel_rfl
def D33:Cuts:={ globs:=0,loops:=[],regs:=[],plans:=[] }
def E35:List Item:=A9 Tryz.f171
theorem He0 (C:A6) (R:A8) (n:Int) (B4:Int) (h:H) :
 B0 PR D33 C R As2 Tryz.f171 100000 true E35 [(0,.int .i64 n),(1,.int .i64 B4)] h =
 bnd (cond (decide (n≥0)) (some (decide (n≤B4),h)) (some (false,h))) fun c w=>some (.bool c,w):=by kernel_rfl
def Ah5:Cuts:={ globs:=0,loops:=[],regs:=[],plans:=[(4,⟨[0,1,2,3,4,10,5,6,7,8,9,11,12],[0,1,3,7,0,16,63,127,255,255,0,1535,4095],[(5,[3])],[]⟩)] }
def A26:List Item:=A9 Tryz.f173
theorem B43 (C:A6) (R:A8) (c:Option Addr) (b:Option Addr) (bn bc:Nat) (h:H) :
 B0 PR Ah5 C R W0 Tryz.f173 100000 true A26 [(0,.pointer c),(1,.slice b bn bc)] h =
 nw (.cells D3 false [.int .i64 0,.int .i64 0,.int .i64 0,.int .i64 0,.int .i64 0,.int .i64 0,.int .i64 0,.int .i64 0,.int .i64 0,.int .i64 0,.int .i64 0,.int .i64 0,.int .i64 0,.int .i64 0,.int .i64 0,.int .i64 0]) h fun b_1 w=>nw (.cells D3 false [.int .i64 0,.int .i64 0,.int .i64 0,.int .i64 0,.int .i64 0,.int .i64 0,.int .i64 0,.int .i64 0,.int .i64 0,.int .i64 0,.int .i64 0,.int .i64 0,.int .i64 0,.int .i64 0,.int .i64 0,.int .i64 0]) w fun b_2 w1=>aSome c fun p=>gFv (Addr.add p 2) w1 fun x=>isNilF x fun b_3=>bnd (cond b_3 (some (true,w1)) (aSome c fun p_1=>gInt .i64 (Addr.add p_1 0) w1 fun x_1=>some (((bn:Nat):Int) != x_1,w1))) fun c_1 w2=>cond c_1
 (gAgg ⟨b_2,0,none⟩ 16 w2 fun x_2=>ck (List.length x_2=16) (pAgg ⟨b_1,0,none⟩ x_2 w2 fun w3=>gAgg ⟨b_1,0,none⟩ 16 w3 fun x_3=>some (.tuple ⟨[.agg ⟨x_3⟩,.bool false]⟩,w3)))
 (aSome c fun p_2=>gFv (Addr.add p_2 2) w2 fun x_4=>nw (.cells D3 false [.int .i64 0,.int .i64 0,.int .i64 0,.int .i64 0,.int .i64 0,.int .i64 0,.int .i64 0,.int .i64 0,.int .i64 0,.int .i64 0,.int .i64 0,.int .i64 0,.int .i64 0,.int .i64 0,.int .i64 0,.int .i64 0]) w2 fun b_4 w4=>bnd (C G7 [.slice b bn bc] w4) fun r w5=>aSl r fun x_5 xn xc=>gFv (Addr.add p_2 2) w5 fun x_6=>Bk5 (x_4) (x_6) (aFn x_4 fun g fi cp=>bnd (C g (fi++([.slice x_5 xn xc]++cp)) w5) fun r_1 w6=>as2 r_1 fun r_2 r_3=>aAgg r_2 fun x_7=>aBool r_3 fun x_8=>ck (List.length x_7=16) (pAgg ⟨b_4,0,none⟩ x_7 w6 fun w7=>cond (!x_8)
 (gAgg ⟨b_2,0,none⟩ 16 w7 fun x_9=>ck (List.length x_9=16) (pAgg ⟨b_1,0,none⟩ x_9 w7 fun w8=>gAgg ⟨b_1,0,none⟩ 16 w8 fun x_10=>some (.tuple ⟨[.agg ⟨x_10⟩,.bool false]⟩,w8)))
 (gAgg ⟨b_4,0,none⟩ 16 w7 fun x_11=>ck (List.length x_11=16) (pAgg ⟨b_1,0,none⟩ x_11 w7 fun w9=>gAgg ⟨b_1,0,none⟩ 16 w9 fun x_12=>some (.tuple ⟨[.agg ⟨x_12⟩,.bool true]⟩,w9)))))):=by kernel_rfl
def B92:Cuts:={ globs:=0,loops:=[(3,[3,9,10,11])],regs:=[],plans:=[] }
def D22:List Item:=A9 Tryz.f174
def Bl6:List Item:=stk [0,1,0,1,0,0,1,4,5] D22
theorem Hf7 (C:A6) (R:A8) (b:Option Addr) (bn bc:Nat) (h:H) :
 B0 PR B92 C R Ab2 Tryz.f174 100000 true D22 [(0,.slice b bn bc)] h =
 R Ab2 Bl6 [(3,.int .u8 (IntKind.wrap .u8 (((bn:Nat):Int)))),(9,.slice b bn bc),(10,.int .i64 ((bn:Nat):Int)),(11,.int .i64 0)] h:=by kernel_rfl
theorem D66 (C:A6) (R:A8) (n:Int) (x9:Option Addr) (x9n x9c:Nat) (x10:Int) (x11:Int) (h:H) :
 B0 PR B92 C R Ab2 Tryz.f174 100000 true Bl6 [(3,.int .u8 n),(9,.slice x9 x9n x9c),(10,.int .i64 x10),(11,.int .i64 x11)] h =
 cond (decide (x11<x10))
 (aSome x9 fun p=>ck ((0:Int)≤x11∧x11<((x9n:Nat):Int)) (gInt .u8 (Addr.add (B5 p) (Int.toNat x11*1)) h fun x=>R Ab2 Bl6 [(3,.int .u8 (IntKind.wrap .u8 (n+x))),(9,.slice x9 x9n x9c),(10,.int .i64 x10),(11,.int .i64 (IntKind.wrap .i64 (x11+1)))] h))
 (some (.int .u8 n,h)):=by kernel_rfl
def Au7:Cuts:={ globs:=0,loops:=[(3,[3,15,16])],regs:=[],plans:=[] }
def Be3:List Item:=A9 Tryz.f178
def Aj8:List Item:=stk [0,1,0,1,0,0,1,4,5] Be3
theorem Ek1 (C:A6) (R:A8) (size:Int) (h:H) :
 B0 PR Au7 C R P7 Tryz.f178 100000 true Be3 [(0,.int .i64 size)] h =
 ck ((0:Int)≤mm2 false (mm2 true size 0) 256∧(mm2 false (mm2 true size 0) 256:Int)≤mm2 false (mm2 true size 0) 256∧mm2 false (mm2 true size 0) 256≤(B4:Int)) (nw (.cells Al7 false (H4 (Int.toNat (mm2 false (mm2 true size 0) 256)) [.int .i64 0,.int .i64 0,.int .i64 0,.int .i64 0,.int .i64 0,.int .i64 0,.int .i64 0,.bool false])) h fun b w=>nw (.cells Bv9 false [.slice (some ⟨b,0,none⟩) (Int.toNat (mm2 false (mm2 true size 0) 256)) (Int.toNat (mm2 false (mm2 true size 0) 256))]) w fun b_1 w1=>gSl (Addr.add ⟨b_1,0,none⟩ 0) w1 fun _ xn _=>R P7 Aj8 [(3,.pointer (some ⟨b_1,0,none⟩)),(15,.int .i64 ((xn:Nat):Int)),(16,.int .i64 0)] w1):=by kernel_rfl
theorem Bp1 (C:A6) (R:A8) (t:Addr) (x15:Int) (x16:Int) (h:H) :
 B0 PR Au7 C R P7 Tryz.f178 100000 true Aj8 [(3,.pointer (some t)),(15,.int .i64 x15),(16,.int .i64 x16)] h =
 cond (decide (x16<x15))
 (gSl (Addr.add t 0) h fun x xn _=>aSome x fun p=>ck ((0:Int)≤x16∧x16<((xn:Nat):Int)) (pV (Addr.add (Addr.add (B5 p) (Int.toNat x16*8)) 6) (.int .i64 1) h fun w=>R P7 Aj8 [(3,.pointer (some t)),(15,.int .i64 x15),(16,.int .i64 (IntKind.wrap .i64 (x16+1)))] w))
 (some (.pointer (some t),h)):=by kernel_rfl
def Bg7:Cuts:={ globs:=0,loops:=[(3,[0,3,4])],regs:=[],plans:=[] }
def B23:List Item:=A9 Tryz.f183
def A00:List Item:=stk [0,1,0,1,0,0,1,4,5] B23
theorem Gd7 (C:A6) (R:A8) (size:Int) (h:H) :
 B0 PR Bg7 C R Aa2 Tryz.f183 100000 true B23 [(0,.int .i64 size)] h =
 nw (.cells Eu6 false [.slice none 0 0]) h fun b w=>R Aa2 A00 [(0,.int .i64 size),(3,.pointer (some ⟨b,0,none⟩)),(4,.int .i64 0)] w:=by kernel_rfl
theorem Dc8 (C:A6) (R:A8) (size:Int) (n:Addr) (i:Int) (h:H) :
 B0 PR Bg7 C R Aa2 Tryz.f183 100000 true A00 [(0,.int .i64 size),(3,.pointer (some n)),(4,.int .i64 i)] h =
 bnd (cond (decide (i<size)) (some (decide (i<256),h)) (some (false,h))) fun c w=>cond c
 (gSl (Addr.add n 0) w fun x xn xc=>nw (.cells Bh7 false [.int .i64 1,.bool false]) w fun b w1=>gCells (some ⟨b,0,none⟩) (1*2) w1 fun cs=>ckB (fitsOpen x Bh7 w1) (apd Bh7 2 x xn xc 1 cs w1 fun a an ac w2=>pV (Addr.add n 0) (.slice a an ac) w2 fun w3=>R Aa2 A00 [(0,.int .i64 size),(3,.pointer (some n)),(4,.int .i64 (IntKind.wrap .i64 (i+1)))] w3))
 (some (.pointer (some n),w)):=by kernel_rfl
def Ba5:Cuts:={ globs:=0,loops:=[(3,[0,3,4])],regs:=[],plans:=[] }
def Bv3:List Item:=A9 Tryz.f185
def Ai3:List Item:=stk [0,1,0,1,0,0,1,4,5] Bv3
theorem E56 (C:A6) (R:A8) (n:Option Addr) (h:H) :
 B0 PR Ba5 C R S4 Tryz.f185 100000 true Bv3 [(0,.pointer n)] h =
 R S4 Ai3 [(0,.pointer n),(3,.slice none 0 0),(4,.int .i64 0)] h:=by kernel_rfl
theorem B47 (C:A6) (R:A8) (n:Option Addr) (out:Option Addr) (outn outc:Nat) (i:Int) (h:H) :
 B0 PR Ba5 C R S4 Tryz.f185 100000 true Ai3 [(0,.pointer n),(3,.slice out outn outc),(4,.int .i64 i)] h =
 aSome n fun p=>gSl (Addr.add p 0) h fun _ xn _=>cond (decide (i<((xn:Nat):Int)))
 (aSome n fun p_1=>gSl (Addr.add p_1 0) h fun x_1 xn_1 _=>aSome x_1 fun p_2=>ck ((0:Int)≤i∧i<((xn_1:Nat):Int)) (gBool (Addr.add (Addr.add (B5 p_2) (Int.toNat i*2)) 1) h fun x_2=>cond x_2
 (aSome n fun p_3=>gSl (Addr.add p_3 0) h fun x_3 xn_2 _=>aSome x_3 fun p_4=>ck ((0:Int)≤i∧i<((xn_2:Nat):Int)) (gInt .i64 (Addr.add (Addr.add (B5 p_4) (Int.toNat i*2)) 0) h fun x_4=>nw (.cells B7 false [.int .i64 (IntKind.wrap .i64 (i+(IntKind.wrap .i64 (256*x_4))))]) h fun b w=>gCells (some ⟨b,0,none⟩) (1*1) w fun cs=>ckB (fitsOpen out B7 w) (apd B7 1 out outn outc 1 cs w fun a an ac w1=>R S4 Ai3 [(0,.pointer n),(3,.slice a an ac),(4,.int .i64 (IntKind.wrap .i64 (i+1)))] w1)))
 (R S4 Ai3 [(0,.pointer n),(3,.slice out outn outc),(4,.int .i64 (IntKind.wrap .i64 (i+1)))] h)))
 (some (.slice out outn outc,h)):=by kernel_rfl
def Bz1:Cuts:={ globs:=0,loops:=[],regs:=[],plans:=[] }
def Dx2:List Item:=A9 Tryz.f188
theorem Gc2 (C:A6) (R:A8) (m:Option Addr) (atv:Int) (b:Option Addr) (bn bc:Nat) (h:H) :
 B0 PR Bz1 C R Bf5 Tryz.f188 100000 true Dx2 [(0,.pointer m),(1,.int .i64 atv),(2,.slice b bn bc)] h =
 bnd (C Bh4 [.pointer m,.int .i64 atv,.int .i64 ((bn:Nat):Int)] h) fun r w=>aBool r fun x=>cond (!x)
 (some (.int .i64 1,w))
 (aSome m fun p=>gSl (Addr.add p 0) w fun x_1 xn xc=>ckB (fitsOpen x_1 A7 w) (ck ((0:Int)≤atv∧atv≤((xn:Nat):Int)) (gCells b (min bn (xn-(Int.toNat atv))*1) w fun cs=>pCells (H5 x_1 (decide (Int.toNat atv<xc)) ((Int.toNat atv)*1)) cs w fun w1=>some (.int .i64 0,w1)))):=by kernel_rfl
def Bt5:Cuts:={ globs:=0,loops:=[],regs:=[],plans:=[] }
def Dr4:List Item:=A9 Tryz.f189
theorem E45 (C:A6) (R:A8) (s:Option Addr) (env:Int) (name:Int) (h:H) :
 B0 PR Bt5 C R At5 Tryz.f189 100000 true Dr4 [(0,.pointer s),(1,.int .i64 env),(2,.int .i64 name)] h =
 nw (.cells P6 false [.int .i64 0,.int .i64 0,.int .i64 0,.int .i64 0,.int .i64 0,.int .i64 0]) h fun b w=>bnd (C Af6 [.pointer s,.int .i64 env] w) fun r w1=>aBool r fun x=>cond (!x)
 (pAgg ⟨b,0,none⟩ [.int .i64 0,.int .i64 0,.int .i64 0,.int .i64 0,.int .i64 0,.int .i64 0] w1 fun w2=>gAgg ⟨b,0,none⟩ 6 w2 fun x_1=>some (.tuple ⟨[.agg ⟨x_1⟩,.int .i64 2]⟩,w2))
 (aSome s fun p=>gSl (Addr.add p 0) w1 fun x_2 xn _=>aSome x_2 fun p_1=>ck ((0:Int)≤env∧env<((xn:Nat):Int)) (gPtr (Addr.add (B5 p_1) (Int.toNat env*1)) w1 fun x_3=>bnd (C Ad7 [.pointer x_3,.int .i64 name] w1) fun r_1 w3=>as2 r_1 fun r_2 r_3=>aAgg r_2 fun x_4=>aBool r_3 fun x_5=>nw (.cells P6 false [.int .i64 0,.int .i64 0,.int .i64 0,.int .i64 0,.int .i64 0,.int .i64 0]) w3 fun b_1 w4=>ck (List.length x_4=6) (pAgg ⟨b_1,0,none⟩ x_4 w4 fun w5=>cond (!x_5)
 (pAgg ⟨b,0,none⟩ [.int .i64 0,.int .i64 0,.int .i64 0,.int .i64 0,.int .i64 0,.int .i64 0] w5 fun w6=>gAgg ⟨b,0,none⟩ 6 w6 fun x_6=>some (.tuple ⟨[.agg ⟨x_6⟩,.int .i64 2]⟩,w6))
 (gAgg ⟨b_1,0,none⟩ 6 w5 fun x_7=>ck (List.length x_7=6) (pAgg ⟨b,0,none⟩ x_7 w5 fun w7=>gAgg ⟨b,0,none⟩ 6 w7 fun x_8=>some (.tuple ⟨[.agg ⟨x_8⟩,.int .i64 0]⟩,w7)))))):=by kernel_rfl
def By1:Cuts:={ globs:=0,loops:=[],regs:=[],plans:=[] }
def Dx4:List Item:=A9 Tryz.f202
theorem Ge9 (C:A6) (R:A8) (c:Int) (h:H) :
 B0 PR By1 C R Ae9 Tryz.f202 100000 true Dx4 [(0,.int .u8 c)] h =
 some (.bool (c != 0),h):=by kernel_rfl
def Ds8:Cuts:={ globs:=0,loops:=[],regs:=[],plans:=[] }
def Em9:List Item:=A9 Tryz.f216
theorem G62 (C:A6) (R:A8) (m:Option Addr) (atv:Int) (n:Int) (h:H) :
 B0 PR Ds8 C R Bh4 Tryz.f216 100000 true Em9 [(0,.pointer m),(1,.int .i64 atv),(2,.int .i64 n)] h =
 bnd (cond (decide (atv≥0)) (some (decide (n≥0),h)) (some (false,h))) fun c w=>bnd (cond c (aSome m fun p=>gSl (Addr.add p 0) w fun _ xn _=>some (decide (atv≤((xn:Nat):Int)),w)) (some (false,w))) fun c_1 w1=>bnd (cond c_1 (aSome m fun p_1=>gSl (Addr.add p_1 0) w1 fun _ xn_1 _=>some (decide (n≤(IntKind.wrap .i64 (((xn_1:Nat):Int)-atv))),w1)) (some (false,w1))) fun c_2 w2=>some (.bool c_2,w2):=by kernel_rfl
def Bo0:Cuts:={ globs:=0,loops:=[],regs:=[],plans:=[] }
def Dg8:List Item:=A9 Tryz.f221
theorem Ez8 (C:A6) (R:A8) (s:Option Addr) (who:Int) (stamp:Int) (h:H) :
 B0 PR Bo0 C R A41 Tryz.f221 100000 true Dg8 [(0,.pointer s),(1,.int .i64 who),(2,.int .i64 stamp)] h =
 aSome s fun p=>gBool (Addr.add p 1) h fun x=>bnd (cond x (aSome s fun p_1=>gInt .i64 (Addr.add p_1 2) h fun x_1=>some (x_1==who,h)) (some (false,h))) fun c w=>bnd (cond c (aSome s fun p_2=>gInt .i64 (Addr.add p_2 3) w fun x_2=>some (x_2==stamp,w)) (some (false,w))) fun c_1 w1=>some (.bool c_1,w1):=by kernel_rfl
def Dr9:Cuts:={ globs:=0,loops:=[],regs:=[],plans:=[(3,⟨[0,1,2,3,4,5,6,7,8,9,10,11,12,13,14],[0,0,3,7,15,31,0,0,128,448,960,1984,4095,8191,16383],[],[]⟩)] }
def Es9:List Item:=A9 Tryz.f227
theorem G38 (C:A6) (R:A8) (b:Option Addr) (bn bc:Nat) (atv:Int) (h:H) :
 B0 PR Dr9 C R Bz3 Tryz.f227 100000 true Es9 [(0,.slice b bn bc),(1,.int .i64 atv)] h =
 bnd (cond (decide (atv<0)) (some (true,h)) (some (decide (atv>(IntKind.wrap .i64 (((bn:Nat):Int)-2))),h))) fun c w=>cond c
 (some (.tuple ⟨[.int .i64 0,.bool false]⟩,w))
 (aSome b fun p=>ck ((0:Int)≤atv∧atv<((bn:Nat):Int)) (gInt .u8 (Addr.add (B5 p) (Int.toNat atv*1)) w fun x=>aSome b fun p_1=>ck ((0:Int)≤IntKind.wrap .i64 (atv+1)∧IntKind.wrap .i64 (atv+1)<((bn:Nat):Int)) (gInt .u8 (Addr.add (B5 p_1) (Int.toNat (IntKind.wrap .i64 (atv+1))*1)) w fun x_1=>some (.tuple ⟨[.int .i64 (Go5 .i64 (IntKind.wrap .i64 ((IntKind.wrap .i64 (x))*2 ^ 8)) (IntKind.wrap .i64 (x_1))),.bool true]⟩,w)))):=by kernel_rfl
end
end Go.EQ

set_option maxRecDepth 100000
namespace Go.EQ
open Go Go.NN Go.Proofs
variable (C : A6) (R : A8)
noncomputable section
def De6:Cuts:={ globs:=0,loops:=[],regs:=[],plans:=[] }
def Eh7:List Item:=A9 Tryz.f12
theorem Gv1 (C:A6) (R:A8)  (h:H) :
 B0 PR De6 C R Bd1 Tryz.f12 100000 true Eh7 [] h =
 bnd (C Bb9 [] h) fun r w=>aSl r fun x xn xc=>bnd (C Af1 [.slice x xn xc] w) fun r_1 w1=>as4 r_1 fun r_2 r_3 r_4 r_5=>aPtr r_2 fun _=>aPtr r_3 fun x_2=>aPtr r_4 fun _=>aPtr r_5 fun _=>cond x_2.isNone
 (some (.bool false,w1))
 (bnd (C Bl7 [.pointer x_2,.int .i64 0] w1) fun r_6 w2=>aAgg r_6 fun _=>nw (.cells A7 false [.int .u8 7,.int .u8 8,.int .u8 9]) w2 fun b w3=>bnd (C Ag5 [.pointer x_2,.int .i64 0,.int .i64 2,.slice (some ⟨b,0,none⟩) 3 3] w3) fun r_7 w4=>aAgg r_7 fun x_6=>nw (.cells L5 false [.int .i64 0,.int .i64 0,.slice none 0 0,.bool false]) w4 fun b_1 w5=>ck (List.length x_6=4) (pAgg ⟨b_1,0,none⟩ x_6 w5 fun w6=>bnd (C As9 [.pointer x_2,.int .i64 0,.int .i64 1,.int .i64 8] w6) fun r_8 w7=>aAgg r_8 fun x_7=>nw (.cells L5 false [.int .i64 0,.int .i64 0,.slice none 0 0,.bool false]) w7 fun b_2 w8=>ck (List.length x_7=4) (pAgg ⟨b_2,0,none⟩ x_7 w8 fun w9=>bnd (C As9 [.pointer x_2,.int .i64 0,.int .i64 1,.int .i64 8] w9) fun r_9 w10=>aAgg r_9 fun x_8=>nw (.cells L5 false [.int .i64 0,.int .i64 0,.slice none 0 0,.bool false]) w10 fun b_3 w11=>ck (List.length x_8=4) (pAgg ⟨b_3,0,none⟩ x_8 w11 fun w12=>gInt .i64 (Addr.add ⟨b_1,0,none⟩ 0) w12 fun x_9=>bnd (cond (x_9==3) (gInt .i64 (Addr.add ⟨b_1,0,none⟩ 1) w12 fun x_10=>some (x_10==0,w12)) (some (false,w12))) fun c w13=>bnd (cond c (gSl (Addr.add ⟨b_2,0,none⟩ 2) w13 fun x_11 xn_1 _=>gCells x_11 xn_1 w13 fun cs=>asBytes cs fun l=>some ((ByteArray.mk ⟨l⟩).toList==(ByteArray.mk ⟨[7,8,9]⟩).toList,w13)) (some (false,w13))) fun c_1 w14=>bnd (cond c_1 (gBool (Addr.add ⟨b_3,0,none⟩ 3) w14 fun x_12=>some (x_12,w14)) (some (false,w14))) fun c_2 w15=>bnd (cond c_2 (nw (.cells A7 false [.int .u8 1]) w15 fun b_4 w16=>bnd (C B06 [.pointer x_2,.slice (some ⟨b_4,0,none⟩) 1 1] w16) fun r_10 w17=>aInt .i64 r_10 fun x_13=>some (x_13==1,w17)) (some (false,w15))) fun c_3 w18=>some (.bool c_3,w18))))):=by kernel_rfl
def Er6:Cuts:={ globs:=0,loops:=[],regs:=[],plans:=[] }
def Gt0:List Item:=A9 Tryz.f15
theorem H65 (C:A6) (R:A8) (c:Option Addr) (i:Int) (fd:Int) (h:H) :
 B0 PR Er6 C R Dw8 Tryz.f15 100000 true Gt0 [(0,.pointer c),(1,.int .i64 i),(2,.int .i64 fd)] h =
 nw (.cells L5 false [.int .i64 0,.int .i64 0,.slice none 0 0,.bool false]) h fun b w=>bnd (C B71 [.pointer c,.int .i64 i,.int .i64 fd] w) fun r w1=>as3 r fun r_1 r_2 r_3=>aInt .i64 r_1 fun x=>aAgg r_2 fun x_1=>aInt .i64 r_3 fun x_2=>nw (.cells D5 false [.int .i64 0,.int .i64 0,.int .i64 0,.int .i64 0]) w1 fun b_1 w2=>ck (List.length x_1=4) (pAgg ⟨b_1,0,none⟩ x_1 w2 fun w3=>cond (x_2 != 0)
 (bnd (C P9 [.int .i64 x_2] w3) fun r_4 w4=>aAgg r_4 fun x_3=>ck (List.length x_3=4) (pAgg ⟨b,0,none⟩ x_3 w4 fun w5=>gAgg ⟨b,0,none⟩ 4 w5 fun x_4=>some (.agg ⟨x_4⟩,w5)))
 (bnd (C Ae4 [.pointer c,.int .i64 i] w3) fun r_5 w6=>as2 r_5 fun r_6 r_7=>aAgg r_6 fun x_5=>aInt .i64 r_7 fun _=>nw (.cells D3 false [.int .i64 0,.int .i64 0,.int .i64 0,.int .i64 0,.int .i64 0,.int .i64 0,.int .i64 0,.int .i64 0,.int .i64 0,.int .i64 0,.int .i64 0,.int .i64 0,.int .i64 0,.int .i64 0,.int .i64 0,.int .i64 0]) w6 fun b_2 w7=>ck (List.length x_5=16) (pAgg ⟨b_2,0,none⟩ x_5 w7 fun w8=>gAgg ⟨b_2,0,none⟩ 16 w8 fun x_7=>bnd (C Br0 [.agg ⟨x_7⟩,.int .i64 1] w8) fun r_8 w9=>aSl r_8 fun x_8 xn _=>cond (((xn:Nat):Int)==0)
 (bnd (C P9 [.int .i64 124] w9) fun r_9 w10=>aAgg r_9 fun x_9=>ck (List.length x_9=4) (pAgg ⟨b,0,none⟩ x_9 w10 fun w11=>gAgg ⟨b,0,none⟩ 4 w11 fun x_10=>some (.agg ⟨x_10⟩,w11)))
 (gInt .i64 (Addr.add ⟨b_1,0,none⟩ 2) w9 fun x_11=>cond (decide (x_11≥64))
 (bnd (C P9 [.int .i64 123] w9) fun r_10 w12=>aAgg r_10 fun x_12=>ck (List.length x_12=4) (pAgg ⟨b,0,none⟩ x_12 w12 fun w13=>gAgg ⟨b,0,none⟩ 4 w13 fun x_13=>some (.agg ⟨x_13⟩,w13)))
 (gAgg ⟨b_1,0,none⟩ 4 w9 fun x_14=>bnd (C Dm3 [.pointer c,.int .i64 x,.agg ⟨x_14⟩] w9) fun r_11 w14=>aBool r_11 fun x_15=>cond (!x_15)
 (bnd (C P9 [.int .i64 105] w14) fun r_12 w15=>aAgg r_12 fun x_16=>ck (List.length x_16=4) (pAgg ⟨b,0,none⟩ x_16 w15 fun w16=>gAgg ⟨b,0,none⟩ 4 w16 fun x_17=>some (.agg ⟨x_17⟩,w16)))
 (aSome x_8 fun p=>ck ((0:Int)≤0∧0<((xn:Nat):Int)) (gInt .i64 (Addr.add (B5 p) (Int.toNat 0*1)) w14 fun x_18=>bnd (C Dl1 [.pointer c,.int .i64 i,.int .i64 x_18,.int .i64 x] w14) fun r_13 w17=>aAgg r_13 fun x_19=>ck (List.length x_19=4) (pAgg ⟨b,0,none⟩ x_19 w17 fun w18=>gAgg ⟨b,0,none⟩ 4 w18 fun x_20=>some (.agg ⟨x_20⟩,w18))))))))):=by kernel_rfl
def D19:Cuts:={ globs:=0,loops:=[],regs:=[],plans:=[] }
def E31:List Item:=A9 Tryz.f19
theorem Hi9 (C:A6) (R:A8) (c:Option Addr) (i:Int) (h:H) :
 B0 PR D19 C R Ae4 Tryz.f19 100000 true E31 [(0,.pointer c),(1,.int .i64 i)] h =
 nw (.cells D3 false [.int .i64 0,.int .i64 0,.int .i64 0,.int .i64 0,.int .i64 0,.int .i64 0,.int .i64 0,.int .i64 0,.int .i64 0,.int .i64 0,.int .i64 0,.int .i64 0,.int .i64 0,.int .i64 0,.int .i64 0,.int .i64 0]) h fun b w=>bnd (C D2 [.pointer c] w) fun r w1=>as0 r (bnd (C Ab1 [.pointer c,.int .i64 i] w1) fun r_1 w2=>as2 r_1 fun r_2 r_3=>aAgg r_2 fun x=>aInt .i64 r_3 fun x_1=>nw (.cells D3 false [.int .i64 0,.int .i64 0,.int .i64 0,.int .i64 0,.int .i64 0,.int .i64 0,.int .i64 0,.int .i64 0,.int .i64 0,.int .i64 0,.int .i64 0,.int .i64 0,.int .i64 0,.int .i64 0,.int .i64 0,.int .i64 0]) w2 fun b_1 w3=>ck (List.length x=16) (pAgg ⟨b_1,0,none⟩ x w3 fun w4=>bnd (cond (x_1 != 1) (some (true,w4)) (gInt .i64 (Addr.add ⟨b_1,0,none⟩ 0) w4 fun x_2=>some (x_2 != 1,w4))) fun c_1 w5=>cond c_1
 (pAgg ⟨b,0,none⟩ [.int .i64 0,.int .i64 0,.int .i64 0,.int .i64 0,.int .i64 0,.int .i64 0,.int .i64 0,.int .i64 0,.int .i64 0,.int .i64 0,.int .i64 0,.int .i64 0,.int .i64 0,.int .i64 0,.int .i64 0,.int .i64 0] w5 fun w6=>gAgg ⟨b,0,none⟩ 16 w6 fun x_3=>some (.tuple ⟨[.agg ⟨x_3⟩,.int .i64 105]⟩,w6))
 (gAgg ⟨b_1,0,none⟩ 16 w5 fun x_4=>ck (List.length x_4=16) (pAgg ⟨b,0,none⟩ x_4 w5 fun w7=>gAgg ⟨b,0,none⟩ 16 w7 fun x_5=>some (.tuple ⟨[.agg ⟨x_5⟩,.int .i64 0]⟩,w7))))):=by kernel_rfl
def Ds0:Cuts:={ globs:=0,loops:=[],regs:=[],plans:=[] }
def Es8:List Item:=A9 Tryz.f21
theorem G81 (C:A6) (R:A8) (c:Option Addr) (b:Option Addr) (bn bc:Nat) (h:H) :
 B0 PR Ds0 C R B06 Tryz.f21 100000 true Es8 [(0,.pointer c),(1,.slice b bn bc)] h =
 bnd (C D2 [.pointer c] h) fun r w=>as0 r (bnd (C S7 [.pointer c] w) fun r_1 w1=>as2 r_1 fun r_2 r_3=>aAgg r_2 fun x=>aInt .i64 r_3 fun x_1=>nw (.cells D1 false [.int .i64 0,.int .i64 0,.int .i64 0,.int .i64 0,.int .u8 0,.int .u8 0,.int .u8 0,.int .u8 0,.int .u8 0,.int .u8 0,.int .u8 0,.int .u8 0,.int .u8 0,.int .u8 0,.int .u8 0,.int .u8 0,.int .u8 0,.int .u8 0,.int .u8 0,.int .u8 0,.int .u8 0,.int .u8 0,.int .u8 0,.int .u8 0,.int .u8 0,.int .u8 0,.int .u8 0,.int .u8 0,.int .u8 0,.int .u8 0,.int .u8 0,.int .u8 0,.int .u8 0,.int .u8 0,.int .u8 0,.int .u8 0]) w1 fun b_1 w2=>ck (List.length x=36) (pAgg ⟨b_1,0,none⟩ x w2 fun w3=>cond (x_1 != 1)
 (some (.int .i64 0,w3))
 (gAgg ⟨b_1,0,none⟩ 36 w3 fun x_2=>bnd (C Ao5 [.agg ⟨x_2⟩,.slice b bn bc] w3) fun r_4 w4=>as2 r_4 fun r_5 r_6=>aAgg r_5 fun x_3=>aInt .i64 r_6 fun x_4=>nw (.cells D1 false [.int .i64 0,.int .i64 0,.int .i64 0,.int .i64 0,.int .u8 0,.int .u8 0,.int .u8 0,.int .u8 0,.int .u8 0,.int .u8 0,.int .u8 0,.int .u8 0,.int .u8 0,.int .u8 0,.int .u8 0,.int .u8 0,.int .u8 0,.int .u8 0,.int .u8 0,.int .u8 0,.int .u8 0,.int .u8 0,.int .u8 0,.int .u8 0,.int .u8 0,.int .u8 0,.int .u8 0,.int .u8 0,.int .u8 0,.int .u8 0,.int .u8 0,.int .u8 0,.int .u8 0,.int .u8 0,.int .u8 0,.int .u8 0]) w4 fun b_2 w5=>ck (List.length x_3=36) (pAgg ⟨b_2,0,none⟩ x_3 w5 fun w6=>gAgg ⟨b_2,0,none⟩ 36 w6 fun x_5=>bnd (C O9 [.pointer c,.agg ⟨x_5⟩] w6) fun r_7 w7=>aBool r_7 fun x_6=>cond (!x_6)
 (some (.int .i64 0,w7))
 (some (.int .i64 x_4,w7)))))):=by kernel_rfl
def Dp9:Cuts:={ globs:=0,loops:=[],regs:=[],plans:=[] }
def Er4:List Item:=A9 Tryz.f24
theorem Hc2 (C:A6) (R:A8)  (h:H) :
 B0 PR Dp9 C R Bz2 Tryz.f24 100000 true Er4 [] h =
 nw (.cells Bz8 false [.slice none 0 0,.slice none 0 0,.int .i64 0]) h fun b w=>nw (.cells D63 false [.bool false,.bool false]) w fun b_1 w1=>nw (.cells B19 false [.int .i64 0,.int .i64 1,.int .i64 1,.int .i64 0]) w1 fun b_2 w2=>pAgg ⟨b,0,none⟩ [.slice (some ⟨b_1,0,none⟩) 2 2,.slice (some ⟨b_2,0,none⟩) 2 2,.int .i64 5] w2 fun w3=>gAgg ⟨b,0,none⟩ 3 w3 fun x=>some (.agg ⟨x⟩,w3):=by kernel_rfl
def A29:Cuts:={ globs:=0,loops:=[(4,[1,3,4])],regs:=[],plans:=[] }
def Bo2:List Item:=A9 Tryz.f25
def Aq1:List Item:=stk [0,1,0,1,0,1,0,0,1,4,5] Bo2
theorem Ez9 (C:A6) (R:A8) (p:List Value) (h:H) :
 B0 PR A29 C R Q0 Tryz.f25 100000 true Bo2 [(0,.agg ⟨p⟩)] h =
 nw (.cells D1 false p) h fun b w=>gInt .i64 (Addr.add ⟨b,0,none⟩ 0) w fun x=>gInt .i64 (Addr.add ⟨b,0,none⟩ 1) w fun x_1=>gInt .i64 (Addr.add ⟨b,0,none⟩ 2) w fun x_2=>gInt .i64 (Addr.add ⟨b,0,none⟩ 3) w fun x_3=>nw (.cells A7 false [.int .u8 1,.int .u8 (IntKind.wrap .u8 (x)),.int .u8 (IntKind.wrap .u8 (x_1)),.int .u8 (IntKind.wrap .u8 (x_2)),.int .u8 (IntKind.wrap .u8 (x_3)),.int .u8 197]) w fun b_1 w1=>gCells (some ⟨b_1,0,none⟩) 6 w1 fun cs=>asBytes cs fun l=>bnd (C Af2 [.string (ByteArray.mk ⟨l⟩)] w1) fun r w2=>aInt .u8 r fun x_4=>nw (.cells A7 false [.int .u8 x_4,.int .u8 0]) w2 fun b_2 w3=>gCells (some ⟨b_2,0,none⟩) 2 w3 fun cs_1=>asBytes cs_1 fun l_1=>ck (ByteArray.size (ByteArray.mk ⟨l⟩)+ByteArray.size (ByteArray.mk ⟨l_1⟩)≤B4) (R Q0 Aq1 [(1,.pointer (some ⟨b,0,none⟩)),(3,.string ((ByteArray.mk ⟨l⟩)++(ByteArray.mk ⟨l_1⟩))),(4,.int .i64 0)] w3):=by kernel_rfl
theorem B27 (C:A6) (R:A8) (p:Addr) (s:ByteArray) (i:Int) (h:H) :
 B0 PR A29 C R Q0 Tryz.f25 100000 true Aq1 [(1,.pointer (some p)),(3,.string s),(4,.int .i64 i)] h =
 cond (decide (i<32))
 (ck ((0:Int)≤i∧i<((32:Nat):Int)) (gInt .u8 (Addr.add (Addr.add p 4) (Int.toNat i*1)) h fun x=>nw (.cells A7 false [.int .u8 x]) h fun b w=>gCells (some ⟨b,0,none⟩) 1 w fun cs=>asBytes cs fun l=>ck (ByteArray.size s+ByteArray.size (ByteArray.mk ⟨l⟩)≤B4) (R Q0 Aq1 [(1,.pointer (some p)),(3,.string (s++(ByteArray.mk ⟨l⟩))),(4,.int .i64 (IntKind.wrap .i64 (i+1)))] w)))
 (some (.string s,h)):=by kernel_rfl
def Bn3:Cuts:={ globs:=0,loops:=[],regs:=[],plans:=[] }
def Dg6:List Item:=A9 Tryz.f30
theorem Ey7 (C:A6) (R:A8) (f:List Value) (h:H) :
 B0 PR Bn3 C R A36 Tryz.f30 100000 true Dg6 [(0,.agg ⟨f⟩)] h =
 nw (.cells D5 false f) h fun b w=>gInt .i64 (Addr.add ⟨b,0,none⟩ 0) w fun x=>gInt .i64 (Addr.add ⟨b,0,none⟩ 1) w fun x_1=>gInt .i64 (Addr.add ⟨b,0,none⟩ 2) w fun x_2=>gInt .i64 (Addr.add ⟨b,0,none⟩ 3) w fun x_3=>nw (.cells A7 false [.int .u8 (IntKind.wrap .u8 (x)),.int .u8 (IntKind.wrap .u8 (x_1)),.int .u8 (IntKind.wrap .u8 (x_2)),.int .u8 (IntKind.wrap .u8 (x_3)),.int .u8 179]) w fun b_1 w1=>gCells (some ⟨b_1,0,none⟩) 5 w1 fun cs=>asBytes cs fun l=>bnd (C Af2 [.string (ByteArray.mk ⟨l⟩)] w1) fun r w2=>aInt .u8 r fun x_4=>nw (.cells A7 false [.int .u8 x_4,.int .u8 0,.int .u8 0]) w2 fun b_2 w3=>gCells (some ⟨b_2,0,none⟩) 3 w3 fun cs_1=>asBytes cs_1 fun l_1=>ck (ByteArray.size (ByteArray.mk ⟨l⟩)+ByteArray.size (ByteArray.mk ⟨l_1⟩)≤B4) (some (.string ((ByteArray.mk ⟨l⟩)++(ByteArray.mk ⟨l_1⟩)),w3)):=by kernel_rfl
def A16:Cuts:={ globs:=0,loops:=[],regs:=[],plans:=[] }
def Br3:List Item:=A9 Tryz.f35
theorem Dz6 (C:A6) (R:A8) (c:Option Addr) (i:Int) (h:H) :
 B0 PR A16 C R N9 Tryz.f35 100000 true Br3 [(0,.pointer c),(1,.int .i64 i)] h =
 nw (.cells D5 false [.int .i64 0,.int .i64 0,.int .i64 0,.int .i64 0]) h fun b w=>bnd (C As3 [.int .i64 i] w) fun r w1=>aAgg r fun x=>bnd (C J8 [.pointer c,.agg ⟨x⟩,.func (.func A57) ⟨[]⟩ ⟨[]⟩] w1) fun r_1 w2=>as2 r_1 fun r_2 r_3=>aAgg r_2 fun x_1=>aInt .i64 r_3 fun x_2=>ck (List.length x_1=4) (pAgg ⟨b,0,none⟩ x_1 w2 fun w3=>gAgg ⟨b,0,none⟩ 4 w3 fun x_3=>some (.tuple ⟨[.agg ⟨x_3⟩,.int .i64 x_2]⟩,w3)):=by kernel_rfl
def Dt8:Cuts:={ globs:=0,loops:=[],regs:=[],plans:=[] }
def Ep2:List Item:=A9 Tryz.f36
theorem G26 (C:A6) (R:A8) (k:Int) (fv0:Addr) (h:H) :
 B0 PR Dt8 C R A58 Tryz.f36 100000 true Ep2 [(0,.int .i64 k),(1,.pointer (some fv0))] h =
 gPtr fv0 h fun x=>bnd (C O4 [.pointer x,.int .i64 k] h) fun r w=>as2 r fun r_1 r_2=>aAgg r_1 fun x_1=>aInt .i64 r_2 fun x_2=>nw (.cells D1 false [.int .i64 0,.int .i64 0,.int .i64 0,.int .i64 0,.int .u8 0,.int .u8 0,.int .u8 0,.int .u8 0,.int .u8 0,.int .u8 0,.int .u8 0,.int .u8 0,.int .u8 0,.int .u8 0,.int .u8 0,.int .u8 0,.int .u8 0,.int .u8 0,.int .u8 0,.int .u8 0,.int .u8 0,.int .u8 0,.int .u8 0,.int .u8 0,.int .u8 0,.int .u8 0,.int .u8 0,.int .u8 0,.int .u8 0,.int .u8 0,.int .u8 0,.int .u8 0,.int .u8 0,.int .u8 0,.int .u8 0,.int .u8 0]) w fun b w1=>ck (List.length x_1=36) (pAgg ⟨b,0,none⟩ x_1 w1 fun w2=>some (.bool (x_2==0),w2)):=by kernel_rfl
def Ds3:Cuts:={ globs:=0,loops:=[],regs:=[],plans:=[] }
def En0:List Item:=A9 Tryz.f43
theorem G00 (C:A6) (R:A8) (e:Int) (h:H) :
 B0 PR Ds3 C R M0 Tryz.f43 100000 true En0 [(0,.int .i64 e)] h =
 nw (.cells L5 false [.int .i64 0,.int .i64 0,.slice none 0 0,.bool false]) h fun b w=>pAgg ⟨b,0,none⟩ [.int .i64 0,.int .i64 e,.slice none 0 0,.bool false] w fun w1=>gAgg ⟨b,0,none⟩ 4 w1 fun x=>some (.agg ⟨x⟩,w1):=by kernel_rfl
def Dz8:Cuts:={ globs:=0,loops:=[],regs:=[],plans:=[(6,⟨[0,1,2,3,4],[0,0,2,7,15],[(2,[0])],[]⟩)] }
def E13:List Item:=A9 Tryz.f49
theorem Hg1 (C:A6) (R:A8) (p:List Value) (n:Int) (h:H) :
 B0 PR Dz8 C R Da2 Tryz.f49 100000 true E13 [(0,.agg ⟨p⟩),(1,.int .i64 n)] h =
 nw (.cells D1 false p) h fun b w=>nw (.cells D1 false [.int .i64 0,.int .i64 0,.int .i64 0,.int .i64 0,.int .u8 0,.int .u8 0,.int .u8 0,.int .u8 0,.int .u8 0,.int .u8 0,.int .u8 0,.int .u8 0,.int .u8 0,.int .u8 0,.int .u8 0,.int .u8 0,.int .u8 0,.int .u8 0,.int .u8 0,.int .u8 0,.int .u8 0,.int .u8 0,.int .u8 0,.int .u8 0,.int .u8 0,.int .u8 0,.int .u8 0,.int .u8 0,.int .u8 0,.int .u8 0,.int .u8 0,.int .u8 0,.int .u8 0,.int .u8 0,.int .u8 0,.int .u8 0]) w fun b_1 w1=>gAgg ⟨b,0,none⟩ 36 w1 fun x=>bnd (C Ak9 [.agg ⟨x⟩] w1) fun r w2=>aSl r fun x_1 xn xc=>ckB (fitsOpen x_1 A7 w2) (ck ((0:Int)≤mm2 false (mm2 true n 0) ((xn:Nat):Int)∧mm2 false (mm2 true n 0) ((xn:Nat):Int)≤((xc:Nat):Int)) (cond (decide ((((Int.toNat (mm2 false (mm2 true n 0) ((xn:Nat):Int)))-0:Nat):Int)>0))
 (gInt .i64 (Addr.add ⟨b,0,none⟩ 0) w2 fun x_2=>pV (Addr.add ⟨b,0,none⟩ 0) (.int .i64 (Int.tmod (IntKind.wrap .i64 (x_2+(((Int.toNat (mm2 false (mm2 true n 0) ((xn:Nat):Int)))-0:Nat):Int))) 32)) w2 fun w3=>gInt .i64 (Addr.add ⟨b,0,none⟩ 1) w3 fun x_3=>pV (Addr.add ⟨b,0,none⟩ 1) (.int .i64 (IntKind.wrap .i64 (x_3-(((Int.toNat (mm2 false (mm2 true n 0) ((xn:Nat):Int)))-0:Nat):Int)))) w3 fun w4=>gAgg ⟨b,0,none⟩ 36 w4 fun x_4=>bnd (C V0 [.slice (H5 x_1 (decide (0<xc)) (0*1)) ((Int.toNat (mm2 false (mm2 true n 0) ((xn:Nat):Int)))-0) (xc-0)] w4) fun r_1 w5=>aSl r_1 fun x_5 xn_1 xc_1=>gAgg ⟨b,0,none⟩ 36 w5 fun x_6=>same (.agg ⟨x_4⟩) (.agg ⟨x_6⟩) (ck (List.length x_4=36) (pAgg ⟨b_1,0,none⟩ x_4 w5 fun w6=>gAgg ⟨b_1,0,none⟩ 36 w6 fun x_7=>some (.tuple ⟨[.agg ⟨x_7⟩,.slice x_5 xn_1 xc_1]⟩,w6))))
 (gAgg ⟨b,0,none⟩ 36 w2 fun x_8=>bnd (C V0 [.slice (H5 x_1 (decide (0<xc)) (0*1)) ((Int.toNat (mm2 false (mm2 true n 0) ((xn:Nat):Int)))-0) (xc-0)] w2) fun r_2 w7=>aSl r_2 fun x_9 xn_2 xc_2=>gAgg ⟨b,0,none⟩ 36 w7 fun x_10=>same (.agg ⟨x_8⟩) (.agg ⟨x_10⟩) (ck (List.length x_8=36) (pAgg ⟨b_1,0,none⟩ x_8 w7 fun w8=>gAgg ⟨b_1,0,none⟩ 36 w8 fun x_11=>some (.tuple ⟨[.agg ⟨x_11⟩,.slice x_9 xn_2 xc_2]⟩,w8)))))):=by kernel_rfl
def D16:Cuts:={ globs:=0,loops:=[],regs:=[],plans:=[] }
def E22:List Item:=A9 Tryz.f56
theorem Hk4 (C:A6) (R:A8) (ok:Bool) (n:Int) (h:H) :
 B0 PR D16 C R Bd4 Tryz.f56 100000 true E22 [(0,.bool ok),(1,.int .i64 n)] h =
 nw (.cells L5 false [.int .i64 0,.int .i64 0,.slice none 0 0,.bool false]) h fun b w=>cond (!ok)
 (bnd (C Da6 [.int .i64 105] w) fun r w1=>aAgg r fun x=>ck (List.length x=4) (pAgg ⟨b,0,none⟩ x w1 fun w2=>gAgg ⟨b,0,none⟩ 4 w2 fun x_1=>some (.agg ⟨x_1⟩,w2)))
 (pAgg ⟨b,0,none⟩ [.int .i64 n,.int .i64 0,.slice none 0 0,.bool false] w fun w3=>gAgg ⟨b,0,none⟩ 4 w3 fun x_2=>some (.agg ⟨x_2⟩,w3)):=by kernel_rfl
def As4:Cuts:={ globs:=0,loops:=[(4,[1,3,4]),(8,[1,3,5]),(13,[1,3,5,6,7,9])],regs:=[],plans:=[(1,⟨[0,1,2,3,4,5,6],[0,0,2,6,15,31,63],[(3,[0])],[]⟩),(2,⟨[0,1,2,3,4,5,6,7,11,12,13,8,9,10,14,15,16,17,18,19],[0,0,2,6,14,0,32,96,254,510,1022,0,2048,6144,14846,32766,65534,131071,262143,524287],[(8,[12])],[]⟩),(6,⟨[0,1,2,3,4,5,6,7,8,9,10,11,12],[0,0,2,6,14,0,32,96,224,510,1023,2047,4095],[(7,[4])],[]⟩),(11,⟨[0,1,2,3,4,5,6,7,8,9,11,12,15,16,18,19,10,13,14,17,20,21,22,23,24,25],[0,1,3,7,0,16,48,112,0,256,1008,0,2048,8176,16368,0,32768,131056,0,262144,1048575,2097151,4194303,4194303,8388607,33554431],[(10,[3,12,16,19])],[]⟩),(15,⟨[0,1,2,3,4,5,6,7],[0,1,0,4,0,28,60,127],[],[]⟩),(16,⟨[0,1,2,3,4,5,6,7,8,9,10,11,12],[0,1,3,7,15,31,63,0,0,0,512,1792,4095],[],[]⟩)] }
def A51:List Item:=A9 Tryz.f70
def A27:List Item:=stk [0,1,0,1,0,1,0,0,1,4,5] A51
def An1:List Item:=stk [0,1,0,1,0,1,0,1,0,0,1,4,5] A51
def An4:List Item:=stk [0,1,0,1,0,1,0,1,0,0,1,4,5,6,0,1,0,4,0,1,0,1,0,1,4,5] A51
theorem Go1 (C:A6) (R:A8) (b:List Value) (h:H) :
 B0 PR As4 C R G4 Tryz.f70 100000 true A51 [(0,.agg ⟨b⟩)] h =
 nw (.cells E4 false b) h fun b_1 w=>gAgg ⟨b_1,0,none⟩ 5 w fun x=>gSl (Addr.add ⟨b_1,0,none⟩ 0) w fun x_1 xn xc=>bnd (C Aa5 [.slice x_1 xn xc] w) fun r w1=>aPtr r fun x_2=>gAgg ⟨b_1,0,none⟩ 5 w1 fun x_3=>same (.agg ⟨x⟩) (.agg ⟨x_3⟩) (ck (List.length x=5) (nw (.cells E28 false (x++(.pointer x_2::(.pointer none::(.slice none 0 0::[.int .i64 0]))))) w1 fun b_2 w2=>gPtr (Addr.add ⟨b_2,0,none⟩ 5) w2 fun x_4=>gSl (Addr.add ⟨b_1,0,none⟩ 0) w2 fun _ xn_1 _=>gSl (Addr.add ⟨b_1,0,none⟩ 1) w2 fun x_6 xn_2 xc_2=>bnd (C N7 [.pointer x_4,.int .i64 ((xn_1:Nat):Int)] w2) fun r_1 w3=>aInt .i64 r_1 fun x_7=>gSl (Addr.add ⟨b_1,0,none⟩ 1) w3 fun x_8 xn_3 xc_3=>same (.slice x_6 xn_2 xc_2) (.slice x_8 xn_3 xc_3) (ck ((0:Int)≤IntKind.wrap .i64 (64*x_7)∧(IntKind.wrap .i64 (64*x_7):Int)≤IntKind.wrap .i64 (64*x_7)∧IntKind.wrap .i64 (64*x_7)≤(B4:Int)) (nw (.cells A7 false (H4 (Int.toNat (IntKind.wrap .i64 (64*x_7))) [.int .u8 0])) w3 fun b_3 w4=>bnd (C Aa3 [.int .i64 ((xn_2:Nat):Int)] w4) fun r_2 w5=>aPtr r_2 fun x_9=>nw (.cells D72 false [.slice (some ⟨b_3,0,none⟩) (Int.toNat (IntKind.wrap .i64 (64*x_7))) (Int.toNat (IntKind.wrap .i64 (64*x_7))),.slice none 0 0,.slice none 0 0,.pointer x_9]) w5 fun b_4 w6=>pV (Addr.add ⟨b_2,0,none⟩ 6) (.pointer (some ⟨b_4,0,none⟩)) w6 fun w7=>R G4 A27 [(1,.pointer (some ⟨b_1,0,none⟩)),(3,.pointer (some ⟨b_2,0,none⟩)),(4,.int .i64 0)] w7)))):=by kernel_rfl
theorem Dg5 (C:A6) (R:A8) (b:Addr) (k:Addr) (i:Int) (h:H) :
 B0 PR As4 C R G4 Tryz.f70 100000 true A27 [(1,.pointer (some b)),(3,.pointer (some k)),(4,.int .i64 i)] h =
 gSl (Addr.add b 2) h fun _ xn _=>cond (decide (i<((xn:Nat):Int)))
 (gSl (Addr.add k 7) h fun x_1 xn_1 xc_1=>gInt .i64 (Addr.add b 3) h fun x_2=>bnd (C Bl8 [.int .i64 x_2] h) fun r w=>aPtr r fun x_3=>gSl (Addr.add k 7) w fun x_4 xn_2 xc_2=>same (.slice x_1 xn_1 xc_1) (.slice x_4 xn_2 xc_2) (nw (.cells Bb7 false [.pointer x_3]) w fun b_1 w1=>gCells (some ⟨b_1,0,none⟩) (1*1) w1 fun cs=>ckB (fitsOpen x_1 Bb7 w1) (apd Bb7 1 x_1 xn_1 xc_1 1 cs w1 fun a an ac w2=>pV (Addr.add k 7) (.slice a an ac) w2 fun w3=>R G4 A27 [(1,.pointer (some b)),(3,.pointer (some k)),(4,.int .i64 (IntKind.wrap .i64 (i+1)))] w3)))
 (R G4 An1 [(1,.pointer (some b)),(3,.pointer (some k)),(5,.int .i64 0)] h):=by kernel_rfl
theorem Dh3 (C:A6) (R:A8) (b:Addr) (k:Addr) (i:Int) (h:H) :
 B0 PR As4 C R G4 Tryz.f70 100000 true An1 [(1,.pointer (some b)),(3,.pointer (some k)),(5,.int .i64 i)] h =
 gSl (Addr.add b 4) h fun _ xn _=>cond (decide (i<((xn:Nat):Int)))
 (gSl (Addr.add b 4) h fun x_1 xn_1 _=>aSome x_1 fun p=>ck ((0:Int)≤i∧i<((xn_1:Nat):Int)) (gAgg (Addr.add (B5 p) (Int.toNat i*5)) 5 h fun x_2=>nw (.cells I7 false [.int .i64 0,.int .i64 0,.int .i64 0,.int .i64 0,.slice none 0 0]) h fun b_1 w=>ck (List.length x_2=5) (pAgg ⟨b_1,0,none⟩ x_2 w fun w1=>gPtr (Addr.add k 6) w1 fun x_3=>gPtr (Addr.add k 5) w1 fun x_4=>gInt .i64 (Addr.add ⟨b_1,0,none⟩ 0) w1 fun x_5=>gInt .i64 (Addr.add ⟨b_1,0,none⟩ 1) w1 fun x_6=>gInt .i64 (Addr.add ⟨b_1,0,none⟩ 2) w1 fun x_7=>gInt .i64 (Addr.add ⟨b_1,0,none⟩ 3) w1 fun x_8=>bnd (C N7 [.pointer x_4,.int .i64 x_5] w1) fun r w2=>aInt .i64 r fun x_9=>gPtr (Addr.add k 6) w2 fun x_10=>same (.pointer x_3) (.pointer x_10) (gInt .i64 (Addr.add ⟨b_1,0,none⟩ 1) w2 fun x_11=>same (.int .i64 x_6) (.int .i64 x_11) (gInt .i64 (Addr.add ⟨b_1,0,none⟩ 2) w2 fun x_12=>same (.int .i64 x_7) (.int .i64 x_12) (gInt .i64 (Addr.add ⟨b_1,0,none⟩ 3) w2 fun x_13=>same (.int .i64 x_8) (.int .i64 x_13) (bnd (C Ay0 [.pointer x_3,.int .i64 (IntKind.wrap .i64 ((IntKind.wrap .i64 (64*(IntKind.wrap .i64 (x_9+x_6))))+x_7)),.int .i64 x_8] w2) fun r_1 w3=>as2 r_1 fun r_2 r_3=>aInt .i64 r_2 fun x_14=>aInt .i64 r_3 fun _=>R G4 An4 [(1,.pointer (some b)),(3,.pointer (some k)),(5,.int .i64 i),(6,.pointer (some ⟨b_1,0,none⟩)),(7,.int .i64 x_14),(9,.int .i64 0)] w3)))))))
 (some (.pointer (some k),h)):=by kernel_rfl
theorem Dh1 (C:A6) (R:A8) (b:Addr) (k:Addr) (i:Int) (s:Addr) (obj:Int) (e:Int) (h:H) :
 B0 PR As4 C R G4 Tryz.f70 100000 true An4 [(1,.pointer (some b)),(3,.pointer (some k)),(5,.int .i64 i),(6,.pointer (some s)),(7,.int .i64 obj),(9,.int .i64 e)] h =
 gSl (Addr.add b 1) h fun _ xn _=>cond (decide (e<((xn:Nat):Int)))
 (gSl (Addr.add s 4) h fun x_1 xn_1 xc_1=>gSl (Addr.add b 1) h fun x_2 xn_2 _=>aSome x_2 fun p=>ck ((0:Int)≤e∧e<((xn_2:Nat):Int)) (gInt .i64 (Addr.add (B5 p) (Int.toNat e*1)) h fun x_3=>bnd (C A75 [.slice x_1 xn_1 xc_1,.int .i64 x_3] h) fun r w=>aBool r fun x_4=>cond x_4
 (gPtr (Addr.add k 6) w fun x_5=>aSome x_5 fun p_1=>gPtr (Addr.add p_1 3) w fun x_6=>gInt .i64 (Addr.add s 3) w fun x_7=>bnd (C A95 [.pointer x_6,.int .i64 e,.agg ⟨[.int .i64 obj,.int .i64 3,.int .i64 0,.int .i64 x_7,.int .i64 0,.int .i64 0]⟩] w) fun r_1 w1=>as2 r_1 fun r_2 r_3=>aInt .i64 r_2 fun _=>aInt .i64 r_3 fun _=>R G4 An4 [(1,.pointer (some b)),(3,.pointer (some k)),(5,.int .i64 i),(6,.pointer (some s)),(7,.int .i64 obj),(9,.int .i64 (IntKind.wrap .i64 (e+1)))] w1)
 (R G4 An4 [(1,.pointer (some b)),(3,.pointer (some k)),(5,.int .i64 i),(6,.pointer (some s)),(7,.int .i64 obj),(9,.int .i64 (IntKind.wrap .i64 (e+1)))] w)))
 (R G4 An1 [(1,.pointer (some b)),(3,.pointer (some k)),(5,.int .i64 (IntKind.wrap .i64 (i+1)))] h):=by kernel_rfl
def Dg0:Cuts:={ globs:=0,loops:=[],regs:=[],plans:=[] }
def Ej4:List Item:=A9 Tryz.f71
theorem Gw4 (C:A6) (R:A8) (k:Option Addr) (env:Int) (h:H) :
 B0 PR Dg0 C R Bs1 Tryz.f71 100000 true Ej4 [(0,.pointer k),(1,.int .i64 env)] h =
 bnd (cond k.isNone (some (true,h)) (bnd (C Am9 [.pointer k] h) fun r w=>aPtr r fun x=>bnd (C Ak6 [.pointer x,.int .i64 env] w) fun r_1 w1=>aSl r_1 fun _ xn _=>some (((xn:Nat):Int)==0,w1))) fun c w2=>cond c
 (some (.tuple ⟨[.pointer none,.int .i64 1]⟩,w2))
 (bnd (C Am9 [.pointer k] w2) fun r_2 w3=>aPtr r_2 fun x_2=>bnd (C Ak6 [.pointer x_2,.int .i64 env] w3) fun r_3 w4=>aSl r_3 fun x_3 xn_1 xc_1=>nw (.map [] 0) w4 fun b w5=>nw (.cells Dh2 false [.pointer k,.int .i64 env,.slice x_3 xn_1 xc_1,.map (some b)]) w5 fun b_1 w6=>some (.tuple ⟨[.pointer (some ⟨b_1,0,none⟩),.int .i64 0]⟩,w6)):=by kernel_rfl
def Bj6:Cuts:={ globs:=0,loops:=[],regs:=[],plans:=[] }
def Dd5:List Item:=A9 Tryz.f86
theorem Eo0 (C:A6) (R:A8) (g:Int) (h:H) :
 B0 PR Bj6 C R Ay3 Tryz.f86 100000 true Dd5 [(0,.int .i64 g)] h =
 nw (.cells A7 false [.int .u8 (IntKind.wrap .u8 (g)),.int .u8 211]) h fun b w=>gCells (some ⟨b,0,none⟩) 2 w fun cs=>asBytes cs fun l=>bnd (C Af2 [.string (ByteArray.mk ⟨l⟩)] w) fun r w1=>aInt .u8 r fun x=>nw (.cells A7 false [.int .u8 x,.int .u8 0]) w1 fun b_1 w2=>gCells (some ⟨b_1,0,none⟩) 2 w2 fun cs_1=>asBytes cs_1 fun l_1=>ck (ByteArray.size (ByteArray.mk ⟨l⟩)+ByteArray.size (ByteArray.mk ⟨l_1⟩)≤B4) (some (.string ((ByteArray.mk ⟨l⟩)++(ByteArray.mk ⟨l_1⟩)),w2)):=by kernel_rfl
def Aw3:Cuts:={ globs:=0,loops:=[],regs:=[],plans:=[(2,⟨[0,1,2,3,4,5,6,7,8,9,10,11,12,13,14],[0,1,3,7,15,31,63,127,255,511,1023,127,4095,8191,16383],[],[]⟩),(4,⟨[0,1,2,3,4,5,6,7,8,9,10,11,12,13,14,15,16,17],[0,1,3,7,0,16,48,112,0,256,0,1024,0,7936,16383,32767,65535,131071],[],[]⟩)] }
def Bm7:List Item:=A9 Tryz.f96
theorem Du0 (C:A6) (R:A8) (c:Option Addr) (r:List Value) (b:Option Addr) (bn bc:Nat) (ok:Bool) (h:H) :
 B0 PR Aw3 C R I1 Tryz.f96 100000 true Bm7 [(0,.pointer c),(1,.agg ⟨r⟩),(2,.slice b bn bc),(3,.bool ok)] h =
 nw (.cells D9 false r) h fun b_1 w=>gAgg ⟨b_1,0,none⟩ 2 w fun x=>bnd (C Q5 [.pointer c,.agg ⟨x⟩] w) fun r_1 w1=>as2 r_1 fun r_2 r_3=>aAgg r_2 fun x_1=>aBool r_3 fun x_2=>nw (.cells Bf6 false [.int .i64 0,.int .i64 0,.int .i64 0]) w1 fun b_2 w2=>ck (List.length x_1=3) (pAgg ⟨b_2,0,none⟩ x_1 w2 fun w3=>bnd (cond (!x_2) (some (true,w3)) (some (!ok,w3))) fun c_1 w4=>bnd (cond c_1 (some (true,w4)) (aSome c fun p=>gMap (Addr.add p 3) w4 fun x_3=>gAgg ⟨b_1,0,none⟩ 2 w4 fun x_4=>keyN PR D9 (.agg ⟨x_4⟩) (opt x_3 fun r_4=>mapAt w4 r_4 fun es _=>opt (Al6 (.int .i64 0) (.agg ⟨x_4⟩) es) fun f=>aInt .i64 f.1 fun x_5=>some (decide (x_5>0),w4)))) fun c_2 w5=>cond c_2
 (some (.bool false,w5))
 (aSome c fun p_1=>gPtr (Addr.add p_1 0) w5 fun x_6=>aSome c fun p_2=>gInt .i64 (Addr.add p_2 1) w5 fun x_7=>gInt .i64 (Addr.add ⟨b_2,0,none⟩ 0) w5 fun x_8=>gInt .i64 (Addr.add ⟨b_2,0,none⟩ 1) w5 fun x_9=>bnd (C S8 [.pointer x_6,.int .i64 x_7,.agg ⟨[.int .i64 2,.int .i64 x_8,.int .i64 x_9,.int .i64 0,.int .i64 0,.int .i64 0,.slice b bn bc]⟩] w5) fun r_5 w6=>aAgg r_5 fun x_10=>nth x_10 0 fun E=>aInt .i64 E fun E_1=>some (.bool (E_1==0),w6))):=by kernel_rfl
def B64:Cuts:={ globs:=0,loops:=[],regs:=[],plans:=[(1,⟨[1,0,2,3,4,5,6],[0,0,3,7,7,31,63],[(0,[1])],[]⟩)] }
def D60:List Item:=A9 Tryz.f97
theorem Gm4 (C:A6) (R:A8) (f:List Value) (h:H) :
 B0 PR B64 C R A62 Tryz.f97 100000 true D60 [(0,.agg ⟨f⟩)] h =
 nw (.cells D5 false f) h fun b w=>gAgg ⟨b,0,none⟩ 4 w fun x=>bnd (C Bb5 [] w) fun r w1=>aPtr r fun x_1=>gAgg ⟨b,0,none⟩ 4 w1 fun x_2=>same (.agg ⟨x⟩) (.agg ⟨x_2⟩) (bnd (C W2 [.pointer x_1,.agg ⟨x⟩] w1) fun r_1 w2=>as2 r_1 fun r_2 r_3=>aSl r_2 fun x_3 xn xc=>aBool r_3 fun x_4=>some (.tuple ⟨[.slice x_3 xn xc,.bool x_4]⟩,w2)):=by kernel_rfl
def B53:Cuts:={ globs:=0,loops:=[],regs:=[],plans:=[] }
def D51:List Item:=A9 Tryz.f99
theorem Gm6 (C:A6) (R:A8) (i:Int) (h:H) :
 B0 PR B53 C R A53 Tryz.f99 100000 true D51 [(0,.int .i64 i)] h =
 nw (.cells D9 false [.int .i64 0,.int .i64 0]) h fun b w=>pAgg ⟨b,0,none⟩ [.int .i64 1,.int .i64 i] w fun w1=>gAgg ⟨b,0,none⟩ 2 w1 fun x=>some (.agg ⟨x⟩,w1):=by kernel_rfl
def Dr8:Cuts:={ globs:=0,loops:=[],regs:=[],plans:=[] }
def Eo8:List Item:=A9 Tryz.f100
theorem G49 (C:A6) (R:A8) (p:List Value) (fv0:Addr) (fv1:Addr) (h:H) :
 B0 PR Dr8 C R A44 Tryz.f100 100000 true Eo8 [(0,.agg ⟨p⟩),(1,.pointer (some fv0)),(2,.pointer (some fv1))] h =
 nw (.cells D1 false p) h fun b w=>gPtr fv0 w fun x=>gInt .i64 (Addr.add fv1 1) w fun x_1=>gAgg ⟨b,0,none⟩ 36 w fun x_2=>bnd (C O8 [.pointer x,.int .i64 x_1,.agg ⟨x_2⟩] w) fun r w1=>aBool r fun x_3=>some (.bool x_3,w1):=by kernel_rfl
def Bn4:Cuts:={ globs:=0,loops:=[],regs:=[],plans:=[] }
def Dg7:List Item:=A9 Tryz.f116
theorem Ez4 (C:A6) (R:A8) (b:Option Addr) (bn bc:Nat) (h:H) :
 B0 PR Bn4 C R An2 Tryz.f116 100000 true Dg7 [(0,.slice b bn bc)] h =
 cond (((bn:Nat):Int) != 4)
 (some (.tuple ⟨[.int .i64 0,.int .i64 2]⟩,h))
 (aSome b fun p=>ck ((0:Int)≤0∧0<((bn:Nat):Int)) (gInt .u8 (Addr.add (B5 p) (Int.toNat 0*1)) h fun x=>bnd (C Ap7 [.int .i64 (IntKind.wrap .i64 (x))] h) fun r w=>as2 r fun r_1 r_2=>aSl r_1 fun x_1 xn _=>aBool r_2 fun x_2=>bnd (cond (!x_2) (some (true,w)) (gCells x_1 xn w fun cs=>asBytes cs fun l=>gCells b bn w fun cs_1=>asBytes cs_1 fun l_1=>some (!((ByteArray.mk ⟨l⟩).toList==(ByteArray.mk ⟨l_1⟩).toList),w))) fun c w1=>cond c
 (some (.tuple ⟨[.int .i64 0,.int .i64 2]⟩,w1))
 (aSome b fun p_1=>ck ((0:Int)≤0∧0<((bn:Nat):Int)) (gInt .u8 (Addr.add (B5 p_1) (Int.toNat 0*1)) w1 fun x_3=>some (.tuple ⟨[.int .i64 (IntKind.wrap .i64 (x_3)),.int .i64 1]⟩,w1))))):=by kernel_rfl
def Eq3:Cuts:={ globs:=0,loops:=[],regs:=[],plans:=[] }
def Gt6:List Item:=A9 Tryz.f121
theorem Hy5 (C:A6) (R:A8) (frames:Int) (h:H) :
 B0 PR Eq3 C R Dy1 Tryz.f121 100000 true Gt6 [(0,.int .i64 frames)] h =
 ck ((0:Int)≤IntKind.wrap .i64 (64*(mm2 false (mm2 true frames 0) 256))∧(IntKind.wrap .i64 (64*(mm2 false (mm2 true frames 0) 256)):Int)≤IntKind.wrap .i64 (64*(mm2 false (mm2 true frames 0) 256))∧IntKind.wrap .i64 (64*(mm2 false (mm2 true frames 0) 256))≤(B4:Int)) (nw (.cells A7 false (H4 (Int.toNat (IntKind.wrap .i64 (64*(mm2 false (mm2 true frames 0) 256)))) [.int .u8 0])) h fun b w=>nw (.cells El1 false [.slice (some ⟨b,0,none⟩) (Int.toNat (IntKind.wrap .i64 (64*(mm2 false (mm2 true frames 0) 256)))) (Int.toNat (IntKind.wrap .i64 (64*(mm2 false (mm2 true frames 0) 256))))]) w fun b_1 w1=>some (.pointer (some ⟨b_1,0,none⟩),w1)):=by kernel_rfl
def Eb8:Cuts:={ globs:=0,loops:=[],regs:=[],plans:=[] }
def Gg6:List Item:=A9 Tryz.f125
theorem Hx2 (C:A6) (R:A8) (lease:Int) (h:H) :
 B0 PR Eb8 C R Dh7 Tryz.f125 100000 true Gg6 [(0,.int .i64 lease)] h =
 nw (.cells E42 false [.int .i64 (mm2 false (mm2 true lease 1) 1000),.bool false,.int .i64 0,.int .i64 0,.int .i64 0,.slice none 0 0,.int .i64 0,.int .i64 0,.int .i64 0]) h fun b w=>some (.pointer (some ⟨b,0,none⟩),w):=by kernel_rfl
def Bv4:Cuts:={ globs:=0,loops:=[],regs:=[],plans:=[] }
def Dn6:List Item:=A9 Tryz.f128
theorem Ga1 (C:A6) (R:A8) (s:Option Addr) (env:Int) (c:List Value) (h:H) :
 B0 PR Bv4 C R Ba4 Tryz.f128 100000 true Dn6 [(0,.pointer s),(1,.int .i64 env),(2,.agg ⟨c⟩)] h =
 nw (.cells P6 false c) h fun b w=>bnd (C Af6 [.pointer s,.int .i64 env] w) fun r w1=>aBool r fun x=>bnd (cond (!x) (some (true,w1)) (gInt .i64 (Addr.add ⟨b,0,none⟩ 1) w1 fun x_1=>some ((D10 .i64 x_1 7) != 0,w1))) fun c_1 w2=>bnd (cond c_1 (some (true,w2)) (gInt .i64 (Addr.add ⟨b,0,none⟩ 2) w2 fun x_2=>bnd (C Ak8 [.int .i64 x_2] w2) fun r_1 w3=>aBool r_1 fun x_3=>some (!x_3,w3))) fun c_2 w4=>bnd (cond c_2 (some (true,w4)) (gInt .i64 (Addr.add ⟨b,0,none⟩ 3) w4 fun x_4=>bnd (C Ak8 [.int .i64 x_4] w4) fun r_2 w5=>aBool r_2 fun x_5=>some (!x_5,w5))) fun c_3 w6=>cond c_3
 (some (.tuple ⟨[.int .i64 0,.int .i64 1]⟩,w6))
 (pAgg (Addr.add ⟨b,0,none⟩ 4) [.int .i64 0,.int .i64 0] w6 fun w7=>gAgg ⟨b,0,none⟩ 6 w7 fun x_6=>bnd (C At7 [.pointer s,.int .i64 env,.agg ⟨x_6⟩] w7) fun r_3 w8=>as2 r_3 fun r_4 r_5=>aInt .i64 r_4 fun x_7=>aInt .i64 r_5 fun x_8=>some (.tuple ⟨[.int .i64 x_7,.int .i64 x_8]⟩,w8)):=by kernel_rfl
def Ay6:Cuts:={ globs:=0,loops:=[(3,[0,1,5,6])],regs:=[],plans:=[] }
def Bh9:List Item:=A9 Tryz.f130
def Al8:List Item:=stk [0,1,0,1,0,0,1,4,5] Bh9
theorem Eo1 (C:A6) (R:A8) (q:Option Addr) (s:Int) (h:H) :
 B0 PR Ay6 C R N7 Tryz.f130 100000 true Bh9 [(0,.pointer q),(1,.int .i64 s)] h =
 R N7 Al8 [(0,.pointer q),(1,.int .i64 s),(5,.int .i64 0),(6,.int .i64 0)] h:=by kernel_rfl
theorem Bw6 (C:A6) (R:A8) (q:Option Addr) (s:Int) (n:Int) (i:Int) (h:H) :
 B0 PR Ay6 C R N7 Tryz.f130 100000 true Al8 [(0,.pointer q),(1,.int .i64 s),(5,.int .i64 n),(6,.int .i64 i)] h =
 cond (decide (i<s))
 (aSome q fun p=>gSl (Addr.add p 0) h fun x xn _=>aSome x fun p_1=>ck ((0:Int)≤i∧i<((xn:Nat):Int)) (gSl (Addr.add (B5 p_1) (Int.toNat i*1)) h fun _ xn_1 _=>R N7 Al8 [(0,.pointer q),(1,.int .i64 s),(5,.int .i64 (IntKind.wrap .i64 (n+((xn_1:Nat):Int)))),(6,.int .i64 (IntKind.wrap .i64 (i+1)))] h))
 (some (.int .i64 n,h)):=by kernel_rfl
def Bi9:Cuts:={ globs:=0,loops:=[],regs:=[],plans:=[] }
def Dc9:List Item:=A9 Tryz.f137
theorem El0 (C:A6) (R:A8) (s:Option Addr) (env:Int) (h:H) :
 B0 PR Bi9 C R Ak6 Tryz.f137 100000 true Dc9 [(0,.pointer s),(1,.int .i64 env)] h =
 bnd (C Af6 [.pointer s,.int .i64 env] h) fun r w=>aBool r fun x=>cond (!x)
 (some (.slice none 0 0,w))
 (aSome s fun p=>gSl (Addr.add p 0) w fun x_1 xn _=>aSome x_1 fun p_1=>ck ((0:Int)≤env∧env<((xn:Nat):Int)) (gPtr (Addr.add (B5 p_1) (Int.toNat env*1)) w fun x_2=>bnd (C G3 [.pointer x_2] w) fun r_1 w1=>aSl r_1 fun x_3 xn_1 xc_1=>some (.slice x_3 xn_1 xc_1,w1))):=by kernel_rfl
def A66:Cuts:={ globs:=0,loops:=[],regs:=[],plans:=[] }
def Bx2:List Item:=A9 Tryz.f141
theorem D64 (C:A6) (R:A8) (r:Option Addr) (env:Int) (fromv:Int) (atv:Int) (to:Int) (on:Int) (n:Int) (h:H) :
 B0 PR A66 C R Al5 Tryz.f141 100000 true Bx2 [(0,.pointer r),(1,.int .i64 env),(2,.int .i64 fromv),(3,.int .i64 atv),(4,.int .i64 to),(5,.int .i64 on),(6,.int .i64 n)] h =
 bnd (C Ad0 [.pointer r,.int .i64 env,.int .i64 fromv,.int .i64 atv,.int .i64 n] h) fun r_1 w=>as2 r_1 fun r_2 r_3=>aSl r_2 fun x xn xc=>aInt .i64 r_3 fun x_1=>cond (x_1 != 0)
 (some (.int .i64 x_1,w))
 (bnd (C Ab3 [.pointer r,.int .i64 env,.int .i64 to,.int .i64 on,.slice x xn xc] w) fun r_4 w1=>aInt .i64 r_4 fun x_2=>some (.int .i64 x_2,w1)):=by kernel_rfl
def A94:Cuts:={ globs:=0,loops:=[],regs:=[],plans:=[(6,⟨[0,1,2,3,4,5,6,7,8,9,10,11,12,13,14,15,16,17,18,19,20,21],[0,0,0,4,15,31,63,127,255,511,1023,2047,4095,8191,4095,20479,53247,118783,249855,524287,1048575,2097151],[],[]⟩),(8,⟨[0,1,2,3,4,5,6,7,8,9,10,11,12,13,14,15,16,17,18,19,20,21,22,23,24,25,26,27,28,29,30],[0,1,0,0,8,24,56,0,128,504,1016,2047,4095,8191,16383,32767,16383,131071,16383,16383,540671,1589247,3686399,16383,8404991,33046527,66600959,134217727,268435455,536870911,1073741823],[],[]⟩),(10,⟨[0,1,2,3,4,5,6,7,8,9,10,11,12,13,14],[0,1,3,7,0,16,63,127,0,256,1023,0,4095,8191,16383],[],[]⟩)] }
def B02:List Item:=A9 Tryz.f148
theorem Ed4 (C:A6) (R:A8) (r:Option Addr) (e:Int) (name:Int) (right:Int) (atv:Int) (n:Int) (h:H) :
 B0 PR A94 C R Aq6 Tryz.f148 100000 true B02 [(0,.pointer r),(1,.int .i64 e),(2,.int .i64 name),(3,.int .i64 right),(4,.int .i64 atv),(5,.int .i64 n)] h =
 aSome r fun p=>gPtr (Addr.add p 3) h fun x=>bnd (C A78 [.pointer x,.int .i64 e,.int .i64 name] h) fun r_1 w=>as2 r_1 fun r_2 r_3=>aAgg r_2 fun x_1=>aInt .i64 r_3 fun x_2=>nw (.cells P6 false [.int .i64 0,.int .i64 0,.int .i64 0,.int .i64 0,.int .i64 0,.int .i64 0]) w fun b w1=>ck (List.length x_1=6) (pAgg ⟨b,0,none⟩ x_1 w1 fun w2=>cond (x_2 != 0)
 (some (.tuple ⟨[.int .i64 0,.int .i64 x_2]⟩,w2))
 (gInt .i64 (Addr.add ⟨b,0,none⟩ 1) w2 fun x_3=>cond ((P3 .i64 x_3 right)==0)
 (some (.tuple ⟨[.int .i64 0,.int .i64 3]⟩,w2))
 (gInt .i64 (Addr.add ⟨b,0,none⟩ 3) w2 fun x_4=>bnd (C Ag8 [.int .i64 atv,.int .i64 n,.int .i64 x_4] w2) fun r_4 w3=>aBool r_4 fun x_5=>bnd (cond (!x_5) (some (true,w3)) (gInt .i64 (Addr.add ⟨b,0,none⟩ 0) w3 fun x_6=>some (decide (x_6<0),w3))) fun c w4=>bnd (cond c (some (true,w4)) (gInt .i64 (Addr.add ⟨b,0,none⟩ 0) w4 fun x_7=>aSome r fun p_1=>gSl (Addr.add p_1 1) w4 fun _ xn _=>some (decide (x_7≥((xn:Nat):Int)),w4))) fun c_1 w5=>cond c_1
 (some (.tuple ⟨[.int .i64 0,.int .i64 1]⟩,w5))
 (gInt .i64 (Addr.add ⟨b,0,none⟩ 2) w5 fun x_9=>aSome r fun p_2=>gSl (Addr.add p_2 2) w5 fun x_10 xn_1 _=>gInt .i64 (Addr.add ⟨b,0,none⟩ 0) w5 fun x_11=>aSome x_10 fun p_3=>ck ((0:Int)≤x_11∧x_11<((xn_1:Nat):Int)) (gInt .i64 (Addr.add (B5 p_3) (Int.toNat x_11*1)) w5 fun x_12=>bnd (C Ag8 [.int .i64 x_9,.int .i64 atv,.int .i64 x_12] w5) fun r_5 w6=>aBool r_5 fun x_13=>bnd (cond (!x_13) (some (true,w6)) (gInt .i64 (Addr.add ⟨b,0,none⟩ 2) w6 fun x_14=>aSome r fun p_4=>gSl (Addr.add p_4 2) w6 fun x_15 xn_2 _=>gInt .i64 (Addr.add ⟨b,0,none⟩ 0) w6 fun x_16=>aSome x_15 fun p_5=>ck ((0:Int)≤x_16∧x_16<((xn_2:Nat):Int)) (gInt .i64 (Addr.add (B5 p_5) (Int.toNat x_16*1)) w6 fun x_17=>bnd (C Ag8 [.int .i64 (IntKind.wrap .i64 (x_14+atv)),.int .i64 n,.int .i64 x_17] w6) fun r_6 w7=>aBool r_6 fun x_18=>some (!x_18,w7)))) fun c_2 w8=>cond c_2
 (some (.tuple ⟨[.int .i64 0,.int .i64 1]⟩,w8))
 (aSome r fun p_6=>gSl (Addr.add p_6 1) w8 fun x_19 xn_3 _=>gInt .i64 (Addr.add ⟨b,0,none⟩ 0) w8 fun x_20=>aSome x_19 fun p_7=>ck ((0:Int)≤x_20∧x_20<((xn_3:Nat):Int)) (gInt .i64 (Addr.add (B5 p_7) (Int.toNat x_20*1)) w8 fun x_21=>gInt .i64 (Addr.add ⟨b,0,none⟩ 2) w8 fun x_22=>some (.tuple ⟨[.int .i64 (IntKind.wrap .i64 ((IntKind.wrap .i64 (x_21+x_22))+atv)),.int .i64 0]⟩,w8)))))))):=by kernel_rfl
def Bs7:Cuts:={ globs:=0,loops:=[],regs:=[],plans:=[] }
def Dt4:List Item:=A9 Tryz.f149
theorem E95 (C:A6) (R:A8) (s:Option Addr) (e:Int) (name:Int) (h:H) :
 B0 PR Bs7 C R A78 Tryz.f149 100000 true Dt4 [(0,.pointer s),(1,.int .i64 e),(2,.int .i64 name)] h =
 nw (.cells P6 false [.int .i64 0,.int .i64 0,.int .i64 0,.int .i64 0,.int .i64 0,.int .i64 0]) h fun b w=>bnd (C Ai5 [.pointer s,.int .i64 e] w) fun r w1=>aBool r fun x=>bnd (cond (!x) (some (true,w1)) (aSome s fun p=>gSl (Addr.add p 0) w1 fun x_1 xn _=>aSome x_1 fun p_1=>ck ((0:Int)≤e∧e<((xn:Nat):Int)) (gPtr (Addr.add (B5 p_1) (Int.toNat e*1)) w1 fun x_2=>bnd (C A82 [.pointer x_2,.int .i64 name] w1) fun r_1 w2=>aBool r_1 fun x_3=>some (!x_3,w2)))) fun c w3=>cond c
 (pAgg ⟨b,0,none⟩ [.int .i64 0,.int .i64 0,.int .i64 0,.int .i64 0,.int .i64 0,.int .i64 0] w3 fun w4=>gAgg ⟨b,0,none⟩ 6 w4 fun x_4=>some (.tuple ⟨[.agg ⟨x_4⟩,.int .i64 2]⟩,w4))
 (aSome s fun p_2=>gSl (Addr.add p_2 1) w3 fun x_5 xn_1 _=>aSome x_5 fun p_3=>ck ((0:Int)≤e∧e<((xn_1:Nat):Int)) (gSl (Addr.add (B5 p_3) (Int.toNat e*1)) w3 fun x_6 xn_2 _=>aSome x_6 fun p_4=>ck ((0:Int)≤P3 .i64 name 255∧P3 .i64 name 255<((xn_2:Nat):Int)) (gAgg (Addr.add (B5 p_4) (Int.toNat (P3 .i64 name 255)*6)) 6 w3 fun x_7=>ck (List.length x_7=6) (pAgg ⟨b,0,none⟩ x_7 w3 fun w5=>gAgg ⟨b,0,none⟩ 6 w5 fun x_8=>some (.tuple ⟨[.agg ⟨x_8⟩,.int .i64 0]⟩,w5))))):=by kernel_rfl
def Bu6:Cuts:={ globs:=0,loops:=[],regs:=[],plans:=[] }
def Dt5:List Item:=A9 Tryz.f150
theorem E49 (C:A6) (R:A8) (s:Option Addr) (e:Int) (h:H) :
 B0 PR Bu6 C R Ai5 Tryz.f150 100000 true Dt5 [(0,.pointer s),(1,.int .i64 e)] h =
 bnd (cond (decide (e≥0)) (aSome s fun p=>gSl (Addr.add p 0) h fun _ xn _=>some (decide (e<((xn:Nat):Int)),h)) (some (false,h))) fun c w=>some (.bool c,w):=by kernel_rfl
def Ag9:Cuts:={ globs:=0,loops:=[],regs:=[],plans:=[(4,⟨[0,1,2,3,4,10,5,6,7,8,9,11,12],[0,1,3,7,0,16,63,127,255,255,0,1535,4095],[(5,[3])],[]⟩)] }
def A24:List Item:=A9 Tryz.f164
theorem B40 (C:A6) (R:A8) (c:Option Addr) (b:Option Addr) (bn bc:Nat) (h:H) :
 B0 PR Ag9 C R V7 Tryz.f164 100000 true A24 [(0,.pointer c),(1,.slice b bn bc)] h =
 nw (.cells D1 false [.int .i64 0,.int .i64 0,.int .i64 0,.int .i64 0,.int .u8 0,.int .u8 0,.int .u8 0,.int .u8 0,.int .u8 0,.int .u8 0,.int .u8 0,.int .u8 0,.int .u8 0,.int .u8 0,.int .u8 0,.int .u8 0,.int .u8 0,.int .u8 0,.int .u8 0,.int .u8 0,.int .u8 0,.int .u8 0,.int .u8 0,.int .u8 0,.int .u8 0,.int .u8 0,.int .u8 0,.int .u8 0,.int .u8 0,.int .u8 0,.int .u8 0,.int .u8 0,.int .u8 0,.int .u8 0,.int .u8 0,.int .u8 0]) h fun b_1 w=>nw (.cells D1 false [.int .i64 0,.int .i64 0,.int .i64 0,.int .i64 0,.int .u8 0,.int .u8 0,.int .u8 0,.int .u8 0,.int .u8 0,.int .u8 0,.int .u8 0,.int .u8 0,.int .u8 0,.int .u8 0,.int .u8 0,.int .u8 0,.int .u8 0,.int .u8 0,.int .u8 0,.int .u8 0,.int .u8 0,.int .u8 0,.int .u8 0,.int .u8 0,.int .u8 0,.int .u8 0,.int .u8 0,.int .u8 0,.int .u8 0,.int .u8 0,.int .u8 0,.int .u8 0,.int .u8 0,.int .u8 0,.int .u8 0,.int .u8 0]) w fun b_2 w1=>aSome c fun p=>gFv (Addr.add p 2) w1 fun x=>isNilF x fun b_3=>bnd (cond b_3 (some (true,w1)) (aSome c fun p_1=>gInt .i64 (Addr.add p_1 0) w1 fun x_1=>some (((bn:Nat):Int) != x_1,w1))) fun c_1 w2=>cond c_1
 (gAgg ⟨b_2,0,none⟩ 36 w2 fun x_2=>ck (List.length x_2=36) (pAgg ⟨b_1,0,none⟩ x_2 w2 fun w3=>gAgg ⟨b_1,0,none⟩ 36 w3 fun x_3=>some (.tuple ⟨[.agg ⟨x_3⟩,.bool false]⟩,w3)))
 (aSome c fun p_2=>gFv (Addr.add p_2 2) w2 fun x_4=>nw (.cells D1 false [.int .i64 0,.int .i64 0,.int .i64 0,.int .i64 0,.int .u8 0,.int .u8 0,.int .u8 0,.int .u8 0,.int .u8 0,.int .u8 0,.int .u8 0,.int .u8 0,.int .u8 0,.int .u8 0,.int .u8 0,.int .u8 0,.int .u8 0,.int .u8 0,.int .u8 0,.int .u8 0,.int .u8 0,.int .u8 0,.int .u8 0,.int .u8 0,.int .u8 0,.int .u8 0,.int .u8 0,.int .u8 0,.int .u8 0,.int .u8 0,.int .u8 0,.int .u8 0,.int .u8 0,.int .u8 0,.int .u8 0,.int .u8 0]) w2 fun b_4 w4=>bnd (C G7 [.slice b bn bc] w4) fun r w5=>aSl r fun x_5 xn xc=>gFv (Addr.add p_2 2) w5 fun x_6=>Bk5 (x_4) (x_6) (aFn x_4 fun g fi cp=>bnd (C g (fi++([.slice x_5 xn xc]++cp)) w5) fun r_1 w6=>as2 r_1 fun r_2 r_3=>aAgg r_2 fun x_7=>aBool r_3 fun x_8=>ck (List.length x_7=36) (pAgg ⟨b_4,0,none⟩ x_7 w6 fun w7=>cond (!x_8)
 (gAgg ⟨b_2,0,none⟩ 36 w7 fun x_9=>ck (List.length x_9=36) (pAgg ⟨b_1,0,none⟩ x_9 w7 fun w8=>gAgg ⟨b_1,0,none⟩ 36 w8 fun x_10=>some (.tuple ⟨[.agg ⟨x_10⟩,.bool false]⟩,w8)))
 (gAgg ⟨b_4,0,none⟩ 36 w7 fun x_11=>ck (List.length x_11=36) (pAgg ⟨b_1,0,none⟩ x_11 w7 fun w9=>gAgg ⟨b_1,0,none⟩ 36 w9 fun x_12=>some (.tuple ⟨[.agg ⟨x_12⟩,.bool true]⟩,w9)))))):=by kernel_rfl
def Aw1:Cuts:={ globs:=0,loops:=[],regs:=[],plans:=[] }
def Bm8:List Item:=A9 Tryz.f166
theorem Du3 (C:A6) (R:A8) (c:Option Addr) (r:List Value) (h:H) :
 B0 PR Aw1 C R Q5 Tryz.f166 100000 true Bm8 [(0,.pointer c),(1,.agg ⟨r⟩)] h =
 nw (.cells D9 false r) h fun b w=>nw (.cells Bf6 false [.int .i64 0,.int .i64 0,.int .i64 0]) w fun b_1 w1=>gInt .i64 (Addr.add ⟨b,0,none⟩ 1) w1 fun x=>bnd (cond (decide (x<0)) (some (true,w1)) (gInt .i64 (Addr.add ⟨b,0,none⟩ 0) w1 fun x_1=>bnd (C Ab7 [.pointer c,.int .i64 x_1] w1) fun r_1 w2=>aInt .i64 r_1 fun x_2=>some (decide (x≥x_2),w2))) fun c_1 w3=>cond c_1
 (pAgg ⟨b_1,0,none⟩ [.int .i64 0,.int .i64 0,.int .i64 0] w3 fun w4=>gAgg ⟨b_1,0,none⟩ 3 w4 fun x_3=>some (.tuple ⟨[.agg ⟨x_3⟩,.bool false]⟩,w4))
 (aSome c fun p=>gSl (Addr.add p 2) w3 fun x_4 xn _=>aSome x_4 fun p_1=>ck ((0:Int)≤0∧0<((xn:Nat):Int)) (gInt .i64 (Addr.add (B5 p_1) (Int.toNat 0*1)) w3 fun x_5=>gInt .i64 (Addr.add ⟨b,0,none⟩ 0) w3 fun x_6=>cond (x_6==1)
 (pAgg ⟨b_1,0,none⟩ [.int .i64 x_5,.int .i64 (IntKind.wrap .i64 (24*x)),.int .i64 24] w3 fun w5=>gAgg ⟨b_1,0,none⟩ 3 w5 fun x_7=>some (.tuple ⟨[.agg ⟨x_7⟩,.bool true]⟩,w5))
 (gInt .i64 (Addr.add ⟨b,0,none⟩ 0) w3 fun x_8=>cond (x_8==2)
 (pAgg ⟨b_1,0,none⟩ [.int .i64 x_5,.int .i64 (IntKind.wrap .i64 (192+(IntKind.wrap .i64 (8*x)))),.int .i64 8] w3 fun w6=>gAgg ⟨b_1,0,none⟩ 3 w6 fun x_9=>some (.tuple ⟨[.agg ⟨x_9⟩,.bool true]⟩,w6))
 (gInt .i64 (Addr.add ⟨b,0,none⟩ 0) w3 fun x_10=>bnd (cond (x_10==3) (some (decide (x<4),w3)) (some (false,w3))) fun c_2 w7=>cond c_2
 (pAgg ⟨b_1,0,none⟩ [.int .i64 x_5,.int .i64 (IntKind.wrap .i64 (288+(IntKind.wrap .i64 (40*x)))),.int .i64 40] w7 fun w8=>gAgg ⟨b_1,0,none⟩ 3 w8 fun x_11=>some (.tuple ⟨[.agg ⟨x_11⟩,.bool true]⟩,w8))
 (gInt .i64 (Addr.add ⟨b,0,none⟩ 0) w7 fun x_12=>cond (x_12==3)
 (aSome c fun p_2=>gSl (Addr.add p_2 2) w7 fun x_13 xn_1 _=>aSome x_13 fun p_3=>ck ((0:Int)≤IntKind.wrap .i64 ((IntKind.wrap .i64 (x-4))+1)∧IntKind.wrap .i64 ((IntKind.wrap .i64 (x-4))+1)<((xn_1:Nat):Int)) (gInt .i64 (Addr.add (B5 p_3) (Int.toNat (IntKind.wrap .i64 ((IntKind.wrap .i64 (x-4))+1))*1)) w7 fun x_14=>pAgg ⟨b_1,0,none⟩ [.int .i64 x_14,.int .i64 0,.int .i64 40] w7 fun w9=>gAgg ⟨b_1,0,none⟩ 3 w9 fun x_15=>some (.tuple ⟨[.agg ⟨x_15⟩,.bool true]⟩,w9)))
 (gInt .i64 (Addr.add ⟨b,0,none⟩ 0) w7 fun x_16=>cond (x_16==4)
 (pAgg ⟨b_1,0,none⟩ [.int .i64 x_5,.int .i64 448,.int .i64 40] w7 fun w10=>gAgg ⟨b_1,0,none⟩ 3 w10 fun x_17=>some (.tuple ⟨[.agg ⟨x_17⟩,.bool true]⟩,w10))
 (pAgg ⟨b_1,0,none⟩ [.int .i64 x_5,.int .i64 488,.int .i64 4] w7 fun w11=>gAgg ⟨b_1,0,none⟩ 3 w11 fun x_18=>some (.tuple ⟨[.agg ⟨x_18⟩,.bool true]⟩,w11)))))))):=by kernel_rfl
def E98:Cuts:={ globs:=0,loops:=[],regs:=[],plans:=[] }
def G36:List Item:=A9 Tryz.f170
theorem H96 (C:A6) (R:A8) (n:Int) (h:H) :
 B0 PR E98 C R Eb0 Tryz.f170 100000 true G36 [(0,.int .i64 n)] h =
 bnd (cond (decide (n≥1)) (some (decide (n≤15),h)) (some (false,h))) fun c w=>some (.bool c,w):=by kernel_rfl
def Ae2:Cuts:={ globs:=0,loops:=[],regs:=[],plans:=[] }
def Av7:List Item:=A9 Tryz.f176
theorem Av5 (C:A6) (R:A8) (s:Option Addr) (sn sc:Nat) (f:Value) (h:H) :
 B0 PR Ae2 C R E8 Tryz.f176 100000 true Av7 [(0,.slice s sn sc),(1,f)] h =
 bnd (C D7 [.slice s sn sc,f] h) fun r w=>aInt .i64 r fun x=>some (.bool (decide (x≥0)),w):=by kernel_rfl
def Bi8:Cuts:={ globs:=0,loops:=[],regs:=[],plans:=[] }
def Db5:List Item:=A9 Tryz.f180
theorem Es5 (C:A6) (R:A8) (n:Int) (h:H) :
 B0 PR Bi8 C R Ak8 Tryz.f180 100000 true Db5 [(0,.int .i64 n)] h =
 bnd (cond (decide (n≥0)) (some (decide (n≤65536),h)) (some (false,h))) fun c w=>some (.bool c,w):=by kernel_rfl
def B58:Cuts:={ globs:=0,loops:=[],regs:=[],plans:=[] }
def D74:List Item:=A9 Tryz.f187
theorem Gn5 (C:A6) (R:A8) (m:Option Addr) (atv:Int) (n:Int) (h:H) :
 B0 PR B58 C R Bl9 Tryz.f187 100000 true D74 [(0,.pointer m),(1,.int .i64 atv),(2,.int .i64 n)] h =
 bnd (C Bh4 [.pointer m,.int .i64 atv,.int .i64 n] h) fun r w=>aBool r fun x=>cond (!x)
 (some (.tuple ⟨[.slice none 0 0,.int .i64 1]⟩,w))
 (aSome m fun p=>gSl (Addr.add p 0) w fun x_1 _ xc=>ckB (fitsOpen x_1 A7 w) (ck ((0:Int)≤IntKind.wrap .i64 (atv+n)∧IntKind.wrap .i64 (atv+n)≤((xc:Nat):Int)) (ck ((0:Int)≤atv∧atv≤((Int.toNat (IntKind.wrap .i64 (atv+n)):Nat):Int)) (bnd (C G7 [.slice (H5 x_1 (decide (Int.toNat atv<xc)) ((Int.toNat atv)*1)) ((Int.toNat (IntKind.wrap .i64 (atv+n)))-(Int.toNat atv)) (xc-(Int.toNat atv))] w) fun r_1 w1=>aSl r_1 fun x_2 xn_1 xc_1=>some (.tuple ⟨[.slice x_2 xn_1 xc_1,.int .i64 0]⟩,w1))))):=by kernel_rfl
def A88:Cuts:={ globs:=0,loops:=[(2,[0,4])],regs:=[],plans:=[] }
def Bu1:List Item:=A9 Tryz.f198
def Av4:List Item:=stk [0,1,0,0,1,4,5] Bu1
theorem E83 (C:A6) (R:A8) (n:Option Addr) (h:H) :
 B0 PR A88 C R Y0 Tryz.f198 100000 true Bu1 [(0,.pointer n)] h =
 R Y0 Av4 [(0,.pointer n),(4,.int .i64 0)] h:=by kernel_rfl
theorem B49 (C:A6) (R:A8) (n:Option Addr) (i:Int) (h:H) :
 B0 PR A88 C R Y0 Tryz.f198 100000 true Av4 [(0,.pointer n),(4,.int .i64 i)] h =
 aSome n fun p=>gSl (Addr.add p 0) h fun _ xn _=>cond (decide (i<((xn:Nat):Int)))
 (aSome n fun p_1=>gSl (Addr.add p_1 0) h fun x_1 xn_1 _=>aSome x_1 fun p_2=>ck ((0:Int)≤i∧i<((xn_1:Nat):Int)) (gBool (Addr.add (Addr.add (B5 p_2) (Int.toNat i*2)) 1) h fun x_2=>bnd (cond (!x_2) (aSome n fun p_3=>gSl (Addr.add p_3 0) h fun x_3 xn_2 _=>aSome x_3 fun p_4=>ck ((0:Int)≤i∧i<((xn_2:Nat):Int)) (gInt .i64 (Addr.add (Addr.add (B5 p_4) (Int.toNat i*2)) 0) h fun x_4=>some (decide (x_4≤1000000),h))) (some (false,h))) fun c w=>cond c
 (aSome n fun p_5=>gSl (Addr.add p_5 0) w fun x_5 xn_3 _=>aSome x_5 fun p_6=>ck ((0:Int)≤i∧i<((xn_3:Nat):Int)) (pV (Addr.add (Addr.add (B5 p_6) (Int.toNat i*2)) 1) (.bool true) w fun w1=>aSome n fun p_7=>gSl (Addr.add p_7 0) w1 fun x_6 xn_4 _=>aSome x_6 fun p_8=>ck ((0:Int)≤i∧i<((xn_4:Nat):Int)) (gInt .i64 (Addr.add (Addr.add (B5 p_8) (Int.toNat i*2)) 0) w1 fun x_7=>some (.tuple ⟨[.int .i64 (IntKind.wrap .i64 (i+(IntKind.wrap .i64 (256*x_7)))),.bool true]⟩,w1))))
 (R Y0 Av4 [(0,.pointer n),(4,.int .i64 (IntKind.wrap .i64 (i+1)))] w)))
 (some (.tuple ⟨[.int .i64 0,.bool false]⟩,h)):=by kernel_rfl
def D18:Cuts:={ globs:=0,loops:=[],regs:=[],plans:=[] }
def E36:List Item:=A9 Tryz.f204
theorem Hi5 (C:A6) (R:A8) (f:List Value) (b:Option Addr) (bn bc:Nat) (h:H) :
 B0 PR D18 C R As0 Tryz.f204 100000 true E36 [(0,.agg ⟨f⟩),(1,.slice b bn bc)] h =
 nw (.cells D5 false f) h fun b_1 w=>gAgg ⟨b_1,0,none⟩ 4 w fun x=>bnd (C Dl6 [.agg ⟨x⟩] w) fun r w1=>aBool r fun x_1=>cond (!x_1)
 (some (.bool false,w1))
 (gInt .i64 (Addr.add ⟨b_1,0,none⟩ 0) w1 fun x_2=>gInt .i64 (Addr.add ⟨b_1,0,none⟩ 1) w1 fun x_3=>gInt .i64 (Addr.add ⟨b_1,0,none⟩ 2) w1 fun x_4=>gInt .i64 (Addr.add ⟨b_1,0,none⟩ 3) w1 fun x_5=>nw (.cells A7 false [.int .u8 (IntKind.wrap .u8 (x_2)),.int .u8 (IntKind.wrap .u8 (x_3)),.int .u8 (IntKind.wrap .u8 (x_4)),.int .u8 (IntKind.wrap .u8 (x_5)),.int .u8 179]) w1 fun b_2 w2=>gCells (some ⟨b_2,0,none⟩) (min 5 bn*1) w2 fun cs=>pCells b cs w2 fun w3=>ckB (fitsOpen b A7 w3) (ck ((0:Int)≤5∧5≤((bc:Nat):Int)) (bnd (C Ab2 [.slice (H5 b (decide (0<bc)) (0*1)) ((Int.toNat 5)-0) (bc-0)] w3) fun r_1 w4=>aInt .u8 r_1 fun x_6=>aSome b fun p=>ck ((0:Int)≤5∧5<((bn:Nat):Int)) (pV (Addr.add (B5 p) (Int.toNat 5*1)) (.int .u8 x_6) w4 fun w5=>some (.bool true,w5))))):=by kernel_rfl
def Am6:Cuts:={ globs:=0,loops:=[],regs:=[],plans:=[] }
def Bc7:List Item:=A9 Tryz.f206
theorem Bc4 (C:A6) (R:A8) (s:Option Addr) (sn sc:Nat) (h:H) :
 B0 PR Am6 C R G7 Tryz.f206 100000 true Bc7 [(0,.slice s sn sc)] h =
 cond s.isNone
 (some (.slice none 0 0,h))
 (nw (.cells A7 false []) h fun b w=>gCells s (sn*1) w fun cs=>ckB (fitsOpen (some ⟨b,0,none⟩) A7 w) (apd A7 1 (some ⟨b,0,none⟩) 0 0 sn cs w fun a an ac w1=>some (.slice a an ac,w1))):=by kernel_rfl
def D91:Cuts:={ globs:=0,loops:=[],regs:=[],plans:=[(5,⟨[0,1,2,3,4],[0,1,0,4,15],[],[]⟩)] }
def Ge3:List Item:=A9 Tryz.f208
theorem Ho7 (C:A6) (R:A8) (p:List Value) (b:Option Addr) (bn bc:Nat) (h:H) :
 B0 PR D91 C R Bk3 Tryz.f208 100000 true Ge3 [(0,.agg ⟨p⟩),(1,.slice b bn bc)] h =
 nw (.cells D1 false p) h fun b_1 w=>gAgg ⟨b_1,0,none⟩ 36 w fun x=>bnd (C Bx1 [.agg ⟨x⟩] w) fun r w1=>aBool r fun x_1=>cond (!x_1)
 (some (.bool false,w1))
 (gInt .i64 (Addr.add ⟨b_1,0,none⟩ 0) w1 fun x_2=>gInt .i64 (Addr.add ⟨b_1,0,none⟩ 1) w1 fun x_3=>gInt .i64 (Addr.add ⟨b_1,0,none⟩ 2) w1 fun x_4=>gInt .i64 (Addr.add ⟨b_1,0,none⟩ 3) w1 fun x_5=>nw (.cells A7 false [.int .u8 1,.int .u8 (IntKind.wrap .u8 (x_2)),.int .u8 (IntKind.wrap .u8 (x_3)),.int .u8 (IntKind.wrap .u8 (x_4)),.int .u8 (IntKind.wrap .u8 (x_5)),.int .u8 197]) w1 fun b_2 w2=>gCells (some ⟨b_2,0,none⟩) (min 6 bn*1) w2 fun cs=>pCells b cs w2 fun w3=>ckB (fitsOpen b A7 w3) (ck ((0:Int)≤6∧6≤((bc:Nat):Int)) (bnd (C Ab2 [.slice (H5 b (decide (0<bc)) (0*1)) ((Int.toNat 6)-0) (bc-0)] w3) fun r_1 w4=>aInt .u8 r_1 fun x_6=>aSome b fun p_1=>ck ((0:Int)≤6∧6<((bn:Nat):Int)) (pV (Addr.add (B5 p_1) (Int.toNat 6*1)) (.int .u8 x_6) w4 fun w5=>ckB (fitsOpen b A7 w5) (ck ((0:Int)≤8∧8≤((bn:Nat):Int)) (ckB (liveA (Addr.add ⟨b_1,0,none⟩ 4) w5) (gCells (H5 (some (Addr.add ⟨b_1,0,none⟩ 4)) (decide (0<32)) (0*1)) (min (32-0) (bn-(Int.toNat 8))*1) w5 fun cs_1=>pCells (H5 b (decide (Int.toNat 8<bc)) ((Int.toNat 8)*1)) cs_1 w5 fun w6=>some (.bool true,w6)))))))):=by kernel_rfl
def Ee1:Cuts:={ globs:=0,loops:=[],regs:=[],plans:=[(1,⟨[0,1,2,3,4,5,6,7,8,9,10,11,12,13,14,15,16,17,18],[0,1,3,7,0,16,48,112,0,256,768,1792,0,4096,12288,28672,65535,0,262143],[],[]⟩),(2,⟨[0,1,2,3,4],[0,1,0,4,15],[],[]⟩),(4,⟨[0,1,2,3,4,5,6,7,8],[0,0,2,6,6,30,62,63,255],[(5,[0])],[]⟩)] }
def Gg2:List Item:=A9 Tryz.f209
theorem Hp3 (C:A6) (R:A8) (b:Option Addr) (bn bc:Nat) (h:H) :
 B0 PR Ee1 C R Bk7 Tryz.f209 100000 true Gg2 [(0,.slice b bn bc)] h =
 nw (.cells D1 false [.int .i64 0,.int .i64 0,.int .i64 0,.int .i64 0,.int .u8 0,.int .u8 0,.int .u8 0,.int .u8 0,.int .u8 0,.int .u8 0,.int .u8 0,.int .u8 0,.int .u8 0,.int .u8 0,.int .u8 0,.int .u8 0,.int .u8 0,.int .u8 0,.int .u8 0,.int .u8 0,.int .u8 0,.int .u8 0,.int .u8 0,.int .u8 0,.int .u8 0,.int .u8 0,.int .u8 0,.int .u8 0,.int .u8 0,.int .u8 0,.int .u8 0,.int .u8 0,.int .u8 0,.int .u8 0,.int .u8 0,.int .u8 0]) h fun b_1 w=>aSome b fun p=>ck ((0:Int)≤1∧1<((bn:Nat):Int)) (gInt .u8 (Addr.add (B5 p) (Int.toNat 1*1)) w fun x=>aSome b fun p_1=>ck ((0:Int)≤2∧2<((bn:Nat):Int)) (gInt .u8 (Addr.add (B5 p_1) (Int.toNat 2*1)) w fun x_1=>aSome b fun p_2=>ck ((0:Int)≤3∧3<((bn:Nat):Int)) (gInt .u8 (Addr.add (B5 p_2) (Int.toNat 3*1)) w fun x_2=>aSome b fun p_3=>ck ((0:Int)≤4∧4<((bn:Nat):Int)) (gInt .u8 (Addr.add (B5 p_3) (Int.toNat 4*1)) w fun x_3=>nw (.cells D1 false [.int .i64 0,.int .i64 0,.int .i64 0,.int .i64 0,.int .u8 0,.int .u8 0,.int .u8 0,.int .u8 0,.int .u8 0,.int .u8 0,.int .u8 0,.int .u8 0,.int .u8 0,.int .u8 0,.int .u8 0,.int .u8 0,.int .u8 0,.int .u8 0,.int .u8 0,.int .u8 0,.int .u8 0,.int .u8 0,.int .u8 0,.int .u8 0,.int .u8 0,.int .u8 0,.int .u8 0,.int .u8 0,.int .u8 0,.int .u8 0,.int .u8 0,.int .u8 0,.int .u8 0,.int .u8 0,.int .u8 0,.int .u8 0]) w fun b_2 w1=>pAgg ⟨b_2,0,none⟩ [.int .i64 (IntKind.wrap .i64 (x)),.int .i64 (IntKind.wrap .i64 (x_1)),.int .i64 (IntKind.wrap .i64 (x_2)),.int .i64 (IntKind.wrap .i64 (x_3)),.int .u8 0,.int .u8 0,.int .u8 0,.int .u8 0,.int .u8 0,.int .u8 0,.int .u8 0,.int .u8 0,.int .u8 0,.int .u8 0,.int .u8 0,.int .u8 0,.int .u8 0,.int .u8 0,.int .u8 0,.int .u8 0,.int .u8 0,.int .u8 0,.int .u8 0,.int .u8 0,.int .u8 0,.int .u8 0,.int .u8 0,.int .u8 0,.int .u8 0,.int .u8 0,.int .u8 0,.int .u8 0,.int .u8 0,.int .u8 0,.int .u8 0,.int .u8 0] w1 fun w2=>ckB (liveA (Addr.add ⟨b_2,0,none⟩ 4) w2) (ckB (fitsOpen b A7 w2) (ck ((0:Int)≤8∧8≤((bn:Nat):Int)) (gCells (H5 b (decide (Int.toNat 8<bc)) ((Int.toNat 8)*1)) (min (bn-(Int.toNat 8)) (32-0)*1) w2 fun cs=>pCells (H5 (some (Addr.add ⟨b_2,0,none⟩ 4)) (decide (0<32)) (0*1)) cs w2 fun w3=>gAgg ⟨b_2,0,none⟩ 36 w3 fun x_4=>bnd (C Aw9 [.agg ⟨x_4⟩] w3) fun r w4=>as2 r fun r_1 r_2=>aSl r_1 fun x_5 xn xc=>aBool r_2 fun x_6=>gAgg ⟨b_2,0,none⟩ 36 w4 fun x_7=>bnd (cond x_6 (bnd (C D4 [.slice x_5 xn xc,.slice b bn bc] w4) fun r_3 w5=>aBool r_3 fun x_8=>gAgg ⟨b_2,0,none⟩ 36 w5 fun x_9=>same (.agg ⟨x_7⟩) (.agg ⟨x_9⟩) (some (x_8,w5))) (some (false,w4))) fun c w6=>ck (List.length x_7=36) (pAgg ⟨b_1,0,none⟩ x_7 w6 fun w7=>gAgg ⟨b_1,0,none⟩ 36 w7 fun x_10=>some (.tuple ⟨[.agg ⟨x_10⟩,.bool c]⟩,w7))))))))):=by kernel_rfl
def A99:Cuts:={ globs:=0,loops:=[],regs:=[],plans:=[] }
def B32:List Item:=A9 Tryz.f210
theorem Ea9 (C:A6) (R:A8) (size:Int) (put:Value) (get:Value) (h:H) :
 B0 PR A99 C R Ap4 Tryz.f210 100000 true B32 [(0,.int .i64 size),(1,put),(2,get)] h =
 one put (one get (nw (.cells Br2 false [.int .i64 (mm2 false (mm2 true size 0) 64),put,get]) h fun b w=>some (.pointer (some ⟨b,0,none⟩),w))):=by kernel_rfl
def Bd6:Cuts:={ globs:=0,loops:=[(4,[1,2,22,23,24]),(9,[1,2,43,44,45]),(14,[1,58,59])],regs:=[],plans:=[] }
def Bq6:List Item:=A9 Tryz.f211
def B52:List Item:=stk [0,1,0,1,0,0,1,4,5] Bq6
def B74:List Item:=stk [0,1,0,1,0,1,0,0,1,4,5] Bq6
def B83:List Item:=stk [0,1,0,1,0,1,0,1,0,0,1,4,5] Bq6
theorem Hj9 (C:A6) (R:A8) (p:List Value) (b:Option Addr) (bn bc:Nat) (h:H) :
 B0 PR Bd6 C R O5 Tryz.f211 100000 true Bq6 [(0,.agg ⟨p⟩),(1,.slice b bn bc)] h =
 nw (.cells D3 false p) h fun b_1 w=>gAgg ⟨b_1,0,none⟩ 16 w fun x=>bnd (C Dl9 [.agg ⟨x⟩] w) fun r w1=>aBool r fun x_1=>cond (!x_1)
 (some (.bool false,w1))
 (gInt .i64 (Addr.add ⟨b_1,0,none⟩ 0) w1 fun x_2=>gInt .i64 (Addr.add ⟨b_1,0,none⟩ 1) w1 fun x_3=>gInt .i64 (Addr.add ⟨b_1,0,none⟩ 2) w1 fun x_4=>gInt .i64 (Addr.add ⟨b_1,0,none⟩ 3) w1 fun x_5=>nw (.cells B7 false [.int .i64 x_2,.int .i64 x_3,.int .i64 x_4,.int .i64 x_5]) w1 fun b_2 w2=>R O5 B52 [(1,.slice b bn bc),(2,.pointer (some ⟨b_1,0,none⟩)),(22,.slice (some ⟨b_2,0,none⟩) 4 4),(23,.int .i64 4),(24,.int .i64 0)] w2):=by kernel_rfl
theorem A46 (C:A6) (R:A8) (b:Option Addr) (bn bc:Nat) (p:Addr) (x22:Option Addr) (x22n x22c:Nat) (x23:Int) (x24:Int) (h:H) :
 B0 PR Bd6 C R O5 Tryz.f211 100000 true B52 [(1,.slice b bn bc),(2,.pointer (some p)),(22,.slice x22 x22n x22c),(23,.int .i64 x23),(24,.int .i64 x24)] h =
 cond (decide (x24<x23))
 (aSome x22 fun p_1=>ck ((0:Int)≤x24∧x24<((x22n:Nat):Int)) (gInt .i64 (Addr.add (B5 p_1) (Int.toNat x24*1)) h fun x=>aSome b fun p_2=>ck ((0:Int)≤x24∧x24<((bn:Nat):Int)) (pV (Addr.add (B5 p_2) (Int.toNat x24*1)) (.int .u8 (IntKind.wrap .u8 (x))) h fun w=>R O5 B52 [(1,.slice b bn bc),(2,.pointer (some p)),(22,.slice x22 x22n x22c),(23,.int .i64 x23),(24,.int .i64 (IntKind.wrap .i64 (x24+1)))] w)))
 (gInt .i64 (Addr.add p 4) h fun x_1=>gInt .i64 (Addr.add p 5) h fun x_2=>gInt .i64 (Addr.add p 6) h fun x_3=>gInt .i64 (Addr.add p 7) h fun x_4=>nw (.cells B7 false [.int .i64 x_1,.int .i64 x_2,.int .i64 x_3,.int .i64 x_4]) h fun b_1 w1=>R O5 B74 [(1,.slice b bn bc),(2,.pointer (some p)),(43,.slice (some ⟨b_1,0,none⟩) 4 4),(44,.int .i64 4),(45,.int .i64 0)] w1):=by kernel_rfl
theorem A43 (C:A6) (R:A8) (b:Option Addr) (bn bc:Nat) (p:Addr) (x43:Option Addr) (x43n x43c:Nat) (x44:Int) (x45:Int) (h:H) :
 B0 PR Bd6 C R O5 Tryz.f211 100000 true B74 [(1,.slice b bn bc),(2,.pointer (some p)),(43,.slice x43 x43n x43c),(44,.int .i64 x44),(45,.int .i64 x45)] h =
 cond (decide (x45<x44))
 (aSome x43 fun p_1=>ck ((0:Int)≤x45∧x45<((x43n:Nat):Int)) (gInt .i64 (Addr.add (B5 p_1) (Int.toNat x45*1)) h fun x=>bnd (C Bi1 [.slice b bn bc,.int .i64 (IntKind.wrap .i64 (4+(IntKind.wrap .i64 (2*x45)))),.int .i64 x] h) fun r w=>aBool r fun _=>R O5 B74 [(1,.slice b bn bc),(2,.pointer (some p)),(43,.slice x43 x43n x43c),(44,.int .i64 x44),(45,.int .i64 (IntKind.wrap .i64 (x45+1)))] w))
 (gAgg (Addr.add p 8) 8 h fun x_2=>R O5 B83 [(1,.slice b bn bc),(58,.agg ⟨x_2⟩),(59,.int .i64 0)] h):=by kernel_rfl
theorem Y6 (C:A6) (R:A8) (b:Option Addr) (bn bc:Nat) (x58:List Value) (x59:Int) (h:H) :
 B0 PR Bd6 C R O5 Tryz.f211 100000 true B83 [(1,.slice b bn bc),(58,.agg ⟨x58⟩),(59,.int .i64 x59)] h =
 cond (decide (x59<8))
 (ck ((0:Int)≤x59∧x59<((8:Nat):Int)) (nth x58 (Int.toNat x59*1) fun x=>aInt .i64 x fun x_1=>aSome b fun p=>ck ((0:Int)≤IntKind.wrap .i64 (12+x59)∧IntKind.wrap .i64 (12+x59)<((bn:Nat):Int)) (pV (Addr.add (B5 p) (Int.toNat (IntKind.wrap .i64 (12+x59))*1)) (.int .u8 (IntKind.wrap .u8 (x_1))) h fun w=>R O5 B83 [(1,.slice b bn bc),(58,.agg ⟨x58⟩),(59,.int .i64 (IntKind.wrap .i64 (x59+1)))] w)))
 (aSome b fun p_1=>ck ((0:Int)≤20∧20<((bn:Nat):Int)) (pV (Addr.add (B5 p_1) (Int.toNat 20*1)) (.int .u8 167) h fun w1=>ckB (fitsOpen b A7 w1) (ck ((0:Int)≤21∧21≤((bc:Nat):Int)) (bnd (C Ab2 [.slice (H5 b (decide (0<bc)) (0*1)) ((Int.toNat 21)-0) (bc-0)] w1) fun r w2=>aInt .u8 r fun x_2=>aSome b fun p_2=>ck ((0:Int)≤21∧21<((bn:Nat):Int)) (pV (Addr.add (B5 p_2) (Int.toNat 21*1)) (.int .u8 x_2) w2 fun w3=>some (.bool true,w3)))))):=by kernel_rfl
def Am2:Cuts:={ globs:=0,loops:=[],regs:=[],plans:=[] }
def Bc1:List Item:=A9 Tryz.f215
theorem De8 (C:A6) (R:A8) (t:Option Addr) (i:Int) (h:H) :
 B0 PR Am2 C R N4 Tryz.f215 100000 true Bc1 [(0,.pointer t),(1,.int .i64 i)] h =
 aSome t fun p=>gSl (Addr.add p 0) h fun x xn _=>aSome x fun p_1=>ck ((0:Int)≤i∧i<((xn:Nat):Int)) (gInt .i64 (Addr.add (Addr.add (B5 p_1) (Int.toNat i*8)) 6) h fun x_1=>some (.int .i64 (IntKind.wrap .i64 (i+(IntKind.wrap .i64 (256*x_1)))),h)):=by kernel_rfl
def U7:Cuts:={ globs:=0,loops:=[(2,[0,1,7,8])],regs:=[],plans:=[] }
def Af5:List Item:=A9 Tryz.f222
def Q2:List Item:=stk [0,1,0,0,1,4,5] Af5
theorem B21 (C:A6) (R:A8) (s:Option Addr) (sn sc:Nat) (f:Value) (h:H) :
 B0 PR U7 C R G2 Tryz.f222 100000 true Af5 [(0,.slice s sn sc),(1,f)] h =
 R G2 Q2 [(0,.slice s sn sc),(1,f),(7,.int .i64 ((sn:Nat):Int)),(8,.int .i64 0)] h:=by kernel_rfl
theorem Ar7 (C:A6) (R:A8) (s:Option Addr) (sn sc:Nat) (f:Value) (x7:Int) (x8:Int) (h:H) :
 B0 PR U7 C R G2 Tryz.f222 100000 true Q2 [(0,.slice s sn sc),(1,f),(7,.int .i64 x7),(8,.int .i64 x8)] h =
 cond (decide (x8<x7))
 (aSome s fun p=>ck ((0:Int)≤x8∧x8<((sn:Nat):Int)) (gInt .u8 (Addr.add (B5 p) (Int.toNat x8*1)) h fun x=>aFn f fun g fi cp=>bnd (C g (fi++([.int .u8 x]++cp)) h) fun r w=>aBool r fun x_1=>cond x_1
 (some (.int .i64 x8,w))
 (R G2 Q2 [(0,.slice s sn sc),(1,f),(7,.int .i64 x7),(8,.int .i64 (IntKind.wrap .i64 (x8+1)))] w)))
 (some (.int .i64 (-1),h)):=by kernel_rfl
def Eb7:Cuts:={ globs:=0,loops:=[],regs:=[],plans:=[] }
def Gb4:List Item:=A9 Tryz.f223
theorem Hs9 (C:A6) (R:A8) (f:List Value) (h:H) :
 B0 PR Eb7 C R Dl6 Tryz.f223 100000 true Gb4 [(0,.agg ⟨f⟩)] h =
 nw (.cells D5 false f) h fun b w=>gInt .i64 (Addr.add ⟨b,0,none⟩ 0) w fun x=>bnd (cond (decide (x≥1)) (gInt .i64 (Addr.add ⟨b,0,none⟩ 0) w fun x_1=>some (decide (x_1≤3),w)) (some (false,w))) fun c w1=>bnd (cond c (gInt .i64 (Addr.add ⟨b,0,none⟩ 1) w1 fun x_2=>some (decide (x_2≥0),w1)) (some (false,w1))) fun c_1 w2=>bnd (cond c_1 (gInt .i64 (Addr.add ⟨b,0,none⟩ 1) w2 fun x_3=>some (decide (x_3≤7),w2)) (some (false,w2))) fun c_2 w3=>bnd (cond c_2 (gInt .i64 (Addr.add ⟨b,0,none⟩ 0) w3 fun x_4=>bnd (cond (x_4 != 3) (some (true,w3)) (gInt .i64 (Addr.add ⟨b,0,none⟩ 1) w3 fun x_5=>some (x_5==0,w3))) fun c_3 w4=>some (c_3,w4)) (some (false,w3))) fun c_4 w5=>bnd (cond c_4 (gInt .i64 (Addr.add ⟨b,0,none⟩ 2) w5 fun x_6=>some (decide (x_6≥1),w5)) (some (false,w5))) fun c_5 w6=>bnd (cond c_5 (gInt .i64 (Addr.add ⟨b,0,none⟩ 2) w6 fun x_7=>some (decide (x_7≤64),w6)) (some (false,w6))) fun c_6 w7=>bnd (cond c_6 (gInt .i64 (Addr.add ⟨b,0,none⟩ 3) w7 fun x_8=>bnd (cond (x_8==0) (some (true,w7)) (gInt .i64 (Addr.add ⟨b,0,none⟩ 3) w7 fun x_9=>some (x_9==1,w7))) fun c_7 w8=>some (c_7,w8)) (some (false,w7))) fun c_8 w9=>some (.bool c_8,w9):=by kernel_rfl
def Dt6:Cuts:={ globs:=0,loops:=[],regs:=[],plans:=[] }
def En7:List Item:=A9 Tryz.f230
theorem Ha8 (C:A6) (R:A8) (n:Int) (without:Int) (h:H) :
 B0 PR Dt6 C R Ak5 Tryz.f230 100000 true En7 [(0,.int .i64 n),(1,.int .i64 without)] h =
 bnd (cond ((D10 .i64 n 65534)==0) (some ((P3 .i64 n without)==0,h)) (some (false,h))) fun c w=>some (.bool c,w):=by kernel_rfl
end
end Go.EQ
