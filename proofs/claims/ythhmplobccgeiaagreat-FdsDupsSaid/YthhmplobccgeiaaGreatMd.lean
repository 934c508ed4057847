/- What is doubled is one file: closed as often as it was doubled it is gone, not sooner; a double to itself does nothing; no conditions. -/
import Derived.Test.YthhmplobccgeiaaGreatMc
import Derived.Test.YthhmplobccgeiaaGreatProg
import Derived.KernelRfl
set_option linter.all false
namespace Go.EQ
open Go Go.NN Go.Proofs
noncomputable abbrev PR:Program:=Tryz.prog
abbrev B0:FuncId:=10
abbrev Bg3:FuncId:=13
abbrev Bv7:FuncId:=14
abbrev Bp3:FuncId:=15
abbrev S7:FuncId:=17
abbrev O0:FuncId:=18
abbrev Q8:FuncId:=20
abbrev Q6:FuncId:=22
abbrev Aa0:FuncId:=23
abbrev O1:FuncId:=24
abbrev J0:FuncId:=28
abbrev Ad9:FuncId:=31
abbrev A77:FuncId:=32
abbrev J7:FuncId:=36
abbrev Ao8:FuncId:=40
abbrev Bz2:FuncId:=43
abbrev Dt0:FuncId:=44
abbrev Bj1:FuncId:=45
abbrev Ba4:FuncId:=46
abbrev A84:FuncId:=47
abbrev Ah7:FuncId:=48
abbrev Af8:FuncId:=49
abbrev I3:FuncId:=50
abbrev H1:FuncId:=51
abbrev E5:FuncId:=52
abbrev A93:FuncId:=53
abbrev Aq0:FuncId:=54
abbrev Av9:FuncId:=55
abbrev Ak9:FuncId:=56
abbrev Aj2:FuncId:=57
abbrev A81:FuncId:=58
abbrev I7:FuncId:=59
abbrev Ap8:FuncId:=60
abbrev H6:FuncId:=61
abbrev At5:FuncId:=62
abbrev Aa1:FuncId:=63
abbrev A74:FuncId:=64
abbrev Ad6:FuncId:=65
abbrev Az4:FuncId:=67
abbrev Av0:FuncId:=68
abbrev J4:FuncId:=69
abbrev A11:FuncId:=70
abbrev A37:FuncId:=71
abbrev A29:FuncId:=72
abbrev W7:FuncId:=73
abbrev A19:FuncId:=74
abbrev Ap9:FuncId:=75
abbrev Am4:FuncId:=76
abbrev P2:FuncId:=77
abbrev A05:FuncId:=78
abbrev Bh6:FuncId:=79
abbrev B65:FuncId:=80
abbrev Ba1:FuncId:=83
abbrev I9:FuncId:=84
abbrev A20:FuncId:=85
abbrev B7:FuncId:=91
abbrev I4:FuncId:=97
abbrev Bn2:FuncId:=98
abbrev V9:FuncId:=99
abbrev A16:FuncId:=100
abbrev A31:FuncId:=101
abbrev By6:FuncId:=102
abbrev B41:FuncId:=103
abbrev Bv9:FuncId:=104
abbrev Bx2:FuncId:=105
abbrev Bm4:FuncId:=106
abbrev V6:FuncId:=107
abbrev Q1:FuncId:=108
abbrev Ak8:FuncId:=109
abbrev Q2:FuncId:=110
abbrev A78:FuncId:=111
abbrev V3:FuncId:=112
abbrev Ds2:FuncId:=113
abbrev Aw9:FuncId:=114
abbrev Ap3:FuncId:=115
abbrev Bz6:FuncId:=116
abbrev Dh0:FuncId:=117
abbrev An2:FuncId:=118
abbrev O8:FuncId:=119
abbrev L9:FuncId:=120
abbrev A61:FuncId:=121
abbrev Y7:FuncId:=122
abbrev N0:FuncId:=123
abbrev Y6:FuncId:=124
abbrev Bi3:FuncId:=125
abbrev Aw3:FuncId:=126
abbrev A40:FuncId:=127
abbrev A43:FuncId:=128
abbrev Av7:FuncId:=129
abbrev Ee0:FuncId:=130
abbrev An1:FuncId:=131
abbrev Ed5:FuncId:=132
abbrev El0:FuncId:=133
abbrev Ed8:FuncId:=134
abbrev Ei7:FuncId:=135
abbrev Eu1:FuncId:=136
abbrev Dq4:FuncId:=137
abbrev Et5:FuncId:=138
abbrev Et3:FuncId:=139
abbrev A57:FuncId:=140
abbrev Ad5:FuncId:=141
abbrev E3:FuncId:=142
abbrev Bg1:FuncId:=143
abbrev U3:FuncId:=144
abbrev P9:FuncId:=145
abbrev N7:FuncId:=146
abbrev Aj9:FuncId:=147
abbrev U4:FuncId:=148
abbrev Ab3:FuncId:=149
abbrev Z8:FuncId:=150
abbrev Aj7:FuncId:=151
abbrev Av6:FuncId:=152
abbrev Ed3:FuncId:=153
abbrev As4:FuncId:=154
abbrev Aw8:FuncId:=155
abbrev Az7:FuncId:=156
abbrev Az6:FuncId:=157
abbrev A88:FuncId:=158
abbrev U5:FuncId:=159
abbrev U6:FuncId:=160
abbrev A80:FuncId:=161
abbrev U8:FuncId:=162
abbrev Z6:FuncId:=163
abbrev Bd6:FuncId:=164
abbrev E8:FuncId:=165
abbrev U2:FuncId:=166
abbrev A75:FuncId:=171
abbrev Aa5:FuncId:=172
abbrev Aa3:FuncId:=173
abbrev G0:FuncId:=174
abbrev E0:FuncId:=175
abbrev Bw2:FuncId:=176
abbrev O7:FuncId:=177
abbrev A10:FuncId:=178
abbrev G6:FuncId:=179
abbrev Ai3:FuncId:=180
abbrev Ar0:FuncId:=181
abbrev Y8:FuncId:=182
abbrev Ae4:FuncId:=183
abbrev Ah6:FuncId:=184
abbrev A64:FuncId:=185
abbrev Ao0:FuncId:=186
abbrev A51:FuncId:=187
abbrev Q0:FuncId:=194
abbrev M9:FuncId:=195
abbrev Am3:FuncId:=196
abbrev Bi9:FuncId:=197
abbrev Bh2:FuncId:=198
abbrev P5:FuncId:=199
abbrev Ad8:FuncId:=200
abbrev Z3:FuncId:=201
abbrev Bd1:FuncId:=202
abbrev Ar1:FuncId:=203
abbrev Ag4:FuncId:=206
abbrev Ax0:FuncId:=207
abbrev Aq5:FuncId:=208
abbrev B6:FuncId:=209
abbrev Az8:FuncId:=210
abbrev An5:FuncId:=211
abbrev N4:FuncId:=212
abbrev V8:FuncId:=213
abbrev An4:FuncId:=214
abbrev Ao7:FuncId:=215
abbrev Ao9:FuncId:=216
abbrev D1:FuncId:=217
abbrev H3:FuncId:=218
abbrev U9:FuncId:=219
abbrev A59:FuncId:=220
abbrev Dr5:FuncId:=223
abbrev B8:FuncId:=224
abbrev E4:FuncId:=225
abbrev Ac4:FuncId:=226
abbrev Ae0:FuncId:=229
abbrev A04:FuncId:=230
abbrev Dg5:FuncId:=231
abbrev Be0:FuncId:=232
abbrev B00:FuncId:=233
abbrev Dh6:FuncId:=234
abbrev Ap5:FuncId:=235
abbrev Ai7:FuncId:=238
abbrev Bf6:FuncId:=239
abbrev B2:TypeId:=3
abbrev E78:TypeId:=4
abbrev A3:TypeId:=5
abbrev Ba9:TypeId:=25
abbrev Dm6:TypeId:=30
abbrev B03:TypeId:=33
abbrev G8:TypeId:=40
abbrev O2:TypeId:=48
abbrev Aj3:TypeId:=50
abbrev B9:TypeId:=52
abbrev Ee9:TypeId:=55
abbrev Av5:TypeId:=58
abbrev D4:TypeId:=67
abbrev L8:TypeId:=76
abbrev A23:TypeId:=90
abbrev D5:TypeId:=99
abbrev Bx6:TypeId:=109
abbrev De3:TypeId:=115
abbrev D2:TypeId:=120
abbrev Dw3:TypeId:=132
abbrev Dn4:TypeId:=147
abbrev At6:TypeId:=150
abbrev H8:TypeId:=180
abbrev At8:TypeId:=187
abbrev P1:TypeId:=194
abbrev Ew1:TypeId:=200
abbrev D02:TypeId:=204
abbrev A82:TypeId:=205
abbrev Dr2:TypeId:=218
abbrev E9:TypeId:=219
abbrev Aq1:TypeId:=222
abbrev Bc2:TypeId:=227
abbrev En3:TypeId:=249
abbrev At9:TypeId:=257
abbrev Ex1:TypeId:=259
abbrev Ej3:TypeId:=263
abbrev Ei2:TypeId:=267
abbrev A13:TypeId:=268
abbrev Bn7:TypeId:=270
abbrev Ev2:TypeId:=272
abbrev Bt5:TypeId:=283
abbrev Aj4:TypeId:=285
abbrev Bm9:TypeId:=289
abbrev Bo5:TypeId:=303
abbrev Ai0:TypeId:=307
abbrev Ek4:TypeId:=312
abbrev Bf3:TypeId:=314
abbrev H86:TypeId:=328
end Go.EQ

set_option maxRecDepth 100000
namespace Go.EQ
open Go Go.NN Go.Proofs
variable (C : A1) (R : A2)
noncomputable section
def S6:Cuts:={ globs:=0,loops:=[(10,[0,1,6,9,10,11]),(24,[0,1,6,9,10,11,13,14,15]),(50,[0,1,6,9,10,11,21])],regs:=[(42,[0,1,6,9,10,11,13,17,18,19]),(31,[0,1,6,9,10,11,13,14,15,16]),(47,[0,1,6,9,10,11,13,17])],plans:=[(16,⟨[0,1,2,3,4,5,6,7],[0,1,3,0,8,24,56,127],[],[]⟩),(59,⟨[0,1,2,3,4,5,6,7,8,9,10,11,12],[0,1,3,0,8,24,56,120,255,511,1023,2047,4095],[],[]⟩),(53,⟨[0,1,2,3,4,5,6,7,8,9,10,11,12,13,14,15,16,17,18],[0,1,0,4,12,28,63,127,255,511,1023,2047,4095,2047,10239,26623,65535,131071,262143],[],[]⟩)] }
def Z2:List Item:=A4 Tryz.f10
def Ai4:List Item:=stk [0,1,0,1,0,1,0,1,0,1,0,1,0,1,0,0,1,4,5] Z2
def Au6:List Item:=stk [0,1,0,1,0,1,0,1,0,1,0,1,0,1,0,0,1,4,5,6,0,1,0,4,0,1,0,1,0,0,1,4,0,1,2,0,1,0,1,0,4,5] Z2
def Aw7:List Item:=stk [0,1,0,1,0,1,0,1,0,1,0,1,0,1,0,0,1,4,5,6,0,1,0,4,0,1,0,1,0,0,1,4,0,1,3,0,1,2,0,1,0,1,0,1,0,1,0,0] Z2
def N3:List Item:=stk [0,1,0,1,0,1,0,1,0,1,0,1,0,1,0,0,1,4,5,6,0,1,0,4,0,1,0,1,0,1,0,1,4,5] Z2
def P7:List Item:=stk [0,1,0,1,0,1,0,1,0,1,0,1,0,1,0,0,1,4,5,6,0,1,0,4,0,1,0,1,0,0,1,4,0,1,2,0,1,0,1,0,1,0,1,0,1,0,0] Z2
def Ax2:List Item:=stk [0,1,0,1,0,1,0,1,0,1,0,1,0,1,0,0,1,4,5,6,0,1,0,4,0,1,0,1,0,0,1,4,0,1,3,0,1,2,0,1,0,1,0,1,0,1,0,1,0,1,2,0,1,0] Z2
theorem E68 (C:A1) (R:A2) (l:Option Addr) (ln lc:Nat) (to:Int) (h:H) :
 A5 PR S6 C R B0 Tryz.f10 100000 true Z2 [(0,.slice l ln lc),(1,.int .i64 to)] h =
 bnd (C A77 [] h) fun r w=>aSl r fun x xn xc=>bnd (C Ad9 [.slice x xn xc] w) fun r_1 w1=>as4 r_1 fun r_2 r_3 r_4 r_5=>aPtr r_2 fun _=>aPtr r_3 fun x_2=>aPtr r_4 fun _=>aPtr r_5 fun _=>cond x_2.isNone
 (some (.bool false,w1))
 (bnd (C Bz2 [.pointer x_2,.int .i64 0] w1) fun r_6 w2=>aAgg r_6 fun x_5=>nth x_5 1 fun E=>aInt .i64 E fun E_1=>cond (E_1 != 0)
 (some (.bool false,w2))
 (nw (.cells A23 false [.int .i64 0,.int .i64 0,.int .i64 0]) w2 fun b w3=>pAgg ⟨b,0,none⟩ [.int .i64 1,.int .i64 1,.int .i64 1] w3 fun w4=>nw (.cells Aj3 false [.int .i64 0,.int .i64 0,.int .i64 0,.int .i64 0,.int .i64 0,.int .i64 0,.int .i64 0,.int .i64 0]) w4 fun b_1 w5=>ck ((0:Int)≤0∧0<((8:Nat):Int)) (pV (Addr.add ⟨b_1,0,none⟩ (Int.toNat 0*1)) (.int .i64 1) w5 fun w6=>ck ((0:Int)≤1∧1<((8:Nat):Int)) (pV (Addr.add ⟨b_1,0,none⟩ (Int.toNat 1*1)) (.int .i64 2) w6 fun w7=>ck ((0:Int)≤2∧2<((8:Nat):Int)) (pV (Addr.add ⟨b_1,0,none⟩ (Int.toNat 2*1)) (.int .i64 3) w7 fun w8=>R B0 Ai4 [(0,.slice l ln lc),(1,.int .i64 to),(6,.pointer x_2),(9,.pointer (some ⟨b,0,none⟩)),(10,.pointer (some ⟨b_1,0,none⟩)),(11,.int .i64 0)] w8))))):=by kernel_rfl
theorem B94 (C:A1) (R:A2) (l:Option Addr) (ln lc:Nat) (to:Int) (c:Option Addr) (refs:Addr) (owner:Addr) (i:Int) (h:H) :
 A5 PR S6 C R B0 Tryz.f10 100000 true Ai4 [(0,.slice l ln lc),(1,.int .i64 to),(6,.pointer c),(9,.pointer (some refs)),(10,.pointer (some owner)),(11,.int .i64 i)] h =
 bnd (cond (decide (i<((ln:Nat):Int))) (some (decide (i<30),h)) (some (false,h))) fun c_1 w=>cond c_1
 (aSome l fun p=>ck ((0:Int)≤i∧i<((ln:Nat):Int)) (gInt .i64 (Addr.add (A9 p) (Int.toNat i*1)) w fun x=>cond ((B4 .i64 (B4 .i64 x 65535) 3)==0)
 (bnd (C Dt0 [.pointer c,.int .i64 0,.int .i64 (B4 .i64 (Int.fdiv (B4 .i64 x 65535) (2 ^ 2)) 7)] w) fun r w1=>aAgg r fun x_1=>nw (.cells L8 false [.int .i64 0,.int .i64 0,.slice none 0 0,.bool false]) w1 fun b w2=>ck (List.length x_1=4) (pAgg ⟨b,0,none⟩ x_1 w2 fun w3=>R B0 Au6 [(0,.slice l ln lc),(1,.int .i64 to),(6,.pointer c),(9,.pointer (some refs)),(10,.pointer (some owner)),(11,.int .i64 i),(13,.int .i64 (B4 .i64 (Int.fdiv (B4 .i64 x 65535) (2 ^ 2)) 7)),(14,.pointer (some ⟨b,0,none⟩)),(15,.int .i64 0)] w3))
 (cond ((B4 .i64 (B4 .i64 x 65535) 3)==1)
 (bnd (C Bj1 [.pointer c,.int .i64 0,.int .i64 (B4 .i64 (Int.fdiv (B4 .i64 x 65535) (2 ^ 2)) 7),.int .i64 (B4 .i64 (Int.fdiv (B4 .i64 x 65535) (2 ^ 5)) 7)] w) fun r_1 w4=>aAgg r_1 fun x_2=>nw (.cells L8 false [.int .i64 0,.int .i64 0,.slice none 0 0,.bool false]) w4 fun b_1 w5=>ck (List.length x_2=4) (pAgg ⟨b_1,0,none⟩ x_2 w5 fun w6=>ck ((0:Int)≤B4 .i64 (Int.fdiv (B4 .i64 x 65535) (2 ^ 2)) 7∧B4 .i64 (Int.fdiv (B4 .i64 x 65535) (2 ^ 2)) 7<((8:Nat):Int)) (gInt .i64 (Addr.add owner (Int.toNat (B4 .i64 (Int.fdiv (B4 .i64 x 65535) (2 ^ 2)) 7)*1)) w6 fun x_3=>cond (x_3==0)
 (R B0 Aw7 [(0,.slice l ln lc),(1,.int .i64 to),(6,.pointer c),(9,.pointer (some refs)),(10,.pointer (some owner)),(11,.int .i64 i),(13,.int .i64 (B4 .i64 (Int.fdiv (B4 .i64 x 65535) (2 ^ 2)) 7)),(17,.int .i64 (B4 .i64 (Int.fdiv (B4 .i64 x 65535) (2 ^ 5)) 7)),(18,.pointer (some ⟨b_1,0,none⟩)),(19,.int .i64 109)] w6)
 (R B0 Aw7 [(0,.slice l ln lc),(1,.int .i64 to),(6,.pointer c),(9,.pointer (some refs)),(10,.pointer (some owner)),(11,.int .i64 i),(13,.int .i64 (B4 .i64 (Int.fdiv (B4 .i64 x 65535) (2 ^ 2)) 7)),(17,.int .i64 (B4 .i64 (Int.fdiv (B4 .i64 x 65535) (2 ^ 5)) 7)),(18,.pointer (some ⟨b_1,0,none⟩)),(19,.int .i64 0)] w6))))
 (bnd (C Ba4 [.pointer c,.int .i64 0,.int .i64 (B4 .i64 (Int.fdiv (B4 .i64 x 65535) (2 ^ 2)) 7)] w) fun r_2 w7=>aAgg r_2 fun x_4=>nw (.cells L8 false [.int .i64 0,.int .i64 0,.slice none 0 0,.bool false]) w7 fun b_2 w8=>ck (List.length x_4=4) (pAgg ⟨b_2,0,none⟩ x_4 w8 fun w9=>gInt .i64 (Addr.add ⟨b_2,0,none⟩ 1) w9 fun x_5=>ck ((0:Int)≤B4 .i64 (Int.fdiv (B4 .i64 x 65535) (2 ^ 2)) 7∧B4 .i64 (Int.fdiv (B4 .i64 x 65535) (2 ^ 2)) 7<((8:Nat):Int)) (gInt .i64 (Addr.add owner (Int.toNat (B4 .i64 (Int.fdiv (B4 .i64 x 65535) (2 ^ 2)) 7)*1)) w9 fun x_6=>cond (!((x_5==0)==(decide (x_6>0))))
 (some (.bool false,w9))
 (ck ((0:Int)≤B4 .i64 (Int.fdiv (B4 .i64 x 65535) (2 ^ 2)) 7∧B4 .i64 (Int.fdiv (B4 .i64 x 65535) (2 ^ 2)) 7<((8:Nat):Int)) (gInt .i64 (Addr.add owner (Int.toNat (B4 .i64 (Int.fdiv (B4 .i64 x 65535) (2 ^ 2)) 7)*1)) w9 fun x_7=>cond (decide (x_7>0))
 (ck ((0:Int)≤B4 .i64 (Int.fdiv (B4 .i64 x 65535) (2 ^ 2)) 7∧B4 .i64 (Int.fdiv (B4 .i64 x 65535) (2 ^ 2)) 7<((8:Nat):Int)) (gInt .i64 (Addr.add owner (Int.toNat (B4 .i64 (Int.fdiv (B4 .i64 x 65535) (2 ^ 2)) 7)*1)) w9 fun x_8=>ck ((0:Int)≤IntKind.wrap .i64 (x_8-1)∧IntKind.wrap .i64 (x_8-1)<((3:Nat):Int)) (gInt .i64 (Addr.add refs (Int.toNat (IntKind.wrap .i64 (x_8-1))*1)) w9 fun x_9=>ck ((0:Int)≤IntKind.wrap .i64 (x_8-1)∧IntKind.wrap .i64 (x_8-1)<((3:Nat):Int)) (pV (Addr.add refs (Int.toNat (IntKind.wrap .i64 (x_8-1))*1)) (.int .i64 (IntKind.wrap .i64 (x_9-1))) w9 fun w10=>ck ((0:Int)≤B4 .i64 (Int.fdiv (B4 .i64 x 65535) (2 ^ 2)) 7∧B4 .i64 (Int.fdiv (B4 .i64 x 65535) (2 ^ 2)) 7<((8:Nat):Int)) (pV (Addr.add owner (Int.toNat (B4 .i64 (Int.fdiv (B4 .i64 x 65535) (2 ^ 2)) 7)*1)) (.int .i64 0) w10 fun w11=>R B0 N3 [(0,.slice l ln lc),(1,.int .i64 to),(6,.pointer c),(9,.pointer (some refs)),(10,.pointer (some owner)),(11,.int .i64 i),(21,.int .i64 0)] w11)))))
 (R B0 N3 [(0,.slice l ln lc),(1,.int .i64 to),(6,.pointer c),(9,.pointer (some refs)),(10,.pointer (some owner)),(11,.int .i64 i),(21,.int .i64 0)] w9)))))))))
 (bnd (C O0 [.pointer c,.int .i64 0] w) fun r_3 w12=>as2 r_3 fun r_4 r_5=>aAgg r_4 fun x_10=>aInt .i64 r_5 fun x_11=>nw (.cells G8 false [.int .i64 0,.int .i64 0,.int .i64 0,.int .i64 0,.int .u8 0,.int .u8 0,.int .u8 0,.int .u8 0,.int .u8 0,.int .u8 0,.int .u8 0,.int .u8 0,.int .u8 0,.int .u8 0,.int .u8 0,.int .u8 0,.int .u8 0,.int .u8 0,.int .u8 0,.int .u8 0,.int .u8 0,.int .u8 0,.int .u8 0,.int .u8 0,.int .u8 0,.int .u8 0,.int .u8 0,.int .u8 0,.int .u8 0,.int .u8 0,.int .u8 0,.int .u8 0,.int .u8 0,.int .u8 0,.int .u8 0,.int .u8 0]) w12 fun b_3 w13=>ck (List.length x_10=36) (pAgg ⟨b_3,0,none⟩ x_10 w13 fun w14=>ck ((0:Int)≤1∧1<((3:Nat):Int)) (gInt .i64 (Addr.add refs (Int.toNat 1*1)) w14 fun x_12=>bnd (cond (decide (x_12>0)) (some (true,w14)) (ck ((0:Int)≤2∧2<((3:Nat):Int)) (gInt .i64 (Addr.add refs (Int.toNat 2*1)) w14 fun x_13=>some (decide (x_13>0),w14)))) fun c_2 w15=>bnd (cond (!((x_11==1)==c_2)) (some (true,w15)) (bnd (cond (x_11==1) (gInt .i64 (Addr.add ⟨b_3,0,none⟩ 2) w15 fun x_14=>ck ((0:Int)≤1∧1<((3:Nat):Int)) (gInt .i64 (Addr.add refs (Int.toNat 1*1)) w15 fun x_15=>bnd (cond (x_14 != (mm2 false x_15 1)) (some (true,w15)) (gInt .i64 (Addr.add ⟨b_3,0,none⟩ 3) w15 fun x_16=>ck ((0:Int)≤2∧2<((3:Nat):Int)) (gInt .i64 (Addr.add refs (Int.toNat 2*1)) w15 fun x_17=>some (x_16 != (mm2 false x_17 1),w15)))) fun c_3 w16=>some (c_3,w16))) (some (false,w15))) fun c_4 w17=>some (c_4,w17))) fun c_5 w18=>cond c_5
 (some (.bool false,w18))
 (bnd (C Bj1 [.pointer c,.int .i64 0,.int .i64 (B4 .i64 to 7),.int .i64 (B4 .i64 to 7)] w18) fun r_6 w19=>aAgg r_6 fun x_18=>nw (.cells L8 false [.int .i64 0,.int .i64 0,.slice none 0 0,.bool false]) w19 fun b_4 w20=>ck (List.length x_18=4) (pAgg ⟨b_4,0,none⟩ x_18 w20 fun w21=>gInt .i64 (Addr.add ⟨b_4,0,none⟩ 1) w21 fun x_19=>ck ((0:Int)≤B4 .i64 to 7∧B4 .i64 to 7<((8:Nat):Int)) (gInt .i64 (Addr.add owner (Int.toNat (B4 .i64 to 7)*1)) w21 fun x_20=>bnd (cond ((x_19==0)==(decide (x_20>0))) (bnd (C A84 [] w21) fun r_7 w22=>aBool r_7 fun x_21=>some (x_21,w22)) (some (false,w21))) fun c_6 w23=>some (.bool c_6,w23))))))):=by kernel_rfl
theorem B84 (C:A1) (R:A2) (l:Option Addr) (ln lc:Nat) (to:Int) (c:Option Addr) (refs:Addr) (owner:Addr) (i:Int) (fd:Int) (r:Addr) (n:Int) (h:H) :
 A5 PR S6 C R B0 Tryz.f10 100000 true Au6 [(0,.slice l ln lc),(1,.int .i64 to),(6,.pointer c),(9,.pointer (some refs)),(10,.pointer (some owner)),(11,.int .i64 i),(13,.int .i64 fd),(14,.pointer (some r)),(15,.int .i64 n)] h =
 bnd (cond (decide (n<8)) (ck ((0:Int)≤n∧n<((8:Nat):Int)) (gInt .i64 (Addr.add owner (Int.toNat n*1)) h fun x=>some (x != 0,h))) (some (false,h))) fun c_1 w=>cond c_1
 (R B0 Au6 [(0,.slice l ln lc),(1,.int .i64 to),(6,.pointer c),(9,.pointer (some refs)),(10,.pointer (some owner)),(11,.int .i64 i),(13,.int .i64 fd),(14,.pointer (some r)),(15,.int .i64 (IntKind.wrap .i64 (n+1)))] w)
 (ck ((0:Int)≤fd∧fd<((8:Nat):Int)) (gInt .i64 (Addr.add owner (Int.toNat fd*1)) w fun x_1=>cond (x_1==0)
 (R B0 P7 [(0,.slice l ln lc),(1,.int .i64 to),(6,.pointer c),(9,.pointer (some refs)),(10,.pointer (some owner)),(11,.int .i64 i),(13,.int .i64 fd),(14,.pointer (some r)),(15,.int .i64 n),(16,.int .i64 109)] w)
 (cond (n==8)
 (R B0 P7 [(0,.slice l ln lc),(1,.int .i64 to),(6,.pointer c),(9,.pointer (some refs)),(10,.pointer (some owner)),(11,.int .i64 i),(13,.int .i64 fd),(14,.pointer (some r)),(15,.int .i64 n),(16,.int .i64 124)] w)
 (R B0 P7 [(0,.slice l ln lc),(1,.int .i64 to),(6,.pointer c),(9,.pointer (some refs)),(10,.pointer (some owner)),(11,.int .i64 i),(13,.int .i64 fd),(14,.pointer (some r)),(15,.int .i64 n),(16,.int .i64 0)] w)))):=by kernel_rfl
theorem Be9 (C:A1) (R:A2) (l:Option Addr) (ln lc:Nat) (to:Int) (c:Option Addr) (refs:Addr) (owner:Addr) (i:Int) (fd:Int) (on:Int) (r:Addr) (want:Int) (h:H) :
 A5 PR S6 C R B0 Tryz.f10 100000 true Aw7 [(0,.slice l ln lc),(1,.int .i64 to),(6,.pointer c),(9,.pointer (some refs)),(10,.pointer (some owner)),(11,.int .i64 i),(13,.int .i64 fd),(17,.int .i64 on),(18,.pointer (some r)),(19,.int .i64 want)] h =
 gInt .i64 (Addr.add r 1) h fun x=>bnd (cond (x != want) (some (true,h)) (bnd (cond (want==0) (gInt .i64 (Addr.add r 0) h fun x_1=>some (x_1 != on,h)) (some (false,h))) fun c_1 w=>some (c_1,w))) fun c_2 w1=>cond c_2
 (some (.bool false,w1))
 (bnd (cond (want==0) (some (on != fd,w1)) (some (false,w1))) fun c_3 w2=>cond c_3
 (ck ((0:Int)≤on∧on<((8:Nat):Int)) (gInt .i64 (Addr.add owner (Int.toNat on*1)) w2 fun x_2=>cond (decide (x_2>0))
 (ck ((0:Int)≤on∧on<((8:Nat):Int)) (gInt .i64 (Addr.add owner (Int.toNat on*1)) w2 fun x_3=>ck ((0:Int)≤IntKind.wrap .i64 (x_3-1)∧IntKind.wrap .i64 (x_3-1)<((3:Nat):Int)) (gInt .i64 (Addr.add refs (Int.toNat (IntKind.wrap .i64 (x_3-1))*1)) w2 fun x_4=>ck ((0:Int)≤IntKind.wrap .i64 (x_3-1)∧IntKind.wrap .i64 (x_3-1)<((3:Nat):Int)) (pV (Addr.add refs (Int.toNat (IntKind.wrap .i64 (x_3-1))*1)) (.int .i64 (IntKind.wrap .i64 (x_4-1))) w2 fun w3=>R B0 Ax2 [(0,.slice l ln lc),(1,.int .i64 to),(6,.pointer c),(9,.pointer (some refs)),(10,.pointer (some owner)),(11,.int .i64 i),(13,.int .i64 fd),(17,.int .i64 on)] w3))))
 (R B0 Ax2 [(0,.slice l ln lc),(1,.int .i64 to),(6,.pointer c),(9,.pointer (some refs)),(10,.pointer (some owner)),(11,.int .i64 i),(13,.int .i64 fd),(17,.int .i64 on)] w2)))
 (R B0 N3 [(0,.slice l ln lc),(1,.int .i64 to),(6,.pointer c),(9,.pointer (some refs)),(10,.pointer (some owner)),(11,.int .i64 i),(21,.int .i64 0)] w2)):=by kernel_rfl
theorem B85 (C:A1) (R:A2) (l:Option Addr) (ln lc:Nat) (to:Int) (c:Option Addr) (refs:Addr) (owner:Addr) (i:Int) (k:Int) (h:H) :
 A5 PR S6 C R B0 Tryz.f10 100000 true N3 [(0,.slice l ln lc),(1,.int .i64 to),(6,.pointer c),(9,.pointer (some refs)),(10,.pointer (some owner)),(11,.int .i64 i),(21,.int .i64 k)] h =
 cond (decide (k<3))
 (bnd (C J7 [.pointer c,.int .i64 k] h) fun r w=>as2 r fun r_1 r_2=>aAgg r_1 fun x=>aInt .i64 r_2 fun x_1=>nw (.cells D4 false [.int .i64 0,.int .i64 0,.int .i64 0,.int .i64 0]) w fun b w1=>ck (List.length x=4) (pAgg ⟨b,0,none⟩ x w1 fun w2=>ck ((0:Int)≤k∧k<((3:Nat):Int)) (gInt .i64 (Addr.add refs (Int.toNat k*1)) w2 fun x_2=>bnd (cond (!((x_1==1)==(decide (x_2>0)))) (some (true,w2)) (bnd (cond (x_1==1) (gInt .i64 (Addr.add ⟨b,0,none⟩ 2) w2 fun x_3=>ck ((0:Int)≤k∧k<((3:Nat):Int)) (gInt .i64 (Addr.add refs (Int.toNat k*1)) w2 fun x_4=>some (x_3 != x_4,w2))) (some (false,w2))) fun c_1 w3=>some (c_1,w3))) fun c_2 w4=>cond c_2
 (some (.bool false,w4))
 (R B0 N3 [(0,.slice l ln lc),(1,.int .i64 to),(6,.pointer c),(9,.pointer (some refs)),(10,.pointer (some owner)),(11,.int .i64 i),(21,.int .i64 (IntKind.wrap .i64 (k+1)))] w4))))
 (R B0 Ai4 [(0,.slice l ln lc),(1,.int .i64 to),(6,.pointer c),(9,.pointer (some refs)),(10,.pointer (some owner)),(11,.int .i64 (IntKind.wrap .i64 (i+1)))] h):=by kernel_rfl
theorem Bf4 (C:A1) (R:A2) (l:Option Addr) (ln lc:Nat) (to:Int) (c:Option Addr) (refs:Addr) (owner:Addr) (i:Int) (fd:Int) (r:Addr) (n:Int) (want:Int) (h:H) :
 A5 PR S6 C R B0 Tryz.f10 100000 true P7 [(0,.slice l ln lc),(1,.int .i64 to),(6,.pointer c),(9,.pointer (some refs)),(10,.pointer (some owner)),(11,.int .i64 i),(13,.int .i64 fd),(14,.pointer (some r)),(15,.int .i64 n),(16,.int .i64 want)] h =
 gInt .i64 (Addr.add r 1) h fun x=>bnd (cond (x != want) (some (true,h)) (bnd (cond (want==0) (gInt .i64 (Addr.add r 0) h fun x_1=>some (x_1 != n,h)) (some (false,h))) fun c_1 w=>some (c_1,w))) fun c_2 w1=>cond c_2
 (some (.bool false,w1))
 (cond (want==0)
 (ck ((0:Int)≤fd∧fd<((8:Nat):Int)) (gInt .i64 (Addr.add owner (Int.toNat fd*1)) w1 fun x_2=>ck ((0:Int)≤n∧n<((8:Nat):Int)) (pV (Addr.add owner (Int.toNat n*1)) (.int .i64 x_2) w1 fun w2=>ck ((0:Int)≤fd∧fd<((8:Nat):Int)) (gInt .i64 (Addr.add owner (Int.toNat fd*1)) w2 fun x_3=>ck ((0:Int)≤IntKind.wrap .i64 (x_3-1)∧IntKind.wrap .i64 (x_3-1)<((3:Nat):Int)) (gInt .i64 (Addr.add refs (Int.toNat (IntKind.wrap .i64 (x_3-1))*1)) w2 fun x_4=>ck ((0:Int)≤IntKind.wrap .i64 (x_3-1)∧IntKind.wrap .i64 (x_3-1)<((3:Nat):Int)) (pV (Addr.add refs (Int.toNat (IntKind.wrap .i64 (x_3-1))*1)) (.int .i64 (IntKind.wrap .i64 (x_4+1))) w2 fun w3=>R B0 N3 [(0,.slice l ln lc),(1,.int .i64 to),(6,.pointer c),(9,.pointer (some refs)),(10,.pointer (some owner)),(11,.int .i64 i),(21,.int .i64 0)] w3))))))
 (R B0 N3 [(0,.slice l ln lc),(1,.int .i64 to),(6,.pointer c),(9,.pointer (some refs)),(10,.pointer (some owner)),(11,.int .i64 i),(21,.int .i64 0)] w1)):=by kernel_rfl
theorem Eg9 (C:A1) (R:A2) (l:Option Addr) (ln lc:Nat) (to:Int) (c:Option Addr) (refs:Addr) (owner:Addr) (i:Int) (fd:Int) (on:Int) (h:H) :
 A5 PR S6 C R B0 Tryz.f10 100000 true Ax2 [(0,.slice l ln lc),(1,.int .i64 to),(6,.pointer c),(9,.pointer (some refs)),(10,.pointer (some owner)),(11,.int .i64 i),(13,.int .i64 fd),(17,.int .i64 on)] h =
 ck ((0:Int)≤fd∧fd<((8:Nat):Int)) (gInt .i64 (Addr.add owner (Int.toNat fd*1)) h fun x=>ck ((0:Int)≤on∧on<((8:Nat):Int)) (pV (Addr.add owner (Int.toNat on*1)) (.int .i64 x) h fun w=>ck ((0:Int)≤fd∧fd<((8:Nat):Int)) (gInt .i64 (Addr.add owner (Int.toNat fd*1)) w fun x_1=>ck ((0:Int)≤IntKind.wrap .i64 (x_1-1)∧IntKind.wrap .i64 (x_1-1)<((3:Nat):Int)) (gInt .i64 (Addr.add refs (Int.toNat (IntKind.wrap .i64 (x_1-1))*1)) w fun x_2=>ck ((0:Int)≤IntKind.wrap .i64 (x_1-1)∧IntKind.wrap .i64 (x_1-1)<((3:Nat):Int)) (pV (Addr.add refs (Int.toNat (IntKind.wrap .i64 (x_1-1))*1)) (.int .i64 (IntKind.wrap .i64 (x_2+1))) w fun w1=>R B0 N3 [(0,.slice l ln lc),(1,.int .i64 to),(6,.pointer c),(9,.pointer (some refs)),(10,.pointer (some owner)),(11,.int .i64 i),(21,.int .i64 0)] w1))))):=by kernel_rfl
def Dm5:Cuts:={ globs:=0,loops:=[],regs:=[],plans:=[] }
def Ei9:List Item:=A4 Tryz.f14
theorem G08 (C:A1) (R:A2)  (h:H) :
 A5 PR Dm5 C R Bv7 Tryz.f14 100000 true Ei9 [] h =
 nw (.cells B03 false [.slice none 0 0,.slice none 0 0,.int .i64 0]) h fun b w=>nw (.cells E78 false [.bool false,.bool false]) w fun b_1 w1=>nw (.cells Bx6 false [.int .i64 0,.int .i64 1,.int .i64 1,.int .i64 0]) w1 fun b_2 w2=>pAgg ⟨b,0,none⟩ [.slice (some ⟨b_1,0,none⟩) 2 2,.slice (some ⟨b_2,0,none⟩) 2 2,.int .i64 5] w2 fun w3=>gAgg ⟨b,0,none⟩ 3 w3 fun x=>some (.agg ⟨x⟩,w3):=by kernel_rfl
def Bw4:Cuts:={ globs:=0,loops:=[(9,[6,7,8,9,10,11,12])],regs:=[],plans:=[] }
def Dl8:List Item:=A4 Tryz.f31
def Bd0:List Item:=stk [0,1,0,1,0,1,0,1,0,1,0,1,0,1,0,0,1,4,5] Dl8
theorem Gv6 (C:A1) (R:A2) (b:Option Addr) (bn bc:Nat) (h:H) :
 A5 PR Bw4 C R Ad9 Tryz.f31 100000 true Dl8 [(0,.slice b bn bc)] h =
 bnd (C Bv7 [] h) fun r w=>aAgg r fun x=>bnd (C Bg3 [.agg ⟨x⟩] w) fun r_1 w1=>as4 r_1 fun r_2 r_3 r_4 r_5=>aPtr r_2 fun x_1=>aPtr r_3 fun x_2=>aPtr r_4 fun x_3=>aPtr r_5 fun x_4=>bnd (cond x_2.isNone (some (true,w1)) (some (((bn:Nat):Int) != 492,w1))) fun c w2=>cond c
 (some (.tuple ⟨[.pointer none,.pointer none,.pointer none,.pointer none]⟩,w2))
 (nw (.cells Av5 false [.int .i64 0,.int .i64 0,.int .i64 0,.int .i64 0,.int .i64 0,.int .i64 0,.slice none 0 0]) w2 fun b_1 w3=>pAgg ⟨b_1,0,none⟩ [.int .i64 2,.int .i64 256,.int .i64 0,.int .i64 0,.int .i64 0,.int .i64 0,.slice b bn bc] w3 fun w4=>bnd (C P2 [.agg ⟨[.int .i64 0,.int .i64 0,.int .i64 1,.int .i64 1,.int .u8 0,.int .u8 0,.int .u8 0,.int .u8 0,.int .u8 0,.int .u8 0,.int .u8 0,.int .u8 0,.int .u8 0,.int .u8 0,.int .u8 0,.int .u8 0,.int .u8 0,.int .u8 0,.int .u8 0,.int .u8 0,.int .u8 0,.int .u8 0,.int .u8 0,.int .u8 0,.int .u8 0,.int .u8 0,.int .u8 0,.int .u8 0,.int .u8 0,.int .u8 0,.int .u8 0,.int .u8 0,.int .u8 0,.int .u8 0,.int .u8 0,.int .u8 0]⟩] w4) fun r_6 w5=>aStr r_6 fun x_5=>gAgg ⟨b_1,0,none⟩ 7 w5 fun x_6=>bnd (C Q6 [.pointer x_1,.int .i64 0,.agg ⟨x_6⟩] w5) fun r_7 w6=>aAgg r_7 fun _=>gAgg ⟨b_1,0,none⟩ 7 w6 fun x_8=>bnd (C Aq0 [.pointer x_3,.int .i64 0,.agg ⟨x_8⟩] w6) fun r_8 w7=>as3 r_8 fun r_9 r_10 r_11=>aInt .i64 r_9 fun _=>aInt .i64 r_10 fun _=>aStr r_11 fun _=>R Ad9 Bd0 [(6,.pointer x_1),(7,.pointer x_2),(8,.pointer x_3),(9,.pointer x_4),(10,.pointer (some ⟨b_1,0,none⟩)),(11,.string x_5),(12,.int .i64 1)] w7):=by kernel_rfl
theorem Bz9 (C:A1) (R:A2) (k:Option Addr) (c:Option Addr) (wv:Option Addr) (m:Option Addr) (x:Addr) (pipe:ByteArray) (i:Int) (h:H) :
 A5 PR Bw4 C R Ad9 Tryz.f31 100000 true Bd0 [(6,.pointer k),(7,.pointer c),(8,.pointer wv),(9,.pointer m),(10,.pointer (some x)),(11,.string pipe),(12,.int .i64 i)] h =
 cond (decide (i<3))
 (ck (ByteArray.size pipe≤A8) (nw (.cells A3 false (A0 (ByteArray.data pipe).toList)) h fun b w=>pAgg x [.int .i64 2,.int .i64 (IntKind.wrap .i64 (256+i)),.int .i64 0,.int .i64 0,.int .i64 0,.int .i64 0,.slice (some (J6 b)) (ByteArray.size pipe) (ByteArray.size pipe)] w fun w1=>gAgg x 7 w1 fun x_1=>bnd (C Q6 [.pointer k,.int .i64 0,.agg ⟨x_1⟩] w1) fun r w2=>aAgg r fun _=>gAgg x 7 w2 fun x_3=>bnd (C Aq0 [.pointer wv,.int .i64 0,.agg ⟨x_3⟩] w2) fun r_1 w3=>as3 r_1 fun r_2 r_3 r_4=>aInt .i64 r_2 fun _=>aInt .i64 r_3 fun _=>aStr r_4 fun _=>R Ad9 Bd0 [(6,.pointer k),(7,.pointer c),(8,.pointer wv),(9,.pointer m),(10,.pointer (some x)),(11,.string pipe),(12,.int .i64 (IntKind.wrap .i64 (i+1)))] w3))
 (some (.tuple ⟨[.pointer k,.pointer c,.pointer wv,.pointer m]⟩,h)):=by kernel_rfl
def D85:Cuts:={ globs:=0,loops:=[],regs:=[],plans:=[(11,⟨[0,1,2,3,4,5,6,7,8,9,10,11,12,13,14,15,16,17,18,19,20,21,22,23,24,25,26,27,28],[0,0,2,6,0,31,63,127,127,383,895,127,2175,6271,14463,32767,65535,131071,262143,262143,786431,1835007,262143,4456447,12845055,29622271,67108863,134217727,268435455],[],[]⟩),(12,⟨[0,1,2,3,4,5,6,7,8,9,10,11,12,13,14,15,17,16,18,19],[0,1,3,0,8,24,0,64,192,448,0,1024,3072,7168,0,17351,50119,0,262143,524287],[(16,[5,12])],[]⟩),(13,⟨[0,1,7,8,9,10,11,12,13,14,2,3,4,5,6,15,16],[0,1,3,3,3,31,63,0,128,384,0,1024,3072,7168,16256,32767,65535],[(5,[9,12])],[]⟩)] }
def E80:List Item:=A4 Tryz.f43
theorem Hh1 (C:A1) (R:A2) (c:Option Addr) (i:Int) (h:H) :
 A5 PR D85 C R Bz2 Tryz.f43 100000 true E80 [(0,.pointer c),(1,.int .i64 i)] h =
 nw (.cells Ba9 false [.pointer c]) h fun b w=>nw (.cells L8 false [.int .i64 0,.int .i64 0,.slice none 0 0,.bool false]) w fun b_1 w1=>gPtr ⟨b,0,none⟩ w1 fun x=>bnd (C Ao8 [.pointer x,.int .i64 i] w1) fun r w2=>as2 r fun r_1 r_2=>aAgg r_1 fun x_1=>aInt .i64 r_2 fun x_2=>nw (.cells B9 false [.int .i64 0,.int .i64 0,.int .i64 0,.int .i64 0,.int .i64 0,.int .i64 0,.int .i64 0,.int .i64 0,.int .i64 0,.int .i64 0,.int .i64 0,.int .i64 0,.int .i64 0,.int .i64 0,.int .i64 0,.int .i64 0]) w2 fun b_2 w3=>ck (List.length x_1=16) (pAgg ⟨b_2,0,none⟩ x_1 w3 fun w4=>cond (x_2 != 0)
 (bnd (C I4 [.int .i64 x_2] w4) fun r_3 w5=>aAgg r_3 fun x_3=>ck (List.length x_3=4) (pAgg ⟨b_1,0,none⟩ x_3 w5 fun w6=>gAgg ⟨b_1,0,none⟩ 4 w6 fun x_4=>some (.agg ⟨x_4⟩,w6)))
 (gAgg ⟨b_2,0,none⟩ 16 w4 fun x_5=>bnd (C Bn2 [.agg ⟨x_5⟩,.int .i64 2] w4) fun r_4 w7=>aSl r_4 fun x_6 xn _=>cond (decide (((xn:Nat):Int)<2))
 (bnd (C I4 [.int .i64 124] w7) fun r_5 w8=>aAgg r_5 fun x_7=>ck (List.length x_7=4) (pAgg ⟨b_1,0,none⟩ x_7 w8 fun w9=>gAgg ⟨b_1,0,none⟩ 4 w9 fun x_8=>some (.agg ⟨x_8⟩,w9)))
 (bnd (C V9 [.int .i64 12,.int .i64 2,.func (.func A16) ⟨[]⟩ ⟨[.pointer (some ⟨b,0,none⟩)]⟩] w7) fun r_6 w10=>aSl r_6 fun x_9 xn_1 _=>bnd (C V9 [.int .i64 4,.int .i64 1,.func (.func A31) ⟨[]⟩ ⟨[.pointer (some ⟨b,0,none⟩)]⟩] w10) fun r_7 w11=>aSl r_7 fun x_10 xn_2 _=>bnd (cond (decide (((xn_1:Nat):Int)<2)) (some (true,w11)) (some (((xn_2:Nat):Int)==0,w11))) fun c_1 w12=>cond c_1
 (bnd (C I4 [.int .i64 123] w12) fun r_8 w13=>aAgg r_8 fun x_11=>ck (List.length x_11=4) (pAgg ⟨b_1,0,none⟩ x_11 w13 fun w14=>gAgg ⟨b_1,0,none⟩ 4 w14 fun x_12=>some (.agg ⟨x_12⟩,w14)))
 (gPtr ⟨b,0,none⟩ w12 fun x_13=>aSome x_10 fun p=>ck ((0:Int)≤0∧0<((xn_2:Nat):Int)) (gInt .i64 (Addr.add (A9 p) (Int.toNat 0*1)) w12 fun x_14=>bnd (C S7 [.pointer x_13,.int .i64 x_14,.agg ⟨[.int .i64 0,.int .i64 0,.int .i64 1,.int .i64 1,.int .u8 0,.int .u8 0,.int .u8 0,.int .u8 0,.int .u8 0,.int .u8 0,.int .u8 0,.int .u8 0,.int .u8 0,.int .u8 0,.int .u8 0,.int .u8 0,.int .u8 0,.int .u8 0,.int .u8 0,.int .u8 0,.int .u8 0,.int .u8 0,.int .u8 0,.int .u8 0,.int .u8 0,.int .u8 0,.int .u8 0,.int .u8 0,.int .u8 0,.int .u8 0,.int .u8 0,.int .u8 0,.int .u8 0,.int .u8 0,.int .u8 0,.int .u8 0]⟩] w12) fun r_9 w15=>aBool r_9 fun x_15=>bnd (cond x_15 (gPtr ⟨b,0,none⟩ w15 fun x_16=>aSome x_9 fun p_1=>ck ((0:Int)≤0∧0<((xn_1:Nat):Int)) (gInt .i64 (Addr.add (A9 p_1) (Int.toNat 0*1)) w15 fun x_17=>aSome x_10 fun p_2=>ck ((0:Int)≤0∧0<((xn_2:Nat):Int)) (gInt .i64 (Addr.add (A9 p_2) (Int.toNat 0*1)) w15 fun x_18=>bnd (C J0 [.pointer x_16,.int .i64 x_17,.agg ⟨[.int .i64 1,.int .i64 x_18,.int .i64 1,.int .i64 0]⟩] w15) fun r_10 w16=>aBool r_10 fun x_19=>some (x_19,w16)))) (some (false,w15))) fun c_2 w17=>bnd (cond c_2 (gPtr ⟨b,0,none⟩ w17 fun x_20=>aSome x_9 fun p_3=>ck ((0:Int)≤1∧1<((xn_1:Nat):Int)) (gInt .i64 (Addr.add (A9 p_3) (Int.toNat 1*1)) w17 fun x_21=>aSome x_10 fun p_4=>ck ((0:Int)≤0∧0<((xn_2:Nat):Int)) (gInt .i64 (Addr.add (A9 p_4) (Int.toNat 0*1)) w17 fun x_22=>bnd (C J0 [.pointer x_20,.int .i64 x_21,.agg ⟨[.int .i64 2,.int .i64 x_22,.int .i64 1,.int .i64 0]⟩] w17) fun r_11 w18=>aBool r_11 fun x_23=>some (x_23,w18)))) (some (false,w17))) fun c_3 w19=>aSome x_6 fun p_5=>ck ((0:Int)≤0∧0<((xn:Nat):Int)) (gInt .i64 (Addr.add (A9 p_5) (Int.toNat 0*1)) w19 fun x_24=>aSome x_6 fun p_6=>ck ((0:Int)≤1∧1<((xn:Nat):Int)) (gInt .i64 (Addr.add (A9 p_6) (Int.toNat 1*1)) w19 fun x_25=>aSome x_9 fun p_7=>ck ((0:Int)≤0∧0<((xn_1:Nat):Int)) (gInt .i64 (Addr.add (A9 p_7) (Int.toNat 0*1)) w19 fun x_26=>aSome x_9 fun p_8=>ck ((0:Int)≤1∧1<((xn_1:Nat):Int)) (gInt .i64 (Addr.add (A9 p_8) (Int.toNat 1*1)) w19 fun x_27=>ck ((0:Int)≤x_24∧x_24<((8:Nat):Int)) (pV (Addr.add (Addr.add ⟨b_2,0,none⟩ 8) (Int.toNat x_24*1)) (.int .i64 (IntKind.wrap .i64 (x_26+1))) w19 fun w20=>gInt .i64 (Addr.add (A9 p_6) (Int.toNat 1*1)) w20 fun x_28=>same (.int .i64 x_25) (.int .i64 x_28) (gInt .i64 (Addr.add (A9 p_8) (Int.toNat 1*1)) w20 fun x_29=>same (.int .i64 x_27) (.int .i64 x_29) (ck ((0:Int)≤x_25∧x_25<((8:Nat):Int)) (pV (Addr.add (Addr.add ⟨b_2,0,none⟩ 8) (Int.toNat x_25*1)) (.int .i64 (IntKind.wrap .i64 (x_27+1))) w20 fun w21=>aSome x_6 fun p_9=>ck ((0:Int)≤0∧0<((xn:Nat):Int)) (gInt .i64 (Addr.add (A9 p_9) (Int.toNat 0*1)) w21 fun x_30=>aSome x_6 fun p_10=>ck ((0:Int)≤1∧1<((xn:Nat):Int)) (gInt .i64 (Addr.add (A9 p_10) (Int.toNat 1*1)) w21 fun x_31=>bnd (cond c_3 (gPtr ⟨b,0,none⟩ w21 fun x_32=>gAgg ⟨b_2,0,none⟩ 16 w21 fun x_33=>bnd (C O1 [.pointer x_32,.int .i64 i,.agg ⟨x_33⟩] w21) fun r_12 w22=>aBool r_12 fun x_34=>gInt .i64 (Addr.add (A9 p_9) (Int.toNat 0*1)) w22 fun x_35=>same (.int .i64 x_30) (.int .i64 x_35) (gInt .i64 (Addr.add (A9 p_10) (Int.toNat 1*1)) w22 fun x_36=>same (.int .i64 x_31) (.int .i64 x_36) (some (x_34,w22)))) (some (false,w21))) fun c_4 w23=>bnd (C By6 [.bool c_4,.int .i64 (IntKind.wrap .i64 (x_30+(IntKind.wrap .i64 (16*x_31))))] w23) fun r_13 w24=>aAgg r_13 fun x_37=>ck (List.length x_37=4) (pAgg ⟨b_1,0,none⟩ x_37 w24 fun w25=>gAgg ⟨b_1,0,none⟩ 4 w25 fun x_38=>some (.agg ⟨x_38⟩,w25))))))))))))))))):=by kernel_rfl
def D45:Cuts:={ globs:=0,loops:=[],regs:=[],plans:=[] }
def E42:List Item:=A4 Tryz.f45
theorem Hg9 (C:A1) (R:A2) (c:Option Addr) (i:Int) (fd:Int) (to:Int) (h:H) :
 A5 PR D45 C R Bj1 Tryz.f45 100000 true E42 [(0,.pointer c),(1,.int .i64 i),(2,.int .i64 fd),(3,.int .i64 to)] h =
 nw (.cells L8 false [.int .i64 0,.int .i64 0,.slice none 0 0,.bool false]) h fun b w=>bnd (C B41 [.pointer c,.int .i64 i,.int .i64 fd] w) fun r w1=>as3 r fun r_1 r_2 r_3=>aInt .i64 r_1 fun x=>aAgg r_2 fun x_1=>aInt .i64 r_3 fun x_2=>nw (.cells D4 false [.int .i64 0,.int .i64 0,.int .i64 0,.int .i64 0]) w1 fun b_1 w2=>ck (List.length x_1=4) (pAgg ⟨b_1,0,none⟩ x_1 w2 fun w3=>cond (x_2 != 0)
 (bnd (C I4 [.int .i64 x_2] w3) fun r_4 w4=>aAgg r_4 fun x_3=>ck (List.length x_3=4) (pAgg ⟨b,0,none⟩ x_3 w4 fun w5=>gAgg ⟨b,0,none⟩ 4 w5 fun x_4=>some (.agg ⟨x_4⟩,w5)))
 (bnd (cond (decide (to<0)) (some (true,w3)) (some (decide (to≥8),w3))) fun c_1 w6=>cond c_1
 (bnd (C I4 [.int .i64 109] w6) fun r_5 w7=>aAgg r_5 fun x_5=>ck (List.length x_5=4) (pAgg ⟨b,0,none⟩ x_5 w7 fun w8=>gAgg ⟨b,0,none⟩ 4 w8 fun x_6=>some (.agg ⟨x_6⟩,w8)))
 (cond (to==fd)
 (pAgg ⟨b,0,none⟩ [.int .i64 to,.int .i64 0,.slice none 0 0,.bool false] w6 fun w9=>gAgg ⟨b,0,none⟩ 4 w9 fun x_7=>some (.agg ⟨x_7⟩,w9))
 (gInt .i64 (Addr.add ⟨b_1,0,none⟩ 2) w6 fun x_8=>cond (decide (x_8≥64))
 (bnd (C I4 [.int .i64 123] w6) fun r_6 w10=>aAgg r_6 fun x_9=>ck (List.length x_9=4) (pAgg ⟨b,0,none⟩ x_9 w10 fun w11=>gAgg ⟨b,0,none⟩ 4 w11 fun x_10=>some (.agg ⟨x_10⟩,w11)))
 (gAgg ⟨b_1,0,none⟩ 4 w6 fun x_11=>bnd (C Bv9 [.pointer c,.int .i64 x,.agg ⟨x_11⟩] w6) fun r_7 w12=>aBool r_7 fun x_12=>cond (!x_12)
 (bnd (C I4 [.int .i64 105] w12) fun r_8 w13=>aAgg r_8 fun x_13=>ck (List.length x_13=4) (pAgg ⟨b,0,none⟩ x_13 w13 fun w14=>gAgg ⟨b,0,none⟩ 4 w14 fun x_14=>some (.agg ⟨x_14⟩,w14)))
 (bnd (C Ba4 [.pointer c,.int .i64 i,.int .i64 to] w12) fun r_9 w15=>aAgg r_9 fun _=>bnd (C Bx2 [.pointer c,.int .i64 i,.int .i64 to,.int .i64 x] w15) fun r_10 w16=>aAgg r_10 fun x_16=>ck (List.length x_16=4) (pAgg ⟨b,0,none⟩ x_16 w16 fun w17=>gAgg ⟨b,0,none⟩ 4 w17 fun x_17=>some (.agg ⟨x_17⟩,w17)))))))):=by kernel_rfl
def Ay6:Cuts:={ globs:=0,loops:=[],regs:=[],plans:=[] }
def Bm5:List Item:=A4 Tryz.f48
theorem Dx2 (C:A1) (R:A2) (c:Option Addr) (h:H) :
 A5 PR Ay6 C R Ah7 Tryz.f48 100000 true Bm5 [(0,.pointer c)] h =
 nw (.cells G8 false [.int .i64 0,.int .i64 0,.int .i64 0,.int .i64 0,.int .u8 0,.int .u8 0,.int .u8 0,.int .u8 0,.int .u8 0,.int .u8 0,.int .u8 0,.int .u8 0,.int .u8 0,.int .u8 0,.int .u8 0,.int .u8 0,.int .u8 0,.int .u8 0,.int .u8 0,.int .u8 0,.int .u8 0,.int .u8 0,.int .u8 0,.int .u8 0,.int .u8 0,.int .u8 0,.int .u8 0,.int .u8 0,.int .u8 0,.int .u8 0,.int .u8 0,.int .u8 0,.int .u8 0,.int .u8 0,.int .u8 0,.int .u8 0]) h fun b w=>bnd (C H6 [.pointer c,.agg ⟨[.int .i64 4,.int .i64 0]⟩,.func (.func At5) ⟨[]⟩ ⟨[]⟩] w) fun r w1=>as2 r fun r_1 r_2=>aAgg r_1 fun x=>aInt .i64 r_2 fun x_1=>ck (List.length x=36) (pAgg ⟨b,0,none⟩ x w1 fun w2=>gAgg ⟨b,0,none⟩ 36 w2 fun x_2=>some (.tuple ⟨[.agg ⟨x_2⟩,.int .i64 x_1]⟩,w2)):=by kernel_rfl
def At2:Cuts:={ globs:=0,loops:=[],regs:=[],plans:=[] }
def Bj7:List Item:=A4 Tryz.f49
theorem Dp0 (C:A1) (R:A2) (c:Option Addr) (h:H) :
 A5 PR At2 C R Af8 Tryz.f49 100000 true Bj7 [(0,.pointer c)] h =
 bnd (C Q1 [.pointer c,.agg ⟨[.int .i64 5,.int .i64 0]⟩,.func (.func Ak8) ⟨[]⟩ ⟨[]⟩] h) fun r w=>as2 r fun r_1 r_2=>aInt .i64 r_1 fun x=>aInt .i64 r_2 fun x_1=>some (.tuple ⟨[.int .i64 x,.bool (x_1==1)]⟩,w):=by kernel_rfl
def A17:Cuts:={ globs:=0,loops:=[(3,[1,2,3,4]),(7,[1,2,3,4,5]),(13,[1,2,3,6])],regs:=[],plans:=[] }
def Be7:List Item:=A4 Tryz.f50
def Bc8:List Item:=stk [0,1,0,1,0,0,1,4,5] Be7
def Au9:List Item:=stk [0,1,0,1,0,0,1,4,5,6,0,1,0,4,0,1,0,0,1,4,5] Be7
def Bb5:List Item:=stk [0,1,0,1,0,1,0,0,1,4,5] Be7
theorem G36 (C:A1) (R:A2) (p:List Value) (h:H) :
 A5 PR A17 C R I3 Tryz.f50 100000 true Be7 [(0,.agg ⟨p⟩)] h =
 nw (.cells B03 false p) h fun b w=>nw (.cells D5 false [.slice none 0 0,.slice none 0 0,.slice none 0 0,.int .i64 0,.slice none 0 0]) w fun b_1 w1=>gInt .i64 (Addr.add ⟨b,0,none⟩ 2) w1 fun x=>nw (.cells D5 false [.slice none 0 0,.slice none 0 0,.slice none 0 0,.int .i64 0,.slice none 0 0]) w1 fun b_2 w2=>pAgg ⟨b_2,0,none⟩ [.slice none 0 0,.slice none 0 0,.slice none 0 0,.int .i64 x,.slice none 0 0] w2 fun w3=>R I3 Bc8 [(1,.pointer (some ⟨b,0,none⟩)),(2,.pointer (some ⟨b_1,0,none⟩)),(3,.pointer (some ⟨b_2,0,none⟩)),(4,.int .i64 0)] w3:=by kernel_rfl
theorem Dr0 (C:A1) (R:A2) (p:Addr) (x2:Addr) (b:Addr) (s:Int) (h:H) :
 A5 PR A17 C R I3 Tryz.f50 100000 true Bc8 [(1,.pointer (some p)),(2,.pointer (some x2)),(3,.pointer (some b)),(4,.int .i64 s)] h =
 gSl (Addr.add p 0) h fun _ xn _=>cond (decide (s<((xn:Nat):Int)))
 (gSl (Addr.add b 0) h fun x_1 xn_1 xc_1=>nw (.cells B2 false [.int .i64 20]) h fun b_1 w=>gCells (some ⟨b_1,0,none⟩) (1*1) w fun cs=>ckB (fitsOpen x_1 B2 w) (apd B2 1 x_1 xn_1 xc_1 1 cs w fun a an ac w1=>pV (Addr.add b 0) (.slice a an ac) w1 fun w2=>R I3 Au9 [(1,.pointer (some p)),(2,.pointer (some x2)),(3,.pointer (some b)),(4,.int .i64 s),(5,.int .i64 0)] w2))
 (R I3 Bb5 [(1,.pointer (some p)),(2,.pointer (some x2)),(3,.pointer (some b)),(6,.int .i64 0)] h):=by kernel_rfl
theorem Dr6 (C:A1) (R:A2) (p:Addr) (x2:Addr) (b:Addr) (s:Int) (i:Int) (h:H) :
 A5 PR A17 C R I3 Tryz.f50 100000 true Au9 [(1,.pointer (some p)),(2,.pointer (some x2)),(3,.pointer (some b)),(4,.int .i64 s),(5,.int .i64 i)] h =
 cond (decide (i<9))
 (gSl (Addr.add b 1) h fun x xn xc=>nw (.cells B2 false [.int .i64 s]) h fun b_1 w=>gCells (some ⟨b_1,0,none⟩) (1*1) w fun cs=>ckB (fitsOpen x B2 w) (apd B2 1 x xn xc 1 cs w fun a an ac w1=>pV (Addr.add b 1) (.slice a an ac) w1 fun w2=>R I3 Au9 [(1,.pointer (some p)),(2,.pointer (some x2)),(3,.pointer (some b)),(4,.int .i64 s),(5,.int .i64 (IntKind.wrap .i64 (i+1)))] w2))
 (gSl (Addr.add b 2) h fun x_1 xn_1 xc_1=>nw (.cells B2 false [.int .i64 s]) h fun b_2 w3=>nw (.cells O2 false [.slice (some ⟨b_2,0,none⟩) 1 1]) w3 fun b_3 w4=>gCells (some ⟨b_3,0,none⟩) (1*1) w4 fun cs_1=>ckB (fitsOpen x_1 O2 w4) (apd O2 1 x_1 xn_1 xc_1 1 cs_1 w4 fun a_1 an_1 ac_1 w5=>pV (Addr.add b 2) (.slice a_1 an_1 ac_1) w5 fun w6=>gSl (Addr.add b 4) w6 fun x_2 xn_2 xc_2=>nw (.cells B2 false [.int .i64 s]) w6 fun b_4 w7=>nw (.cells H8 false [.int .i64 s,.int .i64 0,.int .i64 0,.int .i64 492,.slice (some ⟨b_4,0,none⟩) 1 1]) w7 fun b_5 w8=>gCells (some ⟨b_5,0,none⟩) (1*5) w8 fun cs_2=>ckB (fitsOpen x_2 H8 w8) (apd H8 5 x_2 xn_2 xc_2 1 cs_2 w8 fun a_2 an_2 ac_2 w9=>pV (Addr.add b 4) (.slice a_2 an_2 ac_2) w9 fun w10=>R I3 Bc8 [(1,.pointer (some p)),(2,.pointer (some x2)),(3,.pointer (some b)),(4,.int .i64 (IntKind.wrap .i64 (s+1)))] w10))):=by kernel_rfl
theorem Dr9 (C:A1) (R:A2) (p:Addr) (x2:Addr) (b:Addr) (i:Int) (h:H) :
 A5 PR A17 C R I3 Tryz.f50 100000 true Bb5 [(1,.pointer (some p)),(2,.pointer (some x2)),(3,.pointer (some b)),(6,.int .i64 i)] h =
 gSl (Addr.add p 1) h fun _ xn _=>cond (decide (i<((xn:Nat):Int)))
 (gSl (Addr.add p 1) h fun x_1 xn_1 _=>aSome x_1 fun p_1=>ck ((0:Int)≤i∧i<((xn_1:Nat):Int)) (gAgg (Addr.add (A9 p_1) (Int.toNat i*2)) 2 h fun x_2=>nw (.cells Bx6 false [.int .i64 0,.int .i64 0]) h fun b_1 w=>ck (List.length x_2=2) (pAgg ⟨b_1,0,none⟩ x_2 w fun w1=>gSl (Addr.add b 4) w1 fun x_3 xn_2 xc_2=>gInt .i64 (Addr.add ⟨b_1,0,none⟩ 0) w1 fun x_4=>gInt .i64 (Addr.add ⟨b_1,0,none⟩ 0) w1 fun x_5=>gInt .i64 (Addr.add ⟨b_1,0,none⟩ 1) w1 fun x_6=>nw (.cells B2 false [.int .i64 x_5,.int .i64 x_6]) w1 fun b_2 w2=>nw (.cells H8 false [.int .i64 x_4,.int .i64 (IntKind.wrap .i64 (8+i)),.int .i64 0,.int .i64 40,.slice (some ⟨b_2,0,none⟩) 2 2]) w2 fun b_3 w3=>gCells (some ⟨b_3,0,none⟩) (1*5) w3 fun cs=>ckB (fitsOpen x_3 H8 w3) (apd H8 5 x_3 xn_2 xc_2 1 cs w3 fun a an ac w4=>pV (Addr.add b 4) (.slice a an ac) w4 fun w5=>R I3 Bb5 [(1,.pointer (some p)),(2,.pointer (some x2)),(3,.pointer (some b)),(6,.int .i64 (IntKind.wrap .i64 (i+1)))] w5))))
 (gAgg b 5 h fun x_7=>ck (List.length x_7=5) (pAgg x2 x_7 h fun w6=>gAgg x2 5 w6 fun x_8=>some (.agg ⟨x_8⟩,w6))):=by kernel_rfl
def Dc5:Cuts:={ globs:=0,loops:=[],regs:=[],plans:=[(1,⟨[1,0,2,3,4,5,6],[0,0,3,7,7,31,63],[(0,[1])],[]⟩)] }
def Eb0:List Item:=A4 Tryz.f58
theorem Gq0 (C:A1) (R:A2) (p:List Value) (h:H) :
 A5 PR Dc5 C R A81 Tryz.f58 100000 true Eb0 [(0,.agg ⟨p⟩)] h =
 nw (.cells G8 false p) h fun b w=>gAgg ⟨b,0,none⟩ 36 w fun x=>bnd (C Bg1 [] w) fun r w1=>aPtr r fun x_1=>gAgg ⟨b,0,none⟩ 36 w1 fun x_2=>same (.agg ⟨x⟩) (.agg ⟨x_2⟩) (bnd (C U3 [.pointer x_1,.agg ⟨x⟩] w1) fun r_1 w2=>as2 r_1 fun r_2 r_3=>aSl r_2 fun x_3 xn xc=>aBool r_3 fun x_4=>some (.tuple ⟨[.slice x_3 xn xc,.bool x_4]⟩,w2)):=by kernel_rfl
def As9:Cuts:={ globs:=0,loops:=[],regs:=[],plans:=[(2,⟨[0,1,2,3,4,5,6,7,8,9,10,11,12,13,14],[0,1,3,7,15,31,63,127,255,511,1023,127,4095,8191,16383],[],[]⟩),(4,⟨[0,1,2,3,4,5,6,7,8,9,10,11,12,13,14,15,16,17],[0,1,3,7,0,16,48,112,0,256,0,1024,0,7936,16383,32767,65535,131071],[],[]⟩)] }
def Bj8:List Item:=A4 Tryz.f59
theorem Dp1 (C:A1) (R:A2) (c:Option Addr) (r:List Value) (b:Option Addr) (bn bc:Nat) (ok:Bool) (h:H) :
 A5 PR As9 C R I7 Tryz.f59 100000 true Bj8 [(0,.pointer c),(1,.agg ⟨r⟩),(2,.slice b bn bc),(3,.bool ok)] h =
 nw (.cells D2 false r) h fun b_1 w=>gAgg ⟨b_1,0,none⟩ 2 w fun x=>bnd (C P9 [.pointer c,.agg ⟨x⟩] w) fun r_1 w1=>as2 r_1 fun r_2 r_3=>aAgg r_2 fun x_1=>aBool r_3 fun x_2=>nw (.cells Bc2 false [.int .i64 0,.int .i64 0,.int .i64 0]) w1 fun b_2 w2=>ck (List.length x_1=3) (pAgg ⟨b_2,0,none⟩ x_1 w2 fun w3=>bnd (cond (!x_2) (some (true,w3)) (some (!ok,w3))) fun c_1 w4=>bnd (cond c_1 (some (true,w4)) (aSome c fun p=>gMap (Addr.add p 3) w4 fun x_3=>gAgg ⟨b_1,0,none⟩ 2 w4 fun x_4=>keyN PR D2 (.agg ⟨x_4⟩) (opt x_3 fun r_4=>mapAt w4 r_4 fun es _=>opt (Aj6 (.int .i64 0) (.agg ⟨x_4⟩) es) fun f=>aInt .i64 f.1 fun x_5=>some (decide (x_5>0),w4)))) fun c_2 w5=>cond c_2
 (some (.bool false,w5))
 (aSome c fun p_1=>gPtr (Addr.add p_1 0) w5 fun x_6=>aSome c fun p_2=>gInt .i64 (Addr.add p_2 1) w5 fun x_7=>gInt .i64 (Addr.add ⟨b_2,0,none⟩ 0) w5 fun x_8=>gInt .i64 (Addr.add ⟨b_2,0,none⟩ 1) w5 fun x_9=>bnd (C Q6 [.pointer x_6,.int .i64 x_7,.agg ⟨[.int .i64 2,.int .i64 x_8,.int .i64 x_9,.int .i64 0,.int .i64 0,.int .i64 0,.slice b bn bc]⟩] w5) fun r_5 w6=>aAgg r_5 fun x_10=>nth x_10 0 fun E=>aInt .i64 E fun E_1=>some (.bool (E_1==0),w6))):=by kernel_rfl
def D55:Cuts:={ globs:=0,loops:=[],regs:=[],plans:=[] }
def Ga0:List Item:=A4 Tryz.f64
theorem Hn7 (C:A1) (R:A2) (n:Int) (h:H) :
 A5 PR D55 C R A74 Tryz.f64 100000 true Ga0 [(0,.int .i64 n)] h =
 nw (.cells A3 false [.int .u8 (IntKind.wrap .u8 (Int.fdiv n (2 ^ 8))),.int .u8 (IntKind.wrap .u8 (n))]) h fun b w=>gCells (some ⟨b,0,none⟩) 2 w fun cs=>asBytes cs fun l=>some (.string (ByteArray.mk ⟨l⟩),w):=by kernel_rfl
def B26:Cuts:={ globs:=0,loops:=[],regs:=[],plans:=[] }
def Dz2:List Item:=A4 Tryz.f71
theorem Gc2 (C:A1) (R:A2) (b:Option Addr) (bn bc:Nat) (h:H) :
 A5 PR B26 C R A37 Tryz.f71 100000 true Dz2 [(0,.slice b bn bc)] h =
 nw (.cells B9 false [.int .i64 0,.int .i64 0,.int .i64 0,.int .i64 0,.int .i64 0,.int .i64 0,.int .i64 0,.int .i64 0,.int .i64 0,.int .i64 0,.int .i64 0,.int .i64 0,.int .i64 0,.int .i64 0,.int .i64 0,.int .i64 0]) h fun b_1 w=>bnd (cond (((bn:Nat):Int)==24) (bnd (C Aj9 [.slice b bn bc] w) fun r w1=>aBool r fun x=>some (x,w1)) (some (false,w))) fun c w2=>cond c
 (pAgg ⟨b_1,0,none⟩ [.int .i64 0,.int .i64 0,.int .i64 0,.int .i64 0,.int .i64 0,.int .i64 0,.int .i64 0,.int .i64 0,.int .i64 0,.int .i64 0,.int .i64 0,.int .i64 0,.int .i64 0,.int .i64 0,.int .i64 0,.int .i64 0] w2 fun w3=>gAgg ⟨b_1,0,none⟩ 16 w3 fun x_1=>some (.tuple ⟨[.agg ⟨x_1⟩,.int .i64 0]⟩,w3))
 (bnd (C A88 [] w2) fun r_1 w4=>aPtr r_1 fun x_2=>bnd (C U5 [.pointer x_2,.slice b bn bc] w4) fun r_2 w5=>as2 r_2 fun r_3 r_4=>aAgg r_3 fun x_3=>aBool r_4 fun x_4=>nw (.cells B9 false [.int .i64 0,.int .i64 0,.int .i64 0,.int .i64 0,.int .i64 0,.int .i64 0,.int .i64 0,.int .i64 0,.int .i64 0,.int .i64 0,.int .i64 0,.int .i64 0,.int .i64 0,.int .i64 0,.int .i64 0,.int .i64 0]) w5 fun b_2 w6=>ck (List.length x_3=16) (pAgg ⟨b_2,0,none⟩ x_3 w6 fun w7=>cond (!x_4)
 (pAgg ⟨b_1,0,none⟩ [.int .i64 0,.int .i64 0,.int .i64 0,.int .i64 0,.int .i64 0,.int .i64 0,.int .i64 0,.int .i64 0,.int .i64 0,.int .i64 0,.int .i64 0,.int .i64 0,.int .i64 0,.int .i64 0,.int .i64 0,.int .i64 0] w7 fun w8=>gAgg ⟨b_1,0,none⟩ 16 w8 fun x_5=>some (.tuple ⟨[.agg ⟨x_5⟩,.int .i64 2]⟩,w8))
 (gAgg ⟨b_2,0,none⟩ 16 w7 fun x_6=>ck (List.length x_6=16) (pAgg ⟨b_1,0,none⟩ x_6 w7 fun w9=>gAgg ⟨b_1,0,none⟩ 16 w9 fun x_7=>some (.tuple ⟨[.agg ⟨x_7⟩,.int .i64 1]⟩,w9))))):=by kernel_rfl
def At1:Cuts:={ globs:=0,loops:=[],regs:=[],plans:=[(2,⟨[0,1,2,3,4,5,6,7],[0,0,0,4,12,0,63,127],[],[]⟩)] }
def Bk1:List Item:=A4 Tryz.f73
theorem Dp3 (C:A1) (R:A2) (c:Option Addr) (r:List Value) (h:H) :
 A5 PR At1 C R W7 Tryz.f73 100000 true Bk1 [(0,.pointer c),(1,.agg ⟨r⟩)] h =
 nw (.cells D2 false r) h fun b w=>gAgg ⟨b,0,none⟩ 2 w fun x=>bnd (C P9 [.pointer c,.agg ⟨x⟩] w) fun r_1 w1=>as2 r_1 fun r_2 r_3=>aAgg r_2 fun x_1=>aBool r_3 fun x_2=>nw (.cells Bc2 false [.int .i64 0,.int .i64 0,.int .i64 0]) w1 fun b_1 w2=>ck (List.length x_1=3) (pAgg ⟨b_1,0,none⟩ x_1 w2 fun w3=>gAgg ⟨b,0,none⟩ 2 w3 fun x_3=>gInt .i64 (Addr.add ⟨b_1,0,none⟩ 2) w3 fun x_4=>ck ((0:Int)≤x_4∧(x_4:Int)≤x_4∧x_4≤(A8:Int)) (nw (.cells A3 false (G7 (Int.toNat x_4) [.int .u8 0])) w3 fun b_2 w4=>bnd (C I7 [.pointer c,.agg ⟨x_3⟩,.slice (some ⟨b_2,0,none⟩) (Int.toNat x_4) (Int.toNat x_4),.bool x_2] w4) fun r_4 w5=>aBool r_4 fun x_5=>some (.bool x_5,w5))):=by kernel_rfl
def A03:Cuts:={ globs:=0,loops:=[(4,[1,3,4])],regs:=[],plans:=[] }
def Bl3:List Item:=A4 Tryz.f77
def Am6:List Item:=stk [0,1,0,1,0,1,0,0,1,4,5] Bl3
theorem Es3 (C:A1) (R:A2) (p:List Value) (h:H) :
 A5 PR A03 C R P2 Tryz.f77 100000 true Bl3 [(0,.agg ⟨p⟩)] h =
 nw (.cells G8 false p) h fun b w=>gInt .i64 (Addr.add ⟨b,0,none⟩ 0) w fun x=>gInt .i64 (Addr.add ⟨b,0,none⟩ 1) w fun x_1=>gInt .i64 (Addr.add ⟨b,0,none⟩ 2) w fun x_2=>gInt .i64 (Addr.add ⟨b,0,none⟩ 3) w fun x_3=>nw (.cells A3 false [.int .u8 1,.int .u8 (IntKind.wrap .u8 (x)),.int .u8 (IntKind.wrap .u8 (x_1)),.int .u8 (IntKind.wrap .u8 (x_2)),.int .u8 (IntKind.wrap .u8 (x_3)),.int .u8 197]) w fun b_1 w1=>gCells (some ⟨b_1,0,none⟩) 6 w1 fun cs=>asBytes cs fun l=>bnd (C Ad6 [.string (ByteArray.mk ⟨l⟩)] w1) fun r w2=>aInt .u8 r fun x_4=>nw (.cells A3 false [.int .u8 x_4,.int .u8 0]) w2 fun b_2 w3=>gCells (some ⟨b_2,0,none⟩) 2 w3 fun cs_1=>asBytes cs_1 fun l_1=>ck (ByteArray.size (ByteArray.mk ⟨l⟩)+ByteArray.size (ByteArray.mk ⟨l_1⟩)≤A8) (R P2 Am6 [(1,.pointer (some ⟨b,0,none⟩)),(3,.string ((ByteArray.mk ⟨l⟩)++(ByteArray.mk ⟨l_1⟩))),(4,.int .i64 0)] w3):=by kernel_rfl
theorem Bx1 (C:A1) (R:A2) (p:Addr) (s:ByteArray) (i:Int) (h:H) :
 A5 PR A03 C R P2 Tryz.f77 100000 true Am6 [(1,.pointer (some p)),(3,.string s),(4,.int .i64 i)] h =
 cond (decide (i<32))
 (ck ((0:Int)≤i∧i<((32:Nat):Int)) (gInt .u8 (Addr.add (Addr.add p 4) (Int.toNat i*1)) h fun x=>nw (.cells A3 false [.int .u8 x]) h fun b w=>gCells (some ⟨b,0,none⟩) 1 w fun cs=>asBytes cs fun l=>ck (ByteArray.size s+ByteArray.size (ByteArray.mk ⟨l⟩)≤A8) (R P2 Am6 [(1,.pointer (some p)),(3,.string (s++(ByteArray.mk ⟨l⟩))),(4,.int .i64 (IntKind.wrap .i64 (i+1)))] w)))
 (some (.string s,h)):=by kernel_rfl
def D80:Cuts:={ globs:=0,loops:=[],regs:=[],plans:=[] }
def E62:List Item:=A4 Tryz.f105
theorem Hi1 (C:A1) (R:A2) (c:Option Addr) (i:Int) (fd:Int) (f:Int) (h:H) :
 A5 PR D80 C R Bx2 Tryz.f105 100000 true E62 [(0,.pointer c),(1,.int .i64 i),(2,.int .i64 fd),(3,.int .i64 f)] h =
 nw (.cells L8 false [.int .i64 0,.int .i64 0,.slice none 0 0,.bool false]) h fun b w=>bnd (C Ao8 [.pointer c,.int .i64 i] w) fun r w1=>as2 r fun r_1 r_2=>aAgg r_1 fun x=>aInt .i64 r_2 fun x_1=>nw (.cells B9 false [.int .i64 0,.int .i64 0,.int .i64 0,.int .i64 0,.int .i64 0,.int .i64 0,.int .i64 0,.int .i64 0,.int .i64 0,.int .i64 0,.int .i64 0,.int .i64 0,.int .i64 0,.int .i64 0,.int .i64 0,.int .i64 0]) w1 fun b_1 w2=>ck (List.length x=16) (pAgg ⟨b_1,0,none⟩ x w2 fun w3=>cond (x_1 != 0)
 (bnd (C I4 [.int .i64 x_1] w3) fun r_3 w4=>aAgg r_3 fun x_2=>ck (List.length x_2=4) (pAgg ⟨b,0,none⟩ x_2 w4 fun w5=>gAgg ⟨b,0,none⟩ 4 w5 fun x_3=>some (.agg ⟨x_3⟩,w5)))
 (ck ((0:Int)≤fd∧fd<((8:Nat):Int)) (pV (Addr.add (Addr.add ⟨b_1,0,none⟩ 8) (Int.toNat fd*1)) (.int .i64 (IntKind.wrap .i64 (f+1))) w3 fun w6=>gAgg ⟨b_1,0,none⟩ 16 w6 fun x_4=>bnd (C O1 [.pointer c,.int .i64 i,.agg ⟨x_4⟩] w6) fun r_4 w7=>aBool r_4 fun x_5=>bnd (C By6 [.bool x_5,.int .i64 fd] w7) fun r_5 w8=>aAgg r_5 fun x_6=>ck (List.length x_6=4) (pAgg ⟨b,0,none⟩ x_6 w8 fun w9=>gAgg ⟨b,0,none⟩ 4 w9 fun x_7=>some (.agg ⟨x_7⟩,w9))))):=by kernel_rfl
def Am7:Cuts:={ globs:=0,loops:=[],regs:=[(8,[8,11,12])],plans:=[(7,⟨[0,1,2,3,4,5,6,7,8,9],[0,1,3,7,0,31,63,31,159,511],[(7,[5])],[]⟩)] }
def A50:List Item:=A4 Tryz.f108
def At3:List Item:=stk [0,1,0,1,0,1,0,1,0,1,0,1,0,0] A50
theorem Ea6 (C:A1) (R:A2) (c:Option Addr) (r:List Value) (decode:Value) (h:H) :
 A5 PR Am7 C R Q1 Tryz.f108 100000 true A50 [(0,.pointer c),(1,.agg ⟨r⟩),(2,decode)] h =
 nw (.cells D2 false r) h fun b w=>gAgg ⟨b,0,none⟩ 2 w fun x=>bnd (C N7 [.pointer c,.agg ⟨x⟩] w) fun r_1 w1=>as2 r_1 fun r_2 r_3=>aSl r_2 fun x_1 xn xc=>aBool r_3 fun x_2=>cond (!x_2)
 (some (.tuple ⟨[.int .i64 0,.int .i64 2]⟩,w1))
 (aFn decode fun g fi cp=>bnd (C g (fi++([.slice x_1 xn xc]++cp)) w1) fun r_4 w2=>as2 r_4 fun r_5 r_6=>aInt .i64 r_5 fun x_3=>aInt .i64 r_6 fun x_4=>cond (x_4==2)
 (aSome c fun p=>gMap (Addr.add p 3) w2 fun x_5=>gAgg ⟨b,0,none⟩ 2 w2 fun x_6=>keyN PR D2 (.agg ⟨x_6⟩) (opt x_5 fun r_7=>mapAt w2 r_7 fun es _=>opt (Aj6 (.int .i64 0) (.agg ⟨x_6⟩) es) fun f=>aInt .i64 f.1 fun x_7=>keyN PR D2 (.agg ⟨x_6⟩) (opt x_5 fun r_8=>mapAt w2 r_8 fun es_1 cl_1=>opt (Dw9 (.int .i64 0) (.agg ⟨x_6⟩) es_1 cl_1) fun f_1=>aInt .i64 f_1.1 fun _=>lt (H.set w2 r_8 f_1.2.2) fun w3=>keyN PR D2 (.agg ⟨x_6⟩) (opt x_5 fun r_9=>mapAt w3 r_9 fun es_2 _=>opt (Aj6 (.int .i64 0) (.agg ⟨x_6⟩) es_2) fun f_2=>aInt .i64 f_2.1 fun x_9=>same (.int .i64 x_7) (.int .i64 x_9) (opt x_5 fun r_10=>mapAt w3 r_10 fun es_3 cl_3=>opt (Bh9 (f_1.2.1:Int) es_3 0) fun i=>lt (H.set w3 r_10 (.map (modN (fun e=>{ e with val:=.int .i64 (IntKind.wrap .i64 (x_7+1)) }) i es_3) cl_3)) fun w4=>R Q1 At3 [(8,.int .i64 0),(11,.int .i64 x_3),(12,.int .i64 x_4)] w4)))))
 (R Q1 At3 [(8,.int .i64 0),(11,.int .i64 x_3),(12,.int .i64 x_4)] w2)):=by kernel_rfl
theorem Bj9 (C:A1) (R:A2) (nonev:Int) (v:Int) (isv:Int) (h:H) :
 A5 PR Am7 C R Q1 Tryz.f108 100000 true At3 [(8,.int .i64 nonev),(11,.int .i64 v),(12,.int .i64 isv)] h =
 cond (isv != 1)
 (some (.tuple ⟨[.int .i64 nonev,.int .i64 isv]⟩,h))
 (some (.tuple ⟨[.int .i64 v,.int .i64 isv]⟩,h)):=by kernel_rfl
def Bk4:Cuts:={ globs:=0,loops:=[],regs:=[],plans:=[] }
def Dd8:List Item:=A4 Tryz.f109
theorem Es9 (C:A1) (R:A2) (b:Option Addr) (bn bc:Nat) (h:H) :
 A5 PR Bk4 C R Ak8 Tryz.f109 100000 true Dd8 [(0,.slice b bn bc)] h =
 cond (((bn:Nat):Int) != 4)
 (some (.tuple ⟨[.int .i64 0,.int .i64 2]⟩,h))
 (aSome b fun p=>ck ((0:Int)≤0∧0<((bn:Nat):Int)) (gInt .u8 (Addr.add (A9 p) (Int.toNat 0*1)) h fun x=>bnd (C Am4 [.int .i64 (IntKind.wrap .i64 (x))] h) fun r w=>as2 r fun r_1 r_2=>aSl r_1 fun x_1 xn _=>aBool r_2 fun x_2=>bnd (cond (!x_2) (some (true,w)) (gCells x_1 xn w fun cs=>asBytes cs fun l=>gCells b bn w fun cs_1=>asBytes cs_1 fun l_1=>some (!((ByteArray.mk ⟨l⟩).toList==(ByteArray.mk ⟨l_1⟩).toList),w))) fun c w1=>cond c
 (some (.tuple ⟨[.int .i64 0,.int .i64 2]⟩,w1))
 (aSome b fun p_1=>ck ((0:Int)≤0∧0<((bn:Nat):Int)) (gInt .u8 (Addr.add (A9 p_1) (Int.toNat 0*1)) w1 fun x_3=>some (.tuple ⟨[.int .i64 (IntKind.wrap .i64 (x_3)),.int .i64 1]⟩,w1))))):=by kernel_rfl
def B71:Cuts:={ globs:=0,loops:=[(3,[3,12,13,14])],regs:=[],plans:=[(5,⟨[0,1,2,3,4,5,6,7,8,9,10,11,12,13],[0,0,2,6,14,0,32,96,224,480,1022,2047,4095,8191],[],[]⟩)] }
def Du5:List Item:=A4 Tryz.f115
def Bj5:List Item:=stk [0,1,0,1,0,0,1,4,5] Du5
theorem G74 (C:A1) (R:A2) (frames:Option Addr) (framesn framesc:Nat) (h:H) :
 A5 PR B71 C R Ap3 Tryz.f115 100000 true Du5 [(0,.slice frames framesn framesc)] h =
 nw (.cells At9 false [.slice none 0 0]) h fun b w=>ckB (fitsOpen frames B2 w) (ck ((0:Int)≤mm2 false ((framesn:Nat):Int) 4∧mm2 false ((framesn:Nat):Int) 4≤((framesc:Nat):Int)) (R Ap3 Bj5 [(3,.pointer (some ⟨b,0,none⟩)),(12,.slice (H4 frames (decide (0<framesc)) (0*1)) ((Int.toNat (mm2 false ((framesn:Nat):Int) 4))-0) (framesc-0)),(13,.int .i64 (((Int.toNat (mm2 false ((framesn:Nat):Int) 4))-0:Nat):Int)),(14,.int .i64 0)] w)):=by kernel_rfl
theorem Dy8 (C:A1) (R:A2) (q:Addr) (x12:Option Addr) (x12n x12c:Nat) (x13:Int) (x14:Int) (h:H) :
 A5 PR B71 C R Ap3 Tryz.f115 100000 true Bj5 [(3,.pointer (some q)),(12,.slice x12 x12n x12c),(13,.int .i64 x13),(14,.int .i64 x14)] h =
 cond (decide (x14<x13))
 (aSome x12 fun p=>ck ((0:Int)≤x14∧x14<((x12n:Nat):Int)) (gInt .i64 (Addr.add (A9 p) (Int.toNat x14*1)) h fun x=>gSl (Addr.add q 0) h fun x_1 xn xc=>ck ((0:Int)≤mm2 false (mm2 true x 0) 64∧(mm2 false (mm2 true x 0) 64:Int)≤mm2 false (mm2 true x 0) 64∧mm2 false (mm2 true x 0) 64≤(A8:Int)) (nw (.cells B2 false (G7 (Int.toNat (mm2 false (mm2 true x 0) 64)) [.int .i64 0])) h fun b w=>nw (.cells O2 false [.slice (some ⟨b,0,none⟩) (Int.toNat (mm2 false (mm2 true x 0) 64)) (Int.toNat (mm2 false (mm2 true x 0) 64))]) w fun b_1 w1=>gCells (some ⟨b_1,0,none⟩) (1*1) w1 fun cs=>ckB (fitsOpen x_1 O2 w1) (apd O2 1 x_1 xn xc 1 cs w1 fun a an ac w2=>pV (Addr.add q 0) (.slice a an ac) w2 fun w3=>R Ap3 Bj5 [(3,.pointer (some q)),(12,.slice x12 x12n x12c),(13,.int .i64 x13),(14,.int .i64 (IntKind.wrap .i64 (x14+1)))] w3))))
 (some (.pointer (some q),h)):=by kernel_rfl
def Dm8:Cuts:={ globs:=0,loops:=[],regs:=[],plans:=[] }
def Eg0:List Item:=A4 Tryz.f116
theorem G03 (C:A1) (R:A2) (m:Option Addr) (s:Option Addr) (h:H) :
 A5 PR Dm8 C R Bz6 Tryz.f116 100000 true Eg0 [(0,.pointer m),(1,.pointer s)] h =
 nw (.cells Dn4 false [.pointer m,.pointer s,.slice none 0 0]) h fun b w=>some (.pointer (some ⟨b,0,none⟩),w):=by kernel_rfl
def Ar9:Cuts:={ globs:=0,loops:=[(3,[5,20,21,22])],regs:=[],plans:=[(2,⟨[0,1,2,3,4,5,6,7,8,9,10,11,12,13,14],[0,1,3,7,0,16,0,64,192,448,960,2032,4095,8191,0],[],[]⟩)] }
def Ba7:List Item:=A4 Tryz.f119
def Ai1:List Item:=stk [0,1,0,1,0,0,1,4,5] Ba7
theorem Ed7 (C:A1) (R:A2) (q:Option Addr) (s:Int) (h:H) :
 A5 PR Ar9 C R O8 Tryz.f119 100000 true Ba7 [(0,.pointer q),(1,.int .i64 s)] h =
 aSome q fun p=>gSl (Addr.add p 0) h fun x _ xc=>aSome q fun p_1=>gSl (Addr.add p_1 0) h fun _ xn_1 _=>ckB (fitsOpen x O2 h) (ck ((0:Int)≤mm2 false (mm2 true s 0) ((xn_1:Nat):Int)∧mm2 false (mm2 true s 0) ((xn_1:Nat):Int)≤((xc:Nat):Int)) (R O8 Ai1 [(5,.int .i64 0),(20,.slice (H4 x (decide (0<xc)) (0*1)) ((Int.toNat (mm2 false (mm2 true s 0) ((xn_1:Nat):Int)))-0) (xc-0)),(21,.int .i64 (((Int.toNat (mm2 false (mm2 true s 0) ((xn_1:Nat):Int)))-0:Nat):Int)),(22,.int .i64 0)] h)):=by kernel_rfl
theorem Bm8 (C:A1) (R:A2) (n:Int) (x20:Option Addr) (x20n x20c:Nat) (x21:Int) (x22:Int) (h:H) :
 A5 PR Ar9 C R O8 Tryz.f119 100000 true Ai1 [(5,.int .i64 n),(20,.slice x20 x20n x20c),(21,.int .i64 x21),(22,.int .i64 x22)] h =
 cond (decide (x22<x21))
 (aSome x20 fun p=>ck ((0:Int)≤x22∧x22<((x20n:Nat):Int)) (gSl (Addr.add (A9 p) (Int.toNat x22*1)) h fun _ xn _=>R O8 Ai1 [(5,.int .i64 (IntKind.wrap .i64 (n+((xn:Nat):Int)))),(20,.slice x20 x20n x20c),(21,.int .i64 x21),(22,.int .i64 (IntKind.wrap .i64 (x22+1)))] h))
 (some (.int .i64 n,h)):=by kernel_rfl
def Aj0:Cuts:={ globs:=0,loops:=[],regs:=[],plans:=[] }
def A41:List Item:=A4 Tryz.f120
theorem B83 (C:A1) (R:A2) (s:Option Addr) (sn sc:Nat) (v:Int) (h:H) :
 A5 PR Aj0 C R L9 Tryz.f120 100000 true A41 [(0,.slice s sn sc),(1,.int .i64 v)] h =
 bnd (C G6 [.slice s sn sc,.int .i64 v] h) fun r w=>aInt .i64 r fun x=>some (.bool (decide (x≥0)),w):=by kernel_rfl
def Av4:Cuts:={ globs:=0,loops:=[(3,[0,1,5,6])],regs:=[],plans:=[] }
def Be1:List Item:=A4 Tryz.f123
def Aj8:List Item:=stk [0,1,0,1,0,0,1,4,5] Be1
theorem Em3 (C:A1) (R:A2) (q:Option Addr) (s:Int) (h:H) :
 A5 PR Av4 C R N0 Tryz.f123 100000 true Be1 [(0,.pointer q),(1,.int .i64 s)] h =
 R N0 Aj8 [(0,.pointer q),(1,.int .i64 s),(5,.int .i64 0),(6,.int .i64 0)] h:=by kernel_rfl
theorem Bu3 (C:A1) (R:A2) (q:Option Addr) (s:Int) (n:Int) (i:Int) (h:H) :
 A5 PR Av4 C R N0 Tryz.f123 100000 true Aj8 [(0,.pointer q),(1,.int .i64 s),(5,.int .i64 n),(6,.int .i64 i)] h =
 cond (decide (i<s))
 (aSome q fun p=>gSl (Addr.add p 0) h fun x xn _=>aSome x fun p_1=>ck ((0:Int)≤i∧i<((xn:Nat):Int)) (gSl (Addr.add (A9 p_1) (Int.toNat i*1)) h fun _ xn_1 _=>R N0 Aj8 [(0,.pointer q),(1,.int .i64 s),(5,.int .i64 (IntKind.wrap .i64 (n+((xn_1:Nat):Int)))),(6,.int .i64 (IntKind.wrap .i64 (i+1)))] h))
 (some (.int .i64 n,h)):=by kernel_rfl
def Bt0:Cuts:={ globs:=0,loops:=[],regs:=[],plans:=[] }
def Dk8:List Item:=A4 Tryz.f140
theorem E12 (C:A1) (R:A2) (s:Option Addr) (e:Int) (h:H) :
 A5 PR Bt0 C R A57 Tryz.f140 100000 true Dk8 [(0,.pointer s),(1,.int .i64 e)] h =
 bnd (C Ah6 [.pointer s,.int .i64 e] h) fun r w=>aBool r fun x=>cond (!x)
 (some (.slice none 0 0,w))
 (aSome s fun p=>gSl (Addr.add p 0) w fun x_1 xn _=>aSome x_1 fun p_1=>ck ((0:Int)≤e∧e<((xn:Nat):Int)) (gPtr (Addr.add (A9 p_1) (Int.toNat e*1)) w fun x_2=>bnd (C Q0 [.pointer x_2] w) fun r_1 w1=>aSl r_1 fun x_3 xn_1 xc_1=>some (.slice x_3 xn_1 xc_1,w1))):=by kernel_rfl
def Ae8:Cuts:={ globs:=0,loops:=[],regs:=[],plans:=[(2,⟨[0,1,2,3,4,5,6,7,8,9,10,11,12,13,14],[0,1,3,7,15,31,63,127,255,511,63,63,4095,8191,16383],[],[]⟩)] }
def Az3:List Item:=A4 Tryz.f144
theorem B10 (C:A1) (R:A2) (c:Option Addr) (v:List Value) (h:H) :
 A5 PR Ae8 C R U3 Tryz.f144 100000 true Az3 [(0,.pointer c),(1,.agg ⟨v⟩)] h =
 nw (.cells G8 false v) h fun b w=>aSome c fun p=>gInt .i64 (Addr.add p 0) w fun x=>ck ((0:Int)≤x∧(x:Int)≤x∧x≤(A8:Int)) (nw (.cells A3 false (G7 (Int.toNat x) [.int .u8 0])) w fun b_1 w1=>aSome c fun p_1=>gFv (Addr.add p_1 1) w1 fun x_1=>isNilF x_1 fun b_2=>bnd (cond b_2 (some (true,w1)) (aSome c fun p_2=>gFv (Addr.add p_2 1) w1 fun x_2=>gAgg ⟨b,0,none⟩ 36 w1 fun x_3=>aFn x_2 fun g fi cp=>bnd (C g (fi++([.agg ⟨x_3⟩,.slice (some ⟨b_1,0,none⟩) (Int.toNat x) (Int.toNat x)]++cp)) w1) fun r w2=>aBool r fun x_4=>some (!x_4,w2))) fun c_1 w3=>cond c_1
 (some (.tuple ⟨[.slice none 0 0,.bool false]⟩,w3))
 (some (.tuple ⟨[.slice (some ⟨b_1,0,none⟩) (Int.toNat x) (Int.toNat x),.bool true]⟩,w3))):=by kernel_rfl
def Dd1:Cuts:={ globs:=0,loops:=[],regs:=[],plans:=[] }
def Ec4:List Item:=A4 Tryz.f147
theorem Gp4 (C:A1) (R:A2) (b:Option Addr) (bn bc:Nat) (h:H) :
 A5 PR Dd1 C R Aj9 Tryz.f147 100000 true Ec4 [(0,.slice b bn bc)] h =
 bnd (C P5 [.slice b bn bc,.func (.func Ad8) ⟨[]⟩ ⟨[]⟩] h) fun r w=>aBool r fun x=>some (.bool (!x),w):=by kernel_rfl
def Ax8:Cuts:={ globs:=0,loops:=[],regs:=[],plans:=[] }
def Bn5:List Item:=A4 Tryz.f150
theorem Dv7 (C:A1) (R:A2) (r:Option Addr) (env:Int) (name:Int) (atv:Int) (b:Option Addr) (bn bc:Nat) (h:H) :
 A5 PR Ax8 C R Z8 Tryz.f150 100000 true Bn5 [(0,.pointer r),(1,.int .i64 env),(2,.int .i64 name),(3,.int .i64 atv),(4,.slice b bn bc)] h =
 bnd (C Z3 [.pointer r,.int .i64 env,.int .i64 name,.int .i64 2,.int .i64 atv,.int .i64 ((bn:Nat):Int)] h) fun r_1 w=>as2 r_1 fun r_2 r_3=>aInt .i64 r_2 fun x=>aInt .i64 r_3 fun x_1=>cond (x_1 != 0)
 (some (.int .i64 x_1,w))
 (aSome r fun p=>gPtr (Addr.add p 0) w fun x_2=>bnd (C Bd1 [.pointer x_2,.int .i64 x,.slice b bn bc] w) fun r_4 w1=>aInt .i64 r_4 fun x_3=>some (.int .i64 x_3,w1)):=by kernel_rfl
def Dj2:Cuts:={ globs:=0,loops:=[],regs:=[],plans:=[] }
def Eg1:List Item:=A4 Tryz.f164
theorem G44 (C:A1) (R:A2) (m:Option Addr) (atv:Int) (n:Int) (h:H) :
 A5 PR Dj2 C R Bd6 Tryz.f164 100000 true Eg1 [(0,.pointer m),(1,.int .i64 atv),(2,.int .i64 n)] h =
 bnd (cond (decide (atv≥0)) (some (decide (n≥0),h)) (some (false,h))) fun c w=>bnd (cond c (aSome m fun p=>gSl (Addr.add p 0) w fun _ xn _=>some (decide (atv≤((xn:Nat):Int)),w)) (some (false,w))) fun c_1 w1=>bnd (cond c_1 (aSome m fun p_1=>gSl (Addr.add p_1 0) w1 fun _ xn_1 _=>some (decide (n≤(IntKind.wrap .i64 (((xn_1:Nat):Int)-atv))),w1)) (some (false,w1))) fun c_2 w2=>some (.bool c_2,w2):=by kernel_rfl
def Ak2:Cuts:={ globs:=0,loops:=[],regs:=[],plans:=[] }
def A79:List Item:=A4 Tryz.f165
theorem A85 (C:A1) (R:A2) (s:Option Addr) (sn sc:Nat) (h:H) :
 A5 PR Ak2 C R E8 Tryz.f165 100000 true A79 [(0,.slice s sn sc)] h =
 cond s.isNone
 (some (.slice none 0 0,h))
 (nw (.cells A3 false []) h fun b w=>gCells s (sn*1) w fun cs=>ckB (fitsOpen (some ⟨b,0,none⟩) A3 w) (apd A3 1 (some ⟨b,0,none⟩) 0 0 sn cs w fun a an ac w1=>some (.slice a an ac,w1))):=by kernel_rfl
def Ac7:Cuts:={ globs:=0,loops:=[(2,[0,1,7,8])],regs:=[],plans:=[] }
def Aq8:List Item:=A4 Tryz.f179
def Z1:List Item:=stk [0,1,0,0,1,4,5] Aq8
theorem Dn9 (C:A1) (R:A2) (s:Option Addr) (sn sc:Nat) (v:Int) (h:H) :
 A5 PR Ac7 C R G6 Tryz.f179 100000 true Aq8 [(0,.slice s sn sc),(1,.int .i64 v)] h =
 R G6 Z1 [(0,.slice s sn sc),(1,.int .i64 v),(7,.int .i64 ((sn:Nat):Int)),(8,.int .i64 0)] h:=by kernel_rfl
theorem A39 (C:A1) (R:A2) (s:Option Addr) (sn sc:Nat) (v:Int) (x7:Int) (x8:Int) (h:H) :
 A5 PR Ac7 C R G6 Tryz.f179 100000 true Z1 [(0,.slice s sn sc),(1,.int .i64 v),(7,.int .i64 x7),(8,.int .i64 x8)] h =
 cond (decide (x8<x7))
 (aSome s fun p=>ck ((0:Int)≤x8∧x8<((sn:Nat):Int)) (gInt .i64 (Addr.add (A9 p) (Int.toNat x8*1)) h fun x=>cond (v==x)
 (some (.int .i64 x8,h))
 (R G6 Z1 [(0,.slice s sn sc),(1,.int .i64 v),(7,.int .i64 x7),(8,.int .i64 (IntKind.wrap .i64 (x8+1)))] h)))
 (some (.int .i64 (-1),h)):=by kernel_rfl
def Bs5:Cuts:={ globs:=0,loops:=[],regs:=[],plans:=[(1,⟨[0,1,2,3,4,5,6,7,8,9,10,11,12,13],[0,1,3,7,0,31,63,0,255,511,1023,1023,2047,8191],[],[]⟩)] }
def Dj0:List Item:=A4 Tryz.f181
theorem E26 (C:A1) (R:A2) (s:Option Addr) (env:Int) (c:List Value) (h:H) :
 A5 PR Bs5 C R Ar0 Tryz.f181 100000 true Dj0 [(0,.pointer s),(1,.int .i64 env),(2,.agg ⟨c⟩)] h =
 nw (.cells P1 false c) h fun b w=>aSome s fun p=>gSl (Addr.add p 0) w fun x xn _=>aSome x fun p_1=>ck ((0:Int)≤env∧env<((xn:Nat):Int)) (gPtr (Addr.add (A9 p_1) (Int.toNat env*1)) w fun x_1=>gAgg ⟨b,0,none⟩ 6 w fun x_2=>bnd (C H3 [.pointer x_1,.agg ⟨x_2⟩] w) fun r w1=>as2 r fun r_1 r_2=>aInt .i64 r_1 fun x_3=>aBool r_2 fun x_4=>cond (!x_4)
 (some (.tuple ⟨[.int .i64 0,.int .i64 4]⟩,w1))
 (some (.tuple ⟨[.int .i64 x_3,.int .i64 0]⟩,w1))):=by kernel_rfl
def Bq0:Cuts:={ globs:=0,loops:=[],regs:=[],plans:=[] }
def Dk6:List Item:=A4 Tryz.f184
theorem E30 (C:A1) (R:A2) (s:Option Addr) (e:Int) (h:H) :
 A5 PR Bq0 C R Ah6 Tryz.f184 100000 true Dk6 [(0,.pointer s),(1,.int .i64 e)] h =
 bnd (cond (decide (e≥0)) (aSome s fun p=>gSl (Addr.add p 0) h fun _ xn _=>some (decide (e<((xn:Nat):Int)),h)) (some (false,h))) fun c w=>some (.bool c,w):=by kernel_rfl
def A44:Cuts:={ globs:=0,loops:=[],regs:=[],plans:=[(6,⟨[0,1,2,3,4,5,6,7,8,9,10,11,12,13,14,15,16,17,18,19,20,21],[0,0,0,4,15,31,63,127,255,511,1023,2047,4095,8191,4095,20479,53247,118783,249855,524287,1048575,2097151],[],[]⟩),(8,⟨[0,1,2,3,4,5,6,7,8,9,10,11,12,13,14,15,16,17,18,19,20,21,22,23,24,25,26,27,28,29,30],[0,1,0,0,8,24,56,0,128,504,1016,2047,4095,8191,16383,32767,16383,131071,16383,16383,540671,1589247,3686399,16383,8404991,33046527,66600959,134217727,268435455,536870911,1073741823],[],[]⟩),(10,⟨[0,1,2,3,4,5,6,7,8,9,10,11,12,13,14],[0,1,3,7,0,16,63,127,0,256,1023,0,4095,8191,16383],[],[]⟩)] }
def Bw0:List Item:=A4 Tryz.f186
theorem D64 (C:A1) (R:A2) (r:Option Addr) (e:Int) (name:Int) (right:Int) (atv:Int) (n:Int) (h:H) :
 A5 PR A44 C R Ao0 Tryz.f186 100000 true Bw0 [(0,.pointer r),(1,.int .i64 e),(2,.int .i64 name),(3,.int .i64 right),(4,.int .i64 atv),(5,.int .i64 n)] h =
 aSome r fun p=>gPtr (Addr.add p 3) h fun x=>bnd (C A51 [.pointer x,.int .i64 e,.int .i64 name] h) fun r_1 w=>as2 r_1 fun r_2 r_3=>aAgg r_2 fun x_1=>aInt .i64 r_3 fun x_2=>nw (.cells P1 false [.int .i64 0,.int .i64 0,.int .i64 0,.int .i64 0,.int .i64 0,.int .i64 0]) w fun b w1=>ck (List.length x_1=6) (pAgg ⟨b,0,none⟩ x_1 w1 fun w2=>cond (x_2 != 0)
 (some (.tuple ⟨[.int .i64 0,.int .i64 x_2]⟩,w2))
 (gInt .i64 (Addr.add ⟨b,0,none⟩ 1) w2 fun x_3=>cond ((B4 .i64 x_3 right)==0)
 (some (.tuple ⟨[.int .i64 0,.int .i64 3]⟩,w2))
 (gInt .i64 (Addr.add ⟨b,0,none⟩ 3) w2 fun x_4=>bnd (C Ae4 [.int .i64 atv,.int .i64 n,.int .i64 x_4] w2) fun r_4 w3=>aBool r_4 fun x_5=>bnd (cond (!x_5) (some (true,w3)) (gInt .i64 (Addr.add ⟨b,0,none⟩ 0) w3 fun x_6=>some (decide (x_6<0),w3))) fun c w4=>bnd (cond c (some (true,w4)) (gInt .i64 (Addr.add ⟨b,0,none⟩ 0) w4 fun x_7=>aSome r fun p_1=>gSl (Addr.add p_1 1) w4 fun _ xn _=>some (decide (x_7≥((xn:Nat):Int)),w4))) fun c_1 w5=>cond c_1
 (some (.tuple ⟨[.int .i64 0,.int .i64 1]⟩,w5))
 (gInt .i64 (Addr.add ⟨b,0,none⟩ 2) w5 fun x_9=>aSome r fun p_2=>gSl (Addr.add p_2 2) w5 fun x_10 xn_1 _=>gInt .i64 (Addr.add ⟨b,0,none⟩ 0) w5 fun x_11=>aSome x_10 fun p_3=>ck ((0:Int)≤x_11∧x_11<((xn_1:Nat):Int)) (gInt .i64 (Addr.add (A9 p_3) (Int.toNat x_11*1)) w5 fun x_12=>bnd (C Ae4 [.int .i64 x_9,.int .i64 atv,.int .i64 x_12] w5) fun r_5 w6=>aBool r_5 fun x_13=>bnd (cond (!x_13) (some (true,w6)) (gInt .i64 (Addr.add ⟨b,0,none⟩ 2) w6 fun x_14=>aSome r fun p_4=>gSl (Addr.add p_4 2) w6 fun x_15 xn_2 _=>gInt .i64 (Addr.add ⟨b,0,none⟩ 0) w6 fun x_16=>aSome x_15 fun p_5=>ck ((0:Int)≤x_16∧x_16<((xn_2:Nat):Int)) (gInt .i64 (Addr.add (A9 p_5) (Int.toNat x_16*1)) w6 fun x_17=>bnd (C Ae4 [.int .i64 (IntKind.wrap .i64 (x_14+atv)),.int .i64 n,.int .i64 x_17] w6) fun r_6 w7=>aBool r_6 fun x_18=>some (!x_18,w7)))) fun c_2 w8=>cond c_2
 (some (.tuple ⟨[.int .i64 0,.int .i64 1]⟩,w8))
 (aSome r fun p_6=>gSl (Addr.add p_6 1) w8 fun x_19 xn_3 _=>gInt .i64 (Addr.add ⟨b,0,none⟩ 0) w8 fun x_20=>aSome x_19 fun p_7=>ck ((0:Int)≤x_20∧x_20<((xn_3:Nat):Int)) (gInt .i64 (Addr.add (A9 p_7) (Int.toNat x_20*1)) w8 fun x_21=>gInt .i64 (Addr.add ⟨b,0,none⟩ 2) w8 fun x_22=>some (.tuple ⟨[.int .i64 (IntKind.wrap .i64 ((IntKind.wrap .i64 (x_21+x_22))+atv)),.int .i64 0]⟩,w8)))))))):=by kernel_rfl
def Bw1:Cuts:={ globs:=0,loops:=[],regs:=[],plans:=[] }
def Ds8:List Item:=A4 Tryz.f202
theorem E40 (C:A1) (R:A2) (m:Option Addr) (atv:Int) (b:Option Addr) (bn bc:Nat) (h:H) :
 A5 PR Bw1 C R Bd1 Tryz.f202 100000 true Ds8 [(0,.pointer m),(1,.int .i64 atv),(2,.slice b bn bc)] h =
 bnd (C Bd6 [.pointer m,.int .i64 atv,.int .i64 ((bn:Nat):Int)] h) fun r w=>aBool r fun x=>cond (!x)
 (some (.int .i64 1,w))
 (aSome m fun p=>gSl (Addr.add p 0) w fun x_1 xn xc=>ckB (fitsOpen x_1 A3 w) (ck ((0:Int)≤atv∧atv≤((xn:Nat):Int)) (gCells b (min bn (xn-(Int.toNat atv))*1) w fun cs=>pCells (H4 x_1 (decide (Int.toNat atv<xc)) ((Int.toNat atv)*1)) cs w fun w1=>some (.int .i64 0,w1)))):=by kernel_rfl
def Bs7:Cuts:={ globs:=0,loops:=[],regs:=[],plans:=[] }
def Dm3:List Item:=A4 Tryz.f206
theorem E06 (C:A1) (R:A2) (q:Option Addr) (s:Int) (h:H) :
 A5 PR Bs7 C R Ag4 Tryz.f206 100000 true Dm3 [(0,.pointer q),(1,.int .i64 s)] h =
 bnd (cond (decide (s≥0)) (aSome q fun p=>gSl (Addr.add p 0) h fun _ xn _=>some (decide (s<((xn:Nat):Int)),h)) (some (false,h))) fun c w=>some (.bool c,w):=by kernel_rfl
def Bq1:Cuts:={ globs:=0,loops:=[],regs:=[],plans:=[(1,⟨[0,1,2,3,4,5,6,7,8,9,10,11,12,13,14,15,16,17,18,19,20,21,22,23,24,25,26,27,28],[0,1,3,7,7,23,55,119,247,511,1023,2047,4095,8191,16383,32767,4095,131071,262143,4095,528383,1576959,3674111,4095,16257023,33034239,67108863,134217727,268435455],[],[]⟩)] }
def Di8:List Item:=A4 Tryz.f208
theorem Ey4 (C:A1) (R:A2) (k:Option Addr) (env:Int) (n:Int) (h:H) :
 A5 PR Bq1 C R Aq5 Tryz.f208 100000 true Di8 [(0,.pointer k),(1,.int .i64 env),(2,.int .i64 n)] h =
 bnd (cond (decide (n<0)) (some (true,h)) (aSome k fun p=>gSl (Addr.add p 6) h fun _ xn _=>some (decide (n≥((xn:Nat):Int)),h))) fun c w=>bnd (cond c (some (true,w)) (aSome k fun p_1=>gSl (Addr.add p_1 1) w fun x_1 xn_1 _=>aSome x_1 fun p_2=>ck ((0:Int)≤n∧n<((xn_1:Nat):Int)) (gSl (Addr.add (A9 p_2) (Int.toNat n*1)) w fun x_2 xn_2 xc_2=>aSome k fun p_3=>gSl (Addr.add p_3 0) w fun x_3 xn_3 _=>aSome x_3 fun p_4=>ck ((0:Int)≤env∧env<((xn_3:Nat):Int)) (gInt .i64 (Addr.add (A9 p_4) (Int.toNat env*1)) w fun x_4=>bnd (C L9 [.slice x_2 xn_2 xc_2,.int .i64 x_4] w) fun r w1=>aBool r fun x_5=>some (!x_5,w1))))) fun c_1 w2=>cond c_1
 (some (.tuple ⟨[.pointer none,.int .i64 8]⟩,w2))
 (aSome k fun p_5=>gSl (Addr.add p_5 6) w2 fun x_6 xn_4 _=>aSome x_6 fun p_6=>ck ((0:Int)≤n∧n<((xn_4:Nat):Int)) (gPtr (Addr.add (A9 p_6) (Int.toNat n*1)) w2 fun x_7=>some (.tuple ⟨[.pointer x_7,.int .i64 0]⟩,w2))):=by kernel_rfl
def Q9:Cuts:={ globs:=0,loops:=[(18,[0,1,2])],regs:=[(10,[0,1,2]),(11,[0,1,2]),(14,[0,1,2]),(17,[])],plans:=[(11,⟨[0,1,2,3,4,5,6,7,8,9,10,11,12,13,14,15,16],[0,1,3,7,15,31,31,95,223,479,1023,31,2079,6175,14367,32767,65535],[],[]⟩),(18,⟨[0,1,2,3,4,5,6,7,8,9,10,11,12,13,14,15,16,17,18,19,20],[0,1,3,7,15,31,0,127,255,511,511,1535,3583,7679,16383,511,33279,98815,229887,524287,1048575],[],[]⟩)] }
def Y0:List Item:=A4 Tryz.f209
def Am2:List Item:=stk [0,1,0,1,0,1,0,1,0,1,0,0,1,2,0,1] Y0
def An0:List Item:=stk [0,1,0,1,0,1,0,1,0,1,0,1,0,0] Y0
def Ao4:List Item:=stk [0,1,0,1,0,1,0,1,0,1,0,1,0,1,0,0] Y0
def An3:List Item:=stk [0,1,0,1,0,1,0,1,0,1,0,1,0,1,0,0,1,2,0,1,0] Y0
def Ac9:List Item:=stk [0,1,0,1,0,1,0,1,0,1,0,1,0,1,0,1,0,4,5] Y0
theorem Eu2 (C:A1) (R:A2) (s:Option Addr) (who:Int) (now:Int) (h:H) :
 A5 PR Q9 C R B6 Tryz.f209 100000 true Y0 [(0,.pointer s),(1,.int .i64 who),(2,.int .i64 now)] h =
 aSome s fun p=>gInt .i64 (Addr.add p 7) h fun x=>bnd (cond (decide (who<0)) (some (true,h)) (some (decide (who>99),h))) fun c w=>cond c
 (some (.tuple ⟨[.int .i64 0,.bool false]⟩,w))
 (aSome s fun p_1=>pV (Addr.add p_1 7) (.int .i64 (mm2 true now x)) w fun w1=>aSome s fun p_2=>gBool (Addr.add p_2 1) w1 fun x_1=>bnd (cond x_1 (aSome s fun p_3=>gInt .i64 (Addr.add p_3 2) w1 fun x_2=>some (x_2==who,w1)) (some (false,w1))) fun c_1 w2=>cond c_1
 (aSome s fun p_4=>gInt .i64 (Addr.add p_4 3) w2 fun x_3=>some (.tuple ⟨[.int .i64 x_3,.bool true]⟩,w2))
 (aSome s fun p_5=>gSl (Addr.add p_5 5) w2 fun x_4 xn xc=>bnd (C L9 [.slice x_4 xn xc,.int .i64 who] w2) fun r w3=>aBool r fun x_5=>cond (!x_5)
 (aSome s fun p_6=>gSl (Addr.add p_6 5) w3 fun _ xn_1 _=>cond (((xn_1:Nat):Int)==0)
 (aSome s fun p_7=>pV (Addr.add p_7 6) (.int .i64 (mm2 true now x)) w3 fun w4=>R B6 Am2 [(0,.pointer s),(1,.int .i64 who),(2,.int .i64 (mm2 true now x))] w4)
 (R B6 Am2 [(0,.pointer s),(1,.int .i64 who),(2,.int .i64 (mm2 true now x))] w3))
 (R B6 An0 [(0,.pointer s),(1,.int .i64 who),(2,.int .i64 (mm2 true now x))] w3))):=by kernel_rfl
theorem D86 (C:A1) (R:A2) (s:Option Addr) (who:Int) (now:Int) (h:H) :
 A5 PR Q9 C R B6 Tryz.f209 100000 true Am2 [(0,.pointer s),(1,.int .i64 who),(2,.int .i64 now)] h =
 aSome s fun p=>gSl (Addr.add p 5) h fun x xn xc=>nw (.cells B2 false [.int .i64 who]) h fun b w=>gCells (some ⟨b,0,none⟩) (1*1) w fun cs=>ckB (fitsOpen x B2 w) (apd B2 1 x xn xc 1 cs w fun a an ac w1=>aSome s fun p_1=>pV (Addr.add p_1 5) (.slice a an ac) w1 fun w2=>R B6 An0 [(0,.pointer s),(1,.int .i64 who),(2,.int .i64 now)] w2):=by kernel_rfl
theorem D89 (C:A1) (R:A2) (s:Option Addr) (who:Int) (now:Int) (h:H) :
 A5 PR Q9 C R B6 Tryz.f209 100000 true An0 [(0,.pointer s),(1,.int .i64 who),(2,.int .i64 now)] h =
 aSome s fun p=>gBool (Addr.add p 1) h fun x=>bnd (cond x (aSome s fun p_1=>gInt .i64 (Addr.add p_1 4) h fun x_1=>aSome s fun p_2=>gInt .i64 (Addr.add p_2 0) h fun x_2=>some (decide ((IntKind.wrap .i64 (now-x_1))≥x_2),h)) (some (false,h))) fun c w=>cond c
 (aSome s fun p_3=>pV (Addr.add p_3 1) (.bool false) w fun w1=>aSome s fun p_4=>pV (Addr.add p_4 6) (.int .i64 now) w1 fun w2=>R B6 Ao4 [(0,.pointer s),(1,.int .i64 who),(2,.int .i64 now)] w2)
 (R B6 Ao4 [(0,.pointer s),(1,.int .i64 who),(2,.int .i64 now)] w):=by kernel_rfl
theorem D58 (C:A1) (R:A2) (s:Option Addr) (who:Int) (now:Int) (h:H) :
 A5 PR Q9 C R B6 Tryz.f209 100000 true Ao4 [(0,.pointer s),(1,.int .i64 who),(2,.int .i64 now)] h =
 aSome s fun p=>gBool (Addr.add p 1) h fun x=>cond x
 (aSome s fun p_1=>gSl (Addr.add p_1 5) h fun x_1 xn _=>aSome x_1 fun p_2=>ck ((0:Int)≤0∧0<((xn:Nat):Int)) (gInt .i64 (Addr.add (A9 p_2) (Int.toNat 0*1)) h fun x_2=>cond (x_2==who)
 (aSome s fun p_3=>pV (Addr.add p_3 6) (.int .i64 now) h fun w=>R B6 An3 [] w)
 (R B6 An3 [] h)))
 (R B6 Ac9 [(0,.pointer s),(1,.int .i64 who),(2,.int .i64 now)] h):=by kernel_rfl
theorem D76 (C:A1) (R:A2)  (h:H) :
 A5 PR Q9 C R B6 Tryz.f209 100000 true An3 [] h =
 some (.tuple ⟨[.int .i64 0,.bool false]⟩,h):=by kernel_rfl
theorem Bu9 (C:A1) (R:A2) (s:Option Addr) (who:Int) (now:Int) (h:H) :
 A5 PR Q9 C R B6 Tryz.f209 100000 true Ac9 [(0,.pointer s),(1,.int .i64 who),(2,.int .i64 now)] h =
 aSome s fun p=>gSl (Addr.add p 5) h fun x xn _=>aSome x fun p_1=>ck ((0:Int)≤0∧0<((xn:Nat):Int)) (gInt .i64 (Addr.add (A9 p_1) (Int.toNat 0*1)) h fun x_1=>bnd (cond (x_1 != who) (aSome s fun p_2=>gInt .i64 (Addr.add p_2 6) h fun x_2=>aSome s fun p_3=>gInt .i64 (Addr.add p_3 0) h fun x_3=>some (decide ((IntKind.wrap .i64 (now-x_2))≥x_3),h)) (some (false,h))) fun c w=>cond c
 (aSome s fun p_4=>gSl (Addr.add p_4 5) w fun x_4 xn_1 xc_1=>ckB (fitsOpen x_4 B2 w) (ck ((0:Int)≤1∧1≤((xn_1:Nat):Int)) (aSome s fun p_5=>pV (Addr.add p_5 5) (.slice (H4 x_4 (decide (Int.toNat 1<xc_1)) ((Int.toNat 1)*1)) (xn_1-(Int.toNat 1)) (xc_1-(Int.toNat 1))) w fun w1=>aSome s fun p_6=>pV (Addr.add p_6 6) (.int .i64 now) w1 fun w2=>R B6 Ac9 [(0,.pointer s),(1,.int .i64 who),(2,.int .i64 now)] w2)))
 (aSome s fun p_7=>gSl (Addr.add p_7 5) w fun x_5 xn_2 _=>aSome x_5 fun p_8=>ck ((0:Int)≤0∧0<((xn_2:Nat):Int)) (gInt .i64 (Addr.add (A9 p_8) (Int.toNat 0*1)) w fun x_6=>cond (x_6 != who)
 (some (.tuple ⟨[.int .i64 0,.bool false]⟩,w))
 (aSome s fun p_9=>gSl (Addr.add p_9 5) w fun x_7 xn_3 xc_3=>ckB (fitsOpen x_7 B2 w) (ck ((0:Int)≤1∧1≤((xn_3:Nat):Int)) (aSome s fun p_10=>pV (Addr.add p_10 5) (.slice (H4 x_7 (decide (Int.toNat 1<xc_3)) ((Int.toNat 1)*1)) (xn_3-(Int.toNat 1)) (xc_3-(Int.toNat 1))) w fun w3=>aSome s fun p_11=>pV (Addr.add p_11 6) (.int .i64 now) w3 fun w4=>aSome s fun p_12=>gInt .i64 (Addr.add p_12 8) w4 fun x_8=>aSome s fun p_13=>pV (Addr.add p_13 8) (.int .i64 (IntKind.wrap .i64 (x_8+1))) w4 fun w5=>aSome s fun p_14=>gInt .i64 (Addr.add p_14 8) w5 fun x_9=>aSome s fun p_15=>pV (Addr.add p_15 1) (.bool true) w5 fun w6=>aSome s fun p_16=>pV (Addr.add p_16 2) (.int .i64 who) w6 fun w7=>aSome s fun p_17=>pV (Addr.add p_17 3) (.int .i64 x_9) w7 fun w8=>aSome s fun p_18=>pV (Addr.add p_18 4) (.int .i64 now) w8 fun w9=>aSome s fun p_19=>gInt .i64 (Addr.add p_19 3) w9 fun x_10=>some (.tuple ⟨[.int .i64 x_10,.bool true]⟩,w9))))))):=by kernel_rfl
def A60:Cuts:={ globs:=0,loops:=[],regs:=[],plans:=[] }
def Bz7:List Item:=A4 Tryz.f211
theorem D41 (C:A1) (R:A2) (size:Int) (put:Value) (get:Value) (h:H) :
 A5 PR A60 C R An5 Tryz.f211 100000 true Bz7 [(0,.int .i64 size),(1,put),(2,get)] h =
 one put (one get (nw (.cells Bo5 false [.int .i64 (mm2 false (mm2 true size 0) 64),put,get]) h fun b w=>some (.pointer (some ⟨b,0,none⟩),w))):=by kernel_rfl
def A98:Cuts:={ globs:=0,loops:=[(4,[1,2,22,23,24]),(9,[1,2,43,44,45]),(14,[1,58,59])],regs:=[],plans:=[] }
def Bm6:List Item:=A4 Tryz.f212
def B50:List Item:=stk [0,1,0,1,0,0,1,4,5] Bm6
def B48:List Item:=stk [0,1,0,1,0,1,0,0,1,4,5] Bm6
def B46:List Item:=stk [0,1,0,1,0,1,0,1,0,0,1,4,5] Bm6
theorem G61 (C:A1) (R:A2) (p:List Value) (b:Option Addr) (bn bc:Nat) (h:H) :
 A5 PR A98 C R N4 Tryz.f212 100000 true Bm6 [(0,.agg ⟨p⟩),(1,.slice b bn bc)] h =
 nw (.cells B9 false p) h fun b_1 w=>gAgg ⟨b_1,0,none⟩ 16 w fun x=>bnd (C Dg5 [.agg ⟨x⟩] w) fun r w1=>aBool r fun x_1=>cond (!x_1)
 (some (.bool false,w1))
 (gInt .i64 (Addr.add ⟨b_1,0,none⟩ 0) w1 fun x_2=>gInt .i64 (Addr.add ⟨b_1,0,none⟩ 1) w1 fun x_3=>gInt .i64 (Addr.add ⟨b_1,0,none⟩ 2) w1 fun x_4=>gInt .i64 (Addr.add ⟨b_1,0,none⟩ 3) w1 fun x_5=>nw (.cells B2 false [.int .i64 x_2,.int .i64 x_3,.int .i64 x_4,.int .i64 x_5]) w1 fun b_2 w2=>R N4 B50 [(1,.slice b bn bc),(2,.pointer (some ⟨b_1,0,none⟩)),(22,.slice (some ⟨b_2,0,none⟩) 4 4),(23,.int .i64 4),(24,.int .i64 0)] w2):=by kernel_rfl
theorem A24 (C:A1) (R:A2) (b:Option Addr) (bn bc:Nat) (p:Addr) (x22:Option Addr) (x22n x22c:Nat) (x23:Int) (x24:Int) (h:H) :
 A5 PR A98 C R N4 Tryz.f212 100000 true B50 [(1,.slice b bn bc),(2,.pointer (some p)),(22,.slice x22 x22n x22c),(23,.int .i64 x23),(24,.int .i64 x24)] h =
 cond (decide (x24<x23))
 (aSome x22 fun p_1=>ck ((0:Int)≤x24∧x24<((x22n:Nat):Int)) (gInt .i64 (Addr.add (A9 p_1) (Int.toNat x24*1)) h fun x=>aSome b fun p_2=>ck ((0:Int)≤x24∧x24<((bn:Nat):Int)) (pV (Addr.add (A9 p_2) (Int.toNat x24*1)) (.int .u8 (IntKind.wrap .u8 (x))) h fun w=>R N4 B50 [(1,.slice b bn bc),(2,.pointer (some p)),(22,.slice x22 x22n x22c),(23,.int .i64 x23),(24,.int .i64 (IntKind.wrap .i64 (x24+1)))] w)))
 (gInt .i64 (Addr.add p 4) h fun x_1=>gInt .i64 (Addr.add p 5) h fun x_2=>gInt .i64 (Addr.add p 6) h fun x_3=>gInt .i64 (Addr.add p 7) h fun x_4=>nw (.cells B2 false [.int .i64 x_1,.int .i64 x_2,.int .i64 x_3,.int .i64 x_4]) h fun b_1 w1=>R N4 B48 [(1,.slice b bn bc),(2,.pointer (some p)),(43,.slice (some ⟨b_1,0,none⟩) 4 4),(44,.int .i64 4),(45,.int .i64 0)] w1):=by kernel_rfl
theorem A22 (C:A1) (R:A2) (b:Option Addr) (bn bc:Nat) (p:Addr) (x43:Option Addr) (x43n x43c:Nat) (x44:Int) (x45:Int) (h:H) :
 A5 PR A98 C R N4 Tryz.f212 100000 true B48 [(1,.slice b bn bc),(2,.pointer (some p)),(43,.slice x43 x43n x43c),(44,.int .i64 x44),(45,.int .i64 x45)] h =
 cond (decide (x45<x44))
 (aSome x43 fun p_1=>ck ((0:Int)≤x45∧x45<((x43n:Nat):Int)) (gInt .i64 (Addr.add (A9 p_1) (Int.toNat x45*1)) h fun x=>bnd (C Be0 [.slice b bn bc,.int .i64 (IntKind.wrap .i64 (4+(IntKind.wrap .i64 (2*x45)))),.int .i64 x] h) fun r w=>aBool r fun _=>R N4 B48 [(1,.slice b bn bc),(2,.pointer (some p)),(43,.slice x43 x43n x43c),(44,.int .i64 x44),(45,.int .i64 (IntKind.wrap .i64 (x45+1)))] w))
 (gAgg (Addr.add p 8) 8 h fun x_2=>R N4 B46 [(1,.slice b bn bc),(58,.agg ⟨x_2⟩),(59,.int .i64 0)] h):=by kernel_rfl
theorem W4 (C:A1) (R:A2) (b:Option Addr) (bn bc:Nat) (x58:List Value) (x59:Int) (h:H) :
 A5 PR A98 C R N4 Tryz.f212 100000 true B46 [(1,.slice b bn bc),(58,.agg ⟨x58⟩),(59,.int .i64 x59)] h =
 cond (decide (x59<8))
 (ck ((0:Int)≤x59∧x59<((8:Nat):Int)) (nth x58 (Int.toNat x59*1) fun x=>aInt .i64 x fun x_1=>aSome b fun p=>ck ((0:Int)≤IntKind.wrap .i64 (12+x59)∧IntKind.wrap .i64 (12+x59)<((bn:Nat):Int)) (pV (Addr.add (A9 p) (Int.toNat (IntKind.wrap .i64 (12+x59))*1)) (.int .u8 (IntKind.wrap .u8 (x_1))) h fun w=>R N4 B46 [(1,.slice b bn bc),(58,.agg ⟨x58⟩),(59,.int .i64 (IntKind.wrap .i64 (x59+1)))] w)))
 (aSome b fun p_1=>ck ((0:Int)≤20∧20<((bn:Nat):Int)) (pV (Addr.add (A9 p_1) (Int.toNat 20*1)) (.int .u8 167) h fun w1=>ckB (fitsOpen b A3 w1) (ck ((0:Int)≤21∧21≤((bc:Nat):Int)) (bnd (C Z6 [.slice (H4 b (decide (0<bc)) (0*1)) ((Int.toNat 21)-0) (bc-0)] w1) fun r w2=>aInt .u8 r fun x_2=>aSome b fun p_2=>ck ((0:Int)≤21∧21<((bn:Nat):Int)) (pV (Addr.add (A9 p_2) (Int.toNat 21*1)) (.int .u8 x_2) w2 fun w3=>some (.bool true,w3)))))):=by kernel_rfl
def En5:Cuts:={ globs:=0,loops:=[],regs:=[],plans:=[] }
def Gh7:List Item:=A4 Tryz.f223
theorem Ht9 (C:A1) (R:A2) (p:List Value) (h:H) :
 A5 PR En5 C R Dr5 Tryz.f223 100000 true Gh7 [(0,.agg ⟨p⟩)] h =
 nw (.cells G8 false p) h fun b w=>gInt .i64 (Addr.add ⟨b,0,none⟩ 0) w fun x=>bnd (C Ap5 [.int .i64 x,.int .i64 31] w) fun r w1=>aBool r fun x_1=>bnd (cond x_1 (gInt .i64 (Addr.add ⟨b,0,none⟩ 1) w1 fun x_2=>bnd (C Ap5 [.int .i64 x_2,.int .i64 32] w1) fun r_1 w2=>aBool r_1 fun x_3=>some (x_3,w2)) (some (false,w1))) fun c w3=>bnd (cond c (gInt .i64 (Addr.add ⟨b,0,none⟩ 2) w3 fun x_4=>bnd (C Ap5 [.int .i64 x_4,.int .i64 8] w3) fun r_2 w4=>aBool r_2 fun x_5=>some (x_5,w4)) (some (false,w3))) fun c_1 w5=>bnd (cond c_1 (gInt .i64 (Addr.add ⟨b,0,none⟩ 3) w5 fun x_6=>bnd (C Ap5 [.int .i64 x_6,.int .i64 8] w5) fun r_3 w6=>aBool r_3 fun x_7=>some (x_7,w6)) (some (false,w5))) fun c_2 w7=>some (.bool c_2,w7):=by kernel_rfl
def Aa6:Cuts:={ globs:=0,loops:=[(4,[0,1,12,13])],regs:=[],plans:=[(6,⟨[0,1,2,3,4,5,6,7,8],[0,0,3,7,0,0,48,112,255],[],[]⟩)] }
def Ak3:List Item:=A4 Tryz.f224
def U7:List Item:=stk [0,1,0,1,0,0,1,4,5] Ak3
theorem Db1 (C:A1) (R:A2) (s1:Option Addr) (s1n s1c:Nat) (s2:Option Addr) (s2n s2c:Nat) (h:H) :
 A5 PR Aa6 C R B8 Tryz.f224 100000 true Ak3 [(0,.slice s1 s1n s1c),(1,.slice s2 s2n s2c)] h =
 cond (((s1n:Nat):Int) != ((s2n:Nat):Int))
 (some (.bool false,h))
 (R B8 U7 [(0,.slice s1 s1n s1c),(1,.slice s2 s2n s2c),(12,.int .i64 ((s1n:Nat):Int)),(13,.int .i64 0)] h):=by kernel_rfl
theorem Ay9 (C:A1) (R:A2) (s1:Option Addr) (s1n s1c:Nat) (s2:Option Addr) (s2n s2c:Nat) (x12:Int) (x13:Int) (h:H) :
 A5 PR Aa6 C R B8 Tryz.f224 100000 true U7 [(0,.slice s1 s1n s1c),(1,.slice s2 s2n s2c),(12,.int .i64 x12),(13,.int .i64 x13)] h =
 cond (decide (x13<x12))
 (aSome s1 fun p=>ck ((0:Int)≤x13∧x13<((s1n:Nat):Int)) (gInt .u8 (Addr.add (A9 p) (Int.toNat x13*1)) h fun x=>aSome s2 fun p_1=>ck ((0:Int)≤x13∧x13<((s2n:Nat):Int)) (gInt .u8 (Addr.add (A9 p_1) (Int.toNat x13*1)) h fun x_1=>cond (x != x_1)
 (some (.bool false,h))
 (R B8 U7 [(0,.slice s1 s1n s1c),(1,.slice s2 s2n s2c),(12,.int .i64 x12),(13,.int .i64 (IntKind.wrap .i64 (x13+1)))] h))))
 (some (.bool true,h)):=by kernel_rfl
def S9:Cuts:={ globs:=0,loops:=[(2,[0,1,7,8])],regs:=[],plans:=[] }
def Ae1:List Item:=A4 Tryz.f225
def P4:List Item:=stk [0,1,0,0,1,4,5] Ae1
theorem B04 (C:A1) (R:A2) (s:Option Addr) (sn sc:Nat) (f:Value) (h:H) :
 A5 PR S9 C R E4 Tryz.f225 100000 true Ae1 [(0,.slice s sn sc),(1,f)] h =
 R E4 P4 [(0,.slice s sn sc),(1,f),(7,.int .i64 ((sn:Nat):Int)),(8,.int .i64 0)] h:=by kernel_rfl
theorem Ap2 (C:A1) (R:A2) (s:Option Addr) (sn sc:Nat) (f:Value) (x7:Int) (x8:Int) (h:H) :
 A5 PR S9 C R E4 Tryz.f225 100000 true P4 [(0,.slice s sn sc),(1,f),(7,.int .i64 x7),(8,.int .i64 x8)] h =
 cond (decide (x8<x7))
 (aSome s fun p=>ck ((0:Int)≤x8∧x8<((sn:Nat):Int)) (gInt .u8 (Addr.add (A9 p) (Int.toNat x8*1)) h fun x=>aFn f fun g fi cp=>bnd (C g (fi++([.int .u8 x]++cp)) h) fun r w=>aBool r fun x_1=>cond x_1
 (some (.int .i64 x8,w))
 (R E4 P4 [(0,.slice s sn sc),(1,f),(7,.int .i64 x7),(8,.int .i64 (IntKind.wrap .i64 (x8+1)))] w)))
 (some (.int .i64 (-1),h)):=by kernel_rfl
def D47:Cuts:={ globs:=0,loops:=[],regs:=[],plans:=[] }
def E95:List Item:=A4 Tryz.f231
theorem Hj7 (C:A1) (R:A2) (p:List Value) (h:H) :
 A5 PR D47 C R Dg5 Tryz.f231 100000 true E95 [(0,.agg ⟨p⟩)] h =
 nw (.cells B9 false p) h fun b w=>gInt .i64 (Addr.add ⟨b,0,none⟩ 0) w fun x=>bnd (cond (decide (x<1)) (some (true,w)) (gInt .i64 (Addr.add ⟨b,0,none⟩ 0) w fun x_1=>some (decide (x_1>3),w))) fun c w1=>bnd (cond c (some (true,w1)) (gInt .i64 (Addr.add ⟨b,0,none⟩ 1) w1 fun x_2=>some (decide (x_2<0),w1))) fun c_1 w2=>bnd (cond c_1 (some (true,w2)) (gInt .i64 (Addr.add ⟨b,0,none⟩ 1) w2 fun x_3=>some (decide (x_3>8),w2))) fun c_2 w3=>bnd (cond c_2 (some (true,w3)) (gInt .i64 (Addr.add ⟨b,0,none⟩ 2) w3 fun x_4=>some (decide (x_4<0),w3))) fun c_3 w4=>bnd (cond c_3 (some (true,w4)) (gInt .i64 (Addr.add ⟨b,0,none⟩ 2) w4 fun x_5=>some (decide (x_5≥8),w4))) fun c_4 w5=>bnd (cond c_4 (some (true,w5)) (gInt .i64 (Addr.add ⟨b,0,none⟩ 3) w5 fun x_6=>some (decide (x_6<0),w5))) fun c_5 w6=>bnd (cond c_5 (some (true,w6)) (gInt .i64 (Addr.add ⟨b,0,none⟩ 3) w6 fun x_7=>some (decide (x_7>255),w6))) fun c_6 w7=>cond c_6
 (some (.bool false,w7))
 (gInt .i64 (Addr.add ⟨b,0,none⟩ 4) w7 fun x_8=>bnd (C Ai7 [.int .i64 x_8,.int .i64 0] w7) fun r w8=>aBool r fun x_9=>bnd (cond (!x_9) (some (true,w8)) (gInt .i64 (Addr.add ⟨b,0,none⟩ 5) w8 fun x_10=>bnd (C Ai7 [.int .i64 x_10,.int .i64 16896] w8) fun r_1 w9=>aBool r_1 fun x_11=>some (!x_11,w9))) fun c_7 w10=>bnd (cond c_7 (some (true,w10)) (gInt .i64 (Addr.add ⟨b,0,none⟩ 6) w10 fun x_12=>bnd (C Ai7 [.int .i64 x_12,.int .i64 16896] w10) fun r_2 w11=>aBool r_2 fun x_13=>some (!x_13,w11))) fun c_8 w12=>bnd (cond c_8 (some (true,w12)) (gInt .i64 (Addr.add ⟨b,0,none⟩ 7) w12 fun x_14=>bnd (C Ai7 [.int .i64 x_14,.int .i64 16896] w12) fun r_3 w13=>aBool r_3 fun x_15=>some (!x_15,w13))) fun c_9 w14=>bnd (cond c_9 (some (true,w14)) (gInt .i64 (Addr.add ⟨b,0,none⟩ 6) w14 fun x_16=>gInt .i64 (Addr.add ⟨b,0,none⟩ 7) w14 fun x_17=>some ((B4 .i64 x_16 x_17) != 0,w14))) fun c_10 w15=>cond c_10
 (some (.bool false,w15))
 (ckB (liveA (Addr.add ⟨b,0,none⟩ 8) w15) (bnd (C E0 [.slice (H4 (some (Addr.add ⟨b,0,none⟩ 8)) (decide (0<8)) (0*1)) (8-0) (8-0),.func (.func Bf6) ⟨[]⟩ ⟨[]⟩] w15) fun r_4 w16=>aBool r_4 fun x_18=>cond x_18
 (some (.bool false,w16))
 (gInt .i64 (Addr.add ⟨b,0,none⟩ 0) w16 fun x_19=>cond (x_19==2)
 (gInt .i64 (Addr.add ⟨b,0,none⟩ 4) w16 fun x_20=>bnd (cond (x_20==0) (gAgg (Addr.add ⟨b,0,none⟩ 8) 8 w16 fun x_21=>Bi8 PR Aj3 x_21 [.int .i64 0,.int .i64 0,.int .i64 0,.int .i64 0,.int .i64 0,.int .i64 0,.int .i64 0,.int .i64 0] fun eq=>some (eq,w16)) (some (false,w16))) fun c_11 w17=>some (.bool c_11,w17))
 (gInt .i64 (Addr.add ⟨b,0,none⟩ 3) w16 fun x_22=>some (.bool (x_22==0),w16)))))):=by kernel_rfl
def Dw2:Cuts:={ globs:=0,loops:=[],regs:=[],plans:=[] }
def Ev1:List Item:=A4 Tryz.f235
theorem G71 (C:A1) (R:A2) (n:Int) (A8:Int) (h:H) :
 A5 PR Dw2 C R Ap5 Tryz.f235 100000 true Ev1 [(0,.int .i64 n),(1,.int .i64 A8)] h =
 bnd (cond (decide (n≥0)) (some (decide (n≤A8),h)) (some (false,h))) fun c w=>some (.bool c,w):=by kernel_rfl
end
end Go.EQ

set_option maxRecDepth 100000
namespace Go.EQ
open Go Go.NN Go.Proofs
variable (C : A1) (R : A2)
noncomputable section
def Dl2:Cuts:={ globs:=0,loops:=[],regs:=[],plans:=[] }
def Ei4:List Item:=A4 Tryz.f13
theorem Gw9 (C:A1) (R:A2) (p:List Value) (h:H) :
 A5 PR Dl2 C R Bg3 Tryz.f13 100000 true Ei4 [(0,.agg ⟨p⟩)] h =
 nw (.cells B03 false p) h fun b w=>gAgg ⟨b,0,none⟩ 3 w fun x=>bnd (C I3 [.agg ⟨x⟩] w) fun r w1=>aAgg r fun x_1=>nw (.cells D5 false [.slice none 0 0,.slice none 0 0,.slice none 0 0,.int .i64 0,.slice none 0 0]) w1 fun b_1 w2=>ck (List.length x_1=5) (pAgg ⟨b_1,0,none⟩ x_1 w2 fun w3=>gAgg ⟨b_1,0,none⟩ 5 w3 fun x_2=>bnd (C H1 [.agg ⟨x_2⟩] w3) fun r_1 w4=>as2 r_1 fun r_2 r_3=>aPtr r_2 fun x_3=>aInt .i64 r_3 fun x_4=>bnd (cond x_3.isNone (some (true,w4)) (some (x_4 != 0,w4))) fun c w5=>cond c
 (some (.tuple ⟨[.pointer none,.pointer none,.pointer none,.pointer none]⟩,w5))
 (gAgg ⟨b_1,0,none⟩ 5 w5 fun x_5=>bnd (C E5 [.agg ⟨x_5⟩] w5) fun r_4 w6=>aPtr r_4 fun x_6=>bnd (C Bp3 [.pointer x_3,.int .i64 0] w6) fun r_5 w7=>as2 r_5 fun r_6 r_7=>aPtr r_6 fun x_7=>aInt .i64 r_7 fun x_8=>bnd (cond x_7.isNone (some (true,w7)) (some (x_8 != 0,w7))) fun c_1 w8=>cond c_1
 (some (.tuple ⟨[.pointer none,.pointer none,.pointer none,.pointer none]⟩,w8))
 (bnd (C A93 [] w8) fun r_8 w9=>aStr r_8 fun x_9=>ck (ByteArray.size x_9≤A8) (nw (.cells A3 false (A0 (ByteArray.data x_9).toList)) w9 fun b_2 w10=>bnd (C Q6 [.pointer x_3,.int .i64 0,.agg ⟨[.int .i64 2,.int .i64 256,.int .i64 0,.int .i64 0,.int .i64 0,.int .i64 0,.slice (some (J6 b_2)) (ByteArray.size x_9) (ByteArray.size x_9)]⟩] w10) fun r_9 w11=>aAgg r_9 fun x_10=>nth x_10 0 fun E=>aInt .i64 E fun E_1=>cond (E_1 != 0)
 (some (.tuple ⟨[.pointer none,.pointer none,.pointer none,.pointer none]⟩,w11))
 (ck (ByteArray.size x_9≤A8) (nw (.cells A3 false (A0 (ByteArray.data x_9).toList)) w11 fun b_3 w12=>bnd (C Aq0 [.pointer x_6,.int .i64 0,.agg ⟨[.int .i64 2,.int .i64 256,.int .i64 0,.int .i64 0,.int .i64 0,.int .i64 0,.slice (some (J6 b_3)) (ByteArray.size x_9) (ByteArray.size x_9)]⟩] w12) fun r_10 w13=>as3 r_10 fun r_11 r_12 r_13=>aInt .i64 r_11 fun _=>aInt .i64 r_12 fun _=>aStr r_13 fun _=>bnd (C Av9 [.pointer x_6,.int .i64 0] w13) fun r_14 w14=>aPtr r_14 fun x_14=>some (.tuple ⟨[.pointer x_3,.pointer x_7,.pointer x_6,.pointer x_14]⟩,w14))))))):=by kernel_rfl
def Ao3:Cuts:={ globs:=0,loops:=[],regs:=[],plans:=[] }
def Bc5:List Item:=A4 Tryz.f17
theorem Df5 (C:A1) (R:A2) (c:Option Addr) (i:Int) (p:List Value) (h:H) :
 A5 PR Ao3 C R S7 Tryz.f17 100000 true Bc5 [(0,.pointer c),(1,.int .i64 i),(2,.agg ⟨p⟩)] h =
 nw (.cells G8 false p) h fun b w=>gAgg ⟨b,0,none⟩ 36 w fun x=>bnd (C A81 [.agg ⟨x⟩] w) fun r w1=>as2 r fun r_1 r_2=>aSl r_1 fun x_1 xn xc=>aBool r_2 fun x_2=>bnd (C Ap8 [.int .i64 i] w1) fun r_3 w2=>aAgg r_3 fun x_3=>bnd (C I7 [.pointer c,.agg ⟨x_3⟩,.slice x_1 xn xc,.bool x_2] w2) fun r_4 w3=>aBool r_4 fun x_4=>some (.bool x_4,w3):=by kernel_rfl
def A00:Cuts:={ globs:=0,loops:=[(4,[1,3,4])],regs:=[],plans:=[(2,⟨[0,1,2,5,6,9,10,13,14,3,4,7,8,11,12,15,16,17],[0,0,2,6,15,0,32,110,255,0,512,1774,4095,0,8192,28398,65535,131071],[(3,[6,10,14]),(7,[10,14]),(11,[14])],[]⟩)] }
def Bl1:List Item:=A4 Tryz.f20
def Am1:List Item:=stk [0,1,0,1,0,1,0,0,1,4,5] Bl1
theorem Et2 (C:A1) (R:A2) (p:List Value) (h:H) :
 A5 PR A00 C R Q8 Tryz.f20 100000 true Bl1 [(0,.agg ⟨p⟩)] h =
 nw (.cells B9 false p) h fun b w=>gInt .i64 (Addr.add ⟨b,0,none⟩ 0) w fun x=>gInt .i64 (Addr.add ⟨b,0,none⟩ 1) w fun x_1=>gInt .i64 (Addr.add ⟨b,0,none⟩ 2) w fun x_2=>gInt .i64 (Addr.add ⟨b,0,none⟩ 3) w fun x_3=>nw (.cells A3 false [.int .u8 (IntKind.wrap .u8 (x)),.int .u8 (IntKind.wrap .u8 (x_1)),.int .u8 (IntKind.wrap .u8 (x_2)),.int .u8 (IntKind.wrap .u8 (x_3))]) w fun b_1 w1=>gCells (some ⟨b_1,0,none⟩) 4 w1 fun cs=>asBytes cs fun l=>gInt .i64 (Addr.add ⟨b,0,none⟩ 4) w1 fun x_4=>gInt .i64 (Addr.add ⟨b,0,none⟩ 5) w1 fun x_5=>gInt .i64 (Addr.add ⟨b,0,none⟩ 6) w1 fun x_6=>gInt .i64 (Addr.add ⟨b,0,none⟩ 7) w1 fun x_7=>bnd (C A74 [.int .i64 x_4] w1) fun r w2=>aStr r fun x_8=>gInt .i64 (Addr.add ⟨b,0,none⟩ 5) w2 fun x_9=>same (.int .i64 x_5) (.int .i64 x_9) (gInt .i64 (Addr.add ⟨b,0,none⟩ 6) w2 fun x_10=>same (.int .i64 x_6) (.int .i64 x_10) (gInt .i64 (Addr.add ⟨b,0,none⟩ 7) w2 fun x_11=>same (.int .i64 x_7) (.int .i64 x_11) (ck (ByteArray.size (ByteArray.mk ⟨l⟩)+ByteArray.size x_8≤A8) (bnd (C A74 [.int .i64 x_5] w2) fun r_1 w3=>aStr r_1 fun x_12=>gInt .i64 (Addr.add ⟨b,0,none⟩ 6) w3 fun x_13=>same (.int .i64 x_6) (.int .i64 x_13) (gInt .i64 (Addr.add ⟨b,0,none⟩ 7) w3 fun x_14=>same (.int .i64 x_7) (.int .i64 x_14) (ck (ByteArray.size ((ByteArray.mk ⟨l⟩)++x_8)+ByteArray.size x_12≤A8) (bnd (C A74 [.int .i64 x_6] w3) fun r_2 w4=>aStr r_2 fun x_15=>gInt .i64 (Addr.add ⟨b,0,none⟩ 7) w4 fun x_16=>same (.int .i64 x_7) (.int .i64 x_16) (ck (ByteArray.size (((ByteArray.mk ⟨l⟩)++x_8)++x_12)+ByteArray.size x_15≤A8) (bnd (C A74 [.int .i64 x_7] w4) fun r_3 w5=>aStr r_3 fun x_17=>ck (ByteArray.size ((((ByteArray.mk ⟨l⟩)++x_8)++x_12)++x_15)+ByteArray.size x_17≤A8) (R Q8 Am1 [(1,.pointer (some ⟨b,0,none⟩)),(3,.string (((((ByteArray.mk ⟨l⟩)++x_8)++x_12)++x_15)++x_17)),(4,.int .i64 0)] w5)))))))))):=by kernel_rfl
theorem Bv8 (C:A1) (R:A2) (p:Addr) (s:ByteArray) (i:Int) (h:H) :
 A5 PR A00 C R Q8 Tryz.f20 100000 true Am1 [(1,.pointer (some p)),(3,.string s),(4,.int .i64 i)] h =
 cond (decide (i<8))
 (ck ((0:Int)≤i∧i<((8:Nat):Int)) (gInt .i64 (Addr.add (Addr.add p 8) (Int.toNat i*1)) h fun x=>nw (.cells A3 false [.int .u8 (IntKind.wrap .u8 (x))]) h fun b w=>gCells (some ⟨b,0,none⟩) 1 w fun cs=>asBytes cs fun l=>ck (ByteArray.size s+ByteArray.size (ByteArray.mk ⟨l⟩)≤A8) (R Q8 Am1 [(1,.pointer (some p)),(3,.string (s++(ByteArray.mk ⟨l⟩))),(4,.int .i64 (IntKind.wrap .i64 (i+1)))] w)))
 (ck (ByteArray.size s+ByteArray.size (ByteArray.mk ⟨[167]⟩)≤A8) (bnd (C Ad6 [.string (s++(ByteArray.mk ⟨[167]⟩))] h) fun r w1=>aInt .u8 r fun x_1=>nw (.cells A3 false [.int .u8 x_1,.int .u8 0,.int .u8 0]) w1 fun b_1 w2=>gCells (some ⟨b_1,0,none⟩) 3 w2 fun cs_1=>asBytes cs_1 fun l_1=>ck (ByteArray.size (s++(ByteArray.mk ⟨[167]⟩))+ByteArray.size (ByteArray.mk ⟨l_1⟩)≤A8) (some (.string ((s++(ByteArray.mk ⟨[167]⟩))++(ByteArray.mk ⟨l_1⟩)),w2)))):=by kernel_rfl
def Db5:Cuts:={ globs:=0,loops:=[],regs:=[],plans:=[(5,⟨[0,1,2,3,4],[0,1,0,4,15],[(3,[1])],[]⟩)] }
def Ec9:List Item:=A4 Tryz.f32
theorem Gm9 (C:A1) (R:A2)  (h:H) :
 A5 PR Db5 C R A77 Tryz.f32 100000 true Ec9 [] h =
 bnd (C A93 [] h) fun r w=>aStr r fun x=>ck (ByteArray.size x≤A8) (nw (.cells A3 false (A0 (ByteArray.data x).toList)) w fun b w1=>nw (.cells B9 false [.int .i64 0,.int .i64 0,.int .i64 0,.int .i64 0,.int .i64 0,.int .i64 0,.int .i64 0,.int .i64 0,.int .i64 0,.int .i64 0,.int .i64 0,.int .i64 0,.int .i64 0,.int .i64 0,.int .i64 0,.int .i64 0]) w1 fun b_1 w2=>pAgg ⟨b_1,0,none⟩ [.int .i64 1,.int .i64 0,.int .i64 0,.int .i64 0,.int .i64 0,.int .i64 0,.int .i64 0,.int .i64 0,.int .i64 0,.int .i64 0,.int .i64 0,.int .i64 0,.int .i64 0,.int .i64 0,.int .i64 0,.int .i64 0] w2 fun w3=>ck ((0:Int)≤0∧0<((8:Nat):Int)) (pV (Addr.add (Addr.add ⟨b_1,0,none⟩ 8) (Int.toNat 0*1)) (.int .i64 1) w3 fun w4=>gAgg ⟨b_1,0,none⟩ 16 w4 fun x_1=>bnd (C Q8 [.agg ⟨x_1⟩] w4) fun r_1 w5=>aStr r_1 fun x_2=>pCells (some (J6 b)) (A0 (List.take (min (ByteArray.size x_2) (ByteArray.size x)) (ByteArray.data x_2).toList)) w5 fun w6=>ckB (fitsOpen (some (J6 b)) A3 w6) (ck ((0:Int)≤192∧192≤((ByteArray.size x:Nat):Int)) (bnd (C A05 [.agg ⟨[.int .i64 3,.int .i64 0,.int .i64 1,.int .i64 0]⟩] w6) fun r_2 w7=>aStr r_2 fun x_3=>ckB (fitsOpen (some (J6 b)) A3 w7) (ck ((0:Int)≤192∧192≤((ByteArray.size x:Nat):Int)) (same (.slice (H4 (some (J6 b)) (decide (Int.toNat 192<ByteArray.size x)) ((Int.toNat 192)*1)) ((ByteArray.size x)-(Int.toNat 192)) ((ByteArray.size x)-(Int.toNat 192))) (.slice (H4 (some (J6 b)) (decide (Int.toNat 192<ByteArray.size x)) ((Int.toNat 192)*1)) ((ByteArray.size x)-(Int.toNat 192)) ((ByteArray.size x)-(Int.toNat 192))) (pCells (H4 (some (J6 b)) (decide (Int.toNat 192<ByteArray.size x)) ((Int.toNat 192)*1)) (A0 (List.take (min (ByteArray.size x_3) ((ByteArray.size x)-(Int.toNat 192))) (ByteArray.data x_3).toList)) w7 fun w8=>some (.slice (some (J6 b)) (ByteArray.size x) (ByteArray.size x),w8)))))))):=by kernel_rfl
def Du9:Cuts:={ globs:=0,loops:=[],regs:=[],plans:=[] }
def Ex6:List Item:=A4 Tryz.f46
theorem G72 (C:A1) (R:A2) (c:Option Addr) (i:Int) (fd:Int) (h:H) :
 A5 PR Du9 C R Ba4 Tryz.f46 100000 true Ex6 [(0,.pointer c),(1,.int .i64 i),(2,.int .i64 fd)] h =
 nw (.cells L8 false [.int .i64 0,.int .i64 0,.slice none 0 0,.bool false]) h fun b w=>bnd (C Ao8 [.pointer c,.int .i64 i] w) fun r w1=>as2 r fun r_1 r_2=>aAgg r_1 fun x=>aInt .i64 r_2 fun x_1=>nw (.cells B9 false [.int .i64 0,.int .i64 0,.int .i64 0,.int .i64 0,.int .i64 0,.int .i64 0,.int .i64 0,.int .i64 0,.int .i64 0,.int .i64 0,.int .i64 0,.int .i64 0,.int .i64 0,.int .i64 0,.int .i64 0,.int .i64 0]) w1 fun b_1 w2=>ck (List.length x=16) (pAgg ⟨b_1,0,none⟩ x w2 fun w3=>cond (x_1 != 0)
 (bnd (C I4 [.int .i64 x_1] w3) fun r_3 w4=>aAgg r_3 fun x_2=>ck (List.length x_2=4) (pAgg ⟨b,0,none⟩ x_2 w4 fun w5=>gAgg ⟨b,0,none⟩ 4 w5 fun x_3=>some (.agg ⟨x_3⟩,w5)))
 (gAgg ⟨b_1,0,none⟩ 16 w3 fun x_4=>bnd (C Bm4 [.agg ⟨x_4⟩,.int .i64 fd] w3) fun r_4 w6=>aBool r_4 fun x_5=>cond (!x_5)
 (bnd (C I4 [.int .i64 109] w6) fun r_5 w7=>aAgg r_5 fun x_6=>ck (List.length x_6=4) (pAgg ⟨b,0,none⟩ x_6 w7 fun w8=>gAgg ⟨b,0,none⟩ 4 w8 fun x_7=>some (.agg ⟨x_7⟩,w8)))
 (ck ((0:Int)≤fd∧fd<((8:Nat):Int)) (gInt .i64 (Addr.add (Addr.add ⟨b_1,0,none⟩ 8) (Int.toNat fd*1)) w6 fun x_8=>ck ((0:Int)≤fd∧fd<((8:Nat):Int)) (pV (Addr.add (Addr.add ⟨b_1,0,none⟩ 8) (Int.toNat fd*1)) (.int .i64 0) w6 fun w9=>gAgg ⟨b_1,0,none⟩ 16 w9 fun x_9=>bnd (C O1 [.pointer c,.int .i64 i,.agg ⟨x_9⟩] w9) fun r_6 w10=>aBool r_6 fun x_10=>cond (!x_10)
 (bnd (C I4 [.int .i64 105] w10) fun r_7 w11=>aAgg r_7 fun x_11=>ck (List.length x_11=4) (pAgg ⟨b,0,none⟩ x_11 w11 fun w12=>gAgg ⟨b,0,none⟩ 4 w12 fun x_12=>some (.agg ⟨x_12⟩,w12)))
 (bnd (C V6 [.pointer c,.int .i64 (IntKind.wrap .i64 (x_8-1))] w10) fun r_8 w13=>aInt .i64 r_8 fun x_13=>bnd (C I4 [.int .i64 x_13] w13) fun r_9 w14=>aAgg r_9 fun x_14=>ck (List.length x_14=4) (pAgg ⟨b,0,none⟩ x_14 w14 fun w15=>gAgg ⟨b,0,none⟩ 4 w15 fun x_15=>some (.agg ⟨x_15⟩,w15)))))))):=by kernel_rfl
def Dd0:Cuts:={ globs:=0,loops:=[],regs:=[],plans:=[] }
def Eb9:List Item:=A4 Tryz.f47
theorem Gn7 (C:A1) (R:A2)  (h:H) :
 A5 PR Dd0 C R A84 Tryz.f47 100000 true Eb9 [] h =
 bnd (C A77 [] h) fun r w=>aSl r fun x xn xc=>bnd (C Ad9 [.slice x xn xc] w) fun r_1 w1=>as4 r_1 fun r_2 r_3 r_4 r_5=>aPtr r_2 fun _=>aPtr r_3 fun x_2=>aPtr r_4 fun _=>aPtr r_5 fun _=>cond x_2.isNone
 (some (.bool false,w1))
 (bnd (C Bz2 [.pointer x_2,.int .i64 0] w1) fun r_6 w2=>aAgg r_6 fun x_5=>nw (.cells L8 false [.int .i64 0,.int .i64 0,.slice none 0 0,.bool false]) w2 fun b w3=>ck (List.length x_5=4) (pAgg ⟨b,0,none⟩ x_5 w3 fun w4=>bnd (C Ba4 [.pointer x_2,.int .i64 0,.int .i64 5] w4) fun r_7 w5=>aAgg r_7 fun x_6=>nw (.cells L8 false [.int .i64 0,.int .i64 0,.slice none 0 0,.bool false]) w5 fun b_1 w6=>ck (List.length x_6=4) (pAgg ⟨b_1,0,none⟩ x_6 w6 fun w7=>bnd (C B41 [.pointer x_2,.int .i64 0,.int .i64 1] w7) fun r_8 w8=>as3 r_8 fun r_9 r_10 r_11=>aInt .i64 r_9 fun x_7=>aAgg r_10 fun x_8=>aInt .i64 r_11 fun x_9=>nw (.cells D4 false [.int .i64 0,.int .i64 0,.int .i64 0,.int .i64 0]) w8 fun b_2 w9=>ck (List.length x_8=4) (pAgg ⟨b_2,0,none⟩ x_8 w9 fun w10=>gInt .i64 (Addr.add ⟨b,0,none⟩ 1) w10 fun x_10=>bnd (cond (x_10==0) (gInt .i64 (Addr.add ⟨b,0,none⟩ 0) w10 fun x_11=>some (x_11==33,w10)) (some (false,w10))) fun c w11=>bnd (cond c (gInt .i64 (Addr.add ⟨b_1,0,none⟩ 1) w11 fun x_12=>some (x_12==109,w11)) (some (false,w11))) fun c_1 w12=>bnd (cond c_1 (some (x_7==1,w12)) (some (false,w12))) fun c_2 w13=>bnd (cond c_2 (gAgg ⟨b_2,0,none⟩ 4 w13 fun x_13=>Bi8 PR D4 x_13 [.int .i64 1,.int .i64 0,.int .i64 1,.int .i64 0] fun eq=>some (eq,w13)) (some (false,w13))) fun c_3 w14=>bnd (cond c_3 (some (x_9==0,w14)) (some (false,w14))) fun c_4 w15=>some (.bool c_4,w15))))):=by kernel_rfl
def B38:Cuts:={ globs:=0,loops:=[],regs:=[],plans:=[(7,⟨[0,1,2,3,4,5,6,7,8,9,10,11,12,13,14,15,16],[0,1,3,7,0,0,32,0,128,0,512,2047,4095,8191,8191,16383,65535],[],[]⟩),(9,⟨[0,1,2,3,4,5,6,7,8,9,10,11,12,13],[0,1,3,7,0,0,32,0,128,0,512,1536,4095,8191],[],[]⟩),(11,⟨[0,1,2,3,4,5,6,7,8,9,10,11,12,13,14,15,16],[0,1,3,7,0,0,32,0,128,0,512,0,2048,0,8192,32767,65535],[],[]⟩),(13,⟨[0,1,2,3,4,5,6,7,8,9,10,11,12,13,14,15,16,17,18,19,20,21,22,23],[0,1,3,7,15,31,63,0,0,256,0,1024,0,4096,0,16384,0,65536,262143,524287,1048575,1048575,2097151,8388607],[],[]⟩),(15,⟨[0,1,2,3,4,5,6,7,8,9,10,11,12,13,14,15],[0,1,3,7,15,31,63,0,0,256,1023,2047,4095,4095,8191,32767],[],[]⟩),(17,⟨[0,1,2,3,4,5,6,7,8,9,10,11,12,13,14,15,16,17],[0,1,3,7,0,16,48,112,240,0,1008,2032,4095,8191,16383,16383,32767,131071],[],[]⟩),(19,⟨[0,1,2,3,4,5,6,7,8,9,10,11,12,13,14,15],[0,1,3,7,0,16,48,112,240,0,1008,2032,0,4096,16383,32767],[],[]⟩),(23,⟨[0,1,2,3,4,5,6,7,8,9,10,11,12,13,14,15,16,17],[0,1,3,7,0,16,63,127,0,0,512,1536,3584,8191,16383,32767,32767,65535],[],[]⟩),(27,⟨[0,1,2,3,4,5,6,7,8,9,10,11,12,13,14,15,16,17,18],[0,0,0,4,15,31,63,127,255,511,63,1087,4095,8191,63,63,32831,131071,262143],[],[]⟩)] }
def D24:List Item:=A4 Tryz.f54
theorem Gc1 (C:A1) (R:A2) (k:Option Addr) (e:Int) (c:List Value) (h:H) :
 A5 PR B38 C R Aq0 Tryz.f54 100000 true D24 [(0,.pointer k),(1,.int .i64 e),(2,.agg ⟨c⟩)] h =
 nw (.cells Av5 false c) h fun b w=>bnd (cond (decide (e<0)) (some (true,w)) (aSome k fun p=>gSl (Addr.add (Addr.add p 0) 1) w fun _ xn _=>some (decide (e≥((xn:Nat):Int)),w))) fun c_1 w1=>cond c_1
 (some (.tuple ⟨[.int .i64 1,.int .i64 0,.string (ByteArray.mk ⟨[]⟩)]⟩,w1))
 (gInt .i64 (Addr.add ⟨b,0,none⟩ 0) w1 fun x_1=>cond (x_1==1)
 (aSome k fun p_1=>gPtr (Addr.add p_1 6) w1 fun x_2=>gInt .i64 (Addr.add ⟨b,0,none⟩ 1) w1 fun x_3=>gInt .i64 (Addr.add ⟨b,0,none⟩ 2) w1 fun x_4=>gInt .i64 (Addr.add ⟨b,0,none⟩ 3) w1 fun x_5=>bnd (C Ee0 [.pointer x_2,.int .i64 e,.int .i64 x_3,.int .i64 x_4,.int .i64 x_5] w1) fun r w2=>as2 r fun r_1 r_2=>aStr r_1 fun x_6=>aInt .i64 r_2 fun x_7=>some (.tuple ⟨[.int .i64 x_7,.int .i64 0,.string x_6]⟩,w2))
 (cond (x_1==2)
 (aSome k fun p_2=>gPtr (Addr.add p_2 6) w1 fun x_8=>gInt .i64 (Addr.add ⟨b,0,none⟩ 1) w1 fun x_9=>gInt .i64 (Addr.add ⟨b,0,none⟩ 2) w1 fun x_10=>gSl (Addr.add ⟨b,0,none⟩ 6) w1 fun x_11 xn_1 _=>gCells x_11 xn_1 w1 fun cs=>asBytes cs fun l=>bnd (C An1 [.pointer x_8,.int .i64 e,.int .i64 x_9,.int .i64 x_10,.string (ByteArray.mk ⟨l⟩)] w1) fun r_3 w3=>aInt .i64 r_3 fun x_12=>some (.tuple ⟨[.int .i64 x_12,.int .i64 0,.string (ByteArray.mk ⟨[]⟩)]⟩,w3))
 (cond (x_1==3)
 (aSome k fun p_3=>gPtr (Addr.add p_3 6) w1 fun x_13=>gInt .i64 (Addr.add ⟨b,0,none⟩ 1) w1 fun x_14=>gInt .i64 (Addr.add ⟨b,0,none⟩ 2) w1 fun x_15=>gInt .i64 (Addr.add ⟨b,0,none⟩ 4) w1 fun x_16=>gInt .i64 (Addr.add ⟨b,0,none⟩ 5) w1 fun x_17=>gInt .i64 (Addr.add ⟨b,0,none⟩ 3) w1 fun x_18=>bnd (C Ed5 [.pointer x_13,.int .i64 e,.int .i64 x_14,.int .i64 x_15,.int .i64 x_16,.int .i64 x_17,.int .i64 x_18] w1) fun r_4 w4=>aInt .i64 r_4 fun x_19=>some (.tuple ⟨[.int .i64 x_19,.int .i64 0,.string (ByteArray.mk ⟨[]⟩)]⟩,w4))
 (cond (x_1==4)
 (aSome k fun p_4=>gPtr (Addr.add p_4 6) w1 fun x_20=>aSome x_20 fun p_5=>gPtr (Addr.add p_5 3) w1 fun x_21=>gInt .i64 (Addr.add ⟨b,0,none⟩ 1) w1 fun x_22=>gInt .i64 (Addr.add ⟨b,0,none⟩ 4) w1 fun x_23=>gInt .i64 (Addr.add ⟨b,0,none⟩ 5) w1 fun x_24=>gInt .i64 (Addr.add ⟨b,0,none⟩ 2) w1 fun x_25=>gInt .i64 (Addr.add ⟨b,0,none⟩ 3) w1 fun x_26=>bnd (C El0 [.pointer x_21,.int .i64 e,.int .i64 x_22,.int .i64 x_23,.int .i64 x_24,.int .i64 x_25,.int .i64 x_26] w1) fun r_5 w5=>as2 r_5 fun r_6 r_7=>aInt .i64 r_6 fun x_27=>aInt .i64 r_7 fun x_28=>some (.tuple ⟨[.int .i64 x_28,.int .i64 x_27,.string (ByteArray.mk ⟨[]⟩)]⟩,w5))
 (cond (x_1==5)
 (aSome k fun p_6=>gPtr (Addr.add p_6 6) w1 fun x_29=>aSome x_29 fun p_7=>gPtr (Addr.add p_7 3) w1 fun x_30=>gInt .i64 (Addr.add ⟨b,0,none⟩ 1) w1 fun x_31=>bnd (C Ed8 [.pointer x_30,.int .i64 e,.int .i64 x_31] w1) fun r_8 w6=>as2 r_8 fun r_9 r_10=>aInt .i64 r_9 fun x_32=>aInt .i64 r_10 fun x_33=>some (.tuple ⟨[.int .i64 x_33,.int .i64 x_32,.string (ByteArray.mk ⟨[]⟩)]⟩,w6))
 (cond (x_1==6)
 (aSome k fun p_8=>gPtr (Addr.add p_8 5) w1 fun x_34=>aSome k fun p_9=>gSl (Addr.add (Addr.add p_9 0) 1) w1 fun x_35 xn_2 _=>aSome x_35 fun p_10=>ck ((0:Int)≤e∧e<((xn_2:Nat):Int)) (gInt .i64 (Addr.add (A9 p_10) (Int.toNat e*1)) w1 fun x_36=>bnd (C Ei7 [.pointer x_34,.int .i64 x_36] w1) fun r_11 w7=>as2 r_11 fun r_12 r_13=>aInt .i64 r_12 fun x_37=>aInt .i64 r_13 fun x_38=>some (.tuple ⟨[.int .i64 x_38,.int .i64 x_37,.string (ByteArray.mk ⟨[]⟩)]⟩,w7)))
 (cond (x_1==7)
 (aSome k fun p_11=>gPtr (Addr.add p_11 5) w1 fun x_39=>aSome k fun p_12=>gSl (Addr.add (Addr.add p_12 0) 1) w1 fun x_40 xn_3 _=>aSome x_40 fun p_13=>ck ((0:Int)≤e∧e<((xn_3:Nat):Int)) (gInt .i64 (Addr.add (A9 p_13) (Int.toNat e*1)) w1 fun x_41=>gInt .i64 (Addr.add ⟨b,0,none⟩ 3) w1 fun x_42=>bnd (C Eu1 [.pointer x_39,.int .i64 x_41,.int .i64 x_42] w1) fun r_14 w8=>aInt .i64 r_14 fun x_43=>some (.tuple ⟨[.int .i64 x_43,.int .i64 0,.string (ByteArray.mk ⟨[]⟩)]⟩,w8)))
 (cond (x_1==8)
 (gInt .i64 (Addr.add ⟨b,0,none⟩ 3) w1 fun x_44=>bnd (C Dq4 [.pointer k,.int .i64 e,.int .i64 x_44] w1) fun r_15 w9=>aBool r_15 fun x_45=>cond x_45
 (aSome k fun p_14=>gSl (Addr.add p_14 7) w9 fun x_46 xn_4 _=>gInt .i64 (Addr.add ⟨b,0,none⟩ 3) w9 fun x_47=>aSome x_46 fun p_15=>ck ((0:Int)≤x_47∧x_47<((xn_4:Nat):Int)) (gPtr (Addr.add (A9 p_15) (Int.toNat x_47*1)) w9 fun x_48=>aSome k fun p_16=>gInt .i64 (Addr.add p_16 8) w9 fun x_49=>bnd (C Et5 [.pointer x_48,.int .i64 e,.int .i64 x_49] w9) fun r_16 w10=>as2 r_16 fun r_17 r_18=>aInt .i64 r_17 fun x_50=>aBool r_18 fun _=>some (.tuple ⟨[.int .i64 0,.int .i64 x_50,.string (ByteArray.mk ⟨[]⟩)]⟩,w10)))
 (some (.tuple ⟨[.int .i64 8,.int .i64 0,.string (ByteArray.mk ⟨[]⟩)]⟩,w9)))
 (cond (x_1==9)
 (gInt .i64 (Addr.add ⟨b,0,none⟩ 3) w1 fun x_52=>bnd (C Dq4 [.pointer k,.int .i64 e,.int .i64 x_52] w1) fun r_19 w11=>aBool r_19 fun x_53=>bnd (cond x_53 (aSome k fun p_17=>gSl (Addr.add p_17 7) w11 fun x_54 xn_5 _=>gInt .i64 (Addr.add ⟨b,0,none⟩ 3) w11 fun x_55=>aSome x_54 fun p_18=>ck ((0:Int)≤x_55∧x_55<((xn_5:Nat):Int)) (gPtr (Addr.add (A9 p_18) (Int.toNat x_55*1)) w11 fun x_56=>gInt .i64 (Addr.add ⟨b,0,none⟩ 2) w11 fun x_57=>bnd (C Et3 [.pointer x_56,.int .i64 e,.int .i64 x_57] w11) fun r_20 w12=>aBool r_20 fun x_58=>some (x_58,w12))) (some (false,w11))) fun c_2 w13=>cond c_2
 (some (.tuple ⟨[.int .i64 0,.int .i64 0,.string (ByteArray.mk ⟨[]⟩)]⟩,w13))
 (some (.tuple ⟨[.int .i64 8,.int .i64 0,.string (ByteArray.mk ⟨[]⟩)]⟩,w13)))
 (cond (x_1==10)
 (aSome k fun p_19=>gInt .i64 (Addr.add p_19 8) w1 fun x_59=>some (.tuple ⟨[.int .i64 0,.int .i64 x_59,.string (ByteArray.mk ⟨[]⟩)]⟩,w1))
 (some (.tuple ⟨[.int .i64 7,.int .i64 0,.string (ByteArray.mk ⟨[]⟩)]⟩,w1)))))))))))):=by kernel_rfl
def Df2:Cuts:={ globs:=0,loops:=[(3,[0,3,4])],regs:=[],plans:=[] }
def Ea1:List Item:=A4 Tryz.f65
def Bp6:List Item:=stk [0,1,0,1,0,0,1,4,5] Ea1
theorem Hk7 (C:A1) (R:A2) (b:ByteArray) (h:H) :
 A5 PR Df2 C R Ad6 Tryz.f65 100000 true Ea1 [(0,.string b)] h =
 R Ad6 Bp6 [(0,.string b),(3,.int .i64 ((ByteArray.size b:Nat):Int)),(4,.int .i64 0)] h:=by kernel_rfl
theorem Eb5 (C:A1) (R:A2) (b:ByteArray) (n:Int) (i:Int) (h:H) :
 A5 PR Df2 C R Ad6 Tryz.f65 100000 true Bp6 [(0,.string b),(3,.int .i64 n),(4,.int .i64 i)] h =
 cond (decide (i<((ByteArray.size b:Nat):Int)))
 (ck ((0:Int)≤i∧i<((ByteArray.size b:Nat):Int)) (R Ad6 Bp6 [(0,.string b),(3,.int .i64 (IntKind.wrap .i64 (n+(IntKind.wrap .i64 (((List.getD (ByteArray.data b).toList (Int.toNat i) 0).toNat:Int)))))),(4,.int .i64 (IntKind.wrap .i64 (i+1)))] h))
 (some (.int .u8 (IntKind.wrap .u8 (n)),h)):=by kernel_rfl
def B52:Cuts:={ globs:=0,loops:=[],regs:=[],plans:=[(1,⟨[1,0,2,3,4,5,6],[0,0,3,7,7,31,63],[(0,[1])],[]⟩)] }
def Dz7:List Item:=A4 Tryz.f74
theorem Ge4 (C:A1) (R:A2) (f:List Value) (h:H) :
 A5 PR B52 C R A19 Tryz.f74 100000 true Dz7 [(0,.agg ⟨f⟩)] h =
 nw (.cells D4 false f) h fun b w=>gAgg ⟨b,0,none⟩ 4 w fun x=>bnd (C A80 [] w) fun r w1=>aPtr r fun x_1=>gAgg ⟨b,0,none⟩ 4 w1 fun x_2=>same (.agg ⟨x⟩) (.agg ⟨x_2⟩) (bnd (C U8 [.pointer x_1,.agg ⟨x⟩] w1) fun r_1 w2=>as2 r_1 fun r_2 r_3=>aSl r_2 fun x_3 xn xc=>aBool r_3 fun x_4=>some (.tuple ⟨[.slice x_3 xn xc,.bool x_4]⟩,w2)):=by kernel_rfl
def A55:Cuts:={ globs:=0,loops:=[],regs:=[],plans:=[] }
def Bz0:List Item:=A4 Tryz.f76
theorem D26 (C:A1) (R:A2) (g:Int) (h:H) :
 A5 PR A55 C R Am4 Tryz.f76 100000 true Bz0 [(0,.int .i64 g)] h =
 bnd (cond (decide (g<0)) (some (true,h)) (some (decide (g≥8),h))) fun c w=>cond c
 (some (.tuple ⟨[.slice none 0 0,.bool false]⟩,w))
 (nw (.cells A3 false [.int .u8 (IntKind.wrap .u8 (g)),.int .u8 211]) w fun b w1=>bnd (C Z6 [.slice (some ⟨b,0,none⟩) 2 2] w1) fun r w2=>aInt .u8 r fun x=>nw (.cells A3 false [.int .u8 x,.int .u8 0]) w2 fun b_1 w3=>gCells (some ⟨b_1,0,none⟩) (2*1) w3 fun cs=>ckB (fitsOpen (some ⟨b,0,none⟩) A3 w3) (apd A3 1 (some ⟨b,0,none⟩) 2 2 2 cs w3 fun a an ac w4=>some (.tuple ⟨[.slice a an ac,.bool true]⟩,w4))):=by kernel_rfl
def Dv6:Cuts:={ globs:=0,loops:=[],regs:=[],plans:=[] }
def Eu5:List Item:=A4 Tryz.f83
theorem G73 (C:A1) (R:A2) (ok:Bool) (n:Int) (h:H) :
 A5 PR Dv6 C R Ba1 Tryz.f83 100000 true Eu5 [(0,.bool ok),(1,.int .i64 n)] h =
 nw (.cells L8 false [.int .i64 0,.int .i64 0,.slice none 0 0,.bool false]) h fun b w=>cond (!ok)
 (bnd (C B65 [.int .i64 105] w) fun r w1=>aAgg r fun x=>ck (List.length x=4) (pAgg ⟨b,0,none⟩ x w1 fun w2=>gAgg ⟨b,0,none⟩ 4 w2 fun x_1=>some (.agg ⟨x_1⟩,w2)))
 (pAgg ⟨b,0,none⟩ [.int .i64 n,.int .i64 0,.slice none 0 0,.bool false] w fun w3=>gAgg ⟨b,0,none⟩ 4 w3 fun x_2=>some (.agg ⟨x_2⟩,w3)):=by kernel_rfl
def Q5:Cuts:={ globs:=0,loops:=[(1,[0,5]),(6,[0,12]),(11,[0,20,21])],regs:=[],plans:=[] }
def Z9:List Item:=A4 Tryz.f91
def Ab9:List Item:=stk [0,0,1,4,5] Z9
def Ac2:List Item:=stk [0,1,0,0,1,4,5] Z9
def Ab8:List Item:=stk [0,1,0,1,0,0,1,4,5] Z9
theorem Du0 (C:A1) (R:A2) (c:Option Addr) (h:H) :
 A5 PR Q5 C R B7 Tryz.f91 100000 true Z9 [(0,.pointer c)] h =
 R B7 Ab9 [(0,.pointer c),(5,.int .i64 0)] h:=by kernel_rfl
theorem Bb9 (C:A1) (R:A2) (c:Option Addr) (x5:Int) (h:H) :
 A5 PR Q5 C R B7 Tryz.f91 100000 true Ab9 [(0,.pointer c),(5,.int .i64 x5)] h =
 cond (decide (x5<8))
 (bnd (C Aa0 [.pointer c,.int .i64 x5] h) fun r w=>as2 r fun r_1 r_2=>aAgg r_1 fun _=>aInt .i64 r_2 fun _=>R B7 Ab9 [(0,.pointer c),(5,.int .i64 (IntKind.wrap .i64 (x5+1)))] w)
 (R B7 Ac2 [(0,.pointer c),(12,.int .i64 0)] h):=by kernel_rfl
theorem Bb8 (C:A1) (R:A2) (c:Option Addr) (x12:Int) (h:H) :
 A5 PR Q5 C R B7 Tryz.f91 100000 true Ac2 [(0,.pointer c),(12,.int .i64 x12)] h =
 cond (decide (x12<12))
 (bnd (C J7 [.pointer c,.int .i64 x12] h) fun r w=>as2 r fun r_1 r_2=>aAgg r_1 fun _=>aInt .i64 r_2 fun _=>R B7 Ac2 [(0,.pointer c),(12,.int .i64 (IntKind.wrap .i64 (x12+1)))] w)
 (bnd (C Aa1 [.pointer c,.int .i64 3] h) fun r_3 w1=>aInt .i64 r_3 fun x_2=>R B7 Ab8 [(0,.pointer c),(20,.int .i64 x_2),(21,.int .i64 0)] w1):=by kernel_rfl
theorem Bd2 (C:A1) (R:A2) (c:Option Addr) (x20:Int) (x21:Int) (h:H) :
 A5 PR Q5 C R B7 Tryz.f91 100000 true Ab8 [(0,.pointer c),(20,.int .i64 x20),(21,.int .i64 x21)] h =
 cond (decide (x21<x20))
 (bnd (C O0 [.pointer c,.int .i64 x21] h) fun r w=>as2 r fun r_1 r_2=>aAgg r_1 fun _=>aInt .i64 r_2 fun _=>R B7 Ab8 [(0,.pointer c),(20,.int .i64 x20),(21,.int .i64 (IntKind.wrap .i64 (x21+1)))] w)
 (bnd (C Ah7 [.pointer c] h) fun r_3 w1=>as2 r_3 fun r_4 r_5=>aAgg r_4 fun _=>aInt .i64 r_5 fun _=>bnd (C Af8 [.pointer c] w1) fun r_6 w2=>as2 r_6 fun r_7 r_8=>aInt .i64 r_7 fun _=>aBool r_8 fun _=>some (.tuple ⟨[]⟩,w2)):=by kernel_rfl
def D46:Cuts:={ globs:=0,loops:=[],regs:=[],plans:=[] }
def E63:List Item:=A4 Tryz.f97
theorem He9 (C:A1) (R:A2) (e:Int) (h:H) :
 A5 PR D46 C R I4 Tryz.f97 100000 true E63 [(0,.int .i64 e)] h =
 nw (.cells L8 false [.int .i64 0,.int .i64 0,.slice none 0 0,.bool false]) h fun b w=>pAgg ⟨b,0,none⟩ [.int .i64 0,.int .i64 e,.slice none 0 0,.bool false] w fun w1=>gAgg ⟨b,0,none⟩ 4 w1 fun x=>some (.agg ⟨x⟩,w1):=by kernel_rfl
def Do9:Cuts:={ globs:=0,loops:=[],regs:=[],plans:=[] }
def Ei1:List Item:=A4 Tryz.f101
theorem Gs6 (C:A1) (R:A2) (k:Int) (fv0:Addr) (h:H) :
 A5 PR Do9 C R A31 Tryz.f101 100000 true Ei1 [(0,.int .i64 k),(1,.pointer (some fv0))] h =
 gPtr fv0 h fun x=>bnd (C O0 [.pointer x,.int .i64 k] h) fun r w=>as2 r fun r_1 r_2=>aAgg r_1 fun x_1=>aInt .i64 r_2 fun x_2=>nw (.cells G8 false [.int .i64 0,.int .i64 0,.int .i64 0,.int .i64 0,.int .u8 0,.int .u8 0,.int .u8 0,.int .u8 0,.int .u8 0,.int .u8 0,.int .u8 0,.int .u8 0,.int .u8 0,.int .u8 0,.int .u8 0,.int .u8 0,.int .u8 0,.int .u8 0,.int .u8 0,.int .u8 0,.int .u8 0,.int .u8 0,.int .u8 0,.int .u8 0,.int .u8 0,.int .u8 0,.int .u8 0,.int .u8 0,.int .u8 0,.int .u8 0,.int .u8 0,.int .u8 0,.int .u8 0,.int .u8 0,.int .u8 0,.int .u8 0]) w fun b w1=>ck (List.length x_1=36) (pAgg ⟨b,0,none⟩ x_1 w1 fun w2=>some (.bool (x_2==0),w2)):=by kernel_rfl
def E00:Cuts:={ globs:=0,loops:=[],regs:=[],plans:=[(3,⟨[0,1,2,3,4],[0,0,0,5,15],[],[]⟩),(5,⟨[0,1,2,3],[0,0,3,7],[],[]⟩),(9,⟨[0,1,2,3,4,5,6,7,8],[0,0,3,7,15,0,31,127,255],[],[]⟩)] }
def Gz3:List Item:=A4 Tryz.f103
theorem H10 (C:A1) (R:A2) (c:Option Addr) (i:Int) (fd:Int) (h:H) :
 A5 PR E00 C R B41 Tryz.f103 100000 true Gz3 [(0,.pointer c),(1,.int .i64 i),(2,.int .i64 fd)] h =
 nw (.cells D4 false [.int .i64 0,.int .i64 0,.int .i64 0,.int .i64 0]) h fun b w=>bnd (C Ao8 [.pointer c,.int .i64 i] w) fun r w1=>as2 r fun r_1 r_2=>aAgg r_1 fun x=>aInt .i64 r_2 fun x_1=>nw (.cells B9 false [.int .i64 0,.int .i64 0,.int .i64 0,.int .i64 0,.int .i64 0,.int .i64 0,.int .i64 0,.int .i64 0,.int .i64 0,.int .i64 0,.int .i64 0,.int .i64 0,.int .i64 0,.int .i64 0,.int .i64 0,.int .i64 0]) w1 fun b_1 w2=>ck (List.length x=16) (pAgg ⟨b_1,0,none⟩ x w2 fun w3=>cond (x_1 != 0)
 (gAgg ⟨b,0,none⟩ 4 w3 fun x_2=>ck (List.length x_2=4) (pAgg ⟨b,0,none⟩ x_2 w3 fun w4=>gAgg ⟨b,0,none⟩ 4 w4 fun x_3=>some (.tuple ⟨[.int .i64 0,.agg ⟨x_3⟩,.int .i64 x_1]⟩,w4)))
 (gAgg ⟨b_1,0,none⟩ 16 w3 fun x_4=>bnd (C Bm4 [.agg ⟨x_4⟩,.int .i64 fd] w3) fun r_3 w5=>aBool r_3 fun x_5=>cond (!x_5)
 (gAgg ⟨b,0,none⟩ 4 w5 fun x_6=>ck (List.length x_6=4) (pAgg ⟨b,0,none⟩ x_6 w5 fun w6=>gAgg ⟨b,0,none⟩ 4 w6 fun x_7=>some (.tuple ⟨[.int .i64 0,.agg ⟨x_7⟩,.int .i64 109]⟩,w6)))
 (ck ((0:Int)≤fd∧fd<((8:Nat):Int)) (gInt .i64 (Addr.add (Addr.add ⟨b_1,0,none⟩ 8) (Int.toNat fd*1)) w5 fun x_8=>bnd (C J7 [.pointer c,.int .i64 (IntKind.wrap .i64 (x_8-1))] w5) fun r_4 w7=>as2 r_4 fun r_5 r_6=>aAgg r_5 fun x_9=>aInt .i64 r_6 fun x_10=>ck (List.length x_9=4) (pAgg ⟨b,0,none⟩ x_9 w7 fun w8=>cond (x_10 != 1)
 (pAgg ⟨b,0,none⟩ [.int .i64 0,.int .i64 0,.int .i64 0,.int .i64 0] w8 fun w9=>gAgg ⟨b,0,none⟩ 4 w9 fun x_11=>some (.tuple ⟨[.int .i64 0,.agg ⟨x_11⟩,.int .i64 105]⟩,w9))
 (ck ((0:Int)≤fd∧fd<((8:Nat):Int)) (gInt .i64 (Addr.add (Addr.add ⟨b_1,0,none⟩ 8) (Int.toNat fd*1)) w8 fun x_12=>gAgg ⟨b,0,none⟩ 4 w8 fun x_13=>ck (List.length x_13=4) (pAgg ⟨b,0,none⟩ x_13 w8 fun w10=>gAgg ⟨b,0,none⟩ 4 w10 fun x_14=>some (.tuple ⟨[.int .i64 (IntKind.wrap .i64 (x_12-1)),.agg ⟨x_14⟩,.int .i64 0]⟩,w10))))))))):=by kernel_rfl
def D83:Cuts:={ globs:=0,loops:=[],regs:=[],plans:=[] }
def E46:List Item:=A4 Tryz.f104
theorem Hn2 (C:A1) (R:A2) (c:Option Addr) (f:Int) (x:List Value) (h:H) :
 A5 PR D83 C R Bv9 Tryz.f104 100000 true E46 [(0,.pointer c),(1,.int .i64 f),(2,.agg ⟨x⟩)] h =
 nw (.cells D4 false x) h fun b w=>gInt .i64 (Addr.add ⟨b,0,none⟩ 2) w fun x_1=>pV (Addr.add ⟨b,0,none⟩ 2) (.int .i64 (IntKind.wrap .i64 (x_1+1))) w fun w1=>gAgg ⟨b,0,none⟩ 4 w1 fun x_2=>bnd (C J0 [.pointer c,.int .i64 f,.agg ⟨x_2⟩] w1) fun r w2=>aBool r fun x_3=>some (.bool x_3,w2):=by kernel_rfl
def Du3:Cuts:={ globs:=0,loops:=[],regs:=[],plans:=[] }
def Ev0:List Item:=A4 Tryz.f106
theorem Hb5 (C:A1) (R:A2) (p:List Value) (fd:Int) (h:H) :
 A5 PR Du3 C R Bm4 Tryz.f106 100000 true Ev0 [(0,.agg ⟨p⟩),(1,.int .i64 fd)] h =
 nw (.cells B9 false p) h fun b w=>bnd (cond (decide (fd≥0)) (some (decide (fd<8),w)) (some (false,w))) fun c w1=>bnd (cond c (ck ((0:Int)≤fd∧fd<((8:Nat):Int)) (gInt .i64 (Addr.add (Addr.add ⟨b,0,none⟩ 8) (Int.toNat fd*1)) w1 fun x=>some (decide (x>0),w1))) (some (false,w1))) fun c_1 w2=>some (.bool c_1,w2):=by kernel_rfl
def Db9:Cuts:={ globs:=0,loops:=[],regs:=[],plans:=[] }
def Eb6:List Item:=A4 Tryz.f111
theorem Gp7 (C:A1) (R:A2) (n:Int) (h:H) :
 A5 PR Db9 C R A78 Tryz.f111 100000 true Eb6 [(0,.int .i64 n)] h =
 some (.int .i64 (mm2 false (mm2 true n 0) 64),h):=by kernel_rfl
def Ar6:Cuts:={ globs:=0,loops:=[],regs:=[],plans:=[] }
def Bg5:List Item:=A4 Tryz.f112
theorem Dn0 (C:A1) (R:A2) (s:Option Addr) (sn sc:Nat) (h:H) :
 A5 PR Ar6 C R V3 Tryz.f112 100000 true Bg5 [(0,.slice s sn sc)] h =
 cond s.isNone
 (some (.slice none 0 0,h))
 (nw (.cells B2 false []) h fun b w=>gCells s (sn*1) w fun cs=>ckB (fitsOpen (some ⟨b,0,none⟩) B2 w) (apd B2 1 (some ⟨b,0,none⟩) 0 0 sn cs w fun a an ac w1=>some (.slice a an ac,w1))):=by kernel_rfl
def Dh7:Cuts:={ globs:=0,loops:=[(3,[3,8,9])],regs:=[],plans:=[(4,⟨[0,1,2,3,4,5,6,7,8,9,10],[0,0,2,6,14,0,32,126,255,511,1023],[(5,[4])],[]⟩)] }
def D56:List Item:=A4 Tryz.f114
def Bp4:List Item:=stk [0,1,0,1,0,0,1,4,5] D56
theorem Hh7 (C:A1) (R:A2) (envs:Int) (h:H) :
 A5 PR Dh7 C R Aw9 Tryz.f114 100000 true D56 [(0,.int .i64 envs)] h =
 nw (.cells Aq1 false [.slice none 0 0]) h fun b w=>R Aw9 Bp4 [(3,.pointer (some ⟨b,0,none⟩)),(8,.int .i64 (mm2 false (mm2 true envs 0) 40)),(9,.int .i64 0)] w:=by kernel_rfl
theorem Ea8 (C:A1) (R:A2) (s:Addr) (x8:Int) (x9:Int) (h:H) :
 A5 PR Dh7 C R Aw9 Tryz.f114 100000 true Bp4 [(3,.pointer (some s)),(8,.int .i64 x8),(9,.int .i64 x9)] h =
 cond (decide (x9<x8))
 (gSl (Addr.add s 0) h fun x xn xc=>bnd (C O7 [.int .i64 32] h) fun r w=>aPtr r fun x_1=>gSl (Addr.add s 0) w fun x_2 xn_1 xc_1=>same (.slice x xn xc) (.slice x_2 xn_1 xc_1) (nw (.cells E9 false [.pointer x_1]) w fun b w1=>gCells (some ⟨b,0,none⟩) (1*1) w1 fun cs=>ckB (fitsOpen x E9 w1) (apd E9 1 x xn xc 1 cs w1 fun a an ac w2=>pV (Addr.add s 0) (.slice a an ac) w2 fun w3=>R Aw9 Bp4 [(3,.pointer (some s)),(8,.int .i64 x8),(9,.int .i64 (IntKind.wrap .i64 (x9+1)))] w3)))
 (some (.pointer (some s),h)):=by kernel_rfl
def Bq5:Cuts:={ globs:=0,loops:=[],regs:=[],plans:=[] }
def Dk5:List Item:=A4 Tryz.f121
theorem Ex8 (C:A1) (R:A2) (s:Option Addr) (env:Int) (c:List Value) (h:H) :
 A5 PR Bq5 C R A61 Tryz.f121 100000 true Dk5 [(0,.pointer s),(1,.int .i64 env),(2,.agg ⟨c⟩)] h =
 nw (.cells P1 false c) h fun b w=>bnd (C Ad5 [.pointer s,.int .i64 env] w) fun r w1=>aBool r fun x=>bnd (cond (!x) (some (true,w1)) (gInt .i64 (Addr.add ⟨b,0,none⟩ 1) w1 fun x_1=>some ((Eh2 .i64 x_1 7) != 0,w1))) fun c_1 w2=>bnd (cond c_1 (some (true,w2)) (gInt .i64 (Addr.add ⟨b,0,none⟩ 2) w2 fun x_2=>bnd (C Ai3 [.int .i64 x_2] w2) fun r_1 w3=>aBool r_1 fun x_3=>some (!x_3,w3))) fun c_2 w4=>bnd (cond c_2 (some (true,w4)) (gInt .i64 (Addr.add ⟨b,0,none⟩ 3) w4 fun x_4=>bnd (C Ai3 [.int .i64 x_4] w4) fun r_2 w5=>aBool r_2 fun x_5=>some (!x_5,w5))) fun c_3 w6=>cond c_3
 (some (.tuple ⟨[.int .i64 0,.int .i64 1]⟩,w6))
 (pAgg (Addr.add ⟨b,0,none⟩ 4) [.int .i64 0,.int .i64 0] w6 fun w7=>gAgg ⟨b,0,none⟩ 6 w7 fun x_6=>bnd (C Ar0 [.pointer s,.int .i64 env,.agg ⟨x_6⟩] w7) fun r_3 w8=>as2 r_3 fun r_4 r_5=>aInt .i64 r_4 fun x_7=>aInt .i64 r_5 fun x_8=>some (.tuple ⟨[.int .i64 x_7,.int .i64 x_8]⟩,w8)):=by kernel_rfl
def A56:Cuts:={ globs:=0,loops:=[],regs:=[],plans:=[] }
def By9:List Item:=A4 Tryz.f131
theorem Ea0 (C:A1) (R:A2) (r:Option Addr) (e:Int) (name:Int) (atv:Int) (b:ByteArray) (h:H) :
 A5 PR A56 C R An1 Tryz.f131 100000 true By9 [(0,.pointer r),(1,.int .i64 e),(2,.int .i64 name),(3,.int .i64 atv),(4,.string b)] h =
 bnd (C Ao0 [.pointer r,.int .i64 e,.int .i64 name,.int .i64 2,.int .i64 atv,.int .i64 ((ByteArray.size b:Nat):Int)] h) fun r_1 w=>as2 r_1 fun r_2 r_3=>aInt .i64 r_2 fun x=>aInt .i64 r_3 fun x_1=>cond (x_1 != 0)
 (some (.int .i64 x_1,w))
 (aSome r fun p=>gSl (Addr.add p 0) w fun x_2 xn xc=>ckB (fitsOpen x_2 A3 w) (ck ((0:Int)≤x∧x≤((xn:Nat):Int)) (pCells (H4 x_2 (decide (Int.toNat x<xc)) ((Int.toNat x)*1)) (A0 (List.take (min (ByteArray.size b) (xn-(Int.toNat x))) (ByteArray.data b).toList)) w fun w1=>some (.int .i64 0,w1)))):=by kernel_rfl
def Bx8:Cuts:={ globs:=0,loops:=[],regs:=[],plans:=[] }
def Ds9:List Item:=A4 Tryz.f141
theorem Ga8 (C:A1) (R:A2) (s:Option Addr) (env:Int) (h:H) :
 A5 PR Bx8 C R Ad5 Tryz.f141 100000 true Ds9 [(0,.pointer s),(1,.int .i64 env)] h =
 bnd (cond (decide (env≥0)) (aSome s fun p=>gSl (Addr.add p 0) h fun _ xn _=>some (decide (env<((xn:Nat):Int)),h)) (some (false,h))) fun c w=>some (.bool c,w):=by kernel_rfl
def Ay1:Cuts:={ globs:=0,loops:=[],regs:=[],plans:=[(2,⟨[0,1,2,3,4,5,6,7,8,9,10],[0,1,3,7,15,31,63,7,255,511,1023],[],[]⟩),(4,⟨[0,1,2,3,4,5,6,7,8,9,10,11,12,13,14,16,15,17],[0,1,3,7,0,16,48,112,0,256,0,1024,0,4096,16128,32767,0,131071],[],[]⟩),(6,⟨[0,1,2,3,4,5,6,7,8,9],[0,1,3,7,0,31,63,31,159,511],[(7,[5])],[]⟩)] }
def Bo0:List Item:=A4 Tryz.f146
theorem Dx6 (C:A1) (R:A2) (c:Option Addr) (r:List Value) (h:H) :
 A5 PR Ay1 C R N7 Tryz.f146 100000 true Bo0 [(0,.pointer c),(1,.agg ⟨r⟩)] h =
 nw (.cells D2 false r) h fun b w=>gAgg ⟨b,0,none⟩ 2 w fun x=>bnd (C P9 [.pointer c,.agg ⟨x⟩] w) fun r_1 w1=>as2 r_1 fun r_2 r_3=>aAgg r_2 fun x_1=>aBool r_3 fun x_2=>nw (.cells Bc2 false [.int .i64 0,.int .i64 0,.int .i64 0]) w1 fun b_1 w2=>ck (List.length x_1=3) (pAgg ⟨b_1,0,none⟩ x_1 w2 fun w3=>bnd (cond (!x_2) (some (true,w3)) (aSome c fun p=>gMap (Addr.add p 3) w3 fun x_3=>gAgg ⟨b,0,none⟩ 2 w3 fun x_4=>keyN PR D2 (.agg ⟨x_4⟩) (opt x_3 fun r_4=>mapAt w3 r_4 fun es _=>opt (Aj6 (.int .i64 0) (.agg ⟨x_4⟩) es) fun f=>aInt .i64 f.1 fun x_5=>some (decide (x_5>0),w3)))) fun c_1 w4=>cond c_1
 (some (.tuple ⟨[.slice none 0 0,.bool false]⟩,w4))
 (aSome c fun p_1=>gPtr (Addr.add p_1 0) w4 fun x_6=>aSome c fun p_2=>gInt .i64 (Addr.add p_2 1) w4 fun x_7=>gInt .i64 (Addr.add ⟨b_1,0,none⟩ 0) w4 fun x_8=>gInt .i64 (Addr.add ⟨b_1,0,none⟩ 1) w4 fun x_9=>gInt .i64 (Addr.add ⟨b_1,0,none⟩ 2) w4 fun x_10=>nw (.cells Ee9 false [.int .i64 0,.int .i64 0,.slice none 0 0]) w4 fun b_2 w5=>bnd (C Q6 [.pointer x_6,.int .i64 x_7,.agg ⟨[.int .i64 1,.int .i64 x_8,.int .i64 x_9,.int .i64 x_10,.int .i64 0,.int .i64 0,.slice none 0 0]⟩] w5) fun r_5 w6=>aAgg r_5 fun x_11=>ck (List.length x_11=3) (pAgg ⟨b_2,0,none⟩ x_11 w6 fun w7=>gInt .i64 (Addr.add ⟨b_2,0,none⟩ 0) w7 fun x_12=>cond (x_12 != 0)
 (aSome c fun p_3=>gMap (Addr.add p_3 3) w7 fun x_13=>gAgg ⟨b,0,none⟩ 2 w7 fun x_14=>keyN PR D2 (.agg ⟨x_14⟩) (opt x_13 fun r_6=>mapAt w7 r_6 fun es_1 _=>opt (Aj6 (.int .i64 0) (.agg ⟨x_14⟩) es_1) fun f_1=>aInt .i64 f_1.1 fun x_15=>keyN PR D2 (.agg ⟨x_14⟩) (opt x_13 fun r_7=>mapAt w7 r_7 fun es_2 cl_2=>opt (Dw9 (.int .i64 0) (.agg ⟨x_14⟩) es_2 cl_2) fun f_2=>aInt .i64 f_2.1 fun _=>lt (H.set w7 r_7 f_2.2.2) fun w8=>keyN PR D2 (.agg ⟨x_14⟩) (opt x_13 fun r_8=>mapAt w8 r_8 fun es_3 _=>opt (Aj6 (.int .i64 0) (.agg ⟨x_14⟩) es_3) fun f_3=>aInt .i64 f_3.1 fun x_17=>same (.int .i64 x_15) (.int .i64 x_17) (opt x_13 fun r_9=>mapAt w8 r_9 fun es_4 cl_4=>opt (Bh9 (f_2.2.1:Int) es_4 0) fun i=>lt (H.set w8 r_9 (.map (modN (fun e=>{ e with val:=.int .i64 (IntKind.wrap .i64 (x_15+1)) }) i es_4) cl_4)) fun w9=>some (.tuple ⟨[.slice none 0 0,.bool false]⟩,w9))))))
 (gSl (Addr.add ⟨b_2,0,none⟩ 2) w7 fun x_18 xn xc=>some (.tuple ⟨[.slice x_18 xn xc,.bool true]⟩,w7))))):=by kernel_rfl
def Bf9:Cuts:={ globs:=0,loops:=[],regs:=[],plans:=[] }
def B98:List Item:=A4 Tryz.f155
theorem Eo4 (C:A1) (R:A2) (q:Option Addr) (s:Int) (k:Int) (h:H) :
 A5 PR Bf9 C R Aw8 Tryz.f155 100000 true B98 [(0,.pointer q),(1,.int .i64 s),(2,.int .i64 k)] h =
 bnd (C Ag4 [.pointer q,.int .i64 s] h) fun r w=>aBool r fun x=>cond (!x)
 (some (.int .i64 1,w))
 (bnd (C Ax0 [.pointer q,.int .i64 s,.int .i64 k] w) fun r_1 w1=>aBool r_1 fun x_1=>cond (!x_1)
 (some (.int .i64 5,w1))
 (aSome q fun p=>gSl (Addr.add p 0) w1 fun x_2 xn _=>aSome x_2 fun p_1=>ck ((0:Int)≤s∧s<((xn:Nat):Int)) (gSl (Addr.add (A9 p_1) (Int.toNat s*1)) w1 fun x_3 xn_1 _=>aSome x_3 fun p_2=>ck ((0:Int)≤k∧k<((xn_1:Nat):Int)) (pV (Addr.add (A9 p_2) (Int.toNat k*1)) (.int .i64 0) w1 fun w2=>some (.int .i64 0,w2))))):=by kernel_rfl
def Af5:Cuts:={ globs:=0,loops:=[],regs:=[],plans:=[(2,⟨[0,1,2,3,4,5,6,7,8,9,10,11,12,13,14],[0,1,3,7,15,31,63,127,255,511,63,63,4095,8191,16383],[],[]⟩)] }
def Az0:List Item:=A4 Tryz.f162
theorem B12 (C:A1) (R:A2) (c:Option Addr) (v:List Value) (h:H) :
 A5 PR Af5 C R U8 Tryz.f162 100000 true Az0 [(0,.pointer c),(1,.agg ⟨v⟩)] h =
 nw (.cells D4 false v) h fun b w=>aSome c fun p=>gInt .i64 (Addr.add p 0) w fun x=>ck ((0:Int)≤x∧(x:Int)≤x∧x≤(A8:Int)) (nw (.cells A3 false (G7 (Int.toNat x) [.int .u8 0])) w fun b_1 w1=>aSome c fun p_1=>gFv (Addr.add p_1 1) w1 fun x_1=>isNilF x_1 fun b_2=>bnd (cond b_2 (some (true,w1)) (aSome c fun p_2=>gFv (Addr.add p_2 1) w1 fun x_2=>gAgg ⟨b,0,none⟩ 4 w1 fun x_3=>aFn x_2 fun g fi cp=>bnd (C g (fi++([.agg ⟨x_3⟩,.slice (some ⟨b_1,0,none⟩) (Int.toNat x) (Int.toNat x)]++cp)) w1) fun r w2=>aBool r fun x_4=>some (!x_4,w2))) fun c_1 w3=>cond c_1
 (some (.tuple ⟨[.slice none 0 0,.bool false]⟩,w3))
 (some (.tuple ⟨[.slice (some ⟨b_1,0,none⟩) (Int.toNat x) (Int.toNat x),.bool true]⟩,w3))):=by kernel_rfl
def Dc8:Cuts:={ globs:=0,loops:=[],regs:=[],plans:=[] }
def Ec7:List Item:=A4 Tryz.f171
theorem Go5 (C:A1) (R:A2) (i:Int) (fv0:Addr) (h:H) :
 A5 PR Dc8 C R A75 Tryz.f171 100000 true Ec7 [(0,.int .i64 i),(1,.pointer (some fv0))] h =
 ck ((0:Int)≤i∧i<((8:Nat):Int)) (gInt .i64 (Addr.add (Addr.add fv0 8) (Int.toNat i*1)) h fun x=>some (.bool (x==0),h)):=by kernel_rfl
def B44:Cuts:={ globs:=0,loops:=[],regs:=[],plans:=[] }
def D10:List Item:=A4 Tryz.f178
theorem Gc3 (C:A1) (R:A2) (m:Option Addr) (h:H) :
 A5 PR B44 C R A10 Tryz.f178 100000 true D10 [(0,.pointer m)] h =
 aSome m fun p=>gSl (Addr.add p 0) h fun _ xn _=>some (.int .i64 ((xn:Nat):Int),h):=by kernel_rfl
def Bd7:Cuts:={ globs:=0,loops:=[],regs:=[],plans:=[] }
def B92:List Item:=A4 Tryz.f180
theorem Ei6 (C:A1) (R:A2) (n:Int) (h:H) :
 A5 PR Bd7 C R Ai3 Tryz.f180 100000 true B92 [(0,.int .i64 n)] h =
 bnd (cond (decide (n≥0)) (some (decide (n≤65536),h)) (some (false,h))) fun c w=>some (.bool c,w):=by kernel_rfl
def Bq9:Cuts:={ globs:=0,loops:=[],regs:=[],plans:=[] }
def Do1:List Item:=A4 Tryz.f187
theorem E16 (C:A1) (R:A2) (s:Option Addr) (e:Int) (name:Int) (h:H) :
 A5 PR Bq9 C R A51 Tryz.f187 100000 true Do1 [(0,.pointer s),(1,.int .i64 e),(2,.int .i64 name)] h =
 nw (.cells P1 false [.int .i64 0,.int .i64 0,.int .i64 0,.int .i64 0,.int .i64 0,.int .i64 0]) h fun b w=>bnd (C Ah6 [.pointer s,.int .i64 e] w) fun r w1=>aBool r fun x=>bnd (cond (!x) (some (true,w1)) (aSome s fun p=>gSl (Addr.add p 0) w1 fun x_1 xn _=>aSome x_1 fun p_1=>ck ((0:Int)≤e∧e<((xn:Nat):Int)) (gPtr (Addr.add (A9 p_1) (Int.toNat e*1)) w1 fun x_2=>bnd (C A59 [.pointer x_2,.int .i64 name] w1) fun r_1 w2=>aBool r_1 fun x_3=>some (!x_3,w2)))) fun c w3=>cond c
 (pAgg ⟨b,0,none⟩ [.int .i64 0,.int .i64 0,.int .i64 0,.int .i64 0,.int .i64 0,.int .i64 0] w3 fun w4=>gAgg ⟨b,0,none⟩ 6 w4 fun x_4=>some (.tuple ⟨[.agg ⟨x_4⟩,.int .i64 2]⟩,w4))
 (aSome s fun p_2=>gSl (Addr.add p_2 1) w3 fun x_5 xn_1 _=>aSome x_5 fun p_3=>ck ((0:Int)≤e∧e<((xn_1:Nat):Int)) (gSl (Addr.add (A9 p_3) (Int.toNat e*1)) w3 fun x_6 xn_2 _=>aSome x_6 fun p_4=>ck ((0:Int)≤B4 .i64 name 255∧B4 .i64 name 255<((xn_2:Nat):Int)) (gAgg (Addr.add (A9 p_4) (Int.toNat (B4 .i64 name 255)*6)) 6 w3 fun x_7=>ck (List.length x_7=6) (pAgg ⟨b,0,none⟩ x_7 w3 fun w5=>gAgg ⟨b,0,none⟩ 6 w5 fun x_8=>some (.tuple ⟨[.agg ⟨x_8⟩,.int .i64 0]⟩,w5))))):=by kernel_rfl
def A45:Cuts:={ globs:=0,loops:=[(3,[0,3,4])],regs:=[],plans:=[] }
def Bs9:List Item:=A4 Tryz.f194
def Ag1:List Item:=stk [0,1,0,1,0,0,1,4,5] Bs9
theorem E22 (C:A1) (R:A2) (n:Option Addr) (h:H) :
 A5 PR A45 C R Q0 Tryz.f194 100000 true Bs9 [(0,.pointer n)] h =
 R Q0 Ag1 [(0,.pointer n),(3,.slice none 0 0),(4,.int .i64 0)] h:=by kernel_rfl
theorem B19 (C:A1) (R:A2) (n:Option Addr) (out:Option Addr) (outn outc:Nat) (i:Int) (h:H) :
 A5 PR A45 C R Q0 Tryz.f194 100000 true Ag1 [(0,.pointer n),(3,.slice out outn outc),(4,.int .i64 i)] h =
 aSome n fun p=>gSl (Addr.add p 0) h fun _ xn _=>cond (decide (i<((xn:Nat):Int)))
 (aSome n fun p_1=>gSl (Addr.add p_1 0) h fun x_1 xn_1 _=>aSome x_1 fun p_2=>ck ((0:Int)≤i∧i<((xn_1:Nat):Int)) (gBool (Addr.add (Addr.add (A9 p_2) (Int.toNat i*2)) 1) h fun x_2=>cond x_2
 (aSome n fun p_3=>gSl (Addr.add p_3 0) h fun x_3 xn_2 _=>aSome x_3 fun p_4=>ck ((0:Int)≤i∧i<((xn_2:Nat):Int)) (gInt .i64 (Addr.add (Addr.add (A9 p_4) (Int.toNat i*2)) 0) h fun x_4=>nw (.cells B2 false [.int .i64 (IntKind.wrap .i64 (i+(IntKind.wrap .i64 (256*x_4))))]) h fun b w=>gCells (some ⟨b,0,none⟩) (1*1) w fun cs=>ckB (fitsOpen out B2 w) (apd B2 1 out outn outc 1 cs w fun a an ac w1=>R Q0 Ag1 [(0,.pointer n),(3,.slice a an ac),(4,.int .i64 (IntKind.wrap .i64 (i+1)))] w1)))
 (R Q0 Ag1 [(0,.pointer n),(3,.slice out outn outc),(4,.int .i64 (IntKind.wrap .i64 (i+1)))] h)))
 (some (.slice out outn outc,h)):=by kernel_rfl
def A69:Cuts:={ globs:=0,loops:=[],regs:=[],plans:=[] }
def B05:List Item:=A4 Tryz.f196
theorem D99 (C:A1) (R:A2) (size:Int) (put:Value) (get:Value) (h:H) :
 A5 PR A69 C R Am3 Tryz.f196 100000 true B05 [(0,.int .i64 size),(1,put),(2,get)] h =
 one put (one get (nw (.cells Bm9 false [.int .i64 (mm2 false (mm2 true size 0) 64),put,get]) h fun b w=>some (.pointer (some ⟨b,0,none⟩),w))):=by kernel_rfl
def D60:Cuts:={ globs:=0,loops:=[],regs:=[],plans:=[(1,⟨[0,1,2,3,4,5,6,7,8,9,10,11,12,13,14,15,16,17,18],[0,1,3,7,0,16,48,112,0,256,768,1792,0,4096,12288,28672,65535,0,262143],[],[]⟩),(2,⟨[0,1,2,3,4],[0,1,0,4,15],[],[]⟩),(4,⟨[0,1,2,3,4,5,6,7,8],[0,0,2,6,6,30,62,63,255],[(5,[0])],[]⟩)] }
def E82:List Item:=A4 Tryz.f198
theorem Hm4 (C:A1) (R:A2) (b:Option Addr) (bn bc:Nat) (h:H) :
 A5 PR D60 C R Bh2 Tryz.f198 100000 true E82 [(0,.slice b bn bc)] h =
 nw (.cells G8 false [.int .i64 0,.int .i64 0,.int .i64 0,.int .i64 0,.int .u8 0,.int .u8 0,.int .u8 0,.int .u8 0,.int .u8 0,.int .u8 0,.int .u8 0,.int .u8 0,.int .u8 0,.int .u8 0,.int .u8 0,.int .u8 0,.int .u8 0,.int .u8 0,.int .u8 0,.int .u8 0,.int .u8 0,.int .u8 0,.int .u8 0,.int .u8 0,.int .u8 0,.int .u8 0,.int .u8 0,.int .u8 0,.int .u8 0,.int .u8 0,.int .u8 0,.int .u8 0,.int .u8 0,.int .u8 0,.int .u8 0,.int .u8 0]) h fun b_1 w=>aSome b fun p=>ck ((0:Int)≤1∧1<((bn:Nat):Int)) (gInt .u8 (Addr.add (A9 p) (Int.toNat 1*1)) w fun x=>aSome b fun p_1=>ck ((0:Int)≤2∧2<((bn:Nat):Int)) (gInt .u8 (Addr.add (A9 p_1) (Int.toNat 2*1)) w fun x_1=>aSome b fun p_2=>ck ((0:Int)≤3∧3<((bn:Nat):Int)) (gInt .u8 (Addr.add (A9 p_2) (Int.toNat 3*1)) w fun x_2=>aSome b fun p_3=>ck ((0:Int)≤4∧4<((bn:Nat):Int)) (gInt .u8 (Addr.add (A9 p_3) (Int.toNat 4*1)) w fun x_3=>nw (.cells G8 false [.int .i64 0,.int .i64 0,.int .i64 0,.int .i64 0,.int .u8 0,.int .u8 0,.int .u8 0,.int .u8 0,.int .u8 0,.int .u8 0,.int .u8 0,.int .u8 0,.int .u8 0,.int .u8 0,.int .u8 0,.int .u8 0,.int .u8 0,.int .u8 0,.int .u8 0,.int .u8 0,.int .u8 0,.int .u8 0,.int .u8 0,.int .u8 0,.int .u8 0,.int .u8 0,.int .u8 0,.int .u8 0,.int .u8 0,.int .u8 0,.int .u8 0,.int .u8 0,.int .u8 0,.int .u8 0,.int .u8 0,.int .u8 0]) w fun b_2 w1=>pAgg ⟨b_2,0,none⟩ [.int .i64 (IntKind.wrap .i64 (x)),.int .i64 (IntKind.wrap .i64 (x_1)),.int .i64 (IntKind.wrap .i64 (x_2)),.int .i64 (IntKind.wrap .i64 (x_3)),.int .u8 0,.int .u8 0,.int .u8 0,.int .u8 0,.int .u8 0,.int .u8 0,.int .u8 0,.int .u8 0,.int .u8 0,.int .u8 0,.int .u8 0,.int .u8 0,.int .u8 0,.int .u8 0,.int .u8 0,.int .u8 0,.int .u8 0,.int .u8 0,.int .u8 0,.int .u8 0,.int .u8 0,.int .u8 0,.int .u8 0,.int .u8 0,.int .u8 0,.int .u8 0,.int .u8 0,.int .u8 0,.int .u8 0,.int .u8 0,.int .u8 0,.int .u8 0] w1 fun w2=>ckB (liveA (Addr.add ⟨b_2,0,none⟩ 4) w2) (ckB (fitsOpen b A3 w2) (ck ((0:Int)≤8∧8≤((bn:Nat):Int)) (gCells (H4 b (decide (Int.toNat 8<bc)) ((Int.toNat 8)*1)) (min (bn-(Int.toNat 8)) (32-0)*1) w2 fun cs=>pCells (H4 (some (Addr.add ⟨b_2,0,none⟩ 4)) (decide (0<32)) (0*1)) cs w2 fun w3=>gAgg ⟨b_2,0,none⟩ 36 w3 fun x_4=>bnd (C A81 [.agg ⟨x_4⟩] w3) fun r w4=>as2 r fun r_1 r_2=>aSl r_1 fun x_5 xn xc=>aBool r_2 fun x_6=>gAgg ⟨b_2,0,none⟩ 36 w4 fun x_7=>bnd (cond x_6 (bnd (C B8 [.slice x_5 xn xc,.slice b bn bc] w4) fun r_3 w5=>aBool r_3 fun x_8=>gAgg ⟨b_2,0,none⟩ 36 w5 fun x_9=>same (.agg ⟨x_7⟩) (.agg ⟨x_9⟩) (some (x_8,w5))) (some (false,w4))) fun c w6=>ck (List.length x_7=36) (pAgg ⟨b_1,0,none⟩ x_7 w6 fun w7=>gAgg ⟨b_1,0,none⟩ 36 w7 fun x_10=>some (.tuple ⟨[.agg ⟨x_10⟩,.bool c]⟩,w7))))))))):=by kernel_rfl
def Bw5:Cuts:={ globs:=0,loops:=[],regs:=[],plans:=[] }
def Dt1:List Item:=A4 Tryz.f200
theorem E67 (C:A1) (R:A2) (c:Int) (h:H) :
 A5 PR Bw5 C R Ad8 Tryz.f200 100000 true Dt1 [(0,.int .u8 c)] h =
 some (.bool (c != 0),h):=by kernel_rfl
def Bs1:Cuts:={ globs:=0,loops:=[],regs:=[],plans:=[] }
def Do8:List Item:=A4 Tryz.f203
theorem E04 (C:A1) (R:A2) (s:Option Addr) (env:Int) (name:Int) (h:H) :
 A5 PR Bs1 C R Ar1 Tryz.f203 100000 true Do8 [(0,.pointer s),(1,.int .i64 env),(2,.int .i64 name)] h =
 nw (.cells P1 false [.int .i64 0,.int .i64 0,.int .i64 0,.int .i64 0,.int .i64 0,.int .i64 0]) h fun b w=>bnd (C Ad5 [.pointer s,.int .i64 env] w) fun r w1=>aBool r fun x=>cond (!x)
 (pAgg ⟨b,0,none⟩ [.int .i64 0,.int .i64 0,.int .i64 0,.int .i64 0,.int .i64 0,.int .i64 0] w1 fun w2=>gAgg ⟨b,0,none⟩ 6 w2 fun x_1=>some (.tuple ⟨[.agg ⟨x_1⟩,.int .i64 2]⟩,w2))
 (aSome s fun p=>gSl (Addr.add p 0) w1 fun x_2 xn _=>aSome x_2 fun p_1=>ck ((0:Int)≤env∧env<((xn:Nat):Int)) (gPtr (Addr.add (A9 p_1) (Int.toNat env*1)) w1 fun x_3=>bnd (C Ac4 [.pointer x_3,.int .i64 name] w1) fun r_1 w3=>as2 r_1 fun r_2 r_3=>aAgg r_2 fun x_4=>aBool r_3 fun x_5=>nw (.cells P1 false [.int .i64 0,.int .i64 0,.int .i64 0,.int .i64 0,.int .i64 0,.int .i64 0]) w3 fun b_1 w4=>ck (List.length x_4=6) (pAgg ⟨b_1,0,none⟩ x_4 w4 fun w5=>cond (!x_5)
 (pAgg ⟨b,0,none⟩ [.int .i64 0,.int .i64 0,.int .i64 0,.int .i64 0,.int .i64 0,.int .i64 0] w5 fun w6=>gAgg ⟨b,0,none⟩ 6 w6 fun x_6=>some (.tuple ⟨[.agg ⟨x_6⟩,.int .i64 2]⟩,w6))
 (gAgg ⟨b_1,0,none⟩ 6 w5 fun x_7=>ck (List.length x_7=6) (pAgg ⟨b,0,none⟩ x_7 w5 fun w7=>gAgg ⟨b,0,none⟩ 6 w7 fun x_8=>some (.tuple ⟨[.agg ⟨x_8⟩,.int .i64 0]⟩,w7)))))):=by kernel_rfl
def A42:Cuts:={ globs:=0,loops:=[],regs:=[],plans:=[] }
def Bx0:List Item:=A4 Tryz.f214
theorem D70 (C:A1) (R:A2) (size:Int) (put:Value) (get:Value) (h:H) :
 A5 PR A42 C R An4 Tryz.f214 100000 true Bx0 [(0,.int .i64 size),(1,put),(2,get)] h =
 one put (one get (nw (.cells Ai0 false [.int .i64 (mm2 false (mm2 true size 0) 64),put,get]) h fun b w=>some (.pointer (some ⟨b,0,none⟩),w))):=by kernel_rfl
def Dw8:Cuts:={ globs:=0,loops:=[],regs:=[],plans:=[] }
def Ex7:List Item:=A4 Tryz.f215
theorem G64 (C:A1) (R:A2) (f:List Value) (b:Option Addr) (bn bc:Nat) (h:H) :
 A5 PR Dw8 C R Ao7 Tryz.f215 100000 true Ex7 [(0,.agg ⟨f⟩),(1,.slice b bn bc)] h =
 nw (.cells D4 false f) h fun b_1 w=>gAgg ⟨b_1,0,none⟩ 4 w fun x=>bnd (C Dh6 [.agg ⟨x⟩] w) fun r w1=>aBool r fun x_1=>cond (!x_1)
 (some (.bool false,w1))
 (gInt .i64 (Addr.add ⟨b_1,0,none⟩ 0) w1 fun x_2=>gInt .i64 (Addr.add ⟨b_1,0,none⟩ 1) w1 fun x_3=>gInt .i64 (Addr.add ⟨b_1,0,none⟩ 2) w1 fun x_4=>gInt .i64 (Addr.add ⟨b_1,0,none⟩ 3) w1 fun x_5=>nw (.cells A3 false [.int .u8 (IntKind.wrap .u8 (x_2)),.int .u8 (IntKind.wrap .u8 (x_3)),.int .u8 (IntKind.wrap .u8 (x_4)),.int .u8 (IntKind.wrap .u8 (x_5)),.int .u8 179]) w1 fun b_2 w2=>gCells (some ⟨b_2,0,none⟩) (min 5 bn*1) w2 fun cs=>pCells b cs w2 fun w3=>ckB (fitsOpen b A3 w3) (ck ((0:Int)≤5∧5≤((bc:Nat):Int)) (bnd (C Z6 [.slice (H4 b (decide (0<bc)) (0*1)) ((Int.toNat 5)-0) (bc-0)] w3) fun r_1 w4=>aInt .u8 r_1 fun x_6=>aSome b fun p=>ck ((0:Int)≤5∧5<((bn:Nat):Int)) (pV (Addr.add (A9 p) (Int.toNat 5*1)) (.int .u8 x_6) w4 fun w5=>some (.bool true,w5))))):=by kernel_rfl
def W6:Cuts:={ globs:=0,loops:=[(2,[0,1,7,8])],regs:=[],plans:=[] }
def Ag5:List Item:=A4 Tryz.f217
def M6:List Item:=stk [0,1,0,0,1,4,5] Ag5
theorem A36 (C:A1) (R:A2) (s:Option Addr) (sn sc:Nat) (f:Value) (h:H) :
 A5 PR W6 C R D1 Tryz.f217 100000 true Ag5 [(0,.slice s sn sc),(1,f)] h =
 R D1 M6 [(0,.slice s sn sc),(1,f),(7,.int .i64 ((sn:Nat):Int)),(8,.int .i64 0)] h:=by kernel_rfl
theorem Q4 (C:A1) (R:A2) (s:Option Addr) (sn sc:Nat) (f:Value) (x7:Int) (x8:Int) (h:H) :
 A5 PR W6 C R D1 Tryz.f217 100000 true M6 [(0,.slice s sn sc),(1,f),(7,.int .i64 x7),(8,.int .i64 x8)] h =
 cond (decide (x8<x7))
 (aSome s fun p=>ck ((0:Int)≤x8∧x8<((sn:Nat):Int)) (gInt .i64 (Addr.add (A9 p) (Int.toNat x8*1)) h fun x=>aFn f fun g fi cp=>bnd (C g (fi++([.int .i64 x]++cp)) h) fun r w=>aBool r fun x_1=>cond x_1
 (some (.int .i64 x8,w))
 (R D1 M6 [(0,.slice s sn sc),(1,f),(7,.int .i64 x7),(8,.int .i64 (IntKind.wrap .i64 (x8+1)))] w)))
 (some (.int .i64 (-1),h)):=by kernel_rfl
def Ab6:Cuts:={ globs:=0,loops:=[(2,[0,3,11,12,13])],regs:=[],plans:=[(5,⟨[0,1,2,3,4,5,6,7,8,9,10,11,12,13,14,15,16],[0,1,3,7,0,0,32,96,224,0,0,1535,3583,7679,16383,32767,65535],[],[]⟩)] }
def An9:List Item:=A4 Tryz.f218
def W2:List Item:=stk [0,1,0,0,1,4,5] An9
theorem Df6 (C:A1) (R:A2) (t:Option Addr) (v:List Value) (h:H) :
 A5 PR Ab6 C R H3 Tryz.f218 100000 true An9 [(0,.pointer t),(1,.agg ⟨v⟩)] h =
 nw (.cells P1 false v) h fun b w=>aSome t fun p=>gSl (Addr.add p 0) w fun x xn xc=>R H3 W2 [(0,.pointer t),(3,.pointer (some ⟨b,0,none⟩)),(11,.slice x xn xc),(12,.int .i64 ((xn:Nat):Int)),(13,.int .i64 0)] w:=by kernel_rfl
theorem A07 (C:A1) (R:A2) (t:Option Addr) (v:Addr) (x11:Option Addr) (x11n x11c:Nat) (x12:Int) (x13:Int) (h:H) :
 A5 PR Ab6 C R H3 Tryz.f218 100000 true W2 [(0,.pointer t),(3,.pointer (some v)),(11,.slice x11 x11n x11c),(12,.int .i64 x12),(13,.int .i64 x13)] h =
 cond (decide (x13<x12))
 (aSome x11 fun p=>ck ((0:Int)≤x13∧x13<((x11n:Nat):Int)) (gAgg (Addr.add (A9 p) (Int.toNat x13*8)) 8 h fun x=>nw (.cells Aj4 false [.int .i64 0,.int .i64 0,.int .i64 0,.int .i64 0,.int .i64 0,.int .i64 0,.int .i64 0,.bool false]) h fun b w=>ck (List.length x=8) (pAgg ⟨b,0,none⟩ x w fun w1=>gBool (Addr.add ⟨b,0,none⟩ 7) w1 fun x_1=>bnd (cond (!x_1) (gInt .i64 (Addr.add ⟨b,0,none⟩ 6) w1 fun x_2=>some (decide (x_2≤1000000),w1)) (some (false,w1))) fun c w2=>cond c
 (aSome t fun p_1=>gSl (Addr.add p_1 0) w2 fun x_3 xn _=>aSome t fun p_2=>gSl (Addr.add p_2 0) w2 fun x_4 xn_1 _=>gAgg v 6 w2 fun x_5=>aSome x_3 fun p_3=>ck ((0:Int)≤x13∧x13<((xn:Nat):Int)) (ck (List.length x_5=6) (pAgg (Addr.add (Addr.add (A9 p_3) (Int.toNat x13*8)) 0) x_5 w2 fun w3=>aSome x_4 fun p_4=>ck ((0:Int)≤x13∧x13<((xn_1:Nat):Int)) (pV (Addr.add (Addr.add (A9 p_4) (Int.toNat x13*8)) 7) (.bool true) w3 fun w4=>bnd (C M9 [.pointer t,.int .i64 x13] w4) fun r w5=>aInt .i64 r fun x_6=>some (.tuple ⟨[.int .i64 x_6,.bool true]⟩,w5)))))
 (R H3 W2 [(0,.pointer t),(3,.pointer (some v)),(11,.slice x11 x11n x11c),(12,.int .i64 x12),(13,.int .i64 (IntKind.wrap .i64 (x13+1)))] w2))))
 (some (.tuple ⟨[.int .i64 0,.bool false]⟩,h)):=by kernel_rfl
def A68:Cuts:={ globs:=0,loops:=[(2,[0,4])],regs:=[],plans:=[] }
def Bs6:List Item:=A4 Tryz.f219
def As1:List Item:=stk [0,1,0,0,1,4,5] Bs6
theorem Ex9 (C:A1) (R:A2) (n:Option Addr) (h:H) :
 A5 PR A68 C R U9 Tryz.f219 100000 true Bs6 [(0,.pointer n)] h =
 R U9 As1 [(0,.pointer n),(4,.int .i64 0)] h:=by kernel_rfl
theorem B21 (C:A1) (R:A2) (n:Option Addr) (i:Int) (h:H) :
 A5 PR A68 C R U9 Tryz.f219 100000 true As1 [(0,.pointer n),(4,.int .i64 i)] h =
 aSome n fun p=>gSl (Addr.add p 0) h fun _ xn _=>cond (decide (i<((xn:Nat):Int)))
 (aSome n fun p_1=>gSl (Addr.add p_1 0) h fun x_1 xn_1 _=>aSome x_1 fun p_2=>ck ((0:Int)≤i∧i<((xn_1:Nat):Int)) (gBool (Addr.add (Addr.add (A9 p_2) (Int.toNat i*2)) 1) h fun x_2=>bnd (cond (!x_2) (aSome n fun p_3=>gSl (Addr.add p_3 0) h fun x_3 xn_2 _=>aSome x_3 fun p_4=>ck ((0:Int)≤i∧i<((xn_2:Nat):Int)) (gInt .i64 (Addr.add (Addr.add (A9 p_4) (Int.toNat i*2)) 0) h fun x_4=>some (decide (x_4≤1000000),h))) (some (false,h))) fun c w=>cond c
 (aSome n fun p_5=>gSl (Addr.add p_5 0) w fun x_5 xn_3 _=>aSome x_5 fun p_6=>ck ((0:Int)≤i∧i<((xn_3:Nat):Int)) (pV (Addr.add (Addr.add (A9 p_6) (Int.toNat i*2)) 1) (.bool true) w fun w1=>aSome n fun p_7=>gSl (Addr.add p_7 0) w1 fun x_6 xn_4 _=>aSome x_6 fun p_8=>ck ((0:Int)≤i∧i<((xn_4:Nat):Int)) (gInt .i64 (Addr.add (Addr.add (A9 p_8) (Int.toNat i*2)) 0) w1 fun x_7=>some (.tuple ⟨[.int .i64 (IntKind.wrap .i64 (i+(IntKind.wrap .i64 (256*x_7)))),.bool true]⟩,w1))))
 (R U9 As1 [(0,.pointer n),(4,.int .i64 (IntKind.wrap .i64 (i+1)))] w)))
 (some (.tuple ⟨[.int .i64 0,.bool false]⟩,h)):=by kernel_rfl
def Bq7:Cuts:={ globs:=0,loops:=[],regs:=[],plans:=[] }
def Do5:List Item:=A4 Tryz.f220
theorem Ez2 (C:A1) (R:A2) (n:Option Addr) (name:Int) (h:H) :
 A5 PR Bq7 C R A59 Tryz.f220 100000 true Do5 [(0,.pointer n),(1,.int .i64 name)] h =
 bnd (cond (decide (name≥0)) (aSome n fun p=>gSl (Addr.add p 0) h fun _ xn _=>some (decide ((B4 .i64 name 255)<((xn:Nat):Int)),h)) (some (false,h))) fun c w=>bnd (cond c (aSome n fun p_1=>gSl (Addr.add p_1 0) w fun x_1 xn_1 _=>aSome x_1 fun p_2=>ck ((0:Int)≤B4 .i64 name 255∧B4 .i64 name 255<((xn_1:Nat):Int)) (gBool (Addr.add (Addr.add (A9 p_2) (Int.toNat (B4 .i64 name 255)*2)) 1) w fun x_2=>some (x_2,w))) (some (false,w))) fun c_1 w1=>bnd (cond c_1 (aSome n fun p_3=>gSl (Addr.add p_3 0) w1 fun x_3 xn_2 _=>aSome x_3 fun p_4=>ck ((0:Int)≤B4 .i64 name 255∧B4 .i64 name 255<((xn_2:Nat):Int)) (gInt .i64 (Addr.add (Addr.add (A9 p_4) (Int.toNat (B4 .i64 name 255)*2)) 0) w1 fun x_4=>some (x_4==(Int.fdiv name (2 ^ 8)),w1))) (some (false,w1))) fun c_2 w2=>some (.bool c_2,w2):=by kernel_rfl
def Am5:Cuts:={ globs:=0,loops:=[],regs:=[],plans:=[] }
def Bc9:List Item:=A4 Tryz.f226
theorem Df3 (C:A1) (R:A2) (t:Option Addr) (name:Int) (h:H) :
 A5 PR Am5 C R Ac4 Tryz.f226 100000 true Bc9 [(0,.pointer t),(1,.int .i64 name)] h =
 nw (.cells P1 false [.int .i64 0,.int .i64 0,.int .i64 0,.int .i64 0,.int .i64 0,.int .i64 0]) h fun b w=>bnd (C Ae0 [.pointer t,.int .i64 name] w) fun r w1=>aPtr r fun x=>cond x.isNone
 (nw (.cells P1 false [.int .i64 0,.int .i64 0,.int .i64 0,.int .i64 0,.int .i64 0,.int .i64 0]) w1 fun b_1 w2=>gAgg ⟨b_1,0,none⟩ 6 w2 fun x_1=>ck (List.length x_1=6) (pAgg ⟨b,0,none⟩ x_1 w2 fun w3=>gAgg ⟨b,0,none⟩ 6 w3 fun x_2=>some (.tuple ⟨[.agg ⟨x_2⟩,.bool false]⟩,w3)))
 (aSome x fun p=>gAgg (Addr.add p 0) 6 w1 fun x_3=>ck (List.length x_3=6) (pAgg ⟨b,0,none⟩ x_3 w1 fun w4=>gAgg ⟨b,0,none⟩ 6 w4 fun x_4=>some (.tuple ⟨[.agg ⟨x_4⟩,.bool true]⟩,w4))):=by kernel_rfl
def Bl2:Cuts:={ globs:=0,loops:=[],regs:=[],plans:=[] }
def Dd9:List Item:=A4 Tryz.f230
theorem Et9 (C:A1) (R:A2) (s:Option Addr) (who:Int) (stamp:Int) (h:H) :
 A5 PR Bl2 C R A04 Tryz.f230 100000 true Dd9 [(0,.pointer s),(1,.int .i64 who),(2,.int .i64 stamp)] h =
 aSome s fun p=>gBool (Addr.add p 1) h fun x=>bnd (cond x (aSome s fun p_1=>gInt .i64 (Addr.add p_1 2) h fun x_1=>some (x_1==who,h)) (some (false,h))) fun c w=>bnd (cond c (aSome s fun p_2=>gInt .i64 (Addr.add p_2 3) w fun x_2=>some (x_2==stamp,w)) (some (false,w))) fun c_1 w1=>some (.bool c_1,w1):=by kernel_rfl
def Dm7:Cuts:={ globs:=0,loops:=[],regs:=[],plans:=[] }
def Ei0:List Item:=A4 Tryz.f238
theorem G10 (C:A1) (R:A2) (n:Int) (without:Int) (h:H) :
 A5 PR Dm7 C R Ai7 Tryz.f238 100000 true Ei0 [(0,.int .i64 n),(1,.int .i64 without)] h =
 bnd (cond ((Eh2 .i64 n 65534)==0) (some ((B4 .i64 n without)==0,h)) (some (false,h))) fun c w=>some (.bool c,w):=by kernel_rfl
end
end Go.EQ

set_option maxRecDepth 100000
namespace Go.EQ
open Go Go.NN Go.Proofs
variable (C : A1) (R : A2)
noncomputable section
def Ay5:Cuts:={ globs:=0,loops:=[],regs:=[],plans:=[] }
def Bo1:List Item:=A4 Tryz.f36
theorem Dv9 (C:A1) (R:A2) (c:Option Addr) (i:Int) (h:H) :
 A5 PR Ay5 C R J7 Tryz.f36 100000 true Bo1 [(0,.pointer c),(1,.int .i64 i)] h =
 nw (.cells D4 false [.int .i64 0,.int .i64 0,.int .i64 0,.int .i64 0]) h fun b w=>bnd (C Ap9 [.int .i64 i] w) fun r w1=>aAgg r fun x=>bnd (C I9 [.pointer c,.agg ⟨x⟩,.func (.func A20) ⟨[]⟩ ⟨[]⟩] w1) fun r_1 w2=>as2 r_1 fun r_2 r_3=>aAgg r_2 fun x_1=>aInt .i64 r_3 fun x_2=>ck (List.length x_1=4) (pAgg ⟨b,0,none⟩ x_1 w2 fun w3=>gAgg ⟨b,0,none⟩ 4 w3 fun x_3=>some (.tuple ⟨[.agg ⟨x_3⟩,.int .i64 x_2]⟩,w3)):=by kernel_rfl
def Du2:Cuts:={ globs:=0,loops:=[],regs:=[],plans:=[] }
def Ew6:List Item:=A4 Tryz.f40
theorem G57 (C:A1) (R:A2) (c:Option Addr) (i:Int) (h:H) :
 A5 PR Du2 C R Ao8 Tryz.f40 100000 true Ew6 [(0,.pointer c),(1,.int .i64 i)] h =
 nw (.cells B9 false [.int .i64 0,.int .i64 0,.int .i64 0,.int .i64 0,.int .i64 0,.int .i64 0,.int .i64 0,.int .i64 0,.int .i64 0,.int .i64 0,.int .i64 0,.int .i64 0,.int .i64 0,.int .i64 0,.int .i64 0,.int .i64 0]) h fun b w=>bnd (C B7 [.pointer c] w) fun r w1=>as0 r (bnd (C Aa0 [.pointer c,.int .i64 i] w1) fun r_1 w2=>as2 r_1 fun r_2 r_3=>aAgg r_2 fun x=>aInt .i64 r_3 fun x_1=>nw (.cells B9 false [.int .i64 0,.int .i64 0,.int .i64 0,.int .i64 0,.int .i64 0,.int .i64 0,.int .i64 0,.int .i64 0,.int .i64 0,.int .i64 0,.int .i64 0,.int .i64 0,.int .i64 0,.int .i64 0,.int .i64 0,.int .i64 0]) w2 fun b_1 w3=>ck (List.length x=16) (pAgg ⟨b_1,0,none⟩ x w3 fun w4=>bnd (cond (x_1 != 1) (some (true,w4)) (gInt .i64 (Addr.add ⟨b_1,0,none⟩ 0) w4 fun x_2=>some (x_2 != 1,w4))) fun c_1 w5=>cond c_1
 (pAgg ⟨b,0,none⟩ [.int .i64 0,.int .i64 0,.int .i64 0,.int .i64 0,.int .i64 0,.int .i64 0,.int .i64 0,.int .i64 0,.int .i64 0,.int .i64 0,.int .i64 0,.int .i64 0,.int .i64 0,.int .i64 0,.int .i64 0,.int .i64 0] w5 fun w6=>gAgg ⟨b,0,none⟩ 16 w6 fun x_3=>some (.tuple ⟨[.agg ⟨x_3⟩,.int .i64 105]⟩,w6))
 (gAgg ⟨b_1,0,none⟩ 16 w5 fun x_4=>ck (List.length x_4=16) (pAgg ⟨b,0,none⟩ x_4 w5 fun w7=>gAgg ⟨b,0,none⟩ 16 w7 fun x_5=>some (.tuple ⟨[.agg ⟨x_5⟩,.int .i64 0]⟩,w7))))):=by kernel_rfl
def Ee1:Cuts:={ globs:=0,loops:=[],regs:=[],plans:=[] }
def Gl4:List Item:=A4 Tryz.f44
theorem Hp1 (C:A1) (R:A2) (c:Option Addr) (i:Int) (fd:Int) (h:H) :
 A5 PR Ee1 C R Dt0 Tryz.f44 100000 true Gl4 [(0,.pointer c),(1,.int .i64 i),(2,.int .i64 fd)] h =
 nw (.cells L8 false [.int .i64 0,.int .i64 0,.slice none 0 0,.bool false]) h fun b w=>bnd (C B41 [.pointer c,.int .i64 i,.int .i64 fd] w) fun r w1=>as3 r fun r_1 r_2 r_3=>aInt .i64 r_1 fun x=>aAgg r_2 fun x_1=>aInt .i64 r_3 fun x_2=>nw (.cells D4 false [.int .i64 0,.int .i64 0,.int .i64 0,.int .i64 0]) w1 fun b_1 w2=>ck (List.length x_1=4) (pAgg ⟨b_1,0,none⟩ x_1 w2 fun w3=>cond (x_2 != 0)
 (bnd (C I4 [.int .i64 x_2] w3) fun r_4 w4=>aAgg r_4 fun x_3=>ck (List.length x_3=4) (pAgg ⟨b,0,none⟩ x_3 w4 fun w5=>gAgg ⟨b,0,none⟩ 4 w5 fun x_4=>some (.agg ⟨x_4⟩,w5)))
 (bnd (C Ao8 [.pointer c,.int .i64 i] w3) fun r_5 w6=>as2 r_5 fun r_6 r_7=>aAgg r_6 fun x_5=>aInt .i64 r_7 fun _=>nw (.cells B9 false [.int .i64 0,.int .i64 0,.int .i64 0,.int .i64 0,.int .i64 0,.int .i64 0,.int .i64 0,.int .i64 0,.int .i64 0,.int .i64 0,.int .i64 0,.int .i64 0,.int .i64 0,.int .i64 0,.int .i64 0,.int .i64 0]) w6 fun b_2 w7=>ck (List.length x_5=16) (pAgg ⟨b_2,0,none⟩ x_5 w7 fun w8=>gAgg ⟨b_2,0,none⟩ 16 w8 fun x_7=>bnd (C Bn2 [.agg ⟨x_7⟩,.int .i64 1] w8) fun r_8 w9=>aSl r_8 fun x_8 xn _=>cond (((xn:Nat):Int)==0)
 (bnd (C I4 [.int .i64 124] w9) fun r_9 w10=>aAgg r_9 fun x_9=>ck (List.length x_9=4) (pAgg ⟨b,0,none⟩ x_9 w10 fun w11=>gAgg ⟨b,0,none⟩ 4 w11 fun x_10=>some (.agg ⟨x_10⟩,w11)))
 (gInt .i64 (Addr.add ⟨b_1,0,none⟩ 2) w9 fun x_11=>cond (decide (x_11≥64))
 (bnd (C I4 [.int .i64 123] w9) fun r_10 w12=>aAgg r_10 fun x_12=>ck (List.length x_12=4) (pAgg ⟨b,0,none⟩ x_12 w12 fun w13=>gAgg ⟨b,0,none⟩ 4 w13 fun x_13=>some (.agg ⟨x_13⟩,w13)))
 (gAgg ⟨b_1,0,none⟩ 4 w9 fun x_14=>bnd (C Bv9 [.pointer c,.int .i64 x,.agg ⟨x_14⟩] w9) fun r_11 w14=>aBool r_11 fun x_15=>cond (!x_15)
 (bnd (C I4 [.int .i64 105] w14) fun r_12 w15=>aAgg r_12 fun x_16=>ck (List.length x_16=4) (pAgg ⟨b,0,none⟩ x_16 w15 fun w16=>gAgg ⟨b,0,none⟩ 4 w16 fun x_17=>some (.agg ⟨x_17⟩,w16)))
 (aSome x_8 fun p=>ck ((0:Int)≤0∧0<((xn:Nat):Int)) (gInt .i64 (Addr.add (A9 p) (Int.toNat 0*1)) w14 fun x_18=>bnd (C Bx2 [.pointer c,.int .i64 i,.int .i64 x_18,.int .i64 x] w14) fun r_13 w17=>aAgg r_13 fun x_19=>ck (List.length x_19=4) (pAgg ⟨b,0,none⟩ x_19 w17 fun w18=>gAgg ⟨b,0,none⟩ 4 w18 fun x_20=>some (.agg ⟨x_20⟩,w18))))))))):=by kernel_rfl
def A65:Cuts:={ globs:=0,loops:=[(5,[1,4,20,21,22]),(12,[1,7,58,59,60]),(18,[7,89,90,91]),(22,[7,11,12,89,90,91,122,123,124])],regs:=[],plans:=[(9,⟨[0,1,3,5,6,7,9,10,2,4,8,11,12,13,14],[0,1,3,0,15,0,32,96,255,0,512,2047,4095,8191,16383],[(2,[6,10]),(4,[6,10]),(8,[10])],[]⟩),(10,⟨[0,1,2,3,4,5,6,7,8,9,10,11,12],[0,0,2,6,14,0,32,96,224,510,1023,2047,4095],[],[]⟩),(14,⟨[0,1,2,3,4,5,6,7,8,9,10,11],[0,0,2,6,14,0,32,96,254,511,1023,2047],[(6,[4])],[]⟩),(15,⟨[0,1,2,3,4,5,6,7,8,9,10,11,12],[0,0,2,6,14,0,32,96,224,510,1023,2047,4095],[(7,[4])],[]⟩),(20,⟨[0,1,2,3,4,5,6,7,8,9,11,12,15,16,18,19,10,13,14,17,20,21,22,23,24,25],[0,1,3,7,0,16,48,112,0,256,1008,0,2048,8176,16368,0,32768,131056,0,262144,1048575,2097151,4194303,4194303,8388607,33554431],[(10,[3,12,16,19])],[]⟩),(25,⟨[0,1,2,3,4,5,6,7,8,9],[0,1,3,7,0,0,0,64,224,511],[],[]⟩)] }
def Bh7:List Item:=A4 Tryz.f51
def Bp1:List Item:=stk [0,1,0,1,0,1,0,0,1,4,5] Bh7
def Bp0:List Item:=stk [0,1,0,1,0,1,0,1,0,1,0,1,0,0,1,4,5] Bh7
def A86:List Item:=stk [0,1,0,1,0,1,0,1,0,1,0,1,0,1,0,0,1,4,5] Bh7
def A94:List Item:=stk [0,1,0,1,0,1,0,1,0,1,0,1,0,1,0,0,1,4,5,6,0,1,0,1,0,4,0,1,0,1,0,1,4,5] Bh7
theorem Hf0 (C:A1) (R:A2) (c:List Value) (h:H) :
 A5 PR A65 C R H1 Tryz.f51 100000 true Bh7 [(0,.agg ⟨c⟩)] h =
 nw (.cells D5 false c) h fun b w=>gAgg ⟨b,0,none⟩ 5 w fun x=>bnd (C Q2 [.agg ⟨x⟩] w) fun r w1=>aBool r fun x_1=>cond (!x_1)
 (some (.tuple ⟨[.pointer none,.int .i64 1]⟩,w1))
 (gSl (Addr.add ⟨b,0,none⟩ 0) w1 fun x_2 xn xc=>R H1 Bp1 [(1,.pointer (some ⟨b,0,none⟩)),(4,.int .i64 0),(20,.slice x_2 xn xc),(21,.int .i64 ((xn:Nat):Int)),(22,.int .i64 0)] w1):=by kernel_rfl
theorem Ec8 (C:A1) (R:A2) (c:Addr) (all:Int) (x20:Option Addr) (x20n x20c:Nat) (x21:Int) (x22:Int) (h:H) :
 A5 PR A65 C R H1 Tryz.f51 100000 true Bp1 [(1,.pointer (some c)),(4,.int .i64 all),(20,.slice x20 x20n x20c),(21,.int .i64 x21),(22,.int .i64 x22)] h =
 cond (decide (x22<x21))
 (aSome x20 fun p=>ck ((0:Int)≤x22∧x22<((x20n:Nat):Int)) (gInt .i64 (Addr.add (A9 p) (Int.toNat x22*1)) h fun x=>bnd (C A78 [.int .i64 x] h) fun r w=>aInt .i64 r fun x_1=>R H1 Bp1 [(1,.pointer (some c)),(4,.int .i64 (IntKind.wrap .i64 (all+x_1))),(20,.slice x20 x20n x20c),(21,.int .i64 x21),(22,.int .i64 (IntKind.wrap .i64 (x22+1)))] w))
 (gSl (Addr.add c 1) h fun x_2 xn xc=>gSl (Addr.add c 1) h fun x_3 xn_1 xc_1=>gSl (Addr.add c 0) h fun x_4 xn_2 xc_2=>bnd (C V3 [.slice x_2 xn xc] h) fun r_1 w1=>aSl r_1 fun x_5 xn_3 xc_3=>gSl (Addr.add c 1) w1 fun x_6 xn_4 xc_4=>same (.slice x_3 xn_1 xc_1) (.slice x_6 xn_4 xc_4) (gSl (Addr.add c 0) w1 fun x_7 xn_5 xc_5=>same (.slice x_4 xn_2 xc_2) (.slice x_7 xn_5 xc_5) (bnd (C Ds2 [.int .i64 all] w1) fun r_2 w2=>aPtr r_2 fun x_8=>gSl (Addr.add c 1) w2 fun x_9 xn_6 xc_6=>same (.slice x_3 xn_1 xc_1) (.slice x_9 xn_6 xc_6) (gSl (Addr.add c 0) w2 fun x_10 xn_7 xc_7=>same (.slice x_4 xn_2 xc_2) (.slice x_10 xn_7 xc_7) (bnd (C Aw9 [.int .i64 ((xn_1:Nat):Int)] w2) fun r_3 w3=>aPtr r_3 fun x_11=>gSl (Addr.add c 0) w3 fun x_12 xn_8 xc_8=>same (.slice x_4 xn_2 xc_2) (.slice x_12 xn_8 xc_8) (bnd (C Ap3 [.slice x_4 xn_2 xc_2] w3) fun r_4 w4=>aPtr r_4 fun x_13=>nw (.cells Dw3 false [.slice x_5 xn_3 xc_3,.slice none 0 0,.pointer x_8,.pointer x_11,.pointer x_13,.pointer none,.slice none 0 0,.int .i64 0]) w4 fun b w5=>gPtr (Addr.add ⟨b,0,none⟩ 2) w5 fun x_14=>gPtr (Addr.add ⟨b,0,none⟩ 3) w5 fun x_15=>bnd (C Bz6 [.pointer x_14,.pointer x_15] w5) fun r_5 w6=>aPtr r_5 fun x_16=>pV (Addr.add ⟨b,0,none⟩ 5) (.pointer x_16) w6 fun w7=>gSl (Addr.add c 2) w7 fun x_17 xn_9 xc_9=>R H1 Bp0 [(1,.pointer (some c)),(7,.pointer (some ⟨b,0,none⟩)),(58,.slice x_17 xn_9 xc_9),(59,.int .i64 ((xn_9:Nat):Int)),(60,.int .i64 0)] w7)))))):=by kernel_rfl
theorem Eb1 (C:A1) (R:A2) (c:Addr) (k:Addr) (x58:Option Addr) (x58n x58c:Nat) (x59:Int) (x60:Int) (h:H) :
 A5 PR A65 C R H1 Tryz.f51 100000 true Bp0 [(1,.pointer (some c)),(7,.pointer (some k)),(58,.slice x58 x58n x58c),(59,.int .i64 x59),(60,.int .i64 x60)] h =
 cond (decide (x60<x59))
 (aSome x58 fun p=>ck ((0:Int)≤x60∧x60<((x58n:Nat):Int)) (gSl (Addr.add (A9 p) (Int.toNat x60*1)) h fun x xn xc=>gSl (Addr.add k 1) h fun x_1 xn_1 xc_1=>bnd (C V3 [.slice x xn xc] h) fun r w=>aSl r fun x_2 xn_2 xc_2=>gSl (Addr.add k 1) w fun x_3 xn_3 xc_3=>same (.slice x_1 xn_1 xc_1) (.slice x_3 xn_3 xc_3) (nw (.cells O2 false [.slice x_2 xn_2 xc_2]) w fun b w1=>gCells (some ⟨b,0,none⟩) (1*1) w1 fun cs=>ckB (fitsOpen x_1 O2 w1) (apd O2 1 x_1 xn_1 xc_1 1 cs w1 fun a an ac w2=>pV (Addr.add k 1) (.slice a an ac) w2 fun w3=>gSl (Addr.add k 6) w3 fun x_4 xn_4 xc_4=>gInt .i64 (Addr.add c 3) w3 fun x_5=>bnd (C Dh0 [.int .i64 x_5] w3) fun r_1 w4=>aPtr r_1 fun x_6=>gSl (Addr.add k 6) w4 fun x_7 xn_5 xc_5=>same (.slice x_4 xn_4 xc_4) (.slice x_7 xn_5 xc_5) (nw (.cells At8 false [.pointer x_6]) w4 fun b_1 w5=>gCells (some ⟨b_1,0,none⟩) (1*1) w5 fun cs_1=>ckB (fitsOpen x_4 At8 w5) (apd At8 1 x_4 xn_4 xc_4 1 cs_1 w5 fun a_1 an_1 ac_1 w6=>pV (Addr.add k 6) (.slice a_1 an_1 ac_1) w6 fun w7=>R H1 Bp0 [(1,.pointer (some c)),(7,.pointer (some k)),(58,.slice x58 x58n x58c),(59,.int .i64 x59),(60,.int .i64 (IntKind.wrap .i64 (x60+1)))] w7))))))
 (gSl (Addr.add c 4) h fun x_8 xn_6 xc_6=>R H1 A86 [(7,.pointer (some k)),(89,.slice x_8 xn_6 xc_6),(90,.int .i64 ((xn_6:Nat):Int)),(91,.int .i64 0)] h):=by kernel_rfl
theorem Ec6 (C:A1) (R:A2) (k:Addr) (x89:Option Addr) (x89n x89c:Nat) (x90:Int) (x91:Int) (h:H) :
 A5 PR A65 C R H1 Tryz.f51 100000 true A86 [(7,.pointer (some k)),(89,.slice x89 x89n x89c),(90,.int .i64 x90),(91,.int .i64 x91)] h =
 cond (decide (x91<x90))
 (aSome x89 fun p=>ck ((0:Int)≤x91∧x91<((x89n:Nat):Int)) (gAgg (Addr.add (A9 p) (Int.toNat x91*5)) 5 h fun x=>nw (.cells H8 false [.int .i64 0,.int .i64 0,.int .i64 0,.int .i64 0,.slice none 0 0]) h fun b w=>ck (List.length x=5) (pAgg ⟨b,0,none⟩ x w fun w1=>gPtr (Addr.add k 5) w1 fun x_1=>gPtr (Addr.add k 4) w1 fun x_2=>gInt .i64 (Addr.add ⟨b,0,none⟩ 0) w1 fun x_3=>gInt .i64 (Addr.add ⟨b,0,none⟩ 1) w1 fun x_4=>gInt .i64 (Addr.add ⟨b,0,none⟩ 2) w1 fun x_5=>gInt .i64 (Addr.add ⟨b,0,none⟩ 3) w1 fun x_6=>bnd (C O8 [.pointer x_2,.int .i64 x_3] w1) fun r w2=>aInt .i64 r fun x_7=>gPtr (Addr.add k 5) w2 fun x_8=>same (.pointer x_1) (.pointer x_8) (gInt .i64 (Addr.add ⟨b,0,none⟩ 1) w2 fun x_9=>same (.int .i64 x_4) (.int .i64 x_9) (gInt .i64 (Addr.add ⟨b,0,none⟩ 2) w2 fun x_10=>same (.int .i64 x_5) (.int .i64 x_10) (gInt .i64 (Addr.add ⟨b,0,none⟩ 3) w2 fun x_11=>same (.int .i64 x_6) (.int .i64 x_11) (bnd (C An2 [.pointer x_1,.int .i64 (IntKind.wrap .i64 ((IntKind.wrap .i64 ((IntKind.wrap .i64 (x_7+x_4))*64))+x_5)),.int .i64 x_6] w2) fun r_1 w3=>as2 r_1 fun r_2 r_3=>aInt .i64 r_2 fun x_12=>aInt .i64 r_3 fun _=>gSl (Addr.add k 0) w3 fun x_14 xn xc=>R H1 A94 [(7,.pointer (some k)),(11,.pointer (some ⟨b,0,none⟩)),(12,.int .i64 x_12),(89,.slice x89 x89n x89c),(90,.int .i64 x90),(91,.int .i64 x91),(122,.slice x_14 xn xc),(123,.int .i64 ((xn:Nat):Int)),(124,.int .i64 0)] w3)))))))
 (some (.tuple ⟨[.pointer (some k),.int .i64 0]⟩,h)):=by kernel_rfl
theorem Ed1 (C:A1) (R:A2) (k:Addr) (x:Addr) (obj:Int) (x89:Option Addr) (x89n x89c:Nat) (x90:Int) (x91:Int) (x122:Option Addr) (x122n x122c:Nat) (x123:Int) (x124:Int) (h:H) :
 A5 PR A65 C R H1 Tryz.f51 100000 true A94 [(7,.pointer (some k)),(11,.pointer (some x)),(12,.int .i64 obj),(89,.slice x89 x89n x89c),(90,.int .i64 x90),(91,.int .i64 x91),(122,.slice x122 x122n x122c),(123,.int .i64 x123),(124,.int .i64 x124)] h =
 cond (decide (x124<x123))
 (aSome x122 fun p=>ck ((0:Int)≤x124∧x124<((x122n:Nat):Int)) (gInt .i64 (Addr.add (A9 p) (Int.toNat x124*1)) h fun x_1=>gSl (Addr.add x 4) h fun x_2 xn xc=>bnd (C L9 [.slice x_2 xn xc,.int .i64 x_1] h) fun r w=>aBool r fun x_3=>cond x_3
 (gPtr (Addr.add k 3) w fun x_4=>gInt .i64 (Addr.add x 3) w fun x_5=>bnd (C A61 [.pointer x_4,.int .i64 x124,.agg ⟨[.int .i64 obj,.int .i64 3,.int .i64 0,.int .i64 x_5,.int .i64 0,.int .i64 0]⟩] w) fun r_1 w1=>as2 r_1 fun r_2 r_3=>aInt .i64 r_2 fun _=>aInt .i64 r_3 fun _=>R H1 A94 [(7,.pointer (some k)),(11,.pointer (some x)),(12,.int .i64 obj),(89,.slice x89 x89n x89c),(90,.int .i64 x90),(91,.int .i64 x91),(122,.slice x122 x122n x122c),(123,.int .i64 x123),(124,.int .i64 (IntKind.wrap .i64 (x124+1)))] w1)
 (R H1 A94 [(7,.pointer (some k)),(11,.pointer (some x)),(12,.int .i64 obj),(89,.slice x89 x89n x89c),(90,.int .i64 x90),(91,.int .i64 x91),(122,.slice x122 x122n x122c),(123,.int .i64 x123),(124,.int .i64 (IntKind.wrap .i64 (x124+1)))] w)))
 (R H1 A86 [(7,.pointer (some k)),(89,.slice x89 x89n x89c),(90,.int .i64 x90),(91,.int .i64 (IntKind.wrap .i64 (x91+1)))] h):=by kernel_rfl
def Ap7:Cuts:={ globs:=0,loops:=[(4,[1,3,4]),(8,[1,3,5]),(13,[1,3,5,6,7,9])],regs:=[],plans:=[(1,⟨[0,1,2,3,4,5,6],[0,0,2,6,15,31,63],[(3,[0])],[]⟩),(2,⟨[0,1,2,3,4,5,6,7,11,12,13,8,9,10,14,15,16,17,18,19],[0,0,2,6,14,0,32,96,254,510,1022,0,2048,6144,14846,32766,65534,131071,262143,524287],[(8,[12])],[]⟩),(6,⟨[0,1,2,3,4,5,6,7,8,9,10,11,12],[0,0,2,6,14,0,32,96,224,510,1023,2047,4095],[(7,[4])],[]⟩),(11,⟨[0,1,2,3,4,5,6,7,8,9,11,12,15,16,18,19,10,13,14,17,20,21,22,23,24,25],[0,1,3,7,0,16,48,112,0,256,1008,0,2048,8176,16368,0,32768,131056,0,262144,1048575,2097151,4194303,4194303,8388607,33554431],[(10,[3,12,16,19])],[]⟩),(15,⟨[0,1,2,3,4,5,6,7],[0,1,0,4,0,28,60,127],[],[]⟩),(16,⟨[0,1,2,3,4,5,6,7,8,9,10,11,12],[0,1,3,7,15,31,63,0,0,0,512,1792,4095],[],[]⟩)] }
def A38:List Item:=A4 Tryz.f52
def A02:List Item:=stk [0,1,0,1,0,1,0,0,1,4,5] A38
def Ak7:List Item:=stk [0,1,0,1,0,1,0,1,0,0,1,4,5] A38
def Al2:List Item:=stk [0,1,0,1,0,1,0,1,0,0,1,4,5,6,0,1,0,4,0,1,0,1,0,1,4,5] A38
theorem Ge8 (C:A1) (R:A2) (b:List Value) (h:H) :
 A5 PR Ap7 C R E5 Tryz.f52 100000 true A38 [(0,.agg ⟨b⟩)] h =
 nw (.cells D5 false b) h fun b_1 w=>gAgg ⟨b_1,0,none⟩ 5 w fun x=>gSl (Addr.add ⟨b_1,0,none⟩ 0) w fun x_1 xn xc=>bnd (C Y7 [.slice x_1 xn xc] w) fun r w1=>aPtr r fun x_2=>gAgg ⟨b_1,0,none⟩ 5 w1 fun x_3=>same (.agg ⟨x⟩) (.agg ⟨x_3⟩) (ck (List.length x=5) (nw (.cells Ew1 false (x++(.pointer x_2::(.pointer none::(.slice none 0 0::[.int .i64 0]))))) w1 fun b_2 w2=>gPtr (Addr.add ⟨b_2,0,none⟩ 5) w2 fun x_4=>gSl (Addr.add ⟨b_1,0,none⟩ 0) w2 fun _ xn_1 _=>gSl (Addr.add ⟨b_1,0,none⟩ 1) w2 fun x_6 xn_2 xc_2=>bnd (C N0 [.pointer x_4,.int .i64 ((xn_1:Nat):Int)] w2) fun r_1 w3=>aInt .i64 r_1 fun x_7=>gSl (Addr.add ⟨b_1,0,none⟩ 1) w3 fun x_8 xn_3 xc_3=>same (.slice x_6 xn_2 xc_2) (.slice x_8 xn_3 xc_3) (ck ((0:Int)≤IntKind.wrap .i64 (64*x_7)∧(IntKind.wrap .i64 (64*x_7):Int)≤IntKind.wrap .i64 (64*x_7)∧IntKind.wrap .i64 (64*x_7)≤(A8:Int)) (nw (.cells A3 false (G7 (Int.toNat (IntKind.wrap .i64 (64*x_7))) [.int .u8 0])) w3 fun b_3 w4=>bnd (C Y6 [.int .i64 ((xn_2:Nat):Int)] w4) fun r_2 w5=>aPtr r_2 fun x_9=>nw (.cells D02 false [.slice (some ⟨b_3,0,none⟩) (Int.toNat (IntKind.wrap .i64 (64*x_7))) (Int.toNat (IntKind.wrap .i64 (64*x_7))),.slice none 0 0,.slice none 0 0,.pointer x_9]) w5 fun b_4 w6=>pV (Addr.add ⟨b_2,0,none⟩ 6) (.pointer (some ⟨b_4,0,none⟩)) w6 fun w7=>R E5 A02 [(1,.pointer (some ⟨b_1,0,none⟩)),(3,.pointer (some ⟨b_2,0,none⟩)),(4,.int .i64 0)] w7)))):=by kernel_rfl
theorem Dd4 (C:A1) (R:A2) (b:Addr) (k:Addr) (i:Int) (h:H) :
 A5 PR Ap7 C R E5 Tryz.f52 100000 true A02 [(1,.pointer (some b)),(3,.pointer (some k)),(4,.int .i64 i)] h =
 gSl (Addr.add b 2) h fun _ xn _=>cond (decide (i<((xn:Nat):Int)))
 (gSl (Addr.add k 7) h fun x_1 xn_1 xc_1=>gInt .i64 (Addr.add b 3) h fun x_2=>bnd (C Bi3 [.int .i64 x_2] h) fun r w=>aPtr r fun x_3=>gSl (Addr.add k 7) w fun x_4 xn_2 xc_2=>same (.slice x_1 xn_1 xc_1) (.slice x_4 xn_2 xc_2) (nw (.cells A82 false [.pointer x_3]) w fun b_1 w1=>gCells (some ⟨b_1,0,none⟩) (1*1) w1 fun cs=>ckB (fitsOpen x_1 A82 w1) (apd A82 1 x_1 xn_1 xc_1 1 cs w1 fun a an ac w2=>pV (Addr.add k 7) (.slice a an ac) w2 fun w3=>R E5 A02 [(1,.pointer (some b)),(3,.pointer (some k)),(4,.int .i64 (IntKind.wrap .i64 (i+1)))] w3)))
 (R E5 Ak7 [(1,.pointer (some b)),(3,.pointer (some k)),(5,.int .i64 0)] h):=by kernel_rfl
theorem Dd3 (C:A1) (R:A2) (b:Addr) (k:Addr) (i:Int) (h:H) :
 A5 PR Ap7 C R E5 Tryz.f52 100000 true Ak7 [(1,.pointer (some b)),(3,.pointer (some k)),(5,.int .i64 i)] h =
 gSl (Addr.add b 4) h fun _ xn _=>cond (decide (i<((xn:Nat):Int)))
 (gSl (Addr.add b 4) h fun x_1 xn_1 _=>aSome x_1 fun p=>ck ((0:Int)≤i∧i<((xn_1:Nat):Int)) (gAgg (Addr.add (A9 p) (Int.toNat i*5)) 5 h fun x_2=>nw (.cells H8 false [.int .i64 0,.int .i64 0,.int .i64 0,.int .i64 0,.slice none 0 0]) h fun b_1 w=>ck (List.length x_2=5) (pAgg ⟨b_1,0,none⟩ x_2 w fun w1=>gPtr (Addr.add k 6) w1 fun x_3=>gPtr (Addr.add k 5) w1 fun x_4=>gInt .i64 (Addr.add ⟨b_1,0,none⟩ 0) w1 fun x_5=>gInt .i64 (Addr.add ⟨b_1,0,none⟩ 1) w1 fun x_6=>gInt .i64 (Addr.add ⟨b_1,0,none⟩ 2) w1 fun x_7=>gInt .i64 (Addr.add ⟨b_1,0,none⟩ 3) w1 fun x_8=>bnd (C N0 [.pointer x_4,.int .i64 x_5] w1) fun r w2=>aInt .i64 r fun x_9=>gPtr (Addr.add k 6) w2 fun x_10=>same (.pointer x_3) (.pointer x_10) (gInt .i64 (Addr.add ⟨b_1,0,none⟩ 1) w2 fun x_11=>same (.int .i64 x_6) (.int .i64 x_11) (gInt .i64 (Addr.add ⟨b_1,0,none⟩ 2) w2 fun x_12=>same (.int .i64 x_7) (.int .i64 x_12) (gInt .i64 (Addr.add ⟨b_1,0,none⟩ 3) w2 fun x_13=>same (.int .i64 x_8) (.int .i64 x_13) (bnd (C Aw3 [.pointer x_3,.int .i64 (IntKind.wrap .i64 ((IntKind.wrap .i64 (64*(IntKind.wrap .i64 (x_9+x_6))))+x_7)),.int .i64 x_8] w2) fun r_1 w3=>as2 r_1 fun r_2 r_3=>aInt .i64 r_2 fun x_14=>aInt .i64 r_3 fun _=>R E5 Al2 [(1,.pointer (some b)),(3,.pointer (some k)),(5,.int .i64 i),(6,.pointer (some ⟨b_1,0,none⟩)),(7,.int .i64 x_14),(9,.int .i64 0)] w3)))))))
 (some (.pointer (some k),h)):=by kernel_rfl
theorem Dd5 (C:A1) (R:A2) (b:Addr) (k:Addr) (i:Int) (s:Addr) (obj:Int) (e:Int) (h:H) :
 A5 PR Ap7 C R E5 Tryz.f52 100000 true Al2 [(1,.pointer (some b)),(3,.pointer (some k)),(5,.int .i64 i),(6,.pointer (some s)),(7,.int .i64 obj),(9,.int .i64 e)] h =
 gSl (Addr.add b 1) h fun _ xn _=>cond (decide (e<((xn:Nat):Int)))
 (gSl (Addr.add s 4) h fun x_1 xn_1 xc_1=>gSl (Addr.add b 1) h fun x_2 xn_2 _=>aSome x_2 fun p=>ck ((0:Int)≤e∧e<((xn_2:Nat):Int)) (gInt .i64 (Addr.add (A9 p) (Int.toNat e*1)) h fun x_3=>bnd (C A40 [.slice x_1 xn_1 xc_1,.int .i64 x_3] h) fun r w=>aBool r fun x_4=>cond x_4
 (gPtr (Addr.add k 6) w fun x_5=>aSome x_5 fun p_1=>gPtr (Addr.add p_1 3) w fun x_6=>gInt .i64 (Addr.add s 3) w fun x_7=>bnd (C A43 [.pointer x_6,.int .i64 e,.agg ⟨[.int .i64 obj,.int .i64 3,.int .i64 0,.int .i64 x_7,.int .i64 0,.int .i64 0]⟩] w) fun r_1 w1=>as2 r_1 fun r_2 r_3=>aInt .i64 r_2 fun _=>aInt .i64 r_3 fun _=>R E5 Al2 [(1,.pointer (some b)),(3,.pointer (some k)),(5,.int .i64 i),(6,.pointer (some s)),(7,.int .i64 obj),(9,.int .i64 (IntKind.wrap .i64 (e+1)))] w1)
 (R E5 Al2 [(1,.pointer (some b)),(3,.pointer (some k)),(5,.int .i64 i),(6,.pointer (some s)),(7,.int .i64 obj),(9,.int .i64 (IntKind.wrap .i64 (e+1)))] w)))
 (R E5 Ak7 [(1,.pointer (some b)),(3,.pointer (some k)),(5,.int .i64 (IntKind.wrap .i64 (i+1)))] h):=by kernel_rfl
def Bd4:Cuts:={ globs:=0,loops:=[],regs:=[],plans:=[] }
def B72:List Item:=A4 Tryz.f55
theorem En0 (C:A1) (R:A2) (k:Option Addr) (env:Int) (h:H) :
 A5 PR Bd4 C R Av9 Tryz.f55 100000 true B72 [(0,.pointer k),(1,.int .i64 env)] h =
 aSome k fun p=>gPtr (Addr.add p 6) h fun x=>aSome x fun p_1=>gPtr (Addr.add p_1 3) h fun x_1=>bnd (C A57 [.pointer x_1,.int .i64 env] h) fun r w=>aSl r fun x_2 xn xc=>cond (((xn:Nat):Int)==0)
 (some (.pointer none,w))
 (nw (.cells Dr2 false [.pointer k,.int .i64 env,.slice x_2 xn xc,.slice none 0 0]) w fun b w1=>some (.pointer (some ⟨b,0,none⟩),w1)):=by kernel_rfl
def Bk7:Cuts:={ globs:=0,loops:=[],regs:=[],plans:=[] }
def Dd6:List Item:=A4 Tryz.f56
theorem Es7 (C:A1) (R:A2) (k:Option Addr) (h:H) :
 A5 PR Bk7 C R Ak9 Tryz.f56 100000 true Dd6 [(0,.pointer k)] h =
 aSome k fun p=>gPtr (Addr.add p 3) h fun x=>some (.pointer x,h):=by kernel_rfl
def Bg8:Cuts:={ globs:=0,loops:=[],regs:=[],plans:=[] }
def B73:List Item:=A4 Tryz.f57
theorem Ef4 (C:A1) (R:A2) (s:Option Addr) (env:Int) (h:H) :
 A5 PR Bg8 C R Aj2 Tryz.f57 100000 true B73 [(0,.pointer s),(1,.int .i64 env)] h =
 bnd (C Ad5 [.pointer s,.int .i64 env] h) fun r w=>aBool r fun x=>cond (!x)
 (some (.slice none 0 0,w))
 (aSome s fun p=>gSl (Addr.add p 0) w fun x_1 xn _=>aSome x_1 fun p_1=>ck ((0:Int)≤env∧env<((xn:Nat):Int)) (gPtr (Addr.add (A9 p_1) (Int.toNat env*1)) w fun x_2=>bnd (C E3 [.pointer x_2] w) fun r_1 w1=>aSl r_1 fun x_3 xn_1 xc_1=>some (.slice x_3 xn_1 xc_1,w1))):=by kernel_rfl
def Ax3:Cuts:={ globs:=0,loops:=[],regs:=[],plans:=[] }
def Bo3:List Item:=A4 Tryz.f63
theorem Dx0 (C:A1) (R:A2) (c:Option Addr) (kind:Int) (h:H) :
 A5 PR Ax3 C R Aa1 Tryz.f63 100000 true Bo3 [(0,.pointer c),(1,.int .i64 kind)] h =
 cond (kind==1)
 (some (.int .i64 8,h))
 (cond (kind==2)
 (some (.int .i64 12,h))
 (cond (kind==3)
 (aSome c fun p=>gSl (Addr.add p 2) h fun _ xn _=>some (.int .i64 (IntKind.wrap .i64 ((IntKind.wrap .i64 (4+((xn:Nat):Int)))-1)),h))
 (some (.int .i64 1,h)))):=by kernel_rfl
def Bd5:Cuts:={ globs:=0,loops:=[],regs:=[],plans:=[(3,⟨[0,1,2,3,4,5,6,7,8,9,10,11,12,13,14,15,16,17,18,19],[0,1,3,7,0,0,32,0,128,0,512,0,2048,0,8192,32767,65535,65535,262143,524287],[],[]⟩),(5,⟨[0,1,2,3,4,5,6,7,8,9,10,11],[0,1,3,7,0,0,32,127,255,255,1023,2047],[],[]⟩),(7,⟨[0,1,2,3,4,5,6,7,8,9,10,11,12,13,14,15],[0,1,3,7,0,16,48,112,0,496,1008,2047,4095,4095,16383,32767],[],[]⟩),(9,⟨[0,1,2,3,4,5,6,7,8,9,10,11,12,13,14,15],[0,1,3,7,0,16,48,112,0,496,1008,0,2048,8191,16383,32767],[],[]⟩)] }
def Da5:List Item:=A4 Tryz.f68
theorem Ej0 (C:A1) (R:A2) (k:Option Addr) (env:Int) (c:List Value) (h:H) :
 A5 PR Bd5 C R Av0 Tryz.f68 100000 true Da5 [(0,.pointer k),(1,.int .i64 env),(2,.agg ⟨c⟩)] h =
 nw (.cells Av5 false c) h fun b w=>gInt .i64 (Addr.add ⟨b,0,none⟩ 0) w fun x=>cond (x==4)
 (aSome k fun p=>gPtr (Addr.add p 3) w fun x_1=>gInt .i64 (Addr.add ⟨b,0,none⟩ 1) w fun x_2=>gInt .i64 (Addr.add ⟨b,0,none⟩ 4) w fun x_3=>gInt .i64 (Addr.add ⟨b,0,none⟩ 5) w fun x_4=>gInt .i64 (Addr.add ⟨b,0,none⟩ 2) w fun x_5=>gInt .i64 (Addr.add ⟨b,0,none⟩ 3) w fun x_6=>bnd (C Av6 [.pointer x_1,.int .i64 env,.int .i64 x_2,.int .i64 x_3,.int .i64 x_4,.int .i64 x_5,.int .i64 x_6] w) fun r w1=>as2 r fun r_1 r_2=>aInt .i64 r_1 fun x_7=>aInt .i64 r_2 fun x_8=>some (.tuple ⟨[.int .i64 x_7,.int .i64 x_8]⟩,w1))
 (cond (x==5)
 (aSome k fun p_1=>gPtr (Addr.add p_1 3) w fun x_9=>gInt .i64 (Addr.add ⟨b,0,none⟩ 1) w fun x_10=>bnd (C Ed3 [.pointer x_9,.int .i64 env,.int .i64 x_10] w) fun r_3 w2=>as2 r_3 fun r_4 r_5=>aInt .i64 r_4 fun x_11=>aInt .i64 r_5 fun x_12=>some (.tuple ⟨[.int .i64 x_11,.int .i64 x_12]⟩,w2))
 (cond (x==6)
 (aSome k fun p_2=>gPtr (Addr.add p_2 4) w fun x_13=>aSome k fun p_3=>gSl (Addr.add p_3 0) w fun x_14 xn _=>aSome x_14 fun p_4=>ck ((0:Int)≤env∧env<((xn:Nat):Int)) (gInt .i64 (Addr.add (A9 p_4) (Int.toNat env*1)) w fun x_15=>bnd (C As4 [.pointer x_13,.int .i64 x_15] w) fun r_6 w3=>as2 r_6 fun r_7 r_8=>aInt .i64 r_7 fun x_16=>aInt .i64 r_8 fun x_17=>some (.tuple ⟨[.int .i64 x_16,.int .i64 x_17]⟩,w3)))
 (cond (x==7)
 (aSome k fun p_5=>gPtr (Addr.add p_5 4) w fun x_18=>aSome k fun p_6=>gSl (Addr.add p_6 0) w fun x_19 xn_1 _=>aSome x_19 fun p_7=>ck ((0:Int)≤env∧env<((xn_1:Nat):Int)) (gInt .i64 (Addr.add (A9 p_7) (Int.toNat env*1)) w fun x_20=>gInt .i64 (Addr.add ⟨b,0,none⟩ 3) w fun x_21=>bnd (C Aw8 [.pointer x_18,.int .i64 x_20,.int .i64 x_21] w) fun r_9 w4=>aInt .i64 r_9 fun x_22=>some (.tuple ⟨[.int .i64 0,.int .i64 x_22]⟩,w4)))
 (cond (x==8)
 (gAgg ⟨b,0,none⟩ 7 w fun x_23=>bnd (C Az7 [.pointer k,.int .i64 env,.agg ⟨x_23⟩] w) fun r_10 w5=>as2 r_10 fun r_11 r_12=>aInt .i64 r_11 fun x_24=>aInt .i64 r_12 fun x_25=>some (.tuple ⟨[.int .i64 x_24,.int .i64 x_25]⟩,w5))
 (cond (x==9)
 (gAgg ⟨b,0,none⟩ 7 w fun x_26=>bnd (C Az6 [.pointer k,.int .i64 env,.agg ⟨x_26⟩] w) fun r_13 w6=>aInt .i64 r_13 fun x_27=>some (.tuple ⟨[.int .i64 0,.int .i64 x_27]⟩,w6))
 (cond (x==10)
 (aSome k fun p_8=>gInt .i64 (Addr.add p_8 7) w fun x_28=>some (.tuple ⟨[.int .i64 x_28,.int .i64 0]⟩,w))
 (some (.tuple ⟨[.int .i64 0,.int .i64 7]⟩,w)))))))):=by kernel_rfl
def B47:Cuts:={ globs:=0,loops:=[],regs:=[],plans:=[] }
def Dz9:List Item:=A4 Tryz.f75
theorem Ge6 (C:A1) (R:A2) (i:Int) (h:H) :
 A5 PR B47 C R Ap9 Tryz.f75 100000 true Dz9 [(0,.int .i64 i)] h =
 nw (.cells D2 false [.int .i64 0,.int .i64 0]) h fun b w=>pAgg ⟨b,0,none⟩ [.int .i64 2,.int .i64 i] w fun w1=>gAgg ⟨b,0,none⟩ 2 w1 fun x=>some (.agg ⟨x⟩,w1):=by kernel_rfl
def B45:Cuts:={ globs:=0,loops:=[],regs:=[],plans:=[] }
def Dy5:List Item:=A4 Tryz.f79
theorem Gh2 (C:A1) (R:A2) (m:Option Addr) (atv:Int) (n:Int) (h:H) :
 A5 PR B45 C R Bh6 Tryz.f79 100000 true Dy5 [(0,.pointer m),(1,.int .i64 atv),(2,.int .i64 n)] h =
 bnd (C Bd6 [.pointer m,.int .i64 atv,.int .i64 n] h) fun r w=>aBool r fun x=>cond (!x)
 (some (.tuple ⟨[.slice none 0 0,.int .i64 1]⟩,w))
 (aSome m fun p=>gSl (Addr.add p 0) w fun x_1 _ xc=>ckB (fitsOpen x_1 A3 w) (ck ((0:Int)≤IntKind.wrap .i64 (atv+n)∧IntKind.wrap .i64 (atv+n)≤((xc:Nat):Int)) (ck ((0:Int)≤atv∧atv≤((Int.toNat (IntKind.wrap .i64 (atv+n)):Nat):Int)) (bnd (C E8 [.slice (H4 x_1 (decide (Int.toNat atv<xc)) ((Int.toNat atv)*1)) ((Int.toNat (IntKind.wrap .i64 (atv+n)))-(Int.toNat atv)) (xc-(Int.toNat atv))] w) fun r_1 w1=>aSl r_1 fun x_2 xn_1 xc_1=>some (.tuple ⟨[.slice x_2 xn_1 xc_1,.int .i64 0]⟩,w1))))):=by kernel_rfl
def Dv4:Cuts:={ globs:=0,loops:=[],regs:=[],plans:=[] }
def Ex5:List Item:=A4 Tryz.f80
theorem G66 (C:A1) (R:A2) (e:Int) (h:H) :
 A5 PR Dv4 C R B65 Tryz.f80 100000 true Ex5 [(0,.int .i64 e)] h =
 nw (.cells L8 false [.int .i64 0,.int .i64 0,.slice none 0 0,.bool false]) h fun b w=>pAgg ⟨b,0,none⟩ [.int .i64 0,.int .i64 e,.slice none 0 0,.bool false] w fun w1=>gAgg ⟨b,0,none⟩ 4 w1 fun x=>some (.agg ⟨x⟩,w1):=by kernel_rfl
def Df7:Cuts:={ globs:=0,loops:=[(3,[0,1,2,7,8])],regs:=[],plans:=[] }
def D87:List Item:=A4 Tryz.f99
def A76:List Item:=stk [0,1,0,1,0,0,1,4,5] D87
theorem Hl2 (C:A1) (R:A2) (n:Int) (want:Int) (isv:Value) (h:H) :
 A5 PR Df7 C R V9 Tryz.f99 100000 true D87 [(0,.int .i64 n),(1,.int .i64 want),(2,isv)] h =
 R V9 A76 [(0,.int .i64 n),(1,.int .i64 want),(2,isv),(7,.slice none 0 0),(8,.int .i64 0)] h:=by kernel_rfl
theorem Dc0 (C:A1) (R:A2) (n:Int) (want:Int) (isv:Value) (out:Option Addr) (outn outc:Nat) (i:Int) (h:H) :
 A5 PR Df7 C R V9 Tryz.f99 100000 true A76 [(0,.int .i64 n),(1,.int .i64 want),(2,isv),(7,.slice out outn outc),(8,.int .i64 i)] h =
 bnd (cond (decide (i<n)) (some (decide (((outn:Nat):Int)<want),h)) (some (false,h))) fun c w=>cond c
 (aFn isv fun g fi cp=>bnd (C g (fi++([.int .i64 i]++cp)) w) fun r w1=>aBool r fun x=>cond x
 (nw (.cells B2 false [.int .i64 i]) w1 fun b w2=>gCells (some ⟨b,0,none⟩) (1*1) w2 fun cs=>ckB (fitsOpen out B2 w2) (apd B2 1 out outn outc 1 cs w2 fun a an ac w3=>R V9 A76 [(0,.int .i64 n),(1,.int .i64 want),(2,isv),(7,.slice a an ac),(8,.int .i64 (IntKind.wrap .i64 (i+1)))] w3))
 (R V9 A76 [(0,.int .i64 n),(1,.int .i64 want),(2,isv),(7,.slice out outn outc),(8,.int .i64 (IntKind.wrap .i64 (i+1)))] w1))
 (some (.slice out outn outc,w)):=by kernel_rfl
def A47:Cuts:={ globs:=0,loops:=[],regs:=[(18,[0,5,7])],plans:=[] }
def Br5:List Item:=A4 Tryz.f107
def As0:List Item:=stk [0,1,0,1,0,1,0,1,0,1,0,1,0,1,0,1,0,1,0,1,0,0] Br5
theorem E34 (C:A1) (R:A2) (c:Option Addr) (f:Int) (h:H) :
 A5 PR A47 C R V6 Tryz.f107 100000 true Br5 [(0,.pointer c),(1,.int .i64 f)] h =
 bnd (C B7 [.pointer c] h) fun r w=>as0 r (bnd (C J7 [.pointer c,.int .i64 f] w) fun r_1 w1=>as2 r_1 fun r_2 r_3=>aAgg r_2 fun x=>aInt .i64 r_3 fun x_1=>nw (.cells D4 false [.int .i64 0,.int .i64 0,.int .i64 0,.int .i64 0]) w1 fun b w2=>ck (List.length x=4) (pAgg ⟨b,0,none⟩ x w2 fun w3=>cond (x_1 != 1)
 (some (.int .i64 105,w3))
 (gInt .i64 (Addr.add ⟨b,0,none⟩ 2) w3 fun x_2=>pV (Addr.add ⟨b,0,none⟩ 2) (.int .i64 (IntKind.wrap .i64 (x_2-1))) w3 fun w4=>gInt .i64 (Addr.add ⟨b,0,none⟩ 2) w4 fun x_3=>cond (decide (x_3>0))
 (gAgg ⟨b,0,none⟩ 4 w4 fun x_4=>bnd (C J0 [.pointer c,.int .i64 f,.agg ⟨x_4⟩] w4) fun r_4 w5=>aBool r_4 fun x_5=>bnd (C Ba1 [.bool x_5,.int .i64 0] w5) fun r_5 w6=>aAgg r_5 fun x_6=>nth x_6 1 fun E=>aInt .i64 E fun E_1=>some (.int .i64 E_1,w6))
 (bnd (C Aa5 [.pointer c,.int .i64 f] w4) fun r_6 w7=>aBool r_6 fun x_7=>cond (!x_7)
 (some (.int .i64 105,w7))
 (gInt .i64 (Addr.add ⟨b,0,none⟩ 0) w7 fun x_8=>cond (x_8==3)
 (some (.int .i64 0,w7))
 (gInt .i64 (Addr.add ⟨b,0,none⟩ 1) w7 fun x_9=>bnd (C O0 [.pointer c,.int .i64 x_9] w7) fun r_7 w8=>as2 r_7 fun r_8 r_9=>aAgg r_8 fun x_10=>aInt .i64 r_9 fun x_11=>nw (.cells G8 false [.int .i64 0,.int .i64 0,.int .i64 0,.int .i64 0,.int .u8 0,.int .u8 0,.int .u8 0,.int .u8 0,.int .u8 0,.int .u8 0,.int .u8 0,.int .u8 0,.int .u8 0,.int .u8 0,.int .u8 0,.int .u8 0,.int .u8 0,.int .u8 0,.int .u8 0,.int .u8 0,.int .u8 0,.int .u8 0,.int .u8 0,.int .u8 0,.int .u8 0,.int .u8 0,.int .u8 0,.int .u8 0,.int .u8 0,.int .u8 0,.int .u8 0,.int .u8 0,.int .u8 0,.int .u8 0,.int .u8 0,.int .u8 0]) w8 fun b_1 w9=>ck (List.length x_10=36) (pAgg ⟨b_1,0,none⟩ x_10 w9 fun w10=>cond (x_11 != 1)
 (some (.int .i64 105,w10))
 (gInt .i64 (Addr.add ⟨b,0,none⟩ 0) w10 fun x_12=>cond (x_12==1)
 (gInt .i64 (Addr.add ⟨b_1,0,none⟩ 2) w10 fun x_13=>pV (Addr.add ⟨b_1,0,none⟩ 2) (.int .i64 (mm2 true (IntKind.wrap .i64 (x_13-1)) 0)) w10 fun w11=>R V6 As0 [(0,.pointer c),(5,.pointer (some ⟨b,0,none⟩)),(7,.pointer (some ⟨b_1,0,none⟩))] w11)
 (gInt .i64 (Addr.add ⟨b_1,0,none⟩ 3) w10 fun x_14=>pV (Addr.add ⟨b_1,0,none⟩ 3) (.int .i64 (mm2 true (IntKind.wrap .i64 (x_14-1)) 0)) w10 fun w12=>R V6 As0 [(0,.pointer c),(5,.pointer (some ⟨b,0,none⟩)),(7,.pointer (some ⟨b_1,0,none⟩))] w12))))))))):=by kernel_rfl
theorem Ed2 (C:A1) (R:A2) (c:Option Addr) (x:Addr) (p:Addr) (h:H) :
 A5 PR A47 C R V6 Tryz.f107 100000 true As0 [(0,.pointer c),(5,.pointer (some x)),(7,.pointer (some p))] h =
 gInt .i64 (Addr.add p 2) h fun x_1=>gInt .i64 (Addr.add p 3) h fun x_2=>bnd (cond ((IntKind.wrap .i64 (x_1+x_2))==0) (gInt .i64 (Addr.add x 1) h fun x_3=>some (decide (x_3<4),h)) (some (false,h))) fun c_1 w=>cond c_1
 (gInt .i64 (Addr.add x 1) w fun x_4=>bnd (C Aa3 [.pointer c,.int .i64 x_4] w) fun r w1=>aBool r fun x_5=>bnd (C Ba1 [.bool x_5,.int .i64 0] w1) fun r_1 w2=>aAgg r_1 fun x_6=>nth x_6 1 fun E=>aInt .i64 E fun E_1=>some (.int .i64 E_1,w2))
 (gInt .i64 (Addr.add x 1) w fun x_7=>gAgg p 36 w fun x_8=>bnd (C S7 [.pointer c,.int .i64 x_7,.agg ⟨x_8⟩] w) fun r_2 w3=>aBool r_2 fun x_9=>bnd (C Ba1 [.bool x_9,.int .i64 0] w3) fun r_3 w4=>aAgg r_3 fun x_10=>nth x_10 1 fun E_2=>aInt .i64 E_2 fun E_3=>some (.int .i64 E_3,w4)):=by kernel_rfl
def Be2:Cuts:={ globs:=0,loops:=[(7,[1,3,52,53,54]),(13,[1,3,63,64,65])],regs:=[],plans:=[] }
def Bv3:List Item:=A4 Tryz.f110
def Bc4:List Item:=stk [0,1,0,1,0,1,0,1,0,0,1,4,5] Bv3
def Bd3:List Item:=stk [0,1,0,1,0,1,0,1,0,1,0,0,1,4,5] Bv3
theorem Gz8 (C:A1) (R:A2) (c:List Value) (h:H) :
 A5 PR Be2 C R Q2 Tryz.f110 100000 true Bv3 [(0,.agg ⟨c⟩)] h =
 nw (.cells D5 false c) h fun b w=>gSl (Addr.add ⟨b,0,none⟩ 0) w fun _ xn _=>bnd (cond (decide (((xn:Nat):Int)<1)) (some (true,w)) (gSl (Addr.add ⟨b,0,none⟩ 0) w fun _ xn_1 _=>some (decide (((xn_1:Nat):Int)>4),w))) fun c_1 w1=>bnd (cond c_1 (some (true,w1)) (gSl (Addr.add ⟨b,0,none⟩ 1) w1 fun _ xn_2 _=>some (decide (((xn_2:Nat):Int)>40),w1))) fun c_2 w2=>bnd (cond c_2 (some (true,w2)) (gSl (Addr.add ⟨b,0,none⟩ 2) w2 fun _ xn_3 _=>some (decide (((xn_3:Nat):Int)>8),w2))) fun c_3 w3=>bnd (cond c_3 (some (true,w3)) (gSl (Addr.add ⟨b,0,none⟩ 4) w3 fun _ xn_4 _=>some (decide (((xn_4:Nat):Int)>16),w3))) fun c_4 w4=>bnd (cond c_4 (some (true,w4)) (gInt .i64 (Addr.add ⟨b,0,none⟩ 3) w4 fun x_5=>some (decide (x_5<1),w4))) fun c_5 w5=>bnd (cond c_5 (some (true,w5)) (gInt .i64 (Addr.add ⟨b,0,none⟩ 3) w5 fun x_6=>some (decide (x_6>1000),w5))) fun c_6 w6=>cond c_6
 (some (.bool false,w6))
 (gSl (Addr.add ⟨b,0,none⟩ 1) w6 fun x_7 xn_5 xc_5=>bnd (C E0 [.slice x_7 xn_5 xc_5,.func (.func G0) ⟨[]⟩ ⟨[.pointer (some ⟨b,0,none⟩)]⟩] w6) fun r w7=>aBool r fun x_8=>cond x_8
 (some (.bool false,w7))
 (gSl (Addr.add ⟨b,0,none⟩ 2) w7 fun x_9 xn_6 xc_6=>R Q2 Bc4 [(1,.pointer (some ⟨b,0,none⟩)),(3,.func (.func G0) ⟨[]⟩ ⟨[.pointer (some ⟨b,0,none⟩)]⟩),(52,.slice x_9 xn_6 xc_6),(53,.int .i64 ((xn_6:Nat):Int)),(54,.int .i64 0)] w7)):=by kernel_rfl
theorem Dt2 (C:A1) (R:A2) (c:Addr) (nonev:Addr) (x52:Option Addr) (x52n x52c:Nat) (x53:Int) (x54:Int) (h:H) :
 A5 PR Be2 C R Q2 Tryz.f110 100000 true Bc4 [(1,.pointer (some c)),(3,.func (.func G0) ⟨[]⟩ ⟨[.pointer (some nonev)]⟩),(52,.slice x52 x52n x52c),(53,.int .i64 x53),(54,.int .i64 x54)] h =
 cond (decide (x54<x53))
 (aSome x52 fun p=>ck ((0:Int)≤x54∧x54<((x52n:Nat):Int)) (gSl (Addr.add (A9 p) (Int.toNat x54*1)) h fun x xn xc=>bnd (C E0 [.slice x xn xc,.func (.func G0) ⟨[]⟩ ⟨[.pointer (some nonev)]⟩] h) fun r w=>aBool r fun x_1=>cond x_1
 (some (.bool false,w))
 (R Q2 Bc4 [(1,.pointer (some c)),(3,.func (.func G0) ⟨[]⟩ ⟨[.pointer (some nonev)]⟩),(52,.slice x52 x52n x52c),(53,.int .i64 x53),(54,.int .i64 (IntKind.wrap .i64 (x54+1)))] w)))
 (gSl (Addr.add c 4) h fun x_2 xn_1 xc_1=>R Q2 Bd3 [(1,.pointer (some c)),(3,.func (.func G0) ⟨[]⟩ ⟨[.pointer (some nonev)]⟩),(63,.slice x_2 xn_1 xc_1),(64,.int .i64 ((xn_1:Nat):Int)),(65,.int .i64 0)] h):=by kernel_rfl
theorem Dt4 (C:A1) (R:A2) (c:Addr) (nonev:Addr) (x63:Option Addr) (x63n x63c:Nat) (x64:Int) (x65:Int) (h:H) :
 A5 PR Be2 C R Q2 Tryz.f110 100000 true Bd3 [(1,.pointer (some c)),(3,.func (.func G0) ⟨[]⟩ ⟨[.pointer (some nonev)]⟩),(63,.slice x63 x63n x63c),(64,.int .i64 x64),(65,.int .i64 x65)] h =
 cond (decide (x65<x64))
 (aSome x63 fun p=>ck ((0:Int)≤x65∧x65<((x63n:Nat):Int)) (gAgg (Addr.add (A9 p) (Int.toNat x65*5)) 5 h fun x=>nw (.cells H8 false [.int .i64 0,.int .i64 0,.int .i64 0,.int .i64 0,.slice none 0 0]) h fun b w=>ck (List.length x=5) (pAgg ⟨b,0,none⟩ x w fun w1=>gAgg c 5 w1 fun x_1=>gAgg ⟨b,0,none⟩ 5 w1 fun x_2=>bnd (C Bw2 [.agg ⟨x_1⟩,.agg ⟨x_2⟩] w1) fun r w2=>aBool r fun x_3=>bnd (cond (!x_3) (some (true,w2)) (gSl (Addr.add ⟨b,0,none⟩ 4) w2 fun x_4 xn xc=>bnd (C E0 [.slice x_4 xn xc,.func (.func G0) ⟨[]⟩ ⟨[.pointer (some nonev)]⟩] w2) fun r_1 w3=>aBool r_1 fun x_5=>some (x_5,w3))) fun c_1 w4=>cond c_1
 (some (.bool false,w4))
 (R Q2 Bd3 [(1,.pointer (some c)),(3,.func (.func G0) ⟨[]⟩ ⟨[.pointer (some nonev)]⟩),(63,.slice x63 x63n x63c),(64,.int .i64 x64),(65,.int .i64 (IntKind.wrap .i64 (x65+1)))] w4))))
 (some (.bool true,h)):=by kernel_rfl
def Bc6:Cuts:={ globs:=0,loops:=[(3,[0,3,4])],regs:=[],plans:=[(5,⟨[0,1,2,3,4,5,6,7,8,9,10,11,12,13,14,15,16],[0,0,2,6,14,0,0,96,224,480,992,2016,4064,8190,16383,32767,65535],[],[]⟩)] }
def Bv6:List Item:=A4 Tryz.f122
def Aw2:List Item:=stk [0,1,0,1,0,0,1,4,5] Bv6
theorem Ga3 (C:A1) (R:A2) (l:Option Addr) (ln lc:Nat) (h:H) :
 A5 PR Bc6 C R Y7 Tryz.f122 100000 true Bv6 [(0,.slice l ln lc)] h =
 nw (.cells Ej3 false [.slice none 0 0]) h fun b w=>R Y7 Aw2 [(0,.slice l ln lc),(3,.pointer (some ⟨b,0,none⟩)),(4,.int .i64 0)] w:=by kernel_rfl
theorem B95 (C:A1) (R:A2) (l:Option Addr) (ln lc:Nat) (q:Addr) (i:Int) (h:H) :
 A5 PR Bc6 C R Y7 Tryz.f122 100000 true Aw2 [(0,.slice l ln lc),(3,.pointer (some q)),(4,.int .i64 i)] h =
 bnd (cond (decide (i<((ln:Nat):Int))) (some (decide (i<4),h)) (some (false,h))) fun c w=>cond c
 (gSl (Addr.add q 0) w fun x xn xc=>aSome l fun p=>ck ((0:Int)≤i∧i<((ln:Nat):Int)) (gInt .i64 (Addr.add (A9 p) (Int.toNat i*1)) w fun x_1=>ck ((0:Int)≤mm2 false (mm2 true x_1 0) 64∧(mm2 false (mm2 true x_1 0) 64:Int)≤mm2 false (mm2 true x_1 0) 64∧mm2 false (mm2 true x_1 0) 64≤(A8:Int)) (nw (.cells E78 false (G7 (Int.toNat (mm2 false (mm2 true x_1 0) 64)) [.bool false])) w fun b w1=>nw (.cells Dm6 false [.slice (some ⟨b,0,none⟩) (Int.toNat (mm2 false (mm2 true x_1 0) 64)) (Int.toNat (mm2 false (mm2 true x_1 0) 64))]) w1 fun b_1 w2=>gCells (some ⟨b_1,0,none⟩) (1*1) w2 fun cs=>ckB (fitsOpen x Dm6 w2) (apd Dm6 1 x xn xc 1 cs w2 fun a an ac w3=>pV (Addr.add q 0) (.slice a an ac) w3 fun w4=>R Y7 Aw2 [(0,.slice l ln lc),(3,.pointer (some q)),(4,.int .i64 (IntKind.wrap .i64 (i+1)))] w4))))
 (some (.pointer (some q),w)):=by kernel_rfl
def Bd8:Cuts:={ globs:=0,loops:=[],regs:=[],plans:=[(5,⟨[0,1,2,3,4,5,6,7,9,10,11,12,13,14,8,15,16,17,18,19,20,21],[0,0,0,4,12,28,0,64,252,0,512,1536,3584,0,8192,32764,65533,131069,262141,524287,1048575,2097151],[(8,[12])],[]⟩)] }
def B82:List Item:=A4 Tryz.f126
theorem El8 (C:A1) (R:A2) (r:Option Addr) (lo:Int) (n:Int) (h:H) :
 A5 PR Bd8 C R Aw3 Tryz.f126 100000 true B82 [(0,.pointer r),(1,.int .i64 lo),(2,.int .i64 n)] h =
 aSome r fun p=>gSl (Addr.add p 0) h fun _ xn _=>bnd (C Ae4 [.int .i64 lo,.int .i64 n,.int .i64 ((xn:Nat):Int)] h) fun r_1 w=>aBool r_1 fun x_1=>cond (!x_1)
 (some (.tuple ⟨[.int .i64 0,.int .i64 1]⟩,w))
 (aSome r fun p_1=>gSl (Addr.add p_1 1) w fun _ xn_1 _=>cond (decide (((xn_1:Nat):Int)≥32))
 (some (.tuple ⟨[.int .i64 0,.int .i64 4]⟩,w))
 (aSome r fun p_2=>gSl (Addr.add p_2 1) w fun x_3 xn_2 xc_2=>nw (.cells B2 false [.int .i64 lo]) w fun b w1=>aSome r fun p_3=>gSl (Addr.add p_3 2) w1 fun x_4 xn_3 xc_3=>nw (.cells B2 false [.int .i64 n]) w1 fun b_1 w2=>gCells (some ⟨b,0,none⟩) (1*1) w2 fun cs=>ckB (fitsOpen x_3 B2 w2) (apd B2 1 x_3 xn_2 xc_2 1 cs w2 fun a an ac w3=>gSl (Addr.add p_3 2) w3 fun x_5 xn_4 xc_4=>same (.slice x_4 xn_3 xc_3) (.slice x_5 xn_4 xc_4) (gCells (some ⟨b_1,0,none⟩) (1*1) w3 fun cs_1=>ckB (fitsOpen x_4 B2 w3) (apd B2 1 x_4 xn_3 xc_3 1 cs_1 w3 fun a_1 an_1 ac_1 w4=>aSome r fun p_4=>pV (Addr.add p_4 1) (.slice a an ac) w4 fun w5=>aSome r fun p_5=>pV (Addr.add p_5 2) (.slice a_1 an_1 ac_1) w5 fun w6=>aSome r fun p_6=>gSl (Addr.add p_6 1) w6 fun _ xn_5 _=>some (.tuple ⟨[.int .i64 (IntKind.wrap .i64 (((xn_5:Nat):Int)-1)),.int .i64 0]⟩,w6)))))):=by kernel_rfl
def Br1:Cuts:={ globs:=0,loops:=[],regs:=[],plans:=[] }
def Dl9:List Item:=A4 Tryz.f128
theorem E24 (C:A1) (R:A2) (s:Option Addr) (e:Int) (c:List Value) (h:H) :
 A5 PR Br1 C R A43 Tryz.f128 100000 true Dl9 [(0,.pointer s),(1,.int .i64 e),(2,.agg ⟨c⟩)] h =
 nw (.cells P1 false c) h fun b w=>bnd (C Ah6 [.pointer s,.int .i64 e] w) fun r w1=>aBool r fun x=>bnd (cond (!x) (some (true,w1)) (gInt .i64 (Addr.add ⟨b,0,none⟩ 1) w1 fun x_1=>some (decide (x_1<0),w1))) fun c_1 w2=>bnd (cond c_1 (some (true,w2)) (gInt .i64 (Addr.add ⟨b,0,none⟩ 1) w2 fun x_2=>some (decide (x_2>7),w2))) fun c_2 w3=>bnd (cond c_2 (some (true,w3)) (gInt .i64 (Addr.add ⟨b,0,none⟩ 2) w3 fun x_3=>some (decide (x_3<0),w3))) fun c_3 w4=>bnd (cond c_3 (some (true,w4)) (gInt .i64 (Addr.add ⟨b,0,none⟩ 2) w4 fun x_4=>some (decide (x_4>65536),w4))) fun c_4 w5=>bnd (cond c_4 (some (true,w5)) (gInt .i64 (Addr.add ⟨b,0,none⟩ 3) w5 fun x_5=>some (decide (x_5<0),w5))) fun c_5 w6=>bnd (cond c_5 (some (true,w6)) (gInt .i64 (Addr.add ⟨b,0,none⟩ 3) w6 fun x_6=>some (decide (x_6>65536),w6))) fun c_6 w7=>cond c_6
 (some (.tuple ⟨[.int .i64 0,.int .i64 1]⟩,w7))
 (pAgg (Addr.add ⟨b,0,none⟩ 4) [.int .i64 0,.int .i64 0] w7 fun w8=>gAgg ⟨b,0,none⟩ 6 w8 fun x_7=>bnd (C A64 [.pointer s,.int .i64 e,.agg ⟨x_7⟩] w8) fun r_1 w9=>as2 r_1 fun r_2 r_3=>aInt .i64 r_2 fun x_8=>aInt .i64 r_3 fun x_9=>some (.tuple ⟨[.int .i64 x_8,.int .i64 x_9]⟩,w9)):=by kernel_rfl
def Bg2:Cuts:={ globs:=0,loops:=[],regs:=[],plans:=[] }
def B78:List Item:=A4 Tryz.f129
theorem Ef9 (C:A1) (R:A2) (g:Int) (h:H) :
 A5 PR Bg2 C R Av7 Tryz.f129 100000 true B78 [(0,.int .i64 g)] h =
 nw (.cells A3 false [.int .u8 (IntKind.wrap .u8 (g)),.int .u8 211]) h fun b w=>gCells (some ⟨b,0,none⟩) 2 w fun cs=>asBytes cs fun l=>bnd (C Ad6 [.string (ByteArray.mk ⟨l⟩)] w) fun r w1=>aInt .u8 r fun x=>nw (.cells A3 false [.int .u8 x,.int .u8 0]) w1 fun b_1 w2=>gCells (some ⟨b_1,0,none⟩) 2 w2 fun cs_1=>asBytes cs_1 fun l_1=>ck (ByteArray.size (ByteArray.mk ⟨l⟩)+ByteArray.size (ByteArray.mk ⟨l_1⟩)≤A8) (some (.string ((ByteArray.mk ⟨l⟩)++(ByteArray.mk ⟨l_1⟩)),w2)):=by kernel_rfl
def Z0:Cuts:={ globs:=0,loops:=[(3,[0,3,9,10,11])],regs:=[],plans:=[] }
def Ai6:List Item:=A4 Tryz.f142
def N1:List Item:=stk [0,1,0,1,0,0,1,4,5] Ai6
theorem B96 (C:A1) (R:A2) (t:Option Addr) (h:H) :
 A5 PR Z0 C R E3 Tryz.f142 100000 true Ai6 [(0,.pointer t)] h =
 aSome t fun p=>gSl (Addr.add p 0) h fun x xn xc=>R E3 N1 [(0,.pointer t),(3,.slice none 0 0),(9,.slice x xn xc),(10,.int .i64 ((xn:Nat):Int)),(11,.int .i64 0)] h:=by kernel_rfl
theorem Aw0 (C:A1) (R:A2) (t:Option Addr) (out:Option Addr) (outn outc:Nat) (x9:Option Addr) (x9n x9c:Nat) (x10:Int) (x11:Int) (h:H) :
 A5 PR Z0 C R E3 Tryz.f142 100000 true N1 [(0,.pointer t),(3,.slice out outn outc),(9,.slice x9 x9n x9c),(10,.int .i64 x10),(11,.int .i64 x11)] h =
 cond (decide (x11<x10))
 (aSome x9 fun p=>ck ((0:Int)≤x11∧x11<((x9n:Nat):Int)) (gAgg (Addr.add (A9 p) (Int.toNat x11*8)) 8 h fun x=>nw (.cells Aj4 false [.int .i64 0,.int .i64 0,.int .i64 0,.int .i64 0,.int .i64 0,.int .i64 0,.int .i64 0,.bool false]) h fun b w=>ck (List.length x=8) (pAgg ⟨b,0,none⟩ x w fun w1=>gBool (Addr.add ⟨b,0,none⟩ 7) w1 fun x_1=>cond x_1
 (bnd (C M9 [.pointer t,.int .i64 x11] w1) fun r w2=>aInt .i64 r fun x_2=>nw (.cells B2 false [.int .i64 x_2]) w2 fun b_1 w3=>gCells (some ⟨b_1,0,none⟩) (1*1) w3 fun cs=>ckB (fitsOpen out B2 w3) (apd B2 1 out outn outc 1 cs w3 fun a an ac w4=>R E3 N1 [(0,.pointer t),(3,.slice a an ac),(9,.slice x9 x9n x9c),(10,.int .i64 x10),(11,.int .i64 (IntKind.wrap .i64 (x11+1)))] w4))
 (R E3 N1 [(0,.pointer t),(3,.slice out outn outc),(9,.slice x9 x9n x9c),(10,.int .i64 x10),(11,.int .i64 (IntKind.wrap .i64 (x11+1)))] w1))))
 (some (.slice out outn outc,h)):=by kernel_rfl
def At0:Cuts:={ globs:=0,loops:=[],regs:=[],plans:=[] }
def Bk0:List Item:=A4 Tryz.f145
theorem Dp4 (C:A1) (R:A2) (c:Option Addr) (r:List Value) (h:H) :
 A5 PR At0 C R P9 Tryz.f145 100000 true Bk0 [(0,.pointer c),(1,.agg ⟨r⟩)] h =
 nw (.cells D2 false r) h fun b w=>nw (.cells Bc2 false [.int .i64 0,.int .i64 0,.int .i64 0]) w fun b_1 w1=>gInt .i64 (Addr.add ⟨b,0,none⟩ 1) w1 fun x=>bnd (cond (decide (x<0)) (some (true,w1)) (gInt .i64 (Addr.add ⟨b,0,none⟩ 0) w1 fun x_1=>bnd (C Aa1 [.pointer c,.int .i64 x_1] w1) fun r_1 w2=>aInt .i64 r_1 fun x_2=>some (decide (x≥x_2),w2))) fun c_1 w3=>cond c_1
 (pAgg ⟨b_1,0,none⟩ [.int .i64 0,.int .i64 0,.int .i64 0] w3 fun w4=>gAgg ⟨b_1,0,none⟩ 3 w4 fun x_3=>some (.tuple ⟨[.agg ⟨x_3⟩,.bool false]⟩,w4))
 (aSome c fun p=>gSl (Addr.add p 2) w3 fun x_4 xn _=>aSome x_4 fun p_1=>ck ((0:Int)≤0∧0<((xn:Nat):Int)) (gInt .i64 (Addr.add (A9 p_1) (Int.toNat 0*1)) w3 fun x_5=>gInt .i64 (Addr.add ⟨b,0,none⟩ 0) w3 fun x_6=>cond (x_6==1)
 (pAgg ⟨b_1,0,none⟩ [.int .i64 x_5,.int .i64 (IntKind.wrap .i64 (24*x)),.int .i64 24] w3 fun w5=>gAgg ⟨b_1,0,none⟩ 3 w5 fun x_7=>some (.tuple ⟨[.agg ⟨x_7⟩,.bool true]⟩,w5))
 (gInt .i64 (Addr.add ⟨b,0,none⟩ 0) w3 fun x_8=>cond (x_8==2)
 (pAgg ⟨b_1,0,none⟩ [.int .i64 x_5,.int .i64 (IntKind.wrap .i64 (192+(IntKind.wrap .i64 (8*x)))),.int .i64 8] w3 fun w6=>gAgg ⟨b_1,0,none⟩ 3 w6 fun x_9=>some (.tuple ⟨[.agg ⟨x_9⟩,.bool true]⟩,w6))
 (gInt .i64 (Addr.add ⟨b,0,none⟩ 0) w3 fun x_10=>bnd (cond (x_10==3) (some (decide (x<4),w3)) (some (false,w3))) fun c_2 w7=>cond c_2
 (pAgg ⟨b_1,0,none⟩ [.int .i64 x_5,.int .i64 (IntKind.wrap .i64 (288+(IntKind.wrap .i64 (40*x)))),.int .i64 40] w7 fun w8=>gAgg ⟨b_1,0,none⟩ 3 w8 fun x_11=>some (.tuple ⟨[.agg ⟨x_11⟩,.bool true]⟩,w8))
 (gInt .i64 (Addr.add ⟨b,0,none⟩ 0) w7 fun x_12=>cond (x_12==3)
 (aSome c fun p_2=>gSl (Addr.add p_2 2) w7 fun x_13 xn_1 _=>aSome x_13 fun p_3=>ck ((0:Int)≤IntKind.wrap .i64 ((IntKind.wrap .i64 (x-4))+1)∧IntKind.wrap .i64 ((IntKind.wrap .i64 (x-4))+1)<((xn_1:Nat):Int)) (gInt .i64 (Addr.add (A9 p_3) (Int.toNat (IntKind.wrap .i64 ((IntKind.wrap .i64 (x-4))+1))*1)) w7 fun x_14=>pAgg ⟨b_1,0,none⟩ [.int .i64 x_14,.int .i64 0,.int .i64 40] w7 fun w9=>gAgg ⟨b_1,0,none⟩ 3 w9 fun x_15=>some (.tuple ⟨[.agg ⟨x_15⟩,.bool true]⟩,w9)))
 (gInt .i64 (Addr.add ⟨b,0,none⟩ 0) w7 fun x_16=>cond (x_16==4)
 (pAgg ⟨b_1,0,none⟩ [.int .i64 x_5,.int .i64 448,.int .i64 40] w7 fun w10=>gAgg ⟨b_1,0,none⟩ 3 w10 fun x_17=>some (.tuple ⟨[.agg ⟨x_17⟩,.bool true]⟩,w10))
 (pAgg ⟨b_1,0,none⟩ [.int .i64 x_5,.int .i64 488,.int .i64 4] w7 fun w11=>gAgg ⟨b_1,0,none⟩ 3 w11 fun x_18=>some (.tuple ⟨[.agg ⟨x_18⟩,.bool true]⟩,w11)))))))):=by kernel_rfl
def A33:Cuts:={ globs:=0,loops:=[],regs:=[],plans:=[] }
def Bu0:List Item:=A4 Tryz.f149
theorem D00 (C:A1) (R:A2) (r:Option Addr) (env:Int) (name:Int) (atv:Int) (n:Int) (h:H) :
 A5 PR A33 C R Ab3 Tryz.f149 100000 true Bu0 [(0,.pointer r),(1,.int .i64 env),(2,.int .i64 name),(3,.int .i64 atv),(4,.int .i64 n)] h =
 bnd (C Z3 [.pointer r,.int .i64 env,.int .i64 name,.int .i64 1,.int .i64 atv,.int .i64 n] h) fun r_1 w=>as2 r_1 fun r_2 r_3=>aInt .i64 r_2 fun x=>aInt .i64 r_3 fun x_1=>cond (x_1 != 0)
 (some (.tuple ⟨[.slice none 0 0,.int .i64 x_1]⟩,w))
 (aSome r fun p=>gPtr (Addr.add p 0) w fun x_2=>bnd (C Bh6 [.pointer x_2,.int .i64 x,.int .i64 n] w) fun r_4 w1=>as2 r_4 fun r_5 r_6=>aSl r_5 fun x_3 xn xc=>aInt .i64 r_6 fun x_4=>some (.tuple ⟨[.slice x_3 xn xc,.int .i64 x_4]⟩,w1)):=by kernel_rfl
def Bb2:Cuts:={ globs:=0,loops:=[],regs:=[],plans:=[] }
def B20:List Item:=A4 Tryz.f154
theorem Ed6 (C:A1) (R:A2) (q:Option Addr) (s:Int) (h:H) :
 A5 PR Bb2 C R As4 Tryz.f154 100000 true B20 [(0,.pointer q),(1,.int .i64 s)] h =
 bnd (C Ag4 [.pointer q,.int .i64 s] h) fun r w=>aBool r fun x=>cond (!x)
 (some (.tuple ⟨[.int .i64 0,.int .i64 1]⟩,w))
 (aSome q fun p=>gSl (Addr.add p 0) w fun x_1 xn _=>aSome x_1 fun p_1=>ck ((0:Int)≤s∧s<((xn:Nat):Int)) (gSl (Addr.add (A9 p_1) (Int.toNat s*1)) w fun x_2 xn_1 xc_1=>bnd (C G6 [.slice x_2 xn_1 xc_1,.int .i64 0] w) fun r_1 w1=>aInt .i64 r_1 fun x_3=>cond (decide (x_3<0))
 (some (.tuple ⟨[.int .i64 0,.int .i64 4]⟩,w1))
 (aSome q fun p_2=>gSl (Addr.add p_2 0) w1 fun x_4 xn_2 _=>aSome x_4 fun p_3=>ck ((0:Int)≤s∧s<((xn_2:Nat):Int)) (gSl (Addr.add (A9 p_3) (Int.toNat s*1)) w1 fun x_5 xn_3 _=>aSome x_5 fun p_4=>ck ((0:Int)≤x_3∧x_3<((xn_3:Nat):Int)) (pV (Addr.add (A9 p_4) (Int.toNat x_3*1)) (.int .i64 1) w1 fun w2=>some (.tuple ⟨[.int .i64 x_3,.int .i64 0]⟩,w2)))))):=by kernel_rfl
def Bk9:Cuts:={ globs:=0,loops:=[],regs:=[],plans:=[] }
def De2:List Item:=A4 Tryz.f156
theorem Eu0 (C:A1) (R:A2) (k:Option Addr) (env:Int) (c:List Value) (h:H) :
 A5 PR Bk9 C R Az7 Tryz.f156 100000 true De2 [(0,.pointer k),(1,.int .i64 env),(2,.agg ⟨c⟩)] h =
 nw (.cells Av5 false c) h fun b w=>gInt .i64 (Addr.add ⟨b,0,none⟩ 3) w fun x=>bnd (C Aq5 [.pointer k,.int .i64 env,.int .i64 x] w) fun r w1=>as2 r fun r_1 r_2=>aPtr r_1 fun x_1=>aInt .i64 r_2 fun x_2=>cond (x_2 != 0)
 (some (.tuple ⟨[.int .i64 0,.int .i64 x_2]⟩,w1))
 (aSome k fun p=>gInt .i64 (Addr.add p 7) w1 fun x_3=>bnd (C B6 [.pointer x_1,.int .i64 env,.int .i64 x_3] w1) fun r_3 w2=>as2 r_3 fun r_4 r_5=>aInt .i64 r_4 fun x_4=>aBool r_5 fun _=>some (.tuple ⟨[.int .i64 x_4,.int .i64 0]⟩,w2)):=by kernel_rfl
def Bk5:Cuts:={ globs:=0,loops:=[],regs:=[],plans:=[] }
def Dd7:List Item:=A4 Tryz.f157
theorem Es5 (C:A1) (R:A2) (k:Option Addr) (env:Int) (c:List Value) (h:H) :
 A5 PR Bk5 C R Az6 Tryz.f157 100000 true Dd7 [(0,.pointer k),(1,.int .i64 env),(2,.agg ⟨c⟩)] h =
 nw (.cells Av5 false c) h fun b w=>gInt .i64 (Addr.add ⟨b,0,none⟩ 3) w fun x=>bnd (C Aq5 [.pointer k,.int .i64 env,.int .i64 x] w) fun r w1=>as2 r fun r_1 r_2=>aPtr r_1 fun x_1=>aInt .i64 r_2 fun x_2=>bnd (cond (x_2==0) (gInt .i64 (Addr.add ⟨b,0,none⟩ 2) w1 fun x_3=>bnd (C Az8 [.pointer x_1,.int .i64 env,.int .i64 x_3] w1) fun r_3 w2=>aBool r_3 fun x_4=>some (!x_4,w2)) (some (false,w1))) fun c_1 w3=>cond c_1
 (some (.int .i64 8,w3))
 (some (.int .i64 x_2,w3)):=by kernel_rfl
def Dc6:Cuts:={ globs:=0,loops:=[],regs:=[],plans:=[] }
def Ec2:List Item:=A4 Tryz.f158
theorem Go6 (C:A1) (R:A2)  (h:H) :
 A5 PR Dc6 C R A88 Tryz.f158 100000 true Ec2 [] h =
 bnd (C An5 [.int .i64 24,.func (.func N4) ⟨[]⟩ ⟨[]⟩,.func (.func V8) ⟨[]⟩ ⟨[]⟩] h) fun r w=>aPtr r fun x=>some (.pointer x,w):=by kernel_rfl
def Af3:Cuts:={ globs:=0,loops:=[],regs:=[],plans:=[(4,⟨[0,1,2,3,4,10,5,6,7,8,9,11,12],[0,1,3,7,0,16,63,127,255,255,0,1535,4095],[(5,[3])],[]⟩)] }
def Ay8:List Item:=A4 Tryz.f159
theorem B08 (C:A1) (R:A2) (c:Option Addr) (b:Option Addr) (bn bc:Nat) (h:H) :
 A5 PR Af3 C R U5 Tryz.f159 100000 true Ay8 [(0,.pointer c),(1,.slice b bn bc)] h =
 nw (.cells B9 false [.int .i64 0,.int .i64 0,.int .i64 0,.int .i64 0,.int .i64 0,.int .i64 0,.int .i64 0,.int .i64 0,.int .i64 0,.int .i64 0,.int .i64 0,.int .i64 0,.int .i64 0,.int .i64 0,.int .i64 0,.int .i64 0]) h fun b_1 w=>nw (.cells B9 false [.int .i64 0,.int .i64 0,.int .i64 0,.int .i64 0,.int .i64 0,.int .i64 0,.int .i64 0,.int .i64 0,.int .i64 0,.int .i64 0,.int .i64 0,.int .i64 0,.int .i64 0,.int .i64 0,.int .i64 0,.int .i64 0]) w fun b_2 w1=>aSome c fun p=>gFv (Addr.add p 2) w1 fun x=>isNilF x fun b_3=>bnd (cond b_3 (some (true,w1)) (aSome c fun p_1=>gInt .i64 (Addr.add p_1 0) w1 fun x_1=>some (((bn:Nat):Int) != x_1,w1))) fun c_1 w2=>cond c_1
 (gAgg ⟨b_2,0,none⟩ 16 w2 fun x_2=>ck (List.length x_2=16) (pAgg ⟨b_1,0,none⟩ x_2 w2 fun w3=>gAgg ⟨b_1,0,none⟩ 16 w3 fun x_3=>some (.tuple ⟨[.agg ⟨x_3⟩,.bool false]⟩,w3)))
 (aSome c fun p_2=>gFv (Addr.add p_2 2) w2 fun x_4=>nw (.cells B9 false [.int .i64 0,.int .i64 0,.int .i64 0,.int .i64 0,.int .i64 0,.int .i64 0,.int .i64 0,.int .i64 0,.int .i64 0,.int .i64 0,.int .i64 0,.int .i64 0,.int .i64 0,.int .i64 0,.int .i64 0,.int .i64 0]) w2 fun b_4 w4=>bnd (C E8 [.slice b bn bc] w4) fun r w5=>aSl r fun x_5 xn xc=>gFv (Addr.add p_2 2) w5 fun x_6=>Bi7 (x_4) (x_6) (aFn x_4 fun g fi cp=>bnd (C g (fi++([.slice x_5 xn xc]++cp)) w5) fun r_1 w6=>as2 r_1 fun r_2 r_3=>aAgg r_2 fun x_7=>aBool r_3 fun x_8=>ck (List.length x_7=16) (pAgg ⟨b_4,0,none⟩ x_7 w6 fun w7=>cond (!x_8)
 (gAgg ⟨b_2,0,none⟩ 16 w7 fun x_9=>ck (List.length x_9=16) (pAgg ⟨b_1,0,none⟩ x_9 w7 fun w8=>gAgg ⟨b_1,0,none⟩ 16 w8 fun x_10=>some (.tuple ⟨[.agg ⟨x_10⟩,.bool false]⟩,w8)))
 (gAgg ⟨b_4,0,none⟩ 16 w7 fun x_11=>ck (List.length x_11=16) (pAgg ⟨b_1,0,none⟩ x_11 w7 fun w9=>gAgg ⟨b_1,0,none⟩ 16 w9 fun x_12=>some (.tuple ⟨[.agg ⟨x_12⟩,.bool true]⟩,w9)))))):=by kernel_rfl
def Dc3:Cuts:={ globs:=0,loops:=[],regs:=[],plans:=[] }
def Eb2:List Item:=A4 Tryz.f161
theorem Gn4 (C:A1) (R:A2)  (h:H) :
 A5 PR Dc3 C R A80 Tryz.f161 100000 true Eb2 [] h =
 bnd (C An4 [.int .i64 8,.func (.func Ao7) ⟨[]⟩ ⟨[]⟩,.func (.func Ao9) ⟨[]⟩ ⟨[]⟩] h) fun r w=>aPtr r fun x=>some (.pointer x,w):=by kernel_rfl
def B57:Cuts:={ globs:=0,loops:=[(3,[3,9,10,11])],regs:=[],plans:=[] }
def Dx1:List Item:=A4 Tryz.f163
def Bj3:List Item:=stk [0,1,0,1,0,0,1,4,5] Dx1
theorem G89 (C:A1) (R:A2) (b:Option Addr) (bn bc:Nat) (h:H) :
 A5 PR B57 C R Z6 Tryz.f163 100000 true Dx1 [(0,.slice b bn bc)] h =
 R Z6 Bj3 [(3,.int .u8 (IntKind.wrap .u8 (((bn:Nat):Int)))),(9,.slice b bn bc),(10,.int .i64 ((bn:Nat):Int)),(11,.int .i64 0)] h:=by kernel_rfl
theorem Dy7 (C:A1) (R:A2) (n:Int) (x9:Option Addr) (x9n x9c:Nat) (x10:Int) (x11:Int) (h:H) :
 A5 PR B57 C R Z6 Tryz.f163 100000 true Bj3 [(3,.int .u8 n),(9,.slice x9 x9n x9c),(10,.int .i64 x10),(11,.int .i64 x11)] h =
 cond (decide (x11<x10))
 (aSome x9 fun p=>ck ((0:Int)≤x11∧x11<((x9n:Nat):Int)) (gInt .u8 (Addr.add (A9 p) (Int.toNat x11*1)) h fun x=>R Z6 Bj3 [(3,.int .u8 (IntKind.wrap .u8 (n+x))),(9,.slice x9 x9n x9c),(10,.int .i64 x10),(11,.int .i64 (IntKind.wrap .i64 (x11+1)))] h))
 (some (.int .u8 n,h)):=by kernel_rfl
def Ak6:Cuts:={ globs:=0,loops:=[],regs:=[],plans:=[] }
def A97:List Item:=A4 Tryz.f173
theorem Da7 (C:A1) (R:A2) (c:Option Addr) (i:Int) (h:H) :
 A5 PR Ak6 C R Aa3 Tryz.f173 100000 true A97 [(0,.pointer c),(1,.int .i64 i)] h =
 bnd (C Ap8 [.int .i64 i] h) fun r w=>aAgg r fun x=>bnd (C W7 [.pointer c,.agg ⟨x⟩] w) fun r_1 w1=>aBool r_1 fun x_1=>some (.bool x_1,w1):=by kernel_rfl
def B54:Cuts:={ globs:=0,loops:=[],regs:=[],plans:=[] }
def D01:List Item:=A4 Tryz.f174
theorem Gd2 (C:A1) (R:A2) (s:Int) (fv0:Addr) (h:H) :
 A5 PR B54 C R G0 Tryz.f174 100000 true D01 [(0,.int .i64 s),(1,.pointer (some fv0))] h =
 bnd (cond (decide (s<0)) (some (true,h)) (gSl (Addr.add fv0 0) h fun _ xn _=>some (decide (s≥((xn:Nat):Int)),h))) fun c w=>some (.bool c,w):=by kernel_rfl
def Ac6:Cuts:={ globs:=0,loops:=[],regs:=[],plans:=[] }
def As6:List Item:=A4 Tryz.f175
theorem As7 (C:A1) (R:A2) (s:Option Addr) (sn sc:Nat) (f:Value) (h:H) :
 A5 PR Ac6 C R E0 Tryz.f175 100000 true As6 [(0,.slice s sn sc),(1,f)] h =
 bnd (C D1 [.slice s sn sc,f] h) fun r w=>aInt .i64 r fun x=>some (.bool (decide (x≥0)),w):=by kernel_rfl
def Bb7:Cuts:={ globs:=0,loops:=[(3,[0,3,4])],regs:=[],plans:=[] }
def Bu7:List Item:=A4 Tryz.f182
def Av3:List Item:=stk [0,1,0,1,0,0,1,4,5] Bu7
theorem E75 (C:A1) (R:A2) (size:Int) (h:H) :
 A5 PR Bb7 C R Y8 Tryz.f182 100000 true Bu7 [(0,.int .i64 size)] h =
 nw (.cells Ek4 false [.slice none 0 0]) h fun b w=>R Y8 Av3 [(0,.int .i64 size),(3,.pointer (some ⟨b,0,none⟩)),(4,.int .i64 0)] w:=by kernel_rfl
theorem B77 (C:A1) (R:A2) (size:Int) (n:Addr) (i:Int) (h:H) :
 A5 PR Bb7 C R Y8 Tryz.f182 100000 true Av3 [(0,.int .i64 size),(3,.pointer (some n)),(4,.int .i64 i)] h =
 bnd (cond (decide (i<size)) (some (decide (i<256),h)) (some (false,h))) fun c w=>cond c
 (gSl (Addr.add n 0) w fun x xn xc=>nw (.cells Bf3 false [.int .i64 1,.bool false]) w fun b w1=>gCells (some ⟨b,0,none⟩) (1*2) w1 fun cs=>ckB (fitsOpen x Bf3 w1) (apd Bf3 2 x xn xc 1 cs w1 fun a an ac w2=>pV (Addr.add n 0) (.slice a an ac) w2 fun w3=>R Y8 Av3 [(0,.int .i64 size),(3,.pointer (some n)),(4,.int .i64 (IntKind.wrap .i64 (i+1)))] w3))
 (some (.pointer (some n),w)):=by kernel_rfl
def Br4:Cuts:={ globs:=0,loops:=[],regs:=[],plans:=[(4,⟨[0,1,2,3,4,5,6,7,8,9,10,11],[0,1,3,7,0,31,63,0,128,0,1023,2047],[],[]⟩)] }
def Do0:List Item:=A4 Tryz.f185
theorem Ez4 (C:A1) (R:A2) (s:Option Addr) (e:Int) (c:List Value) (h:H) :
 A5 PR Br4 C R A64 Tryz.f185 100000 true Do0 [(0,.pointer s),(1,.int .i64 e),(2,.agg ⟨c⟩)] h =
 nw (.cells P1 false c) h fun b w=>aSome s fun p=>gSl (Addr.add p 0) w fun x xn _=>aSome x fun p_1=>ck ((0:Int)≤e∧e<((xn:Nat):Int)) (gPtr (Addr.add (A9 p_1) (Int.toNat e*1)) w fun x_1=>bnd (C U9 [.pointer x_1] w) fun r w1=>as2 r fun r_1 r_2=>aInt .i64 r_1 fun x_2=>aBool r_2 fun x_3=>cond (!x_3)
 (some (.tuple ⟨[.int .i64 0,.int .i64 4]⟩,w1))
 (aSome s fun p_2=>gSl (Addr.add p_2 1) w1 fun x_4 xn_1 _=>aSome x_4 fun p_3=>ck ((0:Int)≤e∧e<((xn_1:Nat):Int)) (gSl (Addr.add (A9 p_3) (Int.toNat e*1)) w1 fun x_5 xn_2 _=>gAgg ⟨b,0,none⟩ 6 w1 fun x_6=>aSome x_5 fun p_4=>ck ((0:Int)≤B4 .i64 x_2 255∧B4 .i64 x_2 255<((xn_2:Nat):Int)) (ck (List.length x_6=6) (pAgg (Addr.add (A9 p_4) (Int.toNat (B4 .i64 x_2 255)*6)) x_6 w1 fun w2=>some (.tuple ⟨[.int .i64 x_2,.int .i64 0]⟩,w2)))))):=by kernel_rfl
def Ax6:Cuts:={ globs:=0,loops:=[],regs:=[],plans:=[(6,⟨[0,1,2,3,4,5,6,7,8,9,10,11,12,13,14,15,16,17,18,19,20,21,22,23,24,25,26,27,28,29,30,31,32,33,34,35],[0,1,3,7,15,31,63,127,127,383,1023,2047,4095,8191,8191,24575,8191,122879,262143,524287,1048575,2097151,4194303,8388607,16777215,33554431,67108863,134217727,67108863,335544319,872415231,1946157055,4093640703,8589934591,17179869183,34359738367],[],[]⟩),(8,⟨[0,1,2,3,4,5,6,7,8,9],[0,1,3,7,0,16,63,127,0,511],[],[]⟩)] }
def Bn0:List Item:=A4 Tryz.f201
theorem Dv3 (C:A1) (R:A2) (r:Option Addr) (env:Int) (name:Int) (right:Int) (atv:Int) (n:Int) (h:H) :
 A5 PR Ax6 C R Z3 Tryz.f201 100000 true Bn0 [(0,.pointer r),(1,.int .i64 env),(2,.int .i64 name),(3,.int .i64 right),(4,.int .i64 atv),(5,.int .i64 n)] h =
 aSome r fun p=>gPtr (Addr.add p 1) h fun x=>bnd (C Ar1 [.pointer x,.int .i64 env,.int .i64 name] h) fun r_1 w=>as2 r_1 fun r_2 r_3=>aAgg r_2 fun x_1=>aInt .i64 r_3 fun x_2=>nw (.cells P1 false [.int .i64 0,.int .i64 0,.int .i64 0,.int .i64 0,.int .i64 0,.int .i64 0]) w fun b w1=>ck (List.length x_1=6) (pAgg ⟨b,0,none⟩ x_1 w1 fun w2=>cond (x_2 != 0)
 (some (.tuple ⟨[.int .i64 0,.int .i64 x_2]⟩,w2))
 (gInt .i64 (Addr.add ⟨b,0,none⟩ 1) w2 fun x_3=>cond ((B4 .i64 x_3 right)==0)
 (some (.tuple ⟨[.int .i64 0,.int .i64 3]⟩,w2))
 (bnd (cond (decide (atv<0)) (some (true,w2)) (some (decide (n<0),w2))) fun c w3=>bnd (cond c (some (true,w3)) (gInt .i64 (Addr.add ⟨b,0,none⟩ 3) w3 fun x_4=>some (decide (atv>x_4),w3))) fun c_1 w4=>bnd (cond c_1 (some (true,w4)) (gInt .i64 (Addr.add ⟨b,0,none⟩ 3) w4 fun x_5=>some (decide (n>(IntKind.wrap .i64 (x_5-atv))),w4))) fun c_2 w5=>bnd (cond c_2 (some (true,w5)) (gInt .i64 (Addr.add ⟨b,0,none⟩ 0) w5 fun x_6=>some (decide (x_6<0),w5))) fun c_3 w6=>bnd (cond c_3 (some (true,w6)) (gInt .i64 (Addr.add ⟨b,0,none⟩ 0) w6 fun x_7=>aSome r fun p_1=>gSl (Addr.add p_1 2) w6 fun _ xn _=>some (decide (x_7≥((xn:Nat):Int)),w6))) fun c_4 w7=>cond c_4
 (some (.tuple ⟨[.int .i64 0,.int .i64 1]⟩,w7))
 (aSome r fun p_2=>gSl (Addr.add p_2 2) w7 fun x_9 xn_1 _=>gInt .i64 (Addr.add ⟨b,0,none⟩ 0) w7 fun x_10=>aSome x_9 fun p_3=>ck ((0:Int)≤x_10∧x_10<((xn_1:Nat):Int)) (gAgg (Addr.add (A9 p_3) (Int.toNat x_10*2)) 2 w7 fun x_11=>nw (.cells At6 false [.int .i64 0,.int .i64 0]) w7 fun b_1 w8=>ck (List.length x_11=2) (pAgg ⟨b_1,0,none⟩ x_11 w8 fun w9=>gInt .i64 (Addr.add ⟨b,0,none⟩ 2) w9 fun x_12=>gInt .i64 (Addr.add ⟨b_1,0,none⟩ 1) w9 fun x_13=>bnd (cond (decide ((IntKind.wrap .i64 (x_12+atv))>x_13)) (some (true,w9)) (gInt .i64 (Addr.add ⟨b_1,0,none⟩ 1) w9 fun x_14=>gInt .i64 (Addr.add ⟨b,0,none⟩ 2) w9 fun x_15=>some (decide (n>(IntKind.wrap .i64 ((IntKind.wrap .i64 (x_14-x_15))-atv))),w9))) fun c_5 w10=>cond c_5
 (some (.tuple ⟨[.int .i64 0,.int .i64 1]⟩,w10))
 (gInt .i64 (Addr.add ⟨b_1,0,none⟩ 0) w10 fun x_16=>gInt .i64 (Addr.add ⟨b,0,none⟩ 2) w10 fun x_17=>some (.tuple ⟨[.int .i64 (IntKind.wrap .i64 ((IntKind.wrap .i64 (x_16+x_17))+atv)),.int .i64 0]⟩,w10)))))))):=by kernel_rfl
def Bh0:Cuts:={ globs:=0,loops:=[],regs:=[],plans:=[] }
def B76:List Item:=A4 Tryz.f207
theorem Ek8 (C:A1) (R:A2) (q:Option Addr) (s:Int) (k:Int) (h:H) :
 A5 PR Bh0 C R Ax0 Tryz.f207 100000 true B76 [(0,.pointer q),(1,.int .i64 s),(2,.int .i64 k)] h =
 bnd (C Ag4 [.pointer q,.int .i64 s] h) fun r w=>aBool r fun x=>bnd (cond x (some (decide (k≥0),w)) (some (false,w))) fun c w1=>bnd (cond c (aSome q fun p=>gSl (Addr.add p 0) w1 fun x_1 xn _=>aSome x_1 fun p_1=>ck ((0:Int)≤s∧s<((xn:Nat):Int)) (gSl (Addr.add (A9 p_1) (Int.toNat s*1)) w1 fun _ xn_1 _=>some (decide (k<((xn_1:Nat):Int)),w1))) (some (false,w1))) fun c_1 w2=>bnd (cond c_1 (aSome q fun p_2=>gSl (Addr.add p_2 0) w2 fun x_3 xn_2 _=>aSome x_3 fun p_3=>ck ((0:Int)≤s∧s<((xn_2:Nat):Int)) (gSl (Addr.add (A9 p_3) (Int.toNat s*1)) w2 fun x_4 xn_3 _=>aSome x_4 fun p_4=>ck ((0:Int)≤k∧k<((xn_3:Nat):Int)) (gInt .i64 (Addr.add (A9 p_4) (Int.toNat k*1)) w2 fun x_5=>some (decide (x_5>0),w2)))) (some (false,w2))) fun c_2 w3=>some (.bool c_2,w3):=by kernel_rfl
def Du7:Cuts:={ globs:=0,loops:=[],regs:=[],plans:=[(1,⟨[0,1,2,3,4,5,6,7,8,9,10,11,12,13,14,15,16,17,18],[0,1,3,7,0,16,48,112,0,256,768,1792,0,4096,12288,28672,65535,0,262143],[],[]⟩),(3,⟨[0,1,2,3,4,5,6,7,8],[0,0,2,6,6,30,62,63,255],[(5,[0])],[]⟩)] }
def Eu4:List Item:=A4 Tryz.f216
theorem G67 (C:A1) (R:A2) (b:Option Addr) (bn bc:Nat) (h:H) :
 A5 PR Du7 C R Ao9 Tryz.f216 100000 true Eu4 [(0,.slice b bn bc)] h =
 nw (.cells D4 false [.int .i64 0,.int .i64 0,.int .i64 0,.int .i64 0]) h fun b_1 w=>aSome b fun p=>ck ((0:Int)≤0∧0<((bn:Nat):Int)) (gInt .u8 (Addr.add (A9 p) (Int.toNat 0*1)) w fun x=>aSome b fun p_1=>ck ((0:Int)≤1∧1<((bn:Nat):Int)) (gInt .u8 (Addr.add (A9 p_1) (Int.toNat 1*1)) w fun x_1=>aSome b fun p_2=>ck ((0:Int)≤2∧2<((bn:Nat):Int)) (gInt .u8 (Addr.add (A9 p_2) (Int.toNat 2*1)) w fun x_2=>aSome b fun p_3=>ck ((0:Int)≤3∧3<((bn:Nat):Int)) (gInt .u8 (Addr.add (A9 p_3) (Int.toNat 3*1)) w fun x_3=>nw (.cells D4 false [.int .i64 0,.int .i64 0,.int .i64 0,.int .i64 0]) w fun b_2 w1=>pAgg ⟨b_2,0,none⟩ [.int .i64 (IntKind.wrap .i64 (x)),.int .i64 (IntKind.wrap .i64 (x_1)),.int .i64 (IntKind.wrap .i64 (x_2)),.int .i64 (IntKind.wrap .i64 (x_3))] w1 fun w2=>gAgg ⟨b_2,0,none⟩ 4 w2 fun x_4=>bnd (C A19 [.agg ⟨x_4⟩] w2) fun r w3=>as2 r fun r_1 r_2=>aSl r_1 fun x_5 xn xc=>aBool r_2 fun x_6=>gAgg ⟨b_2,0,none⟩ 4 w3 fun x_7=>bnd (cond x_6 (bnd (C B8 [.slice x_5 xn xc,.slice b bn bc] w3) fun r_3 w4=>aBool r_3 fun x_8=>gAgg ⟨b_2,0,none⟩ 4 w4 fun x_9=>same (.agg ⟨x_7⟩) (.agg ⟨x_9⟩) (some (x_8,w4))) (some (false,w3))) fun c w5=>ck (List.length x_7=4) (pAgg ⟨b_1,0,none⟩ x_7 w5 fun w6=>gAgg ⟨b_1,0,none⟩ 4 w6 fun x_10=>some (.tuple ⟨[.agg ⟨x_10⟩,.bool c]⟩,w6)))))):=by kernel_rfl
def Dn5:Cuts:={ globs:=0,loops:=[],regs:=[],plans:=[(3,⟨[0,1,2,3,4,5,6,7,8,9,10,11,12,13,14],[0,0,3,7,15,31,0,0,128,448,960,1984,4095,8191,16383],[],[]⟩)] }
def Em6:List Item:=A4 Tryz.f233
theorem Gx5 (C:A1) (R:A2) (b:Option Addr) (bn bc:Nat) (atv:Int) (h:H) :
 A5 PR Dn5 C R B00 Tryz.f233 100000 true Em6 [(0,.slice b bn bc),(1,.int .i64 atv)] h =
 bnd (cond (decide (atv<0)) (some (true,h)) (some (decide (atv>(IntKind.wrap .i64 (((bn:Nat):Int)-2))),h))) fun c w=>cond c
 (some (.tuple ⟨[.int .i64 0,.bool false]⟩,w))
 (aSome b fun p=>ck ((0:Int)≤atv∧atv<((bn:Nat):Int)) (gInt .u8 (Addr.add (A9 p) (Int.toNat atv*1)) w fun x=>aSome b fun p_1=>ck ((0:Int)≤IntKind.wrap .i64 (atv+1)∧IntKind.wrap .i64 (atv+1)<((bn:Nat):Int)) (gInt .u8 (Addr.add (A9 p_1) (Int.toNat (IntKind.wrap .i64 (atv+1))*1)) w fun x_1=>some (.tuple ⟨[.int .i64 (Hi0 .i64 (IntKind.wrap .i64 ((IntKind.wrap .i64 (x))*2 ^ 8)) (IntKind.wrap .i64 (x_1))),.bool true]⟩,w)))):=by kernel_rfl
def D84:Cuts:={ globs:=0,loops:=[],regs:=[],plans:=[] }
def E59:List Item:=A4 Tryz.f234
theorem Hl9 (C:A1) (R:A2) (f:List Value) (h:H) :
 A5 PR D84 C R Dh6 Tryz.f234 100000 true E59 [(0,.agg ⟨f⟩)] h =
 nw (.cells D4 false f) h fun b w=>gInt .i64 (Addr.add ⟨b,0,none⟩ 0) w fun x=>bnd (cond (decide (x≥1)) (gInt .i64 (Addr.add ⟨b,0,none⟩ 0) w fun x_1=>some (decide (x_1≤3),w)) (some (false,w))) fun c w1=>bnd (cond c (gInt .i64 (Addr.add ⟨b,0,none⟩ 1) w1 fun x_2=>some (decide (x_2≥0),w1)) (some (false,w1))) fun c_1 w2=>bnd (cond c_1 (gInt .i64 (Addr.add ⟨b,0,none⟩ 1) w2 fun x_3=>some (decide (x_3≤7),w2)) (some (false,w2))) fun c_2 w3=>bnd (cond c_2 (gInt .i64 (Addr.add ⟨b,0,none⟩ 0) w3 fun x_4=>bnd (cond (x_4 != 3) (some (true,w3)) (gInt .i64 (Addr.add ⟨b,0,none⟩ 1) w3 fun x_5=>some (x_5==0,w3))) fun c_3 w4=>some (c_3,w4)) (some (false,w3))) fun c_4 w5=>bnd (cond c_4 (gInt .i64 (Addr.add ⟨b,0,none⟩ 2) w5 fun x_6=>some (decide (x_6≥1),w5)) (some (false,w5))) fun c_5 w6=>bnd (cond c_5 (gInt .i64 (Addr.add ⟨b,0,none⟩ 2) w6 fun x_7=>some (decide (x_7≤64),w6)) (some (false,w6))) fun c_6 w7=>bnd (cond c_6 (gInt .i64 (Addr.add ⟨b,0,none⟩ 3) w7 fun x_8=>bnd (cond (x_8==0) (some (true,w7)) (gInt .i64 (Addr.add ⟨b,0,none⟩ 3) w7 fun x_9=>some (x_9==1,w7))) fun c_7 w8=>some (c_7,w8)) (some (false,w7))) fun c_8 w9=>some (.bool c_8,w9):=by kernel_rfl
end
end Go.EQ

set_option maxRecDepth 100000
namespace Go.EQ
open Go Go.NN Go.Proofs
variable (C : A1) (R : A2)
noncomputable section
def Dc4:Cuts:={ globs:=0,loops:=[],regs:=[],plans:=[] }
def Ec5:List Item:=A4 Tryz.f15
theorem Gp3 (C:A1) (R:A2) (k:Option Addr) (env:Int) (h:H) :
 A5 PR Dc4 C R Bp3 Tryz.f15 100000 true Ec5 [(0,.pointer k),(1,.int .i64 env)] h =
 bnd (cond k.isNone (some (true,h)) (bnd (C Ak9 [.pointer k] h) fun r w=>aPtr r fun x=>bnd (C Aj2 [.pointer x,.int .i64 env] w) fun r_1 w1=>aSl r_1 fun _ xn _=>some (((xn:Nat):Int)==0,w1))) fun c w2=>cond c
 (some (.tuple ⟨[.pointer none,.int .i64 1]⟩,w2))
 (bnd (C Ak9 [.pointer k] w2) fun r_2 w3=>aPtr r_2 fun x_2=>bnd (C Aj2 [.pointer x_2,.int .i64 env] w3) fun r_3 w4=>aSl r_3 fun x_3 xn_1 xc_1=>nw (.map [] 0) w4 fun b w5=>nw (.cells De3 false [.pointer k,.int .i64 env,.slice x_3 xn_1 xc_1,.map (some b)]) w5 fun b_1 w6=>some (.tuple ⟨[.pointer (some ⟨b_1,0,none⟩),.int .i64 0]⟩,w6)):=by kernel_rfl
def Ay2:Cuts:={ globs:=0,loops:=[],regs:=[],plans:=[] }
def Bn1:List Item:=A4 Tryz.f18
theorem Dy0 (C:A1) (R:A2) (c:Option Addr) (i:Int) (h:H) :
 A5 PR Ay2 C R O0 Tryz.f18 100000 true Bn1 [(0,.pointer c),(1,.int .i64 i)] h =
 nw (.cells G8 false [.int .i64 0,.int .i64 0,.int .i64 0,.int .i64 0,.int .u8 0,.int .u8 0,.int .u8 0,.int .u8 0,.int .u8 0,.int .u8 0,.int .u8 0,.int .u8 0,.int .u8 0,.int .u8 0,.int .u8 0,.int .u8 0,.int .u8 0,.int .u8 0,.int .u8 0,.int .u8 0,.int .u8 0,.int .u8 0,.int .u8 0,.int .u8 0,.int .u8 0,.int .u8 0,.int .u8 0,.int .u8 0,.int .u8 0,.int .u8 0,.int .u8 0,.int .u8 0,.int .u8 0,.int .u8 0,.int .u8 0,.int .u8 0]) h fun b w=>bnd (C Ap8 [.int .i64 i] w) fun r w1=>aAgg r fun x=>bnd (C H6 [.pointer c,.agg ⟨x⟩,.func (.func At5) ⟨[]⟩ ⟨[]⟩] w1) fun r_1 w2=>as2 r_1 fun r_2 r_3=>aAgg r_2 fun x_1=>aInt .i64 r_3 fun x_2=>ck (List.length x_1=36) (pAgg ⟨b,0,none⟩ x_1 w2 fun w3=>gAgg ⟨b,0,none⟩ 36 w3 fun x_3=>some (.tuple ⟨[.agg ⟨x_3⟩,.int .i64 x_2]⟩,w3)):=by kernel_rfl
def B33:Cuts:={ globs:=0,loops:=[],regs:=[],plans:=[] }
def D17:List Item:=A4 Tryz.f22
theorem Gg5 (C:A1) (R:A2) (k:Option Addr) (env:Int) (c:List Value) (h:H) :
 A5 PR B33 C R Q6 Tryz.f22 100000 true D17 [(0,.pointer k),(1,.int .i64 env),(2,.agg ⟨c⟩)] h =
 nw (.cells Av5 false c) h fun b w=>nw (.cells Ee9 false [.int .i64 0,.int .i64 0,.slice none 0 0]) w fun b_1 w1=>bnd (cond (decide (env<0)) (some (true,w1)) (aSome k fun p=>gSl (Addr.add p 0) w1 fun _ xn _=>some (decide (env≥((xn:Nat):Int)),w1))) fun c_1 w2=>cond c_1
 (pAgg ⟨b_1,0,none⟩ [.int .i64 1,.int .i64 0,.slice none 0 0] w2 fun w3=>gAgg ⟨b_1,0,none⟩ 3 w3 fun x_1=>some (.agg ⟨x_1⟩,w3))
 (gAgg ⟨b,0,none⟩ 7 w2 fun x_2=>bnd (C Az4 [.pointer k,.int .i64 env,.agg ⟨x_2⟩] w2) fun r w4=>as3 r fun r_1 r_2 r_3=>aSl r_1 fun x_3 xn_1 xc_1=>aInt .i64 r_2 fun x_4=>aBool r_3 fun x_5=>cond x_5
 (pAgg ⟨b_1,0,none⟩ [.int .i64 x_4,.int .i64 0,.slice x_3 xn_1 xc_1] w4 fun w5=>gAgg ⟨b_1,0,none⟩ 3 w5 fun x_6=>some (.agg ⟨x_6⟩,w5))
 (gAgg ⟨b,0,none⟩ 7 w4 fun x_7=>bnd (C Av0 [.pointer k,.int .i64 env,.agg ⟨x_7⟩] w4) fun r_4 w6=>as2 r_4 fun r_5 r_6=>aInt .i64 r_5 fun x_8=>aInt .i64 r_6 fun x_9=>pAgg ⟨b_1,0,none⟩ [.int .i64 x_9,.int .i64 x_8,.slice none 0 0] w6 fun w7=>gAgg ⟨b_1,0,none⟩ 3 w7 fun x_10=>some (.agg ⟨x_10⟩,w7))):=by kernel_rfl
def Ay3:Cuts:={ globs:=0,loops:=[],regs:=[],plans:=[] }
def Bm1:List Item:=A4 Tryz.f23
theorem Dv5 (C:A1) (R:A2) (c:Option Addr) (i:Int) (h:H) :
 A5 PR Ay3 C R Aa0 Tryz.f23 100000 true Bm1 [(0,.pointer c),(1,.int .i64 i)] h =
 nw (.cells B9 false [.int .i64 0,.int .i64 0,.int .i64 0,.int .i64 0,.int .i64 0,.int .i64 0,.int .i64 0,.int .i64 0,.int .i64 0,.int .i64 0,.int .i64 0,.int .i64 0,.int .i64 0,.int .i64 0,.int .i64 0,.int .i64 0]) h fun b w=>bnd (C A11 [.int .i64 i] w) fun r w1=>aAgg r fun x=>bnd (C J4 [.pointer c,.agg ⟨x⟩,.func (.func A37) ⟨[]⟩ ⟨[]⟩] w1) fun r_1 w2=>as2 r_1 fun r_2 r_3=>aAgg r_2 fun x_1=>aInt .i64 r_3 fun x_2=>ck (List.length x_1=16) (pAgg ⟨b,0,none⟩ x_1 w2 fun w3=>gAgg ⟨b,0,none⟩ 16 w3 fun x_3=>some (.tuple ⟨[.agg ⟨x_3⟩,.int .i64 x_2]⟩,w3)):=by kernel_rfl
def Al6:Cuts:={ globs:=0,loops:=[],regs:=[],plans:=[] }
def Bb4:List Item:=A4 Tryz.f24
theorem Dg7 (C:A1) (R:A2) (c:Option Addr) (i:Int) (p:List Value) (h:H) :
 A5 PR Al6 C R O1 Tryz.f24 100000 true Bb4 [(0,.pointer c),(1,.int .i64 i),(2,.agg ⟨p⟩)] h =
 nw (.cells B9 false p) h fun b w=>gAgg ⟨b,0,none⟩ 16 w fun x=>bnd (C A29 [.agg ⟨x⟩] w) fun r w1=>as2 r fun r_1 r_2=>aSl r_1 fun x_1 xn xc=>aBool r_2 fun x_2=>bnd (C A11 [.int .i64 i] w1) fun r_3 w2=>aAgg r_3 fun x_3=>bnd (C I7 [.pointer c,.agg ⟨x_3⟩,.slice x_1 xn xc,.bool x_2] w2) fun r_4 w3=>aBool r_4 fun x_4=>some (.bool x_4,w3):=by kernel_rfl
def An6:Cuts:={ globs:=0,loops:=[],regs:=[],plans:=[] }
def Bc7:List Item:=A4 Tryz.f28
theorem Dh1 (C:A1) (R:A2) (c:Option Addr) (i:Int) (f:List Value) (h:H) :
 A5 PR An6 C R J0 Tryz.f28 100000 true Bc7 [(0,.pointer c),(1,.int .i64 i),(2,.agg ⟨f⟩)] h =
 nw (.cells D4 false f) h fun b w=>gAgg ⟨b,0,none⟩ 4 w fun x=>bnd (C A19 [.agg ⟨x⟩] w) fun r w1=>as2 r fun r_1 r_2=>aSl r_1 fun x_1 xn xc=>aBool r_2 fun x_2=>bnd (C Ap9 [.int .i64 i] w1) fun r_3 w2=>aAgg r_3 fun x_3=>bnd (C I7 [.pointer c,.agg ⟨x_3⟩,.slice x_1 xn xc,.bool x_2] w2) fun r_4 w3=>aBool r_4 fun x_4=>some (.bool x_4,w3):=by kernel_rfl
def Db8:Cuts:={ globs:=0,loops:=[],regs:=[],plans:=[(1,⟨[0,1,2,3,4,5,6,7],[0,1,0,4,15,12,63,127],[(3,[1]),(5,[1])],[]⟩)] }
def Eb7:List Item:=A4 Tryz.f53
theorem Gn8 (C:A1) (R:A2)  (h:H) :
 A5 PR Db8 C R A93 Tryz.f53 100000 true Eb7 [] h =
 ck ((0:Int)≤448∧(448:Int)≤448∧448≤(A8:Int)) (nw (.cells A3 false (G7 (Int.toNat 448) [.int .u8 0])) h fun b w=>gCells (some ⟨b,0,none⟩) (Int.toNat 448) w fun cs=>asBytes cs fun l=>bnd (C P2 [.agg ⟨[.int .i64 0,.int .i64 0,.int .i64 1,.int .i64 1,.int .u8 0,.int .u8 0,.int .u8 0,.int .u8 0,.int .u8 0,.int .u8 0,.int .u8 0,.int .u8 0,.int .u8 0,.int .u8 0,.int .u8 0,.int .u8 0,.int .u8 0,.int .u8 0,.int .u8 0,.int .u8 0,.int .u8 0,.int .u8 0,.int .u8 0,.int .u8 0,.int .u8 0,.int .u8 0,.int .u8 0,.int .u8 0,.int .u8 0,.int .u8 0,.int .u8 0,.int .u8 0,.int .u8 0,.int .u8 0,.int .u8 0,.int .u8 0]⟩] w) fun r w1=>aStr r fun x=>gCells (some ⟨b,0,none⟩) (Int.toNat 448) w1 fun cs_1=>asBytes cs_1 fun l_1=>same (.string (ByteArray.mk ⟨l⟩)) (.string (ByteArray.mk ⟨l_1⟩)) (ck (ByteArray.size (ByteArray.mk ⟨l⟩)+ByteArray.size x≤A8) (bnd (C Av7 [.int .i64 0] w1) fun r_1 w2=>aStr r_1 fun x_1=>gCells (some ⟨b,0,none⟩) (Int.toNat 448) w2 fun cs_2=>asBytes cs_2 fun l_2=>same (.string (ByteArray.mk ⟨l⟩)) (.string (ByteArray.mk ⟨l_2⟩)) (ck (ByteArray.size ((ByteArray.mk ⟨l⟩)++x)+ByteArray.size x_1≤A8) (some (.string (((ByteArray.mk ⟨l⟩)++x)++x_1),w2)))))):=by kernel_rfl
def B37:Cuts:={ globs:=0,loops:=[],regs:=[],plans:=[] }
def D09:List Item:=A4 Tryz.f60
theorem Gg0 (C:A1) (R:A2) (i:Int) (h:H) :
 A5 PR B37 C R Ap8 Tryz.f60 100000 true D09 [(0,.int .i64 i)] h =
 nw (.cells D2 false [.int .i64 0,.int .i64 0]) h fun b w=>pAgg ⟨b,0,none⟩ [.int .i64 3,.int .i64 i] w fun w1=>gAgg ⟨b,0,none⟩ 2 w1 fun x=>some (.agg ⟨x⟩,w1):=by kernel_rfl
def Ac3:Cuts:={ globs:=0,loops:=[],regs:=[(8,[6,8,11,12])],plans:=[(7,⟨[0,1,2,3,4,5,6,7,8,9],[0,1,3,7,0,31,63,31,159,511],[(7,[5])],[]⟩)] }
def Ao5:List Item:=A4 Tryz.f61
def Ag8:List Item:=stk [0,1,0,1,0,1,0,1,0,1,0,1,0,0] Ao5
theorem Dg3 (C:A1) (R:A2) (c:Option Addr) (r:List Value) (decode:Value) (h:H) :
 A5 PR Ac3 C R H6 Tryz.f61 100000 true Ao5 [(0,.pointer c),(1,.agg ⟨r⟩),(2,decode)] h =
 nw (.cells D2 false r) h fun b w=>nw (.cells G8 false [.int .i64 0,.int .i64 0,.int .i64 0,.int .i64 0,.int .u8 0,.int .u8 0,.int .u8 0,.int .u8 0,.int .u8 0,.int .u8 0,.int .u8 0,.int .u8 0,.int .u8 0,.int .u8 0,.int .u8 0,.int .u8 0,.int .u8 0,.int .u8 0,.int .u8 0,.int .u8 0,.int .u8 0,.int .u8 0,.int .u8 0,.int .u8 0,.int .u8 0,.int .u8 0,.int .u8 0,.int .u8 0,.int .u8 0,.int .u8 0,.int .u8 0,.int .u8 0,.int .u8 0,.int .u8 0,.int .u8 0,.int .u8 0]) w fun b_1 w1=>nw (.cells G8 false [.int .i64 0,.int .i64 0,.int .i64 0,.int .i64 0,.int .u8 0,.int .u8 0,.int .u8 0,.int .u8 0,.int .u8 0,.int .u8 0,.int .u8 0,.int .u8 0,.int .u8 0,.int .u8 0,.int .u8 0,.int .u8 0,.int .u8 0,.int .u8 0,.int .u8 0,.int .u8 0,.int .u8 0,.int .u8 0,.int .u8 0,.int .u8 0,.int .u8 0,.int .u8 0,.int .u8 0,.int .u8 0,.int .u8 0,.int .u8 0,.int .u8 0,.int .u8 0,.int .u8 0,.int .u8 0,.int .u8 0,.int .u8 0]) w1 fun b_2 w2=>gAgg ⟨b,0,none⟩ 2 w2 fun x=>bnd (C N7 [.pointer c,.agg ⟨x⟩] w2) fun r_1 w3=>as2 r_1 fun r_2 r_3=>aSl r_2 fun x_1 xn xc=>aBool r_3 fun x_2=>cond (!x_2)
 (gAgg ⟨b_2,0,none⟩ 36 w3 fun x_3=>ck (List.length x_3=36) (pAgg ⟨b_1,0,none⟩ x_3 w3 fun w4=>gAgg ⟨b_1,0,none⟩ 36 w4 fun x_4=>some (.tuple ⟨[.agg ⟨x_4⟩,.int .i64 2]⟩,w4)))
 (aFn decode fun g fi cp=>bnd (C g (fi++([.slice x_1 xn xc]++cp)) w3) fun r_4 w5=>as2 r_4 fun r_5 r_6=>aAgg r_5 fun x_5=>aInt .i64 r_6 fun x_6=>nw (.cells G8 false [.int .i64 0,.int .i64 0,.int .i64 0,.int .i64 0,.int .u8 0,.int .u8 0,.int .u8 0,.int .u8 0,.int .u8 0,.int .u8 0,.int .u8 0,.int .u8 0,.int .u8 0,.int .u8 0,.int .u8 0,.int .u8 0,.int .u8 0,.int .u8 0,.int .u8 0,.int .u8 0,.int .u8 0,.int .u8 0,.int .u8 0,.int .u8 0,.int .u8 0,.int .u8 0,.int .u8 0,.int .u8 0,.int .u8 0,.int .u8 0,.int .u8 0,.int .u8 0,.int .u8 0,.int .u8 0,.int .u8 0,.int .u8 0]) w5 fun b_3 w6=>ck (List.length x_5=36) (pAgg ⟨b_3,0,none⟩ x_5 w6 fun w7=>cond (x_6==2)
 (aSome c fun p=>gMap (Addr.add p 3) w7 fun x_7=>gAgg ⟨b,0,none⟩ 2 w7 fun x_8=>keyN PR D2 (.agg ⟨x_8⟩) (opt x_7 fun r_7=>mapAt w7 r_7 fun es _=>opt (Aj6 (.int .i64 0) (.agg ⟨x_8⟩) es) fun f=>aInt .i64 f.1 fun x_9=>keyN PR D2 (.agg ⟨x_8⟩) (opt x_7 fun r_8=>mapAt w7 r_8 fun es_1 cl_1=>opt (Dw9 (.int .i64 0) (.agg ⟨x_8⟩) es_1 cl_1) fun f_1=>aInt .i64 f_1.1 fun _=>lt (H.set w7 r_8 f_1.2.2) fun w8=>keyN PR D2 (.agg ⟨x_8⟩) (opt x_7 fun r_9=>mapAt w8 r_9 fun es_2 _=>opt (Aj6 (.int .i64 0) (.agg ⟨x_8⟩) es_2) fun f_2=>aInt .i64 f_2.1 fun x_11=>same (.int .i64 x_9) (.int .i64 x_11) (opt x_7 fun r_10=>mapAt w8 r_10 fun es_3 cl_3=>opt (Bh9 (f_1.2.1:Int) es_3 0) fun i=>lt (H.set w8 r_10 (.map (modN (fun e=>{ e with val:=.int .i64 (IntKind.wrap .i64 (x_9+1)) }) i es_3) cl_3)) fun w9=>R H6 Ag8 [(6,.pointer (some ⟨b_1,0,none⟩)),(8,.pointer (some ⟨b_2,0,none⟩)),(11,.pointer (some ⟨b_3,0,none⟩)),(12,.int .i64 x_6)] w9)))))
 (R H6 Ag8 [(6,.pointer (some ⟨b_1,0,none⟩)),(8,.pointer (some ⟨b_2,0,none⟩)),(11,.pointer (some ⟨b_3,0,none⟩)),(12,.int .i64 x_6)] w7))):=by kernel_rfl
theorem A26 (C:A1) (R:A2) (x6:Addr) (nonev:Addr) (v:Addr) (isv:Int) (h:H) :
 A5 PR Ac3 C R H6 Tryz.f61 100000 true Ag8 [(6,.pointer (some x6)),(8,.pointer (some nonev)),(11,.pointer (some v)),(12,.int .i64 isv)] h =
 cond (isv != 1)
 (gAgg nonev 36 h fun x=>ck (List.length x=36) (pAgg x6 x h fun w=>gAgg x6 36 w fun x_1=>some (.tuple ⟨[.agg ⟨x_1⟩,.int .i64 isv]⟩,w)))
 (gAgg v 36 h fun x_2=>ck (List.length x_2=36) (pAgg x6 x_2 h fun w1=>gAgg x6 36 w1 fun x_3=>some (.tuple ⟨[.agg ⟨x_3⟩,.int .i64 isv]⟩,w1))):=by kernel_rfl
def Db7:Cuts:={ globs:=0,loops:=[],regs:=[],plans:=[] }
def Eb8:List Item:=A4 Tryz.f62
theorem Go0 (C:A1) (R:A2) (b:Option Addr) (bn bc:Nat) (h:H) :
 A5 PR Db7 C R At5 Tryz.f62 100000 true Eb8 [(0,.slice b bn bc)] h =
 nw (.cells G8 false [.int .i64 0,.int .i64 0,.int .i64 0,.int .i64 0,.int .u8 0,.int .u8 0,.int .u8 0,.int .u8 0,.int .u8 0,.int .u8 0,.int .u8 0,.int .u8 0,.int .u8 0,.int .u8 0,.int .u8 0,.int .u8 0,.int .u8 0,.int .u8 0,.int .u8 0,.int .u8 0,.int .u8 0,.int .u8 0,.int .u8 0,.int .u8 0,.int .u8 0,.int .u8 0,.int .u8 0,.int .u8 0,.int .u8 0,.int .u8 0,.int .u8 0,.int .u8 0,.int .u8 0,.int .u8 0,.int .u8 0,.int .u8 0]) h fun b_1 w=>bnd (cond (((bn:Nat):Int)==40) (bnd (C Aj9 [.slice b bn bc] w) fun r w1=>aBool r fun x=>some (x,w1)) (some (false,w))) fun c w2=>cond c
 (pAgg ⟨b_1,0,none⟩ [.int .i64 0,.int .i64 0,.int .i64 0,.int .i64 0,.int .u8 0,.int .u8 0,.int .u8 0,.int .u8 0,.int .u8 0,.int .u8 0,.int .u8 0,.int .u8 0,.int .u8 0,.int .u8 0,.int .u8 0,.int .u8 0,.int .u8 0,.int .u8 0,.int .u8 0,.int .u8 0,.int .u8 0,.int .u8 0,.int .u8 0,.int .u8 0,.int .u8 0,.int .u8 0,.int .u8 0,.int .u8 0,.int .u8 0,.int .u8 0,.int .u8 0,.int .u8 0,.int .u8 0,.int .u8 0,.int .u8 0,.int .u8 0] w2 fun w3=>gAgg ⟨b_1,0,none⟩ 36 w3 fun x_1=>some (.tuple ⟨[.agg ⟨x_1⟩,.int .i64 0]⟩,w3))
 (bnd (C Bg1 [] w2) fun r_1 w4=>aPtr r_1 fun x_2=>bnd (C U4 [.pointer x_2,.slice b bn bc] w4) fun r_2 w5=>as2 r_2 fun r_3 r_4=>aAgg r_3 fun x_3=>aBool r_4 fun x_4=>nw (.cells G8 false [.int .i64 0,.int .i64 0,.int .i64 0,.int .i64 0,.int .u8 0,.int .u8 0,.int .u8 0,.int .u8 0,.int .u8 0,.int .u8 0,.int .u8 0,.int .u8 0,.int .u8 0,.int .u8 0,.int .u8 0,.int .u8 0,.int .u8 0,.int .u8 0,.int .u8 0,.int .u8 0,.int .u8 0,.int .u8 0,.int .u8 0,.int .u8 0,.int .u8 0,.int .u8 0,.int .u8 0,.int .u8 0,.int .u8 0,.int .u8 0,.int .u8 0,.int .u8 0,.int .u8 0,.int .u8 0,.int .u8 0,.int .u8 0]) w5 fun b_2 w6=>ck (List.length x_3=36) (pAgg ⟨b_2,0,none⟩ x_3 w6 fun w7=>cond (!x_4)
 (pAgg ⟨b_1,0,none⟩ [.int .i64 0,.int .i64 0,.int .i64 0,.int .i64 0,.int .u8 0,.int .u8 0,.int .u8 0,.int .u8 0,.int .u8 0,.int .u8 0,.int .u8 0,.int .u8 0,.int .u8 0,.int .u8 0,.int .u8 0,.int .u8 0,.int .u8 0,.int .u8 0,.int .u8 0,.int .u8 0,.int .u8 0,.int .u8 0,.int .u8 0,.int .u8 0,.int .u8 0,.int .u8 0,.int .u8 0,.int .u8 0,.int .u8 0,.int .u8 0,.int .u8 0,.int .u8 0,.int .u8 0,.int .u8 0,.int .u8 0,.int .u8 0] w7 fun w8=>gAgg ⟨b_1,0,none⟩ 36 w8 fun x_5=>some (.tuple ⟨[.agg ⟨x_5⟩,.int .i64 2]⟩,w8))
 (gAgg ⟨b_2,0,none⟩ 36 w7 fun x_6=>ck (List.length x_6=36) (pAgg ⟨b_1,0,none⟩ x_6 w7 fun w9=>gAgg ⟨b_1,0,none⟩ 36 w9 fun x_7=>some (.tuple ⟨[.agg ⟨x_7⟩,.int .i64 1]⟩,w9))))):=by kernel_rfl
def Bk8:Cuts:={ globs:=0,loops:=[],regs:=[],plans:=[(4,⟨[0,1,2,3,4,5,6,7,8,9,10,11,12,13,14,15,16],[0,1,3,7,0,0,32,0,128,0,512,2047,4095,8191,8191,16383,65535],[],[]⟩),(6,⟨[0,1,2,3,4,5,6,7,8,9,10,11,12],[0,1,3,7,0,0,32,0,128,0,512,2047,4095],[],[]⟩),(8,⟨[0,1,2,3,4,5,6,7,8,9,10,11,12,13,14,15,16],[0,1,3,7,0,0,32,0,128,0,512,0,2048,0,8192,32767,65535],[],[]⟩)] }
def De0:List Item:=A4 Tryz.f67
theorem Et6 (C:A1) (R:A2) (k:Option Addr) (env:Int) (c:List Value) (h:H) :
 A5 PR Bk8 C R Az4 Tryz.f67 100000 true De0 [(0,.pointer k),(1,.int .i64 env),(2,.agg ⟨c⟩)] h =
 nw (.cells Av5 false c) h fun b w=>gInt .i64 (Addr.add ⟨b,0,none⟩ 0) w fun x=>cond (x==1)
 (aSome k fun p=>gPtr (Addr.add p 5) w fun x_1=>gInt .i64 (Addr.add ⟨b,0,none⟩ 1) w fun x_2=>gInt .i64 (Addr.add ⟨b,0,none⟩ 2) w fun x_3=>gInt .i64 (Addr.add ⟨b,0,none⟩ 3) w fun x_4=>bnd (C Ab3 [.pointer x_1,.int .i64 env,.int .i64 x_2,.int .i64 x_3,.int .i64 x_4] w) fun r w1=>as2 r fun r_1 r_2=>aSl r_1 fun x_5 xn xc=>aInt .i64 r_2 fun x_6=>some (.tuple ⟨[.slice x_5 xn xc,.int .i64 x_6,.bool true]⟩,w1))
 (cond (x==2)
 (aSome k fun p_1=>gPtr (Addr.add p_1 5) w fun x_7=>gInt .i64 (Addr.add ⟨b,0,none⟩ 1) w fun x_8=>gInt .i64 (Addr.add ⟨b,0,none⟩ 2) w fun x_9=>gSl (Addr.add ⟨b,0,none⟩ 6) w fun x_10 xn_1 xc_1=>bnd (C Z8 [.pointer x_7,.int .i64 env,.int .i64 x_8,.int .i64 x_9,.slice x_10 xn_1 xc_1] w) fun r_3 w2=>aInt .i64 r_3 fun x_11=>some (.tuple ⟨[.slice none 0 0,.int .i64 x_11,.bool true]⟩,w2))
 (cond (x==3)
 (aSome k fun p_2=>gPtr (Addr.add p_2 5) w fun x_12=>gInt .i64 (Addr.add ⟨b,0,none⟩ 1) w fun x_13=>gInt .i64 (Addr.add ⟨b,0,none⟩ 2) w fun x_14=>gInt .i64 (Addr.add ⟨b,0,none⟩ 4) w fun x_15=>gInt .i64 (Addr.add ⟨b,0,none⟩ 5) w fun x_16=>gInt .i64 (Addr.add ⟨b,0,none⟩ 3) w fun x_17=>bnd (C Aj7 [.pointer x_12,.int .i64 env,.int .i64 x_13,.int .i64 x_14,.int .i64 x_15,.int .i64 x_16,.int .i64 x_17] w) fun r_4 w3=>aInt .i64 r_4 fun x_18=>some (.tuple ⟨[.slice none 0 0,.int .i64 x_18,.bool true]⟩,w3))
 (some (.tuple ⟨[.slice none 0 0,.int .i64 0,.bool false]⟩,w)))):=by kernel_rfl
def Ac0:Cuts:={ globs:=0,loops:=[],regs:=[(8,[6,8,11,12])],plans:=[(7,⟨[0,1,2,3,4,5,6,7,8,9],[0,1,3,7,0,31,63,31,159,511],[(7,[5])],[]⟩)] }
def Ao1:List Item:=A4 Tryz.f69
def Ag9:List Item:=stk [0,1,0,1,0,1,0,1,0,1,0,1,0,0] Ao1
theorem Dg8 (C:A1) (R:A2) (c:Option Addr) (r:List Value) (decode:Value) (h:H) :
 A5 PR Ac0 C R J4 Tryz.f69 100000 true Ao1 [(0,.pointer c),(1,.agg ⟨r⟩),(2,decode)] h =
 nw (.cells D2 false r) h fun b w=>nw (.cells B9 false [.int .i64 0,.int .i64 0,.int .i64 0,.int .i64 0,.int .i64 0,.int .i64 0,.int .i64 0,.int .i64 0,.int .i64 0,.int .i64 0,.int .i64 0,.int .i64 0,.int .i64 0,.int .i64 0,.int .i64 0,.int .i64 0]) w fun b_1 w1=>nw (.cells B9 false [.int .i64 0,.int .i64 0,.int .i64 0,.int .i64 0,.int .i64 0,.int .i64 0,.int .i64 0,.int .i64 0,.int .i64 0,.int .i64 0,.int .i64 0,.int .i64 0,.int .i64 0,.int .i64 0,.int .i64 0,.int .i64 0]) w1 fun b_2 w2=>gAgg ⟨b,0,none⟩ 2 w2 fun x=>bnd (C N7 [.pointer c,.agg ⟨x⟩] w2) fun r_1 w3=>as2 r_1 fun r_2 r_3=>aSl r_2 fun x_1 xn xc=>aBool r_3 fun x_2=>cond (!x_2)
 (gAgg ⟨b_2,0,none⟩ 16 w3 fun x_3=>ck (List.length x_3=16) (pAgg ⟨b_1,0,none⟩ x_3 w3 fun w4=>gAgg ⟨b_1,0,none⟩ 16 w4 fun x_4=>some (.tuple ⟨[.agg ⟨x_4⟩,.int .i64 2]⟩,w4)))
 (aFn decode fun g fi cp=>bnd (C g (fi++([.slice x_1 xn xc]++cp)) w3) fun r_4 w5=>as2 r_4 fun r_5 r_6=>aAgg r_5 fun x_5=>aInt .i64 r_6 fun x_6=>nw (.cells B9 false [.int .i64 0,.int .i64 0,.int .i64 0,.int .i64 0,.int .i64 0,.int .i64 0,.int .i64 0,.int .i64 0,.int .i64 0,.int .i64 0,.int .i64 0,.int .i64 0,.int .i64 0,.int .i64 0,.int .i64 0,.int .i64 0]) w5 fun b_3 w6=>ck (List.length x_5=16) (pAgg ⟨b_3,0,none⟩ x_5 w6 fun w7=>cond (x_6==2)
 (aSome c fun p=>gMap (Addr.add p 3) w7 fun x_7=>gAgg ⟨b,0,none⟩ 2 w7 fun x_8=>keyN PR D2 (.agg ⟨x_8⟩) (opt x_7 fun r_7=>mapAt w7 r_7 fun es _=>opt (Aj6 (.int .i64 0) (.agg ⟨x_8⟩) es) fun f=>aInt .i64 f.1 fun x_9=>keyN PR D2 (.agg ⟨x_8⟩) (opt x_7 fun r_8=>mapAt w7 r_8 fun es_1 cl_1=>opt (Dw9 (.int .i64 0) (.agg ⟨x_8⟩) es_1 cl_1) fun f_1=>aInt .i64 f_1.1 fun _=>lt (H.set w7 r_8 f_1.2.2) fun w8=>keyN PR D2 (.agg ⟨x_8⟩) (opt x_7 fun r_9=>mapAt w8 r_9 fun es_2 _=>opt (Aj6 (.int .i64 0) (.agg ⟨x_8⟩) es_2) fun f_2=>aInt .i64 f_2.1 fun x_11=>same (.int .i64 x_9) (.int .i64 x_11) (opt x_7 fun r_10=>mapAt w8 r_10 fun es_3 cl_3=>opt (Bh9 (f_1.2.1:Int) es_3 0) fun i=>lt (H.set w8 r_10 (.map (modN (fun e=>{ e with val:=.int .i64 (IntKind.wrap .i64 (x_9+1)) }) i es_3) cl_3)) fun w9=>R J4 Ag9 [(6,.pointer (some ⟨b_1,0,none⟩)),(8,.pointer (some ⟨b_2,0,none⟩)),(11,.pointer (some ⟨b_3,0,none⟩)),(12,.int .i64 x_6)] w9)))))
 (R J4 Ag9 [(6,.pointer (some ⟨b_1,0,none⟩)),(8,.pointer (some ⟨b_2,0,none⟩)),(11,.pointer (some ⟨b_3,0,none⟩)),(12,.int .i64 x_6)] w7))):=by kernel_rfl
theorem A15 (C:A1) (R:A2) (x6:Addr) (nonev:Addr) (v:Addr) (isv:Int) (h:H) :
 A5 PR Ac0 C R J4 Tryz.f69 100000 true Ag9 [(6,.pointer (some x6)),(8,.pointer (some nonev)),(11,.pointer (some v)),(12,.int .i64 isv)] h =
 cond (isv != 1)
 (gAgg nonev 16 h fun x=>ck (List.length x=16) (pAgg x6 x h fun w=>gAgg x6 16 w fun x_1=>some (.tuple ⟨[.agg ⟨x_1⟩,.int .i64 isv]⟩,w)))
 (gAgg v 16 h fun x_2=>ck (List.length x_2=16) (pAgg x6 x_2 h fun w1=>gAgg x6 16 w1 fun x_3=>some (.tuple ⟨[.agg ⟨x_3⟩,.int .i64 isv]⟩,w1))):=by kernel_rfl
def B51:Cuts:={ globs:=0,loops:=[],regs:=[],plans:=[] }
def Dz5:List Item:=A4 Tryz.f70
theorem Gf4 (C:A1) (R:A2) (i:Int) (h:H) :
 A5 PR B51 C R A11 Tryz.f70 100000 true Dz5 [(0,.int .i64 i)] h =
 nw (.cells D2 false [.int .i64 0,.int .i64 0]) h fun b w=>pAgg ⟨b,0,none⟩ [.int .i64 1,.int .i64 i] w fun w1=>gAgg ⟨b,0,none⟩ 2 w1 fun x=>some (.agg ⟨x⟩,w1):=by kernel_rfl
def B28:Cuts:={ globs:=0,loops:=[],regs:=[],plans:=[(1,⟨[1,0,2,3,4,5,6],[0,0,3,7,7,31,63],[(0,[1])],[]⟩)] }
def D03:List Item:=A4 Tryz.f72
theorem Gg6 (C:A1) (R:A2) (p:List Value) (h:H) :
 A5 PR B28 C R A29 Tryz.f72 100000 true D03 [(0,.agg ⟨p⟩)] h =
 nw (.cells B9 false p) h fun b w=>gAgg ⟨b,0,none⟩ 16 w fun x=>bnd (C A88 [] w) fun r w1=>aPtr r fun x_1=>gAgg ⟨b,0,none⟩ 16 w1 fun x_2=>same (.agg ⟨x⟩) (.agg ⟨x_2⟩) (bnd (C U6 [.pointer x_1,.agg ⟨x⟩] w1) fun r_1 w2=>as2 r_1 fun r_2 r_3=>aSl r_2 fun x_3 xn xc=>aBool r_3 fun x_4=>some (.tuple ⟨[.slice x_3 xn xc,.bool x_4]⟩,w2)):=by kernel_rfl
def Bl0:Cuts:={ globs:=0,loops:=[],regs:=[],plans:=[] }
def De1:List Item:=A4 Tryz.f78
theorem Es4 (C:A1) (R:A2) (f:List Value) (h:H) :
 A5 PR Bl0 C R A05 Tryz.f78 100000 true De1 [(0,.agg ⟨f⟩)] h =
 nw (.cells D4 false f) h fun b w=>gInt .i64 (Addr.add ⟨b,0,none⟩ 0) w fun x=>gInt .i64 (Addr.add ⟨b,0,none⟩ 1) w fun x_1=>gInt .i64 (Addr.add ⟨b,0,none⟩ 2) w fun x_2=>gInt .i64 (Addr.add ⟨b,0,none⟩ 3) w fun x_3=>nw (.cells A3 false [.int .u8 (IntKind.wrap .u8 (x)),.int .u8 (IntKind.wrap .u8 (x_1)),.int .u8 (IntKind.wrap .u8 (x_2)),.int .u8 (IntKind.wrap .u8 (x_3)),.int .u8 179]) w fun b_1 w1=>gCells (some ⟨b_1,0,none⟩) 5 w1 fun cs=>asBytes cs fun l=>bnd (C Ad6 [.string (ByteArray.mk ⟨l⟩)] w1) fun r w2=>aInt .u8 r fun x_4=>nw (.cells A3 false [.int .u8 x_4,.int .u8 0,.int .u8 0]) w2 fun b_2 w3=>gCells (some ⟨b_2,0,none⟩) 3 w3 fun cs_1=>asBytes cs_1 fun l_1=>ck (ByteArray.size (ByteArray.mk ⟨l⟩)+ByteArray.size (ByteArray.mk ⟨l_1⟩)≤A8) (some (.string ((ByteArray.mk ⟨l⟩)++(ByteArray.mk ⟨l_1⟩)),w3)):=by kernel_rfl
def Ac1:Cuts:={ globs:=0,loops:=[],regs:=[(8,[6,8,11,12])],plans:=[(7,⟨[0,1,2,3,4,5,6,7,8,9],[0,1,3,7,0,31,63,31,159,511],[(7,[5])],[]⟩)] }
def Al9:List Item:=A4 Tryz.f84
def Ag7:List Item:=stk [0,1,0,1,0,1,0,1,0,1,0,1,0,0] Al9
theorem Dh8 (C:A1) (R:A2) (c:Option Addr) (r:List Value) (decode:Value) (h:H) :
 A5 PR Ac1 C R I9 Tryz.f84 100000 true Al9 [(0,.pointer c),(1,.agg ⟨r⟩),(2,decode)] h =
 nw (.cells D2 false r) h fun b w=>nw (.cells D4 false [.int .i64 0,.int .i64 0,.int .i64 0,.int .i64 0]) w fun b_1 w1=>nw (.cells D4 false [.int .i64 0,.int .i64 0,.int .i64 0,.int .i64 0]) w1 fun b_2 w2=>gAgg ⟨b,0,none⟩ 2 w2 fun x=>bnd (C N7 [.pointer c,.agg ⟨x⟩] w2) fun r_1 w3=>as2 r_1 fun r_2 r_3=>aSl r_2 fun x_1 xn xc=>aBool r_3 fun x_2=>cond (!x_2)
 (gAgg ⟨b_2,0,none⟩ 4 w3 fun x_3=>ck (List.length x_3=4) (pAgg ⟨b_1,0,none⟩ x_3 w3 fun w4=>gAgg ⟨b_1,0,none⟩ 4 w4 fun x_4=>some (.tuple ⟨[.agg ⟨x_4⟩,.int .i64 2]⟩,w4)))
 (aFn decode fun g fi cp=>bnd (C g (fi++([.slice x_1 xn xc]++cp)) w3) fun r_4 w5=>as2 r_4 fun r_5 r_6=>aAgg r_5 fun x_5=>aInt .i64 r_6 fun x_6=>nw (.cells D4 false [.int .i64 0,.int .i64 0,.int .i64 0,.int .i64 0]) w5 fun b_3 w6=>ck (List.length x_5=4) (pAgg ⟨b_3,0,none⟩ x_5 w6 fun w7=>cond (x_6==2)
 (aSome c fun p=>gMap (Addr.add p 3) w7 fun x_7=>gAgg ⟨b,0,none⟩ 2 w7 fun x_8=>keyN PR D2 (.agg ⟨x_8⟩) (opt x_7 fun r_7=>mapAt w7 r_7 fun es _=>opt (Aj6 (.int .i64 0) (.agg ⟨x_8⟩) es) fun f=>aInt .i64 f.1 fun x_9=>keyN PR D2 (.agg ⟨x_8⟩) (opt x_7 fun r_8=>mapAt w7 r_8 fun es_1 cl_1=>opt (Dw9 (.int .i64 0) (.agg ⟨x_8⟩) es_1 cl_1) fun f_1=>aInt .i64 f_1.1 fun _=>lt (H.set w7 r_8 f_1.2.2) fun w8=>keyN PR D2 (.agg ⟨x_8⟩) (opt x_7 fun r_9=>mapAt w8 r_9 fun es_2 _=>opt (Aj6 (.int .i64 0) (.agg ⟨x_8⟩) es_2) fun f_2=>aInt .i64 f_2.1 fun x_11=>same (.int .i64 x_9) (.int .i64 x_11) (opt x_7 fun r_10=>mapAt w8 r_10 fun es_3 cl_3=>opt (Bh9 (f_1.2.1:Int) es_3 0) fun i=>lt (H.set w8 r_10 (.map (modN (fun e=>{ e with val:=.int .i64 (IntKind.wrap .i64 (x_9+1)) }) i es_3) cl_3)) fun w9=>R I9 Ag7 [(6,.pointer (some ⟨b_1,0,none⟩)),(8,.pointer (some ⟨b_2,0,none⟩)),(11,.pointer (some ⟨b_3,0,none⟩)),(12,.int .i64 x_6)] w9)))))
 (R I9 Ag7 [(6,.pointer (some ⟨b_1,0,none⟩)),(8,.pointer (some ⟨b_2,0,none⟩)),(11,.pointer (some ⟨b_3,0,none⟩)),(12,.int .i64 x_6)] w7))):=by kernel_rfl
theorem A09 (C:A1) (R:A2) (x6:Addr) (nonev:Addr) (v:Addr) (isv:Int) (h:H) :
 A5 PR Ac1 C R I9 Tryz.f84 100000 true Ag7 [(6,.pointer (some x6)),(8,.pointer (some nonev)),(11,.pointer (some v)),(12,.int .i64 isv)] h =
 cond (isv != 1)
 (gAgg nonev 4 h fun x=>ck (List.length x=4) (pAgg x6 x h fun w=>gAgg x6 4 w fun x_1=>some (.tuple ⟨[.agg ⟨x_1⟩,.int .i64 isv]⟩,w)))
 (gAgg v 4 h fun x_2=>ck (List.length x_2=4) (pAgg x6 x_2 h fun w1=>gAgg x6 4 w1 fun x_3=>some (.tuple ⟨[.agg ⟨x_3⟩,.int .i64 isv]⟩,w1))):=by kernel_rfl
def B55:Cuts:={ globs:=0,loops:=[],regs:=[],plans:=[] }
def Dz0:List Item:=A4 Tryz.f85
theorem Ge7 (C:A1) (R:A2) (b:Option Addr) (bn bc:Nat) (h:H) :
 A5 PR B55 C R A20 Tryz.f85 100000 true Dz0 [(0,.slice b bn bc)] h =
 nw (.cells D4 false [.int .i64 0,.int .i64 0,.int .i64 0,.int .i64 0]) h fun b_1 w=>bnd (cond (((bn:Nat):Int)==8) (bnd (C Aj9 [.slice b bn bc] w) fun r w1=>aBool r fun x=>some (x,w1)) (some (false,w))) fun c w2=>cond c
 (pAgg ⟨b_1,0,none⟩ [.int .i64 0,.int .i64 0,.int .i64 0,.int .i64 0] w2 fun w3=>gAgg ⟨b_1,0,none⟩ 4 w3 fun x_1=>some (.tuple ⟨[.agg ⟨x_1⟩,.int .i64 0]⟩,w3))
 (bnd (C A80 [] w2) fun r_1 w4=>aPtr r_1 fun x_2=>bnd (C U2 [.pointer x_2,.slice b bn bc] w4) fun r_2 w5=>as2 r_2 fun r_3 r_4=>aAgg r_3 fun x_3=>aBool r_4 fun x_4=>nw (.cells D4 false [.int .i64 0,.int .i64 0,.int .i64 0,.int .i64 0]) w5 fun b_2 w6=>ck (List.length x_3=4) (pAgg ⟨b_2,0,none⟩ x_3 w6 fun w7=>cond (!x_4)
 (pAgg ⟨b_1,0,none⟩ [.int .i64 0,.int .i64 0,.int .i64 0,.int .i64 0] w7 fun w8=>gAgg ⟨b_1,0,none⟩ 4 w8 fun x_5=>some (.tuple ⟨[.agg ⟨x_5⟩,.int .i64 2]⟩,w8))
 (gAgg ⟨b_2,0,none⟩ 4 w7 fun x_6=>ck (List.length x_6=4) (pAgg ⟨b_1,0,none⟩ x_6 w7 fun w9=>gAgg ⟨b_1,0,none⟩ 4 w9 fun x_7=>some (.tuple ⟨[.agg ⟨x_7⟩,.int .i64 1]⟩,w9))))):=by kernel_rfl
def Dy2:Cuts:={ globs:=0,loops:=[],regs:=[],plans:=[] }
def Ex0:List Item:=A4 Tryz.f98
theorem Hb6 (C:A1) (R:A2) (p:List Value) (want:Int) (h:H) :
 A5 PR Dy2 C R Bn2 Tryz.f98 100000 true Ex0 [(0,.agg ⟨p⟩),(1,.int .i64 want)] h =
 nw (.cells B9 false p) h fun b w=>bnd (C V9 [.int .i64 8,.int .i64 want,.func (.func A75) ⟨[]⟩ ⟨[.pointer (some ⟨b,0,none⟩)]⟩] w) fun r w1=>aSl r fun x xn xc=>some (.slice x xn xc,w1):=by kernel_rfl
def Dk0:Cuts:={ globs:=0,loops:=[],regs:=[],plans:=[] }
def Ei5:List Item:=A4 Tryz.f100
theorem G06 (C:A1) (R:A2) (k:Int) (fv0:Addr) (h:H) :
 A5 PR Dk0 C R A16 Tryz.f100 100000 true Ei5 [(0,.int .i64 k),(1,.pointer (some fv0))] h =
 gPtr fv0 h fun x=>bnd (C J7 [.pointer x,.int .i64 k] h) fun r w=>as2 r fun r_1 r_2=>aAgg r_1 fun x_1=>aInt .i64 r_2 fun x_2=>nw (.cells D4 false [.int .i64 0,.int .i64 0,.int .i64 0,.int .i64 0]) w fun b w1=>ck (List.length x_1=4) (pAgg ⟨b,0,none⟩ x_1 w1 fun w2=>some (.bool (x_2==0),w2)):=by kernel_rfl
def D40:Cuts:={ globs:=0,loops:=[],regs:=[],plans:=[] }
def E53:List Item:=A4 Tryz.f102
theorem Hn9 (C:A1) (R:A2) (ok:Bool) (n:Int) (h:H) :
 A5 PR D40 C R By6 Tryz.f102 100000 true E53 [(0,.bool ok),(1,.int .i64 n)] h =
 nw (.cells L8 false [.int .i64 0,.int .i64 0,.slice none 0 0,.bool false]) h fun b w=>cond (!ok)
 (bnd (C I4 [.int .i64 105] w) fun r w1=>aAgg r fun x=>ck (List.length x=4) (pAgg ⟨b,0,none⟩ x w1 fun w2=>gAgg ⟨b,0,none⟩ 4 w2 fun x_1=>some (.agg ⟨x_1⟩,w2)))
 (pAgg ⟨b,0,none⟩ [.int .i64 n,.int .i64 0,.slice none 0 0,.bool false] w fun w3=>gAgg ⟨b,0,none⟩ 4 w3 fun x_2=>some (.agg ⟨x_2⟩,w3)):=by kernel_rfl
def Eg2:Cuts:={ globs:=0,loops:=[],regs:=[],plans:=[] }
def Gi4:List Item:=A4 Tryz.f113
theorem Hr2 (C:A1) (R:A2) (frames:Int) (h:H) :
 A5 PR Eg2 C R Ds2 Tryz.f113 100000 true Gi4 [(0,.int .i64 frames)] h =
 ck ((0:Int)≤IntKind.wrap .i64 (64*(mm2 false (mm2 true frames 0) 256))∧(IntKind.wrap .i64 (64*(mm2 false (mm2 true frames 0) 256)):Int)≤IntKind.wrap .i64 (64*(mm2 false (mm2 true frames 0) 256))∧IntKind.wrap .i64 (64*(mm2 false (mm2 true frames 0) 256))≤(A8:Int)) (nw (.cells A3 false (G7 (Int.toNat (IntKind.wrap .i64 (64*(mm2 false (mm2 true frames 0) 256)))) [.int .u8 0])) h fun b w=>nw (.cells En3 false [.slice (some ⟨b,0,none⟩) (Int.toNat (IntKind.wrap .i64 (64*(mm2 false (mm2 true frames 0) 256)))) (Int.toNat (IntKind.wrap .i64 (64*(mm2 false (mm2 true frames 0) 256))))]) w fun b_1 w1=>some (.pointer (some ⟨b_1,0,none⟩),w1)):=by kernel_rfl
def D98:Cuts:={ globs:=0,loops:=[],regs:=[],plans:=[] }
def E44:List Item:=A4 Tryz.f117
theorem Hf9 (C:A1) (R:A2) (lease:Int) (h:H) :
 A5 PR D98 C R Dh0 Tryz.f117 100000 true E44 [(0,.int .i64 lease)] h =
 nw (.cells Ex1 false [.int .i64 (mm2 false (mm2 true lease 1) 1000),.bool false,.int .i64 0,.int .i64 0,.int .i64 0,.slice none 0 0,.int .i64 0,.int .i64 0,.int .i64 0]) h fun b w=>some (.pointer (some ⟨b,0,none⟩),w):=by kernel_rfl
def A49:Cuts:={ globs:=0,loops:=[],regs:=[],plans:=[] }
def Bv0:List Item:=A4 Tryz.f118
theorem D57 (C:A1) (R:A2) (r:Option Addr) (lo:Int) (n:Int) (h:H) :
 A5 PR A49 C R An2 Tryz.f118 100000 true Bv0 [(0,.pointer r),(1,.int .i64 lo),(2,.int .i64 n)] h =
 bnd (cond (decide (lo<0)) (some (true,h)) (some (decide (n<0),h))) fun c w=>bnd (cond c (some (true,w)) (aSome r fun p=>gPtr (Addr.add p 0) w fun x=>bnd (C A10 [.pointer x] w) fun r_1 w1=>aInt .i64 r_1 fun x_1=>some (decide (lo>x_1),w1))) fun c_1 w2=>bnd (cond c_1 (some (true,w2)) (aSome r fun p_1=>gPtr (Addr.add p_1 0) w2 fun x_2=>bnd (C A10 [.pointer x_2] w2) fun r_2 w3=>aInt .i64 r_2 fun x_3=>some (decide (n>(IntKind.wrap .i64 (x_3-lo))),w3))) fun c_2 w4=>cond c_2
 (some (.tuple ⟨[.int .i64 0,.int .i64 1]⟩,w4))
 (aSome r fun p_2=>gSl (Addr.add p_2 2) w4 fun _ xn _=>cond (decide (((xn:Nat):Int)≥32))
 (some (.tuple ⟨[.int .i64 0,.int .i64 4]⟩,w4))
 (aSome r fun p_3=>gSl (Addr.add p_3 2) w4 fun x_5 xn_1 xc_1=>nw (.cells At6 false [.int .i64 lo,.int .i64 n]) w4 fun b w5=>gCells (some ⟨b,0,none⟩) (1*2) w5 fun cs=>ckB (fitsOpen x_5 At6 w5) (apd At6 2 x_5 xn_1 xc_1 1 cs w5 fun a an ac w6=>aSome r fun p_4=>pV (Addr.add p_4 2) (.slice a an ac) w6 fun w7=>aSome r fun p_5=>gSl (Addr.add p_5 2) w7 fun _ xn_2 _=>some (.tuple ⟨[.int .i64 (IntKind.wrap .i64 (((xn_2:Nat):Int)-1)),.int .i64 0]⟩,w7)))):=by kernel_rfl
def Bc1:Cuts:={ globs:=0,loops:=[(3,[0,3,4])],regs:=[],plans:=[(5,⟨[0,1,2,3,4,5,6,7,8,9,10],[0,0,2,6,14,0,32,126,255,511,1023],[(5,[4])],[]⟩),(6,⟨[0,1,2,3,4,5,6,7,8,9,10],[0,0,2,6,14,0,32,126,255,511,1023],[],[]⟩)] }
def Bw6:List Item:=A4 Tryz.f124
def Aw4:List Item:=stk [0,1,0,1,0,0,1,4,5] Bw6
theorem E97 (C:A1) (R:A2) (envs:Int) (h:H) :
 A5 PR Bc1 C R Y6 Tryz.f124 100000 true Bw6 [(0,.int .i64 envs)] h =
 nw (.cells Ei2 false [.slice none 0 0,.slice none 0 0]) h fun b w=>R Y6 Aw4 [(0,.int .i64 envs),(3,.pointer (some ⟨b,0,none⟩)),(4,.int .i64 0)] w:=by kernel_rfl
theorem B97 (C:A1) (R:A2) (envs:Int) (s:Addr) (i:Int) (h:H) :
 A5 PR Bc1 C R Y6 Tryz.f124 100000 true Aw4 [(0,.int .i64 envs),(3,.pointer (some s)),(4,.int .i64 i)] h =
 bnd (cond (decide (i<envs)) (some (decide (i<40),h)) (some (false,h))) fun c w=>cond c
 (gSl (Addr.add s 0) w fun x xn xc=>bnd (C Y8 [.int .i64 32] w) fun r w1=>aPtr r fun x_1=>gSl (Addr.add s 0) w1 fun x_2 xn_1 xc_1=>same (.slice x xn xc) (.slice x_2 xn_1 xc_1) (nw (.cells A13 false [.pointer x_1]) w1 fun b w2=>gCells (some ⟨b,0,none⟩) (1*1) w2 fun cs=>ckB (fitsOpen x A13 w2) (apd A13 1 x xn xc 1 cs w2 fun a an ac w3=>pV (Addr.add s 0) (.slice a an ac) w3 fun w4=>gSl (Addr.add s 1) w4 fun x_3 xn_2 xc_2=>ck ((0:Int)≤32∧(32:Int)≤32∧32≤(A8:Int)) (nw (.cells P1 false (G7 (Int.toNat 32) [.int .i64 0,.int .i64 0,.int .i64 0,.int .i64 0,.int .i64 0,.int .i64 0])) w4 fun b_1 w5=>nw (.cells Bn7 false [.slice (some ⟨b_1,0,none⟩) (Int.toNat 32) (Int.toNat 32)]) w5 fun b_2 w6=>gCells (some ⟨b_2,0,none⟩) (1*1) w6 fun cs_1=>ckB (fitsOpen x_3 Bn7 w6) (apd Bn7 1 x_3 xn_2 xc_2 1 cs_1 w6 fun a_1 an_1 ac_1 w7=>pV (Addr.add s 1) (.slice a_1 an_1 ac_1) w7 fun w8=>R Y6 Aw4 [(0,.int .i64 envs),(3,.pointer (some s)),(4,.int .i64 (IntKind.wrap .i64 (i+1)))] w8)))))
 (some (.pointer (some s),w)):=by kernel_rfl
def B35:Cuts:={ globs:=0,loops:=[],regs:=[],plans:=[] }
def D19:List Item:=A4 Tryz.f125
theorem Gd8 (C:A1) (R:A2) (lease:Int) (h:H) :
 A5 PR B35 C R Bi3 Tryz.f125 100000 true D19 [(0,.int .i64 lease)] h =
 nw (.cells Ev2 false [.int .i64 (mm2 false (mm2 true lease 1) 1000),.int .i64 0,.int .i64 0,.int .i64 0,.int .i64 0,.int .i64 0,.bool false,.int .i64 0,.slice none 0 0]) h fun b w=>some (.pointer (some ⟨b,0,none⟩),w):=by kernel_rfl
def Ds7:Cuts:={ globs:=0,loops:=[(2,[0,1,5])],regs:=[],plans:=[] }
def Eh0:List Item:=A4 Tryz.f127
def B01:List Item:=stk [0,1,0,0,1,4,5] Eh0
theorem Ht7 (C:A1) (R:A2) (l:Option Addr) (ln lc:Nat) (s:Int) (h:H) :
 A5 PR Ds7 C R A40 Tryz.f127 100000 true Eh0 [(0,.slice l ln lc),(1,.int .i64 s)] h =
 R A40 B01 [(0,.slice l ln lc),(1,.int .i64 s),(5,.int .i64 0)] h:=by kernel_rfl
theorem Ei3 (C:A1) (R:A2) (l:Option Addr) (ln lc:Nat) (s:Int) (i:Int) (h:H) :
 A5 PR Ds7 C R A40 Tryz.f127 100000 true B01 [(0,.slice l ln lc),(1,.int .i64 s),(5,.int .i64 i)] h =
 cond (decide (i<((ln:Nat):Int)))
 (aSome l fun p=>ck ((0:Int)≤i∧i<((ln:Nat):Int)) (gInt .i64 (Addr.add (A9 p) (Int.toNat i*1)) h fun x=>cond (x==s)
 (some (.bool true,h))
 (R A40 B01 [(0,.slice l ln lc),(1,.int .i64 s),(5,.int .i64 (IntKind.wrap .i64 (i+1)))] h)))
 (some (.bool false,h)):=by kernel_rfl
def Dm0:Cuts:={ globs:=0,loops:=[],regs:=[],plans:=[] }
def Ek7:List Item:=A4 Tryz.f143
theorem G31 (C:A1) (R:A2)  (h:H) :
 A5 PR Dm0 C R Bg1 Tryz.f143 100000 true Ek7 [] h =
 bnd (C Am3 [.int .i64 40,.func (.func Bi9) ⟨[]⟩ ⟨[]⟩,.func (.func Bh2) ⟨[]⟩ ⟨[]⟩] h) fun r w=>aPtr r fun x=>some (.pointer x,w):=by kernel_rfl
def Af1:Cuts:={ globs:=0,loops:=[],regs:=[],plans:=[(4,⟨[0,1,2,3,4,10,5,6,7,8,9,11,12],[0,1,3,7,0,16,63,127,255,255,0,1535,4095],[(5,[3])],[]⟩)] }
def Az1:List Item:=A4 Tryz.f148
theorem B11 (C:A1) (R:A2) (c:Option Addr) (b:Option Addr) (bn bc:Nat) (h:H) :
 A5 PR Af1 C R U4 Tryz.f148 100000 true Az1 [(0,.pointer c),(1,.slice b bn bc)] h =
 nw (.cells G8 false [.int .i64 0,.int .i64 0,.int .i64 0,.int .i64 0,.int .u8 0,.int .u8 0,.int .u8 0,.int .u8 0,.int .u8 0,.int .u8 0,.int .u8 0,.int .u8 0,.int .u8 0,.int .u8 0,.int .u8 0,.int .u8 0,.int .u8 0,.int .u8 0,.int .u8 0,.int .u8 0,.int .u8 0,.int .u8 0,.int .u8 0,.int .u8 0,.int .u8 0,.int .u8 0,.int .u8 0,.int .u8 0,.int .u8 0,.int .u8 0,.int .u8 0,.int .u8 0,.int .u8 0,.int .u8 0,.int .u8 0,.int .u8 0]) h fun b_1 w=>nw (.cells G8 false [.int .i64 0,.int .i64 0,.int .i64 0,.int .i64 0,.int .u8 0,.int .u8 0,.int .u8 0,.int .u8 0,.int .u8 0,.int .u8 0,.int .u8 0,.int .u8 0,.int .u8 0,.int .u8 0,.int .u8 0,.int .u8 0,.int .u8 0,.int .u8 0,.int .u8 0,.int .u8 0,.int .u8 0,.int .u8 0,.int .u8 0,.int .u8 0,.int .u8 0,.int .u8 0,.int .u8 0,.int .u8 0,.int .u8 0,.int .u8 0,.int .u8 0,.int .u8 0,.int .u8 0,.int .u8 0,.int .u8 0,.int .u8 0]) w fun b_2 w1=>aSome c fun p=>gFv (Addr.add p 2) w1 fun x=>isNilF x fun b_3=>bnd (cond b_3 (some (true,w1)) (aSome c fun p_1=>gInt .i64 (Addr.add p_1 0) w1 fun x_1=>some (((bn:Nat):Int) != x_1,w1))) fun c_1 w2=>cond c_1
 (gAgg ⟨b_2,0,none⟩ 36 w2 fun x_2=>ck (List.length x_2=36) (pAgg ⟨b_1,0,none⟩ x_2 w2 fun w3=>gAgg ⟨b_1,0,none⟩ 36 w3 fun x_3=>some (.tuple ⟨[.agg ⟨x_3⟩,.bool false]⟩,w3)))
 (aSome c fun p_2=>gFv (Addr.add p_2 2) w2 fun x_4=>nw (.cells G8 false [.int .i64 0,.int .i64 0,.int .i64 0,.int .i64 0,.int .u8 0,.int .u8 0,.int .u8 0,.int .u8 0,.int .u8 0,.int .u8 0,.int .u8 0,.int .u8 0,.int .u8 0,.int .u8 0,.int .u8 0,.int .u8 0,.int .u8 0,.int .u8 0,.int .u8 0,.int .u8 0,.int .u8 0,.int .u8 0,.int .u8 0,.int .u8 0,.int .u8 0,.int .u8 0,.int .u8 0,.int .u8 0,.int .u8 0,.int .u8 0,.int .u8 0,.int .u8 0,.int .u8 0,.int .u8 0,.int .u8 0,.int .u8 0]) w2 fun b_4 w4=>bnd (C E8 [.slice b bn bc] w4) fun r w5=>aSl r fun x_5 xn xc=>gFv (Addr.add p_2 2) w5 fun x_6=>Bi7 (x_4) (x_6) (aFn x_4 fun g fi cp=>bnd (C g (fi++([.slice x_5 xn xc]++cp)) w5) fun r_1 w6=>as2 r_1 fun r_2 r_3=>aAgg r_2 fun x_7=>aBool r_3 fun x_8=>ck (List.length x_7=36) (pAgg ⟨b_4,0,none⟩ x_7 w6 fun w7=>cond (!x_8)
 (gAgg ⟨b_2,0,none⟩ 36 w7 fun x_9=>ck (List.length x_9=36) (pAgg ⟨b_1,0,none⟩ x_9 w7 fun w8=>gAgg ⟨b_1,0,none⟩ 36 w8 fun x_10=>some (.tuple ⟨[.agg ⟨x_10⟩,.bool false]⟩,w8)))
 (gAgg ⟨b_4,0,none⟩ 36 w7 fun x_11=>ck (List.length x_11=36) (pAgg ⟨b_1,0,none⟩ x_11 w7 fun w9=>gAgg ⟨b_1,0,none⟩ 36 w9 fun x_12=>some (.tuple ⟨[.agg ⟨x_12⟩,.bool true]⟩,w9)))))):=by kernel_rfl
def A08:Cuts:={ globs:=0,loops:=[],regs:=[],plans:=[] }
def Bu6:List Item:=A4 Tryz.f151
theorem Dz6 (C:A1) (R:A2) (r:Option Addr) (env:Int) (fromv:Int) (atv:Int) (to:Int) (on:Int) (n:Int) (h:H) :
 A5 PR A08 C R Aj7 Tryz.f151 100000 true Bu6 [(0,.pointer r),(1,.int .i64 env),(2,.int .i64 fromv),(3,.int .i64 atv),(4,.int .i64 to),(5,.int .i64 on),(6,.int .i64 n)] h =
 bnd (C Ab3 [.pointer r,.int .i64 env,.int .i64 fromv,.int .i64 atv,.int .i64 n] h) fun r_1 w=>as2 r_1 fun r_2 r_3=>aSl r_2 fun x xn xc=>aInt .i64 r_3 fun x_1=>cond (x_1 != 0)
 (some (.int .i64 x_1,w))
 (bnd (C Z8 [.pointer r,.int .i64 env,.int .i64 to,.int .i64 on,.slice x xn xc] w) fun r_4 w1=>aInt .i64 r_4 fun x_2=>some (.int .i64 x_2,w1)):=by kernel_rfl
def Bd9:Cuts:={ globs:=0,loops:=[],regs:=[],plans:=[] }
def B91:List Item:=A4 Tryz.f152
theorem Eo0 (C:A1) (R:A2) (s:Option Addr) (env:Int) (name:Int) (to:Int) (give:Int) (lo:Int) (n:Int) (h:H) :
 A5 PR Bd9 C R Av6 Tryz.f152 100000 true B91 [(0,.pointer s),(1,.int .i64 env),(2,.int .i64 name),(3,.int .i64 to),(4,.int .i64 give),(5,.int .i64 lo),(6,.int .i64 n)] h =
 bnd (C Ar1 [.pointer s,.int .i64 env,.int .i64 name] h) fun r w=>as2 r fun r_1 r_2=>aAgg r_1 fun x=>aInt .i64 r_2 fun x_1=>nw (.cells P1 false [.int .i64 0,.int .i64 0,.int .i64 0,.int .i64 0,.int .i64 0,.int .i64 0]) w fun b w1=>ck (List.length x=6) (pAgg ⟨b,0,none⟩ x w1 fun w2=>cond (x_1 != 0)
 (some (.tuple ⟨[.int .i64 0,.int .i64 x_1]⟩,w2))
 (gInt .i64 (Addr.add ⟨b,0,none⟩ 1) w2 fun x_2=>bnd (cond ((B4 .i64 x_2 4)==0) (some (true,w2)) (gInt .i64 (Addr.add ⟨b,0,none⟩ 1) w2 fun x_3=>some ((Eh2 .i64 give x_3) != 0,w2))) fun c w3=>cond c
 (some (.tuple ⟨[.int .i64 0,.int .i64 3]⟩,w3))
 (bnd (C Ad5 [.pointer s,.int .i64 to] w3) fun r_3 w4=>aBool r_3 fun x_4=>bnd (cond (!x_4) (some (true,w4)) (some (decide (lo<0),w4))) fun c_1 w5=>bnd (cond c_1 (some (true,w5)) (some (decide (n<0),w5))) fun c_2 w6=>bnd (cond c_2 (some (true,w6)) (gInt .i64 (Addr.add ⟨b,0,none⟩ 3) w6 fun x_5=>some (decide (lo>x_5),w6))) fun c_3 w7=>bnd (cond c_3 (some (true,w7)) (gInt .i64 (Addr.add ⟨b,0,none⟩ 3) w7 fun x_6=>some (decide (n>(IntKind.wrap .i64 (x_6-lo))),w7))) fun c_4 w8=>cond c_4
 (some (.tuple ⟨[.int .i64 0,.int .i64 1]⟩,w8))
 (gInt .i64 (Addr.add ⟨b,0,none⟩ 0) w8 fun x_7=>gInt .i64 (Addr.add ⟨b,0,none⟩ 2) w8 fun x_8=>bnd (C Ar0 [.pointer s,.int .i64 to,.agg ⟨[.int .i64 x_7,.int .i64 give,.int .i64 (IntKind.wrap .i64 (x_8+lo)),.int .i64 n,.int .i64 env,.int .i64 name]⟩] w8) fun r_4 w9=>as2 r_4 fun r_5 r_6=>aInt .i64 r_5 fun x_9=>aInt .i64 r_6 fun x_10=>some (.tuple ⟨[.int .i64 x_9,.int .i64 x_10]⟩,w9))))):=by kernel_rfl
def Af0:Cuts:={ globs:=0,loops:=[],regs:=[],plans:=[(2,⟨[0,1,2,3,4,5,6,7,8,9,10,11,12,13,14],[0,1,3,7,15,31,63,127,255,511,63,63,4095,8191,16383],[],[]⟩)] }
def Ay7:List Item:=A4 Tryz.f160
theorem B15 (C:A1) (R:A2) (c:Option Addr) (v:List Value) (h:H) :
 A5 PR Af0 C R U6 Tryz.f160 100000 true Ay7 [(0,.pointer c),(1,.agg ⟨v⟩)] h =
 nw (.cells B9 false v) h fun b w=>aSome c fun p=>gInt .i64 (Addr.add p 0) w fun x=>ck ((0:Int)≤x∧(x:Int)≤x∧x≤(A8:Int)) (nw (.cells A3 false (G7 (Int.toNat x) [.int .u8 0])) w fun b_1 w1=>aSome c fun p_1=>gFv (Addr.add p_1 1) w1 fun x_1=>isNilF x_1 fun b_2=>bnd (cond b_2 (some (true,w1)) (aSome c fun p_2=>gFv (Addr.add p_2 1) w1 fun x_2=>gAgg ⟨b,0,none⟩ 16 w1 fun x_3=>aFn x_2 fun g fi cp=>bnd (C g (fi++([.agg ⟨x_3⟩,.slice (some ⟨b_1,0,none⟩) (Int.toNat x) (Int.toNat x)]++cp)) w1) fun r w2=>aBool r fun x_4=>some (!x_4,w2))) fun c_1 w3=>cond c_1
 (some (.tuple ⟨[.slice none 0 0,.bool false]⟩,w3))
 (some (.tuple ⟨[.slice (some ⟨b_1,0,none⟩) (Int.toNat x) (Int.toNat x),.bool true]⟩,w3))):=by kernel_rfl
def Af4:Cuts:={ globs:=0,loops:=[],regs:=[],plans:=[(4,⟨[0,1,2,3,4,10,5,6,7,8,9,11,12],[0,1,3,7,0,16,63,127,255,255,0,1535,4095],[(5,[3])],[]⟩)] }
def Az2:List Item:=A4 Tryz.f166
theorem B13 (C:A1) (R:A2) (c:Option Addr) (b:Option Addr) (bn bc:Nat) (h:H) :
 A5 PR Af4 C R U2 Tryz.f166 100000 true Az2 [(0,.pointer c),(1,.slice b bn bc)] h =
 nw (.cells D4 false [.int .i64 0,.int .i64 0,.int .i64 0,.int .i64 0]) h fun b_1 w=>nw (.cells D4 false [.int .i64 0,.int .i64 0,.int .i64 0,.int .i64 0]) w fun b_2 w1=>aSome c fun p=>gFv (Addr.add p 2) w1 fun x=>isNilF x fun b_3=>bnd (cond b_3 (some (true,w1)) (aSome c fun p_1=>gInt .i64 (Addr.add p_1 0) w1 fun x_1=>some (((bn:Nat):Int) != x_1,w1))) fun c_1 w2=>cond c_1
 (gAgg ⟨b_2,0,none⟩ 4 w2 fun x_2=>ck (List.length x_2=4) (pAgg ⟨b_1,0,none⟩ x_2 w2 fun w3=>gAgg ⟨b_1,0,none⟩ 4 w3 fun x_3=>some (.tuple ⟨[.agg ⟨x_3⟩,.bool false]⟩,w3)))
 (aSome c fun p_2=>gFv (Addr.add p_2 2) w2 fun x_4=>nw (.cells D4 false [.int .i64 0,.int .i64 0,.int .i64 0,.int .i64 0]) w2 fun b_4 w4=>bnd (C E8 [.slice b bn bc] w4) fun r w5=>aSl r fun x_5 xn xc=>gFv (Addr.add p_2 2) w5 fun x_6=>Bi7 (x_4) (x_6) (aFn x_4 fun g fi cp=>bnd (C g (fi++([.slice x_5 xn xc]++cp)) w5) fun r_1 w6=>as2 r_1 fun r_2 r_3=>aAgg r_2 fun x_7=>aBool r_3 fun x_8=>ck (List.length x_7=4) (pAgg ⟨b_4,0,none⟩ x_7 w6 fun w7=>cond (!x_8)
 (gAgg ⟨b_2,0,none⟩ 4 w7 fun x_9=>ck (List.length x_9=4) (pAgg ⟨b_1,0,none⟩ x_9 w7 fun w8=>gAgg ⟨b_1,0,none⟩ 4 w8 fun x_10=>some (.tuple ⟨[.agg ⟨x_10⟩,.bool false]⟩,w8)))
 (gAgg ⟨b_4,0,none⟩ 4 w7 fun x_11=>ck (List.length x_11=4) (pAgg ⟨b_1,0,none⟩ x_11 w7 fun w9=>gAgg ⟨b_1,0,none⟩ 4 w9 fun x_12=>some (.tuple ⟨[.agg ⟨x_12⟩,.bool true]⟩,w9)))))):=by kernel_rfl
def Ak0:Cuts:={ globs:=0,loops:=[],regs:=[],plans:=[] }
def A96:List Item:=A4 Tryz.f172
theorem Da8 (C:A1) (R:A2) (c:Option Addr) (i:Int) (h:H) :
 A5 PR Ak0 C R Aa5 Tryz.f172 100000 true A96 [(0,.pointer c),(1,.int .i64 i)] h =
 bnd (C Ap9 [.int .i64 i] h) fun r w=>aAgg r fun x=>bnd (C W7 [.pointer c,.agg ⟨x⟩] w) fun r_1 w1=>aBool r_1 fun x_1=>some (.bool x_1,w1):=by kernel_rfl
def Do2:Cuts:={ globs:=0,loops:=[],regs:=[],plans:=[] }
def Em1:List Item:=A4 Tryz.f176
theorem G19 (C:A1) (R:A2) (c:List Value) (x:List Value) (h:H) :
 A5 PR Do2 C R Bw2 Tryz.f176 100000 true Em1 [(0,.agg ⟨c⟩),(1,.agg ⟨x⟩)] h =
 nw (.cells D5 false c) h fun b w=>nw (.cells H8 false x) w fun b_1 w1=>gInt .i64 (Addr.add ⟨b_1,0,none⟩ 0) w1 fun x_1=>bnd (cond (decide (x_1<0)) (some (true,w1)) (gInt .i64 (Addr.add ⟨b_1,0,none⟩ 0) w1 fun x_2=>gSl (Addr.add ⟨b,0,none⟩ 0) w1 fun _ xn _=>some (decide (x_2≥((xn:Nat):Int)),w1))) fun c_1 w2=>bnd (cond c_1 (some (true,w2)) (gInt .i64 (Addr.add ⟨b_1,0,none⟩ 1) w2 fun x_4=>some (decide (x_4<0),w2))) fun c_2 w3=>bnd (cond c_2 (some (true,w3)) (gInt .i64 (Addr.add ⟨b_1,0,none⟩ 2) w3 fun x_5=>some (decide (x_5<0),w3))) fun c_3 w4=>bnd (cond c_3 (some (true,w4)) (gInt .i64 (Addr.add ⟨b_1,0,none⟩ 3) w4 fun x_6=>some (decide (x_6<0),w4))) fun c_4 w5=>cond c_4
 (some (.bool false,w5))
 (gSl (Addr.add ⟨b,0,none⟩ 0) w5 fun x_7 xn_1 _=>gInt .i64 (Addr.add ⟨b_1,0,none⟩ 0) w5 fun x_8=>aSome x_7 fun p=>ck ((0:Int)≤x_8∧x_8<((xn_1:Nat):Int)) (gInt .i64 (Addr.add (A9 p) (Int.toNat x_8*1)) w5 fun x_9=>bnd (C A78 [.int .i64 x_9] w5) fun r w6=>aInt .i64 r fun x_10=>gInt .i64 (Addr.add ⟨b_1,0,none⟩ 1) w6 fun x_11=>cond (decide (x_11>x_10))
 (some (.bool false,w6))
 (gInt .i64 (Addr.add ⟨b_1,0,none⟩ 1) w6 fun x_12=>gInt .i64 (Addr.add ⟨b_1,0,none⟩ 2) w6 fun x_13=>bnd (cond (decide (x_13≤(IntKind.wrap .i64 ((IntKind.wrap .i64 (x_10-x_12))*64)))) (gInt .i64 (Addr.add ⟨b_1,0,none⟩ 3) w6 fun x_14=>gInt .i64 (Addr.add ⟨b_1,0,none⟩ 2) w6 fun x_15=>some (decide (x_14≤(IntKind.wrap .i64 ((IntKind.wrap .i64 ((IntKind.wrap .i64 (x_10-x_12))*64))-x_15))),w6)) (some (false,w6))) fun c_5 w7=>some (.bool c_5,w7)))):=by kernel_rfl
def Ar8:Cuts:={ globs:=0,loops:=[(3,[3,15,16])],regs:=[],plans:=[] }
def Bb3:List Item:=A4 Tryz.f177
def Ai2:List Item:=stk [0,1,0,1,0,0,1,4,5] Bb3
theorem Ed4 (C:A1) (R:A2) (size:Int) (h:H) :
 A5 PR Ar8 C R O7 Tryz.f177 100000 true Bb3 [(0,.int .i64 size)] h =
 ck ((0:Int)≤mm2 false (mm2 true size 0) 256∧(mm2 false (mm2 true size 0) 256:Int)≤mm2 false (mm2 true size 0) 256∧mm2 false (mm2 true size 0) 256≤(A8:Int)) (nw (.cells Aj4 false (G7 (Int.toNat (mm2 false (mm2 true size 0) 256)) [.int .i64 0,.int .i64 0,.int .i64 0,.int .i64 0,.int .i64 0,.int .i64 0,.int .i64 0,.bool false])) h fun b w=>nw (.cells Bt5 false [.slice (some ⟨b,0,none⟩) (Int.toNat (mm2 false (mm2 true size 0) 256)) (Int.toNat (mm2 false (mm2 true size 0) 256))]) w fun b_1 w1=>gSl (Addr.add ⟨b_1,0,none⟩ 0) w1 fun _ xn _=>R O7 Ai2 [(3,.pointer (some ⟨b_1,0,none⟩)),(15,.int .i64 ((xn:Nat):Int)),(16,.int .i64 0)] w1):=by kernel_rfl
theorem Bn3 (C:A1) (R:A2) (t:Addr) (x15:Int) (x16:Int) (h:H) :
 A5 PR Ar8 C R O7 Tryz.f177 100000 true Ai2 [(3,.pointer (some t)),(15,.int .i64 x15),(16,.int .i64 x16)] h =
 cond (decide (x16<x15))
 (gSl (Addr.add t 0) h fun x xn _=>aSome x fun p=>ck ((0:Int)≤x16∧x16<((xn:Nat):Int)) (pV (Addr.add (Addr.add (A9 p) (Int.toNat x16*8)) 6) (.int .i64 1) h fun w=>R O7 Ai2 [(3,.pointer (some t)),(15,.int .i64 x15),(16,.int .i64 (IntKind.wrap .i64 (x16+1)))] w))
 (some (.pointer (some t),h)):=by kernel_rfl
def Da6:Cuts:={ globs:=0,loops:=[],regs:=[],plans:=[] }
def Eb4:List Item:=A4 Tryz.f183
theorem Gn3 (C:A1) (R:A2) (atv:Int) (n:Int) (size:Int) (h:H) :
 A5 PR Da6 C R Ae4 Tryz.f183 100000 true Eb4 [(0,.int .i64 atv),(1,.int .i64 n),(2,.int .i64 size)] h =
 bnd (cond (decide (atv≥0)) (some (decide (n≥0),h)) (some (false,h))) fun c w=>bnd (cond c (some (decide (atv≤size),w)) (some (false,w))) fun c_1 w1=>bnd (cond c_1 (some (decide (n≤(IntKind.wrap .i64 (size-atv))),w1)) (some (false,w1))) fun c_2 w2=>some (.bool c_2,w2):=by kernel_rfl
def Ak5:Cuts:={ globs:=0,loops:=[],regs:=[],plans:=[] }
def A92:List Item:=A4 Tryz.f195
theorem Dc9 (C:A1) (R:A2) (t:Option Addr) (i:Int) (h:H) :
 A5 PR Ak5 C R M9 Tryz.f195 100000 true A92 [(0,.pointer t),(1,.int .i64 i)] h =
 aSome t fun p=>gSl (Addr.add p 0) h fun x xn _=>aSome x fun p_1=>ck ((0:Int)≤i∧i<((xn:Nat):Int)) (gInt .i64 (Addr.add (Addr.add (A9 p_1) (Int.toNat i*8)) 6) h fun x_1=>some (.int .i64 (IntKind.wrap .i64 (i+(IntKind.wrap .i64 (256*x_1)))),h)):=by kernel_rfl
def D82:Cuts:={ globs:=0,loops:=[],regs:=[],plans:=[(5,⟨[0,1,2,3,4],[0,1,0,4,15],[],[]⟩)] }
def E72:List Item:=A4 Tryz.f197
theorem Hk0 (C:A1) (R:A2) (p:List Value) (b:Option Addr) (bn bc:Nat) (h:H) :
 A5 PR D82 C R Bi9 Tryz.f197 100000 true E72 [(0,.agg ⟨p⟩),(1,.slice b bn bc)] h =
 nw (.cells G8 false p) h fun b_1 w=>gAgg ⟨b_1,0,none⟩ 36 w fun x=>bnd (C Dr5 [.agg ⟨x⟩] w) fun r w1=>aBool r fun x_1=>cond (!x_1)
 (some (.bool false,w1))
 (gInt .i64 (Addr.add ⟨b_1,0,none⟩ 0) w1 fun x_2=>gInt .i64 (Addr.add ⟨b_1,0,none⟩ 1) w1 fun x_3=>gInt .i64 (Addr.add ⟨b_1,0,none⟩ 2) w1 fun x_4=>gInt .i64 (Addr.add ⟨b_1,0,none⟩ 3) w1 fun x_5=>nw (.cells A3 false [.int .u8 1,.int .u8 (IntKind.wrap .u8 (x_2)),.int .u8 (IntKind.wrap .u8 (x_3)),.int .u8 (IntKind.wrap .u8 (x_4)),.int .u8 (IntKind.wrap .u8 (x_5)),.int .u8 197]) w1 fun b_2 w2=>gCells (some ⟨b_2,0,none⟩) (min 6 bn*1) w2 fun cs=>pCells b cs w2 fun w3=>ckB (fitsOpen b A3 w3) (ck ((0:Int)≤6∧6≤((bc:Nat):Int)) (bnd (C Z6 [.slice (H4 b (decide (0<bc)) (0*1)) ((Int.toNat 6)-0) (bc-0)] w3) fun r_1 w4=>aInt .u8 r_1 fun x_6=>aSome b fun p_1=>ck ((0:Int)≤6∧6<((bn:Nat):Int)) (pV (Addr.add (A9 p_1) (Int.toNat 6*1)) (.int .u8 x_6) w4 fun w5=>ckB (fitsOpen b A3 w5) (ck ((0:Int)≤8∧8≤((bn:Nat):Int)) (ckB (liveA (Addr.add ⟨b_1,0,none⟩ 4) w5) (gCells (H4 (some (Addr.add ⟨b_1,0,none⟩ 4)) (decide (0<32)) (0*1)) (min (32-0) (bn-(Int.toNat 8))*1) w5 fun cs_1=>pCells (H4 b (decide (Int.toNat 8<bc)) ((Int.toNat 8)*1)) cs_1 w5 fun w6=>some (.bool true,w6)))))))):=by kernel_rfl
def Aa2:Cuts:={ globs:=0,loops:=[],regs:=[],plans:=[] }
def Ap0:List Item:=A4 Tryz.f199
theorem Bn8 (C:A1) (R:A2) (s:Option Addr) (sn sc:Nat) (f:Value) (h:H) :
 A5 PR Aa2 C R P5 Tryz.f199 100000 true Ap0 [(0,.slice s sn sc),(1,f)] h =
 bnd (C E4 [.slice s sn sc,f] h) fun r w=>aInt .i64 r fun x=>some (.bool (decide (x≥0)),w):=by kernel_rfl
def Bk6:Cuts:={ globs:=0,loops:=[],regs:=[],plans:=[] }
def Dd2:List Item:=A4 Tryz.f210
theorem Es1 (C:A1) (R:A2) (s:Option Addr) (who:Int) (stamp:Int) (h:H) :
 A5 PR Bk6 C R Az8 Tryz.f210 100000 true Dd2 [(0,.pointer s),(1,.int .i64 who),(2,.int .i64 stamp)] h =
 bnd (C A04 [.pointer s,.int .i64 who,.int .i64 stamp] h) fun r w=>aBool r fun x=>cond (!x)
 (some (.bool false,w))
 (aSome s fun p=>pV (Addr.add p 1) (.bool false) w fun w1=>aSome s fun p_1=>gInt .i64 (Addr.add p_1 7) w1 fun x_1=>aSome s fun p_2=>pV (Addr.add p_2 6) (.int .i64 x_1) w1 fun w2=>some (.bool true,w2)):=by kernel_rfl
def Bl8:Cuts:={ globs:=0,loops:=[(3,[0,2,4,31,32,33]),(8,[0,2,4,49])],regs:=[],plans:=[(1,⟨[0,1,2,3,4,5,6,7,8,9,10,11,12,13,14,15,16,17,18],[0,1,3,7,0,16,48,112,0,256,768,1792,0,4096,12288,28672,65535,0,262143],[],[]⟩),(13,⟨[0,1,2,3,4,5,6,7,8],[0,0,2,6,6,30,62,63,255],[(5,[0])],[]⟩)] }
def B63:List Item:=A4 Tryz.f213
def B43:List Item:=stk [0,1,0,1,0,0,1,4,5] B63
def B30:List Item:=stk [0,1,0,1,0,1,0,0,1,4,5] B63
theorem G98 (C:A1) (R:A2) (b:Option Addr) (bn bc:Nat) (h:H) :
 A5 PR Bl8 C R V8 Tryz.f213 100000 true B63 [(0,.slice b bn bc)] h =
 nw (.cells B9 false [.int .i64 0,.int .i64 0,.int .i64 0,.int .i64 0,.int .i64 0,.int .i64 0,.int .i64 0,.int .i64 0,.int .i64 0,.int .i64 0,.int .i64 0,.int .i64 0,.int .i64 0,.int .i64 0,.int .i64 0,.int .i64 0]) h fun b_1 w=>aSome b fun p=>ck ((0:Int)≤0∧0<((bn:Nat):Int)) (gInt .u8 (Addr.add (A9 p) (Int.toNat 0*1)) w fun x=>aSome b fun p_1=>ck ((0:Int)≤1∧1<((bn:Nat):Int)) (gInt .u8 (Addr.add (A9 p_1) (Int.toNat 1*1)) w fun x_1=>aSome b fun p_2=>ck ((0:Int)≤2∧2<((bn:Nat):Int)) (gInt .u8 (Addr.add (A9 p_2) (Int.toNat 2*1)) w fun x_2=>aSome b fun p_3=>ck ((0:Int)≤3∧3<((bn:Nat):Int)) (gInt .u8 (Addr.add (A9 p_3) (Int.toNat 3*1)) w fun x_3=>nw (.cells B9 false [.int .i64 0,.int .i64 0,.int .i64 0,.int .i64 0,.int .i64 0,.int .i64 0,.int .i64 0,.int .i64 0,.int .i64 0,.int .i64 0,.int .i64 0,.int .i64 0,.int .i64 0,.int .i64 0,.int .i64 0,.int .i64 0]) w fun b_2 w1=>pAgg ⟨b_2,0,none⟩ [.int .i64 (IntKind.wrap .i64 (x)),.int .i64 (IntKind.wrap .i64 (x_1)),.int .i64 (IntKind.wrap .i64 (x_2)),.int .i64 (IntKind.wrap .i64 (x_3)),.int .i64 0,.int .i64 0,.int .i64 0,.int .i64 0,.int .i64 0,.int .i64 0,.int .i64 0,.int .i64 0,.int .i64 0,.int .i64 0,.int .i64 0,.int .i64 0] w1 fun w2=>nw (.cells H86 false [.pointer (some (Addr.add ⟨b_2,0,none⟩ 4)),.pointer (some (Addr.add ⟨b_2,0,none⟩ 5)),.pointer (some (Addr.add ⟨b_2,0,none⟩ 6)),.pointer (some (Addr.add ⟨b_2,0,none⟩ 7))]) w2 fun b_3 w3=>R V8 B43 [(0,.slice b bn bc),(2,.pointer (some ⟨b_1,0,none⟩)),(4,.pointer (some ⟨b_2,0,none⟩)),(31,.slice (some ⟨b_3,0,none⟩) 4 4),(32,.int .i64 4),(33,.int .i64 0)] w3)))):=by kernel_rfl
theorem A12 (C:A1) (R:A2) (b:Option Addr) (bn bc:Nat) (x2:Addr) (p:Addr) (x31:Option Addr) (x31n x31c:Nat) (x32:Int) (x33:Int) (h:H) :
 A5 PR Bl8 C R V8 Tryz.f213 100000 true B43 [(0,.slice b bn bc),(2,.pointer (some x2)),(4,.pointer (some p)),(31,.slice x31 x31n x31c),(32,.int .i64 x32),(33,.int .i64 x33)] h =
 cond (decide (x33<x32))
 (aSome x31 fun p_1=>ck ((0:Int)≤x33∧x33<((x31n:Nat):Int)) (gPtr (Addr.add (A9 p_1) (Int.toNat x33*1)) h fun x=>bnd (C B00 [.slice b bn bc,.int .i64 (IntKind.wrap .i64 (4+(IntKind.wrap .i64 (2*x33))))] h) fun r w=>as2 r fun r_1 r_2=>aInt .i64 r_1 fun x_1=>aBool r_2 fun _=>aSome x fun p_2=>pV p_2 (.int .i64 x_1) w fun w1=>R V8 B43 [(0,.slice b bn bc),(2,.pointer (some x2)),(4,.pointer (some p)),(31,.slice x31 x31n x31c),(32,.int .i64 x32),(33,.int .i64 (IntKind.wrap .i64 (x33+1)))] w1))
 (R V8 B30 [(0,.slice b bn bc),(2,.pointer (some x2)),(4,.pointer (some p)),(49,.int .i64 0)] h):=by kernel_rfl
theorem W5 (C:A1) (R:A2) (b:Option Addr) (bn bc:Nat) (x2:Addr) (p:Addr) (x49:Int) (h:H) :
 A5 PR Bl8 C R V8 Tryz.f213 100000 true B30 [(0,.slice b bn bc),(2,.pointer (some x2)),(4,.pointer (some p)),(49,.int .i64 x49)] h =
 cond (decide (x49<8))
 (aSome b fun p_1=>ck ((0:Int)≤IntKind.wrap .i64 (12+x49)∧IntKind.wrap .i64 (12+x49)<((bn:Nat):Int)) (gInt .u8 (Addr.add (A9 p_1) (Int.toNat (IntKind.wrap .i64 (12+x49))*1)) h fun x=>ck ((0:Int)≤x49∧x49<((8:Nat):Int)) (pV (Addr.add (Addr.add p 8) (Int.toNat x49*1)) (.int .i64 (IntKind.wrap .i64 (x))) h fun w=>R V8 B30 [(0,.slice b bn bc),(2,.pointer (some x2)),(4,.pointer (some p)),(49,.int .i64 (IntKind.wrap .i64 (x49+1)))] w)))
 (gAgg p 16 h fun x_1=>bnd (C A29 [.agg ⟨x_1⟩] h) fun r w1=>as2 r fun r_1 r_2=>aSl r_1 fun x_2 xn xc=>aBool r_2 fun x_3=>gAgg p 16 w1 fun x_4=>bnd (cond x_3 (bnd (C B8 [.slice x_2 xn xc,.slice b bn bc] w1) fun r_3 w2=>aBool r_3 fun x_5=>gAgg p 16 w2 fun x_6=>same (.agg ⟨x_4⟩) (.agg ⟨x_6⟩) (some (x_5,w2))) (some (false,w1))) fun c w3=>ck (List.length x_4=16) (pAgg x2 x_4 w3 fun w4=>gAgg x2 16 w4 fun x_7=>some (.tuple ⟨[.agg ⟨x_7⟩,.bool c]⟩,w4))):=by kernel_rfl
def Aq7:Cuts:={ globs:=0,loops:=[],regs:=[],plans:=[] }
def Be4:List Item:=A4 Tryz.f229
theorem Dk9 (C:A1) (R:A2) (t:Option Addr) (name:Int) (h:H) :
 A5 PR Aq7 C R Ae0 Tryz.f229 100000 true Be4 [(0,.pointer t),(1,.int .i64 name)] h =
 bnd (cond (decide (name<0)) (some (true,h)) (aSome t fun p=>gSl (Addr.add p 0) h fun _ xn _=>some (decide ((B4 .i64 name 255)≥((xn:Nat):Int)),h))) fun c w=>bnd (cond c (some (true,w)) (aSome t fun p_1=>gSl (Addr.add p_1 0) w fun x_1 xn_1 _=>aSome x_1 fun p_2=>ck ((0:Int)≤B4 .i64 name 255∧B4 .i64 name 255<((xn_1:Nat):Int)) (gBool (Addr.add (Addr.add (A9 p_2) (Int.toNat (B4 .i64 name 255)*8)) 7) w fun x_2=>some (!x_2,w)))) fun c_1 w1=>bnd (cond c_1 (some (true,w1)) (bnd (C M9 [.pointer t,.int .i64 (B4 .i64 name 255)] w1) fun r w2=>aInt .i64 r fun x_3=>some (x_3 != name,w2))) fun c_2 w3=>cond c_2
 (some (.pointer none,w3))
 (aSome t fun p_3=>gSl (Addr.add p_3 0) w3 fun x_4 xn_2 _=>aSome x_4 fun p_4=>ck ((0:Int)≤B4 .i64 name 255∧B4 .i64 name 255<((xn_2:Nat):Int)) (some (.pointer (some (Addr.add (A9 p_4) (Int.toNat (B4 .i64 name 255)*8))),w3))):=by kernel_rfl
def Dl6:Cuts:={ globs:=0,loops:=[],regs:=[],plans:=[] }
def Eg6:List Item:=A4 Tryz.f232
theorem Gs9 (C:A1) (R:A2) (b:Option Addr) (bn bc:Nat) (atv:Int) (n:Int) (h:H) :
 A5 PR Dl6 C R Be0 Tryz.f232 100000 true Eg6 [(0,.slice b bn bc),(1,.int .i64 atv),(2,.int .i64 n)] h =
 bnd (cond (decide (atv<0)) (some (true,h)) (some (decide (atv>(IntKind.wrap .i64 (((bn:Nat):Int)-2))),h))) fun c w=>bnd (cond c (some (true,w)) (some (decide (n<0),w))) fun c_1 w1=>bnd (cond c_1 (some (true,w1)) (some (decide (n>65535),w1))) fun c_2 w2=>cond c_2
 (some (.bool false,w2))
 (aSome b fun p=>ck ((0:Int)≤atv∧atv<((bn:Nat):Int)) (pV (Addr.add (A9 p) (Int.toNat atv*1)) (.int .u8 (IntKind.wrap .u8 (Int.fdiv n (2 ^ 8)))) w2 fun w3=>aSome b fun p_1=>ck ((0:Int)≤IntKind.wrap .i64 (atv+1)∧IntKind.wrap .i64 (atv+1)<((bn:Nat):Int)) (pV (Addr.add (A9 p_1) (Int.toNat (IntKind.wrap .i64 (atv+1))*1)) (.int .u8 (IntKind.wrap .u8 (n))) w3 fun w4=>some (.bool true,w4)))):=by kernel_rfl
def Do3:Cuts:={ globs:=0,loops:=[],regs:=[],plans:=[] }
def Eo1:List Item:=A4 Tryz.f239
theorem G27 (C:A1) (R:A2) (f:Int) (h:H) :
 A5 PR Do3 C R Bf6 Tryz.f239 100000 true Eo1 [(0,.int .i64 f)] h =
 bnd (cond (decide (f<0)) (some (true,h)) (some (decide (f>12),h))) fun c w=>some (.bool c,w):=by kernel_rfl
end
end Go.EQ

set_option maxRecDepth 100000
namespace Go.EQ
open Go Go.NN Go.Proofs
variable (C : A1) (R : A2)
noncomputable section
def H68:List (Nat × Cuts):=[(10,S6),(13,Dl2),(14,Dm5),(15,Dc4),(17,Ao3),(18,Ay2),(20,A00),(22,B33),(23,Ay3),(24,Al6),(28,An6),(31,Bw4),(32,Db5),(36,Ay5),(40,Du2),(43,D85),(44,Ee1),(45,D45),(46,Du9),(47,Dd0),(48,Ay6),(49,At2),(50,A17),(51,A65),(52,Ap7),(53,Db8),(54,B38),(55,Bd4),(56,Bk7),(57,Bg8),(58,Dc5),(59,As9),(60,B37),(61,Ac3),(62,Db7),(63,Ax3),(64,D55),(65,Df2),(67,Bk8),(68,Bd5),(69,Ac0),(70,B51),(71,B26),(72,B28),(73,At1),(74,B52),(75,B47),(76,A55),(77,A03),(78,Bl0),(79,B45),(80,Dv4),(83,Dv6),(84,Ac1),(85,B55),(91,Q5),(97,D46),(98,Dy2),(99,Df7),(100,Dk0),(101,Do9),(102,D40),(103,E00),(104,D83),(105,D80),(106,Du3),(107,A47),(108,Am7),(109,Bk4),(110,Be2),(111,Db9),(112,Ar6),(113,Eg2),(114,Dh7),(115,B71),(116,Dm8),(117,D98),(118,A49),(119,Ar9),(120,Aj0),(121,Bq5),(122,Bc6),(123,Av4),(124,Bc1),(125,B35),(126,Bd8),(127,Ds7),(128,Br1),(129,Bg2),(131,A56),(140,Bt0),(141,Bx8),(142,Z0),(143,Dm0),(144,Ae8),(145,At0),(146,Ay1),(147,Dd1),(148,Af1),(149,A33),(150,Ax8),(151,A08),(152,Bd9),(154,Bb2),(155,Bf9),(156,Bk9),(157,Bk5),(158,Dc6),(159,Af3),(160,Af0),(161,Dc3),(162,Af5),(163,B57),(164,Dj2),(165,Ak2),(166,Af4),(171,Dc8),(172,Ak0),(173,Ak6),(174,B54),(175,Ac6),(176,Do2),(177,Ar8),(178,B44),(179,Ac7),(180,Bd7),(181,Bs5),(182,Bb7),(183,Da6),(184,Bq0),(185,Br4),(186,A44),(187,Bq9),(194,A45),(195,Ak5),(196,A69),(197,D82),(198,D60),(199,Aa2),(200,Bw5),(201,Ax6),(202,Bw1),(203,Bs1),(206,Bs7),(207,Bh0),(208,Bq1),(209,Q9),(210,Bk6),(211,A60),(212,A98),(213,Bl8),(214,A42),(215,Dw8),(216,Du7),(217,W6),(218,Ab6),(219,A68),(220,Bq7),(223,En5),(224,Aa6),(225,S9),(226,Am5),(229,Aq7),(230,Bl2),(231,D47),(232,Dl6),(233,Dn5),(234,D84),(235,Dw2),(238,Dm7),(239,Do3)]
def cutsOf:FuncId→Cuts:=E91 H68
noncomputable abbrev A7:A1:=NN.Call PR cutsOf
noncomputable abbrev G2:A2:=NN.Jump PR cutsOf
theorem H5:FnOk PR cutsOf B0 Tryz.f10 S6 Z2 2:=⟨Tryz.func10,⟨_,rfl⟩,by kernel_rfl,rfl,rfl,by kernel_rfl⟩
theorem Gr7:FnOk PR cutsOf Bg3 Tryz.f13 Dl2 Ei4 1:=⟨Tryz.func13,⟨_,rfl⟩,by kernel_rfl,rfl,rfl,by kernel_rfl⟩
theorem Gw1:FnOk PR cutsOf Bv7 Tryz.f14 Dm5 Ei9 0:=⟨Tryz.func14,⟨_,rfl⟩,by kernel_rfl,rfl,rfl,by kernel_rfl⟩
theorem Go3:FnOk PR cutsOf Bp3 Tryz.f15 Dc4 Ec5 2:=⟨Tryz.func15,⟨_,rfl⟩,by kernel_rfl,rfl,rfl,by kernel_rfl⟩
theorem Dg6:FnOk PR cutsOf S7 Tryz.f17 Ao3 Bc5 3:=⟨Tryz.func17,⟨_,rfl⟩,by kernel_rfl,rfl,rfl,by kernel_rfl⟩
theorem Dx3:FnOk PR cutsOf O0 Tryz.f18 Ay2 Bn1 2:=⟨Tryz.func18,⟨_,rfl⟩,by kernel_rfl,rfl,rfl,by kernel_rfl⟩
theorem Bl7:FnOk PR cutsOf Q8 Tryz.f20 A00 Bl1 1:=⟨Tryz.func20,⟨_,rfl⟩,by kernel_rfl,rfl,rfl,by kernel_rfl⟩
theorem Gf6:FnOk PR cutsOf Q6 Tryz.f22 B33 D17 3:=⟨Tryz.func22,⟨_,rfl⟩,by kernel_rfl,rfl,rfl,by kernel_rfl⟩
theorem Dv8:FnOk PR cutsOf Aa0 Tryz.f23 Ay3 Bm1 2:=⟨Tryz.func23,⟨_,rfl⟩,by kernel_rfl,rfl,rfl,by kernel_rfl⟩
theorem Dg4:FnOk PR cutsOf O1 Tryz.f24 Al6 Bb4 3:=⟨Tryz.func24,⟨_,rfl⟩,by kernel_rfl,rfl,rfl,by kernel_rfl⟩
theorem De8:FnOk PR cutsOf J0 Tryz.f28 An6 Bc7 3:=⟨Tryz.func28,⟨_,rfl⟩,by kernel_rfl,rfl,rfl,by kernel_rfl⟩
theorem By8:FnOk PR cutsOf Ad9 Tryz.f31 Bw4 Dl8 1:=⟨Tryz.func31,⟨_,rfl⟩,by kernel_rfl,rfl,rfl,by kernel_rfl⟩
theorem Gn1:FnOk PR cutsOf A77 Tryz.f32 Db5 Ec9 0:=⟨Tryz.func32,⟨_,rfl⟩,by kernel_rfl,rfl,rfl,by kernel_rfl⟩
theorem Dw7:FnOk PR cutsOf J7 Tryz.f36 Ay5 Bo1 2:=⟨Tryz.func36,⟨_,rfl⟩,by kernel_rfl,rfl,rfl,by kernel_rfl⟩
theorem G91:FnOk PR cutsOf Ao8 Tryz.f40 Du2 Ew6 2:=⟨Tryz.func40,⟨_,rfl⟩,by kernel_rfl,rfl,rfl,by kernel_rfl⟩
theorem Hm8:FnOk PR cutsOf Bz2 Tryz.f43 D85 E80 2:=⟨Tryz.func43,⟨_,rfl⟩,by kernel_rfl,rfl,rfl,by kernel_rfl⟩
theorem Hv5:FnOk PR cutsOf Dt0 Tryz.f44 Ee1 Gl4 3:=⟨Tryz.func44,⟨_,rfl⟩,by kernel_rfl,rfl,rfl,by kernel_rfl⟩
theorem Hm9:FnOk PR cutsOf Bj1 Tryz.f45 D45 E42 4:=⟨Tryz.func45,⟨_,rfl⟩,by kernel_rfl,rfl,rfl,by kernel_rfl⟩
theorem G94:FnOk PR cutsOf Ba4 Tryz.f46 Du9 Ex6 3:=⟨Tryz.func46,⟨_,rfl⟩,by kernel_rfl,rfl,rfl,by kernel_rfl⟩
theorem Go9:FnOk PR cutsOf A84 Tryz.f47 Dd0 Eb9 0:=⟨Tryz.func47,⟨_,rfl⟩,by kernel_rfl,rfl,rfl,by kernel_rfl⟩
theorem Du4:FnOk PR cutsOf Ah7 Tryz.f48 Ay6 Bm5 1:=⟨Tryz.func48,⟨_,rfl⟩,by kernel_rfl,rfl,rfl,by kernel_rfl⟩
theorem Dp7:FnOk PR cutsOf Af8 Tryz.f49 At2 Bj7 1:=⟨Tryz.func49,⟨_,rfl⟩,by kernel_rfl,rfl,rfl,by kernel_rfl⟩
theorem Aq9:FnOk PR cutsOf I3 Tryz.f50 A17 Be7 1:=⟨Tryz.func50,⟨_,rfl⟩,by kernel_rfl,rfl,rfl,by kernel_rfl⟩
theorem Al8:FnOk PR cutsOf H1 Tryz.f51 A65 Bh7 1:=⟨Tryz.func51,⟨_,rfl⟩,by kernel_rfl,rfl,rfl,by kernel_rfl⟩
theorem Ah5:FnOk PR cutsOf E5 Tryz.f52 Ap7 A38 1:=⟨Tryz.func52,⟨_,rfl⟩,by kernel_rfl,rfl,rfl,by kernel_rfl⟩
theorem Go1:FnOk PR cutsOf A93 Tryz.f53 Db8 Eb7 0:=⟨Tryz.func53,⟨_,rfl⟩,by kernel_rfl,rfl,rfl,by kernel_rfl⟩
theorem Ge2:FnOk PR cutsOf Aq0 Tryz.f54 B38 D24 3:=⟨Tryz.func54,⟨_,rfl⟩,by kernel_rfl,rfl,rfl,by kernel_rfl⟩
theorem El4:FnOk PR cutsOf Av9 Tryz.f55 Bd4 B72 2:=⟨Tryz.func55,⟨_,rfl⟩,by kernel_rfl,rfl,rfl,by kernel_rfl⟩
theorem Et8:FnOk PR cutsOf Ak9 Tryz.f56 Bk7 Dd6 1:=⟨Tryz.func56,⟨_,rfl⟩,by kernel_rfl,rfl,rfl,by kernel_rfl⟩
theorem Eh9:FnOk PR cutsOf Aj2 Tryz.f57 Bg8 B73 2:=⟨Tryz.func57,⟨_,rfl⟩,by kernel_rfl,rfl,rfl,by kernel_rfl⟩
theorem Gp6:FnOk PR cutsOf A81 Tryz.f58 Dc5 Eb0 1:=⟨Tryz.func58,⟨_,rfl⟩,by kernel_rfl,rfl,rfl,by kernel_rfl⟩
theorem Dp6:FnOk PR cutsOf I7 Tryz.f59 As9 Bj8 4:=⟨Tryz.func59,⟨_,rfl⟩,by kernel_rfl,rfl,rfl,by kernel_rfl⟩
theorem Gd7:FnOk PR cutsOf Ap8 Tryz.f60 B37 D09 1:=⟨Tryz.func60,⟨_,rfl⟩,by kernel_rfl,rfl,rfl,by kernel_rfl⟩
theorem An7:FnOk PR cutsOf H6 Tryz.f61 Ac3 Ao5 3:=⟨Tryz.func61,⟨_,rfl⟩,by kernel_rfl,rfl,rfl,by kernel_rfl⟩
theorem Go4:FnOk PR cutsOf At5 Tryz.f62 Db7 Eb8 1:=⟨Tryz.func62,⟨_,rfl⟩,by kernel_rfl,rfl,rfl,by kernel_rfl⟩
theorem Dv1:FnOk PR cutsOf Aa1 Tryz.f63 Ax3 Bo3 2:=⟨Tryz.func63,⟨_,rfl⟩,by kernel_rfl,rfl,rfl,by kernel_rfl⟩
theorem Hk4:FnOk PR cutsOf A74 Tryz.f64 D55 Ga0 1:=⟨Tryz.func64,⟨_,rfl⟩,by kernel_rfl,rfl,rfl,by kernel_rfl⟩
theorem Ea2:FnOk PR cutsOf Ad6 Tryz.f65 Df2 Ea1 1:=⟨Tryz.func65,⟨_,rfl⟩,by kernel_rfl,rfl,rfl,by kernel_rfl⟩
theorem Es2:FnOk PR cutsOf Az4 Tryz.f67 Bk8 De0 3:=⟨Tryz.func67,⟨_,rfl⟩,by kernel_rfl,rfl,rfl,by kernel_rfl⟩
theorem Ek6:FnOk PR cutsOf Av0 Tryz.f68 Bd5 Da5 3:=⟨Tryz.func68,⟨_,rfl⟩,by kernel_rfl,rfl,rfl,by kernel_rfl⟩
theorem Am8:FnOk PR cutsOf J4 Tryz.f69 Ac0 Ao1 3:=⟨Tryz.func69,⟨_,rfl⟩,by kernel_rfl,rfl,rfl,by kernel_rfl⟩
theorem Ge1:FnOk PR cutsOf A11 Tryz.f70 B51 Dz5 1:=⟨Tryz.func70,⟨_,rfl⟩,by kernel_rfl,rfl,rfl,by kernel_rfl⟩
theorem Gg4:FnOk PR cutsOf A37 Tryz.f71 B26 Dz2 1:=⟨Tryz.func71,⟨_,rfl⟩,by kernel_rfl,rfl,rfl,by kernel_rfl⟩
theorem Gc6:FnOk PR cutsOf A29 Tryz.f72 B28 D03 1:=⟨Tryz.func72,⟨_,rfl⟩,by kernel_rfl,rfl,rfl,by kernel_rfl⟩
theorem Dp5:FnOk PR cutsOf W7 Tryz.f73 At1 Bk1 2:=⟨Tryz.func73,⟨_,rfl⟩,by kernel_rfl,rfl,rfl,by kernel_rfl⟩
theorem Gh0:FnOk PR cutsOf A19 Tryz.f74 B52 Dz7 1:=⟨Tryz.func74,⟨_,rfl⟩,by kernel_rfl,rfl,rfl,by kernel_rfl⟩
theorem Gg7:FnOk PR cutsOf Ap9 Tryz.f75 B47 Dz9 1:=⟨Tryz.func75,⟨_,rfl⟩,by kernel_rfl,rfl,rfl,by kernel_rfl⟩
theorem Ea3:FnOk PR cutsOf Am4 Tryz.f76 A55 Bz0 1:=⟨Tryz.func76,⟨_,rfl⟩,by kernel_rfl,rfl,rfl,by kernel_rfl⟩
theorem Bk3:FnOk PR cutsOf P2 Tryz.f77 A03 Bl3 1:=⟨Tryz.func77,⟨_,rfl⟩,by kernel_rfl,rfl,rfl,by kernel_rfl⟩
theorem Et0:FnOk PR cutsOf A05 Tryz.f78 Bl0 De1 1:=⟨Tryz.func78,⟨_,rfl⟩,by kernel_rfl,rfl,rfl,by kernel_rfl⟩
theorem Gg3:FnOk PR cutsOf Bh6 Tryz.f79 B45 Dy5 3:=⟨Tryz.func79,⟨_,rfl⟩,by kernel_rfl,rfl,rfl,by kernel_rfl⟩
theorem Ha7:FnOk PR cutsOf B65 Tryz.f80 Dv4 Ex5 1:=⟨Tryz.func80,⟨_,rfl⟩,by kernel_rfl,rfl,rfl,by kernel_rfl⟩
theorem G80:FnOk PR cutsOf Ba1 Tryz.f83 Dv6 Eu5 2:=⟨Tryz.func83,⟨_,rfl⟩,by kernel_rfl,rfl,rfl,by kernel_rfl⟩
theorem Al7:FnOk PR cutsOf I9 Tryz.f84 Ac1 Al9 3:=⟨Tryz.func84,⟨_,rfl⟩,by kernel_rfl,rfl,rfl,by kernel_rfl⟩
theorem Gc0:FnOk PR cutsOf A20 Tryz.f85 B55 Dz0 1:=⟨Tryz.func85,⟨_,rfl⟩,by kernel_rfl,rfl,rfl,by kernel_rfl⟩
theorem N9:FnOk PR cutsOf B7 Tryz.f91 Q5 Z9 1:=⟨Tryz.func91,⟨_,rfl⟩,by kernel_rfl,rfl,rfl,by kernel_rfl⟩
theorem Hg7:FnOk PR cutsOf I4 Tryz.f97 D46 E63 1:=⟨Tryz.func97,⟨_,rfl⟩,by kernel_rfl,rfl,rfl,by kernel_rfl⟩
theorem G75:FnOk PR cutsOf Bn2 Tryz.f98 Dy2 Ex0 2:=⟨Tryz.func98,⟨_,rfl⟩,by kernel_rfl,rfl,rfl,by kernel_rfl⟩
theorem Df4:FnOk PR cutsOf V9 Tryz.f99 Df7 D87 3:=⟨Tryz.func99,⟨_,rfl⟩,by kernel_rfl,rfl,rfl,by kernel_rfl⟩
theorem G42:FnOk PR cutsOf A16 Tryz.f100 Dk0 Ei5 2:=⟨Tryz.func100,⟨_,rfl⟩,by kernel_rfl,rfl,rfl,by kernel_rfl⟩
theorem Gu6:FnOk PR cutsOf A31 Tryz.f101 Do9 Ei1 2:=⟨Tryz.func101,⟨_,rfl⟩,by kernel_rfl,rfl,rfl,by kernel_rfl⟩
theorem Hf7:FnOk PR cutsOf By6 Tryz.f102 D40 E53 2:=⟨Tryz.func102,⟨_,rfl⟩,by kernel_rfl,rfl,rfl,by kernel_rfl⟩
theorem H17:FnOk PR cutsOf B41 Tryz.f103 E00 Gz3 3:=⟨Tryz.func103,⟨_,rfl⟩,by kernel_rfl,rfl,rfl,by kernel_rfl⟩
theorem Hi3:FnOk PR cutsOf Bv9 Tryz.f104 D83 E46 3:=⟨Tryz.func104,⟨_,rfl⟩,by kernel_rfl,rfl,rfl,by kernel_rfl⟩
theorem Hk9:FnOk PR cutsOf Bx2 Tryz.f105 D80 E62 4:=⟨Tryz.func105,⟨_,rfl⟩,by kernel_rfl,rfl,rfl,by kernel_rfl⟩
theorem G92:FnOk PR cutsOf Bm4 Tryz.f106 Du3 Ev0 2:=⟨Tryz.func106,⟨_,rfl⟩,by kernel_rfl,rfl,rfl,by kernel_rfl⟩
theorem Do7:FnOk PR cutsOf V6 Tryz.f107 A47 Br5 2:=⟨Tryz.func107,⟨_,rfl⟩,by kernel_rfl,rfl,rfl,by kernel_rfl⟩
theorem A62:FnOk PR cutsOf Q1 Tryz.f108 Am7 A50 3:=⟨Tryz.func108,⟨_,rfl⟩,by kernel_rfl,rfl,rfl,by kernel_rfl⟩
theorem Et1:FnOk PR cutsOf Ak8 Tryz.f109 Bk4 Dd8 1:=⟨Tryz.func109,⟨_,rfl⟩,by kernel_rfl,rfl,rfl,by kernel_rfl⟩
theorem Be8:FnOk PR cutsOf Q2 Tryz.f110 Be2 Bv3 1:=⟨Tryz.func110,⟨_,rfl⟩,by kernel_rfl,rfl,rfl,by kernel_rfl⟩
theorem Gp8:FnOk PR cutsOf A78 Tryz.f111 Db9 Eb6 1:=⟨Tryz.func111,⟨_,rfl⟩,by kernel_rfl,rfl,rfl,by kernel_rfl⟩
theorem Dn2:FnOk PR cutsOf V3 Tryz.f112 Ar6 Bg5 1:=⟨Tryz.func112,⟨_,rfl⟩,by kernel_rfl,rfl,rfl,by kernel_rfl⟩
theorem Hv3:FnOk PR cutsOf Ds2 Tryz.f113 Eg2 Gi4 1:=⟨Tryz.func113,⟨_,rfl⟩,by kernel_rfl,rfl,rfl,by kernel_rfl⟩
theorem D53:FnOk PR cutsOf Aw9 Tryz.f114 Dh7 D56 1:=⟨Tryz.func114,⟨_,rfl⟩,by kernel_rfl,rfl,rfl,by kernel_rfl⟩
theorem Du6:FnOk PR cutsOf Ap3 Tryz.f115 B71 Du5 1:=⟨Tryz.func115,⟨_,rfl⟩,by kernel_rfl,rfl,rfl,by kernel_rfl⟩
theorem G37:FnOk PR cutsOf Bz6 Tryz.f116 Dm8 Eg0 2:=⟨Tryz.func116,⟨_,rfl⟩,by kernel_rfl,rfl,rfl,by kernel_rfl⟩
theorem Hl7:FnOk PR cutsOf Dh0 Tryz.f117 D98 E44 1:=⟨Tryz.func117,⟨_,rfl⟩,by kernel_rfl,rfl,rfl,by kernel_rfl⟩
theorem D61:FnOk PR cutsOf An2 Tryz.f118 A49 Bv0 3:=⟨Tryz.func118,⟨_,rfl⟩,by kernel_rfl,rfl,rfl,by kernel_rfl⟩
theorem Bb0:FnOk PR cutsOf O8 Tryz.f119 Ar9 Ba7 2:=⟨Tryz.func119,⟨_,rfl⟩,by kernel_rfl,rfl,rfl,by kernel_rfl⟩
theorem B89:FnOk PR cutsOf L9 Tryz.f120 Aj0 A41 2:=⟨Tryz.func120,⟨_,rfl⟩,by kernel_rfl,rfl,rfl,by kernel_rfl⟩
theorem E31:FnOk PR cutsOf A61 Tryz.f121 Bq5 Dk5 3:=⟨Tryz.func121,⟨_,rfl⟩,by kernel_rfl,rfl,rfl,by kernel_rfl⟩
theorem Bz8:FnOk PR cutsOf Y7 Tryz.f122 Bc6 Bv6 1:=⟨Tryz.func122,⟨_,rfl⟩,by kernel_rfl,rfl,rfl,by kernel_rfl⟩
theorem Be6:FnOk PR cutsOf N0 Tryz.f123 Av4 Be1 2:=⟨Tryz.func123,⟨_,rfl⟩,by kernel_rfl,rfl,rfl,by kernel_rfl⟩
theorem Bz1:FnOk PR cutsOf Y6 Tryz.f124 Bc1 Bw6 1:=⟨Tryz.func124,⟨_,rfl⟩,by kernel_rfl,rfl,rfl,by kernel_rfl⟩
theorem Gd9:FnOk PR cutsOf Bi3 Tryz.f125 B35 D19 1:=⟨Tryz.func125,⟨_,rfl⟩,by kernel_rfl,rfl,rfl,by kernel_rfl⟩
theorem Ef1:FnOk PR cutsOf Aw3 Tryz.f126 Bd8 B82 3:=⟨Tryz.func126,⟨_,rfl⟩,by kernel_rfl,rfl,rfl,by kernel_rfl⟩
theorem En2:FnOk PR cutsOf A40 Tryz.f127 Ds7 Eh0 2:=⟨Tryz.func127,⟨_,rfl⟩,by kernel_rfl,rfl,rfl,by kernel_rfl⟩
theorem E10:FnOk PR cutsOf A43 Tryz.f128 Br1 Dl9 3:=⟨Tryz.func128,⟨_,rfl⟩,by kernel_rfl,rfl,rfl,by kernel_rfl⟩
theorem Eg4:FnOk PR cutsOf Av7 Tryz.f129 Bg2 B78 1:=⟨Tryz.func129,⟨_,rfl⟩,by kernel_rfl,rfl,rfl,by kernel_rfl⟩
theorem D71:FnOk PR cutsOf An1 Tryz.f131 A56 By9 5:=⟨Tryz.func131,⟨_,rfl⟩,by kernel_rfl,rfl,rfl,by kernel_rfl⟩
theorem Ey9:FnOk PR cutsOf A57 Tryz.f140 Bt0 Dk8 2:=⟨Tryz.func140,⟨_,rfl⟩,by kernel_rfl,rfl,rfl,by kernel_rfl⟩
theorem E92:FnOk PR cutsOf Ad5 Tryz.f141 Bx8 Ds9 2:=⟨Tryz.func141,⟨_,rfl⟩,by kernel_rfl,rfl,rfl,by kernel_rfl⟩
theorem Ai8:FnOk PR cutsOf E3 Tryz.f142 Z0 Ai6 1:=⟨Tryz.func142,⟨_,rfl⟩,by kernel_rfl,rfl,rfl,by kernel_rfl⟩
theorem Gu3:FnOk PR cutsOf Bg1 Tryz.f143 Dm0 Ek7 0:=⟨Tryz.func143,⟨_,rfl⟩,by kernel_rfl,rfl,rfl,by kernel_rfl⟩
theorem B14:FnOk PR cutsOf U3 Tryz.f144 Ae8 Az3 2:=⟨Tryz.func144,⟨_,rfl⟩,by kernel_rfl,rfl,rfl,by kernel_rfl⟩
theorem Dp2:FnOk PR cutsOf P9 Tryz.f145 At0 Bk0 2:=⟨Tryz.func145,⟨_,rfl⟩,by kernel_rfl,rfl,rfl,by kernel_rfl⟩
theorem Dx7:FnOk PR cutsOf N7 Tryz.f146 Ay1 Bo0 2:=⟨Tryz.func146,⟨_,rfl⟩,by kernel_rfl,rfl,rfl,by kernel_rfl⟩
theorem Gm8:FnOk PR cutsOf Aj9 Tryz.f147 Dd1 Ec4 1:=⟨Tryz.func147,⟨_,rfl⟩,by kernel_rfl,rfl,rfl,by kernel_rfl⟩
theorem B07:FnOk PR cutsOf U4 Tryz.f148 Af1 Az1 2:=⟨Tryz.func148,⟨_,rfl⟩,by kernel_rfl,rfl,rfl,by kernel_rfl⟩
theorem D04:FnOk PR cutsOf Ab3 Tryz.f149 A33 Bu0 5:=⟨Tryz.func149,⟨_,rfl⟩,by kernel_rfl,rfl,rfl,by kernel_rfl⟩
theorem Dx8:FnOk PR cutsOf Z8 Tryz.f150 Ax8 Bn5 5:=⟨Tryz.func150,⟨_,rfl⟩,by kernel_rfl,rfl,rfl,by kernel_rfl⟩
theorem Dz1:FnOk PR cutsOf Aj7 Tryz.f151 A08 Bu6 7:=⟨Tryz.func151,⟨_,rfl⟩,by kernel_rfl,rfl,rfl,by kernel_rfl⟩
theorem Ef7:FnOk PR cutsOf Av6 Tryz.f152 Bd9 B91 7:=⟨Tryz.func152,⟨_,rfl⟩,by kernel_rfl,rfl,rfl,by kernel_rfl⟩
theorem Ed9:FnOk PR cutsOf As4 Tryz.f154 Bb2 B20 2:=⟨Tryz.func154,⟨_,rfl⟩,by kernel_rfl,rfl,rfl,by kernel_rfl⟩
theorem Ef5:FnOk PR cutsOf Aw8 Tryz.f155 Bf9 B98 3:=⟨Tryz.func155,⟨_,rfl⟩,by kernel_rfl,rfl,rfl,by kernel_rfl⟩
theorem Es8:FnOk PR cutsOf Az7 Tryz.f156 Bk9 De2 3:=⟨Tryz.func156,⟨_,rfl⟩,by kernel_rfl,rfl,rfl,by kernel_rfl⟩
theorem Et7:FnOk PR cutsOf Az6 Tryz.f157 Bk5 Dd7 3:=⟨Tryz.func157,⟨_,rfl⟩,by kernel_rfl,rfl,rfl,by kernel_rfl⟩
theorem Gp1:FnOk PR cutsOf A88 Tryz.f158 Dc6 Ec2 0:=⟨Tryz.func158,⟨_,rfl⟩,by kernel_rfl,rfl,rfl,by kernel_rfl⟩
theorem B18:FnOk PR cutsOf U5 Tryz.f159 Af3 Ay8 2:=⟨Tryz.func159,⟨_,rfl⟩,by kernel_rfl,rfl,rfl,by kernel_rfl⟩
theorem B09:FnOk PR cutsOf U6 Tryz.f160 Af0 Ay7 2:=⟨Tryz.func160,⟨_,rfl⟩,by kernel_rfl,rfl,rfl,by kernel_rfl⟩
theorem Gp9:FnOk PR cutsOf A80 Tryz.f161 Dc3 Eb2 0:=⟨Tryz.func161,⟨_,rfl⟩,by kernel_rfl,rfl,rfl,by kernel_rfl⟩
theorem B16:FnOk PR cutsOf U8 Tryz.f162 Af5 Az0 2:=⟨Tryz.func162,⟨_,rfl⟩,by kernel_rfl,rfl,rfl,by kernel_rfl⟩
theorem Dy1:FnOk PR cutsOf Z6 Tryz.f163 B57 Dx1 1:=⟨Tryz.func163,⟨_,rfl⟩,by kernel_rfl,rfl,rfl,by kernel_rfl⟩
theorem Gx0:FnOk PR cutsOf Bd6 Tryz.f164 Dj2 Eg1 3:=⟨Tryz.func164,⟨_,rfl⟩,by kernel_rfl,rfl,rfl,by kernel_rfl⟩
theorem A95:FnOk PR cutsOf E8 Tryz.f165 Ak2 A79 1:=⟨Tryz.func165,⟨_,rfl⟩,by kernel_rfl,rfl,rfl,by kernel_rfl⟩
theorem B17:FnOk PR cutsOf U2 Tryz.f166 Af4 Az2 2:=⟨Tryz.func166,⟨_,rfl⟩,by kernel_rfl,rfl,rfl,by kernel_rfl⟩
theorem Gp0:FnOk PR cutsOf A75 Tryz.f171 Dc8 Ec7 2:=⟨Tryz.func171,⟨_,rfl⟩,by kernel_rfl,rfl,rfl,by kernel_rfl⟩
theorem Db4:FnOk PR cutsOf Aa5 Tryz.f172 Ak0 A96 2:=⟨Tryz.func172,⟨_,rfl⟩,by kernel_rfl,rfl,rfl,by kernel_rfl⟩
theorem Dc1:FnOk PR cutsOf Aa3 Tryz.f173 Ak6 A97 2:=⟨Tryz.func173,⟨_,rfl⟩,by kernel_rfl,rfl,rfl,by kernel_rfl⟩
theorem Gc7:FnOk PR cutsOf G0 Tryz.f174 B54 D01 2:=⟨Tryz.func174,⟨_,rfl⟩,by kernel_rfl,rfl,rfl,by kernel_rfl⟩
theorem As8:FnOk PR cutsOf E0 Tryz.f175 Ac6 As6 2:=⟨Tryz.func175,⟨_,rfl⟩,by kernel_rfl,rfl,rfl,by kernel_rfl⟩
theorem Gy3:FnOk PR cutsOf Bw2 Tryz.f176 Do2 Em1 2:=⟨Tryz.func176,⟨_,rfl⟩,by kernel_rfl,rfl,rfl,by kernel_rfl⟩
theorem Bb1:FnOk PR cutsOf O7 Tryz.f177 Ar8 Bb3 1:=⟨Tryz.func177,⟨_,rfl⟩,by kernel_rfl,rfl,rfl,by kernel_rfl⟩
theorem Gg1:FnOk PR cutsOf A10 Tryz.f178 B44 D10 1:=⟨Tryz.func178,⟨_,rfl⟩,by kernel_rfl,rfl,rfl,by kernel_rfl⟩
theorem Ar7:FnOk PR cutsOf G6 Tryz.f179 Ac7 Aq8 2:=⟨Tryz.func179,⟨_,rfl⟩,by kernel_rfl,rfl,rfl,by kernel_rfl⟩
theorem Eh8:FnOk PR cutsOf Ai3 Tryz.f180 Bd7 B92 1:=⟨Tryz.func180,⟨_,rfl⟩,by kernel_rfl,rfl,rfl,by kernel_rfl⟩
theorem E09:FnOk PR cutsOf Ar0 Tryz.f181 Bs5 Dj0 3:=⟨Tryz.func181,⟨_,rfl⟩,by kernel_rfl,rfl,rfl,by kernel_rfl⟩
theorem By1:FnOk PR cutsOf Y8 Tryz.f182 Bb7 Bu7 1:=⟨Tryz.func182,⟨_,rfl⟩,by kernel_rfl,rfl,rfl,by kernel_rfl⟩
theorem Gn5:FnOk PR cutsOf Ae4 Tryz.f183 Da6 Eb4 3:=⟨Tryz.func183,⟨_,rfl⟩,by kernel_rfl,rfl,rfl,by kernel_rfl⟩
theorem E11:FnOk PR cutsOf Ah6 Tryz.f184 Bq0 Dk6 2:=⟨Tryz.func184,⟨_,rfl⟩,by kernel_rfl,rfl,rfl,by kernel_rfl⟩
theorem E21:FnOk PR cutsOf A64 Tryz.f185 Br4 Do0 3:=⟨Tryz.func185,⟨_,rfl⟩,by kernel_rfl,rfl,rfl,by kernel_rfl⟩
theorem D97:FnOk PR cutsOf Ao0 Tryz.f186 A44 Bw0 6:=⟨Tryz.func186,⟨_,rfl⟩,by kernel_rfl,rfl,rfl,by kernel_rfl⟩
theorem E28:FnOk PR cutsOf A51 Tryz.f187 Bq9 Do1 3:=⟨Tryz.func187,⟨_,rfl⟩,by kernel_rfl,rfl,rfl,by kernel_rfl⟩
theorem Br2:FnOk PR cutsOf Q0 Tryz.f194 A45 Bs9 1:=⟨Tryz.func194,⟨_,rfl⟩,by kernel_rfl,rfl,rfl,by kernel_rfl⟩
theorem Dc7:FnOk PR cutsOf M9 Tryz.f195 Ak5 A92 2:=⟨Tryz.func195,⟨_,rfl⟩,by kernel_rfl,rfl,rfl,by kernel_rfl⟩
theorem D95:FnOk PR cutsOf Am3 Tryz.f196 A69 B05 3:=⟨Tryz.func196,⟨_,rfl⟩,by kernel_rfl,rfl,rfl,by kernel_rfl⟩
theorem Hm3:FnOk PR cutsOf Bi9 Tryz.f197 D82 E72 2:=⟨Tryz.func197,⟨_,rfl⟩,by kernel_rfl,rfl,rfl,by kernel_rfl⟩
theorem Hm6:FnOk PR cutsOf Bh2 Tryz.f198 D60 E82 1:=⟨Tryz.func198,⟨_,rfl⟩,by kernel_rfl,rfl,rfl,by kernel_rfl⟩
theorem Bm7:FnOk PR cutsOf P5 Tryz.f199 Aa2 Ap0 2:=⟨Tryz.func199,⟨_,rfl⟩,by kernel_rfl,rfl,rfl,by kernel_rfl⟩
theorem E39:FnOk PR cutsOf Ad8 Tryz.f200 Bw5 Dt1 1:=⟨Tryz.func200,⟨_,rfl⟩,by kernel_rfl,rfl,rfl,by kernel_rfl⟩
theorem Dw0:FnOk PR cutsOf Z3 Tryz.f201 Ax6 Bn0 6:=⟨Tryz.func201,⟨_,rfl⟩,by kernel_rfl,rfl,rfl,by kernel_rfl⟩
theorem E65:FnOk PR cutsOf Bd1 Tryz.f202 Bw1 Ds8 3:=⟨Tryz.func202,⟨_,rfl⟩,by kernel_rfl,rfl,rfl,by kernel_rfl⟩
theorem Ey7:FnOk PR cutsOf Ar1 Tryz.f203 Bs1 Do8 3:=⟨Tryz.func203,⟨_,rfl⟩,by kernel_rfl,rfl,rfl,by kernel_rfl⟩
theorem Ez0:FnOk PR cutsOf Ag4 Tryz.f206 Bs7 Dm3 2:=⟨Tryz.func206,⟨_,rfl⟩,by kernel_rfl,rfl,rfl,by kernel_rfl⟩
theorem El1:FnOk PR cutsOf Ax0 Tryz.f207 Bh0 B76 3:=⟨Tryz.func207,⟨_,rfl⟩,by kernel_rfl,rfl,rfl,by kernel_rfl⟩
theorem E23:FnOk PR cutsOf Aq5 Tryz.f208 Bq1 Di8 3:=⟨Tryz.func208,⟨_,rfl⟩,by kernel_rfl,rfl,rfl,by kernel_rfl⟩
theorem Y4:FnOk PR cutsOf B6 Tryz.f209 Q9 Y0 3:=⟨Tryz.func209,⟨_,rfl⟩,by kernel_rfl,rfl,rfl,by kernel_rfl⟩
theorem Es6:FnOk PR cutsOf Az8 Tryz.f210 Bk6 Dd2 3:=⟨Tryz.func210,⟨_,rfl⟩,by kernel_rfl,rfl,rfl,by kernel_rfl⟩
theorem D51:FnOk PR cutsOf An5 Tryz.f211 A60 Bz7 3:=⟨Tryz.func211,⟨_,rfl⟩,by kernel_rfl,rfl,rfl,by kernel_rfl⟩
theorem H0:FnOk PR cutsOf N4 Tryz.f212 A98 Bm6 2:=⟨Tryz.func212,⟨_,rfl⟩,by kernel_rfl,rfl,rfl,by kernel_rfl⟩
theorem N6:FnOk PR cutsOf V8 Tryz.f213 Bl8 B63 1:=⟨Tryz.func213,⟨_,rfl⟩,by kernel_rfl,rfl,rfl,by kernel_rfl⟩
theorem D88:FnOk PR cutsOf An4 Tryz.f214 A42 Bx0 3:=⟨Tryz.func214,⟨_,rfl⟩,by kernel_rfl,rfl,rfl,by kernel_rfl⟩
theorem G65:FnOk PR cutsOf Ao7 Tryz.f215 Dw8 Ex7 2:=⟨Tryz.func215,⟨_,rfl⟩,by kernel_rfl,rfl,rfl,by kernel_rfl⟩
theorem G53:FnOk PR cutsOf Ao9 Tryz.f216 Du7 Eu4 1:=⟨Tryz.func216,⟨_,rfl⟩,by kernel_rfl,rfl,rfl,by kernel_rfl⟩
theorem L0:FnOk PR cutsOf D1 Tryz.f217 W6 Ag5 2:=⟨Tryz.func217,⟨_,rfl⟩,by kernel_rfl,rfl,rfl,by kernel_rfl⟩
theorem Am0:FnOk PR cutsOf H3 Tryz.f218 Ab6 An9 2:=⟨Tryz.func218,⟨_,rfl⟩,by kernel_rfl,rfl,rfl,by kernel_rfl⟩
theorem Bs8:FnOk PR cutsOf U9 Tryz.f219 A68 Bs6 1:=⟨Tryz.func219,⟨_,rfl⟩,by kernel_rfl,rfl,rfl,by kernel_rfl⟩
theorem E13:FnOk PR cutsOf A59 Tryz.f220 Bq7 Do5 2:=⟨Tryz.func220,⟨_,rfl⟩,by kernel_rfl,rfl,rfl,by kernel_rfl⟩
theorem Hu3:FnOk PR cutsOf Dr5 Tryz.f223 En5 Gh7 1:=⟨Tryz.func223,⟨_,rfl⟩,by kernel_rfl,rfl,rfl,by kernel_rfl⟩
theorem Ak4:FnOk PR cutsOf B8 Tryz.f224 Aa6 Ak3 2:=⟨Tryz.func224,⟨_,rfl⟩,by kernel_rfl,rfl,rfl,by kernel_rfl⟩
theorem Ad4:FnOk PR cutsOf E4 Tryz.f225 S9 Ae1 2:=⟨Tryz.func225,⟨_,rfl⟩,by kernel_rfl,rfl,rfl,by kernel_rfl⟩
theorem Di0:FnOk PR cutsOf Ac4 Tryz.f226 Am5 Bc9 2:=⟨Tryz.func226,⟨_,rfl⟩,by kernel_rfl,rfl,rfl,by kernel_rfl⟩
theorem Dk4:FnOk PR cutsOf Ae0 Tryz.f229 Aq7 Be4 2:=⟨Tryz.func229,⟨_,rfl⟩,by kernel_rfl,rfl,rfl,by kernel_rfl⟩
theorem Et4:FnOk PR cutsOf A04 Tryz.f230 Bl2 Dd9 3:=⟨Tryz.func230,⟨_,rfl⟩,by kernel_rfl,rfl,rfl,by kernel_rfl⟩
theorem Hn4:FnOk PR cutsOf Dg5 Tryz.f231 D47 E95 1:=⟨Tryz.func231,⟨_,rfl⟩,by kernel_rfl,rfl,rfl,by kernel_rfl⟩
theorem Gv7:FnOk PR cutsOf Be0 Tryz.f232 Dl6 Eg6 3:=⟨Tryz.func232,⟨_,rfl⟩,by kernel_rfl,rfl,rfl,by kernel_rfl⟩
theorem Gx7:FnOk PR cutsOf B00 Tryz.f233 Dn5 Em6 2:=⟨Tryz.func233,⟨_,rfl⟩,by kernel_rfl,rfl,rfl,by kernel_rfl⟩
theorem Hg1:FnOk PR cutsOf Dh6 Tryz.f234 D84 E59 1:=⟨Tryz.func234,⟨_,rfl⟩,by kernel_rfl,rfl,rfl,by kernel_rfl⟩
theorem Ha8:FnOk PR cutsOf Ap5 Tryz.f235 Dw2 Ev1 2:=⟨Tryz.func235,⟨_,rfl⟩,by kernel_rfl,rfl,rfl,by kernel_rfl⟩
theorem Gz0:FnOk PR cutsOf Ai7 Tryz.f238 Dm7 Ei0 2:=⟨Tryz.func238,⟨_,rfl⟩,by kernel_rfl,rfl,rfl,by kernel_rfl⟩
theorem G38:FnOk PR cutsOf Bf6 Tryz.f239 Do3 Eo1 1:=⟨Tryz.func239,⟨_,rfl⟩,by kernel_rfl,rfl,rfl,by kernel_rfl⟩
end
end Go.EQ

namespace Go.EQ
open Go Go.NN Go.Proofs
theorem H69:type_of% Tryz.underlying3:=Tryz.underlying3
theorem If1:type_of% Tryz.underlying4:=Tryz.underlying4
theorem He1:type_of% Tryz.underlying48:=Tryz.underlying48
end Go.EQ
