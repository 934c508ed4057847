/- Pipes are apart: what flows in one is nothing to another one; no conditions. -/
import Derived.Test.YtnmdbfbjdhgmlaaGreatMc
import Derived.Test.YtnmdbfbjdhgmlaaGreatProg
import Derived.KernelRfl
set_option linter.all false
namespace Go.EQ
open Go Go.NN Go.Proofs
noncomputable abbrev PR:Program:=Tryz.prog
abbrev G8:FuncId:=3
abbrev Ad6:FuncId:=9
abbrev A86:FuncId:=10
abbrev Bi0:FuncId:=11
abbrev A89:FuncId:=12
abbrev A91:FuncId:=13
abbrev A13:FuncId:=14
abbrev Bl8:FuncId:=19
abbrev Bw6:FuncId:=21
abbrev Be1:FuncId:=23
abbrev Bx5:FuncId:=24
abbrev O0:FuncId:=25
abbrev Q1:FuncId:=26
abbrev Ap9:FuncId:=27
abbrev A76:FuncId:=28
abbrev Q3:FuncId:=29
abbrev A00:FuncId:=30
abbrev A44:FuncId:=31
abbrev B40:FuncId:=32
abbrev V9:FuncId:=33
abbrev A28:FuncId:=34
abbrev P7:FuncId:=35
abbrev A36:FuncId:=36
abbrev P6:FuncId:=37
abbrev Q8:FuncId:=38
abbrev R0:FuncId:=39
abbrev Dg4:FuncId:=40
abbrev Ab6:FuncId:=41
abbrev Dn1:FuncId:=42
abbrev O2:FuncId:=43
abbrev Bv8:FuncId:=44
abbrev Ge5:FuncId:=45
abbrev At0:FuncId:=46
abbrev An7:FuncId:=47
abbrev B42:FuncId:=48
abbrev B50:FuncId:=49
abbrev L0:FuncId:=52
abbrev B49:FuncId:=57
abbrev B8:FuncId:=59
abbrev Z7:FuncId:=60
abbrev P9:FuncId:=64
abbrev N3:FuncId:=65
abbrev Af7:FuncId:=66
abbrev I3:FuncId:=68
abbrev H3:FuncId:=69
abbrev E9:FuncId:=70
abbrev Bn4:FuncId:=71
abbrev Aw1:FuncId:=72
abbrev Ad9:FuncId:=73
abbrev Az8:FuncId:=74
abbrev Au8:FuncId:=75
abbrev Ec2:FuncId:=76
abbrev Am6:FuncId:=77
abbrev Eb9:FuncId:=78
abbrev Ed9:FuncId:=79
abbrev Ec0:FuncId:=80
abbrev Eh8:FuncId:=81
abbrev Er7:FuncId:=82
abbrev Dp7:FuncId:=83
abbrev Eq7:FuncId:=84
abbrev Es0:FuncId:=85
abbrev Au5:FuncId:=86
abbrev A66:FuncId:=87
abbrev A94:FuncId:=88
abbrev J0:FuncId:=89
abbrev A33:FuncId:=90
abbrev A14:FuncId:=91
abbrev H6:FuncId:=92
abbrev A31:FuncId:=93
abbrev At1:FuncId:=94
abbrev At5:FuncId:=95
abbrev I7:FuncId:=96
abbrev A08:FuncId:=97
abbrev A18:FuncId:=98
abbrev A30:FuncId:=99
abbrev A34:FuncId:=100
abbrev Bs1:FuncId:=102
abbrev Gn9:FuncId:=103
abbrev Aj2:FuncId:=104
abbrev S4:FuncId:=105
abbrev H0:FuncId:=106
abbrev Z0:FuncId:=109
abbrev I9:FuncId:=110
abbrev A23:FuncId:=111
abbrev P1:FuncId:=115
abbrev Al2:FuncId:=116
abbrev Ao1:FuncId:=117
abbrev P4:FuncId:=118
abbrev A80:FuncId:=119
abbrev V0:FuncId:=120
abbrev Dr3:FuncId:=121
abbrev Au3:FuncId:=122
abbrev Ao9:FuncId:=123
abbrev By7:FuncId:=124
abbrev Dc3:FuncId:=125
abbrev An5:FuncId:=126
abbrev N8:FuncId:=127
abbrev A50:FuncId:=128
abbrev Y1:FuncId:=129
abbrev M0:FuncId:=130
abbrev Y5:FuncId:=131
abbrev Bg4:FuncId:=132
abbrev Av7:FuncId:=133
abbrev A38:FuncId:=134
abbrev A70:FuncId:=135
abbrev Ak9:FuncId:=136
abbrev Ai3:FuncId:=137
abbrev A73:FuncId:=138
abbrev Aa9:FuncId:=139
abbrev Z8:FuncId:=140
abbrev Aj9:FuncId:=141
abbrev Au7:FuncId:=142
abbrev Ec5:FuncId:=143
abbrev Ar8:FuncId:=144
abbrev Au0:FuncId:=145
abbrev Az2:FuncId:=146
abbrev Az1:FuncId:=147
abbrev Al6:FuncId:=148
abbrev A49:FuncId:=149
abbrev Ah2:FuncId:=150
abbrev Ae6:FuncId:=151
abbrev A61:FuncId:=152
abbrev N0:FuncId:=159
abbrev Ak5:FuncId:=160
abbrev A88:FuncId:=161
abbrev U5:FuncId:=162
abbrev Be5:FuncId:=163
abbrev S9:FuncId:=164
abbrev S8:FuncId:=165
abbrev W2:FuncId:=166
abbrev U0:FuncId:=167
abbrev A83:FuncId:=168
abbrev S6:FuncId:=169
abbrev Ap5:FuncId:=171
abbrev S7:FuncId:=173
abbrev Z9:FuncId:=174
abbrev G3:FuncId:=175
abbrev E4:FuncId:=176
abbrev Bx0:FuncId:=177
abbrev N6:FuncId:=178
abbrev A03:FuncId:=179
abbrev Ai9:FuncId:=180
abbrev Ad5:FuncId:=181
abbrev Aq8:FuncId:=182
abbrev Y0:FuncId:=183
abbrev E7:FuncId:=184
abbrev P2:FuncId:=185
abbrev Z5:FuncId:=186
abbrev Bg2:FuncId:=187
abbrev Bc4:FuncId:=188
abbrev Aq1:FuncId:=189
abbrev Ag2:FuncId:=192
abbrev Av0:FuncId:=193
abbrev Aq6:FuncId:=194
abbrev B6:FuncId:=195
abbrev Az7:FuncId:=196
abbrev A57:FuncId:=197
abbrev V4:FuncId:=198
abbrev O4:FuncId:=201
abbrev Ad8:FuncId:=202
abbrev Am3:FuncId:=203
abbrev Ap6:FuncId:=204
abbrev Ap0:FuncId:=205
abbrev G1:FuncId:=206
abbrev Al4:FuncId:=207
abbrev Bh4:FuncId:=208
abbrev Bi1:FuncId:=209
abbrev An3:FuncId:=210
abbrev M9:FuncId:=211
abbrev V6:FuncId:=212
abbrev D3:FuncId:=213
abbrev H7:FuncId:=214
abbrev L7:FuncId:=215
abbrev Bf4:FuncId:=216
abbrev Ab7:FuncId:=217
abbrev Ad0:FuncId:=220
abbrev Az4:FuncId:=221
abbrev E8:FuncId:=222
abbrev Dd3:FuncId:=223
abbrev B9:FuncId:=224
abbrev Df2:FuncId:=225
abbrev Be7:FuncId:=226
abbrev Bu6:FuncId:=227
abbrev Aj1:FuncId:=230
abbrev Bd9:FuncId:=231
abbrev B3:TypeId:=3
abbrev E30:TypeId:=4
abbrev A4:TypeId:=5
abbrev Di2:TypeId:=22
abbrev N7:TypeId:=24
abbrev Y4:TypeId:=33
abbrev D30:TypeId:=35
abbrev Dd5:TypeId:=37
abbrev Gc0:TypeId:=44
abbrev D6:TypeId:=46
abbrev Dl5:TypeId:=53
abbrev Bv2:TypeId:=56
abbrev Aw0:TypeId:=59
abbrev B7:TypeId:=63
abbrev Ei2:TypeId:=65
abbrev D2:TypeId:=73
abbrev O9:TypeId:=75
abbrev Bu2:TypeId:=91
abbrev D5:TypeId:=116
abbrev Bt8:TypeId:=125
abbrev Dt6:TypeId:=133
abbrev Eu6:TypeId:=142
abbrev Dz0:TypeId:=150
abbrev A85:TypeId:=156
abbrev D7:TypeId:=161
abbrev H9:TypeId:=189
abbrev At4:TypeId:=196
abbrev N9:TypeId:=203
abbrev Db2:TypeId:=212
abbrev Dr6:TypeId:=215
abbrev A26:TypeId:=231
abbrev Ef3:TypeId:=235
abbrev Eh1:TypeId:=238
abbrev Et9:TypeId:=240
abbrev Bw5:TypeId:=254
abbrev Ed4:TypeId:=265
abbrev Ar1:TypeId:=268
abbrev G2:TypeId:=269
abbrev At2:TypeId:=272
abbrev Dh5:TypeId:=275
abbrev Ev3:TypeId:=277
abbrev At6:TypeId:=280
abbrev Bm5:TypeId:=282
abbrev Bd6:TypeId:=295
abbrev Ej5:TypeId:=298
abbrev Ah8:TypeId:=304
abbrev Bm7:TypeId:=308
abbrev Bl3:TypeId:=312
abbrev Br7:TypeId:=316
abbrev Aj6:TypeId:=318
abbrev H74:TypeId:=332
end Go.EQ

set_option maxRecDepth 100000
namespace Go.EQ
open Go Go.NN Go.Proofs
variable (C : A3) (R : A5)
noncomputable section
def A56:Cuts:={ globs:=0,loops:=[(6,[0,4,7,8])],regs:=[],plans:=[(14,⟨[0,1,2,3,4,5,6,7,8,9,10,11],[0,1,0,4,12,28,0,64,192,508,1020,2047],[],[]⟩),(17,⟨[0,1,2,3,4,5,6,7,8,9],[0,0,2,6,0,16,48,126,255,511],[],[]⟩),(20,⟨[0,1,2,3,4,5,6,7,8,9,10,11,12,13,14,15,16,17,18,19,20,21,22,23,24,25,26,27],[0,1,0,4,12,28,63,127,255,511,1023,2047,4095,8191,16383,4095,36863,102399,4095,4095,528383,1576959,3674111,8130559,16748543,33554431,67108863,134217727],[],[]⟩),(22,⟨[0,1,2,3,4,5,6,7,8,9,10,11,12],[0,0,2,6,0,0,32,96,224,496,1022,2047,4095],[],[]⟩)] }
def Bp5:List Item:=A6 Tryz.f3
def Y8:List Item:=stk [0,1,0,1,0,1,0,1,0,0,1,4,5] Bp5
theorem Ex1 (C:A3) (R:A5) (l:Option Addr) (ln lc:Nat) (h:H) :
 A7 PR A56 C R G8 Tryz.f3 100000 true Bp5 [(0,.slice l ln lc)] h =
 bnd (C A86 [] h) fun r w=>aSl r fun x xn xc=>bnd (C Ad6 [.slice x xn xc] w) fun r_1 w1=>as4 r_1 fun r_2 r_3 r_4 r_5=>aPtr r_2 fun _=>aPtr r_3 fun x_2=>aPtr r_4 fun _=>aPtr r_5 fun _=>bnd (cond x_2.isNone (some (true,w1)) (bnd (C Bi0 [.pointer x_2,.int .i64 0] w1) fun r_6 w2=>aAgg r_6 fun x_5=>nth x_5 0 fun N=>aInt .i64 N fun N_1=>some (N_1 != 33,w2))) fun c w3=>bnd (cond c (some (true,w3)) (bnd (C Bi0 [.pointer x_2,.int .i64 0] w3) fun r_7 w4=>aAgg r_7 fun x_6=>nth x_6 0 fun N_2=>aInt .i64 N_2 fun N_3=>some (N_3 != 67,w4))) fun c_1 w5=>cond c_1
 (some (.bool false,w5))
 (nw (.cells D30 false [.string (ByteArray.mk ⟨[]⟩),.string (ByteArray.mk ⟨[]⟩)]) w5 fun b w6=>R G8 Y8 [(0,.slice l ln lc),(4,.pointer x_2),(7,.pointer (some ⟨b,0,none⟩)),(8,.int .i64 0)] w6):=by kernel_rfl
theorem B01 (C:A3) (R:A5) (l:Option Addr) (ln lc:Nat) (c:Option Addr) (q:Addr) (i:Int) (h:H) :
 A7 PR A56 C R G8 Tryz.f3 100000 true Y8 [(0,.slice l ln lc),(4,.pointer c),(7,.pointer (some q)),(8,.int .i64 i)] h =
 bnd (cond (decide (i<((ln:Nat):Int))) (some (decide (i<60),h)) (some (false,h))) fun c_1 w=>cond c_1
 (aSome l fun p=>ck ((0:Int)≤i∧i<((ln:Nat):Int)) (gAgg (Addr.add (B1 p) (Int.toNat i*5)) 5 w fun x=>nw (.cells Dd5 false [.int .i64 0,.int .i64 0,.int .i64 0,.int .i64 0,.slice none 0 0]) w fun b w1=>ck (List.length x=5) (pAgg ⟨b,0,none⟩ x w1 fun w2=>gSl (Addr.add ⟨b,0,none⟩ 4) w2 fun _ xn _=>cond (decide (((xn:Nat):Int)>8))
 (bnd (C A89 [] w2) fun r w3=>aBool r fun x_2=>some (.bool x_2,w3))
 (gInt .i64 (Addr.add ⟨b,0,none⟩ 1) w2 fun x_3=>gInt .i64 (Addr.add ⟨b,0,none⟩ 0) w2 fun x_4=>cond ((D0 .i64 x_4 1)==0)
 (gSl (Addr.add ⟨b,0,none⟩ 4) w2 fun x_5 xn_1 xc_1=>bnd (C A91 [.pointer c,.int .i64 0,.int .i64 (IntKind.wrap .i64 (2+(IntKind.wrap .i64 (2*(D0 .i64 x_3 1))))),.slice x_5 xn_1 xc_1] w2) fun r_1 w4=>aAgg r_1 fun x_6=>nw (.cells Y4 false [.int .i64 0,.int .i64 0,.slice none 0 0,.bool false]) w4 fun b_1 w5=>ck (List.length x_6=4) (pAgg ⟨b_1,0,none⟩ x_6 w5 fun w6=>gBool (Addr.add ⟨b_1,0,none⟩ 3) w6 fun x_7=>ck ((0:Int)≤D0 .i64 x_3 1∧D0 .i64 x_3 1<((2:Nat):Int)) (gStr (Addr.add q (Int.toNat (D0 .i64 x_3 1)*1)) w6 fun x_8=>gSl (Addr.add ⟨b,0,none⟩ 4) w6 fun _ xn_2 _=>cond (!(x_7==(decide ((IntKind.wrap .i64 (((ByteArray.size x_8:Nat):Int)+((xn_2:Nat):Int)))>32))))
 (some (.bool false,w6))
 (gBool (Addr.add ⟨b_1,0,none⟩ 3) w6 fun x_10=>cond (!x_10)
 (ck ((0:Int)≤D0 .i64 x_3 1∧D0 .i64 x_3 1<((2:Nat):Int)) (gStr (Addr.add q (Int.toNat (D0 .i64 x_3 1)*1)) w6 fun x_11=>gSl (Addr.add ⟨b,0,none⟩ 4) w6 fun x_12 xn_3 _=>gCells x_12 xn_3 w6 fun cs=>asBytes cs fun l_1=>ck (ByteArray.size x_11+ByteArray.size (ByteArray.mk ⟨l_1⟩)≤B0) (ck ((0:Int)≤D0 .i64 x_3 1∧D0 .i64 x_3 1<((2:Nat):Int)) (pV (Addr.add q (Int.toNat (D0 .i64 x_3 1)*1)) (.string (x_11++(ByteArray.mk ⟨l_1⟩))) w6 fun w7=>R G8 Y8 [(0,.slice l ln lc),(4,.pointer c),(7,.pointer (some q)),(8,.int .i64 (IntKind.wrap .i64 (i+1)))] w7))))
 (R G8 Y8 [(0,.slice l ln lc),(4,.pointer c),(7,.pointer (some q)),(8,.int .i64 (IntKind.wrap .i64 (i+1)))] w6)))))
 (gInt .i64 (Addr.add ⟨b,0,none⟩ 3) w2 fun x_13=>bnd (C A13 [.pointer c,.int .i64 0,.int .i64 (IntKind.wrap .i64 (1+(IntKind.wrap .i64 (2*(D0 .i64 x_3 1))))),.int .i64 (IntKind.wrap .i64 ((D0 .i64 x_13 15)+1))] w2) fun r_2 w8=>aAgg r_2 fun x_14=>nw (.cells Y4 false [.int .i64 0,.int .i64 0,.slice none 0 0,.bool false]) w8 fun b_2 w9=>ck (List.length x_14=4) (pAgg ⟨b_2,0,none⟩ x_14 w9 fun w10=>gBool (Addr.add ⟨b_2,0,none⟩ 3) w10 fun x_15=>ck ((0:Int)≤D0 .i64 x_3 1∧D0 .i64 x_3 1<((2:Nat):Int)) (gStr (Addr.add q (Int.toNat (D0 .i64 x_3 1)*1)) w10 fun x_16=>bnd (cond (!(x_15==(x_16.toList==(ByteArray.mk ⟨[]⟩).toList))) (some (true,w10)) (gBool (Addr.add ⟨b_2,0,none⟩ 3) w10 fun x_17=>bnd (cond (!x_17) (gSl (Addr.add ⟨b_2,0,none⟩ 2) w10 fun x_18 xn_4 _=>gCells x_18 xn_4 w10 fun cs_1=>asBytes cs_1 fun l_2=>ck ((0:Int)≤D0 .i64 x_3 1∧D0 .i64 x_3 1<((2:Nat):Int)) (gStr (Addr.add q (Int.toNat (D0 .i64 x_3 1)*1)) w10 fun x_19=>ck ((0:Int)≤D0 .i64 x_3 1∧D0 .i64 x_3 1<((2:Nat):Int)) (gStr (Addr.add q (Int.toNat (D0 .i64 x_3 1)*1)) w10 fun x_20=>ck ((0:Int)≤mm2 false (IntKind.wrap .i64 ((D0 .i64 x_13 15)+1)) ((ByteArray.size x_20:Nat):Int)∧mm2 false (IntKind.wrap .i64 ((D0 .i64 x_13 15)+1)) ((ByteArray.size x_20:Nat):Int)≤((ByteArray.size x_19:Nat):Int)) (some (!((ByteArray.mk ⟨l_2⟩).toList==(ByteArray.extract x_19 0 (Int.toNat (mm2 false (IntKind.wrap .i64 ((D0 .i64 x_13 15)+1)) ((ByteArray.size x_20:Nat):Int)))).toList),w10))))) (some (false,w10))) fun c_2 w11=>some (c_2,w11))) fun c_3 w12=>cond c_3
 (some (.bool false,w12))
 (ck ((0:Int)≤D0 .i64 x_3 1∧D0 .i64 x_3 1<((2:Nat):Int)) (gStr (Addr.add q (Int.toNat (D0 .i64 x_3 1)*1)) w12 fun x_21=>ck ((0:Int)≤D0 .i64 x_3 1∧D0 .i64 x_3 1<((2:Nat):Int)) (gStr (Addr.add q (Int.toNat (D0 .i64 x_3 1)*1)) w12 fun x_22=>ck ((0:Int)≤mm2 false (IntKind.wrap .i64 ((D0 .i64 x_13 15)+1)) ((ByteArray.size x_22:Nat):Int)∧mm2 false (IntKind.wrap .i64 ((D0 .i64 x_13 15)+1)) ((ByteArray.size x_22:Nat):Int)≤((ByteArray.size x_21:Nat):Int)) (ck ((0:Int)≤D0 .i64 x_3 1∧D0 .i64 x_3 1<((2:Nat):Int)) (pV (Addr.add q (Int.toNat (D0 .i64 x_3 1)*1)) (.string (ByteArray.extract x_21 (Int.toNat (mm2 false (IntKind.wrap .i64 ((D0 .i64 x_13 15)+1)) ((ByteArray.size x_22:Nat):Int))) (ByteArray.size x_21))) w12 fun w13=>R G8 Y8 [(0,.slice l ln lc),(4,.pointer c),(7,.pointer (some q)),(8,.int .i64 (IntKind.wrap .i64 (i+1)))] w13))))))))))))
 (bnd (C A89 [] w) fun r_3 w14=>aBool r_3 fun x_23=>some (.bool x_23,w14)):=by kernel_rfl
def B97:Cuts:={ globs:=0,loops:=[],regs:=[],plans:=[(5,⟨[0,1,2,3,4],[0,1,0,4,15],[(3,[1])],[]⟩)] }
def Eb0:List Item:=A6 Tryz.f10
theorem Gl6 (C:A3) (R:A5)  (h:H) :
 A7 PR B97 C R A86 Tryz.f10 100000 true Eb0 [] h =
 bnd (C A76 [] h) fun r w=>aStr r fun x=>ck (ByteArray.size x≤B0) (nw (.cells A4 false (A0 (ByteArray.data x).toList)) w fun b w1=>nw (.cells D6 false [.int .i64 0,.int .i64 0,.int .i64 0,.int .i64 0,.int .i64 0,.int .i64 0,.int .i64 0,.int .i64 0,.int .i64 0,.int .i64 0,.int .i64 0,.int .i64 0,.int .i64 0,.int .i64 0,.int .i64 0,.int .i64 0]) w1 fun b_1 w2=>pAgg ⟨b_1,0,none⟩ [.int .i64 1,.int .i64 0,.int .i64 0,.int .i64 0,.int .i64 0,.int .i64 0,.int .i64 0,.int .i64 0,.int .i64 0,.int .i64 0,.int .i64 0,.int .i64 0,.int .i64 0,.int .i64 0,.int .i64 0,.int .i64 0] w2 fun w3=>ck ((0:Int)≤0∧0<((8:Nat):Int)) (pV (Addr.add (Addr.add ⟨b_1,0,none⟩ 8) (Int.toNat 0*1)) (.int .i64 1) w3 fun w4=>gAgg ⟨b_1,0,none⟩ 16 w4 fun x_1=>bnd (C Q3 [.agg ⟨x_1⟩] w4) fun r_1 w5=>aStr r_1 fun x_2=>pCells (some (J4 b)) (A0 (List.take (min (ByteArray.size x_2) (ByteArray.size x)) (ByteArray.data x_2).toList)) w5 fun w6=>ckB (fitsOpen (some (J4 b)) A4 w6) (ck ((0:Int)≤192∧192≤((ByteArray.size x:Nat):Int)) (bnd (C A00 [.agg ⟨[.int .i64 3,.int .i64 0,.int .i64 1,.int .i64 0]⟩] w6) fun r_2 w7=>aStr r_2 fun x_3=>ckB (fitsOpen (some (J4 b)) A4 w7) (ck ((0:Int)≤192∧192≤((ByteArray.size x:Nat):Int)) (same (.slice (G9 (some (J4 b)) (decide (Int.toNat 192<ByteArray.size x)) ((Int.toNat 192)*1)) ((ByteArray.size x)-(Int.toNat 192)) ((ByteArray.size x)-(Int.toNat 192))) (.slice (G9 (some (J4 b)) (decide (Int.toNat 192<ByteArray.size x)) ((Int.toNat 192)*1)) ((ByteArray.size x)-(Int.toNat 192)) ((ByteArray.size x)-(Int.toNat 192))) (pCells (G9 (some (J4 b)) (decide (Int.toNat 192<ByteArray.size x)) ((Int.toNat 192)*1)) (A0 (List.take (min (ByteArray.size x_3) ((ByteArray.size x)-(Int.toNat 192))) (ByteArray.data x_3).toList)) w7 fun w8=>some (.slice (some (J4 b)) (ByteArray.size x) (ByteArray.size x),w8)))))))):=by kernel_rfl
def D22:Cuts:={ globs:=0,loops:=[],regs:=[],plans:=[(11,⟨[0,1,2,3,4,5,6,7,8,9,10,11,12,13,14,15,16,17,18,19,20,21,22,23,24,25,26,27,28],[0,0,2,6,0,31,63,127,127,383,895,127,2175,6271,14463,32767,65535,131071,262143,262143,786431,1835007,262143,4456447,12845055,29622271,67108863,134217727,268435455],[],[]⟩),(12,⟨[0,1,2,3,4,5,6,7,8,9,10,11,12,13,14,15,17,16,18,19],[0,1,3,0,8,24,0,64,192,448,0,1024,3072,7168,0,17351,50119,0,262143,524287],[(16,[5,12])],[]⟩),(13,⟨[0,1,7,8,9,10,11,12,13,14,2,3,4,5,6,15,16],[0,1,3,3,3,31,63,0,128,384,0,1024,3072,7168,16256,32767,65535],[(5,[9,12])],[]⟩)] }
def E91:List Item:=A6 Tryz.f11
theorem Hl8 (C:A3) (R:A5) (c:Option Addr) (i:Int) (h:H) :
 A7 PR D22 C R Bi0 Tryz.f11 100000 true E91 [(0,.pointer c),(1,.int .i64 i)] h =
 nw (.cells N7 false [.pointer c]) h fun b w=>nw (.cells Y4 false [.int .i64 0,.int .i64 0,.slice none 0 0,.bool false]) w fun b_1 w1=>gPtr ⟨b,0,none⟩ w1 fun x=>bnd (C Bl8 [.pointer x,.int .i64 i] w1) fun r w2=>as2 r fun r_1 r_2=>aAgg r_1 fun x_1=>aInt .i64 r_2 fun x_2=>nw (.cells D6 false [.int .i64 0,.int .i64 0,.int .i64 0,.int .i64 0,.int .i64 0,.int .i64 0,.int .i64 0,.int .i64 0,.int .i64 0,.int .i64 0,.int .i64 0,.int .i64 0,.int .i64 0,.int .i64 0,.int .i64 0,.int .i64 0]) w2 fun b_2 w3=>ck (List.length x_1=16) (pAgg ⟨b_2,0,none⟩ x_1 w3 fun w4=>cond (x_2 != 0)
 (bnd (C A44 [.int .i64 x_2] w4) fun r_3 w5=>aAgg r_3 fun x_3=>ck (List.length x_3=4) (pAgg ⟨b_1,0,none⟩ x_3 w5 fun w6=>gAgg ⟨b_1,0,none⟩ 4 w6 fun x_4=>some (.agg ⟨x_4⟩,w6)))
 (gAgg ⟨b_2,0,none⟩ 16 w4 fun x_5=>bnd (C B40 [.agg ⟨x_5⟩,.int .i64 2] w4) fun r_4 w7=>aSl r_4 fun x_6 xn _=>cond (decide (((xn:Nat):Int)<2))
 (bnd (C A44 [.int .i64 124] w7) fun r_5 w8=>aAgg r_5 fun x_7=>ck (List.length x_7=4) (pAgg ⟨b_1,0,none⟩ x_7 w8 fun w9=>gAgg ⟨b_1,0,none⟩ 4 w9 fun x_8=>some (.agg ⟨x_8⟩,w9)))
 (bnd (C V9 [.int .i64 12,.int .i64 2,.func (.func A28) ⟨[]⟩ ⟨[.pointer (some ⟨b,0,none⟩)]⟩] w7) fun r_6 w10=>aSl r_6 fun x_9 xn_1 _=>bnd (C V9 [.int .i64 4,.int .i64 1,.func (.func A36) ⟨[]⟩ ⟨[.pointer (some ⟨b,0,none⟩)]⟩] w10) fun r_7 w11=>aSl r_7 fun x_10 xn_2 _=>bnd (cond (decide (((xn_1:Nat):Int)<2)) (some (true,w11)) (some (((xn_2:Nat):Int)==0,w11))) fun c_1 w12=>cond c_1
 (bnd (C A44 [.int .i64 123] w12) fun r_8 w13=>aAgg r_8 fun x_11=>ck (List.length x_11=4) (pAgg ⟨b_1,0,none⟩ x_11 w13 fun w14=>gAgg ⟨b_1,0,none⟩ 4 w14 fun x_12=>some (.agg ⟨x_12⟩,w14)))
 (gPtr ⟨b,0,none⟩ w12 fun x_13=>aSome x_10 fun p=>ck ((0:Int)≤0∧0<((xn_2:Nat):Int)) (gInt .i64 (Addr.add (B1 p) (Int.toNat 0*1)) w12 fun x_14=>bnd (C Q8 [.pointer x_13,.int .i64 x_14,.agg ⟨[.int .i64 0,.int .i64 0,.int .i64 1,.int .i64 1,.int .u8 0,.int .u8 0,.int .u8 0,.int .u8 0,.int .u8 0,.int .u8 0,.int .u8 0,.int .u8 0,.int .u8 0,.int .u8 0,.int .u8 0,.int .u8 0,.int .u8 0,.int .u8 0,.int .u8 0,.int .u8 0,.int .u8 0,.int .u8 0,.int .u8 0,.int .u8 0,.int .u8 0,.int .u8 0,.int .u8 0,.int .u8 0,.int .u8 0,.int .u8 0,.int .u8 0,.int .u8 0,.int .u8 0,.int .u8 0,.int .u8 0,.int .u8 0]⟩] w12) fun r_9 w15=>aBool r_9 fun x_15=>bnd (cond x_15 (gPtr ⟨b,0,none⟩ w15 fun x_16=>aSome x_9 fun p_1=>ck ((0:Int)≤0∧0<((xn_1:Nat):Int)) (gInt .i64 (Addr.add (B1 p_1) (Int.toNat 0*1)) w15 fun x_17=>aSome x_10 fun p_2=>ck ((0:Int)≤0∧0<((xn_2:Nat):Int)) (gInt .i64 (Addr.add (B1 p_2) (Int.toNat 0*1)) w15 fun x_18=>bnd (C R0 [.pointer x_16,.int .i64 x_17,.agg ⟨[.int .i64 1,.int .i64 x_18,.int .i64 1,.int .i64 0]⟩] w15) fun r_10 w16=>aBool r_10 fun x_19=>some (x_19,w16)))) (some (false,w15))) fun c_2 w17=>bnd (cond c_2 (gPtr ⟨b,0,none⟩ w17 fun x_20=>aSome x_9 fun p_3=>ck ((0:Int)≤1∧1<((xn_1:Nat):Int)) (gInt .i64 (Addr.add (B1 p_3) (Int.toNat 1*1)) w17 fun x_21=>aSome x_10 fun p_4=>ck ((0:Int)≤0∧0<((xn_2:Nat):Int)) (gInt .i64 (Addr.add (B1 p_4) (Int.toNat 0*1)) w17 fun x_22=>bnd (C R0 [.pointer x_20,.int .i64 x_21,.agg ⟨[.int .i64 2,.int .i64 x_22,.int .i64 1,.int .i64 0]⟩] w17) fun r_11 w18=>aBool r_11 fun x_23=>some (x_23,w18)))) (some (false,w17))) fun c_3 w19=>aSome x_6 fun p_5=>ck ((0:Int)≤0∧0<((xn:Nat):Int)) (gInt .i64 (Addr.add (B1 p_5) (Int.toNat 0*1)) w19 fun x_24=>aSome x_6 fun p_6=>ck ((0:Int)≤1∧1<((xn:Nat):Int)) (gInt .i64 (Addr.add (B1 p_6) (Int.toNat 1*1)) w19 fun x_25=>aSome x_9 fun p_7=>ck ((0:Int)≤0∧0<((xn_1:Nat):Int)) (gInt .i64 (Addr.add (B1 p_7) (Int.toNat 0*1)) w19 fun x_26=>aSome x_9 fun p_8=>ck ((0:Int)≤1∧1<((xn_1:Nat):Int)) (gInt .i64 (Addr.add (B1 p_8) (Int.toNat 1*1)) w19 fun x_27=>ck ((0:Int)≤x_24∧x_24<((8:Nat):Int)) (pV (Addr.add (Addr.add ⟨b_2,0,none⟩ 8) (Int.toNat x_24*1)) (.int .i64 (IntKind.wrap .i64 (x_26+1))) w19 fun w20=>gInt .i64 (Addr.add (B1 p_6) (Int.toNat 1*1)) w20 fun x_28=>same (.int .i64 x_25) (.int .i64 x_28) (gInt .i64 (Addr.add (B1 p_8) (Int.toNat 1*1)) w20 fun x_29=>same (.int .i64 x_27) (.int .i64 x_29) (ck ((0:Int)≤x_25∧x_25<((8:Nat):Int)) (pV (Addr.add (Addr.add ⟨b_2,0,none⟩ 8) (Int.toNat x_25*1)) (.int .i64 (IntKind.wrap .i64 (x_27+1))) w20 fun w21=>aSome x_6 fun p_9=>ck ((0:Int)≤0∧0<((xn:Nat):Int)) (gInt .i64 (Addr.add (B1 p_9) (Int.toNat 0*1)) w21 fun x_30=>aSome x_6 fun p_10=>ck ((0:Int)≤1∧1<((xn:Nat):Int)) (gInt .i64 (Addr.add (B1 p_10) (Int.toNat 1*1)) w21 fun x_31=>bnd (cond c_3 (gPtr ⟨b,0,none⟩ w21 fun x_32=>gAgg ⟨b_2,0,none⟩ 16 w21 fun x_33=>bnd (C Ab6 [.pointer x_32,.int .i64 i,.agg ⟨x_33⟩] w21) fun r_12 w22=>aBool r_12 fun x_34=>gInt .i64 (Addr.add (B1 p_9) (Int.toNat 0*1)) w22 fun x_35=>same (.int .i64 x_30) (.int .i64 x_35) (gInt .i64 (Addr.add (B1 p_10) (Int.toNat 1*1)) w22 fun x_36=>same (.int .i64 x_31) (.int .i64 x_36) (some (x_34,w22)))) (some (false,w21))) fun c_4 w23=>bnd (C Dg4 [.bool c_4,.int .i64 (IntKind.wrap .i64 (x_30+(IntKind.wrap .i64 (16*x_31))))] w23) fun r_13 w24=>aAgg r_13 fun x_37=>ck (List.length x_37=4) (pAgg ⟨b_1,0,none⟩ x_37 w24 fun w25=>gAgg ⟨b_1,0,none⟩ 4 w25 fun x_38=>some (.agg ⟨x_38⟩,w25))))))))))))))))):=by kernel_rfl
def Da8:Cuts:={ globs:=0,loops:=[],regs:=[],plans:=[] }
def Ea3:List Item:=A6 Tryz.f13
theorem Gl4 (C:A3) (R:A5) (c:Option Addr) (i:Int) (fd:Int) (b:Option Addr) (bn bc:Nat) (h:H) :
 A7 PR Da8 C R A91 Tryz.f13 100000 true Ea3 [(0,.pointer c),(1,.int .i64 i),(2,.int .i64 fd),(3,.slice b bn bc)] h =
 nw (.cells Y4 false [.int .i64 0,.int .i64 0,.slice none 0 0,.bool false]) h fun b_1 w=>bnd (C Dn1 [.pointer c,.int .i64 i,.int .i64 fd] w) fun r w1=>as3 r fun r_1 r_2 r_3=>aInt .i64 r_1 fun _=>aAgg r_2 fun x_1=>aInt .i64 r_3 fun x_2=>nw (.cells D2 false [.int .i64 0,.int .i64 0,.int .i64 0,.int .i64 0]) w1 fun b_2 w2=>ck (List.length x_1=4) (pAgg ⟨b_2,0,none⟩ x_1 w2 fun w3=>cond (x_2 != 0)
 (bnd (C O2 [.int .i64 x_2] w3) fun r_4 w4=>aAgg r_4 fun x_3=>ck (List.length x_3=4) (pAgg ⟨b_1,0,none⟩ x_3 w4 fun w5=>gAgg ⟨b_1,0,none⟩ 4 w5 fun x_4=>some (.agg ⟨x_4⟩,w5)))
 (gInt .i64 (Addr.add ⟨b_2,0,none⟩ 0) w3 fun x_5=>cond (x_5 != 2)
 (bnd (C O2 [.int .i64 109] w3) fun r_5 w6=>aAgg r_5 fun x_6=>ck (List.length x_6=4) (pAgg ⟨b_1,0,none⟩ x_6 w6 fun w7=>gAgg ⟨b_1,0,none⟩ 4 w7 fun x_7=>some (.agg ⟨x_7⟩,w7)))
 (cond (decide (((bn:Nat):Int)>32))
 (bnd (C O2 [.int .i64 122] w3) fun r_6 w8=>aAgg r_6 fun x_8=>ck (List.length x_8=4) (pAgg ⟨b_1,0,none⟩ x_8 w8 fun w9=>gAgg ⟨b_1,0,none⟩ 4 w9 fun x_9=>some (.agg ⟨x_9⟩,w9)))
 (cond (((bn:Nat):Int)==0)
 (pAgg ⟨b_1,0,none⟩ [.int .i64 0,.int .i64 0,.slice none 0 0,.bool false] w3 fun w10=>gAgg ⟨b_1,0,none⟩ 4 w10 fun x_10=>some (.agg ⟨x_10⟩,w10))
 (gAgg ⟨b_2,0,none⟩ 4 w3 fun x_11=>bnd (C Bv8 [.pointer c,.agg ⟨x_11⟩] w3) fun r_7 w11=>as2 r_7 fun r_8 r_9=>aAgg r_8 fun x_12=>aBool r_9 fun x_13=>nw (.cells Bu2 false [.int .i64 0,.int .i64 0,.int .i64 0,.int .i64 0,.int .u8 0,.int .u8 0,.int .u8 0,.int .u8 0,.int .u8 0,.int .u8 0,.int .u8 0,.int .u8 0,.int .u8 0,.int .u8 0,.int .u8 0,.int .u8 0,.int .u8 0,.int .u8 0,.int .u8 0,.int .u8 0,.int .u8 0,.int .u8 0,.int .u8 0,.int .u8 0,.int .u8 0,.int .u8 0,.int .u8 0,.int .u8 0,.int .u8 0,.int .u8 0,.int .u8 0,.int .u8 0,.int .u8 0,.int .u8 0,.int .u8 0,.int .u8 0,.nilFunc]) w11 fun b_3 w12=>ck (List.length x_12=37) (pAgg ⟨b_3,0,none⟩ x_12 w12 fun w13=>cond (!x_13)
 (bnd (C O2 [.int .i64 105] w13) fun r_10 w14=>aAgg r_10 fun x_14=>ck (List.length x_14=4) (pAgg ⟨b_1,0,none⟩ x_14 w14 fun w15=>gAgg ⟨b_1,0,none⟩ 4 w15 fun x_15=>some (.agg ⟨x_15⟩,w15)))
 (gInt .i64 (Addr.add (Addr.add ⟨b_3,0,none⟩ 0) 2) w13 fun x_16=>cond (x_16==0)
 (bnd (C Ge5 [.pointer c,.int .i64 i] w13) fun r_11 w16=>aAgg r_11 fun x_17=>ck (List.length x_17=4) (pAgg ⟨b_1,0,none⟩ x_17 w16 fun w17=>gAgg ⟨b_1,0,none⟩ 4 w17 fun x_18=>some (.agg ⟨x_18⟩,w17)))
 (gInt .i64 (Addr.add (Addr.add ⟨b_3,0,none⟩ 0) 1) w13 fun x_19=>bnd (cond ((IntKind.wrap .i64 (32-x_19))==0) (some (true,w13)) (bnd (cond (decide (((bn:Nat):Int)≤8)) (some (decide ((IntKind.wrap .i64 (32-x_19))<((bn:Nat):Int)),w13)) (some (false,w13))) fun c_1 w18=>some (c_1,w18))) fun c_2 w19=>cond c_2
 (gAgg ⟨b_2,0,none⟩ 4 w19 fun x_20=>bnd (C At0 [.agg ⟨x_20⟩] w19) fun r_12 w20=>aAgg r_12 fun x_21=>ck (List.length x_21=4) (pAgg ⟨b_1,0,none⟩ x_21 w20 fun w21=>gAgg ⟨b_1,0,none⟩ 4 w21 fun x_22=>some (.agg ⟨x_22⟩,w21)))
 (gAgg (Addr.add ⟨b_3,0,none⟩ 0) 36 w19 fun x_23=>bnd (C An7 [.agg ⟨x_23⟩,.slice b bn bc] w19) fun r_13 w22=>as2 r_13 fun r_14 r_15=>aAgg r_14 fun x_24=>aInt .i64 r_15 fun x_25=>nw (.cells B7 false [.int .i64 0,.int .i64 0,.int .i64 0,.int .i64 0,.int .u8 0,.int .u8 0,.int .u8 0,.int .u8 0,.int .u8 0,.int .u8 0,.int .u8 0,.int .u8 0,.int .u8 0,.int .u8 0,.int .u8 0,.int .u8 0,.int .u8 0,.int .u8 0,.int .u8 0,.int .u8 0,.int .u8 0,.int .u8 0,.int .u8 0,.int .u8 0,.int .u8 0,.int .u8 0,.int .u8 0,.int .u8 0,.int .u8 0,.int .u8 0,.int .u8 0,.int .u8 0,.int .u8 0,.int .u8 0,.int .u8 0,.int .u8 0]) w22 fun b_4 w23=>ck (List.length x_24=36) (pAgg ⟨b_4,0,none⟩ x_24 w23 fun w24=>gFv (Addr.add ⟨b_3,0,none⟩ 36) w24 fun x_26=>gAgg ⟨b_4,0,none⟩ 36 w24 fun x_27=>aFn x_26 fun g fi cp=>bnd (C g (fi++([.agg ⟨x_27⟩]++cp)) w24) fun r_16 w25=>aBool r_16 fun x_28=>cond (!x_28)
 (bnd (C O2 [.int .i64 105] w25) fun r_17 w26=>aAgg r_17 fun x_29=>ck (List.length x_29=4) (pAgg ⟨b_1,0,none⟩ x_29 w26 fun w27=>gAgg ⟨b_1,0,none⟩ 4 w27 fun x_30=>some (.agg ⟨x_30⟩,w27)))
 (pAgg ⟨b_1,0,none⟩ [.int .i64 x_25,.int .i64 0,.slice none 0 0,.bool false] w25 fun w28=>gAgg ⟨b_1,0,none⟩ 4 w28 fun x_31=>some (.agg ⟨x_31⟩,w28)))))))))))):=by kernel_rfl
def Dj9:Cuts:={ globs:=0,loops:=[],regs:=[],plans:=[] }
def Eg6:List Item:=A6 Tryz.f23
theorem Gr5 (C:A3) (R:A5) (p:List Value) (h:H) :
 A7 PR Dj9 C R Be1 Tryz.f23 100000 true Eg6 [(0,.agg ⟨p⟩)] h =
 nw (.cells Bv2 false p) h fun b w=>gAgg ⟨b,0,none⟩ 3 w fun x=>bnd (C I3 [.agg ⟨x⟩] w) fun r w1=>aAgg r fun x_1=>nw (.cells D5 false [.slice none 0 0,.slice none 0 0,.slice none 0 0,.int .i64 0,.slice none 0 0]) w1 fun b_1 w2=>ck (List.length x_1=5) (pAgg ⟨b_1,0,none⟩ x_1 w2 fun w3=>gAgg ⟨b_1,0,none⟩ 5 w3 fun x_2=>bnd (C H3 [.agg ⟨x_2⟩] w3) fun r_1 w4=>as2 r_1 fun r_2 r_3=>aPtr r_2 fun x_3=>aInt .i64 r_3 fun x_4=>bnd (cond x_3.isNone (some (true,w4)) (some (x_4 != 0,w4))) fun c w5=>cond c
 (some (.tuple ⟨[.pointer none,.pointer none,.pointer none,.pointer none]⟩,w5))
 (gAgg ⟨b_1,0,none⟩ 5 w5 fun x_5=>bnd (C E9 [.agg ⟨x_5⟩] w5) fun r_4 w6=>aPtr r_4 fun x_6=>bnd (C Bn4 [.pointer x_3,.int .i64 0] w6) fun r_5 w7=>as2 r_5 fun r_6 r_7=>aPtr r_6 fun x_7=>aInt .i64 r_7 fun x_8=>bnd (cond x_7.isNone (some (true,w7)) (some (x_8 != 0,w7))) fun c_1 w8=>cond c_1
 (some (.tuple ⟨[.pointer none,.pointer none,.pointer none,.pointer none]⟩,w8))
 (bnd (C A76 [] w8) fun r_8 w9=>aStr r_8 fun x_9=>ck (ByteArray.size x_9≤B0) (nw (.cells A4 false (A0 (ByteArray.data x_9).toList)) w9 fun b_2 w10=>bnd (C Q1 [.pointer x_3,.int .i64 0,.agg ⟨[.int .i64 2,.int .i64 256,.int .i64 0,.int .i64 0,.int .i64 0,.int .i64 0,.slice (some (J4 b_2)) (ByteArray.size x_9) (ByteArray.size x_9)]⟩] w10) fun r_9 w11=>aAgg r_9 fun x_10=>nth x_10 0 fun E=>aInt .i64 E fun E_1=>cond (E_1 != 0)
 (some (.tuple ⟨[.pointer none,.pointer none,.pointer none,.pointer none]⟩,w11))
 (ck (ByteArray.size x_9≤B0) (nw (.cells A4 false (A0 (ByteArray.data x_9).toList)) w11 fun b_3 w12=>bnd (C Ap9 [.pointer x_6,.int .i64 0,.agg ⟨[.int .i64 2,.int .i64 256,.int .i64 0,.int .i64 0,.int .i64 0,.int .i64 0,.slice (some (J4 b_3)) (ByteArray.size x_9) (ByteArray.size x_9)]⟩] w12) fun r_10 w13=>as3 r_10 fun r_11 r_12 r_13=>aInt .i64 r_11 fun _=>aInt .i64 r_12 fun _=>aStr r_13 fun _=>bnd (C Aw1 [.pointer x_6,.int .i64 0] w13) fun r_14 w14=>aPtr r_14 fun x_14=>some (.tuple ⟨[.pointer x_3,.pointer x_7,.pointer x_6,.pointer x_14]⟩,w14))))))):=by kernel_rfl
def Da4:Cuts:={ globs:=0,loops:=[],regs:=[],plans:=[(1,⟨[0,1,2,3,4,5,6,7],[0,1,0,4,15,12,63,127],[(3,[1]),(5,[1])],[]⟩)] }
def Ea7:List Item:=A6 Tryz.f28
theorem Gm1 (C:A3) (R:A5)  (h:H) :
 A7 PR Da4 C R A76 Tryz.f28 100000 true Ea7 [] h =
 ck ((0:Int)≤448∧(448:Int)≤448∧448≤(B0:Int)) (nw (.cells A4 false (I1 (Int.toNat 448) [.int .u8 0])) h fun b w=>gCells (some ⟨b,0,none⟩) (Int.toNat 448) w fun cs=>asBytes cs fun l=>bnd (C O0 [.agg ⟨[.int .i64 0,.int .i64 0,.int .i64 1,.int .i64 1,.int .u8 0,.int .u8 0,.int .u8 0,.int .u8 0,.int .u8 0,.int .u8 0,.int .u8 0,.int .u8 0,.int .u8 0,.int .u8 0,.int .u8 0,.int .u8 0,.int .u8 0,.int .u8 0,.int .u8 0,.int .u8 0,.int .u8 0,.int .u8 0,.int .u8 0,.int .u8 0,.int .u8 0,.int .u8 0,.int .u8 0,.int .u8 0,.int .u8 0,.int .u8 0,.int .u8 0,.int .u8 0,.int .u8 0,.int .u8 0,.int .u8 0,.int .u8 0]⟩] w) fun r w1=>aStr r fun x=>gCells (some ⟨b,0,none⟩) (Int.toNat 448) w1 fun cs_1=>asBytes cs_1 fun l_1=>same (.string (ByteArray.mk ⟨l⟩)) (.string (ByteArray.mk ⟨l_1⟩)) (ck (ByteArray.size (ByteArray.mk ⟨l⟩)+ByteArray.size x≤B0) (bnd (C Au5 [.int .i64 0] w1) fun r_1 w2=>aStr r_1 fun x_1=>gCells (some ⟨b,0,none⟩) (Int.toNat 448) w2 fun cs_2=>asBytes cs_2 fun l_2=>same (.string (ByteArray.mk ⟨l⟩)) (.string (ByteArray.mk ⟨l_2⟩)) (ck (ByteArray.size ((ByteArray.mk ⟨l⟩)++x)+ByteArray.size x_1≤B0) (some (.string (((ByteArray.mk ⟨l⟩)++x)++x_1),w2)))))):=by kernel_rfl
def Ay3:Cuts:={ globs:=0,loops:=[],regs:=[],plans:=[] }
def Bm2:List Item:=A6 Tryz.f37
theorem Dt7 (C:A3) (R:A5) (c:Option Addr) (i:Int) (h:H) :
 A7 PR Ay3 C R P6 Tryz.f37 100000 true Bm2 [(0,.pointer c),(1,.int .i64 i)] h =
 nw (.cells B7 false [.int .i64 0,.int .i64 0,.int .i64 0,.int .i64 0,.int .u8 0,.int .u8 0,.int .u8 0,.int .u8 0,.int .u8 0,.int .u8 0,.int .u8 0,.int .u8 0,.int .u8 0,.int .u8 0,.int .u8 0,.int .u8 0,.int .u8 0,.int .u8 0,.int .u8 0,.int .u8 0,.int .u8 0,.int .u8 0,.int .u8 0,.int .u8 0,.int .u8 0,.int .u8 0,.int .u8 0,.int .u8 0,.int .u8 0,.int .u8 0,.int .u8 0,.int .u8 0,.int .u8 0,.int .u8 0,.int .u8 0,.int .u8 0]) h fun b w=>bnd (C A31 [.int .i64 i] w) fun r w1=>aAgg r fun x=>bnd (C H6 [.pointer c,.agg ⟨x⟩,.func (.func At1) ⟨[]⟩ ⟨[]⟩] w1) fun r_1 w2=>as2 r_1 fun r_2 r_3=>aAgg r_2 fun x_1=>aInt .i64 r_3 fun x_2=>ck (List.length x_1=36) (pAgg ⟨b,0,none⟩ x_1 w2 fun w3=>gAgg ⟨b,0,none⟩ 36 w3 fun x_3=>some (.tuple ⟨[.agg ⟨x_3⟩,.int .i64 x_2]⟩,w3)):=by kernel_rfl
def D13:Cuts:={ globs:=0,loops:=[],regs:=[],plans:=[] }
def E75:List Item:=A6 Tryz.f40
theorem Hm9 (C:A3) (R:A5) (ok:Bool) (n:Int) (h:H) :
 A7 PR D13 C R Dg4 Tryz.f40 100000 true E75 [(0,.bool ok),(1,.int .i64 n)] h =
 nw (.cells Y4 false [.int .i64 0,.int .i64 0,.slice none 0 0,.bool false]) h fun b w=>cond (!ok)
 (bnd (C A44 [.int .i64 105] w) fun r w1=>aAgg r fun x=>ck (List.length x=4) (pAgg ⟨b,0,none⟩ x w1 fun w2=>gAgg ⟨b,0,none⟩ 4 w2 fun x_1=>some (.agg ⟨x_1⟩,w2)))
 (pAgg ⟨b,0,none⟩ [.int .i64 n,.int .i64 0,.slice none 0 0,.bool false] w fun w3=>gAgg ⟨b,0,none⟩ 4 w3 fun x_2=>some (.agg ⟨x_2⟩,w3)):=by kernel_rfl
def D32:Cuts:={ globs:=0,loops:=[],regs:=[],plans:=[] }
def E67:List Item:=A6 Tryz.f44
theorem Hm6 (C:A3) (R:A5) (c:Option Addr) (f:List Value) (h:H) :
 A7 PR D32 C R Bv8 Tryz.f44 100000 true E67 [(0,.pointer c),(1,.agg ⟨f⟩)] h =
 nw (.cells N7 false [.pointer c]) h fun b w=>nw (.cells D2 false f) w fun b_1 w1=>nw (.cells Bu2 false [.int .i64 0,.int .i64 0,.int .i64 0,.int .i64 0,.int .u8 0,.int .u8 0,.int .u8 0,.int .u8 0,.int .u8 0,.int .u8 0,.int .u8 0,.int .u8 0,.int .u8 0,.int .u8 0,.int .u8 0,.int .u8 0,.int .u8 0,.int .u8 0,.int .u8 0,.int .u8 0,.int .u8 0,.int .u8 0,.int .u8 0,.int .u8 0,.int .u8 0,.int .u8 0,.int .u8 0,.int .u8 0,.int .u8 0,.int .u8 0,.int .u8 0,.int .u8 0,.int .u8 0,.int .u8 0,.int .u8 0,.int .u8 0,.nilFunc]) w1 fun b_2 w2=>gInt .i64 (Addr.add ⟨b_1,0,none⟩ 0) w2 fun x=>cond (x==3)
 (gPtr ⟨b,0,none⟩ w2 fun x_1=>bnd (C P9 [.pointer x_1] w2) fun r w3=>as2 r fun r_1 r_2=>aAgg r_1 fun x_2=>aInt .i64 r_2 fun x_3=>nw (.cells B7 false [.int .i64 0,.int .i64 0,.int .i64 0,.int .i64 0,.int .u8 0,.int .u8 0,.int .u8 0,.int .u8 0,.int .u8 0,.int .u8 0,.int .u8 0,.int .u8 0,.int .u8 0,.int .u8 0,.int .u8 0,.int .u8 0,.int .u8 0,.int .u8 0,.int .u8 0,.int .u8 0,.int .u8 0,.int .u8 0,.int .u8 0,.int .u8 0,.int .u8 0,.int .u8 0,.int .u8 0,.int .u8 0,.int .u8 0,.int .u8 0,.int .u8 0,.int .u8 0,.int .u8 0,.int .u8 0,.int .u8 0,.int .u8 0]) w3 fun b_3 w4=>ck (List.length x_2=36) (pAgg ⟨b_3,0,none⟩ x_2 w4 fun w5=>gAgg ⟨b_3,0,none⟩ 36 w5 fun x_4=>gPtr ⟨b,0,none⟩ w5 fun x_5=>ck (List.length x_4=36) (ck (List.length (x_4++[.func (.func N3) ⟨[.pointer x_5]⟩ ⟨[]⟩])=37) (pAgg ⟨b_2,0,none⟩ (x_4++[.func (.func N3) ⟨[.pointer x_5]⟩ ⟨[]⟩]) w5 fun w6=>gAgg ⟨b_2,0,none⟩ 37 w6 fun x_6=>some (.tuple ⟨[.agg ⟨x_6⟩,.bool (x_3==1)]⟩,w6)))))
 (gPtr ⟨b,0,none⟩ w2 fun x_7=>gInt .i64 (Addr.add ⟨b_1,0,none⟩ 1) w2 fun x_8=>bnd (C P6 [.pointer x_7,.int .i64 x_8] w2) fun r_3 w7=>as2 r_3 fun r_4 r_5=>aAgg r_4 fun x_9=>aInt .i64 r_5 fun x_10=>nw (.cells B7 false [.int .i64 0,.int .i64 0,.int .i64 0,.int .i64 0,.int .u8 0,.int .u8 0,.int .u8 0,.int .u8 0,.int .u8 0,.int .u8 0,.int .u8 0,.int .u8 0,.int .u8 0,.int .u8 0,.int .u8 0,.int .u8 0,.int .u8 0,.int .u8 0,.int .u8 0,.int .u8 0,.int .u8 0,.int .u8 0,.int .u8 0,.int .u8 0,.int .u8 0,.int .u8 0,.int .u8 0,.int .u8 0,.int .u8 0,.int .u8 0,.int .u8 0,.int .u8 0,.int .u8 0,.int .u8 0,.int .u8 0,.int .u8 0]) w7 fun b_4 w8=>ck (List.length x_9=36) (pAgg ⟨b_4,0,none⟩ x_9 w8 fun w9=>gAgg ⟨b_4,0,none⟩ 36 w9 fun x_11=>ck (List.length x_11=36) (ck (List.length (x_11++[.func (.func A34) ⟨[]⟩ ⟨[.pointer (some ⟨b,0,none⟩),.pointer (some ⟨b_1,0,none⟩)]⟩])=37) (pAgg ⟨b_2,0,none⟩ (x_11++[.func (.func A34) ⟨[]⟩ ⟨[.pointer (some ⟨b,0,none⟩),.pointer (some ⟨b_1,0,none⟩)]⟩]) w9 fun w10=>gAgg ⟨b_2,0,none⟩ 37 w10 fun x_12=>some (.tuple ⟨[.agg ⟨x_12⟩,.bool (x_10==1)]⟩,w10))))):=by kernel_rfl
def Dt5:Cuts:={ globs:=0,loops:=[],regs:=[],plans:=[(9,⟨[0,1,2,3,4,5],[0,0,0,6,15,31],[(3,[0])],[]⟩)] }
def Es8:List Item:=A6 Tryz.f48
theorem G95 (C:A3) (R:A5) (c:Option Addr) (i:Int) (fd:Int) (n:Int) (h:H) :
 A7 PR Dt5 C R B42 Tryz.f48 100000 true Es8 [(0,.pointer c),(1,.int .i64 i),(2,.int .i64 fd),(3,.int .i64 n)] h =
 nw (.cells D2 false [.int .i64 0,.int .i64 0,.int .i64 0,.int .i64 0]) h fun b w=>bnd (C Dn1 [.pointer c,.int .i64 i,.int .i64 fd] w) fun r w1=>as3 r fun r_1 r_2 r_3=>aInt .i64 r_1 fun _=>aAgg r_2 fun x_1=>aInt .i64 r_3 fun x_2=>nw (.cells D2 false [.int .i64 0,.int .i64 0,.int .i64 0,.int .i64 0]) w1 fun b_1 w2=>ck (List.length x_1=4) (pAgg ⟨b_1,0,none⟩ x_1 w2 fun w3=>cond (x_2 != 0)
 (gAgg ⟨b_1,0,none⟩ 4 w3 fun x_3=>ck (List.length x_3=4) (pAgg ⟨b,0,none⟩ x_3 w3 fun w4=>gAgg ⟨b,0,none⟩ 4 w4 fun x_4=>some (.tuple ⟨[.agg ⟨x_4⟩,.int .i64 x_2]⟩,w4)))
 (gInt .i64 (Addr.add ⟨b_1,0,none⟩ 0) w3 fun x_5=>cond (x_5==2)
 (gAgg ⟨b_1,0,none⟩ 4 w3 fun x_6=>ck (List.length x_6=4) (pAgg ⟨b,0,none⟩ x_6 w3 fun w5=>gAgg ⟨b,0,none⟩ 4 w5 fun x_7=>some (.tuple ⟨[.agg ⟨x_7⟩,.int .i64 109]⟩,w5)))
 (bnd (cond (decide (n<0)) (some (true,w3)) (some (decide (n>32),w3))) fun c_1 w6=>cond c_1
 (gAgg ⟨b_1,0,none⟩ 4 w6 fun x_8=>ck (List.length x_8=4) (pAgg ⟨b,0,none⟩ x_8 w6 fun w7=>gAgg ⟨b,0,none⟩ 4 w7 fun x_9=>some (.tuple ⟨[.agg ⟨x_9⟩,.int .i64 122]⟩,w7)))
 (gInt .i64 (Addr.add ⟨b_1,0,none⟩ 0) w6 fun x_10=>cond (x_10==3)
 (gAgg ⟨b_1,0,none⟩ 4 w6 fun x_11=>bnd (C Gn9 [.pointer c,.int .i64 i] w6) fun r_4 w8=>aInt .i64 r_4 fun x_12=>gAgg ⟨b_1,0,none⟩ 4 w8 fun x_13=>same (.agg ⟨x_11⟩) (.agg ⟨x_13⟩) (ck (List.length x_11=4) (pAgg ⟨b,0,none⟩ x_11 w8 fun w9=>gAgg ⟨b,0,none⟩ 4 w9 fun x_14=>some (.tuple ⟨[.agg ⟨x_14⟩,.int .i64 x_12]⟩,w9))))
 (gAgg ⟨b_1,0,none⟩ 4 w6 fun x_15=>ck (List.length x_15=4) (pAgg ⟨b,0,none⟩ x_15 w6 fun w10=>gAgg ⟨b,0,none⟩ 4 w10 fun x_16=>some (.tuple ⟨[.agg ⟨x_16⟩,.int .i64 0]⟩,w10))))))):=by kernel_rfl
def Du8:Cuts:={ globs:=0,loops:=[],regs:=[],plans:=[] }
def Et2:List Item:=A6 Tryz.f57
theorem G74 (C:A3) (R:A5) (p:List Value) (fd:Int) (h:H) :
 A7 PR Du8 C R B49 Tryz.f57 100000 true Et2 [(0,.agg ⟨p⟩),(1,.int .i64 fd)] h =
 nw (.cells D6 false p) h fun b w=>bnd (cond (decide (fd≥0)) (some (decide (fd<8),w)) (some (false,w))) fun c w1=>bnd (cond c (ck ((0:Int)≤fd∧fd<((8:Nat):Int)) (gInt .i64 (Addr.add (Addr.add ⟨b,0,none⟩ 8) (Int.toNat fd*1)) w1 fun x=>some (decide (x>0),w1))) (some (false,w1))) fun c_1 w2=>some (.bool c_1,w2):=by kernel_rfl
def Ay2:Cuts:={ globs:=0,loops:=[],regs:=[],plans:=[] }
def Bk8:List Item:=A6 Tryz.f60
theorem Ds6 (C:A3) (R:A5) (c:Option Addr) (i:Int) (h:H) :
 A7 PR Ay2 C R Z7 Tryz.f60 100000 true Bk8 [(0,.pointer c),(1,.int .i64 i)] h =
 nw (.cells D6 false [.int .i64 0,.int .i64 0,.int .i64 0,.int .i64 0,.int .i64 0,.int .i64 0,.int .i64 0,.int .i64 0,.int .i64 0,.int .i64 0,.int .i64 0,.int .i64 0,.int .i64 0,.int .i64 0,.int .i64 0,.int .i64 0]) h fun b w=>bnd (C A30 [.int .i64 i] w) fun r w1=>aAgg r fun x=>bnd (C I9 [.pointer c,.agg ⟨x⟩,.func (.func A23) ⟨[]⟩ ⟨[]⟩] w1) fun r_1 w2=>as2 r_1 fun r_2 r_3=>aAgg r_2 fun x_1=>aInt .i64 r_3 fun x_2=>ck (List.length x_1=16) (pAgg ⟨b,0,none⟩ x_1 w2 fun w3=>gAgg ⟨b,0,none⟩ 16 w3 fun x_3=>some (.tuple ⟨[.agg ⟨x_3⟩,.int .i64 x_2]⟩,w3)):=by kernel_rfl
def De6:Cuts:={ globs:=0,loops:=[(3,[0,3,4])],regs:=[],plans:=[] }
def D36:List Item:=A6 Tryz.f73
def Bn6:List Item:=stk [0,1,0,1,0,0,1,4,5] D36
theorem Hk7 (C:A3) (R:A5) (b:ByteArray) (h:H) :
 A7 PR De6 C R Ad9 Tryz.f73 100000 true D36 [(0,.string b)] h =
 R Ad9 Bn6 [(0,.string b),(3,.int .i64 ((ByteArray.size b:Nat):Int)),(4,.int .i64 0)] h:=by kernel_rfl
theorem Ea1 (C:A3) (R:A5) (b:ByteArray) (n:Int) (i:Int) (h:H) :
 A7 PR De6 C R Ad9 Tryz.f73 100000 true Bn6 [(0,.string b),(3,.int .i64 n),(4,.int .i64 i)] h =
 cond (decide (i<((ByteArray.size b:Nat):Int)))
 (ck ((0:Int)≤i∧i<((ByteArray.size b:Nat):Int)) (R Ad9 Bn6 [(0,.string b),(3,.int .i64 (IntKind.wrap .i64 (n+(IntKind.wrap .i64 (((List.getD (ByteArray.data b).toList (Int.toNat i) 0).toNat:Int)))))),(4,.int .i64 (IntKind.wrap .i64 (i+1)))] h))
 (some (.int .u8 (IntKind.wrap .u8 (n)),h)):=by kernel_rfl
def Bg0:Cuts:={ globs:=0,loops:=[],regs:=[],plans:=[(3,⟨[0,1,2,3,4,5,6,7,8,9,10,11,12,13,14,15,16,17,18,19],[0,1,3,7,0,0,32,0,128,0,512,0,2048,0,8192,32767,65535,65535,262143,524287],[],[]⟩),(5,⟨[0,1,2,3,4,5,6,7,8,9,10,11],[0,1,3,7,0,0,32,127,255,255,1023,2047],[],[]⟩),(7,⟨[0,1,2,3,4,5,6,7,8,9,10,11,12,13,14,15],[0,1,3,7,0,16,48,112,0,496,1008,2047,4095,4095,16383,32767],[],[]⟩),(9,⟨[0,1,2,3,4,5,6,7,8,9,10,11,12,13,14,15],[0,1,3,7,0,16,48,112,0,496,1008,0,2048,8191,16383,32767],[],[]⟩)] }
def B56:List Item:=A6 Tryz.f75
theorem Ej7 (C:A3) (R:A5) (k:Option Addr) (env:Int) (c:List Value) (h:H) :
 A7 PR Bg0 C R Au8 Tryz.f75 100000 true B56 [(0,.pointer k),(1,.int .i64 env),(2,.agg ⟨c⟩)] h =
 nw (.cells Aw0 false c) h fun b w=>gInt .i64 (Addr.add ⟨b,0,none⟩ 0) w fun x=>cond (x==4)
 (aSome k fun p=>gPtr (Addr.add p 3) w fun x_1=>gInt .i64 (Addr.add ⟨b,0,none⟩ 1) w fun x_2=>gInt .i64 (Addr.add ⟨b,0,none⟩ 4) w fun x_3=>gInt .i64 (Addr.add ⟨b,0,none⟩ 5) w fun x_4=>gInt .i64 (Addr.add ⟨b,0,none⟩ 2) w fun x_5=>gInt .i64 (Addr.add ⟨b,0,none⟩ 3) w fun x_6=>bnd (C Au7 [.pointer x_1,.int .i64 env,.int .i64 x_2,.int .i64 x_3,.int .i64 x_4,.int .i64 x_5,.int .i64 x_6] w) fun r w1=>as2 r fun r_1 r_2=>aInt .i64 r_1 fun x_7=>aInt .i64 r_2 fun x_8=>some (.tuple ⟨[.int .i64 x_7,.int .i64 x_8]⟩,w1))
 (cond (x==5)
 (aSome k fun p_1=>gPtr (Addr.add p_1 3) w fun x_9=>gInt .i64 (Addr.add ⟨b,0,none⟩ 1) w fun x_10=>bnd (C Ec5 [.pointer x_9,.int .i64 env,.int .i64 x_10] w) fun r_3 w2=>as2 r_3 fun r_4 r_5=>aInt .i64 r_4 fun x_11=>aInt .i64 r_5 fun x_12=>some (.tuple ⟨[.int .i64 x_11,.int .i64 x_12]⟩,w2))
 (cond (x==6)
 (aSome k fun p_2=>gPtr (Addr.add p_2 4) w fun x_13=>aSome k fun p_3=>gSl (Addr.add p_3 0) w fun x_14 xn _=>aSome x_14 fun p_4=>ck ((0:Int)≤env∧env<((xn:Nat):Int)) (gInt .i64 (Addr.add (B1 p_4) (Int.toNat env*1)) w fun x_15=>bnd (C Ar8 [.pointer x_13,.int .i64 x_15] w) fun r_6 w3=>as2 r_6 fun r_7 r_8=>aInt .i64 r_7 fun x_16=>aInt .i64 r_8 fun x_17=>some (.tuple ⟨[.int .i64 x_16,.int .i64 x_17]⟩,w3)))
 (cond (x==7)
 (aSome k fun p_5=>gPtr (Addr.add p_5 4) w fun x_18=>aSome k fun p_6=>gSl (Addr.add p_6 0) w fun x_19 xn_1 _=>aSome x_19 fun p_7=>ck ((0:Int)≤env∧env<((xn_1:Nat):Int)) (gInt .i64 (Addr.add (B1 p_7) (Int.toNat env*1)) w fun x_20=>gInt .i64 (Addr.add ⟨b,0,none⟩ 3) w fun x_21=>bnd (C Au0 [.pointer x_18,.int .i64 x_20,.int .i64 x_21] w) fun r_9 w4=>aInt .i64 r_9 fun x_22=>some (.tuple ⟨[.int .i64 0,.int .i64 x_22]⟩,w4)))
 (cond (x==8)
 (gAgg ⟨b,0,none⟩ 7 w fun x_23=>bnd (C Az2 [.pointer k,.int .i64 env,.agg ⟨x_23⟩] w) fun r_10 w5=>as2 r_10 fun r_11 r_12=>aInt .i64 r_11 fun x_24=>aInt .i64 r_12 fun x_25=>some (.tuple ⟨[.int .i64 x_24,.int .i64 x_25]⟩,w5))
 (cond (x==9)
 (gAgg ⟨b,0,none⟩ 7 w fun x_26=>bnd (C Az1 [.pointer k,.int .i64 env,.agg ⟨x_26⟩] w) fun r_13 w6=>aInt .i64 r_13 fun x_27=>some (.tuple ⟨[.int .i64 0,.int .i64 x_27]⟩,w6))
 (cond (x==10)
 (aSome k fun p_8=>gInt .i64 (Addr.add p_8 7) w fun x_28=>some (.tuple ⟨[.int .i64 x_28,.int .i64 0]⟩,w))
 (some (.tuple ⟨[.int .i64 0,.int .i64 7]⟩,w)))))))):=by kernel_rfl
def D48:Cuts:={ globs:=0,loops:=[],regs:=[],plans:=[] }
def E61:List Item:=A6 Tryz.f87
theorem Hk9 (C:A3) (R:A5) (n:Int) (h:H) :
 A7 PR D48 C R A66 Tryz.f87 100000 true E61 [(0,.int .i64 n)] h =
 nw (.cells A4 false [.int .u8 (IntKind.wrap .u8 (Int.fdiv n (2 ^ 8))),.int .u8 (IntKind.wrap .u8 (n))]) h fun b w=>gCells (some ⟨b,0,none⟩) 2 w fun cs=>asBytes cs fun l=>some (.string (ByteArray.mk ⟨l⟩),w):=by kernel_rfl
def Ac3:Cuts:={ globs:=0,loops:=[],regs:=[(8,[6,8,11,12])],plans:=[(7,⟨[0,1,2,3,4,5,6,7,8,9],[0,1,3,7,0,31,63,31,159,511],[(7,[5])],[]⟩)] }
def Ao5:List Item:=A6 Tryz.f89
def Ag4:List Item:=stk [0,1,0,1,0,1,0,1,0,1,0,1,0,0] Ao5
theorem De8 (C:A3) (R:A5) (c:Option Addr) (r:List Value) (decode:Value) (h:H) :
 A7 PR Ac3 C R J0 Tryz.f89 100000 true Ao5 [(0,.pointer c),(1,.agg ⟨r⟩),(2,decode)] h =
 nw (.cells D7 false r) h fun b w=>nw (.cells D2 false [.int .i64 0,.int .i64 0,.int .i64 0,.int .i64 0]) w fun b_1 w1=>nw (.cells D2 false [.int .i64 0,.int .i64 0,.int .i64 0,.int .i64 0]) w1 fun b_2 w2=>gAgg ⟨b,0,none⟩ 2 w2 fun x=>bnd (C N0 [.pointer c,.agg ⟨x⟩] w2) fun r_1 w3=>as2 r_1 fun r_2 r_3=>aSl r_2 fun x_1 xn xc=>aBool r_3 fun x_2=>cond (!x_2)
 (gAgg ⟨b_2,0,none⟩ 4 w3 fun x_3=>ck (List.length x_3=4) (pAgg ⟨b_1,0,none⟩ x_3 w3 fun w4=>gAgg ⟨b_1,0,none⟩ 4 w4 fun x_4=>some (.tuple ⟨[.agg ⟨x_4⟩,.int .i64 2]⟩,w4)))
 (aFn decode fun g fi cp=>bnd (C g (fi++([.slice x_1 xn xc]++cp)) w3) fun r_4 w5=>as2 r_4 fun r_5 r_6=>aAgg r_5 fun x_5=>aInt .i64 r_6 fun x_6=>nw (.cells D2 false [.int .i64 0,.int .i64 0,.int .i64 0,.int .i64 0]) w5 fun b_3 w6=>ck (List.length x_5=4) (pAgg ⟨b_3,0,none⟩ x_5 w6 fun w7=>cond (x_6==2)
 (aSome c fun p=>gMap (Addr.add p 3) w7 fun x_7=>gAgg ⟨b,0,none⟩ 2 w7 fun x_8=>keyN PR D7 (.agg ⟨x_8⟩) (opt x_7 fun r_7=>mapAt w7 r_7 fun es _=>opt (Aj8 (.int .i64 0) (.agg ⟨x_8⟩) es) fun f=>aInt .i64 f.1 fun x_9=>keyN PR D7 (.agg ⟨x_8⟩) (opt x_7 fun r_8=>mapAt w7 r_8 fun es_1 cl_1=>opt (Dt1 (.int .i64 0) (.agg ⟨x_8⟩) es_1 cl_1) fun f_1=>aInt .i64 f_1.1 fun _=>lt (H.set w7 r_8 f_1.2.2) fun w8=>keyN PR D7 (.agg ⟨x_8⟩) (opt x_7 fun r_9=>mapAt w8 r_9 fun es_2 _=>opt (Aj8 (.int .i64 0) (.agg ⟨x_8⟩) es_2) fun f_2=>aInt .i64 f_2.1 fun x_11=>same (.int .i64 x_9) (.int .i64 x_11) (opt x_7 fun r_10=>mapAt w8 r_10 fun es_3 cl_3=>opt (Bg9 (f_1.2.1:Int) es_3 0) fun i=>lt (H.set w8 r_10 (.map (modN (fun e=>{ e with val:=.int .i64 (IntKind.wrap .i64 (x_9+1)) }) i es_3) cl_3)) fun w9=>R J0 Ag4 [(6,.pointer (some ⟨b_1,0,none⟩)),(8,.pointer (some ⟨b_2,0,none⟩)),(11,.pointer (some ⟨b_3,0,none⟩)),(12,.int .i64 x_6)] w9)))))
 (R J0 Ag4 [(6,.pointer (some ⟨b_1,0,none⟩)),(8,.pointer (some ⟨b_2,0,none⟩)),(11,.pointer (some ⟨b_3,0,none⟩)),(12,.int .i64 x_6)] w7))):=by kernel_rfl
theorem A27 (C:A3) (R:A5) (x6:Addr) (nonev:Addr) (v:Addr) (isv:Int) (h:H) :
 A7 PR Ac3 C R J0 Tryz.f89 100000 true Ag4 [(6,.pointer (some x6)),(8,.pointer (some nonev)),(11,.pointer (some v)),(12,.int .i64 isv)] h =
 cond (isv != 1)
 (gAgg nonev 4 h fun x=>ck (List.length x=4) (pAgg x6 x h fun w=>gAgg x6 4 w fun x_1=>some (.tuple ⟨[.agg ⟨x_1⟩,.int .i64 isv]⟩,w)))
 (gAgg v 4 h fun x_2=>ck (List.length x_2=4) (pAgg x6 x_2 h fun w1=>gAgg x6 4 w1 fun x_3=>some (.tuple ⟨[.agg ⟨x_3⟩,.int .i64 isv]⟩,w1))):=by kernel_rfl
def B15:Cuts:={ globs:=0,loops:=[],regs:=[],plans:=[] }
def D06:List Item:=A6 Tryz.f91
theorem Gb0 (C:A3) (R:A5) (b:Option Addr) (bn bc:Nat) (h:H) :
 A7 PR B15 C R A14 Tryz.f91 100000 true D06 [(0,.slice b bn bc)] h =
 nw (.cells D2 false [.int .i64 0,.int .i64 0,.int .i64 0,.int .i64 0]) h fun b_1 w=>bnd (cond (((bn:Nat):Int)==8) (bnd (C Ak5 [.slice b bn bc] w) fun r w1=>aBool r fun x=>some (x,w1)) (some (false,w))) fun c w2=>cond c
 (pAgg ⟨b_1,0,none⟩ [.int .i64 0,.int .i64 0,.int .i64 0,.int .i64 0] w2 fun w3=>gAgg ⟨b_1,0,none⟩ 4 w3 fun x_1=>some (.tuple ⟨[.agg ⟨x_1⟩,.int .i64 0]⟩,w3))
 (bnd (C A88 [] w2) fun r_1 w4=>aPtr r_1 fun x_2=>bnd (C U5 [.pointer x_2,.slice b bn bc] w4) fun r_2 w5=>as2 r_2 fun r_3 r_4=>aAgg r_3 fun x_3=>aBool r_4 fun x_4=>nw (.cells D2 false [.int .i64 0,.int .i64 0,.int .i64 0,.int .i64 0]) w5 fun b_2 w6=>ck (List.length x_3=4) (pAgg ⟨b_2,0,none⟩ x_3 w6 fun w7=>cond (!x_4)
 (pAgg ⟨b_1,0,none⟩ [.int .i64 0,.int .i64 0,.int .i64 0,.int .i64 0] w7 fun w8=>gAgg ⟨b_1,0,none⟩ 4 w8 fun x_5=>some (.tuple ⟨[.agg ⟨x_5⟩,.int .i64 2]⟩,w8))
 (gAgg ⟨b_2,0,none⟩ 4 w7 fun x_6=>ck (List.length x_6=4) (pAgg ⟨b_1,0,none⟩ x_6 w7 fun w9=>gAgg ⟨b_1,0,none⟩ 4 w9 fun x_7=>some (.tuple ⟨[.agg ⟨x_7⟩,.int .i64 1]⟩,w9))))):=by kernel_rfl
def B34:Cuts:={ globs:=0,loops:=[],regs:=[],plans:=[] }
def D05:List Item:=A6 Tryz.f93
theorem Gb8 (C:A3) (R:A5) (i:Int) (h:H) :
 A7 PR B34 C R A31 Tryz.f93 100000 true D05 [(0,.int .i64 i)] h =
 nw (.cells D7 false [.int .i64 0,.int .i64 0]) h fun b w=>pAgg ⟨b,0,none⟩ [.int .i64 3,.int .i64 i] w fun w1=>gAgg ⟨b,0,none⟩ 2 w1 fun x=>some (.agg ⟨x⟩,w1):=by kernel_rfl
def B28:Cuts:={ globs:=0,loops:=[],regs:=[],plans:=[(1,⟨[1,0,2,3,4,5,6],[0,0,3,7,7,31,63],[(0,[1])],[]⟩)] }
def Dx1:List Item:=A6 Tryz.f98
theorem Gd6 (C:A3) (R:A5) (p:List Value) (h:H) :
 A7 PR B28 C R A18 Tryz.f98 100000 true Dx1 [(0,.agg ⟨p⟩)] h =
 nw (.cells D6 false p) h fun b w=>gAgg ⟨b,0,none⟩ 16 w fun x=>bnd (C A83 [] w) fun r w1=>aPtr r fun x_1=>gAgg ⟨b,0,none⟩ 16 w1 fun x_2=>same (.agg ⟨x⟩) (.agg ⟨x_2⟩) (bnd (C S6 [.pointer x_1,.agg ⟨x⟩] w1) fun r_1 w2=>as2 r_1 fun r_2 r_3=>aSl r_2 fun x_3 xn xc=>aBool r_3 fun x_4=>some (.tuple ⟨[.slice x_3 xn xc,.bool x_4]⟩,w2)):=by kernel_rfl
def Ax4:Cuts:={ globs:=0,loops:=[],regs:=[],plans:=[] }
def Bk9:List Item:=A6 Tryz.f109
theorem Dv0 (C:A3) (R:A5) (c:Option Addr) (kind:Int) (h:H) :
 A7 PR Ax4 C R Z0 Tryz.f109 100000 true Bk9 [(0,.pointer c),(1,.int .i64 kind)] h =
 cond (kind==1)
 (some (.int .i64 8,h))
 (cond (kind==2)
 (some (.int .i64 12,h))
 (cond (kind==3)
 (aSome c fun p=>gSl (Addr.add p 2) h fun _ xn _=>some (.int .i64 (IntKind.wrap .i64 ((IntKind.wrap .i64 (4+((xn:Nat):Int)))-1)),h))
 (some (.int .i64 1,h)))):=by kernel_rfl
def B27:Cuts:={ globs:=0,loops:=[],regs:=[],plans:=[] }
def Dz8:List Item:=A6 Tryz.f111
theorem Ge2 (C:A3) (R:A5) (b:Option Addr) (bn bc:Nat) (h:H) :
 A7 PR B27 C R A23 Tryz.f111 100000 true Dz8 [(0,.slice b bn bc)] h =
 nw (.cells D6 false [.int .i64 0,.int .i64 0,.int .i64 0,.int .i64 0,.int .i64 0,.int .i64 0,.int .i64 0,.int .i64 0,.int .i64 0,.int .i64 0,.int .i64 0,.int .i64 0,.int .i64 0,.int .i64 0,.int .i64 0,.int .i64 0]) h fun b_1 w=>bnd (cond (((bn:Nat):Int)==24) (bnd (C Ak5 [.slice b bn bc] w) fun r w1=>aBool r fun x=>some (x,w1)) (some (false,w))) fun c w2=>cond c
 (pAgg ⟨b_1,0,none⟩ [.int .i64 0,.int .i64 0,.int .i64 0,.int .i64 0,.int .i64 0,.int .i64 0,.int .i64 0,.int .i64 0,.int .i64 0,.int .i64 0,.int .i64 0,.int .i64 0,.int .i64 0,.int .i64 0,.int .i64 0,.int .i64 0] w2 fun w3=>gAgg ⟨b_1,0,none⟩ 16 w3 fun x_1=>some (.tuple ⟨[.agg ⟨x_1⟩,.int .i64 0]⟩,w3))
 (bnd (C A83 [] w2) fun r_1 w4=>aPtr r_1 fun x_2=>bnd (C S7 [.pointer x_2,.slice b bn bc] w4) fun r_2 w5=>as2 r_2 fun r_3 r_4=>aAgg r_3 fun x_3=>aBool r_4 fun x_4=>nw (.cells D6 false [.int .i64 0,.int .i64 0,.int .i64 0,.int .i64 0,.int .i64 0,.int .i64 0,.int .i64 0,.int .i64 0,.int .i64 0,.int .i64 0,.int .i64 0,.int .i64 0,.int .i64 0,.int .i64 0,.int .i64 0,.int .i64 0]) w5 fun b_2 w6=>ck (List.length x_3=16) (pAgg ⟨b_2,0,none⟩ x_3 w6 fun w7=>cond (!x_4)
 (pAgg ⟨b_1,0,none⟩ [.int .i64 0,.int .i64 0,.int .i64 0,.int .i64 0,.int .i64 0,.int .i64 0,.int .i64 0,.int .i64 0,.int .i64 0,.int .i64 0,.int .i64 0,.int .i64 0,.int .i64 0,.int .i64 0,.int .i64 0,.int .i64 0] w7 fun w8=>gAgg ⟨b_1,0,none⟩ 16 w8 fun x_5=>some (.tuple ⟨[.agg ⟨x_5⟩,.int .i64 2]⟩,w8))
 (gAgg ⟨b_2,0,none⟩ 16 w7 fun x_6=>ck (List.length x_6=16) (pAgg ⟨b_1,0,none⟩ x_6 w7 fun w9=>gAgg ⟨b_1,0,none⟩ 16 w9 fun x_7=>some (.tuple ⟨[.agg ⟨x_7⟩,.int .i64 1]⟩,w9))))):=by kernel_rfl
def B98:Cuts:={ globs:=0,loops:=[],regs:=[],plans:=[] }
def Eb4:List Item:=A6 Tryz.f119
theorem Go7 (C:A3) (R:A5) (n:Int) (h:H) :
 A7 PR B98 C R A80 Tryz.f119 100000 true Eb4 [(0,.int .i64 n)] h =
 some (.int .i64 (mm2 false (mm2 true n 0) 64),h):=by kernel_rfl
def A51:Cuts:={ globs:=0,loops:=[],regs:=[],plans:=[] }
def Bu9:List Item:=A6 Tryz.f126
theorem D33 (C:A3) (R:A5) (r:Option Addr) (lo:Int) (n:Int) (h:H) :
 A7 PR A51 C R An5 Tryz.f126 100000 true Bu9 [(0,.pointer r),(1,.int .i64 lo),(2,.int .i64 n)] h =
 bnd (cond (decide (lo<0)) (some (true,h)) (some (decide (n<0),h))) fun c w=>bnd (cond c (some (true,w)) (aSome r fun p=>gPtr (Addr.add p 0) w fun x=>bnd (C A03 [.pointer x] w) fun r_1 w1=>aInt .i64 r_1 fun x_1=>some (decide (lo>x_1),w1))) fun c_1 w2=>bnd (cond c_1 (some (true,w2)) (aSome r fun p_1=>gPtr (Addr.add p_1 0) w2 fun x_2=>bnd (C A03 [.pointer x_2] w2) fun r_2 w3=>aInt .i64 r_2 fun x_3=>some (decide (n>(IntKind.wrap .i64 (x_3-lo))),w3))) fun c_2 w4=>cond c_2
 (some (.tuple ⟨[.int .i64 0,.int .i64 1]⟩,w4))
 (aSome r fun p_2=>gSl (Addr.add p_2 2) w4 fun _ xn _=>cond (decide (((xn:Nat):Int)≥32))
 (some (.tuple ⟨[.int .i64 0,.int .i64 4]⟩,w4))
 (aSome r fun p_3=>gSl (Addr.add p_3 2) w4 fun x_5 xn_1 xc_1=>nw (.cells At6 false [.int .i64 lo,.int .i64 n]) w4 fun b w5=>gCells (some ⟨b,0,none⟩) (1*2) w5 fun cs=>ckB (fitsOpen x_5 At6 w5) (apd At6 2 x_5 xn_1 xc_1 1 cs w5 fun a an ac w6=>aSome r fun p_4=>pV (Addr.add p_4 2) (.slice a an ac) w6 fun w7=>aSome r fun p_5=>gSl (Addr.add p_5 2) w7 fun _ xn_2 _=>some (.tuple ⟨[.int .i64 (IntKind.wrap .i64 (((xn_2:Nat):Int)-1)),.int .i64 0]⟩,w7)))):=by kernel_rfl
def Bb7:Cuts:={ globs:=0,loops:=[(3,[0,3,4])],regs:=[],plans:=[(5,⟨[0,1,2,3,4,5,6,7,8,9,10],[0,0,2,6,14,0,32,126,255,511,1023],[(5,[4])],[]⟩),(6,⟨[0,1,2,3,4,5,6,7,8,9,10],[0,0,2,6,14,0,32,126,255,511,1023],[],[]⟩)] }
def Bw0:List Item:=A6 Tryz.f131
def Aw5:List Item:=stk [0,1,0,1,0,0,1,4,5] Bw0
theorem E69 (C:A3) (R:A5) (envs:Int) (h:H) :
 A7 PR Bb7 C R Y5 Tryz.f131 100000 true Bw0 [(0,.int .i64 envs)] h =
 nw (.cells Ef3 false [.slice none 0 0,.slice none 0 0]) h fun b w=>R Y5 Aw5 [(0,.int .i64 envs),(3,.pointer (some ⟨b,0,none⟩)),(4,.int .i64 0)] w:=by kernel_rfl
theorem B71 (C:A3) (R:A5) (envs:Int) (s:Addr) (i:Int) (h:H) :
 A7 PR Bb7 C R Y5 Tryz.f131 100000 true Aw5 [(0,.int .i64 envs),(3,.pointer (some s)),(4,.int .i64 i)] h =
 bnd (cond (decide (i<envs)) (some (decide (i<40),h)) (some (false,h))) fun c w=>cond c
 (gSl (Addr.add s 0) w fun x xn xc=>bnd (C Y0 [.int .i64 32] w) fun r w1=>aPtr r fun x_1=>gSl (Addr.add s 0) w1 fun x_2 xn_1 xc_1=>same (.slice x xn xc) (.slice x_2 xn_1 xc_1) (nw (.cells A26 false [.pointer x_1]) w1 fun b w2=>gCells (some ⟨b,0,none⟩) (1*1) w2 fun cs=>ckB (fitsOpen x A26 w2) (apd A26 1 x xn xc 1 cs w2 fun a an ac w3=>pV (Addr.add s 0) (.slice a an ac) w3 fun w4=>gSl (Addr.add s 1) w4 fun x_3 xn_2 xc_2=>ck ((0:Int)≤32∧(32:Int)≤32∧32≤(B0:Int)) (nw (.cells N9 false (I1 (Int.toNat 32) [.int .i64 0,.int .i64 0,.int .i64 0,.int .i64 0,.int .i64 0,.int .i64 0])) w4 fun b_1 w5=>nw (.cells Bm5 false [.slice (some ⟨b_1,0,none⟩) (Int.toNat 32) (Int.toNat 32)]) w5 fun b_2 w6=>gCells (some ⟨b_2,0,none⟩) (1*1) w6 fun cs_1=>ckB (fitsOpen x_3 Bm5 w6) (apd Bm5 1 x_3 xn_2 xc_2 1 cs_1 w6 fun a_1 an_1 ac_1 w7=>pV (Addr.add s 1) (.slice a_1 an_1 ac_1) w7 fun w8=>R Y5 Aw5 [(0,.int .i64 envs),(3,.pointer (some s)),(4,.int .i64 (IntKind.wrap .i64 (i+1)))] w8)))))
 (some (.pointer (some s),w)):=by kernel_rfl
def B24:Cuts:={ globs:=0,loops:=[],regs:=[],plans:=[] }
def Dz2:List Item:=A6 Tryz.f132
theorem E97 (C:A3) (R:A5) (lease:Int) (h:H) :
 A7 PR B24 C R Bg4 Tryz.f132 100000 true Dz2 [(0,.int .i64 lease)] h =
 nw (.cells Et9 false [.int .i64 (mm2 false (mm2 true lease 1) 1000),.int .i64 0,.int .i64 0,.int .i64 0,.int .i64 0,.int .i64 0,.bool false,.int .i64 0,.slice none 0 0]) h fun b w=>some (.pointer (some ⟨b,0,none⟩),w):=by kernel_rfl
def Bp0:Cuts:={ globs:=0,loops:=[],regs:=[],plans:=[] }
def Dm2:List Item:=A6 Tryz.f138
theorem E13 (C:A3) (R:A5) (s:Option Addr) (e:Int) (h:H) :
 A7 PR Bp0 C R A73 Tryz.f138 100000 true Dm2 [(0,.pointer s),(1,.int .i64 e)] h =
 bnd (C Ah2 [.pointer s,.int .i64 e] h) fun r w=>aBool r fun x=>cond (!x)
 (some (.slice none 0 0,w))
 (aSome s fun p=>gSl (Addr.add p 0) w fun x_1 xn _=>aSome x_1 fun p_1=>ck ((0:Int)≤e∧e<((xn:Nat):Int)) (gPtr (Addr.add (B1 p_1) (Int.toNat e*1)) w fun x_2=>bnd (C P2 [.pointer x_2] w) fun r_1 w1=>aSl r_1 fun x_3 xn_1 xc_1=>some (.slice x_3 xn_1 xc_1,w1))):=by kernel_rfl
def Ax9:Cuts:={ globs:=0,loops:=[],regs:=[],plans:=[] }
def Bm9:List Item:=A6 Tryz.f140
theorem Dw7 (C:A3) (R:A5) (r:Option Addr) (env:Int) (name:Int) (atv:Int) (b:Option Addr) (bn bc:Nat) (h:H) :
 A7 PR Ax9 C R Z8 Tryz.f140 100000 true Bm9 [(0,.pointer r),(1,.int .i64 env),(2,.int .i64 name),(3,.int .i64 atv),(4,.slice b bn bc)] h =
 bnd (C Z5 [.pointer r,.int .i64 env,.int .i64 name,.int .i64 2,.int .i64 atv,.int .i64 ((bn:Nat):Int)] h) fun r_1 w=>as2 r_1 fun r_2 r_3=>aInt .i64 r_2 fun x=>aInt .i64 r_3 fun x_1=>cond (x_1 != 0)
 (some (.int .i64 x_1,w))
 (aSome r fun p=>gPtr (Addr.add p 0) w fun x_2=>bnd (C Bc4 [.pointer x_2,.int .i64 x,.slice b bn bc] w) fun r_4 w1=>aInt .i64 r_4 fun x_3=>some (.int .i64 x_3,w1)):=by kernel_rfl
def Ba8:Cuts:={ globs:=0,loops:=[],regs:=[],plans:=[] }
def B02:List Item:=A6 Tryz.f144
theorem Ec3 (C:A3) (R:A5) (q:Option Addr) (s:Int) (h:H) :
 A7 PR Ba8 C R Ar8 Tryz.f144 100000 true B02 [(0,.pointer q),(1,.int .i64 s)] h =
 bnd (C Ag2 [.pointer q,.int .i64 s] h) fun r w=>aBool r fun x=>cond (!x)
 (some (.tuple ⟨[.int .i64 0,.int .i64 1]⟩,w))
 (aSome q fun p=>gSl (Addr.add p 0) w fun x_1 xn _=>aSome x_1 fun p_1=>ck ((0:Int)≤s∧s<((xn:Nat):Int)) (gSl (Addr.add (B1 p_1) (Int.toNat s*1)) w fun x_2 xn_1 xc_1=>bnd (C H0 [.slice x_2 xn_1 xc_1,.int .i64 0] w) fun r_1 w1=>aInt .i64 r_1 fun x_3=>cond (decide (x_3<0))
 (some (.tuple ⟨[.int .i64 0,.int .i64 4]⟩,w1))
 (aSome q fun p_2=>gSl (Addr.add p_2 0) w1 fun x_4 xn_2 _=>aSome x_4 fun p_3=>ck ((0:Int)≤s∧s<((xn_2:Nat):Int)) (gSl (Addr.add (B1 p_3) (Int.toNat s*1)) w1 fun x_5 xn_3 _=>aSome x_5 fun p_4=>ck ((0:Int)≤x_3∧x_3<((xn_3:Nat):Int)) (pV (Addr.add (B1 p_4) (Int.toNat x_3*1)) (.int .i64 1) w1 fun w2=>some (.tuple ⟨[.int .i64 x_3,.int .i64 0]⟩,w2)))))):=by kernel_rfl
def Bk2:Cuts:={ globs:=0,loops:=[],regs:=[],plans:=[] }
def Db0:List Item:=A6 Tryz.f147
theorem Er0 (C:A3) (R:A5) (k:Option Addr) (env:Int) (c:List Value) (h:H) :
 A7 PR Bk2 C R Az1 Tryz.f147 100000 true Db0 [(0,.pointer k),(1,.int .i64 env),(2,.agg ⟨c⟩)] h =
 nw (.cells Aw0 false c) h fun b w=>gInt .i64 (Addr.add ⟨b,0,none⟩ 3) w fun x=>bnd (C Aq6 [.pointer k,.int .i64 env,.int .i64 x] w) fun r w1=>as2 r fun r_1 r_2=>aPtr r_1 fun x_1=>aInt .i64 r_2 fun x_2=>bnd (cond (x_2==0) (gInt .i64 (Addr.add ⟨b,0,none⟩ 2) w1 fun x_3=>bnd (C Az7 [.pointer x_1,.int .i64 env,.int .i64 x_3] w1) fun r_3 w2=>aBool r_3 fun x_4=>some (!x_4,w2)) (some (false,w1))) fun c_1 w3=>cond c_1
 (some (.int .i64 8,w3))
 (some (.int .i64 x_2,w3)):=by kernel_rfl
def Di3:Cuts:={ globs:=0,loops:=[],regs:=[],plans:=[] }
def Ec7:List Item:=A6 Tryz.f163
theorem Gv4 (C:A3) (R:A5)  (h:H) :
 A7 PR Di3 C R Be5 Tryz.f163 100000 true Ec7 [] h =
 bnd (C Al4 [.int .i64 40,.func (.func Bh4) ⟨[]⟩ ⟨[]⟩,.func (.func Bi1) ⟨[]⟩ ⟨[]⟩] h) fun r w=>aPtr r fun x=>some (.pointer x,w):=by kernel_rfl
def Ae7:Cuts:={ globs:=0,loops:=[],regs:=[],plans:=[(2,⟨[0,1,2,3,4,5,6,7,8,9,10,11,12,13,14],[0,1,3,7,15,31,63,127,255,511,63,63,4095,8191,16383],[],[]⟩)] }
def Ay6:List Item:=A6 Tryz.f165
theorem Bz0 (C:A3) (R:A5) (c:Option Addr) (v:List Value) (h:H) :
 A7 PR Ae7 C R S8 Tryz.f165 100000 true Ay6 [(0,.pointer c),(1,.agg ⟨v⟩)] h =
 nw (.cells B7 false v) h fun b w=>aSome c fun p=>gInt .i64 (Addr.add p 0) w fun x=>ck ((0:Int)≤x∧(x:Int)≤x∧x≤(B0:Int)) (nw (.cells A4 false (I1 (Int.toNat x) [.int .u8 0])) w fun b_1 w1=>aSome c fun p_1=>gFv (Addr.add p_1 1) w1 fun x_1=>isNilF x_1 fun b_2=>bnd (cond b_2 (some (true,w1)) (aSome c fun p_2=>gFv (Addr.add p_2 1) w1 fun x_2=>gAgg ⟨b,0,none⟩ 36 w1 fun x_3=>aFn x_2 fun g fi cp=>bnd (C g (fi++([.agg ⟨x_3⟩,.slice (some ⟨b_1,0,none⟩) (Int.toNat x) (Int.toNat x)]++cp)) w1) fun r w2=>aBool r fun x_4=>some (!x_4,w2))) fun c_1 w3=>cond c_1
 (some (.tuple ⟨[.slice none 0 0,.bool false]⟩,w3))
 (some (.tuple ⟨[.slice (some ⟨b_1,0,none⟩) (Int.toNat x) (Int.toNat x),.bool true]⟩,w3))):=by kernel_rfl
def Af2:Cuts:={ globs:=0,loops:=[],regs:=[],plans:=[(2,⟨[0,1,2,3,4,5,6,7,8,9,10,11,12,13,14],[0,1,3,7,15,31,63,127,255,511,63,63,4095,8191,16383],[],[]⟩)] }
def Ay5:List Item:=A6 Tryz.f167
theorem By9 (C:A3) (R:A5) (c:Option Addr) (v:List Value) (h:H) :
 A7 PR Af2 C R U0 Tryz.f167 100000 true Ay5 [(0,.pointer c),(1,.agg ⟨v⟩)] h =
 nw (.cells D2 false v) h fun b w=>aSome c fun p=>gInt .i64 (Addr.add p 0) w fun x=>ck ((0:Int)≤x∧(x:Int)≤x∧x≤(B0:Int)) (nw (.cells A4 false (I1 (Int.toNat x) [.int .u8 0])) w fun b_1 w1=>aSome c fun p_1=>gFv (Addr.add p_1 1) w1 fun x_1=>isNilF x_1 fun b_2=>bnd (cond b_2 (some (true,w1)) (aSome c fun p_2=>gFv (Addr.add p_2 1) w1 fun x_2=>gAgg ⟨b,0,none⟩ 4 w1 fun x_3=>aFn x_2 fun g fi cp=>bnd (C g (fi++([.agg ⟨x_3⟩,.slice (some ⟨b_1,0,none⟩) (Int.toNat x) (Int.toNat x)]++cp)) w1) fun r w2=>aBool r fun x_4=>some (!x_4,w2))) fun c_1 w3=>cond c_1
 (some (.tuple ⟨[.slice none 0 0,.bool false]⟩,w3))
 (some (.tuple ⟨[.slice (some ⟨b_1,0,none⟩) (Int.toNat x) (Int.toNat x),.bool true]⟩,w3))):=by kernel_rfl
def Du1:Cuts:={ globs:=0,loops:=[],regs:=[],plans:=[] }
def Eu7:List Item:=A6 Tryz.f171
theorem G43 (C:A3) (R:A5) (n:Int) (B0:Int) (h:H) :
 A7 PR Du1 C R Ap5 Tryz.f171 100000 true Eu7 [(0,.int .i64 n),(1,.int .i64 B0)] h =
 bnd (cond (decide (n≥0)) (some (decide (n≤B0),h)) (some (false,h))) fun c w=>some (.bool c,w):=by kernel_rfl
def Ae8:Cuts:={ globs:=0,loops:=[],regs:=[],plans:=[(4,⟨[0,1,2,3,4,10,5,6,7,8,9,11,12],[0,1,3,7,0,16,63,127,255,255,0,1535,4095],[(5,[3])],[]⟩)] }
def Ay7:List Item:=A6 Tryz.f173
theorem Bz2 (C:A3) (R:A5) (c:Option Addr) (b:Option Addr) (bn bc:Nat) (h:H) :
 A7 PR Ae8 C R S7 Tryz.f173 100000 true Ay7 [(0,.pointer c),(1,.slice b bn bc)] h =
 nw (.cells D6 false [.int .i64 0,.int .i64 0,.int .i64 0,.int .i64 0,.int .i64 0,.int .i64 0,.int .i64 0,.int .i64 0,.int .i64 0,.int .i64 0,.int .i64 0,.int .i64 0,.int .i64 0,.int .i64 0,.int .i64 0,.int .i64 0]) h fun b_1 w=>nw (.cells D6 false [.int .i64 0,.int .i64 0,.int .i64 0,.int .i64 0,.int .i64 0,.int .i64 0,.int .i64 0,.int .i64 0,.int .i64 0,.int .i64 0,.int .i64 0,.int .i64 0,.int .i64 0,.int .i64 0,.int .i64 0,.int .i64 0]) w fun b_2 w1=>aSome c fun p=>gFv (Addr.add p 2) w1 fun x=>isNilF x fun b_3=>bnd (cond b_3 (some (true,w1)) (aSome c fun p_1=>gInt .i64 (Addr.add p_1 0) w1 fun x_1=>some (((bn:Nat):Int) != x_1,w1))) fun c_1 w2=>cond c_1
 (gAgg ⟨b_2,0,none⟩ 16 w2 fun x_2=>ck (List.length x_2=16) (pAgg ⟨b_1,0,none⟩ x_2 w2 fun w3=>gAgg ⟨b_1,0,none⟩ 16 w3 fun x_3=>some (.tuple ⟨[.agg ⟨x_3⟩,.bool false]⟩,w3)))
 (aSome c fun p_2=>gFv (Addr.add p_2 2) w2 fun x_4=>nw (.cells D6 false [.int .i64 0,.int .i64 0,.int .i64 0,.int .i64 0,.int .i64 0,.int .i64 0,.int .i64 0,.int .i64 0,.int .i64 0,.int .i64 0,.int .i64 0,.int .i64 0,.int .i64 0,.int .i64 0,.int .i64 0,.int .i64 0]) w2 fun b_4 w4=>bnd (C G1 [.slice b bn bc] w4) fun r w5=>aSl r fun x_5 xn xc=>gFv (Addr.add p_2 2) w5 fun x_6=>Bh7 (x_4) (x_6) (aFn x_4 fun g fi cp=>bnd (C g (fi++([.slice x_5 xn xc]++cp)) w5) fun r_1 w6=>as2 r_1 fun r_2 r_3=>aAgg r_2 fun x_7=>aBool r_3 fun x_8=>ck (List.length x_7=16) (pAgg ⟨b_4,0,none⟩ x_7 w6 fun w7=>cond (!x_8)
 (gAgg ⟨b_2,0,none⟩ 16 w7 fun x_9=>ck (List.length x_9=16) (pAgg ⟨b_1,0,none⟩ x_9 w7 fun w8=>gAgg ⟨b_1,0,none⟩ 16 w8 fun x_10=>some (.tuple ⟨[.agg ⟨x_10⟩,.bool false]⟩,w8)))
 (gAgg ⟨b_4,0,none⟩ 16 w7 fun x_11=>ck (List.length x_11=16) (pAgg ⟨b_1,0,none⟩ x_11 w7 fun w9=>gAgg ⟨b_1,0,none⟩ 16 w9 fun x_12=>some (.tuple ⟨[.agg ⟨x_12⟩,.bool true]⟩,w9)))))):=by kernel_rfl
def B48:Cuts:={ globs:=0,loops:=[(3,[3,9,10,11])],regs:=[],plans:=[] }
def Dv6:List Item:=A6 Tryz.f174
def Bi2:List Item:=stk [0,1,0,1,0,0,1,4,5] Dv6
theorem G79 (C:A3) (R:A5) (b:Option Addr) (bn bc:Nat) (h:H) :
 A7 PR B48 C R Z9 Tryz.f174 100000 true Dv6 [(0,.slice b bn bc)] h =
 R Z9 Bi2 [(3,.int .u8 (IntKind.wrap .u8 (((bn:Nat):Int)))),(9,.slice b bn bc),(10,.int .i64 ((bn:Nat):Int)),(11,.int .i64 0)] h:=by kernel_rfl
theorem Dy7 (C:A3) (R:A5) (n:Int) (x9:Option Addr) (x9n x9c:Nat) (x10:Int) (x11:Int) (h:H) :
 A7 PR B48 C R Z9 Tryz.f174 100000 true Bi2 [(3,.int .u8 n),(9,.slice x9 x9n x9c),(10,.int .i64 x10),(11,.int .i64 x11)] h =
 cond (decide (x11<x10))
 (aSome x9 fun p=>ck ((0:Int)≤x11∧x11<((x9n:Nat):Int)) (gInt .u8 (Addr.add (B1 p) (Int.toNat x11*1)) h fun x=>R Z9 Bi2 [(3,.int .u8 (IntKind.wrap .u8 (n+x))),(9,.slice x9 x9n x9c),(10,.int .i64 x10),(11,.int .i64 (IntKind.wrap .i64 (x11+1)))] h))
 (some (.int .u8 n,h)):=by kernel_rfl
def Ar9:Cuts:={ globs:=0,loops:=[(3,[3,15,16])],regs:=[],plans:=[] }
def Ba2:List Item:=A6 Tryz.f178
def Ai2:List Item:=stk [0,1,0,1,0,0,1,4,5] Ba2
theorem Ec1 (C:A3) (R:A5) (size:Int) (h:H) :
 A7 PR Ar9 C R N6 Tryz.f178 100000 true Ba2 [(0,.int .i64 size)] h =
 ck ((0:Int)≤mm2 false (mm2 true size 0) 256∧(mm2 false (mm2 true size 0) 256:Int)≤mm2 false (mm2 true size 0) 256∧mm2 false (mm2 true size 0) 256≤(B0:Int)) (nw (.cells Aj6 false (I1 (Int.toNat (mm2 false (mm2 true size 0) 256)) [.int .i64 0,.int .i64 0,.int .i64 0,.int .i64 0,.int .i64 0,.int .i64 0,.int .i64 0,.bool false])) h fun b w=>nw (.cells Br7 false [.slice (some ⟨b,0,none⟩) (Int.toNat (mm2 false (mm2 true size 0) 256)) (Int.toNat (mm2 false (mm2 true size 0) 256))]) w fun b_1 w1=>gSl (Addr.add ⟨b_1,0,none⟩ 0) w1 fun _ xn _=>R N6 Ai2 [(3,.pointer (some ⟨b_1,0,none⟩)),(15,.int .i64 ((xn:Nat):Int)),(16,.int .i64 0)] w1):=by kernel_rfl
theorem Bm8 (C:A3) (R:A5) (t:Addr) (x15:Int) (x16:Int) (h:H) :
 A7 PR Ar9 C R N6 Tryz.f178 100000 true Ai2 [(3,.pointer (some t)),(15,.int .i64 x15),(16,.int .i64 x16)] h =
 cond (decide (x16<x15))
 (gSl (Addr.add t 0) h fun x xn _=>aSome x fun p=>ck ((0:Int)≤x16∧x16<((xn:Nat):Int)) (pV (Addr.add (Addr.add (B1 p) (Int.toNat x16*8)) 6) (.int .i64 1) h fun w=>R N6 Ai2 [(3,.pointer (some t)),(15,.int .i64 x15),(16,.int .i64 (IntKind.wrap .i64 (x16+1)))] w))
 (some (.pointer (some t),h)):=by kernel_rfl
def Bc8:Cuts:={ globs:=0,loops:=[(3,[0,3,4])],regs:=[],plans:=[] }
def Bt0:List Item:=A6 Tryz.f183
def Av8:List Item:=stk [0,1,0,1,0,0,1,4,5] Bt0
theorem E44 (C:A3) (R:A5) (size:Int) (h:H) :
 A7 PR Bc8 C R Y0 Tryz.f183 100000 true Bt0 [(0,.int .i64 size)] h =
 nw (.cells Ej5 false [.slice none 0 0]) h fun b w=>R Y0 Av8 [(0,.int .i64 size),(3,.pointer (some ⟨b,0,none⟩)),(4,.int .i64 0)] w:=by kernel_rfl
theorem B54 (C:A3) (R:A5) (size:Int) (n:Addr) (i:Int) (h:H) :
 A7 PR Bc8 C R Y0 Tryz.f183 100000 true Av8 [(0,.int .i64 size),(3,.pointer (some n)),(4,.int .i64 i)] h =
 bnd (cond (decide (i<size)) (some (decide (i<256),h)) (some (false,h))) fun c w=>cond c
 (gSl (Addr.add n 0) w fun x xn xc=>nw (.cells Bd6 false [.int .i64 1,.bool false]) w fun b w1=>gCells (some ⟨b,0,none⟩) (1*2) w1 fun cs=>ckB (fitsOpen x Bd6 w1) (apd Bd6 2 x xn xc 1 cs w1 fun a an ac w2=>pV (Addr.add n 0) (.slice a an ac) w2 fun w3=>R Y0 Av8 [(0,.int .i64 size),(3,.pointer (some n)),(4,.int .i64 (IntKind.wrap .i64 (i+1)))] w3))
 (some (.pointer (some n),w)):=by kernel_rfl
def A43:Cuts:={ globs:=0,loops:=[(3,[0,3,4])],regs:=[],plans:=[] }
def Bp9:List Item:=A6 Tryz.f185
def Ag0:List Item:=stk [0,1,0,1,0,0,1,4,5] Bp9
theorem Ey8 (C:A3) (R:A5) (n:Option Addr) (h:H) :
 A7 PR A43 C R P2 Tryz.f185 100000 true Bp9 [(0,.pointer n)] h =
 R P2 Ag0 [(0,.pointer n),(3,.slice none 0 0),(4,.int .i64 0)] h:=by kernel_rfl
theorem B03 (C:A3) (R:A5) (n:Option Addr) (out:Option Addr) (outn outc:Nat) (i:Int) (h:H) :
 A7 PR A43 C R P2 Tryz.f185 100000 true Ag0 [(0,.pointer n),(3,.slice out outn outc),(4,.int .i64 i)] h =
 aSome n fun p=>gSl (Addr.add p 0) h fun _ xn _=>cond (decide (i<((xn:Nat):Int)))
 (aSome n fun p_1=>gSl (Addr.add p_1 0) h fun x_1 xn_1 _=>aSome x_1 fun p_2=>ck ((0:Int)≤i∧i<((xn_1:Nat):Int)) (gBool (Addr.add (Addr.add (B1 p_2) (Int.toNat i*2)) 1) h fun x_2=>cond x_2
 (aSome n fun p_3=>gSl (Addr.add p_3 0) h fun x_3 xn_2 _=>aSome x_3 fun p_4=>ck ((0:Int)≤i∧i<((xn_2:Nat):Int)) (gInt .i64 (Addr.add (Addr.add (B1 p_4) (Int.toNat i*2)) 0) h fun x_4=>nw (.cells B3 false [.int .i64 (IntKind.wrap .i64 (i+(IntKind.wrap .i64 (256*x_4))))]) h fun b w=>gCells (some ⟨b,0,none⟩) (1*1) w fun cs=>ckB (fitsOpen out B3 w) (apd B3 1 out outn outc 1 cs w fun a an ac w1=>R P2 Ag0 [(0,.pointer n),(3,.slice a an ac),(4,.int .i64 (IntKind.wrap .i64 (i+1)))] w1)))
 (R P2 Ag0 [(0,.pointer n),(3,.slice out outn outc),(4,.int .i64 (IntKind.wrap .i64 (i+1)))] h)))
 (some (.slice out outn outc,h)):=by kernel_rfl
def By2:Cuts:={ globs:=0,loops:=[],regs:=[],plans:=[] }
def Dq6:List Item:=A6 Tryz.f188
theorem E82 (C:A3) (R:A5) (m:Option Addr) (atv:Int) (b:Option Addr) (bn bc:Nat) (h:H) :
 A7 PR By2 C R Bc4 Tryz.f188 100000 true Dq6 [(0,.pointer m),(1,.int .i64 atv),(2,.slice b bn bc)] h =
 bnd (C Bf4 [.pointer m,.int .i64 atv,.int .i64 ((bn:Nat):Int)] h) fun r w=>aBool r fun x=>cond (!x)
 (some (.int .i64 1,w))
 (aSome m fun p=>gSl (Addr.add p 0) w fun x_1 xn xc=>ckB (fitsOpen x_1 A4 w) (ck ((0:Int)≤atv∧atv≤((xn:Nat):Int)) (gCells b (min bn (xn-(Int.toNat atv))*1) w fun cs=>pCells (G9 x_1 (decide (Int.toNat atv<xc)) ((Int.toNat atv)*1)) cs w fun w1=>some (.int .i64 0,w1)))):=by kernel_rfl
def Br1:Cuts:={ globs:=0,loops:=[],regs:=[],plans:=[] }
def Dj2:List Item:=A6 Tryz.f189
theorem E23 (C:A3) (R:A5) (s:Option Addr) (env:Int) (name:Int) (h:H) :
 A7 PR Br1 C R Aq1 Tryz.f189 100000 true Dj2 [(0,.pointer s),(1,.int .i64 env),(2,.int .i64 name)] h =
 nw (.cells N9 false [.int .i64 0,.int .i64 0,.int .i64 0,.int .i64 0,.int .i64 0,.int .i64 0]) h fun b w=>bnd (C Ad5 [.pointer s,.int .i64 env] w) fun r w1=>aBool r fun x=>cond (!x)
 (pAgg ⟨b,0,none⟩ [.int .i64 0,.int .i64 0,.int .i64 0,.int .i64 0,.int .i64 0,.int .i64 0] w1 fun w2=>gAgg ⟨b,0,none⟩ 6 w2 fun x_1=>some (.tuple ⟨[.agg ⟨x_1⟩,.int .i64 2]⟩,w2))
 (aSome s fun p=>gSl (Addr.add p 0) w1 fun x_2 xn _=>aSome x_2 fun p_1=>ck ((0:Int)≤env∧env<((xn:Nat):Int)) (gPtr (Addr.add (B1 p_1) (Int.toNat env*1)) w1 fun x_3=>bnd (C Ab7 [.pointer x_3,.int .i64 name] w1) fun r_1 w3=>as2 r_1 fun r_2 r_3=>aAgg r_2 fun x_4=>aBool r_3 fun x_5=>nw (.cells N9 false [.int .i64 0,.int .i64 0,.int .i64 0,.int .i64 0,.int .i64 0,.int .i64 0]) w3 fun b_1 w4=>ck (List.length x_4=6) (pAgg ⟨b_1,0,none⟩ x_4 w4 fun w5=>cond (!x_5)
 (pAgg ⟨b,0,none⟩ [.int .i64 0,.int .i64 0,.int .i64 0,.int .i64 0,.int .i64 0,.int .i64 0] w5 fun w6=>gAgg ⟨b,0,none⟩ 6 w6 fun x_6=>some (.tuple ⟨[.agg ⟨x_6⟩,.int .i64 2]⟩,w6))
 (gAgg ⟨b_1,0,none⟩ 6 w5 fun x_7=>ck (List.length x_7=6) (pAgg ⟨b,0,none⟩ x_7 w5 fun w7=>gAgg ⟨b,0,none⟩ 6 w7 fun x_8=>some (.tuple ⟨[.agg ⟨x_8⟩,.int .i64 0]⟩,w7)))))):=by kernel_rfl
def Bv4:Cuts:={ globs:=0,loops:=[],regs:=[],plans:=[] }
def Dq8:List Item:=A6 Tryz.f202
theorem E84 (C:A3) (R:A5) (c:Int) (h:H) :
 A7 PR Bv4 C R Ad8 Tryz.f202 100000 true Dq8 [(0,.int .u8 c)] h =
 some (.bool (c != 0),h):=by kernel_rfl
def Dn9:Cuts:={ globs:=0,loops:=[],regs:=[],plans:=[] }
def Eg7:List Item:=A6 Tryz.f216
theorem Gq4 (C:A3) (R:A5) (m:Option Addr) (atv:Int) (n:Int) (h:H) :
 A7 PR Dn9 C R Bf4 Tryz.f216 100000 true Eg7 [(0,.pointer m),(1,.int .i64 atv),(2,.int .i64 n)] h =
 bnd (cond (decide (atv≥0)) (some (decide (n≥0),h)) (some (false,h))) fun c w=>bnd (cond c (aSome m fun p=>gSl (Addr.add p 0) w fun _ xn _=>some (decide (atv≤((xn:Nat):Int)),w)) (some (false,w))) fun c_1 w1=>bnd (cond c_1 (aSome m fun p_1=>gSl (Addr.add p_1 0) w1 fun _ xn_1 _=>some (decide (n≤(IntKind.wrap .i64 (((xn_1:Nat):Int)-atv))),w1)) (some (false,w1))) fun c_2 w2=>some (.bool c_2,w2):=by kernel_rfl
def Bj5:Cuts:={ globs:=0,loops:=[],regs:=[],plans:=[] }
def Da9:List Item:=A6 Tryz.f221
theorem Es2 (C:A3) (R:A5) (s:Option Addr) (who:Int) (stamp:Int) (h:H) :
 A7 PR Bj5 C R Az4 Tryz.f221 100000 true Da9 [(0,.pointer s),(1,.int .i64 who),(2,.int .i64 stamp)] h =
 aSome s fun p=>gBool (Addr.add p 1) h fun x=>bnd (cond x (aSome s fun p_1=>gInt .i64 (Addr.add p_1 2) h fun x_1=>some (x_1==who,h)) (some (false,h))) fun c w=>bnd (cond c (aSome s fun p_2=>gInt .i64 (Addr.add p_2 3) w fun x_2=>some (x_2==stamp,w)) (some (false,w))) fun c_1 w1=>some (.bool c_1,w1):=by kernel_rfl
def Dn2:Cuts:={ globs:=0,loops:=[],regs:=[],plans:=[(3,⟨[0,1,2,3,4,5,6,7,8,9,10,11,12,13,14],[0,0,3,7,15,31,0,0,128,448,960,1984,4095,8191,16383],[],[]⟩)] }
def El6:List Item:=A6 Tryz.f227
theorem Gy8 (C:A3) (R:A5) (b:Option Addr) (bn bc:Nat) (atv:Int) (h:H) :
 A7 PR Dn2 C R Bu6 Tryz.f227 100000 true El6 [(0,.slice b bn bc),(1,.int .i64 atv)] h =
 bnd (cond (decide (atv<0)) (some (true,h)) (some (decide (atv>(IntKind.wrap .i64 (((bn:Nat):Int)-2))),h))) fun c w=>cond c
 (some (.tuple ⟨[.int .i64 0,.bool false]⟩,w))
 (aSome b fun p=>ck ((0:Int)≤atv∧atv<((bn:Nat):Int)) (gInt .u8 (Addr.add (B1 p) (Int.toNat atv*1)) w fun x=>aSome b fun p_1=>ck ((0:Int)≤IntKind.wrap .i64 (atv+1)∧IntKind.wrap .i64 (atv+1)<((bn:Nat):Int)) (gInt .u8 (Addr.add (B1 p_1) (Int.toNat (IntKind.wrap .i64 (atv+1))*1)) w fun x_1=>some (.tuple ⟨[.int .i64 (Hh6 .i64 (IntKind.wrap .i64 ((IntKind.wrap .i64 (x))*2 ^ 8)) (IntKind.wrap .i64 (x_1))),.bool true]⟩,w)))):=by kernel_rfl
end
end Go.EQ

set_option maxRecDepth 100000
namespace Go.EQ
open Go Go.NN Go.Proofs
variable (C : A3) (R : A5)
noncomputable section
def B92:Cuts:={ globs:=0,loops:=[],regs:=[],plans:=[] }
def Eb7:List Item:=A6 Tryz.f12
theorem Gl7 (C:A3) (R:A5)  (h:H) :
 A7 PR B92 C R A89 Tryz.f12 100000 true Eb7 [] h =
 bnd (C A86 [] h) fun r w=>aSl r fun x xn xc=>bnd (C Ad6 [.slice x xn xc] w) fun r_1 w1=>as4 r_1 fun r_2 r_3 r_4 r_5=>aPtr r_2 fun _=>aPtr r_3 fun x_2=>aPtr r_4 fun _=>aPtr r_5 fun _=>cond x_2.isNone
 (some (.bool false,w1))
 (bnd (C Bi0 [.pointer x_2,.int .i64 0] w1) fun r_6 w2=>aAgg r_6 fun _=>nw (.cells A4 false [.int .u8 7,.int .u8 8,.int .u8 9]) w2 fun b w3=>bnd (C A91 [.pointer x_2,.int .i64 0,.int .i64 2,.slice (some ⟨b,0,none⟩) 3 3] w3) fun r_7 w4=>aAgg r_7 fun x_6=>nw (.cells Y4 false [.int .i64 0,.int .i64 0,.slice none 0 0,.bool false]) w4 fun b_1 w5=>ck (List.length x_6=4) (pAgg ⟨b_1,0,none⟩ x_6 w5 fun w6=>bnd (C A13 [.pointer x_2,.int .i64 0,.int .i64 1,.int .i64 8] w6) fun r_8 w7=>aAgg r_8 fun x_7=>nw (.cells Y4 false [.int .i64 0,.int .i64 0,.slice none 0 0,.bool false]) w7 fun b_2 w8=>ck (List.length x_7=4) (pAgg ⟨b_2,0,none⟩ x_7 w8 fun w9=>bnd (C A13 [.pointer x_2,.int .i64 0,.int .i64 1,.int .i64 8] w9) fun r_9 w10=>aAgg r_9 fun x_8=>nw (.cells Y4 false [.int .i64 0,.int .i64 0,.slice none 0 0,.bool false]) w10 fun b_3 w11=>ck (List.length x_8=4) (pAgg ⟨b_3,0,none⟩ x_8 w11 fun w12=>gInt .i64 (Addr.add ⟨b_1,0,none⟩ 0) w12 fun x_9=>bnd (cond (x_9==3) (gInt .i64 (Addr.add ⟨b_1,0,none⟩ 1) w12 fun x_10=>some (x_10==0,w12)) (some (false,w12))) fun c w13=>bnd (cond c (gSl (Addr.add ⟨b_2,0,none⟩ 2) w13 fun x_11 xn_1 _=>gCells x_11 xn_1 w13 fun cs=>asBytes cs fun l=>some ((ByteArray.mk ⟨l⟩).toList==(ByteArray.mk ⟨[7,8,9]⟩).toList,w13)) (some (false,w13))) fun c_1 w14=>bnd (cond c_1 (gBool (Addr.add ⟨b_3,0,none⟩ 3) w14 fun x_12=>some (x_12,w14)) (some (false,w14))) fun c_2 w15=>bnd (cond c_2 (nw (.cells A4 false [.int .u8 1]) w15 fun b_4 w16=>bnd (C Bw6 [.pointer x_2,.slice (some ⟨b_4,0,none⟩) 1 1] w16) fun r_10 w17=>aInt .i64 r_10 fun x_13=>some (x_13==1,w17)) (some (false,w15))) fun c_3 w18=>some (.bool c_3,w18))))):=by kernel_rfl
def Dt2:Cuts:={ globs:=0,loops:=[],regs:=[],plans:=[] }
def Eu2:List Item:=A6 Tryz.f19
theorem G97 (C:A3) (R:A5) (c:Option Addr) (i:Int) (h:H) :
 A7 PR Dt2 C R Bl8 Tryz.f19 100000 true Eu2 [(0,.pointer c),(1,.int .i64 i)] h =
 nw (.cells D6 false [.int .i64 0,.int .i64 0,.int .i64 0,.int .i64 0,.int .i64 0,.int .i64 0,.int .i64 0,.int .i64 0,.int .i64 0,.int .i64 0,.int .i64 0,.int .i64 0,.int .i64 0,.int .i64 0,.int .i64 0,.int .i64 0]) h fun b w=>bnd (C B8 [.pointer c] w) fun r w1=>as0 r (bnd (C Z7 [.pointer c,.int .i64 i] w1) fun r_1 w2=>as2 r_1 fun r_2 r_3=>aAgg r_2 fun x=>aInt .i64 r_3 fun x_1=>nw (.cells D6 false [.int .i64 0,.int .i64 0,.int .i64 0,.int .i64 0,.int .i64 0,.int .i64 0,.int .i64 0,.int .i64 0,.int .i64 0,.int .i64 0,.int .i64 0,.int .i64 0,.int .i64 0,.int .i64 0,.int .i64 0,.int .i64 0]) w2 fun b_1 w3=>ck (List.length x=16) (pAgg ⟨b_1,0,none⟩ x w3 fun w4=>bnd (cond (x_1 != 1) (some (true,w4)) (gInt .i64 (Addr.add ⟨b_1,0,none⟩ 0) w4 fun x_2=>some (x_2 != 1,w4))) fun c_1 w5=>cond c_1
 (pAgg ⟨b,0,none⟩ [.int .i64 0,.int .i64 0,.int .i64 0,.int .i64 0,.int .i64 0,.int .i64 0,.int .i64 0,.int .i64 0,.int .i64 0,.int .i64 0,.int .i64 0,.int .i64 0,.int .i64 0,.int .i64 0,.int .i64 0,.int .i64 0] w5 fun w6=>gAgg ⟨b,0,none⟩ 16 w6 fun x_3=>some (.tuple ⟨[.agg ⟨x_3⟩,.int .i64 105]⟩,w6))
 (gAgg ⟨b_1,0,none⟩ 16 w5 fun x_4=>ck (List.length x_4=16) (pAgg ⟨b,0,none⟩ x_4 w5 fun w7=>gAgg ⟨b,0,none⟩ 16 w7 fun x_5=>some (.tuple ⟨[.agg ⟨x_5⟩,.int .i64 0]⟩,w7))))):=by kernel_rfl
def Dn4:Cuts:={ globs:=0,loops:=[],regs:=[],plans:=[] }
def Ee5:List Item:=A6 Tryz.f21
theorem Gu9 (C:A3) (R:A5) (c:Option Addr) (b:Option Addr) (bn bc:Nat) (h:H) :
 A7 PR Dn4 C R Bw6 Tryz.f21 100000 true Ee5 [(0,.pointer c),(1,.slice b bn bc)] h =
 bnd (C B8 [.pointer c] h) fun r w=>as0 r (bnd (C P9 [.pointer c] w) fun r_1 w1=>as2 r_1 fun r_2 r_3=>aAgg r_2 fun x=>aInt .i64 r_3 fun x_1=>nw (.cells B7 false [.int .i64 0,.int .i64 0,.int .i64 0,.int .i64 0,.int .u8 0,.int .u8 0,.int .u8 0,.int .u8 0,.int .u8 0,.int .u8 0,.int .u8 0,.int .u8 0,.int .u8 0,.int .u8 0,.int .u8 0,.int .u8 0,.int .u8 0,.int .u8 0,.int .u8 0,.int .u8 0,.int .u8 0,.int .u8 0,.int .u8 0,.int .u8 0,.int .u8 0,.int .u8 0,.int .u8 0,.int .u8 0,.int .u8 0,.int .u8 0,.int .u8 0,.int .u8 0,.int .u8 0,.int .u8 0,.int .u8 0,.int .u8 0]) w1 fun b_1 w2=>ck (List.length x=36) (pAgg ⟨b_1,0,none⟩ x w2 fun w3=>cond (x_1 != 1)
 (some (.int .i64 0,w3))
 (gAgg ⟨b_1,0,none⟩ 36 w3 fun x_2=>bnd (C An7 [.agg ⟨x_2⟩,.slice b bn bc] w3) fun r_4 w4=>as2 r_4 fun r_5 r_6=>aAgg r_5 fun x_3=>aInt .i64 r_6 fun x_4=>nw (.cells B7 false [.int .i64 0,.int .i64 0,.int .i64 0,.int .i64 0,.int .u8 0,.int .u8 0,.int .u8 0,.int .u8 0,.int .u8 0,.int .u8 0,.int .u8 0,.int .u8 0,.int .u8 0,.int .u8 0,.int .u8 0,.int .u8 0,.int .u8 0,.int .u8 0,.int .u8 0,.int .u8 0,.int .u8 0,.int .u8 0,.int .u8 0,.int .u8 0,.int .u8 0,.int .u8 0,.int .u8 0,.int .u8 0,.int .u8 0,.int .u8 0,.int .u8 0,.int .u8 0,.int .u8 0,.int .u8 0,.int .u8 0,.int .u8 0]) w4 fun b_2 w5=>ck (List.length x_3=36) (pAgg ⟨b_2,0,none⟩ x_3 w5 fun w6=>gAgg ⟨b_2,0,none⟩ 36 w6 fun x_5=>bnd (C N3 [.pointer c,.agg ⟨x_5⟩] w6) fun r_7 w7=>aBool r_7 fun x_6=>cond (!x_6)
 (some (.int .i64 0,w7))
 (some (.int .i64 x_4,w7)))))):=by kernel_rfl
def Dj4:Cuts:={ globs:=0,loops:=[],regs:=[],plans:=[] }
def Ej8:List Item:=A6 Tryz.f24
theorem G19 (C:A3) (R:A5)  (h:H) :
 A7 PR Dj4 C R Bx5 Tryz.f24 100000 true Ej8 [] h =
 nw (.cells Bv2 false [.slice none 0 0,.slice none 0 0,.int .i64 0]) h fun b w=>nw (.cells E30 false [.bool false,.bool false]) w fun b_1 w1=>nw (.cells Bt8 false [.int .i64 0,.int .i64 1,.int .i64 1,.int .i64 0]) w1 fun b_2 w2=>pAgg ⟨b,0,none⟩ [.slice (some ⟨b_1,0,none⟩) 2 2,.slice (some ⟨b_2,0,none⟩) 2 2,.int .i64 5] w2 fun w3=>gAgg ⟨b,0,none⟩ 3 w3 fun x=>some (.agg ⟨x⟩,w3):=by kernel_rfl
def Az5:Cuts:={ globs:=0,loops:=[(4,[1,3,4])],regs:=[],plans:=[] }
def Bj2:List Item:=A6 Tryz.f25
def An4:List Item:=stk [0,1,0,1,0,1,0,0,1,4,5] Bj2
theorem Er2 (C:A3) (R:A5) (p:List Value) (h:H) :
 A7 PR Az5 C R O0 Tryz.f25 100000 true Bj2 [(0,.agg ⟨p⟩)] h =
 nw (.cells B7 false p) h fun b w=>gInt .i64 (Addr.add ⟨b,0,none⟩ 0) w fun x=>gInt .i64 (Addr.add ⟨b,0,none⟩ 1) w fun x_1=>gInt .i64 (Addr.add ⟨b,0,none⟩ 2) w fun x_2=>gInt .i64 (Addr.add ⟨b,0,none⟩ 3) w fun x_3=>nw (.cells A4 false [.int .u8 1,.int .u8 (IntKind.wrap .u8 (x)),.int .u8 (IntKind.wrap .u8 (x_1)),.int .u8 (IntKind.wrap .u8 (x_2)),.int .u8 (IntKind.wrap .u8 (x_3)),.int .u8 197]) w fun b_1 w1=>gCells (some ⟨b_1,0,none⟩) 6 w1 fun cs=>asBytes cs fun l=>bnd (C Ad9 [.string (ByteArray.mk ⟨l⟩)] w1) fun r w2=>aInt .u8 r fun x_4=>nw (.cells A4 false [.int .u8 x_4,.int .u8 0]) w2 fun b_2 w3=>gCells (some ⟨b_2,0,none⟩) 2 w3 fun cs_1=>asBytes cs_1 fun l_1=>ck (ByteArray.size (ByteArray.mk ⟨l⟩)+ByteArray.size (ByteArray.mk ⟨l_1⟩)≤B0) (R O0 An4 [(1,.pointer (some ⟨b,0,none⟩)),(3,.string ((ByteArray.mk ⟨l⟩)++(ByteArray.mk ⟨l_1⟩))),(4,.int .i64 0)] w3):=by kernel_rfl
theorem By8 (C:A3) (R:A5) (p:Addr) (s:ByteArray) (i:Int) (h:H) :
 A7 PR Az5 C R O0 Tryz.f25 100000 true An4 [(1,.pointer (some p)),(3,.string s),(4,.int .i64 i)] h =
 cond (decide (i<32))
 (ck ((0:Int)≤i∧i<((32:Nat):Int)) (gInt .u8 (Addr.add (Addr.add p 4) (Int.toNat i*1)) h fun x=>nw (.cells A4 false [.int .u8 x]) h fun b w=>gCells (some ⟨b,0,none⟩) 1 w fun cs=>asBytes cs fun l=>ck (ByteArray.size s+ByteArray.size (ByteArray.mk ⟨l⟩)≤B0) (R O0 An4 [(1,.pointer (some p)),(3,.string (s++(ByteArray.mk ⟨l⟩))),(4,.int .i64 (IntKind.wrap .i64 (i+1)))] w)))
 (some (.string s,h)):=by kernel_rfl
def Bj7:Cuts:={ globs:=0,loops:=[],regs:=[],plans:=[] }
def Db6:List Item:=A6 Tryz.f30
theorem Er1 (C:A3) (R:A5) (f:List Value) (h:H) :
 A7 PR Bj7 C R A00 Tryz.f30 100000 true Db6 [(0,.agg ⟨f⟩)] h =
 nw (.cells D2 false f) h fun b w=>gInt .i64 (Addr.add ⟨b,0,none⟩ 0) w fun x=>gInt .i64 (Addr.add ⟨b,0,none⟩ 1) w fun x_1=>gInt .i64 (Addr.add ⟨b,0,none⟩ 2) w fun x_2=>gInt .i64 (Addr.add ⟨b,0,none⟩ 3) w fun x_3=>nw (.cells A4 false [.int .u8 (IntKind.wrap .u8 (x)),.int .u8 (IntKind.wrap .u8 (x_1)),.int .u8 (IntKind.wrap .u8 (x_2)),.int .u8 (IntKind.wrap .u8 (x_3)),.int .u8 179]) w fun b_1 w1=>gCells (some ⟨b_1,0,none⟩) 5 w1 fun cs=>asBytes cs fun l=>bnd (C Ad9 [.string (ByteArray.mk ⟨l⟩)] w1) fun r w2=>aInt .u8 r fun x_4=>nw (.cells A4 false [.int .u8 x_4,.int .u8 0,.int .u8 0]) w2 fun b_2 w3=>gCells (some ⟨b_2,0,none⟩) 3 w3 fun cs_1=>asBytes cs_1 fun l_1=>ck (ByteArray.size (ByteArray.mk ⟨l⟩)+ByteArray.size (ByteArray.mk ⟨l_1⟩)≤B0) (some (.string ((ByteArray.mk ⟨l⟩)++(ByteArray.mk ⟨l_1⟩)),w3)):=by kernel_rfl
def Ax7:Cuts:={ globs:=0,loops:=[],regs:=[],plans:=[] }
def Bk6:List Item:=A6 Tryz.f35
theorem Dv8 (C:A3) (R:A5) (c:Option Addr) (i:Int) (h:H) :
 A7 PR Ax7 C R P7 Tryz.f35 100000 true Bk6 [(0,.pointer c),(1,.int .i64 i)] h =
 nw (.cells D2 false [.int .i64 0,.int .i64 0,.int .i64 0,.int .i64 0]) h fun b w=>bnd (C A33 [.int .i64 i] w) fun r w1=>aAgg r fun x=>bnd (C J0 [.pointer c,.agg ⟨x⟩,.func (.func A14) ⟨[]⟩ ⟨[]⟩] w1) fun r_1 w2=>as2 r_1 fun r_2 r_3=>aAgg r_2 fun x_1=>aInt .i64 r_3 fun x_2=>ck (List.length x_1=4) (pAgg ⟨b,0,none⟩ x_1 w2 fun w3=>gAgg ⟨b,0,none⟩ 4 w3 fun x_3=>some (.tuple ⟨[.agg ⟨x_3⟩,.int .i64 x_2]⟩,w3)):=by kernel_rfl
def Dn6:Cuts:={ globs:=0,loops:=[],regs:=[],plans:=[] }
def Ed7:List Item:=A6 Tryz.f36
theorem Gr2 (C:A3) (R:A5) (k:Int) (fv0:Addr) (h:H) :
 A7 PR Dn6 C R A36 Tryz.f36 100000 true Ed7 [(0,.int .i64 k),(1,.pointer (some fv0))] h =
 gPtr fv0 h fun x=>bnd (C P6 [.pointer x,.int .i64 k] h) fun r w=>as2 r fun r_1 r_2=>aAgg r_1 fun x_1=>aInt .i64 r_2 fun x_2=>nw (.cells B7 false [.int .i64 0,.int .i64 0,.int .i64 0,.int .i64 0,.int .u8 0,.int .u8 0,.int .u8 0,.int .u8 0,.int .u8 0,.int .u8 0,.int .u8 0,.int .u8 0,.int .u8 0,.int .u8 0,.int .u8 0,.int .u8 0,.int .u8 0,.int .u8 0,.int .u8 0,.int .u8 0,.int .u8 0,.int .u8 0,.int .u8 0,.int .u8 0,.int .u8 0,.int .u8 0,.int .u8 0,.int .u8 0,.int .u8 0,.int .u8 0,.int .u8 0,.int .u8 0,.int .u8 0,.int .u8 0,.int .u8 0,.int .u8 0]) w fun b w1=>ck (List.length x_1=36) (pAgg ⟨b,0,none⟩ x_1 w1 fun w2=>some (.bool (x_2==0),w2)):=by kernel_rfl
def Dn0:Cuts:={ globs:=0,loops:=[],regs:=[],plans:=[] }
def Ej3:List Item:=A6 Tryz.f43
theorem Gq2 (C:A3) (R:A5) (e:Int) (h:H) :
 A7 PR Dn0 C R O2 Tryz.f43 100000 true Ej3 [(0,.int .i64 e)] h =
 nw (.cells Y4 false [.int .i64 0,.int .i64 0,.slice none 0 0,.bool false]) h fun b w=>pAgg ⟨b,0,none⟩ [.int .i64 0,.int .i64 e,.slice none 0 0,.bool false] w fun w1=>gAgg ⟨b,0,none⟩ 4 w1 fun x=>some (.agg ⟨x⟩,w1):=by kernel_rfl
def Dv1:Cuts:={ globs:=0,loops:=[],regs:=[],plans:=[(6,⟨[0,1,2,3,4],[0,0,2,7,15],[(2,[0])],[]⟩)] }
def Ev6:List Item:=A6 Tryz.f49
theorem G58 (C:A3) (R:A5) (p:List Value) (n:Int) (h:H) :
 A7 PR Dv1 C R B50 Tryz.f49 100000 true Ev6 [(0,.agg ⟨p⟩),(1,.int .i64 n)] h =
 nw (.cells B7 false p) h fun b w=>nw (.cells B7 false [.int .i64 0,.int .i64 0,.int .i64 0,.int .i64 0,.int .u8 0,.int .u8 0,.int .u8 0,.int .u8 0,.int .u8 0,.int .u8 0,.int .u8 0,.int .u8 0,.int .u8 0,.int .u8 0,.int .u8 0,.int .u8 0,.int .u8 0,.int .u8 0,.int .u8 0,.int .u8 0,.int .u8 0,.int .u8 0,.int .u8 0,.int .u8 0,.int .u8 0,.int .u8 0,.int .u8 0,.int .u8 0,.int .u8 0,.int .u8 0,.int .u8 0,.int .u8 0,.int .u8 0,.int .u8 0,.int .u8 0,.int .u8 0]) w fun b_1 w1=>gAgg ⟨b,0,none⟩ 36 w1 fun x=>bnd (C Aj2 [.agg ⟨x⟩] w1) fun r w2=>aSl r fun x_1 xn xc=>ckB (fitsOpen x_1 A4 w2) (ck ((0:Int)≤mm2 false (mm2 true n 0) ((xn:Nat):Int)∧mm2 false (mm2 true n 0) ((xn:Nat):Int)≤((xc:Nat):Int)) (cond (decide ((((Int.toNat (mm2 false (mm2 true n 0) ((xn:Nat):Int)))-0:Nat):Int)>0))
 (gInt .i64 (Addr.add ⟨b,0,none⟩ 0) w2 fun x_2=>pV (Addr.add ⟨b,0,none⟩ 0) (.int .i64 (Int.tmod (IntKind.wrap .i64 (x_2+(((Int.toNat (mm2 false (mm2 true n 0) ((xn:Nat):Int)))-0:Nat):Int))) 32)) w2 fun w3=>gInt .i64 (Addr.add ⟨b,0,none⟩ 1) w3 fun x_3=>pV (Addr.add ⟨b,0,none⟩ 1) (.int .i64 (IntKind.wrap .i64 (x_3-(((Int.toNat (mm2 false (mm2 true n 0) ((xn:Nat):Int)))-0:Nat):Int)))) w3 fun w4=>gAgg ⟨b,0,none⟩ 36 w4 fun x_4=>bnd (C S4 [.slice (G9 x_1 (decide (0<xc)) (0*1)) ((Int.toNat (mm2 false (mm2 true n 0) ((xn:Nat):Int)))-0) (xc-0)] w4) fun r_1 w5=>aSl r_1 fun x_5 xn_1 xc_1=>gAgg ⟨b,0,none⟩ 36 w5 fun x_6=>same (.agg ⟨x_4⟩) (.agg ⟨x_6⟩) (ck (List.length x_4=36) (pAgg ⟨b_1,0,none⟩ x_4 w5 fun w6=>gAgg ⟨b_1,0,none⟩ 36 w6 fun x_7=>some (.tuple ⟨[.agg ⟨x_7⟩,.slice x_5 xn_1 xc_1]⟩,w6))))
 (gAgg ⟨b,0,none⟩ 36 w2 fun x_8=>bnd (C S4 [.slice (G9 x_1 (decide (0<xc)) (0*1)) ((Int.toNat (mm2 false (mm2 true n 0) ((xn:Nat):Int)))-0) (xc-0)] w2) fun r_2 w7=>aSl r_2 fun x_9 xn_2 xc_2=>gAgg ⟨b,0,none⟩ 36 w7 fun x_10=>same (.agg ⟨x_8⟩) (.agg ⟨x_10⟩) (ck (List.length x_8=36) (pAgg ⟨b_1,0,none⟩ x_8 w7 fun w8=>gAgg ⟨b_1,0,none⟩ 36 w8 fun x_11=>some (.tuple ⟨[.agg ⟨x_11⟩,.slice x_9 xn_2 xc_2]⟩,w8)))))):=by kernel_rfl
def Ap8:Cuts:={ globs:=0,loops:=[(4,[1,3,4]),(8,[1,3,5]),(13,[1,3,5,6,7,9])],regs:=[],plans:=[(1,⟨[0,1,2,3,4,5,6],[0,0,2,6,15,31,63],[(3,[0])],[]⟩),(2,⟨[0,1,2,3,4,5,6,7,11,12,13,8,9,10,14,15,16,17,18,19],[0,0,2,6,14,0,32,96,254,510,1022,0,2048,6144,14846,32766,65534,131071,262143,524287],[(8,[12])],[]⟩),(6,⟨[0,1,2,3,4,5,6,7,8,9,10,11,12],[0,0,2,6,14,0,32,96,224,510,1023,2047,4095],[(7,[4])],[]⟩),(11,⟨[0,1,2,3,4,5,6,7,8,9,11,12,15,16,18,19,10,13,14,17,20,21,22,23,24,25],[0,1,3,7,0,16,48,112,0,256,1008,0,2048,8176,16368,0,32768,131056,0,262144,1048575,2097151,4194303,4194303,8388607,33554431],[(10,[3,12,16,19])],[]⟩),(15,⟨[0,1,2,3,4,5,6,7],[0,1,0,4,0,28,60,127],[],[]⟩),(16,⟨[0,1,2,3,4,5,6,7,8,9,10,11,12],[0,1,3,7,15,31,63,0,0,0,512,1792,4095],[],[]⟩)] }
def A22:List Item:=A6 Tryz.f70
def A01:List Item:=stk [0,1,0,1,0,1,0,0,1,4,5] A22
def Ak6:List Item:=stk [0,1,0,1,0,1,0,1,0,0,1,4,5] A22
def Ak8:List Item:=stk [0,1,0,1,0,1,0,1,0,0,1,4,5,6,0,1,0,4,0,1,0,1,0,1,4,5] A22
theorem Gd7 (C:A3) (R:A5) (b:List Value) (h:H) :
 A7 PR Ap8 C R E9 Tryz.f70 100000 true A22 [(0,.agg ⟨b⟩)] h =
 nw (.cells D5 false b) h fun b_1 w=>gAgg ⟨b_1,0,none⟩ 5 w fun x=>gSl (Addr.add ⟨b_1,0,none⟩ 0) w fun x_1 xn xc=>bnd (C Y1 [.slice x_1 xn xc] w) fun r w1=>aPtr r fun x_2=>gAgg ⟨b_1,0,none⟩ 5 w1 fun x_3=>same (.agg ⟨x⟩) (.agg ⟨x_3⟩) (ck (List.length x=5) (nw (.cells Eu6 false (x++(.pointer x_2::(.pointer none::(.slice none 0 0::[.int .i64 0]))))) w1 fun b_2 w2=>gPtr (Addr.add ⟨b_2,0,none⟩ 5) w2 fun x_4=>gSl (Addr.add ⟨b_1,0,none⟩ 0) w2 fun _ xn_1 _=>gSl (Addr.add ⟨b_1,0,none⟩ 1) w2 fun x_6 xn_2 xc_2=>bnd (C M0 [.pointer x_4,.int .i64 ((xn_1:Nat):Int)] w2) fun r_1 w3=>aInt .i64 r_1 fun x_7=>gSl (Addr.add ⟨b_1,0,none⟩ 1) w3 fun x_8 xn_3 xc_3=>same (.slice x_6 xn_2 xc_2) (.slice x_8 xn_3 xc_3) (ck ((0:Int)≤IntKind.wrap .i64 (64*x_7)∧(IntKind.wrap .i64 (64*x_7):Int)≤IntKind.wrap .i64 (64*x_7)∧IntKind.wrap .i64 (64*x_7)≤(B0:Int)) (nw (.cells A4 false (I1 (Int.toNat (IntKind.wrap .i64 (64*x_7))) [.int .u8 0])) w3 fun b_3 w4=>bnd (C Y5 [.int .i64 ((xn_2:Nat):Int)] w4) fun r_2 w5=>aPtr r_2 fun x_9=>nw (.cells Dz0 false [.slice (some ⟨b_3,0,none⟩) (Int.toNat (IntKind.wrap .i64 (64*x_7))) (Int.toNat (IntKind.wrap .i64 (64*x_7))),.slice none 0 0,.slice none 0 0,.pointer x_9]) w5 fun b_4 w6=>pV (Addr.add ⟨b_2,0,none⟩ 6) (.pointer (some ⟨b_4,0,none⟩)) w6 fun w7=>R E9 A01 [(1,.pointer (some ⟨b_1,0,none⟩)),(3,.pointer (some ⟨b_2,0,none⟩)),(4,.int .i64 0)] w7)))):=by kernel_rfl
theorem Dc0 (C:A3) (R:A5) (b:Addr) (k:Addr) (i:Int) (h:H) :
 A7 PR Ap8 C R E9 Tryz.f70 100000 true A01 [(1,.pointer (some b)),(3,.pointer (some k)),(4,.int .i64 i)] h =
 gSl (Addr.add b 2) h fun _ xn _=>cond (decide (i<((xn:Nat):Int)))
 (gSl (Addr.add k 7) h fun x_1 xn_1 xc_1=>gInt .i64 (Addr.add b 3) h fun x_2=>bnd (C Bg4 [.int .i64 x_2] h) fun r w=>aPtr r fun x_3=>gSl (Addr.add k 7) w fun x_4 xn_2 xc_2=>same (.slice x_1 xn_1 xc_1) (.slice x_4 xn_2 xc_2) (nw (.cells A85 false [.pointer x_3]) w fun b_1 w1=>gCells (some ⟨b_1,0,none⟩) (1*1) w1 fun cs=>ckB (fitsOpen x_1 A85 w1) (apd A85 1 x_1 xn_1 xc_1 1 cs w1 fun a an ac w2=>pV (Addr.add k 7) (.slice a an ac) w2 fun w3=>R E9 A01 [(1,.pointer (some b)),(3,.pointer (some k)),(4,.int .i64 (IntKind.wrap .i64 (i+1)))] w3)))
 (R E9 Ak6 [(1,.pointer (some b)),(3,.pointer (some k)),(5,.int .i64 0)] h):=by kernel_rfl
theorem Db9 (C:A3) (R:A5) (b:Addr) (k:Addr) (i:Int) (h:H) :
 A7 PR Ap8 C R E9 Tryz.f70 100000 true Ak6 [(1,.pointer (some b)),(3,.pointer (some k)),(5,.int .i64 i)] h =
 gSl (Addr.add b 4) h fun _ xn _=>cond (decide (i<((xn:Nat):Int)))
 (gSl (Addr.add b 4) h fun x_1 xn_1 _=>aSome x_1 fun p=>ck ((0:Int)≤i∧i<((xn_1:Nat):Int)) (gAgg (Addr.add (B1 p) (Int.toNat i*5)) 5 h fun x_2=>nw (.cells H9 false [.int .i64 0,.int .i64 0,.int .i64 0,.int .i64 0,.slice none 0 0]) h fun b_1 w=>ck (List.length x_2=5) (pAgg ⟨b_1,0,none⟩ x_2 w fun w1=>gPtr (Addr.add k 6) w1 fun x_3=>gPtr (Addr.add k 5) w1 fun x_4=>gInt .i64 (Addr.add ⟨b_1,0,none⟩ 0) w1 fun x_5=>gInt .i64 (Addr.add ⟨b_1,0,none⟩ 1) w1 fun x_6=>gInt .i64 (Addr.add ⟨b_1,0,none⟩ 2) w1 fun x_7=>gInt .i64 (Addr.add ⟨b_1,0,none⟩ 3) w1 fun x_8=>bnd (C M0 [.pointer x_4,.int .i64 x_5] w1) fun r w2=>aInt .i64 r fun x_9=>gPtr (Addr.add k 6) w2 fun x_10=>same (.pointer x_3) (.pointer x_10) (gInt .i64 (Addr.add ⟨b_1,0,none⟩ 1) w2 fun x_11=>same (.int .i64 x_6) (.int .i64 x_11) (gInt .i64 (Addr.add ⟨b_1,0,none⟩ 2) w2 fun x_12=>same (.int .i64 x_7) (.int .i64 x_12) (gInt .i64 (Addr.add ⟨b_1,0,none⟩ 3) w2 fun x_13=>same (.int .i64 x_8) (.int .i64 x_13) (bnd (C Av7 [.pointer x_3,.int .i64 (IntKind.wrap .i64 ((IntKind.wrap .i64 (64*(IntKind.wrap .i64 (x_9+x_6))))+x_7)),.int .i64 x_8] w2) fun r_1 w3=>as2 r_1 fun r_2 r_3=>aInt .i64 r_2 fun x_14=>aInt .i64 r_3 fun _=>R E9 Ak8 [(1,.pointer (some b)),(3,.pointer (some k)),(5,.int .i64 i),(6,.pointer (some ⟨b_1,0,none⟩)),(7,.int .i64 x_14),(9,.int .i64 0)] w3)))))))
 (some (.pointer (some k),h)):=by kernel_rfl
theorem Db8 (C:A3) (R:A5) (b:Addr) (k:Addr) (i:Int) (s:Addr) (obj:Int) (e:Int) (h:H) :
 A7 PR Ap8 C R E9 Tryz.f70 100000 true Ak8 [(1,.pointer (some b)),(3,.pointer (some k)),(5,.int .i64 i),(6,.pointer (some s)),(7,.int .i64 obj),(9,.int .i64 e)] h =
 gSl (Addr.add b 1) h fun _ xn _=>cond (decide (e<((xn:Nat):Int)))
 (gSl (Addr.add s 4) h fun x_1 xn_1 xc_1=>gSl (Addr.add b 1) h fun x_2 xn_2 _=>aSome x_2 fun p=>ck ((0:Int)≤e∧e<((xn_2:Nat):Int)) (gInt .i64 (Addr.add (B1 p) (Int.toNat e*1)) h fun x_3=>bnd (C A38 [.slice x_1 xn_1 xc_1,.int .i64 x_3] h) fun r w=>aBool r fun x_4=>cond x_4
 (gPtr (Addr.add k 6) w fun x_5=>aSome x_5 fun p_1=>gPtr (Addr.add p_1 3) w fun x_6=>gInt .i64 (Addr.add s 3) w fun x_7=>bnd (C A70 [.pointer x_6,.int .i64 e,.agg ⟨[.int .i64 obj,.int .i64 3,.int .i64 0,.int .i64 x_7,.int .i64 0,.int .i64 0]⟩] w) fun r_1 w1=>as2 r_1 fun r_2 r_3=>aInt .i64 r_2 fun _=>aInt .i64 r_3 fun _=>R E9 Ak8 [(1,.pointer (some b)),(3,.pointer (some k)),(5,.int .i64 i),(6,.pointer (some s)),(7,.int .i64 obj),(9,.int .i64 (IntKind.wrap .i64 (e+1)))] w1)
 (R E9 Ak8 [(1,.pointer (some b)),(3,.pointer (some k)),(5,.int .i64 i),(6,.pointer (some s)),(7,.int .i64 obj),(9,.int .i64 (IntKind.wrap .i64 (e+1)))] w)))
 (R E9 Ak6 [(1,.pointer (some b)),(3,.pointer (some k)),(5,.int .i64 (IntKind.wrap .i64 (i+1)))] h):=by kernel_rfl
def Da1:Cuts:={ globs:=0,loops:=[],regs:=[],plans:=[] }
def D91:List Item:=A6 Tryz.f71
theorem Gn7 (C:A3) (R:A5) (k:Option Addr) (env:Int) (h:H) :
 A7 PR Da1 C R Bn4 Tryz.f71 100000 true D91 [(0,.pointer k),(1,.int .i64 env)] h =
 bnd (cond k.isNone (some (true,h)) (bnd (C Ak9 [.pointer k] h) fun r w=>aPtr r fun x=>bnd (C Ai3 [.pointer x,.int .i64 env] w) fun r_1 w1=>aSl r_1 fun _ xn _=>some (((xn:Nat):Int)==0,w1))) fun c w2=>cond c
 (some (.tuple ⟨[.pointer none,.int .i64 1]⟩,w2))
 (bnd (C Ak9 [.pointer k] w2) fun r_2 w3=>aPtr r_2 fun x_2=>bnd (C Ai3 [.pointer x_2,.int .i64 env] w3) fun r_3 w4=>aSl r_3 fun x_3 xn_1 xc_1=>nw (.map [] 0) w4 fun b w5=>nw (.cells Db2 false [.pointer k,.int .i64 env,.slice x_3 xn_1 xc_1,.map (some b)]) w5 fun b_1 w6=>some (.tuple ⟨[.pointer (some ⟨b_1,0,none⟩),.int .i64 0]⟩,w6)):=by kernel_rfl
def Bf2:Cuts:={ globs:=0,loops:=[],regs:=[],plans:=[] }
def B83:List Item:=A6 Tryz.f86
theorem El5 (C:A3) (R:A5) (g:Int) (h:H) :
 A7 PR Bf2 C R Au5 Tryz.f86 100000 true B83 [(0,.int .i64 g)] h =
 nw (.cells A4 false [.int .u8 (IntKind.wrap .u8 (g)),.int .u8 211]) h fun b w=>gCells (some ⟨b,0,none⟩) 2 w fun cs=>asBytes cs fun l=>bnd (C Ad9 [.string (ByteArray.mk ⟨l⟩)] w) fun r w1=>aInt .u8 r fun x=>nw (.cells A4 false [.int .u8 x,.int .u8 0]) w1 fun b_1 w2=>gCells (some ⟨b_1,0,none⟩) 2 w2 fun cs_1=>asBytes cs_1 fun l_1=>ck (ByteArray.size (ByteArray.mk ⟨l⟩)+ByteArray.size (ByteArray.mk ⟨l_1⟩)≤B0) (some (.string ((ByteArray.mk ⟨l⟩)++(ByteArray.mk ⟨l_1⟩)),w2)):=by kernel_rfl
def As9:Cuts:={ globs:=0,loops:=[],regs:=[],plans:=[(2,⟨[0,1,2,3,4,5,6,7,8,9,10,11,12,13,14],[0,1,3,7,15,31,63,127,255,511,1023,127,4095,8191,16383],[],[]⟩),(4,⟨[0,1,2,3,4,5,6,7,8,9,10,11,12,13,14,15,16,17],[0,1,3,7,0,16,48,112,0,256,0,1024,0,7936,16383,32767,65535,131071],[],[]⟩)] }
def Bi4:List Item:=A6 Tryz.f96
theorem Do7 (C:A3) (R:A5) (c:Option Addr) (r:List Value) (b:Option Addr) (bn bc:Nat) (ok:Bool) (h:H) :
 A7 PR As9 C R I7 Tryz.f96 100000 true Bi4 [(0,.pointer c),(1,.agg ⟨r⟩),(2,.slice b bn bc),(3,.bool ok)] h =
 nw (.cells D7 false r) h fun b_1 w=>gAgg ⟨b_1,0,none⟩ 2 w fun x=>bnd (C W2 [.pointer c,.agg ⟨x⟩] w) fun r_1 w1=>as2 r_1 fun r_2 r_3=>aAgg r_2 fun x_1=>aBool r_3 fun x_2=>nw (.cells Bw5 false [.int .i64 0,.int .i64 0,.int .i64 0]) w1 fun b_2 w2=>ck (List.length x_1=3) (pAgg ⟨b_2,0,none⟩ x_1 w2 fun w3=>bnd (cond (!x_2) (some (true,w3)) (some (!ok,w3))) fun c_1 w4=>bnd (cond c_1 (some (true,w4)) (aSome c fun p=>gMap (Addr.add p 3) w4 fun x_3=>gAgg ⟨b_1,0,none⟩ 2 w4 fun x_4=>keyN PR D7 (.agg ⟨x_4⟩) (opt x_3 fun r_4=>mapAt w4 r_4 fun es _=>opt (Aj8 (.int .i64 0) (.agg ⟨x_4⟩) es) fun f=>aInt .i64 f.1 fun x_5=>some (decide (x_5>0),w4)))) fun c_2 w5=>cond c_2
 (some (.bool false,w5))
 (aSome c fun p_1=>gPtr (Addr.add p_1 0) w5 fun x_6=>aSome c fun p_2=>gInt .i64 (Addr.add p_2 1) w5 fun x_7=>gInt .i64 (Addr.add ⟨b_2,0,none⟩ 0) w5 fun x_8=>gInt .i64 (Addr.add ⟨b_2,0,none⟩ 1) w5 fun x_9=>bnd (C Q1 [.pointer x_6,.int .i64 x_7,.agg ⟨[.int .i64 2,.int .i64 x_8,.int .i64 x_9,.int .i64 0,.int .i64 0,.int .i64 0,.slice b bn bc]⟩] w5) fun r_5 w6=>aAgg r_5 fun x_10=>nth x_10 0 fun E=>aInt .i64 E fun E_1=>some (.bool (E_1==0),w6))):=by kernel_rfl
def B06:Cuts:={ globs:=0,loops:=[],regs:=[],plans:=[(1,⟨[1,0,2,3,4,5,6],[0,0,3,7,7,31,63],[(0,[1])],[]⟩)] }
def Dx4:List Item:=A6 Tryz.f97
theorem Gb1 (C:A3) (R:A5) (f:List Value) (h:H) :
 A7 PR B06 C R A08 Tryz.f97 100000 true Dx4 [(0,.agg ⟨f⟩)] h =
 nw (.cells D2 false f) h fun b w=>gAgg ⟨b,0,none⟩ 4 w fun x=>bnd (C A88 [] w) fun r w1=>aPtr r fun x_1=>gAgg ⟨b,0,none⟩ 4 w1 fun x_2=>same (.agg ⟨x⟩) (.agg ⟨x_2⟩) (bnd (C U0 [.pointer x_1,.agg ⟨x⟩] w1) fun r_1 w2=>as2 r_1 fun r_2 r_3=>aSl r_2 fun x_3 xn xc=>aBool r_3 fun x_4=>some (.tuple ⟨[.slice x_3 xn xc,.bool x_4]⟩,w2)):=by kernel_rfl
def B29:Cuts:={ globs:=0,loops:=[],regs:=[],plans:=[] }
def Dy6:List Item:=A6 Tryz.f99
theorem Gc4 (C:A3) (R:A5) (i:Int) (h:H) :
 A7 PR B29 C R A30 Tryz.f99 100000 true Dy6 [(0,.int .i64 i)] h =
 nw (.cells D7 false [.int .i64 0,.int .i64 0]) h fun b w=>pAgg ⟨b,0,none⟩ [.int .i64 1,.int .i64 i] w fun w1=>gAgg ⟨b,0,none⟩ 2 w1 fun x=>some (.agg ⟨x⟩,w1):=by kernel_rfl
def Dm8:Cuts:={ globs:=0,loops:=[],regs:=[],plans:=[] }
def Ed1:List Item:=A6 Tryz.f100
theorem Gu7 (C:A3) (R:A5) (p:List Value) (fv0:Addr) (fv1:Addr) (h:H) :
 A7 PR Dm8 C R A34 Tryz.f100 100000 true Ed1 [(0,.agg ⟨p⟩),(1,.pointer (some fv0)),(2,.pointer (some fv1))] h =
 nw (.cells B7 false p) h fun b w=>gPtr fv0 w fun x=>gInt .i64 (Addr.add fv1 1) w fun x_1=>gAgg ⟨b,0,none⟩ 36 w fun x_2=>bnd (C Q8 [.pointer x,.int .i64 x_1,.agg ⟨x_2⟩] w) fun r w1=>aBool r fun x_3=>some (.bool x_3,w1):=by kernel_rfl
def Bi8:Cuts:={ globs:=0,loops:=[],regs:=[],plans:=[] }
def Db3:List Item:=A6 Tryz.f116
theorem Eq8 (C:A3) (R:A5) (b:Option Addr) (bn bc:Nat) (h:H) :
 A7 PR Bi8 C R Al2 Tryz.f116 100000 true Db3 [(0,.slice b bn bc)] h =
 cond (((bn:Nat):Int) != 4)
 (some (.tuple ⟨[.int .i64 0,.int .i64 2]⟩,h))
 (aSome b fun p=>ck ((0:Int)≤0∧0<((bn:Nat):Int)) (gInt .u8 (Addr.add (B1 p) (Int.toNat 0*1)) h fun x=>bnd (C Ao1 [.int .i64 (IntKind.wrap .i64 (x))] h) fun r w=>as2 r fun r_1 r_2=>aSl r_1 fun x_1 xn _=>aBool r_2 fun x_2=>bnd (cond (!x_2) (some (true,w)) (gCells x_1 xn w fun cs=>asBytes cs fun l=>gCells b bn w fun cs_1=>asBytes cs_1 fun l_1=>some (!((ByteArray.mk ⟨l⟩).toList==(ByteArray.mk ⟨l_1⟩).toList),w))) fun c w1=>cond c
 (some (.tuple ⟨[.int .i64 0,.int .i64 2]⟩,w1))
 (aSome b fun p_1=>ck ((0:Int)≤0∧0<((bn:Nat):Int)) (gInt .u8 (Addr.add (B1 p_1) (Int.toNat 0*1)) w1 fun x_3=>some (.tuple ⟨[.int .i64 (IntKind.wrap .i64 (x_3)),.int .i64 1]⟩,w1))))):=by kernel_rfl
def Ed3:Cuts:={ globs:=0,loops:=[],regs:=[],plans:=[] }
def Gk2:List Item:=A6 Tryz.f121
theorem Hp3 (C:A3) (R:A5) (frames:Int) (h:H) :
 A7 PR Ed3 C R Dr3 Tryz.f121 100000 true Gk2 [(0,.int .i64 frames)] h =
 ck ((0:Int)≤IntKind.wrap .i64 (64*(mm2 false (mm2 true frames 0) 256))∧(IntKind.wrap .i64 (64*(mm2 false (mm2 true frames 0) 256)):Int)≤IntKind.wrap .i64 (64*(mm2 false (mm2 true frames 0) 256))∧IntKind.wrap .i64 (64*(mm2 false (mm2 true frames 0) 256))≤(B0:Int)) (nw (.cells A4 false (I1 (Int.toNat (IntKind.wrap .i64 (64*(mm2 false (mm2 true frames 0) 256)))) [.int .u8 0])) h fun b w=>nw (.cells Ed4 false [.slice (some ⟨b,0,none⟩) (Int.toNat (IntKind.wrap .i64 (64*(mm2 false (mm2 true frames 0) 256)))) (Int.toNat (IntKind.wrap .i64 (64*(mm2 false (mm2 true frames 0) 256))))]) w fun b_1 w1=>some (.pointer (some ⟨b_1,0,none⟩),w1)):=by kernel_rfl
def D62:Cuts:={ globs:=0,loops:=[],regs:=[],plans:=[] }
def E39:List Item:=A6 Tryz.f125
theorem Hi0 (C:A3) (R:A5) (lease:Int) (h:H) :
 A7 PR D62 C R Dc3 Tryz.f125 100000 true E39 [(0,.int .i64 lease)] h =
 nw (.cells Ev3 false [.int .i64 (mm2 false (mm2 true lease 1) 1000),.bool false,.int .i64 0,.int .i64 0,.int .i64 0,.slice none 0 0,.int .i64 0,.int .i64 0,.int .i64 0]) h fun b w=>some (.pointer (some ⟨b,0,none⟩),w):=by kernel_rfl
def Bp7:Cuts:={ globs:=0,loops:=[],regs:=[],plans:=[] }
def Di9:List Item:=A6 Tryz.f128
theorem Ex6 (C:A3) (R:A5) (s:Option Addr) (env:Int) (c:List Value) (h:H) :
 A7 PR Bp7 C R A50 Tryz.f128 100000 true Di9 [(0,.pointer s),(1,.int .i64 env),(2,.agg ⟨c⟩)] h =
 nw (.cells N9 false c) h fun b w=>bnd (C Ad5 [.pointer s,.int .i64 env] w) fun r w1=>aBool r fun x=>bnd (cond (!x) (some (true,w1)) (gInt .i64 (Addr.add ⟨b,0,none⟩ 1) w1 fun x_1=>some ((Em8 .i64 x_1 7) != 0,w1))) fun c_1 w2=>bnd (cond c_1 (some (true,w2)) (gInt .i64 (Addr.add ⟨b,0,none⟩ 2) w2 fun x_2=>bnd (C Ai9 [.int .i64 x_2] w2) fun r_1 w3=>aBool r_1 fun x_3=>some (!x_3,w3))) fun c_2 w4=>bnd (cond c_2 (some (true,w4)) (gInt .i64 (Addr.add ⟨b,0,none⟩ 3) w4 fun x_4=>bnd (C Ai9 [.int .i64 x_4] w4) fun r_2 w5=>aBool r_2 fun x_5=>some (!x_5,w5))) fun c_3 w6=>cond c_3
 (some (.tuple ⟨[.int .i64 0,.int .i64 1]⟩,w6))
 (pAgg (Addr.add ⟨b,0,none⟩ 4) [.int .i64 0,.int .i64 0] w6 fun w7=>gAgg ⟨b,0,none⟩ 6 w7 fun x_6=>bnd (C Aq8 [.pointer s,.int .i64 env,.agg ⟨x_6⟩] w7) fun r_3 w8=>as2 r_3 fun r_4 r_5=>aInt .i64 r_4 fun x_7=>aInt .i64 r_5 fun x_8=>some (.tuple ⟨[.int .i64 x_7,.int .i64 x_8]⟩,w8)):=by kernel_rfl
def Au2:Cuts:={ globs:=0,loops:=[(3,[0,1,5,6])],regs:=[],plans:=[] }
def Be9:List Item:=A6 Tryz.f130
def Aj7:List Item:=stk [0,1,0,1,0,0,1,4,5] Be9
theorem Ee6 (C:A3) (R:A5) (q:Option Addr) (s:Int) (h:H) :
 A7 PR Au2 C R M0 Tryz.f130 100000 true Be9 [(0,.pointer q),(1,.int .i64 s)] h =
 R M0 Aj7 [(0,.pointer q),(1,.int .i64 s),(5,.int .i64 0),(6,.int .i64 0)] h:=by kernel_rfl
theorem Bs2 (C:A3) (R:A5) (q:Option Addr) (s:Int) (n:Int) (i:Int) (h:H) :
 A7 PR Au2 C R M0 Tryz.f130 100000 true Aj7 [(0,.pointer q),(1,.int .i64 s),(5,.int .i64 n),(6,.int .i64 i)] h =
 cond (decide (i<s))
 (aSome q fun p=>gSl (Addr.add p 0) h fun x xn _=>aSome x fun p_1=>ck ((0:Int)≤i∧i<((xn:Nat):Int)) (gSl (Addr.add (B1 p_1) (Int.toNat i*1)) h fun _ xn_1 _=>R M0 Aj7 [(0,.pointer q),(1,.int .i64 s),(5,.int .i64 (IntKind.wrap .i64 (n+((xn_1:Nat):Int)))),(6,.int .i64 (IntKind.wrap .i64 (i+1)))] h))
 (some (.int .i64 n,h)):=by kernel_rfl
def Be2:Cuts:={ globs:=0,loops:=[],regs:=[],plans:=[] }
def B68:List Item:=A6 Tryz.f137
theorem Eg3 (C:A3) (R:A5) (s:Option Addr) (env:Int) (h:H) :
 A7 PR Be2 C R Ai3 Tryz.f137 100000 true B68 [(0,.pointer s),(1,.int .i64 env)] h =
 bnd (C Ad5 [.pointer s,.int .i64 env] h) fun r w=>aBool r fun x=>cond (!x)
 (some (.slice none 0 0,w))
 (aSome s fun p=>gSl (Addr.add p 0) w fun x_1 xn _=>aSome x_1 fun p_1=>ck ((0:Int)≤env∧env<((xn:Nat):Int)) (gPtr (Addr.add (B1 p_1) (Int.toNat env*1)) w fun x_2=>bnd (C E7 [.pointer x_2] w) fun r_1 w1=>aSl r_1 fun x_3 xn_1 xc_1=>some (.slice x_3 xn_1 xc_1,w1))):=by kernel_rfl
def A06:Cuts:={ globs:=0,loops:=[],regs:=[],plans:=[] }
def Bs9:List Item:=A6 Tryz.f141
theorem Dz7 (C:A3) (R:A5) (r:Option Addr) (env:Int) (fromv:Int) (atv:Int) (to:Int) (on:Int) (n:Int) (h:H) :
 A7 PR A06 C R Aj9 Tryz.f141 100000 true Bs9 [(0,.pointer r),(1,.int .i64 env),(2,.int .i64 fromv),(3,.int .i64 atv),(4,.int .i64 to),(5,.int .i64 on),(6,.int .i64 n)] h =
 bnd (C Aa9 [.pointer r,.int .i64 env,.int .i64 fromv,.int .i64 atv,.int .i64 n] h) fun r_1 w=>as2 r_1 fun r_2 r_3=>aSl r_2 fun x xn xc=>aInt .i64 r_3 fun x_1=>cond (x_1 != 0)
 (some (.int .i64 x_1,w))
 (bnd (C Z8 [.pointer r,.int .i64 env,.int .i64 to,.int .i64 on,.slice x xn xc] w) fun r_4 w1=>aInt .i64 r_4 fun x_2=>some (.int .i64 x_2,w1)):=by kernel_rfl
def A60:Cuts:={ globs:=0,loops:=[],regs:=[],plans:=[(6,⟨[0,1,2,3,4,5,6,7,8,9,10,11,12,13,14,15,16,17,18,19,20,21],[0,0,0,4,15,31,63,127,255,511,1023,2047,4095,8191,4095,20479,53247,118783,249855,524287,1048575,2097151],[],[]⟩),(8,⟨[0,1,2,3,4,5,6,7,8,9,10,11,12,13,14,15,16,17,18,19,20,21,22,23,24,25,26,27,28,29,30],[0,1,0,0,8,24,56,0,128,504,1016,2047,4095,8191,16383,32767,16383,131071,16383,16383,540671,1589247,3686399,16383,8404991,33046527,66600959,134217727,268435455,536870911,1073741823],[],[]⟩),(10,⟨[0,1,2,3,4,5,6,7,8,9,10,11,12,13,14],[0,1,3,7,0,16,63,127,0,256,1023,0,4095,8191,16383],[],[]⟩)] }
def Bu7:List Item:=A6 Tryz.f148
theorem D23 (C:A3) (R:A5) (r:Option Addr) (e:Int) (name:Int) (right:Int) (atv:Int) (n:Int) (h:H) :
 A7 PR A60 C R Al6 Tryz.f148 100000 true Bu7 [(0,.pointer r),(1,.int .i64 e),(2,.int .i64 name),(3,.int .i64 right),(4,.int .i64 atv),(5,.int .i64 n)] h =
 aSome r fun p=>gPtr (Addr.add p 3) h fun x=>bnd (C A49 [.pointer x,.int .i64 e,.int .i64 name] h) fun r_1 w=>as2 r_1 fun r_2 r_3=>aAgg r_2 fun x_1=>aInt .i64 r_3 fun x_2=>nw (.cells N9 false [.int .i64 0,.int .i64 0,.int .i64 0,.int .i64 0,.int .i64 0,.int .i64 0]) w fun b w1=>ck (List.length x_1=6) (pAgg ⟨b,0,none⟩ x_1 w1 fun w2=>cond (x_2 != 0)
 (some (.tuple ⟨[.int .i64 0,.int .i64 x_2]⟩,w2))
 (gInt .i64 (Addr.add ⟨b,0,none⟩ 1) w2 fun x_3=>cond ((D0 .i64 x_3 right)==0)
 (some (.tuple ⟨[.int .i64 0,.int .i64 3]⟩,w2))
 (gInt .i64 (Addr.add ⟨b,0,none⟩ 3) w2 fun x_4=>bnd (C Ae6 [.int .i64 atv,.int .i64 n,.int .i64 x_4] w2) fun r_4 w3=>aBool r_4 fun x_5=>bnd (cond (!x_5) (some (true,w3)) (gInt .i64 (Addr.add ⟨b,0,none⟩ 0) w3 fun x_6=>some (decide (x_6<0),w3))) fun c w4=>bnd (cond c (some (true,w4)) (gInt .i64 (Addr.add ⟨b,0,none⟩ 0) w4 fun x_7=>aSome r fun p_1=>gSl (Addr.add p_1 1) w4 fun _ xn _=>some (decide (x_7≥((xn:Nat):Int)),w4))) fun c_1 w5=>cond c_1
 (some (.tuple ⟨[.int .i64 0,.int .i64 1]⟩,w5))
 (gInt .i64 (Addr.add ⟨b,0,none⟩ 2) w5 fun x_9=>aSome r fun p_2=>gSl (Addr.add p_2 2) w5 fun x_10 xn_1 _=>gInt .i64 (Addr.add ⟨b,0,none⟩ 0) w5 fun x_11=>aSome x_10 fun p_3=>ck ((0:Int)≤x_11∧x_11<((xn_1:Nat):Int)) (gInt .i64 (Addr.add (B1 p_3) (Int.toNat x_11*1)) w5 fun x_12=>bnd (C Ae6 [.int .i64 x_9,.int .i64 atv,.int .i64 x_12] w5) fun r_5 w6=>aBool r_5 fun x_13=>bnd (cond (!x_13) (some (true,w6)) (gInt .i64 (Addr.add ⟨b,0,none⟩ 2) w6 fun x_14=>aSome r fun p_4=>gSl (Addr.add p_4 2) w6 fun x_15 xn_2 _=>gInt .i64 (Addr.add ⟨b,0,none⟩ 0) w6 fun x_16=>aSome x_15 fun p_5=>ck ((0:Int)≤x_16∧x_16<((xn_2:Nat):Int)) (gInt .i64 (Addr.add (B1 p_5) (Int.toNat x_16*1)) w6 fun x_17=>bnd (C Ae6 [.int .i64 (IntKind.wrap .i64 (x_14+atv)),.int .i64 n,.int .i64 x_17] w6) fun r_6 w7=>aBool r_6 fun x_18=>some (!x_18,w7)))) fun c_2 w8=>cond c_2
 (some (.tuple ⟨[.int .i64 0,.int .i64 1]⟩,w8))
 (aSome r fun p_6=>gSl (Addr.add p_6 1) w8 fun x_19 xn_3 _=>gInt .i64 (Addr.add ⟨b,0,none⟩ 0) w8 fun x_20=>aSome x_19 fun p_7=>ck ((0:Int)≤x_20∧x_20<((xn_3:Nat):Int)) (gInt .i64 (Addr.add (B1 p_7) (Int.toNat x_20*1)) w8 fun x_21=>gInt .i64 (Addr.add ⟨b,0,none⟩ 2) w8 fun x_22=>some (.tuple ⟨[.int .i64 (IntKind.wrap .i64 ((IntKind.wrap .i64 (x_21+x_22))+atv)),.int .i64 0]⟩,w8)))))))):=by kernel_rfl
def Bo5:Cuts:={ globs:=0,loops:=[],regs:=[],plans:=[] }
def Do1:List Item:=A6 Tryz.f149
theorem Ez0 (C:A3) (R:A5) (s:Option Addr) (e:Int) (name:Int) (h:H) :
 A7 PR Bo5 C R A49 Tryz.f149 100000 true Do1 [(0,.pointer s),(1,.int .i64 e),(2,.int .i64 name)] h =
 nw (.cells N9 false [.int .i64 0,.int .i64 0,.int .i64 0,.int .i64 0,.int .i64 0,.int .i64 0]) h fun b w=>bnd (C Ah2 [.pointer s,.int .i64 e] w) fun r w1=>aBool r fun x=>bnd (cond (!x) (some (true,w1)) (aSome s fun p=>gSl (Addr.add p 0) w1 fun x_1 xn _=>aSome x_1 fun p_1=>ck ((0:Int)≤e∧e<((xn:Nat):Int)) (gPtr (Addr.add (B1 p_1) (Int.toNat e*1)) w1 fun x_2=>bnd (C A57 [.pointer x_2,.int .i64 name] w1) fun r_1 w2=>aBool r_1 fun x_3=>some (!x_3,w2)))) fun c w3=>cond c
 (pAgg ⟨b,0,none⟩ [.int .i64 0,.int .i64 0,.int .i64 0,.int .i64 0,.int .i64 0,.int .i64 0] w3 fun w4=>gAgg ⟨b,0,none⟩ 6 w4 fun x_4=>some (.tuple ⟨[.agg ⟨x_4⟩,.int .i64 2]⟩,w4))
 (aSome s fun p_2=>gSl (Addr.add p_2 1) w3 fun x_5 xn_1 _=>aSome x_5 fun p_3=>ck ((0:Int)≤e∧e<((xn_1:Nat):Int)) (gSl (Addr.add (B1 p_3) (Int.toNat e*1)) w3 fun x_6 xn_2 _=>aSome x_6 fun p_4=>ck ((0:Int)≤D0 .i64 name 255∧D0 .i64 name 255<((xn_2:Nat):Int)) (gAgg (Addr.add (B1 p_4) (Int.toNat (D0 .i64 name 255)*6)) 6 w3 fun x_7=>ck (List.length x_7=6) (pAgg ⟨b,0,none⟩ x_7 w3 fun w5=>gAgg ⟨b,0,none⟩ 6 w5 fun x_8=>some (.tuple ⟨[.agg ⟨x_8⟩,.int .i64 0]⟩,w5))))):=by kernel_rfl
def Bp6:Cuts:={ globs:=0,loops:=[],regs:=[],plans:=[] }
def Di5:List Item:=A6 Tryz.f150
theorem Ew1 (C:A3) (R:A5) (s:Option Addr) (e:Int) (h:H) :
 A7 PR Bp6 C R Ah2 Tryz.f150 100000 true Di5 [(0,.pointer s),(1,.int .i64 e)] h =
 bnd (cond (decide (e≥0)) (aSome s fun p=>gSl (Addr.add p 0) h fun _ xn _=>some (decide (e<((xn:Nat):Int)),h)) (some (false,h))) fun c w=>some (.bool c,w):=by kernel_rfl
def Af0:Cuts:={ globs:=0,loops:=[],regs:=[],plans:=[(4,⟨[0,1,2,3,4,10,5,6,7,8,9,11,12],[0,1,3,7,0,16,63,127,255,255,0,1535,4095],[(5,[3])],[]⟩)] }
def Ay9:List Item:=A6 Tryz.f164
theorem Bz8 (C:A3) (R:A5) (c:Option Addr) (b:Option Addr) (bn bc:Nat) (h:H) :
 A7 PR Af0 C R S9 Tryz.f164 100000 true Ay9 [(0,.pointer c),(1,.slice b bn bc)] h =
 nw (.cells B7 false [.int .i64 0,.int .i64 0,.int .i64 0,.int .i64 0,.int .u8 0,.int .u8 0,.int .u8 0,.int .u8 0,.int .u8 0,.int .u8 0,.int .u8 0,.int .u8 0,.int .u8 0,.int .u8 0,.int .u8 0,.int .u8 0,.int .u8 0,.int .u8 0,.int .u8 0,.int .u8 0,.int .u8 0,.int .u8 0,.int .u8 0,.int .u8 0,.int .u8 0,.int .u8 0,.int .u8 0,.int .u8 0,.int .u8 0,.int .u8 0,.int .u8 0,.int .u8 0,.int .u8 0,.int .u8 0,.int .u8 0,.int .u8 0]) h fun b_1 w=>nw (.cells B7 false [.int .i64 0,.int .i64 0,.int .i64 0,.int .i64 0,.int .u8 0,.int .u8 0,.int .u8 0,.int .u8 0,.int .u8 0,.int .u8 0,.int .u8 0,.int .u8 0,.int .u8 0,.int .u8 0,.int .u8 0,.int .u8 0,.int .u8 0,.int .u8 0,.int .u8 0,.int .u8 0,.int .u8 0,.int .u8 0,.int .u8 0,.int .u8 0,.int .u8 0,.int .u8 0,.int .u8 0,.int .u8 0,.int .u8 0,.int .u8 0,.int .u8 0,.int .u8 0,.int .u8 0,.int .u8 0,.int .u8 0,.int .u8 0]) w fun b_2 w1=>aSome c fun p=>gFv (Addr.add p 2) w1 fun x=>isNilF x fun b_3=>bnd (cond b_3 (some (true,w1)) (aSome c fun p_1=>gInt .i64 (Addr.add p_1 0) w1 fun x_1=>some (((bn:Nat):Int) != x_1,w1))) fun c_1 w2=>cond c_1
 (gAgg ⟨b_2,0,none⟩ 36 w2 fun x_2=>ck (List.length x_2=36) (pAgg ⟨b_1,0,none⟩ x_2 w2 fun w3=>gAgg ⟨b_1,0,none⟩ 36 w3 fun x_3=>some (.tuple ⟨[.agg ⟨x_3⟩,.bool false]⟩,w3)))
 (aSome c fun p_2=>gFv (Addr.add p_2 2) w2 fun x_4=>nw (.cells B7 false [.int .i64 0,.int .i64 0,.int .i64 0,.int .i64 0,.int .u8 0,.int .u8 0,.int .u8 0,.int .u8 0,.int .u8 0,.int .u8 0,.int .u8 0,.int .u8 0,.int .u8 0,.int .u8 0,.int .u8 0,.int .u8 0,.int .u8 0,.int .u8 0,.int .u8 0,.int .u8 0,.int .u8 0,.int .u8 0,.int .u8 0,.int .u8 0,.int .u8 0,.int .u8 0,.int .u8 0,.int .u8 0,.int .u8 0,.int .u8 0,.int .u8 0,.int .u8 0,.int .u8 0,.int .u8 0,.int .u8 0,.int .u8 0]) w2 fun b_4 w4=>bnd (C G1 [.slice b bn bc] w4) fun r w5=>aSl r fun x_5 xn xc=>gFv (Addr.add p_2 2) w5 fun x_6=>Bh7 (x_4) (x_6) (aFn x_4 fun g fi cp=>bnd (C g (fi++([.slice x_5 xn xc]++cp)) w5) fun r_1 w6=>as2 r_1 fun r_2 r_3=>aAgg r_2 fun x_7=>aBool r_3 fun x_8=>ck (List.length x_7=36) (pAgg ⟨b_4,0,none⟩ x_7 w6 fun w7=>cond (!x_8)
 (gAgg ⟨b_2,0,none⟩ 36 w7 fun x_9=>ck (List.length x_9=36) (pAgg ⟨b_1,0,none⟩ x_9 w7 fun w8=>gAgg ⟨b_1,0,none⟩ 36 w8 fun x_10=>some (.tuple ⟨[.agg ⟨x_10⟩,.bool false]⟩,w8)))
 (gAgg ⟨b_4,0,none⟩ 36 w7 fun x_11=>ck (List.length x_11=36) (pAgg ⟨b_1,0,none⟩ x_11 w7 fun w9=>gAgg ⟨b_1,0,none⟩ 36 w9 fun x_12=>some (.tuple ⟨[.agg ⟨x_12⟩,.bool true]⟩,w9)))))):=by kernel_rfl
def As8:Cuts:={ globs:=0,loops:=[],regs:=[],plans:=[] }
def Bi7:List Item:=A6 Tryz.f166
theorem Do5 (C:A3) (R:A5) (c:Option Addr) (r:List Value) (h:H) :
 A7 PR As8 C R W2 Tryz.f166 100000 true Bi7 [(0,.pointer c),(1,.agg ⟨r⟩)] h =
 nw (.cells D7 false r) h fun b w=>nw (.cells Bw5 false [.int .i64 0,.int .i64 0,.int .i64 0]) w fun b_1 w1=>gInt .i64 (Addr.add ⟨b,0,none⟩ 1) w1 fun x=>bnd (cond (decide (x<0)) (some (true,w1)) (gInt .i64 (Addr.add ⟨b,0,none⟩ 0) w1 fun x_1=>bnd (C Z0 [.pointer c,.int .i64 x_1] w1) fun r_1 w2=>aInt .i64 r_1 fun x_2=>some (decide (x≥x_2),w2))) fun c_1 w3=>cond c_1
 (pAgg ⟨b_1,0,none⟩ [.int .i64 0,.int .i64 0,.int .i64 0] w3 fun w4=>gAgg ⟨b_1,0,none⟩ 3 w4 fun x_3=>some (.tuple ⟨[.agg ⟨x_3⟩,.bool false]⟩,w4))
 (aSome c fun p=>gSl (Addr.add p 2) w3 fun x_4 xn _=>aSome x_4 fun p_1=>ck ((0:Int)≤0∧0<((xn:Nat):Int)) (gInt .i64 (Addr.add (B1 p_1) (Int.toNat 0*1)) w3 fun x_5=>gInt .i64 (Addr.add ⟨b,0,none⟩ 0) w3 fun x_6=>cond (x_6==1)
 (pAgg ⟨b_1,0,none⟩ [.int .i64 x_5,.int .i64 (IntKind.wrap .i64 (24*x)),.int .i64 24] w3 fun w5=>gAgg ⟨b_1,0,none⟩ 3 w5 fun x_7=>some (.tuple ⟨[.agg ⟨x_7⟩,.bool true]⟩,w5))
 (gInt .i64 (Addr.add ⟨b,0,none⟩ 0) w3 fun x_8=>cond (x_8==2)
 (pAgg ⟨b_1,0,none⟩ [.int .i64 x_5,.int .i64 (IntKind.wrap .i64 (192+(IntKind.wrap .i64 (8*x)))),.int .i64 8] w3 fun w6=>gAgg ⟨b_1,0,none⟩ 3 w6 fun x_9=>some (.tuple ⟨[.agg ⟨x_9⟩,.bool true]⟩,w6))
 (gInt .i64 (Addr.add ⟨b,0,none⟩ 0) w3 fun x_10=>bnd (cond (x_10==3) (some (decide (x<4),w3)) (some (false,w3))) fun c_2 w7=>cond c_2
 (pAgg ⟨b_1,0,none⟩ [.int .i64 x_5,.int .i64 (IntKind.wrap .i64 (288+(IntKind.wrap .i64 (40*x)))),.int .i64 40] w7 fun w8=>gAgg ⟨b_1,0,none⟩ 3 w8 fun x_11=>some (.tuple ⟨[.agg ⟨x_11⟩,.bool true]⟩,w8))
 (gInt .i64 (Addr.add ⟨b,0,none⟩ 0) w7 fun x_12=>cond (x_12==3)
 (aSome c fun p_2=>gSl (Addr.add p_2 2) w7 fun x_13 xn_1 _=>aSome x_13 fun p_3=>ck ((0:Int)≤IntKind.wrap .i64 ((IntKind.wrap .i64 (x-4))+1)∧IntKind.wrap .i64 ((IntKind.wrap .i64 (x-4))+1)<((xn_1:Nat):Int)) (gInt .i64 (Addr.add (B1 p_3) (Int.toNat (IntKind.wrap .i64 ((IntKind.wrap .i64 (x-4))+1))*1)) w7 fun x_14=>pAgg ⟨b_1,0,none⟩ [.int .i64 x_14,.int .i64 0,.int .i64 40] w7 fun w9=>gAgg ⟨b_1,0,none⟩ 3 w9 fun x_15=>some (.tuple ⟨[.agg ⟨x_15⟩,.bool true]⟩,w9)))
 (gInt .i64 (Addr.add ⟨b,0,none⟩ 0) w7 fun x_16=>cond (x_16==4)
 (pAgg ⟨b_1,0,none⟩ [.int .i64 x_5,.int .i64 448,.int .i64 40] w7 fun w10=>gAgg ⟨b_1,0,none⟩ 3 w10 fun x_17=>some (.tuple ⟨[.agg ⟨x_17⟩,.bool true]⟩,w10))
 (pAgg ⟨b_1,0,none⟩ [.int .i64 x_5,.int .i64 488,.int .i64 4] w7 fun w11=>gAgg ⟨b_1,0,none⟩ 3 w11 fun x_18=>some (.tuple ⟨[.agg ⟨x_18⟩,.bool true]⟩,w11)))))))):=by kernel_rfl
def Ac6:Cuts:={ globs:=0,loops:=[],regs:=[],plans:=[] }
def As2:List Item:=A6 Tryz.f176
theorem As4 (C:A3) (R:A5) (s:Option Addr) (sn sc:Nat) (f:Value) (h:H) :
 A7 PR Ac6 C R E4 Tryz.f176 100000 true As2 [(0,.slice s sn sc),(1,f)] h =
 bnd (C D3 [.slice s sn sc,f] h) fun r w=>aInt .i64 r fun x=>some (.bool (decide (x≥0)),w):=by kernel_rfl
def Bd0:Cuts:={ globs:=0,loops:=[],regs:=[],plans:=[] }
def B72:List Item:=A6 Tryz.f180
theorem Ee0 (C:A3) (R:A5) (n:Int) (h:H) :
 A7 PR Bd0 C R Ai9 Tryz.f180 100000 true B72 [(0,.int .i64 n)] h =
 bnd (cond (decide (n≥0)) (some (decide (n≤65536),h)) (some (false,h))) fun c w=>some (.bool c,w):=by kernel_rfl
def B20:Cuts:={ globs:=0,loops:=[],regs:=[],plans:=[] }
def Dy0:List Item:=A6 Tryz.f187
theorem Ga3 (C:A3) (R:A5) (m:Option Addr) (atv:Int) (n:Int) (h:H) :
 A7 PR B20 C R Bg2 Tryz.f187 100000 true Dy0 [(0,.pointer m),(1,.int .i64 atv),(2,.int .i64 n)] h =
 bnd (C Bf4 [.pointer m,.int .i64 atv,.int .i64 n] h) fun r w=>aBool r fun x=>cond (!x)
 (some (.tuple ⟨[.slice none 0 0,.int .i64 1]⟩,w))
 (aSome m fun p=>gSl (Addr.add p 0) w fun x_1 _ xc=>ckB (fitsOpen x_1 A4 w) (ck ((0:Int)≤IntKind.wrap .i64 (atv+n)∧IntKind.wrap .i64 (atv+n)≤((xc:Nat):Int)) (ck ((0:Int)≤atv∧atv≤((Int.toNat (IntKind.wrap .i64 (atv+n)):Nat):Int)) (bnd (C G1 [.slice (G9 x_1 (decide (Int.toNat atv<xc)) ((Int.toNat atv)*1)) ((Int.toNat (IntKind.wrap .i64 (atv+n)))-(Int.toNat atv)) (xc-(Int.toNat atv))] w) fun r_1 w1=>aSl r_1 fun x_2 xn_1 xc_1=>some (.tuple ⟨[.slice x_2 xn_1 xc_1,.int .i64 0]⟩,w1))))):=by kernel_rfl
def A55:Cuts:={ globs:=0,loops:=[(2,[0,4])],regs:=[],plans:=[] }
def Br0:List Item:=A6 Tryz.f198
def Ar5:List Item:=stk [0,1,0,0,1,4,5] Br0
theorem Ex2 (C:A3) (R:A5) (n:Option Addr) (h:H) :
 A7 PR A55 C R V4 Tryz.f198 100000 true Br0 [(0,.pointer n)] h =
 R V4 Ar5 [(0,.pointer n),(4,.int .i64 0)] h:=by kernel_rfl
theorem B04 (C:A3) (R:A5) (n:Option Addr) (i:Int) (h:H) :
 A7 PR A55 C R V4 Tryz.f198 100000 true Ar5 [(0,.pointer n),(4,.int .i64 i)] h =
 aSome n fun p=>gSl (Addr.add p 0) h fun _ xn _=>cond (decide (i<((xn:Nat):Int)))
 (aSome n fun p_1=>gSl (Addr.add p_1 0) h fun x_1 xn_1 _=>aSome x_1 fun p_2=>ck ((0:Int)≤i∧i<((xn_1:Nat):Int)) (gBool (Addr.add (Addr.add (B1 p_2) (Int.toNat i*2)) 1) h fun x_2=>bnd (cond (!x_2) (aSome n fun p_3=>gSl (Addr.add p_3 0) h fun x_3 xn_2 _=>aSome x_3 fun p_4=>ck ((0:Int)≤i∧i<((xn_2:Nat):Int)) (gInt .i64 (Addr.add (Addr.add (B1 p_4) (Int.toNat i*2)) 0) h fun x_4=>some (decide (x_4≤1000000),h))) (some (false,h))) fun c w=>cond c
 (aSome n fun p_5=>gSl (Addr.add p_5 0) w fun x_5 xn_3 _=>aSome x_5 fun p_6=>ck ((0:Int)≤i∧i<((xn_3:Nat):Int)) (pV (Addr.add (Addr.add (B1 p_6) (Int.toNat i*2)) 1) (.bool true) w fun w1=>aSome n fun p_7=>gSl (Addr.add p_7 0) w1 fun x_6 xn_4 _=>aSome x_6 fun p_8=>ck ((0:Int)≤i∧i<((xn_4:Nat):Int)) (gInt .i64 (Addr.add (Addr.add (B1 p_8) (Int.toNat i*2)) 0) w1 fun x_7=>some (.tuple ⟨[.int .i64 (IntKind.wrap .i64 (i+(IntKind.wrap .i64 (256*x_7)))),.bool true]⟩,w1))))
 (R V4 Ar5 [(0,.pointer n),(4,.int .i64 (IntKind.wrap .i64 (i+1)))] w)))
 (some (.tuple ⟨[.int .i64 0,.bool false]⟩,h)):=by kernel_rfl
def Ds7:Cuts:={ globs:=0,loops:=[],regs:=[],plans:=[] }
def Et0:List Item:=A6 Tryz.f204
theorem G90 (C:A3) (R:A5) (f:List Value) (b:Option Addr) (bn bc:Nat) (h:H) :
 A7 PR Ds7 C R Ap6 Tryz.f204 100000 true Et0 [(0,.agg ⟨f⟩),(1,.slice b bn bc)] h =
 nw (.cells D2 false f) h fun b_1 w=>gAgg ⟨b_1,0,none⟩ 4 w fun x=>bnd (C Dd3 [.agg ⟨x⟩] w) fun r w1=>aBool r fun x_1=>cond (!x_1)
 (some (.bool false,w1))
 (gInt .i64 (Addr.add ⟨b_1,0,none⟩ 0) w1 fun x_2=>gInt .i64 (Addr.add ⟨b_1,0,none⟩ 1) w1 fun x_3=>gInt .i64 (Addr.add ⟨b_1,0,none⟩ 2) w1 fun x_4=>gInt .i64 (Addr.add ⟨b_1,0,none⟩ 3) w1 fun x_5=>nw (.cells A4 false [.int .u8 (IntKind.wrap .u8 (x_2)),.int .u8 (IntKind.wrap .u8 (x_3)),.int .u8 (IntKind.wrap .u8 (x_4)),.int .u8 (IntKind.wrap .u8 (x_5)),.int .u8 179]) w1 fun b_2 w2=>gCells (some ⟨b_2,0,none⟩) (min 5 bn*1) w2 fun cs=>pCells b cs w2 fun w3=>ckB (fitsOpen b A4 w3) (ck ((0:Int)≤5∧5≤((bc:Nat):Int)) (bnd (C Z9 [.slice (G9 b (decide (0<bc)) (0*1)) ((Int.toNat 5)-0) (bc-0)] w3) fun r_1 w4=>aInt .u8 r_1 fun x_6=>aSome b fun p=>ck ((0:Int)≤5∧5<((bn:Nat):Int)) (pV (Addr.add (B1 p) (Int.toNat 5*1)) (.int .u8 x_6) w4 fun w5=>some (.bool true,w5))))):=by kernel_rfl
def Ak0:Cuts:={ globs:=0,loops:=[],regs:=[],plans:=[] }
def A92:List Item:=A6 Tryz.f206
theorem A82 (C:A3) (R:A5) (s:Option Addr) (sn sc:Nat) (h:H) :
 A7 PR Ak0 C R G1 Tryz.f206 100000 true A92 [(0,.slice s sn sc)] h =
 cond s.isNone
 (some (.slice none 0 0,h))
 (nw (.cells A4 false []) h fun b w=>gCells s (sn*1) w fun cs=>ckB (fitsOpen (some ⟨b,0,none⟩) A4 w) (apd A4 1 (some ⟨b,0,none⟩) 0 0 sn cs w fun a an ac w1=>some (.slice a an ac,w1))):=by kernel_rfl
def D39:Cuts:={ globs:=0,loops:=[],regs:=[],plans:=[(5,⟨[0,1,2,3,4],[0,1,0,4,15],[],[]⟩)] }
def E80:List Item:=A6 Tryz.f208
theorem He3 (C:A3) (R:A5) (p:List Value) (b:Option Addr) (bn bc:Nat) (h:H) :
 A7 PR D39 C R Bh4 Tryz.f208 100000 true E80 [(0,.agg ⟨p⟩),(1,.slice b bn bc)] h =
 nw (.cells B7 false p) h fun b_1 w=>gAgg ⟨b_1,0,none⟩ 36 w fun x=>bnd (C Bs1 [.agg ⟨x⟩] w) fun r w1=>aBool r fun x_1=>cond (!x_1)
 (some (.bool false,w1))
 (gInt .i64 (Addr.add ⟨b_1,0,none⟩ 0) w1 fun x_2=>gInt .i64 (Addr.add ⟨b_1,0,none⟩ 1) w1 fun x_3=>gInt .i64 (Addr.add ⟨b_1,0,none⟩ 2) w1 fun x_4=>gInt .i64 (Addr.add ⟨b_1,0,none⟩ 3) w1 fun x_5=>nw (.cells A4 false [.int .u8 1,.int .u8 (IntKind.wrap .u8 (x_2)),.int .u8 (IntKind.wrap .u8 (x_3)),.int .u8 (IntKind.wrap .u8 (x_4)),.int .u8 (IntKind.wrap .u8 (x_5)),.int .u8 197]) w1 fun b_2 w2=>gCells (some ⟨b_2,0,none⟩) (min 6 bn*1) w2 fun cs=>pCells b cs w2 fun w3=>ckB (fitsOpen b A4 w3) (ck ((0:Int)≤6∧6≤((bc:Nat):Int)) (bnd (C Z9 [.slice (G9 b (decide (0<bc)) (0*1)) ((Int.toNat 6)-0) (bc-0)] w3) fun r_1 w4=>aInt .u8 r_1 fun x_6=>aSome b fun p_1=>ck ((0:Int)≤6∧6<((bn:Nat):Int)) (pV (Addr.add (B1 p_1) (Int.toNat 6*1)) (.int .u8 x_6) w4 fun w5=>ckB (fitsOpen b A4 w5) (ck ((0:Int)≤8∧8≤((bn:Nat):Int)) (ckB (liveA (Addr.add ⟨b_1,0,none⟩ 4) w5) (gCells (G9 (some (Addr.add ⟨b_1,0,none⟩ 4)) (decide (0<32)) (0*1)) (min (32-0) (bn-(Int.toNat 8))*1) w5 fun cs_1=>pCells (G9 b (decide (Int.toNat 8<bc)) ((Int.toNat 8)*1)) cs_1 w5 fun w6=>some (.bool true,w6)))))))):=by kernel_rfl
def D21:Cuts:={ globs:=0,loops:=[],regs:=[],plans:=[(1,⟨[0,1,2,3,4,5,6,7,8,9,10,11,12,13,14,15,16,17,18],[0,1,3,7,0,16,48,112,0,256,768,1792,0,4096,12288,28672,65535,0,262143],[],[]⟩),(2,⟨[0,1,2,3,4],[0,1,0,4,15],[],[]⟩),(4,⟨[0,1,2,3,4,5,6,7,8],[0,0,2,6,6,30,62,63,255],[(5,[0])],[]⟩)] }
def E85:List Item:=A6 Tryz.f209
theorem Hk4 (C:A3) (R:A5) (b:Option Addr) (bn bc:Nat) (h:H) :
 A7 PR D21 C R Bi1 Tryz.f209 100000 true E85 [(0,.slice b bn bc)] h =
 nw (.cells B7 false [.int .i64 0,.int .i64 0,.int .i64 0,.int .i64 0,.int .u8 0,.int .u8 0,.int .u8 0,.int .u8 0,.int .u8 0,.int .u8 0,.int .u8 0,.int .u8 0,.int .u8 0,.int .u8 0,.int .u8 0,.int .u8 0,.int .u8 0,.int .u8 0,.int .u8 0,.int .u8 0,.int .u8 0,.int .u8 0,.int .u8 0,.int .u8 0,.int .u8 0,.int .u8 0,.int .u8 0,.int .u8 0,.int .u8 0,.int .u8 0,.int .u8 0,.int .u8 0,.int .u8 0,.int .u8 0,.int .u8 0,.int .u8 0]) h fun b_1 w=>aSome b fun p=>ck ((0:Int)≤1∧1<((bn:Nat):Int)) (gInt .u8 (Addr.add (B1 p) (Int.toNat 1*1)) w fun x=>aSome b fun p_1=>ck ((0:Int)≤2∧2<((bn:Nat):Int)) (gInt .u8 (Addr.add (B1 p_1) (Int.toNat 2*1)) w fun x_1=>aSome b fun p_2=>ck ((0:Int)≤3∧3<((bn:Nat):Int)) (gInt .u8 (Addr.add (B1 p_2) (Int.toNat 3*1)) w fun x_2=>aSome b fun p_3=>ck ((0:Int)≤4∧4<((bn:Nat):Int)) (gInt .u8 (Addr.add (B1 p_3) (Int.toNat 4*1)) w fun x_3=>nw (.cells B7 false [.int .i64 0,.int .i64 0,.int .i64 0,.int .i64 0,.int .u8 0,.int .u8 0,.int .u8 0,.int .u8 0,.int .u8 0,.int .u8 0,.int .u8 0,.int .u8 0,.int .u8 0,.int .u8 0,.int .u8 0,.int .u8 0,.int .u8 0,.int .u8 0,.int .u8 0,.int .u8 0,.int .u8 0,.int .u8 0,.int .u8 0,.int .u8 0,.int .u8 0,.int .u8 0,.int .u8 0,.int .u8 0,.int .u8 0,.int .u8 0,.int .u8 0,.int .u8 0,.int .u8 0,.int .u8 0,.int .u8 0,.int .u8 0]) w fun b_2 w1=>pAgg ⟨b_2,0,none⟩ [.int .i64 (IntKind.wrap .i64 (x)),.int .i64 (IntKind.wrap .i64 (x_1)),.int .i64 (IntKind.wrap .i64 (x_2)),.int .i64 (IntKind.wrap .i64 (x_3)),.int .u8 0,.int .u8 0,.int .u8 0,.int .u8 0,.int .u8 0,.int .u8 0,.int .u8 0,.int .u8 0,.int .u8 0,.int .u8 0,.int .u8 0,.int .u8 0,.int .u8 0,.int .u8 0,.int .u8 0,.int .u8 0,.int .u8 0,.int .u8 0,.int .u8 0,.int .u8 0,.int .u8 0,.int .u8 0,.int .u8 0,.int .u8 0,.int .u8 0,.int .u8 0,.int .u8 0,.int .u8 0,.int .u8 0,.int .u8 0,.int .u8 0,.int .u8 0] w1 fun w2=>ckB (liveA (Addr.add ⟨b_2,0,none⟩ 4) w2) (ckB (fitsOpen b A4 w2) (ck ((0:Int)≤8∧8≤((bn:Nat):Int)) (gCells (G9 b (decide (Int.toNat 8<bc)) ((Int.toNat 8)*1)) (min (bn-(Int.toNat 8)) (32-0)*1) w2 fun cs=>pCells (G9 (some (Addr.add ⟨b_2,0,none⟩ 4)) (decide (0<32)) (0*1)) cs w2 fun w3=>gAgg ⟨b_2,0,none⟩ 36 w3 fun x_4=>bnd (C At5 [.agg ⟨x_4⟩] w3) fun r w4=>as2 r fun r_1 r_2=>aSl r_1 fun x_5 xn xc=>aBool r_2 fun x_6=>gAgg ⟨b_2,0,none⟩ 36 w4 fun x_7=>bnd (cond x_6 (bnd (C B9 [.slice x_5 xn xc,.slice b bn bc] w4) fun r_3 w5=>aBool r_3 fun x_8=>gAgg ⟨b_2,0,none⟩ 36 w5 fun x_9=>same (.agg ⟨x_7⟩) (.agg ⟨x_9⟩) (some (x_8,w5))) (some (false,w4))) fun c w6=>ck (List.length x_7=36) (pAgg ⟨b_1,0,none⟩ x_7 w6 fun w7=>gAgg ⟨b_1,0,none⟩ 36 w7 fun x_10=>some (.tuple ⟨[.agg ⟨x_10⟩,.bool c]⟩,w7))))))))):=by kernel_rfl
def A52:Cuts:={ globs:=0,loops:=[],regs:=[],plans:=[] }
def Bv1:List Item:=A6 Tryz.f210
theorem D15 (C:A3) (R:A5) (size:Int) (put:Value) (get:Value) (h:H) :
 A7 PR A52 C R An3 Tryz.f210 100000 true Bv1 [(0,.int .i64 size),(1,put),(2,get)] h =
 one put (one get (nw (.cells Bl3 false [.int .i64 (mm2 false (mm2 true size 0) 64),put,get]) h fun b w=>some (.pointer (some ⟨b,0,none⟩),w))):=by kernel_rfl
def Ba0:Cuts:={ globs:=0,loops:=[(4,[1,2,22,23,24]),(9,[1,2,43,44,45]),(14,[1,58,59])],regs:=[],plans:=[] }
def Bm0:List Item:=A6 Tryz.f211
def B21:List Item:=stk [0,1,0,1,0,0,1,4,5] Bm0
def B18:List Item:=stk [0,1,0,1,0,1,0,0,1,4,5] Bm0
def B38:List Item:=stk [0,1,0,1,0,1,0,1,0,0,1,4,5] Bm0
theorem G86 (C:A3) (R:A5) (p:List Value) (b:Option Addr) (bn bc:Nat) (h:H) :
 A7 PR Ba0 C R M9 Tryz.f211 100000 true Bm0 [(0,.agg ⟨p⟩),(1,.slice b bn bc)] h =
 nw (.cells D6 false p) h fun b_1 w=>gAgg ⟨b_1,0,none⟩ 16 w fun x=>bnd (C Df2 [.agg ⟨x⟩] w) fun r w1=>aBool r fun x_1=>cond (!x_1)
 (some (.bool false,w1))
 (gInt .i64 (Addr.add ⟨b_1,0,none⟩ 0) w1 fun x_2=>gInt .i64 (Addr.add ⟨b_1,0,none⟩ 1) w1 fun x_3=>gInt .i64 (Addr.add ⟨b_1,0,none⟩ 2) w1 fun x_4=>gInt .i64 (Addr.add ⟨b_1,0,none⟩ 3) w1 fun x_5=>nw (.cells B3 false [.int .i64 x_2,.int .i64 x_3,.int .i64 x_4,.int .i64 x_5]) w1 fun b_2 w2=>R M9 B21 [(1,.slice b bn bc),(2,.pointer (some ⟨b_1,0,none⟩)),(22,.slice (some ⟨b_2,0,none⟩) 4 4),(23,.int .i64 4),(24,.int .i64 0)] w2):=by kernel_rfl
theorem A07 (C:A3) (R:A5) (b:Option Addr) (bn bc:Nat) (p:Addr) (x22:Option Addr) (x22n x22c:Nat) (x23:Int) (x24:Int) (h:H) :
 A7 PR Ba0 C R M9 Tryz.f211 100000 true B21 [(1,.slice b bn bc),(2,.pointer (some p)),(22,.slice x22 x22n x22c),(23,.int .i64 x23),(24,.int .i64 x24)] h =
 cond (decide (x24<x23))
 (aSome x22 fun p_1=>ck ((0:Int)≤x24∧x24<((x22n:Nat):Int)) (gInt .i64 (Addr.add (B1 p_1) (Int.toNat x24*1)) h fun x=>aSome b fun p_2=>ck ((0:Int)≤x24∧x24<((bn:Nat):Int)) (pV (Addr.add (B1 p_2) (Int.toNat x24*1)) (.int .u8 (IntKind.wrap .u8 (x))) h fun w=>R M9 B21 [(1,.slice b bn bc),(2,.pointer (some p)),(22,.slice x22 x22n x22c),(23,.int .i64 x23),(24,.int .i64 (IntKind.wrap .i64 (x24+1)))] w)))
 (gInt .i64 (Addr.add p 4) h fun x_1=>gInt .i64 (Addr.add p 5) h fun x_2=>gInt .i64 (Addr.add p 6) h fun x_3=>gInt .i64 (Addr.add p 7) h fun x_4=>nw (.cells B3 false [.int .i64 x_1,.int .i64 x_2,.int .i64 x_3,.int .i64 x_4]) h fun b_1 w1=>R M9 B18 [(1,.slice b bn bc),(2,.pointer (some p)),(43,.slice (some ⟨b_1,0,none⟩) 4 4),(44,.int .i64 4),(45,.int .i64 0)] w1):=by kernel_rfl
theorem A29 (C:A3) (R:A5) (b:Option Addr) (bn bc:Nat) (p:Addr) (x43:Option Addr) (x43n x43c:Nat) (x44:Int) (x45:Int) (h:H) :
 A7 PR Ba0 C R M9 Tryz.f211 100000 true B18 [(1,.slice b bn bc),(2,.pointer (some p)),(43,.slice x43 x43n x43c),(44,.int .i64 x44),(45,.int .i64 x45)] h =
 cond (decide (x45<x44))
 (aSome x43 fun p_1=>ck ((0:Int)≤x45∧x45<((x43n:Nat):Int)) (gInt .i64 (Addr.add (B1 p_1) (Int.toNat x45*1)) h fun x=>bnd (C Be7 [.slice b bn bc,.int .i64 (IntKind.wrap .i64 (4+(IntKind.wrap .i64 (2*x45)))),.int .i64 x] h) fun r w=>aBool r fun _=>R M9 B18 [(1,.slice b bn bc),(2,.pointer (some p)),(43,.slice x43 x43n x43c),(44,.int .i64 x44),(45,.int .i64 (IntKind.wrap .i64 (x45+1)))] w))
 (gAgg (Addr.add p 8) 8 h fun x_2=>R M9 B38 [(1,.slice b bn bc),(58,.agg ⟨x_2⟩),(59,.int .i64 0)] h):=by kernel_rfl
theorem W1 (C:A3) (R:A5) (b:Option Addr) (bn bc:Nat) (x58:List Value) (x59:Int) (h:H) :
 A7 PR Ba0 C R M9 Tryz.f211 100000 true B38 [(1,.slice b bn bc),(58,.agg ⟨x58⟩),(59,.int .i64 x59)] h =
 cond (decide (x59<8))
 (ck ((0:Int)≤x59∧x59<((8:Nat):Int)) (nth x58 (Int.toNat x59*1) fun x=>aInt .i64 x fun x_1=>aSome b fun p=>ck ((0:Int)≤IntKind.wrap .i64 (12+x59)∧IntKind.wrap .i64 (12+x59)<((bn:Nat):Int)) (pV (Addr.add (B1 p) (Int.toNat (IntKind.wrap .i64 (12+x59))*1)) (.int .u8 (IntKind.wrap .u8 (x_1))) h fun w=>R M9 B38 [(1,.slice b bn bc),(58,.agg ⟨x58⟩),(59,.int .i64 (IntKind.wrap .i64 (x59+1)))] w)))
 (aSome b fun p_1=>ck ((0:Int)≤20∧20<((bn:Nat):Int)) (pV (Addr.add (B1 p_1) (Int.toNat 20*1)) (.int .u8 167) h fun w1=>ckB (fitsOpen b A4 w1) (ck ((0:Int)≤21∧21≤((bc:Nat):Int)) (bnd (C Z9 [.slice (G9 b (decide (0<bc)) (0*1)) ((Int.toNat 21)-0) (bc-0)] w1) fun r w2=>aInt .u8 r fun x_2=>aSome b fun p_2=>ck ((0:Int)≤21∧21<((bn:Nat):Int)) (pV (Addr.add (B1 p_2) (Int.toNat 21*1)) (.int .u8 x_2) w2 fun w3=>some (.bool true,w3)))))):=by kernel_rfl
def Ak1:Cuts:={ globs:=0,loops:=[],regs:=[],plans:=[] }
def A90:List Item:=A6 Tryz.f215
theorem Da6 (C:A3) (R:A5) (t:Option Addr) (i:Int) (h:H) :
 A7 PR Ak1 C R L7 Tryz.f215 100000 true A90 [(0,.pointer t),(1,.int .i64 i)] h =
 aSome t fun p=>gSl (Addr.add p 0) h fun x xn _=>aSome x fun p_1=>ck ((0:Int)≤i∧i<((xn:Nat):Int)) (gInt .i64 (Addr.add (Addr.add (B1 p_1) (Int.toNat i*8)) 6) h fun x_1=>some (.int .i64 (IntKind.wrap .i64 (i+(IntKind.wrap .i64 (256*x_1)))),h)):=by kernel_rfl
def Q7:Cuts:={ globs:=0,loops:=[(2,[0,1,7,8])],regs:=[],plans:=[] }
def Ad2:List Item:=A6 Tryz.f222
def O6:List Item:=stk [0,1,0,0,1,4,5] Ad2
theorem Bw3 (C:A3) (R:A5) (s:Option Addr) (sn sc:Nat) (f:Value) (h:H) :
 A7 PR Q7 C R E8 Tryz.f222 100000 true Ad2 [(0,.slice s sn sc),(1,f)] h =
 R E8 O6 [(0,.slice s sn sc),(1,f),(7,.int .i64 ((sn:Nat):Int)),(8,.int .i64 0)] h:=by kernel_rfl
theorem Ap4 (C:A3) (R:A5) (s:Option Addr) (sn sc:Nat) (f:Value) (x7:Int) (x8:Int) (h:H) :
 A7 PR Q7 C R E8 Tryz.f222 100000 true O6 [(0,.slice s sn sc),(1,f),(7,.int .i64 x7),(8,.int .i64 x8)] h =
 cond (decide (x8<x7))
 (aSome s fun p=>ck ((0:Int)≤x8∧x8<((sn:Nat):Int)) (gInt .u8 (Addr.add (B1 p) (Int.toNat x8*1)) h fun x=>aFn f fun g fi cp=>bnd (C g (fi++([.int .u8 x]++cp)) h) fun r w=>aBool r fun x_1=>cond x_1
 (some (.int .i64 x8,w))
 (R E8 O6 [(0,.slice s sn sc),(1,f),(7,.int .i64 x7),(8,.int .i64 (IntKind.wrap .i64 (x8+1)))] w)))
 (some (.int .i64 (-1),h)):=by kernel_rfl
def D85:Cuts:={ globs:=0,loops:=[],regs:=[],plans:=[] }
def E41:List Item:=A6 Tryz.f223
theorem Hf7 (C:A3) (R:A5) (f:List Value) (h:H) :
 A7 PR D85 C R Dd3 Tryz.f223 100000 true E41 [(0,.agg ⟨f⟩)] h =
 nw (.cells D2 false f) h fun b w=>gInt .i64 (Addr.add ⟨b,0,none⟩ 0) w fun x=>bnd (cond (decide (x≥1)) (gInt .i64 (Addr.add ⟨b,0,none⟩ 0) w fun x_1=>some (decide (x_1≤3),w)) (some (false,w))) fun c w1=>bnd (cond c (gInt .i64 (Addr.add ⟨b,0,none⟩ 1) w1 fun x_2=>some (decide (x_2≥0),w1)) (some (false,w1))) fun c_1 w2=>bnd (cond c_1 (gInt .i64 (Addr.add ⟨b,0,none⟩ 1) w2 fun x_3=>some (decide (x_3≤7),w2)) (some (false,w2))) fun c_2 w3=>bnd (cond c_2 (gInt .i64 (Addr.add ⟨b,0,none⟩ 0) w3 fun x_4=>bnd (cond (x_4 != 3) (some (true,w3)) (gInt .i64 (Addr.add ⟨b,0,none⟩ 1) w3 fun x_5=>some (x_5==0,w3))) fun c_3 w4=>some (c_3,w4)) (some (false,w3))) fun c_4 w5=>bnd (cond c_4 (gInt .i64 (Addr.add ⟨b,0,none⟩ 2) w5 fun x_6=>some (decide (x_6≥1),w5)) (some (false,w5))) fun c_5 w6=>bnd (cond c_5 (gInt .i64 (Addr.add ⟨b,0,none⟩ 2) w6 fun x_7=>some (decide (x_7≤64),w6)) (some (false,w6))) fun c_6 w7=>bnd (cond c_6 (gInt .i64 (Addr.add ⟨b,0,none⟩ 3) w7 fun x_8=>bnd (cond (x_8==0) (some (true,w7)) (gInt .i64 (Addr.add ⟨b,0,none⟩ 3) w7 fun x_9=>some (x_9==1,w7))) fun c_7 w8=>some (c_7,w8)) (some (false,w7))) fun c_8 w9=>some (.bool c_8,w9):=by kernel_rfl
def Dk0:Cuts:={ globs:=0,loops:=[],regs:=[],plans:=[] }
def Ek5:List Item:=A6 Tryz.f230
theorem Gt9 (C:A3) (R:A5) (n:Int) (without:Int) (h:H) :
 A7 PR Dk0 C R Aj1 Tryz.f230 100000 true Ek5 [(0,.int .i64 n),(1,.int .i64 without)] h =
 bnd (cond ((Em8 .i64 n 65534)==0) (some ((D0 .i64 n without)==0,h)) (some (false,h))) fun c w=>some (.bool c,w):=by kernel_rfl
end
end Go.EQ
