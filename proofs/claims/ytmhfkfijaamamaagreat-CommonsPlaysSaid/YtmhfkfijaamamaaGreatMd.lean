/- Records are read, set and freed as the document says, among others who write any bytes; what was bad once is bad for ever, for this one. -/
import Derived.Test.YtmhfkfijaamamaaGreatMc
import Derived.Test.YtmhfkfijaamamaaGreatProg
import Derived.KernelRfl
set_option linter.all false
namespace Go.EQ
open Go Go.NN Go.Proofs
noncomputable abbrev PR:Program:=Tryz.prog
abbrev B8:FuncId:=3
abbrev Bb0:FuncId:=4
abbrev Bo0:FuncId:=5
abbrev B02:FuncId:=6
abbrev A38:FuncId:=7
abbrev Y0:FuncId:=8
abbrev D4:FuncId:=9
abbrev Ab7:FuncId:=10
abbrev Ai2:FuncId:=11
abbrev A36:FuncId:=12
abbrev J4:FuncId:=13
abbrev I3:FuncId:=14
abbrev G4:FuncId:=15
abbrev A18:FuncId:=16
abbrev Bz7:FuncId:=17
abbrev Q6:FuncId:=18
abbrev U5:FuncId:=19
abbrev A45:FuncId:=20
abbrev V0:FuncId:=21
abbrev U7:FuncId:=22
abbrev S1:FuncId:=23
abbrev Ad1:FuncId:=24
abbrev Ah6:FuncId:=25
abbrev B92:FuncId:=26
abbrev B76:FuncId:=27
abbrev Ai5:FuncId:=28
abbrev Af7:FuncId:=29
abbrev Am0:FuncId:=30
abbrev Ad2:FuncId:=31
abbrev Aj3:FuncId:=32
abbrev Ac3:FuncId:=33
abbrev Aj4:FuncId:=34
abbrev Af6:FuncId:=35
abbrev Am1:FuncId:=36
abbrev Ad3:FuncId:=37
abbrev Ai8:FuncId:=38
abbrev Ac5:FuncId:=39
abbrev Aj7:FuncId:=40
abbrev Af9:FuncId:=41
abbrev Am2:FuncId:=42
abbrev Ad6:FuncId:=43
abbrev Ah3:FuncId:=44
abbrev Ai1:FuncId:=45
abbrev Af5:FuncId:=46
abbrev Al9:FuncId:=47
abbrev Ae5:FuncId:=48
abbrev Ad9:FuncId:=49
abbrev Aj5:FuncId:=50
abbrev D1:FuncId:=51
abbrev D8:FuncId:=52
abbrev At1:FuncId:=53
abbrev U9:FuncId:=54
abbrev A87:FuncId:=55
abbrev U3:FuncId:=56
abbrev Bi3:FuncId:=57
abbrev Y3:FuncId:=58
abbrev D70:FuncId:=59
abbrev A44:FuncId:=60
abbrev Av5:FuncId:=61
abbrev B97:FuncId:=62
abbrev Dt5:FuncId:=63
abbrev As6:FuncId:=64
abbrev O9:FuncId:=65
abbrev M6:FuncId:=66
abbrev Bf0:FuncId:=67
abbrev Ab2:FuncId:=68
abbrev N8:FuncId:=69
abbrev Aa8:FuncId:=70
abbrev Br5:FuncId:=71
abbrev A42:FuncId:=72
abbrev Bc6:FuncId:=73
abbrev Bd7:FuncId:=74
abbrev As1:FuncId:=75
abbrev Ao8:FuncId:=76
abbrev M9:FuncId:=77
abbrev Y6:FuncId:=78
abbrev A79:FuncId:=79
abbrev A21:FuncId:=80
abbrev Az3:FuncId:=81
abbrev At5:FuncId:=82
abbrev Ev2:FuncId:=83
abbrev E19:FuncId:=84
abbrev Eu5:FuncId:=85
abbrev Ey3:FuncId:=86
abbrev Ga4:FuncId:=87
abbrev D40:FuncId:=88
abbrev Ga8:FuncId:=89
abbrev Gb0:FuncId:=90
abbrev Bh3:FuncId:=91
abbrev L0:FuncId:=92
abbrev Aw5:FuncId:=93
abbrev Aw6:FuncId:=94
abbrev I6:FuncId:=95
abbrev Aq6:FuncId:=96
abbrev U1:FuncId:=97
abbrev Ak2:FuncId:=98
abbrev I0:FuncId:=99
abbrev S6:FuncId:=100
abbrev N6:FuncId:=101
abbrev Z8:FuncId:=102
abbrev Bb9:FuncId:=103
abbrev H1:FuncId:=104
abbrev Z1:FuncId:=105
abbrev M7:FuncId:=106
abbrev Q1:FuncId:=107
abbrev S5:FuncId:=108
abbrev Z7:FuncId:=109
abbrev J8:FuncId:=110
abbrev Aw4:FuncId:=111
abbrev Aw7:FuncId:=112
abbrev Bs4:FuncId:=113
abbrev Bb2:FuncId:=114
abbrev A86:FuncId:=115
abbrev Ar9:FuncId:=116
abbrev Aw8:FuncId:=117
abbrev Ac6:FuncId:=118
abbrev A16:FuncId:=119
abbrev Aa2:FuncId:=120
abbrev G0:FuncId:=121
abbrev Ah9:FuncId:=122
abbrev Bo3:FuncId:=123
abbrev G6:FuncId:=124
abbrev H5:FuncId:=125
abbrev E7:FuncId:=126
abbrev B71:FuncId:=127
abbrev Q0:FuncId:=128
abbrev A88:FuncId:=129
abbrev H9:FuncId:=130
abbrev Ap1:FuncId:=131
abbrev Ai6:FuncId:=132
abbrev Ax4:FuncId:=133
abbrev Ab1:FuncId:=134
abbrev Ak5:FuncId:=135
abbrev Am9:FuncId:=136
abbrev Be8:FuncId:=137
abbrev G3:FuncId:=138
abbrev Aj6:FuncId:=139
abbrev Ae9:FuncId:=140
abbrev Ad0:FuncId:=141
abbrev Ap6:FuncId:=142
abbrev A34:FuncId:=143
abbrev Ev3:FuncId:=144
abbrev Az6:FuncId:=145
abbrev A27:FuncId:=146
abbrev A76:FuncId:=147
abbrev A82:FuncId:=148
abbrev Aj9:FuncId:=149
abbrev Be0:FuncId:=150
abbrev S9:FuncId:=157
abbrev O5:FuncId:=158
abbrev Ar5:FuncId:=159
abbrev Bh4:FuncId:=160
abbrev W8:FuncId:=161
abbrev Bn6:FuncId:=162
abbrev W4:FuncId:=163
abbrev W2:FuncId:=164
abbrev L9:FuncId:=165
abbrev Ac2:FuncId:=166
abbrev W3:FuncId:=167
abbrev S4:FuncId:=168
abbrev Q2:FuncId:=169
abbrev Ah8:FuncId:=170
abbrev Bd8:FuncId:=171
abbrev Bh5:FuncId:=172
abbrev W5:FuncId:=173
abbrev W6:FuncId:=174
abbrev Ae3:FuncId:=175
abbrev W9:FuncId:=176
abbrev Ba5:FuncId:=177
abbrev Bl2:FuncId:=178
abbrev Ac4:FuncId:=179
abbrev E0:FuncId:=180
abbrev I5:FuncId:=181
abbrev Y2:FuncId:=182
abbrev N7:FuncId:=183
abbrev Ac8:FuncId:=184
abbrev Bk8:FuncId:=185
abbrev Ay6:FuncId:=186
abbrev Am8:FuncId:=189
abbrev A41:FuncId:=190
abbrev Ax6:FuncId:=191
abbrev B7:FuncId:=192
abbrev A78:FuncId:=193
abbrev Bd0:FuncId:=194
abbrev R0:FuncId:=197
abbrev Aj2:FuncId:=198
abbrev As9:FuncId:=199
abbrev O3:FuncId:=200
abbrev Z0:FuncId:=201
abbrev At9:FuncId:=202
abbrev Br8:FuncId:=203
abbrev Bt1:FuncId:=204
abbrev At2:FuncId:=205
abbrev Av4:FuncId:=206
abbrev Av9:FuncId:=207
abbrev Ag4:FuncId:=208
abbrev Ah5:FuncId:=211
abbrev A85:FuncId:=212
abbrev G2:FuncId:=213
abbrev Dt2:FuncId:=214
abbrev Bn8:FuncId:=215
abbrev B61:FuncId:=216
abbrev D2:FuncId:=217
abbrev D59:FuncId:=218
abbrev Dt9:FuncId:=219
abbrev Ap3:FuncId:=222
abbrev Bn4:FuncId:=223
abbrev Av7:FuncId:=224
abbrev B2:TypeId:=3
abbrev Gm1:TypeId:=4
abbrev A2:TypeId:=5
abbrev Dw9:TypeId:=22
abbrev Dz2:TypeId:=29
abbrev B83:TypeId:=32
abbrev L6:TypeId:=35
abbrev Ig0:TypeId:=36
abbrev Gu2:TypeId:=37
abbrev B6:TypeId:=39
abbrev D7:TypeId:=41
abbrev B3:TypeId:=44
abbrev A37:TypeId:=46
abbrev B95:TypeId:=52
abbrev E3:TypeId:=62
abbrev Gd4:TypeId:=67
abbrev Ey2:TypeId:=78
abbrev Be5:TypeId:=81
abbrev B68:TypeId:=86
abbrev A6:TypeId:=106
abbrev Dq3:TypeId:=110
abbrev Dj2:TypeId:=116
abbrev Dx3:TypeId:=119
abbrev A19:TypeId:=122
abbrev Ec4:TypeId:=125
abbrev I9:TypeId:=127
abbrev A15:TypeId:=134
abbrev O8:TypeId:=143
abbrev Bh9:TypeId:=146
abbrev E40:TypeId:=199
abbrev Ax0:TypeId:=204
abbrev H0:TypeId:=205
abbrev A13:TypeId:=208
abbrev Gd9:TypeId:=210
abbrev E03:TypeId:=214
abbrev E29:TypeId:=218
abbrev Ba4:TypeId:=219
abbrev By3:TypeId:=221
abbrev Gd3:TypeId:=223
abbrev Gx0:TypeId:=254
abbrev Bm5:TypeId:=256
abbrev B46:TypeId:=269
abbrev Ap8:TypeId:=271
abbrev E28:TypeId:=275
abbrev Bo8:TypeId:=277
abbrev By2:TypeId:=292
abbrev Bz2:TypeId:=296
abbrev An9:TypeId:=300
abbrev Iv1:TypeId:=310
noncomputable abbrev iI (n:Int):Value:=.int .i64 n
noncomputable abbrev pP (b:Nat):Value:=.pointer (some ⟨b,0,none⟩)
noncomputable abbrev xQ (c:Cuts) (C:D6) (R:Ab3) (f:FuncId) (fn:Func) (T:List Item) (s:B4) (h:H):Option (Value × H):=W0 PR c C R f fn 100000 true T s h
theorem kR {α:Type} {a b:α} (h:a=b:=by kernel_rfl):a=b:=h
noncomputable abbrev zZ1:List Value:=[.int .i64 0,.int .i64 0,.int .i64 0,.int .i64 0,.int .i64 0,.int .i64 0,.int .i64 0,.int .i64 0,.int .i64 0,.int .i64 0,.int .i64 0,.int .i64 0,.int .i64 0,.int .i64 0,.int .i64 0,.int .i64 0]
noncomputable abbrev zZ2:List Value:=[.int .i64 0,.int .i64 0,.int .i64 0,.int .i64 0,.int .u8 0,.int .u8 0,.int .u8 0,.int .u8 0,.int .u8 0,.int .u8 0,.int .u8 0,.int .u8 0,.int .u8 0,.int .u8 0,.int .u8 0,.int .u8 0,.int .u8 0,.int .u8 0,.int .u8 0,.int .u8 0,.int .u8 0,.int .u8 0,.int .u8 0,.int .u8 0,.int .u8 0,.int .u8 0,.int .u8 0,.int .u8 0,.int .u8 0,.int .u8 0,.int .u8 0,.int .u8 0,.int .u8 0,.int .u8 0,.int .u8 0,.int .u8 0]
end Go.EQ

set_option maxRecDepth 100000
namespace Go.EQ
open Go Go.NN Go.Proofs
open Go.IntKind (wrap)
open Go.Addr (add)
variable (C:D6) (R:Ab3) (p random x2:Addr) (b:ByteArray) (h:H) (a atv e env envs i idx isv kind lease length modulus n name obj size v who x:Int) (f r:List Value) (bc bn datac datan lc ln outc outn sc sn:Nat) (c data k l m out s wv:Option Addr) (cmp decode:Value)
noncomputable section
def Ds5:Cuts:=⟨0,[],[(4,[0,1,2,3,9,11,12,13])],[(1,⟨[0,1,3,4,6,7,8,9,11,12,13,2,5,10,14,15,16],[0,1,3,0,8,31,0,64,0,256,1023,0,0,0,16383,32767,65535],[(2,[4,7,9]),(5,[7,9])],[]⟩),(3,⟨[0,1,2,3,4,5,6,7,8],[0,1,0,4,0,16,3,79,255],[(6,[3,5]),(7,[5])],[]⟩),(10,⟨[0,1,2,3,5,6,7,8,4,9,10,11],[0,0,2,0,15,0,0,64,0,511,1023,2047],[(4,[7,8])],[]⟩),(12,⟨[0,1,2,4,5,6,3,7,8,9],[0,0,2,7,0,0,32,127,255,511],[(3,[6])],[]⟩),(18,⟨[0,1,2,3,5,6,7,8,4,9,10,11],[0,0,2,0,15,0,0,64,0,511,1023,2047],[(4,[7,8])],[]⟩),(20,⟨[0,1,2,4,5,6,3,7,8,9],[0,0,2,7,0,0,32,127,255,511],[(3,[6])],[]⟩),(26,⟨[0,1,2,3,5,6,7,8,4,9,10,11],[0,0,2,0,15,0,0,64,0,511,1023,2047],[(4,[7,8])],[]⟩),(28,⟨[0,1,2,4,5,6,3,7,8,9],[0,0,2,7,0,0,32,127,255,511],[(3,[6])],[]⟩),(34,⟨[0,1,3,4,2,5,6,7],[0,0,3,0,0,31,63,127],[(2,[4])],[]⟩),(40,⟨[0,1,2,4,5,6,3,7,8,9],[0,0,2,7,0,0,32,127,255,511],[(3,[6])],[]⟩),(49,⟨[0,3,1,2,4,5,6],[0,1,3,0,11,31,63],[(4,[2])],[]⟩)]⟩
def Ek0:List Item:=A3 Tryz.f7
def B04:List Item:=stk [0,1,0,1,0,1,0,0] Ek0
theorem Hz1 (o:List Value) :
 xQ Ds5 C R A38 Tryz.f7 Ek0 [(0,.pointer k),(1,.pointer c),(2,.pointer wv),(3,.pointer m),(4,.agg ⟨o⟩)] h =
 nw (.cells A37 false o) h fun b w=>gSl ⟨b,3,none⟩ w fun x xn xc=>gInt .i64 ⟨b,2,none⟩ w fun z1=>gInt .i64 ⟨b,2,none⟩ w fun z2=>gSl ⟨b,4,none⟩ w fun z3 xn_1 xc_1=>nw (.cells B6 false zZ1) w fun p1 w1=>nw (.cells D7 false [iI 0,iI 0,iI 0,iI 0]) w1 fun p2 w2=>nw (.cells B3 false zZ2) w2 fun p3 w3=>bnd (C Ah6 [.slice x xn xc] w3) fun r w4=>aAgg r fun z4=>gInt .i64 ⟨b,2,none⟩ w4 fun z5=>same (iI z1) (iI z5) (gInt .i64 ⟨b,2,none⟩ w4 fun z6=>same (iI z2) (iI z6) (gSl ⟨b,4,none⟩ w4 fun z7 xn_2 xc_2=>same (.slice z3 xn_1 xc_1) (.slice z7 xn_2 xc_2) (bnd (C B92 [iI z1] w4) fun q1 w5=>aAgg q1 fun z8=>gInt .i64 ⟨b,2,none⟩ w5 fun z9=>same (iI z2) (iI z9) (gSl ⟨b,4,none⟩ w5 fun z10 xn_3 xc_3=>same (.slice z3 xn_1 xc_1) (.slice z10 xn_3 xc_3) (bnd (C B76 [iI z2,.slice z3 xn_1 xc_1] w5) fun q2 w6=>aAgg q2 fun z11=>ck (List.length z4=16) (pAgg ⟨p1,0,none⟩ z4 w6 fun w7=>ck (List.length z8=4) (pAgg ⟨p2,0,none⟩ z8 w7 fun w8=>ck (List.length z11=36) (pAgg ⟨p3,0,none⟩ z11 w8 fun w9=>gBool ⟨b,61,none⟩ w9 fun z12=>cond z12
 (gAgg ⟨b,5,none⟩ 16 w9 fun z13=>gAgg ⟨b,21,none⟩ 4 w9 fun z14=>gAgg ⟨b,25,none⟩ 36 w9 fun z15=>ck (List.length z13=16) (pAgg ⟨p1,0,none⟩ z13 w9 fun w10=>gAgg ⟨b,21,none⟩ 4 w10 fun z16=>same (.agg ⟨z14⟩) (.agg ⟨z16⟩) (gAgg ⟨b,25,none⟩ 36 w10 fun z17=>same (.agg ⟨z15⟩) (.agg ⟨z17⟩) (ck (List.length z14=4) (pAgg ⟨p2,0,none⟩ z14 w10 fun w11=>gAgg ⟨b,25,none⟩ 36 w11 fun z18=>same (.agg ⟨z15⟩) (.agg ⟨z18⟩) (ck (List.length z15=36) (pAgg ⟨p3,0,none⟩ z15 w11 fun w12=>R A38 B04 [(0,.pointer k),(1,.pointer c),(2,.pointer wv),(3,.pointer m),(9,pP b),(11,pP p1),(12,pP p2),(13,pP p3)] w12)))))))
 (R A38 B04 [(0,.pointer k),(1,.pointer c),(2,.pointer wv),(3,.pointer m),(9,pP b),(11,pP p1),(12,pP p2),(13,pP p3)] w9))))))))):=kR
theorem G56 (o:Addr) (f:Addr) (q:Addr) :
 xQ Ds5 C R A38 Tryz.f7 B04 [(0,.pointer k),(1,.pointer c),(2,.pointer wv),(3,.pointer m),(9,.pointer (some o)),(11,.pointer (some p)),(12,.pointer (some f)),(13,.pointer (some q))] h =
 gInt .i64 (add o 0) h fun x=>cond (x==0)
 (gInt .i64 (add o 1) h fun z1=>bnd (C V0 [.pointer c,iI z1] h) fun r w=>as2 r fun q1 q2=>aAgg q1 fun z2=>aInt .i64 q2 fun z3=>nw (.cells B6 false zZ1) w fun b w1=>ck (List.length z2=16) (pAgg ⟨b,0,none⟩ z2 w1 fun w2=>gInt .i64 (add o 1) w2 fun z4=>bnd (C Ai5 [.pointer m,iI z4] w2) fun q3 w3=>as2 q3 fun q4 q5=>aAgg q4 fun z5=>aInt .i64 q5 fun z6=>nw (.cells B6 false zZ1) w3 fun p1 w4=>ck (List.length z5=16) (pAgg ⟨p1,0,none⟩ z5 w4 fun w5=>gAgg ⟨b,0,none⟩ 16 w5 fun z7=>gAgg ⟨p1,0,none⟩ 16 w5 fun z8=>Af8 PR B6 z7 z8 fun eq=>bnd (cond eq (some (z3==z6,w5)) (some (false,w5))) fun c_1 w6=>some (.bool c_1,w6))))
 (cond (x==1)
 (gInt .i64 (add o 1) h fun z9=>gAgg p 16 h fun z10=>gInt .i64 (add o 1) h fun z11=>gAgg p 16 h fun z12=>bnd (C Af7 [.pointer c,iI z9,.agg ⟨z10⟩] h) fun q6 w7=>aBool q6 fun z13=>gInt .i64 (add o 1) w7 fun z14=>same (iI z11) (iI z14) (gAgg p 16 w7 fun z15=>same (.agg ⟨z12⟩) (.agg ⟨z15⟩) (bnd (C Am0 [.pointer m,iI z11,.agg ⟨z12⟩] w7) fun q7 w8=>aBool q7 fun z16=>some (.bool (z13==z16),w8))))
 (cond (x==2)
 (gInt .i64 (add o 1) h fun z17=>gInt .i64 (add o 1) h fun z18=>bnd (C Ad2 [.pointer c,iI z17] h) fun q8 w9=>aBool q8 fun z19=>gInt .i64 (add o 1) w9 fun z20=>same (iI z18) (iI z20) (bnd (C Aj3 [.pointer m,iI z18] w9) fun q9 w10=>aBool q9 fun z21=>some (.bool (z19==z21),w10)))
 (cond (x==3)
 (gInt .i64 (add o 1) h fun z22=>bnd (C Ac3 [.pointer c,iI z22] h) fun q10 w11=>as2 q10 fun q11 q12=>aAgg q11 fun z23=>aInt .i64 q12 fun z24=>nw (.cells D7 false [iI 0,iI 0,iI 0,iI 0]) w11 fun p2 w12=>ck (List.length z23=4) (pAgg ⟨p2,0,none⟩ z23 w12 fun w13=>gInt .i64 (add o 1) w13 fun z25=>bnd (C Aj4 [.pointer m,iI z25] w13) fun q13 w14=>as2 q13 fun q14 q15=>aAgg q14 fun z26=>aInt .i64 q15 fun z27=>nw (.cells D7 false [iI 0,iI 0,iI 0,iI 0]) w14 fun p3 w15=>ck (List.length z26=4) (pAgg ⟨p3,0,none⟩ z26 w15 fun w16=>gAgg ⟨p2,0,none⟩ 4 w16 fun z28=>gAgg ⟨p3,0,none⟩ 4 w16 fun z29=>Af8 PR D7 z28 z29 fun eq_1=>bnd (cond eq_1 (some (z24==z27,w16)) (some (false,w16))) fun c_2 w17=>some (.bool c_2,w17))))
 (cond (x==4)
 (gInt .i64 (add o 1) h fun z30=>gAgg f 4 h fun z31=>gInt .i64 (add o 1) h fun z32=>gAgg f 4 h fun z33=>bnd (C Af6 [.pointer c,iI z30,.agg ⟨z31⟩] h) fun q16 w18=>aBool q16 fun z34=>gInt .i64 (add o 1) w18 fun z35=>same (iI z32) (iI z35) (gAgg f 4 w18 fun z36=>same (.agg ⟨z33⟩) (.agg ⟨z36⟩) (bnd (C Am1 [.pointer m,iI z32,.agg ⟨z33⟩] w18) fun q17 w19=>aBool q17 fun z37=>some (.bool (z34==z37),w19))))
 (cond (x==5)
 (gInt .i64 (add o 1) h fun z38=>gInt .i64 (add o 1) h fun z39=>bnd (C Ad3 [.pointer c,iI z38] h) fun q18 w20=>aBool q18 fun z40=>gInt .i64 (add o 1) w20 fun z41=>same (iI z39) (iI z41) (bnd (C Ai8 [.pointer m,iI z39] w20) fun q19 w21=>aBool q19 fun z42=>some (.bool (z40==z42),w21)))
 (cond (x==6)
 (gInt .i64 (add o 1) h fun z43=>bnd (C Ac5 [.pointer c,iI z43] h) fun q20 w22=>as2 q20 fun q21 q22=>aAgg q21 fun z44=>aInt .i64 q22 fun z45=>nw (.cells B3 false zZ2) w22 fun p4 w23=>ck (List.length z44=36) (pAgg ⟨p4,0,none⟩ z44 w23 fun w24=>gInt .i64 (add o 1) w24 fun z46=>bnd (C Aj7 [.pointer m,iI z46] w24) fun q23 w25=>as2 q23 fun q24 q25=>aAgg q24 fun z47=>aInt .i64 q25 fun z48=>nw (.cells B3 false zZ2) w25 fun p5 w26=>ck (List.length z47=36) (pAgg ⟨p5,0,none⟩ z47 w26 fun w27=>gAgg ⟨p4,0,none⟩ 36 w27 fun z49=>gAgg ⟨p5,0,none⟩ 36 w27 fun z50=>Af8 PR B3 z49 z50 fun eq_2=>bnd (cond eq_2 (some (z45==z48,w27)) (some (false,w27))) fun c_3 w28=>some (.bool c_3,w28))))
 (cond (x==7)
 (gInt .i64 (add o 1) h fun z51=>gAgg q 36 h fun z52=>gInt .i64 (add o 1) h fun z53=>gAgg q 36 h fun z54=>bnd (C Af9 [.pointer c,iI z51,.agg ⟨z52⟩] h) fun q26 w29=>aBool q26 fun z55=>gInt .i64 (add o 1) w29 fun z56=>same (iI z53) (iI z56) (gAgg q 36 w29 fun z57=>same (.agg ⟨z54⟩) (.agg ⟨z57⟩) (bnd (C Am2 [.pointer m,iI z53,.agg ⟨z54⟩] w29) fun q27 w30=>aBool q27 fun z58=>some (.bool (z55==z58),w30))))
 (cond (x==8)
 (gInt .i64 (add o 1) h fun z59=>gInt .i64 (add o 1) h fun z60=>bnd (C Ad6 [.pointer c,iI z59] h) fun q28 w31=>aBool q28 fun z61=>gInt .i64 (add o 1) w31 fun z62=>same (iI z60) (iI z62) (bnd (C Ah3 [.pointer m,iI z60] w31) fun q29 w32=>aBool q29 fun z63=>some (.bool (z61==z63),w32)))
 (cond (x==9)
 (bnd (C U7 [.pointer c] h) fun q30 w33=>as2 q30 fun q31 q32=>aAgg q31 fun z64=>aInt .i64 q32 fun z65=>nw (.cells B3 false zZ2) w33 fun p6 w34=>ck (List.length z64=36) (pAgg ⟨p6,0,none⟩ z64 w34 fun w35=>bnd (C Ai1 [.pointer m] w35) fun q33 w36=>as2 q33 fun q34 q35=>aAgg q34 fun z66=>aInt .i64 q35 fun z67=>nw (.cells B3 false zZ2) w36 fun p7 w37=>ck (List.length z66=36) (pAgg ⟨p7,0,none⟩ z66 w37 fun w38=>gAgg ⟨p6,0,none⟩ 36 w38 fun z68=>gAgg ⟨p7,0,none⟩ 36 w38 fun z69=>Af8 PR B3 z68 z69 fun eq_3=>bnd (cond eq_3 (some (z65==z67,w38)) (some (false,w38))) fun c_4 w39=>some (.bool c_4,w39))))
 (cond (x==10)
 (gAgg q 36 h fun z70=>gAgg q 36 h fun z71=>bnd (C Af5 [.pointer c,.agg ⟨z70⟩] h) fun q36 w40=>aBool q36 fun z72=>gAgg q 36 w40 fun z73=>same (.agg ⟨z71⟩) (.agg ⟨z73⟩) (bnd (C Al9 [.pointer m,.agg ⟨z71⟩] w40) fun q37 w41=>aBool q37 fun z74=>some (.bool (z72==z74),w41)))
 (cond (x==11)
 (bnd (C S1 [.pointer c] h) fun q38 w42=>as2 q38 fun q39 q40=>aInt .i64 q39 fun z75=>aBool q40 fun z76=>bnd (C Ae5 [.pointer m] w42) fun q41 w43=>as2 q41 fun q42 q43=>aInt .i64 q42 fun z77=>aBool q43 fun z78=>bnd (cond (z75==z77) (some (z76==z78,w43)) (some (false,w43))) fun c_5 w44=>some (.bool c_5,w44))
 (cond (x==12)
 (gInt .i64 (add o 1) h fun z79=>gInt .i64 (add o 1) h fun z80=>bnd (C Ad9 [.pointer c,iI z79] h) fun q44 w45=>aBool q44 fun z81=>gInt .i64 (add o 1) w45 fun z82=>same (iI z80) (iI z82) (bnd (C Aj5 [.pointer m,iI z80] w45) fun q45 w46=>aBool q45 fun z83=>some (.bool (z81==z83),w46)))
 (cond (x==15)
 (bnd (C D1 [.pointer c] h) fun q46 w47=>as0 q46 (bnd (C D8 [.pointer m] w47) fun q47 w48=>as0 q47 (some (.bool true,w48))))
 (cond (x==13)
 (gInt .i64 (add o 1) h fun z84=>gInt .i64 (add o 2) h fun z85=>gSl (add o 4) h fun z86 xn xc=>nw (.cells Be5 false [iI 0,iI 0,iI 0,iI 0,iI 0,iI 0,.slice none 0 0]) h fun p8 w49=>pAgg ⟨p8,0,none⟩ [iI 2,iI (wrap .i64 (256+(B5 .i64 z84 3))),iI z85,iI 0,iI 0,iI 0,.slice z86 xn xc] w49 fun w50=>gAgg ⟨p8,0,none⟩ 7 w50 fun z87=>bnd (C U5 [.pointer wv,iI 1,.agg ⟨z87⟩] w50) fun q48 w51=>as3 q48 fun q49 q50 q51=>aInt .i64 q49 fun z88=>aInt .i64 q50 fun _=>aStr q51 fun _=>gAgg ⟨p8,0,none⟩ 7 w51 fun z91=>bnd (C Q6 [.pointer k,iI 1,.agg ⟨z91⟩] w51) fun q52 w52=>aAgg q52 fun z92=>nth z92 0 fun E=>aInt .i64 E fun E_1=>some (.bool (E_1==z88),w52))
 (bnd (C Ad1 [.pointer c] h) fun q53 w53=>aSl q53 fun z93 xn_1 _=>gCells z93 xn_1 w53 fun cs=>asBytes cs fun l=>bnd (C At1 [.pointer m] w53) fun q54 w54=>aStr q54 fun z94=>gCells z93 xn_1 w54 fun cs_1=>asBytes cs_1 fun l_1=>same (.string (ByteArray.mk ⟨l⟩)) (.string (ByteArray.mk ⟨l_1⟩)) (some (.bool ((ByteArray.mk ⟨l⟩).toList==z94.toList),w54))))))))))))))))):=kR
def Ae6:Cuts:=⟨0,[(3,[0,3,4]),(6,[0,3,4,13,14])],[],[(9,⟨[0,1,2,3,4,5,6],[0,1,3,7,0,31,63],[],[]⟩)]⟩
def Aq0:List Item:=A3 Tryz.f9
def Y4:List Item:=stk [0,1,0,1,0,0,1,4,5] Aq0
def Y1:List Item:=stk [0,1,0,1,0,0,1,4,5,6,0,1,0,4,0,1,4,5] Aq0
theorem Ee2 :
 xQ Ae6 C R D4 Tryz.f9 Aq0 [(0,.pointer c)] h =
 R D4 Y4 [(0,.pointer c),(3,.slice none 0 0),(4,iI 1)] h:=kR
theorem Bn5 :
 xQ Ae6 C R D4 Tryz.f9 Y4 [(0,.pointer c),(3,.slice out outn outc),(4,iI kind)] h =
 cond (decide (kind≤5))
 (bnd (C U9 [.pointer c,iI kind] h) fun r w=>aInt .i64 r fun x=>R D4 Y1 [(0,.pointer c),(3,.slice out outn outc),(4,iI kind),(13,iI x),(14,iI 0)] w)
 (some (.slice out outn outc,h)):=kR
theorem Bp4 (x13:Int) (x14:Int) :
 xQ Ae6 C R D4 Tryz.f9 Y1 [(0,.pointer c),(3,.slice out outn outc),(4,iI kind),(13,iI x13),(14,iI x14)] h =
 cond (decide (x14<x13))
 (nw (.cells A6 false [iI 0,iI 0]) h fun b w=>pAgg ⟨b,0,none⟩ [iI kind,iI x14] w fun w1=>aSome c fun p=>gMap (add p 3) w1 fun x=>gAgg ⟨b,0,none⟩ 2 w1 fun z1=>keyN PR A6 (.agg ⟨z1⟩) (opt x fun r=>mapAt w1 r fun es _=>opt (Ao1 (iI 0) (.agg ⟨z1⟩) es) fun f=>aInt .i64 f.1 fun z2=>cond (decide (z2>0))
 (gAgg ⟨b,0,none⟩ 2 w1 fun z3=>ck (List.length z3=2) (nw (.cells A6 false (z3++[])) w1 fun p1 w2=>gCells (some ⟨p1,0,none⟩) (1*2) w2 fun cs=>ckB (fitsOpen out A6 w2) (apd A6 2 out outn outc 1 cs w2 fun a an ac w3=>R D4 Y1 [(0,.pointer c),(3,.slice a an ac),(4,iI kind),(13,iI x13),(14,iI (wrap .i64 (x14+1)))] w3)))
 (R D4 Y1 [(0,.pointer c),(3,.slice out outn outc),(4,iI kind),(13,iI x13),(14,iI (wrap .i64 (x14+1)))] w1)))
 (R D4 Y4 [(0,.pointer c),(3,.slice out outn outc),(4,iI (wrap .i64 (kind+1)))] h):=kR
def Bf4:Cuts:=⟨0,[],[],[(3,⟨[0,1,2,3,4,5,6,7,8,9,10,11,12,13,14,15,16,17,18,19,20,21,22,23,24],[0,1,3,7,0,16,48,112,0,496,1008,2032,0,4096,12288,28672,0,126976,258048,520192,1048575,2097151,2097151,8388607,16777215],[],[]⟩)]⟩
def B59:List Item:=A3 Tryz.f11
theorem El6 (r:Option Addr) :
 xQ Bf4 C R Ai2 Tryz.f11 B59 [(0,.pointer r),(1,iI obj)] h =
 bnd (cond (decide (obj<0)) (some (true,h)) (aSome r fun p=>gSl (add p 2) h fun _ xn _=>some (decide (obj≥(xn:Int)),h))) fun c w=>cond c
 (some (.tuple ⟨[.slice none 0 0,iI 1]⟩,w))
 (aSome r fun p_1=>gPtr (add p_1 0) w fun z1=>aSome r fun p_2=>gSl (add p_2 2) w fun z2 xn_1 _=>aSome z2 fun p_3=>ck ((0:Int)≤obj∧obj<(xn_1:Int)) (gInt .i64 (add (add (B1 p_3) (Int.toNat obj*2)) 0) w fun z3=>aSome r fun p_4=>gSl (add p_4 2) w fun z4 xn_2 _=>aSome z4 fun p_5=>ck ((0:Int)≤obj∧obj<(xn_2:Int)) (gInt .i64 (add (add (B1 p_5) (Int.toNat obj*2)) 1) w fun z5=>bnd (C A87 [.pointer z1,iI z3,iI z5] w) fun q1 w1=>as2 q1 fun q2 q3=>aSl q2 fun z6 xn_3 xc_3=>aInt .i64 q3 fun z7=>some (.tuple ⟨[.slice z6 xn_3 xc_3,iI z7]⟩,w1)))):=kR
def Bn2:Cuts:=⟨0,[],[],[(3,⟨[0,1,2,3,4,5,6,7,8,9,10,11,12,13,14,15,16,17,18,19,20,21,22,23,24,25,26,27,28,29],[0,1,3,7,0,16,48,112,0,496,1008,0,2048,6144,14336,0,63488,129024,0,262144,786432,1835008,0,8126464,16515072,33552384,67108863,134217727,268435455,536870911],[],[]⟩)]⟩
def Dl0:List Item:=A3 Tryz.f12
theorem E50 (r:Option Addr) :
 xQ Bn2 C R A36 Tryz.f12 Dl0 [(0,.pointer r),(1,iI obj)] h =
 bnd (cond (decide (obj<0)) (some (true,h)) (aSome r fun p=>gSl (add p 1) h fun _ xn _=>some (decide (obj≥(xn:Int)),h))) fun c w=>cond c
 (some (.tuple ⟨[.string (ByteArray.mk ⟨[]⟩),iI 1]⟩,w))
 (aSome r fun p_1=>gSl (add p_1 0) w fun z1 _ xc_1=>aSome r fun p_2=>gSl (add p_2 1) w fun z2 xn_2 _=>aSome z2 fun p_3=>ck ((0:Int)≤obj∧obj<(xn_2:Int)) (gInt .i64 (add (B1 p_3) (Int.toNat obj*1)) w fun z3=>aSome r fun p_4=>gSl (add p_4 1) w fun z4 xn_3 _=>aSome z4 fun p_5=>ck ((0:Int)≤obj∧obj<(xn_3:Int)) (gInt .i64 (add (B1 p_5) (Int.toNat obj*1)) w fun z5=>aSome r fun p_6=>gSl (add p_6 2) w fun z6 xn_4 _=>aSome z6 fun p_7=>ck ((0:Int)≤obj∧obj<(xn_4:Int)) (gInt .i64 (add (B1 p_7) (Int.toNat obj*1)) w fun z7=>ckB (fitsOpen z1 A2 w) (ck ((0:Int)≤wrap .i64 (z5+z7)∧wrap .i64 (z5+z7)≤(xc_1:Int)) (ck ((0:Int)≤z3∧z3≤((Int.toNat (wrap .i64 (z5+z7)):Nat):Int)) (gCells (G7 z1 (decide (Int.toNat z3<xc_1)) ((Int.toNat z3)*1)) ((Int.toNat (wrap .i64 (z5+z7)))-(Int.toNat z3)) w fun cs=>asBytes cs fun l=>some (.tuple ⟨[.string (ByteArray.mk ⟨l⟩),iI 0]⟩,w)))))))):=kR
def Bb8:Cuts:=⟨0,[(3,[1,2,3,4]),(7,[1,2,3,4,5]),(13,[1,2,3,6])],[],[]⟩
def Bq0:List Item:=A3 Tryz.f13
def Bl6:List Item:=stk [0,1,0,1,0,0,1,4,5] Bq0
def A25:List Item:=stk [0,1,0,1,0,0,1,4,5,6,0,1,0,4,0,1,0,0,1,4,5] Bq0
def Bl4:List Item:=stk [0,1,0,1,0,1,0,0,1,4,5] Bq0
theorem Hj5 (p:List Value) :
 xQ Bb8 C R J4 Tryz.f13 Bq0 [(0,.agg ⟨p⟩)] h =
 nw (.cells B83 false p) h fun b w=>nw (.cells E3 false [.slice none 0 0,.slice none 0 0,.slice none 0 0,iI 0,.slice none 0 0]) w fun p1 w1=>gInt .i64 ⟨b,2,none⟩ w1 fun x=>nw (.cells E3 false [.slice none 0 0,.slice none 0 0,.slice none 0 0,iI 0,.slice none 0 0]) w1 fun p2 w2=>pAgg ⟨p2,0,none⟩ [.slice none 0 0,.slice none 0 0,.slice none 0 0,iI x,.slice none 0 0] w2 fun w3=>R J4 Bl6 [(1,pP b),(2,pP p1),(3,pP p2),(4,iI 0)] w3:=kR
theorem D69 (b:Addr) (s:Int) :
 xQ Bb8 C R J4 Tryz.f13 Bl6 [(1,.pointer (some p)),(2,.pointer (some x2)),(3,.pointer (some b)),(4,iI s)] h =
 gSl (add p 0) h fun _ xn _=>cond (decide (s<(xn:Int)))
 (gSl (add b 0) h fun z1 xn_1 xc_1=>nw (.cells B2 false [iI 20]) h fun p1 w=>gCells (some ⟨p1,0,none⟩) (1*1) w fun cs=>ckB (fitsOpen z1 B2 w) (apd B2 1 z1 xn_1 xc_1 1 cs w fun a an ac w1=>pV (add b 0) (.slice a an ac) w1 fun w2=>R J4 A25 [(1,.pointer (some p)),(2,.pointer (some x2)),(3,.pointer (some b)),(4,iI s),(5,iI 0)] w2))
 (R J4 Bl4 [(1,.pointer (some p)),(2,.pointer (some x2)),(3,.pointer (some b)),(6,iI 0)] h):=kR
theorem D55 (b:Addr) (s:Int) :
 xQ Bb8 C R J4 Tryz.f13 A25 [(1,.pointer (some p)),(2,.pointer (some x2)),(3,.pointer (some b)),(4,iI s),(5,iI i)] h =
 cond (decide (i<9))
 (gSl (add b 1) h fun x xn xc=>nw (.cells B2 false [iI s]) h fun p1 w=>gCells (some ⟨p1,0,none⟩) (1*1) w fun cs=>ckB (fitsOpen x B2 w) (apd B2 1 x xn xc 1 cs w fun a an ac w1=>pV (add b 1) (.slice a an ac) w1 fun w2=>R J4 A25 [(1,.pointer (some p)),(2,.pointer (some x2)),(3,.pointer (some b)),(4,iI s),(5,iI (wrap .i64 (i+1)))] w2))
 (gSl (add b 2) h fun z1 xn_1 xc_1=>nw (.cells B2 false [iI s]) h fun p2 w3=>nw (.cells L6 false [.slice (some ⟨p2,0,none⟩) 1 1]) w3 fun p3 w4=>gCells (some ⟨p3,0,none⟩) (1*1) w4 fun cs_1=>ckB (fitsOpen z1 L6 w4) (apd L6 1 z1 xn_1 xc_1 1 cs_1 w4 fun a_1 an_1 ac_1 w5=>pV (add b 2) (.slice a_1 an_1 ac_1) w5 fun w6=>gSl (add b 4) w6 fun z2 xn_2 xc_2=>nw (.cells B2 false [iI s]) w6 fun p4 w7=>nw (.cells I9 false [iI s,iI 0,iI 0,iI 492,.slice (some ⟨p4,0,none⟩) 1 1]) w7 fun p5 w8=>gCells (some ⟨p5,0,none⟩) (1*5) w8 fun cs_2=>ckB (fitsOpen z2 I9 w8) (apd I9 5 z2 xn_2 xc_2 1 cs_2 w8 fun a_2 an_2 ac_2 w9=>pV (add b 4) (.slice a_2 an_2 ac_2) w9 fun w10=>R J4 Bl6 [(1,.pointer (some p)),(2,.pointer (some x2)),(3,.pointer (some b)),(4,iI (wrap .i64 (s+1)))] w10))):=kR
theorem D64 (b:Addr) :
 xQ Bb8 C R J4 Tryz.f13 Bl4 [(1,.pointer (some p)),(2,.pointer (some x2)),(3,.pointer (some b)),(6,iI i)] h =
 gSl (add p 1) h fun _ xn _=>cond (decide (i<(xn:Int)))
 (gSl (add p 1) h fun z1 xn_1 _=>aSome z1 fun p_1=>ck ((0:Int)≤i∧i<(xn_1:Int)) (gAgg (add (B1 p_1) (Int.toNat i*2)) 2 h fun z2=>nw (.cells B68 false [iI 0,iI 0]) h fun p1 w=>ck (List.length z2=2) (pAgg ⟨p1,0,none⟩ z2 w fun w1=>gSl (add b 4) w1 fun z3 xn_2 xc_2=>gInt .i64 ⟨p1,0,none⟩ w1 fun z4=>gInt .i64 ⟨p1,0,none⟩ w1 fun z5=>gInt .i64 ⟨p1,1,none⟩ w1 fun z6=>nw (.cells B2 false [iI z5,iI z6]) w1 fun p2 w2=>nw (.cells I9 false [iI z4,iI (wrap .i64 (8+i)),iI 0,iI 40,.slice (some ⟨p2,0,none⟩) 2 2]) w2 fun p3 w3=>gCells (some ⟨p3,0,none⟩) (1*5) w3 fun cs=>ckB (fitsOpen z3 I9 w3) (apd I9 5 z3 xn_2 xc_2 1 cs w3 fun a an ac w4=>pV (add b 4) (.slice a an ac) w4 fun w5=>R J4 Bl4 [(1,.pointer (some p)),(2,.pointer (some x2)),(3,.pointer (some b)),(6,iI (wrap .i64 (i+1)))] w5))))
 (gAgg b 5 h fun z7=>ck (List.length z7=5) (pAgg x2 z7 h fun w6=>gAgg x2 5 w6 fun z8=>some (.agg ⟨z8⟩,w6))):=kR
def Dm5:Cuts:=⟨0,[],[],[]⟩
def Es4:List Item:=A3 Tryz.f16
theorem Et4 :
 xQ Dm5 C R A18 Tryz.f16 Es4 [(0,.pointer k),(1,iI env)] h =
 bnd (cond k.isNone (some (true,h)) (bnd (C As1 [.pointer k] h) fun r w=>aPtr r fun x=>bnd (C Ao8 [.pointer x,iI env] w) fun q1 w1=>aSl q1 fun _ xn _=>some ((xn:Int)==0,w1))) fun c w2=>cond c
 (some (.tuple ⟨[.pointer none,iI 1]⟩,w2))
 (bnd (C As1 [.pointer k] w2) fun q2 w3=>aPtr q2 fun z2=>bnd (C Ao8 [.pointer z2,iI env] w3) fun q3 w4=>aSl q3 fun z3 xn_1 xc_1=>nw (.map [] 0) w4 fun b w5=>nw (.cells Dq3 false [.pointer k,iI env,.slice z3 xn_1 xc_1,.map (some b)]) w5 fun p1 w6=>some (.tuple ⟨[pP p1,iI 0]⟩,w6)):=kR
def Df5:Cuts:=⟨0,[],[],[(7,⟨[0,1,2,3,4,5,6,7,8,9,10,11,12,13,14,15,16],[0,1,3,7,0,0,32,0,128,0,512,2047,4095,8191,8191,16383,65535],[],[]⟩),(9,⟨[0,1,2,3,4,5,6,7,8,9,10,11,12,13],[0,1,3,7,0,0,32,0,128,0,512,1536,4095,8191],[],[]⟩),(11,⟨[0,1,2,3,4,5,6,7,8,9,10,11,12,13,14,15,16],[0,1,3,7,0,0,32,0,128,0,512,0,2048,0,8192,32767,65535],[],[]⟩),(13,⟨[0,1,2,3,4,5,6,7,8,9,10,11,12,13,14,15,16,17,18,19,20,21,22,23],[0,1,3,7,15,31,63,0,0,256,0,1024,0,4096,0,16384,0,65536,262143,524287,1048575,1048575,2097151,8388607],[],[]⟩),(15,⟨[0,1,2,3,4,5,6,7,8,9,10,11,12,13,14,15],[0,1,3,7,15,31,63,0,0,256,1023,2047,4095,4095,8191,32767],[],[]⟩),(17,⟨[0,1,2,3,4,5,6,7,8,9,10,11,12,13,14,15,16,17],[0,1,3,7,0,16,48,112,240,0,1008,2032,4095,8191,16383,16383,32767,131071],[],[]⟩),(19,⟨[0,1,2,3,4,5,6,7,8,9,10,11,12,13,14,15],[0,1,3,7,0,16,48,112,240,0,1008,2032,0,4096,16383,32767],[],[]⟩),(23,⟨[0,1,2,3,4,5,6,7,8,9,10,11,12,13,14,15,16,17],[0,1,3,7,0,16,63,127,0,0,512,1536,3584,8191,16383,32767,32767,65535],[],[]⟩),(27,⟨[0,1,2,3,4,5,6,7,8,9,10,11,12,13,14,15,16,17,18],[0,0,0,4,15,31,63,127,255,511,63,1087,4095,8191,63,63,32831,131071,262143],[],[]⟩)]⟩
def Ee3:List Item:=A3 Tryz.f19
theorem Eg8 (c:List Value) :
 xQ Df5 C R U5 Tryz.f19 Ee3 [(0,.pointer k),(1,iI e),(2,.agg ⟨c⟩)] h =
 nw (.cells Be5 false c) h fun b w=>bnd (cond (decide (e<0)) (some (true,w)) (aSome k fun p=>gSl (add (add p 0) 1) w fun _ xn _=>some (decide (e≥(xn:Int)),w))) fun c_1 w1=>cond c_1
 (some (.tuple ⟨[iI 1,iI 0,.string (ByteArray.mk ⟨[]⟩)]⟩,w1))
 (gInt .i64 ⟨b,0,none⟩ w1 fun z1=>cond (z1==1)
 (aSome k fun p_1=>gPtr (add p_1 6) w1 fun z2=>gInt .i64 ⟨b,1,none⟩ w1 fun z3=>gInt .i64 ⟨b,2,none⟩ w1 fun z4=>gInt .i64 ⟨b,3,none⟩ w1 fun z5=>bnd (C Az3 [.pointer z2,iI e,iI z3,iI z4,iI z5] w1) fun r w2=>as2 r fun q1 q2=>aStr q1 fun z6=>aInt .i64 q2 fun z7=>some (.tuple ⟨[iI z7,iI 0,.string z6]⟩,w2))
 (cond (z1==2)
 (aSome k fun p_2=>gPtr (add p_2 6) w1 fun z8=>gInt .i64 ⟨b,1,none⟩ w1 fun z9=>gInt .i64 ⟨b,2,none⟩ w1 fun z10=>gSl ⟨b,6,none⟩ w1 fun z11 xn_1 _=>gCells z11 xn_1 w1 fun cs=>asBytes cs fun l=>bnd (C At5 [.pointer z8,iI e,iI z9,iI z10,.string (ByteArray.mk ⟨l⟩)] w1) fun q3 w3=>aInt .i64 q3 fun z12=>some (.tuple ⟨[iI z12,iI 0,.string (ByteArray.mk ⟨[]⟩)]⟩,w3))
 (cond (z1==3)
 (aSome k fun p_3=>gPtr (add p_3 6) w1 fun z13=>gInt .i64 ⟨b,1,none⟩ w1 fun z14=>gInt .i64 ⟨b,2,none⟩ w1 fun z15=>gInt .i64 ⟨b,4,none⟩ w1 fun z16=>gInt .i64 ⟨b,5,none⟩ w1 fun z17=>gInt .i64 ⟨b,3,none⟩ w1 fun z18=>bnd (C Ev2 [.pointer z13,iI e,iI z14,iI z15,iI z16,iI z17,iI z18] w1) fun q4 w4=>aInt .i64 q4 fun z19=>some (.tuple ⟨[iI z19,iI 0,.string (ByteArray.mk ⟨[]⟩)]⟩,w4))
 (cond (z1==4)
 (aSome k fun p_4=>gPtr (add p_4 6) w1 fun z20=>aSome z20 fun p_5=>gPtr (add p_5 3) w1 fun z21=>gInt .i64 ⟨b,1,none⟩ w1 fun z22=>gInt .i64 ⟨b,4,none⟩ w1 fun z23=>gInt .i64 ⟨b,5,none⟩ w1 fun z24=>gInt .i64 ⟨b,2,none⟩ w1 fun z25=>gInt .i64 ⟨b,3,none⟩ w1 fun z26=>bnd (C E19 [.pointer z21,iI e,iI z22,iI z23,iI z24,iI z25,iI z26] w1) fun q5 w5=>as2 q5 fun q6 q7=>aInt .i64 q6 fun z27=>aInt .i64 q7 fun z28=>some (.tuple ⟨[iI z28,iI z27,.string (ByteArray.mk ⟨[]⟩)]⟩,w5))
 (cond (z1==5)
 (aSome k fun p_6=>gPtr (add p_6 6) w1 fun z29=>aSome z29 fun p_7=>gPtr (add p_7 3) w1 fun z30=>gInt .i64 ⟨b,1,none⟩ w1 fun z31=>bnd (C Eu5 [.pointer z30,iI e,iI z31] w1) fun q8 w6=>as2 q8 fun q9 q10=>aInt .i64 q9 fun z32=>aInt .i64 q10 fun z33=>some (.tuple ⟨[iI z33,iI z32,.string (ByteArray.mk ⟨[]⟩)]⟩,w6))
 (cond (z1==6)
 (aSome k fun p_8=>gPtr (add p_8 5) w1 fun z34=>aSome k fun p_9=>gSl (add (add p_9 0) 1) w1 fun z35 xn_2 _=>aSome z35 fun p_10=>ck ((0:Int)≤e∧e<(xn_2:Int)) (gInt .i64 (add (B1 p_10) (Int.toNat e*1)) w1 fun z36=>bnd (C Ey3 [.pointer z34,iI z36] w1) fun q11 w7=>as2 q11 fun q12 q13=>aInt .i64 q12 fun z37=>aInt .i64 q13 fun z38=>some (.tuple ⟨[iI z38,iI z37,.string (ByteArray.mk ⟨[]⟩)]⟩,w7)))
 (cond (z1==7)
 (aSome k fun p_11=>gPtr (add p_11 5) w1 fun z39=>aSome k fun p_12=>gSl (add (add p_12 0) 1) w1 fun z40 xn_3 _=>aSome z40 fun p_13=>ck ((0:Int)≤e∧e<(xn_3:Int)) (gInt .i64 (add (B1 p_13) (Int.toNat e*1)) w1 fun z41=>gInt .i64 ⟨b,3,none⟩ w1 fun z42=>bnd (C Ga4 [.pointer z39,iI z41,iI z42] w1) fun q14 w8=>aInt .i64 q14 fun z43=>some (.tuple ⟨[iI z43,iI 0,.string (ByteArray.mk ⟨[]⟩)]⟩,w8)))
 (cond (z1==8)
 (gInt .i64 ⟨b,3,none⟩ w1 fun z44=>bnd (C D40 [.pointer k,iI e,iI z44] w1) fun q15 w9=>aBool q15 fun z45=>cond z45
 (aSome k fun p_14=>gSl (add p_14 7) w9 fun z46 xn_4 _=>gInt .i64 ⟨b,3,none⟩ w9 fun z47=>aSome z46 fun p_15=>ck ((0:Int)≤z47∧z47<(xn_4:Int)) (gPtr (add (B1 p_15) (Int.toNat z47*1)) w9 fun z48=>aSome k fun p_16=>gInt .i64 (add p_16 8) w9 fun z49=>bnd (C Ga8 [.pointer z48,iI e,iI z49] w9) fun q16 w10=>as2 q16 fun q17 q18=>aInt .i64 q17 fun z50=>aBool q18 fun _=>some (.tuple ⟨[iI 0,iI z50,.string (ByteArray.mk ⟨[]⟩)]⟩,w10)))
 (some (.tuple ⟨[iI 8,iI 0,.string (ByteArray.mk ⟨[]⟩)]⟩,w9)))
 (cond (z1==9)
 (gInt .i64 ⟨b,3,none⟩ w1 fun z52=>bnd (C D40 [.pointer k,iI e,iI z52] w1) fun q19 w11=>aBool q19 fun z53=>bnd (cond z53 (aSome k fun p_17=>gSl (add p_17 7) w11 fun z54 xn_5 _=>gInt .i64 ⟨b,3,none⟩ w11 fun z55=>aSome z54 fun p_18=>ck ((0:Int)≤z55∧z55<(xn_5:Int)) (gPtr (add (B1 p_18) (Int.toNat z55*1)) w11 fun z56=>gInt .i64 ⟨b,2,none⟩ w11 fun z57=>bnd (C Gb0 [.pointer z56,iI e,iI z57] w11) fun q20 w12=>aBool q20 fun z58=>some (z58,w12))) (some (false,w11))) fun c_2 w13=>cond c_2
 (some (.tuple ⟨[iI 0,iI 0,.string (ByteArray.mk ⟨[]⟩)]⟩,w13))
 (some (.tuple ⟨[iI 8,iI 0,.string (ByteArray.mk ⟨[]⟩)]⟩,w13)))
 (cond (z1==10)
 (aSome k fun p_19=>gInt .i64 (add p_19 8) w1 fun z59=>some (.tuple ⟨[iI 0,iI z59,.string (ByteArray.mk ⟨[]⟩)]⟩,w1))
 (some (.tuple ⟨[iI 7,iI 0,.string (ByteArray.mk ⟨[]⟩)]⟩,w1)))))))))))):=kR
def Dw4:Cuts:=⟨0,[],[],[]⟩
def E41:List Item:=A3 Tryz.f27
theorem Ha3 (b:Option Addr) :
 xQ Dw4 C R B76 Tryz.f27 E41 [(0,iI x),(1,.slice b bn bc)] h =
 nw (.cells B3 false zZ2) h fun p1 w=>nw (.cells B3 false zZ2) w fun p2 w1=>pAgg ⟨p2,0,none⟩ [iI (B5 .i64 (B5 .i64 x 16777215) 31),iI (Int.tmod (B5 .i64 (Int.fdiv (B5 .i64 x 16777215) (2 ^ 5)) 63) 33),iI (Int.tmod (B5 .i64 (Int.fdiv (B5 .i64 x 16777215) (2 ^ 11)) 15) 9),iI (Int.tmod (B5 .i64 (Int.fdiv (B5 .i64 x 16777215) (2 ^ 15)) 15) 9),.int .u8 0,.int .u8 0,.int .u8 0,.int .u8 0,.int .u8 0,.int .u8 0,.int .u8 0,.int .u8 0,.int .u8 0,.int .u8 0,.int .u8 0,.int .u8 0,.int .u8 0,.int .u8 0,.int .u8 0,.int .u8 0,.int .u8 0,.int .u8 0,.int .u8 0,.int .u8 0,.int .u8 0,.int .u8 0,.int .u8 0,.int .u8 0,.int .u8 0,.int .u8 0,.int .u8 0,.int .u8 0,.int .u8 0,.int .u8 0,.int .u8 0,.int .u8 0] w1 fun w2=>ckB (liveA ⟨p2,4,none⟩ w2) (gCells b (min bn (32-0)*1) w2 fun cs=>pCells (G7 (some ⟨p2,4,none⟩) (decide (0<32)) (0*1)) cs w2 fun w3=>gAgg ⟨p2,0,none⟩ 36 w3 fun z1=>ck (List.length z1=36) (pAgg ⟨p1,0,none⟩ z1 w3 fun w4=>gAgg ⟨p1,0,none⟩ 36 w4 fun z2=>some (.agg ⟨z2⟩,w4))):=kR
def Bd9:Cuts:=⟨0,[],[],[(6,⟨[0,1,2,3,4,5,6],[0,0,0,0,14,31,63],[(4,[0])],[]⟩)]⟩
def Db8:List Item:=A3 Tryz.f28
theorem Ek7 :
 xQ Bd9 C R Ai5 Tryz.f28 Db8 [(0,.pointer c),(1,iI i)] h =
 nw (.cells B6 false zZ1) h fun b w=>nw (.cells A6 false [iI 0,iI 0]) w fun p1 w1=>pAgg ⟨p1,0,none⟩ [iI 1,iI i] w1 fun w2=>gAgg ⟨p1,0,none⟩ 2 w2 fun x=>bnd (C S6 [.pointer c,.agg ⟨x⟩] w2) fun r w3=>as2 r fun q1 q2=>aStr q1 fun z1=>aBool q2 fun z2=>cond (!z2)
 (pAgg ⟨b,0,none⟩ zZ1 w3 fun w4=>gAgg ⟨b,0,none⟩ 16 w4 fun z3=>some (.tuple ⟨[.agg ⟨z3⟩,iI 2]⟩,w4))
 (bnd (C N6 [.string z1] w3) fun q3 w5=>as2 q3 fun q4 q5=>aAgg q4 fun z4=>aInt .i64 q5 fun z5=>nw (.cells B6 false zZ1) w5 fun p2 w6=>ck (List.length z4=16) (pAgg ⟨p2,0,none⟩ z4 w6 fun w7=>gAgg ⟨p2,0,none⟩ 16 w7 fun z6=>gAgg ⟨p1,0,none⟩ 2 w7 fun z7=>bnd (C Z8 [.pointer c,.agg ⟨z7⟩,iI z5] w7) fun q6 w8=>aInt .i64 q6 fun z8=>gAgg ⟨p2,0,none⟩ 16 w8 fun z9=>same (.agg ⟨z6⟩) (.agg ⟨z9⟩) (ck (List.length z6=16) (pAgg ⟨b,0,none⟩ z6 w8 fun w9=>gAgg ⟨b,0,none⟩ 16 w9 fun z10=>some (.tuple ⟨[.agg ⟨z10⟩,iI z8]⟩,w9))))):=kR
def Ar6:Cuts:=⟨0,[],[],[]⟩
def Bi8:List Item:=A3 Tryz.f37
theorem Do2 :
 xQ Ar6 C R Ad3 Tryz.f37 Bi8 [(0,.pointer c),(1,iI i)] h =
 bnd (C Aw4 [iI i] h) fun r w=>aAgg r fun x=>bnd (C S5 [.pointer c,.agg ⟨x⟩] w) fun q1 w1=>aBool q1 fun z1=>some (.bool z1,w1):=kR
def A03:Cuts:=⟨0,[],[],[]⟩
def Bu6:List Item:=A3 Tryz.f42
theorem D32 (p:List Value) :
 xQ A03 C R Am2 Tryz.f42 Bu6 [(0,.pointer c),(1,iI i),(2,.agg ⟨p⟩)] h =
 nw (.cells B3 false p) h fun b w=>gAgg ⟨b,0,none⟩ 36 w fun x=>bnd (C Aa2 [.pointer c,.agg ⟨[iI 3,iI i]⟩,.agg ⟨x⟩] w) fun r w1=>aBool r fun z1=>some (.bool z1,w1):=kR
def A58:Cuts:=⟨0,[],[],[]⟩
def Bx4:List Item:=A3 Tryz.f54
theorem Eb9 :
 xQ A58 C R U9 Tryz.f54 Bx4 [(0,.pointer c),(1,iI kind)] h =
 cond (kind==1)
 (some (iI 8,h))
 (cond (kind==2)
 (some (iI 12,h))
 (cond (kind==3)
 (aSome c fun p=>gSl (add p 2) h fun _ xn _=>some (iI (wrap .i64 ((wrap .i64 (4+(xn:Int)))-1)),h))
 (some (iI 1,h)))):=kR
def Dh4:Cuts:=⟨0,[],[],[]⟩
def Eg3:List Item:=A3 Tryz.f55
theorem Gy5 :
 xQ Dh4 C R A87 Tryz.f55 Eg3 [(0,.pointer m),(1,iI atv),(2,iI n)] h =
 bnd (C Bo3 [.pointer m,iI atv,iI n] h) fun r w=>aBool r fun x=>cond (!x)
 (some (.tuple ⟨[.slice none 0 0,iI 1]⟩,w))
 (aSome m fun p=>gSl (add p 0) w fun z1 _ xc=>ckB (fitsOpen z1 A2 w) (ck ((0:Int)≤wrap .i64 (atv+n)∧wrap .i64 (atv+n)≤(xc:Int)) (ck ((0:Int)≤atv∧atv≤((Int.toNat (wrap .i64 (atv+n)):Nat):Int)) (bnd (C G6 [.slice (G7 z1 (decide (Int.toNat atv<xc)) ((Int.toNat atv)*1)) ((Int.toNat (wrap .i64 (atv+n)))-(Int.toNat atv)) (xc-(Int.toNat atv))] w) fun q1 w1=>aSl q1 fun z2 xn_1 xc_1=>some (.tuple ⟨[.slice z2 xn_1 xc_1,iI 0]⟩,w1))))):=kR
def Dm9:Cuts:=⟨0,[],[],[]⟩
def Er5:List Item:=A3 Tryz.f57
theorem G78 :
 xQ Dm9 C R Bi3 Tryz.f57 Er5 [(0,iI n)] h =
 some (iI (mm2 false (mm2 true n 0) 64),h):=kR
def E14:Cuts:=⟨0,[],[],[]⟩
def G26:List Item:=A3 Tryz.f59
theorem Id0 (frames:Int) :
 xQ E14 C R D70 Tryz.f59 G26 [(0,iI frames)] h =
 ck ((0:Int)≤wrap .i64 (64*(mm2 false (mm2 true frames 0) 256))∧(wrap .i64 (64*(mm2 false (mm2 true frames 0) 256)):Int)≤wrap .i64 (64*(mm2 false (mm2 true frames 0) 256))∧wrap .i64 (64*(mm2 false (mm2 true frames 0) 256))≤(A8:Int)) (nw (.cells A2 false (G9 (Int.toNat (wrap .i64 (64*(mm2 false (mm2 true frames 0) 256)))) [.int .u8 0])) h fun b w=>nw (.cells E40 false [.slice (some ⟨b,0,none⟩) (Int.toNat (wrap .i64 (64*(mm2 false (mm2 true frames 0) 256)))) (Int.toNat (wrap .i64 (64*(mm2 false (mm2 true frames 0) 256))))]) w fun p1 w1=>some (pP p1,w1)):=kR
def Dt0:Cuts:=⟨0,[(3,[3,8,9])],[],[(4,⟨[0,1,2,3,4,5,6,7,8,9,10],[0,0,2,6,14,0,32,126,255,511,1023],[(5,[4])],[]⟩)]⟩
def Eq7:List Item:=A3 Tryz.f60
def B00:List Item:=stk [0,1,0,1,0,0,1,4,5] Eq7
theorem H06 :
 xQ Dt0 C R A44 Tryz.f60 Eq7 [(0,iI envs)] h =
 nw (.cells Ax0 false [.slice none 0 0]) h fun b w=>R A44 B00 [(3,pP b),(8,iI (mm2 false (mm2 true envs 0) 40)),(9,iI 0)] w:=kR
theorem Er8 (s:Addr) (x8:Int) (x9:Int) :
 xQ Dt0 C R A44 Tryz.f60 B00 [(3,.pointer (some s)),(8,iI x8),(9,iI x9)] h =
 cond (decide (x9<x8))
 (gSl (add s 0) h fun x xn xc=>bnd (C Q0 [iI 32] h) fun r w=>aPtr r fun z1=>gSl (add s 0) w fun z2 xn_1 xc_1=>same (.slice x xn xc) (.slice z2 xn_1 xc_1) (nw (.cells H0 false [.pointer z1]) w fun b w1=>gCells (some ⟨b,0,none⟩) (1*1) w1 fun cs=>ckB (fitsOpen x H0 w1) (apd H0 1 x xn xc 1 cs w1 fun a an ac w2=>pV (add s 0) (.slice a an ac) w2 fun w3=>R A44 B00 [(3,.pointer (some s)),(8,iI x8),(9,iI (wrap .i64 (x9+1)))] w3)))
 (some (.pointer (some s),h)):=kR
def Eo1:Cuts:=⟨0,[],[],[]⟩
def Gr1:List Item:=A3 Tryz.f63
theorem H41 :
 xQ Eo1 C R Dt5 Tryz.f63 Gr1 [(0,iI lease)] h =
 nw (.cells Gd9 false [iI (mm2 false (mm2 true lease 1) 1000),.bool false,iI 0,iI 0,iI 0,.slice none 0 0,iI 0,iI 0,iI 0]) h fun b w=>some (pP b,w):=kR
def Ap0:Cuts:=⟨0,[],[],[]⟩
def Bc3:List Item:=A3 Tryz.f66
theorem Dk8 :
 xQ Ap0 C R M6 Tryz.f66 Bc3 [(0,.slice s sn sc),(1,iI v)] h =
 bnd (C H9 [.slice s sn sc,iI v] h) fun r w=>aInt .i64 r fun x=>some (.bool (decide (x≥0)),w):=kR
def Bl8:Cuts:=⟨0,[(3,[0,3,4])],[],[(5,⟨[0,1,2,3,4,5,6,7,8,9,10],[0,0,2,6,14,0,32,126,255,511,1023],[(5,[4])],[]⟩),(6,⟨[0,1,2,3,4,5,6,7,8,9,10],[0,0,2,6,14,0,32,126,255,511,1023],[],[]⟩)]⟩
def B74:List Item:=A3 Tryz.f70
def A43:List Item:=stk [0,1,0,1,0,0,1,4,5] B74
theorem Gm7 :
 xQ Bl8 C R Aa8 Tryz.f70 B74 [(0,iI envs)] h =
 nw (.cells E29 false [.slice none 0 0,.slice none 0 0]) h fun b w=>R Aa8 A43 [(0,iI envs),(3,pP b),(4,iI 0)] w:=kR
theorem Dj3 (s:Addr) :
 xQ Bl8 C R Aa8 Tryz.f70 A43 [(0,iI envs),(3,.pointer (some s)),(4,iI i)] h =
 bnd (cond (decide (i<envs)) (some (decide (i<40),h)) (some (false,h))) fun c w=>cond c
 (gSl (add s 0) w fun x xn xc=>bnd (C Ab1 [iI 32] w) fun r w1=>aPtr r fun z1=>gSl (add s 0) w1 fun z2 xn_1 xc_1=>same (.slice x xn xc) (.slice z2 xn_1 xc_1) (nw (.cells Ba4 false [.pointer z1]) w1 fun b w2=>gCells (some ⟨b,0,none⟩) (1*1) w2 fun cs=>ckB (fitsOpen x Ba4 w2) (apd Ba4 1 x xn xc 1 cs w2 fun a an ac w3=>pV (add s 0) (.slice a an ac) w3 fun w4=>gSl (add s 1) w4 fun z3 xn_2 xc_2=>ck ((0:Int)≤32∧(32:Int)≤32∧32≤(A8:Int)) (nw (.cells O8 false (G9 (Int.toNat 32) [iI 0,iI 0,iI 0,iI 0,iI 0,iI 0])) w4 fun p1 w5=>nw (.cells By3 false [.slice (some ⟨p1,0,none⟩) (Int.toNat 32) (Int.toNat 32)]) w5 fun p2 w6=>gCells (some ⟨p2,0,none⟩) (1*1) w6 fun cs_1=>ckB (fitsOpen z3 By3 w6) (apd By3 1 z3 xn_2 xc_2 1 cs_1 w6 fun a_1 an_1 ac_1 w7=>pV (add s 1) (.slice a_1 an_1 ac_1) w7 fun w8=>R Aa8 A43 [(0,iI envs),(3,.pointer (some s)),(4,iI (wrap .i64 (i+1)))] w8)))))
 (some (.pointer (some s),w)):=kR
def Di3:Cuts:=⟨0,[],[],[]⟩
def Ec3:List Item:=A3 Tryz.f71
theorem Gu8 :
 xQ Di3 C R Br5 Tryz.f71 Ec3 [(0,iI lease)] h =
 nw (.cells Gd3 false [iI (mm2 false (mm2 true lease 1) 1000),iI 0,iI 0,iI 0,iI 0,iI 0,.bool false,iI 0,.slice none 0 0]) h fun b w=>some (pP b,w):=kR
def B12:Cuts:=⟨0,[],[],[]⟩
def D18:List Item:=A3 Tryz.f74
theorem Gf3 (c:List Value) :
 xQ B12 C R Bd7 Tryz.f74 D18 [(0,.pointer s),(1,iI e),(2,.agg ⟨c⟩)] h =
 nw (.cells O8 false c) h fun b w=>bnd (C Am9 [.pointer s,iI e] w) fun r w1=>aBool r fun x=>bnd (cond (!x) (some (true,w1)) (gInt .i64 ⟨b,1,none⟩ w1 fun z1=>some (decide (z1<0),w1))) fun c_1 w2=>bnd (cond c_1 (some (true,w2)) (gInt .i64 ⟨b,1,none⟩ w2 fun z2=>some (decide (z2>7),w2))) fun c_2 w3=>bnd (cond c_2 (some (true,w3)) (gInt .i64 ⟨b,2,none⟩ w3 fun z3=>some (decide (z3<0),w3))) fun c_3 w4=>bnd (cond c_3 (some (true,w4)) (gInt .i64 ⟨b,2,none⟩ w4 fun z4=>some (decide (z4>65536),w4))) fun c_4 w5=>bnd (cond c_4 (some (true,w5)) (gInt .i64 ⟨b,3,none⟩ w5 fun z5=>some (decide (z5<0),w5))) fun c_5 w6=>bnd (cond c_5 (some (true,w6)) (gInt .i64 ⟨b,3,none⟩ w6 fun z6=>some (decide (z6>65536),w6))) fun c_6 w7=>cond c_6
 (some (.tuple ⟨[iI 0,iI 1]⟩,w7))
 (pAgg ⟨b,4,none⟩ [iI 0,iI 0] w7 fun w8=>gAgg ⟨b,0,none⟩ 6 w8 fun z7=>bnd (C Be8 [.pointer s,iI e,.agg ⟨z7⟩] w8) fun q1 w9=>as2 q1 fun q2 q3=>aInt .i64 q2 fun z8=>aInt .i64 q3 fun z9=>some (.tuple ⟨[iI z8,iI z9]⟩,w9)):=kR
def Bk4:Cuts:=⟨0,[],[],[]⟩
def Dd4:List Item:=A3 Tryz.f81
theorem Eu9 (r:Option Addr) :
 xQ Bk4 C R Az3 Tryz.f81 Dd4 [(0,.pointer r),(1,iI e),(2,iI name),(3,iI atv),(4,iI n)] h =
 bnd (C Aj9 [.pointer r,iI e,iI name,iI 1,iI atv,iI n] h) fun q1 w=>as2 q1 fun q2 q3=>aInt .i64 q2 fun x=>aInt .i64 q3 fun z1=>cond (z1 != 0)
 (some (.tuple ⟨[.string (ByteArray.mk ⟨[]⟩),iI z1]⟩,w))
 (aSome r fun p=>gSl (add p 0) w fun z2 _ xc=>ckB (fitsOpen z2 A2 w) (ck ((0:Int)≤wrap .i64 (x+n)∧wrap .i64 (x+n)≤(xc:Int)) (ck ((0:Int)≤x∧x≤((Int.toNat (wrap .i64 (x+n)):Nat):Int)) (gCells (G7 z2 (decide (Int.toNat x<xc)) ((Int.toNat x)*1)) ((Int.toNat (wrap .i64 (x+n)))-(Int.toNat x)) w fun cs=>asBytes cs fun l=>some (.tuple ⟨[.string (ByteArray.mk ⟨l⟩),iI 0]⟩,w))))):=kR
def B36:Cuts:=⟨0,[],[],[]⟩
def D04:List Item:=A3 Tryz.f91
theorem Gf8 :
 xQ B36 C R Bh3 Tryz.f91 D04 [(0,.pointer s),(1,iI e)] h =
 bnd (C Am9 [.pointer s,iI e] h) fun r w=>aBool r fun x=>cond (!x)
 (some (.slice none 0 0,w))
 (aSome s fun p=>gSl (add p 0) w fun z1 xn _=>aSome z1 fun p_1=>ck ((0:Int)≤e∧e<(xn:Int)) (gPtr (add (B1 p_1) (Int.toNat e*1)) w fun z2=>bnd (C S9 [.pointer z2] w) fun q1 w1=>aSl q1 fun z3 xn_1 xc_1=>some (.slice z3 xn_1 xc_1,w1))):=kR
def Di2:Cuts:=⟨0,[],[],[]⟩
def Ec7:List Item:=A3 Tryz.f94
theorem Gz4 (b:Option Addr) :
 xQ Di2 C R Aw6 Tryz.f94 Ec7 [(0,.slice b bn bc)] h =
 nw (.cells B6 false zZ1) h fun p1 w=>bnd (cond ((bn:Int)==24) (bnd (C Ar5 [.slice b bn bc] w) fun r w1=>aBool r fun x=>some (x,w1)) (some (false,w))) fun c w2=>cond c
 (pAgg ⟨p1,0,none⟩ zZ1 w2 fun w3=>gAgg ⟨p1,0,none⟩ 16 w3 fun z1=>some (.tuple ⟨[.agg ⟨z1⟩,iI 0]⟩,w3))
 (bnd (C Bh4 [] w2) fun q1 w4=>aPtr q1 fun z2=>bnd (C W8 [.pointer z2,.slice b bn bc] w4) fun q2 w5=>as2 q2 fun q3 q4=>aAgg q3 fun z3=>aBool q4 fun z4=>nw (.cells B6 false zZ1) w5 fun p2 w6=>ck (List.length z3=16) (pAgg ⟨p2,0,none⟩ z3 w6 fun w7=>cond (!z4)
 (pAgg ⟨p1,0,none⟩ zZ1 w7 fun w8=>gAgg ⟨p1,0,none⟩ 16 w8 fun z5=>some (.tuple ⟨[.agg ⟨z5⟩,iI 2]⟩,w8))
 (gAgg ⟨p2,0,none⟩ 16 w7 fun z6=>ck (List.length z6=16) (pAgg ⟨p1,0,none⟩ z6 w7 fun w9=>gAgg ⟨p1,0,none⟩ 16 w9 fun z7=>some (.tuple ⟨[.agg ⟨z7⟩,iI 1]⟩,w9))))):=kR
def Au9:Cuts:=⟨0,[],[(8,[8,11,12])],[(7,⟨[0,1,2,3,4,5,6,7,8,9],[0,1,3,7,0,31,63,31,159,511],[(7,[5])],[]⟩)]⟩
def Bg9:List Item:=A3 Tryz.f97
def A07:List Item:=stk [0,1,0,1,0,1,0,1,0,1,0,1,0,0] Bg9
theorem Ej1 :
 xQ Au9 C R U1 Tryz.f97 Bg9 [(0,.pointer c),(1,.agg ⟨r⟩),(2,decode)] h =
 nw (.cells A6 false r) h fun b w=>gAgg ⟨b,0,none⟩ 2 w fun x=>bnd (C O5 [.pointer c,.agg ⟨x⟩] w) fun q1 w1=>as2 q1 fun q2 q3=>aSl q2 fun z1 xn xc=>aBool q3 fun z2=>cond (!z2)
 (some (.tuple ⟨[iI 0,iI 2]⟩,w1))
 (aFn decode fun g fi cp=>bnd (C g (fi++([.slice z1 xn xc]++cp)) w1) fun q4 w2=>as2 q4 fun q5 q6=>aInt .i64 q5 fun z3=>aInt .i64 q6 fun z4=>cond (z4==2)
 (aSome c fun p=>gMap (add p 3) w2 fun z5=>gAgg ⟨b,0,none⟩ 2 w2 fun z6=>keyN PR A6 (.agg ⟨z6⟩) (opt z5 fun q7=>mapAt w2 q7 fun es _=>opt (Ao1 (iI 0) (.agg ⟨z6⟩) es) fun f=>aInt .i64 f.1 fun z7=>keyN PR A6 (.agg ⟨z6⟩) (opt z5 fun q8=>mapAt w2 q8 fun es_1 cl_1=>opt (Ea8 (iI 0) (.agg ⟨z6⟩) es_1 cl_1) fun f_1=>aInt .i64 f_1.1 fun _=>lt (H.set w2 q8 f_1.2.2) fun w3=>keyN PR A6 (.agg ⟨z6⟩) (opt z5 fun q9=>mapAt w3 q9 fun es_2 _=>opt (Ao1 (iI 0) (.agg ⟨z6⟩) es_2) fun f_2=>aInt .i64 f_2.1 fun z9=>same (iI z7) (iI z9) (opt z5 fun q10=>mapAt w3 q10 fun es_3 cl_3=>opt (Br3 (f_1.2.1:Int) es_3 0) fun i=>lt (H.set w3 q10 (.map (modN (fun e=>{ e with val:=iI (wrap .i64 (z7+1)) }) i es_3) cl_3)) fun w4=>R U1 A07 [(8,iI 0),(11,iI z3),(12,iI z4)] w4)))))
 (R U1 A07 [(8,iI 0),(11,iI z3),(12,iI z4)] w2)):=kR
theorem Bu8 (nonev:Int) :
 xQ Au9 C R U1 Tryz.f97 A07 [(8,iI nonev),(11,iI v),(12,iI isv)] h =
 cond (isv != 1)
 (some (.tuple ⟨[iI nonev,iI isv]⟩,h))
 (some (.tuple ⟨[iI v,iI isv]⟩,h)):=kR
def Bc9:Cuts:=⟨0,[],[],[(4,⟨[0,1,2,3,4,5,6,7,8,9,10,11,12,13,14,15,16,17,18,19,20,21,22,23,24,25],[0,1,3,7,0,16,48,112,0,256,768,1792,0,7936,16128,0,0,130816,262143,524287,1048575,1048575,1048575,2097151,12582911,33554431],[],[]⟩)]⟩
def Da3:List Item:=A3 Tryz.f100
theorem Eq2 :
 xQ Bc9 C R S6 Tryz.f100 Da3 [(0,.pointer c),(1,.agg ⟨r⟩)] h =
 nw (.cells A6 false r) h fun b w=>gAgg ⟨b,0,none⟩ 2 w fun x=>bnd (C W2 [.pointer c,.agg ⟨x⟩] w) fun q1 w1=>as4 q1 fun q2 q3 q4 q5=>aInt .i64 q2 fun z1=>aInt .i64 q3 fun z2=>aInt .i64 q4 fun z3=>aBool q5 fun z4=>bnd (cond (!z4) (some (true,w1)) (gAgg ⟨b,0,none⟩ 2 w1 fun z5=>bnd (C L9 [.pointer c,.agg ⟨z5⟩] w1) fun q6 w2=>aBool q6 fun z6=>some (z6,w2))) fun c_1 w3=>cond c_1
 (some (.tuple ⟨[.string (ByteArray.mk ⟨[]⟩),.bool false]⟩,w3))
 (aSome c fun p=>gPtr (add p 0) w3 fun z7=>aSome c fun p_1=>gInt .i64 (add p_1 1) w3 fun z8=>aSome c fun p_2=>gSl (add p_2 2) w3 fun z9 xn _=>aSome z9 fun p_3=>ck ((0:Int)≤z1∧z1<(xn:Int)) (gInt .i64 (add (B1 p_3) (Int.toNat z1*1)) w3 fun z10=>bnd (C U5 [.pointer z7,iI z8,.agg ⟨[iI 1,iI z10,iI z2,iI z3,iI 0,iI 0,.slice none 0 0]⟩] w3) fun q7 w4=>as3 q7 fun q8 q9 q10=>aInt .i64 q8 fun z11=>aInt .i64 q9 fun _=>aStr q10 fun z13=>cond (z11 != 0)
 (gAgg ⟨b,0,none⟩ 2 w4 fun z14=>bnd (C G0 [.pointer c,.agg ⟨z14⟩] w4) fun q11 w5=>as0 q11 (some (.tuple ⟨[.string (ByteArray.mk ⟨[]⟩),.bool false]⟩,w5)))
 (some (.tuple ⟨[.string z13,.bool true]⟩,w4)))):=kR
def Ba9:Cuts:=⟨0,[(7,[0,2,4,5]),(12,[0,2,6,7])],[],[(9,⟨[0,1,2,3,4,5,6,7,8,9,10,11,12,13,14,15,16],[0,0,0,4,12,30,62,126,0,0,512,1536,3840,7936,16382,32767,65535],[],[]⟩),(10,⟨[0,1,2,3,4,5,6,7,8,9,10,11,12,13,14,15,16,17,18,19,20,21,22],[0,1,3,0,8,24,0,64,192,0,512,1536,0,4096,0,16384,0,65536,0,262144,1048575,0,4194303],[],[]⟩)]⟩
def Bq7:List Item:=A3 Tryz.f101
def A80:List Item:=stk [0,1,0,1,0,1,0,1,0,0,1,4,5] Bq7
def A72:List Item:=stk [0,1,0,1,0,1,0,1,0,1,0,1,0,0,1,4,5] Bq7
theorem Gx1 :
 xQ Ba9 C R N6 Tryz.f101 Bq7 [(0,.string b)] h =
 nw (.cells B6 false zZ1) h fun p1 w=>cond (((ByteArray.size b:Nat):Int) != 24)
 (pAgg ⟨p1,0,none⟩ zZ1 w fun w1=>gAgg ⟨p1,0,none⟩ 16 w1 fun x=>some (.tuple ⟨[.agg ⟨x⟩,iI 2]⟩,w1))
 (bnd (C Ac2 [.string b] w) fun r w2=>aBool r fun z1=>cond z1
 (pAgg ⟨p1,0,none⟩ zZ1 w2 fun w3=>gAgg ⟨p1,0,none⟩ 16 w3 fun z2=>some (.tuple ⟨[.agg ⟨z2⟩,iI 0]⟩,w3))
 (nw (.cells Gx0 false [iI 0,iI 0,iI 0,iI 0]) w2 fun p2 w4=>pAgg ⟨p2,0,none⟩ [iI 0,iI 0,iI 0,iI 0] w4 fun w5=>R N6 A80 [(0,.string b),(2,pP p1),(4,pP p2),(5,iI 0)] w5)):=kR
theorem Dp2 (two:Addr) :
 xQ Ba9 C R N6 Tryz.f101 A80 [(0,.string b),(2,.pointer (some x2)),(4,.pointer (some two)),(5,iI i)] h =
 cond (decide (i<4))
 (ck ((0:Int)≤wrap .i64 (4+(wrap .i64 (2*i)))∧wrap .i64 (4+(wrap .i64 (2*i)))<((ByteArray.size b:Nat):Int)) (ck ((0:Int)≤wrap .i64 (5+(wrap .i64 (2*i)))∧wrap .i64 (5+(wrap .i64 (2*i)))<((ByteArray.size b:Nat):Int)) (ck ((0:Int)≤i∧i<((4:Nat):Int)) (pV (add two (Int.toNat i*1)) (iI (Dw8 .i64 (wrap .i64 ((wrap .i64 (((List.getD (ByteArray.data b).toList (Int.toNat (wrap .i64 (4+(wrap .i64 (2*i))))) 0).toNat:Int)))*2 ^ 8)) (wrap .i64 (((List.getD (ByteArray.data b).toList (Int.toNat (wrap .i64 (5+(wrap .i64 (2*i))))) 0).toNat:Int))))) h fun w=>R N6 A80 [(0,.string b),(2,.pointer (some x2)),(4,.pointer (some two)),(5,iI (wrap .i64 (i+1)))] w))))
 (ck ((0:Int)≤0∧0<((ByteArray.size b:Nat):Int)) (ck ((0:Int)≤1∧1<((ByteArray.size b:Nat):Int)) (ck ((0:Int)≤2∧2<((ByteArray.size b:Nat):Int)) (ck ((0:Int)≤3∧3<((ByteArray.size b:Nat):Int)) (ck ((0:Int)≤0∧0<((4:Nat):Int)) (gInt .i64 (add two (Int.toNat 0*1)) h fun x=>ck ((0:Int)≤1∧1<((4:Nat):Int)) (gInt .i64 (add two (Int.toNat 1*1)) h fun z1=>ck ((0:Int)≤2∧2<((4:Nat):Int)) (gInt .i64 (add two (Int.toNat 2*1)) h fun z2=>ck ((0:Int)≤3∧3<((4:Nat):Int)) (gInt .i64 (add two (Int.toNat 3*1)) h fun z3=>nw (.cells B6 false zZ1) h fun p1 w1=>pAgg ⟨p1,0,none⟩ [iI (wrap .i64 (((List.getD (ByteArray.data b).toList (Int.toNat 0) 0).toNat:Int))),iI (wrap .i64 (((List.getD (ByteArray.data b).toList (Int.toNat 1) 0).toNat:Int))),iI (wrap .i64 (((List.getD (ByteArray.data b).toList (Int.toNat 2) 0).toNat:Int))),iI (wrap .i64 (((List.getD (ByteArray.data b).toList (Int.toNat 3) 0).toNat:Int))),iI x,iI z1,iI z2,iI z3,iI 0,iI 0,iI 0,iI 0,iI 0,iI 0,iI 0,iI 0] w1 fun w2=>R N6 A72 [(0,.string b),(2,.pointer (some x2)),(6,pP p1),(7,iI 0)] w2))))))))):=kR
theorem Dq4 :
 xQ Ba9 C R N6 Tryz.f101 A72 [(0,.string b),(2,.pointer (some x2)),(6,.pointer (some p)),(7,iI i)] h =
 cond (decide (i<8))
 (ck ((0:Int)≤wrap .i64 (12+i)∧wrap .i64 (12+i)<((ByteArray.size b:Nat):Int)) (ck ((0:Int)≤i∧i<((8:Nat):Int)) (pV (add (add p 8) (Int.toNat i*1)) (iI (wrap .i64 (((List.getD (ByteArray.data b).toList (Int.toNat (wrap .i64 (12+i))) 0).toNat:Int)))) h fun w=>R N6 A72 [(0,.string b),(2,.pointer (some x2)),(6,.pointer (some p)),(7,iI (wrap .i64 (i+1)))] w)))
 (gAgg p 16 h fun x=>bnd (C Z1 [.agg ⟨x⟩] h) fun r w1=>aBool r fun z1=>bnd (cond (!z1) (some (true,w1)) (gAgg p 16 w1 fun z2=>bnd (C Q1 [.agg ⟨z2⟩] w1) fun q1 w2=>aStr q1 fun z3=>some (!(z3.toList==b.toList),w2))) fun c w3=>cond c
 (pAgg x2 zZ1 w3 fun w4=>gAgg x2 16 w4 fun z4=>some (.tuple ⟨[.agg ⟨z4⟩,iI 2]⟩,w4))
 (gAgg p 16 w3 fun z5=>ck (List.length z5=16) (pAgg x2 z5 w3 fun w5=>gAgg x2 16 w5 fun z6=>some (.tuple ⟨[.agg ⟨z6⟩,iI 1]⟩,w5)))):=kR
def Dh7:Cuts:=⟨0,[],[],[(1,⟨[1,0,2,3,4,5,6],[0,0,3,7,7,31,63],[(0,[1])],[]⟩)]⟩
def Ee1:List Item:=A3 Tryz.f103
theorem Gw8 (p:List Value) :
 xQ Dh7 C R Bb9 Tryz.f103 Ee1 [(0,.agg ⟨p⟩)] h =
 nw (.cells B6 false p) h fun b w=>gAgg ⟨b,0,none⟩ 16 w fun x=>bnd (C Bh4 [] w) fun r w1=>aPtr r fun z1=>gAgg ⟨b,0,none⟩ 16 w1 fun z2=>same (.agg ⟨x⟩) (.agg ⟨z2⟩) (bnd (C W3 [.pointer z1,.agg ⟨x⟩] w1) fun q1 w2=>as2 q1 fun q2 q3=>aSl q2 fun z3 xn xc=>aBool q3 fun z4=>some (.tuple ⟨[.slice z3 xn xc,.bool z4]⟩,w2)):=kR
def A83:Cuts:=⟨0,[(4,[1,3,4])],[],[(2,⟨[0,1,2,5,6,9,10,13,14,3,4,7,8,11,12,15,16,17],[0,0,2,6,15,0,32,110,255,0,512,1774,4095,0,8192,28398,65535,131071],[(3,[6,10,14]),(7,[10,14]),(11,[14])],[]⟩)]⟩
def Bv5:List Item:=A3 Tryz.f107
def Au6:List Item:=stk [0,1,0,1,0,1,0,0,1,4,5] Bv5
theorem Gc1 (p:List Value) :
 xQ A83 C R Q1 Tryz.f107 Bv5 [(0,.agg ⟨p⟩)] h =
 nw (.cells B6 false p) h fun b w=>gInt .i64 ⟨b,0,none⟩ w fun x=>gInt .i64 ⟨b,1,none⟩ w fun z1=>gInt .i64 ⟨b,2,none⟩ w fun z2=>gInt .i64 ⟨b,3,none⟩ w fun z3=>nw (.cells A2 false [.int .u8 (wrap .u8 (x)),.int .u8 (wrap .u8 (z1)),.int .u8 (wrap .u8 (z2)),.int .u8 (wrap .u8 (z3))]) w fun p1 w1=>gCells (some ⟨p1,0,none⟩) 4 w1 fun cs=>asBytes cs fun l=>gInt .i64 ⟨b,4,none⟩ w1 fun z4=>gInt .i64 ⟨b,5,none⟩ w1 fun z5=>gInt .i64 ⟨b,6,none⟩ w1 fun z6=>gInt .i64 ⟨b,7,none⟩ w1 fun z7=>bnd (C Bd8 [iI z4] w1) fun r w2=>aStr r fun z8=>gInt .i64 ⟨b,5,none⟩ w2 fun z9=>same (iI z5) (iI z9) (gInt .i64 ⟨b,6,none⟩ w2 fun z10=>same (iI z6) (iI z10) (gInt .i64 ⟨b,7,none⟩ w2 fun z11=>same (iI z7) (iI z11) (ck (ByteArray.size (ByteArray.mk ⟨l⟩)+ByteArray.size z8≤A8) (bnd (C Bd8 [iI z5] w2) fun q1 w3=>aStr q1 fun z12=>gInt .i64 ⟨b,6,none⟩ w3 fun z13=>same (iI z6) (iI z13) (gInt .i64 ⟨b,7,none⟩ w3 fun z14=>same (iI z7) (iI z14) (ck (ByteArray.size ((ByteArray.mk ⟨l⟩)++z8)+ByteArray.size z12≤A8) (bnd (C Bd8 [iI z6] w3) fun q2 w4=>aStr q2 fun z15=>gInt .i64 ⟨b,7,none⟩ w4 fun z16=>same (iI z7) (iI z16) (ck (ByteArray.size (((ByteArray.mk ⟨l⟩)++z8)++z12)+ByteArray.size z15≤A8) (bnd (C Bd8 [iI z7] w4) fun q3 w5=>aStr q3 fun z17=>ck (ByteArray.size ((((ByteArray.mk ⟨l⟩)++z8)++z12)++z15)+ByteArray.size z17≤A8) (R Q1 Au6 [(1,pP b),(3,.string (((((ByteArray.mk ⟨l⟩)++z8)++z12)++z15)++z17)),(4,iI 0)] w5)))))))))):=kR
theorem Db5 (s:ByteArray) :
 xQ A83 C R Q1 Tryz.f107 Au6 [(1,.pointer (some p)),(3,.string s),(4,iI i)] h =
 cond (decide (i<8))
 (ck ((0:Int)≤i∧i<((8:Nat):Int)) (gInt .i64 (add (add p 8) (Int.toNat i*1)) h fun x=>nw (.cells A2 false [.int .u8 (wrap .u8 (x))]) h fun b w=>gCells (some ⟨b,0,none⟩) 1 w fun cs=>asBytes cs fun l=>ck (ByteArray.size s+ByteArray.size (ByteArray.mk ⟨l⟩)≤A8) (R Q1 Au6 [(1,.pointer (some p)),(3,.string (s++(ByteArray.mk ⟨l⟩))),(4,iI (wrap .i64 (i+1)))] w)))
 (ck (ByteArray.size s+ByteArray.size (ByteArray.mk ⟨[167]⟩)≤A8) (bnd (C Aj6 [.string (s++(ByteArray.mk ⟨[167]⟩))] h) fun r w1=>aInt .u8 r fun z1=>nw (.cells A2 false [.int .u8 z1,.int .u8 0,.int .u8 0]) w1 fun p1 w2=>gCells (some ⟨p1,0,none⟩) 3 w2 fun cs_1=>asBytes cs_1 fun l_1=>ck (ByteArray.size (s++(ByteArray.mk ⟨[167]⟩))+ByteArray.size (ByteArray.mk ⟨l_1⟩)≤A8) (some (.string ((s++(ByteArray.mk ⟨[167]⟩))++(ByteArray.mk ⟨l_1⟩)),w2)))):=kR
def A04:Cuts:=⟨0,[],[],[(2,⟨[0,1,2,3,4,5,6,7],[0,0,0,4,12,0,63,127],[],[]⟩)]⟩
def Bu3:List Item:=A3 Tryz.f108
theorem D39 :
 xQ A04 C R S5 Tryz.f108 Bu3 [(0,.pointer c),(1,.agg ⟨r⟩)] h =
 nw (.cells A6 false r) h fun b w=>gAgg ⟨b,0,none⟩ 2 w fun x=>bnd (C S4 [.pointer c,.agg ⟨x⟩] w) fun q1 w1=>as2 q1 fun q2 q3=>aAgg q2 fun z1=>aBool q3 fun z2=>nw (.cells Bm5 false [iI 0,iI 0,iI 0]) w1 fun p1 w2=>ck (List.length z1=3) (pAgg ⟨p1,0,none⟩ z1 w2 fun w3=>gAgg ⟨b,0,none⟩ 2 w3 fun z3=>gInt .i64 ⟨p1,2,none⟩ w3 fun z4=>ck ((0:Int)≤z4∧(z4:Int)≤z4∧z4≤(A8:Int)) (nw (.cells A2 false (G9 (Int.toNat z4) [.int .u8 0])) w3 fun p2 w4=>bnd (C H1 [.pointer c,.agg ⟨z3⟩,.slice (some ⟨p2,0,none⟩) (Int.toNat z4) (Int.toNat z4),.bool z2] w4) fun q4 w5=>aBool q4 fun z5=>some (.bool z5,w5))):=kR
def Af2:Cuts:=⟨0,[],[(8,[6,8,11,12])],[(7,⟨[0,1,2,3,4,5,6,7,8,9],[0,1,3,7,0,31,63,31,159,511],[(7,[5])],[]⟩)]⟩
def As7:List Item:=A3 Tryz.f110
def An4:List Item:=stk [0,1,0,1,0,1,0,1,0,1,0,1,0,0] As7
theorem Ds8 :
 xQ Af2 C R J8 Tryz.f110 As7 [(0,.pointer c),(1,.agg ⟨r⟩),(2,decode)] h =
 nw (.cells A6 false r) h fun b w=>nw (.cells D7 false [iI 0,iI 0,iI 0,iI 0]) w fun p1 w1=>nw (.cells D7 false [iI 0,iI 0,iI 0,iI 0]) w1 fun p2 w2=>gAgg ⟨b,0,none⟩ 2 w2 fun x=>bnd (C O5 [.pointer c,.agg ⟨x⟩] w2) fun q1 w3=>as2 q1 fun q2 q3=>aSl q2 fun z1 xn xc=>aBool q3 fun z2=>cond (!z2)
 (gAgg ⟨p2,0,none⟩ 4 w3 fun z3=>ck (List.length z3=4) (pAgg ⟨p1,0,none⟩ z3 w3 fun w4=>gAgg ⟨p1,0,none⟩ 4 w4 fun z4=>some (.tuple ⟨[.agg ⟨z4⟩,iI 2]⟩,w4)))
 (aFn decode fun g fi cp=>bnd (C g (fi++([.slice z1 xn xc]++cp)) w3) fun q4 w5=>as2 q4 fun q5 q6=>aAgg q5 fun z5=>aInt .i64 q6 fun z6=>nw (.cells D7 false [iI 0,iI 0,iI 0,iI 0]) w5 fun p3 w6=>ck (List.length z5=4) (pAgg ⟨p3,0,none⟩ z5 w6 fun w7=>cond (z6==2)
 (aSome c fun p=>gMap (add p 3) w7 fun z7=>gAgg ⟨b,0,none⟩ 2 w7 fun z8=>keyN PR A6 (.agg ⟨z8⟩) (opt z7 fun q7=>mapAt w7 q7 fun es _=>opt (Ao1 (iI 0) (.agg ⟨z8⟩) es) fun f=>aInt .i64 f.1 fun z9=>keyN PR A6 (.agg ⟨z8⟩) (opt z7 fun q8=>mapAt w7 q8 fun es_1 cl_1=>opt (Ea8 (iI 0) (.agg ⟨z8⟩) es_1 cl_1) fun f_1=>aInt .i64 f_1.1 fun _=>lt (H.set w7 q8 f_1.2.2) fun w8=>keyN PR A6 (.agg ⟨z8⟩) (opt z7 fun q9=>mapAt w8 q9 fun es_2 _=>opt (Ao1 (iI 0) (.agg ⟨z8⟩) es_2) fun f_2=>aInt .i64 f_2.1 fun z11=>same (iI z9) (iI z11) (opt z7 fun q10=>mapAt w8 q10 fun es_3 cl_3=>opt (Br3 (f_1.2.1:Int) es_3 0) fun i=>lt (H.set w8 q10 (.map (modN (fun e=>{ e with val:=iI (wrap .i64 (z9+1)) }) i es_3) cl_3)) fun w9=>R J8 An4 [(6,pP p1),(8,pP p2),(11,pP p3),(12,iI z6)] w9)))))
 (R J8 An4 [(6,pP p1),(8,pP p2),(11,pP p3),(12,iI z6)] w7))):=kR
theorem Bc1 (x6:Addr) (nonev:Addr) (v:Addr) :
 xQ Af2 C R J8 Tryz.f110 An4 [(6,.pointer (some x6)),(8,.pointer (some nonev)),(11,.pointer (some v)),(12,iI isv)] h =
 cond (isv != 1)
 (gAgg nonev 4 h fun x=>ck (List.length x=4) (pAgg x6 x h fun w=>gAgg x6 4 w fun z1=>some (.tuple ⟨[.agg ⟨z1⟩,iI isv]⟩,w)))
 (gAgg v 4 h fun z2=>ck (List.length z2=4) (pAgg x6 z2 h fun w1=>gAgg x6 4 w1 fun z3=>some (.tuple ⟨[.agg ⟨z3⟩,iI isv]⟩,w1))):=kR
def A05:Cuts:=⟨0,[],[],[(1,⟨[0,1,2,3,4,5,6,7,8,9],[0,1,3,7,7,7,39,127,255,511],[(6,[4])],[]⟩)]⟩
def Bt9:List Item:=A3 Tryz.f120
theorem D30 (p:List Value) :
 xQ A05 C R Aa2 Tryz.f120 Bt9 [(0,.pointer c),(1,.agg ⟨r⟩),(2,.agg ⟨p⟩)] h =
 nw (.cells A6 false r) h fun b w=>nw (.cells B3 false p) w fun p1 w1=>gAgg ⟨p1,0,none⟩ 36 w1 fun x=>bnd (C Ba5 [.agg ⟨x⟩] w1) fun q1 w2=>aBool q1 fun z1=>bnd (cond z1 (gAgg ⟨b,0,none⟩ 2 w2 fun z2=>gAgg ⟨p1,0,none⟩ 36 w2 fun z3=>bnd (C M9 [.agg ⟨z3⟩] w2) fun q2 w3=>aStr q2 fun z4=>gAgg ⟨b,0,none⟩ 2 w3 fun z5=>same (.agg ⟨z2⟩) (.agg ⟨z5⟩) (bnd (C M7 [.pointer c,.agg ⟨z2⟩,.string z4] w3) fun q3 w4=>aBool q3 fun z6=>some (z6,w4))) (some (false,w2))) fun c_1 w5=>some (.bool c_1,w5):=kR
def Bg1:Cuts:=⟨0,[],[],[]⟩
def Db1:List Item:=A3 Tryz.f122
theorem El1 (g:Int) :
 xQ Bg1 C R Ah9 Tryz.f122 Db1 [(0,iI g)] h =
 bnd (cond (decide (g<0)) (some (true,h)) (some (decide (g≥8),h))) fun c w=>cond c
 (some (.tuple ⟨[.slice none 0 0,.bool false]⟩,w))
 (nw (.cells A2 false [.int .u8 (wrap .u8 (g)),.int .u8 211]) w fun b w1=>bnd (C Ac4 [.slice (some ⟨b,0,none⟩) 2 2] w1) fun r w2=>aInt .u8 r fun x=>nw (.cells A2 false [.int .u8 x,.int .u8 0]) w2 fun p1 w3=>gCells (some ⟨p1,0,none⟩) (2*1) w3 fun cs=>ckB (fitsOpen (some ⟨b,0,none⟩) A2 w3) (apd A2 1 (some ⟨b,0,none⟩) 2 2 2 cs w3 fun a an ac w4=>some (.tuple ⟨[.slice a an ac,.bool true]⟩,w4))):=kR
def Dy4:Cuts:=⟨0,[],[],[]⟩
def Ex1:List Item:=A3 Tryz.f123
theorem Hk6 :
 xQ Dy4 C R Bo3 Tryz.f123 Ex1 [(0,.pointer m),(1,iI atv),(2,iI n)] h =
 bnd (cond (decide (atv≥0)) (some (decide (n≥0),h)) (some (false,h))) fun c w=>bnd (cond c (aSome m fun p=>gSl (add p 0) w fun _ xn _=>some (decide (atv≤(xn:Int)),w)) (some (false,w))) fun c_1 w1=>bnd (cond c_1 (aSome m fun p_1=>gSl (add p_1 0) w1 fun _ xn_1 _=>some (decide (n≤(wrap .i64 ((xn_1:Int)-atv))),w1)) (some (false,w1))) fun c_2 w2=>some (.bool c_2,w2):=kR
def Az0:Cuts:=⟨0,[(3,[3,15,16])],[],[]⟩
def Bj9:List Item:=A3 Tryz.f128
def Ao4:List Item:=stk [0,1,0,1,0,0,1,4,5] Bj9
theorem Eu7 :
 xQ Az0 C R Q0 Tryz.f128 Bj9 [(0,iI size)] h =
 ck ((0:Int)≤mm2 false (mm2 true size 0) 256∧(mm2 false (mm2 true size 0) 256:Int)≤mm2 false (mm2 true size 0) 256∧mm2 false (mm2 true size 0) 256≤(A8:Int)) (nw (.cells Ap8 false (G9 (Int.toNat (mm2 false (mm2 true size 0) 256)) [iI 0,iI 0,iI 0,iI 0,iI 0,iI 0,iI 0,.bool false])) h fun b w=>nw (.cells B46 false [.slice (some ⟨b,0,none⟩) (Int.toNat (mm2 false (mm2 true size 0) 256)) (Int.toNat (mm2 false (mm2 true size 0) 256))]) w fun p1 w1=>gSl ⟨p1,0,none⟩ w1 fun _ xn _=>R Q0 Ao4 [(3,pP p1),(15,iI (xn:Int)),(16,iI 0)] w1):=kR
theorem Bw5 (t:Addr) (x15:Int) (x16:Int) :
 xQ Az0 C R Q0 Tryz.f128 Ao4 [(3,.pointer (some t)),(15,iI x15),(16,iI x16)] h =
 cond (decide (x16<x15))
 (gSl (add t 0) h fun x xn _=>aSome x fun p=>ck ((0:Int)≤x16∧x16<(xn:Int)) (pV (add (add (B1 p) (Int.toNat x16*8)) 6) (iI 1) h fun w=>R Q0 Ao4 [(3,.pointer (some t)),(15,iI x15),(16,iI (wrap .i64 (x16+1)))] w))
 (some (.pointer (some t),h)):=kR
def Bm1:Cuts:=⟨0,[(3,[0,3,4])],[],[]⟩
def B91:List Item:=A3 Tryz.f134
def A31:List Item:=stk [0,1,0,1,0,0,1,4,5] B91
theorem Gq4 :
 xQ Bm1 C R Ab1 Tryz.f134 B91 [(0,iI size)] h =
 nw (.cells E28 false [.slice none 0 0]) h fun b w=>R Ab1 A31 [(0,iI size),(3,pP b),(4,iI 0)] w:=kR
theorem Dm2 (n:Addr) :
 xQ Bm1 C R Ab1 Tryz.f134 A31 [(0,iI size),(3,.pointer (some n)),(4,iI i)] h =
 bnd (cond (decide (i<size)) (some (decide (i<256),h)) (some (false,h))) fun c w=>cond c
 (gSl (add n 0) w fun x xn xc=>nw (.cells Bo8 false [iI 1,.bool false]) w fun b w1=>gCells (some ⟨b,0,none⟩) (1*2) w1 fun cs=>ckB (fitsOpen x Bo8 w1) (apd Bo8 2 x xn xc 1 cs w1 fun a an ac w2=>pV (add n 0) (.slice a an ac) w2 fun w3=>R Ab1 A31 [(0,iI size),(3,.pointer (some n)),(4,iI (wrap .i64 (i+1)))] w3))
 (some (.pointer (some n),w)):=kR
def Dt7:Cuts:=⟨0,[(3,[0,3,4])],[],[]⟩
def Em1:List Item:=A3 Tryz.f139
def Bz3:List Item:=stk [0,1,0,1,0,0,1,4,5] Em1
theorem H19 :
 xQ Dt7 C R Aj6 Tryz.f139 Em1 [(0,.string b)] h =
 R Aj6 Bz3 [(0,.string b),(3,iI ((ByteArray.size b:Nat):Int)),(4,iI 0)] h:=kR
theorem Et0 :
 xQ Dt7 C R Aj6 Tryz.f139 Bz3 [(0,.string b),(3,iI n),(4,iI i)] h =
 cond (decide (i<((ByteArray.size b:Nat):Int)))
 (ck ((0:Int)≤i∧i<((ByteArray.size b:Nat):Int)) (R Aj6 Bz3 [(0,.string b),(3,iI (wrap .i64 (n+(wrap .i64 (((List.getD (ByteArray.data b).toList (Int.toNat i) 0).toNat:Int)))))),(4,iI (wrap .i64 (i+1)))] h))
 (some (.int .u8 (wrap .u8 (n)),h)):=kR
def Ba2:Cuts:=⟨0,[],[],[]⟩
def B49:List Item:=A3 Tryz.f140
theorem Ed7 (r:Option Addr) :
 xQ Ba2 C R Ae9 Tryz.f140 B49 [(0,.pointer r),(1,iI env),(2,iI name),(3,iI atv),(4,iI n)] h =
 bnd (C Ac8 [.pointer r,iI env,iI name,iI 1,iI atv,iI n] h) fun q1 w=>as2 q1 fun q2 q3=>aInt .i64 q2 fun x=>aInt .i64 q3 fun z1=>cond (z1 != 0)
 (some (.tuple ⟨[.slice none 0 0,iI z1]⟩,w))
 (aSome r fun p=>gPtr (add p 0) w fun z2=>bnd (C A87 [.pointer z2,iI x,iI n] w) fun q4 w1=>as2 q4 fun q5 q6=>aSl q5 fun z3 xn xc=>aInt .i64 q6 fun z4=>some (.tuple ⟨[.slice z3 xn xc,iI z4]⟩,w1)):=kR
def A63:Cuts:=⟨0,[],[],[(2,⟨[0,1,2,3,4,5,6,7,8,9,10],[0,1,3,7,15,31,63,7,255,511,1023],[],[]⟩),(4,⟨[0,1,2,3,4,5,6,7,8,9,10,11,12,13,14,16,15,17],[0,1,3,7,0,16,48,112,0,256,0,1024,0,4096,16128,32767,0,131071],[],[]⟩),(6,⟨[0,1,2,3,4,5,6,7,8,9],[0,1,3,7,0,31,63,31,159,511],[(7,[5])],[]⟩)]⟩
def Bx6:List Item:=A3 Tryz.f158
theorem D89 :
 xQ A63 C R O5 Tryz.f158 Bx6 [(0,.pointer c),(1,.agg ⟨r⟩)] h =
 nw (.cells A6 false r) h fun b w=>gAgg ⟨b,0,none⟩ 2 w fun x=>bnd (C S4 [.pointer c,.agg ⟨x⟩] w) fun q1 w1=>as2 q1 fun q2 q3=>aAgg q2 fun z1=>aBool q3 fun z2=>nw (.cells Bm5 false [iI 0,iI 0,iI 0]) w1 fun p1 w2=>ck (List.length z1=3) (pAgg ⟨p1,0,none⟩ z1 w2 fun w3=>bnd (cond (!z2) (some (true,w3)) (aSome c fun p=>gMap (add p 3) w3 fun z3=>gAgg ⟨b,0,none⟩ 2 w3 fun z4=>keyN PR A6 (.agg ⟨z4⟩) (opt z3 fun q4=>mapAt w3 q4 fun es _=>opt (Ao1 (iI 0) (.agg ⟨z4⟩) es) fun f=>aInt .i64 f.1 fun z5=>some (decide (z5>0),w3)))) fun c_1 w4=>cond c_1
 (some (.tuple ⟨[.slice none 0 0,.bool false]⟩,w4))
 (aSome c fun p_1=>gPtr (add p_1 0) w4 fun z6=>aSome c fun p_2=>gInt .i64 (add p_2 1) w4 fun z7=>gInt .i64 ⟨p1,0,none⟩ w4 fun z8=>gInt .i64 ⟨p1,1,none⟩ w4 fun z9=>gInt .i64 ⟨p1,2,none⟩ w4 fun z10=>nw (.cells Ey2 false [iI 0,iI 0,.slice none 0 0]) w4 fun p2 w5=>bnd (C Q6 [.pointer z6,iI z7,.agg ⟨[iI 1,iI z8,iI z9,iI z10,iI 0,iI 0,.slice none 0 0]⟩] w5) fun q5 w6=>aAgg q5 fun z11=>ck (List.length z11=3) (pAgg ⟨p2,0,none⟩ z11 w6 fun w7=>gInt .i64 ⟨p2,0,none⟩ w7 fun z12=>cond (z12 != 0)
 (aSome c fun p_3=>gMap (add p_3 3) w7 fun z13=>gAgg ⟨b,0,none⟩ 2 w7 fun z14=>keyN PR A6 (.agg ⟨z14⟩) (opt z13 fun q6=>mapAt w7 q6 fun es_1 _=>opt (Ao1 (iI 0) (.agg ⟨z14⟩) es_1) fun f_1=>aInt .i64 f_1.1 fun z15=>keyN PR A6 (.agg ⟨z14⟩) (opt z13 fun q7=>mapAt w7 q7 fun es_2 cl_2=>opt (Ea8 (iI 0) (.agg ⟨z14⟩) es_2 cl_2) fun f_2=>aInt .i64 f_2.1 fun _=>lt (H.set w7 q7 f_2.2.2) fun w8=>keyN PR A6 (.agg ⟨z14⟩) (opt z13 fun q8=>mapAt w8 q8 fun es_3 _=>opt (Ao1 (iI 0) (.agg ⟨z14⟩) es_3) fun f_3=>aInt .i64 f_3.1 fun z17=>same (iI z15) (iI z17) (opt z13 fun q9=>mapAt w8 q9 fun es_4 cl_4=>opt (Br3 (f_2.2.1:Int) es_4 0) fun i=>lt (H.set w8 q9 (.map (modN (fun e=>{ e with val:=iI (wrap .i64 (z15+1)) }) i es_4) cl_4)) fun w9=>some (.tuple ⟨[.slice none 0 0,.bool false]⟩,w9))))))
 (gSl ⟨p2,2,none⟩ w7 fun z18 xn xc=>some (.tuple ⟨[.slice z18 xn xc,.bool true]⟩,w7))))):=kR
def Dm8:Cuts:=⟨0,[],[],[]⟩
def Es8:List Item:=A3 Tryz.f160
theorem G71 :
 xQ Dm8 C R Bh4 Tryz.f160 Es8 [] h =
 bnd (C As9 [iI 24,.func (.func O3) ⟨[]⟩ ⟨[]⟩,.func (.func Z0) ⟨[]⟩ ⟨[]⟩] h) fun r w=>aPtr r fun x=>some (.pointer x,w):=kR
def Dv6:Cuts:=⟨0,[],[],[]⟩
def E10:List Item:=A3 Tryz.f162
theorem He3 :
 xQ Dv6 C R Bn6 Tryz.f162 E10 [] h =
 bnd (C At9 [iI 40,.func (.func Br8) ⟨[]⟩ ⟨[]⟩,.func (.func Bt1) ⟨[]⟩ ⟨[]⟩] h) fun r w=>aPtr r fun x=>some (.pointer x,w):=kR
def A89:Cuts:=⟨0,[],[],[]⟩
def B43:List Item:=A3 Tryz.f164
theorem Ed8 :
 xQ A89 C R W2 Tryz.f164 B43 [(0,.pointer c),(1,.agg ⟨r⟩)] h =
 nw (.cells A6 false r) h fun b w=>gInt .i64 ⟨b,1,none⟩ w fun x=>gInt .i64 ⟨b,0,none⟩ w fun z1=>cond (z1==1)
 (bnd (cond (decide (x≥0)) (some (decide (x<8),w)) (some (false,w))) fun c_1 w1=>some (.tuple ⟨[iI 0,iI (wrap .i64 (24*(mm2 false (mm2 true x 0) 7))),iI 24,.bool c_1]⟩,w1))
 (cond (z1==2)
 (bnd (cond (decide (x≥0)) (some (decide (x<12),w)) (some (false,w))) fun c_2 w2=>some (.tuple ⟨[iI 0,iI (wrap .i64 (192+(wrap .i64 (8*(mm2 false (mm2 true x 0) 11))))),iI 8,.bool c_2]⟩,w2))
 (cond (z1==3)
 (bnd (cond (decide (x≥4)) (aSome c fun p=>gSl (add p 2) w fun _ xn _=>some (decide ((wrap .i64 (x-3))<(xn:Int)),w)) (some (false,w))) fun c_3 w3=>cond c_3
 (some (.tuple ⟨[iI (wrap .i64 (x-3)),iI 0,iI 40,.bool true]⟩,w3))
 (bnd (cond (decide (x≥0)) (some (decide (x<4),w3)) (some (false,w3))) fun c_4 w4=>some (.tuple ⟨[iI 0,iI (wrap .i64 (288+(wrap .i64 (40*(mm2 false (mm2 true x 0) 3))))),iI 40,.bool c_4]⟩,w4)))
 (cond (z1==4)
 (some (.tuple ⟨[iI 0,iI 448,iI 40,.bool true]⟩,w))
 (some (.tuple ⟨[iI 0,iI 488,iI 4,.bool true]⟩,w))))):=kR
def Ej3:Cuts:=⟨0,[],[],[]⟩
def Go8:List Item:=A3 Tryz.f171
theorem H24 :
 xQ Ej3 C R Bd8 Tryz.f171 Go8 [(0,iI n)] h =
 nw (.cells A2 false [.int .u8 (wrap .u8 (Int.fdiv n (2 ^ 8))),.int .u8 (wrap .u8 (n))]) h fun b w=>gCells (some ⟨b,0,none⟩) 2 w fun cs=>asBytes cs fun l=>some (.string (ByteArray.mk ⟨l⟩),w):=kR
def Al1:Cuts:=⟨0,[],[],[(2,⟨[0,1,2,3,4,5,6,7,8,9,10,11,12,13,14],[0,1,3,7,15,31,63,127,255,511,63,63,4095,8191,16383],[],[]⟩)]⟩
def A64:List Item:=A3 Tryz.f174
theorem Dd2 (v:List Value) :
 xQ Al1 C R W6 Tryz.f174 A64 [(0,.pointer c),(1,.agg ⟨v⟩)] h =
 nw (.cells D7 false v) h fun b w=>aSome c fun p=>gInt .i64 (add p 0) w fun x=>ck ((0:Int)≤x∧(x:Int)≤x∧x≤(A8:Int)) (nw (.cells A2 false (G9 (Int.toNat x) [.int .u8 0])) w fun p1 w1=>aSome c fun p_1=>gFv (add p_1 1) w1 fun z1=>isNilF z1 fun p2=>bnd (cond p2 (some (true,w1)) (aSome c fun p_2=>gFv (add p_2 1) w1 fun z2=>gAgg ⟨b,0,none⟩ 4 w1 fun z3=>aFn z2 fun g fi cp=>bnd (C g (fi++([.agg ⟨z3⟩,.slice (some ⟨p1,0,none⟩) (Int.toNat x) (Int.toNat x)]++cp)) w1) fun r w2=>aBool r fun z4=>some (!z4,w2))) fun c_1 w3=>cond c_1
 (some (.tuple ⟨[.slice none 0 0,.bool false]⟩,w3))
 (some (.tuple ⟨[.slice (some ⟨p1,0,none⟩) (Int.toNat x) (Int.toNat x),.bool true]⟩,w3))):=kR
def Dg8:Cuts:=⟨0,[],[],[]⟩
def Ef7:List Item:=A3 Tryz.f177
theorem Gt7 (p:List Value) :
 xQ Dg8 C R Ba5 Tryz.f177 Ef7 [(0,.agg ⟨p⟩)] h =
 nw (.cells B3 false p) h fun b w=>gInt .i64 ⟨b,0,none⟩ w fun x=>bnd (C Q2 [iI x,iI 0,iI 31] w) fun r w1=>aBool r fun z1=>bnd (cond z1 (gInt .i64 ⟨b,1,none⟩ w1 fun z2=>bnd (C Q2 [iI z2,iI 0,iI 32] w1) fun q1 w2=>aBool q1 fun z3=>some (z3,w2)) (some (false,w1))) fun c w3=>bnd (cond c (gInt .i64 ⟨b,2,none⟩ w3 fun z4=>bnd (C Q2 [iI z4,iI 0,iI 8] w3) fun q2 w4=>aBool q2 fun z5=>some (z5,w4)) (some (false,w3))) fun c_1 w5=>bnd (cond c_1 (gInt .i64 ⟨b,3,none⟩ w5 fun z6=>bnd (C Q2 [iI z6,iI 0,iI 8] w5) fun q3 w6=>aBool q3 fun z7=>some (z7,w6)) (some (false,w5))) fun c_2 w7=>some (.bool c_2,w7):=kR
def Ab9:Cuts:=⟨0,[],[],[]⟩
def Aw1:List Item:=A3 Tryz.f197
theorem By9 (f:Value) :
 xQ Ab9 C R R0 Tryz.f197 Aw1 [(0,.slice s sn sc),(1,f)] h =
 bnd (C G2 [.slice s sn sc,f] h) fun r w=>aInt .i64 r fun x=>some (.bool (decide (x≥0)),w):=kR
def D99:Cuts:=⟨0,[],[],[]⟩
def Gc5:List Item:=A3 Tryz.f206
theorem Hq0 (b:Option Addr) :
 xQ D99 C R Av4 Tryz.f206 Gc5 [(0,.agg ⟨f⟩),(1,.slice b bn bc)] h =
 nw (.cells D7 false f) h fun p1 w=>gAgg ⟨p1,0,none⟩ 4 w fun x=>bnd (C Dt9 [.agg ⟨x⟩] w) fun r w1=>aBool r fun z1=>cond (!z1)
 (some (.bool false,w1))
 (gInt .i64 ⟨p1,0,none⟩ w1 fun z2=>gInt .i64 ⟨p1,1,none⟩ w1 fun z3=>gInt .i64 ⟨p1,2,none⟩ w1 fun z4=>gInt .i64 ⟨p1,3,none⟩ w1 fun z5=>nw (.cells A2 false [.int .u8 (wrap .u8 (z2)),.int .u8 (wrap .u8 (z3)),.int .u8 (wrap .u8 (z4)),.int .u8 (wrap .u8 (z5)),.int .u8 179]) w1 fun p2 w2=>gCells (some ⟨p2,0,none⟩) (min 5 bn*1) w2 fun cs=>pCells b cs w2 fun w3=>ckB (fitsOpen b A2 w3) (ck ((0:Int)≤5∧5≤(bc:Int)) (bnd (C Ac4 [.slice (G7 b (decide (0<bc)) (0*1)) ((Int.toNat 5)-0) (bc-0)] w3) fun q1 w4=>aInt .u8 q1 fun z6=>aSome b fun p=>ck ((0:Int)≤5∧5<(bn:Int)) (pV (add (B1 p) (Int.toNat 5*1)) (.int .u8 z6) w4 fun w5=>some (.bool true,w5))))):=kR
def En9:Cuts:=⟨0,[],[],[]⟩
def Gs1:List Item:=A3 Tryz.f219
theorem H40 :
 xQ En9 C R Dt9 Tryz.f219 Gs1 [(0,.agg ⟨f⟩)] h =
 nw (.cells D7 false f) h fun b w=>gInt .i64 ⟨b,0,none⟩ w fun x=>bnd (cond (decide (x≥1)) (gInt .i64 ⟨b,0,none⟩ w fun z1=>some (decide (z1≤3),w)) (some (false,w))) fun c w1=>bnd (cond c (gInt .i64 ⟨b,1,none⟩ w1 fun z2=>some (decide (z2≥0),w1)) (some (false,w1))) fun c_1 w2=>bnd (cond c_1 (gInt .i64 ⟨b,1,none⟩ w2 fun z3=>some (decide (z3≤7),w2)) (some (false,w2))) fun c_2 w3=>bnd (cond c_2 (gInt .i64 ⟨b,0,none⟩ w3 fun z4=>bnd (cond (z4 != 3) (some (true,w3)) (gInt .i64 ⟨b,1,none⟩ w3 fun z5=>some (z5==0,w3))) fun c_3 w4=>some (c_3,w4)) (some (false,w3))) fun c_4 w5=>bnd (cond c_4 (gInt .i64 ⟨b,2,none⟩ w5 fun z6=>some (decide (z6≥1),w5)) (some (false,w5))) fun c_5 w6=>bnd (cond c_5 (gInt .i64 ⟨b,2,none⟩ w6 fun z7=>some (decide (z7≤64),w6)) (some (false,w6))) fun c_6 w7=>bnd (cond c_6 (gInt .i64 ⟨b,3,none⟩ w7 fun z8=>bnd (cond (z8==0) (some (true,w7)) (gInt .i64 ⟨b,3,none⟩ w7 fun z9=>some (z9==1,w7))) fun c_7 w8=>some (c_7,w8)) (some (false,w7))) fun c_8 w9=>some (.bool c_8,w9):=kR
def Dy5:Cuts:=⟨0,[],[],[]⟩
def Ew4:List Item:=A3 Tryz.f222
theorem Hb1 (without:Int) :
 xQ Dy5 C R Ap3 Tryz.f222 Ew4 [(0,iI n),(1,iI without)] h =
 bnd (cond ((N9 .i64 n 65534)==0) (some ((B5 .i64 n without)==0,h)) (some (false,h))) fun c w=>some (.bool c,w):=kR
def D11:Cuts:=⟨0,[],[],[]⟩
def Ey7:List Item:=A3 Tryz.f223
theorem Hk9 (f:Int) :
 xQ D11 C R Bn4 Tryz.f223 Ey7 [(0,iI f)] h =
 bnd (cond (decide (f<0)) (some (true,h)) (some (decide (f>12),h))) fun c w=>some (.bool c,w):=kR
end
end Go.EQ

set_option maxRecDepth 100000
namespace Go.EQ
open Go Go.NN Go.Proofs
open Go.IntKind (wrap)
open Go.Addr (add)
variable (C:D6) (R:Ab3) (wasBalanced wasPartitioned:Bool) (h:H) (a atv b e env i j j_1 length limit lo n name pivot size stamp to v who x x7 x8:Int) (p:List Value) (bc bn datac datan lc ln sc sn:Nat) (c data k l m q r s wv:Option Addr) (cmp f:Value)
noncomputable section
def Ah4:Cuts:=⟨0,[(5,[0,3,4,5,6,7]),(14,[3,5,8])],[],[(9,⟨[0,1,2,3,4,5,6,7,8,9,10,11,13,14,15,16,12,17,18,19],[0,0,0,0,0,0,48,112,255,511,1023,2047,4095,2047,10239,26623,59391,131071,262143,524287],[(12,[16])],[]⟩)]⟩
def At3:List Item:=A3 Tryz.f3
def Aa4:List Item:=stk [0,1,0,1,0,1,0,0,1,4,5] At3
def Am4:List Item:=stk [0,1,0,1,0,1,0,1,0,1,0,0,1,4,5] At3
theorem Em2 :
 xQ Ah4 C R B8 Tryz.f3 At3 [(0,.slice l ln lc)] h =
 bnd (C Bo0 [] h) fun r w=>aAgg r fun x=>bnd (C Bb0 [.agg ⟨x⟩] w) fun q1 w1=>as4 q1 fun q2 q3 q4 q5=>aPtr q2 fun z1=>aPtr q3 fun z2=>aPtr q4 fun z3=>aPtr q5 fun z4=>bnd (cond z2.isNone (some (true,w1)) (bnd (C B02 [] w1) fun q6 w2=>aBool q6 fun z5=>some (!z5,w2))) fun c w3=>cond c
 (some (.bool false,w3))
 (R B8 Aa4 [(0,.slice l ln lc),(3,.pointer z1),(4,.pointer z2),(5,.pointer z3),(6,.pointer z4),(7,iI 0)] w3):=kR
theorem Bt4 :
 xQ Ah4 C R B8 Tryz.f3 Aa4 [(0,.slice l ln lc),(3,.pointer k),(4,.pointer c),(5,.pointer wv),(6,.pointer m),(7,iI i)] h =
 bnd (cond (decide (i<(ln:Int))) (some (decide (i<80),h)) (some (false,h))) fun c_1 w=>cond c_1
 (aSome l fun p=>ck ((0:Int)≤i∧i<(ln:Int)) (gSl (add (add (B1 p) (Int.toNat i*62)) 4) w fun _ xn _=>cond (decide ((xn:Int)>100))
 (some (.bool true,w))
 (aSome l fun p_1=>ck ((0:Int)≤i∧i<(ln:Int)) (gAgg (add (B1 p_1) (Int.toNat i*62)) 62 w fun z1=>bnd (C A38 [.pointer k,.pointer c,.pointer wv,.pointer m,.agg ⟨z1⟩] w) fun r w1=>aBool r fun z2=>bnd (cond (!z2) (some (true,w1)) (aSome m fun p_2=>gSl (add p_2 3) w1 fun z3 xn_1 xc_1=>bnd (C D4 [.pointer c] w1) fun q1 w2=>aSl q1 fun z4 xn_2 xc_2=>gSl (add p_2 3) w2 fun z5 xn_3 xc_3=>same (.slice z3 xn_1 xc_1) (.slice z5 xn_3 xc_3) (bnd (C Y0 [.slice z4 xn_2 xc_2,.slice z3 xn_1 xc_1] w2) fun q2 w3=>aBool q2 fun z6=>some (!z6,w3)))) fun c_2 w4=>cond c_2
 (some (.bool false,w4))
 (R B8 Aa4 [(0,.slice l ln lc),(3,.pointer k),(4,.pointer c),(5,.pointer wv),(6,.pointer m),(7,iI (wrap .i64 (i+1)))] w4)))))
 (bnd (C Ab7 [.pointer k] w) fun q3 w5=>aPtr q3 fun z7=>cond z7.isNone
 (some (.bool false,w5))
 (R B8 Am4 [(3,.pointer k),(5,.pointer wv),(8,iI 0)] w5)):=kR
theorem Bu1 :
 xQ Ah4 C R B8 Tryz.f3 Am4 [(3,.pointer k),(5,.pointer wv),(8,iI i)] h =
 cond (decide (i<4))
 (bnd (C Ab7 [.pointer k] h) fun r w=>aPtr r fun x=>bnd (C Ai2 [.pointer x,iI i] w) fun q1 w1=>as2 q1 fun q2 q3=>aSl q2 fun z1 xn _=>aInt .i64 q3 fun z2=>aSome wv fun p=>gPtr (add p 6) w1 fun z3=>bnd (C A36 [.pointer z3,iI i] w1) fun q4 w2=>as2 q4 fun q5 q6=>aStr q5 fun z4=>aInt .i64 q6 fun z5=>gCells z1 xn w2 fun cs=>asBytes cs fun l=>bnd (cond (!((ByteArray.mk ⟨l⟩).toList==z4.toList)) (some (true,w2)) (some (z2 != z5,w2))) fun c w3=>cond c
 (some (.bool false,w3))
 (R B8 Am4 [(3,.pointer k),(5,.pointer wv),(8,iI (wrap .i64 (i+1)))] w3))
 (some (.bool true,h)):=kR
def Dy2:Cuts:=⟨0,[],[],[]⟩
def Ex6:List Item:=A3 Tryz.f4
theorem G93 :
 xQ Dy2 C R Bb0 Tryz.f4 Ex6 [(0,.agg ⟨p⟩)] h =
 nw (.cells B83 false p) h fun b w=>gAgg ⟨b,0,none⟩ 3 w fun x=>bnd (C J4 [.agg ⟨x⟩] w) fun r w1=>aAgg r fun z1=>nw (.cells E3 false [.slice none 0 0,.slice none 0 0,.slice none 0 0,iI 0,.slice none 0 0]) w1 fun p1 w2=>ck (List.length z1=5) (pAgg ⟨p1,0,none⟩ z1 w2 fun w3=>gAgg ⟨p1,0,none⟩ 5 w3 fun z2=>bnd (C I3 [.agg ⟨z2⟩] w3) fun q1 w4=>as2 q1 fun q2 q3=>aPtr q2 fun z3=>aInt .i64 q3 fun z4=>bnd (cond z3.isNone (some (true,w4)) (some (z4 != 0,w4))) fun c w5=>cond c
 (some (.tuple ⟨[.pointer none,.pointer none,.pointer none,.pointer none]⟩,w5))
 (gAgg ⟨p1,0,none⟩ 5 w5 fun z5=>bnd (C G4 [.agg ⟨z5⟩] w5) fun q4 w6=>aPtr q4 fun z6=>bnd (C A18 [.pointer z3,iI 0] w6) fun q5 w7=>as2 q5 fun q6 q7=>aPtr q6 fun z7=>aInt .i64 q7 fun z8=>bnd (cond z7.isNone (some (true,w7)) (some (z8 != 0,w7))) fun c_1 w8=>cond c_1
 (some (.tuple ⟨[.pointer none,.pointer none,.pointer none,.pointer none]⟩,w8))
 (bnd (C Bz7 [] w8) fun q8 w9=>aStr q8 fun z9=>ck (ByteArray.size z9≤A8) (nw (.cells A2 false (A0 (ByteArray.data z9).toList)) w9 fun p2 w10=>bnd (C Q6 [.pointer z3,iI 0,.agg ⟨[iI 2,iI 256,iI 0,iI 0,iI 0,iI 0,.slice (some (Ak0 p2)) (ByteArray.size z9) (ByteArray.size z9)]⟩] w10) fun q9 w11=>aAgg q9 fun z10=>nth z10 0 fun E=>aInt .i64 E fun E_1=>cond (E_1 != 0)
 (some (.tuple ⟨[.pointer none,.pointer none,.pointer none,.pointer none]⟩,w11))
 (ck (ByteArray.size z9≤A8) (nw (.cells A2 false (A0 (ByteArray.data z9).toList)) w11 fun p3 w12=>bnd (C U5 [.pointer z6,iI 0,.agg ⟨[iI 2,iI 256,iI 0,iI 0,iI 0,iI 0,.slice (some (Ak0 p3)) (ByteArray.size z9) (ByteArray.size z9)]⟩] w12) fun q10 w13=>as3 q10 fun q11 q12 q13=>aInt .i64 q11 fun _=>aInt .i64 q12 fun _=>aStr q13 fun _=>bnd (C A45 [.pointer z6,iI 0] w13) fun q14 w14=>aPtr q14 fun z14=>some (.tuple ⟨[.pointer z3,.pointer z7,.pointer z6,.pointer z14]⟩,w14))))))):=kR
def Bo1:Cuts:=⟨0,[],[],[]⟩
def Dl4:List Item:=A3 Tryz.f20
theorem E09 :
 xQ Bo1 C R A45 Tryz.f20 Dl4 [(0,.pointer k),(1,iI env)] h =
 aSome k fun p=>gPtr (add p 6) h fun x=>aSome x fun p_1=>gPtr (add p_1 3) h fun z1=>bnd (C Bh3 [.pointer z1,iI env] h) fun r w=>aSl r fun z2 xn xc=>cond ((xn:Int)==0)
 (some (.pointer none,w))
 (nw (.cells B95 false [.pointer k,iI env,.slice z2 xn xc,.slice none 0 0]) w fun b w1=>some (pP b,w1)):=kR
def A59:Cuts:=⟨0,[],[],[]⟩
def By1:List Item:=A3 Tryz.f21
theorem D91 :
 xQ A59 C R V0 Tryz.f21 By1 [(0,.pointer c),(1,iI i)] h =
 nw (.cells B6 false zZ1) h fun b w=>bnd (C Aw5 [iI i] w) fun r w1=>aAgg r fun x=>bnd (C L0 [.pointer c,.agg ⟨x⟩,.func (.func Aw6) ⟨[]⟩ ⟨[]⟩] w1) fun q1 w2=>as2 q1 fun q2 q3=>aAgg q2 fun z1=>aInt .i64 q3 fun z2=>ck (List.length z1=16) (pAgg ⟨b,0,none⟩ z1 w2 fun w3=>gAgg ⟨b,0,none⟩ 16 w3 fun z3=>some (.tuple ⟨[.agg ⟨z3⟩,iI z2]⟩,w3)):=kR
def A51:Cuts:=⟨0,[],[],[]⟩
def By5:List Item:=A3 Tryz.f22
theorem Ea4 :
 xQ A51 C R U7 Tryz.f22 By5 [(0,.pointer c)] h =
 nw (.cells B3 false zZ2) h fun b w=>bnd (C I6 [.pointer c,.agg ⟨[iI 4,iI 0]⟩,.func (.func Aq6) ⟨[]⟩ ⟨[]⟩] w) fun r w1=>as2 r fun q1 q2=>aAgg q1 fun x=>aInt .i64 q2 fun z1=>ck (List.length x=36) (pAgg ⟨b,0,none⟩ x w1 fun w2=>gAgg ⟨b,0,none⟩ 36 w2 fun z2=>some (.tuple ⟨[.agg ⟨z2⟩,iI z1]⟩,w2)):=kR
def A12:Cuts:=⟨0,[],[],[]⟩
def Bu2:List Item:=A3 Tryz.f23
theorem D37 :
 xQ A12 C R S1 Tryz.f23 Bu2 [(0,.pointer c)] h =
 bnd (C U1 [.pointer c,.agg ⟨[iI 5,iI 0]⟩,.func (.func Ak2) ⟨[]⟩ ⟨[]⟩] h) fun r w=>as2 r fun q1 q2=>aInt .i64 q1 fun x=>aInt .i64 q2 fun z1=>some (.tuple ⟨[iI x,.bool (z1==1)]⟩,w):=kR
def Au2:Cuts:=⟨0,[],[],[]⟩
def Bm4:List Item:=A3 Tryz.f29
theorem Dt8 :
 xQ Au2 C R Af7 Tryz.f29 Bm4 [(0,.pointer c),(1,iI i),(2,.agg ⟨p⟩)] h =
 nw (.cells B6 false p) h fun b w=>gAgg ⟨b,0,none⟩ 16 w fun x=>bnd (C Bb9 [.agg ⟨x⟩] w) fun r w1=>as2 r fun q1 q2=>aSl q1 fun z1 xn xc=>aBool q2 fun z2=>bnd (C Aw5 [iI i] w1) fun q3 w2=>aAgg q3 fun z3=>bnd (C H1 [.pointer c,.agg ⟨z3⟩,.slice z1 xn xc,.bool z2] w2) fun q4 w3=>aBool q4 fun z4=>some (.bool z4,w3):=kR
def A09:Cuts:=⟨0,[],[],[]⟩
def Bt6:List Item:=A3 Tryz.f30
theorem D31 :
 xQ A09 C R Am0 Tryz.f30 Bt6 [(0,.pointer c),(1,iI i),(2,.agg ⟨p⟩)] h =
 nw (.cells B6 false p) h fun b w=>gAgg ⟨b,0,none⟩ 16 w fun x=>bnd (C Z1 [.agg ⟨x⟩] w) fun r w1=>aBool r fun z1=>bnd (cond z1 (gAgg ⟨b,0,none⟩ 16 w1 fun z2=>bnd (C Q1 [.agg ⟨z2⟩] w1) fun q1 w2=>aStr q1 fun z3=>bnd (C M7 [.pointer c,.agg ⟨[iI 1,iI i]⟩,.string z3] w2) fun q2 w3=>aBool q2 fun z4=>some (z4,w3)) (some (false,w1))) fun c_1 w4=>some (.bool c_1,w4):=kR
def Bf3:Cuts:=⟨0,[],[],[(6,⟨[0,1,2,3,4,5,6],[0,0,0,0,14,31,63],[(4,[0])],[]⟩)]⟩
def B94:List Item:=A3 Tryz.f34
theorem Ei8 :
 xQ Bf3 C R Aj4 Tryz.f34 B94 [(0,.pointer c),(1,iI i)] h =
 nw (.cells D7 false [iI 0,iI 0,iI 0,iI 0]) h fun b w=>nw (.cells A6 false [iI 0,iI 0]) w fun p1 w1=>pAgg ⟨p1,0,none⟩ [iI 2,iI i] w1 fun w2=>gAgg ⟨p1,0,none⟩ 2 w2 fun x=>bnd (C S6 [.pointer c,.agg ⟨x⟩] w2) fun r w3=>as2 r fun q1 q2=>aStr q1 fun z1=>aBool q2 fun z2=>cond (!z2)
 (pAgg ⟨b,0,none⟩ [iI 0,iI 0,iI 0,iI 0] w3 fun w4=>gAgg ⟨b,0,none⟩ 4 w4 fun z3=>some (.tuple ⟨[.agg ⟨z3⟩,iI 2]⟩,w4))
 (bnd (C Bs4 [.string z1] w3) fun q3 w5=>as2 q3 fun q4 q5=>aAgg q4 fun z4=>aInt .i64 q5 fun z5=>nw (.cells D7 false [iI 0,iI 0,iI 0,iI 0]) w5 fun p2 w6=>ck (List.length z4=4) (pAgg ⟨p2,0,none⟩ z4 w6 fun w7=>gAgg ⟨p2,0,none⟩ 4 w7 fun z6=>gAgg ⟨p1,0,none⟩ 2 w7 fun z7=>bnd (C Z8 [.pointer c,.agg ⟨z7⟩,iI z5] w7) fun q6 w8=>aInt .i64 q6 fun z8=>gAgg ⟨p2,0,none⟩ 4 w8 fun z9=>same (.agg ⟨z6⟩) (.agg ⟨z9⟩) (ck (List.length z6=4) (pAgg ⟨b,0,none⟩ z6 w8 fun w9=>gAgg ⟨b,0,none⟩ 4 w9 fun z10=>some (.tuple ⟨[.agg ⟨z10⟩,iI z8]⟩,w9))))):=kR
def As8:Cuts:=⟨0,[],[],[]⟩
def Bl1:List Item:=A3 Tryz.f41
theorem Dq8 :
 xQ As8 C R Af9 Tryz.f41 Bl1 [(0,.pointer c),(1,iI i),(2,.agg ⟨p⟩)] h =
 nw (.cells B3 false p) h fun b w=>gAgg ⟨b,0,none⟩ 36 w fun x=>bnd (C A16 [.agg ⟨x⟩] w) fun r w1=>as2 r fun q1 q2=>aSl q1 fun z1 xn xc=>aBool q2 fun z2=>bnd (C Aw8 [iI i] w1) fun q3 w2=>aAgg q3 fun z3=>bnd (C H1 [.pointer c,.agg ⟨z3⟩,.slice z1 xn xc,.bool z2] w2) fun q4 w3=>aBool q4 fun z4=>some (.bool z4,w3):=kR
def Ax2:Cuts:=⟨0,[],[],[]⟩
def Bm8:List Item:=A3 Tryz.f44
theorem Dz3 :
 xQ Ax2 C R Ah3 Tryz.f44 Bm8 [(0,.pointer c),(1,iI i)] h =
 bnd (C Z7 [.pointer c,.agg ⟨[iI 3,iI i]⟩] h) fun r w=>aBool r fun x=>some (.bool x,w):=kR
def Bg0:Cuts:=⟨0,[],[],[]⟩
def Db6:List Item:=A3 Tryz.f45
theorem El5 :
 xQ Bg0 C R Ai1 Tryz.f45 Db6 [(0,.pointer c)] h =
 nw (.cells B3 false zZ2) h fun b w=>bnd (C Ac6 [.pointer c,.agg ⟨[iI 4,iI 0]⟩] w) fun r w1=>as2 r fun q1 q2=>aAgg q1 fun x=>aInt .i64 q2 fun z1=>ck (List.length x=36) (pAgg ⟨b,0,none⟩ x w1 fun w2=>gAgg ⟨b,0,none⟩ 36 w2 fun z2=>some (.tuple ⟨[.agg ⟨z2⟩,iI z1]⟩,w2)):=kR
def Dz1:Cuts:=⟨0,[],[],[]⟩
def E59:List Item:=A3 Tryz.f62
theorem Hj4 :
 xQ Dz1 C R B97 Tryz.f62 E59 [(0,.pointer m),(1,.pointer s)] h =
 nw (.cells Dx3 false [.pointer m,.pointer s,.slice none 0 0]) h fun b w=>some (pP b,w):=kR
def Bc8:Cuts:=⟨0,[],[],[]⟩
def Db7:List Item:=A3 Tryz.f64
theorem Em9 :
 xQ Bc8 C R As6 Tryz.f64 Db7 [(0,.pointer r),(1,iI lo),(2,iI n)] h =
 bnd (cond (decide (lo<0)) (some (true,h)) (some (decide (n<0),h))) fun c w=>bnd (cond c (some (true,w)) (aSome r fun p=>gPtr (add p 0) w fun x=>bnd (C A88 [.pointer x] w) fun q1 w1=>aInt .i64 q1 fun z1=>some (decide (lo>z1),w1))) fun c_1 w2=>bnd (cond c_1 (some (true,w2)) (aSome r fun p_1=>gPtr (add p_1 0) w2 fun z2=>bnd (C A88 [.pointer z2] w2) fun q2 w3=>aInt .i64 q2 fun z3=>some (decide (n>(wrap .i64 (z3-lo))),w3))) fun c_2 w4=>cond c_2
 (some (.tuple ⟨[iI 0,iI 1]⟩,w4))
 (aSome r fun p_2=>gSl (add p_2 2) w4 fun _ xn _=>cond (decide ((xn:Int)≥32))
 (some (.tuple ⟨[iI 0,iI 4]⟩,w4))
 (aSome r fun p_3=>gSl (add p_3 2) w4 fun z5 xn_1 xc_1=>nw (.cells A19 false [iI lo,iI n]) w4 fun b w5=>gCells (some ⟨b,0,none⟩) (1*2) w5 fun cs=>ckB (fitsOpen z5 A19 w5) (apd A19 2 z5 xn_1 xc_1 1 cs w5 fun a an ac w6=>aSome r fun p_4=>pV (add p_4 2) (.slice a an ac) w6 fun w7=>aSome r fun p_5=>gSl (add p_5 2) w7 fun _ xn_2 _=>some (.tuple ⟨[iI (wrap .i64 ((xn_2:Int)-1)),iI 0]⟩,w7)))):=kR
def B24:Cuts:=⟨0,[],[],[]⟩
def Dv8:List Item:=A3 Tryz.f67
theorem Gk4 (c:List Value) :
 xQ B24 C R Bf0 Tryz.f67 Dv8 [(0,.pointer s),(1,iI env),(2,.agg ⟨c⟩)] h =
 nw (.cells O8 false c) h fun b w=>bnd (C Ai6 [.pointer s,iI env] w) fun r w1=>aBool r fun x=>bnd (cond (!x) (some (true,w1)) (gInt .i64 ⟨b,1,none⟩ w1 fun z1=>some ((N9 .i64 z1 7) != 0,w1))) fun c_1 w2=>bnd (cond c_1 (some (true,w2)) (gInt .i64 ⟨b,2,none⟩ w2 fun z2=>bnd (C Ap1 [iI z2] w2) fun q1 w3=>aBool q1 fun z3=>some (!z3,w3))) fun c_2 w4=>bnd (cond c_2 (some (true,w4)) (gInt .i64 ⟨b,3,none⟩ w4 fun z4=>bnd (C Ap1 [iI z4] w4) fun q2 w5=>aBool q2 fun z5=>some (!z5,w5))) fun c_3 w6=>cond c_3
 (some (.tuple ⟨[iI 0,iI 1]⟩,w6))
 (pAgg ⟨b,4,none⟩ [iI 0,iI 0] w6 fun w7=>gAgg ⟨b,0,none⟩ 6 w7 fun z6=>bnd (C Ax4 [.pointer s,iI env,.agg ⟨z6⟩] w7) fun q3 w8=>as2 q3 fun q4 q5=>aInt .i64 q4 fun z7=>aInt .i64 q5 fun z8=>some (.tuple ⟨[iI z7,iI z8]⟩,w8)):=kR
def A30:Cuts:=⟨0,[(3,[0,1,5,6])],[],[]⟩
def Bq1:List Item:=A3 Tryz.f69
def Aq2:List Item:=stk [0,1,0,1,0,0,1,4,5] Bq1
theorem E47 (s:Int) :
 xQ A30 C R N8 Tryz.f69 Bq1 [(0,.pointer q),(1,iI s)] h =
 R N8 Aq2 [(0,.pointer q),(1,iI s),(5,iI 0),(6,iI 0)] h:=kR
theorem B51 (s:Int) :
 xQ A30 C R N8 Tryz.f69 Aq2 [(0,.pointer q),(1,iI s),(5,iI n),(6,iI i)] h =
 cond (decide (i<s))
 (aSome q fun p=>gSl (add p 0) h fun x xn _=>aSome x fun p_1=>ck ((0:Int)≤i∧i<(xn:Int)) (gSl (add (B1 p_1) (Int.toNat i*1)) h fun _ xn_1 _=>R N8 Aq2 [(0,.pointer q),(1,iI s),(5,iI (wrap .i64 (n+(xn_1:Int)))),(6,iI (wrap .i64 (i+1)))] h))
 (some (iI n,h)):=kR
def D63:Cuts:=⟨0,[(2,[0,1,5])],[],[]⟩
def Ev6:List Item:=A3 Tryz.f73
def B65:List Item:=stk [0,1,0,0,1,4,5] Ev6
theorem H92 (s:Int) :
 xQ D63 C R Bc6 Tryz.f73 Ev6 [(0,.slice l ln lc),(1,iI s)] h =
 R Bc6 B65 [(0,.slice l ln lc),(1,iI s),(5,iI 0)] h:=kR
theorem E17 (s:Int) :
 xQ D63 C R Bc6 Tryz.f73 B65 [(0,.slice l ln lc),(1,iI s),(5,iI i)] h =
 cond (decide (i<(ln:Int)))
 (aSome l fun p=>ck ((0:Int)≤i∧i<(ln:Int)) (gInt .i64 (add (B1 p) (Int.toNat i*1)) h fun x=>cond (x==s)
 (some (.bool true,h))
 (R Bc6 B65 [(0,.slice l ln lc),(1,iI s),(5,iI (wrap .i64 (i+1)))] h)))
 (some (.bool false,h)):=kR
def Bw2:Cuts:=⟨0,[],[],[]⟩
def Dp9:List Item:=A3 Tryz.f75
theorem Gb6 :
 xQ Bw2 C R As1 Tryz.f75 Dp9 [(0,.pointer k)] h =
 aSome k fun p=>gPtr (add p 3) h fun x=>some (.pointer x,h):=kR
def Bg5:Cuts:=⟨0,[],[],[]⟩
def Da0:List Item:=A3 Tryz.f82
theorem Ej4 (b:ByteArray) :
 xQ Bg5 C R At5 Tryz.f82 Da0 [(0,.pointer r),(1,iI e),(2,iI name),(3,iI atv),(4,.string b)] h =
 bnd (C Aj9 [.pointer r,iI e,iI name,iI 2,iI atv,iI ((ByteArray.size b:Nat):Int)] h) fun q1 w=>as2 q1 fun q2 q3=>aInt .i64 q2 fun x=>aInt .i64 q3 fun z1=>cond (z1 != 0)
 (some (iI z1,w))
 (aSome r fun p=>gSl (add p 0) w fun z2 xn xc=>ckB (fitsOpen z2 A2 w) (ck ((0:Int)≤x∧x≤(xn:Int)) (pCells (G7 z2 (decide (Int.toNat x<xc)) ((Int.toNat x)*1)) (A0 (List.take (min (ByteArray.size b) (xn-(Int.toNat x))) (ByteArray.data b).toList)) w fun w1=>some (iI 0,w1)))):=kR
def Ag2:Cuts:=⟨0,[],[(8,[6,8,11,12])],[(7,⟨[0,1,2,3,4,5,6,7,8,9],[0,1,3,7,0,31,63,31,159,511],[(7,[5])],[]⟩)]⟩
def At6:List Item:=A3 Tryz.f92
def An8:List Item:=stk [0,1,0,1,0,1,0,1,0,1,0,1,0,0] At6
theorem Dr4 (r:List Value) (decode:Value) :
 xQ Ag2 C R L0 Tryz.f92 At6 [(0,.pointer c),(1,.agg ⟨r⟩),(2,decode)] h =
 nw (.cells A6 false r) h fun b w=>nw (.cells B6 false zZ1) w fun p1 w1=>nw (.cells B6 false zZ1) w1 fun p2 w2=>gAgg ⟨b,0,none⟩ 2 w2 fun x=>bnd (C O5 [.pointer c,.agg ⟨x⟩] w2) fun q1 w3=>as2 q1 fun q2 q3=>aSl q2 fun z1 xn xc=>aBool q3 fun z2=>cond (!z2)
 (gAgg ⟨p2,0,none⟩ 16 w3 fun z3=>ck (List.length z3=16) (pAgg ⟨p1,0,none⟩ z3 w3 fun w4=>gAgg ⟨p1,0,none⟩ 16 w4 fun z4=>some (.tuple ⟨[.agg ⟨z4⟩,iI 2]⟩,w4)))
 (aFn decode fun g fi cp=>bnd (C g (fi++([.slice z1 xn xc]++cp)) w3) fun q4 w5=>as2 q4 fun q5 q6=>aAgg q5 fun z5=>aInt .i64 q6 fun z6=>nw (.cells B6 false zZ1) w5 fun p3 w6=>ck (List.length z5=16) (pAgg ⟨p3,0,none⟩ z5 w6 fun w7=>cond (z6==2)
 (aSome c fun p=>gMap (add p 3) w7 fun z7=>gAgg ⟨b,0,none⟩ 2 w7 fun z8=>keyN PR A6 (.agg ⟨z8⟩) (opt z7 fun q7=>mapAt w7 q7 fun es _=>opt (Ao1 (iI 0) (.agg ⟨z8⟩) es) fun f=>aInt .i64 f.1 fun z9=>keyN PR A6 (.agg ⟨z8⟩) (opt z7 fun q8=>mapAt w7 q8 fun es_1 cl_1=>opt (Ea8 (iI 0) (.agg ⟨z8⟩) es_1 cl_1) fun f_1=>aInt .i64 f_1.1 fun _=>lt (H.set w7 q8 f_1.2.2) fun w8=>keyN PR A6 (.agg ⟨z8⟩) (opt z7 fun q9=>mapAt w8 q9 fun es_2 _=>opt (Ao1 (iI 0) (.agg ⟨z8⟩) es_2) fun f_2=>aInt .i64 f_2.1 fun z11=>same (iI z9) (iI z11) (opt z7 fun q10=>mapAt w8 q10 fun es_3 cl_3=>opt (Br3 (f_1.2.1:Int) es_3 0) fun i=>lt (H.set w8 q10 (.map (modN (fun e=>{ e with val:=iI (wrap .i64 (z9+1)) }) i es_3) cl_3)) fun w9=>R L0 An8 [(6,pP p1),(8,pP p2),(11,pP p3),(12,iI z6)] w9)))))
 (R L0 An8 [(6,pP p1),(8,pP p2),(11,pP p3),(12,iI z6)] w7))):=kR
theorem Bb7 (x6:Addr) (nonev:Addr) (v:Addr) (isv:Int) :
 xQ Ag2 C R L0 Tryz.f92 An8 [(6,.pointer (some x6)),(8,.pointer (some nonev)),(11,.pointer (some v)),(12,iI isv)] h =
 cond (isv != 1)
 (gAgg nonev 16 h fun x=>ck (List.length x=16) (pAgg x6 x h fun w=>gAgg x6 16 w fun z1=>some (.tuple ⟨[.agg ⟨z1⟩,iI isv]⟩,w)))
 (gAgg v 16 h fun z2=>ck (List.length z2=16) (pAgg x6 z2 h fun w1=>gAgg x6 16 w1 fun z3=>some (.tuple ⟨[.agg ⟨z3⟩,iI isv]⟩,w1))):=kR
def Dn2:Cuts:=⟨0,[],[],[]⟩
def Eu0:List Item:=A3 Tryz.f96
theorem G52 (b:Option Addr) :
 xQ Dn2 C R Aq6 Tryz.f96 Eu0 [(0,.slice b bn bc)] h =
 nw (.cells B3 false zZ2) h fun p1 w=>bnd (cond ((bn:Int)==40) (bnd (C Ar5 [.slice b bn bc] w) fun r w1=>aBool r fun x=>some (x,w1)) (some (false,w))) fun c w2=>cond c
 (pAgg ⟨p1,0,none⟩ zZ2 w2 fun w3=>gAgg ⟨p1,0,none⟩ 36 w3 fun z1=>some (.tuple ⟨[.agg ⟨z1⟩,iI 0]⟩,w3))
 (bnd (C Bn6 [] w2) fun q1 w4=>aPtr q1 fun z2=>bnd (C W4 [.pointer z2,.slice b bn bc] w4) fun q2 w5=>as2 q2 fun q3 q4=>aAgg q3 fun z3=>aBool q4 fun z4=>nw (.cells B3 false zZ2) w5 fun p2 w6=>ck (List.length z3=36) (pAgg ⟨p2,0,none⟩ z3 w6 fun w7=>cond (!z4)
 (pAgg ⟨p1,0,none⟩ zZ2 w7 fun w8=>gAgg ⟨p1,0,none⟩ 36 w8 fun z5=>some (.tuple ⟨[.agg ⟨z5⟩,iI 2]⟩,w8))
 (gAgg ⟨p2,0,none⟩ 36 w7 fun z6=>ck (List.length z6=36) (pAgg ⟨p1,0,none⟩ z6 w7 fun w9=>gAgg ⟨p1,0,none⟩ 36 w9 fun z7=>some (.tuple ⟨[.agg ⟨z7⟩,iI 1]⟩,w9))))):=kR
def Bg3:Cuts:=⟨0,[],[],[]⟩
def Db4:List Item:=A3 Tryz.f102
theorem Ei4 (r:List Value) (d:Int) :
 xQ Bg3 C R Z8 Tryz.f102 Db4 [(0,.pointer c),(1,.agg ⟨r⟩),(2,iI d)] h =
 nw (.cells A6 false r) h fun b w=>cond (d==2)
 (gAgg ⟨b,0,none⟩ 2 w fun x=>bnd (C G0 [.pointer c,.agg ⟨x⟩] w) fun q1 w1=>as0 q1 (some (iI d,w1)))
 (some (iI d,w)):=kR
def A11:Cuts:=⟨0,[],[],[(2,⟨[0,1,2,3,4,5,6,7,8,9,10,11,12,13,14],[0,1,3,7,15,31,63,127,255,511,1023,127,4095,8191,16383],[],[]⟩),(4,⟨[0,1,2,3,4,5,6,7,8,9,10,11,12,13,14,15,16,17],[0,1,3,7,0,16,48,112,0,256,0,1024,0,7936,16383,32767,65535,131071],[],[]⟩)]⟩
def Bu4:List Item:=A3 Tryz.f104
theorem D22 (r:List Value) (b:Option Addr) (ok:Bool) :
 xQ A11 C R H1 Tryz.f104 Bu4 [(0,.pointer c),(1,.agg ⟨r⟩),(2,.slice b bn bc),(3,.bool ok)] h =
 nw (.cells A6 false r) h fun p1 w=>gAgg ⟨p1,0,none⟩ 2 w fun x=>bnd (C S4 [.pointer c,.agg ⟨x⟩] w) fun q1 w1=>as2 q1 fun q2 q3=>aAgg q2 fun z1=>aBool q3 fun z2=>nw (.cells Bm5 false [iI 0,iI 0,iI 0]) w1 fun p2 w2=>ck (List.length z1=3) (pAgg ⟨p2,0,none⟩ z1 w2 fun w3=>bnd (cond (!z2) (some (true,w3)) (some (!ok,w3))) fun c_1 w4=>bnd (cond c_1 (some (true,w4)) (aSome c fun p=>gMap (add p 3) w4 fun z3=>gAgg ⟨p1,0,none⟩ 2 w4 fun z4=>keyN PR A6 (.agg ⟨z4⟩) (opt z3 fun q4=>mapAt w4 q4 fun es _=>opt (Ao1 (iI 0) (.agg ⟨z4⟩) es) fun f=>aInt .i64 f.1 fun z5=>some (decide (z5>0),w4)))) fun c_2 w5=>cond c_2
 (some (.bool false,w5))
 (aSome c fun p_1=>gPtr (add p_1 0) w5 fun z6=>aSome c fun p_2=>gInt .i64 (add p_2 1) w5 fun z7=>gInt .i64 ⟨p2,0,none⟩ w5 fun z8=>gInt .i64 ⟨p2,1,none⟩ w5 fun z9=>bnd (C Q6 [.pointer z6,iI z7,.agg ⟨[iI 2,iI z8,iI z9,iI 0,iI 0,iI 0,.slice b bn bc]⟩] w5) fun q5 w6=>aAgg q5 fun z10=>nth z10 0 fun E=>aInt .i64 E fun E_1=>some (.bool (E_1==0),w6))):=kR
def Bs0:Cuts:=⟨0,[(7,[1,3,4])],[],[]⟩
def Dg2:List Item:=A3 Tryz.f105
def A71:List Item:=stk [0,1,0,1,0,1,0,1,0,0,1,4,5] Dg2
theorem Gv0 :
 xQ Bs0 C R Z1 Tryz.f105 Dg2 [(0,.agg ⟨p⟩)] h =
 nw (.cells B6 false p) h fun b w=>gInt .i64 ⟨b,0,none⟩ w fun x=>bnd (C Q2 [iI x,iI 1,iI 3] w) fun r w1=>aBool r fun z1=>bnd (cond (!z1) (some (true,w1)) (gInt .i64 ⟨b,1,none⟩ w1 fun z2=>bnd (C Q2 [iI z2,iI 0,iI 8] w1) fun q1 w2=>aBool q1 fun z3=>some (!z3,w2))) fun c w3=>bnd (cond c (some (true,w3)) (gInt .i64 ⟨b,2,none⟩ w3 fun z4=>bnd (C Q2 [iI z4,iI 0,iI 7] w3) fun q2 w4=>aBool q2 fun z5=>some (!z5,w4))) fun c_1 w5=>bnd (cond c_1 (some (true,w5)) (gInt .i64 ⟨b,3,none⟩ w5 fun z6=>bnd (C Q2 [iI z6,iI 0,iI 255] w5) fun q3 w6=>aBool q3 fun z7=>some (!z7,w6))) fun c_2 w7=>cond c_2
 (some (.bool false,w7))
 (gInt .i64 ⟨b,4,none⟩ w7 fun z8=>bnd (C Ah8 [iI z8] w7) fun q4 w8=>aBool q4 fun z9=>bnd (cond (!z9) (some (true,w8)) (gInt .i64 ⟨b,5,none⟩ w8 fun z10=>bnd (C Ah8 [iI z10] w8) fun q5 w9=>aBool q5 fun z11=>some (!z11,w9))) fun c_3 w10=>bnd (cond c_3 (some (true,w10)) (gInt .i64 ⟨b,6,none⟩ w10 fun z12=>bnd (C Ah8 [iI z12] w10) fun q6 w11=>aBool q6 fun z13=>some (!z13,w11))) fun c_4 w12=>bnd (cond c_4 (some (true,w12)) (gInt .i64 ⟨b,7,none⟩ w12 fun z14=>bnd (C Ah8 [iI z14] w12) fun q7 w13=>aBool q7 fun z15=>some (!z15,w13))) fun c_5 w14=>bnd (cond c_5 (some (true,w14)) (gInt .i64 ⟨b,5,none⟩ w14 fun z16=>gInt .i64 ⟨b,6,none⟩ w14 fun z17=>gInt .i64 ⟨b,7,none⟩ w14 fun z18=>some ((B5 .i64 (Dw8 .i64 (Dw8 .i64 z16 z17) z18) 16896) != 0,w14))) fun c_6 w15=>bnd (cond c_6 (some (true,w15)) (gInt .i64 ⟨b,6,none⟩ w15 fun z19=>gInt .i64 ⟨b,7,none⟩ w15 fun z20=>some ((B5 .i64 z19 z20) != 0,w15))) fun c_7 w16=>cond c_7
 (some (.bool false,w16))
 (R Z1 A71 [(1,pP b),(3,.bool false),(4,iI 0)] w16)):=kR
theorem Dp1 (p:Addr) (somev:Bool) :
 xQ Bs0 C R Z1 Tryz.f105 A71 [(1,.pointer (some p)),(3,.bool somev),(4,iI i)] h =
 cond (decide (i<8))
 (ck ((0:Int)≤i∧i<((8:Nat):Int)) (gInt .i64 (add (add p 8) (Int.toNat i*1)) h fun x=>bnd (C Q2 [iI x,iI 0,iI 12] h) fun r w=>aBool r fun z1=>cond (!z1)
 (some (.bool false,w))
 (bnd (cond somev (some (true,w)) (ck ((0:Int)≤i∧i<((8:Nat):Int)) (gInt .i64 (add (add p 8) (Int.toNat i*1)) w fun z2=>some (z2 != 0,w)))) fun c w1=>R Z1 A71 [(1,.pointer (some p)),(3,.bool c),(4,iI (wrap .i64 (i+1)))] w1)))
 (gInt .i64 (add p 0) h fun z3=>cond (z3==2)
 (bnd (cond (!somev) (gInt .i64 (add p 4) h fun z4=>some (z4==0,h)) (some (false,h))) fun c_1 w2=>some (.bool c_1,w2))
 (gInt .i64 (add p 3) h fun z5=>some (.bool (z5==0),h))):=kR
def A92:Cuts:=⟨0,[],[],[(4,⟨[0,1,2,3,4,5,6,7,8,9,10,11,12,13,14,15,16,17,18,19,20,21,22,23,24,25,26],[0,1,3,7,0,16,48,112,0,256,768,1792,0,7936,16128,0,0,65536,261888,524287,1048575,2097151,2097151,2097151,4194303,25165823,67108863],[],[]⟩)]⟩
def B48:List Item:=A3 Tryz.f106
theorem Eg7 (r:List Value) (b:ByteArray) :
 xQ A92 C R M7 Tryz.f106 B48 [(0,.pointer c),(1,.agg ⟨r⟩),(2,.string b)] h =
 nw (.cells A6 false r) h fun p1 w=>gAgg ⟨p1,0,none⟩ 2 w fun x=>bnd (C W2 [.pointer c,.agg ⟨x⟩] w) fun q1 w1=>as4 q1 fun q2 q3 q4 q5=>aInt .i64 q2 fun z1=>aInt .i64 q3 fun z2=>aInt .i64 q4 fun _=>aBool q5 fun z4=>bnd (cond (!z4) (some (true,w1)) (gAgg ⟨p1,0,none⟩ 2 w1 fun z5=>bnd (C L9 [.pointer c,.agg ⟨z5⟩] w1) fun q6 w2=>aBool q6 fun z6=>some (z6,w2))) fun c_1 w3=>cond c_1
 (some (.bool false,w3))
 (aSome c fun p=>gPtr (add p 0) w3 fun z7=>aSome c fun p_1=>gInt .i64 (add p_1 1) w3 fun z8=>aSome c fun p_2=>gSl (add p_2 2) w3 fun z9 xn _=>aSome z9 fun p_3=>ck ((0:Int)≤z1∧z1<(xn:Int)) (gInt .i64 (add (B1 p_3) (Int.toNat z1*1)) w3 fun z10=>ck (ByteArray.size b≤A8) (nw (.cells A2 false (A0 (ByteArray.data b).toList)) w3 fun p2 w4=>bnd (C U5 [.pointer z7,iI z8,.agg ⟨[iI 2,iI z10,iI z2,iI 0,iI 0,iI 0,.slice (some (Ak0 p2)) (ByteArray.size b) (ByteArray.size b)]⟩] w4) fun q7 w5=>as3 q7 fun q8 q9 q10=>aInt .i64 q8 fun z11=>aInt .i64 q9 fun _=>aStr q10 fun _=>some (.bool (z11==0),w5)))):=kR
def Bv7:Cuts:=⟨0,[],[],[]⟩
def Dq2:List Item:=A3 Tryz.f116
theorem Gb7 (f:List Value) :
 xQ Bv7 C R Ar9 Tryz.f116 Dq2 [(0,.agg ⟨f⟩)] h =
 nw (.cells D7 false f) h fun b w=>gInt .i64 ⟨b,0,none⟩ w fun x=>gInt .i64 ⟨b,1,none⟩ w fun z1=>gInt .i64 ⟨b,2,none⟩ w fun z2=>gInt .i64 ⟨b,3,none⟩ w fun z3=>nw (.cells A2 false [.int .u8 (wrap .u8 (x)),.int .u8 (wrap .u8 (z1)),.int .u8 (wrap .u8 (z2)),.int .u8 (wrap .u8 (z3)),.int .u8 179]) w fun p1 w1=>gCells (some ⟨p1,0,none⟩) 5 w1 fun cs=>asBytes cs fun l=>bnd (C Aj6 [.string (ByteArray.mk ⟨l⟩)] w1) fun r w2=>aInt .u8 r fun z4=>nw (.cells A2 false [.int .u8 z4,.int .u8 0,.int .u8 0]) w2 fun p2 w3=>gCells (some ⟨p2,0,none⟩) 3 w3 fun cs_1=>asBytes cs_1 fun l_1=>ck (ByteArray.size (ByteArray.mk ⟨l⟩)+ByteArray.size (ByteArray.mk ⟨l_1⟩)≤A8) (some (.string ((ByteArray.mk ⟨l⟩)++(ByteArray.mk ⟨l_1⟩)),w3)):=kR
def Df3:Cuts:=⟨0,[],[],[]⟩
def Eg4:List Item:=A3 Tryz.f125
theorem Gx3 (s:Int) (fv0:Addr) :
 xQ Df3 C R H5 Tryz.f125 Eg4 [(0,iI s),(1,.pointer (some fv0))] h =
 bnd (cond (decide (s<0)) (some (true,h)) (gSl (add fv0 0) h fun _ xn _=>some (decide (s≥(xn:Int)),h))) fun c w=>some (.bool c,w):=kR
def Ag7:Cuts:=⟨0,[],[],[]⟩
def A00:List Item:=A3 Tryz.f126
theorem A01 :
 xQ Ag7 C R E7 Tryz.f126 A00 [(0,.slice s sn sc),(1,f)] h =
 bnd (C E0 [.slice s sn sc,f] h) fun r w=>aInt .i64 r fun x=>some (.bool (decide (x≥0)),w):=kR
def Dv5:Cuts:=⟨0,[],[],[]⟩
def E24:List Item:=A3 Tryz.f127
theorem Hd7 (c:List Value) (x:List Value) :
 xQ Dv5 C R B71 Tryz.f127 E24 [(0,.agg ⟨c⟩),(1,.agg ⟨x⟩)] h =
 nw (.cells E3 false c) h fun b w=>nw (.cells I9 false x) w fun p1 w1=>gInt .i64 ⟨p1,0,none⟩ w1 fun z1=>bnd (cond (decide (z1<0)) (some (true,w1)) (gInt .i64 ⟨p1,0,none⟩ w1 fun z2=>gSl ⟨b,0,none⟩ w1 fun _ xn _=>some (decide (z2≥(xn:Int)),w1))) fun c_1 w2=>bnd (cond c_1 (some (true,w2)) (gInt .i64 ⟨p1,1,none⟩ w2 fun z4=>some (decide (z4<0),w2))) fun c_2 w3=>bnd (cond c_2 (some (true,w3)) (gInt .i64 ⟨p1,2,none⟩ w3 fun z5=>some (decide (z5<0),w3))) fun c_3 w4=>bnd (cond c_3 (some (true,w4)) (gInt .i64 ⟨p1,3,none⟩ w4 fun z6=>some (decide (z6<0),w4))) fun c_4 w5=>cond c_4
 (some (.bool false,w5))
 (gSl ⟨b,0,none⟩ w5 fun z7 xn_1 _=>gInt .i64 ⟨p1,0,none⟩ w5 fun z8=>aSome z7 fun p=>ck ((0:Int)≤z8∧z8<(xn_1:Int)) (gInt .i64 (add (B1 p) (Int.toNat z8*1)) w5 fun z9=>bnd (C Bi3 [iI z9] w5) fun r w6=>aInt .i64 r fun z10=>gInt .i64 ⟨p1,1,none⟩ w6 fun z11=>cond (decide (z11>z10))
 (some (.bool false,w6))
 (gInt .i64 ⟨p1,1,none⟩ w6 fun z12=>gInt .i64 ⟨p1,2,none⟩ w6 fun z13=>bnd (cond (decide (z13≤(wrap .i64 ((wrap .i64 (z10-z12))*64)))) (gInt .i64 ⟨p1,3,none⟩ w6 fun z14=>gInt .i64 ⟨p1,2,none⟩ w6 fun z15=>some (decide (z14≤(wrap .i64 ((wrap .i64 ((wrap .i64 (z10-z12))*64))-z15))),w6)) (some (false,w6))) fun c_5 w7=>some (.bool c_5,w7)))):=kR
def Ai9:Cuts:=⟨0,[(2,[0,1,7,8])],[],[]⟩
def Ay2:List Item:=A3 Tryz.f130
def Ab4:List Item:=stk [0,1,0,0,1,4,5] Ay2
theorem D14 :
 xQ Ai9 C R H9 Tryz.f130 Ay2 [(0,.slice s sn sc),(1,iI v)] h =
 R H9 Ab4 [(0,.slice s sn sc),(1,iI v),(7,iI (sn:Int)),(8,iI 0)] h:=kR
theorem Bc4 :
 xQ Ai9 C R H9 Tryz.f130 Ab4 [(0,.slice s sn sc),(1,iI v),(7,iI x7),(8,iI x8)] h =
 cond (decide (x8<x7))
 (aSome s fun p=>ck ((0:Int)≤x8∧x8<(sn:Int)) (gInt .i64 (add (B1 p) (Int.toNat x8*1)) h fun x=>cond (v==x)
 (some (iI x8,h))
 (R H9 Ab4 [(0,.slice s sn sc),(1,iI v),(7,iI x7),(8,iI (wrap .i64 (x8+1)))] h)))
 (some (iI (-1),h)):=kR
def Do1:Cuts:=⟨0,[],[],[]⟩
def Es5:List Item:=A3 Tryz.f135
theorem G62 :
 xQ Do1 C R Ak5 Tryz.f135 Es5 [(0,iI atv),(1,iI n),(2,iI size)] h =
 bnd (cond (decide (atv≥0)) (some (decide (n≥0),h)) (some (false,h))) fun c w=>bnd (cond c (some (decide (atv≤size),w)) (some (false,w))) fun c_1 w1=>bnd (cond c_1 (some (decide (n≤(wrap .i64 (size-atv))),w1)) (some (false,w1))) fun c_2 w2=>some (.bool c_2,w2):=kR
def B18:Cuts:=⟨0,[],[],[(4,⟨[0,1,2,3,4,5,6,7,8,9,10,11],[0,1,3,7,0,31,63,0,128,0,1023,2047],[],[]⟩)]⟩
def Dy0:List Item:=A3 Tryz.f137
theorem Gg6 (c:List Value) :
 xQ B18 C R Be8 Tryz.f137 Dy0 [(0,.pointer s),(1,iI e),(2,.agg ⟨c⟩)] h =
 nw (.cells O8 false c) h fun b w=>aSome s fun p=>gSl (add p 0) w fun x xn _=>aSome x fun p_1=>ck ((0:Int)≤e∧e<(xn:Int)) (gPtr (add (B1 p_1) (Int.toNat e*1)) w fun z1=>bnd (C Y2 [.pointer z1] w) fun r w1=>as2 r fun q1 q2=>aInt .i64 q1 fun z2=>aBool q2 fun z3=>cond (!z3)
 (some (.tuple ⟨[iI 0,iI 4]⟩,w1))
 (aSome s fun p_2=>gSl (add p_2 1) w1 fun z4 xn_1 _=>aSome z4 fun p_3=>ck ((0:Int)≤e∧e<(xn_1:Int)) (gSl (add (B1 p_3) (Int.toNat e*1)) w1 fun z5 xn_2 _=>gAgg ⟨b,0,none⟩ 6 w1 fun z6=>aSome z5 fun p_4=>ck ((0:Int)≤B5 .i64 z2 255∧B5 .i64 z2 255<(xn_2:Int)) (ck (List.length z6=6) (pAgg (add (B1 p_4) (Int.toNat (B5 .i64 z2 255)*6)) z6 w1 fun w2=>some (.tuple ⟨[iI z2,iI 0]⟩,w2)))))):=kR
def A62:Cuts:=⟨0,[],[],[]⟩
def Bx8:List Item:=A3 Tryz.f141
theorem Ea2 (b:Option Addr) :
 xQ A62 C R Ad0 Tryz.f141 Bx8 [(0,.pointer r),(1,iI env),(2,iI name),(3,iI atv),(4,.slice b bn bc)] h =
 bnd (C Ac8 [.pointer r,iI env,iI name,iI 2,iI atv,iI (bn:Int)] h) fun q1 w=>as2 q1 fun q2 q3=>aInt .i64 q2 fun x=>aInt .i64 q3 fun z1=>cond (z1 != 0)
 (some (iI z1,w))
 (aSome r fun p=>gPtr (add p 0) w fun z2=>bnd (C Bk8 [.pointer z2,iI x,.slice b bn bc] w) fun q4 w1=>aInt .i64 q4 fun z3=>some (iI z3,w1)):=kR
def A91:Cuts:=⟨0,[],[],[]⟩
def B47:List Item:=A3 Tryz.f142
theorem Ef6 (fromv:Int) (on:Int) :
 xQ A91 C R Ap6 Tryz.f142 B47 [(0,.pointer r),(1,iI env),(2,iI fromv),(3,iI atv),(4,iI to),(5,iI on),(6,iI n)] h =
 bnd (C Ae9 [.pointer r,iI env,iI fromv,iI atv,iI n] h) fun q1 w=>as2 q1 fun q2 q3=>aSl q2 fun x xn xc=>aInt .i64 q3 fun z1=>cond (z1 != 0)
 (some (iI z1,w))
 (bnd (C Ad0 [.pointer r,iI env,iI to,iI on,.slice x xn xc] w) fun q4 w1=>aInt .i64 q4 fun z2=>some (iI z2,w1)):=kR
def Bk0:Cuts:=⟨0,[],[],[]⟩
def Dd6:List Item:=A3 Tryz.f145
theorem Ev1 (s:Int) :
 xQ Bk0 C R Az6 Tryz.f145 Dd6 [(0,.pointer q),(1,iI s)] h =
 bnd (C Am8 [.pointer q,iI s] h) fun r w=>aBool r fun x=>cond (!x)
 (some (.tuple ⟨[iI 0,iI 1]⟩,w))
 (aSome q fun p=>gSl (add p 0) w fun z1 xn _=>aSome z1 fun p_1=>ck ((0:Int)≤s∧s<(xn:Int)) (gSl (add (B1 p_1) (Int.toNat s*1)) w fun z2 xn_1 xc_1=>bnd (C H9 [.slice z2 xn_1 xc_1,iI 0] w) fun q1 w1=>aInt .i64 q1 fun z3=>cond (decide (z3<0))
 (some (.tuple ⟨[iI 0,iI 4]⟩,w1))
 (aSome q fun p_2=>gSl (add p_2 0) w1 fun z4 xn_2 _=>aSome z4 fun p_3=>ck ((0:Int)≤s∧s<(xn_2:Int)) (gSl (add (B1 p_3) (Int.toNat s*1)) w1 fun z5 xn_3 _=>aSome z5 fun p_4=>ck ((0:Int)≤z3∧z3<(xn_3:Int)) (pV (add (B1 p_4) (Int.toNat z3*1)) (iI 1) w1 fun w2=>some (.tuple ⟨[iI z3,iI 0]⟩,w2)))))):=kR
def Al4:Cuts:=⟨0,[],[],[(4,⟨[0,1,2,3,4,10,5,6,7,8,9,11,12],[0,1,3,7,0,16,63,127,255,255,0,1535,4095],[(5,[3])],[]⟩)]⟩
def A68:List Item:=A3 Tryz.f161
theorem Dc6 (b:Option Addr) :
 xQ Al4 C R W8 Tryz.f161 A68 [(0,.pointer c),(1,.slice b bn bc)] h =
 nw (.cells B6 false zZ1) h fun p1 w=>nw (.cells B6 false zZ1) w fun p2 w1=>aSome c fun p=>gFv (add p 2) w1 fun x=>isNilF x fun p3=>bnd (cond p3 (some (true,w1)) (aSome c fun p_1=>gInt .i64 (add p_1 0) w1 fun z1=>some ((bn:Int) != z1,w1))) fun c_1 w2=>cond c_1
 (gAgg ⟨p2,0,none⟩ 16 w2 fun z2=>ck (List.length z2=16) (pAgg ⟨p1,0,none⟩ z2 w2 fun w3=>gAgg ⟨p1,0,none⟩ 16 w3 fun z3=>some (.tuple ⟨[.agg ⟨z3⟩,.bool false]⟩,w3)))
 (aSome c fun p_2=>gFv (add p_2 2) w2 fun z4=>nw (.cells B6 false zZ1) w2 fun p4 w4=>bnd (C G6 [.slice b bn bc] w4) fun r w5=>aSl r fun z5 xn xc=>gFv (add p_2 2) w5 fun z6=>Bt3 (z4) (z6) (aFn z4 fun g fi cp=>bnd (C g (fi++([.slice z5 xn xc]++cp)) w5) fun q1 w6=>as2 q1 fun q2 q3=>aAgg q2 fun z7=>aBool q3 fun z8=>ck (List.length z7=16) (pAgg ⟨p4,0,none⟩ z7 w6 fun w7=>cond (!z8)
 (gAgg ⟨p2,0,none⟩ 16 w7 fun z9=>ck (List.length z9=16) (pAgg ⟨p1,0,none⟩ z9 w7 fun w8=>gAgg ⟨p1,0,none⟩ 16 w8 fun z10=>some (.tuple ⟨[.agg ⟨z10⟩,.bool false]⟩,w8)))
 (gAgg ⟨p4,0,none⟩ 16 w7 fun z11=>ck (List.length z11=16) (pAgg ⟨p1,0,none⟩ z11 w7 fun w9=>gAgg ⟨p1,0,none⟩ 16 w9 fun z12=>some (.tuple ⟨[.agg ⟨z12⟩,.bool true]⟩,w9)))))):=kR
def Al5:Cuts:=⟨0,[],[],[(4,⟨[0,1,2,3,4,10,5,6,7,8,9,11,12],[0,1,3,7,0,16,63,127,255,255,0,1535,4095],[(5,[3])],[]⟩)]⟩
def A67:List Item:=A3 Tryz.f163
theorem Dc5 (b:Option Addr) :
 xQ Al5 C R W4 Tryz.f163 A67 [(0,.pointer c),(1,.slice b bn bc)] h =
 nw (.cells B3 false zZ2) h fun p1 w=>nw (.cells B3 false zZ2) w fun p2 w1=>aSome c fun p=>gFv (add p 2) w1 fun x=>isNilF x fun p3=>bnd (cond p3 (some (true,w1)) (aSome c fun p_1=>gInt .i64 (add p_1 0) w1 fun z1=>some ((bn:Int) != z1,w1))) fun c_1 w2=>cond c_1
 (gAgg ⟨p2,0,none⟩ 36 w2 fun z2=>ck (List.length z2=36) (pAgg ⟨p1,0,none⟩ z2 w2 fun w3=>gAgg ⟨p1,0,none⟩ 36 w3 fun z3=>some (.tuple ⟨[.agg ⟨z3⟩,.bool false]⟩,w3)))
 (aSome c fun p_2=>gFv (add p_2 2) w2 fun z4=>nw (.cells B3 false zZ2) w2 fun p4 w4=>bnd (C G6 [.slice b bn bc] w4) fun r w5=>aSl r fun z5 xn xc=>gFv (add p_2 2) w5 fun z6=>Bt3 (z4) (z6) (aFn z4 fun g fi cp=>bnd (C g (fi++([.slice z5 xn xc]++cp)) w5) fun q1 w6=>as2 q1 fun q2 q3=>aAgg q2 fun z7=>aBool q3 fun z8=>ck (List.length z7=36) (pAgg ⟨p4,0,none⟩ z7 w6 fun w7=>cond (!z8)
 (gAgg ⟨p2,0,none⟩ 36 w7 fun z9=>ck (List.length z9=36) (pAgg ⟨p1,0,none⟩ z9 w7 fun w8=>gAgg ⟨p1,0,none⟩ 36 w8 fun z10=>some (.tuple ⟨[.agg ⟨z10⟩,.bool false]⟩,w8)))
 (gAgg ⟨p4,0,none⟩ 36 w7 fun z11=>ck (List.length z11=36) (pAgg ⟨p1,0,none⟩ z11 w7 fun w9=>gAgg ⟨p1,0,none⟩ 36 w9 fun z12=>some (.tuple ⟨[.agg ⟨z12⟩,.bool true]⟩,w9)))))):=kR
def Az8:Cuts:=⟨0,[(2,[0,3,5])],[],[(4,⟨[0,1,2,3,4,5,6,7,8],[0,1,3,7,0,31,63,0,255],[],[]⟩)]⟩
def Bk1:List Item:=A3 Tryz.f165
def Ao7:List Item:=stk [0,1,0,0,1,4,5] Bk1
theorem Ev5 (r:List Value) :
 xQ Az8 C R L9 Tryz.f165 Bk1 [(0,.pointer c),(1,.agg ⟨r⟩)] h =
 nw (.cells A6 false r) h fun b w=>R L9 Ao7 [(0,.pointer c),(3,pP b),(5,iI 0)] w:=kR
theorem Bx0 (r:Addr) :
 xQ Az8 C R L9 Tryz.f165 Ao7 [(0,.pointer c),(3,.pointer (some r)),(5,iI i)] h =
 aSome c fun p=>gSl (add p 3) h fun _ xn _=>cond (decide (i<(xn:Int)))
 (aSome c fun p_1=>gSl (add p_1 3) h fun z1 xn_1 _=>aSome z1 fun p_2=>ck ((0:Int)≤i∧i<(xn_1:Int)) (gAgg (add (B1 p_2) (Int.toNat i*2)) 2 h fun z2=>gAgg r 2 h fun z3=>Af8 PR A6 z2 z3 fun eq=>cond eq
 (some (.bool true,h))
 (R L9 Ao7 [(0,.pointer c),(3,.pointer (some r)),(5,iI (wrap .i64 (i+1)))] h)))
 (some (.bool false,h)):=kR
def En1:Cuts:=⟨0,[],[],[]⟩
def Gp0:List Item:=A3 Tryz.f169
theorem Hz8 (hi:Int) :
 xQ En1 C R Q2 Tryz.f169 Gp0 [(0,iI n),(1,iI lo),(2,iI hi)] h =
 bnd (cond (decide (n≥lo)) (some (decide (n≤hi),h)) (some (false,h))) fun c w=>some (.bool c,w):=kR
def Db0:Cuts:=⟨0,[],[],[]⟩
def D62:List Item:=A3 Tryz.f170
theorem Go9 :
 xQ Db0 C R Ah8 Tryz.f170 D62 [(0,iI n)] h =
 bnd (cond (decide (n≥0)) (some ((N9 .i64 n 65534)==0,h)) (some (false,h))) fun c w=>some (.bool c,w):=kR
def Br6:Cuts:=⟨0,[(7,[0,2,4,5])],[],[(5,⟨[0,1,2,3,4,5,6,7,8,9,10,11,12,13,14],[0,1,3,0,8,24,0,64,192,0,512,1536,4095,0,16383],[],[]⟩)]⟩
def Dg1:List Item:=A3 Tryz.f175
def A81:List Item:=stk [0,1,0,1,0,1,0,1,0,0,1,4,5] Dg1
theorem Gt8 (b:ByteArray) :
 xQ Br6 C R Ae3 Tryz.f175 Dg1 [(0,.string b)] h =
 nw (.cells B3 false zZ2) h fun p1 w=>cond (((ByteArray.size b:Nat):Int) != 40)
 (pAgg ⟨p1,0,none⟩ zZ2 w fun w1=>gAgg ⟨p1,0,none⟩ 36 w1 fun x=>some (.tuple ⟨[.agg ⟨x⟩,iI 2]⟩,w1))
 (bnd (C Ac2 [.string b] w) fun r w2=>aBool r fun z1=>cond z1
 (pAgg ⟨p1,0,none⟩ zZ2 w2 fun w3=>gAgg ⟨p1,0,none⟩ 36 w3 fun z2=>some (.tuple ⟨[.agg ⟨z2⟩,iI 0]⟩,w3))
 (ck ((0:Int)≤1∧1<((ByteArray.size b:Nat):Int)) (ck ((0:Int)≤2∧2<((ByteArray.size b:Nat):Int)) (ck ((0:Int)≤3∧3<((ByteArray.size b:Nat):Int)) (ck ((0:Int)≤4∧4<((ByteArray.size b:Nat):Int)) (nw (.cells B3 false zZ2) w2 fun p2 w4=>pAgg ⟨p2,0,none⟩ [iI (wrap .i64 (((List.getD (ByteArray.data b).toList (Int.toNat 1) 0).toNat:Int))),iI (wrap .i64 (((List.getD (ByteArray.data b).toList (Int.toNat 2) 0).toNat:Int))),iI (wrap .i64 (((List.getD (ByteArray.data b).toList (Int.toNat 3) 0).toNat:Int))),iI (wrap .i64 (((List.getD (ByteArray.data b).toList (Int.toNat 4) 0).toNat:Int))),.int .u8 0,.int .u8 0,.int .u8 0,.int .u8 0,.int .u8 0,.int .u8 0,.int .u8 0,.int .u8 0,.int .u8 0,.int .u8 0,.int .u8 0,.int .u8 0,.int .u8 0,.int .u8 0,.int .u8 0,.int .u8 0,.int .u8 0,.int .u8 0,.int .u8 0,.int .u8 0,.int .u8 0,.int .u8 0,.int .u8 0,.int .u8 0,.int .u8 0,.int .u8 0,.int .u8 0,.int .u8 0,.int .u8 0,.int .u8 0,.int .u8 0,.int .u8 0] w4 fun w5=>R Ae3 A81 [(0,.string b),(2,pP p1),(4,pP p2),(5,iI 0)] w5)))))):=kR
theorem Dp3 (b:ByteArray) (x2:Addr) (p:Addr) :
 xQ Br6 C R Ae3 Tryz.f175 A81 [(0,.string b),(2,.pointer (some x2)),(4,.pointer (some p)),(5,iI i)] h =
 cond (decide (i<32))
 (ck ((0:Int)≤wrap .i64 (8+i)∧wrap .i64 (8+i)<((ByteArray.size b:Nat):Int)) (ck ((0:Int)≤i∧i<((32:Nat):Int)) (pV (add (add p 4) (Int.toNat i*1)) (.int .u8 ((List.getD (ByteArray.data b).toList (Int.toNat (wrap .i64 (8+i))) 0).toNat:Int)) h fun w=>R Ae3 A81 [(0,.string b),(2,.pointer (some x2)),(4,.pointer (some p)),(5,iI (wrap .i64 (i+1)))] w)))
 (gAgg p 36 h fun x=>bnd (C Ba5 [.agg ⟨x⟩] h) fun r w1=>aBool r fun z1=>bnd (cond (!z1) (some (true,w1)) (gAgg p 36 w1 fun z2=>bnd (C M9 [.agg ⟨z2⟩] w1) fun q1 w2=>aStr q1 fun z3=>some (!(z3.toList==b.toList),w2))) fun c w3=>cond c
 (pAgg x2 zZ2 w3 fun w4=>gAgg x2 36 w4 fun z4=>some (.tuple ⟨[.agg ⟨z4⟩,iI 2]⟩,w4))
 (gAgg p 36 w3 fun z5=>ck (List.length z5=36) (pAgg x2 z5 w3 fun w5=>gAgg x2 36 w5 fun z6=>some (.tuple ⟨[.agg ⟨z6⟩,iI 1]⟩,w5)))):=kR
def Di9:Cuts:=⟨0,[(3,[3,9,10,11])],[],[]⟩
def D86:List Item:=A3 Tryz.f179
def Bq8:List Item:=stk [0,1,0,1,0,0,1,4,5] D86
theorem Hp8 (b:Option Addr) :
 xQ Di9 C R Ac4 Tryz.f179 D86 [(0,.slice b bn bc)] h =
 R Ac4 Bq8 [(3,.int .u8 (wrap .u8 ((bn:Int)))),(9,.slice b bn bc),(10,iI (bn:Int)),(11,iI 0)] h:=kR
theorem Ee4 (x9:Option Addr) (x9n x9c:Nat) (x10:Int) (x11:Int) :
 xQ Di9 C R Ac4 Tryz.f179 Bq8 [(3,.int .u8 n),(9,.slice x9 x9n x9c),(10,iI x10),(11,iI x11)] h =
 cond (decide (x11<x10))
 (aSome x9 fun p=>ck ((0:Int)≤x11∧x11<(x9n:Int)) (gInt .u8 (add (B1 p) (Int.toNat x11*1)) h fun x=>R Ac4 Bq8 [(3,.int .u8 (wrap .u8 (n+x))),(9,.slice x9 x9n x9c),(10,iI x10),(11,iI (wrap .i64 (x11+1)))] h))
 (some (.int .u8 n,h)):=kR
def B33:Cuts:=⟨0,[],[],[]⟩
def D08:List Item:=A3 Tryz.f189
theorem Gg7 (s:Int) :
 xQ B33 C R Am8 Tryz.f189 D08 [(0,.pointer q),(1,iI s)] h =
 bnd (cond (decide (s≥0)) (aSome q fun p=>gSl (add p 0) h fun _ xn _=>some (decide (s<(xn:Int)),h)) (some (false,h))) fun c w=>some (.bool c,w):=kR
def Bw0:Cuts:=⟨0,[],[],[]⟩
def Do9:List Item:=A3 Tryz.f193
theorem Ga7 :
 xQ Bw0 C R A78 Tryz.f193 Do9 [(0,.pointer s),(1,iI who),(2,iI stamp)] h =
 bnd (C A85 [.pointer s,iI who,iI stamp] h) fun r w=>aBool r fun x=>cond (!x)
 (some (.bool false,w))
 (aSome s fun p=>pV (add p 1) (.bool false) w fun w1=>aSome s fun p_1=>gInt .i64 (add p_1 7) w1 fun z1=>aSome s fun p_2=>pV (add p_2 6) (iI z1) w1 fun w2=>some (.bool true,w2)):=kR
def Bj3:Cuts:=⟨0,[(4,[1,2,22,23,24]),(9,[1,2,43,44,45]),(14,[1,58,59])],[],[]⟩
def Bx1:List Item:=A3 Tryz.f200
def De3:List Item:=stk [0,1,0,1,0,0,1,4,5] Bx1
def Dh9:List Item:=stk [0,1,0,1,0,1,0,0,1,4,5] Bx1
def Dh6:List Item:=stk [0,1,0,1,0,1,0,1,0,0,1,4,5] Bx1
theorem Ht8 (b:Option Addr) :
 xQ Bj3 C R O3 Tryz.f200 Bx1 [(0,.agg ⟨p⟩),(1,.slice b bn bc)] h =
 nw (.cells B6 false p) h fun p1 w=>gAgg ⟨p1,0,none⟩ 16 w fun x=>bnd (C Dt2 [.agg ⟨x⟩] w) fun r w1=>aBool r fun z1=>cond (!z1)
 (some (.bool false,w1))
 (gInt .i64 ⟨p1,0,none⟩ w1 fun z2=>gInt .i64 ⟨p1,1,none⟩ w1 fun z3=>gInt .i64 ⟨p1,2,none⟩ w1 fun z4=>gInt .i64 ⟨p1,3,none⟩ w1 fun z5=>nw (.cells B2 false [iI z2,iI z3,iI z4,iI z5]) w1 fun p2 w2=>R O3 De3 [(1,.slice b bn bc),(2,pP p1),(22,.slice (some ⟨p2,0,none⟩) 4 4),(23,iI 4),(24,iI 0)] w2):=kR
theorem Ba8 (b:Option Addr) (p:Addr) (x22:Option Addr) (x22n x22c:Nat) (x23:Int) (x24:Int) :
 xQ Bj3 C R O3 Tryz.f200 De3 [(1,.slice b bn bc),(2,.pointer (some p)),(22,.slice x22 x22n x22c),(23,iI x23),(24,iI x24)] h =
 cond (decide (x24<x23))
 (aSome x22 fun p_1=>ck ((0:Int)≤x24∧x24<(x22n:Int)) (gInt .i64 (add (B1 p_1) (Int.toNat x24*1)) h fun x=>aSome b fun p_2=>ck ((0:Int)≤x24∧x24<(bn:Int)) (pV (add (B1 p_2) (Int.toNat x24*1)) (.int .u8 (wrap .u8 (x))) h fun w=>R O3 De3 [(1,.slice b bn bc),(2,.pointer (some p)),(22,.slice x22 x22n x22c),(23,iI x23),(24,iI (wrap .i64 (x24+1)))] w)))
 (gInt .i64 (add p 4) h fun z1=>gInt .i64 (add p 5) h fun z2=>gInt .i64 (add p 6) h fun z3=>gInt .i64 (add p 7) h fun z4=>nw (.cells B2 false [iI z1,iI z2,iI z3,iI z4]) h fun p1 w1=>R O3 Dh9 [(1,.slice b bn bc),(2,.pointer (some p)),(43,.slice (some ⟨p1,0,none⟩) 4 4),(44,iI 4),(45,iI 0)] w1):=kR
theorem A95 (b:Option Addr) (p:Addr) (x43:Option Addr) (x43n x43c:Nat) (x44:Int) (x45:Int) :
 xQ Bj3 C R O3 Tryz.f200 Dh9 [(1,.slice b bn bc),(2,.pointer (some p)),(43,.slice x43 x43n x43c),(44,iI x44),(45,iI x45)] h =
 cond (decide (x45<x44))
 (aSome x43 fun p_1=>ck ((0:Int)≤x45∧x45<(x43n:Int)) (gInt .i64 (add (B1 p_1) (Int.toNat x45*1)) h fun x=>bnd (C Bn8 [.slice b bn bc,iI (wrap .i64 (4+(wrap .i64 (2*x45)))),iI x] h) fun r w=>aBool r fun _=>R O3 Dh9 [(1,.slice b bn bc),(2,.pointer (some p)),(43,.slice x43 x43n x43c),(44,iI x44),(45,iI (wrap .i64 (x45+1)))] w))
 (gAgg (add p 8) 8 h fun z2=>R O3 Dh6 [(1,.slice b bn bc),(58,.agg ⟨z2⟩),(59,iI 0)] h):=kR
theorem Aa1 (b:Option Addr) (x58:List Value) (x59:Int) :
 xQ Bj3 C R O3 Tryz.f200 Dh6 [(1,.slice b bn bc),(58,.agg ⟨x58⟩),(59,iI x59)] h =
 cond (decide (x59<8))
 (ck ((0:Int)≤x59∧x59<((8:Nat):Int)) (nth x58 (Int.toNat x59*1) fun x=>aInt .i64 x fun z1=>aSome b fun p=>ck ((0:Int)≤wrap .i64 (12+x59)∧wrap .i64 (12+x59)<(bn:Int)) (pV (add (B1 p) (Int.toNat (wrap .i64 (12+x59))*1)) (.int .u8 (wrap .u8 (z1))) h fun w=>R O3 Dh6 [(1,.slice b bn bc),(58,.agg ⟨x58⟩),(59,iI (wrap .i64 (x59+1)))] w)))
 (aSome b fun p_1=>ck ((0:Int)≤20∧20<(bn:Int)) (pV (add (B1 p_1) (Int.toNat 20*1)) (.int .u8 167) h fun w1=>ckB (fitsOpen b A2 w1) (ck ((0:Int)≤21∧21≤(bc:Int)) (bnd (C Ac4 [.slice (G7 b (decide (0<bc)) (0*1)) ((Int.toNat 21)-0) (bc-0)] w1) fun r w2=>aInt .u8 r fun z2=>aSome b fun p_2=>ck ((0:Int)≤21∧21<(bn:Int)) (pV (add (B1 p_2) (Int.toNat 21*1)) (.int .u8 z2) w2 fun w3=>some (.bool true,w3)))))):=kR
def Eh6:Cuts:=⟨0,[],[],[(5,⟨[0,1,2,3,4],[0,1,0,4,15],[],[]⟩)]⟩
def Gq2:List Item:=A3 Tryz.f203
theorem H22 (b:Option Addr) :
 xQ Eh6 C R Br8 Tryz.f203 Gq2 [(0,.agg ⟨p⟩),(1,.slice b bn bc)] h =
 nw (.cells B3 false p) h fun p1 w=>gAgg ⟨p1,0,none⟩ 36 w fun x=>bnd (C D59 [.agg ⟨x⟩] w) fun r w1=>aBool r fun z1=>cond (!z1)
 (some (.bool false,w1))
 (gInt .i64 ⟨p1,0,none⟩ w1 fun z2=>gInt .i64 ⟨p1,1,none⟩ w1 fun z3=>gInt .i64 ⟨p1,2,none⟩ w1 fun z4=>gInt .i64 ⟨p1,3,none⟩ w1 fun z5=>nw (.cells A2 false [.int .u8 1,.int .u8 (wrap .u8 (z2)),.int .u8 (wrap .u8 (z3)),.int .u8 (wrap .u8 (z4)),.int .u8 (wrap .u8 (z5)),.int .u8 197]) w1 fun p2 w2=>gCells (some ⟨p2,0,none⟩) (min 6 bn*1) w2 fun cs=>pCells b cs w2 fun w3=>ckB (fitsOpen b A2 w3) (ck ((0:Int)≤6∧6≤(bc:Int)) (bnd (C Ac4 [.slice (G7 b (decide (0<bc)) (0*1)) ((Int.toNat 6)-0) (bc-0)] w3) fun q1 w4=>aInt .u8 q1 fun z6=>aSome b fun p_1=>ck ((0:Int)≤6∧6<(bn:Int)) (pV (add (B1 p_1) (Int.toNat 6*1)) (.int .u8 z6) w4 fun w5=>ckB (fitsOpen b A2 w5) (ck ((0:Int)≤8∧8≤(bn:Int)) (ckB (liveA ⟨p1,4,none⟩ w5) (gCells (G7 (some ⟨p1,4,none⟩) (decide (0<32)) (0*1)) (min (32-0) (bn-(Int.toNat 8))*1) w5 fun cs_1=>pCells (G7 b (decide (Int.toNat 8<bc)) ((Int.toNat 8)*1)) cs_1 w5 fun w6=>some (.bool true,w6)))))))):=kR
def Bg8:Cuts:=⟨0,[],[],[]⟩
def Da7:List Item:=A3 Tryz.f205
theorem En2 (put:Value) (get:Value) :
 xQ Bg8 C R At2 Tryz.f205 Da7 [(0,iI size),(1,put),(2,get)] h =
 one put (one get (nw (.cells An9 false [iI (mm2 false (mm2 true size 0) 64),put,get]) h fun b w=>some (pP b,w))):=kR
def V6:Cuts:=⟨0,[(2,[0,1,7,8])],[],[]⟩
def Ah2:List Item:=A3 Tryz.f213
def Q8:List Item:=stk [0,1,0,0,1,4,5] Ah2
theorem B67 :
 xQ V6 C R G2 Tryz.f213 Ah2 [(0,.slice s sn sc),(1,f)] h =
 R G2 Q8 [(0,.slice s sn sc),(1,f),(7,iI (sn:Int)),(8,iI 0)] h:=kR
theorem Av8 :
 xQ V6 C R G2 Tryz.f213 Q8 [(0,.slice s sn sc),(1,f),(7,iI x7),(8,iI x8)] h =
 cond (decide (x8<x7))
 (aSome s fun p=>ck ((0:Int)≤x8∧x8<(sn:Int)) (gInt .u8 (add (B1 p) (Int.toNat x8*1)) h fun x=>aFn f fun g fi cp=>bnd (C g (fi++([.int .u8 x]++cp)) h) fun r w=>aBool r fun z1=>cond z1
 (some (iI x8,w))
 (R G2 Q8 [(0,.slice s sn sc),(1,f),(7,iI x7),(8,iI (wrap .i64 (x8+1)))] w)))
 (some (iI (-1),h)):=kR
def Ei0:Cuts:=⟨0,[],[],[]⟩
def Gn3:List Item:=A3 Tryz.f214
theorem H66 :
 xQ Ei0 C R Dt2 Tryz.f214 Gn3 [(0,.agg ⟨p⟩)] h =
 nw (.cells B6 false p) h fun b w=>gInt .i64 ⟨b,0,none⟩ w fun x=>bnd (cond (decide (x<1)) (some (true,w)) (gInt .i64 ⟨b,0,none⟩ w fun z1=>some (decide (z1>3),w))) fun c w1=>bnd (cond c (some (true,w1)) (gInt .i64 ⟨b,1,none⟩ w1 fun z2=>some (decide (z2<0),w1))) fun c_1 w2=>bnd (cond c_1 (some (true,w2)) (gInt .i64 ⟨b,1,none⟩ w2 fun z3=>some (decide (z3>8),w2))) fun c_2 w3=>bnd (cond c_2 (some (true,w3)) (gInt .i64 ⟨b,2,none⟩ w3 fun z4=>some (decide (z4<0),w3))) fun c_3 w4=>bnd (cond c_3 (some (true,w4)) (gInt .i64 ⟨b,2,none⟩ w4 fun z5=>some (decide (z5≥8),w4))) fun c_4 w5=>bnd (cond c_4 (some (true,w5)) (gInt .i64 ⟨b,3,none⟩ w5 fun z6=>some (decide (z6<0),w5))) fun c_5 w6=>bnd (cond c_5 (some (true,w6)) (gInt .i64 ⟨b,3,none⟩ w6 fun z7=>some (decide (z7>255),w6))) fun c_6 w7=>cond c_6
 (some (.bool false,w7))
 (gInt .i64 ⟨b,4,none⟩ w7 fun z8=>bnd (C Ap3 [iI z8,iI 0] w7) fun r w8=>aBool r fun z9=>bnd (cond (!z9) (some (true,w8)) (gInt .i64 ⟨b,5,none⟩ w8 fun z10=>bnd (C Ap3 [iI z10,iI 16896] w8) fun q1 w9=>aBool q1 fun z11=>some (!z11,w9))) fun c_7 w10=>bnd (cond c_7 (some (true,w10)) (gInt .i64 ⟨b,6,none⟩ w10 fun z12=>bnd (C Ap3 [iI z12,iI 16896] w10) fun q2 w11=>aBool q2 fun z13=>some (!z13,w11))) fun c_8 w12=>bnd (cond c_8 (some (true,w12)) (gInt .i64 ⟨b,7,none⟩ w12 fun z14=>bnd (C Ap3 [iI z14,iI 16896] w12) fun q3 w13=>aBool q3 fun z15=>some (!z15,w13))) fun c_9 w14=>bnd (cond c_9 (some (true,w14)) (gInt .i64 ⟨b,6,none⟩ w14 fun z16=>gInt .i64 ⟨b,7,none⟩ w14 fun z17=>some ((B5 .i64 z16 z17) != 0,w14))) fun c_10 w15=>cond c_10
 (some (.bool false,w15))
 (ckB (liveA ⟨b,8,none⟩ w15) (bnd (C E7 [.slice (G7 (some ⟨b,8,none⟩) (decide (0<8)) (0*1)) (8-0) (8-0),.func (.func Bn4) ⟨[]⟩ ⟨[]⟩] w15) fun q4 w16=>aBool q4 fun z18=>cond z18
 (some (.bool false,w16))
 (gInt .i64 ⟨b,0,none⟩ w16 fun z19=>cond (z19==2)
 (gInt .i64 ⟨b,4,none⟩ w16 fun z20=>bnd (cond (z20==0) (gAgg ⟨b,8,none⟩ 8 w16 fun z21=>Af8 PR Gu2 z21 [iI 0,iI 0,iI 0,iI 0,iI 0,iI 0,iI 0,iI 0] fun eq=>some (eq,w16)) (some (false,w16))) fun c_11 w17=>some (.bool c_11,w17))
 (gInt .i64 ⟨b,3,none⟩ w16 fun z22=>some (.bool (z22==0),w16)))))):=kR
end
end Go.EQ
