/- A process whose own record is bad is told EIO whatever it asks, and nobody's record is changed by it. -/
import Derived.Test.YtoegoalficgneaaGreatMd
import Derived.KernelRfl
set_option linter.all false
set_option maxRecDepth 100000
namespace Go.EQ
open Go Go.NN Go.Proofs
open Go.IntKind (wrap)
open Go.Addr (add)
variable (C:D1) (R:Aa4) (fv0 p x4:Addr) (grown more:Bool) (h:H) (a atv e env envs f fd first g hi i n name root slot stamp v want who x10 x24 x45 x46 x86 x87:Int) (r x:List Value) (bc bn datac datan foundc foundn lc ln outc outn sc sn x44c x44n x85c x85n:Nat) (b c data found k l m out q s t x44 x85:Option Addr) (of:Option Nat) (cmp isv:Value)
noncomputable section
def Ec3:Cuts:=⟨0,[],[],[]⟩
def Gi2:List Item:=A2 Tryz.f10
theorem Gi8 :
 xQ Ec3 C R A53 Tryz.f10 Gi2 [(0,.pointer c),(1,iI i)] h =
 nw (.cells O8 false [iI 0,iI 0,.slice none 0 0,.bool false]) h fun b w=>bnd (C Ac2 [.pointer c,iI i] w) fun r w1=>as2 r fun q1 q2=>aAgg q1 fun x=>aInt .i64 q2 fun z1=>nw (.cells B1 false zZ1) w1 fun p1 w2=>ck (List.length x=16) (pAgg ⟨p1,0,none⟩ x w2 fun w3=>cond (z1 != 0)
 (bnd (C Q8 [iI z1] w3) fun q3 w4=>aAgg q3 fun z2=>ck (List.length z2=4) (pAgg ⟨b,0,none⟩ z2 w4 fun w5=>gAgg ⟨b,0,none⟩ 4 w5 fun z3=>some (.agg ⟨z3⟩,w5)))
 (bnd (C Aw0 [.pointer c] w3) fun q4 w6=>aInt .i64 q4 fun z4=>cond (decide (z4<0))
 (bnd (C Q8 [iI 111] w6) fun q5 w7=>aAgg q5 fun z5=>ck (List.length z5=4) (pAgg ⟨b,0,none⟩ z5 w7 fun w8=>gAgg ⟨b,0,none⟩ 4 w8 fun z6=>some (.agg ⟨z6⟩,w8)))
 (gAgg ⟨p1,0,none⟩ 16 w6 fun z7=>bnd (C G7 [.pointer c,.agg ⟨z7⟩] w6) fun q6 w9=>aInt .i64 q6 fun z8=>cond (z8 != 0)
 (bnd (C Q8 [iI z8] w9) fun q7 w10=>aAgg q7 fun z9=>ck (List.length z9=4) (pAgg ⟨b,0,none⟩ z9 w10 fun w11=>gAgg ⟨b,0,none⟩ 4 w11 fun z10=>some (.agg ⟨z10⟩,w11)))
 (pV ⟨p1,1,none⟩ (iI (wrap .i64 (i+1))) w9 fun w12=>pV ⟨p1,4,none⟩ (iI 0) w12 fun w13=>gAgg ⟨p1,0,none⟩ 16 w13 fun z11=>bnd (C V4 [.pointer c,iI z4,.agg ⟨z11⟩] w13) fun q8 w14=>aBool q8 fun z12=>bnd (C Av6 [.bool z12,iI z4] w14) fun q9 w15=>aAgg q9 fun z13=>ck (List.length z13=4) (pAgg ⟨b,0,none⟩ z13 w15 fun w16=>gAgg ⟨b,0,none⟩ 4 w16 fun z14=>some (.agg ⟨z14⟩,w16)))))):=kR
def A80:Cuts:=⟨0,[(4,[1,3,4])],[],[(2,⟨[0,1,2,5,6,9,10,13,14,3,4,7,8,11,12,15,16,17],[0,0,2,6,15,0,32,110,255,0,512,1774,4095,0,8192,28398,65535,131071],[(3,[6,10,14]),(7,[10,14]),(11,[14])],[]⟩)]⟩
def Bu6:List Item:=A2 Tryz.f15
def Au1:List Item:=stk [0,1,0,1,0,1,0,0,1,4,5] Bu6
theorem Gg1 (p:List Value) :
 xQ A80 C R N5 Tryz.f15 Bu6 [(0,.agg ⟨p⟩)] h =
 nw (.cells B1 false p) h fun b w=>gInt .i64 ⟨b,0,none⟩ w fun x=>gInt .i64 ⟨b,1,none⟩ w fun z1=>gInt .i64 ⟨b,2,none⟩ w fun z2=>gInt .i64 ⟨b,3,none⟩ w fun z3=>nw (.cells A1 false [.int .u8 (wrap .u8 (x)),.int .u8 (wrap .u8 (z1)),.int .u8 (wrap .u8 (z2)),.int .u8 (wrap .u8 (z3))]) w fun p1 w1=>gCells (some ⟨p1,0,none⟩) 4 w1 fun cs=>asBytes cs fun l=>gInt .i64 ⟨b,4,none⟩ w1 fun z4=>gInt .i64 ⟨b,5,none⟩ w1 fun z5=>gInt .i64 ⟨b,6,none⟩ w1 fun z6=>gInt .i64 ⟨b,7,none⟩ w1 fun z7=>bnd (C Bc2 [iI z4] w1) fun r w2=>aStr r fun z8=>gInt .i64 ⟨b,5,none⟩ w2 fun z9=>same (iI z5) (iI z9) (gInt .i64 ⟨b,6,none⟩ w2 fun z10=>same (iI z6) (iI z10) (gInt .i64 ⟨b,7,none⟩ w2 fun z11=>same (iI z7) (iI z11) (ck (ByteArray.size (ByteArray.mk ⟨l⟩)+ByteArray.size z8≤A5) (bnd (C Bc2 [iI z5] w2) fun q1 w3=>aStr q1 fun z12=>gInt .i64 ⟨b,6,none⟩ w3 fun z13=>same (iI z6) (iI z13) (gInt .i64 ⟨b,7,none⟩ w3 fun z14=>same (iI z7) (iI z14) (ck (ByteArray.size ((ByteArray.mk ⟨l⟩)++z8)+ByteArray.size z12≤A5) (bnd (C Bc2 [iI z6] w3) fun q2 w4=>aStr q2 fun z15=>gInt .i64 ⟨b,7,none⟩ w4 fun z16=>same (iI z7) (iI z16) (ck (ByteArray.size (((ByteArray.mk ⟨l⟩)++z8)++z12)+ByteArray.size z15≤A5) (bnd (C Bc2 [iI z7] w4) fun q3 w5=>aStr q3 fun z17=>ck (ByteArray.size ((((ByteArray.mk ⟨l⟩)++z8)++z12)++z15)+ByteArray.size z17≤A5) (R N5 Au1 [(1,pP b),(3,.string (((((ByteArray.mk ⟨l⟩)++z8)++z12)++z15)++z17)),(4,iI 0)] w5)))))))))):=kR
theorem B70 (s:ByteArray) :
 xQ A80 C R N5 Tryz.f15 Au1 [(1,.pointer (some p)),(3,.string s),(4,iI i)] h =
 cond (decide (i<8))
 (ck ((0:Int)≤i∧i<((8:Nat):Int)) (gInt .i64 (add (add p 8) (Int.toNat i*1)) h fun x=>nw (.cells A1 false [.int .u8 (wrap .u8 (x))]) h fun b w=>gCells (some ⟨b,0,none⟩) 1 w fun cs=>asBytes cs fun l=>ck (ByteArray.size s+ByteArray.size (ByteArray.mk ⟨l⟩)≤A5) (R N5 Au1 [(1,.pointer (some p)),(3,.string (s++(ByteArray.mk ⟨l⟩))),(4,iI (wrap .i64 (i+1)))] w)))
 (ck (ByteArray.size s+ByteArray.size (ByteArray.mk ⟨[167]⟩)≤A5) (bnd (C Ai1 [.string (s++(ByteArray.mk ⟨[167]⟩))] h) fun r w1=>aInt .u8 r fun z1=>nw (.cells A1 false [.int .u8 z1,.int .u8 0,.int .u8 0]) w1 fun p1 w2=>gCells (some ⟨p1,0,none⟩) 3 w2 fun cs_1=>asBytes cs_1 fun l_1=>ck (ByteArray.size (s++(ByteArray.mk ⟨[167]⟩))+ByteArray.size (ByteArray.mk ⟨l_1⟩)≤A5) (some (.string ((s++(ByteArray.mk ⟨[167]⟩))++(ByteArray.mk ⟨l_1⟩)),w2)))):=kR
def B75:Cuts:=⟨0,[(13,[2,4,6,7])],[],[(7,⟨[0,4,5,1,2,3,6,7,8],[0,1,3,7,0,16,63,127,255],[(1,[5])],[]⟩)]⟩
def D08:List Item:=A2 Tryz.f16
def A23:List Item:=stk [0,1,0,1,0,1,0,1,0,1,0,1,0,1,0,1,0,1,0,1,0,0,1,4,5] D08
theorem Hn9 :
 xQ B75 C R Ah8 Tryz.f16 D08 [(0,.slice l ln lc)] h =
 nw (.cells L0 false [.slice l ln lc]) h fun b w=>nw (.cells B1 false zZ1) w fun p1 w1=>nw (.cells B2 false [iI 0]) w1 fun p2 w2=>pV ⟨p2,0,none⟩ (iI 0) w2 fun w3=>bnd (C I2 [pP p2,pP b] w3) fun r w4=>aInt .i64 r fun x=>nw (.cells B2 false [iI 1,iI 1,iI 3,iI 2]) w4 fun p3 w5=>ck ((0:Int)≤B4 .i64 x 3∧B4 .i64 x 3<((4:Nat):Int)) (gInt .i64 (add (B0 ⟨p3,0,none⟩) (Int.toNat (B4 .i64 x 3)*1)) w5 fun z1=>nw (.cells B1 false zZ1) w5 fun p4 w6=>pAgg ⟨p4,0,none⟩ [iI z1,iI (Int.tmod (B4 .i64 (Int.fdiv x (2 ^ 2)) 15) 9),iI (B4 .i64 (Int.fdiv x (2 ^ 6)) 7),iI 0,iI 0,iI 0,iI 0,iI 0,iI 0,iI 0,iI 0,iI 0,iI 0,iI 0,iI 0,iI 0] w6 fun w7=>bnd (C I2 [pP p2,pP b] w7) fun q1 w8=>aInt .i64 q1 fun z2=>pV ⟨p4,5,none⟩ (iI (Q4 .i64 (B4 .i64 z2 65534) 16896)) w8 fun w9=>bnd (C I2 [pP p2,pP b] w9) fun q2 w10=>aInt .i64 q2 fun z3=>bnd (C I2 [pP p2,pP b] w10) fun q3 w11=>aInt .i64 q3 fun z4=>pV ⟨p4,6,none⟩ (iI (Q4 .i64 (B4 .i64 (B4 .i64 z3 z4) 65534) 16896)) w11 fun w12=>gInt .i64 ⟨p4,6,none⟩ w12 fun z5=>bnd (C I2 [pP p2,pP b] w12) fun q4 w13=>aInt .i64 q4 fun z6=>gInt .i64 ⟨p4,6,none⟩ w13 fun z7=>same (iI z5) (iI z7) (pV ⟨p4,7,none⟩ (iI (Q4 .i64 (Q4 .i64 (B4 .i64 z6 65534) 16896) z5)) w13 fun w14=>gInt .i64 ⟨p4,0,none⟩ w14 fun z8=>cond (z8==2)
 (pV ⟨p4,3,none⟩ (iI (B4 .i64 (Int.fdiv x (2 ^ 9)) 255)) w14 fun w15=>gAgg ⟨p4,0,none⟩ 16 w15 fun z9=>ck (List.length z9=16) (pAgg ⟨p1,0,none⟩ z9 w15 fun w16=>gAgg ⟨p1,0,none⟩ 16 w16 fun z10=>some (.agg ⟨z10⟩,w16)))
 (bnd (C I2 [pP p2,pP b] w14) fun q5 w17=>aInt .i64 q5 fun z11=>bnd (C I2 [pP p2,pP b] w17) fun q6 w18=>aInt .i64 q6 fun z12=>pV ⟨p4,4,none⟩ (iI (B4 .i64 (B4 .i64 z11 z12) 65534)) w18 fun w19=>R Ah8 A23 [(2,pP p1),(4,.func (.func I2) ⟨[]⟩ ⟨[pP p2,pP b]⟩),(6,pP p4),(7,iI 0)] w19))):=kR
theorem D54 (x2:Addr) (next:Addr) (next_1:Addr) :
 xQ B75 C R Ah8 Tryz.f16 A23 [(2,.pointer (some x2)),(4,.func (.func I2) ⟨[]⟩ ⟨[.pointer (some next),.pointer (some next_1)]⟩),(6,.pointer (some p)),(7,iI i)] h =
 cond (decide (i<8))
 (bnd (C I2 [.pointer (some next),.pointer (some next_1)] h) fun r w=>aInt .i64 r fun x=>cond ((B4 .i64 x 3) != 0)
 (ck ((0:Int)≤i∧i<((8:Nat):Int)) (pV (add (add p 8) (Int.toNat i*1)) (iI (Int.tmod (Int.fdiv x (2 ^ 2)) 13)) w fun w1=>R Ah8 A23 [(2,.pointer (some x2)),(4,.func (.func I2) ⟨[]⟩ ⟨[.pointer (some next),.pointer (some next_1)]⟩),(6,.pointer (some p)),(7,iI (wrap .i64 (i+1)))] w1))
 (R Ah8 A23 [(2,.pointer (some x2)),(4,.func (.func I2) ⟨[]⟩ ⟨[.pointer (some next),.pointer (some next_1)]⟩),(6,.pointer (some p)),(7,iI (wrap .i64 (i+1)))] w))
 (gAgg p 16 h fun z1=>ck (List.length z1=16) (pAgg x2 z1 h fun w2=>gAgg x2 16 w2 fun z2=>some (.agg ⟨z2⟩,w2))):=kR
def Ek0:Cuts:=⟨0,[],[],[(3,⟨[0,1,2,4,5,6,3,7,8,9],[0,0,2,7,0,0,32,127,255,511],[(3,[6])],[]⟩),(5,⟨[0,1,2,3,4,6,7,8,9,10,5,11,12,13],[0,0,2,0,8,31,0,0,128,0,512,2047,4095,8191],[(5,[8,10])],[]⟩),(7,⟨[0,1,2,4,5,6,3,7,8,9],[0,0,2,7,0,0,32,127,255,511],[(3,[6])],[]⟩),(9,⟨[0,1,2,3,4,5,6,8,9,10,11,12,13,14,7,15,16,17],[0,0,2,0,8,0,32,127,0,0,512,0,2048,0,8192,32767,65535,131071],[(7,[10,12,14])],[]⟩),(11,⟨[0,1,2,3,4,5,6,8,9,10,11,12,13,14,7,15,16,17],[0,0,2,0,8,0,32,127,0,0,512,0,2048,0,8192,32767,65535,131071],[(7,[10,12,14])],[]⟩),(17,⟨[0,1,2,4,5,6,3,7,8,9],[0,0,2,7,0,0,32,127,255,511],[(3,[6])],[]⟩)]⟩
def Gt6:List Item:=A2 Tryz.f18
theorem Ia4 (o:List Value) :
 xQ Ek0 C R Dt6 Tryz.f18 Gt6 [(0,.pointer c),(1,.pointer m),(2,.agg ⟨o⟩)] h =
 nw (.cells A29 false o) h fun b w=>gInt .i64 ⟨b,0,none⟩ w fun x=>cond (x==0)
 (gInt .i64 ⟨b,1,none⟩ w fun z1=>gInt .i64 ⟨b,1,none⟩ w fun z2=>bnd (C A53 [.pointer c,iI z1] w) fun r w1=>aAgg r fun z3=>gInt .i64 ⟨b,1,none⟩ w1 fun z4=>same (iI z2) (iI z4) (bnd (C Ah5 [.pointer m,iI z2] w1) fun q1 w2=>aAgg q1 fun z5=>bnd (C Aa9 [.agg ⟨z3⟩,.agg ⟨z5⟩] w2) fun q2 w3=>aBool q2 fun z6=>some (.bool z6,w3)))
 (cond (x==1)
 (gInt .i64 ⟨b,1,none⟩ w fun z7=>gInt .i64 ⟨b,2,none⟩ w fun z8=>gInt .i64 ⟨b,1,none⟩ w fun z9=>gInt .i64 ⟨b,2,none⟩ w fun z10=>bnd (C Dj1 [.pointer c,iI z7,iI z8] w) fun q3 w4=>aAgg q3 fun z11=>gInt .i64 ⟨b,1,none⟩ w4 fun z12=>same (iI z9) (iI z12) (gInt .i64 ⟨b,2,none⟩ w4 fun z13=>same (iI z10) (iI z13) (bnd (C Ai4 [.pointer m,iI z9,iI z10] w4) fun q4 w5=>aAgg q4 fun z14=>bnd (C Aa9 [.agg ⟨z11⟩,.agg ⟨z14⟩] w5) fun q5 w6=>aBool q5 fun z15=>some (.bool z15,w6))))
 (cond (x==2)
 (gInt .i64 ⟨b,1,none⟩ w fun z16=>gInt .i64 ⟨b,1,none⟩ w fun z17=>bnd (C Ab8 [.pointer c,iI z16] w) fun q6 w7=>aAgg q6 fun z18=>gInt .i64 ⟨b,1,none⟩ w7 fun z19=>same (iI z17) (iI z19) (bnd (C Ag8 [.pointer m,iI z17] w7) fun q7 w8=>aAgg q7 fun z20=>bnd (C Aa9 [.agg ⟨z18⟩,.agg ⟨z20⟩] w8) fun q8 w9=>aBool q8 fun z21=>some (.bool z21,w9)))
 (cond (x==3)
 (gInt .i64 ⟨b,1,none⟩ w fun z22=>gInt .i64 ⟨b,2,none⟩ w fun z23=>gInt .i64 ⟨b,3,none⟩ w fun z24=>gInt .i64 ⟨b,1,none⟩ w fun z25=>gInt .i64 ⟨b,2,none⟩ w fun z26=>gInt .i64 ⟨b,3,none⟩ w fun z27=>bnd (C Bx2 [.pointer c,iI z22,iI z23,iI z24] w) fun q9 w10=>aAgg q9 fun z28=>gInt .i64 ⟨b,1,none⟩ w10 fun z29=>same (iI z25) (iI z29) (gInt .i64 ⟨b,2,none⟩ w10 fun z30=>same (iI z26) (iI z30) (gInt .i64 ⟨b,3,none⟩ w10 fun z31=>same (iI z27) (iI z31) (bnd (C Y9 [.pointer m,iI z25,iI z26,iI z27] w10) fun q10 w11=>aAgg q10 fun z32=>bnd (C Aa9 [.agg ⟨z28⟩,.agg ⟨z32⟩] w11) fun q11 w12=>aBool q11 fun z33=>some (.bool z33,w12)))))
 (cond (x==4)
 (gInt .i64 ⟨b,1,none⟩ w fun z34=>gInt .i64 ⟨b,2,none⟩ w fun z35=>gInt .i64 ⟨b,3,none⟩ w fun z36=>gInt .i64 ⟨b,1,none⟩ w fun z37=>gInt .i64 ⟨b,2,none⟩ w fun z38=>gInt .i64 ⟨b,3,none⟩ w fun z39=>bnd (C Hi6 [.pointer c,iI z34,iI z35,iI z36] w) fun q12 w13=>aAgg q12 fun z40=>gInt .i64 ⟨b,1,none⟩ w13 fun z41=>same (iI z37) (iI z41) (gInt .i64 ⟨b,2,none⟩ w13 fun z42=>same (iI z38) (iI z42) (gInt .i64 ⟨b,3,none⟩ w13 fun z43=>same (iI z39) (iI z43) (bnd (C Eg5 [.pointer m,iI z37,iI z38,iI z39] w13) fun q13 w14=>aAgg q13 fun z44=>bnd (C Aa9 [.agg ⟨z40⟩,.agg ⟨z44⟩] w14) fun q14 w15=>aBool q14 fun z45=>some (.bool z45,w15)))))
 (cond (x==5)
 (gInt .i64 ⟨b,1,none⟩ w fun z46=>bnd (C D55 [.pointer c,iI z46] w) fun q15 w16=>as0 q15 (gInt .i64 ⟨b,1,none⟩ w16 fun z47=>bnd (C Bq2 [.pointer m,iI z47] w16) fun q16 w17=>as0 q16 (some (.bool true,w17))))
 (cond (x==6)
 (gInt .i64 ⟨b,2,none⟩ w fun z48=>gInt .i64 ⟨b,2,none⟩ w fun z49=>bnd (C Gl2 [.pointer c,iI z48] w) fun q17 w18=>aInt .i64 q17 fun z50=>gInt .i64 ⟨b,2,none⟩ w18 fun z51=>same (iI z49) (iI z51) (bnd (C Du6 [.pointer m,iI z49] w18) fun q18 w19=>aInt .i64 q18 fun z52=>some (.bool (z50==z52),w19)))
 (gInt .i64 ⟨b,1,none⟩ w fun z53=>bnd (C Ac2 [.pointer c,iI z53] w) fun q19 w20=>as2 q19 fun q20 q21=>aAgg q20 fun z54=>aInt .i64 q21 fun z55=>nw (.cells B1 false zZ1) w20 fun p1 w21=>ck (List.length z54=16) (pAgg ⟨p1,0,none⟩ z54 w21 fun w22=>gInt .i64 ⟨b,1,none⟩ w22 fun z56=>bnd (C L5 [.pointer m,iI z56] w22) fun q22 w23=>as2 q22 fun q23 q24=>aAgg q23 fun z57=>aInt .i64 q24 fun z58=>nw (.cells B1 false zZ1) w23 fun p2 w24=>ck (List.length z57=16) (pAgg ⟨p2,0,none⟩ z57 w24 fun w25=>gAgg ⟨p1,0,none⟩ 16 w25 fun z59=>gAgg ⟨p2,0,none⟩ 16 w25 fun z60=>A70 PR B1 z59 z60 fun eq=>bnd (cond eq (some (z55==z58,w25)) (some (false,w25))) fun c_1 w26=>some (.bool c_1,w26)))))))))):=kR
def Dj6:Cuts:=⟨0,[(6,[0,4,7,23,24,25])],[],[(9,⟨[0,1,2,4,5,6,7,8,9,10,3,11,12],[0,0,2,7,0,16,48,0,128,384,1008,2047,4095],[(3,[5,9])],[]⟩)]⟩
def Ee0:List Item:=A2 Tryz.f23
def Br3:List Item:=stk [0,1,0,1,0,1,0,0,1,4,5] Ee0
theorem Gg6 :
 xQ Dj6 C R Ab8 Tryz.f23 Ee0 [(0,.pointer c),(1,iI i)] h =
 nw (.cells B2 false [iI i]) h fun b w=>nw (.cells O8 false [iI 0,iI 0,.slice none 0 0,.bool false]) w fun p1 w1=>gInt .i64 ⟨b,0,none⟩ w1 fun x=>bnd (C Ac2 [.pointer c,iI x] w1) fun r w2=>as2 r fun q1 q2=>aAgg q1 fun z1=>aInt .i64 q2 fun z2=>nw (.cells B1 false zZ1) w2 fun p2 w3=>ck (List.length z1=16) (pAgg ⟨p2,0,none⟩ z1 w3 fun w4=>cond (z2 != 0)
 (bnd (C Q8 [iI z2] w4) fun q3 w5=>aAgg q3 fun z3=>ck (List.length z3=4) (pAgg ⟨p1,0,none⟩ z3 w5 fun w6=>gAgg ⟨p1,0,none⟩ 4 w6 fun z4=>some (.agg ⟨z4⟩,w6)))
 (bnd (C Ag5 [.pointer c,.func (.func Bh7) ⟨[]⟩ ⟨[pP b]⟩] w4) fun q4 w7=>aSl q4 fun z5 xn xc=>R Ab8 Br3 [(0,.pointer c),(4,pP p1),(7,.slice z5 xn xc),(23,.slice z5 xn xc),(24,iI (xn:Int)),(25,iI 0)] w7)):=kR
theorem Ei7 (x23:Option Addr) (x23n x23c:Nat) (x25:Int) :
 xQ Dj6 C R Ab8 Tryz.f23 Br3 [(0,.pointer c),(4,.pointer (some x4)),(7,.slice l ln lc),(23,.slice x23 x23n x23c),(24,iI x24),(25,iI x25)] h =
 cond (decide (x25<x24))
 (aSome x23 fun p=>ck ((0:Int)≤x25∧x25<(x23n:Int)) (gAgg (add (B0 p) (Int.toNat x25*17)) 17 h fun x=>nw (.cells Y6 false zZ2) h fun b w=>ck (List.length x=17) (pAgg ⟨b,0,none⟩ x w fun w1=>gAgg ⟨b,0,none⟩ 17 w1 fun z1=>bnd (C A74 [.agg ⟨z1⟩] w1) fun r w2=>aBool r fun z2=>cond (!z2)
 (gInt .i64 ⟨b,0,none⟩ w2 fun z3=>gInt .i64 ⟨b,0,none⟩ w2 fun z4=>gInt .i64 ⟨b,4,none⟩ w2 fun z5=>bnd (C O2 [.pointer c,iI z3] w2) fun q1 w3=>aBool q1 fun z6=>gInt .i64 ⟨b,0,none⟩ w3 fun z7=>same (iI z4) (iI z7) (gInt .i64 ⟨b,4,none⟩ w3 fun z8=>same (iI z5) (iI z8) (bnd (C Av6 [.bool z6,iI (wrap .i64 ((wrap .i64 (256*z4))+z5))] w3) fun q2 w4=>aAgg q2 fun z9=>ck (List.length z9=4) (pAgg x4 z9 w4 fun w5=>gAgg x4 4 w5 fun z10=>some (.agg ⟨z10⟩,w5)))))
 (R Ab8 Br3 [(0,.pointer c),(4,.pointer (some x4)),(7,.slice l ln lc),(23,.slice x23 x23n x23c),(24,iI x24),(25,iI (wrap .i64 (x25+1)))] w2))))
 (cond ((ln:Int)==0)
 (bnd (C Q8 [iI 110] h) fun q3 w6=>aAgg q3 fun z11=>ck (List.length z11=4) (pAgg x4 z11 w6 fun w7=>gAgg x4 4 w7 fun z12=>some (.agg ⟨z12⟩,w7)))
 (pAgg x4 [iI 0,iI 0,.slice none 0 0,.bool true] h fun w8=>gAgg x4 4 w8 fun z13=>some (.agg ⟨z13⟩,w8))):=kR
def A64:Cuts:=⟨0,[(4,[1,3,4])],[],[]⟩
def Bv9:List Item:=A2 Tryz.f35
def Ar3:List Item:=stk [0,1,0,1,0,1,0,0,1,4,5] Bv9
theorem Gf3 (p:List Value) :
 xQ A64 C R N7 Tryz.f35 Bv9 [(0,.agg ⟨p⟩)] h =
 nw (.cells E5 false p) h fun b w=>gInt .i64 ⟨b,0,none⟩ w fun x=>gInt .i64 ⟨b,1,none⟩ w fun z1=>gInt .i64 ⟨b,2,none⟩ w fun z2=>gInt .i64 ⟨b,3,none⟩ w fun z3=>nw (.cells A1 false [.int .u8 1,.int .u8 (wrap .u8 (x)),.int .u8 (wrap .u8 (z1)),.int .u8 (wrap .u8 (z2)),.int .u8 (wrap .u8 (z3)),.int .u8 197]) w fun p1 w1=>gCells (some ⟨p1,0,none⟩) 6 w1 fun cs=>asBytes cs fun l=>bnd (C Ai1 [.string (ByteArray.mk ⟨l⟩)] w1) fun r w2=>aInt .u8 r fun z4=>nw (.cells A1 false [.int .u8 z4,.int .u8 0]) w2 fun p2 w3=>gCells (some ⟨p2,0,none⟩) 2 w3 fun cs_1=>asBytes cs_1 fun l_1=>ck (ByteArray.size (ByteArray.mk ⟨l⟩)+ByteArray.size (ByteArray.mk ⟨l_1⟩)≤A5) (R N7 Ar3 [(1,pP b),(3,.string ((ByteArray.mk ⟨l⟩)++(ByteArray.mk ⟨l_1⟩))),(4,iI 0)] w3):=kR
theorem B74 (s:ByteArray) :
 xQ A64 C R N7 Tryz.f35 Ar3 [(1,.pointer (some p)),(3,.string s),(4,iI i)] h =
 cond (decide (i<32))
 (ck ((0:Int)≤i∧i<((32:Nat):Int)) (gInt .u8 (add (add p 4) (Int.toNat i*1)) h fun x=>nw (.cells A1 false [.int .u8 x]) h fun b w=>gCells (some ⟨b,0,none⟩) 1 w fun cs=>asBytes cs fun l=>ck (ByteArray.size s+ByteArray.size (ByteArray.mk ⟨l⟩)≤A5) (R N7 Ar3 [(1,.pointer (some p)),(3,.string (s++(ByteArray.mk ⟨l⟩))),(4,iI (wrap .i64 (i+1)))] w)))
 (some (.string s,h)):=kR
def Dg3:Cuts:=⟨0,[],[],[]⟩
def Ei1:List Item:=A2 Tryz.f52
theorem G44 :
 xQ Dg3 C R Aw3 Tryz.f52 Ei1 [(0,.slice b bn bc)] h =
 nw (.cells B1 false zZ1) h fun p1 w=>bnd (cond ((bn:Int)==24) (bnd (C Aq6 [.slice b bn bc] w) fun r w1=>aBool r fun x=>some (x,w1)) (some (false,w))) fun c w2=>cond c
 (pAgg ⟨p1,0,none⟩ zZ1 w2 fun w3=>gAgg ⟨p1,0,none⟩ 16 w3 fun z1=>some (.tuple ⟨[.agg ⟨z1⟩,iI 0]⟩,w3))
 (bnd (C Bh9 [] w2) fun q1 w4=>aPtr q1 fun z2=>bnd (C W1 [.pointer z2,.slice b bn bc] w4) fun q2 w5=>as2 q2 fun q3 q4=>aAgg q3 fun z3=>aBool q4 fun z4=>nw (.cells B1 false zZ1) w5 fun p2 w6=>ck (List.length z3=16) (pAgg ⟨p2,0,none⟩ z3 w6 fun w7=>cond (!z4)
 (pAgg ⟨p1,0,none⟩ zZ1 w7 fun w8=>gAgg ⟨p1,0,none⟩ 16 w8 fun z5=>some (.tuple ⟨[.agg ⟨z5⟩,iI 2]⟩,w8))
 (gAgg ⟨p2,0,none⟩ 16 w7 fun z6=>ck (List.length z6=16) (pAgg ⟨p1,0,none⟩ z6 w7 fun w9=>gAgg ⟨p1,0,none⟩ 16 w9 fun z7=>some (.tuple ⟨[.agg ⟨z7⟩,iI 1]⟩,w9))))):=kR
def Du5:Cuts:=⟨0,[(3,[0,3,4])],[],[]⟩
def En1:List Item:=A2 Tryz.f54
def Bz2:List Item:=stk [0,1,0,1,0,0,1,4,5] En1
theorem Ia8 (b:ByteArray) :
 xQ Du5 C R Ai1 Tryz.f54 En1 [(0,.string b)] h =
 R Ai1 Bz2 [(0,.string b),(3,iI ((ByteArray.size b:Nat):Int)),(4,iI 0)] h:=kR
theorem Ex0 (b:ByteArray) :
 xQ Du5 C R Ai1 Tryz.f54 Bz2 [(0,.string b),(3,iI n),(4,iI i)] h =
 cond (decide (i<((ByteArray.size b:Nat):Int)))
 (ck ((0:Int)≤i∧i<((ByteArray.size b:Nat):Int)) (R Ai1 Bz2 [(0,.string b),(3,iI (wrap .i64 (n+(wrap .i64 (((List.getD (ByteArray.data b).toList (Int.toNat i) 0).toNat:Int)))))),(4,iI (wrap .i64 (i+1)))] h))
 (some (.int .u8 (wrap .u8 (n)),h)):=kR
def De6:Cuts:=⟨0,[],[],[]⟩
def Ej1:List Item:=A2 Tryz.f55
theorem G08 (fv1:Addr) :
 xQ De6 C R I2 Tryz.f55 Ej1 [(0,.pointer (some fv0)),(1,.pointer (some fv1))] h =
 gInt .i64 fv0 h fun x=>pV fv0 (iI (wrap .i64 (x+1))) h fun w=>gInt .i64 fv0 w fun z1=>gSl fv1 w fun _ xn _=>cond (decide (z1>(xn:Int)))
 (gInt .i64 fv0 w fun z3=>some (iI (wrap .i64 (z3*7)),w))
 (gSl fv1 w fun z4 xn_1 _=>gInt .i64 fv0 w fun z5=>aSome z4 fun p=>ck ((0:Int)≤wrap .i64 (z5-1)∧wrap .i64 (z5-1)<(xn_1:Int)) (gInt .i64 (add (B0 p) (Int.toNat (wrap .i64 (z5-1))*1)) w fun z6=>some (iI (B4 .i64 z6 16777215),w))):=kR
def Bg4:Cuts:=⟨0,[(6,[0,1,4,5,7,8]),(14,[0,1,4,5,7,11]),(23,[0,1,4,5,7,14])],[],[(20,⟨[0,1,2,3,4,5,6,7,8,9,10],[0,1,0,0,0,24,56,120,252,511,1023],[(8,[1])],[]⟩)]⟩
def Bd8:List Item:=A2 Tryz.f57
def D40:List Item:=stk [0,1,0,1,0,1,0,1,0,0,1,4,5] Bd8
theorem En9 :
 xQ Bg4 C R Ah5 Tryz.f57 Bd8 [(0,.pointer c),(1,iI i)] h =
 nw (.cells O8 false [iI 0,iI 0,.slice none 0 0,.bool false]) h fun b w=>bnd (C L5 [.pointer c,iI i] w) fun r w1=>as2 r fun q1 q2=>aAgg q1 fun x=>aInt .i64 q2 fun z1=>nw (.cells B1 false zZ1) w1 fun p1 w2=>ck (List.length x=16) (pAgg ⟨p1,0,none⟩ x w2 fun w3=>cond (z1 != 0)
 (bnd (C Af8 [iI z1] w3) fun q3 w4=>aAgg q3 fun z2=>ck (List.length z2=4) (pAgg ⟨b,0,none⟩ z2 w4 fun w5=>gAgg ⟨b,0,none⟩ 4 w5 fun z3=>some (.agg ⟨z3⟩,w5)))
 (R Ah5 D40 [(0,.pointer c),(1,iI i),(4,pP b),(5,pP p1),(7,iI (-1)),(8,iI 0)] w3)):=kR
def Bg5:Cuts:=⟨0,[(6,[0,1,4,7,8])],[],[]⟩
def Bc4:List Item:=A2 Tryz.f59
def D38:List Item:=stk [0,1,0,1,0,1,0,0,1,4,5] Bc4
theorem Ek3 :
 xQ Bg5 C R Ag8 Tryz.f59 Bc4 [(0,.pointer c),(1,iI i)] h =
 nw (.cells O8 false [iI 0,iI 0,.slice none 0 0,.bool false]) h fun b w=>bnd (C L5 [.pointer c,iI i] w) fun r w1=>as2 r fun q1 q2=>aAgg q1 fun x=>aInt .i64 q2 fun z1=>nw (.cells B1 false zZ1) w1 fun p1 w2=>ck (List.length x=16) (pAgg ⟨p1,0,none⟩ x w2 fun w3=>cond (z1 != 0)
 (bnd (C Af8 [iI z1] w3) fun q3 w4=>aAgg q3 fun z2=>ck (List.length z2=4) (pAgg ⟨b,0,none⟩ z2 w4 fun w5=>gAgg ⟨b,0,none⟩ 4 w5 fun z3=>some (.agg ⟨z3⟩,w5)))
 (R Ag8 D38 [(0,.pointer c),(1,iI i),(4,pP b),(7,.bool false),(8,iI 0)] w3)):=kR
def U8:Cuts:=⟨0,[(1,[0,5]),(6,[0,12]),(11,[0,20,21])],[],[]⟩
def Ac3:List Item:=A2 Tryz.f67
def Af0:List Item:=stk [0,0,1,4,5] Ac3
def Ae8:List Item:=stk [0,1,0,0,1,4,5] Ac3
def Ae9:List Item:=stk [0,1,0,1,0,0,1,4,5] Ac3
theorem D97 :
 xQ U8 C R B8 Tryz.f67 Ac3 [(0,.pointer c)] h =
 R B8 Af0 [(0,.pointer c),(5,iI 0)] h:=kR
theorem Bm0 (x5:Int) :
 xQ U8 C R B8 Tryz.f67 Af0 [(0,.pointer c),(5,iI x5)] h =
 cond (decide (x5<8))
 (bnd (C I9 [.pointer c,iI x5] h) fun r w=>as2 r fun q1 q2=>aAgg q1 fun _=>aInt .i64 q2 fun _=>R B8 Af0 [(0,.pointer c),(5,iI (wrap .i64 (x5+1)))] w)
 (R B8 Ae8 [(0,.pointer c),(12,iI 0)] h):=kR
theorem Bl0 (x12:Int) :
 xQ U8 C R B8 Tryz.f67 Ae8 [(0,.pointer c),(12,iI x12)] h =
 cond (decide (x12<12))
 (bnd (C U9 [.pointer c,iI x12] h) fun r w=>as2 r fun q1 q2=>aAgg q1 fun _=>aInt .i64 q2 fun _=>R B8 Ae8 [(0,.pointer c),(12,iI (wrap .i64 (x12+1)))] w)
 (bnd (C U7 [.pointer c,iI 3] h) fun q3 w1=>aInt .i64 q3 fun z2=>R B8 Ae9 [(0,.pointer c),(20,iI z2),(21,iI 0)] w1):=kR
theorem Bl9 (x20:Int) (x21:Int) :
 xQ U8 C R B8 Tryz.f67 Ae9 [(0,.pointer c),(20,iI x20),(21,iI x21)] h =
 cond (decide (x21<x20))
 (bnd (C An2 [.pointer c,iI x21] h) fun r w=>as2 r fun q1 q2=>aAgg q1 fun _=>aInt .i64 q2 fun _=>R B8 Ae9 [(0,.pointer c),(20,iI x20),(21,iI (wrap .i64 (x21+1)))] w)
 (bnd (C An5 [.pointer c] h) fun q3 w1=>as2 q3 fun q4 q5=>aAgg q4 fun _=>aInt .i64 q5 fun _=>bnd (C Ak8 [.pointer c] w1) fun q6 w2=>as2 q6 fun q7 q8=>aInt .i64 q7 fun _=>aBool q8 fun _=>some (.tuple ⟨[]⟩,w2)):=kR
def Df4:Cuts:=⟨0,[],[],[]⟩
def Ef8:List Item:=A2 Tryz.f68
theorem G26 :
 xQ Df4 C R A94 Tryz.f68 Ef8 [(0,.pointer m),(1,iI atv),(2,iI n)] h =
 bnd (C Bo1 [.pointer m,iI atv,iI n] h) fun r w=>aBool r fun x=>cond (!x)
 (some (.tuple ⟨[.slice none 0 0,iI 1]⟩,w))
 (aSome m fun p=>gSl (add p 0) w fun z1 _ xc=>ckB (fitsOpen z1 A1 w) (ck ((0:Int)≤wrap .i64 (atv+n)∧wrap .i64 (atv+n)≤(xc:Int)) (ck ((0:Int)≤atv∧atv≤((Int.toNat (wrap .i64 (atv+n)):Nat):Int)) (bnd (C H1 [.slice (G4 z1 (decide (Int.toNat atv<xc)) ((Int.toNat atv)*1)) ((Int.toNat (wrap .i64 (atv+n)))-(Int.toNat atv)) (xc-(Int.toNat atv))] w) fun q1 w1=>aSl q1 fun z2 xn_1 xc_1=>some (.tuple ⟨[.slice z2 xn_1 xc_1,iI 0]⟩,w1))))):=kR
def Do8:Cuts:=⟨0,[],[],[]⟩
def Ew3:List Item:=A2 Tryz.f73
theorem He6 :
 xQ Do8 C R Bh7 Tryz.f73 Ew3 [(0,.agg ⟨x⟩),(1,.pointer (some fv0))] h =
 nw (.cells Y6 false x) h fun b w=>gInt .i64 ⟨b,2,none⟩ w fun z1=>gInt .i64 fv0 w fun z2=>some (.bool (z1==(wrap .i64 (z2+1))),w):=kR
def Bv4:Cuts:=⟨0,[],[],[]⟩
def Dq7:List Item:=A2 Tryz.f74
theorem Ge5 :
 xQ Bv4 C R A74 Tryz.f74 Dq7 [(0,.agg ⟨x⟩)] h =
 nw (.cells Y6 false x) h fun b w=>gInt .i64 ⟨b,1,none⟩ w fun z1=>some (.bool (z1 != 2),w):=kR
def A50:Cuts:=⟨0,[],[],[]⟩
def Bw1:List Item:=A2 Tryz.f80
theorem Ed9 :
 xQ A50 C R U9 Tryz.f80 Bw1 [(0,.pointer c),(1,iI i)] h =
 nw (.cells H5 false [iI 0,iI 0,iI 0,iI 0]) h fun b w=>bnd (C Bb1 [iI i] w) fun r w1=>aAgg r fun x=>bnd (C L1 [.pointer c,.agg ⟨x⟩,.func (.func Aw4) ⟨[]⟩ ⟨[]⟩] w1) fun q1 w2=>as2 q1 fun q2 q3=>aAgg q2 fun z1=>aInt .i64 q3 fun z2=>ck (List.length z1=4) (pAgg ⟨b,0,none⟩ z1 w2 fun w3=>gAgg ⟨b,0,none⟩ 4 w3 fun z3=>some (.tuple ⟨[.agg ⟨z3⟩,iI z2]⟩,w3)):=kR
def A48:Cuts:=⟨0,[],[],[]⟩
def Bw7:List Item:=A2 Tryz.f82
theorem Ea9 :
 xQ A48 C R An2 Tryz.f82 Bw7 [(0,.pointer c),(1,iI i)] h =
 nw (.cells E5 false zZ4) h fun b w=>bnd (C Bs4 [iI i] w) fun r w1=>aAgg r fun x=>bnd (C I7 [.pointer c,.agg ⟨x⟩,.func (.func Aq5) ⟨[]⟩ ⟨[]⟩] w1) fun q1 w2=>as2 q1 fun q2 q3=>aAgg q2 fun z1=>aInt .i64 q3 fun z2=>ck (List.length z1=36) (pAgg ⟨b,0,none⟩ z1 w2 fun w3=>gAgg ⟨b,0,none⟩ 36 w3 fun z3=>some (.tuple ⟨[.agg ⟨z3⟩,iI z2]⟩,w3)):=kR
def At0:Cuts:=⟨0,[],[],[]⟩
def Bm5:List Item:=A2 Tryz.f84
theorem Dt5 (f:List Value) :
 xQ At0 C R Af4 Tryz.f84 Bm5 [(0,.pointer c),(1,iI i),(2,.agg ⟨f⟩)] h =
 nw (.cells H5 false f) h fun b w=>gAgg ⟨b,0,none⟩ 4 w fun x=>bnd (C Bb3 [.agg ⟨x⟩] w) fun r w1=>as2 r fun q1 q2=>aSl q1 fun z1 xn xc=>aBool q2 fun z2=>bnd (C Bb1 [iI i] w1) fun q3 w2=>aAgg q3 fun z3=>bnd (C O1 [.pointer c,.agg ⟨z3⟩,.slice z1 xn xc,.bool z2] w2) fun q4 w3=>aBool q4 fun z4=>some (.bool z4,w3):=kR
def Ao0:Cuts:=⟨0,[],[],[]⟩
def Bb8:List Item:=A2 Tryz.f90
theorem Dk2 :
 xQ Ao0 C R N3 Tryz.f90 Bb8 [(0,.slice s sn sc),(1,iI v)] h =
 bnd (C H9 [.slice s sn sc,iI v] h) fun r w=>aInt .i64 r fun x=>some (.bool (decide (x≥0)),w):=kR
def Bp2:Cuts:=⟨0,[],[],[]⟩
def Dl7:List Item:=A2 Tryz.f104
theorem E18 :
 xQ Bp2 C R A09 Tryz.f104 Dl7 [(0,.pointer k),(1,iI env)] h =
 aSome k fun p=>gPtr (add p 6) h fun x=>aSome x fun p_1=>gPtr (add p_1 3) h fun z1=>bnd (C Bc1 [.pointer z1,iI env] h) fun r w=>aSl r fun z2 xn xc=>cond ((xn:Int)==0)
 (some (.pointer none,w))
 (nw (.cells B85 false [.pointer k,iI env,.slice z2 xn xc,.slice none 0 0]) w fun b w1=>some (pP b,w1)):=kR
def Bn4:Cuts:=⟨0,[],[],[(3,⟨[0,1,2,3,4,5,6,7,8,9,10,11,12,13,14,15,16,17,18,19],[0,1,3,7,0,0,32,0,128,0,512,0,2048,0,8192,32767,65535,65535,262143,524287],[],[]⟩),(5,⟨[0,1,2,3,4,5,6,7,8,9,10,11],[0,1,3,7,0,0,32,127,255,255,1023,2047],[],[]⟩),(7,⟨[0,1,2,3,4,5,6,7,8,9,10,11,12,13,14,15],[0,1,3,7,0,16,48,112,0,496,1008,2047,4095,4095,16383,32767],[],[]⟩),(9,⟨[0,1,2,3,4,5,6,7,8,9,10,11,12,13,14,15],[0,1,3,7,0,16,48,112,0,496,1008,0,2048,8191,16383,32767],[],[]⟩)]⟩
def Dm5:List Item:=A2 Tryz.f106
theorem E41 (c:List Value) :
 xQ Bn4 C R A07 Tryz.f106 Dm5 [(0,.pointer k),(1,iI env),(2,.agg ⟨c⟩)] h =
 nw (.cells As4 false c) h fun b w=>gInt .i64 ⟨b,0,none⟩ w fun x=>cond (x==4)
 (aSome k fun p=>gPtr (add p 3) w fun z1=>gInt .i64 ⟨b,1,none⟩ w fun z2=>gInt .i64 ⟨b,4,none⟩ w fun z3=>gInt .i64 ⟨b,5,none⟩ w fun z4=>gInt .i64 ⟨b,2,none⟩ w fun z5=>gInt .i64 ⟨b,3,none⟩ w fun z6=>bnd (C A17 [.pointer z1,iI env,iI z2,iI z3,iI z4,iI z5,iI z6] w) fun r w1=>as2 r fun q1 q2=>aInt .i64 q1 fun z7=>aInt .i64 q2 fun z8=>some (.tuple ⟨[iI z7,iI z8]⟩,w1))
 (cond (x==5)
 (aSome k fun p_1=>gPtr (add p_1 3) w fun z9=>gInt .i64 ⟨b,1,none⟩ w fun z10=>bnd (C Ex5 [.pointer z9,iI env,iI z10] w) fun q3 w2=>as2 q3 fun q4 q5=>aInt .i64 q4 fun z11=>aInt .i64 q5 fun z12=>some (.tuple ⟨[iI z11,iI z12]⟩,w2))
 (cond (x==6)
 (aSome k fun p_2=>gPtr (add p_2 4) w fun z13=>aSome k fun p_3=>gSl (add p_3 0) w fun z14 xn _=>aSome z14 fun p_4=>ck ((0:Int)≤env∧env<(xn:Int)) (gInt .i64 (add (B0 p_4) (Int.toNat env*1)) w fun z15=>bnd (C Ay8 [.pointer z13,iI z15] w) fun q6 w3=>as2 q6 fun q7 q8=>aInt .i64 q7 fun z16=>aInt .i64 q8 fun z17=>some (.tuple ⟨[iI z16,iI z17]⟩,w3)))
 (cond (x==7)
 (aSome k fun p_5=>gPtr (add p_5 4) w fun z18=>aSome k fun p_6=>gSl (add p_6 0) w fun z19 xn_1 _=>aSome z19 fun p_7=>ck ((0:Int)≤env∧env<(xn_1:Int)) (gInt .i64 (add (B0 p_7) (Int.toNat env*1)) w fun z20=>gInt .i64 ⟨b,3,none⟩ w fun z21=>bnd (C A18 [.pointer z18,iI z20,iI z21] w) fun q9 w4=>aInt .i64 q9 fun z22=>some (.tuple ⟨[iI 0,iI z22]⟩,w4)))
 (cond (x==8)
 (gAgg ⟨b,0,none⟩ 7 w fun z23=>bnd (C A75 [.pointer k,iI env,.agg ⟨z23⟩] w) fun q10 w5=>as2 q10 fun q11 q12=>aInt .i64 q11 fun z24=>aInt .i64 q12 fun z25=>some (.tuple ⟨[iI z24,iI z25]⟩,w5))
 (cond (x==9)
 (gAgg ⟨b,0,none⟩ 7 w fun z26=>bnd (C A78 [.pointer k,iI env,.agg ⟨z26⟩] w) fun q13 w6=>aInt .i64 q13 fun z27=>some (.tuple ⟨[iI 0,iI z27]⟩,w6))
 (cond (x==10)
 (aSome k fun p_8=>gInt .i64 (add p_8 7) w fun z28=>some (.tuple ⟨[iI z28,iI 0]⟩,w))
 (some (.tuple ⟨[iI 0,iI 7]⟩,w)))))))):=kR
def Bf1:Cuts:=⟨0,[],[],[(6,⟨[0,1,2,3,4,5,6],[0,0,0,0,14,31,63],[(4,[0])],[]⟩)]⟩
def B63:List Item:=A2 Tryz.f129
theorem El0 :
 xQ Bf1 C R At2 Tryz.f129 B63 [(0,.pointer c),(1,iI i)] h =
 nw (.cells H5 false [iI 0,iI 0,iI 0,iI 0]) h fun b w=>nw (.cells A6 false [iI 0,iI 0]) w fun p1 w1=>pAgg ⟨p1,0,none⟩ [iI 2,iI i] w1 fun w2=>gAgg ⟨p1,0,none⟩ 2 w2 fun x=>bnd (C U4 [.pointer c,.agg ⟨x⟩] w2) fun r w3=>as2 r fun q1 q2=>aStr q1 fun z1=>aBool q2 fun z2=>cond (!z2)
 (pAgg ⟨b,0,none⟩ [iI 0,iI 0,iI 0,iI 0] w3 fun w4=>gAgg ⟨b,0,none⟩ 4 w4 fun z3=>some (.tuple ⟨[.agg ⟨z3⟩,iI 2]⟩,w4))
 (bnd (C Bs5 [.string z1] w3) fun q3 w5=>as2 q3 fun q4 q5=>aAgg q4 fun z4=>aInt .i64 q5 fun z5=>nw (.cells H5 false [iI 0,iI 0,iI 0,iI 0]) w5 fun p2 w6=>ck (List.length z4=4) (pAgg ⟨p2,0,none⟩ z4 w6 fun w7=>gAgg ⟨p2,0,none⟩ 4 w7 fun z6=>gAgg ⟨p1,0,none⟩ 2 w7 fun z7=>bnd (C Z2 [.pointer c,.agg ⟨z7⟩,iI z5] w7) fun q6 w8=>aInt .i64 q6 fun z8=>gAgg ⟨p2,0,none⟩ 4 w8 fun z9=>same (.agg ⟨z6⟩) (.agg ⟨z9⟩) (ck (List.length z6=4) (pAgg ⟨b,0,none⟩ z6 w8 fun w9=>gAgg ⟨b,0,none⟩ 4 w9 fun z10=>some (.tuple ⟨[.agg ⟨z10⟩,iI z8]⟩,w9))))):=kR
def Z4:Cuts:=⟨0,[(1,[0,2]),(5,[0,3]),(9,[0,4])],[],[]⟩
def Ah9:List Item:=A2 Tryz.f136
def Ak6:List Item:=stk [0,0,1,4,5] Ah9
def Ak1:List Item:=stk [0,1,0,0,1,4,5] Ah9
def Ak4:List Item:=stk [0,1,0,1,0,0,1,4,5] Ah9
theorem Em1 :
 xQ Z4 C R D2 Tryz.f136 Ah9 [(0,.pointer c)] h =
 R D2 Ak6 [(0,.pointer c),(2,iI 0)] h:=kR
theorem Bt8 :
 xQ Z4 C R D2 Tryz.f136 Ak6 [(0,.pointer c),(2,iI i)] h =
 cond (decide (i<8))
 (bnd (C Z0 [.pointer c,iI i] h) fun r w=>as2 r fun q1 q2=>aAgg q1 fun _=>aInt .i64 q2 fun _=>R D2 Ak6 [(0,.pointer c),(2,iI (wrap .i64 (i+1)))] w)
 (R D2 Ak1 [(0,.pointer c),(3,iI 0)] h):=kR
theorem Bu4 :
 xQ Z4 C R D2 Tryz.f136 Ak1 [(0,.pointer c),(3,iI i)] h =
 cond (decide (i<12))
 (bnd (C At2 [.pointer c,iI i] h) fun r w=>as2 r fun q1 q2=>aAgg q1 fun _=>aInt .i64 q2 fun _=>R D2 Ak1 [(0,.pointer c),(3,iI (wrap .i64 (i+1)))] w)
 (R D2 Ak4 [(0,.pointer c),(4,iI 0)] h):=kR
theorem Bu3 :
 xQ Z4 C R D2 Tryz.f136 Ak4 [(0,.pointer c),(4,iI i)] h =
 aSome c fun p=>gSl (add p 2) h fun _ xn _=>cond (decide (i<(wrap .i64 (3+(xn:Int)))))
 (bnd (C At3 [.pointer c,iI i] h) fun r w=>as2 r fun q1 q2=>aAgg q1 fun _=>aInt .i64 q2 fun _=>R D2 Ak4 [(0,.pointer c),(4,iI (wrap .i64 (i+1)))] w)
 (bnd (C Ar4 [.pointer c] h) fun q3 w1=>as2 q3 fun q4 q5=>aAgg q4 fun _=>aInt .i64 q5 fun _=>bnd (C Ap4 [.pointer c] w1) fun q6 w2=>as2 q6 fun q7 q8=>aInt .i64 q7 fun _=>aBool q8 fun _=>some (.tuple ⟨[]⟩,w2)):=kR
def Az7:Cuts:=⟨0,[],[],[]⟩
def Bt6:List Item:=A2 Tryz.f144
theorem D31 :
 xQ Az7 C R Ak8 Tryz.f144 Bt6 [(0,.pointer c)] h =
 bnd (C U3 [.pointer c,.agg ⟨[iI 5,iI 0]⟩,.func (.func Ai5) ⟨[]⟩ ⟨[]⟩] h) fun r w=>as2 r fun q1 q2=>aInt .i64 q1 fun x=>aInt .i64 q2 fun z1=>some (.tuple ⟨[iI x,.bool (z1==1)]⟩,w):=kR
def Dx2:Cuts:=⟨0,[],[],[]⟩
def Ez2:List Item:=A2 Tryz.f145
theorem Hu1 :
 xQ Dx2 C R Bo1 Tryz.f145 Ez2 [(0,.pointer m),(1,iI atv),(2,iI n)] h =
 bnd (cond (decide (atv≥0)) (some (decide (n≥0),h)) (some (false,h))) fun c w=>bnd (cond c (aSome m fun p=>gSl (add p 0) w fun _ xn _=>some (decide (atv≤(xn:Int)),w)) (some (false,w))) fun c_1 w1=>bnd (cond c_1 (aSome m fun p_1=>gSl (add p_1 0) w1 fun _ xn_1 _=>some (decide (n≤(wrap .i64 ((xn_1:Int)-atv))),w1)) (some (false,w1))) fun c_2 w2=>some (.bool c_2,w2):=kR
def De1:Cuts:=⟨0,[],[],[]⟩
def Ej4:List Item:=A2 Tryz.f158
theorem G29 :
 xQ De1 C R Bb1 Tryz.f158 Ej4 [(0,iI i)] h =
 nw (.cells A6 false [iI 0,iI 0]) h fun b w=>pAgg ⟨b,0,none⟩ [iI 2,iI i] w fun w1=>gAgg ⟨b,0,none⟩ 2 w1 fun x=>some (.agg ⟨x⟩,w1):=kR
def Dh7:Cuts:=⟨0,[],[],[]⟩
def Ei9:List Item:=A2 Tryz.f159
theorem G16 :
 xQ Dh7 C R Aw4 Tryz.f159 Ei9 [(0,.slice b bn bc)] h =
 nw (.cells H5 false [iI 0,iI 0,iI 0,iI 0]) h fun p1 w=>bnd (cond ((bn:Int)==8) (bnd (C Aq6 [.slice b bn bc] w) fun r w1=>aBool r fun x=>some (x,w1)) (some (false,w))) fun c w2=>cond c
 (pAgg ⟨p1,0,none⟩ [iI 0,iI 0,iI 0,iI 0] w2 fun w3=>gAgg ⟨p1,0,none⟩ 4 w3 fun z1=>some (.tuple ⟨[.agg ⟨z1⟩,iI 0]⟩,w3))
 (bnd (C Bh6 [] w2) fun q1 w4=>aPtr q1 fun z2=>bnd (C W2 [.pointer z2,.slice b bn bc] w4) fun q2 w5=>as2 q2 fun q3 q4=>aAgg q3 fun z3=>aBool q4 fun z4=>nw (.cells H5 false [iI 0,iI 0,iI 0,iI 0]) w5 fun p2 w6=>ck (List.length z3=4) (pAgg ⟨p2,0,none⟩ z3 w6 fun w7=>cond (!z4)
 (pAgg ⟨p1,0,none⟩ [iI 0,iI 0,iI 0,iI 0] w7 fun w8=>gAgg ⟨p1,0,none⟩ 4 w8 fun z5=>some (.tuple ⟨[.agg ⟨z5⟩,iI 2]⟩,w8))
 (gAgg ⟨p2,0,none⟩ 4 w7 fun z6=>ck (List.length z6=4) (pAgg ⟨p1,0,none⟩ z6 w7 fun w9=>gAgg ⟨p1,0,none⟩ 4 w9 fun z7=>some (.tuple ⟨[.agg ⟨z7⟩,iI 1]⟩,w9))))):=kR
def Dh2:Cuts:=⟨0,[],[],[]⟩
def Eh0:List Item:=A2 Tryz.f161
theorem G37 :
 xQ Dh2 C R Bs4 Tryz.f161 Eh0 [(0,iI i)] h =
 nw (.cells A6 false [iI 0,iI 0]) h fun b w=>pAgg ⟨b,0,none⟩ [iI 3,iI i] w fun w1=>gAgg ⟨b,0,none⟩ 2 w1 fun x=>some (.agg ⟨x⟩,w1):=kR
def A92:Cuts:=⟨0,[],[],[]⟩
def B48:List Item:=A2 Tryz.f175
theorem Ej6 :
 xQ A92 C R Ap4 Tryz.f175 B48 [(0,.pointer c)] h =
 nw (.cells A6 false [iI 0,iI 0]) h fun b w=>pAgg ⟨b,0,none⟩ [iI 5,iI 0] w fun w1=>gAgg ⟨b,0,none⟩ 2 w1 fun x=>bnd (C U4 [.pointer c,.agg ⟨x⟩] w1) fun r w2=>as2 r fun q1 q2=>aStr q1 fun z1=>aBool q2 fun z2=>cond (!z2)
 (some (.tuple ⟨[iI 0,.bool false]⟩,w2))
 (ck ((0:Int)≤0∧0<((ByteArray.size z1:Nat):Int)) (bnd (cond (decide (((List.getD (ByteArray.data z1).toList (Int.toNat 0) 0).toNat:Int)>7)) (some (true,w2)) (ck ((0:Int)≤0∧0<((ByteArray.size z1:Nat):Int)) (bnd (C Ae5 [iI (wrap .i64 (((List.getD (ByteArray.data z1).toList (Int.toNat 0) 0).toNat:Int)))] w2) fun q3 w3=>aStr q3 fun z3=>some (!(z1.toList==z3.toList),w3)))) fun c_1 w4=>cond c_1
 (gAgg ⟨b,0,none⟩ 2 w4 fun z4=>bnd (C G0 [.pointer c,.agg ⟨z4⟩] w4) fun q4 w5=>as0 q4 (some (.tuple ⟨[iI 0,.bool false]⟩,w5)))
 (ck ((0:Int)≤0∧0<((ByteArray.size z1:Nat):Int)) (some (.tuple ⟨[iI (wrap .i64 (((List.getD (ByteArray.data z1).toList (Int.toNat 0) 0).toNat:Int))),.bool true]⟩,w4))))):=kR
def A54:Cuts:=⟨0,[],[],[(5,⟨[0,1,2,3,4,5,6],[0,0,0,0,14,31,63],[(4,[0])],[]⟩)]⟩
def By6:List Item:=A2 Tryz.f176
theorem D94 :
 xQ A54 C R Ac6 Tryz.f176 By6 [(0,.pointer c),(1,.agg ⟨r⟩)] h =
 nw (.cells A6 false r) h fun b w=>nw (.cells E5 false zZ4) w fun p1 w1=>gAgg ⟨b,0,none⟩ 2 w1 fun x=>bnd (C U4 [.pointer c,.agg ⟨x⟩] w1) fun q1 w2=>as2 q1 fun q2 q3=>aStr q2 fun z1=>aBool q3 fun z2=>cond (!z2)
 (pAgg ⟨p1,0,none⟩ zZ4 w2 fun w3=>gAgg ⟨p1,0,none⟩ 36 w3 fun z3=>some (.tuple ⟨[.agg ⟨z3⟩,iI 2]⟩,w3))
 (bnd (C Ad5 [.string z1] w2) fun q4 w4=>as2 q4 fun q5 q6=>aAgg q5 fun z4=>aInt .i64 q6 fun z5=>nw (.cells E5 false zZ4) w4 fun p2 w5=>ck (List.length z4=36) (pAgg ⟨p2,0,none⟩ z4 w5 fun w6=>gAgg ⟨p2,0,none⟩ 36 w6 fun z6=>gAgg ⟨b,0,none⟩ 2 w6 fun z7=>bnd (C Z2 [.pointer c,.agg ⟨z7⟩,iI z5] w6) fun q7 w7=>aInt .i64 q7 fun z8=>gAgg ⟨p2,0,none⟩ 36 w7 fun z9=>same (.agg ⟨z6⟩) (.agg ⟨z9⟩) (ck (List.length z6=36) (pAgg ⟨p1,0,none⟩ z6 w7 fun w8=>gAgg ⟨p1,0,none⟩ 36 w8 fun z10=>some (.tuple ⟨[.agg ⟨z10⟩,iI z8]⟩,w8))))):=kR
def Bm2:Cuts:=⟨0,[(3,[0,3,4])],[],[(5,⟨[0,1,2,3,4,5,6,7,8,9,10],[0,0,2,6,14,0,32,126,255,511,1023],[(5,[4])],[]⟩),(6,⟨[0,1,2,3,4,5,6,7,8,9,10],[0,0,2,6,14,0,32,126,255,511,1023],[],[]⟩)]⟩
def Db3:List Item:=A2 Tryz.f203
def A20:List Item:=stk [0,1,0,1,0,0,1,4,5] Db3
theorem Gy6 :
 xQ Bm2 C R Ab0 Tryz.f203 Db3 [(0,iI envs)] h =
 nw (.cells E45 false [.slice none 0 0,.slice none 0 0]) h fun b w=>R Ab0 A20 [(0,iI envs),(3,pP b),(4,iI 0)] w:=kR
theorem Dm6 (s:Addr) :
 xQ Bm2 C R Ab0 Tryz.f203 A20 [(0,iI envs),(3,.pointer (some s)),(4,iI i)] h =
 bnd (cond (decide (i<envs)) (some (decide (i<40),h)) (some (false,h))) fun c w=>cond c
 (gSl (add s 0) w fun x xn xc=>bnd (C Ab2 [iI 32] w) fun r w1=>aPtr r fun z1=>gSl (add s 0) w1 fun z2 xn_1 xc_1=>same (.slice x xn xc) (.slice z2 xn_1 xc_1) (nw (.cells Ba3 false [.pointer z1]) w1 fun b w2=>gCells (some ⟨b,0,none⟩) (1*1) w2 fun cs=>ckB (fitsOpen x Ba3 w2) (apd Ba3 1 x xn xc 1 cs w2 fun a an ac w3=>pV (add s 0) (.slice a an ac) w3 fun w4=>gSl (add s 1) w4 fun z3 xn_2 xc_2=>ck ((0:Int)≤32∧(32:Int)≤32∧32≤(A5:Int)) (nw (.cells P9 false (I0 (Int.toNat 32) [iI 0,iI 0,iI 0,iI 0,iI 0,iI 0])) w4 fun p1 w5=>nw (.cells By0 false [.slice (some ⟨p1,0,none⟩) (Int.toNat 32) (Int.toNat 32)]) w5 fun p2 w6=>gCells (some ⟨p2,0,none⟩) (1*1) w6 fun cs_1=>ckB (fitsOpen z3 By0 w6) (apd By0 1 z3 xn_2 xc_2 1 cs_1 w6 fun a_1 an_1 ac_1 w7=>pV (add s 1) (.slice a_1 an_1 ac_1) w7 fun w8=>R Ab0 A20 [(0,iI envs),(3,.pointer (some s)),(4,iI (wrap .i64 (i+1)))] w8)))))
 (some (.pointer (some s),w)):=kR
def Bk8:Cuts:=⟨0,[],[],[]⟩
def Dd6:List Item:=A2 Tryz.f216
theorem Ey2 (s:Int) :
 xQ Bk8 C R Ay8 Tryz.f216 Dd6 [(0,.pointer q),(1,iI s)] h =
 bnd (C Al9 [.pointer q,iI s] h) fun r w=>aBool r fun x=>cond (!x)
 (some (.tuple ⟨[iI 0,iI 1]⟩,w))
 (aSome q fun p=>gSl (add p 0) w fun z1 xn _=>aSome z1 fun p_1=>ck ((0:Int)≤s∧s<(xn:Int)) (gSl (add (B0 p_1) (Int.toNat s*1)) w fun z2 xn_1 xc_1=>bnd (C H9 [.slice z2 xn_1 xc_1,iI 0] w) fun q1 w1=>aInt .i64 q1 fun z3=>cond (decide (z3<0))
 (some (.tuple ⟨[iI 0,iI 4]⟩,w1))
 (aSome q fun p_2=>gSl (add p_2 0) w1 fun z4 xn_2 _=>aSome z4 fun p_3=>ck ((0:Int)≤s∧s<(xn_2:Int)) (gSl (add (B0 p_3) (Int.toNat s*1)) w1 fun z5 xn_3 _=>aSome z5 fun p_4=>ck ((0:Int)≤z3∧z3<(xn_3:Int)) (pV (add (B0 p_4) (Int.toNat z3*1)) (iI 1) w1 fun w2=>some (.tuple ⟨[iI z3,iI 0]⟩,w2)))))):=kR
def Bv5:Cuts:=⟨0,[],[],[]⟩
def Dq2:List Item:=A2 Tryz.f218
theorem Ge6 (c:List Value) :
 xQ Bv5 C R A75 Tryz.f218 Dq2 [(0,.pointer k),(1,iI env),(2,.agg ⟨c⟩)] h =
 nw (.cells As4 false c) h fun b w=>gInt .i64 ⟨b,3,none⟩ w fun x=>bnd (C Aw9 [.pointer k,iI env,iI x] w) fun r w1=>as2 r fun q1 q2=>aPtr q1 fun z1=>aInt .i64 q2 fun z2=>cond (z2 != 0)
 (some (.tuple ⟨[iI 0,iI z2]⟩,w1))
 (aSome k fun p=>gInt .i64 (add p 7) w1 fun z3=>bnd (C B5 [.pointer z1,iI env,iI z3] w1) fun q3 w2=>as2 q3 fun q4 q5=>aInt .i64 q4 fun z4=>aBool q5 fun _=>some (.tuple ⟨[iI z4,iI 0]⟩,w2)):=kR
def B28:Cuts:=⟨0,[],[],[]⟩
def D25:List Item:=A2 Tryz.f221
theorem Gm0 :
 xQ B28 C R Be5 Tryz.f221 D25 [(0,.pointer s),(1,iI e),(2,iI name)] h =
 nw (.cells P9 false [iI 0,iI 0,iI 0,iI 0,iI 0,iI 0]) h fun b w=>bnd (C Am4 [.pointer s,iI e] w) fun r w1=>aBool r fun x=>bnd (cond (!x) (some (true,w1)) (aSome s fun p=>gSl (add p 0) w1 fun z1 xn _=>aSome z1 fun p_1=>ck ((0:Int)≤e∧e<(xn:Int)) (gPtr (add (B0 p_1) (Int.toNat e*1)) w1 fun z2=>bnd (C Bc7 [.pointer z2,iI name] w1) fun q1 w2=>aBool q1 fun z3=>some (!z3,w2)))) fun c w3=>cond c
 (pAgg ⟨b,0,none⟩ [iI 0,iI 0,iI 0,iI 0,iI 0,iI 0] w3 fun w4=>gAgg ⟨b,0,none⟩ 6 w4 fun z4=>some (.tuple ⟨[.agg ⟨z4⟩,iI 2]⟩,w4))
 (aSome s fun p_2=>gSl (add p_2 1) w3 fun z5 xn_1 _=>aSome z5 fun p_3=>ck ((0:Int)≤e∧e<(xn_1:Int)) (gSl (add (B0 p_3) (Int.toNat e*1)) w3 fun z6 xn_2 _=>aSome z6 fun p_4=>ck ((0:Int)≤B4 .i64 name 255∧B4 .i64 name 255<(xn_2:Int)) (gAgg (add (B0 p_4) (Int.toNat (B4 .i64 name 255)*6)) 6 w3 fun z7=>ck (List.length z7=6) (pAgg ⟨b,0,none⟩ z7 w3 fun w5=>gAgg ⟨b,0,none⟩ 6 w5 fun z8=>some (.tuple ⟨[.agg ⟨z8⟩,iI 0]⟩,w5))))):=kR
def Bc9:Cuts:=⟨0,[],[],[]⟩
def B51:List Item:=A2 Tryz.f235
theorem Em3 (size:Int) (put:Value) (get:Value) :
 xQ Bc9 C R Ar8 Tryz.f235 B51 [(0,iI size),(1,put),(2,get)] h =
 one put (one get (nw (.cells Bw8 false [iI (mm2 false (mm2 true size 0) 64),put,get]) h fun b w=>some (pP b,w))):=kR
def Bj4:Cuts:=⟨0,[(4,[1,2,22,23,24]),(9,[1,2,43,44,45]),(14,[1,58,59])],[],[]⟩
def Bx5:List Item:=A2 Tryz.f236
def Dh8:List Item:=stk [0,1,0,1,0,0,1,4,5] Bx5
def Dh5:List Item:=stk [0,1,0,1,0,1,0,0,1,4,5] Bx5
def Dd9:List Item:=stk [0,1,0,1,0,1,0,1,0,0,1,4,5] Bx5
theorem H01 (p:List Value) :
 xQ Bj4 C R P3 Tryz.f236 Bx5 [(0,.agg ⟨p⟩),(1,.slice b bn bc)] h =
 nw (.cells B1 false p) h fun p1 w=>gAgg ⟨p1,0,none⟩ 16 w fun x=>bnd (C Ds9 [.agg ⟨x⟩] w) fun r w1=>aBool r fun z1=>cond (!z1)
 (some (.bool false,w1))
 (gInt .i64 ⟨p1,0,none⟩ w1 fun z2=>gInt .i64 ⟨p1,1,none⟩ w1 fun z3=>gInt .i64 ⟨p1,2,none⟩ w1 fun z4=>gInt .i64 ⟨p1,3,none⟩ w1 fun z5=>nw (.cells B2 false [iI z2,iI z3,iI z4,iI z5]) w1 fun p2 w2=>R P3 Dh8 [(1,.slice b bn bc),(2,pP p1),(22,.slice (some ⟨p2,0,none⟩) 4 4),(23,iI 4),(24,iI 0)] w2):=kR
theorem Ba1 (x22:Option Addr) (x22n x22c:Nat) (x23:Int) :
 xQ Bj4 C R P3 Tryz.f236 Dh8 [(1,.slice b bn bc),(2,.pointer (some p)),(22,.slice x22 x22n x22c),(23,iI x23),(24,iI x24)] h =
 cond (decide (x24<x23))
 (aSome x22 fun p_1=>ck ((0:Int)≤x24∧x24<(x22n:Int)) (gInt .i64 (add (B0 p_1) (Int.toNat x24*1)) h fun x=>aSome b fun p_2=>ck ((0:Int)≤x24∧x24<(bn:Int)) (pV (add (B0 p_2) (Int.toNat x24*1)) (.int .u8 (wrap .u8 (x))) h fun w=>R P3 Dh8 [(1,.slice b bn bc),(2,.pointer (some p)),(22,.slice x22 x22n x22c),(23,iI x23),(24,iI (wrap .i64 (x24+1)))] w)))
 (gInt .i64 (add p 4) h fun z1=>gInt .i64 (add p 5) h fun z2=>gInt .i64 (add p 6) h fun z3=>gInt .i64 (add p 7) h fun z4=>nw (.cells B2 false [iI z1,iI z2,iI z3,iI z4]) h fun p1 w1=>R P3 Dh5 [(1,.slice b bn bc),(2,.pointer (some p)),(43,.slice (some ⟨p1,0,none⟩) 4 4),(44,iI 4),(45,iI 0)] w1):=kR
theorem Ba9 (x43:Option Addr) (x43n x43c:Nat) (x44:Int) :
 xQ Bj4 C R P3 Tryz.f236 Dh5 [(1,.slice b bn bc),(2,.pointer (some p)),(43,.slice x43 x43n x43c),(44,iI x44),(45,iI x45)] h =
 cond (decide (x45<x44))
 (aSome x43 fun p_1=>ck ((0:Int)≤x45∧x45<(x43n:Int)) (gInt .i64 (add (B0 p_1) (Int.toNat x45*1)) h fun x=>bnd (C Bo9 [.slice b bn bc,iI (wrap .i64 (4+(wrap .i64 (2*x45)))),iI x] h) fun r w=>aBool r fun _=>R P3 Dh5 [(1,.slice b bn bc),(2,.pointer (some p)),(43,.slice x43 x43n x43c),(44,iI x44),(45,iI (wrap .i64 (x45+1)))] w))
 (gAgg (add p 8) 8 h fun z2=>R P3 Dd9 [(1,.slice b bn bc),(58,.agg ⟨z2⟩),(59,iI 0)] h):=kR
theorem Z6 (x58:List Value) (x59:Int) :
 xQ Bj4 C R P3 Tryz.f236 Dd9 [(1,.slice b bn bc),(58,.agg ⟨x58⟩),(59,iI x59)] h =
 cond (decide (x59<8))
 (ck ((0:Int)≤x59∧x59<((8:Nat):Int)) (nth x58 (Int.toNat x59*1) fun x=>aInt .i64 x fun z1=>aSome b fun p=>ck ((0:Int)≤wrap .i64 (12+x59)∧wrap .i64 (12+x59)<(bn:Int)) (pV (add (B0 p) (Int.toNat (wrap .i64 (12+x59))*1)) (.int .u8 (wrap .u8 (z1))) h fun w=>R P3 Dd9 [(1,.slice b bn bc),(58,.agg ⟨x58⟩),(59,iI (wrap .i64 (x59+1)))] w)))
 (aSome b fun p_1=>ck ((0:Int)≤20∧20<(bn:Int)) (pV (add (B0 p_1) (Int.toNat 20*1)) (.int .u8 167) h fun w1=>ckB (fitsOpen b A1 w1) (ck ((0:Int)≤21∧21≤(bc:Int)) (bnd (C Ac1 [.slice (G4 b (decide (0<bc)) (0*1)) ((Int.toNat 21)-0) (bc-0)] w1) fun r w2=>aInt .u8 r fun z2=>aSome b fun p_2=>ck ((0:Int)≤21∧21<(bn:Int)) (pV (add (B0 p_2) (Int.toNat 21*1)) (.int .u8 z2) w2 fun w3=>some (.bool true,w3)))))):=kR
def Bg3:Cuts:=⟨0,[],[],[(4,⟨[0,1,2,3,4,5,6,7,8,9,10,11,12,13,14,15,16,17,18,19,20,21,22,23,24,25],[0,1,3,7,0,16,48,112,0,256,768,1792,0,7936,16128,0,0,130816,262143,524287,1048575,1048575,1048575,2097151,12582911,33554431],[],[]⟩)]⟩
def B97:List Item:=A2 Tryz.f238
theorem Eo6 :
 xQ Bg3 C R U4 Tryz.f238 B97 [(0,.pointer c),(1,.agg ⟨r⟩)] h =
 nw (.cells A6 false r) h fun b w=>gAgg ⟨b,0,none⟩ 2 w fun x=>bnd (C Ap0 [.pointer c,.agg ⟨x⟩] w) fun q1 w1=>as4 q1 fun q2 q3 q4 q5=>aInt .i64 q2 fun z1=>aInt .i64 q3 fun z2=>aInt .i64 q4 fun z3=>aBool q5 fun z4=>bnd (cond (!z4) (some (true,w1)) (gAgg ⟨b,0,none⟩ 2 w1 fun z5=>bnd (C Q1 [.pointer c,.agg ⟨z5⟩] w1) fun q6 w2=>aBool q6 fun z6=>some (z6,w2))) fun c_1 w3=>cond c_1
 (some (.tuple ⟨[.string (ByteArray.mk ⟨[]⟩),.bool false]⟩,w3))
 (aSome c fun p=>gPtr (add p 0) w3 fun z7=>aSome c fun p_1=>gInt .i64 (add p_1 1) w3 fun z8=>aSome c fun p_2=>gSl (add p_2 2) w3 fun z9 xn _=>aSome z9 fun p_3=>ck ((0:Int)≤z1∧z1<(xn:Int)) (gInt .i64 (add (B0 p_3) (Int.toNat z1*1)) w3 fun z10=>bnd (C Ae6 [.pointer z7,iI z8,.agg ⟨[iI 1,iI z10,iI z2,iI z3,iI 0,iI 0,.slice none 0 0]⟩] w3) fun q7 w4=>as3 q7 fun q8 q9 q10=>aInt .i64 q8 fun z11=>aInt .i64 q9 fun _=>aStr q10 fun z13=>cond (z11 != 0)
 (gAgg ⟨b,0,none⟩ 2 w4 fun z14=>bnd (C G0 [.pointer c,.agg ⟨z14⟩] w4) fun q11 w5=>as0 q11 (some (.tuple ⟨[.string (ByteArray.mk ⟨[]⟩),.bool false]⟩,w5)))
 (some (.tuple ⟨[.string z13,.bool true]⟩,w4)))):=kR
def Df9:Cuts:=⟨0,[],[],[]⟩
def Eh3:List Item:=A2 Tryz.f242
theorem G07 (f:List Value) :
 xQ Df9 C R Br6 Tryz.f242 Eh3 [(0,.agg ⟨f⟩)] h =
 nw (.cells H5 false f) h fun b w=>gInt .i64 ⟨b,0,none⟩ w fun x=>bnd (C Q2 [iI x,iI 1,iI 3] w) fun r w1=>aBool r fun z1=>bnd (cond z1 (gInt .i64 ⟨b,1,none⟩ w1 fun z2=>bnd (C Q2 [iI z2,iI 0,iI 7] w1) fun q1 w2=>aBool q1 fun z3=>some (z3,w2)) (some (false,w1))) fun c w3=>bnd (cond c (gInt .i64 ⟨b,0,none⟩ w3 fun z4=>bnd (cond (z4 != 3) (some (true,w3)) (gInt .i64 ⟨b,1,none⟩ w3 fun z5=>some (z5==0,w3))) fun c_1 w4=>some (c_1,w4)) (some (false,w3))) fun c_2 w5=>bnd (cond c_2 (gInt .i64 ⟨b,2,none⟩ w5 fun z6=>bnd (C Q2 [iI z6,iI 1,iI 64] w5) fun q2 w6=>aBool q2 fun z7=>some (z7,w6)) (some (false,w5))) fun c_3 w7=>bnd (cond c_3 (gInt .i64 ⟨b,3,none⟩ w7 fun z8=>bnd (C Q2 [iI z8,iI 0,iI 1] w7) fun q3 w8=>aBool q3 fun z9=>some (z9,w8)) (some (false,w7))) fun c_4 w9=>some (.bool c_4,w9):=kR
def Au8:Cuts:=⟨0,[],[(8,[8,11,12])],[(7,⟨[0,1,2,3,4,5,6,7,8,9],[0,1,3,7,0,31,63,31,159,511],[(7,[5])],[]⟩)]⟩
def Bd2:List Item:=A2 Tryz.f247
def Az6:List Item:=stk [0,1,0,1,0,1,0,1,0,1,0,1,0,0] Bd2
theorem Eo9 (decode:Value) :
 xQ Au8 C R U3 Tryz.f247 Bd2 [(0,.pointer c),(1,.agg ⟨r⟩),(2,decode)] h =
 nw (.cells A6 false r) h fun b w=>gAgg ⟨b,0,none⟩ 2 w fun x=>bnd (C P6 [.pointer c,.agg ⟨x⟩] w) fun q1 w1=>as2 q1 fun q2 q3=>aSl q2 fun z1 xn xc=>aBool q3 fun z2=>cond (!z2)
 (some (.tuple ⟨[iI 0,iI 2]⟩,w1))
 (aFn decode fun g fi cp=>bnd (C g (fi++([.slice z1 xn xc]++cp)) w1) fun q4 w2=>as2 q4 fun q5 q6=>aInt .i64 q5 fun z3=>aInt .i64 q6 fun z4=>cond (z4==2)
 (aSome c fun p=>gMap (add p 3) w2 fun z5=>gAgg ⟨b,0,none⟩ 2 w2 fun z6=>keyN PR A6 (.agg ⟨z6⟩) (opt z5 fun q7=>mapAt w2 q7 fun es _=>opt (An1 (iI 0) (.agg ⟨z6⟩) es) fun f=>aInt .i64 f.1 fun z7=>keyN PR A6 (.agg ⟨z6⟩) (opt z5 fun q8=>mapAt w2 q8 fun es_1 cl_1=>opt (Ed7 (iI 0) (.agg ⟨z6⟩) es_1 cl_1) fun f_1=>aInt .i64 f_1.1 fun _=>lt (H.set w2 q8 f_1.2.2) fun w3=>keyN PR A6 (.agg ⟨z6⟩) (opt z5 fun q9=>mapAt w3 q9 fun es_2 _=>opt (An1 (iI 0) (.agg ⟨z6⟩) es_2) fun f_2=>aInt .i64 f_2.1 fun z9=>same (iI z7) (iI z9) (opt z5 fun q10=>mapAt w3 q10 fun es_3 cl_3=>opt (Bs0 (f_1.2.1:Int) es_3 0) fun i=>lt (H.set w3 q10 (.map (modN (fun e=>{ e with val:=iI (wrap .i64 (z7+1)) }) i es_3) cl_3)) fun w4=>R U3 Az6 [(8,iI 0),(11,iI z3),(12,iI z4)] w4)))))
 (R U3 Az6 [(8,iI 0),(11,iI z3),(12,iI z4)] w2)):=kR
theorem Bu0 (nonev:Int) (isv:Int) :
 xQ Au8 C R U3 Tryz.f247 Az6 [(8,iI nonev),(11,iI v),(12,iI isv)] h =
 cond (isv != 1)
 (some (.tuple ⟨[iI nonev,iI isv]⟩,h))
 (some (.tuple ⟨[iI v,iI isv]⟩,h)):=kR
def Aj7:Cuts:=⟨0,[],[],[(4,⟨[0,1,2,3,4,10,5,6,7,8,9,11,12],[0,1,3,7,0,16,63,127,255,255,0,1535,4095],[(5,[3])],[]⟩)]⟩
def A60:List Item:=A2 Tryz.f270
theorem Dc4 :
 xQ Aj7 C R W2 Tryz.f270 A60 [(0,.pointer c),(1,.slice b bn bc)] h =
 nw (.cells H5 false [iI 0,iI 0,iI 0,iI 0]) h fun p1 w=>nw (.cells H5 false [iI 0,iI 0,iI 0,iI 0]) w fun p2 w1=>aSome c fun p=>gFv (add p 2) w1 fun x=>isNilF x fun p3=>bnd (cond p3 (some (true,w1)) (aSome c fun p_1=>gInt .i64 (add p_1 0) w1 fun z1=>some ((bn:Int) != z1,w1))) fun c_1 w2=>cond c_1
 (gAgg ⟨p2,0,none⟩ 4 w2 fun z2=>ck (List.length z2=4) (pAgg ⟨p1,0,none⟩ z2 w2 fun w3=>gAgg ⟨p1,0,none⟩ 4 w3 fun z3=>some (.tuple ⟨[.agg ⟨z3⟩,.bool false]⟩,w3)))
 (aSome c fun p_2=>gFv (add p_2 2) w2 fun z4=>nw (.cells H5 false [iI 0,iI 0,iI 0,iI 0]) w2 fun p4 w4=>bnd (C H1 [.slice b bn bc] w4) fun r w5=>aSl r fun z5 xn xc=>gFv (add p_2 2) w5 fun z6=>Bt4 (z4) (z6) (aFn z4 fun g fi cp=>bnd (C g (fi++([.slice z5 xn xc]++cp)) w5) fun q1 w6=>as2 q1 fun q2 q3=>aAgg q2 fun z7=>aBool q3 fun z8=>ck (List.length z7=4) (pAgg ⟨p4,0,none⟩ z7 w6 fun w7=>cond (!z8)
 (gAgg ⟨p2,0,none⟩ 4 w7 fun z9=>ck (List.length z9=4) (pAgg ⟨p1,0,none⟩ z9 w7 fun w8=>gAgg ⟨p1,0,none⟩ 4 w8 fun z10=>some (.tuple ⟨[.agg ⟨z10⟩,.bool false]⟩,w8)))
 (gAgg ⟨p4,0,none⟩ 4 w7 fun z11=>ck (List.length z11=4) (pAgg ⟨p1,0,none⟩ z11 w7 fun w9=>gAgg ⟨p1,0,none⟩ 4 w9 fun z12=>some (.tuple ⟨[.agg ⟨z12⟩,.bool true]⟩,w9)))))):=kR
def Aj8:Cuts:=⟨0,[],[],[(2,⟨[0,1,2,3,4,5,6,7,8,9,10,11,12,13,14],[0,1,3,7,15,31,63,127,255,511,63,63,4095,8191,16383],[],[]⟩)]⟩
def A57:List Item:=A2 Tryz.f274
theorem Dc5 (v:List Value) :
 xQ Aj8 C R W5 Tryz.f274 A57 [(0,.pointer c),(1,.agg ⟨v⟩)] h =
 nw (.cells H5 false v) h fun b w=>aSome c fun p=>gInt .i64 (add p 0) w fun x=>ck ((0:Int)≤x∧(x:Int)≤x∧x≤(A5:Int)) (nw (.cells A1 false (I0 (Int.toNat x) [.int .u8 0])) w fun p1 w1=>aSome c fun p_1=>gFv (add p_1 1) w1 fun z1=>isNilF z1 fun p2=>bnd (cond p2 (some (true,w1)) (aSome c fun p_2=>gFv (add p_2 1) w1 fun z2=>gAgg ⟨b,0,none⟩ 4 w1 fun z3=>aFn z2 fun g fi cp=>bnd (C g (fi++([.agg ⟨z3⟩,.slice (some ⟨p1,0,none⟩) (Int.toNat x) (Int.toNat x)]++cp)) w1) fun r w2=>aBool r fun z4=>some (!z4,w2))) fun c_1 w3=>cond c_1
 (some (.tuple ⟨[.slice none 0 0,.bool false]⟩,w3))
 (some (.tuple ⟨[.slice (some ⟨p1,0,none⟩) (Int.toNat x) (Int.toNat x),.bool true]⟩,w3))):=kR
def De9:Cuts:=⟨0,[],[],[]⟩
def Ef2:List Item:=A2 Tryz.f282
theorem G12 (p:List Value) :
 xQ De9 C R Br0 Tryz.f282 Ef2 [(0,.agg ⟨p⟩)] h =
 nw (.cells E5 false p) h fun b w=>gInt .i64 ⟨b,0,none⟩ w fun x=>bnd (C Q2 [iI x,iI 0,iI 31] w) fun r w1=>aBool r fun z1=>bnd (cond z1 (gInt .i64 ⟨b,1,none⟩ w1 fun z2=>bnd (C Q2 [iI z2,iI 0,iI 32] w1) fun q1 w2=>aBool q1 fun z3=>some (z3,w2)) (some (false,w1))) fun c w3=>bnd (cond c (gInt .i64 ⟨b,2,none⟩ w3 fun z4=>bnd (C Q2 [iI z4,iI 0,iI 8] w3) fun q2 w4=>aBool q2 fun z5=>some (z5,w4)) (some (false,w3))) fun c_1 w5=>bnd (cond c_1 (gInt .i64 ⟨b,3,none⟩ w5 fun z6=>bnd (C Q2 [iI z6,iI 0,iI 8] w5) fun q3 w6=>aBool q3 fun z7=>some (z7,w6)) (some (false,w5))) fun c_2 w7=>some (.bool c_2,w7):=kR
def Dz9:Cuts:=⟨0,[],[],[]⟩
def E31:List Item:=A2 Tryz.f286
theorem Hn5 (c:List Value) :
 xQ Dz9 C R B77 Tryz.f286 E31 [(0,.agg ⟨c⟩),(1,.agg ⟨x⟩)] h =
 nw (.cells E4 false c) h fun b w=>nw (.cells J4 false x) w fun p1 w1=>gInt .i64 ⟨p1,0,none⟩ w1 fun z1=>bnd (cond (decide (z1<0)) (some (true,w1)) (gInt .i64 ⟨p1,0,none⟩ w1 fun z2=>gSl ⟨b,0,none⟩ w1 fun _ xn _=>some (decide (z2≥(xn:Int)),w1))) fun c_1 w2=>bnd (cond c_1 (some (true,w2)) (gInt .i64 ⟨p1,1,none⟩ w2 fun z4=>some (decide (z4<0),w2))) fun c_2 w3=>bnd (cond c_2 (some (true,w3)) (gInt .i64 ⟨p1,2,none⟩ w3 fun z5=>some (decide (z5<0),w3))) fun c_3 w4=>bnd (cond c_3 (some (true,w4)) (gInt .i64 ⟨p1,3,none⟩ w4 fun z6=>some (decide (z6<0),w4))) fun c_4 w5=>cond c_4
 (some (.bool false,w5))
 (gSl ⟨b,0,none⟩ w5 fun z7 xn_1 _=>gInt .i64 ⟨p1,0,none⟩ w5 fun z8=>aSome z7 fun p=>ck ((0:Int)≤z8∧z8<(xn_1:Int)) (gInt .i64 (add (B0 p) (Int.toNat z8*1)) w5 fun z9=>bnd (C Bg9 [iI z9] w5) fun r w6=>aInt .i64 r fun z10=>gInt .i64 ⟨p1,1,none⟩ w6 fun z11=>cond (decide (z11>z10))
 (some (.bool false,w6))
 (gInt .i64 ⟨p1,1,none⟩ w6 fun z12=>gInt .i64 ⟨p1,2,none⟩ w6 fun z13=>bnd (cond (decide (z13≤(wrap .i64 ((wrap .i64 (z10-z12))*64)))) (gInt .i64 ⟨p1,3,none⟩ w6 fun z14=>gInt .i64 ⟨p1,2,none⟩ w6 fun z15=>some (decide (z14≤(wrap .i64 ((wrap .i64 ((wrap .i64 (z10-z12))*64))-z15))),w6)) (some (false,w6))) fun c_5 w7=>some (.bool c_5,w7)))):=kR
def Bn7:Cuts:=⟨0,[],[],[]⟩
def Dl2:List Item:=A2 Tryz.f289
theorem E44 :
 xQ Bn7 C R Ao1 Tryz.f289 Dl2 [(0,iI n)] h =
 bnd (cond (decide (n≥0)) (some (decide (n≤65536),h)) (some (false,h))) fun c w=>some (.bool c,w):=kR
def B25:Cuts:=⟨0,[],[],[(1,⟨[0,1,2,3,4,5,6,7,8,9,10,11,12,13],[0,1,3,7,0,31,63,0,255,511,1023,1023,2047,8191],[],[]⟩)]⟩
def Dx3:List Item:=A2 Tryz.f291
theorem Gm4 (c:List Value) :
 xQ B25 C R Ax9 Tryz.f291 Dx3 [(0,.pointer s),(1,iI env),(2,.agg ⟨c⟩)] h =
 nw (.cells P9 false c) h fun b w=>aSome s fun p=>gSl (add p 0) w fun x xn _=>aSome x fun p_1=>ck ((0:Int)≤env∧env<(xn:Int)) (gPtr (add (B0 p_1) (Int.toNat env*1)) w fun z1=>gAgg ⟨b,0,none⟩ 6 w fun z2=>bnd (C I6 [.pointer z1,.agg ⟨z2⟩] w) fun r w1=>as2 r fun q1 q2=>aInt .i64 q1 fun z3=>aBool q2 fun z4=>cond (!z4)
 (some (.tuple ⟨[iI 0,iI 4]⟩,w1))
 (some (.tuple ⟨[iI z3,iI 0]⟩,w1))):=kR
def A52:Cuts:=⟨0,[],[],[(6,⟨[0,1,2,3,4,5,6,7,8,9,10,11,12,13,14,15,16,17,18,19,20,21,22,23,24,25,26,27,28,29,30,31,32,33,34,35],[0,1,3,7,15,31,63,127,127,383,1023,2047,4095,8191,8191,24575,8191,122879,262143,524287,1048575,2097151,4194303,8388607,16777215,33554431,67108863,134217727,67108863,335544319,872415231,1946157055,4093640703,8589934591,17179869183,34359738367],[],[]⟩),(8,⟨[0,1,2,3,4,5,6,7,8,9],[0,1,3,7,0,16,63,127,0,511],[],[]⟩)]⟩
def By3:List Item:=A2 Tryz.f295
theorem Ec0 (r:Option Addr) (right:Int) :
 xQ A52 C R Ac0 Tryz.f295 By3 [(0,.pointer r),(1,iI env),(2,iI name),(3,iI right),(4,iI atv),(5,iI n)] h =
 aSome r fun p=>gPtr (add p 1) h fun x=>bnd (C Ay2 [.pointer x,iI env,iI name] h) fun q1 w=>as2 q1 fun q2 q3=>aAgg q2 fun z1=>aInt .i64 q3 fun z2=>nw (.cells P9 false [iI 0,iI 0,iI 0,iI 0,iI 0,iI 0]) w fun b w1=>ck (List.length z1=6) (pAgg ⟨b,0,none⟩ z1 w1 fun w2=>cond (z2 != 0)
 (some (.tuple ⟨[iI 0,iI z2]⟩,w2))
 (gInt .i64 ⟨b,1,none⟩ w2 fun z3=>cond ((B4 .i64 z3 right)==0)
 (some (.tuple ⟨[iI 0,iI 3]⟩,w2))
 (bnd (cond (decide (atv<0)) (some (true,w2)) (some (decide (n<0),w2))) fun c w3=>bnd (cond c (some (true,w3)) (gInt .i64 ⟨b,3,none⟩ w3 fun z4=>some (decide (atv>z4),w3))) fun c_1 w4=>bnd (cond c_1 (some (true,w4)) (gInt .i64 ⟨b,3,none⟩ w4 fun z5=>some (decide (n>(wrap .i64 (z5-atv))),w4))) fun c_2 w5=>bnd (cond c_2 (some (true,w5)) (gInt .i64 ⟨b,0,none⟩ w5 fun z6=>some (decide (z6<0),w5))) fun c_3 w6=>bnd (cond c_3 (some (true,w6)) (gInt .i64 ⟨b,0,none⟩ w6 fun z7=>aSome r fun p_1=>gSl (add p_1 2) w6 fun _ xn _=>some (decide (z7≥(xn:Int)),w6))) fun c_4 w7=>cond c_4
 (some (.tuple ⟨[iI 0,iI 1]⟩,w7))
 (aSome r fun p_2=>gSl (add p_2 2) w7 fun z9 xn_1 _=>gInt .i64 ⟨b,0,none⟩ w7 fun z10=>aSome z9 fun p_3=>ck ((0:Int)≤z10∧z10<(xn_1:Int)) (gAgg (add (B0 p_3) (Int.toNat z10*2)) 2 w7 fun z11=>nw (.cells A05 false [iI 0,iI 0]) w7 fun p1 w8=>ck (List.length z11=2) (pAgg ⟨p1,0,none⟩ z11 w8 fun w9=>gInt .i64 ⟨b,2,none⟩ w9 fun z12=>gInt .i64 ⟨p1,1,none⟩ w9 fun z13=>bnd (cond (decide ((wrap .i64 (z12+atv))>z13)) (some (true,w9)) (gInt .i64 ⟨p1,1,none⟩ w9 fun z14=>gInt .i64 ⟨b,2,none⟩ w9 fun z15=>some (decide (n>(wrap .i64 ((wrap .i64 (z14-z15))-atv))),w9))) fun c_5 w10=>cond c_5
 (some (.tuple ⟨[iI 0,iI 1]⟩,w10))
 (gInt .i64 ⟨p1,0,none⟩ w10 fun z16=>gInt .i64 ⟨b,2,none⟩ w10 fun z17=>some (.tuple ⟨[iI (wrap .i64 ((wrap .i64 (z16+z17))+atv)),iI 0]⟩,w10)))))))):=kR
def B32:Cuts:=⟨0,[],[],[]⟩
def Dy2:List Item:=A2 Tryz.f300
theorem Gk6 (s:Int) :
 xQ B32 C R Al9 Tryz.f300 Dy2 [(0,.pointer q),(1,iI s)] h =
 bnd (cond (decide (s≥0)) (aSome q fun p=>gSl (add p 0) h fun _ xn _=>some (decide (s<(xn:Int)),h)) (some (false,h))) fun c w=>some (.bool c,w):=kR
def B15:Cuts:=⟨0,[],[],[]⟩
def Dy5:List Item:=A2 Tryz.f305
theorem Gk5 (n:Option Addr) :
 xQ B15 C R Bc7 Tryz.f305 Dy5 [(0,.pointer n),(1,iI name)] h =
 bnd (cond (decide (name≥0)) (aSome n fun p=>gSl (add p 0) h fun _ xn _=>some (decide ((B4 .i64 name 255)<(xn:Int)),h)) (some (false,h))) fun c w=>bnd (cond c (aSome n fun p_1=>gSl (add p_1 0) w fun z1 xn_1 _=>aSome z1 fun p_2=>ck ((0:Int)≤B4 .i64 name 255∧B4 .i64 name 255<(xn_1:Int)) (gBool (add (add (B0 p_2) (Int.toNat (B4 .i64 name 255)*2)) 1) w fun z2=>some (z2,w))) (some (false,w))) fun c_1 w1=>bnd (cond c_1 (aSome n fun p_3=>gSl (add p_3 0) w1 fun z3 xn_2 _=>aSome z3 fun p_4=>ck ((0:Int)≤B4 .i64 name 255∧B4 .i64 name 255<(xn_2:Int)) (gInt .i64 (add (add (B0 p_4) (Int.toNat (B4 .i64 name 255)*2)) 0) w1 fun z4=>some (z4==(Int.fdiv name (2 ^ 8)),w1))) (some (false,w1))) fun c_2 w2=>some (.bool c_2,w2):=kR
def Di8:Cuts:=⟨0,[(3,[3,9,10,11])],[],[]⟩
def Ee4:List Item:=A2 Tryz.f312
def Bs3:List Item:=stk [0,1,0,1,0,0,1,4,5] Ee4
theorem Hx5 :
 xQ Di8 C R Ac1 Tryz.f312 Ee4 [(0,.slice b bn bc)] h =
 R Ac1 Bs3 [(3,.int .u8 (wrap .u8 ((bn:Int)))),(9,.slice b bn bc),(10,iI (bn:Int)),(11,iI 0)] h:=kR
theorem Ei3 (x9:Option Addr) (x9n x9c:Nat) (x11:Int) :
 xQ Di8 C R Ac1 Tryz.f312 Bs3 [(3,.int .u8 n),(9,.slice x9 x9n x9c),(10,iI x10),(11,iI x11)] h =
 cond (decide (x11<x10))
 (aSome x9 fun p=>ck ((0:Int)≤x11∧x11<(x9n:Int)) (gInt .u8 (add (B0 p) (Int.toNat x11*1)) h fun x=>R Ac1 Bs3 [(3,.int .u8 (wrap .u8 (n+x))),(9,.slice x9 x9n x9c),(10,iI x10),(11,iI (wrap .i64 (x11+1)))] h))
 (some (.int .u8 n,h)):=kR
def Eu3:Cuts:=⟨0,[],[],[(5,⟨[0,1,2,3,4],[0,1,0,4,15],[],[]⟩)]⟩
def Gw4:List Item:=A2 Tryz.f327
theorem H77 (p:List Value) :
 xQ Eu3 C R Bt2 Tryz.f327 Gw4 [(0,.agg ⟨p⟩),(1,.slice b bn bc)] h =
 nw (.cells E5 false p) h fun p1 w=>gAgg ⟨p1,0,none⟩ 36 w fun x=>bnd (C D66 [.agg ⟨x⟩] w) fun r w1=>aBool r fun z1=>cond (!z1)
 (some (.bool false,w1))
 (gInt .i64 ⟨p1,0,none⟩ w1 fun z2=>gInt .i64 ⟨p1,1,none⟩ w1 fun z3=>gInt .i64 ⟨p1,2,none⟩ w1 fun z4=>gInt .i64 ⟨p1,3,none⟩ w1 fun z5=>nw (.cells A1 false [.int .u8 1,.int .u8 (wrap .u8 (z2)),.int .u8 (wrap .u8 (z3)),.int .u8 (wrap .u8 (z4)),.int .u8 (wrap .u8 (z5)),.int .u8 197]) w1 fun p2 w2=>gCells (some ⟨p2,0,none⟩) (min 6 bn*1) w2 fun cs=>pCells b cs w2 fun w3=>ckB (fitsOpen b A1 w3) (ck ((0:Int)≤6∧6≤(bc:Int)) (bnd (C Ac1 [.slice (G4 b (decide (0<bc)) (0*1)) ((Int.toNat 6)-0) (bc-0)] w3) fun q1 w4=>aInt .u8 q1 fun z6=>aSome b fun p_1=>ck ((0:Int)≤6∧6<(bn:Int)) (pV (add (B0 p_1) (Int.toNat 6*1)) (.int .u8 z6) w4 fun w5=>ckB (fitsOpen b A1 w5) (ck ((0:Int)≤8∧8≤(bn:Int)) (ckB (liveA ⟨p1,4,none⟩ w5) (gCells (G4 (some ⟨p1,4,none⟩) (decide (0<32)) (0*1)) (min (32-0) (bn-(Int.toNat 8))*1) w5 fun cs_1=>pCells (G4 b (decide (Int.toNat 8<bc)) ((Int.toNat 8)*1)) cs_1 w5 fun w6=>some (.bool true,w6)))))))):=kR
def Eb4:Cuts:=⟨0,[],[],[]⟩
def Gi9:List Item:=A2 Tryz.f329
theorem H04 (A5:Int) :
 xQ Eb4 C R Av4 Tryz.f329 Gi9 [(0,iI n),(1,iI A5)] h =
 bnd (cond (decide (n≥0)) (some (decide (n≤A5),h)) (some (false,h))) fun c w=>some (.bool c,w):=kR
def Da8:Cuts:=⟨0,[],[],[]⟩
def D79:List Item:=A2 Tryz.f330
theorem Gt3 (a:List Value) (b:List Value) :
 xQ Da8 C R Bm3 Tryz.f330 D79 [(0,.agg ⟨a⟩),(1,.agg ⟨b⟩)] h =
 nw (.cells A6 false a) h fun p1 w=>nw (.cells A6 false b) w fun p2 w1=>gInt .i64 ⟨p1,0,none⟩ w1 fun x=>gInt .i64 ⟨p2,0,none⟩ w1 fun z1=>bnd (cond (decide (x<z1)) (some (true,w1)) (gInt .i64 ⟨p1,0,none⟩ w1 fun z2=>gInt .i64 ⟨p2,0,none⟩ w1 fun z3=>bnd (cond (z2==z3) (gInt .i64 ⟨p1,1,none⟩ w1 fun z4=>gInt .i64 ⟨p2,1,none⟩ w1 fun z5=>some (decide (z4<z5),w1)) (some (false,w1))) fun c w2=>some (c,w2))) fun c_1 w3=>some (.bool c_1,w3):=kR
end
end Go.EQ

set_option maxRecDepth 100000
namespace Go.EQ
open Go Go.NN Go.Proofs
open Go.IntKind (wrap)
open Go.Addr (add)
variable (C:D1) (R:Aa4) (fv0 group p random swaps x2 x4 x6:Addr) (h:H) (a atv code e env fd fromv g i idx j k kind lease length modulus n name on size target to x10 x11 x21 x22 x7 x8 x90 x91:Int) (f x:List Value) (bc bn datac datan filesc filesn lc ln outc outn sc slicesc slicesn sn x20c x20n x89c x89n x9c x9n:Nat) (b c data files l m out q r s slices t x20 x89 x9:Option Addr) (cmp decode of:Value)
noncomputable section
def Dn8:Cuts:=⟨0,[],[],[(5,⟨[0,1,2,3,4],[0,1,0,4,15],[(3,[1])],[]⟩)]⟩
def Ew5:List Item:=A2 Tryz.f9
theorem Hc6 :
 xQ Dn8 C R Bi6 Tryz.f9 Ew5 [] h =
 bnd (C Bh5 [] h) fun r w=>aStr r fun x=>ck (ByteArray.size x≤A5) (nw (.cells A1 false (A0 (ByteArray.data x).toList)) w fun b w1=>nw (.cells B1 false zZ1) w1 fun p1 w2=>pAgg ⟨p1,0,none⟩ [iI 1,iI 0,iI 0,iI 0,iI 0,iI 0,iI 0,iI 0,iI 0,iI 0,iI 0,iI 0,iI 0,iI 0,iI 0,iI 0] w2 fun w3=>ck ((0:Int)≤0∧0<((8:Nat):Int)) (pV (add ⟨p1,8,none⟩ (Int.toNat 0*1)) (iI 1) w3 fun w4=>gAgg ⟨p1,0,none⟩ 16 w4 fun z1=>bnd (C N5 [.agg ⟨z1⟩] w4) fun q1 w5=>aStr q1 fun z2=>pCells (some (G9 b)) (A0 (List.take (min (ByteArray.size z2) (ByteArray.size x)) (ByteArray.data z2).toList)) w5 fun w6=>ckB (fitsOpen (some (G9 b)) A1 w6) (ck ((0:Int)≤192∧192≤((ByteArray.size x:Nat):Int)) (bnd (C Aq9 [.agg ⟨[iI 3,iI 0,iI 1,iI 0]⟩] w6) fun q2 w7=>aStr q2 fun z3=>ckB (fitsOpen (some (G9 b)) A1 w7) (ck ((0:Int)≤192∧192≤((ByteArray.size x:Nat):Int)) (same (.slice (G4 (some (G9 b)) (decide (Int.toNat 192<ByteArray.size x)) ((Int.toNat 192)*1)) ((ByteArray.size x)-(Int.toNat 192)) ((ByteArray.size x)-(Int.toNat 192))) (.slice (G4 (some (G9 b)) (decide (Int.toNat 192<ByteArray.size x)) ((Int.toNat 192)*1)) ((ByteArray.size x)-(Int.toNat 192)) ((ByteArray.size x)-(Int.toNat 192))) (pCells (G4 (some (G9 b)) (decide (Int.toNat 192<ByteArray.size x)) ((Int.toNat 192)*1)) (A0 (List.take (min (ByteArray.size z3) ((ByteArray.size x)-(Int.toNat 192))) (ByteArray.data z3).toList)) w7 fun w8=>some (.slice (some (G9 b)) (ByteArray.size x) (ByteArray.size x),w8)))))))):=kR
def Dn6:Cuts:=⟨0,[],[],[]⟩
def Ew8:List Item:=A2 Tryz.f14
theorem Hc1 :
 xQ Dn6 C R B02 Tryz.f14 Ew8 [] h =
 bnd (C Bi6 [] h) fun r w=>aSl r fun x xn xc=>bnd (C W8 [.slice x xn xc] w) fun q1 w1=>as4 q1 fun q2 q3 q4 q5=>aPtr q2 fun _=>aPtr q3 fun z2=>aPtr q4 fun _=>aPtr q5 fun _=>cond z2.isNone
 (some (.bool false,w1))
 (bnd (C Ab8 [.pointer z2,iI 0] w1) fun q6 w2=>aAgg q6 fun z5=>nw (.cells O8 false [iI 0,iI 0,.slice none 0 0,.bool false]) w2 fun b w3=>ck (List.length z5=4) (pAgg ⟨b,0,none⟩ z5 w3 fun w4=>bnd (C A53 [.pointer z2,iI 0] w4) fun q7 w5=>aAgg q7 fun z6=>nw (.cells O8 false [iI 0,iI 0,.slice none 0 0,.bool false]) w5 fun p1 w6=>ck (List.length z6=4) (pAgg ⟨p1,0,none⟩ z6 w6 fun w7=>bnd (C Ab8 [.pointer z2,iI 0] w7) fun q8 w8=>aAgg q8 fun z7=>nw (.cells O8 false [iI 0,iI 0,.slice none 0 0,.bool false]) w8 fun p2 w9=>ck (List.length z7=4) (pAgg ⟨p2,0,none⟩ z7 w9 fun w10=>bnd (C Ac2 [.pointer z2,iI 1] w10) fun q9 w11=>as2 q9 fun q10 q11=>aAgg q10 fun z8=>aInt .i64 q11 fun z9=>nw (.cells B1 false zZ1) w11 fun p3 w12=>ck (List.length z8=16) (pAgg ⟨p3,0,none⟩ z8 w12 fun w13=>gInt .i64 ⟨b,1,none⟩ w13 fun z10=>bnd (cond (z10==110) (gInt .i64 ⟨p1,1,none⟩ w13 fun z11=>some (z11==0,w13)) (some (false,w13))) fun c w14=>bnd (cond c (gInt .i64 ⟨p1,0,none⟩ w14 fun z12=>some (z12==1,w14)) (some (false,w14))) fun c_1 w15=>bnd (cond c_1 (gBool ⟨p2,3,none⟩ w15 fun z13=>some (z13,w15)) (some (false,w15))) fun c_2 w16=>bnd (cond c_2 (some (z9==0,w16)) (some (false,w16))) fun c_3 w17=>bnd (cond c_3 (gInt .i64 ⟨p3,1,none⟩ w17 fun z14=>some (z14==1,w17)) (some (false,w17))) fun c_4 w18=>bnd (cond c_4 (ck ((0:Int)≤0∧0<((8:Nat):Int)) (gInt .i64 (add ⟨p3,8,none⟩ (Int.toNat 0*1)) w18 fun z15=>some (z15==1,w18))) (some (false,w18))) fun c_5 w19=>some (.bool c_5,w19)))))):=kR
def Dg8:Cuts:=⟨0,[],[],[(7,⟨[0,1,2,3,4,5,6,7,8,9,10,11,12,13,14,15,16],[0,1,3,7,0,0,32,0,128,0,512,2047,4095,8191,8191,16383,65535],[],[]⟩),(9,⟨[0,1,2,3,4,5,6,7,8,9,10,11,12,13],[0,1,3,7,0,0,32,0,128,0,512,1536,4095,8191],[],[]⟩),(11,⟨[0,1,2,3,4,5,6,7,8,9,10,11,12,13,14,15,16],[0,1,3,7,0,0,32,0,128,0,512,0,2048,0,8192,32767,65535],[],[]⟩),(13,⟨[0,1,2,3,4,5,6,7,8,9,10,11,12,13,14,15,16,17,18,19,20,21,22,23],[0,1,3,7,15,31,63,0,0,256,0,1024,0,4096,0,16384,0,65536,262143,524287,1048575,1048575,2097151,8388607],[],[]⟩),(15,⟨[0,1,2,3,4,5,6,7,8,9,10,11,12,13,14,15],[0,1,3,7,15,31,63,0,0,256,1023,2047,4095,4095,8191,32767],[],[]⟩),(17,⟨[0,1,2,3,4,5,6,7,8,9,10,11,12,13,14,15,16,17],[0,1,3,7,0,16,48,112,240,0,1008,2032,4095,8191,16383,16383,32767,131071],[],[]⟩),(19,⟨[0,1,2,3,4,5,6,7,8,9,10,11,12,13,14,15],[0,1,3,7,0,16,48,112,240,0,1008,2032,0,4096,16383,32767],[],[]⟩),(23,⟨[0,1,2,3,4,5,6,7,8,9,10,11,12,13,14,15,16,17],[0,1,3,7,0,16,63,127,0,0,512,1536,3584,8191,16383,32767,32767,65535],[],[]⟩),(27,⟨[0,1,2,3,4,5,6,7,8,9,10,11,12,13,14,15,16,17,18],[0,0,0,4,15,31,63,127,255,511,63,1087,4095,8191,63,63,32831,131071,262143],[],[]⟩)]⟩
def Ef6:List Item:=A2 Tryz.f37
theorem Eg8 (k:Option Addr) (c:List Value) :
 xQ Dg8 C R Ae6 Tryz.f37 Ef6 [(0,.pointer k),(1,iI e),(2,.agg ⟨c⟩)] h =
 nw (.cells As4 false c) h fun b w=>bnd (cond (decide (e<0)) (some (true,w)) (aSome k fun p=>gSl (add (add p 0) 1) w fun _ xn _=>some (decide (e≥(xn:Int)),w))) fun c_1 w1=>cond c_1
 (some (.tuple ⟨[iI 1,iI 0,.string (ByteArray.mk ⟨[]⟩)]⟩,w1))
 (gInt .i64 ⟨b,0,none⟩ w1 fun z1=>cond (z1==1)
 (aSome k fun p_1=>gPtr (add p_1 6) w1 fun z2=>gInt .i64 ⟨b,1,none⟩ w1 fun z3=>gInt .i64 ⟨b,2,none⟩ w1 fun z4=>gInt .i64 ⟨b,3,none⟩ w1 fun z5=>bnd (C Az1 [.pointer z2,iI e,iI z3,iI z4,iI z5] w1) fun r w2=>as2 r fun q1 q2=>aStr q1 fun z6=>aInt .i64 q2 fun z7=>some (.tuple ⟨[iI z7,iI 0,.string z6]⟩,w2))
 (cond (z1==2)
 (aSome k fun p_2=>gPtr (add p_2 6) w1 fun z8=>gInt .i64 ⟨b,1,none⟩ w1 fun z9=>gInt .i64 ⟨b,2,none⟩ w1 fun z10=>gSl ⟨b,6,none⟩ w1 fun z11 xn_1 _=>gCells z11 xn_1 w1 fun cs=>asBytes cs fun l=>bnd (C As7 [.pointer z8,iI e,iI z9,iI z10,.string (ByteArray.mk ⟨l⟩)] w1) fun q3 w3=>aInt .i64 q3 fun z12=>some (.tuple ⟨[iI z12,iI 0,.string (ByteArray.mk ⟨[]⟩)]⟩,w3))
 (cond (z1==3)
 (aSome k fun p_3=>gPtr (add p_3 6) w1 fun z13=>gInt .i64 ⟨b,1,none⟩ w1 fun z14=>gInt .i64 ⟨b,2,none⟩ w1 fun z15=>gInt .i64 ⟨b,4,none⟩ w1 fun z16=>gInt .i64 ⟨b,5,none⟩ w1 fun z17=>gInt .i64 ⟨b,3,none⟩ w1 fun z18=>bnd (C Ex9 [.pointer z13,iI e,iI z14,iI z15,iI z16,iI z17,iI z18] w1) fun q4 w4=>aInt .i64 q4 fun z19=>some (.tuple ⟨[iI z19,iI 0,.string (ByteArray.mk ⟨[]⟩)]⟩,w4))
 (cond (z1==4)
 (aSome k fun p_4=>gPtr (add p_4 6) w1 fun z20=>aSome z20 fun p_5=>gPtr (add p_5 3) w1 fun z21=>gInt .i64 ⟨b,1,none⟩ w1 fun z22=>gInt .i64 ⟨b,4,none⟩ w1 fun z23=>gInt .i64 ⟨b,5,none⟩ w1 fun z24=>gInt .i64 ⟨b,2,none⟩ w1 fun z25=>gInt .i64 ⟨b,3,none⟩ w1 fun z26=>bnd (C E06 [.pointer z21,iI e,iI z22,iI z23,iI z24,iI z25,iI z26] w1) fun q5 w5=>as2 q5 fun q6 q7=>aInt .i64 q6 fun z27=>aInt .i64 q7 fun z28=>some (.tuple ⟨[iI z28,iI z27,.string (ByteArray.mk ⟨[]⟩)]⟩,w5))
 (cond (z1==5)
 (aSome k fun p_6=>gPtr (add p_6 6) w1 fun z29=>aSome z29 fun p_7=>gPtr (add p_7 3) w1 fun z30=>gInt .i64 ⟨b,1,none⟩ w1 fun z31=>bnd (C Ey0 [.pointer z30,iI e,iI z31] w1) fun q8 w6=>as2 q8 fun q9 q10=>aInt .i64 q9 fun z32=>aInt .i64 q10 fun z33=>some (.tuple ⟨[iI z33,iI z32,.string (ByteArray.mk ⟨[]⟩)]⟩,w6))
 (cond (z1==6)
 (aSome k fun p_8=>gPtr (add p_8 5) w1 fun z34=>aSome k fun p_9=>gSl (add (add p_9 0) 1) w1 fun z35 xn_2 _=>aSome z35 fun p_10=>ck ((0:Int)≤e∧e<(xn_2:Int)) (gInt .i64 (add (B0 p_10) (Int.toNat e*1)) w1 fun z36=>bnd (C E87 [.pointer z34,iI z36] w1) fun q11 w7=>as2 q11 fun q12 q13=>aInt .i64 q12 fun z37=>aInt .i64 q13 fun z38=>some (.tuple ⟨[iI z38,iI z37,.string (ByteArray.mk ⟨[]⟩)]⟩,w7)))
 (cond (z1==7)
 (aSome k fun p_11=>gPtr (add p_11 5) w1 fun z39=>aSome k fun p_12=>gSl (add (add p_12 0) 1) w1 fun z40 xn_3 _=>aSome z40 fun p_13=>ck ((0:Int)≤e∧e<(xn_3:Int)) (gInt .i64 (add (B0 p_13) (Int.toNat e*1)) w1 fun z41=>gInt .i64 ⟨b,3,none⟩ w1 fun z42=>bnd (C Gd9 [.pointer z39,iI z41,iI z42] w1) fun q14 w8=>aInt .i64 q14 fun z43=>some (.tuple ⟨[iI z43,iI 0,.string (ByteArray.mk ⟨[]⟩)]⟩,w8)))
 (cond (z1==8)
 (gInt .i64 ⟨b,3,none⟩ w1 fun z44=>bnd (C D84 [.pointer k,iI e,iI z44] w1) fun q15 w9=>aBool q15 fun z45=>cond z45
 (aSome k fun p_14=>gSl (add p_14 7) w9 fun z46 xn_4 _=>gInt .i64 ⟨b,3,none⟩ w9 fun z47=>aSome z46 fun p_15=>ck ((0:Int)≤z47∧z47<(xn_4:Int)) (gPtr (add (B0 p_15) (Int.toNat z47*1)) w9 fun z48=>aSome k fun p_16=>gInt .i64 (add p_16 8) w9 fun z49=>bnd (C Ge4 [.pointer z48,iI e,iI z49] w9) fun q16 w10=>as2 q16 fun q17 q18=>aInt .i64 q17 fun z50=>aBool q18 fun _=>some (.tuple ⟨[iI 0,iI z50,.string (ByteArray.mk ⟨[]⟩)]⟩,w10)))
 (some (.tuple ⟨[iI 8,iI 0,.string (ByteArray.mk ⟨[]⟩)]⟩,w9)))
 (cond (z1==9)
 (gInt .i64 ⟨b,3,none⟩ w1 fun z52=>bnd (C D84 [.pointer k,iI e,iI z52] w1) fun q19 w11=>aBool q19 fun z53=>bnd (cond z53 (aSome k fun p_17=>gSl (add p_17 7) w11 fun z54 xn_5 _=>gInt .i64 ⟨b,3,none⟩ w11 fun z55=>aSome z54 fun p_18=>ck ((0:Int)≤z55∧z55<(xn_5:Int)) (gPtr (add (B0 p_18) (Int.toNat z55*1)) w11 fun z56=>gInt .i64 ⟨b,2,none⟩ w11 fun z57=>bnd (C Ge9 [.pointer z56,iI e,iI z57] w11) fun q20 w12=>aBool q20 fun z58=>some (z58,w12))) (some (false,w11))) fun c_2 w13=>cond c_2
 (some (.tuple ⟨[iI 0,iI 0,.string (ByteArray.mk ⟨[]⟩)]⟩,w13))
 (some (.tuple ⟨[iI 8,iI 0,.string (ByteArray.mk ⟨[]⟩)]⟩,w13)))
 (cond (z1==10)
 (aSome k fun p_19=>gInt .i64 (add p_19 8) w1 fun z59=>some (.tuple ⟨[iI 0,iI z59,.string (ByteArray.mk ⟨[]⟩)]⟩,w1))
 (some (.tuple ⟨[iI 7,iI 0,.string (ByteArray.mk ⟨[]⟩)]⟩,w1)))))))))))):=kR
def Dj5:Cuts:=⟨0,[(2,[0,6])],[],[]⟩
def D98:List Item:=A2 Tryz.f41
def Bs9:List Item:=stk [0,1,0,0,1,4,5] D98
theorem H00 :
 xQ Dj5 C R Aw0 Tryz.f41 D98 [(0,.pointer c)] h =
 R Aw0 Bs9 [(0,.pointer c),(6,iI 0)] h:=kR
theorem Ef4 (x6:Int) :
 xQ Dj5 C R Aw0 Tryz.f41 Bs9 [(0,.pointer c),(6,iI x6)] h =
 cond (decide (x6<8))
 (bnd (C I9 [.pointer c,iI x6] h) fun r w=>as2 r fun q1 q2=>aAgg q1 fun x=>aInt .i64 q2 fun z1=>nw (.cells B1 false zZ1) w fun b w1=>ck (List.length x=16) (pAgg ⟨b,0,none⟩ x w1 fun w2=>cond (z1==0)
 (some (iI x6,w2))
 (R Aw0 Bs9 [(0,.pointer c),(6,iI (wrap .i64 (x6+1)))] w2)))
 (some (iI (-1),h)):=kR
def Bf0:Cuts:=⟨0,[(6,[0,1,2,6,9])],[(24,[0,1,6])],[]⟩
def Bd7:List Item:=A2 Tryz.f58
def D34:List Item:=stk [0,1,0,1,0,1,0,0,1,4,5] Bd7
theorem Em8 :
 xQ Bf0 C R Ai4 Tryz.f58 Bd7 [(0,.pointer c),(1,iI i),(2,iI code)] h =
 nw (.cells O8 false [iI 0,iI 0,.slice none 0 0,.bool false]) h fun b w=>bnd (C L5 [.pointer c,iI i] w) fun r w1=>as2 r fun q1 q2=>aAgg q1 fun x=>aInt .i64 q2 fun z1=>nw (.cells B1 false zZ1) w1 fun p1 w2=>ck (List.length x=16) (pAgg ⟨p1,0,none⟩ x w2 fun w3=>cond (z1 != 0)
 (bnd (C Af8 [iI z1] w3) fun q3 w4=>aAgg q3 fun z2=>ck (List.length z2=4) (pAgg ⟨b,0,none⟩ z2 w4 fun w5=>gAgg ⟨b,0,none⟩ 4 w5 fun z3=>some (.agg ⟨z3⟩,w5)))
 (bnd (C Bq2 [.pointer c,iI i] w3) fun q4 w6=>as0 q4 (R Ai4 D34 [(0,.pointer c),(1,iI i),(2,iI code),(6,pP b),(9,iI 0)] w6))):=kR
def Aq2:Cuts:=⟨0,[],[],[]⟩
def Bi4:List Item:=A2 Tryz.f71
theorem Do5 :
 xQ Aq2 C R O2 Tryz.f71 Bi4 [(0,.pointer c),(1,iI i)] h =
 bnd (C Aw2 [iI i] h) fun r w=>aAgg r fun x=>bnd (C Ak7 [.pointer c,.agg ⟨x⟩] w) fun q1 w1=>aBool q1 fun z1=>some (.bool z1,w1):=kR
def Da3:Cuts:=⟨0,[(3,[0,1,5,10])],[],[]⟩
def D17:List Item:=A2 Tryz.f72
def A11:List Item:=stk [0,1,0,1,0,0,1,4,5] D17
theorem Ht8 :
 xQ Da3 C R Ag5 Tryz.f72 D17 [(0,.pointer c),(1,of)] h =
 R Ag5 A11 [(0,.pointer c),(1,of),(5,.slice none 0 0),(10,iI 0)] h:=kR
theorem D64 :
 xQ Da3 C R Ag5 Tryz.f72 A11 [(0,.pointer c),(1,of),(5,.slice out outn outc),(10,iI x10)] h =
 cond (decide (x10<8))
 (bnd (C I9 [.pointer c,iI x10] h) fun r w=>as2 r fun q1 q2=>aAgg q1 fun x=>aInt .i64 q2 fun z1=>nw (.cells B1 false zZ1) w fun b w1=>ck (List.length x=16) (pAgg ⟨b,0,none⟩ x w1 fun w2=>gAgg ⟨b,0,none⟩ 16 w2 fun z2=>ck (List.length z2=16) (nw (.cells Y6 false zZ2) w2 fun p1 w3=>ck (List.length (iI x10::(z2++[]))=17) (pAgg ⟨p1,0,none⟩ (iI x10::(z2++[])) w3 fun w4=>bnd (cond (z1==1) (gAgg ⟨p1,0,none⟩ 17 w4 fun z3=>aFn of fun g fi cp=>bnd (C g (fi++([.agg ⟨z3⟩]++cp)) w4) fun q3 w5=>aBool q3 fun z4=>some (z4,w5)) (some (false,w4))) fun c_1 w6=>cond c_1
 (gAgg ⟨p1,0,none⟩ 17 w6 fun z5=>ck (List.length z5=17) (nw (.cells Y6 false (z5++[])) w6 fun p2 w7=>gCells (some ⟨p2,0,none⟩) (1*17) w7 fun cs=>ckB (fitsOpen out Y6 w7) (apd Y6 17 out outn outc 1 cs w7 fun a an ac w8=>R Ag5 A11 [(0,.pointer c),(1,of),(5,.slice a an ac),(10,iI (wrap .i64 (x10+1)))] w8)))
 (R Ag5 A11 [(0,.pointer c),(1,of),(5,.slice out outn outc),(10,iI (wrap .i64 (x10+1)))] w6)))))
 (some (.slice out outn outc,h)):=kR
def A90:Cuts:=⟨0,[(3,[1,2,3,4]),(7,[1,2,3,4,5]),(13,[1,2,3,6])],[],[]⟩
def Bp8:List Item:=A2 Tryz.f100
def Bl1:List Item:=stk [0,1,0,1,0,0,1,4,5] Bp8
def A26:List Item:=stk [0,1,0,1,0,0,1,4,5,6,0,1,0,4,0,1,0,0,1,4,5] Bp8
def Bl4:List Item:=stk [0,1,0,1,0,1,0,0,1,4,5] Bp8
theorem Hn0 (p:List Value) :
 xQ A90 C R J6 Tryz.f100 Bp8 [(0,.agg ⟨p⟩)] h =
 nw (.cells B62 false p) h fun b w=>nw (.cells E4 false [.slice none 0 0,.slice none 0 0,.slice none 0 0,iI 0,.slice none 0 0]) w fun p1 w1=>gInt .i64 ⟨b,2,none⟩ w1 fun x=>nw (.cells E4 false [.slice none 0 0,.slice none 0 0,.slice none 0 0,iI 0,.slice none 0 0]) w1 fun p2 w2=>pAgg ⟨p2,0,none⟩ [.slice none 0 0,.slice none 0 0,.slice none 0 0,iI x,.slice none 0 0] w2 fun w3=>R J6 Bl1 [(1,pP b),(2,pP p1),(3,pP p2),(4,iI 0)] w3:=kR
theorem D57 (b:Addr) (s:Int) :
 xQ A90 C R J6 Tryz.f100 Bl1 [(1,.pointer (some p)),(2,.pointer (some x2)),(3,.pointer (some b)),(4,iI s)] h =
 gSl (add p 0) h fun _ xn _=>cond (decide (s<(xn:Int)))
 (gSl (add b 0) h fun z1 xn_1 xc_1=>nw (.cells B2 false [iI 20]) h fun p1 w=>gCells (some ⟨p1,0,none⟩) (1*1) w fun cs=>ckB (fitsOpen z1 B2 w) (apd B2 1 z1 xn_1 xc_1 1 cs w fun a an ac w1=>pV (add b 0) (.slice a an ac) w1 fun w2=>R J6 A26 [(1,.pointer (some p)),(2,.pointer (some x2)),(3,.pointer (some b)),(4,iI s),(5,iI 0)] w2))
 (R J6 Bl4 [(1,.pointer (some p)),(2,.pointer (some x2)),(3,.pointer (some b)),(6,iI 0)] h):=kR
theorem D61 (b:Addr) (s:Int) :
 xQ A90 C R J6 Tryz.f100 A26 [(1,.pointer (some p)),(2,.pointer (some x2)),(3,.pointer (some b)),(4,iI s),(5,iI i)] h =
 cond (decide (i<9))
 (gSl (add b 1) h fun x xn xc=>nw (.cells B2 false [iI s]) h fun p1 w=>gCells (some ⟨p1,0,none⟩) (1*1) w fun cs=>ckB (fitsOpen x B2 w) (apd B2 1 x xn xc 1 cs w fun a an ac w1=>pV (add b 1) (.slice a an ac) w1 fun w2=>R J6 A26 [(1,.pointer (some p)),(2,.pointer (some x2)),(3,.pointer (some b)),(4,iI s),(5,iI (wrap .i64 (i+1)))] w2))
 (gSl (add b 2) h fun z1 xn_1 xc_1=>nw (.cells B2 false [iI s]) h fun p2 w3=>nw (.cells L0 false [.slice (some ⟨p2,0,none⟩) 1 1]) w3 fun p3 w4=>gCells (some ⟨p3,0,none⟩) (1*1) w4 fun cs_1=>ckB (fitsOpen z1 L0 w4) (apd L0 1 z1 xn_1 xc_1 1 cs_1 w4 fun a_1 an_1 ac_1 w5=>pV (add b 2) (.slice a_1 an_1 ac_1) w5 fun w6=>gSl (add b 4) w6 fun z2 xn_2 xc_2=>nw (.cells B2 false [iI s]) w6 fun p4 w7=>nw (.cells J4 false [iI s,iI 0,iI 0,iI 492,.slice (some ⟨p4,0,none⟩) 1 1]) w7 fun p5 w8=>gCells (some ⟨p5,0,none⟩) (1*5) w8 fun cs_2=>ckB (fitsOpen z2 J4 w8) (apd J4 5 z2 xn_2 xc_2 1 cs_2 w8 fun a_2 an_2 ac_2 w9=>pV (add b 4) (.slice a_2 an_2 ac_2) w9 fun w10=>R J6 Bl1 [(1,.pointer (some p)),(2,.pointer (some x2)),(3,.pointer (some b)),(4,iI (wrap .i64 (s+1)))] w10))):=kR
theorem D70 (b:Addr) :
 xQ A90 C R J6 Tryz.f100 Bl4 [(1,.pointer (some p)),(2,.pointer (some x2)),(3,.pointer (some b)),(6,iI i)] h =
 gSl (add p 1) h fun _ xn _=>cond (decide (i<(xn:Int)))
 (gSl (add p 1) h fun z1 xn_1 _=>aSome z1 fun p_1=>ck ((0:Int)≤i∧i<(xn_1:Int)) (gAgg (add (B0 p_1) (Int.toNat i*2)) 2 h fun z2=>nw (.cells B98 false [iI 0,iI 0]) h fun p1 w=>ck (List.length z2=2) (pAgg ⟨p1,0,none⟩ z2 w fun w1=>gSl (add b 4) w1 fun z3 xn_2 xc_2=>gInt .i64 ⟨p1,0,none⟩ w1 fun z4=>gInt .i64 ⟨p1,0,none⟩ w1 fun z5=>gInt .i64 ⟨p1,1,none⟩ w1 fun z6=>nw (.cells B2 false [iI z5,iI z6]) w1 fun p2 w2=>nw (.cells J4 false [iI z4,iI (wrap .i64 (8+i)),iI 0,iI 40,.slice (some ⟨p2,0,none⟩) 2 2]) w2 fun p3 w3=>gCells (some ⟨p3,0,none⟩) (1*5) w3 fun cs=>ckB (fitsOpen z3 J4 w3) (apd J4 5 z3 xn_2 xc_2 1 cs w3 fun a an ac w4=>pV (add b 4) (.slice a an ac) w4 fun w5=>R J6 Bl4 [(1,.pointer (some p)),(2,.pointer (some x2)),(3,.pointer (some b)),(6,iI (wrap .i64 (i+1)))] w5))))
 (gAgg b 5 h fun z7=>ck (List.length z7=5) (pAgg x2 z7 h fun w6=>gAgg x2 5 w6 fun z8=>some (.agg ⟨z8⟩,w6))):=kR
def Be9:Cuts:=⟨0,[(5,[1,4,20,21,22]),(12,[1,7,58,59,60]),(18,[7,89,90,91]),(22,[7,11,12,89,90,91,122,123,124])],[],[(9,⟨[0,1,3,5,6,7,9,10,2,4,8,11,12,13,14],[0,1,3,0,15,0,32,96,255,0,512,2047,4095,8191,16383],[(2,[6,10]),(4,[6,10]),(8,[10])],[]⟩),(10,⟨[0,1,2,3,4,5,6,7,8,9,10,11,12],[0,0,2,6,14,0,32,96,224,510,1023,2047,4095],[],[]⟩),(14,⟨[0,1,2,3,4,5,6,7,8,9,10,11],[0,0,2,6,14,0,32,96,254,511,1023,2047],[(6,[4])],[]⟩),(15,⟨[0,1,2,3,4,5,6,7,8,9,10,11,12],[0,0,2,6,14,0,32,96,224,510,1023,2047,4095],[(7,[4])],[]⟩),(20,⟨[0,1,2,3,4,5,6,7,8,9,11,12,15,16,18,19,10,13,14,17,20,21,22,23,24,25],[0,1,3,7,0,16,48,112,0,256,1008,0,2048,8176,16368,0,32768,131056,0,262144,1048575,2097151,4194303,4194303,8388607,33554431],[(10,[3,12,16,19])],[]⟩),(25,⟨[0,1,2,3,4,5,6,7,8,9],[0,1,3,7,0,0,0,64,224,511],[],[]⟩)]⟩
def Bs2:List Item:=A2 Tryz.f101
def Bz4:List Item:=stk [0,1,0,1,0,1,0,0,1,4,5] Bs2
def By7:List Item:=stk [0,1,0,1,0,1,0,1,0,1,0,1,0,0,1,4,5] Bs2
def Bh3:List Item:=stk [0,1,0,1,0,1,0,1,0,1,0,1,0,1,0,0,1,4,5] Bs2
def Bh1:List Item:=stk [0,1,0,1,0,1,0,1,0,1,0,1,0,1,0,0,1,4,5,6,0,1,0,1,0,4,0,1,0,1,0,1,4,5] Bs2
theorem H83 (c:List Value) :
 xQ Be9 C R I5 Tryz.f101 Bs2 [(0,.agg ⟨c⟩)] h =
 nw (.cells E4 false c) h fun b w=>gAgg ⟨b,0,none⟩ 5 w fun x=>bnd (C U5 [.agg ⟨x⟩] w) fun r w1=>aBool r fun z1=>cond (!z1)
 (some (.tuple ⟨[.pointer none,iI 1]⟩,w1))
 (gSl ⟨b,0,none⟩ w1 fun z2 xn xc=>R I5 Bz4 [(1,pP b),(4,iI 0),(20,.slice z2 xn xc),(21,iI (xn:Int)),(22,iI 0)] w1):=kR
theorem Ev5 (c:Addr) (all:Int) :
 xQ Be9 C R I5 Tryz.f101 Bz4 [(1,.pointer (some c)),(4,iI all),(20,.slice x20 x20n x20c),(21,iI x21),(22,iI x22)] h =
 cond (decide (x22<x21))
 (aSome x20 fun p=>ck ((0:Int)≤x22∧x22<(x20n:Int)) (gInt .i64 (add (B0 p) (Int.toNat x22*1)) h fun x=>bnd (C Bg9 [iI x] h) fun r w=>aInt .i64 r fun z1=>R I5 Bz4 [(1,.pointer (some c)),(4,iI (wrap .i64 (all+z1))),(20,.slice x20 x20n x20c),(21,iI x21),(22,iI (wrap .i64 (x22+1)))] w))
 (gSl (add c 1) h fun z2 xn xc=>gSl (add c 1) h fun z3 xn_1 xc_1=>gSl (add c 0) h fun z4 xn_2 xc_2=>bnd (C Y2 [.slice z2 xn xc] h) fun q1 w1=>aSl q1 fun z5 xn_3 xc_3=>gSl (add c 1) w1 fun z6 xn_4 xc_4=>same (.slice z3 xn_1 xc_1) (.slice z6 xn_4 xc_4) (gSl (add c 0) w1 fun z7 xn_5 xc_5=>same (.slice z4 xn_2 xc_2) (.slice z7 xn_5 xc_5) (bnd (C D42 [iI all] w1) fun q2 w2=>aPtr q2 fun z8=>gSl (add c 1) w2 fun z9 xn_6 xc_6=>same (.slice z3 xn_1 xc_1) (.slice z9 xn_6 xc_6) (gSl (add c 0) w2 fun z10 xn_7 xc_7=>same (.slice z4 xn_2 xc_2) (.slice z10 xn_7 xc_7) (bnd (C A25 [iI (xn_1:Int)] w2) fun q3 w3=>aPtr q3 fun z11=>gSl (add c 0) w3 fun z12 xn_8 xc_8=>same (.slice z4 xn_2 xc_2) (.slice z12 xn_8 xc_8) (bnd (C Av2 [.slice z4 xn_2 xc_2] w3) fun q4 w4=>aPtr q4 fun z13=>nw (.cells Dj8 false [.slice z5 xn_3 xc_3,.slice none 0 0,.pointer z8,.pointer z11,.pointer z13,.pointer none,.slice none 0 0,iI 0]) w4 fun b w5=>gPtr ⟨b,2,none⟩ w5 fun z14=>gPtr ⟨b,3,none⟩ w5 fun z15=>bnd (C Da7 [.pointer z14,.pointer z15] w5) fun q5 w6=>aPtr q5 fun z16=>pV ⟨b,5,none⟩ (.pointer z16) w6 fun w7=>gSl (add c 2) w7 fun z17 xn_9 xc_9=>R I5 By7 [(1,.pointer (some c)),(7,pP b),(58,.slice z17 xn_9 xc_9),(59,iI (xn_9:Int)),(60,iI 0)] w7)))))):=kR
theorem Ev7 (c:Addr) (k:Addr) (x58:Option Addr) (x58n x58c:Nat) (x59:Int) (x60:Int) :
 xQ Be9 C R I5 Tryz.f101 By7 [(1,.pointer (some c)),(7,.pointer (some k)),(58,.slice x58 x58n x58c),(59,iI x59),(60,iI x60)] h =
 cond (decide (x60<x59))
 (aSome x58 fun p=>ck ((0:Int)≤x60∧x60<(x58n:Int)) (gSl (add (B0 p) (Int.toNat x60*1)) h fun x xn xc=>gSl (add k 1) h fun z1 xn_1 xc_1=>bnd (C Y2 [.slice x xn xc] h) fun r w=>aSl r fun z2 xn_2 xc_2=>gSl (add k 1) w fun z3 xn_3 xc_3=>same (.slice z1 xn_1 xc_1) (.slice z3 xn_3 xc_3) (nw (.cells L0 false [.slice z2 xn_2 xc_2]) w fun b w1=>gCells (some ⟨b,0,none⟩) (1*1) w1 fun cs=>ckB (fitsOpen z1 L0 w1) (apd L0 1 z1 xn_1 xc_1 1 cs w1 fun a an ac w2=>pV (add k 1) (.slice a an ac) w2 fun w3=>gSl (add k 6) w3 fun z4 xn_4 xc_4=>gInt .i64 (add c 3) w3 fun z5=>bnd (C Dt8 [iI z5] w3) fun q1 w4=>aPtr q1 fun z6=>gSl (add k 6) w4 fun z7 xn_5 xc_5=>same (.slice z4 xn_4 xc_4) (.slice z7 xn_5 xc_5) (nw (.cells A02 false [.pointer z6]) w4 fun p1 w5=>gCells (some ⟨p1,0,none⟩) (1*1) w5 fun cs_1=>ckB (fitsOpen z4 A02 w5) (apd A02 1 z4 xn_4 xc_4 1 cs_1 w5 fun a_1 an_1 ac_1 w6=>pV (add k 6) (.slice a_1 an_1 ac_1) w6 fun w7=>R I5 By7 [(1,.pointer (some c)),(7,.pointer (some k)),(58,.slice x58 x58n x58c),(59,iI x59),(60,iI (wrap .i64 (x60+1)))] w7))))))
 (gSl (add c 4) h fun z8 xn_6 xc_6=>R I5 Bh3 [(7,.pointer (some k)),(89,.slice z8 xn_6 xc_6),(90,iI (xn_6:Int)),(91,iI 0)] h):=kR
theorem Ew4 (k:Addr) :
 xQ Be9 C R I5 Tryz.f101 Bh3 [(7,.pointer (some k)),(89,.slice x89 x89n x89c),(90,iI x90),(91,iI x91)] h =
 cond (decide (x91<x90))
 (aSome x89 fun p=>ck ((0:Int)≤x91∧x91<(x89n:Int)) (gAgg (add (B0 p) (Int.toNat x91*5)) 5 h fun x=>nw (.cells J4 false [iI 0,iI 0,iI 0,iI 0,.slice none 0 0]) h fun b w=>ck (List.length x=5) (pAgg ⟨b,0,none⟩ x w fun w1=>gPtr (add k 5) w1 fun z1=>gPtr (add k 4) w1 fun z2=>gInt .i64 ⟨b,0,none⟩ w1 fun z3=>gInt .i64 ⟨b,1,none⟩ w1 fun z4=>gInt .i64 ⟨b,2,none⟩ w1 fun z5=>gInt .i64 ⟨b,3,none⟩ w1 fun z6=>bnd (C P8 [.pointer z2,iI z3] w1) fun r w2=>aInt .i64 r fun z7=>gPtr (add k 5) w2 fun z8=>same (.pointer z1) (.pointer z8) (gInt .i64 ⟨b,1,none⟩ w2 fun z9=>same (iI z4) (iI z9) (gInt .i64 ⟨b,2,none⟩ w2 fun z10=>same (iI z5) (iI z10) (gInt .i64 ⟨b,3,none⟩ w2 fun z11=>same (iI z6) (iI z11) (bnd (C At8 [.pointer z1,iI (wrap .i64 ((wrap .i64 ((wrap .i64 (z7+z4))*64))+z5)),iI z6] w2) fun q1 w3=>as2 q1 fun q2 q3=>aInt .i64 q2 fun z12=>aInt .i64 q3 fun _=>gSl (add k 0) w3 fun z14 xn xc=>R I5 Bh1 [(7,.pointer (some k)),(11,pP b),(12,iI z12),(89,.slice x89 x89n x89c),(90,iI x90),(91,iI x91),(122,.slice z14 xn xc),(123,iI (xn:Int)),(124,iI 0)] w3)))))))
 (some (.tuple ⟨[.pointer (some k),iI 0]⟩,h)):=kR
theorem Ev0 (k:Addr) (x:Addr) (obj:Int) (x122:Option Addr) (x122n x122c:Nat) (x123:Int) (x124:Int) :
 xQ Be9 C R I5 Tryz.f101 Bh1 [(7,.pointer (some k)),(11,.pointer (some x)),(12,iI obj),(89,.slice x89 x89n x89c),(90,iI x90),(91,iI x91),(122,.slice x122 x122n x122c),(123,iI x123),(124,iI x124)] h =
 cond (decide (x124<x123))
 (aSome x122 fun p=>ck ((0:Int)≤x124∧x124<(x122n:Int)) (gInt .i64 (add (B0 p) (Int.toNat x124*1)) h fun z1=>gSl (add x 4) h fun z2 xn xc=>bnd (C N3 [.slice z2 xn xc,iI z1] h) fun r w=>aBool r fun z3=>cond z3
 (gPtr (add k 3) w fun z4=>gInt .i64 (add x 3) w fun z5=>bnd (C Bf8 [.pointer z4,iI x124,.agg ⟨[iI obj,iI 3,iI 0,iI z5,iI 0,iI 0]⟩] w) fun q1 w1=>as2 q1 fun q2 q3=>aInt .i64 q2 fun _=>aInt .i64 q3 fun _=>R I5 Bh1 [(7,.pointer (some k)),(11,.pointer (some x)),(12,iI obj),(89,.slice x89 x89n x89c),(90,iI x90),(91,iI x91),(122,.slice x122 x122n x122c),(123,iI x123),(124,iI (wrap .i64 (x124+1)))] w1)
 (R I5 Bh1 [(7,.pointer (some k)),(11,.pointer (some x)),(12,iI obj),(89,.slice x89 x89n x89c),(90,iI x90),(91,iI x91),(122,.slice x122 x122n x122c),(123,iI x123),(124,iI (wrap .i64 (x124+1)))] w)))
 (R I5 Bh3 [(7,.pointer (some k)),(89,.slice x89 x89n x89c),(90,iI x90),(91,iI (wrap .i64 (x91+1)))] h):=kR
def Bf2:Cuts:=⟨0,[],[],[]⟩
def Db1:List Item:=A2 Tryz.f108
theorem El7 (b:ByteArray) :
 xQ Bf2 C R As7 Tryz.f108 Db1 [(0,.pointer r),(1,iI e),(2,iI name),(3,iI atv),(4,.string b)] h =
 bnd (C Ah2 [.pointer r,iI e,iI name,iI 2,iI atv,iI ((ByteArray.size b:Nat):Int)] h) fun q1 w=>as2 q1 fun q2 q3=>aInt .i64 q2 fun x=>aInt .i64 q3 fun z1=>cond (z1 != 0)
 (some (iI z1,w))
 (aSome r fun p=>gSl (add p 0) w fun z2 xn xc=>ckB (fitsOpen z2 A1 w) (ck ((0:Int)≤x∧x≤(xn:Int)) (pCells (G4 z2 (decide (Int.toNat x<xc)) ((Int.toNat x)*1)) (A0 (List.take (min (ByteArray.size b) (xn-(Int.toNat x))) (ByteArray.data b).toList)) w fun w1=>some (iI 0,w1)))):=kR
def Do4:Cuts:=⟨0,[],[],[]⟩
def Ev1:List Item:=A2 Tryz.f125
theorem He5 :
 xQ Do4 C R Bh9 Tryz.f125 Ev1 [] h =
 bnd (C Ar8 [iI 24,.func (.func P3) ⟨[]⟩ ⟨[]⟩,.func (.func Y7) ⟨[]⟩ ⟨[]⟩] h) fun r w=>aPtr r fun x=>some (.pointer x,w):=kR
def Eb8:Cuts:=⟨0,[],[],[]⟩
def Gi0:List Item:=A2 Tryz.f127
theorem Hu6 :
 xQ Eb8 C R Af8 Tryz.f127 Gi0 [(0,iI e)] h =
 nw (.cells O8 false [iI 0,iI 0,.slice none 0 0,.bool false]) h fun b w=>pAgg ⟨b,0,none⟩ [iI 0,iI e,.slice none 0 0,.bool false] w fun w1=>gAgg ⟨b,0,none⟩ 4 w1 fun x=>some (.agg ⟨x⟩,w1):=kR
def Be6:Cuts:=⟨0,[],[],[]⟩
def B95:List Item:=A2 Tryz.f140
theorem Er5 :
 xQ Be6 C R At3 Tryz.f140 B95 [(0,.pointer c),(1,iI i)] h =
 nw (.cells E5 false zZ4) h fun b w=>bnd (C Ac6 [.pointer c,.agg ⟨[iI 3,iI i]⟩] w) fun r w1=>as2 r fun q1 q2=>aAgg q1 fun x=>aInt .i64 q2 fun z1=>ck (List.length x=36) (pAgg ⟨b,0,none⟩ x w1 fun w2=>gAgg ⟨b,0,none⟩ 36 w2 fun z2=>some (.tuple ⟨[.agg ⟨z2⟩,iI z1]⟩,w2)):=kR
def A44:Cuts:=⟨0,[],[],[]⟩
def Bx1:List Item:=A2 Tryz.f143
theorem Ed1 :
 xQ A44 C R An5 Tryz.f143 Bx1 [(0,.pointer c)] h =
 nw (.cells E5 false zZ4) h fun b w=>bnd (C I7 [.pointer c,.agg ⟨[iI 4,iI 0]⟩,.func (.func Aq5) ⟨[]⟩ ⟨[]⟩] w) fun r w1=>as2 r fun q1 q2=>aAgg q1 fun x=>aInt .i64 q2 fun z1=>ck (List.length x=36) (pAgg ⟨b,0,none⟩ x w1 fun w2=>gAgg ⟨b,0,none⟩ 36 w2 fun z2=>some (.tuple ⟨[.agg ⟨z2⟩,iI z1]⟩,w2)):=kR
def Az8:Cuts:=⟨0,[],[],[(2,⟨[0,1,2,3,4,5,6,7],[0,0,0,4,12,0,63,127],[],[]⟩)]⟩
def Bt7:List Item:=A2 Tryz.f148
theorem D39 (r:List Value) :
 xQ Az8 C R Ak7 Tryz.f148 Bt7 [(0,.pointer c),(1,.agg ⟨r⟩)] h =
 nw (.cells A6 false r) h fun b w=>gAgg ⟨b,0,none⟩ 2 w fun x=>bnd (C S8 [.pointer c,.agg ⟨x⟩] w) fun q1 w1=>as2 q1 fun q2 q3=>aAgg q2 fun z1=>aBool q3 fun z2=>nw (.cells Bm4 false [iI 0,iI 0,iI 0]) w1 fun p1 w2=>ck (List.length z1=3) (pAgg ⟨p1,0,none⟩ z1 w2 fun w3=>gAgg ⟨b,0,none⟩ 2 w3 fun z3=>gInt .i64 ⟨p1,2,none⟩ w3 fun z4=>ck ((0:Int)≤z4∧(z4:Int)≤z4∧z4≤(A5:Int)) (nw (.cells A1 false (I0 (Int.toNat z4) [.int .u8 0])) w3 fun p2 w4=>bnd (C O1 [.pointer c,.agg ⟨z3⟩,.slice (some ⟨p2,0,none⟩) (Int.toNat z4) (Int.toNat z4),.bool z2] w4) fun q4 w5=>aBool q4 fun z5=>some (.bool z5,w5))):=kR
def Dg4:Cuts:=⟨0,[],[],[(1,⟨[1,0,2,3,4,5,6],[0,0,3,7,7,31,63],[(0,[1])],[]⟩)]⟩
def Ei6:List Item:=A2 Tryz.f164
theorem G60 :
 xQ Dg4 C R Bb3 Tryz.f164 Ei6 [(0,.agg ⟨f⟩)] h =
 nw (.cells H5 false f) h fun b w=>gAgg ⟨b,0,none⟩ 4 w fun x=>bnd (C Bh6 [] w) fun r w1=>aPtr r fun z1=>gAgg ⟨b,0,none⟩ 4 w1 fun z2=>same (.agg ⟨x⟩) (.agg ⟨z2⟩) (bnd (C W5 [.pointer z1,.agg ⟨x⟩] w1) fun q1 w2=>as2 q1 fun q2 q3=>aSl q2 fun z3 xn xc=>aBool q3 fun z4=>some (.tuple ⟨[.slice z3 xn xc,.bool z4]⟩,w2)):=kR
def Dr8:Cuts:=⟨0,[(3,[3,8,9])],[],[(4,⟨[0,1,2,3,4,5,6,7,8,9,10],[0,0,2,6,14,0,32,126,255,511,1023],[(5,[4])],[]⟩)]⟩
def Em6:List Item:=A2 Tryz.f194
def Bz1:List Item:=stk [0,1,0,1,0,0,1,4,5] Em6
theorem Ib6 (envs:Int) :
 xQ Dr8 C R A25 Tryz.f194 Em6 [(0,iI envs)] h =
 nw (.cells Ay3 false [.slice none 0 0]) h fun b w=>R A25 Bz1 [(3,pP b),(8,iI (mm2 false (mm2 true envs 0) 40)),(9,iI 0)] w:=kR
theorem Ex3 (s:Addr) (x9:Int) :
 xQ Dr8 C R A25 Tryz.f194 Bz1 [(3,.pointer (some s)),(8,iI x8),(9,iI x9)] h =
 cond (decide (x9<x8))
 (gSl (add s 0) h fun x xn xc=>bnd (C Q0 [iI 32] h) fun r w=>aPtr r fun z1=>gSl (add s 0) w fun z2 xn_1 xc_1=>same (.slice x xn xc) (.slice z2 xn_1 xc_1) (nw (.cells H3 false [.pointer z1]) w fun b w1=>gCells (some ⟨b,0,none⟩) (1*1) w1 fun cs=>ckB (fitsOpen x H3 w1) (apd H3 1 x xn xc 1 cs w1 fun a an ac w2=>pV (add s 0) (.slice a an ac) w2 fun w3=>R A25 Bz1 [(3,.pointer (some s)),(8,iI x8),(9,iI (wrap .i64 (x9+1)))] w3)))
 (some (.pointer (some s),h)):=kR
def En8:Cuts:=⟨0,[],[],[]⟩
def Gx5:List Item:=A2 Tryz.f197
theorem If4 :
 xQ En8 C R Dt8 Tryz.f197 Gx5 [(0,iI lease)] h =
 nw (.cells Gg5 false [iI (mm2 false (mm2 true lease 1) 1000),.bool false,iI 0,iI 0,iI 0,.slice none 0 0,iI 0,iI 0,iI 0]) h fun b w=>some (pP b,w):=kR
def Ay7:Cuts:=⟨0,[(3,[5,20,21,22])],[],[(2,⟨[0,1,2,3,4,5,6,7,8,9,10,11,12,13,14],[0,1,3,7,0,16,0,64,192,448,960,2032,4095,8191,0],[],[]⟩)]⟩
def Bk3:List Item:=A2 Tryz.f199
def Am7:List Item:=stk [0,1,0,1,0,0,1,4,5] Bk3
theorem Ex7 (s:Int) :
 xQ Ay7 C R P8 Tryz.f199 Bk3 [(0,.pointer q),(1,iI s)] h =
 aSome q fun p=>gSl (add p 0) h fun x _ xc=>aSome q fun p_1=>gSl (add p_1 0) h fun _ xn_1 _=>ckB (fitsOpen x L0 h) (ck ((0:Int)≤mm2 false (mm2 true s 0) (xn_1:Int)∧mm2 false (mm2 true s 0) (xn_1:Int)≤(xc:Int)) (R P8 Am7 [(5,iI 0),(20,.slice (G4 x (decide (0<xc)) (0*1)) ((Int.toNat (mm2 false (mm2 true s 0) (xn_1:Int)))-0) (xc-0)),(21,iI (((Int.toNat (mm2 false (mm2 true s 0) (xn_1:Int)))-0:Nat):Int)),(22,iI 0)] h)):=kR
theorem Bx0 :
 xQ Ay7 C R P8 Tryz.f199 Am7 [(5,iI n),(20,.slice x20 x20n x20c),(21,iI x21),(22,iI x22)] h =
 cond (decide (x22<x21))
 (aSome x20 fun p=>ck ((0:Int)≤x22∧x22<(x20n:Int)) (gSl (add (B0 p) (Int.toNat x22*1)) h fun _ xn _=>R P8 Am7 [(5,iI (wrap .i64 (n+(xn:Int)))),(20,.slice x20 x20n x20c),(21,iI x21),(22,iI (wrap .i64 (x22+1)))] h))
 (some (iI n,h)):=kR
def De3:Cuts:=⟨0,[],[],[]⟩
def Eh1:List Item:=A2 Tryz.f204
theorem G63 :
 xQ De3 C R Bs8 Tryz.f204 Eh1 [(0,iI lease)] h =
 nw (.cells Gj4 false [iI (mm2 false (mm2 true lease 1) 1000),iI 0,iI 0,iI 0,iI 0,iI 0,.bool false,iI 0,.slice none 0 0]) h fun b w=>some (pP b,w):=kR
def B07:Cuts:=⟨0,[],[],[]⟩
def D26:List Item:=A2 Tryz.f207
theorem Gm6 (c:List Value) :
 xQ B07 C R Bc0 Tryz.f207 D26 [(0,.pointer s),(1,iI e),(2,.agg ⟨c⟩)] h =
 nw (.cells P9 false c) h fun b w=>bnd (C Am4 [.pointer s,iI e] w) fun r w1=>aBool r fun x=>bnd (cond (!x) (some (true,w1)) (gInt .i64 ⟨b,1,none⟩ w1 fun z1=>some (decide (z1<0),w1))) fun c_1 w2=>bnd (cond c_1 (some (true,w2)) (gInt .i64 ⟨b,1,none⟩ w2 fun z2=>some (decide (z2>7),w2))) fun c_2 w3=>bnd (cond c_2 (some (true,w3)) (gInt .i64 ⟨b,2,none⟩ w3 fun z3=>some (decide (z3<0),w3))) fun c_3 w4=>bnd (cond c_3 (some (true,w4)) (gInt .i64 ⟨b,2,none⟩ w4 fun z4=>some (decide (z4>65536),w4))) fun c_4 w5=>bnd (cond c_4 (some (true,w5)) (gInt .i64 ⟨b,3,none⟩ w5 fun z5=>some (decide (z5<0),w5))) fun c_5 w6=>bnd (cond c_5 (some (true,w6)) (gInt .i64 ⟨b,3,none⟩ w6 fun z6=>some (decide (z6>65536),w6))) fun c_6 w7=>cond c_6
 (some (.tuple ⟨[iI 0,iI 1]⟩,w7))
 (pAgg ⟨b,4,none⟩ [iI 0,iI 0] w7 fun w8=>gAgg ⟨b,0,none⟩ 6 w8 fun z7=>bnd (C Be4 [.pointer s,iI e,.agg ⟨z7⟩] w8) fun q1 w9=>as2 q1 fun q2 q3=>aInt .i64 q2 fun z8=>aInt .i64 q3 fun z9=>some (.tuple ⟨[iI z8,iI z9]⟩,w9)):=kR
def Bv8:Cuts:=⟨0,[],[],[]⟩
def Dr3:List Item:=A2 Tryz.f208
theorem Gf7 (k:Option Addr) :
 xQ Bv8 C R Ar0 Tryz.f208 Dr3 [(0,.pointer k)] h =
 aSome k fun p=>gPtr (add p 3) h fun x=>some (.pointer x,h):=kR
def B14:Cuts:=⟨0,[],[],[]⟩
def Dz1:List Item:=A2 Tryz.f210
theorem Gl8 :
 xQ B14 C R Bc1 Tryz.f210 Dz1 [(0,.pointer s),(1,iI e)] h =
 bnd (C Am4 [.pointer s,iI e] h) fun r w=>aBool r fun x=>cond (!x)
 (some (.slice none 0 0,w))
 (aSome s fun p=>gSl (add p 0) w fun z1 xn _=>aSome z1 fun p_1=>ck ((0:Int)≤e∧e<(xn:Int)) (gPtr (add (B0 p_1) (Int.toNat e*1)) w fun z2=>bnd (C S9 [.pointer z2] w) fun q1 w1=>aSl q1 fun z3 xn_1 xc_1=>some (.slice z3 xn_1 xc_1,w1))):=kR
def A97:Cuts:=⟨0,[],[],[]⟩
def B45:List Item:=A2 Tryz.f213
theorem Eh2 :
 xQ A97 C R Ap7 Tryz.f213 B45 [(0,.pointer r),(1,iI env),(2,iI fromv),(3,iI atv),(4,iI to),(5,iI on),(6,iI n)] h =
 bnd (C Ae0 [.pointer r,iI env,iI fromv,iI atv,iI n] h) fun q1 w=>as2 q1 fun q2 q3=>aSl q2 fun x xn xc=>aInt .i64 q3 fun z1=>cond (z1 != 0)
 (some (iI z1,w))
 (bnd (C Ab7 [.pointer r,iI env,iI to,iI on,.slice x xn xc] w) fun q4 w1=>aInt .i64 q4 fun z2=>some (iI z2,w1)):=kR
def Bq1:Cuts:=⟨0,[],[],[]⟩
def Dn4:List Item:=A2 Tryz.f217
theorem E48 (s:Int) :
 xQ Bq1 C R A18 Tryz.f217 Dn4 [(0,.pointer q),(1,iI s),(2,iI k)] h =
 bnd (C Al9 [.pointer q,iI s] h) fun r w=>aBool r fun x=>cond (!x)
 (some (iI 1,w))
 (bnd (C A08 [.pointer q,iI s,iI k] w) fun q1 w1=>aBool q1 fun z1=>cond (!z1)
 (some (iI 5,w1))
 (aSome q fun p=>gSl (add p 0) w1 fun z2 xn _=>aSome z2 fun p_1=>ck ((0:Int)≤s∧s<(xn:Int)) (gSl (add (B0 p_1) (Int.toNat s*1)) w1 fun z3 xn_1 _=>aSome z3 fun p_2=>ck ((0:Int)≤k∧k<(xn_1:Int)) (pV (add (B0 p_2) (Int.toNat k*1)) (iI 0) w1 fun w2=>some (iI 0,w2))))):=kR
def A00:Cuts:=⟨0,[],[],[]⟩
def Bu1:List Item:=A2 Tryz.f232
theorem D33 (r:List Value) :
 xQ A00 C R S8 Tryz.f232 Bu1 [(0,.pointer c),(1,.agg ⟨r⟩)] h =
 nw (.cells A6 false r) h fun b w=>nw (.cells Bm4 false [iI 0,iI 0,iI 0]) w fun p1 w1=>gInt .i64 ⟨b,1,none⟩ w1 fun x=>bnd (cond (decide (x<0)) (some (true,w1)) (gInt .i64 ⟨b,0,none⟩ w1 fun z1=>bnd (C U7 [.pointer c,iI z1] w1) fun q1 w2=>aInt .i64 q1 fun z2=>some (decide (x≥z2),w2))) fun c_1 w3=>cond c_1
 (pAgg ⟨p1,0,none⟩ [iI 0,iI 0,iI 0] w3 fun w4=>gAgg ⟨p1,0,none⟩ 3 w4 fun z3=>some (.tuple ⟨[.agg ⟨z3⟩,.bool false]⟩,w4))
 (aSome c fun p=>gSl (add p 2) w3 fun z4 xn _=>aSome z4 fun p_1=>ck ((0:Int)≤0∧0<(xn:Int)) (gInt .i64 (add (B0 p_1) (Int.toNat 0*1)) w3 fun z5=>gInt .i64 ⟨b,0,none⟩ w3 fun z6=>cond (z6==1)
 (pAgg ⟨p1,0,none⟩ [iI z5,iI (wrap .i64 (24*x)),iI 24] w3 fun w5=>gAgg ⟨p1,0,none⟩ 3 w5 fun z7=>some (.tuple ⟨[.agg ⟨z7⟩,.bool true]⟩,w5))
 (gInt .i64 ⟨b,0,none⟩ w3 fun z8=>cond (z8==2)
 (pAgg ⟨p1,0,none⟩ [iI z5,iI (wrap .i64 (192+(wrap .i64 (8*x)))),iI 8] w3 fun w6=>gAgg ⟨p1,0,none⟩ 3 w6 fun z9=>some (.tuple ⟨[.agg ⟨z9⟩,.bool true]⟩,w6))
 (gInt .i64 ⟨b,0,none⟩ w3 fun z10=>bnd (cond (z10==3) (some (decide (x<4),w3)) (some (false,w3))) fun c_2 w7=>cond c_2
 (pAgg ⟨p1,0,none⟩ [iI z5,iI (wrap .i64 (288+(wrap .i64 (40*x)))),iI 40] w7 fun w8=>gAgg ⟨p1,0,none⟩ 3 w8 fun z11=>some (.tuple ⟨[.agg ⟨z11⟩,.bool true]⟩,w8))
 (gInt .i64 ⟨b,0,none⟩ w7 fun z12=>cond (z12==3)
 (aSome c fun p_2=>gSl (add p_2 2) w7 fun z13 xn_1 _=>aSome z13 fun p_3=>ck ((0:Int)≤wrap .i64 ((wrap .i64 (x-4))+1)∧wrap .i64 ((wrap .i64 (x-4))+1)<(xn_1:Int)) (gInt .i64 (add (B0 p_3) (Int.toNat (wrap .i64 ((wrap .i64 (x-4))+1))*1)) w7 fun z14=>pAgg ⟨p1,0,none⟩ [iI z14,iI 0,iI 40] w7 fun w9=>gAgg ⟨p1,0,none⟩ 3 w9 fun z15=>some (.tuple ⟨[.agg ⟨z15⟩,.bool true]⟩,w9)))
 (gInt .i64 ⟨b,0,none⟩ w7 fun z16=>cond (z16==4)
 (pAgg ⟨p1,0,none⟩ [iI z5,iI 448,iI 40] w7 fun w10=>gAgg ⟨p1,0,none⟩ 3 w10 fun z17=>some (.tuple ⟨[.agg ⟨z17⟩,.bool true]⟩,w10))
 (pAgg ⟨p1,0,none⟩ [iI z5,iI 488,iI 4] w7 fun w11=>gAgg ⟨p1,0,none⟩ 3 w11 fun z18=>some (.tuple ⟨[.agg ⟨z18⟩,.bool true]⟩,w11)))))))):=kR
def B71:Cuts:=⟨0,[],[],[]⟩
def D81:List Item:=A2 Tryz.f234
theorem Gv8 (c:Int) :
 xQ B71 C R Ah0 Tryz.f234 D81 [(0,.int .u8 c)] h =
 some (.bool (c != 0),h):=kR
def De4:Cuts:=⟨0,[],[],[(5,⟨[0,1,2,3,4,5,6,7,8,9,10,11,12,13,14],[0,1,3,0,8,24,0,64,192,0,512,1536,4095,0,16383],[],[]⟩)]⟩
def Eg9:List Item:=A2 Tryz.f241
theorem Gz8 (b:ByteArray) :
 xQ De4 C R Bs5 Tryz.f241 Eg9 [(0,.string b)] h =
 nw (.cells H5 false [iI 0,iI 0,iI 0,iI 0]) h fun p1 w=>cond (((ByteArray.size b:Nat):Int) != 8)
 (pAgg ⟨p1,0,none⟩ [iI 0,iI 0,iI 0,iI 0] w fun w1=>gAgg ⟨p1,0,none⟩ 4 w1 fun x=>some (.tuple ⟨[.agg ⟨x⟩,iI 2]⟩,w1))
 (bnd (C Ac5 [.string b] w) fun r w2=>aBool r fun z1=>cond z1
 (pAgg ⟨p1,0,none⟩ [iI 0,iI 0,iI 0,iI 0] w2 fun w3=>gAgg ⟨p1,0,none⟩ 4 w3 fun z2=>some (.tuple ⟨[.agg ⟨z2⟩,iI 0]⟩,w3))
 (ck ((0:Int)≤0∧0<((ByteArray.size b:Nat):Int)) (ck ((0:Int)≤1∧1<((ByteArray.size b:Nat):Int)) (ck ((0:Int)≤2∧2<((ByteArray.size b:Nat):Int)) (ck ((0:Int)≤3∧3<((ByteArray.size b:Nat):Int)) (nw (.cells H5 false [iI 0,iI 0,iI 0,iI 0]) w2 fun p2 w4=>pAgg ⟨p2,0,none⟩ [iI (wrap .i64 (((List.getD (ByteArray.data b).toList (Int.toNat 0) 0).toNat:Int))),iI (wrap .i64 (((List.getD (ByteArray.data b).toList (Int.toNat 1) 0).toNat:Int))),iI (wrap .i64 (((List.getD (ByteArray.data b).toList (Int.toNat 2) 0).toNat:Int))),iI (wrap .i64 (((List.getD (ByteArray.data b).toList (Int.toNat 3) 0).toNat:Int)))] w4 fun w5=>gAgg ⟨p2,0,none⟩ 4 w5 fun z3=>bnd (C Br6 [.agg ⟨z3⟩] w5) fun q1 w6=>aBool q1 fun z4=>bnd (cond (!z4) (some (true,w6)) (gAgg ⟨p2,0,none⟩ 4 w6 fun z5=>bnd (C Aq9 [.agg ⟨z5⟩] w6) fun q2 w7=>aStr q2 fun z6=>some (!(z6.toList==b.toList),w7))) fun c w8=>cond c
 (pAgg ⟨p1,0,none⟩ [iI 0,iI 0,iI 0,iI 0] w8 fun w9=>gAgg ⟨p1,0,none⟩ 4 w9 fun z7=>some (.tuple ⟨[.agg ⟨z7⟩,iI 2]⟩,w9))
 (gAgg ⟨p2,0,none⟩ 4 w8 fun z8=>ck (List.length z8=4) (pAgg ⟨p1,0,none⟩ z8 w8 fun w10=>gAgg ⟨p1,0,none⟩ 4 w10 fun z9=>some (.tuple ⟨[.agg ⟨z9⟩,iI 1]⟩,w10))))))))):=kR
def Es8:Cuts:=⟨0,[],[],[]⟩
def Gr0:List Item:=A2 Tryz.f246
theorem H71 (lo:Int) (hi:Int) :
 xQ Es8 C R Q2 Tryz.f246 Gr0 [(0,iI n),(1,iI lo),(2,iI hi)] h =
 bnd (cond (decide (n≥lo)) (some (decide (n≤hi),h)) (some (false,h))) fun c w=>some (.bool c,w):=kR
def Dx0:Cuts:=⟨0,[],[],[]⟩
def E71:List Item:=A2 Tryz.f271
theorem Hg7 :
 xQ Dx0 C R Bo6 Tryz.f271 E71 [] h =
 bnd (C Au4 [iI 40,.func (.func Bt2) ⟨[]⟩ ⟨[]⟩,.func (.func Bs7) ⟨[]⟩ ⟨[]⟩] h) fun r w=>aPtr r fun x=>some (.pointer x,w):=kR
def Ap3:Cuts:=⟨0,[(2,[0,3,4])],[],[(2,⟨[0,1,2,3,4,5,6,7,8,9,10,11,12,13],[0,1,3,7,7,23,55,119,7,263,1015,2039,4095,8191],[],[]⟩),(4,⟨[0,1,2,3,4,5,6,7,9,10,12,13,14,15,16,17,8,11,18,19,20,21],[0,0,0,4,12,28,0,124,254,0,512,2046,0,4096,12288,28672,0,126976,262142,524287,1048575,2097151],[(8,[9,15,17]),(11,[15,17])],[]⟩)]⟩
def Ba4:List Item:=A2 Tryz.f280
def Y0:List Item:=stk [0,1,0,1,0,4,5] Ba4
theorem Eg6 (r:List Value) :
 xQ Ap3 C R G0 Tryz.f280 Ba4 [(0,.pointer c),(1,.agg ⟨r⟩)] h =
 nw (.cells A6 false r) h fun b w=>aSome c fun p=>gSl (add p 3) w fun _ xn _=>R G0 Y0 [(0,.pointer c),(3,pP b),(4,iI (xn:Int))] w:=kR
theorem Bp6 (r:Addr) :
 xQ Ap3 C R G0 Tryz.f280 Y0 [(0,.pointer c),(3,.pointer (some r)),(4,iI k)] h =
 bnd (cond (decide (k>0)) (gAgg r 2 h fun x=>aSome c fun p=>gSl (add p 3) h fun z1 xn _=>aSome z1 fun p_1=>ck ((0:Int)≤wrap .i64 (k-1)∧wrap .i64 (k-1)<(xn:Int)) (gAgg (add (B0 p_1) (Int.toNat (wrap .i64 (k-1))*2)) 2 h fun z2=>bnd (C Bm3 [.agg ⟨x⟩,.agg ⟨z2⟩] h) fun q1 w=>aBool q1 fun z3=>some (z3,w))) (some (false,h))) fun c_1 w1=>cond c_1
 (R G0 Y0 [(0,.pointer c),(3,.pointer (some r)),(4,iI (wrap .i64 (k-1)))] w1)
 (nw (.cells A6 false []) w1 fun b w2=>aSome c fun p_2=>gSl (add p_2 3) w2 fun z4 _ xc_1=>ckB (fitsOpen z4 A6 w2) (ck ((0:Int)≤k∧k≤(xc_1:Int)) (gAgg r 2 w2 fun z5=>ck (List.length z5=2) (nw (.cells A6 false (z5++[])) w2 fun p1 w3=>aSome c fun p_3=>gSl (add p_3 3) w3 fun z6 xn_2 xc_2=>ckB (fitsOpen z6 A6 w3) (ck ((0:Int)≤k∧k≤(xn_2:Int)) (gCells (G4 z4 (decide (0<xc_1)) (0*2)) (((Int.toNat k)-0)*2) w3 fun cs=>ckB (fitsOpen (some ⟨b,0,none⟩) A6 w3) (apd A6 2 (some ⟨b,0,none⟩) 0 0 ((Int.toNat k)-0) cs w3 fun a an ac w4=>gAgg r 2 w4 fun z7=>same (.agg ⟨z5⟩) (.agg ⟨z7⟩) (gSl (add p_3 3) w4 fun z8 xn_3 xc_3=>same (.slice z6 xn_2 xc_2) (.slice z8 xn_3 xc_3) (ckB (fitsOpen z6 A6 w4) (ck ((0:Int)≤k∧k≤(xn_2:Int)) (same (.slice (G4 z6 (decide (Int.toNat k<xc_2)) ((Int.toNat k)*2)) (xn_2-(Int.toNat k)) (xc_2-(Int.toNat k))) (.slice (G4 z6 (decide (Int.toNat k<xc_2)) ((Int.toNat k)*2)) (xn_2-(Int.toNat k)) (xc_2-(Int.toNat k))) (gCells (some ⟨p1,0,none⟩) (1*2) w4 fun cs_1=>ckB (fitsOpen a A6 w4) (apd A6 2 a an ac 1 cs_1 w4 fun a_1 an_1 ac_1 w5=>gSl (add p_3 3) w5 fun z9 xn_4 xc_4=>same (.slice z6 xn_2 xc_2) (.slice z9 xn_4 xc_4) (ckB (fitsOpen z6 A6 w5) (ck ((0:Int)≤k∧k≤(xn_2:Int)) (same (.slice (G4 z6 (decide (Int.toNat k<xc_2)) ((Int.toNat k)*2)) (xn_2-(Int.toNat k)) (xc_2-(Int.toNat k))) (.slice (G4 z6 (decide (Int.toNat k<xc_2)) ((Int.toNat k)*2)) (xn_2-(Int.toNat k)) (xc_2-(Int.toNat k))) (gCells (G4 z6 (decide (Int.toNat k<xc_2)) ((Int.toNat k)*2)) ((xn_2-(Int.toNat k))*2) w5 fun cs_2=>ckB (fitsOpen a_1 A6 w5) (apd A6 2 a_1 an_1 ac_1 (xn_2-(Int.toNat k)) cs_2 w5 fun a_2 an_2 ac_2 w6=>aSome c fun p_4=>pV (add p_4 3) (.slice a_2 an_2 ac_2) w6 fun w7=>some (.tuple ⟨[]⟩,w7))))))))))))))))))):=kR
def Bc8:Cuts:=⟨0,[(3,[0,3,4])],[],[]⟩
def B06:List Item:=A2 Tryz.f294
def Al2:List Item:=stk [0,1,0,1,0,0,1,4,5] B06
theorem Gp8 (n:Option Addr) :
 xQ Bc8 C R S9 Tryz.f294 B06 [(0,.pointer n)] h =
 R S9 Al2 [(0,.pointer n),(3,.slice none 0 0),(4,iI 0)] h:=kR
theorem Dd4 (n:Option Addr) :
 xQ Bc8 C R S9 Tryz.f294 Al2 [(0,.pointer n),(3,.slice out outn outc),(4,iI i)] h =
 aSome n fun p=>gSl (add p 0) h fun _ xn _=>cond (decide (i<(xn:Int)))
 (aSome n fun p_1=>gSl (add p_1 0) h fun z1 xn_1 _=>aSome z1 fun p_2=>ck ((0:Int)≤i∧i<(xn_1:Int)) (gBool (add (add (B0 p_2) (Int.toNat i*2)) 1) h fun z2=>cond z2
 (aSome n fun p_3=>gSl (add p_3 0) h fun z3 xn_2 _=>aSome z3 fun p_4=>ck ((0:Int)≤i∧i<(xn_2:Int)) (gInt .i64 (add (add (B0 p_4) (Int.toNat i*2)) 0) h fun z4=>nw (.cells B2 false [iI (wrap .i64 (i+(wrap .i64 (256*z4))))]) h fun b w=>gCells (some ⟨b,0,none⟩) (1*1) w fun cs=>ckB (fitsOpen out B2 w) (apd B2 1 out outn outc 1 cs w fun a an ac w1=>R S9 Al2 [(0,.pointer n),(3,.slice a an ac),(4,iI (wrap .i64 (i+1)))] w1)))
 (R S9 Al2 [(0,.pointer n),(3,.slice out outn outc),(4,iI (wrap .i64 (i+1)))] h)))
 (some (.slice out outn outc,h)):=kR
def B84:Cuts:=⟨0,[],[],[]⟩
def D67:List Item:=A2 Tryz.f296
theorem Gw7 :
 xQ B84 C R Bl6 Tryz.f296 D67 [(0,.pointer m),(1,iI atv),(2,.slice b bn bc)] h =
 bnd (C Bo1 [.pointer m,iI atv,iI (bn:Int)] h) fun r w=>aBool r fun x=>cond (!x)
 (some (iI 1,w))
 (aSome m fun p=>gSl (add p 0) w fun z1 xn xc=>ckB (fitsOpen z1 A1 w) (ck ((0:Int)≤atv∧atv≤(xn:Int)) (gCells b (min bn (xn-(Int.toNat atv))*1) w fun cs=>pCells (G4 z1 (decide (Int.toNat atv<xc)) ((Int.toNat atv)*1)) cs w fun w1=>some (iI 0,w1)))):=kR
def B08:Cuts:=⟨0,[],[],[]⟩
def Dy3:List Item:=A2 Tryz.f297
theorem Gl5 :
 xQ B08 C R Ay2 Tryz.f297 Dy3 [(0,.pointer s),(1,iI env),(2,iI name)] h =
 nw (.cells P9 false [iI 0,iI 0,iI 0,iI 0,iI 0,iI 0]) h fun b w=>bnd (C Ah1 [.pointer s,iI env] w) fun r w1=>aBool r fun x=>cond (!x)
 (pAgg ⟨b,0,none⟩ [iI 0,iI 0,iI 0,iI 0,iI 0,iI 0] w1 fun w2=>gAgg ⟨b,0,none⟩ 6 w2 fun z1=>some (.tuple ⟨[.agg ⟨z1⟩,iI 2]⟩,w2))
 (aSome s fun p=>gSl (add p 0) w1 fun z2 xn _=>aSome z2 fun p_1=>ck ((0:Int)≤env∧env<(xn:Int)) (gPtr (add (B0 p_1) (Int.toNat env*1)) w1 fun z3=>bnd (C Af2 [.pointer z3,iI name] w1) fun q1 w3=>as2 q1 fun q2 q3=>aAgg q2 fun z4=>aBool q3 fun z5=>nw (.cells P9 false [iI 0,iI 0,iI 0,iI 0,iI 0,iI 0]) w3 fun p1 w4=>ck (List.length z4=6) (pAgg ⟨p1,0,none⟩ z4 w4 fun w5=>cond (!z5)
 (pAgg ⟨b,0,none⟩ [iI 0,iI 0,iI 0,iI 0,iI 0,iI 0] w5 fun w6=>gAgg ⟨b,0,none⟩ 6 w6 fun z6=>some (.tuple ⟨[.agg ⟨z6⟩,iI 2]⟩,w6))
 (gAgg ⟨p1,0,none⟩ 6 w5 fun z7=>ck (List.length z7=6) (pAgg ⟨b,0,none⟩ z7 w5 fun w7=>gAgg ⟨b,0,none⟩ 6 w7 fun z8=>some (.tuple ⟨[.agg ⟨z8⟩,iI 0]⟩,w7)))))):=kR
def V7:Cuts:=⟨0,[(2,[0,1,7,8])],[],[]⟩
def Ai3:List Item:=A2 Tryz.f309
def S4:List Item:=stk [0,1,0,0,1,4,5] Ai3
theorem B52 (f:Value) :
 xQ V7 C R G3 Tryz.f309 Ai3 [(0,.slice s sn sc),(1,f)] h =
 R G3 S4 [(0,.slice s sn sc),(1,f),(7,iI (sn:Int)),(8,iI 0)] h:=kR
theorem Av8 (f:Value) :
 xQ V7 C R G3 Tryz.f309 S4 [(0,.slice s sn sc),(1,f),(7,iI x7),(8,iI x8)] h =
 cond (decide (x8<x7))
 (aSome s fun p=>ck ((0:Int)≤x8∧x8<(sn:Int)) (gInt .u8 (add (B0 p) (Int.toNat x8*1)) h fun x=>aFn f fun g fi cp=>bnd (C g (fi++([.int .u8 x]++cp)) h) fun r w=>aBool r fun z1=>cond z1
 (some (iI x8,w))
 (R G3 S4 [(0,.slice s sn sc),(1,f),(7,iI x7),(8,iI (wrap .i64 (x8+1)))] w)))
 (some (iI (-1),h)):=kR
def Dx4:Cuts:=⟨0,[],[],[(3,⟨[0,1,2,3,4,5,6,7,8,9,10,11,12,13,14],[0,0,3,7,15,31,0,0,128,448,960,1984,4095,8191,16383],[],[]⟩)]⟩
def E32:List Item:=A2 Tryz.f313
theorem Hs9 :
 xQ Dx4 C R B96 Tryz.f313 E32 [(0,.slice b bn bc),(1,iI atv)] h =
 bnd (cond (decide (atv<0)) (some (true,h)) (some (decide (atv>(wrap .i64 ((bn:Int)-2))),h))) fun c w=>cond c
 (some (.tuple ⟨[iI 0,.bool false]⟩,w))
 (aSome b fun p=>ck ((0:Int)≤atv∧atv<(bn:Int)) (gInt .u8 (add (B0 p) (Int.toNat atv*1)) w fun x=>aSome b fun p_1=>ck ((0:Int)≤wrap .i64 (atv+1)∧wrap .i64 (atv+1)<(bn:Int)) (gInt .u8 (add (B0 p_1) (Int.toNat (wrap .i64 (atv+1))*1)) w fun z1=>some (.tuple ⟨[iI (Dy7 .i64 (wrap .i64 ((wrap .i64 (x))*2 ^ 8)) (wrap .i64 (z1))),.bool true]⟩,w)))):=kR
def Ay5:Cuts:=⟨0,[(2,[0,3,5])],[],[(4,⟨[0,1,2,3,4,5,6,7,8],[0,1,3,7,0,31,63,0,255],[],[]⟩)]⟩
def Bk2:List Item:=A2 Tryz.f316
def An3:List Item:=stk [0,1,0,0,1,4,5] Bk2
theorem Ey1 (r:List Value) :
 xQ Ay5 C R Q1 Tryz.f316 Bk2 [(0,.pointer c),(1,.agg ⟨r⟩)] h =
 nw (.cells A6 false r) h fun b w=>R Q1 An3 [(0,.pointer c),(3,pP b),(5,iI 0)] w:=kR
theorem Bw2 (r:Addr) :
 xQ Ay5 C R Q1 Tryz.f316 An3 [(0,.pointer c),(3,.pointer (some r)),(5,iI i)] h =
 aSome c fun p=>gSl (add p 3) h fun _ xn _=>cond (decide (i<(xn:Int)))
 (aSome c fun p_1=>gSl (add p_1 3) h fun z1 xn_1 _=>aSome z1 fun p_2=>ck ((0:Int)≤i∧i<(xn_1:Int)) (gAgg (add (B0 p_2) (Int.toNat i*2)) 2 h fun z2=>gAgg r 2 h fun z3=>A70 PR A6 z2 z3 fun eq=>cond eq
 (some (.bool true,h))
 (R Q1 An3 [(0,.pointer c),(3,.pointer (some r)),(5,iI (wrap .i64 (i+1)))] h)))
 (some (.bool false,h)):=kR
def Ee1:Cuts:=⟨0,[],[],[]⟩
def Gi5:List Item:=A2 Tryz.f324
theorem Hu9 :
 xQ Ee1 C R Au9 Tryz.f324 Gi5 [(0,.agg ⟨f⟩),(1,.slice b bn bc)] h =
 nw (.cells H5 false f) h fun p1 w=>gAgg ⟨p1,0,none⟩ 4 w fun x=>bnd (C Ds6 [.agg ⟨x⟩] w) fun r w1=>aBool r fun z1=>cond (!z1)
 (some (.bool false,w1))
 (gInt .i64 ⟨p1,0,none⟩ w1 fun z2=>gInt .i64 ⟨p1,1,none⟩ w1 fun z3=>gInt .i64 ⟨p1,2,none⟩ w1 fun z4=>gInt .i64 ⟨p1,3,none⟩ w1 fun z5=>nw (.cells A1 false [.int .u8 (wrap .u8 (z2)),.int .u8 (wrap .u8 (z3)),.int .u8 (wrap .u8 (z4)),.int .u8 (wrap .u8 (z5)),.int .u8 179]) w1 fun p2 w2=>gCells (some ⟨p2,0,none⟩) (min 5 bn*1) w2 fun cs=>pCells b cs w2 fun w3=>ckB (fitsOpen b A1 w3) (ck ((0:Int)≤5∧5≤(bc:Int)) (bnd (C Ac1 [.slice (G4 b (decide (0<bc)) (0*1)) ((Int.toNat 5)-0) (bc-0)] w3) fun q1 w4=>aInt .u8 q1 fun z6=>aSome b fun p=>ck ((0:Int)≤5∧5<(bn:Int)) (pV (add (B0 p) (Int.toNat 5*1)) (.int .u8 z6) w4 fun w5=>some (.bool true,w5))))):=kR
def Bf9:Cuts:=⟨0,[],[],[]⟩
def B72:List Item:=A2 Tryz.f326
theorem El5 (put:Value) (get:Value) :
 xQ Bf9 C R Au4 Tryz.f326 B72 [(0,iI size),(1,put),(2,get)] h =
 one put (one get (nw (.cells Bw6 false [iI (mm2 false (mm2 true size 0) 64),put,get]) h fun b w=>some (pP b,w))):=kR
def Af1:Cuts:=⟨0,[(2,[0,3,11,12,13])],[],[(5,⟨[0,1,2,3,4,5,6,7,8,9,10,11,12,13,14,15,16],[0,1,3,7,0,0,32,96,224,0,0,1535,3583,7679,16383,32767,65535],[],[]⟩)]⟩
def Au7:List Item:=A2 Tryz.f331
def Z5:List Item:=stk [0,1,0,0,1,4,5] Au7
theorem Dt2 (v:List Value) :
 xQ Af1 C R I6 Tryz.f331 Au7 [(0,.pointer t),(1,.agg ⟨v⟩)] h =
 nw (.cells P9 false v) h fun b w=>aSome t fun p=>gSl (add p 0) w fun x xn xc=>R I6 Z5 [(0,.pointer t),(3,pP b),(11,.slice x xn xc),(12,iI (xn:Int)),(13,iI 0)] w:=kR
theorem A84 (v:Addr) (x11:Option Addr) (x11n x11c:Nat) (x12:Int) (x13:Int) :
 xQ Af1 C R I6 Tryz.f331 Z5 [(0,.pointer t),(3,.pointer (some v)),(11,.slice x11 x11n x11c),(12,iI x12),(13,iI x13)] h =
 cond (decide (x13<x12))
 (aSome x11 fun p=>ck ((0:Int)≤x13∧x13<(x11n:Int)) (gAgg (add (B0 p) (Int.toNat x13*8)) 8 h fun x=>nw (.cells Ap9 false [iI 0,iI 0,iI 0,iI 0,iI 0,iI 0,iI 0,.bool false]) h fun b w=>ck (List.length x=8) (pAgg ⟨b,0,none⟩ x w fun w1=>gBool ⟨b,7,none⟩ w1 fun z1=>bnd (cond (!z1) (gInt .i64 ⟨b,6,none⟩ w1 fun z2=>some (decide (z2≤1000000),w1)) (some (false,w1))) fun c w2=>cond c
 (aSome t fun p_1=>gSl (add p_1 0) w2 fun z3 xn _=>aSome t fun p_2=>gSl (add p_2 0) w2 fun z4 xn_1 _=>gAgg v 6 w2 fun z5=>aSome z3 fun p_3=>ck ((0:Int)≤x13∧x13<(xn:Int)) (ck (List.length z5=6) (pAgg (add (add (B0 p_3) (Int.toNat x13*8)) 0) z5 w2 fun w3=>aSome z4 fun p_4=>ck ((0:Int)≤x13∧x13<(xn_1:Int)) (pV (add (add (B0 p_4) (Int.toNat x13*8)) 7) (.bool true) w3 fun w4=>bnd (C O4 [.pointer t,iI x13] w4) fun r w5=>aInt .i64 r fun z6=>some (.tuple ⟨[iI z6,.bool true]⟩,w5)))))
 (R I6 Z5 [(0,.pointer t),(3,.pointer (some v)),(11,.slice x11 x11n x11c),(12,iI x12),(13,iI (wrap .i64 (x13+1)))] w2))))
 (some (.tuple ⟨[iI 0,.bool false]⟩,h)):=kR
def Aq1:Cuts:=⟨0,[],[],[]⟩
def Bi7:List Item:=A2 Tryz.f332
theorem Dn9 :
 xQ Aq1 C R O4 Tryz.f332 Bi7 [(0,.pointer t),(1,iI i)] h =
 aSome t fun p=>gSl (add p 0) h fun x xn _=>aSome x fun p_1=>ck ((0:Int)≤i∧i<(xn:Int)) (gInt .i64 (add (add (B0 p_1) (Int.toNat i*8)) 6) h fun z1=>some (iI (wrap .i64 (i+(wrap .i64 (256*z1)))),h)):=kR
end
end Go.EQ

set_option maxRecDepth 100000
namespace Go.EQ
open Go Go.NN Go.Proofs
variable (C:D1) (R:Aa4)
noncomputable section
def I09:List (Nat × Cuts):=[(4,A38),(8,B89),(9,Dn8),(10,Ec3),(12,Ed0),(13,A55),(14,Dn6),(15,A80),(16,B75),(17,Bk6),(18,Ek0),(19,Ea7),(20,Bg8),(21,Ae1),(22,D92),(23,Dj6),(33,Dz3),(34,D12),(35,A64),(36,Df2),(37,Dg8),(38,Dp6),(39,Bv2),(40,Ea4),(41,Dj5),(42,Bb4),(43,Ec6),(44,As1),(50,Af5),(51,Dg9),(52,Dg3),(53,Es5),(54,Du5),(55,De6),(56,B59),(57,Bg4),(58,Bf0),(59,Bg5),(60,Bf4),(66,Be0),(67,U8),(68,Df4),(69,A42),(71,Aq2),(72,Da3),(73,Do8),(74,Bv4),(80,A50),(82,A48),(84,At0),(90,Ao0),(100,A90),(101,Be9),(102,Aw1),(103,Dp2),(104,Bp2),(105,Bu5),(106,Bn4),(107,Bj6),(108,Bf2),(117,Bn6),(118,Dh6),(119,Az9),(123,A51),(124,Do9),(125,Do4),(126,Aj2),(127,Eb8),(128,Be2),(129,Bf1),(136,Z4),(140,Be6),(143,A44),(144,Az7),(145,Dx2),(146,Aq3),(148,Az8),(157,Af3),(158,De1),(159,Dh7),(160,Ae7),(161,Dh2),(162,Do0),(163,Dn7),(164,Dg4),(165,Ah4),(175,A92),(176,A54),(183,Bf5),(190,Bo0),(191,Do7),(192,Ax2),(193,E17),(194,Dr8),(195,Di4),(196,Dx6),(197,En8),(198,Bf3),(199,Ay7),(200,B24),(201,Bm8),(202,A10),(203,Bm2),(204,De3),(205,Bn9),(206,D89),(207,B07),(208,Bv8),(209,Bn0),(210,B14),(211,A85),(212,A40),(213,A97),(214,Bp7),(216,Bk8),(217,Bq1),(218,Bv5),(219,Bv0),(220,Be8),(221,B28),(222,B22),(223,Dp4),(224,B26),(231,Aj6),(232,A00),(233,Ab9),(234,B71),(235,Bc9),(236,Bj4),(237,By5),(238,Bg3),(239,A99),(240,Bg7),(241,De4),(242,Df9),(244,Bq6),(246,Es8),(247,Au8),(248,Bv3),(261,Af7),(269,Dn5),(270,Aj7),(271,Dx0),(272,Aj9),(273,Aj5),(274,Aj8),(276,E59),(280,Ap3),(281,Bq8),(282,De9),(283,Bc6),(285,De0),(286,Dz9),(287,Az0),(288,Dh0),(289,Bn7),(290,B81),(291,B25),(292,Bk9),(293,Aa5),(294,Bc8),(295,A52),(296,B84),(297,B08),(300,B32),(301,Bq4),(302,B20),(303,V1),(304,Bu8),(305,B15),(306,Bf6),(309,V7),(310,Es1),(311,Dz6),(312,Di8),(313,Dx4),(314,Ad0),(315,A91),(316,Ay5),(317,Db0),(318,B92),(321,Z1),(323,Bd3),(324,Ee1),(325,Eb2),(326,Bf9),(327,Eu3),(328,Eu0),(329,Eb4),(330,Da8),(331,Af1),(332,Aq1),(333,Ar9),(336,Ay1),(337,Bv1),(338,Dx7),(339,D00),(340,Ek5)]
def cutsOf:FuncId→Cuts:=Gr5 I09
noncomputable abbrev A3:D1:=NN.Call PR cutsOf
noncomputable abbrev E2:Aa4:=NN.Jump PR cutsOf
abbrev fK (f:FuncId) (fn:Func) (C:Cuts) (T:List Item) (n:Nat):Prop:=FnOk PR cutsOf f fn C T n
theorem fM {f : FuncId} {fn : Func} {C : Cuts} {T : List Item} {n : Nat} (a : PR.funcs[f]? = some fn) (b : ∃ c, fn.body = some c := by exact ⟨_, rfl⟩) (c : (fn.name == "runtime.NumGoroutine") = false := by kernel_rfl) (d : cutsOf f = C := by exact rfl) (e : A2 fn = T := by exact rfl) (g : Nat.ble n fn.ntmps = true := by kernel_rfl) : fK f fn C T n := ⟨a, b, c, d, e, g⟩
theorem B83:fK D6 Tryz.f4 A38 Bm1 4:=fM Tryz.func4
theorem An6:fK W8 Tryz.f8 B89 Dy4 1:=fM Tryz.func8
theorem Hc2:fK Bi6 Tryz.f9 Dn8 Ew5 0:=fM Tryz.func9
theorem Gj6:fK A53 Tryz.f10 Ec3 Gi2 2:=fM Tryz.func10
theorem Hw4:fK Bx2 Tryz.f12 Ed0 D93 4:=fM Tryz.func12
theorem Ec7:fK I9 Tryz.f13 A55 By1 2:=fM Tryz.func13
theorem Hf0:fK B02 Tryz.f14 Dn6 Ew8 0:=fM Tryz.func14
theorem Bu9:fK N5 Tryz.f15 A80 Bu6 1:=fM Tryz.func15
theorem D22:fK Ah8 Tryz.f16 B75 D08 1:=fM Tryz.func16
theorem Ey4:fK V3 Tryz.f17 Bk6 Dd2 1:=fM Tryz.func17
theorem Ig2:fK Dt6 Tryz.f18 Ek0 Gt6 3:=fM Tryz.func18
theorem Gg4:fK Ac2 Tryz.f19 Ea7 Gi6 2:=fM Tryz.func19
theorem Eq8:fK Ah7 Tryz.f20 Bg8 B54 2:=fM Tryz.func20
theorem Ae3:fK D0 Tryz.f21 Ae1 Ap6 1:=fM Tryz.func21
theorem Hy4:fK Dj1 Tryz.f22 D92 Gj1 3:=fM Tryz.func22
theorem Dk1:fK Ab8 Tryz.f23 Dj6 Ee0 2:=fM Tryz.func23
theorem Ht9:fK Bp1 Tryz.f33 Dz3 E43 1:=fM Tryz.func33
theorem Hq1:fK B64 Tryz.f34 D12 E80 0:=fM Tryz.func34
theorem Bv7:fK N7 Tryz.f35 A64 Bv9 1:=fM Tryz.func35
theorem G31:fK V0 Tryz.f36 Df2 Eg2 3:=fM Tryz.func36
theorem Eh7:fK Ae6 Tryz.f37 Dg8 Ef6 3:=fM Tryz.func37
theorem He9:fK Bh5 Tryz.f38 Dp6 Ev3 0:=fM Tryz.func38
theorem Ge0:fK Aq9 Tryz.f39 Bv2 Dq1 1:=fM Tryz.func39
theorem Hy6:fK Q8 Tryz.f40 Ea4 Gh1 1:=fM Tryz.func40
theorem Ed4:fK Aw0 Tryz.f41 Dj5 D98 1:=fM Tryz.func41
theorem Ax6:fK G7 Tryz.f42 Bb4 Bo2 2:=fM Tryz.func42
theorem H16:fK Av6 Tryz.f43 Ec6 Gj0 2:=fM Tryz.func43
theorem Dt7:fK V4 Tryz.f44 As1 Bl8 3:=fM Tryz.func44
theorem Ar5:fK L7 Tryz.f50 Af5 As0 3:=fM Tryz.func50
theorem G32:fK Aw2 Tryz.f51 Dg9 Ee8 1:=fM Tryz.func51
theorem G46:fK Aw3 Tryz.f52 Dg3 Ei1 1:=fM Tryz.func52
theorem H66:fK Bc2 Tryz.f53 Es5 Gq6 1:=fM Tryz.func53
theorem En7:fK Ai1 Tryz.f54 Du5 En1 1:=fM Tryz.func54
theorem G10:fK I2 Tryz.f55 De6 Ej1 2:=fM Tryz.func55
theorem Gr2:fK Aa9 Tryz.f56 B59 D50 2:=fM Tryz.func56
theorem Eq7:fK Ah5 Tryz.f57 Bg4 Bd8 2:=fM Tryz.func57
theorem Eo7:fK Ai4 Tryz.f58 Bf0 Bd7 3:=fM Tryz.func58
theorem Ep9:fK Ag8 Tryz.f59 Bg5 Bc4 2:=fM Tryz.func59
theorem Et6:fK Y9 Tryz.f60 Bf4 Bg2 4:=fM Tryz.func60
theorem En0:fK L5 Tryz.f66 Be0 Da6 2:=fM Tryz.func66
theorem P5:fK B8 Tryz.f67 U8 Ac3 1:=fM Tryz.func67
theorem G38:fK A94 Tryz.f68 Df4 Ef8 3:=fM Tryz.func68
theorem Ea0:fK U7 Tryz.f69 A42 By4 2:=fM Tryz.func69
theorem Dp0:fK O2 Tryz.f71 Aq2 Bi4 2:=fM Tryz.func71
theorem D19:fK Ag5 Tryz.f72 Da3 D17 2:=fM Tryz.func72
theorem Hd2:fK Bh7 Tryz.f73 Do8 Ew3 2:=fM Tryz.func73
theorem Ge8:fK A74 Tryz.f74 Bv4 Dq7 1:=fM Tryz.func74
theorem Eb1:fK U9 Tryz.f80 A50 Bw1 2:=fM Tryz.func80
theorem Eb0:fK An2 Tryz.f82 A48 Bw7 2:=fM Tryz.func82
theorem Du2:fK Af4 Tryz.f84 At0 Bm5 3:=fM Tryz.func84
theorem Dn2:fK N3 Tryz.f90 Ao0 Bb8 2:=fM Tryz.func90
theorem Ax5:fK J6 Tryz.f100 A90 Bp8 1:=fM Tryz.func100
theorem At5:fK I5 Tryz.f101 Be9 Bs2 1:=fM Tryz.func101
theorem Am0:fK G5 Tryz.f102 Aw1 Ba7 1:=fM Tryz.func102
theorem Hf2:fK Bz5 Tryz.f103 Dp2 Ev8 2:=fM Tryz.func103
theorem E13:fK A09 Tryz.f104 Bp2 Dl7 2:=fM Tryz.func104
theorem Ge1:fK A66 Tryz.f105 Bu5 Dr2 3:=fM Tryz.func105
theorem E36:fK A07 Tryz.f106 Bn4 Dm5 3:=fM Tryz.func106
theorem Ex8:fK Az1 Tryz.f107 Bj6 Dd7 5:=fM Tryz.func107
theorem Eo4:fK As7 Tryz.f108 Bf2 Db1 5:=fM Tryz.func108
theorem E58:fK Ae5 Tryz.f117 Bn6 Dn3 1:=fM Tryz.func117
theorem G51:fK A82 Tryz.f118 Dh6 Eh9 1:=fM Tryz.func118
theorem D35:fK O1 Tryz.f119 Az9 Bu2 4:=fM Tryz.func119
theorem D96:fK P6 Tryz.f123 A51 By2 2:=fM Tryz.func123
theorem He1:fK Aq6 Tryz.f124 Do9 Ew6 1:=fM Tryz.func124
theorem Hd8:fK Bh9 Tryz.f125 Do4 Ev1 0:=fM Tryz.func125
theorem Dc9:fK W1 Tryz.f126 Aj2 A58 2:=fM Tryz.func126
theorem Hx6:fK Af8 Tryz.f127 Eb8 Gi0 1:=fM Tryz.func127
theorem Et4:fK Z0 Tryz.f128 Be2 B99 2:=fM Tryz.func128
theorem El9:fK At2 Tryz.f129 Bf1 B63 2:=fM Tryz.func129
theorem U2:fK D2 Tryz.f136 Z4 Ah9 1:=fM Tryz.func136
theorem El8:fK At3 Tryz.f140 Be6 B95 2:=fM Tryz.func140
theorem Ea3:fK An5 Tryz.f143 A44 Bx1 1:=fM Tryz.func143
theorem D36:fK Ak8 Tryz.f144 Az7 Bt6 1:=fM Tryz.func144
theorem Hi4:fK Bo1 Tryz.f145 Dx2 Ez2 3:=fM Tryz.func145
theorem Bi1:fK H1 Tryz.f146 Aq3 Bh8 1:=fM Tryz.func146
theorem D30:fK Ak7 Tryz.f148 Az8 Bt7 2:=fM Tryz.func148
theorem As8:fK L1 Tryz.f157 Af3 Au0 3:=fM Tryz.func157
theorem G39:fK Bb1 Tryz.f158 De1 Ej4 1:=fM Tryz.func158
theorem G24:fK Aw4 Tryz.f159 Dh7 Ei9 1:=fM Tryz.func159
theorem Ar6:fK I7 Tryz.f160 Ae7 As5 3:=fM Tryz.func160
theorem G59:fK Bs4 Tryz.f161 Dh2 Eh0 1:=fM Tryz.func161
theorem Hc3:fK Aq5 Tryz.f162 Do0 Ew2 1:=fM Tryz.func162
theorem Hc5:fK B01 Tryz.f163 Dn7 Ew0 1:=fM Tryz.func163
theorem G41:fK Bb3 Tryz.f164 Dg4 Ei6 1:=fM Tryz.func164
theorem Ax4:fK H9 Tryz.f165 Ah4 Aw6 2:=fM Tryz.func165
theorem Eh6:fK Ap4 Tryz.f175 A92 B48 1:=fM Tryz.func175
theorem Ec4:fK Ac6 Tryz.f176 A54 By6 2:=fM Tryz.func176
theorem El6:fK Ar4 Tryz.f183 Bf5 B78 1:=fM Tryz.func183
theorem Bp3:fK U5 Tryz.f190 Bo0 B79 1:=fM Tryz.func190
theorem Hc9:fK Bg9 Tryz.f191 Do7 Eu8 1:=fM Tryz.func191
theorem D28:fK Y2 Tryz.f192 Ax2 Bq0 1:=fM Tryz.func192
theorem Ip4:fK D42 Tryz.f193 E17 Ha8 1:=fM Tryz.func193
theorem Ek9:fK A25 Tryz.f194 Dr8 Em6 1:=fM Tryz.func194
theorem Ed2:fK Av2 Tryz.f195 Di4 D99 1:=fM Tryz.func195
theorem Hs4:fK Da7 Tryz.f196 Dx6 E70 2:=fM Tryz.func196
theorem If5:fK Dt8 Tryz.f197 En8 Gx5 1:=fM Tryz.func197
theorem Em9:fK At8 Tryz.f198 Bf3 B91 3:=fM Tryz.func198
theorem Bj7:fK P8 Tryz.f199 Ay7 Bk3 2:=fM Tryz.func199
theorem Gl3:fK Bf8 Tryz.f200 B24 D11 3:=fM Tryz.func200
theorem B57:fK Ab1 Tryz.f201 Bm8 B94 1:=fM Tryz.func201
theorem Bn5:fK O9 Tryz.f202 A10 Bn3 2:=fM Tryz.func202
theorem Db6:fK Ab0 Tryz.f203 Bm2 Db3 1:=fM Tryz.func203
theorem G34:fK Bs8 Tryz.f204 De3 Eh1 1:=fM Tryz.func204
theorem E28:fK A24 Tryz.f205 Bn9 Dl1 3:=fM Tryz.func205
theorem E77:fK Bb5 Tryz.f206 D89 E20 2:=fM Tryz.func206
theorem Gm8:fK Bc0 Tryz.f207 B07 D26 3:=fM Tryz.func207
theorem Gg0:fK Ar0 Tryz.f208 Bv8 Dr3 1:=fM Tryz.func208
theorem E07:fK Ao4 Tryz.f209 Bn0 Dm2 2:=fM Tryz.func209
theorem Gm9:fK Bc1 Tryz.f210 B14 Dz1 2:=fM Tryz.func210
theorem Ef9:fK Ae0 Tryz.f211 A85 B41 5:=fM Tryz.func211
theorem Ec5:fK Ab7 Tryz.f212 A40 Bx6 5:=fM Tryz.func212
theorem Ee9:fK Ap7 Tryz.f213 A97 B45 7:=fM Tryz.func213
theorem E30:fK A17 Tryz.f214 Bp7 Dl8 7:=fM Tryz.func214
theorem Ey6:fK Ay8 Tryz.f216 Bk8 Dd6 2:=fM Tryz.func216
theorem Ez5:fK A18 Tryz.f217 Bq1 Dn4 3:=fM Tryz.func217
theorem Gf2:fK A75 Tryz.f218 Bv5 Dq2 3:=fM Tryz.func218
theorem Gf0:fK A78 Tryz.f219 Bv0 Dq0 3:=fM Tryz.func219
theorem El3:fK Ah2 Tryz.f220 Be8 B65 6:=fM Tryz.func220
theorem Go5:fK Be5 Tryz.f221 B28 D25 3:=fM Tryz.func221
theorem Go9:fK Am4 Tryz.f222 B22 D29 2:=fM Tryz.func222
theorem Hd7:fK Aj0 Tryz.f223 Dp4 Ex1 3:=fM Tryz.func223
theorem Go3:fK Be4 Tryz.f224 B26 Dz5 3:=fM Tryz.func224
theorem Dc1:fK W7 Tryz.f231 Aj6 A61 2:=fM Tryz.func231
theorem D32:fK S8 Tryz.f232 A00 Bu1 2:=fM Tryz.func232
theorem Bw0:fK R0 Tryz.f233 Ab9 Av5 2:=fM Tryz.func233
theorem Gw3:fK Ah0 Tryz.f234 B71 D81 1:=fM Tryz.func234
theorem Em5:fK Ar8 Tryz.f235 Bc9 B51 3:=fM Tryz.func235
theorem I3:fK P3 Tryz.f236 Bj4 Bx5 2:=fM Tryz.func236
theorem P2:fK Y7 Tryz.f237 By5 Di3 1:=fM Tryz.func237
theorem Er2:fK U4 Tryz.f238 Bg3 B97 2:=fM Tryz.func238
theorem Bb2:fK O5 Tryz.f239 A99 Bt5 1:=fM Tryz.func239
theorem Ek6:fK Z2 Tryz.f240 Bg7 B55 3:=fM Tryz.func240
theorem G61:fK Bs5 Tryz.f241 De4 Eg9 1:=fM Tryz.func241
theorem G14:fK Br6 Tryz.f242 Df9 Eh3 1:=fM Tryz.func242
theorem Dg6:fK Ad6 Tryz.f244 Bq6 Df7 1:=fM Tryz.func244
theorem H79:fK Q2 Tryz.f246 Es8 Gr0 3:=fM Tryz.func246
theorem Be7:fK U3 Tryz.f247 Au8 Bd2 3:=fM Tryz.func247
theorem Gg2:fK Ai5 Tryz.f248 Bv3 Dr1 1:=fM Tryz.func248
theorem Az5:fK E7 Tryz.f261 Af7 Az3 2:=fM Tryz.func261
theorem Hb8:fK Bh6 Tryz.f269 Dn5 Ew9 0:=fM Tryz.func269
theorem Dc8:fK W2 Tryz.f270 Aj7 A60 2:=fM Tryz.func270
theorem Hh1:fK Bo6 Tryz.f271 Dx0 E71 0:=fM Tryz.func271
theorem Dc3:fK W6 Tryz.f272 Aj9 A59 2:=fM Tryz.func272
theorem Dc2:fK W4 Tryz.f273 Aj5 A56 2:=fM Tryz.func273
theorem Dc6:fK W5 Tryz.f274 Aj8 A57 2:=fM Tryz.func274
theorem Ih7:fK D66 Tryz.f276 E59 G80 1:=fM Tryz.func276
theorem Ba8:fK G0 Tryz.f280 Ap3 Ba4 2:=fM Tryz.func280
theorem Dh3:fK Ad5 Tryz.f281 Bq8 Dg0 1:=fM Tryz.func281
theorem G06:fK Br0 Tryz.f282 De9 Ef2 1:=fM Tryz.func282
theorem Ep4:fK At7 Tryz.f283 Bc6 Da9 1:=fM Tryz.func283
theorem G18:fK H4 Tryz.f285 De0 Eg3 2:=fM Tryz.func285
theorem Hu5:fK B77 Tryz.f286 Dz9 E31 2:=fM Tryz.func286
theorem Bk5:fK Q0 Tryz.f287 Az0 Bk7 1:=fM Tryz.func287
theorem G45:fK Ba6 Tryz.f288 Dh0 Eh5 1:=fM Tryz.func288
theorem E24:fK Ao1 Tryz.f289 Bn7 Dl2 1:=fM Tryz.func289
theorem Gy2:fK Ah1 Tryz.f290 B81 D60 2:=fM Tryz.func290
theorem Go4:fK Ax9 Tryz.f291 B25 Dx3 3:=fM Tryz.func291
theorem Db8:fK Ab2 Tryz.f292 Bk9 B82 1:=fM Tryz.func292
theorem Ao9:fK G2 Tryz.f293 Aa5 Ao5 1:=fM Tryz.func293
theorem B23:fK S9 Tryz.f294 Bc8 B06 1:=fM Tryz.func294
theorem D95:fK Ac0 Tryz.f295 A52 By3 6:=fM Tryz.func295
theorem Gq4:fK Bl6 Tryz.f296 B84 D67 3:=fM Tryz.func296
theorem Gm2:fK Ay2 Tryz.f297 B08 Dy3 3:=fM Tryz.func297
theorem Gl0:fK Al9 Tryz.f300 B32 Dy2 2:=fM Tryz.func300
theorem E95:fK A08 Tryz.f301 Bq4 Dl6 3:=fM Tryz.func301
theorem Gk8:fK Aw9 Tryz.f302 B20 D27 3:=fM Tryz.func302
theorem Aa2:fK B5 Tryz.f303 V1 Aa1 3:=fM Tryz.func303
theorem Gf6:fK A73 Tryz.f304 Bu8 Dp9 3:=fM Tryz.func304
theorem Gm1:fK Bc7 Tryz.f305 B15 Dy5 2:=fM Tryz.func305
theorem B16:fK Y4 Tryz.f306 Bf6 B09 1:=fM Tryz.func306
theorem Af9:fK G3 Tryz.f309 V7 Ai3 2:=fM Tryz.func309
theorem Ig5:fK Ds9 Tryz.f310 Es1 Gq8 1:=fM Tryz.func310
theorem Hl8:fK Bo9 Tryz.f311 Dz6 E57 3:=fM Tryz.func311
theorem Ea5:fK Ac1 Tryz.f312 Di8 Ee4 1:=fM Tryz.func312
theorem Ho1:fK B96 Tryz.f313 Dx4 E32 2:=fM Tryz.func313
theorem Aq4:fK B9 Tryz.f314 Ad0 Aq7 2:=fM Tryz.func314
theorem Ef5:fK Ap0 Tryz.f315 A91 B34 2:=fM Tryz.func315
theorem Bk4:fK Q1 Tryz.f316 Ay5 Bk2 2:=fM Tryz.func316
theorem D01:fK Ac5 Tryz.f317 Db0 Dw9 1:=fM Tryz.func317
theorem Gr6:fK Ai0 Tryz.f318 B92 D48 1:=fM Tryz.func318
theorem L9:fK D9 Tryz.f321 Z1 Al5 2:=fM Tryz.func321
theorem Ep0:fK At6 Tryz.f323 Bd3 Db9 3:=fM Tryz.func323
theorem Hu7:fK Au9 Tryz.f324 Ee1 Gi5 2:=fM Tryz.func324
theorem Hx2:fK Av9 Tryz.f325 Eb2 Gj2 1:=fM Tryz.func325
theorem Et0:fK Au4 Tryz.f326 Bf9 B72 3:=fM Tryz.func326
theorem Id8:fK Bt2 Tryz.f327 Eu3 Gw4 2:=fM Tryz.func327
theorem Id9:fK Bs7 Tryz.f328 Eu0 Gy0 1:=fM Tryz.func328
theorem Hu8:fK Av4 Tryz.f329 Eb4 Gi9 2:=fM Tryz.func329
theorem Gu0:fK Bm3 Tryz.f330 Da8 D79 2:=fM Tryz.func330
theorem Au6:fK I6 Tryz.f331 Af1 Au7 2:=fM Tryz.func331
theorem Do2:fK O4 Tryz.f332 Aq1 Bi7 2:=fM Tryz.func332
theorem Ds8:fK Af2 Tryz.f333 Ar9 Bl2 2:=fM Tryz.func333
theorem Dy0:fK Ag4 Tryz.f336 Ay1 Bp5 2:=fM Tryz.func336
theorem Gf5:fK A72 Tryz.f337 Bv1 Dq9 3:=fM Tryz.func337
theorem Hj6:fK Ao7 Tryz.f338 Dx7 E73 2:=fM Tryz.func338
theorem Hr8:fK Bo5 Tryz.f339 D00 E29 1:=fM Tryz.func339
theorem Ic0:fK Ds6 Tryz.f340 Ek5 Gu8 1:=fM Tryz.func340
end
end Go.EQ

namespace Go.EQ
open Go Go.NN Go.Proofs
theorem Ga3:type_of% Tryz.underlying3:=Tryz.underlying3
theorem Jb8:type_of% Tryz.underlying4:=Tryz.underlying4
theorem I39:type_of% Tryz.underlying5:=Tryz.underlying5
theorem H26:type_of% Tryz.underlying22:=Tryz.underlying22
theorem Gu5:type_of% Tryz.underlying46:=Tryz.underlying46
end Go.EQ
