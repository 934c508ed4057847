/- A process whose own record is bad is told EIO whatever it asks, and nobody's record is changed by it. -/
import Derived.Test.YtoegoalficgneaaGreatMd
import Derived.KernelRfl
set_option linter.all false
set_option maxRecDepth 100000
namespace Go.EQ
open Go Go.NN Go.Proofs
open Go.IntKind (wrap)
open Go.Addr (add)
variable (C:D1) (R:Aa5) (fv0 p x4:Addr) (grown more:Bool) (h:H) (a atv e env envs f fd first g hi i n name root slot stamp v want who x10 x24 x45 x46 x86 x87:Int) (r x:List Value) (bc bn datac datan foundc foundn lc ln outc outn sc sn x44c x44n x85c x85n:Nat) (b c data found k l m out q s t x44 x85:Option Addr) (of:Option Nat) (cmp isv:Value)
noncomputable section
def D93:Cuts:=⟨0,[],[],[]⟩
def Gh2:List Item:=A2 Tryz.f10
theorem Gj6 :
 xQ D93 C R A49 Tryz.f10 Gh2 [(0,.pointer c),(1,iI i)] h =
 nw (.cells O6 false [iI 0,iI 0,.slice none 0 0,.bool false]) h fun b w=>bnd (C Ac3 [.pointer c,iI i] w) fun r w1=>as2 r fun q1 q2=>aAgg q1 fun x=>aInt .i64 q2 fun z1=>nw (.cells B1 false zZ1) w1 fun p1 w2=>ck (List.length x=16) (pAgg ⟨p1,0,none⟩ x w2 fun w3=>cond (z1 != 0)
 (bnd (C Q9 [iI z1] w3) fun q3 w4=>aAgg q3 fun z2=>ck (List.length z2=4) (pAgg ⟨b,0,none⟩ z2 w4 fun w5=>gAgg ⟨b,0,none⟩ 4 w5 fun z3=>some (.agg ⟨z3⟩,w5)))
 (bnd (C Av0 [.pointer c] w3) fun q4 w6=>aInt .i64 q4 fun z4=>cond (decide (z4<0))
 (bnd (C Q9 [iI 111] w6) fun q5 w7=>aAgg q5 fun z5=>ck (List.length z5=4) (pAgg ⟨b,0,none⟩ z5 w7 fun w8=>gAgg ⟨b,0,none⟩ 4 w8 fun z6=>some (.agg ⟨z6⟩,w8)))
 (gAgg ⟨p1,0,none⟩ 16 w6 fun z7=>bnd (C G6 [.pointer c,.agg ⟨z7⟩] w6) fun q6 w9=>aInt .i64 q6 fun z8=>cond (z8 != 0)
 (bnd (C Q9 [iI z8] w9) fun q7 w10=>aAgg q7 fun z9=>ck (List.length z9=4) (pAgg ⟨b,0,none⟩ z9 w10 fun w11=>gAgg ⟨b,0,none⟩ 4 w11 fun z10=>some (.agg ⟨z10⟩,w11)))
 (pV ⟨p1,1,none⟩ (iI (wrap .i64 (i+1))) w9 fun w12=>pV ⟨p1,4,none⟩ (iI 0) w12 fun w13=>gAgg ⟨p1,0,none⟩ 16 w13 fun z11=>bnd (C V5 [.pointer c,iI z4,.agg ⟨z11⟩] w13) fun q8 w14=>aBool q8 fun z12=>bnd (C Av4 [.bool z12,iI z4] w14) fun q9 w15=>aAgg q9 fun z13=>ck (List.length z13=4) (pAgg ⟨b,0,none⟩ z13 w15 fun w16=>gAgg ⟨b,0,none⟩ 4 w16 fun z14=>some (.agg ⟨z14⟩,w16)))))):=kR
def A75:Cuts:=⟨0,[(4,[1,3,4])],[],[(2,⟨[0,1,2,5,6,9,10,13,14,3,4,7,8,11,12,15,16,17],[0,0,2,6,15,0,32,110,255,0,512,1774,4095,0,8192,28398,65535,131071],[(3,[6,10,14]),(7,[10,14]),(11,[14])],[]⟩)]⟩
def Bv9:List Item:=A2 Tryz.f15
def As2:List Item:=stk [0,1,0,1,0,1,0,0,1,4,5] Bv9
theorem Gf4 (p:List Value) :
 xQ A75 C R N6 Tryz.f15 Bv9 [(0,.agg ⟨p⟩)] h =
 nw (.cells B1 false p) h fun b w=>gInt .i64 ⟨b,0,none⟩ w fun x=>gInt .i64 ⟨b,1,none⟩ w fun z1=>gInt .i64 ⟨b,2,none⟩ w fun z2=>gInt .i64 ⟨b,3,none⟩ w fun z3=>nw (.cells A1 false [.int .u8 (wrap .u8 (x)),.int .u8 (wrap .u8 (z1)),.int .u8 (wrap .u8 (z2)),.int .u8 (wrap .u8 (z3))]) w fun p1 w1=>gCells (some ⟨p1,0,none⟩) 4 w1 fun cs=>asBytes cs fun l=>gInt .i64 ⟨b,4,none⟩ w1 fun z4=>gInt .i64 ⟨b,5,none⟩ w1 fun z5=>gInt .i64 ⟨b,6,none⟩ w1 fun z6=>gInt .i64 ⟨b,7,none⟩ w1 fun z7=>bnd (C Be6 [iI z4] w1) fun r w2=>aStr r fun z8=>gInt .i64 ⟨b,5,none⟩ w2 fun z9=>same (iI z5) (iI z9) (gInt .i64 ⟨b,6,none⟩ w2 fun z10=>same (iI z6) (iI z10) (gInt .i64 ⟨b,7,none⟩ w2 fun z11=>same (iI z7) (iI z11) (ck (ByteArray.size (ByteArray.mk ⟨l⟩)+ByteArray.size z8≤A5) (bnd (C Be6 [iI z5] w2) fun q1 w3=>aStr q1 fun z12=>gInt .i64 ⟨b,6,none⟩ w3 fun z13=>same (iI z6) (iI z13) (gInt .i64 ⟨b,7,none⟩ w3 fun z14=>same (iI z7) (iI z14) (ck (ByteArray.size ((ByteArray.mk ⟨l⟩)++z8)+ByteArray.size z12≤A5) (bnd (C Be6 [iI z6] w3) fun q2 w4=>aStr q2 fun z15=>gInt .i64 ⟨b,7,none⟩ w4 fun z16=>same (iI z7) (iI z16) (ck (ByteArray.size (((ByteArray.mk ⟨l⟩)++z8)++z12)+ByteArray.size z15≤A5) (bnd (C Be6 [iI z7] w4) fun q3 w5=>aStr q3 fun z17=>ck (ByteArray.size ((((ByteArray.mk ⟨l⟩)++z8)++z12)++z15)+ByteArray.size z17≤A5) (R N6 As2 [(1,pP b),(3,.string (((((ByteArray.mk ⟨l⟩)++z8)++z12)++z15)++z17)),(4,iI 0)] w5)))))))))):=kR
theorem B74 (s:ByteArray) :
 xQ A75 C R N6 Tryz.f15 As2 [(1,.pointer (some p)),(3,.string s),(4,iI i)] h =
 cond (decide (i<8))
 (ck ((0:Int)≤i∧i<((8:Nat):Int)) (gInt .i64 (add (add p 8) (Int.toNat i*1)) h fun x=>nw (.cells A1 false [.int .u8 (wrap .u8 (x))]) h fun b w=>gCells (some ⟨b,0,none⟩) 1 w fun cs=>asBytes cs fun l=>ck (ByteArray.size s+ByteArray.size (ByteArray.mk ⟨l⟩)≤A5) (R N6 As2 [(1,.pointer (some p)),(3,.string (s++(ByteArray.mk ⟨l⟩))),(4,iI (wrap .i64 (i+1)))] w)))
 (ck (ByteArray.size s+ByteArray.size (ByteArray.mk ⟨[167]⟩)≤A5) (bnd (C Ag7 [.string (s++(ByteArray.mk ⟨[167]⟩))] h) fun r w1=>aInt .u8 r fun z1=>nw (.cells A1 false [.int .u8 z1,.int .u8 0,.int .u8 0]) w1 fun p1 w2=>gCells (some ⟨p1,0,none⟩) 3 w2 fun cs_1=>asBytes cs_1 fun l_1=>ck (ByteArray.size (s++(ByteArray.mk ⟨[167]⟩))+ByteArray.size (ByteArray.mk ⟨l_1⟩)≤A5) (some (.string ((s++(ByteArray.mk ⟨[167]⟩))++(ByteArray.mk ⟨l_1⟩)),w2)))):=kR
def B51:Cuts:=⟨0,[(13,[2,4,6,7])],[],[(7,⟨[0,4,5,1,2,3,6,7,8],[0,1,3,7,0,16,63,127,255],[(1,[5])],[]⟩)]⟩
def Dw3:List Item:=A2 Tryz.f16
def A33:List Item:=stk [0,1,0,1,0,1,0,1,0,1,0,1,0,1,0,1,0,1,0,1,0,0,1,4,5] Dw3
theorem Hh1 :
 xQ B51 C R Ag5 Tryz.f16 Dw3 [(0,.slice l ln lc)] h =
 nw (.cells L0 false [.slice l ln lc]) h fun b w=>nw (.cells B1 false zZ1) w fun p1 w1=>nw (.cells B2 false [iI 0]) w1 fun p2 w2=>pV ⟨p2,0,none⟩ (iI 0) w2 fun w3=>bnd (C I2 [pP p2,pP b] w3) fun r w4=>aInt .i64 r fun x=>nw (.cells B2 false [iI 1,iI 1,iI 3,iI 2]) w4 fun p3 w5=>ck ((0:Int)≤B4 .i64 x 3∧B4 .i64 x 3<((4:Nat):Int)) (gInt .i64 (add (B0 ⟨p3,0,none⟩) (Int.toNat (B4 .i64 x 3)*1)) w5 fun z1=>nw (.cells B1 false zZ1) w5 fun p4 w6=>pAgg ⟨p4,0,none⟩ [iI z1,iI (Int.tmod (B4 .i64 (Int.fdiv x (2 ^ 2)) 15) 9),iI (B4 .i64 (Int.fdiv x (2 ^ 6)) 7),iI 0,iI 0,iI 0,iI 0,iI 0,iI 0,iI 0,iI 0,iI 0,iI 0,iI 0,iI 0,iI 0] w6 fun w7=>bnd (C I2 [pP p2,pP b] w7) fun q1 w8=>aInt .i64 q1 fun z2=>pV ⟨p4,5,none⟩ (iI (Q6 .i64 (B4 .i64 z2 65534) 16896)) w8 fun w9=>bnd (C I2 [pP p2,pP b] w9) fun q2 w10=>aInt .i64 q2 fun z3=>bnd (C I2 [pP p2,pP b] w10) fun q3 w11=>aInt .i64 q3 fun z4=>pV ⟨p4,6,none⟩ (iI (Q6 .i64 (B4 .i64 (B4 .i64 z3 z4) 65534) 16896)) w11 fun w12=>gInt .i64 ⟨p4,6,none⟩ w12 fun z5=>bnd (C I2 [pP p2,pP b] w12) fun q4 w13=>aInt .i64 q4 fun z6=>gInt .i64 ⟨p4,6,none⟩ w13 fun z7=>same (iI z5) (iI z7) (pV ⟨p4,7,none⟩ (iI (Q6 .i64 (Q6 .i64 (B4 .i64 z6 65534) 16896) z5)) w13 fun w14=>gInt .i64 ⟨p4,0,none⟩ w14 fun z8=>cond (z8==2)
 (pV ⟨p4,3,none⟩ (iI (B4 .i64 (Int.fdiv x (2 ^ 9)) 255)) w14 fun w15=>gAgg ⟨p4,0,none⟩ 16 w15 fun z9=>ck (List.length z9=16) (pAgg ⟨p1,0,none⟩ z9 w15 fun w16=>gAgg ⟨p1,0,none⟩ 16 w16 fun z10=>some (.agg ⟨z10⟩,w16)))
 (bnd (C I2 [pP p2,pP b] w14) fun q5 w17=>aInt .i64 q5 fun z11=>bnd (C I2 [pP p2,pP b] w17) fun q6 w18=>aInt .i64 q6 fun z12=>pV ⟨p4,4,none⟩ (iI (B4 .i64 (B4 .i64 z11 z12) 65534)) w18 fun w19=>R Ag5 A33 [(2,pP p1),(4,.func (.func I2) ⟨[]⟩ ⟨[pP p2,pP b]⟩),(6,pP p4),(7,iI 0)] w19))):=kR
theorem D66 (x2:Addr) (next:Addr) (next_1:Addr) :
 xQ B51 C R Ag5 Tryz.f16 A33 [(2,.pointer (some x2)),(4,.func (.func I2) ⟨[]⟩ ⟨[.pointer (some next),.pointer (some next_1)]⟩),(6,.pointer (some p)),(7,iI i)] h =
 cond (decide (i<8))
 (bnd (C I2 [.pointer (some next),.pointer (some next_1)] h) fun r w=>aInt .i64 r fun x=>cond ((B4 .i64 x 3) != 0)
 (ck ((0:Int)≤i∧i<((8:Nat):Int)) (pV (add (add p 8) (Int.toNat i*1)) (iI (Int.tmod (Int.fdiv x (2 ^ 2)) 13)) w fun w1=>R Ag5 A33 [(2,.pointer (some x2)),(4,.func (.func I2) ⟨[]⟩ ⟨[.pointer (some next),.pointer (some next_1)]⟩),(6,.pointer (some p)),(7,iI (wrap .i64 (i+1)))] w1))
 (R Ag5 A33 [(2,.pointer (some x2)),(4,.func (.func I2) ⟨[]⟩ ⟨[.pointer (some next),.pointer (some next_1)]⟩),(6,.pointer (some p)),(7,iI (wrap .i64 (i+1)))] w))
 (gAgg p 16 h fun z1=>ck (List.length z1=16) (pAgg x2 z1 h fun w2=>gAgg x2 16 w2 fun z2=>some (.agg ⟨z2⟩,w2))):=kR
def Ep2:Cuts:=⟨0,[],[],[(3,⟨[0,1,2,4,5,6,3,7,8,9],[0,0,2,7,0,0,32,127,255,511],[(3,[6])],[]⟩),(5,⟨[0,1,2,3,4,6,7,8,9,10,5,11,12,13],[0,0,2,0,8,31,0,0,128,0,512,2047,4095,8191],[(5,[8,10])],[]⟩),(7,⟨[0,1,2,4,5,6,3,7,8,9],[0,0,2,7,0,0,32,127,255,511],[(3,[6])],[]⟩),(9,⟨[0,1,2,3,4,5,6,8,9,10,11,12,13,14,7,15,16,17],[0,0,2,0,8,0,32,127,0,0,512,0,2048,0,8192,32767,65535,131071],[(7,[10,12,14])],[]⟩),(11,⟨[0,1,2,3,4,5,6,8,9,10,11,12,13,14,7,15,16,17],[0,0,2,0,8,0,32,127,0,0,512,0,2048,0,8192,32767,65535,131071],[(7,[10,12,14])],[]⟩),(17,⟨[0,1,2,4,5,6,3,7,8,9],[0,0,2,7,0,0,32,127,255,511],[(3,[6])],[]⟩)]⟩
def Gq2:List Item:=A2 Tryz.f18
theorem Ib1 (o:List Value) :
 xQ Ep2 C R Dt8 Tryz.f18 Gq2 [(0,.pointer c),(1,.pointer m),(2,.agg ⟨o⟩)] h =
 nw (.cells A38 false o) h fun b w=>gInt .i64 ⟨b,0,none⟩ w fun x=>cond (x==0)
 (gInt .i64 ⟨b,1,none⟩ w fun z1=>gInt .i64 ⟨b,1,none⟩ w fun z2=>bnd (C A49 [.pointer c,iI z1] w) fun r w1=>aAgg r fun z3=>gInt .i64 ⟨b,1,none⟩ w1 fun z4=>same (iI z2) (iI z4) (bnd (C Ag4 [.pointer m,iI z2] w1) fun q1 w2=>aAgg q1 fun z5=>bnd (C Aa7 [.agg ⟨z3⟩,.agg ⟨z5⟩] w2) fun q2 w3=>aBool q2 fun z6=>some (.bool z6,w3)))
 (cond (x==1)
 (gInt .i64 ⟨b,1,none⟩ w fun z7=>gInt .i64 ⟨b,2,none⟩ w fun z8=>gInt .i64 ⟨b,1,none⟩ w fun z9=>gInt .i64 ⟨b,2,none⟩ w fun z10=>bnd (C Dk0 [.pointer c,iI z7,iI z8] w) fun q3 w4=>aAgg q3 fun z11=>gInt .i64 ⟨b,1,none⟩ w4 fun z12=>same (iI z9) (iI z12) (gInt .i64 ⟨b,2,none⟩ w4 fun z13=>same (iI z10) (iI z13) (bnd (C Ag1 [.pointer m,iI z9,iI z10] w4) fun q4 w5=>aAgg q4 fun z14=>bnd (C Aa7 [.agg ⟨z11⟩,.agg ⟨z14⟩] w5) fun q5 w6=>aBool q5 fun z15=>some (.bool z15,w6))))
 (cond (x==2)
 (gInt .i64 ⟨b,1,none⟩ w fun z16=>gInt .i64 ⟨b,1,none⟩ w fun z17=>bnd (C Ac4 [.pointer c,iI z16] w) fun q6 w7=>aAgg q6 fun z18=>gInt .i64 ⟨b,1,none⟩ w7 fun z19=>same (iI z17) (iI z19) (bnd (C Ag9 [.pointer m,iI z17] w7) fun q7 w8=>aAgg q7 fun z20=>bnd (C Aa7 [.agg ⟨z18⟩,.agg ⟨z20⟩] w8) fun q8 w9=>aBool q8 fun z21=>some (.bool z21,w9)))
 (cond (x==3)
 (gInt .i64 ⟨b,1,none⟩ w fun z22=>gInt .i64 ⟨b,2,none⟩ w fun z23=>gInt .i64 ⟨b,3,none⟩ w fun z24=>gInt .i64 ⟨b,1,none⟩ w fun z25=>gInt .i64 ⟨b,2,none⟩ w fun z26=>gInt .i64 ⟨b,3,none⟩ w fun z27=>bnd (C Bw5 [.pointer c,iI z22,iI z23,iI z24] w) fun q9 w10=>aAgg q9 fun z28=>gInt .i64 ⟨b,1,none⟩ w10 fun z29=>same (iI z25) (iI z29) (gInt .i64 ⟨b,2,none⟩ w10 fun z30=>same (iI z26) (iI z30) (gInt .i64 ⟨b,3,none⟩ w10 fun z31=>same (iI z27) (iI z31) (bnd (C Z3 [.pointer m,iI z25,iI z26,iI z27] w10) fun q10 w11=>aAgg q10 fun z32=>bnd (C Aa7 [.agg ⟨z28⟩,.agg ⟨z32⟩] w11) fun q11 w12=>aBool q11 fun z33=>some (.bool z33,w12)))))
 (cond (x==4)
 (gInt .i64 ⟨b,1,none⟩ w fun z34=>gInt .i64 ⟨b,2,none⟩ w fun z35=>gInt .i64 ⟨b,3,none⟩ w fun z36=>gInt .i64 ⟨b,1,none⟩ w fun z37=>gInt .i64 ⟨b,2,none⟩ w fun z38=>gInt .i64 ⟨b,3,none⟩ w fun z39=>bnd (C Hg8 [.pointer c,iI z34,iI z35,iI z36] w) fun q12 w13=>aAgg q12 fun z40=>gInt .i64 ⟨b,1,none⟩ w13 fun z41=>same (iI z37) (iI z41) (gInt .i64 ⟨b,2,none⟩ w13 fun z42=>same (iI z38) (iI z42) (gInt .i64 ⟨b,3,none⟩ w13 fun z43=>same (iI z39) (iI z43) (bnd (C Eg5 [.pointer m,iI z37,iI z38,iI z39] w13) fun q13 w14=>aAgg q13 fun z44=>bnd (C Aa7 [.agg ⟨z40⟩,.agg ⟨z44⟩] w14) fun q14 w15=>aBool q14 fun z45=>some (.bool z45,w15)))))
 (cond (x==5)
 (gInt .i64 ⟨b,1,none⟩ w fun z46=>bnd (C D44 [.pointer c,iI z46] w) fun q15 w16=>as0 q15 (gInt .i64 ⟨b,1,none⟩ w16 fun z47=>bnd (C Bn9 [.pointer m,iI z47] w16) fun q16 w17=>as0 q16 (some (.bool true,w17))))
 (cond (x==6)
 (gInt .i64 ⟨b,2,none⟩ w fun z48=>gInt .i64 ⟨b,2,none⟩ w fun z49=>bnd (C Gl3 [.pointer c,iI z48] w) fun q17 w18=>aInt .i64 q17 fun z50=>gInt .i64 ⟨b,2,none⟩ w18 fun z51=>same (iI z49) (iI z51) (bnd (C Ds8 [.pointer m,iI z49] w18) fun q18 w19=>aInt .i64 q18 fun z52=>some (.bool (z50==z52),w19)))
 (gInt .i64 ⟨b,1,none⟩ w fun z53=>bnd (C Ac3 [.pointer c,iI z53] w) fun q19 w20=>as2 q19 fun q20 q21=>aAgg q20 fun z54=>aInt .i64 q21 fun z55=>nw (.cells B1 false zZ1) w20 fun p1 w21=>ck (List.length z54=16) (pAgg ⟨p1,0,none⟩ z54 w21 fun w22=>gInt .i64 ⟨b,1,none⟩ w22 fun z56=>bnd (C L7 [.pointer m,iI z56] w22) fun q22 w23=>as2 q22 fun q23 q24=>aAgg q23 fun z57=>aInt .i64 q24 fun z58=>nw (.cells B1 false zZ1) w23 fun p2 w24=>ck (List.length z57=16) (pAgg ⟨p2,0,none⟩ z57 w24 fun w25=>gAgg ⟨p1,0,none⟩ 16 w25 fun z59=>gAgg ⟨p2,0,none⟩ 16 w25 fun z60=>A65 PR B1 z59 z60 fun eq=>bnd (cond eq (some (z55==z58,w25)) (some (false,w25))) fun c_1 w26=>some (.bool c_1,w26)))))))))):=kR
def Di1:Cuts:=⟨0,[(6,[0,4,7,23,24,25])],[],[(9,⟨[0,1,2,4,5,6,7,8,9,10,3,11,12],[0,0,2,7,0,16,48,0,128,384,1008,2047,4095],[(3,[5,9])],[]⟩)]⟩
def Ea1:List Item:=A2 Tryz.f23
def Bs9:List Item:=stk [0,1,0,1,0,1,0,0,1,4,5] Ea1
theorem Gg9 :
 xQ Di1 C R Ac4 Tryz.f23 Ea1 [(0,.pointer c),(1,iI i)] h =
 nw (.cells B2 false [iI i]) h fun b w=>nw (.cells O6 false [iI 0,iI 0,.slice none 0 0,.bool false]) w fun p1 w1=>gInt .i64 ⟨b,0,none⟩ w1 fun x=>bnd (C Ac3 [.pointer c,iI x] w1) fun r w2=>as2 r fun q1 q2=>aAgg q1 fun z1=>aInt .i64 q2 fun z2=>nw (.cells B1 false zZ1) w2 fun p2 w3=>ck (List.length z1=16) (pAgg ⟨p2,0,none⟩ z1 w3 fun w4=>cond (z2 != 0)
 (bnd (C Q9 [iI z2] w4) fun q3 w5=>aAgg q3 fun z3=>ck (List.length z3=4) (pAgg ⟨p1,0,none⟩ z3 w5 fun w6=>gAgg ⟨p1,0,none⟩ 4 w6 fun z4=>some (.agg ⟨z4⟩,w6)))
 (bnd (C Ag6 [.pointer c,.func (.func Bh1) ⟨[]⟩ ⟨[pP b]⟩] w4) fun q4 w7=>aSl q4 fun z5 xn xc=>R Ac4 Bs9 [(0,.pointer c),(4,pP p1),(7,.slice z5 xn xc),(23,.slice z5 xn xc),(24,iI (xn:Int)),(25,iI 0)] w7)):=kR
theorem Eh2 (x23:Option Addr) (x23n x23c:Nat) (x25:Int) :
 xQ Di1 C R Ac4 Tryz.f23 Bs9 [(0,.pointer c),(4,.pointer (some x4)),(7,.slice l ln lc),(23,.slice x23 x23n x23c),(24,iI x24),(25,iI x25)] h =
 cond (decide (x25<x24))
 (aSome x23 fun p=>ck ((0:Int)≤x25∧x25<(x23n:Int)) (gAgg (add (B0 p) (Int.toNat x25*17)) 17 h fun x=>nw (.cells Y6 false zZ2) h fun b w=>ck (List.length x=17) (pAgg ⟨b,0,none⟩ x w fun w1=>gAgg ⟨b,0,none⟩ 17 w1 fun z1=>bnd (C A67 [.agg ⟨z1⟩] w1) fun r w2=>aBool r fun z2=>cond (!z2)
 (gInt .i64 ⟨b,0,none⟩ w2 fun z3=>gInt .i64 ⟨b,0,none⟩ w2 fun z4=>gInt .i64 ⟨b,4,none⟩ w2 fun z5=>bnd (C O3 [.pointer c,iI z3] w2) fun q1 w3=>aBool q1 fun z6=>gInt .i64 ⟨b,0,none⟩ w3 fun z7=>same (iI z4) (iI z7) (gInt .i64 ⟨b,4,none⟩ w3 fun z8=>same (iI z5) (iI z8) (bnd (C Av4 [.bool z6,iI (wrap .i64 ((wrap .i64 (256*z4))+z5))] w3) fun q2 w4=>aAgg q2 fun z9=>ck (List.length z9=4) (pAgg x4 z9 w4 fun w5=>gAgg x4 4 w5 fun z10=>some (.agg ⟨z10⟩,w5)))))
 (R Ac4 Bs9 [(0,.pointer c),(4,.pointer (some x4)),(7,.slice l ln lc),(23,.slice x23 x23n x23c),(24,iI x24),(25,iI (wrap .i64 (x25+1)))] w2))))
 (cond ((ln:Int)==0)
 (bnd (C Q9 [iI 110] h) fun q3 w6=>aAgg q3 fun z11=>ck (List.length z11=4) (pAgg x4 z11 w6 fun w7=>gAgg x4 4 w7 fun z12=>some (.agg ⟨z12⟩,w7)))
 (pAgg x4 [iI 0,iI 0,.slice none 0 0,.bool true] h fun w8=>gAgg x4 4 w8 fun z13=>some (.agg ⟨z13⟩,w8))):=kR
def A73:Cuts:=⟨0,[(4,[1,3,4])],[],[]⟩
def Bu5:List Item:=A2 Tryz.f35
def Ar7:List Item:=stk [0,1,0,1,0,1,0,0,1,4,5] Bu5
theorem Ge0 (p:List Value) :
 xQ A73 C R N5 Tryz.f35 Bu5 [(0,.agg ⟨p⟩)] h =
 nw (.cells E4 false p) h fun b w=>gInt .i64 ⟨b,0,none⟩ w fun x=>gInt .i64 ⟨b,1,none⟩ w fun z1=>gInt .i64 ⟨b,2,none⟩ w fun z2=>gInt .i64 ⟨b,3,none⟩ w fun z3=>nw (.cells A1 false [.int .u8 1,.int .u8 (wrap .u8 (x)),.int .u8 (wrap .u8 (z1)),.int .u8 (wrap .u8 (z2)),.int .u8 (wrap .u8 (z3)),.int .u8 197]) w fun p1 w1=>gCells (some ⟨p1,0,none⟩) 6 w1 fun cs=>asBytes cs fun l=>bnd (C Ag7 [.string (ByteArray.mk ⟨l⟩)] w1) fun r w2=>aInt .u8 r fun z4=>nw (.cells A1 false [.int .u8 z4,.int .u8 0]) w2 fun p2 w3=>gCells (some ⟨p2,0,none⟩) 2 w3 fun cs_1=>asBytes cs_1 fun l_1=>ck (ByteArray.size (ByteArray.mk ⟨l⟩)+ByteArray.size (ByteArray.mk ⟨l_1⟩)≤A5) (R N5 Ar7 [(1,pP b),(3,.string ((ByteArray.mk ⟨l⟩)++(ByteArray.mk ⟨l_1⟩))),(4,iI 0)] w3):=kR
theorem B94 (s:ByteArray) :
 xQ A73 C R N5 Tryz.f35 Ar7 [(1,.pointer (some p)),(3,.string s),(4,iI i)] h =
 cond (decide (i<32))
 (ck ((0:Int)≤i∧i<((32:Nat):Int)) (gInt .u8 (add (add p 4) (Int.toNat i*1)) h fun x=>nw (.cells A1 false [.int .u8 x]) h fun b w=>gCells (some ⟨b,0,none⟩) 1 w fun cs=>asBytes cs fun l=>ck (ByteArray.size s+ByteArray.size (ByteArray.mk ⟨l⟩)≤A5) (R N5 Ar7 [(1,.pointer (some p)),(3,.string (s++(ByteArray.mk ⟨l⟩))),(4,iI (wrap .i64 (i+1)))] w)))
 (some (.string s,h)):=kR
def Df6:Cuts:=⟨0,[],[],[]⟩
def Ei3:List Item:=A2 Tryz.f52
theorem G20 :
 xQ Df6 C R Aw1 Tryz.f52 Ei3 [(0,.slice b bn bc)] h =
 nw (.cells B1 false zZ1) h fun p1 w=>bnd (cond ((bn:Int)==24) (bnd (C Aq5 [.slice b bn bc] w) fun r w1=>aBool r fun x=>some (x,w1)) (some (false,w))) fun c w2=>cond c
 (pAgg ⟨p1,0,none⟩ zZ1 w2 fun w3=>gAgg ⟨p1,0,none⟩ 16 w3 fun z1=>some (.tuple ⟨[.agg ⟨z1⟩,iI 0]⟩,w3))
 (bnd (C Bh7 [] w2) fun q1 w4=>aPtr q1 fun z2=>bnd (C W4 [.pointer z2,.slice b bn bc] w4) fun q2 w5=>as2 q2 fun q3 q4=>aAgg q3 fun z3=>aBool q4 fun z4=>nw (.cells B1 false zZ1) w5 fun p2 w6=>ck (List.length z3=16) (pAgg ⟨p2,0,none⟩ z3 w6 fun w7=>cond (!z4)
 (pAgg ⟨p1,0,none⟩ zZ1 w7 fun w8=>gAgg ⟨p1,0,none⟩ 16 w8 fun z5=>some (.tuple ⟨[.agg ⟨z5⟩,iI 2]⟩,w8))
 (gAgg ⟨p2,0,none⟩ 16 w7 fun z6=>ck (List.length z6=16) (pAgg ⟨p1,0,none⟩ z6 w7 fun w9=>gAgg ⟨p1,0,none⟩ 16 w9 fun z7=>some (.tuple ⟨[.agg ⟨z7⟩,iI 1]⟩,w9))))):=kR
def Dt3:Cuts:=⟨0,[(3,[0,3,4])],[],[]⟩
def Eu0:List Item:=A2 Tryz.f54
def Bz8:List Item:=stk [0,1,0,1,0,0,1,4,5] Eu0
theorem Ic7 (b:ByteArray) :
 xQ Dt3 C R Ag7 Tryz.f54 Eu0 [(0,.string b)] h =
 R Ag7 Bz8 [(0,.string b),(3,iI ((ByteArray.size b:Nat):Int)),(4,iI 0)] h:=kR
theorem Ev9 (b:ByteArray) :
 xQ Dt3 C R Ag7 Tryz.f54 Bz8 [(0,.string b),(3,iI n),(4,iI i)] h =
 cond (decide (i<((ByteArray.size b:Nat):Int)))
 (ck ((0:Int)≤i∧i<((ByteArray.size b:Nat):Int)) (R Ag7 Bz8 [(0,.string b),(3,iI (wrap .i64 (n+(wrap .i64 (((List.getD (ByteArray.data b).toList (Int.toNat i) 0).toNat:Int)))))),(4,iI (wrap .i64 (i+1)))] h))
 (some (.int .u8 (wrap .u8 (n)),h)):=kR
def Df5:Cuts:=⟨0,[],[],[]⟩
def Ee7:List Item:=A2 Tryz.f55
theorem G46 (fv1:Addr) :
 xQ Df5 C R I2 Tryz.f55 Ee7 [(0,.pointer (some fv0)),(1,.pointer (some fv1))] h =
 gInt .i64 fv0 h fun x=>pV fv0 (iI (wrap .i64 (x+1))) h fun w=>gInt .i64 fv0 w fun z1=>gSl fv1 w fun _ xn _=>cond (decide (z1>(xn:Int)))
 (gInt .i64 fv0 w fun z3=>some (iI (wrap .i64 (z3*7)),w))
 (gSl fv1 w fun z4 xn_1 _=>gInt .i64 fv0 w fun z5=>aSome z4 fun p=>ck ((0:Int)≤wrap .i64 (z5-1)∧wrap .i64 (z5-1)<(xn_1:Int)) (gInt .i64 (add (B0 p) (Int.toNat (wrap .i64 (z5-1))*1)) w fun z6=>some (iI (B4 .i64 z6 16777215),w))):=kR
def Bf1:Cuts:=⟨0,[(6,[0,1,4,5,7,8]),(14,[0,1,4,5,7,11]),(23,[0,1,4,5,7,14])],[],[(20,⟨[0,1,2,3,4,5,6,7,8,9,10],[0,1,0,0,0,24,56,120,252,511,1023],[(8,[1])],[]⟩)]⟩
def Bf9:List Item:=A2 Tryz.f57
def D40:List Item:=stk [0,1,0,1,0,1,0,1,0,0,1,4,5] Bf9
theorem Et6 :
 xQ Bf1 C R Ag4 Tryz.f57 Bf9 [(0,.pointer c),(1,iI i)] h =
 nw (.cells O6 false [iI 0,iI 0,.slice none 0 0,.bool false]) h fun b w=>bnd (C L7 [.pointer c,iI i] w) fun r w1=>as2 r fun q1 q2=>aAgg q1 fun x=>aInt .i64 q2 fun z1=>nw (.cells B1 false zZ1) w1 fun p1 w2=>ck (List.length x=16) (pAgg ⟨p1,0,none⟩ x w2 fun w3=>cond (z1 != 0)
 (bnd (C Af8 [iI z1] w3) fun q3 w4=>aAgg q3 fun z2=>ck (List.length z2=4) (pAgg ⟨b,0,none⟩ z2 w4 fun w5=>gAgg ⟨b,0,none⟩ 4 w5 fun z3=>some (.agg ⟨z3⟩,w5)))
 (R Ag4 D40 [(0,.pointer c),(1,iI i),(4,pP b),(5,pP p1),(7,iI (-1)),(8,iI 0)] w3)):=kR
def Bd5:Cuts:=⟨0,[(6,[0,1,4,7,8])],[],[]⟩
def Be0:List Item:=A2 Tryz.f59
def D39:List Item:=stk [0,1,0,1,0,1,0,0,1,4,5] Be0
theorem En8 :
 xQ Bd5 C R Ag9 Tryz.f59 Be0 [(0,.pointer c),(1,iI i)] h =
 nw (.cells O6 false [iI 0,iI 0,.slice none 0 0,.bool false]) h fun b w=>bnd (C L7 [.pointer c,iI i] w) fun r w1=>as2 r fun q1 q2=>aAgg q1 fun x=>aInt .i64 q2 fun z1=>nw (.cells B1 false zZ1) w1 fun p1 w2=>ck (List.length x=16) (pAgg ⟨p1,0,none⟩ x w2 fun w3=>cond (z1 != 0)
 (bnd (C Af8 [iI z1] w3) fun q3 w4=>aAgg q3 fun z2=>ck (List.length z2=4) (pAgg ⟨b,0,none⟩ z2 w4 fun w5=>gAgg ⟨b,0,none⟩ 4 w5 fun z3=>some (.agg ⟨z3⟩,w5)))
 (R Ag9 D39 [(0,.pointer c),(1,iI i),(4,pP b),(7,.bool false),(8,iI 0)] w3)):=kR
def U9:Cuts:=⟨0,[(1,[0,5]),(6,[0,12]),(11,[0,20,21])],[],[]⟩
def Ab5:List Item:=A2 Tryz.f67
def Af0:List Item:=stk [0,0,1,4,5] Ab5
def Af2:List Item:=stk [0,1,0,0,1,4,5] Ab5
def Ae7:List Item:=stk [0,1,0,1,0,0,1,4,5] Ab5
theorem Ec7 :
 xQ U9 C R B8 Tryz.f67 Ab5 [(0,.pointer c)] h =
 R B8 Af0 [(0,.pointer c),(5,iI 0)] h:=kR
theorem Bm2 (x5:Int) :
 xQ U9 C R B8 Tryz.f67 Af0 [(0,.pointer c),(5,iI x5)] h =
 cond (decide (x5<8))
 (bnd (C J4 [.pointer c,iI x5] h) fun r w=>as2 r fun q1 q2=>aAgg q1 fun _=>aInt .i64 q2 fun _=>R B8 Af0 [(0,.pointer c),(5,iI (wrap .i64 (x5+1)))] w)
 (R B8 Af2 [(0,.pointer c),(12,iI 0)] h):=kR
theorem Bl8 (x12:Int) :
 xQ U9 C R B8 Tryz.f67 Af2 [(0,.pointer c),(12,iI x12)] h =
 cond (decide (x12<12))
 (bnd (C U8 [.pointer c,iI x12] h) fun r w=>as2 r fun q1 q2=>aAgg q1 fun _=>aInt .i64 q2 fun _=>R B8 Af2 [(0,.pointer c),(12,iI (wrap .i64 (x12+1)))] w)
 (bnd (C V0 [.pointer c,iI 3] h) fun q3 w1=>aInt .i64 q3 fun z2=>R B8 Ae7 [(0,.pointer c),(20,iI z2),(21,iI 0)] w1):=kR
theorem Bl1 (x20:Int) (x21:Int) :
 xQ U9 C R B8 Tryz.f67 Ae7 [(0,.pointer c),(20,iI x20),(21,iI x21)] h =
 cond (decide (x21<x20))
 (bnd (C An1 [.pointer c,iI x21] h) fun r w=>as2 r fun q1 q2=>aAgg q1 fun _=>aInt .i64 q2 fun _=>R B8 Ae7 [(0,.pointer c),(20,iI x20),(21,iI (wrap .i64 (x21+1)))] w)
 (bnd (C An5 [.pointer c] h) fun q3 w1=>as2 q3 fun q4 q5=>aAgg q4 fun _=>aInt .i64 q5 fun _=>bnd (C Ak9 [.pointer c] w1) fun q6 w2=>as2 q6 fun q7 q8=>aInt .i64 q7 fun _=>aBool q8 fun _=>some (.tuple ⟨[]⟩,w2)):=kR
def Dh8:Cuts:=⟨0,[],[],[]⟩
def Ei5:List Item:=A2 Tryz.f68
theorem G28 :
 xQ Dh8 C R A82 Tryz.f68 Ei5 [(0,.pointer m),(1,iI atv),(2,iI n)] h =
 bnd (C Bn6 [.pointer m,iI atv,iI n] h) fun r w=>aBool r fun x=>cond (!x)
 (some (.tuple ⟨[.slice none 0 0,iI 1]⟩,w))
 (aSome m fun p=>gSl (add p 0) w fun z1 _ xc=>ckB (fitsOpen z1 A1 w) (ck ((0:Int)≤wrap .i64 (atv+n)∧wrap .i64 (atv+n)≤(xc:Int)) (ck ((0:Int)≤atv∧atv≤((Int.toNat (wrap .i64 (atv+n)):Nat):Int)) (bnd (C H0 [.slice (G4 z1 (decide (Int.toNat atv<xc)) ((Int.toNat atv)*1)) ((Int.toNat (wrap .i64 (atv+n)))-(Int.toNat atv)) (xc-(Int.toNat atv))] w) fun q1 w1=>aSl q1 fun z2 xn_1 xc_1=>some (.tuple ⟨[.slice z2 xn_1 xc_1,iI 0]⟩,w1))))):=kR
def Do4:Cuts:=⟨0,[],[],[]⟩
def Ex2:List Item:=A2 Tryz.f73
theorem He2 :
 xQ Do4 C R Bh1 Tryz.f73 Ex2 [(0,.agg ⟨x⟩),(1,.pointer (some fv0))] h =
 nw (.cells Y6 false x) h fun b w=>gInt .i64 ⟨b,2,none⟩ w fun z1=>gInt .i64 fv0 w fun z2=>some (.bool (z1==(wrap .i64 (z2+1))),w):=kR
def Bu6:Cuts:=⟨0,[],[],[]⟩
def Dq8:List Item:=A2 Tryz.f74
theorem Ge5 :
 xQ Bu6 C R A67 Tryz.f74 Dq8 [(0,.agg ⟨x⟩)] h =
 nw (.cells Y6 false x) h fun b w=>gInt .i64 ⟨b,1,none⟩ w fun z1=>some (.bool (z1 != 2),w):=kR
def A50:Cuts:=⟨0,[],[],[]⟩
def Bx3:List Item:=A2 Tryz.f80
theorem Ed7 :
 xQ A50 C R U8 Tryz.f80 Bx3 [(0,.pointer c),(1,iI i)] h =
 nw (.cells H5 false [iI 0,iI 0,iI 0,iI 0]) h fun b w=>bnd (C A96 [iI i] w) fun r w1=>aAgg r fun x=>bnd (C L1 [.pointer c,.agg ⟨x⟩,.func (.func Aw4) ⟨[]⟩ ⟨[]⟩] w1) fun q1 w2=>as2 q1 fun q2 q3=>aAgg q2 fun z1=>aInt .i64 q3 fun z2=>ck (List.length z1=4) (pAgg ⟨b,0,none⟩ z1 w2 fun w3=>gAgg ⟨b,0,none⟩ 4 w3 fun z3=>some (.tuple ⟨[.agg ⟨z3⟩,iI z2]⟩,w3)):=kR
def A52:Cuts:=⟨0,[],[],[]⟩
def Bw1:List Item:=A2 Tryz.f82
theorem D95 :
 xQ A52 C R An1 Tryz.f82 Bw1 [(0,.pointer c),(1,iI i)] h =
 nw (.cells E4 false zZ4) h fun b w=>bnd (C Br1 [iI i] w) fun r w1=>aAgg r fun x=>bnd (C I6 [.pointer c,.agg ⟨x⟩,.func (.func Aq3) ⟨[]⟩ ⟨[]⟩] w1) fun q1 w2=>as2 q1 fun q2 q3=>aAgg q2 fun z1=>aInt .i64 q3 fun z2=>ck (List.length z1=36) (pAgg ⟨b,0,none⟩ z1 w2 fun w3=>gAgg ⟨b,0,none⟩ 36 w3 fun z3=>some (.tuple ⟨[.agg ⟨z3⟩,iI z2]⟩,w3)):=kR
def Au6:Cuts:=⟨0,[],[],[]⟩
def Bl2:List Item:=A2 Tryz.f84
theorem Dv0 (f:List Value) :
 xQ Au6 C R Ae9 Tryz.f84 Bl2 [(0,.pointer c),(1,iI i),(2,.agg ⟨f⟩)] h =
 nw (.cells H5 false f) h fun b w=>gAgg ⟨b,0,none⟩ 4 w fun x=>bnd (C A86 [.agg ⟨x⟩] w) fun r w1=>as2 r fun q1 q2=>aSl q1 fun z1 xn xc=>aBool q2 fun z2=>bnd (C A96 [iI i] w1) fun q3 w2=>aAgg q3 fun z3=>bnd (C O0 [.pointer c,.agg ⟨z3⟩,.slice z1 xn xc,.bool z2] w2) fun q4 w3=>aBool q4 fun z4=>some (.bool z4,w3):=kR
def An9:Cuts:=⟨0,[],[],[]⟩
def Bb5:List Item:=A2 Tryz.f90
theorem Dk2 :
 xQ An9 C R N3 Tryz.f90 Bb5 [(0,.slice s sn sc),(1,iI v)] h =
 bnd (C H9 [.slice s sn sc,iI v] h) fun r w=>aInt .i64 r fun x=>some (.bool (decide (x≥0)),w):=kR
def Bo4:Cuts:=⟨0,[],[],[]⟩
def Dl4:List Item:=A2 Tryz.f104
theorem E17 :
 xQ Bo4 C R A15 Tryz.f104 Dl4 [(0,.pointer k),(1,iI env)] h =
 aSome k fun p=>gPtr (add p 6) h fun x=>aSome x fun p_1=>gPtr (add p_1 3) h fun z1=>bnd (C Bg5 [.pointer z1,iI env] h) fun r w=>aSl r fun z2 xn xc=>cond ((xn:Int)==0)
 (some (.pointer none,w))
 (nw (.cells B52 false [.pointer k,iI env,.slice z2 xn xc,.slice none 0 0]) w fun b w1=>some (pP b,w1)):=kR
def Bo7:Cuts:=⟨0,[],[],[(3,⟨[0,1,2,3,4,5,6,7,8,9,10,11,12,13,14,15,16,17,18,19],[0,1,3,7,0,0,32,0,128,0,512,0,2048,0,8192,32767,65535,65535,262143,524287],[],[]⟩),(5,⟨[0,1,2,3,4,5,6,7,8,9,10,11],[0,1,3,7,0,0,32,127,255,255,1023,2047],[],[]⟩),(7,⟨[0,1,2,3,4,5,6,7,8,9,10,11,12,13,14,15],[0,1,3,7,0,16,48,112,0,496,1008,2047,4095,4095,16383,32767],[],[]⟩),(9,⟨[0,1,2,3,4,5,6,7,8,9,10,11,12,13,14,15],[0,1,3,7,0,16,48,112,0,496,1008,0,2048,8191,16383,32767],[],[]⟩)]⟩
def Dm2:List Item:=A2 Tryz.f106
theorem E89 (c:List Value) :
 xQ Bo7 C R A10 Tryz.f106 Dm2 [(0,.pointer k),(1,iI env),(2,.agg ⟨c⟩)] h =
 nw (.cells As7 false c) h fun b w=>gInt .i64 ⟨b,0,none⟩ w fun x=>cond (x==4)
 (aSome k fun p=>gPtr (add p 3) w fun z1=>gInt .i64 ⟨b,1,none⟩ w fun z2=>gInt .i64 ⟨b,4,none⟩ w fun z3=>gInt .i64 ⟨b,5,none⟩ w fun z4=>gInt .i64 ⟨b,2,none⟩ w fun z5=>gInt .i64 ⟨b,3,none⟩ w fun z6=>bnd (C A24 [.pointer z1,iI env,iI z2,iI z3,iI z4,iI z5,iI z6] w) fun r w1=>as2 r fun q1 q2=>aInt .i64 q1 fun z7=>aInt .i64 q2 fun z8=>some (.tuple ⟨[iI z7,iI z8]⟩,w1))
 (cond (x==5)
 (aSome k fun p_1=>gPtr (add p_1 3) w fun z9=>gInt .i64 ⟨b,1,none⟩ w fun z10=>bnd (C Ey2 [.pointer z9,iI env,iI z10] w) fun q3 w2=>as2 q3 fun q4 q5=>aInt .i64 q4 fun z11=>aInt .i64 q5 fun z12=>some (.tuple ⟨[iI z11,iI z12]⟩,w2))
 (cond (x==6)
 (aSome k fun p_2=>gPtr (add p_2 4) w fun z13=>aSome k fun p_3=>gSl (add p_3 0) w fun z14 xn _=>aSome z14 fun p_4=>ck ((0:Int)≤env∧env<(xn:Int)) (gInt .i64 (add (B0 p_4) (Int.toNat env*1)) w fun z15=>bnd (C Ay6 [.pointer z13,iI z15] w) fun q6 w3=>as2 q6 fun q7 q8=>aInt .i64 q7 fun z16=>aInt .i64 q8 fun z17=>some (.tuple ⟨[iI z16,iI z17]⟩,w3)))
 (cond (x==7)
 (aSome k fun p_5=>gPtr (add p_5 4) w fun z18=>aSome k fun p_6=>gSl (add p_6 0) w fun z19 xn_1 _=>aSome z19 fun p_7=>ck ((0:Int)≤env∧env<(xn_1:Int)) (gInt .i64 (add (B0 p_7) (Int.toNat env*1)) w fun z20=>gInt .i64 ⟨b,3,none⟩ w fun z21=>bnd (C A26 [.pointer z18,iI z20,iI z21] w) fun q9 w4=>aInt .i64 q9 fun z22=>some (.tuple ⟨[iI 0,iI z22]⟩,w4)))
 (cond (x==8)
 (gAgg ⟨b,0,none⟩ 7 w fun z23=>bnd (C A72 [.pointer k,iI env,.agg ⟨z23⟩] w) fun q10 w5=>as2 q10 fun q11 q12=>aInt .i64 q11 fun z24=>aInt .i64 q12 fun z25=>some (.tuple ⟨[iI z24,iI z25]⟩,w5))
 (cond (x==9)
 (gAgg ⟨b,0,none⟩ 7 w fun z26=>bnd (C A69 [.pointer k,iI env,.agg ⟨z26⟩] w) fun q13 w6=>aInt .i64 q13 fun z27=>some (.tuple ⟨[iI 0,iI z27]⟩,w6))
 (cond (x==10)
 (aSome k fun p_8=>gInt .i64 (add p_8 7) w fun z28=>some (.tuple ⟨[iI z28,iI 0]⟩,w))
 (some (.tuple ⟨[iI 0,iI 7]⟩,w)))))))):=kR
def Bd2:Cuts:=⟨0,[],[],[(6,⟨[0,1,2,3,4,5,6],[0,0,0,0,14,31,63],[(4,[0])],[]⟩)]⟩
def B76:List Item:=A2 Tryz.f129
theorem Eo0 :
 xQ Bd2 C R At3 Tryz.f129 B76 [(0,.pointer c),(1,iI i)] h =
 nw (.cells H5 false [iI 0,iI 0,iI 0,iI 0]) h fun b w=>nw (.cells A6 false [iI 0,iI 0]) w fun p1 w1=>pAgg ⟨p1,0,none⟩ [iI 2,iI i] w1 fun w2=>gAgg ⟨p1,0,none⟩ 2 w2 fun x=>bnd (C U3 [.pointer c,.agg ⟨x⟩] w2) fun r w3=>as2 r fun q1 q2=>aStr q1 fun z1=>aBool q2 fun z2=>cond (!z2)
 (pAgg ⟨b,0,none⟩ [iI 0,iI 0,iI 0,iI 0] w3 fun w4=>gAgg ⟨b,0,none⟩ 4 w4 fun z3=>some (.tuple ⟨[.agg ⟨z3⟩,iI 2]⟩,w4))
 (bnd (C Br8 [.string z1] w3) fun q3 w5=>as2 q3 fun q4 q5=>aAgg q4 fun z4=>aInt .i64 q5 fun z5=>nw (.cells H5 false [iI 0,iI 0,iI 0,iI 0]) w5 fun p2 w6=>ck (List.length z4=4) (pAgg ⟨p2,0,none⟩ z4 w6 fun w7=>gAgg ⟨p2,0,none⟩ 4 w7 fun z6=>gAgg ⟨p1,0,none⟩ 2 w7 fun z7=>bnd (C Z5 [.pointer c,.agg ⟨z7⟩,iI z5] w7) fun q6 w8=>aInt .i64 q6 fun z8=>gAgg ⟨p2,0,none⟩ 4 w8 fun z9=>same (.agg ⟨z6⟩) (.agg ⟨z9⟩) (ck (List.length z6=4) (pAgg ⟨b,0,none⟩ z6 w8 fun w9=>gAgg ⟨b,0,none⟩ 4 w9 fun z10=>some (.tuple ⟨[.agg ⟨z10⟩,iI z8]⟩,w9))))):=kR
def Z4:Cuts:=⟨0,[(1,[0,2]),(5,[0,3]),(9,[0,4])],[],[]⟩
def Ai2:List Item:=A2 Tryz.f136
def Ak5:List Item:=stk [0,0,1,4,5] Ai2
def Ak7:List Item:=stk [0,1,0,0,1,4,5] Ai2
def Ak4:List Item:=stk [0,1,0,1,0,0,1,4,5] Ai2
theorem Eu5 :
 xQ Z4 C R D2 Tryz.f136 Ai2 [(0,.pointer c)] h =
 R D2 Ak5 [(0,.pointer c),(2,iI 0)] h:=kR
theorem Bu0 :
 xQ Z4 C R D2 Tryz.f136 Ak5 [(0,.pointer c),(2,iI i)] h =
 cond (decide (i<8))
 (bnd (C Z6 [.pointer c,iI i] h) fun r w=>as2 r fun q1 q2=>aAgg q1 fun _=>aInt .i64 q2 fun _=>R D2 Ak5 [(0,.pointer c),(2,iI (wrap .i64 (i+1)))] w)
 (R D2 Ak7 [(0,.pointer c),(3,iI 0)] h):=kR
theorem Bu3 :
 xQ Z4 C R D2 Tryz.f136 Ak7 [(0,.pointer c),(3,iI i)] h =
 cond (decide (i<12))
 (bnd (C At3 [.pointer c,iI i] h) fun r w=>as2 r fun q1 q2=>aAgg q1 fun _=>aInt .i64 q2 fun _=>R D2 Ak7 [(0,.pointer c),(3,iI (wrap .i64 (i+1)))] w)
 (R D2 Ak4 [(0,.pointer c),(4,iI 0)] h):=kR
theorem Bu1 :
 xQ Z4 C R D2 Tryz.f136 Ak4 [(0,.pointer c),(4,iI i)] h =
 aSome c fun p=>gSl (add p 2) h fun _ xn _=>cond (decide (i<(wrap .i64 (3+(xn:Int)))))
 (bnd (C As3 [.pointer c,iI i] h) fun r w=>as2 r fun q1 q2=>aAgg q1 fun _=>aInt .i64 q2 fun _=>R D2 Ak4 [(0,.pointer c),(4,iI (wrap .i64 (i+1)))] w)
 (bnd (C Au4 [.pointer c] h) fun q3 w1=>as2 q3 fun q4 q5=>aAgg q4 fun _=>aInt .i64 q5 fun _=>bnd (C Ap0 [.pointer c] w1) fun q6 w2=>as2 q6 fun q7 q8=>aInt .i64 q7 fun _=>aBool q8 fun _=>some (.tuple ⟨[]⟩,w2)):=kR
def A00:Cuts:=⟨0,[],[],[]⟩
def Bt9:List Item:=A2 Tryz.f144
theorem D38 :
 xQ A00 C R Ak9 Tryz.f144 Bt9 [(0,.pointer c)] h =
 bnd (C U2 [.pointer c,.agg ⟨[iI 5,iI 0]⟩,.func (.func Ai6) ⟨[]⟩ ⟨[]⟩] h) fun r w=>as2 r fun q1 q2=>aInt .i64 q1 fun x=>aInt .i64 q2 fun z1=>some (.tuple ⟨[iI x,.bool (z1==1)]⟩,w):=kR
def D09:Cuts:=⟨0,[],[],[]⟩
def E63:List Item:=A2 Tryz.f145
theorem Hi4 :
 xQ D09 C R Bn6 Tryz.f145 E63 [(0,.pointer m),(1,iI atv),(2,iI n)] h =
 bnd (cond (decide (atv≥0)) (some (decide (n≥0),h)) (some (false,h))) fun c w=>bnd (cond c (aSome m fun p=>gSl (add p 0) w fun _ xn _=>some (decide (atv≤(xn:Int)),w)) (some (false,w))) fun c_1 w1=>bnd (cond c_1 (aSome m fun p_1=>gSl (add p_1 0) w1 fun _ xn_1 _=>some (decide (n≤(wrap .i64 ((xn_1:Int)-atv))),w1)) (some (false,w1))) fun c_2 w2=>some (.bool c_2,w2):=kR
def Df4:Cuts:=⟨0,[],[],[]⟩
def Ei6:List Item:=A2 Tryz.f158
theorem G02 :
 xQ Df4 C R A96 Tryz.f158 Ei6 [(0,iI i)] h =
 nw (.cells A6 false [iI 0,iI 0]) h fun b w=>pAgg ⟨b,0,none⟩ [iI 2,iI i] w fun w1=>gAgg ⟨b,0,none⟩ 2 w1 fun x=>some (.agg ⟨x⟩,w1):=kR
def Df3:Cuts:=⟨0,[],[],[]⟩
def Ei9:List Item:=A2 Tryz.f159
theorem G65 :
 xQ Df3 C R Aw4 Tryz.f159 Ei9 [(0,.slice b bn bc)] h =
 nw (.cells H5 false [iI 0,iI 0,iI 0,iI 0]) h fun p1 w=>bnd (cond ((bn:Int)==8) (bnd (C Aq5 [.slice b bn bc] w) fun r w1=>aBool r fun x=>some (x,w1)) (some (false,w))) fun c w2=>cond c
 (pAgg ⟨p1,0,none⟩ [iI 0,iI 0,iI 0,iI 0] w2 fun w3=>gAgg ⟨p1,0,none⟩ 4 w3 fun z1=>some (.tuple ⟨[.agg ⟨z1⟩,iI 0]⟩,w3))
 (bnd (C Bi5 [] w2) fun q1 w4=>aPtr q1 fun z2=>bnd (C W7 [.pointer z2,.slice b bn bc] w4) fun q2 w5=>as2 q2 fun q3 q4=>aAgg q3 fun z3=>aBool q4 fun z4=>nw (.cells H5 false [iI 0,iI 0,iI 0,iI 0]) w5 fun p2 w6=>ck (List.length z3=4) (pAgg ⟨p2,0,none⟩ z3 w6 fun w7=>cond (!z4)
 (pAgg ⟨p1,0,none⟩ [iI 0,iI 0,iI 0,iI 0] w7 fun w8=>gAgg ⟨p1,0,none⟩ 4 w8 fun z5=>some (.tuple ⟨[.agg ⟨z5⟩,iI 2]⟩,w8))
 (gAgg ⟨p2,0,none⟩ 4 w7 fun z6=>ck (List.length z6=4) (pAgg ⟨p1,0,none⟩ z6 w7 fun w9=>gAgg ⟨p1,0,none⟩ 4 w9 fun z7=>some (.tuple ⟨[.agg ⟨z7⟩,iI 1]⟩,w9))))):=kR
def Df1:Cuts:=⟨0,[],[],[]⟩
def Ef1:List Item:=A2 Tryz.f161
theorem G24 :
 xQ Df1 C R Br1 Tryz.f161 Ef1 [(0,iI i)] h =
 nw (.cells A6 false [iI 0,iI 0]) h fun b w=>pAgg ⟨b,0,none⟩ [iI 3,iI i] w fun w1=>gAgg ⟨b,0,none⟩ 2 w1 fun x=>some (.agg ⟨x⟩,w1):=kR
def Ba8:Cuts:=⟨0,[],[],[]⟩
def B47:List Item:=A2 Tryz.f175
theorem Eg4 :
 xQ Ba8 C R Ap0 Tryz.f175 B47 [(0,.pointer c)] h =
 nw (.cells A6 false [iI 0,iI 0]) h fun b w=>pAgg ⟨b,0,none⟩ [iI 5,iI 0] w fun w1=>gAgg ⟨b,0,none⟩ 2 w1 fun x=>bnd (C U3 [.pointer c,.agg ⟨x⟩] w1) fun r w2=>as2 r fun q1 q2=>aStr q1 fun z1=>aBool q2 fun z2=>cond (!z2)
 (some (.tuple ⟨[iI 0,.bool false]⟩,w2))
 (ck ((0:Int)≤0∧0<((ByteArray.size z1:Nat):Int)) (bnd (cond (decide (((List.getD (ByteArray.data z1).toList (Int.toNat 0) 0).toNat:Int)>7)) (some (true,w2)) (ck ((0:Int)≤0∧0<((ByteArray.size z1:Nat):Int)) (bnd (C Ae4 [iI (wrap .i64 (((List.getD (ByteArray.data z1).toList (Int.toNat 0) 0).toNat:Int)))] w2) fun q3 w3=>aStr q3 fun z3=>some (!(z1.toList==z3.toList),w3)))) fun c_1 w4=>cond c_1
 (gAgg ⟨b,0,none⟩ 2 w4 fun z4=>bnd (C G0 [.pointer c,.agg ⟨z4⟩] w4) fun q4 w5=>as0 q4 (some (.tuple ⟨[iI 0,.bool false]⟩,w5)))
 (ck ((0:Int)≤0∧0<((ByteArray.size z1:Nat):Int)) (some (.tuple ⟨[iI (wrap .i64 (((List.getD (ByteArray.data z1).toList (Int.toNat 0) 0).toNat:Int))),.bool true]⟩,w4))))):=kR
def A47:Cuts:=⟨0,[],[],[(5,⟨[0,1,2,3,4,5,6],[0,0,0,0,14,31,63],[(4,[0])],[]⟩)]⟩
def Bw4:List Item:=A2 Tryz.f176
theorem Ee3 :
 xQ A47 C R Ab8 Tryz.f176 Bw4 [(0,.pointer c),(1,.agg ⟨r⟩)] h =
 nw (.cells A6 false r) h fun b w=>nw (.cells E4 false zZ4) w fun p1 w1=>gAgg ⟨b,0,none⟩ 2 w1 fun x=>bnd (C U3 [.pointer c,.agg ⟨x⟩] w1) fun q1 w2=>as2 q1 fun q2 q3=>aStr q2 fun z1=>aBool q3 fun z2=>cond (!z2)
 (pAgg ⟨p1,0,none⟩ zZ4 w2 fun w3=>gAgg ⟨p1,0,none⟩ 36 w3 fun z3=>some (.tuple ⟨[.agg ⟨z3⟩,iI 2]⟩,w3))
 (bnd (C Ae6 [.string z1] w2) fun q4 w4=>as2 q4 fun q5 q6=>aAgg q5 fun z4=>aInt .i64 q6 fun z5=>nw (.cells E4 false zZ4) w4 fun p2 w5=>ck (List.length z4=36) (pAgg ⟨p2,0,none⟩ z4 w5 fun w6=>gAgg ⟨p2,0,none⟩ 36 w6 fun z6=>gAgg ⟨b,0,none⟩ 2 w6 fun z7=>bnd (C Z5 [.pointer c,.agg ⟨z7⟩,iI z5] w6) fun q7 w7=>aInt .i64 q7 fun z8=>gAgg ⟨p2,0,none⟩ 36 w7 fun z9=>same (.agg ⟨z6⟩) (.agg ⟨z9⟩) (ck (List.length z6=36) (pAgg ⟨p1,0,none⟩ z6 w7 fun w8=>gAgg ⟨p1,0,none⟩ 36 w8 fun z10=>some (.tuple ⟨[.agg ⟨z10⟩,iI z8]⟩,w8))))):=kR
def Bl4:Cuts:=⟨0,[(3,[0,3,4])],[],[(5,⟨[0,1,2,3,4,5,6,7,8,9,10],[0,0,2,6,14,0,32,126,255,511,1023],[(5,[4])],[]⟩),(6,⟨[0,1,2,3,4,5,6,7,8,9,10],[0,0,2,6,14,0,32,126,255,511,1023],[],[]⟩)]⟩
def Db5:List Item:=A2 Tryz.f203
def A09:List Item:=stk [0,1,0,1,0,0,1,4,5] Db5
theorem Gu6 :
 xQ Bl4 C R Aa9 Tryz.f203 Db5 [(0,iI envs)] h =
 nw (.cells E61 false [.slice none 0 0,.slice none 0 0]) h fun b w=>R Aa9 A09 [(0,iI envs),(3,pP b),(4,iI 0)] w:=kR
theorem Dl0 (s:Addr) :
 xQ Bl4 C R Aa9 Tryz.f203 A09 [(0,iI envs),(3,.pointer (some s)),(4,iI i)] h =
 bnd (cond (decide (i<envs)) (some (decide (i<40),h)) (some (false,h))) fun c w=>cond c
 (gSl (add s 0) w fun x xn xc=>bnd (C Aa4 [iI 32] w) fun r w1=>aPtr r fun z1=>gSl (add s 0) w1 fun z2 xn_1 xc_1=>same (.slice x xn xc) (.slice z2 xn_1 xc_1) (nw (.cells Bb3 false [.pointer z1]) w1 fun b w2=>gCells (some ⟨b,0,none⟩) (1*1) w2 fun cs=>ckB (fitsOpen x Bb3 w2) (apd Bb3 1 x xn xc 1 cs w2 fun a an ac w3=>pV (add s 0) (.slice a an ac) w3 fun w4=>gSl (add s 1) w4 fun z3 xn_2 xc_2=>ck ((0:Int)≤32∧(32:Int)≤32∧32≤(A5:Int)) (nw (.cells Q0 false (I1 (Int.toNat 32) [iI 0,iI 0,iI 0,iI 0,iI 0,iI 0])) w4 fun p1 w5=>nw (.cells Bx1 false [.slice (some ⟨p1,0,none⟩) (Int.toNat 32) (Int.toNat 32)]) w5 fun p2 w6=>gCells (some ⟨p2,0,none⟩) (1*1) w6 fun cs_1=>ckB (fitsOpen z3 Bx1 w6) (apd Bx1 1 z3 xn_2 xc_2 1 cs_1 w6 fun a_1 an_1 ac_1 w7=>pV (add s 1) (.slice a_1 an_1 ac_1) w7 fun w8=>R Aa9 A09 [(0,iI envs),(3,.pointer (some s)),(4,iI (wrap .i64 (i+1)))] w8)))))
 (some (.pointer (some s),w)):=kR
def Bk3:Cuts:=⟨0,[],[],[]⟩
def Dd2:List Item:=A2 Tryz.f216
theorem Ey5 (s:Int) :
 xQ Bk3 C R Ay6 Tryz.f216 Dd2 [(0,.pointer q),(1,iI s)] h =
 bnd (C Am1 [.pointer q,iI s] h) fun r w=>aBool r fun x=>cond (!x)
 (some (.tuple ⟨[iI 0,iI 1]⟩,w))
 (aSome q fun p=>gSl (add p 0) w fun z1 xn _=>aSome z1 fun p_1=>ck ((0:Int)≤s∧s<(xn:Int)) (gSl (add (B0 p_1) (Int.toNat s*1)) w fun z2 xn_1 xc_1=>bnd (C H9 [.slice z2 xn_1 xc_1,iI 0] w) fun q1 w1=>aInt .i64 q1 fun z3=>cond (decide (z3<0))
 (some (.tuple ⟨[iI 0,iI 4]⟩,w1))
 (aSome q fun p_2=>gSl (add p_2 0) w1 fun z4 xn_2 _=>aSome z4 fun p_3=>ck ((0:Int)≤s∧s<(xn_2:Int)) (gSl (add (B0 p_3) (Int.toNat s*1)) w1 fun z5 xn_3 _=>aSome z5 fun p_4=>ck ((0:Int)≤z3∧z3<(xn_3:Int)) (pV (add (B0 p_4) (Int.toNat z3*1)) (iI 1) w1 fun w2=>some (.tuple ⟨[iI z3,iI 0]⟩,w2)))))):=kR
def Bv1:Cuts:=⟨0,[],[],[]⟩
def Dq6:List Item:=A2 Tryz.f218
theorem Ge8 (c:List Value) :
 xQ Bv1 C R A72 Tryz.f218 Dq6 [(0,.pointer k),(1,iI env),(2,.agg ⟨c⟩)] h =
 nw (.cells As7 false c) h fun b w=>gInt .i64 ⟨b,3,none⟩ w fun x=>bnd (C Ax8 [.pointer k,iI env,iI x] w) fun r w1=>as2 r fun q1 q2=>aPtr q1 fun z1=>aInt .i64 q2 fun z2=>cond (z2 != 0)
 (some (.tuple ⟨[iI 0,iI z2]⟩,w1))
 (aSome k fun p=>gInt .i64 (add p 7) w1 fun z3=>bnd (C B5 [.pointer z1,iI env,iI z3] w1) fun q3 w2=>as2 q3 fun q4 q5=>aInt .i64 q4 fun z4=>aBool q5 fun _=>some (.tuple ⟨[iI z4,iI 0]⟩,w2)):=kR
def B15:Cuts:=⟨0,[],[],[]⟩
def D25:List Item:=A2 Tryz.f221
theorem Go0 :
 xQ B15 C R Bf3 Tryz.f221 D25 [(0,.pointer s),(1,iI e),(2,iI name)] h =
 nw (.cells Q0 false [iI 0,iI 0,iI 0,iI 0,iI 0,iI 0]) h fun b w=>bnd (C Am2 [.pointer s,iI e] w) fun r w1=>aBool r fun x=>bnd (cond (!x) (some (true,w1)) (aSome s fun p=>gSl (add p 0) w1 fun z1 xn _=>aSome z1 fun p_1=>ck ((0:Int)≤e∧e<(xn:Int)) (gPtr (add (B0 p_1) (Int.toNat e*1)) w1 fun z2=>bnd (C Bc2 [.pointer z2,iI name] w1) fun q1 w2=>aBool q1 fun z3=>some (!z3,w2)))) fun c w3=>cond c
 (pAgg ⟨b,0,none⟩ [iI 0,iI 0,iI 0,iI 0,iI 0,iI 0] w3 fun w4=>gAgg ⟨b,0,none⟩ 6 w4 fun z4=>some (.tuple ⟨[.agg ⟨z4⟩,iI 2]⟩,w4))
 (aSome s fun p_2=>gSl (add p_2 1) w3 fun z5 xn_1 _=>aSome z5 fun p_3=>ck ((0:Int)≤e∧e<(xn_1:Int)) (gSl (add (B0 p_3) (Int.toNat e*1)) w3 fun z6 xn_2 _=>aSome z6 fun p_4=>ck ((0:Int)≤B4 .i64 name 255∧B4 .i64 name 255<(xn_2:Int)) (gAgg (add (B0 p_4) (Int.toNat (B4 .i64 name 255)*6)) 6 w3 fun z7=>ck (List.length z7=6) (pAgg ⟨b,0,none⟩ z7 w3 fun w5=>gAgg ⟨b,0,none⟩ 6 w5 fun z8=>some (.tuple ⟨[.agg ⟨z8⟩,iI 0]⟩,w5))))):=kR
def Bd6:Cuts:=⟨0,[],[],[]⟩
def B89:List Item:=A2 Tryz.f235
theorem Eo3 (size:Int) (put:Value) (get:Value) :
 xQ Bd6 C R Au8 Tryz.f235 B89 [(0,iI size),(1,put),(2,get)] h =
 one put (one get (nw (.cells Bw8 false [iI (mm2 false (mm2 true size 0) 64),put,get]) h fun b w=>some (pP b,w))):=kR
def Bi9:Cuts:=⟨0,[(4,[1,2,22,23,24]),(9,[1,2,43,44,45]),(14,[1,58,59])],[],[]⟩
def Bw0:List Item:=A2 Tryz.f236
def De2:List Item:=stk [0,1,0,1,0,0,1,4,5] Bw0
def Dg2:List Item:=stk [0,1,0,1,0,1,0,0,1,4,5] Bw0
def Dg3:List Item:=stk [0,1,0,1,0,1,0,1,0,0,1,4,5] Bw0
theorem H12 (p:List Value) :
 xQ Bi9 C R P2 Tryz.f236 Bw0 [(0,.agg ⟨p⟩),(1,.slice b bn bc)] h =
 nw (.cells B1 false p) h fun p1 w=>gAgg ⟨p1,0,none⟩ 16 w fun x=>bnd (C Du1 [.agg ⟨x⟩] w) fun r w1=>aBool r fun z1=>cond (!z1)
 (some (.bool false,w1))
 (gInt .i64 ⟨p1,0,none⟩ w1 fun z2=>gInt .i64 ⟨p1,1,none⟩ w1 fun z3=>gInt .i64 ⟨p1,2,none⟩ w1 fun z4=>gInt .i64 ⟨p1,3,none⟩ w1 fun z5=>nw (.cells B2 false [iI z2,iI z3,iI z4,iI z5]) w1 fun p2 w2=>R P2 De2 [(1,.slice b bn bc),(2,pP p1),(22,.slice (some ⟨p2,0,none⟩) 4 4),(23,iI 4),(24,iI 0)] w2):=kR
theorem A87 (x22:Option Addr) (x22n x22c:Nat) (x23:Int) :
 xQ Bi9 C R P2 Tryz.f236 De2 [(1,.slice b bn bc),(2,.pointer (some p)),(22,.slice x22 x22n x22c),(23,iI x23),(24,iI x24)] h =
 cond (decide (x24<x23))
 (aSome x22 fun p_1=>ck ((0:Int)≤x24∧x24<(x22n:Int)) (gInt .i64 (add (B0 p_1) (Int.toNat x24*1)) h fun x=>aSome b fun p_2=>ck ((0:Int)≤x24∧x24<(bn:Int)) (pV (add (B0 p_2) (Int.toNat x24*1)) (.int .u8 (wrap .u8 (x))) h fun w=>R P2 De2 [(1,.slice b bn bc),(2,.pointer (some p)),(22,.slice x22 x22n x22c),(23,iI x23),(24,iI (wrap .i64 (x24+1)))] w)))
 (gInt .i64 (add p 4) h fun z1=>gInt .i64 (add p 5) h fun z2=>gInt .i64 (add p 6) h fun z3=>gInt .i64 (add p 7) h fun z4=>nw (.cells B2 false [iI z1,iI z2,iI z3,iI z4]) h fun p1 w1=>R P2 Dg2 [(1,.slice b bn bc),(2,.pointer (some p)),(43,.slice (some ⟨p1,0,none⟩) 4 4),(44,iI 4),(45,iI 0)] w1):=kR
theorem A89 (x43:Option Addr) (x43n x43c:Nat) (x44:Int) :
 xQ Bi9 C R P2 Tryz.f236 Dg2 [(1,.slice b bn bc),(2,.pointer (some p)),(43,.slice x43 x43n x43c),(44,iI x44),(45,iI x45)] h =
 cond (decide (x45<x44))
 (aSome x43 fun p_1=>ck ((0:Int)≤x45∧x45<(x43n:Int)) (gInt .i64 (add (B0 p_1) (Int.toNat x45*1)) h fun x=>bnd (C Bo2 [.slice b bn bc,iI (wrap .i64 (4+(wrap .i64 (2*x45)))),iI x] h) fun r w=>aBool r fun _=>R P2 Dg2 [(1,.slice b bn bc),(2,.pointer (some p)),(43,.slice x43 x43n x43c),(44,iI x44),(45,iI (wrap .i64 (x45+1)))] w))
 (gAgg (add p 8) 8 h fun z2=>R P2 Dg3 [(1,.slice b bn bc),(58,.agg ⟨z2⟩),(59,iI 0)] h):=kR
theorem Z0 (x58:List Value) (x59:Int) :
 xQ Bi9 C R P2 Tryz.f236 Dg3 [(1,.slice b bn bc),(58,.agg ⟨x58⟩),(59,iI x59)] h =
 cond (decide (x59<8))
 (ck ((0:Int)≤x59∧x59<((8:Nat):Int)) (nth x58 (Int.toNat x59*1) fun x=>aInt .i64 x fun z1=>aSome b fun p=>ck ((0:Int)≤wrap .i64 (12+x59)∧wrap .i64 (12+x59)<(bn:Int)) (pV (add (B0 p) (Int.toNat (wrap .i64 (12+x59))*1)) (.int .u8 (wrap .u8 (z1))) h fun w=>R P2 Dg3 [(1,.slice b bn bc),(58,.agg ⟨x58⟩),(59,iI (wrap .i64 (x59+1)))] w)))
 (aSome b fun p_1=>ck ((0:Int)≤20∧20<(bn:Int)) (pV (add (B0 p_1) (Int.toNat 20*1)) (.int .u8 167) h fun w1=>ckB (fitsOpen b A1 w1) (ck ((0:Int)≤21∧21≤(bc:Int)) (bnd (C Ac2 [.slice (G4 b (decide (0<bc)) (0*1)) ((Int.toNat 21)-0) (bc-0)] w1) fun r w2=>aInt .u8 r fun z2=>aSome b fun p_2=>ck ((0:Int)≤21∧21<(bn:Int)) (pV (add (B0 p_2) (Int.toNat 21*1)) (.int .u8 z2) w2 fun w3=>some (.bool true,w3)))))):=kR
def Bd7:Cuts:=⟨0,[],[],[(4,⟨[0,1,2,3,4,5,6,7,8,9,10,11,12,13,14,15,16,17,18,19,20,21,22,23,24,25],[0,1,3,7,0,16,48,112,0,256,768,1792,0,7936,16128,0,0,130816,262143,524287,1048575,1048575,1048575,2097151,12582911,33554431],[],[]⟩)]⟩
def Da8:List Item:=A2 Tryz.f238
theorem Em4 :
 xQ Bd7 C R U3 Tryz.f238 Da8 [(0,.pointer c),(1,.agg ⟨r⟩)] h =
 nw (.cells A6 false r) h fun b w=>gAgg ⟨b,0,none⟩ 2 w fun x=>bnd (C Ap5 [.pointer c,.agg ⟨x⟩] w) fun q1 w1=>as4 q1 fun q2 q3 q4 q5=>aInt .i64 q2 fun z1=>aInt .i64 q3 fun z2=>aInt .i64 q4 fun z3=>aBool q5 fun z4=>bnd (cond (!z4) (some (true,w1)) (gAgg ⟨b,0,none⟩ 2 w1 fun z5=>bnd (C Q1 [.pointer c,.agg ⟨z5⟩] w1) fun q6 w2=>aBool q6 fun z6=>some (z6,w2))) fun c_1 w3=>cond c_1
 (some (.tuple ⟨[.string (ByteArray.mk ⟨[]⟩),.bool false]⟩,w3))
 (aSome c fun p=>gPtr (add p 0) w3 fun z7=>aSome c fun p_1=>gInt .i64 (add p_1 1) w3 fun z8=>aSome c fun p_2=>gSl (add p_2 2) w3 fun z9 xn _=>aSome z9 fun p_3=>ck ((0:Int)≤z1∧z1<(xn:Int)) (gInt .i64 (add (B0 p_3) (Int.toNat z1*1)) w3 fun z10=>bnd (C Ad8 [.pointer z7,iI z8,.agg ⟨[iI 1,iI z10,iI z2,iI z3,iI 0,iI 0,.slice none 0 0]⟩] w3) fun q7 w4=>as3 q7 fun q8 q9 q10=>aInt .i64 q8 fun z11=>aInt .i64 q9 fun _=>aStr q10 fun z13=>cond (z11 != 0)
 (gAgg ⟨b,0,none⟩ 2 w4 fun z14=>bnd (C G0 [.pointer c,.agg ⟨z14⟩] w4) fun q11 w5=>as0 q11 (some (.tuple ⟨[.string (ByteArray.mk ⟨[]⟩),.bool false]⟩,w5)))
 (some (.tuple ⟨[.string z13,.bool true]⟩,w4)))):=kR
def Dg4:Cuts:=⟨0,[],[],[]⟩
def Ej8:List Item:=A2 Tryz.f242
theorem G37 (f:List Value) :
 xQ Dg4 C R Br2 Tryz.f242 Ej8 [(0,.agg ⟨f⟩)] h =
 nw (.cells H5 false f) h fun b w=>gInt .i64 ⟨b,0,none⟩ w fun x=>bnd (C Q3 [iI x,iI 1,iI 3] w) fun r w1=>aBool r fun z1=>bnd (cond z1 (gInt .i64 ⟨b,1,none⟩ w1 fun z2=>bnd (C Q3 [iI z2,iI 0,iI 7] w1) fun q1 w2=>aBool q1 fun z3=>some (z3,w2)) (some (false,w1))) fun c w3=>bnd (cond c (gInt .i64 ⟨b,0,none⟩ w3 fun z4=>bnd (cond (z4 != 3) (some (true,w3)) (gInt .i64 ⟨b,1,none⟩ w3 fun z5=>some (z5==0,w3))) fun c_1 w4=>some (c_1,w4)) (some (false,w3))) fun c_2 w5=>bnd (cond c_2 (gInt .i64 ⟨b,2,none⟩ w5 fun z6=>bnd (C Q3 [iI z6,iI 1,iI 64] w5) fun q2 w6=>aBool q2 fun z7=>some (z7,w6)) (some (false,w5))) fun c_3 w7=>bnd (cond c_3 (gInt .i64 ⟨b,3,none⟩ w7 fun z8=>bnd (C Q3 [iI z8,iI 0,iI 1] w7) fun q3 w8=>aBool q3 fun z9=>some (z9,w8)) (some (false,w7))) fun c_4 w9=>some (.bool c_4,w9):=kR
def At7:Cuts:=⟨0,[],[(8,[8,11,12])],[(7,⟨[0,1,2,3,4,5,6,7,8,9],[0,1,3,7,0,31,63,31,159,511],[(7,[5])],[]⟩)]⟩
def Bg6:List Item:=A2 Tryz.f247
def Az6:List Item:=stk [0,1,0,1,0,1,0,1,0,1,0,1,0,0] Bg6
theorem Et8 (decode:Value) :
 xQ At7 C R U2 Tryz.f247 Bg6 [(0,.pointer c),(1,.agg ⟨r⟩),(2,decode)] h =
 nw (.cells A6 false r) h fun b w=>gAgg ⟨b,0,none⟩ 2 w fun x=>bnd (C P4 [.pointer c,.agg ⟨x⟩] w) fun q1 w1=>as2 q1 fun q2 q3=>aSl q2 fun z1 xn xc=>aBool q3 fun z2=>cond (!z2)
 (some (.tuple ⟨[iI 0,iI 2]⟩,w1))
 (aFn decode fun g fi cp=>bnd (C g (fi++([.slice z1 xn xc]++cp)) w1) fun q4 w2=>as2 q4 fun q5 q6=>aInt .i64 q5 fun z3=>aInt .i64 q6 fun z4=>cond (z4==2)
 (aSome c fun p=>gMap (add p 3) w2 fun z5=>gAgg ⟨b,0,none⟩ 2 w2 fun z6=>keyN PR A6 (.agg ⟨z6⟩) (opt z5 fun q7=>mapAt w2 q7 fun es _=>opt (An2 (iI 0) (.agg ⟨z6⟩) es) fun f=>aInt .i64 f.1 fun z7=>keyN PR A6 (.agg ⟨z6⟩) (opt z5 fun q8=>mapAt w2 q8 fun es_1 cl_1=>opt (Ed2 (iI 0) (.agg ⟨z6⟩) es_1 cl_1) fun f_1=>aInt .i64 f_1.1 fun _=>lt (H.set w2 q8 f_1.2.2) fun w3=>keyN PR A6 (.agg ⟨z6⟩) (opt z5 fun q9=>mapAt w3 q9 fun es_2 _=>opt (An2 (iI 0) (.agg ⟨z6⟩) es_2) fun f_2=>aInt .i64 f_2.1 fun z9=>same (iI z7) (iI z9) (opt z5 fun q10=>mapAt w3 q10 fun es_3 cl_3=>opt (Br7 (f_1.2.1:Int) es_3 0) fun i=>lt (H.set w3 q10 (.map (modN (fun e=>{ e with val:=iI (wrap .i64 (z7+1)) }) i es_3) cl_3)) fun w4=>R U2 Az6 [(8,iI 0),(11,iI z3),(12,iI z4)] w4)))))
 (R U2 Az6 [(8,iI 0),(11,iI z3),(12,iI z4)] w2)):=kR
theorem Bt7 (nonev:Int) (isv:Int) :
 xQ At7 C R U2 Tryz.f247 Az6 [(8,iI nonev),(11,iI v),(12,iI isv)] h =
 cond (isv != 1)
 (some (.tuple ⟨[iI nonev,iI isv]⟩,h))
 (some (.tuple ⟨[iI v,iI isv]⟩,h)):=kR
def Aj9:Cuts:=⟨0,[],[],[(4,⟨[0,1,2,3,4,10,5,6,7,8,9,11,12],[0,1,3,7,0,16,63,127,255,255,0,1535,4095],[(5,[3])],[]⟩)]⟩
def A60:List Item:=A2 Tryz.f270
theorem Dc6 :
 xQ Aj9 C R W7 Tryz.f270 A60 [(0,.pointer c),(1,.slice b bn bc)] h =
 nw (.cells H5 false [iI 0,iI 0,iI 0,iI 0]) h fun p1 w=>nw (.cells H5 false [iI 0,iI 0,iI 0,iI 0]) w fun p2 w1=>aSome c fun p=>gFv (add p 2) w1 fun x=>isNilF x fun p3=>bnd (cond p3 (some (true,w1)) (aSome c fun p_1=>gInt .i64 (add p_1 0) w1 fun z1=>some ((bn:Int) != z1,w1))) fun c_1 w2=>cond c_1
 (gAgg ⟨p2,0,none⟩ 4 w2 fun z2=>ck (List.length z2=4) (pAgg ⟨p1,0,none⟩ z2 w2 fun w3=>gAgg ⟨p1,0,none⟩ 4 w3 fun z3=>some (.tuple ⟨[.agg ⟨z3⟩,.bool false]⟩,w3)))
 (aSome c fun p_2=>gFv (add p_2 2) w2 fun z4=>nw (.cells H5 false [iI 0,iI 0,iI 0,iI 0]) w2 fun p4 w4=>bnd (C H0 [.slice b bn bc] w4) fun r w5=>aSl r fun z5 xn xc=>gFv (add p_2 2) w5 fun z6=>Bs7 (z4) (z6) (aFn z4 fun g fi cp=>bnd (C g (fi++([.slice z5 xn xc]++cp)) w5) fun q1 w6=>as2 q1 fun q2 q3=>aAgg q2 fun z7=>aBool q3 fun z8=>ck (List.length z7=4) (pAgg ⟨p4,0,none⟩ z7 w6 fun w7=>cond (!z8)
 (gAgg ⟨p2,0,none⟩ 4 w7 fun z9=>ck (List.length z9=4) (pAgg ⟨p1,0,none⟩ z9 w7 fun w8=>gAgg ⟨p1,0,none⟩ 4 w8 fun z10=>some (.tuple ⟨[.agg ⟨z10⟩,.bool false]⟩,w8)))
 (gAgg ⟨p4,0,none⟩ 4 w7 fun z11=>ck (List.length z11=4) (pAgg ⟨p1,0,none⟩ z11 w7 fun w9=>gAgg ⟨p1,0,none⟩ 4 w9 fun z12=>some (.tuple ⟨[.agg ⟨z12⟩,.bool true]⟩,w9)))))):=kR
def Aj4:Cuts:=⟨0,[],[],[(2,⟨[0,1,2,3,4,5,6,7,8,9,10,11,12,13,14],[0,1,3,7,15,31,63,127,255,511,63,63,4095,8191,16383],[],[]⟩)]⟩
def A57:List Item:=A2 Tryz.f274
theorem Dc3 (v:List Value) :
 xQ Aj4 C R W1 Tryz.f274 A57 [(0,.pointer c),(1,.agg ⟨v⟩)] h =
 nw (.cells H5 false v) h fun b w=>aSome c fun p=>gInt .i64 (add p 0) w fun x=>ck ((0:Int)≤x∧(x:Int)≤x∧x≤(A5:Int)) (nw (.cells A1 false (I1 (Int.toNat x) [.int .u8 0])) w fun p1 w1=>aSome c fun p_1=>gFv (add p_1 1) w1 fun z1=>isNilF z1 fun p2=>bnd (cond p2 (some (true,w1)) (aSome c fun p_2=>gFv (add p_2 1) w1 fun z2=>gAgg ⟨b,0,none⟩ 4 w1 fun z3=>aFn z2 fun g fi cp=>bnd (C g (fi++([.agg ⟨z3⟩,.slice (some ⟨p1,0,none⟩) (Int.toNat x) (Int.toNat x)]++cp)) w1) fun r w2=>aBool r fun z4=>some (!z4,w2))) fun c_1 w3=>cond c_1
 (some (.tuple ⟨[.slice none 0 0,.bool false]⟩,w3))
 (some (.tuple ⟨[.slice (some ⟨p1,0,none⟩) (Int.toNat x) (Int.toNat x),.bool true]⟩,w3))):=kR
def Dg5:Cuts:=⟨0,[],[],[]⟩
def Eg0:List Item:=A2 Tryz.f282
theorem G29 (p:List Value) :
 xQ Dg5 C R Br0 Tryz.f282 Eg0 [(0,.agg ⟨p⟩)] h =
 nw (.cells E4 false p) h fun b w=>gInt .i64 ⟨b,0,none⟩ w fun x=>bnd (C Q3 [iI x,iI 0,iI 31] w) fun r w1=>aBool r fun z1=>bnd (cond z1 (gInt .i64 ⟨b,1,none⟩ w1 fun z2=>bnd (C Q3 [iI z2,iI 0,iI 32] w1) fun q1 w2=>aBool q1 fun z3=>some (z3,w2)) (some (false,w1))) fun c w3=>bnd (cond c (gInt .i64 ⟨b,2,none⟩ w3 fun z4=>bnd (C Q3 [iI z4,iI 0,iI 8] w3) fun q2 w4=>aBool q2 fun z5=>some (z5,w4)) (some (false,w3))) fun c_1 w5=>bnd (cond c_1 (gInt .i64 ⟨b,3,none⟩ w5 fun z6=>bnd (C Q3 [iI z6,iI 0,iI 8] w5) fun q3 w6=>aBool q3 fun z7=>some (z7,w6)) (some (false,w5))) fun c_2 w7=>some (.bool c_2,w7):=kR
def Dw8:Cuts:=⟨0,[],[],[]⟩
def E18:List Item:=A2 Tryz.f286
theorem Hh4 (c:List Value) :
 xQ Dw8 C R B86 Tryz.f286 E18 [(0,.agg ⟨c⟩),(1,.agg ⟨x⟩)] h =
 nw (.cells E3 false c) h fun b w=>nw (.cells I9 false x) w fun p1 w1=>gInt .i64 ⟨p1,0,none⟩ w1 fun z1=>bnd (cond (decide (z1<0)) (some (true,w1)) (gInt .i64 ⟨p1,0,none⟩ w1 fun z2=>gSl ⟨b,0,none⟩ w1 fun _ xn _=>some (decide (z2≥(xn:Int)),w1))) fun c_1 w2=>bnd (cond c_1 (some (true,w2)) (gInt .i64 ⟨p1,1,none⟩ w2 fun z4=>some (decide (z4<0),w2))) fun c_2 w3=>bnd (cond c_2 (some (true,w3)) (gInt .i64 ⟨p1,2,none⟩ w3 fun z5=>some (decide (z5<0),w3))) fun c_3 w4=>bnd (cond c_3 (some (true,w4)) (gInt .i64 ⟨p1,3,none⟩ w4 fun z6=>some (decide (z6<0),w4))) fun c_4 w5=>cond c_4
 (some (.bool false,w5))
 (gSl ⟨b,0,none⟩ w5 fun z7 xn_1 _=>gInt .i64 ⟨p1,0,none⟩ w5 fun z8=>aSome z7 fun p=>ck ((0:Int)≤z8∧z8<(xn_1:Int)) (gInt .i64 (add (B0 p) (Int.toNat z8*1)) w5 fun z9=>bnd (C Bi6 [iI z9] w5) fun r w6=>aInt .i64 r fun z10=>gInt .i64 ⟨p1,1,none⟩ w6 fun z11=>cond (decide (z11>z10))
 (some (.bool false,w6))
 (gInt .i64 ⟨p1,1,none⟩ w6 fun z12=>gInt .i64 ⟨p1,2,none⟩ w6 fun z13=>bnd (cond (decide (z13≤(wrap .i64 ((wrap .i64 (z10-z12))*64)))) (gInt .i64 ⟨p1,3,none⟩ w6 fun z14=>gInt .i64 ⟨p1,2,none⟩ w6 fun z15=>some (decide (z14≤(wrap .i64 ((wrap .i64 ((wrap .i64 (z10-z12))*64))-z15))),w6)) (some (false,w6))) fun c_5 w7=>some (.bool c_5,w7)))):=kR
def Bn4:Cuts:=⟨0,[],[],[]⟩
def Dk5:List Item:=A2 Tryz.f289
theorem E96 :
 xQ Bn4 C R Ao2 Tryz.f289 Dk5 [(0,iI n)] h =
 bnd (cond (decide (n≥0)) (some (decide (n≤65536),h)) (some (false,h))) fun c w=>some (.bool c,w):=kR
def B28:Cuts:=⟨0,[],[],[(1,⟨[0,1,2,3,4,5,6,7,8,9,10,11,12,13],[0,1,3,7,0,31,63,0,255,511,1023,1023,2047,8191],[],[]⟩)]⟩
def D07:List Item:=A2 Tryz.f291
theorem Gm6 (c:List Value) :
 xQ B28 C R Ax1 Tryz.f291 D07 [(0,.pointer s),(1,iI env),(2,.agg ⟨c⟩)] h =
 nw (.cells Q0 false c) h fun b w=>aSome s fun p=>gSl (add p 0) w fun x xn _=>aSome x fun p_1=>ck ((0:Int)≤env∧env<(xn:Int)) (gPtr (add (B0 p_1) (Int.toNat env*1)) w fun z1=>gAgg ⟨b,0,none⟩ 6 w fun z2=>bnd (C I7 [.pointer z1,.agg ⟨z2⟩] w) fun r w1=>as2 r fun q1 q2=>aInt .i64 q1 fun z3=>aBool q2 fun z4=>cond (!z4)
 (some (.tuple ⟨[iI 0,iI 4]⟩,w1))
 (some (.tuple ⟨[iI z3,iI 0]⟩,w1))):=kR
def A42:Cuts:=⟨0,[],[],[(6,⟨[0,1,2,3,4,5,6,7,8,9,10,11,12,13,14,15,16,17,18,19,20,21,22,23,24,25,26,27,28,29,30,31,32,33,34,35],[0,1,3,7,15,31,63,127,127,383,1023,2047,4095,8191,8191,24575,8191,122879,262143,524287,1048575,2097151,4194303,8388607,16777215,33554431,67108863,134217727,67108863,335544319,872415231,1946157055,4093640703,8589934591,17179869183,34359738367],[],[]⟩),(8,⟨[0,1,2,3,4,5,6,7,8,9],[0,1,3,7,0,16,63,127,0,511],[],[]⟩)]⟩
def By2:List Item:=A2 Tryz.f295
theorem Ed3 (r:Option Addr) (right:Int) :
 xQ A42 C R Ac1 Tryz.f295 By2 [(0,.pointer r),(1,iI env),(2,iI name),(3,iI right),(4,iI atv),(5,iI n)] h =
 aSome r fun p=>gPtr (add p 1) h fun x=>bnd (C Ax9 [.pointer x,iI env,iI name] h) fun q1 w=>as2 q1 fun q2 q3=>aAgg q2 fun z1=>aInt .i64 q3 fun z2=>nw (.cells Q0 false [iI 0,iI 0,iI 0,iI 0,iI 0,iI 0]) w fun b w1=>ck (List.length z1=6) (pAgg ⟨b,0,none⟩ z1 w1 fun w2=>cond (z2 != 0)
 (some (.tuple ⟨[iI 0,iI z2]⟩,w2))
 (gInt .i64 ⟨b,1,none⟩ w2 fun z3=>cond ((B4 .i64 z3 right)==0)
 (some (.tuple ⟨[iI 0,iI 3]⟩,w2))
 (bnd (cond (decide (atv<0)) (some (true,w2)) (some (decide (n<0),w2))) fun c w3=>bnd (cond c (some (true,w3)) (gInt .i64 ⟨b,3,none⟩ w3 fun z4=>some (decide (atv>z4),w3))) fun c_1 w4=>bnd (cond c_1 (some (true,w4)) (gInt .i64 ⟨b,3,none⟩ w4 fun z5=>some (decide (n>(wrap .i64 (z5-atv))),w4))) fun c_2 w5=>bnd (cond c_2 (some (true,w5)) (gInt .i64 ⟨b,0,none⟩ w5 fun z6=>some (decide (z6<0),w5))) fun c_3 w6=>bnd (cond c_3 (some (true,w6)) (gInt .i64 ⟨b,0,none⟩ w6 fun z7=>aSome r fun p_1=>gSl (add p_1 2) w6 fun _ xn _=>some (decide (z7≥(xn:Int)),w6))) fun c_4 w7=>cond c_4
 (some (.tuple ⟨[iI 0,iI 1]⟩,w7))
 (aSome r fun p_2=>gSl (add p_2 2) w7 fun z9 xn_1 _=>gInt .i64 ⟨b,0,none⟩ w7 fun z10=>aSome z9 fun p_3=>ck ((0:Int)≤z10∧z10<(xn_1:Int)) (gAgg (add (B0 p_3) (Int.toNat z10*2)) 2 w7 fun z11=>nw (.cells A03 false [iI 0,iI 0]) w7 fun p1 w8=>ck (List.length z11=2) (pAgg ⟨p1,0,none⟩ z11 w8 fun w9=>gInt .i64 ⟨b,2,none⟩ w9 fun z12=>gInt .i64 ⟨p1,1,none⟩ w9 fun z13=>bnd (cond (decide ((wrap .i64 (z12+atv))>z13)) (some (true,w9)) (gInt .i64 ⟨p1,1,none⟩ w9 fun z14=>gInt .i64 ⟨b,2,none⟩ w9 fun z15=>some (decide (n>(wrap .i64 ((wrap .i64 (z14-z15))-atv))),w9))) fun c_5 w10=>cond c_5
 (some (.tuple ⟨[iI 0,iI 1]⟩,w10))
 (gInt .i64 ⟨p1,0,none⟩ w10 fun z16=>gInt .i64 ⟨b,2,none⟩ w10 fun z17=>some (.tuple ⟨[iI (wrap .i64 ((wrap .i64 (z16+z17))+atv)),iI 0]⟩,w10)))))))):=kR
def B26:Cuts:=⟨0,[],[],[]⟩
def D02:List Item:=A2 Tryz.f300
theorem Go5 (s:Int) :
 xQ B26 C R Am1 Tryz.f300 D02 [(0,.pointer q),(1,iI s)] h =
 bnd (cond (decide (s≥0)) (aSome q fun p=>gSl (add p 0) h fun _ xn _=>some (decide (s<(xn:Int)),h)) (some (false,h))) fun c w=>some (.bool c,w):=kR
def B10:Cuts:=⟨0,[],[],[]⟩
def D24:List Item:=A2 Tryz.f305
theorem Gn1 (n:Option Addr) :
 xQ B10 C R Bc2 Tryz.f305 D24 [(0,.pointer n),(1,iI name)] h =
 bnd (cond (decide (name≥0)) (aSome n fun p=>gSl (add p 0) h fun _ xn _=>some (decide ((B4 .i64 name 255)<(xn:Int)),h)) (some (false,h))) fun c w=>bnd (cond c (aSome n fun p_1=>gSl (add p_1 0) w fun z1 xn_1 _=>aSome z1 fun p_2=>ck ((0:Int)≤B4 .i64 name 255∧B4 .i64 name 255<(xn_1:Int)) (gBool (add (add (B0 p_2) (Int.toNat (B4 .i64 name 255)*2)) 1) w fun z2=>some (z2,w))) (some (false,w))) fun c_1 w1=>bnd (cond c_1 (aSome n fun p_3=>gSl (add p_3 0) w1 fun z3 xn_2 _=>aSome z3 fun p_4=>ck ((0:Int)≤B4 .i64 name 255∧B4 .i64 name 255<(xn_2:Int)) (gInt .i64 (add (add (B0 p_4) (Int.toNat (B4 .i64 name 255)*2)) 0) w1 fun z4=>some (z4==(Int.fdiv name (2 ^ 8)),w1))) (some (false,w1))) fun c_2 w2=>some (.bool c_2,w2):=kR
def Dj7:Cuts:=⟨0,[(3,[3,9,10,11])],[],[]⟩
def Ed9:List Item:=A2 Tryz.f312
def Bs0:List Item:=stk [0,1,0,1,0,0,1,4,5] Ed9
theorem Hv0 :
 xQ Dj7 C R Ac2 Tryz.f312 Ed9 [(0,.slice b bn bc)] h =
 R Ac2 Bs0 [(3,.int .u8 (wrap .u8 ((bn:Int)))),(9,.slice b bn bc),(10,iI (bn:Int)),(11,iI 0)] h:=kR
theorem Ei8 (x9:Option Addr) (x9n x9c:Nat) (x11:Int) :
 xQ Dj7 C R Ac2 Tryz.f312 Bs0 [(3,.int .u8 n),(9,.slice x9 x9n x9c),(10,iI x10),(11,iI x11)] h =
 cond (decide (x11<x10))
 (aSome x9 fun p=>ck ((0:Int)≤x11∧x11<(x9n:Int)) (gInt .u8 (add (B0 p) (Int.toNat x11*1)) h fun x=>R Ac2 Bs0 [(3,.int .u8 (wrap .u8 (n+x))),(9,.slice x9 x9n x9c),(10,iI x10),(11,iI (wrap .i64 (x11+1)))] h))
 (some (.int .u8 n,h)):=kR
def Er5:Cuts:=⟨0,[],[],[(5,⟨[0,1,2,3,4],[0,1,0,4,15],[],[]⟩)]⟩
def Gu2:List Item:=A2 Tryz.f327
theorem Ib6 (p:List Value) :
 xQ Er5 C R Bs8 Tryz.f327 Gu2 [(0,.agg ⟨p⟩),(1,.slice b bn bc)] h =
 nw (.cells E4 false p) h fun p1 w=>gAgg ⟨p1,0,none⟩ 36 w fun x=>bnd (C D59 [.agg ⟨x⟩] w) fun r w1=>aBool r fun z1=>cond (!z1)
 (some (.bool false,w1))
 (gInt .i64 ⟨p1,0,none⟩ w1 fun z2=>gInt .i64 ⟨p1,1,none⟩ w1 fun z3=>gInt .i64 ⟨p1,2,none⟩ w1 fun z4=>gInt .i64 ⟨p1,3,none⟩ w1 fun z5=>nw (.cells A1 false [.int .u8 1,.int .u8 (wrap .u8 (z2)),.int .u8 (wrap .u8 (z3)),.int .u8 (wrap .u8 (z4)),.int .u8 (wrap .u8 (z5)),.int .u8 197]) w1 fun p2 w2=>gCells (some ⟨p2,0,none⟩) (min 6 bn*1) w2 fun cs=>pCells b cs w2 fun w3=>ckB (fitsOpen b A1 w3) (ck ((0:Int)≤6∧6≤(bc:Int)) (bnd (C Ac2 [.slice (G4 b (decide (0<bc)) (0*1)) ((Int.toNat 6)-0) (bc-0)] w3) fun q1 w4=>aInt .u8 q1 fun z6=>aSome b fun p_1=>ck ((0:Int)≤6∧6<(bn:Int)) (pV (add (B0 p_1) (Int.toNat 6*1)) (.int .u8 z6) w4 fun w5=>ckB (fitsOpen b A1 w5) (ck ((0:Int)≤8∧8≤(bn:Int)) (ckB (liveA ⟨p1,4,none⟩ w5) (gCells (G4 (some ⟨p1,4,none⟩) (decide (0<32)) (0*1)) (min (32-0) (bn-(Int.toNat 8))*1) w5 fun cs_1=>pCells (G4 b (decide (Int.toNat 8<bc)) ((Int.toNat 8)*1)) cs_1 w5 fun w6=>some (.bool true,w6)))))))):=kR
def D98:Cuts:=⟨0,[],[],[]⟩
def Gh5:List Item:=A2 Tryz.f329
theorem H23 (A5:Int) :
 xQ D98 C R Av8 Tryz.f329 Gh5 [(0,iI n),(1,iI A5)] h =
 bnd (cond (decide (n≥0)) (some (decide (n≤A5),h)) (some (false,h))) fun c w=>some (.bool c,w):=kR
def B67:Cuts:=⟨0,[],[],[]⟩
def D55:List Item:=A2 Tryz.f330
theorem Gw5 (a:List Value) (b:List Value) :
 xQ B67 C R Bl0 Tryz.f330 D55 [(0,.agg ⟨a⟩),(1,.agg ⟨b⟩)] h =
 nw (.cells A6 false a) h fun p1 w=>nw (.cells A6 false b) w fun p2 w1=>gInt .i64 ⟨p1,0,none⟩ w1 fun x=>gInt .i64 ⟨p2,0,none⟩ w1 fun z1=>bnd (cond (decide (x<z1)) (some (true,w1)) (gInt .i64 ⟨p1,0,none⟩ w1 fun z2=>gInt .i64 ⟨p2,0,none⟩ w1 fun z3=>bnd (cond (z2==z3) (gInt .i64 ⟨p1,1,none⟩ w1 fun z4=>gInt .i64 ⟨p2,1,none⟩ w1 fun z5=>some (decide (z4<z5),w1)) (some (false,w1))) fun c w2=>some (c,w2))) fun c_1 w3=>some (.bool c_1,w3):=kR
end
end Go.EQ

set_option maxRecDepth 100000
namespace Go.EQ
open Go Go.NN Go.Proofs
open Go.IntKind (wrap)
open Go.Addr (add)
variable (C:D1) (R:Aa5) (fv0 group p random swaps x2 x4 x6:Addr) (h:H) (a atv code e env fd fromv g i idx j k kind lease length modulus n name on size target to x10 x11 x21 x22 x7 x8 x90 x91:Int) (f x:List Value) (bc bn datac datan filesc filesn lc ln outc outn sc slicesc slicesn sn x20c x20n x89c x89n x9c x9n:Nat) (b c data files l m out q r s slices t x20 x89 x9:Option Addr) (cmp decode of:Value)
noncomputable section
def Do8:Cuts:=⟨0,[],[],[(5,⟨[0,1,2,3,4],[0,1,0,4,15],[(3,[1])],[]⟩)]⟩
def Eu7:List Item:=A2 Tryz.f9
theorem He5 :
 xQ Do8 C R Bi1 Tryz.f9 Eu7 [] h =
 bnd (C Bh8 [] h) fun r w=>aStr r fun x=>ck (ByteArray.size x≤A5) (nw (.cells A1 false (A0 (ByteArray.data x).toList)) w fun b w1=>nw (.cells B1 false zZ1) w1 fun p1 w2=>pAgg ⟨p1,0,none⟩ [iI 1,iI 0,iI 0,iI 0,iI 0,iI 0,iI 0,iI 0,iI 0,iI 0,iI 0,iI 0,iI 0,iI 0,iI 0,iI 0] w2 fun w3=>ck ((0:Int)≤0∧0<((8:Nat):Int)) (pV (add ⟨p1,8,none⟩ (Int.toNat 0*1)) (iI 1) w3 fun w4=>gAgg ⟨p1,0,none⟩ 16 w4 fun z1=>bnd (C N6 [.agg ⟨z1⟩] w4) fun q1 w5=>aStr q1 fun z2=>pCells (some (G7 b)) (A0 (List.take (min (ByteArray.size z2) (ByteArray.size x)) (ByteArray.data z2).toList)) w5 fun w6=>ckB (fitsOpen (some (G7 b)) A1 w6) (ck ((0:Int)≤192∧192≤((ByteArray.size x:Nat):Int)) (bnd (C Aq9 [.agg ⟨[iI 3,iI 0,iI 1,iI 0]⟩] w6) fun q2 w7=>aStr q2 fun z3=>ckB (fitsOpen (some (G7 b)) A1 w7) (ck ((0:Int)≤192∧192≤((ByteArray.size x:Nat):Int)) (same (.slice (G4 (some (G7 b)) (decide (Int.toNat 192<ByteArray.size x)) ((Int.toNat 192)*1)) ((ByteArray.size x)-(Int.toNat 192)) ((ByteArray.size x)-(Int.toNat 192))) (.slice (G4 (some (G7 b)) (decide (Int.toNat 192<ByteArray.size x)) ((Int.toNat 192)*1)) ((ByteArray.size x)-(Int.toNat 192)) ((ByteArray.size x)-(Int.toNat 192))) (pCells (G4 (some (G7 b)) (decide (Int.toNat 192<ByteArray.size x)) ((Int.toNat 192)*1)) (A0 (List.take (min (ByteArray.size z3) ((ByteArray.size x)-(Int.toNat 192))) (ByteArray.data z3).toList)) w7 fun w8=>some (.slice (some (G7 b)) (ByteArray.size x) (ByteArray.size x),w8)))))))):=kR
def Dp1:Cuts:=⟨0,[],[],[]⟩
def Ew3:List Item:=A2 Tryz.f14
theorem Hc6 :
 xQ Dp1 C R By7 Tryz.f14 Ew3 [] h =
 bnd (C Bi1 [] h) fun r w=>aSl r fun x xn xc=>bnd (C Y2 [.slice x xn xc] w) fun q1 w1=>as4 q1 fun q2 q3 q4 q5=>aPtr q2 fun _=>aPtr q3 fun z2=>aPtr q4 fun _=>aPtr q5 fun _=>cond z2.isNone
 (some (.bool false,w1))
 (bnd (C Ac4 [.pointer z2,iI 0] w1) fun q6 w2=>aAgg q6 fun z5=>nw (.cells O6 false [iI 0,iI 0,.slice none 0 0,.bool false]) w2 fun b w3=>ck (List.length z5=4) (pAgg ⟨b,0,none⟩ z5 w3 fun w4=>bnd (C A49 [.pointer z2,iI 0] w4) fun q7 w5=>aAgg q7 fun z6=>nw (.cells O6 false [iI 0,iI 0,.slice none 0 0,.bool false]) w5 fun p1 w6=>ck (List.length z6=4) (pAgg ⟨p1,0,none⟩ z6 w6 fun w7=>bnd (C Ac4 [.pointer z2,iI 0] w7) fun q8 w8=>aAgg q8 fun z7=>nw (.cells O6 false [iI 0,iI 0,.slice none 0 0,.bool false]) w8 fun p2 w9=>ck (List.length z7=4) (pAgg ⟨p2,0,none⟩ z7 w9 fun w10=>bnd (C Ac3 [.pointer z2,iI 1] w10) fun q9 w11=>as2 q9 fun q10 q11=>aAgg q10 fun z8=>aInt .i64 q11 fun z9=>nw (.cells B1 false zZ1) w11 fun p3 w12=>ck (List.length z8=16) (pAgg ⟨p3,0,none⟩ z8 w12 fun w13=>gInt .i64 ⟨b,1,none⟩ w13 fun z10=>bnd (cond (z10==110) (gInt .i64 ⟨p1,1,none⟩ w13 fun z11=>some (z11==0,w13)) (some (false,w13))) fun c w14=>bnd (cond c (gInt .i64 ⟨p1,0,none⟩ w14 fun z12=>some (z12==1,w14)) (some (false,w14))) fun c_1 w15=>bnd (cond c_1 (gBool ⟨p2,3,none⟩ w15 fun z13=>some (z13,w15)) (some (false,w15))) fun c_2 w16=>bnd (cond c_2 (some (z9==0,w16)) (some (false,w16))) fun c_3 w17=>bnd (cond c_3 (gInt .i64 ⟨p3,1,none⟩ w17 fun z14=>some (z14==1,w17)) (some (false,w17))) fun c_4 w18=>bnd (cond c_4 (ck ((0:Int)≤0∧0<((8:Nat):Int)) (gInt .i64 (add ⟨p3,8,none⟩ (Int.toNat 0*1)) w18 fun z15=>some (z15==1,w18))) (some (false,w18))) fun c_5 w19=>some (.bool c_5,w19)))))):=kR
def Dd8:Cuts:=⟨0,[],[],[(7,⟨[0,1,2,3,4,5,6,7,8,9,10,11,12,13,14,15,16],[0,1,3,7,0,0,32,0,128,0,512,2047,4095,8191,8191,16383,65535],[],[]⟩),(9,⟨[0,1,2,3,4,5,6,7,8,9,10,11,12,13],[0,1,3,7,0,0,32,0,128,0,512,1536,4095,8191],[],[]⟩),(11,⟨[0,1,2,3,4,5,6,7,8,9,10,11,12,13,14,15,16],[0,1,3,7,0,0,32,0,128,0,512,0,2048,0,8192,32767,65535],[],[]⟩),(13,⟨[0,1,2,3,4,5,6,7,8,9,10,11,12,13,14,15,16,17,18,19,20,21,22,23],[0,1,3,7,15,31,63,0,0,256,0,1024,0,4096,0,16384,0,65536,262143,524287,1048575,1048575,2097151,8388607],[],[]⟩),(15,⟨[0,1,2,3,4,5,6,7,8,9,10,11,12,13,14,15],[0,1,3,7,15,31,63,0,0,256,1023,2047,4095,4095,8191,32767],[],[]⟩),(17,⟨[0,1,2,3,4,5,6,7,8,9,10,11,12,13,14,15,16,17],[0,1,3,7,0,16,48,112,240,0,1008,2032,4095,8191,16383,16383,32767,131071],[],[]⟩),(19,⟨[0,1,2,3,4,5,6,7,8,9,10,11,12,13,14,15],[0,1,3,7,0,16,48,112,240,0,1008,2032,0,4096,16383,32767],[],[]⟩),(23,⟨[0,1,2,3,4,5,6,7,8,9,10,11,12,13,14,15,16,17],[0,1,3,7,0,16,63,127,0,0,512,1536,3584,8191,16383,32767,32767,65535],[],[]⟩),(27,⟨[0,1,2,3,4,5,6,7,8,9,10,11,12,13,14,15,16,17,18],[0,0,0,4,15,31,63,127,255,511,63,1087,4095,8191,63,63,32831,131071,262143],[],[]⟩)]⟩
def Eh7:List Item:=A2 Tryz.f37
theorem Eg2 (k:Option Addr) (c:List Value) :
 xQ Dd8 C R Ad8 Tryz.f37 Eh7 [(0,.pointer k),(1,iI e),(2,.agg ⟨c⟩)] h =
 nw (.cells As7 false c) h fun b w=>bnd (cond (decide (e<0)) (some (true,w)) (aSome k fun p=>gSl (add (add p 0) 1) w fun _ xn _=>some (decide (e≥(xn:Int)),w))) fun c_1 w1=>cond c_1
 (some (.tuple ⟨[iI 1,iI 0,.string (ByteArray.mk ⟨[]⟩)]⟩,w1))
 (gInt .i64 ⟨b,0,none⟩ w1 fun z1=>cond (z1==1)
 (aSome k fun p_1=>gPtr (add p_1 6) w1 fun z2=>gInt .i64 ⟨b,1,none⟩ w1 fun z3=>gInt .i64 ⟨b,2,none⟩ w1 fun z4=>gInt .i64 ⟨b,3,none⟩ w1 fun z5=>bnd (C Ay9 [.pointer z2,iI e,iI z3,iI z4,iI z5] w1) fun r w2=>as2 r fun q1 q2=>aStr q1 fun z6=>aInt .i64 q2 fun z7=>some (.tuple ⟨[iI z7,iI 0,.string z6]⟩,w2))
 (cond (z1==2)
 (aSome k fun p_2=>gPtr (add p_2 6) w1 fun z8=>gInt .i64 ⟨b,1,none⟩ w1 fun z9=>gInt .i64 ⟨b,2,none⟩ w1 fun z10=>gSl ⟨b,6,none⟩ w1 fun z11 xn_1 _=>gCells z11 xn_1 w1 fun cs=>asBytes cs fun l=>bnd (C As9 [.pointer z8,iI e,iI z9,iI z10,.string (ByteArray.mk ⟨l⟩)] w1) fun q3 w3=>aInt .i64 q3 fun z12=>some (.tuple ⟨[iI z12,iI 0,.string (ByteArray.mk ⟨[]⟩)]⟩,w3))
 (cond (z1==3)
 (aSome k fun p_3=>gPtr (add p_3 6) w1 fun z13=>gInt .i64 ⟨b,1,none⟩ w1 fun z14=>gInt .i64 ⟨b,2,none⟩ w1 fun z15=>gInt .i64 ⟨b,4,none⟩ w1 fun z16=>gInt .i64 ⟨b,5,none⟩ w1 fun z17=>gInt .i64 ⟨b,3,none⟩ w1 fun z18=>bnd (C Ey0 [.pointer z13,iI e,iI z14,iI z15,iI z16,iI z17,iI z18] w1) fun q4 w4=>aInt .i64 q4 fun z19=>some (.tuple ⟨[iI z19,iI 0,.string (ByteArray.mk ⟨[]⟩)]⟩,w4))
 (cond (z1==4)
 (aSome k fun p_4=>gPtr (add p_4 6) w1 fun z20=>aSome z20 fun p_5=>gPtr (add p_5 3) w1 fun z21=>gInt .i64 ⟨b,1,none⟩ w1 fun z22=>gInt .i64 ⟨b,4,none⟩ w1 fun z23=>gInt .i64 ⟨b,5,none⟩ w1 fun z24=>gInt .i64 ⟨b,2,none⟩ w1 fun z25=>gInt .i64 ⟨b,3,none⟩ w1 fun z26=>bnd (C E37 [.pointer z21,iI e,iI z22,iI z23,iI z24,iI z25,iI z26] w1) fun q5 w5=>as2 q5 fun q6 q7=>aInt .i64 q6 fun z27=>aInt .i64 q7 fun z28=>some (.tuple ⟨[iI z28,iI z27,.string (ByteArray.mk ⟨[]⟩)]⟩,w5))
 (cond (z1==5)
 (aSome k fun p_6=>gPtr (add p_6 6) w1 fun z29=>aSome z29 fun p_7=>gPtr (add p_7 3) w1 fun z30=>gInt .i64 ⟨b,1,none⟩ w1 fun z31=>bnd (C Ex5 [.pointer z30,iI e,iI z31] w1) fun q8 w6=>as2 q8 fun q9 q10=>aInt .i64 q9 fun z32=>aInt .i64 q10 fun z33=>some (.tuple ⟨[iI z33,iI z32,.string (ByteArray.mk ⟨[]⟩)]⟩,w6))
 (cond (z1==6)
 (aSome k fun p_8=>gPtr (add p_8 5) w1 fun z34=>aSome k fun p_9=>gSl (add (add p_9 0) 1) w1 fun z35 xn_2 _=>aSome z35 fun p_10=>ck ((0:Int)≤e∧e<(xn_2:Int)) (gInt .i64 (add (B0 p_10) (Int.toNat e*1)) w1 fun z36=>bnd (C E90 [.pointer z34,iI z36] w1) fun q11 w7=>as2 q11 fun q12 q13=>aInt .i64 q12 fun z37=>aInt .i64 q13 fun z38=>some (.tuple ⟨[iI z38,iI z37,.string (ByteArray.mk ⟨[]⟩)]⟩,w7)))
 (cond (z1==7)
 (aSome k fun p_11=>gPtr (add p_11 5) w1 fun z39=>aSome k fun p_12=>gSl (add (add p_12 0) 1) w1 fun z40 xn_3 _=>aSome z40 fun p_13=>ck ((0:Int)≤e∧e<(xn_3:Int)) (gInt .i64 (add (B0 p_13) (Int.toNat e*1)) w1 fun z41=>gInt .i64 ⟨b,3,none⟩ w1 fun z42=>bnd (C Gf3 [.pointer z39,iI z41,iI z42] w1) fun q14 w8=>aInt .i64 q14 fun z43=>some (.tuple ⟨[iI z43,iI 0,.string (ByteArray.mk ⟨[]⟩)]⟩,w8)))
 (cond (z1==8)
 (gInt .i64 ⟨b,3,none⟩ w1 fun z44=>bnd (C D50 [.pointer k,iI e,iI z44] w1) fun q15 w9=>aBool q15 fun z45=>cond z45
 (aSome k fun p_14=>gSl (add p_14 7) w9 fun z46 xn_4 _=>gInt .i64 ⟨b,3,none⟩ w9 fun z47=>aSome z46 fun p_15=>ck ((0:Int)≤z47∧z47<(xn_4:Int)) (gPtr (add (B0 p_15) (Int.toNat z47*1)) w9 fun z48=>aSome k fun p_16=>gInt .i64 (add p_16 8) w9 fun z49=>bnd (C Gf2 [.pointer z48,iI e,iI z49] w9) fun q16 w10=>as2 q16 fun q17 q18=>aInt .i64 q17 fun z50=>aBool q18 fun _=>some (.tuple ⟨[iI 0,iI z50,.string (ByteArray.mk ⟨[]⟩)]⟩,w10)))
 (some (.tuple ⟨[iI 8,iI 0,.string (ByteArray.mk ⟨[]⟩)]⟩,w9)))
 (cond (z1==9)
 (gInt .i64 ⟨b,3,none⟩ w1 fun z52=>bnd (C D50 [.pointer k,iI e,iI z52] w1) fun q19 w11=>aBool q19 fun z53=>bnd (cond z53 (aSome k fun p_17=>gSl (add p_17 7) w11 fun z54 xn_5 _=>gInt .i64 ⟨b,3,none⟩ w11 fun z55=>aSome z54 fun p_18=>ck ((0:Int)≤z55∧z55<(xn_5:Int)) (gPtr (add (B0 p_18) (Int.toNat z55*1)) w11 fun z56=>gInt .i64 ⟨b,2,none⟩ w11 fun z57=>bnd (C Gf5 [.pointer z56,iI e,iI z57] w11) fun q20 w12=>aBool q20 fun z58=>some (z58,w12))) (some (false,w11))) fun c_2 w13=>cond c_2
 (some (.tuple ⟨[iI 0,iI 0,.string (ByteArray.mk ⟨[]⟩)]⟩,w13))
 (some (.tuple ⟨[iI 8,iI 0,.string (ByteArray.mk ⟨[]⟩)]⟩,w13)))
 (cond (z1==10)
 (aSome k fun p_19=>gInt .i64 (add p_19 8) w1 fun z59=>some (.tuple ⟨[iI 0,iI z59,.string (ByteArray.mk ⟨[]⟩)]⟩,w1))
 (some (.tuple ⟨[iI 7,iI 0,.string (ByteArray.mk ⟨[]⟩)]⟩,w1)))))))))))):=kR
def Di2:Cuts:=⟨0,[(2,[0,6])],[],[]⟩
def Ea7:List Item:=A2 Tryz.f41
def Bt3:List Item:=stk [0,1,0,0,1,4,5] Ea7
theorem H10 :
 xQ Di2 C R Av0 Tryz.f41 Ea7 [(0,.pointer c)] h =
 R Av0 Bt3 [(0,.pointer c),(6,iI 0)] h:=kR
theorem Ei7 (x6:Int) :
 xQ Di2 C R Av0 Tryz.f41 Bt3 [(0,.pointer c),(6,iI x6)] h =
 cond (decide (x6<8))
 (bnd (C J4 [.pointer c,iI x6] h) fun r w=>as2 r fun q1 q2=>aAgg q1 fun x=>aInt .i64 q2 fun z1=>nw (.cells B1 false zZ1) w fun b w1=>ck (List.length x=16) (pAgg ⟨b,0,none⟩ x w1 fun w2=>cond (z1==0)
 (some (iI x6,w2))
 (R Av0 Bt3 [(0,.pointer c),(6,iI (wrap .i64 (x6+1)))] w2)))
 (some (iI (-1),h)):=kR
def Bd4:Cuts:=⟨0,[(6,[0,1,2,6,9])],[(24,[0,1,6])],[]⟩
def Bd8:List Item:=A2 Tryz.f58
def D34:List Item:=stk [0,1,0,1,0,1,0,0,1,4,5] Bd8
theorem Er0 :
 xQ Bd4 C R Ag1 Tryz.f58 Bd8 [(0,.pointer c),(1,iI i),(2,iI code)] h =
 nw (.cells O6 false [iI 0,iI 0,.slice none 0 0,.bool false]) h fun b w=>bnd (C L7 [.pointer c,iI i] w) fun r w1=>as2 r fun q1 q2=>aAgg q1 fun x=>aInt .i64 q2 fun z1=>nw (.cells B1 false zZ1) w1 fun p1 w2=>ck (List.length x=16) (pAgg ⟨p1,0,none⟩ x w2 fun w3=>cond (z1 != 0)
 (bnd (C Af8 [iI z1] w3) fun q3 w4=>aAgg q3 fun z2=>ck (List.length z2=4) (pAgg ⟨b,0,none⟩ z2 w4 fun w5=>gAgg ⟨b,0,none⟩ 4 w5 fun z3=>some (.agg ⟨z3⟩,w5)))
 (bnd (C Bn9 [.pointer c,iI i] w3) fun q4 w6=>as0 q4 (R Ag1 D34 [(0,.pointer c),(1,iI i),(2,iI code),(6,pP b),(9,iI 0)] w6))):=kR
def Aq4:Cuts:=⟨0,[],[],[]⟩
def Bh0:List Item:=A2 Tryz.f71
theorem Dp5 :
 xQ Aq4 C R O3 Tryz.f71 Bh0 [(0,.pointer c),(1,iI i)] h =
 bnd (C Aw2 [iI i] h) fun r w=>aAgg r fun x=>bnd (C Ak2 [.pointer c,.agg ⟨x⟩] w) fun q1 w1=>aBool q1 fun z1=>some (.bool z1,w1):=kR
def B79:Cuts:=⟨0,[(3,[0,1,5,10])],[],[]⟩
def D11:List Item:=A2 Tryz.f72
def A20:List Item:=stk [0,1,0,1,0,0,1,4,5] D11
theorem Hn1 :
 xQ B79 C R Ag6 Tryz.f72 D11 [(0,.pointer c),(1,of)] h =
 R Ag6 A20 [(0,.pointer c),(1,of),(5,.slice none 0 0),(10,iI 0)] h:=kR
theorem D65 :
 xQ B79 C R Ag6 Tryz.f72 A20 [(0,.pointer c),(1,of),(5,.slice out outn outc),(10,iI x10)] h =
 cond (decide (x10<8))
 (bnd (C J4 [.pointer c,iI x10] h) fun r w=>as2 r fun q1 q2=>aAgg q1 fun x=>aInt .i64 q2 fun z1=>nw (.cells B1 false zZ1) w fun b w1=>ck (List.length x=16) (pAgg ⟨b,0,none⟩ x w1 fun w2=>gAgg ⟨b,0,none⟩ 16 w2 fun z2=>ck (List.length z2=16) (nw (.cells Y6 false zZ2) w2 fun p1 w3=>ck (List.length (iI x10::(z2++[]))=17) (pAgg ⟨p1,0,none⟩ (iI x10::(z2++[])) w3 fun w4=>bnd (cond (z1==1) (gAgg ⟨p1,0,none⟩ 17 w4 fun z3=>aFn of fun g fi cp=>bnd (C g (fi++([.agg ⟨z3⟩]++cp)) w4) fun q3 w5=>aBool q3 fun z4=>some (z4,w5)) (some (false,w4))) fun c_1 w6=>cond c_1
 (gAgg ⟨p1,0,none⟩ 17 w6 fun z5=>ck (List.length z5=17) (nw (.cells Y6 false (z5++[])) w6 fun p2 w7=>gCells (some ⟨p2,0,none⟩) (1*17) w7 fun cs=>ckB (fitsOpen out Y6 w7) (apd Y6 17 out outn outc 1 cs w7 fun a an ac w8=>R Ag6 A20 [(0,.pointer c),(1,of),(5,.slice a an ac),(10,iI (wrap .i64 (x10+1)))] w8)))
 (R Ag6 A20 [(0,.pointer c),(1,of),(5,.slice out outn outc),(10,iI (wrap .i64 (x10+1)))] w6)))))
 (some (.slice out outn outc,h)):=kR
def Ba5:Cuts:=⟨0,[(3,[1,2,3,4]),(7,[1,2,3,4,5]),(13,[1,2,3,6])],[],[]⟩
def Bo5:List Item:=A2 Tryz.f100
def Bm8:List Item:=stk [0,1,0,1,0,0,1,4,5] Bo5
def A27:List Item:=stk [0,1,0,1,0,0,1,4,5,6,0,1,0,4,0,1,0,0,1,4,5] Bo5
def Bm6:List Item:=stk [0,1,0,1,0,1,0,0,1,4,5] Bo5
theorem Hk1 (p:List Value) :
 xQ Ba5 C R J6 Tryz.f100 Bo5 [(0,.agg ⟨p⟩)] h =
 nw (.cells B70 false p) h fun b w=>nw (.cells E3 false [.slice none 0 0,.slice none 0 0,.slice none 0 0,iI 0,.slice none 0 0]) w fun p1 w1=>gInt .i64 ⟨b,2,none⟩ w1 fun x=>nw (.cells E3 false [.slice none 0 0,.slice none 0 0,.slice none 0 0,iI 0,.slice none 0 0]) w1 fun p2 w2=>pAgg ⟨p2,0,none⟩ [.slice none 0 0,.slice none 0 0,.slice none 0 0,iI x,.slice none 0 0] w2 fun w3=>R J6 Bm8 [(1,pP b),(2,pP p1),(3,pP p2),(4,iI 0)] w3:=kR
theorem D74 (b:Addr) (s:Int) :
 xQ Ba5 C R J6 Tryz.f100 Bm8 [(1,.pointer (some p)),(2,.pointer (some x2)),(3,.pointer (some b)),(4,iI s)] h =
 gSl (add p 0) h fun _ xn _=>cond (decide (s<(xn:Int)))
 (gSl (add b 0) h fun z1 xn_1 xc_1=>nw (.cells B2 false [iI 20]) h fun p1 w=>gCells (some ⟨p1,0,none⟩) (1*1) w fun cs=>ckB (fitsOpen z1 B2 w) (apd B2 1 z1 xn_1 xc_1 1 cs w fun a an ac w1=>pV (add b 0) (.slice a an ac) w1 fun w2=>R J6 A27 [(1,.pointer (some p)),(2,.pointer (some x2)),(3,.pointer (some b)),(4,iI s),(5,iI 0)] w2))
 (R J6 Bm6 [(1,.pointer (some p)),(2,.pointer (some x2)),(3,.pointer (some b)),(6,iI 0)] h):=kR
theorem D70 (b:Addr) (s:Int) :
 xQ Ba5 C R J6 Tryz.f100 A27 [(1,.pointer (some p)),(2,.pointer (some x2)),(3,.pointer (some b)),(4,iI s),(5,iI i)] h =
 cond (decide (i<9))
 (gSl (add b 1) h fun x xn xc=>nw (.cells B2 false [iI s]) h fun p1 w=>gCells (some ⟨p1,0,none⟩) (1*1) w fun cs=>ckB (fitsOpen x B2 w) (apd B2 1 x xn xc 1 cs w fun a an ac w1=>pV (add b 1) (.slice a an ac) w1 fun w2=>R J6 A27 [(1,.pointer (some p)),(2,.pointer (some x2)),(3,.pointer (some b)),(4,iI s),(5,iI (wrap .i64 (i+1)))] w2))
 (gSl (add b 2) h fun z1 xn_1 xc_1=>nw (.cells B2 false [iI s]) h fun p2 w3=>nw (.cells L0 false [.slice (some ⟨p2,0,none⟩) 1 1]) w3 fun p3 w4=>gCells (some ⟨p3,0,none⟩) (1*1) w4 fun cs_1=>ckB (fitsOpen z1 L0 w4) (apd L0 1 z1 xn_1 xc_1 1 cs_1 w4 fun a_1 an_1 ac_1 w5=>pV (add b 2) (.slice a_1 an_1 ac_1) w5 fun w6=>gSl (add b 4) w6 fun z2 xn_2 xc_2=>nw (.cells B2 false [iI s]) w6 fun p4 w7=>nw (.cells I9 false [iI s,iI 0,iI 0,iI 492,.slice (some ⟨p4,0,none⟩) 1 1]) w7 fun p5 w8=>gCells (some ⟨p5,0,none⟩) (1*5) w8 fun cs_2=>ckB (fitsOpen z2 I9 w8) (apd I9 5 z2 xn_2 xc_2 1 cs_2 w8 fun a_2 an_2 ac_2 w9=>pV (add b 4) (.slice a_2 an_2 ac_2) w9 fun w10=>R J6 Bm8 [(1,.pointer (some p)),(2,.pointer (some x2)),(3,.pointer (some b)),(4,iI (wrap .i64 (s+1)))] w10))):=kR
theorem D78 (b:Addr) :
 xQ Ba5 C R J6 Tryz.f100 Bm6 [(1,.pointer (some p)),(2,.pointer (some x2)),(3,.pointer (some b)),(6,iI i)] h =
 gSl (add p 1) h fun _ xn _=>cond (decide (i<(xn:Int)))
 (gSl (add p 1) h fun z1 xn_1 _=>aSome z1 fun p_1=>ck ((0:Int)≤i∧i<(xn_1:Int)) (gAgg (add (B0 p_1) (Int.toNat i*2)) 2 h fun z2=>nw (.cells B85 false [iI 0,iI 0]) h fun p1 w=>ck (List.length z2=2) (pAgg ⟨p1,0,none⟩ z2 w fun w1=>gSl (add b 4) w1 fun z3 xn_2 xc_2=>gInt .i64 ⟨p1,0,none⟩ w1 fun z4=>gInt .i64 ⟨p1,0,none⟩ w1 fun z5=>gInt .i64 ⟨p1,1,none⟩ w1 fun z6=>nw (.cells B2 false [iI z5,iI z6]) w1 fun p2 w2=>nw (.cells I9 false [iI z4,iI (wrap .i64 (8+i)),iI 0,iI 40,.slice (some ⟨p2,0,none⟩) 2 2]) w2 fun p3 w3=>gCells (some ⟨p3,0,none⟩) (1*5) w3 fun cs=>ckB (fitsOpen z3 I9 w3) (apd I9 5 z3 xn_2 xc_2 1 cs w3 fun a an ac w4=>pV (add b 4) (.slice a an ac) w4 fun w5=>R J6 Bm6 [(1,.pointer (some p)),(2,.pointer (some x2)),(3,.pointer (some b)),(6,iI (wrap .i64 (i+1)))] w5))))
 (gAgg b 5 h fun z7=>ck (List.length z7=5) (pAgg x2 z7 h fun w6=>gAgg x2 5 w6 fun z8=>some (.agg ⟨z8⟩,w6))):=kR
def Bf4:Cuts:=⟨0,[(5,[1,4,20,21,22]),(12,[1,7,58,59,60]),(18,[7,89,90,91]),(22,[7,11,12,89,90,91,122,123,124])],[],[(9,⟨[0,1,3,5,6,7,9,10,2,4,8,11,12,13,14],[0,1,3,0,15,0,32,96,255,0,512,2047,4095,8191,16383],[(2,[6,10]),(4,[6,10]),(8,[10])],[]⟩),(10,⟨[0,1,2,3,4,5,6,7,8,9,10,11,12],[0,0,2,6,14,0,32,96,224,510,1023,2047,4095],[],[]⟩),(14,⟨[0,1,2,3,4,5,6,7,8,9,10,11],[0,0,2,6,14,0,32,96,254,511,1023,2047],[(6,[4])],[]⟩),(15,⟨[0,1,2,3,4,5,6,7,8,9,10,11,12],[0,0,2,6,14,0,32,96,224,510,1023,2047,4095],[(7,[4])],[]⟩),(20,⟨[0,1,2,3,4,5,6,7,8,9,11,12,15,16,18,19,10,13,14,17,20,21,22,23,24,25],[0,1,3,7,0,16,48,112,0,256,1008,0,2048,8176,16368,0,32768,131056,0,262144,1048575,2097151,4194303,4194303,8388607,33554431],[(10,[3,12,16,19])],[]⟩),(25,⟨[0,1,2,3,4,5,6,7,8,9],[0,1,3,7,0,0,0,64,224,511],[],[]⟩)]⟩
def Bt0:List Item:=A2 Tryz.f101
def B01:List Item:=stk [0,1,0,1,0,1,0,0,1,4,5] Bt0
def B02:List Item:=stk [0,1,0,1,0,1,0,1,0,1,0,1,0,0,1,4,5] Bt0
def Bh9:List Item:=stk [0,1,0,1,0,1,0,1,0,1,0,1,0,1,0,0,1,4,5] Bt0
def Bi0:List Item:=stk [0,1,0,1,0,1,0,1,0,1,0,1,0,1,0,0,1,4,5,6,0,1,0,1,0,4,0,1,0,1,0,1,4,5] Bt0
theorem Ie1 (c:List Value) :
 xQ Bf4 C R I4 Tryz.f101 Bt0 [(0,.agg ⟨c⟩)] h =
 nw (.cells E3 false c) h fun b w=>gAgg ⟨b,0,none⟩ 5 w fun x=>bnd (C U5 [.agg ⟨x⟩] w) fun r w1=>aBool r fun z1=>cond (!z1)
 (some (.tuple ⟨[.pointer none,iI 1]⟩,w1))
 (gSl ⟨b,0,none⟩ w1 fun z2 xn xc=>R I4 B01 [(1,pP b),(4,iI 0),(20,.slice z2 xn xc),(21,iI (xn:Int)),(22,iI 0)] w1):=kR
theorem Eu9 (c:Addr) (all:Int) :
 xQ Bf4 C R I4 Tryz.f101 B01 [(1,.pointer (some c)),(4,iI all),(20,.slice x20 x20n x20c),(21,iI x21),(22,iI x22)] h =
 cond (decide (x22<x21))
 (aSome x20 fun p=>ck ((0:Int)≤x22∧x22<(x20n:Int)) (gInt .i64 (add (B0 p) (Int.toNat x22*1)) h fun x=>bnd (C Bi6 [iI x] h) fun r w=>aInt .i64 r fun z1=>R I4 B01 [(1,.pointer (some c)),(4,iI (wrap .i64 (all+z1))),(20,.slice x20 x20n x20c),(21,iI x21),(22,iI (wrap .i64 (x22+1)))] w))
 (gSl (add c 1) h fun z2 xn xc=>gSl (add c 1) h fun z3 xn_1 xc_1=>gSl (add c 0) h fun z4 xn_2 xc_2=>bnd (C Y4 [.slice z2 xn xc] h) fun q1 w1=>aSl q1 fun z5 xn_3 xc_3=>gSl (add c 1) w1 fun z6 xn_4 xc_4=>same (.slice z3 xn_1 xc_1) (.slice z6 xn_4 xc_4) (gSl (add c 0) w1 fun z7 xn_5 xc_5=>same (.slice z4 xn_2 xc_2) (.slice z7 xn_5 xc_5) (bnd (C D67 [iI all] w1) fun q2 w2=>aPtr q2 fun z8=>gSl (add c 1) w2 fun z9 xn_6 xc_6=>same (.slice z3 xn_1 xc_1) (.slice z9 xn_6 xc_6) (gSl (add c 0) w2 fun z10 xn_7 xc_7=>same (.slice z4 xn_2 xc_2) (.slice z10 xn_7 xc_7) (bnd (C A11 [iI (xn_1:Int)] w2) fun q3 w3=>aPtr q3 fun z11=>gSl (add c 0) w3 fun z12 xn_8 xc_8=>same (.slice z4 xn_2 xc_2) (.slice z12 xn_8 xc_8) (bnd (C Aw0 [.slice z4 xn_2 xc_2] w3) fun q4 w4=>aPtr q4 fun z13=>nw (.cells Dj1 false [.slice z5 xn_3 xc_3,.slice none 0 0,.pointer z8,.pointer z11,.pointer z13,.pointer none,.slice none 0 0,iI 0]) w4 fun b w5=>gPtr ⟨b,2,none⟩ w5 fun z14=>gPtr ⟨b,3,none⟩ w5 fun z15=>bnd (C B91 [.pointer z14,.pointer z15] w5) fun q5 w6=>aPtr q5 fun z16=>pV ⟨b,5,none⟩ (.pointer z16) w6 fun w7=>gSl (add c 2) w7 fun z17 xn_9 xc_9=>R I4 B02 [(1,.pointer (some c)),(7,pP b),(58,.slice z17 xn_9 xc_9),(59,iI (xn_9:Int)),(60,iI 0)] w7)))))):=kR
theorem Ev7 (c:Addr) (k:Addr) (x58:Option Addr) (x58n x58c:Nat) (x59:Int) (x60:Int) :
 xQ Bf4 C R I4 Tryz.f101 B02 [(1,.pointer (some c)),(7,.pointer (some k)),(58,.slice x58 x58n x58c),(59,iI x59),(60,iI x60)] h =
 cond (decide (x60<x59))
 (aSome x58 fun p=>ck ((0:Int)≤x60∧x60<(x58n:Int)) (gSl (add (B0 p) (Int.toNat x60*1)) h fun x xn xc=>gSl (add k 1) h fun z1 xn_1 xc_1=>bnd (C Y4 [.slice x xn xc] h) fun r w=>aSl r fun z2 xn_2 xc_2=>gSl (add k 1) w fun z3 xn_3 xc_3=>same (.slice z1 xn_1 xc_1) (.slice z3 xn_3 xc_3) (nw (.cells L0 false [.slice z2 xn_2 xc_2]) w fun b w1=>gCells (some ⟨b,0,none⟩) (1*1) w1 fun cs=>ckB (fitsOpen z1 L0 w1) (apd L0 1 z1 xn_1 xc_1 1 cs w1 fun a an ac w2=>pV (add k 1) (.slice a an ac) w2 fun w3=>gSl (add k 6) w3 fun z4 xn_4 xc_4=>gInt .i64 (add c 3) w3 fun z5=>bnd (C Ds1 [iI z5] w3) fun q1 w4=>aPtr q1 fun z6=>gSl (add k 6) w4 fun z7 xn_5 xc_5=>same (.slice z4 xn_4 xc_4) (.slice z7 xn_5 xc_5) (nw (.cells A01 false [.pointer z6]) w4 fun p1 w5=>gCells (some ⟨p1,0,none⟩) (1*1) w5 fun cs_1=>ckB (fitsOpen z4 A01 w5) (apd A01 1 z4 xn_4 xc_4 1 cs_1 w5 fun a_1 an_1 ac_1 w6=>pV (add k 6) (.slice a_1 an_1 ac_1) w6 fun w7=>R I4 B02 [(1,.pointer (some c)),(7,.pointer (some k)),(58,.slice x58 x58n x58c),(59,iI x59),(60,iI (wrap .i64 (x60+1)))] w7))))))
 (gSl (add c 4) h fun z8 xn_6 xc_6=>R I4 Bh9 [(7,.pointer (some k)),(89,.slice z8 xn_6 xc_6),(90,iI (xn_6:Int)),(91,iI 0)] h):=kR
theorem Ex3 (k:Addr) :
 xQ Bf4 C R I4 Tryz.f101 Bh9 [(7,.pointer (some k)),(89,.slice x89 x89n x89c),(90,iI x90),(91,iI x91)] h =
 cond (decide (x91<x90))
 (aSome x89 fun p=>ck ((0:Int)≤x91∧x91<(x89n:Int)) (gAgg (add (B0 p) (Int.toNat x91*5)) 5 h fun x=>nw (.cells I9 false [iI 0,iI 0,iI 0,iI 0,.slice none 0 0]) h fun b w=>ck (List.length x=5) (pAgg ⟨b,0,none⟩ x w fun w1=>gPtr (add k 5) w1 fun z1=>gPtr (add k 4) w1 fun z2=>gInt .i64 ⟨b,0,none⟩ w1 fun z3=>gInt .i64 ⟨b,1,none⟩ w1 fun z4=>gInt .i64 ⟨b,2,none⟩ w1 fun z5=>gInt .i64 ⟨b,3,none⟩ w1 fun z6=>bnd (C P9 [.pointer z2,iI z3] w1) fun r w2=>aInt .i64 r fun z7=>gPtr (add k 5) w2 fun z8=>same (.pointer z1) (.pointer z8) (gInt .i64 ⟨b,1,none⟩ w2 fun z9=>same (iI z4) (iI z9) (gInt .i64 ⟨b,2,none⟩ w2 fun z10=>same (iI z5) (iI z10) (gInt .i64 ⟨b,3,none⟩ w2 fun z11=>same (iI z6) (iI z11) (bnd (C Ar6 [.pointer z1,iI (wrap .i64 ((wrap .i64 ((wrap .i64 (z7+z4))*64))+z5)),iI z6] w2) fun q1 w3=>as2 q1 fun q2 q3=>aInt .i64 q2 fun z12=>aInt .i64 q3 fun _=>gSl (add k 0) w3 fun z14 xn xc=>R I4 Bi0 [(7,.pointer (some k)),(11,pP b),(12,iI z12),(89,.slice x89 x89n x89c),(90,iI x90),(91,iI x91),(122,.slice z14 xn xc),(123,iI (xn:Int)),(124,iI 0)] w3)))))))
 (some (.tuple ⟨[.pointer (some k),iI 0]⟩,h)):=kR
theorem Ew8 (k:Addr) (x:Addr) (obj:Int) (x122:Option Addr) (x122n x122c:Nat) (x123:Int) (x124:Int) :
 xQ Bf4 C R I4 Tryz.f101 Bi0 [(7,.pointer (some k)),(11,.pointer (some x)),(12,iI obj),(89,.slice x89 x89n x89c),(90,iI x90),(91,iI x91),(122,.slice x122 x122n x122c),(123,iI x123),(124,iI x124)] h =
 cond (decide (x124<x123))
 (aSome x122 fun p=>ck ((0:Int)≤x124∧x124<(x122n:Int)) (gInt .i64 (add (B0 p) (Int.toNat x124*1)) h fun z1=>gSl (add x 4) h fun z2 xn xc=>bnd (C N3 [.slice z2 xn xc,iI z1] h) fun r w=>aBool r fun z3=>cond z3
 (gPtr (add k 3) w fun z4=>gInt .i64 (add x 3) w fun z5=>bnd (C Bf0 [.pointer z4,iI x124,.agg ⟨[iI obj,iI 3,iI 0,iI z5,iI 0,iI 0]⟩] w) fun q1 w1=>as2 q1 fun q2 q3=>aInt .i64 q2 fun _=>aInt .i64 q3 fun _=>R I4 Bi0 [(7,.pointer (some k)),(11,.pointer (some x)),(12,iI obj),(89,.slice x89 x89n x89c),(90,iI x90),(91,iI x91),(122,.slice x122 x122n x122c),(123,iI x123),(124,iI (wrap .i64 (x124+1)))] w1)
 (R I4 Bi0 [(7,.pointer (some k)),(11,.pointer (some x)),(12,iI obj),(89,.slice x89 x89n x89c),(90,iI x90),(91,iI x91),(122,.slice x122 x122n x122c),(123,iI x123),(124,iI (wrap .i64 (x124+1)))] w)))
 (R I4 Bh9 [(7,.pointer (some k)),(89,.slice x89 x89n x89c),(90,iI x90),(91,iI (wrap .i64 (x91+1)))] h):=kR
def Be9:Cuts:=⟨0,[],[],[]⟩
def B84:List Item:=A2 Tryz.f108
theorem Ek4 (b:ByteArray) :
 xQ Be9 C R As9 Tryz.f108 B84 [(0,.pointer r),(1,iI e),(2,iI name),(3,iI atv),(4,.string b)] h =
 bnd (C Ah0 [.pointer r,iI e,iI name,iI 2,iI atv,iI ((ByteArray.size b:Nat):Int)] h) fun q1 w=>as2 q1 fun q2 q3=>aInt .i64 q2 fun x=>aInt .i64 q3 fun z1=>cond (z1 != 0)
 (some (iI z1,w))
 (aSome r fun p=>gSl (add p 0) w fun z2 xn xc=>ckB (fitsOpen z2 A1 w) (ck ((0:Int)≤x∧x≤(xn:Int)) (pCells (G4 z2 (decide (Int.toNat x<xc)) ((Int.toNat x)*1)) (A0 (List.take (min (ByteArray.size b) (xn-(Int.toNat x))) (ByteArray.data b).toList)) w fun w1=>some (iI 0,w1)))):=kR
def Do3:Cuts:=⟨0,[],[],[]⟩
def Ew5:List Item:=A2 Tryz.f125
theorem Hd6 :
 xQ Do3 C R Bh7 Tryz.f125 Ew5 [] h =
 bnd (C Au8 [iI 24,.func (.func P2) ⟨[]⟩ ⟨[]⟩,.func (.func Y7) ⟨[]⟩ ⟨[]⟩] h) fun r w=>aPtr r fun x=>some (.pointer x,w):=kR
def Ed4:Cuts:=⟨0,[],[],[]⟩
def Gi4:List Item:=A2 Tryz.f127
theorem Hx7 :
 xQ Ed4 C R Af8 Tryz.f127 Gi4 [(0,iI e)] h =
 nw (.cells O6 false [iI 0,iI 0,.slice none 0 0,.bool false]) h fun b w=>pAgg ⟨b,0,none⟩ [iI 0,iI e,.slice none 0 0,.bool false] w fun w1=>gAgg ⟨b,0,none⟩ 4 w1 fun x=>some (.agg ⟨x⟩,w1):=kR
def Bc3:Cuts:=⟨0,[],[],[]⟩
def B81:List Item:=A2 Tryz.f140
theorem En3 :
 xQ Bc3 C R As3 Tryz.f140 B81 [(0,.pointer c),(1,iI i)] h =
 nw (.cells E4 false zZ4) h fun b w=>bnd (C Ab8 [.pointer c,.agg ⟨[iI 3,iI i]⟩] w) fun r w1=>as2 r fun q1 q2=>aAgg q1 fun x=>aInt .i64 q2 fun z1=>ck (List.length x=36) (pAgg ⟨b,0,none⟩ x w1 fun w2=>gAgg ⟨b,0,none⟩ 36 w2 fun z2=>some (.tuple ⟨[.agg ⟨z2⟩,iI z1]⟩,w2)):=kR
def A51:Cuts:=⟨0,[],[],[]⟩
def Bw9:List Item:=A2 Tryz.f143
theorem Ee2 :
 xQ A51 C R An5 Tryz.f143 Bw9 [(0,.pointer c)] h =
 nw (.cells E4 false zZ4) h fun b w=>bnd (C I6 [.pointer c,.agg ⟨[iI 4,iI 0]⟩,.func (.func Aq3) ⟨[]⟩ ⟨[]⟩] w) fun r w1=>as2 r fun q1 q2=>aAgg q1 fun x=>aInt .i64 q2 fun z1=>ck (List.length x=36) (pAgg ⟨b,0,none⟩ x w1 fun w2=>gAgg ⟨b,0,none⟩ 36 w2 fun z2=>some (.tuple ⟨[.agg ⟨z2⟩,iI z1]⟩,w2)):=kR
def Az9:Cuts:=⟨0,[],[],[(2,⟨[0,1,2,3,4,5,6,7],[0,0,0,4,12,0,63,127],[],[]⟩)]⟩
def Bt8:List Item:=A2 Tryz.f148
theorem D31 (r:List Value) :
 xQ Az9 C R Ak2 Tryz.f148 Bt8 [(0,.pointer c),(1,.agg ⟨r⟩)] h =
 nw (.cells A6 false r) h fun b w=>gAgg ⟨b,0,none⟩ 2 w fun x=>bnd (C S7 [.pointer c,.agg ⟨x⟩] w) fun q1 w1=>as2 q1 fun q2 q3=>aAgg q2 fun z1=>aBool q3 fun z2=>nw (.cells Bm3 false [iI 0,iI 0,iI 0]) w1 fun p1 w2=>ck (List.length z1=3) (pAgg ⟨p1,0,none⟩ z1 w2 fun w3=>gAgg ⟨b,0,none⟩ 2 w3 fun z3=>gInt .i64 ⟨p1,2,none⟩ w3 fun z4=>ck ((0:Int)≤z4∧(z4:Int)≤z4∧z4≤(A5:Int)) (nw (.cells A1 false (I1 (Int.toNat z4) [.int .u8 0])) w3 fun p2 w4=>bnd (C O0 [.pointer c,.agg ⟨z3⟩,.slice (some ⟨p2,0,none⟩) (Int.toNat z4) (Int.toNat z4),.bool z2] w4) fun q4 w5=>aBool q4 fun z5=>some (.bool z5,w5))):=kR
def Di0:Cuts:=⟨0,[],[],[(1,⟨[1,0,2,3,4,5,6],[0,0,3,7,7,31,63],[(0,[1])],[]⟩)]⟩
def Ei4:List Item:=A2 Tryz.f164
theorem G45 :
 xQ Di0 C R A86 Tryz.f164 Ei4 [(0,.agg ⟨f⟩)] h =
 nw (.cells H5 false f) h fun b w=>gAgg ⟨b,0,none⟩ 4 w fun x=>bnd (C Bi5 [] w) fun r w1=>aPtr r fun z1=>gAgg ⟨b,0,none⟩ 4 w1 fun z2=>same (.agg ⟨x⟩) (.agg ⟨z2⟩) (bnd (C W1 [.pointer z1,.agg ⟨x⟩] w1) fun q1 w2=>as2 q1 fun q2 q3=>aSl q2 fun z3 xn xc=>aBool q3 fun z4=>some (.tuple ⟨[.slice z3 xn xc,.bool z4]⟩,w2)):=kR
def Dr9:Cuts:=⟨0,[(3,[3,8,9])],[],[(4,⟨[0,1,2,3,4,5,6,7,8,9,10],[0,0,2,6,14,0,32,126,255,511,1023],[(5,[4])],[]⟩)]⟩
def Ep5:List Item:=A2 Tryz.f194
def Bz1:List Item:=stk [0,1,0,1,0,0,1,4,5] Ep5
theorem H74 (envs:Int) :
 xQ Dr9 C R A11 Tryz.f194 Ep5 [(0,iI envs)] h =
 nw (.cells Ax5 false [.slice none 0 0]) h fun b w=>R A11 Bz1 [(3,pP b),(8,iI (mm2 false (mm2 true envs 0) 40)),(9,iI 0)] w:=kR
theorem Ev3 (s:Addr) (x9:Int) :
 xQ Dr9 C R A11 Tryz.f194 Bz1 [(3,.pointer (some s)),(8,iI x8),(9,iI x9)] h =
 cond (decide (x9<x8))
 (gSl (add s 0) h fun x xn xc=>bnd (C P8 [iI 32] h) fun r w=>aPtr r fun z1=>gSl (add s 0) w fun z2 xn_1 xc_1=>same (.slice x xn xc) (.slice z2 xn_1 xc_1) (nw (.cells H3 false [.pointer z1]) w fun b w1=>gCells (some ⟨b,0,none⟩) (1*1) w1 fun cs=>ckB (fitsOpen x H3 w1) (apd H3 1 x xn xc 1 cs w1 fun a an ac w2=>pV (add s 0) (.slice a an ac) w2 fun w3=>R A11 Bz1 [(3,.pointer (some s)),(8,iI x8),(9,iI (wrap .i64 (x9+1)))] w3)))
 (some (.pointer (some s),h)):=kR
def Eq7:Cuts:=⟨0,[],[],[]⟩
def Gz0:List Item:=A2 Tryz.f197
theorem H64 :
 xQ Eq7 C R Ds1 Tryz.f197 Gz0 [(0,iI lease)] h =
 nw (.cells Gi0 false [iI (mm2 false (mm2 true lease 1) 1000),.bool false,iI 0,iI 0,iI 0,.slice none 0 0,iI 0,iI 0,iI 0]) h fun b w=>some (pP b,w):=kR
def Ay5:Cuts:=⟨0,[(3,[5,20,21,22])],[],[(2,⟨[0,1,2,3,4,5,6,7,8,9,10,11,12,13,14],[0,1,3,7,0,16,0,64,192,448,960,2032,4095,8191,0],[],[]⟩)]⟩
def Bk6:List Item:=A2 Tryz.f199
def An4:List Item:=stk [0,1,0,1,0,0,1,4,5] Bk6
theorem Ex7 (s:Int) :
 xQ Ay5 C R P9 Tryz.f199 Bk6 [(0,.pointer q),(1,iI s)] h =
 aSome q fun p=>gSl (add p 0) h fun x _ xc=>aSome q fun p_1=>gSl (add p_1 0) h fun _ xn_1 _=>ckB (fitsOpen x L0 h) (ck ((0:Int)≤mm2 false (mm2 true s 0) (xn_1:Int)∧mm2 false (mm2 true s 0) (xn_1:Int)≤(xc:Int)) (R P9 An4 [(5,iI 0),(20,.slice (G4 x (decide (0<xc)) (0*1)) ((Int.toNat (mm2 false (mm2 true s 0) (xn_1:Int)))-0) (xc-0)),(21,iI (((Int.toNat (mm2 false (mm2 true s 0) (xn_1:Int)))-0:Nat):Int)),(22,iI 0)] h)):=kR
theorem Bx5 :
 xQ Ay5 C R P9 Tryz.f199 An4 [(5,iI n),(20,.slice x20 x20n x20c),(21,iI x21),(22,iI x22)] h =
 cond (decide (x22<x21))
 (aSome x20 fun p=>ck ((0:Int)≤x22∧x22<(x20n:Int)) (gSl (add (B0 p) (Int.toNat x22*1)) h fun _ xn _=>R P9 An4 [(5,iI (wrap .i64 (n+(xn:Int)))),(20,.slice x20 x20n x20c),(21,iI x21),(22,iI (wrap .i64 (x22+1)))] h))
 (some (iI n,h)):=kR
def Dg1:Cuts:=⟨0,[],[],[]⟩
def Ej4:List Item:=A2 Tryz.f204
theorem G61 :
 xQ Dg1 C R Bs4 Tryz.f204 Ej4 [(0,iI lease)] h =
 nw (.cells Gi8 false [iI (mm2 false (mm2 true lease 1) 1000),iI 0,iI 0,iI 0,iI 0,iI 0,.bool false,iI 0,.slice none 0 0]) h fun b w=>some (pP b,w):=kR
def B03:Cuts:=⟨0,[],[],[]⟩
def D04:List Item:=A2 Tryz.f207
theorem Gn8 (c:List Value) :
 xQ B03 C R Bg1 Tryz.f207 D04 [(0,.pointer s),(1,iI e),(2,.agg ⟨c⟩)] h =
 nw (.cells Q0 false c) h fun b w=>bnd (C Am2 [.pointer s,iI e] w) fun r w1=>aBool r fun x=>bnd (cond (!x) (some (true,w1)) (gInt .i64 ⟨b,1,none⟩ w1 fun z1=>some (decide (z1<0),w1))) fun c_1 w2=>bnd (cond c_1 (some (true,w2)) (gInt .i64 ⟨b,1,none⟩ w2 fun z2=>some (decide (z2>7),w2))) fun c_2 w3=>bnd (cond c_2 (some (true,w3)) (gInt .i64 ⟨b,2,none⟩ w3 fun z3=>some (decide (z3<0),w3))) fun c_3 w4=>bnd (cond c_3 (some (true,w4)) (gInt .i64 ⟨b,2,none⟩ w4 fun z4=>some (decide (z4>65536),w4))) fun c_4 w5=>bnd (cond c_4 (some (true,w5)) (gInt .i64 ⟨b,3,none⟩ w5 fun z5=>some (decide (z5<0),w5))) fun c_5 w6=>bnd (cond c_5 (some (true,w6)) (gInt .i64 ⟨b,3,none⟩ w6 fun z6=>some (decide (z6>65536),w6))) fun c_6 w7=>cond c_6
 (some (.tuple ⟨[iI 0,iI 1]⟩,w7))
 (pAgg ⟨b,4,none⟩ [iI 0,iI 0] w7 fun w8=>gAgg ⟨b,0,none⟩ 6 w8 fun z7=>bnd (C Bc9 [.pointer s,iI e,.agg ⟨z7⟩] w8) fun q1 w9=>as2 q1 fun q2 q3=>aInt .i64 q2 fun z8=>aInt .i64 q3 fun z9=>some (.tuple ⟨[iI z8,iI z9]⟩,w9)):=kR
def Bv7:Cuts:=⟨0,[],[],[]⟩
def Dr1:List Item:=A2 Tryz.f208
theorem Ge7 (k:Option Addr) :
 xQ Bv7 C R Ar2 Tryz.f208 Dr1 [(0,.pointer k)] h =
 aSome k fun p=>gPtr (add p 3) h fun x=>some (.pointer x,h):=kR
def B18:Cuts:=⟨0,[],[],[]⟩
def D06:List Item:=A2 Tryz.f210
theorem Gm9 :
 xQ B18 C R Bg5 Tryz.f210 D06 [(0,.pointer s),(1,iI e)] h =
 bnd (C Am2 [.pointer s,iI e] h) fun r w=>aBool r fun x=>cond (!x)
 (some (.slice none 0 0,w))
 (aSome s fun p=>gSl (add p 0) w fun z1 xn _=>aSome z1 fun p_1=>ck ((0:Int)≤e∧e<(xn:Int)) (gPtr (add (B0 p_1) (Int.toNat e*1)) w fun z2=>bnd (C U1 [.pointer z2] w) fun q1 w1=>aSl q1 fun z3 xn_1 xc_1=>some (.slice z3 xn_1 xc_1,w1))):=kR
def Ba3:Cuts:=⟨0,[],[],[]⟩
def B39:List Item:=A2 Tryz.f213
theorem Ee9 :
 xQ Ba3 C R Ap7 Tryz.f213 B39 [(0,.pointer r),(1,iI env),(2,iI fromv),(3,iI atv),(4,iI to),(5,iI on),(6,iI n)] h =
 bnd (C Ad9 [.pointer r,iI env,iI fromv,iI atv,iI n] h) fun q1 w=>as2 q1 fun q2 q3=>aSl q2 fun x xn xc=>aInt .i64 q3 fun z1=>cond (z1 != 0)
 (some (iI z1,w))
 (bnd (C Ac6 [.pointer r,iI env,iI to,iI on,.slice x xn xc] w) fun q4 w1=>aInt .i64 q4 fun z2=>some (iI z2,w1)):=kR
def Bp6:Cuts:=⟨0,[],[],[]⟩
def Dl6:List Item:=A2 Tryz.f217
theorem E03 (s:Int) :
 xQ Bp6 C R A26 Tryz.f217 Dl6 [(0,.pointer q),(1,iI s),(2,iI k)] h =
 bnd (C Am1 [.pointer q,iI s] h) fun r w=>aBool r fun x=>cond (!x)
 (some (iI 1,w))
 (bnd (C A25 [.pointer q,iI s,iI k] w) fun q1 w1=>aBool q1 fun z1=>cond (!z1)
 (some (iI 5,w1))
 (aSome q fun p=>gSl (add p 0) w1 fun z2 xn _=>aSome z2 fun p_1=>ck ((0:Int)≤s∧s<(xn:Int)) (gSl (add (B0 p_1) (Int.toNat s*1)) w1 fun z3 xn_1 _=>aSome z3 fun p_2=>ck ((0:Int)≤k∧k<(xn_1:Int)) (pV (add (B0 p_2) (Int.toNat k*1)) (iI 0) w1 fun w2=>some (iI 0,w2))))):=kR
def Az8:Cuts:=⟨0,[],[],[]⟩
def Bt6:List Item:=A2 Tryz.f232
theorem D35 (r:List Value) :
 xQ Az8 C R S7 Tryz.f232 Bt6 [(0,.pointer c),(1,.agg ⟨r⟩)] h =
 nw (.cells A6 false r) h fun b w=>nw (.cells Bm3 false [iI 0,iI 0,iI 0]) w fun p1 w1=>gInt .i64 ⟨b,1,none⟩ w1 fun x=>bnd (cond (decide (x<0)) (some (true,w1)) (gInt .i64 ⟨b,0,none⟩ w1 fun z1=>bnd (C V0 [.pointer c,iI z1] w1) fun q1 w2=>aInt .i64 q1 fun z2=>some (decide (x≥z2),w2))) fun c_1 w3=>cond c_1
 (pAgg ⟨p1,0,none⟩ [iI 0,iI 0,iI 0] w3 fun w4=>gAgg ⟨p1,0,none⟩ 3 w4 fun z3=>some (.tuple ⟨[.agg ⟨z3⟩,.bool false]⟩,w4))
 (aSome c fun p=>gSl (add p 2) w3 fun z4 xn _=>aSome z4 fun p_1=>ck ((0:Int)≤0∧0<(xn:Int)) (gInt .i64 (add (B0 p_1) (Int.toNat 0*1)) w3 fun z5=>gInt .i64 ⟨b,0,none⟩ w3 fun z6=>cond (z6==1)
 (pAgg ⟨p1,0,none⟩ [iI z5,iI (wrap .i64 (24*x)),iI 24] w3 fun w5=>gAgg ⟨p1,0,none⟩ 3 w5 fun z7=>some (.tuple ⟨[.agg ⟨z7⟩,.bool true]⟩,w5))
 (gInt .i64 ⟨b,0,none⟩ w3 fun z8=>cond (z8==2)
 (pAgg ⟨p1,0,none⟩ [iI z5,iI (wrap .i64 (192+(wrap .i64 (8*x)))),iI 8] w3 fun w6=>gAgg ⟨p1,0,none⟩ 3 w6 fun z9=>some (.tuple ⟨[.agg ⟨z9⟩,.bool true]⟩,w6))
 (gInt .i64 ⟨b,0,none⟩ w3 fun z10=>bnd (cond (z10==3) (some (decide (x<4),w3)) (some (false,w3))) fun c_2 w7=>cond c_2
 (pAgg ⟨p1,0,none⟩ [iI z5,iI (wrap .i64 (288+(wrap .i64 (40*x)))),iI 40] w7 fun w8=>gAgg ⟨p1,0,none⟩ 3 w8 fun z11=>some (.tuple ⟨[.agg ⟨z11⟩,.bool true]⟩,w8))
 (gInt .i64 ⟨b,0,none⟩ w7 fun z12=>cond (z12==3)
 (aSome c fun p_2=>gSl (add p_2 2) w7 fun z13 xn_1 _=>aSome z13 fun p_3=>ck ((0:Int)≤wrap .i64 ((wrap .i64 (x-4))+1)∧wrap .i64 ((wrap .i64 (x-4))+1)<(xn_1:Int)) (gInt .i64 (add (B0 p_3) (Int.toNat (wrap .i64 ((wrap .i64 (x-4))+1))*1)) w7 fun z14=>pAgg ⟨p1,0,none⟩ [iI z14,iI 0,iI 40] w7 fun w9=>gAgg ⟨p1,0,none⟩ 3 w9 fun z15=>some (.tuple ⟨[.agg ⟨z15⟩,.bool true]⟩,w9)))
 (gInt .i64 ⟨b,0,none⟩ w7 fun z16=>cond (z16==4)
 (pAgg ⟨p1,0,none⟩ [iI z5,iI 448,iI 40] w7 fun w10=>gAgg ⟨p1,0,none⟩ 3 w10 fun z17=>some (.tuple ⟨[.agg ⟨z17⟩,.bool true]⟩,w10))
 (pAgg ⟨p1,0,none⟩ [iI z5,iI 488,iI 4] w7 fun w11=>gAgg ⟨p1,0,none⟩ 3 w11 fun z18=>some (.tuple ⟨[.agg ⟨z18⟩,.bool true]⟩,w11)))))))):=kR
def Db6:Cuts:=⟨0,[],[],[]⟩
def D62:List Item:=A2 Tryz.f234
theorem Gz3 (c:Int) :
 xQ Db6 C R Ah1 Tryz.f234 D62 [(0,.int .u8 c)] h =
 some (.bool (c != 0),h):=kR
def Df8:Cuts:=⟨0,[],[],[(5,⟨[0,1,2,3,4,5,6,7,8,9,10,11,12,13,14],[0,1,3,0,8,24,0,64,192,0,512,1536,4095,0,16383],[],[]⟩)]⟩
def Eg9:List Item:=A2 Tryz.f241
theorem G08 (b:ByteArray) :
 xQ Df8 C R Br8 Tryz.f241 Eg9 [(0,.string b)] h =
 nw (.cells H5 false [iI 0,iI 0,iI 0,iI 0]) h fun p1 w=>cond (((ByteArray.size b:Nat):Int) != 8)
 (pAgg ⟨p1,0,none⟩ [iI 0,iI 0,iI 0,iI 0] w fun w1=>gAgg ⟨p1,0,none⟩ 4 w1 fun x=>some (.tuple ⟨[.agg ⟨x⟩,iI 2]⟩,w1))
 (bnd (C Ab9 [.string b] w) fun r w2=>aBool r fun z1=>cond z1
 (pAgg ⟨p1,0,none⟩ [iI 0,iI 0,iI 0,iI 0] w2 fun w3=>gAgg ⟨p1,0,none⟩ 4 w3 fun z2=>some (.tuple ⟨[.agg ⟨z2⟩,iI 0]⟩,w3))
 (ck ((0:Int)≤0∧0<((ByteArray.size b:Nat):Int)) (ck ((0:Int)≤1∧1<((ByteArray.size b:Nat):Int)) (ck ((0:Int)≤2∧2<((ByteArray.size b:Nat):Int)) (ck ((0:Int)≤3∧3<((ByteArray.size b:Nat):Int)) (nw (.cells H5 false [iI 0,iI 0,iI 0,iI 0]) w2 fun p2 w4=>pAgg ⟨p2,0,none⟩ [iI (wrap .i64 (((List.getD (ByteArray.data b).toList (Int.toNat 0) 0).toNat:Int))),iI (wrap .i64 (((List.getD (ByteArray.data b).toList (Int.toNat 1) 0).toNat:Int))),iI (wrap .i64 (((List.getD (ByteArray.data b).toList (Int.toNat 2) 0).toNat:Int))),iI (wrap .i64 (((List.getD (ByteArray.data b).toList (Int.toNat 3) 0).toNat:Int)))] w4 fun w5=>gAgg ⟨p2,0,none⟩ 4 w5 fun z3=>bnd (C Br2 [.agg ⟨z3⟩] w5) fun q1 w6=>aBool q1 fun z4=>bnd (cond (!z4) (some (true,w6)) (gAgg ⟨p2,0,none⟩ 4 w6 fun z5=>bnd (C Aq9 [.agg ⟨z5⟩] w6) fun q2 w7=>aStr q2 fun z6=>some (!(z6.toList==b.toList),w7))) fun c w8=>cond c
 (pAgg ⟨p1,0,none⟩ [iI 0,iI 0,iI 0,iI 0] w8 fun w9=>gAgg ⟨p1,0,none⟩ 4 w9 fun z7=>some (.tuple ⟨[.agg ⟨z7⟩,iI 2]⟩,w9))
 (gAgg ⟨p2,0,none⟩ 4 w8 fun z8=>ck (List.length z8=4) (pAgg ⟨p1,0,none⟩ z8 w8 fun w10=>gAgg ⟨p1,0,none⟩ 4 w10 fun z9=>some (.tuple ⟨[.agg ⟨z9⟩,iI 1]⟩,w10))))))))):=kR
def Em5:Cuts:=⟨0,[],[],[]⟩
def Gr4:List Item:=A2 Tryz.f246
theorem Id6 (lo:Int) (hi:Int) :
 xQ Em5 C R Q3 Tryz.f246 Gr4 [(0,iI n),(1,iI lo),(2,iI hi)] h =
 bnd (cond (decide (n≥lo)) (some (decide (n≤hi),h)) (some (false,h))) fun c w=>some (.bool c,w):=kR
def Dz4:Cuts:=⟨0,[],[],[]⟩
def E87:List Item:=A2 Tryz.f271
theorem Hn8 :
 xQ Dz4 C R Bp8 Tryz.f271 E87 [] h =
 bnd (C Ar9 [iI 40,.func (.func Bs8) ⟨[]⟩ ⟨[]⟩,.func (.func Bq7) ⟨[]⟩ ⟨[]⟩] h) fun r w=>aPtr r fun x=>some (.pointer x,w):=kR
def Ap8:Cuts:=⟨0,[(2,[0,3,4])],[],[(2,⟨[0,1,2,3,4,5,6,7,8,9,10,11,12,13],[0,1,3,7,7,23,55,119,7,263,1015,2039,4095,8191],[],[]⟩),(4,⟨[0,1,2,3,4,5,6,7,9,10,12,13,14,15,16,17,8,11,18,19,20,21],[0,0,0,4,12,28,0,124,254,0,512,2046,0,4096,12288,28672,0,126976,262142,524287,1048575,2097151],[(8,[9,15,17]),(11,[15,17])],[]⟩)]⟩
def A90:List Item:=A2 Tryz.f280
def W8:List Item:=stk [0,1,0,1,0,4,5] A90
theorem Eh6 (r:List Value) :
 xQ Ap8 C R G0 Tryz.f280 A90 [(0,.pointer c),(1,.agg ⟨r⟩)] h =
 nw (.cells A6 false r) h fun b w=>aSome c fun p=>gSl (add p 3) w fun _ xn _=>R G0 W8 [(0,.pointer c),(3,pP b),(4,iI (xn:Int))] w:=kR
theorem Bo3 (r:Addr) :
 xQ Ap8 C R G0 Tryz.f280 W8 [(0,.pointer c),(3,.pointer (some r)),(4,iI k)] h =
 bnd (cond (decide (k>0)) (gAgg r 2 h fun x=>aSome c fun p=>gSl (add p 3) h fun z1 xn _=>aSome z1 fun p_1=>ck ((0:Int)≤wrap .i64 (k-1)∧wrap .i64 (k-1)<(xn:Int)) (gAgg (add (B0 p_1) (Int.toNat (wrap .i64 (k-1))*2)) 2 h fun z2=>bnd (C Bl0 [.agg ⟨x⟩,.agg ⟨z2⟩] h) fun q1 w=>aBool q1 fun z3=>some (z3,w))) (some (false,h))) fun c_1 w1=>cond c_1
 (R G0 W8 [(0,.pointer c),(3,.pointer (some r)),(4,iI (wrap .i64 (k-1)))] w1)
 (nw (.cells A6 false []) w1 fun b w2=>aSome c fun p_2=>gSl (add p_2 3) w2 fun z4 _ xc_1=>ckB (fitsOpen z4 A6 w2) (ck ((0:Int)≤k∧k≤(xc_1:Int)) (gAgg r 2 w2 fun z5=>ck (List.length z5=2) (nw (.cells A6 false (z5++[])) w2 fun p1 w3=>aSome c fun p_3=>gSl (add p_3 3) w3 fun z6 xn_2 xc_2=>ckB (fitsOpen z6 A6 w3) (ck ((0:Int)≤k∧k≤(xn_2:Int)) (gCells (G4 z4 (decide (0<xc_1)) (0*2)) (((Int.toNat k)-0)*2) w3 fun cs=>ckB (fitsOpen (some ⟨b,0,none⟩) A6 w3) (apd A6 2 (some ⟨b,0,none⟩) 0 0 ((Int.toNat k)-0) cs w3 fun a an ac w4=>gAgg r 2 w4 fun z7=>same (.agg ⟨z5⟩) (.agg ⟨z7⟩) (gSl (add p_3 3) w4 fun z8 xn_3 xc_3=>same (.slice z6 xn_2 xc_2) (.slice z8 xn_3 xc_3) (ckB (fitsOpen z6 A6 w4) (ck ((0:Int)≤k∧k≤(xn_2:Int)) (same (.slice (G4 z6 (decide (Int.toNat k<xc_2)) ((Int.toNat k)*2)) (xn_2-(Int.toNat k)) (xc_2-(Int.toNat k))) (.slice (G4 z6 (decide (Int.toNat k<xc_2)) ((Int.toNat k)*2)) (xn_2-(Int.toNat k)) (xc_2-(Int.toNat k))) (gCells (some ⟨p1,0,none⟩) (1*2) w4 fun cs_1=>ckB (fitsOpen a A6 w4) (apd A6 2 a an ac 1 cs_1 w4 fun a_1 an_1 ac_1 w5=>gSl (add p_3 3) w5 fun z9 xn_4 xc_4=>same (.slice z6 xn_2 xc_2) (.slice z9 xn_4 xc_4) (ckB (fitsOpen z6 A6 w5) (ck ((0:Int)≤k∧k≤(xn_2:Int)) (same (.slice (G4 z6 (decide (Int.toNat k<xc_2)) ((Int.toNat k)*2)) (xn_2-(Int.toNat k)) (xc_2-(Int.toNat k))) (.slice (G4 z6 (decide (Int.toNat k<xc_2)) ((Int.toNat k)*2)) (xn_2-(Int.toNat k)) (xc_2-(Int.toNat k))) (gCells (G4 z6 (decide (Int.toNat k<xc_2)) ((Int.toNat k)*2)) ((xn_2-(Int.toNat k))*2) w5 fun cs_2=>ckB (fitsOpen a_1 A6 w5) (apd A6 2 a_1 an_1 ac_1 (xn_2-(Int.toNat k)) cs_2 w5 fun a_2 an_2 ac_2 w6=>aSome c fun p_4=>pV (add p_4 3) (.slice a_2 an_2 ac_2) w6 fun w7=>some (.tuple ⟨[]⟩,w7))))))))))))))))))):=kR
def Bc0:Cuts:=⟨0,[(3,[0,3,4])],[],[]⟩
def B20:List Item:=A2 Tryz.f294
def Al1:List Item:=stk [0,1,0,1,0,0,1,4,5] B20
theorem Go7 (n:Option Addr) :
 xQ Bc0 C R U1 Tryz.f294 B20 [(0,.pointer n)] h =
 R U1 Al1 [(0,.pointer n),(3,.slice none 0 0),(4,iI 0)] h:=kR
theorem Dd7 (n:Option Addr) :
 xQ Bc0 C R U1 Tryz.f294 Al1 [(0,.pointer n),(3,.slice out outn outc),(4,iI i)] h =
 aSome n fun p=>gSl (add p 0) h fun _ xn _=>cond (decide (i<(xn:Int)))
 (aSome n fun p_1=>gSl (add p_1 0) h fun z1 xn_1 _=>aSome z1 fun p_2=>ck ((0:Int)≤i∧i<(xn_1:Int)) (gBool (add (add (B0 p_2) (Int.toNat i*2)) 1) h fun z2=>cond z2
 (aSome n fun p_3=>gSl (add p_3 0) h fun z3 xn_2 _=>aSome z3 fun p_4=>ck ((0:Int)≤i∧i<(xn_2:Int)) (gInt .i64 (add (add (B0 p_4) (Int.toNat i*2)) 0) h fun z4=>nw (.cells B2 false [iI (wrap .i64 (i+(wrap .i64 (256*z4))))]) h fun b w=>gCells (some ⟨b,0,none⟩) (1*1) w fun cs=>ckB (fitsOpen out B2 w) (apd B2 1 out outn outc 1 cs w fun a an ac w1=>R U1 Al1 [(0,.pointer n),(3,.slice a an ac),(4,iI (wrap .i64 (i+1)))] w1)))
 (R U1 Al1 [(0,.pointer n),(3,.slice out outn outc),(4,iI (wrap .i64 (i+1)))] h)))
 (some (.slice out outn outc,h)):=kR
def B63:Cuts:=⟨0,[],[],[]⟩
def D76:List Item:=A2 Tryz.f296
theorem Gy7 :
 xQ B63 C R Bk9 Tryz.f296 D76 [(0,.pointer m),(1,iI atv),(2,.slice b bn bc)] h =
 bnd (C Bn6 [.pointer m,iI atv,iI (bn:Int)] h) fun r w=>aBool r fun x=>cond (!x)
 (some (iI 1,w))
 (aSome m fun p=>gSl (add p 0) w fun z1 xn xc=>ckB (fitsOpen z1 A1 w) (ck ((0:Int)≤atv∧atv≤(xn:Int)) (gCells b (min bn (xn-(Int.toNat atv))*1) w fun cs=>pCells (G4 z1 (decide (Int.toNat atv<xc)) ((Int.toNat atv)*1)) cs w fun w1=>some (iI 0,w1)))):=kR
def B22:Cuts:=⟨0,[],[],[]⟩
def D15:List Item:=A2 Tryz.f297
theorem Gm8 :
 xQ B22 C R Ax9 Tryz.f297 D15 [(0,.pointer s),(1,iI env),(2,iI name)] h =
 nw (.cells Q0 false [iI 0,iI 0,iI 0,iI 0,iI 0,iI 0]) h fun b w=>bnd (C Ah5 [.pointer s,iI env] w) fun r w1=>aBool r fun x=>cond (!x)
 (pAgg ⟨b,0,none⟩ [iI 0,iI 0,iI 0,iI 0,iI 0,iI 0] w1 fun w2=>gAgg ⟨b,0,none⟩ 6 w2 fun z1=>some (.tuple ⟨[.agg ⟨z1⟩,iI 2]⟩,w2))
 (aSome s fun p=>gSl (add p 0) w1 fun z2 xn _=>aSome z2 fun p_1=>ck ((0:Int)≤env∧env<(xn:Int)) (gPtr (add (B0 p_1) (Int.toNat env*1)) w1 fun z3=>bnd (C Ae8 [.pointer z3,iI name] w1) fun q1 w3=>as2 q1 fun q2 q3=>aAgg q2 fun z4=>aBool q3 fun z5=>nw (.cells Q0 false [iI 0,iI 0,iI 0,iI 0,iI 0,iI 0]) w3 fun p1 w4=>ck (List.length z4=6) (pAgg ⟨p1,0,none⟩ z4 w4 fun w5=>cond (!z5)
 (pAgg ⟨b,0,none⟩ [iI 0,iI 0,iI 0,iI 0,iI 0,iI 0] w5 fun w6=>gAgg ⟨b,0,none⟩ 6 w6 fun z6=>some (.tuple ⟨[.agg ⟨z6⟩,iI 2]⟩,w6))
 (gAgg ⟨p1,0,none⟩ 6 w5 fun z7=>ck (List.length z7=6) (pAgg ⟨b,0,none⟩ z7 w5 fun w7=>gAgg ⟨b,0,none⟩ 6 w7 fun z8=>some (.tuple ⟨[.agg ⟨z8⟩,iI 0]⟩,w7)))))):=kR
def V7:Cuts:=⟨0,[(2,[0,1,7,8])],[],[]⟩
def Af9:List Item:=A2 Tryz.f309
def Q8:List Item:=stk [0,1,0,0,1,4,5] Af9
theorem B62 (f:Value) :
 xQ V7 C R G2 Tryz.f309 Af9 [(0,.slice s sn sc),(1,f)] h =
 R G2 Q8 [(0,.slice s sn sc),(1,f),(7,iI (sn:Int)),(8,iI 0)] h:=kR
theorem Av3 (f:Value) :
 xQ V7 C R G2 Tryz.f309 Q8 [(0,.slice s sn sc),(1,f),(7,iI x7),(8,iI x8)] h =
 cond (decide (x8<x7))
 (aSome s fun p=>ck ((0:Int)≤x8∧x8<(sn:Int)) (gInt .u8 (add (B0 p) (Int.toNat x8*1)) h fun x=>aFn f fun g fi cp=>bnd (C g (fi++([.int .u8 x]++cp)) h) fun r w=>aBool r fun z1=>cond z1
 (some (iI x8,w))
 (R G2 Q8 [(0,.slice s sn sc),(1,f),(7,iI x7),(8,iI (wrap .i64 (x8+1)))] w)))
 (some (iI (-1),h)):=kR
def Dy1:Cuts:=⟨0,[],[],[(3,⟨[0,1,2,3,4,5,6,7,8,9,10,11,12,13,14],[0,0,3,7,15,31,0,0,128,448,960,1984,4095,8191,16383],[],[]⟩)]⟩
def E54:List Item:=A2 Tryz.f313
theorem Hg4 :
 xQ Dy1 C R B57 Tryz.f313 E54 [(0,.slice b bn bc),(1,iI atv)] h =
 bnd (cond (decide (atv<0)) (some (true,h)) (some (decide (atv>(wrap .i64 ((bn:Int)-2))),h))) fun c w=>cond c
 (some (.tuple ⟨[iI 0,.bool false]⟩,w))
 (aSome b fun p=>ck ((0:Int)≤atv∧atv<(bn:Int)) (gInt .u8 (add (B0 p) (Int.toNat atv*1)) w fun x=>aSome b fun p_1=>ck ((0:Int)≤wrap .i64 (atv+1)∧wrap .i64 (atv+1)<(bn:Int)) (gInt .u8 (add (B0 p_1) (Int.toNat (wrap .i64 (atv+1))*1)) w fun z1=>some (.tuple ⟨[iI (D26 .i64 (wrap .i64 ((wrap .i64 (x))*2 ^ 8)) (wrap .i64 (z1))),.bool true]⟩,w)))):=kR
def Ay7:Cuts:=⟨0,[(2,[0,3,5])],[],[(4,⟨[0,1,2,3,4,5,6,7,8],[0,1,3,7,0,31,63,0,255],[],[]⟩)]⟩
def Bk0:List Item:=A2 Tryz.f316
def Am9:List Item:=stk [0,1,0,0,1,4,5] Bk0
theorem Ex8 (r:List Value) :
 xQ Ay7 C R Q1 Tryz.f316 Bk0 [(0,.pointer c),(1,.agg ⟨r⟩)] h =
 nw (.cells A6 false r) h fun b w=>R Q1 Am9 [(0,.pointer c),(3,pP b),(5,iI 0)] w:=kR
theorem By6 (r:Addr) :
 xQ Ay7 C R Q1 Tryz.f316 Am9 [(0,.pointer c),(3,.pointer (some r)),(5,iI i)] h =
 aSome c fun p=>gSl (add p 3) h fun _ xn _=>cond (decide (i<(xn:Int)))
 (aSome c fun p_1=>gSl (add p_1 3) h fun z1 xn_1 _=>aSome z1 fun p_2=>ck ((0:Int)≤i∧i<(xn_1:Int)) (gAgg (add (B0 p_2) (Int.toNat i*2)) 2 h fun z2=>gAgg r 2 h fun z3=>A65 PR A6 z2 z3 fun eq=>cond eq
 (some (.bool true,h))
 (R Q1 Am9 [(0,.pointer c),(3,.pointer (some r)),(5,iI (wrap .i64 (i+1)))] h)))
 (some (.bool false,h)):=kR
def Ec3:Cuts:=⟨0,[],[],[]⟩
def Gg6:List Item:=A2 Tryz.f324
theorem Hz4 :
 xQ Ec3 C R Au9 Tryz.f324 Gg6 [(0,.agg ⟨f⟩),(1,.slice b bn bc)] h =
 nw (.cells H5 false f) h fun p1 w=>gAgg ⟨p1,0,none⟩ 4 w fun x=>bnd (C Ds7 [.agg ⟨x⟩] w) fun r w1=>aBool r fun z1=>cond (!z1)
 (some (.bool false,w1))
 (gInt .i64 ⟨p1,0,none⟩ w1 fun z2=>gInt .i64 ⟨p1,1,none⟩ w1 fun z3=>gInt .i64 ⟨p1,2,none⟩ w1 fun z4=>gInt .i64 ⟨p1,3,none⟩ w1 fun z5=>nw (.cells A1 false [.int .u8 (wrap .u8 (z2)),.int .u8 (wrap .u8 (z3)),.int .u8 (wrap .u8 (z4)),.int .u8 (wrap .u8 (z5)),.int .u8 179]) w1 fun p2 w2=>gCells (some ⟨p2,0,none⟩) (min 5 bn*1) w2 fun cs=>pCells b cs w2 fun w3=>ckB (fitsOpen b A1 w3) (ck ((0:Int)≤5∧5≤(bc:Int)) (bnd (C Ac2 [.slice (G4 b (decide (0<bc)) (0*1)) ((Int.toNat 5)-0) (bc-0)] w3) fun q1 w4=>aInt .u8 q1 fun z6=>aSome b fun p=>ck ((0:Int)≤5∧5<(bn:Int)) (pV (add (B0 p) (Int.toNat 5*1)) (.int .u8 z6) w4 fun w5=>some (.bool true,w5))))):=kR
def Be3:Cuts:=⟨0,[],[],[]⟩
def Da7:List Item:=A2 Tryz.f326
theorem Em7 (put:Value) (get:Value) :
 xQ Be3 C R Ar9 Tryz.f326 Da7 [(0,iI size),(1,put),(2,get)] h =
 one put (one get (nw (.cells Bw6 false [iI (mm2 false (mm2 true size 0) 64),put,get]) h fun b w=>some (pP b,w))):=kR
def Af3:Cuts:=⟨0,[(2,[0,3,11,12,13])],[],[(5,⟨[0,1,2,3,4,5,6,7,8,9,10,11,12,13,14,15,16],[0,1,3,7,0,0,32,96,224,0,0,1535,3583,7679,16383,32767,65535],[],[]⟩)]⟩
def Au7:List Item:=A2 Tryz.f331
def Z2:List Item:=stk [0,1,0,0,1,4,5] Au7
theorem Dt7 (v:List Value) :
 xQ Af3 C R I7 Tryz.f331 Au7 [(0,.pointer t),(1,.agg ⟨v⟩)] h =
 nw (.cells Q0 false v) h fun b w=>aSome t fun p=>gSl (add p 0) w fun x xn xc=>R I7 Z2 [(0,.pointer t),(3,pP b),(11,.slice x xn xc),(12,iI (xn:Int)),(13,iI 0)] w:=kR
theorem A98 (v:Addr) (x11:Option Addr) (x11n x11c:Nat) (x12:Int) (x13:Int) :
 xQ Af3 C R I7 Tryz.f331 Z2 [(0,.pointer t),(3,.pointer (some v)),(11,.slice x11 x11n x11c),(12,iI x12),(13,iI x13)] h =
 cond (decide (x13<x12))
 (aSome x11 fun p=>ck ((0:Int)≤x13∧x13<(x11n:Int)) (gAgg (add (B0 p) (Int.toNat x13*8)) 8 h fun x=>nw (.cells Ap6 false [iI 0,iI 0,iI 0,iI 0,iI 0,iI 0,iI 0,.bool false]) h fun b w=>ck (List.length x=8) (pAgg ⟨b,0,none⟩ x w fun w1=>gBool ⟨b,7,none⟩ w1 fun z1=>bnd (cond (!z1) (gInt .i64 ⟨b,6,none⟩ w1 fun z2=>some (decide (z2≤1000000),w1)) (some (false,w1))) fun c w2=>cond c
 (aSome t fun p_1=>gSl (add p_1 0) w2 fun z3 xn _=>aSome t fun p_2=>gSl (add p_2 0) w2 fun z4 xn_1 _=>gAgg v 6 w2 fun z5=>aSome z3 fun p_3=>ck ((0:Int)≤x13∧x13<(xn:Int)) (ck (List.length z5=6) (pAgg (add (add (B0 p_3) (Int.toNat x13*8)) 0) z5 w2 fun w3=>aSome z4 fun p_4=>ck ((0:Int)≤x13∧x13<(xn_1:Int)) (pV (add (add (B0 p_4) (Int.toNat x13*8)) 7) (.bool true) w3 fun w4=>bnd (C O4 [.pointer t,iI x13] w4) fun r w5=>aInt .i64 r fun z6=>some (.tuple ⟨[iI z6,.bool true]⟩,w5)))))
 (R I7 Z2 [(0,.pointer t),(3,.pointer (some v)),(11,.slice x11 x11n x11c),(12,iI x12),(13,iI (wrap .i64 (x13+1)))] w2))))
 (some (.tuple ⟨[iI 0,.bool false]⟩,h)):=kR
def Aq7:Cuts:=⟨0,[],[],[]⟩
def Bg9:List Item:=A2 Tryz.f332
theorem Do6 :
 xQ Aq7 C R O4 Tryz.f332 Bg9 [(0,.pointer t),(1,iI i)] h =
 aSome t fun p=>gSl (add p 0) h fun x xn _=>aSome x fun p_1=>ck ((0:Int)≤i∧i<(xn:Int)) (gInt .i64 (add (add (B0 p_1) (Int.toNat i*8)) 6) h fun z1=>some (iI (wrap .i64 (i+(wrap .i64 (256*z1)))),h)):=kR
end
end Go.EQ

set_option maxRecDepth 100000
namespace Go.EQ
open Go Go.NN Go.Proofs
variable (C:D1) (R:Aa5)
noncomputable section
def Iz7:List (Nat × Cuts):=[(4,A19),(8,B77),(9,Do8),(10,D93),(12,Ee1),(13,A41),(14,Dp1),(15,A75),(16,B51),(17,Bk2),(18,Ep2),(19,D96),(20,Bg8),(21,Ad7),(22,D92),(23,Di1),(33,Dz5),(34,D29),(35,A73),(36,Dg7),(37,Dd8),(38,Dn6),(39,Bv2),(40,Ed8),(41,Di2),(42,A95),(43,D94),(44,Ar3),(50,Af5),(51,Df7),(52,Df6),(53,Ep6),(54,Dt3),(55,Df5),(56,B95),(57,Bf1),(58,Bd4),(59,Bd5),(60,Bc6),(66,Bg7),(67,U9),(68,Dh8),(69,A53),(71,Aq4),(72,B79),(73,Do4),(74,Bu6),(80,A50),(82,A52),(84,Au6),(90,An9),(100,Ba5),(101,Bf4),(102,Aw5),(103,Dp3),(104,Bo4),(105,Bu8),(106,Bo7),(107,Bk8),(108,Be9),(117,Bp5),(118,Dh2),(119,Az7),(123,A46),(124,Dn7),(125,Do3),(126,Aj5),(127,Ed4),(128,Bg3),(129,Bd2),(136,Z4),(140,Bc3),(143,A51),(144,A00),(145,D09),(146,Aq6),(148,Az9),(157,Af1),(158,Df4),(159,Df3),(160,Af4),(161,Df1),(162,Dp6),(163,Dn8),(164,Di0),(165,Ag8),(175,Ba8),(176,A47),(183,Bc8),(190,Bn1),(191,Do1),(192,Ax4),(193,E73),(194,Dr9),(195,Di7),(196,D28),(197,Eq7),(198,Be1),(199,Ay5),(200,B24),(201,Bl9),(202,A30),(203,Bl4),(204,Dg1),(205,Bq2),(206,D46),(207,B03),(208,Bv7),(209,Bo0),(210,B18),(211,Ba7),(212,A54),(213,Ba3),(214,Bo8),(216,Bk3),(217,Bp6),(218,Bv1),(219,Bu7),(220,Bd1),(221,B15),(222,B19),(223,Dn5),(224,B30),(231,Aj6),(232,Az8),(233,Ac5),(234,Db6),(235,Bd6),(236,Bi9),(237,Bw2),(238,Bd7),(239,A91),(240,Bf6),(241,Df8),(242,Dg4),(244,Bs6),(246,Em5),(247,At7),(248,Bv5),(261,Af6),(269,Do0),(270,Aj9),(271,Dz4),(272,Aj8),(273,Aj2),(274,Aj4),(276,Ey8),(280,Ap8),(281,Bq6),(282,Dg5),(283,Be4),(285,Df9),(286,Dw8),(287,Az0),(288,Dg8),(289,Bn4),(290,Db9),(291,B28),(292,Bl7),(293,Ab1),(294,Bc0),(295,A42),(296,B63),(297,B22),(300,B26),(301,Bq0),(302,B14),(303,V2),(304,Bv8),(305,B10),(306,Bg2),(309,V7),(310,Ep1),(311,Dz7),(312,Dj7),(313,Dy1),(314,Ac7),(315,Ba1),(316,Ay7),(317,Da0),(318,Da3),(321,Y9),(323,Be5),(324,Ec3),(325,Eb5),(326,Be3),(327,Er5),(328,En9),(329,D98),(330,B67),(331,Af3),(332,Aq7),(333,Ar5),(336,Ax0),(337,Bv6),(338,Dw9),(339,Dv9),(340,En6)]
def cutsOf:FuncId→Cuts:=Gr2 Iz7
noncomputable abbrev A3:D1:=NN.Call PR cutsOf
noncomputable abbrev E2:Aa5:=NN.Jump PR cutsOf
abbrev fK (f:FuncId) (fn:Func) (C:Cuts) (T:List Item) (n:Nat):Prop:=FnOk PR cutsOf f fn C T n
theorem fM {f : FuncId} {fn : Func} {C : Cuts} {T : List Item} {n : Nat} (a : PR.funcs[f]? = some fn) (b : ∃ c, fn.body = some c := by exact ⟨_, rfl⟩) (c : (fn.name == "runtime.NumGoroutine") = false := by kernel_rfl) (d : cutsOf f = C := by exact rfl) (e : A2 fn = T := by exact rfl) (g : Nat.ble n fn.ntmps = true := by kernel_rfl) : fK f fn C T n := ⟨a, b, c, d, e, g⟩
theorem B93:fK D6 Tryz.f4 A19 Bm5 4:=fM Tryz.func4
theorem Ao5:fK Y2 Tryz.f8 B77 D21 1:=fM Tryz.func8
theorem Hd8:fK Bi1 Tryz.f9 Do8 Eu7 0:=fM Tryz.func9
theorem Gh6:fK A49 Tryz.f10 D93 Gh2 2:=fM Tryz.func10
theorem Hz7:fK Bw5 Tryz.f12 Ee1 Ea2 4:=fM Tryz.func12
theorem Ed5:fK J4 Tryz.f13 A41 Bx2 2:=fM Tryz.func13
theorem Hd7:fK By7 Tryz.f14 Dp1 Ew3 0:=fM Tryz.func14
theorem Bv4:fK N6 Tryz.f15 A75 Bv9 1:=fM Tryz.func15
theorem Dv7:fK Ag5 Tryz.f16 B51 Dw3 1:=fM Tryz.func16
theorem Ey4:fK V3 Tryz.f17 Bk2 Dd4 1:=fM Tryz.func17
theorem Ic1:fK Dt8 Tryz.f18 Ep2 Gq2 3:=fM Tryz.func18
theorem Gj3:fK Ac3 Tryz.f19 D96 Gh8 2:=fM Tryz.func19
theorem Eo4:fK Ah9 Tryz.f20 Bg8 B59 2:=fM Tryz.func20
theorem Ad6:fK D0 Tryz.f21 Ad7 Aq0 1:=fM Tryz.func21
theorem Hw8:fK Dk0 Tryz.f22 D92 Gh9 3:=fM Tryz.func22
theorem Di6:fK Ac4 Tryz.f23 Di1 Ea1 2:=fM Tryz.func23
theorem Hq7:fK Bp3 Tryz.f33 Dz5 E56 1:=fM Tryz.func33
theorem Hj7:fK Da4 Tryz.f34 D29 E76 0:=fM Tryz.func34
theorem Bv3:fK N5 Tryz.f35 A73 Bu5 1:=fM Tryz.func35
theorem G59:fK U7 Tryz.f36 Dg7 Ef7 3:=fM Tryz.func36
theorem Ej6:fK Ad8 Tryz.f37 Dd8 Eh7 3:=fM Tryz.func37
theorem Hd3:fK Bh8 Tryz.f38 Dn6 Ew4 0:=fM Tryz.func38
theorem Gg1:fK Aq9 Tryz.f39 Bv2 Dp8 1:=fM Tryz.func39
theorem Hv8:fK Q9 Tryz.f40 Ed8 Gj2 1:=fM Tryz.func40
theorem Eb2:fK Av0 Tryz.f41 Di2 Ea7 1:=fM Tryz.func41
theorem Ay4:fK G6 Tryz.f42 A95 Bn3 2:=fM Tryz.func42
theorem Hz6:fK Av4 Tryz.f43 D94 Gh3 2:=fM Tryz.func43
theorem Dt6:fK V5 Tryz.f44 Ar3 Bm7 3:=fM Tryz.func44
theorem At9:fK L6 Tryz.f50 Af5 At0 3:=fM Tryz.func50
theorem G54:fK Aw2 Tryz.f51 Df7 Ee6 1:=fM Tryz.func51
theorem G17:fK Aw1 Tryz.f52 Df6 Ei3 1:=fM Tryz.func52
theorem Ie9:fK Be6 Tryz.f53 Ep6 Gv3 1:=fM Tryz.func53
theorem Er4:fK Ag7 Tryz.f54 Dt3 Eu0 1:=fM Tryz.func54
theorem G50:fK I2 Tryz.f55 Df5 Ee7 2:=fM Tryz.func55
theorem Gs1:fK Aa7 Tryz.f56 B95 D81 2:=fM Tryz.func56
theorem El4:fK Ag4 Tryz.f57 Bf1 Bf9 2:=fM Tryz.func57
theorem Eq5:fK Ag1 Tryz.f58 Bd4 Bd8 3:=fM Tryz.func58
theorem Eq9:fK Ag9 Tryz.f59 Bd5 Be0 2:=fM Tryz.func59
theorem Eq6:fK Z3 Tryz.f60 Bc6 Bb9 4:=fM Tryz.func60
theorem Em8:fK L7 Tryz.f66 Bg7 Da9 2:=fM Tryz.func66
theorem P3:fK B8 Tryz.f67 U9 Ab5 1:=fM Tryz.func67
theorem G11:fK A82 Tryz.f68 Dh8 Ei5 3:=fM Tryz.func68
theorem Ee0:fK V0 Tryz.f69 A53 By0 2:=fM Tryz.func69
theorem Dp4:fK O3 Tryz.f71 Aq4 Bh0 2:=fM Tryz.func71
theorem D23:fK Ag6 Tryz.f72 B79 D11 2:=fM Tryz.func72
theorem Hc8:fK Bh1 Tryz.f73 Do4 Ex2 2:=fM Tryz.func73
theorem Ge4:fK A67 Tryz.f74 Bu6 Dq8 1:=fM Tryz.func74
theorem Ee4:fK U8 Tryz.f80 A50 Bx3 2:=fM Tryz.func80
theorem Eb9:fK An1 Tryz.f82 A52 Bw1 2:=fM Tryz.func82
theorem Du0:fK Ae9 Tryz.f84 Au6 Bl2 3:=fM Tryz.func84
theorem Dn3:fK N3 Tryz.f90 An9 Bb5 2:=fM Tryz.func90
theorem Ay0:fK J6 Tryz.f100 Ba5 Bo5 1:=fM Tryz.func100
theorem Au0:fK I4 Tryz.f101 Bf4 Bt0 1:=fM Tryz.func101
theorem Am0:fK G5 Tryz.f102 Aw5 Bb1 1:=fM Tryz.func102
theorem He8:fK By8 Tryz.f103 Dp3 Ev2 2:=fM Tryz.func103
theorem E16:fK A15 Tryz.f104 Bo4 Dl4 2:=fM Tryz.func104
theorem Gd9:fK A64 Tryz.f105 Bu8 Dr2 3:=fM Tryz.func105
theorem E42:fK A10 Tryz.f106 Bo7 Dm2 3:=fM Tryz.func106
theorem Ex9:fK Ay9 Tryz.f107 Bk8 Dd3 5:=fM Tryz.func107
theorem El3:fK As9 Tryz.f108 Be9 B84 5:=fM Tryz.func108
theorem E22:fK Ae4 Tryz.f117 Bp5 Dk7 1:=fM Tryz.func117
theorem G58:fK Ba0 Tryz.f118 Dh2 Eh4 1:=fM Tryz.func118
theorem D32:fK O0 Tryz.f119 Az7 Bu4 4:=fM Tryz.func119
theorem Ea9:fK P4 Tryz.f123 A46 Bx9 2:=fM Tryz.func123
theorem He1:fK Aq5 Tryz.f124 Dn7 Ex4 1:=fM Tryz.func124
theorem Hd4:fK Bh7 Tryz.f125 Do3 Ew5 0:=fM Tryz.func125
theorem Dc2:fK W4 Tryz.f126 Aj5 A61 2:=fM Tryz.func126
theorem Hw6:fK Af8 Tryz.f127 Ed4 Gi4 1:=fM Tryz.func127
theorem Er7:fK Z6 Tryz.f128 Bg3 B60 2:=fM Tryz.func128
theorem Ek2:fK At3 Tryz.f129 Bd2 B76 2:=fM Tryz.func129
theorem S9:fK D2 Tryz.f136 Z4 Ai2 1:=fM Tryz.func136
theorem Eo9:fK As3 Tryz.f140 Bc3 B81 2:=fM Tryz.func140
theorem Eb7:fK An5 Tryz.f143 A51 Bw9 1:=fM Tryz.func143
theorem D36:fK Ak9 Tryz.f144 A00 Bt9 1:=fM Tryz.func144
theorem Ho9:fK Bn6 Tryz.f145 D09 E63 3:=fM Tryz.func145
theorem Bh3:fK H0 Tryz.f146 Aq6 Bi7 1:=fM Tryz.func146
theorem D30:fK Ak2 Tryz.f148 Az9 Bt8 2:=fM Tryz.func148
theorem Au2:fK L1 Tryz.f157 Af1 At6 3:=fM Tryz.func157
theorem G49:fK A96 Tryz.f158 Df4 Ei6 1:=fM Tryz.func158
theorem G33:fK Aw4 Tryz.f159 Df3 Ei9 1:=fM Tryz.func159
theorem Ar4:fK I6 Tryz.f160 Af4 At5 3:=fM Tryz.func160
theorem G22:fK Br1 Tryz.f161 Df1 Ef1 1:=fM Tryz.func161
theorem Hd2:fK Aq3 Tryz.f162 Dp6 Ev4 1:=fM Tryz.func162
theorem Hc1:fK Bz7 Tryz.f163 Dn8 Ev0 1:=fM Tryz.func163
theorem G09:fK A86 Tryz.f164 Di0 Ei4 1:=fM Tryz.func164
theorem Aw8:fK H9 Tryz.f165 Ag8 Ax7 2:=fM Tryz.func165
theorem Ei0:fK Ap0 Tryz.f175 Ba8 B47 1:=fM Tryz.func175
theorem Ea0:fK Ab8 Tryz.f176 A47 Bw4 2:=fM Tryz.func176
theorem Ek3:fK Au4 Tryz.f183 Bc8 Db0 1:=fM Tryz.func183
theorem Bo1:fK U5 Tryz.f190 Bn1 B68 1:=fM Tryz.func190
theorem Hc7:fK Bi6 Tryz.f191 Do1 Ew0 1:=fM Tryz.func191
theorem Dy5:fK Y4 Tryz.f192 Ax4 Bo9 1:=fM Tryz.func192
theorem Ii3:fK D67 Tryz.f193 E73 Ha5 1:=fM Tryz.func193
theorem Em3:fK A11 Tryz.f194 Dr9 Ep5 1:=fM Tryz.func194
theorem Ea5:fK Aw0 Tryz.f195 Di7 Ec1 1:=fM Tryz.func195
theorem Hr8:fK B91 Tryz.f196 D28 E55 2:=fM Tryz.func196
theorem Ib7:fK Ds1 Tryz.f197 Eq7 Gz0 1:=fM Tryz.func197
theorem En2:fK Ar6 Tryz.f198 Be1 B80 3:=fM Tryz.func198
theorem Bj6:fK P9 Tryz.f199 Ay5 Bk6 2:=fM Tryz.func199
theorem Gp4:fK Bf0 Tryz.f200 B24 D01 3:=fM Tryz.func200
theorem B61:fK Aa8 Tryz.f201 Bl9 Db3 1:=fM Tryz.func201
theorem Bm9:fK P1 Tryz.f202 A30 Bn8 2:=fM Tryz.func202
theorem B78:fK Aa9 Tryz.f203 Bl4 Db5 1:=fM Tryz.func203
theorem G05:fK Bs4 Tryz.f204 Dg1 Ej4 1:=fM Tryz.func204
theorem E59:fK A13 Tryz.f205 Bq2 Dl3 3:=fM Tryz.func205
theorem E72:fK Bb6 Tryz.f206 D46 E05 2:=fM Tryz.func206
theorem Go6:fK Bg1 Tryz.f207 B03 D04 3:=fM Tryz.func207
theorem Gf8:fK Ar2 Tryz.f208 Bv7 Dr1 1:=fM Tryz.func208
theorem E57:fK An6 Tryz.f209 Bo0 Dm8 2:=fM Tryz.func209
theorem Gk7:fK Bg5 Tryz.f210 B18 D06 2:=fM Tryz.func210
theorem Ef5:fK Ad9 Tryz.f211 Ba7 B36 5:=fM Tryz.func211
theorem Ed6:fK Ac6 Tryz.f212 A54 Bx6 5:=fM Tryz.func212
theorem Ej3:fK Ap7 Tryz.f213 Ba3 B39 7:=fM Tryz.func213
theorem E66:fK A24 Tryz.f214 Bo8 Dm6 7:=fM Tryz.func214
theorem Ey6:fK Ay6 Tryz.f216 Bk3 Dd2 2:=fM Tryz.func216
theorem E84:fK A26 Tryz.f217 Bp6 Dl6 3:=fM Tryz.func217
theorem Gf7:fK A72 Tryz.f218 Bv1 Dq6 3:=fM Tryz.func218
theorem Gg0:fK A69 Tryz.f219 Bu7 Dq5 3:=fM Tryz.func219
theorem Eo5:fK Ah0 Tryz.f220 Bd1 B54 6:=fM Tryz.func220
theorem Gm5:fK Bf3 Tryz.f221 B15 D25 3:=fM Tryz.func221
theorem Gm0:fK Am2 Tryz.f222 B19 Dx6 2:=fM Tryz.func222
theorem Hc5:fK Aj1 Tryz.f223 Dn5 Ev6 3:=fM Tryz.func223
theorem Gl1:fK Bc9 Tryz.f224 B30 Dw7 3:=fM Tryz.func224
theorem Dd1:fK W5 Tryz.f231 Aj6 A56 2:=fM Tryz.func231
theorem D33:fK S7 Tryz.f232 Az8 Bt6 2:=fM Tryz.func232
theorem Bx7:fK R0 Tryz.f233 Ac5 Av6 2:=fM Tryz.func233
theorem Gr6:fK Ah1 Tryz.f234 Db6 D62 1:=fM Tryz.func234
theorem Ek8:fK Au8 Tryz.f235 Bd6 B89 3:=fM Tryz.func235
theorem I3:fK P2 Tryz.f236 Bi9 Bw0 2:=fM Tryz.func236
theorem P5:fK Y7 Tryz.f237 Bw2 Dj4 1:=fM Tryz.func237
theorem El8:fK U3 Tryz.f238 Bd7 Da8 2:=fM Tryz.func238
theorem A88:fK O2 Tryz.f239 A91 Bt5 1:=fM Tryz.func239
theorem Eo1:fK Z5 Tryz.f240 Bf6 B88 3:=fM Tryz.func240
theorem G66:fK Br8 Tryz.f241 Df8 Eg9 1:=fM Tryz.func241
theorem G64:fK Br2 Tryz.f242 Dg4 Ej8 1:=fM Tryz.func242
theorem Dh5:fK Ae5 Tryz.f244 Bs6 De7 1:=fM Tryz.func244
theorem Ia6:fK Q3 Tryz.f246 Em5 Gr4 3:=fM Tryz.func246
theorem Bc7:fK U2 Tryz.f247 At7 Bg6 3:=fM Tryz.func247
theorem Ge2:fK Ai6 Tryz.f248 Bv5 Dq2 1:=fM Tryz.func248
theorem Az3:fK E7 Tryz.f261 Af6 Az4 2:=fM Tryz.func261
theorem Hc0:fK Bi5 Tryz.f269 Do0 Ex0 0:=fM Tryz.func269
theorem Dc7:fK W7 Tryz.f270 Aj9 A60 2:=fM Tryz.func270
theorem Hk3:fK Bp8 Tryz.f271 Dz4 E87 0:=fM Tryz.func271
theorem Dc5:fK W6 Tryz.f272 Aj8 A62 2:=fM Tryz.func272
theorem Dd0:fK W3 Tryz.f273 Aj2 A58 2:=fM Tryz.func273
theorem Dc0:fK W1 Tryz.f274 Aj4 A57 2:=fM Tryz.func274
theorem Ik5:fK D59 Tryz.f276 Ey8 G77 1:=fM Tryz.func276
theorem Bb4:fK G0 Tryz.f280 Ap8 A90 2:=fM Tryz.func280
theorem Df2:fK Ae6 Tryz.f281 Bq6 De9 1:=fM Tryz.func281
theorem G30:fK Br0 Tryz.f282 Dg5 Eg0 1:=fM Tryz.func282
theorem Er3:fK At8 Tryz.f283 Be4 Da2 1:=fM Tryz.func283
theorem G43:fK H4 Tryz.f285 Df9 Ej7 2:=fM Tryz.func285
theorem Ho4:fK B86 Tryz.f286 Dw8 E18 2:=fM Tryz.func286
theorem Bj7:fK P8 Tryz.f287 Az0 Bj9 1:=fM Tryz.func287
theorem G69:fK Ba4 Tryz.f288 Dg8 Eg3 1:=fM Tryz.func288
theorem E31:fK Ao2 Tryz.f289 Bn4 Dk5 1:=fM Tryz.func289
theorem Gt6:fK Ah5 Tryz.f290 Db9 D48 2:=fM Tryz.func290
theorem Gn0:fK Ax1 Tryz.f291 B28 D07 3:=fM Tryz.func291
theorem B87:fK Aa4 Tryz.f292 Bl7 B66 1:=fM Tryz.func292
theorem An8:fK G3 Tryz.f293 Ab1 Ao6 1:=fM Tryz.func293
theorem B17:fK U1 Tryz.f294 Bc0 B20 1:=fM Tryz.func294
theorem D99:fK Ac1 Tryz.f295 A42 By2 6:=fM Tryz.func295
theorem Gx4:fK Bk9 Tryz.f296 B63 D76 3:=fM Tryz.func296
theorem Gp5:fK Ax9 Tryz.f297 B22 D15 3:=fM Tryz.func297
theorem Gk6:fK Am1 Tryz.f300 B26 D02 2:=fM Tryz.func300
theorem E35:fK A25 Tryz.f301 Bq0 Dm0 3:=fM Tryz.func301
theorem Gn4:fK Ax8 Tryz.f302 B14 D03 3:=fM Tryz.func302
theorem Aa3:fK B5 Tryz.f303 V2 Aa2 3:=fM Tryz.func303
theorem Gf6:fK A71 Tryz.f304 Bv8 Dq4 3:=fM Tryz.func304
theorem Gk5:fK Bc2 Tryz.f305 B10 D24 2:=fM Tryz.func305
theorem B16:fK Y5 Tryz.f306 Bg2 B27 1:=fM Tryz.func306
theorem Ah3:fK G2 Tryz.f309 V7 Af9 2:=fM Tryz.func309
theorem H98:fK Du1 Tryz.f310 Ep1 Gr0 1:=fM Tryz.func310
theorem Hl2:fK Bo2 Tryz.f311 Dz7 E07 3:=fM Tryz.func311
theorem Ec0:fK Ac2 Tryz.f312 Dj7 Ed9 1:=fM Tryz.func312
theorem Ho1:fK B57 Tryz.f313 Dy1 E54 2:=fM Tryz.func313
theorem Aq2:fK B9 Tryz.f314 Ac7 Aq1 2:=fM Tryz.func314
theorem Ef9:fK Ap5 Tryz.f315 Ba1 B35 2:=fM Tryz.func315
theorem Bk7:fK Q1 Tryz.f316 Ay7 Bk0 2:=fM Tryz.func316
theorem Dw6:fK Ab9 Tryz.f317 Da0 Dx8 1:=fM Tryz.func317
theorem Gq5:fK Ai1 Tryz.f318 Da3 D85 1:=fM Tryz.func318
theorem M0:fK D9 Tryz.f321 Y9 Al9 2:=fM Tryz.func321
theorem Em1:fK As4 Tryz.f323 Be5 B90 3:=fM Tryz.func323
theorem Hv6:fK Au9 Tryz.f324 Ec3 Gg6 2:=fM Tryz.func324
theorem Hy7:fK Av7 Tryz.f325 Eb5 Gi2 1:=fM Tryz.func325
theorem Et4:fK Ar9 Tryz.f326 Be3 Da7 3:=fM Tryz.func326
theorem If8:fK Bs8 Tryz.f327 Er5 Gu2 2:=fM Tryz.func327
theorem H86:fK Bq7 Tryz.f328 En9 Gu5 1:=fM Tryz.func328
theorem Hu8:fK Av8 Tryz.f329 D98 Gh5 2:=fM Tryz.func329
theorem Gx8:fK Bl0 Tryz.f330 B67 D55 2:=fM Tryz.func330
theorem At2:fK I7 Tryz.f331 Af3 Au7 2:=fM Tryz.func331
theorem Dn9:fK O4 Tryz.f332 Aq7 Bg9 2:=fM Tryz.func332
theorem Du4:fK Ae8 Tryz.f333 Ar5 Bl6 2:=fM Tryz.func333
theorem D16:fK Ah8 Tryz.f336 Ax0 Bn0 2:=fM Tryz.func336
theorem Gf0:fK A77 Tryz.f337 Bv6 Dq3 3:=fM Tryz.func337
theorem Hm5:fK Ao9 Tryz.f338 Dw9 E23 2:=fM Tryz.func338
theorem Ho8:fK Bn2 Tryz.f339 Dv9 E38 1:=fM Tryz.func339
theorem H90:fK Ds7 Tryz.f340 En6 Gt1 1:=fM Tryz.func340
end
end Go.EQ

namespace Go.EQ
open Go Go.NN Go.Proofs
theorem Gc9:type_of% Tryz.underlying3:=Tryz.underlying3
theorem I93:type_of% Tryz.underlying4:=Tryz.underlying4
theorem I46:type_of% Tryz.underlying5:=Tryz.underlying5
theorem H58:type_of% Tryz.underlying22:=Tryz.underlying22
theorem Gy0:type_of% Tryz.underlying46:=Tryz.underlying46
end Go.EQ
