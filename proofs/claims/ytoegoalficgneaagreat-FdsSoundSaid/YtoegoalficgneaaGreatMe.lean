/- Honest calls on descriptors, and of processes, keep sound commons sound; no conditions. -/
import Derived.Test.YtoegoalficgneaaGreatMd
import Derived.KernelRfl
set_option linter.all false
set_option maxRecDepth 100000
namespace Go.EQ
open Go Go.NN Go.Proofs
open Go.IntKind (wrap)
open Go.Addr (add)
variable (C:D9) (R:Ah2) (fv0 p x4:Addr) (grown more:Bool) (h:H) (a atv e env envs f fd first g hi i n name root slot stamp v want who x10 x24 x45 x46 x86 x87:Int) (r x:List Value) (bc bn datac datan foundc foundn lc ln outc outn sc sn x44c x44n x85c x85n:Nat) (b c data found k l m out q s t x44 x85:Option Addr) (of:Option Nat) (cmp isv:Value)
noncomputable section
def A63:Cuts:=⟨0,[(5,[0,3,4,7])],[(24,[0,3,4,7])],[]⟩
def Bo3:List Item:=A4 Tryz.f6
def A81:List Item:=stk [0,1,0,1,0,1,0,0,1,4,5] Bo3
def N5:List Item:=stk [0,1,0,1,0,1,0,0,1,4,5,6,0,1,0,4,0,1,0,1,0] Bo3
theorem G90 :
 xQ A63 C R D2 Tryz.f6 Bo3 [(0,.slice l ln lc)] h =
 bnd (C Br3 [] h) fun r w=>aSl r fun x xn xc=>bnd (C Ao5 [.slice x xn xc] w) fun q1 w1=>as4 q1 fun q2 q3 q4 q5=>aPtr q2 fun z1=>aPtr q3 fun z2=>aPtr q4 fun _=>aPtr q5 fun _=>bnd (cond z2.isNone (some (true,w1)) (bnd (C Ac1 [.pointer z1] w1) fun q6 w2=>aPtr q6 fun z5=>some (z5.isNone,w2))) fun c w3=>cond c
 (some (.bool false,w3))
 (R D2 A81 [(0,.slice l ln lc),(3,.pointer z1),(4,.pointer z2),(7,iI 0)] w3):=kR
theorem Ds0 :
 xQ A63 C R D2 Tryz.f6 A81 [(0,.slice l ln lc),(3,.pointer k),(4,.pointer c),(7,iI i)] h =
 bnd (cond (decide (i<(ln:Int))) (some (decide (i<60),h)) (some (false,h))) fun c_1 w=>cond c_1
 (aSome l fun p=>ck ((0:Int)≤i∧i<(ln:Int)) (gAgg (add (A8 p) (Int.toNat i*4)) 4 w fun x=>nw (.cells Dm6 false [iI 0,iI 0,iI 0,iI 0]) w fun b w1=>ck (List.length x=4) (pAgg ⟨b,0,none⟩ x w1 fun w2=>gInt .i64 ⟨b,0,none⟩ w2 fun z1=>cond (z1==0)
 (gInt .i64 ⟨b,1,none⟩ w2 fun z2=>bnd (C Bq1 [.pointer c,iI z2] w2) fun r w3=>aAgg r fun _=>R D2 N5 [(0,.slice l ln lc),(3,.pointer k),(4,.pointer c),(7,iI i)] w3)
 (cond (z1==1)
 (gInt .i64 ⟨b,1,none⟩ w2 fun z4=>gInt .i64 ⟨b,2,none⟩ w2 fun z5=>bnd (C A41 [.pointer c,iI z4,iI z5] w2) fun q1 w4=>aAgg q1 fun _=>R D2 N5 [(0,.slice l ln lc),(3,.pointer k),(4,.pointer c),(7,iI i)] w4)
 (cond (z1==2)
 (gInt .i64 ⟨b,1,none⟩ w2 fun z7=>gInt .i64 ⟨b,2,none⟩ w2 fun z8=>bnd (C Dh2 [.pointer c,iI z7,iI z8] w2) fun q2 w5=>aAgg q2 fun _=>R D2 N5 [(0,.slice l ln lc),(3,.pointer k),(4,.pointer c),(7,iI i)] w5)
 (cond (z1==3)
 (gInt .i64 ⟨b,1,none⟩ w2 fun z10=>gInt .i64 ⟨b,2,none⟩ w2 fun z11=>gInt .i64 ⟨b,3,none⟩ w2 fun z12=>bnd (C B41 [.pointer c,iI z10,iI z11,iI z12] w2) fun q3 w6=>aAgg q3 fun _=>R D2 N5 [(0,.slice l ln lc),(3,.pointer k),(4,.pointer c),(7,iI i)] w6)
 (cond (z1==4)
 (gInt .i64 ⟨b,1,none⟩ w2 fun z14=>gInt .i64 ⟨b,2,none⟩ w2 fun z15=>gInt .i64 ⟨b,3,none⟩ w2 fun z16=>bnd (C Dh1 [.pointer c,iI z14,iI z15,iI z16] w2) fun q4 w7=>aAgg q4 fun _=>R D2 N5 [(0,.slice l ln lc),(3,.pointer k),(4,.pointer c),(7,iI i)] w7)
 (cond (z1==6)
 (gInt .i64 ⟨b,1,none⟩ w2 fun z18=>bnd (C Bt7 [.pointer c,iI z18] w2) fun q5 w8=>aAgg q5 fun _=>R D2 N5 [(0,.slice l ln lc),(3,.pointer k),(4,.pointer c),(7,iI i)] w8)
 (cond (z1==7)
 (gInt .i64 ⟨b,1,none⟩ w2 fun z20=>gInt .i64 ⟨b,2,none⟩ w2 fun z21=>bnd (C Bt8 [.pointer c,iI z20,iI z21] w2) fun q6 w9=>aAgg q6 fun _=>R D2 N5 [(0,.slice l ln lc),(3,.pointer k),(4,.pointer c),(7,iI i)] w9)
 (gInt .i64 ⟨b,1,none⟩ w2 fun z23=>bnd (C An2 [.pointer c,iI z23] w2) fun q7 w10=>aAgg q7 fun _=>R D2 N5 [(0,.slice l ln lc),(3,.pointer k),(4,.pointer c),(7,iI i)] w10))))))))))
 (bnd (C Db0 [] w) fun q8 w11=>aBool q8 fun z25=>some (.bool z25,w11)):=kR
theorem Gb9 :
 xQ A63 C R D2 Tryz.f6 N5 [(0,.slice l ln lc),(3,.pointer k),(4,.pointer c),(7,iI i)] h =
 bnd (C Ac1 [.pointer k] h) fun r w=>aPtr r fun x=>bnd (C Ao7 [.pointer x,iI 0] w) fun q1 w1=>as2 q1 fun q2 q3=>aSl q2 fun z1 xn xc=>aInt .i64 q3 fun z2=>bnd (cond (z2 != 0) (some (true,w1)) (bnd (C Db3 [.slice z1 xn xc] w1) fun q4 w2=>aBool q4 fun z3=>some (!z3,w2))) fun c_1 w3=>bnd (cond c_1 (some (true,w3)) (bnd (C E3 [.pointer c] w3) fun q5 w4=>aSl q5 fun _ xn_1 _=>some ((xn_1:Int) != 0,w4))) fun c_2 w5=>cond c_2
 (some (.bool false,w5))
 (R D2 A81 [(0,.slice l ln lc),(3,.pointer k),(4,.pointer c),(7,iI (wrap .i64 (i+1)))] w5):=kR
def Ep2:Cuts:=⟨0,[],[],[]⟩
def G13:List Item:=A4 Tryz.f10
theorem Gx9 :
 xQ Ep2 C R Bt7 Tryz.f10 G13 [(0,.pointer c),(1,iI i)] h =
 nw (.cells Ab8 false [iI 0,iI 0,.slice none 0 0,.bool false]) h fun b w=>bnd (C Af2 [.pointer c,iI i] w) fun r w1=>as2 r fun q1 q2=>aAgg q1 fun x=>aInt .i64 q2 fun z1=>nw (.cells A9 false zZ1) w1 fun p1 w2=>ck (List.length x=16) (pAgg ⟨p1,0,none⟩ x w2 fun w3=>cond (z1 != 0)
 (bnd (C Ai5 [iI z1] w3) fun q3 w4=>aAgg q3 fun z2=>ck (List.length z2=4) (pAgg ⟨b,0,none⟩ z2 w4 fun w5=>gAgg ⟨b,0,none⟩ 4 w5 fun z3=>some (.agg ⟨z3⟩,w5)))
 (bnd (C A39 [.pointer c] w3) fun q4 w6=>aInt .i64 q4 fun z4=>cond (decide (z4<0))
 (bnd (C Ai5 [iI 111] w6) fun q5 w7=>aAgg q5 fun z5=>ck (List.length z5=4) (pAgg ⟨b,0,none⟩ z5 w7 fun w8=>gAgg ⟨b,0,none⟩ 4 w8 fun z6=>some (.agg ⟨z6⟩,w8)))
 (gAgg ⟨p1,0,none⟩ 16 w6 fun z7=>bnd (C H6 [.pointer c,.agg ⟨z7⟩] w6) fun q6 w9=>aInt .i64 q6 fun z8=>cond (z8 != 0)
 (bnd (C Ai5 [iI z8] w9) fun q7 w10=>aAgg q7 fun z9=>ck (List.length z9=4) (pAgg ⟨b,0,none⟩ z9 w10 fun w11=>gAgg ⟨b,0,none⟩ 4 w11 fun z10=>some (.agg ⟨z10⟩,w11)))
 (pV ⟨p1,1,none⟩ (iI (wrap .i64 (i+1))) w9 fun w12=>pV ⟨p1,4,none⟩ (iI 0) w12 fun w13=>gAgg ⟨p1,0,none⟩ 16 w13 fun z11=>bnd (C H0 [.pointer c,iI z4,.agg ⟨z11⟩] w13) fun q8 w14=>aBool q8 fun z12=>bnd (C Aj0 [.bool z12,iI z4] w14) fun q9 w15=>aAgg q9 fun z13=>ck (List.length z13=4) (pAgg ⟨b,0,none⟩ z13 w15 fun w16=>gAgg ⟨b,0,none⟩ 4 w16 fun z14=>some (.agg ⟨z14⟩,w16)))))):=kR
def Bh5:Cuts:=⟨0,[(4,[1,3,4])],[],[(2,⟨[0,1,2,5,6,9,10,13,14,3,4,7,8,11,12,15,16,17],[0,0,2,6,15,0,32,110,255,0,512,1774,4095,0,8192,28398,65535,131071],[(3,[6,10,14]),(7,[10,14]),(11,[14])],[]⟩)]⟩
def B64:List Item:=A4 Tryz.f15
def A15:List Item:=stk [0,1,0,1,0,1,0,0,1,4,5] B64
theorem Gu8 (p:List Value) :
 xQ Bh5 C R Ab9 Tryz.f15 B64 [(0,.agg ⟨p⟩)] h =
 nw (.cells A9 false p) h fun b w=>gInt .i64 ⟨b,0,none⟩ w fun x=>gInt .i64 ⟨b,1,none⟩ w fun z1=>gInt .i64 ⟨b,2,none⟩ w fun z2=>gInt .i64 ⟨b,3,none⟩ w fun z3=>nw (.cells A3 false [.int .u8 (wrap .u8 (x)),.int .u8 (wrap .u8 (z1)),.int .u8 (wrap .u8 (z2)),.int .u8 (wrap .u8 (z3))]) w fun p1 w1=>gCells (some ⟨p1,0,none⟩) 4 w1 fun cs=>asBytes cs fun l=>gInt .i64 ⟨b,4,none⟩ w1 fun z4=>gInt .i64 ⟨b,5,none⟩ w1 fun z5=>gInt .i64 ⟨b,6,none⟩ w1 fun z6=>gInt .i64 ⟨b,7,none⟩ w1 fun z7=>bnd (C Bm8 [iI z4] w1) fun r w2=>aStr r fun z8=>gInt .i64 ⟨b,5,none⟩ w2 fun z9=>same (iI z5) (iI z9) (gInt .i64 ⟨b,6,none⟩ w2 fun z10=>same (iI z6) (iI z10) (gInt .i64 ⟨b,7,none⟩ w2 fun z11=>same (iI z7) (iI z11) (ck (ByteArray.size (ByteArray.mk ⟨l⟩)+ByteArray.size z8≤A7) (bnd (C Bm8 [iI z5] w2) fun q1 w3=>aStr q1 fun z12=>gInt .i64 ⟨b,6,none⟩ w3 fun z13=>same (iI z6) (iI z13) (gInt .i64 ⟨b,7,none⟩ w3 fun z14=>same (iI z7) (iI z14) (ck (ByteArray.size ((ByteArray.mk ⟨l⟩)++z8)+ByteArray.size z12≤A7) (bnd (C Bm8 [iI z6] w3) fun q2 w4=>aStr q2 fun z15=>gInt .i64 ⟨b,7,none⟩ w4 fun z16=>same (iI z7) (iI z16) (ck (ByteArray.size (((ByteArray.mk ⟨l⟩)++z8)++z12)+ByteArray.size z15≤A7) (bnd (C Bm8 [iI z7] w4) fun q3 w5=>aStr q3 fun z17=>ck (ByteArray.size ((((ByteArray.mk ⟨l⟩)++z8)++z12)++z15)+ByteArray.size z17≤A7) (R Ab9 A15 [(1,pP b),(3,.string (((((ByteArray.mk ⟨l⟩)++z8)++z12)++z15)++z17)),(4,iI 0)] w5)))))))))):=kR
theorem Dk6 (s:ByteArray) :
 xQ Bh5 C R Ab9 Tryz.f15 A15 [(1,.pointer (some p)),(3,.string s),(4,iI i)] h =
 cond (decide (i<8))
 (ck ((0:Int)≤i∧i<((8:Nat):Int)) (gInt .i64 (add (add p 8) (Int.toNat i*1)) h fun x=>nw (.cells A3 false [.int .u8 (wrap .u8 (x))]) h fun b w=>gCells (some ⟨b,0,none⟩) 1 w fun cs=>asBytes cs fun l=>ck (ByteArray.size s+ByteArray.size (ByteArray.mk ⟨l⟩)≤A7) (R Ab9 A15 [(1,.pointer (some p)),(3,.string (s++(ByteArray.mk ⟨l⟩))),(4,iI (wrap .i64 (i+1)))] w)))
 (ck (ByteArray.size s+ByteArray.size (ByteArray.mk ⟨[167]⟩)≤A7) (bnd (C Ap8 [.string (s++(ByteArray.mk ⟨[167]⟩))] h) fun r w1=>aInt .u8 r fun z1=>nw (.cells A3 false [.int .u8 z1,.int .u8 0,.int .u8 0]) w1 fun p1 w2=>gCells (some ⟨p1,0,none⟩) 3 w2 fun cs_1=>asBytes cs_1 fun l_1=>ck (ByteArray.size (s++(ByteArray.mk ⟨[167]⟩))+ByteArray.size (ByteArray.mk ⟨l_1⟩)≤A7) (some (.string ((s++(ByteArray.mk ⟨[167]⟩))++(ByteArray.mk ⟨l_1⟩)),w2)))):=kR
def Dx9:Cuts:=⟨0,[(6,[0,4,7,23,24,25])],[],[(9,⟨[0,1,2,4,5,6,7,8,9,10,3,11,12],[0,0,2,7,0,16,48,0,128,384,1008,2047,4095],[(3,[5,9])],[]⟩)]⟩
def Ep8:List Item:=A4 Tryz.f23
def B43:List Item:=stk [0,1,0,1,0,1,0,0,1,4,5] Ep8
theorem Gv8 :
 xQ Dx9 C R An2 Tryz.f23 Ep8 [(0,.pointer c),(1,iI i)] h =
 nw (.cells A6 false [iI i]) h fun b w=>nw (.cells Ab8 false [iI 0,iI 0,.slice none 0 0,.bool false]) w fun p1 w1=>gInt .i64 ⟨b,0,none⟩ w1 fun x=>bnd (C Af2 [.pointer c,iI x] w1) fun r w2=>as2 r fun q1 q2=>aAgg q1 fun z1=>aInt .i64 q2 fun z2=>nw (.cells A9 false zZ1) w2 fun p2 w3=>ck (List.length z1=16) (pAgg ⟨p2,0,none⟩ z1 w3 fun w4=>cond (z2 != 0)
 (bnd (C Ai5 [iI z2] w4) fun q3 w5=>aAgg q3 fun z3=>ck (List.length z3=4) (pAgg ⟨p1,0,none⟩ z3 w5 fun w6=>gAgg ⟨p1,0,none⟩ 4 w6 fun z4=>some (.agg ⟨z4⟩,w6)))
 (bnd (C Ai6 [.pointer c,.func (.func Bs7) ⟨[]⟩ ⟨[pP b]⟩] w4) fun q4 w7=>aSl q4 fun z5 xn xc=>R An2 B43 [(0,.pointer c),(4,pP p1),(7,.slice z5 xn xc),(23,.slice z5 xn xc),(24,iI (xn:Int)),(25,iI 0)] w7)):=kR
theorem Ex0 (x23:Option Addr) (x23n x23c:Nat) (x25:Int) :
 xQ Dx9 C R An2 Tryz.f23 B43 [(0,.pointer c),(4,.pointer (some x4)),(7,.slice l ln lc),(23,.slice x23 x23n x23c),(24,iI x24),(25,iI x25)] h =
 cond (decide (x25<x24))
 (aSome x23 fun p=>ck ((0:Int)≤x25∧x25<(x23n:Int)) (gAgg (add (A8 p) (Int.toNat x25*17)) 17 h fun x=>nw (.cells V3 false zZ2) h fun b w=>ck (List.length x=17) (pAgg ⟨b,0,none⟩ x w fun w1=>gAgg ⟨b,0,none⟩ 17 w1 fun z1=>bnd (C A01 [.agg ⟨z1⟩] w1) fun r w2=>aBool r fun z2=>cond (!z2)
 (gInt .i64 ⟨b,0,none⟩ w2 fun z3=>gInt .i64 ⟨b,0,none⟩ w2 fun z4=>gInt .i64 ⟨b,4,none⟩ w2 fun z5=>bnd (C N6 [.pointer c,iI z3] w2) fun q1 w3=>aBool q1 fun z6=>gInt .i64 ⟨b,0,none⟩ w3 fun z7=>same (iI z4) (iI z7) (gInt .i64 ⟨b,4,none⟩ w3 fun z8=>same (iI z5) (iI z8) (bnd (C Aj0 [.bool z6,iI (wrap .i64 ((wrap .i64 (256*z4))+z5))] w3) fun q2 w4=>aAgg q2 fun z9=>ck (List.length z9=4) (pAgg x4 z9 w4 fun w5=>gAgg x4 4 w5 fun z10=>some (.agg ⟨z10⟩,w5)))))
 (R An2 B43 [(0,.pointer c),(4,.pointer (some x4)),(7,.slice l ln lc),(23,.slice x23 x23n x23c),(24,iI x24),(25,iI (wrap .i64 (x25+1)))] w2))))
 (cond ((ln:Int)==0)
 (bnd (C Ai5 [iI 110] h) fun q3 w6=>aAgg q3 fun z11=>ck (List.length z11=4) (pAgg x4 z11 w6 fun w7=>gAgg x4 4 w7 fun z12=>some (.agg ⟨z12⟩,w7)))
 (pAgg x4 [iI 0,iI 0,.slice none 0 0,.bool true] h fun w8=>gAgg x4 4 w8 fun z13=>some (.agg ⟨z13⟩,w8))):=kR
def Gc7:Cuts:=⟨0,[],[],[]⟩
def Hs3:List Item:=A4 Tryz.f27
theorem Hv4 :
 xQ Gc7 C R Dh2 Tryz.f27 Hs3 [(0,.pointer c),(1,iI i),(2,iI fd)] h =
 nw (.cells Ab8 false [iI 0,iI 0,.slice none 0 0,.bool false]) h fun b w=>bnd (C B02 [.pointer c,iI i,iI fd] w) fun r w1=>as3 r fun q1 q2 q3=>aInt .i64 q1 fun x=>aAgg q2 fun z1=>aInt .i64 q3 fun z2=>nw (.cells B7 false [iI 0,iI 0,iI 0,iI 0]) w1 fun p1 w2=>ck (List.length z1=4) (pAgg ⟨p1,0,none⟩ z1 w2 fun w3=>cond (z2 != 0)
 (bnd (C J0 [iI z2] w3) fun q4 w4=>aAgg q4 fun z3=>ck (List.length z3=4) (pAgg ⟨b,0,none⟩ z3 w4 fun w5=>gAgg ⟨b,0,none⟩ 4 w5 fun z4=>some (.agg ⟨z4⟩,w5)))
 (bnd (C Af2 [.pointer c,iI i] w3) fun q5 w6=>as2 q5 fun q6 q7=>aAgg q6 fun z5=>aInt .i64 q7 fun _=>nw (.cells A9 false zZ1) w6 fun p2 w7=>ck (List.length z5=16) (pAgg ⟨p2,0,none⟩ z5 w7 fun w8=>gAgg ⟨p2,0,none⟩ 16 w8 fun z7=>bnd (C B79 [.agg ⟨z7⟩,iI 1] w8) fun q8 w9=>aSl q8 fun z8 xn _=>cond ((xn:Int)==0)
 (bnd (C J0 [iI 124] w9) fun q9 w10=>aAgg q9 fun z9=>ck (List.length z9=4) (pAgg ⟨b,0,none⟩ z9 w10 fun w11=>gAgg ⟨b,0,none⟩ 4 w11 fun z10=>some (.agg ⟨z10⟩,w11)))
 (gInt .i64 ⟨p1,2,none⟩ w9 fun z11=>cond (decide (z11≥64))
 (bnd (C J0 [iI 123] w9) fun q10 w12=>aAgg q10 fun z12=>ck (List.length z12=4) (pAgg ⟨b,0,none⟩ z12 w12 fun w13=>gAgg ⟨b,0,none⟩ 4 w13 fun z13=>some (.agg ⟨z13⟩,w13)))
 (gAgg ⟨p1,0,none⟩ 4 w9 fun z14=>bnd (C Dp4 [.pointer c,iI x,.agg ⟨z14⟩] w9) fun q11 w14=>aBool q11 fun z15=>cond (!z15)
 (bnd (C J0 [iI 105] w14) fun q12 w15=>aAgg q12 fun z16=>ck (List.length z16=4) (pAgg ⟨b,0,none⟩ z16 w15 fun w16=>gAgg ⟨b,0,none⟩ 4 w16 fun z17=>some (.agg ⟨z17⟩,w16)))
 (aSome z8 fun p=>ck ((0:Int)≤0∧0<(xn:Int)) (gInt .i64 (add (A8 p) (Int.toNat 0*1)) w14 fun z18=>bnd (C Do4 [.pointer c,iI i,iI z18,iI x] w14) fun q13 w17=>aAgg q13 fun z19=>ck (List.length z19=4) (pAgg ⟨b,0,none⟩ z19 w17 fun w18=>gAgg ⟨b,0,none⟩ 4 w18 fun z20=>some (.agg ⟨z20⟩,w18))))))))):=kR
def Ez0:Cuts:=⟨0,[],[],[]⟩
def Hc2:List Item:=A4 Tryz.f28
theorem Hg5 (to:Int) :
 xQ Ez0 C R B41 Tryz.f28 Hc2 [(0,.pointer c),(1,iI i),(2,iI fd),(3,iI to)] h =
 nw (.cells Ab8 false [iI 0,iI 0,.slice none 0 0,.bool false]) h fun b w=>bnd (C B02 [.pointer c,iI i,iI fd] w) fun r w1=>as3 r fun q1 q2 q3=>aInt .i64 q1 fun x=>aAgg q2 fun z1=>aInt .i64 q3 fun z2=>nw (.cells B7 false [iI 0,iI 0,iI 0,iI 0]) w1 fun p1 w2=>ck (List.length z1=4) (pAgg ⟨p1,0,none⟩ z1 w2 fun w3=>cond (z2 != 0)
 (bnd (C J0 [iI z2] w3) fun q4 w4=>aAgg q4 fun z3=>ck (List.length z3=4) (pAgg ⟨b,0,none⟩ z3 w4 fun w5=>gAgg ⟨b,0,none⟩ 4 w5 fun z4=>some (.agg ⟨z4⟩,w5)))
 (bnd (cond (decide (to<0)) (some (true,w3)) (some (decide (to≥8),w3))) fun c_1 w6=>cond c_1
 (bnd (C J0 [iI 109] w6) fun q5 w7=>aAgg q5 fun z5=>ck (List.length z5=4) (pAgg ⟨b,0,none⟩ z5 w7 fun w8=>gAgg ⟨b,0,none⟩ 4 w8 fun z6=>some (.agg ⟨z6⟩,w8)))
 (cond (to==fd)
 (pAgg ⟨b,0,none⟩ [iI to,iI 0,.slice none 0 0,.bool false] w6 fun w9=>gAgg ⟨b,0,none⟩ 4 w9 fun z7=>some (.agg ⟨z7⟩,w9))
 (gInt .i64 ⟨p1,2,none⟩ w6 fun z8=>cond (decide (z8≥64))
 (bnd (C J0 [iI 123] w6) fun q6 w10=>aAgg q6 fun z9=>ck (List.length z9=4) (pAgg ⟨b,0,none⟩ z9 w10 fun w11=>gAgg ⟨b,0,none⟩ 4 w11 fun z10=>some (.agg ⟨z10⟩,w11)))
 (gAgg ⟨p1,0,none⟩ 4 w6 fun z11=>bnd (C Dp4 [.pointer c,iI x,.agg ⟨z11⟩] w6) fun q7 w12=>aBool q7 fun z12=>cond (!z12)
 (bnd (C J0 [iI 105] w12) fun q8 w13=>aAgg q8 fun z13=>ck (List.length z13=4) (pAgg ⟨b,0,none⟩ z13 w13 fun w14=>gAgg ⟨b,0,none⟩ 4 w14 fun z14=>some (.agg ⟨z14⟩,w14)))
 (bnd (C A41 [.pointer c,iI i,iI to] w12) fun q9 w15=>aAgg q9 fun _=>bnd (C Do4 [.pointer c,iI i,iI to,iI x] w15) fun q10 w16=>aAgg q10 fun z16=>ck (List.length z16=4) (pAgg ⟨b,0,none⟩ z16 w16 fun w17=>gAgg ⟨b,0,none⟩ 4 w17 fun z17=>some (.agg ⟨z17⟩,w17)))))))):=kR
def Gj6:Cuts:=⟨0,[],[],[]⟩
def Hu2:List Item:=A4 Tryz.f29
theorem Hs5 (on:Int) :
 xQ Gj6 C R Dh1 Tryz.f29 Hu2 [(0,.pointer c),(1,iI i),(2,iI fd),(3,iI on)] h =
 nw (.cells Ab8 false [iI 0,iI 0,.slice none 0 0,.bool false]) h fun b w=>bnd (C B02 [.pointer c,iI i,iI fd] w) fun r w1=>as3 r fun q1 q2 q3=>aInt .i64 q1 fun x=>aAgg q2 fun z1=>aInt .i64 q3 fun z2=>nw (.cells B7 false [iI 0,iI 0,iI 0,iI 0]) w1 fun p1 w2=>ck (List.length z1=4) (pAgg ⟨p1,0,none⟩ z1 w2 fun w3=>cond (z2 != 0)
 (bnd (C J0 [iI z2] w3) fun q4 w4=>aAgg q4 fun z3=>ck (List.length z3=4) (pAgg ⟨b,0,none⟩ z3 w4 fun w5=>gAgg ⟨b,0,none⟩ 4 w5 fun z4=>some (.agg ⟨z4⟩,w5)))
 (nw (.cells A6 false [iI 0,iI 1]) w3 fun p2 w6=>bnd (C M7 [.slice (some ⟨p2,0,none⟩) 2 2,iI on] w6) fun q5 w7=>aBool q5 fun z5=>cond (!z5)
 (bnd (C J0 [iI 122] w7) fun q6 w8=>aAgg q6 fun z6=>ck (List.length z6=4) (pAgg ⟨b,0,none⟩ z6 w8 fun w9=>gAgg ⟨b,0,none⟩ 4 w9 fun z7=>some (.agg ⟨z7⟩,w9)))
 (pV ⟨p1,3,none⟩ (iI on) w7 fun w10=>gAgg ⟨p1,0,none⟩ 4 w10 fun z8=>bnd (C G9 [.pointer c,iI x,.agg ⟨z8⟩] w10) fun q7 w11=>aBool q7 fun z9=>bnd (C B38 [.bool z9,iI 0] w11) fun q8 w12=>aAgg q8 fun z10=>ck (List.length z10=4) (pAgg ⟨b,0,none⟩ z10 w12 fun w13=>gAgg ⟨b,0,none⟩ 4 w13 fun z11=>some (.agg ⟨z11⟩,w13))))):=kR
def Bh7:Cuts:=⟨0,[(4,[1,3,4])],[],[]⟩
def B76:List Item:=A4 Tryz.f35
def A18:List Item:=stk [0,1,0,1,0,1,0,0,1,4,5] B76
theorem Gt3 (p:List Value) :
 xQ Bh7 C R W3 Tryz.f35 B76 [(0,.agg ⟨p⟩)] h =
 nw (.cells D7 false p) h fun b w=>gInt .i64 ⟨b,0,none⟩ w fun x=>gInt .i64 ⟨b,1,none⟩ w fun z1=>gInt .i64 ⟨b,2,none⟩ w fun z2=>gInt .i64 ⟨b,3,none⟩ w fun z3=>nw (.cells A3 false [.int .u8 1,.int .u8 (wrap .u8 (x)),.int .u8 (wrap .u8 (z1)),.int .u8 (wrap .u8 (z2)),.int .u8 (wrap .u8 (z3)),.int .u8 197]) w fun p1 w1=>gCells (some ⟨p1,0,none⟩) 6 w1 fun cs=>asBytes cs fun l=>bnd (C Ap8 [.string (ByteArray.mk ⟨l⟩)] w1) fun r w2=>aInt .u8 r fun z4=>nw (.cells A3 false [.int .u8 z4,.int .u8 0]) w2 fun p2 w3=>gCells (some ⟨p2,0,none⟩) 2 w3 fun cs_1=>asBytes cs_1 fun l_1=>ck (ByteArray.size (ByteArray.mk ⟨l⟩)+ByteArray.size (ByteArray.mk ⟨l_1⟩)≤A7) (R W3 A18 [(1,pP b),(3,.string ((ByteArray.mk ⟨l⟩)++(ByteArray.mk ⟨l_1⟩))),(4,iI 0)] w3):=kR
theorem Dm5 (s:ByteArray) :
 xQ Bh7 C R W3 Tryz.f35 A18 [(1,.pointer (some p)),(3,.string s),(4,iI i)] h =
 cond (decide (i<32))
 (ck ((0:Int)≤i∧i<((32:Nat):Int)) (gInt .u8 (add (add p 4) (Int.toNat i*1)) h fun x=>nw (.cells A3 false [.int .u8 x]) h fun b w=>gCells (some ⟨b,0,none⟩) 1 w fun cs=>asBytes cs fun l=>ck (ByteArray.size s+ByteArray.size (ByteArray.mk ⟨l⟩)≤A7) (R W3 A18 [(1,.pointer (some p)),(3,.string (s++(ByteArray.mk ⟨l⟩))),(4,iI (wrap .i64 (i+1)))] w)))
 (some (.string s,h)):=kR
def Dw6:Cuts:=⟨0,[],[],[]⟩
def Eu8:List Item:=A4 Tryz.f52
theorem Ho3 :
 xQ Dw6 C R Af4 Tryz.f52 Eu8 [(0,.slice b bn bc)] h =
 nw (.cells A9 false zZ1) h fun p1 w=>bnd (cond ((bn:Int)==24) (bnd (C Ay5 [.slice b bn bc] w) fun r w1=>aBool r fun x=>some (x,w1)) (some (false,w))) fun c w2=>cond c
 (pAgg ⟨p1,0,none⟩ zZ1 w2 fun w3=>gAgg ⟨p1,0,none⟩ 16 w3 fun z1=>some (.tuple ⟨[.agg ⟨z1⟩,iI 0]⟩,w3))
 (bnd (C Bs8 [] w2) fun q1 w4=>aPtr q1 fun z2=>bnd (C Ad8 [.pointer z2,.slice b bn bc] w4) fun q2 w5=>as2 q2 fun q3 q4=>aAgg q3 fun z3=>aBool q4 fun z4=>nw (.cells A9 false zZ1) w5 fun p2 w6=>ck (List.length z3=16) (pAgg ⟨p2,0,none⟩ z3 w6 fun w7=>cond (!z4)
 (pAgg ⟨p1,0,none⟩ zZ1 w7 fun w8=>gAgg ⟨p1,0,none⟩ 16 w8 fun z5=>some (.tuple ⟨[.agg ⟨z5⟩,iI 2]⟩,w8))
 (gAgg ⟨p2,0,none⟩ 16 w7 fun z6=>ck (List.length z6=16) (pAgg ⟨p1,0,none⟩ z6 w7 fun w9=>gAgg ⟨p1,0,none⟩ 16 w9 fun z7=>some (.tuple ⟨[.agg ⟨z7⟩,iI 1]⟩,w9))))):=kR
def D85:Cuts:=⟨0,[(3,[0,3,4])],[],[]⟩
def E31:List Item:=A4 Tryz.f54
def Db6:List Item:=stk [0,1,0,1,0,0,1,4,5] E31
theorem It3 (b:ByteArray) :
 xQ D85 C R Ap8 Tryz.f54 E31 [(0,.string b)] h =
 R Ap8 Db6 [(0,.string b),(3,iI ((ByteArray.size b:Nat):Int)),(4,iI 0)] h:=kR
theorem Ga4 (b:ByteArray) :
 xQ D85 C R Ap8 Tryz.f54 Db6 [(0,.string b),(3,iI n),(4,iI i)] h =
 cond (decide (i<((ByteArray.size b:Nat):Int)))
 (ck ((0:Int)≤i∧i<((ByteArray.size b:Nat):Int)) (R Ap8 Db6 [(0,.string b),(3,iI (wrap .i64 (n+(wrap .i64 (((List.getD (ByteArray.data b).toList (Int.toNat i) 0).toNat:Int)))))),(4,iI (wrap .i64 (i+1)))] h))
 (some (.int .u8 (wrap .u8 (n)),h)):=kR
def Bp6:Cuts:=⟨0,[],[(18,[0,5,7])],[]⟩
def De6:List Item:=A4 Tryz.f64
def A77:List Item:=stk [0,1,0,1,0,1,0,1,0,1,0,1,0,1,0,1,0,1,0,1,0,0] De6
theorem G68 :
 xQ Bp6 C R Aa5 Tryz.f64 De6 [(0,.pointer c),(1,iI f)] h =
 bnd (C D4 [.pointer c] h) fun r w=>as0 r (bnd (C L7 [.pointer c,iI f] w) fun q1 w1=>as2 q1 fun q2 q3=>aAgg q2 fun x=>aInt .i64 q3 fun z1=>nw (.cells B7 false [iI 0,iI 0,iI 0,iI 0]) w1 fun b w2=>ck (List.length x=4) (pAgg ⟨b,0,none⟩ x w2 fun w3=>cond (z1 != 1)
 (some (iI 105,w3))
 (gInt .i64 ⟨b,2,none⟩ w3 fun z2=>pV ⟨b,2,none⟩ (iI (wrap .i64 (z2-1))) w3 fun w4=>gInt .i64 ⟨b,2,none⟩ w4 fun z3=>cond (decide (z3>0))
 (gAgg ⟨b,0,none⟩ 4 w4 fun z4=>bnd (C G9 [.pointer c,iI f,.agg ⟨z4⟩] w4) fun q4 w5=>aBool q4 fun z5=>bnd (C Aj0 [.bool z5,iI 0] w5) fun q5 w6=>aAgg q5 fun z6=>nth z6 1 fun E=>aInt .i64 E fun E_1=>some (iI E_1,w6))
 (bnd (C Aj6 [.pointer c,iI f] w4) fun q6 w7=>aBool q6 fun z7=>cond (!z7)
 (some (iI 105,w7))
 (gInt .i64 ⟨b,0,none⟩ w7 fun z8=>cond (z8==3)
 (some (iI 0,w7))
 (gInt .i64 ⟨b,1,none⟩ w7 fun z9=>bnd (C Ab6 [.pointer c,iI z9] w7) fun q7 w8=>as2 q7 fun q8 q9=>aAgg q8 fun z10=>aInt .i64 q9 fun z11=>nw (.cells D7 false zZ4) w8 fun p1 w9=>ck (List.length z10=36) (pAgg ⟨p1,0,none⟩ z10 w9 fun w10=>cond (z11 != 1)
 (some (iI 105,w10))
 (gInt .i64 ⟨b,0,none⟩ w10 fun z12=>cond (z12==1)
 (gInt .i64 ⟨p1,2,none⟩ w10 fun z13=>pV ⟨p1,2,none⟩ (iI (mm2 true (wrap .i64 (z13-1)) 0)) w10 fun w11=>R Aa5 A77 [(0,.pointer c),(5,pP b),(7,pP p1)] w11)
 (gInt .i64 ⟨p1,3,none⟩ w10 fun z14=>pV ⟨p1,3,none⟩ (iI (mm2 true (wrap .i64 (z14-1)) 0)) w10 fun w12=>R Aa5 A77 [(0,.pointer c),(5,pP b),(7,pP p1)] w12))))))))):=kR
theorem Gc0 (x:Addr) :
 xQ Bp6 C R Aa5 Tryz.f64 A77 [(0,.pointer c),(5,.pointer (some x)),(7,.pointer (some p))] h =
 gInt .i64 (add p 2) h fun z1=>gInt .i64 (add p 3) h fun z2=>bnd (cond ((wrap .i64 (z1+z2))==0) (gInt .i64 (add x 1) h fun z3=>some (decide (z3<4),h)) (some (false,h))) fun c_1 w=>cond c_1
 (gInt .i64 (add x 1) w fun z4=>bnd (C Aj7 [.pointer c,iI z4] w) fun r w1=>aBool r fun z5=>bnd (C Aj0 [.bool z5,iI 0] w1) fun q1 w2=>aAgg q1 fun z6=>nth z6 1 fun E=>aInt .i64 E fun E_1=>some (iI E_1,w2))
 (gInt .i64 (add x 1) w fun z7=>gAgg p 36 w fun z8=>bnd (C Ac9 [.pointer c,iI z7,.agg ⟨z8⟩] w) fun q2 w3=>aBool q2 fun z9=>bnd (C Aj0 [.bool z9,iI 0] w3) fun q3 w4=>aAgg q3 fun z10=>nth z10 1 fun E_2=>aInt .i64 E_2 fun E_3=>some (iI E_3,w4)):=kR
def Ab2:Cuts:=⟨0,[(1,[0,5]),(6,[0,12]),(11,[0,20,21])],[],[]⟩
def Ai3:List Item:=A4 Tryz.f67
def Al3:List Item:=stk [0,0,1,4,5] Ai3
def Am1:List Item:=stk [0,1,0,0,1,4,5] Ai3
def Al4:List Item:=stk [0,1,0,1,0,0,1,4,5] Ai3
theorem Er8 :
 xQ Ab2 C R D4 Tryz.f67 Ai3 [(0,.pointer c)] h =
 R D4 Al3 [(0,.pointer c),(5,iI 0)] h:=kR
theorem Bx0 (x5:Int) :
 xQ Ab2 C R D4 Tryz.f67 Al3 [(0,.pointer c),(5,iI x5)] h =
 cond (decide (x5<8))
 (bnd (C I5 [.pointer c,iI x5] h) fun r w=>as2 r fun q1 q2=>aAgg q1 fun _=>aInt .i64 q2 fun _=>R D4 Al3 [(0,.pointer c),(5,iI (wrap .i64 (x5+1)))] w)
 (R D4 Am1 [(0,.pointer c),(12,iI 0)] h):=kR
theorem Bw2 (x12:Int) :
 xQ Ab2 C R D4 Tryz.f67 Am1 [(0,.pointer c),(12,iI x12)] h =
 cond (decide (x12<12))
 (bnd (C L7 [.pointer c,iI x12] h) fun r w=>as2 r fun q1 q2=>aAgg q1 fun _=>aInt .i64 q2 fun _=>R D4 Am1 [(0,.pointer c),(12,iI (wrap .i64 (x12+1)))] w)
 (bnd (C Ab5 [.pointer c,iI 3] h) fun q3 w1=>aInt .i64 q3 fun z2=>R D4 Al4 [(0,.pointer c),(20,iI z2),(21,iI 0)] w1):=kR
theorem Bx4 (x20:Int) (x21:Int) :
 xQ Ab2 C R D4 Tryz.f67 Al4 [(0,.pointer c),(20,iI x20),(21,iI x21)] h =
 cond (decide (x21<x20))
 (bnd (C Ab6 [.pointer c,iI x21] h) fun r w=>as2 r fun q1 q2=>aAgg q1 fun _=>aInt .i64 q2 fun _=>R D4 Al4 [(0,.pointer c),(20,iI x20),(21,iI (wrap .i64 (x21+1)))] w)
 (bnd (C Au6 [.pointer c] h) fun q3 w1=>as2 q3 fun q4 q5=>aAgg q4 fun _=>aInt .i64 q5 fun _=>bnd (C Ar7 [.pointer c] w1) fun q6 w2=>as2 q6 fun q7 q8=>aInt .i64 q7 fun _=>aBool q8 fun _=>some (.tuple ⟨[]⟩,w2)):=kR
def Dv4:Cuts:=⟨0,[],[],[]⟩
def Ev4:List Item:=A4 Tryz.f68
theorem Hl0 :
 xQ Dv4 C R Bl2 Tryz.f68 Ev4 [(0,.pointer m),(1,iI atv),(2,iI n)] h =
 bnd (C By1 [.pointer m,iI atv,iI n] h) fun r w=>aBool r fun x=>cond (!x)
 (some (.tuple ⟨[.slice none 0 0,iI 1]⟩,w))
 (aSome m fun p=>gSl (add p 0) w fun z1 _ xc=>ckB (fitsOpen z1 A3 w) (ck ((0:Int)≤wrap .i64 (atv+n)∧wrap .i64 (atv+n)≤(xc:Int)) (ck ((0:Int)≤atv∧atv≤((Int.toNat (wrap .i64 (atv+n)):Nat):Int)) (bnd (C H7 [.slice (H9 z1 (decide (Int.toNat atv<xc)) ((Int.toNat atv)*1)) ((Int.toNat (wrap .i64 (atv+n)))-(Int.toNat atv)) (xc-(Int.toNat atv))] w) fun q1 w1=>aSl q1 fun z2 xn_1 xc_1=>some (.tuple ⟨[.slice z2 xn_1 xc_1,iI 0]⟩,w1))))):=kR
def Dc5:Cuts:=⟨0,[(2,[0,8,9,10])],[],[]⟩
def D39:List Item:=A4 Tryz.f70
def A53:List Item:=stk [0,1,0,1,4,5] D39
theorem Hy3 :
 xQ Dc5 C R Aj5 Tryz.f70 D39 [(0,.pointer c),(1,iI i)] h =
 nw (.cells A6 false [iI i]) h fun b w=>bnd (C Ai6 [.pointer c,.func (.func Bd3) ⟨[]⟩ ⟨[pP b]⟩] w) fun r w1=>aSl r fun x xn xc=>R Aj5 A53 [(0,.pointer c),(8,.slice x xn xc),(9,iI (xn:Int)),(10,iI 0)] w1:=kR
theorem Eh3 (x8:Option Addr) (x8n x8c:Nat) (x9:Int) :
 xQ Dc5 C R Aj5 Tryz.f70 A53 [(0,.pointer c),(8,.slice x8 x8n x8c),(9,iI x9),(10,iI x10)] h =
 cond (decide (x10<x9))
 (aSome x8 fun p=>ck ((0:Int)≤x10∧x10<(x8n:Int)) (gAgg (add (A8 p) (Int.toNat x10*17)) 17 h fun x=>nw (.cells V3 false zZ2) h fun b w=>ck (List.length x=17) (pAgg ⟨b,0,none⟩ x w fun w1=>gAgg ⟨b,0,none⟩ 17 w1 fun z1=>bnd (C A01 [.agg ⟨z1⟩] w1) fun r w2=>aBool r fun z2=>cond (!z2)
 (gInt .i64 ⟨b,0,none⟩ w2 fun z3=>bnd (C N6 [.pointer c,iI z3] w2) fun q1 w3=>aBool q1 fun _=>R Aj5 A53 [(0,.pointer c),(8,.slice x8 x8n x8c),(9,iI x9),(10,iI (wrap .i64 (x10+1)))] w3)
 (pV ⟨b,2,none⟩ (iI 0) w2 fun w4=>gInt .i64 ⟨b,0,none⟩ w4 fun z5=>gAgg ⟨b,1,none⟩ 16 w4 fun z6=>bnd (C H0 [.pointer c,iI z5,.agg ⟨z6⟩] w4) fun q2 w5=>aBool q2 fun _=>R Aj5 A53 [(0,.pointer c),(8,.slice x8 x8n x8c),(9,iI x9),(10,iI (wrap .i64 (x10+1)))] w5))))
 (some (.tuple ⟨[]⟩,h)):=kR
def D41:Cuts:=⟨0,[],[],[]⟩
def E93:List Item:=A4 Tryz.f73
theorem Hy4 :
 xQ D41 C R Bs7 Tryz.f73 E93 [(0,.agg ⟨x⟩),(1,.pointer (some fv0))] h =
 nw (.cells V3 false x) h fun b w=>gInt .i64 ⟨b,2,none⟩ w fun z1=>gInt .i64 fv0 w fun z2=>some (.bool (z1==(wrap .i64 (z2+1))),w):=kR
def B75:Cuts:=⟨0,[],[],[]⟩
def D59:List Item:=A4 Tryz.f74
theorem Gv6 :
 xQ B75 C R A01 Tryz.f74 D59 [(0,.agg ⟨x⟩)] h =
 nw (.cells V3 false x) h fun b w=>gInt .i64 ⟨b,1,none⟩ w fun z1=>some (.bool (z1 != 2),w):=kR
def Er6:Cuts:=⟨0,[],[],[]⟩
def Gz1:List Item:=A4 Tryz.f77
theorem Ii9 (p:List Value) :
 xQ Er6 C R B79 Tryz.f77 Gz1 [(0,.agg ⟨p⟩),(1,iI want)] h =
 nw (.cells A9 false p) h fun b w=>bnd (C Af5 [iI 8,iI want,.func (.func Bs3) ⟨[]⟩ ⟨[pP b]⟩] w) fun r w1=>aSl r fun x xn xc=>some (.slice x xn xc,w1):=kR
def Ea4:Cuts:=⟨0,[(3,[0,1,2,7,8])],[],[]⟩
def E36:List Item:=A4 Tryz.f78
def Br4:List Item:=stk [0,1,0,1,0,0,1,4,5] E36
theorem It0 :
 xQ Ea4 C R Af5 Tryz.f78 E36 [(0,iI n),(1,iI want),(2,isv)] h =
 R Af5 Br4 [(0,iI n),(1,iI want),(2,isv),(7,.slice none 0 0),(8,iI 0)] h:=kR
theorem D38 :
 xQ Ea4 C R Af5 Tryz.f78 Br4 [(0,iI n),(1,iI want),(2,isv),(7,.slice out outn outc),(8,iI i)] h =
 bnd (cond (decide (i<n)) (some (decide ((outn:Int)<want),h)) (some (false,h))) fun c w=>cond c
 (aFn isv fun g fi cp=>bnd (C g (fi++([iI i]++cp)) w) fun r w1=>aBool r fun x=>cond x
 (nw (.cells A6 false [iI i]) w1 fun b w2=>gCells (some ⟨b,0,none⟩) (1*1) w2 fun cs=>ckB (fitsOpen out A6 w2) (apd A6 1 out outn outc 1 cs w2 fun a an ac w3=>R Af5 Br4 [(0,iI n),(1,iI want),(2,isv),(7,.slice a an ac),(8,iI (wrap .i64 (i+1)))] w3))
 (R Af5 Br4 [(0,iI n),(1,iI want),(2,isv),(7,.slice out outn outc),(8,iI (wrap .i64 (i+1)))] w1))
 (some (.slice out outn outc,w)):=kR
def Bf0:Cuts:=⟨0,[],[],[]⟩
def Da3:List Item:=A4 Tryz.f80
theorem Eq2 :
 xQ Bf0 C R L7 Tryz.f80 Da3 [(0,.pointer c),(1,iI i)] h =
 nw (.cells B7 false [iI 0,iI 0,iI 0,iI 0]) h fun b w=>bnd (C A48 [iI i] w) fun r w1=>aAgg r fun x=>bnd (C O6 [.pointer c,.agg ⟨x⟩,.func (.func Ag1) ⟨[]⟩ ⟨[]⟩] w1) fun q1 w2=>as2 q1 fun q2 q3=>aAgg q2 fun z1=>aInt .i64 q3 fun z2=>ck (List.length z1=4) (pAgg ⟨b,0,none⟩ z1 w2 fun w3=>gAgg ⟨b,0,none⟩ 4 w3 fun z3=>some (.tuple ⟨[.agg ⟨z3⟩,iI z2]⟩,w3)):=kR
def Ed6:Cuts:=⟨0,[],[],[]⟩
def Gg4:List Item:=A4 Tryz.f81
theorem H19 (k:Int) :
 xQ Ed6 C R Bj5 Tryz.f81 Gg4 [(0,iI k),(1,.pointer (some fv0))] h =
 gPtr fv0 h fun x=>bnd (C Ab6 [.pointer x,iI k] h) fun r w=>as2 r fun q1 q2=>aAgg q1 fun z1=>aInt .i64 q2 fun z2=>nw (.cells D7 false zZ4) w fun b w1=>ck (List.length z1=36) (pAgg ⟨b,0,none⟩ z1 w1 fun w2=>some (.bool (z2==0),w2)):=kR
def Bf3:Cuts:=⟨0,[],[],[]⟩
def Da1:List Item:=A4 Tryz.f82
theorem Es7 :
 xQ Bf3 C R Ab6 Tryz.f82 Da1 [(0,.pointer c),(1,iI i)] h =
 nw (.cells D7 false zZ4) h fun b w=>bnd (C A50 [iI i] w) fun r w1=>aAgg r fun x=>bnd (C J7 [.pointer c,.agg ⟨x⟩,.func (.func Aa6) ⟨[]⟩ ⟨[]⟩] w1) fun q1 w2=>as2 q1 fun q2 q3=>aAgg q2 fun z1=>aInt .i64 q3 fun z2=>ck (List.length z1=36) (pAgg ⟨b,0,none⟩ z1 w2 fun w3=>gAgg ⟨b,0,none⟩ 36 w3 fun z3=>some (.tuple ⟨[.agg ⟨z3⟩,iI z2]⟩,w3)):=kR
def A26:Cuts:=⟨0,[],[],[]⟩
def Bw5:List Item:=A4 Tryz.f84
theorem D82 (f:List Value) :
 xQ A26 C R G9 Tryz.f84 Bw5 [(0,.pointer c),(1,iI i),(2,.agg ⟨f⟩)] h =
 nw (.cells B7 false f) h fun b w=>gAgg ⟨b,0,none⟩ 4 w fun x=>bnd (C Bk6 [.agg ⟨x⟩] w) fun r w1=>as2 r fun q1 q2=>aSl q1 fun z1 xn xc=>aBool q2 fun z2=>bnd (C A48 [iI i] w1) fun q3 w2=>aAgg q3 fun z3=>bnd (C O0 [.pointer c,.agg ⟨z3⟩,.slice z1 xn xc,.bool z2] w2) fun q4 w3=>aBool q4 fun z4=>some (.bool z4,w3):=kR
def G64:Cuts:=⟨0,[],[],[(3,⟨[0,1,2,3,4],[0,0,0,5,15],[],[]⟩),(5,⟨[0,1,2,3],[0,0,3,7],[],[]⟩),(9,⟨[0,1,2,3,4,5,6,7,8],[0,0,3,7,15,0,31,127,255],[],[]⟩)]⟩
def H24:List Item:=A4 Tryz.f87
theorem Ie1 :
 xQ G64 C R B02 Tryz.f87 H24 [(0,.pointer c),(1,iI i),(2,iI fd)] h =
 nw (.cells B7 false [iI 0,iI 0,iI 0,iI 0]) h fun b w=>bnd (C Af2 [.pointer c,iI i] w) fun r w1=>as2 r fun q1 q2=>aAgg q1 fun x=>aInt .i64 q2 fun z1=>nw (.cells A9 false zZ1) w1 fun p1 w2=>ck (List.length x=16) (pAgg ⟨p1,0,none⟩ x w2 fun w3=>cond (z1 != 0)
 (gAgg ⟨b,0,none⟩ 4 w3 fun z2=>ck (List.length z2=4) (pAgg ⟨b,0,none⟩ z2 w3 fun w4=>gAgg ⟨b,0,none⟩ 4 w4 fun z3=>some (.tuple ⟨[iI 0,.agg ⟨z3⟩,iI z1]⟩,w4)))
 (gAgg ⟨p1,0,none⟩ 16 w3 fun z4=>bnd (C B87 [.agg ⟨z4⟩,iI fd] w3) fun q3 w5=>aBool q3 fun z5=>cond (!z5)
 (gAgg ⟨b,0,none⟩ 4 w5 fun z6=>ck (List.length z6=4) (pAgg ⟨b,0,none⟩ z6 w5 fun w6=>gAgg ⟨b,0,none⟩ 4 w6 fun z7=>some (.tuple ⟨[iI 0,.agg ⟨z7⟩,iI 109]⟩,w6)))
 (ck ((0:Int)≤fd∧fd<((8:Nat):Int)) (gInt .i64 (add ⟨p1,8,none⟩ (Int.toNat fd*1)) w5 fun z8=>bnd (C L7 [.pointer c,iI (wrap .i64 (z8-1))] w5) fun q4 w7=>as2 q4 fun q5 q6=>aAgg q5 fun z9=>aInt .i64 q6 fun z10=>ck (List.length z9=4) (pAgg ⟨b,0,none⟩ z9 w7 fun w8=>cond (z10 != 1)
 (pAgg ⟨b,0,none⟩ [iI 0,iI 0,iI 0,iI 0] w8 fun w9=>gAgg ⟨b,0,none⟩ 4 w9 fun z11=>some (.tuple ⟨[iI 0,.agg ⟨z11⟩,iI 105]⟩,w9))
 (ck ((0:Int)≤fd∧fd<((8:Nat):Int)) (gInt .i64 (add ⟨p1,8,none⟩ (Int.toNat fd*1)) w8 fun z12=>gAgg ⟨b,0,none⟩ 4 w8 fun z13=>ck (List.length z13=4) (pAgg ⟨b,0,none⟩ z13 w8 fun w10=>gAgg ⟨b,0,none⟩ 4 w10 fun z14=>some (.tuple ⟨[iI (wrap .i64 (z12-1)),.agg ⟨z14⟩,iI 0]⟩,w10))))))))):=kR
def Av9:Cuts:=⟨0,[],[],[]⟩
def Bm4:List Item:=A4 Tryz.f90
theorem Dz2 :
 xQ Av9 C R M7 Tryz.f90 Bm4 [(0,.slice s sn sc),(1,iI v)] h =
 bnd (C I8 [.slice s sn sc,iI v] h) fun r w=>aInt .i64 r fun x=>some (.bool (decide (x≥0)),w):=kR
def B15:Cuts:=⟨0,[],[],[]⟩
def Dz0:List Item:=A4 Tryz.f104
theorem Gh7 :
 xQ B15 C R Bd1 Tryz.f104 Dz0 [(0,.pointer k),(1,iI env)] h =
 aSome k fun p=>gPtr (add p 6) h fun x=>aSome x fun p_1=>gPtr (add p_1 3) h fun z1=>bnd (C Bn3 [.pointer z1,iI env] h) fun r w=>aSl r fun z2 xn xc=>cond ((xn:Int)==0)
 (some (.pointer none,w))
 (nw (.cells En4 false [.pointer k,iI env,.slice z2 xn xc,.slice none 0 0]) w fun b w1=>some (pP b,w1)):=kR
def By6:Cuts:=⟨0,[],[],[(3,⟨[0,1,2,3,4,5,6,7,8,9,10,11,12,13,14,15,16,17,18,19],[0,1,3,7,0,0,32,0,128,0,512,0,2048,0,8192,32767,65535,65535,262143,524287],[],[]⟩),(5,⟨[0,1,2,3,4,5,6,7,8,9,10,11],[0,1,3,7,0,0,32,127,255,255,1023,2047],[],[]⟩),(7,⟨[0,1,2,3,4,5,6,7,8,9,10,11,12,13,14,15],[0,1,3,7,0,16,48,112,0,496,1008,2047,4095,4095,16383,32767],[],[]⟩),(9,⟨[0,1,2,3,4,5,6,7,8,9,10,11,12,13,14,15],[0,1,3,7,0,16,48,112,0,496,1008,0,2048,8191,16383,32767],[],[]⟩)]⟩
def D16:List Item:=A4 Tryz.f106
theorem Gf3 (c:List Value) :
 xQ By6 C R Bc2 Tryz.f106 D16 [(0,.pointer k),(1,iI env),(2,.agg ⟨c⟩)] h =
 nw (.cells Bc7 false c) h fun b w=>gInt .i64 ⟨b,0,none⟩ w fun x=>cond (x==4)
 (aSome k fun p=>gPtr (add p 3) w fun z1=>gInt .i64 ⟨b,1,none⟩ w fun z2=>gInt .i64 ⟨b,4,none⟩ w fun z3=>gInt .i64 ⟨b,5,none⟩ w fun z4=>gInt .i64 ⟨b,2,none⟩ w fun z5=>gInt .i64 ⟨b,3,none⟩ w fun z6=>bnd (C Be0 [.pointer z1,iI env,iI z2,iI z3,iI z4,iI z5,iI z6] w) fun r w1=>as2 r fun q1 q2=>aInt .i64 q1 fun z7=>aInt .i64 q2 fun z8=>some (.tuple ⟨[iI z7,iI z8]⟩,w1))
 (cond (x==5)
 (aSome k fun p_1=>gPtr (add p_1 3) w fun z9=>gInt .i64 ⟨b,1,none⟩ w fun z10=>bnd (C Gb6 [.pointer z9,iI env,iI z10] w) fun q3 w2=>as2 q3 fun q4 q5=>aInt .i64 q4 fun z11=>aInt .i64 q5 fun z12=>some (.tuple ⟨[iI z11,iI z12]⟩,w2))
 (cond (x==6)
 (aSome k fun p_2=>gPtr (add p_2 4) w fun z13=>aSome k fun p_3=>gSl (add p_3 0) w fun z14 xn _=>aSome z14 fun p_4=>ck ((0:Int)≤env∧env<(xn:Int)) (gInt .i64 (add (A8 p_4) (Int.toNat env*1)) w fun z15=>bnd (C A78 [.pointer z13,iI z15] w) fun q6 w3=>as2 q6 fun q7 q8=>aInt .i64 q7 fun z16=>aInt .i64 q8 fun z17=>some (.tuple ⟨[iI z16,iI z17]⟩,w3)))
 (cond (x==7)
 (aSome k fun p_5=>gPtr (add p_5 4) w fun z18=>aSome k fun p_6=>gSl (add p_6 0) w fun z19 xn_1 _=>aSome z19 fun p_7=>ck ((0:Int)≤env∧env<(xn_1:Int)) (gInt .i64 (add (A8 p_7) (Int.toNat env*1)) w fun z20=>gInt .i64 ⟨b,3,none⟩ w fun z21=>bnd (C Ba7 [.pointer z18,iI z20,iI z21] w) fun q9 w4=>aInt .i64 q9 fun z22=>some (.tuple ⟨[iI 0,iI z22]⟩,w4)))
 (cond (x==8)
 (gAgg ⟨b,0,none⟩ 7 w fun z23=>bnd (C Bh9 [.pointer k,iI env,.agg ⟨z23⟩] w) fun q10 w5=>as2 q10 fun q11 q12=>aInt .i64 q11 fun z24=>aInt .i64 q12 fun z25=>some (.tuple ⟨[iI z24,iI z25]⟩,w5))
 (cond (x==9)
 (gAgg ⟨b,0,none⟩ 7 w fun z26=>bnd (C Bh4 [.pointer k,iI env,.agg ⟨z26⟩] w) fun q13 w6=>aInt .i64 q13 fun z27=>some (.tuple ⟨[iI 0,iI z27]⟩,w6))
 (cond (x==10)
 (aSome k fun p_8=>gInt .i64 (add p_8 7) w fun z28=>some (.tuple ⟨[iI z28,iI 0]⟩,w))
 (some (.tuple ⟨[iI 0,iI 7]⟩,w)))))))):=kR
def Az2:Cuts:=⟨0,[],[],[]⟩
def Br5:List Item:=A4 Tryz.f137
theorem D49 :
 xQ Az2 C R Aj6 Tryz.f137 Br5 [(0,.pointer c),(1,iI i)] h =
 bnd (C A48 [iI i] h) fun r w=>aAgg r fun x=>bnd (C Z9 [.pointer c,.agg ⟨x⟩] w) fun q1 w1=>aBool q1 fun z1=>some (.bool z1,w1):=kR
def A97:Cuts:=⟨0,[],[],[]⟩
def B59:List Item:=A4 Tryz.f144
theorem Ej6 :
 xQ A97 C R Ar7 Tryz.f144 B59 [(0,.pointer c)] h =
 bnd (C Aa2 [.pointer c,.agg ⟨[iI 5,iI 0]⟩,.func (.func W4) ⟨[]⟩ ⟨[]⟩] h) fun r w=>as2 r fun q1 q2=>aInt .i64 q1 fun x=>aInt .i64 q2 fun z1=>some (.tuple ⟨[iI x,.bool (z1==1)]⟩,w):=kR
def Eg0:Cuts:=⟨0,[],[],[]⟩
def Gn4:List Item:=A4 Tryz.f145
theorem H96 :
 xQ Eg0 C R By1 Tryz.f145 Gn4 [(0,.pointer m),(1,iI atv),(2,iI n)] h =
 bnd (cond (decide (atv≥0)) (some (decide (n≥0),h)) (some (false,h))) fun c w=>bnd (cond c (aSome m fun p=>gSl (add p 0) w fun _ xn _=>some (decide (atv≤(xn:Int)),w)) (some (false,w))) fun c_1 w1=>bnd (cond c_1 (aSome m fun p_1=>gSl (add p_1 0) w1 fun _ xn_1 _=>some (decide (n≤(wrap .i64 ((xn_1:Int)-atv))),w1)) (some (false,w1))) fun c_2 w2=>some (.bool c_2,w2):=kR
def Du4:Cuts:=⟨0,[],[],[]⟩
def Ex9:List Item:=A4 Tryz.f152
theorem Hn3 (x:Option Addr) :
 xQ Du4 C R B48 Tryz.f152 Ex9 [(0,.pointer x)] h =
 nw (.cells Dc4 false [.pointer x]) h fun b w=>gPtr ⟨b,0,none⟩ w fun z1=>aSome z1 fun p=>gSl (add (add p 0) 0) w fun z2 xn xc=>bnd (C O2 [.slice z2 xn xc,.func (.func A54) ⟨[]⟩ ⟨[pP b]⟩] w) fun r w1=>aBool r fun z3=>some (.bool z3,w1):=kR
def Dd5:Cuts:=⟨0,[],[],[]⟩
def Ed5:List Item:=A4 Tryz.f154
theorem G24 (x:Option Addr) :
 xQ Dd5 C R Bn7 Tryz.f154 Ed5 [(0,.pointer x)] h =
 nw (.cells Dc4 false [.pointer x]) h fun b w=>gPtr ⟨b,0,none⟩ w fun z1=>aSome z1 fun p=>gSl (add (add p 2) 0) w fun z2 xn xc=>bnd (C O1 [.slice z2 xn xc,.func (.func Aw2) ⟨[]⟩ ⟨[pP b]⟩] w) fun r w1=>aBool r fun z3=>some (.bool z3,w1):=kR
def Dv2:Cuts:=⟨0,[],[],[]⟩
def Ex8:List Item:=A4 Tryz.f158
theorem Hm7 :
 xQ Dv2 C R A48 Tryz.f158 Ex8 [(0,iI i)] h =
 nw (.cells B6 false [iI 0,iI 0]) h fun b w=>pAgg ⟨b,0,none⟩ [iI 2,iI i] w fun w1=>gAgg ⟨b,0,none⟩ 2 w1 fun x=>some (.agg ⟨x⟩,w1):=kR
def Dt1:Cuts:=⟨0,[],[],[]⟩
def Ey4:List Item:=A4 Tryz.f159
theorem Ho1 :
 xQ Dt1 C R Ag1 Tryz.f159 Ey4 [(0,.slice b bn bc)] h =
 nw (.cells B7 false [iI 0,iI 0,iI 0,iI 0]) h fun p1 w=>bnd (cond ((bn:Int)==8) (bnd (C Ay5 [.slice b bn bc] w) fun r w1=>aBool r fun x=>some (x,w1)) (some (false,w))) fun c w2=>cond c
 (pAgg ⟨p1,0,none⟩ [iI 0,iI 0,iI 0,iI 0] w2 fun w3=>gAgg ⟨p1,0,none⟩ 4 w3 fun z1=>some (.tuple ⟨[.agg ⟨z1⟩,iI 0]⟩,w3))
 (bnd (C Bs1 [] w2) fun q1 w4=>aPtr q1 fun z2=>bnd (C Ae0 [.pointer z2,.slice b bn bc] w4) fun q2 w5=>as2 q2 fun q3 q4=>aAgg q3 fun z3=>aBool q4 fun z4=>nw (.cells B7 false [iI 0,iI 0,iI 0,iI 0]) w5 fun p2 w6=>ck (List.length z3=4) (pAgg ⟨p2,0,none⟩ z3 w6 fun w7=>cond (!z4)
 (pAgg ⟨p1,0,none⟩ [iI 0,iI 0,iI 0,iI 0] w7 fun w8=>gAgg ⟨p1,0,none⟩ 4 w8 fun z5=>some (.tuple ⟨[.agg ⟨z5⟩,iI 2]⟩,w8))
 (gAgg ⟨p2,0,none⟩ 4 w7 fun z6=>ck (List.length z6=4) (pAgg ⟨p1,0,none⟩ z6 w7 fun w9=>gAgg ⟨p1,0,none⟩ 4 w9 fun z7=>some (.tuple ⟨[.agg ⟨z7⟩,iI 1]⟩,w9))))):=kR
def Dv9:Cuts:=⟨0,[],[],[]⟩
def Ex3:List Item:=A4 Tryz.f161
theorem Ho4 :
 xQ Dv9 C R A50 Tryz.f161 Ex3 [(0,iI i)] h =
 nw (.cells B6 false [iI 0,iI 0]) h fun b w=>pAgg ⟨b,0,none⟩ [iI 3,iI i] w fun w1=>gAgg ⟨b,0,none⟩ 2 w1 fun x=>some (.agg ⟨x⟩,w1):=kR
def Bw1:Cuts:=⟨0,[(3,[0,3,4])],[],[(5,⟨[0,1,2,3,4,5,6,7,8,9,10],[0,0,2,6,14,0,32,126,255,511,1023],[(5,[4])],[]⟩),(6,⟨[0,1,2,3,4,5,6,7,8,9,10],[0,0,2,6,14,0,32,126,255,511,1023],[],[]⟩)]⟩
def Dp3:List Item:=A4 Tryz.f203
def Bc6:List Item:=stk [0,1,0,1,0,0,1,4,5] Dp3
theorem Hc9 :
 xQ Bw1 C R Ah8 Tryz.f203 Dp3 [(0,iI envs)] h =
 nw (.cells Gf0 false [.slice none 0 0,.slice none 0 0]) h fun b w=>R Ah8 Bc6 [(0,iI envs),(3,pP b),(4,iI 0)] w:=kR
theorem D19 (s:Addr) :
 xQ Bw1 C R Ah8 Tryz.f203 Bc6 [(0,iI envs),(3,.pointer (some s)),(4,iI i)] h =
 bnd (cond (decide (i<envs)) (some (decide (i<40),h)) (some (false,h))) fun c w=>cond c
 (gSl (add s 0) w fun x xn xc=>bnd (C Ah4 [iI 32] w) fun r w1=>aPtr r fun z1=>gSl (add s 0) w1 fun z2 xn_1 xc_1=>same (.slice x xn xc) (.slice z2 xn_1 xc_1) (nw (.cells Bk9 false [.pointer z1]) w1 fun b w2=>gCells (some ⟨b,0,none⟩) (1*1) w2 fun cs=>ckB (fitsOpen x Bk9 w2) (apd Bk9 1 x xn xc 1 cs w2 fun a an ac w3=>pV (add s 0) (.slice a an ac) w3 fun w4=>gSl (add s 1) w4 fun z3 xn_2 xc_2=>ck ((0:Int)≤32∧(32:Int)≤32∧32≤(A7:Int)) (nw (.cells W1 false (I7 (Int.toNat 32) [iI 0,iI 0,iI 0,iI 0,iI 0,iI 0])) w4 fun p1 w5=>nw (.cells B80 false [.slice (some ⟨p1,0,none⟩) (Int.toNat 32) (Int.toNat 32)]) w5 fun p2 w6=>gCells (some ⟨p2,0,none⟩) (1*1) w6 fun cs_1=>ckB (fitsOpen z3 B80 w6) (apd B80 1 z3 xn_2 xc_2 1 cs_1 w6 fun a_1 an_1 ac_1 w7=>pV (add s 1) (.slice a_1 an_1 ac_1) w7 fun w8=>R Ah8 Bc6 [(0,iI envs),(3,.pointer (some s)),(4,iI (wrap .i64 (i+1)))] w8)))))
 (some (.pointer (some s),w)):=kR
def Bu6:Cuts:=⟨0,[],[],[]⟩
def Ds3:List Item:=A4 Tryz.f216
theorem Gc1 (s:Int) :
 xQ Bu6 C R A78 Tryz.f216 Ds3 [(0,.pointer q),(1,iI s)] h =
 bnd (C At6 [.pointer q,iI s] h) fun r w=>aBool r fun x=>cond (!x)
 (some (.tuple ⟨[iI 0,iI 1]⟩,w))
 (aSome q fun p=>gSl (add p 0) w fun z1 xn _=>aSome z1 fun p_1=>ck ((0:Int)≤s∧s<(xn:Int)) (gSl (add (A8 p_1) (Int.toNat s*1)) w fun z2 xn_1 xc_1=>bnd (C I8 [.slice z2 xn_1 xc_1,iI 0] w) fun q1 w1=>aInt .i64 q1 fun z3=>cond (decide (z3<0))
 (some (.tuple ⟨[iI 0,iI 4]⟩,w1))
 (aSome q fun p_2=>gSl (add p_2 0) w1 fun z4 xn_2 _=>aSome z4 fun p_3=>ck ((0:Int)≤s∧s<(xn_2:Int)) (gSl (add (A8 p_3) (Int.toNat s*1)) w1 fun z5 xn_3 _=>aSome z5 fun p_4=>ck ((0:Int)≤z3∧z3<(xn_3:Int)) (pV (add (A8 p_4) (Int.toNat z3*1)) (iI 1) w1 fun w2=>some (.tuple ⟨[iI z3,iI 0]⟩,w2)))))):=kR
def B73:Cuts:=⟨0,[],[],[]⟩
def D56:List Item:=A4 Tryz.f218
theorem Gt6 (c:List Value) :
 xQ B73 C R Bh9 Tryz.f218 D56 [(0,.pointer k),(1,iI env),(2,.agg ⟨c⟩)] h =
 nw (.cells Bc7 false c) h fun b w=>gInt .i64 ⟨b,3,none⟩ w fun x=>bnd (C A62 [.pointer k,iI env,iI x] w) fun r w1=>as2 r fun q1 q2=>aPtr q1 fun z1=>aInt .i64 q2 fun z2=>cond (z2 != 0)
 (some (.tuple ⟨[iI 0,iI z2]⟩,w1))
 (aSome k fun p=>gInt .i64 (add p 7) w1 fun z3=>bnd (C D1 [.pointer z1,iI env,iI z3] w1) fun q3 w2=>as2 q3 fun q4 q5=>aInt .i64 q4 fun z4=>aBool q5 fun _=>some (.tuple ⟨[iI z4,iI 0]⟩,w2)):=kR
def Dd9:Cuts:=⟨0,[],[],[]⟩
def Ee4:List Item:=A4 Tryz.f221
theorem G63 :
 xQ Dd9 C R Bp7 Tryz.f221 Ee4 [(0,.pointer s),(1,iI e),(2,iI name)] h =
 nw (.cells W1 false [iI 0,iI 0,iI 0,iI 0,iI 0,iI 0]) h fun b w=>bnd (C At1 [.pointer s,iI e] w) fun r w1=>aBool r fun x=>bnd (cond (!x) (some (true,w1)) (aSome s fun p=>gSl (add p 0) w1 fun z1 xn _=>aSome z1 fun p_1=>ck ((0:Int)≤e∧e<(xn:Int)) (gPtr (add (A8 p_1) (Int.toNat e*1)) w1 fun z2=>bnd (C Bn1 [.pointer z2,iI name] w1) fun q1 w2=>aBool q1 fun z3=>some (!z3,w2)))) fun c w3=>cond c
 (pAgg ⟨b,0,none⟩ [iI 0,iI 0,iI 0,iI 0,iI 0,iI 0] w3 fun w4=>gAgg ⟨b,0,none⟩ 6 w4 fun z4=>some (.tuple ⟨[.agg ⟨z4⟩,iI 2]⟩,w4))
 (aSome s fun p_2=>gSl (add p_2 1) w3 fun z5 xn_1 _=>aSome z5 fun p_3=>ck ((0:Int)≤e∧e<(xn_1:Int)) (gSl (add (A8 p_3) (Int.toNat e*1)) w3 fun z6 xn_2 _=>aSome z6 fun p_4=>ck ((0:Int)≤V5 .i64 name 255∧V5 .i64 name 255<(xn_2:Int)) (gAgg (add (A8 p_4) (Int.toNat (V5 .i64 name 255)*6)) 6 w3 fun z7=>ck (List.length z7=6) (pAgg ⟨b,0,none⟩ z7 w3 fun w5=>gAgg ⟨b,0,none⟩ 6 w5 fun z8=>some (.tuple ⟨[.agg ⟨z8⟩,iI 0]⟩,w5))))):=kR
def Bp4:Cuts:=⟨0,[],[],[]⟩
def Dn6:List Item:=A4 Tryz.f235
theorem E25 (size:Int) (put:Value) (get:Value) :
 xQ Bp4 C R A21 Tryz.f235 Dn6 [(0,iI size),(1,put),(2,get)] h =
 one put (one get (nw (.cells B83 false [iI (mm2 false (mm2 true size 0) 64),put,get]) h fun b w=>some (pP b,w))):=kR
def Bu1:Cuts:=⟨0,[(4,[1,2,22,23,24]),(9,[1,2,43,44,45]),(14,[1,58,59])],[],[]⟩
def B91:List Item:=A4 Tryz.f236
def Dt9:List Item:=stk [0,1,0,1,0,0,1,4,5] B91
def Ds6:List Item:=stk [0,1,0,1,0,1,0,0,1,4,5] B91
def Dw1:List Item:=stk [0,1,0,1,0,1,0,1,0,0,1,4,5] B91
theorem In1 (p:List Value) :
 xQ Bu1 C R V4 Tryz.f236 B91 [(0,.agg ⟨p⟩),(1,.slice b bn bc)] h =
 nw (.cells A9 false p) h fun p1 w=>gAgg ⟨p1,0,none⟩ 16 w fun x=>bnd (C D99 [.agg ⟨x⟩] w) fun r w1=>aBool r fun z1=>cond (!z1)
 (some (.bool false,w1))
 (gInt .i64 ⟨p1,0,none⟩ w1 fun z2=>gInt .i64 ⟨p1,1,none⟩ w1 fun z3=>gInt .i64 ⟨p1,2,none⟩ w1 fun z4=>gInt .i64 ⟨p1,3,none⟩ w1 fun z5=>nw (.cells A6 false [iI z2,iI z3,iI z4,iI z5]) w1 fun p2 w2=>R V4 Dt9 [(1,.slice b bn bc),(2,pP p1),(22,.slice (some ⟨p2,0,none⟩) 4 4),(23,iI 4),(24,iI 0)] w2):=kR
theorem Bj9 (x22:Option Addr) (x22n x22c:Nat) (x23:Int) :
 xQ Bu1 C R V4 Tryz.f236 Dt9 [(1,.slice b bn bc),(2,.pointer (some p)),(22,.slice x22 x22n x22c),(23,iI x23),(24,iI x24)] h =
 cond (decide (x24<x23))
 (aSome x22 fun p_1=>ck ((0:Int)≤x24∧x24<(x22n:Int)) (gInt .i64 (add (A8 p_1) (Int.toNat x24*1)) h fun x=>aSome b fun p_2=>ck ((0:Int)≤x24∧x24<(bn:Int)) (pV (add (A8 p_2) (Int.toNat x24*1)) (.int .u8 (wrap .u8 (x))) h fun w=>R V4 Dt9 [(1,.slice b bn bc),(2,.pointer (some p)),(22,.slice x22 x22n x22c),(23,iI x23),(24,iI (wrap .i64 (x24+1)))] w)))
 (gInt .i64 (add p 4) h fun z1=>gInt .i64 (add p 5) h fun z2=>gInt .i64 (add p 6) h fun z3=>gInt .i64 (add p 7) h fun z4=>nw (.cells A6 false [iI z1,iI z2,iI z3,iI z4]) h fun p1 w1=>R V4 Ds6 [(1,.slice b bn bc),(2,.pointer (some p)),(43,.slice (some ⟨p1,0,none⟩) 4 4),(44,iI 4),(45,iI 0)] w1):=kR
theorem Bi3 (x43:Option Addr) (x43n x43c:Nat) (x44:Int) :
 xQ Bu1 C R V4 Tryz.f236 Ds6 [(1,.slice b bn bc),(2,.pointer (some p)),(43,.slice x43 x43n x43c),(44,iI x44),(45,iI x45)] h =
 cond (decide (x45<x44))
 (aSome x43 fun p_1=>ck ((0:Int)≤x45∧x45<(x43n:Int)) (gInt .i64 (add (A8 p_1) (Int.toNat x45*1)) h fun x=>bnd (C B27 [.slice b bn bc,iI (wrap .i64 (4+(wrap .i64 (2*x45)))),iI x] h) fun r w=>aBool r fun _=>R V4 Ds6 [(1,.slice b bn bc),(2,.pointer (some p)),(43,.slice x43 x43n x43c),(44,iI x44),(45,iI (wrap .i64 (x45+1)))] w))
 (gAgg (add p 8) 8 h fun z2=>R V4 Dw1 [(1,.slice b bn bc),(58,.agg ⟨z2⟩),(59,iI 0)] h):=kR
theorem Ag5 (x58:List Value) (x59:Int) :
 xQ Bu1 C R V4 Tryz.f236 Dw1 [(1,.slice b bn bc),(58,.agg ⟨x58⟩),(59,iI x59)] h =
 cond (decide (x59<8))
 (ck ((0:Int)≤x59∧x59<((8:Nat):Int)) (nth x58 (Int.toNat x59*1) fun x=>aInt .i64 x fun z1=>aSome b fun p=>ck ((0:Int)≤wrap .i64 (12+x59)∧wrap .i64 (12+x59)<(bn:Int)) (pV (add (A8 p) (Int.toNat (wrap .i64 (12+x59))*1)) (.int .u8 (wrap .u8 (z1))) h fun w=>R V4 Dw1 [(1,.slice b bn bc),(58,.agg ⟨x58⟩),(59,iI (wrap .i64 (x59+1)))] w)))
 (aSome b fun p_1=>ck ((0:Int)≤20∧20<(bn:Int)) (pV (add (A8 p_1) (Int.toNat 20*1)) (.int .u8 167) h fun w1=>ckB (fitsOpen b A3 w1) (ck ((0:Int)≤21∧21≤(bc:Int)) (bnd (C Ai9 [.slice (H9 b (decide (0<bc)) (0*1)) ((Int.toNat 21)-0) (bc-0)] w1) fun r w2=>aInt .u8 r fun z2=>aSome b fun p_2=>ck ((0:Int)≤21∧21<(bn:Int)) (pV (add (A8 p_2) (Int.toNat 21*1)) (.int .u8 z2) w2 fun w3=>some (.bool true,w3)))))):=kR
def A31:Cuts:=⟨0,[],[(8,[8,11,12])],[(7,⟨[0,1,2,3,4,5,6,7,8,9],[0,1,3,7,0,31,63,31,159,511],[(7,[5])],[]⟩)]⟩
def Bo7:List Item:=A4 Tryz.f247
def A98:List Item:=stk [0,1,0,1,0,1,0,1,0,1,0,1,0,0] Bo7
theorem E16 (decode:Value) :
 xQ A31 C R Aa2 Tryz.f247 Bo7 [(0,.pointer c),(1,.agg ⟨r⟩),(2,decode)] h =
 nw (.cells B6 false r) h fun b w=>gAgg ⟨b,0,none⟩ 2 w fun x=>bnd (C V6 [.pointer c,.agg ⟨x⟩] w) fun q1 w1=>as2 q1 fun q2 q3=>aSl q2 fun z1 xn xc=>aBool q3 fun z2=>cond (!z2)
 (some (.tuple ⟨[iI 0,iI 2]⟩,w1))
 (aFn decode fun g fi cp=>bnd (C g (fi++([.slice z1 xn xc]++cp)) w1) fun q4 w2=>as2 q4 fun q5 q6=>aInt .i64 q5 fun z3=>aInt .i64 q6 fun z4=>cond (z4==2)
 (aSome c fun p=>gMap (add p 3) w2 fun z5=>gAgg ⟨b,0,none⟩ 2 w2 fun z6=>keyN PR B6 (.agg ⟨z6⟩) (opt z5 fun q7=>mapAt w2 q7 fun es _=>opt (Au7 (iI 0) (.agg ⟨z6⟩) es) fun f=>aInt .i64 f.1 fun z7=>keyN PR B6 (.agg ⟨z6⟩) (opt z5 fun q8=>mapAt w2 q8 fun es_1 cl_1=>opt (Ep6 (iI 0) (.agg ⟨z6⟩) es_1 cl_1) fun f_1=>aInt .i64 f_1.1 fun _=>lt (H.set w2 q8 f_1.2.2) fun w3=>keyN PR B6 (.agg ⟨z6⟩) (opt z5 fun q9=>mapAt w3 q9 fun es_2 _=>opt (Au7 (iI 0) (.agg ⟨z6⟩) es_2) fun f_2=>aInt .i64 f_2.1 fun z9=>same (iI z7) (iI z9) (opt z5 fun q10=>mapAt w3 q10 fun es_3 cl_3=>opt (B49 (f_1.2.1:Int) es_3 0) fun i=>lt (H.set w3 q10 (.map (modN (fun e=>{ e with val:=iI (wrap .i64 (z7+1)) }) i es_3) cl_3)) fun w4=>R Aa2 A98 [(8,iI 0),(11,iI z3),(12,iI z4)] w4)))))
 (R Aa2 A98 [(8,iI 0),(11,iI z3),(12,iI z4)] w2)):=kR
theorem B58 (nonev:Int) (isv:Int) :
 xQ A31 C R Aa2 Tryz.f247 A98 [(8,iI nonev),(11,iI v),(12,iI isv)] h =
 cond (isv != 1)
 (some (.tuple ⟨[iI nonev,iI isv]⟩,h))
 (some (.tuple ⟨[iI v,iI isv]⟩,h)):=kR
def By8:Cuts:=⟨0,[],[],[]⟩
def D04:List Item:=A4 Tryz.f262
theorem Gi9 :
 xQ By8 C R Av7 Tryz.f262 D04 [(0,iI f),(1,.pointer (some fv0))] h =
 bnd (cond (decide (f>0)) (gPtr fv0 h fun x=>aSome x fun p=>gAgg (add p 2) 2 h fun z1=>bnd (C U4 [.agg ⟨z1⟩,iI (wrap .i64 (f-1))] h) fun r w=>aBool r fun z2=>some (!z2,w)) (some (false,h))) fun c w1=>some (.bool c,w1):=kR
def Ap2:Cuts:=⟨0,[],[],[]⟩
def Bc0:List Item:=A4 Tryz.f268
theorem Dk7 :
 xQ Ap2 C R S8 Tryz.f268 Bc0 [(0,.agg ⟨x⟩),(1,iI i)] h =
 nw (.cells W6 false x) h fun b w=>gSl ⟨b,1,none⟩ w fun z1 xn _=>aSome z1 fun p=>ck ((0:Int)≤i∧i<(xn:Int)) (gInt .i64 (add (A8 p) (Int.toNat i*1)) w fun z2=>some (.bool (z2==1),w)):=kR
def Ar1:Cuts:=⟨0,[],[],[(4,⟨[0,1,2,3,4,10,5,6,7,8,9,11,12],[0,1,3,7,0,16,63,127,255,255,0,1535,4095],[(5,[3])],[]⟩)]⟩
def Bg1:List Item:=A4 Tryz.f270
theorem Dq8 :
 xQ Ar1 C R Ae0 Tryz.f270 Bg1 [(0,.pointer c),(1,.slice b bn bc)] h =
 nw (.cells B7 false [iI 0,iI 0,iI 0,iI 0]) h fun p1 w=>nw (.cells B7 false [iI 0,iI 0,iI 0,iI 0]) w fun p2 w1=>aSome c fun p=>gFv (add p 2) w1 fun x=>isNilF x fun p3=>bnd (cond p3 (some (true,w1)) (aSome c fun p_1=>gInt .i64 (add p_1 0) w1 fun z1=>some ((bn:Int) != z1,w1))) fun c_1 w2=>cond c_1
 (gAgg ⟨p2,0,none⟩ 4 w2 fun z2=>ck (List.length z2=4) (pAgg ⟨p1,0,none⟩ z2 w2 fun w3=>gAgg ⟨p1,0,none⟩ 4 w3 fun z3=>some (.tuple ⟨[.agg ⟨z3⟩,.bool false]⟩,w3)))
 (aSome c fun p_2=>gFv (add p_2 2) w2 fun z4=>nw (.cells B7 false [iI 0,iI 0,iI 0,iI 0]) w2 fun p4 w4=>bnd (C H7 [.slice b bn bc] w4) fun r w5=>aSl r fun z5 xn xc=>gFv (add p_2 2) w5 fun z6=>B50 (z4) (z6) (aFn z4 fun g fi cp=>bnd (C g (fi++([.slice z5 xn xc]++cp)) w5) fun q1 w6=>as2 q1 fun q2 q3=>aAgg q2 fun z7=>aBool q3 fun z8=>ck (List.length z7=4) (pAgg ⟨p4,0,none⟩ z7 w6 fun w7=>cond (!z8)
 (gAgg ⟨p2,0,none⟩ 4 w7 fun z9=>ck (List.length z9=4) (pAgg ⟨p1,0,none⟩ z9 w7 fun w8=>gAgg ⟨p1,0,none⟩ 4 w8 fun z10=>some (.tuple ⟨[.agg ⟨z10⟩,.bool false]⟩,w8)))
 (gAgg ⟨p4,0,none⟩ 4 w7 fun z11=>ck (List.length z11=4) (pAgg ⟨p1,0,none⟩ z11 w7 fun w9=>gAgg ⟨p1,0,none⟩ 4 w9 fun z12=>some (.tuple ⟨[.agg ⟨z12⟩,.bool true]⟩,w9)))))):=kR
def Ar3:Cuts:=⟨0,[],[],[(2,⟨[0,1,2,3,4,5,6,7,8,9,10,11,12,13,14],[0,1,3,7,15,31,63,127,255,511,63,63,4095,8191,16383],[],[]⟩)]⟩
def Bg5:List Item:=A4 Tryz.f274
theorem Dq5 (v:List Value) :
 xQ Ar3 C R Ae1 Tryz.f274 Bg5 [(0,.pointer c),(1,.agg ⟨v⟩)] h =
 nw (.cells B7 false v) h fun b w=>aSome c fun p=>gInt .i64 (add p 0) w fun x=>ck ((0:Int)≤x∧(x:Int)≤x∧x≤(A7:Int)) (nw (.cells A3 false (I7 (Int.toNat x) [.int .u8 0])) w fun p1 w1=>aSome c fun p_1=>gFv (add p_1 1) w1 fun z1=>isNilF z1 fun p2=>bnd (cond p2 (some (true,w1)) (aSome c fun p_2=>gFv (add p_2 1) w1 fun z2=>gAgg ⟨b,0,none⟩ 4 w1 fun z3=>aFn z2 fun g fi cp=>bnd (C g (fi++([.agg ⟨z3⟩,.slice (some ⟨p1,0,none⟩) (Int.toNat x) (Int.toNat x)]++cp)) w1) fun r w2=>aBool r fun z4=>some (!z4,w2))) fun c_1 w3=>cond c_1
 (some (.tuple ⟨[.slice none 0 0,.bool false]⟩,w3))
 (some (.tuple ⟨[.slice (some ⟨p1,0,none⟩) (Int.toNat x) (Int.toNat x),.bool true]⟩,w3))):=kR
def Ei6:Cuts:=⟨0,[],[],[]⟩
def Gi7:List Item:=A4 Tryz.f286
theorem If0 (c:List Value) :
 xQ Ei6 C R Dj2 Tryz.f286 Gi7 [(0,.agg ⟨c⟩),(1,.agg ⟨x⟩)] h =
 nw (.cells G2 false c) h fun b w=>nw (.cells L5 false x) w fun p1 w1=>gInt .i64 ⟨p1,0,none⟩ w1 fun z1=>bnd (cond (decide (z1<0)) (some (true,w1)) (gInt .i64 ⟨p1,0,none⟩ w1 fun z2=>gSl ⟨b,0,none⟩ w1 fun _ xn _=>some (decide (z2≥(xn:Int)),w1))) fun c_1 w2=>bnd (cond c_1 (some (true,w2)) (gInt .i64 ⟨p1,1,none⟩ w2 fun z4=>some (decide (z4<0),w2))) fun c_2 w3=>bnd (cond c_2 (some (true,w3)) (gInt .i64 ⟨p1,2,none⟩ w3 fun z5=>some (decide (z5<0),w3))) fun c_3 w4=>bnd (cond c_3 (some (true,w4)) (gInt .i64 ⟨p1,3,none⟩ w4 fun z6=>some (decide (z6<0),w4))) fun c_4 w5=>cond c_4
 (some (.bool false,w5))
 (gSl ⟨b,0,none⟩ w5 fun z7 xn_1 _=>gInt .i64 ⟨p1,0,none⟩ w5 fun z8=>aSome z7 fun p=>ck ((0:Int)≤z8∧z8<(xn_1:Int)) (gInt .i64 (add (A8 p) (Int.toNat z8*1)) w5 fun z9=>bnd (C Bt4 [iI z9] w5) fun r w6=>aInt .i64 r fun z10=>gInt .i64 ⟨p1,1,none⟩ w6 fun z11=>cond (decide (z11>z10))
 (some (.bool false,w6))
 (gInt .i64 ⟨p1,1,none⟩ w6 fun z12=>gInt .i64 ⟨p1,2,none⟩ w6 fun z13=>bnd (cond (decide (z13≤(wrap .i64 ((wrap .i64 (z10-z12))*64)))) (gInt .i64 ⟨p1,3,none⟩ w6 fun z14=>gInt .i64 ⟨p1,2,none⟩ w6 fun z15=>some (decide (z14≤(wrap .i64 ((wrap .i64 ((wrap .i64 (z10-z12))*64))-z15))),w6)) (some (false,w6))) fun c_5 w7=>some (.bool c_5,w7)))):=kR
def B13:Cuts:=⟨0,[],[],[]⟩
def D01:List Item:=A4 Tryz.f289
theorem Gf9 :
 xQ B13 C R Aw3 Tryz.f289 D01 [(0,iI n)] h =
 bnd (cond (decide (n≥0)) (some (decide (n≤65536),h)) (some (false,h))) fun c w=>some (.bool c,w):=kR
def Dd2:Cuts:=⟨0,[],[],[(1,⟨[0,1,2,3,4,5,6,7,8,9,10,11,12,13],[0,1,3,7,0,31,63,0,255,511,1023,1023,2047,8191],[],[]⟩)]⟩
def Eh4:List Item:=A4 Tryz.f291
theorem G75 (c:List Value) :
 xQ Dd2 C R A55 Tryz.f291 Eh4 [(0,.pointer s),(1,iI env),(2,.agg ⟨c⟩)] h =
 nw (.cells W1 false c) h fun b w=>aSome s fun p=>gSl (add p 0) w fun x xn _=>aSome x fun p_1=>ck ((0:Int)≤env∧env<(xn:Int)) (gPtr (add (A8 p_1) (Int.toNat env*1)) w fun z1=>gAgg ⟨b,0,none⟩ 6 w fun z2=>bnd (C J9 [.pointer z1,.agg ⟨z2⟩] w) fun r w1=>as2 r fun q1 q2=>aInt .i64 q1 fun z3=>aBool q2 fun z4=>cond (!z4)
 (some (.tuple ⟨[iI 0,iI 4]⟩,w1))
 (some (.tuple ⟨[iI z3,iI 0]⟩,w1))):=kR
def Bf1:Cuts:=⟨0,[],[],[(6,⟨[0,1,2,3,4,5,6,7,8,9,10,11,12,13,14,15,16,17,18,19,20,21,22,23,24,25,26,27,28,29,30,31,32,33,34,35],[0,1,3,7,15,31,63,127,127,383,1023,2047,4095,8191,8191,24575,8191,122879,262143,524287,1048575,2097151,4194303,8388607,16777215,33554431,67108863,134217727,67108863,335544319,872415231,1946157055,4093640703,8589934591,17179869183,34359738367],[],[]⟩),(8,⟨[0,1,2,3,4,5,6,7,8,9],[0,1,3,7,0,16,63,127,0,511],[],[]⟩)]⟩
def B81:List Item:=A4 Tryz.f295
theorem Eq0 (r:Option Addr) (right:Int) :
 xQ Bf1 C R Aj2 Tryz.f295 B81 [(0,.pointer r),(1,iI env),(2,iI name),(3,iI right),(4,iI atv),(5,iI n)] h =
 aSome r fun p=>gPtr (add p 1) h fun x=>bnd (C A58 [.pointer x,iI env,iI name] h) fun q1 w=>as2 q1 fun q2 q3=>aAgg q2 fun z1=>aInt .i64 q3 fun z2=>nw (.cells W1 false [iI 0,iI 0,iI 0,iI 0,iI 0,iI 0]) w fun b w1=>ck (List.length z1=6) (pAgg ⟨b,0,none⟩ z1 w1 fun w2=>cond (z2 != 0)
 (some (.tuple ⟨[iI 0,iI z2]⟩,w2))
 (gInt .i64 ⟨b,1,none⟩ w2 fun z3=>cond ((V5 .i64 z3 right)==0)
 (some (.tuple ⟨[iI 0,iI 3]⟩,w2))
 (bnd (cond (decide (atv<0)) (some (true,w2)) (some (decide (n<0),w2))) fun c w3=>bnd (cond c (some (true,w3)) (gInt .i64 ⟨b,3,none⟩ w3 fun z4=>some (decide (atv>z4),w3))) fun c_1 w4=>bnd (cond c_1 (some (true,w4)) (gInt .i64 ⟨b,3,none⟩ w4 fun z5=>some (decide (n>(wrap .i64 (z5-atv))),w4))) fun c_2 w5=>bnd (cond c_2 (some (true,w5)) (gInt .i64 ⟨b,0,none⟩ w5 fun z6=>some (decide (z6<0),w5))) fun c_3 w6=>bnd (cond c_3 (some (true,w6)) (gInt .i64 ⟨b,0,none⟩ w6 fun z7=>aSome r fun p_1=>gSl (add p_1 2) w6 fun _ xn _=>some (decide (z7≥(xn:Int)),w6))) fun c_4 w7=>cond c_4
 (some (.tuple ⟨[iI 0,iI 1]⟩,w7))
 (aSome r fun p_2=>gSl (add p_2 2) w7 fun z9 xn_1 _=>gInt .i64 ⟨b,0,none⟩ w7 fun z10=>aSome z9 fun p_3=>ck ((0:Int)≤z10∧z10<(xn_1:Int)) (gAgg (add (A8 p_3) (Int.toNat z10*2)) 2 w7 fun z11=>nw (.cells Ba4 false [iI 0,iI 0]) w7 fun p1 w8=>ck (List.length z11=2) (pAgg ⟨p1,0,none⟩ z11 w8 fun w9=>gInt .i64 ⟨b,2,none⟩ w9 fun z12=>gInt .i64 ⟨p1,1,none⟩ w9 fun z13=>bnd (cond (decide ((wrap .i64 (z12+atv))>z13)) (some (true,w9)) (gInt .i64 ⟨p1,1,none⟩ w9 fun z14=>gInt .i64 ⟨b,2,none⟩ w9 fun z15=>some (decide (n>(wrap .i64 ((wrap .i64 (z14-z15))-atv))),w9))) fun c_5 w10=>cond c_5
 (some (.tuple ⟨[iI 0,iI 1]⟩,w10))
 (gInt .i64 ⟨p1,0,none⟩ w10 fun z16=>gInt .i64 ⟨b,2,none⟩ w10 fun z17=>some (.tuple ⟨[iI (wrap .i64 ((wrap .i64 (z16+z17))+atv)),iI 0]⟩,w10)))))))):=kR
def De4:Cuts:=⟨0,[],[],[]⟩
def Ec2:List Item:=A4 Tryz.f300
theorem G47 (s:Int) :
 xQ De4 C R At6 Tryz.f300 Ec2 [(0,.pointer q),(1,iI s)] h =
 bnd (cond (decide (s≥0)) (aSome q fun p=>gSl (add p 0) h fun _ xn _=>some (decide (s<(xn:Int)),h)) (some (false,h))) fun c w=>some (.bool c,w):=kR
def Dd8:Cuts:=⟨0,[],[],[]⟩
def Ee2:List Item:=A4 Tryz.f305
theorem G44 (n:Option Addr) :
 xQ Dd8 C R Bn1 Tryz.f305 Ee2 [(0,.pointer n),(1,iI name)] h =
 bnd (cond (decide (name≥0)) (aSome n fun p=>gSl (add p 0) h fun _ xn _=>some (decide ((V5 .i64 name 255)<(xn:Int)),h)) (some (false,h))) fun c w=>bnd (cond c (aSome n fun p_1=>gSl (add p_1 0) w fun z1 xn_1 _=>aSome z1 fun p_2=>ck ((0:Int)≤V5 .i64 name 255∧V5 .i64 name 255<(xn_1:Int)) (gBool (add (add (A8 p_2) (Int.toNat (V5 .i64 name 255)*2)) 1) w fun z2=>some (z2,w))) (some (false,w))) fun c_1 w1=>bnd (cond c_1 (aSome n fun p_3=>gSl (add p_3 0) w1 fun z3 xn_2 _=>aSome z3 fun p_4=>ck ((0:Int)≤V5 .i64 name 255∧V5 .i64 name 255<(xn_2:Int)) (gInt .i64 (add (add (A8 p_4) (Int.toNat (V5 .i64 name 255)*2)) 0) w1 fun z4=>some (z4==(Int.fdiv name (2 ^ 8)),w1))) (some (false,w1))) fun c_2 w2=>some (.bool c_2,w2):=kR
def Dy5:Cuts:=⟨0,[(3,[3,9,10,11])],[],[]⟩
def Ep3:List Item:=A4 Tryz.f312
def B37:List Item:=stk [0,1,0,1,0,0,1,4,5] Ep3
theorem Ih7 :
 xQ Dy5 C R Ai9 Tryz.f312 Ep3 [(0,.slice b bn bc)] h =
 R Ai9 B37 [(3,.int .u8 (wrap .u8 ((bn:Int)))),(9,.slice b bn bc),(10,iI (bn:Int)),(11,iI 0)] h:=kR
theorem Ev2 (x9:Option Addr) (x9n x9c:Nat) (x11:Int) :
 xQ Dy5 C R Ai9 Tryz.f312 B37 [(3,.int .u8 n),(9,.slice x9 x9n x9c),(10,iI x10),(11,iI x11)] h =
 cond (decide (x11<x10))
 (aSome x9 fun p=>ck ((0:Int)≤x11∧x11<(x9n:Int)) (gInt .u8 (add (A8 p) (Int.toNat x11*1)) h fun x=>R Ai9 B37 [(3,.int .u8 (wrap .u8 (n+x))),(9,.slice x9 x9n x9c),(10,iI x10),(11,iI (wrap .i64 (x11+1)))] h))
 (some (.int .u8 n,h)):=kR
def Ab0:Cuts:=⟨0,[],[(3,[0,1])],[]⟩
def Am7:List Item:=A4 Tryz.f319
def A00:List Item:=stk [0,1,0,1,0,0] Am7
theorem Di6 :
 xQ Ab0 C R M0 Tryz.f319 Am7 [(0,.slice s sn sc),(1,iI n)] h =
 cond (decide (n<0))
 (none)
 (R M0 A00 [(0,.slice s sn sc),(1,iI n)] h):=kR
theorem B72 :
 xQ Ab0 C R M0 Tryz.f319 A00 [(0,.slice s sn sc),(1,iI n)] h =
 Gm3 s sc fun cap=>cond (decide ((wrap .i64 (n-(wrap .i64 ((cap:Int)-(sn:Int)))))>0))
 (Gm3 s sc fun cap_1=>ckB (fitsOpen s B6 h) (ck ((0:Int)≤(cap_1:Int)∧(cap_1:Int)≤(sc:Int)) (none)))
 (some (.slice s sn sc,h)):=kR
def Q1:Cuts:=⟨0,[(2,[0,1,7,8])],[],[]⟩
def Ac3:List Item:=A4 Tryz.f322
def O4:List Item:=stk [0,1,0,0,1,4,5] Ac3
theorem Bu5 (f:Value) :
 xQ Q1 C R E0 Tryz.f322 Ac3 [(0,.slice s sn sc),(1,f)] h =
 R E0 O4 [(0,.slice s sn sc),(1,f),(7,iI (sn:Int)),(8,iI 0)] h:=kR
theorem Am9 (f:Value) (x7:Int) (x8:Int) :
 xQ Q1 C R E0 Tryz.f322 O4 [(0,.slice s sn sc),(1,f),(7,iI x7),(8,iI x8)] h =
 cond (decide (x8<x7))
 (aSome s fun p=>ck ((0:Int)≤x8∧x8<(sn:Int)) (gAgg (add (A8 p) (Int.toNat x8*4)) 4 h fun x=>aFn f fun g fi cp=>bnd (C g (fi++([.agg ⟨x⟩]++cp)) h) fun r w=>aBool r fun z1=>cond z1
 (some (iI x8,w))
 (R E0 O4 [(0,.slice s sn sc),(1,f),(7,iI x7),(8,iI (wrap .i64 (x8+1)))] w)))
 (some (iI (-1),h)):=kR
def E39:Cuts:=⟨0,[],[],[(5,⟨[0,1,2,3,4],[0,1,0,4,15],[],[]⟩)]⟩
def Hb1:List Item:=A4 Tryz.f327
theorem Iu5 (p:List Value) :
 xQ E39 C R B47 Tryz.f327 Hb1 [(0,.agg ⟨p⟩),(1,.slice b bn bc)] h =
 nw (.cells D7 false p) h fun p1 w=>gAgg ⟨p1,0,none⟩ 36 w fun x=>bnd (C El4 [.agg ⟨x⟩] w) fun r w1=>aBool r fun z1=>cond (!z1)
 (some (.bool false,w1))
 (gInt .i64 ⟨p1,0,none⟩ w1 fun z2=>gInt .i64 ⟨p1,1,none⟩ w1 fun z3=>gInt .i64 ⟨p1,2,none⟩ w1 fun z4=>gInt .i64 ⟨p1,3,none⟩ w1 fun z5=>nw (.cells A3 false [.int .u8 1,.int .u8 (wrap .u8 (z2)),.int .u8 (wrap .u8 (z3)),.int .u8 (wrap .u8 (z4)),.int .u8 (wrap .u8 (z5)),.int .u8 197]) w1 fun p2 w2=>gCells (some ⟨p2,0,none⟩) (min 6 bn*1) w2 fun cs=>pCells b cs w2 fun w3=>ckB (fitsOpen b A3 w3) (ck ((0:Int)≤6∧6≤(bc:Int)) (bnd (C Ai9 [.slice (H9 b (decide (0<bc)) (0*1)) ((Int.toNat 6)-0) (bc-0)] w3) fun q1 w4=>aInt .u8 q1 fun z6=>aSome b fun p_1=>ck ((0:Int)≤6∧6<(bn:Int)) (pV (add (A8 p_1) (Int.toNat 6*1)) (.int .u8 z6) w4 fun w5=>ckB (fitsOpen b A3 w5) (ck ((0:Int)≤8∧8≤(bn:Int)) (ckB (liveA ⟨p1,4,none⟩ w5) (gCells (H9 (some ⟨p1,4,none⟩) (decide (0<32)) (0*1)) (min (32-0) (bn-(Int.toNat 8))*1) w5 fun cs_1=>pCells (H9 b (decide (Int.toNat 8<bc)) ((Int.toNat 8)*1)) cs_1 w5 fun w6=>some (.bool true,w6)))))))):=kR
def Et8:Cuts:=⟨0,[],[],[]⟩
def Gx5:List Item:=A4 Tryz.f329
theorem Im5 (A7:Int) :
 xQ Et8 C R A38 Tryz.f329 Gx5 [(0,iI n),(1,iI A7)] h =
 bnd (cond (decide (n≥0)) (some (decide (n≤A7),h)) (some (false,h))) fun c w=>some (.bool c,w):=kR
end
end Go.EQ

set_option maxRecDepth 100000
namespace Go.EQ
open Go Go.NN Go.Proofs
open Go.IntKind (wrap)
open Go.Addr (add)
variable (C:D9) (R:Ah2) (fv0 group p random swaps x2 x4 x6:Addr) (h:H) (a atv code e env fd fromv g i idx j k kind lease length modulus n name on size target to x10 x11 x21 x22 x7 x8 x90 x91:Int) (f x:List Value) (bc bn datac datan filesc filesn lc ln outc outn sc slicesc slicesn sn x20c x20n x89c x89n x9c x9n:Nat) (b c data files l m out q r s slices t x20 x89 x9:Option Addr) (cmp decode of:Value)
noncomputable section
def D52:Cuts:=⟨0,[],[],[(5,⟨[0,1,2,3,4],[0,1,0,4,15],[(3,[1])],[]⟩)]⟩
def Ga3:List Item:=A4 Tryz.f9
theorem Hw5 :
 xQ D52 C R Br3 Tryz.f9 Ga3 [] h =
 bnd (C Bt1 [] h) fun r w=>aStr r fun x=>ck (ByteArray.size x≤A7) (nw (.cells A3 false (A0 (ByteArray.data x).toList)) w fun b w1=>nw (.cells A9 false zZ1) w1 fun p1 w2=>pAgg ⟨p1,0,none⟩ [iI 1,iI 0,iI 0,iI 0,iI 0,iI 0,iI 0,iI 0,iI 0,iI 0,iI 0,iI 0,iI 0,iI 0,iI 0,iI 0] w2 fun w3=>ck ((0:Int)≤0∧0<((8:Nat):Int)) (pV (add ⟨p1,8,none⟩ (Int.toNat 0*1)) (iI 1) w3 fun w4=>gAgg ⟨p1,0,none⟩ 16 w4 fun z1=>bnd (C Ab9 [.agg ⟨z1⟩] w4) fun q1 w5=>aStr q1 fun z2=>pCells (some (P4 b)) (A0 (List.take (min (ByteArray.size z2) (ByteArray.size x)) (ByteArray.data z2).toList)) w5 fun w6=>ckB (fitsOpen (some (P4 b)) A3 w6) (ck ((0:Int)≤192∧192≤((ByteArray.size x:Nat):Int)) (bnd (C Bg9 [.agg ⟨[iI 3,iI 0,iI 1,iI 0]⟩] w6) fun q2 w7=>aStr q2 fun z3=>ckB (fitsOpen (some (P4 b)) A3 w7) (ck ((0:Int)≤192∧192≤((ByteArray.size x:Nat):Int)) (same (.slice (H9 (some (P4 b)) (decide (Int.toNat 192<ByteArray.size x)) ((Int.toNat 192)*1)) ((ByteArray.size x)-(Int.toNat 192)) ((ByteArray.size x)-(Int.toNat 192))) (.slice (H9 (some (P4 b)) (decide (Int.toNat 192<ByteArray.size x)) ((Int.toNat 192)*1)) ((ByteArray.size x)-(Int.toNat 192)) ((ByteArray.size x)-(Int.toNat 192))) (pCells (H9 (some (P4 b)) (decide (Int.toNat 192<ByteArray.size x)) ((Int.toNat 192)*1)) (A0 (List.take (min (ByteArray.size z3) ((ByteArray.size x)-(Int.toNat 192))) (ByteArray.data z3).toList)) w7 fun w8=>some (.slice (some (P4 b)) (ByteArray.size x) (ByteArray.size x),w8)))))))):=kR
def Dv3:Cuts:=⟨0,[],[],[(7,⟨[0,1,2,3,4,5,6,7,8,9,10,11,12,13,14,15,16],[0,1,3,7,0,0,32,0,128,0,512,2047,4095,8191,8191,16383,65535],[],[]⟩),(9,⟨[0,1,2,3,4,5,6,7,8,9,10,11,12,13],[0,1,3,7,0,0,32,0,128,0,512,1536,4095,8191],[],[]⟩),(11,⟨[0,1,2,3,4,5,6,7,8,9,10,11,12,13,14,15,16],[0,1,3,7,0,0,32,0,128,0,512,0,2048,0,8192,32767,65535],[],[]⟩),(13,⟨[0,1,2,3,4,5,6,7,8,9,10,11,12,13,14,15,16,17,18,19,20,21,22,23],[0,1,3,7,15,31,63,0,0,256,0,1024,0,4096,0,16384,0,65536,262143,524287,1048575,1048575,2097151,8388607],[],[]⟩),(15,⟨[0,1,2,3,4,5,6,7,8,9,10,11,12,13,14,15],[0,1,3,7,15,31,63,0,0,256,1023,2047,4095,4095,8191,32767],[],[]⟩),(17,⟨[0,1,2,3,4,5,6,7,8,9,10,11,12,13,14,15,16,17],[0,1,3,7,0,16,48,112,240,0,1008,2032,4095,8191,16383,16383,32767,131071],[],[]⟩),(19,⟨[0,1,2,3,4,5,6,7,8,9,10,11,12,13,14,15],[0,1,3,7,0,16,48,112,240,0,1008,2032,0,4096,16383,32767],[],[]⟩),(23,⟨[0,1,2,3,4,5,6,7,8,9,10,11,12,13,14,15,16,17],[0,1,3,7,0,16,63,127,0,0,512,1536,3584,8191,16383,32767,32767,65535],[],[]⟩),(27,⟨[0,1,2,3,4,5,6,7,8,9,10,11,12,13,14,15,16,17,18],[0,0,0,4,15,31,63,127,255,511,63,1087,4095,8191,63,63,32831,131071,262143],[],[]⟩)]⟩
def Eu6:List Item:=A4 Tryz.f37
theorem Hl9 (k:Option Addr) (c:List Value) :
 xQ Dv3 C R A47 Tryz.f37 Eu6 [(0,.pointer k),(1,iI e),(2,.agg ⟨c⟩)] h =
 nw (.cells Bc7 false c) h fun b w=>bnd (cond (decide (e<0)) (some (true,w)) (aSome k fun p=>gSl (add (add p 0) 1) w fun _ xn _=>some (decide (e≥(xn:Int)),w))) fun c_1 w1=>cond c_1
 (some (.tuple ⟨[iI 1,iI 0,.string (ByteArray.mk ⟨[]⟩)]⟩,w1))
 (gInt .i64 ⟨b,0,none⟩ w1 fun z1=>cond (z1==1)
 (aSome k fun p_1=>gPtr (add p_1 6) w1 fun z2=>gInt .i64 ⟨b,1,none⟩ w1 fun z3=>gInt .i64 ⟨b,2,none⟩ w1 fun z4=>gInt .i64 ⟨b,3,none⟩ w1 fun z5=>bnd (C Gb5 [.pointer z2,iI e,iI z3,iI z4,iI z5] w1) fun r w2=>as2 r fun q1 q2=>aStr q1 fun z6=>aInt .i64 q2 fun z7=>some (.tuple ⟨[iI z7,iI 0,.string z6]⟩,w2))
 (cond (z1==2)
 (aSome k fun p_2=>gPtr (add p_2 6) w1 fun z8=>gInt .i64 ⟨b,1,none⟩ w1 fun z9=>gInt .i64 ⟨b,2,none⟩ w1 fun z10=>gSl ⟨b,6,none⟩ w1 fun z11 xn_1 _=>gCells z11 xn_1 w1 fun cs=>asBytes cs fun l=>bnd (C A05 [.pointer z8,iI e,iI z9,iI z10,.string (ByteArray.mk ⟨l⟩)] w1) fun q3 w3=>aInt .i64 q3 fun z12=>some (.tuple ⟨[iI z12,iI 0,.string (ByteArray.mk ⟨[]⟩)]⟩,w3))
 (cond (z1==3)
 (aSome k fun p_3=>gPtr (add p_3 6) w1 fun z13=>gInt .i64 ⟨b,1,none⟩ w1 fun z14=>gInt .i64 ⟨b,2,none⟩ w1 fun z15=>gInt .i64 ⟨b,4,none⟩ w1 fun z16=>gInt .i64 ⟨b,5,none⟩ w1 fun z17=>gInt .i64 ⟨b,3,none⟩ w1 fun z18=>bnd (C Gb7 [.pointer z13,iI e,iI z14,iI z15,iI z16,iI z17,iI z18] w1) fun q4 w4=>aInt .i64 q4 fun z19=>some (.tuple ⟨[iI z19,iI 0,.string (ByteArray.mk ⟨[]⟩)]⟩,w4))
 (cond (z1==4)
 (aSome k fun p_4=>gPtr (add p_4 6) w1 fun z20=>aSome z20 fun p_5=>gPtr (add p_5 3) w1 fun z21=>gInt .i64 ⟨b,1,none⟩ w1 fun z22=>gInt .i64 ⟨b,4,none⟩ w1 fun z23=>gInt .i64 ⟨b,5,none⟩ w1 fun z24=>gInt .i64 ⟨b,2,none⟩ w1 fun z25=>gInt .i64 ⟨b,3,none⟩ w1 fun z26=>bnd (C Gj8 [.pointer z21,iI e,iI z22,iI z23,iI z24,iI z25,iI z26] w1) fun q5 w5=>as2 q5 fun q6 q7=>aInt .i64 q6 fun z27=>aInt .i64 q7 fun z28=>some (.tuple ⟨[iI z28,iI z27,.string (ByteArray.mk ⟨[]⟩)]⟩,w5))
 (cond (z1==5)
 (aSome k fun p_6=>gPtr (add p_6 6) w1 fun z29=>aSome z29 fun p_7=>gPtr (add p_7 3) w1 fun z30=>gInt .i64 ⟨b,1,none⟩ w1 fun z31=>bnd (C Gc3 [.pointer z30,iI e,iI z31] w1) fun q8 w6=>as2 q8 fun q9 q10=>aInt .i64 q9 fun z32=>aInt .i64 q10 fun z33=>some (.tuple ⟨[iI z33,iI z32,.string (ByteArray.mk ⟨[]⟩)]⟩,w6))
 (cond (z1==6)
 (aSome k fun p_8=>gPtr (add p_8 5) w1 fun z34=>aSome k fun p_9=>gSl (add (add p_9 0) 1) w1 fun z35 xn_2 _=>aSome z35 fun p_10=>ck ((0:Int)≤e∧e<(xn_2:Int)) (gInt .i64 (add (A8 p_10) (Int.toNat e*1)) w1 fun z36=>bnd (C Gm5 [.pointer z34,iI z36] w1) fun q11 w7=>as2 q11 fun q12 q13=>aInt .i64 q12 fun z37=>aInt .i64 q13 fun z38=>some (.tuple ⟨[iI z38,iI z37,.string (ByteArray.mk ⟨[]⟩)]⟩,w7)))
 (cond (z1==7)
 (aSome k fun p_11=>gPtr (add p_11 5) w1 fun z39=>aSome k fun p_12=>gSl (add (add p_12 0) 1) w1 fun z40 xn_3 _=>aSome z40 fun p_13=>ck ((0:Int)≤e∧e<(xn_3:Int)) (gInt .i64 (add (A8 p_13) (Int.toNat e*1)) w1 fun z41=>gInt .i64 ⟨b,3,none⟩ w1 fun z42=>bnd (C Gu5 [.pointer z39,iI z41,iI z42] w1) fun q14 w8=>aInt .i64 q14 fun z43=>some (.tuple ⟨[iI z43,iI 0,.string (ByteArray.mk ⟨[]⟩)]⟩,w8)))
 (cond (z1==8)
 (gInt .i64 ⟨b,3,none⟩ w1 fun z44=>bnd (C El3 [.pointer k,iI e,iI z44] w1) fun q15 w9=>aBool q15 fun z45=>cond z45
 (aSome k fun p_14=>gSl (add p_14 7) w9 fun z46 xn_4 _=>gInt .i64 ⟨b,3,none⟩ w9 fun z47=>aSome z46 fun p_15=>ck ((0:Int)≤z47∧z47<(xn_4:Int)) (gPtr (add (A8 p_15) (Int.toNat z47*1)) w9 fun z48=>aSome k fun p_16=>gInt .i64 (add p_16 8) w9 fun z49=>bnd (C Gu4 [.pointer z48,iI e,iI z49] w9) fun q16 w10=>as2 q16 fun q17 q18=>aInt .i64 q17 fun z50=>aBool q18 fun _=>some (.tuple ⟨[iI 0,iI z50,.string (ByteArray.mk ⟨[]⟩)]⟩,w10)))
 (some (.tuple ⟨[iI 8,iI 0,.string (ByteArray.mk ⟨[]⟩)]⟩,w9)))
 (cond (z1==9)
 (gInt .i64 ⟨b,3,none⟩ w1 fun z52=>bnd (C El3 [.pointer k,iI e,iI z52] w1) fun q19 w11=>aBool q19 fun z53=>bnd (cond z53 (aSome k fun p_17=>gSl (add p_17 7) w11 fun z54 xn_5 _=>gInt .i64 ⟨b,3,none⟩ w11 fun z55=>aSome z54 fun p_18=>ck ((0:Int)≤z55∧z55<(xn_5:Int)) (gPtr (add (A8 p_18) (Int.toNat z55*1)) w11 fun z56=>gInt .i64 ⟨b,2,none⟩ w11 fun z57=>bnd (C Gv1 [.pointer z56,iI e,iI z57] w11) fun q20 w12=>aBool q20 fun z58=>some (z58,w12))) (some (false,w11))) fun c_2 w13=>cond c_2
 (some (.tuple ⟨[iI 0,iI 0,.string (ByteArray.mk ⟨[]⟩)]⟩,w13))
 (some (.tuple ⟨[iI 8,iI 0,.string (ByteArray.mk ⟨[]⟩)]⟩,w13)))
 (cond (z1==10)
 (aSome k fun p_19=>gInt .i64 (add p_19 8) w1 fun z59=>some (.tuple ⟨[iI 0,iI z59,.string (ByteArray.mk ⟨[]⟩)]⟩,w1))
 (some (.tuple ⟨[iI 7,iI 0,.string (ByteArray.mk ⟨[]⟩)]⟩,w1)))))))))))):=kR
def Dy1:Cuts:=⟨0,[(2,[0,6])],[],[]⟩
def Eo9:List Item:=A4 Tryz.f41
def B35:List Item:=stk [0,1,0,0,1,4,5] Eo9
theorem Ig7 :
 xQ Dy1 C R A39 Tryz.f41 Eo9 [(0,.pointer c)] h =
 R A39 B35 [(0,.pointer c),(6,iI 0)] h:=kR
theorem Eu2 (x6:Int) :
 xQ Dy1 C R A39 Tryz.f41 B35 [(0,.pointer c),(6,iI x6)] h =
 cond (decide (x6<8))
 (bnd (C I5 [.pointer c,iI x6] h) fun r w=>as2 r fun q1 q2=>aAgg q1 fun x=>aInt .i64 q2 fun z1=>nw (.cells A9 false zZ1) w fun b w1=>ck (List.length x=16) (pAgg ⟨b,0,none⟩ x w1 fun w2=>cond (z1==0)
 (some (iI x6,w2))
 (R A39 B35 [(0,.pointer c),(6,iI (wrap .i64 (x6+1)))] w2)))
 (some (iI (-1),h)):=kR
def Az3:Cuts:=⟨0,[],[],[]⟩
def Bs6:List Item:=A4 Tryz.f71
theorem D22 :
 xQ Az3 C R N6 Tryz.f71 Bs6 [(0,.pointer c),(1,iI i)] h =
 bnd (C A51 [iI i] h) fun r w=>aAgg r fun x=>bnd (C Z9 [.pointer c,.agg ⟨x⟩] w) fun q1 w1=>aBool q1 fun z1=>some (.bool z1,w1):=kR
def Dm4:Cuts:=⟨0,[(3,[0,1,5,10])],[],[]⟩
def Ei8:List Item:=A4 Tryz.f72
def Bd5:List Item:=stk [0,1,0,1,0,0,1,4,5] Ei8
theorem H16 :
 xQ Dm4 C R Ai6 Tryz.f72 Ei8 [(0,.pointer c),(1,of)] h =
 R Ai6 Bd5 [(0,.pointer c),(1,of),(5,.slice none 0 0),(10,iI 0)] h:=kR
theorem Ek1 :
 xQ Dm4 C R Ai6 Tryz.f72 Bd5 [(0,.pointer c),(1,of),(5,.slice out outn outc),(10,iI x10)] h =
 cond (decide (x10<8))
 (bnd (C I5 [.pointer c,iI x10] h) fun r w=>as2 r fun q1 q2=>aAgg q1 fun x=>aInt .i64 q2 fun z1=>nw (.cells A9 false zZ1) w fun b w1=>ck (List.length x=16) (pAgg ⟨b,0,none⟩ x w1 fun w2=>gAgg ⟨b,0,none⟩ 16 w2 fun z2=>ck (List.length z2=16) (nw (.cells V3 false zZ2) w2 fun p1 w3=>ck (List.length (iI x10::(z2++[]))=17) (pAgg ⟨p1,0,none⟩ (iI x10::(z2++[])) w3 fun w4=>bnd (cond (z1==1) (gAgg ⟨p1,0,none⟩ 17 w4 fun z3=>aFn of fun g fi cp=>bnd (C g (fi++([.agg ⟨z3⟩]++cp)) w4) fun q3 w5=>aBool q3 fun z4=>some (z4,w5)) (some (false,w4))) fun c_1 w6=>cond c_1
 (gAgg ⟨p1,0,none⟩ 17 w6 fun z5=>ck (List.length z5=17) (nw (.cells V3 false (z5++[])) w6 fun p2 w7=>gCells (some ⟨p2,0,none⟩) (1*17) w7 fun cs=>ckB (fitsOpen out V3 w7) (apd V3 17 out outn outc 1 cs w7 fun a an ac w8=>R Ai6 Bd5 [(0,.pointer c),(1,of),(5,.slice a an ac),(10,iI (wrap .i64 (x10+1)))] w8)))
 (R Ai6 Bd5 [(0,.pointer c),(1,of),(5,.slice out outn outc),(10,iI (wrap .i64 (x10+1)))] w6)))))
 (some (.slice out outn outc,h)):=kR
def E42:Cuts:=⟨0,[],[],[]⟩
def Hi1:List Item:=A4 Tryz.f76
theorem Ir4 :
 xQ E42 C R J0 Tryz.f76 Hi1 [(0,iI e)] h =
 nw (.cells Ab8 false [iI 0,iI 0,.slice none 0 0,.bool false]) h fun b w=>pAgg ⟨b,0,none⟩ [iI 0,iI e,.slice none 0 0,.bool false] w fun w1=>gAgg ⟨b,0,none⟩ 4 w1 fun x=>some (.agg ⟨x⟩,w1):=kR
def Eg2:Cuts:=⟨0,[],[],[]⟩
def Ge4:List Item:=A4 Tryz.f79
theorem H23 :
 xQ Eg2 C R Bj3 Tryz.f79 Ge4 [(0,iI k),(1,.pointer (some fv0))] h =
 gPtr fv0 h fun x=>bnd (C L7 [.pointer x,iI k] h) fun r w=>as2 r fun q1 q2=>aAgg q1 fun z1=>aInt .i64 q2 fun z2=>nw (.cells B7 false [iI 0,iI 0,iI 0,iI 0]) w fun b w1=>ck (List.length z1=4) (pAgg ⟨b,0,none⟩ z1 w1 fun w2=>some (.bool (z2==0),w2)):=kR
def A32:Cuts:=⟨0,[],[],[]⟩
def Bv8:List Item:=A4 Tryz.f83
theorem D78 (p:List Value) :
 xQ A32 C R Ac9 Tryz.f83 Bv8 [(0,.pointer c),(1,iI i),(2,.agg ⟨p⟩)] h =
 nw (.cells D7 false p) h fun b w=>gAgg ⟨b,0,none⟩ 36 w fun x=>bnd (C Br8 [.agg ⟨x⟩] w) fun r w1=>as2 r fun q1 q2=>aSl q1 fun z1 xn xc=>aBool q2 fun z2=>bnd (C A50 [iI i] w1) fun q3 w2=>aAgg q3 fun z3=>bnd (C O0 [.pointer c,.agg ⟨z3⟩,.slice z1 xn xc,.bool z2] w2) fun q4 w3=>aBool q4 fun z4=>some (.bool z4,w3):=kR
def E47:Cuts:=⟨0,[],[],[]⟩
def G97:List Item:=A4 Tryz.f85
theorem It8 (ok:Bool) :
 xQ E47 C R B38 Tryz.f85 G97 [(0,.bool ok),(1,iI n)] h =
 nw (.cells Ab8 false [iI 0,iI 0,.slice none 0 0,.bool false]) h fun b w=>cond (!ok)
 (bnd (C J0 [iI 105] w) fun r w1=>aAgg r fun x=>ck (List.length x=4) (pAgg ⟨b,0,none⟩ x w1 fun w2=>gAgg ⟨b,0,none⟩ 4 w2 fun z1=>some (.agg ⟨z1⟩,w2)))
 (pAgg ⟨b,0,none⟩ [iI n,iI 0,.slice none 0 0,.bool false] w fun w3=>gAgg ⟨b,0,none⟩ 4 w3 fun z2=>some (.agg ⟨z2⟩,w3)):=kR
def Es5:Cuts:=⟨0,[],[],[]⟩
def Gw5:List Item:=A4 Tryz.f86
theorem Ih1 (p:List Value) :
 xQ Es5 C R B87 Tryz.f86 Gw5 [(0,.agg ⟨p⟩),(1,iI fd)] h =
 nw (.cells A9 false p) h fun b w=>bnd (cond (decide (fd≥0)) (some (decide (fd<8),w)) (some (false,w))) fun c w1=>bnd (cond c (ck ((0:Int)≤fd∧fd<((8:Nat):Int)) (gInt .i64 (add ⟨b,8,none⟩ (Int.toNat fd*1)) w1 fun x=>some (decide (x>0),w1))) (some (false,w1))) fun c_1 w2=>some (.bool c_1,w2):=kR
def E05:Cuts:=⟨0,[],[],[]⟩
def Hc6:List Item:=A4 Tryz.f88
theorem Is1 (f:Int) :
 xQ E05 C R Dp4 Tryz.f88 Hc6 [(0,.pointer c),(1,iI f),(2,.agg ⟨x⟩)] h =
 nw (.cells B7 false x) h fun b w=>gInt .i64 ⟨b,2,none⟩ w fun z1=>pV ⟨b,2,none⟩ (iI (wrap .i64 (z1+1))) w fun w1=>gAgg ⟨b,0,none⟩ 4 w1 fun z2=>bnd (C G9 [.pointer c,iI f,.agg ⟨z2⟩] w1) fun r w2=>aBool r fun z3=>some (.bool z3,w2):=kR
def Bj1:Cuts:=⟨0,[(3,[1,2,3,4]),(7,[1,2,3,4,5]),(13,[1,2,3,6])],[],[]⟩
def B17:List Item:=A4 Tryz.f100
def Bv9:List Item:=stk [0,1,0,1,0,0,1,4,5] B17
def Be3:List Item:=stk [0,1,0,1,0,0,1,4,5,6,0,1,0,4,0,1,0,0,1,4,5] B17
def Bw3:List Item:=stk [0,1,0,1,0,1,0,0,1,4,5] B17
theorem Ia7 (p:List Value) :
 xQ Bj1 C R M9 Tryz.f100 B17 [(0,.agg ⟨p⟩)] h =
 nw (.cells Dp9 false p) h fun b w=>nw (.cells G2 false [.slice none 0 0,.slice none 0 0,.slice none 0 0,iI 0,.slice none 0 0]) w fun p1 w1=>gInt .i64 ⟨b,2,none⟩ w1 fun x=>nw (.cells G2 false [.slice none 0 0,.slice none 0 0,.slice none 0 0,iI 0,.slice none 0 0]) w1 fun p2 w2=>pAgg ⟨p2,0,none⟩ [.slice none 0 0,.slice none 0 0,.slice none 0 0,iI x,.slice none 0 0] w2 fun w3=>R M9 Bv9 [(1,pP b),(2,pP p1),(3,pP p2),(4,iI 0)] w3:=kR
theorem Em1 (b:Addr) (s:Int) :
 xQ Bj1 C R M9 Tryz.f100 Bv9 [(1,.pointer (some p)),(2,.pointer (some x2)),(3,.pointer (some b)),(4,iI s)] h =
 gSl (add p 0) h fun _ xn _=>cond (decide (s<(xn:Int)))
 (gSl (add b 0) h fun z1 xn_1 xc_1=>nw (.cells A6 false [iI 20]) h fun p1 w=>gCells (some ⟨p1,0,none⟩) (1*1) w fun cs=>ckB (fitsOpen z1 A6 w) (apd A6 1 z1 xn_1 xc_1 1 cs w fun a an ac w1=>pV (add b 0) (.slice a an ac) w1 fun w2=>R M9 Be3 [(1,.pointer (some p)),(2,.pointer (some x2)),(3,.pointer (some b)),(4,iI s),(5,iI 0)] w2))
 (R M9 Bw3 [(1,.pointer (some p)),(2,.pointer (some x2)),(3,.pointer (some b)),(6,iI 0)] h):=kR
theorem Ek3 (b:Addr) (s:Int) :
 xQ Bj1 C R M9 Tryz.f100 Be3 [(1,.pointer (some p)),(2,.pointer (some x2)),(3,.pointer (some b)),(4,iI s),(5,iI i)] h =
 cond (decide (i<9))
 (gSl (add b 1) h fun x xn xc=>nw (.cells A6 false [iI s]) h fun p1 w=>gCells (some ⟨p1,0,none⟩) (1*1) w fun cs=>ckB (fitsOpen x A6 w) (apd A6 1 x xn xc 1 cs w fun a an ac w1=>pV (add b 1) (.slice a an ac) w1 fun w2=>R M9 Be3 [(1,.pointer (some p)),(2,.pointer (some x2)),(3,.pointer (some b)),(4,iI s),(5,iI (wrap .i64 (i+1)))] w2))
 (gSl (add b 2) h fun z1 xn_1 xc_1=>nw (.cells A6 false [iI s]) h fun p2 w3=>nw (.cells Z7 false [.slice (some ⟨p2,0,none⟩) 1 1]) w3 fun p3 w4=>gCells (some ⟨p3,0,none⟩) (1*1) w4 fun cs_1=>ckB (fitsOpen z1 Z7 w4) (apd Z7 1 z1 xn_1 xc_1 1 cs_1 w4 fun a_1 an_1 ac_1 w5=>pV (add b 2) (.slice a_1 an_1 ac_1) w5 fun w6=>gSl (add b 4) w6 fun z2 xn_2 xc_2=>nw (.cells A6 false [iI s]) w6 fun p4 w7=>nw (.cells L5 false [iI s,iI 0,iI 0,iI 492,.slice (some ⟨p4,0,none⟩) 1 1]) w7 fun p5 w8=>gCells (some ⟨p5,0,none⟩) (1*5) w8 fun cs_2=>ckB (fitsOpen z2 L5 w8) (apd L5 5 z2 xn_2 xc_2 1 cs_2 w8 fun a_2 an_2 ac_2 w9=>pV (add b 4) (.slice a_2 an_2 ac_2) w9 fun w10=>R M9 Bv9 [(1,.pointer (some p)),(2,.pointer (some x2)),(3,.pointer (some b)),(4,iI (wrap .i64 (s+1)))] w10))):=kR
theorem Em4 (b:Addr) :
 xQ Bj1 C R M9 Tryz.f100 Bw3 [(1,.pointer (some p)),(2,.pointer (some x2)),(3,.pointer (some b)),(6,iI i)] h =
 gSl (add p 1) h fun _ xn _=>cond (decide (i<(xn:Int)))
 (gSl (add p 1) h fun z1 xn_1 _=>aSome z1 fun p_1=>ck ((0:Int)≤i∧i<(xn_1:Int)) (gAgg (add (A8 p_1) (Int.toNat i*2)) 2 h fun z2=>nw (.cells Dn4 false [iI 0,iI 0]) h fun p1 w=>ck (List.length z2=2) (pAgg ⟨p1,0,none⟩ z2 w fun w1=>gSl (add b 4) w1 fun z3 xn_2 xc_2=>gInt .i64 ⟨p1,0,none⟩ w1 fun z4=>gInt .i64 ⟨p1,0,none⟩ w1 fun z5=>gInt .i64 ⟨p1,1,none⟩ w1 fun z6=>nw (.cells A6 false [iI z5,iI z6]) w1 fun p2 w2=>nw (.cells L5 false [iI z4,iI (wrap .i64 (8+i)),iI 0,iI 40,.slice (some ⟨p2,0,none⟩) 2 2]) w2 fun p3 w3=>gCells (some ⟨p3,0,none⟩) (1*5) w3 fun cs=>ckB (fitsOpen z3 L5 w3) (apd L5 5 z3 xn_2 xc_2 1 cs w3 fun a an ac w4=>pV (add b 4) (.slice a an ac) w4 fun w5=>R M9 Bw3 [(1,.pointer (some p)),(2,.pointer (some x2)),(3,.pointer (some b)),(6,iI (wrap .i64 (i+1)))] w5))))
 (gAgg b 5 h fun z7=>ck (List.length z7=5) (pAgg x2 z7 h fun w6=>gAgg x2 5 w6 fun z8=>some (.agg ⟨z8⟩,w6))):=kR
def Bn5:Cuts:=⟨0,[(5,[1,4,20,21,22]),(12,[1,7,58,59,60]),(18,[7,89,90,91]),(22,[7,11,12,89,90,91,122,123,124])],[],[(9,⟨[0,1,3,5,6,7,9,10,2,4,8,11,12,13,14],[0,1,3,0,15,0,32,96,255,0,512,2047,4095,8191,16383],[(2,[6,10]),(4,[6,10]),(8,[10])],[]⟩),(10,⟨[0,1,2,3,4,5,6,7,8,9,10,11,12],[0,0,2,6,14,0,32,96,224,510,1023,2047,4095],[],[]⟩),(14,⟨[0,1,2,3,4,5,6,7,8,9,10,11],[0,0,2,6,14,0,32,96,254,511,1023,2047],[(6,[4])],[]⟩),(15,⟨[0,1,2,3,4,5,6,7,8,9,10,11,12],[0,0,2,6,14,0,32,96,224,510,1023,2047,4095],[(7,[4])],[]⟩),(20,⟨[0,1,2,3,4,5,6,7,8,9,11,12,15,16,18,19,10,13,14,17,20,21,22,23,24,25],[0,1,3,7,0,16,48,112,0,256,1008,0,2048,8176,16368,0,32768,131056,0,262144,1048575,2097151,4194303,4194303,8388607,33554431],[(10,[3,12,16,19])],[]⟩),(25,⟨[0,1,2,3,4,5,6,7,8,9],[0,1,3,7,0,0,0,64,224,511],[],[]⟩)]⟩
def B45:List Item:=A4 Tryz.f101
def Dc2:List Item:=stk [0,1,0,1,0,1,0,0,1,4,5] B45
def Db9:List Item:=stk [0,1,0,1,0,1,0,1,0,1,0,1,0,0,1,4,5] B45
def Br7:List Item:=stk [0,1,0,1,0,1,0,1,0,1,0,1,0,1,0,0,1,4,5] B45
def Bs2:List Item:=stk [0,1,0,1,0,1,0,1,0,1,0,1,0,1,0,0,1,4,5,6,0,1,0,1,0,4,0,1,0,1,0,1,4,5] B45
theorem Ix1 (c:List Value) :
 xQ Bn5 C R J5 Tryz.f101 B45 [(0,.agg ⟨c⟩)] h =
 nw (.cells G2 false c) h fun b w=>gAgg ⟨b,0,none⟩ 5 w fun x=>bnd (C Aa8 [.agg ⟨x⟩] w) fun r w1=>aBool r fun z1=>cond (!z1)
 (some (.tuple ⟨[.pointer none,iI 1]⟩,w1))
 (gSl ⟨b,0,none⟩ w1 fun z2 xn xc=>R J5 Dc2 [(1,pP b),(4,iI 0),(20,.slice z2 xn xc),(21,iI (xn:Int)),(22,iI 0)] w1):=kR
theorem E87 (c:Addr) (all:Int) :
 xQ Bn5 C R J5 Tryz.f101 Dc2 [(1,.pointer (some c)),(4,iI all),(20,.slice x20 x20n x20c),(21,iI x21),(22,iI x22)] h =
 cond (decide (x22<x21))
 (aSome x20 fun p=>ck ((0:Int)≤x22∧x22<(x20n:Int)) (gInt .i64 (add (A8 p) (Int.toNat x22*1)) h fun x=>bnd (C Bt4 [iI x] h) fun r w=>aInt .i64 r fun z1=>R J5 Dc2 [(1,.pointer (some c)),(4,iI (wrap .i64 (all+z1))),(20,.slice x20 x20n x20c),(21,iI x21),(22,iI (wrap .i64 (x22+1)))] w))
 (gSl (add c 1) h fun z2 xn xc=>gSl (add c 1) h fun z3 xn_1 xc_1=>gSl (add c 0) h fun z4 xn_2 xc_2=>bnd (C Ae9 [.slice z2 xn xc] h) fun q1 w1=>aSl q1 fun z5 xn_3 xc_3=>gSl (add c 1) w1 fun z6 xn_4 xc_4=>same (.slice z3 xn_1 xc_1) (.slice z6 xn_4 xc_4) (gSl (add c 0) w1 fun z7 xn_5 xc_5=>same (.slice z4 xn_2 xc_2) (.slice z7 xn_5 xc_5) (bnd (C Ek8 [iI all] w1) fun q2 w2=>aPtr q2 fun z8=>gSl (add c 1) w2 fun z9 xn_6 xc_6=>same (.slice z3 xn_1 xc_1) (.slice z9 xn_6 xc_6) (gSl (add c 0) w2 fun z10 xn_7 xc_7=>same (.slice z4 xn_2 xc_2) (.slice z10 xn_7 xc_7) (bnd (C Be1 [iI (xn_1:Int)] w2) fun q3 w3=>aPtr q3 fun z11=>gSl (add c 0) w3 fun z12 xn_8 xc_8=>same (.slice z4 xn_2 xc_2) (.slice z12 xn_8 xc_8) (bnd (C A45 [.slice z4 xn_2 xc_2] w3) fun q4 w4=>aPtr q4 fun z13=>nw (.cells Dy9 false [.slice z5 xn_3 xc_3,.slice none 0 0,.pointer z8,.pointer z11,.pointer z13,.pointer none,.slice none 0 0,iI 0]) w4 fun b w5=>gPtr ⟨b,2,none⟩ w5 fun z14=>gPtr ⟨b,3,none⟩ w5 fun z15=>bnd (C Dl4 [.pointer z14,.pointer z15] w5) fun q5 w6=>aPtr q5 fun z16=>pV ⟨b,5,none⟩ (.pointer z16) w6 fun w7=>gSl (add c 2) w7 fun z17 xn_9 xc_9=>R J5 Db9 [(1,.pointer (some c)),(7,pP b),(58,.slice z17 xn_9 xc_9),(59,iI (xn_9:Int)),(60,iI 0)] w7)))))):=kR
theorem Gb1 (c:Addr) (k:Addr) (x58:Option Addr) (x58n x58c:Nat) (x59:Int) (x60:Int) :
 xQ Bn5 C R J5 Tryz.f101 Db9 [(1,.pointer (some c)),(7,.pointer (some k)),(58,.slice x58 x58n x58c),(59,iI x59),(60,iI x60)] h =
 cond (decide (x60<x59))
 (aSome x58 fun p=>ck ((0:Int)≤x60∧x60<(x58n:Int)) (gSl (add (A8 p) (Int.toNat x60*1)) h fun x xn xc=>gSl (add k 1) h fun z1 xn_1 xc_1=>bnd (C Ae9 [.slice x xn xc] h) fun r w=>aSl r fun z2 xn_2 xc_2=>gSl (add k 1) w fun z3 xn_3 xc_3=>same (.slice z1 xn_1 xc_1) (.slice z3 xn_3 xc_3) (nw (.cells Z7 false [.slice z2 xn_2 xc_2]) w fun b w1=>gCells (some ⟨b,0,none⟩) (1*1) w1 fun cs=>ckB (fitsOpen z1 Z7 w1) (apd Z7 1 z1 xn_1 xc_1 1 cs w1 fun a an ac w2=>pV (add k 1) (.slice a an ac) w2 fun w3=>gSl (add k 6) w3 fun z4 xn_4 xc_4=>gInt .i64 (add c 3) w3 fun z5=>bnd (C Ea8 [iI z5] w3) fun q1 w4=>aPtr q1 fun z6=>gSl (add k 6) w4 fun z7 xn_5 xc_5=>same (.slice z4 xn_4 xc_4) (.slice z7 xn_5 xc_5) (nw (.cells Ba1 false [.pointer z6]) w4 fun p1 w5=>gCells (some ⟨p1,0,none⟩) (1*1) w5 fun cs_1=>ckB (fitsOpen z4 Ba1 w5) (apd Ba1 1 z4 xn_4 xc_4 1 cs_1 w5 fun a_1 an_1 ac_1 w6=>pV (add k 6) (.slice a_1 an_1 ac_1) w6 fun w7=>R J5 Db9 [(1,.pointer (some c)),(7,.pointer (some k)),(58,.slice x58 x58n x58c),(59,iI x59),(60,iI (wrap .i64 (x60+1)))] w7))))))
 (gSl (add c 4) h fun z8 xn_6 xc_6=>R J5 Br7 [(7,.pointer (some k)),(89,.slice z8 xn_6 xc_6),(90,iI (xn_6:Int)),(91,iI 0)] h):=kR
theorem Ga8 (k:Addr) :
 xQ Bn5 C R J5 Tryz.f101 Br7 [(7,.pointer (some k)),(89,.slice x89 x89n x89c),(90,iI x90),(91,iI x91)] h =
 cond (decide (x91<x90))
 (aSome x89 fun p=>ck ((0:Int)≤x91∧x91<(x89n:Int)) (gAgg (add (A8 p) (Int.toNat x91*5)) 5 h fun x=>nw (.cells L5 false [iI 0,iI 0,iI 0,iI 0,.slice none 0 0]) h fun b w=>ck (List.length x=5) (pAgg ⟨b,0,none⟩ x w fun w1=>gPtr (add k 5) w1 fun z1=>gPtr (add k 4) w1 fun z2=>gInt .i64 ⟨b,0,none⟩ w1 fun z3=>gInt .i64 ⟨b,1,none⟩ w1 fun z4=>gInt .i64 ⟨b,2,none⟩ w1 fun z5=>gInt .i64 ⟨b,3,none⟩ w1 fun z6=>bnd (C W2 [.pointer z2,iI z3] w1) fun r w2=>aInt .i64 r fun z7=>gPtr (add k 5) w2 fun z8=>same (.pointer z1) (.pointer z8) (gInt .i64 ⟨b,1,none⟩ w2 fun z9=>same (iI z4) (iI z9) (gInt .i64 ⟨b,2,none⟩ w2 fun z10=>same (iI z5) (iI z10) (gInt .i64 ⟨b,3,none⟩ w2 fun z11=>same (iI z6) (iI z11) (bnd (C A25 [.pointer z1,iI (wrap .i64 ((wrap .i64 ((wrap .i64 (z7+z4))*64))+z5)),iI z6] w2) fun q1 w3=>as2 q1 fun q2 q3=>aInt .i64 q2 fun z12=>aInt .i64 q3 fun _=>gSl (add k 0) w3 fun z14 xn xc=>R J5 Bs2 [(7,.pointer (some k)),(11,pP b),(12,iI z12),(89,.slice x89 x89n x89c),(90,iI x90),(91,iI x91),(122,.slice z14 xn xc),(123,iI (xn:Int)),(124,iI 0)] w3)))))))
 (some (.tuple ⟨[.pointer (some k),iI 0]⟩,h)):=kR
theorem E88 (k:Addr) (x:Addr) (obj:Int) (x122:Option Addr) (x122n x122c:Nat) (x123:Int) (x124:Int) :
 xQ Bn5 C R J5 Tryz.f101 Bs2 [(7,.pointer (some k)),(11,.pointer (some x)),(12,iI obj),(89,.slice x89 x89n x89c),(90,iI x90),(91,iI x91),(122,.slice x122 x122n x122c),(123,iI x123),(124,iI x124)] h =
 cond (decide (x124<x123))
 (aSome x122 fun p=>ck ((0:Int)≤x124∧x124<(x122n:Int)) (gInt .i64 (add (A8 p) (Int.toNat x124*1)) h fun z1=>gSl (add x 4) h fun z2 xn xc=>bnd (C M7 [.slice z2 xn xc,iI z1] h) fun r w=>aBool r fun z3=>cond z3
 (gPtr (add k 3) w fun z4=>gInt .i64 (add x 3) w fun z5=>bnd (C Bn0 [.pointer z4,iI x124,.agg ⟨[iI obj,iI 3,iI 0,iI z5,iI 0,iI 0]⟩] w) fun q1 w1=>as2 q1 fun q2 q3=>aInt .i64 q2 fun _=>aInt .i64 q3 fun _=>R J5 Bs2 [(7,.pointer (some k)),(11,.pointer (some x)),(12,iI obj),(89,.slice x89 x89n x89c),(90,iI x90),(91,iI x91),(122,.slice x122 x122n x122c),(123,iI x123),(124,iI (wrap .i64 (x124+1)))] w1)
 (R J5 Bs2 [(7,.pointer (some k)),(11,.pointer (some x)),(12,iI obj),(89,.slice x89 x89n x89c),(90,iI x90),(91,iI x91),(122,.slice x122 x122n x122c),(123,iI x123),(124,iI (wrap .i64 (x124+1)))] w)))
 (R J5 Br7 [(7,.pointer (some k)),(89,.slice x89 x89n x89c),(90,iI x90),(91,iI (wrap .i64 (x91+1)))] h):=kR
def Bq2:Cuts:=⟨0,[],[],[]⟩
def Dl9:List Item:=A4 Tryz.f108
theorem E69 (b:ByteArray) :
 xQ Bq2 C R A05 Tryz.f108 Dl9 [(0,.pointer r),(1,iI e),(2,iI name),(3,iI atv),(4,.string b)] h =
 bnd (C A07 [.pointer r,iI e,iI name,iI 2,iI atv,iI ((ByteArray.size b:Nat):Int)] h) fun q1 w=>as2 q1 fun q2 q3=>aInt .i64 q2 fun x=>aInt .i64 q3 fun z1=>cond (z1 != 0)
 (some (iI z1,w))
 (aSome r fun p=>gSl (add p 0) w fun z2 xn xc=>ckB (fitsOpen z2 A3 w) (ck ((0:Int)≤x∧x≤(xn:Int)) (pCells (H9 z2 (decide (Int.toNat x<xc)) ((Int.toNat x)*1)) (A0 (List.take (min (ByteArray.size b) (xn-(Int.toNat x))) (ByteArray.data b).toList)) w fun w1=>some (iI 0,w1)))):=kR
def D23:Cuts:=⟨0,[],[],[]⟩
def E95:List Item:=A4 Tryz.f125
theorem Hw3 :
 xQ D23 C R Bs8 Tryz.f125 E95 [] h =
 bnd (C A21 [iI 24,.func (.func V4) ⟨[]⟩ ⟨[]⟩,.func (.func Af1) ⟨[]⟩ ⟨[]⟩] h) fun r w=>aPtr r fun x=>some (.pointer x,w):=kR
def Bg0:Cuts:=⟨0,[],[],[]⟩
def B97:List Item:=A4 Tryz.f143
theorem Er5 :
 xQ Bg0 C R Au6 Tryz.f143 B97 [(0,.pointer c)] h =
 nw (.cells D7 false zZ4) h fun b w=>bnd (C J7 [.pointer c,.agg ⟨[iI 4,iI 0]⟩,.func (.func Aa6) ⟨[]⟩ ⟨[]⟩] w) fun r w1=>as2 r fun q1 q2=>aAgg q1 fun x=>aInt .i64 q2 fun z1=>ck (List.length x=36) (pAgg ⟨b,0,none⟩ x w1 fun w2=>gAgg ⟨b,0,none⟩ 36 w2 fun z2=>some (.tuple ⟨[.agg ⟨z2⟩,iI z1]⟩,w2)):=kR
def A99:Cuts:=⟨0,[],[],[(2,⟨[0,1,2,3,4,5,6,7],[0,0,0,4,12,0,63,127],[],[]⟩)]⟩
def B56:List Item:=A4 Tryz.f148
theorem Ej3 (r:List Value) :
 xQ A99 C R Z9 Tryz.f148 B56 [(0,.pointer c),(1,.agg ⟨r⟩)] h =
 nw (.cells B6 false r) h fun b w=>gAgg ⟨b,0,none⟩ 2 w fun x=>bnd (C Aa0 [.pointer c,.agg ⟨x⟩] w) fun q1 w1=>as2 q1 fun q2 q3=>aAgg q2 fun z1=>aBool q3 fun z2=>nw (.cells Bw8 false [iI 0,iI 0,iI 0]) w1 fun p1 w2=>ck (List.length z1=3) (pAgg ⟨p1,0,none⟩ z1 w2 fun w3=>gAgg ⟨b,0,none⟩ 2 w3 fun z3=>gInt .i64 ⟨p1,2,none⟩ w3 fun z4=>ck ((0:Int)≤z4∧(z4:Int)≤z4∧z4≤(A7:Int)) (nw (.cells A3 false (I7 (Int.toNat z4) [.int .u8 0])) w3 fun p2 w4=>bnd (C O0 [.pointer c,.agg ⟨z3⟩,.slice (some ⟨p2,0,none⟩) (Int.toNat z4) (Int.toNat z4),.bool z2] w4) fun q4 w5=>aBool q4 fun z5=>some (.bool z5,w5))):=kR
def E19:Cuts:=⟨0,[],[],[]⟩
def Hh7:List Item:=A4 Tryz.f150
theorem Iz4 :
 xQ E19 C R Dj3 Tryz.f150 Hh7 [(0,.slice b bn bc)] h =
 bnd (C Q3 [.slice b bn bc,iI 0,iI 24,iI 8,.func (.func Af4) ⟨[]⟩ ⟨[]⟩] h) fun r w=>aAgg r fun x=>bnd (C Q2 [.slice b bn bc,iI 192,iI 8,iI 12,.func (.func Ag1) ⟨[]⟩ ⟨[]⟩] w) fun q1 w1=>aAgg q1 fun z1=>bnd (C N4 [.slice b bn bc,iI 288,iI 40,iI 4,.func (.func Aa6) ⟨[]⟩ ⟨[]⟩] w1) fun q2 w2=>aAgg q2 fun z2=>bnd (C N4 [.slice b bn bc,iI 448,iI 40,iI 1,.func (.func Aa6) ⟨[]⟩ ⟨[]⟩] w2) fun q3 w3=>aAgg q3 fun z3=>bnd (C Ae5 [.slice b bn bc,iI 488,iI 4,iI 1,.func (.func W4) ⟨[]⟩ ⟨[]⟩] w3) fun q4 w4=>aAgg q4 fun z4=>ck (List.length x=2) (ck (List.length z1=2) (ck (List.length z2=2) (ck (List.length z3=2) (ck (List.length z4=2) (nw (.cells Eo5 false (x++(z1++(z2++(z3++(z4++[])))))) w4 fun p1 w5=>some (pP p1,w5)))))):=kR
def Bo5:Cuts:=⟨0,[(2,[0,9,10,11])],[],[(4,⟨[0,1,2,3,4,5,6,7,8,9,10,11,12,13],[0,1,3,7,0,31,63,127,255,127,127,1663,4095,8191],[(11,[8])],[]⟩)]⟩
def Dg3:List Item:=A4 Tryz.f153
def A85:List Item:=stk [0,1,0,0,1,4,5] Dg3
theorem G51 (x:Option Addr) :
 xQ Bo5 C R Ae4 Tryz.f153 Dg3 [(0,.pointer x)] h =
 aSome x fun p=>gSl (add (add p 2) 0) h fun z1 xn xc=>R Ae4 A85 [(0,.pointer x),(9,.slice z1 xn xc),(10,iI (xn:Int)),(11,iI 0)] h:=kR
theorem Dr8 (x:Option Addr) :
 xQ Bo5 C R Ae4 Tryz.f153 A85 [(0,.pointer x),(9,.slice x9 x9n x9c),(10,iI x10),(11,iI x11)] h =
 cond (decide (x11<x10))
 (aSome x9 fun p=>ck ((0:Int)≤x11∧x11<(x9n:Int)) (gAgg (add (A8 p) (Int.toNat x11*4)) 4 h fun z1=>nw (.cells B7 false [iI 0,iI 0,iI 0,iI 0]) h fun b w=>ck (List.length z1=4) (pAgg ⟨b,0,none⟩ z1 w fun w1=>aSome x fun p_1=>gAgg (add p_1 2) 2 w1 fun z2=>bnd (C U4 [.agg ⟨z2⟩,iI x11] w1) fun r w2=>aBool r fun z3=>bnd (cond z3 (gInt .i64 ⟨b,2,none⟩ w2 fun z4=>bnd (C I0 [.pointer x,iI x11] w2) fun q1 w3=>aInt .i64 q1 fun z5=>gInt .i64 ⟨b,2,none⟩ w3 fun z6=>same (iI z4) (iI z6) (some (z4 != z5,w3))) (some (false,w2))) fun c w4=>cond c
 (some (.bool true,w4))
 (R Ae4 A85 [(0,.pointer x),(9,.slice x9 x9n x9c),(10,iI x10),(11,iI (wrap .i64 (x11+1)))] w4))))
 (some (.bool false,h)):=kR
def D34:Cuts:=⟨0,[],[],[]⟩
def Ga7:List Item:=A4 Tryz.f156
theorem Hy9 :
 xQ D34 C R Bs3 Tryz.f156 Ga7 [(0,iI i),(1,.pointer (some fv0))] h =
 ck ((0:Int)≤i∧i<((8:Nat):Int)) (gInt .i64 (add (add fv0 8) (Int.toNat i*1)) h fun x=>some (.bool (x==0),h)):=kR
def Dt6:Cuts:=⟨0,[],[],[(1,⟨[1,0,2,3,4,5,6],[0,0,3,7,7,31,63],[(0,[1])],[]⟩)]⟩
def Ey0:List Item:=A4 Tryz.f164
theorem Hm1 :
 xQ Dt6 C R Bk6 Tryz.f164 Ey0 [(0,.agg ⟨f⟩)] h =
 nw (.cells B7 false f) h fun b w=>gAgg ⟨b,0,none⟩ 4 w fun x=>bnd (C Bs1 [] w) fun r w1=>aPtr r fun z1=>gAgg ⟨b,0,none⟩ 4 w1 fun z2=>same (.agg ⟨x⟩) (.agg ⟨z2⟩) (bnd (C Ae1 [.pointer z1,.agg ⟨x⟩] w1) fun q1 w2=>as2 q1 fun q2 q3=>aSl q2 fun z3 xn xc=>aBool q3 fun z4=>some (.tuple ⟨[.slice z3 xn xc,.bool z4]⟩,w2)):=kR
def Ea5:Cuts:=⟨0,[(3,[3,8,9])],[],[(4,⟨[0,1,2,3,4,5,6,7,8,9,10],[0,0,2,6,14,0,32,126,255,511,1023],[(5,[4])],[]⟩)]⟩
def E01:List Item:=A4 Tryz.f194
def Dc6:List Item:=stk [0,1,0,1,0,0,1,4,5] E01
theorem Iw7 (envs:Int) :
 xQ Ea5 C R Be1 Tryz.f194 E01 [(0,iI envs)] h =
 nw (.cells A75 false [.slice none 0 0]) h fun b w=>R Be1 Dc6 [(3,pP b),(8,iI (mm2 false (mm2 true envs 0) 40)),(9,iI 0)] w:=kR
theorem E90 (s:Addr) (x9:Int) :
 xQ Ea5 C R Be1 Tryz.f194 Dc6 [(3,.pointer (some s)),(8,iI x8),(9,iI x9)] h =
 cond (decide (x9<x8))
 (gSl (add s 0) h fun x xn xc=>bnd (C W0 [iI 32] h) fun r w=>aPtr r fun z1=>gSl (add s 0) w fun z2 xn_1 xc_1=>same (.slice x xn xc) (.slice z2 xn_1 xc_1) (nw (.cells I1 false [.pointer z1]) w fun b w1=>gCells (some ⟨b,0,none⟩) (1*1) w1 fun cs=>ckB (fitsOpen x I1 w1) (apd I1 1 x xn xc 1 cs w1 fun a an ac w2=>pV (add s 0) (.slice a an ac) w2 fun w3=>R Be1 Dc6 [(3,.pointer (some s)),(8,iI x8),(9,iI (wrap .i64 (x9+1)))] w3)))
 (some (.pointer (some s),h)):=kR
def E24:Cuts:=⟨0,[],[],[]⟩
def He9:List Item:=A4 Tryz.f197
theorem Iw5 :
 xQ E24 C R Ea8 Tryz.f197 He9 [(0,iI lease)] h =
 nw (.cells Gw7 false [iI (mm2 false (mm2 true lease 1) 1000),.bool false,iI 0,iI 0,iI 0,.slice none 0 0,iI 0,iI 0,iI 0]) h fun b w=>some (pP b,w):=kR
def A83:Cuts:=⟨0,[(3,[5,20,21,22])],[],[(2,⟨[0,1,2,3,4,5,6,7,8,9,10,11,12,13,14],[0,1,3,7,0,16,0,64,192,448,960,2032,4095,8191,0],[],[]⟩)]⟩
def Bv1:List Item:=A4 Tryz.f199
def Av3:List Item:=stk [0,1,0,1,0,0,1,4,5] Bv1
theorem Gc4 (s:Int) :
 xQ A83 C R W2 Tryz.f199 Bv1 [(0,.pointer q),(1,iI s)] h =
 aSome q fun p=>gSl (add p 0) h fun x _ xc=>aSome q fun p_1=>gSl (add p_1 0) h fun _ xn_1 _=>ckB (fitsOpen x Z7 h) (ck ((0:Int)≤mm2 false (mm2 true s 0) (xn_1:Int)∧mm2 false (mm2 true s 0) (xn_1:Int)≤(xc:Int)) (R W2 Av3 [(5,iI 0),(20,.slice (H9 x (decide (0<xc)) (0*1)) ((Int.toNat (mm2 false (mm2 true s 0) (xn_1:Int)))-0) (xc-0)),(21,iI (((Int.toNat (mm2 false (mm2 true s 0) (xn_1:Int)))-0:Nat):Int)),(22,iI 0)] h)):=kR
theorem B98 :
 xQ A83 C R W2 Tryz.f199 Av3 [(5,iI n),(20,.slice x20 x20n x20c),(21,iI x21),(22,iI x22)] h =
 cond (decide (x22<x21))
 (aSome x20 fun p=>ck ((0:Int)≤x22∧x22<(x20n:Int)) (gSl (add (A8 p) (Int.toNat x22*1)) h fun _ xn _=>R W2 Av3 [(5,iI (wrap .i64 (n+(xn:Int)))),(20,.slice x20 x20n x20c),(21,iI x21),(22,iI (wrap .i64 (x22+1)))] h))
 (some (iI n,h)):=kR
def Dw2:Cuts:=⟨0,[],[],[]⟩
def Eu3:List Item:=A4 Tryz.f204
theorem Hp3 :
 xQ Dw2 C R B39 Tryz.f204 Eu3 [(0,iI lease)] h =
 nw (.cells Gz8 false [iI (mm2 false (mm2 true lease 1) 1000),iI 0,iI 0,iI 0,iI 0,iI 0,.bool false,iI 0,.slice none 0 0]) h fun b w=>some (pP b,w):=kR
def De2:Cuts:=⟨0,[],[],[]⟩
def Ed8:List Item:=A4 Tryz.f207
theorem G23 (c:List Value) :
 xQ De2 C R Bp9 Tryz.f207 Ed8 [(0,.pointer s),(1,iI e),(2,.agg ⟨c⟩)] h =
 nw (.cells W1 false c) h fun b w=>bnd (C At1 [.pointer s,iI e] w) fun r w1=>aBool r fun x=>bnd (cond (!x) (some (true,w1)) (gInt .i64 ⟨b,1,none⟩ w1 fun z1=>some (decide (z1<0),w1))) fun c_1 w2=>bnd (cond c_1 (some (true,w2)) (gInt .i64 ⟨b,1,none⟩ w2 fun z2=>some (decide (z2>7),w2))) fun c_2 w3=>bnd (cond c_2 (some (true,w3)) (gInt .i64 ⟨b,2,none⟩ w3 fun z3=>some (decide (z3<0),w3))) fun c_3 w4=>bnd (cond c_3 (some (true,w4)) (gInt .i64 ⟨b,2,none⟩ w4 fun z4=>some (decide (z4>65536),w4))) fun c_4 w5=>bnd (cond c_4 (some (true,w5)) (gInt .i64 ⟨b,3,none⟩ w5 fun z5=>some (decide (z5<0),w5))) fun c_5 w6=>bnd (cond c_5 (some (true,w6)) (gInt .i64 ⟨b,3,none⟩ w6 fun z6=>some (decide (z6>65536),w6))) fun c_6 w7=>cond c_6
 (some (.tuple ⟨[iI 0,iI 1]⟩,w7))
 (pAgg ⟨b,4,none⟩ [iI 0,iI 0] w7 fun w8=>gAgg ⟨b,0,none⟩ 6 w8 fun z7=>bnd (C Bq7 [.pointer s,iI e,.agg ⟨z7⟩] w8) fun q1 w9=>as2 q1 fun q2 q3=>aInt .i64 q2 fun z8=>aInt .i64 q3 fun z9=>some (.tuple ⟨[iI z8,iI z9]⟩,w9)):=kR
def B62:Cuts:=⟨0,[],[],[]⟩
def D62:List Item:=A4 Tryz.f208
theorem Gv3 (k:Option Addr) :
 xQ B62 C R Az4 Tryz.f208 D62 [(0,.pointer k)] h =
 aSome k fun p=>gPtr (add p 3) h fun x=>some (.pointer x,h):=kR
def Df6:Cuts:=⟨0,[],[],[]⟩
def Ef3:List Item:=A4 Tryz.f210
theorem G27 :
 xQ Df6 C R Bn3 Tryz.f210 Ef3 [(0,.pointer s),(1,iI e)] h =
 bnd (C At1 [.pointer s,iI e] h) fun r w=>aBool r fun x=>cond (!x)
 (some (.slice none 0 0,w))
 (aSome s fun p=>gSl (add p 0) w fun z1 xn _=>aSome z1 fun p_1=>ck ((0:Int)≤e∧e<(xn:Int)) (gPtr (add (A8 p_1) (Int.toNat e*1)) w fun z2=>bnd (C Aa1 [.pointer z2] w) fun q1 w1=>aSl q1 fun z3 xn_1 xc_1=>some (.slice z3 xn_1 xc_1,w1))):=kR
def Bj8:Cuts:=⟨0,[],[],[]⟩
def Di5:List Item:=A4 Tryz.f213
theorem Ey6 :
 xQ Bj8 C R Ay3 Tryz.f213 Di5 [(0,.pointer r),(1,iI env),(2,iI fromv),(3,iI atv),(4,iI to),(5,iI on),(6,iI n)] h =
 bnd (C Ak7 [.pointer r,iI env,iI fromv,iI atv,iI n] h) fun q1 w=>as2 q1 fun q2 q3=>aSl q2 fun x xn xc=>aInt .i64 q3 fun z1=>cond (z1 != 0)
 (some (iI z1,w))
 (bnd (C Ai7 [.pointer r,iI env,iI to,iI on,.slice x xn xc] w) fun q4 w1=>aInt .i64 q4 fun z2=>some (iI z2,w1)):=kR
def B11:Cuts:=⟨0,[],[],[]⟩
def Dz9:List Item:=A4 Tryz.f217
theorem Go2 (s:Int) :
 xQ B11 C R Ba7 Tryz.f217 Dz9 [(0,.pointer q),(1,iI s),(2,iI k)] h =
 bnd (C At6 [.pointer q,iI s] h) fun r w=>aBool r fun x=>cond (!x)
 (some (iI 1,w))
 (bnd (C Bb4 [.pointer q,iI s,iI k] w) fun q1 w1=>aBool q1 fun z1=>cond (!z1)
 (some (iI 5,w1))
 (aSome q fun p=>gSl (add p 0) w1 fun z2 xn _=>aSome z2 fun p_1=>ck ((0:Int)≤s∧s<(xn:Int)) (gSl (add (A8 p_1) (Int.toNat s*1)) w1 fun z3 xn_1 _=>aSome z3 fun p_2=>ck ((0:Int)≤k∧k<(xn_1:Int)) (pV (add (A8 p_2) (Int.toNat k*1)) (iI 0) w1 fun w2=>some (iI 0,w2))))):=kR
def A96:Cuts:=⟨0,[],[],[]⟩
def B57:List Item:=A4 Tryz.f232
theorem Ej5 (r:List Value) :
 xQ A96 C R Aa0 Tryz.f232 B57 [(0,.pointer c),(1,.agg ⟨r⟩)] h =
 nw (.cells B6 false r) h fun b w=>nw (.cells Bw8 false [iI 0,iI 0,iI 0]) w fun p1 w1=>gInt .i64 ⟨b,1,none⟩ w1 fun x=>bnd (cond (decide (x<0)) (some (true,w1)) (gInt .i64 ⟨b,0,none⟩ w1 fun z1=>bnd (C Ab5 [.pointer c,iI z1] w1) fun q1 w2=>aInt .i64 q1 fun z2=>some (decide (x≥z2),w2))) fun c_1 w3=>cond c_1
 (pAgg ⟨p1,0,none⟩ [iI 0,iI 0,iI 0] w3 fun w4=>gAgg ⟨p1,0,none⟩ 3 w4 fun z3=>some (.tuple ⟨[.agg ⟨z3⟩,.bool false]⟩,w4))
 (aSome c fun p=>gSl (add p 2) w3 fun z4 xn _=>aSome z4 fun p_1=>ck ((0:Int)≤0∧0<(xn:Int)) (gInt .i64 (add (A8 p_1) (Int.toNat 0*1)) w3 fun z5=>gInt .i64 ⟨b,0,none⟩ w3 fun z6=>cond (z6==1)
 (pAgg ⟨p1,0,none⟩ [iI z5,iI (wrap .i64 (24*x)),iI 24] w3 fun w5=>gAgg ⟨p1,0,none⟩ 3 w5 fun z7=>some (.tuple ⟨[.agg ⟨z7⟩,.bool true]⟩,w5))
 (gInt .i64 ⟨b,0,none⟩ w3 fun z8=>cond (z8==2)
 (pAgg ⟨p1,0,none⟩ [iI z5,iI (wrap .i64 (192+(wrap .i64 (8*x)))),iI 8] w3 fun w6=>gAgg ⟨p1,0,none⟩ 3 w6 fun z9=>some (.tuple ⟨[.agg ⟨z9⟩,.bool true]⟩,w6))
 (gInt .i64 ⟨b,0,none⟩ w3 fun z10=>bnd (cond (z10==3) (some (decide (x<4),w3)) (some (false,w3))) fun c_2 w7=>cond c_2
 (pAgg ⟨p1,0,none⟩ [iI z5,iI (wrap .i64 (288+(wrap .i64 (40*x)))),iI 40] w7 fun w8=>gAgg ⟨p1,0,none⟩ 3 w8 fun z11=>some (.tuple ⟨[.agg ⟨z11⟩,.bool true]⟩,w8))
 (gInt .i64 ⟨b,0,none⟩ w7 fun z12=>cond (z12==3)
 (aSome c fun p_2=>gSl (add p_2 2) w7 fun z13 xn_1 _=>aSome z13 fun p_3=>ck ((0:Int)≤wrap .i64 ((wrap .i64 (x-4))+1)∧wrap .i64 ((wrap .i64 (x-4))+1)<(xn_1:Int)) (gInt .i64 (add (A8 p_3) (Int.toNat (wrap .i64 ((wrap .i64 (x-4))+1))*1)) w7 fun z14=>pAgg ⟨p1,0,none⟩ [iI z14,iI 0,iI 40] w7 fun w9=>gAgg ⟨p1,0,none⟩ 3 w9 fun z15=>some (.tuple ⟨[.agg ⟨z15⟩,.bool true]⟩,w9)))
 (gInt .i64 ⟨b,0,none⟩ w7 fun z16=>cond (z16==4)
 (pAgg ⟨p1,0,none⟩ [iI z5,iI 448,iI 40] w7 fun w10=>gAgg ⟨p1,0,none⟩ 3 w10 fun z17=>some (.tuple ⟨[.agg ⟨z17⟩,.bool true]⟩,w10))
 (pAgg ⟨p1,0,none⟩ [iI z5,iI 488,iI 4] w7 fun w11=>gAgg ⟨p1,0,none⟩ 3 w11 fun z18=>some (.tuple ⟨[.agg ⟨z18⟩,.bool true]⟩,w11)))))))):=kR
def Dl8:Cuts:=⟨0,[],[],[]⟩
def Em8:List Item:=A4 Tryz.f234
theorem Hi2 (c:Int) :
 xQ Dl8 C R Ap3 Tryz.f234 Em8 [(0,.int .u8 c)] h =
 some (.bool (c != 0),h):=kR
def P3:Cuts:=⟨0,[(3,[0,3,9,10,11]),(11,[6,25,26,27])],[],[]⟩
def Y1:List Item:=A4 Tryz.f249
def U3:List Item:=stk [0,1,0,1,0,0,1,4,5] Y1
def S9:List Item:=stk [0,1,0,1,0,1,0,1,0,0,1,4,5] Y1
theorem B86 :
 xQ P3 C R D3 Tryz.f249 Y1 [(0,.slice slices slicesn slicesc)] h =
 R D3 U3 [(0,.slice slices slicesn slicesc),(3,iI 0),(9,.slice slices slicesn slicesc),(10,iI (slicesn:Int)),(11,iI 0)] h:=kR
theorem Av5 :
 xQ P3 C R D3 Tryz.f249 U3 [(0,.slice slices slicesn slicesc),(3,iI size),(9,.slice x9 x9n x9c),(10,iI x10),(11,iI x11)] h =
 cond (decide (x11<x10))
 (aSome x9 fun p=>ck ((0:Int)≤x11∧x11<(x9n:Int)) (gSl (add (A8 p) (Int.toNat x11*1)) h fun _ xn _=>cond (decide ((wrap .i64 (size+(xn:Int)))<0))
 (none)
 (R D3 U3 [(0,.slice slices slicesn slicesc),(3,iI (wrap .i64 (size+(xn:Int)))),(9,.slice x9 x9n x9c),(10,iI x10),(11,iI (wrap .i64 (x11+1)))] h)))
 (bnd (C M0 [.slice none 0 0,iI size] h) fun r w=>aSl r fun z1 xn_1 xc_1=>R D3 S9 [(6,.slice z1 xn_1 xc_1),(25,.slice slices slicesn slicesc),(26,iI (slicesn:Int)),(27,iI 0)] w):=kR
theorem Aw9 (newslice:Option Addr) (newslicen newslicec:Nat) (x25:Option Addr) (x25n x25c:Nat) (x26:Int) (x27:Int) :
 xQ P3 C R D3 Tryz.f249 S9 [(6,.slice newslice newslicen newslicec),(25,.slice x25 x25n x25c),(26,iI x26),(27,iI x27)] h =
 cond (decide (x27<x26))
 (aSome x25 fun p=>ck ((0:Int)≤x27∧x27<(x25n:Int)) (gSl (add (A8 p) (Int.toNat x27*1)) h fun x xn _=>gCells x (xn*2) h fun cs=>ckB (fitsOpen newslice B6 h) (apd B6 2 newslice newslicen newslicec xn cs h fun a an ac w=>R D3 S9 [(6,.slice a an ac),(25,.slice x25 x25n x25c),(26,iI x26),(27,iI (wrap .i64 (x27+1)))] w)))
 (some (.slice newslice newslicen newslicec,h)):=kR
def Af7:Cuts:=⟨0,[(3,[1,5,9,10,11])],[],[]⟩
def At5:List Item:=A4 Tryz.f252
def Q9:List Item:=stk [0,1,0,1,0,0,1,4,5] At5
theorem Ds9 :
 xQ Af7 C R E9 Tryz.f252 At5 [(0,.agg ⟨x⟩),(1,iI kind)] h =
 nw (.cells W6 false x) h fun b w=>gSl ⟨b,1,none⟩ w fun z1 xn xc=>R E9 Q9 [(1,iI kind),(5,.slice none 0 0),(9,.slice z1 xn xc),(10,iI (xn:Int)),(11,iI 0)] w:=kR
theorem A87 :
 xQ Af7 C R E9 Tryz.f252 Q9 [(1,iI kind),(5,.slice out outn outc),(9,.slice x9 x9n x9c),(10,iI x10),(11,iI x11)] h =
 cond (decide (x11<x10))
 (aSome x9 fun p=>ck ((0:Int)≤x11∧x11<(x9n:Int)) (gInt .i64 (add (A8 p) (Int.toNat x11*1)) h fun x=>cond (x==2)
 (nw (.cells B6 false [iI kind,iI x11]) h fun b w=>gCells (some ⟨b,0,none⟩) (1*2) w fun cs=>ckB (fitsOpen out B6 w) (apd B6 2 out outn outc 1 cs w fun a an ac w1=>R E9 Q9 [(1,iI kind),(5,.slice a an ac),(9,.slice x9 x9n x9c),(10,iI x10),(11,iI (wrap .i64 (x11+1)))] w1))
 (R E9 Q9 [(1,iI kind),(5,.slice out outn outc),(9,.slice x9 x9n x9c),(10,iI x10),(11,iI (wrap .i64 (x11+1)))] h)))
 (some (.slice out outn outc,h)):=kR
def Ax8:Cuts:=⟨0,[(3,[0,1,2,4,10,11,15,16])],[],[]⟩
def Bl6:List Item:=A4 Tryz.f255
def Ap9:List Item:=stk [0,1,0,1,0,0,1,4,5] Bl6
theorem Ev1 :
 xQ Ax8 C R Q2 Tryz.f255 Bl6 [(0,.slice b bn bc),(1,iI atv),(2,iI size),(3,iI n),(4,decode)] h =
 nw (.cells W7 false [.slice none 0 0,.slice none 0 0]) h fun p1 w=>nw (.cells W7 false [.slice none 0 0,.slice none 0 0]) w fun p2 w1=>R Q2 Ap9 [(0,.slice b bn bc),(1,iI atv),(2,iI size),(4,decode),(10,pP p1),(11,pP p2),(15,iI n),(16,iI 0)] w1:=kR
theorem B01 (x10:Addr) (out:Addr) (x15:Int) (x16:Int) :
 xQ Ax8 C R Q2 Tryz.f255 Ap9 [(0,.slice b bn bc),(1,iI atv),(2,iI size),(4,decode),(10,.pointer (some x10)),(11,.pointer (some out)),(15,iI x15),(16,iI x16)] h =
 cond (decide (x16<x15))
 (ckB (fitsOpen b A3 h) (ck ((0:Int)≤wrap .i64 (atv+(wrap .i64 (size*(wrap .i64 (x16+1)))))∧wrap .i64 (atv+(wrap .i64 (size*(wrap .i64 (x16+1)))))≤(bc:Int)) (ck ((0:Int)≤wrap .i64 (atv+(wrap .i64 (size*x16)))∧wrap .i64 (atv+(wrap .i64 (size*x16)))≤((Int.toNat (wrap .i64 (atv+(wrap .i64 (size*(wrap .i64 (x16+1)))))):Nat):Int)) (aFn decode fun g fi cp=>bnd (C g (fi++([.slice (H9 b (decide (Int.toNat (wrap .i64 (atv+(wrap .i64 (size*x16))))<bc)) ((Int.toNat (wrap .i64 (atv+(wrap .i64 (size*x16)))))*1)) ((Int.toNat (wrap .i64 (atv+(wrap .i64 (size*(wrap .i64 (x16+1)))))))-(Int.toNat (wrap .i64 (atv+(wrap .i64 (size*x16)))))) (bc-(Int.toNat (wrap .i64 (atv+(wrap .i64 (size*x16))))))]++cp)) h) fun r w=>as2 r fun q1 q2=>aAgg q1 fun x=>aInt .i64 q2 fun z1=>nw (.cells B7 false [iI 0,iI 0,iI 0,iI 0]) w fun p1 w1=>ck (List.length x=4) (pAgg ⟨p1,0,none⟩ x w1 fun w2=>gSl (add out 0) w2 fun z2 xn xc=>gAgg ⟨p1,0,none⟩ 4 w2 fun z3=>ck (List.length z3=4) (nw (.cells B7 false (z3++[])) w2 fun p2 w3=>gCells (some ⟨p2,0,none⟩) (1*4) w3 fun cs=>ckB (fitsOpen z2 B7 w3) (apd B7 4 z2 xn xc 1 cs w3 fun a an ac w4=>pV (add out 0) (.slice a an ac) w4 fun w5=>gSl (add out 1) w5 fun z4 xn_1 xc_1=>nw (.cells A6 false [iI z1]) w5 fun p3 w6=>gCells (some ⟨p3,0,none⟩) (1*1) w6 fun cs_1=>ckB (fitsOpen z4 A6 w6) (apd A6 1 z4 xn_1 xc_1 1 cs_1 w6 fun a_1 an_1 ac_1 w7=>pV (add out 1) (.slice a_1 an_1 ac_1) w7 fun w8=>R Q2 Ap9 [(0,.slice b bn bc),(1,iI atv),(2,iI size),(4,decode),(10,.pointer (some x10)),(11,.pointer (some out)),(15,iI x15),(16,iI (wrap .i64 (x16+1)))] w8))))))))
 (gAgg out 2 h fun z5=>ck (List.length z5=2) (pAgg x10 z5 h fun w9=>gAgg x10 2 w9 fun z6=>some (.agg ⟨z6⟩,w9))):=kR
def An9:Cuts:=⟨0,[],[],[]⟩
def Bd6:List Item:=A4 Tryz.f258
theorem Dk3 :
 xQ An9 C R Ad1 Tryz.f258 Bd6 [(0,.agg ⟨x⟩),(1,iI i)] h =
 nw (.cells W8 false x) h fun b w=>gSl ⟨b,1,none⟩ w fun z1 xn _=>aSome z1 fun p=>ck ((0:Int)≤i∧i<(xn:Int)) (gInt .i64 (add (A8 p) (Int.toNat i*1)) w fun z2=>some (.bool (z2==1),w)):=kR
def Bz9:Cuts:=⟨0,[],[],[(1,⟨[0,1,2,3,4,5,6,7,8,9,10,11,12],[0,1,3,7,15,31,63,7,135,511,1023,2047,4095],[],[]⟩)]⟩
def Dz6:List Item:=A4 Tryz.f266
theorem Go4 :
 xQ Bz9 C R Aw2 Tryz.f266 Dz6 [(0,.agg ⟨f⟩),(1,.pointer (some fv0))] h =
 nw (.cells B7 false f) h fun b w=>gAgg ⟨b,0,none⟩ 4 w fun x=>bnd (C Da4 [.agg ⟨x⟩] w) fun r w1=>aBool r fun z1=>bnd (cond z1 (gPtr fv0 w1 fun z2=>aSome z2 fun p=>gAgg (add p 4) 2 w1 fun z3=>gInt .i64 ⟨b,1,none⟩ w1 fun z4=>bnd (C S8 [.agg ⟨z3⟩,iI z4] w1) fun q1 w2=>aBool q1 fun z5=>some (!z5,w2)) (some (false,w1))) fun c w3=>some (.bool c,w3):=kR
def Eq3:Cuts:=⟨0,[],[],[]⟩
def Gz7:List Item:=A4 Tryz.f267
theorem Ii3 :
 xQ Eq3 C R Da4 Tryz.f267 Gz7 [(0,.agg ⟨f⟩)] h =
 nw (.cells B7 false f) h fun b w=>gInt .i64 ⟨b,0,none⟩ w fun x=>bnd (cond (x==1) (some (true,w)) (gInt .i64 ⟨b,0,none⟩ w fun z1=>some (z1==2,w))) fun c w1=>bnd (cond c (gInt .i64 ⟨b,1,none⟩ w1 fun z2=>some (decide (z2<4),w1)) (some (false,w1))) fun c_1 w2=>some (.bool c_1,w2):=kR
def Ef6:Cuts:=⟨0,[],[],[]⟩
def Gl0:List Item:=A4 Tryz.f271
theorem Ia3 :
 xQ Ef6 C R Bz4 Tryz.f271 Gl0 [] h =
 bnd (C A08 [iI 40,.func (.func B47) ⟨[]⟩ ⟨[]⟩,.func (.func B53) ⟨[]⟩ ⟨[]⟩] h) fun r w=>aPtr r fun x=>some (.pointer x,w):=kR
def Bp0:Cuts:=⟨0,[(3,[0,3,4])],[],[]⟩
def De9:List Item:=A4 Tryz.f294
def As4:List Item:=stk [0,1,0,1,0,0,1,4,5] De9
theorem G80 (n:Option Addr) :
 xQ Bp0 C R Aa1 Tryz.f294 De9 [(0,.pointer n)] h =
 R Aa1 As4 [(0,.pointer n),(3,.slice none 0 0),(4,iI 0)] h:=kR
theorem Dr7 (n:Option Addr) :
 xQ Bp0 C R Aa1 Tryz.f294 As4 [(0,.pointer n),(3,.slice out outn outc),(4,iI i)] h =
 aSome n fun p=>gSl (add p 0) h fun _ xn _=>cond (decide (i<(xn:Int)))
 (aSome n fun p_1=>gSl (add p_1 0) h fun z1 xn_1 _=>aSome z1 fun p_2=>ck ((0:Int)≤i∧i<(xn_1:Int)) (gBool (add (add (A8 p_2) (Int.toNat i*2)) 1) h fun z2=>cond z2
 (aSome n fun p_3=>gSl (add p_3 0) h fun z3 xn_2 _=>aSome z3 fun p_4=>ck ((0:Int)≤i∧i<(xn_2:Int)) (gInt .i64 (add (add (A8 p_4) (Int.toNat i*2)) 0) h fun z4=>nw (.cells A6 false [iI (wrap .i64 (i+(wrap .i64 (256*z4))))]) h fun b w=>gCells (some ⟨b,0,none⟩) (1*1) w fun cs=>ckB (fitsOpen out A6 w) (apd A6 1 out outn outc 1 cs w fun a an ac w1=>R Aa1 As4 [(0,.pointer n),(3,.slice a an ac),(4,iI (wrap .i64 (i+1)))] w1)))
 (R Aa1 As4 [(0,.pointer n),(3,.slice out outn outc),(4,iI (wrap .i64 (i+1)))] h)))
 (some (.slice out outn outc,h)):=kR
def Dk8:Cuts:=⟨0,[],[],[]⟩
def En8:List Item:=A4 Tryz.f296
theorem Hh1 :
 xQ Dk8 C R Bx1 Tryz.f296 En8 [(0,.pointer m),(1,iI atv),(2,.slice b bn bc)] h =
 bnd (C By1 [.pointer m,iI atv,iI (bn:Int)] h) fun r w=>aBool r fun x=>cond (!x)
 (some (iI 1,w))
 (aSome m fun p=>gSl (add p 0) w fun z1 xn xc=>ckB (fitsOpen z1 A3 w) (ck ((0:Int)≤atv∧atv≤(xn:Int)) (gCells b (min bn (xn-(Int.toNat atv))*1) w fun cs=>pCells (H9 z1 (decide (Int.toNat atv<xc)) ((Int.toNat atv)*1)) cs w fun w1=>some (iI 0,w1)))):=kR
def Df7:Cuts:=⟨0,[],[],[]⟩
def Eh1:List Item:=A4 Tryz.f297
theorem G69 :
 xQ Df7 C R A58 Tryz.f297 Eh1 [(0,.pointer s),(1,iI env),(2,iI name)] h =
 nw (.cells W1 false [iI 0,iI 0,iI 0,iI 0,iI 0,iI 0]) h fun b w=>bnd (C Ap1 [.pointer s,iI env] w) fun r w1=>aBool r fun x=>cond (!x)
 (pAgg ⟨b,0,none⟩ [iI 0,iI 0,iI 0,iI 0,iI 0,iI 0] w1 fun w2=>gAgg ⟨b,0,none⟩ 6 w2 fun z1=>some (.tuple ⟨[.agg ⟨z1⟩,iI 2]⟩,w2))
 (aSome s fun p=>gSl (add p 0) w1 fun z2 xn _=>aSome z2 fun p_1=>ck ((0:Int)≤env∧env<(xn:Int)) (gPtr (add (A8 p_1) (Int.toNat env*1)) w1 fun z3=>bnd (C Al5 [.pointer z3,iI name] w1) fun q1 w3=>as2 q1 fun q2 q3=>aAgg q2 fun z4=>aBool q3 fun z5=>nw (.cells W1 false [iI 0,iI 0,iI 0,iI 0,iI 0,iI 0]) w3 fun p1 w4=>ck (List.length z4=6) (pAgg ⟨p1,0,none⟩ z4 w4 fun w5=>cond (!z5)
 (pAgg ⟨b,0,none⟩ [iI 0,iI 0,iI 0,iI 0,iI 0,iI 0] w5 fun w6=>gAgg ⟨b,0,none⟩ 6 w6 fun z6=>some (.tuple ⟨[.agg ⟨z6⟩,iI 2]⟩,w6))
 (gAgg ⟨p1,0,none⟩ 6 w5 fun z7=>ck (List.length z7=6) (pAgg ⟨b,0,none⟩ z7 w5 fun w7=>gAgg ⟨b,0,none⟩ 6 w7 fun z8=>some (.tuple ⟨[.agg ⟨z8⟩,iI 0]⟩,w7)))))):=kR
def Ac7:Cuts:=⟨0,[(2,[0,1,7,8])],[],[]⟩
def Aq0:List Item:=A4 Tryz.f309
def Z0:List Item:=stk [0,1,0,0,1,4,5] Aq0
theorem Do5 (f:Value) :
 xQ Ac7 C R H3 Tryz.f309 Aq0 [(0,.slice s sn sc),(1,f)] h =
 R H3 Z0 [(0,.slice s sn sc),(1,f),(7,iI (sn:Int)),(8,iI 0)] h:=kR
theorem A36 (f:Value) :
 xQ Ac7 C R H3 Tryz.f309 Z0 [(0,.slice s sn sc),(1,f),(7,iI x7),(8,iI x8)] h =
 cond (decide (x8<x7))
 (aSome s fun p=>ck ((0:Int)≤x8∧x8<(sn:Int)) (gInt .u8 (add (A8 p) (Int.toNat x8*1)) h fun x=>aFn f fun g fi cp=>bnd (C g (fi++([.int .u8 x]++cp)) h) fun r w=>aBool r fun z1=>cond z1
 (some (iI x8,w))
 (R H3 Z0 [(0,.slice s sn sc),(1,f),(7,iI x7),(8,iI (wrap .i64 (x8+1)))] w)))
 (some (iI (-1),h)):=kR
def Ed1:Cuts:=⟨0,[],[],[(3,⟨[0,1,2,3,4,5,6,7,8,9,10,11,12,13,14],[0,0,3,7,15,31,0,0,128,448,960,1984,4095,8191,16383],[],[]⟩)]⟩
def Gi8:List Item:=A4 Tryz.f313
theorem H25 :
 xQ Ed1 C R Dj9 Tryz.f313 Gi8 [(0,.slice b bn bc),(1,iI atv)] h =
 bnd (cond (decide (atv<0)) (some (true,h)) (some (decide (atv>(wrap .i64 ((bn:Int)-2))),h))) fun c w=>cond c
 (some (.tuple ⟨[iI 0,.bool false]⟩,w))
 (aSome b fun p=>ck ((0:Int)≤atv∧atv<(bn:Int)) (gInt .u8 (add (A8 p) (Int.toNat atv*1)) w fun x=>aSome b fun p_1=>ck ((0:Int)≤wrap .i64 (atv+1)∧wrap .i64 (atv+1)<(bn:Int)) (gInt .u8 (add (A8 p_1) (Int.toNat (wrap .i64 (atv+1))*1)) w fun z1=>some (.tuple ⟨[iI (Ei0 .i64 (wrap .i64 ((wrap .i64 (x))*2 ^ 8)) (wrap .i64 (z1))),.bool true]⟩,w)))):=kR
def Q0:Cuts:=⟨0,[(2,[0,1,7,8])],[],[]⟩
def Ac5:List Item:=A4 Tryz.f320
def O3:List Item:=stk [0,1,0,0,1,4,5] Ac5
theorem Bv5 (f:Value) :
 xQ Q0 C R E1 Tryz.f320 Ac5 [(0,.slice s sn sc),(1,f)] h =
 R E1 O3 [(0,.slice s sn sc),(1,f),(7,iI (sn:Int)),(8,iI 0)] h:=kR
theorem An0 (f:Value) :
 xQ Q0 C R E1 Tryz.f320 O3 [(0,.slice s sn sc),(1,f),(7,iI x7),(8,iI x8)] h =
 cond (decide (x8<x7))
 (aSome s fun p=>ck ((0:Int)≤x8∧x8<(sn:Int)) (gAgg (add (A8 p) (Int.toNat x8*16)) 16 h fun x=>aFn f fun g fi cp=>bnd (C g (fi++([.agg ⟨x⟩]++cp)) h) fun r w=>aBool r fun z1=>cond z1
 (some (iI x8,w))
 (R E1 O3 [(0,.slice s sn sc),(1,f),(7,iI x7),(8,iI (wrap .i64 (x8+1)))] w)))
 (some (iI (-1),h)):=kR
def Ep1:Cuts:=⟨0,[],[],[]⟩
def Gx6:List Item:=A4 Tryz.f324
theorem Ig6 :
 xQ Ep1 C R A42 Tryz.f324 Gx6 [(0,.agg ⟨f⟩),(1,.slice b bn bc)] h =
 nw (.cells B7 false f) h fun p1 w=>gAgg ⟨p1,0,none⟩ 4 w fun x=>bnd (C D95 [.agg ⟨x⟩] w) fun r w1=>aBool r fun z1=>cond (!z1)
 (some (.bool false,w1))
 (gInt .i64 ⟨p1,0,none⟩ w1 fun z2=>gInt .i64 ⟨p1,1,none⟩ w1 fun z3=>gInt .i64 ⟨p1,2,none⟩ w1 fun z4=>gInt .i64 ⟨p1,3,none⟩ w1 fun z5=>nw (.cells A3 false [.int .u8 (wrap .u8 (z2)),.int .u8 (wrap .u8 (z3)),.int .u8 (wrap .u8 (z4)),.int .u8 (wrap .u8 (z5)),.int .u8 179]) w1 fun p2 w2=>gCells (some ⟨p2,0,none⟩) (min 5 bn*1) w2 fun cs=>pCells b cs w2 fun w3=>ckB (fitsOpen b A3 w3) (ck ((0:Int)≤5∧5≤(bc:Int)) (bnd (C Ai9 [.slice (H9 b (decide (0<bc)) (0*1)) ((Int.toNat 5)-0) (bc-0)] w3) fun q1 w4=>aInt .u8 q1 fun z6=>aSome b fun p=>ck ((0:Int)≤5∧5<(bn:Int)) (pV (add (A8 p) (Int.toNat 5*1)) (.int .u8 z6) w4 fun w5=>some (.bool true,w5))))):=kR
def Bp1:Cuts:=⟨0,[],[],[]⟩
def Dk2:List Item:=A4 Tryz.f326
theorem E67 (put:Value) (get:Value) :
 xQ Bp1 C R A08 Tryz.f326 Dk2 [(0,iI size),(1,put),(2,get)] h =
 one put (one get (nw (.cells Da0 false [iI (mm2 false (mm2 true size 0) 64),put,get]) h fun b w=>some (pP b,w))):=kR
def Al8:Cuts:=⟨0,[(2,[0,3,11,12,13])],[],[(5,⟨[0,1,2,3,4,5,6,7,8,9,10,11,12,13,14,15,16],[0,1,3,7,0,0,32,96,224,0,0,1535,3583,7679,16383,32767,65535],[],[]⟩)]⟩
def A10:List Item:=A4 Tryz.f331
def Ag3:List Item:=stk [0,1,0,0,1,4,5] A10
theorem D77 (v:List Value) :
 xQ Al8 C R J9 Tryz.f331 A10 [(0,.pointer t),(1,.agg ⟨v⟩)] h =
 nw (.cells W1 false v) h fun b w=>aSome t fun p=>gSl (add p 0) w fun x xn xc=>R J9 Ag3 [(0,.pointer t),(3,pP b),(11,.slice x xn xc),(12,iI (xn:Int)),(13,iI 0)] w:=kR
theorem Bi0 (v:Addr) (x11:Option Addr) (x11n x11c:Nat) (x12:Int) (x13:Int) :
 xQ Al8 C R J9 Tryz.f331 Ag3 [(0,.pointer t),(3,.pointer (some v)),(11,.slice x11 x11n x11c),(12,iI x12),(13,iI x13)] h =
 cond (decide (x13<x12))
 (aSome x11 fun p=>ck ((0:Int)≤x13∧x13<(x11n:Int)) (gAgg (add (A8 p) (Int.toNat x13*8)) 8 h fun x=>nw (.cells Ay1 false [iI 0,iI 0,iI 0,iI 0,iI 0,iI 0,iI 0,.bool false]) h fun b w=>ck (List.length x=8) (pAgg ⟨b,0,none⟩ x w fun w1=>gBool ⟨b,7,none⟩ w1 fun z1=>bnd (cond (!z1) (gInt .i64 ⟨b,6,none⟩ w1 fun z2=>some (decide (z2≤1000000),w1)) (some (false,w1))) fun c w2=>cond c
 (aSome t fun p_1=>gSl (add p_1 0) w2 fun z3 xn _=>aSome t fun p_2=>gSl (add p_2 0) w2 fun z4 xn_1 _=>gAgg v 6 w2 fun z5=>aSome z3 fun p_3=>ck ((0:Int)≤x13∧x13<(xn:Int)) (ck (List.length z5=6) (pAgg (add (add (A8 p_3) (Int.toNat x13*8)) 0) z5 w2 fun w3=>aSome z4 fun p_4=>ck ((0:Int)≤x13∧x13<(xn_1:Int)) (pV (add (add (A8 p_4) (Int.toNat x13*8)) 7) (.bool true) w3 fun w4=>bnd (C S5 [.pointer t,iI x13] w4) fun r w5=>aInt .i64 r fun z6=>some (.tuple ⟨[iI z6,.bool true]⟩,w5)))))
 (R J9 Ag3 [(0,.pointer t),(3,.pointer (some v)),(11,.slice x11 x11n x11c),(12,iI x12),(13,iI (wrap .i64 (x13+1)))] w2))))
 (some (.tuple ⟨[iI 0,.bool false]⟩,h)):=kR
def Ay7:Cuts:=⟨0,[],[],[]⟩
def Bt5:List Item:=A4 Tryz.f332
theorem D25 :
 xQ Ay7 C R S5 Tryz.f332 Bt5 [(0,.pointer t),(1,iI i)] h =
 aSome t fun p=>gSl (add p 0) h fun x xn _=>aSome x fun p_1=>ck ((0:Int)≤i∧i<(xn:Int)) (gInt .i64 (add (add (A8 p_1) (Int.toNat i*8)) 6) h fun z1=>some (iI (wrap .i64 (i+(wrap .i64 (256*z1)))),h)):=kR
end
end Go.EQ

set_option maxRecDepth 100000
namespace Go.EQ
open Go Go.NN Go.Proofs
variable (C:D9) (R:Ah2)
noncomputable section
def Jn2:List (Nat × Cuts):=[(6,A63),(8,Di9),(9,D52),(10,Ep2),(13,Bf5),(15,Bh5),(17,Bv6),(19,Eq4),(20,Bq5),(21,Ak8),(22,Et5),(23,Dx9),(24,D35),(25,Ez1),(26,Eq8),(27,Gc7),(28,Ez0),(29,Gj6),(30,D37),(33,Eh7),(34,Ed3),(35,Bh7),(36,Du2),(37,Dv3),(38,D32),(39,B63),(40,Es9),(41,Dy1),(42,Bi8),(43,Ep0),(44,A12),(50,Al2),(51,Dw4),(52,Dw6),(53,E81),(54,D85),(62,Bw0),(64,Bp6),(67,Ab2),(68,Dv4),(69,Bf6),(70,Dc5),(71,Az3),(72,Dm4),(73,D41),(74,B75),(75,B30),(76,E42),(77,Er6),(78,Ea4),(79,Eg2),(80,Bf0),(81,Ed6),(82,Bf3),(83,A32),(84,A26),(85,E47),(86,Es5),(87,G64),(88,E05),(89,E70),(90,Av9),(100,Bj1),(101,Bn5),(102,A49),(103,D24),(104,B15),(105,B70),(106,By6),(108,Bq2),(117,B09),(118,Dw7),(119,A91),(123,Bf2),(124,D45),(125,D23),(126,Aq7),(137,Az2),(138,Az1),(143,Bg0),(144,A97),(145,Eg0),(146,Ay6),(147,Dq1),(148,A99),(149,Es2),(150,E19),(151,Bc4),(152,Du4),(153,Bo5),(154,Dd5),(155,A69),(156,D34),(157,Am0),(158,Dv2),(159,Dt1),(160,Al6),(161,Dv9),(162,D50),(163,D31),(164,Dt6),(165,An6),(190,B16),(191,D47),(192,A72),(193,Gk2),(194,Ea5),(195,Dy3),(196,Ei1),(197,E24),(198,Bo4),(199,A83),(200,Dd3),(201,Bw9),(202,Ba8),(203,Bw1),(204,Dw2),(205,B23),(206,El1),(207,De2),(208,B62),(209,Bx7),(210,Df6),(211,Bl0),(212,Bf8),(213,Bj8),(214,B18),(216,Bu6),(217,B11),(218,B73),(219,B65),(220,Bq4),(221,Dd9),(222,Dd4),(223,D46),(224,Dc7),(231,Aq9),(232,A96),(233,Ai2),(234,Dl8),(235,Bp4),(236,Bu1),(237,B90),(247,A31),(248,B69),(249,P3),(250,Af3),(251,Af6),(252,Af7),(253,Ar9),(254,Ax7),(255,Ax8),(256,Ax9),(257,Bq0),(258,An9),(259,Z4),(260,Df2),(261,Am5),(262,By8),(263,Ao3),(264,A04),(265,Z3),(266,Bz9),(267,Eq3),(268,Ap2),(269,D28),(270,Ar1),(271,Ef6),(272,Ar2),(273,Ar0),(274,Ar3),(276,Ge9),(283,Bn8),(285,Dx2),(286,Ei6),(287,A76),(288,Dt7),(289,B13),(290,Dj1),(291,Dd2),(292,Bw7),(293,Ah5),(294,Bp0),(295,Bf1),(296,Dk8),(297,Df7),(300,De4),(301,B25),(302,Dd1),(303,Ac0),(304,B66),(305,Dd8),(306,Bo6),(309,Ac7),(310,E49),(311,Ee0),(312,Dy5),(313,Ed1),(314,Aj8),(319,Ab0),(320,Q0),(321,Ag2),(322,Q1),(323,Bn6),(324,Ep1),(325,Er2),(326,Bp1),(327,E39),(328,E09),(329,Et8),(331,Al8),(332,Ay7),(333,A16),(336,A59),(337,B61),(338,Eh5),(339,Ec1),(340,E66)]
def cutsOf:FuncId→Cuts:=He1 Jn2
noncomputable abbrev A5:D9:=NN.Call PR cutsOf
noncomputable abbrev D8:Ah2:=NN.Jump PR cutsOf
abbrev fK (f:FuncId) (fn:Func) (C:Cuts) (T:List Item) (n:Nat):Prop:=FnOk PR cutsOf f fn C T n
theorem fM {f : FuncId} {fn : Func} {C : Cuts} {T : List Item} {n : Nat} (a : PR.funcs[f]? = some fn) (b : ∃ c, fn.body = some c := by exact ⟨_, rfl⟩) (c : (fn.name == "runtime.NumGoroutine") = false := by kernel_rfl) (d : cutsOf f = C := by exact rfl) (e : A4 fn = T := by exact rfl) (g : Nat.ble n fn.ntmps = true := by kernel_rfl) : fK f fn C T n := ⟨a, b, c, d, e, g⟩
theorem Bo1:fK D2 Tryz.f6 A63 Bo3 1:=fM Tryz.func6
theorem Do8:fK Ao5 Tryz.f8 Di9 Eh0 1:=fM Tryz.func8
theorem Hw1:fK Br3 Tryz.f9 D52 Ga3 0:=fM Tryz.func9
theorem Gw2:fK Bt7 Tryz.f10 Ep2 G13 2:=fM Tryz.func10
theorem Eo7:fK I5 Tryz.f13 Bf5 B88 2:=fM Tryz.func13
theorem B71:fK Ab9 Tryz.f15 Bh5 B64 1:=fM Tryz.func15
theorem Gb8:fK Ac1 Tryz.f17 Bv6 Dr9 1:=fM Tryz.func17
theorem Gy0:fK Af2 Tryz.f19 Eq4 Gy7 2:=fM Tryz.func19
theorem E78:fK Ao7 Tryz.f20 Bq5 Dp0 2:=fM Tryz.func20
theorem Ak4:fK E3 Tryz.f21 Ak8 Ax6 1:=fM Tryz.func21
theorem Gw1:fK Bt8 Tryz.f22 Et5 G00 3:=fM Tryz.func22
theorem Dy6:fK An2 Tryz.f23 Dx9 Ep8 2:=fM Tryz.func23
theorem Hx4:fK Db3 Tryz.f24 D35 Ga1 1:=fM Tryz.func24
theorem Hg2:fK Bq1 Tryz.f25 Ez1 Hb7 2:=fM Tryz.func25
theorem Gx1:fK A41 Tryz.f26 Eq8 Gy1 3:=fM Tryz.func26
theorem Hs4:fK Dh2 Tryz.f27 Gc7 Hs3 3:=fM Tryz.func27
theorem Hh8:fK B41 Tryz.f28 Ez0 Hc2 4:=fM Tryz.func28
theorem Hs2:fK Dh1 Tryz.f29 Gj6 Hu2 4:=fM Tryz.func29
theorem Hy6:fK Db0 Tryz.f30 D37 E91 0:=fM Tryz.func30
theorem H35:fK B19 Tryz.f33 Eh7 Gj4 1:=fM Tryz.func33
theorem Ie3:fK Dj5 Tryz.f34 Ed3 Gd5 0:=fM Tryz.func34
theorem B68:fK W3 Tryz.f35 Bh7 B76 1:=fM Tryz.func35
theorem Hk4:fK Ab3 Tryz.f36 Du2 Ev7 3:=fM Tryz.func36
theorem Hn7:fK A47 Tryz.f37 Dv3 Eu6 3:=fM Tryz.func37
theorem Hv8:fK Bt1 Tryz.f38 D32 E96 0:=fM Tryz.func38
theorem Gu6:fK Bg9 Tryz.f39 B63 D60 1:=fM Tryz.func39
theorem Im6:fK Ai5 Tryz.f40 Es9 Gz5 1:=fM Tryz.func40
theorem Et4:fK A39 Tryz.f41 Dy1 Eo9 1:=fM Tryz.func41
theorem A65:fK H6 Tryz.f42 Bi8 Bz5 2:=fM Tryz.func42
theorem Ig9:fK Aj0 Tryz.f43 Ep0 Gz6 2:=fM Tryz.func43
theorem Ea1:fK H0 Tryz.f44 A12 Bx3 3:=fM Tryz.func44
theorem A35:fK O8 Tryz.f50 Al2 A20 3:=fM Tryz.func50
theorem Hm8:fK A51 Tryz.f51 Dw4 Ev3 1:=fM Tryz.func51
theorem Hm9:fK Af4 Tryz.f52 Dw6 Eu8 1:=fM Tryz.func52
theorem Iw6:fK Bm8 Tryz.f53 E81 Hd4 1:=fM Tryz.func53
theorem E44:fK Ap8 Tryz.f54 D85 E31 1:=fM Tryz.func54
theorem Dl5:fK Ac6 Tryz.f62 Bw0 Dn1 2:=fM Tryz.func62
theorem Eg3:fK Aa5 Tryz.f64 Bp6 De6 2:=fM Tryz.func64
theorem U9:fK D4 Tryz.f67 Ab2 Ai3 1:=fM Tryz.func67
theorem Hn5:fK Bl2 Tryz.f68 Dv4 Ev4 3:=fM Tryz.func68
theorem Es1:fK Ab5 Tryz.f69 Bf6 B77 2:=fM Tryz.func69
theorem D51:fK Aj5 Tryz.f70 Dc5 D39 2:=fM Tryz.func70
theorem D30:fK N6 Tryz.f71 Az3 Bs6 2:=fM Tryz.func71
theorem Eh6:fK Ai6 Tryz.f72 Dm4 Ei8 2:=fM Tryz.func72
theorem Hz4:fK Bs7 Tryz.f73 D41 E93 2:=fM Tryz.func73
theorem Gu3:fK A01 Tryz.f74 B75 D59 1:=fM Tryz.func74
theorem Du0:fK Ag0 Tryz.f75 B30 Dv5 1:=fM Tryz.func75
theorem Iw2:fK J0 Tryz.f76 E42 Hi1 1:=fM Tryz.func76
theorem Ik3:fK B79 Tryz.f77 Er6 Gz1 2:=fM Tryz.func77
theorem D91:fK Af5 Tryz.f78 Ea4 E36 3:=fM Tryz.func78
theorem H72:fK Bj3 Tryz.f79 Eg2 Ge4 2:=fM Tryz.func79
theorem Ep9:fK L7 Tryz.f80 Bf0 Da3 2:=fM Tryz.func80
theorem If6:fK Bj5 Tryz.f81 Ed6 Gg4 2:=fM Tryz.func81
theorem Es4:fK Ab6 Tryz.f82 Bf3 Da1 2:=fM Tryz.func82
theorem Ea2:fK Ac9 Tryz.f83 A32 Bv8 3:=fM Tryz.func83
theorem Eb1:fK G9 Tryz.f84 A26 Bw5 3:=fM Tryz.func84
theorem Iz9:fK B38 Tryz.f85 E47 G97 2:=fM Tryz.func85
theorem Ii5:fK B87 Tryz.f86 Es5 Gw5 2:=fM Tryz.func86
theorem H70:fK B02 Tryz.f87 G64 H24 3:=fM Tryz.func87
theorem Iy0:fK Dp4 Tryz.f88 E05 Hc6 3:=fM Tryz.func88
theorem Ix2:fK Do4 Tryz.f89 E70 Hf5 4:=fM Tryz.func89
theorem D15:fK M7 Tryz.f90 Av9 Bm4 2:=fM Tryz.func90
theorem A74:fK M9 Tryz.f100 Bj1 B17 1:=fM Tryz.func100
theorem A06:fK J5 Tryz.f101 Bn5 B45 1:=fM Tryz.func101
theorem Au3:fK H4 Tryz.f102 A49 Bj7 1:=fM Tryz.func102
theorem Hw7:fK Dc0 Tryz.f103 D24 E98 2:=fM Tryz.func103
theorem Gh6:fK Bd1 Tryz.f104 B15 Dz0 2:=fM Tryz.func104
theorem Gt5:fK Bh2 Tryz.f105 B70 D58 3:=fM Tryz.func105
theorem Gk5:fK Bc2 Tryz.f106 By6 D16 3:=fM Tryz.func106
theorem E86:fK A05 Tryz.f108 Bq2 Dl9 5:=fM Tryz.func108
theorem Gl8:fK Bd2 Tryz.f117 B09 D17 1:=fM Tryz.func117
theorem Hk0:fK Bi1 Tryz.f118 Dw7 Ex6 1:=fM Tryz.func118
theorem Ej8:fK O0 Tryz.f119 A91 B60 4:=fM Tryz.func119
theorem Es0:fK V6 Tryz.f123 Bf2 B95 2:=fM Tryz.func123
theorem Hw8:fK Ay5 Tryz.f124 D45 Ga9 1:=fM Tryz.func124
theorem Hz2:fK Bs8 Tryz.f125 D23 E95 0:=fM Tryz.func125
theorem Dq9:fK Ad8 Tryz.f126 Aq7 Bg6 2:=fM Tryz.func126
theorem D42:fK Aj6 Tryz.f137 Az2 Br5 2:=fM Tryz.func137
theorem D40:fK Aj7 Tryz.f138 Az1 Bs0 2:=fM Tryz.func138
theorem Er0:fK Au6 Tryz.f143 Bg0 B97 1:=fM Tryz.func143
theorem Ej2:fK Ar7 Tryz.f144 A97 B59 1:=fM Tryz.func144
theorem H33:fK By1 Tryz.f145 Eg0 Gn4 3:=fM Tryz.func145
theorem Bt2:fK H7 Tryz.f146 Ay6 Br1 1:=fM Tryz.func146
theorem He2:fK Bd3 Tryz.f147 Dq1 En7 2:=fM Tryz.func147
theorem Ej0:fK Z9 Tryz.f148 A99 B56 2:=fM Tryz.func148
theorem In0:fK Dx5 Tryz.f149 Es2 Gz2 1:=fM Tryz.func149
theorem Ix9:fK Dj3 Tryz.f150 E19 Hh7 1:=fM Tryz.func150
theorem B03:fK Z5 Tryz.f151 Bc4 B07 1:=fM Tryz.func151
theorem Hn9:fK B48 Tryz.f152 Du4 Ex9 1:=fM Tryz.func152
theorem Dd0:fK Ae4 Tryz.f153 Bo5 Dg3 1:=fM Tryz.func153
theorem G74:fK Bn7 Tryz.f154 Dd5 Ed5 1:=fM Tryz.func154
theorem A57:fK H8 Tryz.f155 A69 Bq3 1:=fM Tryz.func155
theorem Hy1:fK Bs3 Tryz.f156 D34 Ga7 2:=fM Tryz.func156
theorem A17:fK O6 Tryz.f157 Am0 A28 3:=fM Tryz.func157
theorem Hm6:fK A48 Tryz.f158 Dv2 Ex8 1:=fM Tryz.func158
theorem Hn8:fK Ag1 Tryz.f159 Dt1 Ey4 1:=fM Tryz.func159
theorem A34:fK J7 Tryz.f160 Al6 A24 3:=fM Tryz.func160
theorem Hm0:fK A50 Tryz.f161 Dv9 Ex3 1:=fM Tryz.func161
theorem Hw2:fK Aa6 Tryz.f162 D50 E97 1:=fM Tryz.func162
theorem Hw9:fK Br8 Tryz.f163 D31 Ga0 1:=fM Tryz.func163
theorem Hj7:fK Bk6 Tryz.f164 Dt6 Ey0 1:=fM Tryz.func164
theorem A70:fK I8 Tryz.f165 An6 A71 2:=fM Tryz.func165
theorem Bz2:fK Aa8 Tryz.f190 B16 Dn2 1:=fM Tryz.func190
theorem Hz6:fK Bt4 Tryz.f191 D47 Ga5 1:=fM Tryz.func191
theorem Ef0:fK Ae9 Tryz.f192 A72 By0 1:=fM Tryz.func192
theorem I31:fK Ek8 Tryz.f193 Gk2 Hu3 1:=fM Tryz.func193
theorem E79:fK Be1 Tryz.f194 Ea5 E01 1:=fM Tryz.func194
theorem Er4:fK A45 Tryz.f195 Dy3 Et2 1:=fM Tryz.func195
theorem Ic8:fK Dl4 Tryz.f196 Ei1 Gm1 2:=fM Tryz.func196
theorem It5:fK Ea8 Tryz.f197 E24 He9 1:=fM Tryz.func197
theorem E02:fK A25 Tryz.f198 Bo4 Dq0 3:=fM Tryz.func198
theorem Bv4:fK W2 Tryz.f199 A83 Bv1 2:=fM Tryz.func199
theorem G22:fK Bn0 Tryz.f200 Dd3 Eh2 3:=fM Tryz.func200
theorem Dj4:fK Ah3 Tryz.f201 Bw9 Dk5 1:=fM Tryz.func201
theorem Bz7:fK U2 Tryz.f202 Ba8 B20 2:=fM Tryz.func202
theorem Do3:fK Ah8 Tryz.f203 Bw1 Dp3 1:=fM Tryz.func203
theorem Hk7:fK B39 Tryz.f204 Dw2 Eu3 1:=fM Tryz.func204
theorem Gi2:fK Bb3 Tryz.f205 B23 D07 3:=fM Tryz.func205
theorem Gn5:fK Bm5 Tryz.f206 El1 Gd6 2:=fM Tryz.func206
theorem G20:fK Bp9 Tryz.f207 De2 Ed8 3:=fM Tryz.func207
theorem Gt9:fK Az4 Tryz.f208 B62 D62 1:=fM Tryz.func208
theorem Gi3:fK Av8 Tryz.f209 Bx7 D08 2:=fM Tryz.func209
theorem G85:fK Bn3 Tryz.f210 Df6 Ef3 2:=fM Tryz.func210
theorem Ew4:fK Ak7 Tryz.f211 Bl0 Dh0 5:=fM Tryz.func211
theorem Ep7:fK Ai7 Tryz.f212 Bf8 B94 5:=fM Tryz.func212
theorem Ew0:fK Ay3 Tryz.f213 Bj8 Di5 7:=fM Tryz.func213
theorem Ge6:fK Be0 Tryz.f214 B18 Dz4 7:=fM Tryz.func214
theorem Gb4:fK A78 Tryz.f216 Bu6 Ds3 2:=fM Tryz.func216
theorem Gk1:fK Ba7 Tryz.f217 B11 Dz9 3:=fM Tryz.func217
theorem Gt4:fK Bh9 Tryz.f218 B73 D56 3:=fM Tryz.func218
theorem Gt8:fK Bh4 Tryz.f219 B65 D57 3:=fM Tryz.func219
theorem E34:fK A07 Tryz.f220 Bq4 Do2 6:=fM Tryz.func220
theorem G76:fK Bp7 Tryz.f221 Dd9 Ee4 3:=fM Tryz.func221
theorem G37:fK At1 Tryz.f222 Dd4 Ef9 2:=fM Tryz.func222
theorem Hz5:fK Aq6 Tryz.f223 D46 Gb0 3:=fM Tryz.func223
theorem G43:fK Bq7 Tryz.f224 Dc7 Ed9 3:=fM Tryz.func224
theorem Dr4:fK Ad6 Tryz.f231 Aq9 Bg7 2:=fM Tryz.func231
theorem Ej1:fK Aa0 Tryz.f232 A96 B57 2:=fM Tryz.func232
theorem Da7:fK Z1 Tryz.f233 Ai2 A43 2:=fM Tryz.func233
theorem Hb3:fK Ap3 Tryz.f234 Dl8 Em8 1:=fM Tryz.func234
theorem E45:fK A21 Tryz.f235 Bp4 Dn6 3:=fM Tryz.func235
theorem I9:fK V4 Tryz.f236 Bu1 B91 2:=fM Tryz.func236
theorem U7:fK Af1 Tryz.f237 B90 Dy2 1:=fM Tryz.func237
theorem Bp3:fK Aa2 Tryz.f247 A31 Bo7 3:=fM Tryz.func247
theorem Gt7:fK W4 Tryz.f248 B69 D55 1:=fM Tryz.func248
theorem P2:fK D3 Tryz.f249 P3 Y1 1:=fM Tryz.func249
theorem At3:fK G4 Tryz.f250 Af3 As5 2:=fM Tryz.func250
theorem Au4:fK G5 Tryz.f251 Af6 At0 2:=fM Tryz.func251
theorem Au0:fK E9 Tryz.f252 Af7 At5 2:=fM Tryz.func252
theorem A95:fK J6 Tryz.f253 Ar9 A94 2:=fM Tryz.func253
theorem Bl8:fK Q3 Tryz.f254 Ax7 Bj6 5:=fM Tryz.func254
theorem Bj2:fK Q2 Tryz.f255 Ax8 Bl6 5:=fM Tryz.func255
theorem Bl4:fK N4 Tryz.f256 Ax9 Bi2 5:=fM Tryz.func256
theorem Df0:fK Ae5 Tryz.f257 Bq0 De0 5:=fM Tryz.func257
theorem Dp1:fK Ad1 Tryz.f258 An9 Bd6 2:=fM Tryz.func258
theorem Bl9:fK O2 Tryz.f259 Z4 An1 2:=fM Tryz.func259
theorem G88:fK A54 Tryz.f260 Df2 Ec9 2:=fM Tryz.func260
theorem Am6:fK E2 Tryz.f261 Am5 A86 2:=fM Tryz.func261
theorem Gd3:fK Av7 Tryz.f262 By8 D04 2:=fM Tryz.func262
theorem Dq2:fK U4 Tryz.f263 Ao3 Bb5 2:=fM Tryz.func263
theorem Az6:fK I0 Tryz.f264 A04 Bg8 2:=fM Tryz.func264
theorem Bm2:fK O1 Tryz.f265 Z3 Am8 2:=fM Tryz.func265
theorem Gj7:fK Aw2 Tryz.f266 Bz9 Dz6 2:=fM Tryz.func266
theorem Im9:fK Da4 Tryz.f267 Eq3 Gz7 1:=fM Tryz.func267
theorem Do9:fK S8 Tryz.f268 Ap2 Bc0 2:=fM Tryz.func268
theorem Hz1:fK Bs1 Tryz.f269 D28 Ga2 0:=fM Tryz.func269
theorem Dr2:fK Ae0 Tryz.f270 Ar1 Bg1 2:=fM Tryz.func270
theorem H76:fK Bz4 Tryz.f271 Ef6 Gl0 0:=fM Tryz.func271
theorem Dq7:fK Ad9 Tryz.f272 Ar2 Bg2 2:=fM Tryz.func272
theorem Dr1:fK Ad5 Tryz.f273 Ar0 Bg4 2:=fM Tryz.func273
theorem Dr0:fK Ae1 Tryz.f274 Ar3 Bg5 2:=fM Tryz.func274
theorem I25:fK El4 Tryz.f276 Ge9 Hu6 1:=fM Tryz.func276
theorem E76:fK A30 Tryz.f283 Bn8 Do7 1:=fM Tryz.func283
theorem Hk9:fK I2 Tryz.f285 Dx2 Ey2 2:=fM Tryz.func285
theorem Ia4:fK Dj2 Tryz.f286 Ei6 Gi7 2:=fM Tryz.func286
theorem Bv0:fK W0 Tryz.f287 A76 Bu9 1:=fM Tryz.func287
theorem Hm4:fK Bl3 Tryz.f288 Dt7 Eu1 1:=fM Tryz.func288
theorem Gf7:fK Aw3 Tryz.f289 B13 D01 1:=fM Tryz.func289
theorem Hi7:fK Ap1 Tryz.f290 Dj1 Ek4 2:=fM Tryz.func290
theorem G33:fK A55 Tryz.f291 Dd2 Eh4 3:=fM Tryz.func291
theorem Dm8:fK Ah4 Tryz.f292 Bw7 Dk4 1:=fM Tryz.func292
theorem Aw8:fK H2 Tryz.f293 Ah5 Aw4 1:=fM Tryz.func293
theorem Dc9:fK Aa1 Tryz.f294 Bp0 De9 1:=fM Tryz.func294
theorem Es6:fK Aj2 Tryz.f295 Bf1 B81 6:=fM Tryz.func295
theorem Hj4:fK Bx1 Tryz.f296 Dk8 En8 3:=fM Tryz.func296
theorem G70:fK A58 Tryz.f297 Df7 Eh1 3:=fM Tryz.func297
theorem G46:fK At6 Tryz.f300 De4 Ec2 2:=fM Tryz.func300
theorem Gl3:fK Bb4 Tryz.f301 B25 D18 3:=fM Tryz.func301
theorem G89:fK A62 Tryz.f302 Dd1 Ef1 3:=fM Tryz.func302
theorem Ag8:fK D1 Tryz.f303 Ac0 Ah0 3:=fM Tryz.func303
theorem Gu9:fK Bh0 Tryz.f304 B66 D66 3:=fM Tryz.func304
theorem G81:fK Bn1 Tryz.f305 Dd8 Ee2 2:=fM Tryz.func305
theorem Dc8:fK Af0 Tryz.f306 Bo6 Df1 1:=fM Tryz.func306
theorem An8:fK H3 Tryz.f309 Ac7 Aq0 2:=fM Tryz.func309
theorem I02:fK D99 Tryz.f310 E49 G98 1:=fM Tryz.func310
theorem H60:fK B27 Tryz.f311 Ee0 Gn6 3:=fM Tryz.func311
theorem Er3:fK Ai9 Tryz.f312 Dy5 Ep3 1:=fM Tryz.func312
theorem H66:fK Dj9 Tryz.f313 Ed1 Gi8 2:=fM Tryz.func313
theorem Ay4:fK D5 Tryz.f314 Aj8 Ay8 2:=fM Tryz.func314
theorem A88:fK M0 Tryz.f319 Ab0 Am7 2:=fM Tryz.func319
theorem Ac2:fK E1 Tryz.f320 Q0 Ac5 2:=fM Tryz.func320
theorem G6:fK D6 Tryz.f321 Ag2 Au1 2:=fM Tryz.func321
theorem Ac4:fK E0 Tryz.f322 Q1 Ac3 2:=fM Tryz.func322
theorem E38:fK A13 Tryz.f323 Bn6 Dl0 3:=fM Tryz.func323
theorem If9:fK A42 Tryz.f324 Ep1 Gx6 2:=fM Tryz.func324
theorem Ij0:fK A37 Tryz.f325 Er2 G08 1:=fM Tryz.func325
theorem Ez3:fK A08 Tryz.f326 Bp1 Dk2 3:=fM Tryz.func326
theorem Iv4:fK B47 Tryz.f327 E39 Hb1 2:=fM Tryz.func327
theorem Is7:fK B53 Tryz.f328 E09 He7 1:=fM Tryz.func328
theorem Ih0:fK A38 Tryz.f329 Et8 Gx5 2:=fM Tryz.func329
theorem A14:fK J9 Tryz.f331 Al8 A10 2:=fM Tryz.func331
theorem D27:fK S5 Tryz.f332 Ay7 Bt5 2:=fM Tryz.func332
theorem D93:fK Al5 Tryz.f333 A16 Bv7 2:=fM Tryz.func333
theorem Eg6:fK Ap5 Tryz.f336 A59 B10 2:=fM Tryz.func336
theorem Gv0:fK Bh1 Tryz.f337 B61 D53 3:=fM Tryz.func337
theorem H56:fK Aw0 Tryz.f338 Eh5 Go3 2:=fM Tryz.func338
theorem Id0:fK By3 Tryz.f339 Ec1 Gn3 1:=fM Tryz.func339
theorem Iu2:fK D95 Tryz.f340 E66 Hh3 1:=fM Tryz.func340
end
end Go.EQ

namespace Go.EQ
open Go Go.NN Go.Proofs
theorem Hz9:type_of% Tryz.underlying3:=Tryz.underlying3
theorem J02:type_of% Tryz.underlying4:=Tryz.underlying4
theorem Gi1:type_of% Tryz.underlying65:=Tryz.underlying65
theorem Is3:type_of% Tryz.underlying66:=Tryz.underlying66
end Go.EQ
