/- Honest calls keep sound commons sound, whatever is called; no conditions. -/
import Derived.Test.YtoegoalficgneaaGreatMd
import Derived.KernelRfl
set_option linter.all false
set_option maxRecDepth 100000
namespace Go.EQ
open Go Go.NN Go.Proofs
variable (C:E0) (R:Ai7)
noncomputable section
def Ay3:Cuts:=⟨0,[(5,[0,3,4,7])],[(18,[0,3,4,7])],[]⟩
def Bg0:List Item:=A5 Tryz.f5
def A07:List Item:=stk [0,1,0,1,0,1,0,0,1,4,5] Bg0
def Z5:List Item:=stk [0,1,0,1,0,1,0,0,1,4,5,6,0,1,0,4,0,1,0,1,0] Bg0
theorem Gr1 (l:Option Addr) (ln lc:Nat) (h:H) :
 A4 PR Ay3 C R D5 Tryz.f5 100000 true Bg0 [(0,.slice l ln lc)] h =
 bnd (C Bp9 [] h) fun r w=>aSl r fun x xn xc=>bnd (C Ao2 [.slice x xn xc] w) fun q1 w1=>as4 q1 fun q2 q3 q4 q5=>aPtr q2 fun z1=>aPtr q3 fun z2=>aPtr q4 fun _=>aPtr q5 fun _=>bnd (cond z2.isNone (some (true,w1)) (bnd (C Ab4 [.pointer z1] w1) fun q6 w2=>aPtr q6 fun z5=>some (z5.isNone,w2))) fun c w3=>cond c
 (some (.bool false,w3))
 (R D5 A07 [(0,.slice l ln lc),(3,.pointer z1),(4,.pointer z2),(7,.int .i64 0)] w3):=by kernel_rfl
theorem Dl3 (l:Option Addr) (ln lc:Nat) (k:Option Addr) (c:Option Addr) (i:Int) (h:H) :
 A4 PR Ay3 C R D5 Tryz.f5 100000 true A07 [(0,.slice l ln lc),(3,.pointer k),(4,.pointer c),(7,.int .i64 i)] h =
 bnd (cond (decide (i<(ln:Int))) (some (decide (i<60),h)) (some (false,h))) fun c_1 w=>cond c_1
 (aSome l fun p=>ck ((0:Int)≤i∧i<(ln:Int)) (gAgg (Addr.add (B3 p) (Int.toNat i*4)) 4 w fun x=>nw (.cells Dm1 false [.int .i64 0,.int .i64 0,.int .i64 0,.int .i64 0]) w fun b w1=>ck (List.length x=4) (pAgg ⟨b,0,none⟩ x w1 fun w2=>gInt .i64 ⟨b,0,none⟩ w2 fun z1=>cond (z1==0)
 (gInt .i64 ⟨b,1,none⟩ w2 fun z2=>bnd (C Bd5 [.pointer c,.int .i64 z2] w2) fun r w3=>aAgg r fun _=>R D5 Z5 [(0,.slice l ln lc),(3,.pointer k),(4,.pointer c),(7,.int .i64 i)] w3)
 (cond (z1==1)
 (gInt .i64 ⟨b,1,none⟩ w2 fun z4=>gInt .i64 ⟨b,2,none⟩ w2 fun z5=>bnd (C Bs3 [.pointer c,.int .i64 z4,.int .i64 z5] w2) fun q1 w4=>aAgg q1 fun _=>R D5 Z5 [(0,.slice l ln lc),(3,.pointer k),(4,.pointer c),(7,.int .i64 i)] w4)
 (cond (z1==2)
 (gInt .i64 ⟨b,1,none⟩ w2 fun z7=>bnd (C Ae1 [.pointer c,.int .i64 z7] w2) fun q2 w5=>aAgg q2 fun _=>R D5 Z5 [(0,.slice l ln lc),(3,.pointer k),(4,.pointer c),(7,.int .i64 i)] w5)
 (cond (z1==3)
 (gInt .i64 ⟨b,1,none⟩ w2 fun z9=>gInt .i64 ⟨b,2,none⟩ w2 fun z10=>gInt .i64 ⟨b,3,none⟩ w2 fun z11=>bnd (C Am5 [.pointer c,.int .i64 z9,.int .i64 z10,.int .i64 z11] w2) fun q3 w6=>aAgg q3 fun _=>R D5 Z5 [(0,.slice l ln lc),(3,.pointer k),(4,.pointer c),(7,.int .i64 i)] w6)
 (gInt .i64 ⟨b,1,none⟩ w2 fun z13=>gInt .i64 ⟨b,2,none⟩ w2 fun z14=>gInt .i64 ⟨b,3,none⟩ w2 fun z15=>bnd (C Bj2 [.pointer c,.int .i64 z13,.int .i64 z14,.int .i64 z15] w2) fun q4 w7=>aAgg q4 fun _=>R D5 Z5 [(0,.slice l ln lc),(3,.pointer k),(4,.pointer c),(7,.int .i64 i)] w7)))))))
 (bnd (C B92 [] w) fun q5 w8=>aBool q5 fun z17=>some (.bool z17,w8)):=by kernel_rfl
theorem E31 (l:Option Addr) (ln lc:Nat) (k:Option Addr) (c:Option Addr) (i:Int) (h:H) :
 A4 PR Ay3 C R D5 Tryz.f5 100000 true Z5 [(0,.slice l ln lc),(3,.pointer k),(4,.pointer c),(7,.int .i64 i)] h =
 bnd (C Ab4 [.pointer k] h) fun r w=>aPtr r fun x=>bnd (C An5 [.pointer x,.int .i64 0] w) fun q1 w1=>as2 q1 fun q2 q3=>aSl q2 fun z1 xn xc=>aInt .i64 q3 fun z2=>bnd (cond (z2 != 0) (some (true,w1)) (bnd (C Da5 [.slice z1 xn xc] w1) fun q4 w2=>aBool q4 fun z3=>some (!z3,w2))) fun c_1 w3=>bnd (cond c_1 (some (true,w3)) (bnd (C E4 [.pointer c] w3) fun q5 w4=>aSl q5 fun _ xn_1 _=>some ((xn_1:Int) != 0,w4))) fun c_2 w5=>cond c_2
 (some (.bool false,w5))
 (R D5 A07 [(0,.slice l ln lc),(3,.pointer k),(4,.pointer c),(7,.int .i64 (IntKind.wrap .i64 (i+1)))] w5):=by kernel_rfl
def Es0:Cuts:=⟨0,[],[],[]⟩
def Gv5:List Item:=A5 Tryz.f10
theorem Gx8 (c:Option Addr) (i:Int) (h:H) :
 A4 PR Es0 C R Bd5 Tryz.f10 100000 true Gv5 [(0,.pointer c),(1,.int .i64 i)] h =
 nw (.cells Ag9 false [.int .i64 0,.int .i64 0,.slice none 0 0,.bool false]) h fun b w=>bnd (C Am4 [.pointer c,.int .i64 i] w) fun r w1=>as2 r fun q1 q2=>aAgg q1 fun x=>aInt .i64 q2 fun z1=>nw (.cells A7 false zz1) w1 fun p1 w2=>ck (List.length x=16) (pAgg ⟨p1,0,none⟩ x w2 fun w3=>cond (z1 != 0)
 (bnd (C L5 [.int .i64 z1] w3) fun q3 w4=>aAgg q3 fun z2=>ck (List.length z2=4) (pAgg ⟨b,0,none⟩ z2 w4 fun w5=>gAgg ⟨b,0,none⟩ 4 w5 fun z3=>some (.agg ⟨z3⟩,w5)))
 (bnd (C A29 [.pointer c] w3) fun q4 w6=>aInt .i64 q4 fun z4=>cond (decide (z4<0))
 (bnd (C L5 [.int .i64 111] w6) fun q5 w7=>aAgg q5 fun z5=>ck (List.length z5=4) (pAgg ⟨b,0,none⟩ z5 w7 fun w8=>gAgg ⟨b,0,none⟩ 4 w8 fun z6=>some (.agg ⟨z6⟩,w8)))
 (gAgg ⟨p1,0,none⟩ 16 w6 fun z7=>bnd (C H5 [.pointer c,.agg ⟨z7⟩] w6) fun q6 w9=>aInt .i64 q6 fun z8=>cond (z8 != 0)
 (bnd (C L5 [.int .i64 z8] w9) fun q7 w10=>aAgg q7 fun z9=>ck (List.length z9=4) (pAgg ⟨b,0,none⟩ z9 w10 fun w11=>gAgg ⟨b,0,none⟩ 4 w11 fun z10=>some (.agg ⟨z10⟩,w11)))
 (pV ⟨p1,1,none⟩ (.int .i64 (IntKind.wrap .i64 (i+1))) w9 fun w12=>pV ⟨p1,4,none⟩ (.int .i64 0) w12 fun w13=>gAgg ⟨p1,0,none⟩ 16 w13 fun z11=>bnd (C I3 [.pointer c,.int .i64 z4,.agg ⟨z11⟩] w13) fun q8 w14=>aBool q8 fun z12=>bnd (C Ae3 [.bool z12,.int .i64 z4] w14) fun q9 w15=>aAgg q9 fun z13=>ck (List.length z13=4) (pAgg ⟨b,0,none⟩ z13 w15 fun w16=>gAgg ⟨b,0,none⟩ 4 w16 fun z14=>some (.agg ⟨z14⟩,w16)))))):=by kernel_rfl
def Ef0:Cuts:=⟨0,[],[],[]⟩
def Ge1:List Item:=A5 Tryz.f11
theorem Gl8 (c:Option Addr) (i:Int) (target:Int) (g:Int) (h:H) :
 A4 PR Ef0 C R Bj2 Tryz.f11 100000 true Ge1 [(0,.pointer c),(1,.int .i64 i),(2,.int .i64 target),(3,.int .i64 g)] h =
 nw (.cells Ag9 false [.int .i64 0,.int .i64 0,.slice none 0 0,.bool false]) h fun b w=>bnd (C Am4 [.pointer c,.int .i64 i] w) fun r w1=>as2 r fun q1 q2=>aAgg q1 fun x=>aInt .i64 q2 fun z1=>nw (.cells A7 false zz1) w1 fun p1 w2=>ck (List.length x=16) (pAgg ⟨p1,0,none⟩ x w2 fun w3=>cond (z1 != 0)
 (bnd (C L5 [.int .i64 z1] w3) fun q3 w4=>aAgg q3 fun z2=>ck (List.length z2=4) (pAgg ⟨b,0,none⟩ z2 w4 fun w5=>gAgg ⟨b,0,none⟩ 4 w5 fun z3=>some (.agg ⟨z3⟩,w5)))
 (bnd (C Bk1 [.int .i64 target] w3) fun q4 w6=>aBool q4 fun z4=>bnd (cond (!z4) (some (true,w6)) (bnd (C Bk1 [.int .i64 g] w6) fun q5 w7=>aBool q5 fun z5=>some (!z5,w7))) fun c_1 w8=>cond c_1
 (bnd (C L5 [.int .i64 122] w8) fun q6 w9=>aAgg q6 fun z6=>ck (List.length z6=4) (pAgg ⟨b,0,none⟩ z6 w9 fun w10=>gAgg ⟨b,0,none⟩ 4 w10 fun z7=>some (.agg ⟨z7⟩,w10)))
 (bnd (C Dn6 [.pointer c,.int .i64 i,.int .i64 target] w8) fun q7 w11=>as2 q7 fun q8 q9=>aAgg q8 fun z8=>aInt .i64 q9 fun z9=>nw (.cells A7 false zz1) w11 fun p2 w12=>ck (List.length z8=16) (pAgg ⟨p2,0,none⟩ z8 w12 fun w13=>cond (z9 != 0)
 (bnd (C L5 [.int .i64 z9] w13) fun q10 w14=>aAgg q10 fun z10=>ck (List.length z10=4) (pAgg ⟨b,0,none⟩ z10 w14 fun w15=>gAgg ⟨b,0,none⟩ 4 w15 fun z11=>some (.agg ⟨z11⟩,w15)))
 (bnd (cond (g != target) (bnd (C D74 [.pointer c,.int .i64 g] w13) fun q11 w16=>aBool q11 fun z12=>some (!z12,w16)) (some (false,w13))) fun c_2 w17=>cond c_2
 (bnd (C L5 [.int .i64 101] w17) fun q12 w18=>aAgg q12 fun z13=>ck (List.length z13=4) (pAgg ⟨b,0,none⟩ z13 w18 fun w19=>gAgg ⟨b,0,none⟩ 4 w19 fun z14=>some (.agg ⟨z14⟩,w19)))
 (pV ⟨p2,2,none⟩ (.int .i64 g) w17 fun w20=>gAgg ⟨p2,0,none⟩ 16 w20 fun z15=>bnd (C I3 [.pointer c,.int .i64 target,.agg ⟨z15⟩] w20) fun q13 w21=>aBool q13 fun z16=>bnd (C Ae3 [.bool z16,.int .i64 0] w21) fun q14 w22=>aAgg q14 fun z17=>ck (List.length z17=4) (pAgg ⟨b,0,none⟩ z17 w22 fun w23=>gAgg ⟨b,0,none⟩ 4 w23 fun z18=>some (.agg ⟨z18⟩,w23)))))))):=by kernel_rfl
def Bg5:Cuts:=⟨0,[(4,[1,3,4])],[],[(2,⟨[0,1,2,5,6,9,10,13,14,3,4,7,8,11,12,15,16,17],[0,0,2,6,15,0,32,110,255,0,512,1774,4095,0,8192,28398,65535,131071],[(3,[6,10,14]),(7,[10,14]),(11,[14])],[]⟩)]⟩
def B49:List Item:=A5 Tryz.f15
def A17:List Item:=stk [0,1,0,1,0,1,0,0,1,4,5] B49
theorem Gs0 (p:List Value) (h:H) :
 A4 PR Bg5 C R Aa9 Tryz.f15 100000 true B49 [(0,.agg ⟨p⟩)] h =
 nw (.cells A7 false p) h fun b w=>gInt .i64 ⟨b,0,none⟩ w fun x=>gInt .i64 ⟨b,1,none⟩ w fun z1=>gInt .i64 ⟨b,2,none⟩ w fun z2=>gInt .i64 ⟨b,3,none⟩ w fun z3=>nw (.cells A3 false [.int .u8 (IntKind.wrap .u8 (x)),.int .u8 (IntKind.wrap .u8 (z1)),.int .u8 (IntKind.wrap .u8 (z2)),.int .u8 (IntKind.wrap .u8 (z3))]) w fun p1 w1=>gCells (some ⟨p1,0,none⟩) 4 w1 fun cs=>asBytes cs fun l=>gInt .i64 ⟨b,4,none⟩ w1 fun z4=>gInt .i64 ⟨b,5,none⟩ w1 fun z5=>gInt .i64 ⟨b,6,none⟩ w1 fun z6=>gInt .i64 ⟨b,7,none⟩ w1 fun z7=>bnd (C Bn8 [.int .i64 z4] w1) fun r w2=>aStr r fun z8=>gInt .i64 ⟨b,5,none⟩ w2 fun z9=>same (.int .i64 z5) (.int .i64 z9) (gInt .i64 ⟨b,6,none⟩ w2 fun z10=>same (.int .i64 z6) (.int .i64 z10) (gInt .i64 ⟨b,7,none⟩ w2 fun z11=>same (.int .i64 z7) (.int .i64 z11) (ck (ByteArray.size (ByteArray.mk ⟨l⟩)+ByteArray.size z8≤A9) (bnd (C Bn8 [.int .i64 z5] w2) fun q1 w3=>aStr q1 fun z12=>gInt .i64 ⟨b,6,none⟩ w3 fun z13=>same (.int .i64 z6) (.int .i64 z13) (gInt .i64 ⟨b,7,none⟩ w3 fun z14=>same (.int .i64 z7) (.int .i64 z14) (ck (ByteArray.size ((ByteArray.mk ⟨l⟩)++z8)+ByteArray.size z12≤A9) (bnd (C Bn8 [.int .i64 z6] w3) fun q2 w4=>aStr q2 fun z15=>gInt .i64 ⟨b,7,none⟩ w4 fun z16=>same (.int .i64 z7) (.int .i64 z16) (ck (ByteArray.size (((ByteArray.mk ⟨l⟩)++z8)++z12)+ByteArray.size z15≤A9) (bnd (C Bn8 [.int .i64 z7] w4) fun q3 w5=>aStr q3 fun z17=>ck (ByteArray.size ((((ByteArray.mk ⟨l⟩)++z8)++z12)++z15)+ByteArray.size z17≤A9) (R Aa9 A17 [(1,.pointer (some ⟨b,0,none⟩)),(3,.string (((((ByteArray.mk ⟨l⟩)++z8)++z12)++z15)++z17)),(4,.int .i64 0)] w5)))))))))):=by kernel_rfl
theorem Dh8 (p:Addr) (s:ByteArray) (i:Int) (h:H) :
 A4 PR Bg5 C R Aa9 Tryz.f15 100000 true A17 [(1,.pointer (some p)),(3,.string s),(4,.int .i64 i)] h =
 cond (decide (i<8))
 (ck ((0:Int)≤i∧i<((8:Nat):Int)) (gInt .i64 (Addr.add (Addr.add p 8) (Int.toNat i*1)) h fun x=>nw (.cells A3 false [.int .u8 (IntKind.wrap .u8 (x))]) h fun b w=>gCells (some ⟨b,0,none⟩) 1 w fun cs=>asBytes cs fun l=>ck (ByteArray.size s+ByteArray.size (ByteArray.mk ⟨l⟩)≤A9) (R Aa9 A17 [(1,.pointer (some p)),(3,.string (s++(ByteArray.mk ⟨l⟩))),(4,.int .i64 (IntKind.wrap .i64 (i+1)))] w)))
 (ck (ByteArray.size s+ByteArray.size (ByteArray.mk ⟨[167]⟩)≤A9) (bnd (C Ap0 [.string (s++(ByteArray.mk ⟨[167]⟩))] h) fun r w1=>aInt .u8 r fun z1=>nw (.cells A3 false [.int .u8 z1,.int .u8 0,.int .u8 0]) w1 fun p1 w2=>gCells (some ⟨p1,0,none⟩) 3 w2 fun cs_1=>asBytes cs_1 fun l_1=>ck (ByteArray.size (s++(ByteArray.mk ⟨[167]⟩))+ByteArray.size (ByteArray.mk ⟨l_1⟩)≤A9) (some (.string ((s++(ByteArray.mk ⟨[167]⟩))++(ByteArray.mk ⟨l_1⟩)),w2)))):=by kernel_rfl
def Dw2:Cuts:=⟨0,[(6,[0,4,7,23,24,25])],[],[(9,⟨[0,1,2,4,5,6,7,8,9,10,3,11,12],[0,0,2,7,0,16,48,0,128,384,1008,2047,4095],[(3,[5,9])],[]⟩)]⟩
def Eo3:List Item:=A5 Tryz.f23
def B25:List Item:=stk [0,1,0,1,0,1,0,0,1,4,5] Eo3
theorem Gy5 (c:Option Addr) (i:Int) (h:H) :
 A4 PR Dw2 C R Ae1 Tryz.f23 100000 true Eo3 [(0,.pointer c),(1,.int .i64 i)] h =
 nw (.cells A8 false [.int .i64 i]) h fun b w=>nw (.cells Ag9 false [.int .i64 0,.int .i64 0,.slice none 0 0,.bool false]) w fun p1 w1=>gInt .i64 ⟨b,0,none⟩ w1 fun x=>bnd (C Am4 [.pointer c,.int .i64 x] w1) fun r w2=>as2 r fun q1 q2=>aAgg q1 fun z1=>aInt .i64 q2 fun z2=>nw (.cells A7 false zz1) w2 fun p2 w3=>ck (List.length z1=16) (pAgg ⟨p2,0,none⟩ z1 w3 fun w4=>cond (z2 != 0)
 (bnd (C L5 [.int .i64 z2] w4) fun q3 w5=>aAgg q3 fun z3=>ck (List.length z3=4) (pAgg ⟨p1,0,none⟩ z3 w5 fun w6=>gAgg ⟨p1,0,none⟩ 4 w6 fun z4=>some (.agg ⟨z4⟩,w6)))
 (bnd (C Z6 [.pointer c,.func (.func Br2) ⟨[]⟩ ⟨[.pointer (some ⟨b,0,none⟩)]⟩] w4) fun q4 w7=>aSl q4 fun z5 xn xc=>R Ae1 B25 [(0,.pointer c),(4,.pointer (some ⟨p1,0,none⟩)),(7,.slice z5 xn xc),(23,.slice z5 xn xc),(24,.int .i64 (xn:Int)),(25,.int .i64 0)] w7)):=by kernel_rfl
theorem Ex2 (c:Option Addr) (x4:Addr) (l:Option Addr) (ln lc:Nat) (x23:Option Addr) (x23n x23c:Nat) (x24:Int) (x25:Int) (h:H) :
 A4 PR Dw2 C R Ae1 Tryz.f23 100000 true B25 [(0,.pointer c),(4,.pointer (some x4)),(7,.slice l ln lc),(23,.slice x23 x23n x23c),(24,.int .i64 x24),(25,.int .i64 x25)] h =
 cond (decide (x25<x24))
 (aSome x23 fun p=>ck ((0:Int)≤x25∧x25<(x23n:Int)) (gAgg (Addr.add (B3 p) (Int.toNat x25*17)) 17 h fun x=>nw (.cells G9 false zz2) h fun b w=>ck (List.length x=17) (pAgg ⟨b,0,none⟩ x w fun w1=>gAgg ⟨b,0,none⟩ 17 w1 fun z1=>bnd (C Ag3 [.agg ⟨z1⟩] w1) fun r w2=>aBool r fun z2=>cond (!z2)
 (gInt .i64 ⟨b,0,none⟩ w2 fun z3=>gInt .i64 ⟨b,0,none⟩ w2 fun z4=>gInt .i64 ⟨b,4,none⟩ w2 fun z5=>bnd (C N3 [.pointer c,.int .i64 z3] w2) fun q1 w3=>aBool q1 fun z6=>gInt .i64 ⟨b,0,none⟩ w3 fun z7=>same (.int .i64 z4) (.int .i64 z7) (gInt .i64 ⟨b,4,none⟩ w3 fun z8=>same (.int .i64 z5) (.int .i64 z8) (bnd (C Ae3 [.bool z6,.int .i64 (IntKind.wrap .i64 ((IntKind.wrap .i64 (256*z4))+z5))] w3) fun q2 w4=>aAgg q2 fun z9=>ck (List.length z9=4) (pAgg x4 z9 w4 fun w5=>gAgg x4 4 w5 fun z10=>some (.agg ⟨z10⟩,w5)))))
 (R Ae1 B25 [(0,.pointer c),(4,.pointer (some x4)),(7,.slice l ln lc),(23,.slice x23 x23n x23c),(24,.int .i64 x24),(25,.int .i64 (IntKind.wrap .i64 (x25+1)))] w2))))
 (cond ((ln:Int)==0)
 (bnd (C L5 [.int .i64 110] h) fun q3 w6=>aAgg q3 fun z11=>ck (List.length z11=4) (pAgg x4 z11 w6 fun w7=>gAgg x4 4 w7 fun z12=>some (.agg ⟨z12⟩,w7)))
 (pAgg x4 [.int .i64 0,.int .i64 0,.slice none 0 0,.bool true] h fun w8=>gAgg x4 4 w8 fun z13=>some (.agg ⟨z13⟩,w8))):=by kernel_rfl
def Bg3:Cuts:=⟨0,[(4,[1,3,4])],[],[]⟩
def B54:List Item:=A5 Tryz.f35
def A03:List Item:=stk [0,1,0,1,0,1,0,0,1,4,5] B54
theorem Gt6 (p:List Value) (h:H) :
 A4 PR Bg3 C R V7 Tryz.f35 100000 true B54 [(0,.agg ⟨p⟩)] h =
 nw (.cells D9 false p) h fun b w=>gInt .i64 ⟨b,0,none⟩ w fun x=>gInt .i64 ⟨b,1,none⟩ w fun z1=>gInt .i64 ⟨b,2,none⟩ w fun z2=>gInt .i64 ⟨b,3,none⟩ w fun z3=>nw (.cells A3 false [.int .u8 1,.int .u8 (IntKind.wrap .u8 (x)),.int .u8 (IntKind.wrap .u8 (z1)),.int .u8 (IntKind.wrap .u8 (z2)),.int .u8 (IntKind.wrap .u8 (z3)),.int .u8 197]) w fun p1 w1=>gCells (some ⟨p1,0,none⟩) 6 w1 fun cs=>asBytes cs fun l=>bnd (C Ap0 [.string (ByteArray.mk ⟨l⟩)] w1) fun r w2=>aInt .u8 r fun z4=>nw (.cells A3 false [.int .u8 z4,.int .u8 0]) w2 fun p2 w3=>gCells (some ⟨p2,0,none⟩) 2 w3 fun cs_1=>asBytes cs_1 fun l_1=>ck (ByteArray.size (ByteArray.mk ⟨l⟩)+ByteArray.size (ByteArray.mk ⟨l_1⟩)≤A9) (R V7 A03 [(1,.pointer (some ⟨b,0,none⟩)),(3,.string ((ByteArray.mk ⟨l⟩)++(ByteArray.mk ⟨l_1⟩))),(4,.int .i64 0)] w3):=by kernel_rfl
theorem Dm9 (p:Addr) (s:ByteArray) (i:Int) (h:H) :
 A4 PR Bg3 C R V7 Tryz.f35 100000 true A03 [(1,.pointer (some p)),(3,.string s),(4,.int .i64 i)] h =
 cond (decide (i<32))
 (ck ((0:Int)≤i∧i<((32:Nat):Int)) (gInt .u8 (Addr.add (Addr.add p 4) (Int.toNat i*1)) h fun x=>nw (.cells A3 false [.int .u8 x]) h fun b w=>gCells (some ⟨b,0,none⟩) 1 w fun cs=>asBytes cs fun l=>ck (ByteArray.size s+ByteArray.size (ByteArray.mk ⟨l⟩)≤A9) (R V7 A03 [(1,.pointer (some p)),(3,.string (s++(ByteArray.mk ⟨l⟩))),(4,.int .i64 (IntKind.wrap .i64 (i+1)))] w)))
 (some (.string s,h)):=by kernel_rfl
def Dq6:Cuts:=⟨0,[],[],[]⟩
def Et2:List Item:=A5 Tryz.f45
theorem Hk1 (n:Int) (h:H) :
 A4 PR Dq6 C R Bk1 Tryz.f45 100000 true Et2 [(0,.int .i64 n)] h =
 bnd (cond (decide (n≥0)) (some (decide (n<8),h)) (some (false,h))) fun c w=>some (.bool c,w):=by kernel_rfl
def Dq8:Cuts:=⟨0,[],[],[]⟩
def Et8:List Item:=A5 Tryz.f52
theorem Hg0 (b:Option Addr) (bn bc:Nat) (h:H) :
 A4 PR Dq8 C R Af4 Tryz.f52 100000 true Et8 [(0,.slice b bn bc)] h =
 nw (.cells A7 false zz1) h fun p1 w=>bnd (cond ((bn:Int)==24) (bnd (C Ax8 [.slice b bn bc] w) fun r w1=>aBool r fun x=>some (x,w1)) (some (false,w))) fun c w2=>cond c
 (pAgg ⟨p1,0,none⟩ zz1 w2 fun w3=>gAgg ⟨p1,0,none⟩ 16 w3 fun z1=>some (.tuple ⟨[.agg ⟨z1⟩,.int .i64 0]⟩,w3))
 (bnd (C Bp6 [] w2) fun q1 w4=>aPtr q1 fun z2=>bnd (C Ac5 [.pointer z2,.slice b bn bc] w4) fun q2 w5=>as2 q2 fun q3 q4=>aAgg q3 fun z3=>aBool q4 fun z4=>nw (.cells A7 false zz1) w5 fun p2 w6=>ck (List.length z3=16) (pAgg ⟨p2,0,none⟩ z3 w6 fun w7=>cond (!z4)
 (pAgg ⟨p1,0,none⟩ zz1 w7 fun w8=>gAgg ⟨p1,0,none⟩ 16 w8 fun z5=>some (.tuple ⟨[.agg ⟨z5⟩,.int .i64 2]⟩,w8))
 (gAgg ⟨p2,0,none⟩ 16 w7 fun z6=>ck (List.length z6=16) (pAgg ⟨p1,0,none⟩ z6 w7 fun w9=>gAgg ⟨p1,0,none⟩ 16 w9 fun z7=>some (.tuple ⟨[.agg ⟨z7⟩,.int .i64 1]⟩,w9))))):=by kernel_rfl
def D70:Cuts:=⟨0,[(3,[0,3,4])],[],[]⟩
def E10:List Item:=A5 Tryz.f54
def Da0:List Item:=stk [0,1,0,1,0,0,1,4,5] E10
theorem Iv2 (b:ByteArray) (h:H) :
 A4 PR D70 C R Ap0 Tryz.f54 100000 true E10 [(0,.string b)] h =
 R Ap0 Da0 [(0,.string b),(3,.int .i64 ((ByteArray.size b:Nat):Int)),(4,.int .i64 0)] h:=by kernel_rfl
theorem E78 (b:ByteArray) (n:Int) (i:Int) (h:H) :
 A4 PR D70 C R Ap0 Tryz.f54 100000 true Da0 [(0,.string b),(3,.int .i64 n),(4,.int .i64 i)] h =
 cond (decide (i<((ByteArray.size b:Nat):Int)))
 (ck ((0:Int)≤i∧i<((ByteArray.size b:Nat):Int)) (R Ap0 Da0 [(0,.string b),(3,.int .i64 (IntKind.wrap .i64 (n+(IntKind.wrap .i64 (((List.getD (ByteArray.data b).toList (Int.toNat i) 0).toNat:Int)))))),(4,.int .i64 (IntKind.wrap .i64 (i+1)))] h))
 (some (.int .u8 (IntKind.wrap .u8 (n)),h)):=by kernel_rfl
def Bn6:Cuts:=⟨0,[],[(18,[0,5,7])],[]⟩
def Dd6:List Item:=A5 Tryz.f64
def A67:List Item:=stk [0,1,0,1,0,1,0,1,0,1,0,1,0,1,0,1,0,1,0,1,0,0] Dd6
theorem G00 (c:Option Addr) (f:Int) (h:H) :
 A4 PR Bn6 C R Ad6 Tryz.f64 100000 true Dd6 [(0,.pointer c),(1,.int .i64 f)] h =
 bnd (C D4 [.pointer c] h) fun r w=>as0 r (bnd (C U5 [.pointer c,.int .i64 f] w) fun q1 w1=>as2 q1 fun q2 q3=>aAgg q2 fun x=>aInt .i64 q3 fun z1=>nw (.cells D2 false [.int .i64 0,.int .i64 0,.int .i64 0,.int .i64 0]) w1 fun b w2=>ck (List.length x=4) (pAgg ⟨b,0,none⟩ x w2 fun w3=>cond (z1 != 1)
 (some (.int .i64 105,w3))
 (gInt .i64 ⟨b,2,none⟩ w3 fun z2=>pV ⟨b,2,none⟩ (.int .i64 (IntKind.wrap .i64 (z2-1))) w3 fun w4=>gInt .i64 ⟨b,2,none⟩ w4 fun z3=>cond (decide (z3>0))
 (gAgg ⟨b,0,none⟩ 4 w4 fun z4=>bnd (C Ab9 [.pointer c,.int .i64 f,.agg ⟨z4⟩] w4) fun q4 w5=>aBool q4 fun z5=>bnd (C Ae3 [.bool z5,.int .i64 0] w5) fun q5 w6=>aAgg q5 fun z6=>nth z6 1 fun E=>aInt .i64 E fun E_1=>some (.int .i64 E_1,w6))
 (bnd (C Ai8 [.pointer c,.int .i64 f] w4) fun q6 w7=>aBool q6 fun z7=>cond (!z7)
 (some (.int .i64 105,w7))
 (gInt .i64 ⟨b,0,none⟩ w7 fun z8=>cond (z8==3)
 (some (.int .i64 0,w7))
 (gInt .i64 ⟨b,1,none⟩ w7 fun z9=>bnd (C Ah7 [.pointer c,.int .i64 z9] w7) fun q7 w8=>as2 q7 fun q8 q9=>aAgg q8 fun z10=>aInt .i64 q9 fun z11=>nw (.cells D9 false zz4) w8 fun p1 w9=>ck (List.length z10=36) (pAgg ⟨p1,0,none⟩ z10 w9 fun w10=>cond (z11 != 1)
 (some (.int .i64 105,w10))
 (gInt .i64 ⟨b,0,none⟩ w10 fun z12=>cond (z12==1)
 (gInt .i64 ⟨p1,2,none⟩ w10 fun z13=>pV ⟨p1,2,none⟩ (.int .i64 (mm2 true (IntKind.wrap .i64 (z13-1)) 0)) w10 fun w11=>R Ad6 A67 [(0,.pointer c),(5,.pointer (some ⟨b,0,none⟩)),(7,.pointer (some ⟨p1,0,none⟩))] w11)
 (gInt .i64 ⟨p1,3,none⟩ w10 fun z14=>pV ⟨p1,3,none⟩ (.int .i64 (mm2 true (IntKind.wrap .i64 (z14-1)) 0)) w10 fun w12=>R Ad6 A67 [(0,.pointer c),(5,.pointer (some ⟨b,0,none⟩)),(7,.pointer (some ⟨p1,0,none⟩))] w12))))))))):=by kernel_rfl
theorem Ga4 (c:Option Addr) (x:Addr) (p:Addr) (h:H) :
 A4 PR Bn6 C R Ad6 Tryz.f64 100000 true A67 [(0,.pointer c),(5,.pointer (some x)),(7,.pointer (some p))] h =
 gInt .i64 (Addr.add p 2) h fun z1=>gInt .i64 (Addr.add p 3) h fun z2=>bnd (cond ((IntKind.wrap .i64 (z1+z2))==0) (gInt .i64 (Addr.add x 1) h fun z3=>some (decide (z3<4),h)) (some (false,h))) fun c_1 w=>cond c_1
 (gInt .i64 (Addr.add x 1) w fun z4=>bnd (C Ai6 [.pointer c,.int .i64 z4] w) fun r w1=>aBool r fun z5=>bnd (C Ae3 [.bool z5,.int .i64 0] w1) fun q1 w2=>aAgg q1 fun z6=>nth z6 1 fun E=>aInt .i64 E fun E_1=>some (.int .i64 E_1,w2))
 (gInt .i64 (Addr.add x 1) w fun z7=>gAgg p 36 w fun z8=>bnd (C Al1 [.pointer c,.int .i64 z7,.agg ⟨z8⟩] w) fun q2 w3=>aBool q2 fun z9=>bnd (C Ae3 [.bool z9,.int .i64 0] w3) fun q3 w4=>aAgg q3 fun z10=>nth z10 1 fun E_2=>aInt .i64 E_2 fun E_3=>some (.int .i64 E_3,w4)):=by kernel_rfl
def Aa3:Cuts:=⟨0,[(1,[0,5]),(6,[0,12]),(11,[0,20,21])],[],[]⟩
def Ah6:List Item:=A5 Tryz.f67
def Ak8:List Item:=stk [0,0,1,4,5] Ah6
def Ak5:List Item:=stk [0,1,0,0,1,4,5] Ah6
def Ak6:List Item:=stk [0,1,0,1,0,0,1,4,5] Ah6
theorem Eo1 (c:Option Addr) (h:H) :
 A4 PR Aa3 C R D4 Tryz.f67 100000 true Ah6 [(0,.pointer c)] h =
 R D4 Ak8 [(0,.pointer c),(5,.int .i64 0)] h:=by kernel_rfl
theorem Bv2 (c:Option Addr) (x5:Int) (h:H) :
 A4 PR Aa3 C R D4 Tryz.f67 100000 true Ak8 [(0,.pointer c),(5,.int .i64 x5)] h =
 cond (decide (x5<8))
 (bnd (C G4 [.pointer c,.int .i64 x5] h) fun r w=>as2 r fun q1 q2=>aAgg q1 fun _=>aInt .i64 q2 fun _=>R D4 Ak8 [(0,.pointer c),(5,.int .i64 (IntKind.wrap .i64 (x5+1)))] w)
 (R D4 Ak5 [(0,.pointer c),(12,.int .i64 0)] h):=by kernel_rfl
theorem Bu0 (c:Option Addr) (x12:Int) (h:H) :
 A4 PR Aa3 C R D4 Tryz.f67 100000 true Ak5 [(0,.pointer c),(12,.int .i64 x12)] h =
 cond (decide (x12<12))
 (bnd (C U5 [.pointer c,.int .i64 x12] h) fun r w=>as2 r fun q1 q2=>aAgg q1 fun _=>aInt .i64 q2 fun _=>R D4 Ak5 [(0,.pointer c),(12,.int .i64 (IntKind.wrap .i64 (x12+1)))] w)
 (bnd (C Aa6 [.pointer c,.int .i64 3] h) fun q3 w1=>aInt .i64 q3 fun z2=>R D4 Ak6 [(0,.pointer c),(20,.int .i64 z2),(21,.int .i64 0)] w1):=by kernel_rfl
theorem Bv4 (c:Option Addr) (x20:Int) (x21:Int) (h:H) :
 A4 PR Aa3 C R D4 Tryz.f67 100000 true Ak6 [(0,.pointer c),(20,.int .i64 x20),(21,.int .i64 x21)] h =
 cond (decide (x21<x20))
 (bnd (C Ah7 [.pointer c,.int .i64 x21] h) fun r w=>as2 r fun q1 q2=>aAgg q1 fun _=>aInt .i64 q2 fun _=>R D4 Ak6 [(0,.pointer c),(20,.int .i64 x20),(21,.int .i64 (IntKind.wrap .i64 (x21+1)))] w)
 (bnd (C Au1 [.pointer c] h) fun q3 w1=>as2 q3 fun q4 q5=>aAgg q4 fun _=>aInt .i64 q5 fun _=>bnd (C Aq8 [.pointer c] w1) fun q6 w2=>as2 q6 fun q7 q8=>aInt .i64 q7 fun _=>aBool q8 fun _=>some (.tuple ⟨[]⟩,w2)):=by kernel_rfl
def Dr8:Cuts:=⟨0,[],[],[]⟩
def Es8:List Item:=A5 Tryz.f68
theorem Hi6 (m:Option Addr) (atv:Int) (n:Int) (h:H) :
 A4 PR Dr8 C R Bk5 Tryz.f68 100000 true Es8 [(0,.pointer m),(1,.int .i64 atv),(2,.int .i64 n)] h =
 bnd (C Bv8 [.pointer m,.int .i64 atv,.int .i64 n] h) fun r w=>aBool r fun x=>cond (!x)
 (some (.tuple ⟨[.slice none 0 0,.int .i64 1]⟩,w))
 (aSome m fun p=>gSl (Addr.add p 0) w fun z1 _ xc=>ckB (fitsOpen z1 A3 w) (ck ((0:Int)≤IntKind.wrap .i64 (atv+n)∧IntKind.wrap .i64 (atv+n)≤(xc:Int)) (ck ((0:Int)≤atv∧atv≤((Int.toNat (IntKind.wrap .i64 (atv+n)):Nat):Int)) (bnd (C H6 [.slice (I0 z1 (decide (Int.toNat atv<xc)) ((Int.toNat atv)*1)) ((Int.toNat (IntKind.wrap .i64 (atv+n)))-(Int.toNat atv)) (xc-(Int.toNat atv))] w) fun q1 w1=>aSl q1 fun z2 xn_1 xc_1=>some (.tuple ⟨[.slice z2 xn_1 xc_1,.int .i64 0]⟩,w1))))):=by kernel_rfl
def Da2:Cuts:=⟨0,[(2,[0,8,9,10])],[],[]⟩
def D13:List Item:=A5 Tryz.f70
def A57:List Item:=stk [0,1,0,1,4,5] D13
theorem Ht4 (c:Option Addr) (i:Int) (h:H) :
 A4 PR Da2 C R Ai9 Tryz.f70 100000 true D13 [(0,.pointer c),(1,.int .i64 i)] h =
 nw (.cells A8 false [.int .i64 i]) h fun b w=>bnd (C Z6 [.pointer c,.func (.func Bb9) ⟨[]⟩ ⟨[.pointer (some ⟨b,0,none⟩)]⟩] w) fun r w1=>aSl r fun x xn xc=>R Ai9 A57 [(0,.pointer c),(8,.slice x xn xc),(9,.int .i64 (xn:Int)),(10,.int .i64 0)] w1:=by kernel_rfl
theorem Ec3 (c:Option Addr) (x8:Option Addr) (x8n x8c:Nat) (x9:Int) (x10:Int) (h:H) :
 A4 PR Da2 C R Ai9 Tryz.f70 100000 true A57 [(0,.pointer c),(8,.slice x8 x8n x8c),(9,.int .i64 x9),(10,.int .i64 x10)] h =
 cond (decide (x10<x9))
 (aSome x8 fun p=>ck ((0:Int)≤x10∧x10<(x8n:Int)) (gAgg (Addr.add (B3 p) (Int.toNat x10*17)) 17 h fun x=>nw (.cells G9 false zz2) h fun b w=>ck (List.length x=17) (pAgg ⟨b,0,none⟩ x w fun w1=>gAgg ⟨b,0,none⟩ 17 w1 fun z1=>bnd (C Ag3 [.agg ⟨z1⟩] w1) fun r w2=>aBool r fun z2=>cond (!z2)
 (gInt .i64 ⟨b,0,none⟩ w2 fun z3=>bnd (C N3 [.pointer c,.int .i64 z3] w2) fun q1 w3=>aBool q1 fun _=>R Ai9 A57 [(0,.pointer c),(8,.slice x8 x8n x8c),(9,.int .i64 x9),(10,.int .i64 (IntKind.wrap .i64 (x10+1)))] w3)
 (pV ⟨b,2,none⟩ (.int .i64 0) w2 fun w4=>gInt .i64 ⟨b,0,none⟩ w4 fun z5=>gAgg ⟨b,1,none⟩ 16 w4 fun z6=>bnd (C I3 [.pointer c,.int .i64 z5,.agg ⟨z6⟩] w4) fun q2 w5=>aBool q2 fun _=>R Ai9 A57 [(0,.pointer c),(8,.slice x8 x8n x8c),(9,.int .i64 x9),(10,.int .i64 (IntKind.wrap .i64 (x10+1)))] w5))))
 (some (.tuple ⟨[]⟩,h)):=by kernel_rfl
def D25:Cuts:=⟨0,[],[],[]⟩
def E75:List Item:=A5 Tryz.f73
theorem Hs5 (x:List Value) (fv0:Addr) (h:H) :
 A4 PR D25 C R Br2 Tryz.f73 100000 true E75 [(0,.agg ⟨x⟩),(1,.pointer (some fv0))] h =
 nw (.cells G9 false x) h fun b w=>gInt .i64 ⟨b,2,none⟩ w fun z1=>gInt .i64 fv0 w fun z2=>some (.bool (z1==(IntKind.wrap .i64 (z2+1))),w):=by kernel_rfl
def B43:Cuts:=⟨0,[],[],[]⟩
def D53:List Item:=A5 Tryz.f74
theorem Gs3 (x:List Value) (h:H) :
 A4 PR B43 C R Ag3 Tryz.f74 100000 true D53 [(0,.agg ⟨x⟩)] h =
 nw (.cells G9 false x) h fun b w=>gInt .i64 ⟨b,1,none⟩ w fun z1=>some (.bool (z1 != 2),w):=by kernel_rfl
def Bd9:Cuts:=⟨0,[],[],[]⟩
def B67:List Item:=A5 Tryz.f80
theorem Eo2 (c:Option Addr) (i:Int) (h:H) :
 A4 PR Bd9 C R U5 Tryz.f80 100000 true B67 [(0,.pointer c),(1,.int .i64 i)] h =
 nw (.cells D2 false [.int .i64 0,.int .i64 0,.int .i64 0,.int .i64 0]) h fun b w=>bnd (C A32 [.int .i64 i] w) fun r w1=>aAgg r fun x=>bnd (C O4 [.pointer c,.agg ⟨x⟩,.func (.func Ae7) ⟨[]⟩ ⟨[]⟩] w1) fun q1 w2=>as2 q1 fun q2 q3=>aAgg q2 fun z1=>aInt .i64 q3 fun z2=>ck (List.length z1=4) (pAgg ⟨b,0,none⟩ z1 w2 fun w3=>gAgg ⟨b,0,none⟩ 4 w3 fun z3=>some (.tuple ⟨[.agg ⟨z3⟩,.int .i64 z2]⟩,w3)):=by kernel_rfl
def Bd4:Cuts:=⟨0,[],[],[]⟩
def B61:List Item:=A5 Tryz.f82
theorem Ep0 (c:Option Addr) (i:Int) (h:H) :
 A4 PR Bd4 C R Ah7 Tryz.f82 100000 true B61 [(0,.pointer c),(1,.int .i64 i)] h =
 nw (.cells D9 false zz4) h fun b w=>bnd (C A33 [.int .i64 i] w) fun r w1=>aAgg r fun x=>bnd (C J9 [.pointer c,.agg ⟨x⟩,.func (.func Z7) ⟨[]⟩ ⟨[]⟩] w1) fun q1 w2=>as2 q1 fun q2 q3=>aAgg q2 fun z1=>aInt .i64 q3 fun z2=>ck (List.length z1=36) (pAgg ⟨b,0,none⟩ z1 w2 fun w3=>gAgg ⟨b,0,none⟩ 36 w3 fun z3=>some (.tuple ⟨[.agg ⟨z3⟩,.int .i64 z2]⟩,w3)):=by kernel_rfl
def A10:Cuts:=⟨0,[],[],[]⟩
def Bu9:List Item:=A5 Tryz.f84
theorem D84 (c:Option Addr) (i:Int) (f:List Value) (h:H) :
 A4 PR A10 C R Ab9 Tryz.f84 100000 true Bu9 [(0,.pointer c),(1,.int .i64 i),(2,.agg ⟨f⟩)] h =
 nw (.cells D2 false f) h fun b w=>gAgg ⟨b,0,none⟩ 4 w fun x=>bnd (C Bh8 [.agg ⟨x⟩] w) fun r w1=>as2 r fun q1 q2=>aSl q1 fun z1 xn xc=>aBool q2 fun z2=>bnd (C A32 [.int .i64 i] w1) fun q3 w2=>aAgg q3 fun z3=>bnd (C N5 [.pointer c,.agg ⟨z3⟩,.slice z1 xn xc,.bool z2] w2) fun q4 w3=>aBool q4 fun z4=>some (.bool z4,w3):=by kernel_rfl
def Au3:Cuts:=⟨0,[],[],[]⟩
def Bl1:List Item:=A5 Tryz.f90
theorem D00 (s:Option Addr) (sn sc:Nat) (v:Int) (h:H) :
 A4 PR Au3 C R P9 Tryz.f90 100000 true Bl1 [(0,.slice s sn sc),(1,.int .i64 v)] h =
 bnd (C I7 [.slice s sn sc,.int .i64 v] h) fun r w=>aInt .i64 r fun x=>some (.bool (decide (x≥0)),w):=by kernel_rfl
def Bz7:Cuts:=⟨0,[],[],[]⟩
def D03:List Item:=A5 Tryz.f104
theorem Gb4 (k:Option Addr) (env:Int) (h:H) :
 A4 PR Bz7 C R Bc6 Tryz.f104 100000 true D03 [(0,.pointer k),(1,.int .i64 env)] h =
 aSome k fun p=>gPtr (Addr.add p 6) h fun x=>aSome x fun p_1=>gPtr (Addr.add p_1 3) h fun z1=>bnd (C Bo2 [.pointer z1,.int .i64 env] h) fun r w=>aSl r fun z2 xn xc=>cond ((xn:Int)==0)
 (some (.pointer none,w))
 (nw (.cells Ej9 false [.pointer k,.int .i64 env,.slice z2 xn xc,.slice none 0 0]) w fun b w1=>some (.pointer (some ⟨b,0,none⟩),w1)):=by kernel_rfl
def Bx2:Cuts:=⟨0,[],[],[(3,⟨[0,1,2,3,4,5,6,7,8,9,10,11,12,13,14,15,16,17,18,19],[0,1,3,7,0,0,32,0,128,0,512,0,2048,0,8192,32767,65535,65535,262143,524287],[],[]⟩),(5,⟨[0,1,2,3,4,5,6,7,8,9,10,11],[0,1,3,7,0,0,32,127,255,255,1023,2047],[],[]⟩),(7,⟨[0,1,2,3,4,5,6,7,8,9,10,11,12,13,14,15],[0,1,3,7,0,16,48,112,0,496,1008,2047,4095,4095,16383,32767],[],[]⟩),(9,⟨[0,1,2,3,4,5,6,7,8,9,10,11,12,13,14,15],[0,1,3,7,0,16,48,112,0,496,1008,0,2048,8191,16383,32767],[],[]⟩)]⟩
def Dy8:List Item:=A5 Tryz.f106
theorem Gg6 (k:Option Addr) (env:Int) (c:List Value) (h:H) :
 A4 PR Bx2 C R Bc2 Tryz.f106 100000 true Dy8 [(0,.pointer k),(1,.int .i64 env),(2,.agg ⟨c⟩)] h =
 nw (.cells Ba6 false c) h fun b w=>gInt .i64 ⟨b,0,none⟩ w fun x=>cond (x==4)
 (aSome k fun p=>gPtr (Addr.add p 3) w fun z1=>gInt .i64 ⟨b,1,none⟩ w fun z2=>gInt .i64 ⟨b,4,none⟩ w fun z3=>gInt .i64 ⟨b,5,none⟩ w fun z4=>gInt .i64 ⟨b,2,none⟩ w fun z5=>gInt .i64 ⟨b,3,none⟩ w fun z6=>bnd (C Bb1 [.pointer z1,.int .i64 env,.int .i64 z2,.int .i64 z3,.int .i64 z4,.int .i64 z5,.int .i64 z6] w) fun r w1=>as2 r fun q1 q2=>aInt .i64 q1 fun z7=>aInt .i64 q2 fun z8=>some (.tuple ⟨[.int .i64 z7,.int .i64 z8]⟩,w1))
 (cond (x==5)
 (aSome k fun p_1=>gPtr (Addr.add p_1 3) w fun z9=>gInt .i64 ⟨b,1,none⟩ w fun z10=>bnd (C Ga0 [.pointer z9,.int .i64 env,.int .i64 z10] w) fun q3 w2=>as2 q3 fun q4 q5=>aInt .i64 q4 fun z11=>aInt .i64 q5 fun z12=>some (.tuple ⟨[.int .i64 z11,.int .i64 z12]⟩,w2))
 (cond (x==6)
 (aSome k fun p_2=>gPtr (Addr.add p_2 4) w fun z13=>aSome k fun p_3=>gSl (Addr.add p_3 0) w fun z14 xn _=>aSome z14 fun p_4=>ck ((0:Int)≤env∧env<(xn:Int)) (gInt .i64 (Addr.add (B3 p_4) (Int.toNat env*1)) w fun z15=>bnd (C A68 [.pointer z13,.int .i64 z15] w) fun q6 w3=>as2 q6 fun q7 q8=>aInt .i64 q7 fun z16=>aInt .i64 q8 fun z17=>some (.tuple ⟨[.int .i64 z16,.int .i64 z17]⟩,w3)))
 (cond (x==7)
 (aSome k fun p_5=>gPtr (Addr.add p_5 4) w fun z18=>aSome k fun p_6=>gSl (Addr.add p_6 0) w fun z19 xn_1 _=>aSome z19 fun p_7=>ck ((0:Int)≤env∧env<(xn_1:Int)) (gInt .i64 (Addr.add (B3 p_7) (Int.toNat env*1)) w fun z20=>gInt .i64 ⟨b,3,none⟩ w fun z21=>bnd (C A99 [.pointer z18,.int .i64 z20,.int .i64 z21] w) fun q9 w4=>aInt .i64 q9 fun z22=>some (.tuple ⟨[.int .i64 0,.int .i64 z22]⟩,w4)))
 (cond (x==8)
 (gAgg ⟨b,0,none⟩ 7 w fun z23=>bnd (C Bg7 [.pointer k,.int .i64 env,.agg ⟨z23⟩] w) fun q10 w5=>as2 q10 fun q11 q12=>aInt .i64 q11 fun z24=>aInt .i64 q12 fun z25=>some (.tuple ⟨[.int .i64 z24,.int .i64 z25]⟩,w5))
 (cond (x==9)
 (gAgg ⟨b,0,none⟩ 7 w fun z26=>bnd (C Bf9 [.pointer k,.int .i64 env,.agg ⟨z26⟩] w) fun q13 w6=>aInt .i64 q13 fun z27=>some (.tuple ⟨[.int .i64 0,.int .i64 z27]⟩,w6))
 (cond (x==10)
 (aSome k fun p_8=>gInt .i64 (Addr.add p_8 7) w fun z28=>some (.tuple ⟨[.int .i64 z28,.int .i64 0]⟩,w))
 (some (.tuple ⟨[.int .i64 0,.int .i64 7]⟩,w)))))))):=by kernel_rfl
def Ee8:Cuts:=⟨0,[],[],[]⟩
def Gg2:List Item:=A5 Tryz.f120
theorem Hy2 (x:List Value) (fv0:Addr) (h:H) :
 A4 PR Ee8 C R Bx5 Tryz.f120 100000 true Gg2 [(0,.agg ⟨x⟩),(1,.pointer (some fv0))] h =
 nw (.cells G9 false x) h fun b w=>gAgg ⟨b,0,none⟩ 17 w fun z1=>bnd (C Ag3 [.agg ⟨z1⟩] w) fun r w1=>aBool r fun z2=>bnd (cond z2 (gInt .i64 ⟨b,3,none⟩ w1 fun z3=>gInt .i64 fv0 w1 fun z4=>some (z3==z4,w1)) (some (false,w1))) fun c w2=>some (.bool c,w2):=by kernel_rfl
def G26:Cuts:=⟨0,[],[],[]⟩
def H77:List Item:=A5 Tryz.f122
theorem Je4 (n:Int) (h:H) :
 A4 PR G26 C R E68 Tryz.f122 100000 true H77 [(0,.int .i64 n)] h =
 bnd (cond (decide (n≥1)) (some (decide (n≤15),h)) (some (false,h))) fun c w=>some (.bool c,w):=by kernel_rfl
def Ax6:Cuts:=⟨0,[],[],[]⟩
def Bq6:List Item:=A5 Tryz.f137
theorem D40 (c:Option Addr) (i:Int) (h:H) :
 A4 PR Ax6 C R Ai8 Tryz.f137 100000 true Bq6 [(0,.pointer c),(1,.int .i64 i)] h =
 bnd (C A32 [.int .i64 i] h) fun r w=>aAgg r fun x=>bnd (C Z0 [.pointer c,.agg ⟨x⟩] w) fun q1 w1=>aBool q1 fun z1=>some (.bool z1,w1):=by kernel_rfl
def A84:Cuts:=⟨0,[],[],[]⟩
def B41:List Item:=A5 Tryz.f144
theorem Ei7 (c:Option Addr) (h:H) :
 A4 PR A84 C R Aq8 Tryz.f144 100000 true B41 [(0,.pointer c)] h =
 bnd (C Z2 [.pointer c,.agg ⟨[.int .i64 5,.int .i64 0]⟩,.func (.func V8) ⟨[]⟩ ⟨[]⟩] h) fun r w=>as2 r fun q1 q2=>aInt .i64 q1 fun x=>aInt .i64 q2 fun z1=>some (.tuple ⟨[.int .i64 x,.bool (z1==1)]⟩,w):=by kernel_rfl
def Ee7:Cuts:=⟨0,[],[],[]⟩
def Gf4:List Item:=A5 Tryz.f145
theorem H75 (m:Option Addr) (atv:Int) (n:Int) (h:H) :
 A4 PR Ee7 C R Bv8 Tryz.f145 100000 true Gf4 [(0,.pointer m),(1,.int .i64 atv),(2,.int .i64 n)] h =
 bnd (cond (decide (atv≥0)) (some (decide (n≥0),h)) (some (false,h))) fun c w=>bnd (cond c (aSome m fun p=>gSl (Addr.add p 0) w fun _ xn _=>some (decide (atv≤(xn:Int)),w)) (some (false,w))) fun c_1 w1=>bnd (cond c_1 (aSome m fun p_1=>gSl (Addr.add p_1 0) w1 fun _ xn_1 _=>some (decide (n≤(IntKind.wrap .i64 ((xn_1:Int)-atv))),w1)) (some (false,w1))) fun c_2 w2=>some (.bool c_2,w2):=by kernel_rfl
def Du9:Cuts:=⟨0,[],[],[]⟩
def Ev5:List Item:=A5 Tryz.f152
theorem Hh1 (x:Option Addr) (h:H) :
 A4 PR Du9 C R B26 Tryz.f152 100000 true Ev5 [(0,.pointer x)] h =
 nw (.cells Da1 false [.pointer x]) h fun b w=>gPtr ⟨b,0,none⟩ w fun z1=>aSome z1 fun p=>gSl (Addr.add (Addr.add p 0) 0) w fun z2 xn xc=>bnd (C N8 [.slice z2 xn xc,.func (.func A45) ⟨[]⟩ ⟨[.pointer (some ⟨b,0,none⟩)]⟩] w) fun r w1=>aBool r fun z3=>some (.bool z3,w1):=by kernel_rfl
def Da8:Cuts:=⟨0,[],[],[]⟩
def Ee6:List Item:=A5 Tryz.f154
theorem G57 (x:Option Addr) (h:H) :
 A4 PR Da8 C R Bo0 Tryz.f154 100000 true Ee6 [(0,.pointer x)] h =
 nw (.cells Da1 false [.pointer x]) h fun b w=>gPtr ⟨b,0,none⟩ w fun z1=>aSome z1 fun p=>gSl (Addr.add (Addr.add p 2) 0) w fun z2 xn xc=>bnd (C N9 [.slice z2 xn xc,.func (.func Au7) ⟨[]⟩ ⟨[.pointer (some ⟨b,0,none⟩)]⟩] w) fun r w1=>aBool r fun z3=>some (.bool z3,w1):=by kernel_rfl
def Ds7:Cuts:=⟨0,[],[],[]⟩
def Ev1:List Item:=A5 Tryz.f158
theorem Hg6 (i:Int) (h:H) :
 A4 PR Ds7 C R A32 Tryz.f158 100000 true Ev1 [(0,.int .i64 i)] h =
 nw (.cells B8 false [.int .i64 0,.int .i64 0]) h fun b w=>pAgg ⟨b,0,none⟩ [.int .i64 2,.int .i64 i] w fun w1=>gAgg ⟨b,0,none⟩ 2 w1 fun x=>some (.agg ⟨x⟩,w1):=by kernel_rfl
def Dt7:Cuts:=⟨0,[],[],[]⟩
def Eu8:List Item:=A5 Tryz.f159
theorem Hk6 (b:Option Addr) (bn bc:Nat) (h:H) :
 A4 PR Dt7 C R Ae7 Tryz.f159 100000 true Eu8 [(0,.slice b bn bc)] h =
 nw (.cells D2 false [.int .i64 0,.int .i64 0,.int .i64 0,.int .i64 0]) h fun p1 w=>bnd (cond ((bn:Int)==8) (bnd (C Ax8 [.slice b bn bc] w) fun r w1=>aBool r fun x=>some (x,w1)) (some (false,w))) fun c w2=>cond c
 (pAgg ⟨p1,0,none⟩ [.int .i64 0,.int .i64 0,.int .i64 0,.int .i64 0] w2 fun w3=>gAgg ⟨p1,0,none⟩ 4 w3 fun z1=>some (.tuple ⟨[.agg ⟨z1⟩,.int .i64 0]⟩,w3))
 (bnd (C Bq8 [] w2) fun q1 w4=>aPtr q1 fun z2=>bnd (C Ac6 [.pointer z2,.slice b bn bc] w4) fun q2 w5=>as2 q2 fun q3 q4=>aAgg q3 fun z3=>aBool q4 fun z4=>nw (.cells D2 false [.int .i64 0,.int .i64 0,.int .i64 0,.int .i64 0]) w5 fun p2 w6=>ck (List.length z3=4) (pAgg ⟨p2,0,none⟩ z3 w6 fun w7=>cond (!z4)
 (pAgg ⟨p1,0,none⟩ [.int .i64 0,.int .i64 0,.int .i64 0,.int .i64 0] w7 fun w8=>gAgg ⟨p1,0,none⟩ 4 w8 fun z5=>some (.tuple ⟨[.agg ⟨z5⟩,.int .i64 2]⟩,w8))
 (gAgg ⟨p2,0,none⟩ 4 w7 fun z6=>ck (List.length z6=4) (pAgg ⟨p1,0,none⟩ z6 w7 fun w9=>gAgg ⟨p1,0,none⟩ 4 w9 fun z7=>some (.tuple ⟨[.agg ⟨z7⟩,.int .i64 1]⟩,w9))))):=by kernel_rfl
def Dq9:Cuts:=⟨0,[],[],[]⟩
def Et5:List Item:=A5 Tryz.f161
theorem Hh6 (i:Int) (h:H) :
 A4 PR Dq9 C R A33 Tryz.f161 100000 true Et5 [(0,.int .i64 i)] h =
 nw (.cells B8 false [.int .i64 0,.int .i64 0]) h fun b w=>pAgg ⟨b,0,none⟩ [.int .i64 3,.int .i64 i] w fun w1=>gAgg ⟨b,0,none⟩ 2 w1 fun x=>some (.agg ⟨x⟩,w1):=by kernel_rfl
def Bv5:Cuts:=⟨0,[(3,[0,3,4])],[],[(5,⟨[0,1,2,3,4,5,6,7,8,9,10],[0,0,2,6,14,0,32,126,255,511,1023],[(5,[4])],[]⟩),(6,⟨[0,1,2,3,4,5,6,7,8,9,10],[0,0,2,6,14,0,32,126,255,511,1023],[],[]⟩)]⟩
def Dj9:List Item:=A5 Tryz.f203
def Ba9:List Item:=stk [0,1,0,1,0,0,1,4,5] Dj9
theorem G73 (envs:Int) (h:H) :
 A4 PR Bv5 C R Ah0 Tryz.f203 100000 true Dj9 [(0,.int .i64 envs)] h =
 nw (.cells Gd0 false [.slice none 0 0,.slice none 0 0]) h fun b w=>R Ah0 Ba9 [(0,.int .i64 envs),(3,.pointer (some ⟨b,0,none⟩)),(4,.int .i64 0)] w:=by kernel_rfl
theorem Dy6 (envs:Int) (s:Addr) (i:Int) (h:H) :
 A4 PR Bv5 C R Ah0 Tryz.f203 100000 true Ba9 [(0,.int .i64 envs),(3,.pointer (some s)),(4,.int .i64 i)] h =
 bnd (cond (decide (i<envs)) (some (decide (i<40),h)) (some (false,h))) fun c w=>cond c
 (gSl (Addr.add s 0) w fun x xn xc=>bnd (C Ah1 [.int .i64 32] w) fun r w1=>aPtr r fun z1=>gSl (Addr.add s 0) w1 fun z2 xn_1 xc_1=>same (.slice x xn xc) (.slice z2 xn_1 xc_1) (nw (.cells Bk6 false [.pointer z1]) w1 fun b w2=>gCells (some ⟨b,0,none⟩) (1*1) w2 fun cs=>ckB (fitsOpen x Bk6 w2) (apd Bk6 1 x xn xc 1 cs w2 fun a an ac w3=>pV (Addr.add s 0) (.slice a an ac) w3 fun w4=>gSl (Addr.add s 1) w4 fun z3 xn_2 xc_2=>ck ((0:Int)≤32∧(32:Int)≤32∧32≤(A9:Int)) (nw (.cells V4 false (I6 (Int.toNat 32) [.int .i64 0,.int .i64 0,.int .i64 0,.int .i64 0,.int .i64 0,.int .i64 0])) w4 fun p1 w5=>nw (.cells B78 false [.slice (some ⟨p1,0,none⟩) (Int.toNat 32) (Int.toNat 32)]) w5 fun p2 w6=>gCells (some ⟨p2,0,none⟩) (1*1) w6 fun cs_1=>ckB (fitsOpen z3 B78 w6) (apd B78 1 z3 xn_2 xc_2 1 cs_1 w6 fun a_1 an_1 ac_1 w7=>pV (Addr.add s 1) (.slice a_1 an_1 ac_1) w7 fun w8=>R Ah0 Ba9 [(0,.int .i64 envs),(3,.pointer (some s)),(4,.int .i64 (IntKind.wrap .i64 (i+1)))] w8)))))
 (some (.pointer (some s),w)):=by kernel_rfl
def Bt2:Cuts:=⟨0,[],[],[]⟩
def Dp9:List Item:=A5 Tryz.f216
theorem Gb0 (q:Option Addr) (s:Int) (h:H) :
 A4 PR Bt2 C R A68 Tryz.f216 100000 true Dp9 [(0,.pointer q),(1,.int .i64 s)] h =
 bnd (C As4 [.pointer q,.int .i64 s] h) fun r w=>aBool r fun x=>cond (!x)
 (some (.tuple ⟨[.int .i64 0,.int .i64 1]⟩,w))
 (aSome q fun p=>gSl (Addr.add p 0) w fun z1 xn _=>aSome z1 fun p_1=>ck ((0:Int)≤s∧s<(xn:Int)) (gSl (Addr.add (B3 p_1) (Int.toNat s*1)) w fun z2 xn_1 xc_1=>bnd (C I7 [.slice z2 xn_1 xc_1,.int .i64 0] w) fun q1 w1=>aInt .i64 q1 fun z3=>cond (decide (z3<0))
 (some (.tuple ⟨[.int .i64 0,.int .i64 4]⟩,w1))
 (aSome q fun p_2=>gSl (Addr.add p_2 0) w1 fun z4 xn_2 _=>aSome z4 fun p_3=>ck ((0:Int)≤s∧s<(xn_2:Int)) (gSl (Addr.add (B3 p_3) (Int.toNat s*1)) w1 fun z5 xn_3 _=>aSome z5 fun p_4=>ck ((0:Int)≤z3∧z3<(xn_3:Int)) (pV (Addr.add (B3 p_4) (Int.toNat z3*1)) (.int .i64 1) w1 fun w2=>some (.tuple ⟨[.int .i64 z3,.int .i64 0]⟩,w2)))))):=by kernel_rfl
def B55:Cuts:=⟨0,[],[],[]⟩
def D41:List Item:=A5 Tryz.f218
theorem Gt0 (k:Option Addr) (env:Int) (c:List Value) (h:H) :
 A4 PR B55 C R Bg7 Tryz.f218 100000 true D41 [(0,.pointer k),(1,.int .i64 env),(2,.agg ⟨c⟩)] h =
 nw (.cells Ba6 false c) h fun b w=>gInt .i64 ⟨b,3,none⟩ w fun x=>bnd (C A48 [.pointer k,.int .i64 env,.int .i64 x] w) fun r w1=>as2 r fun q1 q2=>aPtr q1 fun z1=>aInt .i64 q2 fun z2=>cond (z2 != 0)
 (some (.tuple ⟨[.int .i64 0,.int .i64 z2]⟩,w1))
 (aSome k fun p=>gInt .i64 (Addr.add p 7) w1 fun z3=>bnd (C D1 [.pointer z1,.int .i64 env,.int .i64 z3] w1) fun q3 w2=>as2 q3 fun q4 q5=>aInt .i64 q4 fun z4=>aBool q5 fun _=>some (.tuple ⟨[.int .i64 z4,.int .i64 0]⟩,w2)):=by kernel_rfl
def Dc2:Cuts:=⟨0,[],[],[]⟩
def Eh0:List Item:=A5 Tryz.f221
theorem G59 (s:Option Addr) (e:Int) (name:Int) (h:H) :
 A4 PR Dc2 C R Bm5 Tryz.f221 100000 true Eh0 [(0,.pointer s),(1,.int .i64 e),(2,.int .i64 name)] h =
 nw (.cells V4 false [.int .i64 0,.int .i64 0,.int .i64 0,.int .i64 0,.int .i64 0,.int .i64 0]) h fun b w=>bnd (C As6 [.pointer s,.int .i64 e] w) fun r w1=>aBool r fun x=>bnd (cond (!x) (some (true,w1)) (aSome s fun p=>gSl (Addr.add p 0) w1 fun z1 xn _=>aSome z1 fun p_1=>ck ((0:Int)≤e∧e<(xn:Int)) (gPtr (Addr.add (B3 p_1) (Int.toNat e*1)) w1 fun z2=>bnd (C Bo9 [.pointer z2,.int .i64 name] w1) fun q1 w2=>aBool q1 fun z3=>some (!z3,w2)))) fun c w3=>cond c
 (pAgg ⟨b,0,none⟩ [.int .i64 0,.int .i64 0,.int .i64 0,.int .i64 0,.int .i64 0,.int .i64 0] w3 fun w4=>gAgg ⟨b,0,none⟩ 6 w4 fun z4=>some (.tuple ⟨[.agg ⟨z4⟩,.int .i64 2]⟩,w4))
 (aSome s fun p_2=>gSl (Addr.add p_2 1) w3 fun z5 xn_1 _=>aSome z5 fun p_3=>ck ((0:Int)≤e∧e<(xn_1:Int)) (gSl (Addr.add (B3 p_3) (Int.toNat e*1)) w3 fun z6 xn_2 _=>aSome z6 fun p_4=>ck ((0:Int)≤O1 .i64 name 255∧O1 .i64 name 255<(xn_2:Int)) (gAgg (Addr.add (B3 p_4) (Int.toNat (O1 .i64 name 255)*6)) 6 w3 fun z7=>ck (List.length z7=6) (pAgg ⟨b,0,none⟩ z7 w3 fun w5=>gAgg ⟨b,0,none⟩ 6 w5 fun z8=>some (.tuple ⟨[.agg ⟨z8⟩,.int .i64 0]⟩,w5))))):=by kernel_rfl
def Bo5:Cuts:=⟨0,[],[],[]⟩
def Dk6:List Item:=A5 Tryz.f235
theorem E59 (size:Int) (put:Value) (get:Value) (h:H) :
 A4 PR Bo5 C R A08 Tryz.f235 100000 true Dk6 [(0,.int .i64 size),(1,put),(2,get)] h =
 one put (one get (nw (.cells B68 false [.int .i64 (mm2 false (mm2 true size 0) 64),put,get]) h fun b w=>some (.pointer (some ⟨b,0,none⟩),w))):=by kernel_rfl
def Bs5:Cuts:=⟨0,[(4,[1,2,22,23,24]),(9,[1,2,43,44,45]),(14,[1,58,59])],[],[]⟩
def B58:List Item:=A5 Tryz.f236
def Ds6:List Item:=stk [0,1,0,1,0,0,1,4,5] B58
def Dt5:List Item:=stk [0,1,0,1,0,1,0,0,1,4,5] B58
def Du2:List Item:=stk [0,1,0,1,0,1,0,1,0,0,1,4,5] B58
theorem Ii0 (p:List Value) (b:Option Addr) (bn bc:Nat) (h:H) :
 A4 PR Bs5 C R U8 Tryz.f236 100000 true B58 [(0,.agg ⟨p⟩),(1,.slice b bn bc)] h =
 nw (.cells A7 false p) h fun p1 w=>gAgg ⟨p1,0,none⟩ 16 w fun x=>bnd (C D55 [.agg ⟨x⟩] w) fun r w1=>aBool r fun z1=>cond (!z1)
 (some (.bool false,w1))
 (gInt .i64 ⟨p1,0,none⟩ w1 fun z2=>gInt .i64 ⟨p1,1,none⟩ w1 fun z3=>gInt .i64 ⟨p1,2,none⟩ w1 fun z4=>gInt .i64 ⟨p1,3,none⟩ w1 fun z5=>nw (.cells A8 false [.int .i64 z2,.int .i64 z3,.int .i64 z4,.int .i64 z5]) w1 fun p2 w2=>R U8 Ds6 [(1,.slice b bn bc),(2,.pointer (some ⟨p1,0,none⟩)),(22,.slice (some ⟨p2,0,none⟩) 4 4),(23,.int .i64 4),(24,.int .i64 0)] w2):=by kernel_rfl
theorem Bh7 (b:Option Addr) (bn bc:Nat) (p:Addr) (x22:Option Addr) (x22n x22c:Nat) (x23:Int) (x24:Int) (h:H) :
 A4 PR Bs5 C R U8 Tryz.f236 100000 true Ds6 [(1,.slice b bn bc),(2,.pointer (some p)),(22,.slice x22 x22n x22c),(23,.int .i64 x23),(24,.int .i64 x24)] h =
 cond (decide (x24<x23))
 (aSome x22 fun p_1=>ck ((0:Int)≤x24∧x24<(x22n:Int)) (gInt .i64 (Addr.add (B3 p_1) (Int.toNat x24*1)) h fun x=>aSome b fun p_2=>ck ((0:Int)≤x24∧x24<(bn:Int)) (pV (Addr.add (B3 p_2) (Int.toNat x24*1)) (.int .u8 (IntKind.wrap .u8 (x))) h fun w=>R U8 Ds6 [(1,.slice b bn bc),(2,.pointer (some p)),(22,.slice x22 x22n x22c),(23,.int .i64 x23),(24,.int .i64 (IntKind.wrap .i64 (x24+1)))] w)))
 (gInt .i64 (Addr.add p 4) h fun z1=>gInt .i64 (Addr.add p 5) h fun z2=>gInt .i64 (Addr.add p 6) h fun z3=>gInt .i64 (Addr.add p 7) h fun z4=>nw (.cells A8 false [.int .i64 z1,.int .i64 z2,.int .i64 z3,.int .i64 z4]) h fun p1 w1=>R U8 Dt5 [(1,.slice b bn bc),(2,.pointer (some p)),(43,.slice (some ⟨p1,0,none⟩) 4 4),(44,.int .i64 4),(45,.int .i64 0)] w1):=by kernel_rfl
theorem Bi6 (b:Option Addr) (bn bc:Nat) (p:Addr) (x43:Option Addr) (x43n x43c:Nat) (x44:Int) (x45:Int) (h:H) :
 A4 PR Bs5 C R U8 Tryz.f236 100000 true Dt5 [(1,.slice b bn bc),(2,.pointer (some p)),(43,.slice x43 x43n x43c),(44,.int .i64 x44),(45,.int .i64 x45)] h =
 cond (decide (x45<x44))
 (aSome x43 fun p_1=>ck ((0:Int)≤x45∧x45<(x43n:Int)) (gInt .i64 (Addr.add (B3 p_1) (Int.toNat x45*1)) h fun x=>bnd (C B03 [.slice b bn bc,.int .i64 (IntKind.wrap .i64 (4+(IntKind.wrap .i64 (2*x45)))),.int .i64 x] h) fun r w=>aBool r fun _=>R U8 Dt5 [(1,.slice b bn bc),(2,.pointer (some p)),(43,.slice x43 x43n x43c),(44,.int .i64 x44),(45,.int .i64 (IntKind.wrap .i64 (x45+1)))] w))
 (gAgg (Addr.add p 8) 8 h fun z2=>R U8 Du2 [(1,.slice b bn bc),(58,.agg ⟨z2⟩),(59,.int .i64 0)] h):=by kernel_rfl
theorem Af2 (b:Option Addr) (bn bc:Nat) (x58:List Value) (x59:Int) (h:H) :
 A4 PR Bs5 C R U8 Tryz.f236 100000 true Du2 [(1,.slice b bn bc),(58,.agg ⟨x58⟩),(59,.int .i64 x59)] h =
 cond (decide (x59<8))
 (ck ((0:Int)≤x59∧x59<((8:Nat):Int)) (nth x58 (Int.toNat x59*1) fun x=>aInt .i64 x fun z1=>aSome b fun p=>ck ((0:Int)≤IntKind.wrap .i64 (12+x59)∧IntKind.wrap .i64 (12+x59)<(bn:Int)) (pV (Addr.add (B3 p) (Int.toNat (IntKind.wrap .i64 (12+x59))*1)) (.int .u8 (IntKind.wrap .u8 (z1))) h fun w=>R U8 Du2 [(1,.slice b bn bc),(58,.agg ⟨x58⟩),(59,.int .i64 (IntKind.wrap .i64 (x59+1)))] w)))
 (aSome b fun p_1=>ck ((0:Int)≤20∧20<(bn:Int)) (pV (Addr.add (B3 p_1) (Int.toNat 20*1)) (.int .u8 167) h fun w1=>ckB (fitsOpen b A3 w1) (ck ((0:Int)≤21∧21≤(bc:Int)) (bnd (C Ai0 [.slice (I0 b (decide (0<bc)) (0*1)) ((Int.toNat 21)-0) (bc-0)] w1) fun r w2=>aInt .u8 r fun z2=>aSome b fun p_2=>ck ((0:Int)≤21∧21<(bn:Int)) (pV (Addr.add (B3 p_2) (Int.toNat 21*1)) (.int .u8 z2) w2 fun w3=>some (.bool true,w3)))))):=by kernel_rfl
def A19:Cuts:=⟨0,[],[(8,[8,11,12])],[(7,⟨[0,1,2,3,4,5,6,7,8,9],[0,1,3,7,0,31,63,31,159,511],[(7,[5])],[]⟩)]⟩
def Bp5:List Item:=A5 Tryz.f247
def A83:List Item:=stk [0,1,0,1,0,1,0,1,0,1,0,1,0,0] Bp5
theorem Ey0 (c:Option Addr) (r:List Value) (decode:Value) (h:H) :
 A4 PR A19 C R Z2 Tryz.f247 100000 true Bp5 [(0,.pointer c),(1,.agg ⟨r⟩),(2,decode)] h =
 nw (.cells B8 false r) h fun b w=>gAgg ⟨b,0,none⟩ 2 w fun x=>bnd (C U6 [.pointer c,.agg ⟨x⟩] w) fun q1 w1=>as2 q1 fun q2 q3=>aSl q2 fun z1 xn xc=>aBool q3 fun z2=>cond (!z2)
 (some (.tuple ⟨[.int .i64 0,.int .i64 2]⟩,w1))
 (aFn decode fun g fi cp=>bnd (C g (fi++([.slice z1 xn xc]++cp)) w1) fun q4 w2=>as2 q4 fun q5 q6=>aInt .i64 q5 fun z3=>aInt .i64 q6 fun z4=>cond (z4==2)
 (aSome c fun p=>gMap (Addr.add p 3) w2 fun z5=>gAgg ⟨b,0,none⟩ 2 w2 fun z6=>keyN PR B8 (.agg ⟨z6⟩) (opt z5 fun q7=>mapAt w2 q7 fun es _=>opt (Au2 (.int .i64 0) (.agg ⟨z6⟩) es) fun f=>aInt .i64 f.1 fun z7=>keyN PR B8 (.agg ⟨z6⟩) (opt z5 fun q8=>mapAt w2 q8 fun es_1 cl_1=>opt (Ep6 (.int .i64 0) (.agg ⟨z6⟩) es_1 cl_1) fun f_1=>aInt .i64 f_1.1 fun _=>lt (H.set w2 q8 f_1.2.2) fun w3=>keyN PR B8 (.agg ⟨z6⟩) (opt z5 fun q9=>mapAt w3 q9 fun es_2 _=>opt (Au2 (.int .i64 0) (.agg ⟨z6⟩) es_2) fun f_2=>aInt .i64 f_2.1 fun z9=>same (.int .i64 z7) (.int .i64 z9) (opt z5 fun q10=>mapAt w3 q10 fun es_3 cl_3=>opt (B28 (f_1.2.1:Int) es_3 0) fun i=>lt (H.set w3 q10 (.map (modN (fun e=>{ e with val:=.int .i64 (IntKind.wrap .i64 (z7+1)) }) i es_3) cl_3)) fun w4=>R Z2 A83 [(8,.int .i64 0),(11,.int .i64 z3),(12,.int .i64 z4)] w4)))))
 (R Z2 A83 [(8,.int .i64 0),(11,.int .i64 z3),(12,.int .i64 z4)] w2)):=by kernel_rfl
theorem B37 (nonev:Int) (v:Int) (isv:Int) (h:H) :
 A4 PR A19 C R Z2 Tryz.f247 100000 true A83 [(8,.int .i64 nonev),(11,.int .i64 v),(12,.int .i64 isv)] h =
 cond (isv != 1)
 (some (.tuple ⟨[.int .i64 nonev,.int .i64 isv]⟩,h))
 (some (.tuple ⟨[.int .i64 v,.int .i64 isv]⟩,h)):=by kernel_rfl
def Bw1:Cuts:=⟨0,[],[],[]⟩
def Dz5:List Item:=A5 Tryz.f262
theorem Gk5 (f:Int) (fv0:Addr) (h:H) :
 A4 PR Bw1 C R Av0 Tryz.f262 100000 true Dz5 [(0,.int .i64 f),(1,.pointer (some fv0))] h =
 bnd (cond (decide (f>0)) (gPtr fv0 h fun x=>aSome x fun p=>gAgg (Addr.add p 2) 2 h fun z1=>bnd (C S8 [.agg ⟨z1⟩,.int .i64 (IntKind.wrap .i64 (f-1))] h) fun r w=>aBool r fun z2=>some (!z2,w)) (some (false,h))) fun c w1=>some (.bool c,w1):=by kernel_rfl
def An2:Cuts:=⟨0,[],[],[]⟩
def Bc7:List Item:=A5 Tryz.f268
theorem Dg9 (x:List Value) (i:Int) (h:H) :
 A4 PR An2 C R R0 Tryz.f268 100000 true Bc7 [(0,.agg ⟨x⟩),(1,.int .i64 i)] h =
 nw (.cells W0 false x) h fun b w=>gSl ⟨b,1,none⟩ w fun z1 xn _=>aSome z1 fun p=>ck ((0:Int)≤i∧i<(xn:Int)) (gInt .i64 (Addr.add (B3 p) (Int.toNat i*1)) w fun z2=>some (.bool (z2==1),w)):=by kernel_rfl
def Aq2:Cuts:=⟨0,[],[],[(4,⟨[0,1,2,3,4,10,5,6,7,8,9,11,12],[0,1,3,7,0,16,63,127,255,255,0,1535,4095],[(5,[3])],[]⟩)]⟩
def Bf2:List Item:=A5 Tryz.f270
theorem Dp1 (c:Option Addr) (b:Option Addr) (bn bc:Nat) (h:H) :
 A4 PR Aq2 C R Ac6 Tryz.f270 100000 true Bf2 [(0,.pointer c),(1,.slice b bn bc)] h =
 nw (.cells D2 false [.int .i64 0,.int .i64 0,.int .i64 0,.int .i64 0]) h fun p1 w=>nw (.cells D2 false [.int .i64 0,.int .i64 0,.int .i64 0,.int .i64 0]) w fun p2 w1=>aSome c fun p=>gFv (Addr.add p 2) w1 fun x=>isNilF x fun p3=>bnd (cond p3 (some (true,w1)) (aSome c fun p_1=>gInt .i64 (Addr.add p_1 0) w1 fun z1=>some ((bn:Int) != z1,w1))) fun c_1 w2=>cond c_1
 (gAgg ⟨p2,0,none⟩ 4 w2 fun z2=>ck (List.length z2=4) (pAgg ⟨p1,0,none⟩ z2 w2 fun w3=>gAgg ⟨p1,0,none⟩ 4 w3 fun z3=>some (.tuple ⟨[.agg ⟨z3⟩,.bool false]⟩,w3)))
 (aSome c fun p_2=>gFv (Addr.add p_2 2) w2 fun z4=>nw (.cells D2 false [.int .i64 0,.int .i64 0,.int .i64 0,.int .i64 0]) w2 fun p4 w4=>bnd (C H6 [.slice b bn bc] w4) fun r w5=>aSl r fun z5 xn xc=>gFv (Addr.add p_2 2) w5 fun z6=>B16 (z4) (z6) (aFn z4 fun g fi cp=>bnd (C g (fi++([.slice z5 xn xc]++cp)) w5) fun q1 w6=>as2 q1 fun q2 q3=>aAgg q2 fun z7=>aBool q3 fun z8=>ck (List.length z7=4) (pAgg ⟨p4,0,none⟩ z7 w6 fun w7=>cond (!z8)
 (gAgg ⟨p2,0,none⟩ 4 w7 fun z9=>ck (List.length z9=4) (pAgg ⟨p1,0,none⟩ z9 w7 fun w8=>gAgg ⟨p1,0,none⟩ 4 w8 fun z10=>some (.tuple ⟨[.agg ⟨z10⟩,.bool false]⟩,w8)))
 (gAgg ⟨p4,0,none⟩ 4 w7 fun z11=>ck (List.length z11=4) (pAgg ⟨p1,0,none⟩ z11 w7 fun w9=>gAgg ⟨p1,0,none⟩ 4 w9 fun z12=>some (.tuple ⟨[.agg ⟨z12⟩,.bool true]⟩,w9)))))):=by kernel_rfl
def Aq4:Cuts:=⟨0,[],[],[(2,⟨[0,1,2,3,4,5,6,7,8,9,10,11,12,13,14],[0,1,3,7,15,31,63,127,255,511,63,63,4095,8191,16383],[],[]⟩)]⟩
def Bf3:List Item:=A5 Tryz.f274
theorem Dp5 (c:Option Addr) (v:List Value) (h:H) :
 A4 PR Aq4 C R Ac3 Tryz.f274 100000 true Bf3 [(0,.pointer c),(1,.agg ⟨v⟩)] h =
 nw (.cells D2 false v) h fun b w=>aSome c fun p=>gInt .i64 (Addr.add p 0) w fun x=>ck ((0:Int)≤x∧(x:Int)≤x∧x≤(A9:Int)) (nw (.cells A3 false (I6 (Int.toNat x) [.int .u8 0])) w fun p1 w1=>aSome c fun p_1=>gFv (Addr.add p_1 1) w1 fun z1=>isNilF z1 fun p2=>bnd (cond p2 (some (true,w1)) (aSome c fun p_2=>gFv (Addr.add p_2 1) w1 fun z2=>gAgg ⟨b,0,none⟩ 4 w1 fun z3=>aFn z2 fun g fi cp=>bnd (C g (fi++([.agg ⟨z3⟩,.slice (some ⟨p1,0,none⟩) (Int.toNat x) (Int.toNat x)]++cp)) w1) fun r w2=>aBool r fun z4=>some (!z4,w2))) fun c_1 w3=>cond c_1
 (some (.tuple ⟨[.slice none 0 0,.bool false]⟩,w3))
 (some (.tuple ⟨[.slice (some ⟨p1,0,none⟩) (Int.toNat x) (Int.toNat x),.bool true]⟩,w3))):=by kernel_rfl
def Ef2:Cuts:=⟨0,[],[],[]⟩
def Gj6:List Item:=A5 Tryz.f286
theorem Ib0 (c:List Value) (x:List Value) (h:H) :
 A4 PR Ef2 C R Dl8 Tryz.f286 100000 true Gj6 [(0,.agg ⟨c⟩),(1,.agg ⟨x⟩)] h =
 nw (.cells G2 false c) h fun b w=>nw (.cells L6 false x) w fun p1 w1=>gInt .i64 ⟨p1,0,none⟩ w1 fun z1=>bnd (cond (decide (z1<0)) (some (true,w1)) (gInt .i64 ⟨p1,0,none⟩ w1 fun z2=>gSl ⟨b,0,none⟩ w1 fun _ xn _=>some (decide (z2≥(xn:Int)),w1))) fun c_1 w2=>bnd (cond c_1 (some (true,w2)) (gInt .i64 ⟨p1,1,none⟩ w2 fun z4=>some (decide (z4<0),w2))) fun c_2 w3=>bnd (cond c_2 (some (true,w3)) (gInt .i64 ⟨p1,2,none⟩ w3 fun z5=>some (decide (z5<0),w3))) fun c_3 w4=>bnd (cond c_3 (some (true,w4)) (gInt .i64 ⟨p1,3,none⟩ w4 fun z6=>some (decide (z6<0),w4))) fun c_4 w5=>cond c_4
 (some (.bool false,w5))
 (gSl ⟨b,0,none⟩ w5 fun z7 xn_1 _=>gInt .i64 ⟨p1,0,none⟩ w5 fun z8=>aSome z7 fun p=>ck ((0:Int)≤z8∧z8<(xn_1:Int)) (gInt .i64 (Addr.add (B3 p) (Int.toNat z8*1)) w5 fun z9=>bnd (C Bq0 [.int .i64 z9] w5) fun r w6=>aInt .i64 r fun z10=>gInt .i64 ⟨p1,1,none⟩ w6 fun z11=>cond (decide (z11>z10))
 (some (.bool false,w6))
 (gInt .i64 ⟨p1,1,none⟩ w6 fun z12=>gInt .i64 ⟨p1,2,none⟩ w6 fun z13=>bnd (cond (decide (z13≤(IntKind.wrap .i64 ((IntKind.wrap .i64 (z10-z12))*64)))) (gInt .i64 ⟨p1,3,none⟩ w6 fun z14=>gInt .i64 ⟨p1,2,none⟩ w6 fun z15=>some (decide (z14≤(IntKind.wrap .i64 ((IntKind.wrap .i64 ((IntKind.wrap .i64 (z10-z12))*64))-z15))),w6)) (some (false,w6))) fun c_5 w7=>some (.bool c_5,w7)))):=by kernel_rfl
def By2:Cuts:=⟨0,[],[],[]⟩
def D08:List Item:=A5 Tryz.f289
theorem Gb1 (n:Int) (h:H) :
 A4 PR By2 C R Au6 Tryz.f289 100000 true D08 [(0,.int .i64 n)] h =
 bnd (cond (decide (n≥0)) (some (decide (n≤65536),h)) (some (false,h))) fun c w=>some (.bool c,w):=by kernel_rfl
def De4:Cuts:=⟨0,[],[],[(1,⟨[0,1,2,3,4,5,6,7,8,9,10,11,12,13],[0,1,3,7,0,31,63,0,255,511,1023,1023,2047,8191],[],[]⟩)]⟩
def Eh2:List Item:=A5 Tryz.f291
theorem G37 (s:Option Addr) (env:Int) (c:List Value) (h:H) :
 A4 PR De4 C R A54 Tryz.f291 100000 true Eh2 [(0,.pointer s),(1,.int .i64 env),(2,.agg ⟨c⟩)] h =
 nw (.cells V4 false c) h fun b w=>aSome s fun p=>gSl (Addr.add p 0) w fun x xn _=>aSome x fun p_1=>ck ((0:Int)≤env∧env<(xn:Int)) (gPtr (Addr.add (B3 p_1) (Int.toNat env*1)) w fun z1=>gAgg ⟨b,0,none⟩ 6 w fun z2=>bnd (C J7 [.pointer z1,.agg ⟨z2⟩] w) fun r w1=>as2 r fun q1 q2=>aInt .i64 q1 fun z3=>aBool q2 fun z4=>cond (!z4)
 (some (.tuple ⟨[.int .i64 0,.int .i64 4]⟩,w1))
 (some (.tuple ⟨[.int .i64 z3,.int .i64 0]⟩,w1))):=by kernel_rfl
def Bd7:Cuts:=⟨0,[],[],[(6,⟨[0,1,2,3,4,5,6,7,8,9,10,11,12,13,14,15,16,17,18,19,20,21,22,23,24,25,26,27,28,29,30,31,32,33,34,35],[0,1,3,7,15,31,63,127,127,383,1023,2047,4095,8191,8191,24575,8191,122879,262143,524287,1048575,2097151,4194303,8388607,16777215,33554431,67108863,134217727,67108863,335544319,872415231,1946157055,4093640703,8589934591,17179869183,34359738367],[],[]⟩),(8,⟨[0,1,2,3,4,5,6,7,8,9],[0,1,3,7,0,16,63,127,0,511],[],[]⟩)]⟩
def B66:List Item:=A5 Tryz.f295
theorem Eq2 (r:Option Addr) (env:Int) (name:Int) (right:Int) (atv:Int) (n:Int) (h:H) :
 A4 PR Bd7 C R Ah9 Tryz.f295 100000 true B66 [(0,.pointer r),(1,.int .i64 env),(2,.int .i64 name),(3,.int .i64 right),(4,.int .i64 atv),(5,.int .i64 n)] h =
 aSome r fun p=>gPtr (Addr.add p 1) h fun x=>bnd (C A43 [.pointer x,.int .i64 env,.int .i64 name] h) fun q1 w=>as2 q1 fun q2 q3=>aAgg q2 fun z1=>aInt .i64 q3 fun z2=>nw (.cells V4 false [.int .i64 0,.int .i64 0,.int .i64 0,.int .i64 0,.int .i64 0,.int .i64 0]) w fun b w1=>ck (List.length z1=6) (pAgg ⟨b,0,none⟩ z1 w1 fun w2=>cond (z2 != 0)
 (some (.tuple ⟨[.int .i64 0,.int .i64 z2]⟩,w2))
 (gInt .i64 ⟨b,1,none⟩ w2 fun z3=>cond ((O1 .i64 z3 right)==0)
 (some (.tuple ⟨[.int .i64 0,.int .i64 3]⟩,w2))
 (bnd (cond (decide (atv<0)) (some (true,w2)) (some (decide (n<0),w2))) fun c w3=>bnd (cond c (some (true,w3)) (gInt .i64 ⟨b,3,none⟩ w3 fun z4=>some (decide (atv>z4),w3))) fun c_1 w4=>bnd (cond c_1 (some (true,w4)) (gInt .i64 ⟨b,3,none⟩ w4 fun z5=>some (decide (n>(IntKind.wrap .i64 (z5-atv))),w4))) fun c_2 w5=>bnd (cond c_2 (some (true,w5)) (gInt .i64 ⟨b,0,none⟩ w5 fun z6=>some (decide (z6<0),w5))) fun c_3 w6=>bnd (cond c_3 (some (true,w6)) (gInt .i64 ⟨b,0,none⟩ w6 fun z7=>aSome r fun p_1=>gSl (Addr.add p_1 2) w6 fun _ xn _=>some (decide (z7≥(xn:Int)),w6))) fun c_4 w7=>cond c_4
 (some (.tuple ⟨[.int .i64 0,.int .i64 1]⟩,w7))
 (aSome r fun p_2=>gSl (Addr.add p_2 2) w7 fun z9 xn_1 _=>gInt .i64 ⟨b,0,none⟩ w7 fun z10=>aSome z9 fun p_3=>ck ((0:Int)≤z10∧z10<(xn_1:Int)) (gAgg (Addr.add (B3 p_3) (Int.toNat z10*2)) 2 w7 fun z11=>nw (.cells A88 false [.int .i64 0,.int .i64 0]) w7 fun p1 w8=>ck (List.length z11=2) (pAgg ⟨p1,0,none⟩ z11 w8 fun w9=>gInt .i64 ⟨b,2,none⟩ w9 fun z12=>gInt .i64 ⟨p1,1,none⟩ w9 fun z13=>bnd (cond (decide ((IntKind.wrap .i64 (z12+atv))>z13)) (some (true,w9)) (gInt .i64 ⟨p1,1,none⟩ w9 fun z14=>gInt .i64 ⟨b,2,none⟩ w9 fun z15=>some (decide (n>(IntKind.wrap .i64 ((IntKind.wrap .i64 (z14-z15))-atv))),w9))) fun c_5 w10=>cond c_5
 (some (.tuple ⟨[.int .i64 0,.int .i64 1]⟩,w10))
 (gInt .i64 ⟨p1,0,none⟩ w10 fun z16=>gInt .i64 ⟨b,2,none⟩ w10 fun z17=>some (.tuple ⟨[.int .i64 (IntKind.wrap .i64 ((IntKind.wrap .i64 (z16+z17))+atv)),.int .i64 0]⟩,w10)))))))):=by kernel_rfl
def Dd7:Cuts:=⟨0,[],[],[]⟩
def Eb1:List Item:=A5 Tryz.f300
theorem G64 (q:Option Addr) (s:Int) (h:H) :
 A4 PR Dd7 C R As4 Tryz.f300 100000 true Eb1 [(0,.pointer q),(1,.int .i64 s)] h =
 bnd (cond (decide (s≥0)) (aSome q fun p=>gSl (Addr.add p 0) h fun _ xn _=>some (decide (s<(xn:Int)),h)) (some (false,h))) fun c w=>some (.bool c,w):=by kernel_rfl
def Dd3:Cuts:=⟨0,[],[],[]⟩
def Eg8:List Item:=A5 Tryz.f305
theorem G03 (n:Option Addr) (name:Int) (h:H) :
 A4 PR Dd3 C R Bo9 Tryz.f305 100000 true Eg8 [(0,.pointer n),(1,.int .i64 name)] h =
 bnd (cond (decide (name≥0)) (aSome n fun p=>gSl (Addr.add p 0) h fun _ xn _=>some (decide ((O1 .i64 name 255)<(xn:Int)),h)) (some (false,h))) fun c w=>bnd (cond c (aSome n fun p_1=>gSl (Addr.add p_1 0) w fun z1 xn_1 _=>aSome z1 fun p_2=>ck ((0:Int)≤O1 .i64 name 255∧O1 .i64 name 255<(xn_1:Int)) (gBool (Addr.add (Addr.add (B3 p_2) (Int.toNat (O1 .i64 name 255)*2)) 1) w fun z2=>some (z2,w))) (some (false,w))) fun c_1 w1=>bnd (cond c_1 (aSome n fun p_3=>gSl (Addr.add p_3 0) w1 fun z3 xn_2 _=>aSome z3 fun p_4=>ck ((0:Int)≤O1 .i64 name 255∧O1 .i64 name 255<(xn_2:Int)) (gInt .i64 (Addr.add (Addr.add (B3 p_4) (Int.toNat (O1 .i64 name 255)*2)) 0) w1 fun z4=>some (z4==(Int.fdiv name (2 ^ 8)),w1))) (some (false,w1))) fun c_2 w2=>some (.bool c_2,w2):=by kernel_rfl
def Dv9:Cuts:=⟨0,[(3,[3,9,10,11])],[],[]⟩
def Er7:List Item:=A5 Tryz.f312
def B10:List Item:=stk [0,1,0,1,0,0,1,4,5] Er7
theorem Ih3 (b:Option Addr) (bn bc:Nat) (h:H) :
 A4 PR Dv9 C R Ai0 Tryz.f312 100000 true Er7 [(0,.slice b bn bc)] h =
 R Ai0 B10 [(3,.int .u8 (IntKind.wrap .u8 ((bn:Int)))),(9,.slice b bn bc),(10,.int .i64 (bn:Int)),(11,.int .i64 0)] h:=by kernel_rfl
theorem Es9 (n:Int) (x9:Option Addr) (x9n x9c:Nat) (x10:Int) (x11:Int) (h:H) :
 A4 PR Dv9 C R Ai0 Tryz.f312 100000 true B10 [(3,.int .u8 n),(9,.slice x9 x9n x9c),(10,.int .i64 x10),(11,.int .i64 x11)] h =
 cond (decide (x11<x10))
 (aSome x9 fun p=>ck ((0:Int)≤x11∧x11<(x9n:Int)) (gInt .u8 (Addr.add (B3 p) (Int.toNat x11*1)) h fun x=>R Ai0 B10 [(3,.int .u8 (IntKind.wrap .u8 (n+x))),(9,.slice x9 x9n x9c),(10,.int .i64 x10),(11,.int .i64 (IntKind.wrap .i64 (x11+1)))] h))
 (some (.int .u8 n,h)):=by kernel_rfl
def Aa2:Cuts:=⟨0,[],[(3,[0,1])],[]⟩
def Al6:List Item:=A5 Tryz.f319
def Ay4:List Item:=stk [0,1,0,1,0,0] Al6
theorem Dg3 (s:Option Addr) (sn sc:Nat) (n:Int) (h:H) :
 A4 PR Aa2 C R M0 Tryz.f319 100000 true Al6 [(0,.slice s sn sc),(1,.int .i64 n)] h =
 cond (decide (n<0))
 (none)
 (R M0 Ay4 [(0,.slice s sn sc),(1,.int .i64 n)] h):=by kernel_rfl
theorem B45 (s:Option Addr) (sn sc:Nat) (n:Int) (h:H) :
 A4 PR Aa2 C R M0 Tryz.f319 100000 true Ay4 [(0,.slice s sn sc),(1,.int .i64 n)] h =
 Gd3 s sc fun cap=>cond (decide ((IntKind.wrap .i64 (n-(IntKind.wrap .i64 ((cap:Int)-(sn:Int)))))>0))
 (Gd3 s sc fun cap_1=>ckB (fitsOpen s B8 h) (ck ((0:Int)≤(cap_1:Int)∧(cap_1:Int)≤(sc:Int)) (none)))
 (some (.slice s sn sc,h)):=by kernel_rfl
def P6:Cuts:=⟨0,[(2,[0,1,7,8])],[],[]⟩
def Ab1:List Item:=A5 Tryz.f322
def N7:List Item:=stk [0,1,0,0,1,4,5] Ab1
theorem Bt4 (s:Option Addr) (sn sc:Nat) (f:Value) (h:H) :
 A4 PR P6 C R E1 Tryz.f322 100000 true Ab1 [(0,.slice s sn sc),(1,f)] h =
 R E1 N7 [(0,.slice s sn sc),(1,f),(7,.int .i64 (sn:Int)),(8,.int .i64 0)] h:=by kernel_rfl
theorem Am2 (s:Option Addr) (sn sc:Nat) (f:Value) (x7:Int) (x8:Int) (h:H) :
 A4 PR P6 C R E1 Tryz.f322 100000 true N7 [(0,.slice s sn sc),(1,f),(7,.int .i64 x7),(8,.int .i64 x8)] h =
 cond (decide (x8<x7))
 (aSome s fun p=>ck ((0:Int)≤x8∧x8<(sn:Int)) (gAgg (Addr.add (B3 p) (Int.toNat x8*4)) 4 h fun x=>aFn f fun g fi cp=>bnd (C g (fi++([.agg ⟨x⟩]++cp)) h) fun r w=>aBool r fun z1=>cond z1
 (some (.int .i64 x8,w))
 (R E1 N7 [(0,.slice s sn sc),(1,f),(7,.int .i64 x7),(8,.int .i64 (IntKind.wrap .i64 (x8+1)))] w)))
 (some (.int .i64 (-1),h)):=by kernel_rfl
def E30:Cuts:=⟨0,[],[],[(5,⟨[0,1,2,3,4],[0,1,0,4,15],[],[]⟩)]⟩
def Hf0:List Item:=A5 Tryz.f327
theorem It2 (p:List Value) (b:Option Addr) (bn bc:Nat) (h:H) :
 A4 PR E30 C R B15 Tryz.f327 100000 true Hf0 [(0,.agg ⟨p⟩),(1,.slice b bn bc)] h =
 nw (.cells D9 false p) h fun p1 w=>gAgg ⟨p1,0,none⟩ 36 w fun x=>bnd (C Ek3 [.agg ⟨x⟩] w) fun r w1=>aBool r fun z1=>cond (!z1)
 (some (.bool false,w1))
 (gInt .i64 ⟨p1,0,none⟩ w1 fun z2=>gInt .i64 ⟨p1,1,none⟩ w1 fun z3=>gInt .i64 ⟨p1,2,none⟩ w1 fun z4=>gInt .i64 ⟨p1,3,none⟩ w1 fun z5=>nw (.cells A3 false [.int .u8 1,.int .u8 (IntKind.wrap .u8 (z2)),.int .u8 (IntKind.wrap .u8 (z3)),.int .u8 (IntKind.wrap .u8 (z4)),.int .u8 (IntKind.wrap .u8 (z5)),.int .u8 197]) w1 fun p2 w2=>gCells (some ⟨p2,0,none⟩) (min 6 bn*1) w2 fun cs=>pCells b cs w2 fun w3=>ckB (fitsOpen b A3 w3) (ck ((0:Int)≤6∧6≤(bc:Int)) (bnd (C Ai0 [.slice (I0 b (decide (0<bc)) (0*1)) ((Int.toNat 6)-0) (bc-0)] w3) fun q1 w4=>aInt .u8 q1 fun z6=>aSome b fun p_1=>ck ((0:Int)≤6∧6<(bn:Int)) (pV (Addr.add (B3 p_1) (Int.toNat 6*1)) (.int .u8 z6) w4 fun w5=>ckB (fitsOpen b A3 w5) (ck ((0:Int)≤8∧8≤(bn:Int)) (ckB (liveA ⟨p1,4,none⟩ w5) (gCells (I0 (some ⟨p1,4,none⟩) (decide (0<32)) (0*1)) (min (32-0) (bn-(Int.toNat 8))*1) w5 fun cs_1=>pCells (I0 b (decide (Int.toNat 8<bc)) ((Int.toNat 8)*1)) cs_1 w5 fun w6=>some (.bool true,w6)))))))):=by kernel_rfl
def Es3:Cuts:=⟨0,[],[],[]⟩
def Gw5:List Item:=A5 Tryz.f329
theorem Ib5 (n:Int) (A9:Int) (h:H) :
 A4 PR Es3 C R A31 Tryz.f329 100000 true Gw5 [(0,.int .i64 n),(1,.int .i64 A9)] h =
 bnd (cond (decide (n≥0)) (some (decide (n≤A9),h)) (some (false,h))) fun c w=>some (.bool c,w):=by kernel_rfl
end
end Go.EQ

set_option maxRecDepth 100000
namespace Go.EQ
open Go Go.NN Go.Proofs
variable (C:E0) (R:Ai7)
noncomputable section
def D32:Cuts:=⟨0,[],[],[(5,⟨[0,1,2,3,4],[0,1,0,4,15],[(3,[1])],[]⟩)]⟩
def E90:List Item:=A5 Tryz.f9
theorem Hu2  (h:H) :
 A4 PR D32 C R Bp9 Tryz.f9 100000 true E90 [] h =
 bnd (C Br5 [] h) fun r w=>aStr r fun x=>ck (ByteArray.size x≤A9) (nw (.cells A3 false (A0 (ByteArray.data x).toList)) w fun b w1=>nw (.cells A7 false zz1) w1 fun p1 w2=>pAgg ⟨p1,0,none⟩ [.int .i64 1,.int .i64 0,.int .i64 0,.int .i64 0,.int .i64 0,.int .i64 0,.int .i64 0,.int .i64 0,.int .i64 0,.int .i64 0,.int .i64 0,.int .i64 0,.int .i64 0,.int .i64 0,.int .i64 0,.int .i64 0] w2 fun w3=>ck ((0:Int)≤0∧0<((8:Nat):Int)) (pV (Addr.add ⟨p1,8,none⟩ (Int.toNat 0*1)) (.int .i64 1) w3 fun w4=>gAgg ⟨p1,0,none⟩ 16 w4 fun z1=>bnd (C Aa9 [.agg ⟨z1⟩] w4) fun q1 w5=>aStr q1 fun z2=>pCells (some (O7 b)) (A0 (List.take (min (ByteArray.size z2) (ByteArray.size x)) (ByteArray.data z2).toList)) w5 fun w6=>ckB (fitsOpen (some (O7 b)) A3 w6) (ck ((0:Int)≤192∧192≤((ByteArray.size x:Nat):Int)) (bnd (C Bf8 [.agg ⟨[.int .i64 3,.int .i64 0,.int .i64 1,.int .i64 0]⟩] w6) fun q2 w7=>aStr q2 fun z3=>ckB (fitsOpen (some (O7 b)) A3 w7) (ck ((0:Int)≤192∧192≤((ByteArray.size x:Nat):Int)) (same (.slice (I0 (some (O7 b)) (decide (Int.toNat 192<ByteArray.size x)) ((Int.toNat 192)*1)) ((ByteArray.size x)-(Int.toNat 192)) ((ByteArray.size x)-(Int.toNat 192))) (.slice (I0 (some (O7 b)) (decide (Int.toNat 192<ByteArray.size x)) ((Int.toNat 192)*1)) ((ByteArray.size x)-(Int.toNat 192)) ((ByteArray.size x)-(Int.toNat 192))) (pCells (I0 (some (O7 b)) (decide (Int.toNat 192<ByteArray.size x)) ((Int.toNat 192)*1)) (A0 (List.take (min (ByteArray.size z3) ((ByteArray.size x)-(Int.toNat 192))) (ByteArray.data z3).toList)) w7 fun w8=>some (.slice (some (O7 b)) (ByteArray.size x) (ByteArray.size x),w8)))))))):=by kernel_rfl
def D14:Cuts:=⟨0,[],[],[]⟩
def E93:List Item:=A5 Tryz.f14
theorem Hs9  (h:H) :
 A4 PR D14 C R B92 Tryz.f14 100000 true E93 [] h =
 bnd (C Bp9 [] h) fun r w=>aSl r fun x xn xc=>bnd (C Ao2 [.slice x xn xc] w) fun q1 w1=>as4 q1 fun q2 q3 q4 q5=>aPtr q2 fun _=>aPtr q3 fun z2=>aPtr q4 fun _=>aPtr q5 fun _=>cond z2.isNone
 (some (.bool false,w1))
 (bnd (C Ae1 [.pointer z2,.int .i64 0] w1) fun q6 w2=>aAgg q6 fun z5=>nw (.cells Ag9 false [.int .i64 0,.int .i64 0,.slice none 0 0,.bool false]) w2 fun b w3=>ck (List.length z5=4) (pAgg ⟨b,0,none⟩ z5 w3 fun w4=>bnd (C Bd5 [.pointer z2,.int .i64 0] w4) fun q7 w5=>aAgg q7 fun z6=>nw (.cells Ag9 false [.int .i64 0,.int .i64 0,.slice none 0 0,.bool false]) w5 fun p1 w6=>ck (List.length z6=4) (pAgg ⟨p1,0,none⟩ z6 w6 fun w7=>bnd (C Ae1 [.pointer z2,.int .i64 0] w7) fun q8 w8=>aAgg q8 fun z7=>nw (.cells Ag9 false [.int .i64 0,.int .i64 0,.slice none 0 0,.bool false]) w8 fun p2 w9=>ck (List.length z7=4) (pAgg ⟨p2,0,none⟩ z7 w9 fun w10=>bnd (C Am4 [.pointer z2,.int .i64 1] w10) fun q9 w11=>as2 q9 fun q10 q11=>aAgg q10 fun z8=>aInt .i64 q11 fun z9=>nw (.cells A7 false zz1) w11 fun p3 w12=>ck (List.length z8=16) (pAgg ⟨p3,0,none⟩ z8 w12 fun w13=>gInt .i64 ⟨b,1,none⟩ w13 fun z10=>bnd (cond (z10==110) (gInt .i64 ⟨p1,1,none⟩ w13 fun z11=>some (z11==0,w13)) (some (false,w13))) fun c w14=>bnd (cond c (gInt .i64 ⟨p1,0,none⟩ w14 fun z12=>some (z12==1,w14)) (some (false,w14))) fun c_1 w15=>bnd (cond c_1 (gBool ⟨p2,3,none⟩ w15 fun z13=>some (z13,w15)) (some (false,w15))) fun c_2 w16=>bnd (cond c_2 (some (z9==0,w16)) (some (false,w16))) fun c_3 w17=>bnd (cond c_3 (gInt .i64 ⟨p3,1,none⟩ w17 fun z14=>some (z14==1,w17)) (some (false,w17))) fun c_4 w18=>bnd (cond c_4 (ck ((0:Int)≤0∧0<((8:Nat):Int)) (gInt .i64 (Addr.add ⟨p3,8,none⟩ (Int.toNat 0*1)) w18 fun z15=>some (z15==1,w18))) (some (false,w18))) fun c_5 w19=>some (.bool c_5,w19)))))):=by kernel_rfl
def Ds9:Cuts:=⟨0,[],[],[(7,⟨[0,1,2,3,4,5,6,7,8,9,10,11,12,13,14,15,16],[0,1,3,7,0,0,32,0,128,0,512,2047,4095,8191,8191,16383,65535],[],[]⟩),(9,⟨[0,1,2,3,4,5,6,7,8,9,10,11,12,13],[0,1,3,7,0,0,32,0,128,0,512,1536,4095,8191],[],[]⟩),(11,⟨[0,1,2,3,4,5,6,7,8,9,10,11,12,13,14,15,16],[0,1,3,7,0,0,32,0,128,0,512,0,2048,0,8192,32767,65535],[],[]⟩),(13,⟨[0,1,2,3,4,5,6,7,8,9,10,11,12,13,14,15,16,17,18,19,20,21,22,23],[0,1,3,7,15,31,63,0,0,256,0,1024,0,4096,0,16384,0,65536,262143,524287,1048575,1048575,2097151,8388607],[],[]⟩),(15,⟨[0,1,2,3,4,5,6,7,8,9,10,11,12,13,14,15],[0,1,3,7,15,31,63,0,0,256,1023,2047,4095,4095,8191,32767],[],[]⟩),(17,⟨[0,1,2,3,4,5,6,7,8,9,10,11,12,13,14,15,16,17],[0,1,3,7,0,16,48,112,240,0,1008,2032,4095,8191,16383,16383,32767,131071],[],[]⟩),(19,⟨[0,1,2,3,4,5,6,7,8,9,10,11,12,13,14,15],[0,1,3,7,0,16,48,112,240,0,1008,2032,0,4096,16383,32767],[],[]⟩),(23,⟨[0,1,2,3,4,5,6,7,8,9,10,11,12,13,14,15,16,17],[0,1,3,7,0,16,63,127,0,0,512,1536,3584,8191,16383,32767,32767,65535],[],[]⟩),(27,⟨[0,1,2,3,4,5,6,7,8,9,10,11,12,13,14,15,16,17,18],[0,0,0,4,15,31,63,127,255,511,63,1087,4095,8191,63,63,32831,131071,262143],[],[]⟩)]⟩
def Ew3:List Item:=A5 Tryz.f37
theorem Hf7 (k:Option Addr) (e:Int) (c:List Value) (h:H) :
 A4 PR Ds9 C R A36 Tryz.f37 100000 true Ew3 [(0,.pointer k),(1,.int .i64 e),(2,.agg ⟨c⟩)] h =
 nw (.cells Ba6 false c) h fun b w=>bnd (cond (decide (e<0)) (some (true,w)) (aSome k fun p=>gSl (Addr.add (Addr.add p 0) 1) w fun _ xn _=>some (decide (e≥(xn:Int)),w))) fun c_1 w1=>cond c_1
 (some (.tuple ⟨[.int .i64 1,.int .i64 0,.string (ByteArray.mk ⟨[]⟩)]⟩,w1))
 (gInt .i64 ⟨b,0,none⟩ w1 fun z1=>cond (z1==1)
 (aSome k fun p_1=>gPtr (Addr.add p_1 6) w1 fun z2=>gInt .i64 ⟨b,1,none⟩ w1 fun z3=>gInt .i64 ⟨b,2,none⟩ w1 fun z4=>gInt .i64 ⟨b,3,none⟩ w1 fun z5=>bnd (C Ga3 [.pointer z2,.int .i64 e,.int .i64 z3,.int .i64 z4,.int .i64 z5] w1) fun r w2=>as2 r fun q1 q2=>aStr q1 fun z6=>aInt .i64 q2 fun z7=>some (.tuple ⟨[.int .i64 z7,.int .i64 0,.string z6]⟩,w2))
 (cond (z1==2)
 (aSome k fun p_2=>gPtr (Addr.add p_2 6) w1 fun z8=>gInt .i64 ⟨b,1,none⟩ w1 fun z9=>gInt .i64 ⟨b,2,none⟩ w1 fun z10=>gSl ⟨b,6,none⟩ w1 fun z11 xn_1 _=>gCells z11 xn_1 w1 fun cs=>asBytes cs fun l=>bnd (C A06 [.pointer z8,.int .i64 e,.int .i64 z9,.int .i64 z10,.string (ByteArray.mk ⟨l⟩)] w1) fun q3 w3=>aInt .i64 q3 fun z12=>some (.tuple ⟨[.int .i64 z12,.int .i64 0,.string (ByteArray.mk ⟨[]⟩)]⟩,w3))
 (cond (z1==3)
 (aSome k fun p_3=>gPtr (Addr.add p_3 6) w1 fun z13=>gInt .i64 ⟨b,1,none⟩ w1 fun z14=>gInt .i64 ⟨b,2,none⟩ w1 fun z15=>gInt .i64 ⟨b,4,none⟩ w1 fun z16=>gInt .i64 ⟨b,5,none⟩ w1 fun z17=>gInt .i64 ⟨b,3,none⟩ w1 fun z18=>bnd (C Ga8 [.pointer z13,.int .i64 e,.int .i64 z14,.int .i64 z15,.int .i64 z16,.int .i64 z17,.int .i64 z18] w1) fun q4 w4=>aInt .i64 q4 fun z19=>some (.tuple ⟨[.int .i64 z19,.int .i64 0,.string (ByteArray.mk ⟨[]⟩)]⟩,w4))
 (cond (z1==4)
 (aSome k fun p_4=>gPtr (Addr.add p_4 6) w1 fun z20=>aSome z20 fun p_5=>gPtr (Addr.add p_5 3) w1 fun z21=>gInt .i64 ⟨b,1,none⟩ w1 fun z22=>gInt .i64 ⟨b,4,none⟩ w1 fun z23=>gInt .i64 ⟨b,5,none⟩ w1 fun z24=>gInt .i64 ⟨b,2,none⟩ w1 fun z25=>gInt .i64 ⟨b,3,none⟩ w1 fun z26=>bnd (C Gj3 [.pointer z21,.int .i64 e,.int .i64 z22,.int .i64 z23,.int .i64 z24,.int .i64 z25,.int .i64 z26] w1) fun q5 w5=>as2 q5 fun q6 q7=>aInt .i64 q6 fun z27=>aInt .i64 q7 fun z28=>some (.tuple ⟨[.int .i64 z28,.int .i64 z27,.string (ByteArray.mk ⟨[]⟩)]⟩,w5))
 (cond (z1==5)
 (aSome k fun p_6=>gPtr (Addr.add p_6 6) w1 fun z29=>aSome z29 fun p_7=>gPtr (Addr.add p_7 3) w1 fun z30=>gInt .i64 ⟨b,1,none⟩ w1 fun z31=>bnd (C Ga9 [.pointer z30,.int .i64 e,.int .i64 z31] w1) fun q8 w6=>as2 q8 fun q9 q10=>aInt .i64 q9 fun z32=>aInt .i64 q10 fun z33=>some (.tuple ⟨[.int .i64 z33,.int .i64 z32,.string (ByteArray.mk ⟨[]⟩)]⟩,w6))
 (cond (z1==6)
 (aSome k fun p_8=>gPtr (Addr.add p_8 5) w1 fun z34=>aSome k fun p_9=>gSl (Addr.add (Addr.add p_9 0) 1) w1 fun z35 xn_2 _=>aSome z35 fun p_10=>ck ((0:Int)≤e∧e<(xn_2:Int)) (gInt .i64 (Addr.add (B3 p_10) (Int.toNat e*1)) w1 fun z36=>bnd (C Gm0 [.pointer z34,.int .i64 z36] w1) fun q11 w7=>as2 q11 fun q12 q13=>aInt .i64 q12 fun z37=>aInt .i64 q13 fun z38=>some (.tuple ⟨[.int .i64 z38,.int .i64 z37,.string (ByteArray.mk ⟨[]⟩)]⟩,w7)))
 (cond (z1==7)
 (aSome k fun p_11=>gPtr (Addr.add p_11 5) w1 fun z39=>aSome k fun p_12=>gSl (Addr.add (Addr.add p_12 0) 1) w1 fun z40 xn_3 _=>aSome z40 fun p_13=>ck ((0:Int)≤e∧e<(xn_3:Int)) (gInt .i64 (Addr.add (B3 p_13) (Int.toNat e*1)) w1 fun z41=>gInt .i64 ⟨b,3,none⟩ w1 fun z42=>bnd (C Gr6 [.pointer z39,.int .i64 z41,.int .i64 z42] w1) fun q14 w8=>aInt .i64 q14 fun z43=>some (.tuple ⟨[.int .i64 z43,.int .i64 0,.string (ByteArray.mk ⟨[]⟩)]⟩,w8)))
 (cond (z1==8)
 (gInt .i64 ⟨b,3,none⟩ w1 fun z44=>bnd (C Em1 [.pointer k,.int .i64 e,.int .i64 z44] w1) fun q15 w9=>aBool q15 fun z45=>cond z45
 (aSome k fun p_14=>gSl (Addr.add p_14 7) w9 fun z46 xn_4 _=>gInt .i64 ⟨b,3,none⟩ w9 fun z47=>aSome z46 fun p_15=>ck ((0:Int)≤z47∧z47<(xn_4:Int)) (gPtr (Addr.add (B3 p_15) (Int.toNat z47*1)) w9 fun z48=>aSome k fun p_16=>gInt .i64 (Addr.add p_16 8) w9 fun z49=>bnd (C Gr4 [.pointer z48,.int .i64 e,.int .i64 z49] w9) fun q16 w10=>as2 q16 fun q17 q18=>aInt .i64 q17 fun z50=>aBool q18 fun _=>some (.tuple ⟨[.int .i64 0,.int .i64 z50,.string (ByteArray.mk ⟨[]⟩)]⟩,w10)))
 (some (.tuple ⟨[.int .i64 8,.int .i64 0,.string (ByteArray.mk ⟨[]⟩)]⟩,w9)))
 (cond (z1==9)
 (gInt .i64 ⟨b,3,none⟩ w1 fun z52=>bnd (C Em1 [.pointer k,.int .i64 e,.int .i64 z52] w1) fun q19 w11=>aBool q19 fun z53=>bnd (cond z53 (aSome k fun p_17=>gSl (Addr.add p_17 7) w11 fun z54 xn_5 _=>gInt .i64 ⟨b,3,none⟩ w11 fun z55=>aSome z54 fun p_18=>ck ((0:Int)≤z55∧z55<(xn_5:Int)) (gPtr (Addr.add (B3 p_18) (Int.toNat z55*1)) w11 fun z56=>gInt .i64 ⟨b,2,none⟩ w11 fun z57=>bnd (C Gr8 [.pointer z56,.int .i64 e,.int .i64 z57] w11) fun q20 w12=>aBool q20 fun z58=>some (z58,w12))) (some (false,w11))) fun c_2 w13=>cond c_2
 (some (.tuple ⟨[.int .i64 0,.int .i64 0,.string (ByteArray.mk ⟨[]⟩)]⟩,w13))
 (some (.tuple ⟨[.int .i64 8,.int .i64 0,.string (ByteArray.mk ⟨[]⟩)]⟩,w13)))
 (cond (z1==10)
 (aSome k fun p_19=>gInt .i64 (Addr.add p_19 8) w1 fun z59=>some (.tuple ⟨[.int .i64 0,.int .i64 z59,.string (ByteArray.mk ⟨[]⟩)]⟩,w1))
 (some (.tuple ⟨[.int .i64 7,.int .i64 0,.string (ByteArray.mk ⟨[]⟩)]⟩,w1)))))))))))):=by kernel_rfl
def Dv7:Cuts:=⟨0,[(2,[0,6])],[],[]⟩
def Er3:List Item:=A5 Tryz.f41
def B34:List Item:=stk [0,1,0,0,1,4,5] Er3
theorem Ih8 (c:Option Addr) (h:H) :
 A4 PR Dv7 C R A29 Tryz.f41 100000 true Er3 [(0,.pointer c)] h =
 R A29 B34 [(0,.pointer c),(6,.int .i64 0)] h:=by kernel_rfl
theorem Eu1 (c:Option Addr) (x6:Int) (h:H) :
 A4 PR Dv7 C R A29 Tryz.f41 100000 true B34 [(0,.pointer c),(6,.int .i64 x6)] h =
 cond (decide (x6<8))
 (bnd (C G4 [.pointer c,.int .i64 x6] h) fun r w=>as2 r fun q1 q2=>aAgg q1 fun x=>aInt .i64 q2 fun z1=>nw (.cells A7 false zz1) w fun b w1=>ck (List.length x=16) (pAgg ⟨b,0,none⟩ x w1 fun w2=>cond (z1==0)
 (some (.int .i64 x6,w2))
 (R A29 B34 [(0,.pointer c),(6,.int .i64 (IntKind.wrap .i64 (x6+1)))] w2)))
 (some (.int .i64 (-1),h)):=by kernel_rfl
def Ax4:Cuts:=⟨0,[],[],[]⟩
def Br9:List Item:=A5 Tryz.f71
theorem D33 (c:Option Addr) (i:Int) (h:H) :
 A4 PR Ax4 C R N3 Tryz.f71 100000 true Br9 [(0,.pointer c),(1,.int .i64 i)] h =
 bnd (C A34 [.int .i64 i] h) fun r w=>aAgg r fun x=>bnd (C Z0 [.pointer c,.agg ⟨x⟩] w) fun q1 w1=>aBool q1 fun z1=>some (.bool z1,w1):=by kernel_rfl
def Dk8:Cuts:=⟨0,[(3,[0,1,5,10])],[],[]⟩
def Ef5:List Item:=A5 Tryz.f72
def Bd0:List Item:=stk [0,1,0,1,0,0,1,4,5] Ef5
theorem Ia9 (c:Option Addr) (of:Value) (h:H) :
 A4 PR Dk8 C R Z6 Tryz.f72 100000 true Ef5 [(0,.pointer c),(1,of)] h =
 R Z6 Bd0 [(0,.pointer c),(1,of),(5,.slice none 0 0),(10,.int .i64 0)] h:=by kernel_rfl
theorem El3 (c:Option Addr) (of:Value) (out:Option Addr) (outn outc:Nat) (x10:Int) (h:H) :
 A4 PR Dk8 C R Z6 Tryz.f72 100000 true Bd0 [(0,.pointer c),(1,of),(5,.slice out outn outc),(10,.int .i64 x10)] h =
 cond (decide (x10<8))
 (bnd (C G4 [.pointer c,.int .i64 x10] h) fun r w=>as2 r fun q1 q2=>aAgg q1 fun x=>aInt .i64 q2 fun z1=>nw (.cells A7 false zz1) w fun b w1=>ck (List.length x=16) (pAgg ⟨b,0,none⟩ x w1 fun w2=>gAgg ⟨b,0,none⟩ 16 w2 fun z2=>ck (List.length z2=16) (nw (.cells G9 false zz2) w2 fun p1 w3=>ck (List.length (.int .i64 x10::(z2++[]))=17) (pAgg ⟨p1,0,none⟩ (.int .i64 x10::(z2++[])) w3 fun w4=>bnd (cond (z1==1) (gAgg ⟨p1,0,none⟩ 17 w4 fun z3=>aFn of fun g fi cp=>bnd (C g (fi++([.agg ⟨z3⟩]++cp)) w4) fun q3 w5=>aBool q3 fun z4=>some (z4,w5)) (some (false,w4))) fun c_1 w6=>cond c_1
 (gAgg ⟨p1,0,none⟩ 17 w6 fun z5=>ck (List.length z5=17) (nw (.cells G9 false (z5++[])) w6 fun p2 w7=>gCells (some ⟨p2,0,none⟩) (1*17) w7 fun cs=>ckB (fitsOpen out G9 w7) (apd G9 17 out outn outc 1 cs w7 fun a an ac w8=>R Z6 Bd0 [(0,.pointer c),(1,of),(5,.slice a an ac),(10,.int .i64 (IntKind.wrap .i64 (x10+1)))] w8)))
 (R Z6 Bd0 [(0,.pointer c),(1,of),(5,.slice out outn outc),(10,.int .i64 (IntKind.wrap .i64 (x10+1)))] w6)))))
 (some (.slice out outn outc,h)):=by kernel_rfl
def A02:Cuts:=⟨0,[],[],[]⟩
def Bu5:List Item:=A5 Tryz.f83
theorem D91 (c:Option Addr) (i:Int) (p:List Value) (h:H) :
 A4 PR A02 C R Al1 Tryz.f83 100000 true Bu5 [(0,.pointer c),(1,.int .i64 i),(2,.agg ⟨p⟩)] h =
 nw (.cells D9 false p) h fun b w=>gAgg ⟨b,0,none⟩ 36 w fun x=>bnd (C Bs0 [.agg ⟨x⟩] w) fun r w1=>as2 r fun q1 q2=>aSl q1 fun z1 xn xc=>aBool q2 fun z2=>bnd (C A33 [.int .i64 i] w1) fun q3 w2=>aAgg q3 fun z3=>bnd (C N5 [.pointer c,.agg ⟨z3⟩,.slice z1 xn xc,.bool z2] w2) fun q4 w3=>aBool q4 fun z4=>some (.bool z4,w3):=by kernel_rfl
def Bh5:Cuts:=⟨0,[(3,[1,2,3,4]),(7,[1,2,3,4,5]),(13,[1,2,3,6])],[],[]⟩
def Bv9:List Item:=A5 Tryz.f100
def Bv6:List Item:=stk [0,1,0,1,0,0,1,4,5] Bv9
def A94:List Item:=stk [0,1,0,1,0,0,1,4,5,6,0,1,0,4,0,1,0,0,1,4,5] Bv9
def Bv7:List Item:=stk [0,1,0,1,0,1,0,0,1,4,5] Bv9
theorem H92 (p:List Value) (h:H) :
 A4 PR Bh5 C R M6 Tryz.f100 100000 true Bv9 [(0,.agg ⟨p⟩)] h =
 nw (.cells Di9 false p) h fun b w=>nw (.cells G2 false [.slice none 0 0,.slice none 0 0,.slice none 0 0,.int .i64 0,.slice none 0 0]) w fun p1 w1=>gInt .i64 ⟨b,2,none⟩ w1 fun x=>nw (.cells G2 false [.slice none 0 0,.slice none 0 0,.slice none 0 0,.int .i64 0,.slice none 0 0]) w1 fun p2 w2=>pAgg ⟨p2,0,none⟩ [.slice none 0 0,.slice none 0 0,.slice none 0 0,.int .i64 x,.slice none 0 0] w2 fun w3=>R M6 Bv6 [(1,.pointer (some ⟨b,0,none⟩)),(2,.pointer (some ⟨p1,0,none⟩)),(3,.pointer (some ⟨p2,0,none⟩)),(4,.int .i64 0)] w3:=by kernel_rfl
theorem Ej1 (p:Addr) (x2:Addr) (b:Addr) (s:Int) (h:H) :
 A4 PR Bh5 C R M6 Tryz.f100 100000 true Bv6 [(1,.pointer (some p)),(2,.pointer (some x2)),(3,.pointer (some b)),(4,.int .i64 s)] h =
 gSl (Addr.add p 0) h fun _ xn _=>cond (decide (s<(xn:Int)))
 (gSl (Addr.add b 0) h fun z1 xn_1 xc_1=>nw (.cells A8 false [.int .i64 20]) h fun p1 w=>gCells (some ⟨p1,0,none⟩) (1*1) w fun cs=>ckB (fitsOpen z1 A8 w) (apd A8 1 z1 xn_1 xc_1 1 cs w fun a an ac w1=>pV (Addr.add b 0) (.slice a an ac) w1 fun w2=>R M6 A94 [(1,.pointer (some p)),(2,.pointer (some x2)),(3,.pointer (some b)),(4,.int .i64 s),(5,.int .i64 0)] w2))
 (R M6 Bv7 [(1,.pointer (some p)),(2,.pointer (some x2)),(3,.pointer (some b)),(6,.int .i64 0)] h):=by kernel_rfl
theorem Ek2 (p:Addr) (x2:Addr) (b:Addr) (s:Int) (i:Int) (h:H) :
 A4 PR Bh5 C R M6 Tryz.f100 100000 true A94 [(1,.pointer (some p)),(2,.pointer (some x2)),(3,.pointer (some b)),(4,.int .i64 s),(5,.int .i64 i)] h =
 cond (decide (i<9))
 (gSl (Addr.add b 1) h fun x xn xc=>nw (.cells A8 false [.int .i64 s]) h fun p1 w=>gCells (some ⟨p1,0,none⟩) (1*1) w fun cs=>ckB (fitsOpen x A8 w) (apd A8 1 x xn xc 1 cs w fun a an ac w1=>pV (Addr.add b 1) (.slice a an ac) w1 fun w2=>R M6 A94 [(1,.pointer (some p)),(2,.pointer (some x2)),(3,.pointer (some b)),(4,.int .i64 s),(5,.int .i64 (IntKind.wrap .i64 (i+1)))] w2))
 (gSl (Addr.add b 2) h fun z1 xn_1 xc_1=>nw (.cells A8 false [.int .i64 s]) h fun p2 w3=>nw (.cells Y9 false [.slice (some ⟨p2,0,none⟩) 1 1]) w3 fun p3 w4=>gCells (some ⟨p3,0,none⟩) (1*1) w4 fun cs_1=>ckB (fitsOpen z1 Y9 w4) (apd Y9 1 z1 xn_1 xc_1 1 cs_1 w4 fun a_1 an_1 ac_1 w5=>pV (Addr.add b 2) (.slice a_1 an_1 ac_1) w5 fun w6=>gSl (Addr.add b 4) w6 fun z2 xn_2 xc_2=>nw (.cells A8 false [.int .i64 s]) w6 fun p4 w7=>nw (.cells L6 false [.int .i64 s,.int .i64 0,.int .i64 0,.int .i64 492,.slice (some ⟨p4,0,none⟩) 1 1]) w7 fun p5 w8=>gCells (some ⟨p5,0,none⟩) (1*5) w8 fun cs_2=>ckB (fitsOpen z2 L6 w8) (apd L6 5 z2 xn_2 xc_2 1 cs_2 w8 fun a_2 an_2 ac_2 w9=>pV (Addr.add b 4) (.slice a_2 an_2 ac_2) w9 fun w10=>R M6 Bv6 [(1,.pointer (some p)),(2,.pointer (some x2)),(3,.pointer (some b)),(4,.int .i64 (IntKind.wrap .i64 (s+1)))] w10))):=by kernel_rfl
theorem El5 (p:Addr) (x2:Addr) (b:Addr) (i:Int) (h:H) :
 A4 PR Bh5 C R M6 Tryz.f100 100000 true Bv7 [(1,.pointer (some p)),(2,.pointer (some x2)),(3,.pointer (some b)),(6,.int .i64 i)] h =
 gSl (Addr.add p 1) h fun _ xn _=>cond (decide (i<(xn:Int)))
 (gSl (Addr.add p 1) h fun z1 xn_1 _=>aSome z1 fun p_1=>ck ((0:Int)≤i∧i<(xn_1:Int)) (gAgg (Addr.add (B3 p_1) (Int.toNat i*2)) 2 h fun z2=>nw (.cells Do2 false [.int .i64 0,.int .i64 0]) h fun p1 w=>ck (List.length z2=2) (pAgg ⟨p1,0,none⟩ z2 w fun w1=>gSl (Addr.add b 4) w1 fun z3 xn_2 xc_2=>gInt .i64 ⟨p1,0,none⟩ w1 fun z4=>gInt .i64 ⟨p1,0,none⟩ w1 fun z5=>gInt .i64 ⟨p1,1,none⟩ w1 fun z6=>nw (.cells A8 false [.int .i64 z5,.int .i64 z6]) w1 fun p2 w2=>nw (.cells L6 false [.int .i64 z4,.int .i64 (IntKind.wrap .i64 (8+i)),.int .i64 0,.int .i64 40,.slice (some ⟨p2,0,none⟩) 2 2]) w2 fun p3 w3=>gCells (some ⟨p3,0,none⟩) (1*5) w3 fun cs=>ckB (fitsOpen z3 L6 w3) (apd L6 5 z3 xn_2 xc_2 1 cs w3 fun a an ac w4=>pV (Addr.add b 4) (.slice a an ac) w4 fun w5=>R M6 Bv7 [(1,.pointer (some p)),(2,.pointer (some x2)),(3,.pointer (some b)),(6,.int .i64 (IntKind.wrap .i64 (i+1)))] w5))))
 (gAgg b 5 h fun z7=>ck (List.length z7=5) (pAgg x2 z7 h fun w6=>gAgg x2 5 w6 fun z8=>some (.agg ⟨z8⟩,w6))):=by kernel_rfl
def Bm4:Cuts:=⟨0,[(5,[1,4,20,21,22]),(12,[1,7,58,59,60]),(18,[7,89,90,91]),(22,[7,11,12,89,90,91,122,123,124])],[],[(9,⟨[0,1,3,5,6,7,9,10,2,4,8,11,12,13,14],[0,1,3,0,15,0,32,96,255,0,512,2047,4095,8191,16383],[(2,[6,10]),(4,[6,10]),(8,[10])],[]⟩),(10,⟨[0,1,2,3,4,5,6,7,8,9,10,11,12],[0,0,2,6,14,0,32,96,224,510,1023,2047,4095],[],[]⟩),(14,⟨[0,1,2,3,4,5,6,7,8,9,10,11],[0,0,2,6,14,0,32,96,254,511,1023,2047],[(6,[4])],[]⟩),(15,⟨[0,1,2,3,4,5,6,7,8,9,10,11,12],[0,0,2,6,14,0,32,96,224,510,1023,2047,4095],[(7,[4])],[]⟩),(20,⟨[0,1,2,3,4,5,6,7,8,9,11,12,15,16,18,19,10,13,14,17,20,21,22,23,24,25],[0,1,3,7,0,16,48,112,0,256,1008,0,2048,8176,16368,0,32768,131056,0,262144,1048575,2097151,4194303,4194303,8388607,33554431],[(10,[3,12,16,19])],[]⟩),(25,⟨[0,1,2,3,4,5,6,7,8,9],[0,1,3,7,0,0,0,64,224,511],[],[]⟩)]⟩
def B27:List Item:=A5 Tryz.f101
def B96:List Item:=stk [0,1,0,1,0,1,0,0,1,4,5] B27
def B99:List Item:=stk [0,1,0,1,0,1,0,1,0,1,0,1,0,0,1,4,5] B27
def Br8:List Item:=stk [0,1,0,1,0,1,0,1,0,1,0,1,0,1,0,0,1,4,5] B27
def Bq5:List Item:=stk [0,1,0,1,0,1,0,1,0,1,0,1,0,1,0,0,1,4,5,6,0,1,0,1,0,4,0,1,0,1,0,1,4,5] B27
theorem Iu2 (c:List Value) (h:H) :
 A4 PR Bm4 C R J4 Tryz.f101 100000 true B27 [(0,.agg ⟨c⟩)] h =
 nw (.cells G2 false c) h fun b w=>gAgg ⟨b,0,none⟩ 5 w fun x=>bnd (C Aa1 [.agg ⟨x⟩] w) fun r w1=>aBool r fun z1=>cond (!z1)
 (some (.tuple ⟨[.pointer none,.int .i64 1]⟩,w1))
 (gSl ⟨b,0,none⟩ w1 fun z2 xn xc=>R J4 B96 [(1,.pointer (some ⟨b,0,none⟩)),(4,.int .i64 0),(20,.slice z2 xn xc),(21,.int .i64 (xn:Int)),(22,.int .i64 0)] w1):=by kernel_rfl
theorem E77 (c:Addr) (all:Int) (x20:Option Addr) (x20n x20c:Nat) (x21:Int) (x22:Int) (h:H) :
 A4 PR Bm4 C R J4 Tryz.f101 100000 true B96 [(1,.pointer (some c)),(4,.int .i64 all),(20,.slice x20 x20n x20c),(21,.int .i64 x21),(22,.int .i64 x22)] h =
 cond (decide (x22<x21))
 (aSome x20 fun p=>ck ((0:Int)≤x22∧x22<(x20n:Int)) (gInt .i64 (Addr.add (B3 p) (Int.toNat x22*1)) h fun x=>bnd (C Bq0 [.int .i64 x] h) fun r w=>aInt .i64 r fun z1=>R J4 B96 [(1,.pointer (some c)),(4,.int .i64 (IntKind.wrap .i64 (all+z1))),(20,.slice x20 x20n x20c),(21,.int .i64 x21),(22,.int .i64 (IntKind.wrap .i64 (x22+1)))] w))
 (gSl (Addr.add c 1) h fun z2 xn xc=>gSl (Addr.add c 1) h fun z3 xn_1 xc_1=>gSl (Addr.add c 0) h fun z4 xn_2 xc_2=>bnd (C Ad4 [.slice z2 xn xc] h) fun q1 w1=>aSl q1 fun z5 xn_3 xc_3=>gSl (Addr.add c 1) w1 fun z6 xn_4 xc_4=>same (.slice z3 xn_1 xc_1) (.slice z6 xn_4 xc_4) (gSl (Addr.add c 0) w1 fun z7 xn_5 xc_5=>same (.slice z4 xn_2 xc_2) (.slice z7 xn_5 xc_5) (bnd (C Em2 [.int .i64 all] w1) fun q2 w2=>aPtr q2 fun z8=>gSl (Addr.add c 1) w2 fun z9 xn_6 xc_6=>same (.slice z3 xn_1 xc_1) (.slice z9 xn_6 xc_6) (gSl (Addr.add c 0) w2 fun z10 xn_7 xc_7=>same (.slice z4 xn_2 xc_2) (.slice z10 xn_7 xc_7) (bnd (C A95 [.int .i64 (xn_1:Int)] w2) fun q3 w3=>aPtr q3 fun z11=>gSl (Addr.add c 0) w3 fun z12 xn_8 xc_8=>same (.slice z4 xn_2 xc_2) (.slice z12 xn_8 xc_8) (bnd (C A22 [.slice z4 xn_2 xc_2] w3) fun q4 w4=>aPtr q4 fun z13=>nw (.cells Dw6 false [.slice z5 xn_3 xc_3,.slice none 0 0,.pointer z8,.pointer z11,.pointer z13,.pointer none,.slice none 0 0,.int .i64 0]) w4 fun b w5=>gPtr ⟨b,2,none⟩ w5 fun z14=>gPtr ⟨b,3,none⟩ w5 fun z15=>bnd (C Dh6 [.pointer z14,.pointer z15] w5) fun q5 w6=>aPtr q5 fun z16=>pV ⟨b,5,none⟩ (.pointer z16) w6 fun w7=>gSl (Addr.add c 2) w7 fun z17 xn_9 xc_9=>R J4 B99 [(1,.pointer (some c)),(7,.pointer (some ⟨b,0,none⟩)),(58,.slice z17 xn_9 xc_9),(59,.int .i64 (xn_9:Int)),(60,.int .i64 0)] w7)))))):=by kernel_rfl
theorem E89 (c:Addr) (k:Addr) (x58:Option Addr) (x58n x58c:Nat) (x59:Int) (x60:Int) (h:H) :
 A4 PR Bm4 C R J4 Tryz.f101 100000 true B99 [(1,.pointer (some c)),(7,.pointer (some k)),(58,.slice x58 x58n x58c),(59,.int .i64 x59),(60,.int .i64 x60)] h =
 cond (decide (x60<x59))
 (aSome x58 fun p=>ck ((0:Int)≤x60∧x60<(x58n:Int)) (gSl (Addr.add (B3 p) (Int.toNat x60*1)) h fun x xn xc=>gSl (Addr.add k 1) h fun z1 xn_1 xc_1=>bnd (C Ad4 [.slice x xn xc] h) fun r w=>aSl r fun z2 xn_2 xc_2=>gSl (Addr.add k 1) w fun z3 xn_3 xc_3=>same (.slice z1 xn_1 xc_1) (.slice z3 xn_3 xc_3) (nw (.cells Y9 false [.slice z2 xn_2 xc_2]) w fun b w1=>gCells (some ⟨b,0,none⟩) (1*1) w1 fun cs=>ckB (fitsOpen z1 Y9 w1) (apd Y9 1 z1 xn_1 xc_1 1 cs w1 fun a an ac w2=>pV (Addr.add k 1) (.slice a an ac) w2 fun w3=>gSl (Addr.add k 6) w3 fun z4 xn_4 xc_4=>gInt .i64 (Addr.add c 3) w3 fun z5=>bnd (C D95 [.int .i64 z5] w3) fun q1 w4=>aPtr q1 fun z6=>gSl (Addr.add k 6) w4 fun z7 xn_5 xc_5=>same (.slice z4 xn_4 xc_4) (.slice z7 xn_5 xc_5) (nw (.cells A90 false [.pointer z6]) w4 fun p1 w5=>gCells (some ⟨p1,0,none⟩) (1*1) w5 fun cs_1=>ckB (fitsOpen z4 A90 w5) (apd A90 1 z4 xn_4 xc_4 1 cs_1 w5 fun a_1 an_1 ac_1 w6=>pV (Addr.add k 6) (.slice a_1 an_1 ac_1) w6 fun w7=>R J4 B99 [(1,.pointer (some c)),(7,.pointer (some k)),(58,.slice x58 x58n x58c),(59,.int .i64 x59),(60,.int .i64 (IntKind.wrap .i64 (x60+1)))] w7))))))
 (gSl (Addr.add c 4) h fun z8 xn_6 xc_6=>R J4 Br8 [(7,.pointer (some k)),(89,.slice z8 xn_6 xc_6),(90,.int .i64 (xn_6:Int)),(91,.int .i64 0)] h):=by kernel_rfl
theorem E99 (k:Addr) (x89:Option Addr) (x89n x89c:Nat) (x90:Int) (x91:Int) (h:H) :
 A4 PR Bm4 C R J4 Tryz.f101 100000 true Br8 [(7,.pointer (some k)),(89,.slice x89 x89n x89c),(90,.int .i64 x90),(91,.int .i64 x91)] h =
 cond (decide (x91<x90))
 (aSome x89 fun p=>ck ((0:Int)≤x91∧x91<(x89n:Int)) (gAgg (Addr.add (B3 p) (Int.toNat x91*5)) 5 h fun x=>nw (.cells L6 false [.int .i64 0,.int .i64 0,.int .i64 0,.int .i64 0,.slice none 0 0]) h fun b w=>ck (List.length x=5) (pAgg ⟨b,0,none⟩ x w fun w1=>gPtr (Addr.add k 5) w1 fun z1=>gPtr (Addr.add k 4) w1 fun z2=>gInt .i64 ⟨b,0,none⟩ w1 fun z3=>gInt .i64 ⟨b,1,none⟩ w1 fun z4=>gInt .i64 ⟨b,2,none⟩ w1 fun z5=>gInt .i64 ⟨b,3,none⟩ w1 fun z6=>bnd (C V5 [.pointer z2,.int .i64 z3] w1) fun r w2=>aInt .i64 r fun z7=>gPtr (Addr.add k 5) w2 fun z8=>same (.pointer z1) (.pointer z8) (gInt .i64 ⟨b,1,none⟩ w2 fun z9=>same (.int .i64 z4) (.int .i64 z9) (gInt .i64 ⟨b,2,none⟩ w2 fun z10=>same (.int .i64 z5) (.int .i64 z10) (gInt .i64 ⟨b,3,none⟩ w2 fun z11=>same (.int .i64 z6) (.int .i64 z11) (bnd (C A00 [.pointer z1,.int .i64 (IntKind.wrap .i64 ((IntKind.wrap .i64 ((IntKind.wrap .i64 (z7+z4))*64))+z5)),.int .i64 z6] w2) fun q1 w3=>as2 q1 fun q2 q3=>aInt .i64 q2 fun z12=>aInt .i64 q3 fun _=>gSl (Addr.add k 0) w3 fun z14 xn xc=>R J4 Bq5 [(7,.pointer (some k)),(11,.pointer (some ⟨b,0,none⟩)),(12,.int .i64 z12),(89,.slice x89 x89n x89c),(90,.int .i64 x90),(91,.int .i64 x91),(122,.slice z14 xn xc),(123,.int .i64 (xn:Int)),(124,.int .i64 0)] w3)))))))
 (some (.tuple ⟨[.pointer (some k),.int .i64 0]⟩,h)):=by kernel_rfl
theorem E79 (k:Addr) (x:Addr) (obj:Int) (x89:Option Addr) (x89n x89c:Nat) (x90:Int) (x91:Int) (x122:Option Addr) (x122n x122c:Nat) (x123:Int) (x124:Int) (h:H) :
 A4 PR Bm4 C R J4 Tryz.f101 100000 true Bq5 [(7,.pointer (some k)),(11,.pointer (some x)),(12,.int .i64 obj),(89,.slice x89 x89n x89c),(90,.int .i64 x90),(91,.int .i64 x91),(122,.slice x122 x122n x122c),(123,.int .i64 x123),(124,.int .i64 x124)] h =
 cond (decide (x124<x123))
 (aSome x122 fun p=>ck ((0:Int)≤x124∧x124<(x122n:Int)) (gInt .i64 (Addr.add (B3 p) (Int.toNat x124*1)) h fun z1=>gSl (Addr.add x 4) h fun z2 xn xc=>bnd (C P9 [.slice z2 xn xc,.int .i64 z1] h) fun r w=>aBool r fun z3=>cond z3
 (gPtr (Addr.add k 3) w fun z4=>gInt .i64 (Addr.add x 3) w fun z5=>bnd (C Bo1 [.pointer z4,.int .i64 x124,.agg ⟨[.int .i64 obj,.int .i64 3,.int .i64 0,.int .i64 z5,.int .i64 0,.int .i64 0]⟩] w) fun q1 w1=>as2 q1 fun q2 q3=>aInt .i64 q2 fun _=>aInt .i64 q3 fun _=>R J4 Bq5 [(7,.pointer (some k)),(11,.pointer (some x)),(12,.int .i64 obj),(89,.slice x89 x89n x89c),(90,.int .i64 x90),(91,.int .i64 x91),(122,.slice x122 x122n x122c),(123,.int .i64 x123),(124,.int .i64 (IntKind.wrap .i64 (x124+1)))] w1)
 (R J4 Bq5 [(7,.pointer (some k)),(11,.pointer (some x)),(12,.int .i64 obj),(89,.slice x89 x89n x89c),(90,.int .i64 x90),(91,.int .i64 x91),(122,.slice x122 x122n x122c),(123,.int .i64 x123),(124,.int .i64 (IntKind.wrap .i64 (x124+1)))] w)))
 (R J4 Br8 [(7,.pointer (some k)),(89,.slice x89 x89n x89c),(90,.int .i64 x90),(91,.int .i64 (IntKind.wrap .i64 (x91+1)))] h):=by kernel_rfl
def Bp3:Cuts:=⟨0,[],[],[]⟩
def Dj3:List Item:=A5 Tryz.f108
theorem E56 (r:Option Addr) (e:Int) (name:Int) (atv:Int) (b:ByteArray) (h:H) :
 A4 PR Bp3 C R A06 Tryz.f108 100000 true Dj3 [(0,.pointer r),(1,.int .i64 e),(2,.int .i64 name),(3,.int .i64 atv),(4,.string b)] h =
 bnd (C A14 [.pointer r,.int .i64 e,.int .i64 name,.int .i64 2,.int .i64 atv,.int .i64 ((ByteArray.size b:Nat):Int)] h) fun q1 w=>as2 q1 fun q2 q3=>aInt .i64 q2 fun x=>aInt .i64 q3 fun z1=>cond (z1 != 0)
 (some (.int .i64 z1,w))
 (aSome r fun p=>gSl (Addr.add p 0) w fun z2 xn xc=>ckB (fitsOpen z2 A3 w) (ck ((0:Int)≤x∧x≤(xn:Int)) (pCells (I0 z2 (decide (Int.toNat x<xc)) ((Int.toNat x)*1)) (A0 (List.take (min (ByteArray.size b) (xn-(Int.toNat x))) (ByteArray.data b).toList)) w fun w1=>some (.int .i64 0,w1)))):=by kernel_rfl
def D37:Cuts:=⟨0,[],[],[]⟩
def E91:List Item:=A5 Tryz.f125
theorem Ht2  (h:H) :
 A4 PR D37 C R Bp6 Tryz.f125 100000 true E91 [] h =
 bnd (C A08 [.int .i64 24,.func (.func U8) ⟨[]⟩ ⟨[]⟩,.func (.func Ae2) ⟨[]⟩ ⟨[]⟩] h) fun r w=>aPtr r fun x=>some (.pointer x,w):=by kernel_rfl
def Bd8:Cuts:=⟨0,[],[],[]⟩
def B82:List Item:=A5 Tryz.f143
theorem Eo9 (c:Option Addr) (h:H) :
 A4 PR Bd8 C R Au1 Tryz.f143 100000 true B82 [(0,.pointer c)] h =
 nw (.cells D9 false zz4) h fun b w=>bnd (C J9 [.pointer c,.agg ⟨[.int .i64 4,.int .i64 0]⟩,.func (.func Z7) ⟨[]⟩ ⟨[]⟩] w) fun r w1=>as2 r fun q1 q2=>aAgg q1 fun x=>aInt .i64 q2 fun z1=>ck (List.length x=36) (pAgg ⟨b,0,none⟩ x w1 fun w2=>gAgg ⟨b,0,none⟩ 36 w2 fun z2=>some (.tuple ⟨[.agg ⟨z2⟩,.int .i64 z1]⟩,w2)):=by kernel_rfl
def A82:Cuts:=⟨0,[],[],[(2,⟨[0,1,2,3,4,5,6,7],[0,0,0,4,12,0,63,127],[],[]⟩)]⟩
def B38:List Item:=A5 Tryz.f148
theorem Ei6 (c:Option Addr) (r:List Value) (h:H) :
 A4 PR A82 C R Z0 Tryz.f148 100000 true B38 [(0,.pointer c),(1,.agg ⟨r⟩)] h =
 nw (.cells B8 false r) h fun b w=>gAgg ⟨b,0,none⟩ 2 w fun x=>bnd (C Y7 [.pointer c,.agg ⟨x⟩] w) fun q1 w1=>as2 q1 fun q2 q3=>aAgg q2 fun z1=>aBool q3 fun z2=>nw (.cells Bu3 false [.int .i64 0,.int .i64 0,.int .i64 0]) w1 fun p1 w2=>ck (List.length z1=3) (pAgg ⟨p1,0,none⟩ z1 w2 fun w3=>gAgg ⟨b,0,none⟩ 2 w3 fun z3=>gInt .i64 ⟨p1,2,none⟩ w3 fun z4=>ck ((0:Int)≤z4∧(z4:Int)≤z4∧z4≤(A9:Int)) (nw (.cells A3 false (I6 (Int.toNat z4) [.int .u8 0])) w3 fun p2 w4=>bnd (C N5 [.pointer c,.agg ⟨z3⟩,.slice (some ⟨p2,0,none⟩) (Int.toNat z4) (Int.toNat z4),.bool z2] w4) fun q4 w5=>aBool q4 fun z5=>some (.bool z5,w5))):=by kernel_rfl
def E46:Cuts:=⟨0,[],[],[]⟩
def G70:List Item:=A5 Tryz.f150
theorem Ip9 (b:Option Addr) (bn bc:Nat) (h:H) :
 A4 PR E46 C R Dl0 Tryz.f150 100000 true G70 [(0,.slice b bn bc)] h =
 bnd (C Q0 [.slice b bn bc,.int .i64 0,.int .i64 24,.int .i64 8,.func (.func Af4) ⟨[]⟩ ⟨[]⟩] h) fun r w=>aAgg r fun x=>bnd (C Q1 [.slice b bn bc,.int .i64 192,.int .i64 8,.int .i64 12,.func (.func Ae7) ⟨[]⟩ ⟨[]⟩] w) fun q1 w1=>aAgg q1 fun z1=>bnd (C M8 [.slice b bn bc,.int .i64 288,.int .i64 40,.int .i64 4,.func (.func Z7) ⟨[]⟩ ⟨[]⟩] w1) fun q2 w2=>aAgg q2 fun z2=>bnd (C M8 [.slice b bn bc,.int .i64 448,.int .i64 40,.int .i64 1,.func (.func Z7) ⟨[]⟩ ⟨[]⟩] w2) fun q3 w3=>aAgg q3 fun z3=>bnd (C Ad9 [.slice b bn bc,.int .i64 488,.int .i64 4,.int .i64 1,.func (.func V8) ⟨[]⟩ ⟨[]⟩] w3) fun q4 w4=>aAgg q4 fun z4=>ck (List.length x=2) (ck (List.length z1=2) (ck (List.length z2=2) (ck (List.length z3=2) (ck (List.length z4=2) (nw (.cells Eq6 false (x++(z1++(z2++(z3++(z4++[])))))) w4 fun p1 w5=>some (.pointer (some ⟨p1,0,none⟩),w5)))))):=by kernel_rfl
def Bp1:Cuts:=⟨0,[(2,[0,9,10,11])],[],[(4,⟨[0,1,2,3,4,5,6,7,8,9,10,11,12,13],[0,1,3,7,0,31,63,127,255,127,127,1663,4095,8191],[(11,[8])],[]⟩)]⟩
def Da6:List Item:=A5 Tryz.f153
def A66:List Item:=stk [0,1,0,0,1,4,5] Da6
theorem G44 (x:Option Addr) (h:H) :
 A4 PR Bp1 C R Ad1 Tryz.f153 100000 true Da6 [(0,.pointer x)] h =
 aSome x fun p=>gSl (Addr.add (Addr.add p 2) 0) h fun z1 xn xc=>R Ad1 A66 [(0,.pointer x),(9,.slice z1 xn xc),(10,.int .i64 (xn:Int)),(11,.int .i64 0)] h:=by kernel_rfl
theorem Dp6 (x:Option Addr) (x9:Option Addr) (x9n x9c:Nat) (x10:Int) (x11:Int) (h:H) :
 A4 PR Bp1 C R Ad1 Tryz.f153 100000 true A66 [(0,.pointer x),(9,.slice x9 x9n x9c),(10,.int .i64 x10),(11,.int .i64 x11)] h =
 cond (decide (x11<x10))
 (aSome x9 fun p=>ck ((0:Int)≤x11∧x11<(x9n:Int)) (gAgg (Addr.add (B3 p) (Int.toNat x11*4)) 4 h fun z1=>nw (.cells D2 false [.int .i64 0,.int .i64 0,.int .i64 0,.int .i64 0]) h fun b w=>ck (List.length z1=4) (pAgg ⟨b,0,none⟩ z1 w fun w1=>aSome x fun p_1=>gAgg (Addr.add p_1 2) 2 w1 fun z2=>bnd (C S8 [.agg ⟨z2⟩,.int .i64 x11] w1) fun r w2=>aBool r fun z3=>bnd (cond z3 (gInt .i64 ⟨b,2,none⟩ w2 fun z4=>bnd (C H9 [.pointer x,.int .i64 x11] w2) fun q1 w3=>aInt .i64 q1 fun z5=>gInt .i64 ⟨b,2,none⟩ w3 fun z6=>same (.int .i64 z4) (.int .i64 z6) (some (z4 != z5,w3))) (some (false,w2))) fun c w4=>cond c
 (some (.bool true,w4))
 (R Ad1 A66 [(0,.pointer x),(9,.slice x9 x9n x9c),(10,.int .i64 x10),(11,.int .i64 (IntKind.wrap .i64 (x11+1)))] w4))))
 (some (.bool false,h)):=by kernel_rfl
def Ds1:Cuts:=⟨0,[],[],[(1,⟨[1,0,2,3,4,5,6],[0,0,3,7,7,31,63],[(0,[1])],[]⟩)]⟩
def Ex4:List Item:=A5 Tryz.f164
theorem Hi1 (f:List Value) (h:H) :
 A4 PR Ds1 C R Bh8 Tryz.f164 100000 true Ex4 [(0,.agg ⟨f⟩)] h =
 nw (.cells D2 false f) h fun b w=>gAgg ⟨b,0,none⟩ 4 w fun x=>bnd (C Bq8 [] w) fun r w1=>aPtr r fun z1=>gAgg ⟨b,0,none⟩ 4 w1 fun z2=>same (.agg ⟨x⟩) (.agg ⟨z2⟩) (bnd (C Ac3 [.pointer z1,.agg ⟨x⟩] w1) fun q1 w2=>as2 q1 fun q2 q3=>aSl q2 fun z3 xn xc=>aBool q3 fun z4=>some (.tuple ⟨[.slice z3 xn xc,.bool z4]⟩,w2)):=by kernel_rfl
def D96:Cuts:=⟨0,[(3,[3,8,9])],[],[(4,⟨[0,1,2,3,4,5,6,7,8,9,10],[0,0,2,6,14,0,32,126,255,511,1023],[(5,[4])],[]⟩)]⟩
def Ez0:List Item:=A5 Tryz.f194
def Da3:List Item:=stk [0,1,0,1,0,0,1,4,5] Ez0
theorem Iu5 (envs:Int) (h:H) :
 A4 PR D96 C R A95 Tryz.f194 100000 true Ez0 [(0,.int .i64 envs)] h =
 nw (.cells A56 false [.slice none 0 0]) h fun b w=>R A95 Da3 [(3,.pointer (some ⟨b,0,none⟩)),(8,.int .i64 (mm2 false (mm2 true envs 0) 40)),(9,.int .i64 0)] w:=by kernel_rfl
theorem E74 (s:Addr) (x8:Int) (x9:Int) (h:H) :
 A4 PR D96 C R A95 Tryz.f194 100000 true Da3 [(3,.pointer (some s)),(8,.int .i64 x8),(9,.int .i64 x9)] h =
 cond (decide (x9<x8))
 (gSl (Addr.add s 0) h fun x xn xc=>bnd (C V6 [.int .i64 32] h) fun r w=>aPtr r fun z1=>gSl (Addr.add s 0) w fun z2 xn_1 xc_1=>same (.slice x xn xc) (.slice z2 xn_1 xc_1) (nw (.cells I1 false [.pointer z1]) w fun b w1=>gCells (some ⟨b,0,none⟩) (1*1) w1 fun cs=>ckB (fitsOpen x I1 w1) (apd I1 1 x xn xc 1 cs w1 fun a an ac w2=>pV (Addr.add s 0) (.slice a an ac) w2 fun w3=>R A95 Da3 [(3,.pointer (some s)),(8,.int .i64 x8),(9,.int .i64 (IntKind.wrap .i64 (x9+1)))] w3)))
 (some (.pointer (some s),h)):=by kernel_rfl
def Ey3:Cuts:=⟨0,[],[],[]⟩
def Hc1:List Item:=A5 Tryz.f197
theorem Is3 (lease:Int) (h:H) :
 A4 PR Ey3 C R D95 Tryz.f197 100000 true Hc1 [(0,.int .i64 lease)] h =
 nw (.cells Gw3 false [.int .i64 (mm2 false (mm2 true lease 1) 1000),.bool false,.int .i64 0,.int .i64 0,.int .i64 0,.slice none 0 0,.int .i64 0,.int .i64 0,.int .i64 0]) h fun b w=>some (.pointer (some ⟨b,0,none⟩),w):=by kernel_rfl
def A61:Cuts:=⟨0,[(3,[5,20,21,22])],[],[(2,⟨[0,1,2,3,4,5,6,7,8,9,10,11,12,13,14],[0,1,3,7,0,16,0,64,192,448,960,2032,4095,8191,0],[],[]⟩)]⟩
def Bt0:List Item:=A5 Tryz.f199
def Au0:List Item:=stk [0,1,0,1,0,0,1,4,5] Bt0
theorem Ga1 (q:Option Addr) (s:Int) (h:H) :
 A4 PR A61 C R V5 Tryz.f199 100000 true Bt0 [(0,.pointer q),(1,.int .i64 s)] h =
 aSome q fun p=>gSl (Addr.add p 0) h fun x _ xc=>aSome q fun p_1=>gSl (Addr.add p_1 0) h fun _ xn_1 _=>ckB (fitsOpen x Y9 h) (ck ((0:Int)≤mm2 false (mm2 true s 0) (xn_1:Int)∧mm2 false (mm2 true s 0) (xn_1:Int)≤(xc:Int)) (R V5 Au0 [(5,.int .i64 0),(20,.slice (I0 x (decide (0<xc)) (0*1)) ((Int.toNat (mm2 false (mm2 true s 0) (xn_1:Int)))-0) (xc-0)),(21,.int .i64 (((Int.toNat (mm2 false (mm2 true s 0) (xn_1:Int)))-0:Nat):Int)),(22,.int .i64 0)] h)):=by kernel_rfl
theorem B72 (n:Int) (x20:Option Addr) (x20n x20c:Nat) (x21:Int) (x22:Int) (h:H) :
 A4 PR A61 C R V5 Tryz.f199 100000 true Au0 [(5,.int .i64 n),(20,.slice x20 x20n x20c),(21,.int .i64 x21),(22,.int .i64 x22)] h =
 cond (decide (x22<x21))
 (aSome x20 fun p=>ck ((0:Int)≤x22∧x22<(x20n:Int)) (gSl (Addr.add (B3 p) (Int.toNat x22*1)) h fun _ xn _=>R V5 Au0 [(5,.int .i64 (IntKind.wrap .i64 (n+(xn:Int)))),(20,.slice x20 x20n x20c),(21,.int .i64 x21),(22,.int .i64 (IntKind.wrap .i64 (x22+1)))] h))
 (some (.int .i64 n,h)):=by kernel_rfl
def Dv2:Cuts:=⟨0,[],[],[]⟩
def Ev3:List Item:=A5 Tryz.f204
theorem Hl3 (lease:Int) (h:H) :
 A4 PR Dv2 C R B08 Tryz.f204 100000 true Ev3 [(0,.int .i64 lease)] h =
 nw (.cells Gt8 false [.int .i64 (mm2 false (mm2 true lease 1) 1000),.int .i64 0,.int .i64 0,.int .i64 0,.int .i64 0,.int .i64 0,.bool false,.int .i64 0,.slice none 0 0]) h fun b w=>some (.pointer (some ⟨b,0,none⟩),w):=by kernel_rfl
def Da7:Cuts:=⟨0,[],[],[]⟩
def Ei0:List Item:=A5 Tryz.f207
theorem G33 (s:Option Addr) (e:Int) (c:List Value) (h:H) :
 A4 PR Da7 C R Bm3 Tryz.f207 100000 true Ei0 [(0,.pointer s),(1,.int .i64 e),(2,.agg ⟨c⟩)] h =
 nw (.cells V4 false c) h fun b w=>bnd (C As6 [.pointer s,.int .i64 e] w) fun r w1=>aBool r fun x=>bnd (cond (!x) (some (true,w1)) (gInt .i64 ⟨b,1,none⟩ w1 fun z1=>some (decide (z1<0),w1))) fun c_1 w2=>bnd (cond c_1 (some (true,w2)) (gInt .i64 ⟨b,1,none⟩ w2 fun z2=>some (decide (z2>7),w2))) fun c_2 w3=>bnd (cond c_2 (some (true,w3)) (gInt .i64 ⟨b,2,none⟩ w3 fun z3=>some (decide (z3<0),w3))) fun c_3 w4=>bnd (cond c_3 (some (true,w4)) (gInt .i64 ⟨b,2,none⟩ w4 fun z4=>some (decide (z4>65536),w4))) fun c_4 w5=>bnd (cond c_4 (some (true,w5)) (gInt .i64 ⟨b,3,none⟩ w5 fun z5=>some (decide (z5<0),w5))) fun c_5 w6=>bnd (cond c_5 (some (true,w6)) (gInt .i64 ⟨b,3,none⟩ w6 fun z6=>some (decide (z6>65536),w6))) fun c_6 w7=>cond c_6
 (some (.tuple ⟨[.int .i64 0,.int .i64 1]⟩,w7))
 (pAgg ⟨b,4,none⟩ [.int .i64 0,.int .i64 0] w7 fun w8=>gAgg ⟨b,0,none⟩ 6 w8 fun z7=>bnd (C Bl5 [.pointer s,.int .i64 e,.agg ⟨z7⟩] w8) fun q1 w9=>as2 q1 fun q2 q3=>aInt .i64 q2 fun z8=>aInt .i64 q3 fun z9=>some (.tuple ⟨[.int .i64 z8,.int .i64 z9]⟩,w9)):=by kernel_rfl
def B56:Cuts:=⟨0,[],[],[]⟩
def D50:List Item:=A5 Tryz.f208
theorem Gt2 (k:Option Addr) (h:H) :
 A4 PR B56 C R Ay6 Tryz.f208 100000 true D50 [(0,.pointer k)] h =
 aSome k fun p=>gPtr (Addr.add p 3) h fun x=>some (.pointer x,h):=by kernel_rfl
def De1:Cuts:=⟨0,[],[],[]⟩
def Ee2:List Item:=A5 Tryz.f210
theorem G04 (s:Option Addr) (e:Int) (h:H) :
 A4 PR De1 C R Bo2 Tryz.f210 100000 true Ee2 [(0,.pointer s),(1,.int .i64 e)] h =
 bnd (C As6 [.pointer s,.int .i64 e] h) fun r w=>aBool r fun x=>cond (!x)
 (some (.slice none 0 0,w))
 (aSome s fun p=>gSl (Addr.add p 0) w fun z1 xn _=>aSome z1 fun p_1=>ck ((0:Int)≤e∧e<(xn:Int)) (gPtr (Addr.add (B3 p_1) (Int.toNat e*1)) w fun z2=>bnd (C Z4 [.pointer z2] w) fun q1 w1=>aSl q1 fun z3 xn_1 xc_1=>some (.slice z3 xn_1 xc_1,w1))):=by kernel_rfl
def Bj0:Cuts:=⟨0,[],[],[]⟩
def Df2:List Item:=A5 Tryz.f213
theorem Ex1 (r:Option Addr) (env:Int) (fromv:Int) (atv:Int) (to:Int) (on:Int) (n:Int) (h:H) :
 A4 PR Bj0 C R Aw6 Tryz.f213 100000 true Df2 [(0,.pointer r),(1,.int .i64 env),(2,.int .i64 fromv),(3,.int .i64 atv),(4,.int .i64 to),(5,.int .i64 on),(6,.int .i64 n)] h =
 bnd (C Ak3 [.pointer r,.int .i64 env,.int .i64 fromv,.int .i64 atv,.int .i64 n] h) fun q1 w=>as2 q1 fun q2 q3=>aSl q2 fun x xn xc=>aInt .i64 q3 fun z1=>cond (z1 != 0)
 (some (.int .i64 z1,w))
 (bnd (C Ah4 [.pointer r,.int .i64 env,.int .i64 to,.int .i64 on,.slice x xn xc] w) fun q4 w1=>aInt .i64 q4 fun z2=>some (.int .i64 z2,w1)):=by kernel_rfl
def Bw3:Cuts:=⟨0,[],[],[]⟩
def Dz6:List Item:=A5 Tryz.f217
theorem Gf0 (q:Option Addr) (s:Int) (k:Int) (h:H) :
 A4 PR Bw3 C R A99 Tryz.f217 100000 true Dz6 [(0,.pointer q),(1,.int .i64 s),(2,.int .i64 k)] h =
 bnd (C As4 [.pointer q,.int .i64 s] h) fun r w=>aBool r fun x=>cond (!x)
 (some (.int .i64 1,w))
 (bnd (C Bb7 [.pointer q,.int .i64 s,.int .i64 k] w) fun q1 w1=>aBool q1 fun z1=>cond (!z1)
 (some (.int .i64 5,w1))
 (aSome q fun p=>gSl (Addr.add p 0) w1 fun z2 xn _=>aSome z2 fun p_1=>ck ((0:Int)≤s∧s<(xn:Int)) (gSl (Addr.add (B3 p_1) (Int.toNat s*1)) w1 fun z3 xn_1 _=>aSome z3 fun p_2=>ck ((0:Int)≤k∧k<(xn_1:Int)) (pV (Addr.add (B3 p_2) (Int.toNat k*1)) (.int .i64 0) w1 fun w2=>some (.int .i64 0,w2))))):=by kernel_rfl
def A80:Cuts:=⟨0,[],[],[]⟩
def B40:List Item:=A5 Tryz.f232
theorem Ei5 (c:Option Addr) (r:List Value) (h:H) :
 A4 PR A80 C R Y7 Tryz.f232 100000 true B40 [(0,.pointer c),(1,.agg ⟨r⟩)] h =
 nw (.cells B8 false r) h fun b w=>nw (.cells Bu3 false [.int .i64 0,.int .i64 0,.int .i64 0]) w fun p1 w1=>gInt .i64 ⟨b,1,none⟩ w1 fun x=>bnd (cond (decide (x<0)) (some (true,w1)) (gInt .i64 ⟨b,0,none⟩ w1 fun z1=>bnd (C Aa6 [.pointer c,.int .i64 z1] w1) fun q1 w2=>aInt .i64 q1 fun z2=>some (decide (x≥z2),w2))) fun c_1 w3=>cond c_1
 (pAgg ⟨p1,0,none⟩ [.int .i64 0,.int .i64 0,.int .i64 0] w3 fun w4=>gAgg ⟨p1,0,none⟩ 3 w4 fun z3=>some (.tuple ⟨[.agg ⟨z3⟩,.bool false]⟩,w4))
 (aSome c fun p=>gSl (Addr.add p 2) w3 fun z4 xn _=>aSome z4 fun p_1=>ck ((0:Int)≤0∧0<(xn:Int)) (gInt .i64 (Addr.add (B3 p_1) (Int.toNat 0*1)) w3 fun z5=>gInt .i64 ⟨b,0,none⟩ w3 fun z6=>cond (z6==1)
 (pAgg ⟨p1,0,none⟩ [.int .i64 z5,.int .i64 (IntKind.wrap .i64 (24*x)),.int .i64 24] w3 fun w5=>gAgg ⟨p1,0,none⟩ 3 w5 fun z7=>some (.tuple ⟨[.agg ⟨z7⟩,.bool true]⟩,w5))
 (gInt .i64 ⟨b,0,none⟩ w3 fun z8=>cond (z8==2)
 (pAgg ⟨p1,0,none⟩ [.int .i64 z5,.int .i64 (IntKind.wrap .i64 (192+(IntKind.wrap .i64 (8*x)))),.int .i64 8] w3 fun w6=>gAgg ⟨p1,0,none⟩ 3 w6 fun z9=>some (.tuple ⟨[.agg ⟨z9⟩,.bool true]⟩,w6))
 (gInt .i64 ⟨b,0,none⟩ w3 fun z10=>bnd (cond (z10==3) (some (decide (x<4),w3)) (some (false,w3))) fun c_2 w7=>cond c_2
 (pAgg ⟨p1,0,none⟩ [.int .i64 z5,.int .i64 (IntKind.wrap .i64 (288+(IntKind.wrap .i64 (40*x)))),.int .i64 40] w7 fun w8=>gAgg ⟨p1,0,none⟩ 3 w8 fun z11=>some (.tuple ⟨[.agg ⟨z11⟩,.bool true]⟩,w8))
 (gInt .i64 ⟨b,0,none⟩ w7 fun z12=>cond (z12==3)
 (aSome c fun p_2=>gSl (Addr.add p_2 2) w7 fun z13 xn_1 _=>aSome z13 fun p_3=>ck ((0:Int)≤IntKind.wrap .i64 ((IntKind.wrap .i64 (x-4))+1)∧IntKind.wrap .i64 ((IntKind.wrap .i64 (x-4))+1)<(xn_1:Int)) (gInt .i64 (Addr.add (B3 p_3) (Int.toNat (IntKind.wrap .i64 ((IntKind.wrap .i64 (x-4))+1))*1)) w7 fun z14=>pAgg ⟨p1,0,none⟩ [.int .i64 z14,.int .i64 0,.int .i64 40] w7 fun w9=>gAgg ⟨p1,0,none⟩ 3 w9 fun z15=>some (.tuple ⟨[.agg ⟨z15⟩,.bool true]⟩,w9)))
 (gInt .i64 ⟨b,0,none⟩ w7 fun z16=>cond (z16==4)
 (pAgg ⟨p1,0,none⟩ [.int .i64 z5,.int .i64 448,.int .i64 40] w7 fun w10=>gAgg ⟨p1,0,none⟩ 3 w10 fun z17=>some (.tuple ⟨[.agg ⟨z17⟩,.bool true]⟩,w10))
 (pAgg ⟨p1,0,none⟩ [.int .i64 z5,.int .i64 488,.int .i64 4] w7 fun w11=>gAgg ⟨p1,0,none⟩ 3 w11 fun z18=>some (.tuple ⟨[.agg ⟨z18⟩,.bool true]⟩,w11)))))))):=by kernel_rfl
def Dk4:Cuts:=⟨0,[],[],[]⟩
def Ek8:List Item:=A5 Tryz.f234
theorem Hd2 (c:Int) (h:H) :
 A4 PR Dk4 C R An6 Tryz.f234 100000 true Ek8 [(0,.int .u8 c)] h =
 some (.bool (c != 0),h):=by kernel_rfl
def O6:Cuts:=⟨0,[(3,[0,3,9,10,11]),(11,[6,25,26,27])],[],[]⟩
def W7:List Item:=A5 Tryz.f249
def S6:List Item:=stk [0,1,0,1,0,0,1,4,5] W7
def Q9:List Item:=stk [0,1,0,1,0,1,0,1,0,0,1,4,5] W7
theorem B73 (slices:Option Addr) (slicesn slicesc:Nat) (h:H) :
 A4 PR O6 C R D3 Tryz.f249 100000 true W7 [(0,.slice slices slicesn slicesc)] h =
 R D3 S6 [(0,.slice slices slicesn slicesc),(3,.int .i64 0),(9,.slice slices slicesn slicesc),(10,.int .i64 (slicesn:Int)),(11,.int .i64 0)] h:=by kernel_rfl
theorem Au5 (slices:Option Addr) (slicesn slicesc:Nat) (size:Int) (x9:Option Addr) (x9n x9c:Nat) (x10:Int) (x11:Int) (h:H) :
 A4 PR O6 C R D3 Tryz.f249 100000 true S6 [(0,.slice slices slicesn slicesc),(3,.int .i64 size),(9,.slice x9 x9n x9c),(10,.int .i64 x10),(11,.int .i64 x11)] h =
 cond (decide (x11<x10))
 (aSome x9 fun p=>ck ((0:Int)≤x11∧x11<(x9n:Int)) (gSl (Addr.add (B3 p) (Int.toNat x11*1)) h fun _ xn _=>cond (decide ((IntKind.wrap .i64 (size+(xn:Int)))<0))
 (none)
 (R D3 S6 [(0,.slice slices slicesn slicesc),(3,.int .i64 (IntKind.wrap .i64 (size+(xn:Int)))),(9,.slice x9 x9n x9c),(10,.int .i64 x10),(11,.int .i64 (IntKind.wrap .i64 (x11+1)))] h)))
 (bnd (C M0 [.slice none 0 0,.int .i64 size] h) fun r w=>aSl r fun z1 xn_1 xc_1=>R D3 Q9 [(6,.slice z1 xn_1 xc_1),(25,.slice slices slicesn slicesc),(26,.int .i64 (slicesn:Int)),(27,.int .i64 0)] w):=by kernel_rfl
theorem Av4 (newslice:Option Addr) (newslicen newslicec:Nat) (x25:Option Addr) (x25n x25c:Nat) (x26:Int) (x27:Int) (h:H) :
 A4 PR O6 C R D3 Tryz.f249 100000 true Q9 [(6,.slice newslice newslicen newslicec),(25,.slice x25 x25n x25c),(26,.int .i64 x26),(27,.int .i64 x27)] h =
 cond (decide (x27<x26))
 (aSome x25 fun p=>ck ((0:Int)≤x27∧x27<(x25n:Int)) (gSl (Addr.add (B3 p) (Int.toNat x27*1)) h fun x xn _=>gCells x (xn*2) h fun cs=>ckB (fitsOpen newslice B8 h) (apd B8 2 newslice newslicen newslicec xn cs h fun a an ac w=>R D3 Q9 [(6,.slice a an ac),(25,.slice x25 x25n x25c),(26,.int .i64 x26),(27,.int .i64 (IntKind.wrap .i64 (x27+1)))] w)))
 (some (.slice newslice newslicen newslicec,h)):=by kernel_rfl
def Ae5:Cuts:=⟨0,[(3,[1,5,9,10,11])],[],[]⟩
def As8:List Item:=A5 Tryz.f252
def Q5:List Item:=stk [0,1,0,1,0,0,1,4,5] As8
theorem Dq5 (x:List Value) (kind:Int) (h:H) :
 A4 PR Ae5 C R E9 Tryz.f252 100000 true As8 [(0,.agg ⟨x⟩),(1,.int .i64 kind)] h =
 nw (.cells W0 false x) h fun b w=>gSl ⟨b,1,none⟩ w fun z1 xn xc=>R E9 Q5 [(1,.int .i64 kind),(5,.slice none 0 0),(9,.slice z1 xn xc),(10,.int .i64 (xn:Int)),(11,.int .i64 0)] w:=by kernel_rfl
theorem A75 (kind:Int) (out:Option Addr) (outn outc:Nat) (x9:Option Addr) (x9n x9c:Nat) (x10:Int) (x11:Int) (h:H) :
 A4 PR Ae5 C R E9 Tryz.f252 100000 true Q5 [(1,.int .i64 kind),(5,.slice out outn outc),(9,.slice x9 x9n x9c),(10,.int .i64 x10),(11,.int .i64 x11)] h =
 cond (decide (x11<x10))
 (aSome x9 fun p=>ck ((0:Int)≤x11∧x11<(x9n:Int)) (gInt .i64 (Addr.add (B3 p) (Int.toNat x11*1)) h fun x=>cond (x==2)
 (nw (.cells B8 false [.int .i64 kind,.int .i64 x11]) h fun b w=>gCells (some ⟨b,0,none⟩) (1*2) w fun cs=>ckB (fitsOpen out B8 w) (apd B8 2 out outn outc 1 cs w fun a an ac w1=>R E9 Q5 [(1,.int .i64 kind),(5,.slice a an ac),(9,.slice x9 x9n x9c),(10,.int .i64 x10),(11,.int .i64 (IntKind.wrap .i64 (x11+1)))] w1))
 (R E9 Q5 [(1,.int .i64 kind),(5,.slice out outn outc),(9,.slice x9 x9n x9c),(10,.int .i64 x10),(11,.int .i64 (IntKind.wrap .i64 (x11+1)))] h)))
 (some (.slice out outn outc,h)):=by kernel_rfl
def Aw4:Cuts:=⟨0,[(3,[0,1,2,4,10,11,15,16])],[],[]⟩
def Bj6:List Item:=A5 Tryz.f255
def Ap2:List Item:=stk [0,1,0,1,0,0,1,4,5] Bj6
theorem Eu6 (b:Option Addr) (bn bc:Nat) (atv:Int) (size:Int) (n:Int) (decode:Value) (h:H) :
 A4 PR Aw4 C R Q1 Tryz.f255 100000 true Bj6 [(0,.slice b bn bc),(1,.int .i64 atv),(2,.int .i64 size),(3,.int .i64 n),(4,decode)] h =
 nw (.cells W3 false [.slice none 0 0,.slice none 0 0]) h fun p1 w=>nw (.cells W3 false [.slice none 0 0,.slice none 0 0]) w fun p2 w1=>R Q1 Ap2 [(0,.slice b bn bc),(1,.int .i64 atv),(2,.int .i64 size),(4,decode),(10,.pointer (some ⟨p1,0,none⟩)),(11,.pointer (some ⟨p2,0,none⟩)),(15,.int .i64 n),(16,.int .i64 0)] w1:=by kernel_rfl
theorem Bz1 (b:Option Addr) (bn bc:Nat) (atv:Int) (size:Int) (decode:Value) (x10:Addr) (out:Addr) (x15:Int) (x16:Int) (h:H) :
 A4 PR Aw4 C R Q1 Tryz.f255 100000 true Ap2 [(0,.slice b bn bc),(1,.int .i64 atv),(2,.int .i64 size),(4,decode),(10,.pointer (some x10)),(11,.pointer (some out)),(15,.int .i64 x15),(16,.int .i64 x16)] h =
 cond (decide (x16<x15))
 (ckB (fitsOpen b A3 h) (ck ((0:Int)≤IntKind.wrap .i64 (atv+(IntKind.wrap .i64 (size*(IntKind.wrap .i64 (x16+1)))))∧IntKind.wrap .i64 (atv+(IntKind.wrap .i64 (size*(IntKind.wrap .i64 (x16+1)))))≤(bc:Int)) (ck ((0:Int)≤IntKind.wrap .i64 (atv+(IntKind.wrap .i64 (size*x16)))∧IntKind.wrap .i64 (atv+(IntKind.wrap .i64 (size*x16)))≤((Int.toNat (IntKind.wrap .i64 (atv+(IntKind.wrap .i64 (size*(IntKind.wrap .i64 (x16+1)))))):Nat):Int)) (aFn decode fun g fi cp=>bnd (C g (fi++([.slice (I0 b (decide (Int.toNat (IntKind.wrap .i64 (atv+(IntKind.wrap .i64 (size*x16))))<bc)) ((Int.toNat (IntKind.wrap .i64 (atv+(IntKind.wrap .i64 (size*x16)))))*1)) ((Int.toNat (IntKind.wrap .i64 (atv+(IntKind.wrap .i64 (size*(IntKind.wrap .i64 (x16+1)))))))-(Int.toNat (IntKind.wrap .i64 (atv+(IntKind.wrap .i64 (size*x16)))))) (bc-(Int.toNat (IntKind.wrap .i64 (atv+(IntKind.wrap .i64 (size*x16))))))]++cp)) h) fun r w=>as2 r fun q1 q2=>aAgg q1 fun x=>aInt .i64 q2 fun z1=>nw (.cells D2 false [.int .i64 0,.int .i64 0,.int .i64 0,.int .i64 0]) w fun p1 w1=>ck (List.length x=4) (pAgg ⟨p1,0,none⟩ x w1 fun w2=>gSl (Addr.add out 0) w2 fun z2 xn xc=>gAgg ⟨p1,0,none⟩ 4 w2 fun z3=>ck (List.length z3=4) (nw (.cells D2 false (z3++[])) w2 fun p2 w3=>gCells (some ⟨p2,0,none⟩) (1*4) w3 fun cs=>ckB (fitsOpen z2 D2 w3) (apd D2 4 z2 xn xc 1 cs w3 fun a an ac w4=>pV (Addr.add out 0) (.slice a an ac) w4 fun w5=>gSl (Addr.add out 1) w5 fun z4 xn_1 xc_1=>nw (.cells A8 false [.int .i64 z1]) w5 fun p3 w6=>gCells (some ⟨p3,0,none⟩) (1*1) w6 fun cs_1=>ckB (fitsOpen z4 A8 w6) (apd A8 1 z4 xn_1 xc_1 1 cs_1 w6 fun a_1 an_1 ac_1 w7=>pV (Addr.add out 1) (.slice a_1 an_1 ac_1) w7 fun w8=>R Q1 Ap2 [(0,.slice b bn bc),(1,.int .i64 atv),(2,.int .i64 size),(4,decode),(10,.pointer (some x10)),(11,.pointer (some out)),(15,.int .i64 x15),(16,.int .i64 (IntKind.wrap .i64 (x16+1)))] w8))))))))
 (gAgg out 2 h fun z5=>ck (List.length z5=2) (pAgg x10 z5 h fun w9=>gAgg x10 2 w9 fun z6=>some (.agg ⟨z6⟩,w9))):=by kernel_rfl
def Ao5:Cuts:=⟨0,[],[],[]⟩
def Bc1:List Item:=A5 Tryz.f258
theorem Dn1 (x:List Value) (i:Int) (h:H) :
 A4 PR Ao5 C R Ab8 Tryz.f258 100000 true Bc1 [(0,.agg ⟨x⟩),(1,.int .i64 i)] h =
 nw (.cells W2 false x) h fun b w=>gSl ⟨b,1,none⟩ w fun z1 xn _=>aSome z1 fun p=>ck ((0:Int)≤i∧i<(xn:Int)) (gInt .i64 (Addr.add (B3 p) (Int.toNat i*1)) w fun z2=>some (.bool (z2==1),w)):=by kernel_rfl
def By3:Cuts:=⟨0,[],[],[(1,⟨[0,1,2,3,4,5,6,7,8,9,10,11,12],[0,1,3,7,15,31,63,7,135,511,1023,2047,4095],[],[]⟩)]⟩
def Dz9:List Item:=A5 Tryz.f266
theorem Gl3 (f:List Value) (fv0:Addr) (h:H) :
 A4 PR By3 C R Au7 Tryz.f266 100000 true Dz9 [(0,.agg ⟨f⟩),(1,.pointer (some fv0))] h =
 nw (.cells D2 false f) h fun b w=>gAgg ⟨b,0,none⟩ 4 w fun x=>bnd (C B64 [.agg ⟨x⟩] w) fun r w1=>aBool r fun z1=>bnd (cond z1 (gPtr fv0 w1 fun z2=>aSome z2 fun p=>gAgg (Addr.add p 4) 2 w1 fun z3=>gInt .i64 ⟨b,1,none⟩ w1 fun z4=>bnd (C R0 [.agg ⟨z3⟩,.int .i64 z4] w1) fun q1 w2=>aBool q1 fun z5=>some (!z5,w2)) (some (false,w1))) fun c w3=>some (.bool c,w3):=by kernel_rfl
def Eo5:Cuts:=⟨0,[],[],[]⟩
def Gy6:List Item:=A5 Tryz.f267
theorem If3 (f:List Value) (h:H) :
 A4 PR Eo5 C R B64 Tryz.f267 100000 true Gy6 [(0,.agg ⟨f⟩)] h =
 nw (.cells D2 false f) h fun b w=>gInt .i64 ⟨b,0,none⟩ w fun x=>bnd (cond (x==1) (some (true,w)) (gInt .i64 ⟨b,0,none⟩ w fun z1=>some (z1==2,w))) fun c w1=>bnd (cond c (gInt .i64 ⟨b,1,none⟩ w1 fun z2=>some (decide (z2<4),w1)) (some (false,w1))) fun c_1 w2=>some (.bool c_1,w2):=by kernel_rfl
def Eg3:Cuts:=⟨0,[],[],[]⟩
def Gb3:List Item:=A5 Tryz.f271
theorem Hy4  (h:H) :
 A4 PR Eg3 C R Bx3 Tryz.f271 100000 true Gb3 [] h =
 bnd (C A05 [.int .i64 40,.func (.func B15) ⟨[]⟩ ⟨[]⟩,.func (.func B36) ⟨[]⟩ ⟨[]⟩] h) fun r w=>aPtr r fun x=>some (.pointer x,w):=by kernel_rfl
def Bo4:Cuts:=⟨0,[(3,[0,3,4])],[],[]⟩
def De5:List Item:=A5 Tryz.f294
def Ar2:List Item:=stk [0,1,0,1,0,0,1,4,5] De5
theorem G14 (n:Option Addr) (h:H) :
 A4 PR Bo4 C R Z4 Tryz.f294 100000 true De5 [(0,.pointer n)] h =
 R Z4 Ar2 [(0,.pointer n),(3,.slice none 0 0),(4,.int .i64 0)] h:=by kernel_rfl
theorem Dq4 (n:Option Addr) (out:Option Addr) (outn outc:Nat) (i:Int) (h:H) :
 A4 PR Bo4 C R Z4 Tryz.f294 100000 true Ar2 [(0,.pointer n),(3,.slice out outn outc),(4,.int .i64 i)] h =
 aSome n fun p=>gSl (Addr.add p 0) h fun _ xn _=>cond (decide (i<(xn:Int)))
 (aSome n fun p_1=>gSl (Addr.add p_1 0) h fun z1 xn_1 _=>aSome z1 fun p_2=>ck ((0:Int)≤i∧i<(xn_1:Int)) (gBool (Addr.add (Addr.add (B3 p_2) (Int.toNat i*2)) 1) h fun z2=>cond z2
 (aSome n fun p_3=>gSl (Addr.add p_3 0) h fun z3 xn_2 _=>aSome z3 fun p_4=>ck ((0:Int)≤i∧i<(xn_2:Int)) (gInt .i64 (Addr.add (Addr.add (B3 p_4) (Int.toNat i*2)) 0) h fun z4=>nw (.cells A8 false [.int .i64 (IntKind.wrap .i64 (i+(IntKind.wrap .i64 (256*z4))))]) h fun b w=>gCells (some ⟨b,0,none⟩) (1*1) w fun cs=>ckB (fitsOpen out A8 w) (apd A8 1 out outn outc 1 cs w fun a an ac w1=>R Z4 Ar2 [(0,.pointer n),(3,.slice a an ac),(4,.int .i64 (IntKind.wrap .i64 (i+1)))] w1)))
 (R Z4 Ar2 [(0,.pointer n),(3,.slice out outn outc),(4,.int .i64 (IntKind.wrap .i64 (i+1)))] h)))
 (some (.slice out outn outc,h)):=by kernel_rfl
def Dk9:Cuts:=⟨0,[],[],[]⟩
def Em8:List Item:=A5 Tryz.f296
theorem Hf1 (m:Option Addr) (atv:Int) (b:Option Addr) (bn bc:Nat) (h:H) :
 A4 PR Dk9 C R Bt8 Tryz.f296 100000 true Em8 [(0,.pointer m),(1,.int .i64 atv),(2,.slice b bn bc)] h =
 bnd (C Bv8 [.pointer m,.int .i64 atv,.int .i64 (bn:Int)] h) fun r w=>aBool r fun x=>cond (!x)
 (some (.int .i64 1,w))
 (aSome m fun p=>gSl (Addr.add p 0) w fun z1 xn xc=>ckB (fitsOpen z1 A3 w) (ck ((0:Int)≤atv∧atv≤(xn:Int)) (gCells b (min bn (xn-(Int.toNat atv))*1) w fun cs=>pCells (I0 z1 (decide (Int.toNat atv<xc)) ((Int.toNat atv)*1)) cs w fun w1=>some (.int .i64 0,w1)))):=by kernel_rfl
def Db8:Cuts:=⟨0,[],[],[]⟩
def Eg5:List Item:=A5 Tryz.f297
theorem G29 (s:Option Addr) (env:Int) (name:Int) (h:H) :
 A4 PR Db8 C R A43 Tryz.f297 100000 true Eg5 [(0,.pointer s),(1,.int .i64 env),(2,.int .i64 name)] h =
 nw (.cells V4 false [.int .i64 0,.int .i64 0,.int .i64 0,.int .i64 0,.int .i64 0,.int .i64 0]) h fun b w=>bnd (C An7 [.pointer s,.int .i64 env] w) fun r w1=>aBool r fun x=>cond (!x)
 (pAgg ⟨b,0,none⟩ [.int .i64 0,.int .i64 0,.int .i64 0,.int .i64 0,.int .i64 0,.int .i64 0] w1 fun w2=>gAgg ⟨b,0,none⟩ 6 w2 fun z1=>some (.tuple ⟨[.agg ⟨z1⟩,.int .i64 2]⟩,w2))
 (aSome s fun p=>gSl (Addr.add p 0) w1 fun z2 xn _=>aSome z2 fun p_1=>ck ((0:Int)≤env∧env<(xn:Int)) (gPtr (Addr.add (B3 p_1) (Int.toNat env*1)) w1 fun z3=>bnd (C Ak4 [.pointer z3,.int .i64 name] w1) fun q1 w3=>as2 q1 fun q2 q3=>aAgg q2 fun z4=>aBool q3 fun z5=>nw (.cells V4 false [.int .i64 0,.int .i64 0,.int .i64 0,.int .i64 0,.int .i64 0,.int .i64 0]) w3 fun p1 w4=>ck (List.length z4=6) (pAgg ⟨p1,0,none⟩ z4 w4 fun w5=>cond (!z5)
 (pAgg ⟨b,0,none⟩ [.int .i64 0,.int .i64 0,.int .i64 0,.int .i64 0,.int .i64 0,.int .i64 0] w5 fun w6=>gAgg ⟨b,0,none⟩ 6 w6 fun z6=>some (.tuple ⟨[.agg ⟨z6⟩,.int .i64 2]⟩,w6))
 (gAgg ⟨p1,0,none⟩ 6 w5 fun z7=>ck (List.length z7=6) (pAgg ⟨b,0,none⟩ z7 w5 fun w7=>gAgg ⟨b,0,none⟩ 6 w7 fun z8=>some (.tuple ⟨[.agg ⟨z8⟩,.int .i64 0]⟩,w7)))))):=by kernel_rfl
def Ab5:Cuts:=⟨0,[(2,[0,1,7,8])],[],[]⟩
def Ao0:List Item:=A5 Tryz.f309
def W6:List Item:=stk [0,1,0,0,1,4,5] Ao0
theorem Do3 (s:Option Addr) (sn sc:Nat) (f:Value) (h:H) :
 A4 PR Ab5 C R H2 Tryz.f309 100000 true Ao0 [(0,.slice s sn sc),(1,f)] h =
 R H2 W6 [(0,.slice s sn sc),(1,f),(7,.int .i64 (sn:Int)),(8,.int .i64 0)] h:=by kernel_rfl
theorem A26 (s:Option Addr) (sn sc:Nat) (f:Value) (x7:Int) (x8:Int) (h:H) :
 A4 PR Ab5 C R H2 Tryz.f309 100000 true W6 [(0,.slice s sn sc),(1,f),(7,.int .i64 x7),(8,.int .i64 x8)] h =
 cond (decide (x8<x7))
 (aSome s fun p=>ck ((0:Int)≤x8∧x8<(sn:Int)) (gInt .u8 (Addr.add (B3 p) (Int.toNat x8*1)) h fun x=>aFn f fun g fi cp=>bnd (C g (fi++([.int .u8 x]++cp)) h) fun r w=>aBool r fun z1=>cond z1
 (some (.int .i64 x8,w))
 (R H2 W6 [(0,.slice s sn sc),(1,f),(7,.int .i64 x7),(8,.int .i64 (IntKind.wrap .i64 (x8+1)))] w)))
 (some (.int .i64 (-1),h)):=by kernel_rfl
def Ea9:Cuts:=⟨0,[],[],[(3,⟨[0,1,2,3,4,5,6,7,8,9,10,11,12,13,14],[0,0,3,7,15,31,0,0,128,448,960,1984,4095,8191,16383],[],[]⟩)]⟩
def Gc2:List Item:=A5 Tryz.f313
theorem H02 (b:Option Addr) (bn bc:Nat) (atv:Int) (h:H) :
 A4 PR Ea9 C R Dk7 Tryz.f313 100000 true Gc2 [(0,.slice b bn bc),(1,.int .i64 atv)] h =
 bnd (cond (decide (atv<0)) (some (true,h)) (some (decide (atv>(IntKind.wrap .i64 ((bn:Int)-2))),h))) fun c w=>cond c
 (some (.tuple ⟨[.int .i64 0,.bool false]⟩,w))
 (aSome b fun p=>ck ((0:Int)≤atv∧atv<(bn:Int)) (gInt .u8 (Addr.add (B3 p) (Int.toNat atv*1)) w fun x=>aSome b fun p_1=>ck ((0:Int)≤IntKind.wrap .i64 (atv+1)∧IntKind.wrap .i64 (atv+1)<(bn:Int)) (gInt .u8 (Addr.add (B3 p_1) (Int.toNat (IntKind.wrap .i64 (atv+1))*1)) w fun z1=>some (.tuple ⟨[.int .i64 (Dv5 .i64 (IntKind.wrap .i64 ((IntKind.wrap .i64 (x))*2 ^ 8)) (IntKind.wrap .i64 (z1))),.bool true]⟩,w)))):=by kernel_rfl
def P5:Cuts:=⟨0,[(2,[0,1,7,8])],[],[]⟩
def Ab2:List Item:=A5 Tryz.f320
def N6:List Item:=stk [0,1,0,0,1,4,5] Ab2
theorem Bs8 (s:Option Addr) (sn sc:Nat) (f:Value) (h:H) :
 A4 PR P5 C R E2 Tryz.f320 100000 true Ab2 [(0,.slice s sn sc),(1,f)] h =
 R E2 N6 [(0,.slice s sn sc),(1,f),(7,.int .i64 (sn:Int)),(8,.int .i64 0)] h:=by kernel_rfl
theorem Am0 (s:Option Addr) (sn sc:Nat) (f:Value) (x7:Int) (x8:Int) (h:H) :
 A4 PR P5 C R E2 Tryz.f320 100000 true N6 [(0,.slice s sn sc),(1,f),(7,.int .i64 x7),(8,.int .i64 x8)] h =
 cond (decide (x8<x7))
 (aSome s fun p=>ck ((0:Int)≤x8∧x8<(sn:Int)) (gAgg (Addr.add (B3 p) (Int.toNat x8*16)) 16 h fun x=>aFn f fun g fi cp=>bnd (C g (fi++([.agg ⟨x⟩]++cp)) h) fun r w=>aBool r fun z1=>cond z1
 (some (.int .i64 x8,w))
 (R E2 N6 [(0,.slice s sn sc),(1,f),(7,.int .i64 x7),(8,.int .i64 (IntKind.wrap .i64 (x8+1)))] w)))
 (some (.int .i64 (-1),h)):=by kernel_rfl
def En8:Cuts:=⟨0,[],[],[]⟩
def Gw8:List Item:=A5 Tryz.f324
theorem If9 (f:List Value) (b:Option Addr) (bn bc:Nat) (h:H) :
 A4 PR En8 C R A25 Tryz.f324 100000 true Gw8 [(0,.agg ⟨f⟩),(1,.slice b bn bc)] h =
 nw (.cells D2 false f) h fun p1 w=>gAgg ⟨p1,0,none⟩ 4 w fun x=>bnd (C D61 [.agg ⟨x⟩] w) fun r w1=>aBool r fun z1=>cond (!z1)
 (some (.bool false,w1))
 (gInt .i64 ⟨p1,0,none⟩ w1 fun z2=>gInt .i64 ⟨p1,1,none⟩ w1 fun z3=>gInt .i64 ⟨p1,2,none⟩ w1 fun z4=>gInt .i64 ⟨p1,3,none⟩ w1 fun z5=>nw (.cells A3 false [.int .u8 (IntKind.wrap .u8 (z2)),.int .u8 (IntKind.wrap .u8 (z3)),.int .u8 (IntKind.wrap .u8 (z4)),.int .u8 (IntKind.wrap .u8 (z5)),.int .u8 179]) w1 fun p2 w2=>gCells (some ⟨p2,0,none⟩) (min 5 bn*1) w2 fun cs=>pCells b cs w2 fun w3=>ckB (fitsOpen b A3 w3) (ck ((0:Int)≤5∧5≤(bc:Int)) (bnd (C Ai0 [.slice (I0 b (decide (0<bc)) (0*1)) ((Int.toNat 5)-0) (bc-0)] w3) fun q1 w4=>aInt .u8 q1 fun z6=>aSome b fun p=>ck ((0:Int)≤5∧5<(bn:Int)) (pV (Addr.add (B3 p) (Int.toNat 5*1)) (.int .u8 z6) w4 fun w5=>some (.bool true,w5))))):=by kernel_rfl
def Bo3:Cuts:=⟨0,[],[],[]⟩
def Dl9:List Item:=A5 Tryz.f326
theorem E16 (size:Int) (put:Value) (get:Value) (h:H) :
 A4 PR Bo3 C R A05 Tryz.f326 100000 true Dl9 [(0,.int .i64 size),(1,put),(2,get)] h =
 one put (one get (nw (.cells B62 false [.int .i64 (mm2 false (mm2 true size 0) 64),put,get]) h fun b w=>some (.pointer (some ⟨b,0,none⟩),w))):=by kernel_rfl
def Ak9:Cuts:=⟨0,[(2,[0,3,11,12,13])],[],[(5,⟨[0,1,2,3,4,5,6,7,8,9,10,11,12,13,14,15,16],[0,1,3,7,0,0,32,96,224,0,0,1535,3583,7679,16383,32767,65535],[],[]⟩)]⟩
def Az9:List Item:=A5 Tryz.f331
def Af1:List Item:=stk [0,1,0,0,1,4,5] Az9
theorem D94 (t:Option Addr) (v:List Value) (h:H) :
 A4 PR Ak9 C R J7 Tryz.f331 100000 true Az9 [(0,.pointer t),(1,.agg ⟨v⟩)] h =
 nw (.cells V4 false v) h fun b w=>aSome t fun p=>gSl (Addr.add p 0) w fun x xn xc=>R J7 Af1 [(0,.pointer t),(3,.pointer (some ⟨b,0,none⟩)),(11,.slice x xn xc),(12,.int .i64 (xn:Int)),(13,.int .i64 0)] w:=by kernel_rfl
theorem Bi2 (t:Option Addr) (v:Addr) (x11:Option Addr) (x11n x11c:Nat) (x12:Int) (x13:Int) (h:H) :
 A4 PR Ak9 C R J7 Tryz.f331 100000 true Af1 [(0,.pointer t),(3,.pointer (some v)),(11,.slice x11 x11n x11c),(12,.int .i64 x12),(13,.int .i64 x13)] h =
 cond (decide (x13<x12))
 (aSome x11 fun p=>ck ((0:Int)≤x13∧x13<(x11n:Int)) (gAgg (Addr.add (B3 p) (Int.toNat x13*8)) 8 h fun x=>nw (.cells Aw5 false [.int .i64 0,.int .i64 0,.int .i64 0,.int .i64 0,.int .i64 0,.int .i64 0,.int .i64 0,.bool false]) h fun b w=>ck (List.length x=8) (pAgg ⟨b,0,none⟩ x w fun w1=>gBool ⟨b,7,none⟩ w1 fun z1=>bnd (cond (!z1) (gInt .i64 ⟨b,6,none⟩ w1 fun z2=>some (decide (z2≤1000000),w1)) (some (false,w1))) fun c w2=>cond c
 (aSome t fun p_1=>gSl (Addr.add p_1 0) w2 fun z3 xn _=>aSome t fun p_2=>gSl (Addr.add p_2 0) w2 fun z4 xn_1 _=>gAgg v 6 w2 fun z5=>aSome z3 fun p_3=>ck ((0:Int)≤x13∧x13<(xn:Int)) (ck (List.length z5=6) (pAgg (Addr.add (Addr.add (B3 p_3) (Int.toNat x13*8)) 0) z5 w2 fun w3=>aSome z4 fun p_4=>ck ((0:Int)≤x13∧x13<(xn_1:Int)) (pV (Addr.add (Addr.add (B3 p_4) (Int.toNat x13*8)) 7) (.bool true) w3 fun w4=>bnd (C Q8 [.pointer t,.int .i64 x13] w4) fun r w5=>aInt .i64 r fun z6=>some (.tuple ⟨[.int .i64 z6,.bool true]⟩,w5)))))
 (R J7 Af1 [(0,.pointer t),(3,.pointer (some v)),(11,.slice x11 x11n x11c),(12,.int .i64 x12),(13,.int .i64 (IntKind.wrap .i64 (x13+1)))] w2))))
 (some (.tuple ⟨[.int .i64 0,.bool false]⟩,h)):=by kernel_rfl
def Ax3:Cuts:=⟨0,[],[],[]⟩
def Br6:List Item:=A5 Tryz.f332
theorem D21 (t:Option Addr) (i:Int) (h:H) :
 A4 PR Ax3 C R Q8 Tryz.f332 100000 true Br6 [(0,.pointer t),(1,.int .i64 i)] h =
 aSome t fun p=>gSl (Addr.add p 0) h fun x xn _=>aSome x fun p_1=>ck ((0:Int)≤i∧i<(xn:Int)) (gInt .i64 (Addr.add (Addr.add (B3 p_1) (Int.toNat i*8)) 6) h fun z1=>some (.int .i64 (IntKind.wrap .i64 (i+(IntKind.wrap .i64 (256*z1)))),h)):=by kernel_rfl
end
end Go.EQ

set_option maxRecDepth 100000
namespace Go.EQ
open Go Go.NN Go.Proofs
variable (C:E0) (R:Ai7)
noncomputable section
def Jg8:List (Nat × Cuts):=[(5,Ay3),(8,Dj1),(9,D32),(10,Es0),(11,Ef0),(12,Dx3),(13,Be2),(14,D14),(15,Bg5),(17,Bt1),(19,Eq8),(20,Bn2),(21,Aj3),(22,Ep5),(23,Dw2),(24,D35),(33,Ef9),(34,Eg7),(35,Bg3),(36,Dt3),(37,Ds9),(38,D24),(39,B52),(40,Er4),(41,Dv7),(42,Bi7),(43,Er5),(44,A09),(45,Dq6),(46,Ee1),(47,E40),(48,Dt0),(49,B63),(50,Al3),(51,Du1),(52,Dq8),(53,Ey6),(54,D70),(62,Bu2),(64,Bn6),(67,Aa3),(68,Dr8),(69,Bd2),(70,Da2),(71,Ax4),(72,Dk8),(73,D25),(74,B43),(75,B29),(80,Bd9),(82,Bd4),(83,A02),(84,A10),(90,Au3),(100,Bh5),(101,Bm4),(102,A35),(103,D18),(104,Bz7),(105,B44),(106,Bx2),(108,Bp3),(117,Bx7),(118,Ds3),(119,A79),(120,Ee8),(121,Dc9),(122,G26),(123,Be5),(124,D15),(125,D37),(126,Aq1),(137,Ax6),(138,Ax2),(143,Bd8),(144,A84),(145,Ee7),(146,Ax5),(147,Dl5),(148,A82),(149,Es1),(150,E46),(151,Ba4),(152,Du9),(153,Bp1),(154,Da8),(155,A49),(157,Al0),(158,Ds7),(159,Dt7),(160,Ak7),(161,Dq9),(162,D30),(163,D27),(164,Ds1),(165,An8),(190,By9),(191,D38),(192,A38),(193,Gd2),(194,D96),(195,Dw3),(196,Ef3),(197,Ey3),(198,Bo8),(199,A61),(200,Dd9),(201,Bu6),(202,A93),(203,Bv5),(204,Dv2),(205,By8),(206,Em4),(207,Da7),(208,B56),(209,Bw0),(210,De1),(211,Bj9),(212,Be1),(213,Bj0),(214,B00),(216,Bt2),(217,Bw3),(218,B55),(219,B53),(220,Bn9),(221,Dc2),(222,Dd5),(223,D28),(224,Dc5),(231,Ap7),(232,A80),(233,Ah5),(234,Dk4),(235,Bo5),(236,Bs5),(237,B76),(247,A19),(248,B47),(249,O6),(250,Ae4),(251,Af0),(252,Ae5),(253,Aq9),(254,Ax0),(255,Aw4),(256,Ax1),(257,Bm7),(258,Ao5),(259,W8),(260,De7),(261,Al8),(262,Bw1),(263,An9),(264,Ay7),(265,W9),(266,By3),(267,Eo5),(268,An2),(269,D20),(270,Aq2),(271,Eg3),(272,Aq0),(273,Ap9),(274,Aq4),(276,Ge5),(283,Bl6),(285,Dr7),(286,Ef2),(287,A70),(288,Du5),(289,By2),(290,Dn2),(291,De4),(292,Bv0),(293,Ag5),(294,Bo4),(295,Bd7),(296,Dk9),(297,Db8),(300,Dd7),(301,Bx0),(302,Db7),(303,Aa8),(304,B50),(305,Dd3),(306,Bp0),(309,Ab5),(310,E22),(311,Ec5),(312,Dv9),(313,Ea9),(314,Ai5),(319,Aa2),(320,P5),(321,Ae8),(322,P6),(323,Bm6),(324,En8),(325,Eq0),(326,Bo3),(327,E30),(328,E73),(329,Es3),(331,Ak9),(332,Ax3),(333,Az7),(336,A59),(337,B48),(338,Ei1),(339,Ed1),(340,E21)]
def cutsOf:FuncId→Cuts:=G80 Jg8
noncomputable abbrev A6:E0:=NN.Call PR cutsOf
noncomputable abbrev D6:Ai7:=NN.Jump PR cutsOf
theorem Bf7:FnOk PR cutsOf D5 Tryz.f5 Ay3 Bg0 1:=⟨Tryz.func5,⟨_,rfl⟩,by kernel_rfl,rfl,rfl,by kernel_rfl⟩
theorem Dk2:FnOk PR cutsOf Ao2 Tryz.f8 Dj1 Ed3 1:=⟨Tryz.func8,⟨_,rfl⟩,by kernel_rfl,rfl,rfl,by kernel_rfl⟩
theorem Ht3:FnOk PR cutsOf Bp9 Tryz.f9 D32 E90 0:=⟨Tryz.func9,⟨_,rfl⟩,by kernel_rfl,rfl,rfl,by kernel_rfl⟩
theorem Gy8:FnOk PR cutsOf Bd5 Tryz.f10 Es0 Gv5 2:=⟨Tryz.func10,⟨_,rfl⟩,by kernel_rfl,rfl,rfl,by kernel_rfl⟩
theorem Gj2:FnOk PR cutsOf Bj2 Tryz.f11 Ef0 Ge1 4:=⟨Tryz.func11,⟨_,rfl⟩,by kernel_rfl,rfl,rfl,by kernel_rfl⟩
theorem Dx4:FnOk PR cutsOf Am5 Tryz.f12 Dx3 Eo7 4:=⟨Tryz.func12,⟨_,rfl⟩,by kernel_rfl,rfl,rfl,by kernel_rfl⟩
theorem Er1:FnOk PR cutsOf G4 Tryz.f13 Be2 B80 2:=⟨Tryz.func13,⟨_,rfl⟩,by kernel_rfl,rfl,rfl,by kernel_rfl⟩
theorem Hv3:FnOk PR cutsOf B92 Tryz.f14 D14 E93 0:=⟨Tryz.func14,⟨_,rfl⟩,by kernel_rfl,rfl,rfl,by kernel_rfl⟩
theorem B46:FnOk PR cutsOf Aa9 Tryz.f15 Bg5 B49 1:=⟨Tryz.func15,⟨_,rfl⟩,by kernel_rfl,rfl,rfl,by kernel_rfl⟩
theorem Ga2:FnOk PR cutsOf Ab4 Tryz.f17 Bt1 Dq1 1:=⟨Tryz.func17,⟨_,rfl⟩,by kernel_rfl,rfl,rfl,by kernel_rfl⟩
theorem Gt9:FnOk PR cutsOf Am4 Tryz.f19 Eq8 Gu0 2:=⟨Tryz.func19,⟨_,rfl⟩,by kernel_rfl,rfl,rfl,by kernel_rfl⟩
theorem E08:FnOk PR cutsOf An5 Tryz.f20 Bn2 Dj8 2:=⟨Tryz.func20,⟨_,rfl⟩,by kernel_rfl,rfl,rfl,by kernel_rfl⟩
theorem Aj8:FnOk PR cutsOf E4 Tryz.f21 Aj3 Aw1 1:=⟨Tryz.func21,⟨_,rfl⟩,by kernel_rfl,rfl,rfl,by kernel_rfl⟩
theorem Gz1:FnOk PR cutsOf Bs3 Tryz.f22 Ep5 Gv2 3:=⟨Tryz.func22,⟨_,rfl⟩,by kernel_rfl,rfl,rfl,by kernel_rfl⟩
theorem Dw8:FnOk PR cutsOf Ae1 Tryz.f23 Dw2 Eo3 2:=⟨Tryz.func23,⟨_,rfl⟩,by kernel_rfl,rfl,rfl,by kernel_rfl⟩
theorem Hu5:FnOk PR cutsOf Da5 Tryz.f24 D35 E92 1:=⟨Tryz.func24,⟨_,rfl⟩,by kernel_rfl,rfl,rfl,by kernel_rfl⟩
theorem H17:FnOk PR cutsOf By7 Tryz.f33 Ef9 Gj1 1:=⟨Tryz.func33,⟨_,rfl⟩,by kernel_rfl,rfl,rfl,by kernel_rfl⟩
theorem Hw8:FnOk PR cutsOf Dj0 Tryz.f34 Eg7 Gd6 0:=⟨Tryz.func34,⟨_,rfl⟩,by kernel_rfl,rfl,rfl,by kernel_rfl⟩
theorem B42:FnOk PR cutsOf V7 Tryz.f35 Bg3 B54 1:=⟨Tryz.func35,⟨_,rfl⟩,by kernel_rfl,rfl,rfl,by kernel_rfl⟩
theorem Hm2:FnOk PR cutsOf Aa5 Tryz.f36 Dt3 Ew1 3:=⟨Tryz.func36,⟨_,rfl⟩,by kernel_rfl,rfl,rfl,by kernel_rfl⟩
theorem Hj8:FnOk PR cutsOf A36 Tryz.f37 Ds9 Ew3 3:=⟨Tryz.func37,⟨_,rfl⟩,by kernel_rfl,rfl,rfl,by kernel_rfl⟩
theorem Ht5:FnOk PR cutsOf Br5 Tryz.f38 D24 E87 0:=⟨Tryz.func38,⟨_,rfl⟩,by kernel_rfl,rfl,rfl,by kernel_rfl⟩
theorem Gs6:FnOk PR cutsOf Bf8 Tryz.f39 B52 D46 1:=⟨Tryz.func39,⟨_,rfl⟩,by kernel_rfl,rfl,rfl,by kernel_rfl⟩
theorem Ig5:FnOk PR cutsOf L5 Tryz.f40 Er4 Gw9 1:=⟨Tryz.func40,⟨_,rfl⟩,by kernel_rfl,rfl,rfl,by kernel_rfl⟩
theorem Ep3:FnOk PR cutsOf A29 Tryz.f41 Dv7 Er3 1:=⟨Tryz.func41,⟨_,rfl⟩,by kernel_rfl,rfl,rfl,by kernel_rfl⟩
theorem A50:FnOk PR cutsOf H5 Tryz.f42 Bi7 By4 2:=⟨Tryz.func42,⟨_,rfl⟩,by kernel_rfl,rfl,rfl,by kernel_rfl⟩
theorem Ie2:FnOk PR cutsOf Ae3 Tryz.f43 Er5 Gv8 2:=⟨Tryz.func43,⟨_,rfl⟩,by kernel_rfl,rfl,rfl,by kernel_rfl⟩
theorem D78:FnOk PR cutsOf I3 Tryz.f44 A09 Bt9 3:=⟨Tryz.func44,⟨_,rfl⟩,by kernel_rfl,rfl,rfl,by kernel_rfl⟩
theorem Hh8:FnOk PR cutsOf Bk1 Tryz.f45 Dq6 Et2 1:=⟨Tryz.func45,⟨_,rfl⟩,by kernel_rfl,rfl,rfl,by kernel_rfl⟩
theorem H57:FnOk PR cutsOf Dn6 Tryz.f46 Ee1 Gg8 3:=⟨Tryz.func46,⟨_,rfl⟩,by kernel_rfl,rfl,rfl,by kernel_rfl⟩
theorem Iq2:FnOk PR cutsOf D74 Tryz.f47 E40 Hc8 2:=⟨Tryz.func47,⟨_,rfl⟩,by kernel_rfl,rfl,rfl,by kernel_rfl⟩
theorem Hi4:FnOk PR cutsOf B31 Tryz.f48 Dt0 Eu5 2:=⟨Tryz.func48,⟨_,rfl⟩,by kernel_rfl,rfl,rfl,by kernel_rfl⟩
theorem Eo8:FnOk PR cutsOf Aa4 Tryz.f49 B63 Dx0 2:=⟨Tryz.func49,⟨_,rfl⟩,by kernel_rfl,rfl,rfl,by kernel_rfl⟩
theorem A15:FnOk PR cutsOf O5 Tryz.f50 Al3 A12 3:=⟨Tryz.func50,⟨_,rfl⟩,by kernel_rfl,rfl,rfl,by kernel_rfl⟩
theorem Hk5:FnOk PR cutsOf A34 Tryz.f51 Du1 Eu3 1:=⟨Tryz.func51,⟨_,rfl⟩,by kernel_rfl,rfl,rfl,by kernel_rfl⟩
theorem Hl2:FnOk PR cutsOf Af4 Tryz.f52 Dq8 Et8 1:=⟨Tryz.func52,⟨_,rfl⟩,by kernel_rfl,rfl,rfl,by kernel_rfl⟩
theorem Iq3:FnOk PR cutsOf Bn8 Tryz.f53 Ey6 Hd7 1:=⟨Tryz.func53,⟨_,rfl⟩,by kernel_rfl,rfl,rfl,by kernel_rfl⟩
theorem E49:FnOk PR cutsOf Ap0 Tryz.f54 D70 E10 1:=⟨Tryz.func54,⟨_,rfl⟩,by kernel_rfl,rfl,rfl,by kernel_rfl⟩
theorem Dn5:FnOk PR cutsOf Ab6 Tryz.f62 Bu2 Dn4 2:=⟨Tryz.func62,⟨_,rfl⟩,by kernel_rfl,rfl,rfl,by kernel_rfl⟩
theorem Eb7:FnOk PR cutsOf Ad6 Tryz.f64 Bn6 Dd6 2:=⟨Tryz.func64,⟨_,rfl⟩,by kernel_rfl,rfl,rfl,by kernel_rfl⟩
theorem U3:FnOk PR cutsOf D4 Tryz.f67 Aa3 Ah6 1:=⟨Tryz.func67,⟨_,rfl⟩,by kernel_rfl,rfl,rfl,by kernel_rfl⟩
theorem Hk7:FnOk PR cutsOf Bk5 Tryz.f68 Dr8 Es8 3:=⟨Tryz.func68,⟨_,rfl⟩,by kernel_rfl,rfl,rfl,by kernel_rfl⟩
theorem Er9:FnOk PR cutsOf Aa6 Tryz.f69 Bd2 B59 2:=⟨Tryz.func69,⟨_,rfl⟩,by kernel_rfl,rfl,rfl,by kernel_rfl⟩
theorem D39:FnOk PR cutsOf Ai9 Tryz.f70 Da2 D13 2:=⟨Tryz.func70,⟨_,rfl⟩,by kernel_rfl,rfl,rfl,by kernel_rfl⟩
theorem D23:FnOk PR cutsOf N3 Tryz.f71 Ax4 Br9 2:=⟨Tryz.func71,⟨_,rfl⟩,by kernel_rfl,rfl,rfl,by kernel_rfl⟩
theorem Eg9:FnOk PR cutsOf Z6 Tryz.f72 Dk8 Ef5 2:=⟨Tryz.func72,⟨_,rfl⟩,by kernel_rfl,rfl,rfl,by kernel_rfl⟩
theorem Ht9:FnOk PR cutsOf Br2 Tryz.f73 D25 E75 2:=⟨Tryz.func73,⟨_,rfl⟩,by kernel_rfl,rfl,rfl,by kernel_rfl⟩
theorem Gr9:FnOk PR cutsOf Ag3 Tryz.f74 B43 D53 1:=⟨Tryz.func74,⟨_,rfl⟩,by kernel_rfl,rfl,rfl,by kernel_rfl⟩
theorem Ds2:FnOk PR cutsOf Ae9 Tryz.f75 B29 Dt1 1:=⟨Tryz.func75,⟨_,rfl⟩,by kernel_rfl,rfl,rfl,by kernel_rfl⟩
theorem Er2:FnOk PR cutsOf U5 Tryz.f80 Bd9 B67 2:=⟨Tryz.func80,⟨_,rfl⟩,by kernel_rfl,rfl,rfl,by kernel_rfl⟩
theorem Eq4:FnOk PR cutsOf Ah7 Tryz.f82 Bd4 B61 2:=⟨Tryz.func82,⟨_,rfl⟩,by kernel_rfl,rfl,rfl,by kernel_rfl⟩
theorem D65:FnOk PR cutsOf Al1 Tryz.f83 A02 Bu5 3:=⟨Tryz.func83,⟨_,rfl⟩,by kernel_rfl,rfl,rfl,by kernel_rfl⟩
theorem Ea0:FnOk PR cutsOf Ab9 Tryz.f84 A10 Bu9 3:=⟨Tryz.func84,⟨_,rfl⟩,by kernel_rfl,rfl,rfl,by kernel_rfl⟩
theorem Dy7:FnOk PR cutsOf P9 Tryz.f90 Au3 Bl1 2:=⟨Tryz.func90,⟨_,rfl⟩,by kernel_rfl,rfl,rfl,by kernel_rfl⟩
theorem A52:FnOk PR cutsOf M6 Tryz.f100 Bh5 Bv9 1:=⟨Tryz.func100,⟨_,rfl⟩,by kernel_rfl,rfl,rfl,by kernel_rfl⟩
theorem Az8:FnOk PR cutsOf J4 Tryz.f101 Bm4 B27 1:=⟨Tryz.func101,⟨_,rfl⟩,by kernel_rfl,rfl,rfl,by kernel_rfl⟩
theorem At2:FnOk PR cutsOf H3 Tryz.f102 A35 Bi5 1:=⟨Tryz.func102,⟨_,rfl⟩,by kernel_rfl,rfl,rfl,by kernel_rfl⟩
theorem Hs0:FnOk PR cutsOf B95 Tryz.f103 D18 E81 2:=⟨Tryz.func103,⟨_,rfl⟩,by kernel_rfl,rfl,rfl,by kernel_rfl⟩
theorem Gc4:FnOk PR cutsOf Bc6 Tryz.f104 Bz7 D03 2:=⟨Tryz.func104,⟨_,rfl⟩,by kernel_rfl,rfl,rfl,by kernel_rfl⟩
theorem Gr7:FnOk PR cutsOf Bg9 Tryz.f105 B44 D44 3:=⟨Tryz.func105,⟨_,rfl⟩,by kernel_rfl,rfl,rfl,by kernel_rfl⟩
theorem Gh7:FnOk PR cutsOf Bc2 Tryz.f106 Bx2 Dy8 3:=⟨Tryz.func106,⟨_,rfl⟩,by kernel_rfl,rfl,rfl,by kernel_rfl⟩
theorem E27:FnOk PR cutsOf A06 Tryz.f108 Bp3 Dj3 5:=⟨Tryz.func108,⟨_,rfl⟩,by kernel_rfl,rfl,rfl,by kernel_rfl⟩
theorem Gk2:FnOk PR cutsOf Bb4 Tryz.f117 Bx7 Dy9 1:=⟨Tryz.func117,⟨_,rfl⟩,by kernel_rfl,rfl,rfl,by kernel_rfl⟩
theorem Hk4:FnOk PR cutsOf Bi1 Tryz.f118 Ds3 Et7 1:=⟨Tryz.func118,⟨_,rfl⟩,by kernel_rfl,rfl,rfl,by kernel_rfl⟩
theorem Ei4:FnOk PR cutsOf N5 Tryz.f119 A79 B39 4:=⟨Tryz.func119,⟨_,rfl⟩,by kernel_rfl,rfl,rfl,by kernel_rfl⟩
theorem H91:FnOk PR cutsOf Bx5 Tryz.f120 Ee8 Gg2 2:=⟨Tryz.func120,⟨_,rfl⟩,by kernel_rfl,rfl,rfl,by kernel_rfl⟩
theorem G45:FnOk PR cutsOf A40 Tryz.f121 Dc9 Eg0 2:=⟨Tryz.func121,⟨_,rfl⟩,by kernel_rfl,rfl,rfl,by kernel_rfl⟩
theorem Jb3:FnOk PR cutsOf E68 Tryz.f122 G26 H77 1:=⟨Tryz.func122,⟨_,rfl⟩,by kernel_rfl,rfl,rfl,by kernel_rfl⟩
theorem Ep8:FnOk PR cutsOf U6 Tryz.f123 Be5 B69 2:=⟨Tryz.func123,⟨_,rfl⟩,by kernel_rfl,rfl,rfl,by kernel_rfl⟩
theorem Hv5:FnOk PR cutsOf Ax8 Tryz.f124 D15 E97 1:=⟨Tryz.func124,⟨_,rfl⟩,by kernel_rfl,rfl,rfl,by kernel_rfl⟩
theorem Hu8:FnOk PR cutsOf Bp6 Tryz.f125 D37 E91 0:=⟨Tryz.func125,⟨_,rfl⟩,by kernel_rfl,rfl,rfl,by kernel_rfl⟩
theorem Do9:FnOk PR cutsOf Ac5 Tryz.f126 Aq1 Bf0 2:=⟨Tryz.func126,⟨_,rfl⟩,by kernel_rfl,rfl,rfl,by kernel_rfl⟩
theorem D34:FnOk PR cutsOf Ai8 Tryz.f137 Ax6 Bq6 2:=⟨Tryz.func137,⟨_,rfl⟩,by kernel_rfl,rfl,rfl,by kernel_rfl⟩
theorem D22:FnOk PR cutsOf Ai6 Tryz.f138 Ax2 Bp8 2:=⟨Tryz.func138,⟨_,rfl⟩,by kernel_rfl,rfl,rfl,by kernel_rfl⟩
theorem Ep4:FnOk PR cutsOf Au1 Tryz.f143 Bd8 B82 1:=⟨Tryz.func143,⟨_,rfl⟩,by kernel_rfl,rfl,rfl,by kernel_rfl⟩
theorem Ej0:FnOk PR cutsOf Aq8 Tryz.f144 A84 B41 1:=⟨Tryz.func144,⟨_,rfl⟩,by kernel_rfl,rfl,rfl,by kernel_rfl⟩
theorem H24:FnOk PR cutsOf Bv8 Tryz.f145 Ee7 Gf4 3:=⟨Tryz.func145,⟨_,rfl⟩,by kernel_rfl,rfl,rfl,by kernel_rfl⟩
theorem Bq9:FnOk PR cutsOf H6 Tryz.f146 Ax5 Bp7 1:=⟨Tryz.func146,⟨_,rfl⟩,by kernel_rfl,rfl,rfl,by kernel_rfl⟩
theorem He0:FnOk PR cutsOf Bb9 Tryz.f147 Dl5 Em5 2:=⟨Tryz.func147,⟨_,rfl⟩,by kernel_rfl,rfl,rfl,by kernel_rfl⟩
theorem Ei8:FnOk PR cutsOf Z0 Tryz.f148 A82 B38 2:=⟨Tryz.func148,⟨_,rfl⟩,by kernel_rfl,rfl,rfl,by kernel_rfl⟩
theorem Ig2:FnOk PR cutsOf Dx2 Tryz.f149 Es1 Gu4 1:=⟨Tryz.func149,⟨_,rfl⟩,by kernel_rfl,rfl,rfl,by kernel_rfl⟩
theorem Ip7:FnOk PR cutsOf Dl0 Tryz.f150 E46 G70 1:=⟨Tryz.func150,⟨_,rfl⟩,by kernel_rfl,rfl,rfl,by kernel_rfl⟩
theorem B06:FnOk PR cutsOf Y1 Tryz.f151 Ba4 Bz8 1:=⟨Tryz.func151,⟨_,rfl⟩,by kernel_rfl,rfl,rfl,by kernel_rfl⟩
theorem Hh7:FnOk PR cutsOf B26 Tryz.f152 Du9 Ev5 1:=⟨Tryz.func152,⟨_,rfl⟩,by kernel_rfl,rfl,rfl,by kernel_rfl⟩
theorem Dc3:FnOk PR cutsOf Ad1 Tryz.f153 Bp1 Da6 1:=⟨Tryz.func153,⟨_,rfl⟩,by kernel_rfl,rfl,rfl,by kernel_rfl⟩
theorem G11:FnOk PR cutsOf Bo0 Tryz.f154 Da8 Ee6 1:=⟨Tryz.func154,⟨_,rfl⟩,by kernel_rfl,rfl,rfl,by kernel_rfl⟩
theorem A41:FnOk PR cutsOf H8 Tryz.f155 A49 Bn7 1:=⟨Tryz.func155,⟨_,rfl⟩,by kernel_rfl,rfl,rfl,by kernel_rfl⟩
theorem Az5:FnOk PR cutsOf O4 Tryz.f157 Al0 Az4 3:=⟨Tryz.func157,⟨_,rfl⟩,by kernel_rfl,rfl,rfl,by kernel_rfl⟩
theorem Hi0:FnOk PR cutsOf A32 Tryz.f158 Ds7 Ev1 1:=⟨Tryz.func158,⟨_,rfl⟩,by kernel_rfl,rfl,rfl,by kernel_rfl⟩
theorem Hg8:FnOk PR cutsOf Ae7 Tryz.f159 Dt7 Eu8 1:=⟨Tryz.func159,⟨_,rfl⟩,by kernel_rfl,rfl,rfl,by kernel_rfl⟩
theorem A20:FnOk PR cutsOf J9 Tryz.f160 Ak7 A11 3:=⟨Tryz.func160,⟨_,rfl⟩,by kernel_rfl,rfl,rfl,by kernel_rfl⟩
theorem Hk0:FnOk PR cutsOf A33 Tryz.f161 Dq9 Et5 1:=⟨Tryz.func161,⟨_,rfl⟩,by kernel_rfl,rfl,rfl,by kernel_rfl⟩
theorem Hu1:FnOk PR cutsOf Z7 Tryz.f162 D30 E76 1:=⟨Tryz.func162,⟨_,rfl⟩,by kernel_rfl,rfl,rfl,by kernel_rfl⟩
theorem Hu9:FnOk PR cutsOf Bs0 Tryz.f163 D27 E98 1:=⟨Tryz.func163,⟨_,rfl⟩,by kernel_rfl,rfl,rfl,by kernel_rfl⟩
theorem Hk9:FnOk PR cutsOf Bh8 Tryz.f164 Ds1 Ex4 1:=⟨Tryz.func164,⟨_,rfl⟩,by kernel_rfl,rfl,rfl,by kernel_rfl⟩
theorem A55:FnOk PR cutsOf I7 Tryz.f165 An8 A58 2:=⟨Tryz.func165,⟨_,rfl⟩,by kernel_rfl,rfl,rfl,by kernel_rfl⟩
theorem Bw9:FnOk PR cutsOf Aa1 Tryz.f190 By9 Dn8 1:=⟨Tryz.func190,⟨_,rfl⟩,by kernel_rfl,rfl,rfl,by kernel_rfl⟩
theorem Hs8:FnOk PR cutsOf Bq0 Tryz.f191 D38 E83 1:=⟨Tryz.func191,⟨_,rfl⟩,by kernel_rfl,rfl,rfl,by kernel_rfl⟩
theorem Ea8:FnOk PR cutsOf Ad4 Tryz.f192 A38 Bz3 1:=⟨Tryz.func192,⟨_,rfl⟩,by kernel_rfl,rfl,rfl,by kernel_rfl⟩
theorem I67:FnOk PR cutsOf Em2 Tryz.f193 Gd2 Hp2 1:=⟨Tryz.func193,⟨_,rfl⟩,by kernel_rfl,rfl,rfl,by kernel_rfl⟩
theorem E34:FnOk PR cutsOf A95 Tryz.f194 D96 Ez0 1:=⟨Tryz.func194,⟨_,rfl⟩,by kernel_rfl,rfl,rfl,by kernel_rfl⟩
theorem Er6:FnOk PR cutsOf A22 Tryz.f195 Dw3 En5 1:=⟨Tryz.func195,⟨_,rfl⟩,by kernel_rfl,rfl,rfl,by kernel_rfl⟩
theorem H40:FnOk PR cutsOf Dh6 Tryz.f196 Ef3 Gb5 2:=⟨Tryz.func196,⟨_,rfl⟩,by kernel_rfl,rfl,rfl,by kernel_rfl⟩
theorem Io3:FnOk PR cutsOf D95 Tryz.f197 Ey3 Hc1 1:=⟨Tryz.func197,⟨_,rfl⟩,by kernel_rfl,rfl,rfl,by kernel_rfl⟩
theorem E35:FnOk PR cutsOf A00 Tryz.f198 Bo8 Dj4 3:=⟨Tryz.func198,⟨_,rfl⟩,by kernel_rfl,rfl,rfl,by kernel_rfl⟩
theorem Bt5:FnOk PR cutsOf V5 Tryz.f199 A61 Bt0 2:=⟨Tryz.func199,⟨_,rfl⟩,by kernel_rfl,rfl,rfl,by kernel_rfl⟩
theorem G18:FnOk PR cutsOf Bo1 Tryz.f200 Dd9 Ec9 3:=⟨Tryz.func200,⟨_,rfl⟩,by kernel_rfl,rfl,rfl,by kernel_rfl⟩
theorem Di3:FnOk PR cutsOf Ag4 Tryz.f201 Bu6 Dn9 1:=⟨Tryz.func201,⟨_,rfl⟩,by kernel_rfl,rfl,rfl,by kernel_rfl⟩
theorem B02:FnOk PR cutsOf S7 Tryz.f202 A93 Bz9 2:=⟨Tryz.func202,⟨_,rfl⟩,by kernel_rfl,rfl,rfl,by kernel_rfl⟩
theorem Dm7:FnOk PR cutsOf Ah0 Tryz.f203 Bv5 Dj9 1:=⟨Tryz.func203,⟨_,rfl⟩,by kernel_rfl,rfl,rfl,by kernel_rfl⟩
theorem Hj1:FnOk PR cutsOf B08 Tryz.f204 Dv2 Ev3 1:=⟨Tryz.func204,⟨_,rfl⟩,by kernel_rfl,rfl,rfl,by kernel_rfl⟩
theorem Gl5:FnOk PR cutsOf A92 Tryz.f205 By8 Dz3 3:=⟨Tryz.func205,⟨_,rfl⟩,by kernel_rfl,rfl,rfl,by kernel_rfl⟩
theorem Gg5:FnOk PR cutsOf Bl2 Tryz.f206 Em4 Gl1 2:=⟨Tryz.func206,⟨_,rfl⟩,by kernel_rfl,rfl,rfl,by kernel_rfl⟩
theorem G30:FnOk PR cutsOf Bm3 Tryz.f207 Da7 Ei0 3:=⟨Tryz.func207,⟨_,rfl⟩,by kernel_rfl,rfl,rfl,by kernel_rfl⟩
theorem Gs9:FnOk PR cutsOf Ay6 Tryz.f208 B56 D50 1:=⟨Tryz.func208,⟨_,rfl⟩,by kernel_rfl,rfl,rfl,by kernel_rfl⟩
theorem Gd5:FnOk PR cutsOf Av7 Tryz.f209 Bw0 Dy2 2:=⟨Tryz.func209,⟨_,rfl⟩,by kernel_rfl,rfl,rfl,by kernel_rfl⟩
theorem Gz8:FnOk PR cutsOf Bo2 Tryz.f210 De1 Ee2 2:=⟨Tryz.func210,⟨_,rfl⟩,by kernel_rfl,rfl,rfl,by kernel_rfl⟩
theorem Et0:FnOk PR cutsOf Ak3 Tryz.f211 Bj9 Df9 5:=⟨Tryz.func211,⟨_,rfl⟩,by kernel_rfl,rfl,rfl,by kernel_rfl⟩
theorem Eq7:FnOk PR cutsOf Ah4 Tryz.f212 Be1 B86 5:=⟨Tryz.func212,⟨_,rfl⟩,by kernel_rfl,rfl,rfl,by kernel_rfl⟩
theorem Ev8:FnOk PR cutsOf Aw6 Tryz.f213 Bj0 Df2 7:=⟨Tryz.func213,⟨_,rfl⟩,by kernel_rfl,rfl,rfl,by kernel_rfl⟩
theorem Ge2:FnOk PR cutsOf Bb1 Tryz.f214 B00 Dz1 7:=⟨Tryz.func214,⟨_,rfl⟩,by kernel_rfl,rfl,rfl,by kernel_rfl⟩
theorem Ga7:FnOk PR cutsOf A68 Tryz.f216 Bt2 Dp9 2:=⟨Tryz.func216,⟨_,rfl⟩,by kernel_rfl,rfl,rfl,by kernel_rfl⟩
theorem Gg0:FnOk PR cutsOf A99 Tryz.f217 Bw3 Dz6 3:=⟨Tryz.func217,⟨_,rfl⟩,by kernel_rfl,rfl,rfl,by kernel_rfl⟩
theorem Gr2:FnOk PR cutsOf Bg7 Tryz.f218 B55 D41 3:=⟨Tryz.func218,⟨_,rfl⟩,by kernel_rfl,rfl,rfl,by kernel_rfl⟩
theorem Gs4:FnOk PR cutsOf Bf9 Tryz.f219 B53 D51 3:=⟨Tryz.func219,⟨_,rfl⟩,by kernel_rfl,rfl,rfl,by kernel_rfl⟩
theorem E17:FnOk PR cutsOf A14 Tryz.f220 Bn9 Dl1 6:=⟨Tryz.func220,⟨_,rfl⟩,by kernel_rfl,rfl,rfl,by kernel_rfl⟩
theorem G32:FnOk PR cutsOf Bm5 Tryz.f221 Dc2 Eh0 3:=⟨Tryz.func221,⟨_,rfl⟩,by kernel_rfl,rfl,rfl,by kernel_rfl⟩
theorem G35:FnOk PR cutsOf As6 Tryz.f222 Dd5 Eg1 2:=⟨Tryz.func222,⟨_,rfl⟩,by kernel_rfl,rfl,rfl,by kernel_rfl⟩
theorem Hu4:FnOk PR cutsOf Ap4 Tryz.f223 D28 E86 3:=⟨Tryz.func223,⟨_,rfl⟩,by kernel_rfl,rfl,rfl,by kernel_rfl⟩
theorem G12:FnOk PR cutsOf Bl5 Tryz.f224 Dc5 Ef8 3:=⟨Tryz.func224,⟨_,rfl⟩,by kernel_rfl,rfl,rfl,by kernel_rfl⟩
theorem Do5:FnOk PR cutsOf Ac4 Tryz.f231 Ap7 Be7 2:=⟨Tryz.func231,⟨_,rfl⟩,by kernel_rfl,rfl,rfl,by kernel_rfl⟩
theorem Ei2:FnOk PR cutsOf Y7 Tryz.f232 A80 B40 2:=⟨Tryz.func232,⟨_,rfl⟩,by kernel_rfl,rfl,rfl,by kernel_rfl⟩
theorem B81:FnOk PR cutsOf W5 Tryz.f233 Ah5 A24 2:=⟨Tryz.func233,⟨_,rfl⟩,by kernel_rfl,rfl,rfl,by kernel_rfl⟩
theorem Hb3:FnOk PR cutsOf An6 Tryz.f234 Dk4 Ek8 1:=⟨Tryz.func234,⟨_,rfl⟩,by kernel_rfl,rfl,rfl,by kernel_rfl⟩
theorem E29:FnOk PR cutsOf A08 Tryz.f235 Bo5 Dk6 3:=⟨Tryz.func235,⟨_,rfl⟩,by kernel_rfl,rfl,rfl,by kernel_rfl⟩
theorem J0:FnOk PR cutsOf U8 Tryz.f236 Bs5 B58 2:=⟨Tryz.func236,⟨_,rfl⟩,by kernel_rfl,rfl,rfl,by kernel_rfl⟩
theorem U7:FnOk PR cutsOf Ae2 Tryz.f237 B76 Dx5 1:=⟨Tryz.func237,⟨_,rfl⟩,by kernel_rfl,rfl,rfl,by kernel_rfl⟩
theorem Bn4:FnOk PR cutsOf Z2 Tryz.f247 A19 Bp5 3:=⟨Tryz.func247,⟨_,rfl⟩,by kernel_rfl,rfl,rfl,by kernel_rfl⟩
theorem Gs7:FnOk PR cutsOf V8 Tryz.f248 B47 D45 1:=⟨Tryz.func248,⟨_,rfl⟩,by kernel_rfl,rfl,rfl,by kernel_rfl⟩
theorem O8:FnOk PR cutsOf D3 Tryz.f249 O6 W7 1:=⟨Tryz.func249,⟨_,rfl⟩,by kernel_rfl,rfl,rfl,by kernel_rfl⟩
theorem As5:FnOk PR cutsOf G7 Tryz.f250 Ae4 As2 2:=⟨Tryz.func250,⟨_,rfl⟩,by kernel_rfl,rfl,rfl,by kernel_rfl⟩
theorem Ar5:FnOk PR cutsOf G6 Tryz.f251 Af0 At0 2:=⟨Tryz.func251,⟨_,rfl⟩,by kernel_rfl,rfl,rfl,by kernel_rfl⟩
theorem At1:FnOk PR cutsOf E9 Tryz.f252 Ae5 As8 2:=⟨Tryz.func252,⟨_,rfl⟩,by kernel_rfl,rfl,rfl,by kernel_rfl⟩
theorem A78:FnOk PR cutsOf J5 Tryz.f253 Aq9 A81 2:=⟨Tryz.func253,⟨_,rfl⟩,by kernel_rfl,rfl,rfl,by kernel_rfl⟩
theorem Bj8:FnOk PR cutsOf Q0 Tryz.f254 Ax0 Bk0 5:=⟨Tryz.func254,⟨_,rfl⟩,by kernel_rfl,rfl,rfl,by kernel_rfl⟩
theorem Bj7:FnOk PR cutsOf Q1 Tryz.f255 Aw4 Bj6 5:=⟨Tryz.func255,⟨_,rfl⟩,by kernel_rfl,rfl,rfl,by kernel_rfl⟩
theorem Bk4:FnOk PR cutsOf M8 Tryz.f256 Ax1 Bj1 5:=⟨Tryz.func256,⟨_,rfl⟩,by kernel_rfl,rfl,rfl,by kernel_rfl⟩
theorem Db0:FnOk PR cutsOf Ad9 Tryz.f257 Bm7 Dd0 5:=⟨Tryz.func257,⟨_,rfl⟩,by kernel_rfl,rfl,rfl,by kernel_rfl⟩
theorem Di0:FnOk PR cutsOf Ab8 Tryz.f258 Ao5 Bc1 2:=⟨Tryz.func258,⟨_,rfl⟩,by kernel_rfl,rfl,rfl,by kernel_rfl⟩
theorem Bk9:FnOk PR cutsOf N8 Tryz.f259 W8 Am3 2:=⟨Tryz.func259,⟨_,rfl⟩,by kernel_rfl,rfl,rfl,by kernel_rfl⟩
theorem G08:FnOk PR cutsOf A45 Tryz.f260 De7 Ee0 2:=⟨Tryz.func260,⟨_,rfl⟩,by kernel_rfl,rfl,rfl,by kernel_rfl⟩
theorem Al5:FnOk PR cutsOf E3 Tryz.f261 Al8 A71 2:=⟨Tryz.func261,⟨_,rfl⟩,by kernel_rfl,rfl,rfl,by kernel_rfl⟩
theorem Gi3:FnOk PR cutsOf Av0 Tryz.f262 Bw1 Dz5 2:=⟨Tryz.func262,⟨_,rfl⟩,by kernel_rfl,rfl,rfl,by kernel_rfl⟩
theorem Di7:FnOk PR cutsOf S8 Tryz.f263 An9 Bb0 2:=⟨Tryz.func263,⟨_,rfl⟩,by kernel_rfl,rfl,rfl,by kernel_rfl⟩
theorem Ay2:FnOk PR cutsOf H9 Tryz.f264 Ay7 Bg1 2:=⟨Tryz.func264,⟨_,rfl⟩,by kernel_rfl,rfl,rfl,by kernel_rfl⟩
theorem Bk8:FnOk PR cutsOf N9 Tryz.f265 W9 Am1 2:=⟨Tryz.func265,⟨_,rfl⟩,by kernel_rfl,rfl,rfl,by kernel_rfl⟩
theorem Gm2:FnOk PR cutsOf Au7 Tryz.f266 By3 Dz9 2:=⟨Tryz.func266,⟨_,rfl⟩,by kernel_rfl,rfl,rfl,by kernel_rfl⟩
theorem Ii1:FnOk PR cutsOf B64 Tryz.f267 Eo5 Gy6 1:=⟨Tryz.func267,⟨_,rfl⟩,by kernel_rfl,rfl,rfl,by kernel_rfl⟩
theorem Dl4:FnOk PR cutsOf R0 Tryz.f268 An2 Bc7 2:=⟨Tryz.func268,⟨_,rfl⟩,by kernel_rfl,rfl,rfl,by kernel_rfl⟩
theorem Ht0:FnOk PR cutsOf Bq8 Tryz.f269 D20 E84 0:=⟨Tryz.func269,⟨_,rfl⟩,by kernel_rfl,rfl,rfl,by kernel_rfl⟩
theorem Dp4:FnOk PR cutsOf Ac6 Tryz.f270 Aq2 Bf2 2:=⟨Tryz.func270,⟨_,rfl⟩,by kernel_rfl,rfl,rfl,by kernel_rfl⟩
theorem H29:FnOk PR cutsOf Bx3 Tryz.f271 Eg3 Gb3 0:=⟨Tryz.func271,⟨_,rfl⟩,by kernel_rfl,rfl,rfl,by kernel_rfl⟩
theorem Do4:FnOk PR cutsOf Ac7 Tryz.f272 Aq0 Be8 2:=⟨Tryz.func272,⟨_,rfl⟩,by kernel_rfl,rfl,rfl,by kernel_rfl⟩
theorem Do7:FnOk PR cutsOf Ac9 Tryz.f273 Ap9 Be9 2:=⟨Tryz.func273,⟨_,rfl⟩,by kernel_rfl,rfl,rfl,by kernel_rfl⟩
theorem Dp2:FnOk PR cutsOf Ac3 Tryz.f274 Aq4 Bf3 2:=⟨Tryz.func274,⟨_,rfl⟩,by kernel_rfl,rfl,rfl,by kernel_rfl⟩
theorem I62:FnOk PR cutsOf Ek3 Tryz.f276 Ge5 Hp7 1:=⟨Tryz.func276,⟨_,rfl⟩,by kernel_rfl,rfl,rfl,by kernel_rfl⟩
theorem E20:FnOk PR cutsOf A04 Tryz.f283 Bl6 Dh2 1:=⟨Tryz.func283,⟨_,rfl⟩,by kernel_rfl,rfl,rfl,by kernel_rfl⟩
theorem Hl1:FnOk PR cutsOf I2 Tryz.f285 Dr7 Ew2 2:=⟨Tryz.func285,⟨_,rfl⟩,by kernel_rfl,rfl,rfl,by kernel_rfl⟩
theorem H32:FnOk PR cutsOf Dl8 Tryz.f286 Ef2 Gj6 2:=⟨Tryz.func286,⟨_,rfl⟩,by kernel_rfl,rfl,rfl,by kernel_rfl⟩
theorem Bt6:FnOk PR cutsOf V6 Tryz.f287 A70 Bt3 1:=⟨Tryz.func287,⟨_,rfl⟩,by kernel_rfl,rfl,rfl,by kernel_rfl⟩
theorem Hl5:FnOk PR cutsOf Bh3 Tryz.f288 Du5 Ew7 1:=⟨Tryz.func288,⟨_,rfl⟩,by kernel_rfl,rfl,rfl,by kernel_rfl⟩
theorem Gg1:FnOk PR cutsOf Au6 Tryz.f289 By2 D08 1:=⟨Tryz.func289,⟨_,rfl⟩,by kernel_rfl,rfl,rfl,by kernel_rfl⟩
theorem G69:FnOk PR cutsOf An7 Tryz.f290 Dn2 Ek1 2:=⟨Tryz.func290,⟨_,rfl⟩,by kernel_rfl,rfl,rfl,by kernel_rfl⟩
theorem G63:FnOk PR cutsOf A54 Tryz.f291 De4 Eh2 3:=⟨Tryz.func291,⟨_,rfl⟩,by kernel_rfl,rfl,rfl,by kernel_rfl⟩
theorem Dn7:FnOk PR cutsOf Ah1 Tryz.f292 Bv0 Dm2 1:=⟨Tryz.func292,⟨_,rfl⟩,by kernel_rfl,rfl,rfl,by kernel_rfl⟩
theorem Av2:FnOk PR cutsOf H1 Tryz.f293 Ag5 Au8 1:=⟨Tryz.func293,⟨_,rfl⟩,by kernel_rfl,rfl,rfl,by kernel_rfl⟩
theorem Da9:FnOk PR cutsOf Z4 Tryz.f294 Bo4 De5 1:=⟨Tryz.func294,⟨_,rfl⟩,by kernel_rfl,rfl,rfl,by kernel_rfl⟩
theorem Er0:FnOk PR cutsOf Ah9 Tryz.f295 Bd7 B66 6:=⟨Tryz.func295,⟨_,rfl⟩,by kernel_rfl,rfl,rfl,by kernel_rfl⟩
theorem G74:FnOk PR cutsOf Bt8 Tryz.f296 Dk9 Em8 3:=⟨Tryz.func296,⟨_,rfl⟩,by kernel_rfl,rfl,rfl,by kernel_rfl⟩
theorem G15:FnOk PR cutsOf A43 Tryz.f297 Db8 Eg5 3:=⟨Tryz.func297,⟨_,rfl⟩,by kernel_rfl,rfl,rfl,by kernel_rfl⟩
theorem G34:FnOk PR cutsOf As4 Tryz.f300 Dd7 Eb1 2:=⟨Tryz.func300,⟨_,rfl⟩,by kernel_rfl,rfl,rfl,by kernel_rfl⟩
theorem Gk3:FnOk PR cutsOf Bb7 Tryz.f301 Bx0 D11 3:=⟨Tryz.func301,⟨_,rfl⟩,by kernel_rfl,rfl,rfl,by kernel_rfl⟩
theorem G02:FnOk PR cutsOf A48 Tryz.f302 Db7 Eh5 3:=⟨Tryz.func302,⟨_,rfl⟩,by kernel_rfl,rfl,rfl,by kernel_rfl⟩
theorem Ag0:FnOk PR cutsOf D1 Tryz.f303 Aa8 Af9 3:=⟨Tryz.func303,⟨_,rfl⟩,by kernel_rfl,rfl,rfl,by kernel_rfl⟩
theorem Gt5:FnOk PR cutsOf Bg8 Tryz.f304 B50 D42 3:=⟨Tryz.func304,⟨_,rfl⟩,by kernel_rfl,rfl,rfl,by kernel_rfl⟩
theorem G05:FnOk PR cutsOf Bo9 Tryz.f305 Dd3 Eg8 2:=⟨Tryz.func305,⟨_,rfl⟩,by kernel_rfl,rfl,rfl,by kernel_rfl⟩
theorem Dc4:FnOk PR cutsOf Ad5 Tryz.f306 Bp0 Dc8 1:=⟨Tryz.func306,⟨_,rfl⟩,by kernel_rfl,rfl,rfl,by kernel_rfl⟩
theorem Ao8:FnOk PR cutsOf H2 Tryz.f309 Ab5 Ao0 2:=⟨Tryz.func309,⟨_,rfl⟩,by kernel_rfl,rfl,rfl,by kernel_rfl⟩
theorem Io1:FnOk PR cutsOf D55 Tryz.f310 E22 Hd8 1:=⟨Tryz.func310,⟨_,rfl⟩,by kernel_rfl,rfl,rfl,by kernel_rfl⟩
theorem H81:FnOk PR cutsOf B03 Tryz.f311 Ec5 Ge7 3:=⟨Tryz.func311,⟨_,rfl⟩,by kernel_rfl,rfl,rfl,by kernel_rfl⟩
theorem En7:FnOk PR cutsOf Ai0 Tryz.f312 Dv9 Er7 1:=⟨Tryz.func312,⟨_,rfl⟩,by kernel_rfl,rfl,rfl,by kernel_rfl⟩
theorem H12:FnOk PR cutsOf Dk7 Tryz.f313 Ea9 Gc2 2:=⟨Tryz.func313,⟨_,rfl⟩,by kernel_rfl,rfl,rfl,by kernel_rfl⟩
theorem Ax7:FnOk PR cutsOf D7 Tryz.f314 Ai5 Ax9 2:=⟨Tryz.func314,⟨_,rfl⟩,by kernel_rfl,rfl,rfl,by kernel_rfl⟩
theorem A74:FnOk PR cutsOf M0 Tryz.f319 Aa2 Al6 2:=⟨Tryz.func319,⟨_,rfl⟩,by kernel_rfl,rfl,rfl,by kernel_rfl⟩
theorem Ab0:FnOk PR cutsOf E2 Tryz.f320 P5 Ab2 2:=⟨Tryz.func320,⟨_,rfl⟩,by kernel_rfl,rfl,rfl,by kernel_rfl⟩
theorem G5:FnOk PR cutsOf D8 Tryz.f321 Ae8 Ar7 2:=⟨Tryz.func321,⟨_,rfl⟩,by kernel_rfl,rfl,rfl,by kernel_rfl⟩
theorem Ab3:FnOk PR cutsOf E1 Tryz.f322 P6 Ab1 2:=⟨Tryz.func322,⟨_,rfl⟩,by kernel_rfl,rfl,rfl,by kernel_rfl⟩
theorem E62:FnOk PR cutsOf Az6 Tryz.f323 Bm6 Dg4 3:=⟨Tryz.func323,⟨_,rfl⟩,by kernel_rfl,rfl,rfl,by kernel_rfl⟩
theorem Ih0:FnOk PR cutsOf A25 Tryz.f324 En8 Gw8 2:=⟨Tryz.func324,⟨_,rfl⟩,by kernel_rfl,rfl,rfl,by kernel_rfl⟩
theorem Ig9:FnOk PR cutsOf A30 Tryz.f325 Eq0 Gw2 1:=⟨Tryz.func325,⟨_,rfl⟩,by kernel_rfl,rfl,rfl,by kernel_rfl⟩
theorem E07:FnOk PR cutsOf A05 Tryz.f326 Bo3 Dl9 3:=⟨Tryz.func326,⟨_,rfl⟩,by kernel_rfl,rfl,rfl,by kernel_rfl⟩
theorem It8:FnOk PR cutsOf B15 Tryz.f327 E30 Hf0 2:=⟨Tryz.func327,⟨_,rfl⟩,by kernel_rfl,rfl,rfl,by kernel_rfl⟩
theorem In9:FnOk PR cutsOf B36 Tryz.f328 E73 G87 1:=⟨Tryz.func328,⟨_,rfl⟩,by kernel_rfl,rfl,rfl,by kernel_rfl⟩
theorem Ic1:FnOk PR cutsOf A31 Tryz.f329 Es3 Gw5 2:=⟨Tryz.func329,⟨_,rfl⟩,by kernel_rfl,rfl,rfl,by kernel_rfl⟩
theorem A01:FnOk PR cutsOf J7 Tryz.f331 Ak9 Az9 2:=⟨Tryz.func331,⟨_,rfl⟩,by kernel_rfl,rfl,rfl,by kernel_rfl⟩
theorem D17:FnOk PR cutsOf Q8 Tryz.f332 Ax3 Br6 2:=⟨Tryz.func332,⟨_,rfl⟩,by kernel_rfl,rfl,rfl,by kernel_rfl⟩
theorem D85:FnOk PR cutsOf Ak4 Tryz.f333 Az7 Bv3 2:=⟨Tryz.func333,⟨_,rfl⟩,by kernel_rfl,rfl,rfl,by kernel_rfl⟩
theorem Eg4:FnOk PR cutsOf Am8 Tryz.f336 A59 Bz6 2:=⟨Tryz.func336,⟨_,rfl⟩,by kernel_rfl,rfl,rfl,by kernel_rfl⟩
theorem Gt4:FnOk PR cutsOf Bf4 Tryz.f337 B48 D43 3:=⟨Tryz.func337,⟨_,rfl⟩,by kernel_rfl,rfl,rfl,by kernel_rfl⟩
theorem H90:FnOk PR cutsOf Av1 Tryz.f338 Ei1 Ge8 2:=⟨Tryz.func338,⟨_,rfl⟩,by kernel_rfl,rfl,rfl,by kernel_rfl⟩
theorem H38:FnOk PR cutsOf Bw7 Tryz.f339 Ed1 Gh2 1:=⟨Tryz.func339,⟨_,rfl⟩,by kernel_rfl,rfl,rfl,by kernel_rfl⟩
theorem Io2:FnOk PR cutsOf D61 Tryz.f340 E21 G83 1:=⟨Tryz.func340,⟨_,rfl⟩,by kernel_rfl,rfl,rfl,by kernel_rfl⟩
end
end Go.EQ

namespace Go.EQ
open Go Go.NN Go.Proofs
theorem Hw2:type_of% Tryz.underlying3:=Tryz.underlying3
theorem Jq8:type_of% Tryz.underlying4:=Tryz.underlying4
theorem Iq6:type_of% Tryz.underlying46:=Tryz.underlying46
theorem Gf7:type_of% Tryz.underlying61:=Tryz.underlying61
end Go.EQ
