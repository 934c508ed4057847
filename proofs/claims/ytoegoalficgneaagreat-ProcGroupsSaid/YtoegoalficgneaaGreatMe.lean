/- A signal to a group reaches all of it, and nobody else; to a slot that one alone; no conditions. -/
import Derived.Test.YtoegoalficgneaaGreatMd
import Derived.KernelRfl
set_option linter.all false
set_option maxRecDepth 100000
namespace Go.EQ
open Go Go.NN Go.Proofs
variable (C : A1) (R : A2)
noncomputable section
def Dx7:Cuts:={ globs:=0,loops:=[],regs:=[],plans:=[] }
def Ey0:List Item:=A5 Tryz.f10
theorem G76 (C:A1) (R:A2) (c:Option Addr) (i:Int) (h:H) :
 A4 PR Dx7 C R Bn3 Tryz.f10 100000 true Ey0 [(0,.pointer c),(1,.int .i64 i)] h =
 nw (.cells Q5 false [.int .i64 0,.int .i64 0,.slice none 0 0,.bool false]) h fun b w=>bnd (C Ap3 [.pointer c,.int .i64 i] w) fun r w1=>as2 r fun r_1 r_2=>aAgg r_1 fun x=>aInt .i64 r_2 fun x_1=>nw (.cells B0 false [.int .i64 0,.int .i64 0,.int .i64 0,.int .i64 0,.int .i64 0,.int .i64 0,.int .i64 0,.int .i64 0,.int .i64 0,.int .i64 0,.int .i64 0,.int .i64 0,.int .i64 0,.int .i64 0,.int .i64 0,.int .i64 0]) w1 fun b_1 w2=>ck (List.length x=16) (pAgg ⟨b_1,0,none⟩ x w2 fun w3=>cond (x_1 != 0)
 (bnd (C J6 [.int .i64 x_1] w3) fun r_3 w4=>aAgg r_3 fun x_2=>ck (List.length x_2=4) (pAgg ⟨b,0,none⟩ x_2 w4 fun w5=>gAgg ⟨b,0,none⟩ 4 w5 fun x_3=>some (.agg ⟨x_3⟩,w5)))
 (bnd (C Ap8 [.pointer c] w3) fun r_4 w6=>aInt .i64 r_4 fun x_4=>cond (decide (x_4<0))
 (bnd (C J6 [.int .i64 111] w6) fun r_5 w7=>aAgg r_5 fun x_5=>ck (List.length x_5=4) (pAgg ⟨b,0,none⟩ x_5 w7 fun w8=>gAgg ⟨b,0,none⟩ 4 w8 fun x_6=>some (.agg ⟨x_6⟩,w8)))
 (gAgg ⟨b_1,0,none⟩ 16 w6 fun x_7=>bnd (C E7 [.pointer c,.agg ⟨x_7⟩] w6) fun r_6 w9=>aInt .i64 r_6 fun x_8=>cond (x_8 != 0)
 (bnd (C J6 [.int .i64 x_8] w9) fun r_7 w10=>aAgg r_7 fun x_9=>ck (List.length x_9=4) (pAgg ⟨b,0,none⟩ x_9 w10 fun w11=>gAgg ⟨b,0,none⟩ 4 w11 fun x_10=>some (.agg ⟨x_10⟩,w11)))
 (pV (Addr.add ⟨b_1,0,none⟩ 1) (.int .i64 (IntKind.wrap .i64 (i+1))) w9 fun w12=>pV (Addr.add ⟨b_1,0,none⟩ 4) (.int .i64 0) w12 fun w13=>gAgg ⟨b_1,0,none⟩ 16 w13 fun x_11=>bnd (C N6 [.pointer c,.int .i64 x_4,.agg ⟨x_11⟩] w13) fun r_8 w14=>aBool r_8 fun x_12=>bnd (C Ba6 [.bool x_12,.int .i64 x_4] w14) fun r_9 w15=>aAgg r_9 fun x_13=>ck (List.length x_13=4) (pAgg ⟨b,0,none⟩ x_13 w15 fun w16=>gAgg ⟨b,0,none⟩ 4 w16 fun x_14=>some (.agg ⟨x_14⟩,w16)))))):=by kernel_rfl
def Dp5:Cuts:={ globs:=0,loops:=[],regs:=[],plans:=[] }
def Ek6:List Item:=A5 Tryz.f11
theorem G28 (C:A1) (R:A2) (c:Option Addr) (i:Int) (target:Int) (g:Int) (h:H) :
 A4 PR Dp5 C R Bz1 Tryz.f11 100000 true Ek6 [(0,.pointer c),(1,.int .i64 i),(2,.int .i64 target),(3,.int .i64 g)] h =
 nw (.cells Q5 false [.int .i64 0,.int .i64 0,.slice none 0 0,.bool false]) h fun b w=>bnd (C Ap3 [.pointer c,.int .i64 i] w) fun r w1=>as2 r fun r_1 r_2=>aAgg r_1 fun x=>aInt .i64 r_2 fun x_1=>nw (.cells B0 false [.int .i64 0,.int .i64 0,.int .i64 0,.int .i64 0,.int .i64 0,.int .i64 0,.int .i64 0,.int .i64 0,.int .i64 0,.int .i64 0,.int .i64 0,.int .i64 0,.int .i64 0,.int .i64 0,.int .i64 0,.int .i64 0]) w1 fun b_1 w2=>ck (List.length x=16) (pAgg ⟨b_1,0,none⟩ x w2 fun w3=>cond (x_1 != 0)
 (bnd (C J6 [.int .i64 x_1] w3) fun r_3 w4=>aAgg r_3 fun x_2=>ck (List.length x_2=4) (pAgg ⟨b,0,none⟩ x_2 w4 fun w5=>gAgg ⟨b,0,none⟩ 4 w5 fun x_3=>some (.agg ⟨x_3⟩,w5)))
 (bnd (C A38 [.int .i64 target] w3) fun r_4 w6=>aBool r_4 fun x_4=>bnd (cond (!x_4) (some (true,w6)) (bnd (C A38 [.int .i64 g] w6) fun r_5 w7=>aBool r_5 fun x_5=>some (!x_5,w7))) fun c_1 w8=>cond c_1
 (bnd (C J6 [.int .i64 122] w8) fun r_6 w9=>aAgg r_6 fun x_6=>ck (List.length x_6=4) (pAgg ⟨b,0,none⟩ x_6 w9 fun w10=>gAgg ⟨b,0,none⟩ 4 w10 fun x_7=>some (.agg ⟨x_7⟩,w10)))
 (bnd (C Bw1 [.pointer c,.int .i64 i,.int .i64 target] w8) fun r_7 w11=>as2 r_7 fun r_8 r_9=>aAgg r_8 fun x_8=>aInt .i64 r_9 fun x_9=>nw (.cells B0 false [.int .i64 0,.int .i64 0,.int .i64 0,.int .i64 0,.int .i64 0,.int .i64 0,.int .i64 0,.int .i64 0,.int .i64 0,.int .i64 0,.int .i64 0,.int .i64 0,.int .i64 0,.int .i64 0,.int .i64 0,.int .i64 0]) w11 fun b_2 w12=>ck (List.length x_8=16) (pAgg ⟨b_2,0,none⟩ x_8 w12 fun w13=>cond (x_9 != 0)
 (bnd (C J6 [.int .i64 x_9] w13) fun r_10 w14=>aAgg r_10 fun x_10=>ck (List.length x_10=4) (pAgg ⟨b,0,none⟩ x_10 w14 fun w15=>gAgg ⟨b,0,none⟩ 4 w15 fun x_11=>some (.agg ⟨x_11⟩,w15)))
 (bnd (cond (g != target) (bnd (C Dg1 [.pointer c,.int .i64 g] w13) fun r_11 w16=>aBool r_11 fun x_12=>some (!x_12,w16)) (some (false,w13))) fun c_2 w17=>cond c_2
 (bnd (C J6 [.int .i64 101] w17) fun r_12 w18=>aAgg r_12 fun x_13=>ck (List.length x_13=4) (pAgg ⟨b,0,none⟩ x_13 w18 fun w19=>gAgg ⟨b,0,none⟩ 4 w19 fun x_14=>some (.agg ⟨x_14⟩,w19)))
 (pV (Addr.add ⟨b_2,0,none⟩ 2) (.int .i64 g) w17 fun w20=>gAgg ⟨b_2,0,none⟩ 16 w20 fun x_15=>bnd (C N6 [.pointer c,.int .i64 target,.agg ⟨x_15⟩] w20) fun r_13 w21=>aBool r_13 fun x_16=>bnd (C Ba6 [.bool x_16,.int .i64 0] w21) fun r_14 w22=>aAgg r_14 fun x_17=>ck (List.length x_17=4) (pAgg ⟨b,0,none⟩ x_17 w22 fun w23=>gAgg ⟨b,0,none⟩ 4 w23 fun x_18=>some (.agg ⟨x_18⟩,w23)))))))):=by kernel_rfl
def A05:Cuts:={ globs:=0,loops:=[(4,[1,3,4])],regs:=[],plans:=[(2,⟨[0,1,2,5,6,9,10,13,14,3,4,7,8,11,12,15,16,17],[0,0,2,6,15,0,32,110,255,0,512,1774,4095,0,8192,28398,65535,131071],[(3,[6,10,14]),(7,[10,14]),(11,[14])],[]⟩)] }
def Bl2:List Item:=A5 Tryz.f15
def An5:List Item:=stk [0,1,0,1,0,1,0,0,1,4,5] Bl2
theorem Ew3 (C:A1) (R:A2) (p:List Value) (h:H) :
 A4 PR A05 C R Q6 Tryz.f15 100000 true Bl2 [(0,.agg ⟨p⟩)] h =
 nw (.cells B0 false p) h fun b w=>gInt .i64 (Addr.add ⟨b,0,none⟩ 0) w fun x=>gInt .i64 (Addr.add ⟨b,0,none⟩ 1) w fun x_1=>gInt .i64 (Addr.add ⟨b,0,none⟩ 2) w fun x_2=>gInt .i64 (Addr.add ⟨b,0,none⟩ 3) w fun x_3=>nw (.cells A3 false [.int .u8 (IntKind.wrap .u8 (x)),.int .u8 (IntKind.wrap .u8 (x_1)),.int .u8 (IntKind.wrap .u8 (x_2)),.int .u8 (IntKind.wrap .u8 (x_3))]) w fun b_1 w1=>gCells (some ⟨b_1,0,none⟩) 4 w1 fun cs=>asBytes cs fun l=>gInt .i64 (Addr.add ⟨b,0,none⟩ 4) w1 fun x_4=>gInt .i64 (Addr.add ⟨b,0,none⟩ 5) w1 fun x_5=>gInt .i64 (Addr.add ⟨b,0,none⟩ 6) w1 fun x_6=>gInt .i64 (Addr.add ⟨b,0,none⟩ 7) w1 fun x_7=>bnd (C A55 [.int .i64 x_4] w1) fun r w2=>aStr r fun x_8=>gInt .i64 (Addr.add ⟨b,0,none⟩ 5) w2 fun x_9=>same (.int .i64 x_5) (.int .i64 x_9) (gInt .i64 (Addr.add ⟨b,0,none⟩ 6) w2 fun x_10=>same (.int .i64 x_6) (.int .i64 x_10) (gInt .i64 (Addr.add ⟨b,0,none⟩ 7) w2 fun x_11=>same (.int .i64 x_7) (.int .i64 x_11) (ck (ByteArray.size (ByteArray.mk ⟨l⟩)+ByteArray.size x_8≤A9) (bnd (C A55 [.int .i64 x_5] w2) fun r_1 w3=>aStr r_1 fun x_12=>gInt .i64 (Addr.add ⟨b,0,none⟩ 6) w3 fun x_13=>same (.int .i64 x_6) (.int .i64 x_13) (gInt .i64 (Addr.add ⟨b,0,none⟩ 7) w3 fun x_14=>same (.int .i64 x_7) (.int .i64 x_14) (ck (ByteArray.size ((ByteArray.mk ⟨l⟩)++x_8)+ByteArray.size x_12≤A9) (bnd (C A55 [.int .i64 x_6] w3) fun r_2 w4=>aStr r_2 fun x_15=>gInt .i64 (Addr.add ⟨b,0,none⟩ 7) w4 fun x_16=>same (.int .i64 x_7) (.int .i64 x_16) (ck (ByteArray.size (((ByteArray.mk ⟨l⟩)++x_8)++x_12)+ByteArray.size x_15≤A9) (bnd (C A55 [.int .i64 x_7] w4) fun r_3 w5=>aStr r_3 fun x_17=>ck (ByteArray.size ((((ByteArray.mk ⟨l⟩)++x_8)++x_12)++x_15)+ByteArray.size x_17≤A9) (R Q6 An5 [(1,.pointer (some ⟨b,0,none⟩)),(3,.string (((((ByteArray.mk ⟨l⟩)++x_8)++x_12)++x_15)++x_17)),(4,.int .i64 0)] w5)))))))))):=by kernel_rfl
theorem Bx2 (C:A1) (R:A2) (p:Addr) (s:ByteArray) (i:Int) (h:H) :
 A4 PR A05 C R Q6 Tryz.f15 100000 true An5 [(1,.pointer (some p)),(3,.string s),(4,.int .i64 i)] h =
 cond (decide (i<8))
 (ck ((0:Int)≤i∧i<((8:Nat):Int)) (gInt .i64 (Addr.add (Addr.add p 8) (Int.toNat i*1)) h fun x=>nw (.cells A3 false [.int .u8 (IntKind.wrap .u8 (x))]) h fun b w=>gCells (some ⟨b,0,none⟩) 1 w fun cs=>asBytes cs fun l=>ck (ByteArray.size s+ByteArray.size (ByteArray.mk ⟨l⟩)≤A9) (R Q6 An5 [(1,.pointer (some p)),(3,.string (s++(ByteArray.mk ⟨l⟩))),(4,.int .i64 (IntKind.wrap .i64 (i+1)))] w)))
 (ck (ByteArray.size s+ByteArray.size (ByteArray.mk ⟨[167]⟩)≤A9) (bnd (C Ad3 [.string (s++(ByteArray.mk ⟨[167]⟩))] h) fun r w1=>aInt .u8 r fun x_1=>nw (.cells A3 false [.int .u8 x_1,.int .u8 0,.int .u8 0]) w1 fun b_1 w2=>gCells (some ⟨b_1,0,none⟩) 3 w2 fun cs_1=>asBytes cs_1 fun l_1=>ck (ByteArray.size (s++(ByteArray.mk ⟨[167]⟩))+ByteArray.size (ByteArray.mk ⟨l_1⟩)≤A9) (some (.string ((s++(ByteArray.mk ⟨[167]⟩))++(ByteArray.mk ⟨l_1⟩)),w2)))):=by kernel_rfl
def B77:Cuts:={ globs:=0,loops:=[(6,[0,4,7,23,24,25])],regs:=[],plans:=[(9,⟨[0,1,2,4,5,6,7,8,9,10,3,11,12],[0,0,2,7,0,16,48,0,128,384,1008,2047,4095],[(3,[5,9])],[]⟩)] }
def Dy3:List Item:=A5 Tryz.f23
def Bi1:List Item:=stk [0,1,0,1,0,1,0,0,1,4,5] Dy3
theorem G80 (C:A1) (R:A2) (c:Option Addr) (i:Int) (h:H) :
 A4 PR B77 C R Ai1 Tryz.f23 100000 true Dy3 [(0,.pointer c),(1,.int .i64 i)] h =
 nw (.cells B3 false [.int .i64 i]) h fun b w=>nw (.cells Q5 false [.int .i64 0,.int .i64 0,.slice none 0 0,.bool false]) w fun b_1 w1=>gInt .i64 ⟨b,0,none⟩ w1 fun x=>bnd (C Ap3 [.pointer c,.int .i64 x] w1) fun r w2=>as2 r fun r_1 r_2=>aAgg r_1 fun x_1=>aInt .i64 r_2 fun x_2=>nw (.cells B0 false [.int .i64 0,.int .i64 0,.int .i64 0,.int .i64 0,.int .i64 0,.int .i64 0,.int .i64 0,.int .i64 0,.int .i64 0,.int .i64 0,.int .i64 0,.int .i64 0,.int .i64 0,.int .i64 0,.int .i64 0,.int .i64 0]) w2 fun b_2 w3=>ck (List.length x_1=16) (pAgg ⟨b_2,0,none⟩ x_1 w3 fun w4=>cond (x_2 != 0)
 (bnd (C J6 [.int .i64 x_2] w4) fun r_3 w5=>aAgg r_3 fun x_3=>ck (List.length x_3=4) (pAgg ⟨b_1,0,none⟩ x_3 w5 fun w6=>gAgg ⟨b_1,0,none⟩ 4 w6 fun x_4=>some (.agg ⟨x_4⟩,w6)))
 (bnd (C U7 [.pointer c,.func (.func A87) ⟨[]⟩ ⟨[.pointer (some ⟨b,0,none⟩)]⟩] w4) fun r_4 w7=>aSl r_4 fun x_5 xn xc=>R Ai1 Bi1 [(0,.pointer c),(4,.pointer (some ⟨b_1,0,none⟩)),(7,.slice x_5 xn xc),(23,.slice x_5 xn xc),(24,.int .i64 ((xn:Nat):Int)),(25,.int .i64 0)] w7)):=by kernel_rfl
theorem D18 (C:A1) (R:A2) (c:Option Addr) (x4:Addr) (l:Option Addr) (ln lc:Nat) (x23:Option Addr) (x23n x23c:Nat) (x24:Int) (x25:Int) (h:H) :
 A4 PR B77 C R Ai1 Tryz.f23 100000 true Bi1 [(0,.pointer c),(4,.pointer (some x4)),(7,.slice l ln lc),(23,.slice x23 x23n x23c),(24,.int .i64 x24),(25,.int .i64 x25)] h =
 cond (decide (x25<x24))
 (aSome x23 fun p=>ck ((0:Int)≤x25∧x25<((x23n:Nat):Int)) (gAgg (Addr.add (B2 p) (Int.toNat x25*17)) 17 h fun x=>nw (.cells G4 false [.int .i64 0,.int .i64 0,.int .i64 0,.int .i64 0,.int .i64 0,.int .i64 0,.int .i64 0,.int .i64 0,.int .i64 0,.int .i64 0,.int .i64 0,.int .i64 0,.int .i64 0,.int .i64 0,.int .i64 0,.int .i64 0,.int .i64 0]) h fun b w=>ck (List.length x=17) (pAgg ⟨b,0,none⟩ x w fun w1=>gAgg ⟨b,0,none⟩ 17 w1 fun x_1=>bnd (C Ad9 [.agg ⟨x_1⟩] w1) fun r w2=>aBool r fun x_2=>cond (!x_2)
 (gInt .i64 (Addr.add ⟨b,0,none⟩ 0) w2 fun x_3=>gInt .i64 (Addr.add ⟨b,0,none⟩ 0) w2 fun x_4=>gInt .i64 (Addr.add (Addr.add ⟨b,0,none⟩ 1) 3) w2 fun x_5=>bnd (C Z4 [.pointer c,.int .i64 x_3] w2) fun r_1 w3=>aBool r_1 fun x_6=>gInt .i64 (Addr.add ⟨b,0,none⟩ 0) w3 fun x_7=>same (.int .i64 x_4) (.int .i64 x_7) (gInt .i64 (Addr.add (Addr.add ⟨b,0,none⟩ 1) 3) w3 fun x_8=>same (.int .i64 x_5) (.int .i64 x_8) (bnd (C Ba6 [.bool x_6,.int .i64 (IntKind.wrap .i64 ((IntKind.wrap .i64 (256*x_4))+x_5))] w3) fun r_2 w4=>aAgg r_2 fun x_9=>ck (List.length x_9=4) (pAgg x4 x_9 w4 fun w5=>gAgg x4 4 w5 fun x_10=>some (.agg ⟨x_10⟩,w5)))))
 (R Ai1 Bi1 [(0,.pointer c),(4,.pointer (some x4)),(7,.slice l ln lc),(23,.slice x23 x23n x23c),(24,.int .i64 x24),(25,.int .i64 (IntKind.wrap .i64 (x25+1)))] w2))))
 (cond (((ln:Nat):Int)==0)
 (bnd (C J6 [.int .i64 110] h) fun r_3 w6=>aAgg r_3 fun x_11=>ck (List.length x_11=4) (pAgg x4 x_11 w6 fun w7=>gAgg x4 4 w7 fun x_12=>some (.agg ⟨x_12⟩,w7)))
 (pAgg x4 [.int .i64 0,.int .i64 0,.slice none 0 0,.bool true] h fun w8=>gAgg x4 4 w8 fun x_13=>some (.agg ⟨x_13⟩,w8))):=by kernel_rfl
def A12:Cuts:={ globs:=0,loops:=[(4,[1,3,4])],regs:=[],plans:=[] }
def Bk4:List Item:=A5 Tryz.f35
def Ao3:List Item:=stk [0,1,0,1,0,1,0,0,1,4,5] Bk4
theorem Eu4 (C:A1) (R:A2) (p:List Value) (h:H) :
 A4 PR A12 C R O4 Tryz.f35 100000 true Bk4 [(0,.agg ⟨p⟩)] h =
 nw (.cells L1 false p) h fun b w=>gInt .i64 (Addr.add ⟨b,0,none⟩ 0) w fun x=>gInt .i64 (Addr.add ⟨b,0,none⟩ 1) w fun x_1=>gInt .i64 (Addr.add ⟨b,0,none⟩ 2) w fun x_2=>gInt .i64 (Addr.add ⟨b,0,none⟩ 3) w fun x_3=>nw (.cells A3 false [.int .u8 1,.int .u8 (IntKind.wrap .u8 (x)),.int .u8 (IntKind.wrap .u8 (x_1)),.int .u8 (IntKind.wrap .u8 (x_2)),.int .u8 (IntKind.wrap .u8 (x_3)),.int .u8 197]) w fun b_1 w1=>gCells (some ⟨b_1,0,none⟩) 6 w1 fun cs=>asBytes cs fun l=>bnd (C Ad3 [.string (ByteArray.mk ⟨l⟩)] w1) fun r w2=>aInt .u8 r fun x_4=>nw (.cells A3 false [.int .u8 x_4,.int .u8 0]) w2 fun b_2 w3=>gCells (some ⟨b_2,0,none⟩) 2 w3 fun cs_1=>asBytes cs_1 fun l_1=>ck (ByteArray.size (ByteArray.mk ⟨l⟩)+ByteArray.size (ByteArray.mk ⟨l_1⟩)≤A9) (R O4 Ao3 [(1,.pointer (some ⟨b,0,none⟩)),(3,.string ((ByteArray.mk ⟨l⟩)++(ByteArray.mk ⟨l_1⟩))),(4,.int .i64 0)] w3):=by kernel_rfl
theorem Bv7 (C:A1) (R:A2) (p:Addr) (s:ByteArray) (i:Int) (h:H) :
 A4 PR A12 C R O4 Tryz.f35 100000 true Ao3 [(1,.pointer (some p)),(3,.string s),(4,.int .i64 i)] h =
 cond (decide (i<32))
 (ck ((0:Int)≤i∧i<((32:Nat):Int)) (gInt .u8 (Addr.add (Addr.add p 4) (Int.toNat i*1)) h fun x=>nw (.cells A3 false [.int .u8 x]) h fun b w=>gCells (some ⟨b,0,none⟩) 1 w fun cs=>asBytes cs fun l=>ck (ByteArray.size s+ByteArray.size (ByteArray.mk ⟨l⟩)≤A9) (R O4 Ao3 [(1,.pointer (some p)),(3,.string (s++(ByteArray.mk ⟨l⟩))),(4,.int .i64 (IntKind.wrap .i64 (i+1)))] w)))
 (some (.string s,h)):=by kernel_rfl
def B33:Cuts:={ globs:=0,loops:=[],regs:=[],plans:=[] }
def D20:List Item:=A5 Tryz.f45
theorem Ge2 (C:A1) (R:A2) (n:Int) (h:H) :
 A4 PR B33 C R A38 Tryz.f45 100000 true D20 [(0,.int .i64 n)] h =
 bnd (cond (decide (n≥0)) (some (decide (n<8),h)) (some (false,h))) fun c w=>some (.bool c,w):=by kernel_rfl
def B56:Cuts:={ globs:=0,loops:=[],regs:=[],plans:=[] }
def D29:List Item:=A5 Tryz.f52
theorem Gf8 (C:A1) (R:A2) (b:Option Addr) (bn bc:Nat) (h:H) :
 A4 PR B56 C R Aq1 Tryz.f52 100000 true D29 [(0,.slice b bn bc)] h =
 nw (.cells B0 false [.int .i64 0,.int .i64 0,.int .i64 0,.int .i64 0,.int .i64 0,.int .i64 0,.int .i64 0,.int .i64 0,.int .i64 0,.int .i64 0,.int .i64 0,.int .i64 0,.int .i64 0,.int .i64 0,.int .i64 0,.int .i64 0]) h fun b_1 w=>bnd (cond (((bn:Nat):Int)==24) (bnd (C Ak8 [.slice b bn bc] w) fun r w1=>aBool r fun x=>some (x,w1)) (some (false,w))) fun c w2=>cond c
 (pAgg ⟨b_1,0,none⟩ [.int .i64 0,.int .i64 0,.int .i64 0,.int .i64 0,.int .i64 0,.int .i64 0,.int .i64 0,.int .i64 0,.int .i64 0,.int .i64 0,.int .i64 0,.int .i64 0,.int .i64 0,.int .i64 0,.int .i64 0,.int .i64 0] w2 fun w3=>gAgg ⟨b_1,0,none⟩ 16 w3 fun x_1=>some (.tuple ⟨[.agg ⟨x_1⟩,.int .i64 0]⟩,w3))
 (bnd (C A91 [] w2) fun r_1 w4=>aPtr r_1 fun x_2=>bnd (C U3 [.pointer x_2,.slice b bn bc] w4) fun r_2 w5=>as2 r_2 fun r_3 r_4=>aAgg r_3 fun x_3=>aBool r_4 fun x_4=>nw (.cells B0 false [.int .i64 0,.int .i64 0,.int .i64 0,.int .i64 0,.int .i64 0,.int .i64 0,.int .i64 0,.int .i64 0,.int .i64 0,.int .i64 0,.int .i64 0,.int .i64 0,.int .i64 0,.int .i64 0,.int .i64 0,.int .i64 0]) w5 fun b_2 w6=>ck (List.length x_3=16) (pAgg ⟨b_2,0,none⟩ x_3 w6 fun w7=>cond (!x_4)
 (pAgg ⟨b_1,0,none⟩ [.int .i64 0,.int .i64 0,.int .i64 0,.int .i64 0,.int .i64 0,.int .i64 0,.int .i64 0,.int .i64 0,.int .i64 0,.int .i64 0,.int .i64 0,.int .i64 0,.int .i64 0,.int .i64 0,.int .i64 0,.int .i64 0] w7 fun w8=>gAgg ⟨b_1,0,none⟩ 16 w8 fun x_5=>some (.tuple ⟨[.agg ⟨x_5⟩,.int .i64 2]⟩,w8))
 (gAgg ⟨b_2,0,none⟩ 16 w7 fun x_6=>ck (List.length x_6=16) (pAgg ⟨b_1,0,none⟩ x_6 w7 fun w9=>gAgg ⟨b_1,0,none⟩ 16 w9 fun x_7=>some (.tuple ⟨[.agg ⟨x_7⟩,.int .i64 1]⟩,w9))))):=by kernel_rfl
def De6:Cuts:={ globs:=0,loops:=[(3,[0,3,4])],regs:=[],plans:=[] }
def D71:List Item:=A5 Tryz.f54
def Bp1:List Item:=stk [0,1,0,1,0,0,1,4,5] D71
theorem Hi5 (C:A1) (R:A2) (b:ByteArray) (h:H) :
 A4 PR De6 C R Ad3 Tryz.f54 100000 true D71 [(0,.string b)] h =
 R Ad3 Bp1 [(0,.string b),(3,.int .i64 ((ByteArray.size b:Nat):Int)),(4,.int .i64 0)] h:=by kernel_rfl
theorem Ec7 (C:A1) (R:A2) (b:ByteArray) (n:Int) (i:Int) (h:H) :
 A4 PR De6 C R Ad3 Tryz.f54 100000 true Bp1 [(0,.string b),(3,.int .i64 n),(4,.int .i64 i)] h =
 cond (decide (i<((ByteArray.size b:Nat):Int)))
 (ck ((0:Int)≤i∧i<((ByteArray.size b:Nat):Int)) (R Ad3 Bp1 [(0,.string b),(3,.int .i64 (IntKind.wrap .i64 (n+(IntKind.wrap .i64 (((List.getD (ByteArray.data b).toList (Int.toNat i) 0).toNat:Int)))))),(4,.int .i64 (IntKind.wrap .i64 (i+1)))] h))
 (some (.int .u8 (IntKind.wrap .u8 (n)),h)):=by kernel_rfl
def Q0:Cuts:={ globs:=0,loops:=[(1,[0,5]),(6,[0,12]),(11,[0,20,21])],regs:=[],plans:=[] }
def Y6:List Item:=A5 Tryz.f67
def Ab5:List Item:=stk [0,0,1,4,5] Y6
def Aa9:List Item:=stk [0,1,0,0,1,4,5] Y6
def Ab7:List Item:=stk [0,1,0,1,0,0,1,4,5] Y6
theorem Dz4 (C:A1) (R:A2) (c:Option Addr) (h:H) :
 A4 PR Q0 C R B9 Tryz.f67 100000 true Y6 [(0,.pointer c)] h =
 R B9 Ab5 [(0,.pointer c),(5,.int .i64 0)] h:=by kernel_rfl
theorem Bd1 (C:A1) (R:A2) (c:Option Addr) (x5:Int) (h:H) :
 A4 PR Q0 C R B9 Tryz.f67 100000 true Ab5 [(0,.pointer c),(5,.int .i64 x5)] h =
 cond (decide (x5<8))
 (bnd (C G5 [.pointer c,.int .i64 x5] h) fun r w=>as2 r fun r_1 r_2=>aAgg r_1 fun _=>aInt .i64 r_2 fun _=>R B9 Ab5 [(0,.pointer c),(5,.int .i64 (IntKind.wrap .i64 (x5+1)))] w)
 (R B9 Aa9 [(0,.pointer c),(12,.int .i64 0)] h):=by kernel_rfl
theorem Bb9 (C:A1) (R:A2) (c:Option Addr) (x12:Int) (h:H) :
 A4 PR Q0 C R B9 Tryz.f67 100000 true Aa9 [(0,.pointer c),(12,.int .i64 x12)] h =
 cond (decide (x12<12))
 (bnd (C Q2 [.pointer c,.int .i64 x12] h) fun r w=>as2 r fun r_1 r_2=>aAgg r_1 fun _=>aInt .i64 r_2 fun _=>R B9 Aa9 [(0,.pointer c),(12,.int .i64 (IntKind.wrap .i64 (x12+1)))] w)
 (bnd (C Y5 [.pointer c,.int .i64 3] h) fun r_3 w1=>aInt .i64 r_3 fun x_2=>R B9 Ab7 [(0,.pointer c),(20,.int .i64 x_2),(21,.int .i64 0)] w1):=by kernel_rfl
theorem Bd4 (C:A1) (R:A2) (c:Option Addr) (x20:Int) (x21:Int) (h:H) :
 A4 PR Q0 C R B9 Tryz.f67 100000 true Ab7 [(0,.pointer c),(20,.int .i64 x20),(21,.int .i64 x21)] h =
 cond (decide (x21<x20))
 (bnd (C Ah6 [.pointer c,.int .i64 x21] h) fun r w=>as2 r fun r_1 r_2=>aAgg r_1 fun _=>aInt .i64 r_2 fun _=>R B9 Ab7 [(0,.pointer c),(20,.int .i64 x20),(21,.int .i64 (IntKind.wrap .i64 (x21+1)))] w)
 (bnd (C Ah8 [.pointer c] h) fun r_3 w1=>as2 r_3 fun r_4 r_5=>aAgg r_4 fun _=>aInt .i64 r_5 fun _=>bnd (C Af9 [.pointer c] w1) fun r_6 w2=>as2 r_6 fun r_7 r_8=>aInt .i64 r_7 fun _=>aBool r_8 fun _=>some (.tuple ⟨[]⟩,w2)):=by kernel_rfl
def B62:Cuts:={ globs:=0,loops:=[],regs:=[],plans:=[] }
def D28:List Item:=A5 Tryz.f68
theorem Gj1 (C:A1) (R:A2) (m:Option Addr) (atv:Int) (n:Int) (h:H) :
 A4 PR B62 C R Bj4 Tryz.f68 100000 true D28 [(0,.pointer m),(1,.int .i64 atv),(2,.int .i64 n)] h =
 bnd (C Bf7 [.pointer m,.int .i64 atv,.int .i64 n] h) fun r w=>aBool r fun x=>cond (!x)
 (some (.tuple ⟨[.slice none 0 0,.int .i64 1]⟩,w))
 (aSome m fun p=>gSl (Addr.add p 0) w fun x_1 _ xc=>ckB (fitsOpen x_1 A3 w) (ck ((0:Int)≤IntKind.wrap .i64 (atv+n)∧IntKind.wrap .i64 (atv+n)≤((xc:Nat):Int)) (ck ((0:Int)≤atv∧atv≤((Int.toNat (IntKind.wrap .i64 (atv+n)):Nat):Int)) (bnd (C E8 [.slice (H4 x_1 (decide (Int.toNat atv<xc)) ((Int.toNat atv)*1)) ((Int.toNat (IntKind.wrap .i64 (atv+n)))-(Int.toNat atv)) (xc-(Int.toNat atv))] w) fun r_1 w1=>aSl r_1 fun x_2 xn_1 xc_1=>some (.tuple ⟨[.slice x_2 xn_1 xc_1,.int .i64 0]⟩,w1))))):=by kernel_rfl
def Db7:Cuts:={ globs:=0,loops:=[],regs:=[],plans:=[] }
def Ee6:List Item:=A5 Tryz.f73
theorem Gq3 (C:A1) (R:A2) (x:List Value) (fv0:Addr) (h:H) :
 A4 PR Db7 C R A87 Tryz.f73 100000 true Ee6 [(0,.agg ⟨x⟩),(1,.pointer (some fv0))] h =
 nw (.cells G4 false x) h fun b w=>gInt .i64 (Addr.add (Addr.add ⟨b,0,none⟩ 1) 1) w fun x_1=>gInt .i64 fv0 w fun x_2=>some (.bool (x_1==(IntKind.wrap .i64 (x_2+1))),w):=by kernel_rfl
def Bl5:Cuts:={ globs:=0,loops:=[],regs:=[],plans:=[] }
def Dd8:List Item:=A5 Tryz.f74
theorem Ev6 (C:A1) (R:A2) (x:List Value) (h:H) :
 A4 PR Bl5 C R Ad9 Tryz.f74 100000 true Dd8 [(0,.agg ⟨x⟩)] h =
 nw (.cells G4 false x) h fun b w=>gInt .i64 (Addr.add (Addr.add ⟨b,0,none⟩ 1) 0) w fun x_1=>some (.bool (x_1 != 2),w):=by kernel_rfl
def Ay9:Cuts:={ globs:=0,loops:=[],regs:=[],plans:=[] }
def Bl8:List Item:=A5 Tryz.f80
theorem Dx8 (C:A1) (R:A2) (c:Option Addr) (i:Int) (h:H) :
 A4 PR Ay9 C R Q2 Tryz.f80 100000 true Bl8 [(0,.pointer c),(1,.int .i64 i)] h =
 nw (.cells I7 false [.int .i64 0,.int .i64 0,.int .i64 0,.int .i64 0]) h fun b w=>bnd (C A37 [.int .i64 i] w) fun r w1=>aAgg r fun x=>bnd (C I6 [.pointer c,.agg ⟨x⟩,.func (.func Aq8) ⟨[]⟩ ⟨[]⟩] w1) fun r_1 w2=>as2 r_1 fun r_2 r_3=>aAgg r_2 fun x_1=>aInt .i64 r_3 fun x_2=>ck (List.length x_1=4) (pAgg ⟨b,0,none⟩ x_1 w2 fun w3=>gAgg ⟨b,0,none⟩ 4 w3 fun x_3=>some (.tuple ⟨[.agg ⟨x_3⟩,.int .i64 x_2]⟩,w3)):=by kernel_rfl
def Az2:Cuts:={ globs:=0,loops:=[],regs:=[],plans:=[] }
def Bo0:List Item:=A5 Tryz.f82
theorem Dw7 (C:A1) (R:A2) (c:Option Addr) (i:Int) (h:H) :
 A4 PR Az2 C R Ah6 Tryz.f82 100000 true Bo0 [(0,.pointer c),(1,.int .i64 i)] h =
 nw (.cells L1 false [.int .i64 0,.int .i64 0,.int .i64 0,.int .i64 0,.int .u8 0,.int .u8 0,.int .u8 0,.int .u8 0,.int .u8 0,.int .u8 0,.int .u8 0,.int .u8 0,.int .u8 0,.int .u8 0,.int .u8 0,.int .u8 0,.int .u8 0,.int .u8 0,.int .u8 0,.int .u8 0,.int .u8 0,.int .u8 0,.int .u8 0,.int .u8 0,.int .u8 0,.int .u8 0,.int .u8 0,.int .u8 0,.int .u8 0,.int .u8 0,.int .u8 0,.int .u8 0,.int .u8 0,.int .u8 0,.int .u8 0,.int .u8 0]) h fun b w=>bnd (C Bh4 [.int .i64 i] w) fun r w1=>aAgg r fun x=>bnd (C H5 [.pointer c,.agg ⟨x⟩,.func (.func Ak5) ⟨[]⟩ ⟨[]⟩] w1) fun r_1 w2=>as2 r_1 fun r_2 r_3=>aAgg r_2 fun x_1=>aInt .i64 r_3 fun x_2=>ck (List.length x_1=36) (pAgg ⟨b,0,none⟩ x_1 w2 fun w3=>gAgg ⟨b,0,none⟩ 36 w3 fun x_3=>some (.tuple ⟨[.agg ⟨x_3⟩,.int .i64 x_2]⟩,w3)):=by kernel_rfl
def Ao1:Cuts:={ globs:=0,loops:=[],regs:=[],plans:=[] }
def Bc8:List Item:=A5 Tryz.f84
theorem Dh4 (C:A1) (R:A2) (c:Option Addr) (i:Int) (f:List Value) (h:H) :
 A4 PR Ao1 C R Ab2 Tryz.f84 100000 true Bc8 [(0,.pointer c),(1,.int .i64 i),(2,.agg ⟨f⟩)] h =
 nw (.cells I7 false f) h fun b w=>gAgg ⟨b,0,none⟩ 4 w fun x=>bnd (C A32 [.agg ⟨x⟩] w) fun r w1=>as2 r fun r_1 r_2=>aSl r_1 fun x_1 xn xc=>aBool r_2 fun x_2=>bnd (C A37 [.int .i64 i] w1) fun r_3 w2=>aAgg r_3 fun x_3=>bnd (C L9 [.pointer c,.agg ⟨x_3⟩,.slice x_1 xn xc,.bool x_2] w2) fun r_4 w3=>aBool r_4 fun x_4=>some (.bool x_4,w3):=by kernel_rfl
def Ai3:Cuts:={ globs:=0,loops:=[],regs:=[],plans:=[] }
def A46:List Item:=A5 Tryz.f90
theorem Db1 (C:A1) (R:A2) (s:Option Addr) (sn sc:Nat) (v:Int) (h:H) :
 A4 PR Ai3 C R L6 Tryz.f90 100000 true A46 [(0,.slice s sn sc),(1,.int .i64 v)] h =
 bnd (C G6 [.slice s sn sc,.int .i64 v] h) fun r w=>aInt .i64 r fun x=>some (.bool (decide (x≥0)),w):=by kernel_rfl
def Be1:Cuts:={ globs:=0,loops:=[],regs:=[],plans:=[] }
def Da2:List Item:=A5 Tryz.f104
theorem Eg3 (C:A1) (R:A2) (k:Option Addr) (env:Int) (h:H) :
 A4 PR Be1 C R Ax6 Tryz.f104 100000 true Da2 [(0,.pointer k),(1,.int .i64 env)] h =
 aSome k fun p=>gPtr (Addr.add p 6) h fun x=>aSome x fun p_1=>gPtr (Addr.add p_1 3) h fun x_1=>bnd (C A68 [.pointer x_1,.int .i64 env] h) fun r w=>aSl r fun x_2 xn xc=>cond (((xn:Nat):Int)==0)
 (some (.pointer none,w))
 (nw (.cells Dr4 false [.pointer k,.int .i64 env,.slice x_2 xn xc,.slice none 0 0]) w fun b w1=>some (.pointer (some ⟨b,0,none⟩),w1)):=by kernel_rfl
def Be2:Cuts:={ globs:=0,loops:=[],regs:=[],plans:=[(3,⟨[0,1,2,3,4,5,6,7,8,9,10,11,12,13,14,15,16,17,18,19],[0,1,3,7,0,0,32,0,128,0,512,0,2048,0,8192,32767,65535,65535,262143,524287],[],[]⟩),(5,⟨[0,1,2,3,4,5,6,7,8,9,10,11],[0,1,3,7,0,0,32,127,255,255,1023,2047],[],[]⟩),(7,⟨[0,1,2,3,4,5,6,7,8,9,10,11,12,13,14,15],[0,1,3,7,0,16,48,112,0,496,1008,2047,4095,4095,16383,32767],[],[]⟩),(9,⟨[0,1,2,3,4,5,6,7,8,9,10,11,12,13,14,15],[0,1,3,7,0,16,48,112,0,496,1008,0,2048,8191,16383,32767],[],[]⟩)] }
def Da1:List Item:=A5 Tryz.f106
theorem El7 (C:A1) (R:A2) (k:Option Addr) (env:Int) (c:List Value) (h:H) :
 A4 PR Be2 C R Av6 Tryz.f106 100000 true Da1 [(0,.pointer k),(1,.int .i64 env),(2,.agg ⟨c⟩)] h =
 nw (.cells Aw9 false c) h fun b w=>gInt .i64 (Addr.add ⟨b,0,none⟩ 0) w fun x=>cond (x==4)
 (aSome k fun p=>gPtr (Addr.add p 3) w fun x_1=>gInt .i64 (Addr.add ⟨b,0,none⟩ 1) w fun x_2=>gInt .i64 (Addr.add ⟨b,0,none⟩ 4) w fun x_3=>gInt .i64 (Addr.add ⟨b,0,none⟩ 5) w fun x_4=>gInt .i64 (Addr.add ⟨b,0,none⟩ 2) w fun x_5=>gInt .i64 (Addr.add ⟨b,0,none⟩ 3) w fun x_6=>bnd (C Av8 [.pointer x_1,.int .i64 env,.int .i64 x_2,.int .i64 x_3,.int .i64 x_4,.int .i64 x_5,.int .i64 x_6] w) fun r w1=>as2 r fun r_1 r_2=>aInt .i64 r_1 fun x_7=>aInt .i64 r_2 fun x_8=>some (.tuple ⟨[.int .i64 x_7,.int .i64 x_8]⟩,w1))
 (cond (x==5)
 (aSome k fun p_1=>gPtr (Addr.add p_1 3) w fun x_9=>gInt .i64 (Addr.add ⟨b,0,none⟩ 1) w fun x_10=>bnd (C Ef5 [.pointer x_9,.int .i64 env,.int .i64 x_10] w) fun r_3 w2=>as2 r_3 fun r_4 r_5=>aInt .i64 r_4 fun x_11=>aInt .i64 r_5 fun x_12=>some (.tuple ⟨[.int .i64 x_11,.int .i64 x_12]⟩,w2))
 (cond (x==6)
 (aSome k fun p_2=>gPtr (Addr.add p_2 4) w fun x_13=>aSome k fun p_3=>gSl (Addr.add p_3 0) w fun x_14 xn _=>aSome x_14 fun p_4=>ck ((0:Int)≤env∧env<((xn:Nat):Int)) (gInt .i64 (Addr.add (B2 p_4) (Int.toNat env*1)) w fun x_15=>bnd (C At3 [.pointer x_13,.int .i64 x_15] w) fun r_6 w3=>as2 r_6 fun r_7 r_8=>aInt .i64 r_7 fun x_16=>aInt .i64 r_8 fun x_17=>some (.tuple ⟨[.int .i64 x_16,.int .i64 x_17]⟩,w3)))
 (cond (x==7)
 (aSome k fun p_5=>gPtr (Addr.add p_5 4) w fun x_18=>aSome k fun p_6=>gSl (Addr.add p_6 0) w fun x_19 xn_1 _=>aSome x_19 fun p_7=>ck ((0:Int)≤env∧env<((xn_1:Nat):Int)) (gInt .i64 (Addr.add (B2 p_7) (Int.toNat env*1)) w fun x_20=>gInt .i64 (Addr.add ⟨b,0,none⟩ 3) w fun x_21=>bnd (C Ax2 [.pointer x_18,.int .i64 x_20,.int .i64 x_21] w) fun r_9 w4=>aInt .i64 r_9 fun x_22=>some (.tuple ⟨[.int .i64 0,.int .i64 x_22]⟩,w4)))
 (cond (x==8)
 (gAgg ⟨b,0,none⟩ 7 w fun x_23=>bnd (C A11 [.pointer k,.int .i64 env,.agg ⟨x_23⟩] w) fun r_10 w5=>as2 r_10 fun r_11 r_12=>aInt .i64 r_11 fun x_24=>aInt .i64 r_12 fun x_25=>some (.tuple ⟨[.int .i64 x_24,.int .i64 x_25]⟩,w5))
 (cond (x==9)
 (gAgg ⟨b,0,none⟩ 7 w fun x_26=>bnd (C A07 [.pointer k,.int .i64 env,.agg ⟨x_26⟩] w) fun r_13 w6=>aInt .i64 r_13 fun x_27=>some (.tuple ⟨[.int .i64 0,.int .i64 x_27]⟩,w6))
 (cond (x==10)
 (aSome k fun p_8=>gInt .i64 (Addr.add p_8 7) w fun x_28=>some (.tuple ⟨[.int .i64 x_28,.int .i64 0]⟩,w))
 (some (.tuple ⟨[.int .i64 0,.int .i64 7]⟩,w)))))))):=by kernel_rfl
def Dj7:Cuts:={ globs:=0,loops:=[],regs:=[],plans:=[] }
def El6:List Item:=A5 Tryz.f120
theorem G44 (C:A1) (R:A2) (x:List Value) (fv0:Addr) (h:H) :
 A4 PR Dj7 C R Bg9 Tryz.f120 100000 true El6 [(0,.agg ⟨x⟩),(1,.pointer (some fv0))] h =
 nw (.cells G4 false x) h fun b w=>gAgg ⟨b,0,none⟩ 17 w fun x_1=>bnd (C Ad9 [.agg ⟨x_1⟩] w) fun r w1=>aBool r fun x_2=>bnd (cond x_2 (gInt .i64 (Addr.add (Addr.add ⟨b,0,none⟩ 1) 2) w1 fun x_3=>gInt .i64 fv0 w1 fun x_4=>some (x_3==x_4,w1)) (some (false,w1))) fun c w2=>some (.bool c,w2):=by kernel_rfl
def E46:Cuts:={ globs:=0,loops:=[],regs:=[],plans:=[] }
def G30:List Item:=A5 Tryz.f122
theorem H15 (C:A1) (R:A2) (n:Int) (h:H) :
 A4 PR E46 C R D99 Tryz.f122 100000 true G30 [(0,.int .i64 n)] h =
 bnd (cond (decide (n≥1)) (some (decide (n≤15),h)) (some (false,h))) fun c w=>some (.bool c,w):=by kernel_rfl
def At9:Cuts:={ globs:=0,loops:=[],regs:=[],plans:=[] }
def Bk1:List Item:=A5 Tryz.f144
theorem Dq4 (C:A1) (R:A2) (c:Option Addr) (h:H) :
 A4 PR At9 C R Af9 Tryz.f144 100000 true Bk1 [(0,.pointer c)] h =
 bnd (C P5 [.pointer c,.agg ⟨[.int .i64 5,.int .i64 0]⟩,.func (.func Ad8) ⟨[]⟩ ⟨[]⟩] h) fun r w=>as2 r fun r_1 r_2=>aInt .i64 r_1 fun x=>aInt .i64 r_2 fun x_1=>some (.tuple ⟨[.int .i64 x,.bool (x_1==1)]⟩,w):=by kernel_rfl
def Dk5:Cuts:={ globs:=0,loops:=[],regs:=[],plans:=[] }
def Ep5:List Item:=A5 Tryz.f145
theorem Gw6 (C:A1) (R:A2) (m:Option Addr) (atv:Int) (n:Int) (h:H) :
 A4 PR Dk5 C R Bf7 Tryz.f145 100000 true Ep5 [(0,.pointer m),(1,.int .i64 atv),(2,.int .i64 n)] h =
 bnd (cond (decide (atv≥0)) (some (decide (n≥0),h)) (some (false,h))) fun c w=>bnd (cond c (aSome m fun p=>gSl (Addr.add p 0) w fun _ xn _=>some (decide (atv≤((xn:Nat):Int)),w)) (some (false,w))) fun c_1 w1=>bnd (cond c_1 (aSome m fun p_1=>gSl (Addr.add p_1 0) w1 fun _ xn_1 _=>some (decide (n≤(IntKind.wrap .i64 (((xn_1:Nat):Int)-atv))),w1)) (some (false,w1))) fun c_2 w2=>some (.bool c_2,w2):=by kernel_rfl
def B34:Cuts:={ globs:=0,loops:=[],regs:=[],plans:=[] }
def D36:List Item:=A5 Tryz.f158
theorem Gg3 (C:A1) (R:A2) (i:Int) (h:H) :
 A4 PR B34 C R A37 Tryz.f158 100000 true D36 [(0,.int .i64 i)] h =
 nw (.cells D3 false [.int .i64 0,.int .i64 0]) h fun b w=>pAgg ⟨b,0,none⟩ [.int .i64 2,.int .i64 i] w fun w1=>gAgg ⟨b,0,none⟩ 2 w1 fun x=>some (.agg ⟨x⟩,w1):=by kernel_rfl
def B31:Cuts:={ globs:=0,loops:=[],regs:=[],plans:=[] }
def D21:List Item:=A5 Tryz.f159
theorem Gd3 (C:A1) (R:A2) (b:Option Addr) (bn bc:Nat) (h:H) :
 A4 PR B31 C R Aq8 Tryz.f159 100000 true D21 [(0,.slice b bn bc)] h =
 nw (.cells I7 false [.int .i64 0,.int .i64 0,.int .i64 0,.int .i64 0]) h fun b_1 w=>bnd (cond (((bn:Nat):Int)==8) (bnd (C Ak8 [.slice b bn bc] w) fun r w1=>aBool r fun x=>some (x,w1)) (some (false,w))) fun c w2=>cond c
 (pAgg ⟨b_1,0,none⟩ [.int .i64 0,.int .i64 0,.int .i64 0,.int .i64 0] w2 fun w3=>gAgg ⟨b_1,0,none⟩ 4 w3 fun x_1=>some (.tuple ⟨[.agg ⟨x_1⟩,.int .i64 0]⟩,w3))
 (bnd (C A99 [] w2) fun r_1 w4=>aPtr r_1 fun x_2=>bnd (C U2 [.pointer x_2,.slice b bn bc] w4) fun r_2 w5=>as2 r_2 fun r_3 r_4=>aAgg r_3 fun x_3=>aBool r_4 fun x_4=>nw (.cells I7 false [.int .i64 0,.int .i64 0,.int .i64 0,.int .i64 0]) w5 fun b_2 w6=>ck (List.length x_3=4) (pAgg ⟨b_2,0,none⟩ x_3 w6 fun w7=>cond (!x_4)
 (pAgg ⟨b_1,0,none⟩ [.int .i64 0,.int .i64 0,.int .i64 0,.int .i64 0] w7 fun w8=>gAgg ⟨b_1,0,none⟩ 4 w8 fun x_5=>some (.tuple ⟨[.agg ⟨x_5⟩,.int .i64 2]⟩,w8))
 (gAgg ⟨b_2,0,none⟩ 4 w7 fun x_6=>ck (List.length x_6=4) (pAgg ⟨b_1,0,none⟩ x_6 w7 fun w9=>gAgg ⟨b_1,0,none⟩ 4 w9 fun x_7=>some (.tuple ⟨[.agg ⟨x_7⟩,.int .i64 1]⟩,w9))))):=by kernel_rfl
def B30:Cuts:={ globs:=0,loops:=[],regs:=[],plans:=[] }
def D04:List Item:=A5 Tryz.f161
theorem Ge6 (C:A1) (R:A2) (i:Int) (h:H) :
 A4 PR B30 C R Bh4 Tryz.f161 100000 true D04 [(0,.int .i64 i)] h =
 nw (.cells D3 false [.int .i64 0,.int .i64 0]) h fun b w=>pAgg ⟨b,0,none⟩ [.int .i64 3,.int .i64 i] w fun w1=>gAgg ⟨b,0,none⟩ 2 w1 fun x=>some (.agg ⟨x⟩,w1):=by kernel_rfl
def Bb7:Cuts:={ globs:=0,loops:=[(3,[0,3,4])],regs:=[],plans:=[(5,⟨[0,1,2,3,4,5,6,7,8,9,10],[0,0,2,6,14,0,32,126,255,511,1023],[(5,[4])],[]⟩),(6,⟨[0,1,2,3,4,5,6,7,8,9,10],[0,0,2,6,14,0,32,126,255,511,1023],[],[]⟩)] }
def By1:List Item:=A5 Tryz.f203
def Aw7:List Item:=stk [0,1,0,1,0,0,1,4,5] By1
theorem Gc0 (C:A1) (R:A2) (envs:Int) (h:H) :
 A4 PR Bb7 C R Y1 Tryz.f203 100000 true By1 [(0,.int .i64 envs)] h =
 nw (.cells Eh1 false [.slice none 0 0,.slice none 0 0]) h fun b w=>R Y1 Aw7 [(0,.int .i64 envs),(3,.pointer (some ⟨b,0,none⟩)),(4,.int .i64 0)] w:=by kernel_rfl
theorem Da7 (C:A1) (R:A2) (envs:Int) (s:Addr) (i:Int) (h:H) :
 A4 PR Bb7 C R Y1 Tryz.f203 100000 true Aw7 [(0,.int .i64 envs),(3,.pointer (some s)),(4,.int .i64 i)] h =
 bnd (cond (decide (i<envs)) (some (decide (i<40),h)) (some (false,h))) fun c w=>cond c
 (gSl (Addr.add s 0) w fun x xn xc=>bnd (C W6 [.int .i64 32] w) fun r w1=>aPtr r fun x_1=>gSl (Addr.add s 0) w1 fun x_2 xn_1 xc_1=>same (.slice x xn xc) (.slice x_2 xn_1 xc_1) (nw (.cells A20 false [.pointer x_1]) w1 fun b w2=>gCells (some ⟨b,0,none⟩) (1*1) w2 fun cs=>ckB (fitsOpen x A20 w2) (apd A20 1 x xn xc 1 cs w2 fun a an ac w3=>pV (Addr.add s 0) (.slice a an ac) w3 fun w4=>gSl (Addr.add s 1) w4 fun x_3 xn_2 xc_2=>ck ((0:Int)≤32∧(32:Int)≤32∧32≤(A9:Int)) (nw (.cells O0 false (G8 (Int.toNat 32) [.int .i64 0,.int .i64 0,.int .i64 0,.int .i64 0,.int .i64 0,.int .i64 0])) w4 fun b_1 w5=>nw (.cells Bn6 false [.slice (some ⟨b_1,0,none⟩) (Int.toNat 32) (Int.toNat 32)]) w5 fun b_2 w6=>gCells (some ⟨b_2,0,none⟩) (1*1) w6 fun cs_1=>ckB (fitsOpen x_3 Bn6 w6) (apd Bn6 1 x_3 xn_2 xc_2 1 cs_1 w6 fun a_1 an_1 ac_1 w7=>pV (Addr.add s 1) (.slice a_1 an_1 ac_1) w7 fun w8=>R Y1 Aw7 [(0,.int .i64 envs),(3,.pointer (some s)),(4,.int .i64 (IntKind.wrap .i64 (i+1)))] w8)))))
 (some (.pointer (some s),w)):=by kernel_rfl
def Bb5:Cuts:={ globs:=0,loops:=[],regs:=[],plans:=[] }
def B24:List Item:=A5 Tryz.f216
theorem Ef7 (C:A1) (R:A2) (q:Option Addr) (s:Int) (h:H) :
 A4 PR Bb5 C R At3 Tryz.f216 100000 true B24 [(0,.pointer q),(1,.int .i64 s)] h =
 bnd (C Ah3 [.pointer q,.int .i64 s] h) fun r w=>aBool r fun x=>cond (!x)
 (some (.tuple ⟨[.int .i64 0,.int .i64 1]⟩,w))
 (aSome q fun p=>gSl (Addr.add p 0) w fun x_1 xn _=>aSome x_1 fun p_1=>ck ((0:Int)≤s∧s<((xn:Nat):Int)) (gSl (Addr.add (B2 p_1) (Int.toNat s*1)) w fun x_2 xn_1 xc_1=>bnd (C G6 [.slice x_2 xn_1 xc_1,.int .i64 0] w) fun r_1 w1=>aInt .i64 r_1 fun x_3=>cond (decide (x_3<0))
 (some (.tuple ⟨[.int .i64 0,.int .i64 4]⟩,w1))
 (aSome q fun p_2=>gSl (Addr.add p_2 0) w1 fun x_4 xn_2 _=>aSome x_4 fun p_3=>ck ((0:Int)≤s∧s<((xn_2:Nat):Int)) (gSl (Addr.add (B2 p_3) (Int.toNat s*1)) w1 fun x_5 xn_3 _=>aSome x_5 fun p_4=>ck ((0:Int)≤x_3∧x_3<((xn_3:Nat):Int)) (pV (Addr.add (B2 p_4) (Int.toNat x_3*1)) (.int .i64 1) w1 fun w2=>some (.tuple ⟨[.int .i64 x_3,.int .i64 0]⟩,w2)))))):=by kernel_rfl
def Bl7:Cuts:={ globs:=0,loops:=[],regs:=[],plans:=[] }
def Dd3:List Item:=A5 Tryz.f218
theorem Eu3 (C:A1) (R:A2) (k:Option Addr) (env:Int) (c:List Value) (h:H) :
 A4 PR Bl7 C R A11 Tryz.f218 100000 true Dd3 [(0,.pointer k),(1,.int .i64 env),(2,.agg ⟨c⟩)] h =
 nw (.cells Aw9 false c) h fun b w=>gInt .i64 (Addr.add ⟨b,0,none⟩ 3) w fun x=>bnd (C Ar0 [.pointer k,.int .i64 env,.int .i64 x] w) fun r w1=>as2 r fun r_1 r_2=>aPtr r_1 fun x_1=>aInt .i64 r_2 fun x_2=>cond (x_2 != 0)
 (some (.tuple ⟨[.int .i64 0,.int .i64 x_2]⟩,w1))
 (aSome k fun p=>gInt .i64 (Addr.add p 7) w1 fun x_3=>bnd (C B7 [.pointer x_1,.int .i64 env,.int .i64 x_3] w1) fun r_3 w2=>as2 r_3 fun r_4 r_5=>aInt .i64 r_4 fun x_4=>aBool r_5 fun _=>some (.tuple ⟨[.int .i64 x_4,.int .i64 0]⟩,w2)):=by kernel_rfl
def Br8:Cuts:={ globs:=0,loops:=[],regs:=[],plans:=[] }
def Do9:List Item:=A5 Tryz.f221
theorem E35 (C:A1) (R:A2) (s:Option Addr) (e:Int) (name:Int) (h:H) :
 A4 PR Br8 C R A57 Tryz.f221 100000 true Do9 [(0,.pointer s),(1,.int .i64 e),(2,.int .i64 name)] h =
 nw (.cells O0 false [.int .i64 0,.int .i64 0,.int .i64 0,.int .i64 0,.int .i64 0,.int .i64 0]) h fun b w=>bnd (C Ah4 [.pointer s,.int .i64 e] w) fun r w1=>aBool r fun x=>bnd (cond (!x) (some (true,w1)) (aSome s fun p=>gSl (Addr.add p 0) w1 fun x_1 xn _=>aSome x_1 fun p_1=>ck ((0:Int)≤e∧e<((xn:Nat):Int)) (gPtr (Addr.add (B2 p_1) (Int.toNat e*1)) w1 fun x_2=>bnd (C A77 [.pointer x_2,.int .i64 name] w1) fun r_1 w2=>aBool r_1 fun x_3=>some (!x_3,w2)))) fun c w3=>cond c
 (pAgg ⟨b,0,none⟩ [.int .i64 0,.int .i64 0,.int .i64 0,.int .i64 0,.int .i64 0,.int .i64 0] w3 fun w4=>gAgg ⟨b,0,none⟩ 6 w4 fun x_4=>some (.tuple ⟨[.agg ⟨x_4⟩,.int .i64 2]⟩,w4))
 (aSome s fun p_2=>gSl (Addr.add p_2 1) w3 fun x_5 xn_1 _=>aSome x_5 fun p_3=>ck ((0:Int)≤e∧e<((xn_1:Nat):Int)) (gSl (Addr.add (B2 p_3) (Int.toNat e*1)) w3 fun x_6 xn_2 _=>aSome x_6 fun p_4=>ck ((0:Int)≤D6 .i64 name 255∧D6 .i64 name 255<((xn_2:Nat):Int)) (gAgg (Addr.add (B2 p_4) (Int.toNat (D6 .i64 name 255)*6)) 6 w3 fun x_7=>ck (List.length x_7=6) (pAgg ⟨b,0,none⟩ x_7 w3 fun w5=>gAgg ⟨b,0,none⟩ 6 w5 fun x_8=>some (.tuple ⟨[.agg ⟨x_8⟩,.int .i64 0]⟩,w5))))):=by kernel_rfl
def A80:Cuts:={ globs:=0,loops:=[],regs:=[],plans:=[] }
def Bz7:List Item:=A5 Tryz.f235
theorem Ea7 (C:A1) (R:A2) (size:Int) (put:Value) (get:Value) (h:H) :
 A4 PR A80 C R Am7 Tryz.f235 100000 true Bz7 [(0,.int .i64 size),(1,put),(2,get)] h =
 one put (one get (nw (.cells Bm0 false [.int .i64 (mm2 false (mm2 true size 0) 64),put,get]) h fun b w=>some (.pointer (some ⟨b,0,none⟩),w))):=by kernel_rfl
def Ba3:Cuts:={ globs:=0,loops:=[(4,[1,2,22,23,24]),(9,[1,2,43,44,45]),(14,[1,58,59])],regs:=[],plans:=[] }
def Bm1:List Item:=A5 Tryz.f236
def B54:List Item:=stk [0,1,0,1,0,0,1,4,5] Bm1
def B59:List Item:=stk [0,1,0,1,0,1,0,0,1,4,5] Bm1
def B37:List Item:=stk [0,1,0,1,0,1,0,1,0,0,1,4,5] Bm1
theorem G69 (C:A1) (R:A2) (p:List Value) (b:Option Addr) (bn bc:Nat) (h:H) :
 A4 PR Ba3 C R N0 Tryz.f236 100000 true Bm1 [(0,.agg ⟨p⟩),(1,.slice b bn bc)] h =
 nw (.cells B0 false p) h fun b_1 w=>gAgg ⟨b_1,0,none⟩ 16 w fun x=>bnd (C Di4 [.agg ⟨x⟩] w) fun r w1=>aBool r fun x_1=>cond (!x_1)
 (some (.bool false,w1))
 (gInt .i64 (Addr.add ⟨b_1,0,none⟩ 0) w1 fun x_2=>gInt .i64 (Addr.add ⟨b_1,0,none⟩ 1) w1 fun x_3=>gInt .i64 (Addr.add ⟨b_1,0,none⟩ 2) w1 fun x_4=>gInt .i64 (Addr.add ⟨b_1,0,none⟩ 3) w1 fun x_5=>nw (.cells B3 false [.int .i64 x_2,.int .i64 x_3,.int .i64 x_4,.int .i64 x_5]) w1 fun b_2 w2=>R N0 B54 [(1,.slice b bn bc),(2,.pointer (some ⟨b_1,0,none⟩)),(22,.slice (some ⟨b_2,0,none⟩) 4 4),(23,.int .i64 4),(24,.int .i64 0)] w2):=by kernel_rfl
theorem A24 (C:A1) (R:A2) (b:Option Addr) (bn bc:Nat) (p:Addr) (x22:Option Addr) (x22n x22c:Nat) (x23:Int) (x24:Int) (h:H) :
 A4 PR Ba3 C R N0 Tryz.f236 100000 true B54 [(1,.slice b bn bc),(2,.pointer (some p)),(22,.slice x22 x22n x22c),(23,.int .i64 x23),(24,.int .i64 x24)] h =
 cond (decide (x24<x23))
 (aSome x22 fun p_1=>ck ((0:Int)≤x24∧x24<((x22n:Nat):Int)) (gInt .i64 (Addr.add (B2 p_1) (Int.toNat x24*1)) h fun x=>aSome b fun p_2=>ck ((0:Int)≤x24∧x24<((bn:Nat):Int)) (pV (Addr.add (B2 p_2) (Int.toNat x24*1)) (.int .u8 (IntKind.wrap .u8 (x))) h fun w=>R N0 B54 [(1,.slice b bn bc),(2,.pointer (some p)),(22,.slice x22 x22n x22c),(23,.int .i64 x23),(24,.int .i64 (IntKind.wrap .i64 (x24+1)))] w)))
 (gInt .i64 (Addr.add p 4) h fun x_1=>gInt .i64 (Addr.add p 5) h fun x_2=>gInt .i64 (Addr.add p 6) h fun x_3=>gInt .i64 (Addr.add p 7) h fun x_4=>nw (.cells B3 false [.int .i64 x_1,.int .i64 x_2,.int .i64 x_3,.int .i64 x_4]) h fun b_1 w1=>R N0 B59 [(1,.slice b bn bc),(2,.pointer (some p)),(43,.slice (some ⟨b_1,0,none⟩) 4 4),(44,.int .i64 4),(45,.int .i64 0)] w1):=by kernel_rfl
theorem A26 (C:A1) (R:A2) (b:Option Addr) (bn bc:Nat) (p:Addr) (x43:Option Addr) (x43n x43c:Nat) (x44:Int) (x45:Int) (h:H) :
 A4 PR Ba3 C R N0 Tryz.f236 100000 true B59 [(1,.slice b bn bc),(2,.pointer (some p)),(43,.slice x43 x43n x43c),(44,.int .i64 x44),(45,.int .i64 x45)] h =
 cond (decide (x45<x44))
 (aSome x43 fun p_1=>ck ((0:Int)≤x45∧x45<((x43n:Nat):Int)) (gInt .i64 (Addr.add (B2 p_1) (Int.toNat x45*1)) h fun x=>bnd (C Bd9 [.slice b bn bc,.int .i64 (IntKind.wrap .i64 (4+(IntKind.wrap .i64 (2*x45)))),.int .i64 x] h) fun r w=>aBool r fun _=>R N0 B59 [(1,.slice b bn bc),(2,.pointer (some p)),(43,.slice x43 x43n x43c),(44,.int .i64 x44),(45,.int .i64 (IntKind.wrap .i64 (x45+1)))] w))
 (gAgg (Addr.add p 8) 8 h fun x_2=>R N0 B37 [(1,.slice b bn bc),(58,.agg ⟨x_2⟩),(59,.int .i64 0)] h):=by kernel_rfl
theorem V6 (C:A1) (R:A2) (b:Option Addr) (bn bc:Nat) (x58:List Value) (x59:Int) (h:H) :
 A4 PR Ba3 C R N0 Tryz.f236 100000 true B37 [(1,.slice b bn bc),(58,.agg ⟨x58⟩),(59,.int .i64 x59)] h =
 cond (decide (x59<8))
 (ck ((0:Int)≤x59∧x59<((8:Nat):Int)) (nth x58 (Int.toNat x59*1) fun x=>aInt .i64 x fun x_1=>aSome b fun p=>ck ((0:Int)≤IntKind.wrap .i64 (12+x59)∧IntKind.wrap .i64 (12+x59)<((bn:Nat):Int)) (pV (Addr.add (B2 p) (Int.toNat (IntKind.wrap .i64 (12+x59))*1)) (.int .u8 (IntKind.wrap .u8 (x_1))) h fun w=>R N0 B37 [(1,.slice b bn bc),(58,.agg ⟨x58⟩),(59,.int .i64 (IntKind.wrap .i64 (x59+1)))] w)))
 (aSome b fun p_1=>ck ((0:Int)≤20∧20<((bn:Nat):Int)) (pV (Addr.add (B2 p_1) (Int.toNat 20*1)) (.int .u8 167) h fun w1=>ckB (fitsOpen b A3 w1) (ck ((0:Int)≤21∧21≤((bc:Nat):Int)) (bnd (C Y7 [.slice (H4 b (decide (0<bc)) (0*1)) ((Int.toNat 21)-0) (bc-0)] w1) fun r w2=>aInt .u8 r fun x_2=>aSome b fun p_2=>ck ((0:Int)≤21∧21<((bn:Nat):Int)) (pV (Addr.add (B2 p_2) (Int.toNat 21*1)) (.int .u8 x_2) w2 fun w3=>some (.bool true,w3)))))):=by kernel_rfl
def Am4:Cuts:={ globs:=0,loops:=[],regs:=[(8,[8,11,12])],plans:=[(7,⟨[0,1,2,3,4,5,6,7,8,9],[0,1,3,7,0,31,63,31,159,511],[(7,[5])],[]⟩)] }
def A51:List Item:=A5 Tryz.f247
def Au3:List Item:=stk [0,1,0,1,0,1,0,1,0,1,0,1,0,0] A51
theorem D49 (C:A1) (R:A2) (c:Option Addr) (r:List Value) (decode:Value) (h:H) :
 A4 PR Am4 C R P5 Tryz.f247 100000 true A51 [(0,.pointer c),(1,.agg ⟨r⟩),(2,decode)] h =
 nw (.cells D3 false r) h fun b w=>gAgg ⟨b,0,none⟩ 2 w fun x=>bnd (C N1 [.pointer c,.agg ⟨x⟩] w) fun r_1 w1=>as2 r_1 fun r_2 r_3=>aSl r_2 fun x_1 xn xc=>aBool r_3 fun x_2=>cond (!x_2)
 (some (.tuple ⟨[.int .i64 0,.int .i64 2]⟩,w1))
 (aFn decode fun g fi cp=>bnd (C g (fi++([.slice x_1 xn xc]++cp)) w1) fun r_4 w2=>as2 r_4 fun r_5 r_6=>aInt .i64 r_5 fun x_3=>aInt .i64 r_6 fun x_4=>cond (x_4==2)
 (aSome c fun p=>gMap (Addr.add p 3) w2 fun x_5=>gAgg ⟨b,0,none⟩ 2 w2 fun x_6=>keyN PR D3 (.agg ⟨x_6⟩) (opt x_5 fun r_7=>mapAt w2 r_7 fun es _=>opt (Aj8 (.int .i64 0) (.agg ⟨x_6⟩) es) fun f=>aInt .i64 f.1 fun x_7=>keyN PR D3 (.agg ⟨x_6⟩) (opt x_5 fun r_8=>mapAt w2 r_8 fun es_1 cl_1=>opt (Dz7 (.int .i64 0) (.agg ⟨x_6⟩) es_1 cl_1) fun f_1=>aInt .i64 f_1.1 fun _=>lt (H.set w2 r_8 f_1.2.2) fun w3=>keyN PR D3 (.agg ⟨x_6⟩) (opt x_5 fun r_9=>mapAt w3 r_9 fun es_2 _=>opt (Aj8 (.int .i64 0) (.agg ⟨x_6⟩) es_2) fun f_2=>aInt .i64 f_2.1 fun x_9=>same (.int .i64 x_7) (.int .i64 x_9) (opt x_5 fun r_10=>mapAt w3 r_10 fun es_3 cl_3=>opt (Bi8 (f_1.2.1:Int) es_3 0) fun i=>lt (H.set w3 r_10 (.map (modN (fun e=>{ e with val:=.int .i64 (IntKind.wrap .i64 (x_7+1)) }) i es_3) cl_3)) fun w4=>R P5 Au3 [(8,.int .i64 0),(11,.int .i64 x_3),(12,.int .i64 x_4)] w4)))))
 (R P5 Au3 [(8,.int .i64 0),(11,.int .i64 x_3),(12,.int .i64 x_4)] w2)):=by kernel_rfl
theorem Bj8 (C:A1) (R:A2) (nonev:Int) (v:Int) (isv:Int) (h:H) :
 A4 PR Am4 C R P5 Tryz.f247 100000 true Au3 [(8,.int .i64 nonev),(11,.int .i64 v),(12,.int .i64 isv)] h =
 cond (isv != 1)
 (some (.tuple ⟨[.int .i64 nonev,.int .i64 isv]⟩,h))
 (some (.tuple ⟨[.int .i64 v,.int .i64 isv]⟩,h)):=by kernel_rfl
def Ae7:Cuts:={ globs:=0,loops:=[],regs:=[],plans:=[(4,⟨[0,1,2,3,4,10,5,6,7,8,9,11,12],[0,1,3,7,0,16,63,127,255,255,0,1535,4095],[(5,[3])],[]⟩)] }
def A01:List Item:=A5 Tryz.f270
theorem B16 (C:A1) (R:A2) (c:Option Addr) (b:Option Addr) (bn bc:Nat) (h:H) :
 A4 PR Ae7 C R U2 Tryz.f270 100000 true A01 [(0,.pointer c),(1,.slice b bn bc)] h =
 nw (.cells I7 false [.int .i64 0,.int .i64 0,.int .i64 0,.int .i64 0]) h fun b_1 w=>nw (.cells I7 false [.int .i64 0,.int .i64 0,.int .i64 0,.int .i64 0]) w fun b_2 w1=>aSome c fun p=>gFv (Addr.add p 2) w1 fun x=>isNilF x fun b_3=>bnd (cond b_3 (some (true,w1)) (aSome c fun p_1=>gInt .i64 (Addr.add p_1 0) w1 fun x_1=>some (((bn:Nat):Int) != x_1,w1))) fun c_1 w2=>cond c_1
 (gAgg ⟨b_2,0,none⟩ 4 w2 fun x_2=>ck (List.length x_2=4) (pAgg ⟨b_1,0,none⟩ x_2 w2 fun w3=>gAgg ⟨b_1,0,none⟩ 4 w3 fun x_3=>some (.tuple ⟨[.agg ⟨x_3⟩,.bool false]⟩,w3)))
 (aSome c fun p_2=>gFv (Addr.add p_2 2) w2 fun x_4=>nw (.cells I7 false [.int .i64 0,.int .i64 0,.int .i64 0,.int .i64 0]) w2 fun b_4 w4=>bnd (C E8 [.slice b bn bc] w4) fun r w5=>aSl r fun x_5 xn xc=>gFv (Addr.add p_2 2) w5 fun x_6=>Bi0 (x_4) (x_6) (aFn x_4 fun g fi cp=>bnd (C g (fi++([.slice x_5 xn xc]++cp)) w5) fun r_1 w6=>as2 r_1 fun r_2 r_3=>aAgg r_2 fun x_7=>aBool r_3 fun x_8=>ck (List.length x_7=4) (pAgg ⟨b_4,0,none⟩ x_7 w6 fun w7=>cond (!x_8)
 (gAgg ⟨b_2,0,none⟩ 4 w7 fun x_9=>ck (List.length x_9=4) (pAgg ⟨b_1,0,none⟩ x_9 w7 fun w8=>gAgg ⟨b_1,0,none⟩ 4 w8 fun x_10=>some (.tuple ⟨[.agg ⟨x_10⟩,.bool false]⟩,w8)))
 (gAgg ⟨b_4,0,none⟩ 4 w7 fun x_11=>ck (List.length x_11=4) (pAgg ⟨b_1,0,none⟩ x_11 w7 fun w9=>gAgg ⟨b_1,0,none⟩ 4 w9 fun x_12=>some (.tuple ⟨[.agg ⟨x_12⟩,.bool true]⟩,w9)))))):=by kernel_rfl
def Ae6:Cuts:={ globs:=0,loops:=[],regs:=[],plans:=[(2,⟨[0,1,2,3,4,5,6,7,8,9,10,11,12,13,14],[0,1,3,7,15,31,63,127,255,511,63,63,4095,8191,16383],[],[]⟩)] }
def Az7:List Item:=A5 Tryz.f274
theorem B23 (C:A1) (R:A2) (c:Option Addr) (v:List Value) (h:H) :
 A4 PR Ae6 C R U0 Tryz.f274 100000 true Az7 [(0,.pointer c),(1,.agg ⟨v⟩)] h =
 nw (.cells I7 false v) h fun b w=>aSome c fun p=>gInt .i64 (Addr.add p 0) w fun x=>ck ((0:Int)≤x∧(x:Int)≤x∧x≤(A9:Int)) (nw (.cells A3 false (G8 (Int.toNat x) [.int .u8 0])) w fun b_1 w1=>aSome c fun p_1=>gFv (Addr.add p_1 1) w1 fun x_1=>isNilF x_1 fun b_2=>bnd (cond b_2 (some (true,w1)) (aSome c fun p_2=>gFv (Addr.add p_2 1) w1 fun x_2=>gAgg ⟨b,0,none⟩ 4 w1 fun x_3=>aFn x_2 fun g fi cp=>bnd (C g (fi++([.agg ⟨x_3⟩,.slice (some ⟨b_1,0,none⟩) (Int.toNat x) (Int.toNat x)]++cp)) w1) fun r w2=>aBool r fun x_4=>some (!x_4,w2))) fun c_1 w3=>cond c_1
 (some (.tuple ⟨[.slice none 0 0,.bool false]⟩,w3))
 (some (.tuple ⟨[.slice (some ⟨b_1,0,none⟩) (Int.toNat x) (Int.toNat x),.bool true]⟩,w3))):=by kernel_rfl
def Dj2:Cuts:={ globs:=0,loops:=[],regs:=[],plans:=[] }
def Eo9:List Item:=A5 Tryz.f286
theorem G09 (C:A1) (R:A2) (c:List Value) (x:List Value) (h:H) :
 A4 PR Dj2 C R Bz4 Tryz.f286 100000 true Eo9 [(0,.agg ⟨c⟩),(1,.agg ⟨x⟩)] h =
 nw (.cells D5 false c) h fun b w=>nw (.cells H9 false x) w fun b_1 w1=>gInt .i64 (Addr.add ⟨b_1,0,none⟩ 0) w1 fun x_1=>bnd (cond (decide (x_1<0)) (some (true,w1)) (gInt .i64 (Addr.add ⟨b_1,0,none⟩ 0) w1 fun x_2=>gSl (Addr.add ⟨b,0,none⟩ 0) w1 fun _ xn _=>some (decide (x_2≥((xn:Nat):Int)),w1))) fun c_1 w2=>bnd (cond c_1 (some (true,w2)) (gInt .i64 (Addr.add ⟨b_1,0,none⟩ 1) w2 fun x_4=>some (decide (x_4<0),w2))) fun c_2 w3=>bnd (cond c_2 (some (true,w3)) (gInt .i64 (Addr.add ⟨b_1,0,none⟩ 2) w3 fun x_5=>some (decide (x_5<0),w3))) fun c_3 w4=>bnd (cond c_3 (some (true,w4)) (gInt .i64 (Addr.add ⟨b_1,0,none⟩ 3) w4 fun x_6=>some (decide (x_6<0),w4))) fun c_4 w5=>cond c_4
 (some (.bool false,w5))
 (gSl (Addr.add ⟨b,0,none⟩ 0) w5 fun x_7 xn_1 _=>gInt .i64 (Addr.add ⟨b_1,0,none⟩ 0) w5 fun x_8=>aSome x_7 fun p=>ck ((0:Int)≤x_8∧x_8<((xn_1:Nat):Int)) (gInt .i64 (Addr.add (B2 p) (Int.toNat x_8*1)) w5 fun x_9=>bnd (C A92 [.int .i64 x_9] w5) fun r w6=>aInt .i64 r fun x_10=>gInt .i64 (Addr.add ⟨b_1,0,none⟩ 1) w6 fun x_11=>cond (decide (x_11>x_10))
 (some (.bool false,w6))
 (gInt .i64 (Addr.add ⟨b_1,0,none⟩ 1) w6 fun x_12=>gInt .i64 (Addr.add ⟨b_1,0,none⟩ 2) w6 fun x_13=>bnd (cond (decide (x_13≤(IntKind.wrap .i64 ((IntKind.wrap .i64 (x_10-x_12))*64)))) (gInt .i64 (Addr.add ⟨b_1,0,none⟩ 3) w6 fun x_14=>gInt .i64 (Addr.add ⟨b_1,0,none⟩ 2) w6 fun x_15=>some (decide (x_14≤(IntKind.wrap .i64 ((IntKind.wrap .i64 ((IntKind.wrap .i64 (x_10-x_12))*64))-x_15))),w6)) (some (false,w6))) fun c_5 w7=>some (.bool c_5,w7)))):=by kernel_rfl
def Bf1:Cuts:={ globs:=0,loops:=[],regs:=[],plans:=[] }
def Da9:List Item:=A5 Tryz.f289
theorem Eg2 (C:A1) (R:A2) (n:Int) (h:H) :
 A4 PR Bf1 C R Aj0 Tryz.f289 100000 true Da9 [(0,.int .i64 n)] h =
 bnd (cond (decide (n≥0)) (some (decide (n≤65536),h)) (some (false,h))) fun c w=>some (.bool c,w):=by kernel_rfl
def Bq6:Cuts:={ globs:=0,loops:=[],regs:=[],plans:=[(1,⟨[0,1,2,3,4,5,6,7,8,9,10,11,12,13],[0,1,3,7,0,31,63,0,255,511,1023,1023,2047,8191],[],[]⟩)] }
def Dl7:List Item:=A5 Tryz.f291
theorem E11 (C:A1) (R:A2) (s:Option Addr) (env:Int) (c:List Value) (h:H) :
 A4 PR Bq6 C R As6 Tryz.f291 100000 true Dl7 [(0,.pointer s),(1,.int .i64 env),(2,.agg ⟨c⟩)] h =
 nw (.cells O0 false c) h fun b w=>aSome s fun p=>gSl (Addr.add p 0) w fun x xn _=>aSome x fun p_1=>ck ((0:Int)≤env∧env<((xn:Nat):Int)) (gPtr (Addr.add (B2 p_1) (Int.toNat env*1)) w fun x_1=>gAgg ⟨b,0,none⟩ 6 w fun x_2=>bnd (C H6 [.pointer x_1,.agg ⟨x_2⟩] w) fun r w1=>as2 r fun r_1 r_2=>aInt .i64 r_1 fun x_3=>aBool r_2 fun x_4=>cond (!x_4)
 (some (.tuple ⟨[.int .i64 0,.int .i64 4]⟩,w1))
 (some (.tuple ⟨[.int .i64 x_3,.int .i64 0]⟩,w1))):=by kernel_rfl
def Az6:Cuts:={ globs:=0,loops:=[],regs:=[],plans:=[(6,⟨[0,1,2,3,4,5,6,7,8,9,10,11,12,13,14,15,16,17,18,19,20,21,22,23,24,25,26,27,28,29,30,31,32,33,34,35],[0,1,3,7,15,31,63,127,127,383,1023,2047,4095,8191,8191,24575,8191,122879,262143,524287,1048575,2097151,4194303,8388607,16777215,33554431,67108863,134217727,67108863,335544319,872415231,1946157055,4093640703,8589934591,17179869183,34359738367],[],[]⟩),(8,⟨[0,1,2,3,4,5,6,7,8,9],[0,1,3,7,0,16,63,127,0,511],[],[]⟩)] }
def Bo1:List Item:=A5 Tryz.f295
theorem Dy1 (C:A1) (R:A2) (r:Option Addr) (env:Int) (name:Int) (right:Int) (atv:Int) (n:Int) (h:H) :
 A4 PR Az6 C R Y8 Tryz.f295 100000 true Bo1 [(0,.pointer r),(1,.int .i64 env),(2,.int .i64 name),(3,.int .i64 right),(4,.int .i64 atv),(5,.int .i64 n)] h =
 aSome r fun p=>gPtr (Addr.add p 1) h fun x=>bnd (C Ar9 [.pointer x,.int .i64 env,.int .i64 name] h) fun r_1 w=>as2 r_1 fun r_2 r_3=>aAgg r_2 fun x_1=>aInt .i64 r_3 fun x_2=>nw (.cells O0 false [.int .i64 0,.int .i64 0,.int .i64 0,.int .i64 0,.int .i64 0,.int .i64 0]) w fun b w1=>ck (List.length x_1=6) (pAgg ⟨b,0,none⟩ x_1 w1 fun w2=>cond (x_2 != 0)
 (some (.tuple ⟨[.int .i64 0,.int .i64 x_2]⟩,w2))
 (gInt .i64 (Addr.add ⟨b,0,none⟩ 1) w2 fun x_3=>cond ((D6 .i64 x_3 right)==0)
 (some (.tuple ⟨[.int .i64 0,.int .i64 3]⟩,w2))
 (bnd (cond (decide (atv<0)) (some (true,w2)) (some (decide (n<0),w2))) fun c w3=>bnd (cond c (some (true,w3)) (gInt .i64 (Addr.add ⟨b,0,none⟩ 3) w3 fun x_4=>some (decide (atv>x_4),w3))) fun c_1 w4=>bnd (cond c_1 (some (true,w4)) (gInt .i64 (Addr.add ⟨b,0,none⟩ 3) w4 fun x_5=>some (decide (n>(IntKind.wrap .i64 (x_5-atv))),w4))) fun c_2 w5=>bnd (cond c_2 (some (true,w5)) (gInt .i64 (Addr.add ⟨b,0,none⟩ 0) w5 fun x_6=>some (decide (x_6<0),w5))) fun c_3 w6=>bnd (cond c_3 (some (true,w6)) (gInt .i64 (Addr.add ⟨b,0,none⟩ 0) w6 fun x_7=>aSome r fun p_1=>gSl (Addr.add p_1 2) w6 fun _ xn _=>some (decide (x_7≥((xn:Nat):Int)),w6))) fun c_4 w7=>cond c_4
 (some (.tuple ⟨[.int .i64 0,.int .i64 1]⟩,w7))
 (aSome r fun p_2=>gSl (Addr.add p_2 2) w7 fun x_9 xn_1 _=>gInt .i64 (Addr.add ⟨b,0,none⟩ 0) w7 fun x_10=>aSome x_9 fun p_3=>ck ((0:Int)≤x_10∧x_10<((xn_1:Nat):Int)) (gAgg (Addr.add (B2 p_3) (Int.toNat x_10*2)) 2 w7 fun x_11=>nw (.cells Au9 false [.int .i64 0,.int .i64 0]) w7 fun b_1 w8=>ck (List.length x_11=2) (pAgg ⟨b_1,0,none⟩ x_11 w8 fun w9=>gInt .i64 (Addr.add ⟨b,0,none⟩ 2) w9 fun x_12=>gInt .i64 (Addr.add ⟨b_1,0,none⟩ 1) w9 fun x_13=>bnd (cond (decide ((IntKind.wrap .i64 (x_12+atv))>x_13)) (some (true,w9)) (gInt .i64 (Addr.add ⟨b_1,0,none⟩ 1) w9 fun x_14=>gInt .i64 (Addr.add ⟨b,0,none⟩ 2) w9 fun x_15=>some (decide (n>(IntKind.wrap .i64 ((IntKind.wrap .i64 (x_14-x_15))-atv))),w9))) fun c_5 w10=>cond c_5
 (some (.tuple ⟨[.int .i64 0,.int .i64 1]⟩,w10))
 (gInt .i64 (Addr.add ⟨b_1,0,none⟩ 0) w10 fun x_16=>gInt .i64 (Addr.add ⟨b,0,none⟩ 2) w10 fun x_17=>some (.tuple ⟨[.int .i64 (IntKind.wrap .i64 ((IntKind.wrap .i64 (x_16+x_17))+atv)),.int .i64 0]⟩,w10)))))))):=by kernel_rfl
def Br2:Cuts:={ globs:=0,loops:=[],regs:=[],plans:=[] }
def Dn6:List Item:=A5 Tryz.f300
theorem E47 (C:A1) (R:A2) (q:Option Addr) (s:Int) (h:H) :
 A4 PR Br2 C R Ah3 Tryz.f300 100000 true Dn6 [(0,.pointer q),(1,.int .i64 s)] h =
 bnd (cond (decide (s≥0)) (aSome q fun p=>gSl (Addr.add p 0) h fun _ xn _=>some (decide (s<((xn:Nat):Int)),h)) (some (false,h))) fun c w=>some (.bool c,w):=by kernel_rfl
def Bq2:Cuts:={ globs:=0,loops:=[],regs:=[],plans:=[] }
def Dl0:List Item:=A5 Tryz.f305
theorem E40 (C:A1) (R:A2) (n:Option Addr) (name:Int) (h:H) :
 A4 PR Bq2 C R A77 Tryz.f305 100000 true Dl0 [(0,.pointer n),(1,.int .i64 name)] h =
 bnd (cond (decide (name≥0)) (aSome n fun p=>gSl (Addr.add p 0) h fun _ xn _=>some (decide ((D6 .i64 name 255)<((xn:Nat):Int)),h)) (some (false,h))) fun c w=>bnd (cond c (aSome n fun p_1=>gSl (Addr.add p_1 0) w fun x_1 xn_1 _=>aSome x_1 fun p_2=>ck ((0:Int)≤D6 .i64 name 255∧D6 .i64 name 255<((xn_1:Nat):Int)) (gBool (Addr.add (Addr.add (B2 p_2) (Int.toNat (D6 .i64 name 255)*2)) 1) w fun x_2=>some (x_2,w))) (some (false,w))) fun c_1 w1=>bnd (cond c_1 (aSome n fun p_3=>gSl (Addr.add p_3 0) w1 fun x_3 xn_2 _=>aSome x_3 fun p_4=>ck ((0:Int)≤D6 .i64 name 255∧D6 .i64 name 255<((xn_2:Nat):Int)) (gInt .i64 (Addr.add (Addr.add (B2 p_4) (Int.toNat (D6 .i64 name 255)*2)) 0) w1 fun x_4=>some (x_4==(Int.fdiv name (2 ^ 8)),w1))) (some (false,w1))) fun c_2 w2=>some (.bool c_2,w2):=by kernel_rfl
def B68:Cuts:={ globs:=0,loops:=[(3,[3,9,10,11])],regs:=[],plans:=[] }
def Dy6:List Item:=A5 Tryz.f312
def Bi7:List Item:=stk [0,1,0,1,0,0,1,4,5] Dy6
theorem Hc7 (C:A1) (R:A2) (b:Option Addr) (bn bc:Nat) (h:H) :
 A4 PR B68 C R Y7 Tryz.f312 100000 true Dy6 [(0,.slice b bn bc)] h =
 R Y7 Bi7 [(3,.int .u8 (IntKind.wrap .u8 (((bn:Nat):Int)))),(9,.slice b bn bc),(10,.int .i64 ((bn:Nat):Int)),(11,.int .i64 0)] h:=by kernel_rfl
theorem D10 (C:A1) (R:A2) (n:Int) (x9:Option Addr) (x9n x9c:Nat) (x10:Int) (x11:Int) (h:H) :
 A4 PR B68 C R Y7 Tryz.f312 100000 true Bi7 [(3,.int .u8 n),(9,.slice x9 x9n x9c),(10,.int .i64 x10),(11,.int .i64 x11)] h =
 cond (decide (x11<x10))
 (aSome x9 fun p=>ck ((0:Int)≤x11∧x11<((x9n:Nat):Int)) (gInt .u8 (Addr.add (B2 p) (Int.toNat x11*1)) h fun x=>R Y7 Bi7 [(3,.int .u8 (IntKind.wrap .u8 (n+x))),(9,.slice x9 x9n x9c),(10,.int .i64 x10),(11,.int .i64 (IntKind.wrap .i64 (x11+1)))] h))
 (some (.int .u8 n,h)):=by kernel_rfl
def D86:Cuts:={ globs:=0,loops:=[],regs:=[],plans:=[(5,⟨[0,1,2,3,4],[0,1,0,4,15],[],[]⟩)] }
def E64:List Item:=A5 Tryz.f327
theorem Hk8 (C:A1) (R:A2) (p:List Value) (b:Option Addr) (bn bc:Nat) (h:H) :
 A4 PR D86 C R Bi4 Tryz.f327 100000 true E64 [(0,.agg ⟨p⟩),(1,.slice b bn bc)] h =
 nw (.cells L1 false p) h fun b_1 w=>gAgg ⟨b_1,0,none⟩ 36 w fun x=>bnd (C Dt5 [.agg ⟨x⟩] w) fun r w1=>aBool r fun x_1=>cond (!x_1)
 (some (.bool false,w1))
 (gInt .i64 (Addr.add ⟨b_1,0,none⟩ 0) w1 fun x_2=>gInt .i64 (Addr.add ⟨b_1,0,none⟩ 1) w1 fun x_3=>gInt .i64 (Addr.add ⟨b_1,0,none⟩ 2) w1 fun x_4=>gInt .i64 (Addr.add ⟨b_1,0,none⟩ 3) w1 fun x_5=>nw (.cells A3 false [.int .u8 1,.int .u8 (IntKind.wrap .u8 (x_2)),.int .u8 (IntKind.wrap .u8 (x_3)),.int .u8 (IntKind.wrap .u8 (x_4)),.int .u8 (IntKind.wrap .u8 (x_5)),.int .u8 197]) w1 fun b_2 w2=>gCells (some ⟨b_2,0,none⟩) (min 6 bn*1) w2 fun cs=>pCells b cs w2 fun w3=>ckB (fitsOpen b A3 w3) (ck ((0:Int)≤6∧6≤((bc:Nat):Int)) (bnd (C Y7 [.slice (H4 b (decide (0<bc)) (0*1)) ((Int.toNat 6)-0) (bc-0)] w3) fun r_1 w4=>aInt .u8 r_1 fun x_6=>aSome b fun p_1=>ck ((0:Int)≤6∧6<((bn:Nat):Int)) (pV (Addr.add (B2 p_1) (Int.toNat 6*1)) (.int .u8 x_6) w4 fun w5=>ckB (fitsOpen b A3 w5) (ck ((0:Int)≤8∧8≤((bn:Nat):Int)) (ckB (liveA (Addr.add ⟨b_1,0,none⟩ 4) w5) (gCells (H4 (some (Addr.add ⟨b_1,0,none⟩ 4)) (decide (0<32)) (0*1)) (min (32-0) (bn-(Int.toNat 8))*1) w5 fun cs_1=>pCells (H4 b (decide (Int.toNat 8<bc)) ((Int.toNat 8)*1)) cs_1 w5 fun w6=>some (.bool true,w6)))))))):=by kernel_rfl
def Dy2:Cuts:={ globs:=0,loops:=[],regs:=[],plans:=[] }
def Ex8:List Item:=A5 Tryz.f329
theorem G68 (C:A1) (R:A2) (n:Int) (A9:Int) (h:H) :
 A4 PR Dy2 C R Aq0 Tryz.f329 100000 true Ex8 [(0,.int .i64 n),(1,.int .i64 A9)] h =
 bnd (cond (decide (n≥0)) (some (decide (n≤A9),h)) (some (false,h))) fun c w=>some (.bool c,w):=by kernel_rfl
end
end Go.EQ

set_option maxRecDepth 100000
namespace Go.EQ
open Go Go.NN Go.Proofs
variable (C : A1) (R : A2)
noncomputable section
def Aa3:Cuts:={ globs:=0,loops:=[(6,[0,1,2,8,11,12]),(19,[1,2,8,11,14,15,16])],regs:=[(12,[0,1,2,8,11,12,13])],plans:=[(23,⟨[0,1,2,3,4,5,6,7,8,9,10,11,12,13,14,15,16,17,18,19,20,21,22,23,24,25,26],[0,1,3,7,15,7,39,103,255,511,1023,2047,4095,8191,2047,32767,65535,131071,262143,524287,1048575,2097151,1048575,5242879,16777215,33554431,67108863],[],[]⟩)] }
def Aj1:List Item:=A5 Tryz.f3
def Aj6:List Item:=stk [0,1,0,1,0,1,0,1,0,0,1,4,5] Aj1
def Ak4:List Item:=stk [0,1,0,1,0,1,0,1,0,0,1,4,5,6,0,1,0,4,0,1,0,1,0,1,0,0] Aj1
def Ak2:List Item:=stk [0,1,0,1,0,1,0,1,0,1,0,1,0,1,0,1,0,0,1,4,5] Aj1
theorem En4 (C:A1) (R:A2) (l:Option Addr) (ln lc:Nat) (target:Int) (n:Int) (h:H) :
 A4 PR Aa3 C R B6 Tryz.f3 100000 true Aj1 [(0,.slice l ln lc),(1,.int .i64 target),(2,.int .i64 n)] h =
 bnd (C A90 [] h) fun r w=>aSl r fun x xn xc=>bnd (C Ad5 [.slice x xn xc] w) fun r_1 w1=>as4 r_1 fun r_2 r_3 r_4 r_5=>aPtr r_2 fun _=>aPtr r_3 fun x_2=>aPtr r_4 fun _=>aPtr r_5 fun _=>cond x_2.isNone
 (some (.bool false,w1))
 (nw (.cells B35 false [.int .i64 0,.int .i64 0,.int .i64 0,.int .i64 0,.int .i64 0,.int .i64 0]) w1 fun b w2=>R B6 Aj6 [(0,.slice l ln lc),(1,.int .i64 target),(2,.int .i64 n),(8,.pointer x_2),(11,.pointer (some ⟨b,0,none⟩)),(12,.int .i64 1)] w2):=by kernel_rfl
theorem Bu3 (C:A1) (R:A2) (l:Option Addr) (ln lc:Nat) (target:Int) (n:Int) (c:Option Addr) (group:Addr) (i:Int) (h:H) :
 A4 PR Aa3 C R B6 Tryz.f3 100000 true Aj6 [(0,.slice l ln lc),(1,.int .i64 target),(2,.int .i64 n),(8,.pointer c),(11,.pointer (some group)),(12,.int .i64 i)] h =
 cond (decide (i<6))
 (bnd (C Bn3 [.pointer c,.int .i64 0] h) fun r w=>aAgg r fun _=>bnd (cond (decide (i≤((ln:Nat):Int))) (aSome l fun p=>ck ((0:Int)≤IntKind.wrap .i64 (i-1)∧IntKind.wrap .i64 (i-1)<((ln:Nat):Int)) (gInt .i64 (Addr.add (B2 p) (Int.toNat (IntKind.wrap .i64 (i-1))*1)) w fun x_1=>some ((D6 .i64 x_1 1)==1,w))) (some (false,w))) fun c_1 w1=>cond c_1
 (aSome l fun p_1=>ck ((0:Int)≤IntKind.wrap .i64 (i-1)∧IntKind.wrap .i64 (i-1)<((ln:Nat):Int)) (gInt .i64 (Addr.add (B2 p_1) (Int.toNat (IntKind.wrap .i64 (i-1))*1)) w1 fun x_2=>ck (i≠(0:Int)) (ck ((0:Int)≤Int.tmod (D6 .i64 (Int.fdiv x_2 (2 ^ 1)) 255) i∧Int.tmod (D6 .i64 (Int.fdiv x_2 (2 ^ 1)) 255) i<((6:Nat):Int)) (gInt .i64 (Addr.add group (Int.toNat (Int.tmod (D6 .i64 (Int.fdiv x_2 (2 ^ 1)) 255) i)*1)) w1 fun x_3=>R B6 Ak4 [(0,.slice l ln lc),(1,.int .i64 target),(2,.int .i64 n),(8,.pointer c),(11,.pointer (some group)),(12,.int .i64 i),(13,.int .i64 x_3)] w1))))
 (R B6 Ak4 [(0,.slice l ln lc),(1,.int .i64 target),(2,.int .i64 n),(8,.pointer c),(11,.pointer (some group)),(12,.int .i64 i),(13,.int .i64 i)] w1))
 (bnd (C Ap9 [.pointer c,.int .i64 2,.int .i64 (D6 .i64 target 15),.int .i64 (IntKind.wrap .i64 ((D6 .i64 n 7)+1))] h) fun r_1 w2=>aAgg r_1 fun x_4=>nw (.cells Q5 false [.int .i64 0,.int .i64 0,.slice none 0 0,.bool false]) w2 fun b w3=>ck (List.length x_4=4) (pAgg ⟨b,0,none⟩ x_4 w3 fun w4=>R B6 Ak2 [(1,.int .i64 (D6 .i64 target 15)),(2,.int .i64 (IntKind.wrap .i64 ((D6 .i64 n 7)+1))),(8,.pointer c),(11,.pointer (some group)),(14,.pointer (some ⟨b,0,none⟩)),(15,.bool false),(16,.int .i64 0)] w4)):=by kernel_rfl
theorem D08 (C:A1) (R:A2) (l:Option Addr) (ln lc:Nat) (target:Int) (n:Int) (c:Option Addr) (group:Addr) (i:Int) (g:Int) (h:H) :
 A4 PR Aa3 C R B6 Tryz.f3 100000 true Ak4 [(0,.slice l ln lc),(1,.int .i64 target),(2,.int .i64 n),(8,.pointer c),(11,.pointer (some group)),(12,.int .i64 i),(13,.int .i64 g)] h =
 bnd (C Bz1 [.pointer c,.int .i64 0,.int .i64 i,.int .i64 g] h) fun r w=>aAgg r fun x=>nth x 1 fun E=>aInt .i64 E fun E_1=>cond (E_1 != 0)
 (some (.bool false,w))
 (ck ((0:Int)≤i∧i<((6:Nat):Int)) (pV (Addr.add group (Int.toNat i*1)) (.int .i64 g) w fun w1=>R B6 Aj6 [(0,.slice l ln lc),(1,.int .i64 target),(2,.int .i64 n),(8,.pointer c),(11,.pointer (some group)),(12,.int .i64 (IntKind.wrap .i64 (i+1)))] w1)):=by kernel_rfl
theorem Bu0 (C:A1) (R:A2) (target:Int) (n:Int) (c:Option Addr) (group:Addr) (r:Addr) (somev:Bool) (i:Int) (h:H) :
 A4 PR Aa3 C R B6 Tryz.f3 100000 true Ak2 [(1,.int .i64 target),(2,.int .i64 n),(8,.pointer c),(11,.pointer (some group)),(14,.pointer (some r)),(15,.bool somev),(16,.int .i64 i)] h =
 cond (decide (i<6))
 (bnd (C G5 [.pointer c,.int .i64 i] h) fun r_1 w=>as2 r_1 fun r_2 r_3=>aAgg r_2 fun x=>aInt .i64 r_3 fun x_1=>nw (.cells B0 false [.int .i64 0,.int .i64 0,.int .i64 0,.int .i64 0,.int .i64 0,.int .i64 0,.int .i64 0,.int .i64 0,.int .i64 0,.int .i64 0,.int .i64 0,.int .i64 0,.int .i64 0,.int .i64 0,.int .i64 0,.int .i64 0]) w fun b w1=>ck (List.length x=16) (pAgg ⟨b,0,none⟩ x w1 fun w2=>bnd (cond (target==i) (some (true,w2)) (bnd (cond (decide (target≥8)) (ck ((0:Int)≤i∧i<((6:Nat):Int)) (gInt .i64 (Addr.add group (Int.toNat i*1)) w2 fun x_2=>some (x_2==(IntKind.wrap .i64 (target-8)),w2))) (some (false,w2))) fun c_1 w3=>some (c_1,w3))) fun c_2 w4=>bnd (cond (x_1 != 1) (some (true,w4)) (gInt .i64 (Addr.add ⟨b,0,none⟩ 2) w4 fun x_3=>ck ((0:Int)≤i∧i<((6:Nat):Int)) (gInt .i64 (Addr.add group (Int.toNat i*1)) w4 fun x_4=>some (x_3 != x_4,w4)))) fun c_3 w5=>bnd (cond c_3 (some (true,w5)) (gInt .i64 (Addr.add ⟨b,0,none⟩ 4) w5 fun x_5=>some (!((x_5 != 0)==c_2),w5))) fun c_4 w6=>bnd (cond c_4 (some (true,w6)) (bnd (cond c_2 (gInt .i64 (Addr.add ⟨b,0,none⟩ 4) w6 fun x_6=>ck ((0:Int)≤n) (some (x_6 != (IntKind.wrap .i64 (1*2 ^ (min (Int.toNat n) 64))),w6))) (some (false,w6))) fun c_5 w7=>some (c_5,w7))) fun c_6 w8=>cond c_6
 (some (.bool false,w8))
 (bnd (cond somev (some (true,w8)) (some (c_2,w8))) fun c_7 w9=>R B6 Ak2 [(1,.int .i64 target),(2,.int .i64 n),(8,.pointer c),(11,.pointer (some group)),(14,.pointer (some r)),(15,.bool c_7),(16,.int .i64 (IntKind.wrap .i64 (i+1)))] w9)))
 (gInt .i64 (Addr.add r 1) h fun x_7=>bnd (cond ((x_7==0)==somev) (bnd (cond somev (some (true,h)) (gInt .i64 (Addr.add r 1) h fun x_8=>some (x_8==103,h))) fun c_8 w10=>some (c_8,w10)) (some (false,h))) fun c_9 w11=>bnd (cond c_9 (bnd (C Bp5 [] w11) fun r_4 w12=>aBool r_4 fun x_9=>some (x_9,w12)) (some (false,w11))) fun c_10 w13=>some (.bool c_10,w13)):=by kernel_rfl
def Db5:Cuts:={ globs:=0,loops:=[],regs:=[],plans:=[(5,⟨[0,1,2,3,4],[0,1,0,4,15],[(3,[1])],[]⟩)] }
def Ec8:List Item:=A5 Tryz.f9
theorem Gp3 (C:A1) (R:A2)  (h:H) :
 A4 PR Db5 C R A90 Tryz.f9 100000 true Ec8 [] h =
 bnd (C A95 [] h) fun r w=>aStr r fun x=>ck (ByteArray.size x≤A9) (nw (.cells A3 false (A0 (ByteArray.data x).toList)) w fun b w1=>nw (.cells B0 false [.int .i64 0,.int .i64 0,.int .i64 0,.int .i64 0,.int .i64 0,.int .i64 0,.int .i64 0,.int .i64 0,.int .i64 0,.int .i64 0,.int .i64 0,.int .i64 0,.int .i64 0,.int .i64 0,.int .i64 0,.int .i64 0]) w1 fun b_1 w2=>pAgg ⟨b_1,0,none⟩ [.int .i64 1,.int .i64 0,.int .i64 0,.int .i64 0,.int .i64 0,.int .i64 0,.int .i64 0,.int .i64 0,.int .i64 0,.int .i64 0,.int .i64 0,.int .i64 0,.int .i64 0,.int .i64 0,.int .i64 0,.int .i64 0] w2 fun w3=>ck ((0:Int)≤0∧0<((8:Nat):Int)) (pV (Addr.add (Addr.add ⟨b_1,0,none⟩ 8) (Int.toNat 0*1)) (.int .i64 1) w3 fun w4=>gAgg ⟨b_1,0,none⟩ 16 w4 fun x_1=>bnd (C Q6 [.agg ⟨x_1⟩] w4) fun r_1 w5=>aStr r_1 fun x_2=>pCells (some (J0 b)) (A0 (List.take (min (ByteArray.size x_2) (ByteArray.size x)) (ByteArray.data x_2).toList)) w5 fun w6=>ckB (fitsOpen (some (J0 b)) A3 w6) (ck ((0:Int)≤192∧192≤((ByteArray.size x:Nat):Int)) (bnd (C A10 [.agg ⟨[.int .i64 3,.int .i64 0,.int .i64 1,.int .i64 0]⟩] w6) fun r_2 w7=>aStr r_2 fun x_3=>ckB (fitsOpen (some (J0 b)) A3 w7) (ck ((0:Int)≤192∧192≤((ByteArray.size x:Nat):Int)) (same (.slice (H4 (some (J0 b)) (decide (Int.toNat 192<ByteArray.size x)) ((Int.toNat 192)*1)) ((ByteArray.size x)-(Int.toNat 192)) ((ByteArray.size x)-(Int.toNat 192))) (.slice (H4 (some (J0 b)) (decide (Int.toNat 192<ByteArray.size x)) ((Int.toNat 192)*1)) ((ByteArray.size x)-(Int.toNat 192)) ((ByteArray.size x)-(Int.toNat 192))) (pCells (H4 (some (J0 b)) (decide (Int.toNat 192<ByteArray.size x)) ((Int.toNat 192)*1)) (A0 (List.take (min (ByteArray.size x_3) ((ByteArray.size x)-(Int.toNat 192))) (ByteArray.data x_3).toList)) w7 fun w8=>some (.slice (some (J0 b)) (ByteArray.size x) (ByteArray.size x),w8)))))))):=by kernel_rfl
def Db9:Cuts:={ globs:=0,loops:=[],regs:=[],plans:=[] }
def Ee2:List Item:=A5 Tryz.f14
theorem Gr4 (C:A1) (R:A2)  (h:H) :
 A4 PR Db9 C R Bp5 Tryz.f14 100000 true Ee2 [] h =
 bnd (C A90 [] h) fun r w=>aSl r fun x xn xc=>bnd (C Ad5 [.slice x xn xc] w) fun r_1 w1=>as4 r_1 fun r_2 r_3 r_4 r_5=>aPtr r_2 fun _=>aPtr r_3 fun x_2=>aPtr r_4 fun _=>aPtr r_5 fun _=>cond x_2.isNone
 (some (.bool false,w1))
 (bnd (C Ai1 [.pointer x_2,.int .i64 0] w1) fun r_6 w2=>aAgg r_6 fun x_5=>nw (.cells Q5 false [.int .i64 0,.int .i64 0,.slice none 0 0,.bool false]) w2 fun b w3=>ck (List.length x_5=4) (pAgg ⟨b,0,none⟩ x_5 w3 fun w4=>bnd (C Bn3 [.pointer x_2,.int .i64 0] w4) fun r_7 w5=>aAgg r_7 fun x_6=>nw (.cells Q5 false [.int .i64 0,.int .i64 0,.slice none 0 0,.bool false]) w5 fun b_1 w6=>ck (List.length x_6=4) (pAgg ⟨b_1,0,none⟩ x_6 w6 fun w7=>bnd (C Ai1 [.pointer x_2,.int .i64 0] w7) fun r_8 w8=>aAgg r_8 fun x_7=>nw (.cells Q5 false [.int .i64 0,.int .i64 0,.slice none 0 0,.bool false]) w8 fun b_2 w9=>ck (List.length x_7=4) (pAgg ⟨b_2,0,none⟩ x_7 w9 fun w10=>bnd (C Ap3 [.pointer x_2,.int .i64 1] w10) fun r_9 w11=>as2 r_9 fun r_10 r_11=>aAgg r_10 fun x_8=>aInt .i64 r_11 fun x_9=>nw (.cells B0 false [.int .i64 0,.int .i64 0,.int .i64 0,.int .i64 0,.int .i64 0,.int .i64 0,.int .i64 0,.int .i64 0,.int .i64 0,.int .i64 0,.int .i64 0,.int .i64 0,.int .i64 0,.int .i64 0,.int .i64 0,.int .i64 0]) w11 fun b_3 w12=>ck (List.length x_8=16) (pAgg ⟨b_3,0,none⟩ x_8 w12 fun w13=>gInt .i64 (Addr.add ⟨b,0,none⟩ 1) w13 fun x_10=>bnd (cond (x_10==110) (gInt .i64 (Addr.add ⟨b_1,0,none⟩ 1) w13 fun x_11=>some (x_11==0,w13)) (some (false,w13))) fun c w14=>bnd (cond c (gInt .i64 (Addr.add ⟨b_1,0,none⟩ 0) w14 fun x_12=>some (x_12==1,w14)) (some (false,w14))) fun c_1 w15=>bnd (cond c_1 (gBool (Addr.add ⟨b_2,0,none⟩ 3) w15 fun x_13=>some (x_13,w15)) (some (false,w15))) fun c_2 w16=>bnd (cond c_2 (some (x_9==0,w16)) (some (false,w16))) fun c_3 w17=>bnd (cond c_3 (gInt .i64 (Addr.add ⟨b_3,0,none⟩ 1) w17 fun x_14=>some (x_14==1,w17)) (some (false,w17))) fun c_4 w18=>bnd (cond c_4 (ck ((0:Int)≤0∧0<((8:Nat):Int)) (gInt .i64 (Addr.add (Addr.add ⟨b_3,0,none⟩ 8) (Int.toNat 0*1)) w18 fun x_15=>some (x_15==1,w18))) (some (false,w18))) fun c_5 w19=>some (.bool c_5,w19)))))):=by kernel_rfl
def B45:Cuts:={ globs:=0,loops:=[],regs:=[],plans:=[(7,⟨[0,1,2,3,4,5,6,7,8,9,10,11,12,13,14,15,16],[0,1,3,7,0,0,32,0,128,0,512,2047,4095,8191,8191,16383,65535],[],[]⟩),(9,⟨[0,1,2,3,4,5,6,7,8,9,10,11,12,13],[0,1,3,7,0,0,32,0,128,0,512,1536,4095,8191],[],[]⟩),(11,⟨[0,1,2,3,4,5,6,7,8,9,10,11,12,13,14,15,16],[0,1,3,7,0,0,32,0,128,0,512,0,2048,0,8192,32767,65535],[],[]⟩),(13,⟨[0,1,2,3,4,5,6,7,8,9,10,11,12,13,14,15,16,17,18,19,20,21,22,23],[0,1,3,7,15,31,63,0,0,256,0,1024,0,4096,0,16384,0,65536,262143,524287,1048575,1048575,2097151,8388607],[],[]⟩),(15,⟨[0,1,2,3,4,5,6,7,8,9,10,11,12,13,14,15],[0,1,3,7,15,31,63,0,0,256,1023,2047,4095,4095,8191,32767],[],[]⟩),(17,⟨[0,1,2,3,4,5,6,7,8,9,10,11,12,13,14,15,16,17],[0,1,3,7,0,16,48,112,240,0,1008,2032,4095,8191,16383,16383,32767,131071],[],[]⟩),(19,⟨[0,1,2,3,4,5,6,7,8,9,10,11,12,13,14,15],[0,1,3,7,0,16,48,112,240,0,1008,2032,0,4096,16383,32767],[],[]⟩),(23,⟨[0,1,2,3,4,5,6,7,8,9,10,11,12,13,14,15,16,17],[0,1,3,7,0,16,63,127,0,0,512,1536,3584,8191,16383,32767,32767,65535],[],[]⟩),(27,⟨[0,1,2,3,4,5,6,7,8,9,10,11,12,13,14,15,16,17,18],[0,0,0,4,15,31,63,127,255,511,63,1087,4095,8191,63,63,32831,131071,262143],[],[]⟩)] }
def D09:List Item:=A5 Tryz.f37
theorem Gi3 (C:A1) (R:A2) (k:Option Addr) (e:Int) (c:List Value) (h:H) :
 A4 PR B45 C R Aq7 Tryz.f37 100000 true D09 [(0,.pointer k),(1,.int .i64 e),(2,.agg ⟨c⟩)] h =
 nw (.cells Aw9 false c) h fun b w=>bnd (cond (decide (e<0)) (some (true,w)) (aSome k fun p=>gSl (Addr.add (Addr.add p 0) 1) w fun _ xn _=>some (decide (e≥((xn:Nat):Int)),w))) fun c_1 w1=>cond c_1
 (some (.tuple ⟨[.int .i64 1,.int .i64 0,.string (ByteArray.mk ⟨[]⟩)]⟩,w1))
 (gInt .i64 (Addr.add ⟨b,0,none⟩ 0) w1 fun x_1=>cond (x_1==1)
 (aSome k fun p_1=>gPtr (Addr.add p_1 6) w1 fun x_2=>gInt .i64 (Addr.add ⟨b,0,none⟩ 1) w1 fun x_3=>gInt .i64 (Addr.add ⟨b,0,none⟩ 2) w1 fun x_4=>gInt .i64 (Addr.add ⟨b,0,none⟩ 3) w1 fun x_5=>bnd (C Ef2 [.pointer x_2,.int .i64 e,.int .i64 x_3,.int .i64 x_4,.int .i64 x_5] w1) fun r w2=>as2 r fun r_1 r_2=>aStr r_1 fun x_6=>aInt .i64 r_2 fun x_7=>some (.tuple ⟨[.int .i64 x_7,.int .i64 0,.string x_6]⟩,w2))
 (cond (x_1==2)
 (aSome k fun p_2=>gPtr (Addr.add p_2 6) w1 fun x_8=>gInt .i64 (Addr.add ⟨b,0,none⟩ 1) w1 fun x_9=>gInt .i64 (Addr.add ⟨b,0,none⟩ 2) w1 fun x_10=>gSl (Addr.add ⟨b,0,none⟩ 6) w1 fun x_11 xn_1 _=>gCells x_11 xn_1 w1 fun cs=>asBytes cs fun l=>bnd (C Al9 [.pointer x_8,.int .i64 e,.int .i64 x_9,.int .i64 x_10,.string (ByteArray.mk ⟨l⟩)] w1) fun r_3 w3=>aInt .i64 r_3 fun x_12=>some (.tuple ⟨[.int .i64 x_12,.int .i64 0,.string (ByteArray.mk ⟨[]⟩)]⟩,w3))
 (cond (x_1==3)
 (aSome k fun p_3=>gPtr (Addr.add p_3 6) w1 fun x_13=>gInt .i64 (Addr.add ⟨b,0,none⟩ 1) w1 fun x_14=>gInt .i64 (Addr.add ⟨b,0,none⟩ 2) w1 fun x_15=>gInt .i64 (Addr.add ⟨b,0,none⟩ 4) w1 fun x_16=>gInt .i64 (Addr.add ⟨b,0,none⟩ 5) w1 fun x_17=>gInt .i64 (Addr.add ⟨b,0,none⟩ 3) w1 fun x_18=>bnd (C Ef8 [.pointer x_13,.int .i64 e,.int .i64 x_14,.int .i64 x_15,.int .i64 x_16,.int .i64 x_17,.int .i64 x_18] w1) fun r_4 w4=>aInt .i64 r_4 fun x_19=>some (.tuple ⟨[.int .i64 x_19,.int .i64 0,.string (ByteArray.mk ⟨[]⟩)]⟩,w4))
 (cond (x_1==4)
 (aSome k fun p_4=>gPtr (Addr.add p_4 6) w1 fun x_20=>aSome x_20 fun p_5=>gPtr (Addr.add p_5 3) w1 fun x_21=>gInt .i64 (Addr.add ⟨b,0,none⟩ 1) w1 fun x_22=>gInt .i64 (Addr.add ⟨b,0,none⟩ 4) w1 fun x_23=>gInt .i64 (Addr.add ⟨b,0,none⟩ 5) w1 fun x_24=>gInt .i64 (Addr.add ⟨b,0,none⟩ 2) w1 fun x_25=>gInt .i64 (Addr.add ⟨b,0,none⟩ 3) w1 fun x_26=>bnd (C En2 [.pointer x_21,.int .i64 e,.int .i64 x_22,.int .i64 x_23,.int .i64 x_24,.int .i64 x_25,.int .i64 x_26] w1) fun r_5 w5=>as2 r_5 fun r_6 r_7=>aInt .i64 r_6 fun x_27=>aInt .i64 r_7 fun x_28=>some (.tuple ⟨[.int .i64 x_28,.int .i64 x_27,.string (ByteArray.mk ⟨[]⟩)]⟩,w5))
 (cond (x_1==5)
 (aSome k fun p_6=>gPtr (Addr.add p_6 6) w1 fun x_29=>aSome x_29 fun p_7=>gPtr (Addr.add p_7 3) w1 fun x_30=>gInt .i64 (Addr.add ⟨b,0,none⟩ 1) w1 fun x_31=>bnd (C Ef3 [.pointer x_30,.int .i64 e,.int .i64 x_31] w1) fun r_8 w6=>as2 r_8 fun r_9 r_10=>aInt .i64 r_9 fun x_32=>aInt .i64 r_10 fun x_33=>some (.tuple ⟨[.int .i64 x_33,.int .i64 x_32,.string (ByteArray.mk ⟨[]⟩)]⟩,w6))
 (cond (x_1==6)
 (aSome k fun p_8=>gPtr (Addr.add p_8 5) w1 fun x_34=>aSome k fun p_9=>gSl (Addr.add (Addr.add p_9 0) 1) w1 fun x_35 xn_2 _=>aSome x_35 fun p_10=>ck ((0:Int)≤e∧e<((xn_2:Nat):Int)) (gInt .i64 (Addr.add (B2 p_10) (Int.toNat e*1)) w1 fun x_36=>bnd (C Em3 [.pointer x_34,.int .i64 x_36] w1) fun r_11 w7=>as2 r_11 fun r_12 r_13=>aInt .i64 r_12 fun x_37=>aInt .i64 r_13 fun x_38=>some (.tuple ⟨[.int .i64 x_38,.int .i64 x_37,.string (ByteArray.mk ⟨[]⟩)]⟩,w7)))
 (cond (x_1==7)
 (aSome k fun p_11=>gPtr (Addr.add p_11 5) w1 fun x_39=>aSome k fun p_12=>gSl (Addr.add (Addr.add p_12 0) 1) w1 fun x_40 xn_3 _=>aSome x_40 fun p_13=>ck ((0:Int)≤e∧e<((xn_3:Nat):Int)) (gInt .i64 (Addr.add (B2 p_13) (Int.toNat e*1)) w1 fun x_41=>gInt .i64 (Addr.add ⟨b,0,none⟩ 3) w1 fun x_42=>bnd (C Ev7 [.pointer x_39,.int .i64 x_41,.int .i64 x_42] w1) fun r_14 w8=>aInt .i64 r_14 fun x_43=>some (.tuple ⟨[.int .i64 x_43,.int .i64 0,.string (ByteArray.mk ⟨[]⟩)]⟩,w8)))
 (cond (x_1==8)
 (gInt .i64 (Addr.add ⟨b,0,none⟩ 3) w1 fun x_44=>bnd (C Ds0 [.pointer k,.int .i64 e,.int .i64 x_44] w1) fun r_15 w9=>aBool r_15 fun x_45=>cond x_45
 (aSome k fun p_14=>gSl (Addr.add p_14 7) w9 fun x_46 xn_4 _=>gInt .i64 (Addr.add ⟨b,0,none⟩ 3) w9 fun x_47=>aSome x_46 fun p_15=>ck ((0:Int)≤x_47∧x_47<((xn_4:Nat):Int)) (gPtr (Addr.add (B2 p_15) (Int.toNat x_47*1)) w9 fun x_48=>aSome k fun p_16=>gInt .i64 (Addr.add p_16 8) w9 fun x_49=>bnd (C Ev2 [.pointer x_48,.int .i64 e,.int .i64 x_49] w9) fun r_16 w10=>as2 r_16 fun r_17 r_18=>aInt .i64 r_17 fun x_50=>aBool r_18 fun _=>some (.tuple ⟨[.int .i64 0,.int .i64 x_50,.string (ByteArray.mk ⟨[]⟩)]⟩,w10)))
 (some (.tuple ⟨[.int .i64 8,.int .i64 0,.string (ByteArray.mk ⟨[]⟩)]⟩,w9)))
 (cond (x_1==9)
 (gInt .i64 (Addr.add ⟨b,0,none⟩ 3) w1 fun x_52=>bnd (C Ds0 [.pointer k,.int .i64 e,.int .i64 x_52] w1) fun r_19 w11=>aBool r_19 fun x_53=>bnd (cond x_53 (aSome k fun p_17=>gSl (Addr.add p_17 7) w11 fun x_54 xn_5 _=>gInt .i64 (Addr.add ⟨b,0,none⟩ 3) w11 fun x_55=>aSome x_54 fun p_18=>ck ((0:Int)≤x_55∧x_55<((xn_5:Nat):Int)) (gPtr (Addr.add (B2 p_18) (Int.toNat x_55*1)) w11 fun x_56=>gInt .i64 (Addr.add ⟨b,0,none⟩ 2) w11 fun x_57=>bnd (C Ew0 [.pointer x_56,.int .i64 e,.int .i64 x_57] w11) fun r_20 w12=>aBool r_20 fun x_58=>some (x_58,w12))) (some (false,w11))) fun c_2 w13=>cond c_2
 (some (.tuple ⟨[.int .i64 0,.int .i64 0,.string (ByteArray.mk ⟨[]⟩)]⟩,w13))
 (some (.tuple ⟨[.int .i64 8,.int .i64 0,.string (ByteArray.mk ⟨[]⟩)]⟩,w13)))
 (cond (x_1==10)
 (aSome k fun p_19=>gInt .i64 (Addr.add p_19 8) w1 fun x_59=>some (.tuple ⟨[.int .i64 0,.int .i64 x_59,.string (ByteArray.mk ⟨[]⟩)]⟩,w1))
 (some (.tuple ⟨[.int .i64 7,.int .i64 0,.string (ByteArray.mk ⟨[]⟩)]⟩,w1)))))))))))):=by kernel_rfl
def B65:Cuts:={ globs:=0,loops:=[(2,[0,6])],regs:=[],plans:=[] }
def Dw0:List Item:=A5 Tryz.f41
def Bi2:List Item:=stk [0,1,0,0,1,4,5] Dw0
theorem G65 (C:A1) (R:A2) (c:Option Addr) (h:H) :
 A4 PR B65 C R Ap8 Tryz.f41 100000 true Dw0 [(0,.pointer c)] h =
 R Ap8 Bi2 [(0,.pointer c),(6,.int .i64 0)] h:=by kernel_rfl
theorem D33 (C:A1) (R:A2) (c:Option Addr) (x6:Int) (h:H) :
 A4 PR B65 C R Ap8 Tryz.f41 100000 true Bi2 [(0,.pointer c),(6,.int .i64 x6)] h =
 cond (decide (x6<8))
 (bnd (C G5 [.pointer c,.int .i64 x6] h) fun r w=>as2 r fun r_1 r_2=>aAgg r_1 fun x=>aInt .i64 r_2 fun x_1=>nw (.cells B0 false [.int .i64 0,.int .i64 0,.int .i64 0,.int .i64 0,.int .i64 0,.int .i64 0,.int .i64 0,.int .i64 0,.int .i64 0,.int .i64 0,.int .i64 0,.int .i64 0,.int .i64 0,.int .i64 0,.int .i64 0,.int .i64 0]) w fun b w1=>ck (List.length x=16) (pAgg ⟨b,0,none⟩ x w1 fun w2=>cond (x_1==0)
 (some (.int .i64 x6,w2))
 (R Ap8 Bi2 [(0,.pointer c),(6,.int .i64 (IntKind.wrap .i64 (x6+1)))] w2)))
 (some (.int .i64 (-1),h)):=by kernel_rfl
def Al0:Cuts:={ globs:=0,loops:=[],regs:=[],plans:=[] }
def A93:List Item:=A5 Tryz.f71
theorem Db3 (C:A1) (R:A2) (c:Option Addr) (i:Int) (h:H) :
 A4 PR Al0 C R Z4 Tryz.f71 100000 true A93 [(0,.pointer c),(1,.int .i64 i)] h =
 bnd (C Aq3 [.int .i64 i] h) fun r w=>aAgg r fun x=>bnd (C Ag0 [.pointer c,.agg ⟨x⟩] w) fun r_1 w1=>aBool r_1 fun x_1=>some (.bool x_1,w1):=by kernel_rfl
def Bx1:Cuts:={ globs:=0,loops:=[(3,[0,1,5,10])],regs:=[],plans:=[] }
def Do0:List Item:=A5 Tryz.f72
def Ax7:List Item:=stk [0,1,0,1,0,0,1,4,5] Do0
theorem Gv7 (C:A1) (R:A2) (c:Option Addr) (of:Value) (h:H) :
 A4 PR Bx1 C R U7 Tryz.f72 100000 true Do0 [(0,.pointer c),(1,of)] h =
 R U7 Ax7 [(0,.pointer c),(1,of),(5,.slice none 0 0),(10,.int .i64 0)] h:=by kernel_rfl
theorem Dt7 (C:A1) (R:A2) (c:Option Addr) (of:Value) (out:Option Addr) (outn outc:Nat) (x10:Int) (h:H) :
 A4 PR Bx1 C R U7 Tryz.f72 100000 true Ax7 [(0,.pointer c),(1,of),(5,.slice out outn outc),(10,.int .i64 x10)] h =
 cond (decide (x10<8))
 (bnd (C G5 [.pointer c,.int .i64 x10] h) fun r w=>as2 r fun r_1 r_2=>aAgg r_1 fun x=>aInt .i64 r_2 fun x_1=>nw (.cells B0 false [.int .i64 0,.int .i64 0,.int .i64 0,.int .i64 0,.int .i64 0,.int .i64 0,.int .i64 0,.int .i64 0,.int .i64 0,.int .i64 0,.int .i64 0,.int .i64 0,.int .i64 0,.int .i64 0,.int .i64 0,.int .i64 0]) w fun b w1=>ck (List.length x=16) (pAgg ⟨b,0,none⟩ x w1 fun w2=>gAgg ⟨b,0,none⟩ 16 w2 fun x_2=>ck (List.length x_2=16) (nw (.cells G4 false [.int .i64 0,.int .i64 0,.int .i64 0,.int .i64 0,.int .i64 0,.int .i64 0,.int .i64 0,.int .i64 0,.int .i64 0,.int .i64 0,.int .i64 0,.int .i64 0,.int .i64 0,.int .i64 0,.int .i64 0,.int .i64 0,.int .i64 0]) w2 fun b_1 w3=>ck (List.length (.int .i64 x10::(x_2++[]))=17) (pAgg ⟨b_1,0,none⟩ (.int .i64 x10::(x_2++[])) w3 fun w4=>bnd (cond (x_1==1) (gAgg ⟨b_1,0,none⟩ 17 w4 fun x_3=>aFn of fun g fi cp=>bnd (C g (fi++([.agg ⟨x_3⟩]++cp)) w4) fun r_3 w5=>aBool r_3 fun x_4=>some (x_4,w5)) (some (false,w4))) fun c_1 w6=>cond c_1
 (gAgg ⟨b_1,0,none⟩ 17 w6 fun x_5=>ck (List.length x_5=17) (nw (.cells G4 false (x_5++[])) w6 fun b_2 w7=>gCells (some ⟨b_2,0,none⟩) (1*17) w7 fun cs=>ckB (fitsOpen out G4 w7) (apd G4 17 out outn outc 1 cs w7 fun a an ac w8=>R U7 Ax7 [(0,.pointer c),(1,of),(5,.slice a an ac),(10,.int .i64 (IntKind.wrap .i64 (x10+1)))] w8)))
 (R U7 Ax7 [(0,.pointer c),(1,of),(5,.slice out outn outc),(10,.int .i64 (IntKind.wrap .i64 (x10+1)))] w6)))))
 (some (.slice out outn outc,h)):=by kernel_rfl
def A16:Cuts:={ globs:=0,loops:=[(3,[1,2,3,4]),(7,[1,2,3,4,5]),(13,[1,2,3,6])],regs:=[],plans:=[] }
def Bf4:List Item:=A5 Tryz.f100
def Bc0:List Item:=stk [0,1,0,1,0,0,1,4,5] Bf4
def Av3:List Item:=stk [0,1,0,1,0,0,1,4,5,6,0,1,0,4,0,1,0,0,1,4,5] Bf4
def Bd3:List Item:=stk [0,1,0,1,0,1,0,0,1,4,5] Bf4
theorem G21 (C:A1) (R:A2) (p:List Value) (h:H) :
 A4 PR A16 C R I1 Tryz.f100 100000 true Bf4 [(0,.agg ⟨p⟩)] h =
 nw (.cells Bv5 false p) h fun b w=>nw (.cells D5 false [.slice none 0 0,.slice none 0 0,.slice none 0 0,.int .i64 0,.slice none 0 0]) w fun b_1 w1=>gInt .i64 (Addr.add ⟨b,0,none⟩ 2) w1 fun x=>nw (.cells D5 false [.slice none 0 0,.slice none 0 0,.slice none 0 0,.int .i64 0,.slice none 0 0]) w1 fun b_2 w2=>pAgg ⟨b_2,0,none⟩ [.slice none 0 0,.slice none 0 0,.slice none 0 0,.int .i64 x,.slice none 0 0] w2 fun w3=>R I1 Bc0 [(1,.pointer (some ⟨b,0,none⟩)),(2,.pointer (some ⟨b_1,0,none⟩)),(3,.pointer (some ⟨b_2,0,none⟩)),(4,.int .i64 0)] w3:=by kernel_rfl
theorem Ds8 (C:A1) (R:A2) (p:Addr) (x2:Addr) (b:Addr) (s:Int) (h:H) :
 A4 PR A16 C R I1 Tryz.f100 100000 true Bc0 [(1,.pointer (some p)),(2,.pointer (some x2)),(3,.pointer (some b)),(4,.int .i64 s)] h =
 gSl (Addr.add p 0) h fun _ xn _=>cond (decide (s<((xn:Nat):Int)))
 (gSl (Addr.add b 0) h fun x_1 xn_1 xc_1=>nw (.cells B3 false [.int .i64 20]) h fun b_1 w=>gCells (some ⟨b_1,0,none⟩) (1*1) w fun cs=>ckB (fitsOpen x_1 B3 w) (apd B3 1 x_1 xn_1 xc_1 1 cs w fun a an ac w1=>pV (Addr.add b 0) (.slice a an ac) w1 fun w2=>R I1 Av3 [(1,.pointer (some p)),(2,.pointer (some x2)),(3,.pointer (some b)),(4,.int .i64 s),(5,.int .i64 0)] w2))
 (R I1 Bd3 [(1,.pointer (some p)),(2,.pointer (some x2)),(3,.pointer (some b)),(6,.int .i64 0)] h):=by kernel_rfl
theorem Dr3 (C:A1) (R:A2) (p:Addr) (x2:Addr) (b:Addr) (s:Int) (i:Int) (h:H) :
 A4 PR A16 C R I1 Tryz.f100 100000 true Av3 [(1,.pointer (some p)),(2,.pointer (some x2)),(3,.pointer (some b)),(4,.int .i64 s),(5,.int .i64 i)] h =
 cond (decide (i<9))
 (gSl (Addr.add b 1) h fun x xn xc=>nw (.cells B3 false [.int .i64 s]) h fun b_1 w=>gCells (some ⟨b_1,0,none⟩) (1*1) w fun cs=>ckB (fitsOpen x B3 w) (apd B3 1 x xn xc 1 cs w fun a an ac w1=>pV (Addr.add b 1) (.slice a an ac) w1 fun w2=>R I1 Av3 [(1,.pointer (some p)),(2,.pointer (some x2)),(3,.pointer (some b)),(4,.int .i64 s),(5,.int .i64 (IntKind.wrap .i64 (i+1)))] w2))
 (gSl (Addr.add b 2) h fun x_1 xn_1 xc_1=>nw (.cells B3 false [.int .i64 s]) h fun b_2 w3=>nw (.cells N7 false [.slice (some ⟨b_2,0,none⟩) 1 1]) w3 fun b_3 w4=>gCells (some ⟨b_3,0,none⟩) (1*1) w4 fun cs_1=>ckB (fitsOpen x_1 N7 w4) (apd N7 1 x_1 xn_1 xc_1 1 cs_1 w4 fun a_1 an_1 ac_1 w5=>pV (Addr.add b 2) (.slice a_1 an_1 ac_1) w5 fun w6=>gSl (Addr.add b 4) w6 fun x_2 xn_2 xc_2=>nw (.cells B3 false [.int .i64 s]) w6 fun b_4 w7=>nw (.cells H9 false [.int .i64 s,.int .i64 0,.int .i64 0,.int .i64 492,.slice (some ⟨b_4,0,none⟩) 1 1]) w7 fun b_5 w8=>gCells (some ⟨b_5,0,none⟩) (1*5) w8 fun cs_2=>ckB (fitsOpen x_2 H9 w8) (apd H9 5 x_2 xn_2 xc_2 1 cs_2 w8 fun a_2 an_2 ac_2 w9=>pV (Addr.add b 4) (.slice a_2 an_2 ac_2) w9 fun w10=>R I1 Bc0 [(1,.pointer (some p)),(2,.pointer (some x2)),(3,.pointer (some b)),(4,.int .i64 (IntKind.wrap .i64 (s+1)))] w10))):=by kernel_rfl
theorem Dr5 (C:A1) (R:A2) (p:Addr) (x2:Addr) (b:Addr) (i:Int) (h:H) :
 A4 PR A16 C R I1 Tryz.f100 100000 true Bd3 [(1,.pointer (some p)),(2,.pointer (some x2)),(3,.pointer (some b)),(6,.int .i64 i)] h =
 gSl (Addr.add p 1) h fun _ xn _=>cond (decide (i<((xn:Nat):Int)))
 (gSl (Addr.add p 1) h fun x_1 xn_1 _=>aSome x_1 fun p_1=>ck ((0:Int)≤i∧i<((xn_1:Nat):Int)) (gAgg (Addr.add (B2 p_1) (Int.toNat i*2)) 2 h fun x_2=>nw (.cells Bw8 false [.int .i64 0,.int .i64 0]) h fun b_1 w=>ck (List.length x_2=2) (pAgg ⟨b_1,0,none⟩ x_2 w fun w1=>gSl (Addr.add b 4) w1 fun x_3 xn_2 xc_2=>gInt .i64 (Addr.add ⟨b_1,0,none⟩ 0) w1 fun x_4=>gInt .i64 (Addr.add ⟨b_1,0,none⟩ 0) w1 fun x_5=>gInt .i64 (Addr.add ⟨b_1,0,none⟩ 1) w1 fun x_6=>nw (.cells B3 false [.int .i64 x_5,.int .i64 x_6]) w1 fun b_2 w2=>nw (.cells H9 false [.int .i64 x_4,.int .i64 (IntKind.wrap .i64 (8+i)),.int .i64 0,.int .i64 40,.slice (some ⟨b_2,0,none⟩) 2 2]) w2 fun b_3 w3=>gCells (some ⟨b_3,0,none⟩) (1*5) w3 fun cs=>ckB (fitsOpen x_3 H9 w3) (apd H9 5 x_3 xn_2 xc_2 1 cs w3 fun a an ac w4=>pV (Addr.add b 4) (.slice a an ac) w4 fun w5=>R I1 Bd3 [(1,.pointer (some p)),(2,.pointer (some x2)),(3,.pointer (some b)),(6,.int .i64 (IntKind.wrap .i64 (i+1)))] w5))))
 (gAgg b 5 h fun x_7=>ck (List.length x_7=5) (pAgg x2 x_7 h fun w6=>gAgg x2 5 w6 fun x_8=>some (.agg ⟨x_8⟩,w6))):=by kernel_rfl
def A75:Cuts:={ globs:=0,loops:=[(5,[1,4,20,21,22]),(12,[1,7,58,59,60]),(18,[7,89,90,91]),(22,[7,11,12,89,90,91,122,123,124])],regs:=[],plans:=[(9,⟨[0,1,3,5,6,7,9,10,2,4,8,11,12,13,14],[0,1,3,0,15,0,32,96,255,0,512,2047,4095,8191,16383],[(2,[6,10]),(4,[6,10]),(8,[10])],[]⟩),(10,⟨[0,1,2,3,4,5,6,7,8,9,10,11,12],[0,0,2,6,14,0,32,96,224,510,1023,2047,4095],[],[]⟩),(14,⟨[0,1,2,3,4,5,6,7,8,9,10,11],[0,0,2,6,14,0,32,96,254,511,1023,2047],[(6,[4])],[]⟩),(15,⟨[0,1,2,3,4,5,6,7,8,9,10,11,12],[0,0,2,6,14,0,32,96,224,510,1023,2047,4095],[(7,[4])],[]⟩),(20,⟨[0,1,2,3,4,5,6,7,8,9,11,12,15,16,18,19,10,13,14,17,20,21,22,23,24,25],[0,1,3,7,0,16,48,112,0,256,1008,0,2048,8176,16368,0,32768,131056,0,262144,1048575,2097151,4194303,4194303,8388607,33554431],[(10,[3,12,16,19])],[]⟩),(25,⟨[0,1,2,3,4,5,6,7,8,9],[0,1,3,7,0,0,0,64,224,511],[],[]⟩)] }
def Bj2:List Item:=A5 Tryz.f101
def Bp6:List Item:=stk [0,1,0,1,0,1,0,0,1,4,5] Bj2
def Bp9:List Item:=stk [0,1,0,1,0,1,0,1,0,1,0,1,0,0,1,4,5] Bj2
def A83:List Item:=stk [0,1,0,1,0,1,0,1,0,1,0,1,0,1,0,0,1,4,5] Bj2
def A94:List Item:=stk [0,1,0,1,0,1,0,1,0,1,0,1,0,1,0,0,1,4,5,6,0,1,0,1,0,4,0,1,0,1,0,1,4,5] Bj2
theorem Hl2 (C:A1) (R:A2) (c:List Value) (h:H) :
 A4 PR A75 C R H2 Tryz.f101 100000 true Bj2 [(0,.agg ⟨c⟩)] h =
 nw (.cells D5 false c) h fun b w=>gAgg ⟨b,0,none⟩ 5 w fun x=>bnd (C P8 [.agg ⟨x⟩] w) fun r w1=>aBool r fun x_1=>cond (!x_1)
 (some (.tuple ⟨[.pointer none,.int .i64 1]⟩,w1))
 (gSl (Addr.add ⟨b,0,none⟩ 0) w1 fun x_2 xn xc=>R H2 Bp6 [(1,.pointer (some ⟨b,0,none⟩)),(4,.int .i64 0),(20,.slice x_2 xn xc),(21,.int .i64 ((xn:Nat):Int)),(22,.int .i64 0)] w1):=by kernel_rfl
theorem Ed2 (C:A1) (R:A2) (c:Addr) (all:Int) (x20:Option Addr) (x20n x20c:Nat) (x21:Int) (x22:Int) (h:H) :
 A4 PR A75 C R H2 Tryz.f101 100000 true Bp6 [(1,.pointer (some c)),(4,.int .i64 all),(20,.slice x20 x20n x20c),(21,.int .i64 x21),(22,.int .i64 x22)] h =
 cond (decide (x22<x21))
 (aSome x20 fun p=>ck ((0:Int)≤x22∧x22<((x20n:Nat):Int)) (gInt .i64 (Addr.add (B2 p) (Int.toNat x22*1)) h fun x=>bnd (C A92 [.int .i64 x] h) fun r w=>aInt .i64 r fun x_1=>R H2 Bp6 [(1,.pointer (some c)),(4,.int .i64 (IntKind.wrap .i64 (all+x_1))),(20,.slice x20 x20n x20c),(21,.int .i64 x21),(22,.int .i64 (IntKind.wrap .i64 (x22+1)))] w))
 (gSl (Addr.add c 1) h fun x_2 xn xc=>gSl (Addr.add c 1) h fun x_3 xn_1 xc_1=>gSl (Addr.add c 0) h fun x_4 xn_2 xc_2=>bnd (C U8 [.slice x_2 xn xc] h) fun r_1 w1=>aSl r_1 fun x_5 xn_3 xc_3=>gSl (Addr.add c 1) w1 fun x_6 xn_4 xc_4=>same (.slice x_3 xn_1 xc_1) (.slice x_6 xn_4 xc_4) (gSl (Addr.add c 0) w1 fun x_7 xn_5 xc_5=>same (.slice x_4 xn_2 xc_2) (.slice x_7 xn_5 xc_5) (bnd (C Ds7 [.int .i64 all] w1) fun r_2 w2=>aPtr r_2 fun x_8=>gSl (Addr.add c 1) w2 fun x_9 xn_6 xc_6=>same (.slice x_3 xn_1 xc_1) (.slice x_9 xn_6 xc_6) (gSl (Addr.add c 0) w2 fun x_10 xn_7 xc_7=>same (.slice x_4 xn_2 xc_2) (.slice x_10 xn_7 xc_7) (bnd (C Ax8 [.int .i64 ((xn_1:Nat):Int)] w2) fun r_3 w3=>aPtr r_3 fun x_11=>gSl (Addr.add c 0) w3 fun x_12 xn_8 xc_8=>same (.slice x_4 xn_2 xc_2) (.slice x_12 xn_8 xc_8) (bnd (C Ap7 [.slice x_4 xn_2 xc_2] w3) fun r_4 w4=>aPtr r_4 fun x_13=>nw (.cells Dw2 false [.slice x_5 xn_3 xc_3,.slice none 0 0,.pointer x_8,.pointer x_11,.pointer x_13,.pointer none,.slice none 0 0,.int .i64 0]) w4 fun b w5=>gPtr (Addr.add ⟨b,0,none⟩ 2) w5 fun x_14=>gPtr (Addr.add ⟨b,0,none⟩ 3) w5 fun x_15=>bnd (C B06 [.pointer x_14,.pointer x_15] w5) fun r_5 w6=>aPtr r_5 fun x_16=>pV (Addr.add ⟨b,0,none⟩ 5) (.pointer x_16) w6 fun w7=>gSl (Addr.add c 2) w7 fun x_17 xn_9 xc_9=>R H2 Bp9 [(1,.pointer (some c)),(7,.pointer (some ⟨b,0,none⟩)),(58,.slice x_17 xn_9 xc_9),(59,.int .i64 ((xn_9:Nat):Int)),(60,.int .i64 0)] w7)))))):=by kernel_rfl
theorem Ee5 (C:A1) (R:A2) (c:Addr) (k:Addr) (x58:Option Addr) (x58n x58c:Nat) (x59:Int) (x60:Int) (h:H) :
 A4 PR A75 C R H2 Tryz.f101 100000 true Bp9 [(1,.pointer (some c)),(7,.pointer (some k)),(58,.slice x58 x58n x58c),(59,.int .i64 x59),(60,.int .i64 x60)] h =
 cond (decide (x60<x59))
 (aSome x58 fun p=>ck ((0:Int)≤x60∧x60<((x58n:Nat):Int)) (gSl (Addr.add (B2 p) (Int.toNat x60*1)) h fun x xn xc=>gSl (Addr.add k 1) h fun x_1 xn_1 xc_1=>bnd (C U8 [.slice x xn xc] h) fun r w=>aSl r fun x_2 xn_2 xc_2=>gSl (Addr.add k 1) w fun x_3 xn_3 xc_3=>same (.slice x_1 xn_1 xc_1) (.slice x_3 xn_3 xc_3) (nw (.cells N7 false [.slice x_2 xn_2 xc_2]) w fun b w1=>gCells (some ⟨b,0,none⟩) (1*1) w1 fun cs=>ckB (fitsOpen x_1 N7 w1) (apd N7 1 x_1 xn_1 xc_1 1 cs w1 fun a an ac w2=>pV (Addr.add k 1) (.slice a an ac) w2 fun w3=>gSl (Addr.add k 6) w3 fun x_4 xn_4 xc_4=>gInt .i64 (Addr.add c 3) w3 fun x_5=>bnd (C Df3 [.int .i64 x_5] w3) fun r_1 w4=>aPtr r_1 fun x_6=>gSl (Addr.add k 6) w4 fun x_7 xn_5 xc_5=>same (.slice x_4 xn_4 xc_4) (.slice x_7 xn_5 xc_5) (nw (.cells Au7 false [.pointer x_6]) w4 fun b_1 w5=>gCells (some ⟨b_1,0,none⟩) (1*1) w5 fun cs_1=>ckB (fitsOpen x_4 Au7 w5) (apd Au7 1 x_4 xn_4 xc_4 1 cs_1 w5 fun a_1 an_1 ac_1 w6=>pV (Addr.add k 6) (.slice a_1 an_1 ac_1) w6 fun w7=>R H2 Bp9 [(1,.pointer (some c)),(7,.pointer (some k)),(58,.slice x58 x58n x58c),(59,.int .i64 x59),(60,.int .i64 (IntKind.wrap .i64 (x60+1)))] w7))))))
 (gSl (Addr.add c 4) h fun x_8 xn_6 xc_6=>R H2 A83 [(7,.pointer (some k)),(89,.slice x_8 xn_6 xc_6),(90,.int .i64 ((xn_6:Nat):Int)),(91,.int .i64 0)] h):=by kernel_rfl
theorem Ee8 (C:A1) (R:A2) (k:Addr) (x89:Option Addr) (x89n x89c:Nat) (x90:Int) (x91:Int) (h:H) :
 A4 PR A75 C R H2 Tryz.f101 100000 true A83 [(7,.pointer (some k)),(89,.slice x89 x89n x89c),(90,.int .i64 x90),(91,.int .i64 x91)] h =
 cond (decide (x91<x90))
 (aSome x89 fun p=>ck ((0:Int)≤x91∧x91<((x89n:Nat):Int)) (gAgg (Addr.add (B2 p) (Int.toNat x91*5)) 5 h fun x=>nw (.cells H9 false [.int .i64 0,.int .i64 0,.int .i64 0,.int .i64 0,.slice none 0 0]) h fun b w=>ck (List.length x=5) (pAgg ⟨b,0,none⟩ x w fun w1=>gPtr (Addr.add k 5) w1 fun x_1=>gPtr (Addr.add k 4) w1 fun x_2=>gInt .i64 (Addr.add ⟨b,0,none⟩ 0) w1 fun x_3=>gInt .i64 (Addr.add ⟨b,0,none⟩ 1) w1 fun x_4=>gInt .i64 (Addr.add ⟨b,0,none⟩ 2) w1 fun x_5=>gInt .i64 (Addr.add ⟨b,0,none⟩ 3) w1 fun x_6=>bnd (C O1 [.pointer x_2,.int .i64 x_3] w1) fun r w2=>aInt .i64 r fun x_7=>gPtr (Addr.add k 5) w2 fun x_8=>same (.pointer x_1) (.pointer x_8) (gInt .i64 (Addr.add ⟨b,0,none⟩ 1) w2 fun x_9=>same (.int .i64 x_4) (.int .i64 x_9) (gInt .i64 (Addr.add ⟨b,0,none⟩ 2) w2 fun x_10=>same (.int .i64 x_5) (.int .i64 x_10) (gInt .i64 (Addr.add ⟨b,0,none⟩ 3) w2 fun x_11=>same (.int .i64 x_6) (.int .i64 x_11) (bnd (C Ao6 [.pointer x_1,.int .i64 (IntKind.wrap .i64 ((IntKind.wrap .i64 ((IntKind.wrap .i64 (x_7+x_4))*64))+x_5)),.int .i64 x_6] w2) fun r_1 w3=>as2 r_1 fun r_2 r_3=>aInt .i64 r_2 fun x_12=>aInt .i64 r_3 fun _=>gSl (Addr.add k 0) w3 fun x_14 xn xc=>R H2 A94 [(7,.pointer (some k)),(11,.pointer (some ⟨b,0,none⟩)),(12,.int .i64 x_12),(89,.slice x89 x89n x89c),(90,.int .i64 x90),(91,.int .i64 x91),(122,.slice x_14 xn xc),(123,.int .i64 ((xn:Nat):Int)),(124,.int .i64 0)] w3)))))))
 (some (.tuple ⟨[.pointer (some k),.int .i64 0]⟩,h)):=by kernel_rfl
theorem Ed9 (C:A1) (R:A2) (k:Addr) (x:Addr) (obj:Int) (x89:Option Addr) (x89n x89c:Nat) (x90:Int) (x91:Int) (x122:Option Addr) (x122n x122c:Nat) (x123:Int) (x124:Int) (h:H) :
 A4 PR A75 C R H2 Tryz.f101 100000 true A94 [(7,.pointer (some k)),(11,.pointer (some x)),(12,.int .i64 obj),(89,.slice x89 x89n x89c),(90,.int .i64 x90),(91,.int .i64 x91),(122,.slice x122 x122n x122c),(123,.int .i64 x123),(124,.int .i64 x124)] h =
 cond (decide (x124<x123))
 (aSome x122 fun p=>ck ((0:Int)≤x124∧x124<((x122n:Nat):Int)) (gInt .i64 (Addr.add (B2 p) (Int.toNat x124*1)) h fun x_1=>gSl (Addr.add x 4) h fun x_2 xn xc=>bnd (C L6 [.slice x_2 xn xc,.int .i64 x_1] h) fun r w=>aBool r fun x_3=>cond x_3
 (gPtr (Addr.add k 3) w fun x_4=>gInt .i64 (Addr.add x 3) w fun x_5=>bnd (C A61 [.pointer x_4,.int .i64 x124,.agg ⟨[.int .i64 obj,.int .i64 3,.int .i64 0,.int .i64 x_5,.int .i64 0,.int .i64 0]⟩] w) fun r_1 w1=>as2 r_1 fun r_2 r_3=>aInt .i64 r_2 fun _=>aInt .i64 r_3 fun _=>R H2 A94 [(7,.pointer (some k)),(11,.pointer (some x)),(12,.int .i64 obj),(89,.slice x89 x89n x89c),(90,.int .i64 x90),(91,.int .i64 x91),(122,.slice x122 x122n x122c),(123,.int .i64 x123),(124,.int .i64 (IntKind.wrap .i64 (x124+1)))] w1)
 (R H2 A94 [(7,.pointer (some k)),(11,.pointer (some x)),(12,.int .i64 obj),(89,.slice x89 x89n x89c),(90,.int .i64 x90),(91,.int .i64 x91),(122,.slice x122 x122n x122c),(123,.int .i64 x123),(124,.int .i64 (IntKind.wrap .i64 (x124+1)))] w)))
 (R H2 A83 [(7,.pointer (some k)),(89,.slice x89 x89n x89c),(90,.int .i64 x90),(91,.int .i64 (IntKind.wrap .i64 (x91+1)))] h):=by kernel_rfl
def A53:Cuts:={ globs:=0,loops:=[],regs:=[],plans:=[] }
def Bw7:List Item:=A5 Tryz.f108
theorem Eb2 (C:A1) (R:A2) (r:Option Addr) (e:Int) (name:Int) (atv:Int) (b:ByteArray) (h:H) :
 A4 PR A53 C R Al9 Tryz.f108 100000 true Bw7 [(0,.pointer r),(1,.int .i64 e),(2,.int .i64 name),(3,.int .i64 atv),(4,.string b)] h =
 bnd (C An6 [.pointer r,.int .i64 e,.int .i64 name,.int .i64 2,.int .i64 atv,.int .i64 ((ByteArray.size b:Nat):Int)] h) fun r_1 w=>as2 r_1 fun r_2 r_3=>aInt .i64 r_2 fun x=>aInt .i64 r_3 fun x_1=>cond (x_1 != 0)
 (some (.int .i64 x_1,w))
 (aSome r fun p=>gSl (Addr.add p 0) w fun x_2 xn xc=>ckB (fitsOpen x_2 A3 w) (ck ((0:Int)≤x∧x≤((xn:Nat):Int)) (pCells (H4 x_2 (decide (Int.toNat x<xc)) ((Int.toNat x)*1)) (A0 (List.take (min (ByteArray.size b) (xn-(Int.toNat x))) (ByteArray.data b).toList)) w fun w1=>some (.int .i64 0,w1)))):=by kernel_rfl
def Dd0:Cuts:={ globs:=0,loops:=[],regs:=[],plans:=[] }
def Ee0:List Item:=A5 Tryz.f125
theorem Gp5 (C:A1) (R:A2)  (h:H) :
 A4 PR Dd0 C R A91 Tryz.f125 100000 true Ee0 [] h =
 bnd (C Am7 [.int .i64 24,.func (.func N0) ⟨[]⟩ ⟨[]⟩,.func (.func V4) ⟨[]⟩ ⟨[]⟩] h) fun r w=>aPtr r fun x=>some (.pointer x,w):=by kernel_rfl
def Ay4:Cuts:={ globs:=0,loops:=[],regs:=[],plans:=[] }
def Bm4:List Item:=A5 Tryz.f143
theorem Dv9 (C:A1) (R:A2) (c:Option Addr) (h:H) :
 A4 PR Ay4 C R Ah8 Tryz.f143 100000 true Bm4 [(0,.pointer c)] h =
 nw (.cells L1 false [.int .i64 0,.int .i64 0,.int .i64 0,.int .i64 0,.int .u8 0,.int .u8 0,.int .u8 0,.int .u8 0,.int .u8 0,.int .u8 0,.int .u8 0,.int .u8 0,.int .u8 0,.int .u8 0,.int .u8 0,.int .u8 0,.int .u8 0,.int .u8 0,.int .u8 0,.int .u8 0,.int .u8 0,.int .u8 0,.int .u8 0,.int .u8 0,.int .u8 0,.int .u8 0,.int .u8 0,.int .u8 0,.int .u8 0,.int .u8 0,.int .u8 0,.int .u8 0,.int .u8 0,.int .u8 0,.int .u8 0,.int .u8 0]) h fun b w=>bnd (C H5 [.pointer c,.agg ⟨[.int .i64 4,.int .i64 0]⟩,.func (.func Ak5) ⟨[]⟩ ⟨[]⟩] w) fun r w1=>as2 r fun r_1 r_2=>aAgg r_1 fun x=>aInt .i64 r_2 fun x_1=>ck (List.length x=36) (pAgg ⟨b,0,none⟩ x w1 fun w2=>gAgg ⟨b,0,none⟩ 36 w2 fun x_2=>some (.tuple ⟨[.agg ⟨x_2⟩,.int .i64 x_1]⟩,w2)):=by kernel_rfl
def Au2:Cuts:={ globs:=0,loops:=[],regs:=[],plans:=[(2,⟨[0,1,2,3,4,5,6,7],[0,0,0,4,12,0,63,127],[],[]⟩)] }
def Bj7:List Item:=A5 Tryz.f148
theorem Dq7 (C:A1) (R:A2) (c:Option Addr) (r:List Value) (h:H) :
 A4 PR Au2 C R Ag0 Tryz.f148 100000 true Bj7 [(0,.pointer c),(1,.agg ⟨r⟩)] h =
 nw (.cells D3 false r) h fun b w=>gAgg ⟨b,0,none⟩ 2 w fun x=>bnd (C P1 [.pointer c,.agg ⟨x⟩] w) fun r_1 w1=>as2 r_1 fun r_2 r_3=>aAgg r_2 fun x_1=>aBool r_3 fun x_2=>nw (.cells Bd5 false [.int .i64 0,.int .i64 0,.int .i64 0]) w1 fun b_1 w2=>ck (List.length x_1=3) (pAgg ⟨b_1,0,none⟩ x_1 w2 fun w3=>gAgg ⟨b,0,none⟩ 2 w3 fun x_3=>gInt .i64 (Addr.add ⟨b_1,0,none⟩ 2) w3 fun x_4=>ck ((0:Int)≤x_4∧(x_4:Int)≤x_4∧x_4≤(A9:Int)) (nw (.cells A3 false (G8 (Int.toNat x_4) [.int .u8 0])) w3 fun b_2 w4=>bnd (C L9 [.pointer c,.agg ⟨x_3⟩,.slice (some ⟨b_2,0,none⟩) (Int.toNat x_4) (Int.toNat x_4),.bool x_2] w4) fun r_4 w5=>aBool r_4 fun x_5=>some (.bool x_5,w5))):=by kernel_rfl
def B49:Cuts:={ globs:=0,loops:=[],regs:=[],plans:=[(1,⟨[1,0,2,3,4,5,6],[0,0,3,7,7,31,63],[(0,[1])],[]⟩)] }
def D05:List Item:=A5 Tryz.f164
theorem Gg7 (C:A1) (R:A2) (f:List Value) (h:H) :
 A4 PR B49 C R A32 Tryz.f164 100000 true D05 [(0,.agg ⟨f⟩)] h =
 nw (.cells I7 false f) h fun b w=>gAgg ⟨b,0,none⟩ 4 w fun x=>bnd (C A99 [] w) fun r w1=>aPtr r fun x_1=>gAgg ⟨b,0,none⟩ 4 w1 fun x_2=>same (.agg ⟨x⟩) (.agg ⟨x_2⟩) (bnd (C U0 [.pointer x_1,.agg ⟨x⟩] w1) fun r_1 w2=>as2 r_1 fun r_2 r_3=>aSl r_2 fun x_3 xn xc=>aBool r_3 fun x_4=>some (.tuple ⟨[.slice x_3 xn xc,.bool x_4]⟩,w2)):=by kernel_rfl
def Di0:Cuts:={ globs:=0,loops:=[(3,[3,8,9])],regs:=[],plans:=[(4,⟨[0,1,2,3,4,5,6,7,8,9,10],[0,0,2,6,14,0,32,126,255,511,1023],[(5,[4])],[]⟩)] }
def Eb3:List Item:=A5 Tryz.f194
def Bp0:List Item:=stk [0,1,0,1,0,0,1,4,5] Eb3
theorem Hk0 (C:A1) (R:A2) (envs:Int) (h:H) :
 A4 PR Di0 C R Ax8 Tryz.f194 100000 true Eb3 [(0,.int .i64 envs)] h =
 nw (.cells As5 false [.slice none 0 0]) h fun b w=>R Ax8 Bp0 [(3,.pointer (some ⟨b,0,none⟩)),(8,.int .i64 (mm2 false (mm2 true envs 0) 40)),(9,.int .i64 0)] w:=by kernel_rfl
theorem Ed7 (C:A1) (R:A2) (s:Addr) (x8:Int) (x9:Int) (h:H) :
 A4 PR Di0 C R Ax8 Tryz.f194 100000 true Bp0 [(3,.pointer (some s)),(8,.int .i64 x8),(9,.int .i64 x9)] h =
 cond (decide (x9<x8))
 (gSl (Addr.add s 0) h fun x xn xc=>bnd (C O3 [.int .i64 32] h) fun r w=>aPtr r fun x_1=>gSl (Addr.add s 0) w fun x_2 xn_1 xc_1=>same (.slice x xn xc) (.slice x_2 xn_1 xc_1) (nw (.cells G0 false [.pointer x_1]) w fun b w1=>gCells (some ⟨b,0,none⟩) (1*1) w1 fun cs=>ckB (fitsOpen x G0 w1) (apd G0 1 x xn xc 1 cs w1 fun a an ac w2=>pV (Addr.add s 0) (.slice a an ac) w2 fun w3=>R Ax8 Bp0 [(3,.pointer (some s)),(8,.int .i64 x8),(9,.int .i64 (IntKind.wrap .i64 (x9+1)))] w3)))
 (some (.pointer (some s),h)):=by kernel_rfl
def Ec1:Cuts:={ globs:=0,loops:=[],regs:=[],plans:=[] }
def E57:List Item:=A5 Tryz.f197
theorem Hn6 (C:A1) (R:A2) (lease:Int) (h:H) :
 A4 PR Ec1 C R Df3 Tryz.f197 100000 true E57 [(0,.int .i64 lease)] h =
 nw (.cells Ew5 false [.int .i64 (mm2 false (mm2 true lease 1) 1000),.bool false,.int .i64 0,.int .i64 0,.int .i64 0,.slice none 0 0,.int .i64 0,.int .i64 0,.int .i64 0]) h fun b w=>some (.pointer (some ⟨b,0,none⟩),w):=by kernel_rfl
def As9:Cuts:={ globs:=0,loops:=[(3,[5,20,21,22])],regs:=[],plans:=[(2,⟨[0,1,2,3,4,5,6,7,8,9,10,11,12,13,14],[0,1,3,7,0,16,0,64,192,448,960,2032,4095,8191,0],[],[]⟩)] }
def Bb4:List Item:=A5 Tryz.f199
def Ah5:List Item:=stk [0,1,0,1,0,0,1,4,5] Bb4
theorem Ef6 (C:A1) (R:A2) (q:Option Addr) (s:Int) (h:H) :
 A4 PR As9 C R O1 Tryz.f199 100000 true Bb4 [(0,.pointer q),(1,.int .i64 s)] h =
 aSome q fun p=>gSl (Addr.add p 0) h fun x _ xc=>aSome q fun p_1=>gSl (Addr.add p_1 0) h fun _ xn_1 _=>ckB (fitsOpen x N7 h) (ck ((0:Int)≤mm2 false (mm2 true s 0) ((xn_1:Nat):Int)∧mm2 false (mm2 true s 0) ((xn_1:Nat):Int)≤((xc:Nat):Int)) (R O1 Ah5 [(5,.int .i64 0),(20,.slice (H4 x (decide (0<xc)) (0*1)) ((Int.toNat (mm2 false (mm2 true s 0) ((xn_1:Nat):Int)))-0) (xc-0)),(21,.int .i64 (((Int.toNat (mm2 false (mm2 true s 0) ((xn_1:Nat):Int)))-0:Nat):Int)),(22,.int .i64 0)] h)):=by kernel_rfl
theorem Bo4 (C:A1) (R:A2) (n:Int) (x20:Option Addr) (x20n x20c:Nat) (x21:Int) (x22:Int) (h:H) :
 A4 PR As9 C R O1 Tryz.f199 100000 true Ah5 [(5,.int .i64 n),(20,.slice x20 x20n x20c),(21,.int .i64 x21),(22,.int .i64 x22)] h =
 cond (decide (x22<x21))
 (aSome x20 fun p=>ck ((0:Int)≤x22∧x22<((x20n:Nat):Int)) (gSl (Addr.add (B2 p) (Int.toNat x22*1)) h fun _ xn _=>R O1 Ah5 [(5,.int .i64 (IntKind.wrap .i64 (n+((xn:Nat):Int)))),(20,.slice x20 x20n x20c),(21,.int .i64 x21),(22,.int .i64 (IntKind.wrap .i64 (x22+1)))] h))
 (some (.int .i64 n,h)):=by kernel_rfl
def B44:Cuts:={ globs:=0,loops:=[],regs:=[],plans:=[] }
def D32:List Item:=A5 Tryz.f204
theorem Gi1 (C:A1) (R:A2) (lease:Int) (h:H) :
 A4 PR B44 C R Bj3 Tryz.f204 100000 true D32 [(0,.int .i64 lease)] h =
 nw (.cells Ex2 false [.int .i64 (mm2 false (mm2 true lease 1) 1000),.int .i64 0,.int .i64 0,.int .i64 0,.int .i64 0,.int .i64 0,.bool false,.int .i64 0,.slice none 0 0]) h fun b w=>some (.pointer (some ⟨b,0,none⟩),w):=by kernel_rfl
def Bt4:Cuts:={ globs:=0,loops:=[],regs:=[],plans:=[] }
def Dm0:List Item:=A5 Tryz.f207
theorem E05 (C:A1) (R:A2) (s:Option Addr) (e:Int) (c:List Value) (h:H) :
 A4 PR Bt4 C R A63 Tryz.f207 100000 true Dm0 [(0,.pointer s),(1,.int .i64 e),(2,.agg ⟨c⟩)] h =
 nw (.cells O0 false c) h fun b w=>bnd (C Ah4 [.pointer s,.int .i64 e] w) fun r w1=>aBool r fun x=>bnd (cond (!x) (some (true,w1)) (gInt .i64 (Addr.add ⟨b,0,none⟩ 1) w1 fun x_1=>some (decide (x_1<0),w1))) fun c_1 w2=>bnd (cond c_1 (some (true,w2)) (gInt .i64 (Addr.add ⟨b,0,none⟩ 1) w2 fun x_2=>some (decide (x_2>7),w2))) fun c_2 w3=>bnd (cond c_2 (some (true,w3)) (gInt .i64 (Addr.add ⟨b,0,none⟩ 2) w3 fun x_3=>some (decide (x_3<0),w3))) fun c_3 w4=>bnd (cond c_3 (some (true,w4)) (gInt .i64 (Addr.add ⟨b,0,none⟩ 2) w4 fun x_4=>some (decide (x_4>65536),w4))) fun c_4 w5=>bnd (cond c_4 (some (true,w5)) (gInt .i64 (Addr.add ⟨b,0,none⟩ 3) w5 fun x_5=>some (decide (x_5<0),w5))) fun c_5 w6=>bnd (cond c_5 (some (true,w6)) (gInt .i64 (Addr.add ⟨b,0,none⟩ 3) w6 fun x_6=>some (decide (x_6>65536),w6))) fun c_6 w7=>cond c_6
 (some (.tuple ⟨[.int .i64 0,.int .i64 1]⟩,w7))
 (pAgg (Addr.add ⟨b,0,none⟩ 4) [.int .i64 0,.int .i64 0] w7 fun w8=>gAgg ⟨b,0,none⟩ 6 w8 fun x_7=>bnd (C A71 [.pointer s,.int .i64 e,.agg ⟨x_7⟩] w8) fun r_1 w9=>as2 r_1 fun r_2 r_3=>aInt .i64 r_2 fun x_8=>aInt .i64 r_3 fun x_9=>some (.tuple ⟨[.int .i64 x_8,.int .i64 x_9]⟩,w9)):=by kernel_rfl
def Bl1:Cuts:={ globs:=0,loops:=[],regs:=[],plans:=[] }
def Dd7:List Item:=A5 Tryz.f208
theorem Ew2 (C:A1) (R:A2) (k:Option Addr) (h:H) :
 A4 PR Bl1 C R Al7 Tryz.f208 100000 true Dd7 [(0,.pointer k)] h =
 aSome k fun p=>gPtr (Addr.add p 3) h fun x=>some (.pointer x,h):=by kernel_rfl
def Bs2:Cuts:={ globs:=0,loops:=[],regs:=[],plans:=[] }
def Dn5:List Item:=A5 Tryz.f210
theorem E12 (C:A1) (R:A2) (s:Option Addr) (e:Int) (h:H) :
 A4 PR Bs2 C R A68 Tryz.f210 100000 true Dn5 [(0,.pointer s),(1,.int .i64 e)] h =
 bnd (C Ah4 [.pointer s,.int .i64 e] h) fun r w=>aBool r fun x=>cond (!x)
 (some (.slice none 0 0,w))
 (aSome s fun p=>gSl (Addr.add p 0) w fun x_1 xn _=>aSome x_1 fun p_1=>ck ((0:Int)≤e∧e<((xn:Nat):Int)) (gPtr (Addr.add (B2 p_1) (Int.toNat e*1)) w fun x_2=>bnd (C P4 [.pointer x_2] w) fun r_1 w1=>aSl r_1 fun x_3 xn_1 xc_1=>some (.slice x_3 xn_1 xc_1,w1))):=by kernel_rfl
def A36:Cuts:={ globs:=0,loops:=[],regs:=[],plans:=[] }
def Bu6:List Item:=A5 Tryz.f213
theorem D31 (C:A1) (R:A2) (r:Option Addr) (env:Int) (fromv:Int) (atv:Int) (to:Int) (on:Int) (n:Int) (h:H) :
 A4 PR A36 C R Aj9 Tryz.f213 100000 true Bu6 [(0,.pointer r),(1,.int .i64 env),(2,.int .i64 fromv),(3,.int .i64 atv),(4,.int .i64 to),(5,.int .i64 on),(6,.int .i64 n)] h =
 bnd (C Aa7 [.pointer r,.int .i64 env,.int .i64 fromv,.int .i64 atv,.int .i64 n] h) fun r_1 w=>as2 r_1 fun r_2 r_3=>aSl r_2 fun x xn xc=>aInt .i64 r_3 fun x_1=>cond (x_1 != 0)
 (some (.int .i64 x_1,w))
 (bnd (C Y9 [.pointer r,.int .i64 env,.int .i64 to,.int .i64 on,.slice x xn xc] w) fun r_4 w1=>aInt .i64 r_4 fun x_2=>some (.int .i64 x_2,w1)):=by kernel_rfl
def Be9:Cuts:={ globs:=0,loops:=[],regs:=[],plans:=[] }
def Da0:List Item:=A5 Tryz.f217
theorem Ej9 (C:A1) (R:A2) (q:Option Addr) (s:Int) (k:Int) (h:H) :
 A4 PR Be9 C R Ax2 Tryz.f217 100000 true Da0 [(0,.pointer q),(1,.int .i64 s),(2,.int .i64 k)] h =
 bnd (C Ah3 [.pointer q,.int .i64 s] h) fun r w=>aBool r fun x=>cond (!x)
 (some (.int .i64 1,w))
 (bnd (C Aw0 [.pointer q,.int .i64 s,.int .i64 k] w) fun r_1 w1=>aBool r_1 fun x_1=>cond (!x_1)
 (some (.int .i64 5,w1))
 (aSome q fun p=>gSl (Addr.add p 0) w1 fun x_2 xn _=>aSome x_2 fun p_1=>ck ((0:Int)≤s∧s<((xn:Nat):Int)) (gSl (Addr.add (B2 p_1) (Int.toNat s*1)) w1 fun x_3 xn_1 _=>aSome x_3 fun p_2=>ck ((0:Int)≤k∧k<((xn_1:Nat):Int)) (pV (Addr.add (B2 p_2) (Int.toNat k*1)) (.int .i64 0) w1 fun w2=>some (.int .i64 0,w2))))):=by kernel_rfl
def Au1:Cuts:={ globs:=0,loops:=[],regs:=[],plans:=[] }
def Bk0:List Item:=A5 Tryz.f232
theorem Dq5 (C:A1) (R:A2) (c:Option Addr) (r:List Value) (h:H) :
 A4 PR Au1 C R P1 Tryz.f232 100000 true Bk0 [(0,.pointer c),(1,.agg ⟨r⟩)] h =
 nw (.cells D3 false r) h fun b w=>nw (.cells Bd5 false [.int .i64 0,.int .i64 0,.int .i64 0]) w fun b_1 w1=>gInt .i64 (Addr.add ⟨b,0,none⟩ 1) w1 fun x=>bnd (cond (decide (x<0)) (some (true,w1)) (gInt .i64 (Addr.add ⟨b,0,none⟩ 0) w1 fun x_1=>bnd (C Y5 [.pointer c,.int .i64 x_1] w1) fun r_1 w2=>aInt .i64 r_1 fun x_2=>some (decide (x≥x_2),w2))) fun c_1 w3=>cond c_1
 (pAgg ⟨b_1,0,none⟩ [.int .i64 0,.int .i64 0,.int .i64 0] w3 fun w4=>gAgg ⟨b_1,0,none⟩ 3 w4 fun x_3=>some (.tuple ⟨[.agg ⟨x_3⟩,.bool false]⟩,w4))
 (aSome c fun p=>gSl (Addr.add p 2) w3 fun x_4 xn _=>aSome x_4 fun p_1=>ck ((0:Int)≤0∧0<((xn:Nat):Int)) (gInt .i64 (Addr.add (B2 p_1) (Int.toNat 0*1)) w3 fun x_5=>gInt .i64 (Addr.add ⟨b,0,none⟩ 0) w3 fun x_6=>cond (x_6==1)
 (pAgg ⟨b_1,0,none⟩ [.int .i64 x_5,.int .i64 (IntKind.wrap .i64 (24*x)),.int .i64 24] w3 fun w5=>gAgg ⟨b_1,0,none⟩ 3 w5 fun x_7=>some (.tuple ⟨[.agg ⟨x_7⟩,.bool true]⟩,w5))
 (gInt .i64 (Addr.add ⟨b,0,none⟩ 0) w3 fun x_8=>cond (x_8==2)
 (pAgg ⟨b_1,0,none⟩ [.int .i64 x_5,.int .i64 (IntKind.wrap .i64 (192+(IntKind.wrap .i64 (8*x)))),.int .i64 8] w3 fun w6=>gAgg ⟨b_1,0,none⟩ 3 w6 fun x_9=>some (.tuple ⟨[.agg ⟨x_9⟩,.bool true]⟩,w6))
 (gInt .i64 (Addr.add ⟨b,0,none⟩ 0) w3 fun x_10=>bnd (cond (x_10==3) (some (decide (x<4),w3)) (some (false,w3))) fun c_2 w7=>cond c_2
 (pAgg ⟨b_1,0,none⟩ [.int .i64 x_5,.int .i64 (IntKind.wrap .i64 (288+(IntKind.wrap .i64 (40*x)))),.int .i64 40] w7 fun w8=>gAgg ⟨b_1,0,none⟩ 3 w8 fun x_11=>some (.tuple ⟨[.agg ⟨x_11⟩,.bool true]⟩,w8))
 (gInt .i64 (Addr.add ⟨b,0,none⟩ 0) w7 fun x_12=>cond (x_12==3)
 (aSome c fun p_2=>gSl (Addr.add p_2 2) w7 fun x_13 xn_1 _=>aSome x_13 fun p_3=>ck ((0:Int)≤IntKind.wrap .i64 ((IntKind.wrap .i64 (x-4))+1)∧IntKind.wrap .i64 ((IntKind.wrap .i64 (x-4))+1)<((xn_1:Nat):Int)) (gInt .i64 (Addr.add (B2 p_3) (Int.toNat (IntKind.wrap .i64 ((IntKind.wrap .i64 (x-4))+1))*1)) w7 fun x_14=>pAgg ⟨b_1,0,none⟩ [.int .i64 x_14,.int .i64 0,.int .i64 40] w7 fun w9=>gAgg ⟨b_1,0,none⟩ 3 w9 fun x_15=>some (.tuple ⟨[.agg ⟨x_15⟩,.bool true]⟩,w9)))
 (gInt .i64 (Addr.add ⟨b,0,none⟩ 0) w7 fun x_16=>cond (x_16==4)
 (pAgg ⟨b_1,0,none⟩ [.int .i64 x_5,.int .i64 448,.int .i64 40] w7 fun w10=>gAgg ⟨b_1,0,none⟩ 3 w10 fun x_17=>some (.tuple ⟨[.agg ⟨x_17⟩,.bool true]⟩,w10))
 (pAgg ⟨b_1,0,none⟩ [.int .i64 x_5,.int .i64 488,.int .i64 4] w7 fun w11=>gAgg ⟨b_1,0,none⟩ 3 w11 fun x_18=>some (.tuple ⟨[.agg ⟨x_18⟩,.bool true]⟩,w11)))))))):=by kernel_rfl
def By8:Cuts:={ globs:=0,loops:=[],regs:=[],plans:=[] }
def Dt6:List Item:=A5 Tryz.f234
theorem E75 (C:A1) (R:A2) (c:Int) (h:H) :
 A4 PR By8 C R Ad6 Tryz.f234 100000 true Dt6 [(0,.int .u8 c)] h =
 some (.bool (c != 0),h):=by kernel_rfl
def Dn4:Cuts:={ globs:=0,loops:=[],regs:=[],plans:=[] }
def Eh6:List Item:=A5 Tryz.f271
theorem Gv2 (C:A1) (R:A2)  (h:H) :
 A4 PR Dn4 C R Be4 Tryz.f271 100000 true Eh6 [] h =
 bnd (C Am1 [.int .i64 40,.func (.func Bi4) ⟨[]⟩ ⟨[]⟩,.func (.func Bh3) ⟨[]⟩ ⟨[]⟩] h) fun r w=>aPtr r fun x=>some (.pointer x,w):=by kernel_rfl
def A48:Cuts:={ globs:=0,loops:=[(3,[0,3,4])],regs:=[],plans:=[] }
def Br1:List Item:=A5 Tryz.f294
def Ag2:List Item:=stk [0,1,0,1,0,0,1,4,5] Br1
theorem E32 (C:A1) (R:A2) (n:Option Addr) (h:H) :
 A4 PR A48 C R P4 Tryz.f294 100000 true Br1 [(0,.pointer n)] h =
 R P4 Ag2 [(0,.pointer n),(3,.slice none 0 0),(4,.int .i64 0)] h:=by kernel_rfl
theorem B25 (C:A1) (R:A2) (n:Option Addr) (out:Option Addr) (outn outc:Nat) (i:Int) (h:H) :
 A4 PR A48 C R P4 Tryz.f294 100000 true Ag2 [(0,.pointer n),(3,.slice out outn outc),(4,.int .i64 i)] h =
 aSome n fun p=>gSl (Addr.add p 0) h fun _ xn _=>cond (decide (i<((xn:Nat):Int)))
 (aSome n fun p_1=>gSl (Addr.add p_1 0) h fun x_1 xn_1 _=>aSome x_1 fun p_2=>ck ((0:Int)≤i∧i<((xn_1:Nat):Int)) (gBool (Addr.add (Addr.add (B2 p_2) (Int.toNat i*2)) 1) h fun x_2=>cond x_2
 (aSome n fun p_3=>gSl (Addr.add p_3 0) h fun x_3 xn_2 _=>aSome x_3 fun p_4=>ck ((0:Int)≤i∧i<((xn_2:Nat):Int)) (gInt .i64 (Addr.add (Addr.add (B2 p_4) (Int.toNat i*2)) 0) h fun x_4=>nw (.cells B3 false [.int .i64 (IntKind.wrap .i64 (i+(IntKind.wrap .i64 (256*x_4))))]) h fun b w=>gCells (some ⟨b,0,none⟩) (1*1) w fun cs=>ckB (fitsOpen out B3 w) (apd B3 1 out outn outc 1 cs w fun a an ac w1=>R P4 Ag2 [(0,.pointer n),(3,.slice a an ac),(4,.int .i64 (IntKind.wrap .i64 (i+1)))] w1)))
 (R P4 Ag2 [(0,.pointer n),(3,.slice out outn outc),(4,.int .i64 (IntKind.wrap .i64 (i+1)))] h)))
 (some (.slice out outn outc,h)):=by kernel_rfl
def B00:Cuts:={ globs:=0,loops:=[],regs:=[],plans:=[] }
def Du4:List Item:=A5 Tryz.f296
theorem E61 (C:A1) (R:A2) (m:Option Addr) (atv:Int) (b:Option Addr) (bn bc:Nat) (h:H) :
 A4 PR B00 C R Bc1 Tryz.f296 100000 true Du4 [(0,.pointer m),(1,.int .i64 atv),(2,.slice b bn bc)] h =
 bnd (C Bf7 [.pointer m,.int .i64 atv,.int .i64 ((bn:Nat):Int)] h) fun r w=>aBool r fun x=>cond (!x)
 (some (.int .i64 1,w))
 (aSome m fun p=>gSl (Addr.add p 0) w fun x_1 xn xc=>ckB (fitsOpen x_1 A3 w) (ck ((0:Int)≤atv∧atv≤((xn:Nat):Int)) (gCells b (min bn (xn-(Int.toNat atv))*1) w fun cs=>pCells (H4 x_1 (decide (Int.toNat atv<xc)) ((Int.toNat atv)*1)) cs w fun w1=>some (.int .i64 0,w1)))):=by kernel_rfl
def Br6:Cuts:={ globs:=0,loops:=[],regs:=[],plans:=[] }
def Dp7:List Item:=A5 Tryz.f297
theorem E17 (C:A1) (R:A2) (s:Option Addr) (env:Int) (name:Int) (h:H) :
 A4 PR Br6 C R Ar9 Tryz.f297 100000 true Dp7 [(0,.pointer s),(1,.int .i64 env),(2,.int .i64 name)] h =
 nw (.cells O0 false [.int .i64 0,.int .i64 0,.int .i64 0,.int .i64 0,.int .i64 0,.int .i64 0]) h fun b w=>bnd (C Ac5 [.pointer s,.int .i64 env] w) fun r w1=>aBool r fun x=>cond (!x)
 (pAgg ⟨b,0,none⟩ [.int .i64 0,.int .i64 0,.int .i64 0,.int .i64 0,.int .i64 0,.int .i64 0] w1 fun w2=>gAgg ⟨b,0,none⟩ 6 w2 fun x_1=>some (.tuple ⟨[.agg ⟨x_1⟩,.int .i64 2]⟩,w2))
 (aSome s fun p=>gSl (Addr.add p 0) w1 fun x_2 xn _=>aSome x_2 fun p_1=>ck ((0:Int)≤env∧env<((xn:Nat):Int)) (gPtr (Addr.add (B2 p_1) (Int.toNat env*1)) w1 fun x_3=>bnd (C Ab3 [.pointer x_3,.int .i64 name] w1) fun r_1 w3=>as2 r_1 fun r_2 r_3=>aAgg r_2 fun x_4=>aBool r_3 fun x_5=>nw (.cells O0 false [.int .i64 0,.int .i64 0,.int .i64 0,.int .i64 0,.int .i64 0,.int .i64 0]) w3 fun b_1 w4=>ck (List.length x_4=6) (pAgg ⟨b_1,0,none⟩ x_4 w4 fun w5=>cond (!x_5)
 (pAgg ⟨b,0,none⟩ [.int .i64 0,.int .i64 0,.int .i64 0,.int .i64 0,.int .i64 0,.int .i64 0] w5 fun w6=>gAgg ⟨b,0,none⟩ 6 w6 fun x_6=>some (.tuple ⟨[.agg ⟨x_6⟩,.int .i64 2]⟩,w6))
 (gAgg ⟨b_1,0,none⟩ 6 w5 fun x_7=>ck (List.length x_7=6) (pAgg ⟨b,0,none⟩ x_7 w5 fun w7=>gAgg ⟨b,0,none⟩ 6 w7 fun x_8=>some (.tuple ⟨[.agg ⟨x_8⟩,.int .i64 0]⟩,w7)))))):=by kernel_rfl
def R0:Cuts:={ globs:=0,loops:=[(2,[0,1,7,8])],regs:=[],plans:=[] }
def Ac1:List Item:=A5 Tryz.f309
def O8:List Item:=stk [0,1,0,0,1,4,5] Ac1
theorem Bx9 (C:A1) (R:A2) (s:Option Addr) (sn sc:Nat) (f:Value) (h:H) :
 A4 PR R0 C R E4 Tryz.f309 100000 true Ac1 [(0,.slice s sn sc),(1,f)] h =
 R E4 O8 [(0,.slice s sn sc),(1,f),(7,.int .i64 ((sn:Nat):Int)),(8,.int .i64 0)] h:=by kernel_rfl
theorem Ap5 (C:A1) (R:A2) (s:Option Addr) (sn sc:Nat) (f:Value) (x7:Int) (x8:Int) (h:H) :
 A4 PR R0 C R E4 Tryz.f309 100000 true O8 [(0,.slice s sn sc),(1,f),(7,.int .i64 x7),(8,.int .i64 x8)] h =
 cond (decide (x8<x7))
 (aSome s fun p=>ck ((0:Int)≤x8∧x8<((sn:Nat):Int)) (gInt .u8 (Addr.add (B2 p) (Int.toNat x8*1)) h fun x=>aFn f fun g fi cp=>bnd (C g (fi++([.int .u8 x]++cp)) h) fun r w=>aBool r fun x_1=>cond x_1
 (some (.int .i64 x8,w))
 (R E4 O8 [(0,.slice s sn sc),(1,f),(7,.int .i64 x7),(8,.int .i64 (IntKind.wrap .i64 (x8+1)))] w)))
 (some (.int .i64 (-1),h)):=by kernel_rfl
def Dp0:Cuts:={ globs:=0,loops:=[],regs:=[],plans:=[(3,⟨[0,1,2,3,4,5,6,7,8,9,10,11,12,13,14],[0,0,3,7,15,31,0,0,128,448,960,1984,4095,8191,16383],[],[]⟩)] }
def Ej7:List Item:=A5 Tryz.f313
theorem Gx3 (C:A1) (R:A2) (b:Option Addr) (bn bc:Nat) (atv:Int) (h:H) :
 A4 PR Dp0 C R B04 Tryz.f313 100000 true Ej7 [(0,.slice b bn bc),(1,.int .i64 atv)] h =
 bnd (cond (decide (atv<0)) (some (true,h)) (some (decide (atv>(IntKind.wrap .i64 (((bn:Nat):Int)-2))),h))) fun c w=>cond c
 (some (.tuple ⟨[.int .i64 0,.bool false]⟩,w))
 (aSome b fun p=>ck ((0:Int)≤atv∧atv<((bn:Nat):Int)) (gInt .u8 (Addr.add (B2 p) (Int.toNat atv*1)) w fun x=>aSome b fun p_1=>ck ((0:Int)≤IntKind.wrap .i64 (atv+1)∧IntKind.wrap .i64 (atv+1)<((bn:Nat):Int)) (gInt .u8 (Addr.add (B2 p_1) (Int.toNat (IntKind.wrap .i64 (atv+1))*1)) w fun x_1=>some (.tuple ⟨[.int .i64 (B53 .i64 (IntKind.wrap .i64 ((IntKind.wrap .i64 (x))*2 ^ 8)) (IntKind.wrap .i64 (x_1))),.bool true]⟩,w)))):=by kernel_rfl
def Dz9:Cuts:={ globs:=0,loops:=[],regs:=[],plans:=[] }
def Ex4:List Item:=A5 Tryz.f324
theorem Hc0 (C:A1) (R:A2) (f:List Value) (b:Option Addr) (bn bc:Nat) (h:H) :
 A4 PR Dz9 C R Ap6 Tryz.f324 100000 true Ex4 [(0,.agg ⟨f⟩),(1,.slice b bn bc)] h =
 nw (.cells I7 false f) h fun b_1 w=>gAgg ⟨b_1,0,none⟩ 4 w fun x=>bnd (C Df5 [.agg ⟨x⟩] w) fun r w1=>aBool r fun x_1=>cond (!x_1)
 (some (.bool false,w1))
 (gInt .i64 (Addr.add ⟨b_1,0,none⟩ 0) w1 fun x_2=>gInt .i64 (Addr.add ⟨b_1,0,none⟩ 1) w1 fun x_3=>gInt .i64 (Addr.add ⟨b_1,0,none⟩ 2) w1 fun x_4=>gInt .i64 (Addr.add ⟨b_1,0,none⟩ 3) w1 fun x_5=>nw (.cells A3 false [.int .u8 (IntKind.wrap .u8 (x_2)),.int .u8 (IntKind.wrap .u8 (x_3)),.int .u8 (IntKind.wrap .u8 (x_4)),.int .u8 (IntKind.wrap .u8 (x_5)),.int .u8 179]) w1 fun b_2 w2=>gCells (some ⟨b_2,0,none⟩) (min 5 bn*1) w2 fun cs=>pCells b cs w2 fun w3=>ckB (fitsOpen b A3 w3) (ck ((0:Int)≤5∧5≤((bc:Nat):Int)) (bnd (C Y7 [.slice (H4 b (decide (0<bc)) (0*1)) ((Int.toNat 5)-0) (bc-0)] w3) fun r_1 w4=>aInt .u8 r_1 fun x_6=>aSome b fun p=>ck ((0:Int)≤5∧5<((bn:Nat):Int)) (pV (Addr.add (B2 p) (Int.toNat 5*1)) (.int .u8 x_6) w4 fun w5=>some (.bool true,w5))))):=by kernel_rfl
def A56:Cuts:={ globs:=0,loops:=[],regs:=[],plans:=[] }
def Bv3:List Item:=A5 Tryz.f326
theorem D75 (C:A1) (R:A2) (size:Int) (put:Value) (get:Value) (h:H) :
 A4 PR A56 C R Am1 Tryz.f326 100000 true Bv3 [(0,.int .i64 size),(1,put),(2,get)] h =
 one put (one get (nw (.cells Bm3 false [.int .i64 (mm2 false (mm2 true size 0) 64),put,get]) h fun b w=>some (.pointer (some ⟨b,0,none⟩),w))):=by kernel_rfl
def Ab1:Cuts:={ globs:=0,loops:=[(2,[0,3,11,12,13])],regs:=[],plans:=[(5,⟨[0,1,2,3,4,5,6,7,8,9,10,11,12,13,14,15,16],[0,1,3,7,0,0,32,96,224,0,0,1535,3583,7679,16383,32767,65535],[],[]⟩)] }
def An3:List Item:=A5 Tryz.f331
def V7:List Item:=stk [0,1,0,0,1,4,5] An3
theorem Dh1 (C:A1) (R:A2) (t:Option Addr) (v:List Value) (h:H) :
 A4 PR Ab1 C R H6 Tryz.f331 100000 true An3 [(0,.pointer t),(1,.agg ⟨v⟩)] h =
 nw (.cells O0 false v) h fun b w=>aSome t fun p=>gSl (Addr.add p 0) w fun x xn xc=>R H6 V7 [(0,.pointer t),(3,.pointer (some ⟨b,0,none⟩)),(11,.slice x xn xc),(12,.int .i64 ((xn:Nat):Int)),(13,.int .i64 0)] w:=by kernel_rfl
theorem A29 (C:A1) (R:A2) (t:Option Addr) (v:Addr) (x11:Option Addr) (x11n x11c:Nat) (x12:Int) (x13:Int) (h:H) :
 A4 PR Ab1 C R H6 Tryz.f331 100000 true V7 [(0,.pointer t),(3,.pointer (some v)),(11,.slice x11 x11n x11c),(12,.int .i64 x12),(13,.int .i64 x13)] h =
 cond (decide (x13<x12))
 (aSome x11 fun p=>ck ((0:Int)≤x13∧x13<((x11n:Nat):Int)) (gAgg (Addr.add (B2 p) (Int.toNat x13*8)) 8 h fun x=>nw (.cells Ak1 false [.int .i64 0,.int .i64 0,.int .i64 0,.int .i64 0,.int .i64 0,.int .i64 0,.int .i64 0,.bool false]) h fun b w=>ck (List.length x=8) (pAgg ⟨b,0,none⟩ x w fun w1=>gBool (Addr.add ⟨b,0,none⟩ 7) w1 fun x_1=>bnd (cond (!x_1) (gInt .i64 (Addr.add ⟨b,0,none⟩ 6) w1 fun x_2=>some (decide (x_2≤1000000),w1)) (some (false,w1))) fun c w2=>cond c
 (aSome t fun p_1=>gSl (Addr.add p_1 0) w2 fun x_3 xn _=>aSome t fun p_2=>gSl (Addr.add p_2 0) w2 fun x_4 xn_1 _=>gAgg v 6 w2 fun x_5=>aSome x_3 fun p_3=>ck ((0:Int)≤x13∧x13<((xn:Nat):Int)) (ck (List.length x_5=6) (pAgg (Addr.add (Addr.add (B2 p_3) (Int.toNat x13*8)) 0) x_5 w2 fun w3=>aSome x_4 fun p_4=>ck ((0:Int)≤x13∧x13<((xn_1:Nat):Int)) (pV (Addr.add (Addr.add (B2 p_4) (Int.toNat x13*8)) 7) (.bool true) w3 fun w4=>bnd (C M6 [.pointer t,.int .i64 x13] w4) fun r w5=>aInt .i64 r fun x_6=>some (.tuple ⟨[.int .i64 x_6,.bool true]⟩,w5)))))
 (R H6 V7 [(0,.pointer t),(3,.pointer (some v)),(11,.slice x11 x11n x11c),(12,.int .i64 x12),(13,.int .i64 (IntKind.wrap .i64 (x13+1)))] w2))))
 (some (.tuple ⟨[.int .i64 0,.bool false]⟩,h)):=by kernel_rfl
def Ak7:Cuts:={ globs:=0,loops:=[],regs:=[],plans:=[] }
def A88:List Item:=A5 Tryz.f332
theorem Dc0 (C:A1) (R:A2) (t:Option Addr) (i:Int) (h:H) :
 A4 PR Ak7 C R M6 Tryz.f332 100000 true A88 [(0,.pointer t),(1,.int .i64 i)] h =
 aSome t fun p=>gSl (Addr.add p 0) h fun x xn _=>aSome x fun p_1=>ck ((0:Int)≤i∧i<((xn:Nat):Int)) (gInt .i64 (Addr.add (Addr.add (B2 p_1) (Int.toNat i*8)) 6) h fun x_1=>some (.int .i64 (IntKind.wrap .i64 (i+(IntKind.wrap .i64 (256*x_1)))),h)):=by kernel_rfl
end
end Go.EQ

set_option maxRecDepth 100000
namespace Go.EQ
open Go Go.NN Go.Proofs
variable (C : A1) (R : A2)
noncomputable section
def H76:List (Nat × Cuts):=[(3,Aa3),(8,Bw3),(9,Db5),(10,Dx7),(11,Dp5),(12,B78),(13,Ay6),(14,Db9),(15,A05),(19,Dw3),(23,B77),(33,Dm1),(34,Dl3),(35,A12),(36,B64),(37,B45),(38,Dd2),(39,Bk3),(40,Dv3),(41,B65),(42,A41),(43,Dw9),(44,An2),(45,B33),(46,Dk8),(47,D88),(48,B38),(49,Bn8),(50,Aa8),(51,B61),(52,B56),(53,D65),(54,De6),(67,Q0),(68,B62),(69,Ay5),(71,Al0),(72,Bx1),(73,Db7),(74,Bl5),(80,Ay9),(82,Az2),(84,Ao1),(90,Ai3),(100,A16),(101,A75),(102,Aq4),(103,Dc9),(104,Be1),(105,Bk5),(106,Be2),(108,A53),(117,Bd8),(118,B58),(119,Au0),(120,Dj7),(121,Bs9),(122,E46),(123,Ay3),(124,Dc6),(125,Dd0),(126,Ae9),(143,Ay4),(144,At9),(145,Dk5),(146,Al2),(148,Au2),(157,Ab0),(158,B34),(159,B31),(160,Ab6),(161,B30),(162,Db8),(163,Db4),(164,B49),(165,Ac7),(190,Bg3),(191,Dc7),(192,Ar3),(193,El1),(194,Di0),(195,B66),(196,Dn0),(197,Ec1),(198,A78),(199,As9),(200,Bq0),(201,Bd0),(202,Av7),(203,Bb7),(204,B44),(205,Bf2),(206,Ds5),(207,Bt4),(208,Bl1),(209,Bd6),(210,Bs2),(211,A34),(212,Ay1),(213,A36),(214,Bf9),(216,Bb5),(217,Be9),(218,Bl7),(219,Bl4),(220,A70),(221,Br8),(222,Bs1),(223,Dc2),(224,Br4),(231,Af2),(232,Au1),(233,Y3),(234,By8),(235,A80),(236,Ba3),(237,Bl9),(247,Am4),(248,Bl6),(261,Ab9),(269,Db6),(270,Ae7),(271,Dn4),(272,Af5),(273,Af1),(274,Ae6),(276,Ej1),(283,A49),(285,B51),(286,Dj2),(287,At4),(288,B32),(289,Bf1),(290,B09),(291,Bq6),(292,Bc9),(293,W8),(294,A48),(295,Az6),(296,B00),(297,Br6),(300,Br2),(301,Bf3),(302,Bt2),(303,Q4),(304,Bk8),(305,Bq2),(306,A52),(309,R0),(310,D73),(311,Dl6),(312,B68),(313,Dp0),(314,Z5),(321,V8),(323,A69),(324,Dz9),(325,Dz6),(326,A56),(327,D86),(328,D55),(329,Dy2),(331,Ab1),(332,Ak7),(333,Ao0),(336,Ar2),(337,Bl3),(338,Dm4),(339,Dp2),(340,Ec4)]
def cutsOf:FuncId→Cuts:=Gc6 H76
noncomputable abbrev A7:A1:=NN.Call PR cutsOf
noncomputable abbrev E9:A2:=NN.Jump PR cutsOf
theorem Aa5:FnOk PR cutsOf B6 Tryz.f3 Aa3 Aj1 3:=⟨Tryz.func3,⟨_,rfl⟩,by kernel_rfl,rfl,rfl,by kernel_rfl⟩
theorem By2:FnOk PR cutsOf Ad5 Tryz.f8 Bw3 Do6 1:=⟨Tryz.func8,⟨_,rfl⟩,by kernel_rfl,rfl,rfl,by kernel_rfl⟩
theorem Gp2:FnOk PR cutsOf A90 Tryz.f9 Db5 Ec8 0:=⟨Tryz.func9,⟨_,rfl⟩,by kernel_rfl,rfl,rfl,by kernel_rfl⟩
theorem Hd9:FnOk PR cutsOf Bn3 Tryz.f10 Dx7 Ey0 2:=⟨Tryz.func10,⟨_,rfl⟩,by kernel_rfl,rfl,rfl,by kernel_rfl⟩
theorem Gy6:FnOk PR cutsOf Bz1 Tryz.f11 Dp5 Ek6 4:=⟨Tryz.func11,⟨_,rfl⟩,by kernel_rfl,rfl,rfl,by kernel_rfl⟩
theorem Dy7:FnOk PR cutsOf Ap9 Tryz.f12 B78 Dz0 4:=⟨Tryz.func12,⟨_,rfl⟩,by kernel_rfl,rfl,rfl,by kernel_rfl⟩
theorem Dx5:FnOk PR cutsOf G5 Tryz.f13 Ay6 Bn1 2:=⟨Tryz.func13,⟨_,rfl⟩,by kernel_rfl,rfl,rfl,by kernel_rfl⟩
theorem Gr5:FnOk PR cutsOf Bp5 Tryz.f14 Db9 Ee2 0:=⟨Tryz.func14,⟨_,rfl⟩,by kernel_rfl,rfl,rfl,by kernel_rfl⟩
theorem Bk7:FnOk PR cutsOf Q6 Tryz.f15 A05 Bl2 1:=⟨Tryz.func15,⟨_,rfl⟩,by kernel_rfl,rfl,rfl,by kernel_rfl⟩
theorem G83:FnOk PR cutsOf Ap3 Tryz.f19 Dw3 Ex1 2:=⟨Tryz.func19,⟨_,rfl⟩,by kernel_rfl,rfl,rfl,by kernel_rfl⟩
theorem Dv6:FnOk PR cutsOf Ai1 Tryz.f23 B77 Dy3 2:=⟨Tryz.func23,⟨_,rfl⟩,by kernel_rfl,rfl,rfl,by kernel_rfl⟩
theorem G49:FnOk PR cutsOf Bg5 Tryz.f33 Dm1 Ek5 1:=⟨Tryz.func33,⟨_,rfl⟩,by kernel_rfl,rfl,rfl,by kernel_rfl⟩
theorem G38:FnOk PR cutsOf Bv8 Tryz.f34 Dl3 Ei9 0:=⟨Tryz.func34,⟨_,rfl⟩,by kernel_rfl,rfl,rfl,by kernel_rfl⟩
theorem Bk9:FnOk PR cutsOf O4 Tryz.f35 A12 Bk4 1:=⟨Tryz.func35,⟨_,rfl⟩,by kernel_rfl,rfl,rfl,by kernel_rfl⟩
theorem Gd7:FnOk PR cutsOf Q1 Tryz.f36 B64 D24 3:=⟨Tryz.func36,⟨_,rfl⟩,by kernel_rfl,rfl,rfl,by kernel_rfl⟩
theorem Gg5:FnOk PR cutsOf Aq7 Tryz.f37 B45 D09 3:=⟨Tryz.func37,⟨_,rfl⟩,by kernel_rfl,rfl,rfl,by kernel_rfl⟩
theorem Gr8:FnOk PR cutsOf A95 Tryz.f38 Dd2 Ee7 0:=⟨Tryz.func38,⟨_,rfl⟩,by kernel_rfl,rfl,rfl,by kernel_rfl⟩
theorem Eu2:FnOk PR cutsOf A10 Tryz.f39 Bk3 Dd6 1:=⟨Tryz.func39,⟨_,rfl⟩,by kernel_rfl,rfl,rfl,by kernel_rfl⟩
theorem Hb7:FnOk PR cutsOf J6 Tryz.f40 Dv3 Ez2 1:=⟨Tryz.func40,⟨_,rfl⟩,by kernel_rfl,rfl,rfl,by kernel_rfl⟩
theorem Dw1:FnOk PR cutsOf Ap8 Tryz.f41 B65 Dw0 1:=⟨Tryz.func41,⟨_,rfl⟩,by kernel_rfl,rfl,rfl,by kernel_rfl⟩
theorem Ar1:FnOk PR cutsOf E7 Tryz.f42 A41 Bg4 2:=⟨Tryz.func42,⟨_,rfl⟩,by kernel_rfl,rfl,rfl,by kernel_rfl⟩
theorem Hb6:FnOk PR cutsOf Ba6 Tryz.f43 Dw9 Ew4 2:=⟨Tryz.func43,⟨_,rfl⟩,by kernel_rfl,rfl,rfl,by kernel_rfl⟩
theorem Dh9:FnOk PR cutsOf N6 Tryz.f44 An2 Bc5 3:=⟨Tryz.func44,⟨_,rfl⟩,by kernel_rfl,rfl,rfl,by kernel_rfl⟩
theorem Gj0:FnOk PR cutsOf A38 Tryz.f45 B33 D20 1:=⟨Tryz.func45,⟨_,rfl⟩,by kernel_rfl,rfl,rfl,by kernel_rfl⟩
theorem G16:FnOk PR cutsOf Bw1 Tryz.f46 Dk8 Eg7 3:=⟨Tryz.func46,⟨_,rfl⟩,by kernel_rfl,rfl,rfl,by kernel_rfl⟩
theorem Hi7:FnOk PR cutsOf Dg1 Tryz.f47 D88 E69 2:=⟨Tryz.func47,⟨_,rfl⟩,by kernel_rfl,rfl,rfl,by kernel_rfl⟩
theorem Gf0:FnOk PR cutsOf Bj0 Tryz.f48 B38 D38 2:=⟨Tryz.func48,⟨_,rfl⟩,by kernel_rfl,rfl,rfl,by kernel_rfl⟩
theorem Dv1:FnOk PR cutsOf Q3 Tryz.f49 Bn8 B79 2:=⟨Tryz.func49,⟨_,rfl⟩,by kernel_rfl,rfl,rfl,by kernel_rfl⟩
theorem Am2:FnOk PR cutsOf I8 Tryz.f50 Aa8 Am6 3:=⟨Tryz.func50,⟨_,rfl⟩,by kernel_rfl,rfl,rfl,by kernel_rfl⟩
theorem Gi6:FnOk PR cutsOf Aq3 Tryz.f51 B61 D07 1:=⟨Tryz.func51,⟨_,rfl⟩,by kernel_rfl,rfl,rfl,by kernel_rfl⟩
theorem Gf1:FnOk PR cutsOf Aq1 Tryz.f52 B56 D29 1:=⟨Tryz.func52,⟨_,rfl⟩,by kernel_rfl,rfl,rfl,by kernel_rfl⟩
theorem Hm2:FnOk PR cutsOf A55 Tryz.f53 D65 Gc3 1:=⟨Tryz.func53,⟨_,rfl⟩,by kernel_rfl,rfl,rfl,by kernel_rfl⟩
theorem D53:FnOk PR cutsOf Ad3 Tryz.f54 De6 D71 1:=⟨Tryz.func54,⟨_,rfl⟩,by kernel_rfl,rfl,rfl,by kernel_rfl⟩
theorem N4:FnOk PR cutsOf B9 Tryz.f67 Q0 Y6 1:=⟨Tryz.func67,⟨_,rfl⟩,by kernel_rfl,rfl,rfl,by kernel_rfl⟩
theorem Ge5:FnOk PR cutsOf Bj4 Tryz.f68 B62 D28 3:=⟨Tryz.func68,⟨_,rfl⟩,by kernel_rfl,rfl,rfl,by kernel_rfl⟩
theorem Dx2:FnOk PR cutsOf Y5 Tryz.f69 Ay5 Bo2 2:=⟨Tryz.func69,⟨_,rfl⟩,by kernel_rfl,rfl,rfl,by kernel_rfl⟩
theorem Dc3:FnOk PR cutsOf Z4 Tryz.f71 Al0 A93 2:=⟨Tryz.func71,⟨_,rfl⟩,by kernel_rfl,rfl,rfl,by kernel_rfl⟩
theorem Dp3:FnOk PR cutsOf U7 Tryz.f72 Bx1 Do0 2:=⟨Tryz.func72,⟨_,rfl⟩,by kernel_rfl,rfl,rfl,by kernel_rfl⟩
theorem Gr2:FnOk PR cutsOf A87 Tryz.f73 Db7 Ee6 2:=⟨Tryz.func73,⟨_,rfl⟩,by kernel_rfl,rfl,rfl,by kernel_rfl⟩
theorem Eu9:FnOk PR cutsOf Ad9 Tryz.f74 Bl5 Dd8 1:=⟨Tryz.func74,⟨_,rfl⟩,by kernel_rfl,rfl,rfl,by kernel_rfl⟩
theorem Dy0:FnOk PR cutsOf Q2 Tryz.f80 Ay9 Bl8 2:=⟨Tryz.func80,⟨_,rfl⟩,by kernel_rfl,rfl,rfl,by kernel_rfl⟩
theorem Dx1:FnOk PR cutsOf Ah6 Tryz.f82 Az2 Bo0 2:=⟨Tryz.func82,⟨_,rfl⟩,by kernel_rfl,rfl,rfl,by kernel_rfl⟩
theorem Dh5:FnOk PR cutsOf Ab2 Tryz.f84 Ao1 Bc8 3:=⟨Tryz.func84,⟨_,rfl⟩,by kernel_rfl,rfl,rfl,by kernel_rfl⟩
theorem B81:FnOk PR cutsOf L6 Tryz.f90 Ai3 A46 2:=⟨Tryz.func90,⟨_,rfl⟩,by kernel_rfl,rfl,rfl,by kernel_rfl⟩
theorem As2:FnOk PR cutsOf I1 Tryz.f100 A16 Bf4 1:=⟨Tryz.func100,⟨_,rfl⟩,by kernel_rfl,rfl,rfl,by kernel_rfl⟩
theorem Ao5:FnOk PR cutsOf H2 Tryz.f101 A75 Bj2 1:=⟨Tryz.func101,⟨_,rfl⟩,by kernel_rfl,rfl,rfl,by kernel_rfl⟩
theorem Ag8:FnOk PR cutsOf E5 Tryz.f102 Aq4 A31 1:=⟨Tryz.func102,⟨_,rfl⟩,by kernel_rfl,rfl,rfl,by kernel_rfl⟩
theorem Gp7:FnOk PR cutsOf Bo5 Tryz.f103 Dc9 Ed8 2:=⟨Tryz.func103,⟨_,rfl⟩,by kernel_rfl,rfl,rfl,by kernel_rfl⟩
theorem Eg8:FnOk PR cutsOf Ax6 Tryz.f104 Be1 Da2 2:=⟨Tryz.func104,⟨_,rfl⟩,by kernel_rfl,rfl,rfl,by kernel_rfl⟩
theorem Ev8:FnOk PR cutsOf A09 Tryz.f105 Bk5 De0 3:=⟨Tryz.func105,⟨_,rfl⟩,by kernel_rfl,rfl,rfl,by kernel_rfl⟩
theorem Ei8:FnOk PR cutsOf Av6 Tryz.f106 Be2 Da1 3:=⟨Tryz.func106,⟨_,rfl⟩,by kernel_rfl,rfl,rfl,by kernel_rfl⟩
theorem D70:FnOk PR cutsOf Al9 Tryz.f108 A53 Bw7 5:=⟨Tryz.func108,⟨_,rfl⟩,by kernel_rfl,rfl,rfl,by kernel_rfl⟩
theorem Eh7:FnOk PR cutsOf Av5 Tryz.f117 Bd8 B98 1:=⟨Tryz.func117,⟨_,rfl⟩,by kernel_rfl,rfl,rfl,by kernel_rfl⟩
theorem Gd9:FnOk PR cutsOf A35 Tryz.f118 B58 D30 1:=⟨Tryz.func118,⟨_,rfl⟩,by kernel_rfl,rfl,rfl,by kernel_rfl⟩
theorem Dq0:FnOk PR cutsOf L9 Tryz.f119 Au0 Bj9 4:=⟨Tryz.func119,⟨_,rfl⟩,by kernel_rfl,rfl,rfl,by kernel_rfl⟩
theorem Gz5:FnOk PR cutsOf Bg9 Tryz.f120 Dj7 El6 2:=⟨Tryz.func120,⟨_,rfl⟩,by kernel_rfl,rfl,rfl,by kernel_rfl⟩
theorem E18:FnOk PR cutsOf Ar8 Tryz.f121 Bs9 Dn8 2:=⟨Tryz.func121,⟨_,rfl⟩,by kernel_rfl,rfl,rfl,by kernel_rfl⟩
theorem H51:FnOk PR cutsOf D99 Tryz.f122 E46 G30 1:=⟨Tryz.func122,⟨_,rfl⟩,by kernel_rfl,rfl,rfl,by kernel_rfl⟩
theorem Dz2:FnOk PR cutsOf N1 Tryz.f123 Ay3 Bo3 2:=⟨Tryz.func123,⟨_,rfl⟩,by kernel_rfl,rfl,rfl,by kernel_rfl⟩
theorem Gp6:FnOk PR cutsOf Ak8 Tryz.f124 Dc6 Ed6 1:=⟨Tryz.func124,⟨_,rfl⟩,by kernel_rfl,rfl,rfl,by kernel_rfl⟩
theorem Gp4:FnOk PR cutsOf A91 Tryz.f125 Dd0 Ee0 0:=⟨Tryz.func125,⟨_,rfl⟩,by kernel_rfl,rfl,rfl,by kernel_rfl⟩
theorem B18:FnOk PR cutsOf U3 Tryz.f126 Ae9 Az9 2:=⟨Tryz.func126,⟨_,rfl⟩,by kernel_rfl,rfl,rfl,by kernel_rfl⟩
theorem Dw6:FnOk PR cutsOf Ah8 Tryz.f143 Ay4 Bm4 1:=⟨Tryz.func143,⟨_,rfl⟩,by kernel_rfl,rfl,rfl,by kernel_rfl⟩
theorem Dq6:FnOk PR cutsOf Af9 Tryz.f144 At9 Bk1 1:=⟨Tryz.func144,⟨_,rfl⟩,by kernel_rfl,rfl,rfl,by kernel_rfl⟩
theorem G52:FnOk PR cutsOf Bf7 Tryz.f145 Dk5 Ep5 3:=⟨Tryz.func145,⟨_,rfl⟩,by kernel_rfl,rfl,rfl,by kernel_rfl⟩
theorem A89:FnOk PR cutsOf E8 Tryz.f146 Al2 A86 1:=⟨Tryz.func146,⟨_,rfl⟩,by kernel_rfl,rfl,rfl,by kernel_rfl⟩
theorem Dq3:FnOk PR cutsOf Ag0 Tryz.f148 Au2 Bj7 2:=⟨Tryz.func148,⟨_,rfl⟩,by kernel_rfl,rfl,rfl,by kernel_rfl⟩
theorem An8:FnOk PR cutsOf I6 Tryz.f157 Ab0 Am5 3:=⟨Tryz.func157,⟨_,rfl⟩,by kernel_rfl,rfl,rfl,by kernel_rfl⟩
theorem Ge0:FnOk PR cutsOf A37 Tryz.f158 B34 D36 1:=⟨Tryz.func158,⟨_,rfl⟩,by kernel_rfl,rfl,rfl,by kernel_rfl⟩
theorem Gi8:FnOk PR cutsOf Aq8 Tryz.f159 B31 D21 1:=⟨Tryz.func159,⟨_,rfl⟩,by kernel_rfl,rfl,rfl,by kernel_rfl⟩
theorem An0:FnOk PR cutsOf H5 Tryz.f160 Ab6 An4 3:=⟨Tryz.func160,⟨_,rfl⟩,by kernel_rfl,rfl,rfl,by kernel_rfl⟩
theorem Ge4:FnOk PR cutsOf Bh4 Tryz.f161 B30 D04 1:=⟨Tryz.func161,⟨_,rfl⟩,by kernel_rfl,rfl,rfl,by kernel_rfl⟩
theorem Gr3:FnOk PR cutsOf Ak5 Tryz.f162 Db8 Ee1 1:=⟨Tryz.func162,⟨_,rfl⟩,by kernel_rfl,rfl,rfl,by kernel_rfl⟩
theorem Gp1:FnOk PR cutsOf Bp7 Tryz.f163 Db4 Ee9 1:=⟨Tryz.func163,⟨_,rfl⟩,by kernel_rfl,rfl,rfl,by kernel_rfl⟩
theorem Gh6:FnOk PR cutsOf A32 Tryz.f164 B49 D05 1:=⟨Tryz.func164,⟨_,rfl⟩,by kernel_rfl,rfl,rfl,by kernel_rfl⟩
theorem Ar7:FnOk PR cutsOf G6 Tryz.f165 Ac7 Ar4 2:=⟨Tryz.func165,⟨_,rfl⟩,by kernel_rfl,rfl,rfl,by kernel_rfl⟩
theorem Bf6:FnOk PR cutsOf P8 Tryz.f190 Bg3 B03 1:=⟨Tryz.func190,⟨_,rfl⟩,by kernel_rfl,rfl,rfl,by kernel_rfl⟩
theorem Go9:FnOk PR cutsOf A92 Tryz.f191 Dc7 Ef1 1:=⟨Tryz.func191,⟨_,rfl⟩,by kernel_rfl,rfl,rfl,by kernel_rfl⟩
theorem Dk6:FnOk PR cutsOf U8 Tryz.f192 Ar3 Be7 1:=⟨Tryz.func192,⟨_,rfl⟩,by kernel_rfl,rfl,rfl,by kernel_rfl⟩
theorem Hw4:FnOk PR cutsOf Ds7 Tryz.f193 El1 Gn6 1:=⟨Tryz.func193,⟨_,rfl⟩,by kernel_rfl,rfl,rfl,by kernel_rfl⟩
theorem D81:FnOk PR cutsOf Ax8 Tryz.f194 Di0 Eb3 1:=⟨Tryz.func194,⟨_,rfl⟩,by kernel_rfl,rfl,rfl,by kernel_rfl⟩
theorem D00:FnOk PR cutsOf Ap7 Tryz.f195 B66 Dy9 1:=⟨Tryz.func195,⟨_,rfl⟩,by kernel_rfl,rfl,rfl,by kernel_rfl⟩
theorem Gw3:FnOk PR cutsOf B06 Tryz.f196 Dn0 Eh9 2:=⟨Tryz.func196,⟨_,rfl⟩,by kernel_rfl,rfl,rfl,by kernel_rfl⟩
theorem Hi1:FnOk PR cutsOf Df3 Tryz.f197 Ec1 E57 1:=⟨Tryz.func197,⟨_,rfl⟩,by kernel_rfl,rfl,rfl,by kernel_rfl⟩
theorem Ea5:FnOk PR cutsOf Ao6 Tryz.f198 A78 B01 3:=⟨Tryz.func198,⟨_,rfl⟩,by kernel_rfl,rfl,rfl,by kernel_rfl⟩
theorem Ba7:FnOk PR cutsOf O1 Tryz.f199 As9 Bb4 2:=⟨Tryz.func199,⟨_,rfl⟩,by kernel_rfl,rfl,rfl,by kernel_rfl⟩
theorem E54:FnOk PR cutsOf A61 Tryz.f200 Bq0 Dp9 3:=⟨Tryz.func200,⟨_,rfl⟩,by kernel_rfl,rfl,rfl,by kernel_rfl⟩
theorem By0:FnOk PR cutsOf Y0 Tryz.f201 Bd0 Bv9 1:=⟨Tryz.func201,⟨_,rfl⟩,by kernel_rfl,rfl,rfl,by kernel_rfl⟩
theorem Be8:FnOk PR cutsOf M8 Tryz.f202 Av7 Be3 2:=⟨Tryz.func202,⟨_,rfl⟩,by kernel_rfl,rfl,rfl,by kernel_rfl⟩
theorem Bw4:FnOk PR cutsOf Y1 Tryz.f203 Bb7 By1 1:=⟨Tryz.func203,⟨_,rfl⟩,by kernel_rfl,rfl,rfl,by kernel_rfl⟩
theorem Gh8:FnOk PR cutsOf Bj3 Tryz.f204 B44 D32 1:=⟨Tryz.func204,⟨_,rfl⟩,by kernel_rfl,rfl,rfl,by kernel_rfl⟩
theorem Ej3:FnOk PR cutsOf Aw6 Tryz.f205 Bf2 B85 3:=⟨Tryz.func205,⟨_,rfl⟩,by kernel_rfl,rfl,rfl,by kernel_rfl⟩
theorem Eq2:FnOk PR cutsOf A47 Tryz.f206 Ds5 En6 2:=⟨Tryz.func206,⟨_,rfl⟩,by kernel_rfl,rfl,rfl,by kernel_rfl⟩
theorem E23:FnOk PR cutsOf A63 Tryz.f207 Bt4 Dm0 3:=⟨Tryz.func207,⟨_,rfl⟩,by kernel_rfl,rfl,rfl,by kernel_rfl⟩
theorem Ev4:FnOk PR cutsOf Al7 Tryz.f208 Bl1 Dd7 1:=⟨Tryz.func208,⟨_,rfl⟩,by kernel_rfl,rfl,rfl,by kernel_rfl⟩
theorem Eg5:FnOk PR cutsOf Ai5 Tryz.f209 Bd6 Da3 2:=⟨Tryz.func209,⟨_,rfl⟩,by kernel_rfl,rfl,rfl,by kernel_rfl⟩
theorem E50:FnOk PR cutsOf A68 Tryz.f210 Bs2 Dn5 2:=⟨Tryz.func210,⟨_,rfl⟩,by kernel_rfl,rfl,rfl,by kernel_rfl⟩
theorem D42:FnOk PR cutsOf Aa7 Tryz.f211 A34 Bt9 5:=⟨Tryz.func211,⟨_,rfl⟩,by kernel_rfl,rfl,rfl,by kernel_rfl⟩
theorem Dz3:FnOk PR cutsOf Y9 Tryz.f212 Ay1 Bn2 5:=⟨Tryz.func212,⟨_,rfl⟩,by kernel_rfl,rfl,rfl,by kernel_rfl⟩
theorem D06:FnOk PR cutsOf Aj9 Tryz.f213 A36 Bu6 7:=⟨Tryz.func213,⟨_,rfl⟩,by kernel_rfl,rfl,rfl,by kernel_rfl⟩
theorem Eo0:FnOk PR cutsOf Av8 Tryz.f214 Bf9 B95 7:=⟨Tryz.func214,⟨_,rfl⟩,by kernel_rfl,rfl,rfl,by kernel_rfl⟩
theorem Ef9:FnOk PR cutsOf At3 Tryz.f216 Bb5 B24 2:=⟨Tryz.func216,⟨_,rfl⟩,by kernel_rfl,rfl,rfl,by kernel_rfl⟩
theorem Em1:FnOk PR cutsOf Ax2 Tryz.f217 Be9 Da0 3:=⟨Tryz.func217,⟨_,rfl⟩,by kernel_rfl,rfl,rfl,by kernel_rfl⟩
theorem Eu5:FnOk PR cutsOf A11 Tryz.f218 Bl7 Dd3 3:=⟨Tryz.func218,⟨_,rfl⟩,by kernel_rfl,rfl,rfl,by kernel_rfl⟩
theorem Eu6:FnOk PR cutsOf A07 Tryz.f219 Bl4 Dd9 3:=⟨Tryz.func219,⟨_,rfl⟩,by kernel_rfl,rfl,rfl,by kernel_rfl⟩
theorem D77:FnOk PR cutsOf An6 Tryz.f220 A70 Bx6 6:=⟨Tryz.func220,⟨_,rfl⟩,by kernel_rfl,rfl,rfl,by kernel_rfl⟩
theorem E16:FnOk PR cutsOf A57 Tryz.f221 Br8 Do9 3:=⟨Tryz.func221,⟨_,rfl⟩,by kernel_rfl,rfl,rfl,by kernel_rfl⟩
theorem E06:FnOk PR cutsOf Ah4 Tryz.f222 Bs1 Dj5 2:=⟨Tryz.func222,⟨_,rfl⟩,by kernel_rfl,rfl,rfl,by kernel_rfl⟩
theorem Gq9:FnOk PR cutsOf Ae5 Tryz.f223 Dc2 Ed5 3:=⟨Tryz.func223,⟨_,rfl⟩,by kernel_rfl,rfl,rfl,by kernel_rfl⟩
theorem Ez7:FnOk PR cutsOf A71 Tryz.f224 Br4 Dn3 3:=⟨Tryz.func224,⟨_,rfl⟩,by kernel_rfl,rfl,rfl,by kernel_rfl⟩
theorem B21:FnOk PR cutsOf S8 Tryz.f231 Af2 A02 2:=⟨Tryz.func231,⟨_,rfl⟩,by kernel_rfl,rfl,rfl,by kernel_rfl⟩
theorem Dq2:FnOk PR cutsOf P1 Tryz.f232 Au1 Bk0 2:=⟨Tryz.func232,⟨_,rfl⟩,by kernel_rfl,rfl,rfl,by kernel_rfl⟩
theorem Bm7:FnOk PR cutsOf O6 Tryz.f233 Y3 Ap0 2:=⟨Tryz.func233,⟨_,rfl⟩,by kernel_rfl,rfl,rfl,by kernel_rfl⟩
theorem Ga1:FnOk PR cutsOf Ad6 Tryz.f234 By8 Dt6 1:=⟨Tryz.func234,⟨_,rfl⟩,by kernel_rfl,rfl,rfl,by kernel_rfl⟩
theorem D50:FnOk PR cutsOf Am7 Tryz.f235 A80 Bz7 3:=⟨Tryz.func235,⟨_,rfl⟩,by kernel_rfl,rfl,rfl,by kernel_rfl⟩
theorem H0:FnOk PR cutsOf N0 Tryz.f236 Ba3 Bm1 2:=⟨Tryz.func236,⟨_,rfl⟩,by kernel_rfl,rfl,rfl,by kernel_rfl⟩
theorem N3:FnOk PR cutsOf V4 Tryz.f237 Bl9 B72 1:=⟨Tryz.func237,⟨_,rfl⟩,by kernel_rfl,rfl,rfl,by kernel_rfl⟩
theorem A54:FnOk PR cutsOf P5 Tryz.f247 Am4 A51 3:=⟨Tryz.func247,⟨_,rfl⟩,by kernel_rfl,rfl,rfl,by kernel_rfl⟩
theorem Ev9:FnOk PR cutsOf Ad8 Tryz.f248 Bl6 Dd4 1:=⟨Tryz.func248,⟨_,rfl⟩,by kernel_rfl,rfl,rfl,by kernel_rfl⟩
theorem At7:FnOk PR cutsOf E0 Tryz.f261 Ab9 At5 2:=⟨Tryz.func261,⟨_,rfl⟩,by kernel_rfl,rfl,rfl,by kernel_rfl⟩
theorem Gq6:FnOk PR cutsOf A99 Tryz.f269 Db6 Ed4 0:=⟨Tryz.func269,⟨_,rfl⟩,by kernel_rfl,rfl,rfl,by kernel_rfl⟩
theorem B19:FnOk PR cutsOf U2 Tryz.f270 Ae7 A01 2:=⟨Tryz.func270,⟨_,rfl⟩,by kernel_rfl,rfl,rfl,by kernel_rfl⟩
theorem Gy3:FnOk PR cutsOf Be4 Tryz.f271 Dn4 Eh6 0:=⟨Tryz.func271,⟨_,rfl⟩,by kernel_rfl,rfl,rfl,by kernel_rfl⟩
theorem B13:FnOk PR cutsOf S9 Tryz.f272 Af5 A00 2:=⟨Tryz.func272,⟨_,rfl⟩,by kernel_rfl,rfl,rfl,by kernel_rfl⟩
theorem B14:FnOk PR cutsOf U1 Tryz.f273 Af1 A03 2:=⟨Tryz.func273,⟨_,rfl⟩,by kernel_rfl,rfl,rfl,by kernel_rfl⟩
theorem B22:FnOk PR cutsOf U0 Tryz.f274 Ae6 Az7 2:=⟨Tryz.func274,⟨_,rfl⟩,by kernel_rfl,rfl,rfl,by kernel_rfl⟩
theorem Hy3:FnOk PR cutsOf Dt5 Tryz.f276 Ej1 Gm1 1:=⟨Tryz.func276,⟨_,rfl⟩,by kernel_rfl,rfl,rfl,by kernel_rfl⟩
theorem D97:FnOk PR cutsOf An7 Tryz.f283 A49 Bz3 1:=⟨Tryz.func283,⟨_,rfl⟩,by kernel_rfl,rfl,rfl,by kernel_rfl⟩
theorem Gf5:FnOk PR cutsOf G1 Tryz.f285 B51 D11 2:=⟨Tryz.func285,⟨_,rfl⟩,by kernel_rfl,rfl,rfl,by kernel_rfl⟩
theorem G35:FnOk PR cutsOf Bz4 Tryz.f286 Dj2 Eo9 2:=⟨Tryz.func286,⟨_,rfl⟩,by kernel_rfl,rfl,rfl,by kernel_rfl⟩
theorem Bb1:FnOk PR cutsOf O3 Tryz.f287 At4 Bb0 1:=⟨Tryz.func287,⟨_,rfl⟩,by kernel_rfl,rfl,rfl,by kernel_rfl⟩
theorem Gg0:FnOk PR cutsOf A22 Tryz.f288 B32 D16 1:=⟨Tryz.func288,⟨_,rfl⟩,by kernel_rfl,rfl,rfl,by kernel_rfl⟩
theorem En3:FnOk PR cutsOf Aj0 Tryz.f289 Bf1 Da9 1:=⟨Tryz.func289,⟨_,rfl⟩,by kernel_rfl,rfl,rfl,by kernel_rfl⟩
theorem E99:FnOk PR cutsOf Ac5 Tryz.f290 B09 Du5 2:=⟨Tryz.func290,⟨_,rfl⟩,by kernel_rfl,rfl,rfl,by kernel_rfl⟩
theorem E15:FnOk PR cutsOf As6 Tryz.f291 Bq6 Dl7 3:=⟨Tryz.func291,⟨_,rfl⟩,by kernel_rfl,rfl,rfl,by kernel_rfl⟩
theorem Bw5:FnOk PR cutsOf W6 Tryz.f292 Bc9 Bx3 1:=⟨Tryz.func292,⟨_,rfl⟩,by kernel_rfl,rfl,rfl,by kernel_rfl⟩
theorem Aj2:FnOk PR cutsOf E3 Tryz.f293 W8 Ai9 1:=⟨Tryz.func293,⟨_,rfl⟩,by kernel_rfl,rfl,rfl,by kernel_rfl⟩
theorem Bs5:FnOk PR cutsOf P4 Tryz.f294 A48 Br1 1:=⟨Tryz.func294,⟨_,rfl⟩,by kernel_rfl,rfl,rfl,by kernel_rfl⟩
theorem Dv8:FnOk PR cutsOf Y8 Tryz.f295 Az6 Bo1 6:=⟨Tryz.func295,⟨_,rfl⟩,by kernel_rfl,rfl,rfl,by kernel_rfl⟩
theorem Gb5:FnOk PR cutsOf Bc1 Tryz.f296 B00 Du4 3:=⟨Tryz.func296,⟨_,rfl⟩,by kernel_rfl,rfl,rfl,by kernel_rfl⟩
theorem E25:FnOk PR cutsOf Ar9 Tryz.f297 Br6 Dp7 3:=⟨Tryz.func297,⟨_,rfl⟩,by kernel_rfl,rfl,rfl,by kernel_rfl⟩
theorem E01:FnOk PR cutsOf Ah3 Tryz.f300 Br2 Dn6 2:=⟨Tryz.func300,⟨_,rfl⟩,by kernel_rfl,rfl,rfl,by kernel_rfl⟩
theorem Eo1:FnOk PR cutsOf Aw0 Tryz.f301 Bf3 B83 3:=⟨Tryz.func301,⟨_,rfl⟩,by kernel_rfl,rfl,rfl,by kernel_rfl⟩
theorem E43:FnOk PR cutsOf Ar0 Tryz.f302 Bt2 Dn1 3:=⟨Tryz.func302,⟨_,rfl⟩,by kernel_rfl,rfl,rfl,by kernel_rfl⟩
theorem W0:FnOk PR cutsOf B7 Tryz.f303 Q4 W3 3:=⟨Tryz.func303,⟨_,rfl⟩,by kernel_rfl,rfl,rfl,by kernel_rfl⟩
theorem Eu0:FnOk PR cutsOf A15 Tryz.f304 Bk8 De1 3:=⟨Tryz.func304,⟨_,rfl⟩,by kernel_rfl,rfl,rfl,by kernel_rfl⟩
theorem E55:FnOk PR cutsOf A77 Tryz.f305 Bq2 Dl0 2:=⟨Tryz.func305,⟨_,rfl⟩,by kernel_rfl,rfl,rfl,by kernel_rfl⟩
theorem Bq1:FnOk PR cutsOf U6 Tryz.f306 A52 Bs4 1:=⟨Tryz.func306,⟨_,rfl⟩,by kernel_rfl,rfl,rfl,by kernel_rfl⟩
theorem Ac4:FnOk PR cutsOf E4 Tryz.f309 R0 Ac1 2:=⟨Tryz.func309,⟨_,rfl⟩,by kernel_rfl,rfl,rfl,by kernel_rfl⟩
theorem Hm4:FnOk PR cutsOf Di4 Tryz.f310 D73 E83 1:=⟨Tryz.func310,⟨_,rfl⟩,by kernel_rfl,rfl,rfl,by kernel_rfl⟩
theorem Gx2:FnOk PR cutsOf Bd9 Tryz.f311 Dl6 Ek0 3:=⟨Tryz.func311,⟨_,rfl⟩,by kernel_rfl,rfl,rfl,by kernel_rfl⟩
theorem Dv7:FnOk PR cutsOf Y7 Tryz.f312 B68 Dy6 1:=⟨Tryz.func312,⟨_,rfl⟩,by kernel_rfl,rfl,rfl,by kernel_rfl⟩
theorem G20:FnOk PR cutsOf B04 Tryz.f313 Dp0 Ej7 2:=⟨Tryz.func313,⟨_,rfl⟩,by kernel_rfl,rfl,rfl,by kernel_rfl⟩
theorem Al1:FnOk PR cutsOf D0 Tryz.f314 Z5 Ak9 2:=⟨Tryz.func314,⟨_,rfl⟩,by kernel_rfl,rfl,rfl,by kernel_rfl⟩
theorem J7:FnOk PR cutsOf D2 Tryz.f321 V8 Ag6 2:=⟨Tryz.func321,⟨_,rfl⟩,by kernel_rfl,rfl,rfl,by kernel_rfl⟩
theorem Ec0:FnOk PR cutsOf Ao2 Tryz.f323 A69 Bz0 3:=⟨Tryz.func323,⟨_,rfl⟩,by kernel_rfl,rfl,rfl,by kernel_rfl⟩
theorem Ha8:FnOk PR cutsOf Ap6 Tryz.f324 Dz9 Ex4 2:=⟨Tryz.func324,⟨_,rfl⟩,by kernel_rfl,rfl,rfl,by kernel_rfl⟩
theorem Hd5:FnOk PR cutsOf Ao9 Tryz.f325 Dz6 Ex7 1:=⟨Tryz.func325,⟨_,rfl⟩,by kernel_rfl,rfl,rfl,by kernel_rfl⟩
theorem D58:FnOk PR cutsOf Am1 Tryz.f326 A56 Bv3 3:=⟨Tryz.func326,⟨_,rfl⟩,by kernel_rfl,rfl,rfl,by kernel_rfl⟩
theorem Ho1:FnOk PR cutsOf Bi4 Tryz.f327 D86 E64 2:=⟨Tryz.func327,⟨_,rfl⟩,by kernel_rfl,rfl,rfl,by kernel_rfl⟩
theorem Hm9:FnOk PR cutsOf Bh3 Tryz.f328 D55 E97 1:=⟨Tryz.func328,⟨_,rfl⟩,by kernel_rfl,rfl,rfl,by kernel_rfl⟩
theorem Ha9:FnOk PR cutsOf Aq0 Tryz.f329 Dy2 Ex8 2:=⟨Tryz.func329,⟨_,rfl⟩,by kernel_rfl,rfl,rfl,by kernel_rfl⟩
theorem Am8:FnOk PR cutsOf H6 Tryz.f331 Ab1 An3 2:=⟨Tryz.func331,⟨_,rfl⟩,by kernel_rfl,rfl,rfl,by kernel_rfl⟩
theorem Db2:FnOk PR cutsOf M6 Tryz.f332 Ak7 A88 2:=⟨Tryz.func332,⟨_,rfl⟩,by kernel_rfl,rfl,rfl,by kernel_rfl⟩
theorem Df9:FnOk PR cutsOf Ab3 Tryz.f333 Ao0 Bc6 2:=⟨Tryz.func333,⟨_,rfl⟩,by kernel_rfl,rfl,rfl,by kernel_rfl⟩
theorem Do1:FnOk PR cutsOf Ac6 Tryz.f336 Ar2 Bf0 2:=⟨Tryz.func336,⟨_,rfl⟩,by kernel_rfl,rfl,rfl,by kernel_rfl⟩
theorem Ev3:FnOk PR cutsOf A06 Tryz.f337 Bl3 Dd5 3:=⟨Tryz.func337,⟨_,rfl⟩,by kernel_rfl,rfl,rfl,by kernel_rfl⟩
theorem G54:FnOk PR cutsOf Aj3 Tryz.f338 Dm4 Ep7 2:=⟨Tryz.func338,⟨_,rfl⟩,by kernel_rfl,rfl,rfl,by kernel_rfl⟩
theorem Gs7:FnOk PR cutsOf Bg2 Tryz.f339 Dp2 Ek8 1:=⟨Tryz.func339,⟨_,rfl⟩,by kernel_rfl,rfl,rfl,by kernel_rfl⟩
theorem Hp6:FnOk PR cutsOf Df5 Tryz.f340 Ec4 Ga6 1:=⟨Tryz.func340,⟨_,rfl⟩,by kernel_rfl,rfl,rfl,by kernel_rfl⟩
end
end Go.EQ

namespace Go.EQ
open Go Go.NN Go.Proofs
theorem Hn9:type_of% Tryz.underlying3:=Tryz.underlying3
theorem If6:type_of% Tryz.underlying4:=Tryz.underlying4
theorem Hh4:type_of% Tryz.underlying22:=Tryz.underlying22
end Go.EQ
