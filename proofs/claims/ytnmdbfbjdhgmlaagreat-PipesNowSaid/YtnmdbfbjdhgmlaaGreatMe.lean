/- A file that never waits is told so where another one would block; it is so for all who have it; no conditions. -/
import Derived.Test.YtnmdbfbjdhgmlaaGreatMd
import Derived.KernelRfl
set_option linter.all false
set_option maxRecDepth 100000
namespace Go.EQ
open Go Go.NN Go.Proofs
variable (C : A1) (R : A3)
noncomputable section
def By8:Cuts:={ globs:=0,loops:=[(9,[6,7,8,9,10,11,12])],regs:=[],plans:=[] }
def Dj3:List Item:=A4 Tryz.f9
def Bd1:List Item:=stk [0,1,0,1,0,1,0,1,0,1,0,1,0,1,0,0,1,4,5] Dj3
theorem G11 (C:A1) (R:A3) (b:Option Addr) (bn bc:Nat) (h:H) :
 A5 PR By8 C R Ae8 Tryz.f9 100000 true Dj3 [(0,.slice b bn bc)] h =
 bnd (C Bu4 [] h) fun r w=>aAgg r fun x=>bnd (C Bf6 [.agg ⟨x⟩] w) fun r_1 w1=>as4 r_1 fun r_2 r_3 r_4 r_5=>aPtr r_2 fun x_1=>aPtr r_3 fun x_2=>aPtr r_4 fun x_3=>aPtr r_5 fun x_4=>bnd (cond x_2.isNone (some (true,w1)) (some (((bn:Nat):Int) != 492,w1))) fun c w2=>cond c
 (some (.tuple ⟨[.pointer none,.pointer none,.pointer none,.pointer none]⟩,w2))
 (nw (.cells Aw7 false [.int .i64 0,.int .i64 0,.int .i64 0,.int .i64 0,.int .i64 0,.int .i64 0,.slice none 0 0]) w2 fun b_1 w3=>pAgg ⟨b_1,0,none⟩ [.int .i64 2,.int .i64 256,.int .i64 0,.int .i64 0,.int .i64 0,.int .i64 0,.slice b bn bc] w3 fun w4=>bnd (C O8 [.agg ⟨[.int .i64 0,.int .i64 0,.int .i64 1,.int .i64 1,.int .u8 0,.int .u8 0,.int .u8 0,.int .u8 0,.int .u8 0,.int .u8 0,.int .u8 0,.int .u8 0,.int .u8 0,.int .u8 0,.int .u8 0,.int .u8 0,.int .u8 0,.int .u8 0,.int .u8 0,.int .u8 0,.int .u8 0,.int .u8 0,.int .u8 0,.int .u8 0,.int .u8 0,.int .u8 0,.int .u8 0,.int .u8 0,.int .u8 0,.int .u8 0,.int .u8 0,.int .u8 0,.int .u8 0,.int .u8 0,.int .u8 0,.int .u8 0]⟩] w4) fun r_6 w5=>aStr r_6 fun x_5=>gAgg ⟨b_1,0,none⟩ 7 w5 fun x_6=>bnd (C Q5 [.pointer x_1,.int .i64 0,.agg ⟨x_6⟩] w5) fun r_7 w6=>aAgg r_7 fun _=>gAgg ⟨b_1,0,none⟩ 7 w6 fun x_8=>bnd (C Aq4 [.pointer x_3,.int .i64 0,.agg ⟨x_8⟩] w6) fun r_8 w7=>as3 r_8 fun r_9 r_10 r_11=>aInt .i64 r_9 fun _=>aInt .i64 r_10 fun _=>aStr r_11 fun _=>R Ae8 Bd1 [(6,.pointer x_1),(7,.pointer x_2),(8,.pointer x_3),(9,.pointer x_4),(10,.pointer (some ⟨b_1,0,none⟩)),(11,.string x_5),(12,.int .i64 1)] w7):=by kernel_rfl
theorem Bw0 (C:A1) (R:A3) (k:Option Addr) (c:Option Addr) (wv:Option Addr) (m:Option Addr) (x:Addr) (pipe:ByteArray) (i:Int) (h:H) :
 A5 PR By8 C R Ae8 Tryz.f9 100000 true Bd1 [(6,.pointer k),(7,.pointer c),(8,.pointer wv),(9,.pointer m),(10,.pointer (some x)),(11,.string pipe),(12,.int .i64 i)] h =
 cond (decide (i<3))
 (ck (ByteArray.size pipe≤A8) (nw (.cells A2 false (A0 (ByteArray.data pipe).toList)) h fun b w=>pAgg x [.int .i64 2,.int .i64 (IntKind.wrap .i64 (256+i)),.int .i64 0,.int .i64 0,.int .i64 0,.int .i64 0,.slice (some (L5 b)) (ByteArray.size pipe) (ByteArray.size pipe)] w fun w1=>gAgg x 7 w1 fun x_1=>bnd (C Q5 [.pointer k,.int .i64 0,.agg ⟨x_1⟩] w1) fun r w2=>aAgg r fun _=>gAgg x 7 w2 fun x_3=>bnd (C Aq4 [.pointer wv,.int .i64 0,.agg ⟨x_3⟩] w2) fun r_1 w3=>as3 r_1 fun r_2 r_3 r_4=>aInt .i64 r_2 fun _=>aInt .i64 r_3 fun _=>aStr r_4 fun _=>R Ae8 Bd1 [(6,.pointer k),(7,.pointer c),(8,.pointer wv),(9,.pointer m),(10,.pointer (some x)),(11,.string pipe),(12,.int .i64 (IntKind.wrap .i64 (i+1)))] w3))
 (some (.tuple ⟨[.pointer k,.pointer c,.pointer wv,.pointer m]⟩,h)):=by kernel_rfl
def D55:Cuts:={ globs:=0,loops:=[],regs:=[],plans:=[] }
def E46:List Item:=A4 Tryz.f31
theorem Hj6 (C:A1) (R:A3) (e:Int) (h:H) :
 A5 PR D55 C R S7 Tryz.f31 100000 true E46 [(0,.int .i64 e)] h =
 nw (.cells N3 false [.int .i64 0,.int .i64 0,.slice none 0 0,.bool false]) h fun b w=>pAgg ⟨b,0,none⟩ [.int .i64 0,.int .i64 e,.slice none 0 0,.bool false] w fun w1=>gAgg ⟨b,0,none⟩ 4 w1 fun x=>some (.agg ⟨x⟩,w1):=by kernel_rfl
def Du1:Cuts:={ globs:=0,loops:=[],regs:=[],plans:=[] }
def Ew7:List Item:=A4 Tryz.f32
theorem G74 (C:A1) (R:A3) (p:List Value) (want:Int) (h:H) :
 A5 PR Du1 C R Bl3 Tryz.f32 100000 true Ew7 [(0,.agg ⟨p⟩),(1,.int .i64 want)] h =
 nw (.cells D7 false p) h fun b w=>bnd (C W8 [.int .i64 8,.int .i64 want,.func (.func A85) ⟨[]⟩ ⟨[.pointer (some ⟨b,0,none⟩)]⟩] w) fun r w1=>aSl r fun x xn xc=>some (.slice x xn xc,w1):=by kernel_rfl
def Df2:Cuts:={ globs:=0,loops:=[(3,[0,1,2,7,8])],regs:=[],plans:=[] }
def Ea0:List Item:=A4 Tryz.f33
def A95:List Item:=stk [0,1,0,1,0,0,1,4,5] Ea0
theorem Ho9 (C:A1) (R:A3) (n:Int) (want:Int) (isv:Value) (h:H) :
 A5 PR Df2 C R W8 Tryz.f33 100000 true Ea0 [(0,.int .i64 n),(1,.int .i64 want),(2,isv)] h =
 R W8 A95 [(0,.int .i64 n),(1,.int .i64 want),(2,isv),(7,.slice none 0 0),(8,.int .i64 0)] h:=by kernel_rfl
theorem Da0 (C:A1) (R:A3) (n:Int) (want:Int) (isv:Value) (out:Option Addr) (outn outc:Nat) (i:Int) (h:H) :
 A5 PR Df2 C R W8 Tryz.f33 100000 true A95 [(0,.int .i64 n),(1,.int .i64 want),(2,isv),(7,.slice out outn outc),(8,.int .i64 i)] h =
 bnd (cond (decide (i<n)) (some (decide (((outn:Nat):Int)<want),h)) (some (false,h))) fun c w=>cond c
 (aFn isv fun g fi cp=>bnd (C g (fi++([.int .i64 i]++cp)) w) fun r w1=>aBool r fun x=>cond x
 (nw (.cells B6 false [.int .i64 i]) w1 fun b w2=>gCells (some ⟨b,0,none⟩) (1*1) w2 fun cs=>ckB (fitsOpen out B6 w2) (apd B6 1 out outn outc 1 cs w2 fun a an ac w3=>R W8 A95 [(0,.int .i64 n),(1,.int .i64 want),(2,isv),(7,.slice a an ac),(8,.int .i64 (IntKind.wrap .i64 (i+1)))] w3))
 (R W8 A95 [(0,.int .i64 n),(1,.int .i64 want),(2,isv),(7,.slice out outn outc),(8,.int .i64 (IntKind.wrap .i64 (i+1)))] w1))
 (some (.slice out outn outc,w)):=by kernel_rfl
def Dm9:Cuts:={ globs:=0,loops:=[],regs:=[],plans:=[] }
def Ei3:List Item:=A4 Tryz.f34
theorem G58 (C:A1) (R:A3) (k:Int) (fv0:Addr) (h:H) :
 A5 PR Dm9 C R A17 Tryz.f34 100000 true Ei3 [(0,.int .i64 k),(1,.pointer (some fv0))] h =
 gPtr fv0 h fun x=>bnd (C Q6 [.pointer x,.int .i64 k] h) fun r w=>as2 r fun r_1 r_2=>aAgg r_1 fun x_1=>aInt .i64 r_2 fun x_2=>nw (.cells D5 false [.int .i64 0,.int .i64 0,.int .i64 0,.int .i64 0]) w fun b w1=>ck (List.length x_1=4) (pAgg ⟨b,0,none⟩ x_1 w1 fun w2=>some (.bool (x_2==0),w2)):=by kernel_rfl
def Ao1:Cuts:={ globs:=0,loops:=[],regs:=[],plans:=[] }
def Bd3:List Item:=A4 Tryz.f38
theorem Df1 (C:A1) (R:A3) (c:Option Addr) (i:Int) (p:List Value) (h:H) :
 A5 PR Ao1 C R U4 Tryz.f38 100000 true Bd3 [(0,.pointer c),(1,.int .i64 i),(2,.agg ⟨p⟩)] h =
 nw (.cells D0 false p) h fun b w=>gAgg ⟨b,0,none⟩ 36 w fun x=>bnd (C Au8 [.agg ⟨x⟩] w) fun r w1=>as2 r fun r_1 r_2=>aSl r_1 fun x_1 xn xc=>aBool r_2 fun x_2=>bnd (C A29 [.int .i64 i] w1) fun r_3 w2=>aAgg r_3 fun x_3=>bnd (C J7 [.pointer c,.agg ⟨x_3⟩,.slice x_1 xn xc,.bool x_2] w2) fun r_4 w3=>aBool r_4 fun x_4=>some (.bool x_4,w3):=by kernel_rfl
def Da2:Cuts:={ globs:=0,loops:=[],regs:=[],plans:=[] }
def Ec1:List Item:=A4 Tryz.f46
theorem Go5 (C:A1) (R:A3) (f:List Value) (h:H) :
 A5 PR Da2 C R Au4 Tryz.f46 100000 true Ec1 [(0,.agg ⟨f⟩)] h =
 nw (.cells D5 false f) h fun b w=>nw (.cells N3 false [.int .i64 0,.int .i64 0,.slice none 0 0,.bool false]) w fun b_1 w1=>gInt .i64 (Addr.add ⟨b,0,none⟩ 3) w1 fun x=>cond (x==1)
 (bnd (C P1 [.int .i64 111] w1) fun r w2=>aAgg r fun x_1=>ck (List.length x_1=4) (pAgg ⟨b_1,0,none⟩ x_1 w2 fun w3=>gAgg ⟨b_1,0,none⟩ 4 w3 fun x_2=>some (.agg ⟨x_2⟩,w3)))
 (pAgg ⟨b_1,0,none⟩ [.int .i64 0,.int .i64 0,.slice none 0 0,.bool true] w1 fun w4=>gAgg ⟨b_1,0,none⟩ 4 w4 fun x_3=>some (.agg ⟨x_3⟩,w4)):=by kernel_rfl
def D77:Cuts:={ globs:=0,loops:=[],regs:=[],plans:=[] }
def Ga4:List Item:=A4 Tryz.f50
theorem Hl9 (C:A1) (R:A3) (c:Option Addr) (f:Int) (x:List Value) (h:H) :
 A5 PR D77 C R Dg0 Tryz.f50 100000 true Ga4 [(0,.pointer c),(1,.int .i64 f),(2,.agg ⟨x⟩)] h =
 nw (.cells D5 false x) h fun b w=>gInt .i64 (Addr.add ⟨b,0,none⟩ 2) w fun x_1=>pV (Addr.add ⟨b,0,none⟩ 2) (.int .i64 (IntKind.wrap .i64 (x_1+1))) w fun w1=>gAgg ⟨b,0,none⟩ 4 w1 fun x_2=>bnd (C H9 [.pointer c,.int .i64 f,.agg ⟨x_2⟩] w1) fun r w2=>aBool r fun x_3=>some (.bool x_3,w2):=by kernel_rfl
def D50:Cuts:={ globs:=0,loops:=[],regs:=[],plans:=[] }
def E84:List Item:=A4 Tryz.f51
theorem Hp3 (C:A1) (R:A3) (c:Option Addr) (i:Int) (fd:Int) (f:Int) (h:H) :
 A5 PR D50 C R Dg4 Tryz.f51 100000 true E84 [(0,.pointer c),(1,.int .i64 i),(2,.int .i64 fd),(3,.int .i64 f)] h =
 nw (.cells N3 false [.int .i64 0,.int .i64 0,.slice none 0 0,.bool false]) h fun b w=>bnd (C Ay7 [.pointer c,.int .i64 i] w) fun r w1=>as2 r fun r_1 r_2=>aAgg r_1 fun x=>aInt .i64 r_2 fun x_1=>nw (.cells D7 false [.int .i64 0,.int .i64 0,.int .i64 0,.int .i64 0,.int .i64 0,.int .i64 0,.int .i64 0,.int .i64 0,.int .i64 0,.int .i64 0,.int .i64 0,.int .i64 0,.int .i64 0,.int .i64 0,.int .i64 0,.int .i64 0]) w1 fun b_1 w2=>ck (List.length x=16) (pAgg ⟨b_1,0,none⟩ x w2 fun w3=>cond (x_1 != 0)
 (bnd (C S7 [.int .i64 x_1] w3) fun r_3 w4=>aAgg r_3 fun x_2=>ck (List.length x_2=4) (pAgg ⟨b,0,none⟩ x_2 w4 fun w5=>gAgg ⟨b,0,none⟩ 4 w5 fun x_3=>some (.agg ⟨x_3⟩,w5)))
 (ck ((0:Int)≤fd∧fd<((8:Nat):Int)) (pV (Addr.add (Addr.add ⟨b_1,0,none⟩ 8) (Int.toNat fd*1)) (.int .i64 (IntKind.wrap .i64 (f+1))) w3 fun w6=>gAgg ⟨b_1,0,none⟩ 16 w6 fun x_4=>bnd (C S6 [.pointer c,.int .i64 i,.agg ⟨x_4⟩] w6) fun r_4 w7=>aBool r_4 fun x_5=>bnd (C Bh7 [.bool x_5,.int .i64 fd] w7) fun r_5 w8=>aAgg r_5 fun x_6=>ck (List.length x_6=4) (pAgg ⟨b,0,none⟩ x_6 w8 fun w9=>gAgg ⟨b,0,none⟩ 4 w9 fun x_7=>some (.agg ⟨x_7⟩,w9))))):=by kernel_rfl
def Q4:Cuts:={ globs:=0,loops:=[(1,[0,5]),(6,[0,12]),(11,[0,20,21])],regs:=[],plans:=[] }
def Z6:List Item:=A4 Tryz.f59
def Ac7:List Item:=stk [0,0,1,4,5] Z6
def Ac0:List Item:=stk [0,1,0,0,1,4,5] Z6
def Ac1:List Item:=stk [0,1,0,1,0,0,1,4,5] Z6
theorem Dv2 (C:A1) (R:A3) (c:Option Addr) (h:H) :
 A5 PR Q4 C R D1 Tryz.f59 100000 true Z6 [(0,.pointer c)] h =
 R D1 Ac7 [(0,.pointer c),(5,.int .i64 0)] h:=by kernel_rfl
theorem Bc6 (C:A1) (R:A3) (c:Option Addr) (x5:Int) (h:H) :
 A5 PR Q4 C R D1 Tryz.f59 100000 true Ac7 [(0,.pointer c),(5,.int .i64 x5)] h =
 cond (decide (x5<8))
 (bnd (C Aa0 [.pointer c,.int .i64 x5] h) fun r w=>as2 r fun r_1 r_2=>aAgg r_1 fun _=>aInt .i64 r_2 fun _=>R D1 Ac7 [(0,.pointer c),(5,.int .i64 (IntKind.wrap .i64 (x5+1)))] w)
 (R D1 Ac0 [(0,.pointer c),(12,.int .i64 0)] h):=by kernel_rfl
theorem Bd7 (C:A1) (R:A3) (c:Option Addr) (x12:Int) (h:H) :
 A5 PR Q4 C R D1 Tryz.f59 100000 true Ac0 [(0,.pointer c),(12,.int .i64 x12)] h =
 cond (decide (x12<12))
 (bnd (C Q6 [.pointer c,.int .i64 x12] h) fun r w=>as2 r fun r_1 r_2=>aAgg r_1 fun _=>aInt .i64 r_2 fun _=>R D1 Ac0 [(0,.pointer c),(12,.int .i64 (IntKind.wrap .i64 (x12+1)))] w)
 (bnd (C Z9 [.pointer c,.int .i64 3] h) fun r_3 w1=>aInt .i64 r_3 fun x_2=>R D1 Ac1 [(0,.pointer c),(20,.int .i64 x_2),(21,.int .i64 0)] w1):=by kernel_rfl
theorem Bc2 (C:A1) (R:A3) (c:Option Addr) (x20:Int) (x21:Int) (h:H) :
 A5 PR Q4 C R D1 Tryz.f59 100000 true Ac1 [(0,.pointer c),(20,.int .i64 x20),(21,.int .i64 x21)] h =
 cond (decide (x21<x20))
 (bnd (C Q7 [.pointer c,.int .i64 x21] h) fun r w=>as2 r fun r_1 r_2=>aAgg r_1 fun _=>aInt .i64 r_2 fun _=>R D1 Ac1 [(0,.pointer c),(20,.int .i64 x20),(21,.int .i64 (IntKind.wrap .i64 (x21+1)))] w)
 (bnd (C Q3 [.pointer c] h) fun r_3 w1=>as2 r_3 fun r_4 r_5=>aAgg r_4 fun _=>aInt .i64 r_5 fun _=>bnd (C Ag5 [.pointer c] w1) fun r_6 w2=>as2 r_6 fun r_7 r_8=>aInt .i64 r_7 fun _=>aBool r_8 fun _=>some (.tuple ⟨[]⟩,w2)):=by kernel_rfl
def Ay1:Cuts:={ globs:=0,loops:=[],regs:=[],plans:=[] }
def Bn4:List Item:=A4 Tryz.f64
theorem Du3 (C:A1) (R:A3) (c:Option Addr) (h:H) :
 A5 PR Ay1 C R Q3 Tryz.f64 100000 true Bn4 [(0,.pointer c)] h =
 nw (.cells D0 false [.int .i64 0,.int .i64 0,.int .i64 0,.int .i64 0,.int .u8 0,.int .u8 0,.int .u8 0,.int .u8 0,.int .u8 0,.int .u8 0,.int .u8 0,.int .u8 0,.int .u8 0,.int .u8 0,.int .u8 0,.int .u8 0,.int .u8 0,.int .u8 0,.int .u8 0,.int .u8 0,.int .u8 0,.int .u8 0,.int .u8 0,.int .u8 0,.int .u8 0,.int .u8 0,.int .u8 0,.int .u8 0,.int .u8 0,.int .u8 0,.int .u8 0,.int .u8 0,.int .u8 0,.int .u8 0,.int .u8 0,.int .u8 0]) h fun b w=>bnd (C I0 [.pointer c,.agg ⟨[.int .i64 4,.int .i64 0]⟩,.func (.func Au1) ⟨[]⟩ ⟨[]⟩] w) fun r w1=>as2 r fun r_1 r_2=>aAgg r_1 fun x=>aInt .i64 r_2 fun x_1=>ck (List.length x=36) (pAgg ⟨b,0,none⟩ x w1 fun w2=>gAgg ⟨b,0,none⟩ 36 w2 fun x_2=>some (.tuple ⟨[.agg ⟨x_2⟩,.int .i64 x_1]⟩,w2)):=by kernel_rfl
def Ap1:Cuts:={ globs:=0,loops:=[],regs:=[],plans:=[] }
def Bc1:List Item:=A4 Tryz.f65
theorem Dd7 (C:A1) (R:A3) (c:Option Addr) (p:List Value) (h:H) :
 A5 PR Ap1 C R O1 Tryz.f65 100000 true Bc1 [(0,.pointer c),(1,.agg ⟨p⟩)] h =
 nw (.cells D0 false p) h fun b w=>gAgg ⟨b,0,none⟩ 36 w fun x=>bnd (C Au8 [.agg ⟨x⟩] w) fun r w1=>as2 r fun r_1 r_2=>aSl r_1 fun x_1 xn xc=>aBool r_2 fun x_2=>bnd (C J7 [.pointer c,.agg ⟨[.int .i64 4,.int .i64 0]⟩,.slice x_1 xn xc,.bool x_2] w1) fun r_3 w2=>aBool r_3 fun x_3=>some (.bool x_3,w2):=by kernel_rfl
def A18:Cuts:={ globs:=0,loops:=[(3,[1,2,3,4]),(7,[1,2,3,4,5]),(13,[1,2,3,6])],regs:=[],plans:=[] }
def Bg9:List Item:=A4 Tryz.f68
def Bc4:List Item:=stk [0,1,0,1,0,0,1,4,5] Bg9
def Aw2:List Item:=stk [0,1,0,1,0,0,1,4,5,6,0,1,0,4,0,1,0,0,1,4,5] Bg9
def Bc7:List Item:=stk [0,1,0,1,0,1,0,0,1,4,5] Bg9
theorem Gv2 (C:A1) (R:A3) (p:List Value) (h:H) :
 A5 PR A18 C R I9 Tryz.f68 100000 true Bg9 [(0,.agg ⟨p⟩)] h =
 nw (.cells By3 false p) h fun b w=>nw (.cells E0 false [.slice none 0 0,.slice none 0 0,.slice none 0 0,.int .i64 0,.slice none 0 0]) w fun b_1 w1=>gInt .i64 (Addr.add ⟨b,0,none⟩ 2) w1 fun x=>nw (.cells E0 false [.slice none 0 0,.slice none 0 0,.slice none 0 0,.int .i64 0,.slice none 0 0]) w1 fun b_2 w2=>pAgg ⟨b_2,0,none⟩ [.slice none 0 0,.slice none 0 0,.slice none 0 0,.int .i64 x,.slice none 0 0] w2 fun w3=>R I9 Bc4 [(1,.pointer (some ⟨b,0,none⟩)),(2,.pointer (some ⟨b_1,0,none⟩)),(3,.pointer (some ⟨b_2,0,none⟩)),(4,.int .i64 0)] w3:=by kernel_rfl
theorem Dt1 (C:A1) (R:A3) (p:Addr) (x2:Addr) (b:Addr) (s:Int) (h:H) :
 A5 PR A18 C R I9 Tryz.f68 100000 true Bc4 [(1,.pointer (some p)),(2,.pointer (some x2)),(3,.pointer (some b)),(4,.int .i64 s)] h =
 gSl (Addr.add p 0) h fun _ xn _=>cond (decide (s<((xn:Nat):Int)))
 (gSl (Addr.add b 0) h fun x_1 xn_1 xc_1=>nw (.cells B6 false [.int .i64 20]) h fun b_1 w=>gCells (some ⟨b_1,0,none⟩) (1*1) w fun cs=>ckB (fitsOpen x_1 B6 w) (apd B6 1 x_1 xn_1 xc_1 1 cs w fun a an ac w1=>pV (Addr.add b 0) (.slice a an ac) w1 fun w2=>R I9 Aw2 [(1,.pointer (some p)),(2,.pointer (some x2)),(3,.pointer (some b)),(4,.int .i64 s),(5,.int .i64 0)] w2))
 (R I9 Bc7 [(1,.pointer (some p)),(2,.pointer (some x2)),(3,.pointer (some b)),(6,.int .i64 0)] h):=by kernel_rfl
theorem Dt2 (C:A1) (R:A3) (p:Addr) (x2:Addr) (b:Addr) (s:Int) (i:Int) (h:H) :
 A5 PR A18 C R I9 Tryz.f68 100000 true Aw2 [(1,.pointer (some p)),(2,.pointer (some x2)),(3,.pointer (some b)),(4,.int .i64 s),(5,.int .i64 i)] h =
 cond (decide (i<9))
 (gSl (Addr.add b 1) h fun x xn xc=>nw (.cells B6 false [.int .i64 s]) h fun b_1 w=>gCells (some ⟨b_1,0,none⟩) (1*1) w fun cs=>ckB (fitsOpen x B6 w) (apd B6 1 x xn xc 1 cs w fun a an ac w1=>pV (Addr.add b 1) (.slice a an ac) w1 fun w2=>R I9 Aw2 [(1,.pointer (some p)),(2,.pointer (some x2)),(3,.pointer (some b)),(4,.int .i64 s),(5,.int .i64 (IntKind.wrap .i64 (i+1)))] w2))
 (gSl (Addr.add b 2) h fun x_1 xn_1 xc_1=>nw (.cells B6 false [.int .i64 s]) h fun b_2 w3=>nw (.cells P6 false [.slice (some ⟨b_2,0,none⟩) 1 1]) w3 fun b_3 w4=>gCells (some ⟨b_3,0,none⟩) (1*1) w4 fun cs_1=>ckB (fitsOpen x_1 P6 w4) (apd P6 1 x_1 xn_1 xc_1 1 cs_1 w4 fun a_1 an_1 ac_1 w5=>pV (Addr.add b 2) (.slice a_1 an_1 ac_1) w5 fun w6=>gSl (Addr.add b 4) w6 fun x_2 xn_2 xc_2=>nw (.cells B6 false [.int .i64 s]) w6 fun b_4 w7=>nw (.cells I5 false [.int .i64 s,.int .i64 0,.int .i64 0,.int .i64 492,.slice (some ⟨b_4,0,none⟩) 1 1]) w7 fun b_5 w8=>gCells (some ⟨b_5,0,none⟩) (1*5) w8 fun cs_2=>ckB (fitsOpen x_2 I5 w8) (apd I5 5 x_2 xn_2 xc_2 1 cs_2 w8 fun a_2 an_2 ac_2 w9=>pV (Addr.add b 4) (.slice a_2 an_2 ac_2) w9 fun w10=>R I9 Bc4 [(1,.pointer (some p)),(2,.pointer (some x2)),(3,.pointer (some b)),(4,.int .i64 (IntKind.wrap .i64 (s+1)))] w10))):=by kernel_rfl
theorem Ds4 (C:A1) (R:A3) (p:Addr) (x2:Addr) (b:Addr) (i:Int) (h:H) :
 A5 PR A18 C R I9 Tryz.f68 100000 true Bc7 [(1,.pointer (some p)),(2,.pointer (some x2)),(3,.pointer (some b)),(6,.int .i64 i)] h =
 gSl (Addr.add p 1) h fun _ xn _=>cond (decide (i<((xn:Nat):Int)))
 (gSl (Addr.add p 1) h fun x_1 xn_1 _=>aSome x_1 fun p_1=>ck ((0:Int)≤i∧i<((xn_1:Nat):Int)) (gAgg (Addr.add (A9 p_1) (Int.toNat i*2)) 2 h fun x_2=>nw (.cells Bu5 false [.int .i64 0,.int .i64 0]) h fun b_1 w=>ck (List.length x_2=2) (pAgg ⟨b_1,0,none⟩ x_2 w fun w1=>gSl (Addr.add b 4) w1 fun x_3 xn_2 xc_2=>gInt .i64 (Addr.add ⟨b_1,0,none⟩ 0) w1 fun x_4=>gInt .i64 (Addr.add ⟨b_1,0,none⟩ 0) w1 fun x_5=>gInt .i64 (Addr.add ⟨b_1,0,none⟩ 1) w1 fun x_6=>nw (.cells B6 false [.int .i64 x_5,.int .i64 x_6]) w1 fun b_2 w2=>nw (.cells I5 false [.int .i64 x_4,.int .i64 (IntKind.wrap .i64 (8+i)),.int .i64 0,.int .i64 40,.slice (some ⟨b_2,0,none⟩) 2 2]) w2 fun b_3 w3=>gCells (some ⟨b_3,0,none⟩) (1*5) w3 fun cs=>ckB (fitsOpen x_3 I5 w3) (apd I5 5 x_3 xn_2 xc_2 1 cs w3 fun a an ac w4=>pV (Addr.add b 4) (.slice a an ac) w4 fun w5=>R I9 Bc7 [(1,.pointer (some p)),(2,.pointer (some x2)),(3,.pointer (some b)),(6,.int .i64 (IntKind.wrap .i64 (i+1)))] w5))))
 (gAgg b 5 h fun x_7=>ck (List.length x_7=5) (pAgg x2 x_7 h fun w6=>gAgg x2 5 w6 fun x_8=>some (.agg ⟨x_8⟩,w6))):=by kernel_rfl
def Bj6:Cuts:={ globs:=0,loops:=[],regs:=[],plans:=[(4,⟨[0,1,2,3,4,5,6,7,8,9,10,11,12,13,14,15,16],[0,1,3,7,0,0,32,0,128,0,512,2047,4095,8191,8191,16383,65535],[],[]⟩),(6,⟨[0,1,2,3,4,5,6,7,8,9,10,11,12],[0,1,3,7,0,0,32,0,128,0,512,2047,4095],[],[]⟩),(8,⟨[0,1,2,3,4,5,6,7,8,9,10,11,12,13,14,15,16],[0,1,3,7,0,0,32,0,128,0,512,0,2048,0,8192,32767,65535],[],[]⟩)] }
def Dc6:List Item:=A4 Tryz.f74
theorem Et7 (C:A1) (R:A3) (k:Option Addr) (env:Int) (c:List Value) (h:H) :
 A5 PR Bj6 C R A09 Tryz.f74 100000 true Dc6 [(0,.pointer k),(1,.int .i64 env),(2,.agg ⟨c⟩)] h =
 nw (.cells Aw7 false c) h fun b w=>gInt .i64 (Addr.add ⟨b,0,none⟩ 0) w fun x=>cond (x==1)
 (aSome k fun p=>gPtr (Addr.add p 5) w fun x_1=>gInt .i64 (Addr.add ⟨b,0,none⟩ 1) w fun x_2=>gInt .i64 (Addr.add ⟨b,0,none⟩ 2) w fun x_3=>gInt .i64 (Addr.add ⟨b,0,none⟩ 3) w fun x_4=>bnd (C Ab8 [.pointer x_1,.int .i64 env,.int .i64 x_2,.int .i64 x_3,.int .i64 x_4] w) fun r w1=>as2 r fun r_1 r_2=>aSl r_1 fun x_5 xn xc=>aInt .i64 r_2 fun x_6=>some (.tuple ⟨[.slice x_5 xn xc,.int .i64 x_6,.bool true]⟩,w1))
 (cond (x==2)
 (aSome k fun p_1=>gPtr (Addr.add p_1 5) w fun x_7=>gInt .i64 (Addr.add ⟨b,0,none⟩ 1) w fun x_8=>gInt .i64 (Addr.add ⟨b,0,none⟩ 2) w fun x_9=>gSl (Addr.add ⟨b,0,none⟩ 6) w fun x_10 xn_1 xc_1=>bnd (C Z8 [.pointer x_7,.int .i64 env,.int .i64 x_8,.int .i64 x_9,.slice x_10 xn_1 xc_1] w) fun r_3 w2=>aInt .i64 r_3 fun x_11=>some (.tuple ⟨[.slice none 0 0,.int .i64 x_11,.bool true]⟩,w2))
 (cond (x==3)
 (aSome k fun p_2=>gPtr (Addr.add p_2 5) w fun x_12=>gInt .i64 (Addr.add ⟨b,0,none⟩ 1) w fun x_13=>gInt .i64 (Addr.add ⟨b,0,none⟩ 2) w fun x_14=>gInt .i64 (Addr.add ⟨b,0,none⟩ 4) w fun x_15=>gInt .i64 (Addr.add ⟨b,0,none⟩ 5) w fun x_16=>gInt .i64 (Addr.add ⟨b,0,none⟩ 3) w fun x_17=>bnd (C Ak5 [.pointer x_12,.int .i64 env,.int .i64 x_13,.int .i64 x_14,.int .i64 x_15,.int .i64 x_16,.int .i64 x_17] w) fun r_4 w3=>aInt .i64 r_4 fun x_18=>some (.tuple ⟨[.slice none 0 0,.int .i64 x_18,.bool true]⟩,w3))
 (some (.tuple ⟨[.slice none 0 0,.int .i64 0,.bool false]⟩,w)))):=by kernel_rfl
def Da3:Cuts:={ globs:=0,loops:=[],regs:=[],plans:=[(1,⟨[1,0,2,3,4,5,6],[0,0,3,7,7,31,63],[(0,[1])],[]⟩)] }
def Ec0:List Item:=A4 Tryz.f95
theorem Gn4 (C:A1) (R:A3) (p:List Value) (h:H) :
 A5 PR Da3 C R Au8 Tryz.f95 100000 true Ec0 [(0,.agg ⟨p⟩)] h =
 nw (.cells D0 false p) h fun b w=>gAgg ⟨b,0,none⟩ 36 w fun x=>bnd (C Bg5 [] w) fun r w1=>aPtr r fun x_1=>gAgg ⟨b,0,none⟩ 36 w1 fun x_2=>same (.agg ⟨x⟩) (.agg ⟨x_2⟩) (bnd (C U9 [.pointer x_1,.agg ⟨x⟩] w1) fun r_1 w2=>as2 r_1 fun r_2 r_3=>aSl r_2 fun x_3 xn xc=>aBool r_3 fun x_4=>some (.tuple ⟨[.slice x_3 xn xc,.bool x_4]⟩,w2)):=by kernel_rfl
def Ef5:Cuts:={ globs:=0,loops:=[],regs:=[],plans:=[] }
def Gi4:List Item:=A4 Tryz.f102
theorem Hw3 (C:A1) (R:A3) (p:List Value) (h:H) :
 A5 PR Ef5 C R Bt6 Tryz.f102 100000 true Gi4 [(0,.agg ⟨p⟩)] h =
 nw (.cells D0 false p) h fun b w=>gInt .i64 (Addr.add ⟨b,0,none⟩ 0) w fun x=>bnd (C Aq3 [.int .i64 x,.int .i64 31] w) fun r w1=>aBool r fun x_1=>bnd (cond x_1 (gInt .i64 (Addr.add ⟨b,0,none⟩ 1) w1 fun x_2=>bnd (C Aq3 [.int .i64 x_2,.int .i64 32] w1) fun r_1 w2=>aBool r_1 fun x_3=>some (x_3,w2)) (some (false,w1))) fun c w3=>bnd (cond c (gInt .i64 (Addr.add ⟨b,0,none⟩ 2) w3 fun x_4=>bnd (C Aq3 [.int .i64 x_4,.int .i64 8] w3) fun r_2 w4=>aBool r_2 fun x_5=>some (x_5,w4)) (some (false,w3))) fun c_1 w5=>bnd (cond c_1 (gInt .i64 (Addr.add ⟨b,0,none⟩ 3) w5 fun x_6=>bnd (C Aq3 [.int .i64 x_6,.int .i64 8] w5) fun r_3 w6=>aBool r_3 fun x_7=>some (x_7,w6)) (some (false,w5))) fun c_2 w7=>some (.bool c_2,w7):=by kernel_rfl
def Bz9:Cuts:={ globs:=0,loops:=[(5,[1,3,9,10])],regs:=[],plans:=[] }
def Dl2:List Item:=A4 Tryz.f104
def Bd4:List Item:=stk [0,1,0,1,0,1,0,0,1,4,5] Dl2
theorem G00 (C:A1) (R:A3) (p:List Value) (h:H) :
 A5 PR Bz9 C R Aj2 Tryz.f104 100000 true Dl2 [(0,.agg ⟨p⟩)] h =
 nw (.cells D0 false p) h fun b w=>gAgg ⟨b,0,none⟩ 36 w fun x=>bnd (C Bt6 [.agg ⟨x⟩] w) fun r w1=>aBool r fun x_1=>cond (!x_1)
 (some (.slice none 0 0,w1))
 (gInt .i64 (Addr.add ⟨b,0,none⟩ 1) w1 fun x_2=>R Aj2 Bd4 [(1,.pointer (some ⟨b,0,none⟩)),(3,.slice none 0 0),(9,.int .i64 x_2),(10,.int .i64 0)] w1):=by kernel_rfl
theorem Dq2 (C:A1) (R:A3) (p:Addr) (out:Option Addr) (outn outc:Nat) (x9:Int) (x10:Int) (h:H) :
 A5 PR Bz9 C R Aj2 Tryz.f104 100000 true Bd4 [(1,.pointer (some p)),(3,.slice out outn outc),(9,.int .i64 x9),(10,.int .i64 x10)] h =
 cond (decide (x10<x9))
 (gInt .i64 (Addr.add p 0) h fun x=>ck ((0:Int)≤Int.tmod (IntKind.wrap .i64 (x+x10)) 32∧Int.tmod (IntKind.wrap .i64 (x+x10)) 32<((32:Nat):Int)) (gInt .u8 (Addr.add (Addr.add p 4) (Int.toNat (Int.tmod (IntKind.wrap .i64 (x+x10)) 32)*1)) h fun x_1=>nw (.cells A2 false [.int .u8 x_1]) h fun b w=>gCells (some ⟨b,0,none⟩) (1*1) w fun cs=>ckB (fitsOpen out A2 w) (apd A2 1 out outn outc 1 cs w fun a an ac w1=>R Aj2 Bd4 [(1,.pointer (some p)),(3,.slice a an ac),(9,.int .i64 x9),(10,.int .i64 (IntKind.wrap .i64 (x10+1)))] w1)))
 (some (.slice out outn outc,h)):=by kernel_rfl
def Ad5:Cuts:={ globs:=0,loops:=[(2,[0,1,7,8])],regs:=[],plans:=[] }
def As4:List Item:=A4 Tryz.f106
def Y9:List Item:=stk [0,1,0,0,1,4,5] As4
theorem Dj1 (C:A1) (R:A3) (s:Option Addr) (sn sc:Nat) (v:Int) (h:H) :
 A5 PR Ad5 C R H1 Tryz.f106 100000 true As4 [(0,.slice s sn sc),(1,.int .i64 v)] h =
 R H1 Y9 [(0,.slice s sn sc),(1,.int .i64 v),(7,.int .i64 ((sn:Nat):Int)),(8,.int .i64 0)] h:=by kernel_rfl
theorem A51 (C:A1) (R:A3) (s:Option Addr) (sn sc:Nat) (v:Int) (x7:Int) (x8:Int) (h:H) :
 A5 PR Ad5 C R H1 Tryz.f106 100000 true Y9 [(0,.slice s sn sc),(1,.int .i64 v),(7,.int .i64 x7),(8,.int .i64 x8)] h =
 cond (decide (x8<x7))
 (aSome s fun p=>ck ((0:Int)≤x8∧x8<((sn:Nat):Int)) (gInt .i64 (Addr.add (A9 p) (Int.toNat x8*1)) h fun x=>cond (v==x)
 (some (.int .i64 x8,h))
 (R H1 Y9 [(0,.slice s sn sc),(1,.int .i64 v),(7,.int .i64 x7),(8,.int .i64 (IntKind.wrap .i64 (x8+1)))] h)))
 (some (.int .i64 (-1),h)):=by kernel_rfl
def Bf2:Cuts:={ globs:=0,loops:=[(7,[1,3,52,53,54]),(13,[1,3,63,64,65])],regs:=[],plans:=[] }
def Bw1:List Item:=A4 Tryz.f118
def Bc0:List Item:=stk [0,1,0,1,0,1,0,1,0,0,1,4,5] Bw1
def Bc8:List Item:=stk [0,1,0,1,0,1,0,1,0,1,0,0,1,4,5] Bw1
theorem G14 (C:A1) (R:A3) (c:List Value) (h:H) :
 A5 PR Bf2 C R Q1 Tryz.f118 100000 true Bw1 [(0,.agg ⟨c⟩)] h =
 nw (.cells E0 false c) h fun b w=>gSl (Addr.add ⟨b,0,none⟩ 0) w fun _ xn _=>bnd (cond (decide (((xn:Nat):Int)<1)) (some (true,w)) (gSl (Addr.add ⟨b,0,none⟩ 0) w fun _ xn_1 _=>some (decide (((xn_1:Nat):Int)>4),w))) fun c_1 w1=>bnd (cond c_1 (some (true,w1)) (gSl (Addr.add ⟨b,0,none⟩ 1) w1 fun _ xn_2 _=>some (decide (((xn_2:Nat):Int)>40),w1))) fun c_2 w2=>bnd (cond c_2 (some (true,w2)) (gSl (Addr.add ⟨b,0,none⟩ 2) w2 fun _ xn_3 _=>some (decide (((xn_3:Nat):Int)>8),w2))) fun c_3 w3=>bnd (cond c_3 (some (true,w3)) (gSl (Addr.add ⟨b,0,none⟩ 4) w3 fun _ xn_4 _=>some (decide (((xn_4:Nat):Int)>16),w3))) fun c_4 w4=>bnd (cond c_4 (some (true,w4)) (gInt .i64 (Addr.add ⟨b,0,none⟩ 3) w4 fun x_5=>some (decide (x_5<1),w4))) fun c_5 w5=>bnd (cond c_5 (some (true,w5)) (gInt .i64 (Addr.add ⟨b,0,none⟩ 3) w5 fun x_6=>some (decide (x_6>1000),w5))) fun c_6 w6=>cond c_6
 (some (.bool false,w6))
 (gSl (Addr.add ⟨b,0,none⟩ 1) w6 fun x_7 xn_5 xc_5=>bnd (C E7 [.slice x_7 xn_5 xc_5,.func (.func G6) ⟨[]⟩ ⟨[.pointer (some ⟨b,0,none⟩)]⟩] w6) fun r w7=>aBool r fun x_8=>cond x_8
 (some (.bool false,w7))
 (gSl (Addr.add ⟨b,0,none⟩ 2) w7 fun x_9 xn_6 xc_6=>R Q1 Bc0 [(1,.pointer (some ⟨b,0,none⟩)),(3,.func (.func G6) ⟨[]⟩ ⟨[.pointer (some ⟨b,0,none⟩)]⟩),(52,.slice x_9 xn_6 xc_6),(53,.int .i64 ((xn_6:Nat):Int)),(54,.int .i64 0)] w7)):=by kernel_rfl
theorem Ds8 (C:A1) (R:A3) (c:Addr) (nonev:Addr) (x52:Option Addr) (x52n x52c:Nat) (x53:Int) (x54:Int) (h:H) :
 A5 PR Bf2 C R Q1 Tryz.f118 100000 true Bc0 [(1,.pointer (some c)),(3,.func (.func G6) ⟨[]⟩ ⟨[.pointer (some nonev)]⟩),(52,.slice x52 x52n x52c),(53,.int .i64 x53),(54,.int .i64 x54)] h =
 cond (decide (x54<x53))
 (aSome x52 fun p=>ck ((0:Int)≤x54∧x54<((x52n:Nat):Int)) (gSl (Addr.add (A9 p) (Int.toNat x54*1)) h fun x xn xc=>bnd (C E7 [.slice x xn xc,.func (.func G6) ⟨[]⟩ ⟨[.pointer (some nonev)]⟩] h) fun r w=>aBool r fun x_1=>cond x_1
 (some (.bool false,w))
 (R Q1 Bc0 [(1,.pointer (some c)),(3,.func (.func G6) ⟨[]⟩ ⟨[.pointer (some nonev)]⟩),(52,.slice x52 x52n x52c),(53,.int .i64 x53),(54,.int .i64 (IntKind.wrap .i64 (x54+1)))] w)))
 (gSl (Addr.add c 4) h fun x_2 xn_1 xc_1=>R Q1 Bc8 [(1,.pointer (some c)),(3,.func (.func G6) ⟨[]⟩ ⟨[.pointer (some nonev)]⟩),(63,.slice x_2 xn_1 xc_1),(64,.int .i64 ((xn_1:Nat):Int)),(65,.int .i64 0)] h):=by kernel_rfl
theorem Dr3 (C:A1) (R:A3) (c:Addr) (nonev:Addr) (x63:Option Addr) (x63n x63c:Nat) (x64:Int) (x65:Int) (h:H) :
 A5 PR Bf2 C R Q1 Tryz.f118 100000 true Bc8 [(1,.pointer (some c)),(3,.func (.func G6) ⟨[]⟩ ⟨[.pointer (some nonev)]⟩),(63,.slice x63 x63n x63c),(64,.int .i64 x64),(65,.int .i64 x65)] h =
 cond (decide (x65<x64))
 (aSome x63 fun p=>ck ((0:Int)≤x65∧x65<((x63n:Nat):Int)) (gAgg (Addr.add (A9 p) (Int.toNat x65*5)) 5 h fun x=>nw (.cells I5 false [.int .i64 0,.int .i64 0,.int .i64 0,.int .i64 0,.slice none 0 0]) h fun b w=>ck (List.length x=5) (pAgg ⟨b,0,none⟩ x w fun w1=>gAgg c 5 w1 fun x_1=>gAgg ⟨b,0,none⟩ 5 w1 fun x_2=>bnd (C Bz0 [.agg ⟨x_1⟩,.agg ⟨x_2⟩] w1) fun r w2=>aBool r fun x_3=>bnd (cond (!x_3) (some (true,w2)) (gSl (Addr.add ⟨b,0,none⟩ 4) w2 fun x_4 xn xc=>bnd (C E7 [.slice x_4 xn xc,.func (.func G6) ⟨[]⟩ ⟨[.pointer (some nonev)]⟩] w2) fun r_1 w3=>aBool r_1 fun x_5=>some (x_5,w3))) fun c_1 w4=>cond c_1
 (some (.bool false,w4))
 (R Q1 Bc8 [(1,.pointer (some c)),(3,.func (.func G6) ⟨[]⟩ ⟨[.pointer (some nonev)]⟩),(63,.slice x63 x63n x63c),(64,.int .i64 x64),(65,.int .i64 (IntKind.wrap .i64 (x65+1)))] w4))))
 (some (.bool true,h)):=by kernel_rfl
def Ar4:Cuts:={ globs:=0,loops:=[],regs:=[],plans:=[] }
def Be4:List Item:=A4 Tryz.f120
theorem Dk7 (C:A1) (R:A3) (s:Option Addr) (sn sc:Nat) (h:H) :
 A5 PR Ar4 C R W2 Tryz.f120 100000 true Be4 [(0,.slice s sn sc)] h =
 cond s.isNone
 (some (.slice none 0 0,h))
 (nw (.cells B6 false []) h fun b w=>gCells s (sn*1) w fun cs=>ckB (fitsOpen (some ⟨b,0,none⟩) B6 w) (apd B6 1 (some ⟨b,0,none⟩) 0 0 sn cs w fun a an ac w1=>some (.slice a an ac,w1))):=by kernel_rfl
def B54:Cuts:={ globs:=0,loops:=[(3,[3,12,13,14])],regs:=[],plans:=[(5,⟨[0,1,2,3,4,5,6,7,8,9,10,11,12,13],[0,0,2,6,14,0,32,96,224,480,1022,2047,4095,8191],[],[]⟩)] }
def Du7:List Item:=A4 Tryz.f123
def Bi6:List Item:=stk [0,1,0,1,0,0,1,4,5] Du7
theorem Ha0 (C:A1) (R:A3) (frames:Option Addr) (framesn framesc:Nat) (h:H) :
 A5 PR B54 C R Aq1 Tryz.f123 100000 true Du7 [(0,.slice frames framesn framesc)] h =
 nw (.cells Au5 false [.slice none 0 0]) h fun b w=>ckB (fitsOpen frames B6 w) (ck ((0:Int)≤mm2 false ((framesn:Nat):Int) 4∧mm2 false ((framesn:Nat):Int) 4≤((framesc:Nat):Int)) (R Aq1 Bi6 [(3,.pointer (some ⟨b,0,none⟩)),(12,.slice (H0 frames (decide (0<framesc)) (0*1)) ((Int.toNat (mm2 false ((framesn:Nat):Int) 4))-0) (framesc-0)),(13,.int .i64 (((Int.toNat (mm2 false ((framesn:Nat):Int) 4))-0:Nat):Int)),(14,.int .i64 0)] w)):=by kernel_rfl
theorem Dy4 (C:A1) (R:A3) (q:Addr) (x12:Option Addr) (x12n x12c:Nat) (x13:Int) (x14:Int) (h:H) :
 A5 PR B54 C R Aq1 Tryz.f123 100000 true Bi6 [(3,.pointer (some q)),(12,.slice x12 x12n x12c),(13,.int .i64 x13),(14,.int .i64 x14)] h =
 cond (decide (x14<x13))
 (aSome x12 fun p=>ck ((0:Int)≤x14∧x14<((x12n:Nat):Int)) (gInt .i64 (Addr.add (A9 p) (Int.toNat x14*1)) h fun x=>gSl (Addr.add q 0) h fun x_1 xn xc=>ck ((0:Int)≤mm2 false (mm2 true x 0) 64∧(mm2 false (mm2 true x 0) 64:Int)≤mm2 false (mm2 true x 0) 64∧mm2 false (mm2 true x 0) 64≤(A8:Int)) (nw (.cells B6 false (I1 (Int.toNat (mm2 false (mm2 true x 0) 64)) [.int .i64 0])) h fun b w=>nw (.cells P6 false [.slice (some ⟨b,0,none⟩) (Int.toNat (mm2 false (mm2 true x 0) 64)) (Int.toNat (mm2 false (mm2 true x 0) 64))]) w fun b_1 w1=>gCells (some ⟨b_1,0,none⟩) (1*1) w1 fun cs=>ckB (fitsOpen x_1 P6 w1) (apd P6 1 x_1 xn xc 1 cs w1 fun a an ac w2=>pV (Addr.add q 0) (.slice a an ac) w2 fun w3=>R Aq1 Bi6 [(3,.pointer (some q)),(12,.slice x12 x12n x12c),(13,.int .i64 x13),(14,.int .i64 (IntKind.wrap .i64 (x14+1)))] w3))))
 (some (.pointer (some q),h)):=by kernel_rfl
def Dm6:Cuts:={ globs:=0,loops:=[],regs:=[],plans:=[] }
def El2:List Item:=A4 Tryz.f124
theorem Gz4 (C:A1) (R:A3) (m:Option Addr) (s:Option Addr) (h:H) :
 A5 PR Dm6 C R Bu9 Tryz.f124 100000 true El2 [(0,.pointer m),(1,.pointer s)] h =
 nw (.cells Dm2 false [.pointer m,.pointer s,.slice none 0 0]) h fun b w=>some (.pointer (some ⟨b,0,none⟩),w):=by kernel_rfl
def Bc9:Cuts:={ globs:=0,loops:=[(3,[0,3,4])],regs:=[],plans:=[(5,⟨[0,1,2,3,4,5,6,7,8,9,10,11,12,13,14,15,16],[0,0,2,6,14,0,0,96,224,480,992,2016,4064,8190,16383,32767,65535],[],[]⟩)] }
def By6:List Item:=A4 Tryz.f129
def Ax6:List Item:=stk [0,1,0,1,0,0,1,4,5] By6
theorem E58 (C:A1) (R:A3) (l:Option Addr) (ln lc:Nat) (h:H) :
 A5 PR Bc9 C R Y8 Tryz.f129 100000 true By6 [(0,.slice l ln lc)] h =
 nw (.cells Ek9 false [.slice none 0 0]) h fun b w=>R Y8 Ax6 [(0,.slice l ln lc),(3,.pointer (some ⟨b,0,none⟩)),(4,.int .i64 0)] w:=by kernel_rfl
theorem B92 (C:A1) (R:A3) (l:Option Addr) (ln lc:Nat) (q:Addr) (i:Int) (h:H) :
 A5 PR Bc9 C R Y8 Tryz.f129 100000 true Ax6 [(0,.slice l ln lc),(3,.pointer (some q)),(4,.int .i64 i)] h =
 bnd (cond (decide (i<((ln:Nat):Int))) (some (decide (i<4),h)) (some (false,h))) fun c w=>cond c
 (gSl (Addr.add q 0) w fun x xn xc=>aSome l fun p=>ck ((0:Int)≤i∧i<((ln:Nat):Int)) (gInt .i64 (Addr.add (A9 p) (Int.toNat i*1)) w fun x_1=>ck ((0:Int)≤mm2 false (mm2 true x_1 0) 64∧(mm2 false (mm2 true x_1 0) 64:Int)≤mm2 false (mm2 true x_1 0) 64∧mm2 false (mm2 true x_1 0) 64≤(A8:Int)) (nw (.cells E99 false (I1 (Int.toNat (mm2 false (mm2 true x_1 0) 64)) [.bool false])) w fun b w1=>nw (.cells Do0 false [.slice (some ⟨b,0,none⟩) (Int.toNat (mm2 false (mm2 true x_1 0) 64)) (Int.toNat (mm2 false (mm2 true x_1 0) 64))]) w1 fun b_1 w2=>gCells (some ⟨b_1,0,none⟩) (1*1) w2 fun cs=>ckB (fitsOpen x Do0 w2) (apd Do0 1 x xn xc 1 cs w2 fun a an ac w3=>pV (Addr.add q 0) (.slice a an ac) w3 fun w4=>R Y8 Ax6 [(0,.slice l ln lc),(3,.pointer (some q)),(4,.int .i64 (IntKind.wrap .i64 (i+1)))] w4))))
 (some (.pointer (some q),w)):=by kernel_rfl
def Be5:Cuts:={ globs:=0,loops:=[],regs:=[],plans:=[(5,⟨[0,1,2,3,4,5,6,7,9,10,11,12,13,14,8,15,16,17,18,19,20,21],[0,0,0,4,12,28,0,64,252,0,512,1536,3584,0,8192,32764,65533,131069,262141,524287,1048575,2097151],[(8,[12])],[]⟩)] }
def B89:List Item:=A4 Tryz.f133
theorem Ei5 (C:A1) (R:A3) (r:Option Addr) (lo:Int) (n:Int) (h:H) :
 A5 PR Be5 C R Aw9 Tryz.f133 100000 true B89 [(0,.pointer r),(1,.int .i64 lo),(2,.int .i64 n)] h =
 aSome r fun p=>gSl (Addr.add p 0) h fun _ xn _=>bnd (C Ae9 [.int .i64 lo,.int .i64 n,.int .i64 ((xn:Nat):Int)] h) fun r_1 w=>aBool r_1 fun x_1=>cond (!x_1)
 (some (.tuple ⟨[.int .i64 0,.int .i64 1]⟩,w))
 (aSome r fun p_1=>gSl (Addr.add p_1 1) w fun _ xn_1 _=>cond (decide (((xn_1:Nat):Int)≥32))
 (some (.tuple ⟨[.int .i64 0,.int .i64 4]⟩,w))
 (aSome r fun p_2=>gSl (Addr.add p_2 1) w fun x_3 xn_2 xc_2=>nw (.cells B6 false [.int .i64 lo]) w fun b w1=>aSome r fun p_3=>gSl (Addr.add p_3 2) w1 fun x_4 xn_3 xc_3=>nw (.cells B6 false [.int .i64 n]) w1 fun b_1 w2=>gCells (some ⟨b,0,none⟩) (1*1) w2 fun cs=>ckB (fitsOpen x_3 B6 w2) (apd B6 1 x_3 xn_2 xc_2 1 cs w2 fun a an ac w3=>gSl (Addr.add p_3 2) w3 fun x_5 xn_4 xc_4=>same (.slice x_4 xn_3 xc_3) (.slice x_5 xn_4 xc_4) (gCells (some ⟨b_1,0,none⟩) (1*1) w3 fun cs_1=>ckB (fitsOpen x_4 B6 w3) (apd B6 1 x_4 xn_3 xc_3 1 cs_1 w3 fun a_1 an_1 ac_1 w4=>aSome r fun p_4=>pV (Addr.add p_4 1) (.slice a an ac) w4 fun w5=>aSome r fun p_5=>pV (Addr.add p_5 2) (.slice a_1 an_1 ac_1) w5 fun w6=>aSome r fun p_6=>gSl (Addr.add p_6 1) w6 fun _ xn_5 _=>some (.tuple ⟨[.int .i64 (IntKind.wrap .i64 (((xn_5:Nat):Int)-1)),.int .i64 0]⟩,w6)))))):=by kernel_rfl
def Bk0:Cuts:={ globs:=0,loops:=[],regs:=[],plans:=[] }
def Dc4:List Item:=A4 Tryz.f136
theorem Es9 (C:A1) (R:A3) (k:Option Addr) (h:H) :
 A5 PR Bk0 C R Al7 Tryz.f136 100000 true Dc4 [(0,.pointer k)] h =
 aSome k fun p=>gPtr (Addr.add p 3) h fun x=>some (.pointer x,h):=by kernel_rfl
def A44:Cuts:={ globs:=0,loops:=[],regs:=[],plans:=[] }
def Bu2:List Item:=A4 Tryz.f139
theorem Dy6 (C:A1) (R:A3) (r:Option Addr) (env:Int) (name:Int) (atv:Int) (n:Int) (h:H) :
 A5 PR A44 C R Ab8 Tryz.f139 100000 true Bu2 [(0,.pointer r),(1,.int .i64 env),(2,.int .i64 name),(3,.int .i64 atv),(4,.int .i64 n)] h =
 bnd (C Aa2 [.pointer r,.int .i64 env,.int .i64 name,.int .i64 1,.int .i64 atv,.int .i64 n] h) fun r_1 w=>as2 r_1 fun r_2 r_3=>aInt .i64 r_2 fun x=>aInt .i64 r_3 fun x_1=>cond (x_1 != 0)
 (some (.tuple ⟨[.slice none 0 0,.int .i64 x_1]⟩,w))
 (aSome r fun p=>gPtr (Addr.add p 0) w fun x_2=>bnd (C Bh2 [.pointer x_2,.int .i64 x,.int .i64 n] w) fun r_4 w1=>as2 r_4 fun r_5 r_6=>aSl r_5 fun x_3 xn xc=>aInt .i64 r_6 fun x_4=>some (.tuple ⟨[.slice x_3 xn xc,.int .i64 x_4]⟩,w1)):=by kernel_rfl
def Bf5:Cuts:={ globs:=0,loops:=[],regs:=[],plans:=[] }
def B73:List Item:=A4 Tryz.f142
theorem En5 (C:A1) (R:A3) (s:Option Addr) (env:Int) (name:Int) (to:Int) (give:Int) (lo:Int) (n:Int) (h:H) :
 A5 PR Bf5 C R Aw4 Tryz.f142 100000 true B73 [(0,.pointer s),(1,.int .i64 env),(2,.int .i64 name),(3,.int .i64 to),(4,.int .i64 give),(5,.int .i64 lo),(6,.int .i64 n)] h =
 bnd (C Ar6 [.pointer s,.int .i64 env,.int .i64 name] h) fun r w=>as2 r fun r_1 r_2=>aAgg r_1 fun x=>aInt .i64 r_2 fun x_1=>nw (.cells O6 false [.int .i64 0,.int .i64 0,.int .i64 0,.int .i64 0,.int .i64 0,.int .i64 0]) w fun b w1=>ck (List.length x=6) (pAgg ⟨b,0,none⟩ x w1 fun w2=>cond (x_1 != 0)
 (some (.tuple ⟨[.int .i64 0,.int .i64 x_1]⟩,w2))
 (gInt .i64 (Addr.add ⟨b,0,none⟩ 1) w2 fun x_2=>bnd (cond ((I4 .i64 x_2 4)==0) (some (true,w2)) (gInt .i64 (Addr.add ⟨b,0,none⟩ 1) w2 fun x_3=>some ((El0 .i64 give x_3) != 0,w2))) fun c w3=>cond c
 (some (.tuple ⟨[.int .i64 0,.int .i64 3]⟩,w3))
 (bnd (C Ad6 [.pointer s,.int .i64 to] w3) fun r_3 w4=>aBool r_3 fun x_4=>bnd (cond (!x_4) (some (true,w4)) (some (decide (lo<0),w4))) fun c_1 w5=>bnd (cond c_1 (some (true,w5)) (some (decide (n<0),w5))) fun c_2 w6=>bnd (cond c_2 (some (true,w6)) (gInt .i64 (Addr.add ⟨b,0,none⟩ 3) w6 fun x_5=>some (decide (lo>x_5),w6))) fun c_3 w7=>bnd (cond c_3 (some (true,w7)) (gInt .i64 (Addr.add ⟨b,0,none⟩ 3) w7 fun x_6=>some (decide (n>(IntKind.wrap .i64 (x_6-lo))),w7))) fun c_4 w8=>cond c_4
 (some (.tuple ⟨[.int .i64 0,.int .i64 1]⟩,w8))
 (gInt .i64 (Addr.add ⟨b,0,none⟩ 0) w8 fun x_7=>gInt .i64 (Addr.add ⟨b,0,none⟩ 2) w8 fun x_8=>bnd (C Ar2 [.pointer s,.int .i64 to,.agg ⟨[.int .i64 x_7,.int .i64 give,.int .i64 (IntKind.wrap .i64 (x_8+lo)),.int .i64 n,.int .i64 env,.int .i64 name]⟩] w8) fun r_4 w9=>as2 r_4 fun r_5 r_6=>aInt .i64 r_5 fun x_9=>aInt .i64 r_6 fun x_10=>some (.tuple ⟨[.int .i64 x_9,.int .i64 x_10]⟩,w9))))):=by kernel_rfl
def Bg8:Cuts:={ globs:=0,loops:=[],regs:=[],plans:=[] }
def B97:List Item:=A4 Tryz.f145
theorem Ei9 (C:A1) (R:A3) (q:Option Addr) (s:Int) (k:Int) (h:H) :
 A5 PR Bg8 C R Aw8 Tryz.f145 100000 true B97 [(0,.pointer q),(1,.int .i64 s),(2,.int .i64 k)] h =
 bnd (C Ah5 [.pointer q,.int .i64 s] h) fun r w=>aBool r fun x=>cond (!x)
 (some (.int .i64 1,w))
 (bnd (C Aw3 [.pointer q,.int .i64 s,.int .i64 k] w) fun r_1 w1=>aBool r_1 fun x_1=>cond (!x_1)
 (some (.int .i64 5,w1))
 (aSome q fun p=>gSl (Addr.add p 0) w1 fun x_2 xn _=>aSome x_2 fun p_1=>ck ((0:Int)≤s∧s<((xn:Nat):Int)) (gSl (Addr.add (A9 p_1) (Int.toNat s*1)) w1 fun x_3 xn_1 _=>aSome x_3 fun p_2=>ck ((0:Int)≤k∧k<((xn_1:Nat):Int)) (pV (Addr.add (A9 p_2) (Int.toNat k*1)) (.int .i64 0) w1 fun w2=>some (.int .i64 0,w2))))):=by kernel_rfl
def Bs6:Cuts:={ globs:=0,loops:=[],regs:=[],plans:=[(4,⟨[0,1,2,3,4,5,6,7,8,9,10,11],[0,1,3,7,0,31,63,0,128,0,1023,2047],[],[]⟩)] }
def Do1:List Item:=A4 Tryz.f152
theorem E06 (C:A1) (R:A3) (s:Option Addr) (e:Int) (c:List Value) (h:H) :
 A5 PR Bs6 C R A68 Tryz.f152 100000 true Do1 [(0,.pointer s),(1,.int .i64 e),(2,.agg ⟨c⟩)] h =
 nw (.cells O6 false c) h fun b w=>aSome s fun p=>gSl (Addr.add p 0) w fun x xn _=>aSome x fun p_1=>ck ((0:Int)≤e∧e<((xn:Nat):Int)) (gPtr (Addr.add (A9 p_1) (Int.toNat e*1)) w fun x_1=>bnd (C V8 [.pointer x_1] w) fun r w1=>as2 r fun r_1 r_2=>aInt .i64 r_1 fun x_2=>aBool r_2 fun x_3=>cond (!x_3)
 (some (.tuple ⟨[.int .i64 0,.int .i64 4]⟩,w1))
 (aSome s fun p_2=>gSl (Addr.add p_2 1) w1 fun x_4 xn_1 _=>aSome x_4 fun p_3=>ck ((0:Int)≤e∧e<((xn_1:Nat):Int)) (gSl (Addr.add (A9 p_3) (Int.toNat e*1)) w1 fun x_5 xn_2 _=>gAgg ⟨b,0,none⟩ 6 w1 fun x_6=>aSome x_5 fun p_4=>ck ((0:Int)≤I4 .i64 x_2 255∧I4 .i64 x_2 255<((xn_2:Nat):Int)) (ck (List.length x_6=6) (pAgg (Addr.add (A9 p_4) (Int.toNat (I4 .i64 x_2 255)*6)) x_6 w1 fun w2=>some (.tuple ⟨[.int .i64 x_2,.int .i64 0]⟩,w2)))))):=by kernel_rfl
def Db6:Cuts:={ globs:=0,loops:=[],regs:=[],plans:=[] }
def Eb4:List Item:=A4 Tryz.f160
theorem Gq7 (C:A1) (R:A3) (b:Option Addr) (bn bc:Nat) (h:H) :
 A5 PR Db6 C R Ak8 Tryz.f160 100000 true Eb4 [(0,.slice b bn bc)] h =
 bnd (C P2 [.slice b bn bc,.func (.func Ad7) ⟨[]⟩ ⟨[]⟩] h) fun r w=>aBool r fun x=>some (.bool (!x),w):=by kernel_rfl
def Da4:Cuts:={ globs:=0,loops:=[],regs:=[],plans:=[] }
def Eb8:List Item:=A4 Tryz.f161
theorem Gp5 (C:A1) (R:A3)  (h:H) :
 A5 PR Da4 C R A96 Tryz.f161 100000 true Eb8 [] h =
 bnd (C Ao4 [.int .i64 8,.func (.func Ap9) ⟨[]⟩ ⟨[]⟩,.func (.func Ap6) ⟨[]⟩ ⟨[]⟩] h) fun r w=>aPtr r fun x=>some (.pointer x,w):=by kernel_rfl
def Ag1:Cuts:={ globs:=0,loops:=[],regs:=[],plans:=[(2,⟨[0,1,2,3,4,5,6,7,8,9,10,11,12,13,14],[0,1,3,7,15,31,63,127,255,511,63,63,4095,8191,16383],[],[]⟩)] }
def Az5:List Item:=A4 Tryz.f169
theorem B07 (C:A1) (R:A3) (c:Option Addr) (v:List Value) (h:H) :
 A5 PR Ag1 C R V2 Tryz.f169 100000 true Az5 [(0,.pointer c),(1,.agg ⟨v⟩)] h =
 nw (.cells D7 false v) h fun b w=>aSome c fun p=>gInt .i64 (Addr.add p 0) w fun x=>ck ((0:Int)≤x∧(x:Int)≤x∧x≤(A8:Int)) (nw (.cells A2 false (I1 (Int.toNat x) [.int .u8 0])) w fun b_1 w1=>aSome c fun p_1=>gFv (Addr.add p_1 1) w1 fun x_1=>isNilF x_1 fun b_2=>bnd (cond b_2 (some (true,w1)) (aSome c fun p_2=>gFv (Addr.add p_2 1) w1 fun x_2=>gAgg ⟨b,0,none⟩ 16 w1 fun x_3=>aFn x_2 fun g fi cp=>bnd (C g (fi++([.agg ⟨x_3⟩,.slice (some ⟨b_1,0,none⟩) (Int.toNat x) (Int.toNat x)]++cp)) w1) fun r w2=>aBool r fun x_4=>some (!x_4,w2))) fun c_1 w3=>cond c_1
 (some (.tuple ⟨[.slice none 0 0,.bool false]⟩,w3))
 (some (.tuple ⟨[.slice (some ⟨b_1,0,none⟩) (Int.toNat x) (Int.toNat x),.bool true]⟩,w3))):=by kernel_rfl
def Dk3:Cuts:={ globs:=0,loops:=[],regs:=[],plans:=[] }
def Eo0:List Item:=A4 Tryz.f177
theorem G08 (C:A1) (R:A3) (c:List Value) (x:List Value) (h:H) :
 A5 PR Dk3 C R Bz0 Tryz.f177 100000 true Eo0 [(0,.agg ⟨c⟩),(1,.agg ⟨x⟩)] h =
 nw (.cells E0 false c) h fun b w=>nw (.cells I5 false x) w fun b_1 w1=>gInt .i64 (Addr.add ⟨b_1,0,none⟩ 0) w1 fun x_1=>bnd (cond (decide (x_1<0)) (some (true,w1)) (gInt .i64 (Addr.add ⟨b_1,0,none⟩ 0) w1 fun x_2=>gSl (Addr.add ⟨b,0,none⟩ 0) w1 fun _ xn _=>some (decide (x_2≥((xn:Nat):Int)),w1))) fun c_1 w2=>bnd (cond c_1 (some (true,w2)) (gInt .i64 (Addr.add ⟨b_1,0,none⟩ 1) w2 fun x_4=>some (decide (x_4<0),w2))) fun c_2 w3=>bnd (cond c_2 (some (true,w3)) (gInt .i64 (Addr.add ⟨b_1,0,none⟩ 2) w3 fun x_5=>some (decide (x_5<0),w3))) fun c_3 w4=>bnd (cond c_3 (some (true,w4)) (gInt .i64 (Addr.add ⟨b_1,0,none⟩ 3) w4 fun x_6=>some (decide (x_6<0),w4))) fun c_4 w5=>cond c_4
 (some (.bool false,w5))
 (gSl (Addr.add ⟨b,0,none⟩ 0) w5 fun x_7 xn_1 _=>gInt .i64 (Addr.add ⟨b_1,0,none⟩ 0) w5 fun x_8=>aSome x_7 fun p=>ck ((0:Int)≤x_8∧x_8<((xn_1:Nat):Int)) (gInt .i64 (Addr.add (A9 p) (Int.toNat x_8*1)) w5 fun x_9=>bnd (C A89 [.int .i64 x_9] w5) fun r w6=>aInt .i64 r fun x_10=>gInt .i64 (Addr.add ⟨b_1,0,none⟩ 1) w6 fun x_11=>cond (decide (x_11>x_10))
 (some (.bool false,w6))
 (gInt .i64 (Addr.add ⟨b_1,0,none⟩ 1) w6 fun x_12=>gInt .i64 (Addr.add ⟨b_1,0,none⟩ 2) w6 fun x_13=>bnd (cond (decide (x_13≤(IntKind.wrap .i64 ((IntKind.wrap .i64 (x_10-x_12))*64)))) (gInt .i64 (Addr.add ⟨b_1,0,none⟩ 3) w6 fun x_14=>gInt .i64 (Addr.add ⟨b_1,0,none⟩ 2) w6 fun x_15=>some (decide (x_14≤(IntKind.wrap .i64 ((IntKind.wrap .i64 ((IntKind.wrap .i64 (x_10-x_12))*64))-x_15))),w6)) (some (false,w6))) fun c_5 w7=>some (.bool c_5,w7)))):=by kernel_rfl
def Bz7:Cuts:={ globs:=0,loops:=[],regs:=[],plans:=[] }
def Dr0:List Item:=A4 Tryz.f181
theorem E45 (C:A1) (R:A3) (s:Option Addr) (env:Int) (h:H) :
 A5 PR Bz7 C R Ad6 Tryz.f181 100000 true Dr0 [(0,.pointer s),(1,.int .i64 env)] h =
 bnd (cond (decide (env≥0)) (aSome s fun p=>gSl (Addr.add p 0) h fun _ xn _=>some (decide (env<((xn:Nat):Int)),h)) (some (false,h))) fun c w=>some (.bool c,w):=by kernel_rfl
def Bg4:Cuts:={ globs:=0,loops:=[],regs:=[],plans:=[] }
def B94:List Item:=A4 Tryz.f193
theorem Ej8 (C:A1) (R:A3) (q:Option Addr) (s:Int) (k:Int) (h:H) :
 A5 PR Bg4 C R Aw3 Tryz.f193 100000 true B94 [(0,.pointer q),(1,.int .i64 s),(2,.int .i64 k)] h =
 bnd (C Ah5 [.pointer q,.int .i64 s] h) fun r w=>aBool r fun x=>bnd (cond x (some (decide (k≥0),w)) (some (false,w))) fun c w1=>bnd (cond c (aSome q fun p=>gSl (Addr.add p 0) w1 fun x_1 xn _=>aSome x_1 fun p_1=>ck ((0:Int)≤s∧s<((xn:Nat):Int)) (gSl (Addr.add (A9 p_1) (Int.toNat s*1)) w1 fun _ xn_1 _=>some (decide (k<((xn_1:Nat):Int)),w1))) (some (false,w1))) fun c_1 w2=>bnd (cond c_1 (aSome q fun p_2=>gSl (Addr.add p_2 0) w2 fun x_3 xn_2 _=>aSome x_3 fun p_3=>ck ((0:Int)≤s∧s<((xn_2:Nat):Int)) (gSl (Addr.add (A9 p_3) (Int.toNat s*1)) w2 fun x_4 xn_3 _=>aSome x_4 fun p_4=>ck ((0:Int)≤k∧k<((xn_3:Nat):Int)) (gInt .i64 (Addr.add (A9 p_4) (Int.toNat k*1)) w2 fun x_5=>some (decide (x_5>0),w2)))) (some (false,w2))) fun c_2 w3=>some (.bool c_2,w3):=by kernel_rfl
def Q8:Cuts:={ globs:=0,loops:=[(18,[0,1,2])],regs:=[(10,[0,1,2]),(11,[0,1,2]),(14,[0,1,2]),(17,[])],plans:=[(11,⟨[0,1,2,3,4,5,6,7,8,9,10,11,12,13,14,15,16],[0,1,3,7,15,31,31,95,223,479,1023,31,2079,6175,14367,32767,65535],[],[]⟩),(18,⟨[0,1,2,3,4,5,6,7,8,9,10,11,12,13,14,15,16,17,18,19,20],[0,1,3,7,15,31,0,127,255,511,511,1535,3583,7679,16383,511,33279,98815,229887,524287,1048575],[],[]⟩)] }
def Y5:List Item:=A4 Tryz.f195
def Am1:List Item:=stk [0,1,0,1,0,1,0,1,0,1,0,0,1,2,0,1] Y5
def Ao6:List Item:=stk [0,1,0,1,0,1,0,1,0,1,0,1,0,0] Y5
def Am8:List Item:=stk [0,1,0,1,0,1,0,1,0,1,0,1,0,1,0,0] Y5
def Ap2:List Item:=stk [0,1,0,1,0,1,0,1,0,1,0,1,0,1,0,0,1,2,0,1,0] Y5
def Ae5:List Item:=stk [0,1,0,1,0,1,0,1,0,1,0,1,0,1,0,1,0,4,5] Y5
theorem Es5 (C:A1) (R:A3) (s:Option Addr) (who:Int) (now:Int) (h:H) :
 A5 PR Q8 C R B9 Tryz.f195 100000 true Y5 [(0,.pointer s),(1,.int .i64 who),(2,.int .i64 now)] h =
 aSome s fun p=>gInt .i64 (Addr.add p 7) h fun x=>bnd (cond (decide (who<0)) (some (true,h)) (some (decide (who>99),h))) fun c w=>cond c
 (some (.tuple ⟨[.int .i64 0,.bool false]⟩,w))
 (aSome s fun p_1=>pV (Addr.add p_1 7) (.int .i64 (mm2 true now x)) w fun w1=>aSome s fun p_2=>gBool (Addr.add p_2 1) w1 fun x_1=>bnd (cond x_1 (aSome s fun p_3=>gInt .i64 (Addr.add p_3 2) w1 fun x_2=>some (x_2==who,w1)) (some (false,w1))) fun c_1 w2=>cond c_1
 (aSome s fun p_4=>gInt .i64 (Addr.add p_4 3) w2 fun x_3=>some (.tuple ⟨[.int .i64 x_3,.bool true]⟩,w2))
 (aSome s fun p_5=>gSl (Addr.add p_5 5) w2 fun x_4 xn xc=>bnd (C J0 [.slice x_4 xn xc,.int .i64 who] w2) fun r w3=>aBool r fun x_5=>cond (!x_5)
 (aSome s fun p_6=>gSl (Addr.add p_6 5) w3 fun _ xn_1 _=>cond (((xn_1:Nat):Int)==0)
 (aSome s fun p_7=>pV (Addr.add p_7 6) (.int .i64 (mm2 true now x)) w3 fun w4=>R B9 Am1 [(0,.pointer s),(1,.int .i64 who),(2,.int .i64 (mm2 true now x))] w4)
 (R B9 Am1 [(0,.pointer s),(1,.int .i64 who),(2,.int .i64 (mm2 true now x))] w3))
 (R B9 Ao6 [(0,.pointer s),(1,.int .i64 who),(2,.int .i64 (mm2 true now x))] w3))):=by kernel_rfl
theorem D86 (C:A1) (R:A3) (s:Option Addr) (who:Int) (now:Int) (h:H) :
 A5 PR Q8 C R B9 Tryz.f195 100000 true Am1 [(0,.pointer s),(1,.int .i64 who),(2,.int .i64 now)] h =
 aSome s fun p=>gSl (Addr.add p 5) h fun x xn xc=>nw (.cells B6 false [.int .i64 who]) h fun b w=>gCells (some ⟨b,0,none⟩) (1*1) w fun cs=>ckB (fitsOpen x B6 w) (apd B6 1 x xn xc 1 cs w fun a an ac w1=>aSome s fun p_1=>pV (Addr.add p_1 5) (.slice a an ac) w1 fun w2=>R B9 Ao6 [(0,.pointer s),(1,.int .i64 who),(2,.int .i64 now)] w2):=by kernel_rfl
theorem D19 (C:A1) (R:A3) (s:Option Addr) (who:Int) (now:Int) (h:H) :
 A5 PR Q8 C R B9 Tryz.f195 100000 true Ao6 [(0,.pointer s),(1,.int .i64 who),(2,.int .i64 now)] h =
 aSome s fun p=>gBool (Addr.add p 1) h fun x=>bnd (cond x (aSome s fun p_1=>gInt .i64 (Addr.add p_1 4) h fun x_1=>aSome s fun p_2=>gInt .i64 (Addr.add p_2 0) h fun x_2=>some (decide ((IntKind.wrap .i64 (now-x_1))≥x_2),h)) (some (false,h))) fun c w=>cond c
 (aSome s fun p_3=>pV (Addr.add p_3 1) (.bool false) w fun w1=>aSome s fun p_4=>pV (Addr.add p_4 6) (.int .i64 now) w1 fun w2=>R B9 Am8 [(0,.pointer s),(1,.int .i64 who),(2,.int .i64 now)] w2)
 (R B9 Am8 [(0,.pointer s),(1,.int .i64 who),(2,.int .i64 now)] w):=by kernel_rfl
theorem D27 (C:A1) (R:A3) (s:Option Addr) (who:Int) (now:Int) (h:H) :
 A5 PR Q8 C R B9 Tryz.f195 100000 true Am8 [(0,.pointer s),(1,.int .i64 who),(2,.int .i64 now)] h =
 aSome s fun p=>gBool (Addr.add p 1) h fun x=>cond x
 (aSome s fun p_1=>gSl (Addr.add p_1 5) h fun x_1 xn _=>aSome x_1 fun p_2=>ck ((0:Int)≤0∧0<((xn:Nat):Int)) (gInt .i64 (Addr.add (A9 p_2) (Int.toNat 0*1)) h fun x_2=>cond (x_2==who)
 (aSome s fun p_3=>pV (Addr.add p_3 6) (.int .i64 now) h fun w=>R B9 Ap2 [] w)
 (R B9 Ap2 [] h)))
 (R B9 Ae5 [(0,.pointer s),(1,.int .i64 who),(2,.int .i64 now)] h):=by kernel_rfl
theorem D99 (C:A1) (R:A3)  (h:H) :
 A5 PR Q8 C R B9 Tryz.f195 100000 true Ap2 [] h =
 some (.tuple ⟨[.int .i64 0,.bool false]⟩,h):=by kernel_rfl
theorem Bw7 (C:A1) (R:A3) (s:Option Addr) (who:Int) (now:Int) (h:H) :
 A5 PR Q8 C R B9 Tryz.f195 100000 true Ae5 [(0,.pointer s),(1,.int .i64 who),(2,.int .i64 now)] h =
 aSome s fun p=>gSl (Addr.add p 5) h fun x xn _=>aSome x fun p_1=>ck ((0:Int)≤0∧0<((xn:Nat):Int)) (gInt .i64 (Addr.add (A9 p_1) (Int.toNat 0*1)) h fun x_1=>bnd (cond (x_1 != who) (aSome s fun p_2=>gInt .i64 (Addr.add p_2 6) h fun x_2=>aSome s fun p_3=>gInt .i64 (Addr.add p_3 0) h fun x_3=>some (decide ((IntKind.wrap .i64 (now-x_2))≥x_3),h)) (some (false,h))) fun c w=>cond c
 (aSome s fun p_4=>gSl (Addr.add p_4 5) w fun x_4 xn_1 xc_1=>ckB (fitsOpen x_4 B6 w) (ck ((0:Int)≤1∧1≤((xn_1:Nat):Int)) (aSome s fun p_5=>pV (Addr.add p_5 5) (.slice (H0 x_4 (decide (Int.toNat 1<xc_1)) ((Int.toNat 1)*1)) (xn_1-(Int.toNat 1)) (xc_1-(Int.toNat 1))) w fun w1=>aSome s fun p_6=>pV (Addr.add p_6 6) (.int .i64 now) w1 fun w2=>R B9 Ae5 [(0,.pointer s),(1,.int .i64 who),(2,.int .i64 now)] w2)))
 (aSome s fun p_7=>gSl (Addr.add p_7 5) w fun x_5 xn_2 _=>aSome x_5 fun p_8=>ck ((0:Int)≤0∧0<((xn_2:Nat):Int)) (gInt .i64 (Addr.add (A9 p_8) (Int.toNat 0*1)) w fun x_6=>cond (x_6 != who)
 (some (.tuple ⟨[.int .i64 0,.bool false]⟩,w))
 (aSome s fun p_9=>gSl (Addr.add p_9 5) w fun x_7 xn_3 xc_3=>ckB (fitsOpen x_7 B6 w) (ck ((0:Int)≤1∧1≤((xn_3:Nat):Int)) (aSome s fun p_10=>pV (Addr.add p_10 5) (.slice (H0 x_7 (decide (Int.toNat 1<xc_3)) ((Int.toNat 1)*1)) (xn_3-(Int.toNat 1)) (xc_3-(Int.toNat 1))) w fun w3=>aSome s fun p_11=>pV (Addr.add p_11 6) (.int .i64 now) w3 fun w4=>aSome s fun p_12=>gInt .i64 (Addr.add p_12 8) w4 fun x_8=>aSome s fun p_13=>pV (Addr.add p_13 8) (.int .i64 (IntKind.wrap .i64 (x_8+1))) w4 fun w5=>aSome s fun p_14=>gInt .i64 (Addr.add p_14 8) w5 fun x_9=>aSome s fun p_15=>pV (Addr.add p_15 1) (.bool true) w5 fun w6=>aSome s fun p_16=>pV (Addr.add p_16 2) (.int .i64 who) w6 fun w7=>aSome s fun p_17=>pV (Addr.add p_17 3) (.int .i64 x_9) w7 fun w8=>aSome s fun p_18=>pV (Addr.add p_18 4) (.int .i64 now) w8 fun w9=>aSome s fun p_19=>gInt .i64 (Addr.add p_19 3) w9 fun x_10=>some (.tuple ⟨[.int .i64 x_10,.bool true]⟩,w9))))))):=by kernel_rfl
def Bk8:Cuts:={ globs:=0,loops:=[],regs:=[],plans:=[] }
def Dc3:List Item:=A4 Tryz.f196
theorem Et0 (C:A1) (R:A3) (s:Option Addr) (who:Int) (stamp:Int) (h:H) :
 A5 PR Bk8 C R A13 Tryz.f196 100000 true Dc3 [(0,.pointer s),(1,.int .i64 who),(2,.int .i64 stamp)] h =
 bnd (C A01 [.pointer s,.int .i64 who,.int .i64 stamp] h) fun r w=>aBool r fun x=>cond (!x)
 (some (.bool false,w))
 (aSome s fun p=>pV (Addr.add p 1) (.bool false) w fun w1=>aSome s fun p_1=>gInt .i64 (Addr.add p_1 7) w1 fun x_1=>aSome s fun p_2=>pV (Addr.add p_2 6) (.int .i64 x_1) w1 fun w2=>some (.bool true,w2)):=by kernel_rfl
def A81:Cuts:={ globs:=0,loops:=[],regs:=[],plans:=[] }
def Bx9:List Item:=A4 Tryz.f203
theorem D29 (C:A1) (R:A3) (size:Int) (put:Value) (get:Value) (h:H) :
 A5 PR A81 C R Ao4 Tryz.f203 100000 true Bx9 [(0,.int .i64 size),(1,put),(2,get)] h =
 one put (one get (nw (.cells Ai6 false [.int .i64 (mm2 false (mm2 true size 0) 64),put,get]) h fun b w=>some (.pointer (some ⟨b,0,none⟩),w))):=by kernel_rfl
def A75:Cuts:={ globs:=0,loops:=[],regs:=[],plans:=[] }
def Bx1:List Item:=A4 Tryz.f207
theorem D43 (C:A1) (R:A3) (size:Int) (put:Value) (get:Value) (h:H) :
 A5 PR A75 C R Ao3 Tryz.f207 100000 true Bx1 [(0,.int .i64 size),(1,put),(2,get)] h =
 one put (one get (nw (.cells Bl6 false [.int .i64 (mm2 false (mm2 true size 0) 64),put,get]) h fun b w=>some (.pointer (some ⟨b,0,none⟩),w))):=by kernel_rfl
def Bl9:Cuts:={ globs:=0,loops:=[(3,[0,2,4,31,32,33]),(8,[0,2,4,49])],regs:=[],plans:=[(1,⟨[0,1,2,3,4,5,6,7,8,9,10,11,12,13,14,15,16,17,18],[0,1,3,7,0,16,48,112,0,256,768,1792,0,4096,12288,28672,65535,0,262143],[],[]⟩),(13,⟨[0,1,2,3,4,5,6,7,8],[0,0,2,6,6,30,62,63,255],[(5,[0])],[]⟩)] }
def B64:List Item:=A4 Tryz.f212
def B38:List Item:=stk [0,1,0,1,0,0,1,4,5] B64
def B21:List Item:=stk [0,1,0,1,0,1,0,0,1,4,5] B64
theorem G64 (C:A1) (R:A3) (b:Option Addr) (bn bc:Nat) (h:H) :
 A5 PR Bl9 C R W3 Tryz.f212 100000 true B64 [(0,.slice b bn bc)] h =
 nw (.cells D7 false [.int .i64 0,.int .i64 0,.int .i64 0,.int .i64 0,.int .i64 0,.int .i64 0,.int .i64 0,.int .i64 0,.int .i64 0,.int .i64 0,.int .i64 0,.int .i64 0,.int .i64 0,.int .i64 0,.int .i64 0,.int .i64 0]) h fun b_1 w=>aSome b fun p=>ck ((0:Int)≤0∧0<((bn:Nat):Int)) (gInt .u8 (Addr.add (A9 p) (Int.toNat 0*1)) w fun x=>aSome b fun p_1=>ck ((0:Int)≤1∧1<((bn:Nat):Int)) (gInt .u8 (Addr.add (A9 p_1) (Int.toNat 1*1)) w fun x_1=>aSome b fun p_2=>ck ((0:Int)≤2∧2<((bn:Nat):Int)) (gInt .u8 (Addr.add (A9 p_2) (Int.toNat 2*1)) w fun x_2=>aSome b fun p_3=>ck ((0:Int)≤3∧3<((bn:Nat):Int)) (gInt .u8 (Addr.add (A9 p_3) (Int.toNat 3*1)) w fun x_3=>nw (.cells D7 false [.int .i64 0,.int .i64 0,.int .i64 0,.int .i64 0,.int .i64 0,.int .i64 0,.int .i64 0,.int .i64 0,.int .i64 0,.int .i64 0,.int .i64 0,.int .i64 0,.int .i64 0,.int .i64 0,.int .i64 0,.int .i64 0]) w fun b_2 w1=>pAgg ⟨b_2,0,none⟩ [.int .i64 (IntKind.wrap .i64 (x)),.int .i64 (IntKind.wrap .i64 (x_1)),.int .i64 (IntKind.wrap .i64 (x_2)),.int .i64 (IntKind.wrap .i64 (x_3)),.int .i64 0,.int .i64 0,.int .i64 0,.int .i64 0,.int .i64 0,.int .i64 0,.int .i64 0,.int .i64 0,.int .i64 0,.int .i64 0,.int .i64 0,.int .i64 0] w1 fun w2=>nw (.cells Ic1 false [.pointer (some (Addr.add ⟨b_2,0,none⟩ 4)),.pointer (some (Addr.add ⟨b_2,0,none⟩ 5)),.pointer (some (Addr.add ⟨b_2,0,none⟩ 6)),.pointer (some (Addr.add ⟨b_2,0,none⟩ 7))]) w2 fun b_3 w3=>R W3 B38 [(0,.slice b bn bc),(2,.pointer (some ⟨b_1,0,none⟩)),(4,.pointer (some ⟨b_2,0,none⟩)),(31,.slice (some ⟨b_3,0,none⟩) 4 4),(32,.int .i64 4),(33,.int .i64 0)] w3)))):=by kernel_rfl
theorem A22 (C:A1) (R:A3) (b:Option Addr) (bn bc:Nat) (x2:Addr) (p:Addr) (x31:Option Addr) (x31n x31c:Nat) (x32:Int) (x33:Int) (h:H) :
 A5 PR Bl9 C R W3 Tryz.f212 100000 true B38 [(0,.slice b bn bc),(2,.pointer (some x2)),(4,.pointer (some p)),(31,.slice x31 x31n x31c),(32,.int .i64 x32),(33,.int .i64 x33)] h =
 cond (decide (x33<x32))
 (aSome x31 fun p_1=>ck ((0:Int)≤x33∧x33<((x31n:Nat):Int)) (gPtr (Addr.add (A9 p_1) (Int.toNat x33*1)) h fun x=>bnd (C Bx0 [.slice b bn bc,.int .i64 (IntKind.wrap .i64 (4+(IntKind.wrap .i64 (2*x33))))] h) fun r w=>as2 r fun r_1 r_2=>aInt .i64 r_1 fun x_1=>aBool r_2 fun _=>aSome x fun p_2=>pV p_2 (.int .i64 x_1) w fun w1=>R W3 B38 [(0,.slice b bn bc),(2,.pointer (some x2)),(4,.pointer (some p)),(31,.slice x31 x31n x31c),(32,.int .i64 x32),(33,.int .i64 (IntKind.wrap .i64 (x33+1)))] w1))
 (R W3 B21 [(0,.slice b bn bc),(2,.pointer (some x2)),(4,.pointer (some p)),(49,.int .i64 0)] h):=by kernel_rfl
theorem W5 (C:A1) (R:A3) (b:Option Addr) (bn bc:Nat) (x2:Addr) (p:Addr) (x49:Int) (h:H) :
 A5 PR Bl9 C R W3 Tryz.f212 100000 true B21 [(0,.slice b bn bc),(2,.pointer (some x2)),(4,.pointer (some p)),(49,.int .i64 x49)] h =
 cond (decide (x49<8))
 (aSome b fun p_1=>ck ((0:Int)≤IntKind.wrap .i64 (12+x49)∧IntKind.wrap .i64 (12+x49)<((bn:Nat):Int)) (gInt .u8 (Addr.add (A9 p_1) (Int.toNat (IntKind.wrap .i64 (12+x49))*1)) h fun x=>ck ((0:Int)≤x49∧x49<((8:Nat):Int)) (pV (Addr.add (Addr.add p 8) (Int.toNat x49*1)) (.int .i64 (IntKind.wrap .i64 (x))) h fun w=>R W3 B21 [(0,.slice b bn bc),(2,.pointer (some x2)),(4,.pointer (some p)),(49,.int .i64 (IntKind.wrap .i64 (x49+1)))] w)))
 (gAgg p 16 h fun x_1=>bnd (C A37 [.agg ⟨x_1⟩] h) fun r w1=>as2 r fun r_1 r_2=>aSl r_1 fun x_2 xn xc=>aBool r_2 fun x_3=>gAgg p 16 w1 fun x_4=>bnd (cond x_3 (bnd (C D4 [.slice x_2 xn xc,.slice b bn bc] w1) fun r_3 w2=>aBool r_3 fun x_5=>gAgg p 16 w2 fun x_6=>same (.agg ⟨x_4⟩) (.agg ⟨x_6⟩) (some (x_5,w2))) (some (false,w1))) fun c w3=>ck (List.length x_4=16) (pAgg x2 x_4 w3 fun w4=>gAgg x2 16 w4 fun x_7=>some (.tuple ⟨[.agg ⟨x_7⟩,.bool c]⟩,w4))):=by kernel_rfl
def W4:Cuts:={ globs:=0,loops:=[(2,[0,1,7,8])],regs:=[],plans:=[] }
def Ah7:List Item:=A4 Tryz.f213
def M7:List Item:=stk [0,1,0,0,1,4,5] Ah7
theorem A48 (C:A1) (R:A3) (s:Option Addr) (sn sc:Nat) (f:Value) (h:H) :
 A5 PR W4 C R D8 Tryz.f213 100000 true Ah7 [(0,.slice s sn sc),(1,f)] h =
 R D8 M7 [(0,.slice s sn sc),(1,f),(7,.int .i64 ((sn:Nat):Int)),(8,.int .i64 0)] h:=by kernel_rfl
theorem Q2 (C:A1) (R:A3) (s:Option Addr) (sn sc:Nat) (f:Value) (x7:Int) (x8:Int) (h:H) :
 A5 PR W4 C R D8 Tryz.f213 100000 true M7 [(0,.slice s sn sc),(1,f),(7,.int .i64 x7),(8,.int .i64 x8)] h =
 cond (decide (x8<x7))
 (aSome s fun p=>ck ((0:Int)≤x8∧x8<((sn:Nat):Int)) (gInt .i64 (Addr.add (A9 p) (Int.toNat x8*1)) h fun x=>aFn f fun g fi cp=>bnd (C g (fi++([.int .i64 x]++cp)) h) fun r w=>aBool r fun x_1=>cond x_1
 (some (.int .i64 x8,w))
 (R D8 M7 [(0,.slice s sn sc),(1,f),(7,.int .i64 x7),(8,.int .i64 (IntKind.wrap .i64 (x8+1)))] w)))
 (some (.int .i64 (-1),h)):=by kernel_rfl
def Ac3:Cuts:={ globs:=0,loops:=[(2,[0,3,11,12,13])],regs:=[],plans:=[(5,⟨[0,1,2,3,4,5,6,7,8,9,10,11,12,13,14,15,16],[0,1,3,7,0,0,32,96,224,0,0,1535,3583,7679,16383,32767,65535],[],[]⟩)] }
def Al9:List Item:=A4 Tryz.f214
def W9:List Item:=stk [0,1,0,0,1,4,5] Al9
theorem Dg5 (C:A1) (R:A3) (t:Option Addr) (v:List Value) (h:H) :
 A5 PR Ac3 C R H8 Tryz.f214 100000 true Al9 [(0,.pointer t),(1,.agg ⟨v⟩)] h =
 nw (.cells O6 false v) h fun b w=>aSome t fun p=>gSl (Addr.add p 0) w fun x xn xc=>R H8 W9 [(0,.pointer t),(3,.pointer (some ⟨b,0,none⟩)),(11,.slice x xn xc),(12,.int .i64 ((xn:Nat):Int)),(13,.int .i64 0)] w:=by kernel_rfl
theorem A43 (C:A1) (R:A3) (t:Option Addr) (v:Addr) (x11:Option Addr) (x11n x11c:Nat) (x12:Int) (x13:Int) (h:H) :
 A5 PR Ac3 C R H8 Tryz.f214 100000 true W9 [(0,.pointer t),(3,.pointer (some v)),(11,.slice x11 x11n x11c),(12,.int .i64 x12),(13,.int .i64 x13)] h =
 cond (decide (x13<x12))
 (aSome x11 fun p=>ck ((0:Int)≤x13∧x13<((x11n:Nat):Int)) (gAgg (Addr.add (A9 p) (Int.toNat x13*8)) 8 h fun x=>nw (.cells Ak6 false [.int .i64 0,.int .i64 0,.int .i64 0,.int .i64 0,.int .i64 0,.int .i64 0,.int .i64 0,.bool false]) h fun b w=>ck (List.length x=8) (pAgg ⟨b,0,none⟩ x w fun w1=>gBool (Addr.add ⟨b,0,none⟩ 7) w1 fun x_1=>bnd (cond (!x_1) (gInt .i64 (Addr.add ⟨b,0,none⟩ 6) w1 fun x_2=>some (decide (x_2≤1000000),w1)) (some (false,w1))) fun c w2=>cond c
 (aSome t fun p_1=>gSl (Addr.add p_1 0) w2 fun x_3 xn _=>aSome t fun p_2=>gSl (Addr.add p_2 0) w2 fun x_4 xn_1 _=>gAgg v 6 w2 fun x_5=>aSome x_3 fun p_3=>ck ((0:Int)≤x13∧x13<((xn:Nat):Int)) (ck (List.length x_5=6) (pAgg (Addr.add (Addr.add (A9 p_3) (Int.toNat x13*8)) 0) x_5 w2 fun w3=>aSome x_4 fun p_4=>ck ((0:Int)≤x13∧x13<((xn_1:Nat):Int)) (pV (Addr.add (Addr.add (A9 p_4) (Int.toNat x13*8)) 7) (.bool true) w3 fun w4=>bnd (C M9 [.pointer t,.int .i64 x13] w4) fun r w5=>aInt .i64 r fun x_6=>some (.tuple ⟨[.int .i64 x_6,.bool true]⟩,w5)))))
 (R H8 W9 [(0,.pointer t),(3,.pointer (some v)),(11,.slice x11 x11n x11c),(12,.int .i64 x12),(13,.int .i64 (IntKind.wrap .i64 (x13+1)))] w2))))
 (some (.tuple ⟨[.int .i64 0,.bool false]⟩,h)):=by kernel_rfl
def Am4:Cuts:={ globs:=0,loops:=[],regs:=[],plans:=[] }
def Bb7:List Item:=A4 Tryz.f217
theorem De1 (C:A1) (R:A3) (t:Option Addr) (name:Int) (h:H) :
 A5 PR Am4 C R Ac9 Tryz.f217 100000 true Bb7 [(0,.pointer t),(1,.int .i64 name)] h =
 nw (.cells O6 false [.int .i64 0,.int .i64 0,.int .i64 0,.int .i64 0,.int .i64 0,.int .i64 0]) h fun b w=>bnd (C Ae7 [.pointer t,.int .i64 name] w) fun r w1=>aPtr r fun x=>cond x.isNone
 (nw (.cells O6 false [.int .i64 0,.int .i64 0,.int .i64 0,.int .i64 0,.int .i64 0,.int .i64 0]) w1 fun b_1 w2=>gAgg ⟨b_1,0,none⟩ 6 w2 fun x_1=>ck (List.length x_1=6) (pAgg ⟨b,0,none⟩ x_1 w2 fun w3=>gAgg ⟨b,0,none⟩ 6 w3 fun x_2=>some (.tuple ⟨[.agg ⟨x_2⟩,.bool false]⟩,w3)))
 (aSome x fun p=>gAgg (Addr.add p 0) 6 w1 fun x_3=>ck (List.length x_3=6) (pAgg ⟨b,0,none⟩ x_3 w1 fun w4=>gAgg ⟨b,0,none⟩ 6 w4 fun x_4=>some (.tuple ⟨[.agg ⟨x_4⟩,.bool true]⟩,w4))):=by kernel_rfl
def Aa9:Cuts:={ globs:=0,loops:=[(4,[0,1,12,13])],regs:=[],plans:=[(6,⟨[0,1,2,3,4,5,6,7,8],[0,0,3,7,0,0,48,112,255],[],[]⟩)] }
def Ak9:List Item:=A4 Tryz.f224
def V4:List Item:=stk [0,1,0,1,0,0,1,4,5] Ak9
theorem Db7 (C:A1) (R:A3) (s1:Option Addr) (s1n s1c:Nat) (s2:Option Addr) (s2n s2c:Nat) (h:H) :
 A5 PR Aa9 C R D4 Tryz.f224 100000 true Ak9 [(0,.slice s1 s1n s1c),(1,.slice s2 s2n s2c)] h =
 cond (((s1n:Nat):Int) != ((s2n:Nat):Int))
 (some (.bool false,h))
 (R D4 V4 [(0,.slice s1 s1n s1c),(1,.slice s2 s2n s2c),(12,.int .i64 ((s1n:Nat):Int)),(13,.int .i64 0)] h):=by kernel_rfl
theorem Az8 (C:A1) (R:A3) (s1:Option Addr) (s1n s1c:Nat) (s2:Option Addr) (s2n s2c:Nat) (x12:Int) (x13:Int) (h:H) :
 A5 PR Aa9 C R D4 Tryz.f224 100000 true V4 [(0,.slice s1 s1n s1c),(1,.slice s2 s2n s2c),(12,.int .i64 x12),(13,.int .i64 x13)] h =
 cond (decide (x13<x12))
 (aSome s1 fun p=>ck ((0:Int)≤x13∧x13<((s1n:Nat):Int)) (gInt .u8 (Addr.add (A9 p) (Int.toNat x13*1)) h fun x=>aSome s2 fun p_1=>ck ((0:Int)≤x13∧x13<((s2n:Nat):Int)) (gInt .u8 (Addr.add (A9 p_1) (Int.toNat x13*1)) h fun x_1=>cond (x != x_1)
 (some (.bool false,h))
 (R D4 V4 [(0,.slice s1 s1n s1c),(1,.slice s2 s2n s2c),(12,.int .i64 x12),(13,.int .i64 (IntKind.wrap .i64 (x13+1)))] h))))
 (some (.bool true,h)):=by kernel_rfl
def D36:Cuts:={ globs:=0,loops:=[],regs:=[],plans:=[] }
def Gb4:List Item:=A4 Tryz.f225
theorem Hk0 (C:A1) (R:A3) (p:List Value) (h:H) :
 A5 PR D36 C R Dh4 Tryz.f225 100000 true Gb4 [(0,.agg ⟨p⟩)] h =
 nw (.cells D7 false p) h fun b w=>gInt .i64 (Addr.add ⟨b,0,none⟩ 0) w fun x=>bnd (cond (decide (x<1)) (some (true,w)) (gInt .i64 (Addr.add ⟨b,0,none⟩ 0) w fun x_1=>some (decide (x_1>3),w))) fun c w1=>bnd (cond c (some (true,w1)) (gInt .i64 (Addr.add ⟨b,0,none⟩ 1) w1 fun x_2=>some (decide (x_2<0),w1))) fun c_1 w2=>bnd (cond c_1 (some (true,w2)) (gInt .i64 (Addr.add ⟨b,0,none⟩ 1) w2 fun x_3=>some (decide (x_3>8),w2))) fun c_2 w3=>bnd (cond c_2 (some (true,w3)) (gInt .i64 (Addr.add ⟨b,0,none⟩ 2) w3 fun x_4=>some (decide (x_4<0),w3))) fun c_3 w4=>bnd (cond c_3 (some (true,w4)) (gInt .i64 (Addr.add ⟨b,0,none⟩ 2) w4 fun x_5=>some (decide (x_5≥8),w4))) fun c_4 w5=>bnd (cond c_4 (some (true,w5)) (gInt .i64 (Addr.add ⟨b,0,none⟩ 3) w5 fun x_6=>some (decide (x_6<0),w5))) fun c_5 w6=>bnd (cond c_5 (some (true,w6)) (gInt .i64 (Addr.add ⟨b,0,none⟩ 3) w6 fun x_7=>some (decide (x_7>255),w6))) fun c_6 w7=>cond c_6
 (some (.bool false,w7))
 (gInt .i64 (Addr.add ⟨b,0,none⟩ 4) w7 fun x_8=>bnd (C Aj4 [.int .i64 x_8,.int .i64 0] w7) fun r w8=>aBool r fun x_9=>bnd (cond (!x_9) (some (true,w8)) (gInt .i64 (Addr.add ⟨b,0,none⟩ 5) w8 fun x_10=>bnd (C Aj4 [.int .i64 x_10,.int .i64 16896] w8) fun r_1 w9=>aBool r_1 fun x_11=>some (!x_11,w9))) fun c_7 w10=>bnd (cond c_7 (some (true,w10)) (gInt .i64 (Addr.add ⟨b,0,none⟩ 6) w10 fun x_12=>bnd (C Aj4 [.int .i64 x_12,.int .i64 16896] w10) fun r_2 w11=>aBool r_2 fun x_13=>some (!x_13,w11))) fun c_8 w12=>bnd (cond c_8 (some (true,w12)) (gInt .i64 (Addr.add ⟨b,0,none⟩ 7) w12 fun x_14=>bnd (C Aj4 [.int .i64 x_14,.int .i64 16896] w12) fun r_3 w13=>aBool r_3 fun x_15=>some (!x_15,w13))) fun c_9 w14=>bnd (cond c_9 (some (true,w14)) (gInt .i64 (Addr.add ⟨b,0,none⟩ 6) w14 fun x_16=>gInt .i64 (Addr.add ⟨b,0,none⟩ 7) w14 fun x_17=>some ((I4 .i64 x_16 x_17) != 0,w14))) fun c_10 w15=>cond c_10
 (some (.bool false,w15))
 (ckB (liveA (Addr.add ⟨b,0,none⟩ 8) w15) (bnd (C E7 [.slice (H0 (some (Addr.add ⟨b,0,none⟩ 8)) (decide (0<8)) (0*1)) (8-0) (8-0),.func (.func Bf7) ⟨[]⟩ ⟨[]⟩] w15) fun r_4 w16=>aBool r_4 fun x_18=>cond x_18
 (some (.bool false,w16))
 (gInt .i64 (Addr.add ⟨b,0,none⟩ 0) w16 fun x_19=>cond (x_19==2)
 (gInt .i64 (Addr.add ⟨b,0,none⟩ 4) w16 fun x_20=>bnd (cond (x_20==0) (gAgg (Addr.add ⟨b,0,none⟩ 8) 8 w16 fun x_21=>B58 PR Gg2 x_21 [.int .i64 0,.int .i64 0,.int .i64 0,.int .i64 0,.int .i64 0,.int .i64 0,.int .i64 0,.int .i64 0] fun eq=>some (eq,w16)) (some (false,w16))) fun c_11 w17=>some (.bool c_11,w17))
 (gInt .i64 (Addr.add ⟨b,0,none⟩ 3) w16 fun x_22=>some (.bool (x_22==0),w16)))))):=by kernel_rfl
end
end Go.EQ

set_option maxRecDepth 100000
namespace Go.EQ
open Go Go.NN Go.Proofs
variable (C : A1) (R : A3)
noncomputable section
def Dn4:Cuts:={ globs:=0,loops:=[],regs:=[],plans:=[] }
def Ej7:List Item:=A4 Tryz.f14
theorem G29 (C:A1) (R:A3) (c:Option Addr) (i:Int) (fd:Int) (n:Int) (h:H) :
 A5 PR Dn4 C R Aq6 Tryz.f14 100000 true Ej7 [(0,.pointer c),(1,.int .i64 i),(2,.int .i64 fd),(3,.int .i64 n)] h =
 nw (.cells N3 false [.int .i64 0,.int .i64 0,.slice none 0 0,.bool false]) h fun b w=>bnd (C B59 [.pointer c,.int .i64 i,.int .i64 fd,.int .i64 n] w) fun r w1=>as2 r fun r_1 r_2=>aAgg r_1 fun x=>aInt .i64 r_2 fun x_1=>nw (.cells D5 false [.int .i64 0,.int .i64 0,.int .i64 0,.int .i64 0]) w1 fun b_1 w2=>ck (List.length x=4) (pAgg ⟨b_1,0,none⟩ x w2 fun w3=>bnd (cond (x_1 != 0) (some (true,w3)) (some (n==0,w3))) fun c_1 w4=>cond c_1
 (bnd (C P1 [.int .i64 x_1] w4) fun r_3 w5=>aAgg r_3 fun x_2=>ck (List.length x_2=4) (pAgg ⟨b,0,none⟩ x_2 w5 fun w6=>gAgg ⟨b,0,none⟩ 4 w6 fun x_3=>some (.agg ⟨x_3⟩,w6)))
 (gAgg ⟨b_1,0,none⟩ 4 w4 fun x_4=>bnd (C Bx6 [.pointer c,.agg ⟨x_4⟩] w4) fun r_4 w7=>as2 r_4 fun r_5 r_6=>aAgg r_5 fun x_5=>aBool r_6 fun x_6=>nw (.cells Bw4 false [.int .i64 0,.int .i64 0,.int .i64 0,.int .i64 0,.int .u8 0,.int .u8 0,.int .u8 0,.int .u8 0,.int .u8 0,.int .u8 0,.int .u8 0,.int .u8 0,.int .u8 0,.int .u8 0,.int .u8 0,.int .u8 0,.int .u8 0,.int .u8 0,.int .u8 0,.int .u8 0,.int .u8 0,.int .u8 0,.int .u8 0,.int .u8 0,.int .u8 0,.int .u8 0,.int .u8 0,.int .u8 0,.int .u8 0,.int .u8 0,.int .u8 0,.int .u8 0,.int .u8 0,.int .u8 0,.int .u8 0,.int .u8 0,.nilFunc]) w7 fun b_2 w8=>ck (List.length x_5=37) (pAgg ⟨b_2,0,none⟩ x_5 w8 fun w9=>cond (!x_6)
 (bnd (C P1 [.int .i64 105] w9) fun r_7 w10=>aAgg r_7 fun x_7=>ck (List.length x_7=4) (pAgg ⟨b,0,none⟩ x_7 w10 fun w11=>gAgg ⟨b,0,none⟩ 4 w11 fun x_8=>some (.agg ⟨x_8⟩,w11)))
 (gInt .i64 (Addr.add (Addr.add ⟨b_2,0,none⟩ 0) 1) w9 fun x_9=>bnd (cond (x_9==0) (gInt .i64 (Addr.add ⟨b_1,0,none⟩ 0) w9 fun x_10=>some (x_10==1,w9)) (some (false,w9))) fun c_2 w12=>bnd (cond c_2 (gInt .i64 (Addr.add (Addr.add ⟨b_2,0,none⟩ 0) 3) w12 fun x_11=>some (x_11==0,w12)) (some (false,w12))) fun c_3 w13=>cond c_3
 (pAgg ⟨b,0,none⟩ [.int .i64 0,.int .i64 0,.slice none 0 0,.bool false] w13 fun w14=>gAgg ⟨b,0,none⟩ 4 w14 fun x_12=>some (.agg ⟨x_12⟩,w14))
 (gInt .i64 (Addr.add (Addr.add ⟨b_2,0,none⟩ 0) 1) w13 fun x_13=>cond (x_13==0)
 (gAgg ⟨b_1,0,none⟩ 4 w13 fun x_14=>bnd (C Au4 [.agg ⟨x_14⟩] w13) fun r_8 w15=>aAgg r_8 fun x_15=>ck (List.length x_15=4) (pAgg ⟨b,0,none⟩ x_15 w15 fun w16=>gAgg ⟨b,0,none⟩ 4 w16 fun x_16=>some (.agg ⟨x_16⟩,w16)))
 (gAgg (Addr.add ⟨b_2,0,none⟩ 0) 36 w13 fun x_17=>bnd (C B56 [.agg ⟨x_17⟩,.int .i64 n] w13) fun r_9 w17=>as2 r_9 fun r_10 r_11=>aAgg r_10 fun x_18=>aSl r_11 fun x_19 xn xc=>nw (.cells D0 false [.int .i64 0,.int .i64 0,.int .i64 0,.int .i64 0,.int .u8 0,.int .u8 0,.int .u8 0,.int .u8 0,.int .u8 0,.int .u8 0,.int .u8 0,.int .u8 0,.int .u8 0,.int .u8 0,.int .u8 0,.int .u8 0,.int .u8 0,.int .u8 0,.int .u8 0,.int .u8 0,.int .u8 0,.int .u8 0,.int .u8 0,.int .u8 0,.int .u8 0,.int .u8 0,.int .u8 0,.int .u8 0,.int .u8 0,.int .u8 0,.int .u8 0,.int .u8 0,.int .u8 0,.int .u8 0,.int .u8 0,.int .u8 0]) w17 fun b_3 w18=>ck (List.length x_18=36) (pAgg ⟨b_3,0,none⟩ x_18 w18 fun w19=>gFv (Addr.add ⟨b_2,0,none⟩ 36) w19 fun x_20=>gAgg ⟨b_3,0,none⟩ 36 w19 fun x_21=>aFn x_20 fun g fi cp=>bnd (C g (fi++([.agg ⟨x_21⟩]++cp)) w19) fun r_12 w20=>aBool r_12 fun x_22=>cond (!x_22)
 (bnd (C P1 [.int .i64 105] w20) fun r_13 w21=>aAgg r_13 fun x_23=>ck (List.length x_23=4) (pAgg ⟨b,0,none⟩ x_23 w21 fun w22=>gAgg ⟨b,0,none⟩ 4 w22 fun x_24=>some (.agg ⟨x_24⟩,w22)))
 (pAgg ⟨b,0,none⟩ [.int .i64 ((xn:Nat):Int),.int .i64 0,.slice x_19 xn xc,.bool false] w20 fun w23=>gAgg ⟨b,0,none⟩ 4 w23 fun x_25=>some (.agg ⟨x_25⟩,w23))))))))):=by kernel_rfl
def Eo4:Cuts:={ globs:=0,loops:=[],regs:=[],plans:=[] }
def Gk0:List Item:=A4 Tryz.f16
theorem Hu0 (C:A1) (R:A3) (c:Option Addr) (i:Int) (fd:Int) (on:Int) (h:H) :
 A5 PR Eo4 C R Bf1 Tryz.f16 100000 true Gk0 [(0,.pointer c),(1,.int .i64 i),(2,.int .i64 fd),(3,.int .i64 on)] h =
 nw (.cells N3 false [.int .i64 0,.int .i64 0,.slice none 0 0,.bool false]) h fun b w=>bnd (C Bq2 [.pointer c,.int .i64 i,.int .i64 fd] w) fun r w1=>as3 r fun r_1 r_2 r_3=>aInt .i64 r_1 fun x=>aAgg r_2 fun x_1=>aInt .i64 r_3 fun x_2=>nw (.cells D5 false [.int .i64 0,.int .i64 0,.int .i64 0,.int .i64 0]) w1 fun b_1 w2=>ck (List.length x_1=4) (pAgg ⟨b_1,0,none⟩ x_1 w2 fun w3=>cond (x_2 != 0)
 (bnd (C S7 [.int .i64 x_2] w3) fun r_4 w4=>aAgg r_4 fun x_3=>ck (List.length x_3=4) (pAgg ⟨b,0,none⟩ x_3 w4 fun w5=>gAgg ⟨b,0,none⟩ 4 w5 fun x_4=>some (.agg ⟨x_4⟩,w5)))
 (nw (.cells B6 false [.int .i64 0,.int .i64 1]) w3 fun b_2 w6=>bnd (C J0 [.slice (some ⟨b_2,0,none⟩) 2 2,.int .i64 on] w6) fun r_5 w7=>aBool r_5 fun x_5=>cond (!x_5)
 (bnd (C S7 [.int .i64 122] w7) fun r_6 w8=>aAgg r_6 fun x_6=>ck (List.length x_6=4) (pAgg ⟨b,0,none⟩ x_6 w8 fun w9=>gAgg ⟨b,0,none⟩ 4 w9 fun x_7=>some (.agg ⟨x_7⟩,w9)))
 (pV (Addr.add ⟨b_1,0,none⟩ 3) (.int .i64 on) w7 fun w10=>gAgg ⟨b_1,0,none⟩ 4 w10 fun x_8=>bnd (C H9 [.pointer c,.int .i64 x,.agg ⟨x_8⟩] w10) fun r_7 w11=>aBool r_7 fun x_9=>bnd (C Bh7 [.bool x_9,.int .i64 0] w11) fun r_8 w12=>aAgg r_8 fun x_10=>ck (List.length x_10=4) (pAgg ⟨b,0,none⟩ x_10 w12 fun w13=>gAgg ⟨b,0,none⟩ 4 w13 fun x_11=>some (.agg ⟨x_11⟩,w13))))):=by kernel_rfl
def B36:Cuts:={ globs:=0,loops:=[],regs:=[],plans:=[] }
def Dy7:List Item:=A4 Tryz.f26
theorem Gd6 (C:A1) (R:A3) (k:Option Addr) (env:Int) (c:List Value) (h:H) :
 A5 PR B36 C R Q5 Tryz.f26 100000 true Dy7 [(0,.pointer k),(1,.int .i64 env),(2,.agg ⟨c⟩)] h =
 nw (.cells Aw7 false c) h fun b w=>nw (.cells Eg5 false [.int .i64 0,.int .i64 0,.slice none 0 0]) w fun b_1 w1=>bnd (cond (decide (env<0)) (some (true,w1)) (aSome k fun p=>gSl (Addr.add p 0) w1 fun _ xn _=>some (decide (env≥((xn:Nat):Int)),w1))) fun c_1 w2=>cond c_1
 (pAgg ⟨b_1,0,none⟩ [.int .i64 1,.int .i64 0,.slice none 0 0] w2 fun w3=>gAgg ⟨b_1,0,none⟩ 3 w3 fun x_1=>some (.agg ⟨x_1⟩,w3))
 (gAgg ⟨b,0,none⟩ 7 w2 fun x_2=>bnd (C A09 [.pointer k,.int .i64 env,.agg ⟨x_2⟩] w2) fun r w4=>as3 r fun r_1 r_2 r_3=>aSl r_1 fun x_3 xn_1 xc_1=>aInt .i64 r_2 fun x_4=>aBool r_3 fun x_5=>cond x_5
 (pAgg ⟨b_1,0,none⟩ [.int .i64 x_4,.int .i64 0,.slice x_3 xn_1 xc_1] w4 fun w5=>gAgg ⟨b_1,0,none⟩ 3 w5 fun x_6=>some (.agg ⟨x_6⟩,w5))
 (gAgg ⟨b,0,none⟩ 7 w4 fun x_7=>bnd (C Ax1 [.pointer k,.int .i64 env,.agg ⟨x_7⟩] w4) fun r_4 w6=>as2 r_4 fun r_5 r_6=>aInt .i64 r_5 fun x_8=>aInt .i64 r_6 fun x_9=>pAgg ⟨b_1,0,none⟩ [.int .i64 x_9,.int .i64 x_8,.slice none 0 0] w6 fun w7=>gAgg ⟨b_1,0,none⟩ 3 w7 fun x_10=>some (.agg ⟨x_10⟩,w7))):=by kernel_rfl
def B19:Cuts:={ globs:=0,loops:=[],regs:=[],plans:=[(7,⟨[0,1,2,3,4,5,6,7,8,9,10,11,12,13,14,15,16],[0,1,3,7,0,0,32,0,128,0,512,2047,4095,8191,8191,16383,65535],[],[]⟩),(9,⟨[0,1,2,3,4,5,6,7,8,9,10,11,12,13],[0,1,3,7,0,0,32,0,128,0,512,1536,4095,8191],[],[]⟩),(11,⟨[0,1,2,3,4,5,6,7,8,9,10,11,12,13,14,15,16],[0,1,3,7,0,0,32,0,128,0,512,0,2048,0,8192,32767,65535],[],[]⟩),(13,⟨[0,1,2,3,4,5,6,7,8,9,10,11,12,13,14,15,16,17,18,19,20,21,22,23],[0,1,3,7,15,31,63,0,0,256,0,1024,0,4096,0,16384,0,65536,262143,524287,1048575,1048575,2097151,8388607],[],[]⟩),(15,⟨[0,1,2,3,4,5,6,7,8,9,10,11,12,13,14,15],[0,1,3,7,15,31,63,0,0,256,1023,2047,4095,4095,8191,32767],[],[]⟩),(17,⟨[0,1,2,3,4,5,6,7,8,9,10,11,12,13,14,15,16,17],[0,1,3,7,0,16,48,112,240,0,1008,2032,4095,8191,16383,16383,32767,131071],[],[]⟩),(19,⟨[0,1,2,3,4,5,6,7,8,9,10,11,12,13,14,15],[0,1,3,7,0,16,48,112,240,0,1008,2032,0,4096,16383,32767],[],[]⟩),(23,⟨[0,1,2,3,4,5,6,7,8,9,10,11,12,13,14,15,16,17],[0,1,3,7,0,16,63,127,0,0,512,1536,3584,8191,16383,32767,32767,65535],[],[]⟩),(27,⟨[0,1,2,3,4,5,6,7,8,9,10,11,12,13,14,15,16,17,18],[0,0,0,4,15,31,63,127,255,511,63,1087,4095,8191,63,63,32831,131071,262143],[],[]⟩)] }
def D13:List Item:=A4 Tryz.f27
theorem Ge1 (C:A1) (R:A3) (k:Option Addr) (e:Int) (c:List Value) (h:H) :
 A5 PR B19 C R Aq4 Tryz.f27 100000 true D13 [(0,.pointer k),(1,.int .i64 e),(2,.agg ⟨c⟩)] h =
 nw (.cells Aw7 false c) h fun b w=>bnd (cond (decide (e<0)) (some (true,w)) (aSome k fun p=>gSl (Addr.add (Addr.add p 0) 1) w fun _ xn _=>some (decide (e≥((xn:Nat):Int)),w))) fun c_1 w1=>cond c_1
 (some (.tuple ⟨[.int .i64 1,.int .i64 0,.string (ByteArray.mk ⟨[]⟩)]⟩,w1))
 (gInt .i64 (Addr.add ⟨b,0,none⟩ 0) w1 fun x_1=>cond (x_1==1)
 (aSome k fun p_1=>gPtr (Addr.add p_1 6) w1 fun x_2=>gInt .i64 (Addr.add ⟨b,0,none⟩ 1) w1 fun x_3=>gInt .i64 (Addr.add ⟨b,0,none⟩ 2) w1 fun x_4=>gInt .i64 (Addr.add ⟨b,0,none⟩ 3) w1 fun x_5=>bnd (C Ed2 [.pointer x_2,.int .i64 e,.int .i64 x_3,.int .i64 x_4,.int .i64 x_5] w1) fun r w2=>as2 r fun r_1 r_2=>aStr r_1 fun x_6=>aInt .i64 r_2 fun x_7=>some (.tuple ⟨[.int .i64 x_7,.int .i64 0,.string x_6]⟩,w2))
 (cond (x_1==2)
 (aSome k fun p_2=>gPtr (Addr.add p_2 6) w1 fun x_8=>gInt .i64 (Addr.add ⟨b,0,none⟩ 1) w1 fun x_9=>gInt .i64 (Addr.add ⟨b,0,none⟩ 2) w1 fun x_10=>gSl (Addr.add ⟨b,0,none⟩ 6) w1 fun x_11 xn_1 _=>gCells x_11 xn_1 w1 fun cs=>asBytes cs fun l=>bnd (C An6 [.pointer x_8,.int .i64 e,.int .i64 x_9,.int .i64 x_10,.string (ByteArray.mk ⟨l⟩)] w1) fun r_3 w3=>aInt .i64 r_3 fun x_12=>some (.tuple ⟨[.int .i64 x_12,.int .i64 0,.string (ByteArray.mk ⟨[]⟩)]⟩,w3))
 (cond (x_1==3)
 (aSome k fun p_3=>gPtr (Addr.add p_3 6) w1 fun x_13=>gInt .i64 (Addr.add ⟨b,0,none⟩ 1) w1 fun x_14=>gInt .i64 (Addr.add ⟨b,0,none⟩ 2) w1 fun x_15=>gInt .i64 (Addr.add ⟨b,0,none⟩ 4) w1 fun x_16=>gInt .i64 (Addr.add ⟨b,0,none⟩ 5) w1 fun x_17=>gInt .i64 (Addr.add ⟨b,0,none⟩ 3) w1 fun x_18=>bnd (C Ed6 [.pointer x_13,.int .i64 e,.int .i64 x_14,.int .i64 x_15,.int .i64 x_16,.int .i64 x_17,.int .i64 x_18] w1) fun r_4 w4=>aInt .i64 r_4 fun x_19=>some (.tuple ⟨[.int .i64 x_19,.int .i64 0,.string (ByteArray.mk ⟨[]⟩)]⟩,w4))
 (cond (x_1==4)
 (aSome k fun p_4=>gPtr (Addr.add p_4 6) w1 fun x_20=>aSome x_20 fun p_5=>gPtr (Addr.add p_5 3) w1 fun x_21=>gInt .i64 (Addr.add ⟨b,0,none⟩ 1) w1 fun x_22=>gInt .i64 (Addr.add ⟨b,0,none⟩ 4) w1 fun x_23=>gInt .i64 (Addr.add ⟨b,0,none⟩ 5) w1 fun x_24=>gInt .i64 (Addr.add ⟨b,0,none⟩ 2) w1 fun x_25=>gInt .i64 (Addr.add ⟨b,0,none⟩ 3) w1 fun x_26=>bnd (C Eh7 [.pointer x_21,.int .i64 e,.int .i64 x_22,.int .i64 x_23,.int .i64 x_24,.int .i64 x_25,.int .i64 x_26] w1) fun r_5 w5=>as2 r_5 fun r_6 r_7=>aInt .i64 r_6 fun x_27=>aInt .i64 r_7 fun x_28=>some (.tuple ⟨[.int .i64 x_28,.int .i64 x_27,.string (ByteArray.mk ⟨[]⟩)]⟩,w5))
 (cond (x_1==5)
 (aSome k fun p_6=>gPtr (Addr.add p_6 6) w1 fun x_29=>aSome x_29 fun p_7=>gPtr (Addr.add p_7 3) w1 fun x_30=>gInt .i64 (Addr.add ⟨b,0,none⟩ 1) w1 fun x_31=>bnd (C Ed8 [.pointer x_30,.int .i64 e,.int .i64 x_31] w1) fun r_8 w6=>as2 r_8 fun r_9 r_10=>aInt .i64 r_9 fun x_32=>aInt .i64 r_10 fun x_33=>some (.tuple ⟨[.int .i64 x_33,.int .i64 x_32,.string (ByteArray.mk ⟨[]⟩)]⟩,w6))
 (cond (x_1==6)
 (aSome k fun p_8=>gPtr (Addr.add p_8 5) w1 fun x_34=>aSome k fun p_9=>gSl (Addr.add (Addr.add p_9 0) 1) w1 fun x_35 xn_2 _=>aSome x_35 fun p_10=>ck ((0:Int)≤e∧e<((xn_2:Nat):Int)) (gInt .i64 (Addr.add (A9 p_10) (Int.toNat e*1)) w1 fun x_36=>bnd (C Em4 [.pointer x_34,.int .i64 x_36] w1) fun r_11 w7=>as2 r_11 fun r_12 r_13=>aInt .i64 r_12 fun x_37=>aInt .i64 r_13 fun x_38=>some (.tuple ⟨[.int .i64 x_38,.int .i64 x_37,.string (ByteArray.mk ⟨[]⟩)]⟩,w7)))
 (cond (x_1==7)
 (aSome k fun p_11=>gPtr (Addr.add p_11 5) w1 fun x_39=>aSome k fun p_12=>gSl (Addr.add (Addr.add p_12 0) 1) w1 fun x_40 xn_3 _=>aSome x_40 fun p_13=>ck ((0:Int)≤e∧e<((xn_3:Nat):Int)) (gInt .i64 (Addr.add (A9 p_13) (Int.toNat e*1)) w1 fun x_41=>gInt .i64 (Addr.add ⟨b,0,none⟩ 3) w1 fun x_42=>bnd (C Et3 [.pointer x_39,.int .i64 x_41,.int .i64 x_42] w1) fun r_14 w8=>aInt .i64 r_14 fun x_43=>some (.tuple ⟨[.int .i64 x_43,.int .i64 0,.string (ByteArray.mk ⟨[]⟩)]⟩,w8)))
 (cond (x_1==8)
 (gInt .i64 (Addr.add ⟨b,0,none⟩ 3) w1 fun x_44=>bnd (C Dq6 [.pointer k,.int .i64 e,.int .i64 x_44] w1) fun r_15 w9=>aBool r_15 fun x_45=>cond x_45
 (aSome k fun p_14=>gSl (Addr.add p_14 7) w9 fun x_46 xn_4 _=>gInt .i64 (Addr.add ⟨b,0,none⟩ 3) w9 fun x_47=>aSome x_46 fun p_15=>ck ((0:Int)≤x_47∧x_47<((xn_4:Nat):Int)) (gPtr (Addr.add (A9 p_15) (Int.toNat x_47*1)) w9 fun x_48=>aSome k fun p_16=>gInt .i64 (Addr.add p_16 8) w9 fun x_49=>bnd (C Et4 [.pointer x_48,.int .i64 e,.int .i64 x_49] w9) fun r_16 w10=>as2 r_16 fun r_17 r_18=>aInt .i64 r_17 fun x_50=>aBool r_18 fun _=>some (.tuple ⟨[.int .i64 0,.int .i64 x_50,.string (ByteArray.mk ⟨[]⟩)]⟩,w10)))
 (some (.tuple ⟨[.int .i64 8,.int .i64 0,.string (ByteArray.mk ⟨[]⟩)]⟩,w9)))
 (cond (x_1==9)
 (gInt .i64 (Addr.add ⟨b,0,none⟩ 3) w1 fun x_52=>bnd (C Dq6 [.pointer k,.int .i64 e,.int .i64 x_52] w1) fun r_19 w11=>aBool r_19 fun x_53=>bnd (cond x_53 (aSome k fun p_17=>gSl (Addr.add p_17 7) w11 fun x_54 xn_5 _=>gInt .i64 (Addr.add ⟨b,0,none⟩ 3) w11 fun x_55=>aSome x_54 fun p_18=>ck ((0:Int)≤x_55∧x_55<((xn_5:Nat):Int)) (gPtr (Addr.add (A9 p_18) (Int.toNat x_55*1)) w11 fun x_56=>gInt .i64 (Addr.add ⟨b,0,none⟩ 2) w11 fun x_57=>bnd (C Et2 [.pointer x_56,.int .i64 e,.int .i64 x_57] w11) fun r_20 w12=>aBool r_20 fun x_58=>some (x_58,w12))) (some (false,w11))) fun c_2 w13=>cond c_2
 (some (.tuple ⟨[.int .i64 0,.int .i64 0,.string (ByteArray.mk ⟨[]⟩)]⟩,w13))
 (some (.tuple ⟨[.int .i64 8,.int .i64 0,.string (ByteArray.mk ⟨[]⟩)]⟩,w13)))
 (cond (x_1==10)
 (aSome k fun p_19=>gInt .i64 (Addr.add p_19 8) w1 fun x_59=>some (.tuple ⟨[.int .i64 0,.int .i64 x_59,.string (ByteArray.mk ⟨[]⟩)]⟩,w1))
 (some (.tuple ⟨[.int .i64 7,.int .i64 0,.string (ByteArray.mk ⟨[]⟩)]⟩,w1)))))))))))):=by kernel_rfl
def A04:Cuts:={ globs:=0,loops:=[(4,[1,3,4])],regs:=[],plans:=[(2,⟨[0,1,2,5,6,9,10,13,14,3,4,7,8,11,12,15,16,17],[0,0,2,6,15,0,32,110,255,0,512,1774,4095,0,8192,28398,65535,131071],[(3,[6,10,14]),(7,[10,14]),(11,[14])],[]⟩)] }
def Bk5:List Item:=A4 Tryz.f29
def An4:List Item:=stk [0,1,0,1,0,1,0,0,1,4,5] Bk5
theorem Es3 (C:A1) (R:A3) (p:List Value) (h:H) :
 A5 PR A04 C R R0 Tryz.f29 100000 true Bk5 [(0,.agg ⟨p⟩)] h =
 nw (.cells D7 false p) h fun b w=>gInt .i64 (Addr.add ⟨b,0,none⟩ 0) w fun x=>gInt .i64 (Addr.add ⟨b,0,none⟩ 1) w fun x_1=>gInt .i64 (Addr.add ⟨b,0,none⟩ 2) w fun x_2=>gInt .i64 (Addr.add ⟨b,0,none⟩ 3) w fun x_3=>nw (.cells A2 false [.int .u8 (IntKind.wrap .u8 (x)),.int .u8 (IntKind.wrap .u8 (x_1)),.int .u8 (IntKind.wrap .u8 (x_2)),.int .u8 (IntKind.wrap .u8 (x_3))]) w fun b_1 w1=>gCells (some ⟨b_1,0,none⟩) 4 w1 fun cs=>asBytes cs fun l=>gInt .i64 (Addr.add ⟨b,0,none⟩ 4) w1 fun x_4=>gInt .i64 (Addr.add ⟨b,0,none⟩ 5) w1 fun x_5=>gInt .i64 (Addr.add ⟨b,0,none⟩ 6) w1 fun x_6=>gInt .i64 (Addr.add ⟨b,0,none⟩ 7) w1 fun x_7=>bnd (C A76 [.int .i64 x_4] w1) fun r w2=>aStr r fun x_8=>gInt .i64 (Addr.add ⟨b,0,none⟩ 5) w2 fun x_9=>same (.int .i64 x_5) (.int .i64 x_9) (gInt .i64 (Addr.add ⟨b,0,none⟩ 6) w2 fun x_10=>same (.int .i64 x_6) (.int .i64 x_10) (gInt .i64 (Addr.add ⟨b,0,none⟩ 7) w2 fun x_11=>same (.int .i64 x_7) (.int .i64 x_11) (ck (ByteArray.size (ByteArray.mk ⟨l⟩)+ByteArray.size x_8≤A8) (bnd (C A76 [.int .i64 x_5] w2) fun r_1 w3=>aStr r_1 fun x_12=>gInt .i64 (Addr.add ⟨b,0,none⟩ 6) w3 fun x_13=>same (.int .i64 x_6) (.int .i64 x_13) (gInt .i64 (Addr.add ⟨b,0,none⟩ 7) w3 fun x_14=>same (.int .i64 x_7) (.int .i64 x_14) (ck (ByteArray.size ((ByteArray.mk ⟨l⟩)++x_8)+ByteArray.size x_12≤A8) (bnd (C A76 [.int .i64 x_6] w3) fun r_2 w4=>aStr r_2 fun x_15=>gInt .i64 (Addr.add ⟨b,0,none⟩ 7) w4 fun x_16=>same (.int .i64 x_7) (.int .i64 x_16) (ck (ByteArray.size (((ByteArray.mk ⟨l⟩)++x_8)++x_12)+ByteArray.size x_15≤A8) (bnd (C A76 [.int .i64 x_7] w4) fun r_3 w5=>aStr r_3 fun x_17=>ck (ByteArray.size ((((ByteArray.mk ⟨l⟩)++x_8)++x_12)++x_15)+ByteArray.size x_17≤A8) (R R0 An4 [(1,.pointer (some ⟨b,0,none⟩)),(3,.string (((((ByteArray.mk ⟨l⟩)++x_8)++x_12)++x_15)++x_17)),(4,.int .i64 0)] w5)))))))))):=by kernel_rfl
theorem Bx3 (C:A1) (R:A3) (p:Addr) (s:ByteArray) (i:Int) (h:H) :
 A5 PR A04 C R R0 Tryz.f29 100000 true An4 [(1,.pointer (some p)),(3,.string s),(4,.int .i64 i)] h =
 cond (decide (i<8))
 (ck ((0:Int)≤i∧i<((8:Nat):Int)) (gInt .i64 (Addr.add (Addr.add p 8) (Int.toNat i*1)) h fun x=>nw (.cells A2 false [.int .u8 (IntKind.wrap .u8 (x))]) h fun b w=>gCells (some ⟨b,0,none⟩) 1 w fun cs=>asBytes cs fun l=>ck (ByteArray.size s+ByteArray.size (ByteArray.mk ⟨l⟩)≤A8) (R R0 An4 [(1,.pointer (some p)),(3,.string (s++(ByteArray.mk ⟨l⟩))),(4,.int .i64 (IntKind.wrap .i64 (i+1)))] w)))
 (ck (ByteArray.size s+ByteArray.size (ByteArray.mk ⟨[167]⟩)≤A8) (bnd (C Ad4 [.string (s++(ByteArray.mk ⟨[167]⟩))] h) fun r w1=>aInt .u8 r fun x_1=>nw (.cells A2 false [.int .u8 x_1,.int .u8 0,.int .u8 0]) w1 fun b_1 w2=>gCells (some ⟨b_1,0,none⟩) 3 w2 fun cs_1=>asBytes cs_1 fun l_1=>ck (ByteArray.size (s++(ByteArray.mk ⟨[167]⟩))+ByteArray.size (ByteArray.mk ⟨l_1⟩)≤A8) (some (.string ((s++(ByteArray.mk ⟨[167]⟩))++(ByteArray.mk ⟨l_1⟩)),w2)))):=by kernel_rfl
def Ao9:Cuts:={ globs:=0,loops:=[],regs:=[],plans:=[] }
def Bc3:List Item:=A4 Tryz.f39
theorem De6 (C:A1) (R:A3) (c:Option Addr) (i:Int) (f:List Value) (h:H) :
 A5 PR Ao9 C R H9 Tryz.f39 100000 true Bc3 [(0,.pointer c),(1,.int .i64 i),(2,.agg ⟨f⟩)] h =
 nw (.cells D5 false f) h fun b w=>gAgg ⟨b,0,none⟩ 4 w fun x=>bnd (C A40 [.agg ⟨x⟩] w) fun r w1=>as2 r fun r_1 r_2=>aSl r_1 fun x_1 xn xc=>aBool r_2 fun x_2=>bnd (C A28 [.int .i64 i] w1) fun r_3 w2=>aAgg r_3 fun x_3=>bnd (C J7 [.pointer c,.agg ⟨x_3⟩,.slice x_1 xn xc,.bool x_2] w2) fun r_4 w3=>aBool r_4 fun x_4=>some (.bool x_4,w3):=by kernel_rfl
def An2:Cuts:={ globs:=0,loops:=[],regs:=[],plans:=[] }
def Bb9:List Item:=A4 Tryz.f41
theorem De0 (C:A1) (R:A3) (c:Option Addr) (i:Int) (p:List Value) (h:H) :
 A5 PR An2 C R S6 Tryz.f41 100000 true Bb9 [(0,.pointer c),(1,.int .i64 i),(2,.agg ⟨p⟩)] h =
 nw (.cells D7 false p) h fun b w=>gAgg ⟨b,0,none⟩ 16 w fun x=>bnd (C A37 [.agg ⟨x⟩] w) fun r w1=>as2 r fun r_1 r_2=>aSl r_1 fun x_1 xn xc=>aBool r_2 fun x_2=>bnd (C A26 [.int .i64 i] w1) fun r_3 w2=>aAgg r_3 fun x_3=>bnd (C J7 [.pointer c,.agg ⟨x_3⟩,.slice x_1 xn xc,.bool x_2] w2) fun r_4 w3=>aBool r_4 fun x_4=>some (.bool x_4,w3):=by kernel_rfl
def E24:Cuts:={ globs:=0,loops:=[],regs:=[],plans:=[(3,⟨[0,1,2,3,4],[0,0,0,5,15],[],[]⟩),(5,⟨[0,1,2,3],[0,0,3,7],[],[]⟩),(9,⟨[0,1,2,3,4,5,6,7,8],[0,0,3,7,15,0,31,127,255],[],[]⟩)] }
def G06:List Item:=A4 Tryz.f42
theorem H60 (C:A1) (R:A3) (c:Option Addr) (i:Int) (fd:Int) (h:H) :
 A5 PR E24 C R Bq2 Tryz.f42 100000 true G06 [(0,.pointer c),(1,.int .i64 i),(2,.int .i64 fd)] h =
 nw (.cells D5 false [.int .i64 0,.int .i64 0,.int .i64 0,.int .i64 0]) h fun b w=>bnd (C Ay7 [.pointer c,.int .i64 i] w) fun r w1=>as2 r fun r_1 r_2=>aAgg r_1 fun x=>aInt .i64 r_2 fun x_1=>nw (.cells D7 false [.int .i64 0,.int .i64 0,.int .i64 0,.int .i64 0,.int .i64 0,.int .i64 0,.int .i64 0,.int .i64 0,.int .i64 0,.int .i64 0,.int .i64 0,.int .i64 0,.int .i64 0,.int .i64 0,.int .i64 0,.int .i64 0]) w1 fun b_1 w2=>ck (List.length x=16) (pAgg ⟨b_1,0,none⟩ x w2 fun w3=>cond (x_1 != 0)
 (gAgg ⟨b,0,none⟩ 4 w3 fun x_2=>ck (List.length x_2=4) (pAgg ⟨b,0,none⟩ x_2 w3 fun w4=>gAgg ⟨b,0,none⟩ 4 w4 fun x_3=>some (.tuple ⟨[.int .i64 0,.agg ⟨x_3⟩,.int .i64 x_1]⟩,w4)))
 (gAgg ⟨b_1,0,none⟩ 16 w3 fun x_4=>bnd (C B57 [.agg ⟨x_4⟩,.int .i64 fd] w3) fun r_3 w5=>aBool r_3 fun x_5=>cond (!x_5)
 (gAgg ⟨b,0,none⟩ 4 w5 fun x_6=>ck (List.length x_6=4) (pAgg ⟨b,0,none⟩ x_6 w5 fun w6=>gAgg ⟨b,0,none⟩ 4 w6 fun x_7=>some (.tuple ⟨[.int .i64 0,.agg ⟨x_7⟩,.int .i64 109]⟩,w6)))
 (ck ((0:Int)≤fd∧fd<((8:Nat):Int)) (gInt .i64 (Addr.add (Addr.add ⟨b_1,0,none⟩ 8) (Int.toNat fd*1)) w5 fun x_8=>bnd (C Q6 [.pointer c,.int .i64 (IntKind.wrap .i64 (x_8-1))] w5) fun r_4 w7=>as2 r_4 fun r_5 r_6=>aAgg r_5 fun x_9=>aInt .i64 r_6 fun x_10=>ck (List.length x_9=4) (pAgg ⟨b,0,none⟩ x_9 w7 fun w8=>cond (x_10 != 1)
 (pAgg ⟨b,0,none⟩ [.int .i64 0,.int .i64 0,.int .i64 0,.int .i64 0] w8 fun w9=>gAgg ⟨b,0,none⟩ 4 w9 fun x_11=>some (.tuple ⟨[.int .i64 0,.agg ⟨x_11⟩,.int .i64 105]⟩,w9))
 (ck ((0:Int)≤fd∧fd<((8:Nat):Int)) (gInt .i64 (Addr.add (Addr.add ⟨b_1,0,none⟩ 8) (Int.toNat fd*1)) w8 fun x_12=>gAgg ⟨b,0,none⟩ 4 w8 fun x_13=>ck (List.length x_13=4) (pAgg ⟨b,0,none⟩ x_13 w8 fun w10=>gAgg ⟨b,0,none⟩ 4 w10 fun x_14=>some (.tuple ⟨[.int .i64 (IntKind.wrap .i64 (x_12-1)),.agg ⟨x_14⟩,.int .i64 0]⟩,w10))))))))):=by kernel_rfl
def Dg6:Cuts:={ globs:=0,loops:=[(5,[2,4,6,13,14,15])],regs:=[],plans:=[] }
def D83:List Item:=A4 Tryz.f47
def Bo1:List Item:=stk [0,1,0,1,0,1,0,0,1,4,5] D83
theorem Hl5 (C:A1) (R:A3) (p:List Value) (b:Option Addr) (bn bc:Nat) (h:H) :
 A5 PR Dg6 C R Ao2 Tryz.f47 100000 true D83 [(0,.agg ⟨p⟩),(1,.slice b bn bc)] h =
 nw (.cells D0 false p) h fun b_1 w=>nw (.cells D0 false [.int .i64 0,.int .i64 0,.int .i64 0,.int .i64 0,.int .u8 0,.int .u8 0,.int .u8 0,.int .u8 0,.int .u8 0,.int .u8 0,.int .u8 0,.int .u8 0,.int .u8 0,.int .u8 0,.int .u8 0,.int .u8 0,.int .u8 0,.int .u8 0,.int .u8 0,.int .u8 0,.int .u8 0,.int .u8 0,.int .u8 0,.int .u8 0,.int .u8 0,.int .u8 0,.int .u8 0,.int .u8 0,.int .u8 0,.int .u8 0,.int .u8 0,.int .u8 0,.int .u8 0,.int .u8 0,.int .u8 0,.int .u8 0]) w fun b_2 w1=>gAgg ⟨b_1,0,none⟩ 36 w1 fun x=>bnd (C Bt6 [.agg ⟨x⟩] w1) fun r w2=>aBool r fun x_1=>cond (!x_1)
 (gAgg ⟨b_1,0,none⟩ 36 w2 fun x_2=>ck (List.length x_2=36) (pAgg ⟨b_2,0,none⟩ x_2 w2 fun w3=>gAgg ⟨b_2,0,none⟩ 36 w3 fun x_3=>some (.tuple ⟨[.agg ⟨x_3⟩,.int .i64 0]⟩,w3)))
 (R Ao2 Bo1 [(2,.pointer (some ⟨b_1,0,none⟩)),(4,.pointer (some ⟨b_2,0,none⟩)),(6,.int .i64 0),(13,.slice b bn bc),(14,.int .i64 ((bn:Nat):Int)),(15,.int .i64 0)] w2):=by kernel_rfl
theorem Eb5 (C:A1) (R:A3) (p:Addr) (x4:Addr) (n:Int) (x13:Option Addr) (x13n x13c:Nat) (x14:Int) (x15:Int) (h:H) :
 A5 PR Dg6 C R Ao2 Tryz.f47 100000 true Bo1 [(2,.pointer (some p)),(4,.pointer (some x4)),(6,.int .i64 n),(13,.slice x13 x13n x13c),(14,.int .i64 x14),(15,.int .i64 x15)] h =
 cond (decide (x15<x14))
 (aSome x13 fun p_1=>ck ((0:Int)≤x15∧x15<((x13n:Nat):Int)) (gInt .u8 (Addr.add (A9 p_1) (Int.toNat x15*1)) h fun x=>gInt .i64 (Addr.add p 1) h fun x_1=>cond (x_1==32)
 (gAgg p 36 h fun x_2=>ck (List.length x_2=36) (pAgg x4 x_2 h fun w=>gAgg x4 36 w fun x_3=>some (.tuple ⟨[.agg ⟨x_3⟩,.int .i64 n]⟩,w)))
 (gInt .i64 (Addr.add p 0) h fun x_4=>gInt .i64 (Addr.add p 1) h fun x_5=>ck ((0:Int)≤Int.tmod (IntKind.wrap .i64 (x_4+x_5)) 32∧Int.tmod (IntKind.wrap .i64 (x_4+x_5)) 32<((32:Nat):Int)) (pV (Addr.add (Addr.add p 4) (Int.toNat (Int.tmod (IntKind.wrap .i64 (x_4+x_5)) 32)*1)) (.int .u8 x) h fun w1=>gInt .i64 (Addr.add p 1) w1 fun x_6=>pV (Addr.add p 1) (.int .i64 (IntKind.wrap .i64 (x_6+1))) w1 fun w2=>R Ao2 Bo1 [(2,.pointer (some p)),(4,.pointer (some x4)),(6,.int .i64 (IntKind.wrap .i64 (n+1))),(13,.slice x13 x13n x13c),(14,.int .i64 x14),(15,.int .i64 (IntKind.wrap .i64 (x15+1)))] w2))))
 (gAgg p 36 h fun x_7=>ck (List.length x_7=36) (pAgg x4 x_7 h fun w3=>gAgg x4 36 w3 fun x_8=>some (.tuple ⟨[.agg ⟨x_8⟩,.int .i64 n]⟩,w3))):=by kernel_rfl
def Aj8:Cuts:={ globs:=0,loops:=[],regs:=[],plans:=[] }
def A52:List Item:=A4 Tryz.f52
theorem B80 (C:A1) (R:A3) (s:Option Addr) (sn sc:Nat) (v:Int) (h:H) :
 A5 PR Aj8 C R J0 Tryz.f52 100000 true A52 [(0,.slice s sn sc),(1,.int .i64 v)] h =
 bnd (C H1 [.slice s sn sc,.int .i64 v] h) fun r w=>aInt .i64 r fun x=>some (.bool (decide (x≥0)),w):=by kernel_rfl
def At6:Cuts:={ globs:=0,loops:=[],regs:=[],plans:=[] }
def Bj3:List Item:=A4 Tryz.f66
theorem Dp5 (C:A1) (R:A3) (c:Option Addr) (h:H) :
 A5 PR At6 C R Ag5 Tryz.f66 100000 true Bj3 [(0,.pointer c)] h =
 bnd (C P8 [.pointer c,.agg ⟨[.int .i64 5,.int .i64 0]⟩,.func (.func Al6) ⟨[]⟩ ⟨[]⟩] h) fun r w=>as2 r fun r_1 r_2=>aInt .i64 r_1 fun x=>aInt .i64 r_2 fun x_1=>some (.tuple ⟨[.int .i64 x,.bool (x_1==1)]⟩,w):=by kernel_rfl
def A67:Cuts:={ globs:=0,loops:=[(5,[1,4,20,21,22]),(12,[1,7,58,59,60]),(18,[7,89,90,91]),(22,[7,11,12,89,90,91,122,123,124])],regs:=[],plans:=[(9,⟨[0,1,3,5,6,7,9,10,2,4,8,11,12,13,14],[0,1,3,0,15,0,32,96,255,0,512,2047,4095,8191,16383],[(2,[6,10]),(4,[6,10]),(8,[10])],[]⟩),(10,⟨[0,1,2,3,4,5,6,7,8,9,10,11,12],[0,0,2,6,14,0,32,96,224,510,1023,2047,4095],[],[]⟩),(14,⟨[0,1,2,3,4,5,6,7,8,9,10,11],[0,0,2,6,14,0,32,96,254,511,1023,2047],[(6,[4])],[]⟩),(15,⟨[0,1,2,3,4,5,6,7,8,9,10,11,12],[0,0,2,6,14,0,32,96,224,510,1023,2047,4095],[(7,[4])],[]⟩),(20,⟨[0,1,2,3,4,5,6,7,8,9,11,12,15,16,18,19,10,13,14,17,20,21,22,23,24,25],[0,1,3,7,0,16,48,112,0,256,1008,0,2048,8176,16368,0,32768,131056,0,262144,1048575,2097151,4194303,4194303,8388607,33554431],[(10,[3,12,16,19])],[]⟩),(25,⟨[0,1,2,3,4,5,6,7,8,9],[0,1,3,7,0,0,0,64,224,511],[],[]⟩)] }
def Bi1:List Item:=A4 Tryz.f69
def Bo3:List Item:=stk [0,1,0,1,0,1,0,0,1,4,5] Bi1
def Bo7:List Item:=stk [0,1,0,1,0,1,0,1,0,1,0,1,0,0,1,4,5] Bi1
def Ba3:List Item:=stk [0,1,0,1,0,1,0,1,0,1,0,1,0,1,0,0,1,4,5] Bi1
def Ba1:List Item:=stk [0,1,0,1,0,1,0,1,0,1,0,1,0,1,0,0,1,4,5,6,0,1,0,1,0,4,0,1,0,1,0,1,4,5] Bi1
theorem Hn5 (C:A1) (R:A3) (c:List Value) (h:H) :
 A5 PR A67 C R H5 Tryz.f69 100000 true Bi1 [(0,.agg ⟨c⟩)] h =
 nw (.cells E0 false c) h fun b w=>gAgg ⟨b,0,none⟩ 5 w fun x=>bnd (C Q1 [.agg ⟨x⟩] w) fun r w1=>aBool r fun x_1=>cond (!x_1)
 (some (.tuple ⟨[.pointer none,.int .i64 1]⟩,w1))
 (gSl (Addr.add ⟨b,0,none⟩ 0) w1 fun x_2 xn xc=>R H5 Bo3 [(1,.pointer (some ⟨b,0,none⟩)),(4,.int .i64 0),(20,.slice x_2 xn xc),(21,.int .i64 ((xn:Nat):Int)),(22,.int .i64 0)] w1):=by kernel_rfl
theorem Ec7 (C:A1) (R:A3) (c:Addr) (all:Int) (x20:Option Addr) (x20n x20c:Nat) (x21:Int) (x22:Int) (h:H) :
 A5 PR A67 C R H5 Tryz.f69 100000 true Bo3 [(1,.pointer (some c)),(4,.int .i64 all),(20,.slice x20 x20n x20c),(21,.int .i64 x21),(22,.int .i64 x22)] h =
 cond (decide (x22<x21))
 (aSome x20 fun p=>ck ((0:Int)≤x22∧x22<((x20n:Nat):Int)) (gInt .i64 (Addr.add (A9 p) (Int.toNat x22*1)) h fun x=>bnd (C A89 [.int .i64 x] h) fun r w=>aInt .i64 r fun x_1=>R H5 Bo3 [(1,.pointer (some c)),(4,.int .i64 (IntKind.wrap .i64 (all+x_1))),(20,.slice x20 x20n x20c),(21,.int .i64 x21),(22,.int .i64 (IntKind.wrap .i64 (x22+1)))] w))
 (gSl (Addr.add c 1) h fun x_2 xn xc=>gSl (Addr.add c 1) h fun x_3 xn_1 xc_1=>gSl (Addr.add c 0) h fun x_4 xn_2 xc_2=>bnd (C W2 [.slice x_2 xn xc] h) fun r_1 w1=>aSl r_1 fun x_5 xn_3 xc_3=>gSl (Addr.add c 1) w1 fun x_6 xn_4 xc_4=>same (.slice x_3 xn_1 xc_1) (.slice x_6 xn_4 xc_4) (gSl (Addr.add c 0) w1 fun x_7 xn_5 xc_5=>same (.slice x_4 xn_2 xc_2) (.slice x_7 xn_5 xc_5) (bnd (C Dt3 [.int .i64 all] w1) fun r_2 w2=>aPtr r_2 fun x_8=>gSl (Addr.add c 1) w2 fun x_9 xn_6 xc_6=>same (.slice x_3 xn_1 xc_1) (.slice x_9 xn_6 xc_6) (gSl (Addr.add c 0) w2 fun x_10 xn_7 xc_7=>same (.slice x_4 xn_2 xc_2) (.slice x_10 xn_7 xc_7) (bnd (C Av6 [.int .i64 ((xn_1:Nat):Int)] w2) fun r_3 w3=>aPtr r_3 fun x_11=>gSl (Addr.add c 0) w3 fun x_12 xn_8 xc_8=>same (.slice x_4 xn_2 xc_2) (.slice x_12 xn_8 xc_8) (bnd (C Aq1 [.slice x_4 xn_2 xc_2] w3) fun r_4 w4=>aPtr r_4 fun x_13=>nw (.cells Dw1 false [.slice x_5 xn_3 xc_3,.slice none 0 0,.pointer x_8,.pointer x_11,.pointer x_13,.pointer none,.slice none 0 0,.int .i64 0]) w4 fun b w5=>gPtr (Addr.add ⟨b,0,none⟩ 2) w5 fun x_14=>gPtr (Addr.add ⟨b,0,none⟩ 3) w5 fun x_15=>bnd (C Bu9 [.pointer x_14,.pointer x_15] w5) fun r_5 w6=>aPtr r_5 fun x_16=>pV (Addr.add ⟨b,0,none⟩ 5) (.pointer x_16) w6 fun w7=>gSl (Addr.add c 2) w7 fun x_17 xn_9 xc_9=>R H5 Bo7 [(1,.pointer (some c)),(7,.pointer (some ⟨b,0,none⟩)),(58,.slice x_17 xn_9 xc_9),(59,.int .i64 ((xn_9:Nat):Int)),(60,.int .i64 0)] w7)))))):=by kernel_rfl
theorem Eb2 (C:A1) (R:A3) (c:Addr) (k:Addr) (x58:Option Addr) (x58n x58c:Nat) (x59:Int) (x60:Int) (h:H) :
 A5 PR A67 C R H5 Tryz.f69 100000 true Bo7 [(1,.pointer (some c)),(7,.pointer (some k)),(58,.slice x58 x58n x58c),(59,.int .i64 x59),(60,.int .i64 x60)] h =
 cond (decide (x60<x59))
 (aSome x58 fun p=>ck ((0:Int)≤x60∧x60<((x58n:Nat):Int)) (gSl (Addr.add (A9 p) (Int.toNat x60*1)) h fun x xn xc=>gSl (Addr.add k 1) h fun x_1 xn_1 xc_1=>bnd (C W2 [.slice x xn xc] h) fun r w=>aSl r fun x_2 xn_2 xc_2=>gSl (Addr.add k 1) w fun x_3 xn_3 xc_3=>same (.slice x_1 xn_1 xc_1) (.slice x_3 xn_3 xc_3) (nw (.cells P6 false [.slice x_2 xn_2 xc_2]) w fun b w1=>gCells (some ⟨b,0,none⟩) (1*1) w1 fun cs=>ckB (fitsOpen x_1 P6 w1) (apd P6 1 x_1 xn_1 xc_1 1 cs w1 fun a an ac w2=>pV (Addr.add k 1) (.slice a an ac) w2 fun w3=>gSl (Addr.add k 6) w3 fun x_4 xn_4 xc_4=>gInt .i64 (Addr.add c 3) w3 fun x_5=>bnd (C Dg3 [.int .i64 x_5] w3) fun r_1 w4=>aPtr r_1 fun x_6=>gSl (Addr.add k 6) w4 fun x_7 xn_5 xc_5=>same (.slice x_4 xn_4 xc_4) (.slice x_7 xn_5 xc_5) (nw (.cells Au3 false [.pointer x_6]) w4 fun b_1 w5=>gCells (some ⟨b_1,0,none⟩) (1*1) w5 fun cs_1=>ckB (fitsOpen x_4 Au3 w5) (apd Au3 1 x_4 xn_4 xc_4 1 cs_1 w5 fun a_1 an_1 ac_1 w6=>pV (Addr.add k 6) (.slice a_1 an_1 ac_1) w6 fun w7=>R H5 Bo7 [(1,.pointer (some c)),(7,.pointer (some k)),(58,.slice x58 x58n x58c),(59,.int .i64 x59),(60,.int .i64 (IntKind.wrap .i64 (x60+1)))] w7))))))
 (gSl (Addr.add c 4) h fun x_8 xn_6 xc_6=>R H5 Ba3 [(7,.pointer (some k)),(89,.slice x_8 xn_6 xc_6),(90,.int .i64 ((xn_6:Nat):Int)),(91,.int .i64 0)] h):=by kernel_rfl
theorem Eb7 (C:A1) (R:A3) (k:Addr) (x89:Option Addr) (x89n x89c:Nat) (x90:Int) (x91:Int) (h:H) :
 A5 PR A67 C R H5 Tryz.f69 100000 true Ba3 [(7,.pointer (some k)),(89,.slice x89 x89n x89c),(90,.int .i64 x90),(91,.int .i64 x91)] h =
 cond (decide (x91<x90))
 (aSome x89 fun p=>ck ((0:Int)≤x91∧x91<((x89n:Nat):Int)) (gAgg (Addr.add (A9 p) (Int.toNat x91*5)) 5 h fun x=>nw (.cells I5 false [.int .i64 0,.int .i64 0,.int .i64 0,.int .i64 0,.slice none 0 0]) h fun b w=>ck (List.length x=5) (pAgg ⟨b,0,none⟩ x w fun w1=>gPtr (Addr.add k 5) w1 fun x_1=>gPtr (Addr.add k 4) w1 fun x_2=>gInt .i64 (Addr.add ⟨b,0,none⟩ 0) w1 fun x_3=>gInt .i64 (Addr.add ⟨b,0,none⟩ 1) w1 fun x_4=>gInt .i64 (Addr.add ⟨b,0,none⟩ 2) w1 fun x_5=>gInt .i64 (Addr.add ⟨b,0,none⟩ 3) w1 fun x_6=>bnd (C O5 [.pointer x_2,.int .i64 x_3] w1) fun r w2=>aInt .i64 r fun x_7=>gPtr (Addr.add k 5) w2 fun x_8=>same (.pointer x_1) (.pointer x_8) (gInt .i64 (Addr.add ⟨b,0,none⟩ 1) w2 fun x_9=>same (.int .i64 x_4) (.int .i64 x_9) (gInt .i64 (Addr.add ⟨b,0,none⟩ 2) w2 fun x_10=>same (.int .i64 x_5) (.int .i64 x_10) (gInt .i64 (Addr.add ⟨b,0,none⟩ 3) w2 fun x_11=>same (.int .i64 x_6) (.int .i64 x_11) (bnd (C Am7 [.pointer x_1,.int .i64 (IntKind.wrap .i64 ((IntKind.wrap .i64 ((IntKind.wrap .i64 (x_7+x_4))*64))+x_5)),.int .i64 x_6] w2) fun r_1 w3=>as2 r_1 fun r_2 r_3=>aInt .i64 r_2 fun x_12=>aInt .i64 r_3 fun _=>gSl (Addr.add k 0) w3 fun x_14 xn xc=>R H5 Ba1 [(7,.pointer (some k)),(11,.pointer (some ⟨b,0,none⟩)),(12,.int .i64 x_12),(89,.slice x89 x89n x89c),(90,.int .i64 x90),(91,.int .i64 x91),(122,.slice x_14 xn xc),(123,.int .i64 ((xn:Nat):Int)),(124,.int .i64 0)] w3)))))))
 (some (.tuple ⟨[.pointer (some k),.int .i64 0]⟩,h)):=by kernel_rfl
theorem Ec6 (C:A1) (R:A3) (k:Addr) (x:Addr) (obj:Int) (x89:Option Addr) (x89n x89c:Nat) (x90:Int) (x91:Int) (x122:Option Addr) (x122n x122c:Nat) (x123:Int) (x124:Int) (h:H) :
 A5 PR A67 C R H5 Tryz.f69 100000 true Ba1 [(7,.pointer (some k)),(11,.pointer (some x)),(12,.int .i64 obj),(89,.slice x89 x89n x89c),(90,.int .i64 x90),(91,.int .i64 x91),(122,.slice x122 x122n x122c),(123,.int .i64 x123),(124,.int .i64 x124)] h =
 cond (decide (x124<x123))
 (aSome x122 fun p=>ck ((0:Int)≤x124∧x124<((x122n:Nat):Int)) (gInt .i64 (Addr.add (A9 p) (Int.toNat x124*1)) h fun x_1=>gSl (Addr.add x 4) h fun x_2 xn xc=>bnd (C J0 [.slice x_2 xn xc,.int .i64 x_1] h) fun r w=>aBool r fun x_3=>cond x_3
 (gPtr (Addr.add k 3) w fun x_4=>gInt .i64 (Addr.add x 3) w fun x_5=>bnd (C A72 [.pointer x_4,.int .i64 x124,.agg ⟨[.int .i64 obj,.int .i64 3,.int .i64 0,.int .i64 x_5,.int .i64 0,.int .i64 0]⟩] w) fun r_1 w1=>as2 r_1 fun r_2 r_3=>aInt .i64 r_2 fun _=>aInt .i64 r_3 fun _=>R H5 Ba1 [(7,.pointer (some k)),(11,.pointer (some x)),(12,.int .i64 obj),(89,.slice x89 x89n x89c),(90,.int .i64 x90),(91,.int .i64 x91),(122,.slice x122 x122n x122c),(123,.int .i64 x123),(124,.int .i64 (IntKind.wrap .i64 (x124+1)))] w1)
 (R H5 Ba1 [(7,.pointer (some k)),(11,.pointer (some x)),(12,.int .i64 obj),(89,.slice x89 x89n x89c),(90,.int .i64 x90),(91,.int .i64 x91),(122,.slice x122 x122n x122c),(123,.int .i64 x123),(124,.int .i64 (IntKind.wrap .i64 (x124+1)))] w)))
 (R H5 Ba3 [(7,.pointer (some k)),(89,.slice x89 x89n x89c),(90,.int .i64 x90),(91,.int .i64 (IntKind.wrap .i64 (x91+1)))] h):=by kernel_rfl
def Bg1:Cuts:={ globs:=0,loops:=[],regs:=[],plans:=[] }
def B87:List Item:=A4 Tryz.f72
theorem El7 (C:A1) (R:A3) (k:Option Addr) (env:Int) (h:H) :
 A5 PR Bg1 C R Ax3 Tryz.f72 100000 true B87 [(0,.pointer k),(1,.int .i64 env)] h =
 aSome k fun p=>gPtr (Addr.add p 6) h fun x=>aSome x fun p_1=>gPtr (Addr.add p_1 3) h fun x_1=>bnd (C A61 [.pointer x_1,.int .i64 env] h) fun r w=>aSl r fun x_2 xn xc=>cond (((xn:Nat):Int)==0)
 (some (.pointer none,w))
 (nw (.cells Dt5 false [.pointer k,.int .i64 env,.slice x_2 xn xc,.slice none 0 0]) w fun b w1=>some (.pointer (some ⟨b,0,none⟩),w1)):=by kernel_rfl
def A60:Cuts:={ globs:=0,loops:=[],regs:=[],plans:=[] }
def Bx2:List Item:=A4 Tryz.f77
theorem D31 (C:A1) (R:A3) (r:Option Addr) (e:Int) (name:Int) (atv:Int) (b:ByteArray) (h:H) :
 A5 PR A60 C R An6 Tryz.f77 100000 true Bx2 [(0,.pointer r),(1,.int .i64 e),(2,.int .i64 name),(3,.int .i64 atv),(4,.string b)] h =
 bnd (C An1 [.pointer r,.int .i64 e,.int .i64 name,.int .i64 2,.int .i64 atv,.int .i64 ((ByteArray.size b:Nat):Int)] h) fun r_1 w=>as2 r_1 fun r_2 r_3=>aInt .i64 r_2 fun x=>aInt .i64 r_3 fun x_1=>cond (x_1 != 0)
 (some (.int .i64 x_1,w))
 (aSome r fun p=>gSl (Addr.add p 0) w fun x_2 xn xc=>ckB (fitsOpen x_2 A2 w) (ck ((0:Int)≤x∧x≤((xn:Nat):Int)) (pCells (H0 x_2 (decide (Int.toNat x<xc)) ((Int.toNat x)*1)) (A0 (List.take (min (ByteArray.size b) (xn-(Int.toNat x))) (ByteArray.data b).toList)) w fun w1=>some (.int .i64 0,w1)))):=by kernel_rfl
def B99:Cuts:={ globs:=0,loops:=[],regs:=[],plans:=[] }
def Ec9:List Item:=A4 Tryz.f88
theorem Gq6 (C:A1) (R:A3) (i:Int) (fv0:Addr) (h:H) :
 A5 PR B99 C R A85 Tryz.f88 100000 true Ec9 [(0,.int .i64 i),(1,.pointer (some fv0))] h =
 ck ((0:Int)≤i∧i<((8:Nat):Int)) (gInt .i64 (Addr.add (Addr.add fv0 8) (Int.toNat i*1)) h fun x=>some (.bool (x==0),h)):=by kernel_rfl
def B27:Cuts:={ globs:=0,loops:=[],regs:=[],plans:=[] }
def Dy9:List Item:=A4 Tryz.f90
theorem Gd8 (C:A1) (R:A3) (i:Int) (h:H) :
 A5 PR B27 C R A28 Tryz.f90 100000 true Dy9 [(0,.int .i64 i)] h =
 nw (.cells E1 false [.int .i64 0,.int .i64 0]) h fun b w=>pAgg ⟨b,0,none⟩ [.int .i64 2,.int .i64 i] w fun w1=>gAgg ⟨b,0,none⟩ 2 w1 fun x=>some (.agg ⟨x⟩,w1):=by kernel_rfl
def Ac4:Cuts:={ globs:=0,loops:=[],regs:=[(8,[6,8,11,12])],plans:=[(7,⟨[0,1,2,3,4,5,6,7,8,9],[0,1,3,7,0,31,63,31,159,511],[(7,[5])],[]⟩)] }
def Am2:List Item:=A4 Tryz.f92
def Ah6:List Item:=stk [0,1,0,1,0,1,0,1,0,1,0,1,0,0] Am2
theorem De8 (C:A1) (R:A3) (c:Option Addr) (r:List Value) (decode:Value) (h:H) :
 A5 PR Ac4 C R I0 Tryz.f92 100000 true Am2 [(0,.pointer c),(1,.agg ⟨r⟩),(2,decode)] h =
 nw (.cells E1 false r) h fun b w=>nw (.cells D0 false [.int .i64 0,.int .i64 0,.int .i64 0,.int .i64 0,.int .u8 0,.int .u8 0,.int .u8 0,.int .u8 0,.int .u8 0,.int .u8 0,.int .u8 0,.int .u8 0,.int .u8 0,.int .u8 0,.int .u8 0,.int .u8 0,.int .u8 0,.int .u8 0,.int .u8 0,.int .u8 0,.int .u8 0,.int .u8 0,.int .u8 0,.int .u8 0,.int .u8 0,.int .u8 0,.int .u8 0,.int .u8 0,.int .u8 0,.int .u8 0,.int .u8 0,.int .u8 0,.int .u8 0,.int .u8 0,.int .u8 0,.int .u8 0]) w fun b_1 w1=>nw (.cells D0 false [.int .i64 0,.int .i64 0,.int .i64 0,.int .i64 0,.int .u8 0,.int .u8 0,.int .u8 0,.int .u8 0,.int .u8 0,.int .u8 0,.int .u8 0,.int .u8 0,.int .u8 0,.int .u8 0,.int .u8 0,.int .u8 0,.int .u8 0,.int .u8 0,.int .u8 0,.int .u8 0,.int .u8 0,.int .u8 0,.int .u8 0,.int .u8 0,.int .u8 0,.int .u8 0,.int .u8 0,.int .u8 0,.int .u8 0,.int .u8 0,.int .u8 0,.int .u8 0,.int .u8 0,.int .u8 0,.int .u8 0,.int .u8 0]) w1 fun b_2 w2=>gAgg ⟨b,0,none⟩ 2 w2 fun x=>bnd (C N6 [.pointer c,.agg ⟨x⟩] w2) fun r_1 w3=>as2 r_1 fun r_2 r_3=>aSl r_2 fun x_1 xn xc=>aBool r_3 fun x_2=>cond (!x_2)
 (gAgg ⟨b_2,0,none⟩ 36 w3 fun x_3=>ck (List.length x_3=36) (pAgg ⟨b_1,0,none⟩ x_3 w3 fun w4=>gAgg ⟨b_1,0,none⟩ 36 w4 fun x_4=>some (.tuple ⟨[.agg ⟨x_4⟩,.int .i64 2]⟩,w4)))
 (aFn decode fun g fi cp=>bnd (C g (fi++([.slice x_1 xn xc]++cp)) w3) fun r_4 w5=>as2 r_4 fun r_5 r_6=>aAgg r_5 fun x_5=>aInt .i64 r_6 fun x_6=>nw (.cells D0 false [.int .i64 0,.int .i64 0,.int .i64 0,.int .i64 0,.int .u8 0,.int .u8 0,.int .u8 0,.int .u8 0,.int .u8 0,.int .u8 0,.int .u8 0,.int .u8 0,.int .u8 0,.int .u8 0,.int .u8 0,.int .u8 0,.int .u8 0,.int .u8 0,.int .u8 0,.int .u8 0,.int .u8 0,.int .u8 0,.int .u8 0,.int .u8 0,.int .u8 0,.int .u8 0,.int .u8 0,.int .u8 0,.int .u8 0,.int .u8 0,.int .u8 0,.int .u8 0,.int .u8 0,.int .u8 0,.int .u8 0,.int .u8 0]) w5 fun b_3 w6=>ck (List.length x_5=36) (pAgg ⟨b_3,0,none⟩ x_5 w6 fun w7=>cond (x_6==2)
 (aSome c fun p=>gMap (Addr.add p 3) w7 fun x_7=>gAgg ⟨b,0,none⟩ 2 w7 fun x_8=>keyN PR E1 (.agg ⟨x_8⟩) (opt x_7 fun r_7=>mapAt w7 r_7 fun es _=>opt (Ak4 (.int .i64 0) (.agg ⟨x_8⟩) es) fun f=>aInt .i64 f.1 fun x_9=>keyN PR E1 (.agg ⟨x_8⟩) (opt x_7 fun r_8=>mapAt w7 r_8 fun es_1 cl_1=>opt (Dw4 (.int .i64 0) (.agg ⟨x_8⟩) es_1 cl_1) fun f_1=>aInt .i64 f_1.1 fun _=>lt (H.set w7 r_8 f_1.2.2) fun w8=>keyN PR E1 (.agg ⟨x_8⟩) (opt x_7 fun r_9=>mapAt w8 r_9 fun es_2 _=>opt (Ak4 (.int .i64 0) (.agg ⟨x_8⟩) es_2) fun f_2=>aInt .i64 f_2.1 fun x_11=>same (.int .i64 x_9) (.int .i64 x_11) (opt x_7 fun r_10=>mapAt w8 r_10 fun es_3 cl_3=>opt (Bh9 (f_1.2.1:Int) es_3 0) fun i=>lt (H.set w8 r_10 (.map (modN (fun e=>{ e with val:=.int .i64 (IntKind.wrap .i64 (x_9+1)) }) i es_3) cl_3)) fun w9=>R I0 Ah6 [(6,.pointer (some ⟨b_1,0,none⟩)),(8,.pointer (some ⟨b_2,0,none⟩)),(11,.pointer (some ⟨b_3,0,none⟩)),(12,.int .i64 x_6)] w9)))))
 (R I0 Ah6 [(6,.pointer (some ⟨b_1,0,none⟩)),(8,.pointer (some ⟨b_2,0,none⟩)),(11,.pointer (some ⟨b_3,0,none⟩)),(12,.int .i64 x_6)] w7))):=by kernel_rfl
theorem A49 (C:A1) (R:A3) (x6:Addr) (nonev:Addr) (v:Addr) (isv:Int) (h:H) :
 A5 PR Ac4 C R I0 Tryz.f92 100000 true Ah6 [(6,.pointer (some x6)),(8,.pointer (some nonev)),(11,.pointer (some v)),(12,.int .i64 isv)] h =
 cond (isv != 1)
 (gAgg nonev 36 h fun x=>ck (List.length x=36) (pAgg x6 x h fun w=>gAgg x6 36 w fun x_1=>some (.tuple ⟨[.agg ⟨x_1⟩,.int .i64 isv]⟩,w)))
 (gAgg v 36 h fun x_2=>ck (List.length x_2=36) (pAgg x6 x_2 h fun w1=>gAgg x6 36 w1 fun x_3=>some (.tuple ⟨[.agg ⟨x_3⟩,.int .i64 isv]⟩,w1))):=by kernel_rfl
def Db3:Cuts:={ globs:=0,loops:=[],regs:=[],plans:=[] }
def Ec4:List Item:=A4 Tryz.f94
theorem Go8 (C:A1) (R:A3) (b:Option Addr) (bn bc:Nat) (h:H) :
 A5 PR Db3 C R Au1 Tryz.f94 100000 true Ec4 [(0,.slice b bn bc)] h =
 nw (.cells D0 false [.int .i64 0,.int .i64 0,.int .i64 0,.int .i64 0,.int .u8 0,.int .u8 0,.int .u8 0,.int .u8 0,.int .u8 0,.int .u8 0,.int .u8 0,.int .u8 0,.int .u8 0,.int .u8 0,.int .u8 0,.int .u8 0,.int .u8 0,.int .u8 0,.int .u8 0,.int .u8 0,.int .u8 0,.int .u8 0,.int .u8 0,.int .u8 0,.int .u8 0,.int .u8 0,.int .u8 0,.int .u8 0,.int .u8 0,.int .u8 0,.int .u8 0,.int .u8 0,.int .u8 0,.int .u8 0,.int .u8 0,.int .u8 0]) h fun b_1 w=>bnd (cond (((bn:Nat):Int)==40) (bnd (C Ak8 [.slice b bn bc] w) fun r w1=>aBool r fun x=>some (x,w1)) (some (false,w))) fun c w2=>cond c
 (pAgg ⟨b_1,0,none⟩ [.int .i64 0,.int .i64 0,.int .i64 0,.int .i64 0,.int .u8 0,.int .u8 0,.int .u8 0,.int .u8 0,.int .u8 0,.int .u8 0,.int .u8 0,.int .u8 0,.int .u8 0,.int .u8 0,.int .u8 0,.int .u8 0,.int .u8 0,.int .u8 0,.int .u8 0,.int .u8 0,.int .u8 0,.int .u8 0,.int .u8 0,.int .u8 0,.int .u8 0,.int .u8 0,.int .u8 0,.int .u8 0,.int .u8 0,.int .u8 0,.int .u8 0,.int .u8 0,.int .u8 0,.int .u8 0,.int .u8 0,.int .u8 0] w2 fun w3=>gAgg ⟨b_1,0,none⟩ 36 w3 fun x_1=>some (.tuple ⟨[.agg ⟨x_1⟩,.int .i64 0]⟩,w3))
 (bnd (C Bg5 [] w2) fun r_1 w4=>aPtr r_1 fun x_2=>bnd (C V3 [.pointer x_2,.slice b bn bc] w4) fun r_2 w5=>as2 r_2 fun r_3 r_4=>aAgg r_3 fun x_3=>aBool r_4 fun x_4=>nw (.cells D0 false [.int .i64 0,.int .i64 0,.int .i64 0,.int .i64 0,.int .u8 0,.int .u8 0,.int .u8 0,.int .u8 0,.int .u8 0,.int .u8 0,.int .u8 0,.int .u8 0,.int .u8 0,.int .u8 0,.int .u8 0,.int .u8 0,.int .u8 0,.int .u8 0,.int .u8 0,.int .u8 0,.int .u8 0,.int .u8 0,.int .u8 0,.int .u8 0,.int .u8 0,.int .u8 0,.int .u8 0,.int .u8 0,.int .u8 0,.int .u8 0,.int .u8 0,.int .u8 0,.int .u8 0,.int .u8 0,.int .u8 0,.int .u8 0]) w5 fun b_2 w6=>ck (List.length x_3=36) (pAgg ⟨b_2,0,none⟩ x_3 w6 fun w7=>cond (!x_4)
 (pAgg ⟨b_1,0,none⟩ [.int .i64 0,.int .i64 0,.int .i64 0,.int .i64 0,.int .u8 0,.int .u8 0,.int .u8 0,.int .u8 0,.int .u8 0,.int .u8 0,.int .u8 0,.int .u8 0,.int .u8 0,.int .u8 0,.int .u8 0,.int .u8 0,.int .u8 0,.int .u8 0,.int .u8 0,.int .u8 0,.int .u8 0,.int .u8 0,.int .u8 0,.int .u8 0,.int .u8 0,.int .u8 0,.int .u8 0,.int .u8 0,.int .u8 0,.int .u8 0,.int .u8 0,.int .u8 0,.int .u8 0,.int .u8 0,.int .u8 0,.int .u8 0] w7 fun w8=>gAgg ⟨b_1,0,none⟩ 36 w8 fun x_5=>some (.tuple ⟨[.agg ⟨x_5⟩,.int .i64 2]⟩,w8))
 (gAgg ⟨b_2,0,none⟩ 36 w7 fun x_6=>ck (List.length x_6=36) (pAgg ⟨b_1,0,none⟩ x_6 w7 fun w9=>gAgg ⟨b_1,0,none⟩ 36 w9 fun x_7=>some (.tuple ⟨[.agg ⟨x_7⟩,.int .i64 1]⟩,w9))))):=by kernel_rfl
def An0:Cuts:={ globs:=0,loops:=[],regs:=[],plans:=[] }
def Bb8:List Item:=A4 Tryz.f105
theorem Df0 (C:A1) (R:A3) (s:Option Addr) (sn sc:Nat) (h:H) :
 A5 PR An0 C R S5 Tryz.f105 100000 true Bb8 [(0,.slice s sn sc)] h =
 ckB (fitsOpen s A2 h) (ck ((0:Int)≤((sn:Nat):Int)∧((sn:Nat):Int)≤((sc:Nat):Int)) (ck ((0:Int)≤((sn:Nat):Int)∧((sn:Nat):Int)≤((Int.toNat ((sn:Nat):Int):Nat):Int)) (some (.slice (By7 (H0 s (decide (0<Int.toNat ((sn:Nat):Int))) (0*1))) ((Int.toNat ((sn:Nat):Int))-0) ((Int.toNat ((sn:Nat):Int))-0),h)))):=by kernel_rfl
def Ac8:Cuts:={ globs:=0,loops:=[],regs:=[(8,[6,8,11,12])],plans:=[(7,⟨[0,1,2,3,4,5,6,7,8,9],[0,1,3,7,0,31,63,31,159,511],[(7,[5])],[]⟩)] }
def Ap3:List Item:=A4 Tryz.f110
def Ai0:List Item:=stk [0,1,0,1,0,1,0,1,0,1,0,1,0,0] Ap3
theorem Dd6 (C:A1) (R:A3) (c:Option Addr) (r:List Value) (decode:Value) (h:H) :
 A5 PR Ac8 C R J9 Tryz.f110 100000 true Ap3 [(0,.pointer c),(1,.agg ⟨r⟩),(2,decode)] h =
 nw (.cells E1 false r) h fun b w=>nw (.cells D7 false [.int .i64 0,.int .i64 0,.int .i64 0,.int .i64 0,.int .i64 0,.int .i64 0,.int .i64 0,.int .i64 0,.int .i64 0,.int .i64 0,.int .i64 0,.int .i64 0,.int .i64 0,.int .i64 0,.int .i64 0,.int .i64 0]) w fun b_1 w1=>nw (.cells D7 false [.int .i64 0,.int .i64 0,.int .i64 0,.int .i64 0,.int .i64 0,.int .i64 0,.int .i64 0,.int .i64 0,.int .i64 0,.int .i64 0,.int .i64 0,.int .i64 0,.int .i64 0,.int .i64 0,.int .i64 0,.int .i64 0]) w1 fun b_2 w2=>gAgg ⟨b,0,none⟩ 2 w2 fun x=>bnd (C N6 [.pointer c,.agg ⟨x⟩] w2) fun r_1 w3=>as2 r_1 fun r_2 r_3=>aSl r_2 fun x_1 xn xc=>aBool r_3 fun x_2=>cond (!x_2)
 (gAgg ⟨b_2,0,none⟩ 16 w3 fun x_3=>ck (List.length x_3=16) (pAgg ⟨b_1,0,none⟩ x_3 w3 fun w4=>gAgg ⟨b_1,0,none⟩ 16 w4 fun x_4=>some (.tuple ⟨[.agg ⟨x_4⟩,.int .i64 2]⟩,w4)))
 (aFn decode fun g fi cp=>bnd (C g (fi++([.slice x_1 xn xc]++cp)) w3) fun r_4 w5=>as2 r_4 fun r_5 r_6=>aAgg r_5 fun x_5=>aInt .i64 r_6 fun x_6=>nw (.cells D7 false [.int .i64 0,.int .i64 0,.int .i64 0,.int .i64 0,.int .i64 0,.int .i64 0,.int .i64 0,.int .i64 0,.int .i64 0,.int .i64 0,.int .i64 0,.int .i64 0,.int .i64 0,.int .i64 0,.int .i64 0,.int .i64 0]) w5 fun b_3 w6=>ck (List.length x_5=16) (pAgg ⟨b_3,0,none⟩ x_5 w6 fun w7=>cond (x_6==2)
 (aSome c fun p=>gMap (Addr.add p 3) w7 fun x_7=>gAgg ⟨b,0,none⟩ 2 w7 fun x_8=>keyN PR E1 (.agg ⟨x_8⟩) (opt x_7 fun r_7=>mapAt w7 r_7 fun es _=>opt (Ak4 (.int .i64 0) (.agg ⟨x_8⟩) es) fun f=>aInt .i64 f.1 fun x_9=>keyN PR E1 (.agg ⟨x_8⟩) (opt x_7 fun r_8=>mapAt w7 r_8 fun es_1 cl_1=>opt (Dw4 (.int .i64 0) (.agg ⟨x_8⟩) es_1 cl_1) fun f_1=>aInt .i64 f_1.1 fun _=>lt (H.set w7 r_8 f_1.2.2) fun w8=>keyN PR E1 (.agg ⟨x_8⟩) (opt x_7 fun r_9=>mapAt w8 r_9 fun es_2 _=>opt (Ak4 (.int .i64 0) (.agg ⟨x_8⟩) es_2) fun f_2=>aInt .i64 f_2.1 fun x_11=>same (.int .i64 x_9) (.int .i64 x_11) (opt x_7 fun r_10=>mapAt w8 r_10 fun es_3 cl_3=>opt (Bh9 (f_1.2.1:Int) es_3 0) fun i=>lt (H.set w8 r_10 (.map (modN (fun e=>{ e with val:=.int .i64 (IntKind.wrap .i64 (x_9+1)) }) i es_3) cl_3)) fun w9=>R J9 Ai0 [(6,.pointer (some ⟨b_1,0,none⟩)),(8,.pointer (some ⟨b_2,0,none⟩)),(11,.pointer (some ⟨b_3,0,none⟩)),(12,.int .i64 x_6)] w9)))))
 (R J9 Ai0 [(6,.pointer (some ⟨b_1,0,none⟩)),(8,.pointer (some ⟨b_2,0,none⟩)),(11,.pointer (some ⟨b_3,0,none⟩)),(12,.int .i64 x_6)] w7))):=by kernel_rfl
theorem A36 (C:A1) (R:A3) (x6:Addr) (nonev:Addr) (v:Addr) (isv:Int) (h:H) :
 A5 PR Ac8 C R J9 Tryz.f110 100000 true Ai0 [(6,.pointer (some x6)),(8,.pointer (some nonev)),(11,.pointer (some v)),(12,.int .i64 isv)] h =
 cond (isv != 1)
 (gAgg nonev 16 h fun x=>ck (List.length x=16) (pAgg x6 x h fun w=>gAgg x6 16 w fun x_1=>some (.tuple ⟨[.agg ⟨x_1⟩,.int .i64 isv]⟩,w)))
 (gAgg v 16 h fun x_2=>ck (List.length x_2=16) (pAgg x6 x_2 h fun w1=>gAgg x6 16 w1 fun x_3=>some (.tuple ⟨[.agg ⟨x_3⟩,.int .i64 isv]⟩,w1))):=by kernel_rfl
def Am6:Cuts:={ globs:=0,loops:=[],regs:=[(8,[8,11,12])],plans:=[(7,⟨[0,1,2,3,4,5,6,7,8,9],[0,1,3,7,0,31,63,31,159,511],[(7,[5])],[]⟩)] }
def A65:List Item:=A4 Tryz.f115
def At8:List Item:=stk [0,1,0,1,0,1,0,1,0,1,0,1,0,0] A65
theorem D57 (C:A1) (R:A3) (c:Option Addr) (r:List Value) (decode:Value) (h:H) :
 A5 PR Am6 C R P8 Tryz.f115 100000 true A65 [(0,.pointer c),(1,.agg ⟨r⟩),(2,decode)] h =
 nw (.cells E1 false r) h fun b w=>gAgg ⟨b,0,none⟩ 2 w fun x=>bnd (C N6 [.pointer c,.agg ⟨x⟩] w) fun r_1 w1=>as2 r_1 fun r_2 r_3=>aSl r_2 fun x_1 xn xc=>aBool r_3 fun x_2=>cond (!x_2)
 (some (.tuple ⟨[.int .i64 0,.int .i64 2]⟩,w1))
 (aFn decode fun g fi cp=>bnd (C g (fi++([.slice x_1 xn xc]++cp)) w1) fun r_4 w2=>as2 r_4 fun r_5 r_6=>aInt .i64 r_5 fun x_3=>aInt .i64 r_6 fun x_4=>cond (x_4==2)
 (aSome c fun p=>gMap (Addr.add p 3) w2 fun x_5=>gAgg ⟨b,0,none⟩ 2 w2 fun x_6=>keyN PR E1 (.agg ⟨x_6⟩) (opt x_5 fun r_7=>mapAt w2 r_7 fun es _=>opt (Ak4 (.int .i64 0) (.agg ⟨x_6⟩) es) fun f=>aInt .i64 f.1 fun x_7=>keyN PR E1 (.agg ⟨x_6⟩) (opt x_5 fun r_8=>mapAt w2 r_8 fun es_1 cl_1=>opt (Dw4 (.int .i64 0) (.agg ⟨x_6⟩) es_1 cl_1) fun f_1=>aInt .i64 f_1.1 fun _=>lt (H.set w2 r_8 f_1.2.2) fun w3=>keyN PR E1 (.agg ⟨x_6⟩) (opt x_5 fun r_9=>mapAt w3 r_9 fun es_2 _=>opt (Ak4 (.int .i64 0) (.agg ⟨x_6⟩) es_2) fun f_2=>aInt .i64 f_2.1 fun x_9=>same (.int .i64 x_7) (.int .i64 x_9) (opt x_5 fun r_10=>mapAt w3 r_10 fun es_3 cl_3=>opt (Bh9 (f_1.2.1:Int) es_3 0) fun i=>lt (H.set w3 r_10 (.map (modN (fun e=>{ e with val:=.int .i64 (IntKind.wrap .i64 (x_7+1)) }) i es_3) cl_3)) fun w4=>R P8 At8 [(8,.int .i64 0),(11,.int .i64 x_3),(12,.int .i64 x_4)] w4)))))
 (R P8 At8 [(8,.int .i64 0),(11,.int .i64 x_3),(12,.int .i64 x_4)] w2)):=by kernel_rfl
theorem Bj2 (C:A1) (R:A3) (nonev:Int) (v:Int) (isv:Int) (h:H) :
 A5 PR Am6 C R P8 Tryz.f115 100000 true At8 [(8,.int .i64 nonev),(11,.int .i64 v),(12,.int .i64 isv)] h =
 cond (isv != 1)
 (some (.tuple ⟨[.int .i64 nonev,.int .i64 isv]⟩,h))
 (some (.tuple ⟨[.int .i64 v,.int .i64 isv]⟩,h)):=by kernel_rfl
def A62:Cuts:={ globs:=0,loops:=[],regs:=[],plans:=[] }
def Bv1:List Item:=A4 Tryz.f117
theorem D21 (C:A1) (R:A3) (g:Int) (h:H) :
 A5 PR A62 C R An5 Tryz.f117 100000 true Bv1 [(0,.int .i64 g)] h =
 bnd (cond (decide (g<0)) (some (true,h)) (some (decide (g≥8),h))) fun c w=>cond c
 (some (.tuple ⟨[.slice none 0 0,.bool false]⟩,w))
 (nw (.cells A2 false [.int .u8 (IntKind.wrap .u8 (g)),.int .u8 211]) w fun b w1=>bnd (C Aa4 [.slice (some ⟨b,0,none⟩) 2 2] w1) fun r w2=>aInt .u8 r fun x=>nw (.cells A2 false [.int .u8 x,.int .u8 0]) w2 fun b_1 w3=>gCells (some ⟨b_1,0,none⟩) (2*1) w3 fun cs=>ckB (fitsOpen (some ⟨b,0,none⟩) A2 w3) (apd A2 1 (some ⟨b,0,none⟩) 2 2 2 cs w3 fun a an ac w4=>some (.tuple ⟨[.slice a an ac,.bool true]⟩,w4))):=by kernel_rfl
def De4:Cuts:={ globs:=0,loops:=[(3,[3,8,9])],regs:=[],plans:=[(4,⟨[0,1,2,3,4,5,6,7,8,9,10],[0,0,2,6,14,0,32,126,255,511,1023],[(5,[4])],[]⟩)] }
def D85:List Item:=A4 Tryz.f122
def Bo8:List Item:=stk [0,1,0,1,0,0,1,4,5] D85
theorem Hg8 (C:A1) (R:A3) (envs:Int) (h:H) :
 A5 PR De4 C R Av6 Tryz.f122 100000 true D85 [(0,.int .i64 envs)] h =
 nw (.cells Ar9 false [.slice none 0 0]) h fun b w=>R Av6 Bo8 [(3,.pointer (some ⟨b,0,none⟩)),(8,.int .i64 (mm2 false (mm2 true envs 0) 40)),(9,.int .i64 0)] w:=by kernel_rfl
theorem Ec2 (C:A1) (R:A3) (s:Addr) (x8:Int) (x9:Int) (h:H) :
 A5 PR De4 C R Av6 Tryz.f122 100000 true Bo8 [(3,.pointer (some s)),(8,.int .i64 x8),(9,.int .i64 x9)] h =
 cond (decide (x9<x8))
 (gSl (Addr.add s 0) h fun x xn xc=>bnd (C O7 [.int .i64 32] h) fun r w=>aPtr r fun x_1=>gSl (Addr.add s 0) w fun x_2 xn_1 xc_1=>same (.slice x xn xc) (.slice x_2 xn_1 xc_1) (nw (.cells G5 false [.pointer x_1]) w fun b w1=>gCells (some ⟨b,0,none⟩) (1*1) w1 fun cs=>ckB (fitsOpen x G5 w1) (apd G5 1 x xn xc 1 cs w1 fun a an ac w2=>pV (Addr.add s 0) (.slice a an ac) w2 fun w3=>R Av6 Bo8 [(3,.pointer (some s)),(8,.int .i64 x8),(9,.int .i64 (IntKind.wrap .i64 (x9+1)))] w3)))
 (some (.pointer (some s),h)):=by kernel_rfl
def As5:Cuts:={ globs:=0,loops:=[(3,[5,20,21,22])],regs:=[],plans:=[(2,⟨[0,1,2,3,4,5,6,7,8,9,10,11,12,13,14],[0,1,3,7,0,16,0,64,192,448,960,2032,4095,8191,0],[],[]⟩)] }
def Bb2:List Item:=A4 Tryz.f127
def Ai5:List Item:=stk [0,1,0,1,0,0,1,4,5] Bb2
theorem Ed1 (C:A1) (R:A3) (q:Option Addr) (s:Int) (h:H) :
 A5 PR As5 C R O5 Tryz.f127 100000 true Bb2 [(0,.pointer q),(1,.int .i64 s)] h =
 aSome q fun p=>gSl (Addr.add p 0) h fun x _ xc=>aSome q fun p_1=>gSl (Addr.add p_1 0) h fun _ xn_1 _=>ckB (fitsOpen x P6 h) (ck ((0:Int)≤mm2 false (mm2 true s 0) ((xn_1:Nat):Int)∧mm2 false (mm2 true s 0) ((xn_1:Nat):Int)≤((xc:Nat):Int)) (R O5 Ai5 [(5,.int .i64 0),(20,.slice (H0 x (decide (0<xc)) (0*1)) ((Int.toNat (mm2 false (mm2 true s 0) ((xn_1:Nat):Int)))-0) (xc-0)),(21,.int .i64 (((Int.toNat (mm2 false (mm2 true s 0) ((xn_1:Nat):Int)))-0:Nat):Int)),(22,.int .i64 0)] h)):=by kernel_rfl
theorem Bl1 (C:A1) (R:A3) (n:Int) (x20:Option Addr) (x20n x20c:Nat) (x21:Int) (x22:Int) (h:H) :
 A5 PR As5 C R O5 Tryz.f127 100000 true Ai5 [(5,.int .i64 n),(20,.slice x20 x20n x20c),(21,.int .i64 x21),(22,.int .i64 x22)] h =
 cond (decide (x22<x21))
 (aSome x20 fun p=>ck ((0:Int)≤x22∧x22<((x20n:Nat):Int)) (gSl (Addr.add (A9 p) (Int.toNat x22*1)) h fun _ xn _=>R O5 Ai5 [(5,.int .i64 (IntKind.wrap .i64 (n+((xn:Nat):Int)))),(20,.slice x20 x20n x20c),(21,.int .i64 x21),(22,.int .i64 (IntKind.wrap .i64 (x22+1)))] h))
 (some (.int .i64 n,h)):=by kernel_rfl
def Ds2:Cuts:={ globs:=0,loops:=[(2,[0,1,5])],regs:=[],plans:=[] }
def Ej4:List Item:=A4 Tryz.f134
def Bz2:List Item:=stk [0,1,0,0,1,4,5] Ej4
theorem Ht4 (C:A1) (R:A3) (l:Option Addr) (ln lc:Nat) (s:Int) (h:H) :
 A5 PR Ds2 C R A50 Tryz.f134 100000 true Ej4 [(0,.slice l ln lc),(1,.int .i64 s)] h =
 R A50 Bz2 [(0,.slice l ln lc),(1,.int .i64 s),(5,.int .i64 0)] h:=by kernel_rfl
theorem Ei4 (C:A1) (R:A3) (l:Option Addr) (ln lc:Nat) (s:Int) (i:Int) (h:H) :
 A5 PR Ds2 C R A50 Tryz.f134 100000 true Bz2 [(0,.slice l ln lc),(1,.int .i64 s),(5,.int .i64 i)] h =
 cond (decide (i<((ln:Nat):Int)))
 (aSome l fun p=>ck ((0:Int)≤i∧i<((ln:Nat):Int)) (gInt .i64 (Addr.add (A9 p) (Int.toNat i*1)) h fun x=>cond (x==s)
 (some (.bool true,h))
 (R A50 Bz2 [(0,.slice l ln lc),(1,.int .i64 s),(5,.int .i64 (IntKind.wrap .i64 (i+1)))] h)))
 (some (.bool false,h)):=by kernel_rfl
def Bq7:Cuts:={ globs:=0,loops:=[],regs:=[],plans:=[] }
def Dn0:List Item:=A4 Tryz.f135
theorem E04 (C:A1) (R:A3) (s:Option Addr) (e:Int) (c:List Value) (h:H) :
 A5 PR Bq7 C R A58 Tryz.f135 100000 true Dn0 [(0,.pointer s),(1,.int .i64 e),(2,.agg ⟨c⟩)] h =
 nw (.cells O6 false c) h fun b w=>bnd (C Ah9 [.pointer s,.int .i64 e] w) fun r w1=>aBool r fun x=>bnd (cond (!x) (some (true,w1)) (gInt .i64 (Addr.add ⟨b,0,none⟩ 1) w1 fun x_1=>some (decide (x_1<0),w1))) fun c_1 w2=>bnd (cond c_1 (some (true,w2)) (gInt .i64 (Addr.add ⟨b,0,none⟩ 1) w2 fun x_2=>some (decide (x_2>7),w2))) fun c_2 w3=>bnd (cond c_2 (some (true,w3)) (gInt .i64 (Addr.add ⟨b,0,none⟩ 2) w3 fun x_3=>some (decide (x_3<0),w3))) fun c_3 w4=>bnd (cond c_3 (some (true,w4)) (gInt .i64 (Addr.add ⟨b,0,none⟩ 2) w4 fun x_4=>some (decide (x_4>65536),w4))) fun c_4 w5=>bnd (cond c_4 (some (true,w5)) (gInt .i64 (Addr.add ⟨b,0,none⟩ 3) w5 fun x_5=>some (decide (x_5<0),w5))) fun c_5 w6=>bnd (cond c_5 (some (true,w6)) (gInt .i64 (Addr.add ⟨b,0,none⟩ 3) w6 fun x_6=>some (decide (x_6>65536),w6))) fun c_6 w7=>cond c_6
 (some (.tuple ⟨[.int .i64 0,.int .i64 1]⟩,w7))
 (pAgg (Addr.add ⟨b,0,none⟩ 4) [.int .i64 0,.int .i64 0] w7 fun w8=>gAgg ⟨b,0,none⟩ 6 w8 fun x_7=>bnd (C A68 [.pointer s,.int .i64 e,.agg ⟨x_7⟩] w8) fun r_1 w9=>as2 r_1 fun r_2 r_3=>aInt .i64 r_2 fun x_8=>aInt .i64 r_3 fun x_9=>some (.tuple ⟨[.int .i64 x_8,.int .i64 x_9]⟩,w9)):=by kernel_rfl
def Bk7:Cuts:={ globs:=0,loops:=[],regs:=[],plans:=[] }
def Dd1:List Item:=A4 Tryz.f146
theorem Es4 (C:A1) (R:A3) (k:Option Addr) (env:Int) (c:List Value) (h:H) :
 A5 PR Bk7 C R A11 Tryz.f146 100000 true Dd1 [(0,.pointer k),(1,.int .i64 env),(2,.agg ⟨c⟩)] h =
 nw (.cells Aw7 false c) h fun b w=>gInt .i64 (Addr.add ⟨b,0,none⟩ 3) w fun x=>bnd (C Ar7 [.pointer k,.int .i64 env,.int .i64 x] w) fun r w1=>as2 r fun r_1 r_2=>aPtr r_1 fun x_1=>aInt .i64 r_2 fun x_2=>cond (x_2 != 0)
 (some (.tuple ⟨[.int .i64 0,.int .i64 x_2]⟩,w1))
 (aSome k fun p=>gInt .i64 (Addr.add p 7) w1 fun x_3=>bnd (C B9 [.pointer x_1,.int .i64 env,.int .i64 x_3] w1) fun r_3 w2=>as2 r_3 fun r_4 r_5=>aInt .i64 r_4 fun x_4=>aBool r_5 fun _=>some (.tuple ⟨[.int .i64 x_4,.int .i64 0]⟩,w2)):=by kernel_rfl
def Da9:Cuts:={ globs:=0,loops:=[],regs:=[],plans:=[] }
def Eb0:List Item:=A4 Tryz.f151
theorem Gq3 (C:A1) (R:A3) (atv:Int) (n:Int) (size:Int) (h:H) :
 A5 PR Da9 C R Ae9 Tryz.f151 100000 true Eb0 [(0,.int .i64 atv),(1,.int .i64 n),(2,.int .i64 size)] h =
 bnd (cond (decide (atv≥0)) (some (decide (n≥0),h)) (some (false,h))) fun c w=>bnd (cond c (some (decide (atv≤size),w)) (some (false,w))) fun c_1 w1=>bnd (cond c_1 (some (decide (n≤(IntKind.wrap .i64 (size-atv))),w1)) (some (false,w1))) fun c_2 w2=>some (.bool c_2,w2):=by kernel_rfl
def Ay2:Cuts:={ globs:=0,loops:=[],regs:=[],plans:=[(2,⟨[0,1,2,3,4,5,6,7,8,9,10],[0,1,3,7,15,31,63,7,255,511,1023],[],[]⟩),(4,⟨[0,1,2,3,4,5,6,7,8,9,10,11,12,13,14,16,15,17],[0,1,3,7,0,16,48,112,0,256,0,1024,0,4096,16128,32767,0,131071],[],[]⟩),(6,⟨[0,1,2,3,4,5,6,7,8,9],[0,1,3,7,0,31,63,31,159,511],[(7,[5])],[]⟩)] }
def Bn7:List Item:=A4 Tryz.f159
theorem Dx0 (C:A1) (R:A3) (c:Option Addr) (r:List Value) (h:H) :
 A5 PR Ay2 C R N6 Tryz.f159 100000 true Bn7 [(0,.pointer c),(1,.agg ⟨r⟩)] h =
 nw (.cells E1 false r) h fun b w=>gAgg ⟨b,0,none⟩ 2 w fun x=>bnd (C Y1 [.pointer c,.agg ⟨x⟩] w) fun r_1 w1=>as2 r_1 fun r_2 r_3=>aAgg r_2 fun x_1=>aBool r_3 fun x_2=>nw (.cells Bv2 false [.int .i64 0,.int .i64 0,.int .i64 0]) w1 fun b_1 w2=>ck (List.length x_1=3) (pAgg ⟨b_1,0,none⟩ x_1 w2 fun w3=>bnd (cond (!x_2) (some (true,w3)) (aSome c fun p=>gMap (Addr.add p 3) w3 fun x_3=>gAgg ⟨b,0,none⟩ 2 w3 fun x_4=>keyN PR E1 (.agg ⟨x_4⟩) (opt x_3 fun r_4=>mapAt w3 r_4 fun es _=>opt (Ak4 (.int .i64 0) (.agg ⟨x_4⟩) es) fun f=>aInt .i64 f.1 fun x_5=>some (decide (x_5>0),w3)))) fun c_1 w4=>cond c_1
 (some (.tuple ⟨[.slice none 0 0,.bool false]⟩,w4))
 (aSome c fun p_1=>gPtr (Addr.add p_1 0) w4 fun x_6=>aSome c fun p_2=>gInt .i64 (Addr.add p_2 1) w4 fun x_7=>gInt .i64 (Addr.add ⟨b_1,0,none⟩ 0) w4 fun x_8=>gInt .i64 (Addr.add ⟨b_1,0,none⟩ 1) w4 fun x_9=>gInt .i64 (Addr.add ⟨b_1,0,none⟩ 2) w4 fun x_10=>nw (.cells Eg5 false [.int .i64 0,.int .i64 0,.slice none 0 0]) w4 fun b_2 w5=>bnd (C Q5 [.pointer x_6,.int .i64 x_7,.agg ⟨[.int .i64 1,.int .i64 x_8,.int .i64 x_9,.int .i64 x_10,.int .i64 0,.int .i64 0,.slice none 0 0]⟩] w5) fun r_5 w6=>aAgg r_5 fun x_11=>ck (List.length x_11=3) (pAgg ⟨b_2,0,none⟩ x_11 w6 fun w7=>gInt .i64 (Addr.add ⟨b_2,0,none⟩ 0) w7 fun x_12=>cond (x_12 != 0)
 (aSome c fun p_3=>gMap (Addr.add p_3 3) w7 fun x_13=>gAgg ⟨b,0,none⟩ 2 w7 fun x_14=>keyN PR E1 (.agg ⟨x_14⟩) (opt x_13 fun r_6=>mapAt w7 r_6 fun es_1 _=>opt (Ak4 (.int .i64 0) (.agg ⟨x_14⟩) es_1) fun f_1=>aInt .i64 f_1.1 fun x_15=>keyN PR E1 (.agg ⟨x_14⟩) (opt x_13 fun r_7=>mapAt w7 r_7 fun es_2 cl_2=>opt (Dw4 (.int .i64 0) (.agg ⟨x_14⟩) es_2 cl_2) fun f_2=>aInt .i64 f_2.1 fun _=>lt (H.set w7 r_7 f_2.2.2) fun w8=>keyN PR E1 (.agg ⟨x_14⟩) (opt x_13 fun r_8=>mapAt w8 r_8 fun es_3 _=>opt (Ak4 (.int .i64 0) (.agg ⟨x_14⟩) es_3) fun f_3=>aInt .i64 f_3.1 fun x_17=>same (.int .i64 x_15) (.int .i64 x_17) (opt x_13 fun r_9=>mapAt w8 r_9 fun es_4 cl_4=>opt (Bh9 (f_2.2.1:Int) es_4 0) fun i=>lt (H.set w8 r_9 (.map (modN (fun e=>{ e with val:=.int .i64 (IntKind.wrap .i64 (x_15+1)) }) i es_4) cl_4)) fun w9=>some (.tuple ⟨[.slice none 0 0,.bool false]⟩,w9))))))
 (gSl (Addr.add ⟨b_2,0,none⟩ 2) w7 fun x_18 xn xc=>some (.tuple ⟨[.slice x_18 xn xc,.bool true]⟩,w7))))):=by kernel_rfl
def Af8:Cuts:={ globs:=0,loops:=[],regs:=[],plans:=[(4,⟨[0,1,2,3,4,10,5,6,7,8,9,11,12],[0,1,3,7,0,16,63,127,255,255,0,1535,4095],[(5,[3])],[]⟩)] }
def Az9:List Item:=A4 Tryz.f162
theorem B13 (C:A1) (R:A3) (c:Option Addr) (b:Option Addr) (bn bc:Nat) (h:H) :
 A5 PR Af8 C R V0 Tryz.f162 100000 true Az9 [(0,.pointer c),(1,.slice b bn bc)] h =
 nw (.cells D5 false [.int .i64 0,.int .i64 0,.int .i64 0,.int .i64 0]) h fun b_1 w=>nw (.cells D5 false [.int .i64 0,.int .i64 0,.int .i64 0,.int .i64 0]) w fun b_2 w1=>aSome c fun p=>gFv (Addr.add p 2) w1 fun x=>isNilF x fun b_3=>bnd (cond b_3 (some (true,w1)) (aSome c fun p_1=>gInt .i64 (Addr.add p_1 0) w1 fun x_1=>some (((bn:Nat):Int) != x_1,w1))) fun c_1 w2=>cond c_1
 (gAgg ⟨b_2,0,none⟩ 4 w2 fun x_2=>ck (List.length x_2=4) (pAgg ⟨b_1,0,none⟩ x_2 w2 fun w3=>gAgg ⟨b_1,0,none⟩ 4 w3 fun x_3=>some (.tuple ⟨[.agg ⟨x_3⟩,.bool false]⟩,w3)))
 (aSome c fun p_2=>gFv (Addr.add p_2 2) w2 fun x_4=>nw (.cells D5 false [.int .i64 0,.int .i64 0,.int .i64 0,.int .i64 0]) w2 fun b_4 w4=>bnd (C G4 [.slice b bn bc] w4) fun r w5=>aSl r fun x_5 xn xc=>gFv (Addr.add p_2 2) w5 fun x_6=>Bi8 (x_4) (x_6) (aFn x_4 fun g fi cp=>bnd (C g (fi++([.slice x_5 xn xc]++cp)) w5) fun r_1 w6=>as2 r_1 fun r_2 r_3=>aAgg r_2 fun x_7=>aBool r_3 fun x_8=>ck (List.length x_7=4) (pAgg ⟨b_4,0,none⟩ x_7 w6 fun w7=>cond (!x_8)
 (gAgg ⟨b_2,0,none⟩ 4 w7 fun x_9=>ck (List.length x_9=4) (pAgg ⟨b_1,0,none⟩ x_9 w7 fun w8=>gAgg ⟨b_1,0,none⟩ 4 w8 fun x_10=>some (.tuple ⟨[.agg ⟨x_10⟩,.bool false]⟩,w8)))
 (gAgg ⟨b_4,0,none⟩ 4 w7 fun x_11=>ck (List.length x_11=4) (pAgg ⟨b_1,0,none⟩ x_11 w7 fun w9=>gAgg ⟨b_1,0,none⟩ 4 w9 fun x_12=>some (.tuple ⟨[.agg ⟨x_12⟩,.bool true]⟩,w9)))))):=by kernel_rfl
def Da7:Cuts:={ globs:=0,loops:=[],regs:=[],plans:=[] }
def Eb9:List Item:=A4 Tryz.f168
theorem Gn5 (C:A1) (R:A3)  (h:H) :
 A5 PR Da7 C R A87 Tryz.f168 100000 true Eb9 [] h =
 bnd (C Al8 [.int .i64 24,.func (.func N8) ⟨[]⟩ ⟨[]⟩,.func (.func W3) ⟨[]⟩ ⟨[]⟩] h) fun r w=>aPtr r fun x=>some (.pointer x,w):=by kernel_rfl
def B51:Cuts:={ globs:=0,loops:=[],regs:=[],plans:=[] }
def D08:List Item:=A4 Tryz.f175
theorem Gc7 (C:A1) (R:A3) (s:Int) (fv0:Addr) (h:H) :
 A5 PR B51 C R G6 Tryz.f175 100000 true D08 [(0,.int .i64 s),(1,.pointer (some fv0))] h =
 bnd (cond (decide (s<0)) (some (true,h)) (gSl (Addr.add fv0 0) h fun _ xn _=>some (decide (s≥((xn:Nat):Int)),h))) fun c w=>some (.bool c,w):=by kernel_rfl
def B33:Cuts:={ globs:=0,loops:=[],regs:=[],plans:=[] }
def D10:List Item:=A4 Tryz.f179
theorem Gd3 (C:A1) (R:A3) (m:Option Addr) (h:H) :
 A5 PR B33 C R A27 Tryz.f179 100000 true D10 [(0,.pointer m)] h =
 aSome m fun p=>gSl (Addr.add p 0) h fun _ xn _=>some (.int .i64 ((xn:Nat):Int),h):=by kernel_rfl
def Bq1:Cuts:={ globs:=0,loops:=[],regs:=[],plans:=[(1,⟨[0,1,2,3,4,5,6,7,8,9,10,11,12,13],[0,1,3,7,0,31,63,0,255,511,1023,1023,2047,8191],[],[]⟩)] }
def Dm7:List Item:=A4 Tryz.f182
theorem E20 (C:A1) (R:A3) (s:Option Addr) (env:Int) (c:List Value) (h:H) :
 A5 PR Bq1 C R Ar2 Tryz.f182 100000 true Dm7 [(0,.pointer s),(1,.int .i64 env),(2,.agg ⟨c⟩)] h =
 nw (.cells O6 false c) h fun b w=>aSome s fun p=>gSl (Addr.add p 0) w fun x xn _=>aSome x fun p_1=>ck ((0:Int)≤env∧env<((xn:Nat):Int)) (gPtr (Addr.add (A9 p_1) (Int.toNat env*1)) w fun x_1=>gAgg ⟨b,0,none⟩ 6 w fun x_2=>bnd (C H8 [.pointer x_1,.agg ⟨x_2⟩] w) fun r w1=>as2 r fun r_1 r_2=>aInt .i64 r_1 fun x_3=>aBool r_2 fun x_4=>cond (!x_4)
 (some (.tuple ⟨[.int .i64 0,.int .i64 4]⟩,w1))
 (some (.tuple ⟨[.int .i64 x_3,.int .i64 0]⟩,w1))):=by kernel_rfl
def Z3:Cuts:={ globs:=0,loops:=[(3,[0,3,9,10,11])],regs:=[],plans:=[] }
def Aj6:List Item:=A4 Tryz.f184
def N0:List Item:=stk [0,1,0,1,0,0,1,4,5] Aj6
theorem B95 (C:A1) (R:A3) (t:Option Addr) (h:H) :
 A5 PR Z3 C R G0 Tryz.f184 100000 true Aj6 [(0,.pointer t)] h =
 aSome t fun p=>gSl (Addr.add p 0) h fun x xn xc=>R G0 N0 [(0,.pointer t),(3,.slice none 0 0),(9,.slice x xn xc),(10,.int .i64 ((xn:Nat):Int)),(11,.int .i64 0)] h:=by kernel_rfl
theorem Av4 (C:A1) (R:A3) (t:Option Addr) (out:Option Addr) (outn outc:Nat) (x9:Option Addr) (x9n x9c:Nat) (x10:Int) (x11:Int) (h:H) :
 A5 PR Z3 C R G0 Tryz.f184 100000 true N0 [(0,.pointer t),(3,.slice out outn outc),(9,.slice x9 x9n x9c),(10,.int .i64 x10),(11,.int .i64 x11)] h =
 cond (decide (x11<x10))
 (aSome x9 fun p=>ck ((0:Int)≤x11∧x11<((x9n:Nat):Int)) (gAgg (Addr.add (A9 p) (Int.toNat x11*8)) 8 h fun x=>nw (.cells Ak6 false [.int .i64 0,.int .i64 0,.int .i64 0,.int .i64 0,.int .i64 0,.int .i64 0,.int .i64 0,.bool false]) h fun b w=>ck (List.length x=8) (pAgg ⟨b,0,none⟩ x w fun w1=>gBool (Addr.add ⟨b,0,none⟩ 7) w1 fun x_1=>cond x_1
 (bnd (C M9 [.pointer t,.int .i64 x11] w1) fun r w2=>aInt .i64 r fun x_2=>nw (.cells B6 false [.int .i64 x_2]) w2 fun b_1 w3=>gCells (some ⟨b_1,0,none⟩) (1*1) w3 fun cs=>ckB (fitsOpen out B6 w3) (apd B6 1 out outn outc 1 cs w3 fun a an ac w4=>R G0 N0 [(0,.pointer t),(3,.slice a an ac),(9,.slice x9 x9n x9c),(10,.int .i64 x10),(11,.int .i64 (IntKind.wrap .i64 (x11+1)))] w4))
 (R G0 N0 [(0,.pointer t),(3,.slice out outn outc),(9,.slice x9 x9n x9c),(10,.int .i64 x10),(11,.int .i64 (IntKind.wrap .i64 (x11+1)))] w1))))
 (some (.slice out outn outc,h)):=by kernel_rfl
def Az2:Cuts:={ globs:=0,loops:=[],regs:=[],plans:=[(6,⟨[0,1,2,3,4,5,6,7,8,9,10,11,12,13,14,15,16,17,18,19,20,21,22,23,24,25,26,27,28,29,30,31,32,33,34,35],[0,1,3,7,15,31,63,127,127,383,1023,2047,4095,8191,8191,24575,8191,122879,262143,524287,1048575,2097151,4194303,8388607,16777215,33554431,67108863,134217727,67108863,335544319,872415231,1946157055,4093640703,8589934591,17179869183,34359738367],[],[]⟩),(8,⟨[0,1,2,3,4,5,6,7,8,9],[0,1,3,7,0,16,63,127,0,511],[],[]⟩)] }
def Bn8:List Item:=A4 Tryz.f186
theorem Dv5 (C:A1) (R:A3) (r:Option Addr) (env:Int) (name:Int) (right:Int) (atv:Int) (n:Int) (h:H) :
 A5 PR Az2 C R Aa2 Tryz.f186 100000 true Bn8 [(0,.pointer r),(1,.int .i64 env),(2,.int .i64 name),(3,.int .i64 right),(4,.int .i64 atv),(5,.int .i64 n)] h =
 aSome r fun p=>gPtr (Addr.add p 1) h fun x=>bnd (C Ar6 [.pointer x,.int .i64 env,.int .i64 name] h) fun r_1 w=>as2 r_1 fun r_2 r_3=>aAgg r_2 fun x_1=>aInt .i64 r_3 fun x_2=>nw (.cells O6 false [.int .i64 0,.int .i64 0,.int .i64 0,.int .i64 0,.int .i64 0,.int .i64 0]) w fun b w1=>ck (List.length x_1=6) (pAgg ⟨b,0,none⟩ x_1 w1 fun w2=>cond (x_2 != 0)
 (some (.tuple ⟨[.int .i64 0,.int .i64 x_2]⟩,w2))
 (gInt .i64 (Addr.add ⟨b,0,none⟩ 1) w2 fun x_3=>cond ((I4 .i64 x_3 right)==0)
 (some (.tuple ⟨[.int .i64 0,.int .i64 3]⟩,w2))
 (bnd (cond (decide (atv<0)) (some (true,w2)) (some (decide (n<0),w2))) fun c w3=>bnd (cond c (some (true,w3)) (gInt .i64 (Addr.add ⟨b,0,none⟩ 3) w3 fun x_4=>some (decide (atv>x_4),w3))) fun c_1 w4=>bnd (cond c_1 (some (true,w4)) (gInt .i64 (Addr.add ⟨b,0,none⟩ 3) w4 fun x_5=>some (decide (n>(IntKind.wrap .i64 (x_5-atv))),w4))) fun c_2 w5=>bnd (cond c_2 (some (true,w5)) (gInt .i64 (Addr.add ⟨b,0,none⟩ 0) w5 fun x_6=>some (decide (x_6<0),w5))) fun c_3 w6=>bnd (cond c_3 (some (true,w6)) (gInt .i64 (Addr.add ⟨b,0,none⟩ 0) w6 fun x_7=>aSome r fun p_1=>gSl (Addr.add p_1 2) w6 fun _ xn _=>some (decide (x_7≥((xn:Nat):Int)),w6))) fun c_4 w7=>cond c_4
 (some (.tuple ⟨[.int .i64 0,.int .i64 1]⟩,w7))
 (aSome r fun p_2=>gSl (Addr.add p_2 2) w7 fun x_9 xn_1 _=>gInt .i64 (Addr.add ⟨b,0,none⟩ 0) w7 fun x_10=>aSome x_9 fun p_3=>ck ((0:Int)≤x_10∧x_10<((xn_1:Nat):Int)) (gAgg (Addr.add (A9 p_3) (Int.toNat x_10*2)) 2 w7 fun x_11=>nw (.cells Au6 false [.int .i64 0,.int .i64 0]) w7 fun b_1 w8=>ck (List.length x_11=2) (pAgg ⟨b_1,0,none⟩ x_11 w8 fun w9=>gInt .i64 (Addr.add ⟨b,0,none⟩ 2) w9 fun x_12=>gInt .i64 (Addr.add ⟨b_1,0,none⟩ 1) w9 fun x_13=>bnd (cond (decide ((IntKind.wrap .i64 (x_12+atv))>x_13)) (some (true,w9)) (gInt .i64 (Addr.add ⟨b_1,0,none⟩ 1) w9 fun x_14=>gInt .i64 (Addr.add ⟨b,0,none⟩ 2) w9 fun x_15=>some (decide (n>(IntKind.wrap .i64 ((IntKind.wrap .i64 (x_14-x_15))-atv))),w9))) fun c_5 w10=>cond c_5
 (some (.tuple ⟨[.int .i64 0,.int .i64 1]⟩,w10))
 (gInt .i64 (Addr.add ⟨b_1,0,none⟩ 0) w10 fun x_16=>gInt .i64 (Addr.add ⟨b,0,none⟩ 2) w10 fun x_17=>some (.tuple ⟨[.int .i64 (IntKind.wrap .i64 ((IntKind.wrap .i64 (x_16+x_17))+atv)),.int .i64 0]⟩,w10)))))))):=by kernel_rfl
def Bq9:Cuts:={ globs:=0,loops:=[],regs:=[],plans:=[] }
def Dj5:List Item:=A4 Tryz.f192
theorem E34 (C:A1) (R:A3) (q:Option Addr) (s:Int) (h:H) :
 A5 PR Bq9 C R Ah5 Tryz.f192 100000 true Dj5 [(0,.pointer q),(1,.int .i64 s)] h =
 bnd (cond (decide (s≥0)) (aSome q fun p=>gSl (Addr.add p 0) h fun _ xn _=>some (decide (s<((xn:Nat):Int)),h)) (some (false,h))) fun c w=>some (.bool c,w):=by kernel_rfl
def Bs5:Cuts:={ globs:=0,loops:=[],regs:=[],plans:=[(1,⟨[0,1,2,3,4,5,6,7,8,9,10,11,12,13,14,15,16,17,18,19,20,21,22,23,24,25,26,27,28],[0,1,3,7,7,23,55,119,247,511,1023,2047,4095,8191,16383,32767,4095,131071,262143,4095,528383,1576959,3674111,4095,16257023,33034239,67108863,134217727,268435455],[],[]⟩)] }
def Di6:List Item:=A4 Tryz.f194
theorem E28 (C:A1) (R:A3) (k:Option Addr) (env:Int) (n:Int) (h:H) :
 A5 PR Bs5 C R Ar7 Tryz.f194 100000 true Di6 [(0,.pointer k),(1,.int .i64 env),(2,.int .i64 n)] h =
 bnd (cond (decide (n<0)) (some (true,h)) (aSome k fun p=>gSl (Addr.add p 6) h fun _ xn _=>some (decide (n≥((xn:Nat):Int)),h))) fun c w=>bnd (cond c (some (true,w)) (aSome k fun p_1=>gSl (Addr.add p_1 1) w fun x_1 xn_1 _=>aSome x_1 fun p_2=>ck ((0:Int)≤n∧n<((xn_1:Nat):Int)) (gSl (Addr.add (A9 p_2) (Int.toNat n*1)) w fun x_2 xn_2 xc_2=>aSome k fun p_3=>gSl (Addr.add p_3 0) w fun x_3 xn_3 _=>aSome x_3 fun p_4=>ck ((0:Int)≤env∧env<((xn_3:Nat):Int)) (gInt .i64 (Addr.add (A9 p_4) (Int.toNat env*1)) w fun x_4=>bnd (C J0 [.slice x_2 xn_2 xc_2,.int .i64 x_4] w) fun r w1=>aBool r fun x_5=>some (!x_5,w1))))) fun c_1 w2=>cond c_1
 (some (.tuple ⟨[.pointer none,.int .i64 8]⟩,w2))
 (aSome k fun p_5=>gSl (Addr.add p_5 6) w2 fun x_6 xn_4 _=>aSome x_6 fun p_6=>ck ((0:Int)≤n∧n<((xn_4:Nat):Int)) (gPtr (Addr.add (A9 p_6) (Int.toNat n*1)) w2 fun x_7=>some (.tuple ⟨[.pointer x_7,.int .i64 0]⟩,w2))):=by kernel_rfl
def Bs3:Cuts:={ globs:=0,loops:=[],regs:=[],plans:=[] }
def Dl5:List Item:=A4 Tryz.f197
theorem Ez3 (C:A1) (R:A3) (n:Option Addr) (name:Int) (h:H) :
 A5 PR Bs3 C R A71 Tryz.f197 100000 true Dl5 [(0,.pointer n),(1,.int .i64 name)] h =
 bnd (cond (decide (name≥0)) (aSome n fun p=>gSl (Addr.add p 0) h fun _ xn _=>some (decide ((I4 .i64 name 255)<((xn:Nat):Int)),h)) (some (false,h))) fun c w=>bnd (cond c (aSome n fun p_1=>gSl (Addr.add p_1 0) w fun x_1 xn_1 _=>aSome x_1 fun p_2=>ck ((0:Int)≤I4 .i64 name 255∧I4 .i64 name 255<((xn_1:Nat):Int)) (gBool (Addr.add (Addr.add (A9 p_2) (Int.toNat (I4 .i64 name 255)*2)) 1) w fun x_2=>some (x_2,w))) (some (false,w))) fun c_1 w1=>bnd (cond c_1 (aSome n fun p_3=>gSl (Addr.add p_3 0) w1 fun x_3 xn_2 _=>aSome x_3 fun p_4=>ck ((0:Int)≤I4 .i64 name 255∧I4 .i64 name 255<((xn_2:Nat):Int)) (gInt .i64 (Addr.add (Addr.add (A9 p_4) (Int.toNat (I4 .i64 name 255)*2)) 0) w1 fun x_4=>some (x_4==(Int.fdiv name (2 ^ 8)),w1))) (some (false,w1))) fun c_2 w2=>some (.bool c_2,w2):=by kernel_rfl
def Z7:Cuts:={ globs:=0,loops:=[],regs:=[],plans:=[] }
def Ap8:List Item:=A4 Tryz.f201
theorem Bm7 (C:A1) (R:A3) (s:Option Addr) (sn sc:Nat) (f:Value) (h:H) :
 A5 PR Z7 C R P2 Tryz.f201 100000 true Ap8 [(0,.slice s sn sc),(1,f)] h =
 bnd (C G1 [.slice s sn sc,f] h) fun r w=>aInt .i64 r fun x=>some (.bool (decide (x≥0)),w):=by kernel_rfl
def Dt7:Cuts:={ globs:=0,loops:=[],regs:=[],plans:=[(1,⟨[0,1,2,3,4,5,6,7,8,9,10,11,12,13,14,15,16,17,18],[0,1,3,7,0,16,48,112,0,256,768,1792,0,4096,12288,28672,65535,0,262143],[],[]⟩),(3,⟨[0,1,2,3,4,5,6,7,8],[0,0,2,6,6,30,62,63,255],[(5,[0])],[]⟩)] }
def Eu6:List Item:=A4 Tryz.f205
theorem G88 (C:A1) (R:A3) (b:Option Addr) (bn bc:Nat) (h:H) :
 A5 PR Dt7 C R Ap6 Tryz.f205 100000 true Eu6 [(0,.slice b bn bc)] h =
 nw (.cells D5 false [.int .i64 0,.int .i64 0,.int .i64 0,.int .i64 0]) h fun b_1 w=>aSome b fun p=>ck ((0:Int)≤0∧0<((bn:Nat):Int)) (gInt .u8 (Addr.add (A9 p) (Int.toNat 0*1)) w fun x=>aSome b fun p_1=>ck ((0:Int)≤1∧1<((bn:Nat):Int)) (gInt .u8 (Addr.add (A9 p_1) (Int.toNat 1*1)) w fun x_1=>aSome b fun p_2=>ck ((0:Int)≤2∧2<((bn:Nat):Int)) (gInt .u8 (Addr.add (A9 p_2) (Int.toNat 2*1)) w fun x_2=>aSome b fun p_3=>ck ((0:Int)≤3∧3<((bn:Nat):Int)) (gInt .u8 (Addr.add (A9 p_3) (Int.toNat 3*1)) w fun x_3=>nw (.cells D5 false [.int .i64 0,.int .i64 0,.int .i64 0,.int .i64 0]) w fun b_2 w1=>pAgg ⟨b_2,0,none⟩ [.int .i64 (IntKind.wrap .i64 (x)),.int .i64 (IntKind.wrap .i64 (x_1)),.int .i64 (IntKind.wrap .i64 (x_2)),.int .i64 (IntKind.wrap .i64 (x_3))] w1 fun w2=>gAgg ⟨b_2,0,none⟩ 4 w2 fun x_4=>bnd (C A40 [.agg ⟨x_4⟩] w2) fun r w3=>as2 r fun r_1 r_2=>aSl r_1 fun x_5 xn xc=>aBool r_2 fun x_6=>gAgg ⟨b_2,0,none⟩ 4 w3 fun x_7=>bnd (cond x_6 (bnd (C D4 [.slice x_5 xn xc,.slice b bn bc] w3) fun r_3 w4=>aBool r_3 fun x_8=>gAgg ⟨b_2,0,none⟩ 4 w4 fun x_9=>same (.agg ⟨x_7⟩) (.agg ⟨x_9⟩) (some (x_8,w4))) (some (false,w3))) fun c w5=>ck (List.length x_7=4) (pAgg ⟨b_1,0,none⟩ x_7 w5 fun w6=>gAgg ⟨b_1,0,none⟩ 4 w6 fun x_10=>some (.tuple ⟨[.agg ⟨x_10⟩,.bool c]⟩,w6)))))):=by kernel_rfl
def Aq8:Cuts:={ globs:=0,loops:=[],regs:=[],plans:=[] }
def Bf4:List Item:=A4 Tryz.f220
theorem Do8 (C:A1) (R:A3) (t:Option Addr) (name:Int) (h:H) :
 A5 PR Aq8 C R Ae7 Tryz.f220 100000 true Bf4 [(0,.pointer t),(1,.int .i64 name)] h =
 bnd (cond (decide (name<0)) (some (true,h)) (aSome t fun p=>gSl (Addr.add p 0) h fun _ xn _=>some (decide ((I4 .i64 name 255)≥((xn:Nat):Int)),h))) fun c w=>bnd (cond c (some (true,w)) (aSome t fun p_1=>gSl (Addr.add p_1 0) w fun x_1 xn_1 _=>aSome x_1 fun p_2=>ck ((0:Int)≤I4 .i64 name 255∧I4 .i64 name 255<((xn_1:Nat):Int)) (gBool (Addr.add (Addr.add (A9 p_2) (Int.toNat (I4 .i64 name 255)*8)) 7) w fun x_2=>some (!x_2,w)))) fun c_1 w1=>bnd (cond c_1 (some (true,w1)) (bnd (C M9 [.pointer t,.int .i64 (I4 .i64 name 255)] w1) fun r w2=>aInt .i64 r fun x_3=>some (x_3 != name,w2))) fun c_2 w3=>cond c_2
 (some (.pointer none,w3))
 (aSome t fun p_3=>gSl (Addr.add p_3 0) w3 fun x_4 xn_2 _=>aSome x_4 fun p_4=>ck ((0:Int)≤I4 .i64 name 255∧I4 .i64 name 255<((xn_2:Nat):Int)) (some (.pointer (some (Addr.add (A9 p_4) (Int.toNat (I4 .i64 name 255)*8))),w3))):=by kernel_rfl
def Dl1:Cuts:={ globs:=0,loops:=[],regs:=[],plans:=[] }
def El1:List Item:=A4 Tryz.f226
theorem Gv0 (C:A1) (R:A3) (b:Option Addr) (bn bc:Nat) (atv:Int) (n:Int) (h:H) :
 A5 PR Dl1 C R Be8 Tryz.f226 100000 true El1 [(0,.slice b bn bc),(1,.int .i64 atv),(2,.int .i64 n)] h =
 bnd (cond (decide (atv<0)) (some (true,h)) (some (decide (atv>(IntKind.wrap .i64 (((bn:Nat):Int)-2))),h))) fun c w=>bnd (cond c (some (true,w)) (some (decide (n<0),w))) fun c_1 w1=>bnd (cond c_1 (some (true,w1)) (some (decide (n>65535),w1))) fun c_2 w2=>cond c_2
 (some (.bool false,w2))
 (aSome b fun p=>ck ((0:Int)≤atv∧atv<((bn:Nat):Int)) (pV (Addr.add (A9 p) (Int.toNat atv*1)) (.int .u8 (IntKind.wrap .u8 (Int.fdiv n (2 ^ 8)))) w2 fun w3=>aSome b fun p_1=>ck ((0:Int)≤IntKind.wrap .i64 (atv+1)∧IntKind.wrap .i64 (atv+1)<((bn:Nat):Int)) (pV (Addr.add (A9 p_1) (Int.toNat (IntKind.wrap .i64 (atv+1))*1)) (.int .u8 (IntKind.wrap .u8 (n))) w3 fun w4=>some (.bool true,w4)))):=by kernel_rfl
def Dn1:Cuts:={ globs:=0,loops:=[],regs:=[],plans:=[] }
def Ee0:List Item:=A4 Tryz.f231
theorem Gy2 (C:A1) (R:A3) (f:Int) (h:H) :
 A5 PR Dn1 C R Bf7 Tryz.f231 100000 true Ee0 [(0,.int .i64 f)] h =
 bnd (cond (decide (f<0)) (some (true,h)) (some (decide (f>12),h))) fun c w=>some (.bool c,w):=by kernel_rfl
end
end Go.EQ

set_option maxRecDepth 100000
namespace Go.EQ
open Go Go.NN Go.Proofs
variable (C : A1) (R : A3)
noncomputable section
def H75:List (Nat × Cuts):=[(4,A69),(9,By8),(10,Db9),(11,D59),(12,Da5),(13,Db8),(14,Dn4),(15,Ef0),(16,Eo4),(19,Du6),(21,Dj8),(23,Dk0),(24,Do2),(25,A06),(26,B36),(27,B19),(28,Db1),(29,A04),(30,Bk9),(31,D55),(32,Du1),(33,Df2),(34,Dm9),(35,Ay4),(36,Dn9),(37,Ay8),(38,Ao1),(39,Ao9),(40,D82),(41,An2),(42,E24),(43,Dp2),(44,D89),(46,Da2),(47,Dg6),(48,Dv8),(49,Dx3),(50,D77),(51,D50),(52,Aj8),(57,Dw5),(59,Q4),(60,Ay6),(64,Ay1),(65,Ap1),(66,At6),(68,A18),(69,A67),(70,Aq5),(71,Dc0),(72,Bg1),(73,Dd3),(74,Bj6),(75,Bf8),(77,A60),(86,Be9),(87,D46),(88,B99),(89,Ac2),(90,B27),(91,B26),(92,Ac4),(93,B46),(94,Db3),(95,Da3),(96,At7),(97,B37),(98,B44),(99,B31),(100,Dm3),(102,Ef5),(104,Bz9),(105,An0),(106,Ad5),(109,Ax9),(110,Ac8),(111,B41),(115,Am6),(116,Bj8),(117,A62),(118,Bf2),(119,Da1),(120,Ar4),(121,En0),(122,De4),(123,B54),(124,Dm6),(125,D88),(126,A83),(127,As5),(128,Bp8),(129,Bc9),(130,Av3),(131,Bc5),(132,B30),(133,Be5),(134,Ds2),(135,Bq7),(136,Bk0),(137,Bg2),(138,Bp1),(139,A44),(140,Ax7),(141,A39),(142,Bf5),(144,Bb0),(145,Bg8),(146,Bk7),(147,Bj9),(148,A54),(149,Bp7),(150,Bq8),(151,Da9),(152,Bs6),(159,Ay2),(160,Db6),(161,Da4),(162,Af8),(163,Dk9),(164,Af4),(165,Ag2),(166,At9),(167,Af5),(168,Da7),(169,Ag1),(171,Dw3),(173,Af7),(174,B62),(175,B51),(176,Ad1),(177,Dk3),(178,As8),(179,B33),(180,Be2),(181,Bz7),(182,Bq1),(183,Bd2),(184,Z3),(185,A70),(186,Az2),(187,B20),(188,Bw9),(189,Bs4),(192,Bq9),(193,Bg4),(194,Bs5),(195,Q8),(196,Bk8),(197,Bs3),(198,A63),(201,Z7),(202,Bz1),(203,A81),(204,Dt9),(205,Dt7),(206,Al0),(207,A75),(208,D20),(209,D93),(210,A55),(211,Ba9),(212,Bl9),(213,W4),(214,Ac3),(215,Al1),(216,Dn5),(217,Am4),(220,Aq8),(221,Bk4),(222,U5),(223,D76),(224,Aa9),(225,D36),(226,Dl1),(227,Do4),(230,Dp1),(231,Dn1)]
def cutsOf:FuncId→Cuts:=Ga7 H75
noncomputable abbrev A6:A1:=NN.Call PR cutsOf
noncomputable abbrev I8:A3:=NN.Jump PR cutsOf
theorem Br3:FnOk PR cutsOf J6 Tryz.f4 A69 Br6 2:=⟨Tryz.func4,⟨_,rfl⟩,by kernel_rfl,rfl,rfl,by kernel_rfl⟩
theorem Bz8:FnOk PR cutsOf Ae8 Tryz.f9 By8 Dj3 1:=⟨Tryz.func9,⟨_,rfl⟩,by kernel_rfl,rfl,rfl,by kernel_rfl⟩
theorem Gp9:FnOk PR cutsOf A88 Tryz.f10 Db9 Ea5 0:=⟨Tryz.func10,⟨_,rfl⟩,by kernel_rfl,rfl,rfl,by kernel_rfl⟩
theorem Hj9:FnOk PR cutsOf Bv0 Tryz.f11 D59 E92 2:=⟨Tryz.func11,⟨_,rfl⟩,by kernel_rfl,rfl,rfl,by kernel_rfl⟩
theorem Gn7:FnOk PR cutsOf A90 Tryz.f12 Da5 Ea6 0:=⟨Tryz.func12,⟨_,rfl⟩,by kernel_rfl,rfl,rfl,by kernel_rfl⟩
theorem Go3:FnOk PR cutsOf Af1 Tryz.f13 Db8 Ea7 4:=⟨Tryz.func13,⟨_,rfl⟩,by kernel_rfl,rfl,rfl,by kernel_rfl⟩
theorem Gu0:FnOk PR cutsOf Aq6 Tryz.f14 Dn4 Ej7 4:=⟨Tryz.func14,⟨_,rfl⟩,by kernel_rfl,rfl,rfl,by kernel_rfl⟩
theorem Hs5:FnOk PR cutsOf Dr2 Tryz.f15 Ef0 Gk5 3:=⟨Tryz.func15,⟨_,rfl⟩,by kernel_rfl,rfl,rfl,by kernel_rfl⟩
theorem Hp8:FnOk PR cutsOf Bf1 Tryz.f16 Eo4 Gk0 4:=⟨Tryz.func16,⟨_,rfl⟩,by kernel_rfl,rfl,rfl,by kernel_rfl⟩
theorem G85:FnOk PR cutsOf Ay7 Tryz.f19 Du6 Ew8 2:=⟨Tryz.func19,⟨_,rfl⟩,by kernel_rfl,rfl,rfl,by kernel_rfl⟩
theorem Gv1:FnOk PR cutsOf By2 Tryz.f21 Dj8 Em2 2:=⟨Tryz.func21,⟨_,rfl⟩,by kernel_rfl,rfl,rfl,by kernel_rfl⟩
theorem G54:FnOk PR cutsOf Bf6 Tryz.f23 Dk0 Ek7 1:=⟨Tryz.func23,⟨_,rfl⟩,by kernel_rfl,rfl,rfl,by kernel_rfl⟩
theorem Gs9:FnOk PR cutsOf Bu4 Tryz.f24 Do2 Ei2 0:=⟨Tryz.func24,⟨_,rfl⟩,by kernel_rfl,rfl,rfl,by kernel_rfl⟩
theorem Bk3:FnOk PR cutsOf O8 Tryz.f25 A06 Bk2 1:=⟨Tryz.func25,⟨_,rfl⟩,by kernel_rfl,rfl,rfl,by kernel_rfl⟩
theorem Ge6:FnOk PR cutsOf Q5 Tryz.f26 B36 Dy7 3:=⟨Tryz.func26,⟨_,rfl⟩,by kernel_rfl,rfl,rfl,by kernel_rfl⟩
theorem Gf6:FnOk PR cutsOf Aq4 Tryz.f27 B19 D13 3:=⟨Tryz.func27,⟨_,rfl⟩,by kernel_rfl,rfl,rfl,by kernel_rfl⟩
theorem Go4:FnOk PR cutsOf A97 Tryz.f28 Db1 Ec3 0:=⟨Tryz.func28,⟨_,rfl⟩,by kernel_rfl,rfl,rfl,by kernel_rfl⟩
theorem Bj7:FnOk PR cutsOf R0 Tryz.f29 A04 Bk5 1:=⟨Tryz.func29,⟨_,rfl⟩,by kernel_rfl,rfl,rfl,by kernel_rfl⟩
theorem Es6:FnOk PR cutsOf A07 Tryz.f30 Bk9 Dd2 1:=⟨Tryz.func30,⟨_,rfl⟩,by kernel_rfl,rfl,rfl,by kernel_rfl⟩
theorem Ho1:FnOk PR cutsOf S7 Tryz.f31 D55 E46 1:=⟨Tryz.func31,⟨_,rfl⟩,by kernel_rfl,rfl,rfl,by kernel_rfl⟩
theorem G84:FnOk PR cutsOf Bl3 Tryz.f32 Du1 Ew7 2:=⟨Tryz.func32,⟨_,rfl⟩,by kernel_rfl,rfl,rfl,by kernel_rfl⟩
theorem De5:FnOk PR cutsOf W8 Tryz.f33 Df2 Ea0 3:=⟨Tryz.func33,⟨_,rfl⟩,by kernel_rfl,rfl,rfl,by kernel_rfl⟩
theorem G45:FnOk PR cutsOf A17 Tryz.f34 Dm9 Ei3 2:=⟨Tryz.func34,⟨_,rfl⟩,by kernel_rfl,rfl,rfl,by kernel_rfl⟩
theorem Dv3:FnOk PR cutsOf Q6 Tryz.f35 Ay4 Bl4 2:=⟨Tryz.func35,⟨_,rfl⟩,by kernel_rfl,rfl,rfl,by kernel_rfl⟩
theorem G02:FnOk PR cutsOf A42 Tryz.f36 Dn9 Em9 2:=⟨Tryz.func36,⟨_,rfl⟩,by kernel_rfl,rfl,rfl,by kernel_rfl⟩
theorem Dx9:FnOk PR cutsOf Q7 Tryz.f37 Ay8 Bn0 2:=⟨Tryz.func37,⟨_,rfl⟩,by kernel_rfl,rfl,rfl,by kernel_rfl⟩
theorem Dd4:FnOk PR cutsOf U4 Tryz.f38 Ao1 Bd3 3:=⟨Tryz.func38,⟨_,rfl⟩,by kernel_rfl,rfl,rfl,by kernel_rfl⟩
theorem Dg8:FnOk PR cutsOf H9 Tryz.f39 Ao9 Bc3 3:=⟨Tryz.func39,⟨_,rfl⟩,by kernel_rfl,rfl,rfl,by kernel_rfl⟩
theorem Hl0:FnOk PR cutsOf Bh7 Tryz.f40 D82 Ga2 2:=⟨Tryz.func40,⟨_,rfl⟩,by kernel_rfl,rfl,rfl,by kernel_rfl⟩
theorem Df6:FnOk PR cutsOf S6 Tryz.f41 An2 Bb9 3:=⟨Tryz.func41,⟨_,rfl⟩,by kernel_rfl,rfl,rfl,by kernel_rfl⟩
theorem H37:FnOk PR cutsOf Bq2 Tryz.f42 E24 G06 3:=⟨Tryz.func42,⟨_,rfl⟩,by kernel_rfl,rfl,rfl,by kernel_rfl⟩
theorem G03:FnOk PR cutsOf P1 Tryz.f43 Dp2 Eh1 1:=⟨Tryz.func43,⟨_,rfl⟩,by kernel_rfl,rfl,rfl,by kernel_rfl⟩
theorem Hh9:FnOk PR cutsOf Bx6 Tryz.f44 D89 E72 2:=⟨Tryz.func44,⟨_,rfl⟩,by kernel_rfl,rfl,rfl,by kernel_rfl⟩
theorem Gr2:FnOk PR cutsOf Au4 Tryz.f46 Da2 Ec1 1:=⟨Tryz.func46,⟨_,rfl⟩,by kernel_rfl,rfl,rfl,by kernel_rfl⟩
theorem D34:FnOk PR cutsOf Ao2 Tryz.f47 Dg6 D83 2:=⟨Tryz.func47,⟨_,rfl⟩,by kernel_rfl,rfl,rfl,by kernel_rfl⟩
theorem G91:FnOk PR cutsOf B59 Tryz.f48 Dv8 Eu8 4:=⟨Tryz.func48,⟨_,rfl⟩,by kernel_rfl,rfl,rfl,by kernel_rfl⟩
theorem Hb5:FnOk PR cutsOf B56 Tryz.f49 Dx3 Ex0 2:=⟨Tryz.func49,⟨_,rfl⟩,by kernel_rfl,rfl,rfl,by kernel_rfl⟩
theorem Hj1:FnOk PR cutsOf Dg0 Tryz.f50 D77 Ga4 3:=⟨Tryz.func50,⟨_,rfl⟩,by kernel_rfl,rfl,rfl,by kernel_rfl⟩
theorem Hi8:FnOk PR cutsOf Dg4 Tryz.f51 D50 E84 4:=⟨Tryz.func51,⟨_,rfl⟩,by kernel_rfl,rfl,rfl,by kernel_rfl⟩
theorem B76:FnOk PR cutsOf J0 Tryz.f52 Aj8 A52 2:=⟨Tryz.func52,⟨_,rfl⟩,by kernel_rfl,rfl,rfl,by kernel_rfl⟩
theorem G71:FnOk PR cutsOf B57 Tryz.f57 Dw5 Ex5 2:=⟨Tryz.func57,⟨_,rfl⟩,by kernel_rfl,rfl,rfl,by kernel_rfl⟩
theorem N9:FnOk PR cutsOf D1 Tryz.f59 Q4 Z6 1:=⟨Tryz.func59,⟨_,rfl⟩,by kernel_rfl,rfl,rfl,by kernel_rfl⟩
theorem Dw8:FnOk PR cutsOf Aa0 Tryz.f60 Ay6 Bn3 2:=⟨Tryz.func60,⟨_,rfl⟩,by kernel_rfl,rfl,rfl,by kernel_rfl⟩
theorem Dw6:FnOk PR cutsOf Q3 Tryz.f64 Ay1 Bn4 1:=⟨Tryz.func64,⟨_,rfl⟩,by kernel_rfl,rfl,rfl,by kernel_rfl⟩
theorem Dh0:FnOk PR cutsOf O1 Tryz.f65 Ap1 Bc1 2:=⟨Tryz.func65,⟨_,rfl⟩,by kernel_rfl,rfl,rfl,by kernel_rfl⟩
theorem Dp3:FnOk PR cutsOf Ag5 Tryz.f66 At6 Bj3 1:=⟨Tryz.func66,⟨_,rfl⟩,by kernel_rfl,rfl,rfl,by kernel_rfl⟩
theorem As2:FnOk PR cutsOf I9 Tryz.f68 A18 Bg9 1:=⟨Tryz.func68,⟨_,rfl⟩,by kernel_rfl,rfl,rfl,by kernel_rfl⟩
theorem An7:FnOk PR cutsOf H5 Tryz.f69 A67 Bi1 1:=⟨Tryz.func69,⟨_,rfl⟩,by kernel_rfl,rfl,rfl,by kernel_rfl⟩
theorem Ah3:FnOk PR cutsOf G2 Tryz.f70 Aq5 A41 1:=⟨Tryz.func70,⟨_,rfl⟩,by kernel_rfl,rfl,rfl,by kernel_rfl⟩
theorem Gq9:FnOk PR cutsOf Bo0 Tryz.f71 Dc0 Eb1 2:=⟨Tryz.func71,⟨_,rfl⟩,by kernel_rfl,rfl,rfl,by kernel_rfl⟩
theorem El8:FnOk PR cutsOf Ax3 Tryz.f72 Bg1 B87 2:=⟨Tryz.func72,⟨_,rfl⟩,by kernel_rfl,rfl,rfl,by kernel_rfl⟩
theorem D41:FnOk PR cutsOf Ad4 Tryz.f73 Dd3 D47 1:=⟨Tryz.func73,⟨_,rfl⟩,by kernel_rfl,rfl,rfl,by kernel_rfl⟩
theorem Es8:FnOk PR cutsOf A09 Tryz.f74 Bj6 Dc6 3:=⟨Tryz.func74,⟨_,rfl⟩,by kernel_rfl,rfl,rfl,by kernel_rfl⟩
theorem Ej9:FnOk PR cutsOf Ax1 Tryz.f75 Bf8 B82 3:=⟨Tryz.func75,⟨_,rfl⟩,by kernel_rfl,rfl,rfl,by kernel_rfl⟩
theorem D95:FnOk PR cutsOf An6 Tryz.f77 A60 Bx2 5:=⟨Tryz.func77,⟨_,rfl⟩,by kernel_rfl,rfl,rfl,by kernel_rfl⟩
theorem En4:FnOk PR cutsOf Ax0 Tryz.f86 Be9 B88 1:=⟨Tryz.func86,⟨_,rfl⟩,by kernel_rfl,rfl,rfl,by kernel_rfl⟩
theorem Ho0:FnOk PR cutsOf A76 Tryz.f87 D46 E97 1:=⟨Tryz.func87,⟨_,rfl⟩,by kernel_rfl,rfl,rfl,by kernel_rfl⟩
theorem Gq1:FnOk PR cutsOf A85 Tryz.f88 B99 Ec9 2:=⟨Tryz.func88,⟨_,rfl⟩,by kernel_rfl,rfl,rfl,by kernel_rfl⟩
theorem Ao0:FnOk PR cutsOf J8 Tryz.f89 Ac2 Am5 3:=⟨Tryz.func89,⟨_,rfl⟩,by kernel_rfl,rfl,rfl,by kernel_rfl⟩
theorem Gc6:FnOk PR cutsOf A28 Tryz.f90 B27 Dy9 1:=⟨Tryz.func90,⟨_,rfl⟩,by kernel_rfl,rfl,rfl,by kernel_rfl⟩
theorem Gg4:FnOk PR cutsOf A15 Tryz.f91 B26 Dy8 1:=⟨Tryz.func91,⟨_,rfl⟩,by kernel_rfl,rfl,rfl,by kernel_rfl⟩
theorem Ao8:FnOk PR cutsOf I0 Tryz.f92 Ac4 Am2 3:=⟨Tryz.func92,⟨_,rfl⟩,by kernel_rfl,rfl,rfl,by kernel_rfl⟩
theorem Gh7:FnOk PR cutsOf A29 Tryz.f93 B46 D04 1:=⟨Tryz.func93,⟨_,rfl⟩,by kernel_rfl,rfl,rfl,by kernel_rfl⟩
theorem Gp1:FnOk PR cutsOf Au1 Tryz.f94 Db3 Ec4 1:=⟨Tryz.func94,⟨_,rfl⟩,by kernel_rfl,rfl,rfl,by kernel_rfl⟩
theorem Gr0:FnOk PR cutsOf Au8 Tryz.f95 Da3 Ec0 1:=⟨Tryz.func95,⟨_,rfl⟩,by kernel_rfl,rfl,rfl,by kernel_rfl⟩
theorem Dp7:FnOk PR cutsOf J7 Tryz.f96 At7 Bj4 4:=⟨Tryz.func96,⟨_,rfl⟩,by kernel_rfl,rfl,rfl,by kernel_rfl⟩
theorem Gf4:FnOk PR cutsOf A40 Tryz.f97 B37 Dz0 1:=⟨Tryz.func97,⟨_,rfl⟩,by kernel_rfl,rfl,rfl,by kernel_rfl⟩
theorem Gh0:FnOk PR cutsOf A37 Tryz.f98 B44 Dz2 1:=⟨Tryz.func98,⟨_,rfl⟩,by kernel_rfl,rfl,rfl,by kernel_rfl⟩
theorem Gd1:FnOk PR cutsOf A26 Tryz.f99 B31 D15 1:=⟨Tryz.func99,⟨_,rfl⟩,by kernel_rfl,rfl,rfl,by kernel_rfl⟩
theorem Gv8:FnOk PR cutsOf A33 Tryz.f100 Dm3 Em7 3:=⟨Tryz.func100,⟨_,rfl⟩,by kernel_rfl,rfl,rfl,by kernel_rfl⟩
theorem Hx3:FnOk PR cutsOf Bt6 Tryz.f102 Ef5 Gi4 1:=⟨Tryz.func102,⟨_,rfl⟩,by kernel_rfl,rfl,rfl,by kernel_rfl⟩
theorem Do3:FnOk PR cutsOf Aj2 Tryz.f104 Bz9 Dl2 1:=⟨Tryz.func104,⟨_,rfl⟩,by kernel_rfl,rfl,rfl,by kernel_rfl⟩
theorem Dh9:FnOk PR cutsOf S5 Tryz.f105 An0 Bb8 1:=⟨Tryz.func105,⟨_,rfl⟩,by kernel_rfl,rfl,rfl,by kernel_rfl⟩
theorem Aq9:FnOk PR cutsOf H1 Tryz.f106 Ad5 As4 2:=⟨Tryz.func106,⟨_,rfl⟩,by kernel_rfl,rfl,rfl,by kernel_rfl⟩
theorem Du8:FnOk PR cutsOf Z9 Tryz.f109 Ax9 Bl5 2:=⟨Tryz.func109,⟨_,rfl⟩,by kernel_rfl,rfl,rfl,by kernel_rfl⟩
theorem An3:FnOk PR cutsOf J9 Tryz.f110 Ac8 Ap3 3:=⟨Tryz.func110,⟨_,rfl⟩,by kernel_rfl,rfl,rfl,by kernel_rfl⟩
theorem Ge5:FnOk PR cutsOf A34 Tryz.f111 B41 Dz7 1:=⟨Tryz.func111,⟨_,rfl⟩,by kernel_rfl,rfl,rfl,by kernel_rfl⟩
theorem A53:FnOk PR cutsOf P8 Tryz.f115 Am6 A65 3:=⟨Tryz.func115,⟨_,rfl⟩,by kernel_rfl,rfl,rfl,by kernel_rfl⟩
theorem Et8:FnOk PR cutsOf Al6 Tryz.f116 Bj8 Dc1 1:=⟨Tryz.func116,⟨_,rfl⟩,by kernel_rfl,rfl,rfl,by kernel_rfl⟩
theorem D26:FnOk PR cutsOf An5 Tryz.f117 A62 Bv1 1:=⟨Tryz.func117,⟨_,rfl⟩,by kernel_rfl,rfl,rfl,by kernel_rfl⟩
theorem Bf9:FnOk PR cutsOf Q1 Tryz.f118 Bf2 Bw1 1:=⟨Tryz.func118,⟨_,rfl⟩,by kernel_rfl,rfl,rfl,by kernel_rfl⟩
theorem Gp2:FnOk PR cutsOf A89 Tryz.f119 Da1 Ea3 1:=⟨Tryz.func119,⟨_,rfl⟩,by kernel_rfl,rfl,rfl,by kernel_rfl⟩
theorem Dm0:FnOk PR cutsOf W2 Tryz.f120 Ar4 Be4 1:=⟨Tryz.func120,⟨_,rfl⟩,by kernel_rfl,rfl,rfl,by kernel_rfl⟩
theorem Hu7:FnOk PR cutsOf Dt3 Tryz.f121 En0 Gj5 1:=⟨Tryz.func121,⟨_,rfl⟩,by kernel_rfl,rfl,rfl,by kernel_rfl⟩
theorem Ea1:FnOk PR cutsOf Av6 Tryz.f122 De4 D85 1:=⟨Tryz.func122,⟨_,rfl⟩,by kernel_rfl,rfl,rfl,by kernel_rfl⟩
theorem Dw7:FnOk PR cutsOf Aq1 Tryz.f123 B54 Du7 1:=⟨Tryz.func123,⟨_,rfl⟩,by kernel_rfl,rfl,rfl,by kernel_rfl⟩
theorem Gu4:FnOk PR cutsOf Bu9 Tryz.f124 Dm6 El2 2:=⟨Tryz.func124,⟨_,rfl⟩,by kernel_rfl,rfl,rfl,by kernel_rfl⟩
theorem Hp5:FnOk PR cutsOf Dg3 Tryz.f125 D88 E61 1:=⟨Tryz.func125,⟨_,rfl⟩,by kernel_rfl,rfl,rfl,by kernel_rfl⟩
theorem D44:FnOk PR cutsOf Am7 Tryz.f126 A83 Bx4 3:=⟨Tryz.func126,⟨_,rfl⟩,by kernel_rfl,rfl,rfl,by kernel_rfl⟩
theorem Bb1:FnOk PR cutsOf O5 Tryz.f127 As5 Bb2 2:=⟨Tryz.func127,⟨_,rfl⟩,by kernel_rfl,rfl,rfl,by kernel_rfl⟩
theorem E33:FnOk PR cutsOf A72 Tryz.f128 Bp8 Dl9 3:=⟨Tryz.func128,⟨_,rfl⟩,by kernel_rfl,rfl,rfl,by kernel_rfl⟩
theorem Bv3:FnOk PR cutsOf Y8 Tryz.f129 Bc9 By6 1:=⟨Tryz.func129,⟨_,rfl⟩,by kernel_rfl,rfl,rfl,by kernel_rfl⟩
theorem Bh0:FnOk PR cutsOf N4 Tryz.f130 Av3 Bg3 2:=⟨Tryz.func130,⟨_,rfl⟩,by kernel_rfl,rfl,rfl,by kernel_rfl⟩
theorem Bv4:FnOk PR cutsOf Z0 Tryz.f131 Bc5 Bw6 1:=⟨Tryz.func131,⟨_,rfl⟩,by kernel_rfl,rfl,rfl,by kernel_rfl⟩
theorem Gf2:FnOk PR cutsOf Bj1 Tryz.f132 B30 Dz9 1:=⟨Tryz.func132,⟨_,rfl⟩,by kernel_rfl,rfl,rfl,by kernel_rfl⟩
theorem Em1:FnOk PR cutsOf Aw9 Tryz.f133 Be5 B89 3:=⟨Tryz.func133,⟨_,rfl⟩,by kernel_rfl,rfl,rfl,by kernel_rfl⟩
theorem Em3:FnOk PR cutsOf A50 Tryz.f134 Ds2 Ej4 2:=⟨Tryz.func134,⟨_,rfl⟩,by kernel_rfl,rfl,rfl,by kernel_rfl⟩
theorem E00:FnOk PR cutsOf A58 Tryz.f135 Bq7 Dn0 3:=⟨Tryz.func135,⟨_,rfl⟩,by kernel_rfl,rfl,rfl,by kernel_rfl⟩
theorem Et1:FnOk PR cutsOf Al7 Tryz.f136 Bk0 Dc4 1:=⟨Tryz.func136,⟨_,rfl⟩,by kernel_rfl,rfl,rfl,by kernel_rfl⟩
theorem Ee5:FnOk PR cutsOf Aj1 Tryz.f137 Bg2 B71 2:=⟨Tryz.func137,⟨_,rfl⟩,by kernel_rfl,rfl,rfl,by kernel_rfl⟩
theorem E23:FnOk PR cutsOf A61 Tryz.f138 Bp1 Dk5 2:=⟨Tryz.func138,⟨_,rfl⟩,by kernel_rfl,rfl,rfl,by kernel_rfl⟩
theorem Dz4:FnOk PR cutsOf Ab8 Tryz.f139 A44 Bu2 5:=⟨Tryz.func139,⟨_,rfl⟩,by kernel_rfl,rfl,rfl,by kernel_rfl⟩
theorem Dx2:FnOk PR cutsOf Z8 Tryz.f140 Ax7 Bm3 5:=⟨Tryz.func140,⟨_,rfl⟩,by kernel_rfl,rfl,rfl,by kernel_rfl⟩
theorem Dz5:FnOk PR cutsOf Ak5 Tryz.f141 A39 Bt2 7:=⟨Tryz.func141,⟨_,rfl⟩,by kernel_rfl,rfl,rfl,by kernel_rfl⟩
theorem Eo5:FnOk PR cutsOf Aw4 Tryz.f142 Bf5 B73 7:=⟨Tryz.func142,⟨_,rfl⟩,by kernel_rfl,rfl,rfl,by kernel_rfl⟩
theorem Ed5:FnOk PR cutsOf At0 Tryz.f144 Bb0 B15 2:=⟨Tryz.func144,⟨_,rfl⟩,by kernel_rfl,rfl,rfl,by kernel_rfl⟩
theorem Eh8:FnOk PR cutsOf Aw8 Tryz.f145 Bg8 B97 3:=⟨Tryz.func145,⟨_,rfl⟩,by kernel_rfl,rfl,rfl,by kernel_rfl⟩
theorem Et6:FnOk PR cutsOf A11 Tryz.f146 Bk7 Dd1 3:=⟨Tryz.func146,⟨_,rfl⟩,by kernel_rfl,rfl,rfl,by kernel_rfl⟩
theorem Es2:FnOk PR cutsOf A03 Tryz.f147 Bj9 Dd0 3:=⟨Tryz.func147,⟨_,rfl⟩,by kernel_rfl,rfl,rfl,by kernel_rfl⟩
theorem D23:FnOk PR cutsOf An1 Tryz.f148 A54 Bw5 6:=⟨Tryz.func148,⟨_,rfl⟩,by kernel_rfl,rfl,rfl,by kernel_rfl⟩
theorem Ex7:FnOk PR cutsOf A56 Tryz.f149 Bp7 Di8 3:=⟨Tryz.func149,⟨_,rfl⟩,by kernel_rfl,rfl,rfl,by kernel_rfl⟩
theorem Ez2:FnOk PR cutsOf Ah9 Tryz.f150 Bq8 Dm1 2:=⟨Tryz.func150,⟨_,rfl⟩,by kernel_rfl,rfl,rfl,by kernel_rfl⟩
theorem Gq5:FnOk PR cutsOf Ae9 Tryz.f151 Da9 Eb0 3:=⟨Tryz.func151,⟨_,rfl⟩,by kernel_rfl,rfl,rfl,by kernel_rfl⟩
theorem Ey8:FnOk PR cutsOf A68 Tryz.f152 Bs6 Do1 3:=⟨Tryz.func152,⟨_,rfl⟩,by kernel_rfl,rfl,rfl,by kernel_rfl⟩
theorem Dx7:FnOk PR cutsOf N6 Tryz.f159 Ay2 Bn7 2:=⟨Tryz.func159,⟨_,rfl⟩,by kernel_rfl,rfl,rfl,by kernel_rfl⟩
theorem Go6:FnOk PR cutsOf Ak8 Tryz.f160 Db6 Eb4 1:=⟨Tryz.func160,⟨_,rfl⟩,by kernel_rfl,rfl,rfl,by kernel_rfl⟩
theorem Gp6:FnOk PR cutsOf A96 Tryz.f161 Da4 Eb8 0:=⟨Tryz.func161,⟨_,rfl⟩,by kernel_rfl,rfl,rfl,by kernel_rfl⟩
theorem B12:FnOk PR cutsOf V0 Tryz.f162 Af8 Az9 2:=⟨Tryz.func162,⟨_,rfl⟩,by kernel_rfl,rfl,rfl,by kernel_rfl⟩
theorem Gt5:FnOk PR cutsOf Bg5 Tryz.f163 Dk9 Ek8 0:=⟨Tryz.func163,⟨_,rfl⟩,by kernel_rfl,rfl,rfl,by kernel_rfl⟩
theorem B03:FnOk PR cutsOf V3 Tryz.f164 Af4 Az7 2:=⟨Tryz.func164,⟨_,rfl⟩,by kernel_rfl,rfl,rfl,by kernel_rfl⟩
theorem B06:FnOk PR cutsOf U9 Tryz.f165 Ag2 A00 2:=⟨Tryz.func165,⟨_,rfl⟩,by kernel_rfl,rfl,rfl,by kernel_rfl⟩
theorem Dp4:FnOk PR cutsOf Y1 Tryz.f166 At9 Bj5 2:=⟨Tryz.func166,⟨_,rfl⟩,by kernel_rfl,rfl,rfl,by kernel_rfl⟩
theorem B04:FnOk PR cutsOf U8 Tryz.f167 Af5 Az6 2:=⟨Tryz.func167,⟨_,rfl⟩,by kernel_rfl,rfl,rfl,by kernel_rfl⟩
theorem Gn6:FnOk PR cutsOf A87 Tryz.f168 Da7 Eb9 0:=⟨Tryz.func168,⟨_,rfl⟩,by kernel_rfl,rfl,rfl,by kernel_rfl⟩
theorem B09:FnOk PR cutsOf V2 Tryz.f169 Ag1 Az5 2:=⟨Tryz.func169,⟨_,rfl⟩,by kernel_rfl,rfl,rfl,by kernel_rfl⟩
theorem G94:FnOk PR cutsOf Aq3 Tryz.f171 Dw3 Ev5 2:=⟨Tryz.func171,⟨_,rfl⟩,by kernel_rfl,rfl,rfl,by kernel_rfl⟩
theorem B05:FnOk PR cutsOf V5 Tryz.f173 Af7 Az4 2:=⟨Tryz.func173,⟨_,rfl⟩,by kernel_rfl,rfl,rfl,by kernel_rfl⟩
theorem Dv0:FnOk PR cutsOf Aa4 Tryz.f174 B62 Du0 1:=⟨Tryz.func174,⟨_,rfl⟩,by kernel_rfl,rfl,rfl,by kernel_rfl⟩
theorem Gc9:FnOk PR cutsOf G6 Tryz.f175 B51 D08 2:=⟨Tryz.func175,⟨_,rfl⟩,by kernel_rfl,rfl,rfl,by kernel_rfl⟩
theorem At5:FnOk PR cutsOf E7 Tryz.f176 Ad1 At4 2:=⟨Tryz.func176,⟨_,rfl⟩,by kernel_rfl,rfl,rfl,by kernel_rfl⟩
theorem Gu8:FnOk PR cutsOf Bz0 Tryz.f177 Dk3 Eo0 2:=⟨Tryz.func177,⟨_,rfl⟩,by kernel_rfl,rfl,rfl,by kernel_rfl⟩
theorem Bb3:FnOk PR cutsOf O7 Tryz.f178 As8 Bb6 1:=⟨Tryz.func178,⟨_,rfl⟩,by kernel_rfl,rfl,rfl,by kernel_rfl⟩
theorem Gh6:FnOk PR cutsOf A27 Tryz.f179 B33 D10 1:=⟨Tryz.func179,⟨_,rfl⟩,by kernel_rfl,rfl,rfl,by kernel_rfl⟩
theorem Ek4:FnOk PR cutsOf Aj9 Tryz.f180 Be2 B85 1:=⟨Tryz.func180,⟨_,rfl⟩,by kernel_rfl,rfl,rfl,by kernel_rfl⟩
theorem E88:FnOk PR cutsOf Ad6 Tryz.f181 Bz7 Dr0 2:=⟨Tryz.func181,⟨_,rfl⟩,by kernel_rfl,rfl,rfl,by kernel_rfl⟩
theorem Ez1:FnOk PR cutsOf Ar2 Tryz.f182 Bq1 Dm7 3:=⟨Tryz.func182,⟨_,rfl⟩,by kernel_rfl,rfl,rfl,by kernel_rfl⟩
theorem By5:FnOk PR cutsOf Z1 Tryz.f183 Bd2 Bz4 1:=⟨Tryz.func183,⟨_,rfl⟩,by kernel_rfl,rfl,rfl,by kernel_rfl⟩
theorem Aj3:FnOk PR cutsOf G0 Tryz.f184 Z3 Aj6 1:=⟨Tryz.func184,⟨_,rfl⟩,by kernel_rfl,rfl,rfl,by kernel_rfl⟩
theorem Bp4:FnOk PR cutsOf P9 Tryz.f185 A70 Bq5 1:=⟨Tryz.func185,⟨_,rfl⟩,by kernel_rfl,rfl,rfl,by kernel_rfl⟩
theorem Dw2:FnOk PR cutsOf Aa2 Tryz.f186 Az2 Bn8 6:=⟨Tryz.func186,⟨_,rfl⟩,by kernel_rfl,rfl,rfl,by kernel_rfl⟩
theorem Gg0:FnOk PR cutsOf Bh2 Tryz.f187 B20 Dy3 3:=⟨Tryz.func187,⟨_,rfl⟩,by kernel_rfl,rfl,rfl,by kernel_rfl⟩
theorem E63:FnOk PR cutsOf Bd6 Tryz.f188 Bw9 Ds9 3:=⟨Tryz.func188,⟨_,rfl⟩,by kernel_rfl,rfl,rfl,by kernel_rfl⟩
theorem Ey5:FnOk PR cutsOf Ar6 Tryz.f189 Bs4 Dk1 3:=⟨Tryz.func189,⟨_,rfl⟩,by kernel_rfl,rfl,rfl,by kernel_rfl⟩
theorem Ey7:FnOk PR cutsOf Ah5 Tryz.f192 Bq9 Dj5 2:=⟨Tryz.func192,⟨_,rfl⟩,by kernel_rfl,rfl,rfl,by kernel_rfl⟩
theorem Em0:FnOk PR cutsOf Aw3 Tryz.f193 Bg4 B94 3:=⟨Tryz.func193,⟨_,rfl⟩,by kernel_rfl,rfl,rfl,by kernel_rfl⟩
theorem E37:FnOk PR cutsOf Ar7 Tryz.f194 Bs5 Di6 3:=⟨Tryz.func194,⟨_,rfl⟩,by kernel_rfl,rfl,rfl,by kernel_rfl⟩
theorem Y6:FnOk PR cutsOf B9 Tryz.f195 Q8 Y5 3:=⟨Tryz.func195,⟨_,rfl⟩,by kernel_rfl,rfl,rfl,by kernel_rfl⟩
theorem Es1:FnOk PR cutsOf A13 Tryz.f196 Bk8 Dc3 3:=⟨Tryz.func196,⟨_,rfl⟩,by kernel_rfl,rfl,rfl,by kernel_rfl⟩
theorem Ez4:FnOk PR cutsOf A71 Tryz.f197 Bs3 Dl5 2:=⟨Tryz.func197,⟨_,rfl⟩,by kernel_rfl,rfl,rfl,by kernel_rfl⟩
theorem Bq0:FnOk PR cutsOf V8 Tryz.f198 A63 Bq6 1:=⟨Tryz.func198,⟨_,rfl⟩,by kernel_rfl,rfl,rfl,by kernel_rfl⟩
theorem Bm5:FnOk PR cutsOf P2 Tryz.f201 Z7 Ap8 2:=⟨Tryz.func201,⟨_,rfl⟩,by kernel_rfl,rfl,rfl,by kernel_rfl⟩
theorem E69:FnOk PR cutsOf Ad7 Tryz.f202 Bz1 Dq7 1:=⟨Tryz.func202,⟨_,rfl⟩,by kernel_rfl,rfl,rfl,by kernel_rfl⟩
theorem D96:FnOk PR cutsOf Ao4 Tryz.f203 A81 Bx9 3:=⟨Tryz.func203,⟨_,rfl⟩,by kernel_rfl,rfl,rfl,by kernel_rfl⟩
theorem Hc5:FnOk PR cutsOf Ap9 Tryz.f204 Dt9 Ev2 2:=⟨Tryz.func204,⟨_,rfl⟩,by kernel_rfl,rfl,rfl,by kernel_rfl⟩
theorem Hc7:FnOk PR cutsOf Ap6 Tryz.f205 Dt7 Eu6 1:=⟨Tryz.func205,⟨_,rfl⟩,by kernel_rfl,rfl,rfl,by kernel_rfl⟩
theorem Ba4:FnOk PR cutsOf G4 Tryz.f206 Al0 A92 1:=⟨Tryz.func206,⟨_,rfl⟩,by kernel_rfl,rfl,rfl,by kernel_rfl⟩
theorem D63:FnOk PR cutsOf Ao3 Tryz.f207 A75 Bx1 3:=⟨Tryz.func207,⟨_,rfl⟩,by kernel_rfl,rfl,rfl,by kernel_rfl⟩
theorem Hi2:FnOk PR cutsOf Bi3 Tryz.f208 D20 E86 2:=⟨Tryz.func208,⟨_,rfl⟩,by kernel_rfl,rfl,rfl,by kernel_rfl⟩
theorem Hm6:FnOk PR cutsOf Bh3 Tryz.f209 D93 E57 1:=⟨Tryz.func209,⟨_,rfl⟩,by kernel_rfl,rfl,rfl,by kernel_rfl⟩
theorem D28:FnOk PR cutsOf Al8 Tryz.f210 A55 Bz6 3:=⟨Tryz.func210,⟨_,rfl⟩,by kernel_rfl,rfl,rfl,by kernel_rfl⟩
theorem H4:FnOk PR cutsOf N8 Tryz.f211 Ba9 Bm9 2:=⟨Tryz.func211,⟨_,rfl⟩,by kernel_rfl,rfl,rfl,by kernel_rfl⟩
theorem O0:FnOk PR cutsOf W3 Tryz.f212 Bl9 B64 1:=⟨Tryz.func212,⟨_,rfl⟩,by kernel_rfl,rfl,rfl,by kernel_rfl⟩
theorem L6:FnOk PR cutsOf D8 Tryz.f213 W4 Ah7 2:=⟨Tryz.func213,⟨_,rfl⟩,by kernel_rfl,rfl,rfl,by kernel_rfl⟩
theorem An9:FnOk PR cutsOf H8 Tryz.f214 Ac3 Al9 2:=⟨Tryz.func214,⟨_,rfl⟩,by kernel_rfl,rfl,rfl,by kernel_rfl⟩
theorem Da6:FnOk PR cutsOf M9 Tryz.f215 Al1 A93 2:=⟨Tryz.func215,⟨_,rfl⟩,by kernel_rfl,rfl,rfl,by kernel_rfl⟩
theorem Gt1:FnOk PR cutsOf Bg7 Tryz.f216 Dn5 Ek6 3:=⟨Tryz.func216,⟨_,rfl⟩,by kernel_rfl,rfl,rfl,by kernel_rfl⟩
theorem Df5:FnOk PR cutsOf Ac9 Tryz.f217 Am4 Bb7 2:=⟨Tryz.func217,⟨_,rfl⟩,by kernel_rfl,rfl,rfl,by kernel_rfl⟩
theorem Dk8:FnOk PR cutsOf Ae7 Tryz.f220 Aq8 Bf4 2:=⟨Tryz.func220,⟨_,rfl⟩,by kernel_rfl,rfl,rfl,by kernel_rfl⟩
theorem Et9:FnOk PR cutsOf A01 Tryz.f221 Bk4 Dc2 3:=⟨Tryz.func221,⟨_,rfl⟩,by kernel_rfl,rfl,rfl,by kernel_rfl⟩
theorem Ad9:FnOk PR cutsOf G1 Tryz.f222 U5 Ad3 2:=⟨Tryz.func222,⟨_,rfl⟩,by kernel_rfl,rfl,rfl,by kernel_rfl⟩
theorem Hk7:FnOk PR cutsOf Dg7 Tryz.f223 D76 Ga3 1:=⟨Tryz.func223,⟨_,rfl⟩,by kernel_rfl,rfl,rfl,by kernel_rfl⟩
theorem Ak7:FnOk PR cutsOf D4 Tryz.f224 Aa9 Ak9 2:=⟨Tryz.func224,⟨_,rfl⟩,by kernel_rfl,rfl,rfl,by kernel_rfl⟩
theorem Hg5:FnOk PR cutsOf Dh4 Tryz.f225 D36 Gb4 1:=⟨Tryz.func225,⟨_,rfl⟩,by kernel_rfl,rfl,rfl,by kernel_rfl⟩
theorem G56:FnOk PR cutsOf Be8 Tryz.f226 Dl1 El1 3:=⟨Tryz.func226,⟨_,rfl⟩,by kernel_rfl,rfl,rfl,by kernel_rfl⟩
theorem Gw7:FnOk PR cutsOf Bx0 Tryz.f227 Do4 Eh9 2:=⟨Tryz.func227,⟨_,rfl⟩,by kernel_rfl,rfl,rfl,by kernel_rfl⟩
theorem Gt6:FnOk PR cutsOf Aj4 Tryz.f230 Dp1 Ef4 2:=⟨Tryz.func230,⟨_,rfl⟩,by kernel_rfl,rfl,rfl,by kernel_rfl⟩
theorem Gy0:FnOk PR cutsOf Bf7 Tryz.f231 Dn1 Ee0 1:=⟨Tryz.func231,⟨_,rfl⟩,by kernel_rfl,rfl,rfl,by kernel_rfl⟩
end
end Go.EQ

namespace Go.EQ
open Go Go.NN Go.Proofs
theorem Il0:type_of% Tryz.underlying3:=Tryz.underlying3
theorem If3:type_of% Tryz.underlying4:=Tryz.underlying4
theorem Ib5:type_of% Tryz.underlying5:=Tryz.underlying5
theorem Gl3:type_of% Tryz.underlying29:=Tryz.underlying29
end Go.EQ
