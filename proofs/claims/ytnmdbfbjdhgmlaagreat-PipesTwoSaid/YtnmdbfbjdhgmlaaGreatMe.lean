/- Pipes are apart: what flows in one is nothing to another one; no conditions. -/
import Derived.Test.YtnmdbfbjdhgmlaaGreatMd
import Derived.KernelRfl
set_option linter.all false
set_option maxRecDepth 100000
namespace Go.EQ
open Go Go.NN Go.Proofs
variable (C : A3) (R : A5)
noncomputable section
def Bu1:Cuts:={ globs:=0,loops:=[(9,[6,7,8,9,10,11,12])],regs:=[],plans:=[] }
def Dn7:List Item:=A6 Tryz.f9
def Bb9:List Item:=stk [0,1,0,1,0,1,0,1,0,1,0,1,0,1,0,0,1,4,5] Dn7
theorem Gx5 (C:A3) (R:A5) (b:Option Addr) (bn bc:Nat) (h:H) :
 A7 PR Bu1 C R Ad6 Tryz.f9 100000 true Dn7 [(0,.slice b bn bc)] h =
 bnd (C Bx5 [] h) fun r w=>aAgg r fun x=>bnd (C Be1 [.agg ⟨x⟩] w) fun r_1 w1=>as4 r_1 fun r_2 r_3 r_4 r_5=>aPtr r_2 fun x_1=>aPtr r_3 fun x_2=>aPtr r_4 fun x_3=>aPtr r_5 fun x_4=>bnd (cond x_2.isNone (some (true,w1)) (some (((bn:Nat):Int) != 492,w1))) fun c w2=>cond c
 (some (.tuple ⟨[.pointer none,.pointer none,.pointer none,.pointer none]⟩,w2))
 (nw (.cells Aw0 false [.int .i64 0,.int .i64 0,.int .i64 0,.int .i64 0,.int .i64 0,.int .i64 0,.slice none 0 0]) w2 fun b_1 w3=>pAgg ⟨b_1,0,none⟩ [.int .i64 2,.int .i64 256,.int .i64 0,.int .i64 0,.int .i64 0,.int .i64 0,.slice b bn bc] w3 fun w4=>bnd (C O0 [.agg ⟨[.int .i64 0,.int .i64 0,.int .i64 1,.int .i64 1,.int .u8 0,.int .u8 0,.int .u8 0,.int .u8 0,.int .u8 0,.int .u8 0,.int .u8 0,.int .u8 0,.int .u8 0,.int .u8 0,.int .u8 0,.int .u8 0,.int .u8 0,.int .u8 0,.int .u8 0,.int .u8 0,.int .u8 0,.int .u8 0,.int .u8 0,.int .u8 0,.int .u8 0,.int .u8 0,.int .u8 0,.int .u8 0,.int .u8 0,.int .u8 0,.int .u8 0,.int .u8 0,.int .u8 0,.int .u8 0,.int .u8 0,.int .u8 0]⟩] w4) fun r_6 w5=>aStr r_6 fun x_5=>gAgg ⟨b_1,0,none⟩ 7 w5 fun x_6=>bnd (C Q1 [.pointer x_1,.int .i64 0,.agg ⟨x_6⟩] w5) fun r_7 w6=>aAgg r_7 fun _=>gAgg ⟨b_1,0,none⟩ 7 w6 fun x_8=>bnd (C Ap9 [.pointer x_3,.int .i64 0,.agg ⟨x_8⟩] w6) fun r_8 w7=>as3 r_8 fun r_9 r_10 r_11=>aInt .i64 r_9 fun _=>aInt .i64 r_10 fun _=>aStr r_11 fun _=>R Ad6 Bb9 [(6,.pointer x_1),(7,.pointer x_2),(8,.pointer x_3),(9,.pointer x_4),(10,.pointer (some ⟨b_1,0,none⟩)),(11,.string x_5),(12,.int .i64 1)] w7):=by kernel_rfl
theorem Bu3 (C:A3) (R:A5) (k:Option Addr) (c:Option Addr) (wv:Option Addr) (m:Option Addr) (x:Addr) (pipe:ByteArray) (i:Int) (h:H) :
 A7 PR Bu1 C R Ad6 Tryz.f9 100000 true Bb9 [(6,.pointer k),(7,.pointer c),(8,.pointer wv),(9,.pointer m),(10,.pointer (some x)),(11,.string pipe),(12,.int .i64 i)] h =
 cond (decide (i<3))
 (ck (ByteArray.size pipe≤B0) (nw (.cells A4 false (A0 (ByteArray.data pipe).toList)) h fun b w=>pAgg x [.int .i64 2,.int .i64 (IntKind.wrap .i64 (256+i)),.int .i64 0,.int .i64 0,.int .i64 0,.int .i64 0,.slice (some (J4 b)) (ByteArray.size pipe) (ByteArray.size pipe)] w fun w1=>gAgg x 7 w1 fun x_1=>bnd (C Q1 [.pointer k,.int .i64 0,.agg ⟨x_1⟩] w1) fun r w2=>aAgg r fun _=>gAgg x 7 w2 fun x_3=>bnd (C Ap9 [.pointer wv,.int .i64 0,.agg ⟨x_3⟩] w2) fun r_1 w3=>as3 r_1 fun r_2 r_3 r_4=>aInt .i64 r_2 fun _=>aInt .i64 r_3 fun _=>aStr r_4 fun _=>R Ad6 Bb9 [(6,.pointer k),(7,.pointer c),(8,.pointer wv),(9,.pointer m),(10,.pointer (some x)),(11,.string pipe),(12,.int .i64 (IntKind.wrap .i64 (i+1)))] w3))
 (some (.tuple ⟨[.pointer k,.pointer c,.pointer wv,.pointer m]⟩,h)):=by kernel_rfl
def D86:Cuts:={ globs:=0,loops:=[],regs:=[],plans:=[] }
def E31:List Item:=A6 Tryz.f31
theorem Hm8 (C:A3) (R:A5) (e:Int) (h:H) :
 A7 PR D86 C R A44 Tryz.f31 100000 true E31 [(0,.int .i64 e)] h =
 nw (.cells Y4 false [.int .i64 0,.int .i64 0,.slice none 0 0,.bool false]) h fun b w=>pAgg ⟨b,0,none⟩ [.int .i64 0,.int .i64 e,.slice none 0 0,.bool false] w fun w1=>gAgg ⟨b,0,none⟩ 4 w1 fun x=>some (.agg ⟨x⟩,w1):=by kernel_rfl
def Dw4:Cuts:={ globs:=0,loops:=[],regs:=[],plans:=[] }
def Et1:List Item:=A6 Tryz.f32
theorem G36 (C:A3) (R:A5) (p:List Value) (want:Int) (h:H) :
 A7 PR Dw4 C R B40 Tryz.f32 100000 true Et1 [(0,.agg ⟨p⟩),(1,.int .i64 want)] h =
 nw (.cells D6 false p) h fun b w=>bnd (C V9 [.int .i64 8,.int .i64 want,.func (.func A94) ⟨[]⟩ ⟨[.pointer (some ⟨b,0,none⟩)]⟩] w) fun r w1=>aSl r fun x xn xc=>some (.slice x xn xc,w1):=by kernel_rfl
def De2:Cuts:={ globs:=0,loops:=[(3,[0,1,2,7,8])],regs:=[],plans:=[] }
def D14:List Item:=A6 Tryz.f33
def A96:List Item:=stk [0,1,0,1,0,0,1,4,5] D14
theorem He5 (C:A3) (R:A5) (n:Int) (want:Int) (isv:Value) (h:H) :
 A7 PR De2 C R V9 Tryz.f33 100000 true D14 [(0,.int .i64 n),(1,.int .i64 want),(2,isv)] h =
 R V9 A96 [(0,.int .i64 n),(1,.int .i64 want),(2,isv),(7,.slice none 0 0),(8,.int .i64 0)] h:=by kernel_rfl
theorem Da0 (C:A3) (R:A5) (n:Int) (want:Int) (isv:Value) (out:Option Addr) (outn outc:Nat) (i:Int) (h:H) :
 A7 PR De2 C R V9 Tryz.f33 100000 true A96 [(0,.int .i64 n),(1,.int .i64 want),(2,isv),(7,.slice out outn outc),(8,.int .i64 i)] h =
 bnd (cond (decide (i<n)) (some (decide (((outn:Nat):Int)<want),h)) (some (false,h))) fun c w=>cond c
 (aFn isv fun g fi cp=>bnd (C g (fi++([.int .i64 i]++cp)) w) fun r w1=>aBool r fun x=>cond x
 (nw (.cells B3 false [.int .i64 i]) w1 fun b w2=>gCells (some ⟨b,0,none⟩) (1*1) w2 fun cs=>ckB (fitsOpen out B3 w2) (apd B3 1 out outn outc 1 cs w2 fun a an ac w3=>R V9 A96 [(0,.int .i64 n),(1,.int .i64 want),(2,isv),(7,.slice a an ac),(8,.int .i64 (IntKind.wrap .i64 (i+1)))] w3))
 (R V9 A96 [(0,.int .i64 n),(1,.int .i64 want),(2,isv),(7,.slice out outn outc),(8,.int .i64 (IntKind.wrap .i64 (i+1)))] w1))
 (some (.slice out outn outc,w)):=by kernel_rfl
def Dk5:Cuts:={ globs:=0,loops:=[],regs:=[],plans:=[] }
def Ef1:List Item:=A6 Tryz.f34
theorem G12 (C:A3) (R:A5) (k:Int) (fv0:Addr) (h:H) :
 A7 PR Dk5 C R A28 Tryz.f34 100000 true Ef1 [(0,.int .i64 k),(1,.pointer (some fv0))] h =
 gPtr fv0 h fun x=>bnd (C P7 [.pointer x,.int .i64 k] h) fun r w=>as2 r fun r_1 r_2=>aAgg r_1 fun x_1=>aInt .i64 r_2 fun x_2=>nw (.cells D2 false [.int .i64 0,.int .i64 0,.int .i64 0,.int .i64 0]) w fun b w1=>ck (List.length x_1=4) (pAgg ⟨b,0,none⟩ x_1 w1 fun w2=>some (.bool (x_2==0),w2)):=by kernel_rfl
def Ao8:Cuts:={ globs:=0,loops:=[],regs:=[],plans:=[] }
def Bc1:List Item:=A6 Tryz.f38
theorem Dc6 (C:A3) (R:A5) (c:Option Addr) (i:Int) (p:List Value) (h:H) :
 A7 PR Ao8 C R Q8 Tryz.f38 100000 true Bc1 [(0,.pointer c),(1,.int .i64 i),(2,.agg ⟨p⟩)] h =
 nw (.cells B7 false p) h fun b w=>gAgg ⟨b,0,none⟩ 36 w fun x=>bnd (C At5 [.agg ⟨x⟩] w) fun r w1=>as2 r fun r_1 r_2=>aSl r_1 fun x_1 xn xc=>aBool r_2 fun x_2=>bnd (C A31 [.int .i64 i] w1) fun r_3 w2=>aAgg r_3 fun x_3=>bnd (C I7 [.pointer c,.agg ⟨x_3⟩,.slice x_1 xn xc,.bool x_2] w2) fun r_4 w3=>aBool r_4 fun x_4=>some (.bool x_4,w3):=by kernel_rfl
def B86:Cuts:={ globs:=0,loops:=[],regs:=[],plans:=[] }
def Ea4:List Item:=A6 Tryz.f46
theorem Go1 (C:A3) (R:A5) (f:List Value) (h:H) :
 A7 PR B86 C R At0 Tryz.f46 100000 true Ea4 [(0,.agg ⟨f⟩)] h =
 nw (.cells D2 false f) h fun b w=>nw (.cells Y4 false [.int .i64 0,.int .i64 0,.slice none 0 0,.bool false]) w fun b_1 w1=>gInt .i64 (Addr.add ⟨b,0,none⟩ 3) w1 fun x=>cond (x==1)
 (bnd (C O2 [.int .i64 111] w1) fun r w2=>aAgg r fun x_1=>ck (List.length x_1=4) (pAgg ⟨b_1,0,none⟩ x_1 w2 fun w3=>gAgg ⟨b_1,0,none⟩ 4 w3 fun x_2=>some (.agg ⟨x_2⟩,w3)))
 (pAgg ⟨b_1,0,none⟩ [.int .i64 0,.int .i64 0,.slice none 0 0,.bool true] w1 fun w4=>gAgg ⟨b_1,0,none⟩ 4 w4 fun x_3=>some (.agg ⟨x_3⟩,w4)):=by kernel_rfl
def P8:Cuts:={ globs:=0,loops:=[(1,[0,5]),(6,[0,12]),(11,[0,20,21])],regs:=[],plans:=[] }
def Z1:List Item:=A6 Tryz.f59
def Ac1:List Item:=stk [0,0,1,4,5] Z1
def Ab5:List Item:=stk [0,1,0,0,1,4,5] Z1
def Ac2:List Item:=stk [0,1,0,1,0,0,1,4,5] Z1
theorem Dv2 (C:A3) (R:A5) (c:Option Addr) (h:H) :
 A7 PR P8 C R B8 Tryz.f59 100000 true Z1 [(0,.pointer c)] h =
 R B8 Ac1 [(0,.pointer c),(5,.int .i64 0)] h:=by kernel_rfl
theorem Bb0 (C:A3) (R:A5) (c:Option Addr) (x5:Int) (h:H) :
 A7 PR P8 C R B8 Tryz.f59 100000 true Ac1 [(0,.pointer c),(5,.int .i64 x5)] h =
 cond (decide (x5<8))
 (bnd (C Z7 [.pointer c,.int .i64 x5] h) fun r w=>as2 r fun r_1 r_2=>aAgg r_1 fun _=>aInt .i64 r_2 fun _=>R B8 Ac1 [(0,.pointer c),(5,.int .i64 (IntKind.wrap .i64 (x5+1)))] w)
 (R B8 Ab5 [(0,.pointer c),(12,.int .i64 0)] h):=by kernel_rfl
theorem Bc3 (C:A3) (R:A5) (c:Option Addr) (x12:Int) (h:H) :
 A7 PR P8 C R B8 Tryz.f59 100000 true Ab5 [(0,.pointer c),(12,.int .i64 x12)] h =
 cond (decide (x12<12))
 (bnd (C P7 [.pointer c,.int .i64 x12] h) fun r w=>as2 r fun r_1 r_2=>aAgg r_1 fun _=>aInt .i64 r_2 fun _=>R B8 Ab5 [(0,.pointer c),(12,.int .i64 (IntKind.wrap .i64 (x12+1)))] w)
 (bnd (C Z0 [.pointer c,.int .i64 3] h) fun r_3 w1=>aInt .i64 r_3 fun x_2=>R B8 Ac2 [(0,.pointer c),(20,.int .i64 x_2),(21,.int .i64 0)] w1):=by kernel_rfl
theorem Bc7 (C:A3) (R:A5) (c:Option Addr) (x20:Int) (x21:Int) (h:H) :
 A7 PR P8 C R B8 Tryz.f59 100000 true Ac2 [(0,.pointer c),(20,.int .i64 x20),(21,.int .i64 x21)] h =
 cond (decide (x21<x20))
 (bnd (C P6 [.pointer c,.int .i64 x21] h) fun r w=>as2 r fun r_1 r_2=>aAgg r_1 fun _=>aInt .i64 r_2 fun _=>R B8 Ac2 [(0,.pointer c),(20,.int .i64 x20),(21,.int .i64 (IntKind.wrap .i64 (x21+1)))] w)
 (bnd (C P9 [.pointer c] h) fun r_3 w1=>as2 r_3 fun r_4 r_5=>aAgg r_4 fun _=>aInt .i64 r_5 fun _=>bnd (C Af7 [.pointer c] w1) fun r_6 w2=>as2 r_6 fun r_7 r_8=>aInt .i64 r_7 fun _=>aBool r_8 fun _=>some (.tuple ⟨[]⟩,w2)):=by kernel_rfl
def Ax6:Cuts:={ globs:=0,loops:=[],regs:=[],plans:=[] }
def Bl6:List Item:=A6 Tryz.f64
theorem Dw0 (C:A3) (R:A5) (c:Option Addr) (h:H) :
 A7 PR Ax6 C R P9 Tryz.f64 100000 true Bl6 [(0,.pointer c)] h =
 nw (.cells B7 false [.int .i64 0,.int .i64 0,.int .i64 0,.int .i64 0,.int .u8 0,.int .u8 0,.int .u8 0,.int .u8 0,.int .u8 0,.int .u8 0,.int .u8 0,.int .u8 0,.int .u8 0,.int .u8 0,.int .u8 0,.int .u8 0,.int .u8 0,.int .u8 0,.int .u8 0,.int .u8 0,.int .u8 0,.int .u8 0,.int .u8 0,.int .u8 0,.int .u8 0,.int .u8 0,.int .u8 0,.int .u8 0,.int .u8 0,.int .u8 0,.int .u8 0,.int .u8 0,.int .u8 0,.int .u8 0,.int .u8 0,.int .u8 0]) h fun b w=>bnd (C H6 [.pointer c,.agg ⟨[.int .i64 4,.int .i64 0]⟩,.func (.func At1) ⟨[]⟩ ⟨[]⟩] w) fun r w1=>as2 r fun r_1 r_2=>aAgg r_1 fun x=>aInt .i64 r_2 fun x_1=>ck (List.length x=36) (pAgg ⟨b,0,none⟩ x w1 fun w2=>gAgg ⟨b,0,none⟩ 36 w2 fun x_2=>some (.tuple ⟨[.agg ⟨x_2⟩,.int .i64 x_1]⟩,w2)):=by kernel_rfl
def Am5:Cuts:={ globs:=0,loops:=[],regs:=[],plans:=[] }
def Bc5:List Item:=A6 Tryz.f65
theorem Df8 (C:A3) (R:A5) (c:Option Addr) (p:List Value) (h:H) :
 A7 PR Am5 C R N3 Tryz.f65 100000 true Bc5 [(0,.pointer c),(1,.agg ⟨p⟩)] h =
 nw (.cells B7 false p) h fun b w=>gAgg ⟨b,0,none⟩ 36 w fun x=>bnd (C At5 [.agg ⟨x⟩] w) fun r w1=>as2 r fun r_1 r_2=>aSl r_1 fun x_1 xn xc=>aBool r_2 fun x_2=>bnd (C I7 [.pointer c,.agg ⟨[.int .i64 4,.int .i64 0]⟩,.slice x_1 xn xc,.bool x_2] w1) fun r_3 w2=>aBool r_3 fun x_3=>some (.bool x_3,w2):=by kernel_rfl
def A19:Cuts:={ globs:=0,loops:=[(3,[1,2,3,4]),(7,[1,2,3,4,5]),(13,[1,2,3,6])],regs:=[],plans:=[] }
def Bf3:List Item:=A6 Tryz.f68
def Bc9:List Item:=stk [0,1,0,1,0,0,1,4,5] Bf3
def At9:List Item:=stk [0,1,0,1,0,0,1,4,5,6,0,1,0,4,0,1,0,0,1,4,5] Bf3
def Bb1:List Item:=stk [0,1,0,1,0,1,0,0,1,4,5] Bf3
theorem Gs7 (C:A3) (R:A5) (p:List Value) (h:H) :
 A7 PR A19 C R I3 Tryz.f68 100000 true Bf3 [(0,.agg ⟨p⟩)] h =
 nw (.cells Bv2 false p) h fun b w=>nw (.cells D5 false [.slice none 0 0,.slice none 0 0,.slice none 0 0,.int .i64 0,.slice none 0 0]) w fun b_1 w1=>gInt .i64 (Addr.add ⟨b,0,none⟩ 2) w1 fun x=>nw (.cells D5 false [.slice none 0 0,.slice none 0 0,.slice none 0 0,.int .i64 0,.slice none 0 0]) w1 fun b_2 w2=>pAgg ⟨b_2,0,none⟩ [.slice none 0 0,.slice none 0 0,.slice none 0 0,.int .i64 x,.slice none 0 0] w2 fun w3=>R I3 Bc9 [(1,.pointer (some ⟨b,0,none⟩)),(2,.pointer (some ⟨b_1,0,none⟩)),(3,.pointer (some ⟨b_2,0,none⟩)),(4,.int .i64 0)] w3:=by kernel_rfl
theorem Dp2 (C:A3) (R:A5) (p:Addr) (x2:Addr) (b:Addr) (s:Int) (h:H) :
 A7 PR A19 C R I3 Tryz.f68 100000 true Bc9 [(1,.pointer (some p)),(2,.pointer (some x2)),(3,.pointer (some b)),(4,.int .i64 s)] h =
 gSl (Addr.add p 0) h fun _ xn _=>cond (decide (s<((xn:Nat):Int)))
 (gSl (Addr.add b 0) h fun x_1 xn_1 xc_1=>nw (.cells B3 false [.int .i64 20]) h fun b_1 w=>gCells (some ⟨b_1,0,none⟩) (1*1) w fun cs=>ckB (fitsOpen x_1 B3 w) (apd B3 1 x_1 xn_1 xc_1 1 cs w fun a an ac w1=>pV (Addr.add b 0) (.slice a an ac) w1 fun w2=>R I3 At9 [(1,.pointer (some p)),(2,.pointer (some x2)),(3,.pointer (some b)),(4,.int .i64 s),(5,.int .i64 0)] w2))
 (R I3 Bb1 [(1,.pointer (some p)),(2,.pointer (some x2)),(3,.pointer (some b)),(6,.int .i64 0)] h):=by kernel_rfl
theorem Dr4 (C:A3) (R:A5) (p:Addr) (x2:Addr) (b:Addr) (s:Int) (i:Int) (h:H) :
 A7 PR A19 C R I3 Tryz.f68 100000 true At9 [(1,.pointer (some p)),(2,.pointer (some x2)),(3,.pointer (some b)),(4,.int .i64 s),(5,.int .i64 i)] h =
 cond (decide (i<9))
 (gSl (Addr.add b 1) h fun x xn xc=>nw (.cells B3 false [.int .i64 s]) h fun b_1 w=>gCells (some ⟨b_1,0,none⟩) (1*1) w fun cs=>ckB (fitsOpen x B3 w) (apd B3 1 x xn xc 1 cs w fun a an ac w1=>pV (Addr.add b 1) (.slice a an ac) w1 fun w2=>R I3 At9 [(1,.pointer (some p)),(2,.pointer (some x2)),(3,.pointer (some b)),(4,.int .i64 s),(5,.int .i64 (IntKind.wrap .i64 (i+1)))] w2))
 (gSl (Addr.add b 2) h fun x_1 xn_1 xc_1=>nw (.cells B3 false [.int .i64 s]) h fun b_2 w3=>nw (.cells O9 false [.slice (some ⟨b_2,0,none⟩) 1 1]) w3 fun b_3 w4=>gCells (some ⟨b_3,0,none⟩) (1*1) w4 fun cs_1=>ckB (fitsOpen x_1 O9 w4) (apd O9 1 x_1 xn_1 xc_1 1 cs_1 w4 fun a_1 an_1 ac_1 w5=>pV (Addr.add b 2) (.slice a_1 an_1 ac_1) w5 fun w6=>gSl (Addr.add b 4) w6 fun x_2 xn_2 xc_2=>nw (.cells B3 false [.int .i64 s]) w6 fun b_4 w7=>nw (.cells H9 false [.int .i64 s,.int .i64 0,.int .i64 0,.int .i64 492,.slice (some ⟨b_4,0,none⟩) 1 1]) w7 fun b_5 w8=>gCells (some ⟨b_5,0,none⟩) (1*5) w8 fun cs_2=>ckB (fitsOpen x_2 H9 w8) (apd H9 5 x_2 xn_2 xc_2 1 cs_2 w8 fun a_2 an_2 ac_2 w9=>pV (Addr.add b 4) (.slice a_2 an_2 ac_2) w9 fun w10=>R I3 Bc9 [(1,.pointer (some p)),(2,.pointer (some x2)),(3,.pointer (some b)),(4,.int .i64 (IntKind.wrap .i64 (s+1)))] w10))):=by kernel_rfl
theorem Ds1 (C:A3) (R:A5) (p:Addr) (x2:Addr) (b:Addr) (i:Int) (h:H) :
 A7 PR A19 C R I3 Tryz.f68 100000 true Bb1 [(1,.pointer (some p)),(2,.pointer (some x2)),(3,.pointer (some b)),(6,.int .i64 i)] h =
 gSl (Addr.add p 1) h fun _ xn _=>cond (decide (i<((xn:Nat):Int)))
 (gSl (Addr.add p 1) h fun x_1 xn_1 _=>aSome x_1 fun p_1=>ck ((0:Int)≤i∧i<((xn_1:Nat):Int)) (gAgg (Addr.add (B1 p_1) (Int.toNat i*2)) 2 h fun x_2=>nw (.cells Bt8 false [.int .i64 0,.int .i64 0]) h fun b_1 w=>ck (List.length x_2=2) (pAgg ⟨b_1,0,none⟩ x_2 w fun w1=>gSl (Addr.add b 4) w1 fun x_3 xn_2 xc_2=>gInt .i64 (Addr.add ⟨b_1,0,none⟩ 0) w1 fun x_4=>gInt .i64 (Addr.add ⟨b_1,0,none⟩ 0) w1 fun x_5=>gInt .i64 (Addr.add ⟨b_1,0,none⟩ 1) w1 fun x_6=>nw (.cells B3 false [.int .i64 x_5,.int .i64 x_6]) w1 fun b_2 w2=>nw (.cells H9 false [.int .i64 x_4,.int .i64 (IntKind.wrap .i64 (8+i)),.int .i64 0,.int .i64 40,.slice (some ⟨b_2,0,none⟩) 2 2]) w2 fun b_3 w3=>gCells (some ⟨b_3,0,none⟩) (1*5) w3 fun cs=>ckB (fitsOpen x_3 H9 w3) (apd H9 5 x_3 xn_2 xc_2 1 cs w3 fun a an ac w4=>pV (Addr.add b 4) (.slice a an ac) w4 fun w5=>R I3 Bb1 [(1,.pointer (some p)),(2,.pointer (some x2)),(3,.pointer (some b)),(6,.int .i64 (IntKind.wrap .i64 (i+1)))] w5))))
 (gAgg b 5 h fun x_7=>ck (List.length x_7=5) (pAgg x2 x_7 h fun w6=>gAgg x2 5 w6 fun x_8=>some (.agg ⟨x_8⟩,w6))):=by kernel_rfl
def Bj1:Cuts:={ globs:=0,loops:=[],regs:=[],plans:=[(4,⟨[0,1,2,3,4,5,6,7,8,9,10,11,12,13,14,15,16],[0,1,3,7,0,0,32,0,128,0,512,2047,4095,8191,8191,16383,65535],[],[]⟩),(6,⟨[0,1,2,3,4,5,6,7,8,9,10,11,12],[0,1,3,7,0,0,32,0,128,0,512,2047,4095],[],[]⟩),(8,⟨[0,1,2,3,4,5,6,7,8,9,10,11,12,13,14,15,16],[0,1,3,7,0,0,32,0,128,0,512,0,2048,0,8192,32767,65535],[],[]⟩)] }
def Db1:List Item:=A6 Tryz.f74
theorem Eq5 (C:A3) (R:A5) (k:Option Addr) (env:Int) (c:List Value) (h:H) :
 A7 PR Bj1 C R Az8 Tryz.f74 100000 true Db1 [(0,.pointer k),(1,.int .i64 env),(2,.agg ⟨c⟩)] h =
 nw (.cells Aw0 false c) h fun b w=>gInt .i64 (Addr.add ⟨b,0,none⟩ 0) w fun x=>cond (x==1)
 (aSome k fun p=>gPtr (Addr.add p 5) w fun x_1=>gInt .i64 (Addr.add ⟨b,0,none⟩ 1) w fun x_2=>gInt .i64 (Addr.add ⟨b,0,none⟩ 2) w fun x_3=>gInt .i64 (Addr.add ⟨b,0,none⟩ 3) w fun x_4=>bnd (C Aa9 [.pointer x_1,.int .i64 env,.int .i64 x_2,.int .i64 x_3,.int .i64 x_4] w) fun r w1=>as2 r fun r_1 r_2=>aSl r_1 fun x_5 xn xc=>aInt .i64 r_2 fun x_6=>some (.tuple ⟨[.slice x_5 xn xc,.int .i64 x_6,.bool true]⟩,w1))
 (cond (x==2)
 (aSome k fun p_1=>gPtr (Addr.add p_1 5) w fun x_7=>gInt .i64 (Addr.add ⟨b,0,none⟩ 1) w fun x_8=>gInt .i64 (Addr.add ⟨b,0,none⟩ 2) w fun x_9=>gSl (Addr.add ⟨b,0,none⟩ 6) w fun x_10 xn_1 xc_1=>bnd (C Z8 [.pointer x_7,.int .i64 env,.int .i64 x_8,.int .i64 x_9,.slice x_10 xn_1 xc_1] w) fun r_3 w2=>aInt .i64 r_3 fun x_11=>some (.tuple ⟨[.slice none 0 0,.int .i64 x_11,.bool true]⟩,w2))
 (cond (x==3)
 (aSome k fun p_2=>gPtr (Addr.add p_2 5) w fun x_12=>gInt .i64 (Addr.add ⟨b,0,none⟩ 1) w fun x_13=>gInt .i64 (Addr.add ⟨b,0,none⟩ 2) w fun x_14=>gInt .i64 (Addr.add ⟨b,0,none⟩ 4) w fun x_15=>gInt .i64 (Addr.add ⟨b,0,none⟩ 5) w fun x_16=>gInt .i64 (Addr.add ⟨b,0,none⟩ 3) w fun x_17=>bnd (C Aj9 [.pointer x_12,.int .i64 env,.int .i64 x_13,.int .i64 x_14,.int .i64 x_15,.int .i64 x_16,.int .i64 x_17] w) fun r_4 w3=>aInt .i64 r_4 fun x_18=>some (.tuple ⟨[.slice none 0 0,.int .i64 x_18,.bool true]⟩,w3))
 (some (.tuple ⟨[.slice none 0 0,.int .i64 0,.bool false]⟩,w)))):=by kernel_rfl
def B96:Cuts:={ globs:=0,loops:=[],regs:=[],plans:=[(1,⟨[1,0,2,3,4,5,6],[0,0,3,7,7,31,63],[(0,[1])],[]⟩)] }
def D99:List Item:=A6 Tryz.f95
theorem Go2 (C:A3) (R:A5) (p:List Value) (h:H) :
 A7 PR B96 C R At5 Tryz.f95 100000 true D99 [(0,.agg ⟨p⟩)] h =
 nw (.cells B7 false p) h fun b w=>gAgg ⟨b,0,none⟩ 36 w fun x=>bnd (C Be5 [] w) fun r w1=>aPtr r fun x_1=>gAgg ⟨b,0,none⟩ 36 w1 fun x_2=>same (.agg ⟨x⟩) (.agg ⟨x_2⟩) (bnd (C S8 [.pointer x_1,.agg ⟨x⟩] w1) fun r_1 w2=>as2 r_1 fun r_2 r_3=>aSl r_2 fun x_3 xn xc=>aBool r_3 fun x_4=>some (.tuple ⟨[.slice x_3 xn xc,.bool x_4]⟩,w2)):=by kernel_rfl
def Em1:Cuts:={ globs:=0,loops:=[],regs:=[],plans:=[] }
def Gg0:List Item:=A6 Tryz.f102
theorem Ho8 (C:A3) (R:A5) (p:List Value) (h:H) :
 A7 PR Em1 C R Bs1 Tryz.f102 100000 true Gg0 [(0,.agg ⟨p⟩)] h =
 nw (.cells B7 false p) h fun b w=>gInt .i64 (Addr.add ⟨b,0,none⟩ 0) w fun x=>bnd (C Ap5 [.int .i64 x,.int .i64 31] w) fun r w1=>aBool r fun x_1=>bnd (cond x_1 (gInt .i64 (Addr.add ⟨b,0,none⟩ 1) w1 fun x_2=>bnd (C Ap5 [.int .i64 x_2,.int .i64 32] w1) fun r_1 w2=>aBool r_1 fun x_3=>some (x_3,w2)) (some (false,w1))) fun c w3=>bnd (cond c (gInt .i64 (Addr.add ⟨b,0,none⟩ 2) w3 fun x_4=>bnd (C Ap5 [.int .i64 x_4,.int .i64 8] w3) fun r_2 w4=>aBool r_2 fun x_5=>some (x_5,w4)) (some (false,w3))) fun c_1 w5=>bnd (cond c_1 (gInt .i64 (Addr.add ⟨b,0,none⟩ 3) w5 fun x_6=>bnd (C Ap5 [.int .i64 x_6,.int .i64 8] w5) fun r_3 w6=>aBool r_3 fun x_7=>some (x_7,w6)) (some (false,w5))) fun c_2 w7=>some (.bool c_2,w7):=by kernel_rfl
def By1:Cuts:={ globs:=0,loops:=[(5,[1,3,9,10])],regs:=[],plans:=[] }
def Dk1:List Item:=A6 Tryz.f104
def Bc2:List Item:=stk [0,1,0,1,0,1,0,0,1,4,5] Dk1
theorem Gr3 (C:A3) (R:A5) (p:List Value) (h:H) :
 A7 PR By1 C R Aj2 Tryz.f104 100000 true Dk1 [(0,.agg ⟨p⟩)] h =
 nw (.cells B7 false p) h fun b w=>gAgg ⟨b,0,none⟩ 36 w fun x=>bnd (C Bs1 [.agg ⟨x⟩] w) fun r w1=>aBool r fun x_1=>cond (!x_1)
 (some (.slice none 0 0,w1))
 (gInt .i64 (Addr.add ⟨b,0,none⟩ 1) w1 fun x_2=>R Aj2 Bc2 [(1,.pointer (some ⟨b,0,none⟩)),(3,.slice none 0 0),(9,.int .i64 x_2),(10,.int .i64 0)] w1):=by kernel_rfl
theorem Dp9 (C:A3) (R:A5) (p:Addr) (out:Option Addr) (outn outc:Nat) (x9:Int) (x10:Int) (h:H) :
 A7 PR By1 C R Aj2 Tryz.f104 100000 true Bc2 [(1,.pointer (some p)),(3,.slice out outn outc),(9,.int .i64 x9),(10,.int .i64 x10)] h =
 cond (decide (x10<x9))
 (gInt .i64 (Addr.add p 0) h fun x=>ck ((0:Int)≤Int.tmod (IntKind.wrap .i64 (x+x10)) 32∧Int.tmod (IntKind.wrap .i64 (x+x10)) 32<((32:Nat):Int)) (gInt .u8 (Addr.add (Addr.add p 4) (Int.toNat (Int.tmod (IntKind.wrap .i64 (x+x10)) 32)*1)) h fun x_1=>nw (.cells A4 false [.int .u8 x_1]) h fun b w=>gCells (some ⟨b,0,none⟩) (1*1) w fun cs=>ckB (fitsOpen out A4 w) (apd A4 1 out outn outc 1 cs w fun a an ac w1=>R Aj2 Bc2 [(1,.pointer (some p)),(3,.slice a an ac),(9,.int .i64 x9),(10,.int .i64 (IntKind.wrap .i64 (x10+1)))] w1)))
 (some (.slice out outn outc,h)):=by kernel_rfl
def Ac9:Cuts:={ globs:=0,loops:=[(2,[0,1,7,8])],regs:=[],plans:=[] }
def Aq4:List Item:=A6 Tryz.f106
def Y2:List Item:=stk [0,1,0,0,1,4,5] Aq4
theorem Do2 (C:A3) (R:A5) (s:Option Addr) (sn sc:Nat) (v:Int) (h:H) :
 A7 PR Ac9 C R H0 Tryz.f106 100000 true Aq4 [(0,.slice s sn sc),(1,.int .i64 v)] h =
 R H0 Y2 [(0,.slice s sn sc),(1,.int .i64 v),(7,.int .i64 ((sn:Nat):Int)),(8,.int .i64 0)] h:=by kernel_rfl
theorem A39 (C:A3) (R:A5) (s:Option Addr) (sn sc:Nat) (v:Int) (x7:Int) (x8:Int) (h:H) :
 A7 PR Ac9 C R H0 Tryz.f106 100000 true Y2 [(0,.slice s sn sc),(1,.int .i64 v),(7,.int .i64 x7),(8,.int .i64 x8)] h =
 cond (decide (x8<x7))
 (aSome s fun p=>ck ((0:Int)≤x8∧x8<((sn:Nat):Int)) (gInt .i64 (Addr.add (B1 p) (Int.toNat x8*1)) h fun x=>cond (v==x)
 (some (.int .i64 x8,h))
 (R H0 Y2 [(0,.slice s sn sc),(1,.int .i64 v),(7,.int .i64 x7),(8,.int .i64 (IntKind.wrap .i64 (x8+1)))] h)))
 (some (.int .i64 (-1),h)):=by kernel_rfl
def Bd8:Cuts:={ globs:=0,loops:=[(7,[1,3,52,53,54]),(13,[1,3,63,64,65])],regs:=[],plans:=[] }
def Bv9:List Item:=A6 Tryz.f118
def Bb8:List Item:=stk [0,1,0,1,0,1,0,1,0,0,1,4,5] Bv9
def Bb2:List Item:=stk [0,1,0,1,0,1,0,1,0,1,0,0,1,4,5] Bv9
theorem Gw6 (C:A3) (R:A5) (c:List Value) (h:H) :
 A7 PR Bd8 C R P4 Tryz.f118 100000 true Bv9 [(0,.agg ⟨c⟩)] h =
 nw (.cells D5 false c) h fun b w=>gSl (Addr.add ⟨b,0,none⟩ 0) w fun _ xn _=>bnd (cond (decide (((xn:Nat):Int)<1)) (some (true,w)) (gSl (Addr.add ⟨b,0,none⟩ 0) w fun _ xn_1 _=>some (decide (((xn_1:Nat):Int)>4),w))) fun c_1 w1=>bnd (cond c_1 (some (true,w1)) (gSl (Addr.add ⟨b,0,none⟩ 1) w1 fun _ xn_2 _=>some (decide (((xn_2:Nat):Int)>40),w1))) fun c_2 w2=>bnd (cond c_2 (some (true,w2)) (gSl (Addr.add ⟨b,0,none⟩ 2) w2 fun _ xn_3 _=>some (decide (((xn_3:Nat):Int)>8),w2))) fun c_3 w3=>bnd (cond c_3 (some (true,w3)) (gSl (Addr.add ⟨b,0,none⟩ 4) w3 fun _ xn_4 _=>some (decide (((xn_4:Nat):Int)>16),w3))) fun c_4 w4=>bnd (cond c_4 (some (true,w4)) (gInt .i64 (Addr.add ⟨b,0,none⟩ 3) w4 fun x_5=>some (decide (x_5<1),w4))) fun c_5 w5=>bnd (cond c_5 (some (true,w5)) (gInt .i64 (Addr.add ⟨b,0,none⟩ 3) w5 fun x_6=>some (decide (x_6>1000),w5))) fun c_6 w6=>cond c_6
 (some (.bool false,w6))
 (gSl (Addr.add ⟨b,0,none⟩ 1) w6 fun x_7 xn_5 xc_5=>bnd (C E4 [.slice x_7 xn_5 xc_5,.func (.func G3) ⟨[]⟩ ⟨[.pointer (some ⟨b,0,none⟩)]⟩] w6) fun r w7=>aBool r fun x_8=>cond x_8
 (some (.bool false,w7))
 (gSl (Addr.add ⟨b,0,none⟩ 2) w7 fun x_9 xn_6 xc_6=>R P4 Bb8 [(1,.pointer (some ⟨b,0,none⟩)),(3,.func (.func G3) ⟨[]⟩ ⟨[.pointer (some ⟨b,0,none⟩)]⟩),(52,.slice x_9 xn_6 xc_6),(53,.int .i64 ((xn_6:Nat):Int)),(54,.int .i64 0)] w7)):=by kernel_rfl
theorem Ds4 (C:A3) (R:A5) (c:Addr) (nonev:Addr) (x52:Option Addr) (x52n x52c:Nat) (x53:Int) (x54:Int) (h:H) :
 A7 PR Bd8 C R P4 Tryz.f118 100000 true Bb8 [(1,.pointer (some c)),(3,.func (.func G3) ⟨[]⟩ ⟨[.pointer (some nonev)]⟩),(52,.slice x52 x52n x52c),(53,.int .i64 x53),(54,.int .i64 x54)] h =
 cond (decide (x54<x53))
 (aSome x52 fun p=>ck ((0:Int)≤x54∧x54<((x52n:Nat):Int)) (gSl (Addr.add (B1 p) (Int.toNat x54*1)) h fun x xn xc=>bnd (C E4 [.slice x xn xc,.func (.func G3) ⟨[]⟩ ⟨[.pointer (some nonev)]⟩] h) fun r w=>aBool r fun x_1=>cond x_1
 (some (.bool false,w))
 (R P4 Bb8 [(1,.pointer (some c)),(3,.func (.func G3) ⟨[]⟩ ⟨[.pointer (some nonev)]⟩),(52,.slice x52 x52n x52c),(53,.int .i64 x53),(54,.int .i64 (IntKind.wrap .i64 (x54+1)))] w)))
 (gSl (Addr.add c 4) h fun x_2 xn_1 xc_1=>R P4 Bb2 [(1,.pointer (some c)),(3,.func (.func G3) ⟨[]⟩ ⟨[.pointer (some nonev)]⟩),(63,.slice x_2 xn_1 xc_1),(64,.int .i64 ((xn_1:Nat):Int)),(65,.int .i64 0)] h):=by kernel_rfl
theorem Dq1 (C:A3) (R:A5) (c:Addr) (nonev:Addr) (x63:Option Addr) (x63n x63c:Nat) (x64:Int) (x65:Int) (h:H) :
 A7 PR Bd8 C R P4 Tryz.f118 100000 true Bb2 [(1,.pointer (some c)),(3,.func (.func G3) ⟨[]⟩ ⟨[.pointer (some nonev)]⟩),(63,.slice x63 x63n x63c),(64,.int .i64 x64),(65,.int .i64 x65)] h =
 cond (decide (x65<x64))
 (aSome x63 fun p=>ck ((0:Int)≤x65∧x65<((x63n:Nat):Int)) (gAgg (Addr.add (B1 p) (Int.toNat x65*5)) 5 h fun x=>nw (.cells H9 false [.int .i64 0,.int .i64 0,.int .i64 0,.int .i64 0,.slice none 0 0]) h fun b w=>ck (List.length x=5) (pAgg ⟨b,0,none⟩ x w fun w1=>gAgg c 5 w1 fun x_1=>gAgg ⟨b,0,none⟩ 5 w1 fun x_2=>bnd (C Bx0 [.agg ⟨x_1⟩,.agg ⟨x_2⟩] w1) fun r w2=>aBool r fun x_3=>bnd (cond (!x_3) (some (true,w2)) (gSl (Addr.add ⟨b,0,none⟩ 4) w2 fun x_4 xn xc=>bnd (C E4 [.slice x_4 xn xc,.func (.func G3) ⟨[]⟩ ⟨[.pointer (some nonev)]⟩] w2) fun r_1 w3=>aBool r_1 fun x_5=>some (x_5,w3))) fun c_1 w4=>cond c_1
 (some (.bool false,w4))
 (R P4 Bb2 [(1,.pointer (some c)),(3,.func (.func G3) ⟨[]⟩ ⟨[.pointer (some nonev)]⟩),(63,.slice x63 x63n x63c),(64,.int .i64 x64),(65,.int .i64 (IntKind.wrap .i64 (x65+1)))] w4))))
 (some (.bool true,h)):=by kernel_rfl
def Aq0:Cuts:={ globs:=0,loops:=[],regs:=[],plans:=[] }
def Bf1:List Item:=A6 Tryz.f120
theorem Di1 (C:A3) (R:A5) (s:Option Addr) (sn sc:Nat) (h:H) :
 A7 PR Aq0 C R V0 Tryz.f120 100000 true Bf1 [(0,.slice s sn sc)] h =
 cond s.isNone
 (some (.slice none 0 0,h))
 (nw (.cells B3 false []) h fun b w=>gCells s (sn*1) w fun cs=>ckB (fitsOpen (some ⟨b,0,none⟩) B3 w) (apd B3 1 (some ⟨b,0,none⟩) 0 0 sn cs w fun a an ac w1=>some (.slice a an ac,w1))):=by kernel_rfl
def B51:Cuts:={ globs:=0,loops:=[(3,[3,12,13,14])],regs:=[],plans:=[(5,⟨[0,1,2,3,4,5,6,7,8,9,10,11,12,13],[0,0,2,6,14,0,32,96,224,480,1022,2047,4095,8191],[],[]⟩)] }
def Dw8:List Item:=A6 Tryz.f123
def Bh0:List Item:=stk [0,1,0,1,0,0,1,4,5] Dw8
theorem G42 (C:A3) (R:A5) (frames:Option Addr) (framesn framesc:Nat) (h:H) :
 A7 PR B51 C R Ao9 Tryz.f123 100000 true Dw8 [(0,.slice frames framesn framesc)] h =
 nw (.cells At2 false [.slice none 0 0]) h fun b w=>ckB (fitsOpen frames B3 w) (ck ((0:Int)≤mm2 false ((framesn:Nat):Int) 4∧mm2 false ((framesn:Nat):Int) 4≤((framesc:Nat):Int)) (R Ao9 Bh0 [(3,.pointer (some ⟨b,0,none⟩)),(12,.slice (G9 frames (decide (0<framesc)) (0*1)) ((Int.toNat (mm2 false ((framesn:Nat):Int) 4))-0) (framesc-0)),(13,.int .i64 (((Int.toNat (mm2 false ((framesn:Nat):Int) 4))-0:Nat):Int)),(14,.int .i64 0)] w)):=by kernel_rfl
theorem Dx9 (C:A3) (R:A5) (q:Addr) (x12:Option Addr) (x12n x12c:Nat) (x13:Int) (x14:Int) (h:H) :
 A7 PR B51 C R Ao9 Tryz.f123 100000 true Bh0 [(3,.pointer (some q)),(12,.slice x12 x12n x12c),(13,.int .i64 x13),(14,.int .i64 x14)] h =
 cond (decide (x14<x13))
 (aSome x12 fun p=>ck ((0:Int)≤x14∧x14<((x12n:Nat):Int)) (gInt .i64 (Addr.add (B1 p) (Int.toNat x14*1)) h fun x=>gSl (Addr.add q 0) h fun x_1 xn xc=>ck ((0:Int)≤mm2 false (mm2 true x 0) 64∧(mm2 false (mm2 true x 0) 64:Int)≤mm2 false (mm2 true x 0) 64∧mm2 false (mm2 true x 0) 64≤(B0:Int)) (nw (.cells B3 false (I1 (Int.toNat (mm2 false (mm2 true x 0) 64)) [.int .i64 0])) h fun b w=>nw (.cells O9 false [.slice (some ⟨b,0,none⟩) (Int.toNat (mm2 false (mm2 true x 0) 64)) (Int.toNat (mm2 false (mm2 true x 0) 64))]) w fun b_1 w1=>gCells (some ⟨b_1,0,none⟩) (1*1) w1 fun cs=>ckB (fitsOpen x_1 O9 w1) (apd O9 1 x_1 xn xc 1 cs w1 fun a an ac w2=>pV (Addr.add q 0) (.slice a an ac) w2 fun w3=>R Ao9 Bh0 [(3,.pointer (some q)),(12,.slice x12 x12n x12c),(13,.int .i64 x13),(14,.int .i64 (IntKind.wrap .i64 (x14+1)))] w3))))
 (some (.pointer (some q),h)):=by kernel_rfl
def Dl0:Cuts:={ globs:=0,loops:=[],regs:=[],plans:=[] }
def Ed2:List Item:=A6 Tryz.f124
theorem Gr4 (C:A3) (R:A5) (m:Option Addr) (s:Option Addr) (h:H) :
 A7 PR Dl0 C R By7 Tryz.f124 100000 true Ed2 [(0,.pointer m),(1,.pointer s)] h =
 nw (.cells Dh5 false [.pointer m,.pointer s,.slice none 0 0]) h fun b w=>some (.pointer (some ⟨b,0,none⟩),w):=by kernel_rfl
def Bc0:Cuts:={ globs:=0,loops:=[(3,[0,3,4])],regs:=[],plans:=[(5,⟨[0,1,2,3,4,5,6,7,8,9,10,11,12,13,14,15,16],[0,0,2,6,14,0,0,96,224,480,992,2016,4064,8190,16383,32767,65535],[],[]⟩)] }
def Bx1:List Item:=A6 Tryz.f129
def Av2:List Item:=stk [0,1,0,1,0,0,1,4,5] Bx1
theorem E40 (C:A3) (R:A5) (l:Option Addr) (ln lc:Nat) (h:H) :
 A7 PR Bc0 C R Y1 Tryz.f129 100000 true Bx1 [(0,.slice l ln lc)] h =
 nw (.cells Eh1 false [.slice none 0 0]) h fun b w=>R Y1 Av2 [(0,.slice l ln lc),(3,.pointer (some ⟨b,0,none⟩)),(4,.int .i64 0)] w:=by kernel_rfl
theorem B59 (C:A3) (R:A5) (l:Option Addr) (ln lc:Nat) (q:Addr) (i:Int) (h:H) :
 A7 PR Bc0 C R Y1 Tryz.f129 100000 true Av2 [(0,.slice l ln lc),(3,.pointer (some q)),(4,.int .i64 i)] h =
 bnd (cond (decide (i<((ln:Nat):Int))) (some (decide (i<4),h)) (some (false,h))) fun c w=>cond c
 (gSl (Addr.add q 0) w fun x xn xc=>aSome l fun p=>ck ((0:Int)≤i∧i<((ln:Nat):Int)) (gInt .i64 (Addr.add (B1 p) (Int.toNat i*1)) w fun x_1=>ck ((0:Int)≤mm2 false (mm2 true x_1 0) 64∧(mm2 false (mm2 true x_1 0) 64:Int)≤mm2 false (mm2 true x_1 0) 64∧mm2 false (mm2 true x_1 0) 64≤(B0:Int)) (nw (.cells E30 false (I1 (Int.toNat (mm2 false (mm2 true x_1 0) 64)) [.bool false])) w fun b w1=>nw (.cells Dl5 false [.slice (some ⟨b,0,none⟩) (Int.toNat (mm2 false (mm2 true x_1 0) 64)) (Int.toNat (mm2 false (mm2 true x_1 0) 64))]) w1 fun b_1 w2=>gCells (some ⟨b_1,0,none⟩) (1*1) w2 fun cs=>ckB (fitsOpen x Dl5 w2) (apd Dl5 1 x xn xc 1 cs w2 fun a an ac w3=>pV (Addr.add q 0) (.slice a an ac) w3 fun w4=>R Y1 Av2 [(0,.slice l ln lc),(3,.pointer (some q)),(4,.int .i64 (IntKind.wrap .i64 (i+1)))] w4))))
 (some (.pointer (some q),w)):=by kernel_rfl
def Be0:Cuts:={ globs:=0,loops:=[],regs:=[],plans:=[(5,⟨[0,1,2,3,4,5,6,7,9,10,11,12,13,14,8,15,16,17,18,19,20,21],[0,0,0,4,12,28,0,64,252,0,512,1536,3584,0,8192,32764,65533,131069,262141,524287,1048575,2097151],[(8,[12])],[]⟩)] }
def B58:List Item:=A6 Tryz.f133
theorem Ek4 (C:A3) (R:A5) (r:Option Addr) (lo:Int) (n:Int) (h:H) :
 A7 PR Be0 C R Av7 Tryz.f133 100000 true B58 [(0,.pointer r),(1,.int .i64 lo),(2,.int .i64 n)] h =
 aSome r fun p=>gSl (Addr.add p 0) h fun _ xn _=>bnd (C Ae6 [.int .i64 lo,.int .i64 n,.int .i64 ((xn:Nat):Int)] h) fun r_1 w=>aBool r_1 fun x_1=>cond (!x_1)
 (some (.tuple ⟨[.int .i64 0,.int .i64 1]⟩,w))
 (aSome r fun p_1=>gSl (Addr.add p_1 1) w fun _ xn_1 _=>cond (decide (((xn_1:Nat):Int)≥32))
 (some (.tuple ⟨[.int .i64 0,.int .i64 4]⟩,w))
 (aSome r fun p_2=>gSl (Addr.add p_2 1) w fun x_3 xn_2 xc_2=>nw (.cells B3 false [.int .i64 lo]) w fun b w1=>aSome r fun p_3=>gSl (Addr.add p_3 2) w1 fun x_4 xn_3 xc_3=>nw (.cells B3 false [.int .i64 n]) w1 fun b_1 w2=>gCells (some ⟨b,0,none⟩) (1*1) w2 fun cs=>ckB (fitsOpen x_3 B3 w2) (apd B3 1 x_3 xn_2 xc_2 1 cs w2 fun a an ac w3=>gSl (Addr.add p_3 2) w3 fun x_5 xn_4 xc_4=>same (.slice x_4 xn_3 xc_3) (.slice x_5 xn_4 xc_4) (gCells (some ⟨b_1,0,none⟩) (1*1) w3 fun cs_1=>ckB (fitsOpen x_4 B3 w3) (apd B3 1 x_4 xn_3 xc_3 1 cs_1 w3 fun a_1 an_1 ac_1 w4=>aSome r fun p_4=>pV (Addr.add p_4 1) (.slice a an ac) w4 fun w5=>aSome r fun p_5=>pV (Addr.add p_5 2) (.slice a_1 an_1 ac_1) w5 fun w6=>aSome r fun p_6=>gSl (Addr.add p_6 1) w6 fun _ xn_5 _=>some (.tuple ⟨[.int .i64 (IntKind.wrap .i64 (((xn_5:Nat):Int)-1)),.int .i64 0]⟩,w6)))))):=by kernel_rfl
def Bj0:Cuts:={ globs:=0,loops:=[],regs:=[],plans:=[] }
def Db4:List Item:=A6 Tryz.f136
theorem Er5 (C:A3) (R:A5) (k:Option Addr) (h:H) :
 A7 PR Bj0 C R Ak9 Tryz.f136 100000 true Db4 [(0,.pointer k)] h =
 aSome k fun p=>gPtr (Addr.add p 3) h fun x=>some (.pointer x,h):=by kernel_rfl
def A35:Cuts:={ globs:=0,loops:=[],regs:=[],plans:=[] }
def Bs0:List Item:=A6 Tryz.f139
theorem Dx2 (C:A3) (R:A5) (r:Option Addr) (env:Int) (name:Int) (atv:Int) (n:Int) (h:H) :
 A7 PR A35 C R Aa9 Tryz.f139 100000 true Bs0 [(0,.pointer r),(1,.int .i64 env),(2,.int .i64 name),(3,.int .i64 atv),(4,.int .i64 n)] h =
 bnd (C Z5 [.pointer r,.int .i64 env,.int .i64 name,.int .i64 1,.int .i64 atv,.int .i64 n] h) fun r_1 w=>as2 r_1 fun r_2 r_3=>aInt .i64 r_2 fun x=>aInt .i64 r_3 fun x_1=>cond (x_1 != 0)
 (some (.tuple ⟨[.slice none 0 0,.int .i64 x_1]⟩,w))
 (aSome r fun p=>gPtr (Addr.add p 0) w fun x_2=>bnd (C Bg2 [.pointer x_2,.int .i64 x,.int .i64 n] w) fun r_4 w1=>as2 r_4 fun r_5 r_6=>aSl r_5 fun x_3 xn xc=>aInt .i64 r_6 fun x_4=>some (.tuple ⟨[.slice x_3 xn xc,.int .i64 x_4]⟩,w1)):=by kernel_rfl
def Bd3:Cuts:={ globs:=0,loops:=[],regs:=[],plans:=[] }
def B80:List Item:=A6 Tryz.f142
theorem Ee3 (C:A3) (R:A5) (s:Option Addr) (env:Int) (name:Int) (to:Int) (give:Int) (lo:Int) (n:Int) (h:H) :
 A7 PR Bd3 C R Au7 Tryz.f142 100000 true B80 [(0,.pointer s),(1,.int .i64 env),(2,.int .i64 name),(3,.int .i64 to),(4,.int .i64 give),(5,.int .i64 lo),(6,.int .i64 n)] h =
 bnd (C Aq1 [.pointer s,.int .i64 env,.int .i64 name] h) fun r w=>as2 r fun r_1 r_2=>aAgg r_1 fun x=>aInt .i64 r_2 fun x_1=>nw (.cells N9 false [.int .i64 0,.int .i64 0,.int .i64 0,.int .i64 0,.int .i64 0,.int .i64 0]) w fun b w1=>ck (List.length x=6) (pAgg ⟨b,0,none⟩ x w1 fun w2=>cond (x_1 != 0)
 (some (.tuple ⟨[.int .i64 0,.int .i64 x_1]⟩,w2))
 (gInt .i64 (Addr.add ⟨b,0,none⟩ 1) w2 fun x_2=>bnd (cond ((D0 .i64 x_2 4)==0) (some (true,w2)) (gInt .i64 (Addr.add ⟨b,0,none⟩ 1) w2 fun x_3=>some ((Em8 .i64 give x_3) != 0,w2))) fun c w3=>cond c
 (some (.tuple ⟨[.int .i64 0,.int .i64 3]⟩,w3))
 (bnd (C Ad5 [.pointer s,.int .i64 to] w3) fun r_3 w4=>aBool r_3 fun x_4=>bnd (cond (!x_4) (some (true,w4)) (some (decide (lo<0),w4))) fun c_1 w5=>bnd (cond c_1 (some (true,w5)) (some (decide (n<0),w5))) fun c_2 w6=>bnd (cond c_2 (some (true,w6)) (gInt .i64 (Addr.add ⟨b,0,none⟩ 3) w6 fun x_5=>some (decide (lo>x_5),w6))) fun c_3 w7=>bnd (cond c_3 (some (true,w7)) (gInt .i64 (Addr.add ⟨b,0,none⟩ 3) w7 fun x_6=>some (decide (n>(IntKind.wrap .i64 (x_6-lo))),w7))) fun c_4 w8=>cond c_4
 (some (.tuple ⟨[.int .i64 0,.int .i64 1]⟩,w8))
 (gInt .i64 (Addr.add ⟨b,0,none⟩ 0) w8 fun x_7=>gInt .i64 (Addr.add ⟨b,0,none⟩ 2) w8 fun x_8=>bnd (C Aq8 [.pointer s,.int .i64 to,.agg ⟨[.int .i64 x_7,.int .i64 give,.int .i64 (IntKind.wrap .i64 (x_8+lo)),.int .i64 n,.int .i64 env,.int .i64 name]⟩] w8) fun r_4 w9=>as2 r_4 fun r_5 r_6=>aInt .i64 r_5 fun x_9=>aInt .i64 r_6 fun x_10=>some (.tuple ⟨[.int .i64 x_9,.int .i64 x_10]⟩,w9))))):=by kernel_rfl
def Bd2:Cuts:={ globs:=0,loops:=[],regs:=[],plans:=[] }
def B75:List Item:=A6 Tryz.f145
theorem Ei6 (C:A3) (R:A5) (q:Option Addr) (s:Int) (k:Int) (h:H) :
 A7 PR Bd2 C R Au0 Tryz.f145 100000 true B75 [(0,.pointer q),(1,.int .i64 s),(2,.int .i64 k)] h =
 bnd (C Ag2 [.pointer q,.int .i64 s] h) fun r w=>aBool r fun x=>cond (!x)
 (some (.int .i64 1,w))
 (bnd (C Av0 [.pointer q,.int .i64 s,.int .i64 k] w) fun r_1 w1=>aBool r_1 fun x_1=>cond (!x_1)
 (some (.int .i64 5,w1))
 (aSome q fun p=>gSl (Addr.add p 0) w1 fun x_2 xn _=>aSome x_2 fun p_1=>ck ((0:Int)≤s∧s<((xn:Nat):Int)) (gSl (Addr.add (B1 p_1) (Int.toNat s*1)) w1 fun x_3 xn_1 _=>aSome x_3 fun p_2=>ck ((0:Int)≤k∧k<((xn_1:Nat):Int)) (pV (Addr.add (B1 p_2) (Int.toNat k*1)) (.int .i64 0) w1 fun w2=>some (.int .i64 0,w2))))):=by kernel_rfl
def Br4:Cuts:={ globs:=0,loops:=[],regs:=[],plans:=[(4,⟨[0,1,2,3,4,5,6,7,8,9,10,11],[0,1,3,7,0,31,63,0,128,0,1023,2047],[],[]⟩)] }
def Dh6:List Item:=A6 Tryz.f152
theorem E10 (C:A3) (R:A5) (s:Option Addr) (e:Int) (c:List Value) (h:H) :
 A7 PR Br4 C R A61 Tryz.f152 100000 true Dh6 [(0,.pointer s),(1,.int .i64 e),(2,.agg ⟨c⟩)] h =
 nw (.cells N9 false c) h fun b w=>aSome s fun p=>gSl (Addr.add p 0) w fun x xn _=>aSome x fun p_1=>ck ((0:Int)≤e∧e<((xn:Nat):Int)) (gPtr (Addr.add (B1 p_1) (Int.toNat e*1)) w fun x_1=>bnd (C V4 [.pointer x_1] w) fun r w1=>as2 r fun r_1 r_2=>aInt .i64 r_1 fun x_2=>aBool r_2 fun x_3=>cond (!x_3)
 (some (.tuple ⟨[.int .i64 0,.int .i64 4]⟩,w1))
 (aSome s fun p_2=>gSl (Addr.add p_2 1) w1 fun x_4 xn_1 _=>aSome x_4 fun p_3=>ck ((0:Int)≤e∧e<((xn_1:Nat):Int)) (gSl (Addr.add (B1 p_3) (Int.toNat e*1)) w1 fun x_5 xn_2 _=>gAgg ⟨b,0,none⟩ 6 w1 fun x_6=>aSome x_5 fun p_4=>ck ((0:Int)≤D0 .i64 x_2 255∧D0 .i64 x_2 255<((xn_2:Nat):Int)) (ck (List.length x_6=6) (pAgg (Addr.add (B1 p_4) (Int.toNat (D0 .i64 x_2 255)*6)) x_6 w1 fun w2=>some (.tuple ⟨[.int .i64 x_2,.int .i64 0]⟩,w2)))))):=by kernel_rfl
def B91:Cuts:={ globs:=0,loops:=[],regs:=[],plans:=[] }
def Eb8:List Item:=A6 Tryz.f160
theorem Gm3 (C:A3) (R:A5) (b:Option Addr) (bn bc:Nat) (h:H) :
 A7 PR B91 C R Ak5 Tryz.f160 100000 true Eb8 [(0,.slice b bn bc)] h =
 bnd (C O4 [.slice b bn bc,.func (.func Ad8) ⟨[]⟩ ⟨[]⟩] h) fun r w=>aBool r fun x=>some (.bool (!x),w):=by kernel_rfl
def B99:Cuts:={ globs:=0,loops:=[],regs:=[],plans:=[] }
def D92:List Item:=A6 Tryz.f161
theorem Gn6 (C:A3) (R:A5)  (h:H) :
 A7 PR B99 C R A88 Tryz.f161 100000 true D92 [] h =
 bnd (C Am3 [.int .i64 8,.func (.func Ap6) ⟨[]⟩ ⟨[]⟩,.func (.func Ap0) ⟨[]⟩ ⟨[]⟩] h) fun r w=>aPtr r fun x=>some (.pointer x,w):=by kernel_rfl
def Af1:Cuts:={ globs:=0,loops:=[],regs:=[],plans:=[(2,⟨[0,1,2,3,4,5,6,7,8,9,10,11,12,13,14],[0,1,3,7,15,31,63,127,255,511,63,63,4095,8191,16383],[],[]⟩)] }
def Ay4:List Item:=A6 Tryz.f169
theorem Bz5 (C:A3) (R:A5) (c:Option Addr) (v:List Value) (h:H) :
 A7 PR Af1 C R S6 Tryz.f169 100000 true Ay4 [(0,.pointer c),(1,.agg ⟨v⟩)] h =
 nw (.cells D6 false v) h fun b w=>aSome c fun p=>gInt .i64 (Addr.add p 0) w fun x=>ck ((0:Int)≤x∧(x:Int)≤x∧x≤(B0:Int)) (nw (.cells A4 false (I1 (Int.toNat x) [.int .u8 0])) w fun b_1 w1=>aSome c fun p_1=>gFv (Addr.add p_1 1) w1 fun x_1=>isNilF x_1 fun b_2=>bnd (cond b_2 (some (true,w1)) (aSome c fun p_2=>gFv (Addr.add p_2 1) w1 fun x_2=>gAgg ⟨b,0,none⟩ 16 w1 fun x_3=>aFn x_2 fun g fi cp=>bnd (C g (fi++([.agg ⟨x_3⟩,.slice (some ⟨b_1,0,none⟩) (Int.toNat x) (Int.toNat x)]++cp)) w1) fun r w2=>aBool r fun x_4=>some (!x_4,w2))) fun c_1 w3=>cond c_1
 (some (.tuple ⟨[.slice none 0 0,.bool false]⟩,w3))
 (some (.tuple ⟨[.slice (some ⟨b_1,0,none⟩) (Int.toNat x) (Int.toNat x),.bool true]⟩,w3))):=by kernel_rfl
def Dm0:Cuts:={ globs:=0,loops:=[],regs:=[],plans:=[] }
def Ei9:List Item:=A6 Tryz.f177
theorem Gq8 (C:A3) (R:A5) (c:List Value) (x:List Value) (h:H) :
 A7 PR Dm0 C R Bx0 Tryz.f177 100000 true Ei9 [(0,.agg ⟨c⟩),(1,.agg ⟨x⟩)] h =
 nw (.cells D5 false c) h fun b w=>nw (.cells H9 false x) w fun b_1 w1=>gInt .i64 (Addr.add ⟨b_1,0,none⟩ 0) w1 fun x_1=>bnd (cond (decide (x_1<0)) (some (true,w1)) (gInt .i64 (Addr.add ⟨b_1,0,none⟩ 0) w1 fun x_2=>gSl (Addr.add ⟨b,0,none⟩ 0) w1 fun _ xn _=>some (decide (x_2≥((xn:Nat):Int)),w1))) fun c_1 w2=>bnd (cond c_1 (some (true,w2)) (gInt .i64 (Addr.add ⟨b_1,0,none⟩ 1) w2 fun x_4=>some (decide (x_4<0),w2))) fun c_2 w3=>bnd (cond c_2 (some (true,w3)) (gInt .i64 (Addr.add ⟨b_1,0,none⟩ 2) w3 fun x_5=>some (decide (x_5<0),w3))) fun c_3 w4=>bnd (cond c_3 (some (true,w4)) (gInt .i64 (Addr.add ⟨b_1,0,none⟩ 3) w4 fun x_6=>some (decide (x_6<0),w4))) fun c_4 w5=>cond c_4
 (some (.bool false,w5))
 (gSl (Addr.add ⟨b,0,none⟩ 0) w5 fun x_7 xn_1 _=>gInt .i64 (Addr.add ⟨b_1,0,none⟩ 0) w5 fun x_8=>aSome x_7 fun p=>ck ((0:Int)≤x_8∧x_8<((xn_1:Nat):Int)) (gInt .i64 (Addr.add (B1 p) (Int.toNat x_8*1)) w5 fun x_9=>bnd (C A80 [.int .i64 x_9] w5) fun r w6=>aInt .i64 r fun x_10=>gInt .i64 (Addr.add ⟨b_1,0,none⟩ 1) w6 fun x_11=>cond (decide (x_11>x_10))
 (some (.bool false,w6))
 (gInt .i64 (Addr.add ⟨b_1,0,none⟩ 1) w6 fun x_12=>gInt .i64 (Addr.add ⟨b_1,0,none⟩ 2) w6 fun x_13=>bnd (cond (decide (x_13≤(IntKind.wrap .i64 ((IntKind.wrap .i64 (x_10-x_12))*64)))) (gInt .i64 (Addr.add ⟨b_1,0,none⟩ 3) w6 fun x_14=>gInt .i64 (Addr.add ⟨b_1,0,none⟩ 2) w6 fun x_15=>some (decide (x_14≤(IntKind.wrap .i64 ((IntKind.wrap .i64 ((IntKind.wrap .i64 (x_10-x_12))*64))-x_15))),w6)) (some (false,w6))) fun c_5 w7=>some (.bool c_5,w7)))):=by kernel_rfl
def Bt9:Cuts:={ globs:=0,loops:=[],regs:=[],plans:=[] }
def Dq4:List Item:=A6 Tryz.f181
theorem E93 (C:A3) (R:A5) (s:Option Addr) (env:Int) (h:H) :
 A7 PR Bt9 C R Ad5 Tryz.f181 100000 true Dq4 [(0,.pointer s),(1,.int .i64 env)] h =
 bnd (cond (decide (env≥0)) (aSome s fun p=>gSl (Addr.add p 0) h fun _ xn _=>some (decide (env<((xn:Nat):Int)),h)) (some (false,h))) fun c w=>some (.bool c,w):=by kernel_rfl
def Be6:Cuts:={ globs:=0,loops:=[],regs:=[],plans:=[] }
def B76:List Item:=A6 Tryz.f193
theorem El2 (C:A3) (R:A5) (q:Option Addr) (s:Int) (k:Int) (h:H) :
 A7 PR Be6 C R Av0 Tryz.f193 100000 true B76 [(0,.pointer q),(1,.int .i64 s),(2,.int .i64 k)] h =
 bnd (C Ag2 [.pointer q,.int .i64 s] h) fun r w=>aBool r fun x=>bnd (cond x (some (decide (k≥0),w)) (some (false,w))) fun c w1=>bnd (cond c (aSome q fun p=>gSl (Addr.add p 0) w1 fun x_1 xn _=>aSome x_1 fun p_1=>ck ((0:Int)≤s∧s<((xn:Nat):Int)) (gSl (Addr.add (B1 p_1) (Int.toNat s*1)) w1 fun _ xn_1 _=>some (decide (k<((xn_1:Nat):Int)),w1))) (some (false,w1))) fun c_1 w2=>bnd (cond c_1 (aSome q fun p_2=>gSl (Addr.add p_2 0) w2 fun x_3 xn_2 _=>aSome x_3 fun p_3=>ck ((0:Int)≤s∧s<((xn_2:Nat):Int)) (gSl (Addr.add (B1 p_3) (Int.toNat s*1)) w2 fun x_4 xn_3 _=>aSome x_4 fun p_4=>ck ((0:Int)≤k∧k<((xn_3:Nat):Int)) (gInt .i64 (Addr.add (B1 p_4) (Int.toNat k*1)) w2 fun x_5=>some (decide (x_5>0),w2)))) (some (false,w2))) fun c_2 w3=>some (.bool c_2,w3):=by kernel_rfl
def Q5:Cuts:={ globs:=0,loops:=[(18,[0,1,2])],regs:=[(10,[0,1,2]),(11,[0,1,2]),(14,[0,1,2]),(17,[])],plans:=[(11,⟨[0,1,2,3,4,5,6,7,8,9,10,11,12,13,14,15,16],[0,1,3,7,15,31,31,95,223,479,1023,31,2079,6175,14367,32767,65535],[],[]⟩),(18,⟨[0,1,2,3,4,5,6,7,8,9,10,11,12,13,14,15,16,17,18,19,20],[0,1,3,7,15,31,0,127,255,511,511,1535,3583,7679,16383,511,33279,98815,229887,524287,1048575],[],[]⟩)] }
def W5:List Item:=A6 Tryz.f195
def An8:List Item:=stk [0,1,0,1,0,1,0,1,0,1,0,0,1,2,0,1] W5
def Ao7:List Item:=stk [0,1,0,1,0,1,0,1,0,1,0,1,0,0] W5
def An0:List Item:=stk [0,1,0,1,0,1,0,1,0,1,0,1,0,1,0,0] W5
def An1:List Item:=stk [0,1,0,1,0,1,0,1,0,1,0,1,0,1,0,0,1,2,0,1,0] W5
def Ad3:List Item:=stk [0,1,0,1,0,1,0,1,0,1,0,1,0,1,0,1,0,4,5] W5
theorem Er6 (C:A3) (R:A5) (s:Option Addr) (who:Int) (now:Int) (h:H) :
 A7 PR Q5 C R B6 Tryz.f195 100000 true W5 [(0,.pointer s),(1,.int .i64 who),(2,.int .i64 now)] h =
 aSome s fun p=>gInt .i64 (Addr.add p 7) h fun x=>bnd (cond (decide (who<0)) (some (true,h)) (some (decide (who>99),h))) fun c w=>cond c
 (some (.tuple ⟨[.int .i64 0,.bool false]⟩,w))
 (aSome s fun p_1=>pV (Addr.add p_1 7) (.int .i64 (mm2 true now x)) w fun w1=>aSome s fun p_2=>gBool (Addr.add p_2 1) w1 fun x_1=>bnd (cond x_1 (aSome s fun p_3=>gInt .i64 (Addr.add p_3 2) w1 fun x_2=>some (x_2==who,w1)) (some (false,w1))) fun c_1 w2=>cond c_1
 (aSome s fun p_4=>gInt .i64 (Addr.add p_4 3) w2 fun x_3=>some (.tuple ⟨[.int .i64 x_3,.bool true]⟩,w2))
 (aSome s fun p_5=>gSl (Addr.add p_5 5) w2 fun x_4 xn xc=>bnd (C L0 [.slice x_4 xn xc,.int .i64 who] w2) fun r w3=>aBool r fun x_5=>cond (!x_5)
 (aSome s fun p_6=>gSl (Addr.add p_6 5) w3 fun _ xn_1 _=>cond (((xn_1:Nat):Int)==0)
 (aSome s fun p_7=>pV (Addr.add p_7 6) (.int .i64 (mm2 true now x)) w3 fun w4=>R B6 An8 [(0,.pointer s),(1,.int .i64 who),(2,.int .i64 (mm2 true now x))] w4)
 (R B6 An8 [(0,.pointer s),(1,.int .i64 who),(2,.int .i64 (mm2 true now x))] w3))
 (R B6 Ao7 [(0,.pointer s),(1,.int .i64 who),(2,.int .i64 (mm2 true now x))] w3))):=by kernel_rfl
theorem D49 (C:A3) (R:A5) (s:Option Addr) (who:Int) (now:Int) (h:H) :
 A7 PR Q5 C R B6 Tryz.f195 100000 true An8 [(0,.pointer s),(1,.int .i64 who),(2,.int .i64 now)] h =
 aSome s fun p=>gSl (Addr.add p 5) h fun x xn xc=>nw (.cells B3 false [.int .i64 who]) h fun b w=>gCells (some ⟨b,0,none⟩) (1*1) w fun cs=>ckB (fitsOpen x B3 w) (apd B3 1 x xn xc 1 cs w fun a an ac w1=>aSome s fun p_1=>pV (Addr.add p_1 5) (.slice a an ac) w1 fun w2=>R B6 Ao7 [(0,.pointer s),(1,.int .i64 who),(2,.int .i64 now)] w2):=by kernel_rfl
theorem D53 (C:A3) (R:A5) (s:Option Addr) (who:Int) (now:Int) (h:H) :
 A7 PR Q5 C R B6 Tryz.f195 100000 true Ao7 [(0,.pointer s),(1,.int .i64 who),(2,.int .i64 now)] h =
 aSome s fun p=>gBool (Addr.add p 1) h fun x=>bnd (cond x (aSome s fun p_1=>gInt .i64 (Addr.add p_1 4) h fun x_1=>aSome s fun p_2=>gInt .i64 (Addr.add p_2 0) h fun x_2=>some (decide ((IntKind.wrap .i64 (now-x_1))≥x_2),h)) (some (false,h))) fun c w=>cond c
 (aSome s fun p_3=>pV (Addr.add p_3 1) (.bool false) w fun w1=>aSome s fun p_4=>pV (Addr.add p_4 6) (.int .i64 now) w1 fun w2=>R B6 An0 [(0,.pointer s),(1,.int .i64 who),(2,.int .i64 now)] w2)
 (R B6 An0 [(0,.pointer s),(1,.int .i64 who),(2,.int .i64 now)] w):=by kernel_rfl
theorem D44 (C:A3) (R:A5) (s:Option Addr) (who:Int) (now:Int) (h:H) :
 A7 PR Q5 C R B6 Tryz.f195 100000 true An0 [(0,.pointer s),(1,.int .i64 who),(2,.int .i64 now)] h =
 aSome s fun p=>gBool (Addr.add p 1) h fun x=>cond x
 (aSome s fun p_1=>gSl (Addr.add p_1 5) h fun x_1 xn _=>aSome x_1 fun p_2=>ck ((0:Int)≤0∧0<((xn:Nat):Int)) (gInt .i64 (Addr.add (B1 p_2) (Int.toNat 0*1)) h fun x_2=>cond (x_2==who)
 (aSome s fun p_3=>pV (Addr.add p_3 6) (.int .i64 now) h fun w=>R B6 An1 [] w)
 (R B6 An1 [] h)))
 (R B6 Ad3 [(0,.pointer s),(1,.int .i64 who),(2,.int .i64 now)] h):=by kernel_rfl
theorem D45 (C:A3) (R:A5)  (h:H) :
 A7 PR Q5 C R B6 Tryz.f195 100000 true An1 [] h =
 some (.tuple ⟨[.int .i64 0,.bool false]⟩,h):=by kernel_rfl
theorem Bx4 (C:A3) (R:A5) (s:Option Addr) (who:Int) (now:Int) (h:H) :
 A7 PR Q5 C R B6 Tryz.f195 100000 true Ad3 [(0,.pointer s),(1,.int .i64 who),(2,.int .i64 now)] h =
 aSome s fun p=>gSl (Addr.add p 5) h fun x xn _=>aSome x fun p_1=>ck ((0:Int)≤0∧0<((xn:Nat):Int)) (gInt .i64 (Addr.add (B1 p_1) (Int.toNat 0*1)) h fun x_1=>bnd (cond (x_1 != who) (aSome s fun p_2=>gInt .i64 (Addr.add p_2 6) h fun x_2=>aSome s fun p_3=>gInt .i64 (Addr.add p_3 0) h fun x_3=>some (decide ((IntKind.wrap .i64 (now-x_2))≥x_3),h)) (some (false,h))) fun c w=>cond c
 (aSome s fun p_4=>gSl (Addr.add p_4 5) w fun x_4 xn_1 xc_1=>ckB (fitsOpen x_4 B3 w) (ck ((0:Int)≤1∧1≤((xn_1:Nat):Int)) (aSome s fun p_5=>pV (Addr.add p_5 5) (.slice (G9 x_4 (decide (Int.toNat 1<xc_1)) ((Int.toNat 1)*1)) (xn_1-(Int.toNat 1)) (xc_1-(Int.toNat 1))) w fun w1=>aSome s fun p_6=>pV (Addr.add p_6 6) (.int .i64 now) w1 fun w2=>R B6 Ad3 [(0,.pointer s),(1,.int .i64 who),(2,.int .i64 now)] w2)))
 (aSome s fun p_7=>gSl (Addr.add p_7 5) w fun x_5 xn_2 _=>aSome x_5 fun p_8=>ck ((0:Int)≤0∧0<((xn_2:Nat):Int)) (gInt .i64 (Addr.add (B1 p_8) (Int.toNat 0*1)) w fun x_6=>cond (x_6 != who)
 (some (.tuple ⟨[.int .i64 0,.bool false]⟩,w))
 (aSome s fun p_9=>gSl (Addr.add p_9 5) w fun x_7 xn_3 xc_3=>ckB (fitsOpen x_7 B3 w) (ck ((0:Int)≤1∧1≤((xn_3:Nat):Int)) (aSome s fun p_10=>pV (Addr.add p_10 5) (.slice (G9 x_7 (decide (Int.toNat 1<xc_3)) ((Int.toNat 1)*1)) (xn_3-(Int.toNat 1)) (xc_3-(Int.toNat 1))) w fun w3=>aSome s fun p_11=>pV (Addr.add p_11 6) (.int .i64 now) w3 fun w4=>aSome s fun p_12=>gInt .i64 (Addr.add p_12 8) w4 fun x_8=>aSome s fun p_13=>pV (Addr.add p_13 8) (.int .i64 (IntKind.wrap .i64 (x_8+1))) w4 fun w5=>aSome s fun p_14=>gInt .i64 (Addr.add p_14 8) w5 fun x_9=>aSome s fun p_15=>pV (Addr.add p_15 1) (.bool true) w5 fun w6=>aSome s fun p_16=>pV (Addr.add p_16 2) (.int .i64 who) w6 fun w7=>aSome s fun p_17=>pV (Addr.add p_17 3) (.int .i64 x_9) w7 fun w8=>aSome s fun p_18=>pV (Addr.add p_18 4) (.int .i64 now) w8 fun w9=>aSome s fun p_19=>gInt .i64 (Addr.add p_19 3) w9 fun x_10=>some (.tuple ⟨[.int .i64 x_10,.bool true]⟩,w9))))))):=by kernel_rfl
def Bj4:Cuts:={ globs:=0,loops:=[],regs:=[],plans:=[] }
def Db7:List Item:=A6 Tryz.f196
theorem Es4 (C:A3) (R:A5) (s:Option Addr) (who:Int) (stamp:Int) (h:H) :
 A7 PR Bj4 C R Az7 Tryz.f196 100000 true Db7 [(0,.pointer s),(1,.int .i64 who),(2,.int .i64 stamp)] h =
 bnd (C Az4 [.pointer s,.int .i64 who,.int .i64 stamp] h) fun r w=>aBool r fun x=>cond (!x)
 (some (.bool false,w))
 (aSome s fun p=>pV (Addr.add p 1) (.bool false) w fun w1=>aSome s fun p_1=>gInt .i64 (Addr.add p_1 7) w1 fun x_1=>aSome s fun p_2=>pV (Addr.add p_2 6) (.int .i64 x_1) w1 fun w2=>some (.bool true,w2)):=by kernel_rfl
def A71:Cuts:={ globs:=0,loops:=[],regs:=[],plans:=[] }
def Bw7:List Item:=A6 Tryz.f203
theorem D07 (C:A3) (R:A5) (size:Int) (put:Value) (get:Value) (h:H) :
 A7 PR A71 C R Am3 Tryz.f203 100000 true Bw7 [(0,.int .i64 size),(1,put),(2,get)] h =
 one put (one get (nw (.cells Ah8 false [.int .i64 (mm2 false (mm2 true size 0) 64),put,get]) h fun b w=>some (.pointer (some ⟨b,0,none⟩),w))):=by kernel_rfl
def A48:Cuts:={ globs:=0,loops:=[],regs:=[],plans:=[] }
def Bt4:List Item:=A6 Tryz.f207
theorem D17 (C:A3) (R:A5) (size:Int) (put:Value) (get:Value) (h:H) :
 A7 PR A48 C R Al4 Tryz.f207 100000 true Bt4 [(0,.int .i64 size),(1,put),(2,get)] h =
 one put (one get (nw (.cells Bm7 false [.int .i64 (mm2 false (mm2 true size 0) 64),put,get]) h fun b w=>some (.pointer (some ⟨b,0,none⟩),w))):=by kernel_rfl
def Bm6:Cuts:={ globs:=0,loops:=[(3,[0,2,4,31,32,33]),(8,[0,2,4,49])],regs:=[],plans:=[(1,⟨[0,1,2,3,4,5,6,7,8,9,10,11,12,13,14,15,16,17,18],[0,1,3,7,0,16,48,112,0,256,768,1792,0,4096,12288,28672,65535,0,262143],[],[]⟩),(13,⟨[0,1,2,3,4,5,6,7,8],[0,0,2,6,6,30,62,63,255],[(5,[0])],[]⟩)] }
def B43:List Item:=A6 Tryz.f212
def B11:List Item:=stk [0,1,0,1,0,0,1,4,5] B43
def B08:List Item:=stk [0,1,0,1,0,1,0,0,1,4,5] B43
theorem Ha2 (C:A3) (R:A5) (b:Option Addr) (bn bc:Nat) (h:H) :
 A7 PR Bm6 C R V6 Tryz.f212 100000 true B43 [(0,.slice b bn bc)] h =
 nw (.cells D6 false [.int .i64 0,.int .i64 0,.int .i64 0,.int .i64 0,.int .i64 0,.int .i64 0,.int .i64 0,.int .i64 0,.int .i64 0,.int .i64 0,.int .i64 0,.int .i64 0,.int .i64 0,.int .i64 0,.int .i64 0,.int .i64 0]) h fun b_1 w=>aSome b fun p=>ck ((0:Int)≤0∧0<((bn:Nat):Int)) (gInt .u8 (Addr.add (B1 p) (Int.toNat 0*1)) w fun x=>aSome b fun p_1=>ck ((0:Int)≤1∧1<((bn:Nat):Int)) (gInt .u8 (Addr.add (B1 p_1) (Int.toNat 1*1)) w fun x_1=>aSome b fun p_2=>ck ((0:Int)≤2∧2<((bn:Nat):Int)) (gInt .u8 (Addr.add (B1 p_2) (Int.toNat 2*1)) w fun x_2=>aSome b fun p_3=>ck ((0:Int)≤3∧3<((bn:Nat):Int)) (gInt .u8 (Addr.add (B1 p_3) (Int.toNat 3*1)) w fun x_3=>nw (.cells D6 false [.int .i64 0,.int .i64 0,.int .i64 0,.int .i64 0,.int .i64 0,.int .i64 0,.int .i64 0,.int .i64 0,.int .i64 0,.int .i64 0,.int .i64 0,.int .i64 0,.int .i64 0,.int .i64 0,.int .i64 0,.int .i64 0]) w fun b_2 w1=>pAgg ⟨b_2,0,none⟩ [.int .i64 (IntKind.wrap .i64 (x)),.int .i64 (IntKind.wrap .i64 (x_1)),.int .i64 (IntKind.wrap .i64 (x_2)),.int .i64 (IntKind.wrap .i64 (x_3)),.int .i64 0,.int .i64 0,.int .i64 0,.int .i64 0,.int .i64 0,.int .i64 0,.int .i64 0,.int .i64 0,.int .i64 0,.int .i64 0,.int .i64 0,.int .i64 0] w1 fun w2=>nw (.cells H74 false [.pointer (some (Addr.add ⟨b_2,0,none⟩ 4)),.pointer (some (Addr.add ⟨b_2,0,none⟩ 5)),.pointer (some (Addr.add ⟨b_2,0,none⟩ 6)),.pointer (some (Addr.add ⟨b_2,0,none⟩ 7))]) w2 fun b_3 w3=>R V6 B11 [(0,.slice b bn bc),(2,.pointer (some ⟨b_1,0,none⟩)),(4,.pointer (some ⟨b_2,0,none⟩)),(31,.slice (some ⟨b_3,0,none⟩) 4 4),(32,.int .i64 4),(33,.int .i64 0)] w3)))):=by kernel_rfl
theorem A20 (C:A3) (R:A5) (b:Option Addr) (bn bc:Nat) (x2:Addr) (p:Addr) (x31:Option Addr) (x31n x31c:Nat) (x32:Int) (x33:Int) (h:H) :
 A7 PR Bm6 C R V6 Tryz.f212 100000 true B11 [(0,.slice b bn bc),(2,.pointer (some x2)),(4,.pointer (some p)),(31,.slice x31 x31n x31c),(32,.int .i64 x32),(33,.int .i64 x33)] h =
 cond (decide (x33<x32))
 (aSome x31 fun p_1=>ck ((0:Int)≤x33∧x33<((x31n:Nat):Int)) (gPtr (Addr.add (B1 p_1) (Int.toNat x33*1)) h fun x=>bnd (C Bu6 [.slice b bn bc,.int .i64 (IntKind.wrap .i64 (4+(IntKind.wrap .i64 (2*x33))))] h) fun r w=>as2 r fun r_1 r_2=>aInt .i64 r_1 fun x_1=>aBool r_2 fun _=>aSome x fun p_2=>pV p_2 (.int .i64 x_1) w fun w1=>R V6 B11 [(0,.slice b bn bc),(2,.pointer (some x2)),(4,.pointer (some p)),(31,.slice x31 x31n x31c),(32,.int .i64 x32),(33,.int .i64 (IntKind.wrap .i64 (x33+1)))] w1))
 (R V6 B08 [(0,.slice b bn bc),(2,.pointer (some x2)),(4,.pointer (some p)),(49,.int .i64 0)] h):=by kernel_rfl
theorem V8 (C:A3) (R:A5) (b:Option Addr) (bn bc:Nat) (x2:Addr) (p:Addr) (x49:Int) (h:H) :
 A7 PR Bm6 C R V6 Tryz.f212 100000 true B08 [(0,.slice b bn bc),(2,.pointer (some x2)),(4,.pointer (some p)),(49,.int .i64 x49)] h =
 cond (decide (x49<8))
 (aSome b fun p_1=>ck ((0:Int)≤IntKind.wrap .i64 (12+x49)∧IntKind.wrap .i64 (12+x49)<((bn:Nat):Int)) (gInt .u8 (Addr.add (B1 p_1) (Int.toNat (IntKind.wrap .i64 (12+x49))*1)) h fun x=>ck ((0:Int)≤x49∧x49<((8:Nat):Int)) (pV (Addr.add (Addr.add p 8) (Int.toNat x49*1)) (.int .i64 (IntKind.wrap .i64 (x))) h fun w=>R V6 B08 [(0,.slice b bn bc),(2,.pointer (some x2)),(4,.pointer (some p)),(49,.int .i64 (IntKind.wrap .i64 (x49+1)))] w)))
 (gAgg p 16 h fun x_1=>bnd (C A18 [.agg ⟨x_1⟩] h) fun r w1=>as2 r fun r_1 r_2=>aSl r_1 fun x_2 xn xc=>aBool r_2 fun x_3=>gAgg p 16 w1 fun x_4=>bnd (cond x_3 (bnd (C B9 [.slice x_2 xn xc,.slice b bn bc] w1) fun r_3 w2=>aBool r_3 fun x_5=>gAgg p 16 w2 fun x_6=>same (.agg ⟨x_4⟩) (.agg ⟨x_6⟩) (some (x_5,w2))) (some (false,w1))) fun c w3=>ck (List.length x_4=16) (pAgg x2 x_4 w3 fun w4=>gAgg x2 16 w4 fun x_7=>some (.tuple ⟨[.agg ⟨x_7⟩,.bool c]⟩,w4))):=by kernel_rfl
def W0:Cuts:={ globs:=0,loops:=[(2,[0,1,7,8])],regs:=[],plans:=[] }
def Ag9:List Item:=A6 Tryz.f213
def L5:List Item:=stk [0,1,0,0,1,4,5] Ag9
theorem A10 (C:A3) (R:A5) (s:Option Addr) (sn sc:Nat) (f:Value) (h:H) :
 A7 PR W0 C R D3 Tryz.f213 100000 true Ag9 [(0,.slice s sn sc),(1,f)] h =
 R D3 L5 [(0,.slice s sn sc),(1,f),(7,.int .i64 ((sn:Nat):Int)),(8,.int .i64 0)] h:=by kernel_rfl
theorem P5 (C:A3) (R:A5) (s:Option Addr) (sn sc:Nat) (f:Value) (x7:Int) (x8:Int) (h:H) :
 A7 PR W0 C R D3 Tryz.f213 100000 true L5 [(0,.slice s sn sc),(1,f),(7,.int .i64 x7),(8,.int .i64 x8)] h =
 cond (decide (x8<x7))
 (aSome s fun p=>ck ((0:Int)≤x8∧x8<((sn:Nat):Int)) (gInt .i64 (Addr.add (B1 p) (Int.toNat x8*1)) h fun x=>aFn f fun g fi cp=>bnd (C g (fi++([.int .i64 x]++cp)) h) fun r w=>aBool r fun x_1=>cond x_1
 (some (.int .i64 x8,w))
 (R D3 L5 [(0,.slice s sn sc),(1,f),(7,.int .i64 x7),(8,.int .i64 (IntKind.wrap .i64 (x8+1)))] w)))
 (some (.int .i64 (-1),h)):=by kernel_rfl
def Ab9:Cuts:={ globs:=0,loops:=[(2,[0,3,11,12,13])],regs:=[],plans:=[(5,⟨[0,1,2,3,4,5,6,7,8,9,10,11,12,13,14,15,16],[0,1,3,7,0,0,32,96,224,0,0,1535,3583,7679,16383,32767,65535],[],[]⟩)] }
def Ao6:List Item:=A6 Tryz.f214
def V7:List Item:=stk [0,1,0,0,1,4,5] Ao6
theorem Dg6 (C:A3) (R:A5) (t:Option Addr) (v:List Value) (h:H) :
 A7 PR Ab9 C R H7 Tryz.f214 100000 true Ao6 [(0,.pointer t),(1,.agg ⟨v⟩)] h =
 nw (.cells N9 false v) h fun b w=>aSome t fun p=>gSl (Addr.add p 0) w fun x xn xc=>R H7 V7 [(0,.pointer t),(3,.pointer (some ⟨b,0,none⟩)),(11,.slice x xn xc),(12,.int .i64 ((xn:Nat):Int)),(13,.int .i64 0)] w:=by kernel_rfl
theorem A04 (C:A3) (R:A5) (t:Option Addr) (v:Addr) (x11:Option Addr) (x11n x11c:Nat) (x12:Int) (x13:Int) (h:H) :
 A7 PR Ab9 C R H7 Tryz.f214 100000 true V7 [(0,.pointer t),(3,.pointer (some v)),(11,.slice x11 x11n x11c),(12,.int .i64 x12),(13,.int .i64 x13)] h =
 cond (decide (x13<x12))
 (aSome x11 fun p=>ck ((0:Int)≤x13∧x13<((x11n:Nat):Int)) (gAgg (Addr.add (B1 p) (Int.toNat x13*8)) 8 h fun x=>nw (.cells Aj6 false [.int .i64 0,.int .i64 0,.int .i64 0,.int .i64 0,.int .i64 0,.int .i64 0,.int .i64 0,.bool false]) h fun b w=>ck (List.length x=8) (pAgg ⟨b,0,none⟩ x w fun w1=>gBool (Addr.add ⟨b,0,none⟩ 7) w1 fun x_1=>bnd (cond (!x_1) (gInt .i64 (Addr.add ⟨b,0,none⟩ 6) w1 fun x_2=>some (decide (x_2≤1000000),w1)) (some (false,w1))) fun c w2=>cond c
 (aSome t fun p_1=>gSl (Addr.add p_1 0) w2 fun x_3 xn _=>aSome t fun p_2=>gSl (Addr.add p_2 0) w2 fun x_4 xn_1 _=>gAgg v 6 w2 fun x_5=>aSome x_3 fun p_3=>ck ((0:Int)≤x13∧x13<((xn:Nat):Int)) (ck (List.length x_5=6) (pAgg (Addr.add (Addr.add (B1 p_3) (Int.toNat x13*8)) 0) x_5 w2 fun w3=>aSome x_4 fun p_4=>ck ((0:Int)≤x13∧x13<((xn_1:Nat):Int)) (pV (Addr.add (Addr.add (B1 p_4) (Int.toNat x13*8)) 7) (.bool true) w3 fun w4=>bnd (C L7 [.pointer t,.int .i64 x13] w4) fun r w5=>aInt .i64 r fun x_6=>some (.tuple ⟨[.int .i64 x_6,.bool true]⟩,w5)))))
 (R H7 V7 [(0,.pointer t),(3,.pointer (some v)),(11,.slice x11 x11n x11c),(12,.int .i64 x12),(13,.int .i64 (IntKind.wrap .i64 (x13+1)))] w2))))
 (some (.tuple ⟨[.int .i64 0,.bool false]⟩,h)):=by kernel_rfl
def Al3:Cuts:={ globs:=0,loops:=[],regs:=[],plans:=[] }
def Bc6:List Item:=A6 Tryz.f217
theorem Df0 (C:A3) (R:A5) (t:Option Addr) (name:Int) (h:H) :
 A7 PR Al3 C R Ab7 Tryz.f217 100000 true Bc6 [(0,.pointer t),(1,.int .i64 name)] h =
 nw (.cells N9 false [.int .i64 0,.int .i64 0,.int .i64 0,.int .i64 0,.int .i64 0,.int .i64 0]) h fun b w=>bnd (C Ad0 [.pointer t,.int .i64 name] w) fun r w1=>aPtr r fun x=>cond x.isNone
 (nw (.cells N9 false [.int .i64 0,.int .i64 0,.int .i64 0,.int .i64 0,.int .i64 0,.int .i64 0]) w1 fun b_1 w2=>gAgg ⟨b_1,0,none⟩ 6 w2 fun x_1=>ck (List.length x_1=6) (pAgg ⟨b,0,none⟩ x_1 w2 fun w3=>gAgg ⟨b,0,none⟩ 6 w3 fun x_2=>some (.tuple ⟨[.agg ⟨x_2⟩,.bool false]⟩,w3)))
 (aSome x fun p=>gAgg (Addr.add p 0) 6 w1 fun x_3=>ck (List.length x_3=6) (pAgg ⟨b,0,none⟩ x_3 w1 fun w4=>gAgg ⟨b,0,none⟩ 6 w4 fun x_4=>some (.tuple ⟨[.agg ⟨x_4⟩,.bool true]⟩,w4))):=by kernel_rfl
def Aa3:Cuts:={ globs:=0,loops:=[(4,[0,1,12,13])],regs:=[],plans:=[(6,⟨[0,1,2,3,4,5,6,7,8],[0,0,3,7,0,0,48,112,255],[],[]⟩)] }
def Ak2:List Item:=A6 Tryz.f224
def U6:List Item:=stk [0,1,0,1,0,0,1,4,5] Ak2
theorem Da3 (C:A3) (R:A5) (s1:Option Addr) (s1n s1c:Nat) (s2:Option Addr) (s2n s2c:Nat) (h:H) :
 A7 PR Aa3 C R B9 Tryz.f224 100000 true Ak2 [(0,.slice s1 s1n s1c),(1,.slice s2 s2n s2c)] h =
 cond (((s1n:Nat):Int) != ((s2n:Nat):Int))
 (some (.bool false,h))
 (R B9 U6 [(0,.slice s1 s1n s1c),(1,.slice s2 s2n s2c),(12,.int .i64 ((s1n:Nat):Int)),(13,.int .i64 0)] h):=by kernel_rfl
theorem Az0 (C:A3) (R:A5) (s1:Option Addr) (s1n s1c:Nat) (s2:Option Addr) (s2n s2c:Nat) (x12:Int) (x13:Int) (h:H) :
 A7 PR Aa3 C R B9 Tryz.f224 100000 true U6 [(0,.slice s1 s1n s1c),(1,.slice s2 s2n s2c),(12,.int .i64 x12),(13,.int .i64 x13)] h =
 cond (decide (x13<x12))
 (aSome s1 fun p=>ck ((0:Int)≤x13∧x13<((s1n:Nat):Int)) (gInt .u8 (Addr.add (B1 p) (Int.toNat x13*1)) h fun x=>aSome s2 fun p_1=>ck ((0:Int)≤x13∧x13<((s2n:Nat):Int)) (gInt .u8 (Addr.add (B1 p_1) (Int.toNat x13*1)) h fun x_1=>cond (x != x_1)
 (some (.bool false,h))
 (R B9 U6 [(0,.slice s1 s1n s1c),(1,.slice s2 s2n s2c),(12,.int .i64 x12),(13,.int .i64 (IntKind.wrap .i64 (x13+1)))] h))))
 (some (.bool true,h)):=by kernel_rfl
def D81:Cuts:={ globs:=0,loops:=[],regs:=[],plans:=[] }
def E32:List Item:=A6 Tryz.f225
theorem Hm2 (C:A3) (R:A5) (p:List Value) (h:H) :
 A7 PR D81 C R Df2 Tryz.f225 100000 true E32 [(0,.agg ⟨p⟩)] h =
 nw (.cells D6 false p) h fun b w=>gInt .i64 (Addr.add ⟨b,0,none⟩ 0) w fun x=>bnd (cond (decide (x<1)) (some (true,w)) (gInt .i64 (Addr.add ⟨b,0,none⟩ 0) w fun x_1=>some (decide (x_1>3),w))) fun c w1=>bnd (cond c (some (true,w1)) (gInt .i64 (Addr.add ⟨b,0,none⟩ 1) w1 fun x_2=>some (decide (x_2<0),w1))) fun c_1 w2=>bnd (cond c_1 (some (true,w2)) (gInt .i64 (Addr.add ⟨b,0,none⟩ 1) w2 fun x_3=>some (decide (x_3>8),w2))) fun c_2 w3=>bnd (cond c_2 (some (true,w3)) (gInt .i64 (Addr.add ⟨b,0,none⟩ 2) w3 fun x_4=>some (decide (x_4<0),w3))) fun c_3 w4=>bnd (cond c_3 (some (true,w4)) (gInt .i64 (Addr.add ⟨b,0,none⟩ 2) w4 fun x_5=>some (decide (x_5≥8),w4))) fun c_4 w5=>bnd (cond c_4 (some (true,w5)) (gInt .i64 (Addr.add ⟨b,0,none⟩ 3) w5 fun x_6=>some (decide (x_6<0),w5))) fun c_5 w6=>bnd (cond c_5 (some (true,w6)) (gInt .i64 (Addr.add ⟨b,0,none⟩ 3) w6 fun x_7=>some (decide (x_7>255),w6))) fun c_6 w7=>cond c_6
 (some (.bool false,w7))
 (gInt .i64 (Addr.add ⟨b,0,none⟩ 4) w7 fun x_8=>bnd (C Aj1 [.int .i64 x_8,.int .i64 0] w7) fun r w8=>aBool r fun x_9=>bnd (cond (!x_9) (some (true,w8)) (gInt .i64 (Addr.add ⟨b,0,none⟩ 5) w8 fun x_10=>bnd (C Aj1 [.int .i64 x_10,.int .i64 16896] w8) fun r_1 w9=>aBool r_1 fun x_11=>some (!x_11,w9))) fun c_7 w10=>bnd (cond c_7 (some (true,w10)) (gInt .i64 (Addr.add ⟨b,0,none⟩ 6) w10 fun x_12=>bnd (C Aj1 [.int .i64 x_12,.int .i64 16896] w10) fun r_2 w11=>aBool r_2 fun x_13=>some (!x_13,w11))) fun c_8 w12=>bnd (cond c_8 (some (true,w12)) (gInt .i64 (Addr.add ⟨b,0,none⟩ 7) w12 fun x_14=>bnd (C Aj1 [.int .i64 x_14,.int .i64 16896] w12) fun r_3 w13=>aBool r_3 fun x_15=>some (!x_15,w13))) fun c_9 w14=>bnd (cond c_9 (some (true,w14)) (gInt .i64 (Addr.add ⟨b,0,none⟩ 6) w14 fun x_16=>gInt .i64 (Addr.add ⟨b,0,none⟩ 7) w14 fun x_17=>some ((D0 .i64 x_16 x_17) != 0,w14))) fun c_10 w15=>cond c_10
 (some (.bool false,w15))
 (ckB (liveA (Addr.add ⟨b,0,none⟩ 8) w15) (bnd (C E4 [.slice (G9 (some (Addr.add ⟨b,0,none⟩ 8)) (decide (0<8)) (0*1)) (8-0) (8-0),.func (.func Bd9) ⟨[]⟩ ⟨[]⟩] w15) fun r_4 w16=>aBool r_4 fun x_18=>cond x_18
 (some (.bool false,w16))
 (gInt .i64 (Addr.add ⟨b,0,none⟩ 0) w16 fun x_19=>cond (x_19==2)
 (gInt .i64 (Addr.add ⟨b,0,none⟩ 4) w16 fun x_20=>bnd (cond (x_20==0) (gAgg (Addr.add ⟨b,0,none⟩ 8) 8 w16 fun x_21=>B44 PR Gc0 x_21 [.int .i64 0,.int .i64 0,.int .i64 0,.int .i64 0,.int .i64 0,.int .i64 0,.int .i64 0,.int .i64 0] fun eq=>some (eq,w16)) (some (false,w16))) fun c_11 w17=>some (.bool c_11,w17))
 (gInt .i64 (Addr.add ⟨b,0,none⟩ 3) w16 fun x_22=>some (.bool (x_22==0),w16)))))):=by kernel_rfl
end
end Go.EQ

set_option maxRecDepth 100000
namespace Go.EQ
open Go Go.NN Go.Proofs
variable (C : A3) (R : A5)
noncomputable section
def Dh4:Cuts:={ globs:=0,loops:=[],regs:=[],plans:=[] }
def El3:List Item:=A6 Tryz.f14
theorem G04 (C:A3) (R:A5) (c:Option Addr) (i:Int) (fd:Int) (n:Int) (h:H) :
 A7 PR Dh4 C R A13 Tryz.f14 100000 true El3 [(0,.pointer c),(1,.int .i64 i),(2,.int .i64 fd),(3,.int .i64 n)] h =
 nw (.cells Y4 false [.int .i64 0,.int .i64 0,.slice none 0 0,.bool false]) h fun b w=>bnd (C B42 [.pointer c,.int .i64 i,.int .i64 fd,.int .i64 n] w) fun r w1=>as2 r fun r_1 r_2=>aAgg r_1 fun x=>aInt .i64 r_2 fun x_1=>nw (.cells D2 false [.int .i64 0,.int .i64 0,.int .i64 0,.int .i64 0]) w1 fun b_1 w2=>ck (List.length x=4) (pAgg ⟨b_1,0,none⟩ x w2 fun w3=>bnd (cond (x_1 != 0) (some (true,w3)) (some (n==0,w3))) fun c_1 w4=>cond c_1
 (bnd (C O2 [.int .i64 x_1] w4) fun r_3 w5=>aAgg r_3 fun x_2=>ck (List.length x_2=4) (pAgg ⟨b,0,none⟩ x_2 w5 fun w6=>gAgg ⟨b,0,none⟩ 4 w6 fun x_3=>some (.agg ⟨x_3⟩,w6)))
 (gAgg ⟨b_1,0,none⟩ 4 w4 fun x_4=>bnd (C Bv8 [.pointer c,.agg ⟨x_4⟩] w4) fun r_4 w7=>as2 r_4 fun r_5 r_6=>aAgg r_5 fun x_5=>aBool r_6 fun x_6=>nw (.cells Bu2 false [.int .i64 0,.int .i64 0,.int .i64 0,.int .i64 0,.int .u8 0,.int .u8 0,.int .u8 0,.int .u8 0,.int .u8 0,.int .u8 0,.int .u8 0,.int .u8 0,.int .u8 0,.int .u8 0,.int .u8 0,.int .u8 0,.int .u8 0,.int .u8 0,.int .u8 0,.int .u8 0,.int .u8 0,.int .u8 0,.int .u8 0,.int .u8 0,.int .u8 0,.int .u8 0,.int .u8 0,.int .u8 0,.int .u8 0,.int .u8 0,.int .u8 0,.int .u8 0,.int .u8 0,.int .u8 0,.int .u8 0,.int .u8 0,.nilFunc]) w7 fun b_2 w8=>ck (List.length x_5=37) (pAgg ⟨b_2,0,none⟩ x_5 w8 fun w9=>cond (!x_6)
 (bnd (C O2 [.int .i64 105] w9) fun r_7 w10=>aAgg r_7 fun x_7=>ck (List.length x_7=4) (pAgg ⟨b,0,none⟩ x_7 w10 fun w11=>gAgg ⟨b,0,none⟩ 4 w11 fun x_8=>some (.agg ⟨x_8⟩,w11)))
 (gInt .i64 (Addr.add (Addr.add ⟨b_2,0,none⟩ 0) 1) w9 fun x_9=>bnd (cond (x_9==0) (gInt .i64 (Addr.add ⟨b_1,0,none⟩ 0) w9 fun x_10=>some (x_10==1,w9)) (some (false,w9))) fun c_2 w12=>bnd (cond c_2 (gInt .i64 (Addr.add (Addr.add ⟨b_2,0,none⟩ 0) 3) w12 fun x_11=>some (x_11==0,w12)) (some (false,w12))) fun c_3 w13=>cond c_3
 (pAgg ⟨b,0,none⟩ [.int .i64 0,.int .i64 0,.slice none 0 0,.bool false] w13 fun w14=>gAgg ⟨b,0,none⟩ 4 w14 fun x_12=>some (.agg ⟨x_12⟩,w14))
 (gInt .i64 (Addr.add (Addr.add ⟨b_2,0,none⟩ 0) 1) w13 fun x_13=>cond (x_13==0)
 (gAgg ⟨b_1,0,none⟩ 4 w13 fun x_14=>bnd (C At0 [.agg ⟨x_14⟩] w13) fun r_8 w15=>aAgg r_8 fun x_15=>ck (List.length x_15=4) (pAgg ⟨b,0,none⟩ x_15 w15 fun w16=>gAgg ⟨b,0,none⟩ 4 w16 fun x_16=>some (.agg ⟨x_16⟩,w16)))
 (gAgg (Addr.add ⟨b_2,0,none⟩ 0) 36 w13 fun x_17=>bnd (C B50 [.agg ⟨x_17⟩,.int .i64 n] w13) fun r_9 w17=>as2 r_9 fun r_10 r_11=>aAgg r_10 fun x_18=>aSl r_11 fun x_19 xn xc=>nw (.cells B7 false [.int .i64 0,.int .i64 0,.int .i64 0,.int .i64 0,.int .u8 0,.int .u8 0,.int .u8 0,.int .u8 0,.int .u8 0,.int .u8 0,.int .u8 0,.int .u8 0,.int .u8 0,.int .u8 0,.int .u8 0,.int .u8 0,.int .u8 0,.int .u8 0,.int .u8 0,.int .u8 0,.int .u8 0,.int .u8 0,.int .u8 0,.int .u8 0,.int .u8 0,.int .u8 0,.int .u8 0,.int .u8 0,.int .u8 0,.int .u8 0,.int .u8 0,.int .u8 0,.int .u8 0,.int .u8 0,.int .u8 0,.int .u8 0]) w17 fun b_3 w18=>ck (List.length x_18=36) (pAgg ⟨b_3,0,none⟩ x_18 w18 fun w19=>gFv (Addr.add ⟨b_2,0,none⟩ 36) w19 fun x_20=>gAgg ⟨b_3,0,none⟩ 36 w19 fun x_21=>aFn x_20 fun g fi cp=>bnd (C g (fi++([.agg ⟨x_21⟩]++cp)) w19) fun r_12 w20=>aBool r_12 fun x_22=>cond (!x_22)
 (bnd (C O2 [.int .i64 105] w20) fun r_13 w21=>aAgg r_13 fun x_23=>ck (List.length x_23=4) (pAgg ⟨b,0,none⟩ x_23 w21 fun w22=>gAgg ⟨b,0,none⟩ 4 w22 fun x_24=>some (.agg ⟨x_24⟩,w22)))
 (pAgg ⟨b,0,none⟩ [.int .i64 ((xn:Nat):Int),.int .i64 0,.slice x_19 xn xc,.bool false] w20 fun w23=>gAgg ⟨b,0,none⟩ 4 w23 fun x_25=>some (.agg ⟨x_25⟩,w23))))))))):=by kernel_rfl
def B23:Cuts:={ globs:=0,loops:=[],regs:=[],plans:=[] }
def Dz1:List Item:=A6 Tryz.f26
theorem Gd8 (C:A3) (R:A5) (k:Option Addr) (env:Int) (c:List Value) (h:H) :
 A7 PR B23 C R Q1 Tryz.f26 100000 true Dz1 [(0,.pointer k),(1,.int .i64 env),(2,.agg ⟨c⟩)] h =
 nw (.cells Aw0 false c) h fun b w=>nw (.cells Ei2 false [.int .i64 0,.int .i64 0,.slice none 0 0]) w fun b_1 w1=>bnd (cond (decide (env<0)) (some (true,w1)) (aSome k fun p=>gSl (Addr.add p 0) w1 fun _ xn _=>some (decide (env≥((xn:Nat):Int)),w1))) fun c_1 w2=>cond c_1
 (pAgg ⟨b_1,0,none⟩ [.int .i64 1,.int .i64 0,.slice none 0 0] w2 fun w3=>gAgg ⟨b_1,0,none⟩ 3 w3 fun x_1=>some (.agg ⟨x_1⟩,w3))
 (gAgg ⟨b,0,none⟩ 7 w2 fun x_2=>bnd (C Az8 [.pointer k,.int .i64 env,.agg ⟨x_2⟩] w2) fun r w4=>as3 r fun r_1 r_2 r_3=>aSl r_1 fun x_3 xn_1 xc_1=>aInt .i64 r_2 fun x_4=>aBool r_3 fun x_5=>cond x_5
 (pAgg ⟨b_1,0,none⟩ [.int .i64 x_4,.int .i64 0,.slice x_3 xn_1 xc_1] w4 fun w5=>gAgg ⟨b_1,0,none⟩ 3 w5 fun x_6=>some (.agg ⟨x_6⟩,w5))
 (gAgg ⟨b,0,none⟩ 7 w4 fun x_7=>bnd (C Au8 [.pointer k,.int .i64 env,.agg ⟨x_7⟩] w4) fun r_4 w6=>as2 r_4 fun r_5 r_6=>aInt .i64 r_5 fun x_8=>aInt .i64 r_6 fun x_9=>pAgg ⟨b_1,0,none⟩ [.int .i64 x_9,.int .i64 x_8,.slice none 0 0] w6 fun w7=>gAgg ⟨b_1,0,none⟩ 3 w7 fun x_10=>some (.agg ⟨x_10⟩,w7))):=by kernel_rfl
def B32:Cuts:={ globs:=0,loops:=[],regs:=[],plans:=[(7,⟨[0,1,2,3,4,5,6,7,8,9,10,11,12,13,14,15,16],[0,1,3,7,0,0,32,0,128,0,512,2047,4095,8191,8191,16383,65535],[],[]⟩),(9,⟨[0,1,2,3,4,5,6,7,8,9,10,11,12,13],[0,1,3,7,0,0,32,0,128,0,512,1536,4095,8191],[],[]⟩),(11,⟨[0,1,2,3,4,5,6,7,8,9,10,11,12,13,14,15,16],[0,1,3,7,0,0,32,0,128,0,512,0,2048,0,8192,32767,65535],[],[]⟩),(13,⟨[0,1,2,3,4,5,6,7,8,9,10,11,12,13,14,15,16,17,18,19,20,21,22,23],[0,1,3,7,15,31,63,0,0,256,0,1024,0,4096,0,16384,0,65536,262143,524287,1048575,1048575,2097151,8388607],[],[]⟩),(15,⟨[0,1,2,3,4,5,6,7,8,9,10,11,12,13,14,15],[0,1,3,7,15,31,63,0,0,256,1023,2047,4095,4095,8191,32767],[],[]⟩),(17,⟨[0,1,2,3,4,5,6,7,8,9,10,11,12,13,14,15,16,17],[0,1,3,7,0,16,48,112,240,0,1008,2032,4095,8191,16383,16383,32767,131071],[],[]⟩),(19,⟨[0,1,2,3,4,5,6,7,8,9,10,11,12,13,14,15],[0,1,3,7,0,16,48,112,240,0,1008,2032,0,4096,16383,32767],[],[]⟩),(23,⟨[0,1,2,3,4,5,6,7,8,9,10,11,12,13,14,15,16,17],[0,1,3,7,0,16,63,127,0,0,512,1536,3584,8191,16383,32767,32767,65535],[],[]⟩),(27,⟨[0,1,2,3,4,5,6,7,8,9,10,11,12,13,14,15,16,17,18],[0,0,0,4,15,31,63,127,255,511,63,1087,4095,8191,63,63,32831,131071,262143],[],[]⟩)] }
def Dx3:List Item:=A6 Tryz.f27
theorem Gc8 (C:A3) (R:A5) (k:Option Addr) (e:Int) (c:List Value) (h:H) :
 A7 PR B32 C R Ap9 Tryz.f27 100000 true Dx3 [(0,.pointer k),(1,.int .i64 e),(2,.agg ⟨c⟩)] h =
 nw (.cells Aw0 false c) h fun b w=>bnd (cond (decide (e<0)) (some (true,w)) (aSome k fun p=>gSl (Addr.add (Addr.add p 0) 1) w fun _ xn _=>some (decide (e≥((xn:Nat):Int)),w))) fun c_1 w1=>cond c_1
 (some (.tuple ⟨[.int .i64 1,.int .i64 0,.string (ByteArray.mk ⟨[]⟩)]⟩,w1))
 (gInt .i64 (Addr.add ⟨b,0,none⟩ 0) w1 fun x_1=>cond (x_1==1)
 (aSome k fun p_1=>gPtr (Addr.add p_1 6) w1 fun x_2=>gInt .i64 (Addr.add ⟨b,0,none⟩ 1) w1 fun x_3=>gInt .i64 (Addr.add ⟨b,0,none⟩ 2) w1 fun x_4=>gInt .i64 (Addr.add ⟨b,0,none⟩ 3) w1 fun x_5=>bnd (C Ec2 [.pointer x_2,.int .i64 e,.int .i64 x_3,.int .i64 x_4,.int .i64 x_5] w1) fun r w2=>as2 r fun r_1 r_2=>aStr r_1 fun x_6=>aInt .i64 r_2 fun x_7=>some (.tuple ⟨[.int .i64 x_7,.int .i64 0,.string x_6]⟩,w2))
 (cond (x_1==2)
 (aSome k fun p_2=>gPtr (Addr.add p_2 6) w1 fun x_8=>gInt .i64 (Addr.add ⟨b,0,none⟩ 1) w1 fun x_9=>gInt .i64 (Addr.add ⟨b,0,none⟩ 2) w1 fun x_10=>gSl (Addr.add ⟨b,0,none⟩ 6) w1 fun x_11 xn_1 _=>gCells x_11 xn_1 w1 fun cs=>asBytes cs fun l=>bnd (C Am6 [.pointer x_8,.int .i64 e,.int .i64 x_9,.int .i64 x_10,.string (ByteArray.mk ⟨l⟩)] w1) fun r_3 w3=>aInt .i64 r_3 fun x_12=>some (.tuple ⟨[.int .i64 x_12,.int .i64 0,.string (ByteArray.mk ⟨[]⟩)]⟩,w3))
 (cond (x_1==3)
 (aSome k fun p_3=>gPtr (Addr.add p_3 6) w1 fun x_13=>gInt .i64 (Addr.add ⟨b,0,none⟩ 1) w1 fun x_14=>gInt .i64 (Addr.add ⟨b,0,none⟩ 2) w1 fun x_15=>gInt .i64 (Addr.add ⟨b,0,none⟩ 4) w1 fun x_16=>gInt .i64 (Addr.add ⟨b,0,none⟩ 5) w1 fun x_17=>gInt .i64 (Addr.add ⟨b,0,none⟩ 3) w1 fun x_18=>bnd (C Eb9 [.pointer x_13,.int .i64 e,.int .i64 x_14,.int .i64 x_15,.int .i64 x_16,.int .i64 x_17,.int .i64 x_18] w1) fun r_4 w4=>aInt .i64 r_4 fun x_19=>some (.tuple ⟨[.int .i64 x_19,.int .i64 0,.string (ByteArray.mk ⟨[]⟩)]⟩,w4))
 (cond (x_1==4)
 (aSome k fun p_4=>gPtr (Addr.add p_4 6) w1 fun x_20=>aSome x_20 fun p_5=>gPtr (Addr.add p_5 3) w1 fun x_21=>gInt .i64 (Addr.add ⟨b,0,none⟩ 1) w1 fun x_22=>gInt .i64 (Addr.add ⟨b,0,none⟩ 4) w1 fun x_23=>gInt .i64 (Addr.add ⟨b,0,none⟩ 5) w1 fun x_24=>gInt .i64 (Addr.add ⟨b,0,none⟩ 2) w1 fun x_25=>gInt .i64 (Addr.add ⟨b,0,none⟩ 3) w1 fun x_26=>bnd (C Ed9 [.pointer x_21,.int .i64 e,.int .i64 x_22,.int .i64 x_23,.int .i64 x_24,.int .i64 x_25,.int .i64 x_26] w1) fun r_5 w5=>as2 r_5 fun r_6 r_7=>aInt .i64 r_6 fun x_27=>aInt .i64 r_7 fun x_28=>some (.tuple ⟨[.int .i64 x_28,.int .i64 x_27,.string (ByteArray.mk ⟨[]⟩)]⟩,w5))
 (cond (x_1==5)
 (aSome k fun p_6=>gPtr (Addr.add p_6 6) w1 fun x_29=>aSome x_29 fun p_7=>gPtr (Addr.add p_7 3) w1 fun x_30=>gInt .i64 (Addr.add ⟨b,0,none⟩ 1) w1 fun x_31=>bnd (C Ec0 [.pointer x_30,.int .i64 e,.int .i64 x_31] w1) fun r_8 w6=>as2 r_8 fun r_9 r_10=>aInt .i64 r_9 fun x_32=>aInt .i64 r_10 fun x_33=>some (.tuple ⟨[.int .i64 x_33,.int .i64 x_32,.string (ByteArray.mk ⟨[]⟩)]⟩,w6))
 (cond (x_1==6)
 (aSome k fun p_8=>gPtr (Addr.add p_8 5) w1 fun x_34=>aSome k fun p_9=>gSl (Addr.add (Addr.add p_9 0) 1) w1 fun x_35 xn_2 _=>aSome x_35 fun p_10=>ck ((0:Int)≤e∧e<((xn_2:Nat):Int)) (gInt .i64 (Addr.add (B1 p_10) (Int.toNat e*1)) w1 fun x_36=>bnd (C Eh8 [.pointer x_34,.int .i64 x_36] w1) fun r_11 w7=>as2 r_11 fun r_12 r_13=>aInt .i64 r_12 fun x_37=>aInt .i64 r_13 fun x_38=>some (.tuple ⟨[.int .i64 x_38,.int .i64 x_37,.string (ByteArray.mk ⟨[]⟩)]⟩,w7)))
 (cond (x_1==7)
 (aSome k fun p_11=>gPtr (Addr.add p_11 5) w1 fun x_39=>aSome k fun p_12=>gSl (Addr.add (Addr.add p_12 0) 1) w1 fun x_40 xn_3 _=>aSome x_40 fun p_13=>ck ((0:Int)≤e∧e<((xn_3:Nat):Int)) (gInt .i64 (Addr.add (B1 p_13) (Int.toNat e*1)) w1 fun x_41=>gInt .i64 (Addr.add ⟨b,0,none⟩ 3) w1 fun x_42=>bnd (C Er7 [.pointer x_39,.int .i64 x_41,.int .i64 x_42] w1) fun r_14 w8=>aInt .i64 r_14 fun x_43=>some (.tuple ⟨[.int .i64 x_43,.int .i64 0,.string (ByteArray.mk ⟨[]⟩)]⟩,w8)))
 (cond (x_1==8)
 (gInt .i64 (Addr.add ⟨b,0,none⟩ 3) w1 fun x_44=>bnd (C Dp7 [.pointer k,.int .i64 e,.int .i64 x_44] w1) fun r_15 w9=>aBool r_15 fun x_45=>cond x_45
 (aSome k fun p_14=>gSl (Addr.add p_14 7) w9 fun x_46 xn_4 _=>gInt .i64 (Addr.add ⟨b,0,none⟩ 3) w9 fun x_47=>aSome x_46 fun p_15=>ck ((0:Int)≤x_47∧x_47<((xn_4:Nat):Int)) (gPtr (Addr.add (B1 p_15) (Int.toNat x_47*1)) w9 fun x_48=>aSome k fun p_16=>gInt .i64 (Addr.add p_16 8) w9 fun x_49=>bnd (C Eq7 [.pointer x_48,.int .i64 e,.int .i64 x_49] w9) fun r_16 w10=>as2 r_16 fun r_17 r_18=>aInt .i64 r_17 fun x_50=>aBool r_18 fun _=>some (.tuple ⟨[.int .i64 0,.int .i64 x_50,.string (ByteArray.mk ⟨[]⟩)]⟩,w10)))
 (some (.tuple ⟨[.int .i64 8,.int .i64 0,.string (ByteArray.mk ⟨[]⟩)]⟩,w9)))
 (cond (x_1==9)
 (gInt .i64 (Addr.add ⟨b,0,none⟩ 3) w1 fun x_52=>bnd (C Dp7 [.pointer k,.int .i64 e,.int .i64 x_52] w1) fun r_19 w11=>aBool r_19 fun x_53=>bnd (cond x_53 (aSome k fun p_17=>gSl (Addr.add p_17 7) w11 fun x_54 xn_5 _=>gInt .i64 (Addr.add ⟨b,0,none⟩ 3) w11 fun x_55=>aSome x_54 fun p_18=>ck ((0:Int)≤x_55∧x_55<((xn_5:Nat):Int)) (gPtr (Addr.add (B1 p_18) (Int.toNat x_55*1)) w11 fun x_56=>gInt .i64 (Addr.add ⟨b,0,none⟩ 2) w11 fun x_57=>bnd (C Es0 [.pointer x_56,.int .i64 e,.int .i64 x_57] w11) fun r_20 w12=>aBool r_20 fun x_58=>some (x_58,w12))) (some (false,w11))) fun c_2 w13=>cond c_2
 (some (.tuple ⟨[.int .i64 0,.int .i64 0,.string (ByteArray.mk ⟨[]⟩)]⟩,w13))
 (some (.tuple ⟨[.int .i64 8,.int .i64 0,.string (ByteArray.mk ⟨[]⟩)]⟩,w13)))
 (cond (x_1==10)
 (aSome k fun p_19=>gInt .i64 (Addr.add p_19 8) w1 fun x_59=>some (.tuple ⟨[.int .i64 0,.int .i64 x_59,.string (ByteArray.mk ⟨[]⟩)]⟩,w1))
 (some (.tuple ⟨[.int .i64 7,.int .i64 0,.string (ByteArray.mk ⟨[]⟩)]⟩,w1)))))))))))):=by kernel_rfl
def Az6:Cuts:={ globs:=0,loops:=[(4,[1,3,4])],regs:=[],plans:=[(2,⟨[0,1,2,5,6,9,10,13,14,3,4,7,8,11,12,15,16,17],[0,0,2,6,15,0,32,110,255,0,512,1774,4095,0,8192,28398,65535,131071],[(3,[6,10,14]),(7,[10,14]),(11,[14])],[]⟩)] }
def Bj8:List Item:=A6 Tryz.f29
def Am8:List Item:=stk [0,1,0,1,0,1,0,0,1,4,5] Bj8
theorem Eq6 (C:A3) (R:A5) (p:List Value) (h:H) :
 A7 PR Az6 C R Q3 Tryz.f29 100000 true Bj8 [(0,.agg ⟨p⟩)] h =
 nw (.cells D6 false p) h fun b w=>gInt .i64 (Addr.add ⟨b,0,none⟩ 0) w fun x=>gInt .i64 (Addr.add ⟨b,0,none⟩ 1) w fun x_1=>gInt .i64 (Addr.add ⟨b,0,none⟩ 2) w fun x_2=>gInt .i64 (Addr.add ⟨b,0,none⟩ 3) w fun x_3=>nw (.cells A4 false [.int .u8 (IntKind.wrap .u8 (x)),.int .u8 (IntKind.wrap .u8 (x_1)),.int .u8 (IntKind.wrap .u8 (x_2)),.int .u8 (IntKind.wrap .u8 (x_3))]) w fun b_1 w1=>gCells (some ⟨b_1,0,none⟩) 4 w1 fun cs=>asBytes cs fun l=>gInt .i64 (Addr.add ⟨b,0,none⟩ 4) w1 fun x_4=>gInt .i64 (Addr.add ⟨b,0,none⟩ 5) w1 fun x_5=>gInt .i64 (Addr.add ⟨b,0,none⟩ 6) w1 fun x_6=>gInt .i64 (Addr.add ⟨b,0,none⟩ 7) w1 fun x_7=>bnd (C A66 [.int .i64 x_4] w1) fun r w2=>aStr r fun x_8=>gInt .i64 (Addr.add ⟨b,0,none⟩ 5) w2 fun x_9=>same (.int .i64 x_5) (.int .i64 x_9) (gInt .i64 (Addr.add ⟨b,0,none⟩ 6) w2 fun x_10=>same (.int .i64 x_6) (.int .i64 x_10) (gInt .i64 (Addr.add ⟨b,0,none⟩ 7) w2 fun x_11=>same (.int .i64 x_7) (.int .i64 x_11) (ck (ByteArray.size (ByteArray.mk ⟨l⟩)+ByteArray.size x_8≤B0) (bnd (C A66 [.int .i64 x_5] w2) fun r_1 w3=>aStr r_1 fun x_12=>gInt .i64 (Addr.add ⟨b,0,none⟩ 6) w3 fun x_13=>same (.int .i64 x_6) (.int .i64 x_13) (gInt .i64 (Addr.add ⟨b,0,none⟩ 7) w3 fun x_14=>same (.int .i64 x_7) (.int .i64 x_14) (ck (ByteArray.size ((ByteArray.mk ⟨l⟩)++x_8)+ByteArray.size x_12≤B0) (bnd (C A66 [.int .i64 x_6] w3) fun r_2 w4=>aStr r_2 fun x_15=>gInt .i64 (Addr.add ⟨b,0,none⟩ 7) w4 fun x_16=>same (.int .i64 x_7) (.int .i64 x_16) (ck (ByteArray.size (((ByteArray.mk ⟨l⟩)++x_8)++x_12)+ByteArray.size x_15≤B0) (bnd (C A66 [.int .i64 x_7] w4) fun r_3 w5=>aStr r_3 fun x_17=>ck (ByteArray.size ((((ByteArray.mk ⟨l⟩)++x_8)++x_12)++x_15)+ByteArray.size x_17≤B0) (R Q3 Am8 [(1,.pointer (some ⟨b,0,none⟩)),(3,.string (((((ByteArray.mk ⟨l⟩)++x_8)++x_12)++x_15)++x_17)),(4,.int .i64 0)] w5)))))))))):=by kernel_rfl
theorem Bv7 (C:A3) (R:A5) (p:Addr) (s:ByteArray) (i:Int) (h:H) :
 A7 PR Az6 C R Q3 Tryz.f29 100000 true Am8 [(1,.pointer (some p)),(3,.string s),(4,.int .i64 i)] h =
 cond (decide (i<8))
 (ck ((0:Int)≤i∧i<((8:Nat):Int)) (gInt .i64 (Addr.add (Addr.add p 8) (Int.toNat i*1)) h fun x=>nw (.cells A4 false [.int .u8 (IntKind.wrap .u8 (x))]) h fun b w=>gCells (some ⟨b,0,none⟩) 1 w fun cs=>asBytes cs fun l=>ck (ByteArray.size s+ByteArray.size (ByteArray.mk ⟨l⟩)≤B0) (R Q3 Am8 [(1,.pointer (some p)),(3,.string (s++(ByteArray.mk ⟨l⟩))),(4,.int .i64 (IntKind.wrap .i64 (i+1)))] w)))
 (ck (ByteArray.size s+ByteArray.size (ByteArray.mk ⟨[167]⟩)≤B0) (bnd (C Ad9 [.string (s++(ByteArray.mk ⟨[167]⟩))] h) fun r w1=>aInt .u8 r fun x_1=>nw (.cells A4 false [.int .u8 x_1,.int .u8 0,.int .u8 0]) w1 fun b_1 w2=>gCells (some ⟨b_1,0,none⟩) 3 w2 fun cs_1=>asBytes cs_1 fun l_1=>ck (ByteArray.size (s++(ByteArray.mk ⟨[167]⟩))+ByteArray.size (ByteArray.mk ⟨l_1⟩)≤B0) (some (.string ((s++(ByteArray.mk ⟨[167]⟩))++(ByteArray.mk ⟨l_1⟩)),w2)))):=by kernel_rfl
def Am4:Cuts:={ globs:=0,loops:=[],regs:=[],plans:=[] }
def Ba9:List Item:=A6 Tryz.f39
theorem Df7 (C:A3) (R:A5) (c:Option Addr) (i:Int) (f:List Value) (h:H) :
 A7 PR Am4 C R R0 Tryz.f39 100000 true Ba9 [(0,.pointer c),(1,.int .i64 i),(2,.agg ⟨f⟩)] h =
 nw (.cells D2 false f) h fun b w=>gAgg ⟨b,0,none⟩ 4 w fun x=>bnd (C A08 [.agg ⟨x⟩] w) fun r w1=>as2 r fun r_1 r_2=>aSl r_1 fun x_1 xn xc=>aBool r_2 fun x_2=>bnd (C A33 [.int .i64 i] w1) fun r_3 w2=>aAgg r_3 fun x_3=>bnd (C I7 [.pointer c,.agg ⟨x_3⟩,.slice x_1 xn xc,.bool x_2] w2) fun r_4 w3=>aBool r_4 fun x_4=>some (.bool x_4,w3):=by kernel_rfl
def Al9:Cuts:={ globs:=0,loops:=[],regs:=[],plans:=[] }
def Bb4:List Item:=A6 Tryz.f41
theorem Dc1 (C:A3) (R:A5) (c:Option Addr) (i:Int) (p:List Value) (h:H) :
 A7 PR Al9 C R Ab6 Tryz.f41 100000 true Bb4 [(0,.pointer c),(1,.int .i64 i),(2,.agg ⟨p⟩)] h =
 nw (.cells D6 false p) h fun b w=>gAgg ⟨b,0,none⟩ 16 w fun x=>bnd (C A18 [.agg ⟨x⟩] w) fun r w1=>as2 r fun r_1 r_2=>aSl r_1 fun x_1 xn xc=>aBool r_2 fun x_2=>bnd (C A30 [.int .i64 i] w1) fun r_3 w2=>aAgg r_3 fun x_3=>bnd (C I7 [.pointer c,.agg ⟨x_3⟩,.slice x_1 xn xc,.bool x_2] w2) fun r_4 w3=>aBool r_4 fun x_4=>some (.bool x_4,w3):=by kernel_rfl
def Ey9:Cuts:={ globs:=0,loops:=[],regs:=[],plans:=[(3,⟨[0,1,2,3,4],[0,0,0,5,15],[],[]⟩),(5,⟨[0,1,2,3],[0,0,3,7],[],[]⟩),(9,⟨[0,1,2,3,4,5,6,7,8],[0,0,3,7,15,0,31,127,255],[],[]⟩)] }
def Gs1:List Item:=A6 Tryz.f42
theorem H35 (C:A3) (R:A5) (c:Option Addr) (i:Int) (fd:Int) (h:H) :
 A7 PR Ey9 C R Dn1 Tryz.f42 100000 true Gs1 [(0,.pointer c),(1,.int .i64 i),(2,.int .i64 fd)] h =
 nw (.cells D2 false [.int .i64 0,.int .i64 0,.int .i64 0,.int .i64 0]) h fun b w=>bnd (C Bl8 [.pointer c,.int .i64 i] w) fun r w1=>as2 r fun r_1 r_2=>aAgg r_1 fun x=>aInt .i64 r_2 fun x_1=>nw (.cells D6 false [.int .i64 0,.int .i64 0,.int .i64 0,.int .i64 0,.int .i64 0,.int .i64 0,.int .i64 0,.int .i64 0,.int .i64 0,.int .i64 0,.int .i64 0,.int .i64 0,.int .i64 0,.int .i64 0,.int .i64 0,.int .i64 0]) w1 fun b_1 w2=>ck (List.length x=16) (pAgg ⟨b_1,0,none⟩ x w2 fun w3=>cond (x_1 != 0)
 (gAgg ⟨b,0,none⟩ 4 w3 fun x_2=>ck (List.length x_2=4) (pAgg ⟨b,0,none⟩ x_2 w3 fun w4=>gAgg ⟨b,0,none⟩ 4 w4 fun x_3=>some (.tuple ⟨[.int .i64 0,.agg ⟨x_3⟩,.int .i64 x_1]⟩,w4)))
 (gAgg ⟨b_1,0,none⟩ 16 w3 fun x_4=>bnd (C B49 [.agg ⟨x_4⟩,.int .i64 fd] w3) fun r_3 w5=>aBool r_3 fun x_5=>cond (!x_5)
 (gAgg ⟨b,0,none⟩ 4 w5 fun x_6=>ck (List.length x_6=4) (pAgg ⟨b,0,none⟩ x_6 w5 fun w6=>gAgg ⟨b,0,none⟩ 4 w6 fun x_7=>some (.tuple ⟨[.int .i64 0,.agg ⟨x_7⟩,.int .i64 109]⟩,w6)))
 (ck ((0:Int)≤fd∧fd<((8:Nat):Int)) (gInt .i64 (Addr.add (Addr.add ⟨b_1,0,none⟩ 8) (Int.toNat fd*1)) w5 fun x_8=>bnd (C P7 [.pointer c,.int .i64 (IntKind.wrap .i64 (x_8-1))] w5) fun r_4 w7=>as2 r_4 fun r_5 r_6=>aAgg r_5 fun x_9=>aInt .i64 r_6 fun x_10=>ck (List.length x_9=4) (pAgg ⟨b,0,none⟩ x_9 w7 fun w8=>cond (x_10 != 1)
 (pAgg ⟨b,0,none⟩ [.int .i64 0,.int .i64 0,.int .i64 0,.int .i64 0] w8 fun w9=>gAgg ⟨b,0,none⟩ 4 w9 fun x_11=>some (.tuple ⟨[.int .i64 0,.agg ⟨x_11⟩,.int .i64 105]⟩,w9))
 (ck ((0:Int)≤fd∧fd<((8:Nat):Int)) (gInt .i64 (Addr.add (Addr.add ⟨b_1,0,none⟩ 8) (Int.toNat fd*1)) w8 fun x_12=>gAgg ⟨b,0,none⟩ 4 w8 fun x_13=>ck (List.length x_13=4) (pAgg ⟨b,0,none⟩ x_13 w8 fun w10=>gAgg ⟨b,0,none⟩ 4 w10 fun x_14=>some (.tuple ⟨[.int .i64 (IntKind.wrap .i64 (x_12-1)),.agg ⟨x_14⟩,.int .i64 0]⟩,w10))))))))):=by kernel_rfl
def Dd2:Cuts:={ globs:=0,loops:=[(5,[2,4,6,13,14,15])],regs:=[],plans:=[] }
def D47:List Item:=A6 Tryz.f47
def Bn3:List Item:=stk [0,1,0,1,0,1,0,0,1,4,5] D47
theorem Hg5 (C:A3) (R:A5) (p:List Value) (b:Option Addr) (bn bc:Nat) (h:H) :
 A7 PR Dd2 C R An7 Tryz.f47 100000 true D47 [(0,.agg ⟨p⟩),(1,.slice b bn bc)] h =
 nw (.cells B7 false p) h fun b_1 w=>nw (.cells B7 false [.int .i64 0,.int .i64 0,.int .i64 0,.int .i64 0,.int .u8 0,.int .u8 0,.int .u8 0,.int .u8 0,.int .u8 0,.int .u8 0,.int .u8 0,.int .u8 0,.int .u8 0,.int .u8 0,.int .u8 0,.int .u8 0,.int .u8 0,.int .u8 0,.int .u8 0,.int .u8 0,.int .u8 0,.int .u8 0,.int .u8 0,.int .u8 0,.int .u8 0,.int .u8 0,.int .u8 0,.int .u8 0,.int .u8 0,.int .u8 0,.int .u8 0,.int .u8 0,.int .u8 0,.int .u8 0,.int .u8 0,.int .u8 0]) w fun b_2 w1=>gAgg ⟨b_1,0,none⟩ 36 w1 fun x=>bnd (C Bs1 [.agg ⟨x⟩] w1) fun r w2=>aBool r fun x_1=>cond (!x_1)
 (gAgg ⟨b_1,0,none⟩ 36 w2 fun x_2=>ck (List.length x_2=36) (pAgg ⟨b_2,0,none⟩ x_2 w2 fun w3=>gAgg ⟨b_2,0,none⟩ 36 w3 fun x_3=>some (.tuple ⟨[.agg ⟨x_3⟩,.int .i64 0]⟩,w3)))
 (R An7 Bn3 [(2,.pointer (some ⟨b_1,0,none⟩)),(4,.pointer (some ⟨b_2,0,none⟩)),(6,.int .i64 0),(13,.slice b bn bc),(14,.int .i64 ((bn:Nat):Int)),(15,.int .i64 0)] w2):=by kernel_rfl
theorem Ea0 (C:A3) (R:A5) (p:Addr) (x4:Addr) (n:Int) (x13:Option Addr) (x13n x13c:Nat) (x14:Int) (x15:Int) (h:H) :
 A7 PR Dd2 C R An7 Tryz.f47 100000 true Bn3 [(2,.pointer (some p)),(4,.pointer (some x4)),(6,.int .i64 n),(13,.slice x13 x13n x13c),(14,.int .i64 x14),(15,.int .i64 x15)] h =
 cond (decide (x15<x14))
 (aSome x13 fun p_1=>ck ((0:Int)≤x15∧x15<((x13n:Nat):Int)) (gInt .u8 (Addr.add (B1 p_1) (Int.toNat x15*1)) h fun x=>gInt .i64 (Addr.add p 1) h fun x_1=>cond (x_1==32)
 (gAgg p 36 h fun x_2=>ck (List.length x_2=36) (pAgg x4 x_2 h fun w=>gAgg x4 36 w fun x_3=>some (.tuple ⟨[.agg ⟨x_3⟩,.int .i64 n]⟩,w)))
 (gInt .i64 (Addr.add p 0) h fun x_4=>gInt .i64 (Addr.add p 1) h fun x_5=>ck ((0:Int)≤Int.tmod (IntKind.wrap .i64 (x_4+x_5)) 32∧Int.tmod (IntKind.wrap .i64 (x_4+x_5)) 32<((32:Nat):Int)) (pV (Addr.add (Addr.add p 4) (Int.toNat (Int.tmod (IntKind.wrap .i64 (x_4+x_5)) 32)*1)) (.int .u8 x) h fun w1=>gInt .i64 (Addr.add p 1) w1 fun x_6=>pV (Addr.add p 1) (.int .i64 (IntKind.wrap .i64 (x_6+1))) w1 fun w2=>R An7 Bn3 [(2,.pointer (some p)),(4,.pointer (some x4)),(6,.int .i64 (IntKind.wrap .i64 (n+1))),(13,.slice x13 x13n x13c),(14,.int .i64 x14),(15,.int .i64 (IntKind.wrap .i64 (x15+1)))] w2))))
 (gAgg p 36 h fun x_7=>ck (List.length x_7=36) (pAgg x4 x_7 h fun w3=>gAgg x4 36 w3 fun x_8=>some (.tuple ⟨[.agg ⟨x_8⟩,.int .i64 n]⟩,w3))):=by kernel_rfl
def Aj0:Cuts:={ globs:=0,loops:=[],regs:=[],plans:=[] }
def A37:List Item:=A6 Tryz.f52
theorem B67 (C:A3) (R:A5) (s:Option Addr) (sn sc:Nat) (v:Int) (h:H) :
 A7 PR Aj0 C R L0 Tryz.f52 100000 true A37 [(0,.slice s sn sc),(1,.int .i64 v)] h =
 bnd (C H0 [.slice s sn sc,.int .i64 v] h) fun r w=>aInt .i64 r fun x=>some (.bool (decide (x≥0)),w):=by kernel_rfl
def As7:Cuts:={ globs:=0,loops:=[],regs:=[],plans:=[] }
def Bi5:List Item:=A6 Tryz.f66
theorem Do8 (C:A3) (R:A5) (c:Option Addr) (h:H) :
 A7 PR As7 C R Af7 Tryz.f66 100000 true Bi5 [(0,.pointer c)] h =
 bnd (C P1 [.pointer c,.agg ⟨[.int .i64 5,.int .i64 0]⟩,.func (.func Al2) ⟨[]⟩ ⟨[]⟩] h) fun r w=>as2 r fun r_1 r_2=>aInt .i64 r_1 fun x=>aInt .i64 r_2 fun x_1=>some (.tuple ⟨[.int .i64 x,.bool (x_1==1)]⟩,w):=by kernel_rfl
def A75:Cuts:={ globs:=0,loops:=[(5,[1,4,20,21,22]),(12,[1,7,58,59,60]),(18,[7,89,90,91]),(22,[7,11,12,89,90,91,122,123,124])],regs:=[],plans:=[(9,⟨[0,1,3,5,6,7,9,10,2,4,8,11,12,13,14],[0,1,3,0,15,0,32,96,255,0,512,2047,4095,8191,16383],[(2,[6,10]),(4,[6,10]),(8,[10])],[]⟩),(10,⟨[0,1,2,3,4,5,6,7,8,9,10,11,12],[0,0,2,6,14,0,32,96,224,510,1023,2047,4095],[],[]⟩),(14,⟨[0,1,2,3,4,5,6,7,8,9,10,11],[0,0,2,6,14,0,32,96,254,511,1023,2047],[(6,[4])],[]⟩),(15,⟨[0,1,2,3,4,5,6,7,8,9,10,11,12],[0,0,2,6,14,0,32,96,224,510,1023,2047,4095],[(7,[4])],[]⟩),(20,⟨[0,1,2,3,4,5,6,7,8,9,11,12,15,16,18,19,10,13,14,17,20,21,22,23,24,25],[0,1,3,7,0,16,48,112,0,256,1008,0,2048,8176,16368,0,32768,131056,0,262144,1048575,2097151,4194303,4194303,8388607,33554431],[(10,[3,12,16,19])],[]⟩),(25,⟨[0,1,2,3,4,5,6,7,8,9],[0,1,3,7,0,0,0,64,224,511],[],[]⟩)] }
def Bg3:List Item:=A6 Tryz.f69
def Bn7:List Item:=stk [0,1,0,1,0,1,0,0,1,4,5] Bg3
def Bn0:List Item:=stk [0,1,0,1,0,1,0,1,0,1,0,1,0,0,1,4,5] Bg3
def A79:List Item:=stk [0,1,0,1,0,1,0,1,0,1,0,1,0,1,0,0,1,4,5] Bg3
def A87:List Item:=stk [0,1,0,1,0,1,0,1,0,1,0,1,0,1,0,0,1,4,5,6,0,1,0,1,0,4,0,1,0,1,0,1,4,5] Bg3
theorem Hf9 (C:A3) (R:A5) (c:List Value) (h:H) :
 A7 PR A75 C R H3 Tryz.f69 100000 true Bg3 [(0,.agg ⟨c⟩)] h =
 nw (.cells D5 false c) h fun b w=>gAgg ⟨b,0,none⟩ 5 w fun x=>bnd (C P4 [.agg ⟨x⟩] w) fun r w1=>aBool r fun x_1=>cond (!x_1)
 (some (.tuple ⟨[.pointer none,.int .i64 1]⟩,w1))
 (gSl (Addr.add ⟨b,0,none⟩ 0) w1 fun x_2 xn xc=>R H3 Bn7 [(1,.pointer (some ⟨b,0,none⟩)),(4,.int .i64 0),(20,.slice x_2 xn xc),(21,.int .i64 ((xn:Nat):Int)),(22,.int .i64 0)] w1):=by kernel_rfl
theorem Eb1 (C:A3) (R:A5) (c:Addr) (all:Int) (x20:Option Addr) (x20n x20c:Nat) (x21:Int) (x22:Int) (h:H) :
 A7 PR A75 C R H3 Tryz.f69 100000 true Bn7 [(1,.pointer (some c)),(4,.int .i64 all),(20,.slice x20 x20n x20c),(21,.int .i64 x21),(22,.int .i64 x22)] h =
 cond (decide (x22<x21))
 (aSome x20 fun p=>ck ((0:Int)≤x22∧x22<((x20n:Nat):Int)) (gInt .i64 (Addr.add (B1 p) (Int.toNat x22*1)) h fun x=>bnd (C A80 [.int .i64 x] h) fun r w=>aInt .i64 r fun x_1=>R H3 Bn7 [(1,.pointer (some c)),(4,.int .i64 (IntKind.wrap .i64 (all+x_1))),(20,.slice x20 x20n x20c),(21,.int .i64 x21),(22,.int .i64 (IntKind.wrap .i64 (x22+1)))] w))
 (gSl (Addr.add c 1) h fun x_2 xn xc=>gSl (Addr.add c 1) h fun x_3 xn_1 xc_1=>gSl (Addr.add c 0) h fun x_4 xn_2 xc_2=>bnd (C V0 [.slice x_2 xn xc] h) fun r_1 w1=>aSl r_1 fun x_5 xn_3 xc_3=>gSl (Addr.add c 1) w1 fun x_6 xn_4 xc_4=>same (.slice x_3 xn_1 xc_1) (.slice x_6 xn_4 xc_4) (gSl (Addr.add c 0) w1 fun x_7 xn_5 xc_5=>same (.slice x_4 xn_2 xc_2) (.slice x_7 xn_5 xc_5) (bnd (C Dr3 [.int .i64 all] w1) fun r_2 w2=>aPtr r_2 fun x_8=>gSl (Addr.add c 1) w2 fun x_9 xn_6 xc_6=>same (.slice x_3 xn_1 xc_1) (.slice x_9 xn_6 xc_6) (gSl (Addr.add c 0) w2 fun x_10 xn_7 xc_7=>same (.slice x_4 xn_2 xc_2) (.slice x_10 xn_7 xc_7) (bnd (C Au3 [.int .i64 ((xn_1:Nat):Int)] w2) fun r_3 w3=>aPtr r_3 fun x_11=>gSl (Addr.add c 0) w3 fun x_12 xn_8 xc_8=>same (.slice x_4 xn_2 xc_2) (.slice x_12 xn_8 xc_8) (bnd (C Ao9 [.slice x_4 xn_2 xc_2] w3) fun r_4 w4=>aPtr r_4 fun x_13=>nw (.cells Dt6 false [.slice x_5 xn_3 xc_3,.slice none 0 0,.pointer x_8,.pointer x_11,.pointer x_13,.pointer none,.slice none 0 0,.int .i64 0]) w4 fun b w5=>gPtr (Addr.add ⟨b,0,none⟩ 2) w5 fun x_14=>gPtr (Addr.add ⟨b,0,none⟩ 3) w5 fun x_15=>bnd (C By7 [.pointer x_14,.pointer x_15] w5) fun r_5 w6=>aPtr r_5 fun x_16=>pV (Addr.add ⟨b,0,none⟩ 5) (.pointer x_16) w6 fun w7=>gSl (Addr.add c 2) w7 fun x_17 xn_9 xc_9=>R H3 Bn0 [(1,.pointer (some c)),(7,.pointer (some ⟨b,0,none⟩)),(58,.slice x_17 xn_9 xc_9),(59,.int .i64 ((xn_9:Nat):Int)),(60,.int .i64 0)] w7)))))):=by kernel_rfl
theorem D93 (C:A3) (R:A5) (c:Addr) (k:Addr) (x58:Option Addr) (x58n x58c:Nat) (x59:Int) (x60:Int) (h:H) :
 A7 PR A75 C R H3 Tryz.f69 100000 true Bn0 [(1,.pointer (some c)),(7,.pointer (some k)),(58,.slice x58 x58n x58c),(59,.int .i64 x59),(60,.int .i64 x60)] h =
 cond (decide (x60<x59))
 (aSome x58 fun p=>ck ((0:Int)≤x60∧x60<((x58n:Nat):Int)) (gSl (Addr.add (B1 p) (Int.toNat x60*1)) h fun x xn xc=>gSl (Addr.add k 1) h fun x_1 xn_1 xc_1=>bnd (C V0 [.slice x xn xc] h) fun r w=>aSl r fun x_2 xn_2 xc_2=>gSl (Addr.add k 1) w fun x_3 xn_3 xc_3=>same (.slice x_1 xn_1 xc_1) (.slice x_3 xn_3 xc_3) (nw (.cells O9 false [.slice x_2 xn_2 xc_2]) w fun b w1=>gCells (some ⟨b,0,none⟩) (1*1) w1 fun cs=>ckB (fitsOpen x_1 O9 w1) (apd O9 1 x_1 xn_1 xc_1 1 cs w1 fun a an ac w2=>pV (Addr.add k 1) (.slice a an ac) w2 fun w3=>gSl (Addr.add k 6) w3 fun x_4 xn_4 xc_4=>gInt .i64 (Addr.add c 3) w3 fun x_5=>bnd (C Dc3 [.int .i64 x_5] w3) fun r_1 w4=>aPtr r_1 fun x_6=>gSl (Addr.add k 6) w4 fun x_7 xn_5 xc_5=>same (.slice x_4 xn_4 xc_4) (.slice x_7 xn_5 xc_5) (nw (.cells At4 false [.pointer x_6]) w4 fun b_1 w5=>gCells (some ⟨b_1,0,none⟩) (1*1) w5 fun cs_1=>ckB (fitsOpen x_4 At4 w5) (apd At4 1 x_4 xn_4 xc_4 1 cs_1 w5 fun a_1 an_1 ac_1 w6=>pV (Addr.add k 6) (.slice a_1 an_1 ac_1) w6 fun w7=>R H3 Bn0 [(1,.pointer (some c)),(7,.pointer (some k)),(58,.slice x58 x58n x58c),(59,.int .i64 x59),(60,.int .i64 (IntKind.wrap .i64 (x60+1)))] w7))))))
 (gSl (Addr.add c 4) h fun x_8 xn_6 xc_6=>R H3 A79 [(7,.pointer (some k)),(89,.slice x_8 xn_6 xc_6),(90,.int .i64 ((xn_6:Nat):Int)),(91,.int .i64 0)] h):=by kernel_rfl
theorem D96 (C:A3) (R:A5) (k:Addr) (x89:Option Addr) (x89n x89c:Nat) (x90:Int) (x91:Int) (h:H) :
 A7 PR A75 C R H3 Tryz.f69 100000 true A79 [(7,.pointer (some k)),(89,.slice x89 x89n x89c),(90,.int .i64 x90),(91,.int .i64 x91)] h =
 cond (decide (x91<x90))
 (aSome x89 fun p=>ck ((0:Int)≤x91∧x91<((x89n:Nat):Int)) (gAgg (Addr.add (B1 p) (Int.toNat x91*5)) 5 h fun x=>nw (.cells H9 false [.int .i64 0,.int .i64 0,.int .i64 0,.int .i64 0,.slice none 0 0]) h fun b w=>ck (List.length x=5) (pAgg ⟨b,0,none⟩ x w fun w1=>gPtr (Addr.add k 5) w1 fun x_1=>gPtr (Addr.add k 4) w1 fun x_2=>gInt .i64 (Addr.add ⟨b,0,none⟩ 0) w1 fun x_3=>gInt .i64 (Addr.add ⟨b,0,none⟩ 1) w1 fun x_4=>gInt .i64 (Addr.add ⟨b,0,none⟩ 2) w1 fun x_5=>gInt .i64 (Addr.add ⟨b,0,none⟩ 3) w1 fun x_6=>bnd (C N8 [.pointer x_2,.int .i64 x_3] w1) fun r w2=>aInt .i64 r fun x_7=>gPtr (Addr.add k 5) w2 fun x_8=>same (.pointer x_1) (.pointer x_8) (gInt .i64 (Addr.add ⟨b,0,none⟩ 1) w2 fun x_9=>same (.int .i64 x_4) (.int .i64 x_9) (gInt .i64 (Addr.add ⟨b,0,none⟩ 2) w2 fun x_10=>same (.int .i64 x_5) (.int .i64 x_10) (gInt .i64 (Addr.add ⟨b,0,none⟩ 3) w2 fun x_11=>same (.int .i64 x_6) (.int .i64 x_11) (bnd (C An5 [.pointer x_1,.int .i64 (IntKind.wrap .i64 ((IntKind.wrap .i64 ((IntKind.wrap .i64 (x_7+x_4))*64))+x_5)),.int .i64 x_6] w2) fun r_1 w3=>as2 r_1 fun r_2 r_3=>aInt .i64 r_2 fun x_12=>aInt .i64 r_3 fun _=>gSl (Addr.add k 0) w3 fun x_14 xn xc=>R H3 A87 [(7,.pointer (some k)),(11,.pointer (some ⟨b,0,none⟩)),(12,.int .i64 x_12),(89,.slice x89 x89n x89c),(90,.int .i64 x90),(91,.int .i64 x91),(122,.slice x_14 xn xc),(123,.int .i64 ((xn:Nat):Int)),(124,.int .i64 0)] w3)))))))
 (some (.tuple ⟨[.pointer (some k),.int .i64 0]⟩,h)):=by kernel_rfl
theorem Eb5 (C:A3) (R:A5) (k:Addr) (x:Addr) (obj:Int) (x89:Option Addr) (x89n x89c:Nat) (x90:Int) (x91:Int) (x122:Option Addr) (x122n x122c:Nat) (x123:Int) (x124:Int) (h:H) :
 A7 PR A75 C R H3 Tryz.f69 100000 true A87 [(7,.pointer (some k)),(11,.pointer (some x)),(12,.int .i64 obj),(89,.slice x89 x89n x89c),(90,.int .i64 x90),(91,.int .i64 x91),(122,.slice x122 x122n x122c),(123,.int .i64 x123),(124,.int .i64 x124)] h =
 cond (decide (x124<x123))
 (aSome x122 fun p=>ck ((0:Int)≤x124∧x124<((x122n:Nat):Int)) (gInt .i64 (Addr.add (B1 p) (Int.toNat x124*1)) h fun x_1=>gSl (Addr.add x 4) h fun x_2 xn xc=>bnd (C L0 [.slice x_2 xn xc,.int .i64 x_1] h) fun r w=>aBool r fun x_3=>cond x_3
 (gPtr (Addr.add k 3) w fun x_4=>gInt .i64 (Addr.add x 3) w fun x_5=>bnd (C A50 [.pointer x_4,.int .i64 x124,.agg ⟨[.int .i64 obj,.int .i64 3,.int .i64 0,.int .i64 x_5,.int .i64 0,.int .i64 0]⟩] w) fun r_1 w1=>as2 r_1 fun r_2 r_3=>aInt .i64 r_2 fun _=>aInt .i64 r_3 fun _=>R H3 A87 [(7,.pointer (some k)),(11,.pointer (some x)),(12,.int .i64 obj),(89,.slice x89 x89n x89c),(90,.int .i64 x90),(91,.int .i64 x91),(122,.slice x122 x122n x122c),(123,.int .i64 x123),(124,.int .i64 (IntKind.wrap .i64 (x124+1)))] w1)
 (R H3 A87 [(7,.pointer (some k)),(11,.pointer (some x)),(12,.int .i64 obj),(89,.slice x89 x89n x89c),(90,.int .i64 x90),(91,.int .i64 x91),(122,.slice x122 x122n x122c),(123,.int .i64 x123),(124,.int .i64 (IntKind.wrap .i64 (x124+1)))] w)))
 (R H3 A79 [(7,.pointer (some k)),(89,.slice x89 x89n x89c),(90,.int .i64 x90),(91,.int .i64 (IntKind.wrap .i64 (x91+1)))] h):=by kernel_rfl
def Bd4:Cuts:={ globs:=0,loops:=[],regs:=[],plans:=[] }
def B78:List Item:=A6 Tryz.f72
theorem Ej4 (C:A3) (R:A5) (k:Option Addr) (env:Int) (h:H) :
 A7 PR Bd4 C R Aw1 Tryz.f72 100000 true B78 [(0,.pointer k),(1,.int .i64 env)] h =
 aSome k fun p=>gPtr (Addr.add p 6) h fun x=>aSome x fun p_1=>gPtr (Addr.add p_1 3) h fun x_1=>bnd (C A73 [.pointer x_1,.int .i64 env] h) fun r w=>aSl r fun x_2 xn xc=>cond (((xn:Nat):Int)==0)
 (some (.pointer none,w))
 (nw (.cells Dr6 false [.pointer k,.int .i64 env,.slice x_2 xn xc,.slice none 0 0]) w fun b w1=>some (.pointer (some ⟨b,0,none⟩),w1)):=by kernel_rfl
def A59:Cuts:={ globs:=0,loops:=[],regs:=[],plans:=[] }
def Bx6:List Item:=A6 Tryz.f77
theorem D90 (C:A3) (R:A5) (r:Option Addr) (e:Int) (name:Int) (atv:Int) (b:ByteArray) (h:H) :
 A7 PR A59 C R Am6 Tryz.f77 100000 true Bx6 [(0,.pointer r),(1,.int .i64 e),(2,.int .i64 name),(3,.int .i64 atv),(4,.string b)] h =
 bnd (C Al6 [.pointer r,.int .i64 e,.int .i64 name,.int .i64 2,.int .i64 atv,.int .i64 ((ByteArray.size b:Nat):Int)] h) fun r_1 w=>as2 r_1 fun r_2 r_3=>aInt .i64 r_2 fun x=>aInt .i64 r_3 fun x_1=>cond (x_1 != 0)
 (some (.int .i64 x_1,w))
 (aSome r fun p=>gSl (Addr.add p 0) w fun x_2 xn xc=>ckB (fitsOpen x_2 A4 w) (ck ((0:Int)≤x∧x≤((xn:Nat):Int)) (pCells (G9 x_2 (decide (Int.toNat x<xc)) ((Int.toNat x)*1)) (A0 (List.take (min (ByteArray.size b) (xn-(Int.toNat x))) (ByteArray.data b).toList)) w fun w1=>some (.int .i64 0,w1)))):=by kernel_rfl
def B90:Cuts:={ globs:=0,loops:=[],regs:=[],plans:=[] }
def D97:List Item:=A6 Tryz.f88
theorem Gn5 (C:A3) (R:A5) (i:Int) (fv0:Addr) (h:H) :
 A7 PR B90 C R A94 Tryz.f88 100000 true D97 [(0,.int .i64 i),(1,.pointer (some fv0))] h =
 ck ((0:Int)≤i∧i<((8:Nat):Int)) (gInt .i64 (Addr.add (Addr.add fv0 8) (Int.toNat i*1)) h fun x=>some (.bool (x==0),h)):=by kernel_rfl
def B35:Cuts:={ globs:=0,loops:=[],regs:=[],plans:=[] }
def Dy9:List Item:=A6 Tryz.f90
theorem Ge3 (C:A3) (R:A5) (i:Int) (h:H) :
 A7 PR B35 C R A33 Tryz.f90 100000 true Dy9 [(0,.int .i64 i)] h =
 nw (.cells D7 false [.int .i64 0,.int .i64 0]) h fun b w=>pAgg ⟨b,0,none⟩ [.int .i64 2,.int .i64 i] w fun w1=>gAgg ⟨b,0,none⟩ 2 w1 fun x=>some (.agg ⟨x⟩,w1):=by kernel_rfl
def Ab4:Cuts:={ globs:=0,loops:=[],regs:=[(8,[6,8,11,12])],plans:=[(7,⟨[0,1,2,3,4,5,6,7,8,9],[0,1,3,7,0,31,63,31,159,511],[(7,[5])],[]⟩)] }
def Ao0:List Item:=A6 Tryz.f92
def Ah3:List Item:=stk [0,1,0,1,0,1,0,1,0,1,0,1,0,0] Ao0
theorem Dc2 (C:A3) (R:A5) (c:Option Addr) (r:List Value) (decode:Value) (h:H) :
 A7 PR Ab4 C R H6 Tryz.f92 100000 true Ao0 [(0,.pointer c),(1,.agg ⟨r⟩),(2,decode)] h =
 nw (.cells D7 false r) h fun b w=>nw (.cells B7 false [.int .i64 0,.int .i64 0,.int .i64 0,.int .i64 0,.int .u8 0,.int .u8 0,.int .u8 0,.int .u8 0,.int .u8 0,.int .u8 0,.int .u8 0,.int .u8 0,.int .u8 0,.int .u8 0,.int .u8 0,.int .u8 0,.int .u8 0,.int .u8 0,.int .u8 0,.int .u8 0,.int .u8 0,.int .u8 0,.int .u8 0,.int .u8 0,.int .u8 0,.int .u8 0,.int .u8 0,.int .u8 0,.int .u8 0,.int .u8 0,.int .u8 0,.int .u8 0,.int .u8 0,.int .u8 0,.int .u8 0,.int .u8 0]) w fun b_1 w1=>nw (.cells B7 false [.int .i64 0,.int .i64 0,.int .i64 0,.int .i64 0,.int .u8 0,.int .u8 0,.int .u8 0,.int .u8 0,.int .u8 0,.int .u8 0,.int .u8 0,.int .u8 0,.int .u8 0,.int .u8 0,.int .u8 0,.int .u8 0,.int .u8 0,.int .u8 0,.int .u8 0,.int .u8 0,.int .u8 0,.int .u8 0,.int .u8 0,.int .u8 0,.int .u8 0,.int .u8 0,.int .u8 0,.int .u8 0,.int .u8 0,.int .u8 0,.int .u8 0,.int .u8 0,.int .u8 0,.int .u8 0,.int .u8 0,.int .u8 0]) w1 fun b_2 w2=>gAgg ⟨b,0,none⟩ 2 w2 fun x=>bnd (C N0 [.pointer c,.agg ⟨x⟩] w2) fun r_1 w3=>as2 r_1 fun r_2 r_3=>aSl r_2 fun x_1 xn xc=>aBool r_3 fun x_2=>cond (!x_2)
 (gAgg ⟨b_2,0,none⟩ 36 w3 fun x_3=>ck (List.length x_3=36) (pAgg ⟨b_1,0,none⟩ x_3 w3 fun w4=>gAgg ⟨b_1,0,none⟩ 36 w4 fun x_4=>some (.tuple ⟨[.agg ⟨x_4⟩,.int .i64 2]⟩,w4)))
 (aFn decode fun g fi cp=>bnd (C g (fi++([.slice x_1 xn xc]++cp)) w3) fun r_4 w5=>as2 r_4 fun r_5 r_6=>aAgg r_5 fun x_5=>aInt .i64 r_6 fun x_6=>nw (.cells B7 false [.int .i64 0,.int .i64 0,.int .i64 0,.int .i64 0,.int .u8 0,.int .u8 0,.int .u8 0,.int .u8 0,.int .u8 0,.int .u8 0,.int .u8 0,.int .u8 0,.int .u8 0,.int .u8 0,.int .u8 0,.int .u8 0,.int .u8 0,.int .u8 0,.int .u8 0,.int .u8 0,.int .u8 0,.int .u8 0,.int .u8 0,.int .u8 0,.int .u8 0,.int .u8 0,.int .u8 0,.int .u8 0,.int .u8 0,.int .u8 0,.int .u8 0,.int .u8 0,.int .u8 0,.int .u8 0,.int .u8 0,.int .u8 0]) w5 fun b_3 w6=>ck (List.length x_5=36) (pAgg ⟨b_3,0,none⟩ x_5 w6 fun w7=>cond (x_6==2)
 (aSome c fun p=>gMap (Addr.add p 3) w7 fun x_7=>gAgg ⟨b,0,none⟩ 2 w7 fun x_8=>keyN PR D7 (.agg ⟨x_8⟩) (opt x_7 fun r_7=>mapAt w7 r_7 fun es _=>opt (Aj8 (.int .i64 0) (.agg ⟨x_8⟩) es) fun f=>aInt .i64 f.1 fun x_9=>keyN PR D7 (.agg ⟨x_8⟩) (opt x_7 fun r_8=>mapAt w7 r_8 fun es_1 cl_1=>opt (Dt1 (.int .i64 0) (.agg ⟨x_8⟩) es_1 cl_1) fun f_1=>aInt .i64 f_1.1 fun _=>lt (H.set w7 r_8 f_1.2.2) fun w8=>keyN PR D7 (.agg ⟨x_8⟩) (opt x_7 fun r_9=>mapAt w8 r_9 fun es_2 _=>opt (Aj8 (.int .i64 0) (.agg ⟨x_8⟩) es_2) fun f_2=>aInt .i64 f_2.1 fun x_11=>same (.int .i64 x_9) (.int .i64 x_11) (opt x_7 fun r_10=>mapAt w8 r_10 fun es_3 cl_3=>opt (Bg9 (f_1.2.1:Int) es_3 0) fun i=>lt (H.set w8 r_10 (.map (modN (fun e=>{ e with val:=.int .i64 (IntKind.wrap .i64 (x_9+1)) }) i es_3) cl_3)) fun w9=>R H6 Ah3 [(6,.pointer (some ⟨b_1,0,none⟩)),(8,.pointer (some ⟨b_2,0,none⟩)),(11,.pointer (some ⟨b_3,0,none⟩)),(12,.int .i64 x_6)] w9)))))
 (R H6 Ah3 [(6,.pointer (some ⟨b_1,0,none⟩)),(8,.pointer (some ⟨b_2,0,none⟩)),(11,.pointer (some ⟨b_3,0,none⟩)),(12,.int .i64 x_6)] w7))):=by kernel_rfl
theorem A24 (C:A3) (R:A5) (x6:Addr) (nonev:Addr) (v:Addr) (isv:Int) (h:H) :
 A7 PR Ab4 C R H6 Tryz.f92 100000 true Ah3 [(6,.pointer (some x6)),(8,.pointer (some nonev)),(11,.pointer (some v)),(12,.int .i64 isv)] h =
 cond (isv != 1)
 (gAgg nonev 36 h fun x=>ck (List.length x=36) (pAgg x6 x h fun w=>gAgg x6 36 w fun x_1=>some (.tuple ⟨[.agg ⟨x_1⟩,.int .i64 isv]⟩,w)))
 (gAgg v 36 h fun x_2=>ck (List.length x_2=36) (pAgg x6 x_2 h fun w1=>gAgg x6 36 w1 fun x_3=>some (.tuple ⟨[.agg ⟨x_3⟩,.int .i64 isv]⟩,w1))):=by kernel_rfl
def B93:Cuts:={ globs:=0,loops:=[],regs:=[],plans:=[] }
def Ea9:List Item:=A6 Tryz.f94
theorem Go3 (C:A3) (R:A5) (b:Option Addr) (bn bc:Nat) (h:H) :
 A7 PR B93 C R At1 Tryz.f94 100000 true Ea9 [(0,.slice b bn bc)] h =
 nw (.cells B7 false [.int .i64 0,.int .i64 0,.int .i64 0,.int .i64 0,.int .u8 0,.int .u8 0,.int .u8 0,.int .u8 0,.int .u8 0,.int .u8 0,.int .u8 0,.int .u8 0,.int .u8 0,.int .u8 0,.int .u8 0,.int .u8 0,.int .u8 0,.int .u8 0,.int .u8 0,.int .u8 0,.int .u8 0,.int .u8 0,.int .u8 0,.int .u8 0,.int .u8 0,.int .u8 0,.int .u8 0,.int .u8 0,.int .u8 0,.int .u8 0,.int .u8 0,.int .u8 0,.int .u8 0,.int .u8 0,.int .u8 0,.int .u8 0]) h fun b_1 w=>bnd (cond (((bn:Nat):Int)==40) (bnd (C Ak5 [.slice b bn bc] w) fun r w1=>aBool r fun x=>some (x,w1)) (some (false,w))) fun c w2=>cond c
 (pAgg ⟨b_1,0,none⟩ [.int .i64 0,.int .i64 0,.int .i64 0,.int .i64 0,.int .u8 0,.int .u8 0,.int .u8 0,.int .u8 0,.int .u8 0,.int .u8 0,.int .u8 0,.int .u8 0,.int .u8 0,.int .u8 0,.int .u8 0,.int .u8 0,.int .u8 0,.int .u8 0,.int .u8 0,.int .u8 0,.int .u8 0,.int .u8 0,.int .u8 0,.int .u8 0,.int .u8 0,.int .u8 0,.int .u8 0,.int .u8 0,.int .u8 0,.int .u8 0,.int .u8 0,.int .u8 0,.int .u8 0,.int .u8 0,.int .u8 0,.int .u8 0] w2 fun w3=>gAgg ⟨b_1,0,none⟩ 36 w3 fun x_1=>some (.tuple ⟨[.agg ⟨x_1⟩,.int .i64 0]⟩,w3))
 (bnd (C Be5 [] w2) fun r_1 w4=>aPtr r_1 fun x_2=>bnd (C S9 [.pointer x_2,.slice b bn bc] w4) fun r_2 w5=>as2 r_2 fun r_3 r_4=>aAgg r_3 fun x_3=>aBool r_4 fun x_4=>nw (.cells B7 false [.int .i64 0,.int .i64 0,.int .i64 0,.int .i64 0,.int .u8 0,.int .u8 0,.int .u8 0,.int .u8 0,.int .u8 0,.int .u8 0,.int .u8 0,.int .u8 0,.int .u8 0,.int .u8 0,.int .u8 0,.int .u8 0,.int .u8 0,.int .u8 0,.int .u8 0,.int .u8 0,.int .u8 0,.int .u8 0,.int .u8 0,.int .u8 0,.int .u8 0,.int .u8 0,.int .u8 0,.int .u8 0,.int .u8 0,.int .u8 0,.int .u8 0,.int .u8 0,.int .u8 0,.int .u8 0,.int .u8 0,.int .u8 0]) w5 fun b_2 w6=>ck (List.length x_3=36) (pAgg ⟨b_2,0,none⟩ x_3 w6 fun w7=>cond (!x_4)
 (pAgg ⟨b_1,0,none⟩ [.int .i64 0,.int .i64 0,.int .i64 0,.int .i64 0,.int .u8 0,.int .u8 0,.int .u8 0,.int .u8 0,.int .u8 0,.int .u8 0,.int .u8 0,.int .u8 0,.int .u8 0,.int .u8 0,.int .u8 0,.int .u8 0,.int .u8 0,.int .u8 0,.int .u8 0,.int .u8 0,.int .u8 0,.int .u8 0,.int .u8 0,.int .u8 0,.int .u8 0,.int .u8 0,.int .u8 0,.int .u8 0,.int .u8 0,.int .u8 0,.int .u8 0,.int .u8 0,.int .u8 0,.int .u8 0,.int .u8 0,.int .u8 0] w7 fun w8=>gAgg ⟨b_1,0,none⟩ 36 w8 fun x_5=>some (.tuple ⟨[.agg ⟨x_5⟩,.int .i64 2]⟩,w8))
 (gAgg ⟨b_2,0,none⟩ 36 w7 fun x_6=>ck (List.length x_6=36) (pAgg ⟨b_1,0,none⟩ x_6 w7 fun w9=>gAgg ⟨b_1,0,none⟩ 36 w9 fun x_7=>some (.tuple ⟨[.agg ⟨x_7⟩,.int .i64 1]⟩,w9))))):=by kernel_rfl
def Am0:Cuts:={ globs:=0,loops:=[],regs:=[],plans:=[] }
def Bb6:List Item:=A6 Tryz.f105
theorem Dg5 (C:A3) (R:A5) (s:Option Addr) (sn sc:Nat) (h:H) :
 A7 PR Am0 C R S4 Tryz.f105 100000 true Bb6 [(0,.slice s sn sc)] h =
 ckB (fitsOpen s A4 h) (ck ((0:Int)≤((sn:Nat):Int)∧((sn:Nat):Int)≤((sc:Nat):Int)) (ck ((0:Int)≤((sn:Nat):Int)∧((sn:Nat):Int)≤((Int.toNat ((sn:Nat):Int):Nat):Int)) (some (.slice (Bu5 (G9 s (decide (0<Int.toNat ((sn:Nat):Int))) (0*1))) ((Int.toNat ((sn:Nat):Int))-0) ((Int.toNat ((sn:Nat):Int))-0),h)))):=by kernel_rfl
def Ac4:Cuts:={ globs:=0,loops:=[],regs:=[(8,[6,8,11,12])],plans:=[(7,⟨[0,1,2,3,4,5,6,7,8,9],[0,1,3,7,0,31,63,31,159,511],[(7,[5])],[]⟩)] }
def An6:List Item:=A6 Tryz.f110
def Ah4:List Item:=stk [0,1,0,1,0,1,0,1,0,1,0,1,0,0] An6
theorem Dc9 (C:A3) (R:A5) (c:Option Addr) (r:List Value) (decode:Value) (h:H) :
 A7 PR Ac4 C R I9 Tryz.f110 100000 true An6 [(0,.pointer c),(1,.agg ⟨r⟩),(2,decode)] h =
 nw (.cells D7 false r) h fun b w=>nw (.cells D6 false [.int .i64 0,.int .i64 0,.int .i64 0,.int .i64 0,.int .i64 0,.int .i64 0,.int .i64 0,.int .i64 0,.int .i64 0,.int .i64 0,.int .i64 0,.int .i64 0,.int .i64 0,.int .i64 0,.int .i64 0,.int .i64 0]) w fun b_1 w1=>nw (.cells D6 false [.int .i64 0,.int .i64 0,.int .i64 0,.int .i64 0,.int .i64 0,.int .i64 0,.int .i64 0,.int .i64 0,.int .i64 0,.int .i64 0,.int .i64 0,.int .i64 0,.int .i64 0,.int .i64 0,.int .i64 0,.int .i64 0]) w1 fun b_2 w2=>gAgg ⟨b,0,none⟩ 2 w2 fun x=>bnd (C N0 [.pointer c,.agg ⟨x⟩] w2) fun r_1 w3=>as2 r_1 fun r_2 r_3=>aSl r_2 fun x_1 xn xc=>aBool r_3 fun x_2=>cond (!x_2)
 (gAgg ⟨b_2,0,none⟩ 16 w3 fun x_3=>ck (List.length x_3=16) (pAgg ⟨b_1,0,none⟩ x_3 w3 fun w4=>gAgg ⟨b_1,0,none⟩ 16 w4 fun x_4=>some (.tuple ⟨[.agg ⟨x_4⟩,.int .i64 2]⟩,w4)))
 (aFn decode fun g fi cp=>bnd (C g (fi++([.slice x_1 xn xc]++cp)) w3) fun r_4 w5=>as2 r_4 fun r_5 r_6=>aAgg r_5 fun x_5=>aInt .i64 r_6 fun x_6=>nw (.cells D6 false [.int .i64 0,.int .i64 0,.int .i64 0,.int .i64 0,.int .i64 0,.int .i64 0,.int .i64 0,.int .i64 0,.int .i64 0,.int .i64 0,.int .i64 0,.int .i64 0,.int .i64 0,.int .i64 0,.int .i64 0,.int .i64 0]) w5 fun b_3 w6=>ck (List.length x_5=16) (pAgg ⟨b_3,0,none⟩ x_5 w6 fun w7=>cond (x_6==2)
 (aSome c fun p=>gMap (Addr.add p 3) w7 fun x_7=>gAgg ⟨b,0,none⟩ 2 w7 fun x_8=>keyN PR D7 (.agg ⟨x_8⟩) (opt x_7 fun r_7=>mapAt w7 r_7 fun es _=>opt (Aj8 (.int .i64 0) (.agg ⟨x_8⟩) es) fun f=>aInt .i64 f.1 fun x_9=>keyN PR D7 (.agg ⟨x_8⟩) (opt x_7 fun r_8=>mapAt w7 r_8 fun es_1 cl_1=>opt (Dt1 (.int .i64 0) (.agg ⟨x_8⟩) es_1 cl_1) fun f_1=>aInt .i64 f_1.1 fun _=>lt (H.set w7 r_8 f_1.2.2) fun w8=>keyN PR D7 (.agg ⟨x_8⟩) (opt x_7 fun r_9=>mapAt w8 r_9 fun es_2 _=>opt (Aj8 (.int .i64 0) (.agg ⟨x_8⟩) es_2) fun f_2=>aInt .i64 f_2.1 fun x_11=>same (.int .i64 x_9) (.int .i64 x_11) (opt x_7 fun r_10=>mapAt w8 r_10 fun es_3 cl_3=>opt (Bg9 (f_1.2.1:Int) es_3 0) fun i=>lt (H.set w8 r_10 (.map (modN (fun e=>{ e with val:=.int .i64 (IntKind.wrap .i64 (x_9+1)) }) i es_3) cl_3)) fun w9=>R I9 Ah4 [(6,.pointer (some ⟨b_1,0,none⟩)),(8,.pointer (some ⟨b_2,0,none⟩)),(11,.pointer (some ⟨b_3,0,none⟩)),(12,.int .i64 x_6)] w9)))))
 (R I9 Ah4 [(6,.pointer (some ⟨b_1,0,none⟩)),(8,.pointer (some ⟨b_2,0,none⟩)),(11,.pointer (some ⟨b_3,0,none⟩)),(12,.int .i64 x_6)] w7))):=by kernel_rfl
theorem A21 (C:A3) (R:A5) (x6:Addr) (nonev:Addr) (v:Addr) (isv:Int) (h:H) :
 A7 PR Ac4 C R I9 Tryz.f110 100000 true Ah4 [(6,.pointer (some x6)),(8,.pointer (some nonev)),(11,.pointer (some v)),(12,.int .i64 isv)] h =
 cond (isv != 1)
 (gAgg nonev 16 h fun x=>ck (List.length x=16) (pAgg x6 x h fun w=>gAgg x6 16 w fun x_1=>some (.tuple ⟨[.agg ⟨x_1⟩,.int .i64 isv]⟩,w)))
 (gAgg v 16 h fun x_2=>ck (List.length x_2=16) (pAgg x6 x_2 h fun w1=>gAgg x6 16 w1 fun x_3=>some (.tuple ⟨[.agg ⟨x_3⟩,.int .i64 isv]⟩,w1))):=by kernel_rfl
def Al8:Cuts:={ globs:=0,loops:=[],regs:=[(8,[8,11,12])],plans:=[(7,⟨[0,1,2,3,4,5,6,7,8,9],[0,1,3,7,0,31,63,31,159,511],[(7,[5])],[]⟩)] }
def A45:List Item:=A6 Tryz.f115
def As5:List Item:=stk [0,1,0,1,0,1,0,1,0,1,0,1,0,0] A45
theorem D71 (C:A3) (R:A5) (c:Option Addr) (r:List Value) (decode:Value) (h:H) :
 A7 PR Al8 C R P1 Tryz.f115 100000 true A45 [(0,.pointer c),(1,.agg ⟨r⟩),(2,decode)] h =
 nw (.cells D7 false r) h fun b w=>gAgg ⟨b,0,none⟩ 2 w fun x=>bnd (C N0 [.pointer c,.agg ⟨x⟩] w) fun r_1 w1=>as2 r_1 fun r_2 r_3=>aSl r_2 fun x_1 xn xc=>aBool r_3 fun x_2=>cond (!x_2)
 (some (.tuple ⟨[.int .i64 0,.int .i64 2]⟩,w1))
 (aFn decode fun g fi cp=>bnd (C g (fi++([.slice x_1 xn xc]++cp)) w1) fun r_4 w2=>as2 r_4 fun r_5 r_6=>aInt .i64 r_5 fun x_3=>aInt .i64 r_6 fun x_4=>cond (x_4==2)
 (aSome c fun p=>gMap (Addr.add p 3) w2 fun x_5=>gAgg ⟨b,0,none⟩ 2 w2 fun x_6=>keyN PR D7 (.agg ⟨x_6⟩) (opt x_5 fun r_7=>mapAt w2 r_7 fun es _=>opt (Aj8 (.int .i64 0) (.agg ⟨x_6⟩) es) fun f=>aInt .i64 f.1 fun x_7=>keyN PR D7 (.agg ⟨x_6⟩) (opt x_5 fun r_8=>mapAt w2 r_8 fun es_1 cl_1=>opt (Dt1 (.int .i64 0) (.agg ⟨x_6⟩) es_1 cl_1) fun f_1=>aInt .i64 f_1.1 fun _=>lt (H.set w2 r_8 f_1.2.2) fun w3=>keyN PR D7 (.agg ⟨x_6⟩) (opt x_5 fun r_9=>mapAt w3 r_9 fun es_2 _=>opt (Aj8 (.int .i64 0) (.agg ⟨x_6⟩) es_2) fun f_2=>aInt .i64 f_2.1 fun x_9=>same (.int .i64 x_7) (.int .i64 x_9) (opt x_5 fun r_10=>mapAt w3 r_10 fun es_3 cl_3=>opt (Bg9 (f_1.2.1:Int) es_3 0) fun i=>lt (H.set w3 r_10 (.map (modN (fun e=>{ e with val:=.int .i64 (IntKind.wrap .i64 (x_7+1)) }) i es_3) cl_3)) fun w4=>R P1 As5 [(8,.int .i64 0),(11,.int .i64 x_3),(12,.int .i64 x_4)] w4)))))
 (R P1 As5 [(8,.int .i64 0),(11,.int .i64 x_3),(12,.int .i64 x_4)] w2)):=by kernel_rfl
theorem Bi6 (C:A3) (R:A5) (nonev:Int) (v:Int) (isv:Int) (h:H) :
 A7 PR Al8 C R P1 Tryz.f115 100000 true As5 [(8,.int .i64 nonev),(11,.int .i64 v),(12,.int .i64 isv)] h =
 cond (isv != 1)
 (some (.tuple ⟨[.int .i64 nonev,.int .i64 isv]⟩,h))
 (some (.tuple ⟨[.int .i64 v,.int .i64 isv]⟩,h)):=by kernel_rfl
def A62:Cuts:={ globs:=0,loops:=[],regs:=[],plans:=[] }
def Bx7:List Item:=A6 Tryz.f117
theorem D26 (C:A3) (R:A5) (g:Int) (h:H) :
 A7 PR A62 C R Ao1 Tryz.f117 100000 true Bx7 [(0,.int .i64 g)] h =
 bnd (cond (decide (g<0)) (some (true,h)) (some (decide (g≥8),h))) fun c w=>cond c
 (some (.tuple ⟨[.slice none 0 0,.bool false]⟩,w))
 (nw (.cells A4 false [.int .u8 (IntKind.wrap .u8 (g)),.int .u8 211]) w fun b w1=>bnd (C Z9 [.slice (some ⟨b,0,none⟩) 2 2] w1) fun r w2=>aInt .u8 r fun x=>nw (.cells A4 false [.int .u8 x,.int .u8 0]) w2 fun b_1 w3=>gCells (some ⟨b_1,0,none⟩) (2*1) w3 fun cs=>ckB (fitsOpen (some ⟨b,0,none⟩) A4 w3) (apd A4 1 (some ⟨b,0,none⟩) 2 2 2 cs w3 fun a an ac w4=>some (.tuple ⟨[.slice a an ac,.bool true]⟩,w4))):=by kernel_rfl
def Df3:Cuts:={ globs:=0,loops:=[(3,[3,8,9])],regs:=[],plans:=[(4,⟨[0,1,2,3,4,5,6,7,8,9,10],[0,0,2,6,14,0,32,126,255,511,1023],[(5,[4])],[]⟩)] }
def D61:List Item:=A6 Tryz.f122
def Bo1:List Item:=stk [0,1,0,1,0,0,1,4,5] D61
theorem He1 (C:A3) (R:A5) (envs:Int) (h:H) :
 A7 PR Df3 C R Au3 Tryz.f122 100000 true D61 [(0,.int .i64 envs)] h =
 nw (.cells Ar1 false [.slice none 0 0]) h fun b w=>R Au3 Bo1 [(3,.pointer (some ⟨b,0,none⟩)),(8,.int .i64 (mm2 false (mm2 true envs 0) 40)),(9,.int .i64 0)] w:=by kernel_rfl
theorem D98 (C:A3) (R:A5) (s:Addr) (x8:Int) (x9:Int) (h:H) :
 A7 PR Df3 C R Au3 Tryz.f122 100000 true Bo1 [(3,.pointer (some s)),(8,.int .i64 x8),(9,.int .i64 x9)] h =
 cond (decide (x9<x8))
 (gSl (Addr.add s 0) h fun x xn xc=>bnd (C N6 [.int .i64 32] h) fun r w=>aPtr r fun x_1=>gSl (Addr.add s 0) w fun x_2 xn_1 xc_1=>same (.slice x xn xc) (.slice x_2 xn_1 xc_1) (nw (.cells G2 false [.pointer x_1]) w fun b w1=>gCells (some ⟨b,0,none⟩) (1*1) w1 fun cs=>ckB (fitsOpen x G2 w1) (apd G2 1 x xn xc 1 cs w1 fun a an ac w2=>pV (Addr.add s 0) (.slice a an ac) w2 fun w3=>R Au3 Bo1 [(3,.pointer (some s)),(8,.int .i64 x8),(9,.int .i64 (IntKind.wrap .i64 (x9+1)))] w3)))
 (some (.pointer (some s),h)):=by kernel_rfl
def As1:Cuts:={ globs:=0,loops:=[(3,[5,20,21,22])],regs:=[],plans:=[(2,⟨[0,1,2,3,4,5,6,7,8,9,10,11,12,13,14],[0,1,3,7,0,16,0,64,192,448,960,2032,4095,8191,0],[],[]⟩)] }
def Ba5:List Item:=A6 Tryz.f127
def Ah9:List Item:=stk [0,1,0,1,0,0,1,4,5] Ba5
theorem Ec4 (C:A3) (R:A5) (q:Option Addr) (s:Int) (h:H) :
 A7 PR As1 C R N8 Tryz.f127 100000 true Ba5 [(0,.pointer q),(1,.int .i64 s)] h =
 aSome q fun p=>gSl (Addr.add p 0) h fun x _ xc=>aSome q fun p_1=>gSl (Addr.add p_1 0) h fun _ xn_1 _=>ckB (fitsOpen x O9 h) (ck ((0:Int)≤mm2 false (mm2 true s 0) ((xn_1:Nat):Int)∧mm2 false (mm2 true s 0) ((xn_1:Nat):Int)≤((xc:Nat):Int)) (R N8 Ah9 [(5,.int .i64 0),(20,.slice (G9 x (decide (0<xc)) (0*1)) ((Int.toNat (mm2 false (mm2 true s 0) ((xn_1:Nat):Int)))-0) (xc-0)),(21,.int .i64 (((Int.toNat (mm2 false (mm2 true s 0) ((xn_1:Nat):Int)))-0:Nat):Int)),(22,.int .i64 0)] h)):=by kernel_rfl
theorem Bl0 (C:A3) (R:A5) (n:Int) (x20:Option Addr) (x20n x20c:Nat) (x21:Int) (x22:Int) (h:H) :
 A7 PR As1 C R N8 Tryz.f127 100000 true Ah9 [(5,.int .i64 n),(20,.slice x20 x20n x20c),(21,.int .i64 x21),(22,.int .i64 x22)] h =
 cond (decide (x22<x21))
 (aSome x20 fun p=>ck ((0:Int)≤x22∧x22<((x20n:Nat):Int)) (gSl (Addr.add (B1 p) (Int.toNat x22*1)) h fun _ xn _=>R N8 Ah9 [(5,.int .i64 (IntKind.wrap .i64 (n+((xn:Nat):Int)))),(20,.slice x20 x20n x20c),(21,.int .i64 x21),(22,.int .i64 (IntKind.wrap .i64 (x22+1)))] h))
 (some (.int .i64 n,h)):=by kernel_rfl
def Dp5:Cuts:={ globs:=0,loops:=[(2,[0,1,5])],regs:=[],plans:=[] }
def Em4:List Item:=A6 Tryz.f134
def Bv3:List Item:=stk [0,1,0,0,1,4,5] Em4
theorem Ht4 (C:A3) (R:A5) (l:Option Addr) (ln lc:Nat) (s:Int) (h:H) :
 A7 PR Dp5 C R A38 Tryz.f134 100000 true Em4 [(0,.slice l ln lc),(1,.int .i64 s)] h =
 R A38 Bv3 [(0,.slice l ln lc),(1,.int .i64 s),(5,.int .i64 0)] h:=by kernel_rfl
theorem Ej0 (C:A3) (R:A5) (l:Option Addr) (ln lc:Nat) (s:Int) (i:Int) (h:H) :
 A7 PR Dp5 C R A38 Tryz.f134 100000 true Bv3 [(0,.slice l ln lc),(1,.int .i64 s),(5,.int .i64 i)] h =
 cond (decide (i<((ln:Nat):Int)))
 (aSome l fun p=>ck ((0:Int)≤i∧i<((ln:Nat):Int)) (gInt .i64 (Addr.add (B1 p) (Int.toNat i*1)) h fun x=>cond (x==s)
 (some (.bool true,h))
 (R A38 Bv3 [(0,.slice l ln lc),(1,.int .i64 s),(5,.int .i64 (IntKind.wrap .i64 (i+1)))] h)))
 (some (.bool false,h)):=by kernel_rfl
def Bp4:Cuts:={ globs:=0,loops:=[],regs:=[],plans:=[] }
def Dn3:List Item:=A6 Tryz.f135
theorem E07 (C:A3) (R:A5) (s:Option Addr) (e:Int) (c:List Value) (h:H) :
 A7 PR Bp4 C R A70 Tryz.f135 100000 true Dn3 [(0,.pointer s),(1,.int .i64 e),(2,.agg ⟨c⟩)] h =
 nw (.cells N9 false c) h fun b w=>bnd (C Ah2 [.pointer s,.int .i64 e] w) fun r w1=>aBool r fun x=>bnd (cond (!x) (some (true,w1)) (gInt .i64 (Addr.add ⟨b,0,none⟩ 1) w1 fun x_1=>some (decide (x_1<0),w1))) fun c_1 w2=>bnd (cond c_1 (some (true,w2)) (gInt .i64 (Addr.add ⟨b,0,none⟩ 1) w2 fun x_2=>some (decide (x_2>7),w2))) fun c_2 w3=>bnd (cond c_2 (some (true,w3)) (gInt .i64 (Addr.add ⟨b,0,none⟩ 2) w3 fun x_3=>some (decide (x_3<0),w3))) fun c_3 w4=>bnd (cond c_3 (some (true,w4)) (gInt .i64 (Addr.add ⟨b,0,none⟩ 2) w4 fun x_4=>some (decide (x_4>65536),w4))) fun c_4 w5=>bnd (cond c_4 (some (true,w5)) (gInt .i64 (Addr.add ⟨b,0,none⟩ 3) w5 fun x_5=>some (decide (x_5<0),w5))) fun c_5 w6=>bnd (cond c_5 (some (true,w6)) (gInt .i64 (Addr.add ⟨b,0,none⟩ 3) w6 fun x_6=>some (decide (x_6>65536),w6))) fun c_6 w7=>cond c_6
 (some (.tuple ⟨[.int .i64 0,.int .i64 1]⟩,w7))
 (pAgg (Addr.add ⟨b,0,none⟩ 4) [.int .i64 0,.int .i64 0] w7 fun w8=>gAgg ⟨b,0,none⟩ 6 w8 fun x_7=>bnd (C A61 [.pointer s,.int .i64 e,.agg ⟨x_7⟩] w8) fun r_1 w9=>as2 r_1 fun r_2 r_3=>aInt .i64 r_2 fun x_8=>aInt .i64 r_3 fun x_9=>some (.tuple ⟨[.int .i64 x_8,.int .i64 x_9]⟩,w9)):=by kernel_rfl
def Bk0:Cuts:={ globs:=0,loops:=[],regs:=[],plans:=[] }
def Db5:List Item:=A6 Tryz.f146
theorem Es1 (C:A3) (R:A5) (k:Option Addr) (env:Int) (c:List Value) (h:H) :
 A7 PR Bk0 C R Az2 Tryz.f146 100000 true Db5 [(0,.pointer k),(1,.int .i64 env),(2,.agg ⟨c⟩)] h =
 nw (.cells Aw0 false c) h fun b w=>gInt .i64 (Addr.add ⟨b,0,none⟩ 3) w fun x=>bnd (C Aq6 [.pointer k,.int .i64 env,.int .i64 x] w) fun r w1=>as2 r fun r_1 r_2=>aPtr r_1 fun x_1=>aInt .i64 r_2 fun x_2=>cond (x_2 != 0)
 (some (.tuple ⟨[.int .i64 0,.int .i64 x_2]⟩,w1))
 (aSome k fun p=>gInt .i64 (Addr.add p 7) w1 fun x_3=>bnd (C B6 [.pointer x_1,.int .i64 env,.int .i64 x_3] w1) fun r_3 w2=>as2 r_3 fun r_4 r_5=>aInt .i64 r_4 fun x_4=>aBool r_5 fun _=>some (.tuple ⟨[.int .i64 x_4,.int .i64 0]⟩,w2)):=by kernel_rfl
def B89:Cuts:={ globs:=0,loops:=[],regs:=[],plans:=[] }
def Ea8:List Item:=A6 Tryz.f151
theorem Gn2 (C:A3) (R:A5) (atv:Int) (n:Int) (size:Int) (h:H) :
 A7 PR B89 C R Ae6 Tryz.f151 100000 true Ea8 [(0,.int .i64 atv),(1,.int .i64 n),(2,.int .i64 size)] h =
 bnd (cond (decide (atv≥0)) (some (decide (n≥0),h)) (some (false,h))) fun c w=>bnd (cond c (some (decide (atv≤size),w)) (some (false,w))) fun c_1 w1=>bnd (cond c_1 (some (decide (n≤(IntKind.wrap .i64 (size-atv))),w1)) (some (false,w1))) fun c_2 w2=>some (.bool c_2,w2):=by kernel_rfl
def Ay1:Cuts:={ globs:=0,loops:=[],regs:=[],plans:=[(2,⟨[0,1,2,3,4,5,6,7,8,9,10],[0,1,3,7,15,31,63,7,255,511,1023],[],[]⟩),(4,⟨[0,1,2,3,4,5,6,7,8,9,10,11,12,13,14,16,15,17],[0,1,3,7,0,16,48,112,0,256,0,1024,0,4096,16128,32767,0,131071],[],[]⟩),(6,⟨[0,1,2,3,4,5,6,7,8,9],[0,1,3,7,0,31,63,31,159,511],[(7,[5])],[]⟩)] }
def Bl1:List Item:=A6 Tryz.f159
theorem Dt4 (C:A3) (R:A5) (c:Option Addr) (r:List Value) (h:H) :
 A7 PR Ay1 C R N0 Tryz.f159 100000 true Bl1 [(0,.pointer c),(1,.agg ⟨r⟩)] h =
 nw (.cells D7 false r) h fun b w=>gAgg ⟨b,0,none⟩ 2 w fun x=>bnd (C W2 [.pointer c,.agg ⟨x⟩] w) fun r_1 w1=>as2 r_1 fun r_2 r_3=>aAgg r_2 fun x_1=>aBool r_3 fun x_2=>nw (.cells Bw5 false [.int .i64 0,.int .i64 0,.int .i64 0]) w1 fun b_1 w2=>ck (List.length x_1=3) (pAgg ⟨b_1,0,none⟩ x_1 w2 fun w3=>bnd (cond (!x_2) (some (true,w3)) (aSome c fun p=>gMap (Addr.add p 3) w3 fun x_3=>gAgg ⟨b,0,none⟩ 2 w3 fun x_4=>keyN PR D7 (.agg ⟨x_4⟩) (opt x_3 fun r_4=>mapAt w3 r_4 fun es _=>opt (Aj8 (.int .i64 0) (.agg ⟨x_4⟩) es) fun f=>aInt .i64 f.1 fun x_5=>some (decide (x_5>0),w3)))) fun c_1 w4=>cond c_1
 (some (.tuple ⟨[.slice none 0 0,.bool false]⟩,w4))
 (aSome c fun p_1=>gPtr (Addr.add p_1 0) w4 fun x_6=>aSome c fun p_2=>gInt .i64 (Addr.add p_2 1) w4 fun x_7=>gInt .i64 (Addr.add ⟨b_1,0,none⟩ 0) w4 fun x_8=>gInt .i64 (Addr.add ⟨b_1,0,none⟩ 1) w4 fun x_9=>gInt .i64 (Addr.add ⟨b_1,0,none⟩ 2) w4 fun x_10=>nw (.cells Ei2 false [.int .i64 0,.int .i64 0,.slice none 0 0]) w4 fun b_2 w5=>bnd (C Q1 [.pointer x_6,.int .i64 x_7,.agg ⟨[.int .i64 1,.int .i64 x_8,.int .i64 x_9,.int .i64 x_10,.int .i64 0,.int .i64 0,.slice none 0 0]⟩] w5) fun r_5 w6=>aAgg r_5 fun x_11=>ck (List.length x_11=3) (pAgg ⟨b_2,0,none⟩ x_11 w6 fun w7=>gInt .i64 (Addr.add ⟨b_2,0,none⟩ 0) w7 fun x_12=>cond (x_12 != 0)
 (aSome c fun p_3=>gMap (Addr.add p_3 3) w7 fun x_13=>gAgg ⟨b,0,none⟩ 2 w7 fun x_14=>keyN PR D7 (.agg ⟨x_14⟩) (opt x_13 fun r_6=>mapAt w7 r_6 fun es_1 _=>opt (Aj8 (.int .i64 0) (.agg ⟨x_14⟩) es_1) fun f_1=>aInt .i64 f_1.1 fun x_15=>keyN PR D7 (.agg ⟨x_14⟩) (opt x_13 fun r_7=>mapAt w7 r_7 fun es_2 cl_2=>opt (Dt1 (.int .i64 0) (.agg ⟨x_14⟩) es_2 cl_2) fun f_2=>aInt .i64 f_2.1 fun _=>lt (H.set w7 r_7 f_2.2.2) fun w8=>keyN PR D7 (.agg ⟨x_14⟩) (opt x_13 fun r_8=>mapAt w8 r_8 fun es_3 _=>opt (Aj8 (.int .i64 0) (.agg ⟨x_14⟩) es_3) fun f_3=>aInt .i64 f_3.1 fun x_17=>same (.int .i64 x_15) (.int .i64 x_17) (opt x_13 fun r_9=>mapAt w8 r_9 fun es_4 cl_4=>opt (Bg9 (f_2.2.1:Int) es_4 0) fun i=>lt (H.set w8 r_9 (.map (modN (fun e=>{ e with val:=.int .i64 (IntKind.wrap .i64 (x_15+1)) }) i es_4) cl_4)) fun w9=>some (.tuple ⟨[.slice none 0 0,.bool false]⟩,w9))))))
 (gSl (Addr.add ⟨b_2,0,none⟩ 2) w7 fun x_18 xn xc=>some (.tuple ⟨[.slice x_18 xn xc,.bool true]⟩,w7))))):=by kernel_rfl
def Af4:Cuts:={ globs:=0,loops:=[],regs:=[],plans:=[(4,⟨[0,1,2,3,4,10,5,6,7,8,9,11,12],[0,1,3,7,0,16,63,127,255,255,0,1535,4095],[(5,[3])],[]⟩)] }
def Ay8:List Item:=A6 Tryz.f162
theorem Bz1 (C:A3) (R:A5) (c:Option Addr) (b:Option Addr) (bn bc:Nat) (h:H) :
 A7 PR Af4 C R U5 Tryz.f162 100000 true Ay8 [(0,.pointer c),(1,.slice b bn bc)] h =
 nw (.cells D2 false [.int .i64 0,.int .i64 0,.int .i64 0,.int .i64 0]) h fun b_1 w=>nw (.cells D2 false [.int .i64 0,.int .i64 0,.int .i64 0,.int .i64 0]) w fun b_2 w1=>aSome c fun p=>gFv (Addr.add p 2) w1 fun x=>isNilF x fun b_3=>bnd (cond b_3 (some (true,w1)) (aSome c fun p_1=>gInt .i64 (Addr.add p_1 0) w1 fun x_1=>some (((bn:Nat):Int) != x_1,w1))) fun c_1 w2=>cond c_1
 (gAgg ⟨b_2,0,none⟩ 4 w2 fun x_2=>ck (List.length x_2=4) (pAgg ⟨b_1,0,none⟩ x_2 w2 fun w3=>gAgg ⟨b_1,0,none⟩ 4 w3 fun x_3=>some (.tuple ⟨[.agg ⟨x_3⟩,.bool false]⟩,w3)))
 (aSome c fun p_2=>gFv (Addr.add p_2 2) w2 fun x_4=>nw (.cells D2 false [.int .i64 0,.int .i64 0,.int .i64 0,.int .i64 0]) w2 fun b_4 w4=>bnd (C G1 [.slice b bn bc] w4) fun r w5=>aSl r fun x_5 xn xc=>gFv (Addr.add p_2 2) w5 fun x_6=>Bh7 (x_4) (x_6) (aFn x_4 fun g fi cp=>bnd (C g (fi++([.slice x_5 xn xc]++cp)) w5) fun r_1 w6=>as2 r_1 fun r_2 r_3=>aAgg r_2 fun x_7=>aBool r_3 fun x_8=>ck (List.length x_7=4) (pAgg ⟨b_4,0,none⟩ x_7 w6 fun w7=>cond (!x_8)
 (gAgg ⟨b_2,0,none⟩ 4 w7 fun x_9=>ck (List.length x_9=4) (pAgg ⟨b_1,0,none⟩ x_9 w7 fun w8=>gAgg ⟨b_1,0,none⟩ 4 w8 fun x_10=>some (.tuple ⟨[.agg ⟨x_10⟩,.bool false]⟩,w8)))
 (gAgg ⟨b_4,0,none⟩ 4 w7 fun x_11=>ck (List.length x_11=4) (pAgg ⟨b_1,0,none⟩ x_11 w7 fun w9=>gAgg ⟨b_1,0,none⟩ 4 w9 fun x_12=>some (.tuple ⟨[.agg ⟨x_12⟩,.bool true]⟩,w9)))))):=by kernel_rfl
def B94:Cuts:={ globs:=0,loops:=[],regs:=[],plans:=[] }
def Eb3:List Item:=A6 Tryz.f168
theorem Gn1 (C:A3) (R:A5)  (h:H) :
 A7 PR B94 C R A83 Tryz.f168 100000 true Eb3 [] h =
 bnd (C An3 [.int .i64 24,.func (.func M9) ⟨[]⟩ ⟨[]⟩,.func (.func V6) ⟨[]⟩ ⟨[]⟩] h) fun r w=>aPtr r fun x=>some (.pointer x,w):=by kernel_rfl
def B26:Cuts:={ globs:=0,loops:=[],regs:=[],plans:=[] }
def Dy5:List Item:=A6 Tryz.f175
theorem Ga6 (C:A3) (R:A5) (s:Int) (fv0:Addr) (h:H) :
 A7 PR B26 C R G3 Tryz.f175 100000 true Dy5 [(0,.int .i64 s),(1,.pointer (some fv0))] h =
 bnd (cond (decide (s<0)) (some (true,h)) (gSl (Addr.add fv0 0) h fun _ xn _=>some (decide (s≥((xn:Nat):Int)),h))) fun c w=>some (.bool c,w):=by kernel_rfl
def B22:Cuts:={ globs:=0,loops:=[],regs:=[],plans:=[] }
def Dx5:List Item:=A6 Tryz.f179
theorem Gc2 (C:A3) (R:A5) (m:Option Addr) (h:H) :
 A7 PR B22 C R A03 Tryz.f179 100000 true Dx5 [(0,.pointer m)] h =
 aSome m fun p=>gSl (Addr.add p 0) h fun _ xn _=>some (.int .i64 ((xn:Nat):Int),h):=by kernel_rfl
def Bq3:Cuts:={ globs:=0,loops:=[],regs:=[],plans:=[(1,⟨[0,1,2,3,4,5,6,7,8,9,10,11,12,13],[0,1,3,7,0,31,63,0,255,511,1023,1023,2047,8191],[],[]⟩)] }
def Dk8:List Item:=A6 Tryz.f182
theorem E09 (C:A3) (R:A5) (s:Option Addr) (env:Int) (c:List Value) (h:H) :
 A7 PR Bq3 C R Aq8 Tryz.f182 100000 true Dk8 [(0,.pointer s),(1,.int .i64 env),(2,.agg ⟨c⟩)] h =
 nw (.cells N9 false c) h fun b w=>aSome s fun p=>gSl (Addr.add p 0) w fun x xn _=>aSome x fun p_1=>ck ((0:Int)≤env∧env<((xn:Nat):Int)) (gPtr (Addr.add (B1 p_1) (Int.toNat env*1)) w fun x_1=>gAgg ⟨b,0,none⟩ 6 w fun x_2=>bnd (C H7 [.pointer x_1,.agg ⟨x_2⟩] w) fun r w1=>as2 r fun r_1 r_2=>aInt .i64 r_1 fun x_3=>aBool r_2 fun x_4=>cond (!x_4)
 (some (.tuple ⟨[.int .i64 0,.int .i64 4]⟩,w1))
 (some (.tuple ⟨[.int .i64 x_3,.int .i64 0]⟩,w1))):=by kernel_rfl
def Y6:Cuts:={ globs:=0,loops:=[(3,[0,3,9,10,11])],regs:=[],plans:=[] }
def Ai4:List Item:=A6 Tryz.f184
def L9:List Item:=stk [0,1,0,1,0,0,1,4,5] Ai4
theorem B62 (C:A3) (R:A5) (t:Option Addr) (h:H) :
 A7 PR Y6 C R E7 Tryz.f184 100000 true Ai4 [(0,.pointer t)] h =
 aSome t fun p=>gSl (Addr.add p 0) h fun x xn xc=>R E7 L9 [(0,.pointer t),(3,.slice none 0 0),(9,.slice x xn xc),(10,.int .i64 ((xn:Nat):Int)),(11,.int .i64 0)] h:=by kernel_rfl
theorem Aw3 (C:A3) (R:A5) (t:Option Addr) (out:Option Addr) (outn outc:Nat) (x9:Option Addr) (x9n x9c:Nat) (x10:Int) (x11:Int) (h:H) :
 A7 PR Y6 C R E7 Tryz.f184 100000 true L9 [(0,.pointer t),(3,.slice out outn outc),(9,.slice x9 x9n x9c),(10,.int .i64 x10),(11,.int .i64 x11)] h =
 cond (decide (x11<x10))
 (aSome x9 fun p=>ck ((0:Int)≤x11∧x11<((x9n:Nat):Int)) (gAgg (Addr.add (B1 p) (Int.toNat x11*8)) 8 h fun x=>nw (.cells Aj6 false [.int .i64 0,.int .i64 0,.int .i64 0,.int .i64 0,.int .i64 0,.int .i64 0,.int .i64 0,.bool false]) h fun b w=>ck (List.length x=8) (pAgg ⟨b,0,none⟩ x w fun w1=>gBool (Addr.add ⟨b,0,none⟩ 7) w1 fun x_1=>cond x_1
 (bnd (C L7 [.pointer t,.int .i64 x11] w1) fun r w2=>aInt .i64 r fun x_2=>nw (.cells B3 false [.int .i64 x_2]) w2 fun b_1 w3=>gCells (some ⟨b_1,0,none⟩) (1*1) w3 fun cs=>ckB (fitsOpen out B3 w3) (apd B3 1 out outn outc 1 cs w3 fun a an ac w4=>R E7 L9 [(0,.pointer t),(3,.slice a an ac),(9,.slice x9 x9n x9c),(10,.int .i64 x10),(11,.int .i64 (IntKind.wrap .i64 (x11+1)))] w4))
 (R E7 L9 [(0,.pointer t),(3,.slice out outn outc),(9,.slice x9 x9n x9c),(10,.int .i64 x10),(11,.int .i64 (IntKind.wrap .i64 (x11+1)))] w1))))
 (some (.slice out outn outc,h)):=by kernel_rfl
def Ay0:Cuts:={ globs:=0,loops:=[],regs:=[],plans:=[(6,⟨[0,1,2,3,4,5,6,7,8,9,10,11,12,13,14,15,16,17,18,19,20,21,22,23,24,25,26,27,28,29,30,31,32,33,34,35],[0,1,3,7,15,31,63,127,127,383,1023,2047,4095,8191,8191,24575,8191,122879,262143,524287,1048575,2097151,4194303,8388607,16777215,33554431,67108863,134217727,67108863,335544319,872415231,1946157055,4093640703,8589934591,17179869183,34359738367],[],[]⟩),(8,⟨[0,1,2,3,4,5,6,7,8,9],[0,1,3,7,0,16,63,127,0,511],[],[]⟩)] }
def Bm3:List Item:=A6 Tryz.f186
theorem Dw1 (C:A3) (R:A5) (r:Option Addr) (env:Int) (name:Int) (right:Int) (atv:Int) (n:Int) (h:H) :
 A7 PR Ay0 C R Z5 Tryz.f186 100000 true Bm3 [(0,.pointer r),(1,.int .i64 env),(2,.int .i64 name),(3,.int .i64 right),(4,.int .i64 atv),(5,.int .i64 n)] h =
 aSome r fun p=>gPtr (Addr.add p 1) h fun x=>bnd (C Aq1 [.pointer x,.int .i64 env,.int .i64 name] h) fun r_1 w=>as2 r_1 fun r_2 r_3=>aAgg r_2 fun x_1=>aInt .i64 r_3 fun x_2=>nw (.cells N9 false [.int .i64 0,.int .i64 0,.int .i64 0,.int .i64 0,.int .i64 0,.int .i64 0]) w fun b w1=>ck (List.length x_1=6) (pAgg ⟨b,0,none⟩ x_1 w1 fun w2=>cond (x_2 != 0)
 (some (.tuple ⟨[.int .i64 0,.int .i64 x_2]⟩,w2))
 (gInt .i64 (Addr.add ⟨b,0,none⟩ 1) w2 fun x_3=>cond ((D0 .i64 x_3 right)==0)
 (some (.tuple ⟨[.int .i64 0,.int .i64 3]⟩,w2))
 (bnd (cond (decide (atv<0)) (some (true,w2)) (some (decide (n<0),w2))) fun c w3=>bnd (cond c (some (true,w3)) (gInt .i64 (Addr.add ⟨b,0,none⟩ 3) w3 fun x_4=>some (decide (atv>x_4),w3))) fun c_1 w4=>bnd (cond c_1 (some (true,w4)) (gInt .i64 (Addr.add ⟨b,0,none⟩ 3) w4 fun x_5=>some (decide (n>(IntKind.wrap .i64 (x_5-atv))),w4))) fun c_2 w5=>bnd (cond c_2 (some (true,w5)) (gInt .i64 (Addr.add ⟨b,0,none⟩ 0) w5 fun x_6=>some (decide (x_6<0),w5))) fun c_3 w6=>bnd (cond c_3 (some (true,w6)) (gInt .i64 (Addr.add ⟨b,0,none⟩ 0) w6 fun x_7=>aSome r fun p_1=>gSl (Addr.add p_1 2) w6 fun _ xn _=>some (decide (x_7≥((xn:Nat):Int)),w6))) fun c_4 w7=>cond c_4
 (some (.tuple ⟨[.int .i64 0,.int .i64 1]⟩,w7))
 (aSome r fun p_2=>gSl (Addr.add p_2 2) w7 fun x_9 xn_1 _=>gInt .i64 (Addr.add ⟨b,0,none⟩ 0) w7 fun x_10=>aSome x_9 fun p_3=>ck ((0:Int)≤x_10∧x_10<((xn_1:Nat):Int)) (gAgg (Addr.add (B1 p_3) (Int.toNat x_10*2)) 2 w7 fun x_11=>nw (.cells At6 false [.int .i64 0,.int .i64 0]) w7 fun b_1 w8=>ck (List.length x_11=2) (pAgg ⟨b_1,0,none⟩ x_11 w8 fun w9=>gInt .i64 (Addr.add ⟨b,0,none⟩ 2) w9 fun x_12=>gInt .i64 (Addr.add ⟨b_1,0,none⟩ 1) w9 fun x_13=>bnd (cond (decide ((IntKind.wrap .i64 (x_12+atv))>x_13)) (some (true,w9)) (gInt .i64 (Addr.add ⟨b_1,0,none⟩ 1) w9 fun x_14=>gInt .i64 (Addr.add ⟨b,0,none⟩ 2) w9 fun x_15=>some (decide (n>(IntKind.wrap .i64 ((IntKind.wrap .i64 (x_14-x_15))-atv))),w9))) fun c_5 w10=>cond c_5
 (some (.tuple ⟨[.int .i64 0,.int .i64 1]⟩,w10))
 (gInt .i64 (Addr.add ⟨b_1,0,none⟩ 0) w10 fun x_16=>gInt .i64 (Addr.add ⟨b,0,none⟩ 2) w10 fun x_17=>some (.tuple ⟨[.int .i64 (IntKind.wrap .i64 ((IntKind.wrap .i64 (x_16+x_17))+atv)),.int .i64 0]⟩,w10)))))))):=by kernel_rfl
def Bp3:Cuts:={ globs:=0,loops:=[],regs:=[],plans:=[] }
def Di0:List Item:=A6 Tryz.f192
theorem E18 (C:A3) (R:A5) (q:Option Addr) (s:Int) (h:H) :
 A7 PR Bp3 C R Ag2 Tryz.f192 100000 true Di0 [(0,.pointer q),(1,.int .i64 s)] h =
 bnd (cond (decide (s≥0)) (aSome q fun p=>gSl (Addr.add p 0) h fun _ xn _=>some (decide (s<((xn:Nat):Int)),h)) (some (false,h))) fun c w=>some (.bool c,w):=by kernel_rfl
def Br3:Cuts:={ globs:=0,loops:=[],regs:=[],plans:=[(1,⟨[0,1,2,3,4,5,6,7,8,9,10,11,12,13,14,15,16,17,18,19,20,21,22,23,24,25,26,27,28],[0,1,3,7,7,23,55,119,247,511,1023,2047,4095,8191,16383,32767,4095,131071,262143,4095,528383,1576959,3674111,4095,16257023,33034239,67108863,134217727,268435455],[],[]⟩)] }
def Dk4:List Item:=A6 Tryz.f194
theorem E06 (C:A3) (R:A5) (k:Option Addr) (env:Int) (n:Int) (h:H) :
 A7 PR Br3 C R Aq6 Tryz.f194 100000 true Dk4 [(0,.pointer k),(1,.int .i64 env),(2,.int .i64 n)] h =
 bnd (cond (decide (n<0)) (some (true,h)) (aSome k fun p=>gSl (Addr.add p 6) h fun _ xn _=>some (decide (n≥((xn:Nat):Int)),h))) fun c w=>bnd (cond c (some (true,w)) (aSome k fun p_1=>gSl (Addr.add p_1 1) w fun x_1 xn_1 _=>aSome x_1 fun p_2=>ck ((0:Int)≤n∧n<((xn_1:Nat):Int)) (gSl (Addr.add (B1 p_2) (Int.toNat n*1)) w fun x_2 xn_2 xc_2=>aSome k fun p_3=>gSl (Addr.add p_3 0) w fun x_3 xn_3 _=>aSome x_3 fun p_4=>ck ((0:Int)≤env∧env<((xn_3:Nat):Int)) (gInt .i64 (Addr.add (B1 p_4) (Int.toNat env*1)) w fun x_4=>bnd (C L0 [.slice x_2 xn_2 xc_2,.int .i64 x_4] w) fun r w1=>aBool r fun x_5=>some (!x_5,w1))))) fun c_1 w2=>cond c_1
 (some (.tuple ⟨[.pointer none,.int .i64 8]⟩,w2))
 (aSome k fun p_5=>gSl (Addr.add p_5 6) w2 fun x_6 xn_4 _=>aSome x_6 fun p_6=>ck ((0:Int)≤n∧n<((xn_4:Nat):Int)) (gPtr (Addr.add (B1 p_6) (Int.toNat n*1)) w2 fun x_7=>some (.tuple ⟨[.pointer x_7,.int .i64 0]⟩,w2))):=by kernel_rfl
def Bo2:Cuts:={ globs:=0,loops:=[],regs:=[],plans:=[] }
def Dm6:List Item:=A6 Tryz.f197
theorem E12 (C:A3) (R:A5) (n:Option Addr) (name:Int) (h:H) :
 A7 PR Bo2 C R A57 Tryz.f197 100000 true Dm6 [(0,.pointer n),(1,.int .i64 name)] h =
 bnd (cond (decide (name≥0)) (aSome n fun p=>gSl (Addr.add p 0) h fun _ xn _=>some (decide ((D0 .i64 name 255)<((xn:Nat):Int)),h)) (some (false,h))) fun c w=>bnd (cond c (aSome n fun p_1=>gSl (Addr.add p_1 0) w fun x_1 xn_1 _=>aSome x_1 fun p_2=>ck ((0:Int)≤D0 .i64 name 255∧D0 .i64 name 255<((xn_1:Nat):Int)) (gBool (Addr.add (Addr.add (B1 p_2) (Int.toNat (D0 .i64 name 255)*2)) 1) w fun x_2=>some (x_2,w))) (some (false,w))) fun c_1 w1=>bnd (cond c_1 (aSome n fun p_3=>gSl (Addr.add p_3 0) w1 fun x_3 xn_2 _=>aSome x_3 fun p_4=>ck ((0:Int)≤D0 .i64 name 255∧D0 .i64 name 255<((xn_2:Nat):Int)) (gInt .i64 (Addr.add (Addr.add (B1 p_4) (Int.toNat (D0 .i64 name 255)*2)) 0) w1 fun x_4=>some (x_4==(Int.fdiv name (2 ^ 8)),w1))) (some (false,w1))) fun c_2 w2=>some (.bool c_2,w2):=by kernel_rfl
def Aa0:Cuts:={ globs:=0,loops:=[],regs:=[],plans:=[] }
def Ap3:List Item:=A6 Tryz.f201
theorem Bl7 (C:A3) (R:A5) (s:Option Addr) (sn sc:Nat) (f:Value) (h:H) :
 A7 PR Aa0 C R O4 Tryz.f201 100000 true Ap3 [(0,.slice s sn sc),(1,f)] h =
 bnd (C E8 [.slice s sn sc,f] h) fun r w=>aInt .i64 r fun x=>some (.bool (decide (x≥0)),w):=by kernel_rfl
def Dv7:Cuts:={ globs:=0,loops:=[],regs:=[],plans:=[(1,⟨[0,1,2,3,4,5,6,7,8,9,10,11,12,13,14,15,16,17,18],[0,1,3,7,0,16,48,112,0,256,768,1792,0,4096,12288,28672,65535,0,262143],[],[]⟩),(3,⟨[0,1,2,3,4,5,6,7,8],[0,0,2,6,6,30,62,63,255],[(5,[0])],[]⟩)] }
def Ev1:List Item:=A6 Tryz.f205
theorem G46 (C:A3) (R:A5) (b:Option Addr) (bn bc:Nat) (h:H) :
 A7 PR Dv7 C R Ap0 Tryz.f205 100000 true Ev1 [(0,.slice b bn bc)] h =
 nw (.cells D2 false [.int .i64 0,.int .i64 0,.int .i64 0,.int .i64 0]) h fun b_1 w=>aSome b fun p=>ck ((0:Int)≤0∧0<((bn:Nat):Int)) (gInt .u8 (Addr.add (B1 p) (Int.toNat 0*1)) w fun x=>aSome b fun p_1=>ck ((0:Int)≤1∧1<((bn:Nat):Int)) (gInt .u8 (Addr.add (B1 p_1) (Int.toNat 1*1)) w fun x_1=>aSome b fun p_2=>ck ((0:Int)≤2∧2<((bn:Nat):Int)) (gInt .u8 (Addr.add (B1 p_2) (Int.toNat 2*1)) w fun x_2=>aSome b fun p_3=>ck ((0:Int)≤3∧3<((bn:Nat):Int)) (gInt .u8 (Addr.add (B1 p_3) (Int.toNat 3*1)) w fun x_3=>nw (.cells D2 false [.int .i64 0,.int .i64 0,.int .i64 0,.int .i64 0]) w fun b_2 w1=>pAgg ⟨b_2,0,none⟩ [.int .i64 (IntKind.wrap .i64 (x)),.int .i64 (IntKind.wrap .i64 (x_1)),.int .i64 (IntKind.wrap .i64 (x_2)),.int .i64 (IntKind.wrap .i64 (x_3))] w1 fun w2=>gAgg ⟨b_2,0,none⟩ 4 w2 fun x_4=>bnd (C A08 [.agg ⟨x_4⟩] w2) fun r w3=>as2 r fun r_1 r_2=>aSl r_1 fun x_5 xn xc=>aBool r_2 fun x_6=>gAgg ⟨b_2,0,none⟩ 4 w3 fun x_7=>bnd (cond x_6 (bnd (C B9 [.slice x_5 xn xc,.slice b bn bc] w3) fun r_3 w4=>aBool r_3 fun x_8=>gAgg ⟨b_2,0,none⟩ 4 w4 fun x_9=>same (.agg ⟨x_7⟩) (.agg ⟨x_9⟩) (some (x_8,w4))) (some (false,w3))) fun c w5=>ck (List.length x_7=4) (pAgg ⟨b_1,0,none⟩ x_7 w5 fun w6=>gAgg ⟨b_1,0,none⟩ 4 w6 fun x_10=>some (.tuple ⟨[.agg ⟨x_10⟩,.bool c]⟩,w6)))))):=by kernel_rfl
def Ar4:Cuts:={ globs:=0,loops:=[],regs:=[],plans:=[] }
def Be4:List Item:=A6 Tryz.f220
theorem Dh9 (C:A3) (R:A5) (t:Option Addr) (name:Int) (h:H) :
 A7 PR Ar4 C R Ad0 Tryz.f220 100000 true Be4 [(0,.pointer t),(1,.int .i64 name)] h =
 bnd (cond (decide (name<0)) (some (true,h)) (aSome t fun p=>gSl (Addr.add p 0) h fun _ xn _=>some (decide ((D0 .i64 name 255)≥((xn:Nat):Int)),h))) fun c w=>bnd (cond c (some (true,w)) (aSome t fun p_1=>gSl (Addr.add p_1 0) w fun x_1 xn_1 _=>aSome x_1 fun p_2=>ck ((0:Int)≤D0 .i64 name 255∧D0 .i64 name 255<((xn_1:Nat):Int)) (gBool (Addr.add (Addr.add (B1 p_2) (Int.toNat (D0 .i64 name 255)*8)) 7) w fun x_2=>some (!x_2,w)))) fun c_1 w1=>bnd (cond c_1 (some (true,w1)) (bnd (C L7 [.pointer t,.int .i64 (D0 .i64 name 255)] w1) fun r w2=>aInt .i64 r fun x_3=>some (x_3 != name,w2))) fun c_2 w3=>cond c_2
 (some (.pointer none,w3))
 (aSome t fun p_3=>gSl (Addr.add p_3 0) w3 fun x_4 xn_2 _=>aSome x_4 fun p_4=>ck ((0:Int)≤D0 .i64 name 255∧D0 .i64 name 255<((xn_2:Nat):Int)) (some (.pointer (some (Addr.add (B1 p_4) (Int.toNat (D0 .i64 name 255)*8))),w3))):=by kernel_rfl
def Di8:Cuts:={ globs:=0,loops:=[],regs:=[],plans:=[] }
def Eg2:List Item:=A6 Tryz.f226
theorem Gt7 (C:A3) (R:A5) (b:Option Addr) (bn bc:Nat) (atv:Int) (n:Int) (h:H) :
 A7 PR Di8 C R Be7 Tryz.f226 100000 true Eg2 [(0,.slice b bn bc),(1,.int .i64 atv),(2,.int .i64 n)] h =
 bnd (cond (decide (atv<0)) (some (true,h)) (some (decide (atv>(IntKind.wrap .i64 (((bn:Nat):Int)-2))),h))) fun c w=>bnd (cond c (some (true,w)) (some (decide (n<0),w))) fun c_1 w1=>bnd (cond c_1 (some (true,w1)) (some (decide (n>65535),w1))) fun c_2 w2=>cond c_2
 (some (.bool false,w2))
 (aSome b fun p=>ck ((0:Int)≤atv∧atv<((bn:Nat):Int)) (pV (Addr.add (B1 p) (Int.toNat atv*1)) (.int .u8 (IntKind.wrap .u8 (Int.fdiv n (2 ^ 8)))) w2 fun w3=>aSome b fun p_1=>ck ((0:Int)≤IntKind.wrap .i64 (atv+1)∧IntKind.wrap .i64 (atv+1)<((bn:Nat):Int)) (pV (Addr.add (B1 p_1) (Int.toNat (IntKind.wrap .i64 (atv+1))*1)) (.int .u8 (IntKind.wrap .u8 (n))) w3 fun w4=>some (.bool true,w4)))):=by kernel_rfl
def Dm1:Cuts:={ globs:=0,loops:=[],regs:=[],plans:=[] }
def El4:List Item:=A6 Tryz.f231
theorem G27 (C:A3) (R:A5) (f:Int) (h:H) :
 A7 PR Dm1 C R Bd9 Tryz.f231 100000 true El4 [(0,.int .i64 f)] h =
 bnd (cond (decide (f<0)) (some (true,h)) (some (decide (f>12),h))) fun c w=>some (.bool c,w):=by kernel_rfl
end
end Go.EQ

set_option maxRecDepth 100000
namespace Go.EQ
open Go Go.NN Go.Proofs
variable (C : A3) (R : A5)
noncomputable section
def H53:List (Nat × Cuts):=[(3,A56),(9,Bu1),(10,B97),(11,D22),(12,B92),(13,Da8),(14,Dh4),(19,Dt2),(21,Dn4),(23,Dj9),(24,Dj4),(25,Az5),(26,B23),(27,B32),(28,Da4),(29,Az6),(30,Bj7),(31,D86),(32,Dw4),(33,De2),(34,Dk5),(35,Ax7),(36,Dn6),(37,Ay3),(38,Ao8),(39,Am4),(40,D13),(41,Al9),(42,Ey9),(43,Dn0),(44,D32),(46,B86),(47,Dd2),(48,Dt5),(49,Dv1),(52,Aj0),(57,Du8),(59,P8),(60,Ay2),(64,Ax6),(65,Am5),(66,As7),(68,A19),(69,A75),(70,Ap8),(71,Da1),(72,Bd4),(73,De6),(74,Bj1),(75,Bg0),(77,A59),(86,Bf2),(87,D48),(88,B90),(89,Ac3),(90,B35),(91,B15),(92,Ab4),(93,B34),(94,B93),(95,B96),(96,As9),(97,B06),(98,B28),(99,B29),(100,Dm8),(102,Em1),(104,By1),(105,Am0),(106,Ac9),(109,Ax4),(110,Ac4),(111,B27),(115,Al8),(116,Bi8),(117,A62),(118,Bd8),(119,B98),(120,Aq0),(121,Ed3),(122,Df3),(123,B51),(124,Dl0),(125,D62),(126,A51),(127,As1),(128,Bp7),(129,Bc0),(130,Au2),(131,Bb7),(132,B24),(133,Be0),(134,Dp5),(135,Bp4),(136,Bj0),(137,Be2),(138,Bp0),(139,A35),(140,Ax9),(141,A06),(142,Bd3),(144,Ba8),(145,Bd2),(146,Bk0),(147,Bk2),(148,A60),(149,Bo5),(150,Bp6),(151,B89),(152,Br4),(159,Ay1),(160,B91),(161,B99),(162,Af4),(163,Di3),(164,Af0),(165,Ae7),(166,As8),(167,Af2),(168,B94),(169,Af1),(171,Du1),(173,Ae8),(174,B48),(175,B26),(176,Ac6),(177,Dm0),(178,Ar9),(179,B22),(180,Bd0),(181,Bt9),(182,Bq3),(183,Bc8),(184,Y6),(185,A43),(186,Ay0),(187,B20),(188,By2),(189,Br1),(192,Bp3),(193,Be6),(194,Br3),(195,Q5),(196,Bj4),(197,Bo2),(198,A55),(201,Aa0),(202,Bv4),(203,A71),(204,Ds7),(205,Dv7),(206,Ak0),(207,A48),(208,D39),(209,D21),(210,A52),(211,Ba0),(212,Bm6),(213,W0),(214,Ab9),(215,Ak1),(216,Dn9),(217,Al3),(220,Ar4),(221,Bj5),(222,Q7),(223,D85),(224,Aa3),(225,D81),(226,Di8),(227,Dn2),(230,Dk0),(231,Dm1)]
def cutsOf:FuncId→Cuts:=E54 H53
noncomputable abbrev A9:A3:=NN.Call PR cutsOf
noncomputable abbrev I4:A5:=NN.Jump PR cutsOf
theorem Bo6:FnOk PR cutsOf G8 Tryz.f3 A56 Bp5 1:=⟨Tryz.func3,⟨_,rfl⟩,by kernel_rfl,rfl,rfl,by kernel_rfl⟩
theorem Bt1:FnOk PR cutsOf Ad6 Tryz.f9 Bu1 Dn7 1:=⟨Tryz.func9,⟨_,rfl⟩,by kernel_rfl,rfl,rfl,by kernel_rfl⟩
theorem Go6:FnOk PR cutsOf A86 Tryz.f10 B97 Eb0 0:=⟨Tryz.func10,⟨_,rfl⟩,by kernel_rfl,rfl,rfl,by kernel_rfl⟩
theorem Hj9:FnOk PR cutsOf Bi0 Tryz.f11 D22 E91 2:=⟨Tryz.func11,⟨_,rfl⟩,by kernel_rfl,rfl,rfl,by kernel_rfl⟩
theorem Go5:FnOk PR cutsOf A89 Tryz.f12 B92 Eb7 0:=⟨Tryz.func12,⟨_,rfl⟩,by kernel_rfl,rfl,rfl,by kernel_rfl⟩
theorem Gm8:FnOk PR cutsOf A91 Tryz.f13 Da8 Ea3 4:=⟨Tryz.func13,⟨_,rfl⟩,by kernel_rfl,rfl,rfl,by kernel_rfl⟩
theorem G14:FnOk PR cutsOf A13 Tryz.f14 Dh4 El3 4:=⟨Tryz.func14,⟨_,rfl⟩,by kernel_rfl,rfl,rfl,by kernel_rfl⟩
theorem G53:FnOk PR cutsOf Bl8 Tryz.f19 Dt2 Eu2 2:=⟨Tryz.func19,⟨_,rfl⟩,by kernel_rfl,rfl,rfl,by kernel_rfl⟩
theorem Gv3:FnOk PR cutsOf Bw6 Tryz.f21 Dn4 Ee5 2:=⟨Tryz.func21,⟨_,rfl⟩,by kernel_rfl,rfl,rfl,by kernel_rfl⟩
theorem Gp9:FnOk PR cutsOf Be1 Tryz.f23 Dj9 Eg6 1:=⟨Tryz.func23,⟨_,rfl⟩,by kernel_rfl,rfl,rfl,by kernel_rfl⟩
theorem Gt0:FnOk PR cutsOf Bx5 Tryz.f24 Dj4 Ej8 0:=⟨Tryz.func24,⟨_,rfl⟩,by kernel_rfl,rfl,rfl,by kernel_rfl⟩
theorem Bk1:FnOk PR cutsOf O0 Tryz.f25 Az5 Bj2 1:=⟨Tryz.func25,⟨_,rfl⟩,by kernel_rfl,rfl,rfl,by kernel_rfl⟩
theorem Ga9:FnOk PR cutsOf Q1 Tryz.f26 B23 Dz1 3:=⟨Tryz.func26,⟨_,rfl⟩,by kernel_rfl,rfl,rfl,by kernel_rfl⟩
theorem Gf5:FnOk PR cutsOf Ap9 Tryz.f27 B32 Dx3 3:=⟨Tryz.func27,⟨_,rfl⟩,by kernel_rfl,rfl,rfl,by kernel_rfl⟩
theorem Gl9:FnOk PR cutsOf A76 Tryz.f28 Da4 Ea7 0:=⟨Tryz.func28,⟨_,rfl⟩,by kernel_rfl,rfl,rfl,by kernel_rfl⟩
theorem Bi9:FnOk PR cutsOf Q3 Tryz.f29 Az6 Bj8 1:=⟨Tryz.func29,⟨_,rfl⟩,by kernel_rfl,rfl,rfl,by kernel_rfl⟩
theorem Es5:FnOk PR cutsOf A00 Tryz.f30 Bj7 Db6 1:=⟨Tryz.func30,⟨_,rfl⟩,by kernel_rfl,rfl,rfl,by kernel_rfl⟩
theorem Hm5:FnOk PR cutsOf A44 Tryz.f31 D86 E31 1:=⟨Tryz.func31,⟨_,rfl⟩,by kernel_rfl,rfl,rfl,by kernel_rfl⟩
theorem G47:FnOk PR cutsOf B40 Tryz.f32 Dw4 Et1 2:=⟨Tryz.func32,⟨_,rfl⟩,by kernel_rfl,rfl,rfl,by kernel_rfl⟩
theorem Dg0:FnOk PR cutsOf V9 Tryz.f33 De2 D14 3:=⟨Tryz.func33,⟨_,rfl⟩,by kernel_rfl,rfl,rfl,by kernel_rfl⟩
theorem G25:FnOk PR cutsOf A28 Tryz.f34 Dk5 Ef1 2:=⟨Tryz.func34,⟨_,rfl⟩,by kernel_rfl,rfl,rfl,by kernel_rfl⟩
theorem Ds5:FnOk PR cutsOf P7 Tryz.f35 Ax7 Bk6 2:=⟨Tryz.func35,⟨_,rfl⟩,by kernel_rfl,rfl,rfl,by kernel_rfl⟩
theorem G22:FnOk PR cutsOf A36 Tryz.f36 Dn6 Ed7 2:=⟨Tryz.func36,⟨_,rfl⟩,by kernel_rfl,rfl,rfl,by kernel_rfl⟩
theorem Ds9:FnOk PR cutsOf P6 Tryz.f37 Ay3 Bm2 2:=⟨Tryz.func37,⟨_,rfl⟩,by kernel_rfl,rfl,rfl,by kernel_rfl⟩
theorem De3:FnOk PR cutsOf Q8 Tryz.f38 Ao8 Bc1 3:=⟨Tryz.func38,⟨_,rfl⟩,by kernel_rfl,rfl,rfl,by kernel_rfl⟩
theorem Dg2:FnOk PR cutsOf R0 Tryz.f39 Am4 Ba9 3:=⟨Tryz.func39,⟨_,rfl⟩,by kernel_rfl,rfl,rfl,by kernel_rfl⟩
theorem Hm1:FnOk PR cutsOf Dg4 Tryz.f40 D13 E75 2:=⟨Tryz.func40,⟨_,rfl⟩,by kernel_rfl,rfl,rfl,by kernel_rfl⟩
theorem Dg1:FnOk PR cutsOf Ab6 Tryz.f41 Al9 Bb4 3:=⟨Tryz.func41,⟨_,rfl⟩,by kernel_rfl,rfl,rfl,by kernel_rfl⟩
theorem H00:FnOk PR cutsOf Dn1 Tryz.f42 Ey9 Gs1 3:=⟨Tryz.func42,⟨_,rfl⟩,by kernel_rfl,rfl,rfl,by kernel_rfl⟩
theorem G30:FnOk PR cutsOf O2 Tryz.f43 Dn0 Ej3 1:=⟨Tryz.func43,⟨_,rfl⟩,by kernel_rfl,rfl,rfl,by kernel_rfl⟩
theorem Hg7:FnOk PR cutsOf Bv8 Tryz.f44 D32 E67 2:=⟨Tryz.func44,⟨_,rfl⟩,by kernel_rfl,rfl,rfl,by kernel_rfl⟩
theorem Gm2:FnOk PR cutsOf At0 Tryz.f46 B86 Ea4 1:=⟨Tryz.func46,⟨_,rfl⟩,by kernel_rfl,rfl,rfl,by kernel_rfl⟩
theorem D28:FnOk PR cutsOf An7 Tryz.f47 Dd2 D47 2:=⟨Tryz.func47,⟨_,rfl⟩,by kernel_rfl,rfl,rfl,by kernel_rfl⟩
theorem G39:FnOk PR cutsOf B42 Tryz.f48 Dt5 Es8 4:=⟨Tryz.func48,⟨_,rfl⟩,by kernel_rfl,rfl,rfl,by kernel_rfl⟩
theorem G93:FnOk PR cutsOf B50 Tryz.f49 Dv1 Ev6 2:=⟨Tryz.func49,⟨_,rfl⟩,by kernel_rfl,rfl,rfl,by kernel_rfl⟩
theorem B74:FnOk PR cutsOf L0 Tryz.f52 Aj0 A37 2:=⟨Tryz.func52,⟨_,rfl⟩,by kernel_rfl,rfl,rfl,by kernel_rfl⟩
theorem G40:FnOk PR cutsOf B49 Tryz.f57 Du8 Et2 2:=⟨Tryz.func57,⟨_,rfl⟩,by kernel_rfl,rfl,rfl,by kernel_rfl⟩
theorem M7:FnOk PR cutsOf B8 Tryz.f59 P8 Z1 1:=⟨Tryz.func59,⟨_,rfl⟩,by kernel_rfl,rfl,rfl,by kernel_rfl⟩
theorem Dt0:FnOk PR cutsOf Z7 Tryz.f60 Ay2 Bk8 2:=⟨Tryz.func60,⟨_,rfl⟩,by kernel_rfl,rfl,rfl,by kernel_rfl⟩
theorem Dw2:FnOk PR cutsOf P9 Tryz.f64 Ax6 Bl6 1:=⟨Tryz.func64,⟨_,rfl⟩,by kernel_rfl,rfl,rfl,by kernel_rfl⟩
theorem De0:FnOk PR cutsOf N3 Tryz.f65 Am5 Bc5 2:=⟨Tryz.func65,⟨_,rfl⟩,by kernel_rfl,rfl,rfl,by kernel_rfl⟩
theorem Do4:FnOk PR cutsOf Af7 Tryz.f66 As7 Bi5 1:=⟨Tryz.func66,⟨_,rfl⟩,by kernel_rfl,rfl,rfl,by kernel_rfl⟩
theorem Aq9:FnOk PR cutsOf I3 Tryz.f68 A19 Bf3 1:=⟨Tryz.func68,⟨_,rfl⟩,by kernel_rfl,rfl,rfl,by kernel_rfl⟩
theorem Ao3:FnOk PR cutsOf H3 Tryz.f69 A75 Bg3 1:=⟨Tryz.func69,⟨_,rfl⟩,by kernel_rfl,rfl,rfl,by kernel_rfl⟩
theorem Ag5:FnOk PR cutsOf E9 Tryz.f70 Ap8 A22 1:=⟨Tryz.func70,⟨_,rfl⟩,by kernel_rfl,rfl,rfl,by kernel_rfl⟩
theorem Gn0:FnOk PR cutsOf Bn4 Tryz.f71 Da1 D91 2:=⟨Tryz.func71,⟨_,rfl⟩,by kernel_rfl,rfl,rfl,by kernel_rfl⟩
theorem Ei1:FnOk PR cutsOf Aw1 Tryz.f72 Bd4 B78 2:=⟨Tryz.func72,⟨_,rfl⟩,by kernel_rfl,rfl,rfl,by kernel_rfl⟩
theorem D19:FnOk PR cutsOf Ad9 Tryz.f73 De6 D36 1:=⟨Tryz.func73,⟨_,rfl⟩,by kernel_rfl,rfl,rfl,by kernel_rfl⟩
theorem Er9:FnOk PR cutsOf Az8 Tryz.f74 Bj1 Db1 3:=⟨Tryz.func74,⟨_,rfl⟩,by kernel_rfl,rfl,rfl,by kernel_rfl⟩
theorem En0:FnOk PR cutsOf Au8 Tryz.f75 Bg0 B56 3:=⟨Tryz.func75,⟨_,rfl⟩,by kernel_rfl,rfl,rfl,by kernel_rfl⟩
theorem D80:FnOk PR cutsOf Am6 Tryz.f77 A59 Bx6 5:=⟨Tryz.func77,⟨_,rfl⟩,by kernel_rfl,rfl,rfl,by kernel_rfl⟩
theorem Ej1:FnOk PR cutsOf Au5 Tryz.f86 Bf2 B83 1:=⟨Tryz.func86,⟨_,rfl⟩,by kernel_rfl,rfl,rfl,by kernel_rfl⟩
theorem Hl4:FnOk PR cutsOf A66 Tryz.f87 D48 E61 1:=⟨Tryz.func87,⟨_,rfl⟩,by kernel_rfl,rfl,rfl,by kernel_rfl⟩
theorem Gm9:FnOk PR cutsOf A94 Tryz.f88 B90 D97 2:=⟨Tryz.func88,⟨_,rfl⟩,by kernel_rfl,rfl,rfl,by kernel_rfl⟩
theorem An9:FnOk PR cutsOf J0 Tryz.f89 Ac3 Ao5 3:=⟨Tryz.func89,⟨_,rfl⟩,by kernel_rfl,rfl,rfl,by kernel_rfl⟩
theorem Gf2:FnOk PR cutsOf A33 Tryz.f90 B35 Dy9 1:=⟨Tryz.func90,⟨_,rfl⟩,by kernel_rfl,rfl,rfl,by kernel_rfl⟩
theorem Gb5:FnOk PR cutsOf A14 Tryz.f91 B15 D06 1:=⟨Tryz.func91,⟨_,rfl⟩,by kernel_rfl,rfl,rfl,by kernel_rfl⟩
theorem Am7:FnOk PR cutsOf H6 Tryz.f92 Ab4 Ao0 3:=⟨Tryz.func92,⟨_,rfl⟩,by kernel_rfl,rfl,rfl,by kernel_rfl⟩
theorem Ga1:FnOk PR cutsOf A31 Tryz.f93 B34 D05 1:=⟨Tryz.func93,⟨_,rfl⟩,by kernel_rfl,rfl,rfl,by kernel_rfl⟩
theorem Gm7:FnOk PR cutsOf At1 Tryz.f94 B93 Ea9 1:=⟨Tryz.func94,⟨_,rfl⟩,by kernel_rfl,rfl,rfl,by kernel_rfl⟩
theorem Go4:FnOk PR cutsOf At5 Tryz.f95 B96 D99 1:=⟨Tryz.func95,⟨_,rfl⟩,by kernel_rfl,rfl,rfl,by kernel_rfl⟩
theorem Do6:FnOk PR cutsOf I7 Tryz.f96 As9 Bi4 4:=⟨Tryz.func96,⟨_,rfl⟩,by kernel_rfl,rfl,rfl,by kernel_rfl⟩
theorem Gc3:FnOk PR cutsOf A08 Tryz.f97 B06 Dx4 1:=⟨Tryz.func97,⟨_,rfl⟩,by kernel_rfl,rfl,rfl,by kernel_rfl⟩
theorem Gd5:FnOk PR cutsOf A18 Tryz.f98 B28 Dx1 1:=⟨Tryz.func98,⟨_,rfl⟩,by kernel_rfl,rfl,rfl,by kernel_rfl⟩
theorem Gf1:FnOk PR cutsOf A30 Tryz.f99 B29 Dy6 1:=⟨Tryz.func99,⟨_,rfl⟩,by kernel_rfl,rfl,rfl,by kernel_rfl⟩
theorem Gr9:FnOk PR cutsOf A34 Tryz.f100 Dm8 Ed1 3:=⟨Tryz.func100,⟨_,rfl⟩,by kernel_rfl,rfl,rfl,by kernel_rfl⟩
theorem Hq7:FnOk PR cutsOf Bs1 Tryz.f102 Em1 Gg0 1:=⟨Tryz.func102,⟨_,rfl⟩,by kernel_rfl,rfl,rfl,by kernel_rfl⟩
theorem Dl2:FnOk PR cutsOf Aj2 Tryz.f104 By1 Dk1 1:=⟨Tryz.func104,⟨_,rfl⟩,by kernel_rfl,rfl,rfl,by kernel_rfl⟩
theorem Dd6:FnOk PR cutsOf S4 Tryz.f105 Am0 Bb6 1:=⟨Tryz.func105,⟨_,rfl⟩,by kernel_rfl,rfl,rfl,by kernel_rfl⟩
theorem Ar3:FnOk PR cutsOf H0 Tryz.f106 Ac9 Aq4 2:=⟨Tryz.func106,⟨_,rfl⟩,by kernel_rfl,rfl,rfl,by kernel_rfl⟩
theorem Dw6:FnOk PR cutsOf Z0 Tryz.f109 Ax4 Bk9 2:=⟨Tryz.func109,⟨_,rfl⟩,by kernel_rfl,rfl,rfl,by kernel_rfl⟩
theorem An2:FnOk PR cutsOf I9 Tryz.f110 Ac4 An6 3:=⟨Tryz.func110,⟨_,rfl⟩,by kernel_rfl,rfl,rfl,by kernel_rfl⟩
theorem Ge6:FnOk PR cutsOf A23 Tryz.f111 B27 Dz8 1:=⟨Tryz.func111,⟨_,rfl⟩,by kernel_rfl,rfl,rfl,by kernel_rfl⟩
theorem A65:FnOk PR cutsOf P1 Tryz.f115 Al8 A45 3:=⟨Tryz.func115,⟨_,rfl⟩,by kernel_rfl,rfl,rfl,by kernel_rfl⟩
theorem Er3:FnOk PR cutsOf Al2 Tryz.f116 Bi8 Db3 1:=⟨Tryz.func116,⟨_,rfl⟩,by kernel_rfl,rfl,rfl,by kernel_rfl⟩
theorem D42:FnOk PR cutsOf Ao1 Tryz.f117 A62 Bx7 1:=⟨Tryz.func117,⟨_,rfl⟩,by kernel_rfl,rfl,rfl,by kernel_rfl⟩
theorem Bf6:FnOk PR cutsOf P4 Tryz.f118 Bd8 Bv9 1:=⟨Tryz.func118,⟨_,rfl⟩,by kernel_rfl,rfl,rfl,by kernel_rfl⟩
theorem Gn4:FnOk PR cutsOf A80 Tryz.f119 B98 Eb4 1:=⟨Tryz.func119,⟨_,rfl⟩,by kernel_rfl,rfl,rfl,by kernel_rfl⟩
theorem Dh2:FnOk PR cutsOf V0 Tryz.f120 Aq0 Bf1 1:=⟨Tryz.func120,⟨_,rfl⟩,by kernel_rfl,rfl,rfl,by kernel_rfl⟩
theorem Ho4:FnOk PR cutsOf Dr3 Tryz.f121 Ed3 Gk2 1:=⟨Tryz.func121,⟨_,rfl⟩,by kernel_rfl,rfl,rfl,by kernel_rfl⟩
theorem D66:FnOk PR cutsOf Au3 Tryz.f122 Df3 D61 1:=⟨Tryz.func122,⟨_,rfl⟩,by kernel_rfl,rfl,rfl,by kernel_rfl⟩
theorem Dw5:FnOk PR cutsOf Ao9 Tryz.f123 B51 Dw8 1:=⟨Tryz.func123,⟨_,rfl⟩,by kernel_rfl,rfl,rfl,by kernel_rfl⟩
theorem G17:FnOk PR cutsOf By7 Tryz.f124 Dl0 Ed2 2:=⟨Tryz.func124,⟨_,rfl⟩,by kernel_rfl,rfl,rfl,by kernel_rfl⟩
theorem Hn1:FnOk PR cutsOf Dc3 Tryz.f125 D62 E39 1:=⟨Tryz.func125,⟨_,rfl⟩,by kernel_rfl,rfl,rfl,by kernel_rfl⟩
theorem D56:FnOk PR cutsOf An5 Tryz.f126 A51 Bu9 3:=⟨Tryz.func126,⟨_,rfl⟩,by kernel_rfl,rfl,rfl,by kernel_rfl⟩
theorem Ba6:FnOk PR cutsOf N8 Tryz.f127 As1 Ba5 2:=⟨Tryz.func127,⟨_,rfl⟩,by kernel_rfl,rfl,rfl,by kernel_rfl⟩
theorem Ey7:FnOk PR cutsOf A50 Tryz.f128 Bp7 Di9 3:=⟨Tryz.func128,⟨_,rfl⟩,by kernel_rfl,rfl,rfl,by kernel_rfl⟩
theorem Bv5:FnOk PR cutsOf Y1 Tryz.f129 Bc0 Bx1 1:=⟨Tryz.func129,⟨_,rfl⟩,by kernel_rfl,rfl,rfl,by kernel_rfl⟩
theorem Bd5:FnOk PR cutsOf M0 Tryz.f130 Au2 Be9 2:=⟨Tryz.func130,⟨_,rfl⟩,by kernel_rfl,rfl,rfl,by kernel_rfl⟩
theorem Bt2:FnOk PR cutsOf Y5 Tryz.f131 Bb7 Bw0 1:=⟨Tryz.func131,⟨_,rfl⟩,by kernel_rfl,rfl,rfl,by kernel_rfl⟩
theorem Gd2:FnOk PR cutsOf Bg4 Tryz.f132 B24 Dz2 1:=⟨Tryz.func132,⟨_,rfl⟩,by kernel_rfl,rfl,rfl,by kernel_rfl⟩
theorem Ee8:FnOk PR cutsOf Av7 Tryz.f133 Be0 B58 3:=⟨Tryz.func133,⟨_,rfl⟩,by kernel_rfl,rfl,rfl,by kernel_rfl⟩
theorem Eg4:FnOk PR cutsOf A38 Tryz.f134 Dp5 Em4 2:=⟨Tryz.func134,⟨_,rfl⟩,by kernel_rfl,rfl,rfl,by kernel_rfl⟩
theorem E20:FnOk PR cutsOf A70 Tryz.f135 Bp4 Dn3 3:=⟨Tryz.func135,⟨_,rfl⟩,by kernel_rfl,rfl,rfl,by kernel_rfl⟩
theorem Eq9:FnOk PR cutsOf Ak9 Tryz.f136 Bj0 Db4 1:=⟨Tryz.func136,⟨_,rfl⟩,by kernel_rfl,rfl,rfl,by kernel_rfl⟩
theorem Ef7:FnOk PR cutsOf Ai3 Tryz.f137 Be2 B68 2:=⟨Tryz.func137,⟨_,rfl⟩,by kernel_rfl,rfl,rfl,by kernel_rfl⟩
theorem E08:FnOk PR cutsOf A73 Tryz.f138 Bp0 Dm2 2:=⟨Tryz.func138,⟨_,rfl⟩,by kernel_rfl,rfl,rfl,by kernel_rfl⟩
theorem D04:FnOk PR cutsOf Aa9 Tryz.f139 A35 Bs0 5:=⟨Tryz.func139,⟨_,rfl⟩,by kernel_rfl,rfl,rfl,by kernel_rfl⟩
theorem Dt9:FnOk PR cutsOf Z8 Tryz.f140 Ax9 Bm9 5:=⟨Tryz.func140,⟨_,rfl⟩,by kernel_rfl,rfl,rfl,by kernel_rfl⟩
theorem D02:FnOk PR cutsOf Aj9 Tryz.f141 A06 Bs9 7:=⟨Tryz.func141,⟨_,rfl⟩,by kernel_rfl,rfl,rfl,by kernel_rfl⟩
theorem Ei0:FnOk PR cutsOf Au7 Tryz.f142 Bd3 B80 7:=⟨Tryz.func142,⟨_,rfl⟩,by kernel_rfl,rfl,rfl,by kernel_rfl⟩
theorem Ec6:FnOk PR cutsOf Ar8 Tryz.f144 Ba8 B02 2:=⟨Tryz.func144,⟨_,rfl⟩,by kernel_rfl,rfl,rfl,by kernel_rfl⟩
theorem Ee7:FnOk PR cutsOf Au0 Tryz.f145 Bd2 B75 3:=⟨Tryz.func145,⟨_,rfl⟩,by kernel_rfl,rfl,rfl,by kernel_rfl⟩
theorem Es3:FnOk PR cutsOf Az2 Tryz.f146 Bk0 Db5 3:=⟨Tryz.func146,⟨_,rfl⟩,by kernel_rfl,rfl,rfl,by kernel_rfl⟩
theorem Eq4:FnOk PR cutsOf Az1 Tryz.f147 Bk2 Db0 3:=⟨Tryz.func147,⟨_,rfl⟩,by kernel_rfl,rfl,rfl,by kernel_rfl⟩
theorem D76:FnOk PR cutsOf Al6 Tryz.f148 A60 Bu7 6:=⟨Tryz.func148,⟨_,rfl⟩,by kernel_rfl,rfl,rfl,by kernel_rfl⟩
theorem Ew2:FnOk PR cutsOf A49 Tryz.f149 Bo5 Do1 3:=⟨Tryz.func149,⟨_,rfl⟩,by kernel_rfl,rfl,rfl,by kernel_rfl⟩
theorem Ez6:FnOk PR cutsOf Ah2 Tryz.f150 Bp6 Di5 2:=⟨Tryz.func150,⟨_,rfl⟩,by kernel_rfl,rfl,rfl,by kernel_rfl⟩
theorem Gn8:FnOk PR cutsOf Ae6 Tryz.f151 B89 Ea8 3:=⟨Tryz.func151,⟨_,rfl⟩,by kernel_rfl,rfl,rfl,by kernel_rfl⟩
theorem Ew5:FnOk PR cutsOf A61 Tryz.f152 Br4 Dh6 3:=⟨Tryz.func152,⟨_,rfl⟩,by kernel_rfl,rfl,rfl,by kernel_rfl⟩
theorem Dv5:FnOk PR cutsOf N0 Tryz.f159 Ay1 Bl1 2:=⟨Tryz.func159,⟨_,rfl⟩,by kernel_rfl,rfl,rfl,by kernel_rfl⟩
theorem Gm5:FnOk PR cutsOf Ak5 Tryz.f160 B91 Eb8 1:=⟨Tryz.func160,⟨_,rfl⟩,by kernel_rfl,rfl,rfl,by kernel_rfl⟩
theorem Gm6:FnOk PR cutsOf A88 Tryz.f161 B99 D92 0:=⟨Tryz.func161,⟨_,rfl⟩,by kernel_rfl,rfl,rfl,by kernel_rfl⟩
theorem Bz4:FnOk PR cutsOf U5 Tryz.f162 Af4 Ay8 2:=⟨Tryz.func162,⟨_,rfl⟩,by kernel_rfl,rfl,rfl,by kernel_rfl⟩
theorem Gz5:FnOk PR cutsOf Be5 Tryz.f163 Di3 Ec7 0:=⟨Tryz.func163,⟨_,rfl⟩,by kernel_rfl,rfl,rfl,by kernel_rfl⟩
theorem Bz6:FnOk PR cutsOf S9 Tryz.f164 Af0 Ay9 2:=⟨Tryz.func164,⟨_,rfl⟩,by kernel_rfl,rfl,rfl,by kernel_rfl⟩
theorem Bz7:FnOk PR cutsOf S8 Tryz.f165 Ae7 Ay6 2:=⟨Tryz.func165,⟨_,rfl⟩,by kernel_rfl,rfl,rfl,by kernel_rfl⟩
theorem Do9:FnOk PR cutsOf W2 Tryz.f166 As8 Bi7 2:=⟨Tryz.func166,⟨_,rfl⟩,by kernel_rfl,rfl,rfl,by kernel_rfl⟩
theorem Bz3:FnOk PR cutsOf U0 Tryz.f167 Af2 Ay5 2:=⟨Tryz.func167,⟨_,rfl⟩,by kernel_rfl,rfl,rfl,by kernel_rfl⟩
theorem Go0:FnOk PR cutsOf A83 Tryz.f168 B94 Eb3 0:=⟨Tryz.func168,⟨_,rfl⟩,by kernel_rfl,rfl,rfl,by kernel_rfl⟩
theorem Bz9:FnOk PR cutsOf S6 Tryz.f169 Af1 Ay4 2:=⟨Tryz.func169,⟨_,rfl⟩,by kernel_rfl,rfl,rfl,by kernel_rfl⟩
theorem G63:FnOk PR cutsOf Ap5 Tryz.f171 Du1 Eu7 2:=⟨Tryz.func171,⟨_,rfl⟩,by kernel_rfl,rfl,rfl,by kernel_rfl⟩
theorem B00:FnOk PR cutsOf S7 Tryz.f173 Ae8 Ay7 2:=⟨Tryz.func173,⟨_,rfl⟩,by kernel_rfl,rfl,rfl,by kernel_rfl⟩
theorem Dv3:FnOk PR cutsOf Z9 Tryz.f174 B48 Dv6 1:=⟨Tryz.func174,⟨_,rfl⟩,by kernel_rfl,rfl,rfl,by kernel_rfl⟩
theorem Gf7:FnOk PR cutsOf G3 Tryz.f175 B26 Dy5 2:=⟨Tryz.func175,⟨_,rfl⟩,by kernel_rfl,rfl,rfl,by kernel_rfl⟩
theorem As3:FnOk PR cutsOf E4 Tryz.f176 Ac6 As2 2:=⟨Tryz.func176,⟨_,rfl⟩,by kernel_rfl,rfl,rfl,by kernel_rfl⟩
theorem G07:FnOk PR cutsOf Bx0 Tryz.f177 Dm0 Ei9 2:=⟨Tryz.func177,⟨_,rfl⟩,by kernel_rfl,rfl,rfl,by kernel_rfl⟩
theorem Ba3:FnOk PR cutsOf N6 Tryz.f178 Ar9 Ba2 1:=⟨Tryz.func178,⟨_,rfl⟩,by kernel_rfl,rfl,rfl,by kernel_rfl⟩
theorem Gd4:FnOk PR cutsOf A03 Tryz.f179 B22 Dx5 1:=⟨Tryz.func179,⟨_,rfl⟩,by kernel_rfl,rfl,rfl,by kernel_rfl⟩
theorem Ek9:FnOk PR cutsOf Ai9 Tryz.f180 Bd0 B72 1:=⟨Tryz.func180,⟨_,rfl⟩,by kernel_rfl,rfl,rfl,by kernel_rfl⟩
theorem E63:FnOk PR cutsOf Ad5 Tryz.f181 Bt9 Dq4 2:=⟨Tryz.func181,⟨_,rfl⟩,by kernel_rfl,rfl,rfl,by kernel_rfl⟩
theorem Ex3:FnOk PR cutsOf Aq8 Tryz.f182 Bq3 Dk8 3:=⟨Tryz.func182,⟨_,rfl⟩,by kernel_rfl,rfl,rfl,by kernel_rfl⟩
theorem By4:FnOk PR cutsOf Y0 Tryz.f183 Bc8 Bt0 1:=⟨Tryz.func183,⟨_,rfl⟩,by kernel_rfl,rfl,rfl,by kernel_rfl⟩
theorem Aj3:FnOk PR cutsOf E7 Tryz.f184 Y6 Ai4 1:=⟨Tryz.func184,⟨_,rfl⟩,by kernel_rfl,rfl,rfl,by kernel_rfl⟩
theorem Bq5:FnOk PR cutsOf P2 Tryz.f185 A43 Bp9 1:=⟨Tryz.func185,⟨_,rfl⟩,by kernel_rfl,rfl,rfl,by kernel_rfl⟩
theorem Du4:FnOk PR cutsOf Z5 Tryz.f186 Ay0 Bm3 6:=⟨Tryz.func186,⟨_,rfl⟩,by kernel_rfl,rfl,rfl,by kernel_rfl⟩
theorem Gb4:FnOk PR cutsOf Bg2 Tryz.f187 B20 Dy0 3:=⟨Tryz.func187,⟨_,rfl⟩,by kernel_rfl,rfl,rfl,by kernel_rfl⟩
theorem E24:FnOk PR cutsOf Bc4 Tryz.f188 By2 Dq6 3:=⟨Tryz.func188,⟨_,rfl⟩,by kernel_rfl,rfl,rfl,by kernel_rfl⟩
theorem E03:FnOk PR cutsOf Aq1 Tryz.f189 Br1 Dj2 3:=⟨Tryz.func189,⟨_,rfl⟩,by kernel_rfl,rfl,rfl,by kernel_rfl⟩
theorem E14:FnOk PR cutsOf Ag2 Tryz.f192 Bp3 Di0 2:=⟨Tryz.func192,⟨_,rfl⟩,by kernel_rfl,rfl,rfl,by kernel_rfl⟩
theorem Ej9:FnOk PR cutsOf Av0 Tryz.f193 Be6 B76 3:=⟨Tryz.func193,⟨_,rfl⟩,by kernel_rfl,rfl,rfl,by kernel_rfl⟩
theorem Ex0:FnOk PR cutsOf Aq6 Tryz.f194 Br3 Dk4 3:=⟨Tryz.func194,⟨_,rfl⟩,by kernel_rfl,rfl,rfl,by kernel_rfl⟩
theorem W9:FnOk PR cutsOf B6 Tryz.f195 Q5 W5 3:=⟨Tryz.func195,⟨_,rfl⟩,by kernel_rfl,rfl,rfl,by kernel_rfl⟩
theorem Er4:FnOk PR cutsOf Az7 Tryz.f196 Bj4 Db7 3:=⟨Tryz.func196,⟨_,rfl⟩,by kernel_rfl,rfl,rfl,by kernel_rfl⟩
theorem E16:FnOk PR cutsOf A57 Tryz.f197 Bo2 Dm6 2:=⟨Tryz.func197,⟨_,rfl⟩,by kernel_rfl,rfl,rfl,by kernel_rfl⟩
theorem Bo4:FnOk PR cutsOf V4 Tryz.f198 A55 Br0 1:=⟨Tryz.func198,⟨_,rfl⟩,by kernel_rfl,rfl,rfl,by kernel_rfl⟩
theorem Bl2:FnOk PR cutsOf O4 Tryz.f201 Aa0 Ap3 2:=⟨Tryz.func201,⟨_,rfl⟩,by kernel_rfl,rfl,rfl,by kernel_rfl⟩
theorem E72:FnOk PR cutsOf Ad8 Tryz.f202 Bv4 Dq8 1:=⟨Tryz.func202,⟨_,rfl⟩,by kernel_rfl,rfl,rfl,by kernel_rfl⟩
theorem D08:FnOk PR cutsOf Am3 Tryz.f203 A71 Bw7 3:=⟨Tryz.func203,⟨_,rfl⟩,by kernel_rfl,rfl,rfl,by kernel_rfl⟩
theorem Ha3:FnOk PR cutsOf Ap6 Tryz.f204 Ds7 Et0 2:=⟨Tryz.func204,⟨_,rfl⟩,by kernel_rfl,rfl,rfl,by kernel_rfl⟩
theorem G38:FnOk PR cutsOf Ap0 Tryz.f205 Dv7 Ev1 1:=⟨Tryz.func205,⟨_,rfl⟩,by kernel_rfl,rfl,rfl,by kernel_rfl⟩
theorem A95:FnOk PR cutsOf G1 Tryz.f206 Ak0 A92 1:=⟨Tryz.func206,⟨_,rfl⟩,by kernel_rfl,rfl,rfl,by kernel_rfl⟩
theorem D18:FnOk PR cutsOf Al4 Tryz.f207 A48 Bt4 3:=⟨Tryz.func207,⟨_,rfl⟩,by kernel_rfl,rfl,rfl,by kernel_rfl⟩
theorem Hk3:FnOk PR cutsOf Bh4 Tryz.f208 D39 E80 2:=⟨Tryz.func208,⟨_,rfl⟩,by kernel_rfl,rfl,rfl,by kernel_rfl⟩
theorem Hk2:FnOk PR cutsOf Bi1 Tryz.f209 D21 E85 1:=⟨Tryz.func209,⟨_,rfl⟩,by kernel_rfl,rfl,rfl,by kernel_rfl⟩
theorem D77:FnOk PR cutsOf An3 Tryz.f210 A52 Bv1 3:=⟨Tryz.func210,⟨_,rfl⟩,by kernel_rfl,rfl,rfl,by kernel_rfl⟩
theorem H2:FnOk PR cutsOf M9 Tryz.f211 Ba0 Bm0 2:=⟨Tryz.func211,⟨_,rfl⟩,by kernel_rfl,rfl,rfl,by kernel_rfl⟩
theorem N1:FnOk PR cutsOf V6 Tryz.f212 Bm6 B43 1:=⟨Tryz.func212,⟨_,rfl⟩,by kernel_rfl,rfl,rfl,by kernel_rfl⟩
theorem J6:FnOk PR cutsOf D3 Tryz.f213 W0 Ag9 2:=⟨Tryz.func213,⟨_,rfl⟩,by kernel_rfl,rfl,rfl,by kernel_rfl⟩
theorem Al7:FnOk PR cutsOf H7 Tryz.f214 Ab9 Ao6 2:=⟨Tryz.func214,⟨_,rfl⟩,by kernel_rfl,rfl,rfl,by kernel_rfl⟩
theorem B88:FnOk PR cutsOf L7 Tryz.f215 Ak1 A90 2:=⟨Tryz.func215,⟨_,rfl⟩,by kernel_rfl,rfl,rfl,by kernel_rfl⟩
theorem Gy5:FnOk PR cutsOf Bf4 Tryz.f216 Dn9 Eg7 3:=⟨Tryz.func216,⟨_,rfl⟩,by kernel_rfl,rfl,rfl,by kernel_rfl⟩
theorem De7:FnOk PR cutsOf Ab7 Tryz.f217 Al3 Bc6 2:=⟨Tryz.func217,⟨_,rfl⟩,by kernel_rfl,rfl,rfl,by kernel_rfl⟩
theorem Dn5:FnOk PR cutsOf Ad0 Tryz.f220 Ar4 Be4 2:=⟨Tryz.func220,⟨_,rfl⟩,by kernel_rfl,rfl,rfl,by kernel_rfl⟩
theorem Er8:FnOk PR cutsOf Az4 Tryz.f221 Bj5 Da9 3:=⟨Tryz.func221,⟨_,rfl⟩,by kernel_rfl,rfl,rfl,by kernel_rfl⟩
theorem Ae1:FnOk PR cutsOf E8 Tryz.f222 Q7 Ad2 2:=⟨Tryz.func222,⟨_,rfl⟩,by kernel_rfl,rfl,rfl,by kernel_rfl⟩
theorem Hi3:FnOk PR cutsOf Dd3 Tryz.f223 D85 E41 1:=⟨Tryz.func223,⟨_,rfl⟩,by kernel_rfl,rfl,rfl,by kernel_rfl⟩
theorem Ak3:FnOk PR cutsOf B9 Tryz.f224 Aa3 Ak2 2:=⟨Tryz.func224,⟨_,rfl⟩,by kernel_rfl,rfl,rfl,by kernel_rfl⟩
theorem Hj4:FnOk PR cutsOf Df2 Tryz.f225 D81 E32 1:=⟨Tryz.func225,⟨_,rfl⟩,by kernel_rfl,rfl,rfl,by kernel_rfl⟩
theorem Gw8:FnOk PR cutsOf Be7 Tryz.f226 Di8 Eg2 3:=⟨Tryz.func226,⟨_,rfl⟩,by kernel_rfl,rfl,rfl,by kernel_rfl⟩
theorem G31:FnOk PR cutsOf Bu6 Tryz.f227 Dn2 El6 2:=⟨Tryz.func227,⟨_,rfl⟩,by kernel_rfl,rfl,rfl,by kernel_rfl⟩
theorem G10:FnOk PR cutsOf Aj1 Tryz.f230 Dk0 Ek5 2:=⟨Tryz.func230,⟨_,rfl⟩,by kernel_rfl,rfl,rfl,by kernel_rfl⟩
theorem G23:FnOk PR cutsOf Bd9 Tryz.f231 Dm1 El4 1:=⟨Tryz.func231,⟨_,rfl⟩,by kernel_rfl,rfl,rfl,by kernel_rfl⟩
end
end Go.EQ

namespace Go.EQ
open Go Go.NN Go.Proofs
theorem Gp7:type_of% Tryz.underlying3:=Tryz.underlying3
theorem If6:type_of% Tryz.underlying4:=Tryz.underlying4
theorem Ib9:type_of% Tryz.underlying5:=Tryz.underlying5
theorem Ei7:type_of% Tryz.underlying22:=Tryz.underlying22
theorem Hv5:type_of% Tryz.underlying29:=Tryz.underlying29
theorem Hg6:type_of% Tryz.underlying37:=Tryz.underlying37
end Go.EQ
