/- What is typed is read, in order, by the front group alone; the front goes to a group that is there, given by the front group alone; no conditions. -/
import Derived.Test.YtnmdbfbjdhgmlaaGreatMd
import Derived.KernelRfl
set_option linter.all false
set_option maxRecDepth 100000
namespace Go.EQ
open Go Go.NN Go.Proofs
variable (C : A4) (R : A6)
noncomputable section
def B39:Cuts:={ globs:=0,loops:=[(9,[6,7,8,9,10,11,12])],regs:=[],plans:=[] }
def Du6:List Item:=A7 Tryz.f9
def Bf7:List Item:=stk [0,1,0,1,0,1,0,1,0,1,0,1,0,1,0,0,1,4,5] Du6
theorem G40 (C:A4) (R:A6) (b:Option Addr) (bn bc:Nat) (h:H) :
 A8 PR B39 C R Af1 Tryz.f9 100000 true Du6 [(0,.slice b bn bc)] h =
 bnd (C B00 [] h) fun r w=>aAgg r fun x=>bnd (C Bi6 [.agg ⟨x⟩] w) fun r_1 w1=>as4 r_1 fun r_2 r_3 r_4 r_5=>aPtr r_2 fun x_1=>aPtr r_3 fun x_2=>aPtr r_4 fun x_3=>aPtr r_5 fun x_4=>bnd (cond x_2.isNone (some (true,w1)) (some (((bn:Nat):Int) != 492,w1))) fun c w2=>cond c
 (some (.tuple ⟨[.pointer none,.pointer none,.pointer none,.pointer none]⟩,w2))
 (nw (.cells Az4 false [.int .i64 0,.int .i64 0,.int .i64 0,.int .i64 0,.int .i64 0,.int .i64 0,.slice none 0 0]) w2 fun b_1 w3=>pAgg ⟨b_1,0,none⟩ [.int .i64 2,.int .i64 256,.int .i64 0,.int .i64 0,.int .i64 0,.int .i64 0,.slice b bn bc] w3 fun w4=>bnd (C P7 [.agg ⟨[.int .i64 0,.int .i64 0,.int .i64 1,.int .i64 1,.int .u8 0,.int .u8 0,.int .u8 0,.int .u8 0,.int .u8 0,.int .u8 0,.int .u8 0,.int .u8 0,.int .u8 0,.int .u8 0,.int .u8 0,.int .u8 0,.int .u8 0,.int .u8 0,.int .u8 0,.int .u8 0,.int .u8 0,.int .u8 0,.int .u8 0,.int .u8 0,.int .u8 0,.int .u8 0,.int .u8 0,.int .u8 0,.int .u8 0,.int .u8 0,.int .u8 0,.int .u8 0,.int .u8 0,.int .u8 0,.int .u8 0,.int .u8 0]⟩] w4) fun r_6 w5=>aStr r_6 fun x_5=>gAgg ⟨b_1,0,none⟩ 7 w5 fun x_6=>bnd (C S5 [.pointer x_1,.int .i64 0,.agg ⟨x_6⟩] w5) fun r_7 w6=>aAgg r_7 fun _=>gAgg ⟨b_1,0,none⟩ 7 w6 fun x_8=>bnd (C As3 [.pointer x_3,.int .i64 0,.agg ⟨x_8⟩] w6) fun r_8 w7=>as3 r_8 fun r_9 r_10 r_11=>aInt .i64 r_9 fun _=>aInt .i64 r_10 fun _=>aStr r_11 fun _=>R Af1 Bf7 [(6,.pointer x_1),(7,.pointer x_2),(8,.pointer x_3),(9,.pointer x_4),(10,.pointer (some ⟨b_1,0,none⟩)),(11,.string x_5),(12,.int .i64 1)] w7):=by kernel_rfl
theorem Bz5 (C:A4) (R:A6) (k:Option Addr) (c:Option Addr) (wv:Option Addr) (m:Option Addr) (x:Addr) (pipe:ByteArray) (i:Int) (h:H) :
 A8 PR B39 C R Af1 Tryz.f9 100000 true Bf7 [(6,.pointer k),(7,.pointer c),(8,.pointer wv),(9,.pointer m),(10,.pointer (some x)),(11,.string pipe),(12,.int .i64 i)] h =
 cond (decide (i<3))
 (ck (ByteArray.size pipe≤B1) (nw (.cells A5 false (A0 (ByteArray.data pipe).toList)) h fun b w=>pAgg x [.int .i64 2,.int .i64 (IntKind.wrap .i64 (256+i)),.int .i64 0,.int .i64 0,.int .i64 0,.int .i64 0,.slice (some (L8 b)) (ByteArray.size pipe) (ByteArray.size pipe)] w fun w1=>gAgg x 7 w1 fun x_1=>bnd (C S5 [.pointer k,.int .i64 0,.agg ⟨x_1⟩] w1) fun r w2=>aAgg r fun _=>gAgg x 7 w2 fun x_3=>bnd (C As3 [.pointer wv,.int .i64 0,.agg ⟨x_3⟩] w2) fun r_1 w3=>as3 r_1 fun r_2 r_3 r_4=>aInt .i64 r_2 fun _=>aInt .i64 r_3 fun _=>aStr r_4 fun _=>R Af1 Bf7 [(6,.pointer k),(7,.pointer c),(8,.pointer wv),(9,.pointer m),(10,.pointer (some x)),(11,.string pipe),(12,.int .i64 (IntKind.wrap .i64 (i+1)))] w3))
 (some (.tuple ⟨[.pointer k,.pointer c,.pointer wv,.pointer m]⟩,h)):=by kernel_rfl
def Dg2:Cuts:={ globs:=0,loops:=[],regs:=[],plans:=[] }
def Ek1:List Item:=A7 Tryz.f22
theorem Gz5 (C:A4) (R:A6) (c:Option Addr) (i:Int) (g:Int) (h:H) :
 A8 PR Dg2 C R Aw8 Tryz.f22 100000 true Ek1 [(0,.pointer c),(1,.int .i64 i),(2,.int .i64 g)] h =
 nw (.cells E4 false [.int .i64 0,.int .i64 0,.slice none 0 0,.bool false]) h fun b w=>bnd (C Aj8 [.pointer c,.int .i64 i] w) fun r w1=>as2 r fun r_1 r_2=>aAgg r_1 fun x=>aInt .i64 r_2 fun x_1=>nw (.cells D0 false [.int .i64 0,.int .i64 0,.int .i64 0,.int .i64 0,.int .i64 0,.int .i64 0,.int .i64 0,.int .i64 0,.int .i64 0,.int .i64 0,.int .i64 0,.int .i64 0,.int .i64 0,.int .i64 0,.int .i64 0,.int .i64 0]) w1 fun b_1 w2=>ck (List.length x=16) (pAgg ⟨b_1,0,none⟩ x w2 fun w3=>cond (x_1 != 0)
 (bnd (C H9 [.int .i64 x_1] w3) fun r_3 w4=>aAgg r_3 fun x_2=>ck (List.length x_2=4) (pAgg ⟨b,0,none⟩ x_2 w4 fun w5=>gAgg ⟨b,0,none⟩ 4 w5 fun x_3=>some (.agg ⟨x_3⟩,w5)))
 (bnd (cond (decide (g<0)) (some (true,w3)) (some (decide (g≥8),w3))) fun c_1 w6=>cond c_1
 (bnd (C H9 [.int .i64 122] w6) fun r_4 w7=>aAgg r_4 fun x_4=>ck (List.length x_4=4) (pAgg ⟨b,0,none⟩ x_4 w7 fun w8=>gAgg ⟨b,0,none⟩ 4 w8 fun x_5=>some (.agg ⟨x_5⟩,w8)))
 (bnd (C Q6 [.pointer c] w6) fun r_5 w9=>as2 r_5 fun r_6 r_7=>aInt .i64 r_6 fun x_6=>aBool r_7 fun x_7=>cond (!x_7)
 (bnd (C H9 [.int .i64 105] w9) fun r_8 w10=>aAgg r_8 fun x_8=>ck (List.length x_8=4) (pAgg ⟨b,0,none⟩ x_8 w10 fun w11=>gAgg ⟨b,0,none⟩ 4 w11 fun x_9=>some (.agg ⟨x_9⟩,w11)))
 (gInt .i64 (Addr.add ⟨b_1,0,none⟩ 2) w9 fun x_10=>bnd (cond (x_10 != x_6) (some (true,w9)) (bnd (C B07 [.pointer c,.int .i64 g] w9) fun r_9 w12=>aBool r_9 fun x_11=>some (!x_11,w12))) fun c_2 w13=>cond c_2
 (bnd (C H9 [.int .i64 101] w13) fun r_10 w14=>aAgg r_10 fun x_12=>ck (List.length x_12=4) (pAgg ⟨b,0,none⟩ x_12 w14 fun w15=>gAgg ⟨b,0,none⟩ 4 w15 fun x_13=>some (.agg ⟨x_13⟩,w15)))
 (bnd (C Ab8 [.pointer c,.int .i64 g] w13) fun r_11 w16=>aBool r_11 fun x_14=>cond (!x_14)
 (bnd (C H9 [.int .i64 105] w16) fun r_12 w17=>aAgg r_12 fun x_15=>ck (List.length x_15=4) (pAgg ⟨b,0,none⟩ x_15 w17 fun w18=>gAgg ⟨b,0,none⟩ 4 w18 fun x_16=>some (.agg ⟨x_16⟩,w18)))
 (pAgg ⟨b,0,none⟩ [.int .i64 0,.int .i64 0,.slice none 0 0,.bool false] w16 fun w19=>gAgg ⟨b,0,none⟩ 4 w19 fun x_17=>some (.agg ⟨x_17⟩,w19))))))):=by kernel_rfl
def Eh1:Cuts:={ globs:=0,loops:=[],regs:=[],plans:=[] }
def Ge9:List Item:=A7 Tryz.f31
theorem Hv5 (C:A4) (R:A6) (e:Int) (h:H) :
 A8 PR Eh1 C R Ba0 Tryz.f31 100000 true Ge9 [(0,.int .i64 e)] h =
 nw (.cells E4 false [.int .i64 0,.int .i64 0,.slice none 0 0,.bool false]) h fun b w=>pAgg ⟨b,0,none⟩ [.int .i64 0,.int .i64 e,.slice none 0 0,.bool false] w fun w1=>gAgg ⟨b,0,none⟩ 4 w1 fun x=>some (.agg ⟨x⟩,w1):=by kernel_rfl
def D37:Cuts:={ globs:=0,loops:=[],regs:=[],plans:=[] }
def E43:List Item:=A7 Tryz.f32
theorem Hk6 (C:A4) (R:A6) (p:List Value) (want:Int) (h:H) :
 A8 PR D37 C R Da1 Tryz.f32 100000 true E43 [(0,.agg ⟨p⟩),(1,.int .i64 want)] h =
 nw (.cells D0 false p) h fun b w=>bnd (C Y8 [.int .i64 8,.int .i64 want,.func (.func Bc8) ⟨[]⟩ ⟨[.pointer (some ⟨b,0,none⟩)]⟩] w) fun r w1=>aSl r fun x xn xc=>some (.slice x xn xc,w1):=by kernel_rfl
def Dk1:Cuts:={ globs:=0,loops:=[(3,[0,1,2,7,8])],regs:=[],plans:=[] }
def Ee9:List Item:=A7 Tryz.f33
def Bb6:List Item:=stk [0,1,0,1,0,0,1,4,5] Ee9
theorem Hr8 (C:A4) (R:A6) (n:Int) (want:Int) (isv:Value) (h:H) :
 A8 PR Dk1 C R Y8 Tryz.f33 100000 true Ee9 [(0,.int .i64 n),(1,.int .i64 want),(2,isv)] h =
 R Y8 Bb6 [(0,.int .i64 n),(1,.int .i64 want),(2,isv),(7,.slice none 0 0),(8,.int .i64 0)] h:=by kernel_rfl
theorem Dg7 (C:A4) (R:A6) (n:Int) (want:Int) (isv:Value) (out:Option Addr) (outn outc:Nat) (i:Int) (h:H) :
 A8 PR Dk1 C R Y8 Tryz.f33 100000 true Bb6 [(0,.int .i64 n),(1,.int .i64 want),(2,isv),(7,.slice out outn outc),(8,.int .i64 i)] h =
 bnd (cond (decide (i<n)) (some (decide (((outn:Nat):Int)<want),h)) (some (false,h))) fun c w=>cond c
 (aFn isv fun g fi cp=>bnd (C g (fi++([.int .i64 i]++cp)) w) fun r w1=>aBool r fun x=>cond x
 (nw (.cells B8 false [.int .i64 i]) w1 fun b w2=>gCells (some ⟨b,0,none⟩) (1*1) w2 fun cs=>ckB (fitsOpen out B8 w2) (apd B8 1 out outn outc 1 cs w2 fun a an ac w3=>R Y8 Bb6 [(0,.int .i64 n),(1,.int .i64 want),(2,isv),(7,.slice a an ac),(8,.int .i64 (IntKind.wrap .i64 (i+1)))] w3))
 (R Y8 Bb6 [(0,.int .i64 n),(1,.int .i64 want),(2,isv),(7,.slice out outn outc),(8,.int .i64 (IntKind.wrap .i64 (i+1)))] w1))
 (some (.slice out outn outc,w)):=by kernel_rfl
def Dq9:Cuts:={ globs:=0,loops:=[],regs:=[],plans:=[] }
def En5:List Item:=A7 Tryz.f34
theorem Hc8 (C:A4) (R:A6) (k:Int) (fv0:Addr) (h:H) :
 A8 PR Dq9 C R A71 Tryz.f34 100000 true En5 [(0,.int .i64 k),(1,.pointer (some fv0))] h =
 gPtr fv0 h fun x=>bnd (C L5 [.pointer x,.int .i64 k] h) fun r w=>as2 r fun r_1 r_2=>aAgg r_1 fun x_1=>aInt .i64 r_2 fun x_2=>nw (.cells D7 false [.int .i64 0,.int .i64 0,.int .i64 0,.int .i64 0]) w fun b w1=>ck (List.length x_1=4) (pAgg ⟨b,0,none⟩ x_1 w1 fun w2=>some (.bool (x_2==0),w2)):=by kernel_rfl
def Aq7:Cuts:={ globs:=0,loops:=[],regs:=[],plans:=[] }
def Bf8:List Item:=A7 Tryz.f38
theorem Dj4 (C:A4) (R:A6) (c:Option Addr) (i:Int) (p:List Value) (h:H) :
 A8 PR Aq7 C R U9 Tryz.f38 100000 true Bf8 [(0,.pointer c),(1,.int .i64 i),(2,.agg ⟨p⟩)] h =
 nw (.cells D3 false p) h fun b w=>gAgg ⟨b,0,none⟩ 36 w fun x=>bnd (C Aw2 [.agg ⟨x⟩] w) fun r w1=>as2 r fun r_1 r_2=>aSl r_1 fun x_1 xn xc=>aBool r_2 fun x_2=>bnd (C A60 [.int .i64 i] w1) fun r_3 w2=>aAgg r_3 fun x_3=>bnd (C H6 [.pointer c,.agg ⟨x_3⟩,.slice x_1 xn xc,.bool x_2] w2) fun r_4 w3=>aBool r_4 fun x_4=>some (.bool x_4,w3):=by kernel_rfl
def Dg0:Cuts:={ globs:=0,loops:=[],regs:=[],plans:=[] }
def Ej0:List Item:=A7 Tryz.f46
theorem Gx3 (C:A4) (R:A6) (f:List Value) (h:H) :
 A8 PR Dg0 C R Aw6 Tryz.f46 100000 true Ej0 [(0,.agg ⟨f⟩)] h =
 nw (.cells D7 false f) h fun b w=>nw (.cells E4 false [.int .i64 0,.int .i64 0,.slice none 0 0,.bool false]) w fun b_1 w1=>gInt .i64 (Addr.add ⟨b,0,none⟩ 3) w1 fun x=>cond (x==1)
 (bnd (C H9 [.int .i64 111] w1) fun r w2=>aAgg r fun x_1=>ck (List.length x_1=4) (pAgg ⟨b_1,0,none⟩ x_1 w2 fun w3=>gAgg ⟨b_1,0,none⟩ 4 w3 fun x_2=>some (.agg ⟨x_2⟩,w3)))
 (pAgg ⟨b_1,0,none⟩ [.int .i64 0,.int .i64 0,.slice none 0 0,.bool true] w1 fun w4=>gAgg ⟨b_1,0,none⟩ 4 w4 fun x_3=>some (.agg ⟨x_3⟩,w4)):=by kernel_rfl
def S8:Cuts:={ globs:=0,loops:=[(1,[0,5]),(6,[0,12]),(11,[0,20,21])],regs:=[],plans:=[] }
def Ab0:List Item:=A7 Tryz.f59
def Ae1:List Item:=stk [0,0,1,4,5] Ab0
def Ad1:List Item:=stk [0,1,0,0,1,4,5] Ab0
def Ad8:List Item:=stk [0,1,0,1,0,0,1,4,5] Ab0
theorem D49 (C:A4) (R:A6) (c:Option Addr) (h:H) :
 A8 PR S8 C R D4 Tryz.f59 100000 true Ab0 [(0,.pointer c)] h =
 R D4 Ae1 [(0,.pointer c),(5,.int .i64 0)] h:=by kernel_rfl
theorem Bg0 (C:A4) (R:A6) (c:Option Addr) (x5:Int) (h:H) :
 A8 PR S8 C R D4 Tryz.f59 100000 true Ae1 [(0,.pointer c),(5,.int .i64 x5)] h =
 cond (decide (x5<8))
 (bnd (C L7 [.pointer c,.int .i64 x5] h) fun r w=>as2 r fun r_1 r_2=>aAgg r_1 fun _=>aInt .i64 r_2 fun _=>R D4 Ae1 [(0,.pointer c),(5,.int .i64 (IntKind.wrap .i64 (x5+1)))] w)
 (R D4 Ad1 [(0,.pointer c),(12,.int .i64 0)] h):=by kernel_rfl
theorem Be5 (C:A4) (R:A6) (c:Option Addr) (x12:Int) (h:H) :
 A8 PR S8 C R D4 Tryz.f59 100000 true Ad1 [(0,.pointer c),(12,.int .i64 x12)] h =
 cond (decide (x12<12))
 (bnd (C L5 [.pointer c,.int .i64 x12] h) fun r w=>as2 r fun r_1 r_2=>aAgg r_1 fun _=>aInt .i64 r_2 fun _=>R D4 Ad1 [(0,.pointer c),(12,.int .i64 (IntKind.wrap .i64 (x12+1)))] w)
 (bnd (C Ab2 [.pointer c,.int .i64 3] h) fun r_3 w1=>aInt .i64 r_3 fun x_2=>R D4 Ad8 [(0,.pointer c),(20,.int .i64 x_2),(21,.int .i64 0)] w1):=by kernel_rfl
theorem Be9 (C:A4) (R:A6) (c:Option Addr) (x20:Int) (x21:Int) (h:H) :
 A8 PR S8 C R D4 Tryz.f59 100000 true Ad8 [(0,.pointer c),(20,.int .i64 x20),(21,.int .i64 x21)] h =
 cond (decide (x21<x20))
 (bnd (C S6 [.pointer c,.int .i64 x21] h) fun r w=>as2 r fun r_1 r_2=>aAgg r_1 fun _=>aInt .i64 r_2 fun _=>R D4 Ad8 [(0,.pointer c),(20,.int .i64 x20),(21,.int .i64 (IntKind.wrap .i64 (x21+1)))] w)
 (bnd (C S9 [.pointer c] h) fun r_3 w1=>as2 r_3 fun r_4 r_5=>aAgg r_4 fun _=>aInt .i64 r_5 fun _=>bnd (C Q6 [.pointer c] w1) fun r_6 w2=>as2 r_6 fun r_7 r_8=>aInt .i64 r_7 fun _=>aBool r_8 fun _=>some (.tuple ⟨[]⟩,w2)):=by kernel_rfl
def B94:Cuts:={ globs:=0,loops:=[],regs:=[],plans:=[] }
def D88:List Item:=A7 Tryz.f61
theorem Gm2 (C:A4) (R:A6) (n:Int) (h:H) :
 A8 PR B94 C R A59 Tryz.f61 100000 true D88 [(0,.int .i64 n)] h =
 bnd (cond (decide (n≥0)) (some (decide (n<8),h)) (some (false,h))) fun c w=>some (.bool c,w):=by kernel_rfl
def A13:Cuts:={ globs:=0,loops:=[],regs:=[],plans:=[] }
def Bp6:List Item:=A7 Tryz.f64
theorem D44 (C:A4) (R:A6) (c:Option Addr) (h:H) :
 A8 PR A13 C R S9 Tryz.f64 100000 true Bp6 [(0,.pointer c)] h =
 nw (.cells D3 false [.int .i64 0,.int .i64 0,.int .i64 0,.int .i64 0,.int .u8 0,.int .u8 0,.int .u8 0,.int .u8 0,.int .u8 0,.int .u8 0,.int .u8 0,.int .u8 0,.int .u8 0,.int .u8 0,.int .u8 0,.int .u8 0,.int .u8 0,.int .u8 0,.int .u8 0,.int .u8 0,.int .u8 0,.int .u8 0,.int .u8 0,.int .u8 0,.int .u8 0,.int .u8 0,.int .u8 0,.int .u8 0,.int .u8 0,.int .u8 0,.int .u8 0,.int .u8 0,.int .u8 0,.int .u8 0,.int .u8 0,.int .u8 0]) h fun b w=>bnd (C I3 [.pointer c,.agg ⟨[.int .i64 4,.int .i64 0]⟩,.func (.func Aw5) ⟨[]⟩ ⟨[]⟩] w) fun r w1=>as2 r fun r_1 r_2=>aAgg r_1 fun x=>aInt .i64 r_2 fun x_1=>ck (List.length x=36) (pAgg ⟨b,0,none⟩ x w1 fun w2=>gAgg ⟨b,0,none⟩ 36 w2 fun x_2=>some (.tuple ⟨[.agg ⟨x_2⟩,.int .i64 x_1]⟩,w2)):=by kernel_rfl
def Aq2:Cuts:={ globs:=0,loops:=[],regs:=[],plans:=[] }
def Bg1:List Item:=A7 Tryz.f65
theorem Dj9 (C:A4) (R:A6) (c:Option Addr) (p:List Value) (h:H) :
 A8 PR Aq2 C R J9 Tryz.f65 100000 true Bg1 [(0,.pointer c),(1,.agg ⟨p⟩)] h =
 nw (.cells D3 false p) h fun b w=>gAgg ⟨b,0,none⟩ 36 w fun x=>bnd (C Aw2 [.agg ⟨x⟩] w) fun r w1=>as2 r fun r_1 r_2=>aSl r_1 fun x_1 xn xc=>aBool r_2 fun x_2=>bnd (C H6 [.pointer c,.agg ⟨[.int .i64 4,.int .i64 0]⟩,.slice x_1 xn xc,.bool x_2] w1) fun r_3 w2=>aBool r_3 fun x_3=>some (.bool x_3,w2):=by kernel_rfl
def Am5:Cuts:={ globs:=0,loops:=[],regs:=[],plans:=[] }
def Bc1:List Item:=A7 Tryz.f67
theorem Df9 (C:A4) (R:A6) (c:Option Addr) (g:Int) (h:H) :
 A8 PR Am5 C R Ab8 Tryz.f67 100000 true Bc1 [(0,.pointer c),(1,.int .i64 g)] h =
 bnd (C Af2 [.int .i64 g] h) fun r w=>as2 r fun r_1 r_2=>aSl r_1 fun x xn xc=>aBool r_2 fun x_1=>bnd (C H6 [.pointer c,.agg ⟨[.int .i64 5,.int .i64 0]⟩,.slice x xn xc,.bool x_1] w) fun r_3 w1=>aBool r_3 fun x_2=>some (.bool x_2,w1):=by kernel_rfl
def A51:Cuts:={ globs:=0,loops:=[(3,[1,2,3,4]),(7,[1,2,3,4,5]),(13,[1,2,3,6])],regs:=[],plans:=[] }
def Bi3:List Item:=A7 Tryz.f68
def Bf0:List Item:=stk [0,1,0,1,0,0,1,4,5] Bi3
def Az7:List Item:=stk [0,1,0,1,0,0,1,4,5,6,0,1,0,4,0,1,0,0,1,4,5] Bi3
def Be8:List Item:=stk [0,1,0,1,0,1,0,0,1,4,5] Bi3
theorem G44 (C:A4) (R:A6) (p:List Value) (h:H) :
 A8 PR A51 C R J4 Tryz.f68 100000 true Bi3 [(0,.agg ⟨p⟩)] h =
 nw (.cells B10 false p) h fun b w=>nw (.cells E1 false [.slice none 0 0,.slice none 0 0,.slice none 0 0,.int .i64 0,.slice none 0 0]) w fun b_1 w1=>gInt .i64 (Addr.add ⟨b,0,none⟩ 2) w1 fun x=>nw (.cells E1 false [.slice none 0 0,.slice none 0 0,.slice none 0 0,.int .i64 0,.slice none 0 0]) w1 fun b_2 w2=>pAgg ⟨b_2,0,none⟩ [.slice none 0 0,.slice none 0 0,.slice none 0 0,.int .i64 x,.slice none 0 0] w2 fun w3=>R J4 Bf0 [(1,.pointer (some ⟨b,0,none⟩)),(2,.pointer (some ⟨b_1,0,none⟩)),(3,.pointer (some ⟨b_2,0,none⟩)),(4,.int .i64 0)] w3:=by kernel_rfl
theorem Dz7 (C:A4) (R:A6) (p:Addr) (x2:Addr) (b:Addr) (s:Int) (h:H) :
 A8 PR A51 C R J4 Tryz.f68 100000 true Bf0 [(1,.pointer (some p)),(2,.pointer (some x2)),(3,.pointer (some b)),(4,.int .i64 s)] h =
 gSl (Addr.add p 0) h fun _ xn _=>cond (decide (s<((xn:Nat):Int)))
 (gSl (Addr.add b 0) h fun x_1 xn_1 xc_1=>nw (.cells B8 false [.int .i64 20]) h fun b_1 w=>gCells (some ⟨b_1,0,none⟩) (1*1) w fun cs=>ckB (fitsOpen x_1 B8 w) (apd B8 1 x_1 xn_1 xc_1 1 cs w fun a an ac w1=>pV (Addr.add b 0) (.slice a an ac) w1 fun w2=>R J4 Az7 [(1,.pointer (some p)),(2,.pointer (some x2)),(3,.pointer (some b)),(4,.int .i64 s),(5,.int .i64 0)] w2))
 (R J4 Be8 [(1,.pointer (some p)),(2,.pointer (some x2)),(3,.pointer (some b)),(6,.int .i64 0)] h):=by kernel_rfl
theorem Dz8 (C:A4) (R:A6) (p:Addr) (x2:Addr) (b:Addr) (s:Int) (i:Int) (h:H) :
 A8 PR A51 C R J4 Tryz.f68 100000 true Az7 [(1,.pointer (some p)),(2,.pointer (some x2)),(3,.pointer (some b)),(4,.int .i64 s),(5,.int .i64 i)] h =
 cond (decide (i<9))
 (gSl (Addr.add b 1) h fun x xn xc=>nw (.cells B8 false [.int .i64 s]) h fun b_1 w=>gCells (some ⟨b_1,0,none⟩) (1*1) w fun cs=>ckB (fitsOpen x B8 w) (apd B8 1 x xn xc 1 cs w fun a an ac w1=>pV (Addr.add b 1) (.slice a an ac) w1 fun w2=>R J4 Az7 [(1,.pointer (some p)),(2,.pointer (some x2)),(3,.pointer (some b)),(4,.int .i64 s),(5,.int .i64 (IntKind.wrap .i64 (i+1)))] w2))
 (gSl (Addr.add b 2) h fun x_1 xn_1 xc_1=>nw (.cells B8 false [.int .i64 s]) h fun b_2 w3=>nw (.cells Q4 false [.slice (some ⟨b_2,0,none⟩) 1 1]) w3 fun b_3 w4=>gCells (some ⟨b_3,0,none⟩) (1*1) w4 fun cs_1=>ckB (fitsOpen x_1 Q4 w4) (apd Q4 1 x_1 xn_1 xc_1 1 cs_1 w4 fun a_1 an_1 ac_1 w5=>pV (Addr.add b 2) (.slice a_1 an_1 ac_1) w5 fun w6=>gSl (Addr.add b 4) w6 fun x_2 xn_2 xc_2=>nw (.cells B8 false [.int .i64 s]) w6 fun b_4 w7=>nw (.cells I9 false [.int .i64 s,.int .i64 0,.int .i64 0,.int .i64 492,.slice (some ⟨b_4,0,none⟩) 1 1]) w7 fun b_5 w8=>gCells (some ⟨b_5,0,none⟩) (1*5) w8 fun cs_2=>ckB (fitsOpen x_2 I9 w8) (apd I9 5 x_2 xn_2 xc_2 1 cs_2 w8 fun a_2 an_2 ac_2 w9=>pV (Addr.add b 4) (.slice a_2 an_2 ac_2) w9 fun w10=>R J4 Bf0 [(1,.pointer (some p)),(2,.pointer (some x2)),(3,.pointer (some b)),(4,.int .i64 (IntKind.wrap .i64 (s+1)))] w10))):=by kernel_rfl
theorem Dx2 (C:A4) (R:A6) (p:Addr) (x2:Addr) (b:Addr) (i:Int) (h:H) :
 A8 PR A51 C R J4 Tryz.f68 100000 true Be8 [(1,.pointer (some p)),(2,.pointer (some x2)),(3,.pointer (some b)),(6,.int .i64 i)] h =
 gSl (Addr.add p 1) h fun _ xn _=>cond (decide (i<((xn:Nat):Int)))
 (gSl (Addr.add p 1) h fun x_1 xn_1 _=>aSome x_1 fun p_1=>ck ((0:Int)≤i∧i<((xn_1:Nat):Int)) (gAgg (Addr.add (B6 p_1) (Int.toNat i*2)) 2 h fun x_2=>nw (.cells B29 false [.int .i64 0,.int .i64 0]) h fun b_1 w=>ck (List.length x_2=2) (pAgg ⟨b_1,0,none⟩ x_2 w fun w1=>gSl (Addr.add b 4) w1 fun x_3 xn_2 xc_2=>gInt .i64 (Addr.add ⟨b_1,0,none⟩ 0) w1 fun x_4=>gInt .i64 (Addr.add ⟨b_1,0,none⟩ 0) w1 fun x_5=>gInt .i64 (Addr.add ⟨b_1,0,none⟩ 1) w1 fun x_6=>nw (.cells B8 false [.int .i64 x_5,.int .i64 x_6]) w1 fun b_2 w2=>nw (.cells I9 false [.int .i64 x_4,.int .i64 (IntKind.wrap .i64 (8+i)),.int .i64 0,.int .i64 40,.slice (some ⟨b_2,0,none⟩) 2 2]) w2 fun b_3 w3=>gCells (some ⟨b_3,0,none⟩) (1*5) w3 fun cs=>ckB (fitsOpen x_3 I9 w3) (apd I9 5 x_3 xn_2 xc_2 1 cs w3 fun a an ac w4=>pV (Addr.add b 4) (.slice a an ac) w4 fun w5=>R J4 Be8 [(1,.pointer (some p)),(2,.pointer (some x2)),(3,.pointer (some b)),(6,.int .i64 (IntKind.wrap .i64 (i+1)))] w5))))
 (gAgg b 5 h fun x_7=>ck (List.length x_7=5) (pAgg x2 x_7 h fun w6=>gAgg x2 5 w6 fun x_8=>some (.agg ⟨x_8⟩,w6))):=by kernel_rfl
def Bn7:Cuts:={ globs:=0,loops:=[],regs:=[],plans:=[(4,⟨[0,1,2,3,4,5,6,7,8,9,10,11,12,13,14,15,16],[0,1,3,7,0,0,32,0,128,0,512,2047,4095,8191,8191,16383,65535],[],[]⟩),(6,⟨[0,1,2,3,4,5,6,7,8,9,10,11,12],[0,1,3,7,0,0,32,0,128,0,512,2047,4095],[],[]⟩),(8,⟨[0,1,2,3,4,5,6,7,8,9,10,11,12,13,14,15,16],[0,1,3,7,0,0,32,0,128,0,512,0,2048,0,8192,32767,65535],[],[]⟩)] }
def Dh8:List Item:=A7 Tryz.f74
theorem E20 (C:A4) (R:A6) (k:Option Addr) (env:Int) (c:List Value) (h:H) :
 A8 PR Bn7 C R A27 Tryz.f74 100000 true Dh8 [(0,.pointer k),(1,.int .i64 env),(2,.agg ⟨c⟩)] h =
 nw (.cells Az4 false c) h fun b w=>gInt .i64 (Addr.add ⟨b,0,none⟩ 0) w fun x=>cond (x==1)
 (aSome k fun p=>gPtr (Addr.add p 5) w fun x_1=>gInt .i64 (Addr.add ⟨b,0,none⟩ 1) w fun x_2=>gInt .i64 (Addr.add ⟨b,0,none⟩ 2) w fun x_3=>gInt .i64 (Addr.add ⟨b,0,none⟩ 3) w fun x_4=>bnd (C Ac7 [.pointer x_1,.int .i64 env,.int .i64 x_2,.int .i64 x_3,.int .i64 x_4] w) fun r w1=>as2 r fun r_1 r_2=>aSl r_1 fun x_5 xn xc=>aInt .i64 r_2 fun x_6=>some (.tuple ⟨[.slice x_5 xn xc,.int .i64 x_6,.bool true]⟩,w1))
 (cond (x==2)
 (aSome k fun p_1=>gPtr (Addr.add p_1 5) w fun x_7=>gInt .i64 (Addr.add ⟨b,0,none⟩ 1) w fun x_8=>gInt .i64 (Addr.add ⟨b,0,none⟩ 2) w fun x_9=>gSl (Addr.add ⟨b,0,none⟩ 6) w fun x_10 xn_1 xc_1=>bnd (C Aa9 [.pointer x_7,.int .i64 env,.int .i64 x_8,.int .i64 x_9,.slice x_10 xn_1 xc_1] w) fun r_3 w2=>aInt .i64 r_3 fun x_11=>some (.tuple ⟨[.slice none 0 0,.int .i64 x_11,.bool true]⟩,w2))
 (cond (x==3)
 (aSome k fun p_2=>gPtr (Addr.add p_2 5) w fun x_12=>gInt .i64 (Addr.add ⟨b,0,none⟩ 1) w fun x_13=>gInt .i64 (Addr.add ⟨b,0,none⟩ 2) w fun x_14=>gInt .i64 (Addr.add ⟨b,0,none⟩ 4) w fun x_15=>gInt .i64 (Addr.add ⟨b,0,none⟩ 5) w fun x_16=>gInt .i64 (Addr.add ⟨b,0,none⟩ 3) w fun x_17=>bnd (C Al5 [.pointer x_12,.int .i64 env,.int .i64 x_13,.int .i64 x_14,.int .i64 x_15,.int .i64 x_16,.int .i64 x_17] w) fun r_4 w3=>aInt .i64 r_4 fun x_18=>some (.tuple ⟨[.slice none 0 0,.int .i64 x_18,.bool true]⟩,w3))
 (some (.tuple ⟨[.slice none 0 0,.int .i64 0,.bool false]⟩,w)))):=by kernel_rfl
def Df4:Cuts:={ globs:=0,loops:=[],regs:=[],plans:=[(1,⟨[1,0,2,3,4,5,6],[0,0,3,7,7,31,63],[(0,[1])],[]⟩)] }
def Ek9:List Item:=A7 Tryz.f95
theorem G07 (C:A4) (R:A6) (p:List Value) (h:H) :
 A8 PR Df4 C R Aw2 Tryz.f95 100000 true Ek9 [(0,.agg ⟨p⟩)] h =
 nw (.cells D3 false p) h fun b w=>gAgg ⟨b,0,none⟩ 36 w fun x=>bnd (C Bh1 [] w) fun r w1=>aPtr r fun x_1=>gAgg ⟨b,0,none⟩ 36 w1 fun x_2=>same (.agg ⟨x⟩) (.agg ⟨x_2⟩) (bnd (C V4 [.pointer x_1,.agg ⟨x⟩] w1) fun r_1 w2=>as2 r_1 fun r_2 r_3=>aSl r_2 fun x_3 xn xc=>aBool r_3 fun x_4=>some (.tuple ⟨[.slice x_3 xn xc,.bool x_4]⟩,w2)):=by kernel_rfl
def Er4:Cuts:={ globs:=0,loops:=[],regs:=[],plans:=[] }
def Gw2:List Item:=A7 Tryz.f102
theorem H97 (C:A4) (R:A6) (p:List Value) (h:H) :
 A8 PR Er4 C R Bw7 Tryz.f102 100000 true Gw2 [(0,.agg ⟨p⟩)] h =
 nw (.cells D3 false p) h fun b w=>gInt .i64 (Addr.add ⟨b,0,none⟩ 0) w fun x=>bnd (C Ar5 [.int .i64 x,.int .i64 31] w) fun r w1=>aBool r fun x_1=>bnd (cond x_1 (gInt .i64 (Addr.add ⟨b,0,none⟩ 1) w1 fun x_2=>bnd (C Ar5 [.int .i64 x_2,.int .i64 32] w1) fun r_1 w2=>aBool r_1 fun x_3=>some (x_3,w2)) (some (false,w1))) fun c w3=>bnd (cond c (gInt .i64 (Addr.add ⟨b,0,none⟩ 2) w3 fun x_4=>bnd (C Ar5 [.int .i64 x_4,.int .i64 8] w3) fun r_2 w4=>aBool r_2 fun x_5=>some (x_5,w4)) (some (false,w3))) fun c_1 w5=>bnd (cond c_1 (gInt .i64 (Addr.add ⟨b,0,none⟩ 3) w5 fun x_6=>bnd (C Ar5 [.int .i64 x_6,.int .i64 8] w5) fun r_3 w6=>aBool r_3 fun x_7=>some (x_7,w6)) (some (false,w5))) fun c_2 w7=>some (.bool c_2,w7):=by kernel_rfl
def B45:Cuts:={ globs:=0,loops:=[(5,[1,3,9,10])],regs:=[],plans:=[] }
def Do9:List Item:=A7 Tryz.f104
def Bg4:List Item:=stk [0,1,0,1,0,1,0,0,1,4,5] Do9
theorem Hb3 (C:A4) (R:A6) (p:List Value) (h:H) :
 A8 PR B45 C R Al3 Tryz.f104 100000 true Do9 [(0,.agg ⟨p⟩)] h =
 nw (.cells D3 false p) h fun b w=>gAgg ⟨b,0,none⟩ 36 w fun x=>bnd (C Bw7 [.agg ⟨x⟩] w) fun r w1=>aBool r fun x_1=>cond (!x_1)
 (some (.slice none 0 0,w1))
 (gInt .i64 (Addr.add ⟨b,0,none⟩ 1) w1 fun x_2=>R Al3 Bg4 [(1,.pointer (some ⟨b,0,none⟩)),(3,.slice none 0 0),(9,.int .i64 x_2),(10,.int .i64 0)] w1):=by kernel_rfl
theorem Dy3 (C:A4) (R:A6) (p:Addr) (out:Option Addr) (outn outc:Nat) (x9:Int) (x10:Int) (h:H) :
 A8 PR B45 C R Al3 Tryz.f104 100000 true Bg4 [(1,.pointer (some p)),(3,.slice out outn outc),(9,.int .i64 x9),(10,.int .i64 x10)] h =
 cond (decide (x10<x9))
 (gInt .i64 (Addr.add p 0) h fun x=>ck ((0:Int)≤Int.tmod (IntKind.wrap .i64 (x+x10)) 32∧Int.tmod (IntKind.wrap .i64 (x+x10)) 32<((32:Nat):Int)) (gInt .u8 (Addr.add (Addr.add p 4) (Int.toNat (Int.tmod (IntKind.wrap .i64 (x+x10)) 32)*1)) h fun x_1=>nw (.cells A5 false [.int .u8 x_1]) h fun b w=>gCells (some ⟨b,0,none⟩) (1*1) w fun cs=>ckB (fitsOpen out A5 w) (apd A5 1 out outn outc 1 cs w fun a an ac w1=>R Al3 Bg4 [(1,.pointer (some p)),(3,.slice a an ac),(9,.int .i64 x9),(10,.int .i64 (IntKind.wrap .i64 (x10+1)))] w1)))
 (some (.slice out outn outc,h)):=by kernel_rfl
def Af7:Cuts:={ globs:=0,loops:=[(2,[0,1,7,8])],regs:=[],plans:=[] }
def At9:List Item:=A7 Tryz.f106
def Aa5:List Item:=stk [0,1,0,0,1,4,5] At9
theorem Ds0 (C:A4) (R:A6) (s:Option Addr) (sn sc:Nat) (v:Int) (h:H) :
 A8 PR Af7 C R H4 Tryz.f106 100000 true At9 [(0,.slice s sn sc),(1,.int .i64 v)] h =
 R H4 Aa5 [(0,.slice s sn sc),(1,.int .i64 v),(7,.int .i64 ((sn:Nat):Int)),(8,.int .i64 0)] h:=by kernel_rfl
theorem A75 (C:A4) (R:A6) (s:Option Addr) (sn sc:Nat) (v:Int) (x7:Int) (x8:Int) (h:H) :
 A8 PR Af7 C R H4 Tryz.f106 100000 true Aa5 [(0,.slice s sn sc),(1,.int .i64 v),(7,.int .i64 x7),(8,.int .i64 x8)] h =
 cond (decide (x8<x7))
 (aSome s fun p=>ck ((0:Int)≤x8∧x8<((sn:Nat):Int)) (gInt .i64 (Addr.add (B6 p) (Int.toNat x8*1)) h fun x=>cond (v==x)
 (some (.int .i64 x8,h))
 (R H4 Aa5 [(0,.slice s sn sc),(1,.int .i64 v),(7,.int .i64 x7),(8,.int .i64 (IntKind.wrap .i64 (x8+1)))] h)))
 (some (.int .i64 (-1),h)):=by kernel_rfl
def Bk5:Cuts:={ globs:=0,loops:=[(7,[1,3,52,53,54]),(13,[1,3,63,64,65])],regs:=[],plans:=[] }
def B34:List Item:=A7 Tryz.f118
def Bf5:List Item:=stk [0,1,0,1,0,1,0,1,0,0,1,4,5] B34
def Bf2:List Item:=stk [0,1,0,1,0,1,0,1,0,1,0,0,1,4,5] B34
theorem Hc2 (C:A4) (R:A6) (c:List Value) (h:H) :
 A8 PR Bk5 C R R0 Tryz.f118 100000 true B34 [(0,.agg ⟨c⟩)] h =
 nw (.cells E1 false c) h fun b w=>gSl (Addr.add ⟨b,0,none⟩ 0) w fun _ xn _=>bnd (cond (decide (((xn:Nat):Int)<1)) (some (true,w)) (gSl (Addr.add ⟨b,0,none⟩ 0) w fun _ xn_1 _=>some (decide (((xn_1:Nat):Int)>4),w))) fun c_1 w1=>bnd (cond c_1 (some (true,w1)) (gSl (Addr.add ⟨b,0,none⟩ 1) w1 fun _ xn_2 _=>some (decide (((xn_2:Nat):Int)>40),w1))) fun c_2 w2=>bnd (cond c_2 (some (true,w2)) (gSl (Addr.add ⟨b,0,none⟩ 2) w2 fun _ xn_3 _=>some (decide (((xn_3:Nat):Int)>8),w2))) fun c_3 w3=>bnd (cond c_3 (some (true,w3)) (gSl (Addr.add ⟨b,0,none⟩ 4) w3 fun _ xn_4 _=>some (decide (((xn_4:Nat):Int)>16),w3))) fun c_4 w4=>bnd (cond c_4 (some (true,w4)) (gInt .i64 (Addr.add ⟨b,0,none⟩ 3) w4 fun x_5=>some (decide (x_5<1),w4))) fun c_5 w5=>bnd (cond c_5 (some (true,w5)) (gInt .i64 (Addr.add ⟨b,0,none⟩ 3) w5 fun x_6=>some (decide (x_6>1000),w5))) fun c_6 w6=>cond c_6
 (some (.bool false,w6))
 (gSl (Addr.add ⟨b,0,none⟩ 1) w6 fun x_7 xn_5 xc_5=>bnd (C E8 [.slice x_7 xn_5 xc_5,.func (.func G9) ⟨[]⟩ ⟨[.pointer (some ⟨b,0,none⟩)]⟩] w6) fun r w7=>aBool r fun x_8=>cond x_8
 (some (.bool false,w7))
 (gSl (Addr.add ⟨b,0,none⟩ 2) w7 fun x_9 xn_6 xc_6=>R R0 Bf5 [(1,.pointer (some ⟨b,0,none⟩)),(3,.func (.func G9) ⟨[]⟩ ⟨[.pointer (some ⟨b,0,none⟩)]⟩),(52,.slice x_9 xn_6 xc_6),(53,.int .i64 ((xn_6:Nat):Int)),(54,.int .i64 0)] w7)):=by kernel_rfl
theorem Dy7 (C:A4) (R:A6) (c:Addr) (nonev:Addr) (x52:Option Addr) (x52n x52c:Nat) (x53:Int) (x54:Int) (h:H) :
 A8 PR Bk5 C R R0 Tryz.f118 100000 true Bf5 [(1,.pointer (some c)),(3,.func (.func G9) ⟨[]⟩ ⟨[.pointer (some nonev)]⟩),(52,.slice x52 x52n x52c),(53,.int .i64 x53),(54,.int .i64 x54)] h =
 cond (decide (x54<x53))
 (aSome x52 fun p=>ck ((0:Int)≤x54∧x54<((x52n:Nat):Int)) (gSl (Addr.add (B6 p) (Int.toNat x54*1)) h fun x xn xc=>bnd (C E8 [.slice x xn xc,.func (.func G9) ⟨[]⟩ ⟨[.pointer (some nonev)]⟩] h) fun r w=>aBool r fun x_1=>cond x_1
 (some (.bool false,w))
 (R R0 Bf5 [(1,.pointer (some c)),(3,.func (.func G9) ⟨[]⟩ ⟨[.pointer (some nonev)]⟩),(52,.slice x52 x52n x52c),(53,.int .i64 x53),(54,.int .i64 (IntKind.wrap .i64 (x54+1)))] w)))
 (gSl (Addr.add c 4) h fun x_2 xn_1 xc_1=>R R0 Bf2 [(1,.pointer (some c)),(3,.func (.func G9) ⟨[]⟩ ⟨[.pointer (some nonev)]⟩),(63,.slice x_2 xn_1 xc_1),(64,.int .i64 ((xn_1:Nat):Int)),(65,.int .i64 0)] h):=by kernel_rfl
theorem Dz6 (C:A4) (R:A6) (c:Addr) (nonev:Addr) (x63:Option Addr) (x63n x63c:Nat) (x64:Int) (x65:Int) (h:H) :
 A8 PR Bk5 C R R0 Tryz.f118 100000 true Bf2 [(1,.pointer (some c)),(3,.func (.func G9) ⟨[]⟩ ⟨[.pointer (some nonev)]⟩),(63,.slice x63 x63n x63c),(64,.int .i64 x64),(65,.int .i64 x65)] h =
 cond (decide (x65<x64))
 (aSome x63 fun p=>ck ((0:Int)≤x65∧x65<((x63n:Nat):Int)) (gAgg (Addr.add (B6 p) (Int.toNat x65*5)) 5 h fun x=>nw (.cells I9 false [.int .i64 0,.int .i64 0,.int .i64 0,.int .i64 0,.slice none 0 0]) h fun b w=>ck (List.length x=5) (pAgg ⟨b,0,none⟩ x w fun w1=>gAgg c 5 w1 fun x_1=>gAgg ⟨b,0,none⟩ 5 w1 fun x_2=>bnd (C B30 [.agg ⟨x_1⟩,.agg ⟨x_2⟩] w1) fun r w2=>aBool r fun x_3=>bnd (cond (!x_3) (some (true,w2)) (gSl (Addr.add ⟨b,0,none⟩ 4) w2 fun x_4 xn xc=>bnd (C E8 [.slice x_4 xn xc,.func (.func G9) ⟨[]⟩ ⟨[.pointer (some nonev)]⟩] w2) fun r_1 w3=>aBool r_1 fun x_5=>some (x_5,w3))) fun c_1 w4=>cond c_1
 (some (.bool false,w4))
 (R R0 Bf2 [(1,.pointer (some c)),(3,.func (.func G9) ⟨[]⟩ ⟨[.pointer (some nonev)]⟩),(63,.slice x63 x63n x63c),(64,.int .i64 x64),(65,.int .i64 (IntKind.wrap .i64 (x65+1)))] w4))))
 (some (.bool true,h)):=by kernel_rfl
def At3:Cuts:={ globs:=0,loops:=[],regs:=[],plans:=[] }
def Bh4:List Item:=A7 Tryz.f120
theorem Dq5 (C:A4) (R:A6) (s:Option Addr) (sn sc:Nat) (h:H) :
 A8 PR At3 C R W1 Tryz.f120 100000 true Bh4 [(0,.slice s sn sc)] h =
 cond s.isNone
 (some (.slice none 0 0,h))
 (nw (.cells B8 false []) h fun b w=>gCells s (sn*1) w fun cs=>ckB (fitsOpen (some ⟨b,0,none⟩) B8 w) (apd B8 1 (some ⟨b,0,none⟩) 0 0 sn cs w fun a an ac w1=>some (.slice a an ac,w1))):=by kernel_rfl
def Da0:Cuts:={ globs:=0,loops:=[(3,[3,12,13,14])],regs:=[],plans:=[(5,⟨[0,1,2,3,4,5,6,7,8,9,10,11,12,13],[0,0,2,6,14,0,32,96,224,480,1022,2047,4095,8191],[],[]⟩)] }
def D38:List Item:=A7 Tryz.f123
def Bm5:List Item:=stk [0,1,0,1,0,0,1,4,5] D38
theorem Hi4 (C:A4) (R:A6) (frames:Option Addr) (framesn framesc:Nat) (h:H) :
 A8 PR Da0 C R As0 Tryz.f123 100000 true D38 [(0,.slice frames framesn framesc)] h =
 nw (.cells Aw4 false [.slice none 0 0]) h fun b w=>ckB (fitsOpen frames B8 w) (ck ((0:Int)≤mm2 false ((framesn:Nat):Int) 4∧mm2 false ((framesn:Nat):Int) 4≤((framesc:Nat):Int)) (R As0 Bm5 [(3,.pointer (some ⟨b,0,none⟩)),(12,.slice (H0 frames (decide (0<framesc)) (0*1)) ((Int.toNat (mm2 false ((framesn:Nat):Int) 4))-0) (framesc-0)),(13,.int .i64 (((Int.toNat (mm2 false ((framesn:Nat):Int) 4))-0:Nat):Int)),(14,.int .i64 0)] w)):=by kernel_rfl
theorem D73 (C:A4) (R:A6) (q:Addr) (x12:Option Addr) (x12n x12c:Nat) (x13:Int) (x14:Int) (h:H) :
 A8 PR Da0 C R As0 Tryz.f123 100000 true Bm5 [(3,.pointer (some q)),(12,.slice x12 x12n x12c),(13,.int .i64 x13),(14,.int .i64 x14)] h =
 cond (decide (x14<x13))
 (aSome x12 fun p=>ck ((0:Int)≤x14∧x14<((x12n:Nat):Int)) (gInt .i64 (Addr.add (B6 p) (Int.toNat x14*1)) h fun x=>gSl (Addr.add q 0) h fun x_1 xn xc=>ck ((0:Int)≤mm2 false (mm2 true x 0) 64∧(mm2 false (mm2 true x 0) 64:Int)≤mm2 false (mm2 true x 0) 64∧mm2 false (mm2 true x 0) 64≤(B1:Int)) (nw (.cells B8 false (I7 (Int.toNat (mm2 false (mm2 true x 0) 64)) [.int .i64 0])) h fun b w=>nw (.cells Q4 false [.slice (some ⟨b,0,none⟩) (Int.toNat (mm2 false (mm2 true x 0) 64)) (Int.toNat (mm2 false (mm2 true x 0) 64))]) w fun b_1 w1=>gCells (some ⟨b_1,0,none⟩) (1*1) w1 fun cs=>ckB (fitsOpen x_1 Q4 w1) (apd Q4 1 x_1 xn xc 1 cs w1 fun a an ac w2=>pV (Addr.add q 0) (.slice a an ac) w2 fun w3=>R As0 Bm5 [(3,.pointer (some q)),(12,.slice x12 x12n x12c),(13,.int .i64 x13),(14,.int .i64 (IntKind.wrap .i64 (x14+1)))] w3))))
 (some (.pointer (some q),h)):=by kernel_rfl
def Dt1:Cuts:={ globs:=0,loops:=[],regs:=[],plans:=[] }
def En6:List Item:=A7 Tryz.f124
theorem G59 (C:A4) (R:A6) (m:Option Addr) (s:Option Addr) (h:H) :
 A8 PR Dt1 C R B20 Tryz.f124 100000 true En6 [(0,.pointer m),(1,.pointer s)] h =
 nw (.cells Dr8 false [.pointer m,.pointer s,.slice none 0 0]) h fun b w=>some (.pointer (some ⟨b,0,none⟩),w):=by kernel_rfl
def Be7:Cuts:={ globs:=0,loops:=[(3,[0,3,4])],regs:=[],plans:=[(5,⟨[0,1,2,3,4,5,6,7,8,9,10,11,12,13,14,15,16],[0,0,2,6,14,0,0,96,224,480,992,2016,4064,8190,16383,32767,65535],[],[]⟩)] }
def Bz3:List Item:=A7 Tryz.f129
def Ay9:List Item:=stk [0,1,0,1,0,0,1,4,5] Bz3
theorem Gg8 (C:A4) (R:A6) (l:Option Addr) (ln lc:Nat) (h:H) :
 A8 PR Be7 C R Z9 Tryz.f129 100000 true Bz3 [(0,.slice l ln lc)] h =
 nw (.cells Et7 false [.slice none 0 0]) h fun b w=>R Z9 Ay9 [(0,.slice l ln lc),(3,.pointer (some ⟨b,0,none⟩)),(4,.int .i64 0)] w:=by kernel_rfl
theorem Dd5 (C:A4) (R:A6) (l:Option Addr) (ln lc:Nat) (q:Addr) (i:Int) (h:H) :
 A8 PR Be7 C R Z9 Tryz.f129 100000 true Ay9 [(0,.slice l ln lc),(3,.pointer (some q)),(4,.int .i64 i)] h =
 bnd (cond (decide (i<((ln:Nat):Int))) (some (decide (i<4),h)) (some (false,h))) fun c w=>cond c
 (gSl (Addr.add q 0) w fun x xn xc=>aSome l fun p=>ck ((0:Int)≤i∧i<((ln:Nat):Int)) (gInt .i64 (Addr.add (B6 p) (Int.toNat i*1)) w fun x_1=>ck ((0:Int)≤mm2 false (mm2 true x_1 0) 64∧(mm2 false (mm2 true x_1 0) 64:Int)≤mm2 false (mm2 true x_1 0) 64∧mm2 false (mm2 true x_1 0) 64≤(B1:Int)) (nw (.cells Gj3 false (I7 (Int.toNat (mm2 false (mm2 true x_1 0) 64)) [.bool false])) w fun b w1=>nw (.cells Do3 false [.slice (some ⟨b,0,none⟩) (Int.toNat (mm2 false (mm2 true x_1 0) 64)) (Int.toNat (mm2 false (mm2 true x_1 0) 64))]) w1 fun b_1 w2=>gCells (some ⟨b_1,0,none⟩) (1*1) w2 fun cs=>ckB (fitsOpen x Do3 w2) (apd Do3 1 x xn xc 1 cs w2 fun a an ac w3=>pV (Addr.add q 0) (.slice a an ac) w3 fun w4=>R Z9 Ay9 [(0,.slice l ln lc),(3,.pointer (some q)),(4,.int .i64 (IntKind.wrap .i64 (i+1)))] w4))))
 (some (.pointer (some q),w)):=by kernel_rfl
def Bi0:Cuts:={ globs:=0,loops:=[],regs:=[],plans:=[(5,⟨[0,1,2,3,4,5,6,7,9,10,11,12,13,14,8,15,16,17,18,19,20,21],[0,0,0,4,12,28,0,64,252,0,512,1536,3584,0,8192,32764,65533,131069,262141,524287,1048575,2097151],[(8,[12])],[]⟩)] }
def De1:List Item:=A7 Tryz.f133
theorem Ev0 (C:A4) (R:A6) (r:Option Addr) (lo:Int) (n:Int) (h:H) :
 A8 PR Bi0 C R Az5 Tryz.f133 100000 true De1 [(0,.pointer r),(1,.int .i64 lo),(2,.int .i64 n)] h =
 aSome r fun p=>gSl (Addr.add p 0) h fun _ xn _=>bnd (C Ag7 [.int .i64 lo,.int .i64 n,.int .i64 ((xn:Nat):Int)] h) fun r_1 w=>aBool r_1 fun x_1=>cond (!x_1)
 (some (.tuple ⟨[.int .i64 0,.int .i64 1]⟩,w))
 (aSome r fun p_1=>gSl (Addr.add p_1 1) w fun _ xn_1 _=>cond (decide (((xn_1:Nat):Int)≥32))
 (some (.tuple ⟨[.int .i64 0,.int .i64 4]⟩,w))
 (aSome r fun p_2=>gSl (Addr.add p_2 1) w fun x_3 xn_2 xc_2=>nw (.cells B8 false [.int .i64 lo]) w fun b w1=>aSome r fun p_3=>gSl (Addr.add p_3 2) w1 fun x_4 xn_3 xc_3=>nw (.cells B8 false [.int .i64 n]) w1 fun b_1 w2=>gCells (some ⟨b,0,none⟩) (1*1) w2 fun cs=>ckB (fitsOpen x_3 B8 w2) (apd B8 1 x_3 xn_2 xc_2 1 cs w2 fun a an ac w3=>gSl (Addr.add p_3 2) w3 fun x_5 xn_4 xc_4=>same (.slice x_4 xn_3 xc_3) (.slice x_5 xn_4 xc_4) (gCells (some ⟨b_1,0,none⟩) (1*1) w3 fun cs_1=>ckB (fitsOpen x_4 B8 w3) (apd B8 1 x_4 xn_3 xc_3 1 cs_1 w3 fun a_1 an_1 ac_1 w4=>aSome r fun p_4=>pV (Addr.add p_4 1) (.slice a an ac) w4 fun w5=>aSome r fun p_5=>pV (Addr.add p_5 2) (.slice a_1 an_1 ac_1) w5 fun w6=>aSome r fun p_6=>gSl (Addr.add p_6 1) w6 fun _ xn_5 _=>some (.tuple ⟨[.int .i64 (IntKind.wrap .i64 (((xn_5:Nat):Int)-1)),.int .i64 0]⟩,w6)))))):=by kernel_rfl
def Bo7:Cuts:={ globs:=0,loops:=[],regs:=[],plans:=[] }
def Di7:List Item:=A7 Tryz.f136
theorem E26 (C:A4) (R:A6) (k:Option Addr) (h:H) :
 A8 PR Bo7 C R An2 Tryz.f136 100000 true Di7 [(0,.pointer k)] h =
 aSome k fun p=>gPtr (Addr.add p 3) h fun x=>some (.pointer x,h):=by kernel_rfl
def A49:Cuts:={ globs:=0,loops:=[],regs:=[],plans:=[] }
def Bx0:List Item:=A7 Tryz.f139
theorem D59 (C:A4) (R:A6) (r:Option Addr) (env:Int) (name:Int) (atv:Int) (n:Int) (h:H) :
 A8 PR A49 C R Ac7 Tryz.f139 100000 true Bx0 [(0,.pointer r),(1,.int .i64 env),(2,.int .i64 name),(3,.int .i64 atv),(4,.int .i64 n)] h =
 bnd (C Aa8 [.pointer r,.int .i64 env,.int .i64 name,.int .i64 1,.int .i64 atv,.int .i64 n] h) fun r_1 w=>as2 r_1 fun r_2 r_3=>aInt .i64 r_2 fun x=>aInt .i64 r_3 fun x_1=>cond (x_1 != 0)
 (some (.tuple ⟨[.slice none 0 0,.int .i64 x_1]⟩,w))
 (aSome r fun p=>gPtr (Addr.add p 0) w fun x_2=>bnd (C Bm1 [.pointer x_2,.int .i64 x,.int .i64 n] w) fun r_4 w1=>as2 r_4 fun r_5 r_6=>aSl r_5 fun x_3 xn xc=>aInt .i64 r_6 fun x_4=>some (.tuple ⟨[.slice x_3 xn xc,.int .i64 x_4]⟩,w1)):=by kernel_rfl
def Bh6:Cuts:={ globs:=0,loops:=[],regs:=[],plans:=[] }
def Dc2:List Item:=A7 Tryz.f142
theorem En4 (C:A4) (R:A6) (s:Option Addr) (env:Int) (name:Int) (to:Int) (give:Int) (lo:Int) (n:Int) (h:H) :
 A8 PR Bh6 C R Ay6 Tryz.f142 100000 true Dc2 [(0,.pointer s),(1,.int .i64 env),(2,.int .i64 name),(3,.int .i64 to),(4,.int .i64 give),(5,.int .i64 lo),(6,.int .i64 n)] h =
 bnd (C At5 [.pointer s,.int .i64 env,.int .i64 name] h) fun r w=>as2 r fun r_1 r_2=>aAgg r_1 fun x=>aInt .i64 r_2 fun x_1=>nw (.cells P4 false [.int .i64 0,.int .i64 0,.int .i64 0,.int .i64 0,.int .i64 0,.int .i64 0]) w fun b w1=>ck (List.length x=6) (pAgg ⟨b,0,none⟩ x w1 fun w2=>cond (x_1 != 0)
 (some (.tuple ⟨[.int .i64 0,.int .i64 x_1]⟩,w2))
 (gInt .i64 (Addr.add ⟨b,0,none⟩ 1) w2 fun x_2=>bnd (cond ((M7 .i64 x_2 4)==0) (some (true,w2)) (gInt .i64 (Addr.add ⟨b,0,none⟩ 1) w2 fun x_3=>some ((En0 .i64 give x_3) != 0,w2))) fun c w3=>cond c
 (some (.tuple ⟨[.int .i64 0,.int .i64 3]⟩,w3))
 (bnd (C Af4 [.pointer s,.int .i64 to] w3) fun r_3 w4=>aBool r_3 fun x_4=>bnd (cond (!x_4) (some (true,w4)) (some (decide (lo<0),w4))) fun c_1 w5=>bnd (cond c_1 (some (true,w5)) (some (decide (n<0),w5))) fun c_2 w6=>bnd (cond c_2 (some (true,w6)) (gInt .i64 (Addr.add ⟨b,0,none⟩ 3) w6 fun x_5=>some (decide (lo>x_5),w6))) fun c_3 w7=>bnd (cond c_3 (some (true,w7)) (gInt .i64 (Addr.add ⟨b,0,none⟩ 3) w7 fun x_6=>some (decide (n>(IntKind.wrap .i64 (x_6-lo))),w7))) fun c_4 w8=>cond c_4
 (some (.tuple ⟨[.int .i64 0,.int .i64 1]⟩,w8))
 (gInt .i64 (Addr.add ⟨b,0,none⟩ 0) w8 fun x_7=>gInt .i64 (Addr.add ⟨b,0,none⟩ 2) w8 fun x_8=>bnd (C Au1 [.pointer s,.int .i64 to,.agg ⟨[.int .i64 x_7,.int .i64 give,.int .i64 (IntKind.wrap .i64 (x_8+lo)),.int .i64 n,.int .i64 env,.int .i64 name]⟩] w8) fun r_4 w9=>as2 r_4 fun r_5 r_6=>aInt .i64 r_5 fun x_9=>aInt .i64 r_6 fun x_10=>some (.tuple ⟨[.int .i64 x_9,.int .i64 x_10]⟩,w9))))):=by kernel_rfl
def Bh7:Cuts:={ globs:=0,loops:=[],regs:=[],plans:=[] }
def De0:List Item:=A7 Tryz.f145
theorem Ew8 (C:A4) (R:A6) (q:Option Addr) (s:Int) (k:Int) (h:H) :
 A8 PR Bh7 C R Az1 Tryz.f145 100000 true De0 [(0,.pointer q),(1,.int .i64 s),(2,.int .i64 k)] h =
 bnd (C Ai5 [.pointer q,.int .i64 s] h) fun r w=>aBool r fun x=>cond (!x)
 (some (.int .i64 1,w))
 (bnd (C Ax1 [.pointer q,.int .i64 s,.int .i64 k] w) fun r_1 w1=>aBool r_1 fun x_1=>cond (!x_1)
 (some (.int .i64 5,w1))
 (aSome q fun p=>gSl (Addr.add p 0) w1 fun x_2 xn _=>aSome x_2 fun p_1=>ck ((0:Int)≤s∧s<((xn:Nat):Int)) (gSl (Addr.add (B6 p_1) (Int.toNat s*1)) w1 fun x_3 xn_1 _=>aSome x_3 fun p_2=>ck ((0:Int)≤k∧k<((xn_1:Nat):Int)) (pV (Addr.add (B6 p_2) (Int.toNat k*1)) (.int .i64 0) w1 fun w2=>some (.int .i64 0,w2))))):=by kernel_rfl
def Bu3:Cuts:={ globs:=0,loops:=[],regs:=[],plans:=[(4,⟨[0,1,2,3,4,5,6,7,8,9,10,11],[0,1,3,7,0,31,63,0,128,0,1023,2047],[],[]⟩)] }
def Do8:List Item:=A7 Tryz.f152
theorem Gc4 (C:A4) (R:A6) (s:Option Addr) (e:Int) (c:List Value) (h:H) :
 A8 PR Bu3 C R Ba7 Tryz.f152 100000 true Do8 [(0,.pointer s),(1,.int .i64 e),(2,.agg ⟨c⟩)] h =
 nw (.cells P4 false c) h fun b w=>aSome s fun p=>gSl (Addr.add p 0) w fun x xn _=>aSome x fun p_1=>ck ((0:Int)≤e∧e<((xn:Nat):Int)) (gPtr (Addr.add (B6 p_1) (Int.toNat e*1)) w fun x_1=>bnd (C W4 [.pointer x_1] w) fun r w1=>as2 r fun r_1 r_2=>aInt .i64 r_1 fun x_2=>aBool r_2 fun x_3=>cond (!x_3)
 (some (.tuple ⟨[.int .i64 0,.int .i64 4]⟩,w1))
 (aSome s fun p_2=>gSl (Addr.add p_2 1) w1 fun x_4 xn_1 _=>aSome x_4 fun p_3=>ck ((0:Int)≤e∧e<((xn_1:Nat):Int)) (gSl (Addr.add (B6 p_3) (Int.toNat e*1)) w1 fun x_5 xn_2 _=>gAgg ⟨b,0,none⟩ 6 w1 fun x_6=>aSome x_5 fun p_4=>ck ((0:Int)≤M7 .i64 x_2 255∧M7 .i64 x_2 255<((xn_2:Nat):Int)) (ck (List.length x_6=6) (pAgg (Addr.add (B6 p_4) (Int.toNat (M7 .i64 x_2 255)*6)) x_6 w1 fun w2=>some (.tuple ⟨[.int .i64 x_2,.int .i64 0]⟩,w2)))))):=by kernel_rfl
def De7:Cuts:={ globs:=0,loops:=[],regs:=[],plans:=[] }
def Ej5:List Item:=A7 Tryz.f160
theorem G05 (C:A4) (R:A6) (b:Option Addr) (bn bc:Nat) (h:H) :
 A8 PR De7 C R Am3 Tryz.f160 100000 true Ej5 [(0,.slice b bn bc)] h =
 bnd (C Q1 [.slice b bn bc,.func (.func Ag2) ⟨[]⟩ ⟨[]⟩] h) fun r w=>aBool r fun x=>some (.bool (!x),w):=by kernel_rfl
def Dh2:Cuts:={ globs:=0,loops:=[],regs:=[],plans:=[] }
def El0:List Item:=A7 Tryz.f161
theorem Gx4 (C:A4) (R:A6)  (h:H) :
 A8 PR Dh2 C R Bb8 Tryz.f161 100000 true El0 [] h =
 bnd (C An5 [.int .i64 8,.func (.func Ar1) ⟨[]⟩ ⟨[]⟩,.func (.func Ar6) ⟨[]⟩ ⟨[]⟩] h) fun r w=>aPtr r fun x=>some (.pointer x,w):=by kernel_rfl
def Ag9:Cuts:={ globs:=0,loops:=[],regs:=[],plans:=[(2,⟨[0,1,2,3,4,5,6,7,8,9,10,11,12,13,14],[0,1,3,7,15,31,63,127,255,511,63,63,4095,8191,16383],[],[]⟩)] }
def A15:List Item:=A7 Tryz.f169
theorem B58 (C:A4) (R:A6) (c:Option Addr) (v:List Value) (h:H) :
 A8 PR Ag9 C R V8 Tryz.f169 100000 true A15 [(0,.pointer c),(1,.agg ⟨v⟩)] h =
 nw (.cells D0 false v) h fun b w=>aSome c fun p=>gInt .i64 (Addr.add p 0) w fun x=>ck ((0:Int)≤x∧(x:Int)≤x∧x≤(B1:Int)) (nw (.cells A5 false (I7 (Int.toNat x) [.int .u8 0])) w fun b_1 w1=>aSome c fun p_1=>gFv (Addr.add p_1 1) w1 fun x_1=>isNilF x_1 fun b_2=>bnd (cond b_2 (some (true,w1)) (aSome c fun p_2=>gFv (Addr.add p_2 1) w1 fun x_2=>gAgg ⟨b,0,none⟩ 16 w1 fun x_3=>aFn x_2 fun g fi cp=>bnd (C g (fi++([.agg ⟨x_3⟩,.slice (some ⟨b_1,0,none⟩) (Int.toNat x) (Int.toNat x)]++cp)) w1) fun r w2=>aBool r fun x_4=>some (!x_4,w2))) fun c_1 w3=>cond c_1
 (some (.tuple ⟨[.slice none 0 0,.bool false]⟩,w3))
 (some (.tuple ⟨[.slice (some ⟨b_1,0,none⟩) (Int.toNat x) (Int.toNat x),.bool true]⟩,w3))):=by kernel_rfl
def Ds4:Cuts:={ globs:=0,loops:=[],regs:=[],plans:=[] }
def Eu9:List Item:=A7 Tryz.f177
theorem G61 (C:A4) (R:A6) (c:List Value) (x:List Value) (h:H) :
 A8 PR Ds4 C R B30 Tryz.f177 100000 true Eu9 [(0,.agg ⟨c⟩),(1,.agg ⟨x⟩)] h =
 nw (.cells E1 false c) h fun b w=>nw (.cells I9 false x) w fun b_1 w1=>gInt .i64 (Addr.add ⟨b_1,0,none⟩ 0) w1 fun x_1=>bnd (cond (decide (x_1<0)) (some (true,w1)) (gInt .i64 (Addr.add ⟨b_1,0,none⟩ 0) w1 fun x_2=>gSl (Addr.add ⟨b,0,none⟩ 0) w1 fun _ xn _=>some (decide (x_2≥((xn:Nat):Int)),w1))) fun c_1 w2=>bnd (cond c_1 (some (true,w2)) (gInt .i64 (Addr.add ⟨b_1,0,none⟩ 1) w2 fun x_4=>some (decide (x_4<0),w2))) fun c_2 w3=>bnd (cond c_2 (some (true,w3)) (gInt .i64 (Addr.add ⟨b_1,0,none⟩ 2) w3 fun x_5=>some (decide (x_5<0),w3))) fun c_3 w4=>bnd (cond c_3 (some (true,w4)) (gInt .i64 (Addr.add ⟨b_1,0,none⟩ 3) w4 fun x_6=>some (decide (x_6<0),w4))) fun c_4 w5=>cond c_4
 (some (.bool false,w5))
 (gSl (Addr.add ⟨b,0,none⟩ 0) w5 fun x_7 xn_1 _=>gInt .i64 (Addr.add ⟨b_1,0,none⟩ 0) w5 fun x_8=>aSome x_7 fun p=>ck ((0:Int)≤x_8∧x_8<((xn_1:Nat):Int)) (gInt .i64 (Addr.add (B6 p) (Int.toNat x_8*1)) w5 fun x_9=>bnd (C Bb3 [.int .i64 x_9] w5) fun r w6=>aInt .i64 r fun x_10=>gInt .i64 (Addr.add ⟨b_1,0,none⟩ 1) w6 fun x_11=>cond (decide (x_11>x_10))
 (some (.bool false,w6))
 (gInt .i64 (Addr.add ⟨b_1,0,none⟩ 1) w6 fun x_12=>gInt .i64 (Addr.add ⟨b_1,0,none⟩ 2) w6 fun x_13=>bnd (cond (decide (x_13≤(IntKind.wrap .i64 ((IntKind.wrap .i64 (x_10-x_12))*64)))) (gInt .i64 (Addr.add ⟨b_1,0,none⟩ 3) w6 fun x_14=>gInt .i64 (Addr.add ⟨b_1,0,none⟩ 2) w6 fun x_15=>some (decide (x_14≤(IntKind.wrap .i64 ((IntKind.wrap .i64 ((IntKind.wrap .i64 (x_10-x_12))*64))-x_15))),w6)) (some (false,w6))) fun c_5 w7=>some (.bool c_5,w7)))):=by kernel_rfl
def B37:Cuts:={ globs:=0,loops:=[],regs:=[],plans:=[] }
def D00:List Item:=A7 Tryz.f181
theorem Gi8 (C:A4) (R:A6) (s:Option Addr) (env:Int) (h:H) :
 A8 PR B37 C R Af4 Tryz.f181 100000 true D00 [(0,.pointer s),(1,.int .i64 env)] h =
 bnd (cond (decide (env≥0)) (aSome s fun p=>gSl (Addr.add p 0) h fun _ xn _=>some (decide (env<((xn:Nat):Int)),h)) (some (false,h))) fun c w=>some (.bool c,w):=by kernel_rfl
def Bj0:Cuts:={ globs:=0,loops:=[],regs:=[],plans:=[] }
def Dd8:List Item:=A7 Tryz.f193
theorem Ex1 (C:A4) (R:A6) (q:Option Addr) (s:Int) (k:Int) (h:H) :
 A8 PR Bj0 C R Ax1 Tryz.f193 100000 true Dd8 [(0,.pointer q),(1,.int .i64 s),(2,.int .i64 k)] h =
 bnd (C Ai5 [.pointer q,.int .i64 s] h) fun r w=>aBool r fun x=>bnd (cond x (some (decide (k≥0),w)) (some (false,w))) fun c w1=>bnd (cond c (aSome q fun p=>gSl (Addr.add p 0) w1 fun x_1 xn _=>aSome x_1 fun p_1=>ck ((0:Int)≤s∧s<((xn:Nat):Int)) (gSl (Addr.add (B6 p_1) (Int.toNat s*1)) w1 fun _ xn_1 _=>some (decide (k<((xn_1:Nat):Int)),w1))) (some (false,w1))) fun c_1 w2=>bnd (cond c_1 (aSome q fun p_2=>gSl (Addr.add p_2 0) w2 fun x_3 xn_2 _=>aSome x_3 fun p_3=>ck ((0:Int)≤s∧s<((xn_2:Nat):Int)) (gSl (Addr.add (B6 p_3) (Int.toNat s*1)) w2 fun x_4 xn_3 _=>aSome x_4 fun p_4=>ck ((0:Int)≤k∧k<((xn_3:Nat):Int)) (gInt .i64 (Addr.add (B6 p_4) (Int.toNat k*1)) w2 fun x_5=>some (decide (x_5>0),w2)))) (some (false,w2))) fun c_2 w3=>some (.bool c_2,w3):=by kernel_rfl
def U1:Cuts:={ globs:=0,loops:=[(18,[0,1,2])],regs:=[(10,[0,1,2]),(11,[0,1,2]),(14,[0,1,2]),(17,[])],plans:=[(11,⟨[0,1,2,3,4,5,6,7,8,9,10,11,12,13,14,15,16],[0,1,3,7,15,31,31,95,223,479,1023,31,2079,6175,14367,32767,65535],[],[]⟩),(18,⟨[0,1,2,3,4,5,6,7,8,9,10,11,12,13,14,15,16,17,18,19,20],[0,1,3,7,15,31,0,127,255,511,511,1535,3583,7679,16383,511,33279,98815,229887,524287,1048575],[],[]⟩)] }
def Z6:List Item:=A7 Tryz.f195
def Ao1:List Item:=stk [0,1,0,1,0,1,0,1,0,1,0,0,1,2,0,1] Z6
def Ao7:List Item:=stk [0,1,0,1,0,1,0,1,0,1,0,1,0,0] Z6
def Ap7:List Item:=stk [0,1,0,1,0,1,0,1,0,1,0,1,0,1,0,0] Z6
def An9:List Item:=stk [0,1,0,1,0,1,0,1,0,1,0,1,0,1,0,0,1,2,0,1,0] Z6
def Ae9:List Item:=stk [0,1,0,1,0,1,0,1,0,1,0,1,0,1,0,1,0,4,5] Z6
theorem E16 (C:A4) (R:A6) (s:Option Addr) (who:Int) (now:Int) (h:H) :
 A8 PR U1 C R D2 Tryz.f195 100000 true Z6 [(0,.pointer s),(1,.int .i64 who),(2,.int .i64 now)] h =
 aSome s fun p=>gInt .i64 (Addr.add p 7) h fun x=>bnd (cond (decide (who<0)) (some (true,h)) (some (decide (who>99),h))) fun c w=>cond c
 (some (.tuple ⟨[.int .i64 0,.bool false]⟩,w))
 (aSome s fun p_1=>pV (Addr.add p_1 7) (.int .i64 (mm2 true now x)) w fun w1=>aSome s fun p_2=>gBool (Addr.add p_2 1) w1 fun x_1=>bnd (cond x_1 (aSome s fun p_3=>gInt .i64 (Addr.add p_3 2) w1 fun x_2=>some (x_2==who,w1)) (some (false,w1))) fun c_1 w2=>cond c_1
 (aSome s fun p_4=>gInt .i64 (Addr.add p_4 3) w2 fun x_3=>some (.tuple ⟨[.int .i64 x_3,.bool true]⟩,w2))
 (aSome s fun p_5=>gSl (Addr.add p_5 5) w2 fun x_4 xn xc=>bnd (C N0 [.slice x_4 xn xc,.int .i64 who] w2) fun r w3=>aBool r fun x_5=>cond (!x_5)
 (aSome s fun p_6=>gSl (Addr.add p_6 5) w3 fun _ xn_1 _=>cond (((xn_1:Nat):Int)==0)
 (aSome s fun p_7=>pV (Addr.add p_7 6) (.int .i64 (mm2 true now x)) w3 fun w4=>R D2 Ao1 [(0,.pointer s),(1,.int .i64 who),(2,.int .i64 (mm2 true now x))] w4)
 (R D2 Ao1 [(0,.pointer s),(1,.int .i64 who),(2,.int .i64 (mm2 true now x))] w3))
 (R D2 Ao7 [(0,.pointer s),(1,.int .i64 who),(2,.int .i64 (mm2 true now x))] w3))):=by kernel_rfl
theorem Ee0 (C:A4) (R:A6) (s:Option Addr) (who:Int) (now:Int) (h:H) :
 A8 PR U1 C R D2 Tryz.f195 100000 true Ao1 [(0,.pointer s),(1,.int .i64 who),(2,.int .i64 now)] h =
 aSome s fun p=>gSl (Addr.add p 5) h fun x xn xc=>nw (.cells B8 false [.int .i64 who]) h fun b w=>gCells (some ⟨b,0,none⟩) (1*1) w fun cs=>ckB (fitsOpen x B8 w) (apd B8 1 x xn xc 1 cs w fun a an ac w1=>aSome s fun p_1=>pV (Addr.add p_1 5) (.slice a an ac) w1 fun w2=>R D2 Ao7 [(0,.pointer s),(1,.int .i64 who),(2,.int .i64 now)] w2):=by kernel_rfl
theorem Ec7 (C:A4) (R:A6) (s:Option Addr) (who:Int) (now:Int) (h:H) :
 A8 PR U1 C R D2 Tryz.f195 100000 true Ao7 [(0,.pointer s),(1,.int .i64 who),(2,.int .i64 now)] h =
 aSome s fun p=>gBool (Addr.add p 1) h fun x=>bnd (cond x (aSome s fun p_1=>gInt .i64 (Addr.add p_1 4) h fun x_1=>aSome s fun p_2=>gInt .i64 (Addr.add p_2 0) h fun x_2=>some (decide ((IntKind.wrap .i64 (now-x_1))≥x_2),h)) (some (false,h))) fun c w=>cond c
 (aSome s fun p_3=>pV (Addr.add p_3 1) (.bool false) w fun w1=>aSome s fun p_4=>pV (Addr.add p_4 6) (.int .i64 now) w1 fun w2=>R D2 Ap7 [(0,.pointer s),(1,.int .i64 who),(2,.int .i64 now)] w2)
 (R D2 Ap7 [(0,.pointer s),(1,.int .i64 who),(2,.int .i64 now)] w):=by kernel_rfl
theorem Ed2 (C:A4) (R:A6) (s:Option Addr) (who:Int) (now:Int) (h:H) :
 A8 PR U1 C R D2 Tryz.f195 100000 true Ap7 [(0,.pointer s),(1,.int .i64 who),(2,.int .i64 now)] h =
 aSome s fun p=>gBool (Addr.add p 1) h fun x=>cond x
 (aSome s fun p_1=>gSl (Addr.add p_1 5) h fun x_1 xn _=>aSome x_1 fun p_2=>ck ((0:Int)≤0∧0<((xn:Nat):Int)) (gInt .i64 (Addr.add (B6 p_2) (Int.toNat 0*1)) h fun x_2=>cond (x_2==who)
 (aSome s fun p_3=>pV (Addr.add p_3 6) (.int .i64 now) h fun w=>R D2 An9 [] w)
 (R D2 An9 [] h)))
 (R D2 Ae9 [(0,.pointer s),(1,.int .i64 who),(2,.int .i64 now)] h):=by kernel_rfl
theorem Ea6 (C:A4) (R:A6)  (h:H) :
 A8 PR U1 C R D2 Tryz.f195 100000 true An9 [] h =
 some (.tuple ⟨[.int .i64 0,.bool false]⟩,h):=by kernel_rfl
theorem B42 (C:A4) (R:A6) (s:Option Addr) (who:Int) (now:Int) (h:H) :
 A8 PR U1 C R D2 Tryz.f195 100000 true Ae9 [(0,.pointer s),(1,.int .i64 who),(2,.int .i64 now)] h =
 aSome s fun p=>gSl (Addr.add p 5) h fun x xn _=>aSome x fun p_1=>ck ((0:Int)≤0∧0<((xn:Nat):Int)) (gInt .i64 (Addr.add (B6 p_1) (Int.toNat 0*1)) h fun x_1=>bnd (cond (x_1 != who) (aSome s fun p_2=>gInt .i64 (Addr.add p_2 6) h fun x_2=>aSome s fun p_3=>gInt .i64 (Addr.add p_3 0) h fun x_3=>some (decide ((IntKind.wrap .i64 (now-x_2))≥x_3),h)) (some (false,h))) fun c w=>cond c
 (aSome s fun p_4=>gSl (Addr.add p_4 5) w fun x_4 xn_1 xc_1=>ckB (fitsOpen x_4 B8 w) (ck ((0:Int)≤1∧1≤((xn_1:Nat):Int)) (aSome s fun p_5=>pV (Addr.add p_5 5) (.slice (H0 x_4 (decide (Int.toNat 1<xc_1)) ((Int.toNat 1)*1)) (xn_1-(Int.toNat 1)) (xc_1-(Int.toNat 1))) w fun w1=>aSome s fun p_6=>pV (Addr.add p_6 6) (.int .i64 now) w1 fun w2=>R D2 Ae9 [(0,.pointer s),(1,.int .i64 who),(2,.int .i64 now)] w2)))
 (aSome s fun p_7=>gSl (Addr.add p_7 5) w fun x_5 xn_2 _=>aSome x_5 fun p_8=>ck ((0:Int)≤0∧0<((xn_2:Nat):Int)) (gInt .i64 (Addr.add (B6 p_8) (Int.toNat 0*1)) w fun x_6=>cond (x_6 != who)
 (some (.tuple ⟨[.int .i64 0,.bool false]⟩,w))
 (aSome s fun p_9=>gSl (Addr.add p_9 5) w fun x_7 xn_3 xc_3=>ckB (fitsOpen x_7 B8 w) (ck ((0:Int)≤1∧1≤((xn_3:Nat):Int)) (aSome s fun p_10=>pV (Addr.add p_10 5) (.slice (H0 x_7 (decide (Int.toNat 1<xc_3)) ((Int.toNat 1)*1)) (xn_3-(Int.toNat 1)) (xc_3-(Int.toNat 1))) w fun w3=>aSome s fun p_11=>pV (Addr.add p_11 6) (.int .i64 now) w3 fun w4=>aSome s fun p_12=>gInt .i64 (Addr.add p_12 8) w4 fun x_8=>aSome s fun p_13=>pV (Addr.add p_13 8) (.int .i64 (IntKind.wrap .i64 (x_8+1))) w4 fun w5=>aSome s fun p_14=>gInt .i64 (Addr.add p_14 8) w5 fun x_9=>aSome s fun p_15=>pV (Addr.add p_15 1) (.bool true) w5 fun w6=>aSome s fun p_16=>pV (Addr.add p_16 2) (.int .i64 who) w6 fun w7=>aSome s fun p_17=>pV (Addr.add p_17 3) (.int .i64 x_9) w7 fun w8=>aSome s fun p_18=>pV (Addr.add p_18 4) (.int .i64 now) w8 fun w9=>aSome s fun p_19=>gInt .i64 (Addr.add p_19 3) w9 fun x_10=>some (.tuple ⟨[.int .i64 x_10,.bool true]⟩,w9))))))):=by kernel_rfl
def Bo4:Cuts:={ globs:=0,loops:=[],regs:=[],plans:=[] }
def Dh5:List Item:=A7 Tryz.f196
theorem E15 (C:A4) (R:A6) (s:Option Addr) (who:Int) (stamp:Int) (h:H) :
 A8 PR Bo4 C R A31 Tryz.f196 100000 true Dh5 [(0,.pointer s),(1,.int .i64 who),(2,.int .i64 stamp)] h =
 bnd (C A32 [.pointer s,.int .i64 who,.int .i64 stamp] h) fun r w=>aBool r fun x=>cond (!x)
 (some (.bool false,w))
 (aSome s fun p=>pV (Addr.add p 1) (.bool false) w fun w1=>aSome s fun p_1=>gInt .i64 (Addr.add p_1 7) w1 fun x_1=>aSome s fun p_2=>pV (Addr.add p_2 6) (.int .i64 x_1) w1 fun w2=>some (.bool true,w2)):=by kernel_rfl
def Ba6:Cuts:={ globs:=0,loops:=[],regs:=[],plans:=[] }
def B27:List Item:=A7 Tryz.f203
theorem Ed6 (C:A4) (R:A6) (size:Int) (put:Value) (get:Value) (h:H) :
 A8 PR Ba6 C R An5 Tryz.f203 100000 true B27 [(0,.int .i64 size),(1,put),(2,get)] h =
 one put (one get (nw (.cells Ak2 false [.int .i64 (mm2 false (mm2 true size 0) 64),put,get]) h fun b w=>some (.pointer (some ⟨b,0,none⟩),w))):=by kernel_rfl
def A94:Cuts:={ globs:=0,loops:=[],regs:=[],plans:=[] }
def B28:List Item:=A7 Tryz.f207
theorem Ef5 (C:A4) (R:A6) (size:Int) (put:Value) (get:Value) (h:H) :
 A8 PR A94 C R Aq1 Tryz.f207 100000 true B28 [(0,.int .i64 size),(1,put),(2,get)] h =
 one put (one get (nw (.cells Bq2 false [.int .i64 (mm2 false (mm2 true size 0) 64),put,get]) h fun b w=>some (.pointer (some ⟨b,0,none⟩),w))):=by kernel_rfl
def Bq8:Cuts:={ globs:=0,loops:=[(3,[0,2,4,31,32,33]),(8,[0,2,4,49])],regs:=[],plans:=[(1,⟨[0,1,2,3,4,5,6,7,8,9,10,11,12,13,14,15,16,17,18],[0,1,3,7,0,16,48,112,0,256,768,1792,0,4096,12288,28672,65535,0,262143],[],[]⟩),(13,⟨[0,1,2,3,4,5,6,7,8],[0,0,2,6,6,30,62,63,255],[(5,[0])],[]⟩)] }
def Da2:List Item:=A7 Tryz.f212
def B88:List Item:=stk [0,1,0,1,0,0,1,4,5] Da2
def B90:List Item:=stk [0,1,0,1,0,1,0,0,1,4,5] Da2
theorem Hk9 (C:A4) (R:A6) (b:Option Addr) (bn bc:Nat) (h:H) :
 A8 PR Bq8 C R W9 Tryz.f212 100000 true Da2 [(0,.slice b bn bc)] h =
 nw (.cells D0 false [.int .i64 0,.int .i64 0,.int .i64 0,.int .i64 0,.int .i64 0,.int .i64 0,.int .i64 0,.int .i64 0,.int .i64 0,.int .i64 0,.int .i64 0,.int .i64 0,.int .i64 0,.int .i64 0,.int .i64 0,.int .i64 0]) h fun b_1 w=>aSome b fun p=>ck ((0:Int)≤0∧0<((bn:Nat):Int)) (gInt .u8 (Addr.add (B6 p) (Int.toNat 0*1)) w fun x=>aSome b fun p_1=>ck ((0:Int)≤1∧1<((bn:Nat):Int)) (gInt .u8 (Addr.add (B6 p_1) (Int.toNat 1*1)) w fun x_1=>aSome b fun p_2=>ck ((0:Int)≤2∧2<((bn:Nat):Int)) (gInt .u8 (Addr.add (B6 p_2) (Int.toNat 2*1)) w fun x_2=>aSome b fun p_3=>ck ((0:Int)≤3∧3<((bn:Nat):Int)) (gInt .u8 (Addr.add (B6 p_3) (Int.toNat 3*1)) w fun x_3=>nw (.cells D0 false [.int .i64 0,.int .i64 0,.int .i64 0,.int .i64 0,.int .i64 0,.int .i64 0,.int .i64 0,.int .i64 0,.int .i64 0,.int .i64 0,.int .i64 0,.int .i64 0,.int .i64 0,.int .i64 0,.int .i64 0,.int .i64 0]) w fun b_2 w1=>pAgg ⟨b_2,0,none⟩ [.int .i64 (IntKind.wrap .i64 (x)),.int .i64 (IntKind.wrap .i64 (x_1)),.int .i64 (IntKind.wrap .i64 (x_2)),.int .i64 (IntKind.wrap .i64 (x_3)),.int .i64 0,.int .i64 0,.int .i64 0,.int .i64 0,.int .i64 0,.int .i64 0,.int .i64 0,.int .i64 0,.int .i64 0,.int .i64 0,.int .i64 0,.int .i64 0] w1 fun w2=>nw (.cells Im5 false [.pointer (some (Addr.add ⟨b_2,0,none⟩ 4)),.pointer (some (Addr.add ⟨b_2,0,none⟩ 5)),.pointer (some (Addr.add ⟨b_2,0,none⟩ 6)),.pointer (some (Addr.add ⟨b_2,0,none⟩ 7))]) w2 fun b_3 w3=>R W9 B88 [(0,.slice b bn bc),(2,.pointer (some ⟨b_1,0,none⟩)),(4,.pointer (some ⟨b_2,0,none⟩)),(31,.slice (some ⟨b_3,0,none⟩) 4 4),(32,.int .i64 4),(33,.int .i64 0)] w3)))):=by kernel_rfl
theorem A70 (C:A4) (R:A6) (b:Option Addr) (bn bc:Nat) (x2:Addr) (p:Addr) (x31:Option Addr) (x31n x31c:Nat) (x32:Int) (x33:Int) (h:H) :
 A8 PR Bq8 C R W9 Tryz.f212 100000 true B88 [(0,.slice b bn bc),(2,.pointer (some x2)),(4,.pointer (some p)),(31,.slice x31 x31n x31c),(32,.int .i64 x32),(33,.int .i64 x33)] h =
 cond (decide (x33<x32))
 (aSome x31 fun p_1=>ck ((0:Int)≤x33∧x33<((x31n:Nat):Int)) (gPtr (Addr.add (B6 p_1) (Int.toNat x33*1)) h fun x=>bnd (C Bz7 [.slice b bn bc,.int .i64 (IntKind.wrap .i64 (4+(IntKind.wrap .i64 (2*x33))))] h) fun r w=>as2 r fun r_1 r_2=>aInt .i64 r_1 fun x_1=>aBool r_2 fun _=>aSome x fun p_2=>pV p_2 (.int .i64 x_1) w fun w1=>R W9 B88 [(0,.slice b bn bc),(2,.pointer (some x2)),(4,.pointer (some p)),(31,.slice x31 x31n x31c),(32,.int .i64 x32),(33,.int .i64 (IntKind.wrap .i64 (x33+1)))] w1))
 (R W9 B90 [(0,.slice b bn bc),(2,.pointer (some x2)),(4,.pointer (some p)),(49,.int .i64 0)] h):=by kernel_rfl
theorem Y6 (C:A4) (R:A6) (b:Option Addr) (bn bc:Nat) (x2:Addr) (p:Addr) (x49:Int) (h:H) :
 A8 PR Bq8 C R W9 Tryz.f212 100000 true B90 [(0,.slice b bn bc),(2,.pointer (some x2)),(4,.pointer (some p)),(49,.int .i64 x49)] h =
 cond (decide (x49<8))
 (aSome b fun p_1=>ck ((0:Int)≤IntKind.wrap .i64 (12+x49)∧IntKind.wrap .i64 (12+x49)<((bn:Nat):Int)) (gInt .u8 (Addr.add (B6 p_1) (Int.toNat (IntKind.wrap .i64 (12+x49))*1)) h fun x=>ck ((0:Int)≤x49∧x49<((8:Nat):Int)) (pV (Addr.add (Addr.add p 8) (Int.toNat x49*1)) (.int .i64 (IntKind.wrap .i64 (x))) h fun w=>R W9 B90 [(0,.slice b bn bc),(2,.pointer (some x2)),(4,.pointer (some p)),(49,.int .i64 (IntKind.wrap .i64 (x49+1)))] w)))
 (gAgg p 16 h fun x_1=>bnd (C A40 [.agg ⟨x_1⟩] h) fun r w1=>as2 r fun r_1 r_2=>aSl r_1 fun x_2 xn xc=>aBool r_2 fun x_3=>gAgg p 16 w1 fun x_4=>bnd (cond x_3 (bnd (C D6 [.slice x_2 xn xc,.slice b bn bc] w1) fun r_3 w2=>aBool r_3 fun x_5=>gAgg p 16 w2 fun x_6=>same (.agg ⟨x_4⟩) (.agg ⟨x_6⟩) (some (x_5,w2))) (some (false,w1))) fun c w3=>ck (List.length x_4=16) (pAgg x2 x_4 w3 fun w4=>gAgg x2 16 w4 fun x_7=>some (.tuple ⟨[.agg ⟨x_7⟩,.bool c]⟩,w4))):=by kernel_rfl
def Z2:Cuts:={ globs:=0,loops:=[(2,[0,1,7,8])],regs:=[],plans:=[] }
def Ai8:List Item:=A7 Tryz.f213
def N3:List Item:=stk [0,1,0,0,1,4,5] Ai8
theorem A37 (C:A4) (R:A6) (s:Option Addr) (sn sc:Nat) (f:Value) (h:H) :
 A8 PR Z2 C R D9 Tryz.f213 100000 true Ai8 [(0,.slice s sn sc),(1,f)] h =
 R D9 N3 [(0,.slice s sn sc),(1,f),(7,.int .i64 ((sn:Nat):Int)),(8,.int .i64 0)] h:=by kernel_rfl
theorem S4 (C:A4) (R:A6) (s:Option Addr) (sn sc:Nat) (f:Value) (x7:Int) (x8:Int) (h:H) :
 A8 PR Z2 C R D9 Tryz.f213 100000 true N3 [(0,.slice s sn sc),(1,f),(7,.int .i64 x7),(8,.int .i64 x8)] h =
 cond (decide (x8<x7))
 (aSome s fun p=>ck ((0:Int)≤x8∧x8<((sn:Nat):Int)) (gInt .i64 (Addr.add (B6 p) (Int.toNat x8*1)) h fun x=>aFn f fun g fi cp=>bnd (C g (fi++([.int .i64 x]++cp)) h) fun r w=>aBool r fun x_1=>cond x_1
 (some (.int .i64 x8,w))
 (R D9 N3 [(0,.slice s sn sc),(1,f),(7,.int .i64 x7),(8,.int .i64 (IntKind.wrap .i64 (x8+1)))] w)))
 (some (.int .i64 (-1),h)):=by kernel_rfl
def Ad2:Cuts:={ globs:=0,loops:=[(2,[0,3,11,12,13])],regs:=[],plans:=[(5,⟨[0,1,2,3,4,5,6,7,8,9,10,11,12,13,14,15,16],[0,1,3,7,0,0,32,96,224,0,0,1535,3583,7679,16383,32767,65535],[],[]⟩)] }
def Ao6:List Item:=A7 Tryz.f214
def Y9:List Item:=stk [0,1,0,0,1,4,5] Ao6
theorem Dl4 (C:A4) (R:A6) (t:Option Addr) (v:List Value) (h:H) :
 A8 PR Ad2 C R I2 Tryz.f214 100000 true Ao6 [(0,.pointer t),(1,.agg ⟨v⟩)] h =
 nw (.cells P4 false v) h fun b w=>aSome t fun p=>gSl (Addr.add p 0) w fun x xn xc=>R I2 Y9 [(0,.pointer t),(3,.pointer (some ⟨b,0,none⟩)),(11,.slice x xn xc),(12,.int .i64 ((xn:Nat):Int)),(13,.int .i64 0)] w:=by kernel_rfl
theorem A38 (C:A4) (R:A6) (t:Option Addr) (v:Addr) (x11:Option Addr) (x11n x11c:Nat) (x12:Int) (x13:Int) (h:H) :
 A8 PR Ad2 C R I2 Tryz.f214 100000 true Y9 [(0,.pointer t),(3,.pointer (some v)),(11,.slice x11 x11n x11c),(12,.int .i64 x12),(13,.int .i64 x13)] h =
 cond (decide (x13<x12))
 (aSome x11 fun p=>ck ((0:Int)≤x13∧x13<((x11n:Nat):Int)) (gAgg (Addr.add (B6 p) (Int.toNat x13*8)) 8 h fun x=>nw (.cells Al8 false [.int .i64 0,.int .i64 0,.int .i64 0,.int .i64 0,.int .i64 0,.int .i64 0,.int .i64 0,.bool false]) h fun b w=>ck (List.length x=8) (pAgg ⟨b,0,none⟩ x w fun w1=>gBool (Addr.add ⟨b,0,none⟩ 7) w1 fun x_1=>bnd (cond (!x_1) (gInt .i64 (Addr.add ⟨b,0,none⟩ 6) w1 fun x_2=>some (decide (x_2≤1000000),w1)) (some (false,w1))) fun c w2=>cond c
 (aSome t fun p_1=>gSl (Addr.add p_1 0) w2 fun x_3 xn _=>aSome t fun p_2=>gSl (Addr.add p_2 0) w2 fun x_4 xn_1 _=>gAgg v 6 w2 fun x_5=>aSome x_3 fun p_3=>ck ((0:Int)≤x13∧x13<((xn:Nat):Int)) (ck (List.length x_5=6) (pAgg (Addr.add (Addr.add (B6 p_3) (Int.toNat x13*8)) 0) x_5 w2 fun w3=>aSome x_4 fun p_4=>ck ((0:Int)≤x13∧x13<((xn_1:Nat):Int)) (pV (Addr.add (Addr.add (B6 p_4) (Int.toNat x13*8)) 7) (.bool true) w3 fun w4=>bnd (C N6 [.pointer t,.int .i64 x13] w4) fun r w5=>aInt .i64 r fun x_6=>some (.tuple ⟨[.int .i64 x_6,.bool true]⟩,w5)))))
 (R I2 Y9 [(0,.pointer t),(3,.pointer (some v)),(11,.slice x11 x11n x11c),(12,.int .i64 x12),(13,.int .i64 (IntKind.wrap .i64 (x13+1)))] w2))))
 (some (.tuple ⟨[.int .i64 0,.bool false]⟩,h)):=by kernel_rfl
def Ap1:Cuts:={ globs:=0,loops:=[],regs:=[],plans:=[] }
def Bg2:List Item:=A7 Tryz.f217
theorem Dm7 (C:A4) (R:A6) (t:Option Addr) (name:Int) (h:H) :
 A8 PR Ap1 C R Ad3 Tryz.f217 100000 true Bg2 [(0,.pointer t),(1,.int .i64 name)] h =
 nw (.cells P4 false [.int .i64 0,.int .i64 0,.int .i64 0,.int .i64 0,.int .i64 0,.int .i64 0]) h fun b w=>bnd (C Ae5 [.pointer t,.int .i64 name] w) fun r w1=>aPtr r fun x=>cond x.isNone
 (nw (.cells P4 false [.int .i64 0,.int .i64 0,.int .i64 0,.int .i64 0,.int .i64 0,.int .i64 0]) w1 fun b_1 w2=>gAgg ⟨b_1,0,none⟩ 6 w2 fun x_1=>ck (List.length x_1=6) (pAgg ⟨b,0,none⟩ x_1 w2 fun w3=>gAgg ⟨b,0,none⟩ 6 w3 fun x_2=>some (.tuple ⟨[.agg ⟨x_2⟩,.bool false]⟩,w3)))
 (aSome x fun p=>gAgg (Addr.add p 0) 6 w1 fun x_3=>ck (List.length x_3=6) (pAgg ⟨b,0,none⟩ x_3 w1 fun w4=>gAgg ⟨b,0,none⟩ 6 w4 fun x_4=>some (.tuple ⟨[.agg ⟨x_4⟩,.bool true]⟩,w4))):=by kernel_rfl
def Ac0:Cuts:={ globs:=0,loops:=[(4,[0,1,12,13])],regs:=[],plans:=[(6,⟨[0,1,2,3,4,5,6,7,8],[0,0,3,7,0,0,48,112,255],[],[]⟩)] }
def Am2:List Item:=A7 Tryz.f224
def V5:List Item:=stk [0,1,0,1,0,0,1,4,5] Am2
theorem Df6 (C:A4) (R:A6) (s1:Option Addr) (s1n s1c:Nat) (s2:Option Addr) (s2n s2c:Nat) (h:H) :
 A8 PR Ac0 C R D6 Tryz.f224 100000 true Am2 [(0,.slice s1 s1n s1c),(1,.slice s2 s2n s2c)] h =
 cond (((s1n:Nat):Int) != ((s2n:Nat):Int))
 (some (.bool false,h))
 (R D6 V5 [(0,.slice s1 s1n s1c),(1,.slice s2 s2n s2c),(12,.int .i64 ((s1n:Nat):Int)),(13,.int .i64 0)] h):=by kernel_rfl
theorem A16 (C:A4) (R:A6) (s1:Option Addr) (s1n s1c:Nat) (s2:Option Addr) (s2n s2c:Nat) (x12:Int) (x13:Int) (h:H) :
 A8 PR Ac0 C R D6 Tryz.f224 100000 true V5 [(0,.slice s1 s1n s1c),(1,.slice s2 s2n s2c),(12,.int .i64 x12),(13,.int .i64 x13)] h =
 cond (decide (x13<x12))
 (aSome s1 fun p=>ck ((0:Int)≤x13∧x13<((s1n:Nat):Int)) (gInt .u8 (Addr.add (B6 p) (Int.toNat x13*1)) h fun x=>aSome s2 fun p_1=>ck ((0:Int)≤x13∧x13<((s2n:Nat):Int)) (gInt .u8 (Addr.add (B6 p_1) (Int.toNat x13*1)) h fun x_1=>cond (x != x_1)
 (some (.bool false,h))
 (R D6 V5 [(0,.slice s1 s1n s1c),(1,.slice s2 s2n s2c),(12,.int .i64 x12),(13,.int .i64 (IntKind.wrap .i64 (x13+1)))] h))))
 (some (.bool true,h)):=by kernel_rfl
def Ec4:Cuts:={ globs:=0,loops:=[],regs:=[],plans:=[] }
def Gf2:List Item:=A7 Tryz.f225
theorem Hr9 (C:A4) (R:A6) (p:List Value) (h:H) :
 A8 PR Ec4 C R Dj8 Tryz.f225 100000 true Gf2 [(0,.agg ⟨p⟩)] h =
 nw (.cells D0 false p) h fun b w=>gInt .i64 (Addr.add ⟨b,0,none⟩ 0) w fun x=>bnd (cond (decide (x<1)) (some (true,w)) (gInt .i64 (Addr.add ⟨b,0,none⟩ 0) w fun x_1=>some (decide (x_1>3),w))) fun c w1=>bnd (cond c (some (true,w1)) (gInt .i64 (Addr.add ⟨b,0,none⟩ 1) w1 fun x_2=>some (decide (x_2<0),w1))) fun c_1 w2=>bnd (cond c_1 (some (true,w2)) (gInt .i64 (Addr.add ⟨b,0,none⟩ 1) w2 fun x_3=>some (decide (x_3>8),w2))) fun c_2 w3=>bnd (cond c_2 (some (true,w3)) (gInt .i64 (Addr.add ⟨b,0,none⟩ 2) w3 fun x_4=>some (decide (x_4<0),w3))) fun c_3 w4=>bnd (cond c_3 (some (true,w4)) (gInt .i64 (Addr.add ⟨b,0,none⟩ 2) w4 fun x_5=>some (decide (x_5≥8),w4))) fun c_4 w5=>bnd (cond c_4 (some (true,w5)) (gInt .i64 (Addr.add ⟨b,0,none⟩ 3) w5 fun x_6=>some (decide (x_6<0),w5))) fun c_5 w6=>bnd (cond c_5 (some (true,w6)) (gInt .i64 (Addr.add ⟨b,0,none⟩ 3) w6 fun x_7=>some (decide (x_7>255),w6))) fun c_6 w7=>cond c_6
 (some (.bool false,w7))
 (gInt .i64 (Addr.add ⟨b,0,none⟩ 4) w7 fun x_8=>bnd (C Ak9 [.int .i64 x_8,.int .i64 0] w7) fun r w8=>aBool r fun x_9=>bnd (cond (!x_9) (some (true,w8)) (gInt .i64 (Addr.add ⟨b,0,none⟩ 5) w8 fun x_10=>bnd (C Ak9 [.int .i64 x_10,.int .i64 16896] w8) fun r_1 w9=>aBool r_1 fun x_11=>some (!x_11,w9))) fun c_7 w10=>bnd (cond c_7 (some (true,w10)) (gInt .i64 (Addr.add ⟨b,0,none⟩ 6) w10 fun x_12=>bnd (C Ak9 [.int .i64 x_12,.int .i64 16896] w10) fun r_2 w11=>aBool r_2 fun x_13=>some (!x_13,w11))) fun c_8 w12=>bnd (cond c_8 (some (true,w12)) (gInt .i64 (Addr.add ⟨b,0,none⟩ 7) w12 fun x_14=>bnd (C Ak9 [.int .i64 x_14,.int .i64 16896] w12) fun r_3 w13=>aBool r_3 fun x_15=>some (!x_15,w13))) fun c_9 w14=>bnd (cond c_9 (some (true,w14)) (gInt .i64 (Addr.add ⟨b,0,none⟩ 6) w14 fun x_16=>gInt .i64 (Addr.add ⟨b,0,none⟩ 7) w14 fun x_17=>some ((M7 .i64 x_16 x_17) != 0,w14))) fun c_10 w15=>cond c_10
 (some (.bool false,w15))
 (ckB (liveA (Addr.add ⟨b,0,none⟩ 8) w15) (bnd (C E8 [.slice (H0 (some (Addr.add ⟨b,0,none⟩ 8)) (decide (0<8)) (0*1)) (8-0) (8-0),.func (.func Bh0) ⟨[]⟩ ⟨[]⟩] w15) fun r_4 w16=>aBool r_4 fun x_18=>cond x_18
 (some (.bool false,w16))
 (gInt .i64 (Addr.add ⟨b,0,none⟩ 0) w16 fun x_19=>cond (x_19==2)
 (gInt .i64 (Addr.add ⟨b,0,none⟩ 4) w16 fun x_20=>bnd (cond (x_20==0) (gAgg (Addr.add ⟨b,0,none⟩ 8) 8 w16 fun x_21=>Da9 PR Gp7 x_21 [.int .i64 0,.int .i64 0,.int .i64 0,.int .i64 0,.int .i64 0,.int .i64 0,.int .i64 0,.int .i64 0] fun eq=>some (eq,w16)) (some (false,w16))) fun c_11 w17=>some (.bool c_11,w17))
 (gInt .i64 (Addr.add ⟨b,0,none⟩ 3) w16 fun x_22=>some (.bool (x_22==0),w16)))))):=by kernel_rfl
end
end Go.EQ

set_option maxRecDepth 100000
namespace Go.EQ
open Go Go.NN Go.Proofs
variable (C : A4) (R : A6)
noncomputable section
def Dp6:Cuts:={ globs:=0,loops:=[],regs:=[],plans:=[] }
def En2:List Item:=A7 Tryz.f14
theorem Ex3 (C:A4) (R:A6) (c:Option Addr) (i:Int) (fd:Int) (n:Int) (h:H) :
 A8 PR Dp6 C R Ab7 Tryz.f14 100000 true En2 [(0,.pointer c),(1,.int .i64 i),(2,.int .i64 fd),(3,.int .i64 n)] h =
 nw (.cells E4 false [.int .i64 0,.int .i64 0,.slice none 0 0,.bool false]) h fun b w=>bnd (C Bq5 [.pointer c,.int .i64 i,.int .i64 fd,.int .i64 n] w) fun r w1=>as2 r fun r_1 r_2=>aAgg r_1 fun x=>aInt .i64 r_2 fun x_1=>nw (.cells D7 false [.int .i64 0,.int .i64 0,.int .i64 0,.int .i64 0]) w1 fun b_1 w2=>ck (List.length x=4) (pAgg ⟨b_1,0,none⟩ x w2 fun w3=>bnd (cond (x_1 != 0) (some (true,w3)) (some (n==0,w3))) fun c_1 w4=>cond c_1
 (bnd (C H9 [.int .i64 x_1] w4) fun r_3 w5=>aAgg r_3 fun x_2=>ck (List.length x_2=4) (pAgg ⟨b,0,none⟩ x_2 w5 fun w6=>gAgg ⟨b,0,none⟩ 4 w6 fun x_3=>some (.agg ⟨x_3⟩,w6)))
 (gAgg ⟨b_1,0,none⟩ 4 w4 fun x_4=>bnd (C Bl3 [.pointer c,.agg ⟨x_4⟩] w4) fun r_4 w7=>as2 r_4 fun r_5 r_6=>aAgg r_5 fun x_5=>aBool r_6 fun x_6=>nw (.cells By2 false [.int .i64 0,.int .i64 0,.int .i64 0,.int .i64 0,.int .u8 0,.int .u8 0,.int .u8 0,.int .u8 0,.int .u8 0,.int .u8 0,.int .u8 0,.int .u8 0,.int .u8 0,.int .u8 0,.int .u8 0,.int .u8 0,.int .u8 0,.int .u8 0,.int .u8 0,.int .u8 0,.int .u8 0,.int .u8 0,.int .u8 0,.int .u8 0,.int .u8 0,.int .u8 0,.int .u8 0,.int .u8 0,.int .u8 0,.int .u8 0,.int .u8 0,.int .u8 0,.int .u8 0,.int .u8 0,.int .u8 0,.int .u8 0,.nilFunc]) w7 fun b_2 w8=>ck (List.length x_5=37) (pAgg ⟨b_2,0,none⟩ x_5 w8 fun w9=>cond (!x_6)
 (bnd (C H9 [.int .i64 105] w9) fun r_7 w10=>aAgg r_7 fun x_7=>ck (List.length x_7=4) (pAgg ⟨b,0,none⟩ x_7 w10 fun w11=>gAgg ⟨b,0,none⟩ 4 w11 fun x_8=>some (.agg ⟨x_8⟩,w11)))
 (gInt .i64 (Addr.add (Addr.add ⟨b_2,0,none⟩ 0) 1) w9 fun x_9=>bnd (cond (x_9==0) (gInt .i64 (Addr.add ⟨b_1,0,none⟩ 0) w9 fun x_10=>some (x_10==1,w9)) (some (false,w9))) fun c_2 w12=>bnd (cond c_2 (gInt .i64 (Addr.add (Addr.add ⟨b_2,0,none⟩ 0) 3) w12 fun x_11=>some (x_11==0,w12)) (some (false,w12))) fun c_3 w13=>cond c_3
 (pAgg ⟨b,0,none⟩ [.int .i64 0,.int .i64 0,.slice none 0 0,.bool false] w13 fun w14=>gAgg ⟨b,0,none⟩ 4 w14 fun x_12=>some (.agg ⟨x_12⟩,w14))
 (gInt .i64 (Addr.add (Addr.add ⟨b_2,0,none⟩ 0) 1) w13 fun x_13=>cond (x_13==0)
 (gAgg ⟨b_1,0,none⟩ 4 w13 fun x_14=>bnd (C Aw6 [.agg ⟨x_14⟩] w13) fun r_8 w15=>aAgg r_8 fun x_15=>ck (List.length x_15=4) (pAgg ⟨b,0,none⟩ x_15 w15 fun w16=>gAgg ⟨b,0,none⟩ 4 w16 fun x_16=>some (.agg ⟨x_16⟩,w16)))
 (gAgg (Addr.add ⟨b_2,0,none⟩ 0) 36 w13 fun x_17=>bnd (C Db1 [.agg ⟨x_17⟩,.int .i64 n] w13) fun r_9 w17=>as2 r_9 fun r_10 r_11=>aAgg r_10 fun x_18=>aSl r_11 fun x_19 xn xc=>nw (.cells D3 false [.int .i64 0,.int .i64 0,.int .i64 0,.int .i64 0,.int .u8 0,.int .u8 0,.int .u8 0,.int .u8 0,.int .u8 0,.int .u8 0,.int .u8 0,.int .u8 0,.int .u8 0,.int .u8 0,.int .u8 0,.int .u8 0,.int .u8 0,.int .u8 0,.int .u8 0,.int .u8 0,.int .u8 0,.int .u8 0,.int .u8 0,.int .u8 0,.int .u8 0,.int .u8 0,.int .u8 0,.int .u8 0,.int .u8 0,.int .u8 0,.int .u8 0,.int .u8 0,.int .u8 0,.int .u8 0,.int .u8 0,.int .u8 0]) w17 fun b_3 w18=>ck (List.length x_18=36) (pAgg ⟨b_3,0,none⟩ x_18 w18 fun w19=>gFv (Addr.add ⟨b_2,0,none⟩ 36) w19 fun x_20=>gAgg ⟨b_3,0,none⟩ 36 w19 fun x_21=>aFn x_20 fun g fi cp=>bnd (C g (fi++([.agg ⟨x_21⟩]++cp)) w19) fun r_12 w20=>aBool r_12 fun x_22=>cond (!x_22)
 (bnd (C H9 [.int .i64 105] w20) fun r_13 w21=>aAgg r_13 fun x_23=>ck (List.length x_23=4) (pAgg ⟨b,0,none⟩ x_23 w21 fun w22=>gAgg ⟨b,0,none⟩ 4 w22 fun x_24=>some (.agg ⟨x_24⟩,w22)))
 (pAgg ⟨b,0,none⟩ [.int .i64 ((xn:Nat):Int),.int .i64 0,.slice x_19 xn xc,.bool false] w20 fun w23=>gAgg ⟨b,0,none⟩ 4 w23 fun x_25=>some (.agg ⟨x_25⟩,w23))))))))):=by kernel_rfl
def D26:Cuts:={ globs:=0,loops:=[],regs:=[],plans:=[] }
def E65:List Item:=A7 Tryz.f17
theorem Hl0 (C:A4) (R:A6) (c:Option Addr) (i:Int) (h:H) :
 A8 PR D26 C R Da3 Tryz.f17 100000 true E65 [(0,.pointer c),(1,.int .i64 i)] h =
 nw (.cells E4 false [.int .i64 0,.int .i64 0,.slice none 0 0,.bool false]) h fun b w=>bnd (C Aj8 [.pointer c,.int .i64 i] w) fun r w1=>as2 r fun r_1 r_2=>aAgg r_1 fun x=>aInt .i64 r_2 fun x_1=>nw (.cells D0 false [.int .i64 0,.int .i64 0,.int .i64 0,.int .i64 0,.int .i64 0,.int .i64 0,.int .i64 0,.int .i64 0,.int .i64 0,.int .i64 0,.int .i64 0,.int .i64 0,.int .i64 0,.int .i64 0,.int .i64 0,.int .i64 0]) w1 fun b_1 w2=>ck (List.length x=16) (pAgg ⟨b_1,0,none⟩ x w2 fun w3=>cond (x_1 != 0)
 (bnd (C Ab6 [.int .i64 x_1] w3) fun r_3 w4=>aAgg r_3 fun x_2=>ck (List.length x_2=4) (pAgg ⟨b,0,none⟩ x_2 w4 fun w5=>gAgg ⟨b,0,none⟩ 4 w5 fun x_3=>some (.agg ⟨x_3⟩,w5)))
 (bnd (C Ar8 [.pointer c] w3) fun r_4 w6=>aInt .i64 r_4 fun x_4=>cond (decide (x_4<0))
 (bnd (C Ab6 [.int .i64 111] w6) fun r_5 w7=>aAgg r_5 fun x_5=>ck (List.length x_5=4) (pAgg ⟨b,0,none⟩ x_5 w7 fun w8=>gAgg ⟨b,0,none⟩ 4 w8 fun x_6=>some (.agg ⟨x_6⟩,w8)))
 (gAgg ⟨b_1,0,none⟩ 16 w6 fun x_7=>bnd (C G5 [.pointer c,.agg ⟨x_7⟩] w6) fun r_6 w9=>aInt .i64 r_6 fun x_8=>cond (x_8 != 0)
 (bnd (C Ab6 [.int .i64 x_8] w9) fun r_7 w10=>aAgg r_7 fun x_9=>ck (List.length x_9=4) (pAgg ⟨b,0,none⟩ x_9 w10 fun w11=>gAgg ⟨b,0,none⟩ 4 w11 fun x_10=>some (.agg ⟨x_10⟩,w11)))
 (pV (Addr.add ⟨b_1,0,none⟩ 1) (.int .i64 (IntKind.wrap .i64 (i+1))) w9 fun w12=>pV (Addr.add ⟨b_1,0,none⟩ 4) (.int .i64 0) w12 fun w13=>gAgg ⟨b_1,0,none⟩ 16 w13 fun x_11=>bnd (C O7 [.pointer c,.int .i64 x_4,.agg ⟨x_11⟩] w13) fun r_8 w14=>aBool r_8 fun x_12=>bnd (C Bq6 [.bool x_12,.int .i64 x_4] w14) fun r_9 w15=>aAgg r_9 fun x_13=>ck (List.length x_13=4) (pAgg ⟨b,0,none⟩ x_13 w15 fun w16=>gAgg ⟨b,0,none⟩ 4 w16 fun x_14=>some (.agg ⟨x_14⟩,w16)))))):=by kernel_rfl
def B76:Cuts:={ globs:=0,loops:=[],regs:=[],plans:=[] }
def D57:List Item:=A7 Tryz.f26
theorem Gq8 (C:A4) (R:A6) (k:Option Addr) (env:Int) (c:List Value) (h:H) :
 A8 PR B76 C R S5 Tryz.f26 100000 true D57 [(0,.pointer k),(1,.int .i64 env),(2,.agg ⟨c⟩)] h =
 nw (.cells Az4 false c) h fun b w=>nw (.cells Ep9 false [.int .i64 0,.int .i64 0,.slice none 0 0]) w fun b_1 w1=>bnd (cond (decide (env<0)) (some (true,w1)) (aSome k fun p=>gSl (Addr.add p 0) w1 fun _ xn _=>some (decide (env≥((xn:Nat):Int)),w1))) fun c_1 w2=>cond c_1
 (pAgg ⟨b_1,0,none⟩ [.int .i64 1,.int .i64 0,.slice none 0 0] w2 fun w3=>gAgg ⟨b_1,0,none⟩ 3 w3 fun x_1=>some (.agg ⟨x_1⟩,w3))
 (gAgg ⟨b,0,none⟩ 7 w2 fun x_2=>bnd (C A27 [.pointer k,.int .i64 env,.agg ⟨x_2⟩] w2) fun r w4=>as3 r fun r_1 r_2 r_3=>aSl r_1 fun x_3 xn_1 xc_1=>aInt .i64 r_2 fun x_4=>aBool r_3 fun x_5=>cond x_5
 (pAgg ⟨b_1,0,none⟩ [.int .i64 x_4,.int .i64 0,.slice x_3 xn_1 xc_1] w4 fun w5=>gAgg ⟨b_1,0,none⟩ 3 w5 fun x_6=>some (.agg ⟨x_6⟩,w5))
 (gAgg ⟨b,0,none⟩ 7 w4 fun x_7=>bnd (C Az6 [.pointer k,.int .i64 env,.agg ⟨x_7⟩] w4) fun r_4 w6=>as2 r_4 fun r_5 r_6=>aInt .i64 r_5 fun x_8=>aInt .i64 r_6 fun x_9=>pAgg ⟨b_1,0,none⟩ [.int .i64 x_9,.int .i64 x_8,.slice none 0 0] w6 fun w7=>gAgg ⟨b_1,0,none⟩ 3 w7 fun x_10=>some (.agg ⟨x_10⟩,w7))):=by kernel_rfl
def B89:Cuts:={ globs:=0,loops:=[],regs:=[],plans:=[(7,⟨[0,1,2,3,4,5,6,7,8,9,10,11,12,13,14,15,16],[0,1,3,7,0,0,32,0,128,0,512,2047,4095,8191,8191,16383,65535],[],[]⟩),(9,⟨[0,1,2,3,4,5,6,7,8,9,10,11,12,13],[0,1,3,7,0,0,32,0,128,0,512,1536,4095,8191],[],[]⟩),(11,⟨[0,1,2,3,4,5,6,7,8,9,10,11,12,13,14,15,16],[0,1,3,7,0,0,32,0,128,0,512,0,2048,0,8192,32767,65535],[],[]⟩),(13,⟨[0,1,2,3,4,5,6,7,8,9,10,11,12,13,14,15,16,17,18,19,20,21,22,23],[0,1,3,7,15,31,63,0,0,256,0,1024,0,4096,0,16384,0,65536,262143,524287,1048575,1048575,2097151,8388607],[],[]⟩),(15,⟨[0,1,2,3,4,5,6,7,8,9,10,11,12,13,14,15],[0,1,3,7,15,31,63,0,0,256,1023,2047,4095,4095,8191,32767],[],[]⟩),(17,⟨[0,1,2,3,4,5,6,7,8,9,10,11,12,13,14,15,16,17],[0,1,3,7,0,16,48,112,240,0,1008,2032,4095,8191,16383,16383,32767,131071],[],[]⟩),(19,⟨[0,1,2,3,4,5,6,7,8,9,10,11,12,13,14,15],[0,1,3,7,0,16,48,112,240,0,1008,2032,0,4096,16383,32767],[],[]⟩),(23,⟨[0,1,2,3,4,5,6,7,8,9,10,11,12,13,14,15,16,17],[0,1,3,7,0,16,63,127,0,0,512,1536,3584,8191,16383,32767,32767,65535],[],[]⟩),(27,⟨[0,1,2,3,4,5,6,7,8,9,10,11,12,13,14,15,16,17,18],[0,0,0,4,15,31,63,127,255,511,63,1087,4095,8191,63,63,32831,131071,262143],[],[]⟩)] }
def D56:List Item:=A7 Tryz.f27
theorem Gp8 (C:A4) (R:A6) (k:Option Addr) (e:Int) (c:List Value) (h:H) :
 A8 PR B89 C R As3 Tryz.f27 100000 true D56 [(0,.pointer k),(1,.int .i64 e),(2,.agg ⟨c⟩)] h =
 nw (.cells Az4 false c) h fun b w=>bnd (cond (decide (e<0)) (some (true,w)) (aSome k fun p=>gSl (Addr.add (Addr.add p 0) 1) w fun _ xn _=>some (decide (e≥((xn:Nat):Int)),w))) fun c_1 w1=>cond c_1
 (some (.tuple ⟨[.int .i64 1,.int .i64 0,.string (ByteArray.mk ⟨[]⟩)]⟩,w1))
 (gInt .i64 (Addr.add ⟨b,0,none⟩ 0) w1 fun x_1=>cond (x_1==1)
 (aSome k fun p_1=>gPtr (Addr.add p_1 6) w1 fun x_2=>gInt .i64 (Addr.add ⟨b,0,none⟩ 1) w1 fun x_3=>gInt .i64 (Addr.add ⟨b,0,none⟩ 2) w1 fun x_4=>gInt .i64 (Addr.add ⟨b,0,none⟩ 3) w1 fun x_5=>bnd (C Em0 [.pointer x_2,.int .i64 e,.int .i64 x_3,.int .i64 x_4,.int .i64 x_5] w1) fun r w2=>as2 r fun r_1 r_2=>aStr r_1 fun x_6=>aInt .i64 r_2 fun x_7=>some (.tuple ⟨[.int .i64 x_7,.int .i64 0,.string x_6]⟩,w2))
 (cond (x_1==2)
 (aSome k fun p_2=>gPtr (Addr.add p_2 6) w1 fun x_8=>gInt .i64 (Addr.add ⟨b,0,none⟩ 1) w1 fun x_9=>gInt .i64 (Addr.add ⟨b,0,none⟩ 2) w1 fun x_10=>gSl (Addr.add ⟨b,0,none⟩ 6) w1 fun x_11 xn_1 _=>gCells x_11 xn_1 w1 fun cs=>asBytes cs fun l=>bnd (C Ao5 [.pointer x_8,.int .i64 e,.int .i64 x_9,.int .i64 x_10,.string (ByteArray.mk ⟨l⟩)] w1) fun r_3 w3=>aInt .i64 r_3 fun x_12=>some (.tuple ⟨[.int .i64 x_12,.int .i64 0,.string (ByteArray.mk ⟨[]⟩)]⟩,w3))
 (cond (x_1==3)
 (aSome k fun p_3=>gPtr (Addr.add p_3 6) w1 fun x_13=>gInt .i64 (Addr.add ⟨b,0,none⟩ 1) w1 fun x_14=>gInt .i64 (Addr.add ⟨b,0,none⟩ 2) w1 fun x_15=>gInt .i64 (Addr.add ⟨b,0,none⟩ 4) w1 fun x_16=>gInt .i64 (Addr.add ⟨b,0,none⟩ 5) w1 fun x_17=>gInt .i64 (Addr.add ⟨b,0,none⟩ 3) w1 fun x_18=>bnd (C Em2 [.pointer x_13,.int .i64 e,.int .i64 x_14,.int .i64 x_15,.int .i64 x_16,.int .i64 x_17,.int .i64 x_18] w1) fun r_4 w4=>aInt .i64 r_4 fun x_19=>some (.tuple ⟨[.int .i64 x_19,.int .i64 0,.string (ByteArray.mk ⟨[]⟩)]⟩,w4))
 (cond (x_1==4)
 (aSome k fun p_4=>gPtr (Addr.add p_4 6) w1 fun x_20=>aSome x_20 fun p_5=>gPtr (Addr.add p_5 3) w1 fun x_21=>gInt .i64 (Addr.add ⟨b,0,none⟩ 1) w1 fun x_22=>gInt .i64 (Addr.add ⟨b,0,none⟩ 4) w1 fun x_23=>gInt .i64 (Addr.add ⟨b,0,none⟩ 5) w1 fun x_24=>gInt .i64 (Addr.add ⟨b,0,none⟩ 2) w1 fun x_25=>gInt .i64 (Addr.add ⟨b,0,none⟩ 3) w1 fun x_26=>bnd (C Ev8 [.pointer x_21,.int .i64 e,.int .i64 x_22,.int .i64 x_23,.int .i64 x_24,.int .i64 x_25,.int .i64 x_26] w1) fun r_5 w5=>as2 r_5 fun r_6 r_7=>aInt .i64 r_6 fun x_27=>aInt .i64 r_7 fun x_28=>some (.tuple ⟨[.int .i64 x_28,.int .i64 x_27,.string (ByteArray.mk ⟨[]⟩)]⟩,w5))
 (cond (x_1==5)
 (aSome k fun p_6=>gPtr (Addr.add p_6 6) w1 fun x_29=>aSome x_29 fun p_7=>gPtr (Addr.add p_7 3) w1 fun x_30=>gInt .i64 (Addr.add ⟨b,0,none⟩ 1) w1 fun x_31=>bnd (C El8 [.pointer x_30,.int .i64 e,.int .i64 x_31] w1) fun r_8 w6=>as2 r_8 fun r_9 r_10=>aInt .i64 r_9 fun x_32=>aInt .i64 r_10 fun x_33=>some (.tuple ⟨[.int .i64 x_33,.int .i64 x_32,.string (ByteArray.mk ⟨[]⟩)]⟩,w6))
 (cond (x_1==6)
 (aSome k fun p_8=>gPtr (Addr.add p_8 5) w1 fun x_34=>aSome k fun p_9=>gSl (Addr.add (Addr.add p_9 0) 1) w1 fun x_35 xn_2 _=>aSome x_35 fun p_10=>ck ((0:Int)≤e∧e<((xn_2:Nat):Int)) (gInt .i64 (Addr.add (B6 p_10) (Int.toNat e*1)) w1 fun x_36=>bnd (C Eq5 [.pointer x_34,.int .i64 x_36] w1) fun r_11 w7=>as2 r_11 fun r_12 r_13=>aInt .i64 r_12 fun x_37=>aInt .i64 r_13 fun x_38=>some (.tuple ⟨[.int .i64 x_38,.int .i64 x_37,.string (ByteArray.mk ⟨[]⟩)]⟩,w7)))
 (cond (x_1==7)
 (aSome k fun p_11=>gPtr (Addr.add p_11 5) w1 fun x_39=>aSome k fun p_12=>gSl (Addr.add (Addr.add p_12 0) 1) w1 fun x_40 xn_3 _=>aSome x_40 fun p_13=>ck ((0:Int)≤e∧e<((xn_3:Nat):Int)) (gInt .i64 (Addr.add (B6 p_13) (Int.toNat e*1)) w1 fun x_41=>gInt .i64 (Addr.add ⟨b,0,none⟩ 3) w1 fun x_42=>bnd (C E11 [.pointer x_39,.int .i64 x_41,.int .i64 x_42] w1) fun r_14 w8=>aInt .i64 r_14 fun x_43=>some (.tuple ⟨[.int .i64 x_43,.int .i64 0,.string (ByteArray.mk ⟨[]⟩)]⟩,w8)))
 (cond (x_1==8)
 (gInt .i64 (Addr.add ⟨b,0,none⟩ 3) w1 fun x_44=>bnd (C Dy0 [.pointer k,.int .i64 e,.int .i64 x_44] w1) fun r_15 w9=>aBool r_15 fun x_45=>cond x_45
 (aSome k fun p_14=>gSl (Addr.add p_14 7) w9 fun x_46 xn_4 _=>gInt .i64 (Addr.add ⟨b,0,none⟩ 3) w9 fun x_47=>aSome x_46 fun p_15=>ck ((0:Int)≤x_47∧x_47<((xn_4:Nat):Int)) (gPtr (Addr.add (B6 p_15) (Int.toNat x_47*1)) w9 fun x_48=>aSome k fun p_16=>gInt .i64 (Addr.add p_16 8) w9 fun x_49=>bnd (C E30 [.pointer x_48,.int .i64 e,.int .i64 x_49] w9) fun r_16 w10=>as2 r_16 fun r_17 r_18=>aInt .i64 r_17 fun x_50=>aBool r_18 fun _=>some (.tuple ⟨[.int .i64 0,.int .i64 x_50,.string (ByteArray.mk ⟨[]⟩)]⟩,w10)))
 (some (.tuple ⟨[.int .i64 8,.int .i64 0,.string (ByteArray.mk ⟨[]⟩)]⟩,w9)))
 (cond (x_1==9)
 (gInt .i64 (Addr.add ⟨b,0,none⟩ 3) w1 fun x_52=>bnd (C Dy0 [.pointer k,.int .i64 e,.int .i64 x_52] w1) fun r_19 w11=>aBool r_19 fun x_53=>bnd (cond x_53 (aSome k fun p_17=>gSl (Addr.add p_17 7) w11 fun x_54 xn_5 _=>gInt .i64 (Addr.add ⟨b,0,none⟩ 3) w11 fun x_55=>aSome x_54 fun p_18=>ck ((0:Int)≤x_55∧x_55<((xn_5:Nat):Int)) (gPtr (Addr.add (B6 p_18) (Int.toNat x_55*1)) w11 fun x_56=>gInt .i64 (Addr.add ⟨b,0,none⟩ 2) w11 fun x_57=>bnd (C E23 [.pointer x_56,.int .i64 e,.int .i64 x_57] w11) fun r_20 w12=>aBool r_20 fun x_58=>some (x_58,w12))) (some (false,w11))) fun c_2 w13=>cond c_2
 (some (.tuple ⟨[.int .i64 0,.int .i64 0,.string (ByteArray.mk ⟨[]⟩)]⟩,w13))
 (some (.tuple ⟨[.int .i64 8,.int .i64 0,.string (ByteArray.mk ⟨[]⟩)]⟩,w13)))
 (cond (x_1==10)
 (aSome k fun p_19=>gInt .i64 (Addr.add p_19 8) w1 fun x_59=>some (.tuple ⟨[.int .i64 0,.int .i64 x_59,.string (ByteArray.mk ⟨[]⟩)]⟩,w1))
 (some (.tuple ⟨[.int .i64 7,.int .i64 0,.string (ByteArray.mk ⟨[]⟩)]⟩,w1)))))))))))):=by kernel_rfl
def A35:Cuts:={ globs:=0,loops:=[(4,[1,3,4])],regs:=[],plans:=[(2,⟨[0,1,2,5,6,9,10,13,14,3,4,7,8,11,12,15,16,17],[0,0,2,6,15,0,32,110,255,0,512,1774,4095,0,8192,28398,65535,131071],[(3,[6,10,14]),(7,[10,14]),(11,[14])],[]⟩)] }
def Bo9:List Item:=A7 Tryz.f29
def Aq8:List Item:=stk [0,1,0,1,0,1,0,0,1,4,5] Bo9
theorem E25 (C:A4) (R:A6) (p:List Value) (h:H) :
 A8 PR A35 C R U0 Tryz.f29 100000 true Bo9 [(0,.agg ⟨p⟩)] h =
 nw (.cells D0 false p) h fun b w=>gInt .i64 (Addr.add ⟨b,0,none⟩ 0) w fun x=>gInt .i64 (Addr.add ⟨b,0,none⟩ 1) w fun x_1=>gInt .i64 (Addr.add ⟨b,0,none⟩ 2) w fun x_2=>gInt .i64 (Addr.add ⟨b,0,none⟩ 3) w fun x_3=>nw (.cells A5 false [.int .u8 (IntKind.wrap .u8 (x)),.int .u8 (IntKind.wrap .u8 (x_1)),.int .u8 (IntKind.wrap .u8 (x_2)),.int .u8 (IntKind.wrap .u8 (x_3))]) w fun b_1 w1=>gCells (some ⟨b_1,0,none⟩) 4 w1 fun cs=>asBytes cs fun l=>gInt .i64 (Addr.add ⟨b,0,none⟩ 4) w1 fun x_4=>gInt .i64 (Addr.add ⟨b,0,none⟩ 5) w1 fun x_5=>gInt .i64 (Addr.add ⟨b,0,none⟩ 6) w1 fun x_6=>gInt .i64 (Addr.add ⟨b,0,none⟩ 7) w1 fun x_7=>bnd (C Ba9 [.int .i64 x_4] w1) fun r w2=>aStr r fun x_8=>gInt .i64 (Addr.add ⟨b,0,none⟩ 5) w2 fun x_9=>same (.int .i64 x_5) (.int .i64 x_9) (gInt .i64 (Addr.add ⟨b,0,none⟩ 6) w2 fun x_10=>same (.int .i64 x_6) (.int .i64 x_10) (gInt .i64 (Addr.add ⟨b,0,none⟩ 7) w2 fun x_11=>same (.int .i64 x_7) (.int .i64 x_11) (ck (ByteArray.size (ByteArray.mk ⟨l⟩)+ByteArray.size x_8≤B1) (bnd (C Ba9 [.int .i64 x_5] w2) fun r_1 w3=>aStr r_1 fun x_12=>gInt .i64 (Addr.add ⟨b,0,none⟩ 6) w3 fun x_13=>same (.int .i64 x_6) (.int .i64 x_13) (gInt .i64 (Addr.add ⟨b,0,none⟩ 7) w3 fun x_14=>same (.int .i64 x_7) (.int .i64 x_14) (ck (ByteArray.size ((ByteArray.mk ⟨l⟩)++x_8)+ByteArray.size x_12≤B1) (bnd (C Ba9 [.int .i64 x_6] w3) fun r_2 w4=>aStr r_2 fun x_15=>gInt .i64 (Addr.add ⟨b,0,none⟩ 7) w4 fun x_16=>same (.int .i64 x_7) (.int .i64 x_16) (ck (ByteArray.size (((ByteArray.mk ⟨l⟩)++x_8)++x_12)+ByteArray.size x_15≤B1) (bnd (C Ba9 [.int .i64 x_7] w4) fun r_3 w5=>aStr r_3 fun x_17=>ck (ByteArray.size ((((ByteArray.mk ⟨l⟩)++x_8)++x_12)++x_15)+ByteArray.size x_17≤B1) (R U0 Aq8 [(1,.pointer (some ⟨b,0,none⟩)),(3,.string (((((ByteArray.mk ⟨l⟩)++x_8)++x_12)++x_15)++x_17)),(4,.int .i64 0)] w5)))))))))):=by kernel_rfl
theorem By9 (C:A4) (R:A6) (p:Addr) (s:ByteArray) (i:Int) (h:H) :
 A8 PR A35 C R U0 Tryz.f29 100000 true Aq8 [(1,.pointer (some p)),(3,.string s),(4,.int .i64 i)] h =
 cond (decide (i<8))
 (ck ((0:Int)≤i∧i<((8:Nat):Int)) (gInt .i64 (Addr.add (Addr.add p 8) (Int.toNat i*1)) h fun x=>nw (.cells A5 false [.int .u8 (IntKind.wrap .u8 (x))]) h fun b w=>gCells (some ⟨b,0,none⟩) 1 w fun cs=>asBytes cs fun l=>ck (ByteArray.size s+ByteArray.size (ByteArray.mk ⟨l⟩)≤B1) (R U0 Aq8 [(1,.pointer (some p)),(3,.string (s++(ByteArray.mk ⟨l⟩))),(4,.int .i64 (IntKind.wrap .i64 (i+1)))] w)))
 (ck (ByteArray.size s+ByteArray.size (ByteArray.mk ⟨[167]⟩)≤B1) (bnd (C Af9 [.string (s++(ByteArray.mk ⟨[167]⟩))] h) fun r w1=>aInt .u8 r fun x_1=>nw (.cells A5 false [.int .u8 x_1,.int .u8 0,.int .u8 0]) w1 fun b_1 w2=>gCells (some ⟨b_1,0,none⟩) 3 w2 fun cs_1=>asBytes cs_1 fun l_1=>ck (ByteArray.size (s++(ByteArray.mk ⟨[167]⟩))+ByteArray.size (ByteArray.mk ⟨l_1⟩)≤B1) (some (.string ((s++(ByteArray.mk ⟨[167]⟩))++(ByteArray.mk ⟨l_1⟩)),w2)))):=by kernel_rfl
def An7:Cuts:={ globs:=0,loops:=[],regs:=[],plans:=[] }
def Bg3:List Item:=A7 Tryz.f39
theorem Dm3 (C:A4) (R:A6) (c:Option Addr) (i:Int) (f:List Value) (h:H) :
 A8 PR An7 C R O8 Tryz.f39 100000 true Bg3 [(0,.pointer c),(1,.int .i64 i),(2,.agg ⟨f⟩)] h =
 nw (.cells D7 false f) h fun b w=>gAgg ⟨b,0,none⟩ 4 w fun x=>bnd (C A43 [.agg ⟨x⟩] w) fun r w1=>as2 r fun r_1 r_2=>aSl r_1 fun x_1 xn xc=>aBool r_2 fun x_2=>bnd (C A44 [.int .i64 i] w1) fun r_3 w2=>aAgg r_3 fun x_3=>bnd (C H6 [.pointer c,.agg ⟨x_3⟩,.slice x_1 xn xc,.bool x_2] w2) fun r_4 w3=>aBool r_4 fun x_4=>some (.bool x_4,w3):=by kernel_rfl
def Ap4:Cuts:={ globs:=0,loops:=[],regs:=[],plans:=[] }
def Bf4:List Item:=A7 Tryz.f41
theorem Dn2 (C:A4) (R:A6) (c:Option Addr) (i:Int) (p:List Value) (h:H) :
 A8 PR Ap4 C R O7 Tryz.f41 100000 true Bf4 [(0,.pointer c),(1,.int .i64 i),(2,.agg ⟨p⟩)] h =
 nw (.cells D0 false p) h fun b w=>gAgg ⟨b,0,none⟩ 16 w fun x=>bnd (C A40 [.agg ⟨x⟩] w) fun r w1=>as2 r fun r_1 r_2=>aSl r_1 fun x_1 xn xc=>aBool r_2 fun x_2=>bnd (C A55 [.int .i64 i] w1) fun r_3 w2=>aAgg r_3 fun x_3=>bnd (C H6 [.pointer c,.agg ⟨x_3⟩,.slice x_1 xn xc,.bool x_2] w2) fun r_4 w3=>aBool r_4 fun x_4=>some (.bool x_4,w3):=by kernel_rfl
def Gb9:Cuts:={ globs:=0,loops:=[],regs:=[],plans:=[(3,⟨[0,1,2,3,4],[0,0,0,5,15],[],[]⟩),(5,⟨[0,1,2,3],[0,0,3,7],[],[]⟩),(9,⟨[0,1,2,3,4,5,6,7,8],[0,0,3,7,15,0,31,127,255],[],[]⟩)] }
def G28:List Item:=A7 Tryz.f42
theorem Id9 (C:A4) (R:A6) (c:Option Addr) (i:Int) (fd:Int) (h:H) :
 A8 PR Gb9 C R Dp7 Tryz.f42 100000 true G28 [(0,.pointer c),(1,.int .i64 i),(2,.int .i64 fd)] h =
 nw (.cells D7 false [.int .i64 0,.int .i64 0,.int .i64 0,.int .i64 0]) h fun b w=>bnd (C Aj8 [.pointer c,.int .i64 i] w) fun r w1=>as2 r fun r_1 r_2=>aAgg r_1 fun x=>aInt .i64 r_2 fun x_1=>nw (.cells D0 false [.int .i64 0,.int .i64 0,.int .i64 0,.int .i64 0,.int .i64 0,.int .i64 0,.int .i64 0,.int .i64 0,.int .i64 0,.int .i64 0,.int .i64 0,.int .i64 0,.int .i64 0,.int .i64 0,.int .i64 0,.int .i64 0]) w1 fun b_1 w2=>ck (List.length x=16) (pAgg ⟨b_1,0,none⟩ x w2 fun w3=>cond (x_1 != 0)
 (gAgg ⟨b,0,none⟩ 4 w3 fun x_2=>ck (List.length x_2=4) (pAgg ⟨b,0,none⟩ x_2 w3 fun w4=>gAgg ⟨b,0,none⟩ 4 w4 fun x_3=>some (.tuple ⟨[.int .i64 0,.agg ⟨x_3⟩,.int .i64 x_1]⟩,w4)))
 (gAgg ⟨b_1,0,none⟩ 16 w3 fun x_4=>bnd (C Db2 [.agg ⟨x_4⟩,.int .i64 fd] w3) fun r_3 w5=>aBool r_3 fun x_5=>cond (!x_5)
 (gAgg ⟨b,0,none⟩ 4 w5 fun x_6=>ck (List.length x_6=4) (pAgg ⟨b,0,none⟩ x_6 w5 fun w6=>gAgg ⟨b,0,none⟩ 4 w6 fun x_7=>some (.tuple ⟨[.int .i64 0,.agg ⟨x_7⟩,.int .i64 109]⟩,w6)))
 (ck ((0:Int)≤fd∧fd<((8:Nat):Int)) (gInt .i64 (Addr.add (Addr.add ⟨b_1,0,none⟩ 8) (Int.toNat fd*1)) w5 fun x_8=>bnd (C L5 [.pointer c,.int .i64 (IntKind.wrap .i64 (x_8-1))] w5) fun r_4 w7=>as2 r_4 fun r_5 r_6=>aAgg r_5 fun x_9=>aInt .i64 r_6 fun x_10=>ck (List.length x_9=4) (pAgg ⟨b,0,none⟩ x_9 w7 fun w8=>cond (x_10 != 1)
 (pAgg ⟨b,0,none⟩ [.int .i64 0,.int .i64 0,.int .i64 0,.int .i64 0] w8 fun w9=>gAgg ⟨b,0,none⟩ 4 w9 fun x_11=>some (.tuple ⟨[.int .i64 0,.agg ⟨x_11⟩,.int .i64 105]⟩,w9))
 (ck ((0:Int)≤fd∧fd<((8:Nat):Int)) (gInt .i64 (Addr.add (Addr.add ⟨b_1,0,none⟩ 8) (Int.toNat fd*1)) w8 fun x_12=>gAgg ⟨b,0,none⟩ 4 w8 fun x_13=>ck (List.length x_13=4) (pAgg ⟨b,0,none⟩ x_13 w8 fun w10=>gAgg ⟨b,0,none⟩ 4 w10 fun x_14=>some (.tuple ⟨[.int .i64 (IntKind.wrap .i64 (x_12-1)),.agg ⟨x_14⟩,.int .i64 0]⟩,w10))))))))):=by kernel_rfl
def Dk0:Cuts:={ globs:=0,loops:=[(5,[2,4,6,13,14,15])],regs:=[],plans:=[] }
def Ee8:List Item:=A7 Tryz.f47
def Bt3:List Item:=stk [0,1,0,1,0,1,0,0,1,4,5] Ee8
theorem Hz8 (C:A4) (R:A6) (p:List Value) (b:Option Addr) (bn bc:Nat) (h:H) :
 A8 PR Dk0 C R Ao2 Tryz.f47 100000 true Ee8 [(0,.agg ⟨p⟩),(1,.slice b bn bc)] h =
 nw (.cells D3 false p) h fun b_1 w=>nw (.cells D3 false [.int .i64 0,.int .i64 0,.int .i64 0,.int .i64 0,.int .u8 0,.int .u8 0,.int .u8 0,.int .u8 0,.int .u8 0,.int .u8 0,.int .u8 0,.int .u8 0,.int .u8 0,.int .u8 0,.int .u8 0,.int .u8 0,.int .u8 0,.int .u8 0,.int .u8 0,.int .u8 0,.int .u8 0,.int .u8 0,.int .u8 0,.int .u8 0,.int .u8 0,.int .u8 0,.int .u8 0,.int .u8 0,.int .u8 0,.int .u8 0,.int .u8 0,.int .u8 0,.int .u8 0,.int .u8 0,.int .u8 0,.int .u8 0]) w fun b_2 w1=>gAgg ⟨b_1,0,none⟩ 36 w1 fun x=>bnd (C Bw7 [.agg ⟨x⟩] w1) fun r w2=>aBool r fun x_1=>cond (!x_1)
 (gAgg ⟨b_1,0,none⟩ 36 w2 fun x_2=>ck (List.length x_2=36) (pAgg ⟨b_2,0,none⟩ x_2 w2 fun w3=>gAgg ⟨b_2,0,none⟩ 36 w3 fun x_3=>some (.tuple ⟨[.agg ⟨x_3⟩,.int .i64 0]⟩,w3)))
 (R Ao2 Bt3 [(2,.pointer (some ⟨b_1,0,none⟩)),(4,.pointer (some ⟨b_2,0,none⟩)),(6,.int .i64 0),(13,.slice b bn bc),(14,.int .i64 ((bn:Nat):Int)),(15,.int .i64 0)] w2):=by kernel_rfl
theorem El1 (C:A4) (R:A6) (p:Addr) (x4:Addr) (n:Int) (x13:Option Addr) (x13n x13c:Nat) (x14:Int) (x15:Int) (h:H) :
 A8 PR Dk0 C R Ao2 Tryz.f47 100000 true Bt3 [(2,.pointer (some p)),(4,.pointer (some x4)),(6,.int .i64 n),(13,.slice x13 x13n x13c),(14,.int .i64 x14),(15,.int .i64 x15)] h =
 cond (decide (x15<x14))
 (aSome x13 fun p_1=>ck ((0:Int)≤x15∧x15<((x13n:Nat):Int)) (gInt .u8 (Addr.add (B6 p_1) (Int.toNat x15*1)) h fun x=>gInt .i64 (Addr.add p 1) h fun x_1=>cond (x_1==32)
 (gAgg p 36 h fun x_2=>ck (List.length x_2=36) (pAgg x4 x_2 h fun w=>gAgg x4 36 w fun x_3=>some (.tuple ⟨[.agg ⟨x_3⟩,.int .i64 n]⟩,w)))
 (gInt .i64 (Addr.add p 0) h fun x_4=>gInt .i64 (Addr.add p 1) h fun x_5=>ck ((0:Int)≤Int.tmod (IntKind.wrap .i64 (x_4+x_5)) 32∧Int.tmod (IntKind.wrap .i64 (x_4+x_5)) 32<((32:Nat):Int)) (pV (Addr.add (Addr.add p 4) (Int.toNat (Int.tmod (IntKind.wrap .i64 (x_4+x_5)) 32)*1)) (.int .u8 x) h fun w1=>gInt .i64 (Addr.add p 1) w1 fun x_6=>pV (Addr.add p 1) (.int .i64 (IntKind.wrap .i64 (x_6+1))) w1 fun w2=>R Ao2 Bt3 [(2,.pointer (some p)),(4,.pointer (some x4)),(6,.int .i64 (IntKind.wrap .i64 (n+1))),(13,.slice x13 x13n x13c),(14,.int .i64 x14),(15,.int .i64 (IntKind.wrap .i64 (x15+1)))] w2))))
 (gAgg p 36 h fun x_7=>ck (List.length x_7=36) (pAgg x4 x_7 h fun w3=>gAgg x4 36 w3 fun x_8=>some (.tuple ⟨[.agg ⟨x_8⟩,.int .i64 n]⟩,w3))):=by kernel_rfl
def Al2:Cuts:={ globs:=0,loops:=[],regs:=[],plans:=[] }
def A76:List Item:=A7 Tryz.f52
theorem Db5 (C:A4) (R:A6) (s:Option Addr) (sn sc:Nat) (v:Int) (h:H) :
 A8 PR Al2 C R N0 Tryz.f52 100000 true A76 [(0,.slice s sn sc),(1,.int .i64 v)] h =
 bnd (C H4 [.slice s sn sc,.int .i64 v] h) fun r w=>aInt .i64 r fun x=>some (.bool (decide (x≥0)),w):=by kernel_rfl
def Db3:Cuts:={ globs:=0,loops:=[(2,[0,6])],regs:=[],plans:=[] }
def D33:List Item:=A7 Tryz.f54
def Bk8:List Item:=stk [0,1,0,0,1,4,5] D33
theorem Hn8 (C:A4) (R:A6) (c:Option Addr) (h:H) :
 A8 PR Db3 C R Ar8 Tryz.f54 100000 true D33 [(0,.pointer c)] h =
 R Ar8 Bk8 [(0,.pointer c),(6,.int .i64 0)] h:=by kernel_rfl
theorem D63 (C:A4) (R:A6) (c:Option Addr) (x6:Int) (h:H) :
 A8 PR Db3 C R Ar8 Tryz.f54 100000 true Bk8 [(0,.pointer c),(6,.int .i64 x6)] h =
 cond (decide (x6<8))
 (bnd (C L7 [.pointer c,.int .i64 x6] h) fun r w=>as2 r fun r_1 r_2=>aAgg r_1 fun x=>aInt .i64 r_2 fun x_1=>nw (.cells D0 false [.int .i64 0,.int .i64 0,.int .i64 0,.int .i64 0,.int .i64 0,.int .i64 0,.int .i64 0,.int .i64 0,.int .i64 0,.int .i64 0,.int .i64 0,.int .i64 0,.int .i64 0,.int .i64 0,.int .i64 0,.int .i64 0]) w fun b w1=>ck (List.length x=16) (pAgg ⟨b,0,none⟩ x w1 fun w2=>cond (x_1==0)
 (some (.int .i64 x6,w2))
 (R Ar8 Bk8 [(0,.pointer c),(6,.int .i64 (IntKind.wrap .i64 (x6+1)))] w2)))
 (some (.int .i64 (-1),h)):=by kernel_rfl
def A58:Cuts:={ globs:=0,loops:=[(3,[0,3,5,17,18]),(9,[0,5,31,32]),(19,[0,57,58])],regs:=[],plans:=[(15,⟨[0,1,2,3,4,5,6,7,8],[0,1,0,4,12,28,63,127,255],[],[]⟩)] }
def Bi8:List Item:=A7 Tryz.f55
def Az3:List Item:=stk [0,1,0,1,0,0,1,4,5] Bi8
def Al9:List Item:=stk [0,1,0,1,0,1,0,0,1,4,5] Bi8
def Am1:List Item:=stk [0,1,0,1,0,1,0,1,0,0,1,4,5] Bi8
theorem G52 (C:A4) (R:A6) (c:Option Addr) (p:List Value) (h:H) :
 A8 PR A58 C R G5 Tryz.f55 100000 true Bi8 [(0,.pointer c),(1,.agg ⟨p⟩)] h =
 nw (.cells D0 false p) h fun b w=>nw (.cells Ec5 false [.int .i64 0,.int .i64 0,.int .i64 0,.int .i64 0,.int .i64 0,.int .i64 0,.int .i64 0,.int .i64 0,.int .i64 0,.int .i64 0,.int .i64 0,.int .i64 0]) w fun b_1 w1=>gAgg (Addr.add ⟨b,0,none⟩ 8) 8 w1 fun x=>R G5 Az3 [(0,.pointer c),(3,.pointer (some ⟨b,0,none⟩)),(5,.pointer (some ⟨b_1,0,none⟩)),(17,.agg ⟨x⟩),(18,.int .i64 0)] w1:=by kernel_rfl
theorem Dz0 (C:A4) (R:A6) (c:Option Addr) (p:Addr) (more:Addr) (x17:List Value) (x18:Int) (h:H) :
 A8 PR A58 C R G5 Tryz.f55 100000 true Az3 [(0,.pointer c),(3,.pointer (some p)),(5,.pointer (some more)),(17,.agg ⟨x17⟩),(18,.int .i64 x18)] h =
 cond (decide (x18<8))
 (ck ((0:Int)≤x18∧x18<((8:Nat):Int)) (nth x17 (Int.toNat x18*1) fun x=>aInt .i64 x fun x_1=>cond (decide (x_1>0))
 (ck ((0:Int)≤IntKind.wrap .i64 (x_1-1)∧IntKind.wrap .i64 (x_1-1)<((12:Nat):Int)) (gInt .i64 (Addr.add more (Int.toNat (IntKind.wrap .i64 (x_1-1))*1)) h fun x_2=>ck ((0:Int)≤IntKind.wrap .i64 (x_1-1)∧IntKind.wrap .i64 (x_1-1)<((12:Nat):Int)) (pV (Addr.add more (Int.toNat (IntKind.wrap .i64 (x_1-1))*1)) (.int .i64 (IntKind.wrap .i64 (x_2+1))) h fun w=>R G5 Az3 [(0,.pointer c),(3,.pointer (some p)),(5,.pointer (some more)),(17,.agg ⟨x17⟩),(18,.int .i64 (IntKind.wrap .i64 (x18+1)))] w)))
 (R G5 Az3 [(0,.pointer c),(3,.pointer (some p)),(5,.pointer (some more)),(17,.agg ⟨x17⟩),(18,.int .i64 (IntKind.wrap .i64 (x18+1)))] h)))
 (gAgg (Addr.add p 8) 8 h fun x_3=>R G5 Al9 [(0,.pointer c),(5,.pointer (some more)),(31,.agg ⟨x_3⟩),(32,.int .i64 0)] h):=by kernel_rfl
theorem Dz2 (C:A4) (R:A6) (c:Option Addr) (more:Addr) (x31:List Value) (x32:Int) (h:H) :
 A8 PR A58 C R G5 Tryz.f55 100000 true Al9 [(0,.pointer c),(5,.pointer (some more)),(31,.agg ⟨x31⟩),(32,.int .i64 x32)] h =
 cond (decide (x32<8))
 (ck ((0:Int)≤x32∧x32<((8:Nat):Int)) (nth x31 (Int.toNat x32*1) fun x=>aInt .i64 x fun x_1=>cond (x_1==0)
 (R G5 Al9 [(0,.pointer c),(5,.pointer (some more)),(31,.agg ⟨x31⟩),(32,.int .i64 (IntKind.wrap .i64 (x32+1)))] h)
 (bnd (C L5 [.pointer c,.int .i64 (IntKind.wrap .i64 (x_1-1))] h) fun r w=>as2 r fun r_1 r_2=>aAgg r_1 fun x_2=>aInt .i64 r_2 fun x_3=>nw (.cells D7 false [.int .i64 0,.int .i64 0,.int .i64 0,.int .i64 0]) w fun b w1=>ck (List.length x_2=4) (pAgg ⟨b,0,none⟩ x_2 w1 fun w2=>cond (x_3 != 1)
 (some (.int .i64 105,w2))
 (gInt .i64 (Addr.add ⟨b,0,none⟩ 2) w2 fun x_4=>ck ((0:Int)≤IntKind.wrap .i64 (x_1-1)∧IntKind.wrap .i64 (x_1-1)<((12:Nat):Int)) (gInt .i64 (Addr.add more (Int.toNat (IntKind.wrap .i64 (x_1-1))*1)) w2 fun x_5=>cond (decide ((IntKind.wrap .i64 (x_4+x_5))>64))
 (some (.int .i64 123,w2))
 (R G5 Al9 [(0,.pointer c),(5,.pointer (some more)),(31,.agg ⟨x31⟩),(32,.int .i64 (IntKind.wrap .i64 (x32+1)))] w2)))))))
 (gAgg more 12 h fun x_6=>R G5 Am1 [(0,.pointer c),(57,.agg ⟨x_6⟩),(58,.int .i64 0)] h):=by kernel_rfl
theorem Dx1 (C:A4) (R:A6) (c:Option Addr) (x57:List Value) (x58:Int) (h:H) :
 A8 PR A58 C R G5 Tryz.f55 100000 true Am1 [(0,.pointer c),(57,.agg ⟨x57⟩),(58,.int .i64 x58)] h =
 cond (decide (x58<12))
 (ck ((0:Int)≤x58∧x58<((12:Nat):Int)) (nth x57 (Int.toNat x58*1) fun x=>aInt .i64 x fun x_1=>cond (x_1==0)
 (R G5 Am1 [(0,.pointer c),(57,.agg ⟨x57⟩),(58,.int .i64 (IntKind.wrap .i64 (x58+1)))] h)
 (bnd (C L5 [.pointer c,.int .i64 x58] h) fun r w=>as2 r fun r_1 r_2=>aAgg r_1 fun x_2=>aInt .i64 r_2 fun _=>nw (.cells D7 false [.int .i64 0,.int .i64 0,.int .i64 0,.int .i64 0]) w fun b w1=>ck (List.length x_2=4) (pAgg ⟨b,0,none⟩ x_2 w1 fun w2=>gInt .i64 (Addr.add ⟨b,0,none⟩ 2) w2 fun x_4=>pV (Addr.add ⟨b,0,none⟩ 2) (.int .i64 (IntKind.wrap .i64 (x_4+x_1))) w2 fun w3=>gAgg ⟨b,0,none⟩ 4 w3 fun x_5=>bnd (C O8 [.pointer c,.int .i64 x58,.agg ⟨x_5⟩] w3) fun r_3 w4=>aBool r_3 fun x_6=>cond (!x_6)
 (some (.int .i64 105,w4))
 (R G5 Am1 [(0,.pointer c),(57,.agg ⟨x57⟩),(58,.int .i64 (IntKind.wrap .i64 (x58+1)))] w4)))))
 (some (.int .i64 0,h)):=by kernel_rfl
def Ef0:Cuts:={ globs:=0,loops:=[],regs:=[],plans:=[] }
def Gh1:List Item:=A7 Tryz.f63
theorem Hv2 (C:A4) (R:A6) (c:Option Addr) (g:Int) (h:H) :
 A8 PR Ef0 C R B07 Tryz.f63 100000 true Gh1 [(0,.pointer c),(1,.int .i64 g)] h =
 nw (.cells B8 false [.int .i64 g]) h fun b w=>bnd (C Ae7 [.pointer c,.func (.func Bk3) ⟨[]⟩ ⟨[.pointer (some ⟨b,0,none⟩)]⟩] w) fun r w1=>aSl r fun _ xn _=>some (.bool (decide (((xn:Nat):Int)>0)),w1):=by kernel_rfl
def Av5:Cuts:={ globs:=0,loops:=[],regs:=[],plans:=[] }
def Bn3:List Item:=A7 Tryz.f66
theorem Dv9 (C:A4) (R:A6) (c:Option Addr) (h:H) :
 A8 PR Av5 C R Q6 Tryz.f66 100000 true Bn3 [(0,.pointer c)] h =
 bnd (C Q9 [.pointer c,.agg ⟨[.int .i64 5,.int .i64 0]⟩,.func (.func Am8) ⟨[]⟩ ⟨[]⟩] h) fun r w=>as2 r fun r_1 r_2=>aInt .i64 r_1 fun x=>aInt .i64 r_2 fun x_1=>some (.tuple ⟨[.int .i64 x,.bool (x_1==1)]⟩,w):=by kernel_rfl
def Ba5:Cuts:={ globs:=0,loops:=[(5,[1,4,20,21,22]),(12,[1,7,58,59,60]),(18,[7,89,90,91]),(22,[7,11,12,89,90,91,122,123,124])],regs:=[],plans:=[(9,⟨[0,1,3,5,6,7,9,10,2,4,8,11,12,13,14],[0,1,3,0,15,0,32,96,255,0,512,2047,4095,8191,16383],[(2,[6,10]),(4,[6,10]),(8,[10])],[]⟩),(10,⟨[0,1,2,3,4,5,6,7,8,9,10,11,12],[0,0,2,6,14,0,32,96,224,510,1023,2047,4095],[],[]⟩),(14,⟨[0,1,2,3,4,5,6,7,8,9,10,11],[0,0,2,6,14,0,32,96,254,511,1023,2047],[(6,[4])],[]⟩),(15,⟨[0,1,2,3,4,5,6,7,8,9,10,11,12],[0,0,2,6,14,0,32,96,224,510,1023,2047,4095],[(7,[4])],[]⟩),(20,⟨[0,1,2,3,4,5,6,7,8,9,11,12,15,16,18,19,10,13,14,17,20,21,22,23,24,25],[0,1,3,7,0,16,48,112,0,256,1008,0,2048,8176,16368,0,32768,131056,0,262144,1048575,2097151,4194303,4194303,8388607,33554431],[(10,[3,12,16,19])],[]⟩),(25,⟨[0,1,2,3,4,5,6,7,8,9],[0,1,3,7,0,0,0,64,224,511],[],[]⟩)] }
def Bk9:List Item:=A7 Tryz.f69
def Bs2:List Item:=stk [0,1,0,1,0,1,0,0,1,4,5] Bk9
def Bs4:List Item:=stk [0,1,0,1,0,1,0,1,0,1,0,1,0,0,1,4,5] Bk9
def Bb4:List Item:=stk [0,1,0,1,0,1,0,1,0,1,0,1,0,1,0,0,1,4,5] Bk9
def Bb0:List Item:=stk [0,1,0,1,0,1,0,1,0,1,0,1,0,1,0,0,1,4,5,6,0,1,0,1,0,4,0,1,0,1,0,1,4,5] Bk9
theorem Hz4 (C:A4) (R:A6) (c:List Value) (h:H) :
 A8 PR Ba5 C R H8 Tryz.f69 100000 true Bk9 [(0,.agg ⟨c⟩)] h =
 nw (.cells E1 false c) h fun b w=>gAgg ⟨b,0,none⟩ 5 w fun x=>bnd (C R0 [.agg ⟨x⟩] w) fun r w1=>aBool r fun x_1=>cond (!x_1)
 (some (.tuple ⟨[.pointer none,.int .i64 1]⟩,w1))
 (gSl (Addr.add ⟨b,0,none⟩ 0) w1 fun x_2 xn xc=>R H8 Bs2 [(1,.pointer (some ⟨b,0,none⟩)),(4,.int .i64 0),(20,.slice x_2 xn xc),(21,.int .i64 ((xn:Nat):Int)),(22,.int .i64 0)] w1):=by kernel_rfl
theorem Ek4 (C:A4) (R:A6) (c:Addr) (all:Int) (x20:Option Addr) (x20n x20c:Nat) (x21:Int) (x22:Int) (h:H) :
 A8 PR Ba5 C R H8 Tryz.f69 100000 true Bs2 [(1,.pointer (some c)),(4,.int .i64 all),(20,.slice x20 x20n x20c),(21,.int .i64 x21),(22,.int .i64 x22)] h =
 cond (decide (x22<x21))
 (aSome x20 fun p=>ck ((0:Int)≤x22∧x22<((x20n:Nat):Int)) (gInt .i64 (Addr.add (B6 p) (Int.toNat x22*1)) h fun x=>bnd (C Bb3 [.int .i64 x] h) fun r w=>aInt .i64 r fun x_1=>R H8 Bs2 [(1,.pointer (some c)),(4,.int .i64 (IntKind.wrap .i64 (all+x_1))),(20,.slice x20 x20n x20c),(21,.int .i64 x21),(22,.int .i64 (IntKind.wrap .i64 (x22+1)))] w))
 (gSl (Addr.add c 1) h fun x_2 xn xc=>gSl (Addr.add c 1) h fun x_3 xn_1 xc_1=>gSl (Addr.add c 0) h fun x_4 xn_2 xc_2=>bnd (C W1 [.slice x_2 xn xc] h) fun r_1 w1=>aSl r_1 fun x_5 xn_3 xc_3=>gSl (Addr.add c 1) w1 fun x_6 xn_4 xc_4=>same (.slice x_3 xn_1 xc_1) (.slice x_6 xn_4 xc_4) (gSl (Addr.add c 0) w1 fun x_7 xn_5 xc_5=>same (.slice x_4 xn_2 xc_2) (.slice x_7 xn_5 xc_5) (bnd (C Dy5 [.int .i64 all] w1) fun r_2 w2=>aPtr r_2 fun x_8=>gSl (Addr.add c 1) w2 fun x_9 xn_6 xc_6=>same (.slice x_3 xn_1 xc_1) (.slice x_9 xn_6 xc_6) (gSl (Addr.add c 0) w2 fun x_10 xn_7 xc_7=>same (.slice x_4 xn_2 xc_2) (.slice x_10 xn_7 xc_7) (bnd (C Ay3 [.int .i64 ((xn_1:Nat):Int)] w2) fun r_3 w3=>aPtr r_3 fun x_11=>gSl (Addr.add c 0) w3 fun x_12 xn_8 xc_8=>same (.slice x_4 xn_2 xc_2) (.slice x_12 xn_8 xc_8) (bnd (C As0 [.slice x_4 xn_2 xc_2] w3) fun r_4 w4=>aPtr r_4 fun x_13=>nw (.cells D15 false [.slice x_5 xn_3 xc_3,.slice none 0 0,.pointer x_8,.pointer x_11,.pointer x_13,.pointer none,.slice none 0 0,.int .i64 0]) w4 fun b w5=>gPtr (Addr.add ⟨b,0,none⟩ 2) w5 fun x_14=>gPtr (Addr.add ⟨b,0,none⟩ 3) w5 fun x_15=>bnd (C B20 [.pointer x_14,.pointer x_15] w5) fun r_5 w6=>aPtr r_5 fun x_16=>pV (Addr.add ⟨b,0,none⟩ 5) (.pointer x_16) w6 fun w7=>gSl (Addr.add c 2) w7 fun x_17 xn_9 xc_9=>R H8 Bs4 [(1,.pointer (some c)),(7,.pointer (some ⟨b,0,none⟩)),(58,.slice x_17 xn_9 xc_9),(59,.int .i64 ((xn_9:Nat):Int)),(60,.int .i64 0)] w7)))))):=by kernel_rfl
theorem Ek2 (C:A4) (R:A6) (c:Addr) (k:Addr) (x58:Option Addr) (x58n x58c:Nat) (x59:Int) (x60:Int) (h:H) :
 A8 PR Ba5 C R H8 Tryz.f69 100000 true Bs4 [(1,.pointer (some c)),(7,.pointer (some k)),(58,.slice x58 x58n x58c),(59,.int .i64 x59),(60,.int .i64 x60)] h =
 cond (decide (x60<x59))
 (aSome x58 fun p=>ck ((0:Int)≤x60∧x60<((x58n:Nat):Int)) (gSl (Addr.add (B6 p) (Int.toNat x60*1)) h fun x xn xc=>gSl (Addr.add k 1) h fun x_1 xn_1 xc_1=>bnd (C W1 [.slice x xn xc] h) fun r w=>aSl r fun x_2 xn_2 xc_2=>gSl (Addr.add k 1) w fun x_3 xn_3 xc_3=>same (.slice x_1 xn_1 xc_1) (.slice x_3 xn_3 xc_3) (nw (.cells Q4 false [.slice x_2 xn_2 xc_2]) w fun b w1=>gCells (some ⟨b,0,none⟩) (1*1) w1 fun cs=>ckB (fitsOpen x_1 Q4 w1) (apd Q4 1 x_1 xn_1 xc_1 1 cs w1 fun a an ac w2=>pV (Addr.add k 1) (.slice a an ac) w2 fun w3=>gSl (Addr.add k 6) w3 fun x_4 xn_4 xc_4=>gInt .i64 (Addr.add c 3) w3 fun x_5=>bnd (C Dm2 [.int .i64 x_5] w3) fun r_1 w4=>aPtr r_1 fun x_6=>gSl (Addr.add k 6) w4 fun x_7 xn_5 xc_5=>same (.slice x_4 xn_4 xc_4) (.slice x_7 xn_5 xc_5) (nw (.cells Aw3 false [.pointer x_6]) w4 fun b_1 w5=>gCells (some ⟨b_1,0,none⟩) (1*1) w5 fun cs_1=>ckB (fitsOpen x_4 Aw3 w5) (apd Aw3 1 x_4 xn_4 xc_4 1 cs_1 w5 fun a_1 an_1 ac_1 w6=>pV (Addr.add k 6) (.slice a_1 an_1 ac_1) w6 fun w7=>R H8 Bs4 [(1,.pointer (some c)),(7,.pointer (some k)),(58,.slice x58 x58n x58c),(59,.int .i64 x59),(60,.int .i64 (IntKind.wrap .i64 (x60+1)))] w7))))))
 (gSl (Addr.add c 4) h fun x_8 xn_6 xc_6=>R H8 Bb4 [(7,.pointer (some k)),(89,.slice x_8 xn_6 xc_6),(90,.int .i64 ((xn_6:Nat):Int)),(91,.int .i64 0)] h):=by kernel_rfl
theorem Ei5 (C:A4) (R:A6) (k:Addr) (x89:Option Addr) (x89n x89c:Nat) (x90:Int) (x91:Int) (h:H) :
 A8 PR Ba5 C R H8 Tryz.f69 100000 true Bb4 [(7,.pointer (some k)),(89,.slice x89 x89n x89c),(90,.int .i64 x90),(91,.int .i64 x91)] h =
 cond (decide (x91<x90))
 (aSome x89 fun p=>ck ((0:Int)≤x91∧x91<((x89n:Nat):Int)) (gAgg (Addr.add (B6 p) (Int.toNat x91*5)) 5 h fun x=>nw (.cells I9 false [.int .i64 0,.int .i64 0,.int .i64 0,.int .i64 0,.slice none 0 0]) h fun b w=>ck (List.length x=5) (pAgg ⟨b,0,none⟩ x w fun w1=>gPtr (Addr.add k 5) w1 fun x_1=>gPtr (Addr.add k 4) w1 fun x_2=>gInt .i64 (Addr.add ⟨b,0,none⟩ 0) w1 fun x_3=>gInt .i64 (Addr.add ⟨b,0,none⟩ 1) w1 fun x_4=>gInt .i64 (Addr.add ⟨b,0,none⟩ 2) w1 fun x_5=>gInt .i64 (Addr.add ⟨b,0,none⟩ 3) w1 fun x_6=>bnd (C P5 [.pointer x_2,.int .i64 x_3] w1) fun r w2=>aInt .i64 r fun x_7=>gPtr (Addr.add k 5) w2 fun x_8=>same (.pointer x_1) (.pointer x_8) (gInt .i64 (Addr.add ⟨b,0,none⟩ 1) w2 fun x_9=>same (.int .i64 x_4) (.int .i64 x_9) (gInt .i64 (Addr.add ⟨b,0,none⟩ 2) w2 fun x_10=>same (.int .i64 x_5) (.int .i64 x_10) (gInt .i64 (Addr.add ⟨b,0,none⟩ 3) w2 fun x_11=>same (.int .i64 x_6) (.int .i64 x_11) (bnd (C Aq9 [.pointer x_1,.int .i64 (IntKind.wrap .i64 ((IntKind.wrap .i64 ((IntKind.wrap .i64 (x_7+x_4))*64))+x_5)),.int .i64 x_6] w2) fun r_1 w3=>as2 r_1 fun r_2 r_3=>aInt .i64 r_2 fun x_12=>aInt .i64 r_3 fun _=>gSl (Addr.add k 0) w3 fun x_14 xn xc=>R H8 Bb0 [(7,.pointer (some k)),(11,.pointer (some ⟨b,0,none⟩)),(12,.int .i64 x_12),(89,.slice x89 x89n x89c),(90,.int .i64 x90),(91,.int .i64 x91),(122,.slice x_14 xn xc),(123,.int .i64 ((xn:Nat):Int)),(124,.int .i64 0)] w3)))))))
 (some (.tuple ⟨[.pointer (some k),.int .i64 0]⟩,h)):=by kernel_rfl
theorem El5 (C:A4) (R:A6) (k:Addr) (x:Addr) (obj:Int) (x89:Option Addr) (x89n x89c:Nat) (x90:Int) (x91:Int) (x122:Option Addr) (x122n x122c:Nat) (x123:Int) (x124:Int) (h:H) :
 A8 PR Ba5 C R H8 Tryz.f69 100000 true Bb0 [(7,.pointer (some k)),(11,.pointer (some x)),(12,.int .i64 obj),(89,.slice x89 x89n x89c),(90,.int .i64 x90),(91,.int .i64 x91),(122,.slice x122 x122n x122c),(123,.int .i64 x123),(124,.int .i64 x124)] h =
 cond (decide (x124<x123))
 (aSome x122 fun p=>ck ((0:Int)≤x124∧x124<((x122n:Nat):Int)) (gInt .i64 (Addr.add (B6 p) (Int.toNat x124*1)) h fun x_1=>gSl (Addr.add x 4) h fun x_2 xn xc=>bnd (C N0 [.slice x_2 xn xc,.int .i64 x_1] h) fun r w=>aBool r fun x_3=>cond x_3
 (gPtr (Addr.add k 3) w fun x_4=>gInt .i64 (Addr.add x 3) w fun x_5=>bnd (C A91 [.pointer x_4,.int .i64 x124,.agg ⟨[.int .i64 obj,.int .i64 3,.int .i64 0,.int .i64 x_5,.int .i64 0,.int .i64 0]⟩] w) fun r_1 w1=>as2 r_1 fun r_2 r_3=>aInt .i64 r_2 fun _=>aInt .i64 r_3 fun _=>R H8 Bb0 [(7,.pointer (some k)),(11,.pointer (some x)),(12,.int .i64 obj),(89,.slice x89 x89n x89c),(90,.int .i64 x90),(91,.int .i64 x91),(122,.slice x122 x122n x122c),(123,.int .i64 x123),(124,.int .i64 (IntKind.wrap .i64 (x124+1)))] w1)
 (R H8 Bb0 [(7,.pointer (some k)),(11,.pointer (some x)),(12,.int .i64 obj),(89,.slice x89 x89n x89c),(90,.int .i64 x90),(91,.int .i64 x91),(122,.slice x122 x122n x122c),(123,.int .i64 x123),(124,.int .i64 (IntKind.wrap .i64 (x124+1)))] w)))
 (R H8 Bb4 [(7,.pointer (some k)),(89,.slice x89 x89n x89c),(90,.int .i64 x90),(91,.int .i64 (IntKind.wrap .i64 (x91+1)))] h):=by kernel_rfl
def Bi2:Cuts:={ globs:=0,loops:=[],regs:=[],plans:=[] }
def Db8:List Item:=A7 Tryz.f72
theorem Er8 (C:A4) (R:A6) (k:Option Addr) (env:Int) (h:H) :
 A8 PR Bi2 C R Ay2 Tryz.f72 100000 true Db8 [(0,.pointer k),(1,.int .i64 env)] h =
 aSome k fun p=>gPtr (Addr.add p 6) h fun x=>aSome x fun p_1=>gPtr (Addr.add p_1 3) h fun x_1=>bnd (C A84 [.pointer x_1,.int .i64 env] h) fun r w=>aSl r fun x_2 xn xc=>cond (((xn:Nat):Int)==0)
 (some (.pointer none,w))
 (nw (.cells Dx9 false [.pointer k,.int .i64 env,.slice x_2 xn xc,.slice none 0 0]) w fun b w1=>some (.pointer (some ⟨b,0,none⟩),w1)):=by kernel_rfl
def Ba8:Cuts:={ globs:=0,loops:=[],regs:=[],plans:=[] }
def Bz2:List Item:=A7 Tryz.f77
theorem Eb0 (C:A4) (R:A6) (r:Option Addr) (e:Int) (name:Int) (atv:Int) (b:ByteArray) (h:H) :
 A8 PR Ba8 C R Ao5 Tryz.f77 100000 true Bz2 [(0,.pointer r),(1,.int .i64 e),(2,.int .i64 name),(3,.int .i64 atv),(4,.string b)] h =
 bnd (C Ao9 [.pointer r,.int .i64 e,.int .i64 name,.int .i64 2,.int .i64 atv,.int .i64 ((ByteArray.size b:Nat):Int)] h) fun r_1 w=>as2 r_1 fun r_2 r_3=>aInt .i64 r_2 fun x=>aInt .i64 r_3 fun x_1=>cond (x_1 != 0)
 (some (.int .i64 x_1,w))
 (aSome r fun p=>gSl (Addr.add p 0) w fun x_2 xn xc=>ckB (fitsOpen x_2 A5 w) (ck ((0:Int)≤x∧x≤((xn:Nat):Int)) (pCells (H0 x_2 (decide (Int.toNat x<xc)) ((Int.toNat x)*1)) (A0 (List.take (min (ByteArray.size b) (xn-(Int.toNat x))) (ByteArray.data b).toList)) w fun w1=>some (.int .i64 0,w1)))):=by kernel_rfl
def Df0:Cuts:={ globs:=0,loops:=[],regs:=[],plans:=[] }
def El2:List Item:=A7 Tryz.f88
theorem G09 (C:A4) (R:A6) (i:Int) (fv0:Addr) (h:H) :
 A8 PR Df0 C R Bc8 Tryz.f88 100000 true El2 [(0,.int .i64 i),(1,.pointer (some fv0))] h =
 ck ((0:Int)≤i∧i<((8:Nat):Int)) (gInt .i64 (Addr.add (Addr.add fv0 8) (Int.toNat i*1)) h fun x=>some (.bool (x==0),h)):=by kernel_rfl
def B87:Cuts:={ globs:=0,loops:=[],regs:=[],plans:=[] }
def D93:List Item:=A7 Tryz.f90
theorem Gq5 (C:A4) (R:A6) (i:Int) (h:H) :
 A8 PR B87 C R A44 Tryz.f90 100000 true D93 [(0,.int .i64 i)] h =
 nw (.cells E2 false [.int .i64 0,.int .i64 0]) h fun b w=>pAgg ⟨b,0,none⟩ [.int .i64 2,.int .i64 i] w fun w1=>gAgg ⟨b,0,none⟩ 2 w1 fun x=>some (.agg ⟨x⟩,w1):=by kernel_rfl
def Ad6:Cuts:={ globs:=0,loops:=[],regs:=[(8,[6,8,11,12])],plans:=[(7,⟨[0,1,2,3,4,5,6,7,8,9],[0,1,3,7,0,31,63,31,159,511],[(7,[5])],[]⟩)] }
def Ap0:List Item:=A7 Tryz.f92
def Aj1:List Item:=stk [0,1,0,1,0,1,0,1,0,1,0,1,0,0] Ap0
theorem Dk3 (C:A4) (R:A6) (c:Option Addr) (r:List Value) (decode:Value) (h:H) :
 A8 PR Ad6 C R I3 Tryz.f92 100000 true Ap0 [(0,.pointer c),(1,.agg ⟨r⟩),(2,decode)] h =
 nw (.cells E2 false r) h fun b w=>nw (.cells D3 false [.int .i64 0,.int .i64 0,.int .i64 0,.int .i64 0,.int .u8 0,.int .u8 0,.int .u8 0,.int .u8 0,.int .u8 0,.int .u8 0,.int .u8 0,.int .u8 0,.int .u8 0,.int .u8 0,.int .u8 0,.int .u8 0,.int .u8 0,.int .u8 0,.int .u8 0,.int .u8 0,.int .u8 0,.int .u8 0,.int .u8 0,.int .u8 0,.int .u8 0,.int .u8 0,.int .u8 0,.int .u8 0,.int .u8 0,.int .u8 0,.int .u8 0,.int .u8 0,.int .u8 0,.int .u8 0,.int .u8 0,.int .u8 0]) w fun b_1 w1=>nw (.cells D3 false [.int .i64 0,.int .i64 0,.int .i64 0,.int .i64 0,.int .u8 0,.int .u8 0,.int .u8 0,.int .u8 0,.int .u8 0,.int .u8 0,.int .u8 0,.int .u8 0,.int .u8 0,.int .u8 0,.int .u8 0,.int .u8 0,.int .u8 0,.int .u8 0,.int .u8 0,.int .u8 0,.int .u8 0,.int .u8 0,.int .u8 0,.int .u8 0,.int .u8 0,.int .u8 0,.int .u8 0,.int .u8 0,.int .u8 0,.int .u8 0,.int .u8 0,.int .u8 0,.int .u8 0,.int .u8 0,.int .u8 0,.int .u8 0]) w1 fun b_2 w2=>gAgg ⟨b,0,none⟩ 2 w2 fun x=>bnd (C O6 [.pointer c,.agg ⟨x⟩] w2) fun r_1 w3=>as2 r_1 fun r_2 r_3=>aSl r_2 fun x_1 xn xc=>aBool r_3 fun x_2=>cond (!x_2)
 (gAgg ⟨b_2,0,none⟩ 36 w3 fun x_3=>ck (List.length x_3=36) (pAgg ⟨b_1,0,none⟩ x_3 w3 fun w4=>gAgg ⟨b_1,0,none⟩ 36 w4 fun x_4=>some (.tuple ⟨[.agg ⟨x_4⟩,.int .i64 2]⟩,w4)))
 (aFn decode fun g fi cp=>bnd (C g (fi++([.slice x_1 xn xc]++cp)) w3) fun r_4 w5=>as2 r_4 fun r_5 r_6=>aAgg r_5 fun x_5=>aInt .i64 r_6 fun x_6=>nw (.cells D3 false [.int .i64 0,.int .i64 0,.int .i64 0,.int .i64 0,.int .u8 0,.int .u8 0,.int .u8 0,.int .u8 0,.int .u8 0,.int .u8 0,.int .u8 0,.int .u8 0,.int .u8 0,.int .u8 0,.int .u8 0,.int .u8 0,.int .u8 0,.int .u8 0,.int .u8 0,.int .u8 0,.int .u8 0,.int .u8 0,.int .u8 0,.int .u8 0,.int .u8 0,.int .u8 0,.int .u8 0,.int .u8 0,.int .u8 0,.int .u8 0,.int .u8 0,.int .u8 0,.int .u8 0,.int .u8 0,.int .u8 0,.int .u8 0]) w5 fun b_3 w6=>ck (List.length x_5=36) (pAgg ⟨b_3,0,none⟩ x_5 w6 fun w7=>cond (x_6==2)
 (aSome c fun p=>gMap (Addr.add p 3) w7 fun x_7=>gAgg ⟨b,0,none⟩ 2 w7 fun x_8=>keyN PR E2 (.agg ⟨x_8⟩) (opt x_7 fun r_7=>mapAt w7 r_7 fun es _=>opt (Am0 (.int .i64 0) (.agg ⟨x_8⟩) es) fun f=>aInt .i64 f.1 fun x_9=>keyN PR E2 (.agg ⟨x_8⟩) (opt x_7 fun r_8=>mapAt w7 r_8 fun es_1 cl_1=>opt (D09 (.int .i64 0) (.agg ⟨x_8⟩) es_1 cl_1) fun f_1=>aInt .i64 f_1.1 fun _=>lt (H.set w7 r_8 f_1.2.2) fun w8=>keyN PR E2 (.agg ⟨x_8⟩) (opt x_7 fun r_9=>mapAt w8 r_9 fun es_2 _=>opt (Am0 (.int .i64 0) (.agg ⟨x_8⟩) es_2) fun f_2=>aInt .i64 f_2.1 fun x_11=>same (.int .i64 x_9) (.int .i64 x_11) (opt x_7 fun r_10=>mapAt w8 r_10 fun es_3 cl_3=>opt (Bl9 (f_1.2.1:Int) es_3 0) fun i=>lt (H.set w8 r_10 (.map (modN (fun e=>{ e with val:=.int .i64 (IntKind.wrap .i64 (x_9+1)) }) i es_3) cl_3)) fun w9=>R I3 Aj1 [(6,.pointer (some ⟨b_1,0,none⟩)),(8,.pointer (some ⟨b_2,0,none⟩)),(11,.pointer (some ⟨b_3,0,none⟩)),(12,.int .i64 x_6)] w9)))))
 (R I3 Aj1 [(6,.pointer (some ⟨b_1,0,none⟩)),(8,.pointer (some ⟨b_2,0,none⟩)),(11,.pointer (some ⟨b_3,0,none⟩)),(12,.int .i64 x_6)] w7))):=by kernel_rfl
theorem A48 (C:A4) (R:A6) (x6:Addr) (nonev:Addr) (v:Addr) (isv:Int) (h:H) :
 A8 PR Ad6 C R I3 Tryz.f92 100000 true Aj1 [(6,.pointer (some x6)),(8,.pointer (some nonev)),(11,.pointer (some v)),(12,.int .i64 isv)] h =
 cond (isv != 1)
 (gAgg nonev 36 h fun x=>ck (List.length x=36) (pAgg x6 x h fun w=>gAgg x6 36 w fun x_1=>some (.tuple ⟨[.agg ⟨x_1⟩,.int .i64 isv]⟩,w)))
 (gAgg v 36 h fun x_2=>ck (List.length x_2=36) (pAgg x6 x_2 h fun w1=>gAgg x6 36 w1 fun x_3=>some (.tuple ⟨[.agg ⟨x_3⟩,.int .i64 isv]⟩,w1))):=by kernel_rfl
def Df2:Cuts:={ globs:=0,loops:=[],regs:=[],plans:=[] }
def Ej8:List Item:=A7 Tryz.f94
theorem Gz2 (C:A4) (R:A6) (b:Option Addr) (bn bc:Nat) (h:H) :
 A8 PR Df2 C R Aw5 Tryz.f94 100000 true Ej8 [(0,.slice b bn bc)] h =
 nw (.cells D3 false [.int .i64 0,.int .i64 0,.int .i64 0,.int .i64 0,.int .u8 0,.int .u8 0,.int .u8 0,.int .u8 0,.int .u8 0,.int .u8 0,.int .u8 0,.int .u8 0,.int .u8 0,.int .u8 0,.int .u8 0,.int .u8 0,.int .u8 0,.int .u8 0,.int .u8 0,.int .u8 0,.int .u8 0,.int .u8 0,.int .u8 0,.int .u8 0,.int .u8 0,.int .u8 0,.int .u8 0,.int .u8 0,.int .u8 0,.int .u8 0,.int .u8 0,.int .u8 0,.int .u8 0,.int .u8 0,.int .u8 0,.int .u8 0]) h fun b_1 w=>bnd (cond (((bn:Nat):Int)==40) (bnd (C Am3 [.slice b bn bc] w) fun r w1=>aBool r fun x=>some (x,w1)) (some (false,w))) fun c w2=>cond c
 (pAgg ⟨b_1,0,none⟩ [.int .i64 0,.int .i64 0,.int .i64 0,.int .i64 0,.int .u8 0,.int .u8 0,.int .u8 0,.int .u8 0,.int .u8 0,.int .u8 0,.int .u8 0,.int .u8 0,.int .u8 0,.int .u8 0,.int .u8 0,.int .u8 0,.int .u8 0,.int .u8 0,.int .u8 0,.int .u8 0,.int .u8 0,.int .u8 0,.int .u8 0,.int .u8 0,.int .u8 0,.int .u8 0,.int .u8 0,.int .u8 0,.int .u8 0,.int .u8 0,.int .u8 0,.int .u8 0,.int .u8 0,.int .u8 0,.int .u8 0,.int .u8 0] w2 fun w3=>gAgg ⟨b_1,0,none⟩ 36 w3 fun x_1=>some (.tuple ⟨[.agg ⟨x_1⟩,.int .i64 0]⟩,w3))
 (bnd (C Bh1 [] w2) fun r_1 w4=>aPtr r_1 fun x_2=>bnd (C V3 [.pointer x_2,.slice b bn bc] w4) fun r_2 w5=>as2 r_2 fun r_3 r_4=>aAgg r_3 fun x_3=>aBool r_4 fun x_4=>nw (.cells D3 false [.int .i64 0,.int .i64 0,.int .i64 0,.int .i64 0,.int .u8 0,.int .u8 0,.int .u8 0,.int .u8 0,.int .u8 0,.int .u8 0,.int .u8 0,.int .u8 0,.int .u8 0,.int .u8 0,.int .u8 0,.int .u8 0,.int .u8 0,.int .u8 0,.int .u8 0,.int .u8 0,.int .u8 0,.int .u8 0,.int .u8 0,.int .u8 0,.int .u8 0,.int .u8 0,.int .u8 0,.int .u8 0,.int .u8 0,.int .u8 0,.int .u8 0,.int .u8 0,.int .u8 0,.int .u8 0,.int .u8 0,.int .u8 0]) w5 fun b_2 w6=>ck (List.length x_3=36) (pAgg ⟨b_2,0,none⟩ x_3 w6 fun w7=>cond (!x_4)
 (pAgg ⟨b_1,0,none⟩ [.int .i64 0,.int .i64 0,.int .i64 0,.int .i64 0,.int .u8 0,.int .u8 0,.int .u8 0,.int .u8 0,.int .u8 0,.int .u8 0,.int .u8 0,.int .u8 0,.int .u8 0,.int .u8 0,.int .u8 0,.int .u8 0,.int .u8 0,.int .u8 0,.int .u8 0,.int .u8 0,.int .u8 0,.int .u8 0,.int .u8 0,.int .u8 0,.int .u8 0,.int .u8 0,.int .u8 0,.int .u8 0,.int .u8 0,.int .u8 0,.int .u8 0,.int .u8 0,.int .u8 0,.int .u8 0,.int .u8 0,.int .u8 0] w7 fun w8=>gAgg ⟨b_1,0,none⟩ 36 w8 fun x_5=>some (.tuple ⟨[.agg ⟨x_5⟩,.int .i64 2]⟩,w8))
 (gAgg ⟨b_2,0,none⟩ 36 w7 fun x_6=>ck (List.length x_6=36) (pAgg ⟨b_1,0,none⟩ x_6 w7 fun w9=>gAgg ⟨b_1,0,none⟩ 36 w9 fun x_7=>some (.tuple ⟨[.agg ⟨x_7⟩,.int .i64 1]⟩,w9))))):=by kernel_rfl
def Ao4:Cuts:={ globs:=0,loops:=[],regs:=[],plans:=[] }
def Bf1:List Item:=A7 Tryz.f105
theorem Dj3 (C:A4) (R:A6) (s:Option Addr) (sn sc:Nat) (h:H) :
 A8 PR Ao4 C R U7 Tryz.f105 100000 true Bf1 [(0,.slice s sn sc)] h =
 ckB (fitsOpen s A5 h) (ck ((0:Int)≤((sn:Nat):Int)∧((sn:Nat):Int)≤((sc:Nat):Int)) (ck ((0:Int)≤((sn:Nat):Int)∧((sn:Nat):Int)≤((Int.toNat ((sn:Nat):Int):Nat):Int)) (some (.slice (B41 (H0 s (decide (0<Int.toNat ((sn:Nat):Int))) (0*1))) ((Int.toNat ((sn:Nat):Int))-0) ((Int.toNat ((sn:Nat):Int))-0),h)))):=by kernel_rfl
def Ad5:Cuts:={ globs:=0,loops:=[],regs:=[(8,[6,8,11,12])],plans:=[(7,⟨[0,1,2,3,4,5,6,7,8,9],[0,1,3,7,0,31,63,31,159,511],[(7,[5])],[]⟩)] }
def Aq6:List Item:=A7 Tryz.f110
def Ai2:List Item:=stk [0,1,0,1,0,1,0,1,0,1,0,1,0,0] Aq6
theorem Dl6 (C:A4) (R:A6) (c:Option Addr) (r:List Value) (decode:Value) (h:H) :
 A8 PR Ad5 C R L1 Tryz.f110 100000 true Aq6 [(0,.pointer c),(1,.agg ⟨r⟩),(2,decode)] h =
 nw (.cells E2 false r) h fun b w=>nw (.cells D0 false [.int .i64 0,.int .i64 0,.int .i64 0,.int .i64 0,.int .i64 0,.int .i64 0,.int .i64 0,.int .i64 0,.int .i64 0,.int .i64 0,.int .i64 0,.int .i64 0,.int .i64 0,.int .i64 0,.int .i64 0,.int .i64 0]) w fun b_1 w1=>nw (.cells D0 false [.int .i64 0,.int .i64 0,.int .i64 0,.int .i64 0,.int .i64 0,.int .i64 0,.int .i64 0,.int .i64 0,.int .i64 0,.int .i64 0,.int .i64 0,.int .i64 0,.int .i64 0,.int .i64 0,.int .i64 0,.int .i64 0]) w1 fun b_2 w2=>gAgg ⟨b,0,none⟩ 2 w2 fun x=>bnd (C O6 [.pointer c,.agg ⟨x⟩] w2) fun r_1 w3=>as2 r_1 fun r_2 r_3=>aSl r_2 fun x_1 xn xc=>aBool r_3 fun x_2=>cond (!x_2)
 (gAgg ⟨b_2,0,none⟩ 16 w3 fun x_3=>ck (List.length x_3=16) (pAgg ⟨b_1,0,none⟩ x_3 w3 fun w4=>gAgg ⟨b_1,0,none⟩ 16 w4 fun x_4=>some (.tuple ⟨[.agg ⟨x_4⟩,.int .i64 2]⟩,w4)))
 (aFn decode fun g fi cp=>bnd (C g (fi++([.slice x_1 xn xc]++cp)) w3) fun r_4 w5=>as2 r_4 fun r_5 r_6=>aAgg r_5 fun x_5=>aInt .i64 r_6 fun x_6=>nw (.cells D0 false [.int .i64 0,.int .i64 0,.int .i64 0,.int .i64 0,.int .i64 0,.int .i64 0,.int .i64 0,.int .i64 0,.int .i64 0,.int .i64 0,.int .i64 0,.int .i64 0,.int .i64 0,.int .i64 0,.int .i64 0,.int .i64 0]) w5 fun b_3 w6=>ck (List.length x_5=16) (pAgg ⟨b_3,0,none⟩ x_5 w6 fun w7=>cond (x_6==2)
 (aSome c fun p=>gMap (Addr.add p 3) w7 fun x_7=>gAgg ⟨b,0,none⟩ 2 w7 fun x_8=>keyN PR E2 (.agg ⟨x_8⟩) (opt x_7 fun r_7=>mapAt w7 r_7 fun es _=>opt (Am0 (.int .i64 0) (.agg ⟨x_8⟩) es) fun f=>aInt .i64 f.1 fun x_9=>keyN PR E2 (.agg ⟨x_8⟩) (opt x_7 fun r_8=>mapAt w7 r_8 fun es_1 cl_1=>opt (D09 (.int .i64 0) (.agg ⟨x_8⟩) es_1 cl_1) fun f_1=>aInt .i64 f_1.1 fun _=>lt (H.set w7 r_8 f_1.2.2) fun w8=>keyN PR E2 (.agg ⟨x_8⟩) (opt x_7 fun r_9=>mapAt w8 r_9 fun es_2 _=>opt (Am0 (.int .i64 0) (.agg ⟨x_8⟩) es_2) fun f_2=>aInt .i64 f_2.1 fun x_11=>same (.int .i64 x_9) (.int .i64 x_11) (opt x_7 fun r_10=>mapAt w8 r_10 fun es_3 cl_3=>opt (Bl9 (f_1.2.1:Int) es_3 0) fun i=>lt (H.set w8 r_10 (.map (modN (fun e=>{ e with val:=.int .i64 (IntKind.wrap .i64 (x_9+1)) }) i es_3) cl_3)) fun w9=>R L1 Ai2 [(6,.pointer (some ⟨b_1,0,none⟩)),(8,.pointer (some ⟨b_2,0,none⟩)),(11,.pointer (some ⟨b_3,0,none⟩)),(12,.int .i64 x_6)] w9)))))
 (R L1 Ai2 [(6,.pointer (some ⟨b_1,0,none⟩)),(8,.pointer (some ⟨b_2,0,none⟩)),(11,.pointer (some ⟨b_3,0,none⟩)),(12,.int .i64 x_6)] w7))):=by kernel_rfl
theorem A56 (C:A4) (R:A6) (x6:Addr) (nonev:Addr) (v:Addr) (isv:Int) (h:H) :
 A8 PR Ad5 C R L1 Tryz.f110 100000 true Ai2 [(6,.pointer (some x6)),(8,.pointer (some nonev)),(11,.pointer (some v)),(12,.int .i64 isv)] h =
 cond (isv != 1)
 (gAgg nonev 16 h fun x=>ck (List.length x=16) (pAgg x6 x h fun w=>gAgg x6 16 w fun x_1=>some (.tuple ⟨[.agg ⟨x_1⟩,.int .i64 isv]⟩,w)))
 (gAgg v 16 h fun x_2=>ck (List.length x_2=16) (pAgg x6 x_2 h fun w1=>gAgg x6 16 w1 fun x_3=>some (.tuple ⟨[.agg ⟨x_3⟩,.int .i64 isv]⟩,w1))):=by kernel_rfl
def Du5:Cuts:={ globs:=0,loops:=[],regs:=[],plans:=[] }
def Ep3:List Item:=A7 Tryz.f113
theorem Hd1 (C:A4) (R:A6) (x:List Value) (fv0:Addr) (h:H) :
 A8 PR Du5 C R Bk3 Tryz.f113 100000 true Ep3 [(0,.agg ⟨x⟩),(1,.pointer (some fv0))] h =
 nw (.cells Ae4 false x) h fun b w=>gAgg ⟨b,0,none⟩ 17 w fun x_1=>bnd (C A22 [.agg ⟨x_1⟩] w) fun r w1=>aBool r fun x_2=>bnd (cond x_2 (gInt .i64 (Addr.add (Addr.add ⟨b,0,none⟩ 1) 2) w1 fun x_3=>gInt .i64 fv0 w1 fun x_4=>some (x_3==x_4,w1)) (some (false,w1))) fun c w2=>some (.bool c,w2):=by kernel_rfl
def Ap2:Cuts:={ globs:=0,loops:=[],regs:=[(8,[8,11,12])],plans:=[(7,⟨[0,1,2,3,4,5,6,7,8,9],[0,1,3,7,0,31,63,31,159,511],[(7,[5])],[]⟩)] }
def A96:List Item:=A7 Tryz.f115
def Av7:List Item:=stk [0,1,0,1,0,1,0,1,0,1,0,1,0,0] A96
theorem Ec9 (C:A4) (R:A6) (c:Option Addr) (r:List Value) (decode:Value) (h:H) :
 A8 PR Ap2 C R Q9 Tryz.f115 100000 true A96 [(0,.pointer c),(1,.agg ⟨r⟩),(2,decode)] h =
 nw (.cells E2 false r) h fun b w=>gAgg ⟨b,0,none⟩ 2 w fun x=>bnd (C O6 [.pointer c,.agg ⟨x⟩] w) fun r_1 w1=>as2 r_1 fun r_2 r_3=>aSl r_2 fun x_1 xn xc=>aBool r_3 fun x_2=>cond (!x_2)
 (some (.tuple ⟨[.int .i64 0,.int .i64 2]⟩,w1))
 (aFn decode fun g fi cp=>bnd (C g (fi++([.slice x_1 xn xc]++cp)) w1) fun r_4 w2=>as2 r_4 fun r_5 r_6=>aInt .i64 r_5 fun x_3=>aInt .i64 r_6 fun x_4=>cond (x_4==2)
 (aSome c fun p=>gMap (Addr.add p 3) w2 fun x_5=>gAgg ⟨b,0,none⟩ 2 w2 fun x_6=>keyN PR E2 (.agg ⟨x_6⟩) (opt x_5 fun r_7=>mapAt w2 r_7 fun es _=>opt (Am0 (.int .i64 0) (.agg ⟨x_6⟩) es) fun f=>aInt .i64 f.1 fun x_7=>keyN PR E2 (.agg ⟨x_6⟩) (opt x_5 fun r_8=>mapAt w2 r_8 fun es_1 cl_1=>opt (D09 (.int .i64 0) (.agg ⟨x_6⟩) es_1 cl_1) fun f_1=>aInt .i64 f_1.1 fun _=>lt (H.set w2 r_8 f_1.2.2) fun w3=>keyN PR E2 (.agg ⟨x_6⟩) (opt x_5 fun r_9=>mapAt w3 r_9 fun es_2 _=>opt (Am0 (.int .i64 0) (.agg ⟨x_6⟩) es_2) fun f_2=>aInt .i64 f_2.1 fun x_9=>same (.int .i64 x_7) (.int .i64 x_9) (opt x_5 fun r_10=>mapAt w3 r_10 fun es_3 cl_3=>opt (Bl9 (f_1.2.1:Int) es_3 0) fun i=>lt (H.set w3 r_10 (.map (modN (fun e=>{ e with val:=.int .i64 (IntKind.wrap .i64 (x_7+1)) }) i es_3) cl_3)) fun w4=>R Q9 Av7 [(8,.int .i64 0),(11,.int .i64 x_3),(12,.int .i64 x_4)] w4)))))
 (R Q9 Av7 [(8,.int .i64 0),(11,.int .i64 x_3),(12,.int .i64 x_4)] w2)):=by kernel_rfl
theorem Bn0 (C:A4) (R:A6) (nonev:Int) (v:Int) (isv:Int) (h:H) :
 A8 PR Ap2 C R Q9 Tryz.f115 100000 true Av7 [(8,.int .i64 nonev),(11,.int .i64 v),(12,.int .i64 isv)] h =
 cond (isv != 1)
 (some (.tuple ⟨[.int .i64 nonev,.int .i64 isv]⟩,h))
 (some (.tuple ⟨[.int .i64 v,.int .i64 isv]⟩,h)):=by kernel_rfl
def A90:Cuts:={ globs:=0,loops:=[],regs:=[],plans:=[] }
def By4:List Item:=A7 Tryz.f117
theorem Ei1 (C:A4) (R:A6) (g:Int) (h:H) :
 A8 PR A90 C R Af2 Tryz.f117 100000 true By4 [(0,.int .i64 g)] h =
 bnd (cond (decide (g<0)) (some (true,h)) (some (decide (g≥8),h))) fun c w=>cond c
 (some (.tuple ⟨[.slice none 0 0,.bool false]⟩,w))
 (nw (.cells A5 false [.int .u8 (IntKind.wrap .u8 (g)),.int .u8 211]) w fun b w1=>bnd (C Aa7 [.slice (some ⟨b,0,none⟩) 2 2] w1) fun r w2=>aInt .u8 r fun x=>nw (.cells A5 false [.int .u8 x,.int .u8 0]) w2 fun b_1 w3=>gCells (some ⟨b_1,0,none⟩) (2*1) w3 fun cs=>ckB (fitsOpen (some ⟨b,0,none⟩) A5 w3) (apd A5 1 (some ⟨b,0,none⟩) 2 2 2 cs w3 fun a an ac w4=>some (.tuple ⟨[.slice a an ac,.bool true]⟩,w4))):=by kernel_rfl
def Dj2:Cuts:={ globs:=0,loops:=[(3,[3,8,9])],regs:=[],plans:=[(4,⟨[0,1,2,3,4,5,6,7,8,9,10],[0,0,2,6,14,0,32,126,255,511,1023],[(5,[4])],[]⟩)] }
def Ed5:List Item:=A7 Tryz.f122
def Bs5:List Item:=stk [0,1,0,1,0,0,1,4,5] Ed5
theorem Hy1 (C:A4) (R:A6) (envs:Int) (h:H) :
 A8 PR Dj2 C R Ay3 Tryz.f122 100000 true Ed5 [(0,.int .i64 envs)] h =
 nw (.cells At6 false [.slice none 0 0]) h fun b w=>R Ay3 Bs5 [(3,.pointer (some ⟨b,0,none⟩)),(8,.int .i64 (mm2 false (mm2 true envs 0) 40)),(9,.int .i64 0)] w:=by kernel_rfl
theorem El4 (C:A4) (R:A6) (s:Addr) (x8:Int) (x9:Int) (h:H) :
 A8 PR Dj2 C R Ay3 Tryz.f122 100000 true Bs5 [(3,.pointer (some s)),(8,.int .i64 x8),(9,.int .i64 x9)] h =
 cond (decide (x9<x8))
 (gSl (Addr.add s 0) h fun x xn xc=>bnd (C P2 [.int .i64 32] h) fun r w=>aPtr r fun x_1=>gSl (Addr.add s 0) w fun x_2 xn_1 xc_1=>same (.slice x xn xc) (.slice x_2 xn_1 xc_1) (nw (.cells G8 false [.pointer x_1]) w fun b w1=>gCells (some ⟨b,0,none⟩) (1*1) w1 fun cs=>ckB (fitsOpen x G8 w1) (apd G8 1 x xn xc 1 cs w1 fun a an ac w2=>pV (Addr.add s 0) (.slice a an ac) w2 fun w3=>R Ay3 Bs5 [(3,.pointer (some s)),(8,.int .i64 x8),(9,.int .i64 (IntKind.wrap .i64 (x9+1)))] w3)))
 (some (.pointer (some s),h)):=by kernel_rfl
def Au8:Cuts:={ globs:=0,loops:=[(3,[5,20,21,22])],regs:=[],plans:=[(2,⟨[0,1,2,3,4,5,6,7,8,9,10,11,12,13,14],[0,1,3,7,0,16,0,64,192,448,960,2032,4095,8191,0],[],[]⟩)] }
def Be4:List Item:=A7 Tryz.f127
def Aj9:List Item:=stk [0,1,0,1,0,0,1,4,5] Be4
theorem El6 (C:A4) (R:A6) (q:Option Addr) (s:Int) (h:H) :
 A8 PR Au8 C R P5 Tryz.f127 100000 true Be4 [(0,.pointer q),(1,.int .i64 s)] h =
 aSome q fun p=>gSl (Addr.add p 0) h fun x _ xc=>aSome q fun p_1=>gSl (Addr.add p_1 0) h fun _ xn_1 _=>ckB (fitsOpen x Q4 h) (ck ((0:Int)≤mm2 false (mm2 true s 0) ((xn_1:Nat):Int)∧mm2 false (mm2 true s 0) ((xn_1:Nat):Int)≤((xc:Nat):Int)) (R P5 Aj9 [(5,.int .i64 0),(20,.slice (H0 x (decide (0<xc)) (0*1)) ((Int.toNat (mm2 false (mm2 true s 0) ((xn_1:Nat):Int)))-0) (xc-0)),(21,.int .i64 (((Int.toNat (mm2 false (mm2 true s 0) ((xn_1:Nat):Int)))-0:Nat):Int)),(22,.int .i64 0)] h)):=by kernel_rfl
theorem Bp3 (C:A4) (R:A6) (n:Int) (x20:Option Addr) (x20n x20c:Nat) (x21:Int) (x22:Int) (h:H) :
 A8 PR Au8 C R P5 Tryz.f127 100000 true Aj9 [(5,.int .i64 n),(20,.slice x20 x20n x20c),(21,.int .i64 x21),(22,.int .i64 x22)] h =
 cond (decide (x22<x21))
 (aSome x20 fun p=>ck ((0:Int)≤x22∧x22<((x20n:Nat):Int)) (gSl (Addr.add (B6 p) (Int.toNat x22*1)) h fun _ xn _=>R P5 Aj9 [(5,.int .i64 (IntKind.wrap .i64 (n+((xn:Nat):Int)))),(20,.slice x20 x20n x20c),(21,.int .i64 x21),(22,.int .i64 (IntKind.wrap .i64 (x22+1)))] h))
 (some (.int .i64 n,h)):=by kernel_rfl
def Dz9:Cuts:={ globs:=0,loops:=[(2,[0,1,5])],regs:=[],plans:=[] }
def Et8:List Item:=A7 Tryz.f134
def B08:List Item:=stk [0,1,0,0,1,4,5] Et8
theorem H35 (C:A4) (R:A6) (l:Option Addr) (ln lc:Nat) (s:Int) (h:H) :
 A8 PR Dz9 C R A74 Tryz.f134 100000 true Et8 [(0,.slice l ln lc),(1,.int .i64 s)] h =
 R A74 B08 [(0,.slice l ln lc),(1,.int .i64 s),(5,.int .i64 0)] h:=by kernel_rfl
theorem Ep6 (C:A4) (R:A6) (l:Option Addr) (ln lc:Nat) (s:Int) (i:Int) (h:H) :
 A8 PR Dz9 C R A74 Tryz.f134 100000 true B08 [(0,.slice l ln lc),(1,.int .i64 s),(5,.int .i64 i)] h =
 cond (decide (i<((ln:Nat):Int)))
 (aSome l fun p=>ck ((0:Int)≤i∧i<((ln:Nat):Int)) (gInt .i64 (Addr.add (B6 p) (Int.toNat i*1)) h fun x=>cond (x==s)
 (some (.bool true,h))
 (R A74 B08 [(0,.slice l ln lc),(1,.int .i64 s),(5,.int .i64 (IntKind.wrap .i64 (i+1)))] h)))
 (some (.bool false,h)):=by kernel_rfl
def Bv2:Cuts:={ globs:=0,loops:=[],regs:=[],plans:=[] }
def Du2:List Item:=A7 Tryz.f135
theorem Gb0 (C:A4) (R:A6) (s:Option Addr) (e:Int) (c:List Value) (h:H) :
 A8 PR Bv2 C R A92 Tryz.f135 100000 true Du2 [(0,.pointer s),(1,.int .i64 e),(2,.agg ⟨c⟩)] h =
 nw (.cells P4 false c) h fun b w=>bnd (C Aj6 [.pointer s,.int .i64 e] w) fun r w1=>aBool r fun x=>bnd (cond (!x) (some (true,w1)) (gInt .i64 (Addr.add ⟨b,0,none⟩ 1) w1 fun x_1=>some (decide (x_1<0),w1))) fun c_1 w2=>bnd (cond c_1 (some (true,w2)) (gInt .i64 (Addr.add ⟨b,0,none⟩ 1) w2 fun x_2=>some (decide (x_2>7),w2))) fun c_2 w3=>bnd (cond c_2 (some (true,w3)) (gInt .i64 (Addr.add ⟨b,0,none⟩ 2) w3 fun x_3=>some (decide (x_3<0),w3))) fun c_3 w4=>bnd (cond c_3 (some (true,w4)) (gInt .i64 (Addr.add ⟨b,0,none⟩ 2) w4 fun x_4=>some (decide (x_4>65536),w4))) fun c_4 w5=>bnd (cond c_4 (some (true,w5)) (gInt .i64 (Addr.add ⟨b,0,none⟩ 3) w5 fun x_5=>some (decide (x_5<0),w5))) fun c_5 w6=>bnd (cond c_5 (some (true,w6)) (gInt .i64 (Addr.add ⟨b,0,none⟩ 3) w6 fun x_6=>some (decide (x_6>65536),w6))) fun c_6 w7=>cond c_6
 (some (.tuple ⟨[.int .i64 0,.int .i64 1]⟩,w7))
 (pAgg (Addr.add ⟨b,0,none⟩ 4) [.int .i64 0,.int .i64 0] w7 fun w8=>gAgg ⟨b,0,none⟩ 6 w8 fun x_7=>bnd (C Ba7 [.pointer s,.int .i64 e,.agg ⟨x_7⟩] w8) fun r_1 w9=>as2 r_1 fun r_2 r_3=>aInt .i64 r_2 fun x_8=>aInt .i64 r_3 fun x_9=>some (.tuple ⟨[.int .i64 x_8,.int .i64 x_9]⟩,w9)):=by kernel_rfl
def Bo8:Cuts:={ globs:=0,loops:=[],regs:=[],plans:=[] }
def Di4:List Item:=A7 Tryz.f146
theorem E13 (C:A4) (R:A6) (k:Option Addr) (env:Int) (c:List Value) (h:H) :
 A8 PR Bo8 C R A30 Tryz.f146 100000 true Di4 [(0,.pointer k),(1,.int .i64 env),(2,.agg ⟨c⟩)] h =
 nw (.cells Az4 false c) h fun b w=>gInt .i64 (Addr.add ⟨b,0,none⟩ 3) w fun x=>bnd (C As4 [.pointer k,.int .i64 env,.int .i64 x] w) fun r w1=>as2 r fun r_1 r_2=>aPtr r_1 fun x_1=>aInt .i64 r_2 fun x_2=>cond (x_2 != 0)
 (some (.tuple ⟨[.int .i64 0,.int .i64 x_2]⟩,w1))
 (aSome k fun p=>gInt .i64 (Addr.add p 7) w1 fun x_3=>bnd (C D2 [.pointer x_1,.int .i64 env,.int .i64 x_3] w1) fun r_3 w2=>as2 r_3 fun r_4 r_5=>aInt .i64 r_4 fun x_4=>aBool r_5 fun _=>some (.tuple ⟨[.int .i64 x_4,.int .i64 0]⟩,w2)):=by kernel_rfl
def Dg1:Cuts:={ globs:=0,loops:=[],regs:=[],plans:=[] }
def Ej9:List Item:=A7 Tryz.f151
theorem Gy7 (C:A4) (R:A6) (atv:Int) (n:Int) (size:Int) (h:H) :
 A8 PR Dg1 C R Ag7 Tryz.f151 100000 true Ej9 [(0,.int .i64 atv),(1,.int .i64 n),(2,.int .i64 size)] h =
 bnd (cond (decide (atv≥0)) (some (decide (n≥0),h)) (some (false,h))) fun c w=>bnd (cond c (some (decide (atv≤size),w)) (some (false,w))) fun c_1 w1=>bnd (cond c_1 (some (decide (n≤(IntKind.wrap .i64 (size-atv))),w1)) (some (false,w1))) fun c_2 w2=>some (.bool c_2,w2):=by kernel_rfl
def A11:Cuts:={ globs:=0,loops:=[],regs:=[],plans:=[(2,⟨[0,1,2,3,4,5,6,7,8,9,10],[0,1,3,7,15,31,63,7,255,511,1023],[],[]⟩),(4,⟨[0,1,2,3,4,5,6,7,8,9,10,11,12,13,14,16,15,17],[0,1,3,7,0,16,48,112,0,256,0,1024,0,4096,16128,32767,0,131071],[],[]⟩),(6,⟨[0,1,2,3,4,5,6,7,8,9],[0,1,3,7,0,31,63,31,159,511],[(7,[5])],[]⟩)] }
def Bq9:List Item:=A7 Tryz.f159
theorem D45 (C:A4) (R:A6) (c:Option Addr) (r:List Value) (h:H) :
 A8 PR A11 C R O6 Tryz.f159 100000 true Bq9 [(0,.pointer c),(1,.agg ⟨r⟩)] h =
 nw (.cells E2 false r) h fun b w=>gAgg ⟨b,0,none⟩ 2 w fun x=>bnd (C Z3 [.pointer c,.agg ⟨x⟩] w) fun r_1 w1=>as2 r_1 fun r_2 r_3=>aAgg r_2 fun x_1=>aBool r_3 fun x_2=>nw (.cells B13 false [.int .i64 0,.int .i64 0,.int .i64 0]) w1 fun b_1 w2=>ck (List.length x_1=3) (pAgg ⟨b_1,0,none⟩ x_1 w2 fun w3=>bnd (cond (!x_2) (some (true,w3)) (aSome c fun p=>gMap (Addr.add p 3) w3 fun x_3=>gAgg ⟨b,0,none⟩ 2 w3 fun x_4=>keyN PR E2 (.agg ⟨x_4⟩) (opt x_3 fun r_4=>mapAt w3 r_4 fun es _=>opt (Am0 (.int .i64 0) (.agg ⟨x_4⟩) es) fun f=>aInt .i64 f.1 fun x_5=>some (decide (x_5>0),w3)))) fun c_1 w4=>cond c_1
 (some (.tuple ⟨[.slice none 0 0,.bool false]⟩,w4))
 (aSome c fun p_1=>gPtr (Addr.add p_1 0) w4 fun x_6=>aSome c fun p_2=>gInt .i64 (Addr.add p_2 1) w4 fun x_7=>gInt .i64 (Addr.add ⟨b_1,0,none⟩ 0) w4 fun x_8=>gInt .i64 (Addr.add ⟨b_1,0,none⟩ 1) w4 fun x_9=>gInt .i64 (Addr.add ⟨b_1,0,none⟩ 2) w4 fun x_10=>nw (.cells Ep9 false [.int .i64 0,.int .i64 0,.slice none 0 0]) w4 fun b_2 w5=>bnd (C S5 [.pointer x_6,.int .i64 x_7,.agg ⟨[.int .i64 1,.int .i64 x_8,.int .i64 x_9,.int .i64 x_10,.int .i64 0,.int .i64 0,.slice none 0 0]⟩] w5) fun r_5 w6=>aAgg r_5 fun x_11=>ck (List.length x_11=3) (pAgg ⟨b_2,0,none⟩ x_11 w6 fun w7=>gInt .i64 (Addr.add ⟨b_2,0,none⟩ 0) w7 fun x_12=>cond (x_12 != 0)
 (aSome c fun p_3=>gMap (Addr.add p_3 3) w7 fun x_13=>gAgg ⟨b,0,none⟩ 2 w7 fun x_14=>keyN PR E2 (.agg ⟨x_14⟩) (opt x_13 fun r_6=>mapAt w7 r_6 fun es_1 _=>opt (Am0 (.int .i64 0) (.agg ⟨x_14⟩) es_1) fun f_1=>aInt .i64 f_1.1 fun x_15=>keyN PR E2 (.agg ⟨x_14⟩) (opt x_13 fun r_7=>mapAt w7 r_7 fun es_2 cl_2=>opt (D09 (.int .i64 0) (.agg ⟨x_14⟩) es_2 cl_2) fun f_2=>aInt .i64 f_2.1 fun _=>lt (H.set w7 r_7 f_2.2.2) fun w8=>keyN PR E2 (.agg ⟨x_14⟩) (opt x_13 fun r_8=>mapAt w8 r_8 fun es_3 _=>opt (Am0 (.int .i64 0) (.agg ⟨x_14⟩) es_3) fun f_3=>aInt .i64 f_3.1 fun x_17=>same (.int .i64 x_15) (.int .i64 x_17) (opt x_13 fun r_9=>mapAt w8 r_9 fun es_4 cl_4=>opt (Bl9 (f_2.2.1:Int) es_4 0) fun i=>lt (H.set w8 r_9 (.map (modN (fun e=>{ e with val:=.int .i64 (IntKind.wrap .i64 (x_15+1)) }) i es_4) cl_4)) fun w9=>some (.tuple ⟨[.slice none 0 0,.bool false]⟩,w9))))))
 (gSl (Addr.add ⟨b_2,0,none⟩ 2) w7 fun x_18 xn xc=>some (.tuple ⟨[.slice x_18 xn xc,.bool true]⟩,w7))))):=by kernel_rfl
def Ag8:Cuts:={ globs:=0,loops:=[],regs:=[],plans:=[(4,⟨[0,1,2,3,4,10,5,6,7,8,9,11,12],[0,1,3,7,0,16,63,127,255,255,0,1535,4095],[(5,[3])],[]⟩)] }
def A19:List Item:=A7 Tryz.f162
theorem B53 (C:A4) (R:A6) (c:Option Addr) (b:Option Addr) (bn bc:Nat) (h:H) :
 A8 PR Ag8 C R V6 Tryz.f162 100000 true A19 [(0,.pointer c),(1,.slice b bn bc)] h =
 nw (.cells D7 false [.int .i64 0,.int .i64 0,.int .i64 0,.int .i64 0]) h fun b_1 w=>nw (.cells D7 false [.int .i64 0,.int .i64 0,.int .i64 0,.int .i64 0]) w fun b_2 w1=>aSome c fun p=>gFv (Addr.add p 2) w1 fun x=>isNilF x fun b_3=>bnd (cond b_3 (some (true,w1)) (aSome c fun p_1=>gInt .i64 (Addr.add p_1 0) w1 fun x_1=>some (((bn:Nat):Int) != x_1,w1))) fun c_1 w2=>cond c_1
 (gAgg ⟨b_2,0,none⟩ 4 w2 fun x_2=>ck (List.length x_2=4) (pAgg ⟨b_1,0,none⟩ x_2 w2 fun w3=>gAgg ⟨b_1,0,none⟩ 4 w3 fun x_3=>some (.tuple ⟨[.agg ⟨x_3⟩,.bool false]⟩,w3)))
 (aSome c fun p_2=>gFv (Addr.add p_2 2) w2 fun x_4=>nw (.cells D7 false [.int .i64 0,.int .i64 0,.int .i64 0,.int .i64 0]) w2 fun b_4 w4=>bnd (C G6 [.slice b bn bc] w4) fun r w5=>aSl r fun x_5 xn xc=>gFv (Addr.add p_2 2) w5 fun x_6=>Bm4 (x_4) (x_6) (aFn x_4 fun g fi cp=>bnd (C g (fi++([.slice x_5 xn xc]++cp)) w5) fun r_1 w6=>as2 r_1 fun r_2 r_3=>aAgg r_2 fun x_7=>aBool r_3 fun x_8=>ck (List.length x_7=4) (pAgg ⟨b_4,0,none⟩ x_7 w6 fun w7=>cond (!x_8)
 (gAgg ⟨b_2,0,none⟩ 4 w7 fun x_9=>ck (List.length x_9=4) (pAgg ⟨b_1,0,none⟩ x_9 w7 fun w8=>gAgg ⟨b_1,0,none⟩ 4 w8 fun x_10=>some (.tuple ⟨[.agg ⟨x_10⟩,.bool false]⟩,w8)))
 (gAgg ⟨b_4,0,none⟩ 4 w7 fun x_11=>ck (List.length x_11=4) (pAgg ⟨b_1,0,none⟩ x_11 w7 fun w9=>gAgg ⟨b_1,0,none⟩ 4 w9 fun x_12=>some (.tuple ⟨[.agg ⟨x_12⟩,.bool true]⟩,w9)))))):=by kernel_rfl
def Dh0:Cuts:={ globs:=0,loops:=[],regs:=[],plans:=[] }
def Ej2:List Item:=A7 Tryz.f168
theorem Gy1 (C:A4) (R:A6)  (h:H) :
 A8 PR Dh0 C R Bc6 Tryz.f168 100000 true Ej2 [] h =
 bnd (C Ao8 [.int .i64 24,.func (.func O1) ⟨[]⟩ ⟨[]⟩,.func (.func W9) ⟨[]⟩ ⟨[]⟩] h) fun r w=>aPtr r fun x=>some (.pointer x,w):=by kernel_rfl
def B64:Cuts:={ globs:=0,loops:=[],regs:=[],plans:=[] }
def D87:List Item:=A7 Tryz.f175
theorem Gk8 (C:A4) (R:A6) (s:Int) (fv0:Addr) (h:H) :
 A8 PR B64 C R G9 Tryz.f175 100000 true D87 [(0,.int .i64 s),(1,.pointer (some fv0))] h =
 bnd (cond (decide (s<0)) (some (true,h)) (gSl (Addr.add fv0 0) h fun _ xn _=>some (decide (s≥((xn:Nat):Int)),h))) fun c w=>some (.bool c,w):=by kernel_rfl
def B98:Cuts:={ globs:=0,loops:=[],regs:=[],plans:=[] }
def D54:List Item:=A7 Tryz.f179
theorem Go1 (C:A4) (R:A6) (m:Option Addr) (h:H) :
 A8 PR B98 C R A54 Tryz.f179 100000 true D54 [(0,.pointer m)] h =
 aSome m fun p=>gSl (Addr.add p 0) h fun _ xn _=>some (.int .i64 ((xn:Nat):Int),h):=by kernel_rfl
def Bv3:Cuts:={ globs:=0,loops:=[],regs:=[],plans:=[(1,⟨[0,1,2,3,4,5,6,7,8,9,10,11,12,13],[0,1,3,7,0,31,63,0,255,511,1023,1023,2047,8191],[],[]⟩)] }
def Do0:List Item:=A7 Tryz.f182
theorem Ga8 (C:A4) (R:A6) (s:Option Addr) (env:Int) (c:List Value) (h:H) :
 A8 PR Bv3 C R Au1 Tryz.f182 100000 true Do0 [(0,.pointer s),(1,.int .i64 env),(2,.agg ⟨c⟩)] h =
 nw (.cells P4 false c) h fun b w=>aSome s fun p=>gSl (Addr.add p 0) w fun x xn _=>aSome x fun p_1=>ck ((0:Int)≤env∧env<((xn:Nat):Int)) (gPtr (Addr.add (B6 p_1) (Int.toNat env*1)) w fun x_1=>gAgg ⟨b,0,none⟩ 6 w fun x_2=>bnd (C I2 [.pointer x_1,.agg ⟨x_2⟩] w) fun r w1=>as2 r fun r_1 r_2=>aInt .i64 r_1 fun x_3=>aBool r_2 fun x_4=>cond (!x_4)
 (some (.tuple ⟨[.int .i64 0,.int .i64 4]⟩,w1))
 (some (.tuple ⟨[.int .i64 x_3,.int .i64 0]⟩,w1))):=by kernel_rfl
def Aa2:Cuts:={ globs:=0,loops:=[(3,[0,3,9,10,11])],regs:=[],plans:=[] }
def Ak7:List Item:=A7 Tryz.f184
def N8:List Item:=stk [0,1,0,1,0,0,1,4,5] Ak7
theorem De2 (C:A4) (R:A6) (t:Option Addr) (h:H) :
 A8 PR Aa2 C R G1 Tryz.f184 100000 true Ak7 [(0,.pointer t)] h =
 aSome t fun p=>gSl (Addr.add p 0) h fun x xn xc=>R G1 N8 [(0,.pointer t),(3,.slice none 0 0),(9,.slice x xn xc),(10,.int .i64 ((xn:Nat):Int)),(11,.int .i64 0)] h:=by kernel_rfl
theorem Ax6 (C:A4) (R:A6) (t:Option Addr) (out:Option Addr) (outn outc:Nat) (x9:Option Addr) (x9n x9c:Nat) (x10:Int) (x11:Int) (h:H) :
 A8 PR Aa2 C R G1 Tryz.f184 100000 true N8 [(0,.pointer t),(3,.slice out outn outc),(9,.slice x9 x9n x9c),(10,.int .i64 x10),(11,.int .i64 x11)] h =
 cond (decide (x11<x10))
 (aSome x9 fun p=>ck ((0:Int)≤x11∧x11<((x9n:Nat):Int)) (gAgg (Addr.add (B6 p) (Int.toNat x11*8)) 8 h fun x=>nw (.cells Al8 false [.int .i64 0,.int .i64 0,.int .i64 0,.int .i64 0,.int .i64 0,.int .i64 0,.int .i64 0,.bool false]) h fun b w=>ck (List.length x=8) (pAgg ⟨b,0,none⟩ x w fun w1=>gBool (Addr.add ⟨b,0,none⟩ 7) w1 fun x_1=>cond x_1
 (bnd (C N6 [.pointer t,.int .i64 x11] w1) fun r w2=>aInt .i64 r fun x_2=>nw (.cells B8 false [.int .i64 x_2]) w2 fun b_1 w3=>gCells (some ⟨b_1,0,none⟩) (1*1) w3 fun cs=>ckB (fitsOpen out B8 w3) (apd B8 1 out outn outc 1 cs w3 fun a an ac w4=>R G1 N8 [(0,.pointer t),(3,.slice a an ac),(9,.slice x9 x9n x9c),(10,.int .i64 x10),(11,.int .i64 (IntKind.wrap .i64 (x11+1)))] w4))
 (R G1 N8 [(0,.pointer t),(3,.slice out outn outc),(9,.slice x9 x9n x9c),(10,.int .i64 x10),(11,.int .i64 (IntKind.wrap .i64 (x11+1)))] w1))))
 (some (.slice out outn outc,h)):=by kernel_rfl
def A02:Cuts:={ globs:=0,loops:=[],regs:=[],plans:=[(6,⟨[0,1,2,3,4,5,6,7,8,9,10,11,12,13,14,15,16,17,18,19,20,21,22,23,24,25,26,27,28,29,30,31,32,33,34,35],[0,1,3,7,15,31,63,127,127,383,1023,2047,4095,8191,8191,24575,8191,122879,262143,524287,1048575,2097151,4194303,8388607,16777215,33554431,67108863,134217727,67108863,335544319,872415231,1946157055,4093640703,8589934591,17179869183,34359738367],[],[]⟩),(8,⟨[0,1,2,3,4,5,6,7,8,9],[0,1,3,7,0,16,63,127,0,511],[],[]⟩)] }
def Bq4:List Item:=A7 Tryz.f186
theorem D23 (C:A4) (R:A6) (r:Option Addr) (env:Int) (name:Int) (right:Int) (atv:Int) (n:Int) (h:H) :
 A8 PR A02 C R Aa8 Tryz.f186 100000 true Bq4 [(0,.pointer r),(1,.int .i64 env),(2,.int .i64 name),(3,.int .i64 right),(4,.int .i64 atv),(5,.int .i64 n)] h =
 aSome r fun p=>gPtr (Addr.add p 1) h fun x=>bnd (C At5 [.pointer x,.int .i64 env,.int .i64 name] h) fun r_1 w=>as2 r_1 fun r_2 r_3=>aAgg r_2 fun x_1=>aInt .i64 r_3 fun x_2=>nw (.cells P4 false [.int .i64 0,.int .i64 0,.int .i64 0,.int .i64 0,.int .i64 0,.int .i64 0]) w fun b w1=>ck (List.length x_1=6) (pAgg ⟨b,0,none⟩ x_1 w1 fun w2=>cond (x_2 != 0)
 (some (.tuple ⟨[.int .i64 0,.int .i64 x_2]⟩,w2))
 (gInt .i64 (Addr.add ⟨b,0,none⟩ 1) w2 fun x_3=>cond ((M7 .i64 x_3 right)==0)
 (some (.tuple ⟨[.int .i64 0,.int .i64 3]⟩,w2))
 (bnd (cond (decide (atv<0)) (some (true,w2)) (some (decide (n<0),w2))) fun c w3=>bnd (cond c (some (true,w3)) (gInt .i64 (Addr.add ⟨b,0,none⟩ 3) w3 fun x_4=>some (decide (atv>x_4),w3))) fun c_1 w4=>bnd (cond c_1 (some (true,w4)) (gInt .i64 (Addr.add ⟨b,0,none⟩ 3) w4 fun x_5=>some (decide (n>(IntKind.wrap .i64 (x_5-atv))),w4))) fun c_2 w5=>bnd (cond c_2 (some (true,w5)) (gInt .i64 (Addr.add ⟨b,0,none⟩ 0) w5 fun x_6=>some (decide (x_6<0),w5))) fun c_3 w6=>bnd (cond c_3 (some (true,w6)) (gInt .i64 (Addr.add ⟨b,0,none⟩ 0) w6 fun x_7=>aSome r fun p_1=>gSl (Addr.add p_1 2) w6 fun _ xn _=>some (decide (x_7≥((xn:Nat):Int)),w6))) fun c_4 w7=>cond c_4
 (some (.tuple ⟨[.int .i64 0,.int .i64 1]⟩,w7))
 (aSome r fun p_2=>gSl (Addr.add p_2 2) w7 fun x_9 xn_1 _=>gInt .i64 (Addr.add ⟨b,0,none⟩ 0) w7 fun x_10=>aSome x_9 fun p_3=>ck ((0:Int)≤x_10∧x_10<((xn_1:Nat):Int)) (gAgg (Addr.add (B6 p_3) (Int.toNat x_10*2)) 2 w7 fun x_11=>nw (.cells Aw1 false [.int .i64 0,.int .i64 0]) w7 fun b_1 w8=>ck (List.length x_11=2) (pAgg ⟨b_1,0,none⟩ x_11 w8 fun w9=>gInt .i64 (Addr.add ⟨b,0,none⟩ 2) w9 fun x_12=>gInt .i64 (Addr.add ⟨b_1,0,none⟩ 1) w9 fun x_13=>bnd (cond (decide ((IntKind.wrap .i64 (x_12+atv))>x_13)) (some (true,w9)) (gInt .i64 (Addr.add ⟨b_1,0,none⟩ 1) w9 fun x_14=>gInt .i64 (Addr.add ⟨b,0,none⟩ 2) w9 fun x_15=>some (decide (n>(IntKind.wrap .i64 ((IntKind.wrap .i64 (x_14-x_15))-atv))),w9))) fun c_5 w10=>cond c_5
 (some (.tuple ⟨[.int .i64 0,.int .i64 1]⟩,w10))
 (gInt .i64 (Addr.add ⟨b_1,0,none⟩ 0) w10 fun x_16=>gInt .i64 (Addr.add ⟨b,0,none⟩ 2) w10 fun x_17=>some (.tuple ⟨[.int .i64 (IntKind.wrap .i64 ((IntKind.wrap .i64 (x_16+x_17))+atv)),.int .i64 0]⟩,w10)))))))):=by kernel_rfl
def Bv1:Cuts:={ globs:=0,loops:=[],regs:=[],plans:=[] }
def Dq3:List Item:=A7 Tryz.f192
theorem Gc3 (C:A4) (R:A6) (q:Option Addr) (s:Int) (h:H) :
 A8 PR Bv1 C R Ai5 Tryz.f192 100000 true Dq3 [(0,.pointer q),(1,.int .i64 s)] h =
 bnd (cond (decide (s≥0)) (aSome q fun p=>gSl (Addr.add p 0) h fun _ xn _=>some (decide (s<((xn:Nat):Int)),h)) (some (false,h))) fun c w=>some (.bool c,w):=by kernel_rfl
def Bw2:Cuts:={ globs:=0,loops:=[],regs:=[],plans:=[(1,⟨[0,1,2,3,4,5,6,7,8,9,10,11,12,13,14,15,16,17,18,19,20,21,22,23,24,25,26,27,28],[0,1,3,7,7,23,55,119,247,511,1023,2047,4095,8191,16383,32767,4095,131071,262143,4095,528383,1576959,3674111,4095,16257023,33034239,67108863,134217727,268435455],[],[]⟩)] }
def Dp5:List Item:=A7 Tryz.f194
theorem Gb6 (C:A4) (R:A6) (k:Option Addr) (env:Int) (n:Int) (h:H) :
 A8 PR Bw2 C R As4 Tryz.f194 100000 true Dp5 [(0,.pointer k),(1,.int .i64 env),(2,.int .i64 n)] h =
 bnd (cond (decide (n<0)) (some (true,h)) (aSome k fun p=>gSl (Addr.add p 6) h fun _ xn _=>some (decide (n≥((xn:Nat):Int)),h))) fun c w=>bnd (cond c (some (true,w)) (aSome k fun p_1=>gSl (Addr.add p_1 1) w fun x_1 xn_1 _=>aSome x_1 fun p_2=>ck ((0:Int)≤n∧n<((xn_1:Nat):Int)) (gSl (Addr.add (B6 p_2) (Int.toNat n*1)) w fun x_2 xn_2 xc_2=>aSome k fun p_3=>gSl (Addr.add p_3 0) w fun x_3 xn_3 _=>aSome x_3 fun p_4=>ck ((0:Int)≤env∧env<((xn_3:Nat):Int)) (gInt .i64 (Addr.add (B6 p_4) (Int.toNat env*1)) w fun x_4=>bnd (C N0 [.slice x_2 xn_2 xc_2,.int .i64 x_4] w) fun r w1=>aBool r fun x_5=>some (!x_5,w1))))) fun c_1 w2=>cond c_1
 (some (.tuple ⟨[.pointer none,.int .i64 8]⟩,w2))
 (aSome k fun p_5=>gSl (Addr.add p_5 6) w2 fun x_6 xn_4 _=>aSome x_6 fun p_6=>ck ((0:Int)≤n∧n<((xn_4:Nat):Int)) (gPtr (Addr.add (B6 p_6) (Int.toNat n*1)) w2 fun x_7=>some (.tuple ⟨[.pointer x_7,.int .i64 0]⟩,w2))):=by kernel_rfl
def Bv8:Cuts:={ globs:=0,loops:=[],regs:=[],plans:=[] }
def Dq1:List Item:=A7 Tryz.f197
theorem E82 (C:A4) (R:A6) (n:Option Addr) (name:Int) (h:H) :
 A8 PR Bv8 C R A82 Tryz.f197 100000 true Dq1 [(0,.pointer n),(1,.int .i64 name)] h =
 bnd (cond (decide (name≥0)) (aSome n fun p=>gSl (Addr.add p 0) h fun _ xn _=>some (decide ((M7 .i64 name 255)<((xn:Nat):Int)),h)) (some (false,h))) fun c w=>bnd (cond c (aSome n fun p_1=>gSl (Addr.add p_1 0) w fun x_1 xn_1 _=>aSome x_1 fun p_2=>ck ((0:Int)≤M7 .i64 name 255∧M7 .i64 name 255<((xn_1:Nat):Int)) (gBool (Addr.add (Addr.add (B6 p_2) (Int.toNat (M7 .i64 name 255)*2)) 1) w fun x_2=>some (x_2,w))) (some (false,w))) fun c_1 w1=>bnd (cond c_1 (aSome n fun p_3=>gSl (Addr.add p_3 0) w1 fun x_3 xn_2 _=>aSome x_3 fun p_4=>ck ((0:Int)≤M7 .i64 name 255∧M7 .i64 name 255<((xn_2:Nat):Int)) (gInt .i64 (Addr.add (Addr.add (B6 p_4) (Int.toNat (M7 .i64 name 255)*2)) 0) w1 fun x_4=>some (x_4==(Int.fdiv name (2 ^ 8)),w1))) (some (false,w1))) fun c_2 w2=>some (.bool c_2,w2):=by kernel_rfl
def Ab4:Cuts:={ globs:=0,loops:=[],regs:=[],plans:=[] }
def Ar2:List Item:=A7 Tryz.f201
theorem Bp2 (C:A4) (R:A6) (s:Option Addr) (sn sc:Nat) (f:Value) (h:H) :
 A8 PR Ab4 C R Q1 Tryz.f201 100000 true Ar2 [(0,.slice s sn sc),(1,f)] h =
 bnd (C G2 [.slice s sn sc,f] h) fun r w=>aInt .i64 r fun x=>some (.bool (decide (x≥0)),w):=by kernel_rfl
def D51:Cuts:={ globs:=0,loops:=[],regs:=[],plans:=[(1,⟨[0,1,2,3,4,5,6,7,8,9,10,11,12,13,14,15,16,17,18],[0,1,3,7,0,16,48,112,0,256,768,1792,0,4096,12288,28672,65535,0,262143],[],[]⟩),(3,⟨[0,1,2,3,4,5,6,7,8],[0,0,2,6,6,30,62,63,255],[(5,[0])],[]⟩)] }
def E54:List Item:=A7 Tryz.f205
theorem Hn5 (C:A4) (R:A6) (b:Option Addr) (bn bc:Nat) (h:H) :
 A8 PR D51 C R Ar6 Tryz.f205 100000 true E54 [(0,.slice b bn bc)] h =
 nw (.cells D7 false [.int .i64 0,.int .i64 0,.int .i64 0,.int .i64 0]) h fun b_1 w=>aSome b fun p=>ck ((0:Int)≤0∧0<((bn:Nat):Int)) (gInt .u8 (Addr.add (B6 p) (Int.toNat 0*1)) w fun x=>aSome b fun p_1=>ck ((0:Int)≤1∧1<((bn:Nat):Int)) (gInt .u8 (Addr.add (B6 p_1) (Int.toNat 1*1)) w fun x_1=>aSome b fun p_2=>ck ((0:Int)≤2∧2<((bn:Nat):Int)) (gInt .u8 (Addr.add (B6 p_2) (Int.toNat 2*1)) w fun x_2=>aSome b fun p_3=>ck ((0:Int)≤3∧3<((bn:Nat):Int)) (gInt .u8 (Addr.add (B6 p_3) (Int.toNat 3*1)) w fun x_3=>nw (.cells D7 false [.int .i64 0,.int .i64 0,.int .i64 0,.int .i64 0]) w fun b_2 w1=>pAgg ⟨b_2,0,none⟩ [.int .i64 (IntKind.wrap .i64 (x)),.int .i64 (IntKind.wrap .i64 (x_1)),.int .i64 (IntKind.wrap .i64 (x_2)),.int .i64 (IntKind.wrap .i64 (x_3))] w1 fun w2=>gAgg ⟨b_2,0,none⟩ 4 w2 fun x_4=>bnd (C A43 [.agg ⟨x_4⟩] w2) fun r w3=>as2 r fun r_1 r_2=>aSl r_1 fun x_5 xn xc=>aBool r_2 fun x_6=>gAgg ⟨b_2,0,none⟩ 4 w3 fun x_7=>bnd (cond x_6 (bnd (C D6 [.slice x_5 xn xc,.slice b bn bc] w3) fun r_3 w4=>aBool r_3 fun x_8=>gAgg ⟨b_2,0,none⟩ 4 w4 fun x_9=>same (.agg ⟨x_7⟩) (.agg ⟨x_9⟩) (some (x_8,w4))) (some (false,w3))) fun c w5=>ck (List.length x_7=4) (pAgg ⟨b_1,0,none⟩ x_7 w5 fun w6=>gAgg ⟨b_1,0,none⟩ 4 w6 fun x_10=>some (.tuple ⟨[.agg ⟨x_10⟩,.bool c]⟩,w6)))))):=by kernel_rfl
def As6:Cuts:={ globs:=0,loops:=[],regs:=[],plans:=[] }
def Bi7:List Item:=A7 Tryz.f220
theorem Dv0 (C:A4) (R:A6) (t:Option Addr) (name:Int) (h:H) :
 A8 PR As6 C R Ae5 Tryz.f220 100000 true Bi7 [(0,.pointer t),(1,.int .i64 name)] h =
 bnd (cond (decide (name<0)) (some (true,h)) (aSome t fun p=>gSl (Addr.add p 0) h fun _ xn _=>some (decide ((M7 .i64 name 255)≥((xn:Nat):Int)),h))) fun c w=>bnd (cond c (some (true,w)) (aSome t fun p_1=>gSl (Addr.add p_1 0) w fun x_1 xn_1 _=>aSome x_1 fun p_2=>ck ((0:Int)≤M7 .i64 name 255∧M7 .i64 name 255<((xn_1:Nat):Int)) (gBool (Addr.add (Addr.add (B6 p_2) (Int.toNat (M7 .i64 name 255)*8)) 7) w fun x_2=>some (!x_2,w)))) fun c_1 w1=>bnd (cond c_1 (some (true,w1)) (bnd (C N6 [.pointer t,.int .i64 (M7 .i64 name 255)] w1) fun r w2=>aInt .i64 r fun x_3=>some (x_3 != name,w2))) fun c_2 w3=>cond c_2
 (some (.pointer none,w3))
 (aSome t fun p_3=>gSl (Addr.add p_3 0) w3 fun x_4 xn_2 _=>aSome x_4 fun p_4=>ck ((0:Int)≤M7 .i64 name 255∧M7 .i64 name 255<((xn_2:Nat):Int)) (some (.pointer (some (Addr.add (B6 p_4) (Int.toNat (M7 .i64 name 255)*8))),w3))):=by kernel_rfl
def Ds2:Cuts:={ globs:=0,loops:=[],regs:=[],plans:=[] }
def Et4:List Item:=A7 Tryz.f226
theorem G45 (C:A4) (R:A6) (b:Option Addr) (bn bc:Nat) (atv:Int) (n:Int) (h:H) :
 A8 PR Ds2 C R Bh8 Tryz.f226 100000 true Et4 [(0,.slice b bn bc),(1,.int .i64 atv),(2,.int .i64 n)] h =
 bnd (cond (decide (atv<0)) (some (true,h)) (some (decide (atv>(IntKind.wrap .i64 (((bn:Nat):Int)-2))),h))) fun c w=>bnd (cond c (some (true,w)) (some (decide (n<0),w))) fun c_1 w1=>bnd (cond c_1 (some (true,w1)) (some (decide (n>65535),w1))) fun c_2 w2=>cond c_2
 (some (.bool false,w2))
 (aSome b fun p=>ck ((0:Int)≤atv∧atv<((bn:Nat):Int)) (pV (Addr.add (B6 p) (Int.toNat atv*1)) (.int .u8 (IntKind.wrap .u8 (Int.fdiv n (2 ^ 8)))) w2 fun w3=>aSome b fun p_1=>ck ((0:Int)≤IntKind.wrap .i64 (atv+1)∧IntKind.wrap .i64 (atv+1)<((bn:Nat):Int)) (pV (Addr.add (B6 p_1) (Int.toNat (IntKind.wrap .i64 (atv+1))*1)) (.int .u8 (IntKind.wrap .u8 (n))) w3 fun w4=>some (.bool true,w4)))):=by kernel_rfl
def Dv4:Cuts:={ globs:=0,loops:=[],regs:=[],plans:=[] }
def Eq2:List Item:=A7 Tryz.f231
theorem G71 (C:A4) (R:A6) (f:Int) (h:H) :
 A8 PR Dv4 C R Bh0 Tryz.f231 100000 true Eq2 [(0,.int .i64 f)] h =
 bnd (cond (decide (f<0)) (some (true,h)) (some (decide (f>12),h))) fun c w=>some (.bool c,w):=by kernel_rfl
end
end Go.EQ

set_option maxRecDepth 100000
namespace Go.EQ
open Go Go.NN Go.Proofs
variable (C : A4) (R : A6)
noncomputable section
def Ij3:List (Nat × Cuts):=[(8,A28),(9,B39),(10,Df7),(11,Ef1),(12,De9),(13,Df1),(14,Dp6),(17,D26),(19,D10),(20,Du4),(21,Dv1),(22,Dg2),(23,Dq0),(24,Dp1),(25,A29),(26,B76),(27,B89),(28,De8),(29,A35),(30,Bn8),(31,Eh1),(32,D37),(33,Dk1),(34,Dq9),(35,A04),(36,Do1),(37,A10),(38,Aq7),(39,An7),(40,Eh4),(41,Ap4),(42,Gb9),(43,Dr7),(44,Ea1),(46,Dg0),(47,Dk0),(48,D53),(49,D35),(52,Al2),(53,D48),(54,Db3),(55,A58),(56,D02),(57,D28),(59,S8),(60,A14),(61,B94),(62,Dv3),(63,Ef0),(64,A13),(65,Aq2),(66,Av5),(67,Am5),(68,A51),(69,Ba5),(70,As1),(71,Dg4),(72,Bi2),(73,Dl0),(74,Bn7),(75,Bh9),(77,Ba8),(86,Bj1),(87,Ed4),(88,Df0),(89,Ad9),(90,B87),(91,B93),(92,Ad6),(93,B82),(94,Df2),(95,Df4),(96,Av6),(97,B79),(98,B83),(99,B78),(100,Du0),(102,Er4),(103,Dg9),(104,B45),(105,Ao4),(106,Af7),(109,A08),(110,Ad5),(111,B95),(112,By3),(113,Du5),(114,Bp0),(115,Ap2),(116,Bo3),(117,A90),(118,Bk5),(119,Df5),(120,At3),(121,Er9),(122,Dj2),(123,Da0),(124,Dt1),(125,Eg4),(126,A80),(127,Au8),(128,Bv0),(129,Be7),(130,Ax3),(131,Bf9),(132,B73),(133,Bi0),(134,Dz9),(135,Bv2),(136,Bo7),(137,Bh5),(138,Bu0),(139,A49),(140,A07),(141,A53),(142,Bh6),(144,Bd8),(145,Bh7),(146,Bo8),(147,Bn6),(148,A95),(149,Bv9),(150,Bv5),(151,Dg1),(152,Bu3),(159,A11),(160,De7),(161,Dh2),(162,Ag8),(163,Dp8),(164,Ah1),(165,Ah0),(166,Av4),(167,Ah6),(168,Dh0),(169,Ag9),(171,D36),(173,Ah2),(174,Da7),(175,B64),(176,Ae2),(177,Ds4),(178,Au9),(179,B98),(180,Bk1),(181,B37),(182,Bv3),(183,Bg5),(184,Aa2),(185,A97),(186,A02),(187,B96),(188,B43),(189,Bv6),(192,Bv1),(193,Bj0),(194,Bw2),(195,U1),(196,Bo4),(197,Bv8),(198,Ba2),(201,Ab4),(202,B21),(203,Ba6),(204,D52),(205,D51),(206,Am4),(207,A94),(208,Ed3),(209,Ed1),(210,A93),(211,Bd3),(212,Bq8),(213,Z2),(214,Ad2),(215,Am7),(216,Dq4),(217,Ap1),(220,As6),(221,Bo1),(222,U3),(223,Eh5),(224,Ac0),(225,Ec4),(226,Ds2),(227,Dt0),(230,Dt9),(231,Dv4)]
def cutsOf:FuncId→Cuts:=Gj8 Ij3
noncomputable abbrev A9:A4:=NN.Call PR cutsOf
noncomputable abbrev H3:A6:=NN.Jump PR cutsOf
theorem Dh9:FnOk PR cutsOf I5 Tryz.f8 A28 Bn4 2:=⟨Tryz.func8,⟨_,rfl⟩,by kernel_rfl,rfl,rfl,by kernel_rfl⟩
theorem B18:FnOk PR cutsOf Af1 Tryz.f9 B39 Du6 1:=⟨Tryz.func9,⟨_,rfl⟩,by kernel_rfl,rfl,rfl,by kernel_rfl⟩
theorem G04:FnOk PR cutsOf Bc5 Tryz.f10 Df7 Ek5 0:=⟨Tryz.func10,⟨_,rfl⟩,by kernel_rfl,rfl,rfl,by kernel_rfl⟩
theorem H00:FnOk PR cutsOf Dj7 Tryz.f11 Ef1 Gk7 2:=⟨Tryz.func11,⟨_,rfl⟩,by kernel_rfl,rfl,rfl,by kernel_rfl⟩
theorem Gz1:FnOk PR cutsOf Aw0 Tryz.f12 De9 Ek3 0:=⟨Tryz.func12,⟨_,rfl⟩,by kernel_rfl,rfl,rfl,by kernel_rfl⟩
theorem G00:FnOk PR cutsOf Bt4 Tryz.f13 Df1 Ej3 4:=⟨Tryz.func13,⟨_,rfl⟩,by kernel_rfl,rfl,rfl,by kernel_rfl⟩
theorem Eq0:FnOk PR cutsOf Ab7 Tryz.f14 Dp6 En2 4:=⟨Tryz.func14,⟨_,rfl⟩,by kernel_rfl,rfl,rfl,by kernel_rfl⟩
theorem Hj5:FnOk PR cutsOf Da3 Tryz.f17 D26 E65 2:=⟨Tryz.func17,⟨_,rfl⟩,by kernel_rfl,rfl,rfl,by kernel_rfl⟩
theorem Hn9:FnOk PR cutsOf Aj8 Tryz.f19 D10 E39 2:=⟨Tryz.func19,⟨_,rfl⟩,by kernel_rfl,rfl,rfl,by kernel_rfl⟩
theorem Hf4:FnOk PR cutsOf B12 Tryz.f20 Du4 Em6 4:=⟨Tryz.func20,⟨_,rfl⟩,by kernel_rfl,rfl,rfl,by kernel_rfl⟩
theorem G92:FnOk PR cutsOf Bj6 Tryz.f21 Dv1 Eo7 2:=⟨Tryz.func21,⟨_,rfl⟩,by kernel_rfl,rfl,rfl,by kernel_rfl⟩
theorem Gz3:FnOk PR cutsOf Aw8 Tryz.f22 Dg2 Ek1 3:=⟨Tryz.func22,⟨_,rfl⟩,by kernel_rfl,rfl,rfl,by kernel_rfl⟩
theorem Hc9:FnOk PR cutsOf Bi6 Tryz.f23 Dq0 Eo4 1:=⟨Tryz.func23,⟨_,rfl⟩,by kernel_rfl,rfl,rfl,by kernel_rfl⟩
theorem Hf9:FnOk PR cutsOf B00 Tryz.f24 Dp1 En1 0:=⟨Tryz.func24,⟨_,rfl⟩,by kernel_rfl,rfl,rfl,by kernel_rfl⟩
theorem Bn9:FnOk PR cutsOf P7 Tryz.f25 A29 Bo2 1:=⟨Tryz.func25,⟨_,rfl⟩,by kernel_rfl,rfl,rfl,by kernel_rfl⟩
theorem Gn6:FnOk PR cutsOf S5 Tryz.f26 B76 D57 3:=⟨Tryz.func26,⟨_,rfl⟩,by kernel_rfl,rfl,rfl,by kernel_rfl⟩
theorem Gl0:FnOk PR cutsOf As3 Tryz.f27 B89 D56 3:=⟨Tryz.func27,⟨_,rfl⟩,by kernel_rfl,rfl,rfl,by kernel_rfl⟩
theorem Gx9:FnOk PR cutsOf Bc9 Tryz.f28 De8 Ej1 0:=⟨Tryz.func28,⟨_,rfl⟩,by kernel_rfl,rfl,rfl,by kernel_rfl⟩
theorem Bo0:FnOk PR cutsOf U0 Tryz.f29 A35 Bo9 1:=⟨Tryz.func29,⟨_,rfl⟩,by kernel_rfl,rfl,rfl,by kernel_rfl⟩
theorem E31:FnOk PR cutsOf A25 Tryz.f30 Bn8 Dh4 1:=⟨Tryz.func30,⟨_,rfl⟩,by kernel_rfl,rfl,rfl,by kernel_rfl⟩
theorem Hs9:FnOk PR cutsOf Ba0 Tryz.f31 Eh1 Ge9 1:=⟨Tryz.func31,⟨_,rfl⟩,by kernel_rfl,rfl,rfl,by kernel_rfl⟩
theorem Hl5:FnOk PR cutsOf Da1 Tryz.f32 D37 E43 2:=⟨Tryz.func32,⟨_,rfl⟩,by kernel_rfl,rfl,rfl,by kernel_rfl⟩
theorem Dl2:FnOk PR cutsOf Y8 Tryz.f33 Dk1 Ee9 3:=⟨Tryz.func33,⟨_,rfl⟩,by kernel_rfl,rfl,rfl,by kernel_rfl⟩
theorem Hc1:FnOk PR cutsOf A71 Tryz.f34 Dq9 En5 2:=⟨Tryz.func34,⟨_,rfl⟩,by kernel_rfl,rfl,rfl,by kernel_rfl⟩
theorem D46:FnOk PR cutsOf L5 Tryz.f35 A04 Bp7 2:=⟨Tryz.func35,⟨_,rfl⟩,by kernel_rfl,rfl,rfl,by kernel_rfl⟩
theorem G72:FnOk PR cutsOf A57 Tryz.f36 Do1 Et5 2:=⟨Tryz.func36,⟨_,rfl⟩,by kernel_rfl,rfl,rfl,by kernel_rfl⟩
theorem D47:FnOk PR cutsOf S6 Tryz.f37 A10 Bq7 2:=⟨Tryz.func37,⟨_,rfl⟩,by kernel_rfl,rfl,rfl,by kernel_rfl⟩
theorem Dk7:FnOk PR cutsOf U9 Tryz.f38 Aq7 Bf8 3:=⟨Tryz.func38,⟨_,rfl⟩,by kernel_rfl,rfl,rfl,by kernel_rfl⟩
theorem Dj0:FnOk PR cutsOf O8 Tryz.f39 An7 Bg3 3:=⟨Tryz.func39,⟨_,rfl⟩,by kernel_rfl,rfl,rfl,by kernel_rfl⟩
theorem Hw7:FnOk PR cutsOf Dm4 Tryz.f40 Eh4 Gh0 2:=⟨Tryz.func40,⟨_,rfl⟩,by kernel_rfl,rfl,rfl,by kernel_rfl⟩
theorem Dk4:FnOk PR cutsOf O7 Tryz.f41 Ap4 Bf4 3:=⟨Tryz.func41,⟨_,rfl⟩,by kernel_rfl,rfl,rfl,by kernel_rfl⟩
theorem Ic6:FnOk PR cutsOf Dp7 Tryz.f42 Gb9 G28 3:=⟨Tryz.func42,⟨_,rfl⟩,by kernel_rfl,rfl,rfl,by kernel_rfl⟩
theorem G56:FnOk PR cutsOf H9 Tryz.f43 Dr7 Er3 1:=⟨Tryz.func43,⟨_,rfl⟩,by kernel_rfl,rfl,rfl,by kernel_rfl⟩
theorem Gk0:FnOk PR cutsOf Bl3 Tryz.f44 Ea1 Gj6 2:=⟨Tryz.func44,⟨_,rfl⟩,by kernel_rfl,rfl,rfl,by kernel_rfl⟩
theorem Gy8:FnOk PR cutsOf Aw6 Tryz.f46 Dg0 Ej0 1:=⟨Tryz.func46,⟨_,rfl⟩,by kernel_rfl,rfl,rfl,by kernel_rfl⟩
theorem Ee4:FnOk PR cutsOf Ao2 Tryz.f47 Dk0 Ee8 2:=⟨Tryz.func47,⟨_,rfl⟩,by kernel_rfl,rfl,rfl,by kernel_rfl⟩
theorem E59:FnOk PR cutsOf Bq5 Tryz.f48 D53 E50 4:=⟨Tryz.func48,⟨_,rfl⟩,by kernel_rfl,rfl,rfl,by kernel_rfl⟩
theorem Hk7:FnOk PR cutsOf Db1 Tryz.f49 D35 E58 2:=⟨Tryz.func49,⟨_,rfl⟩,by kernel_rfl,rfl,rfl,by kernel_rfl⟩
theorem Dd1:FnOk PR cutsOf N0 Tryz.f52 Al2 A76 2:=⟨Tryz.func52,⟨_,rfl⟩,by kernel_rfl,rfl,rfl,by kernel_rfl⟩
theorem Hl1:FnOk PR cutsOf Ab6 Tryz.f53 D48 E35 1:=⟨Tryz.func53,⟨_,rfl⟩,by kernel_rfl,rfl,rfl,by kernel_rfl⟩
theorem D06:FnOk PR cutsOf Ar8 Tryz.f54 Db3 D33 1:=⟨Tryz.func54,⟨_,rfl⟩,by kernel_rfl,rfl,rfl,by kernel_rfl⟩
theorem At2:FnOk PR cutsOf G5 Tryz.f55 A58 Bi8 2:=⟨Tryz.func55,⟨_,rfl⟩,by kernel_rfl,rfl,rfl,by kernel_rfl⟩
theorem Hg9:FnOk PR cutsOf Bq6 Tryz.f56 D02 E38 2:=⟨Tryz.func56,⟨_,rfl⟩,by kernel_rfl,rfl,rfl,by kernel_rfl⟩
theorem Hk3:FnOk PR cutsOf Db2 Tryz.f57 D28 E69 2:=⟨Tryz.func57,⟨_,rfl⟩,by kernel_rfl,rfl,rfl,by kernel_rfl⟩
theorem O5:FnOk PR cutsOf D4 Tryz.f59 S8 Ab0 1:=⟨Tryz.func59,⟨_,rfl⟩,by kernel_rfl,rfl,rfl,by kernel_rfl⟩
theorem D24:FnOk PR cutsOf L7 Tryz.f60 A14 Br9 2:=⟨Tryz.func60,⟨_,rfl⟩,by kernel_rfl,rfl,rfl,by kernel_rfl⟩
theorem Go0:FnOk PR cutsOf A59 Tryz.f61 B94 D88 1:=⟨Tryz.func61,⟨_,rfl⟩,by kernel_rfl,rfl,rfl,by kernel_rfl⟩
theorem G86:FnOk PR cutsOf By6 Tryz.f62 Dv3 Em9 3:=⟨Tryz.func62,⟨_,rfl⟩,by kernel_rfl,rfl,rfl,by kernel_rfl⟩
theorem Hx9:FnOk PR cutsOf B07 Tryz.f63 Ef0 Gh1 2:=⟨Tryz.func63,⟨_,rfl⟩,by kernel_rfl,rfl,rfl,by kernel_rfl⟩
theorem D12:FnOk PR cutsOf S9 Tryz.f64 A13 Bp6 1:=⟨Tryz.func64,⟨_,rfl⟩,by kernel_rfl,rfl,rfl,by kernel_rfl⟩
theorem Dl3:FnOk PR cutsOf J9 Tryz.f65 Aq2 Bg1 2:=⟨Tryz.func65,⟨_,rfl⟩,by kernel_rfl,rfl,rfl,by kernel_rfl⟩
theorem Dv8:FnOk PR cutsOf Q6 Tryz.f66 Av5 Bn3 1:=⟨Tryz.func66,⟨_,rfl⟩,by kernel_rfl,rfl,rfl,by kernel_rfl⟩
theorem Dg6:FnOk PR cutsOf Ab8 Tryz.f67 Am5 Bc1 2:=⟨Tryz.func67,⟨_,rfl⟩,by kernel_rfl,rfl,rfl,by kernel_rfl⟩
theorem As8:FnOk PR cutsOf J4 Tryz.f68 A51 Bi3 1:=⟨Tryz.func68,⟨_,rfl⟩,by kernel_rfl,rfl,rfl,by kernel_rfl⟩
theorem Aq3:FnOk PR cutsOf H8 Tryz.f69 Ba5 Bk9 1:=⟨Tryz.func69,⟨_,rfl⟩,by kernel_rfl,rfl,rfl,by kernel_rfl⟩
theorem Aj3:FnOk PR cutsOf G3 Tryz.f70 As1 A46 1:=⟨Tryz.func70,⟨_,rfl⟩,by kernel_rfl,rfl,rfl,by kernel_rfl⟩
theorem G08:FnOk PR cutsOf Bs6 Tryz.f71 Dg4 Ek8 2:=⟨Tryz.func71,⟨_,rfl⟩,by kernel_rfl,rfl,rfl,by kernel_rfl⟩
theorem Er0:FnOk PR cutsOf Ay2 Tryz.f72 Bi2 Db8 2:=⟨Tryz.func72,⟨_,rfl⟩,by kernel_rfl,rfl,rfl,by kernel_rfl⟩
theorem Ef8:FnOk PR cutsOf Af9 Tryz.f73 Dl0 Eg0 1:=⟨Tryz.func73,⟨_,rfl⟩,by kernel_rfl,rfl,rfl,by kernel_rfl⟩
theorem E27:FnOk PR cutsOf A27 Tryz.f74 Bn7 Dh8 3:=⟨Tryz.func74,⟨_,rfl⟩,by kernel_rfl,rfl,rfl,by kernel_rfl⟩
theorem Er5:FnOk PR cutsOf Az6 Tryz.f75 Bh9 De5 3:=⟨Tryz.func75,⟨_,rfl⟩,by kernel_rfl,rfl,rfl,by kernel_rfl⟩
theorem Eg6:FnOk PR cutsOf Ao5 Tryz.f77 Ba8 Bz2 5:=⟨Tryz.func77,⟨_,rfl⟩,by kernel_rfl,rfl,rfl,by kernel_rfl⟩
theorem Es4:FnOk PR cutsOf Ax8 Tryz.f86 Bj1 De6 1:=⟨Tryz.func86,⟨_,rfl⟩,by kernel_rfl,rfl,rfl,by kernel_rfl⟩
theorem Hz3:FnOk PR cutsOf Ba9 Tryz.f87 Ed4 Ge0 1:=⟨Tryz.func87,⟨_,rfl⟩,by kernel_rfl,rfl,rfl,by kernel_rfl⟩
theorem Gx0:FnOk PR cutsOf Bc8 Tryz.f88 Df0 El2 2:=⟨Tryz.func88,⟨_,rfl⟩,by kernel_rfl,rfl,rfl,by kernel_rfl⟩
theorem Ap5:FnOk PR cutsOf J8 Tryz.f89 Ad9 Ao0 3:=⟨Tryz.func89,⟨_,rfl⟩,by kernel_rfl,rfl,rfl,by kernel_rfl⟩
theorem Gl7:FnOk PR cutsOf A44 Tryz.f90 B87 D93 1:=⟨Tryz.func90,⟨_,rfl⟩,by kernel_rfl,rfl,rfl,by kernel_rfl⟩
theorem Gm0:FnOk PR cutsOf A47 Tryz.f91 B93 D90 1:=⟨Tryz.func91,⟨_,rfl⟩,by kernel_rfl,rfl,rfl,by kernel_rfl⟩
theorem Ap6:FnOk PR cutsOf I3 Tryz.f92 Ad6 Ap0 3:=⟨Tryz.func92,⟨_,rfl⟩,by kernel_rfl,rfl,rfl,by kernel_rfl⟩
theorem Gm4:FnOk PR cutsOf A60 Tryz.f93 B82 D69 1:=⟨Tryz.func93,⟨_,rfl⟩,by kernel_rfl,rfl,rfl,by kernel_rfl⟩
theorem Gx8:FnOk PR cutsOf Aw5 Tryz.f94 Df2 Ej8 1:=⟨Tryz.func94,⟨_,rfl⟩,by kernel_rfl,rfl,rfl,by kernel_rfl⟩
theorem G02:FnOk PR cutsOf Aw2 Tryz.f95 Df4 Ek9 1:=⟨Tryz.func95,⟨_,rfl⟩,by kernel_rfl,rfl,rfl,by kernel_rfl⟩
theorem Dv5:FnOk PR cutsOf H6 Tryz.f96 Av6 Bn2 4:=⟨Tryz.func96,⟨_,rfl⟩,by kernel_rfl,rfl,rfl,by kernel_rfl⟩
theorem Gn7:FnOk PR cutsOf A43 Tryz.f97 B79 D83 1:=⟨Tryz.func97,⟨_,rfl⟩,by kernel_rfl,rfl,rfl,by kernel_rfl⟩
theorem Gl9:FnOk PR cutsOf A40 Tryz.f98 B83 D58 1:=⟨Tryz.func98,⟨_,rfl⟩,by kernel_rfl,rfl,rfl,by kernel_rfl⟩
theorem Gq0:FnOk PR cutsOf A55 Tryz.f99 B78 D61 1:=⟨Tryz.func99,⟨_,rfl⟩,by kernel_rfl,rfl,rfl,by kernel_rfl⟩
theorem Ha9:FnOk PR cutsOf A73 Tryz.f100 Du0 Em7 3:=⟨Tryz.func100,⟨_,rfl⟩,by kernel_rfl,rfl,rfl,by kernel_rfl⟩
theorem H61:FnOk PR cutsOf Bw7 Tryz.f102 Er4 Gw2 1:=⟨Tryz.func102,⟨_,rfl⟩,by kernel_rfl,rfl,rfl,by kernel_rfl⟩
theorem Gx6:FnOk PR cutsOf Bt2 Tryz.f103 Dg9 Ei7 2:=⟨Tryz.func103,⟨_,rfl⟩,by kernel_rfl,rfl,rfl,by kernel_rfl⟩
theorem Dt6:FnOk PR cutsOf Al3 Tryz.f104 B45 Do9 1:=⟨Tryz.func104,⟨_,rfl⟩,by kernel_rfl,rfl,rfl,by kernel_rfl⟩
theorem Dj6:FnOk PR cutsOf U7 Tryz.f105 Ao4 Bf1 1:=⟨Tryz.func105,⟨_,rfl⟩,by kernel_rfl,rfl,rfl,by kernel_rfl⟩
theorem As5:FnOk PR cutsOf H4 Tryz.f106 Af7 At9 2:=⟨Tryz.func106,⟨_,rfl⟩,by kernel_rfl,rfl,rfl,by kernel_rfl⟩
theorem D14:FnOk PR cutsOf Ab2 Tryz.f109 A08 Bs0 2:=⟨Tryz.func109,⟨_,rfl⟩,by kernel_rfl,rfl,rfl,by kernel_rfl⟩
theorem Aq0:FnOk PR cutsOf L1 Tryz.f110 Ad5 Aq6 3:=⟨Tryz.func110,⟨_,rfl⟩,by kernel_rfl,rfl,rfl,by kernel_rfl⟩
theorem Go9:FnOk PR cutsOf A68 Tryz.f111 B95 D77 1:=⟨Tryz.func111,⟨_,rfl⟩,by kernel_rfl,rfl,rfl,by kernel_rfl⟩
theorem Dt3:FnOk PR cutsOf Ae7 Tryz.f112 By3 Dr2 2:=⟨Tryz.func112,⟨_,rfl⟩,by kernel_rfl,rfl,rfl,by kernel_rfl⟩
theorem Hf0:FnOk PR cutsOf Bk3 Tryz.f113 Du5 Ep3 2:=⟨Tryz.func113,⟨_,rfl⟩,by kernel_rfl,rfl,rfl,by kernel_rfl⟩
theorem E24:FnOk PR cutsOf A22 Tryz.f114 Bp0 Di5 1:=⟨Tryz.func114,⟨_,rfl⟩,by kernel_rfl,rfl,rfl,by kernel_rfl⟩
theorem A98:FnOk PR cutsOf Q9 Tryz.f115 Ap2 A96 3:=⟨Tryz.func115,⟨_,rfl⟩,by kernel_rfl,rfl,rfl,by kernel_rfl⟩
theorem E28:FnOk PR cutsOf Am8 Tryz.f116 Bo3 Dh6 1:=⟨Tryz.func116,⟨_,rfl⟩,by kernel_rfl,rfl,rfl,by kernel_rfl⟩
theorem Ea5:FnOk PR cutsOf Af2 Tryz.f117 A90 By4 1:=⟨Tryz.func117,⟨_,rfl⟩,by kernel_rfl,rfl,rfl,by kernel_rfl⟩
theorem Bg6:FnOk PR cutsOf R0 Tryz.f118 Bk5 B34 1:=⟨Tryz.func118,⟨_,rfl⟩,by kernel_rfl,rfl,rfl,by kernel_rfl⟩
theorem Gy5:FnOk PR cutsOf Bb3 Tryz.f119 Df5 Ek0 1:=⟨Tryz.func119,⟨_,rfl⟩,by kernel_rfl,rfl,rfl,by kernel_rfl⟩
theorem Dt2:FnOk PR cutsOf W1 Tryz.f120 At3 Bh4 1:=⟨Tryz.func120,⟨_,rfl⟩,by kernel_rfl,rfl,rfl,by kernel_rfl⟩
theorem H77:FnOk PR cutsOf Dy5 Tryz.f121 Er9 Gu1 1:=⟨Tryz.func121,⟨_,rfl⟩,by kernel_rfl,rfl,rfl,by kernel_rfl⟩
theorem Ef6:FnOk PR cutsOf Ay3 Tryz.f122 Dj2 Ed5 1:=⟨Tryz.func122,⟨_,rfl⟩,by kernel_rfl,rfl,rfl,by kernel_rfl⟩
theorem D22:FnOk PR cutsOf As0 Tryz.f123 Da0 D38 1:=⟨Tryz.func123,⟨_,rfl⟩,by kernel_rfl,rfl,rfl,by kernel_rfl⟩
theorem G60:FnOk PR cutsOf B20 Tryz.f124 Dt1 En6 2:=⟨Tryz.func124,⟨_,rfl⟩,by kernel_rfl,rfl,rfl,by kernel_rfl⟩
theorem Hs8:FnOk PR cutsOf Dm2 Tryz.f125 Eg4 Gg2 1:=⟨Tryz.func125,⟨_,rfl⟩,by kernel_rfl,rfl,rfl,by kernel_rfl⟩
theorem Ef7:FnOk PR cutsOf Aq9 Tryz.f126 A80 B35 3:=⟨Tryz.func126,⟨_,rfl⟩,by kernel_rfl,rfl,rfl,by kernel_rfl⟩
theorem Bd9:FnOk PR cutsOf P5 Tryz.f127 Au8 Be4 2:=⟨Tryz.func127,⟨_,rfl⟩,by kernel_rfl,rfl,rfl,by kernel_rfl⟩
theorem Ga2:FnOk PR cutsOf A91 Tryz.f128 Bv0 Dr6 3:=⟨Tryz.func128,⟨_,rfl⟩,by kernel_rfl,rfl,rfl,by kernel_rfl⟩
theorem B06:FnOk PR cutsOf Z9 Tryz.f129 Be7 Bz3 1:=⟨Tryz.func129,⟨_,rfl⟩,by kernel_rfl,rfl,rfl,by kernel_rfl⟩
theorem Bj7:FnOk PR cutsOf O0 Tryz.f130 Ax3 Bk4 2:=⟨Tryz.func130,⟨_,rfl⟩,by kernel_rfl,rfl,rfl,by kernel_rfl⟩
theorem By5:FnOk PR cutsOf Aa4 Tryz.f131 Bf9 B23 1:=⟨Tryz.func131,⟨_,rfl⟩,by kernel_rfl,rfl,rfl,by kernel_rfl⟩
theorem Gn9:FnOk PR cutsOf Bm9 Tryz.f132 B73 D64 1:=⟨Tryz.func132,⟨_,rfl⟩,by kernel_rfl,rfl,rfl,by kernel_rfl⟩
theorem Eu4:FnOk PR cutsOf Az5 Tryz.f133 Bi0 De1 3:=⟨Tryz.func133,⟨_,rfl⟩,by kernel_rfl,rfl,rfl,by kernel_rfl⟩
theorem Et2:FnOk PR cutsOf A74 Tryz.f134 Dz9 Et8 2:=⟨Tryz.func134,⟨_,rfl⟩,by kernel_rfl,rfl,rfl,by kernel_rfl⟩
theorem E79:FnOk PR cutsOf A92 Tryz.f135 Bv2 Du2 3:=⟨Tryz.func135,⟨_,rfl⟩,by kernel_rfl,rfl,rfl,by kernel_rfl⟩
theorem E29:FnOk PR cutsOf An2 Tryz.f136 Bo7 Di7 1:=⟨Tryz.func136,⟨_,rfl⟩,by kernel_rfl,rfl,rfl,by kernel_rfl⟩
theorem Eq6:FnOk PR cutsOf Al0 Tryz.f137 Bh5 Dd7 2:=⟨Tryz.func137,⟨_,rfl⟩,by kernel_rfl,rfl,rfl,by kernel_rfl⟩
theorem Gd0:FnOk PR cutsOf A84 Tryz.f138 Bu0 Ds1 2:=⟨Tryz.func138,⟨_,rfl⟩,by kernel_rfl,rfl,rfl,by kernel_rfl⟩
theorem D75:FnOk PR cutsOf Ac7 Tryz.f139 A49 Bx0 5:=⟨Tryz.func139,⟨_,rfl⟩,by kernel_rfl,rfl,rfl,by kernel_rfl⟩
theorem D17:FnOk PR cutsOf Aa9 Tryz.f140 A07 Bp9 5:=⟨Tryz.func140,⟨_,rfl⟩,by kernel_rfl,rfl,rfl,by kernel_rfl⟩
theorem D66:FnOk PR cutsOf Al5 Tryz.f141 A53 By1 7:=⟨Tryz.func141,⟨_,rfl⟩,by kernel_rfl,rfl,rfl,by kernel_rfl⟩
theorem Ep7:FnOk PR cutsOf Ay6 Tryz.f142 Bh6 Dc2 7:=⟨Tryz.func142,⟨_,rfl⟩,by kernel_rfl,rfl,rfl,by kernel_rfl⟩
theorem Em3:FnOk PR cutsOf Au3 Tryz.f144 Bd8 B60 2:=⟨Tryz.func144,⟨_,rfl⟩,by kernel_rfl,rfl,rfl,by kernel_rfl⟩
theorem Es6:FnOk PR cutsOf Az1 Tryz.f145 Bh7 De0 3:=⟨Tryz.func145,⟨_,rfl⟩,by kernel_rfl,rfl,rfl,by kernel_rfl⟩
theorem E14:FnOk PR cutsOf A30 Tryz.f146 Bo8 Di4 3:=⟨Tryz.func146,⟨_,rfl⟩,by kernel_rfl,rfl,rfl,by kernel_rfl⟩
theorem E19:FnOk PR cutsOf A33 Tryz.f147 Bn6 Di0 3:=⟨Tryz.func147,⟨_,rfl⟩,by kernel_rfl,rfl,rfl,by kernel_rfl⟩
theorem Ef2:FnOk PR cutsOf Ao9 Tryz.f148 A95 By7 6:=⟨Tryz.func148,⟨_,rfl⟩,by kernel_rfl,rfl,rfl,by kernel_rfl⟩
theorem E96:FnOk PR cutsOf A77 Tryz.f149 Bv9 Do4 3:=⟨Tryz.func149,⟨_,rfl⟩,by kernel_rfl,rfl,rfl,by kernel_rfl⟩
theorem E86:FnOk PR cutsOf Aj6 Tryz.f150 Bv5 Dq8 2:=⟨Tryz.func150,⟨_,rfl⟩,by kernel_rfl,rfl,rfl,by kernel_rfl⟩
theorem Gz0:FnOk PR cutsOf Ag7 Tryz.f151 Dg1 Ej9 3:=⟨Tryz.func151,⟨_,rfl⟩,by kernel_rfl,rfl,rfl,by kernel_rfl⟩
theorem E95:FnOk PR cutsOf Ba7 Tryz.f152 Bu3 Do8 3:=⟨Tryz.func152,⟨_,rfl⟩,by kernel_rfl,rfl,rfl,by kernel_rfl⟩
theorem D32:FnOk PR cutsOf O6 Tryz.f159 A11 Bq9 2:=⟨Tryz.func159,⟨_,rfl⟩,by kernel_rfl,rfl,rfl,by kernel_rfl⟩
theorem Gy3:FnOk PR cutsOf Am3 Tryz.f160 De7 Ej5 1:=⟨Tryz.func160,⟨_,rfl⟩,by kernel_rfl,rfl,rfl,by kernel_rfl⟩
theorem Gy4:FnOk PR cutsOf Bb8 Tryz.f161 Dh2 El0 0:=⟨Tryz.func161,⟨_,rfl⟩,by kernel_rfl,rfl,rfl,by kernel_rfl⟩
theorem B48:FnOk PR cutsOf V6 Tryz.f162 Ag8 A19 2:=⟨Tryz.func162,⟨_,rfl⟩,by kernel_rfl,rfl,rfl,by kernel_rfl⟩
theorem Hb8:FnOk PR cutsOf Bh1 Tryz.f163 Dp8 Ex2 0:=⟨Tryz.func163,⟨_,rfl⟩,by kernel_rfl,rfl,rfl,by kernel_rfl⟩
theorem B55:FnOk PR cutsOf V3 Tryz.f164 Ah1 A20 2:=⟨Tryz.func164,⟨_,rfl⟩,by kernel_rfl,rfl,rfl,by kernel_rfl⟩
theorem B57:FnOk PR cutsOf V4 Tryz.f165 Ah0 A18 2:=⟨Tryz.func165,⟨_,rfl⟩,by kernel_rfl,rfl,rfl,by kernel_rfl⟩
theorem Dw0:FnOk PR cutsOf Z3 Tryz.f166 Av4 Bn1 2:=⟨Tryz.func166,⟨_,rfl⟩,by kernel_rfl,rfl,rfl,by kernel_rfl⟩
theorem B56:FnOk PR cutsOf V7 Tryz.f167 Ah6 A17 2:=⟨Tryz.func167,⟨_,rfl⟩,by kernel_rfl,rfl,rfl,by kernel_rfl⟩
theorem G03:FnOk PR cutsOf Bc6 Tryz.f168 Dh0 Ej2 0:=⟨Tryz.func168,⟨_,rfl⟩,by kernel_rfl,rfl,rfl,by kernel_rfl⟩
theorem B50:FnOk PR cutsOf V8 Tryz.f169 Ag9 A15 2:=⟨Tryz.func169,⟨_,rfl⟩,by kernel_rfl,rfl,rfl,by kernel_rfl⟩
theorem Hl4:FnOk PR cutsOf Ar5 Tryz.f171 D36 E40 2:=⟨Tryz.func171,⟨_,rfl⟩,by kernel_rfl,rfl,rfl,by kernel_rfl⟩
theorem B51:FnOk PR cutsOf V9 Tryz.f173 Ah2 A21 2:=⟨Tryz.func173,⟨_,rfl⟩,by kernel_rfl,rfl,rfl,by kernel_rfl⟩
theorem D29:FnOk PR cutsOf Aa7 Tryz.f174 Da7 D11 1:=⟨Tryz.func174,⟨_,rfl⟩,by kernel_rfl,rfl,rfl,by kernel_rfl⟩
theorem Gm5:FnOk PR cutsOf G9 Tryz.f175 B64 D87 2:=⟨Tryz.func175,⟨_,rfl⟩,by kernel_rfl,rfl,rfl,by kernel_rfl⟩
theorem Av1:FnOk PR cutsOf E8 Tryz.f176 Ae2 Av3 2:=⟨Tryz.func176,⟨_,rfl⟩,by kernel_rfl,rfl,rfl,by kernel_rfl⟩
theorem Hb7:FnOk PR cutsOf B30 Tryz.f177 Ds4 Eu9 2:=⟨Tryz.func177,⟨_,rfl⟩,by kernel_rfl,rfl,rfl,by kernel_rfl⟩
theorem Be3:FnOk PR cutsOf P2 Tryz.f178 Au9 Bd7 1:=⟨Tryz.func178,⟨_,rfl⟩,by kernel_rfl,rfl,rfl,by kernel_rfl⟩
theorem Gp2:FnOk PR cutsOf A54 Tryz.f179 B98 D54 1:=⟨Tryz.func179,⟨_,rfl⟩,by kernel_rfl,rfl,rfl,by kernel_rfl⟩
theorem Ew9:FnOk PR cutsOf Ak8 Tryz.f180 Bk1 Db7 1:=⟨Tryz.func180,⟨_,rfl⟩,by kernel_rfl,rfl,rfl,by kernel_rfl⟩
theorem Gf1:FnOk PR cutsOf Af4 Tryz.f181 B37 D00 2:=⟨Tryz.func181,⟨_,rfl⟩,by kernel_rfl,rfl,rfl,by kernel_rfl⟩
theorem E98:FnOk PR cutsOf Au1 Tryz.f182 Bv3 Do0 3:=⟨Tryz.func182,⟨_,rfl⟩,by kernel_rfl,rfl,rfl,by kernel_rfl⟩
theorem Bz4:FnOk PR cutsOf Aa1 Tryz.f183 Bg5 B03 1:=⟨Tryz.func183,⟨_,rfl⟩,by kernel_rfl,rfl,rfl,by kernel_rfl⟩
theorem Al1:FnOk PR cutsOf G1 Tryz.f184 Aa2 Ak7 1:=⟨Tryz.func184,⟨_,rfl⟩,by kernel_rfl,rfl,rfl,by kernel_rfl⟩
theorem Bu8:FnOk PR cutsOf Q8 Tryz.f185 A97 Bu6 1:=⟨Tryz.func185,⟨_,rfl⟩,by kernel_rfl,rfl,rfl,by kernel_rfl⟩
theorem D42:FnOk PR cutsOf Aa8 Tryz.f186 A02 Bq4 6:=⟨Tryz.func186,⟨_,rfl⟩,by kernel_rfl,rfl,rfl,by kernel_rfl⟩
theorem Gr2:FnOk PR cutsOf Bm1 Tryz.f187 B96 D65 3:=⟨Tryz.func187,⟨_,rfl⟩,by kernel_rfl,rfl,rfl,by kernel_rfl⟩
theorem Gf7:FnOk PR cutsOf Be6 Tryz.f188 B43 Dx7 3:=⟨Tryz.func188,⟨_,rfl⟩,by kernel_rfl,rfl,rfl,by kernel_rfl⟩
theorem E76:FnOk PR cutsOf At5 Tryz.f189 Bv6 Dr3 3:=⟨Tryz.func189,⟨_,rfl⟩,by kernel_rfl,rfl,rfl,by kernel_rfl⟩
theorem E93:FnOk PR cutsOf Ai5 Tryz.f192 Bv1 Dq3 2:=⟨Tryz.func192,⟨_,rfl⟩,by kernel_rfl,rfl,rfl,by kernel_rfl⟩
theorem Ex0:FnOk PR cutsOf Ax1 Tryz.f193 Bj0 Dd8 3:=⟨Tryz.func193,⟨_,rfl⟩,by kernel_rfl,rfl,rfl,by kernel_rfl⟩
theorem E81:FnOk PR cutsOf As4 Tryz.f194 Bw2 Dp5 3:=⟨Tryz.func194,⟨_,rfl⟩,by kernel_rfl,rfl,rfl,by kernel_rfl⟩
theorem Z7:FnOk PR cutsOf D2 Tryz.f195 U1 Z6 3:=⟨Tryz.func195,⟨_,rfl⟩,by kernel_rfl,rfl,rfl,by kernel_rfl⟩
theorem E17:FnOk PR cutsOf A31 Tryz.f196 Bo4 Dh5 3:=⟨Tryz.func196,⟨_,rfl⟩,by kernel_rfl,rfl,rfl,by kernel_rfl⟩
theorem E94:FnOk PR cutsOf A82 Tryz.f197 Bv8 Dq1 2:=⟨Tryz.func197,⟨_,rfl⟩,by kernel_rfl,rfl,rfl,by kernel_rfl⟩
theorem Bt8:FnOk PR cutsOf W4 Tryz.f198 Ba2 Bu2 1:=⟨Tryz.func198,⟨_,rfl⟩,by kernel_rfl,rfl,rfl,by kernel_rfl⟩
theorem Br0:FnOk PR cutsOf Q1 Tryz.f201 Ab4 Ar2 2:=⟨Tryz.func201,⟨_,rfl⟩,by kernel_rfl,rfl,rfl,by kernel_rfl⟩
theorem Gf5:FnOk PR cutsOf Ag2 Tryz.f202 B21 Dx5 1:=⟨Tryz.func202,⟨_,rfl⟩,by kernel_rfl,rfl,rfl,by kernel_rfl⟩
theorem Eg9:FnOk PR cutsOf An5 Tryz.f203 Ba6 B27 3:=⟨Tryz.func203,⟨_,rfl⟩,by kernel_rfl,rfl,rfl,by kernel_rfl⟩
theorem Hl2:FnOk PR cutsOf Ar1 Tryz.f204 D52 E66 2:=⟨Tryz.func204,⟨_,rfl⟩,by kernel_rfl,rfl,rfl,by kernel_rfl⟩
theorem Hh6:FnOk PR cutsOf Ar6 Tryz.f205 D51 E54 1:=⟨Tryz.func205,⟨_,rfl⟩,by kernel_rfl,rfl,rfl,by kernel_rfl⟩
theorem Bc0:FnOk PR cutsOf G6 Tryz.f206 Am4 Bb1 1:=⟨Tryz.func206,⟨_,rfl⟩,by kernel_rfl,rfl,rfl,by kernel_rfl⟩
theorem Eh0:FnOk PR cutsOf Aq1 Tryz.f207 A94 B28 3:=⟨Tryz.func207,⟨_,rfl⟩,by kernel_rfl,rfl,rfl,by kernel_rfl⟩
theorem Hy7:FnOk PR cutsOf Bm3 Tryz.f208 Ed3 Gf6 2:=⟨Tryz.func208,⟨_,rfl⟩,by kernel_rfl,rfl,rfl,by kernel_rfl⟩
theorem Ht5:FnOk PR cutsOf Bm6 Tryz.f209 Ed1 Ge5 1:=⟨Tryz.func209,⟨_,rfl⟩,by kernel_rfl,rfl,rfl,by kernel_rfl⟩
theorem Ee5:FnOk PR cutsOf Ao8 Tryz.f210 A93 B01 3:=⟨Tryz.func210,⟨_,rfl⟩,by kernel_rfl,rfl,rfl,by kernel_rfl⟩
theorem H5:FnOk PR cutsOf O1 Tryz.f211 Bd3 Bp5 2:=⟨Tryz.func211,⟨_,rfl⟩,by kernel_rfl,rfl,rfl,by kernel_rfl⟩
theorem O2:FnOk PR cutsOf W9 Tryz.f212 Bq8 Da2 1:=⟨Tryz.func212,⟨_,rfl⟩,by kernel_rfl,rfl,rfl,by kernel_rfl⟩
theorem L9:FnOk PR cutsOf D9 Tryz.f213 Z2 Ai8 2:=⟨Tryz.func213,⟨_,rfl⟩,by kernel_rfl,rfl,rfl,by kernel_rfl⟩
theorem Aq5:FnOk PR cutsOf I2 Tryz.f214 Ad2 Ao6 2:=⟨Tryz.func214,⟨_,rfl⟩,by kernel_rfl,rfl,rfl,by kernel_rfl⟩
theorem Dg8:FnOk PR cutsOf N6 Tryz.f215 Am7 Bc4 2:=⟨Tryz.func215,⟨_,rfl⟩,by kernel_rfl,rfl,rfl,by kernel_rfl⟩
theorem Ha7:FnOk PR cutsOf Bj9 Tryz.f216 Dq4 Ew3 3:=⟨Tryz.func216,⟨_,rfl⟩,by kernel_rfl,rfl,rfl,by kernel_rfl⟩
theorem Dk9:FnOk PR cutsOf Ad3 Tryz.f217 Ap1 Bg2 2:=⟨Tryz.func217,⟨_,rfl⟩,by kernel_rfl,rfl,rfl,by kernel_rfl⟩
theorem Ds8:FnOk PR cutsOf Ae5 Tryz.f220 As6 Bi7 2:=⟨Tryz.func220,⟨_,rfl⟩,by kernel_rfl,rfl,rfl,by kernel_rfl⟩
theorem E21:FnOk PR cutsOf A32 Tryz.f221 Bo1 Dh7 3:=⟨Tryz.func221,⟨_,rfl⟩,by kernel_rfl,rfl,rfl,by kernel_rfl⟩
theorem Ag3:FnOk PR cutsOf G2 Tryz.f222 U3 Af3 2:=⟨Tryz.func222,⟨_,rfl⟩,by kernel_rfl,rfl,rfl,by kernel_rfl⟩
theorem Ht2:FnOk PR cutsOf Dn1 Tryz.f223 Eh5 Gk6 1:=⟨Tryz.func223,⟨_,rfl⟩,by kernel_rfl,rfl,rfl,by kernel_rfl⟩
theorem Am6:FnOk PR cutsOf D6 Tryz.f224 Ac0 Am2 2:=⟨Tryz.func224,⟨_,rfl⟩,by kernel_rfl,rfl,rfl,by kernel_rfl⟩
theorem H01:FnOk PR cutsOf Dj8 Tryz.f225 Ec4 Gf2 1:=⟨Tryz.func225,⟨_,rfl⟩,by kernel_rfl,rfl,rfl,by kernel_rfl⟩
theorem G90:FnOk PR cutsOf Bh8 Tryz.f226 Ds2 Et4 3:=⟨Tryz.func226,⟨_,rfl⟩,by kernel_rfl,rfl,rfl,by kernel_rfl⟩
theorem G63:FnOk PR cutsOf Bz7 Tryz.f227 Dt0 Em4 2:=⟨Tryz.func227,⟨_,rfl⟩,by kernel_rfl,rfl,rfl,by kernel_rfl⟩
theorem G47:FnOk PR cutsOf Ak9 Tryz.f230 Dt9 Eu7 2:=⟨Tryz.func230,⟨_,rfl⟩,by kernel_rfl,rfl,rfl,by kernel_rfl⟩
theorem G66:FnOk PR cutsOf Bh0 Tryz.f231 Dv4 Eq2 1:=⟨Tryz.func231,⟨_,rfl⟩,by kernel_rfl,rfl,rfl,by kernel_rfl⟩
end
end Go.EQ

namespace Go.EQ
open Go Go.NN Go.Proofs
theorem Iu5:type_of% Tryz.underlying3:=Tryz.underlying3
theorem Ir4:type_of% Tryz.underlying4:=Tryz.underlying4
theorem In4:type_of% Tryz.underlying5:=Tryz.underlying5
theorem Gv5:type_of% Tryz.underlying29:=Tryz.underlying29
end Go.EQ
