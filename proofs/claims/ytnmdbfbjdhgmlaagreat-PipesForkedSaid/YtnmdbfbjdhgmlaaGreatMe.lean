/- A child has its parent's descriptors, of the same files: what the one closes the other still has; what the one writes the other reads; no conditions. -/
import Derived.Test.YtnmdbfbjdhgmlaaGreatMd
import Derived.KernelRfl
set_option linter.all false
set_option maxRecDepth 100000
namespace Go.EQ
open Go Go.NN Go.Proofs
variable (C : B0) (R : B2)
noncomputable section
def B29:Cuts:={ globs:=0,loops:=[(9,[6,7,8,9,10,11,12])],regs:=[],plans:=[] }
def Dp2:List Item:=B3 Tryz.f9
def Bg5:List Item:=stk [0,1,0,1,0,1,0,1,0,1,0,1,0,1,0,0,1,4,5] Dp2
theorem Hb6 (C:B0) (R:B2) (b:Option Addr) (bn bc:Nat) (h:H) :
 B4 PR B29 C R Ae2 Tryz.f9 100000 true Dp2 [(0,.slice b bn bc)] h =
 bnd (C B04 [] h) fun r w=>aAgg r fun x=>bnd (C Bj1 [.agg ⟨x⟩] w) fun r_1 w1=>as4 r_1 fun r_2 r_3 r_4 r_5=>aPtr r_2 fun x_1=>aPtr r_3 fun x_2=>aPtr r_4 fun x_3=>aPtr r_5 fun x_4=>bnd (cond x_2.isNone (some (true,w1)) (some (((bn:Nat):Int) != 492,w1))) fun c w2=>cond c
 (some (.tuple ⟨[.pointer none,.pointer none,.pointer none,.pointer none]⟩,w2))
 (nw (.cells Ax4 false [.int .i64 0,.int .i64 0,.int .i64 0,.int .i64 0,.int .i64 0,.int .i64 0,.slice none 0 0]) w2 fun b_1 w3=>pAgg ⟨b_1,0,none⟩ [.int .i64 2,.int .i64 256,.int .i64 0,.int .i64 0,.int .i64 0,.int .i64 0,.slice b bn bc] w3 fun w4=>bnd (C P9 [.agg ⟨[.int .i64 0,.int .i64 0,.int .i64 1,.int .i64 1,.int .u8 0,.int .u8 0,.int .u8 0,.int .u8 0,.int .u8 0,.int .u8 0,.int .u8 0,.int .u8 0,.int .u8 0,.int .u8 0,.int .u8 0,.int .u8 0,.int .u8 0,.int .u8 0,.int .u8 0,.int .u8 0,.int .u8 0,.int .u8 0,.int .u8 0,.int .u8 0,.int .u8 0,.int .u8 0,.int .u8 0,.int .u8 0,.int .u8 0,.int .u8 0,.int .u8 0,.int .u8 0,.int .u8 0,.int .u8 0,.int .u8 0,.int .u8 0]⟩] w4) fun r_6 w5=>aStr r_6 fun x_5=>gAgg ⟨b_1,0,none⟩ 7 w5 fun x_6=>bnd (C U0 [.pointer x_1,.int .i64 0,.agg ⟨x_6⟩] w5) fun r_7 w6=>aAgg r_7 fun _=>gAgg ⟨b_1,0,none⟩ 7 w6 fun x_8=>bnd (C As3 [.pointer x_3,.int .i64 0,.agg ⟨x_8⟩] w6) fun r_8 w7=>as3 r_8 fun r_9 r_10 r_11=>aInt .i64 r_9 fun _=>aInt .i64 r_10 fun _=>aStr r_11 fun _=>R Ae2 Bg5 [(6,.pointer x_1),(7,.pointer x_2),(8,.pointer x_3),(9,.pointer x_4),(10,.pointer (some ⟨b_1,0,none⟩)),(11,.string x_5),(12,.int .i64 1)] w7):=by kernel_rfl
theorem Bz0 (C:B0) (R:B2) (k:Option Addr) (c:Option Addr) (wv:Option Addr) (m:Option Addr) (x:Addr) (pipe:ByteArray) (i:Int) (h:H) :
 B4 PR B29 C R Ae2 Tryz.f9 100000 true Bg5 [(6,.pointer k),(7,.pointer c),(8,.pointer wv),(9,.pointer m),(10,.pointer (some x)),(11,.string pipe),(12,.int .i64 i)] h =
 cond (decide (i<3))
 (ck (ByteArray.size pipe≤B7) (nw (.cells B1 false (A0 (ByteArray.data pipe).toList)) h fun b w=>pAgg x [.int .i64 2,.int .i64 (IntKind.wrap .i64 (256+i)),.int .i64 0,.int .i64 0,.int .i64 0,.int .i64 0,.slice (some (L8 b)) (ByteArray.size pipe) (ByteArray.size pipe)] w fun w1=>gAgg x 7 w1 fun x_1=>bnd (C U0 [.pointer k,.int .i64 0,.agg ⟨x_1⟩] w1) fun r w2=>aAgg r fun _=>gAgg x 7 w2 fun x_3=>bnd (C As3 [.pointer wv,.int .i64 0,.agg ⟨x_3⟩] w2) fun r_1 w3=>as3 r_1 fun r_2 r_3 r_4=>aInt .i64 r_2 fun _=>aInt .i64 r_3 fun _=>aStr r_4 fun _=>R Ae2 Bg5 [(6,.pointer k),(7,.pointer c),(8,.pointer wv),(9,.pointer m),(10,.pointer (some x)),(11,.string pipe),(12,.int .i64 (IntKind.wrap .i64 (i+1)))] w3))
 (some (.tuple ⟨[.pointer k,.pointer c,.pointer wv,.pointer m]⟩,h)):=by kernel_rfl
def Dz5:Cuts:={ globs:=0,loops:=[],regs:=[],plans:=[] }
def E37:List Item:=B3 Tryz.f18
theorem Hh0 (C:B0) (R:B2) (c:Option Addr) (i:Int) (fd:Int) (h:H) :
 B4 PR Dz5 C R Bd6 Tryz.f18 100000 true E37 [(0,.pointer c),(1,.int .i64 i),(2,.int .i64 fd)] h =
 nw (.cells L9 false [.int .i64 0,.int .i64 0,.slice none 0 0,.bool false]) h fun b w=>bnd (C A14 [.pointer c,.int .i64 i] w) fun r w1=>as2 r fun r_1 r_2=>aAgg r_1 fun x=>aInt .i64 r_2 fun x_1=>nw (.cells D8 false [.int .i64 0,.int .i64 0,.int .i64 0,.int .i64 0,.int .i64 0,.int .i64 0,.int .i64 0,.int .i64 0,.int .i64 0,.int .i64 0,.int .i64 0,.int .i64 0,.int .i64 0,.int .i64 0,.int .i64 0,.int .i64 0]) w1 fun b_1 w2=>ck (List.length x=16) (pAgg ⟨b_1,0,none⟩ x w2 fun w3=>cond (x_1 != 0)
 (bnd (C Af5 [.int .i64 x_1] w3) fun r_3 w4=>aAgg r_3 fun x_2=>ck (List.length x_2=4) (pAgg ⟨b,0,none⟩ x_2 w4 fun w5=>gAgg ⟨b,0,none⟩ 4 w5 fun x_3=>some (.agg ⟨x_3⟩,w5)))
 (gAgg ⟨b_1,0,none⟩ 16 w3 fun x_4=>bnd (C Bp7 [.agg ⟨x_4⟩,.int .i64 fd] w3) fun r_4 w6=>aBool r_4 fun x_5=>cond (!x_5)
 (bnd (C Af5 [.int .i64 109] w6) fun r_5 w7=>aAgg r_5 fun x_6=>ck (List.length x_6=4) (pAgg ⟨b,0,none⟩ x_6 w7 fun w8=>gAgg ⟨b,0,none⟩ 4 w8 fun x_7=>some (.agg ⟨x_7⟩,w8)))
 (ck ((0:Int)≤fd∧fd<((8:Nat):Int)) (gInt .i64 (Addr.add (Addr.add ⟨b_1,0,none⟩ 8) (Int.toNat fd*1)) w6 fun x_8=>ck ((0:Int)≤fd∧fd<((8:Nat):Int)) (pV (Addr.add (Addr.add ⟨b_1,0,none⟩ 8) (Int.toNat fd*1)) (.int .i64 0) w6 fun w9=>gAgg ⟨b_1,0,none⟩ 16 w9 fun x_9=>bnd (C O8 [.pointer c,.int .i64 i,.agg ⟨x_9⟩] w9) fun r_6 w10=>aBool r_6 fun x_10=>cond (!x_10)
 (bnd (C Af5 [.int .i64 105] w10) fun r_7 w11=>aAgg r_7 fun x_11=>ck (List.length x_11=4) (pAgg ⟨b,0,none⟩ x_11 w11 fun w12=>gAgg ⟨b,0,none⟩ 4 w12 fun x_12=>some (.agg ⟨x_12⟩,w12)))
 (bnd (C Y1 [.pointer c,.int .i64 (IntKind.wrap .i64 (x_8-1))] w10) fun r_8 w13=>aInt .i64 r_8 fun x_13=>bnd (C Af5 [.int .i64 x_13] w13) fun r_9 w14=>aAgg r_9 fun x_14=>ck (List.length x_14=4) (pAgg ⟨b,0,none⟩ x_14 w14 fun w15=>gAgg ⟨b,0,none⟩ 4 w15 fun x_15=>some (.agg ⟨x_15⟩,w15)))))))):=by kernel_rfl
def Eb9:Cuts:={ globs:=0,loops:=[],regs:=[],plans:=[] }
def Gg1:List Item:=B3 Tryz.f31
theorem Hv1 (C:B0) (R:B2) (e:Int) (h:H) :
 B4 PR Eb9 C R Af5 Tryz.f31 100000 true Gg1 [(0,.int .i64 e)] h =
 nw (.cells L9 false [.int .i64 0,.int .i64 0,.slice none 0 0,.bool false]) h fun b w=>pAgg ⟨b,0,none⟩ [.int .i64 0,.int .i64 e,.slice none 0 0,.bool false] w fun w1=>gAgg ⟨b,0,none⟩ 4 w1 fun x=>some (.agg ⟨x⟩,w1):=by kernel_rfl
def D26:Cuts:={ globs:=0,loops:=[],regs:=[],plans:=[] }
def E25:List Item:=B3 Tryz.f32
theorem Hf6 (C:B0) (R:B2) (p:List Value) (want:Int) (h:H) :
 B4 PR D26 C R Da4 Tryz.f32 100000 true E25 [(0,.agg ⟨p⟩),(1,.int .i64 want)] h =
 nw (.cells D8 false p) h fun b w=>bnd (C Y6 [.int .i64 8,.int .i64 want,.func (.func Bb4) ⟨[]⟩ ⟨[.pointer (some ⟨b,0,none⟩)]⟩] w) fun r w1=>aSl r fun x xn xc=>some (.slice x xn xc,w1):=by kernel_rfl
def Dj7:Cuts:={ globs:=0,loops:=[(3,[0,1,2,7,8])],regs:=[],plans:=[] }
def D84:List Item:=B3 Tryz.f33
def Bd3:List Item:=stk [0,1,0,1,0,0,1,4,5] D84
theorem Hs9 (C:B0) (R:B2) (n:Int) (want:Int) (isv:Value) (h:H) :
 B4 PR Dj7 C R Y6 Tryz.f33 100000 true D84 [(0,.int .i64 n),(1,.int .i64 want),(2,isv)] h =
 R Y6 Bd3 [(0,.int .i64 n),(1,.int .i64 want),(2,isv),(7,.slice none 0 0),(8,.int .i64 0)] h:=by kernel_rfl
theorem De2 (C:B0) (R:B2) (n:Int) (want:Int) (isv:Value) (out:Option Addr) (outn outc:Nat) (i:Int) (h:H) :
 B4 PR Dj7 C R Y6 Tryz.f33 100000 true Bd3 [(0,.int .i64 n),(1,.int .i64 want),(2,isv),(7,.slice out outn outc),(8,.int .i64 i)] h =
 bnd (cond (decide (i<n)) (some (decide (((outn:Nat):Int)<want),h)) (some (false,h))) fun c w=>cond c
 (aFn isv fun g fi cp=>bnd (C g (fi++([.int .i64 i]++cp)) w) fun r w1=>aBool r fun x=>cond x
 (nw (.cells D0 false [.int .i64 i]) w1 fun b w2=>gCells (some ⟨b,0,none⟩) (1*1) w2 fun cs=>ckB (fitsOpen out D0 w2) (apd D0 1 out outn outc 1 cs w2 fun a an ac w3=>R Y6 Bd3 [(0,.int .i64 n),(1,.int .i64 want),(2,isv),(7,.slice a an ac),(8,.int .i64 (IntKind.wrap .i64 (i+1)))] w3))
 (R Y6 Bd3 [(0,.int .i64 n),(1,.int .i64 want),(2,isv),(7,.slice out outn outc),(8,.int .i64 (IntKind.wrap .i64 (i+1)))] w1))
 (some (.slice out outn outc,w)):=by kernel_rfl
def Dt6:Cuts:={ globs:=0,loops:=[],regs:=[],plans:=[] }
def Et6:List Item:=B3 Tryz.f34
theorem G46 (C:B0) (R:B2) (k:Int) (fv0:Addr) (h:H) :
 B4 PR Dt6 C R A60 Tryz.f34 100000 true Et6 [(0,.int .i64 k),(1,.pointer (some fv0))] h =
 gPtr fv0 h fun x=>bnd (C I7 [.pointer x,.int .i64 k] h) fun r w=>as2 r fun r_1 r_2=>aAgg r_1 fun x_1=>aInt .i64 r_2 fun x_2=>nw (.cells D7 false [.int .i64 0,.int .i64 0,.int .i64 0,.int .i64 0]) w fun b w1=>ck (List.length x_1=4) (pAgg ⟨b,0,none⟩ x_1 w1 fun w2=>some (.bool (x_2==0),w2)):=by kernel_rfl
def Ao8:Cuts:={ globs:=0,loops:=[],regs:=[],plans:=[] }
def Bh1:List Item:=B3 Tryz.f38
theorem Dk0 (C:B0) (R:B2) (c:Option Addr) (i:Int) (p:List Value) (h:H) :
 B4 PR Ao8 C R O9 Tryz.f38 100000 true Bh1 [(0,.pointer c),(1,.int .i64 i),(2,.agg ⟨p⟩)] h =
 nw (.cells D4 false p) h fun b w=>gAgg ⟨b,0,none⟩ 36 w fun x=>bnd (C Aw8 [.agg ⟨x⟩] w) fun r w1=>as2 r fun r_1 r_2=>aSl r_1 fun x_1 xn xc=>aBool r_2 fun x_2=>bnd (C As2 [.int .i64 i] w1) fun r_3 w2=>aAgg r_3 fun x_3=>bnd (C I2 [.pointer c,.agg ⟨x_3⟩,.slice x_1 xn xc,.bool x_2] w2) fun r_4 w3=>aBool r_4 fun x_4=>some (.bool x_4,w3):=by kernel_rfl
def Df4:Cuts:={ globs:=0,loops:=[],regs:=[],plans:=[] }
def Eh5:List Item:=B3 Tryz.f46
theorem Gw1 (C:B0) (R:B2) (f:List Value) (h:H) :
 B4 PR Df4 C R Aw6 Tryz.f46 100000 true Eh5 [(0,.agg ⟨f⟩)] h =
 nw (.cells D7 false f) h fun b w=>nw (.cells L9 false [.int .i64 0,.int .i64 0,.slice none 0 0,.bool false]) w fun b_1 w1=>gInt .i64 (Addr.add ⟨b,0,none⟩ 3) w1 fun x=>cond (x==1)
 (bnd (C Q1 [.int .i64 111] w1) fun r w2=>aAgg r fun x_1=>ck (List.length x_1=4) (pAgg ⟨b_1,0,none⟩ x_1 w2 fun w3=>gAgg ⟨b_1,0,none⟩ 4 w3 fun x_2=>some (.agg ⟨x_2⟩,w3)))
 (pAgg ⟨b_1,0,none⟩ [.int .i64 0,.int .i64 0,.slice none 0 0,.bool true] w1 fun w4=>gAgg ⟨b_1,0,none⟩ 4 w4 fun x_3=>some (.agg ⟨x_3⟩,w4)):=by kernel_rfl
def S9:Cuts:={ globs:=0,loops:=[(1,[0,5]),(6,[0,12]),(11,[0,20,21])],regs:=[],plans:=[] }
def Aa5:List Item:=B3 Tryz.f59
def Ad2:List Item:=stk [0,0,1,4,5] Aa5
def Ad4:List Item:=stk [0,1,0,0,1,4,5] Aa5
def Ad5:List Item:=stk [0,1,0,1,0,0,1,4,5] Aa5
theorem D00 (C:B0) (R:B2) (c:Option Addr) (h:H) :
 B4 PR S9 C R D5 Tryz.f59 100000 true Aa5 [(0,.pointer c)] h =
 R D5 Ad2 [(0,.pointer c),(5,.int .i64 0)] h:=by kernel_rfl
theorem Bg6 (C:B0) (R:B2) (c:Option Addr) (x5:Int) (h:H) :
 B4 PR S9 C R D5 Tryz.f59 100000 true Ad2 [(0,.pointer c),(5,.int .i64 x5)] h =
 cond (decide (x5<8))
 (bnd (C U1 [.pointer c,.int .i64 x5] h) fun r w=>as2 r fun r_1 r_2=>aAgg r_1 fun _=>aInt .i64 r_2 fun _=>R D5 Ad2 [(0,.pointer c),(5,.int .i64 (IntKind.wrap .i64 (x5+1)))] w)
 (R D5 Ad4 [(0,.pointer c),(12,.int .i64 0)] h):=by kernel_rfl
theorem Bg8 (C:B0) (R:B2) (c:Option Addr) (x12:Int) (h:H) :
 B4 PR S9 C R D5 Tryz.f59 100000 true Ad4 [(0,.pointer c),(12,.int .i64 x12)] h =
 cond (decide (x12<12))
 (bnd (C I7 [.pointer c,.int .i64 x12] h) fun r w=>as2 r fun r_1 r_2=>aAgg r_1 fun _=>aInt .i64 r_2 fun _=>R D5 Ad4 [(0,.pointer c),(12,.int .i64 (IntKind.wrap .i64 (x12+1)))] w)
 (bnd (C Ab0 [.pointer c,.int .i64 3] h) fun r_3 w1=>aInt .i64 r_3 fun x_2=>R D5 Ad5 [(0,.pointer c),(20,.int .i64 x_2),(21,.int .i64 0)] w1):=by kernel_rfl
theorem Bf9 (C:B0) (R:B2) (c:Option Addr) (x20:Int) (x21:Int) (h:H) :
 B4 PR S9 C R D5 Tryz.f59 100000 true Ad5 [(0,.pointer c),(20,.int .i64 x20),(21,.int .i64 x21)] h =
 cond (decide (x21<x20))
 (bnd (C O5 [.pointer c,.int .i64 x21] h) fun r w=>as2 r fun r_1 r_2=>aAgg r_1 fun _=>aInt .i64 r_2 fun _=>R D5 Ad5 [(0,.pointer c),(20,.int .i64 x20),(21,.int .i64 (IntKind.wrap .i64 (x21+1)))] w)
 (bnd (C S8 [.pointer c] h) fun r_3 w1=>as2 r_3 fun r_4 r_5=>aAgg r_4 fun _=>aInt .i64 r_5 fun _=>bnd (C Ah4 [.pointer c] w1) fun r_6 w2=>as2 r_6 fun r_7 r_8=>aInt .i64 r_7 fun _=>aBool r_8 fun _=>some (.tuple ⟨[]⟩,w2)):=by kernel_rfl
def A16:Cuts:={ globs:=0,loops:=[],regs:=[],plans:=[] }
def Bq5:List Item:=B3 Tryz.f64
theorem D18 (C:B0) (R:B2) (c:Option Addr) (h:H) :
 B4 PR A16 C R S8 Tryz.f64 100000 true Bq5 [(0,.pointer c)] h =
 nw (.cells D4 false [.int .i64 0,.int .i64 0,.int .i64 0,.int .i64 0,.int .u8 0,.int .u8 0,.int .u8 0,.int .u8 0,.int .u8 0,.int .u8 0,.int .u8 0,.int .u8 0,.int .u8 0,.int .u8 0,.int .u8 0,.int .u8 0,.int .u8 0,.int .u8 0,.int .u8 0,.int .u8 0,.int .u8 0,.int .u8 0,.int .u8 0,.int .u8 0,.int .u8 0,.int .u8 0,.int .u8 0,.int .u8 0,.int .u8 0,.int .u8 0,.int .u8 0,.int .u8 0,.int .u8 0,.int .u8 0,.int .u8 0,.int .u8 0]) h fun b w=>bnd (C I4 [.pointer c,.agg ⟨[.int .i64 4,.int .i64 0]⟩,.func (.func Aw1) ⟨[]⟩ ⟨[]⟩] w) fun r w1=>as2 r fun r_1 r_2=>aAgg r_1 fun x=>aInt .i64 r_2 fun x_1=>ck (List.length x=36) (pAgg ⟨b,0,none⟩ x w1 fun w2=>gAgg ⟨b,0,none⟩ 36 w2 fun x_2=>some (.tuple ⟨[.agg ⟨x_2⟩,.int .i64 x_1]⟩,w2)):=by kernel_rfl
def Ao0:Cuts:={ globs:=0,loops:=[],regs:=[],plans:=[] }
def Bf0:List Item:=B3 Tryz.f65
theorem Dk1 (C:B0) (R:B2) (c:Option Addr) (p:List Value) (h:H) :
 B4 PR Ao0 C R P1 Tryz.f65 100000 true Bf0 [(0,.pointer c),(1,.agg ⟨p⟩)] h =
 nw (.cells D4 false p) h fun b w=>gAgg ⟨b,0,none⟩ 36 w fun x=>bnd (C Aw8 [.agg ⟨x⟩] w) fun r w1=>as2 r fun r_1 r_2=>aSl r_1 fun x_1 xn xc=>aBool r_2 fun x_2=>bnd (C I2 [.pointer c,.agg ⟨[.int .i64 4,.int .i64 0]⟩,.slice x_1 xn xc,.bool x_2] w1) fun r_3 w2=>aBool r_3 fun x_3=>some (.bool x_3,w2):=by kernel_rfl
def A51:Cuts:={ globs:=0,loops:=[(3,[1,2,3,4]),(7,[1,2,3,4,5]),(13,[1,2,3,6])],regs:=[],plans:=[] }
def Bj3:List Item:=B3 Tryz.f68
def Bf2:List Item:=stk [0,1,0,1,0,0,1,4,5] Bj3
def Ay5:List Item:=stk [0,1,0,1,0,0,1,4,5,6,0,1,0,4,0,1,0,0,1,4,5] Bj3
def Bg9:List Item:=stk [0,1,0,1,0,1,0,0,1,4,5] Bj3
theorem G66 (C:B0) (R:B2) (p:List Value) (h:H) :
 B4 PR A51 C R J6 Tryz.f68 100000 true Bj3 [(0,.agg ⟨p⟩)] h =
 nw (.cells Bz7 false p) h fun b w=>nw (.cells E5 false [.slice none 0 0,.slice none 0 0,.slice none 0 0,.int .i64 0,.slice none 0 0]) w fun b_1 w1=>gInt .i64 (Addr.add ⟨b,0,none⟩ 2) w1 fun x=>nw (.cells E5 false [.slice none 0 0,.slice none 0 0,.slice none 0 0,.int .i64 0,.slice none 0 0]) w1 fun b_2 w2=>pAgg ⟨b_2,0,none⟩ [.slice none 0 0,.slice none 0 0,.slice none 0 0,.int .i64 x,.slice none 0 0] w2 fun w3=>R J6 Bf2 [(1,.pointer (some ⟨b,0,none⟩)),(2,.pointer (some ⟨b_1,0,none⟩)),(3,.pointer (some ⟨b_2,0,none⟩)),(4,.int .i64 0)] w3:=by kernel_rfl
theorem Dx7 (C:B0) (R:B2) (p:Addr) (x2:Addr) (b:Addr) (s:Int) (h:H) :
 B4 PR A51 C R J6 Tryz.f68 100000 true Bf2 [(1,.pointer (some p)),(2,.pointer (some x2)),(3,.pointer (some b)),(4,.int .i64 s)] h =
 gSl (Addr.add p 0) h fun _ xn _=>cond (decide (s<((xn:Nat):Int)))
 (gSl (Addr.add b 0) h fun x_1 xn_1 xc_1=>nw (.cells D0 false [.int .i64 20]) h fun b_1 w=>gCells (some ⟨b_1,0,none⟩) (1*1) w fun cs=>ckB (fitsOpen x_1 D0 w) (apd D0 1 x_1 xn_1 xc_1 1 cs w fun a an ac w1=>pV (Addr.add b 0) (.slice a an ac) w1 fun w2=>R J6 Ay5 [(1,.pointer (some p)),(2,.pointer (some x2)),(3,.pointer (some b)),(4,.int .i64 s),(5,.int .i64 0)] w2))
 (R J6 Bg9 [(1,.pointer (some p)),(2,.pointer (some x2)),(3,.pointer (some b)),(6,.int .i64 0)] h):=by kernel_rfl
theorem Dw2 (C:B0) (R:B2) (p:Addr) (x2:Addr) (b:Addr) (s:Int) (i:Int) (h:H) :
 B4 PR A51 C R J6 Tryz.f68 100000 true Ay5 [(1,.pointer (some p)),(2,.pointer (some x2)),(3,.pointer (some b)),(4,.int .i64 s),(5,.int .i64 i)] h =
 cond (decide (i<9))
 (gSl (Addr.add b 1) h fun x xn xc=>nw (.cells D0 false [.int .i64 s]) h fun b_1 w=>gCells (some ⟨b_1,0,none⟩) (1*1) w fun cs=>ckB (fitsOpen x D0 w) (apd D0 1 x xn xc 1 cs w fun a an ac w1=>pV (Addr.add b 1) (.slice a an ac) w1 fun w2=>R J6 Ay5 [(1,.pointer (some p)),(2,.pointer (some x2)),(3,.pointer (some b)),(4,.int .i64 s),(5,.int .i64 (IntKind.wrap .i64 (i+1)))] w2))
 (gSl (Addr.add b 2) h fun x_1 xn_1 xc_1=>nw (.cells D0 false [.int .i64 s]) h fun b_2 w3=>nw (.cells Q5 false [.slice (some ⟨b_2,0,none⟩) 1 1]) w3 fun b_3 w4=>gCells (some ⟨b_3,0,none⟩) (1*1) w4 fun cs_1=>ckB (fitsOpen x_1 Q5 w4) (apd Q5 1 x_1 xn_1 xc_1 1 cs_1 w4 fun a_1 an_1 ac_1 w5=>pV (Addr.add b 2) (.slice a_1 an_1 ac_1) w5 fun w6=>gSl (Addr.add b 4) w6 fun x_2 xn_2 xc_2=>nw (.cells D0 false [.int .i64 s]) w6 fun b_4 w7=>nw (.cells J0 false [.int .i64 s,.int .i64 0,.int .i64 0,.int .i64 492,.slice (some ⟨b_4,0,none⟩) 1 1]) w7 fun b_5 w8=>gCells (some ⟨b_5,0,none⟩) (1*5) w8 fun cs_2=>ckB (fitsOpen x_2 J0 w8) (apd J0 5 x_2 xn_2 xc_2 1 cs_2 w8 fun a_2 an_2 ac_2 w9=>pV (Addr.add b 4) (.slice a_2 an_2 ac_2) w9 fun w10=>R J6 Bf2 [(1,.pointer (some p)),(2,.pointer (some x2)),(3,.pointer (some b)),(4,.int .i64 (IntKind.wrap .i64 (s+1)))] w10))):=by kernel_rfl
theorem Dv6 (C:B0) (R:B2) (p:Addr) (x2:Addr) (b:Addr) (i:Int) (h:H) :
 B4 PR A51 C R J6 Tryz.f68 100000 true Bg9 [(1,.pointer (some p)),(2,.pointer (some x2)),(3,.pointer (some b)),(6,.int .i64 i)] h =
 gSl (Addr.add p 1) h fun _ xn _=>cond (decide (i<((xn:Nat):Int)))
 (gSl (Addr.add p 1) h fun x_1 xn_1 _=>aSome x_1 fun p_1=>ck ((0:Int)≤i∧i<((xn_1:Nat):Int)) (gAgg (Addr.add (B8 p_1) (Int.toNat i*2)) 2 h fun x_2=>nw (.cells By9 false [.int .i64 0,.int .i64 0]) h fun b_1 w=>ck (List.length x_2=2) (pAgg ⟨b_1,0,none⟩ x_2 w fun w1=>gSl (Addr.add b 4) w1 fun x_3 xn_2 xc_2=>gInt .i64 (Addr.add ⟨b_1,0,none⟩ 0) w1 fun x_4=>gInt .i64 (Addr.add ⟨b_1,0,none⟩ 0) w1 fun x_5=>gInt .i64 (Addr.add ⟨b_1,0,none⟩ 1) w1 fun x_6=>nw (.cells D0 false [.int .i64 x_5,.int .i64 x_6]) w1 fun b_2 w2=>nw (.cells J0 false [.int .i64 x_4,.int .i64 (IntKind.wrap .i64 (8+i)),.int .i64 0,.int .i64 40,.slice (some ⟨b_2,0,none⟩) 2 2]) w2 fun b_3 w3=>gCells (some ⟨b_3,0,none⟩) (1*5) w3 fun cs=>ckB (fitsOpen x_3 J0 w3) (apd J0 5 x_3 xn_2 xc_2 1 cs w3 fun a an ac w4=>pV (Addr.add b 4) (.slice a an ac) w4 fun w5=>R J6 Bg9 [(1,.pointer (some p)),(2,.pointer (some x2)),(3,.pointer (some b)),(6,.int .i64 (IntKind.wrap .i64 (i+1)))] w5))))
 (gAgg b 5 h fun x_7=>ck (List.length x_7=5) (pAgg x2 x_7 h fun w6=>gAgg x2 5 w6 fun x_8=>some (.agg ⟨x_8⟩,w6))):=by kernel_rfl
def Bo8:Cuts:={ globs:=0,loops:=[],regs:=[],plans:=[(4,⟨[0,1,2,3,4,5,6,7,8,9,10,11,12,13,14,15,16],[0,1,3,7,0,0,32,0,128,0,512,2047,4095,8191,8191,16383,65535],[],[]⟩),(6,⟨[0,1,2,3,4,5,6,7,8,9,10,11,12],[0,1,3,7,0,0,32,0,128,0,512,2047,4095],[],[]⟩),(8,⟨[0,1,2,3,4,5,6,7,8,9,10,11,12,13,14,15,16],[0,1,3,7,0,0,32,0,128,0,512,0,2048,0,8192,32767,65535],[],[]⟩)] }
def Dh5:List Item:=B3 Tryz.f74
theorem E02 (C:B0) (R:B2) (k:Option Addr) (env:Int) (c:List Value) (h:H) :
 B4 PR Bo8 C R A33 Tryz.f74 100000 true Dh5 [(0,.pointer k),(1,.int .i64 env),(2,.agg ⟨c⟩)] h =
 nw (.cells Ax4 false c) h fun b w=>gInt .i64 (Addr.add ⟨b,0,none⟩ 0) w fun x=>cond (x==1)
 (aSome k fun p=>gPtr (Addr.add p 5) w fun x_1=>gInt .i64 (Addr.add ⟨b,0,none⟩ 1) w fun x_2=>gInt .i64 (Addr.add ⟨b,0,none⟩ 2) w fun x_3=>gInt .i64 (Addr.add ⟨b,0,none⟩ 3) w fun x_4=>bnd (C Ac3 [.pointer x_1,.int .i64 env,.int .i64 x_2,.int .i64 x_3,.int .i64 x_4] w) fun r w1=>as2 r fun r_1 r_2=>aSl r_1 fun x_5 xn xc=>aInt .i64 r_2 fun x_6=>some (.tuple ⟨[.slice x_5 xn xc,.int .i64 x_6,.bool true]⟩,w1))
 (cond (x==2)
 (aSome k fun p_1=>gPtr (Addr.add p_1 5) w fun x_7=>gInt .i64 (Addr.add ⟨b,0,none⟩ 1) w fun x_8=>gInt .i64 (Addr.add ⟨b,0,none⟩ 2) w fun x_9=>gSl (Addr.add ⟨b,0,none⟩ 6) w fun x_10 xn_1 xc_1=>bnd (C Aa7 [.pointer x_7,.int .i64 env,.int .i64 x_8,.int .i64 x_9,.slice x_10 xn_1 xc_1] w) fun r_3 w2=>aInt .i64 r_3 fun x_11=>some (.tuple ⟨[.slice none 0 0,.int .i64 x_11,.bool true]⟩,w2))
 (cond (x==3)
 (aSome k fun p_2=>gPtr (Addr.add p_2 5) w fun x_12=>gInt .i64 (Addr.add ⟨b,0,none⟩ 1) w fun x_13=>gInt .i64 (Addr.add ⟨b,0,none⟩ 2) w fun x_14=>gInt .i64 (Addr.add ⟨b,0,none⟩ 4) w fun x_15=>gInt .i64 (Addr.add ⟨b,0,none⟩ 5) w fun x_16=>gInt .i64 (Addr.add ⟨b,0,none⟩ 3) w fun x_17=>bnd (C Al5 [.pointer x_12,.int .i64 env,.int .i64 x_13,.int .i64 x_14,.int .i64 x_15,.int .i64 x_16,.int .i64 x_17] w) fun r_4 w3=>aInt .i64 r_4 fun x_18=>some (.tuple ⟨[.slice none 0 0,.int .i64 x_18,.bool true]⟩,w3))
 (some (.tuple ⟨[.slice none 0 0,.int .i64 0,.bool false]⟩,w)))):=by kernel_rfl
def Df1:Cuts:={ globs:=0,loops:=[],regs:=[],plans:=[(1,⟨[1,0,2,3,4,5,6],[0,0,3,7,7,31,63],[(0,[1])],[]⟩)] }
def Eh9:List Item:=B3 Tryz.f95
theorem Gx9 (C:B0) (R:B2) (p:List Value) (h:H) :
 B4 PR Df1 C R Aw8 Tryz.f95 100000 true Eh9 [(0,.agg ⟨p⟩)] h =
 nw (.cells D4 false p) h fun b w=>gAgg ⟨b,0,none⟩ 36 w fun x=>bnd (C Bk5 [] w) fun r w1=>aPtr r fun x_1=>gAgg ⟨b,0,none⟩ 36 w1 fun x_2=>same (.agg ⟨x⟩) (.agg ⟨x_2⟩) (bnd (C V7 [.pointer x_1,.agg ⟨x⟩] w1) fun r_1 w2=>as2 r_1 fun r_2 r_3=>aSl r_2 fun x_3 xn xc=>aBool r_3 fun x_4=>some (.tuple ⟨[.slice x_3 xn xc,.bool x_4]⟩,w2)):=by kernel_rfl
def En6:Cuts:={ globs:=0,loops:=[],regs:=[],plans:=[] }
def Gu2:List Item:=B3 Tryz.f102
theorem H53 (C:B0) (R:B2) (p:List Value) (h:H) :
 B4 PR En6 C R Bx7 Tryz.f102 100000 true Gu2 [(0,.agg ⟨p⟩)] h =
 nw (.cells D4 false p) h fun b w=>gInt .i64 (Addr.add ⟨b,0,none⟩ 0) w fun x=>bnd (C Ar8 [.int .i64 x,.int .i64 31] w) fun r w1=>aBool r fun x_1=>bnd (cond x_1 (gInt .i64 (Addr.add ⟨b,0,none⟩ 1) w1 fun x_2=>bnd (C Ar8 [.int .i64 x_2,.int .i64 32] w1) fun r_1 w2=>aBool r_1 fun x_3=>some (x_3,w2)) (some (false,w1))) fun c w3=>bnd (cond c (gInt .i64 (Addr.add ⟨b,0,none⟩ 2) w3 fun x_4=>bnd (C Ar8 [.int .i64 x_4,.int .i64 8] w3) fun r_2 w4=>aBool r_2 fun x_5=>some (x_5,w4)) (some (false,w3))) fun c_1 w5=>bnd (cond c_1 (gInt .i64 (Addr.add ⟨b,0,none⟩ 3) w5 fun x_6=>bnd (C Ar8 [.int .i64 x_6,.int .i64 8] w5) fun r_3 w6=>aBool r_3 fun x_7=>some (x_7,w6)) (some (false,w5))) fun c_2 w7=>some (.bool c_2,w7):=by kernel_rfl
def B30:Cuts:={ globs:=0,loops:=[(5,[1,3,9,10])],regs:=[],plans:=[] }
def Ds0:List Item:=B3 Tryz.f104
def Bf1:List Item:=stk [0,1,0,1,0,1,0,0,1,4,5] Ds0
theorem Ha3 (C:B0) (R:B2) (p:List Value) (h:H) :
 B4 PR B30 C R Ak9 Tryz.f104 100000 true Ds0 [(0,.agg ⟨p⟩)] h =
 nw (.cells D4 false p) h fun b w=>gAgg ⟨b,0,none⟩ 36 w fun x=>bnd (C Bx7 [.agg ⟨x⟩] w) fun r w1=>aBool r fun x_1=>cond (!x_1)
 (some (.slice none 0 0,w1))
 (gInt .i64 (Addr.add ⟨b,0,none⟩ 1) w1 fun x_2=>R Ak9 Bf1 [(1,.pointer (some ⟨b,0,none⟩)),(3,.slice none 0 0),(9,.int .i64 x_2),(10,.int .i64 0)] w1):=by kernel_rfl
theorem Dy8 (C:B0) (R:B2) (p:Addr) (out:Option Addr) (outn outc:Nat) (x9:Int) (x10:Int) (h:H) :
 B4 PR B30 C R Ak9 Tryz.f104 100000 true Bf1 [(1,.pointer (some p)),(3,.slice out outn outc),(9,.int .i64 x9),(10,.int .i64 x10)] h =
 cond (decide (x10<x9))
 (gInt .i64 (Addr.add p 0) h fun x=>ck ((0:Int)≤Int.tmod (IntKind.wrap .i64 (x+x10)) 32∧Int.tmod (IntKind.wrap .i64 (x+x10)) 32<((32:Nat):Int)) (gInt .u8 (Addr.add (Addr.add p 4) (Int.toNat (Int.tmod (IntKind.wrap .i64 (x+x10)) 32)*1)) h fun x_1=>nw (.cells B1 false [.int .u8 x_1]) h fun b w=>gCells (some ⟨b,0,none⟩) (1*1) w fun cs=>ckB (fitsOpen out B1 w) (apd B1 1 out outn outc 1 cs w fun a an ac w1=>R Ak9 Bf1 [(1,.pointer (some p)),(3,.slice a an ac),(9,.int .i64 x9),(10,.int .i64 (IntKind.wrap .i64 (x10+1)))] w1)))
 (some (.slice out outn outc,h)):=by kernel_rfl
def Ae4:Cuts:={ globs:=0,loops:=[(2,[0,1,7,8])],regs:=[],plans:=[] }
def As8:List Item:=B3 Tryz.f106
def Z9:List Item:=stk [0,1,0,0,1,4,5] As8
theorem Dr3 (C:B0) (R:B2) (s:Option Addr) (sn sc:Nat) (v:Int) (h:H) :
 B4 PR Ae4 C R H7 Tryz.f106 100000 true As8 [(0,.slice s sn sc),(1,.int .i64 v)] h =
 R H7 Z9 [(0,.slice s sn sc),(1,.int .i64 v),(7,.int .i64 ((sn:Nat):Int)),(8,.int .i64 0)] h:=by kernel_rfl
theorem A74 (C:B0) (R:B2) (s:Option Addr) (sn sc:Nat) (v:Int) (x7:Int) (x8:Int) (h:H) :
 B4 PR Ae4 C R H7 Tryz.f106 100000 true Z9 [(0,.slice s sn sc),(1,.int .i64 v),(7,.int .i64 x7),(8,.int .i64 x8)] h =
 cond (decide (x8<x7))
 (aSome s fun p=>ck ((0:Int)≤x8∧x8<((sn:Nat):Int)) (gInt .i64 (Addr.add (B8 p) (Int.toNat x8*1)) h fun x=>cond (v==x)
 (some (.int .i64 x8,h))
 (R H7 Z9 [(0,.slice s sn sc),(1,.int .i64 v),(7,.int .i64 x7),(8,.int .i64 (IntKind.wrap .i64 (x8+1)))] h)))
 (some (.int .i64 (-1),h)):=by kernel_rfl
def Bj4:Cuts:={ globs:=0,loops:=[(7,[1,3,52,53,54]),(13,[1,3,63,64,65])],regs:=[],plans:=[] }
def By2:List Item:=B3 Tryz.f118
def Bg3:List Item:=stk [0,1,0,1,0,1,0,1,0,0,1,4,5] By2
def Bf4:List Item:=stk [0,1,0,1,0,1,0,1,0,1,0,0,1,4,5] By2
theorem G19 (C:B0) (R:B2) (c:List Value) (h:H) :
 B4 PR Bj4 C R S6 Tryz.f118 100000 true By2 [(0,.agg ⟨c⟩)] h =
 nw (.cells E5 false c) h fun b w=>gSl (Addr.add ⟨b,0,none⟩ 0) w fun _ xn _=>bnd (cond (decide (((xn:Nat):Int)<1)) (some (true,w)) (gSl (Addr.add ⟨b,0,none⟩ 0) w fun _ xn_1 _=>some (decide (((xn_1:Nat):Int)>4),w))) fun c_1 w1=>bnd (cond c_1 (some (true,w1)) (gSl (Addr.add ⟨b,0,none⟩ 1) w1 fun _ xn_2 _=>some (decide (((xn_2:Nat):Int)>40),w1))) fun c_2 w2=>bnd (cond c_2 (some (true,w2)) (gSl (Addr.add ⟨b,0,none⟩ 2) w2 fun _ xn_3 _=>some (decide (((xn_3:Nat):Int)>8),w2))) fun c_3 w3=>bnd (cond c_3 (some (true,w3)) (gSl (Addr.add ⟨b,0,none⟩ 4) w3 fun _ xn_4 _=>some (decide (((xn_4:Nat):Int)>16),w3))) fun c_4 w4=>bnd (cond c_4 (some (true,w4)) (gInt .i64 (Addr.add ⟨b,0,none⟩ 3) w4 fun x_5=>some (decide (x_5<1),w4))) fun c_5 w5=>bnd (cond c_5 (some (true,w5)) (gInt .i64 (Addr.add ⟨b,0,none⟩ 3) w5 fun x_6=>some (decide (x_6>1000),w5))) fun c_6 w6=>cond c_6
 (some (.bool false,w6))
 (gSl (Addr.add ⟨b,0,none⟩ 1) w6 fun x_7 xn_5 xc_5=>bnd (C E9 [.slice x_7 xn_5 xc_5,.func (.func G9) ⟨[]⟩ ⟨[.pointer (some ⟨b,0,none⟩)]⟩] w6) fun r w7=>aBool r fun x_8=>cond x_8
 (some (.bool false,w7))
 (gSl (Addr.add ⟨b,0,none⟩ 2) w7 fun x_9 xn_6 xc_6=>R S6 Bg3 [(1,.pointer (some ⟨b,0,none⟩)),(3,.func (.func G9) ⟨[]⟩ ⟨[.pointer (some ⟨b,0,none⟩)]⟩),(52,.slice x_9 xn_6 xc_6),(53,.int .i64 ((xn_6:Nat):Int)),(54,.int .i64 0)] w7)):=by kernel_rfl
theorem Dw3 (C:B0) (R:B2) (c:Addr) (nonev:Addr) (x52:Option Addr) (x52n x52c:Nat) (x53:Int) (x54:Int) (h:H) :
 B4 PR Bj4 C R S6 Tryz.f118 100000 true Bg3 [(1,.pointer (some c)),(3,.func (.func G9) ⟨[]⟩ ⟨[.pointer (some nonev)]⟩),(52,.slice x52 x52n x52c),(53,.int .i64 x53),(54,.int .i64 x54)] h =
 cond (decide (x54<x53))
 (aSome x52 fun p=>ck ((0:Int)≤x54∧x54<((x52n:Nat):Int)) (gSl (Addr.add (B8 p) (Int.toNat x54*1)) h fun x xn xc=>bnd (C E9 [.slice x xn xc,.func (.func G9) ⟨[]⟩ ⟨[.pointer (some nonev)]⟩] h) fun r w=>aBool r fun x_1=>cond x_1
 (some (.bool false,w))
 (R S6 Bg3 [(1,.pointer (some c)),(3,.func (.func G9) ⟨[]⟩ ⟨[.pointer (some nonev)]⟩),(52,.slice x52 x52n x52c),(53,.int .i64 x53),(54,.int .i64 (IntKind.wrap .i64 (x54+1)))] w)))
 (gSl (Addr.add c 4) h fun x_2 xn_1 xc_1=>R S6 Bf4 [(1,.pointer (some c)),(3,.func (.func G9) ⟨[]⟩ ⟨[.pointer (some nonev)]⟩),(63,.slice x_2 xn_1 xc_1),(64,.int .i64 ((xn_1:Nat):Int)),(65,.int .i64 0)] h):=by kernel_rfl
theorem Dv0 (C:B0) (R:B2) (c:Addr) (nonev:Addr) (x63:Option Addr) (x63n x63c:Nat) (x64:Int) (x65:Int) (h:H) :
 B4 PR Bj4 C R S6 Tryz.f118 100000 true Bf4 [(1,.pointer (some c)),(3,.func (.func G9) ⟨[]⟩ ⟨[.pointer (some nonev)]⟩),(63,.slice x63 x63n x63c),(64,.int .i64 x64),(65,.int .i64 x65)] h =
 cond (decide (x65<x64))
 (aSome x63 fun p=>ck ((0:Int)≤x65∧x65<((x63n:Nat):Int)) (gAgg (Addr.add (B8 p) (Int.toNat x65*5)) 5 h fun x=>nw (.cells J0 false [.int .i64 0,.int .i64 0,.int .i64 0,.int .i64 0,.slice none 0 0]) h fun b w=>ck (List.length x=5) (pAgg ⟨b,0,none⟩ x w fun w1=>gAgg c 5 w1 fun x_1=>gAgg ⟨b,0,none⟩ 5 w1 fun x_2=>bnd (C B35 [.agg ⟨x_1⟩,.agg ⟨x_2⟩] w1) fun r w2=>aBool r fun x_3=>bnd (cond (!x_3) (some (true,w2)) (gSl (Addr.add ⟨b,0,none⟩ 4) w2 fun x_4 xn xc=>bnd (C E9 [.slice x_4 xn xc,.func (.func G9) ⟨[]⟩ ⟨[.pointer (some nonev)]⟩] w2) fun r_1 w3=>aBool r_1 fun x_5=>some (x_5,w3))) fun c_1 w4=>cond c_1
 (some (.bool false,w4))
 (R S6 Bf4 [(1,.pointer (some c)),(3,.func (.func G9) ⟨[]⟩ ⟨[.pointer (some nonev)]⟩),(63,.slice x63 x63n x63c),(64,.int .i64 x64),(65,.int .i64 (IntKind.wrap .i64 (x65+1)))] w4))))
 (some (.bool true,h)):=by kernel_rfl
def As9:Cuts:={ globs:=0,loops:=[],regs:=[],plans:=[] }
def Bh8:List Item:=B3 Tryz.f120
theorem Dp3 (C:B0) (R:B2) (s:Option Addr) (sn sc:Nat) (h:H) :
 B4 PR As9 C R W5 Tryz.f120 100000 true Bh8 [(0,.slice s sn sc)] h =
 cond s.isNone
 (some (.slice none 0 0,h))
 (nw (.cells D0 false []) h fun b w=>gCells s (sn*1) w fun cs=>ckB (fitsOpen (some ⟨b,0,none⟩) D0 w) (apd D0 1 (some ⟨b,0,none⟩) 0 0 sn cs w fun a an ac w1=>some (.slice a an ac,w1))):=by kernel_rfl
def B90:Cuts:={ globs:=0,loops:=[(3,[3,12,13,14])],regs:=[],plans:=[(5,⟨[0,1,2,3,4,5,6,7,8,9,10,11,12,13],[0,0,2,6,14,0,32,96,224,480,1022,2047,4095,8191],[],[]⟩)] }
def D17:List Item:=B3 Tryz.f123
def Bl7:List Item:=stk [0,1,0,1,0,0,1,4,5] D17
theorem Hi3 (C:B0) (R:B2) (frames:Option Addr) (framesn framesc:Nat) (h:H) :
 B4 PR B90 C R Ar9 Tryz.f123 100000 true D17 [(0,.slice frames framesn framesc)] h =
 nw (.cells Aw4 false [.slice none 0 0]) h fun b w=>ckB (fitsOpen frames D0 w) (ck ((0:Int)≤mm2 false ((framesn:Nat):Int) 4∧mm2 false ((framesn:Nat):Int) 4≤((framesc:Nat):Int)) (R Ar9 Bl7 [(3,.pointer (some ⟨b,0,none⟩)),(12,.slice (H8 frames (decide (0<framesc)) (0*1)) ((Int.toNat (mm2 false ((framesn:Nat):Int) 4))-0) (framesc-0)),(13,.int .i64 (((Int.toNat (mm2 false ((framesn:Nat):Int) 4))-0:Nat):Int)),(14,.int .i64 0)] w)):=by kernel_rfl
theorem D45 (C:B0) (R:B2) (q:Addr) (x12:Option Addr) (x12n x12c:Nat) (x13:Int) (x14:Int) (h:H) :
 B4 PR B90 C R Ar9 Tryz.f123 100000 true Bl7 [(3,.pointer (some q)),(12,.slice x12 x12n x12c),(13,.int .i64 x13),(14,.int .i64 x14)] h =
 cond (decide (x14<x13))
 (aSome x12 fun p=>ck ((0:Int)≤x14∧x14<((x12n:Nat):Int)) (gInt .i64 (Addr.add (B8 p) (Int.toNat x14*1)) h fun x=>gSl (Addr.add q 0) h fun x_1 xn xc=>ck ((0:Int)≤mm2 false (mm2 true x 0) 64∧(mm2 false (mm2 true x 0) 64:Int)≤mm2 false (mm2 true x 0) 64∧mm2 false (mm2 true x 0) 64≤(B7:Int)) (nw (.cells D0 false (H6 (Int.toNat (mm2 false (mm2 true x 0) 64)) [.int .i64 0])) h fun b w=>nw (.cells Q5 false [.slice (some ⟨b,0,none⟩) (Int.toNat (mm2 false (mm2 true x 0) 64)) (Int.toNat (mm2 false (mm2 true x 0) 64))]) w fun b_1 w1=>gCells (some ⟨b_1,0,none⟩) (1*1) w1 fun cs=>ckB (fitsOpen x_1 Q5 w1) (apd Q5 1 x_1 xn xc 1 cs w1 fun a an ac w2=>pV (Addr.add q 0) (.slice a an ac) w2 fun w3=>R Ar9 Bl7 [(3,.pointer (some q)),(12,.slice x12 x12n x12c),(13,.int .i64 x13),(14,.int .i64 (IntKind.wrap .i64 (x14+1)))] w3))))
 (some (.pointer (some q),h)):=by kernel_rfl
def Do3:Cuts:={ globs:=0,loops:=[],regs:=[],plans:=[] }
def Eq5:List Item:=B3 Tryz.f124
theorem G09 (C:B0) (R:B2) (m:Option Addr) (s:Option Addr) (h:H) :
 B4 PR Do3 C R B36 Tryz.f124 100000 true Eq5 [(0,.pointer m),(1,.pointer s)] h =
 nw (.cells Dq9 false [.pointer m,.pointer s,.slice none 0 0]) h fun b w=>some (.pointer (some ⟨b,0,none⟩),w):=by kernel_rfl
def Bg4:Cuts:={ globs:=0,loops:=[(3,[0,3,4])],regs:=[],plans:=[(5,⟨[0,1,2,3,4,5,6,7,8,9,10,11,12,13,14,15,16],[0,0,2,6,14,0,0,96,224,480,992,2016,4064,8190,16383,32767,65535],[],[]⟩)] }
def Bz6:List Item:=B3 Tryz.f129
def Ay7:List Item:=stk [0,1,0,1,0,0,1,4,5] Bz6
theorem Gh2 (C:B0) (R:B2) (l:Option Addr) (ln lc:Nat) (h:H) :
 B4 PR Bg4 C R Z8 Tryz.f129 100000 true Bz6 [(0,.slice l ln lc)] h =
 nw (.cells Et9 false [.slice none 0 0]) h fun b w=>R Z8 Ay7 [(0,.slice l ln lc),(3,.pointer (some ⟨b,0,none⟩)),(4,.int .i64 0)] w:=by kernel_rfl
theorem Dd0 (C:B0) (R:B2) (l:Option Addr) (ln lc:Nat) (q:Addr) (i:Int) (h:H) :
 B4 PR Bg4 C R Z8 Tryz.f129 100000 true Ay7 [(0,.slice l ln lc),(3,.pointer (some q)),(4,.int .i64 i)] h =
 bnd (cond (decide (i<((ln:Nat):Int))) (some (decide (i<4),h)) (some (false,h))) fun c w=>cond c
 (gSl (Addr.add q 0) w fun x xn xc=>aSome l fun p=>ck ((0:Int)≤i∧i<((ln:Nat):Int)) (gInt .i64 (Addr.add (B8 p) (Int.toNat i*1)) w fun x_1=>ck ((0:Int)≤mm2 false (mm2 true x_1 0) 64∧(mm2 false (mm2 true x_1 0) 64:Int)≤mm2 false (mm2 true x_1 0) 64∧mm2 false (mm2 true x_1 0) 64≤(B7:Int)) (nw (.cells D67 false (H6 (Int.toNat (mm2 false (mm2 true x_1 0) 64)) [.bool false])) w fun b w1=>nw (.cells Dr5 false [.slice (some ⟨b,0,none⟩) (Int.toNat (mm2 false (mm2 true x_1 0) 64)) (Int.toNat (mm2 false (mm2 true x_1 0) 64))]) w1 fun b_1 w2=>gCells (some ⟨b_1,0,none⟩) (1*1) w2 fun cs=>ckB (fitsOpen x Dr5 w2) (apd Dr5 1 x xn xc 1 cs w2 fun a an ac w3=>pV (Addr.add q 0) (.slice a an ac) w3 fun w4=>R Z8 Ay7 [(0,.slice l ln lc),(3,.pointer (some q)),(4,.int .i64 (IntKind.wrap .i64 (i+1)))] w4))))
 (some (.pointer (some q),w)):=by kernel_rfl
def Bk4:Cuts:={ globs:=0,loops:=[],regs:=[],plans:=[(5,⟨[0,1,2,3,4,5,6,7,9,10,11,12,13,14,8,15,16,17,18,19,20,21],[0,0,0,4,12,28,0,64,252,0,512,1536,3584,0,8192,32764,65533,131069,262141,524287,1048575,2097151],[(8,[12])],[]⟩)] }
def Dc7:List Item:=B3 Tryz.f133
theorem Es4 (C:B0) (R:B2) (r:Option Addr) (lo:Int) (n:Int) (h:H) :
 B4 PR Bk4 C R Az0 Tryz.f133 100000 true Dc7 [(0,.pointer r),(1,.int .i64 lo),(2,.int .i64 n)] h =
 aSome r fun p=>gSl (Addr.add p 0) h fun _ xn _=>bnd (C Af9 [.int .i64 lo,.int .i64 n,.int .i64 ((xn:Nat):Int)] h) fun r_1 w=>aBool r_1 fun x_1=>cond (!x_1)
 (some (.tuple ⟨[.int .i64 0,.int .i64 1]⟩,w))
 (aSome r fun p_1=>gSl (Addr.add p_1 1) w fun _ xn_1 _=>cond (decide (((xn_1:Nat):Int)≥32))
 (some (.tuple ⟨[.int .i64 0,.int .i64 4]⟩,w))
 (aSome r fun p_2=>gSl (Addr.add p_2 1) w fun x_3 xn_2 xc_2=>nw (.cells D0 false [.int .i64 lo]) w fun b w1=>aSome r fun p_3=>gSl (Addr.add p_3 2) w1 fun x_4 xn_3 xc_3=>nw (.cells D0 false [.int .i64 n]) w1 fun b_1 w2=>gCells (some ⟨b,0,none⟩) (1*1) w2 fun cs=>ckB (fitsOpen x_3 D0 w2) (apd D0 1 x_3 xn_2 xc_2 1 cs w2 fun a an ac w3=>gSl (Addr.add p_3 2) w3 fun x_5 xn_4 xc_4=>same (.slice x_4 xn_3 xc_3) (.slice x_5 xn_4 xc_4) (gCells (some ⟨b_1,0,none⟩) (1*1) w3 fun cs_1=>ckB (fitsOpen x_4 D0 w3) (apd D0 1 x_4 xn_3 xc_3 1 cs_1 w3 fun a_1 an_1 ac_1 w4=>aSome r fun p_4=>pV (Addr.add p_4 1) (.slice a an ac) w4 fun w5=>aSome r fun p_5=>pV (Addr.add p_5 2) (.slice a_1 an_1 ac_1) w5 fun w6=>aSome r fun p_6=>gSl (Addr.add p_6 1) w6 fun _ xn_5 _=>some (.tuple ⟨[.int .i64 (IntKind.wrap .i64 (((xn_5:Nat):Int)-1)),.int .i64 0]⟩,w6)))))):=by kernel_rfl
def Bo2:Cuts:={ globs:=0,loops:=[],regs:=[],plans:=[] }
def Dg7:List Item:=B3 Tryz.f136
theorem E14 (C:B0) (R:B2) (k:Option Addr) (h:H) :
 B4 PR Bo2 C R An4 Tryz.f136 100000 true Dg7 [(0,.pointer k)] h =
 aSome k fun p=>gPtr (Addr.add p 3) h fun x=>some (.pointer x,h):=by kernel_rfl
def A59:Cuts:={ globs:=0,loops:=[],regs:=[],plans:=[] }
def Bx8:List Item:=B3 Tryz.f139
theorem D48 (C:B0) (R:B2) (r:Option Addr) (env:Int) (name:Int) (atv:Int) (n:Int) (h:H) :
 B4 PR A59 C R Ac3 Tryz.f139 100000 true Bx8 [(0,.pointer r),(1,.int .i64 env),(2,.int .i64 name),(3,.int .i64 atv),(4,.int .i64 n)] h =
 bnd (C Aa4 [.pointer r,.int .i64 env,.int .i64 name,.int .i64 1,.int .i64 atv,.int .i64 n] h) fun r_1 w=>as2 r_1 fun r_2 r_3=>aInt .i64 r_2 fun x=>aInt .i64 r_3 fun x_1=>cond (x_1 != 0)
 (some (.tuple ⟨[.slice none 0 0,.int .i64 x_1]⟩,w))
 (aSome r fun p=>gPtr (Addr.add p 0) w fun x_2=>bnd (C Bl0 [.pointer x_2,.int .i64 x,.int .i64 n] w) fun r_4 w1=>as2 r_4 fun r_5 r_6=>aSl r_5 fun x_3 xn xc=>aInt .i64 r_6 fun x_4=>some (.tuple ⟨[.slice x_3 xn xc,.int .i64 x_4]⟩,w1)):=by kernel_rfl
def Bh9:Cuts:={ globs:=0,loops:=[],regs:=[],plans:=[] }
def Da9:List Item:=B3 Tryz.f142
theorem El8 (C:B0) (R:B2) (s:Option Addr) (env:Int) (name:Int) (to:Int) (give:Int) (lo:Int) (n:Int) (h:H) :
 B4 PR Bh9 C R Ay2 Tryz.f142 100000 true Da9 [(0,.pointer s),(1,.int .i64 env),(2,.int .i64 name),(3,.int .i64 to),(4,.int .i64 give),(5,.int .i64 lo),(6,.int .i64 n)] h =
 bnd (C At9 [.pointer s,.int .i64 env,.int .i64 name] h) fun r w=>as2 r fun r_1 r_2=>aAgg r_1 fun x=>aInt .i64 r_2 fun x_1=>nw (.cells P4 false [.int .i64 0,.int .i64 0,.int .i64 0,.int .i64 0,.int .i64 0,.int .i64 0]) w fun b w1=>ck (List.length x=6) (pAgg ⟨b,0,none⟩ x w1 fun w2=>cond (x_1 != 0)
 (some (.tuple ⟨[.int .i64 0,.int .i64 x_1]⟩,w2))
 (gInt .i64 (Addr.add ⟨b,0,none⟩ 1) w2 fun x_2=>bnd (cond ((Q9 .i64 x_2 4)==0) (some (true,w2)) (gInt .i64 (Addr.add ⟨b,0,none⟩ 1) w2 fun x_3=>some ((Et8 .i64 give x_3) != 0,w2))) fun c w3=>cond c
 (some (.tuple ⟨[.int .i64 0,.int .i64 3]⟩,w3))
 (bnd (C Af7 [.pointer s,.int .i64 to] w3) fun r_3 w4=>aBool r_3 fun x_4=>bnd (cond (!x_4) (some (true,w4)) (some (decide (lo<0),w4))) fun c_1 w5=>bnd (cond c_1 (some (true,w5)) (some (decide (n<0),w5))) fun c_2 w6=>bnd (cond c_2 (some (true,w6)) (gInt .i64 (Addr.add ⟨b,0,none⟩ 3) w6 fun x_5=>some (decide (lo>x_5),w6))) fun c_3 w7=>bnd (cond c_3 (some (true,w7)) (gInt .i64 (Addr.add ⟨b,0,none⟩ 3) w7 fun x_6=>some (decide (n>(IntKind.wrap .i64 (x_6-lo))),w7))) fun c_4 w8=>cond c_4
 (some (.tuple ⟨[.int .i64 0,.int .i64 1]⟩,w8))
 (gInt .i64 (Addr.add ⟨b,0,none⟩ 0) w8 fun x_7=>gInt .i64 (Addr.add ⟨b,0,none⟩ 2) w8 fun x_8=>bnd (C At2 [.pointer s,.int .i64 to,.agg ⟨[.int .i64 x_7,.int .i64 give,.int .i64 (IntKind.wrap .i64 (x_8+lo)),.int .i64 n,.int .i64 env,.int .i64 name]⟩] w8) fun r_4 w9=>as2 r_4 fun r_5 r_6=>aInt .i64 r_5 fun x_9=>aInt .i64 r_6 fun x_10=>some (.tuple ⟨[.int .i64 x_9,.int .i64 x_10]⟩,w9))))):=by kernel_rfl
def Bh5:Cuts:={ globs:=0,loops:=[],regs:=[],plans:=[] }
def Db5:List Item:=B3 Tryz.f145
theorem En7 (C:B0) (R:B2) (q:Option Addr) (s:Int) (k:Int) (h:H) :
 B4 PR Bh5 C R Az9 Tryz.f145 100000 true Db5 [(0,.pointer q),(1,.int .i64 s),(2,.int .i64 k)] h =
 bnd (C Ai9 [.pointer q,.int .i64 s] h) fun r w=>aBool r fun x=>cond (!x)
 (some (.int .i64 1,w))
 (bnd (C Ax0 [.pointer q,.int .i64 s,.int .i64 k] w) fun r_1 w1=>aBool r_1 fun x_1=>cond (!x_1)
 (some (.int .i64 5,w1))
 (aSome q fun p=>gSl (Addr.add p 0) w1 fun x_2 xn _=>aSome x_2 fun p_1=>ck ((0:Int)≤s∧s<((xn:Nat):Int)) (gSl (Addr.add (B8 p_1) (Int.toNat s*1)) w1 fun x_3 xn_1 _=>aSome x_3 fun p_2=>ck ((0:Int)≤k∧k<((xn_1:Nat):Int)) (pV (Addr.add (B8 p_2) (Int.toNat k*1)) (.int .i64 0) w1 fun w2=>some (.int .i64 0,w2))))):=by kernel_rfl
def Bv6:Cuts:={ globs:=0,loops:=[],regs:=[],plans:=[(4,⟨[0,1,2,3,4,5,6,7,8,9,10,11],[0,1,3,7,0,31,63,0,128,0,1023,2047],[],[]⟩)] }
def Do9:List Item:=B3 Tryz.f152
theorem E99 (C:B0) (R:B2) (s:Option Addr) (e:Int) (c:List Value) (h:H) :
 B4 PR Bv6 C R A76 Tryz.f152 100000 true Do9 [(0,.pointer s),(1,.int .i64 e),(2,.agg ⟨c⟩)] h =
 nw (.cells P4 false c) h fun b w=>aSome s fun p=>gSl (Addr.add p 0) w fun x xn _=>aSome x fun p_1=>ck ((0:Int)≤e∧e<((xn:Nat):Int)) (gPtr (Addr.add (B8 p_1) (Int.toNat e*1)) w fun x_1=>bnd (C Y0 [.pointer x_1] w) fun r w1=>as2 r fun r_1 r_2=>aInt .i64 r_1 fun x_2=>aBool r_2 fun x_3=>cond (!x_3)
 (some (.tuple ⟨[.int .i64 0,.int .i64 4]⟩,w1))
 (aSome s fun p_2=>gSl (Addr.add p_2 1) w1 fun x_4 xn_1 _=>aSome x_4 fun p_3=>ck ((0:Int)≤e∧e<((xn_1:Nat):Int)) (gSl (Addr.add (B8 p_3) (Int.toNat e*1)) w1 fun x_5 xn_2 _=>gAgg ⟨b,0,none⟩ 6 w1 fun x_6=>aSome x_5 fun p_4=>ck ((0:Int)≤Q9 .i64 x_2 255∧Q9 .i64 x_2 255<((xn_2:Nat):Int)) (ck (List.length x_6=6) (pAgg (Addr.add (B8 p_4) (Int.toNat (Q9 .i64 x_2 255)*6)) x_6 w1 fun w2=>some (.tuple ⟨[.int .i64 x_2,.int .i64 0]⟩,w2)))))):=by kernel_rfl
def De1:Cuts:={ globs:=0,loops:=[],regs:=[],plans:=[] }
def Eh8:List Item:=B3 Tryz.f160
theorem Gx5 (C:B0) (R:B2) (b:Option Addr) (bn bc:Nat) (h:H) :
 B4 PR De1 C R Am5 Tryz.f160 100000 true Eh8 [(0,.slice b bn bc)] h =
 bnd (C Q3 [.slice b bn bc,.func (.func Af6) ⟨[]⟩ ⟨[]⟩] h) fun r w=>aBool r fun x=>some (.bool (!x),w):=by kernel_rfl
def Dg1:Cuts:={ globs:=0,loops:=[],regs:=[],plans:=[] }
def Ej5:List Item:=B3 Tryz.f161
theorem Gw4 (C:B0) (R:B2)  (h:H) :
 B4 PR Dg1 C R Bc5 Tryz.f161 100000 true Ej5 [] h =
 bnd (C Aq1 [.int .i64 8,.func (.func Ar2) ⟨[]⟩ ⟨[]⟩,.func (.func Ar1) ⟨[]⟩ ⟨[]⟩] h) fun r w=>aPtr r fun x=>some (.pointer x,w):=by kernel_rfl
def Ag5:Cuts:={ globs:=0,loops:=[],regs:=[],plans:=[(2,⟨[0,1,2,3,4,5,6,7,8,9,10,11,12,13,14],[0,1,3,7,15,31,63,127,255,511,63,63,4095,8191,16383],[],[]⟩)] }
def A22:List Item:=B3 Tryz.f169
theorem B52 (C:B0) (R:B2) (c:Option Addr) (v:List Value) (h:H) :
 B4 PR Ag5 C R W2 Tryz.f169 100000 true A22 [(0,.pointer c),(1,.agg ⟨v⟩)] h =
 nw (.cells D8 false v) h fun b w=>aSome c fun p=>gInt .i64 (Addr.add p 0) w fun x=>ck ((0:Int)≤x∧(x:Int)≤x∧x≤(B7:Int)) (nw (.cells B1 false (H6 (Int.toNat x) [.int .u8 0])) w fun b_1 w1=>aSome c fun p_1=>gFv (Addr.add p_1 1) w1 fun x_1=>isNilF x_1 fun b_2=>bnd (cond b_2 (some (true,w1)) (aSome c fun p_2=>gFv (Addr.add p_2 1) w1 fun x_2=>gAgg ⟨b,0,none⟩ 16 w1 fun x_3=>aFn x_2 fun g fi cp=>bnd (C g (fi++([.agg ⟨x_3⟩,.slice (some ⟨b_1,0,none⟩) (Int.toNat x) (Int.toNat x)]++cp)) w1) fun r w2=>aBool r fun x_4=>some (!x_4,w2))) fun c_1 w3=>cond c_1
 (some (.tuple ⟨[.slice none 0 0,.bool false]⟩,w3))
 (some (.tuple ⟨[.slice (some ⟨b_1,0,none⟩) (Int.toNat x) (Int.toNat x),.bool true]⟩,w3))):=by kernel_rfl
def Dn8:Cuts:={ globs:=0,loops:=[],regs:=[],plans:=[] }
def En4:List Item:=B3 Tryz.f177
theorem G96 (C:B0) (R:B2) (c:List Value) (x:List Value) (h:H) :
 B4 PR Dn8 C R B35 Tryz.f177 100000 true En4 [(0,.agg ⟨c⟩),(1,.agg ⟨x⟩)] h =
 nw (.cells E5 false c) h fun b w=>nw (.cells J0 false x) w fun b_1 w1=>gInt .i64 (Addr.add ⟨b_1,0,none⟩ 0) w1 fun x_1=>bnd (cond (decide (x_1<0)) (some (true,w1)) (gInt .i64 (Addr.add ⟨b_1,0,none⟩ 0) w1 fun x_2=>gSl (Addr.add ⟨b,0,none⟩ 0) w1 fun _ xn _=>some (decide (x_2≥((xn:Nat):Int)),w1))) fun c_1 w2=>bnd (cond c_1 (some (true,w2)) (gInt .i64 (Addr.add ⟨b_1,0,none⟩ 1) w2 fun x_4=>some (decide (x_4<0),w2))) fun c_2 w3=>bnd (cond c_2 (some (true,w3)) (gInt .i64 (Addr.add ⟨b_1,0,none⟩ 2) w3 fun x_5=>some (decide (x_5<0),w3))) fun c_3 w4=>bnd (cond c_3 (some (true,w4)) (gInt .i64 (Addr.add ⟨b_1,0,none⟩ 3) w4 fun x_6=>some (decide (x_6<0),w4))) fun c_4 w5=>cond c_4
 (some (.bool false,w5))
 (gSl (Addr.add ⟨b,0,none⟩ 0) w5 fun x_7 xn_1 _=>gInt .i64 (Addr.add ⟨b_1,0,none⟩ 0) w5 fun x_8=>aSome x_7 fun p=>ck ((0:Int)≤x_8∧x_8<((xn_1:Nat):Int)) (gInt .i64 (Addr.add (B8 p) (Int.toNat x_8*1)) w5 fun x_9=>bnd (C Bc3 [.int .i64 x_9] w5) fun r w6=>aInt .i64 r fun x_10=>gInt .i64 (Addr.add ⟨b_1,0,none⟩ 1) w6 fun x_11=>cond (decide (x_11>x_10))
 (some (.bool false,w6))
 (gInt .i64 (Addr.add ⟨b_1,0,none⟩ 1) w6 fun x_12=>gInt .i64 (Addr.add ⟨b_1,0,none⟩ 2) w6 fun x_13=>bnd (cond (decide (x_13≤(IntKind.wrap .i64 ((IntKind.wrap .i64 (x_10-x_12))*64)))) (gInt .i64 (Addr.add ⟨b_1,0,none⟩ 3) w6 fun x_14=>gInt .i64 (Addr.add ⟨b_1,0,none⟩ 2) w6 fun x_15=>some (decide (x_14≤(IntKind.wrap .i64 ((IntKind.wrap .i64 ((IntKind.wrap .i64 (x_10-x_12))*64))-x_15))),w6)) (some (false,w6))) fun c_5 w7=>some (.bool c_5,w7)))):=by kernel_rfl
def B25:Cuts:={ globs:=0,loops:=[],regs:=[],plans:=[] }
def Dy7:List Item:=B3 Tryz.f181
theorem Gc5 (C:B0) (R:B2) (s:Option Addr) (env:Int) (h:H) :
 B4 PR B25 C R Af7 Tryz.f181 100000 true Dy7 [(0,.pointer s),(1,.int .i64 env)] h =
 bnd (cond (decide (env≥0)) (aSome s fun p=>gSl (Addr.add p 0) h fun _ xn _=>some (decide (env<((xn:Nat):Int)),h)) (some (false,h))) fun c w=>some (.bool c,w):=by kernel_rfl
def Bk0:Cuts:={ globs:=0,loops:=[],regs:=[],plans:=[] }
def Da8:List Item:=B3 Tryz.f193
theorem Eq1 (C:B0) (R:B2) (q:Option Addr) (s:Int) (k:Int) (h:H) :
 B4 PR Bk0 C R Ax0 Tryz.f193 100000 true Da8 [(0,.pointer q),(1,.int .i64 s),(2,.int .i64 k)] h =
 bnd (C Ai9 [.pointer q,.int .i64 s] h) fun r w=>aBool r fun x=>bnd (cond x (some (decide (k≥0),w)) (some (false,w))) fun c w1=>bnd (cond c (aSome q fun p=>gSl (Addr.add p 0) w1 fun x_1 xn _=>aSome x_1 fun p_1=>ck ((0:Int)≤s∧s<((xn:Nat):Int)) (gSl (Addr.add (B8 p_1) (Int.toNat s*1)) w1 fun _ xn_1 _=>some (decide (k<((xn_1:Nat):Int)),w1))) (some (false,w1))) fun c_1 w2=>bnd (cond c_1 (aSome q fun p_2=>gSl (Addr.add p_2 0) w2 fun x_3 xn_2 _=>aSome x_3 fun p_3=>ck ((0:Int)≤s∧s<((xn_2:Nat):Int)) (gSl (Addr.add (B8 p_3) (Int.toNat s*1)) w2 fun x_4 xn_3 _=>aSome x_4 fun p_4=>ck ((0:Int)≤k∧k<((xn_3:Nat):Int)) (gInt .i64 (Addr.add (B8 p_4) (Int.toNat k*1)) w2 fun x_5=>some (decide (x_5>0),w2)))) (some (false,w2))) fun c_2 w3=>some (.bool c_2,w3):=by kernel_rfl
def U2:Cuts:={ globs:=0,loops:=[(18,[0,1,2])],regs:=[(10,[0,1,2]),(11,[0,1,2]),(14,[0,1,2]),(17,[])],plans:=[(11,⟨[0,1,2,3,4,5,6,7,8,9,10,11,12,13,14,15,16],[0,1,3,7,15,31,31,95,223,479,1023,31,2079,6175,14367,32767,65535],[],[]⟩),(18,⟨[0,1,2,3,4,5,6,7,8,9,10,11,12,13,14,15,16,17,18,19,20],[0,1,3,7,15,31,0,127,255,511,511,1535,3583,7679,16383,511,33279,98815,229887,524287,1048575],[],[]⟩)] }
def Z3:List Item:=B3 Tryz.f195
def Ap8:List Item:=stk [0,1,0,1,0,1,0,1,0,1,0,0,1,2,0,1] Z3
def Ao3:List Item:=stk [0,1,0,1,0,1,0,1,0,1,0,1,0,0] Z3
def An7:List Item:=stk [0,1,0,1,0,1,0,1,0,1,0,1,0,1,0,0] Z3
def Ao7:List Item:=stk [0,1,0,1,0,1,0,1,0,1,0,1,0,1,0,0,1,2,0,1,0] Z3
def Ae7:List Item:=stk [0,1,0,1,0,1,0,1,0,1,0,1,0,1,0,1,0,4,5] Z3
theorem E01 (C:B0) (R:B2) (s:Option Addr) (who:Int) (now:Int) (h:H) :
 B4 PR U2 C R D3 Tryz.f195 100000 true Z3 [(0,.pointer s),(1,.int .i64 who),(2,.int .i64 now)] h =
 aSome s fun p=>gInt .i64 (Addr.add p 7) h fun x=>bnd (cond (decide (who<0)) (some (true,h)) (some (decide (who>99),h))) fun c w=>cond c
 (some (.tuple ⟨[.int .i64 0,.bool false]⟩,w))
 (aSome s fun p_1=>pV (Addr.add p_1 7) (.int .i64 (mm2 true now x)) w fun w1=>aSome s fun p_2=>gBool (Addr.add p_2 1) w1 fun x_1=>bnd (cond x_1 (aSome s fun p_3=>gInt .i64 (Addr.add p_3 2) w1 fun x_2=>some (x_2==who,w1)) (some (false,w1))) fun c_1 w2=>cond c_1
 (aSome s fun p_4=>gInt .i64 (Addr.add p_4 3) w2 fun x_3=>some (.tuple ⟨[.int .i64 x_3,.bool true]⟩,w2))
 (aSome s fun p_5=>gSl (Addr.add p_5 5) w2 fun x_4 xn xc=>bnd (C N0 [.slice x_4 xn xc,.int .i64 who] w2) fun r w3=>aBool r fun x_5=>cond (!x_5)
 (aSome s fun p_6=>gSl (Addr.add p_6 5) w3 fun _ xn_1 _=>cond (((xn_1:Nat):Int)==0)
 (aSome s fun p_7=>pV (Addr.add p_7 6) (.int .i64 (mm2 true now x)) w3 fun w4=>R D3 Ap8 [(0,.pointer s),(1,.int .i64 who),(2,.int .i64 (mm2 true now x))] w4)
 (R D3 Ap8 [(0,.pointer s),(1,.int .i64 who),(2,.int .i64 (mm2 true now x))] w3))
 (R D3 Ao3 [(0,.pointer s),(1,.int .i64 who),(2,.int .i64 (mm2 true now x))] w3))):=by kernel_rfl
theorem D93 (C:B0) (R:B2) (s:Option Addr) (who:Int) (now:Int) (h:H) :
 B4 PR U2 C R D3 Tryz.f195 100000 true Ap8 [(0,.pointer s),(1,.int .i64 who),(2,.int .i64 now)] h =
 aSome s fun p=>gSl (Addr.add p 5) h fun x xn xc=>nw (.cells D0 false [.int .i64 who]) h fun b w=>gCells (some ⟨b,0,none⟩) (1*1) w fun cs=>ckB (fitsOpen x D0 w) (apd D0 1 x xn xc 1 cs w fun a an ac w1=>aSome s fun p_1=>pV (Addr.add p_1 5) (.slice a an ac) w1 fun w2=>R D3 Ao3 [(0,.pointer s),(1,.int .i64 who),(2,.int .i64 now)] w2):=by kernel_rfl
theorem Ed2 (C:B0) (R:B2) (s:Option Addr) (who:Int) (now:Int) (h:H) :
 B4 PR U2 C R D3 Tryz.f195 100000 true Ao3 [(0,.pointer s),(1,.int .i64 who),(2,.int .i64 now)] h =
 aSome s fun p=>gBool (Addr.add p 1) h fun x=>bnd (cond x (aSome s fun p_1=>gInt .i64 (Addr.add p_1 4) h fun x_1=>aSome s fun p_2=>gInt .i64 (Addr.add p_2 0) h fun x_2=>some (decide ((IntKind.wrap .i64 (now-x_1))≥x_2),h)) (some (false,h))) fun c w=>cond c
 (aSome s fun p_3=>pV (Addr.add p_3 1) (.bool false) w fun w1=>aSome s fun p_4=>pV (Addr.add p_4 6) (.int .i64 now) w1 fun w2=>R D3 An7 [(0,.pointer s),(1,.int .i64 who),(2,.int .i64 now)] w2)
 (R D3 An7 [(0,.pointer s),(1,.int .i64 who),(2,.int .i64 now)] w):=by kernel_rfl
theorem Ef0 (C:B0) (R:B2) (s:Option Addr) (who:Int) (now:Int) (h:H) :
 B4 PR U2 C R D3 Tryz.f195 100000 true An7 [(0,.pointer s),(1,.int .i64 who),(2,.int .i64 now)] h =
 aSome s fun p=>gBool (Addr.add p 1) h fun x=>cond x
 (aSome s fun p_1=>gSl (Addr.add p_1 5) h fun x_1 xn _=>aSome x_1 fun p_2=>ck ((0:Int)≤0∧0<((xn:Nat):Int)) (gInt .i64 (Addr.add (B8 p_2) (Int.toNat 0*1)) h fun x_2=>cond (x_2==who)
 (aSome s fun p_3=>pV (Addr.add p_3 6) (.int .i64 now) h fun w=>R D3 Ao7 [] w)
 (R D3 Ao7 [] h)))
 (R D3 Ae7 [(0,.pointer s),(1,.int .i64 who),(2,.int .i64 now)] h):=by kernel_rfl
theorem Ea6 (C:B0) (R:B2)  (h:H) :
 B4 PR U2 C R D3 Tryz.f195 100000 true Ao7 [] h =
 some (.tuple ⟨[.int .i64 0,.bool false]⟩,h):=by kernel_rfl
theorem B13 (C:B0) (R:B2) (s:Option Addr) (who:Int) (now:Int) (h:H) :
 B4 PR U2 C R D3 Tryz.f195 100000 true Ae7 [(0,.pointer s),(1,.int .i64 who),(2,.int .i64 now)] h =
 aSome s fun p=>gSl (Addr.add p 5) h fun x xn _=>aSome x fun p_1=>ck ((0:Int)≤0∧0<((xn:Nat):Int)) (gInt .i64 (Addr.add (B8 p_1) (Int.toNat 0*1)) h fun x_1=>bnd (cond (x_1 != who) (aSome s fun p_2=>gInt .i64 (Addr.add p_2 6) h fun x_2=>aSome s fun p_3=>gInt .i64 (Addr.add p_3 0) h fun x_3=>some (decide ((IntKind.wrap .i64 (now-x_2))≥x_3),h)) (some (false,h))) fun c w=>cond c
 (aSome s fun p_4=>gSl (Addr.add p_4 5) w fun x_4 xn_1 xc_1=>ckB (fitsOpen x_4 D0 w) (ck ((0:Int)≤1∧1≤((xn_1:Nat):Int)) (aSome s fun p_5=>pV (Addr.add p_5 5) (.slice (H8 x_4 (decide (Int.toNat 1<xc_1)) ((Int.toNat 1)*1)) (xn_1-(Int.toNat 1)) (xc_1-(Int.toNat 1))) w fun w1=>aSome s fun p_6=>pV (Addr.add p_6 6) (.int .i64 now) w1 fun w2=>R D3 Ae7 [(0,.pointer s),(1,.int .i64 who),(2,.int .i64 now)] w2)))
 (aSome s fun p_7=>gSl (Addr.add p_7 5) w fun x_5 xn_2 _=>aSome x_5 fun p_8=>ck ((0:Int)≤0∧0<((xn_2:Nat):Int)) (gInt .i64 (Addr.add (B8 p_8) (Int.toNat 0*1)) w fun x_6=>cond (x_6 != who)
 (some (.tuple ⟨[.int .i64 0,.bool false]⟩,w))
 (aSome s fun p_9=>gSl (Addr.add p_9 5) w fun x_7 xn_3 xc_3=>ckB (fitsOpen x_7 D0 w) (ck ((0:Int)≤1∧1≤((xn_3:Nat):Int)) (aSome s fun p_10=>pV (Addr.add p_10 5) (.slice (H8 x_7 (decide (Int.toNat 1<xc_3)) ((Int.toNat 1)*1)) (xn_3-(Int.toNat 1)) (xc_3-(Int.toNat 1))) w fun w3=>aSome s fun p_11=>pV (Addr.add p_11 6) (.int .i64 now) w3 fun w4=>aSome s fun p_12=>gInt .i64 (Addr.add p_12 8) w4 fun x_8=>aSome s fun p_13=>pV (Addr.add p_13 8) (.int .i64 (IntKind.wrap .i64 (x_8+1))) w4 fun w5=>aSome s fun p_14=>gInt .i64 (Addr.add p_14 8) w5 fun x_9=>aSome s fun p_15=>pV (Addr.add p_15 1) (.bool true) w5 fun w6=>aSome s fun p_16=>pV (Addr.add p_16 2) (.int .i64 who) w6 fun w7=>aSome s fun p_17=>pV (Addr.add p_17 3) (.int .i64 x_9) w7 fun w8=>aSome s fun p_18=>pV (Addr.add p_18 4) (.int .i64 now) w8 fun w9=>aSome s fun p_19=>gInt .i64 (Addr.add p_19 3) w9 fun x_10=>some (.tuple ⟨[.int .i64 x_10,.bool true]⟩,w9))))))):=by kernel_rfl
def Bn9:Cuts:={ globs:=0,loops:=[],regs:=[],plans:=[] }
def Dg8:List Item:=B3 Tryz.f196
theorem E15 (C:B0) (R:B2) (s:Option Addr) (who:Int) (stamp:Int) (h:H) :
 B4 PR Bn9 C R A35 Tryz.f196 100000 true Dg8 [(0,.pointer s),(1,.int .i64 who),(2,.int .i64 stamp)] h =
 bnd (C A30 [.pointer s,.int .i64 who,.int .i64 stamp] h) fun r w=>aBool r fun x=>cond (!x)
 (some (.bool false,w))
 (aSome s fun p=>pV (Addr.add p 1) (.bool false) w fun w1=>aSome s fun p_1=>gInt .i64 (Addr.add p_1 7) w1 fun x_1=>aSome s fun p_2=>pV (Addr.add p_2 6) (.int .i64 x_1) w1 fun w2=>some (.bool true,w2)):=by kernel_rfl
def A96:Cuts:={ globs:=0,loops:=[],regs:=[],plans:=[] }
def B21:List Item:=B3 Tryz.f203
theorem Ee1 (C:B0) (R:B2) (size:Int) (put:Value) (get:Value) (h:H) :
 B4 PR A96 C R Aq1 Tryz.f203 100000 true B21 [(0,.int .i64 size),(1,put),(2,get)] h =
 one put (one get (nw (.cells Aj3 false [.int .i64 (mm2 false (mm2 true size 0) 64),put,get]) h fun b w=>some (.pointer (some ⟨b,0,none⟩),w))):=by kernel_rfl
def Ba0:Cuts:={ globs:=0,loops:=[],regs:=[],plans:=[] }
def B37:List Item:=B3 Tryz.f207
theorem Ed5 (C:B0) (R:B2) (size:Int) (put:Value) (get:Value) (h:H) :
 B4 PR Ba0 C R Aq6 Tryz.f207 100000 true B37 [(0,.int .i64 size),(1,put),(2,get)] h =
 one put (one get (nw (.cells Br3 false [.int .i64 (mm2 false (mm2 true size 0) 64),put,get]) h fun b w=>some (.pointer (some ⟨b,0,none⟩),w))):=by kernel_rfl
def Br8:Cuts:={ globs:=0,loops:=[(3,[0,2,4,31,32,33]),(8,[0,2,4,49])],regs:=[],plans:=[(1,⟨[0,1,2,3,4,5,6,7,8,9,10,11,12,13,14,15,16,17,18],[0,1,3,7,0,16,48,112,0,256,768,1792,0,4096,12288,28672,65535,0,262143],[],[]⟩),(13,⟨[0,1,2,3,4,5,6,7,8],[0,0,2,6,6,30,62,63,255],[(5,[0])],[]⟩)] }
def Da2:List Item:=B3 Tryz.f212
def B83:List Item:=stk [0,1,0,1,0,0,1,4,5] Da2
def B69:List Item:=stk [0,1,0,1,0,1,0,0,1,4,5] Da2
theorem Hf9 (C:B0) (R:B2) (b:Option Addr) (bn bc:Nat) (h:H) :
 B4 PR Br8 C R Y2 Tryz.f212 100000 true Da2 [(0,.slice b bn bc)] h =
 nw (.cells D8 false [.int .i64 0,.int .i64 0,.int .i64 0,.int .i64 0,.int .i64 0,.int .i64 0,.int .i64 0,.int .i64 0,.int .i64 0,.int .i64 0,.int .i64 0,.int .i64 0,.int .i64 0,.int .i64 0,.int .i64 0,.int .i64 0]) h fun b_1 w=>aSome b fun p=>ck ((0:Int)≤0∧0<((bn:Nat):Int)) (gInt .u8 (Addr.add (B8 p) (Int.toNat 0*1)) w fun x=>aSome b fun p_1=>ck ((0:Int)≤1∧1<((bn:Nat):Int)) (gInt .u8 (Addr.add (B8 p_1) (Int.toNat 1*1)) w fun x_1=>aSome b fun p_2=>ck ((0:Int)≤2∧2<((bn:Nat):Int)) (gInt .u8 (Addr.add (B8 p_2) (Int.toNat 2*1)) w fun x_2=>aSome b fun p_3=>ck ((0:Int)≤3∧3<((bn:Nat):Int)) (gInt .u8 (Addr.add (B8 p_3) (Int.toNat 3*1)) w fun x_3=>nw (.cells D8 false [.int .i64 0,.int .i64 0,.int .i64 0,.int .i64 0,.int .i64 0,.int .i64 0,.int .i64 0,.int .i64 0,.int .i64 0,.int .i64 0,.int .i64 0,.int .i64 0,.int .i64 0,.int .i64 0,.int .i64 0,.int .i64 0]) w fun b_2 w1=>pAgg ⟨b_2,0,none⟩ [.int .i64 (IntKind.wrap .i64 (x)),.int .i64 (IntKind.wrap .i64 (x_1)),.int .i64 (IntKind.wrap .i64 (x_2)),.int .i64 (IntKind.wrap .i64 (x_3)),.int .i64 0,.int .i64 0,.int .i64 0,.int .i64 0,.int .i64 0,.int .i64 0,.int .i64 0,.int .i64 0,.int .i64 0,.int .i64 0,.int .i64 0,.int .i64 0] w1 fun w2=>nw (.cells Ig4 false [.pointer (some (Addr.add ⟨b_2,0,none⟩ 4)),.pointer (some (Addr.add ⟨b_2,0,none⟩ 5)),.pointer (some (Addr.add ⟨b_2,0,none⟩ 6)),.pointer (some (Addr.add ⟨b_2,0,none⟩ 7))]) w2 fun b_3 w3=>R Y2 B83 [(0,.slice b bn bc),(2,.pointer (some ⟨b_1,0,none⟩)),(4,.pointer (some ⟨b_2,0,none⟩)),(31,.slice (some ⟨b_3,0,none⟩) 4 4),(32,.int .i64 4),(33,.int .i64 0)] w3)))):=by kernel_rfl
theorem A72 (C:B0) (R:B2) (b:Option Addr) (bn bc:Nat) (x2:Addr) (p:Addr) (x31:Option Addr) (x31n x31c:Nat) (x32:Int) (x33:Int) (h:H) :
 B4 PR Br8 C R Y2 Tryz.f212 100000 true B83 [(0,.slice b bn bc),(2,.pointer (some x2)),(4,.pointer (some p)),(31,.slice x31 x31n x31c),(32,.int .i64 x32),(33,.int .i64 x33)] h =
 cond (decide (x33<x32))
 (aSome x31 fun p_1=>ck ((0:Int)≤x33∧x33<((x31n:Nat):Int)) (gPtr (Addr.add (B8 p_1) (Int.toNat x33*1)) h fun x=>bnd (C B01 [.slice b bn bc,.int .i64 (IntKind.wrap .i64 (4+(IntKind.wrap .i64 (2*x33))))] h) fun r w=>as2 r fun r_1 r_2=>aInt .i64 r_1 fun x_1=>aBool r_2 fun _=>aSome x fun p_2=>pV p_2 (.int .i64 x_1) w fun w1=>R Y2 B83 [(0,.slice b bn bc),(2,.pointer (some x2)),(4,.pointer (some p)),(31,.slice x31 x31n x31c),(32,.int .i64 x32),(33,.int .i64 (IntKind.wrap .i64 (x33+1)))] w1))
 (R Y2 B69 [(0,.slice b bn bc),(2,.pointer (some x2)),(4,.pointer (some p)),(49,.int .i64 0)] h):=by kernel_rfl
theorem Y5 (C:B0) (R:B2) (b:Option Addr) (bn bc:Nat) (x2:Addr) (p:Addr) (x49:Int) (h:H) :
 B4 PR Br8 C R Y2 Tryz.f212 100000 true B69 [(0,.slice b bn bc),(2,.pointer (some x2)),(4,.pointer (some p)),(49,.int .i64 x49)] h =
 cond (decide (x49<8))
 (aSome b fun p_1=>ck ((0:Int)≤IntKind.wrap .i64 (12+x49)∧IntKind.wrap .i64 (12+x49)<((bn:Nat):Int)) (gInt .u8 (Addr.add (B8 p_1) (Int.toNat (IntKind.wrap .i64 (12+x49))*1)) h fun x=>ck ((0:Int)≤x49∧x49<((8:Nat):Int)) (pV (Addr.add (Addr.add p 8) (Int.toNat x49*1)) (.int .i64 (IntKind.wrap .i64 (x))) h fun w=>R Y2 B69 [(0,.slice b bn bc),(2,.pointer (some x2)),(4,.pointer (some p)),(49,.int .i64 (IntKind.wrap .i64 (x49+1)))] w)))
 (gAgg p 16 h fun x_1=>bnd (C A56 [.agg ⟨x_1⟩] h) fun r w1=>as2 r fun r_1 r_2=>aSl r_1 fun x_2 xn xc=>aBool r_2 fun x_3=>gAgg p 16 w1 fun x_4=>bnd (cond x_3 (bnd (C D6 [.slice x_2 xn xc,.slice b bn bc] w1) fun r_3 w2=>aBool r_3 fun x_5=>gAgg p 16 w2 fun x_6=>same (.agg ⟨x_4⟩) (.agg ⟨x_6⟩) (some (x_5,w2))) (some (false,w1))) fun c w3=>ck (List.length x_4=16) (pAgg x2 x_4 w3 fun w4=>gAgg x2 16 w4 fun x_7=>some (.tuple ⟨[.agg ⟨x_7⟩,.bool c]⟩,w4))):=by kernel_rfl
def Y4:Cuts:={ globs:=0,loops:=[(2,[0,1,7,8])],regs:=[],plans:=[] }
def Aj0:List Item:=B3 Tryz.f213
def N3:List Item:=stk [0,1,0,0,1,4,5] Aj0
theorem A41 (C:B0) (R:B2) (s:Option Addr) (sn sc:Nat) (f:Value) (h:H) :
 B4 PR Y4 C R E1 Tryz.f213 100000 true Aj0 [(0,.slice s sn sc),(1,f)] h =
 R E1 N3 [(0,.slice s sn sc),(1,f),(7,.int .i64 ((sn:Nat):Int)),(8,.int .i64 0)] h:=by kernel_rfl
theorem S7 (C:B0) (R:B2) (s:Option Addr) (sn sc:Nat) (f:Value) (x7:Int) (x8:Int) (h:H) :
 B4 PR Y4 C R E1 Tryz.f213 100000 true N3 [(0,.slice s sn sc),(1,f),(7,.int .i64 x7),(8,.int .i64 x8)] h =
 cond (decide (x8<x7))
 (aSome s fun p=>ck ((0:Int)≤x8∧x8<((sn:Nat):Int)) (gInt .i64 (Addr.add (B8 p) (Int.toNat x8*1)) h fun x=>aFn f fun g fi cp=>bnd (C g (fi++([.int .i64 x]++cp)) h) fun r w=>aBool r fun x_1=>cond x_1
 (some (.int .i64 x8,w))
 (R E1 N3 [(0,.slice s sn sc),(1,f),(7,.int .i64 x7),(8,.int .i64 (IntKind.wrap .i64 (x8+1)))] w)))
 (some (.int .i64 (-1),h)):=by kernel_rfl
def Ad1:Cuts:={ globs:=0,loops:=[(2,[0,3,11,12,13])],regs:=[],plans:=[(5,⟨[0,1,2,3,4,5,6,7,8,9,10,11,12,13,14,15,16],[0,1,3,7,0,0,32,96,224,0,0,1535,3583,7679,16383,32767,65535],[],[]⟩)] }
def Ao1:List Item:=B3 Tryz.f214
def Y7:List Item:=stk [0,1,0,0,1,4,5] Ao1
theorem Dl0 (C:B0) (R:B2) (t:Option Addr) (v:List Value) (h:H) :
 B4 PR Ad1 C R I3 Tryz.f214 100000 true Ao1 [(0,.pointer t),(1,.agg ⟨v⟩)] h =
 nw (.cells P4 false v) h fun b w=>aSome t fun p=>gSl (Addr.add p 0) w fun x xn xc=>R I3 Y7 [(0,.pointer t),(3,.pointer (some ⟨b,0,none⟩)),(11,.slice x xn xc),(12,.int .i64 ((xn:Nat):Int)),(13,.int .i64 0)] w:=by kernel_rfl
theorem A58 (C:B0) (R:B2) (t:Option Addr) (v:Addr) (x11:Option Addr) (x11n x11c:Nat) (x12:Int) (x13:Int) (h:H) :
 B4 PR Ad1 C R I3 Tryz.f214 100000 true Y7 [(0,.pointer t),(3,.pointer (some v)),(11,.slice x11 x11n x11c),(12,.int .i64 x12),(13,.int .i64 x13)] h =
 cond (decide (x13<x12))
 (aSome x11 fun p=>ck ((0:Int)≤x13∧x13<((x11n:Nat):Int)) (gAgg (Addr.add (B8 p) (Int.toNat x13*8)) 8 h fun x=>nw (.cells Al1 false [.int .i64 0,.int .i64 0,.int .i64 0,.int .i64 0,.int .i64 0,.int .i64 0,.int .i64 0,.bool false]) h fun b w=>ck (List.length x=8) (pAgg ⟨b,0,none⟩ x w fun w1=>gBool (Addr.add ⟨b,0,none⟩ 7) w1 fun x_1=>bnd (cond (!x_1) (gInt .i64 (Addr.add ⟨b,0,none⟩ 6) w1 fun x_2=>some (decide (x_2≤1000000),w1)) (some (false,w1))) fun c w2=>cond c
 (aSome t fun p_1=>gSl (Addr.add p_1 0) w2 fun x_3 xn _=>aSome t fun p_2=>gSl (Addr.add p_2 0) w2 fun x_4 xn_1 _=>gAgg v 6 w2 fun x_5=>aSome x_3 fun p_3=>ck ((0:Int)≤x13∧x13<((xn:Nat):Int)) (ck (List.length x_5=6) (pAgg (Addr.add (Addr.add (B8 p_3) (Int.toNat x13*8)) 0) x_5 w2 fun w3=>aSome x_4 fun p_4=>ck ((0:Int)≤x13∧x13<((xn_1:Nat):Int)) (pV (Addr.add (Addr.add (B8 p_4) (Int.toNat x13*8)) 7) (.bool true) w3 fun w4=>bnd (C N5 [.pointer t,.int .i64 x13] w4) fun r w5=>aInt .i64 r fun x_6=>some (.tuple ⟨[.int .i64 x_6,.bool true]⟩,w5)))))
 (R I3 Y7 [(0,.pointer t),(3,.pointer (some v)),(11,.slice x11 x11n x11c),(12,.int .i64 x12),(13,.int .i64 (IntKind.wrap .i64 (x13+1)))] w2))))
 (some (.tuple ⟨[.int .i64 0,.bool false]⟩,h)):=by kernel_rfl
def Ap9:Cuts:={ globs:=0,loops:=[],regs:=[],plans:=[] }
def Bh0:List Item:=B3 Tryz.f217
theorem Dm3 (C:B0) (R:B2) (t:Option Addr) (name:Int) (h:H) :
 B4 PR Ap9 C R Ad8 Tryz.f217 100000 true Bh0 [(0,.pointer t),(1,.int .i64 name)] h =
 nw (.cells P4 false [.int .i64 0,.int .i64 0,.int .i64 0,.int .i64 0,.int .i64 0,.int .i64 0]) h fun b w=>bnd (C Af2 [.pointer t,.int .i64 name] w) fun r w1=>aPtr r fun x=>cond x.isNone
 (nw (.cells P4 false [.int .i64 0,.int .i64 0,.int .i64 0,.int .i64 0,.int .i64 0,.int .i64 0]) w1 fun b_1 w2=>gAgg ⟨b_1,0,none⟩ 6 w2 fun x_1=>ck (List.length x_1=6) (pAgg ⟨b,0,none⟩ x_1 w2 fun w3=>gAgg ⟨b,0,none⟩ 6 w3 fun x_2=>some (.tuple ⟨[.agg ⟨x_2⟩,.bool false]⟩,w3)))
 (aSome x fun p=>gAgg (Addr.add p 0) 6 w1 fun x_3=>ck (List.length x_3=6) (pAgg ⟨b,0,none⟩ x_3 w1 fun w4=>gAgg ⟨b,0,none⟩ 6 w4 fun x_4=>some (.tuple ⟨[.agg ⟨x_4⟩,.bool true]⟩,w4))):=by kernel_rfl
def Ab6:Cuts:={ globs:=0,loops:=[(4,[0,1,12,13])],regs:=[],plans:=[(6,⟨[0,1,2,3,4,5,6,7,8],[0,0,3,7,0,0,48,112,255],[],[]⟩)] }
def Am0:List Item:=B3 Tryz.f224
def W0:List Item:=stk [0,1,0,1,0,0,1,4,5] Am0
theorem Df7 (C:B0) (R:B2) (s1:Option Addr) (s1n s1c:Nat) (s2:Option Addr) (s2n s2c:Nat) (h:H) :
 B4 PR Ab6 C R D6 Tryz.f224 100000 true Am0 [(0,.slice s1 s1n s1c),(1,.slice s2 s2n s2c)] h =
 cond (((s1n:Nat):Int) != ((s2n:Nat):Int))
 (some (.bool false,h))
 (R D6 W0 [(0,.slice s1 s1n s1c),(1,.slice s2 s2n s2c),(12,.int .i64 ((s1n:Nat):Int)),(13,.int .i64 0)] h):=by kernel_rfl
theorem A26 (C:B0) (R:B2) (s1:Option Addr) (s1n s1c:Nat) (s2:Option Addr) (s2n s2c:Nat) (x12:Int) (x13:Int) (h:H) :
 B4 PR Ab6 C R D6 Tryz.f224 100000 true W0 [(0,.slice s1 s1n s1c),(1,.slice s2 s2n s2c),(12,.int .i64 x12),(13,.int .i64 x13)] h =
 cond (decide (x13<x12))
 (aSome s1 fun p=>ck ((0:Int)≤x13∧x13<((s1n:Nat):Int)) (gInt .u8 (Addr.add (B8 p) (Int.toNat x13*1)) h fun x=>aSome s2 fun p_1=>ck ((0:Int)≤x13∧x13<((s2n:Nat):Int)) (gInt .u8 (Addr.add (B8 p_1) (Int.toNat x13*1)) h fun x_1=>cond (x != x_1)
 (some (.bool false,h))
 (R D6 W0 [(0,.slice s1 s1n s1c),(1,.slice s2 s2n s2c),(12,.int .i64 x12),(13,.int .i64 (IntKind.wrap .i64 (x13+1)))] h))))
 (some (.bool true,h)):=by kernel_rfl
def Ee6:Cuts:={ globs:=0,loops:=[],regs:=[],plans:=[] }
def Gh3:List Item:=B3 Tryz.f225
theorem Hr5 (C:B0) (R:B2) (p:List Value) (h:H) :
 B4 PR Ee6 C R Di6 Tryz.f225 100000 true Gh3 [(0,.agg ⟨p⟩)] h =
 nw (.cells D8 false p) h fun b w=>gInt .i64 (Addr.add ⟨b,0,none⟩ 0) w fun x=>bnd (cond (decide (x<1)) (some (true,w)) (gInt .i64 (Addr.add ⟨b,0,none⟩ 0) w fun x_1=>some (decide (x_1>3),w))) fun c w1=>bnd (cond c (some (true,w1)) (gInt .i64 (Addr.add ⟨b,0,none⟩ 1) w1 fun x_2=>some (decide (x_2<0),w1))) fun c_1 w2=>bnd (cond c_1 (some (true,w2)) (gInt .i64 (Addr.add ⟨b,0,none⟩ 1) w2 fun x_3=>some (decide (x_3>8),w2))) fun c_2 w3=>bnd (cond c_2 (some (true,w3)) (gInt .i64 (Addr.add ⟨b,0,none⟩ 2) w3 fun x_4=>some (decide (x_4<0),w3))) fun c_3 w4=>bnd (cond c_3 (some (true,w4)) (gInt .i64 (Addr.add ⟨b,0,none⟩ 2) w4 fun x_5=>some (decide (x_5≥8),w4))) fun c_4 w5=>bnd (cond c_4 (some (true,w5)) (gInt .i64 (Addr.add ⟨b,0,none⟩ 3) w5 fun x_6=>some (decide (x_6<0),w5))) fun c_5 w6=>bnd (cond c_5 (some (true,w6)) (gInt .i64 (Addr.add ⟨b,0,none⟩ 3) w6 fun x_7=>some (decide (x_7>255),w6))) fun c_6 w7=>cond c_6
 (some (.bool false,w7))
 (gInt .i64 (Addr.add ⟨b,0,none⟩ 4) w7 fun x_8=>bnd (C Ak0 [.int .i64 x_8,.int .i64 0] w7) fun r w8=>aBool r fun x_9=>bnd (cond (!x_9) (some (true,w8)) (gInt .i64 (Addr.add ⟨b,0,none⟩ 5) w8 fun x_10=>bnd (C Ak0 [.int .i64 x_10,.int .i64 16896] w8) fun r_1 w9=>aBool r_1 fun x_11=>some (!x_11,w9))) fun c_7 w10=>bnd (cond c_7 (some (true,w10)) (gInt .i64 (Addr.add ⟨b,0,none⟩ 6) w10 fun x_12=>bnd (C Ak0 [.int .i64 x_12,.int .i64 16896] w10) fun r_2 w11=>aBool r_2 fun x_13=>some (!x_13,w11))) fun c_8 w12=>bnd (cond c_8 (some (true,w12)) (gInt .i64 (Addr.add ⟨b,0,none⟩ 7) w12 fun x_14=>bnd (C Ak0 [.int .i64 x_14,.int .i64 16896] w12) fun r_3 w13=>aBool r_3 fun x_15=>some (!x_15,w13))) fun c_9 w14=>bnd (cond c_9 (some (true,w14)) (gInt .i64 (Addr.add ⟨b,0,none⟩ 6) w14 fun x_16=>gInt .i64 (Addr.add ⟨b,0,none⟩ 7) w14 fun x_17=>some ((Q9 .i64 x_16 x_17) != 0,w14))) fun c_10 w15=>cond c_10
 (some (.bool false,w15))
 (ckB (liveA (Addr.add ⟨b,0,none⟩ 8) w15) (bnd (C E9 [.slice (H8 (some (Addr.add ⟨b,0,none⟩ 8)) (decide (0<8)) (0*1)) (8-0) (8-0),.func (.func Bh3) ⟨[]⟩ ⟨[]⟩] w15) fun r_4 w16=>aBool r_4 fun x_18=>cond x_18
 (some (.bool false,w16))
 (gInt .i64 (Addr.add ⟨b,0,none⟩ 0) w16 fun x_19=>cond (x_19==2)
 (gInt .i64 (Addr.add ⟨b,0,none⟩ 4) w16 fun x_20=>bnd (cond (x_20==0) (gAgg (Addr.add ⟨b,0,none⟩ 8) 8 w16 fun x_21=>B95 PR Gm4 x_21 [.int .i64 0,.int .i64 0,.int .i64 0,.int .i64 0,.int .i64 0,.int .i64 0,.int .i64 0,.int .i64 0] fun eq=>some (eq,w16)) (some (false,w16))) fun c_11 w17=>some (.bool c_11,w17))
 (gInt .i64 (Addr.add ⟨b,0,none⟩ 3) w16 fun x_22=>some (.bool (x_22==0),w16)))))):=by kernel_rfl
end
end Go.EQ

set_option maxRecDepth 100000
namespace Go.EQ
open Go Go.NN Go.Proofs
variable (C : B0) (R : B2)
noncomputable section
def Au4:Cuts:={ globs:=0,loops:=[],regs:=[(9,[0,6,9,10])],plans:=[] }
def Be4:List Item:=B3 Tryz.f7
def Aj5:List Item:=stk [0,1,0,1,0,1,0,1,0,1,0,1,0,0] Be4
theorem Ek0 (C:B0) (R:B2) (b:Option Addr) (bn bc:Nat) (child:Bool) (h:H) :
 B4 PR Au4 C R H2 Tryz.f7 100000 true Be4 [(0,.slice b bn bc),(1,.bool child)] h =
 bnd (C Bb9 [] h) fun r w=>aSl r fun x xn xc=>bnd (C Ae2 [.slice x xn xc] w) fun r_1 w1=>as4 r_1 fun r_2 r_3 r_4 r_5=>aPtr r_2 fun _=>aPtr r_3 fun x_2=>aPtr r_4 fun _=>aPtr r_5 fun _=>bnd (cond x_2.isNone (some (true,w1)) (some (decide (((bn:Nat):Int)>32),w1))) fun c w2=>cond c
 (bnd (cond (!x_2.isNone) (bnd (C Bb5 [] w2) fun r_6 w3=>aBool r_6 fun x_5=>some (x_5,w3)) (some (false,w2))) fun c_1 w4=>some (.bool c_1,w4))
 (bnd (C B24 [.pointer x_2,.int .i64 0] w2) fun r_7 w5=>aAgg r_7 fun x_6=>nth x_6 0 fun N=>aInt .i64 N fun N_1=>bnd (cond (N_1 != 33) (some (true,w5)) (bnd (C B92 [.pointer x_2,.int .i64 0] w5) fun r_8 w6=>aAgg r_8 fun x_7=>nth x_7 0 fun N_2=>aInt .i64 N_2 fun N_3=>some (N_3 != 1,w6))) fun c_2 w7=>cond c_2
 (some (.bool false,w7))
 (cond child
 (R H2 Aj5 [(0,.slice b bn bc),(6,.pointer x_2),(9,.int .i64 1),(10,.int .i64 0)] w7)
 (R H2 Aj5 [(0,.slice b bn bc),(6,.pointer x_2),(9,.int .i64 0),(10,.int .i64 1)] w7))):=by kernel_rfl
theorem D16 (C:B0) (R:B2) (b:Option Addr) (bn bc:Nat) (c:Option Addr) (fromv:Int) (to:Int) (h:H) :
 B4 PR Au4 C R H2 Tryz.f7 100000 true Aj5 [(0,.slice b bn bc),(6,.pointer c),(9,.int .i64 fromv),(10,.int .i64 to)] h =
 bnd (C Bd6 [.pointer c,.int .i64 fromv,.int .i64 1] h) fun r w=>aAgg r fun x=>nth x 1 fun E=>aInt .i64 E fun E_1=>bnd (cond (E_1 != 0) (some (true,w)) (bnd (C Bd6 [.pointer c,.int .i64 to,.int .i64 2] w) fun r_1 w1=>aAgg r_1 fun x_1=>nth x_1 1 fun E_2=>aInt .i64 E_2 fun E_3=>some (E_3 != 0,w1))) fun c_1 w2=>cond c_1
 (some (.bool false,w2))
 (bnd (C Aw5 [.pointer c,.int .i64 fromv,.int .i64 2,.slice b bn bc] w2) fun r_2 w3=>aAgg r_2 fun x_2=>nw (.cells L9 false [.int .i64 0,.int .i64 0,.slice none 0 0,.bool false]) w3 fun b_1 w4=>ck (List.length x_2=4) (pAgg ⟨b_1,0,none⟩ x_2 w4 fun w5=>bnd (C Ak7 [.pointer c,.int .i64 to,.int .i64 1,.int .i64 32] w5) fun r_3 w6=>aAgg r_3 fun x_3=>nw (.cells L9 false [.int .i64 0,.int .i64 0,.slice none 0 0,.bool false]) w6 fun b_2 w7=>ck (List.length x_3=4) (pAgg ⟨b_2,0,none⟩ x_3 w7 fun w8=>bnd (C Ak7 [.pointer c,.int .i64 fromv,.int .i64 1,.int .i64 5] w8) fun r_4 w9=>aAgg r_4 fun x_4=>nw (.cells L9 false [.int .i64 0,.int .i64 0,.slice none 0 0,.bool false]) w9 fun b_3 w10=>ck (List.length x_4=4) (pAgg ⟨b_3,0,none⟩ x_4 w10 fun w11=>nw (.cells B1 false [.int .u8 1]) w11 fun b_4 w12=>bnd (C Aw5 [.pointer c,.int .i64 to,.int .i64 2,.slice (some ⟨b_4,0,none⟩) 1 1] w12) fun r_5 w13=>aAgg r_5 fun x_5=>nw (.cells L9 false [.int .i64 0,.int .i64 0,.slice none 0 0,.bool false]) w13 fun b_5 w14=>ck (List.length x_5=4) (pAgg ⟨b_5,0,none⟩ x_5 w14 fun w15=>gInt .i64 (Addr.add ⟨b_1,0,none⟩ 0) w15 fun x_6=>bnd (cond (x_6 != ((bn:Nat):Int)) (some (true,w15)) (gInt .i64 (Addr.add ⟨b_1,0,none⟩ 1) w15 fun x_7=>some (x_7 != 0,w15))) fun c_2 w16=>bnd (cond c_2 (some (true,w16)) (gSl (Addr.add ⟨b_2,0,none⟩ 2) w16 fun x_8 xn _=>gCells x_8 xn w16 fun cs=>asBytes cs fun l=>gCells b bn w16 fun cs_1=>asBytes cs_1 fun l_1=>some (!((ByteArray.mk ⟨l⟩).toList==(ByteArray.mk ⟨l_1⟩).toList),w16))) fun c_3 w17=>bnd (cond c_3 (some (true,w17)) (gBool (Addr.add ⟨b_2,0,none⟩ 3) w17 fun x_9=>some (!(x_9==(((bn:Nat):Int)==0)),w17))) fun c_4 w18=>bnd (cond c_4 (some (true,w18)) (gInt .i64 (Addr.add ⟨b_3,0,none⟩ 1) w18 fun x_10=>some (x_10 != 109,w18))) fun c_5 w19=>bnd (cond c_5 (some (true,w19)) (gInt .i64 (Addr.add ⟨b_5,0,none⟩ 1) w19 fun x_11=>some (x_11 != 109,w19))) fun c_6 w20=>cond c_6
 (some (.bool false,w20))
 (bnd (C Bd6 [.pointer c,.int .i64 fromv,.int .i64 2] w20) fun r_6 w21=>aAgg r_6 fun x_12=>nth x_12 1 fun E_4=>aInt .i64 E_4 fun E_5=>cond (E_5 != 0)
 (some (.bool false,w21))
 (bnd (C Ak7 [.pointer c,.int .i64 to,.int .i64 1,.int .i64 5] w21) fun r_7 w22=>aAgg r_7 fun x_13=>nw (.cells L9 false [.int .i64 0,.int .i64 0,.slice none 0 0,.bool false]) w22 fun b_6 w23=>ck (List.length x_13=4) (pAgg ⟨b_6,0,none⟩ x_13 w23 fun w24=>gInt .i64 (Addr.add ⟨b_6,0,none⟩ 1) w24 fun x_14=>bnd (cond (x_14==0) (gBool (Addr.add ⟨b_6,0,none⟩ 3) w24 fun x_15=>some (!x_15,w24)) (some (false,w24))) fun c_7 w25=>bnd (cond c_7 (gInt .i64 (Addr.add ⟨b_6,0,none⟩ 0) w25 fun x_16=>some (x_16==0,w25)) (some (false,w25))) fun c_8 w26=>bnd (cond c_8 (bnd (C Bb5 [] w26) fun r_8 w27=>aBool r_8 fun x_17=>some (x_17,w27)) (some (false,w26))) fun c_9 w28=>some (.bool c_9,w28))))))))):=by kernel_rfl
def Dn0:Cuts:={ globs:=0,loops:=[],regs:=[],plans:=[] }
def Eu2:List Item:=B3 Tryz.f14
theorem Ha0 (C:B0) (R:B2) (c:Option Addr) (i:Int) (fd:Int) (n:Int) (h:H) :
 B4 PR Dn0 C R Ak7 Tryz.f14 100000 true Eu2 [(0,.pointer c),(1,.int .i64 i),(2,.int .i64 fd),(3,.int .i64 n)] h =
 nw (.cells L9 false [.int .i64 0,.int .i64 0,.slice none 0 0,.bool false]) h fun b w=>bnd (C Da7 [.pointer c,.int .i64 i,.int .i64 fd,.int .i64 n] w) fun r w1=>as2 r fun r_1 r_2=>aAgg r_1 fun x=>aInt .i64 r_2 fun x_1=>nw (.cells D7 false [.int .i64 0,.int .i64 0,.int .i64 0,.int .i64 0]) w1 fun b_1 w2=>ck (List.length x=4) (pAgg ⟨b_1,0,none⟩ x w2 fun w3=>bnd (cond (x_1 != 0) (some (true,w3)) (some (n==0,w3))) fun c_1 w4=>cond c_1
 (bnd (C Q1 [.int .i64 x_1] w4) fun r_3 w5=>aAgg r_3 fun x_2=>ck (List.length x_2=4) (pAgg ⟨b,0,none⟩ x_2 w5 fun w6=>gAgg ⟨b,0,none⟩ 4 w6 fun x_3=>some (.agg ⟨x_3⟩,w6)))
 (gAgg ⟨b_1,0,none⟩ 4 w4 fun x_4=>bnd (C B17 [.pointer c,.agg ⟨x_4⟩] w4) fun r_4 w7=>as2 r_4 fun r_5 r_6=>aAgg r_5 fun x_5=>aBool r_6 fun x_6=>nw (.cells By3 false [.int .i64 0,.int .i64 0,.int .i64 0,.int .i64 0,.int .u8 0,.int .u8 0,.int .u8 0,.int .u8 0,.int .u8 0,.int .u8 0,.int .u8 0,.int .u8 0,.int .u8 0,.int .u8 0,.int .u8 0,.int .u8 0,.int .u8 0,.int .u8 0,.int .u8 0,.int .u8 0,.int .u8 0,.int .u8 0,.int .u8 0,.int .u8 0,.int .u8 0,.int .u8 0,.int .u8 0,.int .u8 0,.int .u8 0,.int .u8 0,.int .u8 0,.int .u8 0,.int .u8 0,.int .u8 0,.int .u8 0,.int .u8 0,.nilFunc]) w7 fun b_2 w8=>ck (List.length x_5=37) (pAgg ⟨b_2,0,none⟩ x_5 w8 fun w9=>cond (!x_6)
 (bnd (C Q1 [.int .i64 105] w9) fun r_7 w10=>aAgg r_7 fun x_7=>ck (List.length x_7=4) (pAgg ⟨b,0,none⟩ x_7 w10 fun w11=>gAgg ⟨b,0,none⟩ 4 w11 fun x_8=>some (.agg ⟨x_8⟩,w11)))
 (gInt .i64 (Addr.add (Addr.add ⟨b_2,0,none⟩ 0) 1) w9 fun x_9=>bnd (cond (x_9==0) (gInt .i64 (Addr.add ⟨b_1,0,none⟩ 0) w9 fun x_10=>some (x_10==1,w9)) (some (false,w9))) fun c_2 w12=>bnd (cond c_2 (gInt .i64 (Addr.add (Addr.add ⟨b_2,0,none⟩ 0) 3) w12 fun x_11=>some (x_11==0,w12)) (some (false,w12))) fun c_3 w13=>cond c_3
 (pAgg ⟨b,0,none⟩ [.int .i64 0,.int .i64 0,.slice none 0 0,.bool false] w13 fun w14=>gAgg ⟨b,0,none⟩ 4 w14 fun x_12=>some (.agg ⟨x_12⟩,w14))
 (gInt .i64 (Addr.add (Addr.add ⟨b_2,0,none⟩ 0) 1) w13 fun x_13=>cond (x_13==0)
 (gAgg ⟨b_1,0,none⟩ 4 w13 fun x_14=>bnd (C Aw6 [.agg ⟨x_14⟩] w13) fun r_8 w15=>aAgg r_8 fun x_15=>ck (List.length x_15=4) (pAgg ⟨b,0,none⟩ x_15 w15 fun w16=>gAgg ⟨b,0,none⟩ 4 w16 fun x_16=>some (.agg ⟨x_16⟩,w16)))
 (gAgg (Addr.add ⟨b_2,0,none⟩ 0) 36 w13 fun x_17=>bnd (C Da5 [.agg ⟨x_17⟩,.int .i64 n] w13) fun r_9 w17=>as2 r_9 fun r_10 r_11=>aAgg r_10 fun x_18=>aSl r_11 fun x_19 xn xc=>nw (.cells D4 false [.int .i64 0,.int .i64 0,.int .i64 0,.int .i64 0,.int .u8 0,.int .u8 0,.int .u8 0,.int .u8 0,.int .u8 0,.int .u8 0,.int .u8 0,.int .u8 0,.int .u8 0,.int .u8 0,.int .u8 0,.int .u8 0,.int .u8 0,.int .u8 0,.int .u8 0,.int .u8 0,.int .u8 0,.int .u8 0,.int .u8 0,.int .u8 0,.int .u8 0,.int .u8 0,.int .u8 0,.int .u8 0,.int .u8 0,.int .u8 0,.int .u8 0,.int .u8 0,.int .u8 0,.int .u8 0,.int .u8 0,.int .u8 0]) w17 fun b_3 w18=>ck (List.length x_18=36) (pAgg ⟨b_3,0,none⟩ x_18 w18 fun w19=>gFv (Addr.add ⟨b_2,0,none⟩ 36) w19 fun x_20=>gAgg ⟨b_3,0,none⟩ 36 w19 fun x_21=>aFn x_20 fun g fi cp=>bnd (C g (fi++([.agg ⟨x_21⟩]++cp)) w19) fun r_12 w20=>aBool r_12 fun x_22=>cond (!x_22)
 (bnd (C Q1 [.int .i64 105] w20) fun r_13 w21=>aAgg r_13 fun x_23=>ck (List.length x_23=4) (pAgg ⟨b,0,none⟩ x_23 w21 fun w22=>gAgg ⟨b,0,none⟩ 4 w22 fun x_24=>some (.agg ⟨x_24⟩,w22)))
 (pAgg ⟨b,0,none⟩ [.int .i64 ((xn:Nat):Int),.int .i64 0,.slice x_19 xn xc,.bool false] w20 fun w23=>gAgg ⟨b,0,none⟩ 4 w23 fun x_25=>some (.agg ⟨x_25⟩,w23))))))))):=by kernel_rfl
def D31:Cuts:={ globs:=0,loops:=[],regs:=[],plans:=[] }
def E20:List Item:=B3 Tryz.f17
theorem Hh8 (C:B0) (R:B2) (c:Option Addr) (i:Int) (h:H) :
 B4 PR D31 C R B92 Tryz.f17 100000 true E20 [(0,.pointer c),(1,.int .i64 i)] h =
 nw (.cells L9 false [.int .i64 0,.int .i64 0,.slice none 0 0,.bool false]) h fun b w=>bnd (C A14 [.pointer c,.int .i64 i] w) fun r w1=>as2 r fun r_1 r_2=>aAgg r_1 fun x=>aInt .i64 r_2 fun x_1=>nw (.cells D8 false [.int .i64 0,.int .i64 0,.int .i64 0,.int .i64 0,.int .i64 0,.int .i64 0,.int .i64 0,.int .i64 0,.int .i64 0,.int .i64 0,.int .i64 0,.int .i64 0,.int .i64 0,.int .i64 0,.int .i64 0,.int .i64 0]) w1 fun b_1 w2=>ck (List.length x=16) (pAgg ⟨b_1,0,none⟩ x w2 fun w3=>cond (x_1 != 0)
 (bnd (C A05 [.int .i64 x_1] w3) fun r_3 w4=>aAgg r_3 fun x_2=>ck (List.length x_2=4) (pAgg ⟨b,0,none⟩ x_2 w4 fun w5=>gAgg ⟨b,0,none⟩ 4 w5 fun x_3=>some (.agg ⟨x_3⟩,w5)))
 (bnd (C Ar6 [.pointer c] w3) fun r_4 w6=>aInt .i64 r_4 fun x_4=>cond (decide (x_4<0))
 (bnd (C A05 [.int .i64 111] w6) fun r_5 w7=>aAgg r_5 fun x_5=>ck (List.length x_5=4) (pAgg ⟨b,0,none⟩ x_5 w7 fun w8=>gAgg ⟨b,0,none⟩ 4 w8 fun x_6=>some (.agg ⟨x_6⟩,w8)))
 (gAgg ⟨b_1,0,none⟩ 16 w6 fun x_7=>bnd (C G6 [.pointer c,.agg ⟨x_7⟩] w6) fun r_6 w9=>aInt .i64 r_6 fun x_8=>cond (x_8 != 0)
 (bnd (C A05 [.int .i64 x_8] w9) fun r_7 w10=>aAgg r_7 fun x_9=>ck (List.length x_9=4) (pAgg ⟨b,0,none⟩ x_9 w10 fun w11=>gAgg ⟨b,0,none⟩ 4 w11 fun x_10=>some (.agg ⟨x_10⟩,w11)))
 (pV (Addr.add ⟨b_1,0,none⟩ 1) (.int .i64 (IntKind.wrap .i64 (i+1))) w9 fun w12=>pV (Addr.add ⟨b_1,0,none⟩ 4) (.int .i64 0) w12 fun w13=>gAgg ⟨b_1,0,none⟩ 16 w13 fun x_11=>bnd (C O8 [.pointer c,.int .i64 x_4,.agg ⟨x_11⟩] w13) fun r_8 w14=>aBool r_8 fun x_12=>bnd (C A03 [.bool x_12,.int .i64 x_4] w14) fun r_9 w15=>aAgg r_9 fun x_13=>ck (List.length x_13=4) (pAgg ⟨b,0,none⟩ x_13 w15 fun w16=>gAgg ⟨b,0,none⟩ 4 w16 fun x_14=>some (.agg ⟨x_14⟩,w16)))))):=by kernel_rfl
def B60:Cuts:={ globs:=0,loops:=[],regs:=[],plans:=[] }
def D52:List Item:=B3 Tryz.f26
theorem Gn7 (C:B0) (R:B2) (k:Option Addr) (env:Int) (c:List Value) (h:H) :
 B4 PR B60 C R U0 Tryz.f26 100000 true D52 [(0,.pointer k),(1,.int .i64 env),(2,.agg ⟨c⟩)] h =
 nw (.cells Ax4 false c) h fun b w=>nw (.cells Ep7 false [.int .i64 0,.int .i64 0,.slice none 0 0]) w fun b_1 w1=>bnd (cond (decide (env<0)) (some (true,w1)) (aSome k fun p=>gSl (Addr.add p 0) w1 fun _ xn _=>some (decide (env≥((xn:Nat):Int)),w1))) fun c_1 w2=>cond c_1
 (pAgg ⟨b_1,0,none⟩ [.int .i64 1,.int .i64 0,.slice none 0 0] w2 fun w3=>gAgg ⟨b_1,0,none⟩ 3 w3 fun x_1=>some (.agg ⟨x_1⟩,w3))
 (gAgg ⟨b,0,none⟩ 7 w2 fun x_2=>bnd (C A33 [.pointer k,.int .i64 env,.agg ⟨x_2⟩] w2) fun r w4=>as3 r fun r_1 r_2 r_3=>aSl r_1 fun x_3 xn_1 xc_1=>aInt .i64 r_2 fun x_4=>aBool r_3 fun x_5=>cond x_5
 (pAgg ⟨b_1,0,none⟩ [.int .i64 x_4,.int .i64 0,.slice x_3 xn_1 xc_1] w4 fun w5=>gAgg ⟨b_1,0,none⟩ 3 w5 fun x_6=>some (.agg ⟨x_6⟩,w5))
 (gAgg ⟨b,0,none⟩ 7 w4 fun x_7=>bnd (C A00 [.pointer k,.int .i64 env,.agg ⟨x_7⟩] w4) fun r_4 w6=>as2 r_4 fun r_5 r_6=>aInt .i64 r_5 fun x_8=>aInt .i64 r_6 fun x_9=>pAgg ⟨b_1,0,none⟩ [.int .i64 x_9,.int .i64 x_8,.slice none 0 0] w6 fun w7=>gAgg ⟨b_1,0,none⟩ 3 w7 fun x_10=>some (.agg ⟨x_10⟩,w7))):=by kernel_rfl
def B71:Cuts:={ globs:=0,loops:=[],regs:=[],plans:=[(7,⟨[0,1,2,3,4,5,6,7,8,9,10,11,12,13,14,15,16],[0,1,3,7,0,0,32,0,128,0,512,2047,4095,8191,8191,16383,65535],[],[]⟩),(9,⟨[0,1,2,3,4,5,6,7,8,9,10,11,12,13],[0,1,3,7,0,0,32,0,128,0,512,1536,4095,8191],[],[]⟩),(11,⟨[0,1,2,3,4,5,6,7,8,9,10,11,12,13,14,15,16],[0,1,3,7,0,0,32,0,128,0,512,0,2048,0,8192,32767,65535],[],[]⟩),(13,⟨[0,1,2,3,4,5,6,7,8,9,10,11,12,13,14,15,16,17,18,19,20,21,22,23],[0,1,3,7,15,31,63,0,0,256,0,1024,0,4096,0,16384,0,65536,262143,524287,1048575,1048575,2097151,8388607],[],[]⟩),(15,⟨[0,1,2,3,4,5,6,7,8,9,10,11,12,13,14,15],[0,1,3,7,15,31,63,0,0,256,1023,2047,4095,4095,8191,32767],[],[]⟩),(17,⟨[0,1,2,3,4,5,6,7,8,9,10,11,12,13,14,15,16,17],[0,1,3,7,0,16,48,112,240,0,1008,2032,4095,8191,16383,16383,32767,131071],[],[]⟩),(19,⟨[0,1,2,3,4,5,6,7,8,9,10,11,12,13,14,15],[0,1,3,7,0,16,48,112,240,0,1008,2032,0,4096,16383,32767],[],[]⟩),(23,⟨[0,1,2,3,4,5,6,7,8,9,10,11,12,13,14,15,16,17],[0,1,3,7,0,16,63,127,0,0,512,1536,3584,8191,16383,32767,32767,65535],[],[]⟩),(27,⟨[0,1,2,3,4,5,6,7,8,9,10,11,12,13,14,15,16,17,18],[0,0,0,4,15,31,63,127,255,511,63,1087,4095,8191,63,63,32831,131071,262143],[],[]⟩)] }
def D81:List Item:=B3 Tryz.f27
theorem Gl9 (C:B0) (R:B2) (k:Option Addr) (e:Int) (c:List Value) (h:H) :
 B4 PR B71 C R As3 Tryz.f27 100000 true D81 [(0,.pointer k),(1,.int .i64 e),(2,.agg ⟨c⟩)] h =
 nw (.cells Ax4 false c) h fun b w=>bnd (cond (decide (e<0)) (some (true,w)) (aSome k fun p=>gSl (Addr.add (Addr.add p 0) 1) w fun _ xn _=>some (decide (e≥((xn:Nat):Int)),w))) fun c_1 w1=>cond c_1
 (some (.tuple ⟨[.int .i64 1,.int .i64 0,.string (ByteArray.mk ⟨[]⟩)]⟩,w1))
 (gInt .i64 (Addr.add ⟨b,0,none⟩ 0) w1 fun x_1=>cond (x_1==1)
 (aSome k fun p_1=>gPtr (Addr.add p_1 6) w1 fun x_2=>gInt .i64 (Addr.add ⟨b,0,none⟩ 1) w1 fun x_3=>gInt .i64 (Addr.add ⟨b,0,none⟩ 2) w1 fun x_4=>gInt .i64 (Addr.add ⟨b,0,none⟩ 3) w1 fun x_5=>bnd (C Ej9 [.pointer x_2,.int .i64 e,.int .i64 x_3,.int .i64 x_4,.int .i64 x_5] w1) fun r w2=>as2 r fun r_1 r_2=>aStr r_1 fun x_6=>aInt .i64 r_2 fun x_7=>some (.tuple ⟨[.int .i64 x_7,.int .i64 0,.string x_6]⟩,w2))
 (cond (x_1==2)
 (aSome k fun p_2=>gPtr (Addr.add p_2 6) w1 fun x_8=>gInt .i64 (Addr.add ⟨b,0,none⟩ 1) w1 fun x_9=>gInt .i64 (Addr.add ⟨b,0,none⟩ 2) w1 fun x_10=>gSl (Addr.add ⟨b,0,none⟩ 6) w1 fun x_11 xn_1 _=>gCells x_11 xn_1 w1 fun cs=>asBytes cs fun l=>bnd (C Aq4 [.pointer x_8,.int .i64 e,.int .i64 x_9,.int .i64 x_10,.string (ByteArray.mk ⟨l⟩)] w1) fun r_3 w3=>aInt .i64 r_3 fun x_12=>some (.tuple ⟨[.int .i64 x_12,.int .i64 0,.string (ByteArray.mk ⟨[]⟩)]⟩,w3))
 (cond (x_1==3)
 (aSome k fun p_3=>gPtr (Addr.add p_3 6) w1 fun x_13=>gInt .i64 (Addr.add ⟨b,0,none⟩ 1) w1 fun x_14=>gInt .i64 (Addr.add ⟨b,0,none⟩ 2) w1 fun x_15=>gInt .i64 (Addr.add ⟨b,0,none⟩ 4) w1 fun x_16=>gInt .i64 (Addr.add ⟨b,0,none⟩ 5) w1 fun x_17=>gInt .i64 (Addr.add ⟨b,0,none⟩ 3) w1 fun x_18=>bnd (C Ek5 [.pointer x_13,.int .i64 e,.int .i64 x_14,.int .i64 x_15,.int .i64 x_16,.int .i64 x_17,.int .i64 x_18] w1) fun r_4 w4=>aInt .i64 r_4 fun x_19=>some (.tuple ⟨[.int .i64 x_19,.int .i64 0,.string (ByteArray.mk ⟨[]⟩)]⟩,w4))
 (cond (x_1==4)
 (aSome k fun p_4=>gPtr (Addr.add p_4 6) w1 fun x_20=>aSome x_20 fun p_5=>gPtr (Addr.add p_5 3) w1 fun x_21=>gInt .i64 (Addr.add ⟨b,0,none⟩ 1) w1 fun x_22=>gInt .i64 (Addr.add ⟨b,0,none⟩ 4) w1 fun x_23=>gInt .i64 (Addr.add ⟨b,0,none⟩ 5) w1 fun x_24=>gInt .i64 (Addr.add ⟨b,0,none⟩ 2) w1 fun x_25=>gInt .i64 (Addr.add ⟨b,0,none⟩ 3) w1 fun x_26=>bnd (C El5 [.pointer x_21,.int .i64 e,.int .i64 x_22,.int .i64 x_23,.int .i64 x_24,.int .i64 x_25,.int .i64 x_26] w1) fun r_5 w5=>as2 r_5 fun r_6 r_7=>aInt .i64 r_6 fun x_27=>aInt .i64 r_7 fun x_28=>some (.tuple ⟨[.int .i64 x_28,.int .i64 x_27,.string (ByteArray.mk ⟨[]⟩)]⟩,w5))
 (cond (x_1==5)
 (aSome k fun p_6=>gPtr (Addr.add p_6 6) w1 fun x_29=>aSome x_29 fun p_7=>gPtr (Addr.add p_7 3) w1 fun x_30=>gInt .i64 (Addr.add ⟨b,0,none⟩ 1) w1 fun x_31=>bnd (C Ek8 [.pointer x_30,.int .i64 e,.int .i64 x_31] w1) fun r_8 w6=>as2 r_8 fun r_9 r_10=>aInt .i64 r_9 fun x_32=>aInt .i64 r_10 fun x_33=>some (.tuple ⟨[.int .i64 x_33,.int .i64 x_32,.string (ByteArray.mk ⟨[]⟩)]⟩,w6))
 (cond (x_1==6)
 (aSome k fun p_8=>gPtr (Addr.add p_8 5) w1 fun x_34=>aSome k fun p_9=>gSl (Addr.add (Addr.add p_9 0) 1) w1 fun x_35 xn_2 _=>aSome x_35 fun p_10=>ck ((0:Int)≤e∧e<((xn_2:Nat):Int)) (gInt .i64 (Addr.add (B8 p_10) (Int.toNat e*1)) w1 fun x_36=>bnd (C En8 [.pointer x_34,.int .i64 x_36] w1) fun r_11 w7=>as2 r_11 fun r_12 r_13=>aInt .i64 r_12 fun x_37=>aInt .i64 r_13 fun x_38=>some (.tuple ⟨[.int .i64 x_38,.int .i64 x_37,.string (ByteArray.mk ⟨[]⟩)]⟩,w7)))
 (cond (x_1==7)
 (aSome k fun p_11=>gPtr (Addr.add p_11 5) w1 fun x_39=>aSome k fun p_12=>gSl (Addr.add (Addr.add p_12 0) 1) w1 fun x_40 xn_3 _=>aSome x_40 fun p_13=>ck ((0:Int)≤e∧e<((xn_3:Nat):Int)) (gInt .i64 (Addr.add (B8 p_13) (Int.toNat e*1)) w1 fun x_41=>gInt .i64 (Addr.add ⟨b,0,none⟩ 3) w1 fun x_42=>bnd (C E13 [.pointer x_39,.int .i64 x_41,.int .i64 x_42] w1) fun r_14 w8=>aInt .i64 r_14 fun x_43=>some (.tuple ⟨[.int .i64 x_43,.int .i64 0,.string (ByteArray.mk ⟨[]⟩)]⟩,w8)))
 (cond (x_1==8)
 (gInt .i64 (Addr.add ⟨b,0,none⟩ 3) w1 fun x_44=>bnd (C Dx4 [.pointer k,.int .i64 e,.int .i64 x_44] w1) fun r_15 w9=>aBool r_15 fun x_45=>cond x_45
 (aSome k fun p_14=>gSl (Addr.add p_14 7) w9 fun x_46 xn_4 _=>gInt .i64 (Addr.add ⟨b,0,none⟩ 3) w9 fun x_47=>aSome x_46 fun p_15=>ck ((0:Int)≤x_47∧x_47<((xn_4:Nat):Int)) (gPtr (Addr.add (B8 p_15) (Int.toNat x_47*1)) w9 fun x_48=>aSome k fun p_16=>gInt .i64 (Addr.add p_16 8) w9 fun x_49=>bnd (C E18 [.pointer x_48,.int .i64 e,.int .i64 x_49] w9) fun r_16 w10=>as2 r_16 fun r_17 r_18=>aInt .i64 r_17 fun x_50=>aBool r_18 fun _=>some (.tuple ⟨[.int .i64 0,.int .i64 x_50,.string (ByteArray.mk ⟨[]⟩)]⟩,w10)))
 (some (.tuple ⟨[.int .i64 8,.int .i64 0,.string (ByteArray.mk ⟨[]⟩)]⟩,w9)))
 (cond (x_1==9)
 (gInt .i64 (Addr.add ⟨b,0,none⟩ 3) w1 fun x_52=>bnd (C Dx4 [.pointer k,.int .i64 e,.int .i64 x_52] w1) fun r_19 w11=>aBool r_19 fun x_53=>bnd (cond x_53 (aSome k fun p_17=>gSl (Addr.add p_17 7) w11 fun x_54 xn_5 _=>gInt .i64 (Addr.add ⟨b,0,none⟩ 3) w11 fun x_55=>aSome x_54 fun p_18=>ck ((0:Int)≤x_55∧x_55<((xn_5:Nat):Int)) (gPtr (Addr.add (B8 p_18) (Int.toNat x_55*1)) w11 fun x_56=>gInt .i64 (Addr.add ⟨b,0,none⟩ 2) w11 fun x_57=>bnd (C E09 [.pointer x_56,.int .i64 e,.int .i64 x_57] w11) fun r_20 w12=>aBool r_20 fun x_58=>some (x_58,w12))) (some (false,w11))) fun c_2 w13=>cond c_2
 (some (.tuple ⟨[.int .i64 0,.int .i64 0,.string (ByteArray.mk ⟨[]⟩)]⟩,w13))
 (some (.tuple ⟨[.int .i64 8,.int .i64 0,.string (ByteArray.mk ⟨[]⟩)]⟩,w13)))
 (cond (x_1==10)
 (aSome k fun p_19=>gInt .i64 (Addr.add p_19 8) w1 fun x_59=>some (.tuple ⟨[.int .i64 0,.int .i64 x_59,.string (ByteArray.mk ⟨[]⟩)]⟩,w1))
 (some (.tuple ⟨[.int .i64 7,.int .i64 0,.string (ByteArray.mk ⟨[]⟩)]⟩,w1)))))))))))):=by kernel_rfl
def A27:Cuts:={ globs:=0,loops:=[(4,[1,3,4])],regs:=[],plans:=[(2,⟨[0,1,2,5,6,9,10,13,14,3,4,7,8,11,12,15,16,17],[0,0,2,6,15,0,32,110,255,0,512,1774,4095,0,8192,28398,65535,131071],[(3,[6,10,14]),(7,[10,14]),(11,[14])],[]⟩)] }
def Bn7:List Item:=B3 Tryz.f29
def Ao6:List Item:=stk [0,1,0,1,0,1,0,0,1,4,5] Bn7
theorem E16 (C:B0) (R:B2) (p:List Value) (h:H) :
 B4 PR A27 C R U3 Tryz.f29 100000 true Bn7 [(0,.agg ⟨p⟩)] h =
 nw (.cells D8 false p) h fun b w=>gInt .i64 (Addr.add ⟨b,0,none⟩ 0) w fun x=>gInt .i64 (Addr.add ⟨b,0,none⟩ 1) w fun x_1=>gInt .i64 (Addr.add ⟨b,0,none⟩ 2) w fun x_2=>gInt .i64 (Addr.add ⟨b,0,none⟩ 3) w fun x_3=>nw (.cells B1 false [.int .u8 (IntKind.wrap .u8 (x)),.int .u8 (IntKind.wrap .u8 (x_1)),.int .u8 (IntKind.wrap .u8 (x_2)),.int .u8 (IntKind.wrap .u8 (x_3))]) w fun b_1 w1=>gCells (some ⟨b_1,0,none⟩) 4 w1 fun cs=>asBytes cs fun l=>gInt .i64 (Addr.add ⟨b,0,none⟩ 4) w1 fun x_4=>gInt .i64 (Addr.add ⟨b,0,none⟩ 5) w1 fun x_5=>gInt .i64 (Addr.add ⟨b,0,none⟩ 6) w1 fun x_6=>gInt .i64 (Addr.add ⟨b,0,none⟩ 7) w1 fun x_7=>bnd (C A77 [.int .i64 x_4] w1) fun r w2=>aStr r fun x_8=>gInt .i64 (Addr.add ⟨b,0,none⟩ 5) w2 fun x_9=>same (.int .i64 x_5) (.int .i64 x_9) (gInt .i64 (Addr.add ⟨b,0,none⟩ 6) w2 fun x_10=>same (.int .i64 x_6) (.int .i64 x_10) (gInt .i64 (Addr.add ⟨b,0,none⟩ 7) w2 fun x_11=>same (.int .i64 x_7) (.int .i64 x_11) (ck (ByteArray.size (ByteArray.mk ⟨l⟩)+ByteArray.size x_8≤B7) (bnd (C A77 [.int .i64 x_5] w2) fun r_1 w3=>aStr r_1 fun x_12=>gInt .i64 (Addr.add ⟨b,0,none⟩ 6) w3 fun x_13=>same (.int .i64 x_6) (.int .i64 x_13) (gInt .i64 (Addr.add ⟨b,0,none⟩ 7) w3 fun x_14=>same (.int .i64 x_7) (.int .i64 x_14) (ck (ByteArray.size ((ByteArray.mk ⟨l⟩)++x_8)+ByteArray.size x_12≤B7) (bnd (C A77 [.int .i64 x_6] w3) fun r_2 w4=>aStr r_2 fun x_15=>gInt .i64 (Addr.add ⟨b,0,none⟩ 7) w4 fun x_16=>same (.int .i64 x_7) (.int .i64 x_16) (ck (ByteArray.size (((ByteArray.mk ⟨l⟩)++x_8)++x_12)+ByteArray.size x_15≤B7) (bnd (C A77 [.int .i64 x_7] w4) fun r_3 w5=>aStr r_3 fun x_17=>ck (ByteArray.size ((((ByteArray.mk ⟨l⟩)++x_8)++x_12)++x_15)+ByteArray.size x_17≤B7) (R U3 Ao6 [(1,.pointer (some ⟨b,0,none⟩)),(3,.string (((((ByteArray.mk ⟨l⟩)++x_8)++x_12)++x_15)++x_17)),(4,.int .i64 0)] w5)))))))))):=by kernel_rfl
theorem By6 (C:B0) (R:B2) (p:Addr) (s:ByteArray) (i:Int) (h:H) :
 B4 PR A27 C R U3 Tryz.f29 100000 true Ao6 [(1,.pointer (some p)),(3,.string s),(4,.int .i64 i)] h =
 cond (decide (i<8))
 (ck ((0:Int)≤i∧i<((8:Nat):Int)) (gInt .i64 (Addr.add (Addr.add p 8) (Int.toNat i*1)) h fun x=>nw (.cells B1 false [.int .u8 (IntKind.wrap .u8 (x))]) h fun b w=>gCells (some ⟨b,0,none⟩) 1 w fun cs=>asBytes cs fun l=>ck (ByteArray.size s+ByteArray.size (ByteArray.mk ⟨l⟩)≤B7) (R U3 Ao6 [(1,.pointer (some p)),(3,.string (s++(ByteArray.mk ⟨l⟩))),(4,.int .i64 (IntKind.wrap .i64 (i+1)))] w)))
 (ck (ByteArray.size s+ByteArray.size (ByteArray.mk ⟨[167]⟩)≤B7) (bnd (C Af1 [.string (s++(ByteArray.mk ⟨[167]⟩))] h) fun r w1=>aInt .u8 r fun x_1=>nw (.cells B1 false [.int .u8 x_1,.int .u8 0,.int .u8 0]) w1 fun b_1 w2=>gCells (some ⟨b_1,0,none⟩) 3 w2 fun cs_1=>asBytes cs_1 fun l_1=>ck (ByteArray.size (s++(ByteArray.mk ⟨[167]⟩))+ByteArray.size (ByteArray.mk ⟨l_1⟩)≤B7) (some (.string ((s++(ByteArray.mk ⟨[167]⟩))++(ByteArray.mk ⟨l_1⟩)),w2)))):=by kernel_rfl
def An9:Cuts:={ globs:=0,loops:=[],regs:=[],plans:=[] }
def Bf8:List Item:=B3 Tryz.f39
theorem Dl8 (C:B0) (R:B2) (c:Option Addr) (i:Int) (f:List Value) (h:H) :
 B4 PR An9 C R L5 Tryz.f39 100000 true Bf8 [(0,.pointer c),(1,.int .i64 i),(2,.agg ⟨f⟩)] h =
 nw (.cells D7 false f) h fun b w=>gAgg ⟨b,0,none⟩ 4 w fun x=>bnd (C A42 [.agg ⟨x⟩] w) fun r w1=>as2 r fun r_1 r_2=>aSl r_1 fun x_1 xn xc=>aBool r_2 fun x_2=>bnd (C As1 [.int .i64 i] w1) fun r_3 w2=>aAgg r_3 fun x_3=>bnd (C I2 [.pointer c,.agg ⟨x_3⟩,.slice x_1 xn xc,.bool x_2] w2) fun r_4 w3=>aBool r_4 fun x_4=>some (.bool x_4,w3):=by kernel_rfl
def Aq3:Cuts:={ globs:=0,loops:=[],regs:=[],plans:=[] }
def Bf3:List Item:=B3 Tryz.f41
theorem Dj1 (C:B0) (R:B2) (c:Option Addr) (i:Int) (p:List Value) (h:H) :
 B4 PR Aq3 C R O8 Tryz.f41 100000 true Bf3 [(0,.pointer c),(1,.int .i64 i),(2,.agg ⟨p⟩)] h =
 nw (.cells D8 false p) h fun b w=>gAgg ⟨b,0,none⟩ 16 w fun x=>bnd (C A56 [.agg ⟨x⟩] w) fun r w1=>as2 r fun r_1 r_2=>aSl r_1 fun x_1 xn xc=>aBool r_2 fun x_2=>bnd (C A45 [.int .i64 i] w1) fun r_3 w2=>aAgg r_3 fun x_3=>bnd (C I2 [.pointer c,.agg ⟨x_3⟩,.slice x_1 xn xc,.bool x_2] w2) fun r_4 w3=>aBool r_4 fun x_4=>some (.bool x_4,w3):=by kernel_rfl
def E76:Cuts:={ globs:=0,loops:=[],regs:=[],plans:=[(3,⟨[0,1,2,3,4],[0,0,0,5,15],[],[]⟩),(5,⟨[0,1,2,3],[0,0,3,7],[],[]⟩),(9,⟨[0,1,2,3,4,5,6,7,8],[0,0,3,7,15,0,31,127,255],[],[]⟩)] }
def G02:List Item:=B3 Tryz.f42
theorem Ia1 (C:B0) (R:B2) (c:Option Addr) (i:Int) (fd:Int) (h:H) :
 B4 PR E76 C R Dt4 Tryz.f42 100000 true G02 [(0,.pointer c),(1,.int .i64 i),(2,.int .i64 fd)] h =
 nw (.cells D7 false [.int .i64 0,.int .i64 0,.int .i64 0,.int .i64 0]) h fun b w=>bnd (C A14 [.pointer c,.int .i64 i] w) fun r w1=>as2 r fun r_1 r_2=>aAgg r_1 fun x=>aInt .i64 r_2 fun x_1=>nw (.cells D8 false [.int .i64 0,.int .i64 0,.int .i64 0,.int .i64 0,.int .i64 0,.int .i64 0,.int .i64 0,.int .i64 0,.int .i64 0,.int .i64 0,.int .i64 0,.int .i64 0,.int .i64 0,.int .i64 0,.int .i64 0,.int .i64 0]) w1 fun b_1 w2=>ck (List.length x=16) (pAgg ⟨b_1,0,none⟩ x w2 fun w3=>cond (x_1 != 0)
 (gAgg ⟨b,0,none⟩ 4 w3 fun x_2=>ck (List.length x_2=4) (pAgg ⟨b,0,none⟩ x_2 w3 fun w4=>gAgg ⟨b,0,none⟩ 4 w4 fun x_3=>some (.tuple ⟨[.int .i64 0,.agg ⟨x_3⟩,.int .i64 x_1]⟩,w4)))
 (gAgg ⟨b_1,0,none⟩ 16 w3 fun x_4=>bnd (C Bp7 [.agg ⟨x_4⟩,.int .i64 fd] w3) fun r_3 w5=>aBool r_3 fun x_5=>cond (!x_5)
 (gAgg ⟨b,0,none⟩ 4 w5 fun x_6=>ck (List.length x_6=4) (pAgg ⟨b,0,none⟩ x_6 w5 fun w6=>gAgg ⟨b,0,none⟩ 4 w6 fun x_7=>some (.tuple ⟨[.int .i64 0,.agg ⟨x_7⟩,.int .i64 109]⟩,w6)))
 (ck ((0:Int)≤fd∧fd<((8:Nat):Int)) (gInt .i64 (Addr.add (Addr.add ⟨b_1,0,none⟩ 8) (Int.toNat fd*1)) w5 fun x_8=>bnd (C I7 [.pointer c,.int .i64 (IntKind.wrap .i64 (x_8-1))] w5) fun r_4 w7=>as2 r_4 fun r_5 r_6=>aAgg r_5 fun x_9=>aInt .i64 r_6 fun x_10=>ck (List.length x_9=4) (pAgg ⟨b,0,none⟩ x_9 w7 fun w8=>cond (x_10 != 1)
 (pAgg ⟨b,0,none⟩ [.int .i64 0,.int .i64 0,.int .i64 0,.int .i64 0] w8 fun w9=>gAgg ⟨b,0,none⟩ 4 w9 fun x_11=>some (.tuple ⟨[.int .i64 0,.agg ⟨x_11⟩,.int .i64 105]⟩,w9))
 (ck ((0:Int)≤fd∧fd<((8:Nat):Int)) (gInt .i64 (Addr.add (Addr.add ⟨b_1,0,none⟩ 8) (Int.toNat fd*1)) w8 fun x_12=>gAgg ⟨b,0,none⟩ 4 w8 fun x_13=>ck (List.length x_13=4) (pAgg ⟨b,0,none⟩ x_13 w8 fun w10=>gAgg ⟨b,0,none⟩ 4 w10 fun x_14=>some (.tuple ⟨[.int .i64 (IntKind.wrap .i64 (x_12-1)),.agg ⟨x_14⟩,.int .i64 0]⟩,w10))))))))):=by kernel_rfl
def Dk8:Cuts:={ globs:=0,loops:=[(5,[2,4,6,13,14,15])],regs:=[],plans:=[] }
def D92:List Item:=B3 Tryz.f47
def Bt1:List Item:=stk [0,1,0,1,0,1,0,0,1,4,5] D92
theorem Ho9 (C:B0) (R:B2) (p:List Value) (b:Option Addr) (bn bc:Nat) (h:H) :
 B4 PR Dk8 C R Ao9 Tryz.f47 100000 true D92 [(0,.agg ⟨p⟩),(1,.slice b bn bc)] h =
 nw (.cells D4 false p) h fun b_1 w=>nw (.cells D4 false [.int .i64 0,.int .i64 0,.int .i64 0,.int .i64 0,.int .u8 0,.int .u8 0,.int .u8 0,.int .u8 0,.int .u8 0,.int .u8 0,.int .u8 0,.int .u8 0,.int .u8 0,.int .u8 0,.int .u8 0,.int .u8 0,.int .u8 0,.int .u8 0,.int .u8 0,.int .u8 0,.int .u8 0,.int .u8 0,.int .u8 0,.int .u8 0,.int .u8 0,.int .u8 0,.int .u8 0,.int .u8 0,.int .u8 0,.int .u8 0,.int .u8 0,.int .u8 0,.int .u8 0,.int .u8 0,.int .u8 0,.int .u8 0]) w fun b_2 w1=>gAgg ⟨b_1,0,none⟩ 36 w1 fun x=>bnd (C Bx7 [.agg ⟨x⟩] w1) fun r w2=>aBool r fun x_1=>cond (!x_1)
 (gAgg ⟨b_1,0,none⟩ 36 w2 fun x_2=>ck (List.length x_2=36) (pAgg ⟨b_2,0,none⟩ x_2 w2 fun w3=>gAgg ⟨b_2,0,none⟩ 36 w3 fun x_3=>some (.tuple ⟨[.agg ⟨x_3⟩,.int .i64 0]⟩,w3)))
 (R Ao9 Bt1 [(2,.pointer (some ⟨b_1,0,none⟩)),(4,.pointer (some ⟨b_2,0,none⟩)),(6,.int .i64 0),(13,.slice b bn bc),(14,.int .i64 ((bn:Nat):Int)),(15,.int .i64 0)] w2):=by kernel_rfl
theorem Ej2 (C:B0) (R:B2) (p:Addr) (x4:Addr) (n:Int) (x13:Option Addr) (x13n x13c:Nat) (x14:Int) (x15:Int) (h:H) :
 B4 PR Dk8 C R Ao9 Tryz.f47 100000 true Bt1 [(2,.pointer (some p)),(4,.pointer (some x4)),(6,.int .i64 n),(13,.slice x13 x13n x13c),(14,.int .i64 x14),(15,.int .i64 x15)] h =
 cond (decide (x15<x14))
 (aSome x13 fun p_1=>ck ((0:Int)≤x15∧x15<((x13n:Nat):Int)) (gInt .u8 (Addr.add (B8 p_1) (Int.toNat x15*1)) h fun x=>gInt .i64 (Addr.add p 1) h fun x_1=>cond (x_1==32)
 (gAgg p 36 h fun x_2=>ck (List.length x_2=36) (pAgg x4 x_2 h fun w=>gAgg x4 36 w fun x_3=>some (.tuple ⟨[.agg ⟨x_3⟩,.int .i64 n]⟩,w)))
 (gInt .i64 (Addr.add p 0) h fun x_4=>gInt .i64 (Addr.add p 1) h fun x_5=>ck ((0:Int)≤Int.tmod (IntKind.wrap .i64 (x_4+x_5)) 32∧Int.tmod (IntKind.wrap .i64 (x_4+x_5)) 32<((32:Nat):Int)) (pV (Addr.add (Addr.add p 4) (Int.toNat (Int.tmod (IntKind.wrap .i64 (x_4+x_5)) 32)*1)) (.int .u8 x) h fun w1=>gInt .i64 (Addr.add p 1) w1 fun x_6=>pV (Addr.add p 1) (.int .i64 (IntKind.wrap .i64 (x_6+1))) w1 fun w2=>R Ao9 Bt1 [(2,.pointer (some p)),(4,.pointer (some x4)),(6,.int .i64 (IntKind.wrap .i64 (n+1))),(13,.slice x13 x13n x13c),(14,.int .i64 x14),(15,.int .i64 (IntKind.wrap .i64 (x15+1)))] w2))))
 (gAgg p 36 h fun x_7=>ck (List.length x_7=36) (pAgg x4 x_7 h fun w3=>gAgg x4 36 w3 fun x_8=>some (.tuple ⟨[.agg ⟨x_8⟩,.int .i64 n]⟩,w3))):=by kernel_rfl
def Aj9:Cuts:={ globs:=0,loops:=[],regs:=[],plans:=[] }
def A73:List Item:=B3 Tryz.f52
theorem Dc3 (C:B0) (R:B2) (s:Option Addr) (sn sc:Nat) (v:Int) (h:H) :
 B4 PR Aj9 C R N0 Tryz.f52 100000 true A73 [(0,.slice s sn sc),(1,.int .i64 v)] h =
 bnd (C H7 [.slice s sn sc,.int .i64 v] h) fun r w=>aInt .i64 r fun x=>some (.bool (decide (x≥0)),w):=by kernel_rfl
def B97:Cuts:={ globs:=0,loops:=[(2,[0,6])],regs:=[],plans:=[] }
def Dz7:List Item:=B3 Tryz.f54
def Bm0:List Item:=stk [0,1,0,0,1,4,5] Dz7
theorem Hj6 (C:B0) (R:B2) (c:Option Addr) (h:H) :
 B4 PR B97 C R Ar6 Tryz.f54 100000 true Dz7 [(0,.pointer c)] h =
 R Ar6 Bm0 [(0,.pointer c),(6,.int .i64 0)] h:=by kernel_rfl
theorem D56 (C:B0) (R:B2) (c:Option Addr) (x6:Int) (h:H) :
 B4 PR B97 C R Ar6 Tryz.f54 100000 true Bm0 [(0,.pointer c),(6,.int .i64 x6)] h =
 cond (decide (x6<8))
 (bnd (C U1 [.pointer c,.int .i64 x6] h) fun r w=>as2 r fun r_1 r_2=>aAgg r_1 fun x=>aInt .i64 r_2 fun x_1=>nw (.cells D8 false [.int .i64 0,.int .i64 0,.int .i64 0,.int .i64 0,.int .i64 0,.int .i64 0,.int .i64 0,.int .i64 0,.int .i64 0,.int .i64 0,.int .i64 0,.int .i64 0,.int .i64 0,.int .i64 0,.int .i64 0,.int .i64 0]) w fun b w1=>ck (List.length x=16) (pAgg ⟨b,0,none⟩ x w1 fun w2=>cond (x_1==0)
 (some (.int .i64 x6,w2))
 (R Ar6 Bm0 [(0,.pointer c),(6,.int .i64 (IntKind.wrap .i64 (x6+1)))] w2)))
 (some (.int .i64 (-1),h)):=by kernel_rfl
def A47:Cuts:={ globs:=0,loops:=[(3,[0,3,5,17,18]),(9,[0,5,31,32]),(19,[0,57,58])],regs:=[],plans:=[(15,⟨[0,1,2,3,4,5,6,7,8],[0,1,0,4,12,28,63,127,255],[],[]⟩)] }
def Bj5:List Item:=B3 Tryz.f55
def Ax5:List Item:=stk [0,1,0,1,0,0,1,4,5] Bj5
def Al9:List Item:=stk [0,1,0,1,0,1,0,0,1,4,5] Bj5
def Al8:List Item:=stk [0,1,0,1,0,1,0,1,0,0,1,4,5] Bj5
theorem G84 (C:B0) (R:B2) (c:Option Addr) (p:List Value) (h:H) :
 B4 PR A47 C R G6 Tryz.f55 100000 true Bj5 [(0,.pointer c),(1,.agg ⟨p⟩)] h =
 nw (.cells D8 false p) h fun b w=>nw (.cells Eg7 false [.int .i64 0,.int .i64 0,.int .i64 0,.int .i64 0,.int .i64 0,.int .i64 0,.int .i64 0,.int .i64 0,.int .i64 0,.int .i64 0,.int .i64 0,.int .i64 0]) w fun b_1 w1=>gAgg (Addr.add ⟨b,0,none⟩ 8) 8 w1 fun x=>R G6 Ax5 [(0,.pointer c),(3,.pointer (some ⟨b,0,none⟩)),(5,.pointer (some ⟨b_1,0,none⟩)),(17,.agg ⟨x⟩),(18,.int .i64 0)] w1:=by kernel_rfl
theorem Dw5 (C:B0) (R:B2) (c:Option Addr) (p:Addr) (more:Addr) (x17:List Value) (x18:Int) (h:H) :
 B4 PR A47 C R G6 Tryz.f55 100000 true Ax5 [(0,.pointer c),(3,.pointer (some p)),(5,.pointer (some more)),(17,.agg ⟨x17⟩),(18,.int .i64 x18)] h =
 cond (decide (x18<8))
 (ck ((0:Int)≤x18∧x18<((8:Nat):Int)) (nth x17 (Int.toNat x18*1) fun x=>aInt .i64 x fun x_1=>cond (decide (x_1>0))
 (ck ((0:Int)≤IntKind.wrap .i64 (x_1-1)∧IntKind.wrap .i64 (x_1-1)<((12:Nat):Int)) (gInt .i64 (Addr.add more (Int.toNat (IntKind.wrap .i64 (x_1-1))*1)) h fun x_2=>ck ((0:Int)≤IntKind.wrap .i64 (x_1-1)∧IntKind.wrap .i64 (x_1-1)<((12:Nat):Int)) (pV (Addr.add more (Int.toNat (IntKind.wrap .i64 (x_1-1))*1)) (.int .i64 (IntKind.wrap .i64 (x_2+1))) h fun w=>R G6 Ax5 [(0,.pointer c),(3,.pointer (some p)),(5,.pointer (some more)),(17,.agg ⟨x17⟩),(18,.int .i64 (IntKind.wrap .i64 (x18+1)))] w)))
 (R G6 Ax5 [(0,.pointer c),(3,.pointer (some p)),(5,.pointer (some more)),(17,.agg ⟨x17⟩),(18,.int .i64 (IntKind.wrap .i64 (x18+1)))] h)))
 (gAgg (Addr.add p 8) 8 h fun x_3=>R G6 Al9 [(0,.pointer c),(5,.pointer (some more)),(31,.agg ⟨x_3⟩),(32,.int .i64 0)] h):=by kernel_rfl
theorem Dx8 (C:B0) (R:B2) (c:Option Addr) (more:Addr) (x31:List Value) (x32:Int) (h:H) :
 B4 PR A47 C R G6 Tryz.f55 100000 true Al9 [(0,.pointer c),(5,.pointer (some more)),(31,.agg ⟨x31⟩),(32,.int .i64 x32)] h =
 cond (decide (x32<8))
 (ck ((0:Int)≤x32∧x32<((8:Nat):Int)) (nth x31 (Int.toNat x32*1) fun x=>aInt .i64 x fun x_1=>cond (x_1==0)
 (R G6 Al9 [(0,.pointer c),(5,.pointer (some more)),(31,.agg ⟨x31⟩),(32,.int .i64 (IntKind.wrap .i64 (x32+1)))] h)
 (bnd (C I7 [.pointer c,.int .i64 (IntKind.wrap .i64 (x_1-1))] h) fun r w=>as2 r fun r_1 r_2=>aAgg r_1 fun x_2=>aInt .i64 r_2 fun x_3=>nw (.cells D7 false [.int .i64 0,.int .i64 0,.int .i64 0,.int .i64 0]) w fun b w1=>ck (List.length x_2=4) (pAgg ⟨b,0,none⟩ x_2 w1 fun w2=>cond (x_3 != 1)
 (some (.int .i64 105,w2))
 (gInt .i64 (Addr.add ⟨b,0,none⟩ 2) w2 fun x_4=>ck ((0:Int)≤IntKind.wrap .i64 (x_1-1)∧IntKind.wrap .i64 (x_1-1)<((12:Nat):Int)) (gInt .i64 (Addr.add more (Int.toNat (IntKind.wrap .i64 (x_1-1))*1)) w2 fun x_5=>cond (decide ((IntKind.wrap .i64 (x_4+x_5))>64))
 (some (.int .i64 123,w2))
 (R G6 Al9 [(0,.pointer c),(5,.pointer (some more)),(31,.agg ⟨x31⟩),(32,.int .i64 (IntKind.wrap .i64 (x32+1)))] w2)))))))
 (gAgg more 12 h fun x_6=>R G6 Al8 [(0,.pointer c),(57,.agg ⟨x_6⟩),(58,.int .i64 0)] h):=by kernel_rfl
theorem Dy3 (C:B0) (R:B2) (c:Option Addr) (x57:List Value) (x58:Int) (h:H) :
 B4 PR A47 C R G6 Tryz.f55 100000 true Al8 [(0,.pointer c),(57,.agg ⟨x57⟩),(58,.int .i64 x58)] h =
 cond (decide (x58<12))
 (ck ((0:Int)≤x58∧x58<((12:Nat):Int)) (nth x57 (Int.toNat x58*1) fun x=>aInt .i64 x fun x_1=>cond (x_1==0)
 (R G6 Al8 [(0,.pointer c),(57,.agg ⟨x57⟩),(58,.int .i64 (IntKind.wrap .i64 (x58+1)))] h)
 (bnd (C I7 [.pointer c,.int .i64 x58] h) fun r w=>as2 r fun r_1 r_2=>aAgg r_1 fun x_2=>aInt .i64 r_2 fun _=>nw (.cells D7 false [.int .i64 0,.int .i64 0,.int .i64 0,.int .i64 0]) w fun b w1=>ck (List.length x_2=4) (pAgg ⟨b,0,none⟩ x_2 w1 fun w2=>gInt .i64 (Addr.add ⟨b,0,none⟩ 2) w2 fun x_4=>pV (Addr.add ⟨b,0,none⟩ 2) (.int .i64 (IntKind.wrap .i64 (x_4+x_1))) w2 fun w3=>gAgg ⟨b,0,none⟩ 4 w3 fun x_5=>bnd (C L5 [.pointer c,.int .i64 x58,.agg ⟨x_5⟩] w3) fun r_3 w4=>aBool r_3 fun x_6=>cond (!x_6)
 (some (.int .i64 105,w4))
 (R G6 Al8 [(0,.pointer c),(57,.agg ⟨x57⟩),(58,.int .i64 (IntKind.wrap .i64 (x58+1)))] w4)))))
 (some (.int .i64 0,h)):=by kernel_rfl
def Av7:Cuts:={ globs:=0,loops:=[],regs:=[],plans:=[] }
def Bn3:List Item:=B3 Tryz.f66
theorem Du8 (C:B0) (R:B2) (c:Option Addr) (h:H) :
 B4 PR Av7 C R Ah4 Tryz.f66 100000 true Bn3 [(0,.pointer c)] h =
 bnd (C R0 [.pointer c,.agg ⟨[.int .i64 5,.int .i64 0]⟩,.func (.func An1) ⟨[]⟩ ⟨[]⟩] h) fun r w=>as2 r fun r_1 r_2=>aInt .i64 r_1 fun x=>aInt .i64 r_2 fun x_1=>some (.tuple ⟨[.int .i64 x,.bool (x_1==1)]⟩,w):=by kernel_rfl
def Ba7:Cuts:={ globs:=0,loops:=[(5,[1,4,20,21,22]),(12,[1,7,58,59,60]),(18,[7,89,90,91]),(22,[7,11,12,89,90,91,122,123,124])],regs:=[],plans:=[(9,⟨[0,1,3,5,6,7,9,10,2,4,8,11,12,13,14],[0,1,3,0,15,0,32,96,255,0,512,2047,4095,8191,16383],[(2,[6,10]),(4,[6,10]),(8,[10])],[]⟩),(10,⟨[0,1,2,3,4,5,6,7,8,9,10,11,12],[0,0,2,6,14,0,32,96,224,510,1023,2047,4095],[],[]⟩),(14,⟨[0,1,2,3,4,5,6,7,8,9,10,11],[0,0,2,6,14,0,32,96,254,511,1023,2047],[(6,[4])],[]⟩),(15,⟨[0,1,2,3,4,5,6,7,8,9,10,11,12],[0,0,2,6,14,0,32,96,224,510,1023,2047,4095],[(7,[4])],[]⟩),(20,⟨[0,1,2,3,4,5,6,7,8,9,11,12,15,16,18,19,10,13,14,17,20,21,22,23,24,25],[0,1,3,7,0,16,48,112,0,256,1008,0,2048,8176,16368,0,32768,131056,0,262144,1048575,2097151,4194303,4194303,8388607,33554431],[(10,[3,12,16,19])],[]⟩),(25,⟨[0,1,2,3,4,5,6,7,8,9],[0,1,3,7,0,0,0,64,224,511],[],[]⟩)] }
def Bl8:List Item:=B3 Tryz.f69
def Bt0:List Item:=stk [0,1,0,1,0,1,0,0,1,4,5] Bl8
def Bs4:List Item:=stk [0,1,0,1,0,1,0,1,0,1,0,1,0,0,1,4,5] Bl8
def Bc4:List Item:=stk [0,1,0,1,0,1,0,1,0,1,0,1,0,1,0,0,1,4,5] Bl8
def Bd2:List Item:=stk [0,1,0,1,0,1,0,1,0,1,0,1,0,1,0,0,1,4,5,6,0,1,0,1,0,4,0,1,0,1,0,1,4,5] Bl8
theorem Ho8 (C:B0) (R:B2) (c:List Value) (h:H) :
 B4 PR Ba7 C R I1 Tryz.f69 100000 true Bl8 [(0,.agg ⟨c⟩)] h =
 nw (.cells E5 false c) h fun b w=>gAgg ⟨b,0,none⟩ 5 w fun x=>bnd (C S6 [.agg ⟨x⟩] w) fun r w1=>aBool r fun x_1=>cond (!x_1)
 (some (.tuple ⟨[.pointer none,.int .i64 1]⟩,w1))
 (gSl (Addr.add ⟨b,0,none⟩ 0) w1 fun x_2 xn xc=>R I1 Bt0 [(1,.pointer (some ⟨b,0,none⟩)),(4,.int .i64 0),(20,.slice x_2 xn xc),(21,.int .i64 ((xn:Nat):Int)),(22,.int .i64 0)] w1):=by kernel_rfl
theorem Ei2 (C:B0) (R:B2) (c:Addr) (all:Int) (x20:Option Addr) (x20n x20c:Nat) (x21:Int) (x22:Int) (h:H) :
 B4 PR Ba7 C R I1 Tryz.f69 100000 true Bt0 [(1,.pointer (some c)),(4,.int .i64 all),(20,.slice x20 x20n x20c),(21,.int .i64 x21),(22,.int .i64 x22)] h =
 cond (decide (x22<x21))
 (aSome x20 fun p=>ck ((0:Int)≤x22∧x22<((x20n:Nat):Int)) (gInt .i64 (Addr.add (B8 p) (Int.toNat x22*1)) h fun x=>bnd (C Bc3 [.int .i64 x] h) fun r w=>aInt .i64 r fun x_1=>R I1 Bt0 [(1,.pointer (some c)),(4,.int .i64 (IntKind.wrap .i64 (all+x_1))),(20,.slice x20 x20n x20c),(21,.int .i64 x21),(22,.int .i64 (IntKind.wrap .i64 (x22+1)))] w))
 (gSl (Addr.add c 1) h fun x_2 xn xc=>gSl (Addr.add c 1) h fun x_3 xn_1 xc_1=>gSl (Addr.add c 0) h fun x_4 xn_2 xc_2=>bnd (C W5 [.slice x_2 xn xc] h) fun r_1 w1=>aSl r_1 fun x_5 xn_3 xc_3=>gSl (Addr.add c 1) w1 fun x_6 xn_4 xc_4=>same (.slice x_3 xn_1 xc_1) (.slice x_6 xn_4 xc_4) (gSl (Addr.add c 0) w1 fun x_7 xn_5 xc_5=>same (.slice x_4 xn_2 xc_2) (.slice x_7 xn_5 xc_5) (bnd (C Dw8 [.int .i64 all] w1) fun r_2 w2=>aPtr r_2 fun x_8=>gSl (Addr.add c 1) w2 fun x_9 xn_6 xc_6=>same (.slice x_3 xn_1 xc_1) (.slice x_9 xn_6 xc_6) (gSl (Addr.add c 0) w2 fun x_10 xn_7 xc_7=>same (.slice x_4 xn_2 xc_2) (.slice x_10 xn_7 xc_7) (bnd (C Ay6 [.int .i64 ((xn_1:Nat):Int)] w2) fun r_3 w3=>aPtr r_3 fun x_11=>gSl (Addr.add c 0) w3 fun x_12 xn_8 xc_8=>same (.slice x_4 xn_2 xc_2) (.slice x_12 xn_8 xc_8) (bnd (C Ar9 [.slice x_4 xn_2 xc_2] w3) fun r_4 w4=>aPtr r_4 fun x_13=>nw (.cells D02 false [.slice x_5 xn_3 xc_3,.slice none 0 0,.pointer x_8,.pointer x_11,.pointer x_13,.pointer none,.slice none 0 0,.int .i64 0]) w4 fun b w5=>gPtr (Addr.add ⟨b,0,none⟩ 2) w5 fun x_14=>gPtr (Addr.add ⟨b,0,none⟩ 3) w5 fun x_15=>bnd (C B36 [.pointer x_14,.pointer x_15] w5) fun r_5 w6=>aPtr r_5 fun x_16=>pV (Addr.add ⟨b,0,none⟩ 5) (.pointer x_16) w6 fun w7=>gSl (Addr.add c 2) w7 fun x_17 xn_9 xc_9=>R I1 Bs4 [(1,.pointer (some c)),(7,.pointer (some ⟨b,0,none⟩)),(58,.slice x_17 xn_9 xc_9),(59,.int .i64 ((xn_9:Nat):Int)),(60,.int .i64 0)] w7)))))):=by kernel_rfl
theorem Ei4 (C:B0) (R:B2) (c:Addr) (k:Addr) (x58:Option Addr) (x58n x58c:Nat) (x59:Int) (x60:Int) (h:H) :
 B4 PR Ba7 C R I1 Tryz.f69 100000 true Bs4 [(1,.pointer (some c)),(7,.pointer (some k)),(58,.slice x58 x58n x58c),(59,.int .i64 x59),(60,.int .i64 x60)] h =
 cond (decide (x60<x59))
 (aSome x58 fun p=>ck ((0:Int)≤x60∧x60<((x58n:Nat):Int)) (gSl (Addr.add (B8 p) (Int.toNat x60*1)) h fun x xn xc=>gSl (Addr.add k 1) h fun x_1 xn_1 xc_1=>bnd (C W5 [.slice x xn xc] h) fun r w=>aSl r fun x_2 xn_2 xc_2=>gSl (Addr.add k 1) w fun x_3 xn_3 xc_3=>same (.slice x_1 xn_1 xc_1) (.slice x_3 xn_3 xc_3) (nw (.cells Q5 false [.slice x_2 xn_2 xc_2]) w fun b w1=>gCells (some ⟨b,0,none⟩) (1*1) w1 fun cs=>ckB (fitsOpen x_1 Q5 w1) (apd Q5 1 x_1 xn_1 xc_1 1 cs w1 fun a an ac w2=>pV (Addr.add k 1) (.slice a an ac) w2 fun w3=>gSl (Addr.add k 6) w3 fun x_4 xn_4 xc_4=>gInt .i64 (Addr.add c 3) w3 fun x_5=>bnd (C Dh9 [.int .i64 x_5] w3) fun r_1 w4=>aPtr r_1 fun x_6=>gSl (Addr.add k 6) w4 fun x_7 xn_5 xc_5=>same (.slice x_4 xn_4 xc_4) (.slice x_7 xn_5 xc_5) (nw (.cells Aw7 false [.pointer x_6]) w4 fun b_1 w5=>gCells (some ⟨b_1,0,none⟩) (1*1) w5 fun cs_1=>ckB (fitsOpen x_4 Aw7 w5) (apd Aw7 1 x_4 xn_4 xc_4 1 cs_1 w5 fun a_1 an_1 ac_1 w6=>pV (Addr.add k 6) (.slice a_1 an_1 ac_1) w6 fun w7=>R I1 Bs4 [(1,.pointer (some c)),(7,.pointer (some k)),(58,.slice x58 x58n x58c),(59,.int .i64 x59),(60,.int .i64 (IntKind.wrap .i64 (x60+1)))] w7))))))
 (gSl (Addr.add c 4) h fun x_8 xn_6 xc_6=>R I1 Bc4 [(7,.pointer (some k)),(89,.slice x_8 xn_6 xc_6),(90,.int .i64 ((xn_6:Nat):Int)),(91,.int .i64 0)] h):=by kernel_rfl
theorem Ej6 (C:B0) (R:B2) (k:Addr) (x89:Option Addr) (x89n x89c:Nat) (x90:Int) (x91:Int) (h:H) :
 B4 PR Ba7 C R I1 Tryz.f69 100000 true Bc4 [(7,.pointer (some k)),(89,.slice x89 x89n x89c),(90,.int .i64 x90),(91,.int .i64 x91)] h =
 cond (decide (x91<x90))
 (aSome x89 fun p=>ck ((0:Int)≤x91∧x91<((x89n:Nat):Int)) (gAgg (Addr.add (B8 p) (Int.toNat x91*5)) 5 h fun x=>nw (.cells J0 false [.int .i64 0,.int .i64 0,.int .i64 0,.int .i64 0,.slice none 0 0]) h fun b w=>ck (List.length x=5) (pAgg ⟨b,0,none⟩ x w fun w1=>gPtr (Addr.add k 5) w1 fun x_1=>gPtr (Addr.add k 4) w1 fun x_2=>gInt .i64 (Addr.add ⟨b,0,none⟩ 0) w1 fun x_3=>gInt .i64 (Addr.add ⟨b,0,none⟩ 1) w1 fun x_4=>gInt .i64 (Addr.add ⟨b,0,none⟩ 2) w1 fun x_5=>gInt .i64 (Addr.add ⟨b,0,none⟩ 3) w1 fun x_6=>bnd (C P5 [.pointer x_2,.int .i64 x_3] w1) fun r w2=>aInt .i64 r fun x_7=>gPtr (Addr.add k 5) w2 fun x_8=>same (.pointer x_1) (.pointer x_8) (gInt .i64 (Addr.add ⟨b,0,none⟩ 1) w2 fun x_9=>same (.int .i64 x_4) (.int .i64 x_9) (gInt .i64 (Addr.add ⟨b,0,none⟩ 2) w2 fun x_10=>same (.int .i64 x_5) (.int .i64 x_10) (gInt .i64 (Addr.add ⟨b,0,none⟩ 3) w2 fun x_11=>same (.int .i64 x_6) (.int .i64 x_11) (bnd (C An6 [.pointer x_1,.int .i64 (IntKind.wrap .i64 ((IntKind.wrap .i64 ((IntKind.wrap .i64 (x_7+x_4))*64))+x_5)),.int .i64 x_6] w2) fun r_1 w3=>as2 r_1 fun r_2 r_3=>aInt .i64 r_2 fun x_12=>aInt .i64 r_3 fun _=>gSl (Addr.add k 0) w3 fun x_14 xn xc=>R I1 Bd2 [(7,.pointer (some k)),(11,.pointer (some ⟨b,0,none⟩)),(12,.int .i64 x_12),(89,.slice x89 x89n x89c),(90,.int .i64 x90),(91,.int .i64 x91),(122,.slice x_14 xn xc),(123,.int .i64 ((xn:Nat):Int)),(124,.int .i64 0)] w3)))))))
 (some (.tuple ⟨[.pointer (some k),.int .i64 0]⟩,h)):=by kernel_rfl
theorem Ei6 (C:B0) (R:B2) (k:Addr) (x:Addr) (obj:Int) (x89:Option Addr) (x89n x89c:Nat) (x90:Int) (x91:Int) (x122:Option Addr) (x122n x122c:Nat) (x123:Int) (x124:Int) (h:H) :
 B4 PR Ba7 C R I1 Tryz.f69 100000 true Bd2 [(7,.pointer (some k)),(11,.pointer (some x)),(12,.int .i64 obj),(89,.slice x89 x89n x89c),(90,.int .i64 x90),(91,.int .i64 x91),(122,.slice x122 x122n x122c),(123,.int .i64 x123),(124,.int .i64 x124)] h =
 cond (decide (x124<x123))
 (aSome x122 fun p=>ck ((0:Int)≤x124∧x124<((x122n:Nat):Int)) (gInt .i64 (Addr.add (B8 p) (Int.toNat x124*1)) h fun x_1=>gSl (Addr.add x 4) h fun x_2 xn xc=>bnd (C N0 [.slice x_2 xn xc,.int .i64 x_1] h) fun r w=>aBool r fun x_3=>cond x_3
 (gPtr (Addr.add k 3) w fun x_4=>gInt .i64 (Addr.add x 3) w fun x_5=>bnd (C A93 [.pointer x_4,.int .i64 x124,.agg ⟨[.int .i64 obj,.int .i64 3,.int .i64 0,.int .i64 x_5,.int .i64 0,.int .i64 0]⟩] w) fun r_1 w1=>as2 r_1 fun r_2 r_3=>aInt .i64 r_2 fun _=>aInt .i64 r_3 fun _=>R I1 Bd2 [(7,.pointer (some k)),(11,.pointer (some x)),(12,.int .i64 obj),(89,.slice x89 x89n x89c),(90,.int .i64 x90),(91,.int .i64 x91),(122,.slice x122 x122n x122c),(123,.int .i64 x123),(124,.int .i64 (IntKind.wrap .i64 (x124+1)))] w1)
 (R I1 Bd2 [(7,.pointer (some k)),(11,.pointer (some x)),(12,.int .i64 obj),(89,.slice x89 x89n x89c),(90,.int .i64 x90),(91,.int .i64 x91),(122,.slice x122 x122n x122c),(123,.int .i64 x123),(124,.int .i64 (IntKind.wrap .i64 (x124+1)))] w)))
 (R I1 Bc4 [(7,.pointer (some k)),(89,.slice x89 x89n x89c),(90,.int .i64 x90),(91,.int .i64 (IntKind.wrap .i64 (x91+1)))] h):=by kernel_rfl
def Bi5:Cuts:={ globs:=0,loops:=[],regs:=[],plans:=[] }
def Dd3:List Item:=B3 Tryz.f72
theorem Ep2 (C:B0) (R:B2) (k:Option Addr) (env:Int) (h:H) :
 B4 PR Bi5 C R Ax2 Tryz.f72 100000 true Dd3 [(0,.pointer k),(1,.int .i64 env)] h =
 aSome k fun p=>gPtr (Addr.add p 6) h fun x=>aSome x fun p_1=>gPtr (Addr.add p_1 3) h fun x_1=>bnd (C Ba1 [.pointer x_1,.int .i64 env] h) fun r w=>aSl r fun x_2 xn xc=>cond (((xn:Nat):Int)==0)
 (some (.pointer none,w))
 (nw (.cells Dx9 false [.pointer k,.int .i64 env,.slice x_2 xn xc,.slice none 0 0]) w fun b w1=>some (.pointer (some ⟨b,0,none⟩),w1)):=by kernel_rfl
def Ba5:Cuts:={ globs:=0,loops:=[],regs:=[],plans:=[] }
def Bz3:List Item:=B3 Tryz.f77
theorem Ea1 (C:B0) (R:B2) (r:Option Addr) (e:Int) (name:Int) (atv:Int) (b:ByteArray) (h:H) :
 B4 PR Ba5 C R Aq4 Tryz.f77 100000 true Bz3 [(0,.pointer r),(1,.int .i64 e),(2,.int .i64 name),(3,.int .i64 atv),(4,.string b)] h =
 bnd (C Ap2 [.pointer r,.int .i64 e,.int .i64 name,.int .i64 2,.int .i64 atv,.int .i64 ((ByteArray.size b:Nat):Int)] h) fun r_1 w=>as2 r_1 fun r_2 r_3=>aInt .i64 r_2 fun x=>aInt .i64 r_3 fun x_1=>cond (x_1 != 0)
 (some (.int .i64 x_1,w))
 (aSome r fun p=>gSl (Addr.add p 0) w fun x_2 xn xc=>ckB (fitsOpen x_2 B1 w) (ck ((0:Int)≤x∧x≤((xn:Nat):Int)) (pCells (H8 x_2 (decide (Int.toNat x<xc)) ((Int.toNat x)*1)) (A0 (List.take (min (ByteArray.size b) (xn-(Int.toNat x))) (ByteArray.data b).toList)) w fun w1=>some (.int .i64 0,w1)))):=by kernel_rfl
def De7:Cuts:={ globs:=0,loops:=[],regs:=[],plans:=[] }
def Ej4:List Item:=B3 Tryz.f88
theorem Gx2 (C:B0) (R:B2) (i:Int) (fv0:Addr) (h:H) :
 B4 PR De7 C R Bb4 Tryz.f88 100000 true Ej4 [(0,.int .i64 i),(1,.pointer (some fv0))] h =
 ck ((0:Int)≤i∧i<((8:Nat):Int)) (gInt .i64 (Addr.add (Addr.add fv0 8) (Int.toNat i*1)) h fun x=>some (.bool (x==0),h)):=by kernel_rfl
def B89:Cuts:={ globs:=0,loops:=[],regs:=[],plans:=[] }
def D66:List Item:=B3 Tryz.f90
theorem Gk0 (C:B0) (R:B2) (i:Int) (h:H) :
 B4 PR B89 C R As1 Tryz.f90 100000 true D66 [(0,.int .i64 i)] h =
 nw (.cells E2 false [.int .i64 0,.int .i64 0]) h fun b w=>pAgg ⟨b,0,none⟩ [.int .i64 2,.int .i64 i] w fun w1=>gAgg ⟨b,0,none⟩ 2 w1 fun x=>some (.agg ⟨x⟩,w1):=by kernel_rfl
def Ad0:Cuts:={ globs:=0,loops:=[],regs:=[(8,[6,8,11,12])],plans:=[(7,⟨[0,1,2,3,4,5,6,7,8,9],[0,1,3,7,0,31,63,31,159,511],[(7,[5])],[]⟩)] }
def Aq9:List Item:=B3 Tryz.f92
def Ai1:List Item:=stk [0,1,0,1,0,1,0,1,0,1,0,1,0,0] Aq9
theorem Dj6 (C:B0) (R:B2) (c:Option Addr) (r:List Value) (decode:Value) (h:H) :
 B4 PR Ad0 C R I4 Tryz.f92 100000 true Aq9 [(0,.pointer c),(1,.agg ⟨r⟩),(2,decode)] h =
 nw (.cells E2 false r) h fun b w=>nw (.cells D4 false [.int .i64 0,.int .i64 0,.int .i64 0,.int .i64 0,.int .u8 0,.int .u8 0,.int .u8 0,.int .u8 0,.int .u8 0,.int .u8 0,.int .u8 0,.int .u8 0,.int .u8 0,.int .u8 0,.int .u8 0,.int .u8 0,.int .u8 0,.int .u8 0,.int .u8 0,.int .u8 0,.int .u8 0,.int .u8 0,.int .u8 0,.int .u8 0,.int .u8 0,.int .u8 0,.int .u8 0,.int .u8 0,.int .u8 0,.int .u8 0,.int .u8 0,.int .u8 0,.int .u8 0,.int .u8 0,.int .u8 0,.int .u8 0]) w fun b_1 w1=>nw (.cells D4 false [.int .i64 0,.int .i64 0,.int .i64 0,.int .i64 0,.int .u8 0,.int .u8 0,.int .u8 0,.int .u8 0,.int .u8 0,.int .u8 0,.int .u8 0,.int .u8 0,.int .u8 0,.int .u8 0,.int .u8 0,.int .u8 0,.int .u8 0,.int .u8 0,.int .u8 0,.int .u8 0,.int .u8 0,.int .u8 0,.int .u8 0,.int .u8 0,.int .u8 0,.int .u8 0,.int .u8 0,.int .u8 0,.int .u8 0,.int .u8 0,.int .u8 0,.int .u8 0,.int .u8 0,.int .u8 0,.int .u8 0,.int .u8 0]) w1 fun b_2 w2=>gAgg ⟨b,0,none⟩ 2 w2 fun x=>bnd (C O6 [.pointer c,.agg ⟨x⟩] w2) fun r_1 w3=>as2 r_1 fun r_2 r_3=>aSl r_2 fun x_1 xn xc=>aBool r_3 fun x_2=>cond (!x_2)
 (gAgg ⟨b_2,0,none⟩ 36 w3 fun x_3=>ck (List.length x_3=36) (pAgg ⟨b_1,0,none⟩ x_3 w3 fun w4=>gAgg ⟨b_1,0,none⟩ 36 w4 fun x_4=>some (.tuple ⟨[.agg ⟨x_4⟩,.int .i64 2]⟩,w4)))
 (aFn decode fun g fi cp=>bnd (C g (fi++([.slice x_1 xn xc]++cp)) w3) fun r_4 w5=>as2 r_4 fun r_5 r_6=>aAgg r_5 fun x_5=>aInt .i64 r_6 fun x_6=>nw (.cells D4 false [.int .i64 0,.int .i64 0,.int .i64 0,.int .i64 0,.int .u8 0,.int .u8 0,.int .u8 0,.int .u8 0,.int .u8 0,.int .u8 0,.int .u8 0,.int .u8 0,.int .u8 0,.int .u8 0,.int .u8 0,.int .u8 0,.int .u8 0,.int .u8 0,.int .u8 0,.int .u8 0,.int .u8 0,.int .u8 0,.int .u8 0,.int .u8 0,.int .u8 0,.int .u8 0,.int .u8 0,.int .u8 0,.int .u8 0,.int .u8 0,.int .u8 0,.int .u8 0,.int .u8 0,.int .u8 0,.int .u8 0,.int .u8 0]) w5 fun b_3 w6=>ck (List.length x_5=36) (pAgg ⟨b_3,0,none⟩ x_5 w6 fun w7=>cond (x_6==2)
 (aSome c fun p=>gMap (Addr.add p 3) w7 fun x_7=>gAgg ⟨b,0,none⟩ 2 w7 fun x_8=>keyN PR E2 (.agg ⟨x_8⟩) (opt x_7 fun r_7=>mapAt w7 r_7 fun es _=>opt (Al2 (.int .i64 0) (.agg ⟨x_8⟩) es) fun f=>aInt .i64 f.1 fun x_9=>keyN PR E2 (.agg ⟨x_8⟩) (opt x_7 fun r_8=>mapAt w7 r_8 fun es_1 cl_1=>opt (D34 (.int .i64 0) (.agg ⟨x_8⟩) es_1 cl_1) fun f_1=>aInt .i64 f_1.1 fun _=>lt (H.set w7 r_8 f_1.2.2) fun w8=>keyN PR E2 (.agg ⟨x_8⟩) (opt x_7 fun r_9=>mapAt w8 r_9 fun es_2 _=>opt (Al2 (.int .i64 0) (.agg ⟨x_8⟩) es_2) fun f_2=>aInt .i64 f_2.1 fun x_11=>same (.int .i64 x_9) (.int .i64 x_11) (opt x_7 fun r_10=>mapAt w8 r_10 fun es_3 cl_3=>opt (Bm8 (f_1.2.1:Int) es_3 0) fun i=>lt (H.set w8 r_10 (.map (modN (fun e=>{ e with val:=.int .i64 (IntKind.wrap .i64 (x_9+1)) }) i es_3) cl_3)) fun w9=>R I4 Ai1 [(6,.pointer (some ⟨b_1,0,none⟩)),(8,.pointer (some ⟨b_2,0,none⟩)),(11,.pointer (some ⟨b_3,0,none⟩)),(12,.int .i64 x_6)] w9)))))
 (R I4 Ai1 [(6,.pointer (some ⟨b_1,0,none⟩)),(8,.pointer (some ⟨b_2,0,none⟩)),(11,.pointer (some ⟨b_3,0,none⟩)),(12,.int .i64 x_6)] w7))):=by kernel_rfl
theorem A68 (C:B0) (R:B2) (x6:Addr) (nonev:Addr) (v:Addr) (isv:Int) (h:H) :
 B4 PR Ad0 C R I4 Tryz.f92 100000 true Ai1 [(6,.pointer (some x6)),(8,.pointer (some nonev)),(11,.pointer (some v)),(12,.int .i64 isv)] h =
 cond (isv != 1)
 (gAgg nonev 36 h fun x=>ck (List.length x=36) (pAgg x6 x h fun w=>gAgg x6 36 w fun x_1=>some (.tuple ⟨[.agg ⟨x_1⟩,.int .i64 isv]⟩,w)))
 (gAgg v 36 h fun x_2=>ck (List.length x_2=36) (pAgg x6 x_2 h fun w1=>gAgg x6 36 w1 fun x_3=>some (.tuple ⟨[.agg ⟨x_3⟩,.int .i64 isv]⟩,w1))):=by kernel_rfl
def Df8:Cuts:={ globs:=0,loops:=[],regs:=[],plans:=[] }
def Eh6:List Item:=B3 Tryz.f94
theorem Gx4 (C:B0) (R:B2) (b:Option Addr) (bn bc:Nat) (h:H) :
 B4 PR Df8 C R Aw1 Tryz.f94 100000 true Eh6 [(0,.slice b bn bc)] h =
 nw (.cells D4 false [.int .i64 0,.int .i64 0,.int .i64 0,.int .i64 0,.int .u8 0,.int .u8 0,.int .u8 0,.int .u8 0,.int .u8 0,.int .u8 0,.int .u8 0,.int .u8 0,.int .u8 0,.int .u8 0,.int .u8 0,.int .u8 0,.int .u8 0,.int .u8 0,.int .u8 0,.int .u8 0,.int .u8 0,.int .u8 0,.int .u8 0,.int .u8 0,.int .u8 0,.int .u8 0,.int .u8 0,.int .u8 0,.int .u8 0,.int .u8 0,.int .u8 0,.int .u8 0,.int .u8 0,.int .u8 0,.int .u8 0,.int .u8 0]) h fun b_1 w=>bnd (cond (((bn:Nat):Int)==40) (bnd (C Am5 [.slice b bn bc] w) fun r w1=>aBool r fun x=>some (x,w1)) (some (false,w))) fun c w2=>cond c
 (pAgg ⟨b_1,0,none⟩ [.int .i64 0,.int .i64 0,.int .i64 0,.int .i64 0,.int .u8 0,.int .u8 0,.int .u8 0,.int .u8 0,.int .u8 0,.int .u8 0,.int .u8 0,.int .u8 0,.int .u8 0,.int .u8 0,.int .u8 0,.int .u8 0,.int .u8 0,.int .u8 0,.int .u8 0,.int .u8 0,.int .u8 0,.int .u8 0,.int .u8 0,.int .u8 0,.int .u8 0,.int .u8 0,.int .u8 0,.int .u8 0,.int .u8 0,.int .u8 0,.int .u8 0,.int .u8 0,.int .u8 0,.int .u8 0,.int .u8 0,.int .u8 0] w2 fun w3=>gAgg ⟨b_1,0,none⟩ 36 w3 fun x_1=>some (.tuple ⟨[.agg ⟨x_1⟩,.int .i64 0]⟩,w3))
 (bnd (C Bk5 [] w2) fun r_1 w4=>aPtr r_1 fun x_2=>bnd (C V8 [.pointer x_2,.slice b bn bc] w4) fun r_2 w5=>as2 r_2 fun r_3 r_4=>aAgg r_3 fun x_3=>aBool r_4 fun x_4=>nw (.cells D4 false [.int .i64 0,.int .i64 0,.int .i64 0,.int .i64 0,.int .u8 0,.int .u8 0,.int .u8 0,.int .u8 0,.int .u8 0,.int .u8 0,.int .u8 0,.int .u8 0,.int .u8 0,.int .u8 0,.int .u8 0,.int .u8 0,.int .u8 0,.int .u8 0,.int .u8 0,.int .u8 0,.int .u8 0,.int .u8 0,.int .u8 0,.int .u8 0,.int .u8 0,.int .u8 0,.int .u8 0,.int .u8 0,.int .u8 0,.int .u8 0,.int .u8 0,.int .u8 0,.int .u8 0,.int .u8 0,.int .u8 0,.int .u8 0]) w5 fun b_2 w6=>ck (List.length x_3=36) (pAgg ⟨b_2,0,none⟩ x_3 w6 fun w7=>cond (!x_4)
 (pAgg ⟨b_1,0,none⟩ [.int .i64 0,.int .i64 0,.int .i64 0,.int .i64 0,.int .u8 0,.int .u8 0,.int .u8 0,.int .u8 0,.int .u8 0,.int .u8 0,.int .u8 0,.int .u8 0,.int .u8 0,.int .u8 0,.int .u8 0,.int .u8 0,.int .u8 0,.int .u8 0,.int .u8 0,.int .u8 0,.int .u8 0,.int .u8 0,.int .u8 0,.int .u8 0,.int .u8 0,.int .u8 0,.int .u8 0,.int .u8 0,.int .u8 0,.int .u8 0,.int .u8 0,.int .u8 0,.int .u8 0,.int .u8 0,.int .u8 0,.int .u8 0] w7 fun w8=>gAgg ⟨b_1,0,none⟩ 36 w8 fun x_5=>some (.tuple ⟨[.agg ⟨x_5⟩,.int .i64 2]⟩,w8))
 (gAgg ⟨b_2,0,none⟩ 36 w7 fun x_6=>ck (List.length x_6=36) (pAgg ⟨b_1,0,none⟩ x_6 w7 fun w9=>gAgg ⟨b_1,0,none⟩ 36 w9 fun x_7=>some (.tuple ⟨[.agg ⟨x_7⟩,.int .i64 1]⟩,w9))))):=by kernel_rfl
def Ap7:Cuts:={ globs:=0,loops:=[],regs:=[],plans:=[] }
def Bg2:List Item:=B3 Tryz.f105
theorem Di0 (C:B0) (R:B2) (s:Option Addr) (sn sc:Nat) (h:H) :
 B4 PR Ap7 C R V0 Tryz.f105 100000 true Bg2 [(0,.slice s sn sc)] h =
 ckB (fitsOpen s B1 h) (ck ((0:Int)≤((sn:Nat):Int)∧((sn:Nat):Int)≤((sc:Nat):Int)) (ck ((0:Int)≤((sn:Nat):Int)∧((sn:Nat):Int)≤((Int.toNat ((sn:Nat):Int):Nat):Int)) (some (.slice (Bz8 (H8 s (decide (0<Int.toNat ((sn:Nat):Int))) (0*1))) ((Int.toNat ((sn:Nat):Int))-0) ((Int.toNat ((sn:Nat):Int))-0),h)))):=by kernel_rfl
def Ad7:Cuts:={ globs:=0,loops:=[],regs:=[(8,[6,8,11,12])],plans:=[(7,⟨[0,1,2,3,4,5,6,7,8,9],[0,1,3,7,0,31,63,31,159,511],[(7,[5])],[]⟩)] }
def Ap4:List Item:=B3 Tryz.f110
def Ai8:List Item:=stk [0,1,0,1,0,1,0,1,0,1,0,1,0,0] Ap4
theorem Dk4 (C:B0) (R:B2) (c:Option Addr) (r:List Value) (decode:Value) (h:H) :
 B4 PR Ad7 C R L0 Tryz.f110 100000 true Ap4 [(0,.pointer c),(1,.agg ⟨r⟩),(2,decode)] h =
 nw (.cells E2 false r) h fun b w=>nw (.cells D8 false [.int .i64 0,.int .i64 0,.int .i64 0,.int .i64 0,.int .i64 0,.int .i64 0,.int .i64 0,.int .i64 0,.int .i64 0,.int .i64 0,.int .i64 0,.int .i64 0,.int .i64 0,.int .i64 0,.int .i64 0,.int .i64 0]) w fun b_1 w1=>nw (.cells D8 false [.int .i64 0,.int .i64 0,.int .i64 0,.int .i64 0,.int .i64 0,.int .i64 0,.int .i64 0,.int .i64 0,.int .i64 0,.int .i64 0,.int .i64 0,.int .i64 0,.int .i64 0,.int .i64 0,.int .i64 0,.int .i64 0]) w1 fun b_2 w2=>gAgg ⟨b,0,none⟩ 2 w2 fun x=>bnd (C O6 [.pointer c,.agg ⟨x⟩] w2) fun r_1 w3=>as2 r_1 fun r_2 r_3=>aSl r_2 fun x_1 xn xc=>aBool r_3 fun x_2=>cond (!x_2)
 (gAgg ⟨b_2,0,none⟩ 16 w3 fun x_3=>ck (List.length x_3=16) (pAgg ⟨b_1,0,none⟩ x_3 w3 fun w4=>gAgg ⟨b_1,0,none⟩ 16 w4 fun x_4=>some (.tuple ⟨[.agg ⟨x_4⟩,.int .i64 2]⟩,w4)))
 (aFn decode fun g fi cp=>bnd (C g (fi++([.slice x_1 xn xc]++cp)) w3) fun r_4 w5=>as2 r_4 fun r_5 r_6=>aAgg r_5 fun x_5=>aInt .i64 r_6 fun x_6=>nw (.cells D8 false [.int .i64 0,.int .i64 0,.int .i64 0,.int .i64 0,.int .i64 0,.int .i64 0,.int .i64 0,.int .i64 0,.int .i64 0,.int .i64 0,.int .i64 0,.int .i64 0,.int .i64 0,.int .i64 0,.int .i64 0,.int .i64 0]) w5 fun b_3 w6=>ck (List.length x_5=16) (pAgg ⟨b_3,0,none⟩ x_5 w6 fun w7=>cond (x_6==2)
 (aSome c fun p=>gMap (Addr.add p 3) w7 fun x_7=>gAgg ⟨b,0,none⟩ 2 w7 fun x_8=>keyN PR E2 (.agg ⟨x_8⟩) (opt x_7 fun r_7=>mapAt w7 r_7 fun es _=>opt (Al2 (.int .i64 0) (.agg ⟨x_8⟩) es) fun f=>aInt .i64 f.1 fun x_9=>keyN PR E2 (.agg ⟨x_8⟩) (opt x_7 fun r_8=>mapAt w7 r_8 fun es_1 cl_1=>opt (D34 (.int .i64 0) (.agg ⟨x_8⟩) es_1 cl_1) fun f_1=>aInt .i64 f_1.1 fun _=>lt (H.set w7 r_8 f_1.2.2) fun w8=>keyN PR E2 (.agg ⟨x_8⟩) (opt x_7 fun r_9=>mapAt w8 r_9 fun es_2 _=>opt (Al2 (.int .i64 0) (.agg ⟨x_8⟩) es_2) fun f_2=>aInt .i64 f_2.1 fun x_11=>same (.int .i64 x_9) (.int .i64 x_11) (opt x_7 fun r_10=>mapAt w8 r_10 fun es_3 cl_3=>opt (Bm8 (f_1.2.1:Int) es_3 0) fun i=>lt (H.set w8 r_10 (.map (modN (fun e=>{ e with val:=.int .i64 (IntKind.wrap .i64 (x_9+1)) }) i es_3) cl_3)) fun w9=>R L0 Ai8 [(6,.pointer (some ⟨b_1,0,none⟩)),(8,.pointer (some ⟨b_2,0,none⟩)),(11,.pointer (some ⟨b_3,0,none⟩)),(12,.int .i64 x_6)] w9)))))
 (R L0 Ai8 [(6,.pointer (some ⟨b_1,0,none⟩)),(8,.pointer (some ⟨b_2,0,none⟩)),(11,.pointer (some ⟨b_3,0,none⟩)),(12,.int .i64 x_6)] w7))):=by kernel_rfl
theorem A54 (C:B0) (R:B2) (x6:Addr) (nonev:Addr) (v:Addr) (isv:Int) (h:H) :
 B4 PR Ad7 C R L0 Tryz.f110 100000 true Ai8 [(6,.pointer (some x6)),(8,.pointer (some nonev)),(11,.pointer (some v)),(12,.int .i64 isv)] h =
 cond (isv != 1)
 (gAgg nonev 16 h fun x=>ck (List.length x=16) (pAgg x6 x h fun w=>gAgg x6 16 w fun x_1=>some (.tuple ⟨[.agg ⟨x_1⟩,.int .i64 isv]⟩,w)))
 (gAgg v 16 h fun x_2=>ck (List.length x_2=16) (pAgg x6 x_2 h fun w1=>gAgg x6 16 w1 fun x_3=>some (.tuple ⟨[.agg ⟨x_3⟩,.int .i64 isv]⟩,w1))):=by kernel_rfl
def Aq0:Cuts:={ globs:=0,loops:=[],regs:=[(8,[8,11,12])],plans:=[(7,⟨[0,1,2,3,4,5,6,7,8,9],[0,1,3,7,0,31,63,31,159,511],[(7,[5])],[]⟩)] }
def A86:List Item:=B3 Tryz.f115
def Av9:List Item:=stk [0,1,0,1,0,1,0,1,0,1,0,1,0,0] A86
theorem Ee7 (C:B0) (R:B2) (c:Option Addr) (r:List Value) (decode:Value) (h:H) :
 B4 PR Aq0 C R R0 Tryz.f115 100000 true A86 [(0,.pointer c),(1,.agg ⟨r⟩),(2,decode)] h =
 nw (.cells E2 false r) h fun b w=>gAgg ⟨b,0,none⟩ 2 w fun x=>bnd (C O6 [.pointer c,.agg ⟨x⟩] w) fun r_1 w1=>as2 r_1 fun r_2 r_3=>aSl r_2 fun x_1 xn xc=>aBool r_3 fun x_2=>cond (!x_2)
 (some (.tuple ⟨[.int .i64 0,.int .i64 2]⟩,w1))
 (aFn decode fun g fi cp=>bnd (C g (fi++([.slice x_1 xn xc]++cp)) w1) fun r_4 w2=>as2 r_4 fun r_5 r_6=>aInt .i64 r_5 fun x_3=>aInt .i64 r_6 fun x_4=>cond (x_4==2)
 (aSome c fun p=>gMap (Addr.add p 3) w2 fun x_5=>gAgg ⟨b,0,none⟩ 2 w2 fun x_6=>keyN PR E2 (.agg ⟨x_6⟩) (opt x_5 fun r_7=>mapAt w2 r_7 fun es _=>opt (Al2 (.int .i64 0) (.agg ⟨x_6⟩) es) fun f=>aInt .i64 f.1 fun x_7=>keyN PR E2 (.agg ⟨x_6⟩) (opt x_5 fun r_8=>mapAt w2 r_8 fun es_1 cl_1=>opt (D34 (.int .i64 0) (.agg ⟨x_6⟩) es_1 cl_1) fun f_1=>aInt .i64 f_1.1 fun _=>lt (H.set w2 r_8 f_1.2.2) fun w3=>keyN PR E2 (.agg ⟨x_6⟩) (opt x_5 fun r_9=>mapAt w3 r_9 fun es_2 _=>opt (Al2 (.int .i64 0) (.agg ⟨x_6⟩) es_2) fun f_2=>aInt .i64 f_2.1 fun x_9=>same (.int .i64 x_7) (.int .i64 x_9) (opt x_5 fun r_10=>mapAt w3 r_10 fun es_3 cl_3=>opt (Bm8 (f_1.2.1:Int) es_3 0) fun i=>lt (H.set w3 r_10 (.map (modN (fun e=>{ e with val:=.int .i64 (IntKind.wrap .i64 (x_7+1)) }) i es_3) cl_3)) fun w4=>R R0 Av9 [(8,.int .i64 0),(11,.int .i64 x_3),(12,.int .i64 x_4)] w4)))))
 (R R0 Av9 [(8,.int .i64 0),(11,.int .i64 x_3),(12,.int .i64 x_4)] w2)):=by kernel_rfl
theorem Bn1 (C:B0) (R:B2) (nonev:Int) (v:Int) (isv:Int) (h:H) :
 B4 PR Aq0 C R R0 Tryz.f115 100000 true Av9 [(8,.int .i64 nonev),(11,.int .i64 v),(12,.int .i64 isv)] h =
 cond (isv != 1)
 (some (.tuple ⟨[.int .i64 nonev,.int .i64 isv]⟩,h))
 (some (.tuple ⟨[.int .i64 v,.int .i64 isv]⟩,h)):=by kernel_rfl
def A82:Cuts:={ globs:=0,loops:=[],regs:=[],plans:=[] }
def By1:List Item:=B3 Tryz.f117
theorem Eg2 (C:B0) (R:B2) (g:Int) (h:H) :
 B4 PR A82 C R Aq2 Tryz.f117 100000 true By1 [(0,.int .i64 g)] h =
 bnd (cond (decide (g<0)) (some (true,h)) (some (decide (g≥8),h))) fun c w=>cond c
 (some (.tuple ⟨[.slice none 0 0,.bool false]⟩,w))
 (nw (.cells B1 false [.int .u8 (IntKind.wrap .u8 (g)),.int .u8 211]) w fun b w1=>bnd (C Aa8 [.slice (some ⟨b,0,none⟩) 2 2] w1) fun r w2=>aInt .u8 r fun x=>nw (.cells B1 false [.int .u8 x,.int .u8 0]) w2 fun b_1 w3=>gCells (some ⟨b_1,0,none⟩) (2*1) w3 fun cs=>ckB (fitsOpen (some ⟨b,0,none⟩) B1 w3) (apd B1 1 (some ⟨b,0,none⟩) 2 2 2 cs w3 fun a an ac w4=>some (.tuple ⟨[.slice a an ac,.bool true]⟩,w4))):=by kernel_rfl
def Dk2:Cuts:={ globs:=0,loops:=[(3,[3,8,9])],regs:=[],plans:=[(4,⟨[0,1,2,3,4,5,6,7,8,9,10],[0,0,2,6,14,0,32,126,255,511,1023],[(5,[4])],[]⟩)] }
def Eb0:List Item:=B3 Tryz.f122
def Bs7:List Item:=stk [0,1,0,1,0,0,1,4,5] Eb0
theorem Ht9 (C:B0) (R:B2) (envs:Int) (h:H) :
 B4 PR Dk2 C R Ay6 Tryz.f122 100000 true Eb0 [(0,.int .i64 envs)] h =
 nw (.cells At7 false [.slice none 0 0]) h fun b w=>R Ay6 Bs7 [(3,.pointer (some ⟨b,0,none⟩)),(8,.int .i64 (mm2 false (mm2 true envs 0) 40)),(9,.int .i64 0)] w:=by kernel_rfl
theorem Ei9 (C:B0) (R:B2) (s:Addr) (x8:Int) (x9:Int) (h:H) :
 B4 PR Dk2 C R Ay6 Tryz.f122 100000 true Bs7 [(3,.pointer (some s)),(8,.int .i64 x8),(9,.int .i64 x9)] h =
 cond (decide (x9<x8))
 (gSl (Addr.add s 0) h fun x xn xc=>bnd (C P8 [.int .i64 32] h) fun r w=>aPtr r fun x_1=>gSl (Addr.add s 0) w fun x_2 xn_1 xc_1=>same (.slice x xn xc) (.slice x_2 xn_1 xc_1) (nw (.cells G8 false [.pointer x_1]) w fun b w1=>gCells (some ⟨b,0,none⟩) (1*1) w1 fun cs=>ckB (fitsOpen x G8 w1) (apd G8 1 x xn xc 1 cs w1 fun a an ac w2=>pV (Addr.add s 0) (.slice a an ac) w2 fun w3=>R Ay6 Bs7 [(3,.pointer (some s)),(8,.int .i64 x8),(9,.int .i64 (IntKind.wrap .i64 (x9+1)))] w3)))
 (some (.pointer (some s),h)):=by kernel_rfl
def Av0:Cuts:={ globs:=0,loops:=[(3,[5,20,21,22])],regs:=[],plans:=[(2,⟨[0,1,2,3,4,5,6,7,8,9,10,11,12,13,14],[0,1,3,7,0,16,0,64,192,448,960,2032,4095,8191,0],[],[]⟩)] }
def Be6:List Item:=B3 Tryz.f127
def Aj4:List Item:=stk [0,1,0,1,0,0,1,4,5] Be6
theorem Ek2 (C:B0) (R:B2) (q:Option Addr) (s:Int) (h:H) :
 B4 PR Av0 C R P5 Tryz.f127 100000 true Be6 [(0,.pointer q),(1,.int .i64 s)] h =
 aSome q fun p=>gSl (Addr.add p 0) h fun x _ xc=>aSome q fun p_1=>gSl (Addr.add p_1 0) h fun _ xn_1 _=>ckB (fitsOpen x Q5 h) (ck ((0:Int)≤mm2 false (mm2 true s 0) ((xn_1:Nat):Int)∧mm2 false (mm2 true s 0) ((xn_1:Nat):Int)≤((xc:Nat):Int)) (R P5 Aj4 [(5,.int .i64 0),(20,.slice (H8 x (decide (0<xc)) (0*1)) ((Int.toNat (mm2 false (mm2 true s 0) ((xn_1:Nat):Int)))-0) (xc-0)),(21,.int .i64 (((Int.toNat (mm2 false (mm2 true s 0) ((xn_1:Nat):Int)))-0:Nat):Int)),(22,.int .i64 0)] h)):=by kernel_rfl
theorem Bp1 (C:B0) (R:B2) (n:Int) (x20:Option Addr) (x20n x20c:Nat) (x21:Int) (x22:Int) (h:H) :
 B4 PR Av0 C R P5 Tryz.f127 100000 true Aj4 [(5,.int .i64 n),(20,.slice x20 x20n x20c),(21,.int .i64 x21),(22,.int .i64 x22)] h =
 cond (decide (x22<x21))
 (aSome x20 fun p=>ck ((0:Int)≤x22∧x22<((x20n:Nat):Int)) (gSl (Addr.add (B8 p) (Int.toNat x22*1)) h fun _ xn _=>R P5 Aj4 [(5,.int .i64 (IntKind.wrap .i64 (n+((xn:Nat):Int)))),(20,.slice x20 x20n x20c),(21,.int .i64 x21),(22,.int .i64 (IntKind.wrap .i64 (x22+1)))] h))
 (some (.int .i64 n,h)):=by kernel_rfl
def Dw0:Cuts:={ globs:=0,loops:=[(2,[0,1,5])],regs:=[],plans:=[] }
def El9:List Item:=B3 Tryz.f134
def By8:List Item:=stk [0,1,0,0,1,4,5] El9
theorem Hz6 (C:B0) (R:B2) (l:Option Addr) (ln lc:Nat) (s:Int) (h:H) :
 B4 PR Dw0 C R A75 Tryz.f134 100000 true El9 [(0,.slice l ln lc),(1,.int .i64 s)] h =
 R A75 By8 [(0,.slice l ln lc),(1,.int .i64 s),(5,.int .i64 0)] h:=by kernel_rfl
theorem Es0 (C:B0) (R:B2) (l:Option Addr) (ln lc:Nat) (s:Int) (i:Int) (h:H) :
 B4 PR Dw0 C R A75 Tryz.f134 100000 true By8 [(0,.slice l ln lc),(1,.int .i64 s),(5,.int .i64 i)] h =
 cond (decide (i<((ln:Nat):Int)))
 (aSome l fun p=>ck ((0:Int)≤i∧i<((ln:Nat):Int)) (gInt .i64 (Addr.add (B8 p) (Int.toNat i*1)) h fun x=>cond (x==s)
 (some (.bool true,h))
 (R A75 By8 [(0,.slice l ln lc),(1,.int .i64 s),(5,.int .i64 (IntKind.wrap .i64 (i+1)))] h)))
 (some (.bool false,h)):=by kernel_rfl
def Bt3:Cuts:={ globs:=0,loops:=[],regs:=[],plans:=[] }
def Dn3:List Item:=B3 Tryz.f135
theorem E59 (C:B0) (R:B2) (s:Option Addr) (e:Int) (c:List Value) (h:H) :
 B4 PR Bt3 C R A84 Tryz.f135 100000 true Dn3 [(0,.pointer s),(1,.int .i64 e),(2,.agg ⟨c⟩)] h =
 nw (.cells P4 false c) h fun b w=>bnd (C Ai3 [.pointer s,.int .i64 e] w) fun r w1=>aBool r fun x=>bnd (cond (!x) (some (true,w1)) (gInt .i64 (Addr.add ⟨b,0,none⟩ 1) w1 fun x_1=>some (decide (x_1<0),w1))) fun c_1 w2=>bnd (cond c_1 (some (true,w2)) (gInt .i64 (Addr.add ⟨b,0,none⟩ 1) w2 fun x_2=>some (decide (x_2>7),w2))) fun c_2 w3=>bnd (cond c_2 (some (true,w3)) (gInt .i64 (Addr.add ⟨b,0,none⟩ 2) w3 fun x_3=>some (decide (x_3<0),w3))) fun c_3 w4=>bnd (cond c_3 (some (true,w4)) (gInt .i64 (Addr.add ⟨b,0,none⟩ 2) w4 fun x_4=>some (decide (x_4>65536),w4))) fun c_4 w5=>bnd (cond c_4 (some (true,w5)) (gInt .i64 (Addr.add ⟨b,0,none⟩ 3) w5 fun x_5=>some (decide (x_5<0),w5))) fun c_5 w6=>bnd (cond c_5 (some (true,w6)) (gInt .i64 (Addr.add ⟨b,0,none⟩ 3) w6 fun x_6=>some (decide (x_6>65536),w6))) fun c_6 w7=>cond c_6
 (some (.tuple ⟨[.int .i64 0,.int .i64 1]⟩,w7))
 (pAgg (Addr.add ⟨b,0,none⟩ 4) [.int .i64 0,.int .i64 0] w7 fun w8=>gAgg ⟨b,0,none⟩ 6 w8 fun x_7=>bnd (C A76 [.pointer s,.int .i64 e,.agg ⟨x_7⟩] w8) fun r_1 w9=>as2 r_1 fun r_2 r_3=>aInt .i64 r_2 fun x_8=>aInt .i64 r_3 fun x_9=>some (.tuple ⟨[.int .i64 x_8,.int .i64 x_9]⟩,w9)):=by kernel_rfl
def Bo5:Cuts:={ globs:=0,loops:=[],regs:=[],plans:=[] }
def Dg6:List Item:=B3 Tryz.f146
theorem E00 (C:B0) (R:B2) (k:Option Addr) (env:Int) (c:List Value) (h:H) :
 B4 PR Bo5 C R A34 Tryz.f146 100000 true Dg6 [(0,.pointer k),(1,.int .i64 env),(2,.agg ⟨c⟩)] h =
 nw (.cells Ax4 false c) h fun b w=>gInt .i64 (Addr.add ⟨b,0,none⟩ 3) w fun x=>bnd (C At3 [.pointer k,.int .i64 env,.int .i64 x] w) fun r w1=>as2 r fun r_1 r_2=>aPtr r_1 fun x_1=>aInt .i64 r_2 fun x_2=>cond (x_2 != 0)
 (some (.tuple ⟨[.int .i64 0,.int .i64 x_2]⟩,w1))
 (aSome k fun p=>gInt .i64 (Addr.add p 7) w1 fun x_3=>bnd (C D3 [.pointer x_1,.int .i64 env,.int .i64 x_3] w1) fun r_3 w2=>as2 r_3 fun r_4 r_5=>aInt .i64 r_4 fun x_4=>aBool r_5 fun _=>some (.tuple ⟨[.int .i64 x_4,.int .i64 0]⟩,w2)):=by kernel_rfl
def Dg2:Cuts:={ globs:=0,loops:=[],regs:=[],plans:=[] }
def Eh2:List Item:=B3 Tryz.f151
theorem Gv4 (C:B0) (R:B2) (atv:Int) (n:Int) (size:Int) (h:H) :
 B4 PR Dg2 C R Af9 Tryz.f151 100000 true Eh2 [(0,.int .i64 atv),(1,.int .i64 n),(2,.int .i64 size)] h =
 bnd (cond (decide (atv≥0)) (some (decide (n≥0),h)) (some (false,h))) fun c w=>bnd (cond c (some (decide (atv≤size),w)) (some (false,w))) fun c_1 w1=>bnd (cond c_1 (some (decide (n≤(IntKind.wrap .i64 (size-atv))),w1)) (some (false,w1))) fun c_2 w2=>some (.bool c_2,w2):=by kernel_rfl
def A01:Cuts:={ globs:=0,loops:=[],regs:=[],plans:=[(2,⟨[0,1,2,3,4,5,6,7,8,9,10],[0,1,3,7,15,31,63,7,255,511,1023],[],[]⟩),(4,⟨[0,1,2,3,4,5,6,7,8,9,10,11,12,13,14,16,15,17],[0,1,3,7,0,16,48,112,0,256,0,1024,0,4096,16128,32767,0,131071],[],[]⟩),(6,⟨[0,1,2,3,4,5,6,7,8,9],[0,1,3,7,0,31,63,31,159,511],[(7,[5])],[]⟩)] }
def Bq3:List Item:=B3 Tryz.f159
theorem D39 (C:B0) (R:B2) (c:Option Addr) (r:List Value) (h:H) :
 B4 PR A01 C R O6 Tryz.f159 100000 true Bq3 [(0,.pointer c),(1,.agg ⟨r⟩)] h =
 nw (.cells E2 false r) h fun b w=>gAgg ⟨b,0,none⟩ 2 w fun x=>bnd (C Q7 [.pointer c,.agg ⟨x⟩] w) fun r_1 w1=>as2 r_1 fun r_2 r_3=>aAgg r_2 fun x_1=>aBool r_3 fun x_2=>nw (.cells Bg0 false [.int .i64 0,.int .i64 0,.int .i64 0]) w1 fun b_1 w2=>ck (List.length x_1=3) (pAgg ⟨b_1,0,none⟩ x_1 w2 fun w3=>bnd (cond (!x_2) (some (true,w3)) (aSome c fun p=>gMap (Addr.add p 3) w3 fun x_3=>gAgg ⟨b,0,none⟩ 2 w3 fun x_4=>keyN PR E2 (.agg ⟨x_4⟩) (opt x_3 fun r_4=>mapAt w3 r_4 fun es _=>opt (Al2 (.int .i64 0) (.agg ⟨x_4⟩) es) fun f=>aInt .i64 f.1 fun x_5=>some (decide (x_5>0),w3)))) fun c_1 w4=>cond c_1
 (some (.tuple ⟨[.slice none 0 0,.bool false]⟩,w4))
 (aSome c fun p_1=>gPtr (Addr.add p_1 0) w4 fun x_6=>aSome c fun p_2=>gInt .i64 (Addr.add p_2 1) w4 fun x_7=>gInt .i64 (Addr.add ⟨b_1,0,none⟩ 0) w4 fun x_8=>gInt .i64 (Addr.add ⟨b_1,0,none⟩ 1) w4 fun x_9=>gInt .i64 (Addr.add ⟨b_1,0,none⟩ 2) w4 fun x_10=>nw (.cells Ep7 false [.int .i64 0,.int .i64 0,.slice none 0 0]) w4 fun b_2 w5=>bnd (C U0 [.pointer x_6,.int .i64 x_7,.agg ⟨[.int .i64 1,.int .i64 x_8,.int .i64 x_9,.int .i64 x_10,.int .i64 0,.int .i64 0,.slice none 0 0]⟩] w5) fun r_5 w6=>aAgg r_5 fun x_11=>ck (List.length x_11=3) (pAgg ⟨b_2,0,none⟩ x_11 w6 fun w7=>gInt .i64 (Addr.add ⟨b_2,0,none⟩ 0) w7 fun x_12=>cond (x_12 != 0)
 (aSome c fun p_3=>gMap (Addr.add p_3 3) w7 fun x_13=>gAgg ⟨b,0,none⟩ 2 w7 fun x_14=>keyN PR E2 (.agg ⟨x_14⟩) (opt x_13 fun r_6=>mapAt w7 r_6 fun es_1 _=>opt (Al2 (.int .i64 0) (.agg ⟨x_14⟩) es_1) fun f_1=>aInt .i64 f_1.1 fun x_15=>keyN PR E2 (.agg ⟨x_14⟩) (opt x_13 fun r_7=>mapAt w7 r_7 fun es_2 cl_2=>opt (D34 (.int .i64 0) (.agg ⟨x_14⟩) es_2 cl_2) fun f_2=>aInt .i64 f_2.1 fun _=>lt (H.set w7 r_7 f_2.2.2) fun w8=>keyN PR E2 (.agg ⟨x_14⟩) (opt x_13 fun r_8=>mapAt w8 r_8 fun es_3 _=>opt (Al2 (.int .i64 0) (.agg ⟨x_14⟩) es_3) fun f_3=>aInt .i64 f_3.1 fun x_17=>same (.int .i64 x_15) (.int .i64 x_17) (opt x_13 fun r_9=>mapAt w8 r_9 fun es_4 cl_4=>opt (Bm8 (f_2.2.1:Int) es_4 0) fun i=>lt (H.set w8 r_9 (.map (modN (fun e=>{ e with val:=.int .i64 (IntKind.wrap .i64 (x_15+1)) }) i es_4) cl_4)) fun w9=>some (.tuple ⟨[.slice none 0 0,.bool false]⟩,w9))))))
 (gSl (Addr.add ⟨b_2,0,none⟩ 2) w7 fun x_18 xn xc=>some (.tuple ⟨[.slice x_18 xn xc,.bool true]⟩,w7))))):=by kernel_rfl
def Ag9:Cuts:={ globs:=0,loops:=[],regs:=[],plans:=[(4,⟨[0,1,2,3,4,10,5,6,7,8,9,11,12],[0,1,3,7,0,16,63,127,255,255,0,1535,4095],[(5,[3])],[]⟩)] }
def A24:List Item:=B3 Tryz.f162
theorem B47 (C:B0) (R:B2) (c:Option Addr) (b:Option Addr) (bn bc:Nat) (h:H) :
 B4 PR Ag9 C R W3 Tryz.f162 100000 true A24 [(0,.pointer c),(1,.slice b bn bc)] h =
 nw (.cells D7 false [.int .i64 0,.int .i64 0,.int .i64 0,.int .i64 0]) h fun b_1 w=>nw (.cells D7 false [.int .i64 0,.int .i64 0,.int .i64 0,.int .i64 0]) w fun b_2 w1=>aSome c fun p=>gFv (Addr.add p 2) w1 fun x=>isNilF x fun b_3=>bnd (cond b_3 (some (true,w1)) (aSome c fun p_1=>gInt .i64 (Addr.add p_1 0) w1 fun x_1=>some (((bn:Nat):Int) != x_1,w1))) fun c_1 w2=>cond c_1
 (gAgg ⟨b_2,0,none⟩ 4 w2 fun x_2=>ck (List.length x_2=4) (pAgg ⟨b_1,0,none⟩ x_2 w2 fun w3=>gAgg ⟨b_1,0,none⟩ 4 w3 fun x_3=>some (.tuple ⟨[.agg ⟨x_3⟩,.bool false]⟩,w3)))
 (aSome c fun p_2=>gFv (Addr.add p_2 2) w2 fun x_4=>nw (.cells D7 false [.int .i64 0,.int .i64 0,.int .i64 0,.int .i64 0]) w2 fun b_4 w4=>bnd (C G7 [.slice b bn bc] w4) fun r w5=>aSl r fun x_5 xn xc=>gFv (Addr.add p_2 2) w5 fun x_6=>Bm3 (x_4) (x_6) (aFn x_4 fun g fi cp=>bnd (C g (fi++([.slice x_5 xn xc]++cp)) w5) fun r_1 w6=>as2 r_1 fun r_2 r_3=>aAgg r_2 fun x_7=>aBool r_3 fun x_8=>ck (List.length x_7=4) (pAgg ⟨b_4,0,none⟩ x_7 w6 fun w7=>cond (!x_8)
 (gAgg ⟨b_2,0,none⟩ 4 w7 fun x_9=>ck (List.length x_9=4) (pAgg ⟨b_1,0,none⟩ x_9 w7 fun w8=>gAgg ⟨b_1,0,none⟩ 4 w8 fun x_10=>some (.tuple ⟨[.agg ⟨x_10⟩,.bool false]⟩,w8)))
 (gAgg ⟨b_4,0,none⟩ 4 w7 fun x_11=>ck (List.length x_11=4) (pAgg ⟨b_1,0,none⟩ x_11 w7 fun w9=>gAgg ⟨b_1,0,none⟩ 4 w9 fun x_12=>some (.tuple ⟨[.agg ⟨x_12⟩,.bool true]⟩,w9)))))):=by kernel_rfl
def Dg5:Cuts:={ globs:=0,loops:=[],regs:=[],plans:=[] }
def Ej7:List Item:=B3 Tryz.f168
theorem Gv9 (C:B0) (R:B2)  (h:H) :
 B4 PR Dg5 C R Bb7 Tryz.f168 100000 true Ej7 [] h =
 bnd (C Ap0 [.int .i64 24,.func (.func O4) ⟨[]⟩ ⟨[]⟩,.func (.func Y2) ⟨[]⟩ ⟨[]⟩] h) fun r w=>aPtr r fun x=>some (.pointer x,w):=by kernel_rfl
def Aw0:Cuts:={ globs:=0,loops:=[],regs:=[],plans:=[(2,⟨[0,1,2,3,4,5,6,7],[0,0,0,4,12,0,63,127],[],[]⟩)] }
def Bn2:List Item:=B3 Tryz.f172
theorem Du9 (C:B0) (R:B2) (c:Option Addr) (r:List Value) (h:H) :
 B4 PR Aw0 C R Y9 Tryz.f172 100000 true Bn2 [(0,.pointer c),(1,.agg ⟨r⟩)] h =
 nw (.cells E2 false r) h fun b w=>gAgg ⟨b,0,none⟩ 2 w fun x=>bnd (C Q7 [.pointer c,.agg ⟨x⟩] w) fun r_1 w1=>as2 r_1 fun r_2 r_3=>aAgg r_2 fun x_1=>aBool r_3 fun x_2=>nw (.cells Bg0 false [.int .i64 0,.int .i64 0,.int .i64 0]) w1 fun b_1 w2=>ck (List.length x_1=3) (pAgg ⟨b_1,0,none⟩ x_1 w2 fun w3=>gAgg ⟨b,0,none⟩ 2 w3 fun x_3=>gInt .i64 (Addr.add ⟨b_1,0,none⟩ 2) w3 fun x_4=>ck ((0:Int)≤x_4∧(x_4:Int)≤x_4∧x_4≤(B7:Int)) (nw (.cells B1 false (H6 (Int.toNat x_4) [.int .u8 0])) w3 fun b_2 w4=>bnd (C I2 [.pointer c,.agg ⟨x_3⟩,.slice (some ⟨b_2,0,none⟩) (Int.toNat x_4) (Int.toNat x_4),.bool x_2] w4) fun r_4 w5=>aBool r_4 fun x_5=>some (.bool x_5,w5))):=by kernel_rfl
def B67:Cuts:={ globs:=0,loops:=[],regs:=[],plans:=[] }
def D47:List Item:=B3 Tryz.f175
theorem Gm1 (C:B0) (R:B2) (s:Int) (fv0:Addr) (h:H) :
 B4 PR B67 C R G9 Tryz.f175 100000 true D47 [(0,.int .i64 s),(1,.pointer (some fv0))] h =
 bnd (cond (decide (s<0)) (some (true,h)) (gSl (Addr.add fv0 0) h fun _ xn _=>some (decide (s≥((xn:Nat):Int)),h))) fun c w=>some (.bool c,w):=by kernel_rfl
def B59:Cuts:={ globs:=0,loops:=[],regs:=[],plans:=[] }
def D57:List Item:=B3 Tryz.f179
theorem Gn8 (C:B0) (R:B2) (m:Option Addr) (h:H) :
 B4 PR B59 C R A48 Tryz.f179 100000 true D57 [(0,.pointer m)] h =
 aSome m fun p=>gSl (Addr.add p 0) h fun _ xn _=>some (.int .i64 ((xn:Nat):Int),h):=by kernel_rfl
def Bv0:Cuts:={ globs:=0,loops:=[],regs:=[],plans:=[(1,⟨[0,1,2,3,4,5,6,7,8,9,10,11,12,13],[0,1,3,7,0,31,63,0,255,511,1023,1023,2047,8191],[],[]⟩)] }
def Ds6:List Item:=B3 Tryz.f182
theorem Ga8 (C:B0) (R:B2) (s:Option Addr) (env:Int) (c:List Value) (h:H) :
 B4 PR Bv0 C R At2 Tryz.f182 100000 true Ds6 [(0,.pointer s),(1,.int .i64 env),(2,.agg ⟨c⟩)] h =
 nw (.cells P4 false c) h fun b w=>aSome s fun p=>gSl (Addr.add p 0) w fun x xn _=>aSome x fun p_1=>ck ((0:Int)≤env∧env<((xn:Nat):Int)) (gPtr (Addr.add (B8 p_1) (Int.toNat env*1)) w fun x_1=>gAgg ⟨b,0,none⟩ 6 w fun x_2=>bnd (C I3 [.pointer x_1,.agg ⟨x_2⟩] w) fun r w1=>as2 r fun r_1 r_2=>aInt .i64 r_1 fun x_3=>aBool r_2 fun x_4=>cond (!x_4)
 (some (.tuple ⟨[.int .i64 0,.int .i64 4]⟩,w1))
 (some (.tuple ⟨[.int .i64 x_3,.int .i64 0]⟩,w1))):=by kernel_rfl
def Z6:Cuts:={ globs:=0,loops:=[(3,[0,3,9,10,11])],regs:=[],plans:=[] }
def Ak2:List Item:=B3 Tryz.f184
def N7:List Item:=stk [0,1,0,1,0,0,1,4,5] Ak2
theorem Db2 (C:B0) (R:B2) (t:Option Addr) (h:H) :
 B4 PR Z6 C R G3 Tryz.f184 100000 true Ak2 [(0,.pointer t)] h =
 aSome t fun p=>gSl (Addr.add p 0) h fun x xn xc=>R G3 N7 [(0,.pointer t),(3,.slice none 0 0),(9,.slice x xn xc),(10,.int .i64 ((xn:Nat):Int)),(11,.int .i64 0)] h:=by kernel_rfl
theorem Az3 (C:B0) (R:B2) (t:Option Addr) (out:Option Addr) (outn outc:Nat) (x9:Option Addr) (x9n x9c:Nat) (x10:Int) (x11:Int) (h:H) :
 B4 PR Z6 C R G3 Tryz.f184 100000 true N7 [(0,.pointer t),(3,.slice out outn outc),(9,.slice x9 x9n x9c),(10,.int .i64 x10),(11,.int .i64 x11)] h =
 cond (decide (x11<x10))
 (aSome x9 fun p=>ck ((0:Int)≤x11∧x11<((x9n:Nat):Int)) (gAgg (Addr.add (B8 p) (Int.toNat x11*8)) 8 h fun x=>nw (.cells Al1 false [.int .i64 0,.int .i64 0,.int .i64 0,.int .i64 0,.int .i64 0,.int .i64 0,.int .i64 0,.bool false]) h fun b w=>ck (List.length x=8) (pAgg ⟨b,0,none⟩ x w fun w1=>gBool (Addr.add ⟨b,0,none⟩ 7) w1 fun x_1=>cond x_1
 (bnd (C N5 [.pointer t,.int .i64 x11] w1) fun r w2=>aInt .i64 r fun x_2=>nw (.cells D0 false [.int .i64 x_2]) w2 fun b_1 w3=>gCells (some ⟨b_1,0,none⟩) (1*1) w3 fun cs=>ckB (fitsOpen out D0 w3) (apd D0 1 out outn outc 1 cs w3 fun a an ac w4=>R G3 N7 [(0,.pointer t),(3,.slice a an ac),(9,.slice x9 x9n x9c),(10,.int .i64 x10),(11,.int .i64 (IntKind.wrap .i64 (x11+1)))] w4))
 (R G3 N7 [(0,.pointer t),(3,.slice out outn outc),(9,.slice x9 x9n x9c),(10,.int .i64 x10),(11,.int .i64 (IntKind.wrap .i64 (x11+1)))] w1))))
 (some (.slice out outn outc,h)):=by kernel_rfl
def A08:Cuts:={ globs:=0,loops:=[],regs:=[],plans:=[(6,⟨[0,1,2,3,4,5,6,7,8,9,10,11,12,13,14,15,16,17,18,19,20,21,22,23,24,25,26,27,28,29,30,31,32,33,34,35],[0,1,3,7,15,31,63,127,127,383,1023,2047,4095,8191,8191,24575,8191,122879,262143,524287,1048575,2097151,4194303,8388607,16777215,33554431,67108863,134217727,67108863,335544319,872415231,1946157055,4093640703,8589934591,17179869183,34359738367],[],[]⟩),(8,⟨[0,1,2,3,4,5,6,7,8,9],[0,1,3,7,0,16,63,127,0,511],[],[]⟩)] }
def Bq8:List Item:=B3 Tryz.f186
theorem D29 (C:B0) (R:B2) (r:Option Addr) (env:Int) (name:Int) (right:Int) (atv:Int) (n:Int) (h:H) :
 B4 PR A08 C R Aa4 Tryz.f186 100000 true Bq8 [(0,.pointer r),(1,.int .i64 env),(2,.int .i64 name),(3,.int .i64 right),(4,.int .i64 atv),(5,.int .i64 n)] h =
 aSome r fun p=>gPtr (Addr.add p 1) h fun x=>bnd (C At9 [.pointer x,.int .i64 env,.int .i64 name] h) fun r_1 w=>as2 r_1 fun r_2 r_3=>aAgg r_2 fun x_1=>aInt .i64 r_3 fun x_2=>nw (.cells P4 false [.int .i64 0,.int .i64 0,.int .i64 0,.int .i64 0,.int .i64 0,.int .i64 0]) w fun b w1=>ck (List.length x_1=6) (pAgg ⟨b,0,none⟩ x_1 w1 fun w2=>cond (x_2 != 0)
 (some (.tuple ⟨[.int .i64 0,.int .i64 x_2]⟩,w2))
 (gInt .i64 (Addr.add ⟨b,0,none⟩ 1) w2 fun x_3=>cond ((Q9 .i64 x_3 right)==0)
 (some (.tuple ⟨[.int .i64 0,.int .i64 3]⟩,w2))
 (bnd (cond (decide (atv<0)) (some (true,w2)) (some (decide (n<0),w2))) fun c w3=>bnd (cond c (some (true,w3)) (gInt .i64 (Addr.add ⟨b,0,none⟩ 3) w3 fun x_4=>some (decide (atv>x_4),w3))) fun c_1 w4=>bnd (cond c_1 (some (true,w4)) (gInt .i64 (Addr.add ⟨b,0,none⟩ 3) w4 fun x_5=>some (decide (n>(IntKind.wrap .i64 (x_5-atv))),w4))) fun c_2 w5=>bnd (cond c_2 (some (true,w5)) (gInt .i64 (Addr.add ⟨b,0,none⟩ 0) w5 fun x_6=>some (decide (x_6<0),w5))) fun c_3 w6=>bnd (cond c_3 (some (true,w6)) (gInt .i64 (Addr.add ⟨b,0,none⟩ 0) w6 fun x_7=>aSome r fun p_1=>gSl (Addr.add p_1 2) w6 fun _ xn _=>some (decide (x_7≥((xn:Nat):Int)),w6))) fun c_4 w7=>cond c_4
 (some (.tuple ⟨[.int .i64 0,.int .i64 1]⟩,w7))
 (aSome r fun p_2=>gSl (Addr.add p_2 2) w7 fun x_9 xn_1 _=>gInt .i64 (Addr.add ⟨b,0,none⟩ 0) w7 fun x_10=>aSome x_9 fun p_3=>ck ((0:Int)≤x_10∧x_10<((xn_1:Nat):Int)) (gAgg (Addr.add (B8 p_3) (Int.toNat x_10*2)) 2 w7 fun x_11=>nw (.cells Aw2 false [.int .i64 0,.int .i64 0]) w7 fun b_1 w8=>ck (List.length x_11=2) (pAgg ⟨b_1,0,none⟩ x_11 w8 fun w9=>gInt .i64 (Addr.add ⟨b,0,none⟩ 2) w9 fun x_12=>gInt .i64 (Addr.add ⟨b_1,0,none⟩ 1) w9 fun x_13=>bnd (cond (decide ((IntKind.wrap .i64 (x_12+atv))>x_13)) (some (true,w9)) (gInt .i64 (Addr.add ⟨b_1,0,none⟩ 1) w9 fun x_14=>gInt .i64 (Addr.add ⟨b,0,none⟩ 2) w9 fun x_15=>some (decide (n>(IntKind.wrap .i64 ((IntKind.wrap .i64 (x_14-x_15))-atv))),w9))) fun c_5 w10=>cond c_5
 (some (.tuple ⟨[.int .i64 0,.int .i64 1]⟩,w10))
 (gInt .i64 (Addr.add ⟨b_1,0,none⟩ 0) w10 fun x_16=>gInt .i64 (Addr.add ⟨b,0,none⟩ 2) w10 fun x_17=>some (.tuple ⟨[.int .i64 (IntKind.wrap .i64 ((IntKind.wrap .i64 (x_16+x_17))+atv)),.int .i64 0]⟩,w10)))))))):=by kernel_rfl
def Bt4:Cuts:={ globs:=0,loops:=[],regs:=[],plans:=[] }
def Ds7:List Item:=B3 Tryz.f192
theorem E83 (C:B0) (R:B2) (q:Option Addr) (s:Int) (h:H) :
 B4 PR Bt4 C R Ai9 Tryz.f192 100000 true Ds7 [(0,.pointer q),(1,.int .i64 s)] h =
 bnd (cond (decide (s≥0)) (aSome q fun p=>gSl (Addr.add p 0) h fun _ xn _=>some (decide (s<((xn:Nat):Int)),h)) (some (false,h))) fun c w=>some (.bool c,w):=by kernel_rfl
def Bw2:Cuts:={ globs:=0,loops:=[],regs:=[],plans:=[(1,⟨[0,1,2,3,4,5,6,7,8,9,10,11,12,13,14,15,16,17,18,19,20,21,22,23,24,25,26,27,28],[0,1,3,7,7,23,55,119,247,511,1023,2047,4095,8191,16383,32767,4095,131071,262143,4095,528383,1576959,3674111,4095,16257023,33034239,67108863,134217727,268435455],[],[]⟩)] }
def Dn9:List Item:=B3 Tryz.f194
theorem E55 (C:B0) (R:B2) (k:Option Addr) (env:Int) (n:Int) (h:H) :
 B4 PR Bw2 C R At3 Tryz.f194 100000 true Dn9 [(0,.pointer k),(1,.int .i64 env),(2,.int .i64 n)] h =
 bnd (cond (decide (n<0)) (some (true,h)) (aSome k fun p=>gSl (Addr.add p 6) h fun _ xn _=>some (decide (n≥((xn:Nat):Int)),h))) fun c w=>bnd (cond c (some (true,w)) (aSome k fun p_1=>gSl (Addr.add p_1 1) w fun x_1 xn_1 _=>aSome x_1 fun p_2=>ck ((0:Int)≤n∧n<((xn_1:Nat):Int)) (gSl (Addr.add (B8 p_2) (Int.toNat n*1)) w fun x_2 xn_2 xc_2=>aSome k fun p_3=>gSl (Addr.add p_3 0) w fun x_3 xn_3 _=>aSome x_3 fun p_4=>ck ((0:Int)≤env∧env<((xn_3:Nat):Int)) (gInt .i64 (Addr.add (B8 p_4) (Int.toNat env*1)) w fun x_4=>bnd (C N0 [.slice x_2 xn_2 xc_2,.int .i64 x_4] w) fun r w1=>aBool r fun x_5=>some (!x_5,w1))))) fun c_1 w2=>cond c_1
 (some (.tuple ⟨[.pointer none,.int .i64 8]⟩,w2))
 (aSome k fun p_5=>gSl (Addr.add p_5 6) w2 fun x_6 xn_4 _=>aSome x_6 fun p_6=>ck ((0:Int)≤n∧n<((xn_4:Nat):Int)) (gPtr (Addr.add (B8 p_6) (Int.toNat n*1)) w2 fun x_7=>some (.tuple ⟨[.pointer x_7,.int .i64 0]⟩,w2))):=by kernel_rfl
def Bt7:Cuts:={ globs:=0,loops:=[],regs:=[],plans:=[] }
def Dt3:List Item:=B3 Tryz.f197
theorem E88 (C:B0) (R:B2) (n:Option Addr) (name:Int) (h:H) :
 B4 PR Bt7 C R A87 Tryz.f197 100000 true Dt3 [(0,.pointer n),(1,.int .i64 name)] h =
 bnd (cond (decide (name≥0)) (aSome n fun p=>gSl (Addr.add p 0) h fun _ xn _=>some (decide ((Q9 .i64 name 255)<((xn:Nat):Int)),h)) (some (false,h))) fun c w=>bnd (cond c (aSome n fun p_1=>gSl (Addr.add p_1 0) w fun x_1 xn_1 _=>aSome x_1 fun p_2=>ck ((0:Int)≤Q9 .i64 name 255∧Q9 .i64 name 255<((xn_1:Nat):Int)) (gBool (Addr.add (Addr.add (B8 p_2) (Int.toNat (Q9 .i64 name 255)*2)) 1) w fun x_2=>some (x_2,w))) (some (false,w))) fun c_1 w1=>bnd (cond c_1 (aSome n fun p_3=>gSl (Addr.add p_3 0) w1 fun x_3 xn_2 _=>aSome x_3 fun p_4=>ck ((0:Int)≤Q9 .i64 name 255∧Q9 .i64 name 255<((xn_2:Nat):Int)) (gInt .i64 (Addr.add (Addr.add (B8 p_4) (Int.toNat (Q9 .i64 name 255)*2)) 0) w1 fun x_4=>some (x_4==(Int.fdiv name (2 ^ 8)),w1))) (some (false,w1))) fun c_2 w2=>some (.bool c_2,w2):=by kernel_rfl
def Aa9:Cuts:={ globs:=0,loops:=[],regs:=[],plans:=[] }
def Ar0:List Item:=B3 Tryz.f201
theorem Bp3 (C:B0) (R:B2) (s:Option Addr) (sn sc:Nat) (f:Value) (h:H) :
 B4 PR Aa9 C R Q3 Tryz.f201 100000 true Ar0 [(0,.slice s sn sc),(1,f)] h =
 bnd (C G2 [.slice s sn sc,f] h) fun r w=>aInt .i64 r fun x=>some (.bool (decide (x≥0)),w):=by kernel_rfl
def D11:Cuts:={ globs:=0,loops:=[],regs:=[],plans:=[(1,⟨[0,1,2,3,4,5,6,7,8,9,10,11,12,13,14,15,16,17,18],[0,1,3,7,0,16,48,112,0,256,768,1792,0,4096,12288,28672,65535,0,262143],[],[]⟩),(3,⟨[0,1,2,3,4,5,6,7,8],[0,0,2,6,6,30,62,63,255],[(5,[0])],[]⟩)] }
def E54:List Item:=B3 Tryz.f205
theorem Hi4 (C:B0) (R:B2) (b:Option Addr) (bn bc:Nat) (h:H) :
 B4 PR D11 C R Ar1 Tryz.f205 100000 true E54 [(0,.slice b bn bc)] h =
 nw (.cells D7 false [.int .i64 0,.int .i64 0,.int .i64 0,.int .i64 0]) h fun b_1 w=>aSome b fun p=>ck ((0:Int)≤0∧0<((bn:Nat):Int)) (gInt .u8 (Addr.add (B8 p) (Int.toNat 0*1)) w fun x=>aSome b fun p_1=>ck ((0:Int)≤1∧1<((bn:Nat):Int)) (gInt .u8 (Addr.add (B8 p_1) (Int.toNat 1*1)) w fun x_1=>aSome b fun p_2=>ck ((0:Int)≤2∧2<((bn:Nat):Int)) (gInt .u8 (Addr.add (B8 p_2) (Int.toNat 2*1)) w fun x_2=>aSome b fun p_3=>ck ((0:Int)≤3∧3<((bn:Nat):Int)) (gInt .u8 (Addr.add (B8 p_3) (Int.toNat 3*1)) w fun x_3=>nw (.cells D7 false [.int .i64 0,.int .i64 0,.int .i64 0,.int .i64 0]) w fun b_2 w1=>pAgg ⟨b_2,0,none⟩ [.int .i64 (IntKind.wrap .i64 (x)),.int .i64 (IntKind.wrap .i64 (x_1)),.int .i64 (IntKind.wrap .i64 (x_2)),.int .i64 (IntKind.wrap .i64 (x_3))] w1 fun w2=>gAgg ⟨b_2,0,none⟩ 4 w2 fun x_4=>bnd (C A42 [.agg ⟨x_4⟩] w2) fun r w3=>as2 r fun r_1 r_2=>aSl r_1 fun x_5 xn xc=>aBool r_2 fun x_6=>gAgg ⟨b_2,0,none⟩ 4 w3 fun x_7=>bnd (cond x_6 (bnd (C D6 [.slice x_5 xn xc,.slice b bn bc] w3) fun r_3 w4=>aBool r_3 fun x_8=>gAgg ⟨b_2,0,none⟩ 4 w4 fun x_9=>same (.agg ⟨x_7⟩) (.agg ⟨x_9⟩) (some (x_8,w4))) (some (false,w3))) fun c w5=>ck (List.length x_7=4) (pAgg ⟨b_1,0,none⟩ x_7 w5 fun w6=>gAgg ⟨b_1,0,none⟩ 4 w6 fun x_10=>some (.tuple ⟨[.agg ⟨x_10⟩,.bool c]⟩,w6)))))):=by kernel_rfl
def Au0:Cuts:={ globs:=0,loops:=[],regs:=[],plans:=[] }
def Bj0:List Item:=B3 Tryz.f220
theorem Ds8 (C:B0) (R:B2) (t:Option Addr) (name:Int) (h:H) :
 B4 PR Au0 C R Af2 Tryz.f220 100000 true Bj0 [(0,.pointer t),(1,.int .i64 name)] h =
 bnd (cond (decide (name<0)) (some (true,h)) (aSome t fun p=>gSl (Addr.add p 0) h fun _ xn _=>some (decide ((Q9 .i64 name 255)≥((xn:Nat):Int)),h))) fun c w=>bnd (cond c (some (true,w)) (aSome t fun p_1=>gSl (Addr.add p_1 0) w fun x_1 xn_1 _=>aSome x_1 fun p_2=>ck ((0:Int)≤Q9 .i64 name 255∧Q9 .i64 name 255<((xn_1:Nat):Int)) (gBool (Addr.add (Addr.add (B8 p_2) (Int.toNat (Q9 .i64 name 255)*8)) 7) w fun x_2=>some (!x_2,w)))) fun c_1 w1=>bnd (cond c_1 (some (true,w1)) (bnd (C N5 [.pointer t,.int .i64 (Q9 .i64 name 255)] w1) fun r w2=>aInt .i64 r fun x_3=>some (x_3 != name,w2))) fun c_2 w3=>cond c_2
 (some (.pointer none,w3))
 (aSome t fun p_3=>gSl (Addr.add p_3 0) w3 fun x_4 xn_2 _=>aSome x_4 fun p_4=>ck ((0:Int)≤Q9 .i64 name 255∧Q9 .i64 name 255<((xn_2:Nat):Int)) (some (.pointer (some (Addr.add (B8 p_4) (Int.toNat (Q9 .i64 name 255)*8))),w3))):=by kernel_rfl
def Dt5:Cuts:={ globs:=0,loops:=[],regs:=[],plans:=[] }
def Eo0:List Item:=B3 Tryz.f226
theorem G72 (C:B0) (R:B2) (b:Option Addr) (bn bc:Nat) (atv:Int) (n:Int) (h:H) :
 B4 PR Dt5 C R Bi7 Tryz.f226 100000 true Eo0 [(0,.slice b bn bc),(1,.int .i64 atv),(2,.int .i64 n)] h =
 bnd (cond (decide (atv<0)) (some (true,h)) (some (decide (atv>(IntKind.wrap .i64 (((bn:Nat):Int)-2))),h))) fun c w=>bnd (cond c (some (true,w)) (some (decide (n<0),w))) fun c_1 w1=>bnd (cond c_1 (some (true,w1)) (some (decide (n>65535),w1))) fun c_2 w2=>cond c_2
 (some (.bool false,w2))
 (aSome b fun p=>ck ((0:Int)≤atv∧atv<((bn:Nat):Int)) (pV (Addr.add (B8 p) (Int.toNat atv*1)) (.int .u8 (IntKind.wrap .u8 (Int.fdiv n (2 ^ 8)))) w2 fun w3=>aSome b fun p_1=>ck ((0:Int)≤IntKind.wrap .i64 (atv+1)∧IntKind.wrap .i64 (atv+1)<((bn:Nat):Int)) (pV (Addr.add (B8 p_1) (Int.toNat (IntKind.wrap .i64 (atv+1))*1)) (.int .u8 (IntKind.wrap .u8 (n))) w3 fun w4=>some (.bool true,w4)))):=by kernel_rfl
def Dq6:Cuts:={ globs:=0,loops:=[],regs:=[],plans:=[] }
def Eo5:List Item:=B3 Tryz.f231
theorem G24 (C:B0) (R:B2) (f:Int) (h:H) :
 B4 PR Dq6 C R Bh3 Tryz.f231 100000 true Eo5 [(0,.int .i64 f)] h =
 bnd (cond (decide (f<0)) (some (true,h)) (some (decide (f>12),h))) fun c w=>some (.bool c,w):=by kernel_rfl
end
end Go.EQ

set_option maxRecDepth 100000
namespace Go.EQ
open Go Go.NN Go.Proofs
variable (C : B0) (R : B2)
noncomputable section
def If0:List (Nat × Cuts):=[(7,Au4),(9,B29),(10,Df2),(11,Ed1),(12,De3),(13,De5),(14,Dn0),(17,D31),(18,Dz5),(19,D23),(21,Dq7),(23,Dr9),(24,Dn1),(25,A29),(26,B60),(27,B71),(28,Df9),(29,A27),(30,Bo6),(31,Eb9),(32,D26),(33,Dj7),(34,Dt6),(35,A04),(36,Ds2),(37,A07),(38,Ao8),(39,An9),(40,Ef5),(41,Aq3),(42,E76),(43,Ds4),(44,D85),(46,Df4),(47,Dk8),(48,D41),(49,D28),(52,Aj9),(53,Dz9),(54,B97),(55,A47),(56,D09),(57,D35),(58,A88),(59,S9),(60,A02),(64,A16),(65,Ao0),(66,Av7),(68,A51),(69,Ba7),(70,As4),(71,Df6),(72,Bi5),(73,Dj2),(74,Bo8),(75,Bh6),(77,Ba5),(86,Bj8),(87,Ec3),(88,De7),(89,Ad3),(90,B89),(91,B73),(92,Ad0),(93,B87),(94,Df8),(95,Df1),(96,Av8),(97,B63),(98,B86),(99,B77),(100,Do0),(102,En6),(104,B30),(105,Ap7),(106,Ae4),(107,Am4),(108,Am7),(109,A09),(110,Ad7),(111,B62),(115,Aq0),(116,Bp0),(117,A82),(118,Bj4),(119,De8),(120,As9),(121,El6),(122,Dk2),(123,B90),(124,Do3),(125,Ea5),(126,A91),(127,Av0),(128,Bv3),(129,Bg4),(130,Ay3),(131,Bf6),(132,B80),(133,Bk4),(134,Dw0),(135,Bt3),(136,Bo2),(137,Bj6),(138,Bu2),(139,A59),(140,A12),(141,A57),(142,Bh9),(144,Be2),(145,Bh5),(146,Bo5),(147,Bo4),(148,Ba8),(149,Bw4),(150,Bw1),(151,Dg2),(152,Bv6),(159,A01),(160,De1),(161,Dg1),(162,Ag9),(163,Ds9),(164,Ag7),(165,Ag3),(166,Av5),(167,Ag2),(168,Dg5),(169,Ag5),(171,D05),(172,Aw0),(173,Ah0),(174,B99),(175,B67),(176,Ae0),(177,Dn8),(178,Au8),(179,B59),(180,Bi8),(181,B25),(182,Bv0),(183,Bf7),(184,Z6),(185,A92),(186,A08),(187,B70),(188,Bz9),(189,Bu1),(192,Bt4),(193,Bk0),(194,Bw2),(195,U2),(196,Bn9),(197,Bt7),(198,A90),(201,Aa9),(202,B18),(203,A96),(204,D13),(205,D11),(206,Am1),(207,Ba0),(208,Ef2),(209,Ee4),(210,Bb1),(211,Bd5),(212,Br8),(213,Y4),(214,Ad1),(215,Am3),(216,Dq4),(217,Ap9),(220,Au0),(221,Bo7),(222,U7),(223,Eg1),(224,Ab6),(225,Ee6),(226,Dt5),(227,Dr8),(230,Do4),(231,Dq6)]
def cutsOf:FuncId→Cuts:=Gi2 If0
noncomputable abbrev B6:B0:=NN.Call PR cutsOf
noncomputable abbrev H5:B2:=NN.Jump PR cutsOf
theorem B55:FnOk PR cutsOf H2 Tryz.f7 Au4 Be4 2:=⟨Tryz.func7,⟨_,rfl⟩,by kernel_rfl,rfl,rfl,by kernel_rfl⟩
theorem B27:FnOk PR cutsOf Ae2 Tryz.f9 B29 Dp2 1:=⟨Tryz.func9,⟨_,rfl⟩,by kernel_rfl,rfl,rfl,by kernel_rfl⟩
theorem Gx0:FnOk PR cutsOf Bb9 Tryz.f10 Df2 Ei7 0:=⟨Tryz.func10,⟨_,rfl⟩,by kernel_rfl,rfl,rfl,by kernel_rfl⟩
theorem Hv3:FnOk PR cutsOf B24 Tryz.f11 Ed1 Gg0 2:=⟨Tryz.func11,⟨_,rfl⟩,by kernel_rfl,rfl,rfl,by kernel_rfl⟩
theorem Gy2:FnOk PR cutsOf Bb5 Tryz.f12 De3 Ei1 0:=⟨Tryz.func12,⟨_,rfl⟩,by kernel_rfl,rfl,rfl,by kernel_rfl⟩
theorem Gx1:FnOk PR cutsOf Aw5 Tryz.f13 De5 Ei5 4:=⟨Tryz.func13,⟨_,rfl⟩,by kernel_rfl,rfl,rfl,by kernel_rfl⟩
theorem G75:FnOk PR cutsOf Ak7 Tryz.f14 Dn0 Eu2 4:=⟨Tryz.func14,⟨_,rfl⟩,by kernel_rfl,rfl,rfl,by kernel_rfl⟩
theorem Hd5:FnOk PR cutsOf B92 Tryz.f17 D31 E20 2:=⟨Tryz.func17,⟨_,rfl⟩,by kernel_rfl,rfl,rfl,by kernel_rfl⟩
theorem He1:FnOk PR cutsOf Bd6 Tryz.f18 Dz5 E37 3:=⟨Tryz.func18,⟨_,rfl⟩,by kernel_rfl,rfl,rfl,by kernel_rfl⟩
theorem Hl5:FnOk PR cutsOf A14 Tryz.f19 D23 E36 2:=⟨Tryz.func19,⟨_,rfl⟩,by kernel_rfl,rfl,rfl,by kernel_rfl⟩
theorem Gz8:FnOk PR cutsOf B34 Tryz.f21 Dq7 Eo9 2:=⟨Tryz.func21,⟨_,rfl⟩,by kernel_rfl,rfl,rfl,by kernel_rfl⟩
theorem G54:FnOk PR cutsOf Bj1 Tryz.f23 Dr9 Es7 1:=⟨Tryz.func23,⟨_,rfl⟩,by kernel_rfl,rfl,rfl,by kernel_rfl⟩
theorem G22:FnOk PR cutsOf B04 Tryz.f24 Dn1 Eu0 0:=⟨Tryz.func24,⟨_,rfl⟩,by kernel_rfl,rfl,rfl,by kernel_rfl⟩
theorem Bo1:FnOk PR cutsOf P9 Tryz.f25 A29 Bn8 1:=⟨Tryz.func25,⟨_,rfl⟩,by kernel_rfl,rfl,rfl,by kernel_rfl⟩
theorem Gl7:FnOk PR cutsOf U0 Tryz.f26 B60 D52 3:=⟨Tryz.func26,⟨_,rfl⟩,by kernel_rfl,rfl,rfl,by kernel_rfl⟩
theorem Gj1:FnOk PR cutsOf As3 Tryz.f27 B71 D81 3:=⟨Tryz.func27,⟨_,rfl⟩,by kernel_rfl,rfl,rfl,by kernel_rfl⟩
theorem Gv8:FnOk PR cutsOf Bc8 Tryz.f28 Df9 Eh3 0:=⟨Tryz.func28,⟨_,rfl⟩,by kernel_rfl,rfl,rfl,by kernel_rfl⟩
theorem Bo9:FnOk PR cutsOf U3 Tryz.f29 A27 Bn7 1:=⟨Tryz.func29,⟨_,rfl⟩,by kernel_rfl,rfl,rfl,by kernel_rfl⟩
theorem E12:FnOk PR cutsOf A39 Tryz.f30 Bo6 Dh4 1:=⟨Tryz.func30,⟨_,rfl⟩,by kernel_rfl,rfl,rfl,by kernel_rfl⟩
theorem Hw0:FnOk PR cutsOf Af5 Tryz.f31 Eb9 Gg1 1:=⟨Tryz.func31,⟨_,rfl⟩,by kernel_rfl,rfl,rfl,by kernel_rfl⟩
theorem Hf3:FnOk PR cutsOf Da4 Tryz.f32 D26 E25 2:=⟨Tryz.func32,⟨_,rfl⟩,by kernel_rfl,rfl,rfl,by kernel_rfl⟩
theorem Di8:FnOk PR cutsOf Y6 Tryz.f33 Dj7 D84 3:=⟨Tryz.func33,⟨_,rfl⟩,by kernel_rfl,rfl,rfl,by kernel_rfl⟩
theorem Hb2:FnOk PR cutsOf A60 Tryz.f34 Dt6 Et6 2:=⟨Tryz.func34,⟨_,rfl⟩,by kernel_rfl,rfl,rfl,by kernel_rfl⟩
theorem Dz0:FnOk PR cutsOf I7 Tryz.f35 A04 Bq9 2:=⟨Tryz.func35,⟨_,rfl⟩,by kernel_rfl,rfl,rfl,by kernel_rfl⟩
theorem Hb7:FnOk PR cutsOf A62 Tryz.f36 Ds2 En2 2:=⟨Tryz.func36,⟨_,rfl⟩,by kernel_rfl,rfl,rfl,by kernel_rfl⟩
theorem D01:FnOk PR cutsOf O5 Tryz.f37 A07 Bp4 2:=⟨Tryz.func37,⟨_,rfl⟩,by kernel_rfl,rfl,rfl,by kernel_rfl⟩
theorem Dl5:FnOk PR cutsOf O9 Tryz.f38 Ao8 Bh1 3:=⟨Tryz.func38,⟨_,rfl⟩,by kernel_rfl,rfl,rfl,by kernel_rfl⟩
theorem Dk9:FnOk PR cutsOf L5 Tryz.f39 An9 Bf8 3:=⟨Tryz.func39,⟨_,rfl⟩,by kernel_rfl,rfl,rfl,by kernel_rfl⟩
theorem Ht4:FnOk PR cutsOf Di5 Tryz.f40 Ef5 Ge3 2:=⟨Tryz.func40,⟨_,rfl⟩,by kernel_rfl,rfl,rfl,by kernel_rfl⟩
theorem Dl3:FnOk PR cutsOf O8 Tryz.f41 Aq3 Bf3 3:=⟨Tryz.func41,⟨_,rfl⟩,by kernel_rfl,rfl,rfl,by kernel_rfl⟩
theorem H89:FnOk PR cutsOf Dt4 Tryz.f42 E76 G02 3:=⟨Tryz.func42,⟨_,rfl⟩,by kernel_rfl,rfl,rfl,by kernel_rfl⟩
theorem Hc7:FnOk PR cutsOf Q1 Tryz.f43 Ds4 Ev7 1:=⟨Tryz.func43,⟨_,rfl⟩,by kernel_rfl,rfl,rfl,by kernel_rfl⟩
theorem Hw7:FnOk PR cutsOf B17 Tryz.f44 D85 Gi6 2:=⟨Tryz.func44,⟨_,rfl⟩,by kernel_rfl,rfl,rfl,by kernel_rfl⟩
theorem Gv7:FnOk PR cutsOf Aw6 Tryz.f46 Df4 Eh5 1:=⟨Tryz.func46,⟨_,rfl⟩,by kernel_rfl,rfl,rfl,by kernel_rfl⟩
theorem Ed3:FnOk PR cutsOf Ao9 Tryz.f47 Dk8 D92 2:=⟨Tryz.func47,⟨_,rfl⟩,by kernel_rfl,rfl,rfl,by kernel_rfl⟩
theorem Hh4:FnOk PR cutsOf Da7 Tryz.f48 D41 E45 4:=⟨Tryz.func48,⟨_,rfl⟩,by kernel_rfl,rfl,rfl,by kernel_rfl⟩
theorem Hi1:FnOk PR cutsOf Da5 Tryz.f49 D28 E48 2:=⟨Tryz.func49,⟨_,rfl⟩,by kernel_rfl,rfl,rfl,by kernel_rfl⟩
theorem Dc5:FnOk PR cutsOf N0 Tryz.f52 Aj9 A73 2:=⟨Tryz.func52,⟨_,rfl⟩,by kernel_rfl,rfl,rfl,by kernel_rfl⟩
theorem Hl0:FnOk PR cutsOf A05 Tryz.f53 Dz9 E31 1:=⟨Tryz.func53,⟨_,rfl⟩,by kernel_rfl,rfl,rfl,by kernel_rfl⟩
theorem Dz6:FnOk PR cutsOf Ar6 Tryz.f54 B97 Dz7 1:=⟨Tryz.func54,⟨_,rfl⟩,by kernel_rfl,rfl,rfl,by kernel_rfl⟩
theorem As7:FnOk PR cutsOf G6 Tryz.f55 A47 Bj5 2:=⟨Tryz.func55,⟨_,rfl⟩,by kernel_rfl,rfl,rfl,by kernel_rfl⟩
theorem He5:FnOk PR cutsOf A03 Tryz.f56 D09 E44 2:=⟨Tryz.func56,⟨_,rfl⟩,by kernel_rfl,rfl,rfl,by kernel_rfl⟩
theorem He8:FnOk PR cutsOf Bp7 Tryz.f57 D35 E33 2:=⟨Tryz.func57,⟨_,rfl⟩,by kernel_rfl,rfl,rfl,by kernel_rfl⟩
theorem Dt9:FnOk PR cutsOf Y1 Tryz.f58 A88 Bu4 2:=⟨Tryz.func58,⟨_,rfl⟩,by kernel_rfl,rfl,rfl,by kernel_rfl⟩
theorem O7:FnOk PR cutsOf D5 Tryz.f59 S9 Aa5 1:=⟨Tryz.func59,⟨_,rfl⟩,by kernel_rfl,rfl,rfl,by kernel_rfl⟩
theorem D32:FnOk PR cutsOf U1 Tryz.f60 A02 Br6 2:=⟨Tryz.func60,⟨_,rfl⟩,by kernel_rfl,rfl,rfl,by kernel_rfl⟩
theorem D27:FnOk PR cutsOf S8 Tryz.f64 A16 Bq5 1:=⟨Tryz.func64,⟨_,rfl⟩,by kernel_rfl,rfl,rfl,by kernel_rfl⟩
theorem Dl2:FnOk PR cutsOf P1 Tryz.f65 Ao0 Bf0 2:=⟨Tryz.func65,⟨_,rfl⟩,by kernel_rfl,rfl,rfl,by kernel_rfl⟩
theorem Du3:FnOk PR cutsOf Ah4 Tryz.f66 Av7 Bn3 1:=⟨Tryz.func66,⟨_,rfl⟩,by kernel_rfl,rfl,rfl,by kernel_rfl⟩
theorem At1:FnOk PR cutsOf J6 Tryz.f68 A51 Bj3 1:=⟨Tryz.func68,⟨_,rfl⟩,by kernel_rfl,rfl,rfl,by kernel_rfl⟩
theorem Aq7:FnOk PR cutsOf I1 Tryz.f69 Ba7 Bl8 1:=⟨Tryz.func69,⟨_,rfl⟩,by kernel_rfl,rfl,rfl,by kernel_rfl⟩
theorem Ai6:FnOk PR cutsOf G4 Tryz.f70 As4 A44 1:=⟨Tryz.func70,⟨_,rfl⟩,by kernel_rfl,rfl,rfl,by kernel_rfl⟩
theorem Gv6:FnOk PR cutsOf Bs0 Tryz.f71 Df6 Ej3 2:=⟨Tryz.func71,⟨_,rfl⟩,by kernel_rfl,rfl,rfl,by kernel_rfl⟩
theorem Em5:FnOk PR cutsOf Ax2 Tryz.f72 Bi5 Dd3 2:=⟨Tryz.func72,⟨_,rfl⟩,by kernel_rfl,rfl,rfl,by kernel_rfl⟩
theorem D90:FnOk PR cutsOf Af1 Tryz.f73 Dj2 Ee0 1:=⟨Tryz.func73,⟨_,rfl⟩,by kernel_rfl,rfl,rfl,by kernel_rfl⟩
theorem E03:FnOk PR cutsOf A33 Tryz.f74 Bo8 Dh5 3:=⟨Tryz.func74,⟨_,rfl⟩,by kernel_rfl,rfl,rfl,by kernel_rfl⟩
theorem Er0:FnOk PR cutsOf A00 Tryz.f75 Bh6 Dd1 3:=⟨Tryz.func75,⟨_,rfl⟩,by kernel_rfl,rfl,rfl,by kernel_rfl⟩
theorem Eg9:FnOk PR cutsOf Aq4 Tryz.f77 Ba5 Bz3 5:=⟨Tryz.func77,⟨_,rfl⟩,by kernel_rfl,rfl,rfl,by kernel_rfl⟩
theorem Er8:FnOk PR cutsOf Ax6 Tryz.f86 Bj8 Db9 1:=⟨Tryz.func86,⟨_,rfl⟩,by kernel_rfl,rfl,rfl,by kernel_rfl⟩
theorem Ht8:FnOk PR cutsOf A77 Tryz.f87 Ec3 Gg7 1:=⟨Tryz.func87,⟨_,rfl⟩,by kernel_rfl,rfl,rfl,by kernel_rfl⟩
theorem Gw5:FnOk PR cutsOf Bb4 Tryz.f88 De7 Ej4 2:=⟨Tryz.func88,⟨_,rfl⟩,by kernel_rfl,rfl,rfl,by kernel_rfl⟩
theorem An8:FnOk PR cutsOf L6 Tryz.f89 Ad3 Aq8 3:=⟨Tryz.func89,⟨_,rfl⟩,by kernel_rfl,rfl,rfl,by kernel_rfl⟩
theorem Gl6:FnOk PR cutsOf As1 Tryz.f90 B89 D66 1:=⟨Tryz.func90,⟨_,rfl⟩,by kernel_rfl,rfl,rfl,by kernel_rfl⟩
theorem Gk4:FnOk PR cutsOf A40 Tryz.f91 B73 D58 1:=⟨Tryz.func91,⟨_,rfl⟩,by kernel_rfl,rfl,rfl,by kernel_rfl⟩
theorem Ao2:FnOk PR cutsOf I4 Tryz.f92 Ad0 Aq9 3:=⟨Tryz.func92,⟨_,rfl⟩,by kernel_rfl,rfl,rfl,by kernel_rfl⟩
theorem Gl0:FnOk PR cutsOf As2 Tryz.f93 B87 D63 1:=⟨Tryz.func93,⟨_,rfl⟩,by kernel_rfl,rfl,rfl,by kernel_rfl⟩
theorem Gx7:FnOk PR cutsOf Aw1 Tryz.f94 Df8 Eh6 1:=⟨Tryz.func94,⟨_,rfl⟩,by kernel_rfl,rfl,rfl,by kernel_rfl⟩
theorem Gx6:FnOk PR cutsOf Aw8 Tryz.f95 Df1 Eh9 1:=⟨Tryz.func95,⟨_,rfl⟩,by kernel_rfl,rfl,rfl,by kernel_rfl⟩
theorem Du4:FnOk PR cutsOf I2 Tryz.f96 Av8 Bn5 4:=⟨Tryz.func96,⟨_,rfl⟩,by kernel_rfl,rfl,rfl,by kernel_rfl⟩
theorem Gj7:FnOk PR cutsOf A42 Tryz.f97 B63 D49 1:=⟨Tryz.func97,⟨_,rfl⟩,by kernel_rfl,rfl,rfl,by kernel_rfl⟩
theorem Gk6:FnOk PR cutsOf A56 Tryz.f98 B86 D62 1:=⟨Tryz.func98,⟨_,rfl⟩,by kernel_rfl,rfl,rfl,by kernel_rfl⟩
theorem Gn5:FnOk PR cutsOf A45 Tryz.f99 B77 D53 1:=⟨Tryz.func99,⟨_,rfl⟩,by kernel_rfl,rfl,rfl,by kernel_rfl⟩
theorem G74:FnOk PR cutsOf A64 Tryz.f100 Do0 Ev8 3:=⟨Tryz.func100,⟨_,rfl⟩,by kernel_rfl,rfl,rfl,by kernel_rfl⟩
theorem Hy9:FnOk PR cutsOf Bx7 Tryz.f102 En6 Gu2 1:=⟨Tryz.func102,⟨_,rfl⟩,by kernel_rfl,rfl,rfl,by kernel_rfl⟩
theorem Dr7:FnOk PR cutsOf Ak9 Tryz.f104 B30 Ds0 1:=⟨Tryz.func104,⟨_,rfl⟩,by kernel_rfl,rfl,rfl,by kernel_rfl⟩
theorem Di9:FnOk PR cutsOf V0 Tryz.f105 Ap7 Bg2 1:=⟨Tryz.func105,⟨_,rfl⟩,by kernel_rfl,rfl,rfl,by kernel_rfl⟩
theorem Au1:FnOk PR cutsOf H7 Tryz.f106 Ae4 As8 2:=⟨Tryz.func106,⟨_,rfl⟩,by kernel_rfl,rfl,rfl,by kernel_rfl⟩
theorem Dg0:FnOk PR cutsOf Ab8 Tryz.f107 Am4 Bd0 2:=⟨Tryz.func107,⟨_,rfl⟩,by kernel_rfl,rfl,rfl,by kernel_rfl⟩
theorem Dd9:FnOk PR cutsOf Ab5 Tryz.f108 Am7 Bc2 2:=⟨Tryz.func108,⟨_,rfl⟩,by kernel_rfl,rfl,rfl,by kernel_rfl⟩
theorem D04:FnOk PR cutsOf Ab0 Tryz.f109 A09 Bp6 2:=⟨Tryz.func109,⟨_,rfl⟩,by kernel_rfl,rfl,rfl,by kernel_rfl⟩
theorem Ao5:FnOk PR cutsOf L0 Tryz.f110 Ad7 Ap4 3:=⟨Tryz.func110,⟨_,rfl⟩,by kernel_rfl,rfl,rfl,by kernel_rfl⟩
theorem Gm5:FnOk PR cutsOf A55 Tryz.f111 B62 D71 1:=⟨Tryz.func111,⟨_,rfl⟩,by kernel_rfl,rfl,rfl,by kernel_rfl⟩
theorem A94:FnOk PR cutsOf R0 Tryz.f115 Aq0 A86 3:=⟨Tryz.func115,⟨_,rfl⟩,by kernel_rfl,rfl,rfl,by kernel_rfl⟩
theorem E17:FnOk PR cutsOf An1 Tryz.f116 Bp0 Dh2 1:=⟨Tryz.func116,⟨_,rfl⟩,by kernel_rfl,rfl,rfl,by kernel_rfl⟩
theorem Ee2:FnOk PR cutsOf Aq2 Tryz.f117 A82 By1 1:=⟨Tryz.func117,⟨_,rfl⟩,by kernel_rfl,rfl,rfl,by kernel_rfl⟩
theorem Bk2:FnOk PR cutsOf S6 Tryz.f118 Bj4 By2 1:=⟨Tryz.func118,⟨_,rfl⟩,by kernel_rfl,rfl,rfl,by kernel_rfl⟩
theorem Gv3:FnOk PR cutsOf Bc3 Tryz.f119 De8 Eh7 1:=⟨Tryz.func119,⟨_,rfl⟩,by kernel_rfl,rfl,rfl,by kernel_rfl⟩
theorem Ds5:FnOk PR cutsOf W5 Tryz.f120 As9 Bh8 1:=⟨Tryz.func120,⟨_,rfl⟩,by kernel_rfl,rfl,rfl,by kernel_rfl⟩
theorem H55:FnOk PR cutsOf Dw8 Tryz.f121 El6 Gq3 1:=⟨Tryz.func121,⟨_,rfl⟩,by kernel_rfl,rfl,rfl,by kernel_rfl⟩
theorem Eh0:FnOk PR cutsOf Ay6 Tryz.f122 Dk2 Eb0 1:=⟨Tryz.func122,⟨_,rfl⟩,by kernel_rfl,rfl,rfl,by kernel_rfl⟩
theorem D33:FnOk PR cutsOf Ar9 Tryz.f123 B90 D17 1:=⟨Tryz.func123,⟨_,rfl⟩,by kernel_rfl,rfl,rfl,by kernel_rfl⟩
theorem G37:FnOk PR cutsOf B36 Tryz.f124 Do3 Eq5 2:=⟨Tryz.func124,⟨_,rfl⟩,by kernel_rfl,rfl,rfl,by kernel_rfl⟩
theorem Hp1:FnOk PR cutsOf Dh9 Tryz.f125 Ea5 Gh1 1:=⟨Tryz.func125,⟨_,rfl⟩,by kernel_rfl,rfl,rfl,by kernel_rfl⟩
theorem Ef4:FnOk PR cutsOf An6 Tryz.f126 A91 B31 3:=⟨Tryz.func126,⟨_,rfl⟩,by kernel_rfl,rfl,rfl,by kernel_rfl⟩
theorem Be7:FnOk PR cutsOf P5 Tryz.f127 Av0 Be6 2:=⟨Tryz.func127,⟨_,rfl⟩,by kernel_rfl,rfl,rfl,by kernel_rfl⟩
theorem Ga3:FnOk PR cutsOf A93 Tryz.f128 Bv3 Dq1 3:=⟨Tryz.func128,⟨_,rfl⟩,by kernel_rfl,rfl,rfl,by kernel_rfl⟩
theorem B10:FnOk PR cutsOf Z8 Tryz.f129 Bg4 Bz6 1:=⟨Tryz.func129,⟨_,rfl⟩,by kernel_rfl,rfl,rfl,by kernel_rfl⟩
theorem Bi4:FnOk PR cutsOf N6 Tryz.f130 Ay3 Bh7 2:=⟨Tryz.func130,⟨_,rfl⟩,by kernel_rfl,rfl,rfl,by kernel_rfl⟩
theorem Bz5:FnOk PR cutsOf Z7 Tryz.f131 Bf6 B16 1:=⟨Tryz.func131,⟨_,rfl⟩,by kernel_rfl,rfl,rfl,by kernel_rfl⟩
theorem Gj2:FnOk PR cutsOf Bl5 Tryz.f132 B80 D73 1:=⟨Tryz.func132,⟨_,rfl⟩,by kernel_rfl,rfl,rfl,by kernel_rfl⟩
theorem Eu5:FnOk PR cutsOf Az0 Tryz.f133 Bk4 Dc7 3:=⟨Tryz.func133,⟨_,rfl⟩,by kernel_rfl,rfl,rfl,by kernel_rfl⟩
theorem Em0:FnOk PR cutsOf A75 Tryz.f134 Dw0 El9 2:=⟨Tryz.func134,⟨_,rfl⟩,by kernel_rfl,rfl,rfl,by kernel_rfl⟩
theorem E89:FnOk PR cutsOf A84 Tryz.f135 Bt3 Dn3 3:=⟨Tryz.func135,⟨_,rfl⟩,by kernel_rfl,rfl,rfl,by kernel_rfl⟩
theorem E08:FnOk PR cutsOf An4 Tryz.f136 Bo2 Dg7 1:=⟨Tryz.func136,⟨_,rfl⟩,by kernel_rfl,rfl,rfl,by kernel_rfl⟩
theorem Eu7:FnOk PR cutsOf Ak3 Tryz.f137 Bj6 Db6 2:=⟨Tryz.func137,⟨_,rfl⟩,by kernel_rfl,rfl,rfl,by kernel_rfl⟩
theorem E79:FnOk PR cutsOf Ba1 Tryz.f138 Bu2 Dn7 2:=⟨Tryz.func138,⟨_,rfl⟩,by kernel_rfl,rfl,rfl,by kernel_rfl⟩
theorem D55:FnOk PR cutsOf Ac3 Tryz.f139 A59 Bx8 5:=⟨Tryz.func139,⟨_,rfl⟩,by kernel_rfl,rfl,rfl,by kernel_rfl⟩
theorem Dy9:FnOk PR cutsOf Aa7 Tryz.f140 A12 Br5 5:=⟨Tryz.func140,⟨_,rfl⟩,by kernel_rfl,rfl,rfl,by kernel_rfl⟩
theorem D68:FnOk PR cutsOf Al5 Tryz.f141 A57 Bx6 7:=⟨Tryz.func141,⟨_,rfl⟩,by kernel_rfl,rfl,rfl,by kernel_rfl⟩
theorem Eu8:FnOk PR cutsOf Ay2 Tryz.f142 Bh9 Da9 7:=⟨Tryz.func142,⟨_,rfl⟩,by kernel_rfl,rfl,rfl,by kernel_rfl⟩
theorem Ek3:FnOk PR cutsOf Au3 Tryz.f144 Be2 B54 2:=⟨Tryz.func144,⟨_,rfl⟩,by kernel_rfl,rfl,rfl,by kernel_rfl⟩
theorem Es1:FnOk PR cutsOf Az9 Tryz.f145 Bh5 Db5 3:=⟨Tryz.func145,⟨_,rfl⟩,by kernel_rfl,rfl,rfl,by kernel_rfl⟩
theorem E04:FnOk PR cutsOf A34 Tryz.f146 Bo5 Dg6 3:=⟨Tryz.func146,⟨_,rfl⟩,by kernel_rfl,rfl,rfl,by kernel_rfl⟩
theorem E07:FnOk PR cutsOf A32 Tryz.f147 Bo4 Dh7 3:=⟨Tryz.func147,⟨_,rfl⟩,by kernel_rfl,rfl,rfl,by kernel_rfl⟩
theorem Eb8:FnOk PR cutsOf Ap2 Tryz.f148 Ba8 Bz4 6:=⟨Tryz.func148,⟨_,rfl⟩,by kernel_rfl,rfl,rfl,by kernel_rfl⟩
theorem E62:FnOk PR cutsOf Ba6 Tryz.f149 Bw4 Dq5 3:=⟨Tryz.func149,⟨_,rfl⟩,by kernel_rfl,rfl,rfl,by kernel_rfl⟩
theorem E71:FnOk PR cutsOf Ai3 Tryz.f150 Bw1 Dp8 2:=⟨Tryz.func150,⟨_,rfl⟩,by kernel_rfl,rfl,rfl,by kernel_rfl⟩
theorem Gv1:FnOk PR cutsOf Af9 Tryz.f151 Dg2 Eh2 3:=⟨Tryz.func151,⟨_,rfl⟩,by kernel_rfl,rfl,rfl,by kernel_rfl⟩
theorem E72:FnOk PR cutsOf A76 Tryz.f152 Bv6 Do9 3:=⟨Tryz.func152,⟨_,rfl⟩,by kernel_rfl,rfl,rfl,by kernel_rfl⟩
theorem D30:FnOk PR cutsOf O6 Tryz.f159 A01 Bq3 2:=⟨Tryz.func159,⟨_,rfl⟩,by kernel_rfl,rfl,rfl,by kernel_rfl⟩
theorem Gw7:FnOk PR cutsOf Am5 Tryz.f160 De1 Eh8 1:=⟨Tryz.func160,⟨_,rfl⟩,by kernel_rfl,rfl,rfl,by kernel_rfl⟩
theorem Gx3:FnOk PR cutsOf Bc5 Tryz.f161 Dg1 Ej5 0:=⟨Tryz.func161,⟨_,rfl⟩,by kernel_rfl,rfl,rfl,by kernel_rfl⟩
theorem B46:FnOk PR cutsOf W3 Tryz.f162 Ag9 A24 2:=⟨Tryz.func162,⟨_,rfl⟩,by kernel_rfl,rfl,rfl,by kernel_rfl⟩
theorem G00:FnOk PR cutsOf Bk5 Tryz.f163 Ds9 Ev1 0:=⟨Tryz.func163,⟨_,rfl⟩,by kernel_rfl,rfl,rfl,by kernel_rfl⟩
theorem B48:FnOk PR cutsOf V8 Tryz.f164 Ag7 A21 2:=⟨Tryz.func164,⟨_,rfl⟩,by kernel_rfl,rfl,rfl,by kernel_rfl⟩
theorem B42:FnOk PR cutsOf V7 Tryz.f165 Ag3 A20 2:=⟨Tryz.func165,⟨_,rfl⟩,by kernel_rfl,rfl,rfl,by kernel_rfl⟩
theorem Du6:FnOk PR cutsOf Q7 Tryz.f166 Av5 Bn4 2:=⟨Tryz.func166,⟨_,rfl⟩,by kernel_rfl,rfl,rfl,by kernel_rfl⟩
theorem B43:FnOk PR cutsOf V9 Tryz.f167 Ag2 A23 2:=⟨Tryz.func167,⟨_,rfl⟩,by kernel_rfl,rfl,rfl,by kernel_rfl⟩
theorem Gw3:FnOk PR cutsOf Bb7 Tryz.f168 Dg5 Ej7 0:=⟨Tryz.func168,⟨_,rfl⟩,by kernel_rfl,rfl,rfl,by kernel_rfl⟩
theorem B49:FnOk PR cutsOf W2 Tryz.f169 Ag5 A22 2:=⟨Tryz.func169,⟨_,rfl⟩,by kernel_rfl,rfl,rfl,by kernel_rfl⟩
theorem Hj0:FnOk PR cutsOf Ar8 Tryz.f171 D05 E42 2:=⟨Tryz.func171,⟨_,rfl⟩,by kernel_rfl,rfl,rfl,by kernel_rfl⟩
theorem Du5:FnOk PR cutsOf Y9 Tryz.f172 Aw0 Bn2 2:=⟨Tryz.func172,⟨_,rfl⟩,by kernel_rfl,rfl,rfl,by kernel_rfl⟩
theorem B44:FnOk PR cutsOf W1 Tryz.f173 Ah0 A25 2:=⟨Tryz.func173,⟨_,rfl⟩,by kernel_rfl,rfl,rfl,by kernel_rfl⟩
theorem D08:FnOk PR cutsOf Aa8 Tryz.f174 B99 D19 1:=⟨Tryz.func174,⟨_,rfl⟩,by kernel_rfl,rfl,rfl,by kernel_rfl⟩
theorem Gm6:FnOk PR cutsOf G9 Tryz.f175 B67 D47 2:=⟨Tryz.func175,⟨_,rfl⟩,by kernel_rfl,rfl,rfl,by kernel_rfl⟩
theorem Av1:FnOk PR cutsOf E9 Tryz.f176 Ae0 Av2 2:=⟨Tryz.func176,⟨_,rfl⟩,by kernel_rfl,rfl,rfl,by kernel_rfl⟩
theorem G57:FnOk PR cutsOf B35 Tryz.f177 Dn8 En4 2:=⟨Tryz.func177,⟨_,rfl⟩,by kernel_rfl,rfl,rfl,by kernel_rfl⟩
theorem Be8:FnOk PR cutsOf P8 Tryz.f178 Au8 Be5 1:=⟨Tryz.func178,⟨_,rfl⟩,by kernel_rfl,rfl,rfl,by kernel_rfl⟩
theorem Gn1:FnOk PR cutsOf A48 Tryz.f179 B59 D57 1:=⟨Tryz.func179,⟨_,rfl⟩,by kernel_rfl,rfl,rfl,by kernel_rfl⟩
theorem Ep4:FnOk PR cutsOf Ak6 Tryz.f180 Bi8 Dc9 1:=⟨Tryz.func180,⟨_,rfl⟩,by kernel_rfl,rfl,rfl,by kernel_rfl⟩
theorem Gc1:FnOk PR cutsOf Af7 Tryz.f181 B25 Dy7 2:=⟨Tryz.func181,⟨_,rfl⟩,by kernel_rfl,rfl,rfl,by kernel_rfl⟩
theorem Ga0:FnOk PR cutsOf At2 Tryz.f182 Bv0 Ds6 3:=⟨Tryz.func182,⟨_,rfl⟩,by kernel_rfl,rfl,rfl,by kernel_rfl⟩
theorem B03:FnOk PR cutsOf Z5 Tryz.f183 Bf7 B22 1:=⟨Tryz.func183,⟨_,rfl⟩,by kernel_rfl,rfl,rfl,by kernel_rfl⟩
theorem Ak1:FnOk PR cutsOf G3 Tryz.f184 Z6 Ak2 1:=⟨Tryz.func184,⟨_,rfl⟩,by kernel_rfl,rfl,rfl,by kernel_rfl⟩
theorem Bt6:FnOk PR cutsOf S4 Tryz.f185 A92 Bv4 1:=⟨Tryz.func185,⟨_,rfl⟩,by kernel_rfl,rfl,rfl,by kernel_rfl⟩
theorem Dz2:FnOk PR cutsOf Aa4 Tryz.f186 A08 Bq8 6:=⟨Tryz.func186,⟨_,rfl⟩,by kernel_rfl,rfl,rfl,by kernel_rfl⟩
theorem Gk2:FnOk PR cutsOf Bl0 Tryz.f187 B70 D76 3:=⟨Tryz.func187,⟨_,rfl⟩,by kernel_rfl,rfl,rfl,by kernel_rfl⟩
theorem Gi5:FnOk PR cutsOf Bg7 Tryz.f188 Bz9 Dx2 3:=⟨Tryz.func188,⟨_,rfl⟩,by kernel_rfl,rfl,rfl,by kernel_rfl⟩
theorem E91:FnOk PR cutsOf At9 Tryz.f189 Bu1 Dq2 3:=⟨Tryz.func189,⟨_,rfl⟩,by kernel_rfl,rfl,rfl,by kernel_rfl⟩
theorem E60:FnOk PR cutsOf Ai9 Tryz.f192 Bt4 Ds7 2:=⟨Tryz.func192,⟨_,rfl⟩,by kernel_rfl,rfl,rfl,by kernel_rfl⟩
theorem Em3:FnOk PR cutsOf Ax0 Tryz.f193 Bk0 Da8 3:=⟨Tryz.func193,⟨_,rfl⟩,by kernel_rfl,rfl,rfl,by kernel_rfl⟩
theorem E80:FnOk PR cutsOf At3 Tryz.f194 Bw2 Dn9 3:=⟨Tryz.func194,⟨_,rfl⟩,by kernel_rfl,rfl,rfl,by kernel_rfl⟩
theorem Z0:FnOk PR cutsOf D3 Tryz.f195 U2 Z3 3:=⟨Tryz.func195,⟨_,rfl⟩,by kernel_rfl,rfl,rfl,by kernel_rfl⟩
theorem Ez8:FnOk PR cutsOf A35 Tryz.f196 Bn9 Dg8 3:=⟨Tryz.func196,⟨_,rfl⟩,by kernel_rfl,rfl,rfl,by kernel_rfl⟩
theorem Gb3:FnOk PR cutsOf A87 Tryz.f197 Bt7 Dt3 2:=⟨Tryz.func197,⟨_,rfl⟩,by kernel_rfl,rfl,rfl,by kernel_rfl⟩
theorem Bu6:FnOk PR cutsOf Y0 Tryz.f198 A90 Bv7 1:=⟨Tryz.func198,⟨_,rfl⟩,by kernel_rfl,rfl,rfl,by kernel_rfl⟩
theorem Br4:FnOk PR cutsOf Q3 Tryz.f201 Aa9 Ar0 2:=⟨Tryz.func201,⟨_,rfl⟩,by kernel_rfl,rfl,rfl,by kernel_rfl⟩
theorem Ge7:FnOk PR cutsOf Af6 Tryz.f202 B18 Dv7 1:=⟨Tryz.func202,⟨_,rfl⟩,by kernel_rfl,rfl,rfl,by kernel_rfl⟩
theorem Ec2:FnOk PR cutsOf Aq1 Tryz.f203 A96 B21 3:=⟨Tryz.func203,⟨_,rfl⟩,by kernel_rfl,rfl,rfl,by kernel_rfl⟩
theorem Hh6:FnOk PR cutsOf Ar2 Tryz.f204 D13 E27 2:=⟨Tryz.func204,⟨_,rfl⟩,by kernel_rfl,rfl,rfl,by kernel_rfl⟩
theorem Hi8:FnOk PR cutsOf Ar1 Tryz.f205 D11 E54 1:=⟨Tryz.func205,⟨_,rfl⟩,by kernel_rfl,rfl,rfl,by kernel_rfl⟩
theorem Bb3:FnOk PR cutsOf G7 Tryz.f206 Am1 Bc9 1:=⟨Tryz.func206,⟨_,rfl⟩,by kernel_rfl,rfl,rfl,by kernel_rfl⟩
theorem Ec4:FnOk PR cutsOf Aq6 Tryz.f207 Ba0 B37 3:=⟨Tryz.func207,⟨_,rfl⟩,by kernel_rfl,rfl,rfl,by kernel_rfl⟩
theorem Hu7:FnOk PR cutsOf Bm4 Tryz.f208 Ef2 Gh7 2:=⟨Tryz.func208,⟨_,rfl⟩,by kernel_rfl,rfl,rfl,by kernel_rfl⟩
theorem Hw1:FnOk PR cutsOf Bl2 Tryz.f209 Ee4 Gd0 1:=⟨Tryz.func209,⟨_,rfl⟩,by kernel_rfl,rfl,rfl,by kernel_rfl⟩
theorem D91:FnOk PR cutsOf Ap0 Tryz.f210 Bb1 B00 3:=⟨Tryz.func210,⟨_,rfl⟩,by kernel_rfl,rfl,rfl,by kernel_rfl⟩
theorem H9:FnOk PR cutsOf O4 Tryz.f211 Bd5 Bq7 2:=⟨Tryz.func211,⟨_,rfl⟩,by kernel_rfl,rfl,rfl,by kernel_rfl⟩
theorem O1:FnOk PR cutsOf Y2 Tryz.f212 Br8 Da2 1:=⟨Tryz.func212,⟨_,rfl⟩,by kernel_rfl,rfl,rfl,by kernel_rfl⟩
theorem M0:FnOk PR cutsOf E1 Tryz.f213 Y4 Aj0 2:=⟨Tryz.func213,⟨_,rfl⟩,by kernel_rfl,rfl,rfl,by kernel_rfl⟩
theorem Aq5:FnOk PR cutsOf I3 Tryz.f214 Ad1 Ao1 2:=⟨Tryz.func214,⟨_,rfl⟩,by kernel_rfl,rfl,rfl,by kernel_rfl⟩
theorem Df5:FnOk PR cutsOf N5 Tryz.f215 Am3 Bc7 2:=⟨Tryz.func215,⟨_,rfl⟩,by kernel_rfl,rfl,rfl,by kernel_rfl⟩
theorem G87:FnOk PR cutsOf Bh2 Tryz.f216 Dq4 Eq8 3:=⟨Tryz.func216,⟨_,rfl⟩,by kernel_rfl,rfl,rfl,by kernel_rfl⟩
theorem Dj4:FnOk PR cutsOf Ad8 Tryz.f217 Ap9 Bh0 2:=⟨Tryz.func217,⟨_,rfl⟩,by kernel_rfl,rfl,rfl,by kernel_rfl⟩
theorem Ds3:FnOk PR cutsOf Af2 Tryz.f220 Au0 Bj0 2:=⟨Tryz.func220,⟨_,rfl⟩,by kernel_rfl,rfl,rfl,by kernel_rfl⟩
theorem Ez7:FnOk PR cutsOf A30 Tryz.f221 Bo7 Dh0 3:=⟨Tryz.func221,⟨_,rfl⟩,by kernel_rfl,rfl,rfl,by kernel_rfl⟩
theorem Af0:FnOk PR cutsOf G2 Tryz.f222 U7 Ae6 2:=⟨Tryz.func222,⟨_,rfl⟩,by kernel_rfl,rfl,rfl,by kernel_rfl⟩
theorem Hu8:FnOk PR cutsOf Dk5 Tryz.f223 Eg1 Gf7 1:=⟨Tryz.func223,⟨_,rfl⟩,by kernel_rfl,rfl,rfl,by kernel_rfl⟩
theorem Am2:FnOk PR cutsOf D6 Tryz.f224 Ab6 Am0 2:=⟨Tryz.func224,⟨_,rfl⟩,by kernel_rfl,rfl,rfl,by kernel_rfl⟩
theorem Hs3:FnOk PR cutsOf Di6 Tryz.f225 Ee6 Gh3 1:=⟨Tryz.func225,⟨_,rfl⟩,by kernel_rfl,rfl,rfl,by kernel_rfl⟩
theorem G45:FnOk PR cutsOf Bi7 Tryz.f226 Dt5 Eo0 3:=⟨Tryz.func226,⟨_,rfl⟩,by kernel_rfl,rfl,rfl,by kernel_rfl⟩
theorem G25:FnOk PR cutsOf B01 Tryz.f227 Dr8 Eq0 2:=⟨Tryz.func227,⟨_,rfl⟩,by kernel_rfl,rfl,rfl,by kernel_rfl⟩
theorem Hc2:FnOk PR cutsOf Ak0 Tryz.f230 Do4 Em7 2:=⟨Tryz.func230,⟨_,rfl⟩,by kernel_rfl,rfl,rfl,by kernel_rfl⟩
theorem Hc4:FnOk PR cutsOf Bh3 Tryz.f231 Dq6 Eo5 1:=⟨Tryz.func231,⟨_,rfl⟩,by kernel_rfl,rfl,rfl,by kernel_rfl⟩
end
end Go.EQ

namespace Go.EQ
open Go Go.NN Go.Proofs
theorem Hy1:type_of% Tryz.underlying4:=Tryz.underlying4
theorem Ig3:type_of% Tryz.underlying5:=Tryz.underlying5
theorem Gr6:type_of% Tryz.underlying29:=Tryz.underlying29
end Go.EQ
