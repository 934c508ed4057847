/- With the last writer gone what is left is read, then the end is told, again and again; with the last reader gone a write is refused, and its signal raised; no conditions. -/
import Derived.Test.YtnmdbfbjdhgmlaaGreatMd
import Derived.KernelRfl
set_option linter.all false
set_option maxRecDepth 100000
namespace Go.EQ
open Go Go.NN Go.Proofs
variable (C : A6) (R : A8)
noncomputable section
def Bx7:Cuts:={ globs:=0,loops:=[(9,[6,7,8,9,10,11,12])],regs:=[],plans:=[] }
def Do1:List Item:=A9 Tryz.f9
def Be9:List Item:=stk [0,1,0,1,0,1,0,1,0,1,0,1,0,1,0,0,1,4,5] Do1
theorem Hb5 (C:A6) (R:A8) (b:Option Addr) (bn bc:Nat) (h:H) :
 B0 PR Bx7 C R Af1 Tryz.f9 100000 true Do1 [(0,.slice b bn bc)] h =
 bnd (C Bz2 [] h) fun r w=>aAgg r fun x=>bnd (C Bi4 [.agg ⟨x⟩] w) fun r_1 w1=>as4 r_1 fun r_2 r_3 r_4 r_5=>aPtr r_2 fun x_1=>aPtr r_3 fun x_2=>aPtr r_4 fun x_3=>aPtr r_5 fun x_4=>bnd (cond x_2.isNone (some (true,w1)) (some (((bn:Nat):Int) != 492,w1))) fun c w2=>cond c
 (some (.tuple ⟨[.pointer none,.pointer none,.pointer none,.pointer none]⟩,w2))
 (nw (.cells Az0 false [.int .i64 0,.int .i64 0,.int .i64 0,.int .i64 0,.int .i64 0,.int .i64 0,.slice none 0 0]) w2 fun b_1 w3=>pAgg ⟨b_1,0,none⟩ [.int .i64 2,.int .i64 256,.int .i64 0,.int .i64 0,.int .i64 0,.int .i64 0,.slice b bn bc] w3 fun w4=>bnd (C Q0 [.agg ⟨[.int .i64 0,.int .i64 0,.int .i64 1,.int .i64 1,.int .u8 0,.int .u8 0,.int .u8 0,.int .u8 0,.int .u8 0,.int .u8 0,.int .u8 0,.int .u8 0,.int .u8 0,.int .u8 0,.int .u8 0,.int .u8 0,.int .u8 0,.int .u8 0,.int .u8 0,.int .u8 0,.int .u8 0,.int .u8 0,.int .u8 0,.int .u8 0,.int .u8 0,.int .u8 0,.int .u8 0,.int .u8 0,.int .u8 0,.int .u8 0,.int .u8 0,.int .u8 0,.int .u8 0,.int .u8 0,.int .u8 0,.int .u8 0]⟩] w4) fun r_6 w5=>aStr r_6 fun x_5=>gAgg ⟨b_1,0,none⟩ 7 w5 fun x_6=>bnd (C S8 [.pointer x_1,.int .i64 0,.agg ⟨x_6⟩] w5) fun r_7 w6=>aAgg r_7 fun _=>gAgg ⟨b_1,0,none⟩ 7 w6 fun x_8=>bnd (C As6 [.pointer x_3,.int .i64 0,.agg ⟨x_8⟩] w6) fun r_8 w7=>as3 r_8 fun r_9 r_10 r_11=>aInt .i64 r_9 fun _=>aInt .i64 r_10 fun _=>aStr r_11 fun _=>R Af1 Be9 [(6,.pointer x_1),(7,.pointer x_2),(8,.pointer x_3),(9,.pointer x_4),(10,.pointer (some ⟨b_1,0,none⟩)),(11,.string x_5),(12,.int .i64 1)] w7):=by kernel_rfl
theorem B03 (C:A6) (R:A8) (k:Option Addr) (c:Option Addr) (wv:Option Addr) (m:Option Addr) (x:Addr) (pipe:ByteArray) (i:Int) (h:H) :
 B0 PR Bx7 C R Af1 Tryz.f9 100000 true Be9 [(6,.pointer k),(7,.pointer c),(8,.pointer wv),(9,.pointer m),(10,.pointer (some x)),(11,.string pipe),(12,.int .i64 i)] h =
 cond (decide (i<3))
 (ck (ByteArray.size pipe≤B4) (nw (.cells A7 false (A5 (ByteArray.data pipe).toList)) h fun b w=>pAgg x [.int .i64 2,.int .i64 (IntKind.wrap .i64 (256+i)),.int .i64 0,.int .i64 0,.int .i64 0,.int .i64 0,.slice (some (L7 b)) (ByteArray.size pipe) (ByteArray.size pipe)] w fun w1=>gAgg x 7 w1 fun x_1=>bnd (C S8 [.pointer k,.int .i64 0,.agg ⟨x_1⟩] w1) fun r w2=>aAgg r fun _=>gAgg x 7 w2 fun x_3=>bnd (C As6 [.pointer wv,.int .i64 0,.agg ⟨x_3⟩] w2) fun r_1 w3=>as3 r_1 fun r_2 r_3 r_4=>aInt .i64 r_2 fun _=>aInt .i64 r_3 fun _=>aStr r_4 fun _=>R Af1 Be9 [(6,.pointer k),(7,.pointer c),(8,.pointer wv),(9,.pointer m),(10,.pointer (some x)),(11,.string pipe),(12,.int .i64 (IntKind.wrap .i64 (i+1)))] w3))
 (some (.tuple ⟨[.pointer k,.pointer c,.pointer wv,.pointer m]⟩,h)):=by kernel_rfl
def D13:Cuts:={ globs:=0,loops:=[],regs:=[],plans:=[] }
def E40:List Item:=A9 Tryz.f18
theorem Hl1 (C:A6) (R:A8) (c:Option Addr) (i:Int) (fd:Int) (h:H) :
 B0 PR D13 C R Ar6 Tryz.f18 100000 true E40 [(0,.pointer c),(1,.int .i64 i),(2,.int .i64 fd)] h =
 nw (.cells L5 false [.int .i64 0,.int .i64 0,.slice none 0 0,.bool false]) h fun b w=>bnd (C Ae4 [.pointer c,.int .i64 i] w) fun r w1=>as2 r fun r_1 r_2=>aAgg r_1 fun x=>aInt .i64 r_2 fun x_1=>nw (.cells D3 false [.int .i64 0,.int .i64 0,.int .i64 0,.int .i64 0,.int .i64 0,.int .i64 0,.int .i64 0,.int .i64 0,.int .i64 0,.int .i64 0,.int .i64 0,.int .i64 0,.int .i64 0,.int .i64 0,.int .i64 0,.int .i64 0]) w1 fun b_1 w2=>ck (List.length x=16) (pAgg ⟨b_1,0,none⟩ x w2 fun w3=>cond (x_1 != 0)
 (bnd (C P9 [.int .i64 x_1] w3) fun r_3 w4=>aAgg r_3 fun x_2=>ck (List.length x_2=4) (pAgg ⟨b,0,none⟩ x_2 w4 fun w5=>gAgg ⟨b,0,none⟩ 4 w5 fun x_3=>some (.agg ⟨x_3⟩,w5)))
 (gAgg ⟨b_1,0,none⟩ 16 w3 fun x_4=>bnd (C Bq7 [.agg ⟨x_4⟩,.int .i64 fd] w3) fun r_4 w6=>aBool r_4 fun x_5=>cond (!x_5)
 (bnd (C P9 [.int .i64 109] w6) fun r_5 w7=>aAgg r_5 fun x_6=>ck (List.length x_6=4) (pAgg ⟨b,0,none⟩ x_6 w7 fun w8=>gAgg ⟨b,0,none⟩ 4 w8 fun x_7=>some (.agg ⟨x_7⟩,w8)))
 (ck ((0:Int)≤fd∧fd<((8:Nat):Int)) (gInt .i64 (Addr.add (Addr.add ⟨b_1,0,none⟩ 8) (Int.toNat fd*1)) w6 fun x_8=>ck ((0:Int)≤fd∧fd<((8:Nat):Int)) (pV (Addr.add (Addr.add ⟨b_1,0,none⟩ 8) (Int.toNat fd*1)) (.int .i64 0) w6 fun w9=>gAgg ⟨b_1,0,none⟩ 16 w9 fun x_9=>bnd (C J9 [.pointer c,.int .i64 i,.agg ⟨x_9⟩] w9) fun r_6 w10=>aBool r_6 fun x_10=>cond (!x_10)
 (bnd (C P9 [.int .i64 105] w10) fun r_7 w11=>aAgg r_7 fun x_11=>ck (List.length x_11=4) (pAgg ⟨b,0,none⟩ x_11 w11 fun w12=>gAgg ⟨b,0,none⟩ 4 w12 fun x_12=>some (.agg ⟨x_12⟩,w12)))
 (bnd (C W6 [.pointer c,.int .i64 (IntKind.wrap .i64 (x_8-1))] w10) fun r_8 w13=>aInt .i64 r_8 fun x_13=>bnd (C P9 [.int .i64 x_13] w13) fun r_9 w14=>aAgg r_9 fun x_14=>ck (List.length x_14=4) (pAgg ⟨b,0,none⟩ x_14 w14 fun w15=>gAgg ⟨b,0,none⟩ 4 w15 fun x_15=>some (.agg ⟨x_15⟩,w15)))))))):=by kernel_rfl
def D88:Cuts:={ globs:=0,loops:=[],regs:=[],plans:=[] }
def Gg9:List Item:=A9 Tryz.f31
theorem Hv6 (C:A6) (R:A8) (e:Int) (h:H) :
 B0 PR D88 C R P9 Tryz.f31 100000 true Gg9 [(0,.int .i64 e)] h =
 nw (.cells L5 false [.int .i64 0,.int .i64 0,.slice none 0 0,.bool false]) h fun b w=>pAgg ⟨b,0,none⟩ [.int .i64 0,.int .i64 e,.slice none 0 0,.bool false] w fun w1=>gAgg ⟨b,0,none⟩ 4 w1 fun x=>some (.agg ⟨x⟩,w1):=by kernel_rfl
def Dz5:Cuts:={ globs:=0,loops:=[],regs:=[],plans:=[] }
def E38:List Item:=A9 Tryz.f32
theorem He1 (C:A6) (R:A8) (p:List Value) (want:Int) (h:H) :
 B0 PR Dz5 C R Br0 Tryz.f32 100000 true E38 [(0,.agg ⟨p⟩),(1,.int .i64 want)] h =
 nw (.cells D3 false p) h fun b w=>bnd (C Y8 [.int .i64 8,.int .i64 want,.func (.func Bb1) ⟨[]⟩ ⟨[.pointer (some ⟨b,0,none⟩)]⟩] w) fun r w1=>aSl r fun x xn xc=>some (.slice x xn xc,w1):=by kernel_rfl
def Dj0:Cuts:={ globs:=0,loops:=[(3,[0,1,2,7,8])],regs:=[],plans:=[] }
def Ec1:List Item:=A9 Tryz.f33
def Bb8:List Item:=stk [0,1,0,1,0,0,1,4,5] Ec1
theorem Ht0 (C:A6) (R:A8) (n:Int) (want:Int) (isv:Value) (h:H) :
 B0 PR Dj0 C R Y8 Tryz.f33 100000 true Ec1 [(0,.int .i64 n),(1,.int .i64 want),(2,isv)] h =
 R Y8 Bb8 [(0,.int .i64 n),(1,.int .i64 want),(2,isv),(7,.slice none 0 0),(8,.int .i64 0)] h:=by kernel_rfl
theorem Dg2 (C:A6) (R:A8) (n:Int) (want:Int) (isv:Value) (out:Option Addr) (outn outc:Nat) (i:Int) (h:H) :
 B0 PR Dj0 C R Y8 Tryz.f33 100000 true Bb8 [(0,.int .i64 n),(1,.int .i64 want),(2,isv),(7,.slice out outn outc),(8,.int .i64 i)] h =
 bnd (cond (decide (i<n)) (some (decide (((outn:Nat):Int)<want),h)) (some (false,h))) fun c w=>cond c
 (aFn isv fun g fi cp=>bnd (C g (fi++([.int .i64 i]++cp)) w) fun r w1=>aBool r fun x=>cond x
 (nw (.cells B7 false [.int .i64 i]) w1 fun b w2=>gCells (some ⟨b,0,none⟩) (1*1) w2 fun cs=>ckB (fitsOpen out B7 w2) (apd B7 1 out outn outc 1 cs w2 fun a an ac w3=>R Y8 Bb8 [(0,.int .i64 n),(1,.int .i64 want),(2,isv),(7,.slice a an ac),(8,.int .i64 (IntKind.wrap .i64 (i+1)))] w3))
 (R Y8 Bb8 [(0,.int .i64 n),(1,.int .i64 want),(2,isv),(7,.slice out outn outc),(8,.int .i64 (IntKind.wrap .i64 (i+1)))] w1))
 (some (.slice out outn outc,w)):=by kernel_rfl
def Dt7:Cuts:={ globs:=0,loops:=[],regs:=[],plans:=[] }
def Em4:List Item:=A9 Tryz.f34
theorem Hb1 (C:A6) (R:A8) (k:Int) (fv0:Addr) (h:H) :
 B0 PR Dt7 C R A69 Tryz.f34 100000 true Em4 [(0,.int .i64 k),(1,.pointer (some fv0))] h =
 gPtr fv0 h fun x=>bnd (C N9 [.pointer x,.int .i64 k] h) fun r w=>as2 r fun r_1 r_2=>aAgg r_1 fun x_1=>aInt .i64 r_2 fun x_2=>nw (.cells D5 false [.int .i64 0,.int .i64 0,.int .i64 0,.int .i64 0]) w fun b w1=>ck (List.length x_1=4) (pAgg ⟨b,0,none⟩ x_1 w1 fun w2=>some (.bool (x_2==0),w2)):=by kernel_rfl
def Ap9:Cuts:={ globs:=0,loops:=[],regs:=[],plans:=[] }
def Bg1:List Item:=A9 Tryz.f38
theorem Dj7 (C:A6) (R:A8) (c:Option Addr) (i:Int) (p:List Value) (h:H) :
 B0 PR Ap9 C R O8 Tryz.f38 100000 true Bg1 [(0,.pointer c),(1,.int .i64 i),(2,.agg ⟨p⟩)] h =
 nw (.cells D1 false p) h fun b w=>gAgg ⟨b,0,none⟩ 36 w fun x=>bnd (C Aw9 [.agg ⟨x⟩] w) fun r w1=>as2 r fun r_1 r_2=>aSl r_1 fun x_1 xn xc=>aBool r_2 fun x_2=>bnd (C As7 [.int .i64 i] w1) fun r_3 w2=>aAgg r_3 fun x_3=>bnd (C I1 [.pointer c,.agg ⟨x_3⟩,.slice x_1 xn xc,.bool x_2] w2) fun r_4 w3=>aBool r_4 fun x_4=>some (.bool x_4,w3):=by kernel_rfl
def Df6:Cuts:={ globs:=0,loops:=[],regs:=[],plans:=[] }
def Eh5:List Item:=A9 Tryz.f46
theorem Gw1 (C:A6) (R:A8) (f:List Value) (h:H) :
 B0 PR Df6 C R Aw7 Tryz.f46 100000 true Eh5 [(0,.agg ⟨f⟩)] h =
 nw (.cells D5 false f) h fun b w=>nw (.cells L5 false [.int .i64 0,.int .i64 0,.slice none 0 0,.bool false]) w fun b_1 w1=>gInt .i64 (Addr.add ⟨b,0,none⟩ 3) w1 fun x=>cond (x==1)
 (bnd (C M0 [.int .i64 111] w1) fun r w2=>aAgg r fun x_1=>ck (List.length x_1=4) (pAgg ⟨b_1,0,none⟩ x_1 w2 fun w3=>gAgg ⟨b_1,0,none⟩ 4 w3 fun x_2=>some (.agg ⟨x_2⟩,w3)))
 (pAgg ⟨b_1,0,none⟩ [.int .i64 0,.int .i64 0,.slice none 0 0,.bool true] w1 fun w4=>gAgg ⟨b_1,0,none⟩ 4 w4 fun x_3=>some (.agg ⟨x_3⟩,w4)):=by kernel_rfl
def Eg5:Cuts:={ globs:=0,loops:=[],regs:=[],plans:=[] }
def Gh9:List Item:=A9 Tryz.f50
theorem Hv7 (C:A6) (R:A8) (c:Option Addr) (f:Int) (x:List Value) (h:H) :
 B0 PR Eg5 C R Dm3 Tryz.f50 100000 true Gh9 [(0,.pointer c),(1,.int .i64 f),(2,.agg ⟨x⟩)] h =
 nw (.cells D5 false x) h fun b w=>gInt .i64 (Addr.add ⟨b,0,none⟩ 2) w fun x_1=>pV (Addr.add ⟨b,0,none⟩ 2) (.int .i64 (IntKind.wrap .i64 (x_1+1))) w fun w1=>gAgg ⟨b,0,none⟩ 4 w1 fun x_2=>bnd (C J7 [.pointer c,.int .i64 f,.agg ⟨x_2⟩] w1) fun r w2=>aBool r fun x_3=>some (.bool x_3,w2):=by kernel_rfl
def Eb2:Cuts:={ globs:=0,loops:=[],regs:=[],plans:=[] }
def Gd5:List Item:=A9 Tryz.f51
theorem Hx1 (C:A6) (R:A8) (c:Option Addr) (i:Int) (fd:Int) (f:Int) (h:H) :
 B0 PR Eb2 C R Dl1 Tryz.f51 100000 true Gd5 [(0,.pointer c),(1,.int .i64 i),(2,.int .i64 fd),(3,.int .i64 f)] h =
 nw (.cells L5 false [.int .i64 0,.int .i64 0,.slice none 0 0,.bool false]) h fun b w=>bnd (C Ae4 [.pointer c,.int .i64 i] w) fun r w1=>as2 r fun r_1 r_2=>aAgg r_1 fun x=>aInt .i64 r_2 fun x_1=>nw (.cells D3 false [.int .i64 0,.int .i64 0,.int .i64 0,.int .i64 0,.int .i64 0,.int .i64 0,.int .i64 0,.int .i64 0,.int .i64 0,.int .i64 0,.int .i64 0,.int .i64 0,.int .i64 0,.int .i64 0,.int .i64 0,.int .i64 0]) w1 fun b_1 w2=>ck (List.length x=16) (pAgg ⟨b_1,0,none⟩ x w2 fun w3=>cond (x_1 != 0)
 (bnd (C P9 [.int .i64 x_1] w3) fun r_3 w4=>aAgg r_3 fun x_2=>ck (List.length x_2=4) (pAgg ⟨b,0,none⟩ x_2 w4 fun w5=>gAgg ⟨b,0,none⟩ 4 w5 fun x_3=>some (.agg ⟨x_3⟩,w5)))
 (ck ((0:Int)≤fd∧fd<((8:Nat):Int)) (pV (Addr.add (Addr.add ⟨b_1,0,none⟩ 8) (Int.toNat fd*1)) (.int .i64 (IntKind.wrap .i64 (f+1))) w3 fun w6=>gAgg ⟨b_1,0,none⟩ 16 w6 fun x_4=>bnd (C J9 [.pointer c,.int .i64 i,.agg ⟨x_4⟩] w6) fun r_4 w7=>aBool r_4 fun x_5=>bnd (C Bz0 [.bool x_5,.int .i64 fd] w7) fun r_5 w8=>aAgg r_5 fun x_6=>ck (List.length x_6=4) (pAgg ⟨b,0,none⟩ x_6 w8 fun w9=>gAgg ⟨b,0,none⟩ 4 w9 fun x_7=>some (.agg ⟨x_7⟩,w9))))):=by kernel_rfl
def S9:Cuts:={ globs:=0,loops:=[(1,[0,5]),(6,[0,12]),(11,[0,20,21])],regs:=[],plans:=[] }
def Ab5:List Item:=A9 Tryz.f59
def Ad3:List Item:=stk [0,0,1,4,5] Ab5
def Ad5:List Item:=stk [0,1,0,0,1,4,5] Ab5
def Ad4:List Item:=stk [0,1,0,1,0,0,1,4,5] Ab5
theorem D15 (C:A6) (R:A8) (c:Option Addr) (h:H) :
 B0 PR S9 C R D2 Tryz.f59 100000 true Ab5 [(0,.pointer c)] h =
 R D2 Ad3 [(0,.pointer c),(5,.int .i64 0)] h:=by kernel_rfl
theorem Bg4 (C:A6) (R:A8) (c:Option Addr) (x5:Int) (h:H) :
 B0 PR S9 C R D2 Tryz.f59 100000 true Ad3 [(0,.pointer c),(5,.int .i64 x5)] h =
 cond (decide (x5<8))
 (bnd (C Ab1 [.pointer c,.int .i64 x5] h) fun r w=>as2 r fun r_1 r_2=>aAgg r_1 fun _=>aInt .i64 r_2 fun _=>R D2 Ad3 [(0,.pointer c),(5,.int .i64 (IntKind.wrap .i64 (x5+1)))] w)
 (R D2 Ad5 [(0,.pointer c),(12,.int .i64 0)] h):=by kernel_rfl
theorem Be7 (C:A6) (R:A8) (c:Option Addr) (x12:Int) (h:H) :
 B0 PR S9 C R D2 Tryz.f59 100000 true Ad5 [(0,.pointer c),(12,.int .i64 x12)] h =
 cond (decide (x12<12))
 (bnd (C N9 [.pointer c,.int .i64 x12] h) fun r w=>as2 r fun r_1 r_2=>aAgg r_1 fun _=>aInt .i64 r_2 fun _=>R D2 Ad5 [(0,.pointer c),(12,.int .i64 (IntKind.wrap .i64 (x12+1)))] w)
 (bnd (C Ab7 [.pointer c,.int .i64 3] h) fun r_3 w1=>aInt .i64 r_3 fun x_2=>R D2 Ad4 [(0,.pointer c),(20,.int .i64 x_2),(21,.int .i64 0)] w1):=by kernel_rfl
theorem Bg2 (C:A6) (R:A8) (c:Option Addr) (x20:Int) (x21:Int) (h:H) :
 B0 PR S9 C R D2 Tryz.f59 100000 true Ad4 [(0,.pointer c),(20,.int .i64 x20),(21,.int .i64 x21)] h =
 cond (decide (x21<x20))
 (bnd (C O4 [.pointer c,.int .i64 x21] h) fun r w=>as2 r fun r_1 r_2=>aAgg r_1 fun _=>aInt .i64 r_2 fun _=>R D2 Ad4 [(0,.pointer c),(20,.int .i64 x20),(21,.int .i64 (IntKind.wrap .i64 (x21+1)))] w)
 (bnd (C S7 [.pointer c] h) fun r_3 w1=>as2 r_3 fun r_4 r_5=>aAgg r_4 fun _=>aInt .i64 r_5 fun _=>bnd (C Ah9 [.pointer c] w1) fun r_6 w2=>as2 r_6 fun r_7 r_8=>aInt .i64 r_7 fun _=>aBool r_8 fun _=>some (.tuple ⟨[]⟩,w2)):=by kernel_rfl
def A03:Cuts:={ globs:=0,loops:=[],regs:=[],plans:=[] }
def Bq1:List Item:=A9 Tryz.f64
theorem D03 (C:A6) (R:A8) (c:Option Addr) (h:H) :
 B0 PR A03 C R S7 Tryz.f64 100000 true Bq1 [(0,.pointer c)] h =
 nw (.cells D1 false [.int .i64 0,.int .i64 0,.int .i64 0,.int .i64 0,.int .u8 0,.int .u8 0,.int .u8 0,.int .u8 0,.int .u8 0,.int .u8 0,.int .u8 0,.int .u8 0,.int .u8 0,.int .u8 0,.int .u8 0,.int .u8 0,.int .u8 0,.int .u8 0,.int .u8 0,.int .u8 0,.int .u8 0,.int .u8 0,.int .u8 0,.int .u8 0,.int .u8 0,.int .u8 0,.int .u8 0,.int .u8 0,.int .u8 0,.int .u8 0,.int .u8 0,.int .u8 0,.int .u8 0,.int .u8 0,.int .u8 0,.int .u8 0]) h fun b w=>bnd (C I5 [.pointer c,.agg ⟨[.int .i64 4,.int .i64 0]⟩,.func (.func Aw6) ⟨[]⟩ ⟨[]⟩] w) fun r w1=>as2 r fun r_1 r_2=>aAgg r_1 fun x=>aInt .i64 r_2 fun x_1=>ck (List.length x=36) (pAgg ⟨b,0,none⟩ x w1 fun w2=>gAgg ⟨b,0,none⟩ 36 w2 fun x_2=>some (.tuple ⟨[.agg ⟨x_2⟩,.int .i64 x_1]⟩,w2)):=by kernel_rfl
def Ao4:Cuts:={ globs:=0,loops:=[],regs:=[],plans:=[] }
def Be8:List Item:=A9 Tryz.f65
theorem Dk1 (C:A6) (R:A8) (c:Option Addr) (p:List Value) (h:H) :
 B0 PR Ao4 C R O9 Tryz.f65 100000 true Be8 [(0,.pointer c),(1,.agg ⟨p⟩)] h =
 nw (.cells D1 false p) h fun b w=>gAgg ⟨b,0,none⟩ 36 w fun x=>bnd (C Aw9 [.agg ⟨x⟩] w) fun r w1=>as2 r fun r_1 r_2=>aSl r_1 fun x_1 xn xc=>aBool r_2 fun x_2=>bnd (C I1 [.pointer c,.agg ⟨[.int .i64 4,.int .i64 0]⟩,.slice x_1 xn xc,.bool x_2] w1) fun r_3 w2=>aBool r_3 fun x_3=>some (.bool x_3,w2):=by kernel_rfl
def A65:Cuts:={ globs:=0,loops:=[(3,[1,2,3,4]),(7,[1,2,3,4,5]),(13,[1,2,3,6])],regs:=[],plans:=[] }
def Bh2:List Item:=A9 Tryz.f68
def Bf3:List Item:=stk [0,1,0,1,0,0,1,4,5] Bh2
def Ax4:List Item:=stk [0,1,0,1,0,0,1,4,5,6,0,1,0,4,0,1,0,0,1,4,5] Bh2
def Bf0:List Item:=stk [0,1,0,1,0,1,0,0,1,4,5] Bh2
theorem G92 (C:A6) (R:A8) (p:List Value) (h:H) :
 B0 PR A65 C R J4 Tryz.f68 100000 true Bh2 [(0,.agg ⟨p⟩)] h =
 nw (.cells Bz8 false p) h fun b w=>nw (.cells E4 false [.slice none 0 0,.slice none 0 0,.slice none 0 0,.int .i64 0,.slice none 0 0]) w fun b_1 w1=>gInt .i64 (Addr.add ⟨b,0,none⟩ 2) w1 fun x=>nw (.cells E4 false [.slice none 0 0,.slice none 0 0,.slice none 0 0,.int .i64 0,.slice none 0 0]) w1 fun b_2 w2=>pAgg ⟨b_2,0,none⟩ [.slice none 0 0,.slice none 0 0,.slice none 0 0,.int .i64 x,.slice none 0 0] w2 fun w3=>R J4 Bf3 [(1,.pointer (some ⟨b,0,none⟩)),(2,.pointer (some ⟨b_1,0,none⟩)),(3,.pointer (some ⟨b_2,0,none⟩)),(4,.int .i64 0)] w3:=by kernel_rfl
theorem Dx0 (C:A6) (R:A8) (p:Addr) (x2:Addr) (b:Addr) (s:Int) (h:H) :
 B0 PR A65 C R J4 Tryz.f68 100000 true Bf3 [(1,.pointer (some p)),(2,.pointer (some x2)),(3,.pointer (some b)),(4,.int .i64 s)] h =
 gSl (Addr.add p 0) h fun _ xn _=>cond (decide (s<((xn:Nat):Int)))
 (gSl (Addr.add b 0) h fun x_1 xn_1 xc_1=>nw (.cells B7 false [.int .i64 20]) h fun b_1 w=>gCells (some ⟨b_1,0,none⟩) (1*1) w fun cs=>ckB (fitsOpen x_1 B7 w) (apd B7 1 x_1 xn_1 xc_1 1 cs w fun a an ac w1=>pV (Addr.add b 0) (.slice a an ac) w1 fun w2=>R J4 Ax4 [(1,.pointer (some p)),(2,.pointer (some x2)),(3,.pointer (some b)),(4,.int .i64 s),(5,.int .i64 0)] w2))
 (R J4 Bf0 [(1,.pointer (some p)),(2,.pointer (some x2)),(3,.pointer (some b)),(6,.int .i64 0)] h):=by kernel_rfl
theorem Dy0 (C:A6) (R:A8) (p:Addr) (x2:Addr) (b:Addr) (s:Int) (i:Int) (h:H) :
 B0 PR A65 C R J4 Tryz.f68 100000 true Ax4 [(1,.pointer (some p)),(2,.pointer (some x2)),(3,.pointer (some b)),(4,.int .i64 s),(5,.int .i64 i)] h =
 cond (decide (i<9))
 (gSl (Addr.add b 1) h fun x xn xc=>nw (.cells B7 false [.int .i64 s]) h fun b_1 w=>gCells (some ⟨b_1,0,none⟩) (1*1) w fun cs=>ckB (fitsOpen x B7 w) (apd B7 1 x xn xc 1 cs w fun a an ac w1=>pV (Addr.add b 1) (.slice a an ac) w1 fun w2=>R J4 Ax4 [(1,.pointer (some p)),(2,.pointer (some x2)),(3,.pointer (some b)),(4,.int .i64 s),(5,.int .i64 (IntKind.wrap .i64 (i+1)))] w2))
 (gSl (Addr.add b 2) h fun x_1 xn_1 xc_1=>nw (.cells B7 false [.int .i64 s]) h fun b_2 w3=>nw (.cells Q6 false [.slice (some ⟨b_2,0,none⟩) 1 1]) w3 fun b_3 w4=>gCells (some ⟨b_3,0,none⟩) (1*1) w4 fun cs_1=>ckB (fitsOpen x_1 Q6 w4) (apd Q6 1 x_1 xn_1 xc_1 1 cs_1 w4 fun a_1 an_1 ac_1 w5=>pV (Addr.add b 2) (.slice a_1 an_1 ac_1) w5 fun w6=>gSl (Addr.add b 4) w6 fun x_2 xn_2 xc_2=>nw (.cells B7 false [.int .i64 s]) w6 fun b_4 w7=>nw (.cells I7 false [.int .i64 s,.int .i64 0,.int .i64 0,.int .i64 492,.slice (some ⟨b_4,0,none⟩) 1 1]) w7 fun b_5 w8=>gCells (some ⟨b_5,0,none⟩) (1*5) w8 fun cs_2=>ckB (fitsOpen x_2 I7 w8) (apd I7 5 x_2 xn_2 xc_2 1 cs_2 w8 fun a_2 an_2 ac_2 w9=>pV (Addr.add b 4) (.slice a_2 an_2 ac_2) w9 fun w10=>R J4 Bf3 [(1,.pointer (some p)),(2,.pointer (some x2)),(3,.pointer (some b)),(4,.int .i64 (IntKind.wrap .i64 (s+1)))] w10))):=by kernel_rfl
theorem Dw2 (C:A6) (R:A8) (p:Addr) (x2:Addr) (b:Addr) (i:Int) (h:H) :
 B0 PR A65 C R J4 Tryz.f68 100000 true Bf0 [(1,.pointer (some p)),(2,.pointer (some x2)),(3,.pointer (some b)),(6,.int .i64 i)] h =
 gSl (Addr.add p 1) h fun _ xn _=>cond (decide (i<((xn:Nat):Int)))
 (gSl (Addr.add p 1) h fun x_1 xn_1 _=>aSome x_1 fun p_1=>ck ((0:Int)≤i∧i<((xn_1:Nat):Int)) (gAgg (Addr.add (B5 p_1) (Int.toNat i*2)) 2 h fun x_2=>nw (.cells B19 false [.int .i64 0,.int .i64 0]) h fun b_1 w=>ck (List.length x_2=2) (pAgg ⟨b_1,0,none⟩ x_2 w fun w1=>gSl (Addr.add b 4) w1 fun x_3 xn_2 xc_2=>gInt .i64 (Addr.add ⟨b_1,0,none⟩ 0) w1 fun x_4=>gInt .i64 (Addr.add ⟨b_1,0,none⟩ 0) w1 fun x_5=>gInt .i64 (Addr.add ⟨b_1,0,none⟩ 1) w1 fun x_6=>nw (.cells B7 false [.int .i64 x_5,.int .i64 x_6]) w1 fun b_2 w2=>nw (.cells I7 false [.int .i64 x_4,.int .i64 (IntKind.wrap .i64 (8+i)),.int .i64 0,.int .i64 40,.slice (some ⟨b_2,0,none⟩) 2 2]) w2 fun b_3 w3=>gCells (some ⟨b_3,0,none⟩) (1*5) w3 fun cs=>ckB (fitsOpen x_3 I7 w3) (apd I7 5 x_3 xn_2 xc_2 1 cs w3 fun a an ac w4=>pV (Addr.add b 4) (.slice a an ac) w4 fun w5=>R J4 Bf0 [(1,.pointer (some p)),(2,.pointer (some x2)),(3,.pointer (some b)),(6,.int .i64 (IntKind.wrap .i64 (i+1)))] w5))))
 (gAgg b 5 h fun x_7=>ck (List.length x_7=5) (pAgg x2 x_7 h fun w6=>gAgg x2 5 w6 fun x_8=>some (.agg ⟨x_8⟩,w6))):=by kernel_rfl
def Bn8:Cuts:={ globs:=0,loops:=[],regs:=[],plans:=[(4,⟨[0,1,2,3,4,5,6,7,8,9,10,11,12,13,14,15,16],[0,1,3,7,0,0,32,0,128,0,512,2047,4095,8191,8191,16383,65535],[],[]⟩),(6,⟨[0,1,2,3,4,5,6,7,8,9,10,11,12],[0,1,3,7,0,0,32,0,128,0,512,2047,4095],[],[]⟩),(8,⟨[0,1,2,3,4,5,6,7,8,9,10,11,12,13,14,15,16],[0,1,3,7,0,0,32,0,128,0,512,0,2048,0,8192,32767,65535],[],[]⟩)] }
def Dg4:List Item:=A9 Tryz.f74
theorem E00 (C:A6) (R:A8) (k:Option Addr) (env:Int) (c:List Value) (h:H) :
 B0 PR Bn8 C R A28 Tryz.f74 100000 true Dg4 [(0,.pointer k),(1,.int .i64 env),(2,.agg ⟨c⟩)] h =
 nw (.cells Az0 false c) h fun b w=>gInt .i64 (Addr.add ⟨b,0,none⟩ 0) w fun x=>cond (x==1)
 (aSome k fun p=>gPtr (Addr.add p 5) w fun x_1=>gInt .i64 (Addr.add ⟨b,0,none⟩ 1) w fun x_2=>gInt .i64 (Addr.add ⟨b,0,none⟩ 2) w fun x_3=>gInt .i64 (Addr.add ⟨b,0,none⟩ 3) w fun x_4=>bnd (C Ad0 [.pointer x_1,.int .i64 env,.int .i64 x_2,.int .i64 x_3,.int .i64 x_4] w) fun r w1=>as2 r fun r_1 r_2=>aSl r_1 fun x_5 xn xc=>aInt .i64 r_2 fun x_6=>some (.tuple ⟨[.slice x_5 xn xc,.int .i64 x_6,.bool true]⟩,w1))
 (cond (x==2)
 (aSome k fun p_1=>gPtr (Addr.add p_1 5) w fun x_7=>gInt .i64 (Addr.add ⟨b,0,none⟩ 1) w fun x_8=>gInt .i64 (Addr.add ⟨b,0,none⟩ 2) w fun x_9=>gSl (Addr.add ⟨b,0,none⟩ 6) w fun x_10 xn_1 xc_1=>bnd (C Ab3 [.pointer x_7,.int .i64 env,.int .i64 x_8,.int .i64 x_9,.slice x_10 xn_1 xc_1] w) fun r_3 w2=>aInt .i64 r_3 fun x_11=>some (.tuple ⟨[.slice none 0 0,.int .i64 x_11,.bool true]⟩,w2))
 (cond (x==3)
 (aSome k fun p_2=>gPtr (Addr.add p_2 5) w fun x_12=>gInt .i64 (Addr.add ⟨b,0,none⟩ 1) w fun x_13=>gInt .i64 (Addr.add ⟨b,0,none⟩ 2) w fun x_14=>gInt .i64 (Addr.add ⟨b,0,none⟩ 4) w fun x_15=>gInt .i64 (Addr.add ⟨b,0,none⟩ 5) w fun x_16=>gInt .i64 (Addr.add ⟨b,0,none⟩ 3) w fun x_17=>bnd (C Al5 [.pointer x_12,.int .i64 env,.int .i64 x_13,.int .i64 x_14,.int .i64 x_15,.int .i64 x_16,.int .i64 x_17] w) fun r_4 w3=>aInt .i64 r_4 fun x_18=>some (.tuple ⟨[.slice none 0 0,.int .i64 x_18,.bool true]⟩,w3))
 (some (.tuple ⟨[.slice none 0 0,.int .i64 0,.bool false]⟩,w)))):=by kernel_rfl
def De3:Cuts:={ globs:=0,loops:=[],regs:=[],plans:=[(1,⟨[1,0,2,3,4,5,6],[0,0,3,7,7,31,63],[(0,[1])],[]⟩)] }
def Ej8:List Item:=A9 Tryz.f95
theorem Gw0 (C:A6) (R:A8) (p:List Value) (h:H) :
 B0 PR De3 C R Aw9 Tryz.f95 100000 true Ej8 [(0,.agg ⟨p⟩)] h =
 nw (.cells D1 false p) h fun b w=>gAgg ⟨b,0,none⟩ 36 w fun x=>bnd (C Bj5 [] w) fun r w1=>aPtr r fun x_1=>gAgg ⟨b,0,none⟩ 36 w1 fun x_2=>same (.agg ⟨x⟩) (.agg ⟨x_2⟩) (bnd (C V8 [.pointer x_1,.agg ⟨x⟩] w1) fun r_1 w2=>as2 r_1 fun r_2 r_3=>aSl r_2 fun x_3 xn xc=>aBool r_3 fun x_4=>some (.tuple ⟨[.slice x_3 xn xc,.bool x_4]⟩,w2)):=by kernel_rfl
def Bp5:Cuts:={ globs:=0,loops:=[],regs:=[(6,[2,4,6]),(8,[2,4,6])],plans:=[] }
def B89:List Item:=A9 Tryz.f101
def B62:List Item:=stk [0,1,0,1,0,1,0,1,0,0] B89
def B60:List Item:=stk [0,1,0,1,0,1,0,1,0,1,0,0] B89
theorem Hi3 (C:A6) (R:A8) (p:List Value) (n:Int) (h:H) :
 B0 PR Bp5 C R Ae5 Tryz.f101 100000 true B89 [(0,.agg ⟨p⟩),(1,.int .i64 n)] h =
 nw (.cells D3 false p) h fun b w=>nw (.cells D3 false [.int .i64 0,.int .i64 0,.int .i64 0,.int .i64 0,.int .i64 0,.int .i64 0,.int .i64 0,.int .i64 0,.int .i64 0,.int .i64 0,.int .i64 0,.int .i64 0,.int .i64 0,.int .i64 0,.int .i64 0,.int .i64 0]) w fun b_1 w1=>bnd (C Eb0 [.int .i64 n] w1) fun r w2=>aBool r fun x=>bnd (cond (!x) (some (true,w2)) (gInt .i64 (Addr.add ⟨b,0,none⟩ 0) w2 fun x_1=>bnd (cond (x_1 != 1) (gInt .i64 (Addr.add ⟨b,0,none⟩ 0) w2 fun x_2=>some (x_2 != 3,w2)) (some (false,w2))) fun c w3=>some (c,w3))) fun c_1 w4=>cond c_1
 (gAgg ⟨b,0,none⟩ 16 w4 fun x_3=>ck (List.length x_3=16) (pAgg ⟨b_1,0,none⟩ x_3 w4 fun w5=>gAgg ⟨b_1,0,none⟩ 16 w5 fun x_4=>some (.tuple ⟨[.agg ⟨x_4⟩,.bool false]⟩,w5)))
 (ck ((0:Int)≤(IntKind.wrap .u64 (n))) (gInt .i64 (Addr.add ⟨b,0,none⟩ 6) w4 fun x_5=>bnd (cond ((P3 .i64 x_5 (IntKind.wrap .i64 (1*2 ^ (min (Int.toNat (IntKind.wrap .u64 (n))) 64))))==0) (some (true,w4)) (some ((P3 .i64 (IntKind.wrap .i64 (1*2 ^ (min (Int.toNat (IntKind.wrap .u64 (n))) 64))) 16896) != 0,w4))) fun c_2 w6=>cond c_2
 (gInt .i64 (Addr.add ⟨b,0,none⟩ 4) w6 fun x_6=>pV (Addr.add ⟨b,0,none⟩ 4) (.int .i64 (Go5 .i64 x_6 (IntKind.wrap .i64 (1*2 ^ (min (Int.toNat (IntKind.wrap .u64 (n))) 64))))) w6 fun w7=>R Ae5 B62 [(2,.pointer (some ⟨b,0,none⟩)),(4,.pointer (some ⟨b_1,0,none⟩)),(6,.int .i64 (IntKind.wrap .i64 (1*2 ^ (min (Int.toNat (IntKind.wrap .u64 (n))) 64))))] w7)
 (R Ae5 B62 [(2,.pointer (some ⟨b,0,none⟩)),(4,.pointer (some ⟨b_1,0,none⟩)),(6,.int .i64 (IntKind.wrap .i64 (1*2 ^ (min (Int.toNat (IntKind.wrap .u64 (n))) 64))))] w6))):=by kernel_rfl
theorem Gi6 (C:A6) (R:A8) (p:Addr) (x4:Addr) (b:Int) (h:H) :
 B0 PR Bp5 C R Ae5 Tryz.f101 100000 true B62 [(2,.pointer (some p)),(4,.pointer (some x4)),(6,.int .i64 b)] h =
 bnd (cond (b==512) (some (true,h)) (some (b==32768,h))) fun c w=>bnd (cond c (gInt .i64 (Addr.add p 0) w fun x=>some (x==3,w)) (some (false,w))) fun c_1 w1=>cond c_1
 (pV (Addr.add p 0) (.int .i64 1) w1 fun w2=>R Ae5 B60 [(2,.pointer (some p)),(4,.pointer (some x4)),(6,.int .i64 b)] w2)
 (R Ae5 B60 [(2,.pointer (some p)),(4,.pointer (some x4)),(6,.int .i64 b)] w1):=by kernel_rfl
theorem Gk9 (C:A6) (R:A8) (p:Addr) (x4:Addr) (b:Int) (h:H) :
 B0 PR Bp5 C R Ae5 Tryz.f101 100000 true B60 [(2,.pointer (some p)),(4,.pointer (some x4)),(6,.int .i64 b)] h =
 cond (b==32768)
 (gInt .i64 (Addr.add p 4) h fun x=>pV (Addr.add p 4) (.int .i64 (D10 .i64 x 16384)) h fun w=>gAgg p 16 w fun x_1=>ck (List.length x_1=16) (pAgg x4 x_1 w fun w1=>gAgg x4 16 w1 fun x_2=>some (.tuple ⟨[.agg ⟨x_2⟩,.bool true]⟩,w1)))
 (cond (b==16384)
 (gInt .i64 (Addr.add p 4) h fun x_3=>pV (Addr.add p 4) (.int .i64 (D10 .i64 x_3 32768)) h fun w2=>gAgg p 16 w2 fun x_4=>ck (List.length x_4=16) (pAgg x4 x_4 w2 fun w3=>gAgg x4 16 w3 fun x_5=>some (.tuple ⟨[.agg ⟨x_5⟩,.bool true]⟩,w3)))
 (gAgg p 16 h fun x_6=>ck (List.length x_6=16) (pAgg x4 x_6 h fun w4=>gAgg x4 16 w4 fun x_7=>some (.tuple ⟨[.agg ⟨x_7⟩,.bool true]⟩,w4)))):=by kernel_rfl
def Eq0:Cuts:={ globs:=0,loops:=[],regs:=[],plans:=[] }
def Gr3:List Item:=A9 Tryz.f102
theorem Hy6 (C:A6) (R:A8) (p:List Value) (h:H) :
 B0 PR Eq0 C R Bx1 Tryz.f102 100000 true Gr3 [(0,.agg ⟨p⟩)] h =
 nw (.cells D1 false p) h fun b w=>gInt .i64 (Addr.add ⟨b,0,none⟩ 0) w fun x=>bnd (C As2 [.int .i64 x,.int .i64 31] w) fun r w1=>aBool r fun x_1=>bnd (cond x_1 (gInt .i64 (Addr.add ⟨b,0,none⟩ 1) w1 fun x_2=>bnd (C As2 [.int .i64 x_2,.int .i64 32] w1) fun r_1 w2=>aBool r_1 fun x_3=>some (x_3,w2)) (some (false,w1))) fun c w3=>bnd (cond c (gInt .i64 (Addr.add ⟨b,0,none⟩ 2) w3 fun x_4=>bnd (C As2 [.int .i64 x_4,.int .i64 8] w3) fun r_2 w4=>aBool r_2 fun x_5=>some (x_5,w4)) (some (false,w3))) fun c_1 w5=>bnd (cond c_1 (gInt .i64 (Addr.add ⟨b,0,none⟩ 3) w5 fun x_6=>bnd (C As2 [.int .i64 x_6,.int .i64 8] w5) fun r_3 w6=>aBool r_3 fun x_7=>some (x_7,w6)) (some (false,w5))) fun c_2 w7=>some (.bool c_2,w7):=by kernel_rfl
def B09:Cuts:={ globs:=0,loops:=[(5,[1,3,9,10])],regs:=[],plans:=[] }
def Dn4:List Item:=A9 Tryz.f104
def Bg6:List Item:=stk [0,1,0,1,0,1,0,0,1,4,5] Dn4
theorem G77 (C:A6) (R:A8) (p:List Value) (h:H) :
 B0 PR B09 C R Ak9 Tryz.f104 100000 true Dn4 [(0,.agg ⟨p⟩)] h =
 nw (.cells D1 false p) h fun b w=>gAgg ⟨b,0,none⟩ 36 w fun x=>bnd (C Bx1 [.agg ⟨x⟩] w) fun r w1=>aBool r fun x_1=>cond (!x_1)
 (some (.slice none 0 0,w1))
 (gInt .i64 (Addr.add ⟨b,0,none⟩ 1) w1 fun x_2=>R Ak9 Bg6 [(1,.pointer (some ⟨b,0,none⟩)),(3,.slice none 0 0),(9,.int .i64 x_2),(10,.int .i64 0)] w1):=by kernel_rfl
theorem Dx3 (C:A6) (R:A8) (p:Addr) (out:Option Addr) (outn outc:Nat) (x9:Int) (x10:Int) (h:H) :
 B0 PR B09 C R Ak9 Tryz.f104 100000 true Bg6 [(1,.pointer (some p)),(3,.slice out outn outc),(9,.int .i64 x9),(10,.int .i64 x10)] h =
 cond (decide (x10<x9))
 (gInt .i64 (Addr.add p 0) h fun x=>ck ((0:Int)≤Int.tmod (IntKind.wrap .i64 (x+x10)) 32∧Int.tmod (IntKind.wrap .i64 (x+x10)) 32<((32:Nat):Int)) (gInt .u8 (Addr.add (Addr.add p 4) (Int.toNat (Int.tmod (IntKind.wrap .i64 (x+x10)) 32)*1)) h fun x_1=>nw (.cells A7 false [.int .u8 x_1]) h fun b w=>gCells (some ⟨b,0,none⟩) (1*1) w fun cs=>ckB (fitsOpen out A7 w) (apd A7 1 out outn outc 1 cs w fun a an ac w1=>R Ak9 Bg6 [(1,.pointer (some p)),(3,.slice a an ac),(9,.int .i64 x9),(10,.int .i64 (IntKind.wrap .i64 (x10+1)))] w1)))
 (some (.slice out outn outc,h)):=by kernel_rfl
def Ae6:Cuts:={ globs:=0,loops:=[(2,[0,1,7,8])],regs:=[],plans:=[] }
def As8:List Item:=A9 Tryz.f106
def Aa6:List Item:=stk [0,1,0,0,1,4,5] As8
theorem Ds4 (C:A6) (R:A8) (s:Option Addr) (sn sc:Nat) (v:Int) (h:H) :
 B0 PR Ae6 C R H6 Tryz.f106 100000 true As8 [(0,.slice s sn sc),(1,.int .i64 v)] h =
 R H6 Aa6 [(0,.slice s sn sc),(1,.int .i64 v),(7,.int .i64 ((sn:Nat):Int)),(8,.int .i64 0)] h:=by kernel_rfl
theorem A76 (C:A6) (R:A8) (s:Option Addr) (sn sc:Nat) (v:Int) (x7:Int) (x8:Int) (h:H) :
 B0 PR Ae6 C R H6 Tryz.f106 100000 true Aa6 [(0,.slice s sn sc),(1,.int .i64 v),(7,.int .i64 x7),(8,.int .i64 x8)] h =
 cond (decide (x8<x7))
 (aSome s fun p=>ck ((0:Int)≤x8∧x8<((sn:Nat):Int)) (gInt .i64 (Addr.add (B5 p) (Int.toNat x8*1)) h fun x=>cond (v==x)
 (some (.int .i64 x8,h))
 (R H6 Aa6 [(0,.slice s sn sc),(1,.int .i64 v),(7,.int .i64 x7),(8,.int .i64 (IntKind.wrap .i64 (x8+1)))] h)))
 (some (.int .i64 (-1),h)):=by kernel_rfl
def Bh1:Cuts:={ globs:=0,loops:=[(7,[1,3,52,53,54]),(13,[1,3,63,64,65])],regs:=[],plans:=[] }
def B14:List Item:=A9 Tryz.f118
def Bf1:List Item:=stk [0,1,0,1,0,1,0,1,0,0,1,4,5] B14
def Bf8:List Item:=stk [0,1,0,1,0,1,0,1,0,1,0,0,1,4,5] B14
theorem G07 (C:A6) (R:A8) (c:List Value) (h:H) :
 B0 PR Bh1 C R S5 Tryz.f118 100000 true B14 [(0,.agg ⟨c⟩)] h =
 nw (.cells E4 false c) h fun b w=>gSl (Addr.add ⟨b,0,none⟩ 0) w fun _ xn _=>bnd (cond (decide (((xn:Nat):Int)<1)) (some (true,w)) (gSl (Addr.add ⟨b,0,none⟩ 0) w fun _ xn_1 _=>some (decide (((xn_1:Nat):Int)>4),w))) fun c_1 w1=>bnd (cond c_1 (some (true,w1)) (gSl (Addr.add ⟨b,0,none⟩ 1) w1 fun _ xn_2 _=>some (decide (((xn_2:Nat):Int)>40),w1))) fun c_2 w2=>bnd (cond c_2 (some (true,w2)) (gSl (Addr.add ⟨b,0,none⟩ 2) w2 fun _ xn_3 _=>some (decide (((xn_3:Nat):Int)>8),w2))) fun c_3 w3=>bnd (cond c_3 (some (true,w3)) (gSl (Addr.add ⟨b,0,none⟩ 4) w3 fun _ xn_4 _=>some (decide (((xn_4:Nat):Int)>16),w3))) fun c_4 w4=>bnd (cond c_4 (some (true,w4)) (gInt .i64 (Addr.add ⟨b,0,none⟩ 3) w4 fun x_5=>some (decide (x_5<1),w4))) fun c_5 w5=>bnd (cond c_5 (some (true,w5)) (gInt .i64 (Addr.add ⟨b,0,none⟩ 3) w5 fun x_6=>some (decide (x_6>1000),w5))) fun c_6 w6=>cond c_6
 (some (.bool false,w6))
 (gSl (Addr.add ⟨b,0,none⟩ 1) w6 fun x_7 xn_5 xc_5=>bnd (C E8 [.slice x_7 xn_5 xc_5,.func (.func G9) ⟨[]⟩ ⟨[.pointer (some ⟨b,0,none⟩)]⟩] w6) fun r w7=>aBool r fun x_8=>cond x_8
 (some (.bool false,w7))
 (gSl (Addr.add ⟨b,0,none⟩ 2) w7 fun x_9 xn_6 xc_6=>R S5 Bf1 [(1,.pointer (some ⟨b,0,none⟩)),(3,.func (.func G9) ⟨[]⟩ ⟨[.pointer (some ⟨b,0,none⟩)]⟩),(52,.slice x_9 xn_6 xc_6),(53,.int .i64 ((xn_6:Nat):Int)),(54,.int .i64 0)] w7)):=by kernel_rfl
theorem Dw9 (C:A6) (R:A8) (c:Addr) (nonev:Addr) (x52:Option Addr) (x52n x52c:Nat) (x53:Int) (x54:Int) (h:H) :
 B0 PR Bh1 C R S5 Tryz.f118 100000 true Bf1 [(1,.pointer (some c)),(3,.func (.func G9) ⟨[]⟩ ⟨[.pointer (some nonev)]⟩),(52,.slice x52 x52n x52c),(53,.int .i64 x53),(54,.int .i64 x54)] h =
 cond (decide (x54<x53))
 (aSome x52 fun p=>ck ((0:Int)≤x54∧x54<((x52n:Nat):Int)) (gSl (Addr.add (B5 p) (Int.toNat x54*1)) h fun x xn xc=>bnd (C E8 [.slice x xn xc,.func (.func G9) ⟨[]⟩ ⟨[.pointer (some nonev)]⟩] h) fun r w=>aBool r fun x_1=>cond x_1
 (some (.bool false,w))
 (R S5 Bf1 [(1,.pointer (some c)),(3,.func (.func G9) ⟨[]⟩ ⟨[.pointer (some nonev)]⟩),(52,.slice x52 x52n x52c),(53,.int .i64 x53),(54,.int .i64 (IntKind.wrap .i64 (x54+1)))] w)))
 (gSl (Addr.add c 4) h fun x_2 xn_1 xc_1=>R S5 Bf8 [(1,.pointer (some c)),(3,.func (.func G9) ⟨[]⟩ ⟨[.pointer (some nonev)]⟩),(63,.slice x_2 xn_1 xc_1),(64,.int .i64 ((xn_1:Nat):Int)),(65,.int .i64 0)] h):=by kernel_rfl
theorem Dx9 (C:A6) (R:A8) (c:Addr) (nonev:Addr) (x63:Option Addr) (x63n x63c:Nat) (x64:Int) (x65:Int) (h:H) :
 B0 PR Bh1 C R S5 Tryz.f118 100000 true Bf8 [(1,.pointer (some c)),(3,.func (.func G9) ⟨[]⟩ ⟨[.pointer (some nonev)]⟩),(63,.slice x63 x63n x63c),(64,.int .i64 x64),(65,.int .i64 x65)] h =
 cond (decide (x65<x64))
 (aSome x63 fun p=>ck ((0:Int)≤x65∧x65<((x63n:Nat):Int)) (gAgg (Addr.add (B5 p) (Int.toNat x65*5)) 5 h fun x=>nw (.cells I7 false [.int .i64 0,.int .i64 0,.int .i64 0,.int .i64 0,.slice none 0 0]) h fun b w=>ck (List.length x=5) (pAgg ⟨b,0,none⟩ x w fun w1=>gAgg c 5 w1 fun x_1=>gAgg ⟨b,0,none⟩ 5 w1 fun x_2=>bnd (C B25 [.agg ⟨x_1⟩,.agg ⟨x_2⟩] w1) fun r w2=>aBool r fun x_3=>bnd (cond (!x_3) (some (true,w2)) (gSl (Addr.add ⟨b,0,none⟩ 4) w2 fun x_4 xn xc=>bnd (C E8 [.slice x_4 xn xc,.func (.func G9) ⟨[]⟩ ⟨[.pointer (some nonev)]⟩] w2) fun r_1 w3=>aBool r_1 fun x_5=>some (x_5,w3))) fun c_1 w4=>cond c_1
 (some (.bool false,w4))
 (R S5 Bf8 [(1,.pointer (some c)),(3,.func (.func G9) ⟨[]⟩ ⟨[.pointer (some nonev)]⟩),(63,.slice x63 x63n x63c),(64,.int .i64 x64),(65,.int .i64 (IntKind.wrap .i64 (x65+1)))] w4))))
 (some (.bool true,h)):=by kernel_rfl
def Au5:Cuts:={ globs:=0,loops:=[],regs:=[],plans:=[] }
def Bj2:List Item:=A9 Tryz.f120
theorem Dq4 (C:A6) (R:A8) (s:Option Addr) (sn sc:Nat) (h:H) :
 B0 PR Au5 C R W9 Tryz.f120 100000 true Bj2 [(0,.slice s sn sc)] h =
 cond s.isNone
 (some (.slice none 0 0,h))
 (nw (.cells B7 false []) h fun b w=>gCells s (sn*1) w fun cs=>ckB (fitsOpen (some ⟨b,0,none⟩) B7 w) (apd B7 1 (some ⟨b,0,none⟩) 0 0 sn cs w fun a an ac w1=>some (.slice a an ac,w1))):=by kernel_rfl
def B99:Cuts:={ globs:=0,loops:=[(3,[3,12,13,14])],regs:=[],plans:=[(5,⟨[0,1,2,3,4,5,6,7,8,9,10,11,12,13],[0,0,2,6,14,0,32,96,224,480,1022,2047,4095,8191],[],[]⟩)] }
def D02:List Item:=A9 Tryz.f123
def Bl3:List Item:=stk [0,1,0,1,0,0,1,4,5] D02
theorem Hh4 (C:A6) (R:A8) (frames:Option Addr) (framesn framesc:Nat) (h:H) :
 B0 PR B99 C R Ar8 Tryz.f123 100000 true D02 [(0,.slice frames framesn framesc)] h =
 nw (.cells Ax2 false [.slice none 0 0]) h fun b w=>ckB (fitsOpen frames B7 w) (ck ((0:Int)≤mm2 false ((framesn:Nat):Int) 4∧mm2 false ((framesn:Nat):Int) 4≤((framesc:Nat):Int)) (R Ar8 Bl3 [(3,.pointer (some ⟨b,0,none⟩)),(12,.slice (H5 frames (decide (0<framesc)) (0*1)) ((Int.toNat (mm2 false ((framesn:Nat):Int) 4))-0) (framesc-0)),(13,.int .i64 (((Int.toNat (mm2 false ((framesn:Nat):Int) 4))-0:Nat):Int)),(14,.int .i64 0)] w)):=by kernel_rfl
theorem D57 (C:A6) (R:A8) (q:Addr) (x12:Option Addr) (x12n x12c:Nat) (x13:Int) (x14:Int) (h:H) :
 B0 PR B99 C R Ar8 Tryz.f123 100000 true Bl3 [(3,.pointer (some q)),(12,.slice x12 x12n x12c),(13,.int .i64 x13),(14,.int .i64 x14)] h =
 cond (decide (x14<x13))
 (aSome x12 fun p=>ck ((0:Int)≤x14∧x14<((x12n:Nat):Int)) (gInt .i64 (Addr.add (B5 p) (Int.toNat x14*1)) h fun x=>gSl (Addr.add q 0) h fun x_1 xn xc=>ck ((0:Int)≤mm2 false (mm2 true x 0) 64∧(mm2 false (mm2 true x 0) 64:Int)≤mm2 false (mm2 true x 0) 64∧mm2 false (mm2 true x 0) 64≤(B4:Int)) (nw (.cells B7 false (H4 (Int.toNat (mm2 false (mm2 true x 0) 64)) [.int .i64 0])) h fun b w=>nw (.cells Q6 false [.slice (some ⟨b,0,none⟩) (Int.toNat (mm2 false (mm2 true x 0) 64)) (Int.toNat (mm2 false (mm2 true x 0) 64))]) w fun b_1 w1=>gCells (some ⟨b_1,0,none⟩) (1*1) w1 fun cs=>ckB (fitsOpen x_1 Q6 w1) (apd Q6 1 x_1 xn xc 1 cs w1 fun a an ac w2=>pV (Addr.add q 0) (.slice a an ac) w2 fun w3=>R Ar8 Bl3 [(3,.pointer (some q)),(12,.slice x12 x12n x12c),(13,.int .i64 x13),(14,.int .i64 (IntKind.wrap .i64 (x14+1)))] w3))))
 (some (.pointer (some q),h)):=by kernel_rfl
def Dt2:Cuts:={ globs:=0,loops:=[],regs:=[],plans:=[] }
def Er8:List Item:=A9 Tryz.f124
theorem G41 (C:A6) (R:A8) (m:Option Addr) (s:Option Addr) (h:H) :
 B0 PR Dt2 C R B17 Tryz.f124 100000 true Er8 [(0,.pointer m),(1,.pointer s)] h =
 nw (.cells Ds9 false [.pointer m,.pointer s,.slice none 0 0]) h fun b w=>some (.pointer (some ⟨b,0,none⟩),w):=by kernel_rfl
def Bf7:Cuts:={ globs:=0,loops:=[(3,[0,3,4])],regs:=[],plans:=[(5,⟨[0,1,2,3,4,5,6,7,8,9,10,11,12,13,14,15,16],[0,0,2,6,14,0,0,96,224,480,992,2016,4064,8190,16383,32767,65535],[],[]⟩)] }
def Bx5:List Item:=A9 Tryz.f129
def Ay2:List Item:=stk [0,1,0,1,0,0,1,4,5] Bx5
theorem Gc3 (C:A6) (R:A8) (l:Option Addr) (ln lc:Nat) (h:H) :
 B0 PR Bf7 C R Aa5 Tryz.f129 100000 true Bx5 [(0,.slice l ln lc)] h =
 nw (.cells El3 false [.slice none 0 0]) h fun b w=>R Aa5 Ay2 [(0,.slice l ln lc),(3,.pointer (some ⟨b,0,none⟩)),(4,.int .i64 0)] w:=by kernel_rfl
theorem Da8 (C:A6) (R:A8) (l:Option Addr) (ln lc:Nat) (q:Addr) (i:Int) (h:H) :
 B0 PR Bf7 C R Aa5 Tryz.f129 100000 true Ay2 [(0,.slice l ln lc),(3,.pointer (some q)),(4,.int .i64 i)] h =
 bnd (cond (decide (i<((ln:Nat):Int))) (some (decide (i<4),h)) (some (false,h))) fun c w=>cond c
 (gSl (Addr.add q 0) w fun x xn xc=>aSome l fun p=>ck ((0:Int)≤i∧i<((ln:Nat):Int)) (gInt .i64 (Addr.add (B5 p) (Int.toNat i*1)) w fun x_1=>ck ((0:Int)≤mm2 false (mm2 true x_1 0) 64∧(mm2 false (mm2 true x_1 0) 64:Int)≤mm2 false (mm2 true x_1 0) 64∧mm2 false (mm2 true x_1 0) 64≤(B4:Int)) (nw (.cells D63 false (H4 (Int.toNat (mm2 false (mm2 true x_1 0) 64)) [.bool false])) w fun b w1=>nw (.cells Dr7 false [.slice (some ⟨b,0,none⟩) (Int.toNat (mm2 false (mm2 true x_1 0) 64)) (Int.toNat (mm2 false (mm2 true x_1 0) 64))]) w1 fun b_1 w2=>gCells (some ⟨b_1,0,none⟩) (1*1) w2 fun cs=>ckB (fitsOpen x Dr7 w2) (apd Dr7 1 x xn xc 1 cs w2 fun a an ac w3=>pV (Addr.add q 0) (.slice a an ac) w3 fun w4=>R Aa5 Ay2 [(0,.slice l ln lc),(3,.pointer (some q)),(4,.int .i64 (IntKind.wrap .i64 (i+1)))] w4))))
 (some (.pointer (some q),w)):=by kernel_rfl
def Bj8:Cuts:={ globs:=0,loops:=[],regs:=[],plans:=[(5,⟨[0,1,2,3,4,5,6,7,9,10,11,12,13,14,8,15,16,17,18,19,20,21],[0,0,0,4,12,28,0,64,252,0,512,1536,3584,0,8192,32764,65533,131069,262141,524287,1048575,2097151],[(8,[12])],[]⟩)] }
def Dd2:List Item:=A9 Tryz.f133
theorem En8 (C:A6) (R:A8) (r:Option Addr) (lo:Int) (n:Int) (h:H) :
 B0 PR Bj8 C R Ay0 Tryz.f133 100000 true Dd2 [(0,.pointer r),(1,.int .i64 lo),(2,.int .i64 n)] h =
 aSome r fun p=>gSl (Addr.add p 0) h fun _ xn _=>bnd (C Ag8 [.int .i64 lo,.int .i64 n,.int .i64 ((xn:Nat):Int)] h) fun r_1 w=>aBool r_1 fun x_1=>cond (!x_1)
 (some (.tuple ⟨[.int .i64 0,.int .i64 1]⟩,w))
 (aSome r fun p_1=>gSl (Addr.add p_1 1) w fun _ xn_1 _=>cond (decide (((xn_1:Nat):Int)≥32))
 (some (.tuple ⟨[.int .i64 0,.int .i64 4]⟩,w))
 (aSome r fun p_2=>gSl (Addr.add p_2 1) w fun x_3 xn_2 xc_2=>nw (.cells B7 false [.int .i64 lo]) w fun b w1=>aSome r fun p_3=>gSl (Addr.add p_3 2) w1 fun x_4 xn_3 xc_3=>nw (.cells B7 false [.int .i64 n]) w1 fun b_1 w2=>gCells (some ⟨b,0,none⟩) (1*1) w2 fun cs=>ckB (fitsOpen x_3 B7 w2) (apd B7 1 x_3 xn_2 xc_2 1 cs w2 fun a an ac w3=>gSl (Addr.add p_3 2) w3 fun x_5 xn_4 xc_4=>same (.slice x_4 xn_3 xc_3) (.slice x_5 xn_4 xc_4) (gCells (some ⟨b_1,0,none⟩) (1*1) w3 fun cs_1=>ckB (fitsOpen x_4 B7 w3) (apd B7 1 x_4 xn_3 xc_3 1 cs_1 w3 fun a_1 an_1 ac_1 w4=>aSome r fun p_4=>pV (Addr.add p_4 1) (.slice a an ac) w4 fun w5=>aSome r fun p_5=>pV (Addr.add p_5 2) (.slice a_1 an_1 ac_1) w5 fun w6=>aSome r fun p_6=>gSl (Addr.add p_6 1) w6 fun _ xn_5 _=>some (.tuple ⟨[.int .i64 (IntKind.wrap .i64 (((xn_5:Nat):Int)-1)),.int .i64 0]⟩,w6)))))):=by kernel_rfl
def Bo1:Cuts:={ globs:=0,loops:=[],regs:=[],plans:=[] }
def Dh0:List Item:=A9 Tryz.f136
theorem E04 (C:A6) (R:A8) (k:Option Addr) (h:H) :
 B0 PR Bo1 C R Am9 Tryz.f136 100000 true Dh0 [(0,.pointer k)] h =
 aSome k fun p=>gPtr (Addr.add p 3) h fun x=>some (.pointer x,h):=by kernel_rfl
def A72:Cuts:={ globs:=0,loops:=[],regs:=[],plans:=[] }
def Bw4:List Item:=A9 Tryz.f139
theorem D53 (C:A6) (R:A8) (r:Option Addr) (env:Int) (name:Int) (atv:Int) (n:Int) (h:H) :
 B0 PR A72 C R Ad0 Tryz.f139 100000 true Bw4 [(0,.pointer r),(1,.int .i64 env),(2,.int .i64 name),(3,.int .i64 atv),(4,.int .i64 n)] h =
 bnd (C Ab8 [.pointer r,.int .i64 env,.int .i64 name,.int .i64 1,.int .i64 atv,.int .i64 n] h) fun r_1 w=>as2 r_1 fun r_2 r_3=>aInt .i64 r_2 fun x=>aInt .i64 r_3 fun x_1=>cond (x_1 != 0)
 (some (.tuple ⟨[.slice none 0 0,.int .i64 x_1]⟩,w))
 (aSome r fun p=>gPtr (Addr.add p 0) w fun x_2=>bnd (C Bl9 [.pointer x_2,.int .i64 x,.int .i64 n] w) fun r_4 w1=>as2 r_4 fun r_5 r_6=>aSl r_5 fun x_3 xn xc=>aInt .i64 r_6 fun x_4=>some (.tuple ⟨[.slice x_3 xn xc,.int .i64 x_4]⟩,w1)):=by kernel_rfl
def Bh8:Cuts:={ globs:=0,loops:=[],regs:=[],plans:=[] }
def Dd4:List Item:=A9 Tryz.f142
theorem Ev1 (C:A6) (R:A8) (s:Option Addr) (env:Int) (name:Int) (to:Int) (give:Int) (lo:Int) (n:Int) (h:H) :
 B0 PR Bh8 C R A02 Tryz.f142 100000 true Dd4 [(0,.pointer s),(1,.int .i64 env),(2,.int .i64 name),(3,.int .i64 to),(4,.int .i64 give),(5,.int .i64 lo),(6,.int .i64 n)] h =
 bnd (C At5 [.pointer s,.int .i64 env,.int .i64 name] h) fun r w=>as2 r fun r_1 r_2=>aAgg r_1 fun x=>aInt .i64 r_2 fun x_1=>nw (.cells P6 false [.int .i64 0,.int .i64 0,.int .i64 0,.int .i64 0,.int .i64 0,.int .i64 0]) w fun b w1=>ck (List.length x=6) (pAgg ⟨b,0,none⟩ x w1 fun w2=>cond (x_1 != 0)
 (some (.tuple ⟨[.int .i64 0,.int .i64 x_1]⟩,w2))
 (gInt .i64 (Addr.add ⟨b,0,none⟩ 1) w2 fun x_2=>bnd (cond ((P3 .i64 x_2 4)==0) (some (true,w2)) (gInt .i64 (Addr.add ⟨b,0,none⟩ 1) w2 fun x_3=>some ((D10 .i64 give x_3) != 0,w2))) fun c w3=>cond c
 (some (.tuple ⟨[.int .i64 0,.int .i64 3]⟩,w3))
 (bnd (C Af6 [.pointer s,.int .i64 to] w3) fun r_3 w4=>aBool r_3 fun x_4=>bnd (cond (!x_4) (some (true,w4)) (some (decide (lo<0),w4))) fun c_1 w5=>bnd (cond c_1 (some (true,w5)) (some (decide (n<0),w5))) fun c_2 w6=>bnd (cond c_2 (some (true,w6)) (gInt .i64 (Addr.add ⟨b,0,none⟩ 3) w6 fun x_5=>some (decide (lo>x_5),w6))) fun c_3 w7=>bnd (cond c_3 (some (true,w7)) (gInt .i64 (Addr.add ⟨b,0,none⟩ 3) w7 fun x_6=>some (decide (n>(IntKind.wrap .i64 (x_6-lo))),w7))) fun c_4 w8=>cond c_4
 (some (.tuple ⟨[.int .i64 0,.int .i64 1]⟩,w8))
 (gInt .i64 (Addr.add ⟨b,0,none⟩ 0) w8 fun x_7=>gInt .i64 (Addr.add ⟨b,0,none⟩ 2) w8 fun x_8=>bnd (C At7 [.pointer s,.int .i64 to,.agg ⟨[.int .i64 x_7,.int .i64 give,.int .i64 (IntKind.wrap .i64 (x_8+lo)),.int .i64 n,.int .i64 env,.int .i64 name]⟩] w8) fun r_4 w9=>as2 r_4 fun r_5 r_6=>aInt .i64 r_5 fun x_9=>aInt .i64 r_6 fun x_10=>some (.tuple ⟨[.int .i64 x_9,.int .i64 x_10]⟩,w9))))):=by kernel_rfl
def Bj3:Cuts:={ globs:=0,loops:=[],regs:=[],plans:=[] }
def Db6:List Item:=A9 Tryz.f145
theorem Eo6 (C:A6) (R:A8) (q:Option Addr) (s:Int) (k:Int) (h:H) :
 B0 PR Bj3 C R Az9 Tryz.f145 100000 true Db6 [(0,.pointer q),(1,.int .i64 s),(2,.int .i64 k)] h =
 bnd (C Ai7 [.pointer q,.int .i64 s] h) fun r w=>aBool r fun x=>cond (!x)
 (some (.int .i64 1,w))
 (bnd (C Ay8 [.pointer q,.int .i64 s,.int .i64 k] w) fun r_1 w1=>aBool r_1 fun x_1=>cond (!x_1)
 (some (.int .i64 5,w1))
 (aSome q fun p=>gSl (Addr.add p 0) w1 fun x_2 xn _=>aSome x_2 fun p_1=>ck ((0:Int)≤s∧s<((xn:Nat):Int)) (gSl (Addr.add (B5 p_1) (Int.toNat s*1)) w1 fun x_3 xn_1 _=>aSome x_3 fun p_2=>ck ((0:Int)≤k∧k<((xn_1:Nat):Int)) (pV (Addr.add (B5 p_2) (Int.toNat k*1)) (.int .i64 0) w1 fun w2=>some (.int .i64 0,w2))))):=by kernel_rfl
def Bu7:Cuts:={ globs:=0,loops:=[],regs:=[],plans:=[(4,⟨[0,1,2,3,4,5,6,7,8,9,10,11],[0,1,3,7,0,31,63,0,128,0,1023,2047],[],[]⟩)] }
def Do2:List Item:=A9 Tryz.f152
theorem E82 (C:A6) (R:A8) (s:Option Addr) (e:Int) (c:List Value) (h:H) :
 B0 PR Bu7 C R A79 Tryz.f152 100000 true Do2 [(0,.pointer s),(1,.int .i64 e),(2,.agg ⟨c⟩)] h =
 nw (.cells P6 false c) h fun b w=>aSome s fun p=>gSl (Addr.add p 0) w fun x xn _=>aSome x fun p_1=>ck ((0:Int)≤e∧e<((xn:Nat):Int)) (gPtr (Addr.add (B5 p_1) (Int.toNat e*1)) w fun x_1=>bnd (C Y0 [.pointer x_1] w) fun r w1=>as2 r fun r_1 r_2=>aInt .i64 r_1 fun x_2=>aBool r_2 fun x_3=>cond (!x_3)
 (some (.tuple ⟨[.int .i64 0,.int .i64 4]⟩,w1))
 (aSome s fun p_2=>gSl (Addr.add p_2 1) w1 fun x_4 xn_1 _=>aSome x_4 fun p_3=>ck ((0:Int)≤e∧e<((xn_1:Nat):Int)) (gSl (Addr.add (B5 p_3) (Int.toNat e*1)) w1 fun x_5 xn_2 _=>gAgg ⟨b,0,none⟩ 6 w1 fun x_6=>aSome x_5 fun p_4=>ck ((0:Int)≤P3 .i64 x_2 255∧P3 .i64 x_2 255<((xn_2:Nat):Int)) (ck (List.length x_6=6) (pAgg (Addr.add (B5 p_4) (Int.toNat (P3 .i64 x_2 255)*6)) x_6 w1 fun w2=>some (.tuple ⟨[.int .i64 x_2,.int .i64 0]⟩,w2)))))):=by kernel_rfl
def De5:Cuts:={ globs:=0,loops:=[],regs:=[],plans:=[] }
def Ei4:List Item:=A9 Tryz.f160
theorem Gu7 (C:A6) (R:A8) (b:Option Addr) (bn bc:Nat) (h:H) :
 B0 PR De5 C R Am1 Tryz.f160 100000 true Ei4 [(0,.slice b bn bc)] h =
 bnd (C Q3 [.slice b bn bc,.func (.func Ae9) ⟨[]⟩ ⟨[]⟩] h) fun r w=>aBool r fun x=>some (.bool (!x),w):=by kernel_rfl
def De9:Cuts:={ globs:=0,loops:=[],regs:=[],plans:=[] }
def Eh2:List Item:=A9 Tryz.f161
theorem Gw5 (C:A6) (R:A8)  (h:H) :
 B0 PR De9 C R Bb5 Tryz.f161 100000 true Eh2 [] h =
 bnd (C Aq2 [.int .i64 8,.func (.func As0) ⟨[]⟩ ⟨[]⟩,.func (.func Ar9) ⟨[]⟩ ⟨[]⟩] h) fun r w=>aPtr r fun x=>some (.pointer x,w):=by kernel_rfl
def Ah4:Cuts:={ globs:=0,loops:=[],regs:=[],plans:=[(2,⟨[0,1,2,3,4,5,6,7,8,9,10,11,12,13,14],[0,1,3,7,15,31,63,127,255,511,63,63,4095,8191,16383],[],[]⟩)] }
def A22:List Item:=A9 Tryz.f169
theorem B37 (C:A6) (R:A8) (c:Option Addr) (v:List Value) (h:H) :
 B0 PR Ah4 C R V9 Tryz.f169 100000 true A22 [(0,.pointer c),(1,.agg ⟨v⟩)] h =
 nw (.cells D3 false v) h fun b w=>aSome c fun p=>gInt .i64 (Addr.add p 0) w fun x=>ck ((0:Int)≤x∧(x:Int)≤x∧x≤(B4:Int)) (nw (.cells A7 false (H4 (Int.toNat x) [.int .u8 0])) w fun b_1 w1=>aSome c fun p_1=>gFv (Addr.add p_1 1) w1 fun x_1=>isNilF x_1 fun b_2=>bnd (cond b_2 (some (true,w1)) (aSome c fun p_2=>gFv (Addr.add p_2 1) w1 fun x_2=>gAgg ⟨b,0,none⟩ 16 w1 fun x_3=>aFn x_2 fun g fi cp=>bnd (C g (fi++([.agg ⟨x_3⟩,.slice (some ⟨b_1,0,none⟩) (Int.toNat x) (Int.toNat x)]++cp)) w1) fun r w2=>aBool r fun x_4=>some (!x_4,w2))) fun c_1 w3=>cond c_1
 (some (.tuple ⟨[.slice none 0 0,.bool false]⟩,w3))
 (some (.tuple ⟨[.slice (some ⟨b_1,0,none⟩) (Int.toNat x) (Int.toNat x),.bool true]⟩,w3))):=by kernel_rfl
def Dq1:Cuts:={ globs:=0,loops:=[],regs:=[],plans:=[] }
def Eo3:List Item:=A9 Tryz.f177
theorem G18 (C:A6) (R:A8) (c:List Value) (x:List Value) (h:H) :
 B0 PR Dq1 C R B25 Tryz.f177 100000 true Eo3 [(0,.agg ⟨c⟩),(1,.agg ⟨x⟩)] h =
 nw (.cells E4 false c) h fun b w=>nw (.cells I7 false x) w fun b_1 w1=>gInt .i64 (Addr.add ⟨b_1,0,none⟩ 0) w1 fun x_1=>bnd (cond (decide (x_1<0)) (some (true,w1)) (gInt .i64 (Addr.add ⟨b_1,0,none⟩ 0) w1 fun x_2=>gSl (Addr.add ⟨b,0,none⟩ 0) w1 fun _ xn _=>some (decide (x_2≥((xn:Nat):Int)),w1))) fun c_1 w2=>bnd (cond c_1 (some (true,w2)) (gInt .i64 (Addr.add ⟨b_1,0,none⟩ 1) w2 fun x_4=>some (decide (x_4<0),w2))) fun c_2 w3=>bnd (cond c_2 (some (true,w3)) (gInt .i64 (Addr.add ⟨b_1,0,none⟩ 2) w3 fun x_5=>some (decide (x_5<0),w3))) fun c_3 w4=>bnd (cond c_3 (some (true,w4)) (gInt .i64 (Addr.add ⟨b_1,0,none⟩ 3) w4 fun x_6=>some (decide (x_6<0),w4))) fun c_4 w5=>cond c_4
 (some (.bool false,w5))
 (gSl (Addr.add ⟨b,0,none⟩ 0) w5 fun x_7 xn_1 _=>gInt .i64 (Addr.add ⟨b_1,0,none⟩ 0) w5 fun x_8=>aSome x_7 fun p=>ck ((0:Int)≤x_8∧x_8<((xn_1:Nat):Int)) (gInt .i64 (Addr.add (B5 p) (Int.toNat x_8*1)) w5 fun x_9=>bnd (C Bd0 [.int .i64 x_9] w5) fun r w6=>aInt .i64 r fun x_10=>gInt .i64 (Addr.add ⟨b_1,0,none⟩ 1) w6 fun x_11=>cond (decide (x_11>x_10))
 (some (.bool false,w6))
 (gInt .i64 (Addr.add ⟨b_1,0,none⟩ 1) w6 fun x_12=>gInt .i64 (Addr.add ⟨b_1,0,none⟩ 2) w6 fun x_13=>bnd (cond (decide (x_13≤(IntKind.wrap .i64 ((IntKind.wrap .i64 (x_10-x_12))*64)))) (gInt .i64 (Addr.add ⟨b_1,0,none⟩ 3) w6 fun x_14=>gInt .i64 (Addr.add ⟨b_1,0,none⟩ 2) w6 fun x_15=>some (decide (x_14≤(IntKind.wrap .i64 ((IntKind.wrap .i64 ((IntKind.wrap .i64 (x_10-x_12))*64))-x_15))),w6)) (some (false,w6))) fun c_5 w7=>some (.bool c_5,w7)))):=by kernel_rfl
def B13:Cuts:={ globs:=0,loops:=[],regs:=[],plans:=[] }
def Dy6:List Item:=A9 Tryz.f181
theorem Gh7 (C:A6) (R:A8) (s:Option Addr) (env:Int) (h:H) :
 B0 PR B13 C R Af6 Tryz.f181 100000 true Dy6 [(0,.pointer s),(1,.int .i64 env)] h =
 bnd (cond (decide (env≥0)) (aSome s fun p=>gSl (Addr.add p 0) h fun _ xn _=>some (decide (env<((xn:Nat):Int)),h)) (some (false,h))) fun c w=>some (.bool c,w):=by kernel_rfl
def Bi2:Cuts:={ globs:=0,loops:=[],regs:=[],plans:=[] }
def Da7:List Item:=A9 Tryz.f193
theorem Er7 (C:A6) (R:A8) (q:Option Addr) (s:Int) (k:Int) (h:H) :
 B0 PR Bi2 C R Ay8 Tryz.f193 100000 true Da7 [(0,.pointer q),(1,.int .i64 s),(2,.int .i64 k)] h =
 bnd (C Ai7 [.pointer q,.int .i64 s] h) fun r w=>aBool r fun x=>bnd (cond x (some (decide (k≥0),w)) (some (false,w))) fun c w1=>bnd (cond c (aSome q fun p=>gSl (Addr.add p 0) w1 fun x_1 xn _=>aSome x_1 fun p_1=>ck ((0:Int)≤s∧s<((xn:Nat):Int)) (gSl (Addr.add (B5 p_1) (Int.toNat s*1)) w1 fun _ xn_1 _=>some (decide (k<((xn_1:Nat):Int)),w1))) (some (false,w1))) fun c_1 w2=>bnd (cond c_1 (aSome q fun p_2=>gSl (Addr.add p_2 0) w2 fun x_3 xn_2 _=>aSome x_3 fun p_3=>ck ((0:Int)≤s∧s<((xn_2:Nat):Int)) (gSl (Addr.add (B5 p_3) (Int.toNat s*1)) w2 fun x_4 xn_3 _=>aSome x_4 fun p_4=>ck ((0:Int)≤k∧k<((xn_3:Nat):Int)) (gInt .i64 (Addr.add (B5 p_4) (Int.toNat k*1)) w2 fun x_5=>some (decide (x_5>0),w2)))) (some (false,w2))) fun c_2 w3=>some (.bool c_2,w3):=by kernel_rfl
def U5:Cuts:={ globs:=0,loops:=[(18,[0,1,2])],regs:=[(10,[0,1,2]),(11,[0,1,2]),(14,[0,1,2]),(17,[])],plans:=[(11,⟨[0,1,2,3,4,5,6,7,8,9,10,11,12,13,14,15,16],[0,1,3,7,15,31,31,95,223,479,1023,31,2079,6175,14367,32767,65535],[],[]⟩),(18,⟨[0,1,2,3,4,5,6,7,8,9,10,11,12,13,14,15,16,17,18,19,20],[0,1,3,7,15,31,0,127,255,511,511,1535,3583,7679,16383,511,33279,98815,229887,524287,1048575],[],[]⟩)] }
def Z4:List Item:=A9 Tryz.f195
def Ap2:List Item:=stk [0,1,0,1,0,1,0,1,0,1,0,0,1,2,0,1] Z4
def Ao6:List Item:=stk [0,1,0,1,0,1,0,1,0,1,0,1,0,0] Z4
def Ar1:List Item:=stk [0,1,0,1,0,1,0,1,0,1,0,1,0,1,0,0] Z4
def Ao0:List Item:=stk [0,1,0,1,0,1,0,1,0,1,0,1,0,1,0,0,1,2,0,1,0] Z4
def Af0:List Item:=stk [0,1,0,1,0,1,0,1,0,1,0,1,0,1,0,1,0,4,5] Z4
theorem E05 (C:A6) (R:A8) (s:Option Addr) (who:Int) (now:Int) (h:H) :
 B0 PR U5 C R D0 Tryz.f195 100000 true Z4 [(0,.pointer s),(1,.int .i64 who),(2,.int .i64 now)] h =
 aSome s fun p=>gInt .i64 (Addr.add p 7) h fun x=>bnd (cond (decide (who<0)) (some (true,h)) (some (decide (who>99),h))) fun c w=>cond c
 (some (.tuple ⟨[.int .i64 0,.bool false]⟩,w))
 (aSome s fun p_1=>pV (Addr.add p_1 7) (.int .i64 (mm2 true now x)) w fun w1=>aSome s fun p_2=>gBool (Addr.add p_2 1) w1 fun x_1=>bnd (cond x_1 (aSome s fun p_3=>gInt .i64 (Addr.add p_3 2) w1 fun x_2=>some (x_2==who,w1)) (some (false,w1))) fun c_1 w2=>cond c_1
 (aSome s fun p_4=>gInt .i64 (Addr.add p_4 3) w2 fun x_3=>some (.tuple ⟨[.int .i64 x_3,.bool true]⟩,w2))
 (aSome s fun p_5=>gSl (Addr.add p_5 5) w2 fun x_4 xn xc=>bnd (C M9 [.slice x_4 xn xc,.int .i64 who] w2) fun r w3=>aBool r fun x_5=>cond (!x_5)
 (aSome s fun p_6=>gSl (Addr.add p_6 5) w3 fun _ xn_1 _=>cond (((xn_1:Nat):Int)==0)
 (aSome s fun p_7=>pV (Addr.add p_7 6) (.int .i64 (mm2 true now x)) w3 fun w4=>R D0 Ap2 [(0,.pointer s),(1,.int .i64 who),(2,.int .i64 (mm2 true now x))] w4)
 (R D0 Ap2 [(0,.pointer s),(1,.int .i64 who),(2,.int .i64 (mm2 true now x))] w3))
 (R D0 Ao6 [(0,.pointer s),(1,.int .i64 who),(2,.int .i64 (mm2 true now x))] w3))):=by kernel_rfl
theorem Ee5 (C:A6) (R:A8) (s:Option Addr) (who:Int) (now:Int) (h:H) :
 B0 PR U5 C R D0 Tryz.f195 100000 true Ap2 [(0,.pointer s),(1,.int .i64 who),(2,.int .i64 now)] h =
 aSome s fun p=>gSl (Addr.add p 5) h fun x xn xc=>nw (.cells B7 false [.int .i64 who]) h fun b w=>gCells (some ⟨b,0,none⟩) (1*1) w fun cs=>ckB (fitsOpen x B7 w) (apd B7 1 x xn xc 1 cs w fun a an ac w1=>aSome s fun p_1=>pV (Addr.add p_1 5) (.slice a an ac) w1 fun w2=>R D0 Ao6 [(0,.pointer s),(1,.int .i64 who),(2,.int .i64 now)] w2):=by kernel_rfl
theorem D84 (C:A6) (R:A8) (s:Option Addr) (who:Int) (now:Int) (h:H) :
 B0 PR U5 C R D0 Tryz.f195 100000 true Ao6 [(0,.pointer s),(1,.int .i64 who),(2,.int .i64 now)] h =
 aSome s fun p=>gBool (Addr.add p 1) h fun x=>bnd (cond x (aSome s fun p_1=>gInt .i64 (Addr.add p_1 4) h fun x_1=>aSome s fun p_2=>gInt .i64 (Addr.add p_2 0) h fun x_2=>some (decide ((IntKind.wrap .i64 (now-x_1))≥x_2),h)) (some (false,h))) fun c w=>cond c
 (aSome s fun p_3=>pV (Addr.add p_3 1) (.bool false) w fun w1=>aSome s fun p_4=>pV (Addr.add p_4 6) (.int .i64 now) w1 fun w2=>R D0 Ar1 [(0,.pointer s),(1,.int .i64 who),(2,.int .i64 now)] w2)
 (R D0 Ar1 [(0,.pointer s),(1,.int .i64 who),(2,.int .i64 now)] w):=by kernel_rfl
theorem Ea7 (C:A6) (R:A8) (s:Option Addr) (who:Int) (now:Int) (h:H) :
 B0 PR U5 C R D0 Tryz.f195 100000 true Ar1 [(0,.pointer s),(1,.int .i64 who),(2,.int .i64 now)] h =
 aSome s fun p=>gBool (Addr.add p 1) h fun x=>cond x
 (aSome s fun p_1=>gSl (Addr.add p_1 5) h fun x_1 xn _=>aSome x_1 fun p_2=>ck ((0:Int)≤0∧0<((xn:Nat):Int)) (gInt .i64 (Addr.add (B5 p_2) (Int.toNat 0*1)) h fun x_2=>cond (x_2==who)
 (aSome s fun p_3=>pV (Addr.add p_3 6) (.int .i64 now) h fun w=>R D0 Ao0 [] w)
 (R D0 Ao0 [] h)))
 (R D0 Af0 [(0,.pointer s),(1,.int .i64 who),(2,.int .i64 now)] h):=by kernel_rfl
theorem Ea5 (C:A6) (R:A8)  (h:H) :
 B0 PR U5 C R D0 Tryz.f195 100000 true Ao0 [] h =
 some (.tuple ⟨[.int .i64 0,.bool false]⟩,h):=by kernel_rfl
theorem B07 (C:A6) (R:A8) (s:Option Addr) (who:Int) (now:Int) (h:H) :
 B0 PR U5 C R D0 Tryz.f195 100000 true Af0 [(0,.pointer s),(1,.int .i64 who),(2,.int .i64 now)] h =
 aSome s fun p=>gSl (Addr.add p 5) h fun x xn _=>aSome x fun p_1=>ck ((0:Int)≤0∧0<((xn:Nat):Int)) (gInt .i64 (Addr.add (B5 p_1) (Int.toNat 0*1)) h fun x_1=>bnd (cond (x_1 != who) (aSome s fun p_2=>gInt .i64 (Addr.add p_2 6) h fun x_2=>aSome s fun p_3=>gInt .i64 (Addr.add p_3 0) h fun x_3=>some (decide ((IntKind.wrap .i64 (now-x_2))≥x_3),h)) (some (false,h))) fun c w=>cond c
 (aSome s fun p_4=>gSl (Addr.add p_4 5) w fun x_4 xn_1 xc_1=>ckB (fitsOpen x_4 B7 w) (ck ((0:Int)≤1∧1≤((xn_1:Nat):Int)) (aSome s fun p_5=>pV (Addr.add p_5 5) (.slice (H5 x_4 (decide (Int.toNat 1<xc_1)) ((Int.toNat 1)*1)) (xn_1-(Int.toNat 1)) (xc_1-(Int.toNat 1))) w fun w1=>aSome s fun p_6=>pV (Addr.add p_6 6) (.int .i64 now) w1 fun w2=>R D0 Af0 [(0,.pointer s),(1,.int .i64 who),(2,.int .i64 now)] w2)))
 (aSome s fun p_7=>gSl (Addr.add p_7 5) w fun x_5 xn_2 _=>aSome x_5 fun p_8=>ck ((0:Int)≤0∧0<((xn_2:Nat):Int)) (gInt .i64 (Addr.add (B5 p_8) (Int.toNat 0*1)) w fun x_6=>cond (x_6 != who)
 (some (.tuple ⟨[.int .i64 0,.bool false]⟩,w))
 (aSome s fun p_9=>gSl (Addr.add p_9 5) w fun x_7 xn_3 xc_3=>ckB (fitsOpen x_7 B7 w) (ck ((0:Int)≤1∧1≤((xn_3:Nat):Int)) (aSome s fun p_10=>pV (Addr.add p_10 5) (.slice (H5 x_7 (decide (Int.toNat 1<xc_3)) ((Int.toNat 1)*1)) (xn_3-(Int.toNat 1)) (xc_3-(Int.toNat 1))) w fun w3=>aSome s fun p_11=>pV (Addr.add p_11 6) (.int .i64 now) w3 fun w4=>aSome s fun p_12=>gInt .i64 (Addr.add p_12 8) w4 fun x_8=>aSome s fun p_13=>pV (Addr.add p_13 8) (.int .i64 (IntKind.wrap .i64 (x_8+1))) w4 fun w5=>aSome s fun p_14=>gInt .i64 (Addr.add p_14 8) w5 fun x_9=>aSome s fun p_15=>pV (Addr.add p_15 1) (.bool true) w5 fun w6=>aSome s fun p_16=>pV (Addr.add p_16 2) (.int .i64 who) w6 fun w7=>aSome s fun p_17=>pV (Addr.add p_17 3) (.int .i64 x_9) w7 fun w8=>aSome s fun p_18=>pV (Addr.add p_18 4) (.int .i64 now) w8 fun w9=>aSome s fun p_19=>gInt .i64 (Addr.add p_19 3) w9 fun x_10=>some (.tuple ⟨[.int .i64 x_10,.bool true]⟩,w9))))))):=by kernel_rfl
def Bn6:Cuts:={ globs:=0,loops:=[],regs:=[],plans:=[] }
def Dh5:List Item:=A9 Tryz.f196
theorem Ez3 (C:A6) (R:A8) (s:Option Addr) (who:Int) (stamp:Int) (h:H) :
 B0 PR Bn6 C R A39 Tryz.f196 100000 true Dh5 [(0,.pointer s),(1,.int .i64 who),(2,.int .i64 stamp)] h =
 bnd (C A41 [.pointer s,.int .i64 who,.int .i64 stamp] h) fun r w=>aBool r fun x=>cond (!x)
 (some (.bool false,w))
 (aSome s fun p=>pV (Addr.add p 1) (.bool false) w fun w1=>aSome s fun p_1=>gInt .i64 (Addr.add p_1 7) w1 fun x_1=>aSome s fun p_2=>pV (Addr.add p_2 6) (.int .i64 x_1) w1 fun w2=>some (.bool true,w2)):=by kernel_rfl
def Ba7:Cuts:={ globs:=0,loops:=[],regs:=[],plans:=[] }
def By8:List Item:=A9 Tryz.f203
theorem Ee8 (C:A6) (R:A8) (size:Int) (put:Value) (get:Value) (h:H) :
 B0 PR Ba7 C R Aq2 Tryz.f203 100000 true By8 [(0,.int .i64 size),(1,put),(2,get)] h =
 one put (one get (nw (.cells Ak2 false [.int .i64 (mm2 false (mm2 true size 0) 64),put,get]) h fun b w=>some (.pointer (some ⟨b,0,none⟩),w))):=by kernel_rfl
def Ba9:Cuts:={ globs:=0,loops:=[],regs:=[],plans:=[] }
def Bz7:List Item:=A9 Tryz.f207
theorem Ec3 (C:A6) (R:A8) (size:Int) (put:Value) (get:Value) (h:H) :
 B0 PR Ba9 C R An6 Tryz.f207 100000 true Bz7 [(0,.int .i64 size),(1,put),(2,get)] h =
 one put (one get (nw (.cells Bp0 false [.int .i64 (mm2 false (mm2 true size 0) 64),put,get]) h fun b w=>some (.pointer (some ⟨b,0,none⟩),w))):=by kernel_rfl
def Bp3:Cuts:={ globs:=0,loops:=[(3,[0,2,4,31,32,33]),(8,[0,2,4,49])],regs:=[],plans:=[(1,⟨[0,1,2,3,4,5,6,7,8,9,10,11,12,13,14,15,16,17,18],[0,1,3,7,0,16,48,112,0,256,768,1792,0,4096,12288,28672,65535,0,262143],[],[]⟩),(13,⟨[0,1,2,3,4,5,6,7,8],[0,0,2,6,6,30,62,63,255],[(5,[0])],[]⟩)] }
def Da3:List Item:=A9 Tryz.f212
def B77:List Item:=stk [0,1,0,1,0,0,1,4,5] Da3
def B65:List Item:=stk [0,1,0,1,0,1,0,0,1,4,5] Da3
theorem Hi2 (C:A6) (R:A8) (b:Option Addr) (bn bc:Nat) (h:H) :
 B0 PR Bp3 C R Y5 Tryz.f212 100000 true Da3 [(0,.slice b bn bc)] h =
 nw (.cells D3 false [.int .i64 0,.int .i64 0,.int .i64 0,.int .i64 0,.int .i64 0,.int .i64 0,.int .i64 0,.int .i64 0,.int .i64 0,.int .i64 0,.int .i64 0,.int .i64 0,.int .i64 0,.int .i64 0,.int .i64 0,.int .i64 0]) h fun b_1 w=>aSome b fun p=>ck ((0:Int)≤0∧0<((bn:Nat):Int)) (gInt .u8 (Addr.add (B5 p) (Int.toNat 0*1)) w fun x=>aSome b fun p_1=>ck ((0:Int)≤1∧1<((bn:Nat):Int)) (gInt .u8 (Addr.add (B5 p_1) (Int.toNat 1*1)) w fun x_1=>aSome b fun p_2=>ck ((0:Int)≤2∧2<((bn:Nat):Int)) (gInt .u8 (Addr.add (B5 p_2) (Int.toNat 2*1)) w fun x_2=>aSome b fun p_3=>ck ((0:Int)≤3∧3<((bn:Nat):Int)) (gInt .u8 (Addr.add (B5 p_3) (Int.toNat 3*1)) w fun x_3=>nw (.cells D3 false [.int .i64 0,.int .i64 0,.int .i64 0,.int .i64 0,.int .i64 0,.int .i64 0,.int .i64 0,.int .i64 0,.int .i64 0,.int .i64 0,.int .i64 0,.int .i64 0,.int .i64 0,.int .i64 0,.int .i64 0,.int .i64 0]) w fun b_2 w1=>pAgg ⟨b_2,0,none⟩ [.int .i64 (IntKind.wrap .i64 (x)),.int .i64 (IntKind.wrap .i64 (x_1)),.int .i64 (IntKind.wrap .i64 (x_2)),.int .i64 (IntKind.wrap .i64 (x_3)),.int .i64 0,.int .i64 0,.int .i64 0,.int .i64 0,.int .i64 0,.int .i64 0,.int .i64 0,.int .i64 0,.int .i64 0,.int .i64 0,.int .i64 0,.int .i64 0] w1 fun w2=>nw (.cells Ij1 false [.pointer (some (Addr.add ⟨b_2,0,none⟩ 4)),.pointer (some (Addr.add ⟨b_2,0,none⟩ 5)),.pointer (some (Addr.add ⟨b_2,0,none⟩ 6)),.pointer (some (Addr.add ⟨b_2,0,none⟩ 7))]) w2 fun b_3 w3=>R Y5 B77 [(0,.slice b bn bc),(2,.pointer (some ⟨b_1,0,none⟩)),(4,.pointer (some ⟨b_2,0,none⟩)),(31,.slice (some ⟨b_3,0,none⟩) 4 4),(32,.int .i64 4),(33,.int .i64 0)] w3)))):=by kernel_rfl
theorem A45 (C:A6) (R:A8) (b:Option Addr) (bn bc:Nat) (x2:Addr) (p:Addr) (x31:Option Addr) (x31n x31c:Nat) (x32:Int) (x33:Int) (h:H) :
 B0 PR Bp3 C R Y5 Tryz.f212 100000 true B77 [(0,.slice b bn bc),(2,.pointer (some x2)),(4,.pointer (some p)),(31,.slice x31 x31n x31c),(32,.int .i64 x32),(33,.int .i64 x33)] h =
 cond (decide (x33<x32))
 (aSome x31 fun p_1=>ck ((0:Int)≤x33∧x33<((x31n:Nat):Int)) (gPtr (Addr.add (B5 p_1) (Int.toNat x33*1)) h fun x=>bnd (C Bz3 [.slice b bn bc,.int .i64 (IntKind.wrap .i64 (4+(IntKind.wrap .i64 (2*x33))))] h) fun r w=>as2 r fun r_1 r_2=>aInt .i64 r_1 fun x_1=>aBool r_2 fun _=>aSome x fun p_2=>pV p_2 (.int .i64 x_1) w fun w1=>R Y5 B77 [(0,.slice b bn bc),(2,.pointer (some x2)),(4,.pointer (some p)),(31,.slice x31 x31n x31c),(32,.int .i64 x32),(33,.int .i64 (IntKind.wrap .i64 (x33+1)))] w1))
 (R Y5 B65 [(0,.slice b bn bc),(2,.pointer (some x2)),(4,.pointer (some p)),(49,.int .i64 0)] h):=by kernel_rfl
theorem Y7 (C:A6) (R:A8) (b:Option Addr) (bn bc:Nat) (x2:Addr) (p:Addr) (x49:Int) (h:H) :
 B0 PR Bp3 C R Y5 Tryz.f212 100000 true B65 [(0,.slice b bn bc),(2,.pointer (some x2)),(4,.pointer (some p)),(49,.int .i64 x49)] h =
 cond (decide (x49<8))
 (aSome b fun p_1=>ck ((0:Int)≤IntKind.wrap .i64 (12+x49)∧IntKind.wrap .i64 (12+x49)<((bn:Nat):Int)) (gInt .u8 (Addr.add (B5 p_1) (Int.toNat (IntKind.wrap .i64 (12+x49))*1)) h fun x=>ck ((0:Int)≤x49∧x49<((8:Nat):Int)) (pV (Addr.add (Addr.add p 8) (Int.toNat x49*1)) (.int .i64 (IntKind.wrap .i64 (x))) h fun w=>R Y5 B65 [(0,.slice b bn bc),(2,.pointer (some x2)),(4,.pointer (some p)),(49,.int .i64 (IntKind.wrap .i64 (x49+1)))] w)))
 (gAgg p 16 h fun x_1=>bnd (C A60 [.agg ⟨x_1⟩] h) fun r w1=>as2 r fun r_1 r_2=>aSl r_1 fun x_2 xn xc=>aBool r_2 fun x_3=>gAgg p 16 w1 fun x_4=>bnd (cond x_3 (bnd (C D4 [.slice x_2 xn xc,.slice b bn bc] w1) fun r_3 w2=>aBool r_3 fun x_5=>gAgg p 16 w2 fun x_6=>same (.agg ⟨x_4⟩) (.agg ⟨x_6⟩) (some (x_5,w2))) (some (false,w1))) fun c w3=>ck (List.length x_4=16) (pAgg x2 x_4 w3 fun w4=>gAgg x2 16 w4 fun x_7=>some (.tuple ⟨[.agg ⟨x_7⟩,.bool c]⟩,w4))):=by kernel_rfl
def Z0:Cuts:={ globs:=0,loops:=[(2,[0,1,7,8])],regs:=[],plans:=[] }
def Aj2:List Item:=A9 Tryz.f213
def N1:List Item:=stk [0,1,0,0,1,4,5] Aj2
theorem A55 (C:A6) (R:A8) (s:Option Addr) (sn sc:Nat) (f:Value) (h:H) :
 B0 PR Z0 C R D7 Tryz.f213 100000 true Aj2 [(0,.slice s sn sc),(1,f)] h =
 R D7 N1 [(0,.slice s sn sc),(1,f),(7,.int .i64 ((sn:Nat):Int)),(8,.int .i64 0)] h:=by kernel_rfl
theorem S6 (C:A6) (R:A8) (s:Option Addr) (sn sc:Nat) (f:Value) (x7:Int) (x8:Int) (h:H) :
 B0 PR Z0 C R D7 Tryz.f213 100000 true N1 [(0,.slice s sn sc),(1,f),(7,.int .i64 x7),(8,.int .i64 x8)] h =
 cond (decide (x8<x7))
 (aSome s fun p=>ck ((0:Int)≤x8∧x8<((sn:Nat):Int)) (gInt .i64 (Addr.add (B5 p) (Int.toNat x8*1)) h fun x=>aFn f fun g fi cp=>bnd (C g (fi++([.int .i64 x]++cp)) h) fun r w=>aBool r fun x_1=>cond x_1
 (some (.int .i64 x8,w))
 (R D7 N1 [(0,.slice s sn sc),(1,f),(7,.int .i64 x7),(8,.int .i64 (IntKind.wrap .i64 (x8+1)))] w)))
 (some (.int .i64 (-1),h)):=by kernel_rfl
def Ad8:Cuts:={ globs:=0,loops:=[(2,[0,3,11,12,13])],regs:=[],plans:=[(5,⟨[0,1,2,3,4,5,6,7,8,9,10,11,12,13,14,15,16],[0,1,3,7,0,0,32,96,224,0,0,1535,3583,7679,16383,32767,65535],[],[]⟩)] }
def Ao7:List Item:=A9 Tryz.f214
def Y9:List Item:=stk [0,1,0,0,1,4,5] Ao7
theorem Di0 (C:A6) (R:A8) (t:Option Addr) (v:List Value) (h:H) :
 B0 PR Ad8 C R I3 Tryz.f214 100000 true Ao7 [(0,.pointer t),(1,.agg ⟨v⟩)] h =
 nw (.cells P6 false v) h fun b w=>aSome t fun p=>gSl (Addr.add p 0) w fun x xn xc=>R I3 Y9 [(0,.pointer t),(3,.pointer (some ⟨b,0,none⟩)),(11,.slice x xn xc),(12,.int .i64 ((xn:Nat):Int)),(13,.int .i64 0)] w:=by kernel_rfl
theorem A47 (C:A6) (R:A8) (t:Option Addr) (v:Addr) (x11:Option Addr) (x11n x11c:Nat) (x12:Int) (x13:Int) (h:H) :
 B0 PR Ad8 C R I3 Tryz.f214 100000 true Y9 [(0,.pointer t),(3,.pointer (some v)),(11,.slice x11 x11n x11c),(12,.int .i64 x12),(13,.int .i64 x13)] h =
 cond (decide (x13<x12))
 (aSome x11 fun p=>ck ((0:Int)≤x13∧x13<((x11n:Nat):Int)) (gAgg (Addr.add (B5 p) (Int.toNat x13*8)) 8 h fun x=>nw (.cells Al7 false [.int .i64 0,.int .i64 0,.int .i64 0,.int .i64 0,.int .i64 0,.int .i64 0,.int .i64 0,.bool false]) h fun b w=>ck (List.length x=8) (pAgg ⟨b,0,none⟩ x w fun w1=>gBool (Addr.add ⟨b,0,none⟩ 7) w1 fun x_1=>bnd (cond (!x_1) (gInt .i64 (Addr.add ⟨b,0,none⟩ 6) w1 fun x_2=>some (decide (x_2≤1000000),w1)) (some (false,w1))) fun c w2=>cond c
 (aSome t fun p_1=>gSl (Addr.add p_1 0) w2 fun x_3 xn _=>aSome t fun p_2=>gSl (Addr.add p_2 0) w2 fun x_4 xn_1 _=>gAgg v 6 w2 fun x_5=>aSome x_3 fun p_3=>ck ((0:Int)≤x13∧x13<((xn:Nat):Int)) (ck (List.length x_5=6) (pAgg (Addr.add (Addr.add (B5 p_3) (Int.toNat x13*8)) 0) x_5 w2 fun w3=>aSome x_4 fun p_4=>ck ((0:Int)≤x13∧x13<((xn_1:Nat):Int)) (pV (Addr.add (Addr.add (B5 p_4) (Int.toNat x13*8)) 7) (.bool true) w3 fun w4=>bnd (C N4 [.pointer t,.int .i64 x13] w4) fun r w5=>aInt .i64 r fun x_6=>some (.tuple ⟨[.int .i64 x_6,.bool true]⟩,w5)))))
 (R I3 Y9 [(0,.pointer t),(3,.pointer (some v)),(11,.slice x11 x11n x11c),(12,.int .i64 x12),(13,.int .i64 (IntKind.wrap .i64 (x13+1)))] w2))))
 (some (.tuple ⟨[.int .i64 0,.bool false]⟩,h)):=by kernel_rfl
def An8:Cuts:={ globs:=0,loops:=[],regs:=[],plans:=[] }
def Bf9:List Item:=A9 Tryz.f217
theorem Dl8 (C:A6) (R:A8) (t:Option Addr) (name:Int) (h:H) :
 B0 PR An8 C R Ad7 Tryz.f217 100000 true Bf9 [(0,.pointer t),(1,.int .i64 name)] h =
 nw (.cells P6 false [.int .i64 0,.int .i64 0,.int .i64 0,.int .i64 0,.int .i64 0,.int .i64 0]) h fun b w=>bnd (C Ae8 [.pointer t,.int .i64 name] w) fun r w1=>aPtr r fun x=>cond x.isNone
 (nw (.cells P6 false [.int .i64 0,.int .i64 0,.int .i64 0,.int .i64 0,.int .i64 0,.int .i64 0]) w1 fun b_1 w2=>gAgg ⟨b_1,0,none⟩ 6 w2 fun x_1=>ck (List.length x_1=6) (pAgg ⟨b,0,none⟩ x_1 w2 fun w3=>gAgg ⟨b,0,none⟩ 6 w3 fun x_2=>some (.tuple ⟨[.agg ⟨x_2⟩,.bool false]⟩,w3)))
 (aSome x fun p=>gAgg (Addr.add p 0) 6 w1 fun x_3=>ck (List.length x_3=6) (pAgg ⟨b,0,none⟩ x_3 w1 fun w4=>gAgg ⟨b,0,none⟩ 6 w4 fun x_4=>some (.tuple ⟨[.agg ⟨x_4⟩,.bool true]⟩,w4))):=by kernel_rfl
def Ac2:Cuts:={ globs:=0,loops:=[(4,[0,1,12,13])],regs:=[],plans:=[(6,⟨[0,1,2,3,4,5,6,7,8],[0,0,3,7,0,0,48,112,255],[],[]⟩)] }
def Am0:List Item:=A9 Tryz.f224
def W4:List Item:=stk [0,1,0,1,0,0,1,4,5] Am0
theorem Df3 (C:A6) (R:A8) (s1:Option Addr) (s1n s1c:Nat) (s2:Option Addr) (s2n s2c:Nat) (h:H) :
 B0 PR Ac2 C R D4 Tryz.f224 100000 true Am0 [(0,.slice s1 s1n s1c),(1,.slice s2 s2n s2c)] h =
 cond (((s1n:Nat):Int) != ((s2n:Nat):Int))
 (some (.bool false,h))
 (R D4 W4 [(0,.slice s1 s1n s1c),(1,.slice s2 s2n s2c),(12,.int .i64 ((s1n:Nat):Int)),(13,.int .i64 0)] h):=by kernel_rfl
theorem A21 (C:A6) (R:A8) (s1:Option Addr) (s1n s1c:Nat) (s2:Option Addr) (s2n s2c:Nat) (x12:Int) (x13:Int) (h:H) :
 B0 PR Ac2 C R D4 Tryz.f224 100000 true W4 [(0,.slice s1 s1n s1c),(1,.slice s2 s2n s2c),(12,.int .i64 x12),(13,.int .i64 x13)] h =
 cond (decide (x13<x12))
 (aSome s1 fun p=>ck ((0:Int)≤x13∧x13<((s1n:Nat):Int)) (gInt .u8 (Addr.add (B5 p) (Int.toNat x13*1)) h fun x=>aSome s2 fun p_1=>ck ((0:Int)≤x13∧x13<((s2n:Nat):Int)) (gInt .u8 (Addr.add (B5 p_1) (Int.toNat x13*1)) h fun x_1=>cond (x != x_1)
 (some (.bool false,h))
 (R D4 W4 [(0,.slice s1 s1n s1c),(1,.slice s2 s2n s2c),(12,.int .i64 x12),(13,.int .i64 (IntKind.wrap .i64 (x13+1)))] h))))
 (some (.bool true,h)):=by kernel_rfl
def Eg0:Cuts:={ globs:=0,loops:=[],regs:=[],plans:=[] }
def Gg4:List Item:=A9 Tryz.f225
theorem Hq8 (C:A6) (R:A8) (p:List Value) (h:H) :
 B0 PR Eg0 C R Dl9 Tryz.f225 100000 true Gg4 [(0,.agg ⟨p⟩)] h =
 nw (.cells D3 false p) h fun b w=>gInt .i64 (Addr.add ⟨b,0,none⟩ 0) w fun x=>bnd (cond (decide (x<1)) (some (true,w)) (gInt .i64 (Addr.add ⟨b,0,none⟩ 0) w fun x_1=>some (decide (x_1>3),w))) fun c w1=>bnd (cond c (some (true,w1)) (gInt .i64 (Addr.add ⟨b,0,none⟩ 1) w1 fun x_2=>some (decide (x_2<0),w1))) fun c_1 w2=>bnd (cond c_1 (some (true,w2)) (gInt .i64 (Addr.add ⟨b,0,none⟩ 1) w2 fun x_3=>some (decide (x_3>8),w2))) fun c_2 w3=>bnd (cond c_2 (some (true,w3)) (gInt .i64 (Addr.add ⟨b,0,none⟩ 2) w3 fun x_4=>some (decide (x_4<0),w3))) fun c_3 w4=>bnd (cond c_3 (some (true,w4)) (gInt .i64 (Addr.add ⟨b,0,none⟩ 2) w4 fun x_5=>some (decide (x_5≥8),w4))) fun c_4 w5=>bnd (cond c_4 (some (true,w5)) (gInt .i64 (Addr.add ⟨b,0,none⟩ 3) w5 fun x_6=>some (decide (x_6<0),w5))) fun c_5 w6=>bnd (cond c_5 (some (true,w6)) (gInt .i64 (Addr.add ⟨b,0,none⟩ 3) w6 fun x_7=>some (decide (x_7>255),w6))) fun c_6 w7=>cond c_6
 (some (.bool false,w7))
 (gInt .i64 (Addr.add ⟨b,0,none⟩ 4) w7 fun x_8=>bnd (C Ak5 [.int .i64 x_8,.int .i64 0] w7) fun r w8=>aBool r fun x_9=>bnd (cond (!x_9) (some (true,w8)) (gInt .i64 (Addr.add ⟨b,0,none⟩ 5) w8 fun x_10=>bnd (C Ak5 [.int .i64 x_10,.int .i64 16896] w8) fun r_1 w9=>aBool r_1 fun x_11=>some (!x_11,w9))) fun c_7 w10=>bnd (cond c_7 (some (true,w10)) (gInt .i64 (Addr.add ⟨b,0,none⟩ 6) w10 fun x_12=>bnd (C Ak5 [.int .i64 x_12,.int .i64 16896] w10) fun r_2 w11=>aBool r_2 fun x_13=>some (!x_13,w11))) fun c_8 w12=>bnd (cond c_8 (some (true,w12)) (gInt .i64 (Addr.add ⟨b,0,none⟩ 7) w12 fun x_14=>bnd (C Ak5 [.int .i64 x_14,.int .i64 16896] w12) fun r_3 w13=>aBool r_3 fun x_15=>some (!x_15,w13))) fun c_9 w14=>bnd (cond c_9 (some (true,w14)) (gInt .i64 (Addr.add ⟨b,0,none⟩ 6) w14 fun x_16=>gInt .i64 (Addr.add ⟨b,0,none⟩ 7) w14 fun x_17=>some ((P3 .i64 x_16 x_17) != 0,w14))) fun c_10 w15=>cond c_10
 (some (.bool false,w15))
 (ckB (liveA (Addr.add ⟨b,0,none⟩ 8) w15) (bnd (C E8 [.slice (H5 (some (Addr.add ⟨b,0,none⟩ 8)) (decide (0<8)) (0*1)) (8-0) (8-0),.func (.func Bj0) ⟨[]⟩ ⟨[]⟩] w15) fun r_4 w16=>aBool r_4 fun x_18=>cond x_18
 (some (.bool false,w16))
 (gInt .i64 (Addr.add ⟨b,0,none⟩ 0) w16 fun x_19=>cond (x_19==2)
 (gInt .i64 (Addr.add ⟨b,0,none⟩ 4) w16 fun x_20=>bnd (cond (x_20==0) (gAgg (Addr.add ⟨b,0,none⟩ 8) 8 w16 fun x_21=>B91 PR Gm1 x_21 [.int .i64 0,.int .i64 0,.int .i64 0,.int .i64 0,.int .i64 0,.int .i64 0,.int .i64 0,.int .i64 0] fun eq=>some (eq,w16)) (some (false,w16))) fun c_11 w17=>some (.bool c_11,w17))
 (gInt .i64 (Addr.add ⟨b,0,none⟩ 3) w16 fun x_22=>some (.bool (x_22==0),w16)))))):=by kernel_rfl
end
end Go.EQ

set_option maxRecDepth 100000
namespace Go.EQ
open Go Go.NN Go.Proofs
variable (C : A6) (R : A8)
noncomputable section
def An0:Cuts:={ globs:=0,loops:=[(18,[0,6,10,11])],regs:=[(16,[0,6])],plans:=[] }
def A37:List Item:=A9 Tryz.f6
def Ao1:List Item:=stk [0,1,0,1,0,1,0,1,0,1,0] A37
def Ag2:List Item:=stk [0,1,0,1,0,1,0,1,0,1,0,1,0,0,1,4,5] A37
theorem E08 (C:A6) (R:A8) (b:Option Addr) (bn bc:Nat) (doubled:Bool) (h:H) :
 B0 PR An0 C R E0 Tryz.f6 100000 true A37 [(0,.slice b bn bc),(1,.bool doubled)] h =
 bnd (C Bb9 [] h) fun r w=>aSl r fun x xn xc=>bnd (C Af1 [.slice x xn xc] w) fun r_1 w1=>as4 r_1 fun r_2 r_3 r_4 r_5=>aPtr r_2 fun _=>aPtr r_3 fun x_2=>aPtr r_4 fun _=>aPtr r_5 fun _=>bnd (cond x_2.isNone (some (true,w1)) (some (decide (((bn:Nat):Int)>32),w1))) fun c w2=>cond c
 (bnd (cond (!x_2.isNone) (bnd (C Bd1 [] w2) fun r_6 w3=>aBool r_6 fun x_5=>some (x_5,w3)) (some (false,w2))) fun c_1 w4=>some (.bool c_1,w4))
 (bnd (C Bl7 [.pointer x_2,.int .i64 0] w2) fun r_7 w5=>aAgg r_7 fun x_6=>nth x_6 1 fun E=>aInt .i64 E fun E_1=>bnd (cond (E_1 != 0) (some (true,w5)) (bnd (C Ag5 [.pointer x_2,.int .i64 0,.int .i64 2,.slice b bn bc] w5) fun r_8 w6=>aAgg r_8 fun x_7=>nth x_7 0 fun N=>aInt .i64 N fun N_1=>some (N_1 != ((bn:Nat):Int),w6))) fun c_2 w7=>cond c_2
 (some (.bool false,w7))
 (cond doubled
 (bnd (C Dw8 [.pointer x_2,.int .i64 0,.int .i64 2] w7) fun r_9 w8=>aAgg r_9 fun x_8=>nth x_8 0 fun N_2=>aInt .i64 N_2 fun N_3=>bnd (cond (N_3 != 3) (some (true,w8)) (bnd (C Ar6 [.pointer x_2,.int .i64 0,.int .i64 2] w8) fun r_10 w9=>aAgg r_10 fun x_9=>nth x_9 1 fun E_2=>aInt .i64 E_2 fun E_3=>some (E_3 != 0,w9))) fun c_3 w10=>cond c_3
 (some (.bool false,w10))
 (bnd (C As9 [.pointer x_2,.int .i64 0,.int .i64 1,.int .i64 32] w10) fun r_11 w11=>aAgg r_11 fun x_10=>nw (.cells L5 false [.int .i64 0,.int .i64 0,.slice none 0 0,.bool false]) w11 fun b_1 w12=>ck (List.length x_10=4) (pAgg ⟨b_1,0,none⟩ x_10 w12 fun w13=>bnd (cond (decide (((bn:Nat):Int)>0)) (gSl (Addr.add ⟨b_1,0,none⟩ 2) w13 fun x_11 xn_1 _=>gCells x_11 xn_1 w13 fun cs=>asBytes cs fun l=>gCells b bn w13 fun cs_1=>asBytes cs_1 fun l_1=>some (!((ByteArray.mk ⟨l⟩).toList==(ByteArray.mk ⟨l_1⟩).toList),w13)) (some (false,w13))) fun c_4 w14=>bnd (cond c_4 (some (true,w14)) (bnd (cond (((bn:Nat):Int)==0) (gBool (Addr.add ⟨b_1,0,none⟩ 3) w14 fun x_12=>some (!x_12,w14)) (some (false,w14))) fun c_5 w15=>some (c_5,w15))) fun c_6 w16=>cond c_6
 (some (.bool false,w16))
 (bnd (C Ag5 [.pointer x_2,.int .i64 0,.int .i64 3,.slice b bn bc] w16) fun r_12 w17=>aAgg r_12 fun x_13=>nth x_13 0 fun N_4=>aInt .i64 N_4 fun N_5=>bnd (cond (N_5 != ((bn:Nat):Int)) (some (true,w17)) (bnd (C Ar6 [.pointer x_2,.int .i64 0,.int .i64 3] w17) fun r_13 w18=>aAgg r_13 fun x_14=>nth x_14 1 fun E_4=>aInt .i64 E_4 fun E_5=>some (E_5 != 0,w18))) fun c_7 w19=>cond c_7
 (some (.bool false,w19))
 (R E0 Ao1 [(0,.slice b bn bc),(6,.pointer x_2)] w19)))))
 (bnd (C Ar6 [.pointer x_2,.int .i64 0,.int .i64 2] w7) fun r_14 w20=>aAgg r_14 fun x_15=>nth x_15 1 fun E_6=>aInt .i64 E_6 fun E_7=>cond (E_7 != 0)
 (some (.bool false,w20))
 (R E0 Ao1 [(0,.slice b bn bc),(6,.pointer x_2)] w20)))):=by kernel_rfl
theorem Ef0 (C:A6) (R:A8) (b:Option Addr) (bn bc:Nat) (c:Option Addr) (h:H) :
 B0 PR An0 C R E0 Tryz.f6 100000 true Ao1 [(0,.slice b bn bc),(6,.pointer c)] h =
 R E0 Ag2 [(0,.slice b bn bc),(6,.pointer c),(10,.string (ByteArray.mk ⟨[]⟩)),(11,.int .i64 0)] h:=by kernel_rfl
theorem B04 (C:A6) (R:A8) (b:Option Addr) (bn bc:Nat) (c:Option Addr) (got:ByteArray) (i:Int) (h:H) :
 B0 PR An0 C R E0 Tryz.f6 100000 true Ag2 [(0,.slice b bn bc),(6,.pointer c),(10,.string got),(11,.int .i64 i)] h =
 cond (decide (i<8))
 (bnd (C As9 [.pointer c,.int .i64 0,.int .i64 1,.int .i64 7] h) fun r w=>aAgg r fun x=>nw (.cells L5 false [.int .i64 0,.int .i64 0,.slice none 0 0,.bool false]) w fun b_1 w1=>ck (List.length x=4) (pAgg ⟨b_1,0,none⟩ x w1 fun w2=>gInt .i64 (Addr.add ⟨b_1,0,none⟩ 1) w2 fun x_1=>bnd (cond (x_1 != 0) (some (true,w2)) (gBool (Addr.add ⟨b_1,0,none⟩ 3) w2 fun x_2=>some (x_2,w2))) fun c_1 w3=>cond c_1
 (some (.bool false,w3))
 (gSl (Addr.add ⟨b_1,0,none⟩ 2) w3 fun x_3 xn _=>gCells x_3 xn w3 fun cs=>asBytes cs fun l=>ck (ByteArray.size got+ByteArray.size (ByteArray.mk ⟨l⟩)≤B4) (R E0 Ag2 [(0,.slice b bn bc),(6,.pointer c),(10,.string (got++(ByteArray.mk ⟨l⟩))),(11,.int .i64 (IntKind.wrap .i64 (i+1)))] w3))))
 (gCells b bn h fun cs_1=>asBytes cs_1 fun l_1=>bnd (cond (!(got.toList==(ByteArray.mk ⟨l_1⟩).toList)) (some (true,h)) (bnd (C Ar6 [.pointer c,.int .i64 0,.int .i64 1] h) fun r_1 w4=>aAgg r_1 fun x_4=>nth x_4 1 fun E=>aInt .i64 E fun E_1=>some (E_1 != 0,w4))) fun c_2 w5=>cond c_2
 (some (.bool false,w5))
 (bnd (C Bl7 [.pointer c,.int .i64 0] w5) fun r_2 w6=>aAgg r_2 fun x_5=>nth x_5 0 fun N=>aInt .i64 N fun N_1=>bnd (cond (N_1 != 33) (some (true,w6)) (bnd (C Ar6 [.pointer c,.int .i64 0,.int .i64 1] w6) fun r_3 w7=>aAgg r_3 fun x_6=>nth x_6 1 fun E_2=>aInt .i64 E_2 fun E_3=>some (E_3 != 0,w7))) fun c_3 w8=>cond c_3
 (some (.bool false,w8))
 (nw (.cells A7 false [.int .u8 1]) w8 fun b_2 w9=>bnd (C Ag5 [.pointer c,.int .i64 0,.int .i64 2,.slice (some ⟨b_2,0,none⟩) 1 1] w9) fun r_4 w10=>aAgg r_4 fun x_7=>nw (.cells L5 false [.int .i64 0,.int .i64 0,.slice none 0 0,.bool false]) w10 fun b_3 w11=>ck (List.length x_7=4) (pAgg ⟨b_3,0,none⟩ x_7 w11 fun w12=>bnd (C Ae4 [.pointer c,.int .i64 0] w12) fun r_5 w13=>as2 r_5 fun r_6 r_7=>aAgg r_6 fun x_8=>aInt .i64 r_7 fun x_9=>nw (.cells D3 false [.int .i64 0,.int .i64 0,.int .i64 0,.int .i64 0,.int .i64 0,.int .i64 0,.int .i64 0,.int .i64 0,.int .i64 0,.int .i64 0,.int .i64 0,.int .i64 0,.int .i64 0,.int .i64 0,.int .i64 0,.int .i64 0]) w13 fun b_4 w14=>ck (List.length x_8=16) (pAgg ⟨b_4,0,none⟩ x_8 w14 fun w15=>gInt .i64 (Addr.add ⟨b_3,0,none⟩ 1) w15 fun x_10=>bnd (cond (x_10==132) (gInt .i64 (Addr.add ⟨b_3,0,none⟩ 0) w15 fun x_11=>some (x_11==0,w15)) (some (false,w15))) fun c_4 w16=>bnd (cond c_4 (some (x_9==0,w16)) (some (false,w16))) fun c_5 w17=>bnd (cond c_5 (gInt .i64 (Addr.add ⟨b_4,0,none⟩ 4) w17 fun x_12=>some (x_12==8192,w17)) (some (false,w17))) fun c_6 w18=>bnd (cond c_6 (bnd (C Bd1 [] w18) fun r_8 w19=>aBool r_8 fun x_13=>some (x_13,w19)) (some (false,w18))) fun c_7 w20=>some (.bool c_7,w20)))))):=by kernel_rfl
def Dq8:Cuts:={ globs:=0,loops:=[],regs:=[],plans:=[] }
def Es2:List Item:=A9 Tryz.f14
theorem G76 (C:A6) (R:A8) (c:Option Addr) (i:Int) (fd:Int) (n:Int) (h:H) :
 B0 PR Dq8 C R As9 Tryz.f14 100000 true Es2 [(0,.pointer c),(1,.int .i64 i),(2,.int .i64 fd),(3,.int .i64 n)] h =
 nw (.cells L5 false [.int .i64 0,.int .i64 0,.slice none 0 0,.bool false]) h fun b w=>bnd (C Da0 [.pointer c,.int .i64 i,.int .i64 fd,.int .i64 n] w) fun r w1=>as2 r fun r_1 r_2=>aAgg r_1 fun x=>aInt .i64 r_2 fun x_1=>nw (.cells D5 false [.int .i64 0,.int .i64 0,.int .i64 0,.int .i64 0]) w1 fun b_1 w2=>ck (List.length x=4) (pAgg ⟨b_1,0,none⟩ x w2 fun w3=>bnd (cond (x_1 != 0) (some (true,w3)) (some (n==0,w3))) fun c_1 w4=>cond c_1
 (bnd (C M0 [.int .i64 x_1] w4) fun r_3 w5=>aAgg r_3 fun x_2=>ck (List.length x_2=4) (pAgg ⟨b,0,none⟩ x_2 w5 fun w6=>gAgg ⟨b,0,none⟩ 4 w6 fun x_3=>some (.agg ⟨x_3⟩,w6)))
 (gAgg ⟨b_1,0,none⟩ 4 w4 fun x_4=>bnd (C By5 [.pointer c,.agg ⟨x_4⟩] w4) fun r_4 w7=>as2 r_4 fun r_5 r_6=>aAgg r_5 fun x_5=>aBool r_6 fun x_6=>nw (.cells B00 false [.int .i64 0,.int .i64 0,.int .i64 0,.int .i64 0,.int .u8 0,.int .u8 0,.int .u8 0,.int .u8 0,.int .u8 0,.int .u8 0,.int .u8 0,.int .u8 0,.int .u8 0,.int .u8 0,.int .u8 0,.int .u8 0,.int .u8 0,.int .u8 0,.int .u8 0,.int .u8 0,.int .u8 0,.int .u8 0,.int .u8 0,.int .u8 0,.int .u8 0,.int .u8 0,.int .u8 0,.int .u8 0,.int .u8 0,.int .u8 0,.int .u8 0,.int .u8 0,.int .u8 0,.int .u8 0,.int .u8 0,.int .u8 0,.nilFunc]) w7 fun b_2 w8=>ck (List.length x_5=37) (pAgg ⟨b_2,0,none⟩ x_5 w8 fun w9=>cond (!x_6)
 (bnd (C M0 [.int .i64 105] w9) fun r_7 w10=>aAgg r_7 fun x_7=>ck (List.length x_7=4) (pAgg ⟨b,0,none⟩ x_7 w10 fun w11=>gAgg ⟨b,0,none⟩ 4 w11 fun x_8=>some (.agg ⟨x_8⟩,w11)))
 (gInt .i64 (Addr.add (Addr.add ⟨b_2,0,none⟩ 0) 1) w9 fun x_9=>bnd (cond (x_9==0) (gInt .i64 (Addr.add ⟨b_1,0,none⟩ 0) w9 fun x_10=>some (x_10==1,w9)) (some (false,w9))) fun c_2 w12=>bnd (cond c_2 (gInt .i64 (Addr.add (Addr.add ⟨b_2,0,none⟩ 0) 3) w12 fun x_11=>some (x_11==0,w12)) (some (false,w12))) fun c_3 w13=>cond c_3
 (pAgg ⟨b,0,none⟩ [.int .i64 0,.int .i64 0,.slice none 0 0,.bool false] w13 fun w14=>gAgg ⟨b,0,none⟩ 4 w14 fun x_12=>some (.agg ⟨x_12⟩,w14))
 (gInt .i64 (Addr.add (Addr.add ⟨b_2,0,none⟩ 0) 1) w13 fun x_13=>cond (x_13==0)
 (gAgg ⟨b_1,0,none⟩ 4 w13 fun x_14=>bnd (C Aw7 [.agg ⟨x_14⟩] w13) fun r_8 w15=>aAgg r_8 fun x_15=>ck (List.length x_15=4) (pAgg ⟨b,0,none⟩ x_15 w15 fun w16=>gAgg ⟨b,0,none⟩ 4 w16 fun x_16=>some (.agg ⟨x_16⟩,w16)))
 (gAgg (Addr.add ⟨b_2,0,none⟩ 0) 36 w13 fun x_17=>bnd (C Da2 [.agg ⟨x_17⟩,.int .i64 n] w13) fun r_9 w17=>as2 r_9 fun r_10 r_11=>aAgg r_10 fun x_18=>aSl r_11 fun x_19 xn xc=>nw (.cells D1 false [.int .i64 0,.int .i64 0,.int .i64 0,.int .i64 0,.int .u8 0,.int .u8 0,.int .u8 0,.int .u8 0,.int .u8 0,.int .u8 0,.int .u8 0,.int .u8 0,.int .u8 0,.int .u8 0,.int .u8 0,.int .u8 0,.int .u8 0,.int .u8 0,.int .u8 0,.int .u8 0,.int .u8 0,.int .u8 0,.int .u8 0,.int .u8 0,.int .u8 0,.int .u8 0,.int .u8 0,.int .u8 0,.int .u8 0,.int .u8 0,.int .u8 0,.int .u8 0,.int .u8 0,.int .u8 0,.int .u8 0,.int .u8 0]) w17 fun b_3 w18=>ck (List.length x_18=36) (pAgg ⟨b_3,0,none⟩ x_18 w18 fun w19=>gFv (Addr.add ⟨b_2,0,none⟩ 36) w19 fun x_20=>gAgg ⟨b_3,0,none⟩ 36 w19 fun x_21=>aFn x_20 fun g fi cp=>bnd (C g (fi++([.agg ⟨x_21⟩]++cp)) w19) fun r_12 w20=>aBool r_12 fun x_22=>cond (!x_22)
 (bnd (C M0 [.int .i64 105] w20) fun r_13 w21=>aAgg r_13 fun x_23=>ck (List.length x_23=4) (pAgg ⟨b,0,none⟩ x_23 w21 fun w22=>gAgg ⟨b,0,none⟩ 4 w22 fun x_24=>some (.agg ⟨x_24⟩,w22)))
 (pAgg ⟨b,0,none⟩ [.int .i64 ((xn:Nat):Int),.int .i64 0,.slice x_19 xn xc,.bool false] w20 fun w23=>gAgg ⟨b,0,none⟩ 4 w23 fun x_25=>some (.agg ⟨x_25⟩,w23))))))))):=by kernel_rfl
def B76:Cuts:={ globs:=0,loops:=[],regs:=[],plans:=[] }
def D37:List Item:=A9 Tryz.f26
theorem Gn8 (C:A6) (R:A8) (k:Option Addr) (env:Int) (c:List Value) (h:H) :
 B0 PR B76 C R S8 Tryz.f26 100000 true D37 [(0,.pointer k),(1,.int .i64 env),(2,.agg ⟨c⟩)] h =
 nw (.cells Az0 false c) h fun b w=>nw (.cells Et8 false [.int .i64 0,.int .i64 0,.slice none 0 0]) w fun b_1 w1=>bnd (cond (decide (env<0)) (some (true,w1)) (aSome k fun p=>gSl (Addr.add p 0) w1 fun _ xn _=>some (decide (env≥((xn:Nat):Int)),w1))) fun c_1 w2=>cond c_1
 (pAgg ⟨b_1,0,none⟩ [.int .i64 1,.int .i64 0,.slice none 0 0] w2 fun w3=>gAgg ⟨b_1,0,none⟩ 3 w3 fun x_1=>some (.agg ⟨x_1⟩,w3))
 (gAgg ⟨b,0,none⟩ 7 w2 fun x_2=>bnd (C A28 [.pointer k,.int .i64 env,.agg ⟨x_2⟩] w2) fun r w4=>as3 r fun r_1 r_2 r_3=>aSl r_1 fun x_3 xn_1 xc_1=>aInt .i64 r_2 fun x_4=>aBool r_3 fun x_5=>cond x_5
 (pAgg ⟨b_1,0,none⟩ [.int .i64 x_4,.int .i64 0,.slice x_3 xn_1 xc_1] w4 fun w5=>gAgg ⟨b_1,0,none⟩ 3 w5 fun x_6=>some (.agg ⟨x_6⟩,w5))
 (gAgg ⟨b,0,none⟩ 7 w4 fun x_7=>bnd (C Ay5 [.pointer k,.int .i64 env,.agg ⟨x_7⟩] w4) fun r_4 w6=>as2 r_4 fun r_5 r_6=>aInt .i64 r_5 fun x_8=>aInt .i64 r_6 fun x_9=>pAgg ⟨b_1,0,none⟩ [.int .i64 x_9,.int .i64 x_8,.slice none 0 0] w6 fun w7=>gAgg ⟨b_1,0,none⟩ 3 w7 fun x_10=>some (.agg ⟨x_10⟩,w7))):=by kernel_rfl
def B72:Cuts:={ globs:=0,loops:=[],regs:=[],plans:=[(7,⟨[0,1,2,3,4,5,6,7,8,9,10,11,12,13,14,15,16],[0,1,3,7,0,0,32,0,128,0,512,2047,4095,8191,8191,16383,65535],[],[]⟩),(9,⟨[0,1,2,3,4,5,6,7,8,9,10,11,12,13],[0,1,3,7,0,0,32,0,128,0,512,1536,4095,8191],[],[]⟩),(11,⟨[0,1,2,3,4,5,6,7,8,9,10,11,12,13,14,15,16],[0,1,3,7,0,0,32,0,128,0,512,0,2048,0,8192,32767,65535],[],[]⟩),(13,⟨[0,1,2,3,4,5,6,7,8,9,10,11,12,13,14,15,16,17,18,19,20,21,22,23],[0,1,3,7,15,31,63,0,0,256,0,1024,0,4096,0,16384,0,65536,262143,524287,1048575,1048575,2097151,8388607],[],[]⟩),(15,⟨[0,1,2,3,4,5,6,7,8,9,10,11,12,13,14,15],[0,1,3,7,15,31,63,0,0,256,1023,2047,4095,4095,8191,32767],[],[]⟩),(17,⟨[0,1,2,3,4,5,6,7,8,9,10,11,12,13,14,15,16,17],[0,1,3,7,0,16,48,112,240,0,1008,2032,4095,8191,16383,16383,32767,131071],[],[]⟩),(19,⟨[0,1,2,3,4,5,6,7,8,9,10,11,12,13,14,15],[0,1,3,7,0,16,48,112,240,0,1008,2032,0,4096,16383,32767],[],[]⟩),(23,⟨[0,1,2,3,4,5,6,7,8,9,10,11,12,13,14,15,16,17],[0,1,3,7,0,16,63,127,0,0,512,1536,3584,8191,16383,32767,32767,65535],[],[]⟩),(27,⟨[0,1,2,3,4,5,6,7,8,9,10,11,12,13,14,15,16,17,18],[0,0,0,4,15,31,63,127,255,511,63,1087,4095,8191,63,63,32831,131071,262143],[],[]⟩)] }
def D67:List Item:=A9 Tryz.f27
theorem Gm7 (C:A6) (R:A8) (k:Option Addr) (e:Int) (c:List Value) (h:H) :
 B0 PR B72 C R As6 Tryz.f27 100000 true D67 [(0,.pointer k),(1,.int .i64 e),(2,.agg ⟨c⟩)] h =
 nw (.cells Az0 false c) h fun b w=>bnd (cond (decide (e<0)) (some (true,w)) (aSome k fun p=>gSl (Addr.add (Addr.add p 0) 1) w fun _ xn _=>some (decide (e≥((xn:Nat):Int)),w))) fun c_1 w1=>cond c_1
 (some (.tuple ⟨[.int .i64 1,.int .i64 0,.string (ByteArray.mk ⟨[]⟩)]⟩,w1))
 (gInt .i64 (Addr.add ⟨b,0,none⟩ 0) w1 fun x_1=>cond (x_1==1)
 (aSome k fun p_1=>gPtr (Addr.add p_1 6) w1 fun x_2=>gInt .i64 (Addr.add ⟨b,0,none⟩ 1) w1 fun x_3=>gInt .i64 (Addr.add ⟨b,0,none⟩ 2) w1 fun x_4=>gInt .i64 (Addr.add ⟨b,0,none⟩ 3) w1 fun x_5=>bnd (C Ek2 [.pointer x_2,.int .i64 e,.int .i64 x_3,.int .i64 x_4,.int .i64 x_5] w1) fun r w2=>as2 r fun r_1 r_2=>aStr r_1 fun x_6=>aInt .i64 r_2 fun x_7=>some (.tuple ⟨[.int .i64 x_7,.int .i64 0,.string x_6]⟩,w2))
 (cond (x_1==2)
 (aSome k fun p_2=>gPtr (Addr.add p_2 6) w1 fun x_8=>gInt .i64 (Addr.add ⟨b,0,none⟩ 1) w1 fun x_9=>gInt .i64 (Addr.add ⟨b,0,none⟩ 2) w1 fun x_10=>gSl (Addr.add ⟨b,0,none⟩ 6) w1 fun x_11 xn_1 _=>gCells x_11 xn_1 w1 fun cs=>asBytes cs fun l=>bnd (C An9 [.pointer x_8,.int .i64 e,.int .i64 x_9,.int .i64 x_10,.string (ByteArray.mk ⟨l⟩)] w1) fun r_3 w3=>aInt .i64 r_3 fun x_12=>some (.tuple ⟨[.int .i64 x_12,.int .i64 0,.string (ByteArray.mk ⟨[]⟩)]⟩,w3))
 (cond (x_1==3)
 (aSome k fun p_3=>gPtr (Addr.add p_3 6) w1 fun x_13=>gInt .i64 (Addr.add ⟨b,0,none⟩ 1) w1 fun x_14=>gInt .i64 (Addr.add ⟨b,0,none⟩ 2) w1 fun x_15=>gInt .i64 (Addr.add ⟨b,0,none⟩ 4) w1 fun x_16=>gInt .i64 (Addr.add ⟨b,0,none⟩ 5) w1 fun x_17=>gInt .i64 (Addr.add ⟨b,0,none⟩ 3) w1 fun x_18=>bnd (C Ek7 [.pointer x_13,.int .i64 e,.int .i64 x_14,.int .i64 x_15,.int .i64 x_16,.int .i64 x_17,.int .i64 x_18] w1) fun r_4 w4=>aInt .i64 r_4 fun x_19=>some (.tuple ⟨[.int .i64 x_19,.int .i64 0,.string (ByteArray.mk ⟨[]⟩)]⟩,w4))
 (cond (x_1==4)
 (aSome k fun p_4=>gPtr (Addr.add p_4 6) w1 fun x_20=>aSome x_20 fun p_5=>gPtr (Addr.add p_5 3) w1 fun x_21=>gInt .i64 (Addr.add ⟨b,0,none⟩ 1) w1 fun x_22=>gInt .i64 (Addr.add ⟨b,0,none⟩ 4) w1 fun x_23=>gInt .i64 (Addr.add ⟨b,0,none⟩ 5) w1 fun x_24=>gInt .i64 (Addr.add ⟨b,0,none⟩ 2) w1 fun x_25=>gInt .i64 (Addr.add ⟨b,0,none⟩ 3) w1 fun x_26=>bnd (C Ep0 [.pointer x_21,.int .i64 e,.int .i64 x_22,.int .i64 x_23,.int .i64 x_24,.int .i64 x_25,.int .i64 x_26] w1) fun r_5 w5=>as2 r_5 fun r_6 r_7=>aInt .i64 r_6 fun x_27=>aInt .i64 r_7 fun x_28=>some (.tuple ⟨[.int .i64 x_28,.int .i64 x_27,.string (ByteArray.mk ⟨[]⟩)]⟩,w5))
 (cond (x_1==5)
 (aSome k fun p_6=>gPtr (Addr.add p_6 6) w1 fun x_29=>aSome x_29 fun p_7=>gPtr (Addr.add p_7 3) w1 fun x_30=>gInt .i64 (Addr.add ⟨b,0,none⟩ 1) w1 fun x_31=>bnd (C Ek3 [.pointer x_30,.int .i64 e,.int .i64 x_31] w1) fun r_8 w6=>as2 r_8 fun r_9 r_10=>aInt .i64 r_9 fun x_32=>aInt .i64 r_10 fun x_33=>some (.tuple ⟨[.int .i64 x_33,.int .i64 x_32,.string (ByteArray.mk ⟨[]⟩)]⟩,w6))
 (cond (x_1==6)
 (aSome k fun p_8=>gPtr (Addr.add p_8 5) w1 fun x_34=>aSome k fun p_9=>gSl (Addr.add (Addr.add p_9 0) 1) w1 fun x_35 xn_2 _=>aSome x_35 fun p_10=>ck ((0:Int)≤e∧e<((xn_2:Nat):Int)) (gInt .i64 (Addr.add (B5 p_10) (Int.toNat e*1)) w1 fun x_36=>bnd (C Ep9 [.pointer x_34,.int .i64 x_36] w1) fun r_11 w7=>as2 r_11 fun r_12 r_13=>aInt .i64 r_12 fun x_37=>aInt .i64 r_13 fun x_38=>some (.tuple ⟨[.int .i64 x_38,.int .i64 x_37,.string (ByteArray.mk ⟨[]⟩)]⟩,w7)))
 (cond (x_1==7)
 (aSome k fun p_11=>gPtr (Addr.add p_11 5) w1 fun x_39=>aSome k fun p_12=>gSl (Addr.add (Addr.add p_12 0) 1) w1 fun x_40 xn_3 _=>aSome x_40 fun p_13=>ck ((0:Int)≤e∧e<((xn_3:Nat):Int)) (gInt .i64 (Addr.add (B5 p_13) (Int.toNat e*1)) w1 fun x_41=>gInt .i64 (Addr.add ⟨b,0,none⟩ 3) w1 fun x_42=>bnd (C E06 [.pointer x_39,.int .i64 x_41,.int .i64 x_42] w1) fun r_14 w8=>aInt .i64 r_14 fun x_43=>some (.tuple ⟨[.int .i64 x_43,.int .i64 0,.string (ByteArray.mk ⟨[]⟩)]⟩,w8)))
 (cond (x_1==8)
 (gInt .i64 (Addr.add ⟨b,0,none⟩ 3) w1 fun x_44=>bnd (C Dw5 [.pointer k,.int .i64 e,.int .i64 x_44] w1) fun r_15 w9=>aBool r_15 fun x_45=>cond x_45
 (aSome k fun p_14=>gSl (Addr.add p_14 7) w9 fun x_46 xn_4 _=>gInt .i64 (Addr.add ⟨b,0,none⟩ 3) w9 fun x_47=>aSome x_46 fun p_15=>ck ((0:Int)≤x_47∧x_47<((xn_4:Nat):Int)) (gPtr (Addr.add (B5 p_15) (Int.toNat x_47*1)) w9 fun x_48=>aSome k fun p_16=>gInt .i64 (Addr.add p_16 8) w9 fun x_49=>bnd (C Ez2 [.pointer x_48,.int .i64 e,.int .i64 x_49] w9) fun r_16 w10=>as2 r_16 fun r_17 r_18=>aInt .i64 r_17 fun x_50=>aBool r_18 fun _=>some (.tuple ⟨[.int .i64 0,.int .i64 x_50,.string (ByteArray.mk ⟨[]⟩)]⟩,w10)))
 (some (.tuple ⟨[.int .i64 8,.int .i64 0,.string (ByteArray.mk ⟨[]⟩)]⟩,w9)))
 (cond (x_1==9)
 (gInt .i64 (Addr.add ⟨b,0,none⟩ 3) w1 fun x_52=>bnd (C Dw5 [.pointer k,.int .i64 e,.int .i64 x_52] w1) fun r_19 w11=>aBool r_19 fun x_53=>bnd (cond x_53 (aSome k fun p_17=>gSl (Addr.add p_17 7) w11 fun x_54 xn_5 _=>gInt .i64 (Addr.add ⟨b,0,none⟩ 3) w11 fun x_55=>aSome x_54 fun p_18=>ck ((0:Int)≤x_55∧x_55<((xn_5:Nat):Int)) (gPtr (Addr.add (B5 p_18) (Int.toNat x_55*1)) w11 fun x_56=>gInt .i64 (Addr.add ⟨b,0,none⟩ 2) w11 fun x_57=>bnd (C Ez1 [.pointer x_56,.int .i64 e,.int .i64 x_57] w11) fun r_20 w12=>aBool r_20 fun x_58=>some (x_58,w12))) (some (false,w11))) fun c_2 w13=>cond c_2
 (some (.tuple ⟨[.int .i64 0,.int .i64 0,.string (ByteArray.mk ⟨[]⟩)]⟩,w13))
 (some (.tuple ⟨[.int .i64 8,.int .i64 0,.string (ByteArray.mk ⟨[]⟩)]⟩,w13)))
 (cond (x_1==10)
 (aSome k fun p_19=>gInt .i64 (Addr.add p_19 8) w1 fun x_59=>some (.tuple ⟨[.int .i64 0,.int .i64 x_59,.string (ByteArray.mk ⟨[]⟩)]⟩,w1))
 (some (.tuple ⟨[.int .i64 7,.int .i64 0,.string (ByteArray.mk ⟨[]⟩)]⟩,w1)))))))))))):=by kernel_rfl
def A34:Cuts:={ globs:=0,loops:=[(4,[1,3,4])],regs:=[],plans:=[(2,⟨[0,1,2,5,6,9,10,13,14,3,4,7,8,11,12,15,16,17],[0,0,2,6,15,0,32,110,255,0,512,1774,4095,0,8192,28398,65535,131071],[(3,[6,10,14]),(7,[10,14]),(11,[14])],[]⟩)] }
def Bo3:List Item:=A9 Tryz.f29
def Aq9:List Item:=stk [0,1,0,1,0,1,0,0,1,4,5] Bo3
theorem Ey6 (C:A6) (R:A8) (p:List Value) (h:H) :
 B0 PR A34 C R U4 Tryz.f29 100000 true Bo3 [(0,.agg ⟨p⟩)] h =
 nw (.cells D3 false p) h fun b w=>gInt .i64 (Addr.add ⟨b,0,none⟩ 0) w fun x=>gInt .i64 (Addr.add ⟨b,0,none⟩ 1) w fun x_1=>gInt .i64 (Addr.add ⟨b,0,none⟩ 2) w fun x_2=>gInt .i64 (Addr.add ⟨b,0,none⟩ 3) w fun x_3=>nw (.cells A7 false [.int .u8 (IntKind.wrap .u8 (x)),.int .u8 (IntKind.wrap .u8 (x_1)),.int .u8 (IntKind.wrap .u8 (x_2)),.int .u8 (IntKind.wrap .u8 (x_3))]) w fun b_1 w1=>gCells (some ⟨b_1,0,none⟩) 4 w1 fun cs=>asBytes cs fun l=>gInt .i64 (Addr.add ⟨b,0,none⟩ 4) w1 fun x_4=>gInt .i64 (Addr.add ⟨b,0,none⟩ 5) w1 fun x_5=>gInt .i64 (Addr.add ⟨b,0,none⟩ 6) w1 fun x_6=>gInt .i64 (Addr.add ⟨b,0,none⟩ 7) w1 fun x_7=>bnd (C A92 [.int .i64 x_4] w1) fun r w2=>aStr r fun x_8=>gInt .i64 (Addr.add ⟨b,0,none⟩ 5) w2 fun x_9=>same (.int .i64 x_5) (.int .i64 x_9) (gInt .i64 (Addr.add ⟨b,0,none⟩ 6) w2 fun x_10=>same (.int .i64 x_6) (.int .i64 x_10) (gInt .i64 (Addr.add ⟨b,0,none⟩ 7) w2 fun x_11=>same (.int .i64 x_7) (.int .i64 x_11) (ck (ByteArray.size (ByteArray.mk ⟨l⟩)+ByteArray.size x_8≤B4) (bnd (C A92 [.int .i64 x_5] w2) fun r_1 w3=>aStr r_1 fun x_12=>gInt .i64 (Addr.add ⟨b,0,none⟩ 6) w3 fun x_13=>same (.int .i64 x_6) (.int .i64 x_13) (gInt .i64 (Addr.add ⟨b,0,none⟩ 7) w3 fun x_14=>same (.int .i64 x_7) (.int .i64 x_14) (ck (ByteArray.size ((ByteArray.mk ⟨l⟩)++x_8)+ByteArray.size x_12≤B4) (bnd (C A92 [.int .i64 x_6] w3) fun r_2 w4=>aStr r_2 fun x_15=>gInt .i64 (Addr.add ⟨b,0,none⟩ 7) w4 fun x_16=>same (.int .i64 x_7) (.int .i64 x_16) (ck (ByteArray.size (((ByteArray.mk ⟨l⟩)++x_8)++x_12)+ByteArray.size x_15≤B4) (bnd (C A92 [.int .i64 x_7] w4) fun r_3 w5=>aStr r_3 fun x_17=>ck (ByteArray.size ((((ByteArray.mk ⟨l⟩)++x_8)++x_12)++x_15)+ByteArray.size x_17≤B4) (R U4 Aq9 [(1,.pointer (some ⟨b,0,none⟩)),(3,.string (((((ByteArray.mk ⟨l⟩)++x_8)++x_12)++x_15)++x_17)),(4,.int .i64 0)] w5)))))))))):=by kernel_rfl
theorem B08 (C:A6) (R:A8) (p:Addr) (s:ByteArray) (i:Int) (h:H) :
 B0 PR A34 C R U4 Tryz.f29 100000 true Aq9 [(1,.pointer (some p)),(3,.string s),(4,.int .i64 i)] h =
 cond (decide (i<8))
 (ck ((0:Int)≤i∧i<((8:Nat):Int)) (gInt .i64 (Addr.add (Addr.add p 8) (Int.toNat i*1)) h fun x=>nw (.cells A7 false [.int .u8 (IntKind.wrap .u8 (x))]) h fun b w=>gCells (some ⟨b,0,none⟩) 1 w fun cs=>asBytes cs fun l=>ck (ByteArray.size s+ByteArray.size (ByteArray.mk ⟨l⟩)≤B4) (R U4 Aq9 [(1,.pointer (some p)),(3,.string (s++(ByteArray.mk ⟨l⟩))),(4,.int .i64 (IntKind.wrap .i64 (i+1)))] w)))
 (ck (ByteArray.size s+ByteArray.size (ByteArray.mk ⟨[167]⟩)≤B4) (bnd (C Af2 [.string (s++(ByteArray.mk ⟨[167]⟩))] h) fun r w1=>aInt .u8 r fun x_1=>nw (.cells A7 false [.int .u8 x_1,.int .u8 0,.int .u8 0]) w1 fun b_1 w2=>gCells (some ⟨b_1,0,none⟩) 3 w2 fun cs_1=>asBytes cs_1 fun l_1=>ck (ByteArray.size (s++(ByteArray.mk ⟨[167]⟩))+ByteArray.size (ByteArray.mk ⟨l_1⟩)≤B4) (some (.string ((s++(ByteArray.mk ⟨[167]⟩))++(ByteArray.mk ⟨l_1⟩)),w2)))):=by kernel_rfl
def Ao8:Cuts:={ globs:=0,loops:=[],regs:=[],plans:=[] }
def Bg5:List Item:=A9 Tryz.f39
theorem Dh6 (C:A6) (R:A8) (c:Option Addr) (i:Int) (f:List Value) (h:H) :
 B0 PR Ao8 C R J7 Tryz.f39 100000 true Bg5 [(0,.pointer c),(1,.int .i64 i),(2,.agg ⟨f⟩)] h =
 nw (.cells D5 false f) h fun b w=>gAgg ⟨b,0,none⟩ 4 w fun x=>bnd (C A62 [.agg ⟨x⟩] w) fun r w1=>as2 r fun r_1 r_2=>aSl r_1 fun x_1 xn xc=>aBool r_2 fun x_2=>bnd (C As3 [.int .i64 i] w1) fun r_3 w2=>aAgg r_3 fun x_3=>bnd (C I1 [.pointer c,.agg ⟨x_3⟩,.slice x_1 xn xc,.bool x_2] w2) fun r_4 w3=>aBool r_4 fun x_4=>some (.bool x_4,w3):=by kernel_rfl
def Ao9:Cuts:={ globs:=0,loops:=[],regs:=[],plans:=[] }
def Bg0:List Item:=A9 Tryz.f41
theorem Dj1 (C:A6) (R:A8) (c:Option Addr) (i:Int) (p:List Value) (h:H) :
 B0 PR Ao9 C R J9 Tryz.f41 100000 true Bg0 [(0,.pointer c),(1,.int .i64 i),(2,.agg ⟨p⟩)] h =
 nw (.cells D3 false p) h fun b w=>gAgg ⟨b,0,none⟩ 16 w fun x=>bnd (C A60 [.agg ⟨x⟩] w) fun r w1=>as2 r fun r_1 r_2=>aSl r_1 fun x_1 xn xc=>aBool r_2 fun x_2=>bnd (C A53 [.int .i64 i] w1) fun r_3 w2=>aAgg r_3 fun x_3=>bnd (C I1 [.pointer c,.agg ⟨x_3⟩,.slice x_1 xn xc,.bool x_2] w2) fun r_4 w3=>aBool r_4 fun x_4=>some (.bool x_4,w3):=by kernel_rfl
def E54:Cuts:={ globs:=0,loops:=[],regs:=[],plans:=[(3,⟨[0,1,2,3,4],[0,0,0,5,15],[],[]⟩),(5,⟨[0,1,2,3],[0,0,3,7],[],[]⟩),(9,⟨[0,1,2,3,4,5,6,7,8],[0,0,3,7,15,0,31,127,255],[],[]⟩)] }
def G85:List Item:=A9 Tryz.f42
theorem Ib7 (C:A6) (R:A8) (c:Option Addr) (i:Int) (fd:Int) (h:H) :
 B0 PR E54 C R B71 Tryz.f42 100000 true G85 [(0,.pointer c),(1,.int .i64 i),(2,.int .i64 fd)] h =
 nw (.cells D5 false [.int .i64 0,.int .i64 0,.int .i64 0,.int .i64 0]) h fun b w=>bnd (C Ae4 [.pointer c,.int .i64 i] w) fun r w1=>as2 r fun r_1 r_2=>aAgg r_1 fun x=>aInt .i64 r_2 fun x_1=>nw (.cells D3 false [.int .i64 0,.int .i64 0,.int .i64 0,.int .i64 0,.int .i64 0,.int .i64 0,.int .i64 0,.int .i64 0,.int .i64 0,.int .i64 0,.int .i64 0,.int .i64 0,.int .i64 0,.int .i64 0,.int .i64 0,.int .i64 0]) w1 fun b_1 w2=>ck (List.length x=16) (pAgg ⟨b_1,0,none⟩ x w2 fun w3=>cond (x_1 != 0)
 (gAgg ⟨b,0,none⟩ 4 w3 fun x_2=>ck (List.length x_2=4) (pAgg ⟨b,0,none⟩ x_2 w3 fun w4=>gAgg ⟨b,0,none⟩ 4 w4 fun x_3=>some (.tuple ⟨[.int .i64 0,.agg ⟨x_3⟩,.int .i64 x_1]⟩,w4)))
 (gAgg ⟨b_1,0,none⟩ 16 w3 fun x_4=>bnd (C Bq7 [.agg ⟨x_4⟩,.int .i64 fd] w3) fun r_3 w5=>aBool r_3 fun x_5=>cond (!x_5)
 (gAgg ⟨b,0,none⟩ 4 w5 fun x_6=>ck (List.length x_6=4) (pAgg ⟨b,0,none⟩ x_6 w5 fun w6=>gAgg ⟨b,0,none⟩ 4 w6 fun x_7=>some (.tuple ⟨[.int .i64 0,.agg ⟨x_7⟩,.int .i64 109]⟩,w6)))
 (ck ((0:Int)≤fd∧fd<((8:Nat):Int)) (gInt .i64 (Addr.add (Addr.add ⟨b_1,0,none⟩ 8) (Int.toNat fd*1)) w5 fun x_8=>bnd (C N9 [.pointer c,.int .i64 (IntKind.wrap .i64 (x_8-1))] w5) fun r_4 w7=>as2 r_4 fun r_5 r_6=>aAgg r_5 fun x_9=>aInt .i64 r_6 fun x_10=>ck (List.length x_9=4) (pAgg ⟨b,0,none⟩ x_9 w7 fun w8=>cond (x_10 != 1)
 (pAgg ⟨b,0,none⟩ [.int .i64 0,.int .i64 0,.int .i64 0,.int .i64 0] w8 fun w9=>gAgg ⟨b,0,none⟩ 4 w9 fun x_11=>some (.tuple ⟨[.int .i64 0,.agg ⟨x_11⟩,.int .i64 105]⟩,w9))
 (ck ((0:Int)≤fd∧fd<((8:Nat):Int)) (gInt .i64 (Addr.add (Addr.add ⟨b_1,0,none⟩ 8) (Int.toNat fd*1)) w8 fun x_12=>gAgg ⟨b,0,none⟩ 4 w8 fun x_13=>ck (List.length x_13=4) (pAgg ⟨b,0,none⟩ x_13 w8 fun w10=>gAgg ⟨b,0,none⟩ 4 w10 fun x_14=>some (.tuple ⟨[.int .i64 (IntKind.wrap .i64 (x_12-1)),.agg ⟨x_14⟩,.int .i64 0]⟩,w10))))))))):=by kernel_rfl
def Di3:Cuts:={ globs:=0,loops:=[(5,[2,4,6,13,14,15])],regs:=[],plans:=[] }
def D87:List Item:=A9 Tryz.f47
def Br9:List Item:=stk [0,1,0,1,0,1,0,0,1,4,5] D87
theorem Ho9 (C:A6) (R:A8) (p:List Value) (b:Option Addr) (bn bc:Nat) (h:H) :
 B0 PR Di3 C R Ao5 Tryz.f47 100000 true D87 [(0,.agg ⟨p⟩),(1,.slice b bn bc)] h =
 nw (.cells D1 false p) h fun b_1 w=>nw (.cells D1 false [.int .i64 0,.int .i64 0,.int .i64 0,.int .i64 0,.int .u8 0,.int .u8 0,.int .u8 0,.int .u8 0,.int .u8 0,.int .u8 0,.int .u8 0,.int .u8 0,.int .u8 0,.int .u8 0,.int .u8 0,.int .u8 0,.int .u8 0,.int .u8 0,.int .u8 0,.int .u8 0,.int .u8 0,.int .u8 0,.int .u8 0,.int .u8 0,.int .u8 0,.int .u8 0,.int .u8 0,.int .u8 0,.int .u8 0,.int .u8 0,.int .u8 0,.int .u8 0,.int .u8 0,.int .u8 0,.int .u8 0,.int .u8 0]) w fun b_2 w1=>gAgg ⟨b_1,0,none⟩ 36 w1 fun x=>bnd (C Bx1 [.agg ⟨x⟩] w1) fun r w2=>aBool r fun x_1=>cond (!x_1)
 (gAgg ⟨b_1,0,none⟩ 36 w2 fun x_2=>ck (List.length x_2=36) (pAgg ⟨b_2,0,none⟩ x_2 w2 fun w3=>gAgg ⟨b_2,0,none⟩ 36 w3 fun x_3=>some (.tuple ⟨[.agg ⟨x_3⟩,.int .i64 0]⟩,w3)))
 (R Ao5 Br9 [(2,.pointer (some ⟨b_1,0,none⟩)),(4,.pointer (some ⟨b_2,0,none⟩)),(6,.int .i64 0),(13,.slice b bn bc),(14,.int .i64 ((bn:Nat):Int)),(15,.int .i64 0)] w2):=by kernel_rfl
theorem Ej5 (C:A6) (R:A8) (p:Addr) (x4:Addr) (n:Int) (x13:Option Addr) (x13n x13c:Nat) (x14:Int) (x15:Int) (h:H) :
 B0 PR Di3 C R Ao5 Tryz.f47 100000 true Br9 [(2,.pointer (some p)),(4,.pointer (some x4)),(6,.int .i64 n),(13,.slice x13 x13n x13c),(14,.int .i64 x14),(15,.int .i64 x15)] h =
 cond (decide (x15<x14))
 (aSome x13 fun p_1=>ck ((0:Int)≤x15∧x15<((x13n:Nat):Int)) (gInt .u8 (Addr.add (B5 p_1) (Int.toNat x15*1)) h fun x=>gInt .i64 (Addr.add p 1) h fun x_1=>cond (x_1==32)
 (gAgg p 36 h fun x_2=>ck (List.length x_2=36) (pAgg x4 x_2 h fun w=>gAgg x4 36 w fun x_3=>some (.tuple ⟨[.agg ⟨x_3⟩,.int .i64 n]⟩,w)))
 (gInt .i64 (Addr.add p 0) h fun x_4=>gInt .i64 (Addr.add p 1) h fun x_5=>ck ((0:Int)≤Int.tmod (IntKind.wrap .i64 (x_4+x_5)) 32∧Int.tmod (IntKind.wrap .i64 (x_4+x_5)) 32<((32:Nat):Int)) (pV (Addr.add (Addr.add p 4) (Int.toNat (Int.tmod (IntKind.wrap .i64 (x_4+x_5)) 32)*1)) (.int .u8 x) h fun w1=>gInt .i64 (Addr.add p 1) w1 fun x_6=>pV (Addr.add p 1) (.int .i64 (IntKind.wrap .i64 (x_6+1))) w1 fun w2=>R Ao5 Br9 [(2,.pointer (some p)),(4,.pointer (some x4)),(6,.int .i64 (IntKind.wrap .i64 (n+1))),(13,.slice x13 x13n x13c),(14,.int .i64 x14),(15,.int .i64 (IntKind.wrap .i64 (x15+1)))] w2))))
 (gAgg p 36 h fun x_7=>ck (List.length x_7=36) (pAgg x4 x_7 h fun w3=>gAgg x4 36 w3 fun x_8=>some (.tuple ⟨[.agg ⟨x_8⟩,.int .i64 n]⟩,w3))):=by kernel_rfl
def Al0:Cuts:={ globs:=0,loops:=[],regs:=[],plans:=[] }
def A77:List Item:=A9 Tryz.f52
theorem Db3 (C:A6) (R:A8) (s:Option Addr) (sn sc:Nat) (v:Int) (h:H) :
 B0 PR Al0 C R M9 Tryz.f52 100000 true A77 [(0,.slice s sn sc),(1,.int .i64 v)] h =
 bnd (C H6 [.slice s sn sc,.int .i64 v] h) fun r w=>aInt .i64 r fun x=>some (.bool (decide (x≥0)),w):=by kernel_rfl
def Aw2:Cuts:={ globs:=0,loops:=[],regs:=[],plans:=[] }
def Bm6:List Item:=A9 Tryz.f66
theorem Du1 (C:A6) (R:A8) (c:Option Addr) (h:H) :
 B0 PR Aw2 C R Ah9 Tryz.f66 100000 true Bm6 [(0,.pointer c)] h =
 bnd (C Q9 [.pointer c,.agg ⟨[.int .i64 5,.int .i64 0]⟩,.func (.func An2) ⟨[]⟩ ⟨[]⟩] h) fun r w=>as2 r fun r_1 r_2=>aInt .i64 r_1 fun x=>aInt .i64 r_2 fun x_1=>some (.tuple ⟨[.int .i64 x,.bool (x_1==1)]⟩,w):=by kernel_rfl
def A91:Cuts:={ globs:=0,loops:=[(5,[1,4,20,21,22]),(12,[1,7,58,59,60]),(18,[7,89,90,91]),(22,[7,11,12,89,90,91,122,123,124])],regs:=[],plans:=[(9,⟨[0,1,3,5,6,7,9,10,2,4,8,11,12,13,14],[0,1,3,0,15,0,32,96,255,0,512,2047,4095,8191,16383],[(2,[6,10]),(4,[6,10]),(8,[10])],[]⟩),(10,⟨[0,1,2,3,4,5,6,7,8,9,10,11,12],[0,0,2,6,14,0,32,96,224,510,1023,2047,4095],[],[]⟩),(14,⟨[0,1,2,3,4,5,6,7,8,9,10,11],[0,0,2,6,14,0,32,96,254,511,1023,2047],[(6,[4])],[]⟩),(15,⟨[0,1,2,3,4,5,6,7,8,9,10,11,12],[0,0,2,6,14,0,32,96,224,510,1023,2047,4095],[(7,[4])],[]⟩),(20,⟨[0,1,2,3,4,5,6,7,8,9,11,12,15,16,18,19,10,13,14,17,20,21,22,23,24,25],[0,1,3,7,0,16,48,112,0,256,1008,0,2048,8176,16368,0,32768,131056,0,262144,1048575,2097151,4194303,4194303,8388607,33554431],[(10,[3,12,16,19])],[]⟩),(25,⟨[0,1,2,3,4,5,6,7,8,9],[0,1,3,7,0,0,0,64,224,511],[],[]⟩)] }
def Bm0:List Item:=A9 Tryz.f69
def Bs4:List Item:=stk [0,1,0,1,0,1,0,0,1,4,5] Bm0
def Br4:List Item:=stk [0,1,0,1,0,1,0,1,0,1,0,1,0,0,1,4,5] Bm0
def Bc3:List Item:=stk [0,1,0,1,0,1,0,1,0,1,0,1,0,1,0,0,1,4,5] Bm0
def Bc9:List Item:=stk [0,1,0,1,0,1,0,1,0,1,0,1,0,1,0,0,1,4,5,6,0,1,0,1,0,4,0,1,0,1,0,1,4,5] Bm0
theorem Hp7 (C:A6) (R:A8) (c:List Value) (h:H) :
 B0 PR A91 C R H9 Tryz.f69 100000 true Bm0 [(0,.agg ⟨c⟩)] h =
 nw (.cells E4 false c) h fun b w=>gAgg ⟨b,0,none⟩ 5 w fun x=>bnd (C S5 [.agg ⟨x⟩] w) fun r w1=>aBool r fun x_1=>cond (!x_1)
 (some (.tuple ⟨[.pointer none,.int .i64 1]⟩,w1))
 (gSl (Addr.add ⟨b,0,none⟩ 0) w1 fun x_2 xn xc=>R H9 Bs4 [(1,.pointer (some ⟨b,0,none⟩)),(4,.int .i64 0),(20,.slice x_2 xn xc),(21,.int .i64 ((xn:Nat):Int)),(22,.int .i64 0)] w1):=by kernel_rfl
theorem Ei8 (C:A6) (R:A8) (c:Addr) (all:Int) (x20:Option Addr) (x20n x20c:Nat) (x21:Int) (x22:Int) (h:H) :
 B0 PR A91 C R H9 Tryz.f69 100000 true Bs4 [(1,.pointer (some c)),(4,.int .i64 all),(20,.slice x20 x20n x20c),(21,.int .i64 x21),(22,.int .i64 x22)] h =
 cond (decide (x22<x21))
 (aSome x20 fun p=>ck ((0:Int)≤x22∧x22<((x20n:Nat):Int)) (gInt .i64 (Addr.add (B5 p) (Int.toNat x22*1)) h fun x=>bnd (C Bd0 [.int .i64 x] h) fun r w=>aInt .i64 r fun x_1=>R H9 Bs4 [(1,.pointer (some c)),(4,.int .i64 (IntKind.wrap .i64 (all+x_1))),(20,.slice x20 x20n x20c),(21,.int .i64 x21),(22,.int .i64 (IntKind.wrap .i64 (x22+1)))] w))
 (gSl (Addr.add c 1) h fun x_2 xn xc=>gSl (Addr.add c 1) h fun x_3 xn_1 xc_1=>gSl (Addr.add c 0) h fun x_4 xn_2 xc_2=>bnd (C W9 [.slice x_2 xn xc] h) fun r_1 w1=>aSl r_1 fun x_5 xn_3 xc_3=>gSl (Addr.add c 1) w1 fun x_6 xn_4 xc_4=>same (.slice x_3 xn_1 xc_1) (.slice x_6 xn_4 xc_4) (gSl (Addr.add c 0) w1 fun x_7 xn_5 xc_5=>same (.slice x_4 xn_2 xc_2) (.slice x_7 xn_5 xc_5) (bnd (C Dy1 [.int .i64 all] w1) fun r_2 w2=>aPtr r_2 fun x_8=>gSl (Addr.add c 1) w2 fun x_9 xn_6 xc_6=>same (.slice x_3 xn_1 xc_1) (.slice x_9 xn_6 xc_6) (gSl (Addr.add c 0) w2 fun x_10 xn_7 xc_7=>same (.slice x_4 xn_2 xc_2) (.slice x_10 xn_7 xc_7) (bnd (C Ay4 [.int .i64 ((xn_1:Nat):Int)] w2) fun r_3 w3=>aPtr r_3 fun x_11=>gSl (Addr.add c 0) w3 fun x_12 xn_8 xc_8=>same (.slice x_4 xn_2 xc_2) (.slice x_12 xn_8 xc_8) (bnd (C Ar8 [.slice x_4 xn_2 xc_2] w3) fun r_4 w4=>aPtr r_4 fun x_13=>nw (.cells D14 false [.slice x_5 xn_3 xc_3,.slice none 0 0,.pointer x_8,.pointer x_11,.pointer x_13,.pointer none,.slice none 0 0,.int .i64 0]) w4 fun b w5=>gPtr (Addr.add ⟨b,0,none⟩ 2) w5 fun x_14=>gPtr (Addr.add ⟨b,0,none⟩ 3) w5 fun x_15=>bnd (C B17 [.pointer x_14,.pointer x_15] w5) fun r_5 w6=>aPtr r_5 fun x_16=>pV (Addr.add ⟨b,0,none⟩ 5) (.pointer x_16) w6 fun w7=>gSl (Addr.add c 2) w7 fun x_17 xn_9 xc_9=>R H9 Br4 [(1,.pointer (some c)),(7,.pointer (some ⟨b,0,none⟩)),(58,.slice x_17 xn_9 xc_9),(59,.int .i64 ((xn_9:Nat):Int)),(60,.int .i64 0)] w7)))))):=by kernel_rfl
theorem Ej6 (C:A6) (R:A8) (c:Addr) (k:Addr) (x58:Option Addr) (x58n x58c:Nat) (x59:Int) (x60:Int) (h:H) :
 B0 PR A91 C R H9 Tryz.f69 100000 true Br4 [(1,.pointer (some c)),(7,.pointer (some k)),(58,.slice x58 x58n x58c),(59,.int .i64 x59),(60,.int .i64 x60)] h =
 cond (decide (x60<x59))
 (aSome x58 fun p=>ck ((0:Int)≤x60∧x60<((x58n:Nat):Int)) (gSl (Addr.add (B5 p) (Int.toNat x60*1)) h fun x xn xc=>gSl (Addr.add k 1) h fun x_1 xn_1 xc_1=>bnd (C W9 [.slice x xn xc] h) fun r w=>aSl r fun x_2 xn_2 xc_2=>gSl (Addr.add k 1) w fun x_3 xn_3 xc_3=>same (.slice x_1 xn_1 xc_1) (.slice x_3 xn_3 xc_3) (nw (.cells Q6 false [.slice x_2 xn_2 xc_2]) w fun b w1=>gCells (some ⟨b,0,none⟩) (1*1) w1 fun cs=>ckB (fitsOpen x_1 Q6 w1) (apd Q6 1 x_1 xn_1 xc_1 1 cs w1 fun a an ac w2=>pV (Addr.add k 1) (.slice a an ac) w2 fun w3=>gSl (Addr.add k 6) w3 fun x_4 xn_4 xc_4=>gInt .i64 (Addr.add c 3) w3 fun x_5=>bnd (C Dh7 [.int .i64 x_5] w3) fun r_1 w4=>aPtr r_1 fun x_6=>gSl (Addr.add k 6) w4 fun x_7 xn_5 xc_5=>same (.slice x_4 xn_4 xc_4) (.slice x_7 xn_5 xc_5) (nw (.cells Aw5 false [.pointer x_6]) w4 fun b_1 w5=>gCells (some ⟨b_1,0,none⟩) (1*1) w5 fun cs_1=>ckB (fitsOpen x_4 Aw5 w5) (apd Aw5 1 x_4 xn_4 xc_4 1 cs_1 w5 fun a_1 an_1 ac_1 w6=>pV (Addr.add k 6) (.slice a_1 an_1 ac_1) w6 fun w7=>R H9 Br4 [(1,.pointer (some c)),(7,.pointer (some k)),(58,.slice x58 x58n x58c),(59,.int .i64 x59),(60,.int .i64 (IntKind.wrap .i64 (x60+1)))] w7))))))
 (gSl (Addr.add c 4) h fun x_8 xn_6 xc_6=>R H9 Bc3 [(7,.pointer (some k)),(89,.slice x_8 xn_6 xc_6),(90,.int .i64 ((xn_6:Nat):Int)),(91,.int .i64 0)] h):=by kernel_rfl
theorem Ei2 (C:A6) (R:A8) (k:Addr) (x89:Option Addr) (x89n x89c:Nat) (x90:Int) (x91:Int) (h:H) :
 B0 PR A91 C R H9 Tryz.f69 100000 true Bc3 [(7,.pointer (some k)),(89,.slice x89 x89n x89c),(90,.int .i64 x90),(91,.int .i64 x91)] h =
 cond (decide (x91<x90))
 (aSome x89 fun p=>ck ((0:Int)≤x91∧x91<((x89n:Nat):Int)) (gAgg (Addr.add (B5 p) (Int.toNat x91*5)) 5 h fun x=>nw (.cells I7 false [.int .i64 0,.int .i64 0,.int .i64 0,.int .i64 0,.slice none 0 0]) h fun b w=>ck (List.length x=5) (pAgg ⟨b,0,none⟩ x w fun w1=>gPtr (Addr.add k 5) w1 fun x_1=>gPtr (Addr.add k 4) w1 fun x_2=>gInt .i64 (Addr.add ⟨b,0,none⟩ 0) w1 fun x_3=>gInt .i64 (Addr.add ⟨b,0,none⟩ 1) w1 fun x_4=>gInt .i64 (Addr.add ⟨b,0,none⟩ 2) w1 fun x_5=>gInt .i64 (Addr.add ⟨b,0,none⟩ 3) w1 fun x_6=>bnd (C P4 [.pointer x_2,.int .i64 x_3] w1) fun r w2=>aInt .i64 r fun x_7=>gPtr (Addr.add k 5) w2 fun x_8=>same (.pointer x_1) (.pointer x_8) (gInt .i64 (Addr.add ⟨b,0,none⟩ 1) w2 fun x_9=>same (.int .i64 x_4) (.int .i64 x_9) (gInt .i64 (Addr.add ⟨b,0,none⟩ 2) w2 fun x_10=>same (.int .i64 x_5) (.int .i64 x_10) (gInt .i64 (Addr.add ⟨b,0,none⟩ 3) w2 fun x_11=>same (.int .i64 x_6) (.int .i64 x_11) (bnd (C Ap0 [.pointer x_1,.int .i64 (IntKind.wrap .i64 ((IntKind.wrap .i64 ((IntKind.wrap .i64 (x_7+x_4))*64))+x_5)),.int .i64 x_6] w2) fun r_1 w3=>as2 r_1 fun r_2 r_3=>aInt .i64 r_2 fun x_12=>aInt .i64 r_3 fun _=>gSl (Addr.add k 0) w3 fun x_14 xn xc=>R H9 Bc9 [(7,.pointer (some k)),(11,.pointer (some ⟨b,0,none⟩)),(12,.int .i64 x_12),(89,.slice x89 x89n x89c),(90,.int .i64 x90),(91,.int .i64 x91),(122,.slice x_14 xn xc),(123,.int .i64 ((xn:Nat):Int)),(124,.int .i64 0)] w3)))))))
 (some (.tuple ⟨[.pointer (some k),.int .i64 0]⟩,h)):=by kernel_rfl
theorem Ej3 (C:A6) (R:A8) (k:Addr) (x:Addr) (obj:Int) (x89:Option Addr) (x89n x89c:Nat) (x90:Int) (x91:Int) (x122:Option Addr) (x122n x122c:Nat) (x123:Int) (x124:Int) (h:H) :
 B0 PR A91 C R H9 Tryz.f69 100000 true Bc9 [(7,.pointer (some k)),(11,.pointer (some x)),(12,.int .i64 obj),(89,.slice x89 x89n x89c),(90,.int .i64 x90),(91,.int .i64 x91),(122,.slice x122 x122n x122c),(123,.int .i64 x123),(124,.int .i64 x124)] h =
 cond (decide (x124<x123))
 (aSome x122 fun p=>ck ((0:Int)≤x124∧x124<((x122n:Nat):Int)) (gInt .i64 (Addr.add (B5 p) (Int.toNat x124*1)) h fun x_1=>gSl (Addr.add x 4) h fun x_2 xn xc=>bnd (C M9 [.slice x_2 xn xc,.int .i64 x_1] h) fun r w=>aBool r fun x_3=>cond x_3
 (gPtr (Addr.add k 3) w fun x_4=>gInt .i64 (Addr.add x 3) w fun x_5=>bnd (C Ba4 [.pointer x_4,.int .i64 x124,.agg ⟨[.int .i64 obj,.int .i64 3,.int .i64 0,.int .i64 x_5,.int .i64 0,.int .i64 0]⟩] w) fun r_1 w1=>as2 r_1 fun r_2 r_3=>aInt .i64 r_2 fun _=>aInt .i64 r_3 fun _=>R H9 Bc9 [(7,.pointer (some k)),(11,.pointer (some x)),(12,.int .i64 obj),(89,.slice x89 x89n x89c),(90,.int .i64 x90),(91,.int .i64 x91),(122,.slice x122 x122n x122c),(123,.int .i64 x123),(124,.int .i64 (IntKind.wrap .i64 (x124+1)))] w1)
 (R H9 Bc9 [(7,.pointer (some k)),(11,.pointer (some x)),(12,.int .i64 obj),(89,.slice x89 x89n x89c),(90,.int .i64 x90),(91,.int .i64 x91),(122,.slice x122 x122n x122c),(123,.int .i64 x123),(124,.int .i64 (IntKind.wrap .i64 (x124+1)))] w)))
 (R H9 Bc3 [(7,.pointer (some k)),(89,.slice x89 x89n x89c),(90,.int .i64 x90),(91,.int .i64 (IntKind.wrap .i64 (x91+1)))] h):=by kernel_rfl
def Bg8:Cuts:={ globs:=0,loops:=[],regs:=[],plans:=[] }
def Db1:List Item:=A9 Tryz.f72
theorem Ep1 (C:A6) (R:A8) (k:Option Addr) (env:Int) (h:H) :
 B0 PR Bg8 C R Az6 Tryz.f72 100000 true Db1 [(0,.pointer k),(1,.int .i64 env)] h =
 aSome k fun p=>gPtr (Addr.add p 6) h fun x=>aSome x fun p_1=>gPtr (Addr.add p_1 3) h fun x_1=>bnd (C A85 [.pointer x_1,.int .i64 env] h) fun r w=>aSl r fun x_2 xn xc=>cond (((xn:Nat):Int)==0)
 (some (.pointer none,w))
 (nw (.cells Dv9 false [.pointer k,.int .i64 env,.slice x_2 xn xc,.slice none 0 0]) w fun b w1=>some (.pointer (some ⟨b,0,none⟩),w1)):=by kernel_rfl
def A93:Cuts:={ globs:=0,loops:=[],regs:=[],plans:=[] }
def Bx8:List Item:=A9 Tryz.f77
theorem Ec4 (C:A6) (R:A8) (r:Option Addr) (e:Int) (name:Int) (atv:Int) (b:ByteArray) (h:H) :
 B0 PR A93 C R An9 Tryz.f77 100000 true Bx8 [(0,.pointer r),(1,.int .i64 e),(2,.int .i64 name),(3,.int .i64 atv),(4,.string b)] h =
 bnd (C Aq6 [.pointer r,.int .i64 e,.int .i64 name,.int .i64 2,.int .i64 atv,.int .i64 ((ByteArray.size b:Nat):Int)] h) fun r_1 w=>as2 r_1 fun r_2 r_3=>aInt .i64 r_2 fun x=>aInt .i64 r_3 fun x_1=>cond (x_1 != 0)
 (some (.int .i64 x_1,w))
 (aSome r fun p=>gSl (Addr.add p 0) w fun x_2 xn xc=>ckB (fitsOpen x_2 A7 w) (ck ((0:Int)≤x∧x≤((xn:Nat):Int)) (pCells (H5 x_2 (decide (Int.toNat x<xc)) ((Int.toNat x)*1)) (A5 (List.take (min (ByteArray.size b) (xn-(Int.toNat x))) (ByteArray.data b).toList)) w fun w1=>some (.int .i64 0,w1)))):=by kernel_rfl
def Df9:Cuts:={ globs:=0,loops:=[],regs:=[],plans:=[] }
def Ei0:List Item:=A9 Tryz.f88
theorem Gw9 (C:A6) (R:A8) (i:Int) (fv0:Addr) (h:H) :
 B0 PR Df9 C R Bb1 Tryz.f88 100000 true Ei0 [(0,.int .i64 i),(1,.pointer (some fv0))] h =
 ck ((0:Int)≤i∧i<((8:Nat):Int)) (gInt .i64 (Addr.add (Addr.add fv0 8) (Int.toNat i*1)) h fun x=>some (.bool (x==0),h)):=by kernel_rfl
def B88:Cuts:={ globs:=0,loops:=[],regs:=[],plans:=[] }
def D41:List Item:=A9 Tryz.f90
theorem Gi5 (C:A6) (R:A8) (i:Int) (h:H) :
 B0 PR B88 C R As3 Tryz.f90 100000 true D41 [(0,.int .i64 i)] h =
 nw (.cells D9 false [.int .i64 0,.int .i64 0]) h fun b w=>pAgg ⟨b,0,none⟩ [.int .i64 2,.int .i64 i] w fun w1=>gAgg ⟨b,0,none⟩ 2 w1 fun x=>some (.agg ⟨x⟩,w1):=by kernel_rfl
def Ae1:Cuts:={ globs:=0,loops:=[],regs:=[(8,[6,8,11,12])],plans:=[(7,⟨[0,1,2,3,4,5,6,7,8,9],[0,1,3,7,0,31,63,31,159,511],[(7,[5])],[]⟩)] }
def Ao3:List Item:=A9 Tryz.f92
def Ai6:List Item:=stk [0,1,0,1,0,1,0,1,0,1,0,1,0,0] Ao3
theorem Di9 (C:A6) (R:A8) (c:Option Addr) (r:List Value) (decode:Value) (h:H) :
 B0 PR Ae1 C R I5 Tryz.f92 100000 true Ao3 [(0,.pointer c),(1,.agg ⟨r⟩),(2,decode)] h =
 nw (.cells D9 false r) h fun b w=>nw (.cells D1 false [.int .i64 0,.int .i64 0,.int .i64 0,.int .i64 0,.int .u8 0,.int .u8 0,.int .u8 0,.int .u8 0,.int .u8 0,.int .u8 0,.int .u8 0,.int .u8 0,.int .u8 0,.int .u8 0,.int .u8 0,.int .u8 0,.int .u8 0,.int .u8 0,.int .u8 0,.int .u8 0,.int .u8 0,.int .u8 0,.int .u8 0,.int .u8 0,.int .u8 0,.int .u8 0,.int .u8 0,.int .u8 0,.int .u8 0,.int .u8 0,.int .u8 0,.int .u8 0,.int .u8 0,.int .u8 0,.int .u8 0,.int .u8 0]) w fun b_1 w1=>nw (.cells D1 false [.int .i64 0,.int .i64 0,.int .i64 0,.int .i64 0,.int .u8 0,.int .u8 0,.int .u8 0,.int .u8 0,.int .u8 0,.int .u8 0,.int .u8 0,.int .u8 0,.int .u8 0,.int .u8 0,.int .u8 0,.int .u8 0,.int .u8 0,.int .u8 0,.int .u8 0,.int .u8 0,.int .u8 0,.int .u8 0,.int .u8 0,.int .u8 0,.int .u8 0,.int .u8 0,.int .u8 0,.int .u8 0,.int .u8 0,.int .u8 0,.int .u8 0,.int .u8 0,.int .u8 0,.int .u8 0,.int .u8 0,.int .u8 0]) w1 fun b_2 w2=>gAgg ⟨b,0,none⟩ 2 w2 fun x=>bnd (C O3 [.pointer c,.agg ⟨x⟩] w2) fun r_1 w3=>as2 r_1 fun r_2 r_3=>aSl r_2 fun x_1 xn xc=>aBool r_3 fun x_2=>cond (!x_2)
 (gAgg ⟨b_2,0,none⟩ 36 w3 fun x_3=>ck (List.length x_3=36) (pAgg ⟨b_1,0,none⟩ x_3 w3 fun w4=>gAgg ⟨b_1,0,none⟩ 36 w4 fun x_4=>some (.tuple ⟨[.agg ⟨x_4⟩,.int .i64 2]⟩,w4)))
 (aFn decode fun g fi cp=>bnd (C g (fi++([.slice x_1 xn xc]++cp)) w3) fun r_4 w5=>as2 r_4 fun r_5 r_6=>aAgg r_5 fun x_5=>aInt .i64 r_6 fun x_6=>nw (.cells D1 false [.int .i64 0,.int .i64 0,.int .i64 0,.int .i64 0,.int .u8 0,.int .u8 0,.int .u8 0,.int .u8 0,.int .u8 0,.int .u8 0,.int .u8 0,.int .u8 0,.int .u8 0,.int .u8 0,.int .u8 0,.int .u8 0,.int .u8 0,.int .u8 0,.int .u8 0,.int .u8 0,.int .u8 0,.int .u8 0,.int .u8 0,.int .u8 0,.int .u8 0,.int .u8 0,.int .u8 0,.int .u8 0,.int .u8 0,.int .u8 0,.int .u8 0,.int .u8 0,.int .u8 0,.int .u8 0,.int .u8 0,.int .u8 0]) w5 fun b_3 w6=>ck (List.length x_5=36) (pAgg ⟨b_3,0,none⟩ x_5 w6 fun w7=>cond (x_6==2)
 (aSome c fun p=>gMap (Addr.add p 3) w7 fun x_7=>gAgg ⟨b,0,none⟩ 2 w7 fun x_8=>keyN PR D9 (.agg ⟨x_8⟩) (opt x_7 fun r_7=>mapAt w7 r_7 fun es _=>opt (Al6 (.int .i64 0) (.agg ⟨x_8⟩) es) fun f=>aInt .i64 f.1 fun x_9=>keyN PR D9 (.agg ⟨x_8⟩) (opt x_7 fun r_8=>mapAt w7 r_8 fun es_1 cl_1=>opt (D17 (.int .i64 0) (.agg ⟨x_8⟩) es_1 cl_1) fun f_1=>aInt .i64 f_1.1 fun _=>lt (H.set w7 r_8 f_1.2.2) fun w8=>keyN PR D9 (.agg ⟨x_8⟩) (opt x_7 fun r_9=>mapAt w8 r_9 fun es_2 _=>opt (Al6 (.int .i64 0) (.agg ⟨x_8⟩) es_2) fun f_2=>aInt .i64 f_2.1 fun x_11=>same (.int .i64 x_9) (.int .i64 x_11) (opt x_7 fun r_10=>mapAt w8 r_10 fun es_3 cl_3=>opt (Bk6 (f_1.2.1:Int) es_3 0) fun i=>lt (H.set w8 r_10 (.map (modN (fun e=>{ e with val:=.int .i64 (IntKind.wrap .i64 (x_9+1)) }) i es_3) cl_3)) fun w9=>R I5 Ai6 [(6,.pointer (some ⟨b_1,0,none⟩)),(8,.pointer (some ⟨b_2,0,none⟩)),(11,.pointer (some ⟨b_3,0,none⟩)),(12,.int .i64 x_6)] w9)))))
 (R I5 Ai6 [(6,.pointer (some ⟨b_1,0,none⟩)),(8,.pointer (some ⟨b_2,0,none⟩)),(11,.pointer (some ⟨b_3,0,none⟩)),(12,.int .i64 x_6)] w7))):=by kernel_rfl
theorem A67 (C:A6) (R:A8) (x6:Addr) (nonev:Addr) (v:Addr) (isv:Int) (h:H) :
 B0 PR Ae1 C R I5 Tryz.f92 100000 true Ai6 [(6,.pointer (some x6)),(8,.pointer (some nonev)),(11,.pointer (some v)),(12,.int .i64 isv)] h =
 cond (isv != 1)
 (gAgg nonev 36 h fun x=>ck (List.length x=36) (pAgg x6 x h fun w=>gAgg x6 36 w fun x_1=>some (.tuple ⟨[.agg ⟨x_1⟩,.int .i64 isv]⟩,w)))
 (gAgg v 36 h fun x_2=>ck (List.length x_2=36) (pAgg x6 x_2 h fun w1=>gAgg x6 36 w1 fun x_3=>some (.tuple ⟨[.agg ⟨x_3⟩,.int .i64 isv]⟩,w1))):=by kernel_rfl
def Df8:Cuts:={ globs:=0,loops:=[],regs:=[],plans:=[] }
def Eh8:List Item:=A9 Tryz.f94
theorem Gu4 (C:A6) (R:A8) (b:Option Addr) (bn bc:Nat) (h:H) :
 B0 PR Df8 C R Aw6 Tryz.f94 100000 true Eh8 [(0,.slice b bn bc)] h =
 nw (.cells D1 false [.int .i64 0,.int .i64 0,.int .i64 0,.int .i64 0,.int .u8 0,.int .u8 0,.int .u8 0,.int .u8 0,.int .u8 0,.int .u8 0,.int .u8 0,.int .u8 0,.int .u8 0,.int .u8 0,.int .u8 0,.int .u8 0,.int .u8 0,.int .u8 0,.int .u8 0,.int .u8 0,.int .u8 0,.int .u8 0,.int .u8 0,.int .u8 0,.int .u8 0,.int .u8 0,.int .u8 0,.int .u8 0,.int .u8 0,.int .u8 0,.int .u8 0,.int .u8 0,.int .u8 0,.int .u8 0,.int .u8 0,.int .u8 0]) h fun b_1 w=>bnd (cond (((bn:Nat):Int)==40) (bnd (C Am1 [.slice b bn bc] w) fun r w1=>aBool r fun x=>some (x,w1)) (some (false,w))) fun c w2=>cond c
 (pAgg ⟨b_1,0,none⟩ [.int .i64 0,.int .i64 0,.int .i64 0,.int .i64 0,.int .u8 0,.int .u8 0,.int .u8 0,.int .u8 0,.int .u8 0,.int .u8 0,.int .u8 0,.int .u8 0,.int .u8 0,.int .u8 0,.int .u8 0,.int .u8 0,.int .u8 0,.int .u8 0,.int .u8 0,.int .u8 0,.int .u8 0,.int .u8 0,.int .u8 0,.int .u8 0,.int .u8 0,.int .u8 0,.int .u8 0,.int .u8 0,.int .u8 0,.int .u8 0,.int .u8 0,.int .u8 0,.int .u8 0,.int .u8 0,.int .u8 0,.int .u8 0] w2 fun w3=>gAgg ⟨b_1,0,none⟩ 36 w3 fun x_1=>some (.tuple ⟨[.agg ⟨x_1⟩,.int .i64 0]⟩,w3))
 (bnd (C Bj5 [] w2) fun r_1 w4=>aPtr r_1 fun x_2=>bnd (C V7 [.pointer x_2,.slice b bn bc] w4) fun r_2 w5=>as2 r_2 fun r_3 r_4=>aAgg r_3 fun x_3=>aBool r_4 fun x_4=>nw (.cells D1 false [.int .i64 0,.int .i64 0,.int .i64 0,.int .i64 0,.int .u8 0,.int .u8 0,.int .u8 0,.int .u8 0,.int .u8 0,.int .u8 0,.int .u8 0,.int .u8 0,.int .u8 0,.int .u8 0,.int .u8 0,.int .u8 0,.int .u8 0,.int .u8 0,.int .u8 0,.int .u8 0,.int .u8 0,.int .u8 0,.int .u8 0,.int .u8 0,.int .u8 0,.int .u8 0,.int .u8 0,.int .u8 0,.int .u8 0,.int .u8 0,.int .u8 0,.int .u8 0,.int .u8 0,.int .u8 0,.int .u8 0,.int .u8 0]) w5 fun b_2 w6=>ck (List.length x_3=36) (pAgg ⟨b_2,0,none⟩ x_3 w6 fun w7=>cond (!x_4)
 (pAgg ⟨b_1,0,none⟩ [.int .i64 0,.int .i64 0,.int .i64 0,.int .i64 0,.int .u8 0,.int .u8 0,.int .u8 0,.int .u8 0,.int .u8 0,.int .u8 0,.int .u8 0,.int .u8 0,.int .u8 0,.int .u8 0,.int .u8 0,.int .u8 0,.int .u8 0,.int .u8 0,.int .u8 0,.int .u8 0,.int .u8 0,.int .u8 0,.int .u8 0,.int .u8 0,.int .u8 0,.int .u8 0,.int .u8 0,.int .u8 0,.int .u8 0,.int .u8 0,.int .u8 0,.int .u8 0,.int .u8 0,.int .u8 0,.int .u8 0,.int .u8 0] w7 fun w8=>gAgg ⟨b_1,0,none⟩ 36 w8 fun x_5=>some (.tuple ⟨[.agg ⟨x_5⟩,.int .i64 2]⟩,w8))
 (gAgg ⟨b_2,0,none⟩ 36 w7 fun x_6=>ck (List.length x_6=36) (pAgg ⟨b_1,0,none⟩ x_6 w7 fun w9=>gAgg ⟨b_1,0,none⟩ 36 w9 fun x_7=>some (.tuple ⟨[.agg ⟨x_7⟩,.int .i64 1]⟩,w9))))):=by kernel_rfl
def Ap5:Cuts:={ globs:=0,loops:=[],regs:=[],plans:=[] }
def Bf4:List Item:=A9 Tryz.f105
theorem Dl4 (C:A6) (R:A8) (s:Option Addr) (sn sc:Nat) (h:H) :
 B0 PR Ap5 C R V0 Tryz.f105 100000 true Bf4 [(0,.slice s sn sc)] h =
 ckB (fitsOpen s A7 h) (ck ((0:Int)≤((sn:Nat):Int)∧((sn:Nat):Int)≤((sc:Nat):Int)) (ck ((0:Int)≤((sn:Nat):Int)∧((sn:Nat):Int)≤((Int.toNat ((sn:Nat):Int):Nat):Int)) (some (.slice (Bz9 (H5 s (decide (0<Int.toNat ((sn:Nat):Int))) (0*1))) ((Int.toNat ((sn:Nat):Int))-0) ((Int.toNat ((sn:Nat):Int))-0),h)))):=by kernel_rfl
def Ad6:Cuts:={ globs:=0,loops:=[],regs:=[(8,[6,8,11,12])],plans:=[(7,⟨[0,1,2,3,4,5,6,7,8,9],[0,1,3,7,0,31,63,31,159,511],[(7,[5])],[]⟩)] }
def Aq3:List Item:=A9 Tryz.f110
def Aj3:List Item:=stk [0,1,0,1,0,1,0,1,0,1,0,1,0,0] Aq3
theorem Di5 (C:A6) (R:A8) (c:Option Addr) (r:List Value) (decode:Value) (h:H) :
 B0 PR Ad6 C R L1 Tryz.f110 100000 true Aq3 [(0,.pointer c),(1,.agg ⟨r⟩),(2,decode)] h =
 nw (.cells D9 false r) h fun b w=>nw (.cells D3 false [.int .i64 0,.int .i64 0,.int .i64 0,.int .i64 0,.int .i64 0,.int .i64 0,.int .i64 0,.int .i64 0,.int .i64 0,.int .i64 0,.int .i64 0,.int .i64 0,.int .i64 0,.int .i64 0,.int .i64 0,.int .i64 0]) w fun b_1 w1=>nw (.cells D3 false [.int .i64 0,.int .i64 0,.int .i64 0,.int .i64 0,.int .i64 0,.int .i64 0,.int .i64 0,.int .i64 0,.int .i64 0,.int .i64 0,.int .i64 0,.int .i64 0,.int .i64 0,.int .i64 0,.int .i64 0,.int .i64 0]) w1 fun b_2 w2=>gAgg ⟨b,0,none⟩ 2 w2 fun x=>bnd (C O3 [.pointer c,.agg ⟨x⟩] w2) fun r_1 w3=>as2 r_1 fun r_2 r_3=>aSl r_2 fun x_1 xn xc=>aBool r_3 fun x_2=>cond (!x_2)
 (gAgg ⟨b_2,0,none⟩ 16 w3 fun x_3=>ck (List.length x_3=16) (pAgg ⟨b_1,0,none⟩ x_3 w3 fun w4=>gAgg ⟨b_1,0,none⟩ 16 w4 fun x_4=>some (.tuple ⟨[.agg ⟨x_4⟩,.int .i64 2]⟩,w4)))
 (aFn decode fun g fi cp=>bnd (C g (fi++([.slice x_1 xn xc]++cp)) w3) fun r_4 w5=>as2 r_4 fun r_5 r_6=>aAgg r_5 fun x_5=>aInt .i64 r_6 fun x_6=>nw (.cells D3 false [.int .i64 0,.int .i64 0,.int .i64 0,.int .i64 0,.int .i64 0,.int .i64 0,.int .i64 0,.int .i64 0,.int .i64 0,.int .i64 0,.int .i64 0,.int .i64 0,.int .i64 0,.int .i64 0,.int .i64 0,.int .i64 0]) w5 fun b_3 w6=>ck (List.length x_5=16) (pAgg ⟨b_3,0,none⟩ x_5 w6 fun w7=>cond (x_6==2)
 (aSome c fun p=>gMap (Addr.add p 3) w7 fun x_7=>gAgg ⟨b,0,none⟩ 2 w7 fun x_8=>keyN PR D9 (.agg ⟨x_8⟩) (opt x_7 fun r_7=>mapAt w7 r_7 fun es _=>opt (Al6 (.int .i64 0) (.agg ⟨x_8⟩) es) fun f=>aInt .i64 f.1 fun x_9=>keyN PR D9 (.agg ⟨x_8⟩) (opt x_7 fun r_8=>mapAt w7 r_8 fun es_1 cl_1=>opt (D17 (.int .i64 0) (.agg ⟨x_8⟩) es_1 cl_1) fun f_1=>aInt .i64 f_1.1 fun _=>lt (H.set w7 r_8 f_1.2.2) fun w8=>keyN PR D9 (.agg ⟨x_8⟩) (opt x_7 fun r_9=>mapAt w8 r_9 fun es_2 _=>opt (Al6 (.int .i64 0) (.agg ⟨x_8⟩) es_2) fun f_2=>aInt .i64 f_2.1 fun x_11=>same (.int .i64 x_9) (.int .i64 x_11) (opt x_7 fun r_10=>mapAt w8 r_10 fun es_3 cl_3=>opt (Bk6 (f_1.2.1:Int) es_3 0) fun i=>lt (H.set w8 r_10 (.map (modN (fun e=>{ e with val:=.int .i64 (IntKind.wrap .i64 (x_9+1)) }) i es_3) cl_3)) fun w9=>R L1 Aj3 [(6,.pointer (some ⟨b_1,0,none⟩)),(8,.pointer (some ⟨b_2,0,none⟩)),(11,.pointer (some ⟨b_3,0,none⟩)),(12,.int .i64 x_6)] w9)))))
 (R L1 Aj3 [(6,.pointer (some ⟨b_1,0,none⟩)),(8,.pointer (some ⟨b_2,0,none⟩)),(11,.pointer (some ⟨b_3,0,none⟩)),(12,.int .i64 x_6)] w7))):=by kernel_rfl
theorem A70 (C:A6) (R:A8) (x6:Addr) (nonev:Addr) (v:Addr) (isv:Int) (h:H) :
 B0 PR Ad6 C R L1 Tryz.f110 100000 true Aj3 [(6,.pointer (some x6)),(8,.pointer (some nonev)),(11,.pointer (some v)),(12,.int .i64 isv)] h =
 cond (isv != 1)
 (gAgg nonev 16 h fun x=>ck (List.length x=16) (pAgg x6 x h fun w=>gAgg x6 16 w fun x_1=>some (.tuple ⟨[.agg ⟨x_1⟩,.int .i64 isv]⟩,w)))
 (gAgg v 16 h fun x_2=>ck (List.length x_2=16) (pAgg x6 x_2 h fun w1=>gAgg x6 16 w1 fun x_3=>some (.tuple ⟨[.agg ⟨x_3⟩,.int .i64 isv]⟩,w1))):=by kernel_rfl
def Ap1:Cuts:={ globs:=0,loops:=[],regs:=[(8,[8,11,12])],plans:=[(7,⟨[0,1,2,3,4,5,6,7,8,9],[0,1,3,7,0,31,63,31,159,511],[(7,[5])],[]⟩)] }
def Ba8:List Item:=A9 Tryz.f115
def Aw4:List Item:=stk [0,1,0,1,0,1,0,1,0,1,0,1,0,0] Ba8
theorem Ee9 (C:A6) (R:A8) (c:Option Addr) (r:List Value) (decode:Value) (h:H) :
 B0 PR Ap1 C R Q9 Tryz.f115 100000 true Ba8 [(0,.pointer c),(1,.agg ⟨r⟩),(2,decode)] h =
 nw (.cells D9 false r) h fun b w=>gAgg ⟨b,0,none⟩ 2 w fun x=>bnd (C O3 [.pointer c,.agg ⟨x⟩] w) fun r_1 w1=>as2 r_1 fun r_2 r_3=>aSl r_2 fun x_1 xn xc=>aBool r_3 fun x_2=>cond (!x_2)
 (some (.tuple ⟨[.int .i64 0,.int .i64 2]⟩,w1))
 (aFn decode fun g fi cp=>bnd (C g (fi++([.slice x_1 xn xc]++cp)) w1) fun r_4 w2=>as2 r_4 fun r_5 r_6=>aInt .i64 r_5 fun x_3=>aInt .i64 r_6 fun x_4=>cond (x_4==2)
 (aSome c fun p=>gMap (Addr.add p 3) w2 fun x_5=>gAgg ⟨b,0,none⟩ 2 w2 fun x_6=>keyN PR D9 (.agg ⟨x_6⟩) (opt x_5 fun r_7=>mapAt w2 r_7 fun es _=>opt (Al6 (.int .i64 0) (.agg ⟨x_6⟩) es) fun f=>aInt .i64 f.1 fun x_7=>keyN PR D9 (.agg ⟨x_6⟩) (opt x_5 fun r_8=>mapAt w2 r_8 fun es_1 cl_1=>opt (D17 (.int .i64 0) (.agg ⟨x_6⟩) es_1 cl_1) fun f_1=>aInt .i64 f_1.1 fun _=>lt (H.set w2 r_8 f_1.2.2) fun w3=>keyN PR D9 (.agg ⟨x_6⟩) (opt x_5 fun r_9=>mapAt w3 r_9 fun es_2 _=>opt (Al6 (.int .i64 0) (.agg ⟨x_6⟩) es_2) fun f_2=>aInt .i64 f_2.1 fun x_9=>same (.int .i64 x_7) (.int .i64 x_9) (opt x_5 fun r_10=>mapAt w3 r_10 fun es_3 cl_3=>opt (Bk6 (f_1.2.1:Int) es_3 0) fun i=>lt (H.set w3 r_10 (.map (modN (fun e=>{ e with val:=.int .i64 (IntKind.wrap .i64 (x_7+1)) }) i es_3) cl_3)) fun w4=>R Q9 Aw4 [(8,.int .i64 0),(11,.int .i64 x_3),(12,.int .i64 x_4)] w4)))))
 (R Q9 Aw4 [(8,.int .i64 0),(11,.int .i64 x_3),(12,.int .i64 x_4)] w2)):=by kernel_rfl
theorem Bm9 (C:A6) (R:A8) (nonev:Int) (v:Int) (isv:Int) (h:H) :
 B0 PR Ap1 C R Q9 Tryz.f115 100000 true Aw4 [(8,.int .i64 nonev),(11,.int .i64 v),(12,.int .i64 isv)] h =
 cond (isv != 1)
 (some (.tuple ⟨[.int .i64 nonev,.int .i64 isv]⟩,h))
 (some (.tuple ⟨[.int .i64 v,.int .i64 isv]⟩,h)):=by kernel_rfl
def A86:Cuts:={ globs:=0,loops:=[],regs:=[],plans:=[] }
def By0:List Item:=A9 Tryz.f117
theorem Ee7 (C:A6) (R:A8) (g:Int) (h:H) :
 B0 PR A86 C R Ap7 Tryz.f117 100000 true By0 [(0,.int .i64 g)] h =
 bnd (cond (decide (g<0)) (some (true,h)) (some (decide (g≥8),h))) fun c w=>cond c
 (some (.tuple ⟨[.slice none 0 0,.bool false]⟩,w))
 (nw (.cells A7 false [.int .u8 (IntKind.wrap .u8 (g)),.int .u8 211]) w fun b w1=>bnd (C Ab2 [.slice (some ⟨b,0,none⟩) 2 2] w1) fun r w2=>aInt .u8 r fun x=>nw (.cells A7 false [.int .u8 x,.int .u8 0]) w2 fun b_1 w3=>gCells (some ⟨b_1,0,none⟩) (2*1) w3 fun cs=>ckB (fitsOpen (some ⟨b,0,none⟩) A7 w3) (apd A7 1 (some ⟨b,0,none⟩) 2 2 2 cs w3 fun a an ac w4=>some (.tuple ⟨[.slice a an ac,.bool true]⟩,w4))):=by kernel_rfl
def Dj2:Cuts:={ globs:=0,loops:=[(3,[3,8,9])],regs:=[],plans:=[(4,⟨[0,1,2,3,4,5,6,7,8,9,10],[0,0,2,6,14,0,32,126,255,511,1023],[(5,[4])],[]⟩)] }
def D98:List Item:=A9 Tryz.f122
def Bs3:List Item:=stk [0,1,0,1,0,0,1,4,5] D98
theorem Hu3 (C:A6) (R:A8) (envs:Int) (h:H) :
 B0 PR Dj2 C R Ay4 Tryz.f122 100000 true D98 [(0,.int .i64 envs)] h =
 nw (.cells Au3 false [.slice none 0 0]) h fun b w=>R Ay4 Bs3 [(3,.pointer (some ⟨b,0,none⟩)),(8,.int .i64 (mm2 false (mm2 true envs 0) 40)),(9,.int .i64 0)] w:=by kernel_rfl
theorem Ej2 (C:A6) (R:A8) (s:Addr) (x8:Int) (x9:Int) (h:H) :
 B0 PR Dj2 C R Ay4 Tryz.f122 100000 true Bs3 [(3,.pointer (some s)),(8,.int .i64 x8),(9,.int .i64 x9)] h =
 cond (decide (x9<x8))
 (gSl (Addr.add s 0) h fun x xn xc=>bnd (C P7 [.int .i64 32] h) fun r w=>aPtr r fun x_1=>gSl (Addr.add s 0) w fun x_2 xn_1 xc_1=>same (.slice x xn xc) (.slice x_2 xn_1 xc_1) (nw (.cells G8 false [.pointer x_1]) w fun b w1=>gCells (some ⟨b,0,none⟩) (1*1) w1 fun cs=>ckB (fitsOpen x G8 w1) (apd G8 1 x xn xc 1 cs w1 fun a an ac w2=>pV (Addr.add s 0) (.slice a an ac) w2 fun w3=>R Ay4 Bs3 [(3,.pointer (some s)),(8,.int .i64 x8),(9,.int .i64 (IntKind.wrap .i64 (x9+1)))] w3)))
 (some (.pointer (some s),h)):=by kernel_rfl
def Av0:Cuts:={ globs:=0,loops:=[(3,[5,20,21,22])],regs:=[],plans:=[(2,⟨[0,1,2,3,4,5,6,7,8,9,10,11,12,13,14],[0,1,3,7,0,16,0,64,192,448,960,2032,4095,8191,0],[],[]⟩)] }
def Be1:List Item:=A9 Tryz.f127
def Ak0:List Item:=stk [0,1,0,1,0,0,1,4,5] Be1
theorem Ej9 (C:A6) (R:A8) (q:Option Addr) (s:Int) (h:H) :
 B0 PR Av0 C R P4 Tryz.f127 100000 true Be1 [(0,.pointer q),(1,.int .i64 s)] h =
 aSome q fun p=>gSl (Addr.add p 0) h fun x _ xc=>aSome q fun p_1=>gSl (Addr.add p_1 0) h fun _ xn_1 _=>ckB (fitsOpen x Q6 h) (ck ((0:Int)≤mm2 false (mm2 true s 0) ((xn_1:Nat):Int)∧mm2 false (mm2 true s 0) ((xn_1:Nat):Int)≤((xc:Nat):Int)) (R P4 Ak0 [(5,.int .i64 0),(20,.slice (H5 x (decide (0<xc)) (0*1)) ((Int.toNat (mm2 false (mm2 true s 0) ((xn_1:Nat):Int)))-0) (xc-0)),(21,.int .i64 (((Int.toNat (mm2 false (mm2 true s 0) ((xn_1:Nat):Int)))-0:Nat):Int)),(22,.int .i64 0)] h)):=by kernel_rfl
theorem Bo5 (C:A6) (R:A8) (n:Int) (x20:Option Addr) (x20n x20c:Nat) (x21:Int) (x22:Int) (h:H) :
 B0 PR Av0 C R P4 Tryz.f127 100000 true Ak0 [(5,.int .i64 n),(20,.slice x20 x20n x20c),(21,.int .i64 x21),(22,.int .i64 x22)] h =
 cond (decide (x22<x21))
 (aSome x20 fun p=>ck ((0:Int)≤x22∧x22<((x20n:Nat):Int)) (gSl (Addr.add (B5 p) (Int.toNat x22*1)) h fun _ xn _=>R P4 Ak0 [(5,.int .i64 (IntKind.wrap .i64 (n+((xn:Nat):Int)))),(20,.slice x20 x20n x20c),(21,.int .i64 x21),(22,.int .i64 (IntKind.wrap .i64 (x22+1)))] h))
 (some (.int .i64 n,h)):=by kernel_rfl
def Dw3:Cuts:={ globs:=0,loops:=[(2,[0,1,5])],regs:=[],plans:=[] }
def Eu8:List Item:=A9 Tryz.f134
def B34:List Item:=stk [0,1,0,0,1,4,5] Eu8
theorem H62 (C:A6) (R:A8) (l:Option Addr) (ln lc:Nat) (s:Int) (h:H) :
 B0 PR Dw3 C R A75 Tryz.f134 100000 true Eu8 [(0,.slice l ln lc),(1,.int .i64 s)] h =
 R A75 B34 [(0,.slice l ln lc),(1,.int .i64 s),(5,.int .i64 0)] h:=by kernel_rfl
theorem Ep8 (C:A6) (R:A8) (l:Option Addr) (ln lc:Nat) (s:Int) (i:Int) (h:H) :
 B0 PR Dw3 C R A75 Tryz.f134 100000 true B34 [(0,.slice l ln lc),(1,.int .i64 s),(5,.int .i64 i)] h =
 cond (decide (i<((ln:Nat):Int)))
 (aSome l fun p=>ck ((0:Int)≤i∧i<((ln:Nat):Int)) (gInt .i64 (Addr.add (B5 p) (Int.toNat i*1)) h fun x=>cond (x==s)
 (some (.bool true,h))
 (R A75 B34 [(0,.slice l ln lc),(1,.int .i64 s),(5,.int .i64 (IntKind.wrap .i64 (i+1)))] h)))
 (some (.bool false,h)):=by kernel_rfl
def Bv0:Cuts:={ globs:=0,loops:=[],regs:=[],plans:=[] }
def Ds5:List Item:=A9 Tryz.f135
theorem Ga2 (C:A6) (R:A8) (s:Option Addr) (e:Int) (c:List Value) (h:H) :
 B0 PR Bv0 C R A95 Tryz.f135 100000 true Ds5 [(0,.pointer s),(1,.int .i64 e),(2,.agg ⟨c⟩)] h =
 nw (.cells P6 false c) h fun b w=>bnd (C Ai5 [.pointer s,.int .i64 e] w) fun r w1=>aBool r fun x=>bnd (cond (!x) (some (true,w1)) (gInt .i64 (Addr.add ⟨b,0,none⟩ 1) w1 fun x_1=>some (decide (x_1<0),w1))) fun c_1 w2=>bnd (cond c_1 (some (true,w2)) (gInt .i64 (Addr.add ⟨b,0,none⟩ 1) w2 fun x_2=>some (decide (x_2>7),w2))) fun c_2 w3=>bnd (cond c_2 (some (true,w3)) (gInt .i64 (Addr.add ⟨b,0,none⟩ 2) w3 fun x_3=>some (decide (x_3<0),w3))) fun c_3 w4=>bnd (cond c_3 (some (true,w4)) (gInt .i64 (Addr.add ⟨b,0,none⟩ 2) w4 fun x_4=>some (decide (x_4>65536),w4))) fun c_4 w5=>bnd (cond c_4 (some (true,w5)) (gInt .i64 (Addr.add ⟨b,0,none⟩ 3) w5 fun x_5=>some (decide (x_5<0),w5))) fun c_5 w6=>bnd (cond c_5 (some (true,w6)) (gInt .i64 (Addr.add ⟨b,0,none⟩ 3) w6 fun x_6=>some (decide (x_6>65536),w6))) fun c_6 w7=>cond c_6
 (some (.tuple ⟨[.int .i64 0,.int .i64 1]⟩,w7))
 (pAgg (Addr.add ⟨b,0,none⟩ 4) [.int .i64 0,.int .i64 0] w7 fun w8=>gAgg ⟨b,0,none⟩ 6 w8 fun x_7=>bnd (C A79 [.pointer s,.int .i64 e,.agg ⟨x_7⟩] w8) fun r_1 w9=>as2 r_1 fun r_2 r_3=>aInt .i64 r_2 fun x_8=>aInt .i64 r_3 fun x_9=>some (.tuple ⟨[.int .i64 x_8,.int .i64 x_9]⟩,w9)):=by kernel_rfl
def Bn2:Cuts:={ globs:=0,loops:=[],regs:=[],plans:=[] }
def Dg9:List Item:=A9 Tryz.f146
theorem Ez7 (C:A6) (R:A8) (k:Option Addr) (env:Int) (c:List Value) (h:H) :
 B0 PR Bn2 C R A42 Tryz.f146 100000 true Dg9 [(0,.pointer k),(1,.int .i64 env),(2,.agg ⟨c⟩)] h =
 nw (.cells Az0 false c) h fun b w=>gInt .i64 (Addr.add ⟨b,0,none⟩ 3) w fun x=>bnd (C At2 [.pointer k,.int .i64 env,.int .i64 x] w) fun r w1=>as2 r fun r_1 r_2=>aPtr r_1 fun x_1=>aInt .i64 r_2 fun x_2=>cond (x_2 != 0)
 (some (.tuple ⟨[.int .i64 0,.int .i64 x_2]⟩,w1))
 (aSome k fun p=>gInt .i64 (Addr.add p 7) w1 fun x_3=>bnd (C D0 [.pointer x_1,.int .i64 env,.int .i64 x_3] w1) fun r_3 w2=>as2 r_3 fun r_4 r_5=>aInt .i64 r_4 fun x_4=>aBool r_5 fun _=>some (.tuple ⟨[.int .i64 x_4,.int .i64 0]⟩,w2)):=by kernel_rfl
def De7:Cuts:={ globs:=0,loops:=[],regs:=[],plans:=[] }
def Ei1:List Item:=A9 Tryz.f151
theorem Gx6 (C:A6) (R:A8) (atv:Int) (n:Int) (size:Int) (h:H) :
 B0 PR De7 C R Ag8 Tryz.f151 100000 true Ei1 [(0,.int .i64 atv),(1,.int .i64 n),(2,.int .i64 size)] h =
 bnd (cond (decide (atv≥0)) (some (decide (n≥0),h)) (some (false,h))) fun c w=>bnd (cond c (some (decide (atv≤size),w)) (some (false,w))) fun c_1 w1=>bnd (cond c_1 (some (decide (n≤(IntKind.wrap .i64 (size-atv))),w1)) (some (false,w1))) fun c_2 w2=>some (.bool c_2,w2):=by kernel_rfl
def A09:Cuts:={ globs:=0,loops:=[],regs:=[],plans:=[(2,⟨[0,1,2,3,4,5,6,7,8,9,10],[0,1,3,7,15,31,63,7,255,511,1023],[],[]⟩),(4,⟨[0,1,2,3,4,5,6,7,8,9,10,11,12,13,14,16,15,17],[0,1,3,7,0,16,48,112,0,256,0,1024,0,4096,16128,32767,0,131071],[],[]⟩),(6,⟨[0,1,2,3,4,5,6,7,8,9],[0,1,3,7,0,31,63,31,159,511],[(7,[5])],[]⟩)] }
def Bq4:List Item:=A9 Tryz.f159
theorem D35 (C:A6) (R:A8) (c:Option Addr) (r:List Value) (h:H) :
 B0 PR A09 C R O3 Tryz.f159 100000 true Bq4 [(0,.pointer c),(1,.agg ⟨r⟩)] h =
 nw (.cells D9 false r) h fun b w=>gAgg ⟨b,0,none⟩ 2 w fun x=>bnd (C Q5 [.pointer c,.agg ⟨x⟩] w) fun r_1 w1=>as2 r_1 fun r_2 r_3=>aAgg r_2 fun x_1=>aBool r_3 fun x_2=>nw (.cells Bf6 false [.int .i64 0,.int .i64 0,.int .i64 0]) w1 fun b_1 w2=>ck (List.length x_1=3) (pAgg ⟨b_1,0,none⟩ x_1 w2 fun w3=>bnd (cond (!x_2) (some (true,w3)) (aSome c fun p=>gMap (Addr.add p 3) w3 fun x_3=>gAgg ⟨b,0,none⟩ 2 w3 fun x_4=>keyN PR D9 (.agg ⟨x_4⟩) (opt x_3 fun r_4=>mapAt w3 r_4 fun es _=>opt (Al6 (.int .i64 0) (.agg ⟨x_4⟩) es) fun f=>aInt .i64 f.1 fun x_5=>some (decide (x_5>0),w3)))) fun c_1 w4=>cond c_1
 (some (.tuple ⟨[.slice none 0 0,.bool false]⟩,w4))
 (aSome c fun p_1=>gPtr (Addr.add p_1 0) w4 fun x_6=>aSome c fun p_2=>gInt .i64 (Addr.add p_2 1) w4 fun x_7=>gInt .i64 (Addr.add ⟨b_1,0,none⟩ 0) w4 fun x_8=>gInt .i64 (Addr.add ⟨b_1,0,none⟩ 1) w4 fun x_9=>gInt .i64 (Addr.add ⟨b_1,0,none⟩ 2) w4 fun x_10=>nw (.cells Et8 false [.int .i64 0,.int .i64 0,.slice none 0 0]) w4 fun b_2 w5=>bnd (C S8 [.pointer x_6,.int .i64 x_7,.agg ⟨[.int .i64 1,.int .i64 x_8,.int .i64 x_9,.int .i64 x_10,.int .i64 0,.int .i64 0,.slice none 0 0]⟩] w5) fun r_5 w6=>aAgg r_5 fun x_11=>ck (List.length x_11=3) (pAgg ⟨b_2,0,none⟩ x_11 w6 fun w7=>gInt .i64 (Addr.add ⟨b_2,0,none⟩ 0) w7 fun x_12=>cond (x_12 != 0)
 (aSome c fun p_3=>gMap (Addr.add p_3 3) w7 fun x_13=>gAgg ⟨b,0,none⟩ 2 w7 fun x_14=>keyN PR D9 (.agg ⟨x_14⟩) (opt x_13 fun r_6=>mapAt w7 r_6 fun es_1 _=>opt (Al6 (.int .i64 0) (.agg ⟨x_14⟩) es_1) fun f_1=>aInt .i64 f_1.1 fun x_15=>keyN PR D9 (.agg ⟨x_14⟩) (opt x_13 fun r_7=>mapAt w7 r_7 fun es_2 cl_2=>opt (D17 (.int .i64 0) (.agg ⟨x_14⟩) es_2 cl_2) fun f_2=>aInt .i64 f_2.1 fun _=>lt (H.set w7 r_7 f_2.2.2) fun w8=>keyN PR D9 (.agg ⟨x_14⟩) (opt x_13 fun r_8=>mapAt w8 r_8 fun es_3 _=>opt (Al6 (.int .i64 0) (.agg ⟨x_14⟩) es_3) fun f_3=>aInt .i64 f_3.1 fun x_17=>same (.int .i64 x_15) (.int .i64 x_17) (opt x_13 fun r_9=>mapAt w8 r_9 fun es_4 cl_4=>opt (Bk6 (f_2.2.1:Int) es_4 0) fun i=>lt (H.set w8 r_9 (.map (modN (fun e=>{ e with val:=.int .i64 (IntKind.wrap .i64 (x_15+1)) }) i es_4) cl_4)) fun w9=>some (.tuple ⟨[.slice none 0 0,.bool false]⟩,w9))))))
 (gSl (Addr.add ⟨b_2,0,none⟩ 2) w7 fun x_18 xn xc=>some (.tuple ⟨[.slice x_18 xn xc,.bool true]⟩,w7))))):=by kernel_rfl
def Ah6:Cuts:={ globs:=0,loops:=[],regs:=[],plans:=[(4,⟨[0,1,2,3,4,10,5,6,7,8,9,11,12],[0,1,3,7,0,16,63,127,255,255,0,1535,4095],[(5,[3])],[]⟩)] }
def A20:List Item:=A9 Tryz.f162
theorem B42 (C:A6) (R:A8) (c:Option Addr) (b:Option Addr) (bn bc:Nat) (h:H) :
 B0 PR Ah6 C R W1 Tryz.f162 100000 true A20 [(0,.pointer c),(1,.slice b bn bc)] h =
 nw (.cells D5 false [.int .i64 0,.int .i64 0,.int .i64 0,.int .i64 0]) h fun b_1 w=>nw (.cells D5 false [.int .i64 0,.int .i64 0,.int .i64 0,.int .i64 0]) w fun b_2 w1=>aSome c fun p=>gFv (Addr.add p 2) w1 fun x=>isNilF x fun b_3=>bnd (cond b_3 (some (true,w1)) (aSome c fun p_1=>gInt .i64 (Addr.add p_1 0) w1 fun x_1=>some (((bn:Nat):Int) != x_1,w1))) fun c_1 w2=>cond c_1
 (gAgg ⟨b_2,0,none⟩ 4 w2 fun x_2=>ck (List.length x_2=4) (pAgg ⟨b_1,0,none⟩ x_2 w2 fun w3=>gAgg ⟨b_1,0,none⟩ 4 w3 fun x_3=>some (.tuple ⟨[.agg ⟨x_3⟩,.bool false]⟩,w3)))
 (aSome c fun p_2=>gFv (Addr.add p_2 2) w2 fun x_4=>nw (.cells D5 false [.int .i64 0,.int .i64 0,.int .i64 0,.int .i64 0]) w2 fun b_4 w4=>bnd (C G7 [.slice b bn bc] w4) fun r w5=>aSl r fun x_5 xn xc=>gFv (Addr.add p_2 2) w5 fun x_6=>Bk5 (x_4) (x_6) (aFn x_4 fun g fi cp=>bnd (C g (fi++([.slice x_5 xn xc]++cp)) w5) fun r_1 w6=>as2 r_1 fun r_2 r_3=>aAgg r_2 fun x_7=>aBool r_3 fun x_8=>ck (List.length x_7=4) (pAgg ⟨b_4,0,none⟩ x_7 w6 fun w7=>cond (!x_8)
 (gAgg ⟨b_2,0,none⟩ 4 w7 fun x_9=>ck (List.length x_9=4) (pAgg ⟨b_1,0,none⟩ x_9 w7 fun w8=>gAgg ⟨b_1,0,none⟩ 4 w8 fun x_10=>some (.tuple ⟨[.agg ⟨x_10⟩,.bool false]⟩,w8)))
 (gAgg ⟨b_4,0,none⟩ 4 w7 fun x_11=>ck (List.length x_11=4) (pAgg ⟨b_1,0,none⟩ x_11 w7 fun w9=>gAgg ⟨b_1,0,none⟩ 4 w9 fun x_12=>some (.tuple ⟨[.agg ⟨x_12⟩,.bool true]⟩,w9)))))):=by kernel_rfl
def Dg3:Cuts:={ globs:=0,loops:=[],regs:=[],plans:=[] }
def Ej0:List Item:=A9 Tryz.f168
theorem Gv2 (C:A6) (R:A8)  (h:H) :
 B0 PR Dg3 C R Bb2 Tryz.f168 100000 true Ej0 [] h =
 bnd (C Ap4 [.int .i64 24,.func (.func O5) ⟨[]⟩ ⟨[]⟩,.func (.func Y5) ⟨[]⟩ ⟨[]⟩] h) fun r w=>aPtr r fun x=>some (.pointer x,w):=by kernel_rfl
def Av8:Cuts:={ globs:=0,loops:=[],regs:=[],plans:=[(2,⟨[0,1,2,3,4,5,6,7],[0,0,0,4,12,0,63,127],[],[]⟩)] }
def Bm5:List Item:=A9 Tryz.f172
theorem Du7 (C:A6) (R:A8) (c:Option Addr) (r:List Value) (h:H) :
 B0 PR Av8 C R Z1 Tryz.f172 100000 true Bm5 [(0,.pointer c),(1,.agg ⟨r⟩)] h =
 nw (.cells D9 false r) h fun b w=>gAgg ⟨b,0,none⟩ 2 w fun x=>bnd (C Q5 [.pointer c,.agg ⟨x⟩] w) fun r_1 w1=>as2 r_1 fun r_2 r_3=>aAgg r_2 fun x_1=>aBool r_3 fun x_2=>nw (.cells Bf6 false [.int .i64 0,.int .i64 0,.int .i64 0]) w1 fun b_1 w2=>ck (List.length x_1=3) (pAgg ⟨b_1,0,none⟩ x_1 w2 fun w3=>gAgg ⟨b,0,none⟩ 2 w3 fun x_3=>gInt .i64 (Addr.add ⟨b_1,0,none⟩ 2) w3 fun x_4=>ck ((0:Int)≤x_4∧(x_4:Int)≤x_4∧x_4≤(B4:Int)) (nw (.cells A7 false (H4 (Int.toNat x_4) [.int .u8 0])) w3 fun b_2 w4=>bnd (C I1 [.pointer c,.agg ⟨x_3⟩,.slice (some ⟨b_2,0,none⟩) (Int.toNat x_4) (Int.toNat x_4),.bool x_2] w4) fun r_4 w5=>aBool r_4 fun x_5=>some (.bool x_5,w5))):=by kernel_rfl
def B59:Cuts:={ globs:=0,loops:=[],regs:=[],plans:=[] }
def D40:List Item:=A9 Tryz.f175
theorem Gi4 (C:A6) (R:A8) (s:Int) (fv0:Addr) (h:H) :
 B0 PR B59 C R G9 Tryz.f175 100000 true D40 [(0,.int .i64 s),(1,.pointer (some fv0))] h =
 bnd (cond (decide (s<0)) (some (true,h)) (gSl (Addr.add fv0 0) h fun _ xn _=>some (decide (s≥((xn:Nat):Int)),h))) fun c w=>some (.bool c,w):=by kernel_rfl
def B55:Cuts:={ globs:=0,loops:=[],regs:=[],plans:=[] }
def D43:List Item:=A9 Tryz.f179
theorem Go3 (C:A6) (R:A8) (m:Option Addr) (h:H) :
 B0 PR B55 C R A68 Tryz.f179 100000 true D43 [(0,.pointer m)] h =
 aSome m fun p=>gSl (Addr.add p 0) h fun _ xn _=>some (.int .i64 ((xn:Nat):Int),h):=by kernel_rfl
def Bt0:Cuts:={ globs:=0,loops:=[],regs:=[],plans:=[(1,⟨[0,1,2,3,4,5,6,7,8,9,10,11,12,13],[0,1,3,7,0,31,63,0,255,511,1023,1023,2047,8191],[],[]⟩)] }
def Dn3:List Item:=A9 Tryz.f182
theorem E73 (C:A6) (R:A8) (s:Option Addr) (env:Int) (c:List Value) (h:H) :
 B0 PR Bt0 C R At7 Tryz.f182 100000 true Dn3 [(0,.pointer s),(1,.int .i64 env),(2,.agg ⟨c⟩)] h =
 nw (.cells P6 false c) h fun b w=>aSome s fun p=>gSl (Addr.add p 0) w fun x xn _=>aSome x fun p_1=>ck ((0:Int)≤env∧env<((xn:Nat):Int)) (gPtr (Addr.add (B5 p_1) (Int.toNat env*1)) w fun x_1=>gAgg ⟨b,0,none⟩ 6 w fun x_2=>bnd (C I3 [.pointer x_1,.agg ⟨x_2⟩] w) fun r w1=>as2 r fun r_1 r_2=>aInt .i64 r_1 fun x_3=>aBool r_2 fun x_4=>cond (!x_4)
 (some (.tuple ⟨[.int .i64 0,.int .i64 4]⟩,w1))
 (some (.tuple ⟨[.int .i64 x_3,.int .i64 0]⟩,w1))):=by kernel_rfl
def Aa4:Cuts:={ globs:=0,loops:=[(3,[0,3,9,10,11])],regs:=[],plans:=[] }
def Al2:List Item:=A9 Tryz.f184
def N6:List Item:=stk [0,1,0,1,0,0,1,4,5] Al2
theorem Dc3 (C:A6) (R:A8) (t:Option Addr) (h:H) :
 B0 PR Aa4 C R G3 Tryz.f184 100000 true Al2 [(0,.pointer t)] h =
 aSome t fun p=>gSl (Addr.add p 0) h fun x xn xc=>R G3 N6 [(0,.pointer t),(3,.slice none 0 0),(9,.slice x xn xc),(10,.int .i64 ((xn:Nat):Int)),(11,.int .i64 0)] h:=by kernel_rfl
theorem Ax9 (C:A6) (R:A8) (t:Option Addr) (out:Option Addr) (outn outc:Nat) (x9:Option Addr) (x9n x9c:Nat) (x10:Int) (x11:Int) (h:H) :
 B0 PR Aa4 C R G3 Tryz.f184 100000 true N6 [(0,.pointer t),(3,.slice out outn outc),(9,.slice x9 x9n x9c),(10,.int .i64 x10),(11,.int .i64 x11)] h =
 cond (decide (x11<x10))
 (aSome x9 fun p=>ck ((0:Int)≤x11∧x11<((x9n:Nat):Int)) (gAgg (Addr.add (B5 p) (Int.toNat x11*8)) 8 h fun x=>nw (.cells Al7 false [.int .i64 0,.int .i64 0,.int .i64 0,.int .i64 0,.int .i64 0,.int .i64 0,.int .i64 0,.bool false]) h fun b w=>ck (List.length x=8) (pAgg ⟨b,0,none⟩ x w fun w1=>gBool (Addr.add ⟨b,0,none⟩ 7) w1 fun x_1=>cond x_1
 (bnd (C N4 [.pointer t,.int .i64 x11] w1) fun r w2=>aInt .i64 r fun x_2=>nw (.cells B7 false [.int .i64 x_2]) w2 fun b_1 w3=>gCells (some ⟨b_1,0,none⟩) (1*1) w3 fun cs=>ckB (fitsOpen out B7 w3) (apd B7 1 out outn outc 1 cs w3 fun a an ac w4=>R G3 N6 [(0,.pointer t),(3,.slice a an ac),(9,.slice x9 x9n x9c),(10,.int .i64 x10),(11,.int .i64 (IntKind.wrap .i64 (x11+1)))] w4))
 (R G3 N6 [(0,.pointer t),(3,.slice out outn outc),(9,.slice x9 x9n x9c),(10,.int .i64 x10),(11,.int .i64 (IntKind.wrap .i64 (x11+1)))] w1))))
 (some (.slice out outn outc,h)):=by kernel_rfl
def A12:Cuts:={ globs:=0,loops:=[],regs:=[],plans:=[(6,⟨[0,1,2,3,4,5,6,7,8,9,10,11,12,13,14,15,16,17,18,19,20,21,22,23,24,25,26,27,28,29,30,31,32,33,34,35],[0,1,3,7,15,31,63,127,127,383,1023,2047,4095,8191,8191,24575,8191,122879,262143,524287,1048575,2097151,4194303,8388607,16777215,33554431,67108863,134217727,67108863,335544319,872415231,1946157055,4093640703,8589934591,17179869183,34359738367],[],[]⟩),(8,⟨[0,1,2,3,4,5,6,7,8,9],[0,1,3,7,0,16,63,127,0,511],[],[]⟩)] }
def Br1:List Item:=A9 Tryz.f186
theorem D11 (C:A6) (R:A8) (r:Option Addr) (env:Int) (name:Int) (right:Int) (atv:Int) (n:Int) (h:H) :
 B0 PR A12 C R Ab8 Tryz.f186 100000 true Br1 [(0,.pointer r),(1,.int .i64 env),(2,.int .i64 name),(3,.int .i64 right),(4,.int .i64 atv),(5,.int .i64 n)] h =
 aSome r fun p=>gPtr (Addr.add p 1) h fun x=>bnd (C At5 [.pointer x,.int .i64 env,.int .i64 name] h) fun r_1 w=>as2 r_1 fun r_2 r_3=>aAgg r_2 fun x_1=>aInt .i64 r_3 fun x_2=>nw (.cells P6 false [.int .i64 0,.int .i64 0,.int .i64 0,.int .i64 0,.int .i64 0,.int .i64 0]) w fun b w1=>ck (List.length x_1=6) (pAgg ⟨b,0,none⟩ x_1 w1 fun w2=>cond (x_2 != 0)
 (some (.tuple ⟨[.int .i64 0,.int .i64 x_2]⟩,w2))
 (gInt .i64 (Addr.add ⟨b,0,none⟩ 1) w2 fun x_3=>cond ((P3 .i64 x_3 right)==0)
 (some (.tuple ⟨[.int .i64 0,.int .i64 3]⟩,w2))
 (bnd (cond (decide (atv<0)) (some (true,w2)) (some (decide (n<0),w2))) fun c w3=>bnd (cond c (some (true,w3)) (gInt .i64 (Addr.add ⟨b,0,none⟩ 3) w3 fun x_4=>some (decide (atv>x_4),w3))) fun c_1 w4=>bnd (cond c_1 (some (true,w4)) (gInt .i64 (Addr.add ⟨b,0,none⟩ 3) w4 fun x_5=>some (decide (n>(IntKind.wrap .i64 (x_5-atv))),w4))) fun c_2 w5=>bnd (cond c_2 (some (true,w5)) (gInt .i64 (Addr.add ⟨b,0,none⟩ 0) w5 fun x_6=>some (decide (x_6<0),w5))) fun c_3 w6=>bnd (cond c_3 (some (true,w6)) (gInt .i64 (Addr.add ⟨b,0,none⟩ 0) w6 fun x_7=>aSome r fun p_1=>gSl (Addr.add p_1 2) w6 fun _ xn _=>some (decide (x_7≥((xn:Nat):Int)),w6))) fun c_4 w7=>cond c_4
 (some (.tuple ⟨[.int .i64 0,.int .i64 1]⟩,w7))
 (aSome r fun p_2=>gSl (Addr.add p_2 2) w7 fun x_9 xn_1 _=>gInt .i64 (Addr.add ⟨b,0,none⟩ 0) w7 fun x_10=>aSome x_9 fun p_3=>ck ((0:Int)≤x_10∧x_10<((xn_1:Nat):Int)) (gAgg (Addr.add (B5 p_3) (Int.toNat x_10*2)) 2 w7 fun x_11=>nw (.cells Aw8 false [.int .i64 0,.int .i64 0]) w7 fun b_1 w8=>ck (List.length x_11=2) (pAgg ⟨b_1,0,none⟩ x_11 w8 fun w9=>gInt .i64 (Addr.add ⟨b,0,none⟩ 2) w9 fun x_12=>gInt .i64 (Addr.add ⟨b_1,0,none⟩ 1) w9 fun x_13=>bnd (cond (decide ((IntKind.wrap .i64 (x_12+atv))>x_13)) (some (true,w9)) (gInt .i64 (Addr.add ⟨b_1,0,none⟩ 1) w9 fun x_14=>gInt .i64 (Addr.add ⟨b,0,none⟩ 2) w9 fun x_15=>some (decide (n>(IntKind.wrap .i64 ((IntKind.wrap .i64 (x_14-x_15))-atv))),w9))) fun c_5 w10=>cond c_5
 (some (.tuple ⟨[.int .i64 0,.int .i64 1]⟩,w10))
 (gInt .i64 (Addr.add ⟨b_1,0,none⟩ 0) w10 fun x_16=>gInt .i64 (Addr.add ⟨b,0,none⟩ 2) w10 fun x_17=>some (.tuple ⟨[.int .i64 (IntKind.wrap .i64 ((IntKind.wrap .i64 (x_16+x_17))+atv)),.int .i64 0]⟩,w10)))))))):=by kernel_rfl
def Bv7:Cuts:={ globs:=0,loops:=[],regs:=[],plans:=[] }
def Dp4:List Item:=A9 Tryz.f192
theorem E79 (C:A6) (R:A8) (q:Option Addr) (s:Int) (h:H) :
 B0 PR Bv7 C R Ai7 Tryz.f192 100000 true Dp4 [(0,.pointer q),(1,.int .i64 s)] h =
 bnd (cond (decide (s≥0)) (aSome q fun p=>gSl (Addr.add p 0) h fun _ xn _=>some (decide (s<((xn:Nat):Int)),h)) (some (false,h))) fun c w=>some (.bool c,w):=by kernel_rfl
def Bt3:Cuts:={ globs:=0,loops:=[],regs:=[],plans:=[(1,⟨[0,1,2,3,4,5,6,7,8,9,10,11,12,13,14,15,16,17,18,19,20,21,22,23,24,25,26,27,28],[0,1,3,7,7,23,55,119,247,511,1023,2047,4095,8191,16383,32767,4095,131071,262143,4095,528383,1576959,3674111,4095,16257023,33034239,67108863,134217727,268435455],[],[]⟩)] }
def Do6:List Item:=A9 Tryz.f194
theorem E90 (C:A6) (R:A8) (k:Option Addr) (env:Int) (n:Int) (h:H) :
 B0 PR Bt3 C R At2 Tryz.f194 100000 true Do6 [(0,.pointer k),(1,.int .i64 env),(2,.int .i64 n)] h =
 bnd (cond (decide (n<0)) (some (true,h)) (aSome k fun p=>gSl (Addr.add p 6) h fun _ xn _=>some (decide (n≥((xn:Nat):Int)),h))) fun c w=>bnd (cond c (some (true,w)) (aSome k fun p_1=>gSl (Addr.add p_1 1) w fun x_1 xn_1 _=>aSome x_1 fun p_2=>ck ((0:Int)≤n∧n<((xn_1:Nat):Int)) (gSl (Addr.add (B5 p_2) (Int.toNat n*1)) w fun x_2 xn_2 xc_2=>aSome k fun p_3=>gSl (Addr.add p_3 0) w fun x_3 xn_3 _=>aSome x_3 fun p_4=>ck ((0:Int)≤env∧env<((xn_3:Nat):Int)) (gInt .i64 (Addr.add (B5 p_4) (Int.toNat env*1)) w fun x_4=>bnd (C M9 [.slice x_2 xn_2 xc_2,.int .i64 x_4] w) fun r w1=>aBool r fun x_5=>some (!x_5,w1))))) fun c_1 w2=>cond c_1
 (some (.tuple ⟨[.pointer none,.int .i64 8]⟩,w2))
 (aSome k fun p_5=>gSl (Addr.add p_5 6) w2 fun x_6 xn_4 _=>aSome x_6 fun p_6=>ck ((0:Int)≤n∧n<((xn_4:Nat):Int)) (gPtr (Addr.add (B5 p_6) (Int.toNat n*1)) w2 fun x_7=>some (.tuple ⟨[.pointer x_7,.int .i64 0]⟩,w2))):=by kernel_rfl
def Bs6:Cuts:={ globs:=0,loops:=[],regs:=[],plans:=[] }
def Dt1:List Item:=A9 Tryz.f197
theorem E65 (C:A6) (R:A8) (n:Option Addr) (name:Int) (h:H) :
 B0 PR Bs6 C R A82 Tryz.f197 100000 true Dt1 [(0,.pointer n),(1,.int .i64 name)] h =
 bnd (cond (decide (name≥0)) (aSome n fun p=>gSl (Addr.add p 0) h fun _ xn _=>some (decide ((P3 .i64 name 255)<((xn:Nat):Int)),h)) (some (false,h))) fun c w=>bnd (cond c (aSome n fun p_1=>gSl (Addr.add p_1 0) w fun x_1 xn_1 _=>aSome x_1 fun p_2=>ck ((0:Int)≤P3 .i64 name 255∧P3 .i64 name 255<((xn_1:Nat):Int)) (gBool (Addr.add (Addr.add (B5 p_2) (Int.toNat (P3 .i64 name 255)*2)) 1) w fun x_2=>some (x_2,w))) (some (false,w))) fun c_1 w1=>bnd (cond c_1 (aSome n fun p_3=>gSl (Addr.add p_3 0) w1 fun x_3 xn_2 _=>aSome x_3 fun p_4=>ck ((0:Int)≤P3 .i64 name 255∧P3 .i64 name 255<((xn_2:Nat):Int)) (gInt .i64 (Addr.add (Addr.add (B5 p_4) (Int.toNat (P3 .i64 name 255)*2)) 0) w1 fun x_4=>some (x_4==(Int.fdiv name (2 ^ 8)),w1))) (some (false,w1))) fun c_2 w2=>some (.bool c_2,w2):=by kernel_rfl
def Ab0:Cuts:={ globs:=0,loops:=[],regs:=[],plans:=[] }
def As1:List Item:=A9 Tryz.f201
theorem Bp9 (C:A6) (R:A8) (s:Option Addr) (sn sc:Nat) (f:Value) (h:H) :
 B0 PR Ab0 C R Q3 Tryz.f201 100000 true As1 [(0,.slice s sn sc),(1,f)] h =
 bnd (C G2 [.slice s sn sc,f] h) fun r w=>aInt .i64 r fun x=>some (.bool (decide (x≥0)),w):=by kernel_rfl
def D06:Cuts:={ globs:=0,loops:=[],regs:=[],plans:=[(1,⟨[0,1,2,3,4,5,6,7,8,9,10,11,12,13,14,15,16,17,18],[0,1,3,7,0,16,48,112,0,256,768,1792,0,4096,12288,28672,65535,0,262143],[],[]⟩),(3,⟨[0,1,2,3,4,5,6,7,8],[0,0,2,6,6,30,62,63,255],[(5,[0])],[]⟩)] }
def E11:List Item:=A9 Tryz.f205
theorem Hh9 (C:A6) (R:A8) (b:Option Addr) (bn bc:Nat) (h:H) :
 B0 PR D06 C R Ar9 Tryz.f205 100000 true E11 [(0,.slice b bn bc)] h =
 nw (.cells D5 false [.int .i64 0,.int .i64 0,.int .i64 0,.int .i64 0]) h fun b_1 w=>aSome b fun p=>ck ((0:Int)≤0∧0<((bn:Nat):Int)) (gInt .u8 (Addr.add (B5 p) (Int.toNat 0*1)) w fun x=>aSome b fun p_1=>ck ((0:Int)≤1∧1<((bn:Nat):Int)) (gInt .u8 (Addr.add (B5 p_1) (Int.toNat 1*1)) w fun x_1=>aSome b fun p_2=>ck ((0:Int)≤2∧2<((bn:Nat):Int)) (gInt .u8 (Addr.add (B5 p_2) (Int.toNat 2*1)) w fun x_2=>aSome b fun p_3=>ck ((0:Int)≤3∧3<((bn:Nat):Int)) (gInt .u8 (Addr.add (B5 p_3) (Int.toNat 3*1)) w fun x_3=>nw (.cells D5 false [.int .i64 0,.int .i64 0,.int .i64 0,.int .i64 0]) w fun b_2 w1=>pAgg ⟨b_2,0,none⟩ [.int .i64 (IntKind.wrap .i64 (x)),.int .i64 (IntKind.wrap .i64 (x_1)),.int .i64 (IntKind.wrap .i64 (x_2)),.int .i64 (IntKind.wrap .i64 (x_3))] w1 fun w2=>gAgg ⟨b_2,0,none⟩ 4 w2 fun x_4=>bnd (C A62 [.agg ⟨x_4⟩] w2) fun r w3=>as2 r fun r_1 r_2=>aSl r_1 fun x_5 xn xc=>aBool r_2 fun x_6=>gAgg ⟨b_2,0,none⟩ 4 w3 fun x_7=>bnd (cond x_6 (bnd (C D4 [.slice x_5 xn xc,.slice b bn bc] w3) fun r_3 w4=>aBool r_3 fun x_8=>gAgg ⟨b_2,0,none⟩ 4 w4 fun x_9=>same (.agg ⟨x_7⟩) (.agg ⟨x_9⟩) (some (x_8,w4))) (some (false,w3))) fun c w5=>ck (List.length x_7=4) (pAgg ⟨b_1,0,none⟩ x_7 w5 fun w6=>gAgg ⟨b_1,0,none⟩ 4 w6 fun x_10=>some (.tuple ⟨[.agg ⟨x_10⟩,.bool c]⟩,w6)))))):=by kernel_rfl
def Au4:Cuts:={ globs:=0,loops:=[],regs:=[],plans:=[] }
def Bh0:List Item:=A9 Tryz.f220
theorem Dq6 (C:A6) (R:A8) (t:Option Addr) (name:Int) (h:H) :
 B0 PR Au4 C R Ae8 Tryz.f220 100000 true Bh0 [(0,.pointer t),(1,.int .i64 name)] h =
 bnd (cond (decide (name<0)) (some (true,h)) (aSome t fun p=>gSl (Addr.add p 0) h fun _ xn _=>some (decide ((P3 .i64 name 255)≥((xn:Nat):Int)),h))) fun c w=>bnd (cond c (some (true,w)) (aSome t fun p_1=>gSl (Addr.add p_1 0) w fun x_1 xn_1 _=>aSome x_1 fun p_2=>ck ((0:Int)≤P3 .i64 name 255∧P3 .i64 name 255<((xn_1:Nat):Int)) (gBool (Addr.add (Addr.add (B5 p_2) (Int.toNat (P3 .i64 name 255)*8)) 7) w fun x_2=>some (!x_2,w)))) fun c_1 w1=>bnd (cond c_1 (some (true,w1)) (bnd (C N4 [.pointer t,.int .i64 (P3 .i64 name 255)] w1) fun r w2=>aInt .i64 r fun x_3=>some (x_3 != name,w2))) fun c_2 w3=>cond c_2
 (some (.pointer none,w3))
 (aSome t fun p_3=>gSl (Addr.add p_3 0) w3 fun x_4 xn_2 _=>aSome x_4 fun p_4=>ck ((0:Int)≤P3 .i64 name 255∧P3 .i64 name 255<((xn_2:Nat):Int)) (some (.pointer (some (Addr.add (B5 p_4) (Int.toNat (P3 .i64 name 255)*8))),w3))):=by kernel_rfl
def Ds7:Cuts:={ globs:=0,loops:=[],regs:=[],plans:=[] }
def Er9:List Item:=A9 Tryz.f226
theorem G02 (C:A6) (R:A8) (b:Option Addr) (bn bc:Nat) (atv:Int) (n:Int) (h:H) :
 B0 PR Ds7 C R Bi1 Tryz.f226 100000 true Er9 [(0,.slice b bn bc),(1,.int .i64 atv),(2,.int .i64 n)] h =
 bnd (cond (decide (atv<0)) (some (true,h)) (some (decide (atv>(IntKind.wrap .i64 (((bn:Nat):Int)-2))),h))) fun c w=>bnd (cond c (some (true,w)) (some (decide (n<0),w))) fun c_1 w1=>bnd (cond c_1 (some (true,w1)) (some (decide (n>65535),w1))) fun c_2 w2=>cond c_2
 (some (.bool false,w2))
 (aSome b fun p=>ck ((0:Int)≤atv∧atv<((bn:Nat):Int)) (pV (Addr.add (B5 p) (Int.toNat atv*1)) (.int .u8 (IntKind.wrap .u8 (Int.fdiv n (2 ^ 8)))) w2 fun w3=>aSome b fun p_1=>ck ((0:Int)≤IntKind.wrap .i64 (atv+1)∧IntKind.wrap .i64 (atv+1)<((bn:Nat):Int)) (pV (Addr.add (B5 p_1) (Int.toNat (IntKind.wrap .i64 (atv+1))*1)) (.int .u8 (IntKind.wrap .u8 (n))) w3 fun w4=>some (.bool true,w4)))):=by kernel_rfl
def Dt3:Cuts:={ globs:=0,loops:=[],regs:=[],plans:=[] }
def Em1:List Item:=A9 Tryz.f231
theorem G21 (C:A6) (R:A8) (f:Int) (h:H) :
 B0 PR Dt3 C R Bj0 Tryz.f231 100000 true Em1 [(0,.int .i64 f)] h =
 bnd (cond (decide (f<0)) (some (true,h)) (some (decide (f>12),h))) fun c w=>some (.bool c,w):=by kernel_rfl
end
end Go.EQ

set_option maxRecDepth 100000
namespace Go.EQ
open Go Go.NN Go.Proofs
variable (C : A6) (R : A8)
noncomputable section
def Ig5:List (Nat × Cuts):=[(6,An0),(9,Bx7),(10,De2),(11,Ef7),(12,De6),(13,Df1),(14,Dq8),(15,Er6),(18,D13),(19,D19),(21,Ds0),(23,Dq2),(24,Dp9),(25,A29),(26,B76),(27,B72),(28,Dd8),(29,A34),(30,Bn3),(31,D88),(32,Dz5),(33,Dj0),(34,Dt7),(35,A16),(36,Dt8),(37,A13),(38,Ap9),(39,Ao8),(40,Ef8),(41,Ao9),(42,E54),(43,Ds3),(44,Eb1),(45,B73),(46,Df6),(47,Di3),(48,D21),(49,Dz8),(50,Eg5),(51,Eb2),(52,Al0),(53,D08),(56,D16),(57,Dz4),(58,A98),(59,S9),(60,A15),(64,A03),(65,Ao4),(66,Aw2),(68,A65),(69,A91),(70,As4),(71,Dg0),(72,Bg8),(73,Dm1),(74,Bn8),(75,Bi5),(77,A93),(86,Bj6),(87,Ef2),(88,Df9),(89,Ad9),(90,B88),(91,B50),(92,Ae1),(93,B86),(94,Df8),(95,De3),(96,Aw3),(97,B64),(98,B82),(99,B53),(100,Dr8),(101,Bp5),(102,Eq0),(104,B09),(105,Ap5),(106,Ae6),(107,Am8),(108,Al9),(109,A08),(110,Ad6),(111,B78),(115,Ap1),(116,Bn4),(117,A86),(118,Bh1),(119,Dg1),(120,Au5),(121,Eq3),(122,Dj2),(123,B99),(124,Dt2),(125,Eb8),(126,A89),(127,Av0),(128,Bv4),(129,Bf7),(130,Ay6),(131,Bf2),(132,B80),(133,Bj8),(134,Dw3),(135,Bv0),(136,Bo1),(137,Bi9),(138,Bu9),(139,A72),(140,A05),(141,A66),(142,Bh8),(144,Be5),(145,Bj3),(146,Bn2),(147,Bn7),(148,A94),(149,Bs7),(150,Bu6),(151,De7),(152,Bu7),(159,A09),(160,De5),(161,De9),(162,Ah6),(163,Dr2),(164,Ag9),(165,Ah3),(166,Aw1),(167,Ah1),(168,Dg3),(169,Ah4),(170,E98),(171,D33),(172,Av8),(173,Ah5),(174,B92),(175,B59),(176,Ae2),(177,Dq1),(178,Au7),(179,B55),(180,Bi8),(181,B13),(182,Bt0),(183,Bg7),(184,Aa4),(185,Ba5),(186,A12),(187,B58),(188,Bz1),(189,Bt5),(192,Bv7),(193,Bi2),(194,Bt3),(195,U5),(196,Bn6),(197,Bs6),(198,A88),(201,Ab0),(202,By1),(203,Ba7),(204,D18),(205,D06),(206,Am6),(207,Ba9),(208,D91),(209,Ee1),(210,A99),(211,Bd6),(212,Bp3),(213,Z0),(214,Ad8),(215,Am2),(216,Ds8),(217,An8),(220,Au4),(221,Bo0),(222,U7),(223,Eb7),(224,Ac2),(225,Eg0),(226,Ds7),(227,Dr9),(230,Dt6),(231,Dt3)]
def cutsOf:FuncId→Cuts:=Gb5 Ig5
noncomputable abbrev B2:A6:=NN.Call PR cutsOf
noncomputable abbrev I2:A8:=NN.Jump PR cutsOf
theorem A40:FnOk PR cutsOf E0 Tryz.f6 An0 A37 2:=⟨Tryz.func6,⟨_,rfl⟩,by kernel_rfl,rfl,rfl,by kernel_rfl⟩
theorem B16:FnOk PR cutsOf Af1 Tryz.f9 Bx7 Do1 1:=⟨Tryz.func9,⟨_,rfl⟩,by kernel_rfl,rfl,rfl,by kernel_rfl⟩
theorem Gu5:FnOk PR cutsOf Bb9 Tryz.f10 De2 Eh0 0:=⟨Tryz.func10,⟨_,rfl⟩,by kernel_rfl,rfl,rfl,by kernel_rfl⟩
theorem Hu4:FnOk PR cutsOf Bl7 Tryz.f11 Ef7 Gh8 2:=⟨Tryz.func11,⟨_,rfl⟩,by kernel_rfl,rfl,rfl,by kernel_rfl⟩
theorem Gx0:FnOk PR cutsOf Bd1 Tryz.f12 De6 Eh7 0:=⟨Tryz.func12,⟨_,rfl⟩,by kernel_rfl,rfl,rfl,by kernel_rfl⟩
theorem Eh1:FnOk PR cutsOf Ag5 Tryz.f13 Df1 Eh6 4:=⟨Tryz.func13,⟨_,rfl⟩,by kernel_rfl,rfl,rfl,by kernel_rfl⟩
theorem G71:FnOk PR cutsOf As9 Tryz.f14 Dq8 Es2 4:=⟨Tryz.func14,⟨_,rfl⟩,by kernel_rfl,rfl,rfl,by kernel_rfl⟩
theorem H22:FnOk PR cutsOf Dw8 Tryz.f15 Er6 Gt0 3:=⟨Tryz.func15,⟨_,rfl⟩,by kernel_rfl,rfl,rfl,by kernel_rfl⟩
theorem Hf9:FnOk PR cutsOf Ar6 Tryz.f18 D13 E40 3:=⟨Tryz.func18,⟨_,rfl⟩,by kernel_rfl,rfl,rfl,by kernel_rfl⟩
theorem Hf4:FnOk PR cutsOf Ae4 Tryz.f19 D19 E31 2:=⟨Tryz.func19,⟨_,rfl⟩,by kernel_rfl,rfl,rfl,by kernel_rfl⟩
theorem G35:FnOk PR cutsOf B06 Tryz.f21 Ds0 Es8 2:=⟨Tryz.func21,⟨_,rfl⟩,by kernel_rfl,rfl,rfl,by kernel_rfl⟩
theorem G96:FnOk PR cutsOf Bi4 Tryz.f23 Dq2 Es7 1:=⟨Tryz.func23,⟨_,rfl⟩,by kernel_rfl,rfl,rfl,by kernel_rfl⟩
theorem Hd3:FnOk PR cutsOf Bz2 Tryz.f24 Dp9 Er4 0:=⟨Tryz.func24,⟨_,rfl⟩,by kernel_rfl,rfl,rfl,by kernel_rfl⟩
theorem Bn5:FnOk PR cutsOf Q0 Tryz.f25 A29 Bo2 1:=⟨Tryz.func25,⟨_,rfl⟩,by kernel_rfl,rfl,rfl,by kernel_rfl⟩
theorem Gi7:FnOk PR cutsOf S8 Tryz.f26 B76 D37 3:=⟨Tryz.func26,⟨_,rfl⟩,by kernel_rfl,rfl,rfl,by kernel_rfl⟩
theorem Gj4:FnOk PR cutsOf As6 Tryz.f27 B72 D67 3:=⟨Tryz.func27,⟨_,rfl⟩,by kernel_rfl,rfl,rfl,by kernel_rfl⟩
theorem Gx5:FnOk PR cutsOf Bc2 Tryz.f28 Dd8 Ei6 0:=⟨Tryz.func28,⟨_,rfl⟩,by kernel_rfl,rfl,rfl,by kernel_rfl⟩
theorem Bo4:FnOk PR cutsOf U4 Tryz.f29 A34 Bo3 1:=⟨Tryz.func29,⟨_,rfl⟩,by kernel_rfl,rfl,rfl,by kernel_rfl⟩
theorem Ez6:FnOk PR cutsOf A36 Tryz.f30 Bn3 Dg6 1:=⟨Tryz.func30,⟨_,rfl⟩,by kernel_rfl,rfl,rfl,by kernel_rfl⟩
theorem Hq5:FnOk PR cutsOf P9 Tryz.f31 D88 Gg9 1:=⟨Tryz.func31,⟨_,rfl⟩,by kernel_rfl,rfl,rfl,by kernel_rfl⟩
theorem Hj6:FnOk PR cutsOf Br0 Tryz.f32 Dz5 E38 2:=⟨Tryz.func32,⟨_,rfl⟩,by kernel_rfl,rfl,rfl,by kernel_rfl⟩
theorem Dh8:FnOk PR cutsOf Y8 Tryz.f33 Dj0 Ec1 3:=⟨Tryz.func33,⟨_,rfl⟩,by kernel_rfl,rfl,rfl,by kernel_rfl⟩
theorem G53:FnOk PR cutsOf A69 Tryz.f34 Dt7 Em4 2:=⟨Tryz.func34,⟨_,rfl⟩,by kernel_rfl,rfl,rfl,by kernel_rfl⟩
theorem Dz1:FnOk PR cutsOf N9 Tryz.f35 A16 Br3 2:=⟨Tryz.func35,⟨_,rfl⟩,by kernel_rfl,rfl,rfl,by kernel_rfl⟩
theorem G29:FnOk PR cutsOf A58 Tryz.f36 Dt8 Ep2 2:=⟨Tryz.func36,⟨_,rfl⟩,by kernel_rfl,rfl,rfl,by kernel_rfl⟩
theorem Dz0:FnOk PR cutsOf O4 Tryz.f37 A13 Bp7 2:=⟨Tryz.func37,⟨_,rfl⟩,by kernel_rfl,rfl,rfl,by kernel_rfl⟩
theorem Dl7:FnOk PR cutsOf O8 Tryz.f38 Ap9 Bg1 3:=⟨Tryz.func38,⟨_,rfl⟩,by kernel_rfl,rfl,rfl,by kernel_rfl⟩
theorem Di8:FnOk PR cutsOf J7 Tryz.f39 Ao8 Bg5 3:=⟨Tryz.func39,⟨_,rfl⟩,by kernel_rfl,rfl,rfl,by kernel_rfl⟩
theorem Hp8:FnOk PR cutsOf Bz0 Tryz.f40 Ef8 Gh0 2:=⟨Tryz.func40,⟨_,rfl⟩,by kernel_rfl,rfl,rfl,by kernel_rfl⟩
theorem Di7:FnOk PR cutsOf J9 Tryz.f41 Ao9 Bg0 3:=⟨Tryz.func41,⟨_,rfl⟩,by kernel_rfl,rfl,rfl,by kernel_rfl⟩
theorem H80:FnOk PR cutsOf B71 Tryz.f42 E54 G85 3:=⟨Tryz.func42,⟨_,rfl⟩,by kernel_rfl,rfl,rfl,by kernel_rfl⟩
theorem Hd1:FnOk PR cutsOf M0 Tryz.f43 Ds3 En0 1:=⟨Tryz.func43,⟨_,rfl⟩,by kernel_rfl,rfl,rfl,by kernel_rfl⟩
theorem Hv4:FnOk PR cutsOf By5 Tryz.f44 Eb1 Gc6 2:=⟨Tryz.func44,⟨_,rfl⟩,by kernel_rfl,rfl,rfl,by kernel_rfl⟩
theorem Gk1:FnOk PR cutsOf Bm2 Tryz.f45 B73 D70 2:=⟨Tryz.func45,⟨_,rfl⟩,by kernel_rfl,rfl,rfl,by kernel_rfl⟩
theorem Gx4:FnOk PR cutsOf Aw7 Tryz.f46 Df6 Eh5 1:=⟨Tryz.func46,⟨_,rfl⟩,by kernel_rfl,rfl,rfl,by kernel_rfl⟩
theorem Ef9:FnOk PR cutsOf Ao5 Tryz.f47 Di3 D87 2:=⟨Tryz.func47,⟨_,rfl⟩,by kernel_rfl,rfl,rfl,by kernel_rfl⟩
theorem Hg7:FnOk PR cutsOf Da0 Tryz.f48 D21 E39 4:=⟨Tryz.func48,⟨_,rfl⟩,by kernel_rfl,rfl,rfl,by kernel_rfl⟩
theorem Hg4:FnOk PR cutsOf Da2 Tryz.f49 Dz8 E13 2:=⟨Tryz.func49,⟨_,rfl⟩,by kernel_rfl,rfl,rfl,by kernel_rfl⟩
theorem Hu2:FnOk PR cutsOf Dm3 Tryz.f50 Eg5 Gh9 3:=⟨Tryz.func50,⟨_,rfl⟩,by kernel_rfl,rfl,rfl,by kernel_rfl⟩
theorem Ho6:FnOk PR cutsOf Dl1 Tryz.f51 Eb2 Gd5 4:=⟨Tryz.func51,⟨_,rfl⟩,by kernel_rfl,rfl,rfl,by kernel_rfl⟩
theorem Dd0:FnOk PR cutsOf M9 Tryz.f52 Al0 A77 2:=⟨Tryz.func52,⟨_,rfl⟩,by kernel_rfl,rfl,rfl,by kernel_rfl⟩
theorem Hd6:FnOk PR cutsOf Da6 Tryz.f53 D08 E10 1:=⟨Tryz.func53,⟨_,rfl⟩,by kernel_rfl,rfl,rfl,by kernel_rfl⟩
theorem Hf2:FnOk PR cutsOf Bd4 Tryz.f56 D16 E22 2:=⟨Tryz.func56,⟨_,rfl⟩,by kernel_rfl,rfl,rfl,by kernel_rfl⟩
theorem He8:FnOk PR cutsOf Bq7 Tryz.f57 Dz4 E26 2:=⟨Tryz.func57,⟨_,rfl⟩,by kernel_rfl,rfl,rfl,by kernel_rfl⟩
theorem Dp2:FnOk PR cutsOf W6 Tryz.f58 A98 Bs8 2:=⟨Tryz.func58,⟨_,rfl⟩,by kernel_rfl,rfl,rfl,by kernel_rfl⟩
theorem O0:FnOk PR cutsOf D2 Tryz.f59 S9 Ab5 1:=⟨Tryz.func59,⟨_,rfl⟩,by kernel_rfl,rfl,rfl,by kernel_rfl⟩
theorem D25:FnOk PR cutsOf Ab1 Tryz.f60 A15 Bp6 2:=⟨Tryz.func60,⟨_,rfl⟩,by kernel_rfl,rfl,rfl,by kernel_rfl⟩
theorem D04:FnOk PR cutsOf S7 Tryz.f64 A03 Bq1 1:=⟨Tryz.func64,⟨_,rfl⟩,by kernel_rfl,rfl,rfl,by kernel_rfl⟩
theorem Dk5:FnOk PR cutsOf O9 Tryz.f65 Ao4 Be8 2:=⟨Tryz.func65,⟨_,rfl⟩,by kernel_rfl,rfl,rfl,by kernel_rfl⟩
theorem Du6:FnOk PR cutsOf Ah9 Tryz.f66 Aw2 Bm6 1:=⟨Tryz.func66,⟨_,rfl⟩,by kernel_rfl,rfl,rfl,by kernel_rfl⟩
theorem Au0:FnOk PR cutsOf J4 Tryz.f68 A65 Bh2 1:=⟨Tryz.func68,⟨_,rfl⟩,by kernel_rfl,rfl,rfl,by kernel_rfl⟩
theorem An7:FnOk PR cutsOf H9 Tryz.f69 A91 Bm0 1:=⟨Tryz.func69,⟨_,rfl⟩,by kernel_rfl,rfl,rfl,by kernel_rfl⟩
theorem Aj1:FnOk PR cutsOf G4 Tryz.f70 As4 A51 1:=⟨Tryz.func70,⟨_,rfl⟩,by kernel_rfl,rfl,rfl,by kernel_rfl⟩
theorem Gu3:FnOk PR cutsOf Bs1 Tryz.f71 Dg0 Ej4 2:=⟨Tryz.func71,⟨_,rfl⟩,by kernel_rfl,rfl,rfl,by kernel_rfl⟩
theorem Eo5:FnOk PR cutsOf Az6 Tryz.f72 Bg8 Db1 2:=⟨Tryz.func72,⟨_,rfl⟩,by kernel_rfl,rfl,rfl,by kernel_rfl⟩
theorem D93:FnOk PR cutsOf Af2 Tryz.f73 Dm1 Ed5 1:=⟨Tryz.func73,⟨_,rfl⟩,by kernel_rfl,rfl,rfl,by kernel_rfl⟩
theorem E07:FnOk PR cutsOf A28 Tryz.f74 Bn8 Dg4 3:=⟨Tryz.func74,⟨_,rfl⟩,by kernel_rfl,rfl,rfl,by kernel_rfl⟩
theorem Er5:FnOk PR cutsOf Ay5 Tryz.f75 Bi5 Db8 3:=⟨Tryz.func75,⟨_,rfl⟩,by kernel_rfl,rfl,rfl,by kernel_rfl⟩
theorem Ea2:FnOk PR cutsOf An9 Tryz.f77 A93 Bx8 5:=⟨Tryz.func77,⟨_,rfl⟩,by kernel_rfl,rfl,rfl,by kernel_rfl⟩
theorem El9:FnOk PR cutsOf Ay3 Tryz.f86 Bj6 Dd5 1:=⟨Tryz.func86,⟨_,rfl⟩,by kernel_rfl,rfl,rfl,by kernel_rfl⟩
theorem Hv2:FnOk PR cutsOf A92 Tryz.f87 Ef2 Gh5 1:=⟨Tryz.func87,⟨_,rfl⟩,by kernel_rfl,rfl,rfl,by kernel_rfl⟩
theorem Gx2:FnOk PR cutsOf Bb1 Tryz.f88 Df9 Ei0 2:=⟨Tryz.func88,⟨_,rfl⟩,by kernel_rfl,rfl,rfl,by kernel_rfl⟩
theorem Aq4:FnOk PR cutsOf J8 Tryz.f89 Ad9 Ap6 3:=⟨Tryz.func89,⟨_,rfl⟩,by kernel_rfl,rfl,rfl,by kernel_rfl⟩
theorem Gn0:FnOk PR cutsOf As3 Tryz.f90 B88 D41 1:=⟨Tryz.func90,⟨_,rfl⟩,by kernel_rfl,rfl,rfl,by kernel_rfl⟩
theorem Gk4:FnOk PR cutsOf A57 Tryz.f91 B50 D78 1:=⟨Tryz.func91,⟨_,rfl⟩,by kernel_rfl,rfl,rfl,by kernel_rfl⟩
theorem Aq8:FnOk PR cutsOf I5 Tryz.f92 Ae1 Ao3 3:=⟨Tryz.func92,⟨_,rfl⟩,by kernel_rfl,rfl,rfl,by kernel_rfl⟩
theorem Gn9:FnOk PR cutsOf As7 Tryz.f93 B86 D46 1:=⟨Tryz.func93,⟨_,rfl⟩,by kernel_rfl,rfl,rfl,by kernel_rfl⟩
theorem Gx1:FnOk PR cutsOf Aw6 Tryz.f94 Df8 Eh8 1:=⟨Tryz.func94,⟨_,rfl⟩,by kernel_rfl,rfl,rfl,by kernel_rfl⟩
theorem Gw7:FnOk PR cutsOf Aw9 Tryz.f95 De3 Ej8 1:=⟨Tryz.func95,⟨_,rfl⟩,by kernel_rfl,rfl,rfl,by kernel_rfl⟩
theorem Du4:FnOk PR cutsOf I1 Tryz.f96 Aw3 Bm7 4:=⟨Tryz.func96,⟨_,rfl⟩,by kernel_rfl,rfl,rfl,by kernel_rfl⟩
theorem Gl4:FnOk PR cutsOf A62 Tryz.f97 B64 D60 1:=⟨Tryz.func97,⟨_,rfl⟩,by kernel_rfl,rfl,rfl,by kernel_rfl⟩
theorem Gn7:FnOk PR cutsOf A60 Tryz.f98 B82 D56 1:=⟨Tryz.func98,⟨_,rfl⟩,by kernel_rfl,rfl,rfl,by kernel_rfl⟩
theorem Gj3:FnOk PR cutsOf A53 Tryz.f99 B53 D51 1:=⟨Tryz.func99,⟨_,rfl⟩,by kernel_rfl,rfl,rfl,by kernel_rfl⟩
theorem G73:FnOk PR cutsOf A44 Tryz.f100 Dr8 Eo8 3:=⟨Tryz.func100,⟨_,rfl⟩,by kernel_rfl,rfl,rfl,by kernel_rfl⟩
theorem D01:FnOk PR cutsOf Ae5 Tryz.f101 Bp5 B89 2:=⟨Tryz.func101,⟨_,rfl⟩,by kernel_rfl,rfl,rfl,by kernel_rfl⟩
theorem H58:FnOk PR cutsOf Bx1 Tryz.f102 Eq0 Gr3 1:=⟨Tryz.func102,⟨_,rfl⟩,by kernel_rfl,rfl,rfl,by kernel_rfl⟩
theorem Dn0:FnOk PR cutsOf Ak9 Tryz.f104 B09 Dn4 1:=⟨Tryz.func104,⟨_,rfl⟩,by kernel_rfl,rfl,rfl,by kernel_rfl⟩
theorem Dk3:FnOk PR cutsOf V0 Tryz.f105 Ap5 Bf4 1:=⟨Tryz.func105,⟨_,rfl⟩,by kernel_rfl,rfl,rfl,by kernel_rfl⟩
theorem At3:FnOk PR cutsOf H6 Tryz.f106 Ae6 As8 2:=⟨Tryz.func106,⟨_,rfl⟩,by kernel_rfl,rfl,rfl,by kernel_rfl⟩
theorem De1:FnOk PR cutsOf Ab9 Tryz.f107 Am8 Bc0 2:=⟨Tryz.func107,⟨_,rfl⟩,by kernel_rfl,rfl,rfl,by kernel_rfl⟩
theorem De0:FnOk PR cutsOf Ac3 Tryz.f108 Al9 Bb4 2:=⟨Tryz.func108,⟨_,rfl⟩,by kernel_rfl,rfl,rfl,by kernel_rfl⟩
theorem D36:FnOk PR cutsOf Ab7 Tryz.f109 A08 Bq5 2:=⟨Tryz.func109,⟨_,rfl⟩,by kernel_rfl,rfl,rfl,by kernel_rfl⟩
theorem Ar0:FnOk PR cutsOf L1 Tryz.f110 Ad6 Aq3 3:=⟨Tryz.func110,⟨_,rfl⟩,by kernel_rfl,rfl,rfl,by kernel_rfl⟩
theorem Gm8:FnOk PR cutsOf A71 Tryz.f111 B78 D55 1:=⟨Tryz.func111,⟨_,rfl⟩,by kernel_rfl,rfl,rfl,by kernel_rfl⟩
theorem A80:FnOk PR cutsOf Q9 Tryz.f115 Ap1 Ba8 3:=⟨Tryz.func115,⟨_,rfl⟩,by kernel_rfl,rfl,rfl,by kernel_rfl⟩
theorem Ez0:FnOk PR cutsOf An2 Tryz.f116 Bn4 Dg7 1:=⟨Tryz.func116,⟨_,rfl⟩,by kernel_rfl,rfl,rfl,by kernel_rfl⟩
theorem Ec2:FnOk PR cutsOf Ap7 Tryz.f117 A86 By0 1:=⟨Tryz.func117,⟨_,rfl⟩,by kernel_rfl,rfl,rfl,by kernel_rfl⟩
theorem Bh6:FnOk PR cutsOf S5 Tryz.f118 Bh1 B14 1:=⟨Tryz.func118,⟨_,rfl⟩,by kernel_rfl,rfl,rfl,by kernel_rfl⟩
theorem Gw6:FnOk PR cutsOf Bd0 Tryz.f119 Dg1 Ei5 1:=⟨Tryz.func119,⟨_,rfl⟩,by kernel_rfl,rfl,rfl,by kernel_rfl⟩
theorem Dt9:FnOk PR cutsOf W9 Tryz.f120 Au5 Bj2 1:=⟨Tryz.func120,⟨_,rfl⟩,by kernel_rfl,rfl,rfl,by kernel_rfl⟩
theorem H20:FnOk PR cutsOf Dy1 Tryz.f121 Eq3 Gt6 1:=⟨Tryz.func121,⟨_,rfl⟩,by kernel_rfl,rfl,rfl,by kernel_rfl⟩
theorem D85:FnOk PR cutsOf Ay4 Tryz.f122 Dj2 D98 1:=⟨Tryz.func122,⟨_,rfl⟩,by kernel_rfl,rfl,rfl,by kernel_rfl⟩
theorem D32:FnOk PR cutsOf Ar8 Tryz.f123 B99 D02 1:=⟨Tryz.func123,⟨_,rfl⟩,by kernel_rfl,rfl,rfl,by kernel_rfl⟩
theorem G64:FnOk PR cutsOf B17 Tryz.f124 Dt2 Er8 2:=⟨Tryz.func124,⟨_,rfl⟩,by kernel_rfl,rfl,rfl,by kernel_rfl⟩
theorem Ho5:FnOk PR cutsOf Dh7 Tryz.f125 Eb8 Gg6 1:=⟨Tryz.func125,⟨_,rfl⟩,by kernel_rfl,rfl,rfl,by kernel_rfl⟩
theorem Ea4:FnOk PR cutsOf Ap0 Tryz.f126 A89 Bx9 3:=⟨Tryz.func126,⟨_,rfl⟩,by kernel_rfl,rfl,rfl,by kernel_rfl⟩
theorem Be4:FnOk PR cutsOf P4 Tryz.f127 Av0 Be1 2:=⟨Tryz.func127,⟨_,rfl⟩,by kernel_rfl,rfl,rfl,by kernel_rfl⟩
theorem E61:FnOk PR cutsOf Ba4 Tryz.f128 Bv4 Dn6 3:=⟨Tryz.func128,⟨_,rfl⟩,by kernel_rfl,rfl,rfl,by kernel_rfl⟩
theorem Bx6:FnOk PR cutsOf Aa5 Tryz.f129 Bf7 Bx5 1:=⟨Tryz.func129,⟨_,rfl⟩,by kernel_rfl,rfl,rfl,by kernel_rfl⟩
theorem Bi0:FnOk PR cutsOf N7 Tryz.f130 Ay6 Bh9 2:=⟨Tryz.func130,⟨_,rfl⟩,by kernel_rfl,rfl,rfl,by kernel_rfl⟩
theorem B33:FnOk PR cutsOf Aa3 Tryz.f131 Bf2 B05 1:=⟨Tryz.func131,⟨_,rfl⟩,by kernel_rfl,rfl,rfl,by kernel_rfl⟩
theorem Gk2:FnOk PR cutsOf Bl8 Tryz.f132 B80 D45 1:=⟨Tryz.func132,⟨_,rfl⟩,by kernel_rfl,rfl,rfl,by kernel_rfl⟩
theorem Ek9:FnOk PR cutsOf Ay0 Tryz.f133 Bj8 Dd2 3:=⟨Tryz.func133,⟨_,rfl⟩,by kernel_rfl,rfl,rfl,by kernel_rfl⟩
theorem Ek8:FnOk PR cutsOf A75 Tryz.f134 Dw3 Eu8 2:=⟨Tryz.func134,⟨_,rfl⟩,by kernel_rfl,rfl,rfl,by kernel_rfl⟩
theorem E93:FnOk PR cutsOf A95 Tryz.f135 Bv0 Ds5 3:=⟨Tryz.func135,⟨_,rfl⟩,by kernel_rfl,rfl,rfl,by kernel_rfl⟩
theorem Ez5:FnOk PR cutsOf Am9 Tryz.f136 Bo1 Dh0 1:=⟨Tryz.func136,⟨_,rfl⟩,by kernel_rfl,rfl,rfl,by kernel_rfl⟩
theorem Eq9:FnOk PR cutsOf Ak6 Tryz.f137 Bi9 Dc9 2:=⟨Tryz.func137,⟨_,rfl⟩,by kernel_rfl,rfl,rfl,by kernel_rfl⟩
theorem E46:FnOk PR cutsOf A85 Tryz.f138 Bu9 Dr0 2:=⟨Tryz.func138,⟨_,rfl⟩,by kernel_rfl,rfl,rfl,by kernel_rfl⟩
theorem D38:FnOk PR cutsOf Ad0 Tryz.f139 A72 Bw4 5:=⟨Tryz.func139,⟨_,rfl⟩,by kernel_rfl,rfl,rfl,by kernel_rfl⟩
theorem D00:FnOk PR cutsOf Ab3 Tryz.f140 A05 Bo9 5:=⟨Tryz.func140,⟨_,rfl⟩,by kernel_rfl,rfl,rfl,by kernel_rfl⟩
theorem D79:FnOk PR cutsOf Al5 Tryz.f141 A66 Bx2 7:=⟨Tryz.func141,⟨_,rfl⟩,by kernel_rfl,rfl,rfl,by kernel_rfl⟩
theorem Eu3:FnOk PR cutsOf A02 Tryz.f142 Bh8 Dd4 7:=⟨Tryz.func142,⟨_,rfl⟩,by kernel_rfl,rfl,rfl,by kernel_rfl⟩
theorem Ek4:FnOk PR cutsOf Au9 Tryz.f144 Be5 B48 2:=⟨Tryz.func144,⟨_,rfl⟩,by kernel_rfl,rfl,rfl,by kernel_rfl⟩
theorem En3:FnOk PR cutsOf Az9 Tryz.f145 Bj3 Db6 3:=⟨Tryz.func145,⟨_,rfl⟩,by kernel_rfl,rfl,rfl,by kernel_rfl⟩
theorem Ey8:FnOk PR cutsOf A42 Tryz.f146 Bn2 Dg9 3:=⟨Tryz.func146,⟨_,rfl⟩,by kernel_rfl,rfl,rfl,by kernel_rfl⟩
theorem Ey9:FnOk PR cutsOf A32 Tryz.f147 Bn7 Dh4 3:=⟨Tryz.func147,⟨_,rfl⟩,by kernel_rfl,rfl,rfl,by kernel_rfl⟩
theorem Eg7:FnOk PR cutsOf Aq6 Tryz.f148 A94 B02 6:=⟨Tryz.func148,⟨_,rfl⟩,by kernel_rfl,rfl,rfl,by kernel_rfl⟩
theorem E74:FnOk PR cutsOf A78 Tryz.f149 Bs7 Dt4 3:=⟨Tryz.func149,⟨_,rfl⟩,by kernel_rfl,rfl,rfl,by kernel_rfl⟩
theorem Ga4:FnOk PR cutsOf Ai5 Tryz.f150 Bu6 Dt5 2:=⟨Tryz.func150,⟨_,rfl⟩,by kernel_rfl,rfl,rfl,by kernel_rfl⟩
theorem Gx3:FnOk PR cutsOf Ag8 Tryz.f151 De7 Ei1 3:=⟨Tryz.func151,⟨_,rfl⟩,by kernel_rfl,rfl,rfl,by kernel_rfl⟩
theorem E59:FnOk PR cutsOf A79 Tryz.f152 Bu7 Do2 3:=⟨Tryz.func152,⟨_,rfl⟩,by kernel_rfl,rfl,rfl,by kernel_rfl⟩
theorem Dy7:FnOk PR cutsOf O3 Tryz.f159 A09 Bq4 2:=⟨Tryz.func159,⟨_,rfl⟩,by kernel_rfl,rfl,rfl,by kernel_rfl⟩
theorem Gv6:FnOk PR cutsOf Am1 Tryz.f160 De5 Ei4 1:=⟨Tryz.func160,⟨_,rfl⟩,by kernel_rfl,rfl,rfl,by kernel_rfl⟩
theorem Gu2:FnOk PR cutsOf Bb5 Tryz.f161 De9 Eh2 0:=⟨Tryz.func161,⟨_,rfl⟩,by kernel_rfl,rfl,rfl,by kernel_rfl⟩
theorem B45:FnOk PR cutsOf W1 Tryz.f162 Ah6 A20 2:=⟨Tryz.func162,⟨_,rfl⟩,by kernel_rfl,rfl,rfl,by kernel_rfl⟩
theorem G33:FnOk PR cutsOf Bj5 Tryz.f163 Dr2 Eq7 0:=⟨Tryz.func163,⟨_,rfl⟩,by kernel_rfl,rfl,rfl,by kernel_rfl⟩
theorem B35:FnOk PR cutsOf V7 Tryz.f164 Ag9 A24 2:=⟨Tryz.func164,⟨_,rfl⟩,by kernel_rfl,rfl,rfl,by kernel_rfl⟩
theorem B46:FnOk PR cutsOf V8 Tryz.f165 Ah3 A25 2:=⟨Tryz.func165,⟨_,rfl⟩,by kernel_rfl,rfl,rfl,by kernel_rfl⟩
theorem Du2:FnOk PR cutsOf Q5 Tryz.f166 Aw1 Bm8 2:=⟨Tryz.func166,⟨_,rfl⟩,by kernel_rfl,rfl,rfl,by kernel_rfl⟩
theorem B44:FnOk PR cutsOf W2 Tryz.f167 Ah1 A23 2:=⟨Tryz.func167,⟨_,rfl⟩,by kernel_rfl,rfl,rfl,by kernel_rfl⟩
theorem Gv9:FnOk PR cutsOf Bb2 Tryz.f168 Dg3 Ej0 0:=⟨Tryz.func168,⟨_,rfl⟩,by kernel_rfl,rfl,rfl,by kernel_rfl⟩
theorem B39:FnOk PR cutsOf V9 Tryz.f169 Ah4 A22 2:=⟨Tryz.func169,⟨_,rfl⟩,by kernel_rfl,rfl,rfl,by kernel_rfl⟩
theorem Ia0:FnOk PR cutsOf Eb0 Tryz.f170 E98 G36 1:=⟨Tryz.func170,⟨_,rfl⟩,by kernel_rfl,rfl,rfl,by kernel_rfl⟩
theorem Hh2:FnOk PR cutsOf As2 Tryz.f171 D33 E35 2:=⟨Tryz.func171,⟨_,rfl⟩,by kernel_rfl,rfl,rfl,by kernel_rfl⟩
theorem Du5:FnOk PR cutsOf Z1 Tryz.f172 Av8 Bm5 2:=⟨Tryz.func172,⟨_,rfl⟩,by kernel_rfl,rfl,rfl,by kernel_rfl⟩
theorem B41:FnOk PR cutsOf W0 Tryz.f173 Ah5 A26 2:=⟨Tryz.func173,⟨_,rfl⟩,by kernel_rfl,rfl,rfl,by kernel_rfl⟩
theorem D34:FnOk PR cutsOf Ab2 Tryz.f174 B92 D22 1:=⟨Tryz.func174,⟨_,rfl⟩,by kernel_rfl,rfl,rfl,by kernel_rfl⟩
theorem Gj7:FnOk PR cutsOf G9 Tryz.f175 B59 D40 2:=⟨Tryz.func175,⟨_,rfl⟩,by kernel_rfl,rfl,rfl,by kernel_rfl⟩
theorem Av6:FnOk PR cutsOf E8 Tryz.f176 Ae2 Av7 2:=⟨Tryz.func176,⟨_,rfl⟩,by kernel_rfl,rfl,rfl,by kernel_rfl⟩
theorem Gz4:FnOk PR cutsOf B25 Tryz.f177 Dq1 Eo3 2:=⟨Tryz.func177,⟨_,rfl⟩,by kernel_rfl,rfl,rfl,by kernel_rfl⟩
theorem Bd9:FnOk PR cutsOf P7 Tryz.f178 Au7 Be3 1:=⟨Tryz.func178,⟨_,rfl⟩,by kernel_rfl,rfl,rfl,by kernel_rfl⟩
theorem Gk6:FnOk PR cutsOf A68 Tryz.f179 B55 D43 1:=⟨Tryz.func179,⟨_,rfl⟩,by kernel_rfl,rfl,rfl,by kernel_rfl⟩
theorem Eo7:FnOk PR cutsOf Ak8 Tryz.f180 Bi8 Db5 1:=⟨Tryz.func180,⟨_,rfl⟩,by kernel_rfl,rfl,rfl,by kernel_rfl⟩
theorem Gf3:FnOk PR cutsOf Af6 Tryz.f181 B13 Dy6 2:=⟨Tryz.func181,⟨_,rfl⟩,by kernel_rfl,rfl,rfl,by kernel_rfl⟩
theorem E81:FnOk PR cutsOf At7 Tryz.f182 Bt0 Dn3 3:=⟨Tryz.func182,⟨_,rfl⟩,by kernel_rfl,rfl,rfl,by kernel_rfl⟩
theorem B15:FnOk PR cutsOf Aa2 Tryz.f183 Bg7 B23 1:=⟨Tryz.func183,⟨_,rfl⟩,by kernel_rfl,rfl,rfl,by kernel_rfl⟩
theorem Ak3:FnOk PR cutsOf G3 Tryz.f184 Aa4 Al2 1:=⟨Tryz.func184,⟨_,rfl⟩,by kernel_rfl,rfl,rfl,by kernel_rfl⟩
theorem Bs9:FnOk PR cutsOf S4 Tryz.f185 Ba5 Bv3 1:=⟨Tryz.func185,⟨_,rfl⟩,by kernel_rfl,rfl,rfl,by kernel_rfl⟩
theorem D24:FnOk PR cutsOf Ab8 Tryz.f186 A12 Br1 6:=⟨Tryz.func186,⟨_,rfl⟩,by kernel_rfl,rfl,rfl,by kernel_rfl⟩
theorem Gk0:FnOk PR cutsOf Bl9 Tryz.f187 B58 D74 3:=⟨Tryz.func187,⟨_,rfl⟩,by kernel_rfl,rfl,rfl,by kernel_rfl⟩
theorem Gd6:FnOk PR cutsOf Bf5 Tryz.f188 Bz1 Dx2 3:=⟨Tryz.func188,⟨_,rfl⟩,by kernel_rfl,rfl,rfl,by kernel_rfl⟩
theorem E69:FnOk PR cutsOf At5 Tryz.f189 Bt5 Dr4 3:=⟨Tryz.func189,⟨_,rfl⟩,by kernel_rfl,rfl,rfl,by kernel_rfl⟩
theorem E97:FnOk PR cutsOf Ai7 Tryz.f192 Bv7 Dp4 2:=⟨Tryz.func192,⟨_,rfl⟩,by kernel_rfl,rfl,rfl,by kernel_rfl⟩
theorem Es4:FnOk PR cutsOf Ay8 Tryz.f193 Bi2 Da7 3:=⟨Tryz.func193,⟨_,rfl⟩,by kernel_rfl,rfl,rfl,by kernel_rfl⟩
theorem E78:FnOk PR cutsOf At2 Tryz.f194 Bt3 Do6 3:=⟨Tryz.func194,⟨_,rfl⟩,by kernel_rfl,rfl,rfl,by kernel_rfl⟩
theorem Z6:FnOk PR cutsOf D0 Tryz.f195 U5 Z4 3:=⟨Tryz.func195,⟨_,rfl⟩,by kernel_rfl,rfl,rfl,by kernel_rfl⟩
theorem E01:FnOk PR cutsOf A39 Tryz.f196 Bn6 Dh5 3:=⟨Tryz.func196,⟨_,rfl⟩,by kernel_rfl,rfl,rfl,by kernel_rfl⟩
theorem E50:FnOk PR cutsOf A82 Tryz.f197 Bs6 Dt1 2:=⟨Tryz.func197,⟨_,rfl⟩,by kernel_rfl,rfl,rfl,by kernel_rfl⟩
theorem Bu3:FnOk PR cutsOf Y0 Tryz.f198 A88 Bu1 1:=⟨Tryz.func198,⟨_,rfl⟩,by kernel_rfl,rfl,rfl,by kernel_rfl⟩
theorem Bq9:FnOk PR cutsOf Q3 Tryz.f201 Ab0 As1 2:=⟨Tryz.func201,⟨_,rfl⟩,by kernel_rfl,rfl,rfl,by kernel_rfl⟩
theorem Gd0:FnOk PR cutsOf Ae9 Tryz.f202 By1 Dx4 1:=⟨Tryz.func202,⟨_,rfl⟩,by kernel_rfl,rfl,rfl,by kernel_rfl⟩
theorem Ed7:FnOk PR cutsOf Aq2 Tryz.f203 Ba7 By8 3:=⟨Tryz.func203,⟨_,rfl⟩,by kernel_rfl,rfl,rfl,by kernel_rfl⟩
theorem Hk2:FnOk PR cutsOf As0 Tryz.f204 D18 E36 2:=⟨Tryz.func204,⟨_,rfl⟩,by kernel_rfl,rfl,rfl,by kernel_rfl⟩
theorem Hd9:FnOk PR cutsOf Ar9 Tryz.f205 D06 E11 1:=⟨Tryz.func205,⟨_,rfl⟩,by kernel_rfl,rfl,rfl,by kernel_rfl⟩
theorem Bd2:FnOk PR cutsOf G7 Tryz.f206 Am6 Bc7 1:=⟨Tryz.func206,⟨_,rfl⟩,by kernel_rfl,rfl,rfl,by kernel_rfl⟩
theorem Ee3:FnOk PR cutsOf An6 Tryz.f207 Ba9 Bz7 3:=⟨Tryz.func207,⟨_,rfl⟩,by kernel_rfl,rfl,rfl,by kernel_rfl⟩
theorem Hr8:FnOk PR cutsOf Bk3 Tryz.f208 D91 Ge3 2:=⟨Tryz.func208,⟨_,rfl⟩,by kernel_rfl,rfl,rfl,by kernel_rfl⟩
theorem Hr9:FnOk PR cutsOf Bk7 Tryz.f209 Ee1 Gg2 1:=⟨Tryz.func209,⟨_,rfl⟩,by kernel_rfl,rfl,rfl,by kernel_rfl⟩
theorem D96:FnOk PR cutsOf Ap4 Tryz.f210 A99 B32 3:=⟨Tryz.func210,⟨_,rfl⟩,by kernel_rfl,rfl,rfl,by kernel_rfl⟩
theorem H8:FnOk PR cutsOf O5 Tryz.f211 Bd6 Bq6 2:=⟨Tryz.func211,⟨_,rfl⟩,by kernel_rfl,rfl,rfl,by kernel_rfl⟩
theorem O1:FnOk PR cutsOf Y5 Tryz.f212 Bp3 Da3 1:=⟨Tryz.func212,⟨_,rfl⟩,by kernel_rfl,rfl,rfl,by kernel_rfl⟩
theorem L8:FnOk PR cutsOf D7 Tryz.f213 Z0 Aj2 2:=⟨Tryz.func213,⟨_,rfl⟩,by kernel_rfl,rfl,rfl,by kernel_rfl⟩
theorem Ao2:FnOk PR cutsOf I3 Tryz.f214 Ad8 Ao7 2:=⟨Tryz.func214,⟨_,rfl⟩,by kernel_rfl,rfl,rfl,by kernel_rfl⟩
theorem Df0:FnOk PR cutsOf N4 Tryz.f215 Am2 Bc1 2:=⟨Tryz.func215,⟨_,rfl⟩,by kernel_rfl,rfl,rfl,by kernel_rfl⟩
theorem G43:FnOk PR cutsOf Bh4 Tryz.f216 Ds8 Em9 3:=⟨Tryz.func216,⟨_,rfl⟩,by kernel_rfl,rfl,rfl,by kernel_rfl⟩
theorem Dl5:FnOk PR cutsOf Ad7 Tryz.f217 An8 Bf9 2:=⟨Tryz.func217,⟨_,rfl⟩,by kernel_rfl,rfl,rfl,by kernel_rfl⟩
theorem Dp7:FnOk PR cutsOf Ae8 Tryz.f220 Au4 Bh0 2:=⟨Tryz.func220,⟨_,rfl⟩,by kernel_rfl,rfl,rfl,by kernel_rfl⟩
theorem E02:FnOk PR cutsOf A41 Tryz.f221 Bo0 Dg8 3:=⟨Tryz.func221,⟨_,rfl⟩,by kernel_rfl,rfl,rfl,by kernel_rfl⟩
theorem Af9:FnOk PR cutsOf G2 Tryz.f222 U7 Af5 2:=⟨Tryz.func222,⟨_,rfl⟩,by kernel_rfl,rfl,rfl,by kernel_rfl⟩
theorem Hw6:FnOk PR cutsOf Dl6 Tryz.f223 Eb7 Gb4 1:=⟨Tryz.func223,⟨_,rfl⟩,by kernel_rfl,rfl,rfl,by kernel_rfl⟩
theorem Am5:FnOk PR cutsOf D4 Tryz.f224 Ac2 Am0 2:=⟨Tryz.func224,⟨_,rfl⟩,by kernel_rfl,rfl,rfl,by kernel_rfl⟩
theorem Hx3:FnOk PR cutsOf Dl9 Tryz.f225 Eg0 Gg4 1:=⟨Tryz.func225,⟨_,rfl⟩,by kernel_rfl,rfl,rfl,by kernel_rfl⟩
theorem Hb6:FnOk PR cutsOf Bi1 Tryz.f226 Ds7 Er9 3:=⟨Tryz.func226,⟨_,rfl⟩,by kernel_rfl,rfl,rfl,by kernel_rfl⟩
theorem Gz3:FnOk PR cutsOf Bz3 Tryz.f227 Dr9 Es9 2:=⟨Tryz.func227,⟨_,rfl⟩,by kernel_rfl,rfl,rfl,by kernel_rfl⟩
theorem G93:FnOk PR cutsOf Ak5 Tryz.f230 Dt6 En7 2:=⟨Tryz.func230,⟨_,rfl⟩,by kernel_rfl,rfl,rfl,by kernel_rfl⟩
theorem Gz2:FnOk PR cutsOf Bj0 Tryz.f231 Dt3 Em1 1:=⟨Tryz.func231,⟨_,rfl⟩,by kernel_rfl,rfl,rfl,by kernel_rfl⟩
end
end Go.EQ

namespace Go.EQ
open Go Go.NN Go.Proofs
theorem H50:type_of% Tryz.underlying4:=Tryz.underlying4
theorem Ii2:type_of% Tryz.underlying5:=Tryz.underlying5
theorem Gp5:type_of% Tryz.underlying29:=Tryz.underlying29
end Go.EQ
