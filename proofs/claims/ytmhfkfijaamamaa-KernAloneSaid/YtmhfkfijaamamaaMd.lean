/- What the environments of sessions that share nothing are answered hangs on their own calls and on the clock alone: another session's calls, left out, change no answer. -/
import Derived.Test.YtmhfkfijaamamaaMc
import Derived.Test.YtmhfkfijaamamaaProg
import Derived.KernelRfl
set_option linter.all false
namespace Go.EQ
open Go Go.NN Go.Proofs
noncomputable abbrev PR:Program:=Try.prog
abbrev G8:FuncId:=3
abbrev E2:FuncId:=4
abbrev Am2:FuncId:=5
abbrev Z1:FuncId:=6
abbrev H1:FuncId:=7
abbrev J8:FuncId:=8
abbrev Ai0:FuncId:=9
abbrev M3:FuncId:=10
abbrev A85:FuncId:=11
abbrev Ac9:FuncId:=12
abbrev Y6:FuncId:=13
abbrev Aw4:FuncId:=14
abbrev A24:FuncId:=15
abbrev X9:FuncId:=16
abbrev J3:FuncId:=17
abbrev H5:FuncId:=18
abbrev Ah3:FuncId:=19
abbrev Ak2:FuncId:=20
abbrev Af0:FuncId:=21
abbrev V3:FuncId:=22
abbrev E0:FuncId:=23
abbrev G2:FuncId:=24
abbrev Au7:FuncId:=25
abbrev J0:FuncId:=26
abbrev Af2:FuncId:=27
abbrev E5:FuncId:=28
abbrev V4:FuncId:=29
abbrev V7:FuncId:=30
abbrev Z4:FuncId:=31
abbrev P8:FuncId:=32
abbrev O2:FuncId:=33
abbrev W1:FuncId:=34
abbrev Ac8:FuncId:=35
abbrev L9:FuncId:=36
abbrev Aa3:FuncId:=37
abbrev Ac3:FuncId:=38
abbrev Ae2:FuncId:=39
abbrev Ae5:FuncId:=40
abbrev E1:FuncId:=41
abbrev G1:FuncId:=42
abbrev O0:FuncId:=43
abbrev Am8:FuncId:=44
abbrev Ak3:FuncId:=45
abbrev U2:FuncId:=46
abbrev A1:FuncId:=47
abbrev K0:FuncId:=48
abbrev S8:FuncId:=49
abbrev Ad2:FuncId:=50
abbrev Y9:FuncId:=51
abbrev A3:FuncId:=52
abbrev Ae1:FuncId:=53
abbrev I2:FuncId:=54
abbrev Al6:FuncId:=55
abbrev O4:FuncId:=56
abbrev M0:FuncId:=57
abbrev D1:FuncId:=58
abbrev I8:FuncId:=59
abbrev Bg4:FuncId:=60
abbrev M5:FuncId:=61
abbrev Ae4:FuncId:=62
abbrev D6:FuncId:=63
abbrev Aj9:FuncId:=64
abbrev D2:FuncId:=65
abbrev Ar0:FuncId:=66
abbrev Ak8:FuncId:=67
abbrev H8:FuncId:=74
abbrev D0:TypeId:=3
abbrev A5:TypeId:=5
abbrev Ba8:TypeId:=22
abbrev M8:TypeId:=23
abbrev O1:TypeId:=26
abbrev J4:TypeId:=29
abbrev An4:TypeId:=36
abbrev Ag0:TypeId:=38
abbrev Z7:TypeId:=42
abbrev Bu1:TypeId:=56
abbrev Ab3:TypeId:=58
abbrev P3:TypeId:=65
abbrev R7:TypeId:=67
abbrev Bm1:TypeId:=76
abbrev U8:TypeId:=79
abbrev D8:TypeId:=80
abbrev Ab4:TypeId:=83
abbrev A60:TypeId:=86
abbrev Bv0:TypeId:=88
abbrev Ab6:TypeId:=90
abbrev As9:TypeId:=103
abbrev W3:TypeId:=105
noncomputable abbrev iI (n:Int):Value:=.int .i64 n
noncomputable abbrev pP (b:Nat):Value:=.pointer (some ⟨b,0,none⟩)
noncomputable abbrev xQ (c:Cuts) (C:A6) (R:N7) (f:FuncId) (fn:Func) (T:List Item) (s:A2) (h:H):Option (Value × H):=M1 PR c C R f fn 100000 true T s h
theorem kR {α:Type} {a b:α} (h:a=b:=by kernel_rfl):a=b:=h
end Go.EQ

set_option maxRecDepth 100000
namespace Go.EQ
open Go Go.NN Go.Proofs
open Go.IntKind (wrap)
open Go.Addr (add)
variable (C:A6) (R:N7) (h:H) (a atv b env first hi i j j_1 lo n name root v x7 x8:Int) (c:List Value) (datac datan opsc opsn sc sn:Nat) (data ops r s t:Option Addr) (cmp f:Value)
noncomputable section
def Ag4:Cuts:=⟨0,[(7,[0,4,6,8])],[],[(13,⟨[0,1,2,3,5,6,7,8,4,9,10],[0,0,2,6,15,0,0,64,192,511,1023],[(4,[8])],[]⟩)]⟩
def Aq7:List Item:=A4 Try.f3
def N8:List Item:=stk [0,1,0,1,0,1,0,1,0,1,0,0,1,4,5] Aq7
theorem Bw0 :
 xQ Ag4 C R G8 Try.f3 Aq7 [(0,.slice ops opsn opsc)] h =
 nw (.cells D0 false [iI 3,iI 3]) h fun b w=>nw (.cells D0 false [iI 0,iI 0,iI 1,iI 1]) w fun p1 w1=>nw (.cells D0 false [iI 0]) w1 fun p2 w2=>nw (.cells D0 false [iI 1]) w2 fun p3 w3=>nw (.cells M8 false [.slice (some ⟨p2,0,none⟩) 1 1,.slice (some ⟨p3,0,none⟩) 1 1]) w3 fun p4 w4=>nw (.cells D0 false [iI 0]) w4 fun p5 w5=>nw (.cells D0 false [iI 1]) w5 fun p6 w6=>nw (.cells O1 false [iI 0,iI 0,iI 0,iI 100,.slice (some ⟨p5,0,none⟩) 1 1,iI 1,iI 0,iI 0,iI 100,.slice (some ⟨p6,0,none⟩) 1 1]) w6 fun p7 w7=>nw (.cells J4 false [.slice none 0 0,.slice none 0 0,.slice none 0 0,iI 0,.slice none 0 0]) w7 fun p8 w8=>pAgg ⟨p8,0,none⟩ [.slice (some ⟨b,0,none⟩) 2 2,.slice (some ⟨p1,0,none⟩) 4 4,.slice (some ⟨p4,0,none⟩) 2 2,iI 3,.slice (some ⟨p7,0,none⟩) 2 2] w8 fun w9=>gAgg ⟨p8,0,none⟩ 5 w9 fun x=>bnd (C E2 [.agg ⟨x⟩] w9) fun r w10=>as2 r fun q1 q2=>aPtr q1 fun z1=>aInt .i64 q2 fun z2=>gAgg ⟨p8,0,none⟩ 5 w10 fun z3=>bnd (C E2 [.agg ⟨z3⟩] w10) fun q3 w11=>as2 q3 fun q4 q5=>aPtr q4 fun z4=>aInt .i64 q5 fun z5=>bnd (cond z1.isNone (some (true,w11)) (some (z4.isNone,w11))) fun c w12=>bnd (cond c (some (true,w12)) (some (z2 != 0,w12))) fun c_1 w13=>bnd (cond c_1 (some (true,w13)) (some (z5 != 0,w13))) fun c_2 w14=>cond c_2
 (some (.bool false,w14))
 (R G8 N8 [(0,.slice ops opsn opsc),(4,.pointer z1),(6,.pointer z4),(8,iI 0)] w14):=kR
theorem Aj5 (x:Option Addr) (y:Option Addr) :
 xQ Ag4 C R G8 Try.f3 N8 [(0,.slice ops opsn opsc),(4,.pointer x),(6,.pointer y),(8,iI i)] h =
 bnd (cond (decide (i<(opsn:Int))) (some (decide (i<60),h)) (some (false,h))) fun c w=>cond c
 (aSome ops fun p=>ck ((0:Int)≤i∧i<(opsn:Int)) (gAgg (add (A9 p) (Int.toNat i*8)) 8 w fun z1=>nw (.cells Ag0 false [iI 0,iI 0,iI 0,iI 0,iI 0,iI 0,iI 0,.slice none 0 0]) w fun b w1=>ck (List.length z1=8) (pAgg ⟨b,0,none⟩ z1 w1 fun w2=>gSl ⟨b,7,none⟩ w2 fun _ xn _=>cond (decide ((xn:Int)>200))
 (bnd (C Am2 [] w2) fun r w3=>aBool r fun z3=>some (.bool z3,w3))
 (gInt .i64 ⟨b,0,none⟩ w2 fun z4=>cond (decide (z4<0))
 (gInt .i64 ⟨b,4,none⟩ w2 fun z5=>gInt .i64 ⟨b,4,none⟩ w2 fun z6=>bnd (C Z1 [.pointer x,iI z5] w2) fun q1 w4=>aInt .i64 q1 fun z7=>gInt .i64 ⟨b,4,none⟩ w4 fun z8=>same (iI z6) (iI z8) (bnd (C Z1 [.pointer y,iI z6] w4) fun q2 w5=>aInt .i64 q2 fun z9=>cond (z7 != z9)
 (some (.bool false,w5))
 (R G8 N8 [(0,.slice ops opsn opsc),(4,.pointer x),(6,.pointer y),(8,iI (wrap .i64 (i+1)))] w5)))
 (gInt .i64 ⟨b,0,none⟩ w2 fun z10=>gAgg ⟨b,1,none⟩ 7 w2 fun z11=>bnd (C H1 [.pointer x,iI (U7 .i64 z10 3),.agg ⟨z11⟩] w2) fun q3 w6=>aAgg q3 fun z12=>nw (.cells Z7 false [iI 0,iI 0,.slice none 0 0]) w6 fun p1 w7=>ck (List.length z12=3) (pAgg ⟨p1,0,none⟩ z12 w7 fun w8=>gInt .i64 ⟨b,0,none⟩ w8 fun z13=>cond (decide ((U7 .i64 z13 3)>1))
 (R G8 N8 [(0,.slice ops opsn opsc),(4,.pointer x),(6,.pointer y),(8,iI (wrap .i64 (i+1)))] w8)
 (gInt .i64 ⟨b,0,none⟩ w8 fun z14=>gAgg ⟨b,1,none⟩ 7 w8 fun z15=>bnd (C H1 [.pointer y,iI (U7 .i64 z14 3),.agg ⟨z15⟩] w8) fun q4 w9=>aAgg q4 fun z16=>nw (.cells Z7 false [iI 0,iI 0,.slice none 0 0]) w9 fun p2 w10=>ck (List.length z16=3) (pAgg ⟨p2,0,none⟩ z16 w10 fun w11=>gInt .i64 ⟨p1,0,none⟩ w11 fun z17=>gInt .i64 ⟨p2,0,none⟩ w11 fun z18=>bnd (cond (z17 != z18) (some (true,w11)) (gInt .i64 ⟨p1,1,none⟩ w11 fun z19=>gInt .i64 ⟨p2,1,none⟩ w11 fun z20=>some (z19 != z20,w11))) fun c_1 w12=>bnd (cond c_1 (some (true,w12)) (gSl ⟨p1,2,none⟩ w12 fun z21 xn_1 _=>gCells z21 xn_1 w12 fun cs=>asBytes cs fun l=>gSl ⟨p2,2,none⟩ w12 fun z22 xn_2 _=>gCells z22 xn_2 w12 fun cs_1=>asBytes cs_1 fun l_1=>some (!((ByteArray.mk ⟨l⟩).toList==(ByteArray.mk ⟨l_1⟩).toList),w12))) fun c_2 w13=>cond c_2
 (some (.bool false,w13))
 (R G8 N8 [(0,.slice ops opsn opsc),(4,.pointer x),(6,.pointer y),(8,iI (wrap .i64 (i+1)))] w13)))))))))
 (bnd (C Am2 [] w) fun q5 w14=>aBool q5 fun z23=>some (.bool z23,w14)):=kR
def A61:Cuts:=⟨0,[],[],[]⟩
def Bn6:List Item:=A4 Try.f5
theorem Df8 :
 xQ A61 C R Am2 Try.f5 Bn6 [] h =
 nw (.cells D0 false [iI 2,iI 2]) h fun b w=>nw (.cells D0 false [iI 0,iI 1]) w fun p1 w1=>nw (.cells D0 false [iI 0]) w1 fun p2 w2=>nw (.cells M8 false [.slice (some ⟨p2,0,none⟩) 1 1]) w2 fun p3 w3=>nw (.cells D0 false [iI 0]) w3 fun p4 w4=>nw (.cells O1 false [iI 0,iI 0,iI 0,iI 10,.slice (some ⟨p4,0,none⟩) 1 1]) w4 fun p5 w5=>bnd (C E2 [.agg ⟨[.slice (some ⟨b,0,none⟩) 2 2,.slice (some ⟨p1,0,none⟩) 2 2,.slice (some ⟨p3,0,none⟩) 1 1,iI 5,.slice (some ⟨p5,0,none⟩) 1 1]⟩] w5) fun r w6=>as2 r fun q1 q2=>aPtr q1 fun x=>aInt .i64 q2 fun z1=>bnd (cond x.isNone (some (true,w6)) (some (z1 != 0,w6))) fun c w7=>cond c
 (some (.bool false,w7))
 (nw (.cells A5 false [.int .u8 7]) w7 fun p6 w8=>bnd (C H1 [.pointer x,iI 0,.agg ⟨[iI 2,iI 256,iI 0,iI 0,iI 0,iI 0,.slice (some ⟨p6,0,none⟩) 1 1]⟩] w8) fun q3 w9=>aAgg q3 fun z2=>nw (.cells Z7 false [iI 0,iI 0,.slice none 0 0]) w9 fun p7 w10=>ck (List.length z2=3) (pAgg ⟨p7,0,none⟩ z2 w10 fun w11=>bnd (C H1 [.pointer x,iI 0,.agg ⟨[iI 1,iI 256,iI 0,iI 1,iI 0,iI 0,.slice none 0 0]⟩] w11) fun q4 w12=>aAgg q4 fun z3=>nw (.cells Z7 false [iI 0,iI 0,.slice none 0 0]) w12 fun p8 w13=>ck (List.length z3=3) (pAgg ⟨p8,0,none⟩ z3 w13 fun w14=>bnd (C H1 [.pointer x,iI 1,.agg ⟨[iI 1,iI 256,iI 0,iI 1,iI 0,iI 0,.slice none 0 0]⟩] w14) fun q5 w15=>aAgg q5 fun z4=>nw (.cells Z7 false [iI 0,iI 0,.slice none 0 0]) w15 fun p9 w16=>ck (List.length z4=3) (pAgg ⟨p9,0,none⟩ z4 w16 fun w17=>bnd (C H1 [.pointer x,iI 1,.agg ⟨[iI 8,iI 0,iI 0,iI 0,iI 0,iI 0,.slice none 0 0]⟩] w17) fun q6 w18=>aAgg q6 fun z5=>nw (.cells Z7 false [iI 0,iI 0,.slice none 0 0]) w18 fun p10 w19=>ck (List.length z5=3) (pAgg ⟨p10,0,none⟩ z5 w19 fun w20=>gInt .i64 ⟨p7,0,none⟩ w20 fun z6=>bnd (cond (z6==0) (gSl ⟨p8,2,none⟩ w20 fun z7 xn _=>gCells z7 xn w20 fun cs=>asBytes cs fun l=>some ((ByteArray.mk ⟨l⟩).toList==(ByteArray.mk ⟨[7]⟩).toList,w20)) (some (false,w20))) fun c_1 w21=>bnd (cond c_1 (gInt .i64 ⟨p9,0,none⟩ w21 fun z8=>some (z8==2,w21)) (some (false,w21))) fun c_2 w22=>bnd (cond c_2 (gInt .i64 ⟨p10,0,none⟩ w22 fun z9=>some (z9==8,w22)) (some (false,w22))) fun c_3 w23=>bnd (cond c_3 (bnd (C Ak2 [.pointer x] w23) fun q7 w24=>aInt .i64 q7 fun z10=>some (z10==0,w24)) (some (false,w23))) fun c_4 w25=>some (.bool c_4,w25)))))):=kR
def A09:Cuts:=⟨0,[],[],[]⟩
def Bj7:List Item:=A4 Try.f9
theorem Db1 :
 xQ A09 C R Ai0 Try.f9 Bj7 [(0,iI n)] h =
 some (iI (mm2 false (mm2 true n 0) 64),h):=kR
def Ay3:Cuts:=⟨0,[(3,[3,12,13,14])],[],[(5,⟨[0,1,2,3,4,5,6,7,8,9,10,11,12,13],[0,0,2,6,14,0,32,96,224,480,1022,2047,4095,8191],[],[]⟩)]⟩
def Bb2:List Item:=A4 Try.f13
def An1:List Item:=stk [0,1,0,1,0,0,1,4,5] Bb2
theorem Do2 (frames:Option Addr) (framesn framesc:Nat) :
 xQ Ay3 C R Y6 Try.f13 Bb2 [(0,.slice frames framesn framesc)] h =
 nw (.cells Ab4 false [.slice none 0 0]) h fun b w=>ckB (fitsOpen frames D0 w) (ck ((0:Int)≤mm2 false (framesn:Int) 4∧mm2 false (framesn:Int) 4≤(framesc:Int)) (R Y6 An1 [(3,pP b),(12,.slice (M2 frames (decide (0<framesc)) (0*1)) ((Int.toNat (mm2 false (framesn:Int) 4))-0) (framesc-0)),(13,iI (((Int.toNat (mm2 false (framesn:Int) 4))-0:Nat):Int)),(14,iI 0)] w)):=kR
theorem Bd2 (q:Addr) (x12:Option Addr) (x12n x12c:Nat) (x13:Int) (x14:Int) :
 xQ Ay3 C R Y6 Try.f13 An1 [(3,.pointer (some q)),(12,.slice x12 x12n x12c),(13,iI x13),(14,iI x14)] h =
 cond (decide (x14<x13))
 (aSome x12 fun p=>ck ((0:Int)≤x14∧x14<(x12n:Int)) (gInt .i64 (add (A9 p) (Int.toNat x14*1)) h fun x=>gSl (add q 0) h fun z1 xn xc=>ck ((0:Int)≤mm2 false (mm2 true x 0) 64∧(mm2 false (mm2 true x 0) 64:Int)≤mm2 false (mm2 true x 0) 64∧mm2 false (mm2 true x 0) 64≤(E6:Int)) (nw (.cells D0 false (L0 (Int.toNat (mm2 false (mm2 true x 0) 64)) [iI 0])) h fun b w=>nw (.cells M8 false [.slice (some ⟨b,0,none⟩) (Int.toNat (mm2 false (mm2 true x 0) 64)) (Int.toNat (mm2 false (mm2 true x 0) 64))]) w fun p1 w1=>gCells (some ⟨p1,0,none⟩) (1*1) w1 fun cs=>ckB (fitsOpen z1 M8 w1) (apd M8 1 z1 xn xc 1 cs w1 fun a an ac w2=>pV (add q 0) (.slice a an ac) w2 fun w3=>R Y6 An1 [(3,.pointer (some q)),(12,.slice x12 x12n x12c),(13,iI x13),(14,iI (wrap .i64 (x14+1)))] w3))))
 (some (.pointer (some q),h)):=kR
def Bf7:Cuts:=⟨0,[],[],[]⟩
def B07:List Item:=A4 Try.f15
theorem Ds9 (lease:Int) :
 xQ Bf7 C R A24 Try.f15 B07 [(0,iI lease)] h =
 nw (.cells Bv0 false [iI (mm2 false (mm2 true lease 1) 1000),.bool false,iI 0,iI 0,iI 0,.slice none 0 0,iI 0,iI 0,iI 0]) h fun b w=>some (pP b,w):=kR
def V2:Cuts:=⟨0,[],[],[]⟩
def Af9:List Item:=A4 Try.f18
theorem Az5 :
 xQ V2 C R H5 Try.f18 Af9 [(0,.slice s sn sc),(1,iI v)] h =
 bnd (C E5 [.slice s sn sc,iI v] h) fun r w=>aInt .i64 r fun x=>some (.bool (decide (x≥0)),w):=kR
def A58:Cuts:=⟨0,[],[],[]⟩
def Bm7:List Item:=A4 Try.f25
theorem Dh4 (x:List Value) :
 xQ A58 C R Au7 Try.f25 Bm7 [(0,.agg ⟨c⟩),(1,.agg ⟨x⟩)] h =
 nw (.cells J4 false c) h fun b w=>nw (.cells O1 false x) w fun p1 w1=>gInt .i64 ⟨p1,0,none⟩ w1 fun z1=>bnd (cond (decide (z1<0)) (some (true,w1)) (gInt .i64 ⟨p1,0,none⟩ w1 fun z2=>gSl ⟨b,0,none⟩ w1 fun _ xn _=>some (decide (z2≥(xn:Int)),w1))) fun c_1 w2=>bnd (cond c_1 (some (true,w2)) (gInt .i64 ⟨p1,1,none⟩ w2 fun z4=>some (decide (z4<0),w2))) fun c_2 w3=>bnd (cond c_2 (some (true,w3)) (gInt .i64 ⟨p1,2,none⟩ w3 fun z5=>some (decide (z5<0),w3))) fun c_3 w4=>bnd (cond c_3 (some (true,w4)) (gInt .i64 ⟨p1,3,none⟩ w4 fun z6=>some (decide (z6<0),w4))) fun c_4 w5=>cond c_4
 (some (.bool false,w5))
 (gSl ⟨b,0,none⟩ w5 fun z7 xn_1 _=>gInt .i64 ⟨p1,0,none⟩ w5 fun z8=>aSome z7 fun p=>ck ((0:Int)≤z8∧z8<(xn_1:Int)) (gInt .i64 (add (A9 p) (Int.toNat z8*1)) w5 fun z9=>bnd (C Ai0 [iI z9] w5) fun r w6=>aInt .i64 r fun z10=>gInt .i64 ⟨p1,1,none⟩ w6 fun z11=>cond (decide (z11>z10))
 (some (.bool false,w6))
 (gInt .i64 ⟨p1,1,none⟩ w6 fun z12=>gInt .i64 ⟨p1,2,none⟩ w6 fun z13=>bnd (cond (decide (z13≤(wrap .i64 ((wrap .i64 (z10-z12))*64)))) (gInt .i64 ⟨p1,3,none⟩ w6 fun z14=>gInt .i64 ⟨p1,2,none⟩ w6 fun z15=>some (decide (z14≤(wrap .i64 ((wrap .i64 ((wrap .i64 (z10-z12))*64))-z15))),w6)) (some (false,w6))) fun c_5 w7=>some (.bool c_5,w7)))):=kR
def Ax6:Cuts:=⟨0,[],[],[]⟩
def Bc7:List Item:=A4 Try.f27
theorem B65 (m:Option Addr) :
 xQ Ax6 C R Af2 Try.f27 Bc7 [(0,.pointer m)] h =
 aSome m fun p=>gSl (add p 0) h fun _ xn _=>some (iI (xn:Int),h):=kR
def Q8:Cuts:=⟨0,[(2,[0,1,7,8])],[],[]⟩
def Z2:List Item:=A4 Try.f28
def N5:List Item:=stk [0,1,0,0,1,4,5] Z2
theorem A76 :
 xQ Q8 C R E5 Try.f28 Z2 [(0,.slice s sn sc),(1,iI v)] h =
 R E5 N5 [(0,.slice s sn sc),(1,iI v),(7,iI (sn:Int)),(8,iI 0)] h:=kR
theorem Ag1 :
 xQ Q8 C R E5 Try.f28 N5 [(0,.slice s sn sc),(1,iI v),(7,iI x7),(8,iI x8)] h =
 cond (decide (x8<x7))
 (aSome s fun p=>ck ((0:Int)≤x8∧x8<(sn:Int)) (gInt .i64 (add (A9 p) (Int.toNat x8*1)) h fun x=>cond (v==x)
 (some (iI x8,h))
 (R E5 N5 [(0,.slice s sn sc),(1,iI v),(7,iI x7),(8,iI (wrap .i64 (x8+1)))] h)))
 (some (iI (-1),h)):=kR
def Af4:Cuts:=⟨0,[],[],[]⟩
def At3:List Item:=A4 Try.f32
theorem Be3 :
 xQ Af4 C R P8 Try.f32 At3 [(0,.pointer r),(1,iI env),(2,iI name),(3,iI atv),(4,iI n)] h =
 bnd (C O0 [.pointer r,iI env,iI name,iI 1,iI atv,iI n] h) fun q1 w=>as2 q1 fun q2 q3=>aInt .i64 q2 fun x=>aInt .i64 q3 fun z1=>cond (z1 != 0)
 (some (.tuple ⟨[.slice none 0 0,iI z1]⟩,w))
 (aSome r fun p=>gPtr (add p 0) w fun z2=>bnd (C Am8 [.pointer z2,iI x,iI n] w) fun q4 w1=>as2 q4 fun q5 q6=>aSl q5 fun z3 xn xc=>aInt .i64 q6 fun z4=>some (.tuple ⟨[.slice z3 xn xc,iI z4]⟩,w1)):=kR
def Ad6:Cuts:=⟨0,[],[],[]⟩
def Ao7:List Item:=A4 Try.f33
theorem Bb7 (b:Option Addr) (bn bc:Nat) :
 xQ Ad6 C R O2 Try.f33 Ao7 [(0,.pointer r),(1,iI env),(2,iI name),(3,iI atv),(4,.slice b bn bc)] h =
 bnd (C O0 [.pointer r,iI env,iI name,iI 2,iI atv,iI (bn:Int)] h) fun q1 w=>as2 q1 fun q2 q3=>aInt .i64 q2 fun x=>aInt .i64 q3 fun z1=>cond (z1 != 0)
 (some (iI z1,w))
 (aSome r fun p=>gPtr (add p 0) w fun z2=>bnd (C Ak3 [.pointer z2,iI x,.slice b bn bc] w) fun q4 w1=>aInt .i64 q4 fun z3=>some (iI z3,w1)):=kR
def Ao2:Cuts:=⟨0,[],[],[]⟩
def A20:List Item:=A4 Try.f40
theorem Bt0 (k:Option Addr) :
 xQ Ao2 C R Ae5 Try.f40 A20 [(0,.pointer k),(1,iI env),(2,.agg ⟨c⟩)] h =
 nw (.cells An4 false c) h fun b w=>gInt .i64 ⟨b,3,none⟩ w fun x=>bnd (C Y9 [.pointer k,iI env,iI x] w) fun r w1=>as2 r fun q1 q2=>aPtr q1 fun z1=>aInt .i64 q2 fun z2=>bnd (cond (z2==0) (gInt .i64 ⟨b,2,none⟩ w1 fun z3=>bnd (C Ae1 [.pointer z1,iI env,iI z3] w1) fun q3 w2=>aBool q3 fun z4=>some (!z4,w2)) (some (false,w1))) fun c_1 w3=>cond c_1
 (some (iI 8,w3))
 (some (iI z2,w3)):=kR
def M9:Cuts:=⟨0,[(2,[0,1,7,8])],[],[]⟩
def S6:List Item:=A4 Try.f41
def L1:List Item:=stk [0,1,0,0,1,4,5] S6
theorem Ax7 :
 xQ M9 C R E1 Try.f41 S6 [(0,.slice s sn sc),(1,f)] h =
 R E1 L1 [(0,.slice s sn sc),(1,f),(7,iI (sn:Int)),(8,iI 0)] h:=kR
theorem Ab1 :
 xQ M9 C R E1 Try.f41 L1 [(0,.slice s sn sc),(1,f),(7,iI x7),(8,iI x8)] h =
 cond (decide (x8<x7))
 (aSome s fun p=>ck ((0:Int)≤x8∧x8<(sn:Int)) (gInt .i64 (add (A9 p) (Int.toNat x8*1)) h fun x=>aFn f fun g fi cp=>bnd (C g (fi++([iI x]++cp)) h) fun r w=>aBool r fun z1=>cond z1
 (some (iI x8,w))
 (R E1 L1 [(0,.slice s sn sc),(1,f),(7,iI x7),(8,iI (wrap .i64 (x8+1)))] w)))
 (some (iI (-1),h)):=kR
def Ar6:Cuts:=⟨0,[],[],[]⟩
def A56:List Item:=A4 Try.f46
theorem By2 :
 xQ Ar6 C R U2 Try.f46 A56 [(0,.pointer s),(1,iI env),(2,iI name)] h =
 nw (.cells R7 false [iI 0,iI 0,iI 0,iI 0,iI 0,iI 0]) h fun b w=>bnd (C V7 [.pointer s,iI env] w) fun r w1=>aBool r fun x=>cond (!x)
 (pAgg ⟨b,0,none⟩ [iI 0,iI 0,iI 0,iI 0,iI 0,iI 0] w1 fun w2=>gAgg ⟨b,0,none⟩ 6 w2 fun z1=>some (.tuple ⟨[.agg ⟨z1⟩,iI 2]⟩,w2))
 (aSome s fun p=>gSl (add p 0) w1 fun z2 xn _=>aSome z2 fun p_1=>ck ((0:Int)≤env∧env<(xn:Int)) (gPtr (add (A9 p_1) (Int.toNat env*1)) w1 fun z3=>bnd (C M0 [.pointer z3,iI name] w1) fun q1 w3=>as2 q1 fun q2 q3=>aAgg q2 fun z4=>aBool q3 fun z5=>nw (.cells R7 false [iI 0,iI 0,iI 0,iI 0,iI 0,iI 0]) w3 fun p1 w4=>ck (List.length z4=6) (pAgg ⟨p1,0,none⟩ z4 w4 fun w5=>cond (!z5)
 (pAgg ⟨b,0,none⟩ [iI 0,iI 0,iI 0,iI 0,iI 0,iI 0] w5 fun w6=>gAgg ⟨b,0,none⟩ 6 w6 fun z6=>some (.tuple ⟨[.agg ⟨z6⟩,iI 2]⟩,w6))
 (gAgg ⟨p1,0,none⟩ 6 w5 fun z7=>ck (List.length z7=6) (pAgg ⟨b,0,none⟩ z7 w5 fun w7=>gAgg ⟨b,0,none⟩ 6 w7 fun z8=>some (.tuple ⟨[.agg ⟨z8⟩,iI 0]⟩,w7)))))):=kR
def Ao6:Cuts:=⟨0,[],[],[]⟩
def A19:List Item:=A4 Try.f53
theorem Bt7 (who:Int) (stamp:Int) :
 xQ Ao6 C R Ae1 Try.f53 A19 [(0,.pointer s),(1,iI who),(2,iI stamp)] h =
 bnd (C Ae4 [.pointer s,iI who,iI stamp] h) fun r w=>aBool r fun x=>cond (!x)
 (some (.bool false,w))
 (aSome s fun p=>pV (add p 1) (.bool false) w fun w1=>aSome s fun p_1=>gInt .i64 (add p_1 7) w1 fun z1=>aSome s fun p_2=>pV (add p_2 6) (iI z1) w1 fun w2=>some (.bool true,w2)):=kR
def W5:Cuts:=⟨0,[],[],[]⟩
def Ai1:List Item:=A4 Try.f54
theorem A11 :
 xQ W5 C R I2 Try.f54 Ai1 [(0,.pointer t),(1,iI i)] h =
 aSome t fun p=>gSl (add p 0) h fun x xn _=>aSome x fun p_1=>ck ((0:Int)≤i∧i<(xn:Int)) (gInt .i64 (add (add (A9 p_1) (Int.toNat i*8)) 6) h fun z1=>some (iI (wrap .i64 (i+(wrap .i64 (256*z1)))),h)):=kR
def X8:Cuts:=⟨0,[],[],[]⟩
def Ak6:List Item:=A4 Try.f57
theorem A32 :
 xQ X8 C R M0 Try.f57 Ak6 [(0,.pointer t),(1,iI name)] h =
 nw (.cells R7 false [iI 0,iI 0,iI 0,iI 0,iI 0,iI 0]) h fun b w=>bnd (C M5 [.pointer t,iI name] w) fun r w1=>aPtr r fun x=>cond x.isNone
 (nw (.cells R7 false [iI 0,iI 0,iI 0,iI 0,iI 0,iI 0]) w1 fun p1 w2=>gAgg ⟨p1,0,none⟩ 6 w2 fun z1=>ck (List.length z1=6) (pAgg ⟨b,0,none⟩ z1 w2 fun w3=>gAgg ⟨b,0,none⟩ 6 w3 fun z2=>some (.tuple ⟨[.agg ⟨z2⟩,.bool false]⟩,w3)))
 (aSome x fun p=>gAgg (add p 0) 6 w1 fun z3=>ck (List.length z3=6) (pAgg ⟨b,0,none⟩ z3 w1 fun w4=>gAgg ⟨b,0,none⟩ 6 w4 fun z4=>some (.tuple ⟨[.agg ⟨z4⟩,.bool true]⟩,w4))):=kR
end
end Go.EQ

set_option maxRecDepth 100000
namespace Go.EQ
open Go Go.NN Go.Proofs
open Go.IntKind (wrap)
open Go.Addr (add)
variable (C:A6) (R:N7) (h:H) (a atv b env i j n name pivot s x:Int) (datac datan:Nat) (data k m q r t:Option Addr) (cmp:Value)
noncomputable section
def Ax1:Cuts:=⟨0,[],[],[]⟩
def Be6:List Item:=A4 Try.f7
theorem Bc8 (c:List Value) :
 xQ Ax1 C R H1 Try.f7 Be6 [(0,.pointer k),(1,iI env),(2,.agg ⟨c⟩)] h =
 nw (.cells An4 false c) h fun b w=>nw (.cells Z7 false [iI 0,iI 0,.slice none 0 0]) w fun p1 w1=>bnd (cond (decide (env<0)) (some (true,w1)) (aSome k fun p=>gSl (add p 0) w1 fun _ xn _=>some (decide (env≥(xn:Int)),w1))) fun c_1 w2=>cond c_1
 (pAgg ⟨p1,0,none⟩ [iI 1,iI 0,.slice none 0 0] w2 fun w3=>gAgg ⟨p1,0,none⟩ 3 w3 fun z1=>some (.agg ⟨z1⟩,w3))
 (gAgg ⟨b,0,none⟩ 7 w2 fun z2=>bnd (C Af0 [.pointer k,iI env,.agg ⟨z2⟩] w2) fun r w4=>as3 r fun q1 q2 q3=>aSl q1 fun z3 xn_1 xc_1=>aInt .i64 q2 fun z4=>aBool q3 fun z5=>cond z5
 (pAgg ⟨p1,0,none⟩ [iI z4,iI 0,.slice z3 xn_1 xc_1] w4 fun w5=>gAgg ⟨p1,0,none⟩ 3 w5 fun z6=>some (.agg ⟨z6⟩,w5))
 (gAgg ⟨b,0,none⟩ 7 w4 fun z7=>bnd (C V3 [.pointer k,iI env,.agg ⟨z7⟩] w4) fun q4 w6=>as2 q4 fun q5 q6=>aInt .i64 q5 fun z8=>aInt .i64 q6 fun z9=>pAgg ⟨p1,0,none⟩ [iI z9,iI z8,.slice none 0 0] w6 fun w7=>gAgg ⟨p1,0,none⟩ 3 w7 fun z10=>some (.agg ⟨z10⟩,w7))):=kR
def Bo1:Cuts:=⟨0,[],[],[]⟩
def B69:List Item:=A4 Try.f11
theorem Dw3 (frames:Int) :
 xQ Bo1 C R A85 Try.f11 B69 [(0,iI frames)] h =
 ck ((0:Int)≤wrap .i64 (64*(mm2 false (mm2 true frames 0) 256))∧(wrap .i64 (64*(mm2 false (mm2 true frames 0) 256)):Int)≤wrap .i64 (64*(mm2 false (mm2 true frames 0) 256))∧wrap .i64 (64*(mm2 false (mm2 true frames 0) 256))≤(E6:Int)) (nw (.cells A5 false (L0 (Int.toNat (wrap .i64 (64*(mm2 false (mm2 true frames 0) 256)))) [.int .u8 0])) h fun b w=>nw (.cells Bm1 false [.slice (some ⟨b,0,none⟩) (Int.toNat (wrap .i64 (64*(mm2 false (mm2 true frames 0) 256)))) (Int.toNat (wrap .i64 (64*(mm2 false (mm2 true frames 0) 256))))]) w fun p1 w1=>some (pP p1,w1)):=kR
def Ah6:Cuts:=⟨0,[],[],[]⟩
def Av4:List Item:=A4 Try.f16
theorem Bh2 (lo:Int) :
 xQ Ah6 C R X9 Try.f16 Av4 [(0,.pointer r),(1,iI lo),(2,iI n)] h =
 bnd (cond (decide (lo<0)) (some (true,h)) (some (decide (n<0),h))) fun c w=>bnd (cond c (some (true,w)) (aSome r fun p=>gPtr (add p 0) w fun x=>bnd (C Af2 [.pointer x] w) fun q1 w1=>aInt .i64 q1 fun z1=>some (decide (lo>z1),w1))) fun c_1 w2=>bnd (cond c_1 (some (true,w2)) (aSome r fun p_1=>gPtr (add p_1 0) w2 fun z2=>bnd (C Af2 [.pointer z2] w2) fun q2 w3=>aInt .i64 q2 fun z3=>some (decide (n>(wrap .i64 (z3-lo))),w3))) fun c_2 w4=>cond c_2
 (some (.tuple ⟨[iI 0,iI 1]⟩,w4))
 (aSome r fun p_2=>gSl (add p_2 2) w4 fun _ xn _=>cond (decide ((xn:Int)≥32))
 (some (.tuple ⟨[iI 0,iI 4]⟩,w4))
 (aSome r fun p_3=>gSl (add p_3 2) w4 fun z5 xn_1 xc_1=>nw (.cells Ab6 false [iI lo,iI n]) w4 fun b w5=>gCells (some ⟨b,0,none⟩) (1*2) w5 fun cs=>ckB (fitsOpen z5 Ab6 w5) (apd Ab6 2 z5 xn_1 xc_1 1 cs w5 fun a an ac w6=>aSome r fun p_4=>pV (add p_4 2) (.slice a an ac) w6 fun w7=>aSome r fun p_5=>gSl (add p_5 2) w7 fun _ xn_2 _=>some (.tuple ⟨[iI (wrap .i64 ((xn_2:Int)-1)),iI 0]⟩,w7)))):=kR
def Av0:Cuts:=⟨0,[],[],[]⟩
def A86:List Item:=A4 Try.f20
theorem B12 :
 xQ Av0 C R Ak2 Try.f20 A86 [(0,.pointer k)] h =
 aSome k fun p=>gInt .i64 (add p 7) h fun x=>some (iI x,h):=kR
def Al7:Cuts:=⟨0,[],[],[]⟩
def Az3:List Item:=A4 Try.f38
theorem Bp2 (k:Int) :
 xQ Al7 C R Ac3 Try.f38 Az3 [(0,.pointer q),(1,iI s),(2,iI k)] h =
 bnd (C S8 [.pointer q,iI s] h) fun r w=>aBool r fun x=>cond (!x)
 (some (iI 1,w))
 (bnd (C Ad2 [.pointer q,iI s,iI k] w) fun q1 w1=>aBool q1 fun z1=>cond (!z1)
 (some (iI 5,w1))
 (aSome q fun p=>gSl (add p 0) w1 fun z2 xn _=>aSome z2 fun p_1=>ck ((0:Int)≤s∧s<(xn:Int)) (gSl (add (A9 p_1) (Int.toNat s*1)) w1 fun z3 xn_1 _=>aSome z3 fun p_2=>ck ((0:Int)≤k∧k<(xn_1:Int)) (pV (add (A9 p_2) (Int.toNat k*1)) (iI 0) w1 fun w2=>some (iI 0,w2))))):=kR
def Ad8:Cuts:=⟨0,[],[],[(6,⟨[0,1,2,3,4,5,6,7,8,9,10,11,12,13,14,15,16,17,18,19,20,21,22,23,24,25,26,27,28,29,30,31,32,33,34,35],[0,1,3,7,15,31,63,127,127,383,1023,2047,4095,8191,8191,24575,8191,122879,262143,524287,1048575,2097151,4194303,8388607,16777215,33554431,67108863,134217727,67108863,335544319,872415231,1946157055,4093640703,8589934591,17179869183,34359738367],[],[]⟩),(8,⟨[0,1,2,3,4,5,6,7,8,9],[0,1,3,7,0,16,63,127,0,511],[],[]⟩)]⟩
def Ap7:List Item:=A4 Try.f43
theorem Bb6 (right:Int) :
 xQ Ad8 C R O0 Try.f43 Ap7 [(0,.pointer r),(1,iI env),(2,iI name),(3,iI right),(4,iI atv),(5,iI n)] h =
 aSome r fun p=>gPtr (add p 1) h fun x=>bnd (C U2 [.pointer x,iI env,iI name] h) fun q1 w=>as2 q1 fun q2 q3=>aAgg q2 fun z1=>aInt .i64 q3 fun z2=>nw (.cells R7 false [iI 0,iI 0,iI 0,iI 0,iI 0,iI 0]) w fun b w1=>ck (List.length z1=6) (pAgg ⟨b,0,none⟩ z1 w1 fun w2=>cond (z2 != 0)
 (some (.tuple ⟨[iI 0,iI z2]⟩,w2))
 (gInt .i64 ⟨b,1,none⟩ w2 fun z3=>cond ((U7 .i64 z3 right)==0)
 (some (.tuple ⟨[iI 0,iI 3]⟩,w2))
 (bnd (cond (decide (atv<0)) (some (true,w2)) (some (decide (n<0),w2))) fun c w3=>bnd (cond c (some (true,w3)) (gInt .i64 ⟨b,3,none⟩ w3 fun z4=>some (decide (atv>z4),w3))) fun c_1 w4=>bnd (cond c_1 (some (true,w4)) (gInt .i64 ⟨b,3,none⟩ w4 fun z5=>some (decide (n>(wrap .i64 (z5-atv))),w4))) fun c_2 w5=>bnd (cond c_2 (some (true,w5)) (gInt .i64 ⟨b,0,none⟩ w5 fun z6=>some (decide (z6<0),w5))) fun c_3 w6=>bnd (cond c_3 (some (true,w6)) (gInt .i64 ⟨b,0,none⟩ w6 fun z7=>aSome r fun p_1=>gSl (add p_1 2) w6 fun _ xn _=>some (decide (z7≥(xn:Int)),w6))) fun c_4 w7=>cond c_4
 (some (.tuple ⟨[iI 0,iI 1]⟩,w7))
 (aSome r fun p_2=>gSl (add p_2 2) w7 fun z9 xn_1 _=>gInt .i64 ⟨b,0,none⟩ w7 fun z10=>aSome z9 fun p_3=>ck ((0:Int)≤z10∧z10<(xn_1:Int)) (gAgg (add (A9 p_3) (Int.toNat z10*2)) 2 w7 fun z11=>nw (.cells Ab6 false [iI 0,iI 0]) w7 fun p1 w8=>ck (List.length z11=2) (pAgg ⟨p1,0,none⟩ z11 w8 fun w9=>gInt .i64 ⟨b,2,none⟩ w9 fun z12=>gInt .i64 ⟨p1,1,none⟩ w9 fun z13=>bnd (cond (decide ((wrap .i64 (z12+atv))>z13)) (some (true,w9)) (gInt .i64 ⟨p1,1,none⟩ w9 fun z14=>gInt .i64 ⟨b,2,none⟩ w9 fun z15=>some (decide (n>(wrap .i64 ((wrap .i64 (z14-z15))-atv))),w9))) fun c_5 w10=>cond c_5
 (some (.tuple ⟨[iI 0,iI 1]⟩,w10))
 (gInt .i64 ⟨p1,0,none⟩ w10 fun z16=>gInt .i64 ⟨b,2,none⟩ w10 fun z17=>some (.tuple ⟨[iI (wrap .i64 ((wrap .i64 (z16+z17))+atv)),iI 0]⟩,w10)))))))):=kR
def Aw2:Cuts:=⟨0,[],[],[]⟩
def A84:List Item:=A4 Try.f45
theorem B11 (b:Option Addr) (bn bc:Nat) :
 xQ Aw2 C R Ak3 Try.f45 A84 [(0,.pointer m),(1,iI atv),(2,.slice b bn bc)] h =
 bnd (C Al6 [.pointer m,iI atv,iI (bn:Int)] h) fun r w=>aBool r fun x=>cond (!x)
 (some (iI 1,w))
 (aSome m fun p=>gSl (add p 0) w fun z1 xn xc=>ckB (fitsOpen z1 A5 w) (ck ((0:Int)≤atv∧atv≤(xn:Int)) (gCells b (min bn (xn-(Int.toNat atv))*1) w fun cs=>Ao8 (M2 z1 (decide (Int.toNat atv<xc)) ((Int.toNat atv)*1)) cs w fun w1=>some (iI 0,w1)))):=kR
def As4:Cuts:=⟨0,[],[],[]⟩
def A69:List Item:=A4 Try.f49
theorem By4 :
 xQ As4 C R S8 Try.f49 A69 [(0,.pointer q),(1,iI s)] h =
 bnd (cond (decide (s≥0)) (aSome q fun p=>gSl (add p 0) h fun _ xn _=>some (decide (s<(xn:Int)),h)) (some (false,h))) fun c w=>some (.bool c,w):=kR
def A48:Cuts:=⟨0,[],[],[]⟩
def Bl6:List Item:=A4 Try.f55
theorem Dh8 :
 xQ A48 C R Al6 Try.f55 Bl6 [(0,.pointer m),(1,iI atv),(2,iI n)] h =
 bnd (cond (decide (atv≥0)) (some (decide (n≥0),h)) (some (false,h))) fun c w=>bnd (cond c (aSome m fun p=>gSl (add p 0) w fun _ xn _=>some (decide (atv≤(xn:Int)),w)) (some (false,w))) fun c_1 w1=>bnd (cond c_1 (aSome m fun p_1=>gSl (add p_1 0) w1 fun _ xn_1 _=>some (decide (n≤(wrap .i64 ((xn_1:Int)-atv))),w1)) (some (false,w1))) fun c_2 w2=>some (.bool c_2,w2):=kR
def N6:Cuts:=⟨0,[(3,[0,3,9,10,11])],[],[]⟩
def V1:List Item:=A4 Try.f58
def I3:List Item:=stk [0,1,0,1,0,0,1,4,5] V1
theorem A05 :
 xQ N6 C R D1 Try.f58 V1 [(0,.pointer t)] h =
 aSome t fun p=>gSl (add p 0) h fun x xn xc=>R D1 I3 [(0,.pointer t),(3,.slice none 0 0),(9,.slice x xn xc),(10,iI (xn:Int)),(11,iI 0)] h:=kR
theorem Ad3 (out:Option Addr) (outn outc:Nat) (x9:Option Addr) (x9n x9c:Nat) (x10:Int) (x11:Int) :
 xQ N6 C R D1 Try.f58 I3 [(0,.pointer t),(3,.slice out outn outc),(9,.slice x9 x9n x9c),(10,iI x10),(11,iI x11)] h =
 cond (decide (x11<x10))
 (aSome x9 fun p=>ck ((0:Int)≤x11∧x11<(x9n:Int)) (gAgg (add (A9 p) (Int.toNat x11*8)) 8 h fun x=>nw (.cells W3 false [iI 0,iI 0,iI 0,iI 0,iI 0,iI 0,iI 0,.bool false]) h fun b w=>ck (List.length x=8) (pAgg ⟨b,0,none⟩ x w fun w1=>gBool ⟨b,7,none⟩ w1 fun z1=>cond z1
 (bnd (C I2 [.pointer t,iI x11] w1) fun r w2=>aInt .i64 r fun z2=>nw (.cells D0 false [iI z2]) w2 fun p1 w3=>gCells (some ⟨p1,0,none⟩) (1*1) w3 fun cs=>ckB (fitsOpen out D0 w3) (apd D0 1 out outn outc 1 cs w3 fun a an ac w4=>R D1 I3 [(0,.pointer t),(3,.slice a an ac),(9,.slice x9 x9n x9c),(10,iI x10),(11,iI (wrap .i64 (x11+1)))] w4))
 (R D1 I3 [(0,.pointer t),(3,.slice out outn outc),(9,.slice x9 x9n x9c),(10,iI x10),(11,iI (wrap .i64 (x11+1)))] w1))))
 (some (.slice out outn outc,h)):=kR
def Z6:Cuts:=⟨0,[],[],[]⟩
def Al1:List Item:=A4 Try.f61
theorem A73 :
 xQ Z6 C R M5 Try.f61 Al1 [(0,.pointer t),(1,iI name)] h =
 bnd (cond (decide (name<0)) (some (true,h)) (aSome t fun p=>gSl (add p 0) h fun _ xn _=>some (decide ((U7 .i64 name 255)≥(xn:Int)),h))) fun c w=>bnd (cond c (some (true,w)) (aSome t fun p_1=>gSl (add p_1 0) w fun z1 xn_1 _=>aSome z1 fun p_2=>ck ((0:Int)≤U7 .i64 name 255∧U7 .i64 name 255<(xn_1:Int)) (gBool (add (add (A9 p_2) (Int.toNat (U7 .i64 name 255)*8)) 7) w fun z2=>some (!z2,w)))) fun c_1 w1=>bnd (cond c_1 (some (true,w1)) (bnd (C I2 [.pointer t,iI (U7 .i64 name 255)] w1) fun r w2=>aInt .i64 r fun z3=>some (z3 != name,w2))) fun c_2 w3=>cond c_2
 (some (.pointer none,w3))
 (aSome t fun p_3=>gSl (add p_3 0) w3 fun z4 xn_2 _=>aSome z4 fun p_4=>ck ((0:Int)≤U7 .i64 name 255∧U7 .i64 name 255<(xn_2:Int)) (some (.pointer (some (add (A9 p_4) (Int.toNat (U7 .i64 name 255)*8))),w3))):=kR
def An9:Cuts:=⟨0,[],[],[]⟩
def A18:List Item:=A4 Try.f62
theorem Bt6 (s:Option Addr) (who:Int) (stamp:Int) :
 xQ An9 C R Ae4 Try.f62 A18 [(0,.pointer s),(1,iI who),(2,iI stamp)] h =
 aSome s fun p=>gBool (add p 1) h fun x=>bnd (cond x (aSome s fun p_1=>gInt .i64 (add p_1 2) h fun z1=>some (z1==who,h)) (some (false,h))) fun c w=>bnd (cond c (aSome s fun p_2=>gInt .i64 (add p_2 3) w fun z2=>some (z2==stamp,w)) (some (false,w))) fun c_1 w1=>some (.bool c_1,w1):=kR
def Av9:Cuts:=⟨0,[],[],[]⟩
def A87:List Item:=A4 Try.f64
theorem B43 :
 xQ Av9 C R Aj9 Try.f64 A87 [(0,.int .u64 x)] h =
 bnd (C H8 [.int .u64 x] h) fun r w=>aInt .i64 r fun z1=>some (iI z1,w):=kR
def X1:Cuts:=⟨0,[],[(4,[0,2]),(7,[0,2])],[]⟩
def Ae8:List Item:=A4 Try.f74
def Ah0:List Item:=stk [0,1,0,1,0,0] Ae8
def Ah2:List Item:=stk [0,1,0,1,0,1,0,0] Ae8
theorem Bt3 :
 xQ X1 C R H8 Try.f74 Ae8 [(0,.int .u64 x)] h =
 cond (decide (x≥4294967296))
 (R H8 Ah0 [(0,.int .u64 (Int.fdiv x (2 ^ 32))),(2,iI 32)] h)
 (R H8 Ah0 [(0,.int .u64 x),(2,iI 0)] h):=kR
theorem Bg7 :
 xQ X1 C R H8 Try.f74 Ah0 [(0,.int .u64 x),(2,iI n)] h =
 cond (decide (x≥65536))
 (R H8 Ah2 [(0,.int .u64 (Int.fdiv x (2 ^ 16))),(2,iI (wrap .i64 (n+16)))] h)
 (R H8 Ah2 [(0,.int .u64 x),(2,iI n)] h):=kR
theorem Bh0 :
 xQ X1 C R H8 Try.f74 Ah2 [(0,.int .u64 x),(2,iI n)] h =
 cond (decide (x≥256))
 (ck ((0:Int)≤wrap .u8 (Int.fdiv x (2 ^ 8))∧wrap .u8 (Int.fdiv x (2 ^ 8))<((ByteArray.size (ByteArray.mk ⟨[0,1,2,2,3,3,3,3,4,4,4,4,4,4,4,4,5,5,5,5,5,5,5,5,5,5,5,5,5,5,5,5,6,6,6,6,6,6,6,6,6,6,6,6,6,6,6,6,6,6,6,6,6,6,6,6,6,6,6,6,6,6,6,6,7,7,7,7,7,7,7,7,7,7,7,7,7,7,7,7,7,7,7,7,7,7,7,7,7,7,7,7,7,7,7,7,7,7,7,7,7,7,7,7,7,7,7,7,7,7,7,7,7,7,7,7,7,7,7,7,7,7,7,7,7,7,7,7,8,8,8,8,8,8,8,8,8,8,8,8,8,8,8,8,8,8,8,8,8,8,8,8,8,8,8,8,8,8,8,8,8,8,8,8,8,8,8,8,8,8,8,8,8,8,8,8,8,8,8,8,8,8,8,8,8,8,8,8,8,8,8,8,8,8,8,8,8,8,8,8,8,8,8,8,8,8,8,8,8,8,8,8,8,8,8,8,8,8,8,8,8,8,8,8,8,8,8,8,8,8,8,8,8,8,8,8,8,8,8,8,8,8,8,8,8,8,8,8,8,8,8,8,8,8,8,8]⟩):Nat):Int)) (some (iI (wrap .i64 ((wrap .i64 (n+8))+(wrap .i64 (((List.getD (ByteArray.data (ByteArray.mk ⟨[0,1,2,2,3,3,3,3,4,4,4,4,4,4,4,4,5,5,5,5,5,5,5,5,5,5,5,5,5,5,5,5,6,6,6,6,6,6,6,6,6,6,6,6,6,6,6,6,6,6,6,6,6,6,6,6,6,6,6,6,6,6,6,6,7,7,7,7,7,7,7,7,7,7,7,7,7,7,7,7,7,7,7,7,7,7,7,7,7,7,7,7,7,7,7,7,7,7,7,7,7,7,7,7,7,7,7,7,7,7,7,7,7,7,7,7,7,7,7,7,7,7,7,7,7,7,7,7,8,8,8,8,8,8,8,8,8,8,8,8,8,8,8,8,8,8,8,8,8,8,8,8,8,8,8,8,8,8,8,8,8,8,8,8,8,8,8,8,8,8,8,8,8,8,8,8,8,8,8,8,8,8,8,8,8,8,8,8,8,8,8,8,8,8,8,8,8,8,8,8,8,8,8,8,8,8,8,8,8,8,8,8,8,8,8,8,8,8,8,8,8,8,8,8,8,8,8,8,8,8,8,8,8,8,8,8,8,8,8,8,8,8,8,8,8,8,8,8,8,8,8,8,8,8,8,8]⟩)).toList (Int.toNat (wrap .u8 (Int.fdiv x (2 ^ 8)))) 0).toNat:Int))))),h)))
 (ck ((0:Int)≤wrap .u8 (x)∧wrap .u8 (x)<((ByteArray.size (ByteArray.mk ⟨[0,1,2,2,3,3,3,3,4,4,4,4,4,4,4,4,5,5,5,5,5,5,5,5,5,5,5,5,5,5,5,5,6,6,6,6,6,6,6,6,6,6,6,6,6,6,6,6,6,6,6,6,6,6,6,6,6,6,6,6,6,6,6,6,7,7,7,7,7,7,7,7,7,7,7,7,7,7,7,7,7,7,7,7,7,7,7,7,7,7,7,7,7,7,7,7,7,7,7,7,7,7,7,7,7,7,7,7,7,7,7,7,7,7,7,7,7,7,7,7,7,7,7,7,7,7,7,7,8,8,8,8,8,8,8,8,8,8,8,8,8,8,8,8,8,8,8,8,8,8,8,8,8,8,8,8,8,8,8,8,8,8,8,8,8,8,8,8,8,8,8,8,8,8,8,8,8,8,8,8,8,8,8,8,8,8,8,8,8,8,8,8,8,8,8,8,8,8,8,8,8,8,8,8,8,8,8,8,8,8,8,8,8,8,8,8,8,8,8,8,8,8,8,8,8,8,8,8,8,8,8,8,8,8,8,8,8,8,8,8,8,8,8,8,8,8,8,8,8,8,8,8,8,8,8,8]⟩):Nat):Int)) (some (iI (wrap .i64 (n+(wrap .i64 (((List.getD (ByteArray.data (ByteArray.mk ⟨[0,1,2,2,3,3,3,3,4,4,4,4,4,4,4,4,5,5,5,5,5,5,5,5,5,5,5,5,5,5,5,5,6,6,6,6,6,6,6,6,6,6,6,6,6,6,6,6,6,6,6,6,6,6,6,6,6,6,6,6,6,6,6,6,7,7,7,7,7,7,7,7,7,7,7,7,7,7,7,7,7,7,7,7,7,7,7,7,7,7,7,7,7,7,7,7,7,7,7,7,7,7,7,7,7,7,7,7,7,7,7,7,7,7,7,7,7,7,7,7,7,7,7,7,7,7,7,7,8,8,8,8,8,8,8,8,8,8,8,8,8,8,8,8,8,8,8,8,8,8,8,8,8,8,8,8,8,8,8,8,8,8,8,8,8,8,8,8,8,8,8,8,8,8,8,8,8,8,8,8,8,8,8,8,8,8,8,8,8,8,8,8,8,8,8,8,8,8,8,8,8,8,8,8,8,8,8,8,8,8,8,8,8,8,8,8,8,8,8,8,8,8,8,8,8,8,8,8,8,8,8,8,8,8,8,8,8,8,8,8,8,8,8,8,8,8,8,8,8,8,8,8,8,8,8,8]⟩)).toList (Int.toNat (wrap .u8 (x))) 0).toNat:Int))))),h))):=kR
end
end Go.EQ

set_option maxRecDepth 100000
namespace Go.EQ
open Go Go.NN Go.Proofs
open Go.IntKind (wrap)
open Go.Addr (add)
variable (C:A6) (R:N7) (random:Addr) (grown:Bool) (h:H) (a atv b env i idx length modulus n name now to who x45 x46 x86 x87:Int) (c:List Value) (datac datan outc outn sc sn x44c x44n x85c x85n:Nat) (data k m out q s t x44 x85:Option Addr) (of:Option Nat) (cmp:Value)
noncomputable section
def A28:Cuts:=⟨0,[(3,[3,8,9])],[],[(4,⟨[0,1,2,3,4,5,6,7,8,9,10],[0,0,2,6,14,0,32,126,255,511,1023],[(5,[4])],[]⟩)]⟩
def Bh6:List Item:=A4 Try.f12
def Aq0:List Item:=stk [0,1,0,1,0,0,1,4,5] Bh6
theorem Dq8 (envs:Int) :
 xQ A28 C R Ac9 Try.f12 Bh6 [(0,iI envs)] h =
 nw (.cells U8 false [.slice none 0 0]) h fun b w=>R Ac9 Aq0 [(3,pP b),(8,iI (mm2 false (mm2 true envs 0) 40)),(9,iI 0)] w:=kR
theorem Bk0 (s:Addr) (x8:Int) (x9:Int) :
 xQ A28 C R Ac9 Try.f12 Aq0 [(3,.pointer (some s)),(8,iI x8),(9,iI x9)] h =
 cond (decide (x9<x8))
 (gSl (add s 0) h fun x xn xc=>bnd (C J0 [iI 32] h) fun r w=>aPtr r fun z1=>gSl (add s 0) w fun z2 xn_1 xc_1=>same (.slice x xn xc) (.slice z2 xn_1 xc_1) (nw (.cells D8 false [.pointer z1]) w fun b w1=>gCells (some ⟨b,0,none⟩) (1*1) w1 fun cs=>ckB (fitsOpen x D8 w1) (apd D8 1 x xn xc 1 cs w1 fun a an ac w2=>pV (add s 0) (.slice a an ac) w2 fun w3=>R Ac9 Aq0 [(3,.pointer (some s)),(8,iI x8),(9,iI (wrap .i64 (x9+1)))] w3)))
 (some (.pointer (some s),h)):=kR
def A49:Cuts:=⟨0,[],[],[]⟩
def Bk8:List Item:=A4 Try.f14
theorem Dc8 :
 xQ A49 C R Aw4 Try.f14 Bk8 [(0,.pointer m),(1,.pointer s)] h =
 nw (.cells A60 false [.pointer m,.pointer s,.slice none 0 0]) h fun b w=>some (pP b,w):=kR
def Ao0:Cuts:=⟨0,[],[],[(4,⟨[0,1,2,3,4,5,6,7,8,9,10,11,12,13,14,15,16],[0,1,3,7,0,0,32,0,128,0,512,2047,4095,8191,8191,16383,65535],[],[]⟩),(6,⟨[0,1,2,3,4,5,6,7,8,9,10,11,12],[0,1,3,7,0,0,32,0,128,0,512,2047,4095],[],[]⟩),(8,⟨[0,1,2,3,4,5,6,7,8,9,10,11,12,13,14,15,16],[0,1,3,7,0,0,32,0,128,0,512,0,2048,0,8192,32767,65535],[],[]⟩)]⟩
def A17:List Item:=A4 Try.f21
theorem Bt2 :
 xQ Ao0 C R Af0 Try.f21 A17 [(0,.pointer k),(1,iI env),(2,.agg ⟨c⟩)] h =
 nw (.cells An4 false c) h fun b w=>gInt .i64 ⟨b,0,none⟩ w fun x=>cond (x==1)
 (aSome k fun p=>gPtr (add p 5) w fun z1=>gInt .i64 ⟨b,1,none⟩ w fun z2=>gInt .i64 ⟨b,2,none⟩ w fun z3=>gInt .i64 ⟨b,3,none⟩ w fun z4=>bnd (C P8 [.pointer z1,iI env,iI z2,iI z3,iI z4] w) fun r w1=>as2 r fun q1 q2=>aSl q1 fun z5 xn xc=>aInt .i64 q2 fun z6=>some (.tuple ⟨[.slice z5 xn xc,iI z6,.bool true]⟩,w1))
 (cond (x==2)
 (aSome k fun p_1=>gPtr (add p_1 5) w fun z7=>gInt .i64 ⟨b,1,none⟩ w fun z8=>gInt .i64 ⟨b,2,none⟩ w fun z9=>gSl ⟨b,6,none⟩ w fun z10 xn_1 xc_1=>bnd (C O2 [.pointer z7,iI env,iI z8,iI z9,.slice z10 xn_1 xc_1] w) fun q3 w2=>aInt .i64 q3 fun z11=>some (.tuple ⟨[.slice none 0 0,iI z11,.bool true]⟩,w2))
 (cond (x==3)
 (aSome k fun p_2=>gPtr (add p_2 5) w fun z12=>gInt .i64 ⟨b,1,none⟩ w fun z13=>gInt .i64 ⟨b,2,none⟩ w fun z14=>gInt .i64 ⟨b,4,none⟩ w fun z15=>gInt .i64 ⟨b,5,none⟩ w fun z16=>gInt .i64 ⟨b,3,none⟩ w fun z17=>bnd (C W1 [.pointer z12,iI env,iI z13,iI z14,iI z15,iI z16,iI z17] w) fun q4 w3=>aInt .i64 q4 fun z18=>some (.tuple ⟨[.slice none 0 0,iI z18,.bool true]⟩,w3))
 (some (.tuple ⟨[.slice none 0 0,iI 0,.bool false]⟩,w)))):=kR
def Am5:Cuts:=⟨0,[],[],[(3,⟨[0,1,2,3,4,5,6,7,8,9,10,11,12,13,14,15,16,17,18,19],[0,1,3,7,0,0,32,0,128,0,512,0,2048,0,8192,32767,65535,65535,262143,524287],[],[]⟩),(5,⟨[0,1,2,3,4,5,6,7,8,9,10,11],[0,1,3,7,0,0,32,127,255,255,1023,2047],[],[]⟩),(7,⟨[0,1,2,3,4,5,6,7,8,9,10,11,12,13,14,15],[0,1,3,7,0,16,48,112,0,496,1008,2047,4095,4095,16383,32767],[],[]⟩),(9,⟨[0,1,2,3,4,5,6,7,8,9,10,11,12,13,14,15],[0,1,3,7,0,16,48,112,0,496,1008,0,2048,8191,16383,32767],[],[]⟩)]⟩
def Az2:List Item:=A4 Try.f22
theorem Az0 :
 xQ Am5 C R V3 Try.f22 Az2 [(0,.pointer k),(1,iI env),(2,.agg ⟨c⟩)] h =
 nw (.cells An4 false c) h fun b w=>gInt .i64 ⟨b,0,none⟩ w fun x=>cond (x==4)
 (aSome k fun p=>gPtr (add p 3) w fun z1=>gInt .i64 ⟨b,1,none⟩ w fun z2=>gInt .i64 ⟨b,4,none⟩ w fun z3=>gInt .i64 ⟨b,5,none⟩ w fun z4=>gInt .i64 ⟨b,2,none⟩ w fun z5=>gInt .i64 ⟨b,3,none⟩ w fun z6=>bnd (C Ac8 [.pointer z1,iI env,iI z2,iI z3,iI z4,iI z5,iI z6] w) fun r w1=>as2 r fun q1 q2=>aInt .i64 q1 fun z7=>aInt .i64 q2 fun z8=>some (.tuple ⟨[iI z7,iI z8]⟩,w1))
 (cond (x==5)
 (aSome k fun p_1=>gPtr (add p_1 3) w fun z9=>gInt .i64 ⟨b,1,none⟩ w fun z10=>bnd (C L9 [.pointer z9,iI env,iI z10] w) fun q3 w2=>as2 q3 fun q4 q5=>aInt .i64 q4 fun z11=>aInt .i64 q5 fun z12=>some (.tuple ⟨[iI z11,iI z12]⟩,w2))
 (cond (x==6)
 (aSome k fun p_2=>gPtr (add p_2 4) w fun z13=>aSome k fun p_3=>gSl (add p_3 0) w fun z14 xn _=>aSome z14 fun p_4=>ck ((0:Int)≤env∧env<(xn:Int)) (gInt .i64 (add (A9 p_4) (Int.toNat env*1)) w fun z15=>bnd (C Aa3 [.pointer z13,iI z15] w) fun q6 w3=>as2 q6 fun q7 q8=>aInt .i64 q7 fun z16=>aInt .i64 q8 fun z17=>some (.tuple ⟨[iI z16,iI z17]⟩,w3)))
 (cond (x==7)
 (aSome k fun p_5=>gPtr (add p_5 4) w fun z18=>aSome k fun p_6=>gSl (add p_6 0) w fun z19 xn_1 _=>aSome z19 fun p_7=>ck ((0:Int)≤env∧env<(xn_1:Int)) (gInt .i64 (add (A9 p_7) (Int.toNat env*1)) w fun z20=>gInt .i64 ⟨b,3,none⟩ w fun z21=>bnd (C Ac3 [.pointer z18,iI z20,iI z21] w) fun q9 w4=>aInt .i64 q9 fun z22=>some (.tuple ⟨[iI 0,iI z22]⟩,w4)))
 (cond (x==8)
 (gAgg ⟨b,0,none⟩ 7 w fun z23=>bnd (C Ae2 [.pointer k,iI env,.agg ⟨z23⟩] w) fun q10 w5=>as2 q10 fun q11 q12=>aInt .i64 q11 fun z24=>aInt .i64 q12 fun z25=>some (.tuple ⟨[iI z24,iI z25]⟩,w5))
 (cond (x==9)
 (gAgg ⟨b,0,none⟩ 7 w fun z26=>bnd (C Ae5 [.pointer k,iI env,.agg ⟨z26⟩] w) fun q13 w6=>aInt .i64 q13 fun z27=>some (.tuple ⟨[iI 0,iI z27]⟩,w6))
 (cond (x==10)
 (aSome k fun p_8=>gInt .i64 (add p_8 7) w fun z28=>some (.tuple ⟨[iI z28,iI 0]⟩,w))
 (some (.tuple ⟨[iI 0,iI 7]⟩,w)))))))):=kR
def Q2:Cuts:=⟨0,[],[],[]⟩
def Aa9:List Item:=A4 Try.f24
theorem At7 (f:Value) :
 xQ Q2 C R G2 Try.f24 Aa9 [(0,.slice s sn sc),(1,f)] h =
 bnd (C E1 [.slice s sn sc,f] h) fun r w=>aInt .i64 r fun x=>some (.bool (decide (x≥0)),w):=kR
def Av6:Cuts:=⟨0,[],[],[]⟩
def A94:List Item:=A4 Try.f30
theorem B40 :
 xQ Av6 C R V7 Try.f30 A94 [(0,.pointer s),(1,iI env)] h =
 bnd (cond (decide (env≥0)) (aSome s fun p=>gSl (add p 0) h fun _ xn _=>some (decide (env<(xn:Int)),h)) (some (false,h))) fun c w=>some (.bool c,w):=kR
def Af1:Cuts:=⟨0,[],[],[]⟩
def At4:List Item:=A4 Try.f34
theorem Be5 (r:Option Addr) (fromv:Int) (on:Int) :
 xQ Af1 C R W1 Try.f34 At4 [(0,.pointer r),(1,iI env),(2,iI fromv),(3,iI atv),(4,iI to),(5,iI on),(6,iI n)] h =
 bnd (C P8 [.pointer r,iI env,iI fromv,iI atv,iI n] h) fun q1 w=>as2 q1 fun q2 q3=>aSl q2 fun x xn xc=>aInt .i64 q3 fun z1=>cond (z1 != 0)
 (some (iI z1,w))
 (bnd (C O2 [.pointer r,iI env,iI to,iI on,.slice x xn xc] w) fun q4 w1=>aInt .i64 q4 fun z2=>some (iI z2,w1)):=kR
def Al4:Cuts:=⟨0,[],[],[]⟩
def Az1:List Item:=A4 Try.f35
theorem Bm6 (give:Int) (lo:Int) :
 xQ Al4 C R Ac8 Try.f35 Az1 [(0,.pointer s),(1,iI env),(2,iI name),(3,iI to),(4,iI give),(5,iI lo),(6,iI n)] h =
 bnd (C U2 [.pointer s,iI env,iI name] h) fun r w=>as2 r fun q1 q2=>aAgg q1 fun x=>aInt .i64 q2 fun z1=>nw (.cells R7 false [iI 0,iI 0,iI 0,iI 0,iI 0,iI 0]) w fun b w1=>ck (List.length x=6) (pAgg ⟨b,0,none⟩ x w1 fun w2=>cond (z1 != 0)
 (some (.tuple ⟨[iI 0,iI z1]⟩,w2))
 (gInt .i64 ⟨b,1,none⟩ w2 fun z2=>bnd (cond ((U7 .i64 z2 4)==0) (some (true,w2)) (gInt .i64 ⟨b,1,none⟩ w2 fun z3=>some ((B50 .i64 give z3) != 0,w2))) fun c w3=>cond c
 (some (.tuple ⟨[iI 0,iI 3]⟩,w3))
 (bnd (C V7 [.pointer s,iI to] w3) fun q3 w4=>aBool q3 fun z4=>bnd (cond (!z4) (some (true,w4)) (some (decide (lo<0),w4))) fun c_1 w5=>bnd (cond c_1 (some (true,w5)) (some (decide (n<0),w5))) fun c_2 w6=>bnd (cond c_2 (some (true,w6)) (gInt .i64 ⟨b,3,none⟩ w6 fun z5=>some (decide (lo>z5),w6))) fun c_3 w7=>bnd (cond c_3 (some (true,w7)) (gInt .i64 ⟨b,3,none⟩ w7 fun z6=>some (decide (n>(wrap .i64 (z6-lo))),w7))) fun c_4 w8=>cond c_4
 (some (.tuple ⟨[iI 0,iI 1]⟩,w8))
 (gInt .i64 ⟨b,0,none⟩ w8 fun z7=>gInt .i64 ⟨b,2,none⟩ w8 fun z8=>bnd (C Z4 [.pointer s,iI to,.agg ⟨[iI z7,iI give,iI (wrap .i64 (z8+lo)),iI n,iI env,iI name]⟩] w8) fun q4 w9=>as2 q4 fun q5 q6=>aInt .i64 q5 fun z9=>aInt .i64 q6 fun z10=>some (.tuple ⟨[iI z9,iI z10]⟩,w9))))):=kR
def Aj6:Cuts:=⟨0,[],[],[]⟩
def Aw7:List Item:=A4 Try.f37
theorem Bk4 (s:Int) :
 xQ Aj6 C R Aa3 Try.f37 Aw7 [(0,.pointer q),(1,iI s)] h =
 bnd (C S8 [.pointer q,iI s] h) fun r w=>aBool r fun x=>cond (!x)
 (some (.tuple ⟨[iI 0,iI 1]⟩,w))
 (aSome q fun p=>gSl (add p 0) w fun z1 xn _=>aSome z1 fun p_1=>ck ((0:Int)≤s∧s<(xn:Int)) (gSl (add (A9 p_1) (Int.toNat s*1)) w fun z2 xn_1 xc_1=>bnd (C E5 [.slice z2 xn_1 xc_1,iI 0] w) fun q1 w1=>aInt .i64 q1 fun z3=>cond (decide (z3<0))
 (some (.tuple ⟨[iI 0,iI 4]⟩,w1))
 (aSome q fun p_2=>gSl (add p_2 0) w1 fun z4 xn_2 _=>aSome z4 fun p_3=>ck ((0:Int)≤s∧s<(xn_2:Int)) (gSl (add (A9 p_3) (Int.toNat s*1)) w1 fun z5 xn_3 _=>aSome z5 fun p_4=>ck ((0:Int)≤z3∧z3<(xn_3:Int)) (pV (add (A9 p_4) (Int.toNat z3*1)) (iI 1) w1 fun w2=>some (.tuple ⟨[iI z3,iI 0]⟩,w2)))))):=kR
def Ax8:Cuts:=⟨0,[],[],[]⟩
def Bc6:List Item:=A4 Try.f44
theorem B58 :
 xQ Ax8 C R Am8 Try.f44 Bc6 [(0,.pointer m),(1,iI atv),(2,iI n)] h =
 bnd (C Al6 [.pointer m,iI atv,iI n] h) fun r w=>aBool r fun x=>cond (!x)
 (some (.tuple ⟨[.slice none 0 0,iI 1]⟩,w))
 (aSome m fun p=>gSl (add p 0) w fun z1 _ xc=>ckB (fitsOpen z1 A5 w) (ck ((0:Int)≤wrap .i64 (atv+n)∧wrap .i64 (atv+n)≤(xc:Int)) (ck ((0:Int)≤atv∧atv≤((Int.toNat (wrap .i64 (atv+n)):Nat):Int)) (bnd (C O4 [.slice (M2 z1 (decide (Int.toNat atv<xc)) ((Int.toNat atv)*1)) ((Int.toNat (wrap .i64 (atv+n)))-(Int.toNat atv)) (xc-(Int.toNat atv))] w) fun q1 w1=>aSl q1 fun z2 xn_1 xc_1=>some (.tuple ⟨[.slice z2 xn_1 xc_1,iI 0]⟩,w1))))):=kR
def J6:Cuts:=⟨0,[(6,[0,1,2,10,11]),(9,[0,1,2,10,11,44,45,46]),(12,[0,1,2,10,11,12,13,44,45,46,52,53,54]),(22,[1,2,10,19,85,86,87]),(25,[1,2,10,19,20,85,86,87,93,94,95])],[],[]⟩
def M4:List Item:=A4 Try.f47
def Af3:List Item:=stk [0,1,0,1,0,1,0,0,1,4,5] M4
def P4:List Item:=stk [0,1,0,1,0,1,0,0,1,4,5,6,0,1,4,0,1,0,1,4,5] M4
def P1:List Item:=stk [0,1,0,1,0,1,0,1,0,1,0,0,1,4,5] M4
def P6:List Item:=stk [0,1,0,1,0,1,0,0,1,4,5,6,0,1,4,0,1,0,1,4,5,6,0,1,0,1,0,4,0,1,0,1,4,5] M4
def O8:List Item:=stk [0,1,0,1,0,1,0,1,0,1,0,0,1,4,5,6,0,1,0,1,0,4,0,1,0,1,4,5] M4
theorem Bl8 :
 xQ J6 C R A1 Try.f47 M4 [(0,.pointer s),(1,iI env),(2,iI name)] h =
 bnd (C U2 [.pointer s,iI env,iI name] h) fun r w=>as2 r fun q1 q2=>aAgg q1 fun x=>aInt .i64 q2 fun z1=>nw (.cells R7 false [iI 0,iI 0,iI 0,iI 0,iI 0,iI 0]) w fun b w1=>ck (List.length x=6) (pAgg ⟨b,0,none⟩ x w1 fun w2=>cond (z1 != 0)
 (some (.tuple ⟨[.slice none 0 0,iI z1]⟩,w2))
 (nw (.map [] 0) w2 fun p1 w3=>mapAt w3 p1 fun es cl=>opt (Dj4 (.agg ⟨[iI env,iI name]⟩) (iI 1) es cl) fun m=>lt (H.set w3 p1 m) fun w4=>R A1 Af3 [(0,.pointer s),(1,iI env),(2,iI name),(10,.map (some p1)),(11,.bool true)] w4)):=kR
theorem As7 :
 xQ J6 C R A1 Try.f47 Af3 [(0,.pointer s),(1,iI env),(2,iI name),(10,.map of),(11,.bool grown)] h =
 cond grown
 (aSome s fun p=>gSl (add p 0) h fun x xn xc=>R A1 P4 [(0,.pointer s),(1,iI env),(2,iI name),(10,.map of),(11,.bool false),(44,.slice x xn xc),(45,iI (xn:Int)),(46,iI 0)] h)
 (aSome s fun p_1=>gSl (add p_1 0) h fun z1 xn_1 xc_1=>R A1 P1 [(1,iI env),(2,iI name),(10,.map of),(19,.slice none 0 0),(85,.slice z1 xn_1 xc_1),(86,iI (xn_1:Int)),(87,iI 0)] h):=kR
theorem At2 :
 xQ J6 C R A1 Try.f47 P4 [(0,.pointer s),(1,iI env),(2,iI name),(10,.map of),(11,.bool grown),(44,.slice x44 x44n x44c),(45,iI x45),(46,iI x46)] h =
 cond (decide (x46<x45))
 (aSome x44 fun p=>ck ((0:Int)≤x46∧x46<(x44n:Int)) (gPtr (add (A9 p) (Int.toNat x46*1)) h fun x=>bnd (C D1 [.pointer x] h) fun r w=>aSl r fun z1 xn xc=>R A1 P6 [(0,.pointer s),(1,iI env),(2,iI name),(10,.map of),(11,.bool grown),(12,iI x46),(13,.pointer x),(44,.slice x44 x44n x44c),(45,iI x45),(46,iI x46),(52,.slice z1 xn xc),(53,iI (xn:Int)),(54,iI 0)] w))
 (R A1 Af3 [(0,.pointer s),(1,iI env),(2,iI name),(10,.map of),(11,.bool grown)] h):=kR
theorem At0 :
 xQ J6 C R A1 Try.f47 P1 [(1,iI env),(2,iI name),(10,.map of),(19,.slice out outn outc),(85,.slice x85 x85n x85c),(86,iI x86),(87,iI x87)] h =
 cond (decide (x87<x86))
 (aSome x85 fun p=>ck ((0:Int)≤x87∧x87<(x85n:Int)) (gPtr (add (A9 p) (Int.toNat x87*1)) h fun x=>bnd (C D1 [.pointer x] h) fun r w=>aSl r fun z1 xn xc=>R A1 O8 [(1,iI env),(2,iI name),(10,.map of),(19,.slice out outn outc),(20,iI x87),(85,.slice x85 x85n x85c),(86,iI x86),(87,iI x87),(93,.slice z1 xn xc),(94,iI (xn:Int)),(95,iI 0)] w))
 (bnd (C I8 [.slice out outn outc,.func (.func Bg4) ⟨[]⟩ ⟨[]⟩] h) fun q1 w1=>as0 q1 (some (.tuple ⟨[.slice out outn outc,iI 0]⟩,w1))):=kR
theorem As8 (x52:Option Addr) (x52n x52c:Nat) (x53:Int) (x54:Int) :
 xQ J6 C R A1 Try.f47 P6 [(0,.pointer s),(1,iI env),(2,iI name),(10,.map of),(11,.bool grown),(12,iI i),(13,.pointer t),(44,.slice x44 x44n x44c),(45,iI x45),(46,iI x46),(52,.slice x52 x52n x52c),(53,iI x53),(54,iI x54)] h =
 cond (decide (x54<x53))
 (aSome x52 fun p=>ck ((0:Int)≤x54∧x54<(x52n:Int)) (gInt .i64 (add (A9 p) (Int.toNat x54*1)) h fun x=>bnd (C M0 [.pointer t,iI x] h) fun r w=>as2 r fun q1 q2=>aAgg q1 fun z1=>aBool q2 fun _=>nw (.cells R7 false [iI 0,iI 0,iI 0,iI 0,iI 0,iI 0]) w fun b w1=>ck (List.length z1=6) (pAgg ⟨b,0,none⟩ z1 w1 fun w2=>nw (.cells P3 false [iI 0,iI 0]) w2 fun p1 w3=>pAgg ⟨p1,0,none⟩ [iI i,iI x] w3 fun w4=>gAgg ⟨p1,0,none⟩ 2 w4 fun z3=>keyN PR P3 (.agg ⟨z3⟩) (opt of fun q3=>mapAt w4 q3 fun es _=>opt (A38 (iI 0) (.agg ⟨z3⟩) es) fun f=>aInt .i64 f.1 fun z4=>bnd (cond (z4==0) (gAgg ⟨b,4,none⟩ 2 w4 fun z5=>keyN PR P3 (.agg ⟨z5⟩) (opt of fun q4=>mapAt w4 q4 fun es_1 _=>opt (A38 (iI 0) (.agg ⟨z5⟩) es_1) fun f_1=>aInt .i64 f_1.1 fun z6=>some (decide (z6>0),w4))) (some (false,w4))) fun c w5=>cond c
 (gAgg ⟨p1,0,none⟩ 2 w5 fun z7=>keyN PR P3 (.agg ⟨z7⟩) (opt of fun q5=>mapAt w5 q5 fun es_2 cl_2=>opt (Dj4 (.agg ⟨z7⟩) (iI 1) es_2 cl_2) fun m=>lt (H.set w5 q5 m) fun w6=>R A1 P6 [(0,.pointer s),(1,iI env),(2,iI name),(10,.map of),(11,.bool true),(12,iI i),(13,.pointer t),(44,.slice x44 x44n x44c),(45,iI x45),(46,iI x46),(52,.slice x52 x52n x52c),(53,iI x53),(54,iI (wrap .i64 (x54+1)))] w6))
 (R A1 P6 [(0,.pointer s),(1,iI env),(2,iI name),(10,.map of),(11,.bool grown),(12,iI i),(13,.pointer t),(44,.slice x44 x44n x44c),(45,iI x45),(46,iI x46),(52,.slice x52 x52n x52c),(53,iI x53),(54,iI (wrap .i64 (x54+1)))] w5)))))
 (R A1 P4 [(0,.pointer s),(1,iI env),(2,iI name),(10,.map of),(11,.bool grown),(44,.slice x44 x44n x44c),(45,iI x45),(46,iI (wrap .i64 (x46+1)))] h):=kR
theorem As6 (x93:Option Addr) (x93n x93c:Nat) (x94:Int) (x95:Int) :
 xQ J6 C R A1 Try.f47 O8 [(1,iI env),(2,iI name),(10,.map of),(19,.slice out outn outc),(20,iI i),(85,.slice x85 x85n x85c),(86,iI x86),(87,iI x87),(93,.slice x93 x93n x93c),(94,iI x94),(95,iI x95)] h =
 cond (decide (x95<x94))
 (aSome x93 fun p=>ck ((0:Int)≤x95∧x95<(x93n:Int)) (gInt .i64 (add (A9 p) (Int.toNat x95*1)) h fun x=>nw (.cells P3 false [iI 0,iI 0]) h fun b w=>pAgg ⟨b,0,none⟩ [iI i,iI x] w fun w1=>gAgg ⟨b,0,none⟩ 2 w1 fun z1=>keyN PR P3 (.agg ⟨z1⟩) (opt of fun r=>mapAt w1 r fun es _=>opt (A38 (iI 0) (.agg ⟨z1⟩) es) fun f=>aInt .i64 f.1 fun z2=>bnd (cond (decide (z2>0)) (bnd (cond (i != env) (some (true,w1)) (some (x != name,w1))) fun c w2=>some (c,w2)) (some (false,w1))) fun c_1 w3=>cond c_1
 (gAgg ⟨b,0,none⟩ 2 w3 fun z3=>ck (List.length z3=2) (nw (.cells P3 false (z3++[])) w3 fun p1 w4=>gCells (some ⟨p1,0,none⟩) (1*2) w4 fun cs=>ckB (fitsOpen out P3 w4) (apd P3 2 out outn outc 1 cs w4 fun a an ac w5=>R A1 O8 [(1,iI env),(2,iI name),(10,.map of),(19,.slice a an ac),(20,iI i),(85,.slice x85 x85n x85c),(86,iI x86),(87,iI x87),(93,.slice x93 x93n x93c),(94,iI x94),(95,iI (wrap .i64 (x95+1)))] w5)))
 (R A1 O8 [(1,iI env),(2,iI name),(10,.map of),(19,.slice out outn outc),(20,iI i),(85,.slice x85 x85n x85c),(86,iI x86),(87,iI x87),(93,.slice x93 x93n x93c),(94,iI x94),(95,iI (wrap .i64 (x95+1)))] w3))))
 (R A1 P1 [(1,iI env),(2,iI name),(10,.map of),(19,.slice out outn outc),(85,.slice x85 x85n x85c),(86,iI x86),(87,iI (wrap .i64 (x87+1)))] h):=kR
def W6:Cuts:=⟨0,[],[],[]⟩
def Ai6:List Item:=A4 Try.f48
theorem A12 :
 xQ W6 C R K0 Try.f48 Ai6 [(0,.pointer t),(1,iI name)] h =
 bnd (C M5 [.pointer t,iI name] h) fun r w=>aPtr r fun x=>cond x.isNone
 (some (.bool false,w))
 (aSome x fun p=>gInt .i64 (add p 6) w fun z1=>aSome x fun p_1=>pAgg p_1 [iI 0,iI 0,iI 0,iI 0,iI 0,iI 0,iI (wrap .i64 (z1+1)),.bool false] w fun w1=>some (.bool true,w1)):=kR
def Al5:Cuts:=⟨0,[],[],[]⟩
def A02:List Item:=A4 Try.f50
theorem Bp4 (s:Int) (k:Int) :
 xQ Al5 C R Ad2 Try.f50 A02 [(0,.pointer q),(1,iI s),(2,iI k)] h =
 bnd (C S8 [.pointer q,iI s] h) fun r w=>aBool r fun x=>bnd (cond x (some (decide (k≥0),w)) (some (false,w))) fun c w1=>bnd (cond c (aSome q fun p=>gSl (add p 0) w1 fun z1 xn _=>aSome z1 fun p_1=>ck ((0:Int)≤s∧s<(xn:Int)) (gSl (add (A9 p_1) (Int.toNat s*1)) w1 fun _ xn_1 _=>some (decide (k<(xn_1:Int)),w1))) (some (false,w1))) fun c_1 w2=>bnd (cond c_1 (aSome q fun p_2=>gSl (add p_2 0) w2 fun z3 xn_2 _=>aSome z3 fun p_3=>ck ((0:Int)≤s∧s<(xn_2:Int)) (gSl (add (A9 p_3) (Int.toNat s*1)) w2 fun z4 xn_3 _=>aSome z4 fun p_4=>ck ((0:Int)≤k∧k<(xn_3:Int)) (gInt .i64 (add (A9 p_4) (Int.toNat k*1)) w2 fun z5=>some (decide (z5>0),w2)))) (some (false,w2))) fun c_2 w3=>some (.bool c_2,w3):=kR
def As3:Cuts:=⟨0,[],[],[(1,⟨[0,1,2,3,4,5,6,7,8,9,10,11,12,13,14,15,16,17,18,19,20,21,22,23,24,25,26,27,28],[0,1,3,7,7,23,55,119,247,511,1023,2047,4095,8191,16383,32767,4095,131071,262143,4095,528383,1576959,3674111,4095,16257023,33034239,67108863,134217727,268435455],[],[]⟩)]⟩
def A54:List Item:=A4 Try.f51
theorem Bz0 :
 xQ As3 C R Y9 Try.f51 A54 [(0,.pointer k),(1,iI env),(2,iI n)] h =
 bnd (cond (decide (n<0)) (some (true,h)) (aSome k fun p=>gSl (add p 6) h fun _ xn _=>some (decide (n≥(xn:Int)),h))) fun c w=>bnd (cond c (some (true,w)) (aSome k fun p_1=>gSl (add p_1 1) w fun z1 xn_1 _=>aSome z1 fun p_2=>ck ((0:Int)≤n∧n<(xn_1:Int)) (gSl (add (A9 p_2) (Int.toNat n*1)) w fun z2 xn_2 xc_2=>aSome k fun p_3=>gSl (add p_3 0) w fun z3 xn_3 _=>aSome z3 fun p_4=>ck ((0:Int)≤env∧env<(xn_3:Int)) (gInt .i64 (add (A9 p_4) (Int.toNat env*1)) w fun z4=>bnd (C H5 [.slice z2 xn_2 xc_2,iI z4] w) fun r w1=>aBool r fun z5=>some (!z5,w1))))) fun c_1 w2=>cond c_1
 (some (.tuple ⟨[.pointer none,iI 8]⟩,w2))
 (aSome k fun p_5=>gSl (add p_5 6) w2 fun z6 xn_4 _=>aSome z6 fun p_6=>ck ((0:Int)≤n∧n<(xn_4:Int)) (gPtr (add (A9 p_6) (Int.toNat n*1)) w2 fun z7=>some (.tuple ⟨[.pointer z7,iI 0]⟩,w2))):=kR
def L7:Cuts:=⟨0,[(18,[0,1,2])],[(10,[0,1,2]),(11,[0,1,2]),(14,[0,1,2]),(17,[])],[(11,⟨[0,1,2,3,4,5,6,7,8,9,10,11,12,13,14,15,16],[0,1,3,7,15,31,31,95,223,479,1023,31,2079,6175,14367,32767,65535],[],[]⟩),(18,⟨[0,1,2,3,4,5,6,7,8,9,10,11,12,13,14,15,16,17,18,19,20],[0,1,3,7,15,31,0,127,255,511,511,1535,3583,7679,16383,511,33279,98815,229887,524287,1048575],[],[]⟩)]⟩
def N2:List Item:=A4 Try.f52
def Y1:List Item:=stk [0,1,0,1,0,1,0,1,0,1,0,0,1,2,0,1] N2
def Y2:List Item:=stk [0,1,0,1,0,1,0,1,0,1,0,1,0,0] N2
def X4:List Item:=stk [0,1,0,1,0,1,0,1,0,1,0,1,0,1,0,0] N2
def X6:List Item:=stk [0,1,0,1,0,1,0,1,0,1,0,1,0,1,0,0,1,2,0,1,0] N2
def Q9:List Item:=stk [0,1,0,1,0,1,0,1,0,1,0,1,0,1,0,1,0,4,5] N2
theorem Bs7 :
 xQ L7 C R A3 Try.f52 N2 [(0,.pointer s),(1,iI who),(2,iI now)] h =
 aSome s fun p=>gInt .i64 (add p 7) h fun x=>bnd (cond (decide (who<0)) (some (true,h)) (some (decide (who>99),h))) fun c w=>cond c
 (some (.tuple ⟨[iI 0,.bool false]⟩,w))
 (aSome s fun p_1=>pV (add p_1 7) (iI (mm2 true now x)) w fun w1=>aSome s fun p_2=>gBool (add p_2 1) w1 fun z1=>bnd (cond z1 (aSome s fun p_3=>gInt .i64 (add p_3 2) w1 fun z2=>some (z2==who,w1)) (some (false,w1))) fun c_1 w2=>cond c_1
 (aSome s fun p_4=>gInt .i64 (add p_4 3) w2 fun z3=>some (.tuple ⟨[iI z3,.bool true]⟩,w2))
 (aSome s fun p_5=>gSl (add p_5 5) w2 fun z4 xn xc=>bnd (C H5 [.slice z4 xn xc,iI who] w2) fun r w3=>aBool r fun z5=>cond (!z5)
 (aSome s fun p_6=>gSl (add p_6 5) w3 fun _ xn_1 _=>cond ((xn_1:Int)==0)
 (aSome s fun p_7=>pV (add p_7 6) (iI (mm2 true now x)) w3 fun w4=>R A3 Y1 [(0,.pointer s),(1,iI who),(2,iI (mm2 true now x))] w4)
 (R A3 Y1 [(0,.pointer s),(1,iI who),(2,iI (mm2 true now x))] w3))
 (R A3 Y2 [(0,.pointer s),(1,iI who),(2,iI (mm2 true now x))] w3))):=kR
theorem Bg5 :
 xQ L7 C R A3 Try.f52 Y1 [(0,.pointer s),(1,iI who),(2,iI now)] h =
 aSome s fun p=>gSl (add p 5) h fun x xn xc=>nw (.cells D0 false [iI who]) h fun b w=>gCells (some ⟨b,0,none⟩) (1*1) w fun cs=>ckB (fitsOpen x D0 w) (apd D0 1 x xn xc 1 cs w fun a an ac w1=>aSome s fun p_1=>pV (add p_1 5) (.slice a an ac) w1 fun w2=>R A3 Y2 [(0,.pointer s),(1,iI who),(2,iI now)] w2):=kR
theorem Bh4 :
 xQ L7 C R A3 Try.f52 Y2 [(0,.pointer s),(1,iI who),(2,iI now)] h =
 aSome s fun p=>gBool (add p 1) h fun x=>bnd (cond x (aSome s fun p_1=>gInt .i64 (add p_1 4) h fun z1=>aSome s fun p_2=>gInt .i64 (add p_2 0) h fun z2=>some (decide ((wrap .i64 (now-z1))≥z2),h)) (some (false,h))) fun c w=>cond c
 (aSome s fun p_3=>pV (add p_3 1) (.bool false) w fun w1=>aSome s fun p_4=>pV (add p_4 6) (iI now) w1 fun w2=>R A3 X4 [(0,.pointer s),(1,iI who),(2,iI now)] w2)
 (R A3 X4 [(0,.pointer s),(1,iI who),(2,iI now)] w):=kR
theorem Bi6 :
 xQ L7 C R A3 Try.f52 X4 [(0,.pointer s),(1,iI who),(2,iI now)] h =
 aSome s fun p=>gBool (add p 1) h fun x=>cond x
 (aSome s fun p_1=>gSl (add p_1 5) h fun z1 xn _=>aSome z1 fun p_2=>ck ((0:Int)≤0∧0<(xn:Int)) (gInt .i64 (add (A9 p_2) (Int.toNat 0*1)) h fun z2=>cond (z2==who)
 (aSome s fun p_3=>pV (add p_3 6) (iI now) h fun w=>R A3 X6 [] w)
 (R A3 X6 [] h)))
 (R A3 Q9 [(0,.pointer s),(1,iI who),(2,iI now)] h):=kR
theorem Bi2 :
 xQ L7 C R A3 Try.f52 X6 [] h =
 some (.tuple ⟨[iI 0,.bool false]⟩,h):=kR
theorem Au6 :
 xQ L7 C R A3 Try.f52 Q9 [(0,.pointer s),(1,iI who),(2,iI now)] h =
 aSome s fun p=>gSl (add p 5) h fun x xn _=>aSome x fun p_1=>ck ((0:Int)≤0∧0<(xn:Int)) (gInt .i64 (add (A9 p_1) (Int.toNat 0*1)) h fun z1=>bnd (cond (z1 != who) (aSome s fun p_2=>gInt .i64 (add p_2 6) h fun z2=>aSome s fun p_3=>gInt .i64 (add p_3 0) h fun z3=>some (decide ((wrap .i64 (now-z2))≥z3),h)) (some (false,h))) fun c w=>cond c
 (aSome s fun p_4=>gSl (add p_4 5) w fun z4 xn_1 xc_1=>ckB (fitsOpen z4 D0 w) (ck ((0:Int)≤1∧1≤(xn_1:Int)) (aSome s fun p_5=>pV (add p_5 5) (.slice (M2 z4 (decide (Int.toNat 1<xc_1)) ((Int.toNat 1)*1)) (xn_1-(Int.toNat 1)) (xc_1-(Int.toNat 1))) w fun w1=>aSome s fun p_6=>pV (add p_6 6) (iI now) w1 fun w2=>R A3 Q9 [(0,.pointer s),(1,iI who),(2,iI now)] w2)))
 (aSome s fun p_7=>gSl (add p_7 5) w fun z5 xn_2 _=>aSome z5 fun p_8=>ck ((0:Int)≤0∧0<(xn_2:Int)) (gInt .i64 (add (A9 p_8) (Int.toNat 0*1)) w fun z6=>cond (z6 != who)
 (some (.tuple ⟨[iI 0,.bool false]⟩,w))
 (aSome s fun p_9=>gSl (add p_9 5) w fun z7 xn_3 xc_3=>ckB (fitsOpen z7 D0 w) (ck ((0:Int)≤1∧1≤(xn_3:Int)) (aSome s fun p_10=>pV (add p_10 5) (.slice (M2 z7 (decide (Int.toNat 1<xc_3)) ((Int.toNat 1)*1)) (xn_3-(Int.toNat 1)) (xc_3-(Int.toNat 1))) w fun w3=>aSome s fun p_11=>pV (add p_11 6) (iI now) w3 fun w4=>aSome s fun p_12=>gInt .i64 (add p_12 8) w4 fun z8=>aSome s fun p_13=>pV (add p_13 8) (iI (wrap .i64 (z8+1))) w4 fun w5=>aSome s fun p_14=>gInt .i64 (add p_14 8) w5 fun z9=>aSome s fun p_15=>pV (add p_15 1) (.bool true) w5 fun w6=>aSome s fun p_16=>pV (add p_16 2) (iI who) w6 fun w7=>aSome s fun p_17=>pV (add p_17 3) (iI z9) w7 fun w8=>aSome s fun p_18=>pV (add p_18 4) (iI now) w8 fun w9=>aSome s fun p_19=>gInt .i64 (add p_19 3) w9 fun z10=>some (.tuple ⟨[iI z10,.bool true]⟩,w9))))))):=kR
def W7:Cuts:=⟨0,[],[],[]⟩
def Ai3:List Item:=A4 Try.f56
theorem A13 :
 xQ W7 C R O4 Try.f56 Ai3 [(0,.slice s sn sc)] h =
 cond s.isNone
 (some (.slice none 0 0,h))
 (nw (.cells A5 false []) h fun b w=>gCells s (sn*1) w fun cs=>ckB (fitsOpen (some ⟨b,0,none⟩) A5 w) (apd A5 1 (some ⟨b,0,none⟩) 0 0 sn cs w fun a an ac w1=>some (.slice a an ac,w1))):=kR
def I0:Cuts:=⟨0,[(1,[0,1,2,3,8]),(4,[0,1,2,3,8,9])],[],[(4,⟨[0,1,2,3,4,5,6,7,8,9,10,11,12,13,14,15,16],[0,0,3,7,15,15,15,111,239,15,15,1039,3599,7695,16383,32767,65535],[],[]⟩),(6,⟨[0,1,2,3,4,5,6,7,8,9,10,11,12,13,14,15,16,17],[0,0,0,0,8,0,0,64,224,480,0,0,3072,7168,16355,32739,65535,131071],[],[]⟩)]⟩
def H9:List Item:=A4 Try.f65
def R4:List Item:=stk [0,1,4,5] H9
def Ag2:List Item:=stk [0,1,4,5,6,0,1,0,4,0,1,4,5] H9
theorem Ak7 :
 xQ I0 C R D2 Try.f65 H9 [(0,.slice data datan datac),(1,iI a),(2,iI b),(3,cmp)] h =
 R D2 R4 [(0,.slice data datan datac),(1,iI a),(2,iI b),(3,cmp),(8,iI (wrap .i64 (a+1)))] h:=kR
theorem Ah5 :
 xQ I0 C R D2 Try.f65 R4 [(0,.slice data datan datac),(1,iI a),(2,iI b),(3,cmp),(8,iI i)] h =
 cond (decide (i<b))
 (R D2 Ag2 [(0,.slice data datan datac),(1,iI a),(2,iI b),(3,cmp),(8,iI i),(9,iI i)] h)
 (some (.tuple ⟨[]⟩,h)):=kR
end
end Go.EQ

set_option maxRecDepth 100000
namespace Go.EQ
open Go Go.NN Go.Proofs
open Go.IntKind (wrap)
open Go.Addr (add)
variable (C:A6) (R:N7) (k nonev swaps:Addr) (wasBalanced wasPartitioned:Bool) (h:H) (a b env j length limit n name pivot x21 x22 x90 x91:Int) (c:List Value) (datac datan x20c x20n x89c x89n:Nat) (data s t x20 x89:Option Addr) (cmp:Value)
noncomputable section
def Ag7:Cuts:=⟨0,[(5,[1,4,20,21,22]),(12,[1,7,58,59,60]),(18,[7,89,90,91]),(22,[7,11,12,89,90,91,122,123,124])],[],[(9,⟨[0,1,3,5,6,7,9,10,2,4,8,11,12,13,14],[0,1,3,0,15,0,32,96,255,0,512,2047,4095,8191,16383],[(2,[6,10]),(4,[6,10]),(8,[10])],[]⟩),(10,⟨[0,1,2,3,4,5,6,7,8,9,10,11,12],[0,0,2,6,14,0,32,96,224,510,1023,2047,4095],[],[]⟩),(14,⟨[0,1,2,3,4,5,6,7,8,9,10,11],[0,0,2,6,14,0,32,96,254,511,1023,2047],[(6,[4])],[]⟩),(15,⟨[0,1,2,3,4,5,6,7,8,9,10,11,12],[0,0,2,6,14,0,32,96,224,510,1023,2047,4095],[(7,[4])],[]⟩),(20,⟨[0,1,2,3,4,5,6,7,8,9,11,12,15,16,18,19,10,13,14,17,20,21,22,23,24,25],[0,1,3,7,0,16,48,112,0,256,1008,0,2048,8176,16368,0,32768,131056,0,262144,1048575,2097151,4194303,4194303,8388607,33554431],[(10,[3,12,16,19])],[]⟩),(25,⟨[0,1,2,3,4,5,6,7,8,9],[0,1,3,7,0,0,0,64,224,511],[],[]⟩)]⟩
def Am9:List Item:=A4 Try.f4
def Aq3:List Item:=stk [0,1,0,1,0,1,0,0,1,4,5] Am9
def Aq2:List Item:=stk [0,1,0,1,0,1,0,1,0,1,0,1,0,0,1,4,5] Am9
def Ai7:List Item:=stk [0,1,0,1,0,1,0,1,0,1,0,1,0,1,0,0,1,4,5] Am9
def Ah9:List Item:=stk [0,1,0,1,0,1,0,1,0,1,0,1,0,1,0,0,1,4,5,6,0,1,0,1,0,4,0,1,0,1,0,1,4,5] Am9
theorem Dr4 :
 xQ Ag7 C R E2 Try.f4 Am9 [(0,.agg ⟨c⟩)] h =
 nw (.cells J4 false c) h fun b w=>gAgg ⟨b,0,none⟩ 5 w fun x=>bnd (C J8 [.agg ⟨x⟩] w) fun r w1=>aBool r fun z1=>cond (!z1)
 (some (.tuple ⟨[.pointer none,iI 1]⟩,w1))
 (gSl ⟨b,0,none⟩ w1 fun z2 xn xc=>R E2 Aq3 [(1,pP b),(4,iI 0),(20,.slice z2 xn xc),(21,iI (xn:Int)),(22,iI 0)] w1):=kR
theorem Bj9 (c:Addr) (all:Int) :
 xQ Ag7 C R E2 Try.f4 Aq3 [(1,.pointer (some c)),(4,iI all),(20,.slice x20 x20n x20c),(21,iI x21),(22,iI x22)] h =
 cond (decide (x22<x21))
 (aSome x20 fun p=>ck ((0:Int)≤x22∧x22<(x20n:Int)) (gInt .i64 (add (A9 p) (Int.toNat x22*1)) h fun x=>bnd (C Ai0 [iI x] h) fun r w=>aInt .i64 r fun z1=>R E2 Aq3 [(1,.pointer (some c)),(4,iI (wrap .i64 (all+z1))),(20,.slice x20 x20n x20c),(21,iI x21),(22,iI (wrap .i64 (x22+1)))] w))
 (gSl (add c 1) h fun z2 xn xc=>gSl (add c 1) h fun z3 xn_1 xc_1=>gSl (add c 0) h fun z4 xn_2 xc_2=>bnd (C M3 [.slice z2 xn xc] h) fun q1 w1=>aSl q1 fun z5 xn_3 xc_3=>gSl (add c 1) w1 fun z6 xn_4 xc_4=>same (.slice z3 xn_1 xc_1) (.slice z6 xn_4 xc_4) (gSl (add c 0) w1 fun z7 xn_5 xc_5=>same (.slice z4 xn_2 xc_2) (.slice z7 xn_5 xc_5) (bnd (C A85 [iI all] w1) fun q2 w2=>aPtr q2 fun z8=>gSl (add c 1) w2 fun z9 xn_6 xc_6=>same (.slice z3 xn_1 xc_1) (.slice z9 xn_6 xc_6) (gSl (add c 0) w2 fun z10 xn_7 xc_7=>same (.slice z4 xn_2 xc_2) (.slice z10 xn_7 xc_7) (bnd (C Ac9 [iI (xn_1:Int)] w2) fun q3 w3=>aPtr q3 fun z11=>gSl (add c 0) w3 fun z12 xn_8 xc_8=>same (.slice z4 xn_2 xc_2) (.slice z12 xn_8 xc_8) (bnd (C Y6 [.slice z4 xn_2 xc_2] w3) fun q4 w4=>aPtr q4 fun z13=>nw (.cells Bu1 false [.slice z5 xn_3 xc_3,.slice none 0 0,.pointer z8,.pointer z11,.pointer z13,.pointer none,.slice none 0 0,iI 0]) w4 fun b w5=>gPtr ⟨b,2,none⟩ w5 fun z14=>gPtr ⟨b,3,none⟩ w5 fun z15=>bnd (C Aw4 [.pointer z14,.pointer z15] w5) fun q5 w6=>aPtr q5 fun z16=>pV ⟨b,5,none⟩ (.pointer z16) w6 fun w7=>gSl (add c 2) w7 fun z17 xn_9 xc_9=>R E2 Aq2 [(1,.pointer (some c)),(7,pP b),(58,.slice z17 xn_9 xc_9),(59,iI (xn_9:Int)),(60,iI 0)] w7)))))):=kR
theorem Bi9 (c:Addr) (x58:Option Addr) (x58n x58c:Nat) (x59:Int) (x60:Int) :
 xQ Ag7 C R E2 Try.f4 Aq2 [(1,.pointer (some c)),(7,.pointer (some k)),(58,.slice x58 x58n x58c),(59,iI x59),(60,iI x60)] h =
 cond (decide (x60<x59))
 (aSome x58 fun p=>ck ((0:Int)≤x60∧x60<(x58n:Int)) (gSl (add (A9 p) (Int.toNat x60*1)) h fun x xn xc=>gSl (add k 1) h fun z1 xn_1 xc_1=>bnd (C M3 [.slice x xn xc] h) fun r w=>aSl r fun z2 xn_2 xc_2=>gSl (add k 1) w fun z3 xn_3 xc_3=>same (.slice z1 xn_1 xc_1) (.slice z3 xn_3 xc_3) (nw (.cells M8 false [.slice z2 xn_2 xc_2]) w fun b w1=>gCells (some ⟨b,0,none⟩) (1*1) w1 fun cs=>ckB (fitsOpen z1 M8 w1) (apd M8 1 z1 xn_1 xc_1 1 cs w1 fun a an ac w2=>pV (add k 1) (.slice a an ac) w2 fun w3=>gSl (add k 6) w3 fun z4 xn_4 xc_4=>gInt .i64 (add c 3) w3 fun z5=>bnd (C A24 [iI z5] w3) fun q1 w4=>aPtr q1 fun z6=>gSl (add k 6) w4 fun z7 xn_5 xc_5=>same (.slice z4 xn_4 xc_4) (.slice z7 xn_5 xc_5) (nw (.cells Ab3 false [.pointer z6]) w4 fun p1 w5=>gCells (some ⟨p1,0,none⟩) (1*1) w5 fun cs_1=>ckB (fitsOpen z4 Ab3 w5) (apd Ab3 1 z4 xn_4 xc_4 1 cs_1 w5 fun a_1 an_1 ac_1 w6=>pV (add k 6) (.slice a_1 an_1 ac_1) w6 fun w7=>R E2 Aq2 [(1,.pointer (some c)),(7,.pointer (some k)),(58,.slice x58 x58n x58c),(59,iI x59),(60,iI (wrap .i64 (x60+1)))] w7))))))
 (gSl (add c 4) h fun z8 xn_6 xc_6=>R E2 Ai7 [(7,.pointer (some k)),(89,.slice z8 xn_6 xc_6),(90,iI (xn_6:Int)),(91,iI 0)] h):=kR
theorem Bj2 :
 xQ Ag7 C R E2 Try.f4 Ai7 [(7,.pointer (some k)),(89,.slice x89 x89n x89c),(90,iI x90),(91,iI x91)] h =
 cond (decide (x91<x90))
 (aSome x89 fun p=>ck ((0:Int)≤x91∧x91<(x89n:Int)) (gAgg (add (A9 p) (Int.toNat x91*5)) 5 h fun x=>nw (.cells O1 false [iI 0,iI 0,iI 0,iI 0,.slice none 0 0]) h fun b w=>ck (List.length x=5) (pAgg ⟨b,0,none⟩ x w fun w1=>gPtr (add k 5) w1 fun z1=>gPtr (add k 4) w1 fun z2=>gInt .i64 ⟨b,0,none⟩ w1 fun z3=>gInt .i64 ⟨b,1,none⟩ w1 fun z4=>gInt .i64 ⟨b,2,none⟩ w1 fun z5=>gInt .i64 ⟨b,3,none⟩ w1 fun z6=>bnd (C J3 [.pointer z2,iI z3] w1) fun r w2=>aInt .i64 r fun z7=>gPtr (add k 5) w2 fun z8=>same (.pointer z1) (.pointer z8) (gInt .i64 ⟨b,1,none⟩ w2 fun z9=>same (iI z4) (iI z9) (gInt .i64 ⟨b,2,none⟩ w2 fun z10=>same (iI z5) (iI z10) (gInt .i64 ⟨b,3,none⟩ w2 fun z11=>same (iI z6) (iI z11) (bnd (C X9 [.pointer z1,iI (wrap .i64 ((wrap .i64 ((wrap .i64 (z7+z4))*64))+z5)),iI z6] w2) fun q1 w3=>as2 q1 fun q2 q3=>aInt .i64 q2 fun z12=>aInt .i64 q3 fun _=>gSl (add k 0) w3 fun z14 xn xc=>R E2 Ah9 [(7,.pointer (some k)),(11,pP b),(12,iI z12),(89,.slice x89 x89n x89c),(90,iI x90),(91,iI x91),(122,.slice z14 xn xc),(123,iI (xn:Int)),(124,iI 0)] w3)))))))
 (some (.tuple ⟨[.pointer (some k),iI 0]⟩,h)):=kR
theorem Bj4 (x:Addr) (obj:Int) (x122:Option Addr) (x122n x122c:Nat) (x123:Int) (x124:Int) :
 xQ Ag7 C R E2 Try.f4 Ah9 [(7,.pointer (some k)),(11,.pointer (some x)),(12,iI obj),(89,.slice x89 x89n x89c),(90,iI x90),(91,iI x91),(122,.slice x122 x122n x122c),(123,iI x123),(124,iI x124)] h =
 cond (decide (x124<x123))
 (aSome x122 fun p=>ck ((0:Int)≤x124∧x124<(x122n:Int)) (gInt .i64 (add (A9 p) (Int.toNat x124*1)) h fun z1=>gSl (add x 4) h fun z2 xn xc=>bnd (C H5 [.slice z2 xn xc,iI z1] h) fun r w=>aBool r fun z3=>cond z3
 (gPtr (add k 3) w fun z4=>gInt .i64 (add x 3) w fun z5=>bnd (C Ah3 [.pointer z4,iI x124,.agg ⟨[iI obj,iI 3,iI 0,iI z5,iI 0,iI 0]⟩] w) fun q1 w1=>as2 q1 fun q2 q3=>aInt .i64 q2 fun _=>aInt .i64 q3 fun _=>R E2 Ah9 [(7,.pointer (some k)),(11,.pointer (some x)),(12,iI obj),(89,.slice x89 x89n x89c),(90,iI x90),(91,iI x91),(122,.slice x122 x122n x122c),(123,iI x123),(124,iI (wrap .i64 (x124+1)))] w1)
 (R E2 Ah9 [(7,.pointer (some k)),(11,.pointer (some x)),(12,iI obj),(89,.slice x89 x89n x89c),(90,iI x90),(91,iI x91),(122,.slice x122 x122n x122c),(123,iI x123),(124,iI (wrap .i64 (x124+1)))] w)))
 (R E2 Ai7 [(7,.pointer (some k)),(89,.slice x89 x89n x89c),(90,iI x90),(91,iI (wrap .i64 (x91+1)))] h):=kR
def Ar8:Cuts:=⟨0,[],[],[]⟩
def A65:List Item:=A4 Try.f6
theorem Bz4 (k:Option Addr) :
 xQ Ar8 C R Z1 Try.f6 A65 [(0,.pointer k),(1,iI n)] h =
 aSome k fun p=>gInt .i64 (add p 7) h fun x=>aSome k fun p_1=>pV (add p_1 7) (iI (mm2 false (wrap .i64 (x+(mm2 false (mm2 true n 0) 1000))) 1073741824)) h fun w=>aSome k fun p_2=>gInt .i64 (add p_2 7) w fun z1=>some (iI z1,w):=kR
def Am4:Cuts:=⟨0,[(7,[1,3,52,53,54]),(13,[1,3,63,64,65])],[],[]⟩
def Av7:List Item:=A4 Try.f8
def Ak0:List Item:=stk [0,1,0,1,0,1,0,1,0,0,1,4,5] Av7
def Ak1:List Item:=stk [0,1,0,1,0,1,0,1,0,1,0,0,1,4,5] Av7
theorem Dc5 :
 xQ Am4 C R J8 Try.f8 Av7 [(0,.agg ⟨c⟩)] h =
 nw (.cells J4 false c) h fun b w=>gSl ⟨b,0,none⟩ w fun _ xn _=>bnd (cond (decide ((xn:Int)<1)) (some (true,w)) (gSl ⟨b,0,none⟩ w fun _ xn_1 _=>some (decide ((xn_1:Int)>4),w))) fun c_1 w1=>bnd (cond c_1 (some (true,w1)) (gSl ⟨b,1,none⟩ w1 fun _ xn_2 _=>some (decide ((xn_2:Int)>40),w1))) fun c_2 w2=>bnd (cond c_2 (some (true,w2)) (gSl ⟨b,2,none⟩ w2 fun _ xn_3 _=>some (decide ((xn_3:Int)>8),w2))) fun c_3 w3=>bnd (cond c_3 (some (true,w3)) (gSl ⟨b,4,none⟩ w3 fun _ xn_4 _=>some (decide ((xn_4:Int)>16),w3))) fun c_4 w4=>bnd (cond c_4 (some (true,w4)) (gInt .i64 ⟨b,3,none⟩ w4 fun z5=>some (decide (z5<1),w4))) fun c_5 w5=>bnd (cond c_5 (some (true,w5)) (gInt .i64 ⟨b,3,none⟩ w5 fun z6=>some (decide (z6>1000),w5))) fun c_6 w6=>cond c_6
 (some (.bool false,w6))
 (gSl ⟨b,1,none⟩ w6 fun z7 xn_5 xc_5=>bnd (C G2 [.slice z7 xn_5 xc_5,.func (.func E0) ⟨[]⟩ ⟨[pP b]⟩] w6) fun r w7=>aBool r fun z8=>cond z8
 (some (.bool false,w7))
 (gSl ⟨b,2,none⟩ w7 fun z9 xn_6 xc_6=>R J8 Ak0 [(1,pP b),(3,.func (.func E0) ⟨[]⟩ ⟨[pP b]⟩),(52,.slice z9 xn_6 xc_6),(53,iI (xn_6:Int)),(54,iI 0)] w7)):=kR
theorem A89 (c:Addr) (x52:Option Addr) (x52n x52c:Nat) (x53:Int) (x54:Int) :
 xQ Am4 C R J8 Try.f8 Ak0 [(1,.pointer (some c)),(3,.func (.func E0) ⟨[]⟩ ⟨[.pointer (some nonev)]⟩),(52,.slice x52 x52n x52c),(53,iI x53),(54,iI x54)] h =
 cond (decide (x54<x53))
 (aSome x52 fun p=>ck ((0:Int)≤x54∧x54<(x52n:Int)) (gSl (add (A9 p) (Int.toNat x54*1)) h fun x xn xc=>bnd (C G2 [.slice x xn xc,.func (.func E0) ⟨[]⟩ ⟨[.pointer (some nonev)]⟩] h) fun r w=>aBool r fun z1=>cond z1
 (some (.bool false,w))
 (R J8 Ak0 [(1,.pointer (some c)),(3,.func (.func E0) ⟨[]⟩ ⟨[.pointer (some nonev)]⟩),(52,.slice x52 x52n x52c),(53,iI x53),(54,iI (wrap .i64 (x54+1)))] w)))
 (gSl (add c 4) h fun z2 xn_1 xc_1=>R J8 Ak1 [(1,.pointer (some c)),(3,.func (.func E0) ⟨[]⟩ ⟨[.pointer (some nonev)]⟩),(63,.slice z2 xn_1 xc_1),(64,iI (xn_1:Int)),(65,iI 0)] h):=kR
theorem Ba2 (c:Addr) (x63:Option Addr) (x63n x63c:Nat) (x64:Int) (x65:Int) :
 xQ Am4 C R J8 Try.f8 Ak1 [(1,.pointer (some c)),(3,.func (.func E0) ⟨[]⟩ ⟨[.pointer (some nonev)]⟩),(63,.slice x63 x63n x63c),(64,iI x64),(65,iI x65)] h =
 cond (decide (x65<x64))
 (aSome x63 fun p=>ck ((0:Int)≤x65∧x65<(x63n:Int)) (gAgg (add (A9 p) (Int.toNat x65*5)) 5 h fun x=>nw (.cells O1 false [iI 0,iI 0,iI 0,iI 0,.slice none 0 0]) h fun b w=>ck (List.length x=5) (pAgg ⟨b,0,none⟩ x w fun w1=>gAgg c 5 w1 fun z1=>gAgg ⟨b,0,none⟩ 5 w1 fun z2=>bnd (C Au7 [.agg ⟨z1⟩,.agg ⟨z2⟩] w1) fun r w2=>aBool r fun z3=>bnd (cond (!z3) (some (true,w2)) (gSl ⟨b,4,none⟩ w2 fun z4 xn xc=>bnd (C G2 [.slice z4 xn xc,.func (.func E0) ⟨[]⟩ ⟨[.pointer (some nonev)]⟩] w2) fun q1 w3=>aBool q1 fun z5=>some (z5,w3))) fun c_1 w4=>cond c_1
 (some (.bool false,w4))
 (R J8 Ak1 [(1,.pointer (some c)),(3,.func (.func E0) ⟨[]⟩ ⟨[.pointer (some nonev)]⟩),(63,.slice x63 x63n x63c),(64,iI x64),(65,iI (wrap .i64 (x65+1)))] w4))))
 (some (.bool true,h)):=kR
def Z3:Cuts:=⟨0,[],[],[]⟩
def Al3:List Item:=A4 Try.f10
theorem A50 (sn sc:Nat) :
 xQ Z3 C R M3 Try.f10 Al3 [(0,.slice s sn sc)] h =
 cond s.isNone
 (some (.slice none 0 0,h))
 (nw (.cells D0 false []) h fun b w=>gCells s (sn*1) w fun cs=>ckB (fitsOpen (some ⟨b,0,none⟩) D0 w) (apd D0 1 (some ⟨b,0,none⟩) 0 0 sn cs w fun a an ac w1=>some (.slice a an ac,w1))):=kR
def Aa5:Cuts:=⟨0,[(3,[5,20,21,22])],[],[(2,⟨[0,1,2,3,4,5,6,7,8,9,10,11,12,13,14],[0,1,3,7,0,16,0,64,192,448,960,2032,4095,8191,0],[],[]⟩)]⟩
def Aj8:List Item:=A4 Try.f17
def U6:List Item:=stk [0,1,0,1,0,0,1,4,5] Aj8
theorem Bk5 (q:Option Addr) (s:Int) :
 xQ Aa5 C R J3 Try.f17 Aj8 [(0,.pointer q),(1,iI s)] h =
 aSome q fun p=>gSl (add p 0) h fun x _ xc=>aSome q fun p_1=>gSl (add p_1 0) h fun _ xn_1 _=>ckB (fitsOpen x M8 h) (ck ((0:Int)≤mm2 false (mm2 true s 0) (xn_1:Int)∧mm2 false (mm2 true s 0) (xn_1:Int)≤(xc:Int)) (R J3 U6 [(5,iI 0),(20,.slice (M2 x (decide (0<xc)) (0*1)) ((Int.toNat (mm2 false (mm2 true s 0) (xn_1:Int)))-0) (xc-0)),(21,iI (((Int.toNat (mm2 false (mm2 true s 0) (xn_1:Int)))-0:Nat):Int)),(22,iI 0)] h)):=kR
theorem Ap8 :
 xQ Aa5 C R J3 Try.f17 U6 [(5,iI n),(20,.slice x20 x20n x20c),(21,iI x21),(22,iI x22)] h =
 cond (decide (x22<x21))
 (aSome x20 fun p=>ck ((0:Int)≤x22∧x22<(x20n:Int)) (gSl (add (A9 p) (Int.toNat x22*1)) h fun _ xn _=>R J3 U6 [(5,iI (wrap .i64 (n+(xn:Int)))),(20,.slice x20 x20n x20c),(21,iI x21),(22,iI (wrap .i64 (x22+1)))] h))
 (some (iI n,h)):=kR
def As2:Cuts:=⟨0,[],[],[]⟩
def A59:List Item:=A4 Try.f19
theorem Bw6 :
 xQ As2 C R Ah3 Try.f19 A59 [(0,.pointer s),(1,iI env),(2,.agg ⟨c⟩)] h =
 nw (.cells R7 false c) h fun b w=>bnd (C V7 [.pointer s,iI env] w) fun r w1=>aBool r fun x=>bnd (cond (!x) (some (true,w1)) (gInt .i64 ⟨b,1,none⟩ w1 fun z1=>some ((B50 .i64 z1 7) != 0,w1))) fun c_1 w2=>bnd (cond c_1 (some (true,w2)) (gInt .i64 ⟨b,2,none⟩ w2 fun z2=>bnd (C V4 [iI z2] w2) fun q1 w3=>aBool q1 fun z3=>some (!z3,w3))) fun c_2 w4=>bnd (cond c_2 (some (true,w4)) (gInt .i64 ⟨b,3,none⟩ w4 fun z4=>bnd (C V4 [iI z4] w4) fun q2 w5=>aBool q2 fun z5=>some (!z5,w5))) fun c_3 w6=>cond c_3
 (some (.tuple ⟨[iI 0,iI 1]⟩,w6))
 (pAgg ⟨b,4,none⟩ [iI 0,iI 0] w6 fun w7=>gAgg ⟨b,0,none⟩ 6 w7 fun z6=>bnd (C Z4 [.pointer s,iI env,.agg ⟨z6⟩] w7) fun q3 w8=>as2 q3 fun q4 q5=>aInt .i64 q4 fun z7=>aInt .i64 q5 fun z8=>some (.tuple ⟨[iI z7,iI z8]⟩,w8)):=kR
def Aw9:Cuts:=⟨0,[],[],[]⟩
def Bc9:List Item:=A4 Try.f23
theorem B55 (s:Int) (fv0:Addr) :
 xQ Aw9 C R E0 Try.f23 Bc9 [(0,iI s),(1,.pointer (some fv0))] h =
 bnd (cond (decide (s<0)) (some (true,h)) (gSl (add fv0 0) h fun _ xn _=>some (decide (s≥(xn:Int)),h))) fun c w=>some (.bool c,w):=kR
def Aa2:Cuts:=⟨0,[(3,[3,15,16])],[],[]⟩
def Aj7:List Item:=A4 Try.f26
def U5:List Item:=stk [0,1,0,1,0,0,1,4,5] Aj7
theorem Bk3 (size:Int) :
 xQ Aa2 C R J0 Try.f26 Aj7 [(0,iI size)] h =
 ck ((0:Int)≤mm2 false (mm2 true size 0) 256∧(mm2 false (mm2 true size 0) 256:Int)≤mm2 false (mm2 true size 0) 256∧mm2 false (mm2 true size 0) 256≤(E6:Int)) (nw (.cells W3 false (L0 (Int.toNat (mm2 false (mm2 true size 0) 256)) [iI 0,iI 0,iI 0,iI 0,iI 0,iI 0,iI 0,.bool false])) h fun b w=>nw (.cells As9 false [.slice (some ⟨b,0,none⟩) (Int.toNat (mm2 false (mm2 true size 0) 256)) (Int.toNat (mm2 false (mm2 true size 0) 256))]) w fun p1 w1=>gSl ⟨p1,0,none⟩ w1 fun _ xn _=>R J0 U5 [(3,pP p1),(15,iI (xn:Int)),(16,iI 0)] w1):=kR
theorem Ap6 (t:Addr) (x15:Int) (x16:Int) :
 xQ Aa2 C R J0 Try.f26 U5 [(3,.pointer (some t)),(15,iI x15),(16,iI x16)] h =
 cond (decide (x16<x15))
 (gSl (add t 0) h fun x xn _=>aSome x fun p=>ck ((0:Int)≤x16∧x16<(xn:Int)) (pV (add (add (A9 p) (Int.toNat x16*8)) 6) (iI 1) h fun w=>R J0 U5 [(3,.pointer (some t)),(15,iI x15),(16,iI (wrap .i64 (x16+1)))] w))
 (some (.pointer (some t),h)):=kR
def Am1:Cuts:=⟨0,[],[],[]⟩
def Az4:List Item:=A4 Try.f29
theorem Bo3 :
 xQ Am1 C R V4 Try.f29 Az4 [(0,iI n)] h =
 bnd (cond (decide (n≥0)) (some (decide (n≤65536),h)) (some (false,h))) fun c w=>some (.bool c,w):=kR
def Ar1:Cuts:=⟨0,[],[],[(1,⟨[0,1,2,3,4,5,6,7,8,9,10,11,12,13],[0,1,3,7,0,31,63,0,255,511,1023,1023,2047,8191],[],[]⟩)]⟩
def A77:List Item:=A4 Try.f31
theorem By8 :
 xQ Ar1 C R Z4 Try.f31 A77 [(0,.pointer s),(1,iI env),(2,.agg ⟨c⟩)] h =
 nw (.cells R7 false c) h fun b w=>aSome s fun p=>gSl (add p 0) w fun x xn _=>aSome x fun p_1=>ck ((0:Int)≤env∧env<(xn:Int)) (gPtr (add (A9 p_1) (Int.toNat env*1)) w fun z1=>gAgg ⟨b,0,none⟩ 6 w fun z2=>bnd (C G1 [.pointer z1,.agg ⟨z2⟩] w) fun r w1=>as2 r fun q1 q2=>aInt .i64 q1 fun z3=>aBool q2 fun z4=>cond (!z4)
 (some (.tuple ⟨[iI 0,iI 4]⟩,w1))
 (some (.tuple ⟨[iI z3,iI 0]⟩,w1))):=kR
def Aa4:Cuts:=⟨0,[(5,[0,1,2,8,22,23,24])],[],[(7,⟨[0,1,2,3,4,5,6,7,8,9,10],[0,1,3,7,0,16,63,127,0,256,1023],[],[]⟩)]⟩
def Aj2:List Item:=A4 Try.f36
def Ad4:List Item:=stk [0,1,0,1,0,1,0,0,1,4,5] Aj2
theorem Bk7 :
 xQ Aa4 C R L9 Try.f36 Aj2 [(0,.pointer s),(1,iI env),(2,iI name)] h =
 bnd (C A1 [.pointer s,iI env,iI name] h) fun r w=>as2 r fun q1 q2=>aSl q1 fun x xn xc=>aInt .i64 q2 fun z1=>cond (z1 != 0)
 (some (.tuple ⟨[iI 0,iI z1]⟩,w))
 (R L9 Ad4 [(0,.pointer s),(1,iI env),(2,iI name),(8,.slice x xn xc),(22,.slice x xn xc),(23,iI (xn:Int)),(24,iI 0)] w):=kR
theorem Bb0 (l:Option Addr) (ln lc:Nat) (x22:Option Addr) (x22n x22c:Nat) (x23:Int) (x24:Int) :
 xQ Aa4 C R L9 Try.f36 Ad4 [(0,.pointer s),(1,iI env),(2,iI name),(8,.slice l ln lc),(22,.slice x22 x22n x22c),(23,iI x23),(24,iI x24)] h =
 cond (decide (x24<x23))
 (aSome x22 fun p=>ck ((0:Int)≤x24∧x24<(x22n:Int)) (gAgg (add (A9 p) (Int.toNat x24*2)) 2 h fun x=>nw (.cells P3 false [iI 0,iI 0]) h fun b w=>ck (List.length x=2) (pAgg ⟨b,0,none⟩ x w fun w1=>aSome s fun p_1=>gSl (add p_1 0) w1 fun z1 xn _=>gInt .i64 ⟨b,0,none⟩ w1 fun z2=>aSome z1 fun p_2=>ck ((0:Int)≤z2∧z2<(xn:Int)) (gPtr (add (A9 p_2) (Int.toNat z2*1)) w1 fun z3=>gInt .i64 ⟨b,1,none⟩ w1 fun z4=>bnd (C K0 [.pointer z3,iI z4] w1) fun r w2=>aBool r fun _=>R L9 Ad4 [(0,.pointer s),(1,iI env),(2,iI name),(8,.slice l ln lc),(22,.slice x22 x22n x22c),(23,iI x23),(24,iI (wrap .i64 (x24+1)))] w2))))
 (aSome s fun p_3=>gSl (add p_3 0) h fun z6 xn_1 _=>aSome z6 fun p_4=>ck ((0:Int)≤env∧env<(xn_1:Int)) (gPtr (add (A9 p_4) (Int.toNat env*1)) h fun z7=>bnd (C K0 [.pointer z7,iI name] h) fun q1 w3=>aBool q1 fun _=>some (.tuple ⟨[iI (wrap .i64 ((ln:Int)+1)),iI 0]⟩,w3))):=kR
def Ao1:Cuts:=⟨0,[],[],[]⟩
def A21:List Item:=A4 Try.f39
theorem Bt4 (k:Option Addr) :
 xQ Ao1 C R Ae2 Try.f39 A21 [(0,.pointer k),(1,iI env),(2,.agg ⟨c⟩)] h =
 nw (.cells An4 false c) h fun b w=>gInt .i64 ⟨b,3,none⟩ w fun x=>bnd (C Y9 [.pointer k,iI env,iI x] w) fun r w1=>as2 r fun q1 q2=>aPtr q1 fun z1=>aInt .i64 q2 fun z2=>cond (z2 != 0)
 (some (.tuple ⟨[iI 0,iI z2]⟩,w1))
 (aSome k fun p=>gInt .i64 (add p 7) w1 fun z3=>bnd (C A3 [.pointer z1,iI env,iI z3] w1) fun q3 w2=>as2 q3 fun q4 q5=>aInt .i64 q4 fun z4=>aBool q5 fun _=>some (.tuple ⟨[iI z4,iI 0]⟩,w2)):=kR
def P9:Cuts:=⟨0,[(2,[0,3,11,12,13])],[],[(5,⟨[0,1,2,3,4,5,6,7,8,9,10,11,12,13,14,15,16],[0,1,3,7,0,0,32,96,224,0,0,1535,3583,7679,16383,32767,65535],[],[]⟩)]⟩
def X5:List Item:=A4 Try.f42
def N0:List Item:=stk [0,1,0,0,1,4,5] X5
theorem A25 (v:List Value) :
 xQ P9 C R G1 Try.f42 X5 [(0,.pointer t),(1,.agg ⟨v⟩)] h =
 nw (.cells R7 false v) h fun b w=>aSome t fun p=>gSl (add p 0) w fun x xn xc=>R G1 N0 [(0,.pointer t),(3,pP b),(11,.slice x xn xc),(12,iI (xn:Int)),(13,iI 0)] w:=kR
theorem Af5 (v:Addr) (x11:Option Addr) (x11n x11c:Nat) (x12:Int) (x13:Int) :
 xQ P9 C R G1 Try.f42 N0 [(0,.pointer t),(3,.pointer (some v)),(11,.slice x11 x11n x11c),(12,iI x12),(13,iI x13)] h =
 cond (decide (x13<x12))
 (aSome x11 fun p=>ck ((0:Int)≤x13∧x13<(x11n:Int)) (gAgg (add (A9 p) (Int.toNat x13*8)) 8 h fun x=>nw (.cells W3 false [iI 0,iI 0,iI 0,iI 0,iI 0,iI 0,iI 0,.bool false]) h fun b w=>ck (List.length x=8) (pAgg ⟨b,0,none⟩ x w fun w1=>gBool ⟨b,7,none⟩ w1 fun z1=>bnd (cond (!z1) (gInt .i64 ⟨b,6,none⟩ w1 fun z2=>some (decide (z2≤1000000),w1)) (some (false,w1))) fun c w2=>cond c
 (aSome t fun p_1=>gSl (add p_1 0) w2 fun z3 xn _=>aSome t fun p_2=>gSl (add p_2 0) w2 fun z4 xn_1 _=>gAgg v 6 w2 fun z5=>aSome z3 fun p_3=>ck ((0:Int)≤x13∧x13<(xn:Int)) (ck (List.length z5=6) (pAgg (add (add (A9 p_3) (Int.toNat x13*8)) 0) z5 w2 fun w3=>aSome z4 fun p_4=>ck ((0:Int)≤x13∧x13<(xn_1:Int)) (pV (add (add (A9 p_4) (Int.toNat x13*8)) 7) (.bool true) w3 fun w4=>bnd (C I2 [.pointer t,iI x13] w4) fun r w5=>aInt .i64 r fun z6=>some (.tuple ⟨[iI z6,.bool true]⟩,w5)))))
 (R G1 N0 [(0,.pointer t),(3,.pointer (some v)),(11,.slice x11 x11n x11c),(12,iI x12),(13,iI (wrap .i64 (x13+1)))] w2))))
 (some (.tuple ⟨[iI 0,.bool false]⟩,h)):=kR
def N1:Cuts:=⟨0,[],[],[]⟩
def V9:List Item:=A4 Try.f59
theorem An5 (x:Option Addr) (xn xc:Nat) :
 xQ N1 C R I8 Try.f59 V9 [(0,.slice x xn xc),(1,cmp)] h =
 bnd (C Aj9 [.int .u64 (wrap .u64 ((xn:Int)))] h) fun r w=>aInt .i64 r fun z1=>bnd (C D6 [.slice x xn xc,iI 0,iI (xn:Int),iI z1,cmp] w) fun q1 w1=>as0 q1 (some (.tuple ⟨[]⟩,w1)):=kR
def L2:Cuts:=⟨0,[(2,[0,1,2,3,4,10,11])],[(10,[0,1,2,3,4,10,11,12]),(15,[0,1,2,3,4,10,11,12,13,14]),(17,[0,1,2,3,4,10,11,12,13])],[(17,⟨[0,1,2,3,4,5,6,7,8,9,10,11,12,13,14,15,16],[0,1,3,7,7,7,39,119,247,7,7,1543,3591,8191,16383,32767,65535],[],[]⟩)]⟩
def L6:List Item:=A4 Try.f63
def W8:List Item:=stk [0,1,0,1,4,5] L6
def X0:List Item:=stk [0,1,0,1,4,5,6,4,0,1,0,1,0,1,0,1,0] L6
theorem At8 :
 xQ L2 C R D6 Try.f63 L6 [(0,.slice data datan datac),(1,iI a),(2,iI b),(3,iI limit),(4,cmp)] h =
 R D6 W8 [(0,.slice data datan datac),(1,iI a),(2,iI b),(3,iI limit),(4,cmp),(10,.bool true),(11,.bool true)] h:=kR
theorem Ao3 :
 xQ L2 C R D6 Try.f63 W8 [(0,.slice data datan datac),(1,iI a),(2,iI b),(3,iI limit),(4,cmp),(10,.bool wasBalanced),(11,.bool wasPartitioned)] h =
 cond (decide ((wrap .i64 (b-a))≤12))
 (bnd (C D2 [.slice data datan datac,iI a,iI b,cmp] h) fun r w=>as0 r (some (.tuple ⟨[]⟩,w)))
 (cond (limit==0)
 (bnd (C Ar0 [.slice data datan datac,iI a,iI b,cmp] h) fun q1 w1=>as0 q1 (some (.tuple ⟨[]⟩,w1)))
 (cond (!wasBalanced)
 (bnd (C Ak8 [.slice data datan datac,iI a,iI b,cmp] h) fun q2 w2=>as0 q2 (R D6 X0 [(0,.slice data datan datac),(1,iI a),(2,iI b),(3,iI (wrap .i64 (limit-1))),(4,cmp),(10,.bool wasBalanced),(11,.bool wasPartitioned),(12,iI (wrap .i64 (b-a)))] w2))
 (R D6 X0 [(0,.slice data datan datac),(1,iI a),(2,iI b),(3,iI limit),(4,cmp),(10,.bool wasBalanced),(11,.bool wasPartitioned),(12,iI (wrap .i64 (b-a)))] h))):=kR
end
end Go.EQ

set_option maxRecDepth 100000
namespace Go.EQ
open Go Go.NN Go.Proofs
variable (C:A6) (R:N7)
noncomputable section
def D67:List (Nat × Cuts):=[(3,Ag4),(4,Ag7),(5,A61),(6,Ar8),(7,Ax1),(8,Am4),(9,A09),(10,Z3),(11,Bo1),(12,A28),(13,Ay3),(14,A49),(15,Bf7),(16,Ah6),(17,Aa5),(18,V2),(19,As2),(20,Av0),(21,Ao0),(22,Am5),(23,Aw9),(24,Q2),(25,A58),(26,Aa2),(27,Ax6),(28,Q8),(29,Am1),(30,Av6),(31,Ar1),(32,Af4),(33,Ad6),(34,Af1),(35,Al4),(36,Aa4),(37,Aj6),(38,Al7),(39,Ao1),(40,Ao2),(41,M9),(42,P9),(43,Ad8),(44,Ax8),(45,Aw2),(46,Ar6),(47,J6),(48,W6),(49,As4),(50,Al5),(51,As3),(52,L7),(53,Ao6),(54,W5),(55,A48),(56,W7),(57,X8),(58,N6),(59,N1),(61,Z6),(62,An9),(63,L2),(64,Av9),(65,I0),(74,X1)]
def cutsOf:FuncId→Cuts:=B20 D67
noncomputable abbrev D5:A6:=NN.Call PR cutsOf
noncomputable abbrev Q1:N7:=NN.Jump PR cutsOf
abbrev fK (f:FuncId) (fn:Func) (C:Cuts) (T:List Item) (n:Nat):Prop:=FnOk PR cutsOf f fn C T n
theorem fM {f : FuncId} {fn : Func} {C : Cuts} {T : List Item} {n : Nat} (a : PR.funcs[f]? = some fn) (b : ∃ c, fn.body = some c := by exact ⟨_, rfl⟩) (c : (fn.name == "runtime.NumGoroutine") = false := by kernel_rfl) (d : cutsOf f = C := by exact rfl) (e : A4 fn = T := by exact rfl) (g : Nat.ble n fn.ntmps = true := by kernel_rfl) : fK f fn C T n := ⟨a, b, c, d, e, g⟩
theorem Ah1:fK G8 Try.f3 Ag4 Aq7 1:=fM Try.func3
theorem Y0:fK E2 Try.f4 Ag7 Am9 1:=fM Try.func4
theorem Dg4:fK Am2 Try.f5 A61 Bn6 0:=fM Try.func5
theorem By3:fK Z1 Try.f6 Ar8 A65 2:=fM Try.func6
theorem Bd9:fK H1 Try.f7 Ax1 Be6 3:=fM Try.func7
theorem Al2:fK J8 Try.f8 Am4 Av7 1:=fM Try.func8
theorem Da6:fK Ai0 Try.f9 A09 Bj7 1:=fM Try.func9
theorem A68:fK M3 Try.f10 Z3 Al3 1:=fM Try.func10
theorem D00:fK A85 Try.f11 Bo1 B69 1:=fM Try.func11
theorem Bg3:fK Ac9 Try.f12 A28 Bh6 1:=fM Try.func12
theorem Bc2:fK Y6 Try.f13 Ay3 Bb2 1:=fM Try.func13
theorem Dh6:fK Aw4 Try.f14 A49 Bk8 2:=fM Try.func14
theorem Du9:fK A24 Try.f15 Bf7 B07 1:=fM Try.func15
theorem Bg6:fK X9 Try.f16 Ah6 Av4 3:=fM Try.func16
theorem Aj1:fK J3 Try.f17 Aa5 Aj8 2:=fM Try.func17
theorem A00:fK H5 Try.f18 V2 Af9 2:=fM Try.func18
theorem Bx6:fK Ah3 Try.f19 As2 A59 3:=fM Try.func19
theorem B18:fK Ak2 Try.f20 Av0 A86 1:=fM Try.func20
theorem Bs9:fK Af0 Try.f21 Ao0 A17 3:=fM Try.func21
theorem A01:fK V3 Try.f22 Am5 Az2 3:=fM Try.func22
theorem B66:fK E0 Try.f23 Aw9 Bc9 2:=fM Try.func23
theorem At6:fK G2 Try.f24 Q2 Aa9 2:=fM Try.func24
theorem Di4:fK Au7 Try.f25 A58 Bm7 2:=fM Try.func25
theorem Aj4:fK J0 Try.f26 Aa2 Aj7 1:=fM Try.func26
theorem B49:fK Af2 Try.f27 Ax6 Bc7 1:=fM Try.func27
theorem Y8:fK E5 Try.f28 Q8 Z2 2:=fM Try.func28
theorem Bn4:fK V4 Try.f29 Am1 Az4 1:=fM Try.func29
theorem B02:fK V7 Try.f30 Av6 A94 2:=fM Try.func30
theorem Bw8:fK Z4 Try.f31 Ar1 A77 3:=fM Try.func31
theorem Bd5:fK P8 Try.f32 Af4 At3 5:=fM Try.func32
theorem Bb5:fK O2 Try.f33 Ad6 Ao7 5:=fM Try.func33
theorem Be4:fK W1 Try.f34 Af1 At4 7:=fM Try.func34
theorem Bl3:fK Ac8 Try.f35 Al4 Az1 7:=fM Try.func35
theorem Aw6:fK L9 Try.f36 Aa4 Aj2 3:=fM Try.func36
theorem Bk6:fK Aa3 Try.f37 Aj6 Aw7 2:=fM Try.func37
theorem Bo5:fK Ac3 Try.f38 Al7 Az3 3:=fM Try.func38
theorem Bt1:fK Ae2 Try.f39 Ao1 A21 3:=fM Try.func39
theorem Bs8:fK Ae5 Try.f40 Ao2 A20 3:=fM Try.func40
theorem U1:fK E1 Try.f41 M9 S6 2:=fM Try.func41
theorem X2:fK G1 Try.f42 P9 X5 2:=fM Try.func42
theorem Bc1:fK O0 Try.f43 Ad8 Ap7 6:=fM Try.func43
theorem B63:fK Am8 Try.f44 Ax8 Bc6 3:=fM Try.func44
theorem B01:fK Ak3 Try.f45 Aw2 A84 3:=fM Try.func45
theorem By7:fK U2 Try.f46 Ar6 A56 3:=fM Try.func46
theorem G4:fK A1 Try.f47 J6 M4 3:=fM Try.func47
theorem A08:fK K0 Try.f48 W6 Ai6 2:=fM Try.func48
theorem Bx5:fK S8 Try.f49 As4 A69 2:=fM Try.func49
theorem Bo0:fK Ad2 Try.f50 Al5 A02 3:=fM Try.func50
theorem Bv9:fK Y9 Try.f51 As3 A54 3:=fM Try.func51
theorem N3:fK A3 Try.f52 L7 N2 3:=fM Try.func52
theorem Bt5:fK Ae1 Try.f53 Ao6 A19 3:=fM Try.func53
theorem A10:fK I2 Try.f54 W5 Ai1 2:=fM Try.func54
theorem Dc7:fK Al6 Try.f55 A48 Bl6 3:=fM Try.func55
theorem A14:fK O4 Try.f56 W7 Ai3 1:=fM Try.func56
theorem A35:fK M0 Try.f57 X8 Ak6 2:=fM Try.func57
theorem V6:fK D1 Try.f58 N6 V1 1:=fM Try.func58
theorem An7:fK I8 Try.f59 N1 V9 2:=fM Try.func59
theorem A47:fK M5 Try.f61 Z6 Al1 2:=fM Try.func61
theorem Bt8:fK Ae4 Try.f62 An9 A18 3:=fM Try.func62
theorem Ab0:fK D6 Try.f63 L2 L6 5:=fM Try.func63
theorem B08:fK Aj9 Try.f64 Av9 A87 1:=fM Try.func64
theorem U3:fK D2 Try.f65 I0 H9 4:=fM Try.func65
theorem Ao5:fK H8 Try.f74 X1 Ae8 1:=fM Try.func74
end
end Go.EQ

namespace Go.EQ
open Go Go.NN Go.Proofs
theorem Bh7:type_of% Try.underlying3:=Try.underlying3
theorem Eb5:type_of% Try.underlying4:=Try.underlying4
theorem D96:type_of% Try.underlying5:=Try.underlying5
theorem Bu8:type_of% Try.underlying22:=Try.underlying22
theorem Dw4:type_of% Try.underlying34:=Try.underlying34
theorem Dt7:type_of% Try.underlying36:=Try.underlying36
theorem Dx3:type_of% Try.underlying38:=Try.underlying38
end Go.EQ
