/- Records are read, set and freed as the document says, among others who write any bytes; what was bad once is bad for ever, for this one. -/
import Derived.Test.YtmhfkfijaamamaaGreatMd
import Derived.KernelRfl
set_option linter.all false
set_option maxRecDepth 100000
namespace Go.EQ
open Go Go.NN Go.Proofs
open Go.IntKind (wrap)
open Go.Addr (add)
variable (C:D6) (R:Ab3) (q swaps v x2:Addr) (more:Bool) (h:H) (a e env first g i j lo n name pivot size x12 x13 x21:Int) (f p r:List Value) (ac an bc bn datac datan foundc foundn lc ln outc outn:Nat) (b c data found k l out s t:Option Addr) (cmp get put:Value)
noncomputable section
def Bf7:Cuts:=⟨0,[(4,[0,1,5])],[],[(6,⟨[0,1,2,3,4,5,6,7,8],[0,0,3,7,0,0,48,112,255],[],[]⟩)]⟩
def B32:List Item:=A3 Tryz.f8
def Az4:List Item:=stk [0,1,0,1,0,0,1,4,5] B32
theorem Gj2 (a:Option Addr) :
 xQ Bf7 C R Y0 Tryz.f8 B32 [(0,.slice a an ac),(1,.slice b bn bc)] h =
 cond ((an:Int) != (bn:Int))
 (some (.bool false,h))
 (R Y0 Az4 [(0,.slice a an ac),(1,.slice b bn bc),(5,iI 0)] h):=kR
theorem Dd3 (a:Option Addr) :
 xQ Bf7 C R Y0 Tryz.f8 Az4 [(0,.slice a an ac),(1,.slice b bn bc),(5,iI i)] h =
 cond (decide (i<(an:Int)))
 (aSome a fun p=>ck ((0:Int)≤i∧i<(an:Int)) (gAgg (add (B1 p) (Int.toNat i*2)) 2 h fun x=>aSome b fun p_1=>ck ((0:Int)≤i∧i<(bn:Int)) (gAgg (add (B1 p_1) (Int.toNat i*2)) 2 h fun z1=>Af8 PR A6 x z1 fun eq=>cond (!eq)
 (some (.bool false,h))
 (R Y0 Az4 [(0,.slice a an ac),(1,.slice b bn bc),(5,iI (wrap .i64 (i+1)))] h))))
 (some (.bool true,h)):=kR
def Aw3:Cuts:=⟨0,[(4,[1,3,4]),(8,[1,3,5]),(13,[1,3,5,6,7,9])],[],[(1,⟨[0,1,2,3,4,5,6],[0,0,2,6,15,31,63],[(3,[0])],[]⟩),(2,⟨[0,1,2,3,4,5,6,7,11,12,13,8,9,10,14,15,16,17,18,19],[0,0,2,6,14,0,32,96,254,510,1022,0,2048,6144,14846,32766,65534,131071,262143,524287],[(8,[12])],[]⟩),(6,⟨[0,1,2,3,4,5,6,7,8,9,10,11,12],[0,0,2,6,14,0,32,96,224,510,1023,2047,4095],[(7,[4])],[]⟩),(11,⟨[0,1,2,3,4,5,6,7,8,9,11,12,15,16,18,19,10,13,14,17,20,21,22,23,24,25],[0,1,3,7,0,16,48,112,0,256,1008,0,2048,8176,16368,0,32768,131056,0,262144,1048575,2097151,4194303,4194303,8388607,33554431],[(10,[3,12,16,19])],[]⟩),(15,⟨[0,1,2,3,4,5,6,7],[0,1,0,4,0,28,60,127],[],[]⟩),(16,⟨[0,1,2,3,4,5,6,7,8,9,10,11,12],[0,1,3,7,15,31,63,0,0,0,512,1792,4095],[],[]⟩)]⟩
def Bb3:List Item:=A3 Tryz.f15
def A84:List Item:=stk [0,1,0,1,0,1,0,0,1,4,5] Bb3
def Ar8:List Item:=stk [0,1,0,1,0,1,0,1,0,0,1,4,5] Bb3
def Ar7:List Item:=stk [0,1,0,1,0,1,0,1,0,0,1,4,5,6,0,1,0,4,0,1,0,1,0,1,4,5] Bb3
theorem Gy3 (b:List Value) :
 xQ Aw3 C R G4 Tryz.f15 Bb3 [(0,.agg ⟨b⟩)] h =
 nw (.cells E3 false b) h fun p1 w=>gAgg ⟨p1,0,none⟩ 5 w fun x=>gSl ⟨p1,0,none⟩ w fun z1 xn xc=>bnd (C Ab2 [.slice z1 xn xc] w) fun r w1=>aPtr r fun z2=>gAgg ⟨p1,0,none⟩ 5 w1 fun z3=>same (.agg ⟨x⟩) (.agg ⟨z3⟩) (ck (List.length x=5) (nw (.cells Gd4 false (x++(.pointer z2::(.pointer none::(.slice none 0 0::[iI 0]))))) w1 fun p2 w2=>gPtr ⟨p2,5,none⟩ w2 fun z4=>gSl ⟨p1,0,none⟩ w2 fun _ xn_1 _=>gSl ⟨p1,1,none⟩ w2 fun z6 xn_2 xc_2=>bnd (C N8 [.pointer z4,iI (xn_1:Int)] w2) fun q1 w3=>aInt .i64 q1 fun z7=>gSl ⟨p1,1,none⟩ w3 fun z8 xn_3 xc_3=>same (.slice z6 xn_2 xc_2) (.slice z8 xn_3 xc_3) (ck ((0:Int)≤wrap .i64 (64*z7)∧(wrap .i64 (64*z7):Int)≤wrap .i64 (64*z7)∧wrap .i64 (64*z7)≤(A8:Int)) (nw (.cells A2 false (G9 (Int.toNat (wrap .i64 (64*z7))) [.int .u8 0])) w3 fun p3 w4=>bnd (C Aa8 [iI (xn_2:Int)] w4) fun q2 w5=>aPtr q2 fun z9=>nw (.cells Ec4 false [.slice (some ⟨p3,0,none⟩) (Int.toNat (wrap .i64 (64*z7))) (Int.toNat (wrap .i64 (64*z7))),.slice none 0 0,.slice none 0 0,.pointer z9]) w5 fun p4 w6=>pV ⟨p2,6,none⟩ (pP p4) w6 fun w7=>R G4 A84 [(1,pP p1),(3,pP p2),(4,iI 0)] w7)))):=kR
theorem Dp8 (b:Addr) (k:Addr) :
 xQ Aw3 C R G4 Tryz.f15 A84 [(1,.pointer (some b)),(3,.pointer (some k)),(4,iI i)] h =
 gSl (add b 2) h fun _ xn _=>cond (decide (i<(xn:Int)))
 (gSl (add k 7) h fun z1 xn_1 xc_1=>gInt .i64 (add b 3) h fun z2=>bnd (C Br5 [iI z2] h) fun r w=>aPtr r fun z3=>gSl (add k 7) w fun z4 xn_2 xc_2=>same (.slice z1 xn_1 xc_1) (.slice z4 xn_2 xc_2) (nw (.cells Bh9 false [.pointer z3]) w fun p1 w1=>gCells (some ⟨p1,0,none⟩) (1*1) w1 fun cs=>ckB (fitsOpen z1 Bh9 w1) (apd Bh9 1 z1 xn_1 xc_1 1 cs w1 fun a an ac w2=>pV (add k 7) (.slice a an ac) w2 fun w3=>R G4 A84 [(1,.pointer (some b)),(3,.pointer (some k)),(4,iI (wrap .i64 (i+1)))] w3)))
 (R G4 Ar8 [(1,.pointer (some b)),(3,.pointer (some k)),(5,iI 0)] h):=kR
theorem Dp4 (b:Addr) (k:Addr) :
 xQ Aw3 C R G4 Tryz.f15 Ar8 [(1,.pointer (some b)),(3,.pointer (some k)),(5,iI i)] h =
 gSl (add b 4) h fun _ xn _=>cond (decide (i<(xn:Int)))
 (gSl (add b 4) h fun z1 xn_1 _=>aSome z1 fun p=>ck ((0:Int)≤i∧i<(xn_1:Int)) (gAgg (add (B1 p) (Int.toNat i*5)) 5 h fun z2=>nw (.cells I9 false [iI 0,iI 0,iI 0,iI 0,.slice none 0 0]) h fun p1 w=>ck (List.length z2=5) (pAgg ⟨p1,0,none⟩ z2 w fun w1=>gPtr (add k 6) w1 fun z3=>gPtr (add k 5) w1 fun z4=>gInt .i64 ⟨p1,0,none⟩ w1 fun z5=>gInt .i64 ⟨p1,1,none⟩ w1 fun z6=>gInt .i64 ⟨p1,2,none⟩ w1 fun z7=>gInt .i64 ⟨p1,3,none⟩ w1 fun z8=>bnd (C N8 [.pointer z4,iI z5] w1) fun r w2=>aInt .i64 r fun z9=>gPtr (add k 6) w2 fun z10=>same (.pointer z3) (.pointer z10) (gInt .i64 ⟨p1,1,none⟩ w2 fun z11=>same (iI z6) (iI z11) (gInt .i64 ⟨p1,2,none⟩ w2 fun z12=>same (iI z7) (iI z12) (gInt .i64 ⟨p1,3,none⟩ w2 fun z13=>same (iI z8) (iI z13) (bnd (C A42 [.pointer z3,iI (wrap .i64 ((wrap .i64 (64*(wrap .i64 (z9+z6))))+z7)),iI z8] w2) fun q1 w3=>as2 q1 fun q2 q3=>aInt .i64 q2 fun z14=>aInt .i64 q3 fun _=>R G4 Ar7 [(1,.pointer (some b)),(3,.pointer (some k)),(5,iI i),(6,pP p1),(7,iI z14),(9,iI 0)] w3)))))))
 (some (.pointer (some k),h)):=kR
theorem Dq0 (b:Addr) (k:Addr) (s:Addr) (obj:Int) :
 xQ Aw3 C R G4 Tryz.f15 Ar7 [(1,.pointer (some b)),(3,.pointer (some k)),(5,iI i),(6,.pointer (some s)),(7,iI obj),(9,iI e)] h =
 gSl (add b 1) h fun _ xn _=>cond (decide (e<(xn:Int)))
 (gSl (add s 4) h fun z1 xn_1 xc_1=>gSl (add b 1) h fun z2 xn_2 _=>aSome z2 fun p=>ck ((0:Int)≤e∧e<(xn_2:Int)) (gInt .i64 (add (B1 p) (Int.toNat e*1)) h fun z3=>bnd (C Bc6 [.slice z1 xn_1 xc_1,iI z3] h) fun r w=>aBool r fun z4=>cond z4
 (gPtr (add k 6) w fun z5=>aSome z5 fun p_1=>gPtr (add p_1 3) w fun z6=>gInt .i64 (add s 3) w fun z7=>bnd (C Bd7 [.pointer z6,iI e,.agg ⟨[iI obj,iI 3,iI 0,iI z7,iI 0,iI 0]⟩] w) fun q1 w1=>as2 q1 fun q2 q3=>aInt .i64 q2 fun _=>aInt .i64 q3 fun _=>R G4 Ar7 [(1,.pointer (some b)),(3,.pointer (some k)),(5,iI i),(6,.pointer (some s)),(7,iI obj),(9,iI (wrap .i64 (e+1)))] w1)
 (R G4 Ar7 [(1,.pointer (some b)),(3,.pointer (some k)),(5,iI i),(6,.pointer (some s)),(7,iI obj),(9,iI (wrap .i64 (e+1)))] w)))
 (R G4 Ar8 [(1,.pointer (some b)),(3,.pointer (some k)),(5,iI (wrap .i64 (i+1)))] h):=kR
def Dm7:Cuts:=⟨0,[],[],[(1,⟨[0,1,2,3,4,5,6,7],[0,1,0,4,15,12,63,127],[(3,[1]),(5,[1])],[]⟩)]⟩
def Es1:List Item:=A3 Tryz.f17
theorem G64 :
 xQ Dm7 C R Bz7 Tryz.f17 Es1 [] h =
 ck ((0:Int)≤448∧(448:Int)≤448∧448≤(A8:Int)) (nw (.cells A2 false (G9 (Int.toNat 448) [.int .u8 0])) h fun b w=>gCells (some ⟨b,0,none⟩) (Int.toNat 448) w fun cs=>asBytes cs fun l=>bnd (C M9 [.agg ⟨[iI 0,iI 0,iI 1,iI 1,.int .u8 0,.int .u8 0,.int .u8 0,.int .u8 0,.int .u8 0,.int .u8 0,.int .u8 0,.int .u8 0,.int .u8 0,.int .u8 0,.int .u8 0,.int .u8 0,.int .u8 0,.int .u8 0,.int .u8 0,.int .u8 0,.int .u8 0,.int .u8 0,.int .u8 0,.int .u8 0,.int .u8 0,.int .u8 0,.int .u8 0,.int .u8 0,.int .u8 0,.int .u8 0,.int .u8 0,.int .u8 0,.int .u8 0,.int .u8 0,.int .u8 0,.int .u8 0]⟩] w) fun r w1=>aStr r fun x=>gCells (some ⟨b,0,none⟩) (Int.toNat 448) w1 fun cs_1=>asBytes cs_1 fun l_1=>same (.string (ByteArray.mk ⟨l⟩)) (.string (ByteArray.mk ⟨l_1⟩)) (ck (ByteArray.size (ByteArray.mk ⟨l⟩)+ByteArray.size x≤A8) (bnd (C Y6 [iI 0] w1) fun q1 w2=>aStr q1 fun z1=>gCells (some ⟨b,0,none⟩) (Int.toNat 448) w2 fun cs_2=>asBytes cs_2 fun l_2=>same (.string (ByteArray.mk ⟨l⟩)) (.string (ByteArray.mk ⟨l_2⟩)) (ck (ByteArray.size ((ByteArray.mk ⟨l⟩)++x)+ByteArray.size z1≤A8) (some (.string (((ByteArray.mk ⟨l⟩)++x)++z1),w2)))))):=kR
def Dh3:Cuts:=⟨0,[],[],[]⟩
def Ef1:List Item:=A3 Tryz.f18
theorem Gv9 (c:List Value) :
 xQ Dh3 C R Q6 Tryz.f18 Ef1 [(0,.pointer k),(1,iI env),(2,.agg ⟨c⟩)] h =
 nw (.cells Be5 false c) h fun b w=>nw (.cells Ey2 false [iI 0,iI 0,.slice none 0 0]) w fun p1 w1=>bnd (cond (decide (env<0)) (some (true,w1)) (aSome k fun p=>gSl (add p 0) w1 fun _ xn _=>some (decide (env≥(xn:Int)),w1))) fun c_1 w2=>cond c_1
 (pAgg ⟨p1,0,none⟩ [iI 1,iI 0,.slice none 0 0] w2 fun w3=>gAgg ⟨p1,0,none⟩ 3 w3 fun z1=>some (.agg ⟨z1⟩,w3))
 (gAgg ⟨b,0,none⟩ 7 w2 fun z2=>bnd (C A79 [.pointer k,iI env,.agg ⟨z2⟩] w2) fun r w4=>as3 r fun q1 q2 q3=>aSl q1 fun z3 xn_1 xc_1=>aInt .i64 q2 fun z4=>aBool q3 fun z5=>cond z5
 (pAgg ⟨p1,0,none⟩ [iI z4,iI 0,.slice z3 xn_1 xc_1] w4 fun w5=>gAgg ⟨p1,0,none⟩ 3 w5 fun z6=>some (.agg ⟨z6⟩,w5))
 (gAgg ⟨b,0,none⟩ 7 w4 fun z7=>bnd (C A21 [.pointer k,iI env,.agg ⟨z7⟩] w4) fun q4 w6=>as2 q4 fun q5 q6=>aInt .i64 q5 fun z8=>aInt .i64 q6 fun z9=>pAgg ⟨p1,0,none⟩ [iI z9,iI z8,.slice none 0 0] w6 fun w7=>gAgg ⟨p1,0,none⟩ 3 w7 fun z10=>some (.agg ⟨z10⟩,w7))):=kR
def A52:Cuts:=⟨0,[],[],[(1,⟨[0,1,2,3,4,5,6,7,8,9,10,11,12,13,14,15,16,17],[0,1,3,7,0,16,48,112,0,256,768,1792,3840,7936,16128,32767,65535,131071],[],[]⟩)]⟩
def Bx5:List Item:=A3 Tryz.f24
theorem Eb2 :
 xQ A52 C R Ad1 Tryz.f24 Bx5 [(0,.pointer c)] h =
 aSome c fun p=>gPtr (add p 0) h fun x=>aSome c fun p_1=>gInt .i64 (add p_1 1) h fun z1=>aSome c fun p_2=>gSl (add p_2 2) h fun z2 xn _=>aSome z2 fun p_3=>ck ((0:Int)≤0∧0<(xn:Int)) (gInt .i64 (add (B1 p_3) (Int.toNat 0*1)) h fun z3=>bnd (C Q6 [.pointer x,iI z1,.agg ⟨[iI 1,iI z3,iI 0,iI 492,iI 0,iI 0,.slice none 0 0]⟩] h) fun r w=>aAgg r fun z4=>nth z4 2 fun B=>aSl B fun B_1 Bn Bc=>some (.slice B_1 Bn Bc,w)):=kR
def Dy8:Cuts:=⟨0,[],[],[]⟩
def E46:List Item:=A3 Tryz.f26
theorem Hn4 (x:Int) :
 xQ Dy8 C R B92 Tryz.f26 E46 [(0,iI x)] h =
 nw (.cells D7 false [iI 0,iI 0,iI 0,iI 0]) h fun b w=>nw (.cells D7 false [iI 0,iI 0,iI 0,iI 0]) w fun p1 w1=>pAgg ⟨p1,0,none⟩ [iI (wrap .i64 ((Int.tmod (B5 .i64 x 16777215) 3)+1)),iI (B5 .i64 (Int.fdiv (B5 .i64 x 16777215) (2 ^ 4)) 7),iI (wrap .i64 ((B5 .i64 (Int.fdiv (B5 .i64 x 16777215) (2 ^ 8)) 63)+1)),iI (B5 .i64 (Int.fdiv (B5 .i64 x 16777215) (2 ^ 15)) 1)] w1 fun w2=>gInt .i64 ⟨p1,0,none⟩ w2 fun z1=>cond (z1==3)
 (pV ⟨p1,1,none⟩ (iI 0) w2 fun w3=>gAgg ⟨p1,0,none⟩ 4 w3 fun z2=>ck (List.length z2=4) (pAgg ⟨b,0,none⟩ z2 w3 fun w4=>gAgg ⟨b,0,none⟩ 4 w4 fun z3=>some (.agg ⟨z3⟩,w4)))
 (gAgg ⟨p1,0,none⟩ 4 w2 fun z4=>ck (List.length z4=4) (pAgg ⟨b,0,none⟩ z4 w2 fun w5=>gAgg ⟨b,0,none⟩ 4 w5 fun z5=>some (.agg ⟨z5⟩,w5))):=kR
def A53:Cuts:=⟨0,[],[],[]⟩
def Bw6:List Item:=A3 Tryz.f33
theorem D90 :
 xQ A53 C R Ac3 Tryz.f33 Bw6 [(0,.pointer c),(1,iI i)] h =
 nw (.cells D7 false [iI 0,iI 0,iI 0,iI 0]) h fun b w=>bnd (C Aw4 [iI i] w) fun r w1=>aAgg r fun x=>bnd (C J8 [.pointer c,.agg ⟨x⟩,.func (.func Aw7) ⟨[]⟩ ⟨[]⟩] w1) fun q1 w2=>as2 q1 fun q2 q3=>aAgg q2 fun z1=>aInt .i64 q3 fun z2=>ck (List.length z1=4) (pAgg ⟨b,0,none⟩ z1 w2 fun w3=>gAgg ⟨b,0,none⟩ 4 w3 fun z3=>some (.tuple ⟨[.agg ⟨z3⟩,iI z2]⟩,w3)):=kR
def A06:Cuts:=⟨0,[],[],[]⟩
def Bt7:List Item:=A3 Tryz.f36
theorem D28 :
 xQ A06 C R Am1 Tryz.f36 Bt7 [(0,.pointer c),(1,iI i),(2,.agg ⟨f⟩)] h =
 nw (.cells D7 false f) h fun b w=>gAgg ⟨b,0,none⟩ 4 w fun x=>bnd (C A86 [.agg ⟨x⟩] w) fun r w1=>aBool r fun z1=>bnd (cond z1 (gAgg ⟨b,0,none⟩ 4 w1 fun z2=>bnd (C Ar9 [.agg ⟨z2⟩] w1) fun q1 w2=>aStr q1 fun z3=>bnd (C M7 [.pointer c,.agg ⟨[iI 2,iI i]⟩,.string z3] w2) fun q2 w3=>aBool q2 fun z4=>some (z4,w3)) (some (false,w1))) fun c_1 w4=>some (.bool c_1,w4):=kR
def Ay5:Cuts:=⟨0,[],[],[]⟩
def Bq5:List Item:=A3 Tryz.f38
theorem Dy1 :
 xQ Ay5 C R Ai8 Tryz.f38 Bq5 [(0,.pointer c),(1,iI i)] h =
 bnd (C Z7 [.pointer c,.agg ⟨[iI 2,iI i]⟩] h) fun r w=>aBool r fun x=>some (.bool x,w):=kR
def A48:Cuts:=⟨0,[],[],[]⟩
def Bx9:List Item:=A3 Tryz.f39
theorem D87 :
 xQ A48 C R Ac5 Tryz.f39 Bx9 [(0,.pointer c),(1,iI i)] h =
 nw (.cells B3 false zZ2) h fun b w=>bnd (C Aw8 [iI i] w) fun r w1=>aAgg r fun x=>bnd (C I6 [.pointer c,.agg ⟨x⟩,.func (.func Aq6) ⟨[]⟩ ⟨[]⟩] w1) fun q1 w2=>as2 q1 fun q2 q3=>aAgg q2 fun z1=>aInt .i64 q3 fun z2=>ck (List.length z1=36) (pAgg ⟨b,0,none⟩ z1 w2 fun w3=>gAgg ⟨b,0,none⟩ 36 w3 fun z3=>some (.tuple ⟨[.agg ⟨z3⟩,iI z2]⟩,w3)):=kR
def Bd5:Cuts:=⟨0,[],[],[]⟩
def B57:List Item:=A3 Tryz.f40
theorem Ep3 :
 xQ Bd5 C R Aj7 Tryz.f40 B57 [(0,.pointer c),(1,iI i)] h =
 nw (.cells B3 false zZ2) h fun b w=>bnd (C Ac6 [.pointer c,.agg ⟨[iI 3,iI i]⟩] w) fun r w1=>as2 r fun q1 q2=>aAgg q1 fun x=>aInt .i64 q2 fun z1=>ck (List.length x=36) (pAgg ⟨b,0,none⟩ x w1 fun w2=>gAgg ⟨b,0,none⟩ 36 w2 fun z2=>some (.tuple ⟨[.agg ⟨z2⟩,iI z1]⟩,w2)):=kR
def A08:Cuts:=⟨0,[],[],[]⟩
def Bu0:List Item:=A3 Tryz.f47
theorem D26 :
 xQ A08 C R Al9 Tryz.f47 Bu0 [(0,.pointer c),(1,.agg ⟨p⟩)] h =
 nw (.cells B3 false p) h fun b w=>gAgg ⟨b,0,none⟩ 36 w fun x=>bnd (C Aa2 [.pointer c,.agg ⟨[iI 4,iI 0]⟩,.agg ⟨x⟩] w) fun r w1=>aBool r fun z1=>some (.bool z1,w1):=kR
def Ay4:Cuts:=⟨0,[],[],[]⟩
def Bp0:List Item:=A3 Tryz.f50
theorem Dv3 :
 xQ Ay4 C R Aj5 Tryz.f50 Bp0 [(0,.pointer c),(1,iI g)] h =
 bnd (cond (decide (g≥0)) (some (decide (g<8),h)) (some (false,h))) fun c_1 w=>bnd (cond c_1 (bnd (C Y6 [iI g] w) fun r w1=>aStr r fun x=>bnd (C M7 [.pointer c,.agg ⟨[iI 5,iI 0]⟩,.string x] w1) fun q1 w2=>aBool q1 fun z1=>some (z1,w2)) (some (false,w))) fun c_2 w3=>some (.bool c_2,w3):=kR
def U8:Cuts:=⟨0,[(1,[0,5]),(6,[0,12]),(11,[0,20,21])],[],[]⟩
def Ac0:List Item:=A3 Tryz.f51
def Ag0:List Item:=stk [0,0,1,4,5] Ac0
def Ag1:List Item:=stk [0,1,0,0,1,4,5] Ac0
def Af3:List Item:=stk [0,1,0,1,0,0,1,4,5] Ac0
theorem D92 :
 xQ U8 C R D1 Tryz.f51 Ac0 [(0,.pointer c)] h =
 R D1 Ag0 [(0,.pointer c),(5,iI 0)] h:=kR
theorem Bm3 (x5:Int) :
 xQ U8 C R D1 Tryz.f51 Ag0 [(0,.pointer c),(5,iI x5)] h =
 cond (decide (x5<8))
 (bnd (C V0 [.pointer c,iI x5] h) fun r w=>as2 r fun q1 q2=>aAgg q1 fun _=>aInt .i64 q2 fun _=>R D1 Ag0 [(0,.pointer c),(5,iI (wrap .i64 (x5+1)))] w)
 (R D1 Ag1 [(0,.pointer c),(12,iI 0)] h):=kR
theorem Bm6 :
 xQ U8 C R D1 Tryz.f51 Ag1 [(0,.pointer c),(12,iI x12)] h =
 cond (decide (x12<12))
 (bnd (C Ac3 [.pointer c,iI x12] h) fun r w=>as2 r fun q1 q2=>aAgg q1 fun _=>aInt .i64 q2 fun _=>R D1 Ag1 [(0,.pointer c),(12,iI (wrap .i64 (x12+1)))] w)
 (bnd (C U9 [.pointer c,iI 3] h) fun q3 w1=>aInt .i64 q3 fun z2=>R D1 Af3 [(0,.pointer c),(20,iI z2),(21,iI 0)] w1):=kR
theorem Bk9 (x20:Int) :
 xQ U8 C R D1 Tryz.f51 Af3 [(0,.pointer c),(20,iI x20),(21,iI x21)] h =
 cond (decide (x21<x20))
 (bnd (C Ac5 [.pointer c,iI x21] h) fun r w=>as2 r fun q1 q2=>aAgg q1 fun _=>aInt .i64 q2 fun _=>R D1 Af3 [(0,.pointer c),(20,iI x20),(21,iI (wrap .i64 (x21+1)))] w)
 (bnd (C U7 [.pointer c] h) fun q3 w1=>as2 q3 fun q4 q5=>aAgg q4 fun _=>aInt .i64 q5 fun _=>bnd (C S1 [.pointer c] w1) fun q6 w2=>as2 q6 fun q7 q8=>aInt .i64 q7 fun _=>aBool q8 fun _=>some (.tuple ⟨[]⟩,w2)):=kR
def Ay7:Cuts:=⟨0,[],[],[]⟩
def Bp8:List Item:=A3 Tryz.f58
theorem Dz7 (sn sc:Nat) :
 xQ Ay7 C R Y3 Tryz.f58 Bp8 [(0,.slice s sn sc)] h =
 cond s.isNone
 (some (.slice none 0 0,h))
 (nw (.cells B2 false []) h fun b w=>gCells s (sn*1) w fun cs=>ckB (fitsOpen (some ⟨b,0,none⟩) B2 w) (apd B2 1 (some ⟨b,0,none⟩) 0 0 sn cs w fun a an ac w1=>some (.slice a an ac,w1))):=kR
def Dj0:Cuts:=⟨0,[(3,[3,12,13,14])],[],[(5,⟨[0,1,2,3,4,5,6,7,8,9,10,11,12,13],[0,0,2,6,14,0,32,96,224,480,1022,2047,4095,8191],[],[]⟩)]⟩
def D93:List Item:=A3 Tryz.f61
def Br1:List Item:=stk [0,1,0,1,0,0,1,4,5] D93
theorem Ht4 (frames:Option Addr) (framesn framesc:Nat) :
 xQ Dj0 C R Av5 Tryz.f61 D93 [(0,.slice frames framesn framesc)] h =
 nw (.cells A13 false [.slice none 0 0]) h fun b w=>ckB (fitsOpen frames B2 w) (ck ((0:Int)≤mm2 false (framesn:Int) 4∧mm2 false (framesn:Int) 4≤(framesc:Int)) (R Av5 Br1 [(3,pP b),(12,.slice (G7 frames (decide (0<framesc)) (0*1)) ((Int.toNat (mm2 false (framesn:Int) 4))-0) (framesc-0)),(13,iI (((Int.toNat (mm2 false (framesn:Int) 4))-0:Nat):Int)),(14,iI 0)] w)):=kR
theorem Ed6 (x12:Option Addr) (x12n x12c:Nat) (x14:Int) :
 xQ Dj0 C R Av5 Tryz.f61 Br1 [(3,.pointer (some q)),(12,.slice x12 x12n x12c),(13,iI x13),(14,iI x14)] h =
 cond (decide (x14<x13))
 (aSome x12 fun p=>ck ((0:Int)≤x14∧x14<(x12n:Int)) (gInt .i64 (add (B1 p) (Int.toNat x14*1)) h fun x=>gSl (add q 0) h fun z1 xn xc=>ck ((0:Int)≤mm2 false (mm2 true x 0) 64∧(mm2 false (mm2 true x 0) 64:Int)≤mm2 false (mm2 true x 0) 64∧mm2 false (mm2 true x 0) 64≤(A8:Int)) (nw (.cells B2 false (G9 (Int.toNat (mm2 false (mm2 true x 0) 64)) [iI 0])) h fun b w=>nw (.cells L6 false [.slice (some ⟨b,0,none⟩) (Int.toNat (mm2 false (mm2 true x 0) 64)) (Int.toNat (mm2 false (mm2 true x 0) 64))]) w fun p1 w1=>gCells (some ⟨p1,0,none⟩) (1*1) w1 fun cs=>ckB (fitsOpen z1 L6 w1) (apd L6 1 z1 xn xc 1 cs w1 fun a an ac w2=>pV (add q 0) (.slice a an ac) w2 fun w3=>R Av5 Br1 [(3,.pointer (some q)),(12,.slice x12 x12n x12c),(13,iI x13),(14,iI (wrap .i64 (x14+1)))] w3))))
 (some (.pointer (some q),h)):=kR
def Az1:Cuts:=⟨0,[(3,[5,20,21,22])],[],[(2,⟨[0,1,2,3,4,5,6,7,8,9,10,11,12,13,14],[0,1,3,7,0,16,0,64,192,448,960,2032,4095,8191,0],[],[]⟩)]⟩
def Bj8:List Item:=A3 Tryz.f65
def Ao5:List Item:=stk [0,1,0,1,0,0,1,4,5] Bj8
theorem Eu8 (q:Option Addr) (s:Int) :
 xQ Az1 C R O9 Tryz.f65 Bj8 [(0,.pointer q),(1,iI s)] h =
 aSome q fun p=>gSl (add p 0) h fun x _ xc=>aSome q fun p_1=>gSl (add p_1 0) h fun _ xn_1 _=>ckB (fitsOpen x L6 h) (ck ((0:Int)≤mm2 false (mm2 true s 0) (xn_1:Int)∧mm2 false (mm2 true s 0) (xn_1:Int)≤(xc:Int)) (R O9 Ao5 [(5,iI 0),(20,.slice (G7 x (decide (0<xc)) (0*1)) ((Int.toNat (mm2 false (mm2 true s 0) (xn_1:Int)))-0) (xc-0)),(21,iI (((Int.toNat (mm2 false (mm2 true s 0) (xn_1:Int)))-0:Nat):Int)),(22,iI 0)] h)):=kR
theorem Bz0 (x20:Option Addr) (x20n x20c:Nat) (x22:Int) :
 xQ Az1 C R O9 Tryz.f65 Ao5 [(5,iI n),(20,.slice x20 x20n x20c),(21,iI x21),(22,iI x22)] h =
 cond (decide (x22<x21))
 (aSome x20 fun p=>ck ((0:Int)≤x22∧x22<(x20n:Int)) (gSl (add (B1 p) (Int.toNat x22*1)) h fun _ xn _=>R O9 Ao5 [(5,iI (wrap .i64 (n+(xn:Int)))),(20,.slice x20 x20n x20c),(21,iI x21),(22,iI (wrap .i64 (x22+1)))] h))
 (some (iI n,h)):=kR
def Bl7:Cuts:=⟨0,[(3,[0,3,4])],[],[(5,⟨[0,1,2,3,4,5,6,7,8,9,10,11,12,13,14,15,16],[0,0,2,6,14,0,0,96,224,480,992,2016,4064,8190,16383,32767,65535],[],[]⟩)]⟩
def Db2:List Item:=A3 Tryz.f68
def A40:List Item:=stk [0,1,0,1,0,0,1,4,5] Db2
theorem Gm4 :
 xQ Bl7 C R Ab2 Tryz.f68 Db2 [(0,.slice l ln lc)] h =
 nw (.cells E03 false [.slice none 0 0]) h fun b w=>R Ab2 A40 [(0,.slice l ln lc),(3,pP b),(4,iI 0)] w:=kR
theorem Dj5 :
 xQ Bl7 C R Ab2 Tryz.f68 A40 [(0,.slice l ln lc),(3,.pointer (some q)),(4,iI i)] h =
 bnd (cond (decide (i<(ln:Int))) (some (decide (i<4),h)) (some (false,h))) fun c w=>cond c
 (gSl (add q 0) w fun x xn xc=>aSome l fun p=>ck ((0:Int)≤i∧i<(ln:Int)) (gInt .i64 (add (B1 p) (Int.toNat i*1)) w fun z1=>ck ((0:Int)≤mm2 false (mm2 true z1 0) 64∧(mm2 false (mm2 true z1 0) 64:Int)≤mm2 false (mm2 true z1 0) 64∧mm2 false (mm2 true z1 0) 64≤(A8:Int)) (nw (.cells Gm1 false (G9 (Int.toNat (mm2 false (mm2 true z1 0) 64)) [.bool false])) w fun b w1=>nw (.cells Dz2 false [.slice (some ⟨b,0,none⟩) (Int.toNat (mm2 false (mm2 true z1 0) 64)) (Int.toNat (mm2 false (mm2 true z1 0) 64))]) w1 fun p1 w2=>gCells (some ⟨p1,0,none⟩) (1*1) w2 fun cs=>ckB (fitsOpen x Dz2 w2) (apd Dz2 1 x xn xc 1 cs w2 fun a an ac w3=>pV (add q 0) (.slice a an ac) w3 fun w4=>R Ab2 A40 [(0,.slice l ln lc),(3,.pointer (some q)),(4,iI (wrap .i64 (i+1)))] w4))))
 (some (.pointer (some q),w)):=kR
def A74:Cuts:=⟨0,[(4,[1,3,4])],[],[]⟩
def Bu9:List Item:=A3 Tryz.f77
def Au4:List Item:=stk [0,1,0,1,0,1,0,0,1,4,5] Bu9
theorem Ga9 :
 xQ A74 C R M9 Tryz.f77 Bu9 [(0,.agg ⟨p⟩)] h =
 nw (.cells B3 false p) h fun b w=>gInt .i64 ⟨b,0,none⟩ w fun x=>gInt .i64 ⟨b,1,none⟩ w fun z1=>gInt .i64 ⟨b,2,none⟩ w fun z2=>gInt .i64 ⟨b,3,none⟩ w fun z3=>nw (.cells A2 false [.int .u8 1,.int .u8 (wrap .u8 (x)),.int .u8 (wrap .u8 (z1)),.int .u8 (wrap .u8 (z2)),.int .u8 (wrap .u8 (z3)),.int .u8 197]) w fun p1 w1=>gCells (some ⟨p1,0,none⟩) 6 w1 fun cs=>asBytes cs fun l=>bnd (C Aj6 [.string (ByteArray.mk ⟨l⟩)] w1) fun r w2=>aInt .u8 r fun z4=>nw (.cells A2 false [.int .u8 z4,.int .u8 0]) w2 fun p2 w3=>gCells (some ⟨p2,0,none⟩) 2 w3 fun cs_1=>asBytes cs_1 fun l_1=>ck (ByteArray.size (ByteArray.mk ⟨l⟩)+ByteArray.size (ByteArray.mk ⟨l_1⟩)≤A8) (R M9 Au4 [(1,pP b),(3,.string ((ByteArray.mk ⟨l⟩)++(ByteArray.mk ⟨l_1⟩))),(4,iI 0)] w3):=kR
theorem Da6 (p:Addr) (s:ByteArray) :
 xQ A74 C R M9 Tryz.f77 Au4 [(1,.pointer (some p)),(3,.string s),(4,iI i)] h =
 cond (decide (i<32))
 (ck ((0:Int)≤i∧i<((32:Nat):Int)) (gInt .u8 (add (add p 4) (Int.toNat i*1)) h fun x=>nw (.cells A2 false [.int .u8 x]) h fun b w=>gCells (some ⟨b,0,none⟩) 1 w fun cs=>asBytes cs fun l=>ck (ByteArray.size s+ByteArray.size (ByteArray.mk ⟨l⟩)≤A8) (R M9 Au4 [(1,.pointer (some p)),(3,.string (s++(ByteArray.mk ⟨l⟩))),(4,iI (wrap .i64 (i+1)))] w)))
 (some (.string s,h)):=kR
def Bp2:Cuts:=⟨0,[],[],[]⟩
def Dl6:List Item:=A3 Tryz.f78
theorem Ez3 :
 xQ Bp2 C R Y6 Tryz.f78 Dl6 [(0,iI g)] h =
 nw (.cells A2 false [.int .u8 (wrap .u8 (g)),.int .u8 211]) h fun b w=>gCells (some ⟨b,0,none⟩) 2 w fun cs=>asBytes cs fun l=>bnd (C Aj6 [.string (ByteArray.mk ⟨l⟩)] w) fun r w1=>aInt .u8 r fun x=>nw (.cells A2 false [.int .u8 x,.int .u8 0]) w1 fun p1 w2=>gCells (some ⟨p1,0,none⟩) 2 w2 fun cs_1=>asBytes cs_1 fun l_1=>ck (ByteArray.size (ByteArray.mk ⟨l⟩)+ByteArray.size (ByteArray.mk ⟨l_1⟩)≤A8) (some (.string ((ByteArray.mk ⟨l⟩)++(ByteArray.mk ⟨l_1⟩)),w2)):=kR
def Bv6:Cuts:=⟨0,[],[],[(4,⟨[0,1,2,3,4,5,6,7,8,9,10,11,12,13,14,15,16],[0,1,3,7,0,0,32,0,128,0,512,2047,4095,8191,8191,16383,65535],[],[]⟩),(6,⟨[0,1,2,3,4,5,6,7,8,9,10,11,12],[0,1,3,7,0,0,32,0,128,0,512,2047,4095],[],[]⟩),(8,⟨[0,1,2,3,4,5,6,7,8,9,10,11,12,13,14,15,16],[0,1,3,7,0,0,32,0,128,0,512,0,2048,0,8192,32767,65535],[],[]⟩)]⟩
def Dp6:List Item:=A3 Tryz.f79
theorem Gb2 (c:List Value) :
 xQ Bv6 C R A79 Tryz.f79 Dp6 [(0,.pointer k),(1,iI env),(2,.agg ⟨c⟩)] h =
 nw (.cells Be5 false c) h fun b w=>gInt .i64 ⟨b,0,none⟩ w fun x=>cond (x==1)
 (aSome k fun p=>gPtr (add p 5) w fun z1=>gInt .i64 ⟨b,1,none⟩ w fun z2=>gInt .i64 ⟨b,2,none⟩ w fun z3=>gInt .i64 ⟨b,3,none⟩ w fun z4=>bnd (C Ae9 [.pointer z1,iI env,iI z2,iI z3,iI z4] w) fun r w1=>as2 r fun q1 q2=>aSl q1 fun z5 xn xc=>aInt .i64 q2 fun z6=>some (.tuple ⟨[.slice z5 xn xc,iI z6,.bool true]⟩,w1))
 (cond (x==2)
 (aSome k fun p_1=>gPtr (add p_1 5) w fun z7=>gInt .i64 ⟨b,1,none⟩ w fun z8=>gInt .i64 ⟨b,2,none⟩ w fun z9=>gSl ⟨b,6,none⟩ w fun z10 xn_1 xc_1=>bnd (C Ad0 [.pointer z7,iI env,iI z8,iI z9,.slice z10 xn_1 xc_1] w) fun q3 w2=>aInt .i64 q3 fun z11=>some (.tuple ⟨[.slice none 0 0,iI z11,.bool true]⟩,w2))
 (cond (x==3)
 (aSome k fun p_2=>gPtr (add p_2 5) w fun z12=>gInt .i64 ⟨b,1,none⟩ w fun z13=>gInt .i64 ⟨b,2,none⟩ w fun z14=>gInt .i64 ⟨b,4,none⟩ w fun z15=>gInt .i64 ⟨b,5,none⟩ w fun z16=>gInt .i64 ⟨b,3,none⟩ w fun z17=>bnd (C Ap6 [.pointer z12,iI env,iI z13,iI z14,iI z15,iI z16,iI z17] w) fun q4 w3=>aInt .i64 q4 fun z18=>some (.tuple ⟨[.slice none 0 0,iI z18,.bool true]⟩,w3))
 (some (.tuple ⟨[.slice none 0 0,iI 0,.bool false]⟩,w)))):=kR
def Bm9:Cuts:=⟨0,[],[],[(3,⟨[0,1,2,3,4,5,6,7,8,9,10,11,12,13,14,15,16,17,18,19],[0,1,3,7,0,0,32,0,128,0,512,0,2048,0,8192,32767,65535,65535,262143,524287],[],[]⟩),(5,⟨[0,1,2,3,4,5,6,7,8,9,10,11],[0,1,3,7,0,0,32,127,255,255,1023,2047],[],[]⟩),(7,⟨[0,1,2,3,4,5,6,7,8,9,10,11,12,13,14,15],[0,1,3,7,0,16,48,112,0,496,1008,2047,4095,4095,16383,32767],[],[]⟩),(9,⟨[0,1,2,3,4,5,6,7,8,9,10,11,12,13,14,15],[0,1,3,7,0,16,48,112,0,496,1008,0,2048,8191,16383,32767],[],[]⟩)]⟩
def Dm1:List Item:=A3 Tryz.f80
theorem Ey1 (c:List Value) :
 xQ Bm9 C R A21 Tryz.f80 Dm1 [(0,.pointer k),(1,iI env),(2,.agg ⟨c⟩)] h =
 nw (.cells Be5 false c) h fun b w=>gInt .i64 ⟨b,0,none⟩ w fun x=>cond (x==4)
 (aSome k fun p=>gPtr (add p 3) w fun z1=>gInt .i64 ⟨b,1,none⟩ w fun z2=>gInt .i64 ⟨b,4,none⟩ w fun z3=>gInt .i64 ⟨b,5,none⟩ w fun z4=>gInt .i64 ⟨b,2,none⟩ w fun z5=>gInt .i64 ⟨b,3,none⟩ w fun z6=>bnd (C A34 [.pointer z1,iI env,iI z2,iI z3,iI z4,iI z5,iI z6] w) fun r w1=>as2 r fun q1 q2=>aInt .i64 q1 fun z7=>aInt .i64 q2 fun z8=>some (.tuple ⟨[iI z7,iI z8]⟩,w1))
 (cond (x==5)
 (aSome k fun p_1=>gPtr (add p_1 3) w fun z9=>gInt .i64 ⟨b,1,none⟩ w fun z10=>bnd (C Ev3 [.pointer z9,iI env,iI z10] w) fun q3 w2=>as2 q3 fun q4 q5=>aInt .i64 q4 fun z11=>aInt .i64 q5 fun z12=>some (.tuple ⟨[iI z11,iI z12]⟩,w2))
 (cond (x==6)
 (aSome k fun p_2=>gPtr (add p_2 4) w fun z13=>aSome k fun p_3=>gSl (add p_3 0) w fun z14 xn _=>aSome z14 fun p_4=>ck ((0:Int)≤env∧env<(xn:Int)) (gInt .i64 (add (B1 p_4) (Int.toNat env*1)) w fun z15=>bnd (C Az6 [.pointer z13,iI z15] w) fun q6 w3=>as2 q6 fun q7 q8=>aInt .i64 q7 fun z16=>aInt .i64 q8 fun z17=>some (.tuple ⟨[iI z16,iI z17]⟩,w3)))
 (cond (x==7)
 (aSome k fun p_5=>gPtr (add p_5 4) w fun z18=>aSome k fun p_6=>gSl (add p_6 0) w fun z19 xn_1 _=>aSome z19 fun p_7=>ck ((0:Int)≤env∧env<(xn_1:Int)) (gInt .i64 (add (B1 p_7) (Int.toNat env*1)) w fun z20=>gInt .i64 ⟨b,3,none⟩ w fun z21=>bnd (C A27 [.pointer z18,iI z20,iI z21] w) fun q9 w4=>aInt .i64 q9 fun z22=>some (.tuple ⟨[iI 0,iI z22]⟩,w4)))
 (cond (x==8)
 (gAgg ⟨b,0,none⟩ 7 w fun z23=>bnd (C A76 [.pointer k,iI env,.agg ⟨z23⟩] w) fun q10 w5=>as2 q10 fun q11 q12=>aInt .i64 q11 fun z24=>aInt .i64 q12 fun z25=>some (.tuple ⟨[iI z24,iI z25]⟩,w5))
 (cond (x==9)
 (gAgg ⟨b,0,none⟩ 7 w fun z26=>bnd (C A82 [.pointer k,iI env,.agg ⟨z26⟩] w) fun q13 w6=>aInt .i64 q13 fun z27=>some (.tuple ⟨[iI 0,iI z27]⟩,w6))
 (cond (x==10)
 (aSome k fun p_8=>gInt .i64 (add p_8 7) w fun z28=>some (.tuple ⟨[iI z28,iI 0]⟩,w))
 (some (.tuple ⟨[iI 0,iI 7]⟩,w)))))))):=kR
def Dh5:Cuts:=⟨0,[],[],[]⟩
def Ed1:List Item:=A3 Tryz.f93
theorem Gu7 :
 xQ Dh5 C R Aw5 Tryz.f93 Ed1 [(0,iI i)] h =
 nw (.cells A6 false [iI 0,iI 0]) h fun b w=>pAgg ⟨b,0,none⟩ [iI 1,iI i] w fun w1=>gAgg ⟨b,0,none⟩ 2 w1 fun x=>some (.agg ⟨x⟩,w1):=kR
def Ag5:Cuts:=⟨0,[],[(8,[6,8,11,12])],[(7,⟨[0,1,2,3,4,5,6,7,8,9],[0,1,3,7,0,31,63,31,159,511],[(7,[5])],[]⟩)]⟩
def As3:List Item:=A3 Tryz.f95
def An3:List Item:=stk [0,1,0,1,0,1,0,1,0,1,0,1,0,0] As3
theorem Ds2 (decode:Value) :
 xQ Ag5 C R I6 Tryz.f95 As3 [(0,.pointer c),(1,.agg ⟨r⟩),(2,decode)] h =
 nw (.cells A6 false r) h fun b w=>nw (.cells B3 false zZ2) w fun p1 w1=>nw (.cells B3 false zZ2) w1 fun p2 w2=>gAgg ⟨b,0,none⟩ 2 w2 fun x=>bnd (C O5 [.pointer c,.agg ⟨x⟩] w2) fun q1 w3=>as2 q1 fun q2 q3=>aSl q2 fun z1 xn xc=>aBool q3 fun z2=>cond (!z2)
 (gAgg ⟨p2,0,none⟩ 36 w3 fun z3=>ck (List.length z3=36) (pAgg ⟨p1,0,none⟩ z3 w3 fun w4=>gAgg ⟨p1,0,none⟩ 36 w4 fun z4=>some (.tuple ⟨[.agg ⟨z4⟩,iI 2]⟩,w4)))
 (aFn decode fun g fi cp=>bnd (C g (fi++([.slice z1 xn xc]++cp)) w3) fun q4 w5=>as2 q4 fun q5 q6=>aAgg q5 fun z5=>aInt .i64 q6 fun z6=>nw (.cells B3 false zZ2) w5 fun p3 w6=>ck (List.length z5=36) (pAgg ⟨p3,0,none⟩ z5 w6 fun w7=>cond (z6==2)
 (aSome c fun p=>gMap (add p 3) w7 fun z7=>gAgg ⟨b,0,none⟩ 2 w7 fun z8=>keyN PR A6 (.agg ⟨z8⟩) (opt z7 fun q7=>mapAt w7 q7 fun es _=>opt (Ao1 (iI 0) (.agg ⟨z8⟩) es) fun f=>aInt .i64 f.1 fun z9=>keyN PR A6 (.agg ⟨z8⟩) (opt z7 fun q8=>mapAt w7 q8 fun es_1 cl_1=>opt (Ea8 (iI 0) (.agg ⟨z8⟩) es_1 cl_1) fun f_1=>aInt .i64 f_1.1 fun _=>lt (H.set w7 q8 f_1.2.2) fun w8=>keyN PR A6 (.agg ⟨z8⟩) (opt z7 fun q9=>mapAt w8 q9 fun es_2 _=>opt (Ao1 (iI 0) (.agg ⟨z8⟩) es_2) fun f_2=>aInt .i64 f_2.1 fun z11=>same (iI z9) (iI z11) (opt z7 fun q10=>mapAt w8 q10 fun es_3 cl_3=>opt (Br3 (f_1.2.1:Int) es_3 0) fun i=>lt (H.set w8 q10 (.map (modN (fun e=>{ e with val:=iI (wrap .i64 (z9+1)) }) i es_3) cl_3)) fun w9=>R I6 An3 [(6,pP p1),(8,pP p2),(11,pP p3),(12,iI z6)] w9)))))
 (R I6 An3 [(6,pP p1),(8,pP p2),(11,pP p3),(12,iI z6)] w7))):=kR
theorem Ba7 (x6:Addr) (nonev:Addr) (isv:Int) :
 xQ Ag5 C R I6 Tryz.f95 An3 [(6,.pointer (some x6)),(8,.pointer (some nonev)),(11,.pointer (some v)),(12,iI isv)] h =
 cond (isv != 1)
 (gAgg nonev 36 h fun x=>ck (List.length x=36) (pAgg x6 x h fun w=>gAgg x6 36 w fun z1=>some (.tuple ⟨[.agg ⟨z1⟩,iI isv]⟩,w)))
 (gAgg v 36 h fun z2=>ck (List.length z2=36) (pAgg x6 z2 h fun w1=>gAgg x6 36 w1 fun z3=>some (.tuple ⟨[.agg ⟨z3⟩,iI isv]⟩,w1))):=kR
def Bv9:Cuts:=⟨0,[],[],[]⟩
def Dp7:List Item:=A3 Tryz.f98
theorem Gb3 :
 xQ Bv9 C R Ak2 Tryz.f98 Dp7 [(0,.slice b bn bc)] h =
 cond ((bn:Int) != 4)
 (some (.tuple ⟨[iI 0,iI 2]⟩,h))
 (aSome b fun p=>ck ((0:Int)≤0∧0<(bn:Int)) (gInt .u8 (add (B1 p) (Int.toNat 0*1)) h fun x=>bnd (C Ah9 [iI (wrap .i64 (x))] h) fun r w=>as2 r fun q1 q2=>aSl q1 fun z1 xn _=>aBool q2 fun z2=>bnd (cond (!z2) (some (true,w)) (gCells z1 xn w fun cs=>asBytes cs fun l=>gCells b bn w fun cs_1=>asBytes cs_1 fun l_1=>some (!((ByteArray.mk ⟨l⟩).toList==(ByteArray.mk ⟨l_1⟩).toList),w))) fun c w1=>cond c
 (some (.tuple ⟨[iI 0,iI 2]⟩,w1))
 (aSome b fun p_1=>ck ((0:Int)≤0∧0<(bn:Int)) (gInt .u8 (add (B1 p_1) (Int.toNat 0*1)) w1 fun z3=>some (.tuple ⟨[iI (wrap .i64 (z3)),iI 1]⟩,w1))))):=kR
def Bf5:Cuts:=⟨0,[],[],[(2,⟨[0,1,2,3,4,5,6,7,8,9],[0,1,3,3,3,19,51,127,255,511],[],[]⟩)]⟩
def Da5:List Item:=A3 Tryz.f109
theorem Eo5 :
 xQ Bf5 C R Z7 Tryz.f109 Da5 [(0,.pointer c),(1,.agg ⟨r⟩)] h =
 nw (.cells A6 false r) h fun b w=>gAgg ⟨b,0,none⟩ 2 w fun x=>bnd (C W2 [.pointer c,.agg ⟨x⟩] w) fun q1 w1=>as4 q1 fun q2 q3 q4 q5=>aInt .i64 q2 fun _=>aInt .i64 q3 fun _=>aInt .i64 q4 fun z3=>aBool q5 fun z4=>bnd (cond z4 (gAgg ⟨b,0,none⟩ 2 w1 fun z5=>ck ((0:Int)≤z3∧(z3:Int)≤z3∧z3≤(A8:Int)) (nw (.cells A2 false (G9 (Int.toNat z3) [.int .u8 0])) w1 fun p1 w2=>gCells (some ⟨p1,0,none⟩) (Int.toNat z3) w2 fun cs=>asBytes cs fun l=>bnd (C M7 [.pointer c,.agg ⟨z5⟩,.string (ByteArray.mk ⟨l⟩)] w2) fun q6 w3=>aBool q6 fun z6=>some (z6,w3))) (some (false,w1))) fun c_1 w4=>some (.bool c_1,w4):=kR
def Dh0:Cuts:=⟨0,[],[],[]⟩
def Ef8:List Item:=A3 Tryz.f111
theorem Gw1 :
 xQ Dh0 C R Aw4 Tryz.f111 Ef8 [(0,iI i)] h =
 nw (.cells A6 false [iI 0,iI 0]) h fun b w=>pAgg ⟨b,0,none⟩ [iI 2,iI i] w fun w1=>gAgg ⟨b,0,none⟩ 2 w1 fun x=>some (.agg ⟨x⟩,w1):=kR
def De1:Cuts:=⟨0,[],[],[]⟩
def Ef5:List Item:=A3 Tryz.f112
theorem Gu3 :
 xQ De1 C R Aw7 Tryz.f112 Ef5 [(0,.slice b bn bc)] h =
 nw (.cells D7 false [iI 0,iI 0,iI 0,iI 0]) h fun p1 w=>bnd (cond ((bn:Int)==8) (bnd (C Ar5 [.slice b bn bc] w) fun r w1=>aBool r fun x=>some (x,w1)) (some (false,w))) fun c w2=>cond c
 (pAgg ⟨p1,0,none⟩ [iI 0,iI 0,iI 0,iI 0] w2 fun w3=>gAgg ⟨p1,0,none⟩ 4 w3 fun z1=>some (.tuple ⟨[.agg ⟨z1⟩,iI 0]⟩,w3))
 (bnd (C Bh5 [] w2) fun q1 w4=>aPtr q1 fun z2=>bnd (C W5 [.pointer z2,.slice b bn bc] w4) fun q2 w5=>as2 q2 fun q3 q4=>aAgg q3 fun z3=>aBool q4 fun z4=>nw (.cells D7 false [iI 0,iI 0,iI 0,iI 0]) w5 fun p2 w6=>ck (List.length z3=4) (pAgg ⟨p2,0,none⟩ z3 w6 fun w7=>cond (!z4)
 (pAgg ⟨p1,0,none⟩ [iI 0,iI 0,iI 0,iI 0] w7 fun w8=>gAgg ⟨p1,0,none⟩ 4 w8 fun z5=>some (.tuple ⟨[.agg ⟨z5⟩,iI 2]⟩,w8))
 (gAgg ⟨p2,0,none⟩ 4 w7 fun z6=>ck (List.length z6=4) (pAgg ⟨p1,0,none⟩ z6 w7 fun w9=>gAgg ⟨p1,0,none⟩ 4 w9 fun z7=>some (.tuple ⟨[.agg ⟨z7⟩,iI 1]⟩,w9))))):=kR
def Df4:Cuts:=⟨0,[],[],[(1,⟨[1,0,2,3,4,5,6],[0,0,3,7,7,31,63],[(0,[1])],[]⟩)]⟩
def Ed0:List Item:=A3 Tryz.f114
theorem Gw2 :
 xQ Df4 C R Bb2 Tryz.f114 Ed0 [(0,.agg ⟨f⟩)] h =
 nw (.cells D7 false f) h fun b w=>gAgg ⟨b,0,none⟩ 4 w fun x=>bnd (C Bh5 [] w) fun r w1=>aPtr r fun z1=>gAgg ⟨b,0,none⟩ 4 w1 fun z2=>same (.agg ⟨x⟩) (.agg ⟨z2⟩) (bnd (C W6 [.pointer z1,.agg ⟨x⟩] w1) fun q1 w2=>as2 q1 fun q2 q3=>aSl q2 fun z3 xn xc=>aBool q3 fun z4=>some (.tuple ⟨[.slice z3 xn xc,.bool z4]⟩,w2)):=kR
def A55:Cuts:=⟨0,[],[],[(5,⟨[0,1,2,3,4,5,6],[0,0,0,0,14,31,63],[(4,[0])],[]⟩)]⟩
def Bx7:List Item:=A3 Tryz.f118
theorem Ea1 :
 xQ A55 C R Ac6 Tryz.f118 Bx7 [(0,.pointer c),(1,.agg ⟨r⟩)] h =
 nw (.cells A6 false r) h fun b w=>nw (.cells B3 false zZ2) w fun p1 w1=>gAgg ⟨b,0,none⟩ 2 w1 fun x=>bnd (C S6 [.pointer c,.agg ⟨x⟩] w1) fun q1 w2=>as2 q1 fun q2 q3=>aStr q2 fun z1=>aBool q3 fun z2=>cond (!z2)
 (pAgg ⟨p1,0,none⟩ zZ2 w2 fun w3=>gAgg ⟨p1,0,none⟩ 36 w3 fun z3=>some (.tuple ⟨[.agg ⟨z3⟩,iI 2]⟩,w3))
 (bnd (C Ae3 [.string z1] w2) fun q4 w4=>as2 q4 fun q5 q6=>aAgg q5 fun z4=>aInt .i64 q6 fun z5=>nw (.cells B3 false zZ2) w4 fun p2 w5=>ck (List.length z4=36) (pAgg ⟨p2,0,none⟩ z4 w5 fun w6=>gAgg ⟨p2,0,none⟩ 36 w6 fun z6=>gAgg ⟨b,0,none⟩ 2 w6 fun z7=>bnd (C Z8 [.pointer c,.agg ⟨z7⟩,iI z5] w6) fun q7 w7=>aInt .i64 q7 fun z8=>gAgg ⟨p2,0,none⟩ 36 w7 fun z9=>same (.agg ⟨z6⟩) (.agg ⟨z9⟩) (ck (List.length z6=36) (pAgg ⟨p1,0,none⟩ z6 w7 fun w8=>gAgg ⟨p1,0,none⟩ 36 w8 fun z10=>some (.tuple ⟨[.agg ⟨z10⟩,iI z8]⟩,w8))))):=kR
def Dg9:Cuts:=⟨0,[],[],[]⟩
def Ef3:List Item:=A3 Tryz.f129
theorem Gv3 (m:Option Addr) :
 xQ Dg9 C R A88 Tryz.f129 Ef3 [(0,.pointer m)] h =
 aSome m fun p=>gSl (add p 0) h fun _ xn _=>some (iI (xn:Int),h):=kR
def Bn7:Cuts:=⟨0,[],[],[]⟩
def Dj7:List Item:=A3 Tryz.f131
theorem E54 :
 xQ Bn7 C R Ap1 Tryz.f131 Dj7 [(0,iI n)] h =
 bnd (cond (decide (n≥0)) (some (decide (n≤65536),h)) (some (false,h))) fun c w=>some (.bool c,w):=kR
def B72:Cuts:=⟨0,[],[],[]⟩
def D60:List Item:=A3 Tryz.f132
theorem Gn8 :
 xQ B72 C R Ai6 Tryz.f132 D60 [(0,.pointer s),(1,iI env)] h =
 bnd (cond (decide (env≥0)) (aSome s fun p=>gSl (add p 0) h fun _ xn _=>some (decide (env<(xn:Int)),h)) (some (false,h))) fun c w=>some (.bool c,w):=kR
def Bq6:Cuts:=⟨0,[],[],[]⟩
def Dj4:List Item:=A3 Tryz.f143
theorem E55 (to:Int) (give:Int) :
 xQ Bq6 C R A34 Tryz.f143 Dj4 [(0,.pointer s),(1,iI env),(2,iI name),(3,iI to),(4,iI give),(5,iI lo),(6,iI n)] h =
 bnd (C Ay6 [.pointer s,iI env,iI name] h) fun r w=>as2 r fun q1 q2=>aAgg q1 fun x=>aInt .i64 q2 fun z1=>nw (.cells O8 false [iI 0,iI 0,iI 0,iI 0,iI 0,iI 0]) w fun b w1=>ck (List.length x=6) (pAgg ⟨b,0,none⟩ x w1 fun w2=>cond (z1 != 0)
 (some (.tuple ⟨[iI 0,iI z1]⟩,w2))
 (gInt .i64 ⟨b,1,none⟩ w2 fun z2=>bnd (cond ((B5 .i64 z2 4)==0) (some (true,w2)) (gInt .i64 ⟨b,1,none⟩ w2 fun z3=>some ((N9 .i64 give z3) != 0,w2))) fun c w3=>cond c
 (some (.tuple ⟨[iI 0,iI 3]⟩,w3))
 (bnd (C Ai6 [.pointer s,iI to] w3) fun q3 w4=>aBool q3 fun z4=>bnd (cond (!z4) (some (true,w4)) (some (decide (lo<0),w4))) fun c_1 w5=>bnd (cond c_1 (some (true,w5)) (some (decide (n<0),w5))) fun c_2 w6=>bnd (cond c_2 (some (true,w6)) (gInt .i64 ⟨b,3,none⟩ w6 fun z5=>some (decide (lo>z5),w6))) fun c_3 w7=>bnd (cond c_3 (some (true,w7)) (gInt .i64 ⟨b,3,none⟩ w7 fun z6=>some (decide (n>(wrap .i64 (z6-lo))),w7))) fun c_4 w8=>cond c_4
 (some (.tuple ⟨[iI 0,iI 1]⟩,w8))
 (gInt .i64 ⟨b,0,none⟩ w8 fun z7=>gInt .i64 ⟨b,2,none⟩ w8 fun z8=>bnd (C Ax4 [.pointer s,iI to,.agg ⟨[iI z7,iI give,iI (wrap .i64 (z8+lo)),iI n,iI env,iI name]⟩] w8) fun q4 w9=>as2 q4 fun q5 q6=>aInt .i64 q5 fun z9=>aInt .i64 q6 fun z10=>some (.tuple ⟨[iI z9,iI z10]⟩,w9))))):=kR
def Bv8:Cuts:=⟨0,[],[],[]⟩
def Dp0:List Item:=A3 Tryz.f147
theorem Gb5 (c:List Value) :
 xQ Bv8 C R A76 Tryz.f147 Dp0 [(0,.pointer k),(1,iI env),(2,.agg ⟨c⟩)] h =
 nw (.cells Be5 false c) h fun b w=>gInt .i64 ⟨b,3,none⟩ w fun x=>bnd (C Ax6 [.pointer k,iI env,iI x] w) fun r w1=>as2 r fun q1 q2=>aPtr q1 fun z1=>aInt .i64 q2 fun z2=>cond (z2 != 0)
 (some (.tuple ⟨[iI 0,iI z2]⟩,w1))
 (aSome k fun p=>gInt .i64 (add p 7) w1 fun z3=>bnd (C B7 [.pointer z1,iI env,iI z3] w1) fun q3 w2=>as2 q3 fun q4 q5=>aInt .i64 q4 fun z4=>aBool q5 fun _=>some (.tuple ⟨[iI z4,iI 0]⟩,w2)):=kR
def Be9:Cuts:=⟨0,[(3,[0,3,4])],[],[]⟩
def B35:List Item:=A3 Tryz.f157
def Am7:List Item:=stk [0,1,0,1,0,0,1,4,5] B35
theorem Gk8 (n:Option Addr) :
 xQ Be9 C R S9 Tryz.f157 B35 [(0,.pointer n)] h =
 R S9 Am7 [(0,.pointer n),(3,.slice none 0 0),(4,iI 0)] h:=kR
theorem Dd5 (n:Option Addr) :
 xQ Be9 C R S9 Tryz.f157 Am7 [(0,.pointer n),(3,.slice out outn outc),(4,iI i)] h =
 aSome n fun p=>gSl (add p 0) h fun _ xn _=>cond (decide (i<(xn:Int)))
 (aSome n fun p_1=>gSl (add p_1 0) h fun z1 xn_1 _=>aSome z1 fun p_2=>ck ((0:Int)≤i∧i<(xn_1:Int)) (gBool (add (add (B1 p_2) (Int.toNat i*2)) 1) h fun z2=>cond z2
 (aSome n fun p_3=>gSl (add p_3 0) h fun z3 xn_2 _=>aSome z3 fun p_4=>ck ((0:Int)≤i∧i<(xn_2:Int)) (gInt .i64 (add (add (B1 p_4) (Int.toNat i*2)) 0) h fun z4=>nw (.cells B2 false [iI (wrap .i64 (i+(wrap .i64 (256*z4))))]) h fun b w=>gCells (some ⟨b,0,none⟩) (1*1) w fun cs=>ckB (fitsOpen out B2 w) (apd B2 1 out outn outc 1 cs w fun a an ac w1=>R S9 Am7 [(0,.pointer n),(3,.slice a an ac),(4,iI (wrap .i64 (i+1)))] w1)))
 (R S9 Am7 [(0,.pointer n),(3,.slice out outn outc),(4,iI (wrap .i64 (i+1)))] h)))
 (some (.slice out outn outc,h)):=kR
def Da2:Cuts:=⟨0,[(2,[0,3])],[],[]⟩
def D16:List Item:=A3 Tryz.f166
def Bm0:List Item:=stk [0,1,0,0,1,4,5] D16
theorem Hi6 (b:ByteArray) :
 xQ Da2 C R Ac2 Tryz.f166 D16 [(0,.string b)] h =
 R Ac2 Bm0 [(0,.string b),(3,iI 0)] h:=kR
theorem D68 (b:ByteArray) :
 xQ Da2 C R Ac2 Tryz.f166 Bm0 [(0,.string b),(3,iI i)] h =
 cond (decide (i<((ByteArray.size b:Nat):Int)))
 (ck ((0:Int)≤i∧i<((ByteArray.size b:Nat):Int)) (cond (((List.getD (ByteArray.data b).toList (Int.toNat i) 0).toNat:Int) != 0)
 (some (.bool false,h))
 (R Ac2 Bm0 [(0,.string b),(3,iI (wrap .i64 (i+1)))] h)))
 (some (.bool true,h)):=kR
def Ak8:Cuts:=⟨0,[],[],[(2,⟨[0,1,2,3,4,5,6,7,8,9,10,11,12,13,14],[0,1,3,7,15,31,63,127,255,511,63,63,4095,8191,16383],[],[]⟩)]⟩
def A66:List Item:=A3 Tryz.f176
theorem Dc8 (v:List Value) :
 xQ Ak8 C R W9 Tryz.f176 A66 [(0,.pointer c),(1,.agg ⟨v⟩)] h =
 nw (.cells B3 false v) h fun b w=>aSome c fun p=>gInt .i64 (add p 0) w fun x=>ck ((0:Int)≤x∧(x:Int)≤x∧x≤(A8:Int)) (nw (.cells A2 false (G9 (Int.toNat x) [.int .u8 0])) w fun p1 w1=>aSome c fun p_1=>gFv (add p_1 1) w1 fun z1=>isNilF z1 fun p2=>bnd (cond p2 (some (true,w1)) (aSome c fun p_2=>gFv (add p_2 1) w1 fun z2=>gAgg ⟨b,0,none⟩ 36 w1 fun z3=>aFn z2 fun g fi cp=>bnd (C g (fi++([.agg ⟨z3⟩,.slice (some ⟨p1,0,none⟩) (Int.toNat x) (Int.toNat x)]++cp)) w1) fun r w2=>aBool r fun z4=>some (!z4,w2))) fun c_1 w3=>cond c_1
 (some (.tuple ⟨[.slice none 0 0,.bool false]⟩,w3))
 (some (.tuple ⟨[.slice (some ⟨p1,0,none⟩) (Int.toNat x) (Int.toNat x),.bool true]⟩,w3))):=kR
def B87:Cuts:=⟨0,[],[],[]⟩
def D43:List Item:=A3 Tryz.f178
theorem Gr8 (a:List Value) (b:List Value) :
 xQ B87 C R Bl2 Tryz.f178 D43 [(0,.agg ⟨a⟩),(1,.agg ⟨b⟩)] h =
 nw (.cells A6 false a) h fun p1 w=>nw (.cells A6 false b) w fun p2 w1=>gInt .i64 ⟨p1,0,none⟩ w1 fun x=>gInt .i64 ⟨p2,0,none⟩ w1 fun z1=>bnd (cond (decide (x<z1)) (some (true,w1)) (gInt .i64 ⟨p1,0,none⟩ w1 fun z2=>gInt .i64 ⟨p2,0,none⟩ w1 fun z3=>bnd (cond (z2==z3) (gInt .i64 ⟨p1,1,none⟩ w1 fun z4=>gInt .i64 ⟨p2,1,none⟩ w1 fun z5=>some (decide (z4<z5),w1)) (some (false,w1))) fun c w2=>some (c,w2))) fun c_1 w3=>some (.bool c_1,w3):=kR
def Ag3:Cuts:=⟨0,[(2,[0,3,11,12,13])],[],[(5,⟨[0,1,2,3,4,5,6,7,8,9,10,11,12,13,14,15,16],[0,1,3,7,0,0,32,96,224,0,0,1535,3583,7679,16383,32767,65535],[],[]⟩)]⟩
def Au3:List Item:=A3 Tryz.f181
def Z9:List Item:=stk [0,1,0,0,1,4,5] Au3
theorem Dt3 (v:List Value) :
 xQ Ag3 C R I5 Tryz.f181 Au3 [(0,.pointer t),(1,.agg ⟨v⟩)] h =
 nw (.cells O8 false v) h fun b w=>aSome t fun p=>gSl (add p 0) w fun x xn xc=>R I5 Z9 [(0,.pointer t),(3,pP b),(11,.slice x xn xc),(12,iI (xn:Int)),(13,iI 0)] w:=kR
theorem Bb5 (x11:Option Addr) (x11n x11c:Nat) :
 xQ Ag3 C R I5 Tryz.f181 Z9 [(0,.pointer t),(3,.pointer (some v)),(11,.slice x11 x11n x11c),(12,iI x12),(13,iI x13)] h =
 cond (decide (x13<x12))
 (aSome x11 fun p=>ck ((0:Int)≤x13∧x13<(x11n:Int)) (gAgg (add (B1 p) (Int.toNat x13*8)) 8 h fun x=>nw (.cells Ap8 false [iI 0,iI 0,iI 0,iI 0,iI 0,iI 0,iI 0,.bool false]) h fun b w=>ck (List.length x=8) (pAgg ⟨b,0,none⟩ x w fun w1=>gBool ⟨b,7,none⟩ w1 fun z1=>bnd (cond (!z1) (gInt .i64 ⟨b,6,none⟩ w1 fun z2=>some (decide (z2≤1000000),w1)) (some (false,w1))) fun c w2=>cond c
 (aSome t fun p_1=>gSl (add p_1 0) w2 fun z3 xn _=>aSome t fun p_2=>gSl (add p_2 0) w2 fun z4 xn_1 _=>gAgg v 6 w2 fun z5=>aSome z3 fun p_3=>ck ((0:Int)≤x13∧x13<(xn:Int)) (ck (List.length z5=6) (pAgg (add (add (B1 p_3) (Int.toNat x13*8)) 0) z5 w2 fun w3=>aSome z4 fun p_4=>ck ((0:Int)≤x13∧x13<(xn_1:Int)) (pV (add (add (B1 p_4) (Int.toNat x13*8)) 7) (.bool true) w3 fun w4=>bnd (C N7 [.pointer t,iI x13] w4) fun r w5=>aInt .i64 r fun z6=>some (.tuple ⟨[iI z6,.bool true]⟩,w5)))))
 (R I5 Z9 [(0,.pointer t),(3,.pointer (some v)),(11,.slice x11 x11n x11c),(12,iI x12),(13,iI (wrap .i64 (x13+1)))] w2))))
 (some (.tuple ⟨[iI 0,.bool false]⟩,h)):=kR
def Aq5:Cuts:=⟨0,[],[],[]⟩
def Bi2:List Item:=A3 Tryz.f183
theorem Do6 :
 xQ Aq5 C R N7 Tryz.f183 Bi2 [(0,.pointer t),(1,iI i)] h =
 aSome t fun p=>gSl (add p 0) h fun x xn _=>aSome x fun p_1=>ck ((0:Int)≤i∧i<(xn:Int)) (gInt .i64 (add (add (B1 p_1) (Int.toNat i*8)) 6) h fun z1=>some (iI (wrap .i64 (i+(wrap .i64 (256*z1)))),h)):=kR
def B15:Cuts:=⟨0,[],[],[(1,⟨[0,1,2,3,4,5,6,7,8,9,10,11,12,13,14,15,16,17,18,19,20,21,22,23,24,25,26,27,28],[0,1,3,7,7,23,55,119,247,511,1023,2047,4095,8191,16383,32767,4095,131071,262143,4095,528383,1576959,3674111,4095,16257023,33034239,67108863,134217727,268435455],[],[]⟩)]⟩
def D13:List Item:=A3 Tryz.f191
theorem Gl0 :
 xQ B15 C R Ax6 Tryz.f191 D13 [(0,.pointer k),(1,iI env),(2,iI n)] h =
 bnd (cond (decide (n<0)) (some (true,h)) (aSome k fun p=>gSl (add p 6) h fun _ xn _=>some (decide (n≥(xn:Int)),h))) fun c w=>bnd (cond c (some (true,w)) (aSome k fun p_1=>gSl (add p_1 1) w fun z1 xn_1 _=>aSome z1 fun p_2=>ck ((0:Int)≤n∧n<(xn_1:Int)) (gSl (add (B1 p_2) (Int.toNat n*1)) w fun z2 xn_2 xc_2=>aSome k fun p_3=>gSl (add p_3 0) w fun z3 xn_3 _=>aSome z3 fun p_4=>ck ((0:Int)≤env∧env<(xn_3:Int)) (gInt .i64 (add (B1 p_4) (Int.toNat env*1)) w fun z4=>bnd (C M6 [.slice z2 xn_2 xc_2,iI z4] w) fun r w1=>aBool r fun z5=>some (!z5,w1))))) fun c_1 w2=>cond c_1
 (some (.tuple ⟨[.pointer none,iI 8]⟩,w2))
 (aSome k fun p_5=>gSl (add p_5 6) w2 fun z6 xn_4 _=>aSome z6 fun p_6=>ck ((0:Int)≤n∧n<(xn_4:Int)) (gPtr (add (B1 p_6) (Int.toNat n*1)) w2 fun z7=>some (.tuple ⟨[.pointer z7,iI 0]⟩,w2))):=kR
def Bg6:Cuts:=⟨0,[],[],[]⟩
def B81:List Item:=A3 Tryz.f199
theorem Ek2 :
 xQ Bg6 C R As9 Tryz.f199 B81 [(0,iI size),(1,put),(2,get)] h =
 one put (one get (nw (.cells By2 false [iI (mm2 false (mm2 true size 0) 64),put,get]) h fun b w=>some (pP b,w))):=kR
def Bx2:Cuts:=⟨0,[(3,[0,2,4,31,32,33]),(8,[0,2,4,49])],[],[(1,⟨[0,1,2,3,4,5,6,7,8,9,10,11,12,13,14,15,16,17,18],[0,1,3,7,0,16,48,112,0,256,768,1792,0,4096,12288,28672,65535,0,262143],[],[]⟩),(13,⟨[0,1,2,3,4,5,6,7,8],[0,0,2,6,6,30,62,63,255],[(5,[0])],[]⟩)]⟩
def Di5:List Item:=A3 Tryz.f201
def Df9:List Item:=stk [0,1,0,1,0,0,1,4,5] Di5
def Di1:List Item:=stk [0,1,0,1,0,1,0,0,1,4,5] Di5
theorem Hq3 :
 xQ Bx2 C R Z0 Tryz.f201 Di5 [(0,.slice b bn bc)] h =
 nw (.cells B6 false zZ1) h fun p1 w=>aSome b fun p=>ck ((0:Int)≤0∧0<(bn:Int)) (gInt .u8 (add (B1 p) (Int.toNat 0*1)) w fun x=>aSome b fun p_1=>ck ((0:Int)≤1∧1<(bn:Int)) (gInt .u8 (add (B1 p_1) (Int.toNat 1*1)) w fun z1=>aSome b fun p_2=>ck ((0:Int)≤2∧2<(bn:Int)) (gInt .u8 (add (B1 p_2) (Int.toNat 2*1)) w fun z2=>aSome b fun p_3=>ck ((0:Int)≤3∧3<(bn:Int)) (gInt .u8 (add (B1 p_3) (Int.toNat 3*1)) w fun z3=>nw (.cells B6 false zZ1) w fun p2 w1=>pAgg ⟨p2,0,none⟩ [iI (wrap .i64 (x)),iI (wrap .i64 (z1)),iI (wrap .i64 (z2)),iI (wrap .i64 (z3)),iI 0,iI 0,iI 0,iI 0,iI 0,iI 0,iI 0,iI 0,iI 0,iI 0,iI 0,iI 0] w1 fun w2=>nw (.cells Iv1 false [.pointer (some ⟨p2,4,none⟩),.pointer (some ⟨p2,5,none⟩),.pointer (some ⟨p2,6,none⟩),.pointer (some ⟨p2,7,none⟩)]) w2 fun p3 w3=>R Z0 Df9 [(0,.slice b bn bc),(2,pP p1),(4,pP p2),(31,.slice (some ⟨p3,0,none⟩) 4 4),(32,iI 4),(33,iI 0)] w3)))):=kR
theorem Bc2 (p:Addr) (x31:Option Addr) (x31n x31c:Nat) (x32:Int) (x33:Int) :
 xQ Bx2 C R Z0 Tryz.f201 Df9 [(0,.slice b bn bc),(2,.pointer (some x2)),(4,.pointer (some p)),(31,.slice x31 x31n x31c),(32,iI x32),(33,iI x33)] h =
 cond (decide (x33<x32))
 (aSome x31 fun p_1=>ck ((0:Int)≤x33∧x33<(x31n:Int)) (gPtr (add (B1 p_1) (Int.toNat x33*1)) h fun x=>bnd (C B61 [.slice b bn bc,iI (wrap .i64 (4+(wrap .i64 (2*x33))))] h) fun r w=>as2 r fun q1 q2=>aInt .i64 q1 fun z1=>aBool q2 fun _=>aSome x fun p_2=>pV p_2 (iI z1) w fun w1=>R Z0 Df9 [(0,.slice b bn bc),(2,.pointer (some x2)),(4,.pointer (some p)),(31,.slice x31 x31n x31c),(32,iI x32),(33,iI (wrap .i64 (x33+1)))] w1))
 (R Z0 Di1 [(0,.slice b bn bc),(2,.pointer (some x2)),(4,.pointer (some p)),(49,iI 0)] h):=kR
theorem Z3 (p:Addr) (x49:Int) :
 xQ Bx2 C R Z0 Tryz.f201 Di1 [(0,.slice b bn bc),(2,.pointer (some x2)),(4,.pointer (some p)),(49,iI x49)] h =
 cond (decide (x49<8))
 (aSome b fun p_1=>ck ((0:Int)≤wrap .i64 (12+x49)∧wrap .i64 (12+x49)<(bn:Int)) (gInt .u8 (add (B1 p_1) (Int.toNat (wrap .i64 (12+x49))*1)) h fun x=>ck ((0:Int)≤x49∧x49<((8:Nat):Int)) (pV (add (add p 8) (Int.toNat x49*1)) (iI (wrap .i64 (x))) h fun w=>R Z0 Di1 [(0,.slice b bn bc),(2,.pointer (some x2)),(4,.pointer (some p)),(49,iI (wrap .i64 (x49+1)))] w)))
 (gAgg p 16 h fun z1=>bnd (C Bb9 [.agg ⟨z1⟩] h) fun r w1=>as2 r fun q1 q2=>aSl q1 fun z2 xn xc=>aBool q2 fun z3=>gAgg p 16 w1 fun z4=>bnd (cond z3 (bnd (C D2 [.slice z2 xn xc,.slice b bn bc] w1) fun q3 w2=>aBool q3 fun z5=>gAgg p 16 w2 fun z6=>same (.agg ⟨z4⟩) (.agg ⟨z6⟩) (some (z5,w2))) (some (false,w1))) fun c w3=>ck (List.length z4=16) (pAgg x2 z4 w3 fun w4=>gAgg x2 16 w4 fun z7=>some (.tuple ⟨[.agg ⟨z7⟩,.bool c]⟩,w4))):=kR
def Be3:Cuts:=⟨0,[],[],[]⟩
def Dc0:List Item:=A3 Tryz.f202
theorem Em6 :
 xQ Be3 C R At9 Tryz.f202 Dc0 [(0,iI size),(1,put),(2,get)] h =
 one put (one get (nw (.cells Bz2 false [iI (mm2 false (mm2 true size 0) 64),put,get]) h fun b w=>some (pP b,w))):=kR
def Eq4:Cuts:=⟨0,[],[],[(1,⟨[0,1,2,3,4,5,6,7,8,9,10,11,12,13,14,15,16,17,18],[0,1,3,7,0,16,48,112,0,256,768,1792,0,4096,12288,28672,65535,0,262143],[],[]⟩),(2,⟨[0,1,2,3,4],[0,1,0,4,15],[],[]⟩),(4,⟨[0,1,2,3,4,5,6,7,8],[0,0,2,6,6,30,62,63,255],[(5,[0])],[]⟩)]⟩
def Gs0:List Item:=A3 Tryz.f204
theorem H68 :
 xQ Eq4 C R Bt1 Tryz.f204 Gs0 [(0,.slice b bn bc)] h =
 nw (.cells B3 false zZ2) h fun p1 w=>aSome b fun p=>ck ((0:Int)≤1∧1<(bn:Int)) (gInt .u8 (add (B1 p) (Int.toNat 1*1)) w fun x=>aSome b fun p_1=>ck ((0:Int)≤2∧2<(bn:Int)) (gInt .u8 (add (B1 p_1) (Int.toNat 2*1)) w fun z1=>aSome b fun p_2=>ck ((0:Int)≤3∧3<(bn:Int)) (gInt .u8 (add (B1 p_2) (Int.toNat 3*1)) w fun z2=>aSome b fun p_3=>ck ((0:Int)≤4∧4<(bn:Int)) (gInt .u8 (add (B1 p_3) (Int.toNat 4*1)) w fun z3=>nw (.cells B3 false zZ2) w fun p2 w1=>pAgg ⟨p2,0,none⟩ [iI (wrap .i64 (x)),iI (wrap .i64 (z1)),iI (wrap .i64 (z2)),iI (wrap .i64 (z3)),.int .u8 0,.int .u8 0,.int .u8 0,.int .u8 0,.int .u8 0,.int .u8 0,.int .u8 0,.int .u8 0,.int .u8 0,.int .u8 0,.int .u8 0,.int .u8 0,.int .u8 0,.int .u8 0,.int .u8 0,.int .u8 0,.int .u8 0,.int .u8 0,.int .u8 0,.int .u8 0,.int .u8 0,.int .u8 0,.int .u8 0,.int .u8 0,.int .u8 0,.int .u8 0,.int .u8 0,.int .u8 0,.int .u8 0,.int .u8 0,.int .u8 0,.int .u8 0] w1 fun w2=>ckB (liveA ⟨p2,4,none⟩ w2) (ckB (fitsOpen b A2 w2) (ck ((0:Int)≤8∧8≤(bn:Int)) (gCells (G7 b (decide (Int.toNat 8<bc)) ((Int.toNat 8)*1)) (min (bn-(Int.toNat 8)) (32-0)*1) w2 fun cs=>pCells (G7 (some ⟨p2,4,none⟩) (decide (0<32)) (0*1)) cs w2 fun w3=>gAgg ⟨p2,0,none⟩ 36 w3 fun z4=>bnd (C A16 [.agg ⟨z4⟩] w3) fun r w4=>as2 r fun q1 q2=>aSl q1 fun z5 xn xc=>aBool q2 fun z6=>gAgg ⟨p2,0,none⟩ 36 w4 fun z7=>bnd (cond z6 (bnd (C D2 [.slice z5 xn xc,.slice b bn bc] w4) fun q3 w5=>aBool q3 fun z8=>gAgg ⟨p2,0,none⟩ 36 w5 fun z9=>same (.agg ⟨z7⟩) (.agg ⟨z9⟩) (some (z8,w5))) (some (false,w4))) fun c w6=>ck (List.length z7=36) (pAgg ⟨p1,0,none⟩ z7 w6 fun w7=>gAgg ⟨p1,0,none⟩ 36 w7 fun z10=>some (.tuple ⟨[.agg ⟨z10⟩,.bool c]⟩,w7))))))))):=kR
def Eb4:Cuts:=⟨0,[],[],[(1,⟨[0,1,2,3,4,5,6,7,8,9,10,11,12,13,14,15,16,17,18],[0,1,3,7,0,16,48,112,0,256,768,1792,0,4096,12288,28672,65535,0,262143],[],[]⟩),(3,⟨[0,1,2,3,4,5,6,7,8],[0,0,2,6,6,30,62,63,255],[(5,[0])],[]⟩)]⟩
def Ge9:List Item:=A3 Tryz.f207
theorem Hu1 :
 xQ Eb4 C R Av9 Tryz.f207 Ge9 [(0,.slice b bn bc)] h =
 nw (.cells D7 false [iI 0,iI 0,iI 0,iI 0]) h fun p1 w=>aSome b fun p=>ck ((0:Int)≤0∧0<(bn:Int)) (gInt .u8 (add (B1 p) (Int.toNat 0*1)) w fun x=>aSome b fun p_1=>ck ((0:Int)≤1∧1<(bn:Int)) (gInt .u8 (add (B1 p_1) (Int.toNat 1*1)) w fun z1=>aSome b fun p_2=>ck ((0:Int)≤2∧2<(bn:Int)) (gInt .u8 (add (B1 p_2) (Int.toNat 2*1)) w fun z2=>aSome b fun p_3=>ck ((0:Int)≤3∧3<(bn:Int)) (gInt .u8 (add (B1 p_3) (Int.toNat 3*1)) w fun z3=>nw (.cells D7 false [iI 0,iI 0,iI 0,iI 0]) w fun p2 w1=>pAgg ⟨p2,0,none⟩ [iI (wrap .i64 (x)),iI (wrap .i64 (z1)),iI (wrap .i64 (z2)),iI (wrap .i64 (z3))] w1 fun w2=>gAgg ⟨p2,0,none⟩ 4 w2 fun z4=>bnd (C Bb2 [.agg ⟨z4⟩] w2) fun r w3=>as2 r fun q1 q2=>aSl q1 fun z5 xn xc=>aBool q2 fun z6=>gAgg ⟨p2,0,none⟩ 4 w3 fun z7=>bnd (cond z6 (bnd (C D2 [.slice z5 xn xc,.slice b bn bc] w3) fun q3 w4=>aBool q3 fun z8=>gAgg ⟨p2,0,none⟩ 4 w4 fun z9=>same (.agg ⟨z7⟩) (.agg ⟨z9⟩) (some (z8,w4))) (some (false,w3))) fun c w5=>ck (List.length z7=4) (pAgg ⟨p1,0,none⟩ z7 w5 fun w6=>gAgg ⟨p1,0,none⟩ 4 w6 fun z10=>some (.tuple ⟨[.agg ⟨z10⟩,.bool c]⟩,w6)))))):=kR
def Ax3:Cuts:=⟨0,[],[],[]⟩
def Bn9:List Item:=A3 Tryz.f211
theorem Du9 :
 xQ Ax3 C R Ah5 Tryz.f211 Bn9 [(0,.pointer t),(1,iI name)] h =
 bnd (cond (decide (name<0)) (some (true,h)) (aSome t fun p=>gSl (add p 0) h fun _ xn _=>some (decide ((B5 .i64 name 255)≥(xn:Int)),h))) fun c w=>bnd (cond c (some (true,w)) (aSome t fun p_1=>gSl (add p_1 0) w fun z1 xn_1 _=>aSome z1 fun p_2=>ck ((0:Int)≤B5 .i64 name 255∧B5 .i64 name 255<(xn_1:Int)) (gBool (add (add (B1 p_2) (Int.toNat (B5 .i64 name 255)*8)) 7) w fun z2=>some (!z2,w)))) fun c_1 w1=>bnd (cond c_1 (some (true,w1)) (bnd (C N7 [.pointer t,iI (B5 .i64 name 255)] w1) fun r w2=>aInt .i64 r fun z3=>some (z3 != name,w2))) fun c_2 w3=>cond c_2
 (some (.pointer none,w3))
 (aSome t fun p_3=>gSl (add p_3 0) w3 fun z4 xn_2 _=>aSome z4 fun p_4=>ck ((0:Int)≤B5 .i64 name 255∧B5 .i64 name 255<(xn_2:Int)) (some (.pointer (some (add (B1 p_4) (Int.toNat (B5 .i64 name 255)*8))),w3))):=kR
def Bw4:Cuts:=⟨0,[],[],[]⟩
def Dq1:List Item:=A3 Tryz.f212
theorem Ga6 (who:Int) (stamp:Int) :
 xQ Bw4 C R A85 Tryz.f212 Dq1 [(0,.pointer s),(1,iI who),(2,iI stamp)] h =
 aSome s fun p=>gBool (add p 1) h fun x=>bnd (cond x (aSome s fun p_1=>gInt .i64 (add p_1 2) h fun z1=>some (z1==who,h)) (some (false,h))) fun c w=>bnd (cond c (aSome s fun p_2=>gInt .i64 (add p_2 3) w fun z2=>some (z2==stamp,w)) (some (false,w))) fun c_1 w1=>some (.bool c_1,w1):=kR
def E27:Cuts:=⟨0,[],[],[]⟩
def G11:List Item:=A3 Tryz.f218
theorem If4 :
 xQ E27 C R D59 Tryz.f218 G11 [(0,.agg ⟨p⟩)] h =
 nw (.cells B3 false p) h fun b w=>gInt .i64 ⟨b,0,none⟩ w fun x=>bnd (C Av7 [iI x,iI 31] w) fun r w1=>aBool r fun z1=>bnd (cond z1 (gInt .i64 ⟨b,1,none⟩ w1 fun z2=>bnd (C Av7 [iI z2,iI 32] w1) fun q1 w2=>aBool q1 fun z3=>some (z3,w2)) (some (false,w1))) fun c w3=>bnd (cond c (gInt .i64 ⟨b,2,none⟩ w3 fun z4=>bnd (C Av7 [iI z4,iI 8] w3) fun q2 w4=>aBool q2 fun z5=>some (z5,w4)) (some (false,w3))) fun c_1 w5=>bnd (cond c_1 (gInt .i64 ⟨b,3,none⟩ w5 fun z6=>bnd (C Av7 [iI z6,iI 8] w5) fun q3 w6=>aBool q3 fun z7=>some (z7,w6)) (some (false,w5))) fun c_2 w7=>some (.bool c_2,w7):=kR
def D82:Cuts:=⟨0,[],[],[]⟩
def Ge3:List Item:=A3 Tryz.f224
theorem Hp2 (A8:Int) :
 xQ D82 C R Av7 Tryz.f224 Ge3 [(0,iI n),(1,iI A8)] h =
 bnd (cond (decide (n≥0)) (some (decide (n≤A8),h)) (some (false,h))) fun c w=>some (.bool c,w):=kR
end
end Go.EQ

set_option maxRecDepth 100000
namespace Go.EQ
open Go Go.NN Go.Proofs
open Go.IntKind (wrap)
open Go.Addr (add)
variable (C:D6) (R:Ab3) (nonev:Addr) (grown:Bool) (h:H) (a atv e env first hi i k lo n name now right root who x45 x46 x53 x54 x86 x87 x90 x91:Int) (f p:List Value) (bc bn datac datan lc ln outc outn s1c s1n s2c s2n sc sn x44c x44n x52c x52n x85c x85n x89c x89n:Nat) (b c data l out q r s s1 s2 t x44 x52 x85 x89:Option Addr) (of:Option Nat) (cmp:Value)
noncomputable section
def Dz6:Cuts:=⟨0,[],[],[]⟩
def Ez9:List Item:=A3 Tryz.f5
theorem Hi1 :
 xQ Dz6 C R Bo0 Tryz.f5 Ez9 [] h =
 nw (.cells B83 false [.slice none 0 0,.slice none 0 0,iI 0]) h fun b w=>nw (.cells Gm1 false [.bool false,.bool false]) w fun p1 w1=>nw (.cells B68 false [iI 0,iI 1,iI 1,iI 0]) w1 fun p2 w2=>pAgg ⟨b,0,none⟩ [.slice (some ⟨p1,0,none⟩) 2 2,.slice (some ⟨p2,0,none⟩) 2 2,iI 5] w2 fun w3=>gAgg ⟨b,0,none⟩ 3 w3 fun x=>some (.agg ⟨x⟩,w3):=kR
def Do4:Cuts:=⟨0,[],[],[]⟩
def Er4:List Item:=A3 Tryz.f6
theorem G60 :
 xQ Do4 C R B02 Tryz.f6 Er4 [] h =
 bnd (C Bo0 [] h) fun r w=>aAgg r fun x=>bnd (C Bb0 [.agg ⟨x⟩] w) fun q1 w1=>as4 q1 fun q2 q3 q4 q5=>aPtr q2 fun _=>aPtr q3 fun z2=>aPtr q4 fun _=>aPtr q5 fun _=>cond z2.isNone
 (some (.bool false,w1))
 (bnd (C V0 [.pointer z2,iI 0] w1) fun q6 w2=>as2 q6 fun q7 q8=>aAgg q7 fun z5=>aInt .i64 q8 fun z6=>nw (.cells B6 false zZ1) w2 fun b w3=>ck (List.length z5=16) (pAgg ⟨b,0,none⟩ z5 w3 fun w4=>bnd (C U7 [.pointer z2] w4) fun q9 w5=>as2 q9 fun q10 q11=>aAgg q10 fun z7=>aInt .i64 q11 fun z8=>nw (.cells B3 false zZ2) w5 fun p1 w6=>ck (List.length z7=36) (pAgg ⟨p1,0,none⟩ z7 w6 fun w7=>bnd (C S1 [.pointer z2] w7) fun q12 w8=>as2 q12 fun q13 q14=>aInt .i64 q13 fun z9=>aBool q14 fun z10=>bnd (C A18 [.pointer none,iI 0] w8) fun q15 w9=>as2 q15 fun q16 q17=>aPtr q16 fun _=>aInt .i64 q17 fun z12=>bnd (cond (z6==0) (some (z8==1,w9)) (some (false,w9))) fun c w10=>bnd (cond c (some (z9==0,w10)) (some (false,w10))) fun c_1 w11=>bnd (cond c_1 (some (z10,w11)) (some (false,w11))) fun c_2 w12=>bnd (cond c_2 (some (z12==1,w12)) (some (false,w12))) fun c_3 w13=>bnd (cond c_3 (bnd (C D4 [.pointer z2] w13) fun q18 w14=>aSl q18 fun _ xn _=>some ((xn:Int)==0,w14)) (some (false,w13))) fun c_4 w15=>bnd (cond c_4 (bnd (C Ad1 [.pointer z2] w15) fun q19 w16=>aSl q19 fun _ xn_1 _=>some ((xn_1:Int)==492,w16)) (some (false,w15))) fun c_5 w17=>some (.bool c_5,w17)))):=kR
def Bk2:Cuts:=⟨0,[],[],[]⟩
def Dd8:List Item:=A3 Tryz.f10
theorem Eu6 (k:Option Addr) :
 xQ Bk2 C R Ab7 Tryz.f10 Dd8 [(0,.pointer k)] h =
 aSome k fun p=>gPtr (add p 5) h fun x=>some (.pointer x,h):=kR
def Bf1:Cuts:=⟨0,[(5,[1,4,20,21,22]),(12,[1,7,58,59,60]),(18,[7,89,90,91]),(22,[7,11,12,89,90,91,122,123,124])],[],[(9,⟨[0,1,3,5,6,7,9,10,2,4,8,11,12,13,14],[0,1,3,0,15,0,32,96,255,0,512,2047,4095,8191,16383],[(2,[6,10]),(4,[6,10]),(8,[10])],[]⟩),(10,⟨[0,1,2,3,4,5,6,7,8,9,10,11,12],[0,0,2,6,14,0,32,96,224,510,1023,2047,4095],[],[]⟩),(14,⟨[0,1,2,3,4,5,6,7,8,9,10,11],[0,0,2,6,14,0,32,96,254,511,1023,2047],[(6,[4])],[]⟩),(15,⟨[0,1,2,3,4,5,6,7,8,9,10,11,12],[0,0,2,6,14,0,32,96,224,510,1023,2047,4095],[(7,[4])],[]⟩),(20,⟨[0,1,2,3,4,5,6,7,8,9,11,12,15,16,18,19,10,13,14,17,20,21,22,23,24,25],[0,1,3,7,0,16,48,112,0,256,1008,0,2048,8176,16368,0,32768,131056,0,262144,1048575,2097151,4194303,4194303,8388607,33554431],[(10,[3,12,16,19])],[]⟩),(25,⟨[0,1,2,3,4,5,6,7,8,9],[0,1,3,7,0,0,0,64,224,511],[],[]⟩)]⟩
def Br0:List Item:=A3 Tryz.f14
def Bz8:List Item:=stk [0,1,0,1,0,1,0,0,1,4,5] Br0
def B06:List Item:=stk [0,1,0,1,0,1,0,1,0,1,0,1,0,0,1,4,5] Br0
def Bj2:List Item:=stk [0,1,0,1,0,1,0,1,0,1,0,1,0,1,0,0,1,4,5] Br0
def Bi7:List Item:=stk [0,1,0,1,0,1,0,1,0,1,0,1,0,1,0,0,1,4,5,6,0,1,0,1,0,4,0,1,0,1,0,1,4,5] Br0
theorem Hy3 (c:List Value) :
 xQ Bf1 C R I3 Tryz.f14 Br0 [(0,.agg ⟨c⟩)] h =
 nw (.cells E3 false c) h fun b w=>gAgg ⟨b,0,none⟩ 5 w fun x=>bnd (C U3 [.agg ⟨x⟩] w) fun r w1=>aBool r fun z1=>cond (!z1)
 (some (.tuple ⟨[.pointer none,iI 1]⟩,w1))
 (gSl ⟨b,0,none⟩ w1 fun z2 xn xc=>R I3 Bz8 [(1,pP b),(4,iI 0),(20,.slice z2 xn xc),(21,iI (xn:Int)),(22,iI 0)] w1):=kR
theorem Es0 (c:Addr) (all:Int) (x20:Option Addr) (x20n x20c:Nat) (x21:Int) (x22:Int) :
 xQ Bf1 C R I3 Tryz.f14 Bz8 [(1,.pointer (some c)),(4,iI all),(20,.slice x20 x20n x20c),(21,iI x21),(22,iI x22)] h =
 cond (decide (x22<x21))
 (aSome x20 fun p=>ck ((0:Int)≤x22∧x22<(x20n:Int)) (gInt .i64 (add (B1 p) (Int.toNat x22*1)) h fun x=>bnd (C Bi3 [iI x] h) fun r w=>aInt .i64 r fun z1=>R I3 Bz8 [(1,.pointer (some c)),(4,iI (wrap .i64 (all+z1))),(20,.slice x20 x20n x20c),(21,iI x21),(22,iI (wrap .i64 (x22+1)))] w))
 (gSl (add c 1) h fun z2 xn xc=>gSl (add c 1) h fun z3 xn_1 xc_1=>gSl (add c 0) h fun z4 xn_2 xc_2=>bnd (C Y3 [.slice z2 xn xc] h) fun q1 w1=>aSl q1 fun z5 xn_3 xc_3=>gSl (add c 1) w1 fun z6 xn_4 xc_4=>same (.slice z3 xn_1 xc_1) (.slice z6 xn_4 xc_4) (gSl (add c 0) w1 fun z7 xn_5 xc_5=>same (.slice z4 xn_2 xc_2) (.slice z7 xn_5 xc_5) (bnd (C D70 [iI all] w1) fun q2 w2=>aPtr q2 fun z8=>gSl (add c 1) w2 fun z9 xn_6 xc_6=>same (.slice z3 xn_1 xc_1) (.slice z9 xn_6 xc_6) (gSl (add c 0) w2 fun z10 xn_7 xc_7=>same (.slice z4 xn_2 xc_2) (.slice z10 xn_7 xc_7) (bnd (C A44 [iI (xn_1:Int)] w2) fun q3 w3=>aPtr q3 fun z11=>gSl (add c 0) w3 fun z12 xn_8 xc_8=>same (.slice z4 xn_2 xc_2) (.slice z12 xn_8 xc_8) (bnd (C Av5 [.slice z4 xn_2 xc_2] w3) fun q4 w4=>aPtr q4 fun z13=>nw (.cells Dj2 false [.slice z5 xn_3 xc_3,.slice none 0 0,.pointer z8,.pointer z11,.pointer z13,.pointer none,.slice none 0 0,iI 0]) w4 fun b w5=>gPtr ⟨b,2,none⟩ w5 fun z14=>gPtr ⟨b,3,none⟩ w5 fun z15=>bnd (C B97 [.pointer z14,.pointer z15] w5) fun q5 w6=>aPtr q5 fun z16=>pV ⟨b,5,none⟩ (.pointer z16) w6 fun w7=>gSl (add c 2) w7 fun z17 xn_9 xc_9=>R I3 B06 [(1,.pointer (some c)),(7,pP b),(58,.slice z17 xn_9 xc_9),(59,iI (xn_9:Int)),(60,iI 0)] w7)))))):=kR
theorem Et1 (c:Addr) (k:Addr) (x58:Option Addr) (x58n x58c:Nat) (x59:Int) (x60:Int) :
 xQ Bf1 C R I3 Tryz.f14 B06 [(1,.pointer (some c)),(7,.pointer (some k)),(58,.slice x58 x58n x58c),(59,iI x59),(60,iI x60)] h =
 cond (decide (x60<x59))
 (aSome x58 fun p=>ck ((0:Int)≤x60∧x60<(x58n:Int)) (gSl (add (B1 p) (Int.toNat x60*1)) h fun x xn xc=>gSl (add k 1) h fun z1 xn_1 xc_1=>bnd (C Y3 [.slice x xn xc] h) fun r w=>aSl r fun z2 xn_2 xc_2=>gSl (add k 1) w fun z3 xn_3 xc_3=>same (.slice z1 xn_1 xc_1) (.slice z3 xn_3 xc_3) (nw (.cells L6 false [.slice z2 xn_2 xc_2]) w fun b w1=>gCells (some ⟨b,0,none⟩) (1*1) w1 fun cs=>ckB (fitsOpen z1 L6 w1) (apd L6 1 z1 xn_1 xc_1 1 cs w1 fun a an ac w2=>pV (add k 1) (.slice a an ac) w2 fun w3=>gSl (add k 6) w3 fun z4 xn_4 xc_4=>gInt .i64 (add c 3) w3 fun z5=>bnd (C Dt5 [iI z5] w3) fun q1 w4=>aPtr q1 fun z6=>gSl (add k 6) w4 fun z7 xn_5 xc_5=>same (.slice z4 xn_4 xc_4) (.slice z7 xn_5 xc_5) (nw (.cells A15 false [.pointer z6]) w4 fun p1 w5=>gCells (some ⟨p1,0,none⟩) (1*1) w5 fun cs_1=>ckB (fitsOpen z4 A15 w5) (apd A15 1 z4 xn_4 xc_4 1 cs_1 w5 fun a_1 an_1 ac_1 w6=>pV (add k 6) (.slice a_1 an_1 ac_1) w6 fun w7=>R I3 B06 [(1,.pointer (some c)),(7,.pointer (some k)),(58,.slice x58 x58n x58c),(59,iI x59),(60,iI (wrap .i64 (x60+1)))] w7))))))
 (gSl (add c 4) h fun z8 xn_6 xc_6=>R I3 Bj2 [(7,.pointer (some k)),(89,.slice z8 xn_6 xc_6),(90,iI (xn_6:Int)),(91,iI 0)] h):=kR
theorem Es7 (k:Addr) :
 xQ Bf1 C R I3 Tryz.f14 Bj2 [(7,.pointer (some k)),(89,.slice x89 x89n x89c),(90,iI x90),(91,iI x91)] h =
 cond (decide (x91<x90))
 (aSome x89 fun p=>ck ((0:Int)≤x91∧x91<(x89n:Int)) (gAgg (add (B1 p) (Int.toNat x91*5)) 5 h fun x=>nw (.cells I9 false [iI 0,iI 0,iI 0,iI 0,.slice none 0 0]) h fun b w=>ck (List.length x=5) (pAgg ⟨b,0,none⟩ x w fun w1=>gPtr (add k 5) w1 fun z1=>gPtr (add k 4) w1 fun z2=>gInt .i64 ⟨b,0,none⟩ w1 fun z3=>gInt .i64 ⟨b,1,none⟩ w1 fun z4=>gInt .i64 ⟨b,2,none⟩ w1 fun z5=>gInt .i64 ⟨b,3,none⟩ w1 fun z6=>bnd (C O9 [.pointer z2,iI z3] w1) fun r w2=>aInt .i64 r fun z7=>gPtr (add k 5) w2 fun z8=>same (.pointer z1) (.pointer z8) (gInt .i64 ⟨b,1,none⟩ w2 fun z9=>same (iI z4) (iI z9) (gInt .i64 ⟨b,2,none⟩ w2 fun z10=>same (iI z5) (iI z10) (gInt .i64 ⟨b,3,none⟩ w2 fun z11=>same (iI z6) (iI z11) (bnd (C As6 [.pointer z1,iI (wrap .i64 ((wrap .i64 ((wrap .i64 (z7+z4))*64))+z5)),iI z6] w2) fun q1 w3=>as2 q1 fun q2 q3=>aInt .i64 q2 fun z12=>aInt .i64 q3 fun _=>gSl (add k 0) w3 fun z14 xn xc=>R I3 Bi7 [(7,.pointer (some k)),(11,pP b),(12,iI z12),(89,.slice x89 x89n x89c),(90,iI x90),(91,iI x91),(122,.slice z14 xn xc),(123,iI (xn:Int)),(124,iI 0)] w3)))))))
 (some (.tuple ⟨[.pointer (some k),iI 0]⟩,h)):=kR
theorem Et9 (k:Addr) (x:Addr) (obj:Int) (x122:Option Addr) (x122n x122c:Nat) (x123:Int) (x124:Int) :
 xQ Bf1 C R I3 Tryz.f14 Bi7 [(7,.pointer (some k)),(11,.pointer (some x)),(12,iI obj),(89,.slice x89 x89n x89c),(90,iI x90),(91,iI x91),(122,.slice x122 x122n x122c),(123,iI x123),(124,iI x124)] h =
 cond (decide (x124<x123))
 (aSome x122 fun p=>ck ((0:Int)≤x124∧x124<(x122n:Int)) (gInt .i64 (add (B1 p) (Int.toNat x124*1)) h fun z1=>gSl (add x 4) h fun z2 xn xc=>bnd (C M6 [.slice z2 xn xc,iI z1] h) fun r w=>aBool r fun z3=>cond z3
 (gPtr (add k 3) w fun z4=>gInt .i64 (add x 3) w fun z5=>bnd (C Bf0 [.pointer z4,iI x124,.agg ⟨[iI obj,iI 3,iI 0,iI z5,iI 0,iI 0]⟩] w) fun q1 w1=>as2 q1 fun q2 q3=>aInt .i64 q2 fun _=>aInt .i64 q3 fun _=>R I3 Bi7 [(7,.pointer (some k)),(11,.pointer (some x)),(12,iI obj),(89,.slice x89 x89n x89c),(90,iI x90),(91,iI x91),(122,.slice x122 x122n x122c),(123,iI x123),(124,iI (wrap .i64 (x124+1)))] w1)
 (R I3 Bi7 [(7,.pointer (some k)),(11,.pointer (some x)),(12,iI obj),(89,.slice x89 x89n x89c),(90,iI x90),(91,iI x91),(122,.slice x122 x122n x122c),(123,iI x123),(124,iI (wrap .i64 (x124+1)))] w)))
 (R I3 Bj2 [(7,.pointer (some k)),(89,.slice x89 x89n x89c),(90,iI x90),(91,iI (wrap .i64 (x91+1)))] h):=kR
def B78:Cuts:=⟨0,[(13,[2,4,6,7])],[],[(7,⟨[0,4,5,1,2,3,6,7,8],[0,1,3,7,0,16,63,127,255],[(1,[5])],[]⟩)]⟩
def Dv4:List Item:=A3 Tryz.f25
def A33:List Item:=stk [0,1,0,1,0,1,0,1,0,1,0,1,0,1,0,1,0,1,0,1,0,0,1,4,5] Dv4
theorem Hg9 :
 xQ B78 C R Ah6 Tryz.f25 Dv4 [(0,.slice l ln lc)] h =
 nw (.cells L6 false [.slice l ln lc]) h fun b w=>nw (.cells B6 false zZ1) w fun p1 w1=>nw (.cells B2 false [iI 0]) w1 fun p2 w2=>pV ⟨p2,0,none⟩ (iI 0) w2 fun w3=>bnd (C I0 [pP p2,pP b] w3) fun r w4=>aInt .i64 r fun x=>nw (.cells B2 false [iI 1,iI 1,iI 3,iI 2]) w4 fun p3 w5=>ck ((0:Int)≤B5 .i64 x 3∧B5 .i64 x 3<((4:Nat):Int)) (gInt .i64 (add (B1 ⟨p3,0,none⟩) (Int.toNat (B5 .i64 x 3)*1)) w5 fun z1=>nw (.cells B6 false zZ1) w5 fun p4 w6=>pAgg ⟨p4,0,none⟩ [iI z1,iI (Int.tmod (B5 .i64 (Int.fdiv x (2 ^ 2)) 15) 9),iI (B5 .i64 (Int.fdiv x (2 ^ 6)) 7),iI 0,iI 0,iI 0,iI 0,iI 0,iI 0,iI 0,iI 0,iI 0,iI 0,iI 0,iI 0,iI 0] w6 fun w7=>bnd (C I0 [pP p2,pP b] w7) fun q1 w8=>aInt .i64 q1 fun z2=>pV ⟨p4,5,none⟩ (iI (N9 .i64 (B5 .i64 z2 65534) 16896)) w8 fun w9=>bnd (C I0 [pP p2,pP b] w9) fun q2 w10=>aInt .i64 q2 fun z3=>bnd (C I0 [pP p2,pP b] w10) fun q3 w11=>aInt .i64 q3 fun z4=>pV ⟨p4,6,none⟩ (iI (N9 .i64 (B5 .i64 (B5 .i64 z3 z4) 65534) 16896)) w11 fun w12=>gInt .i64 ⟨p4,6,none⟩ w12 fun z5=>bnd (C I0 [pP p2,pP b] w12) fun q4 w13=>aInt .i64 q4 fun z6=>gInt .i64 ⟨p4,6,none⟩ w13 fun z7=>same (iI z5) (iI z7) (pV ⟨p4,7,none⟩ (iI (N9 .i64 (N9 .i64 (B5 .i64 z6 65534) 16896) z5)) w13 fun w14=>gInt .i64 ⟨p4,0,none⟩ w14 fun z8=>cond (z8==2)
 (pV ⟨p4,3,none⟩ (iI (B5 .i64 (Int.fdiv x (2 ^ 9)) 255)) w14 fun w15=>gAgg ⟨p4,0,none⟩ 16 w15 fun z9=>ck (List.length z9=16) (pAgg ⟨p1,0,none⟩ z9 w15 fun w16=>gAgg ⟨p1,0,none⟩ 16 w16 fun z10=>some (.agg ⟨z10⟩,w16)))
 (bnd (C I0 [pP p2,pP b] w14) fun q5 w17=>aInt .i64 q5 fun z11=>bnd (C I0 [pP p2,pP b] w17) fun q6 w18=>aInt .i64 q6 fun z12=>pV ⟨p4,4,none⟩ (iI (B5 .i64 (B5 .i64 z11 z12) 65534)) w18 fun w19=>R Ah6 A33 [(2,pP p1),(4,.func (.func I0) ⟨[]⟩ ⟨[pP p2,pP b]⟩),(6,pP p4),(7,iI 0)] w19))):=kR
theorem D77 (x2:Addr) (next:Addr) (next_1:Addr) (p:Addr) :
 xQ B78 C R Ah6 Tryz.f25 A33 [(2,.pointer (some x2)),(4,.func (.func I0) ⟨[]⟩ ⟨[.pointer (some next),.pointer (some next_1)]⟩),(6,.pointer (some p)),(7,iI i)] h =
 cond (decide (i<8))
 (bnd (C I0 [.pointer (some next),.pointer (some next_1)] h) fun r w=>aInt .i64 r fun x=>cond ((B5 .i64 x 3) != 0)
 (ck ((0:Int)≤i∧i<((8:Nat):Int)) (pV (add (add p 8) (Int.toNat i*1)) (iI (Int.tmod (Int.fdiv x (2 ^ 2)) 13)) w fun w1=>R Ah6 A33 [(2,.pointer (some x2)),(4,.func (.func I0) ⟨[]⟩ ⟨[.pointer (some next),.pointer (some next_1)]⟩),(6,.pointer (some p)),(7,iI (wrap .i64 (i+1)))] w1))
 (R Ah6 A33 [(2,.pointer (some x2)),(4,.func (.func I0) ⟨[]⟩ ⟨[.pointer (some next),.pointer (some next_1)]⟩),(6,.pointer (some p)),(7,iI (wrap .i64 (i+1)))] w))
 (gAgg p 16 h fun z1=>ck (List.length z1=16) (pAgg x2 z1 h fun w2=>gAgg x2 16 w2 fun z2=>some (.agg ⟨z2⟩,w2))):=kR
def Aq8:Cuts:=⟨0,[],[],[]⟩
def Bj1:List Item:=A3 Tryz.f31
theorem Do3 :
 xQ Aq8 C R Ad2 Tryz.f31 Bj1 [(0,.pointer c),(1,iI i)] h =
 bnd (C Aw5 [iI i] h) fun r w=>aAgg r fun x=>bnd (C S5 [.pointer c,.agg ⟨x⟩] w) fun q1 w1=>aBool q1 fun z1=>some (.bool z1,w1):=kR
def Ax1:Cuts:=⟨0,[],[],[]⟩
def Bo9:List Item:=A3 Tryz.f32
theorem Dw0 :
 xQ Ax1 C R Aj3 Tryz.f32 Bo9 [(0,.pointer c),(1,iI i)] h =
 bnd (C Z7 [.pointer c,.agg ⟨[iI 1,iI i]⟩] h) fun r w=>aBool r fun x=>some (.bool x,w):=kR
def Av3:Cuts:=⟨0,[],[],[]⟩
def Bk6:List Item:=A3 Tryz.f35
theorem Ds1 :
 xQ Av3 C R Af6 Tryz.f35 Bk6 [(0,.pointer c),(1,iI i),(2,.agg ⟨f⟩)] h =
 nw (.cells D7 false f) h fun b w=>gAgg ⟨b,0,none⟩ 4 w fun x=>bnd (C Bb2 [.agg ⟨x⟩] w) fun r w1=>as2 r fun q1 q2=>aSl q1 fun z1 xn xc=>aBool q2 fun z2=>bnd (C Aw4 [iI i] w1) fun q3 w2=>aAgg q3 fun z3=>bnd (C H1 [.pointer c,.agg ⟨z3⟩,.slice z1 xn xc,.bool z2] w2) fun q4 w3=>aBool q4 fun z4=>some (.bool z4,w3):=kR
def Ar2:Cuts:=⟨0,[],[],[]⟩
def Bi1:List Item:=A3 Tryz.f43
theorem Do0 :
 xQ Ar2 C R Ad6 Tryz.f43 Bi1 [(0,.pointer c),(1,iI i)] h =
 bnd (C Aw8 [iI i] h) fun r w=>aAgg r fun x=>bnd (C S5 [.pointer c,.agg ⟨x⟩] w) fun q1 w1=>aBool q1 fun z1=>some (.bool z1,w1):=kR
def At8:Cuts:=⟨0,[],[],[]⟩
def Bm2:List Item:=A3 Tryz.f46
theorem Dr0 :
 xQ At8 C R Af5 Tryz.f46 Bm2 [(0,.pointer c),(1,.agg ⟨p⟩)] h =
 nw (.cells B3 false p) h fun b w=>gAgg ⟨b,0,none⟩ 36 w fun x=>bnd (C A16 [.agg ⟨x⟩] w) fun r w1=>as2 r fun q1 q2=>aSl q1 fun z1 xn xc=>aBool q2 fun z2=>bnd (C H1 [.pointer c,.agg ⟨[iI 4,iI 0]⟩,.slice z1 xn xc,.bool z2] w1) fun q3 w2=>aBool q3 fun z3=>some (.bool z3,w2):=kR
def Ba1:Cuts:=⟨0,[],[],[]⟩
def B40:List Item:=A3 Tryz.f48
theorem Ed9 :
 xQ Ba1 C R Ae5 Tryz.f48 B40 [(0,.pointer c)] h =
 nw (.cells A6 false [iI 0,iI 0]) h fun b w=>pAgg ⟨b,0,none⟩ [iI 5,iI 0] w fun w1=>gAgg ⟨b,0,none⟩ 2 w1 fun x=>bnd (C S6 [.pointer c,.agg ⟨x⟩] w1) fun r w2=>as2 r fun q1 q2=>aStr q1 fun z1=>aBool q2 fun z2=>cond (!z2)
 (some (.tuple ⟨[iI 0,.bool false]⟩,w2))
 (ck ((0:Int)≤0∧0<((ByteArray.size z1:Nat):Int)) (bnd (cond (decide (((List.getD (ByteArray.data z1).toList (Int.toNat 0) 0).toNat:Int)>7)) (some (true,w2)) (ck ((0:Int)≤0∧0<((ByteArray.size z1:Nat):Int)) (bnd (C Y6 [iI (wrap .i64 (((List.getD (ByteArray.data z1).toList (Int.toNat 0) 0).toNat:Int)))] w2) fun q3 w3=>aStr q3 fun z3=>some (!(z1.toList==z3.toList),w3)))) fun c_1 w4=>cond c_1
 (gAgg ⟨b,0,none⟩ 2 w4 fun z4=>bnd (C G0 [.pointer c,.agg ⟨z4⟩] w4) fun q4 w5=>as0 q4 (some (.tuple ⟨[iI 0,.bool false]⟩,w5)))
 (ck ((0:Int)≤0∧0<((ByteArray.size z1:Nat):Int)) (some (.tuple ⟨[iI (wrap .i64 (((List.getD (ByteArray.data z1).toList (Int.toNat 0) 0).toNat:Int))),.bool true]⟩,w4))))):=kR
def Ar3:Cuts:=⟨0,[],[],[]⟩
def Bh8:List Item:=A3 Tryz.f49
theorem Dn4 (g:Int) :
 xQ Ar3 C R Ad9 Tryz.f49 Bh8 [(0,.pointer c),(1,iI g)] h =
 bnd (C Ah9 [iI g] h) fun r w=>as2 r fun q1 q2=>aSl q1 fun x xn xc=>aBool q2 fun z1=>bnd (C H1 [.pointer c,.agg ⟨[iI 5,iI 0]⟩,.slice x xn xc,.bool z1] w) fun q3 w1=>aBool q3 fun z2=>some (.bool z2,w1):=kR
def Z2:Cuts:=⟨0,[(1,[0,2]),(5,[0,3]),(9,[0,4])],[],[]⟩
def Ai4:List Item:=A3 Tryz.f52
def Am3:List Item:=stk [0,0,1,4,5] Ai4
def Al6:List Item:=stk [0,1,0,0,1,4,5] Ai4
def Al7:List Item:=stk [0,1,0,1,0,0,1,4,5] Ai4
theorem Ek8 :
 xQ Z2 C R D8 Tryz.f52 Ai4 [(0,.pointer c)] h =
 R D8 Am3 [(0,.pointer c),(2,iI 0)] h:=kR
theorem Bu5 :
 xQ Z2 C R D8 Tryz.f52 Am3 [(0,.pointer c),(2,iI i)] h =
 cond (decide (i<8))
 (bnd (C Ai5 [.pointer c,iI i] h) fun r w=>as2 r fun q1 q2=>aAgg q1 fun _=>aInt .i64 q2 fun _=>R D8 Am3 [(0,.pointer c),(2,iI (wrap .i64 (i+1)))] w)
 (R D8 Al6 [(0,.pointer c),(3,iI 0)] h):=kR
theorem Bt5 :
 xQ Z2 C R D8 Tryz.f52 Al6 [(0,.pointer c),(3,iI i)] h =
 cond (decide (i<12))
 (bnd (C Aj4 [.pointer c,iI i] h) fun r w=>as2 r fun q1 q2=>aAgg q1 fun _=>aInt .i64 q2 fun _=>R D8 Al6 [(0,.pointer c),(3,iI (wrap .i64 (i+1)))] w)
 (R D8 Al7 [(0,.pointer c),(4,iI 0)] h):=kR
theorem Bu7 :
 xQ Z2 C R D8 Tryz.f52 Al7 [(0,.pointer c),(4,iI i)] h =
 aSome c fun p=>gSl (add p 2) h fun _ xn _=>cond (decide (i<(wrap .i64 (3+(xn:Int)))))
 (bnd (C Aj7 [.pointer c,iI i] h) fun r w=>as2 r fun q1 q2=>aAgg q1 fun _=>aInt .i64 q2 fun _=>R D8 Al7 [(0,.pointer c),(4,iI (wrap .i64 (i+1)))] w)
 (bnd (C Ai1 [.pointer c] h) fun q3 w1=>as2 q3 fun q4 q5=>aAgg q4 fun _=>aInt .i64 q5 fun _=>bnd (C Ae5 [.pointer c] w1) fun q6 w2=>as2 q6 fun q7 q8=>aInt .i64 q7 fun _=>aBool q8 fun _=>some (.tuple ⟨[]⟩,w2)):=kR
def Be4:Cuts:=⟨0,[],[],[(1,⟨[0,1,2,3,4,5,6,7,8,9,10,11,12,13,14,15,16,17,18,19,20,21,22],[0,1,3,7,0,16,48,112,0,256,768,1792,3840,7936,16128,32767,65535,131071,131071,131071,262143,1572863,4194303],[],[]⟩)]⟩
def B53:List Item:=A3 Tryz.f53
theorem En8 :
 xQ Be4 C R At1 Tryz.f53 B53 [(0,.pointer c)] h =
 aSome c fun p=>gPtr (add p 0) h fun x=>aSome c fun p_1=>gInt .i64 (add p_1 1) h fun z1=>aSome c fun p_2=>gSl (add p_2 2) h fun z2 xn _=>aSome z2 fun p_3=>ck ((0:Int)≤0∧0<(xn:Int)) (gInt .i64 (add (B1 p_3) (Int.toNat 0*1)) h fun z3=>bnd (C U5 [.pointer x,iI z1,.agg ⟨[iI 1,iI z3,iI 0,iI 492,iI 0,iI 0,.slice none 0 0]⟩] h) fun r w=>as3 r fun q1 q2 q3=>aInt .i64 q1 fun z4=>aInt .i64 q2 fun _=>aStr q3 fun z6=>cond (z4 != 0)
 (some (.string (ByteArray.mk ⟨[]⟩),w))
 (some (.string z6,w))):=kR
def Bp9:Cuts:=⟨0,[(7,[1,3,52,53,54]),(13,[1,3,63,64,65])],[],[]⟩
def B63:List Item:=A3 Tryz.f56
def Bk7:List Item:=stk [0,1,0,1,0,1,0,1,0,0,1,4,5] B63
def Bl9:List Item:=stk [0,1,0,1,0,1,0,1,0,1,0,0,1,4,5] B63
theorem Hl7 (c:List Value) :
 xQ Bp9 C R U3 Tryz.f56 B63 [(0,.agg ⟨c⟩)] h =
 nw (.cells E3 false c) h fun b w=>gSl ⟨b,0,none⟩ w fun _ xn _=>bnd (cond (decide ((xn:Int)<1)) (some (true,w)) (gSl ⟨b,0,none⟩ w fun _ xn_1 _=>some (decide ((xn_1:Int)>4),w))) fun c_1 w1=>bnd (cond c_1 (some (true,w1)) (gSl ⟨b,1,none⟩ w1 fun _ xn_2 _=>some (decide ((xn_2:Int)>40),w1))) fun c_2 w2=>bnd (cond c_2 (some (true,w2)) (gSl ⟨b,2,none⟩ w2 fun _ xn_3 _=>some (decide ((xn_3:Int)>8),w2))) fun c_3 w3=>bnd (cond c_3 (some (true,w3)) (gSl ⟨b,4,none⟩ w3 fun _ xn_4 _=>some (decide ((xn_4:Int)>16),w3))) fun c_4 w4=>bnd (cond c_4 (some (true,w4)) (gInt .i64 ⟨b,3,none⟩ w4 fun z5=>some (decide (z5<1),w4))) fun c_5 w5=>bnd (cond c_5 (some (true,w5)) (gInt .i64 ⟨b,3,none⟩ w5 fun z6=>some (decide (z6>1000),w5))) fun c_6 w6=>cond c_6
 (some (.bool false,w6))
 (gSl ⟨b,1,none⟩ w6 fun z7 xn_5 xc_5=>bnd (C E7 [.slice z7 xn_5 xc_5,.func (.func H5) ⟨[]⟩ ⟨[pP b]⟩] w6) fun r w7=>aBool r fun z8=>cond z8
 (some (.bool false,w7))
 (gSl ⟨b,2,none⟩ w7 fun z9 xn_6 xc_6=>R U3 Bk7 [(1,pP b),(3,.func (.func H5) ⟨[]⟩ ⟨[pP b]⟩),(52,.slice z9 xn_6 xc_6),(53,iI (xn_6:Int)),(54,iI 0)] w7)):=kR
theorem D76 (c:Addr) :
 xQ Bp9 C R U3 Tryz.f56 Bk7 [(1,.pointer (some c)),(3,.func (.func H5) ⟨[]⟩ ⟨[.pointer (some nonev)]⟩),(52,.slice x52 x52n x52c),(53,iI x53),(54,iI x54)] h =
 cond (decide (x54<x53))
 (aSome x52 fun p=>ck ((0:Int)≤x54∧x54<(x52n:Int)) (gSl (add (B1 p) (Int.toNat x54*1)) h fun x xn xc=>bnd (C E7 [.slice x xn xc,.func (.func H5) ⟨[]⟩ ⟨[.pointer (some nonev)]⟩] h) fun r w=>aBool r fun z1=>cond z1
 (some (.bool false,w))
 (R U3 Bk7 [(1,.pointer (some c)),(3,.func (.func H5) ⟨[]⟩ ⟨[.pointer (some nonev)]⟩),(52,.slice x52 x52n x52c),(53,iI x53),(54,iI (wrap .i64 (x54+1)))] w)))
 (gSl (add c 4) h fun z2 xn_1 xc_1=>R U3 Bl9 [(1,.pointer (some c)),(3,.func (.func H5) ⟨[]⟩ ⟨[.pointer (some nonev)]⟩),(63,.slice z2 xn_1 xc_1),(64,iI (xn_1:Int)),(65,iI 0)] h):=kR
theorem D75 (c:Addr) (x63:Option Addr) (x63n x63c:Nat) (x64:Int) (x65:Int) :
 xQ Bp9 C R U3 Tryz.f56 Bl9 [(1,.pointer (some c)),(3,.func (.func H5) ⟨[]⟩ ⟨[.pointer (some nonev)]⟩),(63,.slice x63 x63n x63c),(64,iI x64),(65,iI x65)] h =
 cond (decide (x65<x64))
 (aSome x63 fun p=>ck ((0:Int)≤x65∧x65<(x63n:Int)) (gAgg (add (B1 p) (Int.toNat x65*5)) 5 h fun x=>nw (.cells I9 false [iI 0,iI 0,iI 0,iI 0,.slice none 0 0]) h fun b w=>ck (List.length x=5) (pAgg ⟨b,0,none⟩ x w fun w1=>gAgg c 5 w1 fun z1=>gAgg ⟨b,0,none⟩ 5 w1 fun z2=>bnd (C B71 [.agg ⟨z1⟩,.agg ⟨z2⟩] w1) fun r w2=>aBool r fun z3=>bnd (cond (!z3) (some (true,w2)) (gSl ⟨b,4,none⟩ w2 fun z4 xn xc=>bnd (C E7 [.slice z4 xn xc,.func (.func H5) ⟨[]⟩ ⟨[.pointer (some nonev)]⟩] w2) fun q1 w3=>aBool q1 fun z5=>some (z5,w3))) fun c_1 w4=>cond c_1
 (some (.bool false,w4))
 (R U3 Bl9 [(1,.pointer (some c)),(3,.func (.func H5) ⟨[]⟩ ⟨[.pointer (some nonev)]⟩),(63,.slice x63 x63n x63c),(64,iI x64),(65,iI (wrap .i64 (x65+1)))] w4))))
 (some (.bool true,h)):=kR
def Bp3:Cuts:=⟨0,[],[],[(5,⟨[0,1,2,3,4,5,6,7,9,10,11,12,13,14,8,15,16,17,18,19,20,21],[0,0,0,4,12,28,0,64,252,0,512,1536,3584,0,8192,32764,65533,131069,262141,524287,1048575,2097151],[(8,[12])],[]⟩)]⟩
def Dj6:List Item:=A3 Tryz.f72
theorem Ey4 :
 xQ Bp3 C R A42 Tryz.f72 Dj6 [(0,.pointer r),(1,iI lo),(2,iI n)] h =
 aSome r fun p=>gSl (add p 0) h fun _ xn _=>bnd (C Ak5 [iI lo,iI n,iI (xn:Int)] h) fun q1 w=>aBool q1 fun z1=>cond (!z1)
 (some (.tuple ⟨[iI 0,iI 1]⟩,w))
 (aSome r fun p_1=>gSl (add p_1 1) w fun _ xn_1 _=>cond (decide ((xn_1:Int)≥32))
 (some (.tuple ⟨[iI 0,iI 4]⟩,w))
 (aSome r fun p_2=>gSl (add p_2 1) w fun z3 xn_2 xc_2=>nw (.cells B2 false [iI lo]) w fun b w1=>aSome r fun p_3=>gSl (add p_3 2) w1 fun z4 xn_3 xc_3=>nw (.cells B2 false [iI n]) w1 fun p1 w2=>gCells (some ⟨b,0,none⟩) (1*1) w2 fun cs=>ckB (fitsOpen z3 B2 w2) (apd B2 1 z3 xn_2 xc_2 1 cs w2 fun a an ac w3=>gSl (add p_3 2) w3 fun z5 xn_4 xc_4=>same (.slice z4 xn_3 xc_3) (.slice z5 xn_4 xc_4) (gCells (some ⟨p1,0,none⟩) (1*1) w3 fun cs_1=>ckB (fitsOpen z4 B2 w3) (apd B2 1 z4 xn_3 xc_3 1 cs_1 w3 fun a_1 an_1 ac_1 w4=>aSome r fun p_4=>pV (add p_4 1) (.slice a an ac) w4 fun w5=>aSome r fun p_5=>pV (add p_5 2) (.slice a_1 an_1 ac_1) w5 fun w6=>aSome r fun p_6=>gSl (add p_6 1) w6 fun _ xn_5 _=>some (.tuple ⟨[iI (wrap .i64 ((xn_5:Int)-1)),iI 0]⟩,w6)))))):=kR
def Bn3:Cuts:=⟨0,[],[],[]⟩
def Dk1:List Item:=A3 Tryz.f76
theorem Ez6 :
 xQ Bn3 C R Ao8 Tryz.f76 Dk1 [(0,.pointer s),(1,iI env)] h =
 bnd (C Ai6 [.pointer s,iI env] h) fun r w=>aBool r fun x=>cond (!x)
 (some (.slice none 0 0,w))
 (aSome s fun p=>gSl (add p 0) w fun z1 xn _=>aSome z1 fun p_1=>ck ((0:Int)≤env∧env<(xn:Int)) (gPtr (add (B1 p_1) (Int.toNat env*1)) w fun z2=>bnd (C G3 [.pointer z2] w) fun q1 w1=>aSl q1 fun z3 xn_1 xc_1=>some (.slice z3 xn_1 xc_1,w1))):=kR
def De2:Cuts:=⟨0,[],[],[]⟩
def Ec6:List Item:=A3 Tryz.f99
theorem Gv6 (fv0:Addr) (fv1:Addr) :
 xQ De2 C R I0 Tryz.f99 Ec6 [(0,.pointer (some fv0)),(1,.pointer (some fv1))] h =
 gInt .i64 fv0 h fun x=>pV fv0 (iI (wrap .i64 (x+1))) h fun w=>gInt .i64 fv0 w fun z1=>gSl fv1 w fun _ xn _=>cond (decide (z1>(xn:Int)))
 (gInt .i64 fv0 w fun z3=>some (iI (wrap .i64 (z3*7)),w))
 (gSl fv1 w fun z4 xn_1 _=>gInt .i64 fv0 w fun z5=>aSome z4 fun p=>ck ((0:Int)≤wrap .i64 (z5-1)∧wrap .i64 (z5-1)<(xn_1:Int)) (gInt .i64 (add (B1 p) (Int.toNat (wrap .i64 (z5-1))*1)) w fun z6=>some (iI (B5 .i64 z6 16777215),w))):=kR
def Dh2:Cuts:=⟨0,[],[],[(5,⟨[0,1,2,3,4,5,6,7,8,9,10,11,12,13,14],[0,1,3,0,8,24,0,64,192,0,512,1536,4095,0,16383],[],[]⟩)]⟩
def Eh0:List Item:=A3 Tryz.f113
theorem Gz1 (b:ByteArray) :
 xQ Dh2 C R Bs4 Tryz.f113 Eh0 [(0,.string b)] h =
 nw (.cells D7 false [iI 0,iI 0,iI 0,iI 0]) h fun p1 w=>cond (((ByteArray.size b:Nat):Int) != 8)
 (pAgg ⟨p1,0,none⟩ [iI 0,iI 0,iI 0,iI 0] w fun w1=>gAgg ⟨p1,0,none⟩ 4 w1 fun x=>some (.tuple ⟨[.agg ⟨x⟩,iI 2]⟩,w1))
 (bnd (C Ac2 [.string b] w) fun r w2=>aBool r fun z1=>cond z1
 (pAgg ⟨p1,0,none⟩ [iI 0,iI 0,iI 0,iI 0] w2 fun w3=>gAgg ⟨p1,0,none⟩ 4 w3 fun z2=>some (.tuple ⟨[.agg ⟨z2⟩,iI 0]⟩,w3))
 (ck ((0:Int)≤0∧0<((ByteArray.size b:Nat):Int)) (ck ((0:Int)≤1∧1<((ByteArray.size b:Nat):Int)) (ck ((0:Int)≤2∧2<((ByteArray.size b:Nat):Int)) (ck ((0:Int)≤3∧3<((ByteArray.size b:Nat):Int)) (nw (.cells D7 false [iI 0,iI 0,iI 0,iI 0]) w2 fun p2 w4=>pAgg ⟨p2,0,none⟩ [iI (wrap .i64 (((List.getD (ByteArray.data b).toList (Int.toNat 0) 0).toNat:Int))),iI (wrap .i64 (((List.getD (ByteArray.data b).toList (Int.toNat 1) 0).toNat:Int))),iI (wrap .i64 (((List.getD (ByteArray.data b).toList (Int.toNat 2) 0).toNat:Int))),iI (wrap .i64 (((List.getD (ByteArray.data b).toList (Int.toNat 3) 0).toNat:Int)))] w4 fun w5=>gAgg ⟨p2,0,none⟩ 4 w5 fun z3=>bnd (C A86 [.agg ⟨z3⟩] w5) fun q1 w6=>aBool q1 fun z4=>bnd (cond (!z4) (some (true,w6)) (gAgg ⟨p2,0,none⟩ 4 w6 fun z5=>bnd (C Ar9 [.agg ⟨z5⟩] w6) fun q2 w7=>aStr q2 fun z6=>some (!(z6.toList==b.toList),w7))) fun c w8=>cond c
 (pAgg ⟨p1,0,none⟩ [iI 0,iI 0,iI 0,iI 0] w8 fun w9=>gAgg ⟨p1,0,none⟩ 4 w9 fun z7=>some (.tuple ⟨[.agg ⟨z7⟩,iI 2]⟩,w9))
 (gAgg ⟨p2,0,none⟩ 4 w8 fun z8=>ck (List.length z8=4) (pAgg ⟨p1,0,none⟩ z8 w8 fun w10=>gAgg ⟨p1,0,none⟩ 4 w10 fun z9=>some (.tuple ⟨[.agg ⟨z9⟩,iI 1]⟩,w10))))))))):=kR
def Dd9:Cuts:=⟨0,[],[],[]⟩
def Eh2:List Item:=A3 Tryz.f115
theorem Gy7 :
 xQ Dd9 C R A86 Tryz.f115 Eh2 [(0,.agg ⟨f⟩)] h =
 nw (.cells D7 false f) h fun b w=>gInt .i64 ⟨b,0,none⟩ w fun x=>bnd (C Q2 [iI x,iI 1,iI 3] w) fun r w1=>aBool r fun z1=>bnd (cond z1 (gInt .i64 ⟨b,1,none⟩ w1 fun z2=>bnd (C Q2 [iI z2,iI 0,iI 7] w1) fun q1 w2=>aBool q1 fun z3=>some (z3,w2)) (some (false,w1))) fun c w3=>bnd (cond c (gInt .i64 ⟨b,0,none⟩ w3 fun z4=>bnd (cond (z4 != 3) (some (true,w3)) (gInt .i64 ⟨b,1,none⟩ w3 fun z5=>some (z5==0,w3))) fun c_1 w4=>some (c_1,w4)) (some (false,w3))) fun c_2 w5=>bnd (cond c_2 (gInt .i64 ⟨b,2,none⟩ w5 fun z6=>bnd (C Q2 [iI z6,iI 1,iI 64] w5) fun q2 w6=>aBool q2 fun z7=>some (z7,w6)) (some (false,w5))) fun c_3 w7=>bnd (cond c_3 (gInt .i64 ⟨b,3,none⟩ w7 fun z8=>bnd (C Q2 [iI z8,iI 0,iI 1] w7) fun q3 w8=>aBool q3 fun z9=>some (z9,w8)) (some (false,w7))) fun c_4 w9=>some (.bool c_4,w9):=kR
def De6:Cuts:=⟨0,[],[],[]⟩
def Ef4:List Item:=A3 Tryz.f117
theorem Gv5 :
 xQ De6 C R Aw8 Tryz.f117 Ef4 [(0,iI i)] h =
 nw (.cells A6 false [iI 0,iI 0]) h fun b w=>pAgg ⟨b,0,none⟩ [iI 3,iI i] w fun w1=>gAgg ⟨b,0,none⟩ 2 w1 fun x=>some (.agg ⟨x⟩,w1):=kR
def Do7:Cuts:=⟨0,[],[],[(1,⟨[1,0,2,3,4,5,6],[0,0,3,7,7,31,63],[(0,[1])],[]⟩)]⟩
def Es6:List Item:=A3 Tryz.f119
theorem G70 :
 xQ Do7 C R A16 Tryz.f119 Es6 [(0,.agg ⟨p⟩)] h =
 nw (.cells B3 false p) h fun b w=>gAgg ⟨b,0,none⟩ 36 w fun x=>bnd (C Bn6 [] w) fun r w1=>aPtr r fun z1=>gAgg ⟨b,0,none⟩ 36 w1 fun z2=>same (.agg ⟨x⟩) (.agg ⟨z2⟩) (bnd (C W9 [.pointer z1,.agg ⟨x⟩] w1) fun q1 w2=>as2 q1 fun q2 q3=>aSl q2 fun z3 xn xc=>aBool q3 fun z4=>some (.tuple ⟨[.slice z3 xn xc,.bool z4]⟩,w2)):=kR
def Ap9:Cuts:=⟨0,[(2,[0,3,4])],[],[(2,⟨[0,1,2,3,4,5,6,7,8,9,10,11,12,13],[0,1,3,7,7,23,55,119,7,263,1015,2039,4095,8191],[],[]⟩),(4,⟨[0,1,2,3,4,5,6,7,9,10,12,13,14,15,16,17,8,11,18,19,20,21],[0,0,0,4,12,28,0,124,254,0,512,2046,0,4096,12288,28672,0,126976,262142,524287,1048575,2097151],[(8,[9,15,17]),(11,[15,17])],[]⟩)]⟩
def A96:List Item:=A3 Tryz.f121
def Y9:List Item:=stk [0,1,0,1,0,4,5] A96
theorem Ee7 (r:List Value) :
 xQ Ap9 C R G0 Tryz.f121 A96 [(0,.pointer c),(1,.agg ⟨r⟩)] h =
 nw (.cells A6 false r) h fun b w=>aSome c fun p=>gSl (add p 3) w fun _ xn _=>R G0 Y9 [(0,.pointer c),(3,pP b),(4,iI (xn:Int))] w:=kR
theorem Bq4 (r:Addr) :
 xQ Ap9 C R G0 Tryz.f121 Y9 [(0,.pointer c),(3,.pointer (some r)),(4,iI k)] h =
 bnd (cond (decide (k>0)) (gAgg r 2 h fun x=>aSome c fun p=>gSl (add p 3) h fun z1 xn _=>aSome z1 fun p_1=>ck ((0:Int)≤wrap .i64 (k-1)∧wrap .i64 (k-1)<(xn:Int)) (gAgg (add (B1 p_1) (Int.toNat (wrap .i64 (k-1))*2)) 2 h fun z2=>bnd (C Bl2 [.agg ⟨x⟩,.agg ⟨z2⟩] h) fun q1 w=>aBool q1 fun z3=>some (z3,w))) (some (false,h))) fun c_1 w1=>cond c_1
 (R G0 Y9 [(0,.pointer c),(3,.pointer (some r)),(4,iI (wrap .i64 (k-1)))] w1)
 (nw (.cells A6 false []) w1 fun b w2=>aSome c fun p_2=>gSl (add p_2 3) w2 fun z4 _ xc_1=>ckB (fitsOpen z4 A6 w2) (ck ((0:Int)≤k∧k≤(xc_1:Int)) (gAgg r 2 w2 fun z5=>ck (List.length z5=2) (nw (.cells A6 false (z5++[])) w2 fun p1 w3=>aSome c fun p_3=>gSl (add p_3 3) w3 fun z6 xn_2 xc_2=>ckB (fitsOpen z6 A6 w3) (ck ((0:Int)≤k∧k≤(xn_2:Int)) (gCells (G7 z4 (decide (0<xc_1)) (0*2)) (((Int.toNat k)-0)*2) w3 fun cs=>ckB (fitsOpen (some ⟨b,0,none⟩) A6 w3) (apd A6 2 (some ⟨b,0,none⟩) 0 0 ((Int.toNat k)-0) cs w3 fun a an ac w4=>gAgg r 2 w4 fun z7=>same (.agg ⟨z5⟩) (.agg ⟨z7⟩) (gSl (add p_3 3) w4 fun z8 xn_3 xc_3=>same (.slice z6 xn_2 xc_2) (.slice z8 xn_3 xc_3) (ckB (fitsOpen z6 A6 w4) (ck ((0:Int)≤k∧k≤(xn_2:Int)) (same (.slice (G7 z6 (decide (Int.toNat k<xc_2)) ((Int.toNat k)*2)) (xn_2-(Int.toNat k)) (xc_2-(Int.toNat k))) (.slice (G7 z6 (decide (Int.toNat k<xc_2)) ((Int.toNat k)*2)) (xn_2-(Int.toNat k)) (xc_2-(Int.toNat k))) (gCells (some ⟨p1,0,none⟩) (1*2) w4 fun cs_1=>ckB (fitsOpen a A6 w4) (apd A6 2 a an ac 1 cs_1 w4 fun a_1 an_1 ac_1 w5=>gSl (add p_3 3) w5 fun z9 xn_4 xc_4=>same (.slice z6 xn_2 xc_2) (.slice z9 xn_4 xc_4) (ckB (fitsOpen z6 A6 w5) (ck ((0:Int)≤k∧k≤(xn_2:Int)) (same (.slice (G7 z6 (decide (Int.toNat k<xc_2)) ((Int.toNat k)*2)) (xn_2-(Int.toNat k)) (xc_2-(Int.toNat k))) (.slice (G7 z6 (decide (Int.toNat k<xc_2)) ((Int.toNat k)*2)) (xn_2-(Int.toNat k)) (xc_2-(Int.toNat k))) (gCells (G7 z6 (decide (Int.toNat k<xc_2)) ((Int.toNat k)*2)) ((xn_2-(Int.toNat k))*2) w5 fun cs_2=>ckB (fitsOpen a_1 A6 w5) (apd A6 2 a_1 an_1 ac_1 (xn_2-(Int.toNat k)) cs_2 w5 fun a_2 an_2 ac_2 w6=>aSome c fun p_4=>pV (add p_4 3) (.slice a_2 an_2 ac_2) w6 fun w7=>some (.tuple ⟨[]⟩,w7))))))))))))))))))):=kR
def Ar1:Cuts:=⟨0,[],[],[]⟩
def Bi9:List Item:=A3 Tryz.f124
theorem Bi6 :
 xQ Ar1 C R G6 Tryz.f124 Bi9 [(0,.slice s sn sc)] h =
 cond s.isNone
 (some (.slice none 0 0,h))
 (nw (.cells A2 false []) h fun b w=>gCells s (sn*1) w fun cs=>ckB (fitsOpen (some ⟨b,0,none⟩) A2 w) (apd A2 1 (some ⟨b,0,none⟩) 0 0 sn cs w fun a an ac w1=>some (.slice a an ac,w1))):=kR
def B13:Cuts:=⟨0,[],[],[(1,⟨[0,1,2,3,4,5,6,7,8,9,10,11,12,13],[0,1,3,7,0,31,63,0,255,511,1023,1023,2047,8191],[],[]⟩)]⟩
def Dx2:List Item:=A3 Tryz.f133
theorem Gh9 (c:List Value) :
 xQ B13 C R Ax4 Tryz.f133 Dx2 [(0,.pointer s),(1,iI env),(2,.agg ⟨c⟩)] h =
 nw (.cells O8 false c) h fun b w=>aSome s fun p=>gSl (add p 0) w fun x xn _=>aSome x fun p_1=>ck ((0:Int)≤env∧env<(xn:Int)) (gPtr (add (B1 p_1) (Int.toNat env*1)) w fun z1=>gAgg ⟨b,0,none⟩ 6 w fun z2=>bnd (C I5 [.pointer z1,.agg ⟨z2⟩] w) fun r w1=>as2 r fun q1 q2=>aInt .i64 q1 fun z3=>aBool q2 fun z4=>cond (!z4)
 (some (.tuple ⟨[iI 0,iI 4]⟩,w1))
 (some (.tuple ⟨[iI z3,iI 0]⟩,w1))):=kR
def B30:Cuts:=⟨0,[],[],[]⟩
def Dw7:List Item:=A3 Tryz.f136
theorem Gj4 :
 xQ B30 C R Am9 Tryz.f136 Dw7 [(0,.pointer s),(1,iI e)] h =
 bnd (cond (decide (e≥0)) (aSome s fun p=>gSl (add p 0) h fun _ xn _=>some (decide (e<(xn:Int)),h)) (some (false,h))) fun c w=>some (.bool c,w):=kR
def Ab0:Cuts:=⟨0,[(3,[0,3,9,10,11])],[],[]⟩
def Ap2:List Item:=A3 Tryz.f138
def O1:List Item:=stk [0,1,0,1,0,0,1,4,5] Ap2
theorem Dk7 :
 xQ Ab0 C R G3 Tryz.f138 Ap2 [(0,.pointer t)] h =
 aSome t fun p=>gSl (add p 0) h fun x xn xc=>R G3 O1 [(0,.pointer t),(3,.slice none 0 0),(9,.slice x xn xc),(10,iI (xn:Int)),(11,iI 0)] h:=kR
theorem A39 (x9:Option Addr) (x9n x9c:Nat) (x10:Int) (x11:Int) :
 xQ Ab0 C R G3 Tryz.f138 O1 [(0,.pointer t),(3,.slice out outn outc),(9,.slice x9 x9n x9c),(10,iI x10),(11,iI x11)] h =
 cond (decide (x11<x10))
 (aSome x9 fun p=>ck ((0:Int)≤x11∧x11<(x9n:Int)) (gAgg (add (B1 p) (Int.toNat x11*8)) 8 h fun x=>nw (.cells Ap8 false [iI 0,iI 0,iI 0,iI 0,iI 0,iI 0,iI 0,.bool false]) h fun b w=>ck (List.length x=8) (pAgg ⟨b,0,none⟩ x w fun w1=>gBool ⟨b,7,none⟩ w1 fun z1=>cond z1
 (bnd (C N7 [.pointer t,iI x11] w1) fun r w2=>aInt .i64 r fun z2=>nw (.cells B2 false [iI z2]) w2 fun p1 w3=>gCells (some ⟨p1,0,none⟩) (1*1) w3 fun cs=>ckB (fitsOpen out B2 w3) (apd B2 1 out outn outc 1 cs w3 fun a an ac w4=>R G3 O1 [(0,.pointer t),(3,.slice a an ac),(9,.slice x9 x9n x9c),(10,iI x10),(11,iI (wrap .i64 (x11+1)))] w4))
 (R G3 O1 [(0,.pointer t),(3,.slice out outn outc),(9,.slice x9 x9n x9c),(10,iI x10),(11,iI (wrap .i64 (x11+1)))] w1))))
 (some (.slice out outn outc,h)):=kR
def Bo2:Cuts:=⟨0,[],[],[]⟩
def Dk3:List Item:=A3 Tryz.f146
theorem E13 (s:Int) :
 xQ Bo2 C R A27 Tryz.f146 Dk3 [(0,.pointer q),(1,iI s),(2,iI k)] h =
 bnd (C Am8 [.pointer q,iI s] h) fun r w=>aBool r fun x=>cond (!x)
 (some (iI 1,w))
 (bnd (C A41 [.pointer q,iI s,iI k] w) fun q1 w1=>aBool q1 fun z1=>cond (!z1)
 (some (iI 5,w1))
 (aSome q fun p=>gSl (add p 0) w1 fun z2 xn _=>aSome z2 fun p_1=>ck ((0:Int)≤s∧s<(xn:Int)) (gSl (add (B1 p_1) (Int.toNat s*1)) w1 fun z3 xn_1 _=>aSome z3 fun p_2=>ck ((0:Int)≤k∧k<(xn_1:Int)) (pV (add (B1 p_2) (Int.toNat k*1)) (iI 0) w1 fun w2=>some (iI 0,w2))))):=kR
def Bw3:Cuts:=⟨0,[],[],[]⟩
def Dp5:List Item:=A3 Tryz.f148
theorem Gc3 (k:Option Addr) (c:List Value) :
 xQ Bw3 C R A82 Tryz.f148 Dp5 [(0,.pointer k),(1,iI env),(2,.agg ⟨c⟩)] h =
 nw (.cells Be5 false c) h fun b w=>gInt .i64 ⟨b,3,none⟩ w fun x=>bnd (C Ax6 [.pointer k,iI env,iI x] w) fun r w1=>as2 r fun q1 q2=>aPtr q1 fun z1=>aInt .i64 q2 fun z2=>bnd (cond (z2==0) (gInt .i64 ⟨b,2,none⟩ w1 fun z3=>bnd (C A78 [.pointer z1,iI env,iI z3] w1) fun q3 w2=>aBool q3 fun z4=>some (!z4,w2)) (some (false,w1))) fun c_1 w3=>cond c_1
 (some (iI 8,w3))
 (some (iI z2,w3)):=kR
def Bh2:Cuts:=⟨0,[],[],[(6,⟨[0,1,2,3,4,5,6,7,8,9,10,11,12,13,14,15,16,17,18,19,20,21],[0,0,0,4,15,31,63,127,255,511,1023,2047,4095,8191,4095,20479,53247,118783,249855,524287,1048575,2097151],[],[]⟩),(8,⟨[0,1,2,3,4,5,6,7,8,9,10,11,12,13,14,15,16,17,18,19,20,21,22,23,24,25,26,27,28,29,30],[0,1,0,0,8,24,56,0,128,504,1016,2047,4095,8191,16383,32767,16383,131071,16383,16383,540671,1589247,3686399,16383,8404991,33046527,66600959,134217727,268435455,536870911,1073741823],[],[]⟩),(10,⟨[0,1,2,3,4,5,6,7,8,9,10,11,12,13,14],[0,1,3,7,0,16,63,127,0,256,1023,0,4095,8191,16383],[],[]⟩)]⟩
def B56:List Item:=A3 Tryz.f149
theorem Ep8 :
 xQ Bh2 C R Aj9 Tryz.f149 B56 [(0,.pointer r),(1,iI e),(2,iI name),(3,iI right),(4,iI atv),(5,iI n)] h =
 aSome r fun p=>gPtr (add p 3) h fun x=>bnd (C Be0 [.pointer x,iI e,iI name] h) fun q1 w=>as2 q1 fun q2 q3=>aAgg q2 fun z1=>aInt .i64 q3 fun z2=>nw (.cells O8 false [iI 0,iI 0,iI 0,iI 0,iI 0,iI 0]) w fun b w1=>ck (List.length z1=6) (pAgg ⟨b,0,none⟩ z1 w1 fun w2=>cond (z2 != 0)
 (some (.tuple ⟨[iI 0,iI z2]⟩,w2))
 (gInt .i64 ⟨b,1,none⟩ w2 fun z3=>cond ((B5 .i64 z3 right)==0)
 (some (.tuple ⟨[iI 0,iI 3]⟩,w2))
 (gInt .i64 ⟨b,3,none⟩ w2 fun z4=>bnd (C Ak5 [iI atv,iI n,iI z4] w2) fun q4 w3=>aBool q4 fun z5=>bnd (cond (!z5) (some (true,w3)) (gInt .i64 ⟨b,0,none⟩ w3 fun z6=>some (decide (z6<0),w3))) fun c w4=>bnd (cond c (some (true,w4)) (gInt .i64 ⟨b,0,none⟩ w4 fun z7=>aSome r fun p_1=>gSl (add p_1 1) w4 fun _ xn _=>some (decide (z7≥(xn:Int)),w4))) fun c_1 w5=>cond c_1
 (some (.tuple ⟨[iI 0,iI 1]⟩,w5))
 (gInt .i64 ⟨b,2,none⟩ w5 fun z9=>aSome r fun p_2=>gSl (add p_2 2) w5 fun z10 xn_1 _=>gInt .i64 ⟨b,0,none⟩ w5 fun z11=>aSome z10 fun p_3=>ck ((0:Int)≤z11∧z11<(xn_1:Int)) (gInt .i64 (add (B1 p_3) (Int.toNat z11*1)) w5 fun z12=>bnd (C Ak5 [iI z9,iI atv,iI z12] w5) fun q5 w6=>aBool q5 fun z13=>bnd (cond (!z13) (some (true,w6)) (gInt .i64 ⟨b,2,none⟩ w6 fun z14=>aSome r fun p_4=>gSl (add p_4 2) w6 fun z15 xn_2 _=>gInt .i64 ⟨b,0,none⟩ w6 fun z16=>aSome z15 fun p_5=>ck ((0:Int)≤z16∧z16<(xn_2:Int)) (gInt .i64 (add (B1 p_5) (Int.toNat z16*1)) w6 fun z17=>bnd (C Ak5 [iI (wrap .i64 (z14+atv)),iI n,iI z17] w6) fun q6 w7=>aBool q6 fun z18=>some (!z18,w7)))) fun c_2 w8=>cond c_2
 (some (.tuple ⟨[iI 0,iI 1]⟩,w8))
 (aSome r fun p_6=>gSl (add p_6 1) w8 fun z19 xn_3 _=>gInt .i64 ⟨b,0,none⟩ w8 fun z20=>aSome z19 fun p_7=>ck ((0:Int)≤z20∧z20<(xn_3:Int)) (gInt .i64 (add (B1 p_7) (Int.toNat z20*1)) w8 fun z21=>gInt .i64 ⟨b,2,none⟩ w8 fun z22=>some (.tuple ⟨[iI (wrap .i64 ((wrap .i64 (z21+z22))+atv)),iI 0]⟩,w8)))))))):=kR
def B34:Cuts:=⟨0,[],[],[]⟩
def Dz4:List Item:=A3 Tryz.f150
theorem Gi6 :
 xQ B34 C R Be0 Tryz.f150 Dz4 [(0,.pointer s),(1,iI e),(2,iI name)] h =
 nw (.cells O8 false [iI 0,iI 0,iI 0,iI 0,iI 0,iI 0]) h fun b w=>bnd (C Am9 [.pointer s,iI e] w) fun r w1=>aBool r fun x=>bnd (cond (!x) (some (true,w1)) (aSome s fun p=>gSl (add p 0) w1 fun z1 xn _=>aSome z1 fun p_1=>ck ((0:Int)≤e∧e<(xn:Int)) (gPtr (add (B1 p_1) (Int.toNat e*1)) w1 fun z2=>bnd (C Bd0 [.pointer z2,iI name] w1) fun q1 w2=>aBool q1 fun z3=>some (!z3,w2)))) fun c w3=>cond c
 (pAgg ⟨b,0,none⟩ [iI 0,iI 0,iI 0,iI 0,iI 0,iI 0] w3 fun w4=>gAgg ⟨b,0,none⟩ 6 w4 fun z4=>some (.tuple ⟨[.agg ⟨z4⟩,iI 2]⟩,w4))
 (aSome s fun p_2=>gSl (add p_2 1) w3 fun z5 xn_1 _=>aSome z5 fun p_3=>ck ((0:Int)≤e∧e<(xn_1:Int)) (gSl (add (B1 p_3) (Int.toNat e*1)) w3 fun z6 xn_2 _=>aSome z6 fun p_4=>ck ((0:Int)≤B5 .i64 name 255∧B5 .i64 name 255<(xn_2:Int)) (gAgg (add (B1 p_4) (Int.toNat (B5 .i64 name 255)*6)) 6 w3 fun z7=>ck (List.length z7=6) (pAgg ⟨b,0,none⟩ z7 w3 fun w5=>gAgg ⟨b,0,none⟩ 6 w5 fun z8=>some (.tuple ⟨[.agg ⟨z8⟩,iI 0]⟩,w5))))):=kR
def Do8:Cuts:=⟨0,[],[],[]⟩
def Et3:List Item:=A3 Tryz.f159
theorem G75 :
 xQ Do8 C R Ar5 Tryz.f159 Et3 [(0,.slice b bn bc)] h =
 bnd (C R0 [.slice b bn bc,.func (.func Aj2) ⟨[]⟩ ⟨[]⟩] h) fun r w=>aBool r fun x=>some (.bool (!x),w):=kR
def Ak9:Cuts:=⟨0,[],[],[(2,⟨[0,1,2,3,4,5,6,7,8,9,10,11,12,13,14],[0,1,3,7,15,31,63,127,255,511,63,63,4095,8191,16383],[],[]⟩)]⟩
def A65:List Item:=A3 Tryz.f167
theorem Dc7 (v:List Value) :
 xQ Ak9 C R W3 Tryz.f167 A65 [(0,.pointer c),(1,.agg ⟨v⟩)] h =
 nw (.cells B6 false v) h fun b w=>aSome c fun p=>gInt .i64 (add p 0) w fun x=>ck ((0:Int)≤x∧(x:Int)≤x∧x≤(A8:Int)) (nw (.cells A2 false (G9 (Int.toNat x) [.int .u8 0])) w fun p1 w1=>aSome c fun p_1=>gFv (add p_1 1) w1 fun z1=>isNilF z1 fun p2=>bnd (cond p2 (some (true,w1)) (aSome c fun p_2=>gFv (add p_2 1) w1 fun z2=>gAgg ⟨b,0,none⟩ 16 w1 fun z3=>aFn z2 fun g fi cp=>bnd (C g (fi++([.agg ⟨z3⟩,.slice (some ⟨p1,0,none⟩) (Int.toNat x) (Int.toNat x)]++cp)) w1) fun r w2=>aBool r fun z4=>some (!z4,w2))) fun c_1 w3=>cond c_1
 (some (.tuple ⟨[.slice none 0 0,.bool false]⟩,w3))
 (some (.tuple ⟨[.slice (some ⟨p1,0,none⟩) (Int.toNat x) (Int.toNat x),.bool true]⟩,w3))):=kR
def A10:Cuts:=⟨0,[],[],[]⟩
def Bt8:List Item:=A3 Tryz.f168
theorem D29 (r:List Value) :
 xQ A10 C R S4 Tryz.f168 Bt8 [(0,.pointer c),(1,.agg ⟨r⟩)] h =
 nw (.cells A6 false r) h fun b w=>nw (.cells Bm5 false [iI 0,iI 0,iI 0]) w fun p1 w1=>gInt .i64 ⟨b,1,none⟩ w1 fun x=>bnd (cond (decide (x<0)) (some (true,w1)) (gInt .i64 ⟨b,0,none⟩ w1 fun z1=>bnd (C U9 [.pointer c,iI z1] w1) fun q1 w2=>aInt .i64 q1 fun z2=>some (decide (x≥z2),w2))) fun c_1 w3=>cond c_1
 (pAgg ⟨p1,0,none⟩ [iI 0,iI 0,iI 0] w3 fun w4=>gAgg ⟨p1,0,none⟩ 3 w4 fun z3=>some (.tuple ⟨[.agg ⟨z3⟩,.bool false]⟩,w4))
 (aSome c fun p=>gSl (add p 2) w3 fun z4 xn _=>aSome z4 fun p_1=>ck ((0:Int)≤0∧0<(xn:Int)) (gInt .i64 (add (B1 p_1) (Int.toNat 0*1)) w3 fun z5=>gInt .i64 ⟨b,0,none⟩ w3 fun z6=>cond (z6==1)
 (pAgg ⟨p1,0,none⟩ [iI z5,iI (wrap .i64 (24*x)),iI 24] w3 fun w5=>gAgg ⟨p1,0,none⟩ 3 w5 fun z7=>some (.tuple ⟨[.agg ⟨z7⟩,.bool true]⟩,w5))
 (gInt .i64 ⟨b,0,none⟩ w3 fun z8=>cond (z8==2)
 (pAgg ⟨p1,0,none⟩ [iI z5,iI (wrap .i64 (192+(wrap .i64 (8*x)))),iI 8] w3 fun w6=>gAgg ⟨p1,0,none⟩ 3 w6 fun z9=>some (.tuple ⟨[.agg ⟨z9⟩,.bool true]⟩,w6))
 (gInt .i64 ⟨b,0,none⟩ w3 fun z10=>bnd (cond (z10==3) (some (decide (x<4),w3)) (some (false,w3))) fun c_2 w7=>cond c_2
 (pAgg ⟨p1,0,none⟩ [iI z5,iI (wrap .i64 (288+(wrap .i64 (40*x)))),iI 40] w7 fun w8=>gAgg ⟨p1,0,none⟩ 3 w8 fun z11=>some (.tuple ⟨[.agg ⟨z11⟩,.bool true]⟩,w8))
 (gInt .i64 ⟨b,0,none⟩ w7 fun z12=>cond (z12==3)
 (aSome c fun p_2=>gSl (add p_2 2) w7 fun z13 xn_1 _=>aSome z13 fun p_3=>ck ((0:Int)≤wrap .i64 ((wrap .i64 (x-4))+1)∧wrap .i64 ((wrap .i64 (x-4))+1)<(xn_1:Int)) (gInt .i64 (add (B1 p_3) (Int.toNat (wrap .i64 ((wrap .i64 (x-4))+1))*1)) w7 fun z14=>pAgg ⟨p1,0,none⟩ [iI z14,iI 0,iI 40] w7 fun w9=>gAgg ⟨p1,0,none⟩ 3 w9 fun z15=>some (.tuple ⟨[.agg ⟨z15⟩,.bool true]⟩,w9)))
 (gInt .i64 ⟨b,0,none⟩ w7 fun z16=>cond (z16==4)
 (pAgg ⟨p1,0,none⟩ [iI z5,iI 448,iI 40] w7 fun w10=>gAgg ⟨p1,0,none⟩ 3 w10 fun z17=>some (.tuple ⟨[.agg ⟨z17⟩,.bool true]⟩,w10))
 (pAgg ⟨p1,0,none⟩ [iI z5,iI 488,iI 4] w7 fun w11=>gAgg ⟨p1,0,none⟩ 3 w11 fun z18=>some (.tuple ⟨[.agg ⟨z18⟩,.bool true]⟩,w11)))))))):=kR
def Dn1:Cuts:=⟨0,[],[],[]⟩
def Er7:List Item:=A3 Tryz.f172
theorem G72 :
 xQ Dn1 C R Bh5 Tryz.f172 Er7 [] h =
 bnd (C At2 [iI 8,.func (.func Av4) ⟨[]⟩ ⟨[]⟩,.func (.func Av9) ⟨[]⟩ ⟨[]⟩] h) fun r w=>aPtr r fun x=>some (.pointer x,w):=kR
def Ak7:Cuts:=⟨0,[],[],[(4,⟨[0,1,2,3,4,10,5,6,7,8,9,11,12],[0,1,3,7,0,16,63,127,255,255,0,1535,4095],[(5,[3])],[]⟩)]⟩
def A70:List Item:=A3 Tryz.f173
theorem Dd1 :
 xQ Ak7 C R W5 Tryz.f173 A70 [(0,.pointer c),(1,.slice b bn bc)] h =
 nw (.cells D7 false [iI 0,iI 0,iI 0,iI 0]) h fun p1 w=>nw (.cells D7 false [iI 0,iI 0,iI 0,iI 0]) w fun p2 w1=>aSome c fun p=>gFv (add p 2) w1 fun x=>isNilF x fun p3=>bnd (cond p3 (some (true,w1)) (aSome c fun p_1=>gInt .i64 (add p_1 0) w1 fun z1=>some ((bn:Int) != z1,w1))) fun c_1 w2=>cond c_1
 (gAgg ⟨p2,0,none⟩ 4 w2 fun z2=>ck (List.length z2=4) (pAgg ⟨p1,0,none⟩ z2 w2 fun w3=>gAgg ⟨p1,0,none⟩ 4 w3 fun z3=>some (.tuple ⟨[.agg ⟨z3⟩,.bool false]⟩,w3)))
 (aSome c fun p_2=>gFv (add p_2 2) w2 fun z4=>nw (.cells D7 false [iI 0,iI 0,iI 0,iI 0]) w2 fun p4 w4=>bnd (C G6 [.slice b bn bc] w4) fun r w5=>aSl r fun z5 xn xc=>gFv (add p_2 2) w5 fun z6=>Bt3 (z4) (z6) (aFn z4 fun g fi cp=>bnd (C g (fi++([.slice z5 xn xc]++cp)) w5) fun q1 w6=>as2 q1 fun q2 q3=>aAgg q2 fun z7=>aBool q3 fun z8=>ck (List.length z7=4) (pAgg ⟨p4,0,none⟩ z7 w6 fun w7=>cond (!z8)
 (gAgg ⟨p2,0,none⟩ 4 w7 fun z9=>ck (List.length z9=4) (pAgg ⟨p1,0,none⟩ z9 w7 fun w8=>gAgg ⟨p1,0,none⟩ 4 w8 fun z10=>some (.tuple ⟨[.agg ⟨z10⟩,.bool false]⟩,w8)))
 (gAgg ⟨p4,0,none⟩ 4 w7 fun z11=>ck (List.length z11=4) (pAgg ⟨p1,0,none⟩ z11 w7 fun w9=>gAgg ⟨p1,0,none⟩ 4 w9 fun z12=>some (.tuple ⟨[.agg ⟨z12⟩,.bool true]⟩,w9)))))):=kR
def Aa0:Cuts:=⟨0,[(2,[0,1,7,8])],[],[]⟩
def An0:List Item:=A3 Tryz.f180
def N0:List Item:=stk [0,1,0,0,1,4,5] An0
theorem Ba6 (f:Value) :
 xQ Aa0 C R E0 Tryz.f180 An0 [(0,.slice s sn sc),(1,f)] h =
 R E0 N0 [(0,.slice s sn sc),(1,f),(7,iI (sn:Int)),(8,iI 0)] h:=kR
theorem U4 (f:Value) (x7:Int) (x8:Int) :
 xQ Aa0 C R E0 Tryz.f180 N0 [(0,.slice s sn sc),(1,f),(7,iI x7),(8,iI x8)] h =
 cond (decide (x8<x7))
 (aSome s fun p=>ck ((0:Int)≤x8∧x8<(sn:Int)) (gInt .i64 (add (B1 p) (Int.toNat x8*1)) h fun x=>aFn f fun g fi cp=>bnd (C g (fi++([iI x]++cp)) h) fun r w=>aBool r fun z1=>cond z1
 (some (iI x8,w))
 (R E0 N0 [(0,.slice s sn sc),(1,f),(7,iI x7),(8,iI (wrap .i64 (x8+1)))] w)))
 (some (iI (-1),h)):=kR
def Bd4:Cuts:=⟨0,[(2,[0,4])],[],[]⟩
def B26:List Item:=A3 Tryz.f182
def Az5:List Item:=stk [0,1,0,0,1,4,5] B26
theorem Gi2 (n:Option Addr) :
 xQ Bd4 C R Y2 Tryz.f182 B26 [(0,.pointer n)] h =
 R Y2 Az5 [(0,.pointer n),(4,iI 0)] h:=kR
theorem Dd7 (n:Option Addr) :
 xQ Bd4 C R Y2 Tryz.f182 Az5 [(0,.pointer n),(4,iI i)] h =
 aSome n fun p=>gSl (add p 0) h fun _ xn _=>cond (decide (i<(xn:Int)))
 (aSome n fun p_1=>gSl (add p_1 0) h fun z1 xn_1 _=>aSome z1 fun p_2=>ck ((0:Int)≤i∧i<(xn_1:Int)) (gBool (add (add (B1 p_2) (Int.toNat i*2)) 1) h fun z2=>bnd (cond (!z2) (aSome n fun p_3=>gSl (add p_3 0) h fun z3 xn_2 _=>aSome z3 fun p_4=>ck ((0:Int)≤i∧i<(xn_2:Int)) (gInt .i64 (add (add (B1 p_4) (Int.toNat i*2)) 0) h fun z4=>some (decide (z4≤1000000),h))) (some (false,h))) fun c w=>cond c
 (aSome n fun p_5=>gSl (add p_5 0) w fun z5 xn_3 _=>aSome z5 fun p_6=>ck ((0:Int)≤i∧i<(xn_3:Int)) (pV (add (add (B1 p_6) (Int.toNat i*2)) 1) (.bool true) w fun w1=>aSome n fun p_7=>gSl (add p_7 0) w1 fun z6 xn_4 _=>aSome z6 fun p_8=>ck ((0:Int)≤i∧i<(xn_4:Int)) (gInt .i64 (add (add (B1 p_8) (Int.toNat i*2)) 0) w1 fun z7=>some (.tuple ⟨[iI (wrap .i64 (i+(wrap .i64 (256*z7)))),.bool true]⟩,w1))))
 (R Y2 Az5 [(0,.pointer n),(4,iI (wrap .i64 (i+1)))] w)))
 (some (.tuple ⟨[iI 0,.bool false]⟩,h)):=kR
def A61:Cuts:=⟨0,[],[],[(6,⟨[0,1,2,3,4,5,6,7,8,9,10,11,12,13,14,15,16,17,18,19,20,21,22,23,24,25,26,27,28,29,30,31,32,33,34,35],[0,1,3,7,15,31,63,127,127,383,1023,2047,4095,8191,8191,24575,8191,122879,262143,524287,1048575,2097151,4194303,8388607,16777215,33554431,67108863,134217727,67108863,335544319,872415231,1946157055,4093640703,8589934591,17179869183,34359738367],[],[]⟩),(8,⟨[0,1,2,3,4,5,6,7,8,9],[0,1,3,7,0,16,63,127,0,511],[],[]⟩)]⟩
def By4:List Item:=A3 Tryz.f184
theorem Eb0 :
 xQ A61 C R Ac8 Tryz.f184 By4 [(0,.pointer r),(1,iI env),(2,iI name),(3,iI right),(4,iI atv),(5,iI n)] h =
 aSome r fun p=>gPtr (add p 1) h fun x=>bnd (C Ay6 [.pointer x,iI env,iI name] h) fun q1 w=>as2 q1 fun q2 q3=>aAgg q2 fun z1=>aInt .i64 q3 fun z2=>nw (.cells O8 false [iI 0,iI 0,iI 0,iI 0,iI 0,iI 0]) w fun b w1=>ck (List.length z1=6) (pAgg ⟨b,0,none⟩ z1 w1 fun w2=>cond (z2 != 0)
 (some (.tuple ⟨[iI 0,iI z2]⟩,w2))
 (gInt .i64 ⟨b,1,none⟩ w2 fun z3=>cond ((B5 .i64 z3 right)==0)
 (some (.tuple ⟨[iI 0,iI 3]⟩,w2))
 (bnd (cond (decide (atv<0)) (some (true,w2)) (some (decide (n<0),w2))) fun c w3=>bnd (cond c (some (true,w3)) (gInt .i64 ⟨b,3,none⟩ w3 fun z4=>some (decide (atv>z4),w3))) fun c_1 w4=>bnd (cond c_1 (some (true,w4)) (gInt .i64 ⟨b,3,none⟩ w4 fun z5=>some (decide (n>(wrap .i64 (z5-atv))),w4))) fun c_2 w5=>bnd (cond c_2 (some (true,w5)) (gInt .i64 ⟨b,0,none⟩ w5 fun z6=>some (decide (z6<0),w5))) fun c_3 w6=>bnd (cond c_3 (some (true,w6)) (gInt .i64 ⟨b,0,none⟩ w6 fun z7=>aSome r fun p_1=>gSl (add p_1 2) w6 fun _ xn _=>some (decide (z7≥(xn:Int)),w6))) fun c_4 w7=>cond c_4
 (some (.tuple ⟨[iI 0,iI 1]⟩,w7))
 (aSome r fun p_2=>gSl (add p_2 2) w7 fun z9 xn_1 _=>gInt .i64 ⟨b,0,none⟩ w7 fun z10=>aSome z9 fun p_3=>ck ((0:Int)≤z10∧z10<(xn_1:Int)) (gAgg (add (B1 p_3) (Int.toNat z10*2)) 2 w7 fun z11=>nw (.cells A19 false [iI 0,iI 0]) w7 fun p1 w8=>ck (List.length z11=2) (pAgg ⟨p1,0,none⟩ z11 w8 fun w9=>gInt .i64 ⟨b,2,none⟩ w9 fun z12=>gInt .i64 ⟨p1,1,none⟩ w9 fun z13=>bnd (cond (decide ((wrap .i64 (z12+atv))>z13)) (some (true,w9)) (gInt .i64 ⟨p1,1,none⟩ w9 fun z14=>gInt .i64 ⟨b,2,none⟩ w9 fun z15=>some (decide (n>(wrap .i64 ((wrap .i64 (z14-z15))-atv))),w9))) fun c_5 w10=>cond c_5
 (some (.tuple ⟨[iI 0,iI 1]⟩,w10))
 (gInt .i64 ⟨p1,0,none⟩ w10 fun z16=>gInt .i64 ⟨b,2,none⟩ w10 fun z17=>some (.tuple ⟨[iI (wrap .i64 ((wrap .i64 (z16+z17))+atv)),iI 0]⟩,w10)))))))):=kR
def Da8:Cuts:=⟨0,[],[],[]⟩
def D78:List Item:=A3 Tryz.f185
theorem Go3 (m:Option Addr) :
 xQ Da8 C R Bk8 Tryz.f185 D78 [(0,.pointer m),(1,iI atv),(2,.slice b bn bc)] h =
 bnd (C Bo3 [.pointer m,iI atv,iI (bn:Int)] h) fun r w=>aBool r fun x=>cond (!x)
 (some (iI 1,w))
 (aSome m fun p=>gSl (add p 0) w fun z1 xn xc=>ckB (fitsOpen z1 A2 w) (ck ((0:Int)≤atv∧atv≤(xn:Int)) (gCells b (min bn (xn-(Int.toNat atv))*1) w fun cs=>pCells (G7 z1 (decide (Int.toNat atv<xc)) ((Int.toNat atv)*1)) cs w fun w1=>some (iI 0,w1)))):=kR
def B10:Cuts:=⟨0,[],[],[]⟩
def Dv1:List Item:=A3 Tryz.f186
theorem Gf9 :
 xQ B10 C R Ay6 Tryz.f186 Dv1 [(0,.pointer s),(1,iI env),(2,iI name)] h =
 nw (.cells O8 false [iI 0,iI 0,iI 0,iI 0,iI 0,iI 0]) h fun b w=>bnd (C Ai6 [.pointer s,iI env] w) fun r w1=>aBool r fun x=>cond (!x)
 (pAgg ⟨b,0,none⟩ [iI 0,iI 0,iI 0,iI 0,iI 0,iI 0] w1 fun w2=>gAgg ⟨b,0,none⟩ 6 w2 fun z1=>some (.tuple ⟨[.agg ⟨z1⟩,iI 2]⟩,w2))
 (aSome s fun p=>gSl (add p 0) w1 fun z2 xn _=>aSome z2 fun p_1=>ck ((0:Int)≤env∧env<(xn:Int)) (gPtr (add (B1 p_1) (Int.toNat env*1)) w1 fun z3=>bnd (C Ag4 [.pointer z3,iI name] w1) fun q1 w3=>as2 q1 fun q2 q3=>aAgg q2 fun z4=>aBool q3 fun z5=>nw (.cells O8 false [iI 0,iI 0,iI 0,iI 0,iI 0,iI 0]) w3 fun p1 w4=>ck (List.length z4=6) (pAgg ⟨p1,0,none⟩ z4 w4 fun w5=>cond (!z5)
 (pAgg ⟨b,0,none⟩ [iI 0,iI 0,iI 0,iI 0,iI 0,iI 0] w5 fun w6=>gAgg ⟨b,0,none⟩ 6 w6 fun z6=>some (.tuple ⟨[.agg ⟨z6⟩,iI 2]⟩,w6))
 (gAgg ⟨p1,0,none⟩ 6 w5 fun z7=>ck (List.length z7=6) (pAgg ⟨b,0,none⟩ z7 w5 fun w7=>gAgg ⟨b,0,none⟩ 6 w7 fun z8=>some (.tuple ⟨[.agg ⟨z8⟩,iI 0]⟩,w7)))))):=kR
def Bo7:Cuts:=⟨0,[],[],[]⟩
def Dk4:List Item:=A3 Tryz.f190
theorem E51 (s:Int) :
 xQ Bo7 C R A41 Tryz.f190 Dk4 [(0,.pointer q),(1,iI s),(2,iI k)] h =
 bnd (C Am8 [.pointer q,iI s] h) fun r w=>aBool r fun x=>bnd (cond x (some (decide (k≥0),w)) (some (false,w))) fun c w1=>bnd (cond c (aSome q fun p=>gSl (add p 0) w1 fun z1 xn _=>aSome z1 fun p_1=>ck ((0:Int)≤s∧s<(xn:Int)) (gSl (add (B1 p_1) (Int.toNat s*1)) w1 fun _ xn_1 _=>some (decide (k<(xn_1:Int)),w1))) (some (false,w1))) fun c_1 w2=>bnd (cond c_1 (aSome q fun p_2=>gSl (add p_2 0) w2 fun z3 xn_2 _=>aSome z3 fun p_3=>ck ((0:Int)≤s∧s<(xn_2:Int)) (gSl (add (B1 p_3) (Int.toNat s*1)) w2 fun z4 xn_3 _=>aSome z4 fun p_4=>ck ((0:Int)≤k∧k<(xn_3:Int)) (gInt .i64 (add (B1 p_4) (Int.toNat k*1)) w2 fun z5=>some (decide (z5>0),w2)))) (some (false,w2))) fun c_2 w3=>some (.bool c_2,w3):=kR
def V1:Cuts:=⟨0,[(18,[0,1,2])],[(10,[0,1,2]),(11,[0,1,2]),(14,[0,1,2]),(17,[])],[(11,⟨[0,1,2,3,4,5,6,7,8,9,10,11,12,13,14,15,16],[0,1,3,7,15,31,31,95,223,479,1023,31,2079,6175,14367,32767,65535],[],[]⟩),(18,⟨[0,1,2,3,4,5,6,7,8,9,10,11,12,13,14,15,16,17,18,19,20],[0,1,3,7,15,31,0,127,255,511,511,1535,3583,7679,16383,511,33279,98815,229887,524287,1048575],[],[]⟩)]⟩
def Aa5:List Item:=A3 Tryz.f192
def At7:List Item:=stk [0,1,0,1,0,1,0,1,0,1,0,0,1,2,0,1] Aa5
def Au5:List Item:=stk [0,1,0,1,0,1,0,1,0,1,0,1,0,0] Aa5
def Av0:List Item:=stk [0,1,0,1,0,1,0,1,0,1,0,1,0,1,0,0] Aa5
def As4:List Item:=stk [0,1,0,1,0,1,0,1,0,1,0,1,0,1,0,0,1,2,0,1,0] Aa5
def Ah7:List Item:=stk [0,1,0,1,0,1,0,1,0,1,0,1,0,1,0,1,0,4,5] Aa5
theorem Ga2 :
 xQ V1 C R B7 Tryz.f192 Aa5 [(0,.pointer s),(1,iI who),(2,iI now)] h =
 aSome s fun p=>gInt .i64 (add p 7) h fun x=>bnd (cond (decide (who<0)) (some (true,h)) (some (decide (who>99),h))) fun c w=>cond c
 (some (.tuple ⟨[iI 0,.bool false]⟩,w))
 (aSome s fun p_1=>pV (add p_1 7) (iI (mm2 true now x)) w fun w1=>aSome s fun p_2=>gBool (add p_2 1) w1 fun z1=>bnd (cond z1 (aSome s fun p_3=>gInt .i64 (add p_3 2) w1 fun z2=>some (z2==who,w1)) (some (false,w1))) fun c_1 w2=>cond c_1
 (aSome s fun p_4=>gInt .i64 (add p_4 3) w2 fun z3=>some (.tuple ⟨[iI z3,.bool true]⟩,w2))
 (aSome s fun p_5=>gSl (add p_5 5) w2 fun z4 xn xc=>bnd (C M6 [.slice z4 xn xc,iI who] w2) fun r w3=>aBool r fun z5=>cond (!z5)
 (aSome s fun p_6=>gSl (add p_6 5) w3 fun _ xn_1 _=>cond ((xn_1:Int)==0)
 (aSome s fun p_7=>pV (add p_7 6) (iI (mm2 true now x)) w3 fun w4=>R B7 At7 [(0,.pointer s),(1,iI who),(2,iI (mm2 true now x))] w4)
 (R B7 At7 [(0,.pointer s),(1,iI who),(2,iI (mm2 true now x))] w3))
 (R B7 Au5 [(0,.pointer s),(1,iI who),(2,iI (mm2 true now x))] w3))):=kR
theorem Eo0 :
 xQ V1 C R B7 Tryz.f192 At7 [(0,.pointer s),(1,iI who),(2,iI now)] h =
 aSome s fun p=>gSl (add p 5) h fun x xn xc=>nw (.cells B2 false [iI who]) h fun b w=>gCells (some ⟨b,0,none⟩) (1*1) w fun cs=>ckB (fitsOpen x B2 w) (apd B2 1 x xn xc 1 cs w fun a an ac w1=>aSome s fun p_1=>pV (add p_1 5) (.slice a an ac) w1 fun w2=>R B7 Au5 [(0,.pointer s),(1,iI who),(2,iI now)] w2):=kR
theorem Eq0 :
 xQ V1 C R B7 Tryz.f192 Au5 [(0,.pointer s),(1,iI who),(2,iI now)] h =
 aSome s fun p=>gBool (add p 1) h fun x=>bnd (cond x (aSome s fun p_1=>gInt .i64 (add p_1 4) h fun z1=>aSome s fun p_2=>gInt .i64 (add p_2 0) h fun z2=>some (decide ((wrap .i64 (now-z1))≥z2),h)) (some (false,h))) fun c w=>cond c
 (aSome s fun p_3=>pV (add p_3 1) (.bool false) w fun w1=>aSome s fun p_4=>pV (add p_4 6) (iI now) w1 fun w2=>R B7 Av0 [(0,.pointer s),(1,iI who),(2,iI now)] w2)
 (R B7 Av0 [(0,.pointer s),(1,iI who),(2,iI now)] w):=kR
theorem En3 :
 xQ V1 C R B7 Tryz.f192 Av0 [(0,.pointer s),(1,iI who),(2,iI now)] h =
 aSome s fun p=>gBool (add p 1) h fun x=>cond x
 (aSome s fun p_1=>gSl (add p_1 5) h fun z1 xn _=>aSome z1 fun p_2=>ck ((0:Int)≤0∧0<(xn:Int)) (gInt .i64 (add (B1 p_2) (Int.toNat 0*1)) h fun z2=>cond (z2==who)
 (aSome s fun p_3=>pV (add p_3 6) (iI now) h fun w=>R B7 As4 [] w)
 (R B7 As4 [] h)))
 (R B7 Ah7 [(0,.pointer s),(1,iI who),(2,iI now)] h):=kR
theorem Eh8 :
 xQ V1 C R B7 Tryz.f192 As4 [] h =
 some (.tuple ⟨[iI 0,.bool false]⟩,h):=kR
theorem B89 :
 xQ V1 C R B7 Tryz.f192 Ah7 [(0,.pointer s),(1,iI who),(2,iI now)] h =
 aSome s fun p=>gSl (add p 5) h fun x xn _=>aSome x fun p_1=>ck ((0:Int)≤0∧0<(xn:Int)) (gInt .i64 (add (B1 p_1) (Int.toNat 0*1)) h fun z1=>bnd (cond (z1 != who) (aSome s fun p_2=>gInt .i64 (add p_2 6) h fun z2=>aSome s fun p_3=>gInt .i64 (add p_3 0) h fun z3=>some (decide ((wrap .i64 (now-z2))≥z3),h)) (some (false,h))) fun c w=>cond c
 (aSome s fun p_4=>gSl (add p_4 5) w fun z4 xn_1 xc_1=>ckB (fitsOpen z4 B2 w) (ck ((0:Int)≤1∧1≤(xn_1:Int)) (aSome s fun p_5=>pV (add p_5 5) (.slice (G7 z4 (decide (Int.toNat 1<xc_1)) ((Int.toNat 1)*1)) (xn_1-(Int.toNat 1)) (xc_1-(Int.toNat 1))) w fun w1=>aSome s fun p_6=>pV (add p_6 6) (iI now) w1 fun w2=>R B7 Ah7 [(0,.pointer s),(1,iI who),(2,iI now)] w2)))
 (aSome s fun p_7=>gSl (add p_7 5) w fun z5 xn_2 _=>aSome z5 fun p_8=>ck ((0:Int)≤0∧0<(xn_2:Int)) (gInt .i64 (add (B1 p_8) (Int.toNat 0*1)) w fun z6=>cond (z6 != who)
 (some (.tuple ⟨[iI 0,.bool false]⟩,w))
 (aSome s fun p_9=>gSl (add p_9 5) w fun z7 xn_3 xc_3=>ckB (fitsOpen z7 B2 w) (ck ((0:Int)≤1∧1≤(xn_3:Int)) (aSome s fun p_10=>pV (add p_10 5) (.slice (G7 z7 (decide (Int.toNat 1<xc_3)) ((Int.toNat 1)*1)) (xn_3-(Int.toNat 1)) (xc_3-(Int.toNat 1))) w fun w3=>aSome s fun p_11=>pV (add p_11 6) (iI now) w3 fun w4=>aSome s fun p_12=>gInt .i64 (add p_12 8) w4 fun z8=>aSome s fun p_13=>pV (add p_13 8) (iI (wrap .i64 (z8+1))) w4 fun w5=>aSome s fun p_14=>gInt .i64 (add p_14 8) w5 fun z9=>aSome s fun p_15=>pV (add p_15 1) (.bool true) w5 fun w6=>aSome s fun p_16=>pV (add p_16 2) (iI who) w6 fun w7=>aSome s fun p_17=>pV (add p_17 3) (iI z9) w7 fun w8=>aSome s fun p_18=>pV (add p_18 4) (iI now) w8 fun w9=>aSome s fun p_19=>gInt .i64 (add p_19 3) w9 fun z10=>some (.tuple ⟨[iI z10,.bool true]⟩,w9))))))):=kR
def B22:Cuts:=⟨0,[],[],[]⟩
def Dw3:List Item:=A3 Tryz.f194
theorem Gh6 (n:Option Addr) :
 xQ B22 C R Bd0 Tryz.f194 Dw3 [(0,.pointer n),(1,iI name)] h =
 bnd (cond (decide (name≥0)) (aSome n fun p=>gSl (add p 0) h fun _ xn _=>some (decide ((B5 .i64 name 255)<(xn:Int)),h)) (some (false,h))) fun c w=>bnd (cond c (aSome n fun p_1=>gSl (add p_1 0) w fun z1 xn_1 _=>aSome z1 fun p_2=>ck ((0:Int)≤B5 .i64 name 255∧B5 .i64 name 255<(xn_1:Int)) (gBool (add (add (B1 p_2) (Int.toNat (B5 .i64 name 255)*2)) 1) w fun z2=>some (z2,w))) (some (false,w))) fun c_1 w1=>bnd (cond c_1 (aSome n fun p_3=>gSl (add p_3 0) w1 fun z3 xn_2 _=>aSome z3 fun p_4=>ck ((0:Int)≤B5 .i64 name 255∧B5 .i64 name 255<(xn_2:Int)) (gInt .i64 (add (add (B1 p_4) (Int.toNat (B5 .i64 name 255)*2)) 0) w1 fun z4=>some (z4==(Int.fdiv name (2 ^ 8)),w1))) (some (false,w1))) fun c_2 w2=>some (.bool c_2,w2):=kR
def B90:Cuts:=⟨0,[],[],[]⟩
def D54:List Item:=A3 Tryz.f198
theorem Gr4 (c:Int) :
 xQ B90 C R Aj2 Tryz.f198 D54 [(0,.int .u8 c)] h =
 some (.bool (c != 0),h):=kR
def At0:Cuts:=⟨0,[],[],[]⟩
def Bl3:List Item:=A3 Tryz.f208
theorem Du0 :
 xQ At0 C R Ag4 Tryz.f208 Bl3 [(0,.pointer t),(1,iI name)] h =
 nw (.cells O8 false [iI 0,iI 0,iI 0,iI 0,iI 0,iI 0]) h fun b w=>bnd (C Ah5 [.pointer t,iI name] w) fun r w1=>aPtr r fun x=>cond x.isNone
 (nw (.cells O8 false [iI 0,iI 0,iI 0,iI 0,iI 0,iI 0]) w1 fun p1 w2=>gAgg ⟨p1,0,none⟩ 6 w2 fun z1=>ck (List.length z1=6) (pAgg ⟨b,0,none⟩ z1 w2 fun w3=>gAgg ⟨b,0,none⟩ 6 w3 fun z2=>some (.tuple ⟨[.agg ⟨z2⟩,.bool false]⟩,w3)))
 (aSome x fun p=>gAgg (add p 0) 6 w1 fun z3=>ck (List.length z3=6) (pAgg ⟨b,0,none⟩ z3 w1 fun w4=>gAgg ⟨b,0,none⟩ 6 w4 fun z4=>some (.tuple ⟨[.agg ⟨z4⟩,.bool true]⟩,w4))):=kR
def Dz8:Cuts:=⟨0,[],[],[]⟩
def E33:List Item:=A3 Tryz.f215
theorem Hh9 :
 xQ Dz8 C R Bn8 Tryz.f215 E33 [(0,.slice b bn bc),(1,iI atv),(2,iI n)] h =
 bnd (cond (decide (atv<0)) (some (true,h)) (some (decide (atv>(wrap .i64 ((bn:Int)-2))),h))) fun c w=>bnd (cond c (some (true,w)) (some (decide (n<0),w))) fun c_1 w1=>bnd (cond c_1 (some (true,w1)) (some (decide (n>65535),w1))) fun c_2 w2=>cond c_2
 (some (.bool false,w2))
 (aSome b fun p=>ck ((0:Int)≤atv∧atv<(bn:Int)) (pV (add (B1 p) (Int.toNat atv*1)) (.int .u8 (wrap .u8 (Int.fdiv n (2 ^ 8)))) w2 fun w3=>aSome b fun p_1=>ck ((0:Int)≤wrap .i64 (atv+1)∧wrap .i64 (atv+1)<(bn:Int)) (pV (add (B1 p_1) (Int.toNat (wrap .i64 (atv+1))*1)) (.int .u8 (wrap .u8 (n))) w3 fun w4=>some (.bool true,w4)))):=kR
def Dx7:Cuts:=⟨0,[],[],[(3,⟨[0,1,2,3,4,5,6,7,8,9,10,11,12,13,14],[0,0,3,7,15,31,0,0,128,448,960,1984,4095,8191,16383],[],[]⟩)]⟩
def Ew3:List Item:=A3 Tryz.f216
theorem Hj8 :
 xQ Dx7 C R B61 Tryz.f216 Ew3 [(0,.slice b bn bc),(1,iI atv)] h =
 bnd (cond (decide (atv<0)) (some (true,h)) (some (decide (atv>(wrap .i64 ((bn:Int)-2))),h))) fun c w=>cond c
 (some (.tuple ⟨[iI 0,.bool false]⟩,w))
 (aSome b fun p=>ck ((0:Int)≤atv∧atv<(bn:Int)) (gInt .u8 (add (B1 p) (Int.toNat atv*1)) w fun x=>aSome b fun p_1=>ck ((0:Int)≤wrap .i64 (atv+1)∧wrap .i64 (atv+1)<(bn:Int)) (gInt .u8 (add (B1 p_1) (Int.toNat (wrap .i64 (atv+1))*1)) w fun z1=>some (.tuple ⟨[iI (Dw8 .i64 (wrap .i64 ((wrap .i64 (x))*2 ^ 8)) (wrap .i64 (z1))),.bool true]⟩,w)))):=kR
def Ad5:Cuts:=⟨0,[(4,[0,1,12,13])],[],[(6,⟨[0,1,2,3,4,5,6,7,8],[0,0,3,7,0,0,48,112,255],[],[]⟩)]⟩
def Ar0:List Item:=A3 Tryz.f217
def W7:List Item:=stk [0,1,0,1,0,0,1,4,5] Ar0
theorem Dn0 :
 xQ Ad5 C R D2 Tryz.f217 Ar0 [(0,.slice s1 s1n s1c),(1,.slice s2 s2n s2c)] h =
 cond ((s1n:Int) != (s2n:Int))
 (some (.bool false,h))
 (R D2 W7 [(0,.slice s1 s1n s1c),(1,.slice s2 s2n s2c),(12,iI (s1n:Int)),(13,iI 0)] h):=kR
theorem A69 (x12:Int) (x13:Int) :
 xQ Ad5 C R D2 Tryz.f217 W7 [(0,.slice s1 s1n s1c),(1,.slice s2 s2n s2c),(12,iI x12),(13,iI x13)] h =
 cond (decide (x13<x12))
 (aSome s1 fun p=>ck ((0:Int)≤x13∧x13<(s1n:Int)) (gInt .u8 (add (B1 p) (Int.toNat x13*1)) h fun x=>aSome s2 fun p_1=>ck ((0:Int)≤x13∧x13<(s2n:Int)) (gInt .u8 (add (B1 p_1) (Int.toNat x13*1)) h fun z1=>cond (x != z1)
 (some (.bool false,h))
 (R D2 W7 [(0,.slice s1 s1n s1c),(1,.slice s2 s2n s2c),(12,iI x12),(13,iI (wrap .i64 (x13+1)))] h))))
 (some (.bool true,h)):=kR
end
end Go.EQ

set_option maxRecDepth 100000
namespace Go.EQ
open Go Go.NN Go.Proofs
variable (C:D6) (R:Ab3)
noncomputable section
def Io5:List (Nat × Cuts):=[(3,Ah4),(4,Dy2),(5,Dz6),(6,Do4),(7,Ds5),(8,Bf7),(9,Ae6),(10,Bk2),(11,Bf4),(12,Bn2),(13,Bb8),(14,Bf1),(15,Aw3),(16,Dm5),(17,Dm7),(18,Dh3),(19,Df5),(20,Bo1),(21,A59),(22,A51),(23,A12),(24,A52),(25,B78),(26,Dy8),(27,Dw4),(28,Bd9),(29,Au2),(30,A09),(31,Aq8),(32,Ax1),(33,A53),(34,Bf3),(35,Av3),(36,A06),(37,Ar6),(38,Ay5),(39,A48),(40,Bd5),(41,As8),(42,A03),(43,Ar2),(44,Ax2),(45,Bg0),(46,At8),(47,A08),(48,Ba1),(49,Ar3),(50,Ay4),(51,U8),(52,Z2),(53,Be4),(54,A58),(55,Dh4),(56,Bp9),(57,Dm9),(58,Ay7),(59,E14),(60,Dt0),(61,Dj0),(62,Dz1),(63,Eo1),(64,Bc8),(65,Az1),(66,Ap0),(67,B24),(68,Bl7),(69,A30),(70,Bl8),(71,Di3),(72,Bp3),(73,D63),(74,B12),(75,Bw2),(76,Bn3),(77,A74),(78,Bp2),(79,Bv6),(80,Bm9),(81,Bk4),(82,Bg5),(91,B36),(92,Ag2),(93,Dh5),(94,Di2),(95,Ag5),(96,Dn2),(97,Au9),(98,Bv9),(99,De2),(100,Bc9),(101,Ba9),(102,Bg3),(103,Dh7),(104,A11),(105,Bs0),(106,A92),(107,A83),(108,A04),(109,Bf5),(110,Af2),(111,Dh0),(112,De1),(113,Dh2),(114,Df4),(115,Dd9),(116,Bv7),(117,De6),(118,A55),(119,Do7),(120,A05),(121,Ap9),(122,Bg1),(123,Dy4),(124,Ar1),(125,Df3),(126,Ag7),(127,Dv5),(128,Az0),(129,Dg9),(130,Ai9),(131,Bn7),(132,B72),(133,B13),(134,Bm1),(135,Do1),(136,B30),(137,B18),(138,Ab0),(139,Dt7),(140,Ba2),(141,A62),(142,A91),(143,Bq6),(145,Bk0),(146,Bo2),(147,Bv8),(148,Bw3),(149,Bh2),(150,B34),(157,Be9),(158,A63),(159,Do8),(160,Dm8),(161,Al4),(162,Dv6),(163,Al5),(164,A89),(165,Az8),(166,Da2),(167,Ak9),(168,A10),(169,En1),(170,Db0),(171,Ej3),(172,Dn1),(173,Ak7),(174,Al1),(175,Br6),(176,Ak8),(177,Dg8),(178,B87),(179,Di9),(180,Aa0),(181,Ag3),(182,Bd4),(183,Aq5),(184,A61),(185,Da8),(186,B10),(189,B33),(190,Bo7),(191,B15),(192,V1),(193,Bw0),(194,B22),(197,Ab9),(198,B90),(199,Bg6),(200,Bj3),(201,Bx2),(202,Be3),(203,Eh6),(204,Eq4),(205,Bg8),(206,D99),(207,Eb4),(208,At0),(211,Ax3),(212,Bw4),(213,V6),(214,Ei0),(215,Dz8),(216,Dx7),(217,Ad5),(218,E27),(219,En9),(222,Dy5),(223,D11),(224,D82)]
def cutsOf:FuncId→Cuts:=Gs5 Io5
noncomputable abbrev A4:D6:=NN.Call PR cutsOf
noncomputable abbrev E9:Ab3:=NN.Jump PR cutsOf
abbrev fK (f:FuncId) (fn:Func) (C:Cuts) (T:List Item) (n:Nat):Prop:=FnOk PR cutsOf f fn C T n
theorem fM {f : FuncId} {fn : Func} {C : Cuts} {T : List Item} {n : Nat} (a : PR.funcs[f]? = some fn) (b : ∃ c, fn.body = some c := by exact ⟨_, rfl⟩) (c : (fn.name == "runtime.NumGoroutine") = false := by kernel_rfl) (d : cutsOf f = C := by exact rfl) (e : A3 fn = T := by exact rfl) (g : Nat.ble n fn.ntmps = true := by kernel_rfl) : fK f fn C T n := ⟨a, b, c, d, e, g⟩
theorem Aj0:fK B8 Tryz.f3 Ah4 At3 1:=fM Tryz.func3
theorem Hf9:fK Bb0 Tryz.f4 Dy2 Ex6 1:=fM Tryz.func4
theorem Hd8:fK Bo0 Tryz.f5 Dz6 Ez9 0:=fM Tryz.func5
theorem G73:fK B02 Tryz.f6 Do4 Er4 0:=fM Tryz.func6
theorem Gs7:fK A38 Tryz.f7 Ds5 Ek0 5:=fM Tryz.func7
theorem B31:fK Y0 Tryz.f8 Bf7 B32 2:=fM Tryz.func8
theorem Ae4:fK D4 Tryz.f9 Ae6 Aq0 1:=fM Tryz.func9
theorem Ev4:fK Ab7 Tryz.f10 Bk2 Dd8 1:=fM Tryz.func10
theorem Er2:fK Ai2 Tryz.f11 Bf4 B59 2:=fM Tryz.func11
theorem Ex7:fK A36 Tryz.f12 Bn2 Dl0 2:=fM Tryz.func12
theorem Ay3:fK J4 Tryz.f13 Bb8 Bq0 1:=fM Tryz.func13
theorem At4:fK I3 Tryz.f14 Bf1 Br0 1:=fM Tryz.func14
theorem An2:fK G4 Tryz.f15 Aw3 Bb3 1:=fM Tryz.func15
theorem Et8:fK A18 Tryz.f16 Dm5 Es4 2:=fM Tryz.func16
theorem G76:fK Bz7 Tryz.f17 Dm7 Es1 0:=fM Tryz.func17
theorem Gw6:fK Q6 Tryz.f18 Dh3 Ef1 3:=fM Tryz.func18
theorem Ed2:fK U5 Tryz.f19 Df5 Ee3 3:=fM Tryz.func19
theorem Ex4:fK A45 Tryz.f20 Bo1 Dl4 2:=fM Tryz.func20
theorem Eb1:fK V0 Tryz.f21 A59 By1 2:=fM Tryz.func21
theorem Ea5:fK U7 Tryz.f22 A51 By5 1:=fM Tryz.func22
theorem D33:fK S1 Tryz.f23 A12 Bu2 1:=fM Tryz.func23
theorem D84:fK Ad1 Tryz.f24 A52 Bx5 1:=fM Tryz.func24
theorem D15:fK Ah6 Tryz.f25 B78 Dv4 1:=fM Tryz.func25
theorem Hb2:fK B92 Tryz.f26 Dy8 E46 1:=fM Tryz.func26
theorem Hf8:fK B76 Tryz.f27 Dw4 E41 2:=fM Tryz.func27
theorem Eq5:fK Ai5 Tryz.f28 Bd9 Db8 2:=fM Tryz.func28
theorem Dr9:fK Af7 Tryz.f29 Au2 Bm4 3:=fM Tryz.func29
theorem D34:fK Am0 Tryz.f30 A09 Bt6 3:=fM Tryz.func30
theorem Dn5:fK Ad2 Tryz.f31 Aq8 Bj1 2:=fM Tryz.func31
theorem Dv0:fK Aj3 Tryz.f32 Ax1 Bo9 2:=fM Tryz.func32
theorem Eb8:fK Ac3 Tryz.f33 A53 Bw6 2:=fM Tryz.func33
theorem Em4:fK Aj4 Tryz.f34 Bf3 B94 2:=fM Tryz.func34
theorem Dq9:fK Af6 Tryz.f35 Av3 Bk6 3:=fM Tryz.func35
theorem D25:fK Am1 Tryz.f36 A06 Bt7 3:=fM Tryz.func36
theorem Dm6:fK Ad3 Tryz.f37 Ar6 Bi8 2:=fM Tryz.func37
theorem Dw5:fK Ai8 Tryz.f38 Ay5 Bq5 2:=fM Tryz.func38
theorem D94:fK Ac5 Tryz.f39 A48 Bx9 2:=fM Tryz.func39
theorem Ei5:fK Aj7 Tryz.f40 Bd5 B57 2:=fM Tryz.func40
theorem Dr3:fK Af9 Tryz.f41 As8 Bl1 3:=fM Tryz.func41
theorem D27:fK Am2 Tryz.f42 A03 Bu6 3:=fM Tryz.func42
theorem Dm3:fK Ad6 Tryz.f43 Ar2 Bi1 2:=fM Tryz.func43
theorem Du8:fK Ah3 Tryz.f44 Ax2 Bm8 2:=fM Tryz.func44
theorem Ek1:fK Ai1 Tryz.f45 Bg0 Db6 1:=fM Tryz.func45
theorem Dt4:fK Af5 Tryz.f46 At8 Bm2 2:=fM Tryz.func46
theorem D38:fK Al9 Tryz.f47 A08 Bu0 2:=fM Tryz.func47
theorem Eh1:fK Ae5 Tryz.f48 Ba1 B40 1:=fM Tryz.func48
theorem Dn3:fK Ad9 Tryz.f49 Ar3 Bh8 2:=fM Tryz.func49
theorem Dw2:fK Aj5 Tryz.f50 Ay4 Bp0 2:=fM Tryz.func50
theorem O2:fK D1 Tryz.f51 U8 Ac0 1:=fM Tryz.func51
theorem S7:fK D8 Tryz.f52 Z2 Ai4 1:=fM Tryz.func52
theorem Em0:fK At1 Tryz.f53 Be4 B53 1:=fM Tryz.func53
theorem Eb6:fK U9 Tryz.f54 A58 Bx4 2:=fM Tryz.func54
theorem Gx5:fK A87 Tryz.f55 Dh4 Eg3 3:=fM Tryz.func55
theorem Bq2:fK U3 Tryz.f56 Bp9 B63 1:=fM Tryz.func56
theorem G69:fK Bi3 Tryz.f57 Dm9 Er5 1:=fM Tryz.func57
theorem Dv9:fK Y3 Tryz.f58 Ay7 Bp8 1:=fM Tryz.func58
theorem Ig2:fK D70 Tryz.f59 E14 G26 1:=fM Tryz.func59
theorem Eq6:fK A44 Tryz.f60 Dt0 Eq7 1:=fM Tryz.func60
theorem D88:fK Av5 Tryz.f61 Dj0 D93 1:=fM Tryz.func61
theorem Hf4:fK B97 Tryz.f62 Dz1 E59 2:=fM Tryz.func62
theorem H51:fK Dt5 Tryz.f63 Eo1 Gr1 1:=fM Tryz.func63
theorem Eh3:fK As6 Tryz.f64 Bc8 Db7 3:=fM Tryz.func64
theorem Bk3:fK O9 Tryz.f65 Az1 Bj8 2:=fM Tryz.func65
theorem Dk5:fK M6 Tryz.f66 Ap0 Bc3 2:=fM Tryz.func66
theorem Gh8:fK Bf0 Tryz.f67 B24 Dv8 3:=fM Tryz.func67
theorem B66:fK Ab2 Tryz.f68 Bl7 Db2 1:=fM Tryz.func68
theorem Bm7:fK N8 Tryz.f69 A30 Bq1 2:=fM Tryz.func69
theorem B85:fK Aa8 Tryz.f70 Bl8 B74 1:=fM Tryz.func70
theorem Gv1:fK Br5 Tryz.f71 Di3 Ec3 1:=fM Tryz.func71
theorem E20:fK A42 Tryz.f72 Bp3 Dj6 3:=fM Tryz.func72
theorem Ew9:fK Bc6 Tryz.f73 D63 Ev6 2:=fM Tryz.func73
theorem Gj8:fK Bd7 Tryz.f74 B12 D18 3:=fM Tryz.func74
theorem Gb1:fK As1 Tryz.f75 Bw2 Dp9 1:=fM Tryz.func75
theorem E38:fK Ao8 Tryz.f76 Bn3 Dk1 2:=fM Tryz.func76
theorem Bv0:fK M9 Tryz.f77 A74 Bu9 1:=fM Tryz.func77
theorem E61:fK Y6 Tryz.f78 Bp2 Dl6 1:=fM Tryz.func78
theorem Ga5:fK A79 Tryz.f79 Bv6 Dp6 3:=fM Tryz.func79
theorem E30:fK A21 Tryz.f80 Bm9 Dm1 3:=fM Tryz.func80
theorem Eu4:fK Az3 Tryz.f81 Bk4 Dd4 5:=fM Tryz.func81
theorem En6:fK At5 Tryz.f82 Bg5 Da0 5:=fM Tryz.func82
theorem Gj7:fK Bh3 Tryz.f91 B36 D04 2:=fM Tryz.func91
theorem Au8:fK L0 Tryz.f92 Ag2 At6 3:=fM Tryz.func92
theorem Gy1:fK Aw5 Tryz.f93 Dh5 Ed1 1:=fM Tryz.func93
theorem Gw4:fK Aw6 Tryz.f94 Di2 Ec7 1:=fM Tryz.func94
theorem Au1:fK I6 Tryz.f95 Ag5 As3 3:=fM Tryz.func95
theorem G77:fK Aq6 Tryz.f96 Dn2 Eu0 1:=fM Tryz.func96
theorem Bh0:fK U1 Tryz.f97 Au9 Bg9 3:=fM Tryz.func97
theorem Gb9:fK Ak2 Tryz.f98 Bv9 Dp7 1:=fM Tryz.func98
theorem Gx2:fK I0 Tryz.f99 De2 Ec6 2:=fM Tryz.func99
theorem En5:fK S6 Tryz.f100 Bc9 Da3 2:=fM Tryz.func100
theorem Bc0:fK N6 Tryz.f101 Ba9 Bq7 1:=fM Tryz.func101
theorem Eo3:fK Z8 Tryz.f102 Bg3 Db4 3:=fM Tryz.func102
theorem Gt6:fK Bb9 Tryz.f103 Dh7 Ee1 1:=fM Tryz.func103
theorem D36:fK H1 Tryz.f104 A11 Bu4 4:=fM Tryz.func104
theorem Di0:fK Z1 Tryz.f105 Bs0 Dg2 1:=fM Tryz.func105
theorem Ef9:fK M7 Tryz.f106 A92 B48 3:=fM Tryz.func106
theorem Bw1:fK Q1 Tryz.f107 A83 Bv5 1:=fM Tryz.func107
theorem D24:fK S5 Tryz.f108 A04 Bu3 2:=fM Tryz.func108
theorem Ep6:fK Z7 Tryz.f109 Bf5 Da5 2:=fM Tryz.func109
theorem As5:fK J8 Tryz.f110 Af2 As7 3:=fM Tryz.func110
theorem Gz5:fK Aw4 Tryz.f111 Dh0 Ef8 1:=fM Tryz.func111
theorem Gu6:fK Aw7 Tryz.f112 De1 Ef5 1:=fM Tryz.func112
theorem Gu1:fK Bs4 Tryz.f113 Dh2 Eh0 1:=fM Tryz.func113
theorem Gu0:fK Bb2 Tryz.f114 Df4 Ed0 1:=fM Tryz.func114
theorem Gx8:fK A86 Tryz.f115 Dd9 Eh2 1:=fM Tryz.func115
theorem Gc2:fK Ar9 Tryz.f116 Bv7 Dq2 1:=fM Tryz.func116
theorem Gx6:fK Aw8 Tryz.f117 De6 Ef4 1:=fM Tryz.func117
theorem D96:fK Ac6 Tryz.f118 A55 Bx7 2:=fM Tryz.func118
theorem G63:fK A16 Tryz.f119 Do7 Es6 1:=fM Tryz.func119
theorem D23:fK Aa2 Tryz.f120 A05 Bt9 3:=fM Tryz.func120
theorem A97:fK G0 Tryz.f121 Ap9 A96 2:=fM Tryz.func121
theorem Ej5:fK Ah9 Tryz.f122 Bg1 Db1 1:=fM Tryz.func122
theorem Ha6:fK Bo3 Tryz.f123 Dy4 Ex1 3:=fM Tryz.func123
theorem Bi0:fK G6 Tryz.f124 Ar1 Bi9 1:=fM Tryz.func124
theorem Gy8:fK H5 Tryz.f125 Df3 Eg4 2:=fM Tryz.func125
theorem A02:fK E7 Tryz.f126 Ag7 A00 2:=fM Tryz.func126
theorem Hi0:fK B71 Tryz.f127 Dv5 E24 2:=fM Tryz.func127
theorem Bj7:fK Q0 Tryz.f128 Az0 Bj9 1:=fM Tryz.func128
theorem Gu4:fK A88 Tryz.f129 Dg9 Ef3 1:=fM Tryz.func129
theorem Ay0:fK H9 Tryz.f130 Ai9 Ay2 2:=fM Tryz.func130
theorem Ex8:fK Ap1 Tryz.f131 Bn7 Dj7 1:=fM Tryz.func131
theorem Gp2:fK Ai6 Tryz.f132 B72 D60 2:=fM Tryz.func132
theorem Gh1:fK Ax4 Tryz.f133 B13 Dx2 3:=fM Tryz.func133
theorem B54:fK Ab1 Tryz.f134 Bm1 B91 1:=fM Tryz.func134
theorem G81:fK Ak5 Tryz.f135 Do1 Es5 3:=fM Tryz.func135
theorem Gf5:fK Am9 Tryz.f136 B30 Dw7 2:=fM Tryz.func136
theorem Gi7:fK Be8 Tryz.f137 B18 Dy0 3:=fM Tryz.func137
theorem Ao9:fK G3 Tryz.f138 Ab0 Ap2 1:=fM Tryz.func138
theorem El9:fK Aj6 Tryz.f139 Dt7 Em1 1:=fM Tryz.func139
theorem Ec8:fK Ae9 Tryz.f140 Ba2 B49 5:=fM Tryz.func140
theorem Ea9:fK Ad0 Tryz.f141 A62 Bx8 5:=fM Tryz.func141
theorem Ef2:fK Ap6 Tryz.f142 A91 B47 7:=fM Tryz.func142
theorem E23:fK A34 Tryz.f143 Bq6 Dj4 7:=fM Tryz.func143
theorem Ev0:fK Az6 Tryz.f145 Bk0 Dd6 2:=fM Tryz.func145
theorem E18:fK A27 Tryz.f146 Bo2 Dk3 3:=fM Tryz.func146
theorem Gc0:fK A76 Tryz.f147 Bv8 Dp0 3:=fM Tryz.func147
theorem Gb8:fK A82 Tryz.f148 Bw3 Dp5 3:=fM Tryz.func148
theorem El0:fK Aj9 Tryz.f149 Bh2 B56 6:=fM Tryz.func149
theorem Gk1:fK Be0 Tryz.f150 B34 Dz4 3:=fM Tryz.func150
theorem B11:fK S9 Tryz.f157 Be9 B35 1:=fM Tryz.func157
theorem Ec1:fK O5 Tryz.f158 A63 Bx6 2:=fM Tryz.func158
theorem G57:fK Ar5 Tryz.f159 Do8 Et3 1:=fM Tryz.func159
theorem G51:fK Bh4 Tryz.f160 Dm8 Es8 0:=fM Tryz.func160
theorem Dc4:fK W8 Tryz.f161 Al4 A68 2:=fM Tryz.func161
theorem Hj0:fK Bn6 Tryz.f162 Dv6 E10 0:=fM Tryz.func162
theorem Dc1:fK W4 Tryz.f163 Al5 A67 2:=fM Tryz.func163
theorem Eg2:fK W2 Tryz.f164 A89 B43 2:=fM Tryz.func164
theorem Bk5:fK L9 Tryz.f165 Az8 Bk1 2:=fM Tryz.func165
theorem D12:fK Ac2 Tryz.f166 Da2 D16 1:=fM Tryz.func166
theorem Dc2:fK W3 Tryz.f167 Ak9 A65 2:=fM Tryz.func167
theorem D35:fK S4 Tryz.f168 A10 Bt8 2:=fM Tryz.func168
theorem H64:fK Q2 Tryz.f169 En1 Gp0 3:=fM Tryz.func169
theorem Go2:fK Ah8 Tryz.f170 Db0 D62 1:=fM Tryz.func170
theorem H55:fK Bd8 Tryz.f171 Ej3 Go8 1:=fM Tryz.func171
theorem G67:fK Bh5 Tryz.f172 Dn1 Er7 0:=fM Tryz.func172
theorem Dc9:fK W5 Tryz.f173 Ak7 A70 2:=fM Tryz.func173
theorem Dc3:fK W6 Tryz.f174 Al1 A64 2:=fM Tryz.func174
theorem Df6:fK Ae3 Tryz.f175 Br6 Dg1 1:=fM Tryz.func175
theorem Dd0:fK W9 Tryz.f176 Ak8 A66 2:=fM Tryz.func176
theorem Gy2:fK Ba5 Tryz.f177 Dg8 Ef7 1:=fM Tryz.func177
theorem Gp1:fK Bl2 Tryz.f178 B87 D43 2:=fM Tryz.func178
theorem Ec0:fK Ac4 Tryz.f179 Di9 D86 1:=fM Tryz.func179
theorem L5:fK E0 Tryz.f180 Aa0 An0 2:=fM Tryz.func180
theorem Au7:fK I5 Tryz.f181 Ag3 Au3 2:=fM Tryz.func181
theorem B14:fK Y2 Tryz.f182 Bd4 B26 1:=fM Tryz.func182
theorem Dn8:fK N7 Tryz.f183 Aq5 Bi2 2:=fM Tryz.func183
theorem Eb7:fK Ac8 Tryz.f184 A61 By4 6:=fM Tryz.func184
theorem Go7:fK Bk8 Tryz.f185 Da8 D78 3:=fM Tryz.func185
theorem Gg0:fK Ay6 Tryz.f186 B10 Dv1 3:=fM Tryz.func186
theorem Gk3:fK Am8 Tryz.f189 B33 D08 2:=fM Tryz.func189
theorem Ev8:fK A41 Tryz.f190 Bo7 Dk4 3:=fM Tryz.func190
theorem Gj3:fK Ax6 Tryz.f191 B15 D13 3:=fM Tryz.func191
theorem Aa6:fK B7 Tryz.f192 V1 Aa5 3:=fM Tryz.func192
theorem Gb4:fK A78 Tryz.f193 Bw0 Do9 3:=fM Tryz.func193
theorem Gk2:fK Bd0 Tryz.f194 B22 Dw3 2:=fM Tryz.func194
theorem Bx3:fK R0 Tryz.f197 Ab9 Aw1 2:=fM Tryz.func197
theorem Gt0:fK Aj2 Tryz.f198 B90 D54 1:=fM Tryz.func198
theorem Ep9:fK As9 Tryz.f199 Bg6 B81 3:=fM Tryz.func199
theorem I2:fK O3 Tryz.f200 Bj3 Bx1 2:=fM Tryz.func200
theorem O4:fK Z0 Tryz.f201 Bx2 Di5 1:=fM Tryz.func201
theorem Ep2:fK At9 Tryz.f202 Be3 Dc0 3:=fM Tryz.func202
theorem H10:fK Br8 Tryz.f203 Eh6 Gq2 2:=fM Tryz.func203
theorem H33:fK Bt1 Tryz.f204 Eq4 Gs0 1:=fM Tryz.func204
theorem Ek4:fK At2 Tryz.f205 Bg8 Da7 3:=fM Tryz.func205
theorem Hq6:fK Av4 Tryz.f206 D99 Gc5 2:=fM Tryz.func206
theorem Hq2:fK Av9 Tryz.f207 Eb4 Ge9 1:=fM Tryz.func207
theorem Ds9:fK Ag4 Tryz.f208 At0 Bl3 2:=fM Tryz.func208
theorem Dx5:fK Ah5 Tryz.f211 Ax3 Bn9 2:=fM Tryz.func211
theorem Ga3:fK A85 Tryz.f212 Bw4 Dq1 3:=fM Tryz.func212
theorem Ah1:fK G2 Tryz.f213 V6 Ah2 2:=fM Tryz.func213
theorem Hz7:fK Dt2 Tryz.f214 Ei0 Gn3 1:=fM Tryz.func214
theorem Hb3:fK Bn8 Tryz.f215 Dz8 E33 3:=fM Tryz.func215
theorem Hd9:fK B61 Tryz.f216 Dx7 Ew3 2:=fM Tryz.func216
theorem Ar4:fK D2 Tryz.f217 Ad5 Ar0 2:=fM Tryz.func217
theorem Ib6:fK D59 Tryz.f218 E27 G11 1:=fM Tryz.func218
theorem H25:fK Dt9 Tryz.f219 En9 Gs1 1:=fM Tryz.func219
theorem Hc4:fK Ap3 Tryz.f222 Dy5 Ew4 2:=fM Tryz.func222
theorem Hj6:fK Bn4 Tryz.f223 D11 Ey7 1:=fM Tryz.func223
theorem Hn9:fK Av7 Tryz.f224 D82 Ge3 2:=fM Tryz.func224
end
end Go.EQ

namespace Go.EQ
open Go Go.NN Go.Proofs
theorem Ao3:type_of% Tryz.underlying3:=Tryz.underlying3
theorem H86:type_of% Tryz.underlying4:=Tryz.underlying4
theorem Hw6:type_of% Tryz.underlying5:=Tryz.underlying5
theorem E58:type_of% Tryz.underlying22:=Tryz.underlying22
theorem It8:type_of% Tryz.underlying35:=Tryz.underlying35
theorem Ib7:type_of% Tryz.underlying36:=Tryz.underlying36
theorem Iq7:type_of% Tryz.underlying37:=Tryz.underlying37
theorem H27:type_of% Tryz.underlying39:=Tryz.underlying39
theorem H34:type_of% Tryz.underlying41:=Tryz.underlying41
theorem H56:type_of% Tryz.underlying42:=Tryz.underlying42
theorem H01:type_of% Tryz.underlying44:=Tryz.underlying44
theorem H44:type_of% Tryz.underlying46:=Tryz.underlying46
end Go.EQ
