/- A blocked call ends when a signal that is caught comes, and tells so; one that ends the process ends it with that code; one that is ignored, or kept off, does nothing. -/
import Derived.Test.YtonlefldpebcpaaGreatDoorMd
import Derived.KernelRfl
set_option linter.all false
set_option maxRecDepth 100000
namespace Go.EQ
open Go Go.NN Go.Proofs
open Go.IntKind (wrap)
open Go.Addr (add)
variable (C:E0) (R:Ab8) (fv0 nonev swaps v x2 x6:Addr) (grown more:Bool) (h:H) (a atv e env fd first g i isv j lease lo n name target x45 x46 x54 x7 x8 x86 x87:Int) (p x:List Value) (bc bn datac datan foundc foundn lc ln outc outn sc sn x44c x44n x85c x85n:Nat) (b c data found k l m out q r s w x44 x85:Option Addr) (of:Option Nat) (cmp decode f:Value)
noncomputable section
def Dl5:Cuts:=⟨2,[(7,[4,6,8,9,10])],[],[]⟩
def Ef2:List Item:=A8 Tryz.f7
def A77:List Item:=stk [0,1,0,1,0,1,0,1,0,1,0,0,1,4,5] Ef2
theorem If2 :
 xQ Dl5 C R Ah7 Tryz.f7 Ef2 [] h =
 bnd (C B66 [] h) fun r w=>aSl r fun x xn xc=>bnd (C As3 [.slice x xn xc] w) fun q1 w1=>as4 q1 fun q2 q3 q4 q5=>aPtr q2 fun z1=>aPtr q3 fun z2=>aPtr q4 fun z3=>aPtr q5 fun _=>cond z2.isNone
 (jT [.pointer none,sN,.pointer none,sN] w1)
 (R Ah7 A77 [(4,.pointer z1),(6,.pointer z3),(8,sN),(9,sN),(10,iI 0)] w1):=kR
theorem Eo3 (wv:Option Addr) (mn mc:Nat) :
 xQ Dl5 C R Ah7 Tryz.f7 A77 [(4,.pointer k),(6,.pointer wv),(8,.slice l ln lc),(9,.slice m mn mc),(10,iI i)] h =
 cond (decide (i<4))
 (bnd (C A92 [.pointer k,iI i,iI i,iI 0] h) fun r w=>as2 r fun q1 q2=>aPtr q1 fun x=>aI q2 fun z1=>jO x.isNone w (some (z1 != 0,w)) fun c w1=>cond c
 (jT [.pointer none,sN,.pointer none,sN] w1)
 (nw (.cells J9 false [.pointer x]) w1 fun b w2=>gCells (some ⟨b,0,none⟩) (1*1) w2 fun cs=>ckB (fitsOpen l J9 w2) (apd J9 1 l ln lc 1 cs w2 fun a an ac w3=>bnd (C Br6 [.pointer wv,iI i,iI i,iI 0] w3) fun q3 w4=>aPtr q3 fun z2=>nw (.cells Aq0 false [.pointer z2]) w4 fun p1 w5=>gCells (some ⟨p1,0,none⟩) (1*1) w5 fun cs_1=>ckB (fitsOpen m Aq0 w5) (apd Aq0 1 m mn mc 1 cs_1 w5 fun a_1 an_1 ac_1 w6=>R Ah7 A77 [(4,.pointer k),(6,.pointer wv),(8,.slice a an ac),(9,.slice a_1 an_1 ac_1),(10,iI (wrap .i64 (i+1)))] w6))))
 (jT [.pointer k,.slice l ln lc,.pointer wv,.slice m mn mc] h):=kR
def B26:Cuts:=⟨2,[],[],[(4,⟨[0,1,2,3,4,5,6,7,12,8,9,10,11,13,14],[0,1,3,7,0,16,48,112,255,511,1023,1023,0,6143,16383],[],[]⟩),(8,⟨[0,1,2,3,4,5,6,7,8],[0,0,0,1,9,25,63,127,255],[(5,[2])],[]⟩)]⟩
def D29:List Item:=A8 Tryz.f9
theorem D46 (s:List Value) :
 xQ B26 C R Af2 Tryz.f9 D29 [(0,.pointer w),(1,.agg ⟨s⟩)] h =
 nw (.cells Dd1 false s) h fun b w1=>aSome w fun p=>gPtr (add p 4) w1 fun x=>bnd (C D1 [.pointer x] w1) fun r w2=>as0 r (aSome w fun p_1=>gInt .i64 (add p_1 5) w2 fun z1=>cond (z1 != 0)
 (some (.bool false,w2))
 (aSome w fun p_2=>gPtr (add p_2 4) w2 fun z2=>aSome w fun p_3=>gInt .i64 (add p_3 2) w2 fun z3=>nw (.cells B2 false zZ1) w2 fun p1 w3=>bnd (C E4 [.pointer z2,iI z3] w3) fun q1 w4=>as2 q1 fun q2 q3=>aAgg q2 fun z4=>aI q3 fun z5=>jK 16 p1 0 z4 w4 fun w5=>jO (z5 != 1) w5 (jI p1 0 w5 fun z6=>some (z6==2,w5)) fun c w6=>cond c
 (some (.bool false,w6))
 (jS b 3 w6 fun z7 xn xc=>bnd (C I1 [.slice z7 xn xc] w6) fun q4 w7=>aSl q4 fun z8 xn_1 xc_1=>jV b 3 (.slice z8 xn_1 xc_1) w7 fun w8=>jA b 0 4 w8 fun z9=>aSome w fun p_4=>pV (add p_4 5) (iI 1) w8 fun w9=>jA b 0 4 w9 fun z10=>same (.agg ⟨z9⟩) (.agg ⟨z10⟩) (aSome w fun p_5=>ck (List.length z9=4) (pAgg (add p_5 7) z9 w9 fun w10=>some (.bool true,w10)))))):=kR
def Da0:Cuts:=⟨2,[],[],[(1,⟨[0,1,2,3,4,5,6,7,9,10,11,12,8,13],[0,1,3,7,0,16,48,112,255,0,512,1536,3584,8191],[(8,[12])],[]⟩)]⟩
def Ej2:List Item:=A8 Tryz.f28
theorem G38 :
 xQ Da0 C R A29 Tryz.f28 Ej2 [(0,.pointer w)] h =
 aSome w fun p=>gInt .i64 (add p 5) h fun x=>jO (x==1) h (aSome w fun p_1=>gInt .i64 (add p_1 5) h fun z1=>some (z1==2,h)) fun c w1=>cond c
 (aSome w fun p_2=>gPtr (add p_2 0) w1 fun z2=>aSome w fun p_3=>gInt .i64 (add p_3 3) w1 fun z3=>aSome w fun p_4=>gInt .i64 (add p_4 1) w1 fun z4=>bnd (C Ad9 [.pointer z2,iI z3] w1) fun r w2=>aPtr r fun z5=>gInt .i64 (add p_4 1) w2 fun z6=>same (iI z4) (iI z6) (bnd (C G21 [.pointer z5,iI z4] w2) fun q1 w3=>as0 q1 (aSome w fun p_5=>pV (add p_5 5) (iI 0) w3 fun w4=>jT [] w4)))
 (aSome w fun p_6=>pV (add p_6 5) (iI 0) w1 fun w5=>jT [] w5):=kR
def Ei9:Cuts:=⟨2,[],[],[]⟩
def Gj1:List Item:=A8 Tryz.f41
theorem Ic6 :
 xQ Ei9 C R Dk3 Tryz.f41 Gj1 [] h =
 nw (.cells De9 false [sN,sN,iI 0]) h fun b w=>nw (.cells G95 false [.bool false,.bool false]) w fun p1 w1=>nw (.cells Dh8 false [iI 0,iI 1,iI 1,iI 0]) w1 fun p2 w2=>jW b 0 [.slice (some ⟨p1,0,none⟩) 2 2,.slice (some ⟨p2,0,none⟩) 2 2,iI 5] w2 fun w3=>jA b 0 3 w3 fun x=>jG x w3:=kR
def Bc9:Cuts:=⟨2,[(4,[1,3,4])],[],[(2,⟨[0,1,2,5,6,9,10,13,14,3,4,7,8,11,12,15,16,17],[0,0,2,6,15,0,32,110,255,0,512,1774,4095,0,8192,28398,65535,131071],[(3,[6,10,14]),(7,[10,14]),(11,[14])],[]⟩)]⟩
def B16:List Item:=A8 Tryz.f46
def Az3:List Item:=stk [0,1,0,1,0,1,0,0,1,4,5] B16
theorem Gu6 :
 xQ Bc9 C R Aa2 Tryz.f46 B16 [(0,.agg ⟨p⟩)] h =
 nw (.cells B2 false p) h fun b w=>jI b 0 w fun x=>jI b 1 w fun z1=>jI b 2 w fun z2=>jI b 3 w fun z3=>nw (.cells A9 false [.int .u8 (wrap .u8 (x)),.int .u8 (wrap .u8 (z1)),.int .u8 (wrap .u8 (z2)),.int .u8 (wrap .u8 (z3))]) w fun p1 w1=>gCells (some ⟨p1,0,none⟩) 4 w1 fun cs=>asBytes cs fun l=>jI b 4 w1 fun z4=>jI b 5 w1 fun z5=>jI b 6 w1 fun z6=>jI b 7 w1 fun z7=>bnd (C Bi9 [iI z4] w1) fun r w2=>aStr r fun z8=>jI b 5 w2 fun z9=>same (iI z5) (iI z9) (jI b 6 w2 fun z10=>same (iI z6) (iI z10) (jI b 7 w2 fun z11=>same (iI z7) (iI z11) (ck (ByteArray.size (ByteArray.mk ⟨l⟩)+ByteArray.size z8≤B3) (bnd (C Bi9 [iI z5] w2) fun q1 w3=>aStr q1 fun z12=>jI b 6 w3 fun z13=>same (iI z6) (iI z13) (jI b 7 w3 fun z14=>same (iI z7) (iI z14) (ck (ByteArray.size ((ByteArray.mk ⟨l⟩)++z8)+ByteArray.size z12≤B3) (bnd (C Bi9 [iI z6] w3) fun q2 w4=>aStr q2 fun z15=>jI b 7 w4 fun z16=>same (iI z7) (iI z16) (ck (ByteArray.size (((ByteArray.mk ⟨l⟩)++z8)++z12)+ByteArray.size z15≤B3) (bnd (C Bi9 [iI z7] w4) fun q3 w5=>aStr q3 fun z17=>ck (ByteArray.size ((((ByteArray.mk ⟨l⟩)++z8)++z12)++z15)+ByteArray.size z17≤B3) (R Aa2 Az3 [(1,pP b),(3,.string (((((ByteArray.mk ⟨l⟩)++z8)++z12)++z15)++z17)),(4,iI 0)] w5)))))))))):=kR
theorem Di5 (p:Addr) (s:ByteArray) :
 xQ Bc9 C R Aa2 Tryz.f46 Az3 [(1,.pointer (some p)),(3,.string s),(4,iI i)] h =
 cond (decide (i<8))
 (ck ((0:Int)≤i∧i<((8:Nat):Int)) (gInt .i64 (add (add p 8) (Int.toNat i*1)) h fun x=>nw (.cells A9 false [.int .u8 (wrap .u8 (x))]) h fun b w=>gCells (some ⟨b,0,none⟩) 1 w fun cs=>asBytes cs fun l=>ck (ByteArray.size s+ByteArray.size (ByteArray.mk ⟨l⟩)≤B3) (R Aa2 Az3 [(1,.pointer (some p)),(3,.string (s++(ByteArray.mk ⟨l⟩))),(4,iI (wrap .i64 (i+1)))] w)))
 (ck (ByteArray.size s+ByteArray.size (ByteArray.mk ⟨[167]⟩)≤B3) (bnd (C Am7 [.string (s++(ByteArray.mk ⟨[167]⟩))] h) fun r w1=>aInt .u8 r fun z1=>nw (.cells A9 false [.int .u8 z1,.int .u8 0,.int .u8 0]) w1 fun p1 w2=>gCells (some ⟨p1,0,none⟩) 3 w2 fun cs_1=>asBytes cs_1 fun l_1=>ck (ByteArray.size (s++(ByteArray.mk ⟨[167]⟩))+ByteArray.size (ByteArray.mk ⟨l_1⟩)≤B3) (some (.string ((s++(ByteArray.mk ⟨[167]⟩))++(ByteArray.mk ⟨l_1⟩)),w2)))):=kR
def Da8:Cuts:=⟨2,[],[],[]⟩
def Ee1:List Item:=A8 Tryz.f48
theorem Eg4 :
 xQ Da8 C R Ad9 Tryz.f48 Ee1 [(0,.pointer k),(1,iI n)] h =
 jO (decide (n<0)) h (aSome k fun p=>gSl (add p 6) h fun _ xn _=>some (decide (n≥(xn:Int)),h)) fun c w=>cond c
 (some (.pointer none,w))
 (aSome k fun p_1=>gSl (add p_1 6) w fun z1 xn_1 _=>aSome z1 fun p_2=>jR n xn_1 (gPtr (add (B4 p_2) (Int.toNat n*1)) w fun z2=>some (.pointer z2,w))):=kR
def Bb1:Cuts:=⟨2,[],[],[]⟩
def B48:List Item:=A8 Tryz.f51
theorem Eu8 (kind:Int) :
 xQ Bb1 C R Ah3 Tryz.f51 B48 [(0,.pointer c),(1,iI kind)] h =
 cond (kind==1)
 (some (iI 8,h))
 (cond (kind==2)
 (some (iI 12,h))
 (cond (kind==3)
 (aSome c fun p=>gSl (add p 2) h fun _ xn _=>some (iI (wrap .i64 ((wrap .i64 (4+(xn:Int)))-1)),h))
 (some (iI 1,h)))):=kR
def A59:Cuts:=⟨2,[],[],[]⟩
def B09:List Item:=A8 Tryz.f54
theorem Ej9 :
 xQ A59 C R Ao8 Tryz.f54 B09 [(0,.pointer c)] h =
 bnd (C Y8 [.pointer c,.agg ⟨[iI 5,iI 0]⟩,.func (.func An1) ⟨[]⟩ ⟨[]⟩] h) fun r w=>as2 r fun q1 q2=>aI q1 fun x=>aI q2 fun z1=>jT [iI x,.bool (z1==1)] w:=kR
def Ds7:Cuts:=⟨2,[(6,[2,8,9,10])],[],[]⟩
def Eq1:List Item:=A8 Tryz.f60
def By9:List Item:=stk [0,1,0,1,0,1,0,1,0,0,1,4,5] Eq1
theorem Io3 (view:Option Addr) (viewn viewc:Nat) (now:Int) :
 xQ Ds7 C R A02 Tryz.f60 Eq1 [(0,.slice view viewn viewc),(1,iI now),(2,.slice l ln lc)] h =
 bnd (C Ad4 [.slice l ln lc] h) fun r w=>aI r fun x=>cond (x != 0)
 (jT [.bool false,iI 0] w)
 (nw (.cells Ex0 false [iI 0,.slice view viewn viewc,iI now]) w fun b w1=>R A02 By9 [(2,.slice l ln lc),(8,pP b),(9,iI 0),(10,iI 0)] w1):=kR
theorem Dr2 (m:Addr) (steps:Int) :
 xQ Ds7 C R A02 Tryz.f60 By9 [(2,.slice l ln lc),(8,.pointer (some m)),(9,iI steps),(10,iI atv)] h =
 cond (decide (atv<(ln:Int)))
 (aSome l fun p=>jR atv ln (gInt .i64 (add (add (B4 p) (Int.toNat atv*3)) 0) h fun x=>cond (x==6)
 (jT [.bool true,iI (wrap .i64 (steps+1))] h)
 (aSome l fun p_1=>jR atv ln (gAgg (add (B4 p_1) (Int.toNat atv*3)) 3 h fun z1=>bnd (C Be1 [.pointer (some m),.agg ⟨z1⟩] h) fun r w=>aI r fun z2=>R A02 By9 [(2,.slice l ln lc),(8,.pointer (some m)),(9,iI (wrap .i64 (steps+1))),(10,iI (wrap .i64 ((wrap .i64 (atv+z2))+1)))] w))))
 (jT [.bool false,iI steps] h):=kR
def Dg1:Cuts:=⟨2,[],[],[]⟩
def En1:List Item:=A8 Tryz.f62
theorem Hi0 :
 xQ Dg1 C R A76 Tryz.f62 En1 [(0,.pointer k)] h =
 aSome k fun p=>gInt .i64 (add p 7) h fun x=>some (iI x,h):=kR
def Bi0:Cuts:=⟨2,[(3,[1,2,3,4]),(7,[1,2,3,4,5]),(13,[1,2,3,6])],[],[]⟩
def Bu6:List Item:=A8 Tryz.f73
def Bt5:List Item:=stk [0,1,0,1,0,0,1,4,5] Bu6
def A94:List Item:=stk [0,1,0,1,0,0,1,4,5,6,0,1,0,4,0,1,0,0,1,4,5] Bu6
def Bt2:List Item:=stk [0,1,0,1,0,1,0,0,1,4,5] Bu6
theorem H25 :
 xQ Bi0 C R O6 Tryz.f73 Bu6 [(0,.agg ⟨p⟩)] h =
 nw (.cells De9 false p) h fun b w=>nw (.cells G7 false [sN,sN,sN,iI 0,sN]) w fun p1 w1=>jI b 2 w1 fun x=>nw (.cells G7 false [sN,sN,sN,iI 0,sN]) w1 fun p2 w2=>jW p2 0 [sN,sN,sN,iI x,sN] w2 fun w3=>R O6 Bt5 [(1,pP b),(2,pP p1),(3,pP p2),(4,iI 0)] w3:=kR
theorem Em3 (p:Addr) (b:Addr) (s:Int) :
 xQ Bi0 C R O6 Tryz.f73 Bt5 [(1,.pointer (some p)),(2,.pointer (some x2)),(3,.pointer (some b)),(4,iI s)] h =
 gSl (add p 0) h fun _ xn _=>cond (decide (s<(xn:Int)))
 (gSl (add b 0) h fun z1 xn_1 xc_1=>nw (.cells B9 false [iI 20]) h fun p1 w=>gCells (some ⟨p1,0,none⟩) (1*1) w fun cs=>ckB (fitsOpen z1 B9 w) (apd B9 1 z1 xn_1 xc_1 1 cs w fun a an ac w1=>pV (add b 0) (.slice a an ac) w1 fun w2=>R O6 A94 [(1,.pointer (some p)),(2,.pointer (some x2)),(3,.pointer (some b)),(4,iI s),(5,iI 0)] w2))
 (R O6 Bt2 [(1,.pointer (some p)),(2,.pointer (some x2)),(3,.pointer (some b)),(6,iI 0)] h):=kR
theorem Eo9 (p:Addr) (b:Addr) (s:Int) :
 xQ Bi0 C R O6 Tryz.f73 A94 [(1,.pointer (some p)),(2,.pointer (some x2)),(3,.pointer (some b)),(4,iI s),(5,iI i)] h =
 cond (decide (i<9))
 (gSl (add b 1) h fun x xn xc=>nw (.cells B9 false [iI s]) h fun p1 w=>gCells (some ⟨p1,0,none⟩) (1*1) w fun cs=>ckB (fitsOpen x B9 w) (apd B9 1 x xn xc 1 cs w fun a an ac w1=>pV (add b 1) (.slice a an ac) w1 fun w2=>R O6 A94 [(1,.pointer (some p)),(2,.pointer (some x2)),(3,.pointer (some b)),(4,iI s),(5,iI (wrap .i64 (i+1)))] w2))
 (gSl (add b 2) h fun z1 xn_1 xc_1=>nw (.cells B9 false [iI s]) h fun p2 w3=>nw (.cells Y4 false [.slice (some ⟨p2,0,none⟩) 1 1]) w3 fun p3 w4=>gCells (some ⟨p3,0,none⟩) (1*1) w4 fun cs_1=>ckB (fitsOpen z1 Y4 w4) (apd Y4 1 z1 xn_1 xc_1 1 cs_1 w4 fun a_1 an_1 ac_1 w5=>pV (add b 2) (.slice a_1 an_1 ac_1) w5 fun w6=>gSl (add b 4) w6 fun z2 xn_2 xc_2=>nw (.cells B9 false [iI s]) w6 fun p4 w7=>nw (.cells O3 false [iI s,iI 0,iI 0,iI 492,.slice (some ⟨p4,0,none⟩) 1 1]) w7 fun p5 w8=>gCells (some ⟨p5,0,none⟩) (1*5) w8 fun cs_2=>ckB (fitsOpen z2 O3 w8) (apd O3 5 z2 xn_2 xc_2 1 cs_2 w8 fun a_2 an_2 ac_2 w9=>pV (add b 4) (.slice a_2 an_2 ac_2) w9 fun w10=>R O6 Bt5 [(1,.pointer (some p)),(2,.pointer (some x2)),(3,.pointer (some b)),(4,iI (wrap .i64 (s+1)))] w10))):=kR
theorem El7 (p:Addr) (b:Addr) :
 xQ Bi0 C R O6 Tryz.f73 Bt2 [(1,.pointer (some p)),(2,.pointer (some x2)),(3,.pointer (some b)),(6,iI i)] h =
 gSl (add p 1) h fun _ xn _=>cond (decide (i<(xn:Int)))
 (gSl (add p 1) h fun z1 xn_1 _=>aSome z1 fun p_1=>jR i xn_1 (gAgg (add (B4 p_1) (Int.toNat i*2)) 2 h fun z2=>nw (.cells Dh8 false [iI 0,iI 0]) h fun p1 w=>jK 2 p1 0 z2 w fun w1=>gSl (add b 4) w1 fun z3 xn_2 xc_2=>jI p1 0 w1 fun z4=>jI p1 0 w1 fun z5=>jI p1 1 w1 fun z6=>nw (.cells B9 false [iI z5,iI z6]) w1 fun p2 w2=>nw (.cells O3 false [iI z4,iI (wrap .i64 (8+i)),iI 0,iI 40,.slice (some ⟨p2,0,none⟩) 2 2]) w2 fun p3 w3=>gCells (some ⟨p3,0,none⟩) (1*5) w3 fun cs=>ckB (fitsOpen z3 O3 w3) (apd O3 5 z3 xn_2 xc_2 1 cs w3 fun a an ac w4=>pV (add b 4) (.slice a an ac) w4 fun w5=>R O6 Bt2 [(1,.pointer (some p)),(2,.pointer (some x2)),(3,.pointer (some b)),(6,iI (wrap .i64 (i+1)))] w5)))
 (gAgg b 5 h fun z7=>ck (List.length z7=5) (pAgg x2 z7 h fun w6=>gAgg x2 5 w6 fun z8=>jG z8 w6)):=kR
def A15:Cuts:=⟨2,[(4,[1,3,4]),(8,[1,3,5]),(13,[1,3,5,6,7,9])],[],[(1,⟨[0,1,2,3,4,5,6],[0,0,2,6,15,31,63],[(3,[0])],[]⟩),(2,⟨[0,1,2,3,4,5,6,7,11,12,13,8,9,10,14,15,16,17,18,19],[0,0,2,6,14,0,32,96,254,510,1022,0,2048,6144,14846,32766,65534,131071,262143,524287],[(8,[12])],[]⟩),(6,⟨[0,1,2,3,4,5,6,7,8,9,10,11,12],[0,0,2,6,14,0,32,96,224,510,1023,2047,4095],[(7,[4])],[]⟩),(11,⟨[0,1,2,3,4,5,6,7,8,9,11,12,15,16,18,19,10,13,14,17,20,21,22,23,24,25],[0,1,3,7,0,16,48,112,0,256,1008,0,2048,8176,16368,0,32768,131056,0,262144,1048575,2097151,4194303,4194303,8388607,33554431],[(10,[3,12,16,19])],[]⟩),(15,⟨[0,1,2,3,4,5,6,7],[0,1,0,4,0,28,60,127],[],[]⟩),(16,⟨[0,1,2,3,4,5,6,7,8,9,10,11,12],[0,1,3,7,15,31,63,0,0,0,512,1792,4095],[],[]⟩)]⟩
def Bg2:List Item:=A8 Tryz.f75
def Bd3:List Item:=stk [0,1,0,1,0,1,0,0,1,4,5] Bg2
def Aw2:List Item:=stk [0,1,0,1,0,1,0,1,0,0,1,4,5] Bg2
def Av9:List Item:=stk [0,1,0,1,0,1,0,1,0,0,1,4,5,6,0,1,0,4,0,1,0,1,0,1,4,5] Bg2
theorem Hl8 (b:List Value) :
 xQ A15 C R J0 Tryz.f75 Bg2 [(0,.agg ⟨b⟩)] h =
 nw (.cells G7 false b) h fun p1 w=>jA p1 0 5 w fun x=>jS p1 0 w fun z1 xn xc=>bnd (C Ag2 [.slice z1 xn xc] w) fun r w1=>aPtr r fun z2=>jA p1 0 5 w1 fun z3=>same (.agg ⟨x⟩) (.agg ⟨z3⟩) (ck (List.length x=5) (nw (.cells Gy7 false (x++(.pointer z2::(.pointer none::(sN::[iI 0]))))) w1 fun p2 w2=>jP p2 5 w2 fun z4=>jS p1 0 w2 fun _ xn_1 _=>jS p1 1 w2 fun z6 xn_2 xc_2=>bnd (C U2 [.pointer z4,iI (xn_1:Int)] w2) fun q1 w3=>aI q1 fun z7=>jS p1 1 w3 fun z8 xn_3 xc_3=>same (.slice z6 xn_2 xc_2) (.slice z8 xn_3 xc_3) (ck ((0:Int)≤wrap .i64 (64*z7)∧(wrap .i64 (64*z7):Int)≤wrap .i64 (64*z7)∧wrap .i64 (64*z7)≤(B3:Int)) (nw (.cells A9 false (G9 (Int.toNat (wrap .i64 (64*z7))) [.int .u8 0])) w3 fun p3 w4=>bnd (C Ag1 [iI (xn_2:Int)] w4) fun q2 w5=>aPtr q2 fun z9=>nw (.cells Ex5 false [.slice (some ⟨p3,0,none⟩) (Int.toNat (wrap .i64 (64*z7))) (Int.toNat (wrap .i64 (64*z7))),sN,sN,.pointer z9]) w5 fun p4 w6=>jV p2 6 (pP p4) w6 fun w7=>R J0 Bd3 [(1,pP p1),(3,pP p2),(4,iI 0)] w7)))):=kR
theorem D42 (b:Addr) (k:Addr) :
 xQ A15 C R J0 Tryz.f75 Bd3 [(1,.pointer (some b)),(3,.pointer (some k)),(4,iI i)] h =
 gSl (add b 2) h fun _ xn _=>cond (decide (i<(xn:Int)))
 (gSl (add k 7) h fun z1 xn_1 xc_1=>gInt .i64 (add b 3) h fun z2=>bnd (C Bx6 [iI z2] h) fun r w=>aPtr r fun z3=>gSl (add k 7) w fun z4 xn_2 xc_2=>same (.slice z1 xn_1 xc_1) (.slice z4 xn_2 xc_2) (nw (.cells Bo5 false [.pointer z3]) w fun p1 w1=>gCells (some ⟨p1,0,none⟩) (1*1) w1 fun cs=>ckB (fitsOpen z1 Bo5 w1) (apd Bo5 1 z1 xn_1 xc_1 1 cs w1 fun a an ac w2=>pV (add k 7) (.slice a an ac) w2 fun w3=>R J0 Bd3 [(1,.pointer (some b)),(3,.pointer (some k)),(4,iI (wrap .i64 (i+1)))] w3)))
 (R J0 Aw2 [(1,.pointer (some b)),(3,.pointer (some k)),(5,iI 0)] h):=kR
theorem D44 (b:Addr) (k:Addr) :
 xQ A15 C R J0 Tryz.f75 Aw2 [(1,.pointer (some b)),(3,.pointer (some k)),(5,iI i)] h =
 gSl (add b 4) h fun _ xn _=>cond (decide (i<(xn:Int)))
 (gSl (add b 4) h fun z1 xn_1 _=>aSome z1 fun p=>jR i xn_1 (gAgg (add (B4 p) (Int.toNat i*5)) 5 h fun z2=>nw (.cells O3 false [iI 0,iI 0,iI 0,iI 0,sN]) h fun p1 w=>jK 5 p1 0 z2 w fun w1=>gPtr (add k 6) w1 fun z3=>gPtr (add k 5) w1 fun z4=>jI p1 0 w1 fun z5=>jI p1 1 w1 fun z6=>jI p1 2 w1 fun z7=>jI p1 3 w1 fun z8=>bnd (C U2 [.pointer z4,iI z5] w1) fun r w2=>aI r fun z9=>gPtr (add k 6) w2 fun z10=>same (.pointer z3) (.pointer z10) (jI p1 1 w2 fun z11=>same (iI z6) (iI z11) (jI p1 2 w2 fun z12=>same (iI z7) (iI z12) (jI p1 3 w2 fun z13=>same (iI z8) (iI z13) (bnd (C A89 [.pointer z3,iI (wrap .i64 ((wrap .i64 (64*(wrap .i64 (z9+z6))))+z7)),iI z8] w2) fun q1 w3=>as2 q1 fun q2 q3=>aI q2 fun z14=>aI q3 fun _=>R J0 Av9 [(1,.pointer (some b)),(3,.pointer (some k)),(5,iI i),(6,pP p1),(7,iI z14),(9,iI 0)] w3))))))
 (some (.pointer (some k),h)):=kR
theorem D41 (b:Addr) (k:Addr) (s:Addr) (obj:Int) :
 xQ A15 C R J0 Tryz.f75 Av9 [(1,.pointer (some b)),(3,.pointer (some k)),(5,iI i),(6,.pointer (some s)),(7,iI obj),(9,iI e)] h =
 gSl (add b 1) h fun _ xn _=>cond (decide (e<(xn:Int)))
 (gSl (add s 4) h fun z1 xn_1 xc_1=>gSl (add b 1) h fun z2 xn_2 _=>aSome z2 fun p=>jR e xn_2 (gInt .i64 (add (B4 p) (Int.toNat e*1)) h fun z3=>bnd (C Bi5 [.slice z1 xn_1 xc_1,iI z3] h) fun r w=>aBool r fun z4=>cond z4
 (gPtr (add k 6) w fun z5=>aSome z5 fun p_1=>gPtr (add p_1 3) w fun z6=>gInt .i64 (add s 3) w fun z7=>bnd (C Bk6 [.pointer z6,iI e,.agg ⟨[iI obj,iI 3,iI 0,iI z7,iI 0,iI 0]⟩] w) fun q1 w1=>as2 q1 fun q2 q3=>aI q2 fun _=>aI q3 fun _=>R J0 Av9 [(1,.pointer (some b)),(3,.pointer (some k)),(5,iI i),(6,.pointer (some s)),(7,iI obj),(9,iI (wrap .i64 (e+1)))] w1)
 (R J0 Av9 [(1,.pointer (some b)),(3,.pointer (some k)),(5,iI i),(6,.pointer (some s)),(7,iI obj),(9,iI (wrap .i64 (e+1)))] w)))
 (R J0 Aw2 [(1,.pointer (some b)),(3,.pointer (some k)),(5,iI (wrap .i64 (i+1)))] h):=kR
def Bw3:Cuts:=⟨2,[],[],[]⟩
def Dy1:List Item:=A8 Tryz.f89
theorem Go5 :
 xQ Bw3 C R Ba3 Tryz.f89 Dy1 [(0,iI g)] h =
 nw (.cells A9 false [.int .u8 (wrap .u8 (g)),.int .u8 211]) h fun b w=>gCells (some ⟨b,0,none⟩) 2 w fun cs=>asBytes cs fun l=>bnd (C Am7 [.string (ByteArray.mk ⟨l⟩)] w) fun r w1=>aInt .u8 r fun x=>nw (.cells A9 false [.int .u8 x,.int .u8 0]) w1 fun p1 w2=>gCells (some ⟨p1,0,none⟩) 2 w2 fun cs_1=>asBytes cs_1 fun l_1=>ck (ByteArray.size (ByteArray.mk ⟨l⟩)+ByteArray.size (ByteArray.mk ⟨l_1⟩)≤B3) (some (.string ((ByteArray.mk ⟨l⟩)++(ByteArray.mk ⟨l_1⟩)),w2)):=kR
def Ak2:Cuts:=⟨2,[],[(8,[6,8,11,12])],[(7,⟨[0,1,2,3,4,5,6,7,8,9],[0,1,3,7,0,31,63,31,159,511],[(7,[5])],[]⟩)]⟩
def Az2:List Item:=A8 Tryz.f92
def Aq2:List Item:=stk [0,1,0,1,0,1,0,1,0,1,0,1,0,0] Az2
theorem D84 (r:List Value) :
 xQ Ak2 C R P7 Tryz.f92 Az2 [(0,.pointer c),(1,.agg ⟨r⟩),(2,decode)] h =
 nw (.cells E9 false r) h fun b w=>nw (.cells D9 false [iI 0,iI 0,iI 0,iI 0]) w fun p1 w1=>nw (.cells D9 false [iI 0,iI 0,iI 0,iI 0]) w1 fun p2 w2=>jA b 0 2 w2 fun x=>bnd (C U6 [.pointer c,.agg ⟨x⟩] w2) fun q1 w3=>as2 q1 fun q2 q3=>aSl q2 fun z1 xn xc=>aBool q3 fun z2=>cond (!z2)
 (jA p2 0 4 w3 fun z3=>jK 4 p1 0 z3 w3 fun w4=>jA p1 0 4 w4 fun z4=>jT [.agg ⟨z4⟩,iI 2] w4)
 (aFn decode fun g fi cp=>bnd (C g (fi++([.slice z1 xn xc]++cp)) w3) fun q4 w5=>as2 q4 fun q5 q6=>aAgg q5 fun z5=>aI q6 fun z6=>nw (.cells D9 false [iI 0,iI 0,iI 0,iI 0]) w5 fun p3 w6=>jK 4 p3 0 z5 w6 fun w7=>cond (z6==2)
 (aSome c fun p=>gMap (add p 3) w7 fun z7=>jA b 0 2 w7 fun z8=>keyN PR E9 (.agg ⟨z8⟩) (opt z7 fun q7=>mapAt w7 q7 fun es _=>opt (At5 (iI 0) (.agg ⟨z8⟩) es) fun f=>aI f.1 fun z9=>keyN PR E9 (.agg ⟨z8⟩) (opt z7 fun q8=>mapAt w7 q8 fun es_1 cl_1=>opt (Ep6 (iI 0) (.agg ⟨z8⟩) es_1 cl_1) fun f_1=>aI f_1.1 fun _=>lt (H.set w7 q8 f_1.2.2) fun w8=>keyN PR E9 (.agg ⟨z8⟩) (opt z7 fun q9=>mapAt w8 q9 fun es_2 _=>opt (At5 (iI 0) (.agg ⟨z8⟩) es_2) fun f_2=>aI f_2.1 fun z11=>same (iI z9) (iI z11) (opt z7 fun q10=>mapAt w8 q10 fun es_3 cl_3=>opt (By4 (f_1.2.1:Int) es_3 0) fun i=>lt (H.set w8 q10 (.map (modN (fun e=>{ e with val:=iI (wrap .i64 (z9+1)) }) i es_3) cl_3)) fun w9=>R P7 Aq2 [(6,pP p1),(8,pP p2),(11,pP p3),(12,iI z6)] w9)))))
 (R P7 Aq2 [(6,pP p1),(8,pP p2),(11,pP p3),(12,iI z6)] w7)):=kR
theorem Bg5 :
 xQ Ak2 C R P7 Tryz.f92 Aq2 [(6,.pointer (some x6)),(8,.pointer (some nonev)),(11,.pointer (some v)),(12,iI isv)] h =
 cond (isv != 1)
 (gAgg nonev 4 h fun x=>ck (List.length x=4) (pAgg x6 x h fun w=>gAgg x6 4 w fun z1=>jT [.agg ⟨z1⟩,iI isv] w))
 (gAgg v 4 h fun z2=>ck (List.length z2=4) (pAgg x6 z2 h fun w1=>gAgg x6 4 w1 fun z3=>jT [.agg ⟨z3⟩,iI isv] w1)):=kR
def Ak3:Cuts:=⟨2,[],[(8,[6,8,11,12])],[(7,⟨[0,1,2,3,4,5,6,7,8,9],[0,1,3,7,0,31,63,31,159,511],[(7,[5])],[]⟩)]⟩
def Aw7:List Item:=A8 Tryz.f95
def Ap3:List Item:=stk [0,1,0,1,0,1,0,1,0,1,0,1,0,0] Aw7
theorem D83 (r:List Value) :
 xQ Ak3 C R N5 Tryz.f95 Aw7 [(0,.pointer c),(1,.agg ⟨r⟩),(2,decode)] h =
 nw (.cells E9 false r) h fun b w=>nw (.cells E6 false zZ2) w fun p1 w1=>nw (.cells E6 false zZ2) w1 fun p2 w2=>jA b 0 2 w2 fun x=>bnd (C U6 [.pointer c,.agg ⟨x⟩] w2) fun q1 w3=>as2 q1 fun q2 q3=>aSl q2 fun z1 xn xc=>aBool q3 fun z2=>cond (!z2)
 (jA p2 0 36 w3 fun z3=>jK 36 p1 0 z3 w3 fun w4=>jA p1 0 36 w4 fun z4=>jT [.agg ⟨z4⟩,iI 2] w4)
 (aFn decode fun g fi cp=>bnd (C g (fi++([.slice z1 xn xc]++cp)) w3) fun q4 w5=>as2 q4 fun q5 q6=>aAgg q5 fun z5=>aI q6 fun z6=>nw (.cells E6 false zZ2) w5 fun p3 w6=>jK 36 p3 0 z5 w6 fun w7=>cond (z6==2)
 (aSome c fun p=>gMap (add p 3) w7 fun z7=>jA b 0 2 w7 fun z8=>keyN PR E9 (.agg ⟨z8⟩) (opt z7 fun q7=>mapAt w7 q7 fun es _=>opt (At5 (iI 0) (.agg ⟨z8⟩) es) fun f=>aI f.1 fun z9=>keyN PR E9 (.agg ⟨z8⟩) (opt z7 fun q8=>mapAt w7 q8 fun es_1 cl_1=>opt (Ep6 (iI 0) (.agg ⟨z8⟩) es_1 cl_1) fun f_1=>aI f_1.1 fun _=>lt (H.set w7 q8 f_1.2.2) fun w8=>keyN PR E9 (.agg ⟨z8⟩) (opt z7 fun q9=>mapAt w8 q9 fun es_2 _=>opt (At5 (iI 0) (.agg ⟨z8⟩) es_2) fun f_2=>aI f_2.1 fun z11=>same (iI z9) (iI z11) (opt z7 fun q10=>mapAt w8 q10 fun es_3 cl_3=>opt (By4 (f_1.2.1:Int) es_3 0) fun i=>lt (H.set w8 q10 (.map (modN (fun e=>{ e with val:=iI (wrap .i64 (z9+1)) }) i es_3) cl_3)) fun w9=>R N5 Ap3 [(6,pP p1),(8,pP p2),(11,pP p3),(12,iI z6)] w9)))))
 (R N5 Ap3 [(6,pP p1),(8,pP p2),(11,pP p3),(12,iI z6)] w7)):=kR
theorem Bf7 :
 xQ Ak3 C R N5 Tryz.f95 Ap3 [(6,.pointer (some x6)),(8,.pointer (some nonev)),(11,.pointer (some v)),(12,iI isv)] h =
 cond (isv != 1)
 (gAgg nonev 36 h fun x=>ck (List.length x=36) (pAgg x6 x h fun w=>gAgg x6 36 w fun z1=>jT [.agg ⟨z1⟩,iI isv] w))
 (gAgg v 36 h fun z2=>ck (List.length z2=36) (pAgg x6 z2 h fun w1=>gAgg x6 36 w1 fun z3=>jT [.agg ⟨z3⟩,iI isv] w1)):=kR
def Dp9:Cuts:=⟨2,[],[],[]⟩
def Ew2:List Item:=A8 Tryz.f96
theorem Hj0 :
 xQ Dp9 C R A14 Tryz.f96 Ew2 [(0,iI i)] h =
 nw (.cells E9 false [iI 0,iI 0]) h fun b w=>jW b 0 [iI 3,iI i] w fun w1=>jA b 0 2 w1 fun x=>jG x w1:=kR
def Ax6:Cuts:=⟨2,[],[(8,[8,11,12])],[(7,⟨[0,1,2,3,4,5,6,7,8,9],[0,1,3,7,0,31,63,31,159,511],[(7,[5])],[]⟩)]⟩
def Bl4:List Item:=A8 Tryz.f98
def A60:List Item:=stk [0,1,0,1,0,1,0,1,0,1,0,1,0,0] Bl4
theorem E43 (r:List Value) :
 xQ Ax6 C R Y8 Tryz.f98 Bl4 [(0,.pointer c),(1,.agg ⟨r⟩),(2,decode)] h =
 nw (.cells E9 false r) h fun b w=>jA b 0 2 w fun x=>bnd (C U6 [.pointer c,.agg ⟨x⟩] w) fun q1 w1=>as2 q1 fun q2 q3=>aSl q2 fun z1 xn xc=>aBool q3 fun z2=>cond (!z2)
 (jT [iI 0,iI 2] w1)
 (aFn decode fun g fi cp=>bnd (C g (fi++([.slice z1 xn xc]++cp)) w1) fun q4 w2=>as2 q4 fun q5 q6=>aI q5 fun z3=>aI q6 fun z4=>cond (z4==2)
 (aSome c fun p=>gMap (add p 3) w2 fun z5=>jA b 0 2 w2 fun z6=>keyN PR E9 (.agg ⟨z6⟩) (opt z5 fun q7=>mapAt w2 q7 fun es _=>opt (At5 (iI 0) (.agg ⟨z6⟩) es) fun f=>aI f.1 fun z7=>keyN PR E9 (.agg ⟨z6⟩) (opt z5 fun q8=>mapAt w2 q8 fun es_1 cl_1=>opt (Ep6 (iI 0) (.agg ⟨z6⟩) es_1 cl_1) fun f_1=>aI f_1.1 fun _=>lt (H.set w2 q8 f_1.2.2) fun w3=>keyN PR E9 (.agg ⟨z6⟩) (opt z5 fun q9=>mapAt w3 q9 fun es_2 _=>opt (At5 (iI 0) (.agg ⟨z6⟩) es_2) fun f_2=>aI f_2.1 fun z9=>same (iI z7) (iI z9) (opt z5 fun q10=>mapAt w3 q10 fun es_3 cl_3=>opt (By4 (f_1.2.1:Int) es_3 0) fun i=>lt (H.set w3 q10 (.map (modN (fun e=>{ e with val:=iI (wrap .i64 (z7+1)) }) i es_3) cl_3)) fun w4=>R Y8 A60 [(8,iI 0),(11,iI z3),(12,iI z4)] w4)))))
 (R Y8 A60 [(8,iI 0),(11,iI z3),(12,iI z4)] w2)):=kR
theorem B08 (nonev:Int) (v:Int) :
 xQ Ax6 C R Y8 Tryz.f98 A60 [(8,iI nonev),(11,iI v),(12,iI isv)] h =
 cond (isv != 1)
 (jT [iI nonev,iI isv] h)
 (jT [iI v,iI isv] h):=kR
def B15:Cuts:=⟨2,[],[],[]⟩
def D32:List Item:=A8 Tryz.f99
theorem Gw8 :
 xQ B15 C R An1 Tryz.f99 D32 [(0,.slice b bn bc)] h =
 cond ((bn:Int) != 4)
 (jT [iI 0,iI 2] h)
 (aSome b fun p=>jR 0 bn (gInt .u8 (add (B4 p) (Int.toNat 0*1)) h fun x=>bnd (C Az4 [iI (wrap .i64 (x))] h) fun r w=>as2 r fun q1 q2=>aSl q1 fun z1 xn _=>aBool q2 fun z2=>jO (!z2) w (gCells z1 xn w fun cs=>asBytes cs fun l=>gCells b bn w fun cs_1=>asBytes cs_1 fun l_1=>some (!((ByteArray.mk ⟨l⟩).toList==(ByteArray.mk ⟨l_1⟩).toList),w)) fun c w1=>cond c
 (jT [iI 0,iI 2] w1)
 (aSome b fun p_1=>jR 0 bn (gInt .u8 (add (B4 p_1) (Int.toNat 0*1)) w1 fun z3=>jT [iI (wrap .i64 (z3)),iI 1] w1)))):=kR
def Ev7:Cuts:=⟨2,[],[],[]⟩
def G07:List Item:=A8 Tryz.f104
theorem Ij7 :
 xQ Ev7 C R Du1 Tryz.f104 G07 [(0,.pointer c),(1,iI i)] h =
 nw (.cells P3 false [iI 0,iI 0,sN,.bool false]) h fun b w=>bnd (C Al3 [.pointer c,iI i] w) fun r w1=>as2 r fun q1 q2=>aAgg q1 fun x=>aI q2 fun z1=>nw (.cells B2 false zZ1) w1 fun p1 w2=>jK 16 p1 0 x w2 fun w3=>cond (z1 != 0)
 (bnd (C U4 [iI z1] w3) fun q3 w4=>aAgg q3 fun z2=>jK 4 b 0 z2 w4 fun w5=>jA b 0 4 w5 fun z3=>jG z3 w5)
 (bnd (C Az6 [.pointer c] w3) fun q4 w6=>aI q4 fun z4=>cond (decide (z4<0))
 (bnd (C U4 [iI 111] w6) fun q5 w7=>aAgg q5 fun z5=>jK 4 b 0 z5 w7 fun w8=>jA b 0 4 w8 fun z6=>jG z6 w8)
 (jA p1 0 16 w6 fun z7=>bnd (C J5 [.pointer c,.agg ⟨z7⟩] w6) fun q6 w9=>aI q6 fun z8=>cond (z8 != 0)
 (bnd (C U4 [iI z8] w9) fun q7 w10=>aAgg q7 fun z9=>jK 4 b 0 z9 w10 fun w11=>jA b 0 4 w11 fun z10=>jG z10 w11)
 (jV p1 1 (iI (wrap .i64 (i+1))) w9 fun w12=>jV p1 4 (iI 0) w12 fun w13=>jA p1 0 16 w13 fun z11=>bnd (C G8 [.pointer c,iI z4,.agg ⟨z11⟩] w13) fun q8 w14=>aBool q8 fun z12=>bnd (C Ag6 [.bool z12,iI z4] w14) fun q9 w15=>aAgg q9 fun z13=>jK 4 b 0 z13 w15 fun w16=>jA b 0 4 w16 fun z14=>jG z14 w16))):=kR
def Dv1:Cuts:=⟨2,[(10,[0,3,8,53,54,55])],[],[]⟩
def Es9:List Item:=A8 Tryz.f106
def Bz6:List Item:=stk [0,1,0,1,0,1,0,1,0,1,0,0,1,4,5] Es9
theorem Io8 :
 xQ Dv1 C R A04 Tryz.f106 Es9 [(0,.pointer c),(1,iI i),(2,iI target),(3,iI n)] h =
 nw (.cells P3 false [iI 0,iI 0,sN,.bool false]) h fun b w=>bnd (C Al3 [.pointer c,iI i] w) fun r w1=>as2 r fun q1 q2=>aAgg q1 fun x=>aI q2 fun z1=>nw (.cells B2 false zZ1) w1 fun p1 w2=>jK 16 p1 0 x w2 fun w3=>cond (z1 != 0)
 (bnd (C U4 [iI z1] w3) fun q3 w4=>aAgg q3 fun z2=>jK 4 b 0 z2 w4 fun w5=>jA b 0 4 w5 fun z3=>jG z3 w5)
 (jO (decide (target<0)) w3 (some (decide (target>15),w3)) fun c_1 w6=>jO c_1 w6 (some (decide (n<0),w6)) fun c_2 w7=>jO c_2 w7 (some (decide (n>15),w7)) fun c_3 w8=>cond c_3
 (bnd (C U4 [iI 122] w8) fun q4 w9=>aAgg q4 fun z4=>jK 4 b 0 z4 w9 fun w10=>jA b 0 4 w10 fun z5=>jG z5 w10)
 (bnd (C Bz5 [.pointer c,iI target] w8) fun q5 w11=>as2 q5 fun q6 q7=>aSl q6 fun z6 xn xc=>aI q7 fun z7=>cond (z7 != 0)
 (bnd (C U4 [iI z7] w11) fun q8 w12=>aAgg q8 fun z8=>jK 4 b 0 z8 w12 fun w13=>jA b 0 4 w13 fun z9=>jG z9 w13)
 (R A04 Bz6 [(0,.pointer c),(3,iI n),(8,pP b),(53,.slice z6 xn xc),(54,iI (xn:Int)),(55,iI 0)] w11))):=kR
theorem Ew0 (x8:Addr) (x53:Option Addr) (x53n x53c:Nat) (x55:Int) :
 xQ Dv1 C R A04 Tryz.f106 Bz6 [(0,.pointer c),(3,iI n),(8,.pointer (some x8)),(53,.slice x53 x53n x53c),(54,iI x54),(55,iI x55)] h =
 cond (decide (x55<x54))
 (aSome x53 fun p=>jR x55 x53n (gAgg (add (B4 p) (Int.toNat x55*17)) 17 h fun x=>nw (.cells J7 false zZ4) h fun b w=>jK 17 b 0 x w fun w1=>jA b 1 16 w1 fun z1=>bnd (C Aa1 [.agg ⟨z1⟩,iI n] w1) fun r w2=>as2 r fun q1 q2=>aAgg q1 fun z2=>aBool q2 fun z3=>nw (.cells B2 false zZ1) w2 fun p1 w3=>jK 16 p1 0 z2 w3 fun w4=>jN z3 (jI b 0 w4 fun z4=>jA p1 0 16 w4 fun z5=>bnd (C G8 [.pointer c,iI z4,.agg ⟨z5⟩] w4) fun q3 w5=>aBool q3 fun z6=>some (!z6,w5)) w4 fun c_1 w6=>cond c_1
 (bnd (C U4 [iI 105] w6) fun q4 w7=>aAgg q4 fun z7=>ck (List.length z7=4) (pAgg x8 z7 w7 fun w8=>gAgg x8 4 w8 fun z8=>jG z8 w8))
 (R A04 Bz6 [(0,.pointer c),(3,iI n),(8,.pointer (some x8)),(53,.slice x53 x53n x53c),(54,iI x54),(55,iI (wrap .i64 (x55+1)))] w6)))
 (pAgg x8 [iI 0,iI 0,sN,.bool false] h fun w9=>gAgg x8 4 w9 fun z9=>jG z9 w9):=kR
def D75:Cuts:=⟨2,[],[(7,[1,2])],[]⟩
def E47:List Item:=A8 Tryz.f110
def D20:List Item:=stk [0,1,0,1,0,1,0] E47
theorem Ga5 :
 xQ D75 C R Aq5 Tryz.f110 E47 [(0,.agg ⟨p⟩)] h =
 nw (.cells B2 false p) h fun b w=>jI b 4 w fun x=>jI b 5 w fun z1=>jI b 0 w fun z2=>jO (z2 != 1) w (some ((D5 .i64 (J8 .i64 x z1) 65534)==0,w)) fun c w1=>cond c
 (jT [iI 0,iI 0] w1)
 (cond ((D5 .i64 (D5 .i64 (J8 .i64 x z1) 65534) 512) != 0)
 (R Aq5 D20 [(1,pP b),(2,iI 9)] w1)
 (bnd (C Ab1 [.int .u64 (wrap .u64 (D5 .i64 (J8 .i64 x z1) 65534))] w1) fun r w2=>aI r fun z3=>R Aq5 D20 [(1,pP b),(2,iI z3)] w2)):=kR
theorem Hw2 (p:Addr) :
 xQ D75 C R Aq5 Tryz.f110 D20 [(1,.pointer (some p)),(2,iI n)] h =
 gInt .i64 (add p 7) h fun x=>ck ((0:Int)≤(wrap .u64 (n))) (cond ((D5 .i64 (Int.fdiv x (2 ^ (min (Int.toNat (wrap .u64 (n))) 64))) 1)==1)
 (jT [iI n,iI 2] h)
 (cond (n==15)
 (jT [iI n,iI 1] h)
 (cond (n==14)
 (jT [iI n,iI 3] h)
 (jT [iI n,iI 4] h)))):=kR
def G83:Cuts:=⟨2,[],[],[(3,⟨[0,1,2,3,4],[0,0,0,5,15],[],[]⟩),(5,⟨[0,1,2,3],[0,0,3,7],[],[]⟩),(9,⟨[0,1,2,3,4,5,6,7,8],[0,0,3,7,15,0,31,127,255],[],[]⟩)]⟩
def H46:List Item:=A8 Tryz.f113
theorem Jr8 :
 xQ G83 C R Eb9 Tryz.f113 H46 [(0,.pointer c),(1,iI i),(2,iI fd)] h =
 nw (.cells D9 false [iI 0,iI 0,iI 0,iI 0]) h fun b w=>bnd (C Al3 [.pointer c,iI i] w) fun r w1=>as2 r fun q1 q2=>aAgg q1 fun x=>aI q2 fun z1=>nw (.cells B2 false zZ1) w1 fun p1 w2=>jK 16 p1 0 x w2 fun w3=>cond (z1 != 0)
 (jA b 0 4 w3 fun z2=>jK 4 b 0 z2 w3 fun w4=>jA b 0 4 w4 fun z3=>jT [iI 0,.agg ⟨z3⟩,iI z1] w4)
 (jA p1 0 16 w3 fun z4=>bnd (C Dv0 [.agg ⟨z4⟩,iI fd] w3) fun q3 w5=>aBool q3 fun z5=>cond (!z5)
 (jA b 0 4 w5 fun z6=>jK 4 b 0 z6 w5 fun w6=>jA b 0 4 w6 fun z7=>jT [iI 0,.agg ⟨z7⟩,iI 109] w6)
 (ck ((0:Int)≤fd∧fd<((8:Nat):Int)) (gInt .i64 (add ⟨p1,8,none⟩ (Int.toNat fd*1)) w5 fun z8=>bnd (C O2 [.pointer c,iI (wrap .i64 (z8-1))] w5) fun q4 w7=>as2 q4 fun q5 q6=>aAgg q5 fun z9=>aI q6 fun z10=>jK 4 b 0 z9 w7 fun w8=>cond (z10 != 1)
 (jW b 0 [iI 0,iI 0,iI 0,iI 0] w8 fun w9=>jA b 0 4 w9 fun z11=>jT [iI 0,.agg ⟨z11⟩,iI 105] w9)
 (ck ((0:Int)≤fd∧fd<((8:Nat):Int)) (gInt .i64 (add ⟨p1,8,none⟩ (Int.toNat fd*1)) w8 fun z12=>jA b 0 4 w8 fun z13=>jK 4 b 0 z13 w8 fun w10=>jA b 0 4 w10 fun z14=>jT [iI (wrap .i64 (z12-1)),.agg ⟨z14⟩,iI 0] w10))))):=kR
def Dr9:Cuts:=⟨2,[],[],[(1,⟨[1,0,2,3,4,5,6],[0,0,3,7,7,31,63],[(0,[1])],[]⟩)]⟩
def Ex4:List Item:=A8 Tryz.f116
theorem Hn3 :
 xQ Dr9 C R Bg1 Tryz.f116 Ex4 [(0,.agg ⟨p⟩)] h =
 nw (.cells B2 false p) h fun b w=>jA b 0 16 w fun x=>bnd (C Bm6 [] w) fun r w1=>aPtr r fun z1=>jA b 0 16 w1 fun z2=>same (.agg ⟨x⟩) (.agg ⟨z2⟩) (bnd (C Ac4 [.pointer z1,.agg ⟨x⟩] w1) fun q1 w2=>as2 q1 fun q2 q3=>aSl q2 fun z3 xn xc=>aBool q3 fun z4=>jT [.slice z3 xn xc,.bool z4] w2):=kR
def B76:Cuts:=⟨2,[(2,[0,8,9,10])],[],[]⟩
def D08:List Item:=A8 Tryz.f121
def A27:List Item:=stk [0,1,0,1,4,5] D08
theorem Hz5 :
 xQ B76 C R Ai7 Tryz.f121 D08 [(0,.pointer c),(1,iI i)] h =
 nw (.cells B9 false [iI i]) h fun b w=>bnd (C Ad7 [.pointer c,.func (.func A87) ⟨[]⟩ ⟨[pP b]⟩] w) fun r w1=>aSl r fun x xn xc=>R Ai7 A27 [(0,.pointer c),(8,.slice x xn xc),(9,iI (xn:Int)),(10,iI 0)] w1:=kR
theorem Eb1 (x8:Option Addr) (x8n x8c:Nat) (x9:Int) (x10:Int) :
 xQ B76 C R Ai7 Tryz.f121 A27 [(0,.pointer c),(8,.slice x8 x8n x8c),(9,iI x9),(10,iI x10)] h =
 cond (decide (x10<x9))
 (aSome x8 fun p=>jR x10 x8n (gAgg (add (B4 p) (Int.toNat x10*17)) 17 h fun x=>nw (.cells J7 false zZ4) h fun b w=>jK 17 b 0 x w fun w1=>jA b 0 17 w1 fun z1=>bnd (C An0 [.agg ⟨z1⟩] w1) fun r w2=>aBool r fun z2=>cond (!z2)
 (jI b 0 w2 fun z3=>bnd (C O9 [.pointer c,iI z3] w2) fun q1 w3=>aBool q1 fun _=>R Ai7 A27 [(0,.pointer c),(8,.slice x8 x8n x8c),(9,iI x9),(10,iI (wrap .i64 (x10+1)))] w3)
 (jV b 2 (iI 0) w2 fun w4=>jI b 0 w4 fun z5=>jA b 1 16 w4 fun z6=>bnd (C G8 [.pointer c,iI z5,.agg ⟨z6⟩] w4) fun q2 w5=>aBool q2 fun _=>R Ai7 A27 [(0,.pointer c),(8,.slice x8 x8n x8c),(9,iI x9),(10,iI (wrap .i64 (x10+1)))] w5)))
 (jT [] h):=kR
def Eq5:Cuts:=⟨2,[],[],[]⟩
def Gy2:List Item:=A8 Tryz.f122
theorem Ik3 (ok:Bool) :
 xQ Eq5 C R Ag6 Tryz.f122 Gy2 [(0,.bool ok),(1,iI n)] h =
 nw (.cells P3 false [iI 0,iI 0,sN,.bool false]) h fun b w=>cond (!ok)
 (bnd (C U4 [iI 105] w) fun r w1=>aAgg r fun x=>jK 4 b 0 x w1 fun w2=>jA b 0 4 w2 fun z1=>jG z1 w2)
 (jW b 0 [iI n,iI 0,sN,.bool false] w fun w3=>jA b 0 4 w3 fun z2=>jG z2 w3):=kR
def Av4:Cuts:=⟨2,[],[],[]⟩
def Bo7:List Item:=A8 Tryz.f123
theorem D18 :
 xQ Av4 C R O9 Tryz.f123 Bo7 [(0,.pointer c),(1,iI i)] h =
 bnd (C A11 [iI i] h) fun r w=>aAgg r fun x=>bnd (C Y6 [.pointer c,.agg ⟨x⟩] w) fun q1 w1=>aBool q1 fun z1=>some (.bool z1,w1):=kR
def B35:Cuts:=⟨2,[(3,[0,2,4,31,32,33]),(8,[0,2,4,49])],[],[(1,⟨[0,1,2,3,4,5,6,7,8,9,10,11,12,13,14,15,16,17,18],[0,1,3,7,0,16,48,112,0,256,768,1792,0,4096,12288,28672,65535,0,262143],[],[]⟩),(13,⟨[0,1,2,3,4,5,6,7,8],[0,0,2,6,6,30,62,63,255],[(5,[0])],[]⟩)]⟩
def Dv3:List Item:=A8 Tryz.f131
def Dp3:List Item:=stk [0,1,0,1,0,0,1,4,5] Dv3
def Dr5:List Item:=stk [0,1,0,1,0,1,0,0,1,4,5] Dv3
theorem Iq4 :
 xQ B35 C R Ae2 Tryz.f131 Dv3 [(0,.slice b bn bc)] h =
 nw (.cells B2 false zZ1) h fun p1 w=>aSome b fun p=>jR 0 bn (gInt .u8 (add (B4 p) (Int.toNat 0*1)) w fun x=>aSome b fun p_1=>jR 1 bn (gInt .u8 (add (B4 p_1) (Int.toNat 1*1)) w fun z1=>aSome b fun p_2=>jR 2 bn (gInt .u8 (add (B4 p_2) (Int.toNat 2*1)) w fun z2=>aSome b fun p_3=>jR 3 bn (gInt .u8 (add (B4 p_3) (Int.toNat 3*1)) w fun z3=>nw (.cells B2 false zZ1) w fun p2 w1=>jW p2 0 [iI (wrap .i64 (x)),iI (wrap .i64 (z1)),iI (wrap .i64 (z2)),iI (wrap .i64 (z3)),iI 0,iI 0,iI 0,iI 0,iI 0,iI 0,iI 0,iI 0,iI 0,iI 0,iI 0,iI 0] w1 fun w2=>nw (.cells Jx6 false [.pointer (some ⟨p2,4,none⟩),.pointer (some ⟨p2,5,none⟩),.pointer (some ⟨p2,6,none⟩),.pointer (some ⟨p2,7,none⟩)]) w2 fun p3 w3=>R Ae2 Dp3 [(0,.slice b bn bc),(2,pP p1),(4,pP p2),(31,.slice (some ⟨p3,0,none⟩) 4 4),(32,iI 4),(33,iI 0)] w3)))):=kR
theorem Bh3 (p:Addr) (x31:Option Addr) (x31n x31c:Nat) (x32:Int) (x33:Int) :
 xQ B35 C R Ae2 Tryz.f131 Dp3 [(0,.slice b bn bc),(2,.pointer (some x2)),(4,.pointer (some p)),(31,.slice x31 x31n x31c),(32,iI x32),(33,iI x33)] h =
 cond (decide (x33<x32))
 (aSome x31 fun p_1=>jR x33 x31n (gPtr (add (B4 p_1) (Int.toNat x33*1)) h fun x=>bnd (C Dh9 [.slice b bn bc,iI (wrap .i64 (4+(wrap .i64 (2*x33))))] h) fun r w=>as2 r fun q1 q2=>aI q1 fun z1=>aBool q2 fun _=>aSome x fun p_2=>pV p_2 (iI z1) w fun w1=>R Ae2 Dp3 [(0,.slice b bn bc),(2,.pointer (some x2)),(4,.pointer (some p)),(31,.slice x31 x31n x31c),(32,iI x32),(33,iI (wrap .i64 (x33+1)))] w1))
 (R Ae2 Dr5 [(0,.slice b bn bc),(2,.pointer (some x2)),(4,.pointer (some p)),(49,iI 0)] h):=kR
theorem Ae8 (p:Addr) (x49:Int) :
 xQ B35 C R Ae2 Tryz.f131 Dr5 [(0,.slice b bn bc),(2,.pointer (some x2)),(4,.pointer (some p)),(49,iI x49)] h =
 cond (decide (x49<8))
 (aSome b fun p_1=>ck ((0:Int)≤wrap .i64 (12+x49)∧wrap .i64 (12+x49)<(bn:Int)) (gInt .u8 (add (B4 p_1) (Int.toNat (wrap .i64 (12+x49))*1)) h fun x=>ck ((0:Int)≤x49∧x49<((8:Nat):Int)) (pV (add (add p 8) (Int.toNat x49*1)) (iI (wrap .i64 (x))) h fun w=>R Ae2 Dr5 [(0,.slice b bn bc),(2,.pointer (some x2)),(4,.pointer (some p)),(49,iI (wrap .i64 (x49+1)))] w)))
 (gAgg p 16 h fun z1=>bnd (C Bg1 [.agg ⟨z1⟩] h) fun r w1=>as2 r fun q1 q2=>aSl q1 fun z2 xn xc=>aBool q2 fun z3=>gAgg p 16 w1 fun z4=>jN z3 (bnd (C D6 [.slice z2 xn xc,.slice b bn bc] w1) fun q3 w2=>aBool q3 fun z5=>gAgg p 16 w2 fun z6=>same (.agg ⟨z4⟩) (.agg ⟨z6⟩) (some (z5,w2))) w1 fun c w3=>ck (List.length z4=16) (pAgg x2 z4 w3 fun w4=>gAgg x2 16 w4 fun z7=>jT [.agg ⟨z7⟩,.bool c] w4)):=kR
def E17:Cuts:=⟨2,[],[],[]⟩
def Hb2:List Item:=A8 Tryz.f138
theorem I32 :
 xQ E17 C R D69 Tryz.f138 Hb2 [(0,iI lease)] h =
 nw (.cells Gy3 false [iI (mm2 false (mm2 true lease 1) 1000),.bool false,iI 0,iI 0,iI 0,sN,iI 0,iI 0,iI 0]) h fun b w=>some (pP b,w):=kR
def Da4:Cuts:=⟨2,[],[],[]⟩
def Eb8:List Item:=A8 Tryz.f142
theorem G20 (c:List Value) :
 xQ Da4 C R Bl2 Tryz.f142 Eb8 [(0,.pointer s),(1,iI env),(2,.agg ⟨c⟩)] h =
 nw (.cells W3 false c) h fun b w=>bnd (C Al4 [.pointer s,iI env] w) fun r w1=>aBool r fun x=>jO (!x) w1 (jI b 1 w1 fun z1=>some ((J8 .i64 z1 7) != 0,w1)) fun c_1 w2=>jO c_1 w2 (jI b 2 w2 fun z2=>bnd (C Ar7 [iI z2] w2) fun q1 w3=>aBool q1 fun z3=>some (!z3,w3)) fun c_2 w4=>jO c_2 w4 (jI b 3 w4 fun z4=>bnd (C Ar7 [iI z4] w4) fun q2 w5=>aBool q2 fun z5=>some (!z5,w5)) fun c_3 w6=>cond c_3
 (jT [iI 0,iI 1] w6)
 (jW b 4 [iI 0,iI 0] w6 fun w7=>jA b 0 6 w7 fun z6=>bnd (C A19 [.pointer s,iI env,.agg ⟨z6⟩] w7) fun q3 w8=>as2 q3 fun q4 q5=>aI q4 fun z7=>aI q5 fun z8=>jT [iI z7,iI z8] w8):=kR
def Dq8:Cuts:=⟨2,[],[],[]⟩
def Ez3:List Item:=A8 Tryz.f146
theorem Hj4 :
 xQ Dq8 C R Bx6 Tryz.f146 Ez3 [(0,iI lease)] h =
 nw (.cells G01 false [iI (mm2 false (mm2 true lease 1) 1000),iI 0,iI 0,iI 0,iI 0,iI 0,.bool false,iI 0,sN]) h fun b w=>some (pP b,w):=kR
def Bc1:Cuts:=⟨2,[],[],[]⟩
def B47:List Item:=A8 Tryz.f151
theorem Et4 :
 xQ Bc1 C R Ah6 Tryz.f151 B47 [(0,.pointer r),(1,iI env),(2,iI name),(3,iI atv),(4,.slice b bn bc)] h =
 bnd (C Ah1 [.pointer r,iI env,iI name,iI 2,iI atv,iI (bn:Int)] h) fun q1 w=>as2 q1 fun q2 q3=>aI q2 fun x=>aI q3 fun z1=>cond (z1 != 0)
 (some (iI z1,w))
 (aSome r fun p=>gPtr (add p 0) w fun z2=>bnd (C Br3 [.pointer z2,iI x,.slice b bn bc] w) fun q4 w1=>aI q4 fun z3=>some (iI z3,w1)):=kR
def B19:Cuts:=⟨2,[],[],[]⟩
def D45:List Item:=A8 Tryz.f158
theorem Gv1 (c:List Value) :
 xQ B19 C R Bd6 Tryz.f158 D45 [(0,.pointer k),(1,iI env),(2,.agg ⟨c⟩)] h =
 nw (.cells A97 false c) h fun b w=>jI b 3 w fun x=>bnd (C A37 [.pointer k,iI env,iI x] w) fun r w1=>as2 r fun q1 q2=>aPtr q1 fun z1=>aI q2 fun z2=>jN (z2==0) (jI b 2 w1 fun z3=>bnd (C Bd1 [.pointer z1,iI env,iI z3] w1) fun q3 w2=>aBool q3 fun z4=>some (!z4,w2)) w1 fun c_1 w3=>cond c_1
 (some (iI 8,w3))
 (some (iI z2,w3)):=kR
def B92:Cuts:=⟨2,[],[],[(4,⟨[0,1,2,3,4,5,6,7,8,9,10,11],[0,1,3,7,0,31,63,0,128,0,1023,2047],[],[]⟩)]⟩
def Ef1:List Item:=A8 Tryz.f163
theorem G63 (c:List Value) :
 xQ B92 C R Bk1 Tryz.f163 Ef1 [(0,.pointer s),(1,iI e),(2,.agg ⟨c⟩)] h =
 nw (.cells W3 false c) h fun b w=>aSome s fun p=>gSl (add p 0) w fun x xn _=>aSome x fun p_1=>jR e xn (gPtr (add (B4 p_1) (Int.toNat e*1)) w fun z1=>bnd (C Ad0 [.pointer z1] w) fun r w1=>as2 r fun q1 q2=>aI q1 fun z2=>aBool q2 fun z3=>cond (!z3)
 (jT [iI 0,iI 4] w1)
 (aSome s fun p_2=>gSl (add p_2 1) w1 fun z4 xn_1 _=>aSome z4 fun p_3=>jR e xn_1 (gSl (add (B4 p_3) (Int.toNat e*1)) w1 fun z5 xn_2 _=>jA b 0 6 w1 fun z6=>aSome z5 fun p_4=>ck ((0:Int)≤D5 .i64 z2 255∧D5 .i64 z2 255<(xn_2:Int)) (ck (List.length z6=6) (pAgg (add (B4 p_4) (Int.toNat (D5 .i64 z2 255)*6)) z6 w1 fun w2=>jT [iI z2,iI 0] w2))))):=kR
def Ej1:Cuts:=⟨2,[],[],[]⟩
def Gf4:List Item:=A8 Tryz.f173
theorem H14 :
 xQ Ej1 C R Bx4 Tryz.f173 Gf4 [] h =
 bnd (C Aw6 [iI 40,.func (.func By3) ⟨[]⟩ ⟨[]⟩,.func (.func B03) ⟨[]⟩ ⟨[]⟩] h) fun r w=>aPtr r fun x=>some (.pointer x,w):=kR
def Ds5:Cuts:=⟨2,[(2,[0,6])],[],[]⟩
def Et3:List Item:=A8 Tryz.f184
def Bz2:List Item:=stk [0,1,0,0,1,4,5] Et3
theorem Ir1 :
 xQ Ds5 C R Az6 Tryz.f184 Et3 [(0,.pointer c)] h =
 R Az6 Bz2 [(0,.pointer c),(6,iI 0)] h:=kR
theorem E03 (x6:Int) :
 xQ Ds5 C R Az6 Tryz.f184 Bz2 [(0,.pointer c),(6,iI x6)] h =
 cond (decide (x6<8))
 (bnd (C E4 [.pointer c,iI x6] h) fun r w=>as2 r fun q1 q2=>aAgg q1 fun x=>aI q2 fun z1=>nw (.cells B2 false zZ1) w fun b w1=>jK 16 b 0 x w1 fun w2=>cond (z1==0)
 (some (iI x6,w2))
 (R Az6 Bz2 [(0,.pointer c),(6,iI (wrap .i64 (x6+1)))] w2))
 (some (iI (-1),h)):=kR
def D21:Cuts:=⟨2,[],[],[]⟩
def Gb9:List Item:=A8 Tryz.f187
theorem Hv9 :
 xQ D21 C R Bn7 Tryz.f187 Gb9 [(0,.agg ⟨x⟩),(1,.pointer (some fv0))] h =
 nw (.cells J7 false x) h fun b w=>jI b 2 w fun z1=>gInt .i64 fv0 w fun z2=>some (.bool (z1==(wrap .i64 (z2+1))),w):=kR
def E38:Cuts:=⟨2,[],[],[]⟩
def G96:List Item:=A8 Tryz.f194
theorem Iw3 (m:Int) :
 xQ E38 C R Dk2 Tryz.f194 G96 [(0,.agg ⟨p⟩),(1,iI m)] h =
 nw (.cells B2 false p) h fun b w=>nw (.cells B2 false zZ1) w fun p1 w1=>jO (decide (m<0)) w1 (some (decide (m>65535),w1)) fun c w2=>cond c
 (jW p1 0 zZ1 w2 fun w3=>jA p1 0 16 w3 fun x=>jT [.agg ⟨x⟩,iI 0,iI 122] w3)
 (jI b 5 w2 fun z1=>jV b 5 (iI (J8 .i64 (D5 .i64 m 65534) 16896)) w2 fun w4=>jA b 0 16 w4 fun z2=>jK 16 p1 0 z2 w4 fun w5=>jA p1 0 16 w5 fun z3=>jT [.agg ⟨z3⟩,iI z1,iI 0] w5):=kR
def Ab3:Cuts:=⟨2,[(2,[0,1,7,8])],[],[]⟩
def Am0:List Item:=A8 Tryz.f208
def Y0:List Item:=stk [0,1,0,0,1,4,5] Am0
theorem Df3 :
 xQ Ab3 C R I7 Tryz.f208 Am0 [(0,.slice s sn sc),(1,f)] h =
 R I7 Y0 [(0,.slice s sn sc),(1,f),(7,iI (sn:Int)),(8,iI 0)] h:=kR
theorem A07 :
 xQ Ab3 C R I7 Tryz.f208 Y0 [(0,.slice s sn sc),(1,f),(7,iI x7),(8,iI x8)] h =
 cond (decide (x8<x7))
 (aSome s fun p=>jR x8 sn (gInt .u8 (add (B4 p) (Int.toNat x8*1)) h fun x=>aFn f fun g fi cp=>bnd (C g (fi++([.int .u8 x]++cp)) h) fun r w=>aBool r fun z1=>cond z1
 (some (iI x8,w))
 (R I7 Y0 [(0,.slice s sn sc),(1,f),(7,iI x7),(8,iI (wrap .i64 (x8+1)))] w)))
 (some (iI (-1),h)):=kR
def Ak8:Cuts:=⟨2,[],[],[]⟩
def A54:List Item:=A8 Tryz.f215
theorem A52 :
 xQ Ak8 C R I4 Tryz.f215 A54 [(0,.slice s sn sc),(1,f)] h =
 bnd (C E7 [.slice s sn sc,f] h) fun r w=>aI r fun x=>some (.bool (decide (x≥0)),w):=kR
def Ei4:Cuts:=⟨2,[],[],[]⟩
def Gi1:List Item:=A8 Tryz.f216
theorem Ie1 (c:List Value) :
 xQ Ei4 C R De3 Tryz.f216 Gi1 [(0,.agg ⟨c⟩),(1,.agg ⟨x⟩)] h =
 nw (.cells G7 false c) h fun b w=>nw (.cells O3 false x) w fun p1 w1=>jI p1 0 w1 fun z1=>jO (decide (z1<0)) w1 (jI p1 0 w1 fun z2=>jS b 0 w1 fun _ xn _=>some (decide (z2≥(xn:Int)),w1)) fun c_1 w2=>jO c_1 w2 (jI p1 1 w2 fun z4=>some (decide (z4<0),w2)) fun c_2 w3=>jO c_2 w3 (jI p1 2 w3 fun z5=>some (decide (z5<0),w3)) fun c_3 w4=>jO c_3 w4 (jI p1 3 w4 fun z6=>some (decide (z6<0),w4)) fun c_4 w5=>cond c_4
 (some (.bool false,w5))
 (jS b 0 w5 fun z7 xn_1 _=>jI p1 0 w5 fun z8=>aSome z7 fun p=>jR z8 xn_1 (gInt .i64 (add (B4 p) (Int.toNat z8*1)) w5 fun z9=>bnd (C Bo0 [iI z9] w5) fun r w6=>aI r fun z10=>jI p1 1 w6 fun z11=>cond (decide (z11>z10))
 (some (.bool false,w6))
 (jI p1 1 w6 fun z12=>jI p1 2 w6 fun z13=>jN (decide (z13≤(wrap .i64 ((wrap .i64 (z10-z12))*64)))) (jI p1 3 w6 fun z14=>jI p1 2 w6 fun z15=>some (decide (z14≤(wrap .i64 ((wrap .i64 ((wrap .i64 (z10-z12))*64))-z15))),w6)) w6 fun c_5 w7=>some (.bool c_5,w7)))):=kR
def B99:Cuts:=⟨2,[],[],[(1,⟨[0,1,2,3,4,5,6,7,8,9,10,11,12,13],[0,1,3,7,0,31,63,0,255,511,1023,1023,2047,8191],[],[]⟩)]⟩
def Eg0:List Item:=A8 Tryz.f220
theorem G88 (c:List Value) :
 xQ B99 C R A19 Tryz.f220 Eg0 [(0,.pointer s),(1,iI env),(2,.agg ⟨c⟩)] h =
 nw (.cells W3 false c) h fun b w=>aSome s fun p=>gSl (add p 0) w fun x xn _=>aSome x fun p_1=>jR env xn (gPtr (add (B4 p_1) (Int.toNat env*1)) w fun z1=>jA b 0 6 w fun z2=>bnd (C N3 [.pointer z1,.agg ⟨z2⟩] w) fun r w1=>as2 r fun q1 q2=>aI q1 fun z3=>aBool q2 fun z4=>cond (!z4)
 (jT [iI 0,iI 4] w1)
 (jT [iI z3,iI 0] w1)):=kR
def Ba5:Cuts:=⟨2,[],[],[(6,⟨[0,1,2,3,4,5,6,7,8,9,10,11,12,13,14,15,16,17,18,19,20,21,22,23,24,25,26,27,28,29,30,31,32,33,34,35],[0,1,3,7,15,31,63,127,127,383,1023,2047,4095,8191,8191,24575,8191,122879,262143,524287,1048575,2097151,4194303,8388607,16777215,33554431,67108863,134217727,67108863,335544319,872415231,1946157055,4093640703,8589934591,17179869183,34359738367],[],[]⟩),(8,⟨[0,1,2,3,4,5,6,7,8,9],[0,1,3,7,0,16,63,127,0,511],[],[]⟩)]⟩
def B33:List Item:=A8 Tryz.f222
theorem Eq4 (right:Int) :
 xQ Ba5 C R Ah1 Tryz.f222 B33 [(0,.pointer r),(1,iI env),(2,iI name),(3,iI right),(4,iI atv),(5,iI n)] h =
 aSome r fun p=>gPtr (add p 1) h fun x=>bnd (C A25 [.pointer x,iI env,iI name] h) fun q1 w=>as2 q1 fun q2 q3=>aAgg q2 fun z1=>aI q3 fun z2=>nw (.cells W3 false [iI 0,iI 0,iI 0,iI 0,iI 0,iI 0]) w fun b w1=>jK 6 b 0 z1 w1 fun w2=>cond (z2 != 0)
 (jT [iI 0,iI z2] w2)
 (jI b 1 w2 fun z3=>cond ((D5 .i64 z3 right)==0)
 (jT [iI 0,iI 3] w2)
 (jO (decide (atv<0)) w2 (some (decide (n<0),w2)) fun c w3=>jO c w3 (jI b 3 w3 fun z4=>some (decide (atv>z4),w3)) fun c_1 w4=>jO c_1 w4 (jI b 3 w4 fun z5=>some (decide (n>(wrap .i64 (z5-atv))),w4)) fun c_2 w5=>jO c_2 w5 (jI b 0 w5 fun z6=>some (decide (z6<0),w5)) fun c_3 w6=>jO c_3 w6 (jI b 0 w6 fun z7=>aSome r fun p_1=>gSl (add p_1 2) w6 fun _ xn _=>some (decide (z7≥(xn:Int)),w6)) fun c_4 w7=>cond c_4
 (jT [iI 0,iI 1] w7)
 (aSome r fun p_2=>gSl (add p_2 2) w7 fun z9 xn_1 _=>jI b 0 w7 fun z10=>aSome z9 fun p_3=>jR z10 xn_1 (gAgg (add (B4 p_3) (Int.toNat z10*2)) 2 w7 fun z11=>nw (.cells A66 false [iI 0,iI 0]) w7 fun p1 w8=>jK 2 p1 0 z11 w8 fun w9=>jI b 2 w9 fun z12=>jI p1 1 w9 fun z13=>jO (decide ((wrap .i64 (z12+atv))>z13)) w9 (jI p1 1 w9 fun z14=>jI b 2 w9 fun z15=>some (decide (n>(wrap .i64 ((wrap .i64 (z14-z15))-atv))),w9)) fun c_5 w10=>cond c_5
 (jT [iI 0,iI 1] w10)
 (jI p1 0 w10 fun z16=>jI b 2 w10 fun z17=>jT [iI (wrap .i64 ((wrap .i64 (z16+z17))+atv)),iI 0] w10))))):=kR
def Dk1:Cuts:=⟨2,[],[],[]⟩
def El8:List Item:=A8 Tryz.f224
theorem Hi1 :
 xQ Dk1 C R Br3 Tryz.f224 El8 [(0,.pointer m),(1,iI atv),(2,.slice b bn bc)] h =
 bnd (C Bx2 [.pointer m,iI atv,iI (bn:Int)] h) fun r w=>aBool r fun x=>cond (!x)
 (some (iI 1,w))
 (aSome m fun p=>gSl (add p 0) w fun z1 xn xc=>ckB (fitsOpen z1 A9 w) (ck ((0:Int)≤atv∧atv≤(xn:Int)) (gCells b (min bn (xn-(Int.toNat atv))*1) w fun cs=>pCells (E5 z1 (decide (Int.toNat atv<xc)) ((Int.toNat atv)*1)) cs w fun w1=>some (iI 0,w1)))):=kR
def Db2:Cuts:=⟨2,[],[],[(1,⟨[0,1,2,3,4,5,6,7,8,9,10,11,12,13,14,15,16,17,18,19,20,21,22,23,24,25,26,27,28],[0,1,3,7,7,23,55,119,247,511,1023,2047,4095,8191,16383,32767,4095,131071,262143,4095,528383,1576959,3674111,4095,16257023,33034239,67108863,134217727,268435455],[],[]⟩)]⟩
def Eh4:List Item:=A8 Tryz.f230
theorem G84 :
 xQ Db2 C R A37 Tryz.f230 Eh4 [(0,.pointer k),(1,iI env),(2,iI n)] h =
 jO (decide (n<0)) h (aSome k fun p=>gSl (add p 6) h fun _ xn _=>some (decide (n≥(xn:Int)),h)) fun c w=>jO c w (aSome k fun p_1=>gSl (add p_1 1) w fun z1 xn_1 _=>aSome z1 fun p_2=>jR n xn_1 (gSl (add (B4 p_2) (Int.toNat n*1)) w fun z2 xn_2 xc_2=>aSome k fun p_3=>gSl (add p_3 0) w fun z3 xn_3 _=>aSome z3 fun p_4=>jR env xn_3 (gInt .i64 (add (B4 p_4) (Int.toNat env*1)) w fun z4=>bnd (C R0 [.slice z2 xn_2 xc_2,iI z4] w) fun r w1=>aBool r fun z5=>some (!z5,w1)))) fun c_1 w2=>cond c_1
 (jT [.pointer none,iI 8] w2)
 (aSome k fun p_5=>gSl (add p_5 6) w2 fun z6 xn_4 _=>aSome z6 fun p_6=>jR n xn_4 (gPtr (add (B4 p_6) (Int.toNat n*1)) w2 fun z7=>jT [.pointer z7,iI 0] w2)):=kR
def Es5:Cuts:=⟨2,[],[],[(1,⟨[0,1,2,3,4,5,6,7,8,9,10,11,12,13,14,15,16,17,18],[0,1,3,7,0,16,48,112,0,256,768,1792,0,4096,12288,28672,65535,0,262143],[],[]⟩),(3,⟨[0,1,2,3,4,5,6,7,8],[0,0,2,6,6,30,62,63,255],[(5,[0])],[]⟩)]⟩
def Gz9:List Item:=A8 Tryz.f239
theorem In6 :
 xQ Es5 C R Az9 Tryz.f239 Gz9 [(0,.slice b bn bc)] h =
 nw (.cells D9 false [iI 0,iI 0,iI 0,iI 0]) h fun p1 w=>aSome b fun p=>jR 0 bn (gInt .u8 (add (B4 p) (Int.toNat 0*1)) w fun x=>aSome b fun p_1=>jR 1 bn (gInt .u8 (add (B4 p_1) (Int.toNat 1*1)) w fun z1=>aSome b fun p_2=>jR 2 bn (gInt .u8 (add (B4 p_2) (Int.toNat 2*1)) w fun z2=>aSome b fun p_3=>jR 3 bn (gInt .u8 (add (B4 p_3) (Int.toNat 3*1)) w fun z3=>nw (.cells D9 false [iI 0,iI 0,iI 0,iI 0]) w fun p2 w1=>jW p2 0 [iI (wrap .i64 (x)),iI (wrap .i64 (z1)),iI (wrap .i64 (z2)),iI (wrap .i64 (z3))] w1 fun w2=>jA p2 0 4 w2 fun z4=>bnd (C Bg8 [.agg ⟨z4⟩] w2) fun r w3=>as2 r fun q1 q2=>aSl q1 fun z5 xn xc=>aBool q2 fun z6=>jA p2 0 4 w3 fun z7=>jN z6 (bnd (C D6 [.slice z5 xn xc,.slice b bn bc] w3) fun q3 w4=>aBool q3 fun z8=>jA p2 0 4 w4 fun z9=>same (.agg ⟨z7⟩) (.agg ⟨z9⟩) (some (z8,w4))) w3 fun c w5=>jK 4 p1 0 z7 w5 fun w6=>jA p1 0 4 w6 fun z10=>jT [.agg ⟨z10⟩,.bool c] w6)))):=kR
def E68:Cuts:=⟨2,[],[],[(1,⟨[0,1,2,3,4,5,6,7,8,9,10,11,12,13,14,15,16,17,18],[0,1,3,7,0,16,48,112,0,256,768,1792,0,4096,12288,28672,65535,0,262143],[],[]⟩),(2,⟨[0,1,2,3,4],[0,1,0,4,15],[],[]⟩),(4,⟨[0,1,2,3,4,5,6,7,8],[0,0,2,6,6,30,62,63,255],[(5,[0])],[]⟩)]⟩
def Hh3:List Item:=A8 Tryz.f242
theorem Iy6 :
 xQ E68 C R B03 Tryz.f242 Hh3 [(0,.slice b bn bc)] h =
 nw (.cells E6 false zZ2) h fun p1 w=>aSome b fun p=>jR 1 bn (gInt .u8 (add (B4 p) (Int.toNat 1*1)) w fun x=>aSome b fun p_1=>jR 2 bn (gInt .u8 (add (B4 p_1) (Int.toNat 2*1)) w fun z1=>aSome b fun p_2=>jR 3 bn (gInt .u8 (add (B4 p_2) (Int.toNat 3*1)) w fun z2=>aSome b fun p_3=>jR 4 bn (gInt .u8 (add (B4 p_3) (Int.toNat 4*1)) w fun z3=>nw (.cells E6 false zZ2) w fun p2 w1=>jW p2 0 [iI (wrap .i64 (x)),iI (wrap .i64 (z1)),iI (wrap .i64 (z2)),iI (wrap .i64 (z3)),.int .u8 0,.int .u8 0,.int .u8 0,.int .u8 0,.int .u8 0,.int .u8 0,.int .u8 0,.int .u8 0,.int .u8 0,.int .u8 0,.int .u8 0,.int .u8 0,.int .u8 0,.int .u8 0,.int .u8 0,.int .u8 0,.int .u8 0,.int .u8 0,.int .u8 0,.int .u8 0,.int .u8 0,.int .u8 0,.int .u8 0,.int .u8 0,.int .u8 0,.int .u8 0,.int .u8 0,.int .u8 0,.int .u8 0,.int .u8 0,.int .u8 0,.int .u8 0] w1 fun w2=>ckB (liveA ⟨p2,4,none⟩ w2) (ckB (fitsOpen b A9 w2) (ck ((0:Int)≤8∧8≤(bn:Int)) (gCells (E5 b (decide (Int.toNat 8<bc)) ((Int.toNat 8)*1)) (min (bn-(Int.toNat 8)) (32-0)*1) w2 fun cs=>pCells (E5 (some ⟨p2,4,none⟩) (decide (0<32)) (0*1)) cs w2 fun w3=>jA p2 0 36 w3 fun z4=>bnd (C Bo2 [.agg ⟨z4⟩] w3) fun r w4=>as2 r fun q1 q2=>aSl q1 fun z5 xn xc=>aBool q2 fun z6=>jA p2 0 36 w4 fun z7=>jN z6 (bnd (C D6 [.slice z5 xn xc,.slice b bn bc] w4) fun q3 w5=>aBool q3 fun z8=>jA p2 0 36 w5 fun z9=>same (.agg ⟨z7⟩) (.agg ⟨z9⟩) (some (z8,w5))) w4 fun c w6=>jK 36 p1 0 z7 w6 fun w7=>jA p1 0 36 w7 fun z10=>jT [.agg ⟨z10⟩,.bool c] w7))))))):=kR
def Eb4:Cuts:=⟨2,[],[],[]⟩
def Gm8:List Item:=A8 Tryz.f247
theorem Ig7 (k:Int) :
 xQ Eb4 C R Bg7 Tryz.f247 Gm8 [(0,iI k),(1,.pointer (some fv0))] h =
 gPtr fv0 h fun x=>bnd (C U9 [.pointer x,iI k] h) fun r w=>as2 r fun q1 q2=>aAgg q1 fun z1=>aI q2 fun z2=>nw (.cells E6 false zZ2) w fun b w1=>jK 36 b 0 z1 w1 fun w2=>some (.bool (z2==0),w2):=kR
def Et7:Cuts:=⟨2,[],[],[(6,⟨[0,1,2,3,4],[0,0,2,7,15],[(2,[0])],[]⟩)]⟩
def Gz0:List Item:=A8 Tryz.f255
theorem Iq6 :
 xQ Et7 C R Dt3 Tryz.f255 Gz0 [(0,.agg ⟨p⟩),(1,iI n)] h =
 nw (.cells E6 false p) h fun b w=>nw (.cells E6 false zZ2) w fun p1 w1=>jA b 0 36 w1 fun x=>bnd (C As1 [.agg ⟨x⟩] w1) fun r w2=>aSl r fun z1 xn xc=>ckB (fitsOpen z1 A9 w2) (ck ((0:Int)≤mm2 false (mm2 true n 0) (xn:Int)∧mm2 false (mm2 true n 0) (xn:Int)≤(xc:Int)) (cond (decide ((((Int.toNat (mm2 false (mm2 true n 0) (xn:Int)))-0:Nat):Int)>0))
 (jI b 0 w2 fun z2=>jV b 0 (iI (Int.tmod (wrap .i64 (z2+(((Int.toNat (mm2 false (mm2 true n 0) (xn:Int)))-0:Nat):Int))) 32)) w2 fun w3=>jI b 1 w3 fun z3=>jV b 1 (iI (wrap .i64 (z3-(((Int.toNat (mm2 false (mm2 true n 0) (xn:Int)))-0:Nat):Int)))) w3 fun w4=>jA b 0 36 w4 fun z4=>bnd (C Ab2 [.slice (E5 z1 (decide (0<xc)) (0*1)) ((Int.toNat (mm2 false (mm2 true n 0) (xn:Int)))-0) (xc-0)] w4) fun q1 w5=>aSl q1 fun z5 xn_1 xc_1=>jA b 0 36 w5 fun z6=>same (.agg ⟨z4⟩) (.agg ⟨z6⟩) (jK 36 p1 0 z4 w5 fun w6=>jA p1 0 36 w6 fun z7=>jT [.agg ⟨z7⟩,.slice z5 xn_1 xc_1] w6))
 (jA b 0 36 w2 fun z8=>bnd (C Ab2 [.slice (E5 z1 (decide (0<xc)) (0*1)) ((Int.toNat (mm2 false (mm2 true n 0) (xn:Int)))-0) (xc-0)] w2) fun q2 w7=>aSl q2 fun z9 xn_2 xc_2=>jA b 0 36 w7 fun z10=>same (.agg ⟨z8⟩) (.agg ⟨z10⟩) (jK 36 p1 0 z8 w7 fun w8=>jA p1 0 36 w8 fun z11=>jT [.agg ⟨z11⟩,.slice z9 xn_2 xc_2] w8)))):=kR
def Ar6:Cuts:=⟨2,[],[],[]⟩
def Bi2:List Item:=A8 Tryz.f265
def Ef8:Cuts:=⟨2,[],[],[]⟩
def Gm0:List Item:=A8 Tryz.f269
theorem Ib0 (without:Int) :
 xQ Ef8 C R Ar5 Tryz.f269 Gm0 [(0,iI n),(1,iI without)] h =
 jN ((J8 .i64 n 65534)==0) (some ((D5 .i64 n without)==0,h)) h fun c w=>some (.bool c,w):=kR
def Ei5:Cuts:=⟨2,[],[],[]⟩
def Gh2:List Item:=A8 Tryz.f270
theorem H27 (f:Int) :
 xQ Ei5 C R Bu7 Tryz.f270 Gh2 [(0,iI f)] h =
 jO (decide (f<0)) h (some (decide (f>12),h)) fun c w=>some (.bool c,w):=kR
def Ae4:Cuts:=⟨2,[(2,[0,1,7,8])],[],[]⟩
def Aq1:List Item:=A8 Tryz.f271
def S5:List Item:=stk [0,1,0,0,1,4,5] Aq1
theorem Bh8 :
 xQ Ae4 C R E7 Tryz.f271 Aq1 [(0,.slice s sn sc),(1,f)] h =
 R E7 S5 [(0,.slice s sn sc),(1,f),(7,iI (sn:Int)),(8,iI 0)] h:=kR
theorem Z9 :
 xQ Ae4 C R E7 Tryz.f271 S5 [(0,.slice s sn sc),(1,f),(7,iI x7),(8,iI x8)] h =
 cond (decide (x8<x7))
 (aSome s fun p=>jR x8 sn (gInt .i64 (add (B4 p) (Int.toNat x8*1)) h fun x=>aFn f fun g fi cp=>bnd (C g (fi++([iI x]++cp)) h) fun r w=>aBool r fun z1=>cond z1
 (some (iI x8,w))
 (R E7 S5 [(0,.slice s sn sc),(1,f),(7,iI x7),(8,iI (wrap .i64 (x8+1)))] w)))
 (some (iI (-1),h)):=kR
def Ed4:Cuts:=⟨2,[],[],[]⟩
def Go8:List Item:=A8 Tryz.f273
theorem Id6 :
 xQ Ed4 C R Bx2 Tryz.f273 Go8 [(0,.pointer m),(1,iI atv),(2,iI n)] h =
 jN (decide (atv≥0)) (some (decide (n≥0),h)) h fun c w=>jN c (aSome m fun p=>gSl (add p 0) w fun _ xn _=>some (decide (atv≤(xn:Int)),w)) w fun c_1 w1=>jN c_1 (aSome m fun p_1=>gSl (add p_1 0) w1 fun _ xn_1 _=>some (decide (n≤(wrap .i64 ((xn_1:Int)-atv))),w1)) w1 fun c_2 w2=>some (.bool c_2,w2):=kR
def Gi9:Cuts:=⟨2,[],[],[]⟩
def Ht7:List Item:=A8 Tryz.f280
theorem Jc6 :
 xQ Gi9 C R Dx7 Tryz.f280 Ht7 [(0,.agg ⟨p⟩)] h =
 nw (.cells E6 false p) h fun b w=>jI b 0 w fun x=>bnd (C A09 [iI x,iI 31] w) fun r w1=>aBool r fun z1=>jN z1 (jI b 1 w1 fun z2=>bnd (C A09 [iI z2,iI 32] w1) fun q1 w2=>aBool q1 fun z3=>some (z3,w2)) w1 fun c w3=>jN c (jI b 2 w3 fun z4=>bnd (C A09 [iI z4,iI 8] w3) fun q2 w4=>aBool q2 fun z5=>some (z5,w4)) w3 fun c_1 w5=>jN c_1 (jI b 3 w5 fun z6=>bnd (C A09 [iI z6,iI 8] w5) fun q3 w6=>aBool q3 fun z7=>some (z7,w6)) w5 fun c_2 w7=>some (.bool c_2,w7):=kR
def D17:Cuts:=⟨2,[],[],[]⟩
def Gd4:List Item:=A8 Tryz.f282
theorem Hw7 :
 xQ D17 C R Bo8 Tryz.f282 Gd4 [(0,iI i),(1,.pointer (some fv0))] h =
 ck ((0:Int)≤i∧i<((8:Nat):Int)) (gInt .i64 (add (add fv0 8) (Int.toNat i*1)) h fun x=>some (.bool (x==0),h)):=kR
def Es8:Cuts:=⟨2,[],[],[]⟩
def G13:List Item:=A8 Tryz.f291
theorem Ik5 (B3:Int) :
 xQ Es8 C R A09 Tryz.f291 G13 [(0,iI n),(1,iI B3)] h =
 jN (decide (n≥0)) (some (decide (n≤B3),h)) h fun c w=>some (.bool c,w):=kR
end
end Go.EQ

set_option maxRecDepth 100000
namespace Go.EQ
open Go Go.NN Go.Proofs
open Go.IntKind (wrap)
open Go.Addr (add)
variable (C:E0) (R:Ab8) (dov fv0 hs q v x4:Addr) (h:H) (a atv done e env fd first g hi how i j n name root size to who x13 x21 x22 x59 x90 x91:Int) (f p r x:List Value) (bc bn datac datan lc ln outc outn sc sn x20c x20n x89c x89n:Nat) (b c data k l m out s t w x20 x89:Option Addr) (cmp:Value)
noncomputable section
def A49:Cuts:=⟨2,[],[(12,[0,1,6,9])],[]⟩
def Bq1:List Item:=A8 Tryz.f4
def Aq9:List Item:=stk [0,1,0,1,0,1,0,1,0,1,0,1,0,1,0,1,0,1,0,0] Bq1
theorem Ge0 :
 xQ A49 C R D8 Tryz.f4 Bq1 [(0,iI n),(1,iI how)] h =
 bnd (C Ah7 [] h) fun r w=>as4 r fun q1 q2 q3 q4=>aPtr q1 fun x=>aSl q2 fun z1 xn xc=>aPtr q3 fun _=>aSl q4 fun _ _ _=>nw (.cells Q4 false [sN]) w fun b w1=>jV b 0 (.slice z1 xn xc) w1 fun w2=>cond x.isNone
 (some (.bool false,w2))
 (bnd (C D4 [iI 0,.agg ⟨[iI 9,iI 0,iI 0,sN]⟩,pP b] w2) fun q5 w3=>as2 q5 fun q6 q7=>aAgg q6 fun _=>aBool q7 fun _=>bnd (C D4 [iI 0,.agg ⟨[iI 2,iI 0,iI 0,sN]⟩,pP b] w3) fun q8 w4=>as2 q8 fun q9 q10=>aAgg q9 fun _=>aBool q10 fun _=>jS b 0 w4 fun z8 xn_2 _=>aSome z8 fun p=>jR 1 xn_2 (gPtr (add (B4 p) (Int.toNat 1*1)) w4 fun z9=>bnd (C Bd0 [.pointer z9] w4) fun q11 w5=>as0 q11 (cond (decide ((D5 .i64 how 3)<3))
 (bnd (C D4 [iI 1,.agg ⟨[iI 7,iI (wrap .i64 ((D5 .i64 n 7)+1)),iI (D5 .i64 how 3),sN]⟩,pP b] w5) fun q12 w6=>as2 q12 fun q13 q14=>aAgg q13 fun _=>aBool q14 fun _=>R D8 Aq9 [(0,iI (wrap .i64 ((D5 .i64 n 7)+1))),(1,iI (D5 .i64 how 3)),(6,pP b),(9,.func (.func D4) ⟨[]⟩ ⟨[pP b]⟩)] w6)
 (ck ((0:Int)≤(wrap .i64 ((D5 .i64 n 7)+1))) (bnd (C D4 [iI 1,.agg ⟨[iI 6,iI (wrap .i64 (1*2 ^ (min (Int.toNat (wrap .i64 ((D5 .i64 n 7)+1))) 64))),iI 0,sN]⟩,pP b] w5) fun q15 w7=>as2 q15 fun q16 q17=>aAgg q16 fun _=>aBool q17 fun _=>R D8 Aq9 [(0,iI (wrap .i64 ((D5 .i64 n 7)+1))),(1,iI (D5 .i64 how 3)),(6,pP b),(9,.func (.func D4) ⟨[]⟩ ⟨[pP b]⟩)] w7))))):=kR
theorem Er1 :
 xQ A49 C R D8 Tryz.f4 Aq9 [(0,iI n),(1,iI how),(6,.pointer (some hs)),(9,.func (.func D4) ⟨[]⟩ ⟨[.pointer (some dov)]⟩)] h =
 bnd (C D4 [iI 1,.agg ⟨[iI 10,iI 1,iI 5,sN]⟩,.pointer (some dov)] h) fun r w=>as2 r fun q1 q2=>aAgg q1 fun x=>aBool q2 fun z1=>nw (.cells Ae0 false [iI 0,iI 0,iI 0,iI 0,iI 0,sN,iI 0,iI 0,sN,.bool false,sN,iI 0]) w fun b w1=>jK 12 b 0 x w1 fun w2=>jO z1 w2 (gSl hs w2 fun z2 xn _=>aSome z2 fun p=>jR 1 xn (gPtr (add (B4 p) (Int.toNat 1*1)) w2 fun z3=>bnd (C Af3 [.pointer z3] w2) fun q3 w3=>aI q3 fun z4=>some (z4 != 3,w3))) fun c w4=>cond c
 (some (.bool false,w4))
 (bnd (C D4 [iI 0,.agg ⟨[iI 5,iI 1,iI n,sN]⟩,.pointer (some dov)] w4) fun q4 w5=>as2 q4 fun q5 q6=>aAgg q5 fun z5=>aBool q6 fun z6=>nw (.cells Ae0 false [iI 0,iI 0,iI 0,iI 0,iI 0,sN,iI 0,iI 0,sN,.bool false,sN,iI 0]) w5 fun p1 w6=>jK 12 p1 0 z5 w6 fun w7=>jO (!z6) w7 (jI p1 7 w7 fun z7=>some (z7 != 0,w7)) fun c_1 w8=>cond c_1
 (some (.bool false,w8))
 (gSl hs w8 fun z8 xn_1 _=>aSome z8 fun p_1=>jR 1 xn_1 (gPtr (add (B4 p_1) (Int.toNat 1*1)) w8 fun z9=>bnd (C L9 [.pointer z9] w8) fun q7 w9=>as2 q7 fun q8 q9=>aAgg q8 fun z10=>aBool q9 fun z11=>nw (.cells Ae0 false [iI 0,iI 0,iI 0,iI 0,iI 0,sN,iI 0,iI 0,sN,.bool false,sN,iI 0]) w9 fun p2 w10=>jK 12 p2 0 z10 w10 fun w11=>cond (how==0)
 (bnd (C D4 [iI 0,.agg ⟨[iI 4,iI 0,iI 0,sN]⟩,.pointer (some dov)] w11) fun q10 w12=>as2 q10 fun q11 q12=>aAgg q11 fun z12=>aBool q12 fun z13=>nw (.cells Ae0 false [iI 0,iI 0,iI 0,iI 0,iI 0,sN,iI 0,iI 0,sN,.bool false,sN,iI 0]) w12 fun p3 w13=>jK 12 p3 0 z12 w13 fun w14=>jN z11 (jB p2 9 w14 fun z14=>some (z14,w14)) w14 fun c_2 w15=>jN c_2 (jI p2 7 w15 fun z15=>some (z15==104,w15)) w15 fun c_3 w16=>jN c_3 (jI p2 11 w16 fun z16=>some (z16==n,w16)) w16 fun c_4 w17=>jN c_4 (some (z13,w17)) w17 fun c_5 w18=>jN c_5 (jI p3 6 w18 fun z17=>some (z17==(wrap .i64 (384+n)),w18)) w18 fun c_6 w19=>jN c_6 (bnd (C A68 [] w19) fun q13 w20=>aBool q13 fun z18=>some (z18,w20)) w19 fun c_7 w21=>some (.bool c_7,w21))
 (cond (how==2)
 (jN z11 (jB p2 9 w11 fun z19=>some (z19,w11)) w11 fun c_8 w22=>jN c_8 (jI p2 7 w22 fun z20=>some (z20==104,w22)) w22 fun c_9 w23=>jN c_9 (jI p2 11 w23 fun z21=>some (z21==0,w23)) w23 fun c_10 w24=>jN c_10 (jS p2 10 w24 fun _ xn_2 _=>some ((xn_2:Int)==1,w24)) w24 fun c_11 w25=>jN c_11 (jS p2 10 w25 fun z23 xn_3 _=>aSome z23 fun p_2=>jR 0 xn_3 (gInt .i64 (add (B4 p_2) (Int.toNat 0*1)) w25 fun z24=>some (z24==n,w25))) w25 fun c_12 w26=>jN c_12 (gSl hs w26 fun z25 xn_4 _=>aSome z25 fun p_3=>jR 1 xn_4 (gPtr (add (B4 p_3) (Int.toNat 1*1)) w26 fun z26=>bnd (C Af3 [.pointer z26] w26) fun q14 w27=>aI q14 fun z27=>some (z27==0,w27))) w26 fun c_13 w28=>jN c_13 (bnd (C A68 [] w28) fun q15 w29=>aBool q15 fun z28=>some (z28,w29)) w28 fun c_14 w30=>some (.bool c_14,w30))
 (jN (!z11) (gSl hs w11 fun z29 xn_5 _=>aSome z29 fun p_4=>jR 1 xn_5 (gPtr (add (B4 p_4) (Int.toNat 1*1)) w11 fun z30=>bnd (C Af3 [.pointer z30] w11) fun q16 w31=>aI q16 fun z31=>some (z31==3,w31))) w11 fun c_15 w32=>jN c_15 (bnd (C A68 [] w32) fun q17 w33=>aBool q17 fun z32=>some (z32,w33)) w32 fun c_16 w34=>some (.bool c_16,w34)))))):=kR
def B24:Cuts:=⟨2,[],[],[(1,⟨[0,1,2,3,4,5,6,7,8,9,10,11,12,13,14,15],[0,0,2,6,14,0,32,96,224,510,1022,2046,2046,4095,12287,28671],[],[]⟩)]⟩
def D27:List Item:=A8 Tryz.f11
theorem Gu9 :
 xQ B24 C R Bd0 Tryz.f11 D27 [(0,.pointer w)] h =
 bnd (C A29 [.pointer w] h) fun r w1=>as0 r (aSome w fun p=>gPtr (add p 0) w1 fun x=>aSome w fun p_1=>gInt .i64 (add p_1 1) w1 fun z1=>bnd (C Au4 [.pointer x,iI z1] w1) fun q1 w2=>as2 q1 fun q2 q3=>aPtr q2 fun z2=>aI q3 fun _=>aSome w fun p_2=>pV (add p_2 4) (.pointer z2) w2 fun w3=>jT [] w3):=kR
def Bb6:Cuts:=⟨2,[],[],[]⟩
def B46:List Item:=A8 Tryz.f13
theorem Eu1 :
 xQ Bb6 C R E4 Tryz.f13 B46 [(0,.pointer c),(1,iI i)] h =
 nw (.cells B2 false zZ1) h fun b w=>bnd (C A11 [iI i] w) fun r w1=>aAgg r fun x=>bnd (C P5 [.pointer c,.agg ⟨x⟩,.func (.func A17) ⟨[]⟩ ⟨[]⟩] w1) fun q1 w2=>as2 q1 fun q2 q3=>aAgg q2 fun z1=>aI q3 fun z2=>jK 16 b 0 z1 w2 fun w3=>jA b 0 16 w3 fun z3=>jT [.agg ⟨z3⟩,iI z2] w3:=kR
def Bg3:Cuts:=⟨2,[],[],[(1,⟨[0,1,2,3,4,5,6],[0,0,3,7,0,31,63],[],[]⟩)]⟩
def Dc1:List Item:=A8 Tryz.f17
theorem Dd5 (s:List Value) :
 xQ Bg3 C R D4 Tryz.f17 Dc1 [(0,iI i),(1,.agg ⟨s⟩),(2,.pointer (some fv0))] h =
 nw (.cells Dd1 false s) h fun b w=>nw (.cells Ae0 false [iI 0,iI 0,iI 0,iI 0,iI 0,sN,iI 0,iI 0,sN,.bool false,sN,iI 0]) w fun p1 w1=>gSl fv0 w1 fun x xn _=>aSome x fun p=>jR i xn (gPtr (add (B4 p) (Int.toNat i*1)) w1 fun z1=>jA b 0 4 w1 fun z2=>bnd (C Af2 [.pointer z1,.agg ⟨z2⟩] w1) fun r w2=>aBool r fun z3=>cond (!z3)
 (jW p1 0 [iI 0,iI 0,iI 0,iI 0,iI 0,sN,iI 0,iI 0,sN,.bool false,sN,iI 0] w2 fun w3=>jA p1 0 12 w3 fun z4=>jT [.agg ⟨z4⟩,.bool false] w3)
 (gSl fv0 w2 fun z5 xn_1 _=>aSome z5 fun p_1=>jR i xn_1 (gPtr (add (B4 p_1) (Int.toNat i*1)) w2 fun z6=>bnd (C L9 [.pointer z6] w2) fun q1 w4=>as2 q1 fun q2 q3=>aAgg q2 fun _=>aBool q3 fun _=>gSl fv0 w4 fun z9 xn_2 _=>aSome z9 fun p_2=>jR i xn_2 (gPtr (add (B4 p_2) (Int.toNat i*1)) w4 fun z10=>bnd (C L9 [.pointer z10] w4) fun q4 w5=>as2 q4 fun q5 q6=>aAgg q5 fun z11=>aBool q6 fun z12=>jK 12 p1 0 z11 w5 fun w6=>jA p1 0 12 w6 fun z13=>jT [.agg ⟨z13⟩,.bool z12] w6)))):=kR
def Av5:Cuts:=⟨2,[],[],[]⟩
def Bn4:List Item:=A8 Tryz.f26
theorem Bn3 :
 xQ Av5 C R I1 Tryz.f26 Bn4 [(0,.slice s sn sc)] h =
 cond s.isNone
 (some (sN,h))
 (nw (.cells A9 false []) h fun b w=>gCells s (sn*1) w fun cs=>ckB (fitsOpen (some ⟨b,0,none⟩) A9 w) (apd A9 1 (some ⟨b,0,none⟩) 0 0 sn cs w fun a an ac w1=>some (.slice a an ac,w1))):=kR
def B18:Cuts:=⟨2,[],[],[(0,⟨[0,1,2,3,4,5,6,7,8,9,10,11,12,13,14,15,16,17],[0,1,3,7,0,16,48,112,0,256,768,1792,0,4096,12288,28672,65280,131071],[],[]⟩)]⟩
def D33:List Item:=A8 Tryz.f29
theorem Gw1 (phase:Int) :
 xQ B18 C R Am9 Tryz.f29 D33 [(0,.pointer w),(1,iI phase)] h =
 aSome w fun p=>gPtr (add p 0) h fun x=>aSome w fun p_1=>gInt .i64 (add p_1 1) h fun z1=>aSome w fun p_2=>gInt .i64 (add p_2 3) h fun z2=>aSome w fun p_3=>gInt .i64 (add p_3 6) h fun z3=>bnd (C N7 [.pointer x,iI z1,.agg ⟨[iI 9,iI 0,iI z3,iI z2,iI 0,iI 0,sN]⟩] h) fun r w1=>aAgg r fun _=>aSome w fun p_4=>pV (add p_4 5) (iI phase) w1 fun w2=>jT [] w2:=kR
def Bq6:Cuts:=⟨2,[],[],[(4,⟨[0,1,2,3,5,6,7,8,10,11,12,13,14,15,16,17,18,19,20,21,4,9,22,23,24,25,26,27,28],[0,1,3,7,15,0,32,96,224,511,0,1024,3072,7168,0,16384,49152,114688,0,262144,786432,1835008,4194303,8388607,16777215,33554431,33554431,67108863,268435455],[(4,[8,13,17,21]),(9,[13,17,21])],[]⟩)]⟩
def Dn6:List Item:=A8 Tryz.f32
theorem Dn5 :
 xQ Bq6 C R Ap0 Tryz.f32 Dn6 [(0,.pointer w),(1,.agg ⟨p⟩)] h =
 nw (.cells B2 false p) h fun b w1=>nw (.cells Ae0 false [iI 0,iI 0,iI 0,iI 0,iI 0,sN,iI 0,iI 0,sN,.bool false,sN,iI 0]) w1 fun p1 w2=>jA b 0 16 w2 fun x=>bnd (C Ar1 [.agg ⟨x⟩] w2) fun r w3=>aBool r fun z1=>cond z1
 (aSome w fun p_1=>pV (add p_1 5) (iI 0) w3 fun w4=>bnd (C A40 [.pointer w,.agg ⟨[iI 0,iI 104,sN,.bool false]⟩] w4) fun q1 w5=>aAgg q1 fun z2=>bnd (C Am8 [.pointer w,.agg ⟨z2⟩] w5) fun q2 w6=>aAgg q2 fun z3=>jK 12 p1 0 z3 w6 fun w7=>jA p1 0 12 w7 fun z4=>jT [.agg ⟨z4⟩,.bool true] w7)
 (aSome w fun p_2=>gPtr (add p_2 4) w3 fun z5=>aSome w fun p_3=>gPtr (add p_3 0) w3 fun z6=>aSome w fun p_4=>gPtr (add p_4 4) w3 fun z7=>aSome w fun p_5=>gInt .i64 (add p_5 2) w3 fun z8=>aSome w fun p_6=>gAgg (add p_6 7) 4 w3 fun z9=>bnd (C Ar0 [.pointer z5] w3) fun q3 w8=>aSl q3 fun z10 xn xc=>gPtr (add p_3 0) w8 fun z11=>same (.pointer z6) (.pointer z11) (gPtr (add p_4 4) w8 fun z12=>same (.pointer z7) (.pointer z12) (gInt .i64 (add p_5 2) w8 fun z13=>same (iI z8) (iI z13) (gAgg (add p_6 7) 4 w8 fun z14=>same (.agg ⟨z9⟩) (.agg ⟨z14⟩) (bnd (C A76 [.pointer z6] w8) fun q4 w9=>aI q4 fun z15=>gPtr (add p_4 4) w9 fun z16=>same (.pointer z7) (.pointer z16) (gInt .i64 (add p_5 2) w9 fun z17=>same (iI z8) (iI z17) (gAgg (add p_6 7) 4 w9 fun z18=>same (.agg ⟨z9⟩) (.agg ⟨z18⟩) (bnd (C Dh3 [.pointer z7,iI z8,.agg ⟨z9⟩] w9) fun q5 w10=>aSl q5 fun z19 xn_1 xc_1=>bnd (C A02 [.slice z10 xn xc,iI z15,.slice z19 xn_1 xc_1] w10) fun q6 w11=>as2 q6 fun q7 q8=>aBool q7 fun z20=>aI q8 fun _=>cond z20
 (aSome w fun p_7=>pV (add p_7 5) (iI 1) w11 fun w12=>jW p1 0 [iI 0,iI 0,iI 0,iI 0,iI 0,sN,iI 0,iI 0,sN,.bool false,sN,iI 0] w12 fun w13=>jA p1 0 12 w13 fun z22=>jT [.agg ⟨z22⟩,.bool false] w13)
 (jW p1 0 [iI 0,iI 0,iI 0,iI 0,iI 0,sN,iI 0,iI 0,sN,.bool false,sN,iI 0] w11 fun w14=>jA p1 0 12 w14 fun z23=>jT [.agg ⟨z23⟩,.bool false] w14))))))))):=kR
def Ak6:Cuts:=⟨2,[],[(8,[6,8,11,12])],[(7,⟨[0,1,2,3,4,5,6,7,8,9],[0,1,3,7,0,31,63,31,159,511],[(7,[5])],[]⟩)]⟩
def Ay7:List Item:=A8 Tryz.f35
def Ap9:List Item:=stk [0,1,0,1,0,1,0,1,0,1,0,1,0,0] Ay7
theorem D65 (decode:Value) :
 xQ Ak6 C R P5 Tryz.f35 Ay7 [(0,.pointer c),(1,.agg ⟨r⟩),(2,decode)] h =
 nw (.cells E9 false r) h fun b w=>nw (.cells B2 false zZ1) w fun p1 w1=>nw (.cells B2 false zZ1) w1 fun p2 w2=>jA b 0 2 w2 fun x=>bnd (C U6 [.pointer c,.agg ⟨x⟩] w2) fun q1 w3=>as2 q1 fun q2 q3=>aSl q2 fun z1 xn xc=>aBool q3 fun z2=>cond (!z2)
 (jA p2 0 16 w3 fun z3=>jK 16 p1 0 z3 w3 fun w4=>jA p1 0 16 w4 fun z4=>jT [.agg ⟨z4⟩,iI 2] w4)
 (aFn decode fun g fi cp=>bnd (C g (fi++([.slice z1 xn xc]++cp)) w3) fun q4 w5=>as2 q4 fun q5 q6=>aAgg q5 fun z5=>aI q6 fun z6=>nw (.cells B2 false zZ1) w5 fun p3 w6=>jK 16 p3 0 z5 w6 fun w7=>cond (z6==2)
 (aSome c fun p=>gMap (add p 3) w7 fun z7=>jA b 0 2 w7 fun z8=>keyN PR E9 (.agg ⟨z8⟩) (opt z7 fun q7=>mapAt w7 q7 fun es _=>opt (At5 (iI 0) (.agg ⟨z8⟩) es) fun f=>aI f.1 fun z9=>keyN PR E9 (.agg ⟨z8⟩) (opt z7 fun q8=>mapAt w7 q8 fun es_1 cl_1=>opt (Ep6 (iI 0) (.agg ⟨z8⟩) es_1 cl_1) fun f_1=>aI f_1.1 fun _=>lt (H.set w7 q8 f_1.2.2) fun w8=>keyN PR E9 (.agg ⟨z8⟩) (opt z7 fun q9=>mapAt w8 q9 fun es_2 _=>opt (At5 (iI 0) (.agg ⟨z8⟩) es_2) fun f_2=>aI f_2.1 fun z11=>same (iI z9) (iI z11) (opt z7 fun q10=>mapAt w8 q10 fun es_3 cl_3=>opt (By4 (f_1.2.1:Int) es_3 0) fun i=>lt (H.set w8 q10 (.map (modN (fun e=>{ e with val:=iI (wrap .i64 (z9+1)) }) i es_3) cl_3)) fun w9=>R P5 Ap9 [(6,pP p1),(8,pP p2),(11,pP p3),(12,iI z6)] w9)))))
 (R P5 Ap9 [(6,pP p1),(8,pP p2),(11,pP p3),(12,iI z6)] w7)):=kR
theorem Bf4 (x6:Addr) (nonev:Addr) (isv:Int) :
 xQ Ak6 C R P5 Tryz.f35 Ap9 [(6,.pointer (some x6)),(8,.pointer (some nonev)),(11,.pointer (some v)),(12,iI isv)] h =
 cond (isv != 1)
 (gAgg nonev 16 h fun x=>ck (List.length x=16) (pAgg x6 x h fun w=>gAgg x6 16 w fun z1=>jT [.agg ⟨z1⟩,iI isv] w))
 (gAgg v 16 h fun z2=>ck (List.length z2=16) (pAgg x6 z2 h fun w1=>gAgg x6 16 w1 fun z3=>jT [.agg ⟨z3⟩,iI isv] w1)):=kR
def Ds2:Cuts:=⟨2,[],[],[]⟩
def Ev9:List Item:=A8 Tryz.f37
theorem Hi7 :
 xQ Ds2 C R A17 Tryz.f37 Ev9 [(0,.slice b bn bc)] h =
 nw (.cells B2 false zZ1) h fun p1 w=>jN ((bn:Int)==24) (bnd (C Au2 [.slice b bn bc] w) fun r w1=>aBool r fun x=>some (x,w1)) w fun c w2=>cond c
 (jW p1 0 zZ1 w2 fun w3=>jA p1 0 16 w3 fun z1=>jT [.agg ⟨z1⟩,iI 0] w3)
 (bnd (C Bm6 [] w2) fun q1 w4=>aPtr q1 fun z2=>bnd (C Ac0 [.pointer z2,.slice b bn bc] w4) fun q2 w5=>as2 q2 fun q3 q4=>aAgg q3 fun z3=>aBool q4 fun z4=>nw (.cells B2 false zZ1) w5 fun p2 w6=>jK 16 p2 0 z3 w6 fun w7=>cond (!z4)
 (jW p1 0 zZ1 w7 fun w8=>jA p1 0 16 w8 fun z5=>jT [.agg ⟨z5⟩,iI 2] w8)
 (jA p2 0 16 w7 fun z6=>jK 16 p1 0 z6 w7 fun w9=>jA p1 0 16 w9 fun z7=>jT [.agg ⟨z7⟩,iI 1] w9)):=kR
def Bd8:Cuts:=⟨2,[(4,[1,3,4])],[],[]⟩
def B20:List Item:=A8 Tryz.f42
def Ax4:List Item:=stk [0,1,0,1,0,1,0,0,1,4,5] B20
theorem Gw5 :
 xQ Bd8 C R W5 Tryz.f42 B20 [(0,.agg ⟨p⟩)] h =
 nw (.cells E6 false p) h fun b w=>jI b 0 w fun x=>jI b 1 w fun z1=>jI b 2 w fun z2=>jI b 3 w fun z3=>nw (.cells A9 false [.int .u8 1,.int .u8 (wrap .u8 (x)),.int .u8 (wrap .u8 (z1)),.int .u8 (wrap .u8 (z2)),.int .u8 (wrap .u8 (z3)),.int .u8 197]) w fun p1 w1=>gCells (some ⟨p1,0,none⟩) 6 w1 fun cs=>asBytes cs fun l=>bnd (C Am7 [.string (ByteArray.mk ⟨l⟩)] w1) fun r w2=>aInt .u8 r fun z4=>nw (.cells A9 false [.int .u8 z4,.int .u8 0]) w2 fun p2 w3=>gCells (some ⟨p2,0,none⟩) 2 w3 fun cs_1=>asBytes cs_1 fun l_1=>ck (ByteArray.size (ByteArray.mk ⟨l⟩)+ByteArray.size (ByteArray.mk ⟨l_1⟩)≤B3) (R W5 Ax4 [(1,pP b),(3,.string ((ByteArray.mk ⟨l⟩)++(ByteArray.mk ⟨l_1⟩))),(4,iI 0)] w3):=kR
theorem Dg6 (p:Addr) (s:ByteArray) :
 xQ Bd8 C R W5 Tryz.f42 Ax4 [(1,.pointer (some p)),(3,.string s),(4,iI i)] h =
 cond (decide (i<32))
 (ck ((0:Int)≤i∧i<((32:Nat):Int)) (gInt .u8 (add (add p 4) (Int.toNat i*1)) h fun x=>nw (.cells A9 false [.int .u8 x]) h fun b w=>gCells (some ⟨b,0,none⟩) 1 w fun cs=>asBytes cs fun l=>ck (ByteArray.size s+ByteArray.size (ByteArray.mk ⟨l⟩)≤B3) (R W5 Ax4 [(1,.pointer (some p)),(3,.string (s++(ByteArray.mk ⟨l⟩))),(4,iI (wrap .i64 (i+1)))] w)))
 (some (.string s,h)):=kR
def Ds4:Cuts:=⟨2,[],[],[]⟩
def Ey8:List Item:=A8 Tryz.f43
theorem Hk2 (c:List Value) :
 xQ Ds4 C R N7 Tryz.f43 Ey8 [(0,.pointer k),(1,iI env),(2,.agg ⟨c⟩)] h =
 nw (.cells A97 false c) h fun b w=>nw (.cells Ee3 false [iI 0,iI 0,sN]) w fun p1 w1=>jO (decide (env<0)) w1 (aSome k fun p=>gSl (add p 0) w1 fun _ xn _=>some (decide (env≥(xn:Int)),w1)) fun c_1 w2=>cond c_1
 (jW p1 0 [iI 1,iI 0,sN] w2 fun w3=>jA p1 0 3 w3 fun z1=>jG z1 w3)
 (jA b 0 7 w2 fun z2=>bnd (C Bd9 [.pointer k,iI env,.agg ⟨z2⟩] w2) fun r w4=>as3 r fun q1 q2 q3=>aSl q1 fun z3 xn_1 xc_1=>aI q2 fun z4=>aBool q3 fun z5=>cond z5
 (jW p1 0 [iI z4,iI 0,.slice z3 xn_1 xc_1] w4 fun w5=>jA p1 0 3 w5 fun z6=>jG z6 w5)
 (jA b 0 7 w4 fun z7=>bnd (C A88 [.pointer k,iI env,.agg ⟨z7⟩] w4) fun q4 w6=>as2 q4 fun q5 q6=>aI q5 fun z8=>aI q6 fun z9=>jW p1 0 [iI z9,iI z8,sN] w6 fun w7=>jA p1 0 3 w7 fun z10=>jG z10 w7)):=kR
def Dz2:Cuts:=⟨2,[],[],[(1,⟨[0,1,2,3,4,5,6,7],[0,1,0,4,15,12,63,127],[(3,[1]),(5,[1])],[]⟩)]⟩
def Gc2:List Item:=A8 Tryz.f45
theorem Hw0 :
 xQ Dz2 C R Bn1 Tryz.f45 Gc2 [] h =
 ck ((0:Int)≤448∧(448:Int)≤448∧448≤(B3:Int)) (nw (.cells A9 false (G9 (Int.toNat 448) [.int .u8 0])) h fun b w=>gCells (some ⟨b,0,none⟩) (Int.toNat 448) w fun cs=>asBytes cs fun l=>bnd (C W5 [.agg ⟨[iI 0,iI 0,iI 1,iI 1,.int .u8 0,.int .u8 0,.int .u8 0,.int .u8 0,.int .u8 0,.int .u8 0,.int .u8 0,.int .u8 0,.int .u8 0,.int .u8 0,.int .u8 0,.int .u8 0,.int .u8 0,.int .u8 0,.int .u8 0,.int .u8 0,.int .u8 0,.int .u8 0,.int .u8 0,.int .u8 0,.int .u8 0,.int .u8 0,.int .u8 0,.int .u8 0,.int .u8 0,.int .u8 0,.int .u8 0,.int .u8 0,.int .u8 0,.int .u8 0,.int .u8 0,.int .u8 0]⟩] w) fun r w1=>aStr r fun x=>gCells (some ⟨b,0,none⟩) (Int.toNat 448) w1 fun cs_1=>asBytes cs_1 fun l_1=>same (.string (ByteArray.mk ⟨l⟩)) (.string (ByteArray.mk ⟨l_1⟩)) (ck (ByteArray.size (ByteArray.mk ⟨l⟩)+ByteArray.size x≤B3) (bnd (C Ba3 [iI 0] w1) fun q1 w2=>aStr q1 fun z1=>gCells (some ⟨b,0,none⟩) (Int.toNat 448) w2 fun cs_2=>asBytes cs_2 fun l_2=>same (.string (ByteArray.mk ⟨l⟩)) (.string (ByteArray.mk ⟨l_2⟩)) (ck (ByteArray.size ((ByteArray.mk ⟨l⟩)++x)+ByteArray.size z1≤B3) (some (.string (((ByteArray.mk ⟨l⟩)++x)++z1),w2)))))):=kR
def Bu8:Cuts:=⟨2,[],[],[]⟩
def Dy8:List Item:=A8 Tryz.f49
theorem Gp1 :
 xQ Bu8 C R At1 Tryz.f49 Dy8 [(0,.pointer k),(1,iI env)] h =
 aSome k fun p=>gPtr (add p 6) h fun x=>aSome x fun p_1=>gPtr (add p_1 3) h fun z1=>bnd (C Bj0 [.pointer z1,iI env] h) fun r w=>aSl r fun z2 xn xc=>cond ((xn:Int)==0)
 (some (.pointer none,w))
 (nw (.cells Eo2 false [.pointer k,iI env,.slice z2 xn xc,sN]) w fun b w1=>some (pP b,w1)):=kR
def E26:Cuts:=⟨2,[],[],[]⟩
def Ha2:List Item:=A8 Tryz.f58
theorem Bk3 (s:List Value) :
 xQ E26 C R D63 Tryz.f58 Ha2 [(0,.pointer c),(1,iI i),(2,.agg ⟨s⟩)] h =
 nw (.cells Dd1 false s) h fun b w=>nw (.cells P3 false [iI 0,iI 0,sN,.bool false]) w fun p1 w1=>bnd (C D1 [.pointer c] w1) fun r w2=>as0 r (jA b 0 4 w2 fun x=>bnd (C Bm9 [.pointer c,iI i,.agg ⟨x⟩] w2) fun q1 w3=>as2 q1 fun q2 q3=>aAgg q2 fun z1=>aBool q3 fun z2=>nw (.cells P3 false [iI 0,iI 0,sN,.bool false]) w3 fun p2 w4=>jK 4 p2 0 z1 w4 fun w5=>cond z2
 (jA p2 0 4 w5 fun z3=>jK 4 p1 0 z3 w5 fun w6=>jA p1 0 4 w6 fun z4=>jG z4 w6)
 (jI b 0 w5 fun z5=>cond (z5==2)
 (bnd (C Du1 [.pointer c,iI i] w5) fun q4 w7=>aAgg q4 fun z6=>jK 4 p1 0 z6 w7 fun w8=>jA p1 0 4 w8 fun z7=>jG z7 w8)
 (cond (z5==3)
 (jI b 1 w5 fun z8=>bnd (C B51 [.pointer c,iI i,iI z8] w5) fun q5 w9=>aAgg q5 fun z9=>jK 4 p1 0 z9 w9 fun w10=>jA p1 0 4 w10 fun z10=>jG z10 w10)
 (cond (z5==4)
 (bnd (C Az8 [.pointer c,iI i] w5) fun q6 w11=>aAgg q6 fun z11=>jK 4 p1 0 z11 w11 fun w12=>jA p1 0 4 w12 fun z12=>jG z12 w12)
 (cond (z5==5)
 (jI b 1 w5 fun z13=>jI b 2 w5 fun z14=>bnd (C A04 [.pointer c,iI i,iI z13,iI z14] w5) fun q7 w13=>aAgg q7 fun z15=>jK 4 p1 0 z15 w13 fun w14=>jA p1 0 4 w14 fun z16=>jG z16 w14)
 (cond (z5==8)
 (jI b 1 w5 fun z17=>jI b 2 w5 fun z18=>bnd (C Ig6 [.pointer c,iI i,iI z17,iI z18] w5) fun q8 w15=>aAgg q8 fun z19=>jK 4 p1 0 z19 w15 fun w16=>jA p1 0 4 w16 fun z20=>jG z20 w16)
 (cond (z5==1)
 (cond (z5==1)
 (jA b 0 4 w5 fun z21=>bnd (C W9 [.pointer c,iI i,.agg ⟨z21⟩] w5) fun q9 w17=>aAgg q9 fun z22=>jK 4 p1 0 z22 w17 fun w18=>jA p1 0 4 w18 fun z23=>jG z23 w18)
 (bnd (C A35 [iI 122] w5) fun q10 w19=>aAgg q10 fun z24=>jK 4 p1 0 z24 w19 fun w20=>jA p1 0 4 w20 fun z25=>jG z25 w20))
 (cond (z5==17)
 (cond (z5==17)
 (jA b 0 4 w5 fun z26=>bnd (C W9 [.pointer c,iI i,.agg ⟨z26⟩] w5) fun q11 w21=>aAgg q11 fun z27=>jK 4 p1 0 z27 w21 fun w22=>jA p1 0 4 w22 fun z28=>jG z28 w22)
 (bnd (C A35 [iI 122] w5) fun q12 w23=>aAgg q12 fun z29=>jK 4 p1 0 z29 w23 fun w24=>jA p1 0 4 w24 fun z30=>jG z30 w24))
 (cond (z5==18)
 (cond (z5==18)
 (jA b 0 4 w5 fun z31=>bnd (C W9 [.pointer c,iI i,.agg ⟨z31⟩] w5) fun q13 w25=>aAgg q13 fun z32=>jK 4 p1 0 z32 w25 fun w26=>jA p1 0 4 w26 fun z33=>jG z33 w26)
 (bnd (C A35 [iI 122] w5) fun q14 w27=>aAgg q14 fun z34=>jK 4 p1 0 z34 w27 fun w28=>jA p1 0 4 w28 fun z35=>jG z35 w28))
 (cond (z5==6)
 (cond (z5==6)
 (jA b 0 4 w5 fun z36=>bnd (C W9 [.pointer c,iI i,.agg ⟨z36⟩] w5) fun q15 w29=>aAgg q15 fun z37=>jK 4 p1 0 z37 w29 fun w30=>jA p1 0 4 w30 fun z38=>jG z38 w30)
 (bnd (C A35 [iI 122] w5) fun q16 w31=>aAgg q16 fun z39=>jK 4 p1 0 z39 w31 fun w32=>jA p1 0 4 w32 fun z40=>jG z40 w32))
 (cond (z5==7)
 (jA b 0 4 w5 fun z41=>bnd (C W9 [.pointer c,iI i,.agg ⟨z41⟩] w5) fun q17 w33=>aAgg q17 fun z42=>jK 4 p1 0 z42 w33 fun w34=>jA p1 0 4 w34 fun z43=>jG z43 w34)
 (bnd (C A35 [iI 122] w5) fun q18 w35=>aAgg q18 fun z44=>jK 4 p1 0 z44 w35 fun w36=>jA p1 0 4 w36 fun z45=>jG z45 w36)))))))))))):=kR
def Ec0:Cuts:=⟨2,[],[],[]⟩
def Gm4:List Item:=A8 Tryz.f63
theorem H23 (s:List Value) :
 xQ Ec0 C R Dh3 Tryz.f63 Gm4 [(0,.pointer c),(1,iI i),(2,.agg ⟨s⟩)] h =
 nw (.cells Dd1 false s) h fun b w=>bnd (C D1 [.pointer c] w) fun r w1=>as0 r (nw (.cells Q9 false [iI 6,iI 0,iI 0]) w1 fun p1 w2=>jI b 0 w2 fun x=>cond (x != 10)
 (some (.slice (some ⟨p1,0,none⟩) 1 1,w2))
 (jI b 1 w2 fun z1=>bnd (C Eb9 [.pointer c,iI i,iI z1] w2) fun q1 w3=>as3 q1 fun q2 q3 q4=>aI q2 fun _=>aAgg q3 fun z3=>aI q4 fun z4=>nw (.cells D9 false [iI 0,iI 0,iI 0,iI 0]) w3 fun p2 w4=>jK 4 p2 0 z3 w4 fun w5=>jN (z4==0) (jI p2 0 w5 fun z5=>some (z5==3,w5)) w5 fun c_1 w6=>cond c_1
 (bnd (C De8 [iI 450,iI 255] w6) fun q5 w7=>aSl q5 fun z6 xn xc=>some (.slice z6 xn xc,w7))
 (jO (z4 != 0) w6 (jI p2 0 w6 fun z7=>some (z7 != 1,w6)) fun c_2 w8=>jO c_2 w8 (jI p2 1 w8 fun z8=>some (decide (z8≥4),w8)) fun c_3 w9=>cond c_3
 (some (.slice (some ⟨p1,0,none⟩) 1 1,w9))
 (jI p2 1 w9 fun z9=>bnd (C De8 [iI (wrap .i64 ((wrap .i64 (288+(wrap .i64 (40*z9))))+2)),iI 255] w9) fun q6 w10=>aSl q6 fun z10 xn_1 xc_1=>nw (.cells Q9 false [iI 1,iI (wrap .i64 ((wrap .i64 (288+(wrap .i64 (40*z9))))+4)),iI 0,iI 5,iI 1,iI 0,iI 6,iI 0,iI 0]) w10 fun p3 w11=>bnd (C B63 [.slice z10 xn_1 xc_1,.slice (some ⟨p3,0,none⟩) 3 3] w11) fun q7 w12=>as2 q7 fun q8 q9=>aSl q8 fun z11 xn_2 xc_2=>aBool q9 fun _=>some (.slice z11 xn_2 xc_2,w12))))):=kR
def B17:Cuts:=⟨2,[],[],[]⟩
def D43:List Item:=A8 Tryz.f67
theorem Gx2 :
 xQ B17 C R Aw0 Tryz.f67 D43 [(0,.pointer k)] h =
 aSome k fun p=>gPtr (add p 3) h fun x=>some (.pointer x,h):=kR
def Ba9:Cuts:=⟨2,[],[],[(2,⟨[0,1,2,3,4,5,6,7,8,9,10],[0,1,3,7,15,31,63,7,255,511,1023],[],[]⟩),(4,⟨[0,1,2,3,4,5,6,7,8,9,10,11,12,13,14,16,15,17],[0,1,3,7,0,16,48,112,0,256,0,1024,0,4096,16128,32767,0,131071],[],[]⟩),(6,⟨[0,1,2,3,4,5,6,7,8,9],[0,1,3,7,0,31,63,31,159,511],[(7,[5])],[]⟩)]⟩
def B34:List Item:=A8 Tryz.f69
theorem Es1 :
 xQ Ba9 C R U6 Tryz.f69 B34 [(0,.pointer c),(1,.agg ⟨r⟩)] h =
 nw (.cells E9 false r) h fun b w=>jA b 0 2 w fun x=>bnd (C Y5 [.pointer c,.agg ⟨x⟩] w) fun q1 w1=>as2 q1 fun q2 q3=>aAgg q2 fun z1=>aBool q3 fun z2=>nw (.cells Bt0 false [iI 0,iI 0,iI 0]) w1 fun p1 w2=>jK 3 p1 0 z1 w2 fun w3=>jO (!z2) w3 (aSome c fun p=>gMap (add p 3) w3 fun z3=>jA b 0 2 w3 fun z4=>keyN PR E9 (.agg ⟨z4⟩) (opt z3 fun q4=>mapAt w3 q4 fun es _=>opt (At5 (iI 0) (.agg ⟨z4⟩) es) fun f=>aI f.1 fun z5=>some (decide (z5>0),w3))) fun c_1 w4=>cond c_1
 (jT [sN,.bool false] w4)
 (aSome c fun p_1=>gPtr (add p_1 0) w4 fun z6=>aSome c fun p_2=>gInt .i64 (add p_2 1) w4 fun z7=>jI p1 0 w4 fun z8=>jI p1 1 w4 fun z9=>jI p1 2 w4 fun z10=>nw (.cells Ee3 false [iI 0,iI 0,sN]) w4 fun p2 w5=>bnd (C N7 [.pointer z6,iI z7,.agg ⟨[iI 1,iI z8,iI z9,iI z10,iI 0,iI 0,sN]⟩] w5) fun q5 w6=>aAgg q5 fun z11=>jK 3 p2 0 z11 w6 fun w7=>jI p2 0 w7 fun z12=>cond (z12 != 0)
 (aSome c fun p_3=>gMap (add p_3 3) w7 fun z13=>jA b 0 2 w7 fun z14=>keyN PR E9 (.agg ⟨z14⟩) (opt z13 fun q6=>mapAt w7 q6 fun es_1 _=>opt (At5 (iI 0) (.agg ⟨z14⟩) es_1) fun f_1=>aI f_1.1 fun z15=>keyN PR E9 (.agg ⟨z14⟩) (opt z13 fun q7=>mapAt w7 q7 fun es_2 cl_2=>opt (Ep6 (iI 0) (.agg ⟨z14⟩) es_2 cl_2) fun f_2=>aI f_2.1 fun _=>lt (H.set w7 q7 f_2.2.2) fun w8=>keyN PR E9 (.agg ⟨z14⟩) (opt z13 fun q8=>mapAt w8 q8 fun es_3 _=>opt (At5 (iI 0) (.agg ⟨z14⟩) es_3) fun f_3=>aI f_3.1 fun z17=>same (iI z15) (iI z17) (opt z13 fun q9=>mapAt w8 q9 fun es_4 cl_4=>opt (By4 (f_2.2.1:Int) es_4 0) fun i=>lt (H.set w8 q9 (.map (modN (fun e=>{ e with val:=iI (wrap .i64 (z15+1)) }) i es_4) cl_4)) fun w9=>jT [sN,.bool false] w9)))))
 (jS p2 2 w7 fun z18 xn xc=>jT [.slice z18 xn xc,.bool true] w7)):=kR
def Ao0:Cuts:=⟨2,[],[],[(4,⟨[0,1,2,3,4,10,5,6,7,8,9,11,12],[0,1,3,7,0,16,63,127,255,255,0,1535,4095],[(5,[3])],[]⟩)]⟩
def Bc7:List Item:=A8 Tryz.f72
theorem Dn3 :
 xQ Ao0 C R Ac0 Tryz.f72 Bc7 [(0,.pointer c),(1,.slice b bn bc)] h =
 nw (.cells B2 false zZ1) h fun p1 w=>nw (.cells B2 false zZ1) w fun p2 w1=>aSome c fun p=>gFv (add p 2) w1 fun x=>isNilF x fun p3=>jO p3 w1 (aSome c fun p_1=>gInt .i64 (add p_1 0) w1 fun z1=>some ((bn:Int) != z1,w1)) fun c_1 w2=>cond c_1
 (jA p2 0 16 w2 fun z2=>jK 16 p1 0 z2 w2 fun w3=>jA p1 0 16 w3 fun z3=>jT [.agg ⟨z3⟩,.bool false] w3)
 (aSome c fun p_2=>gFv (add p_2 2) w2 fun z4=>nw (.cells B2 false zZ1) w2 fun p4 w4=>bnd (C I1 [.slice b bn bc] w4) fun r w5=>aSl r fun z5 xn xc=>gFv (add p_2 2) w5 fun z6=>B00 (z4) (z6) (aFn z4 fun g fi cp=>bnd (C g (fi++([.slice z5 xn xc]++cp)) w5) fun q1 w6=>as2 q1 fun q2 q3=>aAgg q2 fun z7=>aBool q3 fun z8=>jK 16 p4 0 z7 w6 fun w7=>cond (!z8)
 (jA p2 0 16 w7 fun z9=>jK 16 p1 0 z9 w7 fun w8=>jA p1 0 16 w8 fun z10=>jT [.agg ⟨z10⟩,.bool false] w8)
 (jA p4 0 16 w7 fun z11=>jK 16 p1 0 z11 w7 fun w9=>jA p1 0 16 w9 fun z12=>jT [.agg ⟨z12⟩,.bool true] w9))):=kR
def Bk5:Cuts:=⟨2,[(5,[1,4,20,21,22]),(12,[1,7,58,59,60]),(18,[7,89,90,91]),(22,[7,11,12,89,90,91,122,123,124])],[],[(9,⟨[0,1,3,5,6,7,9,10,2,4,8,11,12,13,14],[0,1,3,0,15,0,32,96,255,0,512,2047,4095,8191,16383],[(2,[6,10]),(4,[6,10]),(8,[10])],[]⟩),(10,⟨[0,1,2,3,4,5,6,7,8,9,10,11,12],[0,0,2,6,14,0,32,96,224,510,1023,2047,4095],[],[]⟩),(14,⟨[0,1,2,3,4,5,6,7,8,9,10,11],[0,0,2,6,14,0,32,96,254,511,1023,2047],[(6,[4])],[]⟩),(15,⟨[0,1,2,3,4,5,6,7,8,9,10,11,12],[0,0,2,6,14,0,32,96,224,510,1023,2047,4095],[(7,[4])],[]⟩),(20,⟨[0,1,2,3,4,5,6,7,8,9,11,12,15,16,18,19,10,13,14,17,20,21,22,23,24,25],[0,1,3,7,0,16,48,112,0,256,1008,0,2048,8176,16368,0,32768,131056,0,262144,1048575,2097151,4194303,4194303,8388607,33554431],[(10,[3,12,16,19])],[]⟩),(25,⟨[0,1,2,3,4,5,6,7,8,9],[0,1,3,7,0,0,0,64,224,511],[],[]⟩)]⟩
def By6:List Item:=A8 Tryz.f74
def B73:List Item:=stk [0,1,0,1,0,1,0,0,1,4,5] By6
def B68:List Item:=stk [0,1,0,1,0,1,0,1,0,1,0,1,0,0,1,4,5] By6
def Bm8:List Item:=stk [0,1,0,1,0,1,0,1,0,1,0,1,0,1,0,0,1,4,5] By6
def Bp2:List Item:=stk [0,1,0,1,0,1,0,1,0,1,0,1,0,1,0,0,1,4,5,6,0,1,0,1,0,4,0,1,0,1,0,1,4,5] By6
theorem Iw1 (c:List Value) :
 xQ Bk5 C R M8 Tryz.f74 By6 [(0,.agg ⟨c⟩)] h =
 nw (.cells G7 false c) h fun b w=>jA b 0 5 w fun x=>bnd (C Z2 [.agg ⟨x⟩] w) fun r w1=>aBool r fun z1=>cond (!z1)
 (jT [.pointer none,iI 1] w1)
 (jS b 0 w1 fun z2 xn xc=>R M8 B73 [(1,pP b),(4,iI 0),(20,.slice z2 xn xc),(21,iI (xn:Int)),(22,iI 0)] w1):=kR
theorem Gd3 (c:Addr) (all:Int) :
 xQ Bk5 C R M8 Tryz.f74 B73 [(1,.pointer (some c)),(4,iI all),(20,.slice x20 x20n x20c),(21,iI x21),(22,iI x22)] h =
 cond (decide (x22<x21))
 (aSome x20 fun p=>jR x22 x20n (gInt .i64 (add (B4 p) (Int.toNat x22*1)) h fun x=>bnd (C Bo0 [iI x] h) fun r w=>aI r fun z1=>R M8 B73 [(1,.pointer (some c)),(4,iI (wrap .i64 (all+z1))),(20,.slice x20 x20n x20c),(21,iI x21),(22,iI (wrap .i64 (x22+1)))] w))
 (gSl (add c 1) h fun z2 xn xc=>gSl (add c 1) h fun z3 xn_1 xc_1=>gSl (add c 0) h fun z4 xn_2 xc_2=>bnd (C Ac6 [.slice z2 xn xc] h) fun q1 w1=>aSl q1 fun z5 xn_3 xc_3=>gSl (add c 1) w1 fun z6 xn_4 xc_4=>same (.slice z3 xn_1 xc_1) (.slice z6 xn_4 xc_4) (gSl (add c 0) w1 fun z7 xn_5 xc_5=>same (.slice z4 xn_2 xc_2) (.slice z7 xn_5 xc_5) (bnd (C Em4 [iI all] w1) fun q2 w2=>aPtr q2 fun z8=>gSl (add c 1) w2 fun z9 xn_6 xc_6=>same (.slice z3 xn_1 xc_1) (.slice z9 xn_6 xc_6) (gSl (add c 0) w2 fun z10 xn_7 xc_7=>same (.slice z4 xn_2 xc_2) (.slice z10 xn_7 xc_7) (bnd (C A90 [iI (xn_1:Int)] w2) fun q3 w3=>aPtr q3 fun z11=>gSl (add c 0) w3 fun z12 xn_8 xc_8=>same (.slice z4 xn_2 xc_2) (.slice z12 xn_8 xc_8) (bnd (C A05 [.slice z4 xn_2 xc_2] w3) fun q4 w4=>aPtr q4 fun z13=>nw (.cells Eq7 false [.slice z5 xn_3 xc_3,sN,.pointer z8,.pointer z11,.pointer z13,.pointer none,sN,iI 0]) w4 fun b w5=>jP b 2 w5 fun z14=>jP b 3 w5 fun z15=>bnd (C Di0 [.pointer z14,.pointer z15] w5) fun q5 w6=>aPtr q5 fun z16=>jV b 5 (.pointer z16) w6 fun w7=>gSl (add c 2) w7 fun z17 xn_9 xc_9=>R M8 B68 [(1,.pointer (some c)),(7,pP b),(58,.slice z17 xn_9 xc_9),(59,iI (xn_9:Int)),(60,iI 0)] w7)))))):=kR
theorem Gb1 (c:Addr) (k:Addr) (x58:Option Addr) (x58n x58c:Nat) (x60:Int) :
 xQ Bk5 C R M8 Tryz.f74 B68 [(1,.pointer (some c)),(7,.pointer (some k)),(58,.slice x58 x58n x58c),(59,iI x59),(60,iI x60)] h =
 cond (decide (x60<x59))
 (aSome x58 fun p=>jR x60 x58n (gSl (add (B4 p) (Int.toNat x60*1)) h fun x xn xc=>gSl (add k 1) h fun z1 xn_1 xc_1=>bnd (C Ac6 [.slice x xn xc] h) fun r w=>aSl r fun z2 xn_2 xc_2=>gSl (add k 1) w fun z3 xn_3 xc_3=>same (.slice z1 xn_1 xc_1) (.slice z3 xn_3 xc_3) (nw (.cells Y4 false [.slice z2 xn_2 xc_2]) w fun b w1=>gCells (some ⟨b,0,none⟩) (1*1) w1 fun cs=>ckB (fitsOpen z1 Y4 w1) (apd Y4 1 z1 xn_1 xc_1 1 cs w1 fun a an ac w2=>pV (add k 1) (.slice a an ac) w2 fun w3=>gSl (add k 6) w3 fun z4 xn_4 xc_4=>gInt .i64 (add c 3) w3 fun z5=>bnd (C D69 [iI z5] w3) fun q1 w4=>aPtr q1 fun z6=>gSl (add k 6) w4 fun z7 xn_5 xc_5=>same (.slice z4 xn_4 xc_4) (.slice z7 xn_5 xc_5) (nw (.cells A62 false [.pointer z6]) w4 fun p1 w5=>gCells (some ⟨p1,0,none⟩) (1*1) w5 fun cs_1=>ckB (fitsOpen z4 A62 w5) (apd A62 1 z4 xn_4 xc_4 1 cs_1 w5 fun a_1 an_1 ac_1 w6=>pV (add k 6) (.slice a_1 an_1 ac_1) w6 fun w7=>R M8 B68 [(1,.pointer (some c)),(7,.pointer (some k)),(58,.slice x58 x58n x58c),(59,iI x59),(60,iI (wrap .i64 (x60+1)))] w7))))))
 (gSl (add c 4) h fun z8 xn_6 xc_6=>R M8 Bm8 [(7,.pointer (some k)),(89,.slice z8 xn_6 xc_6),(90,iI (xn_6:Int)),(91,iI 0)] h):=kR
theorem Gd0 (k:Addr) :
 xQ Bk5 C R M8 Tryz.f74 Bm8 [(7,.pointer (some k)),(89,.slice x89 x89n x89c),(90,iI x90),(91,iI x91)] h =
 cond (decide (x91<x90))
 (aSome x89 fun p=>jR x91 x89n (gAgg (add (B4 p) (Int.toNat x91*5)) 5 h fun x=>nw (.cells O3 false [iI 0,iI 0,iI 0,iI 0,sN]) h fun b w=>jK 5 b 0 x w fun w1=>gPtr (add k 5) w1 fun z1=>gPtr (add k 4) w1 fun z2=>jI b 0 w1 fun z3=>jI b 1 w1 fun z4=>jI b 2 w1 fun z5=>jI b 3 w1 fun z6=>bnd (C W2 [.pointer z2,iI z3] w1) fun r w2=>aI r fun z7=>gPtr (add k 5) w2 fun z8=>same (.pointer z1) (.pointer z8) (jI b 1 w2 fun z9=>same (iI z4) (iI z9) (jI b 2 w2 fun z10=>same (iI z5) (iI z10) (jI b 3 w2 fun z11=>same (iI z6) (iI z11) (bnd (C Ay6 [.pointer z1,iI (wrap .i64 ((wrap .i64 ((wrap .i64 (z7+z4))*64))+z5)),iI z6] w2) fun q1 w3=>as2 q1 fun q2 q3=>aI q2 fun z12=>aI q3 fun _=>gSl (add k 0) w3 fun z14 xn xc=>R M8 Bp2 [(7,.pointer (some k)),(11,pP b),(12,iI z12),(89,.slice x89 x89n x89c),(90,iI x90),(91,iI x91),(122,.slice z14 xn xc),(123,iI (xn:Int)),(124,iI 0)] w3))))))
 (jT [.pointer (some k),iI 0] h):=kR
theorem Gb0 (k:Addr) (x:Addr) (obj:Int) (x122:Option Addr) (x122n x122c:Nat) (x123:Int) (x124:Int) :
 xQ Bk5 C R M8 Tryz.f74 Bp2 [(7,.pointer (some k)),(11,.pointer (some x)),(12,iI obj),(89,.slice x89 x89n x89c),(90,iI x90),(91,iI x91),(122,.slice x122 x122n x122c),(123,iI x123),(124,iI x124)] h =
 cond (decide (x124<x123))
 (aSome x122 fun p=>jR x124 x122n (gInt .i64 (add (B4 p) (Int.toNat x124*1)) h fun z1=>gSl (add x 4) h fun z2 xn xc=>bnd (C R0 [.slice z2 xn xc,iI z1] h) fun r w=>aBool r fun z3=>cond z3
 (gPtr (add k 3) w fun z4=>gInt .i64 (add x 3) w fun z5=>bnd (C Bl2 [.pointer z4,iI x124,.agg ⟨[iI obj,iI 3,iI 0,iI z5,iI 0,iI 0]⟩] w) fun q1 w1=>as2 q1 fun q2 q3=>aI q2 fun _=>aI q3 fun _=>R M8 Bp2 [(7,.pointer (some k)),(11,.pointer (some x)),(12,iI obj),(89,.slice x89 x89n x89c),(90,iI x90),(91,iI x91),(122,.slice x122 x122n x122c),(123,iI x123),(124,iI (wrap .i64 (x124+1)))] w1)
 (R M8 Bp2 [(7,.pointer (some k)),(11,.pointer (some x)),(12,iI obj),(89,.slice x89 x89n x89c),(90,iI x90),(91,iI x91),(122,.slice x122 x122n x122c),(123,iI x123),(124,iI (wrap .i64 (x124+1)))] w)))
 (R M8 Bm8 [(7,.pointer (some k)),(89,.slice x89 x89n x89c),(90,iI x90),(91,iI (wrap .i64 (x91+1)))] h):=kR
def Bw2:Cuts:=⟨2,[],[],[(3,⟨[0,1,2,3,4,5,6,7,8,9,10,11,12,13,14,15,16,17,18,19],[0,1,3,7,0,0,32,0,128,0,512,0,2048,0,8192,32767,65535,65535,262143,524287],[],[]⟩),(5,⟨[0,1,2,3,4,5,6,7,8,9,10,11],[0,1,3,7,0,0,32,127,255,255,1023,2047],[],[]⟩),(7,⟨[0,1,2,3,4,5,6,7,8,9,10,11,12,13,14,15],[0,1,3,7,0,16,48,112,0,496,1008,2047,4095,4095,16383,32767],[],[]⟩),(9,⟨[0,1,2,3,4,5,6,7,8,9,10,11,12,13,14,15],[0,1,3,7,0,16,48,112,0,496,1008,0,2048,8191,16383,32767],[],[]⟩)]⟩
def Dy6:List Item:=A8 Tryz.f78
theorem Gl1 (c:List Value) :
 xQ Bw2 C R A88 Tryz.f78 Dy6 [(0,.pointer k),(1,iI env),(2,.agg ⟨c⟩)] h =
 nw (.cells A97 false c) h fun b w=>jI b 0 w fun x=>cond (x==4)
 (aSome k fun p=>gPtr (add p 3) w fun z1=>jI b 1 w fun z2=>jI b 4 w fun z3=>jI b 5 w fun z4=>jI b 2 w fun z5=>jI b 3 w fun z6=>bnd (C A99 [.pointer z1,iI env,iI z2,iI z3,iI z4,iI z5,iI z6] w) fun r w1=>as2 r fun q1 q2=>aI q1 fun z7=>aI q2 fun z8=>jT [iI z7,iI z8] w1)
 (cond (x==5)
 (aSome k fun p_1=>gPtr (add p_1 3) w fun z9=>jI b 1 w fun z10=>bnd (C Gd6 [.pointer z9,iI env,iI z10] w) fun q3 w2=>as2 q3 fun q4 q5=>aI q4 fun z11=>aI q5 fun z12=>jT [iI z11,iI z12] w2)
 (cond (x==6)
 (aSome k fun p_2=>gPtr (add p_2 4) w fun z13=>aSome k fun p_3=>gSl (add p_3 0) w fun z14 xn _=>aSome z14 fun p_4=>jR env xn (gInt .i64 (add (B4 p_4) (Int.toNat env*1)) w fun z15=>bnd (C A44 [.pointer z13,iI z15] w) fun q6 w3=>as2 q6 fun q7 q8=>aI q7 fun z16=>aI q8 fun z17=>jT [iI z16,iI z17] w3))
 (cond (x==7)
 (aSome k fun p_5=>gPtr (add p_5 4) w fun z18=>aSome k fun p_6=>gSl (add p_6 0) w fun z19 xn_1 _=>aSome z19 fun p_7=>jR env xn_1 (gInt .i64 (add (B4 p_7) (Int.toNat env*1)) w fun z20=>jI b 3 w fun z21=>bnd (C Ba2 [.pointer z18,iI z20,iI z21] w) fun q9 w4=>aI q9 fun z22=>jT [iI 0,iI z22] w4))
 (cond (x==8)
 (jA b 0 7 w fun z23=>bnd (C Be3 [.pointer k,iI env,.agg ⟨z23⟩] w) fun q10 w5=>as2 q10 fun q11 q12=>aI q11 fun z24=>aI q12 fun z25=>jT [iI z24,iI z25] w5)
 (cond (x==9)
 (jA b 0 7 w fun z26=>bnd (C Bd6 [.pointer k,iI env,.agg ⟨z26⟩] w) fun q13 w6=>aI q13 fun z27=>jT [iI 0,iI z27] w6)
 (cond (x==10)
 (aSome k fun p_8=>gInt .i64 (add p_8 7) w fun z28=>jT [iI z28,iI 0] w)
 (jT [iI 0,iI 7] w))))))):=kR
def Bk0:Cuts:=⟨2,[],[],[]⟩
def Dg9:List Item:=A8 Tryz.f80
theorem E51 (r:Option Addr) (b:ByteArray) :
 xQ Bk0 C R Ax7 Tryz.f80 Dg9 [(0,.pointer r),(1,iI e),(2,iI name),(3,iI atv),(4,.string b)] h =
 bnd (C Ax1 [.pointer r,iI e,iI name,iI 2,iI atv,iI ((ByteArray.size b:Nat):Int)] h) fun q1 w=>as2 q1 fun q2 q3=>aI q2 fun x=>aI q3 fun z1=>cond (z1 != 0)
 (some (iI z1,w))
 (aSome r fun p=>gSl (add p 0) w fun z2 xn xc=>ckB (fitsOpen z2 A9 w) (ck ((0:Int)≤x∧x≤(xn:Int)) (pCells (E5 z2 (decide (Int.toNat x<xc)) ((Int.toNat x)*1)) (A0 (List.take (min (ByteArray.size b) (xn-(Int.toNat x))) (ByteArray.data b).toList)) w fun w1=>some (iI 0,w1)))):=kR
def E19:Cuts:=⟨2,[],[],[]⟩
def G94:List Item:=A8 Tryz.f90
theorem Iy7 :
 xQ E19 C R Bi9 Tryz.f90 G94 [(0,iI n)] h =
 nw (.cells A9 false [.int .u8 (wrap .u8 (Int.fdiv n (2 ^ 8))),.int .u8 (wrap .u8 (n))]) h fun b w=>gCells (some ⟨b,0,none⟩) 2 w fun cs=>asBytes cs fun l=>some (.string (ByteArray.mk ⟨l⟩),w):=kR
def Al6:Cuts:=⟨2,[(2,[0,1,7,8])],[],[]⟩
def A26:List Item:=A8 Tryz.f100
def Af6:List Item:=stk [0,1,0,0,1,4,5] A26
theorem Ed5 (v:Int) :
 xQ Al6 C R L8 Tryz.f100 A26 [(0,.slice s sn sc),(1,iI v)] h =
 R L8 Af6 [(0,.slice s sn sc),(1,iI v),(7,iI (sn:Int)),(8,iI 0)] h:=kR
theorem Bi3 (v:Int) (x7:Int) (x8:Int) :
 xQ Al6 C R L8 Tryz.f100 Af6 [(0,.slice s sn sc),(1,iI v),(7,iI x7),(8,iI x8)] h =
 cond (decide (x8<x7))
 (aSome s fun p=>jR x8 sn (gInt .i64 (add (B4 p) (Int.toNat x8*1)) h fun x=>cond (v==x)
 (some (iI x8,h))
 (R L8 Af6 [(0,.slice s sn sc),(1,iI v),(7,iI x7),(8,iI (wrap .i64 (x8+1)))] h)))
 (some (iI (-1),h)):=kR
def A34:Cuts:=⟨2,[],[],[]⟩
def Bv9:List Item:=A8 Tryz.f102
theorem Ej0 :
 xQ A34 C R Ac6 Tryz.f102 Bv9 [(0,.slice s sn sc)] h =
 cond s.isNone
 (some (sN,h))
 (nw (.cells B9 false []) h fun b w=>gCells s (sn*1) w fun cs=>ckB (fitsOpen (some ⟨b,0,none⟩) B9 w) (apd B9 1 (some ⟨b,0,none⟩) 0 0 sn cs w fun a an ac w1=>some (.slice a an ac,w1))):=kR
def B22:Cuts:=⟨2,[],[],[(4,⟨[0,1,2,3,4,5,6,7],[0,1,0,4,12,28,60,127],[],[]⟩),(5,⟨[0,1,2,3,4,5,6,7,8,9,10,11,12],[0,0,2,6,14,0,32,126,254,510,1023,2047,4095],[],[]⟩),(9,⟨[0,1,2,3,4,5,6,7,8,9],[0,1,3,7,0,16,63,127,255,511],[],[]⟩),(11,⟨[0,1,2,3,4,5,6,7,8,9,10,11],[0,0,2,6,14,0,32,126,254,511,1023,2047],[],[]⟩)]⟩
def D31:List Item:=A8 Tryz.f112
theorem Gw3 (i:List Value) :
 xQ B22 C R Be1 Tryz.f112 D31 [(0,.pointer m),(1,.agg ⟨i⟩)] h =
 nw (.cells Q9 false i) h fun b w=>jI b 0 w fun x=>cond (x==1)
 (aSome m fun p=>pV (add p 0) (iI 0) w fun w1=>jI b 1 w1 fun z1=>aSome m fun p_1=>gSl (add p_1 1) w1 fun _ xn _=>cond (decide (z1<(xn:Int)))
 (aSome m fun p_2=>gSl (add p_2 1) w1 fun z3 xn_1 _=>jI b 1 w1 fun z4=>aSome z3 fun p_3=>jR z4 xn_1 (gInt .u8 (add (B4 p_3) (Int.toNat z4*1)) w1 fun z5=>aSome m fun p_4=>pV (add p_4 0) (iI (wrap .i64 (z5))) w1 fun w2=>some (iI 0,w2)))
 (some (iI 0,w1)))
 (cond (x==2)
 (aSome m fun p_5=>gInt .i64 (add p_5 2) w fun z6=>aSome m fun p_6=>pV (add p_6 0) (iI z6) w fun w3=>some (iI 0,w3))
 (cond (x==3)
 (aSome m fun p_7=>gInt .i64 (add p_7 0) w fun z7=>jI b 1 w fun z8=>aSome m fun p_8=>pV (add p_8 0) (iI (D5 .i64 z7 z8)) w fun w4=>some (iI 0,w4))
 (cond (x==4)
 (aSome m fun p_9=>gInt .i64 (add p_9 0) w fun z9=>jI b 1 w fun z10=>bnd (C Dh5 [.bool (decide (z9<z10))] w) fun r w5=>aI r fun z11=>aSome m fun p_10=>pV (add p_10 0) (iI z11) w5 fun w6=>some (iI 0,w6))
 (cond (x==7)
 (aSome m fun p_11=>gInt .i64 (add p_11 0) w fun z12=>bnd (C Dh5 [.bool (z12==0)] w) fun q1 w7=>aI q1 fun z13=>aSome m fun p_12=>pV (add p_12 0) (iI z13) w7 fun w8=>some (iI 0,w8))
 (cond (x==5)
 (aSome m fun p_13=>gInt .i64 (add p_13 0) w fun z14=>cond (z14 != 0)
 (jI b 1 w fun z15=>some (iI z15,w))
 (some (iI 0,w)))
 (some (iI 0,w))))))):=kR
def E73:Cuts:=⟨2,[],[],[]⟩
def Hd2:List Item:=A8 Tryz.f114
theorem I51 (mask:Int) :
 xQ E73 C R De8 Tryz.f114 Hd2 [(0,iI atv),(1,iI mask)] h =
 bnd (C Dv5 [iI atv] h) fun r w=>aBool r fun x=>jO (!x) w (bnd (C Dv5 [iI mask] w) fun q1 w1=>aBool q1 fun z1=>some (!z1,w1)) fun c w2=>cond c
 (some (sN,w2))
 (nw (.cells Q9 false [iI 1,iI atv,iI 0,iI 3,iI mask,iI 0,iI 7,iI 0,iI 0,iI 5,iI 1,iI 0,iI 6,iI 0,iI 0]) w2 fun b w3=>some (.slice (some ⟨b,0,none⟩) 5 5,w3)):=kR
def D24:Cuts:=⟨2,[],[],[]⟩
def Gc7:List Item:=A8 Tryz.f115
theorem Hy5 (a:Option Addr) (an ac:Nat) :
 xQ D24 C R B63 Tryz.f115 Gc7 [(0,.slice a an ac),(1,.slice b bn bc)] h =
 nw (.cells Gy6 false [.slice a an ac,.slice b bn bc]) h fun p1 w=>bnd (C D7 [.slice (some ⟨p1,0,none⟩) 2 2] w) fun r w1=>aSl r fun x xn xc=>bnd (C Ad4 [.slice a an ac] w1) fun q1 w2=>aI q1 fun z1=>jO (z1 != 0) w2 (bnd (C Ad4 [.slice b bn bc] w2) fun q2 w3=>aI q2 fun z2=>some (z2 != 0,w3)) fun c w4=>jO c w4 (bnd (C Ad4 [.slice x xn xc] w4) fun q3 w5=>aI q3 fun z3=>some (z3 != 0,w5)) fun c_1 w6=>cond c_1
 (jT [sN,.bool false] w6)
 (bnd (C Z8 [.slice x xn xc] w6) fun q4 w7=>aSl q4 fun z4 xn_1 xc_1=>jT [.slice z4 xn_1 xc_1,.bool true] w7):=kR
def Er7:Cuts:=⟨2,[],[],[]⟩
def G15:List Item:=A8 Tryz.f119
theorem Ir2 :
 xQ Er7 C R U4 Tryz.f119 G15 [(0,iI e)] h =
 nw (.cells P3 false [iI 0,iI 0,sN,.bool false]) h fun b w=>jW b 0 [iI 0,iI e,sN,.bool false] w fun w1=>jA b 0 4 w1 fun x=>jG x w1:=kR
def Af8:Cuts:=⟨2,[(3,[0,3,9,10,11])],[],[]⟩
def Ar8:List Item:=A8 Tryz.f125
def U1:List Item:=stk [0,1,0,1,0,0,1,4,5] Ar8
theorem Dw3 :
 xQ Af8 C R I8 Tryz.f125 Ar8 [(0,.pointer t)] h =
 aSome t fun p=>gSl (add p 0) h fun x xn xc=>R I8 U1 [(0,.pointer t),(3,sN),(9,.slice x xn xc),(10,iI (xn:Int)),(11,iI 0)] h:=kR
theorem A78 (x9:Option Addr) (x9n x9c:Nat) (x10:Int) (x11:Int) :
 xQ Af8 C R I8 Tryz.f125 U1 [(0,.pointer t),(3,.slice out outn outc),(9,.slice x9 x9n x9c),(10,iI x10),(11,iI x11)] h =
 cond (decide (x11<x10))
 (aSome x9 fun p=>jR x11 x9n (gAgg (add (B4 p) (Int.toNat x11*8)) 8 h fun x=>nw (.cells At8 false [iI 0,iI 0,iI 0,iI 0,iI 0,iI 0,iI 0,.bool false]) h fun b w=>jK 8 b 0 x w fun w1=>jB b 7 w1 fun z1=>cond z1
 (bnd (C S8 [.pointer t,iI x11] w1) fun r w2=>aI r fun z2=>nw (.cells B9 false [iI z2]) w2 fun p1 w3=>gCells (some ⟨p1,0,none⟩) (1*1) w3 fun cs=>ckB (fitsOpen out B9 w3) (apd B9 1 out outn outc 1 cs w3 fun a an ac w4=>R I8 U1 [(0,.pointer t),(3,.slice a an ac),(9,.slice x9 x9n x9c),(10,iI x10),(11,iI (wrap .i64 (x11+1)))] w4))
 (R I8 U1 [(0,.pointer t),(3,.slice out outn outc),(9,.slice x9 x9n x9c),(10,iI x10),(11,iI (wrap .i64 (x11+1)))] w1)))
 (some (.slice out outn outc,h)):=kR
def A58:Cuts:=⟨2,[],[],[]⟩
def B11:List Item:=A8 Tryz.f126
theorem Ej6 :
 xQ A58 C R Y5 Tryz.f126 B11 [(0,.pointer c),(1,.agg ⟨r⟩)] h =
 nw (.cells E9 false r) h fun b w=>nw (.cells Bt0 false [iI 0,iI 0,iI 0]) w fun p1 w1=>jI b 1 w1 fun x=>jO (decide (x<0)) w1 (jI b 0 w1 fun z1=>bnd (C Ah3 [.pointer c,iI z1] w1) fun q1 w2=>aI q1 fun z2=>some (decide (x≥z2),w2)) fun c_1 w3=>cond c_1
 (jW p1 0 [iI 0,iI 0,iI 0] w3 fun w4=>jA p1 0 3 w4 fun z3=>jT [.agg ⟨z3⟩,.bool false] w4)
 (aSome c fun p=>gSl (add p 2) w3 fun z4 xn _=>aSome z4 fun p_1=>jR 0 xn (gInt .i64 (add (B4 p_1) (Int.toNat 0*1)) w3 fun z5=>jI b 0 w3 fun z6=>cond (z6==1)
 (jW p1 0 [iI z5,iI (wrap .i64 (24*x)),iI 24] w3 fun w5=>jA p1 0 3 w5 fun z7=>jT [.agg ⟨z7⟩,.bool true] w5)
 (jI b 0 w3 fun z8=>cond (z8==2)
 (jW p1 0 [iI z5,iI (wrap .i64 (192+(wrap .i64 (8*x)))),iI 8] w3 fun w6=>jA p1 0 3 w6 fun z9=>jT [.agg ⟨z9⟩,.bool true] w6)
 (jI b 0 w3 fun z10=>jN (z10==3) (some (decide (x<4),w3)) w3 fun c_2 w7=>cond c_2
 (jW p1 0 [iI z5,iI (wrap .i64 (288+(wrap .i64 (40*x)))),iI 40] w7 fun w8=>jA p1 0 3 w8 fun z11=>jT [.agg ⟨z11⟩,.bool true] w8)
 (jI b 0 w7 fun z12=>cond (z12==3)
 (aSome c fun p_2=>gSl (add p_2 2) w7 fun z13 xn_1 _=>aSome z13 fun p_3=>ck ((0:Int)≤wrap .i64 ((wrap .i64 (x-4))+1)∧wrap .i64 ((wrap .i64 (x-4))+1)<(xn_1:Int)) (gInt .i64 (add (B4 p_3) (Int.toNat (wrap .i64 ((wrap .i64 (x-4))+1))*1)) w7 fun z14=>jW p1 0 [iI z14,iI 0,iI 40] w7 fun w9=>jA p1 0 3 w9 fun z15=>jT [.agg ⟨z15⟩,.bool true] w9))
 (jI b 0 w7 fun z16=>cond (z16==4)
 (jW p1 0 [iI z5,iI 448,iI 40] w7 fun w10=>jA p1 0 3 w10 fun z17=>jT [.agg ⟨z17⟩,.bool true] w10)
 (jW p1 0 [iI z5,iI 488,iI 4] w7 fun w11=>jA p1 0 3 w11 fun z18=>jT [.agg ⟨z18⟩,.bool true] w11))))))):=kR
def Bp4:Cuts:=⟨2,[(4,[1,2,22,23,24]),(9,[1,2,43,44,45]),(14,[1,58,59])],[],[]⟩
def B36:List Item:=A8 Tryz.f130
def Dr0:List Item:=stk [0,1,0,1,0,0,1,4,5] B36
def Dp8:List Item:=stk [0,1,0,1,0,1,0,0,1,4,5] B36
def Do5:List Item:=stk [0,1,0,1,0,1,0,1,0,0,1,4,5] B36
theorem Ii3 :
 xQ Bp4 C R U8 Tryz.f130 B36 [(0,.agg ⟨p⟩),(1,.slice b bn bc)] h =
 nw (.cells B2 false p) h fun p1 w=>jA p1 0 16 w fun x=>bnd (C D80 [.agg ⟨x⟩] w) fun r w1=>aBool r fun z1=>cond (!z1)
 (some (.bool false,w1))
 (jI p1 0 w1 fun z2=>jI p1 1 w1 fun z3=>jI p1 2 w1 fun z4=>jI p1 3 w1 fun z5=>nw (.cells B9 false [iI z2,iI z3,iI z4,iI z5]) w1 fun p2 w2=>R U8 Dr0 [(1,.slice b bn bc),(2,pP p1),(22,.slice (some ⟨p2,0,none⟩) 4 4),(23,iI 4),(24,iI 0)] w2):=kR
theorem Bh7 (p:Addr) (x22:Option Addr) (x22n x22c:Nat) (x23:Int) (x24:Int) :
 xQ Bp4 C R U8 Tryz.f130 Dr0 [(1,.slice b bn bc),(2,.pointer (some p)),(22,.slice x22 x22n x22c),(23,iI x23),(24,iI x24)] h =
 cond (decide (x24<x23))
 (aSome x22 fun p_1=>jR x24 x22n (gInt .i64 (add (B4 p_1) (Int.toNat x24*1)) h fun x=>aSome b fun p_2=>jR x24 bn (pV (add (B4 p_2) (Int.toNat x24*1)) (.int .u8 (wrap .u8 (x))) h fun w=>R U8 Dr0 [(1,.slice b bn bc),(2,.pointer (some p)),(22,.slice x22 x22n x22c),(23,iI x23),(24,iI (wrap .i64 (x24+1)))] w)))
 (gInt .i64 (add p 4) h fun z1=>gInt .i64 (add p 5) h fun z2=>gInt .i64 (add p 6) h fun z3=>gInt .i64 (add p 7) h fun z4=>nw (.cells B9 false [iI z1,iI z2,iI z3,iI z4]) h fun p1 w1=>R U8 Dp8 [(1,.slice b bn bc),(2,.pointer (some p)),(43,.slice (some ⟨p1,0,none⟩) 4 4),(44,iI 4),(45,iI 0)] w1):=kR
theorem Bf5 (p:Addr) (x43:Option Addr) (x43n x43c:Nat) (x44:Int) (x45:Int) :
 xQ Bp4 C R U8 Tryz.f130 Dp8 [(1,.slice b bn bc),(2,.pointer (some p)),(43,.slice x43 x43n x43c),(44,iI x44),(45,iI x45)] h =
 cond (decide (x45<x44))
 (aSome x43 fun p_1=>jR x45 x43n (gInt .i64 (add (B4 p_1) (Int.toNat x45*1)) h fun x=>bnd (C Bv1 [.slice b bn bc,iI (wrap .i64 (4+(wrap .i64 (2*x45)))),iI x] h) fun r w=>aBool r fun _=>R U8 Dp8 [(1,.slice b bn bc),(2,.pointer (some p)),(43,.slice x43 x43n x43c),(44,iI x44),(45,iI (wrap .i64 (x45+1)))] w))
 (gAgg (add p 8) 8 h fun z2=>R U8 Do5 [(1,.slice b bn bc),(58,.agg ⟨z2⟩),(59,iI 0)] h):=kR
theorem Ae6 (x58:List Value) :
 xQ Bp4 C R U8 Tryz.f130 Do5 [(1,.slice b bn bc),(58,.agg ⟨x58⟩),(59,iI x59)] h =
 cond (decide (x59<8))
 (ck ((0:Int)≤x59∧x59<((8:Nat):Int)) (nth x58 (Int.toNat x59*1) fun x=>aI x fun z1=>aSome b fun p=>ck ((0:Int)≤wrap .i64 (12+x59)∧wrap .i64 (12+x59)<(bn:Int)) (pV (add (B4 p) (Int.toNat (wrap .i64 (12+x59))*1)) (.int .u8 (wrap .u8 (z1))) h fun w=>R U8 Do5 [(1,.slice b bn bc),(58,.agg ⟨x58⟩),(59,iI (wrap .i64 (x59+1)))] w)))
 (aSome b fun p_1=>jR 20 bn (pV (add (B4 p_1) (Int.toNat 20*1)) (.int .u8 167) h fun w1=>ckB (fitsOpen b A9 w1) (ck ((0:Int)≤21∧21≤(bc:Int)) (bnd (C Ag9 [.slice (E5 b (decide (0<bc)) (0*1)) ((Int.toNat 21)-0) (bc-0)] w1) fun r w2=>aInt .u8 r fun z2=>aSome b fun p_2=>jR 21 bn (pV (add (B4 p_2) (Int.toNat 21*1)) (.int .u8 z2) w2 fun w3=>some (.bool true,w3)))))):=kR
def D25:Cuts:=⟨2,[],[],[]⟩
def Gb3:List Item:=A8 Tryz.f133
theorem Hv7 :
 xQ D25 C R Bo0 Tryz.f133 Gb3 [(0,iI n)] h =
 some (iI (mm2 false (mm2 true n 0) 64),h):=kR
def Dt1:Cuts:=⟨2,[(3,[3,12,13,14])],[],[(5,⟨[0,1,2,3,4,5,6,7,8,9,10,11,12,13],[0,0,2,6,14,0,32,96,224,480,1022,2047,4095,8191],[],[]⟩)]⟩
def Er9:List Item:=A8 Tryz.f136
def By5:List Item:=stk [0,1,0,1,0,0,1,4,5] Er9
theorem Ii9 (frames:Option Addr) (framesn framesc:Nat) :
 xQ Dt1 C R A05 Tryz.f136 Er9 [(0,.slice frames framesn framesc)] h =
 nw (.cells A64 false [sN]) h fun b w=>ckB (fitsOpen frames B9 w) (ck ((0:Int)≤mm2 false (framesn:Int) 4∧mm2 false (framesn:Int) 4≤(framesc:Int)) (R A05 By5 [(3,pP b),(12,.slice (E5 frames (decide (0<framesc)) (0*1)) ((Int.toNat (mm2 false (framesn:Int) 4))-0) (framesc-0)),(13,iI (((Int.toNat (mm2 false (framesn:Int) 4))-0:Nat):Int)),(14,iI 0)] w)):=kR
theorem E02 (x12:Option Addr) (x12n x12c:Nat) (x14:Int) :
 xQ Dt1 C R A05 Tryz.f136 By5 [(3,.pointer (some q)),(12,.slice x12 x12n x12c),(13,iI x13),(14,iI x14)] h =
 cond (decide (x14<x13))
 (aSome x12 fun p=>jR x14 x12n (gInt .i64 (add (B4 p) (Int.toNat x14*1)) h fun x=>gSl (add q 0) h fun z1 xn xc=>ck ((0:Int)≤mm2 false (mm2 true x 0) 64∧(mm2 false (mm2 true x 0) 64:Int)≤mm2 false (mm2 true x 0) 64∧mm2 false (mm2 true x 0) 64≤(B3:Int)) (nw (.cells B9 false (G9 (Int.toNat (mm2 false (mm2 true x 0) 64)) [iI 0])) h fun b w=>nw (.cells Y4 false [.slice (some ⟨b,0,none⟩) (Int.toNat (mm2 false (mm2 true x 0) 64)) (Int.toNat (mm2 false (mm2 true x 0) 64))]) w fun p1 w1=>gCells (some ⟨p1,0,none⟩) (1*1) w1 fun cs=>ckB (fitsOpen z1 Y4 w1) (apd Y4 1 z1 xn xc 1 cs w1 fun a an ac w2=>pV (add q 0) (.slice a an ac) w2 fun w3=>R A05 By5 [(3,.pointer (some q)),(12,.slice x12 x12n x12c),(13,iI x13),(14,iI (wrap .i64 (x14+1)))] w3))))
 (some (.pointer (some q),h)):=kR
def Eh6:Cuts:=⟨2,[],[],[]⟩
def Gf7:List Item:=A8 Tryz.f137
theorem Ic5 :
 xQ Eh6 C R Di0 Tryz.f137 Gf7 [(0,.pointer m),(1,.pointer s)] h =
 nw (.cells Ee9 false [.pointer m,.pointer s,sN]) h fun b w=>some (pP b,w):=kR
def A46:Cuts:=⟨2,[(3,[5,20,21,22])],[],[(2,⟨[0,1,2,3,4,5,6,7,8,9,10,11,12,13,14],[0,1,3,7,0,16,0,64,192,448,960,2032,4095,8191,0],[],[]⟩)]⟩
def Bq8:List Item:=A8 Tryz.f140
def Aq6:List Item:=stk [0,1,0,1,0,0,1,4,5] Bq8
theorem Gd8 (q:Option Addr) (s:Int) :
 xQ A46 C R W2 Tryz.f140 Bq8 [(0,.pointer q),(1,iI s)] h =
 aSome q fun p=>gSl (add p 0) h fun x _ xc=>aSome q fun p_1=>gSl (add p_1 0) h fun _ xn_1 _=>ckB (fitsOpen x Y4 h) (ck ((0:Int)≤mm2 false (mm2 true s 0) (xn_1:Int)∧mm2 false (mm2 true s 0) (xn_1:Int)≤(xc:Int)) (R W2 Aq6 [(5,iI 0),(20,.slice (E5 x (decide (0<xc)) (0*1)) ((Int.toNat (mm2 false (mm2 true s 0) (xn_1:Int)))-0) (xc-0)),(21,iI (((Int.toNat (mm2 false (mm2 true s 0) (xn_1:Int)))-0:Nat):Int)),(22,iI 0)] h)):=kR
theorem B60 :
 xQ A46 C R W2 Tryz.f140 Aq6 [(5,iI n),(20,.slice x20 x20n x20c),(21,iI x21),(22,iI x22)] h =
 cond (decide (x22<x21))
 (aSome x20 fun p=>jR x22 x20n (gSl (add (B4 p) (Int.toNat x22*1)) h fun _ xn _=>R W2 Aq6 [(5,iI (wrap .i64 (n+(xn:Int)))),(20,.slice x20 x20n x20c),(21,iI x21),(22,iI (wrap .i64 (x22+1)))] h))
 (some (iI n,h)):=kR
def Bt1:Cuts:=⟨2,[(3,[0,3,4])],[],[(5,⟨[0,1,2,3,4,5,6,7,8,9,10,11,12,13,14,15,16],[0,0,2,6,14,0,0,96,224,480,992,2016,4064,8190,16383,32767,65535],[],[]⟩)]⟩
def Dg7:List Item:=A8 Tryz.f143
def A73:List Item:=stk [0,1,0,1,0,0,1,4,5] Dg7
theorem Hg5 :
 xQ Bt1 C R Ag2 Tryz.f143 Dg7 [(0,.slice l ln lc)] h =
 nw (.cells Gh4 false [sN]) h fun b w=>R Ag2 A73 [(0,.slice l ln lc),(3,pP b),(4,iI 0)] w:=kR
theorem Dv4 :
 xQ Bt1 C R Ag2 Tryz.f143 A73 [(0,.slice l ln lc),(3,.pointer (some q)),(4,iI i)] h =
 jN (decide (i<(ln:Int))) (some (decide (i<4),h)) h fun c w=>cond c
 (gSl (add q 0) w fun x xn xc=>aSome l fun p=>jR i ln (gInt .i64 (add (B4 p) (Int.toNat i*1)) w fun z1=>ck ((0:Int)≤mm2 false (mm2 true z1 0) 64∧(mm2 false (mm2 true z1 0) 64:Int)≤mm2 false (mm2 true z1 0) 64∧mm2 false (mm2 true z1 0) 64≤(B3:Int)) (nw (.cells G95 false (G9 (Int.toNat (mm2 false (mm2 true z1 0) 64)) [.bool false])) w fun b w1=>nw (.cells Eg7 false [.slice (some ⟨b,0,none⟩) (Int.toNat (mm2 false (mm2 true z1 0) 64)) (Int.toNat (mm2 false (mm2 true z1 0) 64))]) w1 fun p1 w2=>gCells (some ⟨p1,0,none⟩) (1*1) w2 fun cs=>ckB (fitsOpen x Eg7 w2) (apd Eg7 1 x xn xc 1 cs w2 fun a an ac w3=>pV (add q 0) (.slice a an ac) w3 fun w4=>R Ag2 A73 [(0,.slice l ln lc),(3,.pointer (some q)),(4,iI (wrap .i64 (i+1)))] w4))))
 (some (.pointer (some q),w)):=kR
def Ek4:Cuts:=⟨2,[(2,[0,1,5])],[],[]⟩
def Gh5:List Item:=A8 Tryz.f148
def Dg2:List Item:=stk [0,1,0,0,1,4,5] Gh5
theorem I82 (s:Int) :
 xQ Ek4 C R Bi5 Tryz.f148 Gh5 [(0,.slice l ln lc),(1,iI s)] h =
 R Bi5 Dg2 [(0,.slice l ln lc),(1,iI s),(5,iI 0)] h:=kR
theorem Gh3 (s:Int) :
 xQ Ek4 C R Bi5 Tryz.f148 Dg2 [(0,.slice l ln lc),(1,iI s),(5,iI i)] h =
 cond (decide (i<(ln:Int)))
 (aSome l fun p=>jR i ln (gInt .i64 (add (B4 p) (Int.toNat i*1)) h fun x=>cond (x==s)
 (some (.bool true,h))
 (R Bi5 Dg2 [(0,.slice l ln lc),(1,iI s),(5,iI (wrap .i64 (i+1)))] h)))
 (some (.bool false,h)):=kR
def B86:Cuts:=⟨2,[],[],[]⟩
def Ef6:List Item:=A8 Tryz.f149
theorem G28 (c:List Value) :
 xQ B86 C R Bk6 Tryz.f149 Ef6 [(0,.pointer s),(1,iI e),(2,.agg ⟨c⟩)] h =
 nw (.cells W3 false c) h fun b w=>bnd (C Aq3 [.pointer s,iI e] w) fun r w1=>aBool r fun x=>jO (!x) w1 (jI b 1 w1 fun z1=>some (decide (z1<0),w1)) fun c_1 w2=>jO c_1 w2 (jI b 1 w2 fun z2=>some (decide (z2>7),w2)) fun c_2 w3=>jO c_2 w3 (jI b 2 w3 fun z3=>some (decide (z3<0),w3)) fun c_3 w4=>jO c_3 w4 (jI b 2 w4 fun z4=>some (decide (z4>65536),w4)) fun c_4 w5=>jO c_4 w5 (jI b 3 w5 fun z5=>some (decide (z5<0),w5)) fun c_5 w6=>jO c_5 w6 (jI b 3 w6 fun z6=>some (decide (z6>65536),w6)) fun c_6 w7=>cond c_6
 (jT [iI 0,iI 1] w7)
 (jW b 4 [iI 0,iI 0] w7 fun w8=>jA b 0 6 w8 fun z7=>bnd (C Bk1 [.pointer s,iI e,.agg ⟨z7⟩] w8) fun q1 w9=>as2 q1 fun q2 q3=>aI q2 fun z8=>aI q3 fun z9=>jT [iI z8,iI z9] w9):=kR
def Bm1:Cuts:=⟨2,[(3,[0,3,4])],[],[]⟩
def Da1:List Item:=A8 Tryz.f170
def Ap1:List Item:=stk [0,1,0,1,0,0,1,4,5] Da1
theorem G46 (n:Option Addr) :
 xQ Bm1 C R Y9 Tryz.f170 Da1 [(0,.pointer n)] h =
 R Y9 Ap1 [(0,.pointer n),(3,sN),(4,iI 0)] h:=kR
theorem Do0 (n:Option Addr) :
 xQ Bm1 C R Y9 Tryz.f170 Ap1 [(0,.pointer n),(3,.slice out outn outc),(4,iI i)] h =
 aSome n fun p=>gSl (add p 0) h fun _ xn _=>cond (decide (i<(xn:Int)))
 (aSome n fun p_1=>gSl (add p_1 0) h fun z1 xn_1 _=>aSome z1 fun p_2=>jR i xn_1 (gBool (add (add (B4 p_2) (Int.toNat i*2)) 1) h fun z2=>cond z2
 (aSome n fun p_3=>gSl (add p_3 0) h fun z3 xn_2 _=>aSome z3 fun p_4=>jR i xn_2 (gInt .i64 (add (add (B4 p_4) (Int.toNat i*2)) 0) h fun z4=>nw (.cells B9 false [iI (wrap .i64 (i+(wrap .i64 (256*z4))))]) h fun b w=>gCells (some ⟨b,0,none⟩) (1*1) w fun cs=>ckB (fitsOpen out B9 w) (apd B9 1 out outn outc 1 cs w fun a an ac w1=>R Y9 Ap1 [(0,.pointer n),(3,.slice a an ac),(4,iI (wrap .i64 (i+1)))] w1)))
 (R Y9 Ap1 [(0,.pointer n),(3,.slice out outn outc),(4,iI (wrap .i64 (i+1)))] h)))
 (some (.slice out outn outc,h)):=kR
def Bl1:Cuts:=⟨2,[],[],[]⟩
def Df9:List Item:=A8 Tryz.f175
theorem E71 :
 xQ Bl1 C R Az4 Tryz.f175 Df9 [(0,iI g)] h =
 jO (decide (g<0)) h (some (decide (g≥8),h)) fun c w=>cond c
 (jT [sN,.bool false] w)
 (nw (.cells A9 false [.int .u8 (wrap .u8 (g)),.int .u8 211]) w fun b w1=>bnd (C Ag9 [.slice (some ⟨b,0,none⟩) 2 2] w1) fun r w2=>aInt .u8 r fun x=>nw (.cells A9 false [.int .u8 x,.int .u8 0]) w2 fun p1 w3=>gCells (some ⟨p1,0,none⟩) (2*1) w3 fun cs=>ckB (fitsOpen (some ⟨b,0,none⟩) A9 w3) (apd A9 1 (some ⟨b,0,none⟩) 2 2 2 cs w3 fun a an ac w4=>jT [.slice a an ac,.bool true] w4)):=kR
def Eh7:Cuts:=⟨2,[],[],[]⟩
def Go6:List Item:=A8 Tryz.f177
theorem Ia5 :
 xQ Eh7 C R Dj5 Tryz.f177 Go6 [(0,.pointer c),(1,iI i),(2,iI fd),(3,iI n)] h =
 nw (.cells P3 false [iI 0,iI 0,sN,.bool false]) h fun b w=>bnd (C Du9 [.pointer c,iI i,iI fd,iI n] w) fun r w1=>as2 r fun q1 q2=>aAgg q1 fun x=>aI q2 fun z1=>nw (.cells D9 false [iI 0,iI 0,iI 0,iI 0]) w1 fun p1 w2=>jK 4 p1 0 x w2 fun w3=>jO (z1 != 0) w3 (some (n==0,w3)) fun c_1 w4=>cond c_1
 (bnd (C As2 [iI z1] w4) fun q3 w5=>aAgg q3 fun z2=>jK 4 b 0 z2 w5 fun w6=>jA b 0 4 w6 fun z3=>jG z3 w6)
 (jA p1 0 4 w4 fun z4=>bnd (C D58 [.pointer c,.agg ⟨z4⟩] w4) fun q4 w7=>as2 q4 fun q5 q6=>aAgg q5 fun z5=>aBool q6 fun z6=>nw (.cells Ed2 false [iI 0,iI 0,iI 0,iI 0,.int .u8 0,.int .u8 0,.int .u8 0,.int .u8 0,.int .u8 0,.int .u8 0,.int .u8 0,.int .u8 0,.int .u8 0,.int .u8 0,.int .u8 0,.int .u8 0,.int .u8 0,.int .u8 0,.int .u8 0,.int .u8 0,.int .u8 0,.int .u8 0,.int .u8 0,.int .u8 0,.int .u8 0,.int .u8 0,.int .u8 0,.int .u8 0,.int .u8 0,.int .u8 0,.int .u8 0,.int .u8 0,.int .u8 0,.int .u8 0,.int .u8 0,.int .u8 0,.nilFunc]) w7 fun p2 w8=>jK 37 p2 0 z5 w8 fun w9=>cond (!z6)
 (bnd (C As2 [iI 105] w9) fun q7 w10=>aAgg q7 fun z7=>jK 4 b 0 z7 w10 fun w11=>jA b 0 4 w11 fun z8=>jG z8 w11)
 (jI p2 1 w9 fun z9=>jN (z9==0) (jI p1 0 w9 fun z10=>some (z10==1,w9)) w9 fun c_2 w12=>jN c_2 (jI p2 3 w12 fun z11=>some (z11==0,w12)) w12 fun c_3 w13=>cond c_3
 (jW b 0 [iI 0,iI 0,sN,.bool false] w13 fun w14=>jA b 0 4 w14 fun z12=>jG z12 w14)
 (jI p2 1 w13 fun z13=>cond (z13==0)
 (jA p1 0 4 w13 fun z14=>bnd (C Bo1 [.agg ⟨z14⟩] w13) fun q8 w15=>aAgg q8 fun z15=>jK 4 b 0 z15 w15 fun w16=>jA b 0 4 w16 fun z16=>jG z16 w16)
 (jA p2 0 36 w13 fun z17=>bnd (C Dt3 [.agg ⟨z17⟩,iI n] w13) fun q9 w17=>as2 q9 fun q10 q11=>aAgg q10 fun z18=>aSl q11 fun z19 xn xc=>nw (.cells E6 false zZ2) w17 fun p3 w18=>jK 36 p3 0 z18 w18 fun w19=>gFv ⟨p2,36,none⟩ w19 fun z20=>jA p3 0 36 w19 fun z21=>aFn z20 fun g fi cp=>bnd (C g (fi++([.agg ⟨z21⟩]++cp)) w19) fun q12 w20=>aBool q12 fun z22=>cond (!z22)
 (bnd (C As2 [iI 105] w20) fun q13 w21=>aAgg q13 fun z23=>jK 4 b 0 z23 w21 fun w22=>jA b 0 4 w22 fun z24=>jG z24 w22)
 (jW b 0 [iI (xn:Int),iI 0,.slice z19 xn xc,.bool false] w20 fun w23=>jA b 0 4 w23 fun z25=>jG z25 w23))))):=kR
def B14:Cuts:=⟨2,[],[],[]⟩
def D40:List Item:=A8 Tryz.f188
theorem Gx4 :
 xQ B14 C R An0 Tryz.f188 D40 [(0,.agg ⟨x⟩)] h =
 nw (.cells J7 false x) h fun b w=>jI b 1 w fun z1=>some (.bool (z1 != 2),w):=kR
def Dr3:Cuts:=⟨2,[],[],[]⟩
def Ew7:List Item:=A8 Tryz.f189
theorem Hk0 (target:Int) :
 xQ Dr3 C R Bz5 Tryz.f189 Ew7 [(0,.pointer c),(1,iI target)] h =
 nw (.cells B9 false [iI target]) h fun b w=>jI b 0 w fun x=>cond (decide (x≥8))
 (bnd (C Ad7 [.pointer c,.func (.func A24) ⟨[]⟩ ⟨[pP b]⟩] w) fun r w1=>aSl r fun z1 xn xc=>cond ((xn:Int)==0)
 (jT [sN,iI 103] w1)
 (jT [.slice z1 xn xc,iI 0] w1))
 (jI b 0 w fun z2=>bnd (C E4 [.pointer c,iI z2] w) fun q1 w2=>as2 q1 fun q2 q3=>aAgg q2 fun z3=>aI q3 fun z4=>nw (.cells B2 false zZ1) w2 fun p1 w3=>jK 16 p1 0 z3 w3 fun w4=>cond (z4==0)
 (jT [sN,iI 103] w4)
 (cond (z4==2)
 (jT [sN,iI 105] w4)
 (jI b 0 w4 fun z5=>jA p1 0 16 w4 fun z6=>ck (List.length z6=16) (ck (List.length (iI z5::(z6++[]))=17) (nw (.cells J7 false ((iI z5::(z6++[]))++[])) w4 fun p2 w5=>jT [.slice (some ⟨p2,0,none⟩) 1 1,iI 0] w5))))):=kR
def B39:Cuts:=⟨2,[],[(6,[2,4,6]),(8,[2,4,6])],[]⟩
def Ds8:List Item:=A8 Tryz.f190
def Bf0:List Item:=stk [0,1,0,1,0,1,0,1,0,0] Ds8
def Bz1:List Item:=stk [0,1,0,1,0,1,0,1,0,1,0,0] Ds8
theorem Ir5 :
 xQ B39 C R Aa1 Tryz.f190 Ds8 [(0,.agg ⟨p⟩),(1,iI n)] h =
 nw (.cells B2 false p) h fun b w=>nw (.cells B2 false zZ1) w fun p1 w1=>bnd (C Ee2 [iI n] w1) fun r w2=>aBool r fun x=>jO (!x) w2 (jI b 0 w2 fun z1=>jN (z1 != 1) (jI b 0 w2 fun z2=>some (z2 != 3,w2)) w2 fun c w3=>some (c,w3)) fun c_1 w4=>cond c_1
 (jA b 0 16 w4 fun z3=>jK 16 p1 0 z3 w4 fun w5=>jA p1 0 16 w5 fun z4=>jT [.agg ⟨z4⟩,.bool false] w5)
 (ck ((0:Int)≤(wrap .u64 (n))) (jI b 6 w4 fun z5=>jO ((D5 .i64 z5 (wrap .i64 (1*2 ^ (min (Int.toNat (wrap .u64 (n))) 64))))==0) w4 (some ((D5 .i64 (wrap .i64 (1*2 ^ (min (Int.toNat (wrap .u64 (n))) 64))) 16896) != 0,w4)) fun c_2 w6=>cond c_2
 (jI b 4 w6 fun z6=>jV b 4 (iI (Bb7 .i64 z6 (wrap .i64 (1*2 ^ (min (Int.toNat (wrap .u64 (n))) 64))))) w6 fun w7=>R Aa1 Bf0 [(2,pP b),(4,pP p1),(6,iI (wrap .i64 (1*2 ^ (min (Int.toNat (wrap .u64 (n))) 64))))] w7)
 (R Aa1 Bf0 [(2,pP b),(4,pP p1),(6,iI (wrap .i64 (1*2 ^ (min (Int.toNat (wrap .u64 (n))) 64))))] w6))):=kR
theorem Hj1 (p:Addr) (b:Int) :
 xQ B39 C R Aa1 Tryz.f190 Bf0 [(2,.pointer (some p)),(4,.pointer (some x4)),(6,iI b)] h =
 jO (b==512) h (some (b==32768,h)) fun c w=>jN c (gInt .i64 (add p 0) w fun x=>some (x==3,w)) w fun c_1 w1=>cond c_1
 (pV (add p 0) (iI 1) w1 fun w2=>R Aa1 Bz1 [(2,.pointer (some p)),(4,.pointer (some x4)),(6,iI b)] w2)
 (R Aa1 Bz1 [(2,.pointer (some p)),(4,.pointer (some x4)),(6,iI b)] w1):=kR
theorem Ho8 (p:Addr) (b:Int) :
 xQ B39 C R Aa1 Tryz.f190 Bz1 [(2,.pointer (some p)),(4,.pointer (some x4)),(6,iI b)] h =
 cond (b==32768)
 (gInt .i64 (add p 4) h fun x=>pV (add p 4) (iI (J8 .i64 x 16384)) h fun w=>gAgg p 16 w fun z1=>ck (List.length z1=16) (pAgg x4 z1 w fun w1=>gAgg x4 16 w1 fun z2=>jT [.agg ⟨z2⟩,.bool true] w1))
 (cond (b==16384)
 (gInt .i64 (add p 4) h fun z3=>pV (add p 4) (iI (J8 .i64 z3 32768)) h fun w2=>gAgg p 16 w2 fun z4=>ck (List.length z4=16) (pAgg x4 z4 w2 fun w3=>gAgg x4 16 w3 fun z5=>jT [.agg ⟨z5⟩,.bool true] w3))
 (gAgg p 16 h fun z6=>ck (List.length z6=16) (pAgg x4 z6 h fun w4=>gAgg x4 16 w4 fun z7=>jT [.agg ⟨z7⟩,.bool true] w4))):=kR
def Gm6:Cuts:=⟨2,[],[],[]⟩
def Hs0:List Item:=A8 Tryz.f197
theorem I66 (i:List Value) (behind:Int) :
 xQ Gm6 C R Em0 Tryz.f197 Hs0 [(0,.agg ⟨i⟩),(1,iI behind)] h =
 nw (.cells Q9 false i) h fun b w=>jI b 0 w fun x=>jO (x==1) w (jI b 0 w fun z1=>some (z1==3,w)) fun c w1=>jO c w1 (jI b 0 w1 fun z2=>some (z2==4,w1)) fun c_1 w2=>jO c_1 w2 (jI b 0 w2 fun z3=>some (z3==5,w2)) fun c_2 w3=>jI b 0 w3 fun z4=>jO (decide (z4<1)) w3 (jI b 0 w3 fun z5=>some (decide (z5>7),w3)) fun c_3 w4=>jO c_3 w4 (jI b 1 w4 fun z6=>some (decide (z6<0),w4)) fun c_4 w5=>jO c_4 w5 (jI b 1 w5 fun z7=>some (decide (z7>65535),w5)) fun c_5 w6=>jO c_5 w6 (jN (!c_2) (jI b 1 w6 fun z8=>some (z8 != 0,w6)) w6 fun c_6 w7=>some (c_6,w7)) fun c_7 w8=>jO c_7 w8 (jI b 2 w8 fun z9=>some (z9 != 0,w8)) fun c_8 w9=>cond c_8
 (some (.bool false,w9))
 (jI b 0 w9 fun z10=>jO (z10 != 5) w9 (jI b 1 w9 fun z11=>some (decide (z11≤behind),w9)) fun c_9 w10=>some (.bool c_9,w10)):=kR
def E59:Cuts:=⟨2,[],[],[]⟩
def Hd0:List Item:=A8 Tryz.f198
theorem I24 (isv:Bool) :
 xQ E59 C R Dh5 Tryz.f198 Hd0 [(0,.bool isv)] h =
 cond isv
 (some (iI 1,h))
 (some (iI 0,h)):=kR
def Al0:Cuts:=⟨2,[],[],[]⟩
def A50:List Item:=A8 Tryz.f202
theorem De0 :
 xQ Al0 C R Z8 Tryz.f202 A50 [(0,.slice s sn sc)] h =
 ckB (fitsOpen s Q9 h) (ck ((0:Int)≤(sn:Int)∧(sn:Int)≤(sc:Int)) (ck ((0:Int)≤(sn:Int)∧(sn:Int)≤((Int.toNat (sn:Int):Nat):Int)) (some (.slice (At6 (E5 s (decide (0<Int.toNat (sn:Int))) (0*3))) ((Int.toNat (sn:Int))-0) ((Int.toNat (sn:Int))-0),h)))):=kR
def A57:Cuts:=⟨2,[],[],[(2,⟨[0,1,2,3,4,5,6,7],[0,0,0,4,12,0,63,127],[],[]⟩)]⟩
def B10:List Item:=A8 Tryz.f206
theorem Ej4 :
 xQ A57 C R Y6 Tryz.f206 B10 [(0,.pointer c),(1,.agg ⟨r⟩)] h =
 nw (.cells E9 false r) h fun b w=>jA b 0 2 w fun x=>bnd (C Y5 [.pointer c,.agg ⟨x⟩] w) fun q1 w1=>as2 q1 fun q2 q3=>aAgg q2 fun z1=>aBool q3 fun z2=>nw (.cells Bt0 false [iI 0,iI 0,iI 0]) w1 fun p1 w2=>jK 3 p1 0 z1 w2 fun w3=>jA b 0 2 w3 fun z3=>jI p1 2 w3 fun z4=>ck ((0:Int)≤z4∧(z4:Int)≤z4∧z4≤(B3:Int)) (nw (.cells A9 false (G9 (Int.toNat z4) [.int .u8 0])) w3 fun p2 w4=>bnd (C P4 [.pointer c,.agg ⟨z3⟩,.slice (some ⟨p2,0,none⟩) (Int.toNat z4) (Int.toNat z4),.bool z2] w4) fun q4 w5=>aBool q4 fun z5=>some (.bool z5,w5)):=kR
def Au7:Cuts:=⟨2,[],[],[]⟩
def Bn9:List Item:=A8 Tryz.f207
theorem D09 :
 xQ Au7 C R S8 Tryz.f207 Bn9 [(0,.pointer t),(1,iI i)] h =
 aSome t fun p=>gSl (add p 0) h fun x xn _=>aSome x fun p_1=>jR i xn (gInt .i64 (add (add (B4 p_1) (Int.toNat i*8)) 6) h fun z1=>some (iI (wrap .i64 (i+(wrap .i64 (256*z1)))),h)):=kR
def Dp7:Cuts:=⟨2,[],[],[]⟩
def Ey7:List Item:=A8 Tryz.f214
theorem Hk1 (s:Int) :
 xQ Dp7 C R L6 Tryz.f214 Ey7 [(0,iI s),(1,.pointer (some fv0))] h =
 jO (decide (s<0)) h (gSl (add fv0 0) h fun _ xn _=>some (decide (s≥(xn:Int)),h)) fun c w=>some (.bool c,w):=kR
def Bs2:Cuts:=⟨2,[(3,[0,3,4])],[],[]⟩
def Dg0:List Item:=A8 Tryz.f221
def A70:List Item:=stk [0,1,0,1,0,0,1,4,5] Dg0
theorem Ha3 :
 xQ Bs2 C R Af9 Tryz.f221 Dg0 [(0,iI size)] h =
 nw (.cells Gh1 false [sN]) h fun b w=>R Af9 A70 [(0,iI size),(3,pP b),(4,iI 0)] w:=kR
theorem Dw0 (n:Addr) :
 xQ Bs2 C R Af9 Tryz.f221 A70 [(0,iI size),(3,.pointer (some n)),(4,iI i)] h =
 jN (decide (i<size)) (some (decide (i<256),h)) h fun c w=>cond c
 (gSl (add n 0) w fun x xn xc=>nw (.cells Bx5 false [iI 1,.bool false]) w fun b w1=>gCells (some ⟨b,0,none⟩) (1*2) w1 fun cs=>ckB (fitsOpen x Bx5 w1) (apd Bx5 2 x xn xc 1 cs w1 fun a an ac w2=>pV (add n 0) (.slice a an ac) w2 fun w3=>R Af9 A70 [(0,iI size),(3,.pointer (some n)),(4,iI (wrap .i64 (i+1)))] w3))
 (some (.pointer (some n),w)):=kR
def B80:Cuts:=⟨2,[],[],[]⟩
def Ed9:List Item:=A8 Tryz.f233
theorem G29 (n:Option Addr) :
 xQ B80 C R Bk7 Tryz.f233 Ed9 [(0,.pointer n),(1,iI name)] h =
 jN (decide (name≥0)) (aSome n fun p=>gSl (add p 0) h fun _ xn _=>some (decide ((D5 .i64 name 255)<(xn:Int)),h)) h fun c w=>jN c (aSome n fun p_1=>gSl (add p_1 0) w fun z1 xn_1 _=>aSome z1 fun p_2=>ck ((0:Int)≤D5 .i64 name 255∧D5 .i64 name 255<(xn_1:Int)) (gBool (add (add (B4 p_2) (Int.toNat (D5 .i64 name 255)*2)) 1) w fun z2=>some (z2,w))) w fun c_1 w1=>jN c_1 (aSome n fun p_3=>gSl (add p_3 0) w1 fun z3 xn_2 _=>aSome z3 fun p_4=>ck ((0:Int)≤D5 .i64 name 255∧D5 .i64 name 255<(xn_2:Int)) (gInt .i64 (add (add (B4 p_4) (Int.toNat (D5 .i64 name 255)*2)) 0) w1 fun z4=>some (z4==(Int.fdiv name (2 ^ 8)),w1))) w1 fun c_2 w2=>some (.bool c_2,w2):=kR
def Bj6:Cuts:=⟨2,[],[],[]⟩
def Dm1:List Item:=A8 Tryz.f240
theorem E98 (put:Value) (get:Value) :
 xQ Bj6 C R Aw6 Tryz.f240 Dm1 [(0,iI size),(1,put),(2,get)] h =
 one put (one get (nw (.cells B37 false [iI (mm2 false (mm2 true size 0) 64),put,get]) h fun b w=>some (pP b,w))):=kR
def Eu5:Cuts:=⟨2,[],[],[]⟩
def Gx7:List Item:=A8 Tryz.f244
theorem In7 (want:Int) :
 xQ Eu5 C R Du3 Tryz.f244 Gx7 [(0,.agg ⟨p⟩),(1,iI want)] h =
 nw (.cells B2 false p) h fun b w=>bnd (C Ae3 [iI 8,iI want,.func (.func Bo8) ⟨[]⟩ ⟨[pP b]⟩] w) fun r w1=>aSl r fun x xn xc=>some (.slice x xn xc,w1):=kR
def Ay2:Cuts:=⟨2,[],[],[]⟩
def Br8:List Item:=A8 Tryz.f249
theorem D60 :
 xQ Ay2 C R P6 Tryz.f249 Br8 [(0,.pointer c),(1,iI i),(2,.agg ⟨f⟩)] h =
 nw (.cells D9 false f) h fun b w=>jA b 0 4 w fun x=>bnd (C Bg8 [.agg ⟨x⟩] w) fun r w1=>as2 r fun q1 q2=>aSl q1 fun z1 xn xc=>aBool q2 fun z2=>bnd (C A10 [iI i] w1) fun q3 w2=>aAgg q3 fun z3=>bnd (C P4 [.pointer c,.agg ⟨z3⟩,.slice z1 xn xc,.bool z2] w2) fun q4 w3=>aBool q4 fun z4=>some (.bool z4,w3):=kR
def E75:Cuts:=⟨2,[],[],[]⟩
def Hd4:List Item:=A8 Tryz.f250
theorem I40 (ok:Bool) :
 xQ E75 C R D82 Tryz.f250 Hd4 [(0,.bool ok),(1,iI n)] h =
 nw (.cells P3 false [iI 0,iI 0,sN,.bool false]) h fun b w=>cond (!ok)
 (bnd (C Bl5 [iI 105] w) fun r w1=>aAgg r fun x=>jK 4 b 0 x w1 fun w2=>jA b 0 4 w2 fun z1=>jG z1 w2)
 (jW b 0 [iI n,iI 0,sN,.bool false] w fun w3=>jA b 0 4 w3 fun z2=>jG z2 w3):=kR
def E89:Cuts:=⟨2,[],[],[]⟩
def Hf3:List Item:=A8 Tryz.f253
theorem Iw8 :
 xQ E89 C R D58 Tryz.f253 Hf3 [(0,.pointer c),(1,.agg ⟨f⟩)] h =
 nw (.cells W1 false [.pointer c]) h fun b w=>nw (.cells D9 false f) w fun p1 w1=>nw (.cells Ed2 false [iI 0,iI 0,iI 0,iI 0,.int .u8 0,.int .u8 0,.int .u8 0,.int .u8 0,.int .u8 0,.int .u8 0,.int .u8 0,.int .u8 0,.int .u8 0,.int .u8 0,.int .u8 0,.int .u8 0,.int .u8 0,.int .u8 0,.int .u8 0,.int .u8 0,.int .u8 0,.int .u8 0,.int .u8 0,.int .u8 0,.int .u8 0,.int .u8 0,.int .u8 0,.int .u8 0,.int .u8 0,.int .u8 0,.int .u8 0,.int .u8 0,.int .u8 0,.int .u8 0,.int .u8 0,.int .u8 0,.nilFunc]) w1 fun p2 w2=>jI p1 0 w2 fun x=>cond (x==3)
 (jP b 0 w2 fun z1=>bnd (C Ag8 [.pointer z1] w2) fun r w3=>as2 r fun q1 q2=>aAgg q1 fun z2=>aI q2 fun z3=>nw (.cells E6 false zZ2) w3 fun p3 w4=>jK 36 p3 0 z2 w4 fun w5=>jA p3 0 36 w5 fun z4=>jP b 0 w5 fun z5=>ck (List.length z4=36) (ck (List.length (z4++[.func (.func Br5) ⟨[.pointer z5]⟩ ⟨[]⟩])=37) (jW p2 0 (z4++[.func (.func Br5) ⟨[.pointer z5]⟩ ⟨[]⟩]) w5 fun w6=>jA p2 0 37 w6 fun z6=>jT [.agg ⟨z6⟩,.bool (z3==1)] w6)))
 (jP b 0 w2 fun z7=>jI p1 1 w2 fun z8=>bnd (C U9 [.pointer z7,iI z8] w2) fun q3 w7=>as2 q3 fun q4 q5=>aAgg q4 fun z9=>aI q5 fun z10=>nw (.cells E6 false zZ2) w7 fun p4 w8=>jK 36 p4 0 z9 w8 fun w9=>jA p4 0 36 w9 fun z11=>ck (List.length z11=36) (ck (List.length (z11++[.func (.func Bf9) ⟨[]⟩ ⟨[pP b,pP p1]⟩])=37) (jW p2 0 (z11++[.func (.func Bf9) ⟨[]⟩ ⟨[pP b,pP p1]⟩]) w9 fun w10=>jA p2 0 37 w10 fun z12=>jT [.agg ⟨z12⟩,.bool (z10==1)] w10))):=kR
def Au3:Cuts:=⟨2,[],[],[]⟩
def Bn8:List Item:=A8 Tryz.f268
theorem D07 :
 xQ Au3 C R Ah9 Tryz.f268 Bn8 [(0,.pointer c),(1,iI i)] h =
 bnd (C A14 [iI i] h) fun r w=>aAgg r fun x=>bnd (C Y6 [.pointer c,.agg ⟨x⟩] w) fun q1 w1=>aBool q1 fun z1=>some (.bool z1,w1):=kR
def Aj9:Cuts:=⟨2,[(2,[0,3,11,12,13])],[],[(5,⟨[0,1,2,3,4,5,6,7,8,9,10,11,12,13,14,15,16],[0,1,3,7,0,0,32,96,224,0,0,1535,3583,7679,16383,32767,65535],[],[]⟩)]⟩
def Az1:List Item:=A8 Tryz.f272
def Ae7:List Item:=stk [0,1,0,0,1,4,5] Az1
theorem D49 (v:List Value) :
 xQ Aj9 C R N3 Tryz.f272 Az1 [(0,.pointer t),(1,.agg ⟨v⟩)] h =
 nw (.cells W3 false v) h fun b w=>aSome t fun p=>gSl (add p 0) w fun x xn xc=>R N3 Ae7 [(0,.pointer t),(3,pP b),(11,.slice x xn xc),(12,iI (xn:Int)),(13,iI 0)] w:=kR
theorem Be8 (x11:Option Addr) (x11n x11c:Nat) (x12:Int) :
 xQ Aj9 C R N3 Tryz.f272 Ae7 [(0,.pointer t),(3,.pointer (some v)),(11,.slice x11 x11n x11c),(12,iI x12),(13,iI x13)] h =
 cond (decide (x13<x12))
 (aSome x11 fun p=>jR x13 x11n (gAgg (add (B4 p) (Int.toNat x13*8)) 8 h fun x=>nw (.cells At8 false [iI 0,iI 0,iI 0,iI 0,iI 0,iI 0,iI 0,.bool false]) h fun b w=>jK 8 b 0 x w fun w1=>jB b 7 w1 fun z1=>jN (!z1) (jI b 6 w1 fun z2=>some (decide (z2≤1000000),w1)) w1 fun c w2=>cond c
 (aSome t fun p_1=>gSl (add p_1 0) w2 fun z3 xn _=>aSome t fun p_2=>gSl (add p_2 0) w2 fun z4 xn_1 _=>gAgg v 6 w2 fun z5=>aSome z3 fun p_3=>jR x13 xn (ck (List.length z5=6) (pAgg (add (add (B4 p_3) (Int.toNat x13*8)) 0) z5 w2 fun w3=>aSome z4 fun p_4=>jR x13 xn_1 (pV (add (add (B4 p_4) (Int.toNat x13*8)) 7) (.bool true) w3 fun w4=>bnd (C S8 [.pointer t,iI x13] w4) fun r w5=>aI r fun z6=>jT [iI z6,.bool true] w5))))
 (R N3 Ae7 [(0,.pointer t),(3,.pointer (some v)),(11,.slice x11 x11n x11c),(12,iI x12),(13,iI (wrap .i64 (x13+1)))] w2)))
 (jT [iI 0,.bool false] h):=kR
def Aw9:Cuts:=⟨2,[],[],[]⟩
def Bs4:List Item:=A8 Tryz.f274
theorem D59 :
 xQ Aw9 C R Ak7 Tryz.f274 Bs4 [(0,.pointer t),(1,iI name)] h =
 nw (.cells W3 false [iI 0,iI 0,iI 0,iI 0,iI 0,iI 0]) h fun b w=>bnd (C Am3 [.pointer t,iI name] w) fun r w1=>aPtr r fun x=>cond x.isNone
 (nw (.cells W3 false [iI 0,iI 0,iI 0,iI 0,iI 0,iI 0]) w1 fun p1 w2=>jA p1 0 6 w2 fun z1=>jK 6 b 0 z1 w2 fun w3=>jA b 0 6 w3 fun z2=>jT [.agg ⟨z2⟩,.bool false] w3)
 (aSome x fun p=>gAgg (add p 0) 6 w1 fun z3=>jK 6 b 0 z3 w1 fun w4=>jA b 0 6 w4 fun z4=>jT [.agg ⟨z4⟩,.bool true] w4):=kR
def E62:Cuts:=⟨2,[],[],[]⟩
def G99:List Item:=A8 Tryz.f278
theorem I52 :
 xQ E62 C R D67 Tryz.f278 G99 [(0,.agg ⟨f⟩)] h =
 nw (.cells D9 false f) h fun b w=>jI b 0 w fun x=>jN (decide (x≥1)) (jI b 0 w fun z1=>some (decide (z1≤3),w)) w fun c w1=>jN c (jI b 1 w1 fun z2=>some (decide (z2≥0),w1)) w1 fun c_1 w2=>jN c_1 (jI b 1 w2 fun z3=>some (decide (z3≤7),w2)) w2 fun c_2 w3=>jN c_2 (jI b 0 w3 fun z4=>jO (z4 != 3) w3 (jI b 1 w3 fun z5=>some (z5==0,w3)) fun c_3 w4=>some (c_3,w4)) w3 fun c_4 w5=>jN c_4 (jI b 2 w5 fun z6=>some (decide (z6≥1),w5)) w5 fun c_5 w6=>jN c_5 (jI b 2 w6 fun z7=>some (decide (z7≤64),w6)) w6 fun c_6 w7=>jN c_6 (jI b 3 w7 fun z8=>jO (z8==0) w7 (jI b 3 w7 fun z9=>some (z9==1,w7)) fun c_7 w8=>some (c_7,w8)) w7 fun c_8 w9=>some (.bool c_8,w9):=kR
def Ay1:Cuts:=⟨2,[],[],[]⟩
def Bs8:List Item:=A8 Tryz.f287
theorem D81 :
 xQ Ay1 C R Ab2 Tryz.f287 Bs8 [(0,.slice s sn sc)] h =
 ckB (fitsOpen s A9 h) (ck ((0:Int)≤(sn:Int)∧(sn:Int)≤(sc:Int)) (ck ((0:Int)≤(sn:Int)∧(sn:Int)≤((Int.toNat (sn:Int):Nat):Int)) (some (.slice (At6 (E5 s (decide (0<Int.toNat (sn:Int))) (0*1))) ((Int.toNat (sn:Int))-0) ((Int.toNat (sn:Int))-0),h)))):=kR
def An8:Cuts:=⟨2,[],[],[(2,⟨[0,1,2,3,4,5,6,7,8,9,10,11,12,13,14],[0,1,3,7,15,31,63,127,255,511,63,63,4095,8191,16383],[],[]⟩)]⟩
def Bc2:List Item:=A8 Tryz.f290
theorem Dm9 (v:List Value) :
 xQ An8 C R Ab9 Tryz.f290 Bc2 [(0,.pointer c),(1,.agg ⟨v⟩)] h =
 nw (.cells D9 false v) h fun b w=>aSome c fun p=>gInt .i64 (add p 0) w fun x=>ck ((0:Int)≤x∧(x:Int)≤x∧x≤(B3:Int)) (nw (.cells A9 false (G9 (Int.toNat x) [.int .u8 0])) w fun p1 w1=>aSome c fun p_1=>gFv (add p_1 1) w1 fun z1=>isNilF z1 fun p2=>jO p2 w1 (aSome c fun p_2=>gFv (add p_2 1) w1 fun z2=>jA b 0 4 w1 fun z3=>aFn z2 fun g fi cp=>bnd (C g (fi++([.agg ⟨z3⟩,.slice (some ⟨p1,0,none⟩) (Int.toNat x) (Int.toNat x)]++cp)) w1) fun r w2=>aBool r fun z4=>some (!z4,w2)) fun c_1 w3=>cond c_1
 (jT [sN,.bool false] w3)
 (jT [.slice (some ⟨p1,0,none⟩) (Int.toNat x) (Int.toNat x),.bool true] w3)):=kR
end
end Go.EQ

set_option maxRecDepth 100000
namespace Go.EQ
open Go Go.NN Go.Proofs
variable (C:E0) (R:Ab8)
noncomputable section
def Js8:List (Nat × Cuts):=[(4,A49),(7,Dl5),(9,B26),(10,Dc0),(11,B24),(13,Bb6),(15,B29),(16,D26),(17,Bg3),(21,Di9),(22,Dy9),(23,E57),(24,Dl6),(25,Aa0),(26,Av5),(28,Da0),(29,B18),(30,Db7),(31,Dp1),(32,Bq6),(33,Dh6),(34,D10),(35,Ak6),(36,Dr4),(37,Ds2),(40,Ee0),(41,Ei9),(42,Bd8),(43,Ds4),(44,Dq6),(45,Dz2),(46,Bc9),(47,B13),(48,Da8),(49,Bu8),(50,Bb2),(51,Bb1),(52,Ba7),(53,Bb8),(54,A59),(55,B83),(57,B27),(58,E26),(59,Er4),(60,Ds7),(61,Bb5),(62,Dg1),(63,Ec0),(64,B67),(65,Aw4),(66,Es3),(67,B17),(68,Bw4),(69,Ba9),(70,D19),(71,D02),(72,Ao0),(73,Bi0),(74,Bk5),(75,A15),(76,D91),(77,B21),(78,Bw2),(80,Bk0),(89,Bw3),(90,E19),(91,B96),(92,Ak2),(93,Ds0),(94,Dr8),(95,Ak3),(96,Dp9),(97,Dz6),(98,Ax6),(99,B15),(100,Al6),(102,A34),(103,D14),(104,Ev7),(105,Dt5),(106,Dv1),(108,Du7),(110,D75),(111,Di4),(112,B22),(113,G83),(114,E73),(115,D24),(116,Dr9),(117,A55),(118,Er0),(119,Er7),(120,Bt3),(121,B76),(122,Eq5),(123,Av4),(124,Dl0),(125,Af8),(126,A58),(127,Ah4),(128,Dg4),(129,Bj2),(130,Bp4),(131,B35),(132,Bw9),(133,D25),(134,Go4),(135,D52),(136,Dt1),(137,Eh6),(138,E17),(139,Bl8),(140,A46),(141,As6),(142,Da4),(143,Bt1),(144,A75),(145,Bs0),(146,Dq8),(147,Bv3),(148,Ek4),(149,B86),(150,Bf8),(151,Bc1),(152,Bh2),(153,Bu1),(155,Bq7),(156,Bv8),(157,B12),(158,B19),(159,Bl0),(160,B82),(161,B85),(162,Dz9),(163,B92),(170,Bm1),(171,D06),(172,Ao4),(173,Ej1),(174,An9),(175,Bl1),(176,E24),(177,Eh7),(184,Ds5),(185,Bh6),(186,Dj0),(187,D21),(188,B14),(189,Dr3),(190,B39),(194,E38),(195,Eh9),(196,Ax5),(197,Gm6),(198,E59),(199,Ep4),(200,Gn0),(201,Q2),(202,Al0),(203,Ao5),(204,Bj4),(205,Df2),(206,A57),(207,Au7),(208,Ab3),(209,E61),(210,Ef9),(211,Dt7),(212,Ef0),(213,Ai0),(214,Dp7),(215,Ak8),(216,Ei4),(217,A47),(218,Dq3),(219,Bw7),(220,B99),(221,Bs2),(222,Ba5),(223,Do3),(224,Dk1),(225,Db4),(228,Db0),(229,Bu3),(230,Db2),(231,Aa3),(232,B32),(233,B80),(234,Bj9),(237,Bi8),(238,Es2),(239,Es5),(240,Bj6),(241,E44),(242,E68),(243,E42),(244,Eu5),(245,D68),(246,Ei8),(247,Eb4),(248,Aw8),(249,Ay2),(250,E75),(251,Ep7),(252,Ei0),(253,E89),(254,D03),(255,Et7),(261,Da5),(262,G26),(265,Ar6),(266,Z7),(267,Au6),(268,Au3),(269,Ef8),(270,Ei5),(271,Ae4),(272,Aj9),(273,Ed4),(274,Aw9),(277,A30),(278,E62),(279,Dr7),(280,Gi9),(281,D05),(282,D17),(285,Eb6),(286,Df7),(287,Ay1),(290,An8),(291,Es8),(292,Ao2)]
def cutsOf:FuncId→Cuts:=Hc3 Js8
noncomputable abbrev B0:E0:=NN.Call PR cutsOf
noncomputable abbrev H0:Ab8:=NN.Jump PR cutsOf
abbrev fK (f:FuncId) (fn:Func) (C:Cuts) (T:List Item) (n:Nat):Prop:=FnOk PR cutsOf f fn C T n
theorem fM {f : FuncId} {fn : Func} {C : Cuts} {T : List Item} {n : Nat} (a : PR.funcs[f]? = some fn) (b : ∃ c, fn.body = some c := by exact ⟨_, rfl⟩) (c : (fn.name == "runtime.NumGoroutine") = false := by kernel_rfl) (d : cutsOf f = C := by exact rfl) (e : A8 fn = T := by exact rfl) (g : Nat.ble n fn.ntmps = true := by kernel_rfl) : fK f fn C T n := ⟨a, b, c, d, e, g⟩
theorem Do1:fK D8 Tryz.f4 A49 Bq1 2:=fM Tryz.func4
theorem Ed8:fK Ah7 Tryz.f7 Dl5 Ef2 0:=fM Tryz.func7
theorem D30:fK Af2 Tryz.f9 B26 D29 2:=fM Tryz.func9
theorem A21:fK L9 Tryz.f10 Dc0 Db5 1:=fM Tryz.func10
theorem Gx1:fK Bd0 Tryz.f11 B24 D27 1:=fM Tryz.func11
theorem Es7:fK E4 Tryz.f13 Bb6 B46 2:=fM Tryz.func13
theorem Gu5:fK Af3 Tryz.f15 B29 D37 1:=fM Tryz.func15
theorem Hz1:fK A68 Tryz.f16 D26 Gc8 0:=fM Tryz.func16
theorem Dd0:fK D4 Tryz.f17 Bg3 Dc1 3:=fM Tryz.func17
theorem Dj7:fK As3 Tryz.f21 Di9 Eh5 1:=fM Tryz.func21
theorem Hw5:fK B66 Tryz.f22 Dy9 Gd1 0:=fM Tryz.func22
theorem E31:fK A92 Tryz.f23 E57 Hi4 4:=fM Tryz.func23
theorem Hc1:fK Br6 Tryz.f24 Dl6 Em5 4:=fM Tryz.func24
theorem U3:fK D1 Tryz.f25 Aa0 Ah5 1:=fM Tryz.func25
theorem Bn2:fK I1 Tryz.f26 Av5 Bn4 1:=fM Tryz.func26
theorem G35:fK A29 Tryz.f28 Da0 Ej2 1:=fM Tryz.func28
theorem Gv0:fK Am9 Tryz.f29 B18 D33 2:=fM Tryz.func29
theorem G42:fK Bj3 Tryz.f30 Db7 Eb0 1:=fM Tryz.func30
theorem Ew6:fK Be5 Tryz.f31 Dp1 E01 1:=fM Tryz.func31
theorem Dn8:fK Ap0 Tryz.f32 Bq6 Dn6 2:=fM Tryz.func32
theorem Dl3:fK Am8 Tryz.f33 Dh6 En3 2:=fM Tryz.func33
theorem Hx9:fK Au4 Tryz.f34 D10 Gb5 2:=fM Tryz.func34
theorem Ay8:fK P5 Tryz.f35 Ak6 Ay7 3:=fM Tryz.func35
theorem Hj7:fK A11 Tryz.f36 Dr4 Ex2 1:=fM Tryz.func36
theorem Ho4:fK A17 Tryz.f37 Ds2 Ev9 1:=fM Tryz.func37
theorem H32:fK Bv6 Tryz.f40 Ee0 Gh9 1:=fM Tryz.func40
theorem Ie9:fK Dk3 Tryz.f41 Ei9 Gj1 0:=fM Tryz.func41
theorem B23:fK W5 Tryz.f42 Bd8 B20 1:=fM Tryz.func42
theorem Hn2:fK N7 Tryz.f43 Ds4 Ey8 3:=fM Tryz.func43
theorem Hm5:fK A13 Tryz.f44 Dq6 Ew8 3:=fM Tryz.func44
theorem Hx4:fK Bn1 Tryz.f45 Dz2 Gc2 0:=fM Tryz.func45
theorem B30:fK Aa2 Tryz.f46 Bc9 B16 1:=fM Tryz.func46
theorem Gw9:fK Be0 Tryz.f47 B13 D28 1:=fM Tryz.func47
theorem Eb7:fK Ad9 Tryz.f48 Da8 Ee1 2:=fM Tryz.func48
theorem Gh0:fK At1 Tryz.f49 Bu8 Dy8 2:=fM Tryz.func49
theorem Er3:fK O2 Tryz.f50 Bb2 B38 2:=fM Tryz.func50
theorem Eu4:fK Ah3 Tryz.f51 Bb1 B48 2:=fM Tryz.func51
theorem Eq6:fK U9 Tryz.f52 Ba7 B45 2:=fM Tryz.func52
theorem Ev6:fK Ag8 Tryz.f53 Bb8 B50 1:=fM Tryz.func53
theorem Ek1:fK Ao8 Tryz.f54 A59 B09 1:=fM Tryz.func54
theorem G25:fK A40 Tryz.f55 B83 Eh1 2:=fM Tryz.func55
theorem Gw2:fK An2 Tryz.f57 B27 D36 3:=fM Tryz.func57
theorem Bk2:fK D63 Tryz.f58 E26 Ha2 3:=fM Tryz.func58
theorem G04:fK Ar1 Tryz.f59 Er4 G09 1:=fM Tryz.func59
theorem Du8:fK A02 Tryz.f60 Ds7 Eq1 3:=fM Tryz.func60
theorem Et8:fK Ar0 Tryz.f61 Bb5 B62 1:=fM Tryz.func61
theorem He4:fK A76 Tryz.f62 Dg1 En1 1:=fM Tryz.func62
theorem H67:fK Dh3 Tryz.f63 Ec0 Gm4 3:=fM Tryz.func63
theorem Au5:fK S9 Tryz.f64 B67 D01 1:=fM Tryz.func64
theorem D76:fK G8 Tryz.f65 Aw4 Bs7 3:=fM Tryz.func65
theorem In0:fK B51 Tryz.f66 Es3 Gy4 3:=fM Tryz.func66
theorem Gv9:fK Aw0 Tryz.f67 B17 D43 1:=fM Tryz.func67
theorem Gp6:fK Ar9 Tryz.f68 Bw4 Dx1 2:=fM Tryz.func68
theorem Et9:fK U6 Tryz.f69 Ba9 B34 2:=fM Tryz.func69
theorem Hz3:fK Au2 Tryz.f70 D19 Gb6 1:=fM Tryz.func70
theorem Hy4:fK Bm6 Tryz.f71 D02 Ga8 0:=fM Tryz.func71
theorem Dm8:fK Ac0 Tryz.f72 Ao0 Bc7 2:=fM Tryz.func72
theorem A31:fK O6 Tryz.f73 Bi0 Bu6 1:=fM Tryz.func73
theorem Ax2:fK M8 Tryz.f74 Bk5 By6 1:=fM Tryz.func74
theorem Ap8:fK J0 Tryz.f75 A15 Bg2 1:=fM Tryz.func75
theorem E28:fK Am7 Tryz.f76 D91 E65 1:=fM Tryz.func76
theorem Gv7:fK Bd9 Tryz.f77 B21 D34 3:=fM Tryz.func77
theorem Gg0:fK A88 Tryz.f78 Bw2 Dy6 3:=fM Tryz.func78
theorem E13:fK Ax7 Tryz.f80 Bk0 Dg9 5:=fM Tryz.func80
theorem Gn8:fK Ba3 Tryz.f89 Bw3 Dy1 1:=fM Tryz.func89
theorem I19:fK Bi9 Tryz.f90 E19 G94 1:=fM Tryz.func90
theorem G58:fK Bj0 Tryz.f91 B96 Ec8 2:=fM Tryz.func91
theorem Ay0:fK P7 Tryz.f92 Ak2 Az2 3:=fM Tryz.func92
theorem Hm8:fK A10 Tryz.f93 Ds0 Ew4 1:=fM Tryz.func93
theorem Hl1:fK A12 Tryz.f94 Dr8 Ex8 1:=fM Tryz.func94
theorem Ay5:fK N5 Tryz.f95 Ak3 Aw7 3:=fM Tryz.func95
theorem Ho2:fK A14 Tryz.f96 Dp9 Ew2 1:=fM Tryz.func96
theorem Hx0:fK Au8 Tryz.f97 Dz6 Ga7 1:=fM Tryz.func97
theorem Bl9:fK Y8 Tryz.f98 Ax6 Bl4 3:=fM Tryz.func98
theorem Gv5:fK An1 Tryz.f99 B15 D32 1:=fM Tryz.func99
theorem A36:fK L8 Tryz.f100 Al6 A26 2:=fM Tryz.func100
theorem Ei7:fK Ac6 Tryz.f102 A34 Bv9 1:=fM Tryz.func102
theorem D15:fK Bm9 Tryz.f103 D14 Ga9 3:=fM Tryz.func103
theorem Il8:fK Du1 Tryz.f104 Ev7 G07 2:=fM Tryz.func104
theorem Ep2:fK Az8 Tryz.f105 Dt5 Et0 2:=fM Tryz.func105
theorem Eu0:fK A04 Tryz.f106 Dv1 Es9 4:=fM Tryz.func106
theorem B56:fK W9 Tryz.f108 Du7 Eu9 3:=fM Tryz.func108
theorem D90:fK Aq5 Tryz.f110 D75 E47 1:=fM Tryz.func110
theorem Eb2:fK Ad4 Tryz.f111 Di4 Ed7 1:=fM Tryz.func111
theorem Gx5:fK Be1 Tryz.f112 B22 D31 2:=fM Tryz.func112
theorem Jm4:fK Eb9 Tryz.f113 G83 H46 3:=fM Tryz.func113
theorem I28:fK De8 Tryz.f114 E73 Hd2 2:=fM Tryz.func114
theorem Hy8:fK B63 Tryz.f115 D24 Gc7 2:=fM Tryz.func115
theorem Hk9:fK Bg1 Tryz.f116 Dr9 Ex4 1:=fM Tryz.func116
theorem Ej8:fK P4 Tryz.f117 A55 B07 4:=fM Tryz.func117
theorem Iq3:fK Al3 Tryz.f118 Er0 G02 2:=fM Tryz.func118
theorem Ij3:fK U4 Tryz.f119 Er7 G15 1:=fM Tryz.func119
theorem Df5:fK Aa8 Tryz.f120 Bt3 Dj6 2:=fM Tryz.func120
theorem D11:fK Ai7 Tryz.f121 B76 D08 2:=fM Tryz.func121
theorem Im9:fK Ag6 Tryz.f122 Eq5 Gy2 2:=fM Tryz.func122
theorem D00:fK O9 Tryz.f123 Av4 Bo7 2:=fM Tryz.func123
theorem Hb1:fK Al4 Tryz.f124 Dl0 Ek6 2:=fM Tryz.func124
theorem At0:fK I8 Tryz.f125 Af8 Ar8 1:=fM Tryz.func125
theorem Ej7:fK Y5 Tryz.f126 A58 B11 2:=fM Tryz.func126
theorem B44:fK W7 Tryz.f127 Ah4 A08 2:=fM Tryz.func127
theorem Hf2:fK Al9 Tryz.f128 Dg4 El9 1:=fM Tryz.func128
theorem Ga0:fK Ay3 Tryz.f129 Bj2 Di1 3:=fM Tryz.func129
theorem M7:fK U8 Tryz.f130 Bp4 B36 2:=fM Tryz.func130
theorem V0:fK Ae2 Tryz.f131 B35 Dv3 1:=fM Tryz.func131
theorem Bv2:fK Z2 Tryz.f132 Bw9 Dh4 1:=fM Tryz.func132
theorem Hy0:fK Bo0 Tryz.f133 D25 Gb3 1:=fM Tryz.func133
theorem Jf8:fK Em4 Tryz.f134 Go4 Hr8 1:=fM Tryz.func134
theorem E48:fK A90 Tryz.f135 D52 Ga2 1:=fM Tryz.func135
theorem Eu6:fK A05 Tryz.f136 Dt1 Er9 1:=fM Tryz.func136
theorem Ia0:fK Di0 Tryz.f137 Eh6 Gf7 2:=fM Tryz.func137
theorem I22:fK D69 Tryz.f138 E17 Hb2 1:=fM Tryz.func138
theorem E85:fK Ay6 Tryz.f139 Bl8 Dg8 3:=fM Tryz.func139
theorem Bq0:fK W2 Tryz.f140 A46 Bq8 2:=fM Tryz.func140
theorem Dw6:fK R0 Tryz.f141 As6 Bi6 2:=fM Tryz.func141
theorem G54:fK Bl2 Tryz.f142 Da4 Eb8 3:=fM Tryz.func142
theorem Df8:fK Ag2 Tryz.f143 Bt1 Dg7 1:=fM Tryz.func143
theorem Bx1:fK U2 Tryz.f144 A75 Bv7 2:=fM Tryz.func144
theorem Dj4:fK Ag1 Tryz.f145 Bs0 Dj3 1:=fM Tryz.func145
theorem Hk7:fK Bx6 Tryz.f146 Dq8 Ez3 1:=fM Tryz.func146
theorem Gm7:fK A89 Tryz.f147 Bv3 Dx8 3:=fM Tryz.func147
theorem Gp7:fK Bi5 Tryz.f148 Ek4 Gh5 2:=fM Tryz.func148
theorem G67:fK Bk6 Tryz.f149 B86 Ef6 3:=fM Tryz.func149
theorem Ew5:fK Aj5 Tryz.f150 Bf8 Dd4 5:=fM Tryz.func150
theorem Ep3:fK Ah6 Tryz.f151 Bc1 B47 5:=fM Tryz.func151
theorem Ey0:fK At9 Tryz.f152 Bh2 Dc8 7:=fM Tryz.func152
theorem Gk7:fK A99 Tryz.f153 Bu1 Dw2 7:=fM Tryz.func153
theorem Ge2:fK A44 Tryz.f155 Bq7 Dn9 2:=fM Tryz.func155
theorem Gn3:fK Ba2 Tryz.f156 Bv8 Dv7 3:=fM Tryz.func156
theorem Gw6:fK Be3 Tryz.f157 B12 D35 3:=fM Tryz.func157
theorem Gu4:fK Bd6 Tryz.f158 B19 D45 3:=fM Tryz.func158
theorem E33:fK Ax1 Tryz.f159 Bl0 Di2 6:=fM Tryz.func159
theorem G55:fK Bl6 Tryz.f160 B82 Ec3 3:=fM Tryz.func160
theorem G19:fK Aq3 Tryz.f161 B85 Ee7 2:=fM Tryz.func161
theorem Hx5:fK An4 Tryz.f162 Dz9 Gc6 3:=fM Tryz.func162
theorem G65:fK Bk1 Tryz.f163 B92 Ef1 3:=fM Tryz.func163
theorem Db3:fK Y9 Tryz.f170 Bm1 Da1 1:=fM Tryz.func170
theorem Hz2:fK Bp0 Tryz.f171 D06 Gc3 0:=fM Tryz.func171
theorem Dm7:fK Ac1 Tryz.f172 Ao4 Bc8 2:=fM Tryz.func172
theorem H48:fK Bx4 Tryz.f173 Ej1 Gf4 0:=fM Tryz.func173
theorem Dn2:fK Ac3 Tryz.f174 An9 Bc3 2:=fM Tryz.func174
theorem Ga1:fK Az4 Tryz.f175 Bl1 Df9 1:=fM Tryz.func175
theorem Ix1:fK D79 Tryz.f176 E24 He3 2:=fM Tryz.func176
theorem H30:fK Dj5 Tryz.f177 Eh7 Go6 4:=fM Tryz.func177
theorem Et1:fK Az6 Tryz.f184 Ds5 Et3 1:=fM Tryz.func184
theorem A28:fK J5 Tryz.f185 Bh6 Bv4 2:=fM Tryz.func185
theorem Ef3:fK Ad7 Tryz.f186 Dj0 Ea5 2:=fM Tryz.func186
theorem Hy7:fK Bn7 Tryz.f187 D21 Gb9 2:=fM Tryz.func187
theorem Gv3:fK An0 Tryz.f188 B14 D40 1:=fM Tryz.func188
theorem Hj3:fK Bz5 Tryz.f189 Dr3 Ew7 2:=fM Tryz.func189
theorem Es6:fK Aa1 Tryz.f190 B39 Ds8 2:=fM Tryz.func190
theorem Iv8:fK Dk2 Tryz.f194 E38 G96 2:=fM Tryz.func194
theorem Id2:fK Bw6 Tryz.f195 Eh9 Gl3 3:=fM Tryz.func195
theorem D93:fK Ab1 Tryz.f196 Ax5 Br7 1:=fM Tryz.func196
theorem I58:fK Em0 Tryz.f197 Gm6 Hs0 2:=fM Tryz.func197
theorem I25:fK Dh5 Tryz.f198 E59 Hd0 1:=fM Tryz.func198
theorem Ir3:fK Dv0 Tryz.f199 Ep4 G03 2:=fM Tryz.func199
theorem Jb9:fK Dv5 Tryz.f200 Gn0 Hq2 1:=fM Tryz.func200
theorem J4:fK D7 Tryz.f201 Q2 W8 1:=fM Tryz.func201
theorem De1:fK Z8 Tryz.f202 Al0 A50 1:=fM Tryz.func202
theorem Dn0:fK Ac4 Tryz.f203 Ao5 Bc4 2:=fM Tryz.func203
theorem Ea6:fK Ae1 Tryz.f204 Bj4 B94 2:=fM Tryz.func204
theorem G93:fK A87 Tryz.f205 Df2 El5 2:=fM Tryz.func205
theorem Ek0:fK Y6 Tryz.f206 A57 B10 2:=fM Tryz.func206
theorem Dz1:fK S8 Tryz.f207 Au7 Bn9 2:=fM Tryz.func207
theorem Al7:fK I7 Tryz.f208 Ab3 Am0 2:=fM Tryz.func208
theorem I26:fK D80 Tryz.f209 E61 Hd5 1:=fM Tryz.func209
theorem If4:fK Bv1 Tryz.f210 Ef9 Gl5 3:=fM Tryz.func210
theorem Ev4:fK Ag9 Tryz.f211 Dt7 Er5 1:=fM Tryz.func211
theorem H92:fK Dh9 Tryz.f212 Ef0 Gg8 2:=fM Tryz.func212
theorem Av2:fK D6 Tryz.f213 Ai0 Au9 2:=fM Tryz.func213
theorem Ho7:fK L6 Tryz.f214 Dp7 Ey7 2:=fM Tryz.func214
theorem A53:fK I4 Tryz.f215 Ak8 A54 2:=fM Tryz.func215
theorem Ie2:fK De3 Tryz.f216 Ei4 Gi1 2:=fM Tryz.func216
theorem Bq2:fK W0 Tryz.f217 A47 Bp9 1:=fM Tryz.func217
theorem Hk4:fK Be6 Tryz.f218 Dq3 Ey2 1:=fM Tryz.func218
theorem Ge6:fK Ar7 Tryz.f219 Bw7 Dw4 1:=fM Tryz.func219
theorem G87:fK A19 Tryz.f220 B99 Eg0 3:=fM Tryz.func220
theorem Dk4:fK Af9 Tryz.f221 Bs2 Dg0 1:=fM Tryz.func221
theorem Ep8:fK Ah1 Tryz.f222 Ba5 B33 6:=fM Tryz.func222
theorem Ho9:fK Bz9 Tryz.f223 Do3 Ey3 3:=fM Tryz.func223
theorem Hh2:fK Br3 Tryz.f224 Dk1 El8 3:=fM Tryz.func224
theorem G70:fK A25 Tryz.f225 Db4 Eg1 3:=fM Tryz.func225
theorem G59:fK Ap6 Tryz.f228 Db0 Ec4 2:=fM Tryz.func228
theorem Go7:fK A86 Tryz.f229 Bu3 Dw8 3:=fM Tryz.func229
theorem G40:fK A37 Tryz.f230 Db2 Eh4 3:=fM Tryz.func230
theorem Af0:fK D3 Tryz.f231 Aa3 Af5 3:=fM Tryz.func231
theorem Gv2:fK Bd1 Tryz.f232 B32 D39 3:=fM Tryz.func232
theorem G17:fK Bk7 Tryz.f233 B80 Ed9 2:=fM Tryz.func233
theorem B89:fK Ad0 Tryz.f234 Bj9 Da6 1:=fM Tryz.func234
theorem E78:fK Aw5 Tryz.f237 Bi8 Dj8 3:=fM Tryz.func237
theorem Io4:fK Az7 Tryz.f238 Es2 Gy1 2:=fM Tryz.func238
theorem Iq1:fK Az9 Tryz.f239 Es5 Gz9 1:=fM Tryz.func239
theorem E46:fK Aw6 Tryz.f240 Bj6 Dm1 3:=fM Tryz.func240
theorem I16:fK By3 Tryz.f241 E44 Hg4 2:=fM Tryz.func241
theorem I57:fK B03 Tryz.f242 E68 Hh3 1:=fM Tryz.func242
theorem Iz8:fK Bl5 Tryz.f243 E42 Hd8 1:=fM Tryz.func243
theorem Ii6:fK Du3 Tryz.f244 Eu5 Gx7 2:=fM Tryz.func244
theorem D62:fK Ae3 Tryz.f245 D68 E20 3:=fM Tryz.func245
theorem H26:fK Bg4 Tryz.f246 Ei8 Gk9 2:=fM Tryz.func246
theorem H33:fK Bg7 Tryz.f247 Eb4 Gm8 2:=fM Tryz.func247
theorem D73:fK V5 Tryz.f248 Aw8 Bs1 3:=fM Tryz.func248
theorem D86:fK P6 Tryz.f249 Ay2 Br8 3:=fM Tryz.func249
theorem I23:fK D82 Tryz.f250 E75 Hd4 2:=fM Tryz.func250
theorem Iq9:fK Du9 Tryz.f251 Ep7 G12 4:=fM Tryz.func251
theorem H77:fK As2 Tryz.f252 Ei0 Gj3 1:=fM Tryz.func252
theorem Iz7:fK D58 Tryz.f253 E89 Hf3 2:=fM Tryz.func253
theorem Hx6:fK Bo1 Tryz.f254 D03 Gc9 1:=fM Tryz.func254
theorem Ir7:fK Dt3 Tryz.f255 Et7 Gz0 2:=fM Tryz.func255
theorem G73:fK A24 Tryz.f261 Da5 Ee8 2:=fM Tryz.func261
theorem Ji6:fK Ee2 Tryz.f262 G26 Ie3 1:=fM Tryz.func262
theorem Dy2:fK Ag0 Tryz.f265 Ar6 Bi2 1:=fM Tryz.func265
theorem A51:fK O5 Tryz.f266 Z7 Al2 2:=fM Tryz.func266
theorem D04:fK Ai5 Tryz.f267 Au6 Bm7 2:=fM Tryz.func267
theorem D16:fK Ah9 Tryz.f268 Au3 Bn8 2:=fM Tryz.func268
theorem Ib7:fK Ar5 Tryz.f269 Ef8 Gm0 2:=fM Tryz.func269
theorem H80:fK Bu7 Tryz.f270 Ei5 Gh2 1:=fM Tryz.func270
theorem Q3:fK E7 Tryz.f271 Ae4 Aq1 2:=fM Tryz.func271
theorem Az0:fK N3 Tryz.f272 Aj9 Az1 2:=fM Tryz.func272
theorem Ih0:fK Bx2 Tryz.f273 Ed4 Go8 3:=fM Tryz.func273
theorem D66:fK Ak7 Tryz.f274 Aw9 Bs4 2:=fM Tryz.func274
theorem Ed0:fK Am3 Tryz.f277 A30 Bv0 2:=fM Tryz.func277
theorem I35:fK D67 Tryz.f278 E62 G99 1:=fM Tryz.func278
theorem Ho6:fK Bg8 Tryz.f279 Dr7 Ez7 1:=fM Tryz.func279
theorem I84:fK Dx7 Tryz.f280 Gi9 Ht7 1:=fM Tryz.func280
theorem Hv8:fK Bo2 Tryz.f281 D05 Gc4 1:=fM Tryz.func281
theorem Hy6:fK Bo8 Tryz.f282 D17 Gd4 2:=fM Tryz.func282
theorem Ic9:fK Bf9 Tryz.f285 Eb6 Gk6 3:=fM Tryz.func285
theorem Ej3:fK As1 Tryz.f286 Df7 Ei1 1:=fM Tryz.func286
theorem D56:fK Ab2 Tryz.f287 Ay1 Bs8 1:=fM Tryz.func287
theorem Dm6:fK Ab9 Tryz.f290 An8 Bc2 2:=fM Tryz.func290
theorem Im4:fK A09 Tryz.f291 Es8 G13 2:=fM Tryz.func291
theorem Dm3:fK Ac5 Tryz.f292 Ao2 Bc5 2:=fM Tryz.func292
end
end Go.EQ

namespace Go.EQ
open Go Go.NN Go.Proofs
theorem Ju2:type_of% Tryz.underlying3:=Tryz.underlying3
theorem J31:type_of% Tryz.underlying4:=Tryz.underlying4
theorem Jy5:type_of% Tryz.underlying5:=Tryz.underlying5
end Go.EQ
