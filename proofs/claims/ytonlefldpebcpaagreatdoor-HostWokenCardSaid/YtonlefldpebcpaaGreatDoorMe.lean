/- A read that found nothing is woken by bytes, and by the end, and by nothing else: till then its picks do nothing. -/
import Derived.Test.YtonlefldpebcpaaGreatDoorMd
import Derived.KernelRfl
set_option linter.all false
set_option maxRecDepth 100000
namespace Go.EQ
open Go Go.NN Go.Proofs
open Go.IntKind (wrap)
open Go.Addr (add)
variable (C:D8) (R:Ad8) (fv0 nonev swaps v x2 x6:Addr) (grown more:Bool) (h:H) (a atv e env fd first g i isv j lease lo n name target x45 x46 x54 x7 x8 x86 x87:Int) (p x:List Value) (bc bn datac datan foundc foundn lc ln outc outn sc sn x44c x44n x85c x85n:Nat) (b c data found k l m out q r s w x44 x85:Option Addr) (of:Option Nat) (cmp decode f:Value)
noncomputable section
def Dc6:Cuts:=⟨2,[(7,[4,6,8,9,10])],[],[]⟩
def D36:List Item:=A6 Tryz.f7
def A70:List Item:=stk [0,1,0,1,0,1,0,1,0,1,0,0,1,4,5] D36
theorem Hq7 :
 xQ Dc6 C R Ae5 Tryz.f7 D36 [] h =
 bnd (C B15 [] h) fun r w=>aSl r fun x xn xc=>bnd (C Aq2 [.slice x xn xc] w) fun q1 w1=>as4 q1 fun q2 q3 q4 q5=>aPtr q2 fun z1=>aPtr q3 fun z2=>aPtr q4 fun z3=>aPtr q5 fun _=>cond z2.isNone
 (some (.tuple ⟨[.pointer none,.slice none 0 0,.pointer none,.slice none 0 0]⟩,w1))
 (R Ae5 A70 [(4,.pointer z1),(6,.pointer z3),(8,.slice none 0 0),(9,.slice none 0 0),(10,iI 0)] w1):=kR
theorem Eb8 (wv:Option Addr) (mn mc:Nat) :
 xQ Dc6 C R Ae5 Tryz.f7 A70 [(4,.pointer k),(6,.pointer wv),(8,.slice l ln lc),(9,.slice m mn mc),(10,iI i)] h =
 cond (decide (i<4))
 (bnd (C A73 [.pointer k,iI i,iI i,iI 0] h) fun r w=>as2 r fun q1 q2=>aPtr q1 fun x=>aInt .i64 q2 fun z1=>bnd (cond x.isNone (some (true,w)) (some (z1 != 0,w))) fun c w1=>cond c
 (some (.tuple ⟨[.pointer none,.slice none 0 0,.pointer none,.slice none 0 0]⟩,w1))
 (nw (.cells I7 false [.pointer x]) w1 fun b w2=>gCells (some ⟨b,0,none⟩) (1*1) w2 fun cs=>ckB (fitsOpen l I7 w2) (apd I7 1 l ln lc 1 cs w2 fun a an ac w3=>bnd (C Bn4 [.pointer wv,iI i,iI i,iI 0] w3) fun q3 w4=>aPtr q3 fun z2=>nw (.cells An4 false [.pointer z2]) w4 fun p1 w5=>gCells (some ⟨p1,0,none⟩) (1*1) w5 fun cs_1=>ckB (fitsOpen m An4 w5) (apd An4 1 m mn mc 1 cs_1 w5 fun a_1 an_1 ac_1 w6=>R Ae5 A70 [(4,.pointer k),(6,.pointer wv),(8,.slice a an ac),(9,.slice a_1 an_1 ac_1),(10,iI (wrap .i64 (i+1)))] w6))))
 (some (.tuple ⟨[.pointer k,.slice l ln lc,.pointer wv,.slice m mn mc]⟩,h)):=kR
def Bw7:Cuts:=⟨2,[],[],[(4,⟨[0,1,2,3,4,5,6,7,12,8,9,10,11,13,14],[0,1,3,7,0,16,48,112,255,511,1023,1023,0,6143,16383],[],[]⟩),(8,⟨[0,1,2,3,4,5,6,7,8],[0,0,0,1,9,25,63,127,255],[(5,[2])],[]⟩)]⟩
def Dw5:List Item:=A6 Tryz.f9
theorem Dw7 (s:List Value) :
 xQ Bw7 C R Ad3 Tryz.f9 Dw5 [(0,.pointer w),(1,.agg ⟨s⟩)] h =
 nw (.cells Bp5 false s) h fun b w1=>aSome w fun p=>gPtr (add p 4) w1 fun x=>bnd (C B6 [.pointer x] w1) fun r w2=>as0 r (aSome w fun p_1=>gInt .i64 (add p_1 5) w2 fun z1=>cond (z1 != 0)
 (some (.bool false,w2))
 (aSome w fun p_2=>gPtr (add p_2 4) w2 fun z2=>aSome w fun p_3=>gInt .i64 (add p_3 2) w2 fun z3=>nw (.cells D0 false zZ1) w2 fun p1 w3=>bnd (C M7 [.pointer z2,iI z3] w3) fun q1 w4=>as2 q1 fun q2 q3=>aAgg q2 fun z4=>aInt .i64 q3 fun z5=>ck (List.length z4=16) (pAgg ⟨p1,0,none⟩ z4 w4 fun w5=>bnd (cond (z5 != 1) (some (true,w5)) (gInt .i64 ⟨p1,0,none⟩ w5 fun z6=>some (z6==2,w5))) fun c w6=>cond c
 (some (.bool false,w6))
 (gSl ⟨b,3,none⟩ w6 fun z7 xn xc=>bnd (C E9 [.slice z7 xn xc] w6) fun q4 w7=>aSl q4 fun z8 xn_1 xc_1=>pV ⟨b,3,none⟩ (.slice z8 xn_1 xc_1) w7 fun w8=>gAgg ⟨b,0,none⟩ 4 w8 fun z9=>aSome w fun p_4=>pV (add p_4 5) (iI 1) w8 fun w9=>gAgg ⟨b,0,none⟩ 4 w9 fun z10=>same (.agg ⟨z9⟩) (.agg ⟨z10⟩) (aSome w fun p_5=>ck (List.length z9=4) (pAgg (add p_5 7) z9 w9 fun w10=>some (.bool true,w10))))))):=kR
def B58:Cuts:=⟨2,[],[],[(1,⟨[0,1,2,3,4,5,6,7,9,10,11,12,8,13],[0,1,3,7,0,16,48,112,255,0,512,1536,3584,8191],[(8,[12])],[]⟩)]⟩
def D33:List Item:=A6 Tryz.f28
theorem Gu4 :
 xQ B58 C R Az8 Tryz.f28 D33 [(0,.pointer w)] h =
 aSome w fun p=>gInt .i64 (add p 5) h fun x=>bnd (cond (x==1) (some (true,h)) (aSome w fun p_1=>gInt .i64 (add p_1 5) h fun z1=>some (z1==2,h))) fun c w1=>cond c
 (aSome w fun p_2=>gPtr (add p_2 0) w1 fun z2=>aSome w fun p_3=>gInt .i64 (add p_3 3) w1 fun z3=>aSome w fun p_4=>gInt .i64 (add p_4 1) w1 fun z4=>bnd (C Aa7 [.pointer z2,iI z3] w1) fun r w2=>aPtr r fun z5=>gInt .i64 (add p_4 1) w2 fun z6=>same (iI z4) (iI z6) (bnd (C Gu1 [.pointer z5,iI z4] w2) fun q1 w3=>as0 q1 (aSome w fun p_5=>pV (add p_5 5) (iI 0) w3 fun w4=>some (.tuple ⟨[]⟩,w4))))
 (aSome w fun p_6=>pV (add p_6 5) (iI 0) w1 fun w5=>some (.tuple ⟨[]⟩,w5)):=kR
def D32:Cuts:=⟨2,[],[],[]⟩
def Ga3:List Item:=A6 Tryz.f41
theorem Ht2 :
 xQ D32 C R B89 Tryz.f41 Ga3 [] h =
 nw (.cells Dd9 false [.slice none 0 0,.slice none 0 0,iI 0]) h fun b w=>nw (.cells Gy6 false [.bool false,.bool false]) w fun p1 w1=>nw (.cells B87 false [iI 0,iI 1,iI 1,iI 0]) w1 fun p2 w2=>pAgg ⟨b,0,none⟩ [.slice (some ⟨p1,0,none⟩) 2 2,.slice (some ⟨p2,0,none⟩) 2 2,iI 5] w2 fun w3=>gAgg ⟨b,0,none⟩ 3 w3 fun x=>some (.agg ⟨x⟩,w3):=kR
def Bb0:Cuts:=⟨2,[(4,[1,3,4])],[],[(2,⟨[0,1,2,5,6,9,10,13,14,3,4,7,8,11,12,15,16,17],[0,0,2,6,15,0,32,110,255,0,512,1774,4095,0,8192,28398,65535,131071],[(3,[6,10,14]),(7,[10,14]),(11,[14])],[]⟩)]⟩
def Bw3:List Item:=A6 Tryz.f46
def Au3:List Item:=stk [0,1,0,1,0,1,0,0,1,4,5] Bw3
theorem Gm8 :
 xQ Bb0 C R Y4 Tryz.f46 Bw3 [(0,.agg ⟨p⟩)] h =
 nw (.cells D0 false p) h fun b w=>gInt .i64 ⟨b,0,none⟩ w fun x=>gInt .i64 ⟨b,1,none⟩ w fun z1=>gInt .i64 ⟨b,2,none⟩ w fun z2=>gInt .i64 ⟨b,3,none⟩ w fun z3=>nw (.cells A5 false [.int .u8 (wrap .u8 (x)),.int .u8 (wrap .u8 (z1)),.int .u8 (wrap .u8 (z2)),.int .u8 (wrap .u8 (z3))]) w fun p1 w1=>gCells (some ⟨p1,0,none⟩) 4 w1 fun cs=>asBytes cs fun l=>gInt .i64 ⟨b,4,none⟩ w1 fun z4=>gInt .i64 ⟨b,5,none⟩ w1 fun z5=>gInt .i64 ⟨b,6,none⟩ w1 fun z6=>gInt .i64 ⟨b,7,none⟩ w1 fun z7=>bnd (C Bg2 [iI z4] w1) fun r w2=>aStr r fun z8=>gInt .i64 ⟨b,5,none⟩ w2 fun z9=>same (iI z5) (iI z9) (gInt .i64 ⟨b,6,none⟩ w2 fun z10=>same (iI z6) (iI z10) (gInt .i64 ⟨b,7,none⟩ w2 fun z11=>same (iI z7) (iI z11) (ck (ByteArray.size (ByteArray.mk ⟨l⟩)+ByteArray.size z8≤A8) (bnd (C Bg2 [iI z5] w2) fun q1 w3=>aStr q1 fun z12=>gInt .i64 ⟨b,6,none⟩ w3 fun z13=>same (iI z6) (iI z13) (gInt .i64 ⟨b,7,none⟩ w3 fun z14=>same (iI z7) (iI z14) (ck (ByteArray.size ((ByteArray.mk ⟨l⟩)++z8)+ByteArray.size z12≤A8) (bnd (C Bg2 [iI z6] w3) fun q2 w4=>aStr q2 fun z15=>gInt .i64 ⟨b,7,none⟩ w4 fun z16=>same (iI z7) (iI z16) (ck (ByteArray.size (((ByteArray.mk ⟨l⟩)++z8)++z12)+ByteArray.size z15≤A8) (bnd (C Bg2 [iI z7] w4) fun q3 w5=>aStr q3 fun z17=>ck (ByteArray.size ((((ByteArray.mk ⟨l⟩)++z8)++z12)++z15)+ByteArray.size z17≤A8) (R Y4 Au3 [(1,pP b),(3,.string (((((ByteArray.mk ⟨l⟩)++z8)++z12)++z15)++z17)),(4,iI 0)] w5)))))))))):=kR
theorem B93 (p:Addr) (s:ByteArray) :
 xQ Bb0 C R Y4 Tryz.f46 Au3 [(1,.pointer (some p)),(3,.string s),(4,iI i)] h =
 cond (decide (i<8))
 (ck ((0:Int)≤i∧i<((8:Nat):Int)) (gInt .i64 (add (add p 8) (Int.toNat i*1)) h fun x=>nw (.cells A5 false [.int .u8 (wrap .u8 (x))]) h fun b w=>gCells (some ⟨b,0,none⟩) 1 w fun cs=>asBytes cs fun l=>ck (ByteArray.size s+ByteArray.size (ByteArray.mk ⟨l⟩)≤A8) (R Y4 Au3 [(1,.pointer (some p)),(3,.string (s++(ByteArray.mk ⟨l⟩))),(4,iI (wrap .i64 (i+1)))] w)))
 (ck (ByteArray.size s+ByteArray.size (ByteArray.mk ⟨[167]⟩)≤A8) (bnd (C Ak9 [.string (s++(ByteArray.mk ⟨[167]⟩))] h) fun r w1=>aInt .u8 r fun z1=>nw (.cells A5 false [.int .u8 z1,.int .u8 0,.int .u8 0]) w1 fun p1 w2=>gCells (some ⟨p1,0,none⟩) 3 w2 fun cs_1=>asBytes cs_1 fun l_1=>ck (ByteArray.size (s++(ByteArray.mk ⟨[167]⟩))+ByteArray.size (ByteArray.mk ⟨l_1⟩)≤A8) (some (.string ((s++(ByteArray.mk ⟨[167]⟩))++(ByteArray.mk ⟨l_1⟩)),w2)))):=kR
def B46:Cuts:=⟨2,[],[],[]⟩
def D83:List Item:=A6 Tryz.f48
theorem D47 :
 xQ B46 C R Aa7 Tryz.f48 D83 [(0,.pointer k),(1,iI n)] h =
 bnd (cond (decide (n<0)) (some (true,h)) (aSome k fun p=>gSl (add p 6) h fun _ xn _=>some (decide (n≥(xn:Int)),h))) fun c w=>cond c
 (some (.pointer none,w))
 (aSome k fun p_1=>gSl (add p_1 6) w fun z1 xn_1 _=>aSome z1 fun p_2=>ck ((0:Int)≤n∧n<(xn_1:Int)) (gPtr (add (B0 p_2) (Int.toNat n*1)) w fun z2=>some (.pointer z2,w))):=kR
def A89:Cuts:=⟨2,[],[],[]⟩
def Bz4:List Item:=A6 Tryz.f51
theorem Eh4 (kind:Int) :
 xQ A89 C R Af1 Tryz.f51 Bz4 [(0,.pointer c),(1,iI kind)] h =
 cond (kind==1)
 (some (iI 8,h))
 (cond (kind==2)
 (some (iI 12,h))
 (cond (kind==3)
 (aSome c fun p=>gSl (add p 2) h fun _ xn _=>some (iI (wrap .i64 ((wrap .i64 (4+(xn:Int)))-1)),h))
 (some (iI 1,h)))):=kR
def A27:Cuts:=⟨2,[],[],[]⟩
def Bv8:List Item:=A6 Tryz.f54
theorem Ea2 :
 xQ A27 C R An0 Tryz.f54 Bv8 [(0,.pointer c)] h =
 bnd (C W1 [.pointer c,.agg ⟨[iI 5,iI 0]⟩,.func (.func Al2) ⟨[]⟩ ⟨[]⟩] h) fun r w=>as2 r fun q1 q2=>aInt .i64 q1 fun x=>aInt .i64 q2 fun z1=>some (.tuple ⟨[iI x,.bool (z1==1)]⟩,w):=kR
def Dm9:Cuts:=⟨2,[(6,[2,8,9,10])],[],[]⟩
def El5:List Item:=A6 Tryz.f60
def Bu9:List Item:=stk [0,1,0,1,0,1,0,1,0,0,1,4,5] El5
theorem H81 (view:Option Addr) (viewn viewc:Nat) (now:Int) :
 xQ Dm9 C R Ay2 Tryz.f60 El5 [(0,.slice view viewn viewc),(1,iI now),(2,.slice l ln lc)] h =
 bnd (C Ab2 [.slice l ln lc] h) fun r w=>aInt .i64 r fun x=>cond (x != 0)
 (some (.tuple ⟨[.bool false,iI 0]⟩,w))
 (nw (.cells El7 false [iI 0,.slice view viewn viewc,iI now]) w fun b w1=>R Ay2 Bu9 [(2,.slice l ln lc),(8,pP b),(9,iI 0),(10,iI 0)] w1):=kR
theorem Dj1 (m:Addr) (steps:Int) :
 xQ Dm9 C R Ay2 Tryz.f60 Bu9 [(2,.slice l ln lc),(8,.pointer (some m)),(9,iI steps),(10,iI atv)] h =
 cond (decide (atv<(ln:Int)))
 (aSome l fun p=>ck ((0:Int)≤atv∧atv<(ln:Int)) (gInt .i64 (add (add (B0 p) (Int.toNat atv*3)) 0) h fun x=>cond (x==6)
 (some (.tuple ⟨[.bool true,iI (wrap .i64 (steps+1))]⟩,h))
 (aSome l fun p_1=>ck ((0:Int)≤atv∧atv<(ln:Int)) (gAgg (add (B0 p_1) (Int.toNat atv*3)) 3 h fun z1=>bnd (C Bb1 [.pointer (some m),.agg ⟨z1⟩] h) fun r w=>aInt .i64 r fun z2=>R Ay2 Bu9 [(2,.slice l ln lc),(8,.pointer (some m)),(9,iI (wrap .i64 (steps+1))),(10,iI (wrap .i64 ((wrap .i64 (atv+z2))+1)))] w))))
 (some (.tuple ⟨[.bool false,iI steps]⟩,h)):=kR
def Da7:Cuts:=⟨2,[],[],[]⟩
def Ee8:List Item:=A6 Tryz.f62
theorem G36 :
 xQ Da7 C R A62 Tryz.f62 Ee8 [(0,.pointer k)] h =
 aSome k fun p=>gInt .i64 (add p 7) h fun x=>some (iI x,h):=kR
def Bd6:Cuts:=⟨2,[(3,[1,2,3,4]),(7,[1,2,3,4,5]),(13,[1,2,3,6])],[],[]⟩
def Bq0:List Item:=A6 Tryz.f73
def Bo8:List Item:=stk [0,1,0,1,0,0,1,4,5] Bq0
def A57:List Item:=stk [0,1,0,1,0,0,1,4,5,6,0,1,0,4,0,1,0,0,1,4,5] Bq0
def Bn3:List Item:=stk [0,1,0,1,0,1,0,0,1,4,5] Bq0
theorem Hu0 :
 xQ Bd6 C R N4 Tryz.f73 Bq0 [(0,.agg ⟨p⟩)] h =
 nw (.cells Dd9 false p) h fun b w=>nw (.cells E6 false [.slice none 0 0,.slice none 0 0,.slice none 0 0,iI 0,.slice none 0 0]) w fun p1 w1=>gInt .i64 ⟨b,2,none⟩ w1 fun x=>nw (.cells E6 false [.slice none 0 0,.slice none 0 0,.slice none 0 0,iI 0,.slice none 0 0]) w1 fun p2 w2=>pAgg ⟨p2,0,none⟩ [.slice none 0 0,.slice none 0 0,.slice none 0 0,iI x,.slice none 0 0] w2 fun w3=>R N4 Bo8 [(1,pP b),(2,pP p1),(3,pP p2),(4,iI 0)] w3:=kR
theorem Ed4 (p:Addr) (b:Addr) (s:Int) :
 xQ Bd6 C R N4 Tryz.f73 Bo8 [(1,.pointer (some p)),(2,.pointer (some x2)),(3,.pointer (some b)),(4,iI s)] h =
 gSl (add p 0) h fun _ xn _=>cond (decide (s<(xn:Int)))
 (gSl (add b 0) h fun z1 xn_1 xc_1=>nw (.cells B5 false [iI 20]) h fun p1 w=>gCells (some ⟨p1,0,none⟩) (1*1) w fun cs=>ckB (fitsOpen z1 B5 w) (apd B5 1 z1 xn_1 xc_1 1 cs w fun a an ac w1=>pV (add b 0) (.slice a an ac) w1 fun w2=>R N4 A57 [(1,.pointer (some p)),(2,.pointer (some x2)),(3,.pointer (some b)),(4,iI s),(5,iI 0)] w2))
 (R N4 Bn3 [(1,.pointer (some p)),(2,.pointer (some x2)),(3,.pointer (some b)),(6,iI 0)] h):=kR
theorem Ee7 (p:Addr) (b:Addr) (s:Int) :
 xQ Bd6 C R N4 Tryz.f73 A57 [(1,.pointer (some p)),(2,.pointer (some x2)),(3,.pointer (some b)),(4,iI s),(5,iI i)] h =
 cond (decide (i<9))
 (gSl (add b 1) h fun x xn xc=>nw (.cells B5 false [iI s]) h fun p1 w=>gCells (some ⟨p1,0,none⟩) (1*1) w fun cs=>ckB (fitsOpen x B5 w) (apd B5 1 x xn xc 1 cs w fun a an ac w1=>pV (add b 1) (.slice a an ac) w1 fun w2=>R N4 A57 [(1,.pointer (some p)),(2,.pointer (some x2)),(3,.pointer (some b)),(4,iI s),(5,iI (wrap .i64 (i+1)))] w2))
 (gSl (add b 2) h fun z1 xn_1 xc_1=>nw (.cells B5 false [iI s]) h fun p2 w3=>nw (.cells V7 false [.slice (some ⟨p2,0,none⟩) 1 1]) w3 fun p3 w4=>gCells (some ⟨p3,0,none⟩) (1*1) w4 fun cs_1=>ckB (fitsOpen z1 V7 w4) (apd V7 1 z1 xn_1 xc_1 1 cs_1 w4 fun a_1 an_1 ac_1 w5=>pV (add b 2) (.slice a_1 an_1 ac_1) w5 fun w6=>gSl (add b 4) w6 fun z2 xn_2 xc_2=>nw (.cells B5 false [iI s]) w6 fun p4 w7=>nw (.cells M6 false [iI s,iI 0,iI 0,iI 492,.slice (some ⟨p4,0,none⟩) 1 1]) w7 fun p5 w8=>gCells (some ⟨p5,0,none⟩) (1*5) w8 fun cs_2=>ckB (fitsOpen z2 M6 w8) (apd M6 5 z2 xn_2 xc_2 1 cs_2 w8 fun a_2 an_2 ac_2 w9=>pV (add b 4) (.slice a_2 an_2 ac_2) w9 fun w10=>R N4 Bo8 [(1,.pointer (some p)),(2,.pointer (some x2)),(3,.pointer (some b)),(4,iI (wrap .i64 (s+1)))] w10))):=kR
theorem Ed0 (p:Addr) (b:Addr) :
 xQ Bd6 C R N4 Tryz.f73 Bn3 [(1,.pointer (some p)),(2,.pointer (some x2)),(3,.pointer (some b)),(6,iI i)] h =
 gSl (add p 1) h fun _ xn _=>cond (decide (i<(xn:Int)))
 (gSl (add p 1) h fun z1 xn_1 _=>aSome z1 fun p_1=>ck ((0:Int)≤i∧i<(xn_1:Int)) (gAgg (add (B0 p_1) (Int.toNat i*2)) 2 h fun z2=>nw (.cells B87 false [iI 0,iI 0]) h fun p1 w=>ck (List.length z2=2) (pAgg ⟨p1,0,none⟩ z2 w fun w1=>gSl (add b 4) w1 fun z3 xn_2 xc_2=>gInt .i64 ⟨p1,0,none⟩ w1 fun z4=>gInt .i64 ⟨p1,0,none⟩ w1 fun z5=>gInt .i64 ⟨p1,1,none⟩ w1 fun z6=>nw (.cells B5 false [iI z5,iI z6]) w1 fun p2 w2=>nw (.cells M6 false [iI z4,iI (wrap .i64 (8+i)),iI 0,iI 40,.slice (some ⟨p2,0,none⟩) 2 2]) w2 fun p3 w3=>gCells (some ⟨p3,0,none⟩) (1*5) w3 fun cs=>ckB (fitsOpen z3 M6 w3) (apd M6 5 z3 xn_2 xc_2 1 cs w3 fun a an ac w4=>pV (add b 4) (.slice a an ac) w4 fun w5=>R N4 Bn3 [(1,.pointer (some p)),(2,.pointer (some x2)),(3,.pointer (some b)),(6,iI (wrap .i64 (i+1)))] w5))))
 (gAgg b 5 h fun z7=>ck (List.length z7=5) (pAgg x2 z7 h fun w6=>gAgg x2 5 w6 fun z8=>some (.agg ⟨z8⟩,w6))):=kR
def Az1:Cuts:=⟨2,[(4,[1,3,4]),(8,[1,3,5]),(13,[1,3,5,6,7,9])],[],[(1,⟨[0,1,2,3,4,5,6],[0,0,2,6,15,31,63],[(3,[0])],[]⟩),(2,⟨[0,1,2,3,4,5,6,7,11,12,13,8,9,10,14,15,16,17,18,19],[0,0,2,6,14,0,32,96,254,510,1022,0,2048,6144,14846,32766,65534,131071,262143,524287],[(8,[12])],[]⟩),(6,⟨[0,1,2,3,4,5,6,7,8,9,10,11,12],[0,0,2,6,14,0,32,96,224,510,1023,2047,4095],[(7,[4])],[]⟩),(11,⟨[0,1,2,3,4,5,6,7,8,9,11,12,15,16,18,19,10,13,14,17,20,21,22,23,24,25],[0,1,3,7,0,16,48,112,0,256,1008,0,2048,8176,16368,0,32768,131056,0,262144,1048575,2097151,4194303,4194303,8388607,33554431],[(10,[3,12,16,19])],[]⟩),(15,⟨[0,1,2,3,4,5,6,7],[0,1,0,4,0,28,60,127],[],[]⟩),(16,⟨[0,1,2,3,4,5,6,7,8,9,10,11,12],[0,1,3,7,15,31,63,0,0,0,512,1792,4095],[],[]⟩)]⟩
def Bc5:List Item:=A6 Tryz.f75
def Ba9:List Item:=stk [0,1,0,1,0,1,0,0,1,4,5] Bc5
def At6:List Item:=stk [0,1,0,1,0,1,0,1,0,0,1,4,5] Bc5
def At3:List Item:=stk [0,1,0,1,0,1,0,1,0,0,1,4,5,6,0,1,0,4,0,1,0,1,0,1,4,5] Bc5
theorem G89 (b:List Value) :
 xQ Az1 C R I2 Tryz.f75 Bc5 [(0,.agg ⟨b⟩)] h =
 nw (.cells E6 false b) h fun p1 w=>gAgg ⟨p1,0,none⟩ 5 w fun x=>gSl ⟨p1,0,none⟩ w fun z1 xn xc=>bnd (C Ad7 [.slice z1 xn xc] w) fun r w1=>aPtr r fun z2=>gAgg ⟨p1,0,none⟩ 5 w1 fun z3=>same (.agg ⟨x⟩) (.agg ⟨z3⟩) (ck (List.length x=5) (nw (.cells Gn3 false (x++(.pointer z2::(.pointer none::(.slice none 0 0::[iI 0]))))) w1 fun p2 w2=>gPtr ⟨p2,5,none⟩ w2 fun z4=>gSl ⟨p1,0,none⟩ w2 fun _ xn_1 _=>gSl ⟨p1,1,none⟩ w2 fun z6 xn_2 xc_2=>bnd (C Q5 [.pointer z4,iI (xn_1:Int)] w2) fun q1 w3=>aInt .i64 q1 fun z7=>gSl ⟨p1,1,none⟩ w3 fun z8 xn_3 xc_3=>same (.slice z6 xn_2 xc_2) (.slice z8 xn_3 xc_3) (ck ((0:Int)≤wrap .i64 (64*z7)∧(wrap .i64 (64*z7):Int)≤wrap .i64 (64*z7)∧wrap .i64 (64*z7)≤(A8:Int)) (nw (.cells A5 false (E7 (Int.toNat (wrap .i64 (64*z7))) [.int .u8 0])) w3 fun p3 w4=>bnd (C Ad6 [iI (xn_2:Int)] w4) fun q2 w5=>aPtr q2 fun z9=>nw (.cells El8 false [.slice (some ⟨p3,0,none⟩) (Int.toNat (wrap .i64 (64*z7))) (Int.toNat (wrap .i64 (64*z7))),.slice none 0 0,.slice none 0 0,.pointer z9]) w5 fun p4 w6=>pV ⟨p2,6,none⟩ (pP p4) w6 fun w7=>R I2 Ba9 [(1,pP p1),(3,pP p2),(4,iI 0)] w7)))):=kR
theorem Dv8 (b:Addr) (k:Addr) :
 xQ Az1 C R I2 Tryz.f75 Ba9 [(1,.pointer (some b)),(3,.pointer (some k)),(4,iI i)] h =
 gSl (add b 2) h fun _ xn _=>cond (decide (i<(xn:Int)))
 (gSl (add k 7) h fun z1 xn_1 xc_1=>gInt .i64 (add b 3) h fun z2=>bnd (C Bt4 [iI z2] h) fun r w=>aPtr r fun z3=>gSl (add k 7) w fun z4 xn_2 xc_2=>same (.slice z1 xn_1 xc_1) (.slice z4 xn_2 xc_2) (nw (.cells Bk3 false [.pointer z3]) w fun p1 w1=>gCells (some ⟨p1,0,none⟩) (1*1) w1 fun cs=>ckB (fitsOpen z1 Bk3 w1) (apd Bk3 1 z1 xn_1 xc_1 1 cs w1 fun a an ac w2=>pV (add k 7) (.slice a an ac) w2 fun w3=>R I2 Ba9 [(1,.pointer (some b)),(3,.pointer (some k)),(4,iI (wrap .i64 (i+1)))] w3)))
 (R I2 At6 [(1,.pointer (some b)),(3,.pointer (some k)),(5,iI 0)] h):=kR
theorem Dv0 (b:Addr) (k:Addr) :
 xQ Az1 C R I2 Tryz.f75 At6 [(1,.pointer (some b)),(3,.pointer (some k)),(5,iI i)] h =
 gSl (add b 4) h fun _ xn _=>cond (decide (i<(xn:Int)))
 (gSl (add b 4) h fun z1 xn_1 _=>aSome z1 fun p=>ck ((0:Int)≤i∧i<(xn_1:Int)) (gAgg (add (B0 p) (Int.toNat i*5)) 5 h fun z2=>nw (.cells M6 false [iI 0,iI 0,iI 0,iI 0,.slice none 0 0]) h fun p1 w=>ck (List.length z2=5) (pAgg ⟨p1,0,none⟩ z2 w fun w1=>gPtr (add k 6) w1 fun z3=>gPtr (add k 5) w1 fun z4=>gInt .i64 ⟨p1,0,none⟩ w1 fun z5=>gInt .i64 ⟨p1,1,none⟩ w1 fun z6=>gInt .i64 ⟨p1,2,none⟩ w1 fun z7=>gInt .i64 ⟨p1,3,none⟩ w1 fun z8=>bnd (C Q5 [.pointer z4,iI z5] w1) fun r w2=>aInt .i64 r fun z9=>gPtr (add k 6) w2 fun z10=>same (.pointer z3) (.pointer z10) (gInt .i64 ⟨p1,1,none⟩ w2 fun z11=>same (iI z6) (iI z11) (gInt .i64 ⟨p1,2,none⟩ w2 fun z12=>same (iI z7) (iI z12) (gInt .i64 ⟨p1,3,none⟩ w2 fun z13=>same (iI z8) (iI z13) (bnd (C A50 [.pointer z3,iI (wrap .i64 ((wrap .i64 (64*(wrap .i64 (z9+z6))))+z7)),iI z8] w2) fun q1 w3=>as2 q1 fun q2 q3=>aInt .i64 q2 fun z14=>aInt .i64 q3 fun _=>R I2 At3 [(1,.pointer (some b)),(3,.pointer (some k)),(5,iI i),(6,pP p1),(7,iI z14),(9,iI 0)] w3)))))))
 (some (.pointer (some k),h)):=kR
theorem Dv5 (b:Addr) (k:Addr) (s:Addr) (obj:Int) :
 xQ Az1 C R I2 Tryz.f75 At3 [(1,.pointer (some b)),(3,.pointer (some k)),(5,iI i),(6,.pointer (some s)),(7,iI obj),(9,iI e)] h =
 gSl (add b 1) h fun _ xn _=>cond (decide (e<(xn:Int)))
 (gSl (add s 4) h fun z1 xn_1 xc_1=>gSl (add b 1) h fun z2 xn_2 _=>aSome z2 fun p=>ck ((0:Int)≤e∧e<(xn_2:Int)) (gInt .i64 (add (B0 p) (Int.toNat e*1)) h fun z3=>bnd (C Be7 [.slice z1 xn_1 xc_1,iI z3] h) fun r w=>aBool r fun z4=>cond z4
 (gPtr (add k 6) w fun z5=>aSome z5 fun p_1=>gPtr (add p_1 3) w fun z6=>gInt .i64 (add s 3) w fun z7=>bnd (C Bi2 [.pointer z6,iI e,.agg ⟨[iI obj,iI 3,iI 0,iI z7,iI 0,iI 0]⟩] w) fun q1 w1=>as2 q1 fun q2 q3=>aInt .i64 q2 fun _=>aInt .i64 q3 fun _=>R I2 At3 [(1,.pointer (some b)),(3,.pointer (some k)),(5,iI i),(6,.pointer (some s)),(7,iI obj),(9,iI (wrap .i64 (e+1)))] w1)
 (R I2 At3 [(1,.pointer (some b)),(3,.pointer (some k)),(5,iI i),(6,.pointer (some s)),(7,iI obj),(9,iI (wrap .i64 (e+1)))] w)))
 (R I2 At6 [(1,.pointer (some b)),(3,.pointer (some k)),(5,iI (wrap .i64 (i+1)))] h):=kR
def Bq3:Cuts:=⟨2,[],[],[]⟩
def Dr0:List Item:=A6 Tryz.f89
theorem Gd6 :
 xQ Bq3 C R A46 Tryz.f89 Dr0 [(0,iI g)] h =
 nw (.cells A5 false [.int .u8 (wrap .u8 (g)),.int .u8 211]) h fun b w=>gCells (some ⟨b,0,none⟩) 2 w fun cs=>asBytes cs fun l=>bnd (C Ak9 [.string (ByteArray.mk ⟨l⟩)] w) fun r w1=>aInt .u8 r fun x=>nw (.cells A5 false [.int .u8 x,.int .u8 0]) w1 fun p1 w2=>gCells (some ⟨p1,0,none⟩) 2 w2 fun cs_1=>asBytes cs_1 fun l_1=>ck (ByteArray.size (ByteArray.mk ⟨l⟩)+ByteArray.size (ByteArray.mk ⟨l_1⟩)≤A8) (some (.string ((ByteArray.mk ⟨l⟩)++(ByteArray.mk ⟨l_1⟩)),w2)):=kR
def Ai8:Cuts:=⟨2,[],[(8,[6,8,11,12])],[(7,⟨[0,1,2,3,4,5,6,7,8,9],[0,1,3,7,0,31,63,31,159,511],[(7,[5])],[]⟩)]⟩
def Au8:List Item:=A6 Tryz.f92
def An6:List Item:=stk [0,1,0,1,0,1,0,1,0,1,0,1,0,0] Au8
theorem Dx1 (r:List Value) :
 xQ Ai8 C R O2 Tryz.f92 Au8 [(0,.pointer c),(1,.agg ⟨r⟩),(2,decode)] h =
 nw (.cells E3 false r) h fun b w=>nw (.cells D3 false [iI 0,iI 0,iI 0,iI 0]) w fun p1 w1=>nw (.cells D3 false [iI 0,iI 0,iI 0,iI 0]) w1 fun p2 w2=>gAgg ⟨b,0,none⟩ 2 w2 fun x=>bnd (C S5 [.pointer c,.agg ⟨x⟩] w2) fun q1 w3=>as2 q1 fun q2 q3=>aSl q2 fun z1 xn xc=>aBool q3 fun z2=>cond (!z2)
 (gAgg ⟨p2,0,none⟩ 4 w3 fun z3=>ck (List.length z3=4) (pAgg ⟨p1,0,none⟩ z3 w3 fun w4=>gAgg ⟨p1,0,none⟩ 4 w4 fun z4=>some (.tuple ⟨[.agg ⟨z4⟩,iI 2]⟩,w4)))
 (aFn decode fun g fi cp=>bnd (C g (fi++([.slice z1 xn xc]++cp)) w3) fun q4 w5=>as2 q4 fun q5 q6=>aAgg q5 fun z5=>aInt .i64 q6 fun z6=>nw (.cells D3 false [iI 0,iI 0,iI 0,iI 0]) w5 fun p3 w6=>ck (List.length z5=4) (pAgg ⟨p3,0,none⟩ z5 w6 fun w7=>cond (z6==2)
 (aSome c fun p=>gMap (add p 3) w7 fun z7=>gAgg ⟨b,0,none⟩ 2 w7 fun z8=>keyN PR E3 (.agg ⟨z8⟩) (opt z7 fun q7=>mapAt w7 q7 fun es _=>opt (As0 (iI 0) (.agg ⟨z8⟩) es) fun f=>aInt .i64 f.1 fun z9=>keyN PR E3 (.agg ⟨z8⟩) (opt z7 fun q8=>mapAt w7 q8 fun es_1 cl_1=>opt (Ei0 (iI 0) (.agg ⟨z8⟩) es_1 cl_1) fun f_1=>aInt .i64 f_1.1 fun _=>lt (H.set w7 q8 f_1.2.2) fun w8=>keyN PR E3 (.agg ⟨z8⟩) (opt z7 fun q9=>mapAt w8 q9 fun es_2 _=>opt (As0 (iI 0) (.agg ⟨z8⟩) es_2) fun f_2=>aInt .i64 f_2.1 fun z11=>same (iI z9) (iI z11) (opt z7 fun q10=>mapAt w8 q10 fun es_3 cl_3=>opt (Bu0 (f_1.2.1:Int) es_3 0) fun i=>lt (H.set w8 q10 (.map (modN (fun e=>{ e with val:=iI (wrap .i64 (z9+1)) }) i es_3) cl_3)) fun w9=>R O2 An6 [(6,pP p1),(8,pP p2),(11,pP p3),(12,iI z6)] w9)))))
 (R O2 An6 [(6,pP p1),(8,pP p2),(11,pP p3),(12,iI z6)] w7))):=kR
theorem Bb5 :
 xQ Ai8 C R O2 Tryz.f92 An6 [(6,.pointer (some x6)),(8,.pointer (some nonev)),(11,.pointer (some v)),(12,iI isv)] h =
 cond (isv != 1)
 (gAgg nonev 4 h fun x=>ck (List.length x=4) (pAgg x6 x h fun w=>gAgg x6 4 w fun z1=>some (.tuple ⟨[.agg ⟨z1⟩,iI isv]⟩,w)))
 (gAgg v 4 h fun z2=>ck (List.length z2=4) (pAgg x6 z2 h fun w1=>gAgg x6 4 w1 fun z3=>some (.tuple ⟨[.agg ⟨z3⟩,iI isv]⟩,w1))):=kR
def Ah9:Cuts:=⟨2,[],[(8,[6,8,11,12])],[(7,⟨[0,1,2,3,4,5,6,7,8,9],[0,1,3,7,0,31,63,31,159,511],[(7,[5])],[]⟩)]⟩
def Au0:List Item:=A6 Tryz.f95
def An5:List Item:=stk [0,1,0,1,0,1,0,1,0,1,0,1,0,0] Au0
theorem Dw9 (r:List Value) :
 xQ Ah9 C R L6 Tryz.f95 Au0 [(0,.pointer c),(1,.agg ⟨r⟩),(2,decode)] h =
 nw (.cells E3 false r) h fun b w=>nw (.cells D1 false zZ2) w fun p1 w1=>nw (.cells D1 false zZ2) w1 fun p2 w2=>gAgg ⟨b,0,none⟩ 2 w2 fun x=>bnd (C S5 [.pointer c,.agg ⟨x⟩] w2) fun q1 w3=>as2 q1 fun q2 q3=>aSl q2 fun z1 xn xc=>aBool q3 fun z2=>cond (!z2)
 (gAgg ⟨p2,0,none⟩ 36 w3 fun z3=>ck (List.length z3=36) (pAgg ⟨p1,0,none⟩ z3 w3 fun w4=>gAgg ⟨p1,0,none⟩ 36 w4 fun z4=>some (.tuple ⟨[.agg ⟨z4⟩,iI 2]⟩,w4)))
 (aFn decode fun g fi cp=>bnd (C g (fi++([.slice z1 xn xc]++cp)) w3) fun q4 w5=>as2 q4 fun q5 q6=>aAgg q5 fun z5=>aInt .i64 q6 fun z6=>nw (.cells D1 false zZ2) w5 fun p3 w6=>ck (List.length z5=36) (pAgg ⟨p3,0,none⟩ z5 w6 fun w7=>cond (z6==2)
 (aSome c fun p=>gMap (add p 3) w7 fun z7=>gAgg ⟨b,0,none⟩ 2 w7 fun z8=>keyN PR E3 (.agg ⟨z8⟩) (opt z7 fun q7=>mapAt w7 q7 fun es _=>opt (As0 (iI 0) (.agg ⟨z8⟩) es) fun f=>aInt .i64 f.1 fun z9=>keyN PR E3 (.agg ⟨z8⟩) (opt z7 fun q8=>mapAt w7 q8 fun es_1 cl_1=>opt (Ei0 (iI 0) (.agg ⟨z8⟩) es_1 cl_1) fun f_1=>aInt .i64 f_1.1 fun _=>lt (H.set w7 q8 f_1.2.2) fun w8=>keyN PR E3 (.agg ⟨z8⟩) (opt z7 fun q9=>mapAt w8 q9 fun es_2 _=>opt (As0 (iI 0) (.agg ⟨z8⟩) es_2) fun f_2=>aInt .i64 f_2.1 fun z11=>same (iI z9) (iI z11) (opt z7 fun q10=>mapAt w8 q10 fun es_3 cl_3=>opt (Bu0 (f_1.2.1:Int) es_3 0) fun i=>lt (H.set w8 q10 (.map (modN (fun e=>{ e with val:=iI (wrap .i64 (z9+1)) }) i es_3) cl_3)) fun w9=>R L6 An5 [(6,pP p1),(8,pP p2),(11,pP p3),(12,iI z6)] w9)))))
 (R L6 An5 [(6,pP p1),(8,pP p2),(11,pP p3),(12,iI z6)] w7))):=kR
theorem Be0 :
 xQ Ah9 C R L6 Tryz.f95 An5 [(6,.pointer (some x6)),(8,.pointer (some nonev)),(11,.pointer (some v)),(12,iI isv)] h =
 cond (isv != 1)
 (gAgg nonev 36 h fun x=>ck (List.length x=36) (pAgg x6 x h fun w=>gAgg x6 36 w fun z1=>some (.tuple ⟨[.agg ⟨z1⟩,iI isv]⟩,w)))
 (gAgg v 36 h fun z2=>ck (List.length z2=36) (pAgg x6 z2 h fun w1=>gAgg x6 36 w1 fun z3=>some (.tuple ⟨[.agg ⟨z3⟩,iI isv]⟩,w1))):=kR
def Di6:Cuts:=⟨2,[],[],[]⟩
def Em4:List Item:=A6 Tryz.f96
theorem Ha3 :
 xQ Di6 C R Az0 Tryz.f96 Em4 [(0,iI i)] h =
 nw (.cells E3 false [iI 0,iI 0]) h fun b w=>pAgg ⟨b,0,none⟩ [iI 3,iI i] w fun w1=>gAgg ⟨b,0,none⟩ 2 w1 fun x=>some (.agg ⟨x⟩,w1):=kR
def Av5:Cuts:=⟨2,[],[(8,[8,11,12])],[(7,⟨[0,1,2,3,4,5,6,7,8,9],[0,1,3,7,0,31,63,31,159,511],[(7,[5])],[]⟩)]⟩
def Bi7:List Item:=A6 Tryz.f98
def A31:List Item:=stk [0,1,0,1,0,1,0,1,0,1,0,1,0,0] Bi7
theorem Er4 (r:List Value) :
 xQ Av5 C R W1 Tryz.f98 Bi7 [(0,.pointer c),(1,.agg ⟨r⟩),(2,decode)] h =
 nw (.cells E3 false r) h fun b w=>gAgg ⟨b,0,none⟩ 2 w fun x=>bnd (C S5 [.pointer c,.agg ⟨x⟩] w) fun q1 w1=>as2 q1 fun q2 q3=>aSl q2 fun z1 xn xc=>aBool q3 fun z2=>cond (!z2)
 (some (.tuple ⟨[iI 0,iI 2]⟩,w1))
 (aFn decode fun g fi cp=>bnd (C g (fi++([.slice z1 xn xc]++cp)) w1) fun q4 w2=>as2 q4 fun q5 q6=>aInt .i64 q5 fun z3=>aInt .i64 q6 fun z4=>cond (z4==2)
 (aSome c fun p=>gMap (add p 3) w2 fun z5=>gAgg ⟨b,0,none⟩ 2 w2 fun z6=>keyN PR E3 (.agg ⟨z6⟩) (opt z5 fun q7=>mapAt w2 q7 fun es _=>opt (As0 (iI 0) (.agg ⟨z6⟩) es) fun f=>aInt .i64 f.1 fun z7=>keyN PR E3 (.agg ⟨z6⟩) (opt z5 fun q8=>mapAt w2 q8 fun es_1 cl_1=>opt (Ei0 (iI 0) (.agg ⟨z6⟩) es_1 cl_1) fun f_1=>aInt .i64 f_1.1 fun _=>lt (H.set w2 q8 f_1.2.2) fun w3=>keyN PR E3 (.agg ⟨z6⟩) (opt z5 fun q9=>mapAt w3 q9 fun es_2 _=>opt (As0 (iI 0) (.agg ⟨z6⟩) es_2) fun f_2=>aInt .i64 f_2.1 fun z9=>same (iI z7) (iI z9) (opt z5 fun q10=>mapAt w3 q10 fun es_3 cl_3=>opt (Bu0 (f_1.2.1:Int) es_3 0) fun i=>lt (H.set w3 q10 (.map (modN (fun e=>{ e with val:=iI (wrap .i64 (z7+1)) }) i es_3) cl_3)) fun w4=>R W1 A31 [(8,iI 0),(11,iI z3),(12,iI z4)] w4)))))
 (R W1 A31 [(8,iI 0),(11,iI z3),(12,iI z4)] w2)):=kR
theorem Bw0 (nonev:Int) (v:Int) :
 xQ Av5 C R W1 Tryz.f98 A31 [(8,iI nonev),(11,iI v),(12,iI isv)] h =
 cond (isv != 1)
 (some (.tuple ⟨[iI nonev,iI isv]⟩,h))
 (some (.tuple ⟨[iI v,iI isv]⟩,h)):=kR
def Bw9:Cuts:=⟨2,[],[],[]⟩
def Dv2:List Item:=A6 Tryz.f99
theorem Gm2 :
 xQ Bw9 C R Al2 Tryz.f99 Dv2 [(0,.slice b bn bc)] h =
 cond ((bn:Int) != 4)
 (some (.tuple ⟨[iI 0,iI 2]⟩,h))
 (aSome b fun p=>ck ((0:Int)≤0∧0<(bn:Int)) (gInt .u8 (add (B0 p) (Int.toNat 0*1)) h fun x=>bnd (C Aw0 [iI (wrap .i64 (x))] h) fun r w=>as2 r fun q1 q2=>aSl q1 fun z1 xn _=>aBool q2 fun z2=>bnd (cond (!z2) (some (true,w)) (gCells z1 xn w fun cs=>asBytes cs fun l=>gCells b bn w fun cs_1=>asBytes cs_1 fun l_1=>some (!((ByteArray.mk ⟨l⟩).toList==(ByteArray.mk ⟨l_1⟩).toList),w))) fun c w1=>cond c
 (some (.tuple ⟨[iI 0,iI 2]⟩,w1))
 (aSome b fun p_1=>ck ((0:Int)≤0∧0<(bn:Int)) (gInt .u8 (add (B0 p_1) (Int.toNat 0*1)) w1 fun z3=>some (.tuple ⟨[iI (wrap .i64 (z3)),iI 1]⟩,w1))))):=kR
def Ef8:Cuts:=⟨2,[],[],[]⟩
def Gr0:List Item:=A6 Tryz.f104
theorem If3 :
 xQ Ef8 C R Dm2 Tryz.f104 Gr0 [(0,.pointer c),(1,iI i)] h =
 nw (.cells Q2 false [iI 0,iI 0,.slice none 0 0,.bool false]) h fun b w=>bnd (C Ay0 [.pointer c,iI i] w) fun r w1=>as2 r fun q1 q2=>aAgg q1 fun x=>aInt .i64 q2 fun z1=>nw (.cells D0 false zZ1) w1 fun p1 w2=>ck (List.length x=16) (pAgg ⟨p1,0,none⟩ x w2 fun w3=>cond (z1 != 0)
 (bnd (C A78 [iI z1] w3) fun q3 w4=>aAgg q3 fun z2=>ck (List.length z2=4) (pAgg ⟨b,0,none⟩ z2 w4 fun w5=>gAgg ⟨b,0,none⟩ 4 w5 fun z3=>some (.agg ⟨z3⟩,w5)))
 (bnd (C Ax3 [.pointer c] w3) fun q4 w6=>aInt .i64 q4 fun z4=>cond (decide (z4<0))
 (bnd (C A78 [iI 111] w6) fun q5 w7=>aAgg q5 fun z5=>ck (List.length z5=4) (pAgg ⟨b,0,none⟩ z5 w7 fun w8=>gAgg ⟨b,0,none⟩ 4 w8 fun z6=>some (.agg ⟨z6⟩,w8)))
 (gAgg ⟨p1,0,none⟩ 16 w6 fun z7=>bnd (C I4 [.pointer c,.agg ⟨z7⟩] w6) fun q6 w9=>aInt .i64 q6 fun z8=>cond (z8 != 0)
 (bnd (C A78 [iI z8] w9) fun q7 w10=>aAgg q7 fun z9=>ck (List.length z9=4) (pAgg ⟨b,0,none⟩ z9 w10 fun w11=>gAgg ⟨b,0,none⟩ 4 w11 fun z10=>some (.agg ⟨z10⟩,w11)))
 (pV ⟨p1,1,none⟩ (iI (wrap .i64 (i+1))) w9 fun w12=>pV ⟨p1,4,none⟩ (iI 0) w12 fun w13=>gAgg ⟨p1,0,none⟩ 16 w13 fun z11=>bnd (C O1 [.pointer c,iI z4,.agg ⟨z11⟩] w13) fun q8 w14=>aBool q8 fun z12=>bnd (C A75 [.bool z12,iI z4] w14) fun q9 w15=>aAgg q9 fun z13=>ck (List.length z13=4) (pAgg ⟨b,0,none⟩ z13 w15 fun w16=>gAgg ⟨b,0,none⟩ 4 w16 fun z14=>some (.agg ⟨z14⟩,w16)))))):=kR
def Ex4:Cuts:=⟨2,[],[(7,[1,2])],[]⟩
def Eq7:List Item:=A6 Tryz.f110
def E21:List Item:=stk [0,1,0,1,0,1,0] Eq7
theorem G32 :
 xQ Ex4 C R A40 Tryz.f110 Eq7 [(0,.agg ⟨p⟩)] h =
 nw (.cells D0 false p) h fun b w=>gInt .i64 ⟨b,4,none⟩ w fun x=>gInt .i64 ⟨b,5,none⟩ w fun z1=>gInt .i64 ⟨b,0,none⟩ w fun z2=>bnd (cond (z2 != 1) (some (true,w)) (some ((J8 .i64 (Bx3 .i64 x z1) 65534)==0,w))) fun c w1=>cond c
 (some (.tuple ⟨[iI 0,iI 0]⟩,w1))
 (cond ((J8 .i64 (J8 .i64 (Bx3 .i64 x z1) 65534) 512) != 0)
 (R A40 E21 [(1,pP b),(2,iI 9)] w1)
 (bnd (C Dy9 [.int .u64 (wrap .u64 (J8 .i64 (Bx3 .i64 x z1) 65534))] w1) fun r w2=>aInt .i64 r fun z3=>R A40 E21 [(1,pP b),(2,iI z3)] w2)):=kR
def Gv3:Cuts:=⟨2,[],[],[(3,⟨[0,1,2,3,4],[0,0,0,5,15],[],[]⟩),(5,⟨[0,1,2,3],[0,0,3,7],[],[]⟩),(9,⟨[0,1,2,3,4,5,6,7,8],[0,0,3,7,15,0,31,127,255],[],[]⟩)]⟩
def Hs8:List Item:=A6 Tryz.f113
theorem Jc1 :
 xQ Gv3 C R Dj2 Tryz.f113 Hs8 [(0,.pointer c),(1,iI i),(2,iI fd)] h =
 nw (.cells D3 false [iI 0,iI 0,iI 0,iI 0]) h fun b w=>bnd (C Ay0 [.pointer c,iI i] w) fun r w1=>as2 r fun q1 q2=>aAgg q1 fun x=>aInt .i64 q2 fun z1=>nw (.cells D0 false zZ1) w1 fun p1 w2=>ck (List.length x=16) (pAgg ⟨p1,0,none⟩ x w2 fun w3=>cond (z1 != 0)
 (gAgg ⟨b,0,none⟩ 4 w3 fun z2=>ck (List.length z2=4) (pAgg ⟨b,0,none⟩ z2 w3 fun w4=>gAgg ⟨b,0,none⟩ 4 w4 fun z3=>some (.tuple ⟨[iI 0,.agg ⟨z3⟩,iI z1]⟩,w4)))
 (gAgg ⟨p1,0,none⟩ 16 w3 fun z4=>bnd (C By5 [.agg ⟨z4⟩,iI fd] w3) fun q3 w5=>aBool q3 fun z5=>cond (!z5)
 (gAgg ⟨b,0,none⟩ 4 w5 fun z6=>ck (List.length z6=4) (pAgg ⟨b,0,none⟩ z6 w5 fun w6=>gAgg ⟨b,0,none⟩ 4 w6 fun z7=>some (.tuple ⟨[iI 0,.agg ⟨z7⟩,iI 109]⟩,w6)))
 (ck ((0:Int)≤fd∧fd<((8:Nat):Int)) (gInt .i64 (add ⟨p1,8,none⟩ (Int.toNat fd*1)) w5 fun z8=>bnd (C M8 [.pointer c,iI (wrap .i64 (z8-1))] w5) fun q4 w7=>as2 q4 fun q5 q6=>aAgg q5 fun z9=>aInt .i64 q6 fun z10=>ck (List.length z9=4) (pAgg ⟨b,0,none⟩ z9 w7 fun w8=>cond (z10 != 1)
 (pAgg ⟨b,0,none⟩ [iI 0,iI 0,iI 0,iI 0] w8 fun w9=>gAgg ⟨b,0,none⟩ 4 w9 fun z11=>some (.tuple ⟨[iI 0,.agg ⟨z11⟩,iI 105]⟩,w9))
 (ck ((0:Int)≤fd∧fd<((8:Nat):Int)) (gInt .i64 (add ⟨p1,8,none⟩ (Int.toNat fd*1)) w8 fun z12=>gAgg ⟨b,0,none⟩ 4 w8 fun z13=>ck (List.length z13=4) (pAgg ⟨b,0,none⟩ z13 w8 fun w10=>gAgg ⟨b,0,none⟩ 4 w10 fun z14=>some (.tuple ⟨[iI (wrap .i64 (z12-1)),.agg ⟨z14⟩,iI 0]⟩,w10))))))))):=kR
def Di1:Cuts:=⟨2,[],[],[(1,⟨[1,0,2,3,4,5,6],[0,0,3,7,7,31,63],[(0,[1])],[]⟩)]⟩
def En0:List Item:=A6 Tryz.f116
theorem G88 :
 xQ Di1 C R Be4 Tryz.f116 En0 [(0,.agg ⟨p⟩)] h =
 nw (.cells D0 false p) h fun b w=>gAgg ⟨b,0,none⟩ 16 w fun x=>bnd (C Bl2 [] w) fun r w1=>aPtr r fun z1=>gAgg ⟨b,0,none⟩ 16 w1 fun z2=>same (.agg ⟨x⟩) (.agg ⟨z2⟩) (bnd (C Aa1 [.pointer z1,.agg ⟨x⟩] w1) fun q1 w2=>as2 q1 fun q2 q3=>aSl q2 fun z3 xn xc=>aBool q3 fun z4=>some (.tuple ⟨[.slice z3 xn xc,.bool z4]⟩,w2)):=kR
def Eg5:Cuts:=⟨2,[],[],[]⟩
def Gq0:List Item:=A6 Tryz.f122
theorem H88 (ok:Bool) :
 xQ Eg5 C R A75 Tryz.f122 Gq0 [(0,.bool ok),(1,iI n)] h =
 nw (.cells Q2 false [iI 0,iI 0,.slice none 0 0,.bool false]) h fun b w=>cond (!ok)
 (bnd (C A78 [iI 105] w) fun r w1=>aAgg r fun x=>ck (List.length x=4) (pAgg ⟨b,0,none⟩ x w1 fun w2=>gAgg ⟨b,0,none⟩ 4 w2 fun z1=>some (.agg ⟨z1⟩,w2)))
 (pAgg ⟨b,0,none⟩ [iI n,iI 0,.slice none 0 0,.bool false] w fun w3=>gAgg ⟨b,0,none⟩ 4 w3 fun z2=>some (.agg ⟨z2⟩,w3)):=kR
def By4:Cuts:=⟨2,[(3,[0,2,4,31,32,33]),(8,[0,2,4,49])],[],[(1,⟨[0,1,2,3,4,5,6,7,8,9,10,11,12,13,14,15,16,17,18],[0,1,3,7,0,16,48,112,0,256,768,1792,0,4096,12288,28672,65535,0,262143],[],[]⟩),(13,⟨[0,1,2,3,4,5,6,7,8],[0,0,2,6,6,30,62,63,255],[(5,[0])],[]⟩)]⟩
def Dm5:List Item:=A6 Tryz.f131
def Dl2:List Item:=stk [0,1,0,1,0,0,1,4,5] Dm5
def Dl4:List Item:=stk [0,1,0,1,0,1,0,0,1,4,5] Dm5
theorem H76 :
 xQ By4 C R Ab9 Tryz.f131 Dm5 [(0,.slice b bn bc)] h =
 nw (.cells D0 false zZ1) h fun p1 w=>aSome b fun p=>ck ((0:Int)≤0∧0<(bn:Int)) (gInt .u8 (add (B0 p) (Int.toNat 0*1)) w fun x=>aSome b fun p_1=>ck ((0:Int)≤1∧1<(bn:Int)) (gInt .u8 (add (B0 p_1) (Int.toNat 1*1)) w fun z1=>aSome b fun p_2=>ck ((0:Int)≤2∧2<(bn:Int)) (gInt .u8 (add (B0 p_2) (Int.toNat 2*1)) w fun z2=>aSome b fun p_3=>ck ((0:Int)≤3∧3<(bn:Int)) (gInt .u8 (add (B0 p_3) (Int.toNat 3*1)) w fun z3=>nw (.cells D0 false zZ1) w fun p2 w1=>pAgg ⟨p2,0,none⟩ [iI (wrap .i64 (x)),iI (wrap .i64 (z1)),iI (wrap .i64 (z2)),iI (wrap .i64 (z3)),iI 0,iI 0,iI 0,iI 0,iI 0,iI 0,iI 0,iI 0,iI 0,iI 0,iI 0,iI 0] w1 fun w2=>nw (.cells Ji1 false [.pointer (some ⟨p2,4,none⟩),.pointer (some ⟨p2,5,none⟩),.pointer (some ⟨p2,6,none⟩),.pointer (some ⟨p2,7,none⟩)]) w2 fun p3 w3=>R Ab9 Dl2 [(0,.slice b bn bc),(2,pP p1),(4,pP p2),(31,.slice (some ⟨p3,0,none⟩) 4 4),(32,iI 4),(33,iI 0)] w3)))):=kR
theorem Bd1 (p:Addr) (x31:Option Addr) (x31n x31c:Nat) (x32:Int) (x33:Int) :
 xQ By4 C R Ab9 Tryz.f131 Dl2 [(0,.slice b bn bc),(2,.pointer (some x2)),(4,.pointer (some p)),(31,.slice x31 x31n x31c),(32,iI x32),(33,iI x33)] h =
 cond (decide (x33<x32))
 (aSome x31 fun p_1=>ck ((0:Int)≤x33∧x33<(x31n:Int)) (gPtr (add (B0 p_1) (Int.toNat x33*1)) h fun x=>bnd (C Df2 [.slice b bn bc,iI (wrap .i64 (4+(wrap .i64 (2*x33))))] h) fun r w=>as2 r fun q1 q2=>aInt .i64 q1 fun z1=>aBool q2 fun _=>aSome x fun p_2=>pV p_2 (iI z1) w fun w1=>R Ab9 Dl2 [(0,.slice b bn bc),(2,.pointer (some x2)),(4,.pointer (some p)),(31,.slice x31 x31n x31c),(32,iI x32),(33,iI (wrap .i64 (x33+1)))] w1))
 (R Ab9 Dl4 [(0,.slice b bn bc),(2,.pointer (some x2)),(4,.pointer (some p)),(49,iI 0)] h):=kR
theorem Ac6 (p:Addr) (x49:Int) :
 xQ By4 C R Ab9 Tryz.f131 Dl4 [(0,.slice b bn bc),(2,.pointer (some x2)),(4,.pointer (some p)),(49,iI x49)] h =
 cond (decide (x49<8))
 (aSome b fun p_1=>ck ((0:Int)≤wrap .i64 (12+x49)∧wrap .i64 (12+x49)<(bn:Int)) (gInt .u8 (add (B0 p_1) (Int.toNat (wrap .i64 (12+x49))*1)) h fun x=>ck ((0:Int)≤x49∧x49<((8:Nat):Int)) (pV (add (add p 8) (Int.toNat x49*1)) (iI (wrap .i64 (x))) h fun w=>R Ab9 Dl4 [(0,.slice b bn bc),(2,.pointer (some x2)),(4,.pointer (some p)),(49,iI (wrap .i64 (x49+1)))] w)))
 (gAgg p 16 h fun z1=>bnd (C Be4 [.agg ⟨z1⟩] h) fun r w1=>as2 r fun q1 q2=>aSl q1 fun z2 xn xc=>aBool q2 fun z3=>gAgg p 16 w1 fun z4=>bnd (cond z3 (bnd (C D4 [.slice z2 xn xc,.slice b bn bc] w1) fun q3 w2=>aBool q3 fun z5=>gAgg p 16 w2 fun z6=>same (.agg ⟨z4⟩) (.agg ⟨z6⟩) (some (z5,w2))) (some (false,w1))) fun c w3=>ck (List.length z4=16) (pAgg x2 z4 w3 fun w4=>gAgg x2 16 w4 fun z7=>some (.tuple ⟨[.agg ⟨z7⟩,.bool c]⟩,w4))):=kR
def Ez3:Cuts:=⟨2,[],[],[]⟩
def G27:List Item:=A6 Tryz.f138
theorem Ij8 :
 xQ Ez3 C R Dz1 Tryz.f138 G27 [(0,iI lease)] h =
 nw (.cells Gq7 false [iI (mm2 false (mm2 true lease 1) 1000),.bool false,iI 0,iI 0,iI 0,.slice none 0 0,iI 0,iI 0,iI 0]) h fun b w=>some (pP b,w):=kR
def B55:Cuts:=⟨2,[],[],[]⟩
def D84:List Item:=A6 Tryz.f142
theorem Gx6 (c:List Value) :
 xQ B55 C R Bg1 Tryz.f142 D84 [(0,.pointer s),(1,iI env),(2,.agg ⟨c⟩)] h =
 nw (.cells U3 false c) h fun b w=>bnd (C Ak1 [.pointer s,iI env] w) fun r w1=>aBool r fun x=>bnd (cond (!x) (some (true,w1)) (gInt .i64 ⟨b,1,none⟩ w1 fun z1=>some ((Bx3 .i64 z1 7) != 0,w1))) fun c_1 w2=>bnd (cond c_1 (some (true,w2)) (gInt .i64 ⟨b,2,none⟩ w2 fun z2=>bnd (C Aq9 [iI z2] w2) fun q1 w3=>aBool q1 fun z3=>some (!z3,w3))) fun c_2 w4=>bnd (cond c_2 (some (true,w4)) (gInt .i64 ⟨b,3,none⟩ w4 fun z4=>bnd (C Aq9 [iI z4] w4) fun q2 w5=>aBool q2 fun z5=>some (!z5,w5))) fun c_3 w6=>cond c_3
 (some (.tuple ⟨[iI 0,iI 1]⟩,w6))
 (pAgg ⟨b,4,none⟩ [iI 0,iI 0] w6 fun w7=>gAgg ⟨b,0,none⟩ 6 w7 fun z6=>bnd (C A02 [.pointer s,iI env,.agg ⟨z6⟩] w7) fun q3 w8=>as2 q3 fun q4 q5=>aInt .i64 q4 fun z7=>aInt .i64 q5 fun z8=>some (.tuple ⟨[iI z7,iI z8]⟩,w8)):=kR
def Dl3:Cuts:=⟨2,[],[],[]⟩
def Eo2:List Item:=A6 Tryz.f146
theorem G80 :
 xQ Dl3 C R Bt4 Tryz.f146 Eo2 [(0,iI lease)] h =
 nw (.cells Gp6 false [iI (mm2 false (mm2 true lease 1) 1000),iI 0,iI 0,iI 0,iI 0,iI 0,.bool false,iI 0,.slice none 0 0]) h fun b w=>some (pP b,w):=kR
def A76:Cuts:=⟨2,[],[],[]⟩
def B02:List Item:=A6 Tryz.f151
theorem Ej5 :
 xQ A76 C R Af5 Tryz.f151 B02 [(0,.pointer r),(1,iI env),(2,iI name),(3,iI atv),(4,.slice b bn bc)] h =
 bnd (C Af4 [.pointer r,iI env,iI name,iI 2,iI atv,iI (bn:Int)] h) fun q1 w=>as2 q1 fun q2 q3=>aInt .i64 q2 fun x=>aInt .i64 q3 fun z1=>cond (z1 != 0)
 (some (iI z1,w))
 (aSome r fun p=>gPtr (add p 0) w fun z2=>bnd (C Bo1 [.pointer z2,iI x,.slice b bn bc] w) fun q4 w1=>aInt .i64 q4 fun z3=>some (iI z3,w1)):=kR
def Bx0:Cuts:=⟨2,[],[],[]⟩
def Dw1:List Item:=A6 Tryz.f158
theorem Gl8 (c:List Value) :
 xQ Bx0 C R Ba4 Tryz.f158 Dw1 [(0,.pointer k),(1,iI env),(2,.agg ⟨c⟩)] h =
 nw (.cells A69 false c) h fun b w=>gInt .i64 ⟨b,3,none⟩ w fun x=>bnd (C A06 [.pointer k,iI env,iI x] w) fun r w1=>as2 r fun q1 q2=>aPtr q1 fun z1=>aInt .i64 q2 fun z2=>bnd (cond (z2==0) (gInt .i64 ⟨b,2,none⟩ w1 fun z3=>bnd (C Ba6 [.pointer z1,iI env,iI z3] w1) fun q3 w2=>aBool q3 fun z4=>some (!z4,w2)) (some (false,w1))) fun c_1 w3=>cond c_1
 (some (iI 8,w3))
 (some (iI z2,w3)):=kR
def B37:Cuts:=⟨2,[],[],[(4,⟨[0,1,2,3,4,5,6,7,8,9,10,11],[0,1,3,7,0,31,63,0,128,0,1023,2047],[],[]⟩)]⟩
def D45:List Item:=A6 Tryz.f163
theorem Gx8 (c:List Value) :
 xQ B37 C R Bf3 Tryz.f163 D45 [(0,.pointer s),(1,iI e),(2,.agg ⟨c⟩)] h =
 nw (.cells U3 false c) h fun b w=>aSome s fun p=>gSl (add p 0) w fun x xn _=>aSome x fun p_1=>ck ((0:Int)≤e∧e<(xn:Int)) (gPtr (add (B0 p_1) (Int.toNat e*1)) w fun z1=>bnd (C Ab0 [.pointer z1] w) fun r w1=>as2 r fun q1 q2=>aInt .i64 q1 fun z2=>aBool q2 fun z3=>cond (!z3)
 (some (.tuple ⟨[iI 0,iI 4]⟩,w1))
 (aSome s fun p_2=>gSl (add p_2 1) w1 fun z4 xn_1 _=>aSome z4 fun p_3=>ck ((0:Int)≤e∧e<(xn_1:Int)) (gSl (add (B0 p_3) (Int.toNat e*1)) w1 fun z5 xn_2 _=>gAgg ⟨b,0,none⟩ 6 w1 fun z6=>aSome z5 fun p_4=>ck ((0:Int)≤J8 .i64 z2 255∧J8 .i64 z2 255<(xn_2:Int)) (ck (List.length z6=6) (pAgg (add (B0 p_4) (Int.toNat (J8 .i64 z2 255)*6)) z6 w1 fun w2=>some (.tuple ⟨[iI z2,iI 0]⟩,w2)))))):=kR
def D53:Cuts:=⟨2,[],[],[]⟩
def E51:List Item:=A6 Tryz.f173
theorem Hv5 :
 xQ D53 C R Bp4 Tryz.f173 E51 [] h =
 bnd (C Au7 [iI 40,.func (.func Bv2) ⟨[]⟩ ⟨[]⟩,.func (.func Bu3) ⟨[]⟩ ⟨[]⟩] h) fun r w=>aPtr r fun x=>some (.pointer x,w):=kR
def Do3:Cuts:=⟨2,[(2,[0,6])],[],[]⟩
def Ek6:List Item:=A6 Tryz.f184
def Bu5:List Item:=stk [0,1,0,0,1,4,5] Ek6
theorem Ie2 :
 xQ Do3 C R Ax3 Tryz.f184 Ek6 [(0,.pointer c)] h =
 R Ax3 Bu5 [(0,.pointer c),(6,iI 0)] h:=kR
theorem Ep8 (x6:Int) :
 xQ Do3 C R Ax3 Tryz.f184 Bu5 [(0,.pointer c),(6,iI x6)] h =
 cond (decide (x6<8))
 (bnd (C M7 [.pointer c,iI x6] h) fun r w=>as2 r fun q1 q2=>aAgg q1 fun x=>aInt .i64 q2 fun z1=>nw (.cells D0 false zZ1) w fun b w1=>ck (List.length x=16) (pAgg ⟨b,0,none⟩ x w1 fun w2=>cond (z1==0)
 (some (iI x6,w2))
 (R Ax3 Bu5 [(0,.pointer c),(6,iI (wrap .i64 (x6+1)))] w2)))
 (some (iI (-1),h)):=kR
def Y9:Cuts:=⟨2,[(2,[0,1,7,8])],[],[]⟩
def Aj7:List Item:=A6 Tryz.f208
def U7:List Item:=stk [0,1,0,0,1,4,5] Aj7
theorem B95 :
 xQ Y9 C R I0 Tryz.f208 Aj7 [(0,.slice s sn sc),(1,f)] h =
 R I0 U7 [(0,.slice s sn sc),(1,f),(7,iI (sn:Int)),(8,iI 0)] h:=kR
theorem Ax8 :
 xQ Y9 C R I0 Tryz.f208 U7 [(0,.slice s sn sc),(1,f),(7,iI x7),(8,iI x8)] h =
 cond (decide (x8<x7))
 (aSome s fun p=>ck ((0:Int)≤x8∧x8<(sn:Int)) (gInt .u8 (add (B0 p) (Int.toNat x8*1)) h fun x=>aFn f fun g fi cp=>bnd (C g (fi++([.int .u8 x]++cp)) h) fun r w=>aBool r fun z1=>cond z1
 (some (iI x8,w))
 (R I0 U7 [(0,.slice s sn sc),(1,f),(7,iI x7),(8,iI (wrap .i64 (x8+1)))] w)))
 (some (iI (-1),h)):=kR
def Aj3:Cuts:=⟨2,[],[],[]⟩
def A25:List Item:=A6 Tryz.f215
theorem A23 :
 xQ Aj3 C R G7 Tryz.f215 A25 [(0,.slice s sn sc),(1,f)] h =
 bnd (C E2 [.slice s sn sc,f] h) fun r w=>aInt .i64 r fun x=>some (.bool (decide (x≥0)),w):=kR
def D72:Cuts:=⟨2,[],[],[]⟩
def Gb1:List Item:=A6 Tryz.f216
theorem H13 (c:List Value) :
 xQ D72 C R Dg0 Tryz.f216 Gb1 [(0,.agg ⟨c⟩),(1,.agg ⟨x⟩)] h =
 nw (.cells E6 false c) h fun b w=>nw (.cells M6 false x) w fun p1 w1=>gInt .i64 ⟨p1,0,none⟩ w1 fun z1=>bnd (cond (decide (z1<0)) (some (true,w1)) (gInt .i64 ⟨p1,0,none⟩ w1 fun z2=>gSl ⟨b,0,none⟩ w1 fun _ xn _=>some (decide (z2≥(xn:Int)),w1))) fun c_1 w2=>bnd (cond c_1 (some (true,w2)) (gInt .i64 ⟨p1,1,none⟩ w2 fun z4=>some (decide (z4<0),w2))) fun c_2 w3=>bnd (cond c_2 (some (true,w3)) (gInt .i64 ⟨p1,2,none⟩ w3 fun z5=>some (decide (z5<0),w3))) fun c_3 w4=>bnd (cond c_3 (some (true,w4)) (gInt .i64 ⟨p1,3,none⟩ w4 fun z6=>some (decide (z6<0),w4))) fun c_4 w5=>cond c_4
 (some (.bool false,w5))
 (gSl ⟨b,0,none⟩ w5 fun z7 xn_1 _=>gInt .i64 ⟨p1,0,none⟩ w5 fun z8=>aSome z7 fun p=>ck ((0:Int)≤z8∧z8<(xn_1:Int)) (gInt .i64 (add (B0 p) (Int.toNat z8*1)) w5 fun z9=>bnd (C Bk5 [iI z9] w5) fun r w6=>aInt .i64 r fun z10=>gInt .i64 ⟨p1,1,none⟩ w6 fun z11=>cond (decide (z11>z10))
 (some (.bool false,w6))
 (gInt .i64 ⟨p1,1,none⟩ w6 fun z12=>gInt .i64 ⟨p1,2,none⟩ w6 fun z13=>bnd (cond (decide (z13≤(wrap .i64 ((wrap .i64 (z10-z12))*64)))) (gInt .i64 ⟨p1,3,none⟩ w6 fun z14=>gInt .i64 ⟨p1,2,none⟩ w6 fun z15=>some (decide (z14≤(wrap .i64 ((wrap .i64 ((wrap .i64 (z10-z12))*64))-z15))),w6)) (some (false,w6))) fun c_5 w7=>some (.bool c_5,w7)))):=kR
def B45:Cuts:=⟨2,[],[],[(1,⟨[0,1,2,3,4,5,6,7,8,9,10,11,12,13],[0,1,3,7,0,31,63,0,255,511,1023,1023,2047,8191],[],[]⟩)]⟩
def D92:List Item:=A6 Tryz.f220
theorem Gr6 (c:List Value) :
 xQ B45 C R A02 Tryz.f220 D92 [(0,.pointer s),(1,iI env),(2,.agg ⟨c⟩)] h =
 nw (.cells U3 false c) h fun b w=>aSome s fun p=>gSl (add p 0) w fun x xn _=>aSome x fun p_1=>ck ((0:Int)≤env∧env<(xn:Int)) (gPtr (add (B0 p_1) (Int.toNat env*1)) w fun z1=>gAgg ⟨b,0,none⟩ 6 w fun z2=>bnd (C L8 [.pointer z1,.agg ⟨z2⟩] w) fun r w1=>as2 r fun q1 q2=>aInt .i64 q1 fun z3=>aBool q2 fun z4=>cond (!z4)
 (some (.tuple ⟨[iI 0,iI 4]⟩,w1))
 (some (.tuple ⟨[iI z3,iI 0]⟩,w1))):=kR
def A91:Cuts:=⟨2,[],[],[(6,⟨[0,1,2,3,4,5,6,7,8,9,10,11,12,13,14,15,16,17,18,19,20,21,22,23,24,25,26,27,28,29,30,31,32,33,34,35],[0,1,3,7,15,31,63,127,127,383,1023,2047,4095,8191,8191,24575,8191,122879,262143,524287,1048575,2097151,4194303,8388607,16777215,33554431,67108863,134217727,67108863,335544319,872415231,1946157055,4093640703,8589934591,17179869183,34359738367],[],[]⟩),(8,⟨[0,1,2,3,4,5,6,7,8,9],[0,1,3,7,0,16,63,127,0,511],[],[]⟩)]⟩
def Bz6:List Item:=A6 Tryz.f222
theorem Ej7 (right:Int) :
 xQ A91 C R Af4 Tryz.f222 Bz6 [(0,.pointer r),(1,iI env),(2,iI name),(3,iI right),(4,iI atv),(5,iI n)] h =
 aSome r fun p=>gPtr (add p 1) h fun x=>bnd (C Az9 [.pointer x,iI env,iI name] h) fun q1 w=>as2 q1 fun q2 q3=>aAgg q2 fun z1=>aInt .i64 q3 fun z2=>nw (.cells U3 false [iI 0,iI 0,iI 0,iI 0,iI 0,iI 0]) w fun b w1=>ck (List.length z1=6) (pAgg ⟨b,0,none⟩ z1 w1 fun w2=>cond (z2 != 0)
 (some (.tuple ⟨[iI 0,iI z2]⟩,w2))
 (gInt .i64 ⟨b,1,none⟩ w2 fun z3=>cond ((J8 .i64 z3 right)==0)
 (some (.tuple ⟨[iI 0,iI 3]⟩,w2))
 (bnd (cond (decide (atv<0)) (some (true,w2)) (some (decide (n<0),w2))) fun c w3=>bnd (cond c (some (true,w3)) (gInt .i64 ⟨b,3,none⟩ w3 fun z4=>some (decide (atv>z4),w3))) fun c_1 w4=>bnd (cond c_1 (some (true,w4)) (gInt .i64 ⟨b,3,none⟩ w4 fun z5=>some (decide (n>(wrap .i64 (z5-atv))),w4))) fun c_2 w5=>bnd (cond c_2 (some (true,w5)) (gInt .i64 ⟨b,0,none⟩ w5 fun z6=>some (decide (z6<0),w5))) fun c_3 w6=>bnd (cond c_3 (some (true,w6)) (gInt .i64 ⟨b,0,none⟩ w6 fun z7=>aSome r fun p_1=>gSl (add p_1 2) w6 fun _ xn _=>some (decide (z7≥(xn:Int)),w6))) fun c_4 w7=>cond c_4
 (some (.tuple ⟨[iI 0,iI 1]⟩,w7))
 (aSome r fun p_2=>gSl (add p_2 2) w7 fun z9 xn_1 _=>gInt .i64 ⟨b,0,none⟩ w7 fun z10=>aSome z9 fun p_3=>ck ((0:Int)≤z10∧z10<(xn_1:Int)) (gAgg (add (B0 p_3) (Int.toNat z10*2)) 2 w7 fun z11=>nw (.cells A36 false [iI 0,iI 0]) w7 fun p1 w8=>ck (List.length z11=2) (pAgg ⟨p1,0,none⟩ z11 w8 fun w9=>gInt .i64 ⟨b,2,none⟩ w9 fun z12=>gInt .i64 ⟨p1,1,none⟩ w9 fun z13=>bnd (cond (decide ((wrap .i64 (z12+atv))>z13)) (some (true,w9)) (gInt .i64 ⟨p1,1,none⟩ w9 fun z14=>gInt .i64 ⟨b,2,none⟩ w9 fun z15=>some (decide (n>(wrap .i64 ((wrap .i64 (z14-z15))-atv))),w9))) fun c_5 w10=>cond c_5
 (some (.tuple ⟨[iI 0,iI 1]⟩,w10))
 (gInt .i64 ⟨p1,0,none⟩ w10 fun z16=>gInt .i64 ⟨b,2,none⟩ w10 fun z17=>some (.tuple ⟨[iI (wrap .i64 ((wrap .i64 (z16+z17))+atv)),iI 0]⟩,w10)))))))):=kR
def Dd1:Cuts:=⟨2,[],[],[]⟩
def Eb4:List Item:=A6 Tryz.f224
theorem G04 :
 xQ Dd1 C R Bo1 Tryz.f224 Eb4 [(0,.pointer m),(1,iI atv),(2,.slice b bn bc)] h =
 bnd (C Bq9 [.pointer m,iI atv,iI (bn:Int)] h) fun r w=>aBool r fun x=>cond (!x)
 (some (iI 1,w))
 (aSome m fun p=>gSl (add p 0) w fun z1 xn xc=>ckB (fitsOpen z1 A5 w) (ck ((0:Int)≤atv∧atv≤(xn:Int)) (gCells b (min bn (xn-(Int.toNat atv))*1) w fun cs=>pCells (E1 z1 (decide (Int.toNat atv<xc)) ((Int.toNat atv)*1)) cs w fun w1=>some (iI 0,w1)))):=kR
def B40:Cuts:=⟨2,[],[],[(1,⟨[0,1,2,3,4,5,6,7,8,9,10,11,12,13,14,15,16,17,18,19,20,21,22,23,24,25,26,27,28],[0,1,3,7,7,23,55,119,247,511,1023,2047,4095,8191,16383,32767,4095,131071,262143,4095,528383,1576959,3674111,4095,16257023,33034239,67108863,134217727,268435455],[],[]⟩)]⟩
def D66:List Item:=A6 Tryz.f230
theorem Gr2 :
 xQ B40 C R A06 Tryz.f230 D66 [(0,.pointer k),(1,iI env),(2,iI n)] h =
 bnd (cond (decide (n<0)) (some (true,h)) (aSome k fun p=>gSl (add p 6) h fun _ xn _=>some (decide (n≥(xn:Int)),h))) fun c w=>bnd (cond c (some (true,w)) (aSome k fun p_1=>gSl (add p_1 1) w fun z1 xn_1 _=>aSome z1 fun p_2=>ck ((0:Int)≤n∧n<(xn_1:Int)) (gSl (add (B0 p_2) (Int.toNat n*1)) w fun z2 xn_2 xc_2=>aSome k fun p_3=>gSl (add p_3 0) w fun z3 xn_3 _=>aSome z3 fun p_4=>ck ((0:Int)≤env∧env<(xn_3:Int)) (gInt .i64 (add (B0 p_4) (Int.toNat env*1)) w fun z4=>bnd (C P7 [.slice z2 xn_2 xc_2,iI z4] w) fun r w1=>aBool r fun z5=>some (!z5,w1))))) fun c_1 w2=>cond c_1
 (some (.tuple ⟨[.pointer none,iI 8]⟩,w2))
 (aSome k fun p_5=>gSl (add p_5 6) w2 fun z6 xn_4 _=>aSome z6 fun p_6=>ck ((0:Int)≤n∧n<(xn_4:Int)) (gPtr (add (B0 p_6) (Int.toNat n*1)) w2 fun z7=>some (.tuple ⟨[.pointer z7,iI 0]⟩,w2))):=kR
def Eg4:Cuts:=⟨2,[],[],[(1,⟨[0,1,2,3,4,5,6,7,8,9,10,11,12,13,14,15,16,17,18],[0,1,3,7,0,16,48,112,0,256,768,1792,0,4096,12288,28672,65535,0,262143],[],[]⟩),(3,⟨[0,1,2,3,4,5,6,7,8],[0,0,2,6,6,30,62,63,255],[(5,[0])],[]⟩)]⟩
def Gq8:List Item:=A6 Tryz.f239
theorem H85 :
 xQ Eg4 C R Ay3 Tryz.f239 Gq8 [(0,.slice b bn bc)] h =
 nw (.cells D3 false [iI 0,iI 0,iI 0,iI 0]) h fun p1 w=>aSome b fun p=>ck ((0:Int)≤0∧0<(bn:Int)) (gInt .u8 (add (B0 p) (Int.toNat 0*1)) w fun x=>aSome b fun p_1=>ck ((0:Int)≤1∧1<(bn:Int)) (gInt .u8 (add (B0 p_1) (Int.toNat 1*1)) w fun z1=>aSome b fun p_2=>ck ((0:Int)≤2∧2<(bn:Int)) (gInt .u8 (add (B0 p_2) (Int.toNat 2*1)) w fun z2=>aSome b fun p_3=>ck ((0:Int)≤3∧3<(bn:Int)) (gInt .u8 (add (B0 p_3) (Int.toNat 3*1)) w fun z3=>nw (.cells D3 false [iI 0,iI 0,iI 0,iI 0]) w fun p2 w1=>pAgg ⟨p2,0,none⟩ [iI (wrap .i64 (x)),iI (wrap .i64 (z1)),iI (wrap .i64 (z2)),iI (wrap .i64 (z3))] w1 fun w2=>gAgg ⟨p2,0,none⟩ 4 w2 fun z4=>bnd (C Bc7 [.agg ⟨z4⟩] w2) fun r w3=>as2 r fun q1 q2=>aSl q1 fun z5 xn xc=>aBool q2 fun z6=>gAgg ⟨p2,0,none⟩ 4 w3 fun z7=>bnd (cond z6 (bnd (C D4 [.slice z5 xn xc,.slice b bn bc] w3) fun q3 w4=>aBool q3 fun z8=>gAgg ⟨p2,0,none⟩ 4 w4 fun z9=>same (.agg ⟨z7⟩) (.agg ⟨z9⟩) (some (z8,w4))) (some (false,w3))) fun c w5=>ck (List.length z7=4) (pAgg ⟨p1,0,none⟩ z7 w5 fun w6=>gAgg ⟨p1,0,none⟩ 4 w6 fun z10=>some (.tuple ⟨[.agg ⟨z10⟩,.bool c]⟩,w6)))))):=kR
def Er8:Cuts:=⟨2,[],[],[(1,⟨[0,1,2,3,4,5,6,7,8,9,10,11,12,13,14,15,16,17,18],[0,1,3,7,0,16,48,112,0,256,768,1792,0,4096,12288,28672,65535,0,262143],[],[]⟩),(2,⟨[0,1,2,3,4],[0,1,0,4,15],[],[]⟩),(4,⟨[0,1,2,3,4,5,6,7,8],[0,0,2,6,6,30,62,63,255],[(5,[0])],[]⟩)]⟩
def G09:List Item:=A6 Tryz.f242
theorem In0 :
 xQ Er8 C R Bu3 Tryz.f242 G09 [(0,.slice b bn bc)] h =
 nw (.cells D1 false zZ2) h fun p1 w=>aSome b fun p=>ck ((0:Int)≤1∧1<(bn:Int)) (gInt .u8 (add (B0 p) (Int.toNat 1*1)) w fun x=>aSome b fun p_1=>ck ((0:Int)≤2∧2<(bn:Int)) (gInt .u8 (add (B0 p_1) (Int.toNat 2*1)) w fun z1=>aSome b fun p_2=>ck ((0:Int)≤3∧3<(bn:Int)) (gInt .u8 (add (B0 p_2) (Int.toNat 3*1)) w fun z2=>aSome b fun p_3=>ck ((0:Int)≤4∧4<(bn:Int)) (gInt .u8 (add (B0 p_3) (Int.toNat 4*1)) w fun z3=>nw (.cells D1 false zZ2) w fun p2 w1=>pAgg ⟨p2,0,none⟩ [iI (wrap .i64 (x)),iI (wrap .i64 (z1)),iI (wrap .i64 (z2)),iI (wrap .i64 (z3)),.int .u8 0,.int .u8 0,.int .u8 0,.int .u8 0,.int .u8 0,.int .u8 0,.int .u8 0,.int .u8 0,.int .u8 0,.int .u8 0,.int .u8 0,.int .u8 0,.int .u8 0,.int .u8 0,.int .u8 0,.int .u8 0,.int .u8 0,.int .u8 0,.int .u8 0,.int .u8 0,.int .u8 0,.int .u8 0,.int .u8 0,.int .u8 0,.int .u8 0,.int .u8 0,.int .u8 0,.int .u8 0,.int .u8 0,.int .u8 0,.int .u8 0,.int .u8 0] w1 fun w2=>ckB (liveA ⟨p2,4,none⟩ w2) (ckB (fitsOpen b A5 w2) (ck ((0:Int)≤8∧8≤(bn:Int)) (gCells (E1 b (decide (Int.toNat 8<bc)) ((Int.toNat 8)*1)) (min (bn-(Int.toNat 8)) (32-0)*1) w2 fun cs=>pCells (E1 (some ⟨p2,4,none⟩) (decide (0<32)) (0*1)) cs w2 fun w3=>gAgg ⟨p2,0,none⟩ 36 w3 fun z4=>bnd (C Bk9 [.agg ⟨z4⟩] w3) fun r w4=>as2 r fun q1 q2=>aSl q1 fun z5 xn xc=>aBool q2 fun z6=>gAgg ⟨p2,0,none⟩ 36 w4 fun z7=>bnd (cond z6 (bnd (C D4 [.slice z5 xn xc,.slice b bn bc] w4) fun q3 w5=>aBool q3 fun z8=>gAgg ⟨p2,0,none⟩ 36 w5 fun z9=>same (.agg ⟨z7⟩) (.agg ⟨z9⟩) (some (z8,w5))) (some (false,w4))) fun c w6=>ck (List.length z7=36) (pAgg ⟨p1,0,none⟩ z7 w6 fun w7=>gAgg ⟨p1,0,none⟩ 36 w7 fun z10=>some (.tuple ⟨[.agg ⟨z10⟩,.bool c]⟩,w7))))))))):=kR
def D41:Cuts:=⟨2,[],[],[]⟩
def E94:List Item:=A6 Tryz.f247
theorem H00 (k:Int) :
 xQ D41 C R Bc3 Tryz.f247 E94 [(0,iI k),(1,.pointer (some fv0))] h =
 gPtr fv0 h fun x=>bnd (C Q8 [.pointer x,iI k] h) fun r w=>as2 r fun q1 q2=>aAgg q1 fun z1=>aInt .i64 q2 fun z2=>nw (.cells D1 false zZ2) w fun b w1=>ck (List.length z1=36) (pAgg ⟨b,0,none⟩ z1 w1 fun w2=>some (.bool (z2==0),w2)):=kR
def Eg0:Cuts:=⟨2,[],[],[(6,⟨[0,1,2,3,4],[0,0,2,7,15],[(2,[0])],[]⟩)]⟩
def Go7:List Item:=A6 Tryz.f255
theorem Ia8 :
 xQ Eg0 C R Dn9 Tryz.f255 Go7 [(0,.agg ⟨p⟩),(1,iI n)] h =
 nw (.cells D1 false p) h fun b w=>nw (.cells D1 false zZ2) w fun p1 w1=>gAgg ⟨b,0,none⟩ 36 w1 fun x=>bnd (C Aq7 [.agg ⟨x⟩] w1) fun r w2=>aSl r fun z1 xn xc=>ckB (fitsOpen z1 A5 w2) (ck ((0:Int)≤mm2 false (mm2 true n 0) (xn:Int)∧mm2 false (mm2 true n 0) (xn:Int)≤(xc:Int)) (cond (decide ((((Int.toNat (mm2 false (mm2 true n 0) (xn:Int)))-0:Nat):Int)>0))
 (gInt .i64 ⟨b,0,none⟩ w2 fun z2=>pV ⟨b,0,none⟩ (iI (Int.tmod (wrap .i64 (z2+(((Int.toNat (mm2 false (mm2 true n 0) (xn:Int)))-0:Nat):Int))) 32)) w2 fun w3=>gInt .i64 ⟨b,1,none⟩ w3 fun z3=>pV ⟨b,1,none⟩ (iI (wrap .i64 (z3-(((Int.toNat (mm2 false (mm2 true n 0) (xn:Int)))-0:Nat):Int)))) w3 fun w4=>gAgg ⟨b,0,none⟩ 36 w4 fun z4=>bnd (C Y8 [.slice (E1 z1 (decide (0<xc)) (0*1)) ((Int.toNat (mm2 false (mm2 true n 0) (xn:Int)))-0) (xc-0)] w4) fun q1 w5=>aSl q1 fun z5 xn_1 xc_1=>gAgg ⟨b,0,none⟩ 36 w5 fun z6=>same (.agg ⟨z4⟩) (.agg ⟨z6⟩) (ck (List.length z4=36) (pAgg ⟨p1,0,none⟩ z4 w5 fun w6=>gAgg ⟨p1,0,none⟩ 36 w6 fun z7=>some (.tuple ⟨[.agg ⟨z7⟩,.slice z5 xn_1 xc_1]⟩,w6))))
 (gAgg ⟨b,0,none⟩ 36 w2 fun z8=>bnd (C Y8 [.slice (E1 z1 (decide (0<xc)) (0*1)) ((Int.toNat (mm2 false (mm2 true n 0) (xn:Int)))-0) (xc-0)] w2) fun q2 w7=>aSl q2 fun z9 xn_2 xc_2=>gAgg ⟨b,0,none⟩ 36 w7 fun z10=>same (.agg ⟨z8⟩) (.agg ⟨z10⟩) (ck (List.length z8=36) (pAgg ⟨p1,0,none⟩ z8 w7 fun w8=>gAgg ⟨p1,0,none⟩ 36 w8 fun z11=>some (.tuple ⟨[.agg ⟨z11⟩,.slice z9 xn_2 xc_2]⟩,w8)))))):=kR
def Dz5:Cuts:=⟨2,[(5,[2,4,6,13,14,15])],[],[]⟩
def Ew8:List Item:=A6 Tryz.f257
def B25:List Item:=stk [0,1,0,1,0,1,0,0,1,4,5] Ew8
theorem Iq5 :
 xQ Dz5 C R A64 Tryz.f257 Ew8 [(0,.agg ⟨p⟩),(1,.slice b bn bc)] h =
 nw (.cells D1 false p) h fun p1 w=>nw (.cells D1 false zZ2) w fun p2 w1=>gAgg ⟨p1,0,none⟩ 36 w1 fun x=>bnd (C B76 [.agg ⟨x⟩] w1) fun r w2=>aBool r fun z1=>cond (!z1)
 (gAgg ⟨p1,0,none⟩ 36 w2 fun z2=>ck (List.length z2=36) (pAgg ⟨p2,0,none⟩ z2 w2 fun w3=>gAgg ⟨p2,0,none⟩ 36 w3 fun z3=>some (.tuple ⟨[.agg ⟨z3⟩,iI 0]⟩,w3)))
 (R A64 B25 [(2,pP p1),(4,pP p2),(6,iI 0),(13,.slice b bn bc),(14,iI (bn:Int)),(15,iI 0)] w2):=kR
theorem E12 (p:Addr) (x4:Addr) (x13:Option Addr) (x13n x13c:Nat) (x14:Int) (x15:Int) :
 xQ Dz5 C R A64 Tryz.f257 B25 [(2,.pointer (some p)),(4,.pointer (some x4)),(6,iI n),(13,.slice x13 x13n x13c),(14,iI x14),(15,iI x15)] h =
 cond (decide (x15<x14))
 (aSome x13 fun p_1=>ck ((0:Int)≤x15∧x15<(x13n:Int)) (gInt .u8 (add (B0 p_1) (Int.toNat x15*1)) h fun x=>gInt .i64 (add p 1) h fun z1=>cond (z1==32)
 (gAgg p 36 h fun z2=>ck (List.length z2=36) (pAgg x4 z2 h fun w=>gAgg x4 36 w fun z3=>some (.tuple ⟨[.agg ⟨z3⟩,iI n]⟩,w)))
 (gInt .i64 (add p 0) h fun z4=>gInt .i64 (add p 1) h fun z5=>ck ((0:Int)≤Int.tmod (wrap .i64 (z4+z5)) 32∧Int.tmod (wrap .i64 (z4+z5)) 32<((32:Nat):Int)) (pV (add (add p 4) (Int.toNat (Int.tmod (wrap .i64 (z4+z5)) 32)*1)) (.int .u8 x) h fun w1=>gInt .i64 (add p 1) w1 fun z6=>pV (add p 1) (iI (wrap .i64 (z6+1))) w1 fun w2=>R A64 B25 [(2,.pointer (some p)),(4,.pointer (some x4)),(6,iI (wrap .i64 (n+1))),(13,.slice x13 x13n x13c),(14,iI x14),(15,iI (wrap .i64 (x15+1)))] w2))))
 (gAgg p 36 h fun z7=>ck (List.length z7=36) (pAgg x4 z7 h fun w3=>gAgg x4 36 w3 fun z8=>some (.tuple ⟨[.agg ⟨z8⟩,iI n]⟩,w3))):=kR
def D24:Cuts:=⟨2,[],[],[]⟩
def Ga6:List Item:=A6 Tryz.f269
theorem Hw7 (without:Int) :
 xQ D24 C R Aq1 Tryz.f269 Ga6 [(0,iI n),(1,iI without)] h =
 bnd (cond ((Bx3 .i64 n 65534)==0) (some ((J8 .i64 n without)==0,h)) (some (false,h))) fun c w=>some (.bool c,w):=kR
def D73:Cuts:=⟨2,[],[],[]⟩
def E56:List Item:=A6 Tryz.f270
theorem Hy0 (f:Int) :
 xQ D73 C R Bp6 Tryz.f270 E56 [(0,iI f)] h =
 bnd (cond (decide (f<0)) (some (true,h)) (some (decide (f>12),h))) fun c w=>some (.bool c,w):=kR
def Ac2:Cuts:=⟨2,[(2,[0,1,7,8])],[],[]⟩
def Ao1:List Item:=A6 Tryz.f271
def P8:List Item:=stk [0,1,0,0,1,4,5] Ao1
theorem Bd4 :
 xQ Ac2 C R E2 Tryz.f271 Ao1 [(0,.slice s sn sc),(1,f)] h =
 R E2 P8 [(0,.slice s sn sc),(1,f),(7,iI (sn:Int)),(8,iI 0)] h:=kR
theorem W7 :
 xQ Ac2 C R E2 Tryz.f271 P8 [(0,.slice s sn sc),(1,f),(7,iI x7),(8,iI x8)] h =
 cond (decide (x8<x7))
 (aSome s fun p=>ck ((0:Int)≤x8∧x8<(sn:Int)) (gInt .i64 (add (B0 p) (Int.toNat x8*1)) h fun x=>aFn f fun g fi cp=>bnd (C g (fi++([iI x]++cp)) h) fun r w=>aBool r fun z1=>cond z1
 (some (iI x8,w))
 (R E2 P8 [(0,.slice s sn sc),(1,f),(7,iI x7),(8,iI (wrap .i64 (x8+1)))] w)))
 (some (iI (-1),h)):=kR
def D62:Cuts:=⟨2,[],[],[]⟩
def E97:List Item:=A6 Tryz.f273
theorem H29 :
 xQ D62 C R Bq9 Tryz.f273 E97 [(0,.pointer m),(1,iI atv),(2,iI n)] h =
 bnd (cond (decide (atv≥0)) (some (decide (n≥0),h)) (some (false,h))) fun c w=>bnd (cond c (aSome m fun p=>gSl (add p 0) w fun _ xn _=>some (decide (atv≤(xn:Int)),w)) (some (false,w))) fun c_1 w1=>bnd (cond c_1 (aSome m fun p_1=>gSl (add p_1 0) w1 fun _ xn_1 _=>some (decide (n≤(wrap .i64 ((xn_1:Int)-atv))),w1)) (some (false,w1))) fun c_2 w2=>some (.bool c_2,w2):=kR
def E61:Cuts:=⟨2,[],[],[]⟩
def Hi5:List Item:=A6 Tryz.f280
theorem I19 :
 xQ E61 C R B76 Tryz.f280 Hi5 [(0,.agg ⟨p⟩)] h =
 nw (.cells D1 false p) h fun b w=>gInt .i64 ⟨b,0,none⟩ w fun x=>bnd (C Ay4 [iI x,iI 31] w) fun r w1=>aBool r fun z1=>bnd (cond z1 (gInt .i64 ⟨b,1,none⟩ w1 fun z2=>bnd (C Ay4 [iI z2,iI 32] w1) fun q1 w2=>aBool q1 fun z3=>some (z3,w2)) (some (false,w1))) fun c w3=>bnd (cond c (gInt .i64 ⟨b,2,none⟩ w3 fun z4=>bnd (C Ay4 [iI z4,iI 8] w3) fun q2 w4=>aBool q2 fun z5=>some (z5,w4)) (some (false,w3))) fun c_1 w5=>bnd (cond c_1 (gInt .i64 ⟨b,3,none⟩ w5 fun z6=>bnd (C Ay4 [iI z6,iI 8] w5) fun q3 w6=>aBool q3 fun z7=>some (z7,w6)) (some (false,w5))) fun c_2 w7=>some (.bool c_2,w7):=kR
def Du9:Cuts:=⟨2,[],[],[]⟩
def E20:List Item:=A6 Tryz.f282
theorem Hn4 :
 xQ Du9 C R Bj0 Tryz.f282 E20 [(0,iI i),(1,.pointer (some fv0))] h =
 ck ((0:Int)≤i∧i<((8:Nat):Int)) (gInt .i64 (add (add fv0 8) (Int.toNat i*1)) h fun x=>some (.bool (x==0),h)):=kR
def Ej6:Cuts:=⟨2,[],[],[]⟩
def Gp2:List Item:=A6 Tryz.f291
theorem Ic4 (A8:Int) :
 xQ Ej6 C R Ay4 Tryz.f291 Gp2 [(0,iI n),(1,iI A8)] h =
 bnd (cond (decide (n≥0)) (some (decide (n≤A8),h)) (some (false,h))) fun c w=>some (.bool c,w):=kR
end
end Go.EQ

set_option maxRecDepth 100000
namespace Go.EQ
open Go Go.NN Go.Proofs
open Go.IntKind (wrap)
open Go.Addr (add)
variable (C:D8) (R:Ad8) (dov fv0 hs q v x4:Addr) (h:H) (a atv done e env fd first g hi how i j n name root size to who x13 x21 x22 x59 x90 x91:Int) (f p r x:List Value) (bc bn datac datan lc ln outc outn sc sn x20c x20n x89c x89n:Nat) (b c data k l m out s t w x20 x89:Option Addr) (cmp:Value)
noncomputable section
def Bx5:Cuts:=⟨2,[],[],[(1,⟨[0,1,2,3,4,5,6,7,8,9,10,11,12,13,14,15],[0,0,2,6,14,0,32,96,224,510,1022,2046,2046,4095,12287,28671],[],[]⟩)]⟩
def Dv7:List Item:=A6 Tryz.f11
theorem Gk4 :
 xQ Bx5 C R Ba2 Tryz.f11 Dv7 [(0,.pointer w)] h =
 bnd (C Az8 [.pointer w] h) fun r w1=>as0 r (aSome w fun p=>gPtr (add p 0) w1 fun x=>aSome w fun p_1=>gInt .i64 (add p_1 1) w1 fun z1=>bnd (C At0 [.pointer x,iI z1] w1) fun q1 w2=>as2 q1 fun q2 q3=>aPtr q2 fun z2=>aInt .i64 q3 fun _=>aSome w fun p_2=>pV (add p_2 4) (.pointer z2) w2 fun w3=>some (.tuple ⟨[]⟩,w3)):=kR
def A81:Cuts:=⟨2,[],[],[]⟩
def B08:List Item:=A6 Tryz.f13
theorem El1 :
 xQ A81 C R M7 Tryz.f13 B08 [(0,.pointer c),(1,iI i)] h =
 nw (.cells D0 false zZ1) h fun b w=>bnd (C Bd0 [iI i] w) fun r w1=>aAgg r fun x=>bnd (C O0 [.pointer c,.agg ⟨x⟩,.func (.func Ay6) ⟨[]⟩ ⟨[]⟩] w1) fun q1 w2=>as2 q1 fun q2 q3=>aAgg q2 fun z1=>aInt .i64 q3 fun z2=>ck (List.length z1=16) (pAgg ⟨b,0,none⟩ z1 w2 fun w3=>gAgg ⟨b,0,none⟩ 16 w3 fun z3=>some (.tuple ⟨[.agg ⟨z3⟩,iI z2]⟩,w3)):=kR
def Bm5:Cuts:=⟨2,[],[],[(1,⟨[0,1,2,3,4,5,6],[0,0,3,7,0,31,63],[],[]⟩)]⟩
def Dh9:List Item:=A6 Tryz.f20
theorem Dh4 (s:List Value) :
 xQ Bm5 C R D2 Tryz.f20 Dh9 [(0,iI i),(1,.agg ⟨s⟩),(2,.pointer (some fv0))] h =
 nw (.cells Bp5 false s) h fun b w=>nw (.cells W9 false [iI 0,iI 0,iI 0,iI 0,iI 0,.slice none 0 0,iI 0,iI 0,.slice none 0 0,.bool false,.slice none 0 0,iI 0]) w fun p1 w1=>gSl fv0 w1 fun x xn _=>aSome x fun p=>ck ((0:Int)≤i∧i<(xn:Int)) (gPtr (add (B0 p) (Int.toNat i*1)) w1 fun z1=>gAgg ⟨b,0,none⟩ 4 w1 fun z2=>bnd (C Ad3 [.pointer z1,.agg ⟨z2⟩] w1) fun r w2=>aBool r fun z3=>cond (!z3)
 (pAgg ⟨p1,0,none⟩ [iI 0,iI 0,iI 0,iI 0,iI 0,.slice none 0 0,iI 0,iI 0,.slice none 0 0,.bool false,.slice none 0 0,iI 0] w2 fun w3=>gAgg ⟨p1,0,none⟩ 12 w3 fun z4=>some (.tuple ⟨[.agg ⟨z4⟩,.bool false]⟩,w3))
 (gSl fv0 w2 fun z5 xn_1 _=>aSome z5 fun p_1=>ck ((0:Int)≤i∧i<(xn_1:Int)) (gPtr (add (B0 p_1) (Int.toNat i*1)) w2 fun z6=>bnd (C J7 [.pointer z6] w2) fun q1 w4=>as2 q1 fun q2 q3=>aAgg q2 fun _=>aBool q3 fun _=>gSl fv0 w4 fun z9 xn_2 _=>aSome z9 fun p_2=>ck ((0:Int)≤i∧i<(xn_2:Int)) (gPtr (add (B0 p_2) (Int.toNat i*1)) w4 fun z10=>bnd (C J7 [.pointer z10] w4) fun q4 w5=>as2 q4 fun q5 q6=>aAgg q5 fun z11=>aBool q6 fun z12=>ck (List.length z11=12) (pAgg ⟨p1,0,none⟩ z11 w5 fun w6=>gAgg ⟨p1,0,none⟩ 12 w6 fun z13=>some (.tuple ⟨[.agg ⟨z13⟩,.bool z12]⟩,w6)))))):=kR
def As2:Cuts:=⟨2,[],[],[]⟩
def Bk0:List Item:=A6 Tryz.f26
theorem Bj6 :
 xQ As2 C R E9 Tryz.f26 Bk0 [(0,.slice s sn sc)] h =
 cond s.isNone
 (some (.slice none 0 0,h))
 (nw (.cells A5 false []) h fun b w=>gCells s (sn*1) w fun cs=>ckB (fitsOpen (some ⟨b,0,none⟩) A5 w) (apd A5 1 (some ⟨b,0,none⟩) 0 0 sn cs w fun a an ac w1=>some (.slice a an ac,w1))):=kR
def Bw8:Cuts:=⟨2,[],[],[(0,⟨[0,1,2,3,4,5,6,7,8,9,10,11,12,13,14,15,16,17],[0,1,3,7,0,16,48,112,0,256,768,1792,0,4096,12288,28672,65280,131071],[],[]⟩)]⟩
def Dw3:List Item:=A6 Tryz.f29
theorem Gl1 (phase:Int) :
 xQ Bw8 C R Al1 Tryz.f29 Dw3 [(0,.pointer w),(1,iI phase)] h =
 aSome w fun p=>gPtr (add p 0) h fun x=>aSome w fun p_1=>gInt .i64 (add p_1 1) h fun z1=>aSome w fun p_2=>gInt .i64 (add p_2 3) h fun z2=>aSome w fun p_3=>gInt .i64 (add p_3 6) h fun z3=>bnd (C L9 [.pointer x,iI z1,.agg ⟨[iI 9,iI 0,iI z3,iI z2,iI 0,iI 0,.slice none 0 0]⟩] h) fun r w1=>aAgg r fun _=>aSome w fun p_4=>pV (add p_4 5) (iI phase) w1 fun w2=>some (.tuple ⟨[]⟩,w2):=kR
def Bm8:Cuts:=⟨2,[],[],[(4,⟨[0,1,2,3,5,6,7,8,10,11,12,13,14,15,16,17,18,19,20,21,4,9,22,23,24,25,26,27,28],[0,1,3,7,15,0,32,96,224,511,0,1024,3072,7168,0,16384,49152,114688,0,262144,786432,1835008,4194303,8388607,16777215,33554431,33554431,67108863,268435455],[(4,[8,13,17,21]),(9,[13,17,21])],[]⟩)]⟩
def Dh6:List Item:=A6 Tryz.f32
theorem E46 :
 xQ Bm8 C R A17 Tryz.f32 Dh6 [(0,.pointer w),(1,.agg ⟨p⟩)] h =
 nw (.cells D0 false p) h fun b w1=>nw (.cells W9 false [iI 0,iI 0,iI 0,iI 0,iI 0,.slice none 0 0,iI 0,iI 0,.slice none 0 0,.bool false,.slice none 0 0,iI 0]) w1 fun p1 w2=>gAgg ⟨b,0,none⟩ 16 w2 fun x=>bnd (C Dn8 [.agg ⟨x⟩] w2) fun r w3=>aBool r fun z1=>cond z1
 (aSome w fun p_1=>pV (add p_1 5) (iI 0) w3 fun w4=>bnd (C Az6 [.pointer w,.agg ⟨[iI 0,iI 104,.slice none 0 0,.bool false]⟩] w4) fun q1 w5=>aAgg q1 fun z2=>bnd (C Ar0 [.pointer w,.agg ⟨z2⟩] w5) fun q2 w6=>aAgg q2 fun z3=>ck (List.length z3=12) (pAgg ⟨p1,0,none⟩ z3 w6 fun w7=>gAgg ⟨p1,0,none⟩ 12 w7 fun z4=>some (.tuple ⟨[.agg ⟨z4⟩,.bool true]⟩,w7)))
 (aSome w fun p_2=>gPtr (add p_2 4) w3 fun z5=>aSome w fun p_3=>gPtr (add p_3 0) w3 fun z6=>aSome w fun p_4=>gPtr (add p_4 4) w3 fun z7=>aSome w fun p_5=>gInt .i64 (add p_5 2) w3 fun z8=>aSome w fun p_6=>gAgg (add p_6 7) 4 w3 fun z9=>bnd (C Ap4 [.pointer z5] w3) fun q3 w8=>aSl q3 fun z10 xn xc=>gPtr (add p_3 0) w8 fun z11=>same (.pointer z6) (.pointer z11) (gPtr (add p_4 4) w8 fun z12=>same (.pointer z7) (.pointer z12) (gInt .i64 (add p_5 2) w8 fun z13=>same (iI z8) (iI z13) (gAgg (add p_6 7) 4 w8 fun z14=>same (.agg ⟨z9⟩) (.agg ⟨z14⟩) (bnd (C A62 [.pointer z6] w8) fun q4 w9=>aInt .i64 q4 fun z15=>gPtr (add p_4 4) w9 fun z16=>same (.pointer z7) (.pointer z16) (gInt .i64 (add p_5 2) w9 fun z17=>same (iI z8) (iI z17) (gAgg (add p_6 7) 4 w9 fun z18=>same (.agg ⟨z9⟩) (.agg ⟨z18⟩) (bnd (C De5 [.pointer z7,iI z8,.agg ⟨z9⟩] w9) fun q5 w10=>aSl q5 fun z19 xn_1 xc_1=>bnd (C Ay2 [.slice z10 xn xc,iI z15,.slice z19 xn_1 xc_1] w10) fun q6 w11=>as2 q6 fun q7 q8=>aBool q7 fun z20=>aInt .i64 q8 fun _=>cond z20
 (aSome w fun p_7=>pV (add p_7 5) (iI 1) w11 fun w12=>pAgg ⟨p1,0,none⟩ [iI 0,iI 0,iI 0,iI 0,iI 0,.slice none 0 0,iI 0,iI 0,.slice none 0 0,.bool false,.slice none 0 0,iI 0] w12 fun w13=>gAgg ⟨p1,0,none⟩ 12 w13 fun z22=>some (.tuple ⟨[.agg ⟨z22⟩,.bool false]⟩,w13))
 (pAgg ⟨p1,0,none⟩ [iI 0,iI 0,iI 0,iI 0,iI 0,.slice none 0 0,iI 0,iI 0,.slice none 0 0,.bool false,.slice none 0 0,iI 0] w11 fun w14=>gAgg ⟨p1,0,none⟩ 12 w14 fun z23=>some (.tuple ⟨[.agg ⟨z23⟩,.bool false]⟩,w14)))))))))):=kR
def Ai6:Cuts:=⟨2,[],[(8,[6,8,11,12])],[(7,⟨[0,1,2,3,4,5,6,7,8,9],[0,1,3,7,0,31,63,31,159,511],[(7,[5])],[]⟩)]⟩
def Au6:List Item:=A6 Tryz.f35
def Ao6:List Item:=stk [0,1,0,1,0,1,0,1,0,1,0,1,0,0] Au6
theorem D03 (decode:Value) :
 xQ Ai6 C R O0 Tryz.f35 Au6 [(0,.pointer c),(1,.agg ⟨r⟩),(2,decode)] h =
 nw (.cells E3 false r) h fun b w=>nw (.cells D0 false zZ1) w fun p1 w1=>nw (.cells D0 false zZ1) w1 fun p2 w2=>gAgg ⟨b,0,none⟩ 2 w2 fun x=>bnd (C S5 [.pointer c,.agg ⟨x⟩] w2) fun q1 w3=>as2 q1 fun q2 q3=>aSl q2 fun z1 xn xc=>aBool q3 fun z2=>cond (!z2)
 (gAgg ⟨p2,0,none⟩ 16 w3 fun z3=>ck (List.length z3=16) (pAgg ⟨p1,0,none⟩ z3 w3 fun w4=>gAgg ⟨p1,0,none⟩ 16 w4 fun z4=>some (.tuple ⟨[.agg ⟨z4⟩,iI 2]⟩,w4)))
 (aFn decode fun g fi cp=>bnd (C g (fi++([.slice z1 xn xc]++cp)) w3) fun q4 w5=>as2 q4 fun q5 q6=>aAgg q5 fun z5=>aInt .i64 q6 fun z6=>nw (.cells D0 false zZ1) w5 fun p3 w6=>ck (List.length z5=16) (pAgg ⟨p3,0,none⟩ z5 w6 fun w7=>cond (z6==2)
 (aSome c fun p=>gMap (add p 3) w7 fun z7=>gAgg ⟨b,0,none⟩ 2 w7 fun z8=>keyN PR E3 (.agg ⟨z8⟩) (opt z7 fun q7=>mapAt w7 q7 fun es _=>opt (As0 (iI 0) (.agg ⟨z8⟩) es) fun f=>aInt .i64 f.1 fun z9=>keyN PR E3 (.agg ⟨z8⟩) (opt z7 fun q8=>mapAt w7 q8 fun es_1 cl_1=>opt (Ei0 (iI 0) (.agg ⟨z8⟩) es_1 cl_1) fun f_1=>aInt .i64 f_1.1 fun _=>lt (H.set w7 q8 f_1.2.2) fun w8=>keyN PR E3 (.agg ⟨z8⟩) (opt z7 fun q9=>mapAt w8 q9 fun es_2 _=>opt (As0 (iI 0) (.agg ⟨z8⟩) es_2) fun f_2=>aInt .i64 f_2.1 fun z11=>same (iI z9) (iI z11) (opt z7 fun q10=>mapAt w8 q10 fun es_3 cl_3=>opt (Bu0 (f_1.2.1:Int) es_3 0) fun i=>lt (H.set w8 q10 (.map (modN (fun e=>{ e with val:=iI (wrap .i64 (z9+1)) }) i es_3) cl_3)) fun w9=>R O0 Ao6 [(6,pP p1),(8,pP p2),(11,pP p3),(12,iI z6)] w9)))))
 (R O0 Ao6 [(6,pP p1),(8,pP p2),(11,pP p3),(12,iI z6)] w7))):=kR
theorem Be3 (x6:Addr) (nonev:Addr) (isv:Int) :
 xQ Ai6 C R O0 Tryz.f35 Ao6 [(6,.pointer (some x6)),(8,.pointer (some nonev)),(11,.pointer (some v)),(12,iI isv)] h =
 cond (isv != 1)
 (gAgg nonev 16 h fun x=>ck (List.length x=16) (pAgg x6 x h fun w=>gAgg x6 16 w fun z1=>some (.tuple ⟨[.agg ⟨z1⟩,iI isv]⟩,w)))
 (gAgg v 16 h fun z2=>ck (List.length z2=16) (pAgg x6 z2 h fun w1=>gAgg x6 16 w1 fun z3=>some (.tuple ⟨[.agg ⟨z3⟩,iI isv]⟩,w1))):=kR
def Dl1:Cuts:=⟨2,[],[],[]⟩
def Em7:List Item:=A6 Tryz.f37
theorem G76 :
 xQ Dl1 C R Ay6 Tryz.f37 Em7 [(0,.slice b bn bc)] h =
 nw (.cells D0 false zZ1) h fun p1 w=>bnd (cond ((bn:Int)==24) (bnd (C As4 [.slice b bn bc] w) fun r w1=>aBool r fun x=>some (x,w1)) (some (false,w))) fun c w2=>cond c
 (pAgg ⟨p1,0,none⟩ zZ1 w2 fun w3=>gAgg ⟨p1,0,none⟩ 16 w3 fun z1=>some (.tuple ⟨[.agg ⟨z1⟩,iI 0]⟩,w3))
 (bnd (C Bl2 [] w2) fun q1 w4=>aPtr q1 fun z2=>bnd (C Aa5 [.pointer z2,.slice b bn bc] w4) fun q2 w5=>as2 q2 fun q3 q4=>aAgg q3 fun z3=>aBool q4 fun z4=>nw (.cells D0 false zZ1) w5 fun p2 w6=>ck (List.length z3=16) (pAgg ⟨p2,0,none⟩ z3 w6 fun w7=>cond (!z4)
 (pAgg ⟨p1,0,none⟩ zZ1 w7 fun w8=>gAgg ⟨p1,0,none⟩ 16 w8 fun z5=>some (.tuple ⟨[.agg ⟨z5⟩,iI 2]⟩,w8))
 (gAgg ⟨p2,0,none⟩ 16 w7 fun z6=>ck (List.length z6=16) (pAgg ⟨p1,0,none⟩ z6 w7 fun w9=>gAgg ⟨p1,0,none⟩ 16 w9 fun z7=>some (.tuple ⟨[.agg ⟨z7⟩,iI 1]⟩,w9))))):=kR
def Ba1:Cuts:=⟨2,[(4,[1,3,4])],[],[]⟩
def Bx1:List Item:=A6 Tryz.f42
def Aw8:List Item:=stk [0,1,0,1,0,1,0,0,1,4,5] Bx1
theorem Gm4 :
 xQ Ba1 C R U4 Tryz.f42 Bx1 [(0,.agg ⟨p⟩)] h =
 nw (.cells D1 false p) h fun b w=>gInt .i64 ⟨b,0,none⟩ w fun x=>gInt .i64 ⟨b,1,none⟩ w fun z1=>gInt .i64 ⟨b,2,none⟩ w fun z2=>gInt .i64 ⟨b,3,none⟩ w fun z3=>nw (.cells A5 false [.int .u8 1,.int .u8 (wrap .u8 (x)),.int .u8 (wrap .u8 (z1)),.int .u8 (wrap .u8 (z2)),.int .u8 (wrap .u8 (z3)),.int .u8 197]) w fun p1 w1=>gCells (some ⟨p1,0,none⟩) 6 w1 fun cs=>asBytes cs fun l=>bnd (C Ak9 [.string (ByteArray.mk ⟨l⟩)] w1) fun r w2=>aInt .u8 r fun z4=>nw (.cells A5 false [.int .u8 z4,.int .u8 0]) w2 fun p2 w3=>gCells (some ⟨p2,0,none⟩) 2 w3 fun cs_1=>asBytes cs_1 fun l_1=>ck (ByteArray.size (ByteArray.mk ⟨l⟩)+ByteArray.size (ByteArray.mk ⟨l_1⟩)≤A8) (R U4 Aw8 [(1,pP b),(3,.string ((ByteArray.mk ⟨l⟩)++(ByteArray.mk ⟨l_1⟩))),(4,iI 0)] w3):=kR
theorem B88 (p:Addr) (s:ByteArray) :
 xQ Ba1 C R U4 Tryz.f42 Aw8 [(1,.pointer (some p)),(3,.string s),(4,iI i)] h =
 cond (decide (i<32))
 (ck ((0:Int)≤i∧i<((32:Nat):Int)) (gInt .u8 (add (add p 4) (Int.toNat i*1)) h fun x=>nw (.cells A5 false [.int .u8 x]) h fun b w=>gCells (some ⟨b,0,none⟩) 1 w fun cs=>asBytes cs fun l=>ck (ByteArray.size s+ByteArray.size (ByteArray.mk ⟨l⟩)≤A8) (R U4 Aw8 [(1,.pointer (some p)),(3,.string (s++(ByteArray.mk ⟨l⟩))),(4,iI (wrap .i64 (i+1)))] w)))
 (some (.string s,h)):=kR
def Di9:Cuts:=⟨2,[],[],[]⟩
def Ep7:List Item:=A6 Tryz.f43
theorem Hc9 (c:List Value) :
 xQ Di9 C R L9 Tryz.f43 Ep7 [(0,.pointer k),(1,iI env),(2,.agg ⟨c⟩)] h =
 nw (.cells A69 false c) h fun b w=>nw (.cells D29 false [iI 0,iI 0,.slice none 0 0]) w fun p1 w1=>bnd (cond (decide (env<0)) (some (true,w1)) (aSome k fun p=>gSl (add p 0) w1 fun _ xn _=>some (decide (env≥(xn:Int)),w1))) fun c_1 w2=>cond c_1
 (pAgg ⟨p1,0,none⟩ [iI 1,iI 0,.slice none 0 0] w2 fun w3=>gAgg ⟨p1,0,none⟩ 3 w3 fun z1=>some (.agg ⟨z1⟩,w3))
 (gAgg ⟨b,0,none⟩ 7 w2 fun z2=>bnd (C Bb4 [.pointer k,iI env,.agg ⟨z2⟩] w2) fun r w4=>as3 r fun q1 q2 q3=>aSl q1 fun z3 xn_1 xc_1=>aInt .i64 q2 fun z4=>aBool q3 fun z5=>cond z5
 (pAgg ⟨p1,0,none⟩ [iI z4,iI 0,.slice z3 xn_1 xc_1] w4 fun w5=>gAgg ⟨p1,0,none⟩ 3 w5 fun z6=>some (.agg ⟨z6⟩,w5))
 (gAgg ⟨b,0,none⟩ 7 w4 fun z7=>bnd (C A59 [.pointer k,iI env,.agg ⟨z7⟩] w4) fun q4 w6=>as2 q4 fun q5 q6=>aInt .i64 q5 fun z8=>aInt .i64 q6 fun z9=>pAgg ⟨p1,0,none⟩ [iI z9,iI z8,.slice none 0 0] w6 fun w7=>gAgg ⟨p1,0,none⟩ 3 w7 fun z10=>some (.agg ⟨z10⟩,w7))):=kR
def Dt9:Cuts:=⟨2,[],[],[(1,⟨[0,1,2,3,4,5,6,7],[0,1,0,4,15,12,63,127],[(3,[1]),(5,[1])],[]⟩)]⟩
def E07:List Item:=A6 Tryz.f45
theorem Hl0 :
 xQ Dt9 C R Bl5 Tryz.f45 E07 [] h =
 ck ((0:Int)≤448∧(448:Int)≤448∧448≤(A8:Int)) (nw (.cells A5 false (E7 (Int.toNat 448) [.int .u8 0])) h fun b w=>gCells (some ⟨b,0,none⟩) (Int.toNat 448) w fun cs=>asBytes cs fun l=>bnd (C U4 [.agg ⟨[iI 0,iI 0,iI 1,iI 1,.int .u8 0,.int .u8 0,.int .u8 0,.int .u8 0,.int .u8 0,.int .u8 0,.int .u8 0,.int .u8 0,.int .u8 0,.int .u8 0,.int .u8 0,.int .u8 0,.int .u8 0,.int .u8 0,.int .u8 0,.int .u8 0,.int .u8 0,.int .u8 0,.int .u8 0,.int .u8 0,.int .u8 0,.int .u8 0,.int .u8 0,.int .u8 0,.int .u8 0,.int .u8 0,.int .u8 0,.int .u8 0,.int .u8 0,.int .u8 0,.int .u8 0,.int .u8 0]⟩] w) fun r w1=>aStr r fun x=>gCells (some ⟨b,0,none⟩) (Int.toNat 448) w1 fun cs_1=>asBytes cs_1 fun l_1=>same (.string (ByteArray.mk ⟨l⟩)) (.string (ByteArray.mk ⟨l_1⟩)) (ck (ByteArray.size (ByteArray.mk ⟨l⟩)+ByteArray.size x≤A8) (bnd (C A46 [iI 0] w1) fun q1 w2=>aStr q1 fun z1=>gCells (some ⟨b,0,none⟩) (Int.toNat 448) w2 fun cs_2=>asBytes cs_2 fun l_2=>same (.string (ByteArray.mk ⟨l⟩)) (.string (ByteArray.mk ⟨l_2⟩)) (ck (ByteArray.size ((ByteArray.mk ⟨l⟩)++x)+ByteArray.size z1≤A8) (some (.string (((ByteArray.mk ⟨l⟩)++x)++z1),w2)))))):=kR
def Br9:Cuts:=⟨2,[],[],[]⟩
def Dq0:List Item:=A6 Tryz.f49
theorem Gc0 :
 xQ Br9 C R Ap8 Tryz.f49 Dq0 [(0,.pointer k),(1,iI env)] h =
 aSome k fun p=>gPtr (add p 6) h fun x=>aSome x fun p_1=>gPtr (add p_1 3) h fun z1=>bnd (C Bh5 [.pointer z1,iI env] h) fun r w=>aSl r fun z2 xn xc=>cond ((xn:Int)==0)
 (some (.pointer none,w))
 (nw (.cells Ec0 false [.pointer k,iI env,.slice z2 xn xc,.slice none 0 0]) w fun b w1=>some (pP b,w1)):=kR
def Ey1:Cuts:=⟨2,[],[],[]⟩
def G31:List Item:=A6 Tryz.f58
theorem Eq9 (s:List Value) :
 xQ Ey1 C R Dz8 Tryz.f58 G31 [(0,.pointer c),(1,iI i),(2,.agg ⟨s⟩)] h =
 nw (.cells Bp5 false s) h fun b w=>nw (.cells Q2 false [iI 0,iI 0,.slice none 0 0,.bool false]) w fun p1 w1=>bnd (C B6 [.pointer c] w1) fun r w2=>as0 r (gAgg ⟨b,0,none⟩ 4 w2 fun x=>bnd (C Bj8 [.pointer c,iI i,.agg ⟨x⟩] w2) fun q1 w3=>as2 q1 fun q2 q3=>aAgg q2 fun z1=>aBool q3 fun z2=>nw (.cells Q2 false [iI 0,iI 0,.slice none 0 0,.bool false]) w3 fun p2 w4=>ck (List.length z1=4) (pAgg ⟨p2,0,none⟩ z1 w4 fun w5=>cond z2
 (gAgg ⟨p2,0,none⟩ 4 w5 fun z3=>ck (List.length z3=4) (pAgg ⟨p1,0,none⟩ z3 w5 fun w6=>gAgg ⟨p1,0,none⟩ 4 w6 fun z4=>some (.agg ⟨z4⟩,w6)))
 (gInt .i64 ⟨b,0,none⟩ w5 fun z5=>cond (z5==2)
 (bnd (C Dm2 [.pointer c,iI i] w5) fun q4 w7=>aAgg q4 fun z6=>ck (List.length z6=4) (pAgg ⟨p1,0,none⟩ z6 w7 fun w8=>gAgg ⟨p1,0,none⟩ 4 w8 fun z7=>some (.agg ⟨z7⟩,w8)))
 (cond (z5==3)
 (gInt .i64 ⟨b,1,none⟩ w5 fun z8=>bnd (C Gq6 [.pointer c,iI i,iI z8] w5) fun q5 w9=>aAgg q5 fun z9=>ck (List.length z9=4) (pAgg ⟨p1,0,none⟩ z9 w9 fun w10=>gAgg ⟨p1,0,none⟩ 4 w10 fun z10=>some (.agg ⟨z10⟩,w10)))
 (cond (z5==4)
 (bnd (C Ie3 [.pointer c,iI i] w5) fun q6 w11=>aAgg q6 fun z11=>ck (List.length z11=4) (pAgg ⟨p1,0,none⟩ z11 w11 fun w12=>gAgg ⟨p1,0,none⟩ 4 w12 fun z12=>some (.agg ⟨z12⟩,w12)))
 (cond (z5==5)
 (gInt .i64 ⟨b,1,none⟩ w5 fun z13=>gInt .i64 ⟨b,2,none⟩ w5 fun z14=>bnd (C H99 [.pointer c,iI i,iI z13,iI z14] w5) fun q7 w13=>aAgg q7 fun z15=>ck (List.length z15=4) (pAgg ⟨p1,0,none⟩ z15 w13 fun w14=>gAgg ⟨p1,0,none⟩ 4 w14 fun z16=>some (.agg ⟨z16⟩,w14)))
 (cond (z5==8)
 (gInt .i64 ⟨b,1,none⟩ w5 fun z17=>gInt .i64 ⟨b,2,none⟩ w5 fun z18=>bnd (C Hr3 [.pointer c,iI i,iI z17,iI z18] w5) fun q8 w15=>aAgg q8 fun z19=>ck (List.length z19=4) (pAgg ⟨p1,0,none⟩ z19 w15 fun w16=>gAgg ⟨p1,0,none⟩ 4 w16 fun z20=>some (.agg ⟨z20⟩,w16)))
 (cond (z5==1)
 (cond (z5==1)
 (gAgg ⟨b,0,none⟩ 4 w5 fun z21=>bnd (C Ae6 [.pointer c,iI i,.agg ⟨z21⟩] w5) fun q9 w17=>aAgg q9 fun z22=>ck (List.length z22=4) (pAgg ⟨p1,0,none⟩ z22 w17 fun w18=>gAgg ⟨p1,0,none⟩ 4 w18 fun z23=>some (.agg ⟨z23⟩,w18)))
 (bnd (C Bs8 [iI 122] w5) fun q10 w19=>aAgg q10 fun z24=>ck (List.length z24=4) (pAgg ⟨p1,0,none⟩ z24 w19 fun w20=>gAgg ⟨p1,0,none⟩ 4 w20 fun z25=>some (.agg ⟨z25⟩,w20))))
 (cond (z5==17)
 (cond (z5==17)
 (gAgg ⟨b,0,none⟩ 4 w5 fun z26=>bnd (C Ae6 [.pointer c,iI i,.agg ⟨z26⟩] w5) fun q11 w21=>aAgg q11 fun z27=>ck (List.length z27=4) (pAgg ⟨p1,0,none⟩ z27 w21 fun w22=>gAgg ⟨p1,0,none⟩ 4 w22 fun z28=>some (.agg ⟨z28⟩,w22)))
 (bnd (C Bs8 [iI 122] w5) fun q12 w23=>aAgg q12 fun z29=>ck (List.length z29=4) (pAgg ⟨p1,0,none⟩ z29 w23 fun w24=>gAgg ⟨p1,0,none⟩ 4 w24 fun z30=>some (.agg ⟨z30⟩,w24))))
 (cond (z5==18)
 (cond (z5==18)
 (gAgg ⟨b,0,none⟩ 4 w5 fun z31=>bnd (C Ae6 [.pointer c,iI i,.agg ⟨z31⟩] w5) fun q13 w25=>aAgg q13 fun z32=>ck (List.length z32=4) (pAgg ⟨p1,0,none⟩ z32 w25 fun w26=>gAgg ⟨p1,0,none⟩ 4 w26 fun z33=>some (.agg ⟨z33⟩,w26)))
 (bnd (C Bs8 [iI 122] w5) fun q14 w27=>aAgg q14 fun z34=>ck (List.length z34=4) (pAgg ⟨p1,0,none⟩ z34 w27 fun w28=>gAgg ⟨p1,0,none⟩ 4 w28 fun z35=>some (.agg ⟨z35⟩,w28))))
 (cond (z5==6)
 (cond (z5==6)
 (gAgg ⟨b,0,none⟩ 4 w5 fun z36=>bnd (C Ae6 [.pointer c,iI i,.agg ⟨z36⟩] w5) fun q15 w29=>aAgg q15 fun z37=>ck (List.length z37=4) (pAgg ⟨p1,0,none⟩ z37 w29 fun w30=>gAgg ⟨p1,0,none⟩ 4 w30 fun z38=>some (.agg ⟨z38⟩,w30)))
 (bnd (C Bs8 [iI 122] w5) fun q16 w31=>aAgg q16 fun z39=>ck (List.length z39=4) (pAgg ⟨p1,0,none⟩ z39 w31 fun w32=>gAgg ⟨p1,0,none⟩ 4 w32 fun z40=>some (.agg ⟨z40⟩,w32))))
 (cond (z5==7)
 (gAgg ⟨b,0,none⟩ 4 w5 fun z41=>bnd (C Ae6 [.pointer c,iI i,.agg ⟨z41⟩] w5) fun q17 w33=>aAgg q17 fun z42=>ck (List.length z42=4) (pAgg ⟨p1,0,none⟩ z42 w33 fun w34=>gAgg ⟨p1,0,none⟩ 4 w34 fun z43=>some (.agg ⟨z43⟩,w34)))
 (bnd (C Bs8 [iI 122] w5) fun q18 w35=>aAgg q18 fun z44=>ck (List.length z44=4) (pAgg ⟨p1,0,none⟩ z44 w35 fun w36=>gAgg ⟨p1,0,none⟩ 4 w36 fun z45=>some (.agg ⟨z45⟩,w36))))))))))))))):=kR
def Ea0:Cuts:=⟨2,[],[],[]⟩
def E75:List Item:=A6 Tryz.f63
theorem Hz6 (s:List Value) :
 xQ Ea0 C R De5 Tryz.f63 E75 [(0,.pointer c),(1,iI i),(2,.agg ⟨s⟩)] h =
 nw (.cells Bp5 false s) h fun b w=>bnd (C B6 [.pointer c] w) fun r w1=>as0 r (nw (.cells P6 false [iI 6,iI 0,iI 0]) w1 fun p1 w2=>gInt .i64 ⟨b,0,none⟩ w2 fun x=>cond (x != 10)
 (some (.slice (some ⟨p1,0,none⟩) 1 1,w2))
 (gInt .i64 ⟨b,1,none⟩ w2 fun z1=>bnd (C Dj2 [.pointer c,iI i,iI z1] w2) fun q1 w3=>as3 q1 fun q2 q3 q4=>aInt .i64 q2 fun _=>aAgg q3 fun z3=>aInt .i64 q4 fun z4=>nw (.cells D3 false [iI 0,iI 0,iI 0,iI 0]) w3 fun p2 w4=>ck (List.length z3=4) (pAgg ⟨p2,0,none⟩ z3 w4 fun w5=>bnd (cond (z4==0) (gInt .i64 ⟨p2,0,none⟩ w5 fun z5=>some (z5==3,w5)) (some (false,w5))) fun c_1 w6=>cond c_1
 (bnd (C Db0 [iI 450,iI 255] w6) fun q5 w7=>aSl q5 fun z6 xn xc=>some (.slice z6 xn xc,w7))
 (bnd (cond (z4 != 0) (some (true,w6)) (gInt .i64 ⟨p2,0,none⟩ w6 fun z7=>some (z7 != 1,w6))) fun c_2 w8=>bnd (cond c_2 (some (true,w8)) (gInt .i64 ⟨p2,1,none⟩ w8 fun z8=>some (decide (z8≥4),w8))) fun c_3 w9=>cond c_3
 (some (.slice (some ⟨p1,0,none⟩) 1 1,w9))
 (gInt .i64 ⟨p2,1,none⟩ w9 fun z9=>bnd (C Db0 [iI (wrap .i64 ((wrap .i64 (288+(wrap .i64 (40*z9))))+2)),iI 255] w9) fun q6 w10=>aSl q6 fun z10 xn_1 xc_1=>nw (.cells P6 false [iI 1,iI (wrap .i64 ((wrap .i64 (288+(wrap .i64 (40*z9))))+4)),iI 0,iI 5,iI 1,iI 0,iI 6,iI 0,iI 0]) w10 fun p3 w11=>bnd (C B18 [.slice z10 xn_1 xc_1,.slice (some ⟨p3,0,none⟩) 3 3] w11) fun q7 w12=>as2 q7 fun q8 q9=>aSl q8 fun z11 xn_2 xc_2=>aBool q9 fun _=>some (.slice z11 xn_2 xc_2,w12)))))):=kR
def Bx2:Cuts:=⟨2,[],[],[]⟩
def Dv6:List Item:=A6 Tryz.f67
theorem Gm0 :
 xQ Bx2 C R At4 Tryz.f67 Dv6 [(0,.pointer k)] h =
 aSome k fun p=>gPtr (add p 3) h fun x=>some (.pointer x,h):=kR
def A88:Cuts:=⟨2,[],[],[(2,⟨[0,1,2,3,4,5,6,7,8,9,10],[0,1,3,7,15,31,63,7,255,511,1023],[],[]⟩),(4,⟨[0,1,2,3,4,5,6,7,8,9,10,11,12,13,14,16,15,17],[0,1,3,7,0,16,48,112,0,256,0,1024,0,4096,16128,32767,0,131071],[],[]⟩),(6,⟨[0,1,2,3,4,5,6,7,8,9],[0,1,3,7,0,31,63,31,159,511],[(7,[5])],[]⟩)]⟩
def Bz3:List Item:=A6 Tryz.f69
theorem Ej2 :
 xQ A88 C R S5 Tryz.f69 Bz3 [(0,.pointer c),(1,.agg ⟨r⟩)] h =
 nw (.cells E3 false r) h fun b w=>gAgg ⟨b,0,none⟩ 2 w fun x=>bnd (C V8 [.pointer c,.agg ⟨x⟩] w) fun q1 w1=>as2 q1 fun q2 q3=>aAgg q2 fun z1=>aBool q3 fun z2=>nw (.cells Bp3 false [iI 0,iI 0,iI 0]) w1 fun p1 w2=>ck (List.length z1=3) (pAgg ⟨p1,0,none⟩ z1 w2 fun w3=>bnd (cond (!z2) (some (true,w3)) (aSome c fun p=>gMap (add p 3) w3 fun z3=>gAgg ⟨b,0,none⟩ 2 w3 fun z4=>keyN PR E3 (.agg ⟨z4⟩) (opt z3 fun q4=>mapAt w3 q4 fun es _=>opt (As0 (iI 0) (.agg ⟨z4⟩) es) fun f=>aInt .i64 f.1 fun z5=>some (decide (z5>0),w3)))) fun c_1 w4=>cond c_1
 (some (.tuple ⟨[.slice none 0 0,.bool false]⟩,w4))
 (aSome c fun p_1=>gPtr (add p_1 0) w4 fun z6=>aSome c fun p_2=>gInt .i64 (add p_2 1) w4 fun z7=>gInt .i64 ⟨p1,0,none⟩ w4 fun z8=>gInt .i64 ⟨p1,1,none⟩ w4 fun z9=>gInt .i64 ⟨p1,2,none⟩ w4 fun z10=>nw (.cells D29 false [iI 0,iI 0,.slice none 0 0]) w4 fun p2 w5=>bnd (C L9 [.pointer z6,iI z7,.agg ⟨[iI 1,iI z8,iI z9,iI z10,iI 0,iI 0,.slice none 0 0]⟩] w5) fun q5 w6=>aAgg q5 fun z11=>ck (List.length z11=3) (pAgg ⟨p2,0,none⟩ z11 w6 fun w7=>gInt .i64 ⟨p2,0,none⟩ w7 fun z12=>cond (z12 != 0)
 (aSome c fun p_3=>gMap (add p_3 3) w7 fun z13=>gAgg ⟨b,0,none⟩ 2 w7 fun z14=>keyN PR E3 (.agg ⟨z14⟩) (opt z13 fun q6=>mapAt w7 q6 fun es_1 _=>opt (As0 (iI 0) (.agg ⟨z14⟩) es_1) fun f_1=>aInt .i64 f_1.1 fun z15=>keyN PR E3 (.agg ⟨z14⟩) (opt z13 fun q7=>mapAt w7 q7 fun es_2 cl_2=>opt (Ei0 (iI 0) (.agg ⟨z14⟩) es_2 cl_2) fun f_2=>aInt .i64 f_2.1 fun _=>lt (H.set w7 q7 f_2.2.2) fun w8=>keyN PR E3 (.agg ⟨z14⟩) (opt z13 fun q8=>mapAt w8 q8 fun es_3 _=>opt (As0 (iI 0) (.agg ⟨z14⟩) es_3) fun f_3=>aInt .i64 f_3.1 fun z17=>same (iI z15) (iI z17) (opt z13 fun q9=>mapAt w8 q9 fun es_4 cl_4=>opt (Bu0 (f_2.2.1:Int) es_4 0) fun i=>lt (H.set w8 q9 (.map (modN (fun e=>{ e with val:=iI (wrap .i64 (z15+1)) }) i es_4) cl_4)) fun w9=>some (.tuple ⟨[.slice none 0 0,.bool false]⟩,w9))))))
 (gSl ⟨p2,2,none⟩ w7 fun z18 xn xc=>some (.tuple ⟨[.slice z18 xn xc,.bool true]⟩,w7))))):=kR
def Am6:Cuts:=⟨2,[],[],[(4,⟨[0,1,2,3,4,10,5,6,7,8,9,11,12],[0,1,3,7,0,16,63,127,255,255,0,1535,4095],[(5,[3])],[]⟩)]⟩
def A99:List Item:=A6 Tryz.f72
theorem Dh2 :
 xQ Am6 C R Aa5 Tryz.f72 A99 [(0,.pointer c),(1,.slice b bn bc)] h =
 nw (.cells D0 false zZ1) h fun p1 w=>nw (.cells D0 false zZ1) w fun p2 w1=>aSome c fun p=>gFv (add p 2) w1 fun x=>isNilF x fun p3=>bnd (cond p3 (some (true,w1)) (aSome c fun p_1=>gInt .i64 (add p_1 0) w1 fun z1=>some ((bn:Int) != z1,w1))) fun c_1 w2=>cond c_1
 (gAgg ⟨p2,0,none⟩ 16 w2 fun z2=>ck (List.length z2=16) (pAgg ⟨p1,0,none⟩ z2 w2 fun w3=>gAgg ⟨p1,0,none⟩ 16 w3 fun z3=>some (.tuple ⟨[.agg ⟨z3⟩,.bool false]⟩,w3)))
 (aSome c fun p_2=>gFv (add p_2 2) w2 fun z4=>nw (.cells D0 false zZ1) w2 fun p4 w4=>bnd (C E9 [.slice b bn bc] w4) fun r w5=>aSl r fun z5 xn xc=>gFv (add p_2 2) w5 fun z6=>Bu4 (z4) (z6) (aFn z4 fun g fi cp=>bnd (C g (fi++([.slice z5 xn xc]++cp)) w5) fun q1 w6=>as2 q1 fun q2 q3=>aAgg q2 fun z7=>aBool q3 fun z8=>ck (List.length z7=16) (pAgg ⟨p4,0,none⟩ z7 w6 fun w7=>cond (!z8)
 (gAgg ⟨p2,0,none⟩ 16 w7 fun z9=>ck (List.length z9=16) (pAgg ⟨p1,0,none⟩ z9 w7 fun w8=>gAgg ⟨p1,0,none⟩ 16 w8 fun z10=>some (.tuple ⟨[.agg ⟨z10⟩,.bool false]⟩,w8)))
 (gAgg ⟨p4,0,none⟩ 16 w7 fun z11=>ck (List.length z11=16) (pAgg ⟨p1,0,none⟩ z11 w7 fun w9=>gAgg ⟨p1,0,none⟩ 16 w9 fun z12=>some (.tuple ⟨[.agg ⟨z12⟩,.bool true]⟩,w9)))))):=kR
def Bi1:Cuts:=⟨2,[(5,[1,4,20,21,22]),(12,[1,7,58,59,60]),(18,[7,89,90,91]),(22,[7,11,12,89,90,91,122,123,124])],[],[(9,⟨[0,1,3,5,6,7,9,10,2,4,8,11,12,13,14],[0,1,3,0,15,0,32,96,255,0,512,2047,4095,8191,16383],[(2,[6,10]),(4,[6,10]),(8,[10])],[]⟩),(10,⟨[0,1,2,3,4,5,6,7,8,9,10,11,12],[0,0,2,6,14,0,32,96,224,510,1023,2047,4095],[],[]⟩),(14,⟨[0,1,2,3,4,5,6,7,8,9,10,11],[0,0,2,6,14,0,32,96,254,511,1023,2047],[(6,[4])],[]⟩),(15,⟨[0,1,2,3,4,5,6,7,8,9,10,11,12],[0,0,2,6,14,0,32,96,224,510,1023,2047,4095],[(7,[4])],[]⟩),(20,⟨[0,1,2,3,4,5,6,7,8,9,11,12,15,16,18,19,10,13,14,17,20,21,22,23,24,25],[0,1,3,7,0,16,48,112,0,256,1008,0,2048,8176,16368,0,32768,131056,0,262144,1048575,2097151,4194303,4194303,8388607,33554431],[(10,[3,12,16,19])],[]⟩),(25,⟨[0,1,2,3,4,5,6,7,8,9],[0,1,3,7,0,0,0,64,224,511],[],[]⟩)]⟩
def Bu1:List Item:=A6 Tryz.f74
def B26:List Item:=stk [0,1,0,1,0,1,0,0,1,4,5] Bu1
def B17:List Item:=stk [0,1,0,1,0,1,0,1,0,1,0,1,0,0,1,4,5] Bu1
def Bj1:List Item:=stk [0,1,0,1,0,1,0,1,0,1,0,1,0,1,0,0,1,4,5] Bu1
def Bk1:List Item:=stk [0,1,0,1,0,1,0,1,0,1,0,1,0,1,0,0,1,4,5,6,0,1,0,1,0,4,0,1,0,1,0,1,4,5] Bu1
theorem Im3 (c:List Value) :
 xQ Bi1 C R L1 Tryz.f74 Bu1 [(0,.agg ⟨c⟩)] h =
 nw (.cells E6 false c) h fun b w=>gAgg ⟨b,0,none⟩ 5 w fun x=>bnd (C W4 [.agg ⟨x⟩] w) fun r w1=>aBool r fun z1=>cond (!z1)
 (some (.tuple ⟨[.pointer none,iI 1]⟩,w1))
 (gSl ⟨b,0,none⟩ w1 fun z2 xn xc=>R L1 B26 [(1,pP b),(4,iI 0),(20,.slice z2 xn xc),(21,iI (xn:Int)),(22,iI 0)] w1):=kR
theorem E24 (c:Addr) (all:Int) :
 xQ Bi1 C R L1 Tryz.f74 B26 [(1,.pointer (some c)),(4,iI all),(20,.slice x20 x20n x20c),(21,iI x21),(22,iI x22)] h =
 cond (decide (x22<x21))
 (aSome x20 fun p=>ck ((0:Int)≤x22∧x22<(x20n:Int)) (gInt .i64 (add (B0 p) (Int.toNat x22*1)) h fun x=>bnd (C Bk5 [iI x] h) fun r w=>aInt .i64 r fun z1=>R L1 B26 [(1,.pointer (some c)),(4,iI (wrap .i64 (all+z1))),(20,.slice x20 x20n x20c),(21,iI x21),(22,iI (wrap .i64 (x22+1)))] w))
 (gSl (add c 1) h fun z2 xn xc=>gSl (add c 1) h fun z3 xn_1 xc_1=>gSl (add c 0) h fun z4 xn_2 xc_2=>bnd (C Ab1 [.slice z2 xn xc] h) fun q1 w1=>aSl q1 fun z5 xn_3 xc_3=>gSl (add c 1) w1 fun z6 xn_4 xc_4=>same (.slice z3 xn_1 xc_1) (.slice z6 xn_4 xc_4) (gSl (add c 0) w1 fun z7 xn_5 xc_5=>same (.slice z4 xn_2 xc_2) (.slice z7 xn_5 xc_5) (bnd (C Ee9 [iI all] w1) fun q2 w2=>aPtr q2 fun z8=>gSl (add c 1) w2 fun z9 xn_6 xc_6=>same (.slice z3 xn_1 xc_1) (.slice z9 xn_6 xc_6) (gSl (add c 0) w2 fun z10 xn_7 xc_7=>same (.slice z4 xn_2 xc_2) (.slice z10 xn_7 xc_7) (bnd (C A68 [iI (xn_1:Int)] w2) fun q3 w3=>aPtr q3 fun z11=>gSl (add c 0) w3 fun z12 xn_8 xc_8=>same (.slice z4 xn_2 xc_2) (.slice z12 xn_8 xc_8) (bnd (C Ax9 [.slice z4 xn_2 xc_2] w3) fun q4 w4=>aPtr q4 fun z13=>nw (.cells Eh8 false [.slice z5 xn_3 xc_3,.slice none 0 0,.pointer z8,.pointer z11,.pointer z13,.pointer none,.slice none 0 0,iI 0]) w4 fun b w5=>gPtr ⟨b,2,none⟩ w5 fun z14=>gPtr ⟨b,3,none⟩ w5 fun z15=>bnd (C Dc4 [.pointer z14,.pointer z15] w5) fun q5 w6=>aPtr q5 fun z16=>pV ⟨b,5,none⟩ (.pointer z16) w6 fun w7=>gSl (add c 2) w7 fun z17 xn_9 xc_9=>R L1 B17 [(1,.pointer (some c)),(7,pP b),(58,.slice z17 xn_9 xc_9),(59,iI (xn_9:Int)),(60,iI 0)] w7)))))):=kR
theorem E19 (c:Addr) (k:Addr) (x58:Option Addr) (x58n x58c:Nat) (x60:Int) :
 xQ Bi1 C R L1 Tryz.f74 B17 [(1,.pointer (some c)),(7,.pointer (some k)),(58,.slice x58 x58n x58c),(59,iI x59),(60,iI x60)] h =
 cond (decide (x60<x59))
 (aSome x58 fun p=>ck ((0:Int)≤x60∧x60<(x58n:Int)) (gSl (add (B0 p) (Int.toNat x60*1)) h fun x xn xc=>gSl (add k 1) h fun z1 xn_1 xc_1=>bnd (C Ab1 [.slice x xn xc] h) fun r w=>aSl r fun z2 xn_2 xc_2=>gSl (add k 1) w fun z3 xn_3 xc_3=>same (.slice z1 xn_1 xc_1) (.slice z3 xn_3 xc_3) (nw (.cells V7 false [.slice z2 xn_2 xc_2]) w fun b w1=>gCells (some ⟨b,0,none⟩) (1*1) w1 fun cs=>ckB (fitsOpen z1 V7 w1) (apd V7 1 z1 xn_1 xc_1 1 cs w1 fun a an ac w2=>pV (add k 1) (.slice a an ac) w2 fun w3=>gSl (add k 6) w3 fun z4 xn_4 xc_4=>gInt .i64 (add c 3) w3 fun z5=>bnd (C Dz1 [iI z5] w3) fun q1 w4=>aPtr q1 fun z6=>gSl (add k 6) w4 fun z7 xn_5 xc_5=>same (.slice z4 xn_4 xc_4) (.slice z7 xn_5 xc_5) (nw (.cells A35 false [.pointer z6]) w4 fun p1 w5=>gCells (some ⟨p1,0,none⟩) (1*1) w5 fun cs_1=>ckB (fitsOpen z4 A35 w5) (apd A35 1 z4 xn_4 xc_4 1 cs_1 w5 fun a_1 an_1 ac_1 w6=>pV (add k 6) (.slice a_1 an_1 ac_1) w6 fun w7=>R L1 B17 [(1,.pointer (some c)),(7,.pointer (some k)),(58,.slice x58 x58n x58c),(59,iI x59),(60,iI (wrap .i64 (x60+1)))] w7))))))
 (gSl (add c 4) h fun z8 xn_6 xc_6=>R L1 Bj1 [(7,.pointer (some k)),(89,.slice z8 xn_6 xc_6),(90,iI (xn_6:Int)),(91,iI 0)] h):=kR
theorem E35 (k:Addr) :
 xQ Bi1 C R L1 Tryz.f74 Bj1 [(7,.pointer (some k)),(89,.slice x89 x89n x89c),(90,iI x90),(91,iI x91)] h =
 cond (decide (x91<x90))
 (aSome x89 fun p=>ck ((0:Int)≤x91∧x91<(x89n:Int)) (gAgg (add (B0 p) (Int.toNat x91*5)) 5 h fun x=>nw (.cells M6 false [iI 0,iI 0,iI 0,iI 0,.slice none 0 0]) h fun b w=>ck (List.length x=5) (pAgg ⟨b,0,none⟩ x w fun w1=>gPtr (add k 5) w1 fun z1=>gPtr (add k 4) w1 fun z2=>gInt .i64 ⟨b,0,none⟩ w1 fun z3=>gInt .i64 ⟨b,1,none⟩ w1 fun z4=>gInt .i64 ⟨b,2,none⟩ w1 fun z5=>gInt .i64 ⟨b,3,none⟩ w1 fun z6=>bnd (C U1 [.pointer z2,iI z3] w1) fun r w2=>aInt .i64 r fun z7=>gPtr (add k 5) w2 fun z8=>same (.pointer z1) (.pointer z8) (gInt .i64 ⟨b,1,none⟩ w2 fun z9=>same (iI z4) (iI z9) (gInt .i64 ⟨b,2,none⟩ w2 fun z10=>same (iI z5) (iI z10) (gInt .i64 ⟨b,3,none⟩ w2 fun z11=>same (iI z6) (iI z11) (bnd (C Au4 [.pointer z1,iI (wrap .i64 ((wrap .i64 ((wrap .i64 (z7+z4))*64))+z5)),iI z6] w2) fun q1 w3=>as2 q1 fun q2 q3=>aInt .i64 q2 fun z12=>aInt .i64 q3 fun _=>gSl (add k 0) w3 fun z14 xn xc=>R L1 Bk1 [(7,.pointer (some k)),(11,pP b),(12,iI z12),(89,.slice x89 x89n x89c),(90,iI x90),(91,iI x91),(122,.slice z14 xn xc),(123,iI (xn:Int)),(124,iI 0)] w3)))))))
 (some (.tuple ⟨[.pointer (some k),iI 0]⟩,h)):=kR
theorem E05 (k:Addr) (x:Addr) (obj:Int) (x122:Option Addr) (x122n x122c:Nat) (x123:Int) (x124:Int) :
 xQ Bi1 C R L1 Tryz.f74 Bk1 [(7,.pointer (some k)),(11,.pointer (some x)),(12,iI obj),(89,.slice x89 x89n x89c),(90,iI x90),(91,iI x91),(122,.slice x122 x122n x122c),(123,iI x123),(124,iI x124)] h =
 cond (decide (x124<x123))
 (aSome x122 fun p=>ck ((0:Int)≤x124∧x124<(x122n:Int)) (gInt .i64 (add (B0 p) (Int.toNat x124*1)) h fun z1=>gSl (add x 4) h fun z2 xn xc=>bnd (C P7 [.slice z2 xn xc,iI z1] h) fun r w=>aBool r fun z3=>cond z3
 (gPtr (add k 3) w fun z4=>gInt .i64 (add x 3) w fun z5=>bnd (C Bg1 [.pointer z4,iI x124,.agg ⟨[iI obj,iI 3,iI 0,iI z5,iI 0,iI 0]⟩] w) fun q1 w1=>as2 q1 fun q2 q3=>aInt .i64 q2 fun _=>aInt .i64 q3 fun _=>R L1 Bk1 [(7,.pointer (some k)),(11,.pointer (some x)),(12,iI obj),(89,.slice x89 x89n x89c),(90,iI x90),(91,iI x91),(122,.slice x122 x122n x122c),(123,iI x123),(124,iI (wrap .i64 (x124+1)))] w1)
 (R L1 Bk1 [(7,.pointer (some k)),(11,.pointer (some x)),(12,iI obj),(89,.slice x89 x89n x89c),(90,iI x90),(91,iI x91),(122,.slice x122 x122n x122c),(123,iI x123),(124,iI (wrap .i64 (x124+1)))] w)))
 (R L1 Bj1 [(7,.pointer (some k)),(89,.slice x89 x89n x89c),(90,iI x90),(91,iI (wrap .i64 (x91+1)))] h):=kR
def Br8:Cuts:=⟨2,[],[],[(3,⟨[0,1,2,3,4,5,6,7,8,9,10,11,12,13,14,15,16,17,18,19],[0,1,3,7,0,0,32,0,128,0,512,0,2048,0,8192,32767,65535,65535,262143,524287],[],[]⟩),(5,⟨[0,1,2,3,4,5,6,7,8,9,10,11],[0,1,3,7,0,0,32,127,255,255,1023,2047],[],[]⟩),(7,⟨[0,1,2,3,4,5,6,7,8,9,10,11,12,13,14,15],[0,1,3,7,0,16,48,112,0,496,1008,2047,4095,4095,16383,32767],[],[]⟩),(9,⟨[0,1,2,3,4,5,6,7,8,9,10,11,12,13,14,15],[0,1,3,7,0,16,48,112,0,496,1008,0,2048,8191,16383,32767],[],[]⟩)]⟩
def Dq6:List Item:=A6 Tryz.f78
theorem Gf3 (c:List Value) :
 xQ Br8 C R A59 Tryz.f78 Dq6 [(0,.pointer k),(1,iI env),(2,.agg ⟨c⟩)] h =
 nw (.cells A69 false c) h fun b w=>gInt .i64 ⟨b,0,none⟩ w fun x=>cond (x==4)
 (aSome k fun p=>gPtr (add p 3) w fun z1=>gInt .i64 ⟨b,1,none⟩ w fun z2=>gInt .i64 ⟨b,4,none⟩ w fun z3=>gInt .i64 ⟨b,5,none⟩ w fun z4=>gInt .i64 ⟨b,2,none⟩ w fun z5=>gInt .i64 ⟨b,3,none⟩ w fun z6=>bnd (C A51 [.pointer z1,iI env,iI z2,iI z3,iI z4,iI z5,iI z6] w) fun r w1=>as2 r fun q1 q2=>aInt .i64 q1 fun z7=>aInt .i64 q2 fun z8=>some (.tuple ⟨[iI z7,iI z8]⟩,w1))
 (cond (x==5)
 (aSome k fun p_1=>gPtr (add p_1 3) w fun z9=>gInt .i64 ⟨b,1,none⟩ w fun z10=>bnd (C E37 [.pointer z9,iI env,iI z10] w) fun q3 w2=>as2 q3 fun q4 q5=>aInt .i64 q4 fun z11=>aInt .i64 q5 fun z12=>some (.tuple ⟨[iI z11,iI z12]⟩,w2))
 (cond (x==6)
 (aSome k fun p_2=>gPtr (add p_2 4) w fun z13=>aSome k fun p_3=>gSl (add p_3 0) w fun z14 xn _=>aSome z14 fun p_4=>ck ((0:Int)≤env∧env<(xn:Int)) (gInt .i64 (add (B0 p_4) (Int.toNat env*1)) w fun z15=>bnd (C A14 [.pointer z13,iI z15] w) fun q6 w3=>as2 q6 fun q7 q8=>aInt .i64 q7 fun z16=>aInt .i64 q8 fun z17=>some (.tuple ⟨[iI z16,iI z17]⟩,w3)))
 (cond (x==7)
 (aSome k fun p_5=>gPtr (add p_5 4) w fun z18=>aSome k fun p_6=>gSl (add p_6 0) w fun z19 xn_1 _=>aSome z19 fun p_7=>ck ((0:Int)≤env∧env<(xn_1:Int)) (gInt .i64 (add (B0 p_7) (Int.toNat env*1)) w fun z20=>gInt .i64 ⟨b,3,none⟩ w fun z21=>bnd (C A53 [.pointer z18,iI z20,iI z21] w) fun q9 w4=>aInt .i64 q9 fun z22=>some (.tuple ⟨[iI 0,iI z22]⟩,w4)))
 (cond (x==8)
 (gAgg ⟨b,0,none⟩ 7 w fun z23=>bnd (C Bb2 [.pointer k,iI env,.agg ⟨z23⟩] w) fun q10 w5=>as2 q10 fun q11 q12=>aInt .i64 q11 fun z24=>aInt .i64 q12 fun z25=>some (.tuple ⟨[iI z24,iI z25]⟩,w5))
 (cond (x==9)
 (gAgg ⟨b,0,none⟩ 7 w fun z26=>bnd (C Ba4 [.pointer k,iI env,.agg ⟨z26⟩] w) fun q13 w6=>aInt .i64 q13 fun z27=>some (.tuple ⟨[iI 0,iI z27]⟩,w6))
 (cond (x==10)
 (aSome k fun p_8=>gInt .i64 (add p_8 7) w fun z28=>some (.tuple ⟨[iI z28,iI 0]⟩,w))
 (some (.tuple ⟨[iI 0,iI 7]⟩,w)))))))):=kR
def Bh1:Cuts:=⟨2,[],[],[]⟩
def B98:List Item:=A6 Tryz.f80
theorem Eq0 (r:Option Addr) (b:ByteArray) :
 xQ Bh1 C R Aw9 Tryz.f80 B98 [(0,.pointer r),(1,iI e),(2,iI name),(3,iI atv),(4,.string b)] h =
 bnd (C Au2 [.pointer r,iI e,iI name,iI 2,iI atv,iI ((ByteArray.size b:Nat):Int)] h) fun q1 w=>as2 q1 fun q2 q3=>aInt .i64 q2 fun x=>aInt .i64 q3 fun z1=>cond (z1 != 0)
 (some (iI z1,w))
 (aSome r fun p=>gSl (add p 0) w fun z2 xn xc=>ckB (fitsOpen z2 A5 w) (ck ((0:Int)≤x∧x≤(xn:Int)) (pCells (E1 z2 (decide (Int.toNat x<xc)) ((Int.toNat x)*1)) (A0 (List.take (min (ByteArray.size b) (xn-(Int.toNat x))) (ByteArray.data b).toList)) w fun w1=>some (iI 0,w1)))):=kR
def Es4:Cuts:=⟨2,[],[],[]⟩
def G26:List Item:=A6 Tryz.f90
theorem Il7 :
 xQ Es4 C R Bg2 Tryz.f90 G26 [(0,iI n)] h =
 nw (.cells A5 false [.int .u8 (wrap .u8 (Int.fdiv n (2 ^ 8))),.int .u8 (wrap .u8 (n))]) h fun b w=>gCells (some ⟨b,0,none⟩) 2 w fun cs=>asBytes cs fun l=>some (.string (ByteArray.mk ⟨l⟩),w):=kR
def Aj6:Cuts:=⟨2,[(2,[0,1,7,8])],[],[]⟩
def A05:List Item:=A6 Tryz.f100
def Ae0:List Item:=stk [0,1,0,0,1,4,5] A05
theorem D85 (v:Int) :
 xQ Aj6 C R J6 Tryz.f100 A05 [(0,.slice s sn sc),(1,iI v)] h =
 R J6 Ae0 [(0,.slice s sn sc),(1,iI v),(7,iI (sn:Int)),(8,iI 0)] h:=kR
theorem Be8 (v:Int) (x7:Int) (x8:Int) :
 xQ Aj6 C R J6 Tryz.f100 Ae0 [(0,.slice s sn sc),(1,iI v),(7,iI x7),(8,iI x8)] h =
 cond (decide (x8<x7))
 (aSome s fun p=>ck ((0:Int)≤x8∧x8<(sn:Int)) (gInt .i64 (add (B0 p) (Int.toNat x8*1)) h fun x=>cond (v==x)
 (some (iI x8,h))
 (R J6 Ae0 [(0,.slice s sn sc),(1,iI v),(7,iI x7),(8,iI (wrap .i64 (x8+1)))] h)))
 (some (iI (-1),h)):=kR
def A00:Cuts:=⟨2,[],[],[]⟩
def Bt0:List Item:=A6 Tryz.f102
theorem D31 :
 xQ A00 C R Ab1 Tryz.f102 Bt0 [(0,.slice s sn sc)] h =
 cond s.isNone
 (some (.slice none 0 0,h))
 (nw (.cells B5 false []) h fun b w=>gCells s (sn*1) w fun cs=>ckB (fitsOpen (some ⟨b,0,none⟩) B5 w) (apd B5 1 (some ⟨b,0,none⟩) 0 0 sn cs w fun a an ac w1=>some (.slice a an ac,w1))):=kR
def Bx9:Cuts:=⟨2,[],[],[(4,⟨[0,1,2,3,4,5,6,7],[0,1,0,4,12,28,60,127],[],[]⟩),(5,⟨[0,1,2,3,4,5,6,7,8,9,10,11,12],[0,0,2,6,14,0,32,126,254,510,1023,2047,4095],[],[]⟩),(9,⟨[0,1,2,3,4,5,6,7,8,9],[0,1,3,7,0,16,63,127,255,511],[],[]⟩),(11,⟨[0,1,2,3,4,5,6,7,8,9,10,11],[0,0,2,6,14,0,32,126,254,511,1023,2047],[],[]⟩)]⟩
def Dw0:List Item:=A6 Tryz.f112
theorem Gl9 (i:List Value) :
 xQ Bx9 C R Bb1 Tryz.f112 Dw0 [(0,.pointer m),(1,.agg ⟨i⟩)] h =
 nw (.cells P6 false i) h fun b w=>gInt .i64 ⟨b,0,none⟩ w fun x=>cond (x==1)
 (aSome m fun p=>pV (add p 0) (iI 0) w fun w1=>gInt .i64 ⟨b,1,none⟩ w1 fun z1=>aSome m fun p_1=>gSl (add p_1 1) w1 fun _ xn _=>cond (decide (z1<(xn:Int)))
 (aSome m fun p_2=>gSl (add p_2 1) w1 fun z3 xn_1 _=>gInt .i64 ⟨b,1,none⟩ w1 fun z4=>aSome z3 fun p_3=>ck ((0:Int)≤z4∧z4<(xn_1:Int)) (gInt .u8 (add (B0 p_3) (Int.toNat z4*1)) w1 fun z5=>aSome m fun p_4=>pV (add p_4 0) (iI (wrap .i64 (z5))) w1 fun w2=>some (iI 0,w2)))
 (some (iI 0,w1)))
 (cond (x==2)
 (aSome m fun p_5=>gInt .i64 (add p_5 2) w fun z6=>aSome m fun p_6=>pV (add p_6 0) (iI z6) w fun w3=>some (iI 0,w3))
 (cond (x==3)
 (aSome m fun p_7=>gInt .i64 (add p_7 0) w fun z7=>gInt .i64 ⟨b,1,none⟩ w fun z8=>aSome m fun p_8=>pV (add p_8 0) (iI (J8 .i64 z7 z8)) w fun w4=>some (iI 0,w4))
 (cond (x==4)
 (aSome m fun p_9=>gInt .i64 (add p_9 0) w fun z9=>gInt .i64 ⟨b,1,none⟩ w fun z10=>bnd (C Dc3 [.bool (decide (z9<z10))] w) fun r w5=>aInt .i64 r fun z11=>aSome m fun p_10=>pV (add p_10 0) (iI z11) w5 fun w6=>some (iI 0,w6))
 (cond (x==7)
 (aSome m fun p_11=>gInt .i64 (add p_11 0) w fun z12=>bnd (C Dc3 [.bool (z12==0)] w) fun q1 w7=>aInt .i64 q1 fun z13=>aSome m fun p_12=>pV (add p_12 0) (iI z13) w7 fun w8=>some (iI 0,w8))
 (cond (x==5)
 (aSome m fun p_13=>gInt .i64 (add p_13 0) w fun z14=>cond (z14 != 0)
 (gInt .i64 ⟨b,1,none⟩ w fun z15=>some (iI z15,w))
 (some (iI 0,w)))
 (some (iI 0,w))))))):=kR
def Ew2:Cuts:=⟨2,[],[],[]⟩
def Gy2:List Item:=A6 Tryz.f114
theorem In7 (mask:Int) :
 xQ Ew2 C R Db0 Tryz.f114 Gy2 [(0,iI atv),(1,iI mask)] h =
 bnd (C Dp4 [iI atv] h) fun r w=>aBool r fun x=>bnd (cond (!x) (some (true,w)) (bnd (C Dp4 [iI mask] w) fun q1 w1=>aBool q1 fun z1=>some (!z1,w1))) fun c w2=>cond c
 (some (.slice none 0 0,w2))
 (nw (.cells P6 false [iI 1,iI atv,iI 0,iI 3,iI mask,iI 0,iI 7,iI 0,iI 0,iI 5,iI 1,iI 0,iI 6,iI 0,iI 0]) w2 fun b w3=>some (.slice (some ⟨b,0,none⟩) 5 5,w3)):=kR
def Du6:Cuts:=⟨2,[],[],[]⟩
def E29:List Item:=A6 Tryz.f115
theorem Hk3 (a:Option Addr) (an ac:Nat) :
 xQ Du6 C R B18 Tryz.f115 E29 [(0,.slice a an ac),(1,.slice b bn bc)] h =
 nw (.cells Gn6 false [.slice a an ac,.slice b bn bc]) h fun p1 w=>bnd (C D5 [.slice (some ⟨p1,0,none⟩) 2 2] w) fun r w1=>aSl r fun x xn xc=>bnd (C Ab2 [.slice a an ac] w1) fun q1 w2=>aInt .i64 q1 fun z1=>bnd (cond (z1 != 0) (some (true,w2)) (bnd (C Ab2 [.slice b bn bc] w2) fun q2 w3=>aInt .i64 q2 fun z2=>some (z2 != 0,w3))) fun c w4=>bnd (cond c (some (true,w4)) (bnd (C Ab2 [.slice x xn xc] w4) fun q3 w5=>aInt .i64 q3 fun z3=>some (z3 != 0,w5))) fun c_1 w6=>cond c_1
 (some (.tuple ⟨[.slice none 0 0,.bool false]⟩,w6))
 (bnd (C W6 [.slice x xn xc] w6) fun q4 w7=>aSl q4 fun z4 xn_1 xc_1=>some (.tuple ⟨[.slice z4 xn_1 xc_1,.bool true]⟩,w7)):=kR
def Ef6:Cuts:=⟨2,[],[],[]⟩
def Gq2:List Item:=A6 Tryz.f119
theorem If0 :
 xQ Ef6 C R A78 Tryz.f119 Gq2 [(0,iI e)] h =
 nw (.cells Q2 false [iI 0,iI 0,.slice none 0 0,.bool false]) h fun b w=>pAgg ⟨b,0,none⟩ [iI 0,iI e,.slice none 0 0,.bool false] w fun w1=>gAgg ⟨b,0,none⟩ 4 w1 fun x=>some (.agg ⟨x⟩,w1):=kR
def Ae1:Cuts:=⟨2,[(3,[0,3,9,10,11])],[],[]⟩
def Aq8:List Item:=A6 Tryz.f125
def Q4:List Item:=stk [0,1,0,1,0,0,1,4,5] Aq8
theorem Dp7 :
 xQ Ae1 C R H0 Tryz.f125 Aq8 [(0,.pointer t)] h =
 aSome t fun p=>gSl (add p 0) h fun x xn xc=>R H0 Q4 [(0,.pointer t),(3,.slice none 0 0),(9,.slice x xn xc),(10,iI (xn:Int)),(11,iI 0)] h:=kR
theorem A47 (x9:Option Addr) (x9n x9c:Nat) (x10:Int) (x11:Int) :
 xQ Ae1 C R H0 Tryz.f125 Q4 [(0,.pointer t),(3,.slice out outn outc),(9,.slice x9 x9n x9c),(10,iI x10),(11,iI x11)] h =
 cond (decide (x11<x10))
 (aSome x9 fun p=>ck ((0:Int)≤x11∧x11<(x9n:Int)) (gAgg (add (B0 p) (Int.toNat x11*8)) 8 h fun x=>nw (.cells Ar4 false [iI 0,iI 0,iI 0,iI 0,iI 0,iI 0,iI 0,.bool false]) h fun b w=>ck (List.length x=8) (pAgg ⟨b,0,none⟩ x w fun w1=>gBool ⟨b,7,none⟩ w1 fun z1=>cond z1
 (bnd (C Q0 [.pointer t,iI x11] w1) fun r w2=>aInt .i64 r fun z2=>nw (.cells B5 false [iI z2]) w2 fun p1 w3=>gCells (some ⟨p1,0,none⟩) (1*1) w3 fun cs=>ckB (fitsOpen out B5 w3) (apd B5 1 out outn outc 1 cs w3 fun a an ac w4=>R H0 Q4 [(0,.pointer t),(3,.slice a an ac),(9,.slice x9 x9n x9c),(10,iI x10),(11,iI (wrap .i64 (x11+1)))] w4))
 (R H0 Q4 [(0,.pointer t),(3,.slice out outn outc),(9,.slice x9 x9n x9c),(10,iI x10),(11,iI (wrap .i64 (x11+1)))] w1))))
 (some (.slice out outn outc,h)):=kR
def A32:Cuts:=⟨2,[],[],[]⟩
def Bv6:List Item:=A6 Tryz.f126
theorem Ea5 :
 xQ A32 C R V8 Tryz.f126 Bv6 [(0,.pointer c),(1,.agg ⟨r⟩)] h =
 nw (.cells E3 false r) h fun b w=>nw (.cells Bp3 false [iI 0,iI 0,iI 0]) w fun p1 w1=>gInt .i64 ⟨b,1,none⟩ w1 fun x=>bnd (cond (decide (x<0)) (some (true,w1)) (gInt .i64 ⟨b,0,none⟩ w1 fun z1=>bnd (C Af1 [.pointer c,iI z1] w1) fun q1 w2=>aInt .i64 q1 fun z2=>some (decide (x≥z2),w2))) fun c_1 w3=>cond c_1
 (pAgg ⟨p1,0,none⟩ [iI 0,iI 0,iI 0] w3 fun w4=>gAgg ⟨p1,0,none⟩ 3 w4 fun z3=>some (.tuple ⟨[.agg ⟨z3⟩,.bool false]⟩,w4))
 (aSome c fun p=>gSl (add p 2) w3 fun z4 xn _=>aSome z4 fun p_1=>ck ((0:Int)≤0∧0<(xn:Int)) (gInt .i64 (add (B0 p_1) (Int.toNat 0*1)) w3 fun z5=>gInt .i64 ⟨b,0,none⟩ w3 fun z6=>cond (z6==1)
 (pAgg ⟨p1,0,none⟩ [iI z5,iI (wrap .i64 (24*x)),iI 24] w3 fun w5=>gAgg ⟨p1,0,none⟩ 3 w5 fun z7=>some (.tuple ⟨[.agg ⟨z7⟩,.bool true]⟩,w5))
 (gInt .i64 ⟨b,0,none⟩ w3 fun z8=>cond (z8==2)
 (pAgg ⟨p1,0,none⟩ [iI z5,iI (wrap .i64 (192+(wrap .i64 (8*x)))),iI 8] w3 fun w6=>gAgg ⟨p1,0,none⟩ 3 w6 fun z9=>some (.tuple ⟨[.agg ⟨z9⟩,.bool true]⟩,w6))
 (gInt .i64 ⟨b,0,none⟩ w3 fun z10=>bnd (cond (z10==3) (some (decide (x<4),w3)) (some (false,w3))) fun c_2 w7=>cond c_2
 (pAgg ⟨p1,0,none⟩ [iI z5,iI (wrap .i64 (288+(wrap .i64 (40*x)))),iI 40] w7 fun w8=>gAgg ⟨p1,0,none⟩ 3 w8 fun z11=>some (.tuple ⟨[.agg ⟨z11⟩,.bool true]⟩,w8))
 (gInt .i64 ⟨b,0,none⟩ w7 fun z12=>cond (z12==3)
 (aSome c fun p_2=>gSl (add p_2 2) w7 fun z13 xn_1 _=>aSome z13 fun p_3=>ck ((0:Int)≤wrap .i64 ((wrap .i64 (x-4))+1)∧wrap .i64 ((wrap .i64 (x-4))+1)<(xn_1:Int)) (gInt .i64 (add (B0 p_3) (Int.toNat (wrap .i64 ((wrap .i64 (x-4))+1))*1)) w7 fun z14=>pAgg ⟨p1,0,none⟩ [iI z14,iI 0,iI 40] w7 fun w9=>gAgg ⟨p1,0,none⟩ 3 w9 fun z15=>some (.tuple ⟨[.agg ⟨z15⟩,.bool true]⟩,w9)))
 (gInt .i64 ⟨b,0,none⟩ w7 fun z16=>cond (z16==4)
 (pAgg ⟨p1,0,none⟩ [iI z5,iI 448,iI 40] w7 fun w10=>gAgg ⟨p1,0,none⟩ 3 w10 fun z17=>some (.tuple ⟨[.agg ⟨z17⟩,.bool true]⟩,w10))
 (pAgg ⟨p1,0,none⟩ [iI z5,iI 488,iI 4] w7 fun w11=>gAgg ⟨p1,0,none⟩ 3 w11 fun z18=>some (.tuple ⟨[.agg ⟨z18⟩,.bool true]⟩,w11)))))))):=kR
def Bl8:Cuts:=⟨2,[(4,[1,2,22,23,24]),(9,[1,2,43,44,45]),(14,[1,58,59])],[],[]⟩
def Bz0:List Item:=A6 Tryz.f130
def Dk8:List Item:=stk [0,1,0,1,0,0,1,4,5] Bz0
def Di3:List Item:=stk [0,1,0,1,0,1,0,0,1,4,5] Bz0
def Dl7:List Item:=stk [0,1,0,1,0,1,0,1,0,0,1,4,5] Bz0
theorem H93 :
 xQ Bl8 C R S4 Tryz.f130 Bz0 [(0,.agg ⟨p⟩),(1,.slice b bn bc)] h =
 nw (.cells D0 false p) h fun p1 w=>gAgg ⟨p1,0,none⟩ 16 w fun x=>bnd (C D14 [.agg ⟨x⟩] w) fun r w1=>aBool r fun z1=>cond (!z1)
 (some (.bool false,w1))
 (gInt .i64 ⟨p1,0,none⟩ w1 fun z2=>gInt .i64 ⟨p1,1,none⟩ w1 fun z3=>gInt .i64 ⟨p1,2,none⟩ w1 fun z4=>gInt .i64 ⟨p1,3,none⟩ w1 fun z5=>nw (.cells B5 false [iI z2,iI z3,iI z4,iI z5]) w1 fun p2 w2=>R S4 Dk8 [(1,.slice b bn bc),(2,pP p1),(22,.slice (some ⟨p2,0,none⟩) 4 4),(23,iI 4),(24,iI 0)] w2):=kR
theorem Bc0 (p:Addr) (x22:Option Addr) (x22n x22c:Nat) (x23:Int) (x24:Int) :
 xQ Bl8 C R S4 Tryz.f130 Dk8 [(1,.slice b bn bc),(2,.pointer (some p)),(22,.slice x22 x22n x22c),(23,iI x23),(24,iI x24)] h =
 cond (decide (x24<x23))
 (aSome x22 fun p_1=>ck ((0:Int)≤x24∧x24<(x22n:Int)) (gInt .i64 (add (B0 p_1) (Int.toNat x24*1)) h fun x=>aSome b fun p_2=>ck ((0:Int)≤x24∧x24<(bn:Int)) (pV (add (B0 p_2) (Int.toNat x24*1)) (.int .u8 (wrap .u8 (x))) h fun w=>R S4 Dk8 [(1,.slice b bn bc),(2,.pointer (some p)),(22,.slice x22 x22n x22c),(23,iI x23),(24,iI (wrap .i64 (x24+1)))] w)))
 (gInt .i64 (add p 4) h fun z1=>gInt .i64 (add p 5) h fun z2=>gInt .i64 (add p 6) h fun z3=>gInt .i64 (add p 7) h fun z4=>nw (.cells B5 false [iI z1,iI z2,iI z3,iI z4]) h fun p1 w1=>R S4 Di3 [(1,.slice b bn bc),(2,.pointer (some p)),(43,.slice (some ⟨p1,0,none⟩) 4 4),(44,iI 4),(45,iI 0)] w1):=kR
theorem Be6 (p:Addr) (x43:Option Addr) (x43n x43c:Nat) (x44:Int) (x45:Int) :
 xQ Bl8 C R S4 Tryz.f130 Di3 [(1,.slice b bn bc),(2,.pointer (some p)),(43,.slice x43 x43n x43c),(44,iI x44),(45,iI x45)] h =
 cond (decide (x45<x44))
 (aSome x43 fun p_1=>ck ((0:Int)≤x45∧x45<(x43n:Int)) (gInt .i64 (add (B0 p_1) (Int.toNat x45*1)) h fun x=>bnd (C Bs0 [.slice b bn bc,iI (wrap .i64 (4+(wrap .i64 (2*x45)))),iI x] h) fun r w=>aBool r fun _=>R S4 Di3 [(1,.slice b bn bc),(2,.pointer (some p)),(43,.slice x43 x43n x43c),(44,iI x44),(45,iI (wrap .i64 (x45+1)))] w))
 (gAgg (add p 8) 8 h fun z2=>R S4 Dl7 [(1,.slice b bn bc),(58,.agg ⟨z2⟩),(59,iI 0)] h):=kR
theorem Ac7 (x58:List Value) :
 xQ Bl8 C R S4 Tryz.f130 Dl7 [(1,.slice b bn bc),(58,.agg ⟨x58⟩),(59,iI x59)] h =
 cond (decide (x59<8))
 (ck ((0:Int)≤x59∧x59<((8:Nat):Int)) (nth x58 (Int.toNat x59*1) fun x=>aInt .i64 x fun z1=>aSome b fun p=>ck ((0:Int)≤wrap .i64 (12+x59)∧wrap .i64 (12+x59)<(bn:Int)) (pV (add (B0 p) (Int.toNat (wrap .i64 (12+x59))*1)) (.int .u8 (wrap .u8 (z1))) h fun w=>R S4 Dl7 [(1,.slice b bn bc),(58,.agg ⟨x58⟩),(59,iI (wrap .i64 (x59+1)))] w)))
 (aSome b fun p_1=>ck ((0:Int)≤20∧20<(bn:Int)) (pV (add (B0 p_1) (Int.toNat 20*1)) (.int .u8 167) h fun w1=>ckB (fitsOpen b A5 w1) (ck ((0:Int)≤21∧21≤(bc:Int)) (bnd (C Af2 [.slice (E1 b (decide (0<bc)) (0*1)) ((Int.toNat 21)-0) (bc-0)] w1) fun r w2=>aInt .u8 r fun z2=>aSome b fun p_2=>ck ((0:Int)≤21∧21<(bn:Int)) (pV (add (B0 p_2) (Int.toNat 21*1)) (.int .u8 z2) w2 fun w3=>some (.bool true,w3)))))):=kR
def Ds6:Cuts:=⟨2,[],[],[]⟩
def E22:List Item:=A6 Tryz.f133
theorem Ho1 :
 xQ Ds6 C R Bk5 Tryz.f133 E22 [(0,iI n)] h =
 some (iI (mm2 false (mm2 true n 0) 64),h):=kR
def Dn7:Cuts:=⟨2,[(3,[3,12,13,14])],[],[(5,⟨[0,1,2,3,4,5,6,7,8,9,10,11,12,13],[0,0,2,6,14,0,32,96,224,480,1022,2047,4095,8191],[],[]⟩)]⟩
def Ek9:List Item:=A6 Tryz.f136
def Bt3:List Item:=stk [0,1,0,1,0,0,1,4,5] Ek9
theorem Id4 (frames:Option Addr) (framesn framesc:Nat) :
 xQ Dn7 C R Ax9 Tryz.f136 Ek9 [(0,.slice frames framesn framesc)] h =
 nw (.cells A34 false [.slice none 0 0]) h fun b w=>ckB (fitsOpen frames B5 w) (ck ((0:Int)≤mm2 false (framesn:Int) 4∧mm2 false (framesn:Int) 4≤(framesc:Int)) (R Ax9 Bt3 [(3,pP b),(12,.slice (E1 frames (decide (0<framesc)) (0*1)) ((Int.toNat (mm2 false (framesn:Int) 4))-0) (framesc-0)),(13,iI (((Int.toNat (mm2 false (framesn:Int) 4))-0:Nat):Int)),(14,iI 0)] w)):=kR
theorem Eo0 (x12:Option Addr) (x12n x12c:Nat) (x14:Int) :
 xQ Dn7 C R Ax9 Tryz.f136 Bt3 [(3,.pointer (some q)),(12,.slice x12 x12n x12c),(13,iI x13),(14,iI x14)] h =
 cond (decide (x14<x13))
 (aSome x12 fun p=>ck ((0:Int)≤x14∧x14<(x12n:Int)) (gInt .i64 (add (B0 p) (Int.toNat x14*1)) h fun x=>gSl (add q 0) h fun z1 xn xc=>ck ((0:Int)≤mm2 false (mm2 true x 0) 64∧(mm2 false (mm2 true x 0) 64:Int)≤mm2 false (mm2 true x 0) 64∧mm2 false (mm2 true x 0) 64≤(A8:Int)) (nw (.cells B5 false (E7 (Int.toNat (mm2 false (mm2 true x 0) 64)) [iI 0])) h fun b w=>nw (.cells V7 false [.slice (some ⟨b,0,none⟩) (Int.toNat (mm2 false (mm2 true x 0) 64)) (Int.toNat (mm2 false (mm2 true x 0) 64))]) w fun p1 w1=>gCells (some ⟨p1,0,none⟩) (1*1) w1 fun cs=>ckB (fitsOpen z1 V7 w1) (apd V7 1 z1 xn xc 1 cs w1 fun a an ac w2=>pV (add q 0) (.slice a an ac) w2 fun w3=>R Ax9 Bt3 [(3,.pointer (some q)),(12,.slice x12 x12n x12c),(13,iI x13),(14,iI (wrap .i64 (x14+1)))] w3))))
 (some (.pointer (some q),h)):=kR
def D74:Cuts:=⟨2,[],[],[]⟩
def Ge2:List Item:=A6 Tryz.f137
theorem Hv6 :
 xQ D74 C R Dc4 Tryz.f137 Ge2 [(0,.pointer m),(1,.pointer s)] h =
 nw (.cells D68 false [.pointer m,.pointer s,.slice none 0 0]) h fun b w=>some (pP b,w):=kR
def A18:Cuts:=⟨2,[(3,[5,20,21,22])],[],[(2,⟨[0,1,2,3,4,5,6,7,8,9,10,11,12,13,14],[0,1,3,7,0,16,0,64,192,448,960,2032,4095,8191,0],[],[]⟩)]⟩
def Bm2:List Item:=A6 Tryz.f140
def Ap2:List Item:=stk [0,1,0,1,0,0,1,4,5] Bm2
theorem E41 (q:Option Addr) (s:Int) :
 xQ A18 C R U1 Tryz.f140 Bm2 [(0,.pointer q),(1,iI s)] h =
 aSome q fun p=>gSl (add p 0) h fun x _ xc=>aSome q fun p_1=>gSl (add p_1 0) h fun _ xn_1 _=>ckB (fitsOpen x V7 h) (ck ((0:Int)≤mm2 false (mm2 true s 0) (xn_1:Int)∧mm2 false (mm2 true s 0) (xn_1:Int)≤(xc:Int)) (R U1 Ap2 [(5,iI 0),(20,.slice (E1 x (decide (0<xc)) (0*1)) ((Int.toNat (mm2 false (mm2 true s 0) (xn_1:Int)))-0) (xc-0)),(21,iI (((Int.toNat (mm2 false (mm2 true s 0) (xn_1:Int)))-0:Nat):Int)),(22,iI 0)] h)):=kR
theorem By8 :
 xQ A18 C R U1 Tryz.f140 Ap2 [(5,iI n),(20,.slice x20 x20n x20c),(21,iI x21),(22,iI x22)] h =
 cond (decide (x22<x21))
 (aSome x20 fun p=>ck ((0:Int)≤x22∧x22<(x20n:Int)) (gSl (add (B0 p) (Int.toNat x22*1)) h fun _ xn _=>R U1 Ap2 [(5,iI (wrap .i64 (n+(xn:Int)))),(20,.slice x20 x20n x20c),(21,iI x21),(22,iI (wrap .i64 (x22+1)))] h))
 (some (iI n,h)):=kR
def Bn6:Cuts:=⟨2,[(3,[0,3,4])],[],[(5,⟨[0,1,2,3,4,5,6,7,8,9,10,11,12,13,14,15,16],[0,0,2,6,14,0,0,96,224,480,992,2016,4064,8190,16383,32767,65535],[],[]⟩)]⟩
def De2:List Item:=A6 Tryz.f143
def A71:List Item:=stk [0,1,0,1,0,0,1,4,5] De2
theorem G39 :
 xQ Bn6 C R Ad7 Tryz.f143 De2 [(0,.slice l ln lc)] h =
 nw (.cells E96 false [.slice none 0 0]) h fun b w=>R Ad7 A71 [(0,.slice l ln lc),(3,pP b),(4,iI 0)] w:=kR
theorem Dr4 :
 xQ Bn6 C R Ad7 Tryz.f143 A71 [(0,.slice l ln lc),(3,.pointer (some q)),(4,iI i)] h =
 bnd (cond (decide (i<(ln:Int))) (some (decide (i<4),h)) (some (false,h))) fun c w=>cond c
 (gSl (add q 0) w fun x xn xc=>aSome l fun p=>ck ((0:Int)≤i∧i<(ln:Int)) (gInt .i64 (add (B0 p) (Int.toNat i*1)) w fun z1=>ck ((0:Int)≤mm2 false (mm2 true z1 0) 64∧(mm2 false (mm2 true z1 0) 64:Int)≤mm2 false (mm2 true z1 0) 64∧mm2 false (mm2 true z1 0) 64≤(A8:Int)) (nw (.cells Gy6 false (E7 (Int.toNat (mm2 false (mm2 true z1 0) 64)) [.bool false])) w fun b w1=>nw (.cells D49 false [.slice (some ⟨b,0,none⟩) (Int.toNat (mm2 false (mm2 true z1 0) 64)) (Int.toNat (mm2 false (mm2 true z1 0) 64))]) w1 fun p1 w2=>gCells (some ⟨p1,0,none⟩) (1*1) w2 fun cs=>ckB (fitsOpen x D49 w2) (apd D49 1 x xn xc 1 cs w2 fun a an ac w3=>pV (add q 0) (.slice a an ac) w3 fun w4=>R Ad7 A71 [(0,.slice l ln lc),(3,.pointer (some q)),(4,iI (wrap .i64 (i+1)))] w4))))
 (some (.pointer (some q),w)):=kR
def Ed7:Cuts:=⟨2,[(2,[0,1,5])],[],[]⟩
def Gc4:List Item:=A6 Tryz.f148
def Dc5:List Item:=stk [0,1,0,0,1,4,5] Gc4
theorem Iu6 (s:Int) :
 xQ Ed7 C R Be7 Tryz.f148 Gc4 [(0,.slice l ln lc),(1,iI s)] h =
 R Be7 Dc5 [(0,.slice l ln lc),(1,iI s),(5,iI 0)] h:=kR
theorem E72 (s:Int) :
 xQ Ed7 C R Be7 Tryz.f148 Dc5 [(0,.slice l ln lc),(1,iI s),(5,iI i)] h =
 cond (decide (i<(ln:Int)))
 (aSome l fun p=>ck ((0:Int)≤i∧i<(ln:Int)) (gInt .i64 (add (B0 p) (Int.toNat i*1)) h fun x=>cond (x==s)
 (some (.bool true,h))
 (R Be7 Dc5 [(0,.slice l ln lc),(1,iI s),(5,iI (wrap .i64 (i+1)))] h)))
 (some (.bool false,h)):=kR
def B60:Cuts:=⟨2,[],[],[]⟩
def D77:List Item:=A6 Tryz.f149
theorem Gu8 (c:List Value) :
 xQ B60 C R Bi2 Tryz.f149 D77 [(0,.pointer s),(1,iI e),(2,.agg ⟨c⟩)] h =
 nw (.cells U3 false c) h fun b w=>bnd (C Ao4 [.pointer s,iI e] w) fun r w1=>aBool r fun x=>bnd (cond (!x) (some (true,w1)) (gInt .i64 ⟨b,1,none⟩ w1 fun z1=>some (decide (z1<0),w1))) fun c_1 w2=>bnd (cond c_1 (some (true,w2)) (gInt .i64 ⟨b,1,none⟩ w2 fun z2=>some (decide (z2>7),w2))) fun c_2 w3=>bnd (cond c_2 (some (true,w3)) (gInt .i64 ⟨b,2,none⟩ w3 fun z3=>some (decide (z3<0),w3))) fun c_3 w4=>bnd (cond c_3 (some (true,w4)) (gInt .i64 ⟨b,2,none⟩ w4 fun z4=>some (decide (z4>65536),w4))) fun c_4 w5=>bnd (cond c_4 (some (true,w5)) (gInt .i64 ⟨b,3,none⟩ w5 fun z5=>some (decide (z5<0),w5))) fun c_5 w6=>bnd (cond c_5 (some (true,w6)) (gInt .i64 ⟨b,3,none⟩ w6 fun z6=>some (decide (z6>65536),w6))) fun c_6 w7=>cond c_6
 (some (.tuple ⟨[iI 0,iI 1]⟩,w7))
 (pAgg ⟨b,4,none⟩ [iI 0,iI 0] w7 fun w8=>gAgg ⟨b,0,none⟩ 6 w8 fun z7=>bnd (C Bf3 [.pointer s,iI e,.agg ⟨z7⟩] w8) fun q1 w9=>as2 q1 fun q2 q3=>aInt .i64 q2 fun z8=>aInt .i64 q3 fun z9=>some (.tuple ⟨[iI z8,iI z9]⟩,w9)):=kR
def Bf6:Cuts:=⟨2,[(3,[0,3,4])],[],[]⟩
def B63:List Item:=A6 Tryz.f170
def An2:List Item:=stk [0,1,0,1,0,0,1,4,5] B63
theorem Gv5 (n:Option Addr) :
 xQ Bf6 C R V9 Tryz.f170 B63 [(0,.pointer n)] h =
 R V9 An2 [(0,.pointer n),(3,.slice none 0 0),(4,iI 0)] h:=kR
theorem Di0 (n:Option Addr) :
 xQ Bf6 C R V9 Tryz.f170 An2 [(0,.pointer n),(3,.slice out outn outc),(4,iI i)] h =
 aSome n fun p=>gSl (add p 0) h fun _ xn _=>cond (decide (i<(xn:Int)))
 (aSome n fun p_1=>gSl (add p_1 0) h fun z1 xn_1 _=>aSome z1 fun p_2=>ck ((0:Int)≤i∧i<(xn_1:Int)) (gBool (add (add (B0 p_2) (Int.toNat i*2)) 1) h fun z2=>cond z2
 (aSome n fun p_3=>gSl (add p_3 0) h fun z3 xn_2 _=>aSome z3 fun p_4=>ck ((0:Int)≤i∧i<(xn_2:Int)) (gInt .i64 (add (add (B0 p_4) (Int.toNat i*2)) 0) h fun z4=>nw (.cells B5 false [iI (wrap .i64 (i+(wrap .i64 (256*z4))))]) h fun b w=>gCells (some ⟨b,0,none⟩) (1*1) w fun cs=>ckB (fitsOpen out B5 w) (apd B5 1 out outn outc 1 cs w fun a an ac w1=>R V9 An2 [(0,.pointer n),(3,.slice a an ac),(4,iI (wrap .i64 (i+1)))] w1)))
 (R V9 An2 [(0,.pointer n),(3,.slice out outn outc),(4,iI (wrap .i64 (i+1)))] h)))
 (some (.slice out outn outc,h)):=kR
def Bg6:Cuts:=⟨2,[],[],[]⟩
def Dc1:List Item:=A6 Tryz.f175
theorem Ex5 :
 xQ Bg6 C R Aw0 Tryz.f175 Dc1 [(0,iI g)] h =
 bnd (cond (decide (g<0)) (some (true,h)) (some (decide (g≥8),h))) fun c w=>cond c
 (some (.tuple ⟨[.slice none 0 0,.bool false]⟩,w))
 (nw (.cells A5 false [.int .u8 (wrap .u8 (g)),.int .u8 211]) w fun b w1=>bnd (C Af2 [.slice (some ⟨b,0,none⟩) 2 2] w1) fun r w2=>aInt .u8 r fun x=>nw (.cells A5 false [.int .u8 x,.int .u8 0]) w2 fun p1 w3=>gCells (some ⟨p1,0,none⟩) (2*1) w3 fun cs=>ckB (fitsOpen (some ⟨b,0,none⟩) A5 w3) (apd A5 1 (some ⟨b,0,none⟩) 2 2 2 cs w3 fun a an ac w4=>some (.tuple ⟨[.slice a an ac,.bool true]⟩,w4))):=kR
def D64:Cuts:=⟨2,[],[],[]⟩
def E54:List Item:=A6 Tryz.f177
theorem H40 :
 xQ D64 C R De7 Tryz.f177 E54 [(0,.pointer c),(1,iI i),(2,iI fd),(3,iI n)] h =
 nw (.cells Q2 false [iI 0,iI 0,.slice none 0 0,.bool false]) h fun b w=>bnd (C Dm8 [.pointer c,iI i,iI fd,iI n] w) fun r w1=>as2 r fun q1 q2=>aAgg q1 fun x=>aInt .i64 q2 fun z1=>nw (.cells D3 false [iI 0,iI 0,iI 0,iI 0]) w1 fun p1 w2=>ck (List.length x=4) (pAgg ⟨p1,0,none⟩ x w2 fun w3=>bnd (cond (z1 != 0) (some (true,w3)) (some (n==0,w3))) fun c_1 w4=>cond c_1
 (bnd (C U5 [iI z1] w4) fun q3 w5=>aAgg q3 fun z2=>ck (List.length z2=4) (pAgg ⟨b,0,none⟩ z2 w5 fun w6=>gAgg ⟨b,0,none⟩ 4 w6 fun z3=>some (.agg ⟨z3⟩,w6)))
 (gAgg ⟨p1,0,none⟩ 4 w4 fun z4=>bnd (C Da9 [.pointer c,.agg ⟨z4⟩] w4) fun q4 w7=>as2 q4 fun q5 q6=>aAgg q5 fun z5=>aBool q6 fun z6=>nw (.cells De3 false [iI 0,iI 0,iI 0,iI 0,.int .u8 0,.int .u8 0,.int .u8 0,.int .u8 0,.int .u8 0,.int .u8 0,.int .u8 0,.int .u8 0,.int .u8 0,.int .u8 0,.int .u8 0,.int .u8 0,.int .u8 0,.int .u8 0,.int .u8 0,.int .u8 0,.int .u8 0,.int .u8 0,.int .u8 0,.int .u8 0,.int .u8 0,.int .u8 0,.int .u8 0,.int .u8 0,.int .u8 0,.int .u8 0,.int .u8 0,.int .u8 0,.int .u8 0,.int .u8 0,.int .u8 0,.int .u8 0,.nilFunc]) w7 fun p2 w8=>ck (List.length z5=37) (pAgg ⟨p2,0,none⟩ z5 w8 fun w9=>cond (!z6)
 (bnd (C U5 [iI 105] w9) fun q7 w10=>aAgg q7 fun z7=>ck (List.length z7=4) (pAgg ⟨b,0,none⟩ z7 w10 fun w11=>gAgg ⟨b,0,none⟩ 4 w11 fun z8=>some (.agg ⟨z8⟩,w11)))
 (gInt .i64 ⟨p2,1,none⟩ w9 fun z9=>bnd (cond (z9==0) (gInt .i64 ⟨p1,0,none⟩ w9 fun z10=>some (z10==1,w9)) (some (false,w9))) fun c_2 w12=>bnd (cond c_2 (gInt .i64 ⟨p2,3,none⟩ w12 fun z11=>some (z11==0,w12)) (some (false,w12))) fun c_3 w13=>cond c_3
 (pAgg ⟨b,0,none⟩ [iI 0,iI 0,.slice none 0 0,.bool false] w13 fun w14=>gAgg ⟨b,0,none⟩ 4 w14 fun z12=>some (.agg ⟨z12⟩,w14))
 (gInt .i64 ⟨p2,1,none⟩ w13 fun z13=>cond (z13==0)
 (gAgg ⟨p1,0,none⟩ 4 w13 fun z14=>bnd (C A38 [.agg ⟨z14⟩] w13) fun q8 w15=>aAgg q8 fun z15=>ck (List.length z15=4) (pAgg ⟨b,0,none⟩ z15 w15 fun w16=>gAgg ⟨b,0,none⟩ 4 w16 fun z16=>some (.agg ⟨z16⟩,w16)))
 (gAgg ⟨p2,0,none⟩ 36 w13 fun z17=>bnd (C Dn9 [.agg ⟨z17⟩,iI n] w13) fun q9 w17=>as2 q9 fun q10 q11=>aAgg q10 fun z18=>aSl q11 fun z19 xn xc=>nw (.cells D1 false zZ2) w17 fun p3 w18=>ck (List.length z18=36) (pAgg ⟨p3,0,none⟩ z18 w18 fun w19=>gFv ⟨p2,36,none⟩ w19 fun z20=>gAgg ⟨p3,0,none⟩ 36 w19 fun z21=>aFn z20 fun g fi cp=>bnd (C g (fi++([.agg ⟨z21⟩]++cp)) w19) fun q12 w20=>aBool q12 fun z22=>cond (!z22)
 (bnd (C U5 [iI 105] w20) fun q13 w21=>aAgg q13 fun z23=>ck (List.length z23=4) (pAgg ⟨b,0,none⟩ z23 w21 fun w22=>gAgg ⟨b,0,none⟩ 4 w22 fun z24=>some (.agg ⟨z24⟩,w22)))
 (pAgg ⟨b,0,none⟩ [iI (xn:Int),iI 0,.slice z19 xn xc,.bool false] w20 fun w23=>gAgg ⟨b,0,none⟩ 4 w23 fun z25=>some (.agg ⟨z25⟩,w23))))))))):=kR
def E50:Cuts:=⟨2,[],[],[]⟩
def Hj8:List Item:=A6 Tryz.f197
theorem Iv2 (i:List Value) (behind:Int) :
 xQ E50 C R Ee6 Tryz.f197 Hj8 [(0,.agg ⟨i⟩),(1,iI behind)] h =
 nw (.cells P6 false i) h fun b w=>gInt .i64 ⟨b,0,none⟩ w fun x=>bnd (cond (x==1) (some (true,w)) (gInt .i64 ⟨b,0,none⟩ w fun z1=>some (z1==3,w))) fun c w1=>bnd (cond c (some (true,w1)) (gInt .i64 ⟨b,0,none⟩ w1 fun z2=>some (z2==4,w1))) fun c_1 w2=>bnd (cond c_1 (some (true,w2)) (gInt .i64 ⟨b,0,none⟩ w2 fun z3=>some (z3==5,w2))) fun c_2 w3=>gInt .i64 ⟨b,0,none⟩ w3 fun z4=>bnd (cond (decide (z4<1)) (some (true,w3)) (gInt .i64 ⟨b,0,none⟩ w3 fun z5=>some (decide (z5>7),w3))) fun c_3 w4=>bnd (cond c_3 (some (true,w4)) (gInt .i64 ⟨b,1,none⟩ w4 fun z6=>some (decide (z6<0),w4))) fun c_4 w5=>bnd (cond c_4 (some (true,w5)) (gInt .i64 ⟨b,1,none⟩ w5 fun z7=>some (decide (z7>65535),w5))) fun c_5 w6=>bnd (cond c_5 (some (true,w6)) (bnd (cond (!c_2) (gInt .i64 ⟨b,1,none⟩ w6 fun z8=>some (z8 != 0,w6)) (some (false,w6))) fun c_6 w7=>some (c_6,w7))) fun c_7 w8=>bnd (cond c_7 (some (true,w8)) (gInt .i64 ⟨b,2,none⟩ w8 fun z9=>some (z9 != 0,w8))) fun c_8 w9=>cond c_8
 (some (.bool false,w9))
 (gInt .i64 ⟨b,0,none⟩ w9 fun z10=>bnd (cond (z10 != 5) (some (true,w9)) (gInt .i64 ⟨b,1,none⟩ w9 fun z11=>some (decide (z11≤behind),w9))) fun c_9 w10=>some (.bool c_9,w10)):=kR
def Eq3:Cuts:=⟨2,[],[],[]⟩
def G10:List Item:=A6 Tryz.f198
theorem Im9 (isv:Bool) :
 xQ Eq3 C R Dc3 Tryz.f198 G10 [(0,.bool isv)] h =
 cond isv
 (some (iI 1,h))
 (some (iI 0,h)):=kR
def Ai9:Cuts:=⟨2,[],[],[]⟩
def A22:List Item:=A6 Tryz.f202
theorem B82 :
 xQ Ai9 C R W6 Tryz.f202 A22 [(0,.slice s sn sc)] h =
 ckB (fitsOpen s P6 h) (ck ((0:Int)≤(sn:Int)∧(sn:Int)≤(sc:Int)) (ck ((0:Int)≤(sn:Int)∧(sn:Int)≤((Int.toNat (sn:Int):Nat):Int)) (some (.slice (Ar1 (E1 s (decide (0<Int.toNat (sn:Int))) (0*3))) ((Int.toNat (sn:Int))-0) ((Int.toNat (sn:Int))-0),h)))):=kR
def A28:Cuts:=⟨2,[],[],[(2,⟨[0,1,2,3,4,5,6,7],[0,0,0,4,12,0,63,127],[],[]⟩)]⟩
def Bv7:List Item:=A6 Tryz.f206
theorem Ea3 :
 xQ A28 C R Ac8 Tryz.f206 Bv7 [(0,.pointer c),(1,.agg ⟨r⟩)] h =
 nw (.cells E3 false r) h fun b w=>gAgg ⟨b,0,none⟩ 2 w fun x=>bnd (C V8 [.pointer c,.agg ⟨x⟩] w) fun q1 w1=>as2 q1 fun q2 q3=>aAgg q2 fun z1=>aBool q3 fun z2=>nw (.cells Bp3 false [iI 0,iI 0,iI 0]) w1 fun p1 w2=>ck (List.length z1=3) (pAgg ⟨p1,0,none⟩ z1 w2 fun w3=>gAgg ⟨b,0,none⟩ 2 w3 fun z3=>gInt .i64 ⟨p1,2,none⟩ w3 fun z4=>ck ((0:Int)≤z4∧(z4:Int)≤z4∧z4≤(A8:Int)) (nw (.cells A5 false (E7 (Int.toNat z4) [.int .u8 0])) w3 fun p2 w4=>bnd (C N7 [.pointer c,.agg ⟨z3⟩,.slice (some ⟨p2,0,none⟩) (Int.toNat z4) (Int.toNat z4),.bool z2] w4) fun q4 w5=>aBool q4 fun z5=>some (.bool z5,w5))):=kR
def As9:Cuts:=⟨2,[],[],[]⟩
def Bj9:List Item:=A6 Tryz.f207
theorem Ds5 :
 xQ As9 C R Q0 Tryz.f207 Bj9 [(0,.pointer t),(1,iI i)] h =
 aSome t fun p=>gSl (add p 0) h fun x xn _=>aSome x fun p_1=>ck ((0:Int)≤i∧i<(xn:Int)) (gInt .i64 (add (add (B0 p_1) (Int.toNat i*8)) 6) h fun z1=>some (iI (wrap .i64 (i+(wrap .i64 (256*z1)))),h)):=kR
def Dk7:Cuts:=⟨2,[],[],[]⟩
def Ep9:List Item:=A6 Tryz.f214
theorem G84 (s:Int) :
 xQ Dk7 C R J4 Tryz.f214 Ep9 [(0,iI s),(1,.pointer (some fv0))] h =
 bnd (cond (decide (s<0)) (some (true,h)) (gSl (add fv0 0) h fun _ xn _=>some (decide (s≥(xn:Int)),h))) fun c w=>some (.bool c,w):=kR
def Bn7:Cuts:=⟨2,[(3,[0,3,4])],[],[]⟩
def Dc9:List Item:=A6 Tryz.f221
def A52:List Item:=stk [0,1,0,1,0,0,1,4,5] Dc9
theorem G68 :
 xQ Bn7 C R Ae2 Tryz.f221 Dc9 [(0,iI size)] h =
 nw (.cells E82 false [.slice none 0 0]) h fun b w=>R Ae2 A52 [(0,iI size),(3,pP b),(4,iI 0)] w:=kR
theorem Do7 (n:Addr) :
 xQ Bn7 C R Ae2 Tryz.f221 A52 [(0,iI size),(3,.pointer (some n)),(4,iI i)] h =
 bnd (cond (decide (i<size)) (some (decide (i<256),h)) (some (false,h))) fun c w=>cond c
 (gSl (add n 0) w fun x xn xc=>nw (.cells Br3 false [iI 1,.bool false]) w fun b w1=>gCells (some ⟨b,0,none⟩) (1*2) w1 fun cs=>ckB (fitsOpen x Br3 w1) (apd Br3 2 x xn xc 1 cs w1 fun a an ac w2=>pV (add n 0) (.slice a an ac) w2 fun w3=>R Ae2 A52 [(0,iI size),(3,.pointer (some n)),(4,iI (wrap .i64 (i+1)))] w3))
 (some (.pointer (some n),w)):=kR
def B66:Cuts:=⟨2,[],[],[]⟩
def D98:List Item:=A6 Tryz.f233
theorem Gx2 (n:Option Addr) :
 xQ B66 C R Bg9 Tryz.f233 D98 [(0,.pointer n),(1,iI name)] h =
 bnd (cond (decide (name≥0)) (aSome n fun p=>gSl (add p 0) h fun _ xn _=>some (decide ((J8 .i64 name 255)<(xn:Int)),h)) (some (false,h))) fun c w=>bnd (cond c (aSome n fun p_1=>gSl (add p_1 0) w fun z1 xn_1 _=>aSome z1 fun p_2=>ck ((0:Int)≤J8 .i64 name 255∧J8 .i64 name 255<(xn_1:Int)) (gBool (add (add (B0 p_2) (Int.toNat (J8 .i64 name 255)*2)) 1) w fun z2=>some (z2,w))) (some (false,w))) fun c_1 w1=>bnd (cond c_1 (aSome n fun p_3=>gSl (add p_3 0) w1 fun z3 xn_2 _=>aSome z3 fun p_4=>ck ((0:Int)≤J8 .i64 name 255∧J8 .i64 name 255<(xn_2:Int)) (gInt .i64 (add (add (B0 p_4) (Int.toNat (J8 .i64 name 255)*2)) 0) w1 fun z4=>some (z4==(Int.fdiv name (2 ^ 8)),w1))) (some (false,w1))) fun c_2 w2=>some (.bool c_2,w2):=kR
def Bf1:Cuts:=⟨2,[],[],[]⟩
def Df9:List Item:=A6 Tryz.f240
theorem Ey8 (put:Value) (get:Value) :
 xQ Bf1 C R Au7 Tryz.f240 Df9 [(0,iI size),(1,put),(2,get)] h =
 one put (one get (nw (.cells Bz2 false [iI (mm2 false (mm2 true size 0) 64),put,get]) h fun b w=>some (pP b,w))):=kR
def Ei4:Cuts:=⟨2,[],[],[]⟩
def Go6:List Item:=A6 Tryz.f244
theorem Ib1 (want:Int) :
 xQ Ei4 C R Dm0 Tryz.f244 Go6 [(0,.agg ⟨p⟩),(1,iI want)] h =
 nw (.cells D0 false p) h fun b w=>bnd (C Ac3 [iI 8,iI want,.func (.func Bj0) ⟨[]⟩ ⟨[pP b]⟩] w) fun r w1=>aSl r fun x xn xc=>some (.slice x xn xc,w1):=kR
def Av0:Cuts:=⟨2,[],[],[]⟩
def Bo3:List Item:=A6 Tryz.f249
theorem Dx0 :
 xQ Av0 C R N8 Tryz.f249 Bo3 [(0,.pointer c),(1,iI i),(2,.agg ⟨f⟩)] h =
 nw (.cells D3 false f) h fun b w=>gAgg ⟨b,0,none⟩ 4 w fun x=>bnd (C Bc7 [.agg ⟨x⟩] w) fun r w1=>as2 r fun q1 q2=>aSl q1 fun z1 xn xc=>aBool q2 fun z2=>bnd (C Az2 [iI i] w1) fun q3 w2=>aAgg q3 fun z3=>bnd (C N7 [.pointer c,.agg ⟨z3⟩,.slice z1 xn xc,.bool z2] w2) fun q4 w3=>aBool q4 fun z4=>some (.bool z4,w3):=kR
def Eu9:Cuts:=⟨2,[],[],[]⟩
def Gz1:List Item:=A6 Tryz.f250
theorem Ir9 (ok:Bool) :
 xQ Eu9 C R D09 Tryz.f250 Gz1 [(0,.bool ok),(1,iI n)] h =
 nw (.cells Q2 false [iI 0,iI 0,.slice none 0 0,.bool false]) h fun b w=>cond (!ok)
 (bnd (C Ak0 [iI 105] w) fun r w1=>aAgg r fun x=>ck (List.length x=4) (pAgg ⟨b,0,none⟩ x w1 fun w2=>gAgg ⟨b,0,none⟩ 4 w2 fun z1=>some (.agg ⟨z1⟩,w2)))
 (pAgg ⟨b,0,none⟩ [iI n,iI 0,.slice none 0 0,.bool false] w fun w3=>gAgg ⟨b,0,none⟩ 4 w3 fun z2=>some (.agg ⟨z2⟩,w3)):=kR
def Ev5:Cuts:=⟨2,[],[],[]⟩
def G33:List Item:=A6 Tryz.f253
theorem Il3 :
 xQ Ev5 C R Da9 Tryz.f253 G33 [(0,.pointer c),(1,.agg ⟨f⟩)] h =
 nw (.cells U2 false [.pointer c]) h fun b w=>nw (.cells D3 false f) w fun p1 w1=>nw (.cells De3 false [iI 0,iI 0,iI 0,iI 0,.int .u8 0,.int .u8 0,.int .u8 0,.int .u8 0,.int .u8 0,.int .u8 0,.int .u8 0,.int .u8 0,.int .u8 0,.int .u8 0,.int .u8 0,.int .u8 0,.int .u8 0,.int .u8 0,.int .u8 0,.int .u8 0,.int .u8 0,.int .u8 0,.int .u8 0,.int .u8 0,.int .u8 0,.int .u8 0,.int .u8 0,.int .u8 0,.int .u8 0,.int .u8 0,.int .u8 0,.int .u8 0,.int .u8 0,.int .u8 0,.int .u8 0,.int .u8 0,.nilFunc]) w1 fun p2 w2=>gInt .i64 ⟨p1,0,none⟩ w2 fun x=>cond (x==3)
 (gPtr ⟨b,0,none⟩ w2 fun z1=>bnd (C Ae8 [.pointer z1] w2) fun r w3=>as2 r fun q1 q2=>aAgg q1 fun z2=>aInt .i64 q2 fun z3=>nw (.cells D1 false zZ2) w3 fun p3 w4=>ck (List.length z2=36) (pAgg ⟨p3,0,none⟩ z2 w4 fun w5=>gAgg ⟨p3,0,none⟩ 36 w5 fun z4=>gPtr ⟨b,0,none⟩ w5 fun z5=>ck (List.length z4=36) (ck (List.length (z4++[.func (.func Bp2) ⟨[.pointer z5]⟩ ⟨[]⟩])=37) (pAgg ⟨p2,0,none⟩ (z4++[.func (.func Bp2) ⟨[.pointer z5]⟩ ⟨[]⟩]) w5 fun w6=>gAgg ⟨p2,0,none⟩ 37 w6 fun z6=>some (.tuple ⟨[.agg ⟨z6⟩,.bool (z3==1)]⟩,w6)))))
 (gPtr ⟨b,0,none⟩ w2 fun z7=>gInt .i64 ⟨p1,1,none⟩ w2 fun z8=>bnd (C Q8 [.pointer z7,iI z8] w2) fun q3 w7=>as2 q3 fun q4 q5=>aAgg q4 fun z9=>aInt .i64 q5 fun z10=>nw (.cells D1 false zZ2) w7 fun p4 w8=>ck (List.length z9=36) (pAgg ⟨p4,0,none⟩ z9 w8 fun w9=>gAgg ⟨p4,0,none⟩ 36 w9 fun z11=>ck (List.length z11=36) (ck (List.length (z11++[.func (.func Bb8) ⟨[]⟩ ⟨[pP b,pP p1]⟩])=37) (pAgg ⟨p2,0,none⟩ (z11++[.func (.func Bb8) ⟨[]⟩ ⟨[pP b,pP p1]⟩]) w9 fun w10=>gAgg ⟨p2,0,none⟩ 37 w10 fun z12=>some (.tuple ⟨[.agg ⟨z12⟩,.bool (z10==1)]⟩,w10))))):=kR
def As1:Cuts:=⟨2,[],[],[]⟩
def Bj5:List Item:=A6 Tryz.f268
theorem Ds2 :
 xQ As1 C R Ag3 Tryz.f268 Bj5 [(0,.pointer c),(1,iI i)] h =
 bnd (C Az0 [iI i] h) fun r w=>aAgg r fun x=>bnd (C Ac8 [.pointer c,.agg ⟨x⟩] w) fun q1 w1=>aBool q1 fun z1=>some (.bool z1,w1):=kR
def Ai5:Cuts:=⟨2,[(2,[0,3,11,12,13])],[],[(5,⟨[0,1,2,3,4,5,6,7,8,9,10,11,12,13,14,15,16],[0,1,3,7,0,0,32,96,224,0,0,1535,3583,7679,16383,32767,65535],[],[]⟩)]⟩
def Au1:List Item:=A6 Tryz.f272
def Ac5:List Item:=stk [0,1,0,0,1,4,5] Au1
theorem D07 (v:List Value) :
 xQ Ai5 C R L8 Tryz.f272 Au1 [(0,.pointer t),(1,.agg ⟨v⟩)] h =
 nw (.cells U3 false v) h fun b w=>aSome t fun p=>gSl (add p 0) w fun x xn xc=>R L8 Ac5 [(0,.pointer t),(3,pP b),(11,.slice x xn xc),(12,iI (xn:Int)),(13,iI 0)] w:=kR
theorem Be1 (x11:Option Addr) (x11n x11c:Nat) (x12:Int) :
 xQ Ai5 C R L8 Tryz.f272 Ac5 [(0,.pointer t),(3,.pointer (some v)),(11,.slice x11 x11n x11c),(12,iI x12),(13,iI x13)] h =
 cond (decide (x13<x12))
 (aSome x11 fun p=>ck ((0:Int)≤x13∧x13<(x11n:Int)) (gAgg (add (B0 p) (Int.toNat x13*8)) 8 h fun x=>nw (.cells Ar4 false [iI 0,iI 0,iI 0,iI 0,iI 0,iI 0,iI 0,.bool false]) h fun b w=>ck (List.length x=8) (pAgg ⟨b,0,none⟩ x w fun w1=>gBool ⟨b,7,none⟩ w1 fun z1=>bnd (cond (!z1) (gInt .i64 ⟨b,6,none⟩ w1 fun z2=>some (decide (z2≤1000000),w1)) (some (false,w1))) fun c w2=>cond c
 (aSome t fun p_1=>gSl (add p_1 0) w2 fun z3 xn _=>aSome t fun p_2=>gSl (add p_2 0) w2 fun z4 xn_1 _=>gAgg v 6 w2 fun z5=>aSome z3 fun p_3=>ck ((0:Int)≤x13∧x13<(xn:Int)) (ck (List.length z5=6) (pAgg (add (add (B0 p_3) (Int.toNat x13*8)) 0) z5 w2 fun w3=>aSome z4 fun p_4=>ck ((0:Int)≤x13∧x13<(xn_1:Int)) (pV (add (add (B0 p_4) (Int.toNat x13*8)) 7) (.bool true) w3 fun w4=>bnd (C Q0 [.pointer t,iI x13] w4) fun r w5=>aInt .i64 r fun z6=>some (.tuple ⟨[iI z6,.bool true]⟩,w5)))))
 (R L8 Ac5 [(0,.pointer t),(3,.pointer (some v)),(11,.slice x11 x11n x11c),(12,iI x12),(13,iI (wrap .i64 (x13+1)))] w2))))
 (some (.tuple ⟨[iI 0,.bool false]⟩,h)):=kR
def Aw1:Cuts:=⟨2,[],[],[]⟩
def Bn1:List Item:=A6 Tryz.f274
theorem Dy3 :
 xQ Aw1 C R Ai1 Tryz.f274 Bn1 [(0,.pointer t),(1,iI name)] h =
 nw (.cells U3 false [iI 0,iI 0,iI 0,iI 0,iI 0,iI 0]) h fun b w=>bnd (C Ak7 [.pointer t,iI name] w) fun r w1=>aPtr r fun x=>cond x.isNone
 (nw (.cells U3 false [iI 0,iI 0,iI 0,iI 0,iI 0,iI 0]) w1 fun p1 w2=>gAgg ⟨p1,0,none⟩ 6 w2 fun z1=>ck (List.length z1=6) (pAgg ⟨b,0,none⟩ z1 w2 fun w3=>gAgg ⟨b,0,none⟩ 6 w3 fun z2=>some (.tuple ⟨[.agg ⟨z2⟩,.bool false]⟩,w3)))
 (aSome x fun p=>gAgg (add p 0) 6 w1 fun z3=>ck (List.length z3=6) (pAgg ⟨b,0,none⟩ z3 w1 fun w4=>gAgg ⟨b,0,none⟩ 6 w4 fun z4=>some (.tuple ⟨[.agg ⟨z4⟩,.bool true]⟩,w4))):=kR
def Ew1:Cuts:=⟨2,[],[],[]⟩
def G43:List Item:=A6 Tryz.f278
theorem Iq3 :
 xQ Ew1 C R Dx9 Tryz.f278 G43 [(0,.agg ⟨f⟩)] h =
 nw (.cells D3 false f) h fun b w=>gInt .i64 ⟨b,0,none⟩ w fun x=>bnd (cond (decide (x≥1)) (gInt .i64 ⟨b,0,none⟩ w fun z1=>some (decide (z1≤3),w)) (some (false,w))) fun c w1=>bnd (cond c (gInt .i64 ⟨b,1,none⟩ w1 fun z2=>some (decide (z2≥0),w1)) (some (false,w1))) fun c_1 w2=>bnd (cond c_1 (gInt .i64 ⟨b,1,none⟩ w2 fun z3=>some (decide (z3≤7),w2)) (some (false,w2))) fun c_2 w3=>bnd (cond c_2 (gInt .i64 ⟨b,0,none⟩ w3 fun z4=>bnd (cond (z4 != 3) (some (true,w3)) (gInt .i64 ⟨b,1,none⟩ w3 fun z5=>some (z5==0,w3))) fun c_3 w4=>some (c_3,w4)) (some (false,w3))) fun c_4 w5=>bnd (cond c_4 (gInt .i64 ⟨b,2,none⟩ w5 fun z6=>some (decide (z6≥1),w5)) (some (false,w5))) fun c_5 w6=>bnd (cond c_5 (gInt .i64 ⟨b,2,none⟩ w6 fun z7=>some (decide (z7≤64),w6)) (some (false,w6))) fun c_6 w7=>bnd (cond c_6 (gInt .i64 ⟨b,3,none⟩ w7 fun z8=>bnd (cond (z8==0) (some (true,w7)) (gInt .i64 ⟨b,3,none⟩ w7 fun z9=>some (z9==1,w7))) fun c_7 w8=>some (c_7,w8)) (some (false,w7))) fun c_8 w9=>some (.bool c_8,w9):=kR
def Aw4:Cuts:=⟨2,[],[],[]⟩
def Bo2:List Item:=A6 Tryz.f287
theorem Dz7 :
 xQ Aw4 C R Y8 Tryz.f287 Bo2 [(0,.slice s sn sc)] h =
 ckB (fitsOpen s A5 h) (ck ((0:Int)≤(sn:Int)∧(sn:Int)≤(sc:Int)) (ck ((0:Int)≤(sn:Int)∧(sn:Int)≤((Int.toNat (sn:Int):Nat):Int)) (some (.slice (Ar1 (E1 s (decide (0<Int.toNat (sn:Int))) (0*1))) ((Int.toNat (sn:Int))-0) ((Int.toNat (sn:Int))-0),h)))):=kR
def Am0:Cuts:=⟨2,[],[],[(2,⟨[0,1,2,3,4,5,6,7,8,9,10,11,12,13,14],[0,1,3,7,15,31,63,127,255,511,63,63,4095,8191,16383],[],[]⟩)]⟩
def A98:List Item:=A6 Tryz.f290
theorem Dg6 (v:List Value) :
 xQ Am0 C R Aa3 Tryz.f290 A98 [(0,.pointer c),(1,.agg ⟨v⟩)] h =
 nw (.cells D3 false v) h fun b w=>aSome c fun p=>gInt .i64 (add p 0) w fun x=>ck ((0:Int)≤x∧(x:Int)≤x∧x≤(A8:Int)) (nw (.cells A5 false (E7 (Int.toNat x) [.int .u8 0])) w fun p1 w1=>aSome c fun p_1=>gFv (add p_1 1) w1 fun z1=>isNilF z1 fun p2=>bnd (cond p2 (some (true,w1)) (aSome c fun p_2=>gFv (add p_2 1) w1 fun z2=>gAgg ⟨b,0,none⟩ 4 w1 fun z3=>aFn z2 fun g fi cp=>bnd (C g (fi++([.agg ⟨z3⟩,.slice (some ⟨p1,0,none⟩) (Int.toNat x) (Int.toNat x)]++cp)) w1) fun r w2=>aBool r fun z4=>some (!z4,w2))) fun c_1 w3=>cond c_1
 (some (.tuple ⟨[.slice none 0 0,.bool false]⟩,w3))
 (some (.tuple ⟨[.slice (some ⟨p1,0,none⟩) (Int.toNat x) (Int.toNat x),.bool true]⟩,w3))):=kR
end
end Go.EQ

set_option maxRecDepth 100000
namespace Go.EQ
open Go Go.NN Go.Proofs
variable (C:D8) (R:Ad8)
noncomputable section
def Jf1:List (Nat × Cuts):=[(6,Al3),(7,Dc6),(9,Bw7),(10,B52),(11,Bx5),(13,A81),(15,Bw1),(16,Du3),(20,Bm5),(21,Da2),(22,Dt3),(23,Et3),(24,Dd4),(25,W8),(26,As2),(28,B58),(29,Bw8),(30,B33),(31,Dl6),(32,Bm8),(33,De6),(34,Dt1),(35,Ai6),(36,Dk5),(37,Dl1),(40,D51),(41,D32),(42,Ba1),(43,Di9),(44,Dj4),(45,Dt9),(46,Bb0),(47,Bx4),(48,B46),(49,Br9),(50,A77),(51,A89),(52,A92),(53,A74),(54,A27),(55,B30),(57,Bw6),(58,Ey1),(59,Eg1),(60,Dm9),(61,A87),(62,Da7),(63,Ea0),(64,B16),(65,Av8),(67,Bx2),(68,Br2),(69,A88),(70,Ds3),(71,Dt8),(72,Am6),(73,Bd6),(74,Bi1),(75,Az1),(76,Dy7),(77,By2),(78,Br8),(80,Bh1),(89,Bq3),(90,Es4),(91,B35),(92,Ai8),(93,Dk0),(94,Dj6),(95,Ah9),(96,Di6),(97,Ds0),(98,Av5),(99,Bw9),(100,Aj6),(102,A00),(103,Dt2),(104,Ef8),(108,Eh5),(110,Ex4),(111,Da6),(112,Bx9),(113,Gv3),(114,Ew2),(115,Du6),(116,Di1),(117,A26),(118,Ek3),(119,Ef6),(122,Eg5),(124,Db1),(125,Ae1),(126,A32),(127,Af0),(128,De8),(129,Bh7),(130,Bl8),(131,By4),(132,Bt2),(133,Ds6),(134,E62),(135,Dz2),(136,Dn7),(137,D74),(138,Ez3),(139,Bg3),(140,A18),(141,Aq5),(142,B55),(143,Bn6),(144,A45),(145,Bo0),(146,Dl3),(147,Bs2),(148,Ed7),(149,B60),(150,Bb7),(151,A76),(152,Bb6),(153,Bs9),(155,Bm6),(156,Bq5),(157,Bw2),(158,Bx0),(159,Bh8),(160,B28),(161,B51),(162,Dt6),(163,B37),(170,Bf6),(171,Ds9),(172,Am1),(173,D53),(174,Am5),(175,Bg6),(176,E01),(177,D64),(178,Ds1),(179,Eh6),(184,Do3),(185,Bd8),(197,E50),(198,Eq3),(199,Ef9),(200,E84),(201,O6),(202,Ai9),(203,Am4),(204,Bg5),(206,A28),(207,As9),(208,Y9),(209,Ew7),(210,D27),(211,Dn6),(212,D97),(213,Af6),(214,Dk7),(215,Aj3),(216,D72),(217,A20),(218,Di4),(219,Bq7),(220,B45),(221,Bn7),(222,A91),(223,Dk3),(224,Dd1),(225,B48),(228,B50),(229,Bs4),(230,B40),(231,Y2),(232,Bw4),(233,B66),(234,Bi9),(237,Bf8),(238,Ej9),(239,Eg4),(240,Bf1),(241,Ey6),(242,Er8),(243,Et0),(244,Ei4),(245,D05),(246,D59),(247,D41),(248,Av3),(249,Av0),(250,Eu9),(251,Eh1),(252,D25),(253,Ev5),(254,Dt0),(255,Eg0),(257,Dz5),(266,W5),(267,As5),(268,As1),(269,D24),(270,D73),(271,Ac2),(272,Ai5),(273,D62),(274,Aw1),(277,A09),(278,Ew1),(279,Dk2),(280,E61),(281,Du0),(282,Du9),(285,D43),(286,B92),(287,Aw4),(290,Am0),(291,Ej6),(292,Am3)]
def cutsOf:FuncId→Cuts:=G02 Jf1
noncomputable abbrev A7:D8:=NN.Call PR cutsOf
noncomputable abbrev I1:Ad8:=NN.Jump PR cutsOf
abbrev fK (f:FuncId) (fn:Func) (C:Cuts) (T:List Item) (n:Nat):Prop:=FnOk PR cutsOf f fn C T n
theorem fM {f : FuncId} {fn : Func} {C : Cuts} {T : List Item} {n : Nat} (a : PR.funcs[f]? = some fn) (b : ∃ c, fn.body = some c := by exact ⟨_, rfl⟩) (c : (fn.name == "runtime.NumGoroutine") = false := by kernel_rfl) (d : cutsOf f = C := by exact rfl) (e : A6 fn = T := by exact rfl) (g : Nat.ble n fn.ntmps = true := by kernel_rfl) : fK f fn C T n := ⟨a, b, c, d, e, g⟩
theorem Y5:fK B8 Tryz.f6 Al3 At8 2:=fM Tryz.func6
theorem D35:fK Ae5 Tryz.f7 Dc6 D36 0:=fM Tryz.func7
theorem Dv9:fK Ad3 Tryz.f9 Bw7 Dw5 2:=fM Tryz.func9
theorem Bf0:fK J7 Tryz.f10 B52 B64 1:=fM Tryz.func10
theorem Gm6:fK Ba2 Tryz.f11 Bx5 Dv7 1:=fM Tryz.func11
theorem Ei8:fK M7 Tryz.f13 A81 B08 2:=fM Tryz.func13
theorem Gk2:fK At7 Tryz.f15 Bw1 Dv4 1:=fM Tryz.func15
theorem Hk6:fK Bk7 Tryz.f16 Du3 E23 0:=fM Tryz.func16
theorem Dh7:fK D2 Tryz.f20 Bm5 Dh9 3:=fM Tryz.func20
theorem Dd2:fK Aq2 Tryz.f21 Da2 D79 1:=fM Tryz.func21
theorem Hn8:fK B15 Tryz.f22 Dt3 E30 0:=fM Tryz.func22
theorem Ew6:fK A73 Tryz.f23 Et3 G22 4:=fM Tryz.func23
theorem G71:fK Bn4 Tryz.f24 Dd4 Ef3 4:=fM Tryz.func24
theorem R0:fK B6 Tryz.f25 W8 Ae4 1:=fM Tryz.func25
theorem Bj7:fK E9 Tryz.f26 As2 Bk0 1:=fM Tryz.func26
theorem Gw9:fK Az8 Tryz.f28 B58 D33 1:=fM Tryz.func28
theorem Gl5:fK Al1 Tryz.f29 Bw8 Dw3 2:=fM Tryz.func29
theorem Gt3:fK Bh3 Tryz.f30 B33 D50 1:=fM Tryz.func30
theorem En5:fK Bd5 Tryz.f31 Dl6 En8 1:=fM Tryz.func31
theorem E47:fK A17 Tryz.f32 Bm8 Dh6 2:=fM Tryz.func32
theorem G16:fK Ar0 Tryz.f33 De6 Ec1 2:=fM Tryz.func33
theorem Hk2:fK At0 Tryz.f34 Dt1 E31 2:=fM Tryz.func34
theorem Av6:fK O0 Tryz.f35 Ai6 Au6 3:=fM Tryz.func35
theorem G90:fK Bd0 Tryz.f36 Dk5 Em6 1:=fM Tryz.func36
theorem Hc4:fK Ay6 Tryz.f37 Dl1 Em7 1:=fM Tryz.func37
theorem H57:fK Bs5 Tryz.f40 D51 Ga8 1:=fM Tryz.func40
theorem H46:fK B89 Tryz.f41 D32 Ga3 0:=fM Tryz.func41
theorem By1:fK U4 Tryz.f42 Ba1 Bx1 1:=fM Tryz.func42
theorem Hb1:fK L9 Tryz.f43 Di9 Ep7 3:=fM Tryz.func43
theorem Hc8:fK Ay7 Tryz.f44 Dj4 Em8 3:=fM Tryz.func44
theorem Hl7:fK Bl5 Tryz.f45 Dt9 E07 0:=fM Tryz.func45
theorem Bx6:fK Y4 Tryz.f46 Bb0 Bw3 1:=fM Tryz.func46
theorem Gm3:fK Ba3 Tryz.f47 Bx4 Dw4 1:=fM Tryz.func47
theorem D58:fK Aa7 Tryz.f48 B46 D83 2:=fM Tryz.func48
theorem Gb6:fK Ap8 Tryz.f49 Br9 Dq0 2:=fM Tryz.func49
theorem Eg9:fK M8 Tryz.f50 A77 B06 2:=fM Tryz.func50
theorem Eh2:fK Af1 Tryz.f51 A89 Bz4 2:=fM Tryz.func51
theorem Ek1:fK Q8 Tryz.f52 A92 B05 2:=fM Tryz.func52
theorem Eg6:fK Ae8 Tryz.f53 A74 B01 1:=fM Tryz.func53
theorem Ea6:fK An0 Tryz.f54 A27 Bv8 1:=fM Tryz.func54
theorem Gs2:fK Az6 Tryz.f55 B30 D42 2:=fM Tryz.func55
theorem Gk3:fK Al4 Tryz.f57 Bw6 Dw2 3:=fM Tryz.func57
theorem Ev2:fK Dz8 Tryz.f58 Ey1 G31 3:=fM Tryz.func58
theorem Ic6:fK Dn8 Tryz.f59 Eg1 Gq3 1:=fM Tryz.func59
theorem Dm3:fK Ay2 Tryz.f60 Dm9 El5 3:=fM Tryz.func60
theorem Ei3:fK Ap4 Tryz.f61 A87 Bz8 1:=fM Tryz.func61
theorem G56:fK A62 Tryz.f62 Da7 Ee8 1:=fM Tryz.func62
theorem Hq8:fK De5 Tryz.f63 Ea0 E75 3:=fM Tryz.func63
theorem E16:fK Ag5 Tryz.f64 B16 Du2 1:=fM Tryz.func64
theorem D12:fK O1 Tryz.f65 Av8 Bo4 3:=fM Tryz.func65
theorem Gk9:fK At4 Tryz.f67 Bx2 Dv6 1:=fM Tryz.func67
theorem Gb9:fK Aq4 Tryz.f68 Br2 Dq4 2:=fM Tryz.func68
theorem Ek5:fK S5 Tryz.f69 A88 Bz3 2:=fM Tryz.func69
theorem Hm6:fK As4 Tryz.f70 Ds3 E11 1:=fM Tryz.func70
theorem Hn1:fK Bl2 Tryz.f71 Dt8 E27 0:=fM Tryz.func71
theorem Dg7:fK Aa5 Tryz.f72 Am6 A99 2:=fM Tryz.func72
theorem A01:fK N4 Tryz.f73 Bd6 Bq0 1:=fM Tryz.func73
theorem Aw7:fK L1 Tryz.f74 Bi1 Bu1 1:=fM Tryz.func74
theorem Ao0:fK I2 Tryz.f75 Az1 Bc5 1:=fM Tryz.func75
theorem E04:fK Ak9 Tryz.f76 Dy7 Er2 1:=fM Tryz.func76
theorem Gk1:fK Bb4 Tryz.f77 By2 Dv1 3:=fM Tryz.func77
theorem E74:fK A59 Tryz.f78 Br8 Dq6 3:=fM Tryz.func78
theorem Et5:fK Aw9 Tryz.f80 Bh1 B98 5:=fM Tryz.func80
theorem E68:fK A46 Tryz.f89 Bq3 Dr0 1:=fM Tryz.func89
theorem Io1:fK Bg2 Tryz.f90 Es4 G26 1:=fM Tryz.func90
theorem Gu7:fK Bh5 Tryz.f91 B35 D26 2:=fM Tryz.func91
theorem Av7:fK O2 Tryz.f92 Ai8 Au8 3:=fM Tryz.func92
theorem Hb4:fK Az2 Tryz.f93 Dk0 El6 1:=fM Tryz.func93
theorem G83:fK Ay8 Tryz.f94 Dj6 Em9 1:=fM Tryz.func94
theorem Ax0:fK L6 Tryz.f95 Ah9 Au0 3:=fM Tryz.func95
theorem Ha4:fK Az0 Tryz.f96 Di6 Em4 1:=fM Tryz.func96
theorem Hn0:fK As6 Tryz.f97 Ds0 E28 1:=fM Tryz.func97
theorem Bi5:fK W1 Tryz.f98 Av5 Bi7 3:=fM Tryz.func98
theorem Gl7:fK Al2 Tryz.f99 Bw9 Dv2 1:=fM Tryz.func99
theorem A10:fK J6 Tryz.f100 Aj6 A05 2:=fM Tryz.func100
theorem D99:fK Ab1 Tryz.f102 A00 Bt0 1:=fM Tryz.func102
theorem Bk6:fK Bj8 Tryz.f103 Dt2 E33 3:=fM Tryz.func103
theorem Id7:fK Dm2 Tryz.f104 Ef8 Gr0 2:=fM Tryz.func104
theorem Ie7:fK Ae6 Tryz.f108 Eh5 Eh0 3:=fM Tryz.func108
theorem G13:fK A40 Tryz.f110 Ex4 Eq7 1:=fM Tryz.func110
theorem D55:fK Ab2 Tryz.f111 Da6 D81 1:=fM Tryz.func111
theorem Gl6:fK Bb1 Tryz.f112 Bx9 Dw0 2:=fM Tryz.func112
theorem I74:fK Dj2 Tryz.f113 Gv3 Hs8 3:=fM Tryz.func113
theorem Ir6:fK Db0 Tryz.f114 Ew2 Gy2 2:=fM Tryz.func114
theorem Hl1:fK B18 Tryz.f115 Du6 E29 2:=fM Tryz.func115
theorem G78:fK Be4 Tryz.f116 Di1 En0 1:=fM Tryz.func116
theorem Ea9:fK N7 Tryz.f117 A26 Bv9 4:=fM Tryz.func117
theorem H71:fK Ay0 Tryz.f118 Ek3 Gn4 2:=fM Tryz.func118
theorem H74:fK A78 Tryz.f119 Ef6 Gq2 1:=fM Tryz.func119
theorem H82:fK A75 Tryz.f122 Eg5 Gq0 2:=fM Tryz.func122
theorem Gz8:fK Ak1 Tryz.f124 Db1 Ec6 2:=fM Tryz.func124
theorem Ap6:fK H0 Tryz.f125 Ae1 Aq8 1:=fM Tryz.func125
theorem Ea4:fK V8 Tryz.f126 A32 Bv6 2:=fM Tryz.func126
theorem Bz5:fK U9 Tryz.f127 Af0 Ay1 2:=fM Tryz.func127
theorem G06:fK Ak8 Tryz.f128 De8 Ee1 1:=fM Tryz.func128
theorem Ev6:fK Ax1 Tryz.f129 Bh7 De4 3:=fM Tryz.func129
theorem J9:fK S4 Tryz.f130 Bl8 Bz0 2:=fM Tryz.func130
theorem Q9:fK Ab9 Tryz.f131 By4 Dm5 1:=fM Tryz.func131
theorem Bs1:fK W4 Tryz.f132 Bt2 Dc7 1:=fM Tryz.func132
theorem Hn7:fK Bk5 Tryz.f133 Ds6 E22 1:=fM Tryz.func133
theorem Ix4:fK Ee9 Tryz.f134 E62 Hf7 1:=fM Tryz.func134
theorem Ey2:fK A68 Tryz.f135 Dz2 Ey4 1:=fM Tryz.func135
theorem Ej4:fK Ax9 Tryz.f136 Dn7 Ek9 1:=fM Tryz.func136
theorem Hq4:fK Dc4 Tryz.f137 D74 Ge2 2:=fM Tryz.func137
theorem Ik1:fK Dz1 Tryz.f138 Ez3 G27 1:=fM Tryz.func138
theorem E03:fK Au4 Tryz.f139 Bg3 Df1 3:=fM Tryz.func139
theorem Bm3:fK U1 Tryz.f140 A18 Bm2 2:=fM Tryz.func140
theorem Dr8:fK P7 Tryz.f141 Aq5 Be9 2:=fM Tryz.func141
theorem Gv1:fK Bg1 Tryz.f142 B55 D84 3:=fM Tryz.func142
theorem Da0:fK Ad7 Tryz.f143 Bn6 De2 1:=fM Tryz.func143
theorem Bq6:fK Q5 Tryz.f144 A45 Bq1 2:=fM Tryz.func144
theorem Db2:fK Ad6 Tryz.f145 Bo0 Dc2 1:=fM Tryz.func145
theorem G92:fK Bt4 Tryz.f146 Dl3 Eo2 1:=fM Tryz.func146
theorem E71:fK A50 Tryz.f147 Bs2 Dp5 3:=fM Tryz.func147
theorem E89:fK Be7 Tryz.f148 Ed7 Gc4 2:=fM Tryz.func148
theorem Gw1:fK Bi2 Tryz.f149 B60 D77 3:=fM Tryz.func149
theorem Eo5:fK Ah5 Tryz.f150 Bb7 B71 5:=fM Tryz.func150
theorem Eg3:fK Af5 Tryz.f151 A76 B02 5:=fM Tryz.func151
theorem En9:fK Ar9 Tryz.f152 Bb6 B78 7:=fM Tryz.func152
theorem Ge8:fK A51 Tryz.f153 Bs9 Dr5 7:=fM Tryz.func153
theorem E43:fK A14 Tryz.f155 Bm6 Dh5 2:=fM Tryz.func155
theorem E66:fK A53 Tryz.f156 Bq5 Dr9 3:=fM Tryz.func156
theorem Gk5:fK Bb2 Tryz.f157 Bw2 Dv3 3:=fM Tryz.func157
theorem Gk8:fK Ba4 Tryz.f158 Bx0 Dw1 3:=fM Tryz.func158
theorem Ey0:fK Au2 Tryz.f159 Bh8 Dc8 6:=fM Tryz.func159
theorem Gt5:fK Bf5 Tryz.f160 B28 D89 3:=fM Tryz.func160
theorem Gr7:fK Ao4 Tryz.f161 B51 D70 2:=fM Tryz.func161
theorem Hn6:fK Al6 Tryz.f162 Dt6 E36 3:=fM Tryz.func162
theorem Gr9:fK Bf3 Tryz.f163 B37 D45 3:=fM Tryz.func163
theorem B32:fK V9 Tryz.f170 Bf6 B63 1:=fM Tryz.func170
theorem Hm7:fK Bj2 Tryz.f171 Ds9 E10 0:=fM Tryz.func171
theorem Dg5:fK Aa6 Tryz.f172 Am1 A96 2:=fM Tryz.func172
theorem Hz7:fK Bp4 Tryz.f173 D53 E51 0:=fM Tryz.func173
theorem Dg9:fK Aa4 Tryz.f174 Am5 A94 2:=fM Tryz.func174
theorem Et1:fK Aw0 Tryz.f175 Bg6 Dc1 1:=fM Tryz.func175
theorem Ik2:fK Dy4 Tryz.f176 E01 G07 2:=fM Tryz.func176
theorem Hr9:fK De7 Tryz.f177 D64 E54 4:=fM Tryz.func177
theorem Hn2:fK B21 Tryz.f178 Ds1 E08 4:=fM Tryz.func178
theorem H96:fK Dm6 Tryz.f179 Eh6 Gp0 3:=fM Tryz.func179
theorem Ek7:fK Ax3 Tryz.f184 Do3 Ek6 1:=fM Tryz.func184
theorem A08:fK I4 Tryz.f185 Bd8 Bq2 2:=fM Tryz.func185
theorem Ix9:fK Ee6 Tryz.f197 E50 Hj8 2:=fM Tryz.func197
theorem Iq8:fK Dc3 Tryz.f198 Eq3 G10 1:=fM Tryz.func198
theorem H75:fK By5 Tryz.f199 Ef9 Gp1 2:=fM Tryz.func199
theorem Iz2:fK Dp4 Tryz.f200 E84 He5 1:=fM Tryz.func200
theorem I5:fK D5 Tryz.f201 O6 V2 1:=fM Tryz.func201
theorem B81:fK W6 Tryz.f202 Ai9 A22 1:=fM Tryz.func202
theorem Dh1:fK Aa1 Tryz.f203 Am4 A95 2:=fM Tryz.func203
theorem D82:fK Ab8 Tryz.f204 Bg5 B47 2:=fM Tryz.func204
theorem Ea7:fK Ac8 Tryz.f206 A28 Bv7 2:=fM Tryz.func206
theorem Du5:fK Q0 Tryz.f207 As9 Bj9 2:=fM Tryz.func207
theorem Ak2:fK I0 Tryz.f208 Y9 Aj7 2:=fM Tryz.func208
theorem Ir2:fK D14 Tryz.f209 Ew7 Gz6 1:=fM Tryz.func209
theorem H34:fK Bs0 Tryz.f210 D27 Gf5 3:=fM Tryz.func210
theorem Eh9:fK Af2 Tryz.f211 Dn6 Ej8 1:=fM Tryz.func211
theorem Hx2:fK Df2 Tryz.f212 D97 E57 2:=fM Tryz.func212
theorem As3:fK D4 Tryz.f213 Af6 As8 2:=fM Tryz.func213
theorem Hc7:fK J4 Tryz.f214 Dk7 Ep9 2:=fM Tryz.func214
theorem A24:fK G7 Tryz.f215 Aj3 A25 2:=fM Tryz.func215
theorem Hu1:fK Dg0 Tryz.f216 D72 Gb1 2:=fM Tryz.func216
theorem Bm4:fK U0 Tryz.f217 A20 Bm9 1:=fM Tryz.func217
theorem G87:fK Bc4 Tryz.f218 Di4 Eo7 1:=fM Tryz.func218
theorem Ge0:fK Aq9 Tryz.f219 Bq7 Dp3 1:=fM Tryz.func219
theorem Gr8:fK A02 Tryz.f220 B45 D92 3:=fM Tryz.func220
theorem Db7:fK Ae2 Tryz.f221 Bn7 Dc9 1:=fM Tryz.func221
theorem El3:fK Af4 Tryz.f222 A91 Bz6 6:=fM Tryz.func222
theorem G75:fK Bt6 Tryz.f223 Dk3 Ep6 3:=fM Tryz.func223
theorem Gy7:fK Bo1 Tryz.f224 Dd1 Eb4 3:=fM Tryz.func224
theorem Gx1:fK Az9 Tryz.f225 B48 D80 3:=fM Tryz.func225
theorem Gv4:fK An9 Tryz.f228 B50 D34 2:=fM Tryz.func228
theorem Gb4:fK A72 Tryz.f229 Bs4 Dr6 3:=fM Tryz.func229
theorem Gs8:fK A06 Tryz.f230 B40 D66 3:=fM Tryz.func230
theorem Ad2:fK B9 Tryz.f231 Y2 Ad4 3:=fM Tryz.func231
theorem Gl3:fK Ba6 Tryz.f232 Bw4 Dw6 3:=fM Tryz.func232
theorem Gu5:fK Bg9 Tryz.f233 B66 D98 2:=fM Tryz.func233
theorem B41:fK Ab0 Tryz.f234 Bi9 B31 1:=fM Tryz.func234
theorem Ey7:fK At9 Tryz.f237 Bf8 B97 3:=fM Tryz.func237
theorem H77:fK Ax2 Tryz.f238 Ej9 Gq9 2:=fM Tryz.func238
theorem Id0:fK Ay3 Tryz.f239 Eg4 Gq8 1:=fM Tryz.func239
theorem Eu8:fK Au7 Tryz.f240 Bf1 Df9 3:=fM Tryz.func240
theorem Ij7:fK Bv2 Tryz.f241 Ey6 G19 2:=fM Tryz.func241
theorem Is5:fK Bu3 Tryz.f242 Er8 G09 1:=fM Tryz.func242
theorem Im8:fK Ak0 Tryz.f243 Et0 G55 1:=fM Tryz.func243
theorem Ia9:fK Dm0 Tryz.f244 Ei4 Go6 2:=fM Tryz.func244
theorem Dx8:fK Ac3 Tryz.f245 D05 Ez5 3:=fM Tryz.func245
theorem Hy6:fK Be5 Tryz.f246 D59 Ga4 2:=fM Tryz.func246
theorem Ht9:fK Bc3 Tryz.f247 D41 E94 2:=fM Tryz.func247
theorem D10:fK S6 Tryz.f248 Av3 Bn0 3:=fM Tryz.func248
theorem Dz4:fK N8 Tryz.f249 Av0 Bo3 3:=fM Tryz.func249
theorem Ir3:fK D09 Tryz.f250 Eu9 Gz1 2:=fM Tryz.func250
theorem Ia7:fK Dm8 Tryz.f251 Eh1 Gn8 4:=fM Tryz.func251
theorem Hx4:fK U5 Tryz.f252 D25 E76 1:=fM Tryz.func252
theorem Ip8:fK Da9 Tryz.f253 Ev5 G33 2:=fM Tryz.func253
theorem Hk1:fK A38 Tryz.f254 Dt0 E06 1:=fM Tryz.func254
theorem Ie4:fK Dn9 Tryz.f255 Eg0 Go7 2:=fM Tryz.func255
theorem Er3:fK A64 Tryz.f257 Dz5 Ew8 2:=fM Tryz.func257
theorem A21:fK N1 Tryz.f266 W5 Aj1 2:=fM Tryz.func266
theorem Du1:fK Ag4 Tryz.f267 As5 Bl3 2:=fM Tryz.func267
theorem Ds8:fK Ag3 Tryz.f268 As1 Bj5 2:=fM Tryz.func268
theorem Hy8:fK Aq1 Tryz.f269 D24 Ga6 2:=fM Tryz.func269
theorem H53:fK Bp6 Tryz.f270 D73 E56 1:=fM Tryz.func270
theorem O8:fK E2 Tryz.f271 Ac2 Ao1 2:=fM Tryz.func271
theorem Aw5:fK L8 Tryz.f272 Ai5 Au1 2:=fM Tryz.func272
theorem H31:fK Bq9 Tryz.f273 D62 E97 3:=fM Tryz.func273
theorem Dx7:fK Ai1 Tryz.f274 Aw1 Bn1 2:=fM Tryz.func274
theorem D69:fK Ak7 Tryz.f277 A09 Bp9 2:=fM Tryz.func277
theorem In5:fK Dx9 Tryz.f278 Ew1 G43 1:=fM Tryz.func278
theorem Ha9:fK Bc7 Tryz.f279 Dk2 Ep4 1:=fM Tryz.func279
theorem I26:fK B76 Tryz.f280 E61 Hi5 1:=fM Tryz.func280
theorem Hl3:fK Bk9 Tryz.f281 Du0 E25 1:=fM Tryz.func281
theorem Hk7:fK Bj0 Tryz.f282 Du9 E20 2:=fM Tryz.func282
theorem Hs6:fK Bb8 Tryz.f285 D43 Gc5 3:=fM Tryz.func285
theorem D88:fK Aq7 Tryz.f286 B92 Ea1 1:=fM Tryz.func286
theorem D08:fK Y8 Tryz.f287 Aw4 Bo2 1:=fM Tryz.func287
theorem Dg8:fK Aa3 Tryz.f290 Am0 A98 2:=fM Tryz.func290
theorem Ia2:fK Ay4 Tryz.f291 Ej6 Gp2 2:=fM Tryz.func291
theorem Dg2:fK Aa2 Tryz.f292 Am3 A93 2:=fM Tryz.func292
end
end Go.EQ

namespace Go.EQ
open Go Go.NN Go.Proofs
theorem Jt4:type_of% Tryz.underlying3:=Tryz.underlying3
theorem Jq1:type_of% Tryz.underlying4:=Tryz.underlying4
theorem Ii8:type_of% Tryz.underlying5:=Tryz.underlying5
theorem Hf3:type_of% Tryz.underlying28:=Tryz.underlying28
end Go.EQ
