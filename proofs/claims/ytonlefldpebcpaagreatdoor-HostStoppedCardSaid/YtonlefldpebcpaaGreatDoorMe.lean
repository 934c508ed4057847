/- One that is stopped does nothing till it goes on, and holds nobody up; then its call is done. -/
import Derived.Test.YtonlefldpebcpaaGreatDoorMd
import Derived.KernelRfl
set_option linter.all false
set_option maxRecDepth 100000
namespace Go.EQ
open Go Go.NN Go.Proofs
open Go.IntKind (wrap)
open Go.Addr (add)
variable (C:D3) (R:Aa7) (fv0 nonev swaps v x2 x6:Addr) (grown more:Bool) (h:H) (a atv e env fd first i isv j lo n name size target who x15 x45 x46 x54 x86 x87:Int) (f p r:List Value) (bc bn datac datan foundc foundn lc ln outc outn sc sn x44c x44n x85c x85n:Nat) (b c data found k l m out q s x44 x85:Option Addr) (of:Option Nat) (cmp decode:Value)
noncomputable section
def Ay9:Cuts:=⟨2,[(19,[0,4,7,12])],[],[]⟩
def Bh0:List Item:=A5 Tryz.f3
def Ac5:List Item:=stk [0,1,0,1,0,1,0,1,0,1,0,1,0,1,0,1,0,1,0,1,0,1,0,0,1,4,5] Bh0
theorem Er9 :
 xQ Ay9 C R D0 Tryz.f3 Bh0 [(0,iI n)] h =
 bnd (C Ad4 [] h) fun r w=>as4 r fun q1 q2 q3 q4=>aPtr q1 fun x=>aSl q2 fun z1 xn xc=>aPtr q3 fun _=>aSl q4 fun _ _ _=>nw (.cells Ao8 false [.slice none 0 0]) w fun b w1=>pV ⟨b,0,none⟩ (.slice z1 xn xc) w1 fun w2=>cond x.isNone
 (some (.bool false,w2))
 (bnd (C E7 [iI 0,.agg ⟨[iI 2,iI 0,iI 0,.slice none 0 0]⟩,pP b] w2) fun q5 w3=>as2 q5 fun q6 q7=>aAgg q6 fun _=>aBool q7 fun _=>gSl ⟨b,0,none⟩ w3 fun z6 xn_2 _=>aSome z6 fun p=>ck ((0:Int)≤1∧1<(xn_2:Int)) (gPtr (add (B1 p) (Int.toNat 1*1)) w3 fun z7=>bnd (C A74 [.pointer z7] w3) fun q8 w4=>as0 q8 (bnd (C E7 [iI 0,.agg ⟨[iI 5,iI 1,iI 14,.slice none 0 0]⟩,pP b] w4) fun q9 w5=>as2 q9 fun q10 q11=>aAgg q10 fun _=>aBool q11 fun _=>gSl ⟨b,0,none⟩ w5 fun z10 xn_3 _=>aSome z10 fun p_1=>ck ((0:Int)≤1∧1<(xn_3:Int)) (gPtr (add (B1 p_1) (Int.toNat 1*1)) w5 fun z11=>bnd (C D6 [.pointer z11] w5) fun q12 w6=>as2 q12 fun q13 q14=>aAgg q13 fun z12=>aBool q14 fun z13=>nw (.cells Z7 false [iI 0,iI 0,iI 0,iI 0,iI 0,.slice none 0 0,iI 0,iI 0,.slice none 0 0,.bool false,.slice none 0 0,iI 0]) w6 fun p1 w7=>ck (List.length z12=12) (pAgg ⟨p1,0,none⟩ z12 w7 fun w8=>cond z13
 (some (.bool false,w8))
 (gSl ⟨b,0,none⟩ w8 fun z14 xn_4 _=>aSome z14 fun p_2=>ck ((0:Int)≤1∧1<(xn_4:Int)) (gPtr (add (B1 p_2) (Int.toNat 1*1)) w8 fun z15=>bnd (C Ak9 [.pointer z15] w8) fun q15 w9=>aPtr q15 fun z16=>cond z16.isNone
 (some (.bool false,w9))
 (gSl ⟨b,0,none⟩ w9 fun z17 xn_5 _=>aSome z17 fun p_3=>ck ((0:Int)≤1∧1<(xn_5:Int)) (gPtr (add (B1 p_3) (Int.toNat 1*1)) w9 fun z18=>bnd (C Ak9 [.pointer z18] w9) fun q16 w10=>aPtr q16 fun z19=>bnd (C E2 [.pointer z19,iI 1] w10) fun q17 w11=>as2 q17 fun q18 q19=>aAgg q18 fun z20=>aInt .i64 q19 fun z21=>nw (.cells B2 false zZ1) w11 fun p2 w12=>ck (List.length z20=16) (pAgg ⟨p2,0,none⟩ z20 w12 fun w13=>bnd (cond (z21 != 1) (some (true,w13)) (gInt .i64 ⟨p2,0,none⟩ w13 fun z22=>some (z22 != 3,w13))) fun c w14=>bnd (cond c (some (true,w14)) (gAgg ⟨p2,0,none⟩ 16 w14 fun z23=>bnd (C Ae5 [.agg ⟨z23⟩] w14) fun q20 w15=>aBool q20 fun z24=>some (!z24,w15))) fun c_1 w16=>cond c_1
 (some (.bool false,w16))
 (gSl ⟨b,0,none⟩ w16 fun z25 xn_6 _=>aSome z25 fun p_4=>ck ((0:Int)≤1∧1<(xn_6:Int)) (gPtr (add (B1 p_4) (Int.toNat 1*1)) w16 fun z26=>bnd (C Q9 [.pointer z26,.agg ⟨[iI 1,iI 0,iI 0,.slice none 0 0]⟩] w16) fun q21 w17=>aBool q21 fun z27=>cond (!z27)
 (some (.bool false,w17))
 (R D0 Ac5 [(0,iI n),(4,pP b),(7,.func (.func E7) ⟨[]⟩ ⟨[pP b]⟩),(12,iI 0)] w17))))))))))))):=kR
theorem Bu8 (hs:Addr) (dov:Addr) :
 xQ Ay9 C R D0 Tryz.f3 Ac5 [(0,iI n),(4,.pointer (some hs)),(7,.func (.func E7) ⟨[]⟩ ⟨[.pointer (some dov)]⟩),(12,iI i)] h =
 cond (decide (i<(D2 .i64 n 7)))
 (gSl hs h fun x xn _=>aSome x fun p=>ck ((0:Int)≤1∧1<(xn:Int)) (gPtr (add (B1 p) (Int.toNat 1*1)) h fun z1=>bnd (C D6 [.pointer z1] h) fun r w=>as2 r fun q1 q2=>aAgg q1 fun z2=>aBool q2 fun z3=>nw (.cells Z7 false [iI 0,iI 0,iI 0,iI 0,iI 0,.slice none 0 0,iI 0,iI 0,.slice none 0 0,.bool false,.slice none 0 0,iI 0]) w fun b w1=>ck (List.length z2=12) (pAgg ⟨b,0,none⟩ z2 w1 fun w2=>bnd (cond z3 (some (true,w2)) (gSl hs w2 fun z4 xn_1 _=>aSome z4 fun p_1=>ck ((0:Int)≤1∧1<(xn_1:Int)) (gPtr (add (B1 p_1) (Int.toNat 1*1)) w2 fun z5=>bnd (C Ai8 [.pointer z5] w2) fun q3 w3=>aInt .i64 q3 fun z6=>some (z6 != 1,w3)))) fun c w4=>cond c
 (some (.bool false,w4))
 (R D0 Ac5 [(0,iI n),(4,.pointer (some hs)),(7,.func (.func E7) ⟨[]⟩ ⟨[.pointer (some dov)]⟩),(12,iI (wrap .i64 (i+1)))] w4))))
 (bnd (C E7 [iI 0,.agg ⟨[iI 17,iI 0,iI 0,.slice none 0 0]⟩,.pointer (some dov)] h) fun q4 w5=>as2 q4 fun q5 q6=>aAgg q5 fun z7=>aBool q6 fun z8=>nw (.cells Z7 false [iI 0,iI 0,iI 0,iI 0,iI 0,.slice none 0 0,iI 0,iI 0,.slice none 0 0,.bool false,.slice none 0 0,iI 0]) w5 fun p1 w6=>ck (List.length z7=12) (pAgg ⟨p1,0,none⟩ z7 w6 fun w7=>bnd (cond (!z8) (some (true,w7)) (gInt .i64 ⟨p1,6,none⟩ w7 fun z9=>some (z9 != (-1),w7))) fun c_1 w8=>cond c_1
 (some (.bool false,w8))
 (bnd (C E7 [iI 0,.agg ⟨[iI 5,iI 1,iI 15,.slice none 0 0]⟩,.pointer (some dov)] w8) fun q7 w9=>as2 q7 fun q8 q9=>aAgg q8 fun z10=>aBool q9 fun z11=>nw (.cells Z7 false [iI 0,iI 0,iI 0,iI 0,iI 0,.slice none 0 0,iI 0,iI 0,.slice none 0 0,.bool false,.slice none 0 0,iI 0]) w9 fun p2 w10=>ck (List.length z10=12) (pAgg ⟨p2,0,none⟩ z10 w10 fun w11=>bnd (cond (!z11) (some (true,w11)) (gInt .i64 ⟨p2,7,none⟩ w11 fun z12=>some (z12 != 0,w11))) fun c_2 w12=>cond c_2
 (some (.bool false,w12))
 (gSl hs w12 fun z13 xn_2 _=>aSome z13 fun p_2=>ck ((0:Int)≤1∧1<(xn_2:Int)) (gPtr (add (B1 p_2) (Int.toNat 1*1)) w12 fun z14=>bnd (C D6 [.pointer z14] w12) fun q10 w13=>as2 q10 fun q11 q12=>aAgg q11 fun _=>aBool q12 fun _=>gSl hs w13 fun z17 xn_3 _=>aSome z17 fun p_3=>ck ((0:Int)≤1∧1<(xn_3:Int)) (gPtr (add (B1 p_3) (Int.toNat 1*1)) w13 fun z18=>bnd (C D6 [.pointer z18] w13) fun q13 w14=>as2 q13 fun q14 q15=>aAgg q14 fun z19=>aBool q15 fun z20=>nw (.cells Z7 false [iI 0,iI 0,iI 0,iI 0,iI 0,.slice none 0 0,iI 0,iI 0,.slice none 0 0,.bool false,.slice none 0 0,iI 0]) w14 fun p3 w15=>ck (List.length z19=12) (pAgg ⟨p3,0,none⟩ z19 w15 fun w16=>bnd (cond z20 (gBool ⟨p3,9,none⟩ w16 fun z21=>some (z21,w16)) (some (false,w16))) fun c_3 w17=>bnd (cond c_3 (gInt .i64 ⟨p3,6,none⟩ w17 fun z22=>some (z22==1,w17)) (some (false,w17))) fun c_4 w18=>bnd (cond c_4 (gSl hs w18 fun z23 xn_4 _=>aSome z23 fun p_4=>ck ((0:Int)≤1∧1<(xn_4:Int)) (gPtr (add (B1 p_4) (Int.toNat 1*1)) w18 fun z24=>bnd (C Ai8 [.pointer z24] w18) fun q16 w19=>aInt .i64 q16 fun z25=>some (z25==0,w19))) (some (false,w18))) fun c_5 w20=>bnd (cond c_5 (bnd (C Bx2 [] w20) fun q17 w21=>aBool q17 fun z26=>some (z26,w21)) (some (false,w20))) fun c_6 w22=>some (.bool c_6,w22))))))))):=kR
def B76:Cuts:=⟨2,[(7,[4,6,8,9,10])],[],[]⟩
def Dv9:List Item:=A5 Tryz.f7
def A16:List Item:=stk [0,1,0,1,0,1,0,1,0,1,0,0,1,4,5] Dv9
theorem Hf3 :
 xQ B76 C R Ad4 Tryz.f7 Dv9 [] h =
 bnd (C Bw9 [] h) fun r w=>aSl r fun x xn xc=>bnd (C An9 [.slice x xn xc] w) fun q1 w1=>as4 q1 fun q2 q3 q4 q5=>aPtr q2 fun z1=>aPtr q3 fun z2=>aPtr q4 fun z3=>aPtr q5 fun _=>cond z2.isNone
 (some (.tuple ⟨[.pointer none,.slice none 0 0,.pointer none,.slice none 0 0]⟩,w1))
 (R Ad4 A16 [(4,.pointer z1),(6,.pointer z3),(8,.slice none 0 0),(9,.slice none 0 0),(10,iI 0)] w1):=kR
theorem D48 (wv:Option Addr) (mn mc:Nat) :
 xQ B76 C R Ad4 Tryz.f7 A16 [(4,.pointer k),(6,.pointer wv),(8,.slice l ln lc),(9,.slice m mn mc),(10,iI i)] h =
 cond (decide (i<4))
 (bnd (C A25 [.pointer k,iI i,iI i,iI 0] h) fun r w=>as2 r fun q1 q2=>aPtr q1 fun x=>aInt .i64 q2 fun z1=>bnd (cond x.isNone (some (true,w)) (some (z1 != 0,w))) fun c w1=>cond c
 (some (.tuple ⟨[.pointer none,.slice none 0 0,.pointer none,.slice none 0 0]⟩,w1))
 (nw (.cells P2 false [.pointer x]) w1 fun b w2=>gCells (some ⟨b,0,none⟩) (1*1) w2 fun cs=>ckB (fitsOpen l P2 w2) (apd P2 1 l ln lc 1 cs w2 fun a an ac w3=>bnd (C Bj4 [.pointer wv,iI i,iI i,iI 0] w3) fun q3 w4=>aPtr q3 fun z2=>nw (.cells Am0 false [.pointer z2]) w4 fun p1 w5=>gCells (some ⟨p1,0,none⟩) (1*1) w5 fun cs_1=>ckB (fitsOpen m Am0 w5) (apd Am0 1 m mn mc 1 cs_1 w5 fun a_1 an_1 ac_1 w6=>R Ad4 A16 [(4,.pointer k),(6,.pointer wv),(8,.slice a an ac),(9,.slice a_1 an_1 ac_1),(10,iI (wrap .i64 (i+1)))] w6))))
 (some (.tuple ⟨[.pointer k,.slice l ln lc,.pointer wv,.slice m mn mc]⟩,h)):=kR
def B81:Cuts:=⟨2,[],[],[]⟩
def D32:List Item:=A5 Tryz.f24
theorem Gm5 (slot:Int) (sectionv:Int) :
 xQ B81 C R Bj4 Tryz.f24 D32 [(0,.pointer k),(1,iI env),(2,iI slot),(3,iI sectionv)] h =
 bnd (C Ao4 [.pointer k,iI env] h) fun r w=>aPtr r fun x=>nw (.cells Hg4 false [.pointer k,.pointer x,iI env,iI slot,iI sectionv,iI 0,iI 0,iI 0,iI 0,iI 0,.slice none 0 0]) w fun b w1=>some (pP b,w1):=kR
def Bz2:Cuts:=⟨2,[],[],[(0,⟨[0,1,2,3,4,5,6,7,8,9,10,11,12,14,13,15],[0,1,3,7,0,16,48,112,0,256,768,1792,3840,8191,0,32767],[],[]⟩),(2,⟨[0,1,2,3,4,5,6,7,8,9],[0,0,0,4,1,17,49,127,255,511],[(6,[3])],[]⟩)]⟩
def Dy5:List Item:=A5 Tryz.f30
theorem Gh6 (w:Option Addr) :
 xQ Bz2 C R Bd7 Tryz.f30 Dy5 [(0,.pointer w)] h =
 aSome w fun p=>gPtr (add p 0) h fun x=>aSome w fun p_1=>gInt .i64 (add p_1 1) h fun z1=>aSome w fun p_2=>gInt .i64 (add p_2 3) h fun z2=>nw (.cells Dt0 false [iI 0,iI 0,.slice none 0 0]) h fun b w1=>bnd (C M7 [.pointer x,iI z1,.agg ⟨[iI 8,iI 0,iI 0,iI z2,iI 0,iI 0,.slice none 0 0]⟩] w1) fun r w2=>aAgg r fun z3=>ck (List.length z3=3) (pAgg ⟨b,0,none⟩ z3 w2 fun w3=>gInt .i64 ⟨b,1,none⟩ w3 fun z4=>cond (decide (z4>0))
 (gInt .i64 ⟨b,1,none⟩ w3 fun z5=>aSome w fun p_3=>pV (add p_3 5) (iI 2) w3 fun w4=>gInt .i64 ⟨b,1,none⟩ w4 fun z6=>same (iI z5) (iI z6) (aSome w fun p_4=>pV (add p_4 6) (iI z5) w4 fun w5=>some (.tuple ⟨[]⟩,w5)))
 (some (.tuple ⟨[]⟩,w3))):=kR
def Dk5:Cuts:=⟨2,[],[],[]⟩
def Ep5:List Item:=A5 Tryz.f34
theorem G43 :
 xQ Dk5 C R Aq1 Tryz.f34 Ep5 [(0,.pointer k),(1,iI env)] h =
 bnd (cond k.isNone (some (true,h)) (bnd (C Ar0 [.pointer k] h) fun r w=>aPtr r fun x=>bnd (C An6 [.pointer x,iI env] w) fun q1 w1=>aSl q1 fun _ xn _=>some ((xn:Int)==0,w1))) fun c w2=>cond c
 (some (.tuple ⟨[.pointer none,iI 1]⟩,w2))
 (bnd (C Ar0 [.pointer k] w2) fun q2 w3=>aPtr q2 fun z2=>bnd (C An6 [.pointer z2,iI env] w3) fun q3 w4=>aSl q3 fun z3 xn_1 xc_1=>nw (.map [] 0) w4 fun b w5=>nw (.cells Dm9 false [.pointer k,iI env,.slice z3 xn_1 xc_1,.map (some b)]) w5 fun p1 w6=>some (.tuple ⟨[pP p1,iI 0]⟩,w6)):=kR
def Db7:Cuts:=⟨2,[],[],[]⟩
def Ed8:List Item:=A5 Tryz.f37
theorem Gr6 :
 xQ Db7 C R Aw4 Tryz.f37 Ed8 [(0,.slice b bn bc)] h =
 nw (.cells B2 false zZ1) h fun p1 w=>bnd (cond ((bn:Int)==24) (bnd (C Aq4 [.slice b bn bc] w) fun r w1=>aBool r fun x=>some (x,w1)) (some (false,w))) fun c w2=>cond c
 (pAgg ⟨p1,0,none⟩ zZ1 w2 fun w3=>gAgg ⟨p1,0,none⟩ 16 w3 fun z1=>some (.tuple ⟨[.agg ⟨z1⟩,iI 0]⟩,w3))
 (bnd (C Bf5 [] w2) fun q1 w4=>aPtr q1 fun z2=>bnd (C Y8 [.pointer z2,.slice b bn bc] w4) fun q2 w5=>as2 q2 fun q3 q4=>aAgg q3 fun z3=>aBool q4 fun z4=>nw (.cells B2 false zZ1) w5 fun p2 w6=>ck (List.length z3=16) (pAgg ⟨p2,0,none⟩ z3 w6 fun w7=>cond (!z4)
 (pAgg ⟨p1,0,none⟩ zZ1 w7 fun w8=>gAgg ⟨p1,0,none⟩ 16 w8 fun z5=>some (.tuple ⟨[.agg ⟨z5⟩,iI 2]⟩,w8))
 (gAgg ⟨p2,0,none⟩ 16 w7 fun z6=>ck (List.length z6=16) (pAgg ⟨p1,0,none⟩ z6 w7 fun w9=>gAgg ⟨p1,0,none⟩ 16 w9 fun z7=>some (.tuple ⟨[.agg ⟨z7⟩,iI 1]⟩,w9))))):=kR
def A75:Cuts:=⟨2,[(4,[1,3,4])],[],[(2,⟨[0,1,2,5,6,9,10,13,14,3,4,7,8,11,12,15,16,17],[0,0,2,6,15,0,32,110,255,0,512,1774,4095,0,8192,28398,65535,131071],[(3,[6,10,14]),(7,[10,14]),(11,[14])],[]⟩)]⟩
def Br6:List Item:=A5 Tryz.f46
def Ar2:List Item:=stk [0,1,0,1,0,1,0,0,1,4,5] Br6
theorem E77 :
 xQ A75 C R W3 Tryz.f46 Br6 [(0,.agg ⟨p⟩)] h =
 nw (.cells B2 false p) h fun b w=>gInt .i64 ⟨b,0,none⟩ w fun x=>gInt .i64 ⟨b,1,none⟩ w fun z1=>gInt .i64 ⟨b,2,none⟩ w fun z2=>gInt .i64 ⟨b,3,none⟩ w fun z3=>nw (.cells A4 false [.int .u8 (wrap .u8 (x)),.int .u8 (wrap .u8 (z1)),.int .u8 (wrap .u8 (z2)),.int .u8 (wrap .u8 (z3))]) w fun p1 w1=>gCells (some ⟨p1,0,none⟩) 4 w1 fun cs=>asBytes cs fun l=>gInt .i64 ⟨b,4,none⟩ w1 fun z4=>gInt .i64 ⟨b,5,none⟩ w1 fun z5=>gInt .i64 ⟨b,6,none⟩ w1 fun z6=>gInt .i64 ⟨b,7,none⟩ w1 fun z7=>bnd (C Bd5 [iI z4] w1) fun r w2=>aStr r fun z8=>gInt .i64 ⟨b,5,none⟩ w2 fun z9=>same (iI z5) (iI z9) (gInt .i64 ⟨b,6,none⟩ w2 fun z10=>same (iI z6) (iI z10) (gInt .i64 ⟨b,7,none⟩ w2 fun z11=>same (iI z7) (iI z11) (ck (ByteArray.size (ByteArray.mk ⟨l⟩)+ByteArray.size z8≤A8) (bnd (C Bd5 [iI z5] w2) fun q1 w3=>aStr q1 fun z12=>gInt .i64 ⟨b,6,none⟩ w3 fun z13=>same (iI z6) (iI z13) (gInt .i64 ⟨b,7,none⟩ w3 fun z14=>same (iI z7) (iI z14) (ck (ByteArray.size ((ByteArray.mk ⟨l⟩)++z8)+ByteArray.size z12≤A8) (bnd (C Bd5 [iI z6] w3) fun q2 w4=>aStr q2 fun z15=>gInt .i64 ⟨b,7,none⟩ w4 fun z16=>same (iI z7) (iI z16) (ck (ByteArray.size (((ByteArray.mk ⟨l⟩)++z8)++z12)+ByteArray.size z15≤A8) (bnd (C Bd5 [iI z7] w4) fun q3 w5=>aStr q3 fun z17=>ck (ByteArray.size ((((ByteArray.mk ⟨l⟩)++z8)++z12)++z15)+ByteArray.size z17≤A8) (R W3 Ar2 [(1,pP b),(3,.string (((((ByteArray.mk ⟨l⟩)++z8)++z12)++z15)++z17)),(4,iI 0)] w5)))))))))):=kR
theorem B31 (p:Addr) (s:ByteArray) :
 xQ A75 C R W3 Tryz.f46 Ar2 [(1,.pointer (some p)),(3,.string s),(4,iI i)] h =
 cond (decide (i<8))
 (ck ((0:Int)≤i∧i<((8:Nat):Int)) (gInt .i64 (add (add p 8) (Int.toNat i*1)) h fun x=>nw (.cells A4 false [.int .u8 (wrap .u8 (x))]) h fun b w=>gCells (some ⟨b,0,none⟩) 1 w fun cs=>asBytes cs fun l=>ck (ByteArray.size s+ByteArray.size (ByteArray.mk ⟨l⟩)≤A8) (R W3 Ar2 [(1,.pointer (some p)),(3,.string (s++(ByteArray.mk ⟨l⟩))),(4,iI (wrap .i64 (i+1)))] w)))
 (ck (ByteArray.size s+ByteArray.size (ByteArray.mk ⟨[167]⟩)≤A8) (bnd (C Ah2 [.string (s++(ByteArray.mk ⟨[167]⟩))] h) fun r w1=>aInt .u8 r fun z1=>nw (.cells A4 false [.int .u8 z1,.int .u8 0,.int .u8 0]) w1 fun p1 w2=>gCells (some ⟨p1,0,none⟩) 3 w2 fun cs_1=>asBytes cs_1 fun l_1=>ck (ByteArray.size (s++(ByteArray.mk ⟨[167]⟩))+ByteArray.size (ByteArray.mk ⟨l_1⟩)≤A8) (some (.string ((s++(ByteArray.mk ⟨[167]⟩))++(ByteArray.mk ⟨l_1⟩)),w2)))):=kR
def Bt1:Cuts:=⟨2,[],[],[]⟩
def Dm5:List Item:=A5 Tryz.f47
theorem E74 :
 xQ Bt1 C R A69 Tryz.f47 Dm5 [(0,.agg ⟨f⟩)] h =
 nw (.cells N1 false f) h fun b w=>gInt .i64 ⟨b,0,none⟩ w fun x=>gInt .i64 ⟨b,1,none⟩ w fun z1=>gInt .i64 ⟨b,2,none⟩ w fun z2=>gInt .i64 ⟨b,3,none⟩ w fun z3=>nw (.cells A4 false [.int .u8 (wrap .u8 (x)),.int .u8 (wrap .u8 (z1)),.int .u8 (wrap .u8 (z2)),.int .u8 (wrap .u8 (z3)),.int .u8 179]) w fun p1 w1=>gCells (some ⟨p1,0,none⟩) 5 w1 fun cs=>asBytes cs fun l=>bnd (C Ah2 [.string (ByteArray.mk ⟨l⟩)] w1) fun r w2=>aInt .u8 r fun z4=>nw (.cells A4 false [.int .u8 z4,.int .u8 0,.int .u8 0]) w2 fun p2 w3=>gCells (some ⟨p2,0,none⟩) 3 w3 fun cs_1=>asBytes cs_1 fun l_1=>ck (ByteArray.size (ByteArray.mk ⟨l⟩)+ByteArray.size (ByteArray.mk ⟨l_1⟩)≤A8) (some (.string ((ByteArray.mk ⟨l⟩)++(ByteArray.mk ⟨l_1⟩)),w3)):=kR
def A41:Cuts:=⟨2,[],[],[]⟩
def Bu0:List Item:=A5 Tryz.f50
theorem D85 :
 xQ A41 C R W0 Tryz.f50 Bu0 [(0,.pointer c),(1,iI i)] h =
 nw (.cells N1 false [iI 0,iI 0,iI 0,iI 0]) h fun b w=>bnd (C A89 [iI i] w) fun r w1=>aAgg r fun x=>bnd (C N3 [.pointer c,.agg ⟨x⟩,.func (.func Aw3) ⟨[]⟩ ⟨[]⟩] w1) fun q1 w2=>as2 q1 fun q2 q3=>aAgg q2 fun z1=>aInt .i64 q3 fun z2=>ck (List.length z1=4) (pAgg ⟨b,0,none⟩ z1 w2 fun w3=>gAgg ⟨b,0,none⟩ 4 w3 fun z3=>some (.tuple ⟨[.agg ⟨z3⟩,iI z2]⟩,w3)):=kR
def A40:Cuts:=⟨2,[],[],[]⟩
def Bt4:List Item:=A5 Tryz.f52
theorem Ea0 :
 xQ A40 C R Am8 Tryz.f52 Bt4 [(0,.pointer c),(1,iI i)] h =
 nw (.cells O3 false zZ2) h fun b w=>bnd (C Bo4 [iI i] w) fun r w1=>aAgg r fun x=>bnd (C L0 [.pointer c,.agg ⟨x⟩,.func (.func Ap9) ⟨[]⟩ ⟨[]⟩] w1) fun q1 w2=>as2 q1 fun q2 q3=>aAgg q2 fun z1=>aInt .i64 q3 fun z2=>ck (List.length z1=36) (pAgg ⟨b,0,none⟩ z1 w2 fun w3=>gAgg ⟨b,0,none⟩ 36 w3 fun z3=>some (.tuple ⟨[.agg ⟨z3⟩,iI z2]⟩,w3)):=kR
def Bs8:Cuts:=⟨2,[],[],[]⟩
def Dn2:List Item:=A5 Tryz.f57
theorem E82 (stamp:Int) :
 xQ Bs8 C R Ai7 Tryz.f57 Dn2 [(0,.pointer s),(1,iI who),(2,iI stamp)] h =
 aSome s fun p=>gBool (add p 1) h fun x=>bnd (cond x (aSome s fun p_1=>gInt .i64 (add p_1 2) h fun z1=>some (z1==who,h)) (some (false,h))) fun c w=>bnd (cond c (aSome s fun p_2=>gInt .i64 (add p_2 3) w fun z2=>some (z2==stamp,w)) (some (false,w))) fun c_1 w1=>some (.bool c_1,w1):=kR
def Bl1:Cuts:=⟨2,[],[],[]⟩
def Dj0:List Item:=A5 Tryz.f68
theorem Es1 :
 xQ Bl1 C R An6 Tryz.f68 Dj0 [(0,.pointer s),(1,iI env)] h =
 bnd (C Ai0 [.pointer s,iI env] h) fun r w=>aBool r fun x=>cond (!x)
 (some (.slice none 0 0,w))
 (aSome s fun p=>gSl (add p 0) w fun z1 xn _=>aSome z1 fun p_1=>ck ((0:Int)≤env∧env<(xn:Int)) (gPtr (add (B1 p_1) (Int.toNat env*1)) w fun z2=>bnd (C H0 [.pointer z2] w) fun q1 w1=>aSl q1 fun z3 xn_1 xc_1=>some (.slice z3 xn_1 xc_1,w1))):=kR
def A88:Cuts:=⟨2,[(3,[1,2,3,4]),(7,[1,2,3,4,5]),(13,[1,2,3,6])],[],[]⟩
def Bl6:List Item:=A5 Tryz.f73
def Bi9:List Item:=stk [0,1,0,1,0,0,1,4,5] Bl6
def A20:List Item:=stk [0,1,0,1,0,0,1,4,5,6,0,1,0,4,0,1,0,0,1,4,5] Bl6
def Bi4:List Item:=stk [0,1,0,1,0,1,0,0,1,4,5] Bl6
theorem Hi8 :
 xQ A88 C R M6 Tryz.f73 Bl6 [(0,.agg ⟨p⟩)] h =
 nw (.cells B36 false p) h fun b w=>nw (.cells D9 false [.slice none 0 0,.slice none 0 0,.slice none 0 0,iI 0,.slice none 0 0]) w fun p1 w1=>gInt .i64 ⟨b,2,none⟩ w1 fun x=>nw (.cells D9 false [.slice none 0 0,.slice none 0 0,.slice none 0 0,iI 0,.slice none 0 0]) w1 fun p2 w2=>pAgg ⟨p2,0,none⟩ [.slice none 0 0,.slice none 0 0,.slice none 0 0,iI x,.slice none 0 0] w2 fun w3=>R M6 Bi9 [(1,pP b),(2,pP p1),(3,pP p2),(4,iI 0)] w3:=kR
theorem D26 (p:Addr) (b:Addr) (s:Int) :
 xQ A88 C R M6 Tryz.f73 Bi9 [(1,.pointer (some p)),(2,.pointer (some x2)),(3,.pointer (some b)),(4,iI s)] h =
 gSl (add p 0) h fun _ xn _=>cond (decide (s<(xn:Int)))
 (gSl (add b 0) h fun z1 xn_1 xc_1=>nw (.cells B3 false [iI 20]) h fun p1 w=>gCells (some ⟨p1,0,none⟩) (1*1) w fun cs=>ckB (fitsOpen z1 B3 w) (apd B3 1 z1 xn_1 xc_1 1 cs w fun a an ac w1=>pV (add b 0) (.slice a an ac) w1 fun w2=>R M6 A20 [(1,.pointer (some p)),(2,.pointer (some x2)),(3,.pointer (some b)),(4,iI s),(5,iI 0)] w2))
 (R M6 Bi4 [(1,.pointer (some p)),(2,.pointer (some x2)),(3,.pointer (some b)),(6,iI 0)] h):=kR
theorem D27 (p:Addr) (b:Addr) (s:Int) :
 xQ A88 C R M6 Tryz.f73 A20 [(1,.pointer (some p)),(2,.pointer (some x2)),(3,.pointer (some b)),(4,iI s),(5,iI i)] h =
 cond (decide (i<9))
 (gSl (add b 1) h fun x xn xc=>nw (.cells B3 false [iI s]) h fun p1 w=>gCells (some ⟨p1,0,none⟩) (1*1) w fun cs=>ckB (fitsOpen x B3 w) (apd B3 1 x xn xc 1 cs w fun a an ac w1=>pV (add b 1) (.slice a an ac) w1 fun w2=>R M6 A20 [(1,.pointer (some p)),(2,.pointer (some x2)),(3,.pointer (some b)),(4,iI s),(5,iI (wrap .i64 (i+1)))] w2))
 (gSl (add b 2) h fun z1 xn_1 xc_1=>nw (.cells B3 false [iI s]) h fun p2 w3=>nw (.cells U5 false [.slice (some ⟨p2,0,none⟩) 1 1]) w3 fun p3 w4=>gCells (some ⟨p3,0,none⟩) (1*1) w4 fun cs_1=>ckB (fitsOpen z1 U5 w4) (apd U5 1 z1 xn_1 xc_1 1 cs_1 w4 fun a_1 an_1 ac_1 w5=>pV (add b 2) (.slice a_1 an_1 ac_1) w5 fun w6=>gSl (add b 4) w6 fun z2 xn_2 xc_2=>nw (.cells B3 false [iI s]) w6 fun p4 w7=>nw (.cells L7 false [iI s,iI 0,iI 0,iI 492,.slice (some ⟨p4,0,none⟩) 1 1]) w7 fun p5 w8=>gCells (some ⟨p5,0,none⟩) (1*5) w8 fun cs_2=>ckB (fitsOpen z2 L7 w8) (apd L7 5 z2 xn_2 xc_2 1 cs_2 w8 fun a_2 an_2 ac_2 w9=>pV (add b 4) (.slice a_2 an_2 ac_2) w9 fun w10=>R M6 Bi9 [(1,.pointer (some p)),(2,.pointer (some x2)),(3,.pointer (some b)),(4,iI (wrap .i64 (s+1)))] w10))):=kR
theorem D42 (p:Addr) (b:Addr) :
 xQ A88 C R M6 Tryz.f73 Bi4 [(1,.pointer (some p)),(2,.pointer (some x2)),(3,.pointer (some b)),(6,iI i)] h =
 gSl (add p 1) h fun _ xn _=>cond (decide (i<(xn:Int)))
 (gSl (add p 1) h fun z1 xn_1 _=>aSome z1 fun p_1=>ck ((0:Int)≤i∧i<(xn_1:Int)) (gAgg (add (B1 p_1) (Int.toNat i*2)) 2 h fun z2=>nw (.cells B35 false [iI 0,iI 0]) h fun p1 w=>ck (List.length z2=2) (pAgg ⟨p1,0,none⟩ z2 w fun w1=>gSl (add b 4) w1 fun z3 xn_2 xc_2=>gInt .i64 ⟨p1,0,none⟩ w1 fun z4=>gInt .i64 ⟨p1,0,none⟩ w1 fun z5=>gInt .i64 ⟨p1,1,none⟩ w1 fun z6=>nw (.cells B3 false [iI z5,iI z6]) w1 fun p2 w2=>nw (.cells L7 false [iI z4,iI (wrap .i64 (8+i)),iI 0,iI 40,.slice (some ⟨p2,0,none⟩) 2 2]) w2 fun p3 w3=>gCells (some ⟨p3,0,none⟩) (1*5) w3 fun cs=>ckB (fitsOpen z3 L7 w3) (apd L7 5 z3 xn_2 xc_2 1 cs w3 fun a an ac w4=>pV (add b 4) (.slice a an ac) w4 fun w5=>R M6 Bi4 [(1,.pointer (some p)),(2,.pointer (some x2)),(3,.pointer (some b)),(6,iI (wrap .i64 (i+1)))] w5))))
 (gAgg b 5 h fun z7=>ck (List.length z7=5) (pAgg x2 z7 h fun w6=>gAgg x2 5 w6 fun z8=>some (.agg ⟨z8⟩,w6))):=kR
def Aw0:Cuts:=⟨2,[(4,[1,3,4]),(8,[1,3,5]),(13,[1,3,5,6,7,9])],[],[(1,⟨[0,1,2,3,4,5,6],[0,0,2,6,15,31,63],[(3,[0])],[]⟩),(2,⟨[0,1,2,3,4,5,6,7,11,12,13,8,9,10,14,15,16,17,18,19],[0,0,2,6,14,0,32,96,254,510,1022,0,2048,6144,14846,32766,65534,131071,262143,524287],[(8,[12])],[]⟩),(6,⟨[0,1,2,3,4,5,6,7,8,9,10,11,12],[0,0,2,6,14,0,32,96,224,510,1023,2047,4095],[(7,[4])],[]⟩),(11,⟨[0,1,2,3,4,5,6,7,8,9,11,12,15,16,18,19,10,13,14,17,20,21,22,23,24,25],[0,1,3,7,0,16,48,112,0,256,1008,0,2048,8176,16368,0,32768,131056,0,262144,1048575,2097151,4194303,4194303,8388607,33554431],[(10,[3,12,16,19])],[]⟩),(15,⟨[0,1,2,3,4,5,6,7],[0,1,0,4,0,28,60,127],[],[]⟩),(16,⟨[0,1,2,3,4,5,6,7,8,9,10,11,12],[0,1,3,7,15,31,63,0,0,0,512,1792,4095],[],[]⟩)]⟩
def A80:List Item:=A5 Tryz.f75
def A76:List Item:=stk [0,1,0,1,0,1,0,0,1,4,5] A80
def Aq9:List Item:=stk [0,1,0,1,0,1,0,1,0,0,1,4,5] A80
def Aq8:List Item:=stk [0,1,0,1,0,1,0,1,0,0,1,4,5,6,0,1,0,4,0,1,0,1,0,1,4,5] A80
theorem Gt1 (b:List Value) :
 xQ Aw0 C R I0 Tryz.f75 A80 [(0,.agg ⟨b⟩)] h =
 nw (.cells D9 false b) h fun p1 w=>gAgg ⟨p1,0,none⟩ 5 w fun x=>gSl ⟨p1,0,none⟩ w fun z1 xn xc=>bnd (C Ac1 [.slice z1 xn xc] w) fun r w1=>aPtr r fun z2=>gAgg ⟨p1,0,none⟩ 5 w1 fun z3=>same (.agg ⟨x⟩) (.agg ⟨z3⟩) (ck (List.length x=5) (nw (.cells E87 false (x++(.pointer z2::(.pointer none::(.slice none 0 0::[iI 0]))))) w1 fun p2 w2=>gPtr ⟨p2,5,none⟩ w2 fun z4=>gSl ⟨p1,0,none⟩ w2 fun _ xn_1 _=>gSl ⟨p1,1,none⟩ w2 fun z6 xn_2 xc_2=>bnd (C P4 [.pointer z4,iI (xn_1:Int)] w2) fun q1 w3=>aInt .i64 q1 fun z7=>gSl ⟨p1,1,none⟩ w3 fun z8 xn_3 xc_3=>same (.slice z6 xn_2 xc_2) (.slice z8 xn_3 xc_3) (ck ((0:Int)≤wrap .i64 (64*z7)∧(wrap .i64 (64*z7):Int)≤wrap .i64 (64*z7)∧wrap .i64 (64*z7)≤(A8:Int)) (nw (.cells A4 false (L8 (Int.toNat (wrap .i64 (64*z7))) [.int .u8 0])) w3 fun p3 w4=>bnd (C Ab9 [iI (xn_2:Int)] w4) fun q2 w5=>aPtr q2 fun z9=>nw (.cells Ed3 false [.slice (some ⟨p3,0,none⟩) (Int.toNat (wrap .i64 (64*z7))) (Int.toNat (wrap .i64 (64*z7))),.slice none 0 0,.slice none 0 0,.pointer z9]) w5 fun p4 w6=>pV ⟨p2,6,none⟩ (pP p4) w6 fun w7=>R I0 A76 [(1,pP p1),(3,pP p2),(4,iI 0)] w7)))):=kR
theorem Dn9 (b:Addr) (k:Addr) :
 xQ Aw0 C R I0 Tryz.f75 A76 [(1,.pointer (some b)),(3,.pointer (some k)),(4,iI i)] h =
 gSl (add b 2) h fun _ xn _=>cond (decide (i<(xn:Int)))
 (gSl (add k 7) h fun z1 xn_1 xc_1=>gInt .i64 (add b 3) h fun z2=>bnd (C Bn9 [iI z2] h) fun r w=>aPtr r fun z3=>gSl (add k 7) w fun z4 xn_2 xc_2=>same (.slice z1 xn_1 xc_1) (.slice z4 xn_2 xc_2) (nw (.cells Bg3 false [.pointer z3]) w fun p1 w1=>gCells (some ⟨p1,0,none⟩) (1*1) w1 fun cs=>ckB (fitsOpen z1 Bg3 w1) (apd Bg3 1 z1 xn_1 xc_1 1 cs w1 fun a an ac w2=>pV (add k 7) (.slice a an ac) w2 fun w3=>R I0 A76 [(1,.pointer (some b)),(3,.pointer (some k)),(4,iI (wrap .i64 (i+1)))] w3)))
 (R I0 Aq9 [(1,.pointer (some b)),(3,.pointer (some k)),(5,iI 0)] h):=kR
theorem Dm8 (b:Addr) (k:Addr) :
 xQ Aw0 C R I0 Tryz.f75 Aq9 [(1,.pointer (some b)),(3,.pointer (some k)),(5,iI i)] h =
 gSl (add b 4) h fun _ xn _=>cond (decide (i<(xn:Int)))
 (gSl (add b 4) h fun z1 xn_1 _=>aSome z1 fun p=>ck ((0:Int)≤i∧i<(xn_1:Int)) (gAgg (add (B1 p) (Int.toNat i*5)) 5 h fun z2=>nw (.cells L7 false [iI 0,iI 0,iI 0,iI 0,.slice none 0 0]) h fun p1 w=>ck (List.length z2=5) (pAgg ⟨p1,0,none⟩ z2 w fun w1=>gPtr (add k 6) w1 fun z3=>gPtr (add k 5) w1 fun z4=>gInt .i64 ⟨p1,0,none⟩ w1 fun z5=>gInt .i64 ⟨p1,1,none⟩ w1 fun z6=>gInt .i64 ⟨p1,2,none⟩ w1 fun z7=>gInt .i64 ⟨p1,3,none⟩ w1 fun z8=>bnd (C P4 [.pointer z4,iI z5] w1) fun r w2=>aInt .i64 r fun z9=>gPtr (add k 6) w2 fun z10=>same (.pointer z3) (.pointer z10) (gInt .i64 ⟨p1,1,none⟩ w2 fun z11=>same (iI z6) (iI z11) (gInt .i64 ⟨p1,2,none⟩ w2 fun z12=>same (iI z7) (iI z12) (gInt .i64 ⟨p1,3,none⟩ w2 fun z13=>same (iI z8) (iI z13) (bnd (C A38 [.pointer z3,iI (wrap .i64 ((wrap .i64 (64*(wrap .i64 (z9+z6))))+z7)),iI z8] w2) fun q1 w3=>as2 q1 fun q2 q3=>aInt .i64 q2 fun z14=>aInt .i64 q3 fun _=>R I0 Aq8 [(1,.pointer (some b)),(3,.pointer (some k)),(5,iI i),(6,pP p1),(7,iI z14),(9,iI 0)] w3)))))))
 (some (.pointer (some k),h)):=kR
theorem Dn4 (b:Addr) (k:Addr) (s:Addr) (obj:Int) :
 xQ Aw0 C R I0 Tryz.f75 Aq8 [(1,.pointer (some b)),(3,.pointer (some k)),(5,iI i),(6,.pointer (some s)),(7,iI obj),(9,iI e)] h =
 gSl (add b 1) h fun _ xn _=>cond (decide (e<(xn:Int)))
 (gSl (add s 4) h fun z1 xn_1 xc_1=>gSl (add b 1) h fun z2 xn_2 _=>aSome z2 fun p=>ck ((0:Int)≤e∧e<(xn_2:Int)) (gInt .i64 (add (B1 p) (Int.toNat e*1)) h fun z3=>bnd (C Ba8 [.slice z1 xn_1 xc_1,iI z3] h) fun r w=>aBool r fun z4=>cond z4
 (gPtr (add k 6) w fun z5=>aSome z5 fun p_1=>gPtr (add p_1 3) w fun z6=>gInt .i64 (add s 3) w fun z7=>bnd (C Bc6 [.pointer z6,iI e,.agg ⟨[iI obj,iI 3,iI 0,iI z7,iI 0,iI 0]⟩] w) fun q1 w1=>as2 q1 fun q2 q3=>aInt .i64 q2 fun _=>aInt .i64 q3 fun _=>R I0 Aq8 [(1,.pointer (some b)),(3,.pointer (some k)),(5,iI i),(6,.pointer (some s)),(7,iI obj),(9,iI (wrap .i64 (e+1)))] w1)
 (R I0 Aq8 [(1,.pointer (some b)),(3,.pointer (some k)),(5,iI i),(6,.pointer (some s)),(7,iI obj),(9,iI (wrap .i64 (e+1)))] w)))
 (R I0 Aq9 [(1,.pointer (some b)),(3,.pointer (some k)),(5,iI (wrap .i64 (i+1)))] h):=kR
def Bz0:Cuts:=⟨2,[],[],[]⟩
def Dx2:List Item:=A5 Tryz.f91
theorem Gi3 :
 xQ Bz0 C R Bd3 Tryz.f91 Dx2 [(0,.pointer s),(1,iI e)] h =
 bnd (C Am3 [.pointer s,iI e] h) fun r w=>aBool r fun x=>cond (!x)
 (some (.slice none 0 0,w))
 (aSome s fun p=>gSl (add p 0) w fun z1 xn _=>aSome z1 fun p_1=>ck ((0:Int)≤e∧e<(xn:Int)) (gPtr (add (B1 p_1) (Int.toNat e*1)) w fun z2=>bnd (C V3 [.pointer z2] w) fun q1 w1=>aSl q1 fun z3 xn_1 xc_1=>some (.slice z3 xn_1 xc_1,w1))):=kR
def Af8:Cuts:=⟨2,[],[(8,[6,8,11,12])],[(7,⟨[0,1,2,3,4,5,6,7,8,9],[0,1,3,7,0,31,63,31,159,511],[(7,[5])],[]⟩)]⟩
def As9:List Item:=A5 Tryz.f92
def Al7:List Item:=stk [0,1,0,1,0,1,0,1,0,1,0,1,0,0] As9
theorem Dr1 :
 xQ Af8 C R N3 Tryz.f92 As9 [(0,.pointer c),(1,.agg ⟨r⟩),(2,decode)] h =
 nw (.cells E0 false r) h fun b w=>nw (.cells N1 false [iI 0,iI 0,iI 0,iI 0]) w fun p1 w1=>nw (.cells N1 false [iI 0,iI 0,iI 0,iI 0]) w1 fun p2 w2=>gAgg ⟨b,0,none⟩ 2 w2 fun x=>bnd (C Q1 [.pointer c,.agg ⟨x⟩] w2) fun q1 w3=>as2 q1 fun q2 q3=>aSl q2 fun z1 xn xc=>aBool q3 fun z2=>cond (!z2)
 (gAgg ⟨p2,0,none⟩ 4 w3 fun z3=>ck (List.length z3=4) (pAgg ⟨p1,0,none⟩ z3 w3 fun w4=>gAgg ⟨p1,0,none⟩ 4 w4 fun z4=>some (.tuple ⟨[.agg ⟨z4⟩,iI 2]⟩,w4)))
 (aFn decode fun g fi cp=>bnd (C g (fi++([.slice z1 xn xc]++cp)) w3) fun q4 w5=>as2 q4 fun q5 q6=>aAgg q5 fun z5=>aInt .i64 q6 fun z6=>nw (.cells N1 false [iI 0,iI 0,iI 0,iI 0]) w5 fun p3 w6=>ck (List.length z5=4) (pAgg ⟨p3,0,none⟩ z5 w6 fun w7=>cond (z6==2)
 (aSome c fun p=>gMap (add p 3) w7 fun z7=>gAgg ⟨b,0,none⟩ 2 w7 fun z8=>keyN PR E0 (.agg ⟨z8⟩) (opt z7 fun q7=>mapAt w7 q7 fun es _=>opt (Ap6 (iI 0) (.agg ⟨z8⟩) es) fun f=>aInt .i64 f.1 fun z9=>keyN PR E0 (.agg ⟨z8⟩) (opt z7 fun q8=>mapAt w7 q8 fun es_1 cl_1=>opt (D95 (iI 0) (.agg ⟨z8⟩) es_1 cl_1) fun f_1=>aInt .i64 f_1.1 fun _=>lt (H.set w7 q8 f_1.2.2) fun w8=>keyN PR E0 (.agg ⟨z8⟩) (opt z7 fun q9=>mapAt w8 q9 fun es_2 _=>opt (Ap6 (iI 0) (.agg ⟨z8⟩) es_2) fun f_2=>aInt .i64 f_2.1 fun z11=>same (iI z9) (iI z11) (opt z7 fun q10=>mapAt w8 q10 fun es_3 cl_3=>opt (Bq3 (f_1.2.1:Int) es_3 0) fun i=>lt (H.set w8 q10 (.map (modN (fun e=>{ e with val:=iI (wrap .i64 (z9+1)) }) i es_3) cl_3)) fun w9=>R N3 Al7 [(6,pP p1),(8,pP p2),(11,pP p3),(12,iI z6)] w9)))))
 (R N3 Al7 [(6,pP p1),(8,pP p2),(11,pP p3),(12,iI z6)] w7))):=kR
theorem A99 :
 xQ Af8 C R N3 Tryz.f92 Al7 [(6,.pointer (some x6)),(8,.pointer (some nonev)),(11,.pointer (some v)),(12,iI isv)] h =
 cond (isv != 1)
 (gAgg nonev 4 h fun x=>ck (List.length x=4) (pAgg x6 x h fun w=>gAgg x6 4 w fun z1=>some (.tuple ⟨[.agg ⟨z1⟩,iI isv]⟩,w)))
 (gAgg v 4 h fun z2=>ck (List.length z2=4) (pAgg x6 z2 h fun w1=>gAgg x6 4 w1 fun z3=>some (.tuple ⟨[.agg ⟨z3⟩,iI isv]⟩,w1))):=kR
def Af5:Cuts:=⟨2,[],[(8,[6,8,11,12])],[(7,⟨[0,1,2,3,4,5,6,7,8,9],[0,1,3,7,0,31,63,31,159,511],[(7,[5])],[]⟩)]⟩
def Ar4:List Item:=A5 Tryz.f95
def Al0:List Item:=stk [0,1,0,1,0,1,0,1,0,1,0,1,0,0] Ar4
theorem Dr8 :
 xQ Af5 C R L0 Tryz.f95 Ar4 [(0,.pointer c),(1,.agg ⟨r⟩),(2,decode)] h =
 nw (.cells E0 false r) h fun b w=>nw (.cells O3 false zZ2) w fun p1 w1=>nw (.cells O3 false zZ2) w1 fun p2 w2=>gAgg ⟨b,0,none⟩ 2 w2 fun x=>bnd (C Q1 [.pointer c,.agg ⟨x⟩] w2) fun q1 w3=>as2 q1 fun q2 q3=>aSl q2 fun z1 xn xc=>aBool q3 fun z2=>cond (!z2)
 (gAgg ⟨p2,0,none⟩ 36 w3 fun z3=>ck (List.length z3=36) (pAgg ⟨p1,0,none⟩ z3 w3 fun w4=>gAgg ⟨p1,0,none⟩ 36 w4 fun z4=>some (.tuple ⟨[.agg ⟨z4⟩,iI 2]⟩,w4)))
 (aFn decode fun g fi cp=>bnd (C g (fi++([.slice z1 xn xc]++cp)) w3) fun q4 w5=>as2 q4 fun q5 q6=>aAgg q5 fun z5=>aInt .i64 q6 fun z6=>nw (.cells O3 false zZ2) w5 fun p3 w6=>ck (List.length z5=36) (pAgg ⟨p3,0,none⟩ z5 w6 fun w7=>cond (z6==2)
 (aSome c fun p=>gMap (add p 3) w7 fun z7=>gAgg ⟨b,0,none⟩ 2 w7 fun z8=>keyN PR E0 (.agg ⟨z8⟩) (opt z7 fun q7=>mapAt w7 q7 fun es _=>opt (Ap6 (iI 0) (.agg ⟨z8⟩) es) fun f=>aInt .i64 f.1 fun z9=>keyN PR E0 (.agg ⟨z8⟩) (opt z7 fun q8=>mapAt w7 q8 fun es_1 cl_1=>opt (D95 (iI 0) (.agg ⟨z8⟩) es_1 cl_1) fun f_1=>aInt .i64 f_1.1 fun _=>lt (H.set w7 q8 f_1.2.2) fun w8=>keyN PR E0 (.agg ⟨z8⟩) (opt z7 fun q9=>mapAt w8 q9 fun es_2 _=>opt (Ap6 (iI 0) (.agg ⟨z8⟩) es_2) fun f_2=>aInt .i64 f_2.1 fun z11=>same (iI z9) (iI z11) (opt z7 fun q10=>mapAt w8 q10 fun es_3 cl_3=>opt (Bq3 (f_1.2.1:Int) es_3 0) fun i=>lt (H.set w8 q10 (.map (modN (fun e=>{ e with val:=iI (wrap .i64 (z9+1)) }) i es_3) cl_3)) fun w9=>R L0 Al0 [(6,pP p1),(8,pP p2),(11,pP p3),(12,iI z6)] w9)))))
 (R L0 Al0 [(6,pP p1),(8,pP p2),(11,pP p3),(12,iI z6)] w7))):=kR
theorem A78 :
 xQ Af5 C R L0 Tryz.f95 Al0 [(6,.pointer (some x6)),(8,.pointer (some nonev)),(11,.pointer (some v)),(12,iI isv)] h =
 cond (isv != 1)
 (gAgg nonev 36 h fun x=>ck (List.length x=36) (pAgg x6 x h fun w=>gAgg x6 36 w fun z1=>some (.tuple ⟨[.agg ⟨z1⟩,iI isv]⟩,w)))
 (gAgg v 36 h fun z2=>ck (List.length z2=36) (pAgg x6 z2 h fun w1=>gAgg x6 36 w1 fun z3=>some (.tuple ⟨[.agg ⟨z3⟩,iI isv]⟩,w1))):=kR
def Db1:Cuts:=⟨2,[],[],[]⟩
def Eb5:List Item:=A5 Tryz.f96
theorem Gr2 :
 xQ Db1 C R Bo4 Tryz.f96 Eb5 [(0,iI i)] h =
 nw (.cells E0 false [iI 0,iI 0]) h fun b w=>pAgg ⟨b,0,none⟩ [iI 3,iI i] w fun w1=>gAgg ⟨b,0,none⟩ 2 w1 fun x=>some (.agg ⟨x⟩,w1):=kR
def Ar9:Cuts:=⟨2,[],[(8,[8,11,12])],[(7,⟨[0,1,2,3,4,5,6,7,8,9],[0,1,3,7,0,31,63,31,159,511],[(7,[5])],[]⟩)]⟩
def Bb9:List Item:=A5 Tryz.f98
def A00:List Item:=stk [0,1,0,1,0,1,0,1,0,1,0,1,0,0] Bb9
theorem El9 :
 xQ Ar9 C R V0 Tryz.f98 Bb9 [(0,.pointer c),(1,.agg ⟨r⟩),(2,decode)] h =
 nw (.cells E0 false r) h fun b w=>gAgg ⟨b,0,none⟩ 2 w fun x=>bnd (C Q1 [.pointer c,.agg ⟨x⟩] w) fun q1 w1=>as2 q1 fun q2 q3=>aSl q2 fun z1 xn xc=>aBool q3 fun z2=>cond (!z2)
 (some (.tuple ⟨[iI 0,iI 2]⟩,w1))
 (aFn decode fun g fi cp=>bnd (C g (fi++([.slice z1 xn xc]++cp)) w1) fun q4 w2=>as2 q4 fun q5 q6=>aInt .i64 q5 fun z3=>aInt .i64 q6 fun z4=>cond (z4==2)
 (aSome c fun p=>gMap (add p 3) w2 fun z5=>gAgg ⟨b,0,none⟩ 2 w2 fun z6=>keyN PR E0 (.agg ⟨z6⟩) (opt z5 fun q7=>mapAt w2 q7 fun es _=>opt (Ap6 (iI 0) (.agg ⟨z6⟩) es) fun f=>aInt .i64 f.1 fun z7=>keyN PR E0 (.agg ⟨z6⟩) (opt z5 fun q8=>mapAt w2 q8 fun es_1 cl_1=>opt (D95 (iI 0) (.agg ⟨z6⟩) es_1 cl_1) fun f_1=>aInt .i64 f_1.1 fun _=>lt (H.set w2 q8 f_1.2.2) fun w3=>keyN PR E0 (.agg ⟨z6⟩) (opt z5 fun q9=>mapAt w3 q9 fun es_2 _=>opt (Ap6 (iI 0) (.agg ⟨z6⟩) es_2) fun f_2=>aInt .i64 f_2.1 fun z9=>same (iI z7) (iI z9) (opt z5 fun q10=>mapAt w3 q10 fun es_3 cl_3=>opt (Bq3 (f_1.2.1:Int) es_3 0) fun i=>lt (H.set w3 q10 (.map (modN (fun e=>{ e with val:=iI (wrap .i64 (z7+1)) }) i es_3) cl_3)) fun w4=>R V0 A00 [(8,iI 0),(11,iI z3),(12,iI z4)] w4)))))
 (R V0 A00 [(8,iI 0),(11,iI z3),(12,iI z4)] w2)):=kR
theorem Bq6 (nonev:Int) (v:Int) :
 xQ Ar9 C R V0 Tryz.f98 A00 [(8,iI nonev),(11,iI v),(12,iI isv)] h =
 cond (isv != 1)
 (some (.tuple ⟨[iI nonev,iI isv]⟩,h))
 (some (.tuple ⟨[iI v,iI isv]⟩,h)):=kR
def D92:Cuts:=⟨2,[],[],[]⟩
def E88:List Item:=A5 Tryz.f104
theorem Hr3 :
 xQ D92 C R Dg1 Tryz.f104 E88 [(0,.pointer c),(1,iI i)] h =
 nw (.cells An3 false [iI 0,iI 0,.slice none 0 0,.bool false]) h fun b w=>bnd (C Bg7 [.pointer c,iI i] w) fun r w1=>as2 r fun q1 q2=>aAgg q1 fun x=>aInt .i64 q2 fun z1=>nw (.cells B2 false zZ1) w1 fun p1 w2=>ck (List.length x=16) (pAgg ⟨p1,0,none⟩ x w2 fun w3=>cond (z1 != 0)
 (bnd (C Ac9 [iI z1] w3) fun q3 w4=>aAgg q3 fun z2=>ck (List.length z2=4) (pAgg ⟨b,0,none⟩ z2 w4 fun w5=>gAgg ⟨b,0,none⟩ 4 w5 fun z3=>some (.agg ⟨z3⟩,w5)))
 (bnd (C Av3 [.pointer c] w3) fun q4 w6=>aInt .i64 q4 fun z4=>cond (decide (z4<0))
 (bnd (C Ac9 [iI 111] w6) fun q5 w7=>aAgg q5 fun z5=>ck (List.length z5=4) (pAgg ⟨b,0,none⟩ z5 w7 fun w8=>gAgg ⟨b,0,none⟩ 4 w8 fun z6=>some (.agg ⟨z6⟩,w8)))
 (gAgg ⟨p1,0,none⟩ 16 w6 fun z7=>bnd (C I2 [.pointer c,.agg ⟨z7⟩] w6) fun q6 w9=>aInt .i64 q6 fun z8=>cond (z8 != 0)
 (bnd (C Ac9 [iI z8] w9) fun q7 w10=>aAgg q7 fun z9=>ck (List.length z9=4) (pAgg ⟨b,0,none⟩ z9 w10 fun w11=>gAgg ⟨b,0,none⟩ 4 w11 fun z10=>some (.agg ⟨z10⟩,w11)))
 (pV ⟨p1,1,none⟩ (iI (wrap .i64 (i+1))) w9 fun w12=>pV ⟨p1,4,none⟩ (iI 0) w12 fun w13=>gAgg ⟨p1,0,none⟩ 16 w13 fun z11=>bnd (C Q2 [.pointer c,iI z4,.agg ⟨z11⟩] w13) fun q8 w14=>aBool q8 fun z12=>bnd (C Dg2 [.bool z12,iI z4] w14) fun q9 w15=>aAgg q9 fun z13=>ck (List.length z13=4) (pAgg ⟨b,0,none⟩ z13 w15 fun w16=>gAgg ⟨b,0,none⟩ 4 w16 fun z14=>some (.agg ⟨z14⟩,w16)))))):=kR
def Dg8:Cuts:=⟨2,[(10,[0,3,8,53,54,55])],[],[]⟩
def D75:List Item:=A5 Tryz.f106
def Bp3:List Item:=stk [0,1,0,1,0,1,0,1,0,1,0,0,1,4,5] D75
theorem Hq7 :
 xQ Dg8 C R Au9 Tryz.f106 D75 [(0,.pointer c),(1,iI i),(2,iI target),(3,iI n)] h =
 nw (.cells An3 false [iI 0,iI 0,.slice none 0 0,.bool false]) h fun b w=>bnd (C Bg7 [.pointer c,iI i] w) fun r w1=>as2 r fun q1 q2=>aAgg q1 fun x=>aInt .i64 q2 fun z1=>nw (.cells B2 false zZ1) w1 fun p1 w2=>ck (List.length x=16) (pAgg ⟨p1,0,none⟩ x w2 fun w3=>cond (z1 != 0)
 (bnd (C Ac9 [iI z1] w3) fun q3 w4=>aAgg q3 fun z2=>ck (List.length z2=4) (pAgg ⟨b,0,none⟩ z2 w4 fun w5=>gAgg ⟨b,0,none⟩ 4 w5 fun z3=>some (.agg ⟨z3⟩,w5)))
 (bnd (cond (decide (target<0)) (some (true,w3)) (some (decide (target>15),w3))) fun c_1 w6=>bnd (cond c_1 (some (true,w6)) (some (decide (n<0),w6))) fun c_2 w7=>bnd (cond c_2 (some (true,w7)) (some (decide (n>15),w7))) fun c_3 w8=>cond c_3
 (bnd (C Ac9 [iI 122] w8) fun q4 w9=>aAgg q4 fun z4=>ck (List.length z4=4) (pAgg ⟨b,0,none⟩ z4 w9 fun w10=>gAgg ⟨b,0,none⟩ 4 w10 fun z5=>some (.agg ⟨z5⟩,w10)))
 (bnd (C Bo8 [.pointer c,iI target] w8) fun q5 w11=>as2 q5 fun q6 q7=>aSl q6 fun z6 xn xc=>aInt .i64 q7 fun z7=>cond (z7 != 0)
 (bnd (C Ac9 [iI z7] w11) fun q8 w12=>aAgg q8 fun z8=>ck (List.length z8=4) (pAgg ⟨b,0,none⟩ z8 w12 fun w13=>gAgg ⟨b,0,none⟩ 4 w13 fun z9=>some (.agg ⟨z9⟩,w13)))
 (R Au9 Bp3 [(0,.pointer c),(3,iI n),(8,pP b),(53,.slice z6 xn xc),(54,iI (xn:Int)),(55,iI 0)] w11)))):=kR
theorem Ea8 (x8:Addr) (x53:Option Addr) (x53n x53c:Nat) (x55:Int) :
 xQ Dg8 C R Au9 Tryz.f106 Bp3 [(0,.pointer c),(3,iI n),(8,.pointer (some x8)),(53,.slice x53 x53n x53c),(54,iI x54),(55,iI x55)] h =
 cond (decide (x55<x54))
 (aSome x53 fun p=>ck ((0:Int)≤x55∧x55<(x53n:Int)) (gAgg (add (B1 p) (Int.toNat x55*17)) 17 h fun x=>nw (.cells N6 false zZ4) h fun b w=>ck (List.length x=17) (pAgg ⟨b,0,none⟩ x w fun w1=>gAgg ⟨b,1,none⟩ 16 w1 fun z1=>bnd (C W1 [.agg ⟨z1⟩,iI n] w1) fun r w2=>as2 r fun q1 q2=>aAgg q1 fun z2=>aBool q2 fun z3=>nw (.cells B2 false zZ1) w2 fun p1 w3=>ck (List.length z2=16) (pAgg ⟨p1,0,none⟩ z2 w3 fun w4=>bnd (cond z3 (gInt .i64 ⟨b,0,none⟩ w4 fun z4=>gAgg ⟨p1,0,none⟩ 16 w4 fun z5=>bnd (C Q2 [.pointer c,iI z4,.agg ⟨z5⟩] w4) fun q3 w5=>aBool q3 fun z6=>some (!z6,w5)) (some (false,w4))) fun c_1 w6=>cond c_1
 (bnd (C Ac9 [iI 105] w6) fun q4 w7=>aAgg q4 fun z7=>ck (List.length z7=4) (pAgg x8 z7 w7 fun w8=>gAgg x8 4 w8 fun z8=>some (.agg ⟨z8⟩,w8)))
 (R Au9 Bp3 [(0,.pointer c),(3,iI n),(8,.pointer (some x8)),(53,.slice x53 x53n x53c),(54,iI x54),(55,iI (wrap .i64 (x55+1)))] w6)))))
 (pAgg x8 [iI 0,iI 0,.slice none 0 0,.bool false] h fun w9=>gAgg x8 4 w9 fun z9=>some (.agg ⟨z9⟩,w9)):=kR
def D70:Cuts:=⟨2,[],[],[]⟩
def E96:List Item:=A5 Tryz.f118
theorem Ho6 :
 xQ D70 C R Bg7 Tryz.f118 E96 [(0,.pointer c),(1,iI i)] h =
 nw (.cells B2 false zZ1) h fun b w=>bnd (C B8 [.pointer c] w) fun r w1=>as0 r (bnd (C E2 [.pointer c,iI i] w1) fun q1 w2=>as2 q1 fun q2 q3=>aAgg q2 fun x=>aInt .i64 q3 fun z1=>nw (.cells B2 false zZ1) w2 fun p1 w3=>ck (List.length x=16) (pAgg ⟨p1,0,none⟩ x w3 fun w4=>bnd (cond (z1 != 1) (some (true,w4)) (gInt .i64 ⟨p1,0,none⟩ w4 fun z2=>some (z2 != 1,w4))) fun c_1 w5=>cond c_1
 (pAgg ⟨b,0,none⟩ zZ1 w5 fun w6=>gAgg ⟨b,0,none⟩ 16 w6 fun z3=>some (.tuple ⟨[.agg ⟨z3⟩,iI 105]⟩,w6))
 (gAgg ⟨p1,0,none⟩ 16 w5 fun z4=>ck (List.length z4=16) (pAgg ⟨b,0,none⟩ z4 w5 fun w7=>gAgg ⟨b,0,none⟩ 16 w7 fun z5=>some (.tuple ⟨[.agg ⟨z5⟩,iI 0]⟩,w7))))):=kR
def Ac8:Cuts:=⟨2,[],[],[]⟩
def Av6:List Item:=A5 Tryz.f127
theorem Bt5 (f:Value) :
 xQ Ac8 C R S8 Tryz.f127 Av6 [(0,.slice s sn sc),(1,f)] h =
 bnd (C G0 [.slice s sn sc,f] h) fun r w=>aInt .i64 r fun x=>some (.bool (decide (x≥0)),w):=kR
def Bc8:Cuts:=⟨2,[],[],[]⟩
def B82:List Item:=A5 Tryz.f129
theorem El3 (put:Value) (get:Value) :
 xQ Bc8 C R As8 Tryz.f129 B82 [(0,iI size),(1,put),(2,get)] h =
 one put (one get (nw (.cells Bv0 false [iI (mm2 false (mm2 true size 0) 64),put,get]) h fun b w=>some (pP b,w))):=kR
def Bv2:Cuts:=⟨2,[(3,[0,2,4,31,32,33]),(8,[0,2,4,49])],[],[(1,⟨[0,1,2,3,4,5,6,7,8,9,10,11,12,13,14,15,16,17,18],[0,1,3,7,0,16,48,112,0,256,768,1792,0,4096,12288,28672,65535,0,262143],[],[]⟩),(13,⟨[0,1,2,3,4,5,6,7,8],[0,0,2,6,6,30,62,63,255],[(5,[0])],[]⟩)]⟩
def Df7:List Item:=A5 Tryz.f131
def Dc2:List Item:=stk [0,1,0,1,0,0,1,4,5] Df7
def Dd5:List Item:=stk [0,1,0,1,0,1,0,0,1,4,5] Df7
theorem Hn0 :
 xQ Bv2 C R Aa2 Tryz.f131 Df7 [(0,.slice b bn bc)] h =
 nw (.cells B2 false zZ1) h fun p1 w=>aSome b fun p=>ck ((0:Int)≤0∧0<(bn:Int)) (gInt .u8 (add (B1 p) (Int.toNat 0*1)) w fun x=>aSome b fun p_1=>ck ((0:Int)≤1∧1<(bn:Int)) (gInt .u8 (add (B1 p_1) (Int.toNat 1*1)) w fun z1=>aSome b fun p_2=>ck ((0:Int)≤2∧2<(bn:Int)) (gInt .u8 (add (B1 p_2) (Int.toNat 2*1)) w fun z2=>aSome b fun p_3=>ck ((0:Int)≤3∧3<(bn:Int)) (gInt .u8 (add (B1 p_3) (Int.toNat 3*1)) w fun z3=>nw (.cells B2 false zZ1) w fun p2 w1=>pAgg ⟨p2,0,none⟩ [iI (wrap .i64 (x)),iI (wrap .i64 (z1)),iI (wrap .i64 (z2)),iI (wrap .i64 (z3)),iI 0,iI 0,iI 0,iI 0,iI 0,iI 0,iI 0,iI 0,iI 0,iI 0,iI 0,iI 0] w1 fun w2=>nw (.cells Is4 false [.pointer (some ⟨p2,4,none⟩),.pointer (some ⟨p2,5,none⟩),.pointer (some ⟨p2,6,none⟩),.pointer (some ⟨p2,7,none⟩)]) w2 fun p3 w3=>R Aa2 Dc2 [(0,.slice b bn bc),(2,pP p1),(4,pP p2),(31,.slice (some ⟨p3,0,none⟩) 4 4),(32,iI 4),(33,iI 0)] w3)))):=kR
theorem Ba5 (p:Addr) (x31:Option Addr) (x31n x31c:Nat) (x32:Int) (x33:Int) :
 xQ Bv2 C R Aa2 Tryz.f131 Dc2 [(0,.slice b bn bc),(2,.pointer (some x2)),(4,.pointer (some p)),(31,.slice x31 x31n x31c),(32,iI x32),(33,iI x33)] h =
 cond (decide (x33<x32))
 (aSome x31 fun p_1=>ck ((0:Int)≤x33∧x33<(x31n:Int)) (gPtr (add (B1 p_1) (Int.toNat x33*1)) h fun x=>bnd (C B74 [.slice b bn bc,iI (wrap .i64 (4+(wrap .i64 (2*x33))))] h) fun r w=>as2 r fun q1 q2=>aInt .i64 q1 fun z1=>aBool q2 fun _=>aSome x fun p_2=>pV p_2 (iI z1) w fun w1=>R Aa2 Dc2 [(0,.slice b bn bc),(2,.pointer (some x2)),(4,.pointer (some p)),(31,.slice x31 x31n x31c),(32,iI x32),(33,iI (wrap .i64 (x33+1)))] w1))
 (R Aa2 Dd5 [(0,.slice b bn bc),(2,.pointer (some x2)),(4,.pointer (some p)),(49,iI 0)] h):=kR
theorem Aa4 (p:Addr) (x49:Int) :
 xQ Bv2 C R Aa2 Tryz.f131 Dd5 [(0,.slice b bn bc),(2,.pointer (some x2)),(4,.pointer (some p)),(49,iI x49)] h =
 cond (decide (x49<8))
 (aSome b fun p_1=>ck ((0:Int)≤wrap .i64 (12+x49)∧wrap .i64 (12+x49)<(bn:Int)) (gInt .u8 (add (B1 p_1) (Int.toNat (wrap .i64 (12+x49))*1)) h fun x=>ck ((0:Int)≤x49∧x49<((8:Nat):Int)) (pV (add (add p 8) (Int.toNat x49*1)) (iI (wrap .i64 (x))) h fun w=>R Aa2 Dd5 [(0,.slice b bn bc),(2,.pointer (some x2)),(4,.pointer (some p)),(49,iI (wrap .i64 (x49+1)))] w)))
 (gAgg p 16 h fun z1=>bnd (C Ba4 [.agg ⟨z1⟩] h) fun r w1=>as2 r fun q1 q2=>aSl q1 fun z2 xn xc=>aBool q2 fun z3=>gAgg p 16 w1 fun z4=>bnd (cond z3 (bnd (C D1 [.slice z2 xn xc,.slice b bn bc] w1) fun q3 w2=>aBool q3 fun z5=>gAgg p 16 w2 fun z6=>same (.agg ⟨z4⟩) (.agg ⟨z6⟩) (some (z5,w2))) (some (false,w1))) fun c w3=>ck (List.length z4=16) (pAgg x2 z4 w3 fun w4=>gAgg x2 16 w4 fun z7=>some (.tuple ⟨[.agg ⟨z7⟩,.bool c]⟩,w4))):=kR
def An2:Cuts:=⟨2,[],[],[]⟩
def Ba9:List Item:=A5 Tryz.f141
theorem Dh6 (v:Int) :
 xQ An2 C R O5 Tryz.f141 Ba9 [(0,.slice s sn sc),(1,iI v)] h =
 bnd (C I9 [.slice s sn sc,iI v] h) fun r w=>aInt .i64 r fun x=>some (.bool (decide (x≥0)),w):=kR
def By3:Cuts:=⟨2,[],[],[]⟩
def Dw6:List Item:=A5 Tryz.f142
theorem Gg3 (c:List Value) :
 xQ By3 C R Bc1 Tryz.f142 Dw6 [(0,.pointer s),(1,iI env),(2,.agg ⟨c⟩)] h =
 nw (.cells Q8 false c) h fun b w=>bnd (C Ai0 [.pointer s,iI env] w) fun r w1=>aBool r fun x=>bnd (cond (!x) (some (true,w1)) (gInt .i64 ⟨b,1,none⟩ w1 fun z1=>some ((J7 .i64 z1 7) != 0,w1))) fun c_1 w2=>bnd (cond c_1 (some (true,w2)) (gInt .i64 ⟨b,2,none⟩ w2 fun z2=>bnd (C An1 [iI z2] w2) fun q1 w3=>aBool q1 fun z3=>some (!z3,w3))) fun c_2 w4=>bnd (cond c_2 (some (true,w4)) (gInt .i64 ⟨b,3,none⟩ w4 fun z4=>bnd (C An1 [iI z4] w4) fun q2 w5=>aBool q2 fun z5=>some (!z5,w5))) fun c_3 w6=>cond c_3
 (some (.tuple ⟨[iI 0,iI 1]⟩,w6))
 (pAgg ⟨b,4,none⟩ [iI 0,iI 0] w6 fun w7=>gAgg ⟨b,0,none⟩ 6 w7 fun z6=>bnd (C Ay1 [.pointer s,iI env,.agg ⟨z6⟩] w7) fun q3 w8=>as2 q3 fun q4 q5=>aInt .i64 q4 fun z7=>aInt .i64 q5 fun z8=>some (.tuple ⟨[iI z7,iI z8]⟩,w8)):=kR
def Bi8:Cuts:=⟨2,[(3,[0,3,4])],[],[(5,⟨[0,1,2,3,4,5,6,7,8,9,10,11,12,13,14,15,16],[0,0,2,6,14,0,0,96,224,480,992,2016,4064,8190,16383,32767,65535],[],[]⟩)]⟩
def B50:List Item:=A5 Tryz.f143
def A14:List Item:=stk [0,1,0,1,0,0,1,4,5] B50
theorem Gj2 :
 xQ Bi8 C R Ac1 Tryz.f143 B50 [(0,.slice l ln lc)] h =
 nw (.cells Et9 false [.slice none 0 0]) h fun b w=>R Ac1 A14 [(0,.slice l ln lc),(3,pP b),(4,iI 0)] w:=kR
theorem Di6 (q:Addr) :
 xQ Bi8 C R Ac1 Tryz.f143 A14 [(0,.slice l ln lc),(3,.pointer (some q)),(4,iI i)] h =
 bnd (cond (decide (i<(ln:Int))) (some (decide (i<4),h)) (some (false,h))) fun c w=>cond c
 (gSl (add q 0) w fun x xn xc=>aSome l fun p=>ck ((0:Int)≤i∧i<(ln:Int)) (gInt .i64 (add (B1 p) (Int.toNat i*1)) w fun z1=>ck ((0:Int)≤mm2 false (mm2 true z1 0) 64∧(mm2 false (mm2 true z1 0) 64:Int)≤mm2 false (mm2 true z1 0) 64∧mm2 false (mm2 true z1 0) 64≤(A8:Int)) (nw (.cells Gp4 false (L8 (Int.toNat (mm2 false (mm2 true z1 0) 64)) [.bool false])) w fun b w1=>nw (.cells Dy6 false [.slice (some ⟨b,0,none⟩) (Int.toNat (mm2 false (mm2 true z1 0) 64)) (Int.toNat (mm2 false (mm2 true z1 0) 64))]) w1 fun p1 w2=>gCells (some ⟨p1,0,none⟩) (1*1) w2 fun cs=>ckB (fitsOpen x Dy6 w2) (apd Dy6 1 x xn xc 1 cs w2 fun a an ac w3=>pV (add q 0) (.slice a an ac) w3 fun w4=>R Ac1 A14 [(0,.slice l ln lc),(3,.pointer (some q)),(4,iI (wrap .i64 (i+1)))] w4))))
 (some (.pointer (some q),w)):=kR
def A26:Cuts:=⟨2,[(3,[0,1,5,6])],[],[]⟩
def Bn2:List Item:=A5 Tryz.f144
def Ap5:List Item:=stk [0,1,0,1,0,0,1,4,5] Bn2
theorem Et4 (s:Int) :
 xQ A26 C R P4 Tryz.f144 Bn2 [(0,.pointer q),(1,iI s)] h =
 R P4 Ap5 [(0,.pointer q),(1,iI s),(5,iI 0),(6,iI 0)] h:=kR
theorem B21 (s:Int) :
 xQ A26 C R P4 Tryz.f144 Ap5 [(0,.pointer q),(1,iI s),(5,iI n),(6,iI i)] h =
 cond (decide (i<s))
 (aSome q fun p=>gSl (add p 0) h fun x xn _=>aSome x fun p_1=>ck ((0:Int)≤i∧i<(xn:Int)) (gSl (add (B1 p_1) (Int.toNat i*1)) h fun _ xn_1 _=>R P4 Ap5 [(0,.pointer q),(1,iI s),(5,iI (wrap .i64 (n+(xn_1:Int)))),(6,iI (wrap .i64 (i+1)))] h))
 (some (iI n,h)):=kR
def Ba3:Cuts:=⟨2,[],[],[]⟩
def B10:List Item:=A5 Tryz.f150
theorem Eb9 (r:Option Addr) :
 xQ Ba3 C R Ae6 Tryz.f150 B10 [(0,.pointer r),(1,iI env),(2,iI name),(3,iI atv),(4,iI n)] h =
 bnd (C Ac4 [.pointer r,iI env,iI name,iI 1,iI atv,iI n] h) fun q1 w=>as2 q1 fun q2 q3=>aInt .i64 q2 fun x=>aInt .i64 q3 fun z1=>cond (z1 != 0)
 (some (.tuple ⟨[.slice none 0 0,iI z1]⟩,w))
 (aSome r fun p=>gPtr (add p 0) w fun z2=>bnd (C Bo6 [.pointer z2,iI x,iI n] w) fun q4 w1=>as2 q4 fun q5 q6=>aSl q5 fun z3 xn xc=>aInt .i64 q6 fun z4=>some (.tuple ⟨[.slice z3 xn xc,iI z4]⟩,w1)):=kR
def Br8:Cuts:=⟨2,[],[],[]⟩
def Do2:List Item:=A5 Tryz.f157
theorem E71 (c:List Value) :
 xQ Br8 C R A66 Tryz.f157 Do2 [(0,.pointer k),(1,iI env),(2,.agg ⟨c⟩)] h =
 nw (.cells A29 false c) h fun b w=>gInt .i64 ⟨b,3,none⟩ w fun x=>bnd (C Aw8 [.pointer k,iI env,iI x] w) fun r w1=>as2 r fun q1 q2=>aPtr q1 fun z1=>aInt .i64 q2 fun z2=>cond (z2 != 0)
 (some (.tuple ⟨[iI 0,iI z2]⟩,w1))
 (aSome k fun p=>gInt .i64 (add p 7) w1 fun z3=>bnd (C B7 [.pointer z1,iI env,iI z3] w1) fun q3 w2=>as2 q3 fun q4 q5=>aInt .i64 q4 fun z4=>aBool q5 fun _=>some (.tuple ⟨[iI z4,iI 0]⟩,w2)):=kR
def B06:Cuts:=⟨2,[],[],[]⟩
def Dt6:List Item:=A5 Tryz.f160
theorem Gh3 :
 xQ B06 C R Be2 Tryz.f160 Dt6 [(0,.pointer s),(1,iI e),(2,iI name)] h =
 nw (.cells Q8 false [iI 0,iI 0,iI 0,iI 0,iI 0,iI 0]) h fun b w=>bnd (C Am3 [.pointer s,iI e] w) fun r w1=>aBool r fun x=>bnd (cond (!x) (some (true,w1)) (aSome s fun p=>gSl (add p 0) w1 fun z1 xn _=>aSome z1 fun p_1=>ck ((0:Int)≤e∧e<(xn:Int)) (gPtr (add (B1 p_1) (Int.toNat e*1)) w1 fun z2=>bnd (C Bc4 [.pointer z2,iI name] w1) fun q1 w2=>aBool q1 fun z3=>some (!z3,w2)))) fun c w3=>cond c
 (pAgg ⟨b,0,none⟩ [iI 0,iI 0,iI 0,iI 0,iI 0,iI 0] w3 fun w4=>gAgg ⟨b,0,none⟩ 6 w4 fun z4=>some (.tuple ⟨[.agg ⟨z4⟩,iI 2]⟩,w4))
 (aSome s fun p_2=>gSl (add p_2 1) w3 fun z5 xn_1 _=>aSome z5 fun p_3=>ck ((0:Int)≤e∧e<(xn_1:Int)) (gSl (add (B1 p_3) (Int.toNat e*1)) w3 fun z6 xn_2 _=>aSome z6 fun p_4=>ck ((0:Int)≤D2 .i64 name 255∧D2 .i64 name 255<(xn_2:Int)) (gAgg (add (B1 p_4) (Int.toNat (D2 .i64 name 255)*6)) 6 w3 fun z7=>ck (List.length z7=6) (pAgg ⟨b,0,none⟩ z7 w3 fun w5=>gAgg ⟨b,0,none⟩ 6 w5 fun z8=>some (.tuple ⟨[.agg ⟨z8⟩,iI 0]⟩,w5))))):=kR
def Bd1:Cuts:=⟨2,[(3,[0,3,4])],[],[]⟩
def Bx4:List Item:=A5 Tryz.f170
def Ak7:List Item:=stk [0,1,0,1,0,0,1,4,5] Bx4
theorem Gc1 (n:Option Addr) :
 xQ Bd1 C R V3 Tryz.f170 Bx4 [(0,.pointer n)] h =
 R V3 Ak7 [(0,.pointer n),(3,.slice none 0 0),(4,iI 0)] h:=kR
theorem Da2 (n:Option Addr) :
 xQ Bd1 C R V3 Tryz.f170 Ak7 [(0,.pointer n),(3,.slice out outn outc),(4,iI i)] h =
 aSome n fun p=>gSl (add p 0) h fun _ xn _=>cond (decide (i<(xn:Int)))
 (aSome n fun p_1=>gSl (add p_1 0) h fun z1 xn_1 _=>aSome z1 fun p_2=>ck ((0:Int)≤i∧i<(xn_1:Int)) (gBool (add (add (B1 p_2) (Int.toNat i*2)) 1) h fun z2=>cond z2
 (aSome n fun p_3=>gSl (add p_3 0) h fun z3 xn_2 _=>aSome z3 fun p_4=>ck ((0:Int)≤i∧i<(xn_2:Int)) (gInt .i64 (add (add (B1 p_4) (Int.toNat i*2)) 0) h fun z4=>nw (.cells B3 false [iI (wrap .i64 (i+(wrap .i64 (256*z4))))]) h fun b w=>gCells (some ⟨b,0,none⟩) (1*1) w fun cs=>ckB (fitsOpen out B3 w) (apd B3 1 out outn outc 1 cs w fun a an ac w1=>R V3 Ak7 [(0,.pointer n),(3,.slice a an ac),(4,iI (wrap .i64 (i+1)))] w1)))
 (R V3 Ak7 [(0,.pointer n),(3,.slice out outn outc),(4,iI (wrap .i64 (i+1)))] h)))
 (some (.slice out outn outc,h)):=kR
def Dt5:Cuts:=⟨2,[],[],[]⟩
def Ez2:List Item:=A5 Tryz.f173
theorem He7 :
 xQ Dt5 C R Bm7 Tryz.f173 Ez2 [] h =
 bnd (C At2 [iI 40,.func (.func Bp4) ⟨[]⟩ ⟨[]⟩,.func (.func Bn7) ⟨[]⟩ ⟨[]⟩] h) fun r w=>aPtr r fun x=>some (.pointer x,w):=kR
def Aj8:Cuts:=⟨2,[],[],[(2,⟨[0,1,2,3,4,5,6,7,8,9,10,11,12,13,14],[0,1,3,7,15,31,63,127,255,511,63,63,4095,8191,16383],[],[]⟩)]⟩
def A55:List Item:=A5 Tryz.f203
theorem B98 (v:List Value) :
 xQ Aj8 C R Z2 Tryz.f203 A55 [(0,.pointer c),(1,.agg ⟨v⟩)] h =
 nw (.cells B2 false v) h fun b w=>aSome c fun p=>gInt .i64 (add p 0) w fun x=>ck ((0:Int)≤x∧(x:Int)≤x∧x≤(A8:Int)) (nw (.cells A4 false (L8 (Int.toNat x) [.int .u8 0])) w fun p1 w1=>aSome c fun p_1=>gFv (add p_1 1) w1 fun z1=>isNilF z1 fun p2=>bnd (cond p2 (some (true,w1)) (aSome c fun p_2=>gFv (add p_2 1) w1 fun z2=>gAgg ⟨b,0,none⟩ 16 w1 fun z3=>aFn z2 fun g fi cp=>bnd (C g (fi++([.agg ⟨z3⟩,.slice (some ⟨p1,0,none⟩) (Int.toNat x) (Int.toNat x)]++cp)) w1) fun r w2=>aBool r fun z4=>some (!z4,w2))) fun c_1 w3=>cond c_1
 (some (.tuple ⟨[.slice none 0 0,.bool false]⟩,w3))
 (some (.tuple ⟨[.slice (some ⟨p1,0,none⟩) (Int.toNat x) (Int.toNat x),.bool true]⟩,w3))):=kR
def W9:Cuts:=⟨2,[(2,[0,1,7,8])],[],[]⟩
def Ag7:List Item:=A5 Tryz.f208
def S7:List Item:=stk [0,1,0,0,1,4,5] Ag7
theorem B51 (f:Value) :
 xQ W9 C R G0 Tryz.f208 Ag7 [(0,.slice s sn sc),(1,f)] h =
 R G0 S7 [(0,.slice s sn sc),(1,f),(7,iI (sn:Int)),(8,iI 0)] h:=kR
theorem Av0 (f:Value) (x7:Int) (x8:Int) :
 xQ W9 C R G0 Tryz.f208 S7 [(0,.slice s sn sc),(1,f),(7,iI x7),(8,iI x8)] h =
 cond (decide (x8<x7))
 (aSome s fun p=>ck ((0:Int)≤x8∧x8<(sn:Int)) (gInt .u8 (add (B1 p) (Int.toNat x8*1)) h fun x=>aFn f fun g fi cp=>bnd (C g (fi++([.int .u8 x]++cp)) h) fun r w=>aBool r fun z1=>cond z1
 (some (iI x8,w))
 (R G0 S7 [(0,.slice s sn sc),(1,f),(7,iI x7),(8,iI (wrap .i64 (x8+1)))] w)))
 (some (iI (-1),h)):=kR
def Du0:Cuts:=⟨2,[],[],[]⟩
def Eu4:List Item:=A5 Tryz.f210
theorem Hb1 :
 xQ Du0 C R Bn3 Tryz.f210 Eu4 [(0,.slice b bn bc),(1,iI atv),(2,iI n)] h =
 bnd (cond (decide (atv<0)) (some (true,h)) (some (decide (atv>(wrap .i64 ((bn:Int)-2))),h))) fun c w=>bnd (cond c (some (true,w)) (some (decide (n<0),w))) fun c_1 w1=>bnd (cond c_1 (some (true,w1)) (some (decide (n>65535),w1))) fun c_2 w2=>cond c_2
 (some (.bool false,w2))
 (aSome b fun p=>ck ((0:Int)≤atv∧atv<(bn:Int)) (pV (add (B1 p) (Int.toNat atv*1)) (.int .u8 (wrap .u8 (Int.fdiv n (2 ^ 8)))) w2 fun w3=>aSome b fun p_1=>ck ((0:Int)≤wrap .i64 (atv+1)∧wrap .i64 (atv+1)<(bn:Int)) (pV (add (B1 p_1) (Int.toNat (wrap .i64 (atv+1))*1)) (.int .u8 (wrap .u8 (n))) w3 fun w4=>some (.bool true,w4)))):=kR
def Dw0:Cuts:=⟨2,[],[],[(3,⟨[0,1,2,3,4,5,6,7,8,9,10,11,12,13,14],[0,0,3,7,15,31,0,0,128,448,960,1984,4095,8191,16383],[],[]⟩)]⟩
def Et5:List Item:=A5 Tryz.f212
theorem Hi1 :
 xQ Dw0 C R B74 Tryz.f212 Et5 [(0,.slice b bn bc),(1,iI atv)] h =
 bnd (cond (decide (atv<0)) (some (true,h)) (some (decide (atv>(wrap .i64 ((bn:Int)-2))),h))) fun c w=>cond c
 (some (.tuple ⟨[iI 0,.bool false]⟩,w))
 (aSome b fun p=>ck ((0:Int)≤atv∧atv<(bn:Int)) (gInt .u8 (add (B1 p) (Int.toNat atv*1)) w fun x=>aSome b fun p_1=>ck ((0:Int)≤wrap .i64 (atv+1)∧wrap .i64 (atv+1)<(bn:Int)) (gInt .u8 (add (B1 p_1) (Int.toNat (wrap .i64 (atv+1))*1)) w fun z1=>some (.tuple ⟨[iI (Bb7 .i64 (wrap .i64 ((wrap .i64 (x))*2 ^ 8)) (wrap .i64 (z1))),.bool true]⟩,w)))):=kR
def Az2:Cuts:=⟨2,[(3,[3,15,16])],[],[]⟩
def Bh5:List Item:=A5 Tryz.f217
def Am9:List Item:=stk [0,1,0,1,0,0,1,4,5] Bh5
theorem Er2 :
 xQ Az2 C R Q7 Tryz.f217 Bh5 [(0,iI size)] h =
 ck ((0:Int)≤mm2 false (mm2 true size 0) 256∧(mm2 false (mm2 true size 0) 256:Int)≤mm2 false (mm2 true size 0) 256∧mm2 false (mm2 true size 0) 256≤(A8:Int)) (nw (.cells Ap1 false (L8 (Int.toNat (mm2 false (mm2 true size 0) 256)) [iI 0,iI 0,iI 0,iI 0,iI 0,iI 0,iI 0,.bool false])) h fun b w=>nw (.cells B19 false [.slice (some ⟨b,0,none⟩) (Int.toNat (mm2 false (mm2 true size 0) 256)) (Int.toNat (mm2 false (mm2 true size 0) 256))]) w fun p1 w1=>gSl ⟨p1,0,none⟩ w1 fun _ xn _=>R Q7 Am9 [(3,pP p1),(15,iI (xn:Int)),(16,iI 0)] w1):=kR
theorem Bt9 (t:Addr) (x16:Int) :
 xQ Az2 C R Q7 Tryz.f217 Am9 [(3,.pointer (some t)),(15,iI x15),(16,iI x16)] h =
 cond (decide (x16<x15))
 (gSl (add t 0) h fun x xn _=>aSome x fun p=>ck ((0:Int)≤x16∧x16<(xn:Int)) (pV (add (add (B1 p) (Int.toNat x16*8)) 6) (iI 1) h fun w=>R Q7 Am9 [(3,.pointer (some t)),(15,iI x15),(16,iI (wrap .i64 (x16+1)))] w))
 (some (.pointer (some t),h)):=kR
def A46:Cuts:=⟨2,[],[],[(6,⟨[0,1,2,3,4,5,6,7,8,9,10,11,12,13,14,15,16,17,18,19,20,21,22,23,24,25,26,27,28,29,30,31,32,33,34,35],[0,1,3,7,15,31,63,127,127,383,1023,2047,4095,8191,8191,24575,8191,122879,262143,524287,1048575,2097151,4194303,8388607,16777215,33554431,67108863,134217727,67108863,335544319,872415231,1946157055,4093640703,8589934591,17179869183,34359738367],[],[]⟩),(8,⟨[0,1,2,3,4,5,6,7,8,9],[0,1,3,7,0,16,63,127,0,511],[],[]⟩)]⟩
def Bt8:List Item:=A5 Tryz.f222
theorem D91 (r:Option Addr) (right:Int) :
 xQ A46 C R Ac4 Tryz.f222 Bt8 [(0,.pointer r),(1,iI env),(2,iI name),(3,iI right),(4,iI atv),(5,iI n)] h =
 aSome r fun p=>gPtr (add p 1) h fun x=>bnd (C Ay2 [.pointer x,iI env,iI name] h) fun q1 w=>as2 q1 fun q2 q3=>aAgg q2 fun z1=>aInt .i64 q3 fun z2=>nw (.cells Q8 false [iI 0,iI 0,iI 0,iI 0,iI 0,iI 0]) w fun b w1=>ck (List.length z1=6) (pAgg ⟨b,0,none⟩ z1 w1 fun w2=>cond (z2 != 0)
 (some (.tuple ⟨[iI 0,iI z2]⟩,w2))
 (gInt .i64 ⟨b,1,none⟩ w2 fun z3=>cond ((D2 .i64 z3 right)==0)
 (some (.tuple ⟨[iI 0,iI 3]⟩,w2))
 (bnd (cond (decide (atv<0)) (some (true,w2)) (some (decide (n<0),w2))) fun c w3=>bnd (cond c (some (true,w3)) (gInt .i64 ⟨b,3,none⟩ w3 fun z4=>some (decide (atv>z4),w3))) fun c_1 w4=>bnd (cond c_1 (some (true,w4)) (gInt .i64 ⟨b,3,none⟩ w4 fun z5=>some (decide (n>(wrap .i64 (z5-atv))),w4))) fun c_2 w5=>bnd (cond c_2 (some (true,w5)) (gInt .i64 ⟨b,0,none⟩ w5 fun z6=>some (decide (z6<0),w5))) fun c_3 w6=>bnd (cond c_3 (some (true,w6)) (gInt .i64 ⟨b,0,none⟩ w6 fun z7=>aSome r fun p_1=>gSl (add p_1 2) w6 fun _ xn _=>some (decide (z7≥(xn:Int)),w6))) fun c_4 w7=>cond c_4
 (some (.tuple ⟨[iI 0,iI 1]⟩,w7))
 (aSome r fun p_2=>gSl (add p_2 2) w7 fun z9 xn_1 _=>gInt .i64 ⟨b,0,none⟩ w7 fun z10=>aSome z9 fun p_3=>ck ((0:Int)≤z10∧z10<(xn_1:Int)) (gAgg (add (B1 p_3) (Int.toNat z10*2)) 2 w7 fun z11=>nw (.cells A03 false [iI 0,iI 0]) w7 fun p1 w8=>ck (List.length z11=2) (pAgg ⟨p1,0,none⟩ z11 w8 fun w9=>gInt .i64 ⟨b,2,none⟩ w9 fun z12=>gInt .i64 ⟨p1,1,none⟩ w9 fun z13=>bnd (cond (decide ((wrap .i64 (z12+atv))>z13)) (some (true,w9)) (gInt .i64 ⟨p1,1,none⟩ w9 fun z14=>gInt .i64 ⟨b,2,none⟩ w9 fun z15=>some (decide (n>(wrap .i64 ((wrap .i64 (z14-z15))-atv))),w9))) fun c_5 w10=>cond c_5
 (some (.tuple ⟨[iI 0,iI 1]⟩,w10))
 (gInt .i64 ⟨p1,0,none⟩ w10 fun z16=>gInt .i64 ⟨b,2,none⟩ w10 fun z17=>some (.tuple ⟨[iI (wrap .i64 ((wrap .i64 (z16+z17))+atv)),iI 0]⟩,w10)))))))):=kR
def Dd2:Cuts:=⟨2,[],[],[]⟩
def Ea5:List Item:=A5 Tryz.f223
theorem Gv5 :
 xQ Dd2 C R Bo6 Tryz.f223 Ea5 [(0,.pointer m),(1,iI atv),(2,iI n)] h =
 bnd (C Bk8 [.pointer m,iI atv,iI n] h) fun r w=>aBool r fun x=>cond (!x)
 (some (.tuple ⟨[.slice none 0 0,iI 1]⟩,w))
 (aSome m fun p=>gSl (add p 0) w fun z1 _ xc=>ckB (fitsOpen z1 A4 w) (ck ((0:Int)≤wrap .i64 (atv+n)∧wrap .i64 (atv+n)≤(xc:Int)) (ck ((0:Int)≤atv∧atv≤((Int.toNat (wrap .i64 (atv+n)):Nat):Int)) (bnd (C E3 [.slice (L5 z1 (decide (Int.toNat atv<xc)) ((Int.toNat atv)*1)) ((Int.toNat (wrap .i64 (atv+n)))-(Int.toNat atv)) (xc-(Int.toNat atv))] w) fun q1 w1=>aSl q1 fun z2 xn_1 xc_1=>some (.tuple ⟨[.slice z2 xn_1 xc_1,iI 0]⟩,w1))))):=kR
def B07:Cuts:=⟨2,[],[],[]⟩
def Dy7:List Item:=A5 Tryz.f225
theorem Gd7 :
 xQ B07 C R Ay2 Tryz.f225 Dy7 [(0,.pointer s),(1,iI env),(2,iI name)] h =
 nw (.cells Q8 false [iI 0,iI 0,iI 0,iI 0,iI 0,iI 0]) h fun b w=>bnd (C Ai0 [.pointer s,iI env] w) fun r w1=>aBool r fun x=>cond (!x)
 (pAgg ⟨b,0,none⟩ [iI 0,iI 0,iI 0,iI 0,iI 0,iI 0] w1 fun w2=>gAgg ⟨b,0,none⟩ 6 w2 fun z1=>some (.tuple ⟨[.agg ⟨z1⟩,iI 2]⟩,w2))
 (aSome s fun p=>gSl (add p 0) w1 fun z2 xn _=>aSome z2 fun p_1=>ck ((0:Int)≤env∧env<(xn:Int)) (gPtr (add (B1 p_1) (Int.toNat env*1)) w1 fun z3=>bnd (C Ag4 [.pointer z3,iI name] w1) fun q1 w3=>as2 q1 fun q2 q3=>aAgg q2 fun z4=>aBool q3 fun z5=>nw (.cells Q8 false [iI 0,iI 0,iI 0,iI 0,iI 0,iI 0]) w3 fun p1 w4=>ck (List.length z4=6) (pAgg ⟨p1,0,none⟩ z4 w4 fun w5=>cond (!z5)
 (pAgg ⟨b,0,none⟩ [iI 0,iI 0,iI 0,iI 0,iI 0,iI 0] w5 fun w6=>gAgg ⟨b,0,none⟩ 6 w6 fun z6=>some (.tuple ⟨[.agg ⟨z6⟩,iI 2]⟩,w6))
 (gAgg ⟨p1,0,none⟩ 6 w5 fun z7=>ck (List.length z7=6) (pAgg ⟨b,0,none⟩ z7 w5 fun w7=>gAgg ⟨b,0,none⟩ 6 w7 fun z8=>some (.tuple ⟨[.agg ⟨z8⟩,iI 0]⟩,w7)))))):=kR
def Bz3:Cuts:=⟨2,[],[],[]⟩
def Ds6:List Item:=A5 Tryz.f228
theorem Gi1 (s:Int) :
 xQ Bz3 C R Al4 Tryz.f228 Ds6 [(0,.pointer q),(1,iI s)] h =
 bnd (cond (decide (s≥0)) (aSome q fun p=>gSl (add p 0) h fun _ xn _=>some (decide (s<(xn:Int)),h)) (some (false,h))) fun c w=>some (.bool c,w):=kR
def Bz6:Cuts:=⟨2,[],[],[]⟩
def Du7:List Item:=A5 Tryz.f233
theorem Gc5 (n:Option Addr) :
 xQ Bz6 C R Bc4 Tryz.f233 Du7 [(0,.pointer n),(1,iI name)] h =
 bnd (cond (decide (name≥0)) (aSome n fun p=>gSl (add p 0) h fun _ xn _=>some (decide ((D2 .i64 name 255)<(xn:Int)),h)) (some (false,h))) fun c w=>bnd (cond c (aSome n fun p_1=>gSl (add p_1 0) w fun z1 xn_1 _=>aSome z1 fun p_2=>ck ((0:Int)≤D2 .i64 name 255∧D2 .i64 name 255<(xn_1:Int)) (gBool (add (add (B1 p_2) (Int.toNat (D2 .i64 name 255)*2)) 1) w fun z2=>some (z2,w))) (some (false,w))) fun c_1 w1=>bnd (cond c_1 (aSome n fun p_3=>gSl (add p_3 0) w1 fun z3 xn_2 _=>aSome z3 fun p_4=>ck ((0:Int)≤D2 .i64 name 255∧D2 .i64 name 255<(xn_2:Int)) (gInt .i64 (add (add (B1 p_4) (Int.toNat (D2 .i64 name 255)*2)) 0) w1 fun z4=>some (z4==(Int.fdiv name (2 ^ 8)),w1))) (some (false,w1))) fun c_2 w2=>some (.bool c_2,w2):=kR
def Ek3:Cuts:=⟨2,[],[],[(1,⟨[0,1,2,3,4,5,6,7,8,9,10,11,12,13,14,15,16,17,18],[0,1,3,7,0,16,48,112,0,256,768,1792,0,4096,12288,28672,65535,0,262143],[],[]⟩),(2,⟨[0,1,2,3,4],[0,1,0,4,15],[],[]⟩),(4,⟨[0,1,2,3,4,5,6,7,8],[0,0,2,6,6,30,62,63,255],[(5,[0])],[]⟩)]⟩
def Gq1:List Item:=A5 Tryz.f242
theorem H11 :
 xQ Ek3 C R Bn7 Tryz.f242 Gq1 [(0,.slice b bn bc)] h =
 nw (.cells O3 false zZ2) h fun p1 w=>aSome b fun p=>ck ((0:Int)≤1∧1<(bn:Int)) (gInt .u8 (add (B1 p) (Int.toNat 1*1)) w fun x=>aSome b fun p_1=>ck ((0:Int)≤2∧2<(bn:Int)) (gInt .u8 (add (B1 p_1) (Int.toNat 2*1)) w fun z1=>aSome b fun p_2=>ck ((0:Int)≤3∧3<(bn:Int)) (gInt .u8 (add (B1 p_2) (Int.toNat 3*1)) w fun z2=>aSome b fun p_3=>ck ((0:Int)≤4∧4<(bn:Int)) (gInt .u8 (add (B1 p_3) (Int.toNat 4*1)) w fun z3=>nw (.cells O3 false zZ2) w fun p2 w1=>pAgg ⟨p2,0,none⟩ [iI (wrap .i64 (x)),iI (wrap .i64 (z1)),iI (wrap .i64 (z2)),iI (wrap .i64 (z3)),.int .u8 0,.int .u8 0,.int .u8 0,.int .u8 0,.int .u8 0,.int .u8 0,.int .u8 0,.int .u8 0,.int .u8 0,.int .u8 0,.int .u8 0,.int .u8 0,.int .u8 0,.int .u8 0,.int .u8 0,.int .u8 0,.int .u8 0,.int .u8 0,.int .u8 0,.int .u8 0,.int .u8 0,.int .u8 0,.int .u8 0,.int .u8 0,.int .u8 0,.int .u8 0,.int .u8 0,.int .u8 0,.int .u8 0,.int .u8 0,.int .u8 0,.int .u8 0] w1 fun w2=>ckB (liveA ⟨p2,4,none⟩ w2) (ckB (fitsOpen b A4 w2) (ck ((0:Int)≤8∧8≤(bn:Int)) (gCells (L5 b (decide (Int.toNat 8<bc)) ((Int.toNat 8)*1)) (min (bn-(Int.toNat 8)) (32-0)*1) w2 fun cs=>pCells (L5 (some ⟨p2,4,none⟩) (decide (0<32)) (0*1)) cs w2 fun w3=>gAgg ⟨p2,0,none⟩ 36 w3 fun z4=>bnd (C Bv9 [.agg ⟨z4⟩] w3) fun r w4=>as2 r fun q1 q2=>aSl q1 fun z5 xn xc=>aBool q2 fun z6=>gAgg ⟨p2,0,none⟩ 36 w4 fun z7=>bnd (cond z6 (bnd (C D1 [.slice z5 xn xc,.slice b bn bc] w4) fun q3 w5=>aBool q3 fun z8=>gAgg ⟨p2,0,none⟩ 36 w5 fun z9=>same (.agg ⟨z7⟩) (.agg ⟨z9⟩) (some (z8,w5))) (some (false,w4))) fun c w6=>ck (List.length z7=36) (pAgg ⟨p1,0,none⟩ z7 w6 fun w7=>gAgg ⟨p1,0,none⟩ 36 w7 fun z10=>some (.tuple ⟨[.agg ⟨z10⟩,.bool c]⟩,w7))))))))):=kR
def Bx8:Cuts:=⟨2,[],[],[]⟩
def Dx1:List Item:=A5 Tryz.f261
theorem Gc7 (x:List Value) :
 xQ Bx8 C R Ax7 Tryz.f261 Dx1 [(0,.agg ⟨x⟩),(1,.pointer (some fv0))] h =
 nw (.cells N6 false x) h fun b w=>gAgg ⟨b,0,none⟩ 17 w fun z1=>bnd (C A73 [.agg ⟨z1⟩] w) fun r w1=>aBool r fun z2=>bnd (cond z2 (gInt .i64 ⟨b,3,none⟩ w1 fun z3=>gInt .i64 fv0 w1 fun z4=>some (z3==(wrap .i64 (z4-8)),w1)) (some (false,w1))) fun c w2=>some (.bool c,w2):=kR
def Dt4:Cuts:=⟨2,[],[],[]⟩
def Ev5:List Item:=A5 Tryz.f269
theorem Hh4 (without:Int) :
 xQ Dt4 C R An5 Tryz.f269 Ev5 [(0,iI n),(1,iI without)] h =
 bnd (cond ((J7 .i64 n 65534)==0) (some ((D2 .i64 n without)==0,h)) (some (false,h))) fun c w=>some (.bool c,w):=kR
def Dt3:Cuts:=⟨2,[],[],[]⟩
def Ex3:List Item:=A5 Tryz.f270
theorem Hi9 (f:Int) :
 xQ Dt3 C R Bm4 Tryz.f270 Ex3 [(0,iI f)] h =
 bnd (cond (decide (f<0)) (some (true,h)) (some (decide (f>12),h))) fun c w=>some (.bool c,w):=kR
def De5:Cuts:=⟨2,[],[],[(1,⟨[1,0,2,3,4,5,6],[0,0,3,7,7,31,63],[(0,[1])],[]⟩)]⟩
def Eb4:List Item:=A5 Tryz.f279
theorem Gu8 :
 xQ De5 C R A91 Tryz.f279 Eb4 [(0,.agg ⟨f⟩)] h =
 nw (.cells N1 false f) h fun b w=>gAgg ⟨b,0,none⟩ 4 w fun x=>bnd (C Bf7 [] w) fun r w1=>aPtr r fun z1=>gAgg ⟨b,0,none⟩ 4 w1 fun z2=>same (.agg ⟨x⟩) (.agg ⟨z2⟩) (bnd (C Y7 [.pointer z1,.agg ⟨x⟩] w1) fun q1 w2=>as2 q1 fun q2 q3=>aSl q2 fun z3 xn xc=>aBool q3 fun z4=>some (.tuple ⟨[.slice z3 xn xc,.bool z4]⟩,w2)):=kR
def D73:Cuts:=⟨2,[],[],[]⟩
def Gb0:List Item:=A5 Tryz.f291
theorem Hu0 (A8:Int) :
 xQ D73 C R Av2 Tryz.f291 Gb0 [(0,iI n),(1,iI A8)] h =
 bnd (cond (decide (n≥0)) (some (decide (n≤A8),h)) (some (false,h))) fun c w=>some (.bool c,w):=kR
end
end Go.EQ

set_option maxRecDepth 100000
namespace Go.EQ
open Go Go.NN Go.Proofs
open Go.IntKind (wrap)
open Go.Addr (add)
variable (C:D3) (R:Aa7) (dov fv0 hs k v x4:Addr) (h:H) (a atv done e env fd first g hi how i j lo n name root stamp to who x13 x59 x7 x8 x90 x91:Int) (f p x:List Value) (bc bn datac datan sc sn x89c x89n:Nat) (b c data m r s t w x89:Option Addr) (cmp:Value)
noncomputable section
def A93:Cuts:=⟨2,[],[],[(1,⟨[0,1,2,3,4,5,6],[0,0,3,7,0,31,63],[],[]⟩)]⟩
def B16:List Item:=A5 Tryz.f8
theorem Eb8 (s:List Value) :
 xQ A93 C R E7 Tryz.f8 B16 [(0,iI i),(1,.agg ⟨s⟩),(2,.pointer (some fv0))] h =
 nw (.cells Di8 false s) h fun b w=>nw (.cells Z7 false [iI 0,iI 0,iI 0,iI 0,iI 0,.slice none 0 0,iI 0,iI 0,.slice none 0 0,.bool false,.slice none 0 0,iI 0]) w fun p1 w1=>gSl fv0 w1 fun x xn _=>aSome x fun p=>ck ((0:Int)≤i∧i<(xn:Int)) (gPtr (add (B1 p) (Int.toNat i*1)) w1 fun z1=>gAgg ⟨b,0,none⟩ 4 w1 fun z2=>bnd (C Q9 [.pointer z1,.agg ⟨z2⟩] w1) fun r w2=>aBool r fun z3=>cond (!z3)
 (pAgg ⟨p1,0,none⟩ [iI 0,iI 0,iI 0,iI 0,iI 0,.slice none 0 0,iI 0,iI 0,.slice none 0 0,.bool false,.slice none 0 0,iI 0] w2 fun w3=>gAgg ⟨p1,0,none⟩ 12 w3 fun z4=>some (.tuple ⟨[.agg ⟨z4⟩,.bool false]⟩,w3))
 (gSl fv0 w2 fun z5 xn_1 _=>aSome z5 fun p_1=>ck ((0:Int)≤i∧i<(xn_1:Int)) (gPtr (add (B1 p_1) (Int.toNat i*1)) w2 fun z6=>bnd (C D6 [.pointer z6] w2) fun q1 w4=>as2 q1 fun q2 q3=>aAgg q2 fun _=>aBool q3 fun _=>gSl fv0 w4 fun z9 xn_2 _=>aSome z9 fun p_2=>ck ((0:Int)≤i∧i<(xn_2:Int)) (gPtr (add (B1 p_2) (Int.toNat i*1)) w4 fun z10=>bnd (C D6 [.pointer z10] w4) fun q4 w5=>as2 q4 fun q5 q6=>aAgg q5 fun z11=>aBool q6 fun z12=>ck (List.length z11=12) (pAgg ⟨p1,0,none⟩ z11 w5 fun w6=>gAgg ⟨p1,0,none⟩ 12 w6 fun z13=>some (.tuple ⟨[.agg ⟨z13⟩,.bool z12]⟩,w6)))))):=kR
def Bs6:Cuts:=⟨2,[],[],[(4,⟨[0,1,2,3,4,5,6,7,12,8,9,10,11,13,14],[0,1,3,7,0,16,48,112,255,511,1023,1023,0,6143,16383],[],[]⟩),(8,⟨[0,1,2,3,4,5,6,7,8],[0,0,0,1,9,25,63,127,255],[(5,[2])],[]⟩)]⟩
def Dm6:List Item:=A5 Tryz.f9
theorem Bq8 (s:List Value) :
 xQ Bs6 C R Q9 Tryz.f9 Dm6 [(0,.pointer w),(1,.agg ⟨s⟩)] h =
 nw (.cells Di8 false s) h fun b w1=>aSome w fun p=>gPtr (add p 4) w1 fun x=>bnd (C B8 [.pointer x] w1) fun r w2=>as0 r (aSome w fun p_1=>gInt .i64 (add p_1 5) w2 fun z1=>cond (z1 != 0)
 (some (.bool false,w2))
 (aSome w fun p_2=>gPtr (add p_2 4) w2 fun z2=>aSome w fun p_3=>gInt .i64 (add p_3 2) w2 fun z3=>nw (.cells B2 false zZ1) w2 fun p1 w3=>bnd (C E2 [.pointer z2,iI z3] w3) fun q1 w4=>as2 q1 fun q2 q3=>aAgg q2 fun z4=>aInt .i64 q3 fun z5=>ck (List.length z4=16) (pAgg ⟨p1,0,none⟩ z4 w4 fun w5=>bnd (cond (z5 != 1) (some (true,w5)) (gInt .i64 ⟨p1,0,none⟩ w5 fun z6=>some (z6==2,w5))) fun c w6=>cond c
 (some (.bool false,w6))
 (gSl ⟨b,3,none⟩ w6 fun z7 xn xc=>bnd (C E3 [.slice z7 xn xc] w6) fun q4 w7=>aSl q4 fun z8 xn_1 xc_1=>pV ⟨b,3,none⟩ (.slice z8 xn_1 xc_1) w7 fun w8=>gAgg ⟨b,0,none⟩ 4 w8 fun z9=>aSome w fun p_4=>pV (add p_4 5) (iI 1) w8 fun w9=>gAgg ⟨b,0,none⟩ 4 w9 fun z10=>same (.agg ⟨z9⟩) (.agg ⟨z10⟩) (aSome w fun p_5=>ck (List.length z9=4) (pAgg (add p_5 7) z9 w9 fun w10=>some (.bool true,w10))))))):=kR
def Bg9:Cuts:=⟨2,[],[],[]⟩
def Da5:List Item:=A5 Tryz.f12
theorem Er4 :
 xQ Bg9 C R Ak9 Tryz.f12 Da5 [(0,.pointer w)] h =
 aSome w fun p=>gPtr (add p 4) h fun x=>some (.pointer x,h):=kR
def Aq2:Cuts:=⟨2,[],[],[]⟩
def Be9:List Item:=A5 Tryz.f26
theorem Be8 :
 xQ Aq2 C R E3 Tryz.f26 Be9 [(0,.slice s sn sc)] h =
 cond s.isNone
 (some (.slice none 0 0,h))
 (nw (.cells A4 false []) h fun b w=>gCells s (sn*1) w fun cs=>ckB (fitsOpen (some ⟨b,0,none⟩) A4 w) (apd A4 1 (some ⟨b,0,none⟩) 0 0 sn cs w fun a an ac w1=>some (.slice a an ac,w1))):=kR
def B05:Cuts:=⟨2,[],[],[(1,⟨[0,1,2,3,4,5,6,7,9,10,11,12,8,13],[0,1,3,7,0,16,48,112,255,0,512,1536,3584,8191],[(8,[12])],[]⟩)]⟩
def Dv5:List Item:=A5 Tryz.f28
theorem Gd0 :
 xQ B05 C R Ay5 Tryz.f28 Dv5 [(0,.pointer w)] h =
 aSome w fun p=>gInt .i64 (add p 5) h fun x=>bnd (cond (x==1) (some (true,h)) (aSome w fun p_1=>gInt .i64 (add p_1 5) h fun z1=>some (z1==2,h))) fun c w1=>cond c
 (aSome w fun p_2=>gPtr (add p_2 0) w1 fun z2=>aSome w fun p_3=>gInt .i64 (add p_3 3) w1 fun z3=>aSome w fun p_4=>gInt .i64 (add p_4 1) w1 fun z4=>bnd (C Z8 [.pointer z2,iI z3] w1) fun r w2=>aPtr r fun z5=>gInt .i64 (add p_4 1) w2 fun z6=>same (iI z4) (iI z6) (bnd (C Ge9 [.pointer z5,iI z4] w2) fun q1 w3=>as0 q1 (aSome w fun p_5=>pV (add p_5 5) (iI 0) w3 fun w4=>some (.tuple ⟨[]⟩,w4))))
 (aSome w fun p_6=>pV (add p_6 5) (iI 0) w1 fun w5=>some (.tuple ⟨[]⟩,w5)):=kR
def Af4:Cuts:=⟨2,[],[(8,[6,8,11,12])],[(7,⟨[0,1,2,3,4,5,6,7,8,9],[0,1,3,7,0,31,63,31,159,511],[(7,[5])],[]⟩)]⟩
def Au2:List Item:=A5 Tryz.f35
def Am1:List Item:=stk [0,1,0,1,0,1,0,1,0,1,0,1,0,0] Au2
theorem Dq0 (r:List Value) (decode:Value) :
 xQ Af4 C R N5 Tryz.f35 Au2 [(0,.pointer c),(1,.agg ⟨r⟩),(2,decode)] h =
 nw (.cells E0 false r) h fun b w=>nw (.cells B2 false zZ1) w fun p1 w1=>nw (.cells B2 false zZ1) w1 fun p2 w2=>gAgg ⟨b,0,none⟩ 2 w2 fun x=>bnd (C Q1 [.pointer c,.agg ⟨x⟩] w2) fun q1 w3=>as2 q1 fun q2 q3=>aSl q2 fun z1 xn xc=>aBool q3 fun z2=>cond (!z2)
 (gAgg ⟨p2,0,none⟩ 16 w3 fun z3=>ck (List.length z3=16) (pAgg ⟨p1,0,none⟩ z3 w3 fun w4=>gAgg ⟨p1,0,none⟩ 16 w4 fun z4=>some (.tuple ⟨[.agg ⟨z4⟩,iI 2]⟩,w4)))
 (aFn decode fun g fi cp=>bnd (C g (fi++([.slice z1 xn xc]++cp)) w3) fun q4 w5=>as2 q4 fun q5 q6=>aAgg q5 fun z5=>aInt .i64 q6 fun z6=>nw (.cells B2 false zZ1) w5 fun p3 w6=>ck (List.length z5=16) (pAgg ⟨p3,0,none⟩ z5 w6 fun w7=>cond (z6==2)
 (aSome c fun p=>gMap (add p 3) w7 fun z7=>gAgg ⟨b,0,none⟩ 2 w7 fun z8=>keyN PR E0 (.agg ⟨z8⟩) (opt z7 fun q7=>mapAt w7 q7 fun es _=>opt (Ap6 (iI 0) (.agg ⟨z8⟩) es) fun f=>aInt .i64 f.1 fun z9=>keyN PR E0 (.agg ⟨z8⟩) (opt z7 fun q8=>mapAt w7 q8 fun es_1 cl_1=>opt (D95 (iI 0) (.agg ⟨z8⟩) es_1 cl_1) fun f_1=>aInt .i64 f_1.1 fun _=>lt (H.set w7 q8 f_1.2.2) fun w8=>keyN PR E0 (.agg ⟨z8⟩) (opt z7 fun q9=>mapAt w8 q9 fun es_2 _=>opt (Ap6 (iI 0) (.agg ⟨z8⟩) es_2) fun f_2=>aInt .i64 f_2.1 fun z11=>same (iI z9) (iI z11) (opt z7 fun q10=>mapAt w8 q10 fun es_3 cl_3=>opt (Bq3 (f_1.2.1:Int) es_3 0) fun i=>lt (H.set w8 q10 (.map (modN (fun e=>{ e with val:=iI (wrap .i64 (z9+1)) }) i es_3) cl_3)) fun w9=>R N5 Am1 [(6,pP p1),(8,pP p2),(11,pP p3),(12,iI z6)] w9)))))
 (R N5 Am1 [(6,pP p1),(8,pP p2),(11,pP p3),(12,iI z6)] w7))):=kR
theorem A83 (x6:Addr) (nonev:Addr) (isv:Int) :
 xQ Af4 C R N5 Tryz.f35 Am1 [(6,.pointer (some x6)),(8,.pointer (some nonev)),(11,.pointer (some v)),(12,iI isv)] h =
 cond (isv != 1)
 (gAgg nonev 16 h fun x=>ck (List.length x=16) (pAgg x6 x h fun w=>gAgg x6 16 w fun z1=>some (.tuple ⟨[.agg ⟨z1⟩,iI isv]⟩,w)))
 (gAgg v 16 h fun z2=>ck (List.length z2=16) (pAgg x6 z2 h fun w1=>gAgg x6 16 w1 fun z3=>some (.tuple ⟨[.agg ⟨z3⟩,iI isv]⟩,w1))):=kR
def B80:Cuts:=⟨2,[],[],[]⟩
def D16:List Item:=A5 Tryz.f39
theorem Go7 :
 xQ B80 C R Ah8 Tryz.f39 D16 [(0,iI n)] h =
 bnd (cond (decide (n≥0)) (some ((J7 .i64 n 65534)==0,h)) (some (false,h))) fun c w=>some (.bool c,w):=kR
def Dm2:Cuts:=⟨2,[],[],[(1,⟨[0,1,2,3,4,5,6,7],[0,1,0,4,15,12,63,127],[(3,[1]),(5,[1])],[]⟩)]⟩
def Eq7:List Item:=A5 Tryz.f45
theorem G64 :
 xQ Dm2 C R Bf4 Tryz.f45 Eq7 [] h =
 ck ((0:Int)≤448∧(448:Int)≤448∧448≤(A8:Int)) (nw (.cells A4 false (L8 (Int.toNat 448) [.int .u8 0])) h fun b w=>gCells (some ⟨b,0,none⟩) (Int.toNat 448) w fun cs=>asBytes cs fun l=>bnd (C S4 [.agg ⟨[iI 0,iI 0,iI 1,iI 1,.int .u8 0,.int .u8 0,.int .u8 0,.int .u8 0,.int .u8 0,.int .u8 0,.int .u8 0,.int .u8 0,.int .u8 0,.int .u8 0,.int .u8 0,.int .u8 0,.int .u8 0,.int .u8 0,.int .u8 0,.int .u8 0,.int .u8 0,.int .u8 0,.int .u8 0,.int .u8 0,.int .u8 0,.int .u8 0,.int .u8 0,.int .u8 0,.int .u8 0,.int .u8 0,.int .u8 0,.int .u8 0,.int .u8 0,.int .u8 0,.int .u8 0,.int .u8 0]⟩] w) fun r w1=>aStr r fun x=>gCells (some ⟨b,0,none⟩) (Int.toNat 448) w1 fun cs_1=>asBytes cs_1 fun l_1=>same (.string (ByteArray.mk ⟨l⟩)) (.string (ByteArray.mk ⟨l_1⟩)) (ck (ByteArray.size (ByteArray.mk ⟨l⟩)+ByteArray.size x≤A8) (bnd (C A33 [iI 0] w1) fun q1 w2=>aStr q1 fun z1=>gCells (some ⟨b,0,none⟩) (Int.toNat 448) w2 fun cs_2=>asBytes cs_2 fun l_2=>same (.string (ByteArray.mk ⟨l⟩)) (.string (ByteArray.mk ⟨l_2⟩)) (ck (ByteArray.size ((ByteArray.mk ⟨l⟩)++x)+ByteArray.size z1≤A8) (some (.string (((ByteArray.mk ⟨l⟩)++x)++z1),w2)))))):=kR
def Ef4:Cuts:=⟨2,[],[],[]⟩
def Gj8:List Item:=A5 Tryz.f58
theorem B48 (s:List Value) :
 xQ Ef4 C R Dp4 Tryz.f58 Gj8 [(0,.pointer c),(1,iI i),(2,.agg ⟨s⟩)] h =
 nw (.cells Di8 false s) h fun b w=>nw (.cells An3 false [iI 0,iI 0,.slice none 0 0,.bool false]) w fun p1 w1=>bnd (C B8 [.pointer c] w1) fun r w2=>as0 r (gAgg ⟨b,0,none⟩ 4 w2 fun x=>bnd (C Bw7 [.pointer c,iI i,.agg ⟨x⟩] w2) fun q1 w3=>as2 q1 fun q2 q3=>aAgg q2 fun z1=>aBool q3 fun z2=>nw (.cells An3 false [iI 0,iI 0,.slice none 0 0,.bool false]) w3 fun p2 w4=>ck (List.length z1=4) (pAgg ⟨p2,0,none⟩ z1 w4 fun w5=>cond z2
 (gAgg ⟨p2,0,none⟩ 4 w5 fun z3=>ck (List.length z3=4) (pAgg ⟨p1,0,none⟩ z3 w5 fun w6=>gAgg ⟨p1,0,none⟩ 4 w6 fun z4=>some (.agg ⟨z4⟩,w6)))
 (gInt .i64 ⟨b,0,none⟩ w5 fun z5=>cond (z5==2)
 (bnd (C Dg1 [.pointer c,iI i] w5) fun q4 w7=>aAgg q4 fun z6=>ck (List.length z6=4) (pAgg ⟨p1,0,none⟩ z6 w7 fun w8=>gAgg ⟨p1,0,none⟩ 4 w8 fun z7=>some (.agg ⟨z7⟩,w8)))
 (cond (z5==3)
 (gInt .i64 ⟨b,1,none⟩ w5 fun z8=>bnd (C Ga4 [.pointer c,iI i,iI z8] w5) fun q5 w9=>aAgg q5 fun z9=>ck (List.length z9=4) (pAgg ⟨p1,0,none⟩ z9 w9 fun w10=>gAgg ⟨p1,0,none⟩ 4 w10 fun z10=>some (.agg ⟨z10⟩,w10)))
 (cond (z5==4)
 (bnd (C Ho0 [.pointer c,iI i] w5) fun q6 w11=>aAgg q6 fun z11=>ck (List.length z11=4) (pAgg ⟨p1,0,none⟩ z11 w11 fun w12=>gAgg ⟨p1,0,none⟩ 4 w12 fun z12=>some (.agg ⟨z12⟩,w12)))
 (cond (z5==5)
 (gInt .i64 ⟨b,1,none⟩ w5 fun z13=>gInt .i64 ⟨b,2,none⟩ w5 fun z14=>bnd (C Au9 [.pointer c,iI i,iI z13,iI z14] w5) fun q7 w13=>aAgg q7 fun z15=>ck (List.length z15=4) (pAgg ⟨p1,0,none⟩ z15 w13 fun w14=>gAgg ⟨p1,0,none⟩ 4 w14 fun z16=>some (.agg ⟨z16⟩,w14)))
 (cond (z5==8)
 (gInt .i64 ⟨b,1,none⟩ w5 fun z17=>gInt .i64 ⟨b,2,none⟩ w5 fun z18=>bnd (C Hb6 [.pointer c,iI i,iI z17,iI z18] w5) fun q8 w15=>aAgg q8 fun z19=>ck (List.length z19=4) (pAgg ⟨p1,0,none⟩ z19 w15 fun w16=>gAgg ⟨p1,0,none⟩ 4 w16 fun z20=>some (.agg ⟨z20⟩,w16)))
 (cond (z5==1)
 (cond (z5==1)
 (gAgg ⟨b,0,none⟩ 4 w5 fun z21=>bnd (C V9 [.pointer c,iI i,.agg ⟨z21⟩] w5) fun q9 w17=>aAgg q9 fun z22=>ck (List.length z22=4) (pAgg ⟨p1,0,none⟩ z22 w17 fun w18=>gAgg ⟨p1,0,none⟩ 4 w18 fun z23=>some (.agg ⟨z23⟩,w18)))
 (bnd (C Bn6 [iI 122] w5) fun q10 w19=>aAgg q10 fun z24=>ck (List.length z24=4) (pAgg ⟨p1,0,none⟩ z24 w19 fun w20=>gAgg ⟨p1,0,none⟩ 4 w20 fun z25=>some (.agg ⟨z25⟩,w20))))
 (cond (z5==17)
 (cond (z5==17)
 (gAgg ⟨b,0,none⟩ 4 w5 fun z26=>bnd (C V9 [.pointer c,iI i,.agg ⟨z26⟩] w5) fun q11 w21=>aAgg q11 fun z27=>ck (List.length z27=4) (pAgg ⟨p1,0,none⟩ z27 w21 fun w22=>gAgg ⟨p1,0,none⟩ 4 w22 fun z28=>some (.agg ⟨z28⟩,w22)))
 (bnd (C Bn6 [iI 122] w5) fun q12 w23=>aAgg q12 fun z29=>ck (List.length z29=4) (pAgg ⟨p1,0,none⟩ z29 w23 fun w24=>gAgg ⟨p1,0,none⟩ 4 w24 fun z30=>some (.agg ⟨z30⟩,w24))))
 (cond (z5==18)
 (cond (z5==18)
 (gAgg ⟨b,0,none⟩ 4 w5 fun z31=>bnd (C V9 [.pointer c,iI i,.agg ⟨z31⟩] w5) fun q13 w25=>aAgg q13 fun z32=>ck (List.length z32=4) (pAgg ⟨p1,0,none⟩ z32 w25 fun w26=>gAgg ⟨p1,0,none⟩ 4 w26 fun z33=>some (.agg ⟨z33⟩,w26)))
 (bnd (C Bn6 [iI 122] w5) fun q14 w27=>aAgg q14 fun z34=>ck (List.length z34=4) (pAgg ⟨p1,0,none⟩ z34 w27 fun w28=>gAgg ⟨p1,0,none⟩ 4 w28 fun z35=>some (.agg ⟨z35⟩,w28))))
 (cond (z5==6)
 (cond (z5==6)
 (gAgg ⟨b,0,none⟩ 4 w5 fun z36=>bnd (C V9 [.pointer c,iI i,.agg ⟨z36⟩] w5) fun q15 w29=>aAgg q15 fun z37=>ck (List.length z37=4) (pAgg ⟨p1,0,none⟩ z37 w29 fun w30=>gAgg ⟨p1,0,none⟩ 4 w30 fun z38=>some (.agg ⟨z38⟩,w30)))
 (bnd (C Bn6 [iI 122] w5) fun q16 w31=>aAgg q16 fun z39=>ck (List.length z39=4) (pAgg ⟨p1,0,none⟩ z39 w31 fun w32=>gAgg ⟨p1,0,none⟩ 4 w32 fun z40=>some (.agg ⟨z40⟩,w32))))
 (cond (z5==7)
 (gAgg ⟨b,0,none⟩ 4 w5 fun z41=>bnd (C V9 [.pointer c,iI i,.agg ⟨z41⟩] w5) fun q17 w33=>aAgg q17 fun z42=>ck (List.length z42=4) (pAgg ⟨p1,0,none⟩ z42 w33 fun w34=>gAgg ⟨p1,0,none⟩ 4 w34 fun z43=>some (.agg ⟨z43⟩,w34)))
 (bnd (C Bn6 [iI 122] w5) fun q18 w35=>aAgg q18 fun z44=>ck (List.length z44=4) (pAgg ⟨p1,0,none⟩ z44 w35 fun w36=>gAgg ⟨p1,0,none⟩ 4 w36 fun z45=>some (.agg ⟨z45⟩,w36))))))))))))))):=kR
def Au0:Cuts:=⟨2,[],[],[]⟩
def Bj8:List Item:=A5 Tryz.f65
theorem Dr5 :
 xQ Au0 C R Q2 Tryz.f65 Bj8 [(0,.pointer c),(1,iI i),(2,.agg ⟨p⟩)] h =
 nw (.cells B2 false p) h fun b w=>gAgg ⟨b,0,none⟩ 16 w fun x=>bnd (C Ba4 [.agg ⟨x⟩] w) fun r w1=>as2 r fun q1 q2=>aSl q1 fun z1 xn xc=>aBool q2 fun z2=>bnd (C A98 [iI i] w1) fun q3 w2=>aAgg q3 fun z3=>bnd (C S9 [.pointer c,.agg ⟨z3⟩,.slice z1 xn xc,.bool z2] w2) fun q4 w3=>aBool q4 fun z4=>some (.bool z4,w3):=kR
def Br3:Cuts:=⟨2,[],[],[]⟩
def Dn6:List Item:=A5 Tryz.f67
theorem E56 (k:Option Addr) :
 xQ Br3 C R Ar0 Tryz.f67 Dn6 [(0,.pointer k)] h =
 aSome k fun p=>gPtr (add p 3) h fun x=>some (.pointer x,h):=kR
def A45:Cuts:=⟨2,[],[],[(2,⟨[0,1,2,3,4,5,6,7,8,9,10],[0,1,3,7,15,31,63,7,255,511,1023],[],[]⟩),(4,⟨[0,1,2,3,4,5,6,7,8,9,10,11,12,13,14,16,15,17],[0,1,3,7,0,16,48,112,0,256,0,1024,0,4096,16128,32767,0,131071],[],[]⟩),(6,⟨[0,1,2,3,4,5,6,7,8,9],[0,1,3,7,0,31,63,31,159,511],[(7,[5])],[]⟩)]⟩
def Bu4:List Item:=A5 Tryz.f69
theorem D58 (r:List Value) :
 xQ A45 C R Q1 Tryz.f69 Bu4 [(0,.pointer c),(1,.agg ⟨r⟩)] h =
 nw (.cells E0 false r) h fun b w=>gAgg ⟨b,0,none⟩ 2 w fun x=>bnd (C Ab0 [.pointer c,.agg ⟨x⟩] w) fun q1 w1=>as2 q1 fun q2 q3=>aAgg q2 fun z1=>aBool q3 fun z2=>nw (.cells B61 false [iI 0,iI 0,iI 0]) w1 fun p1 w2=>ck (List.length z1=3) (pAgg ⟨p1,0,none⟩ z1 w2 fun w3=>bnd (cond (!z2) (some (true,w3)) (aSome c fun p=>gMap (add p 3) w3 fun z3=>gAgg ⟨b,0,none⟩ 2 w3 fun z4=>keyN PR E0 (.agg ⟨z4⟩) (opt z3 fun q4=>mapAt w3 q4 fun es _=>opt (Ap6 (iI 0) (.agg ⟨z4⟩) es) fun f=>aInt .i64 f.1 fun z5=>some (decide (z5>0),w3)))) fun c_1 w4=>cond c_1
 (some (.tuple ⟨[.slice none 0 0,.bool false]⟩,w4))
 (aSome c fun p_1=>gPtr (add p_1 0) w4 fun z6=>aSome c fun p_2=>gInt .i64 (add p_2 1) w4 fun z7=>gInt .i64 ⟨p1,0,none⟩ w4 fun z8=>gInt .i64 ⟨p1,1,none⟩ w4 fun z9=>gInt .i64 ⟨p1,2,none⟩ w4 fun z10=>nw (.cells Dt0 false [iI 0,iI 0,.slice none 0 0]) w4 fun p2 w5=>bnd (C M7 [.pointer z6,iI z7,.agg ⟨[iI 1,iI z8,iI z9,iI z10,iI 0,iI 0,.slice none 0 0]⟩] w5) fun q5 w6=>aAgg q5 fun z11=>ck (List.length z11=3) (pAgg ⟨p2,0,none⟩ z11 w6 fun w7=>gInt .i64 ⟨p2,0,none⟩ w7 fun z12=>cond (z12 != 0)
 (aSome c fun p_3=>gMap (add p_3 3) w7 fun z13=>gAgg ⟨b,0,none⟩ 2 w7 fun z14=>keyN PR E0 (.agg ⟨z14⟩) (opt z13 fun q6=>mapAt w7 q6 fun es_1 _=>opt (Ap6 (iI 0) (.agg ⟨z14⟩) es_1) fun f_1=>aInt .i64 f_1.1 fun z15=>keyN PR E0 (.agg ⟨z14⟩) (opt z13 fun q7=>mapAt w7 q7 fun es_2 cl_2=>opt (D95 (iI 0) (.agg ⟨z14⟩) es_2 cl_2) fun f_2=>aInt .i64 f_2.1 fun _=>lt (H.set w7 q7 f_2.2.2) fun w8=>keyN PR E0 (.agg ⟨z14⟩) (opt z13 fun q8=>mapAt w8 q8 fun es_3 _=>opt (Ap6 (iI 0) (.agg ⟨z14⟩) es_3) fun f_3=>aInt .i64 f_3.1 fun z17=>same (iI z15) (iI z17) (opt z13 fun q9=>mapAt w8 q9 fun es_4 cl_4=>opt (Bq3 (f_2.2.1:Int) es_4 0) fun i=>lt (H.set w8 q9 (.map (modN (fun e=>{ e with val:=iI (wrap .i64 (z15+1)) }) i es_4) cl_4)) fun w9=>some (.tuple ⟨[.slice none 0 0,.bool false]⟩,w9))))))
 (gSl ⟨p2,2,none⟩ w7 fun z18 xn xc=>some (.tuple ⟨[.slice z18 xn xc,.bool true]⟩,w7))))):=kR
def Ak3:Cuts:=⟨2,[],[],[(4,⟨[0,1,2,3,4,10,5,6,7,8,9,11,12],[0,1,3,7,0,16,63,127,255,255,0,1535,4095],[(5,[3])],[]⟩)]⟩
def A54:List Item:=A5 Tryz.f72
theorem B94 :
 xQ Ak3 C R Y8 Tryz.f72 A54 [(0,.pointer c),(1,.slice b bn bc)] h =
 nw (.cells B2 false zZ1) h fun p1 w=>nw (.cells B2 false zZ1) w fun p2 w1=>aSome c fun p=>gFv (add p 2) w1 fun x=>isNilF x fun p3=>bnd (cond p3 (some (true,w1)) (aSome c fun p_1=>gInt .i64 (add p_1 0) w1 fun z1=>some ((bn:Int) != z1,w1))) fun c_1 w2=>cond c_1
 (gAgg ⟨p2,0,none⟩ 16 w2 fun z2=>ck (List.length z2=16) (pAgg ⟨p1,0,none⟩ z2 w2 fun w3=>gAgg ⟨p1,0,none⟩ 16 w3 fun z3=>some (.tuple ⟨[.agg ⟨z3⟩,.bool false]⟩,w3)))
 (aSome c fun p_2=>gFv (add p_2 2) w2 fun z4=>nw (.cells B2 false zZ1) w2 fun p4 w4=>bnd (C E3 [.slice b bn bc] w4) fun r w5=>aSl r fun z5 xn xc=>gFv (add p_2 2) w5 fun z6=>Bo9 (z4) (z6) (aFn z4 fun g fi cp=>bnd (C g (fi++([.slice z5 xn xc]++cp)) w5) fun q1 w6=>as2 q1 fun q2 q3=>aAgg q2 fun z7=>aBool q3 fun z8=>ck (List.length z7=16) (pAgg ⟨p4,0,none⟩ z7 w6 fun w7=>cond (!z8)
 (gAgg ⟨p2,0,none⟩ 16 w7 fun z9=>ck (List.length z9=16) (pAgg ⟨p1,0,none⟩ z9 w7 fun w8=>gAgg ⟨p1,0,none⟩ 16 w8 fun z10=>some (.tuple ⟨[.agg ⟨z10⟩,.bool false]⟩,w8)))
 (gAgg ⟨p4,0,none⟩ 16 w7 fun z11=>ck (List.length z11=16) (pAgg ⟨p1,0,none⟩ z11 w7 fun w9=>gAgg ⟨p1,0,none⟩ 16 w9 fun z12=>some (.tuple ⟨[.agg ⟨z12⟩,.bool true]⟩,w9)))))):=kR
def Bb1:Cuts:=⟨2,[(5,[1,4,20,21,22]),(12,[1,7,58,59,60]),(18,[7,89,90,91]),(22,[7,11,12,89,90,91,122,123,124])],[],[(9,⟨[0,1,3,5,6,7,9,10,2,4,8,11,12,13,14],[0,1,3,0,15,0,32,96,255,0,512,2047,4095,8191,16383],[(2,[6,10]),(4,[6,10]),(8,[10])],[]⟩),(10,⟨[0,1,2,3,4,5,6,7,8,9,10,11,12],[0,0,2,6,14,0,32,96,224,510,1023,2047,4095],[],[]⟩),(14,⟨[0,1,2,3,4,5,6,7,8,9,10,11],[0,0,2,6,14,0,32,96,254,511,1023,2047],[(6,[4])],[]⟩),(15,⟨[0,1,2,3,4,5,6,7,8,9,10,11,12],[0,0,2,6,14,0,32,96,224,510,1023,2047,4095],[(7,[4])],[]⟩),(20,⟨[0,1,2,3,4,5,6,7,8,9,11,12,15,16,18,19,10,13,14,17,20,21,22,23,24,25],[0,1,3,7,0,16,48,112,0,256,1008,0,2048,8176,16368,0,32768,131056,0,262144,1048575,2097151,4194303,4194303,8388607,33554431],[(10,[3,12,16,19])],[]⟩),(25,⟨[0,1,2,3,4,5,6,7,8,9],[0,1,3,7,0,0,0,64,224,511],[],[]⟩)]⟩
def Bo0:List Item:=A5 Tryz.f74
def Bw2:List Item:=stk [0,1,0,1,0,1,0,0,1,4,5] Bo0
def Bw0:List Item:=stk [0,1,0,1,0,1,0,1,0,1,0,1,0,0,1,4,5] Bo0
def Bf2:List Item:=stk [0,1,0,1,0,1,0,1,0,1,0,1,0,1,0,0,1,4,5] Bo0
def Bf1:List Item:=stk [0,1,0,1,0,1,0,1,0,1,0,1,0,1,0,0,1,4,5,6,0,1,0,1,0,4,0,1,0,1,0,1,4,5] Bo0
theorem Hy5 (c:List Value) :
 xQ Bb1 C R J6 Tryz.f74 Bo0 [(0,.agg ⟨c⟩)] h =
 nw (.cells D9 false c) h fun b w=>gAgg ⟨b,0,none⟩ 5 w fun x=>bnd (C V5 [.agg ⟨x⟩] w) fun r w1=>aBool r fun z1=>cond (!z1)
 (some (.tuple ⟨[.pointer none,iI 1]⟩,w1))
 (gSl ⟨b,0,none⟩ w1 fun z2 xn xc=>R J6 Bw2 [(1,pP b),(4,iI 0),(20,.slice z2 xn xc),(21,iI (xn:Int)),(22,iI 0)] w1):=kR
theorem Ep2 (c:Addr) (all:Int) (x20:Option Addr) (x20n x20c:Nat) (x21:Int) (x22:Int) :
 xQ Bb1 C R J6 Tryz.f74 Bw2 [(1,.pointer (some c)),(4,iI all),(20,.slice x20 x20n x20c),(21,iI x21),(22,iI x22)] h =
 cond (decide (x22<x21))
 (aSome x20 fun p=>ck ((0:Int)≤x22∧x22<(x20n:Int)) (gInt .i64 (add (B1 p) (Int.toNat x22*1)) h fun x=>bnd (C Bg1 [iI x] h) fun r w=>aInt .i64 r fun z1=>R J6 Bw2 [(1,.pointer (some c)),(4,iI (wrap .i64 (all+z1))),(20,.slice x20 x20n x20c),(21,iI x21),(22,iI (wrap .i64 (x22+1)))] w))
 (gSl (add c 1) h fun z2 xn xc=>gSl (add c 1) h fun z3 xn_1 xc_1=>gSl (add c 0) h fun z4 xn_2 xc_2=>bnd (C Aa1 [.slice z2 xn xc] h) fun q1 w1=>aSl q1 fun z5 xn_3 xc_3=>gSl (add c 1) w1 fun z6 xn_4 xc_4=>same (.slice z3 xn_1 xc_1) (.slice z6 xn_4 xc_4) (gSl (add c 0) w1 fun z7 xn_5 xc_5=>same (.slice z4 xn_2 xc_2) (.slice z7 xn_5 xc_5) (bnd (C D13 [iI all] w1) fun q2 w2=>aPtr q2 fun z8=>gSl (add c 1) w2 fun z9 xn_6 xc_6=>same (.slice z3 xn_1 xc_1) (.slice z9 xn_6 xc_6) (gSl (add c 0) w2 fun z10 xn_7 xc_7=>same (.slice z4 xn_2 xc_2) (.slice z10 xn_7 xc_7) (bnd (C A24 [iI (xn_1:Int)] w2) fun q3 w3=>aPtr q3 fun z11=>gSl (add c 0) w3 fun z12 xn_8 xc_8=>same (.slice z4 xn_2 xc_2) (.slice z12 xn_8 xc_8) (bnd (C Av1 [.slice z4 xn_2 xc_2] w3) fun q4 w4=>aPtr q4 fun z13=>nw (.cells D89 false [.slice z5 xn_3 xc_3,.slice none 0 0,.pointer z8,.pointer z11,.pointer z13,.pointer none,.slice none 0 0,iI 0]) w4 fun b w5=>gPtr ⟨b,2,none⟩ w5 fun z14=>gPtr ⟨b,3,none⟩ w5 fun z15=>bnd (C B85 [.pointer z14,.pointer z15] w5) fun q5 w6=>aPtr q5 fun z16=>pV ⟨b,5,none⟩ (.pointer z16) w6 fun w7=>gSl (add c 2) w7 fun z17 xn_9 xc_9=>R J6 Bw0 [(1,.pointer (some c)),(7,pP b),(58,.slice z17 xn_9 xc_9),(59,iI (xn_9:Int)),(60,iI 0)] w7)))))):=kR
theorem Ep4 (c:Addr) (x58:Option Addr) (x58n x58c:Nat) (x60:Int) :
 xQ Bb1 C R J6 Tryz.f74 Bw0 [(1,.pointer (some c)),(7,.pointer (some k)),(58,.slice x58 x58n x58c),(59,iI x59),(60,iI x60)] h =
 cond (decide (x60<x59))
 (aSome x58 fun p=>ck ((0:Int)≤x60∧x60<(x58n:Int)) (gSl (add (B1 p) (Int.toNat x60*1)) h fun x xn xc=>gSl (add k 1) h fun z1 xn_1 xc_1=>bnd (C Aa1 [.slice x xn xc] h) fun r w=>aSl r fun z2 xn_2 xc_2=>gSl (add k 1) w fun z3 xn_3 xc_3=>same (.slice z1 xn_1 xc_1) (.slice z3 xn_3 xc_3) (nw (.cells U5 false [.slice z2 xn_2 xc_2]) w fun b w1=>gCells (some ⟨b,0,none⟩) (1*1) w1 fun cs=>ckB (fitsOpen z1 U5 w1) (apd U5 1 z1 xn_1 xc_1 1 cs w1 fun a an ac w2=>pV (add k 1) (.slice a an ac) w2 fun w3=>gSl (add k 6) w3 fun z4 xn_4 xc_4=>gInt .i64 (add c 3) w3 fun z5=>bnd (C Dr2 [iI z5] w3) fun q1 w4=>aPtr q1 fun z6=>gSl (add k 6) w4 fun z7 xn_5 xc_5=>same (.slice z4 xn_4 xc_4) (.slice z7 xn_5 xc_5) (nw (.cells A01 false [.pointer z6]) w4 fun p1 w5=>gCells (some ⟨p1,0,none⟩) (1*1) w5 fun cs_1=>ckB (fitsOpen z4 A01 w5) (apd A01 1 z4 xn_4 xc_4 1 cs_1 w5 fun a_1 an_1 ac_1 w6=>pV (add k 6) (.slice a_1 an_1 ac_1) w6 fun w7=>R J6 Bw0 [(1,.pointer (some c)),(7,.pointer (some k)),(58,.slice x58 x58n x58c),(59,iI x59),(60,iI (wrap .i64 (x60+1)))] w7))))))
 (gSl (add c 4) h fun z8 xn_6 xc_6=>R J6 Bf2 [(7,.pointer (some k)),(89,.slice z8 xn_6 xc_6),(90,iI (xn_6:Int)),(91,iI 0)] h):=kR
theorem Eq1 :
 xQ Bb1 C R J6 Tryz.f74 Bf2 [(7,.pointer (some k)),(89,.slice x89 x89n x89c),(90,iI x90),(91,iI x91)] h =
 cond (decide (x91<x90))
 (aSome x89 fun p=>ck ((0:Int)≤x91∧x91<(x89n:Int)) (gAgg (add (B1 p) (Int.toNat x91*5)) 5 h fun x=>nw (.cells L7 false [iI 0,iI 0,iI 0,iI 0,.slice none 0 0]) h fun b w=>ck (List.length x=5) (pAgg ⟨b,0,none⟩ x w fun w1=>gPtr (add k 5) w1 fun z1=>gPtr (add k 4) w1 fun z2=>gInt .i64 ⟨b,0,none⟩ w1 fun z3=>gInt .i64 ⟨b,1,none⟩ w1 fun z4=>gInt .i64 ⟨b,2,none⟩ w1 fun z5=>gInt .i64 ⟨b,3,none⟩ w1 fun z6=>bnd (C Q6 [.pointer z2,iI z3] w1) fun r w2=>aInt .i64 r fun z7=>gPtr (add k 5) w2 fun z8=>same (.pointer z1) (.pointer z8) (gInt .i64 ⟨b,1,none⟩ w2 fun z9=>same (iI z4) (iI z9) (gInt .i64 ⟨b,2,none⟩ w2 fun z10=>same (iI z5) (iI z10) (gInt .i64 ⟨b,3,none⟩ w2 fun z11=>same (iI z6) (iI z11) (bnd (C At8 [.pointer z1,iI (wrap .i64 ((wrap .i64 ((wrap .i64 (z7+z4))*64))+z5)),iI z6] w2) fun q1 w3=>as2 q1 fun q2 q3=>aInt .i64 q2 fun z12=>aInt .i64 q3 fun _=>gSl (add k 0) w3 fun z14 xn xc=>R J6 Bf1 [(7,.pointer (some k)),(11,pP b),(12,iI z12),(89,.slice x89 x89n x89c),(90,iI x90),(91,iI x91),(122,.slice z14 xn xc),(123,iI (xn:Int)),(124,iI 0)] w3)))))))
 (some (.tuple ⟨[.pointer (some k),iI 0]⟩,h)):=kR
theorem Ep9 (x:Addr) (obj:Int) (x122:Option Addr) (x122n x122c:Nat) (x123:Int) (x124:Int) :
 xQ Bb1 C R J6 Tryz.f74 Bf1 [(7,.pointer (some k)),(11,.pointer (some x)),(12,iI obj),(89,.slice x89 x89n x89c),(90,iI x90),(91,iI x91),(122,.slice x122 x122n x122c),(123,iI x123),(124,iI x124)] h =
 cond (decide (x124<x123))
 (aSome x122 fun p=>ck ((0:Int)≤x124∧x124<(x122n:Int)) (gInt .i64 (add (B1 p) (Int.toNat x124*1)) h fun z1=>gSl (add x 4) h fun z2 xn xc=>bnd (C O5 [.slice z2 xn xc,iI z1] h) fun r w=>aBool r fun z3=>cond z3
 (gPtr (add k 3) w fun z4=>gInt .i64 (add x 3) w fun z5=>bnd (C Bc1 [.pointer z4,iI x124,.agg ⟨[iI obj,iI 3,iI 0,iI z5,iI 0,iI 0]⟩] w) fun q1 w1=>as2 q1 fun q2 q3=>aInt .i64 q2 fun _=>aInt .i64 q3 fun _=>R J6 Bf1 [(7,.pointer (some k)),(11,.pointer (some x)),(12,iI obj),(89,.slice x89 x89n x89c),(90,iI x90),(91,iI x91),(122,.slice x122 x122n x122c),(123,iI x123),(124,iI (wrap .i64 (x124+1)))] w1)
 (R J6 Bf1 [(7,.pointer (some k)),(11,.pointer (some x)),(12,iI obj),(89,.slice x89 x89n x89c),(90,iI x90),(91,iI x91),(122,.slice x122 x122n x122c),(123,iI x123),(124,iI (wrap .i64 (x124+1)))] w)))
 (R J6 Bf2 [(7,.pointer (some k)),(89,.slice x89 x89n x89c),(90,iI x90),(91,iI (wrap .i64 (x91+1)))] h):=kR
def Bm6:Cuts:=⟨2,[],[],[(3,⟨[0,1,2,3,4,5,6,7,8,9,10,11,12,13,14,15,16,17,18,19],[0,1,3,7,0,0,32,0,128,0,512,0,2048,0,8192,32767,65535,65535,262143,524287],[],[]⟩),(5,⟨[0,1,2,3,4,5,6,7,8,9,10,11],[0,1,3,7,0,0,32,127,255,255,1023,2047],[],[]⟩),(7,⟨[0,1,2,3,4,5,6,7,8,9,10,11,12,13,14,15],[0,1,3,7,0,16,48,112,0,496,1008,2047,4095,4095,16383,32767],[],[]⟩),(9,⟨[0,1,2,3,4,5,6,7,8,9,10,11,12,13,14,15],[0,1,3,7,0,16,48,112,0,496,1008,0,2048,8191,16383,32767],[],[]⟩)]⟩
def Dh4:List Item:=A5 Tryz.f78
theorem Ev6 (k:Option Addr) (c:List Value) :
 xQ Bm6 C R A06 Tryz.f78 Dh4 [(0,.pointer k),(1,iI env),(2,.agg ⟨c⟩)] h =
 nw (.cells A29 false c) h fun b w=>gInt .i64 ⟨b,0,none⟩ w fun x=>cond (x==4)
 (aSome k fun p=>gPtr (add p 3) w fun z1=>gInt .i64 ⟨b,1,none⟩ w fun z2=>gInt .i64 ⟨b,4,none⟩ w fun z3=>gInt .i64 ⟨b,5,none⟩ w fun z4=>gInt .i64 ⟨b,2,none⟩ w fun z5=>gInt .i64 ⟨b,3,none⟩ w fun z6=>bnd (C A08 [.pointer z1,iI env,iI z2,iI z3,iI z4,iI z5,iI z6] w) fun r w1=>as2 r fun q1 q2=>aInt .i64 q1 fun z7=>aInt .i64 q2 fun z8=>some (.tuple ⟨[iI z7,iI z8]⟩,w1))
 (cond (x==5)
 (aSome k fun p_1=>gPtr (add p_1 3) w fun z9=>gInt .i64 ⟨b,1,none⟩ w fun z10=>bnd (C Es0 [.pointer z9,iI env,iI z10] w) fun q3 w2=>as2 q3 fun q4 q5=>aInt .i64 q4 fun z11=>aInt .i64 q5 fun z12=>some (.tuple ⟨[iI z11,iI z12]⟩,w2))
 (cond (x==6)
 (aSome k fun p_2=>gPtr (add p_2 4) w fun z13=>aSome k fun p_3=>gSl (add p_3 0) w fun z14 xn _=>aSome z14 fun p_4=>ck ((0:Int)≤env∧env<(xn:Int)) (gInt .i64 (add (B1 p_4) (Int.toNat env*1)) w fun z15=>bnd (C Ay7 [.pointer z13,iI z15] w) fun q6 w3=>as2 q6 fun q7 q8=>aInt .i64 q7 fun z16=>aInt .i64 q8 fun z17=>some (.tuple ⟨[iI z16,iI z17]⟩,w3)))
 (cond (x==7)
 (aSome k fun p_5=>gPtr (add p_5 4) w fun z18=>aSome k fun p_6=>gSl (add p_6 0) w fun z19 xn_1 _=>aSome z19 fun p_7=>ck ((0:Int)≤env∧env<(xn_1:Int)) (gInt .i64 (add (B1 p_7) (Int.toNat env*1)) w fun z20=>gInt .i64 ⟨b,3,none⟩ w fun z21=>bnd (C A10 [.pointer z18,iI z20,iI z21] w) fun q9 w4=>aInt .i64 q9 fun z22=>some (.tuple ⟨[iI 0,iI z22]⟩,w4)))
 (cond (x==8)
 (gAgg ⟨b,0,none⟩ 7 w fun z23=>bnd (C A66 [.pointer k,iI env,.agg ⟨z23⟩] w) fun q10 w5=>as2 q10 fun q11 q12=>aInt .i64 q11 fun z24=>aInt .i64 q12 fun z25=>some (.tuple ⟨[iI z24,iI z25]⟩,w5))
 (cond (x==9)
 (gAgg ⟨b,0,none⟩ 7 w fun z26=>bnd (C A64 [.pointer k,iI env,.agg ⟨z26⟩] w) fun q13 w6=>aInt .i64 q13 fun z27=>some (.tuple ⟨[iI 0,iI z27]⟩,w6))
 (cond (x==10)
 (aSome k fun p_8=>gInt .i64 (add p_8 7) w fun z28=>some (.tuple ⟨[iI z28,iI 0]⟩,w))
 (some (.tuple ⟨[iI 0,iI 7]⟩,w)))))))):=kR
def Ef9:Cuts:=⟨2,[],[],[]⟩
def Gk8:List Item:=A5 Tryz.f90
theorem H03 :
 xQ Ef9 C R Bd5 Tryz.f90 Gk8 [(0,iI n)] h =
 nw (.cells A4 false [.int .u8 (wrap .u8 (Int.fdiv n (2 ^ 8))),.int .u8 (wrap .u8 (n))]) h fun b w=>gCells (some ⟨b,0,none⟩) 2 w fun cs=>asBytes cs fun l=>some (.string (ByteArray.mk ⟨l⟩),w):=kR
def Bt0:Cuts:=⟨2,[],[],[]⟩
def Dn1:List Item:=A5 Tryz.f99
theorem E72 :
 xQ Bt0 C R Ai9 Tryz.f99 Dn1 [(0,.slice b bn bc)] h =
 cond ((bn:Int) != 4)
 (some (.tuple ⟨[iI 0,iI 2]⟩,h))
 (aSome b fun p=>ck ((0:Int)≤0∧0<(bn:Int)) (gInt .u8 (add (B1 p) (Int.toNat 0*1)) h fun x=>bnd (C At6 [iI (wrap .i64 (x))] h) fun r w=>as2 r fun q1 q2=>aSl q1 fun z1 xn _=>aBool q2 fun z2=>bnd (cond (!z2) (some (true,w)) (gCells z1 xn w fun cs=>asBytes cs fun l=>gCells b bn w fun cs_1=>asBytes cs_1 fun l_1=>some (!((ByteArray.mk ⟨l⟩).toList==(ByteArray.mk ⟨l_1⟩).toList),w))) fun c w1=>cond c
 (some (.tuple ⟨[iI 0,iI 2]⟩,w1))
 (aSome b fun p_1=>ck ((0:Int)≤0∧0<(bn:Int)) (gInt .u8 (add (B1 p_1) (Int.toNat 0*1)) w1 fun z3=>some (.tuple ⟨[iI (wrap .i64 (z3)),iI 1]⟩,w1))))):=kR
def Ah6:Cuts:=⟨2,[(2,[0,1,7,8])],[],[]⟩
def Ax1:List Item:=A5 Tryz.f100
def Ac0:List Item:=stk [0,1,0,0,1,4,5] Ax1
theorem Du5 (v:Int) :
 xQ Ah6 C R I9 Tryz.f100 Ax1 [(0,.slice s sn sc),(1,iI v)] h =
 R I9 Ac0 [(0,.slice s sn sc),(1,iI v),(7,iI (sn:Int)),(8,iI 0)] h:=kR
theorem Bb0 (v:Int) :
 xQ Ah6 C R I9 Tryz.f100 Ac0 [(0,.slice s sn sc),(1,iI v),(7,iI x7),(8,iI x8)] h =
 cond (decide (x8<x7))
 (aSome s fun p=>ck ((0:Int)≤x8∧x8<(sn:Int)) (gInt .i64 (add (B1 p) (Int.toNat x8*1)) h fun x=>cond (v==x)
 (some (iI x8,h))
 (R I9 Ac0 [(0,.slice s sn sc),(1,iI v),(7,iI x7),(8,iI (wrap .i64 (x8+1)))] h)))
 (some (iI (-1),h)):=kR
def Aw7:Cuts:=⟨2,[],[],[]⟩
def Bk2:List Item:=A5 Tryz.f102
theorem Du8 :
 xQ Aw7 C R Aa1 Tryz.f102 Bk2 [(0,.slice s sn sc)] h =
 cond s.isNone
 (some (.slice none 0 0,h))
 (nw (.cells B3 false []) h fun b w=>gCells s (sn*1) w fun cs=>ckB (fitsOpen (some ⟨b,0,none⟩) B3 w) (apd B3 1 (some ⟨b,0,none⟩) 0 0 sn cs w fun a an ac w1=>some (.slice a an ac,w1))):=kR
def Dr3:Cuts:=⟨2,[],[(7,[1,2])],[]⟩
def Em5:List Item:=A5 Tryz.f110
def Dl4:List Item:=stk [0,1,0,1,0,1,0] Em5
theorem Ei7 :
 xQ Dr3 C R As6 Tryz.f110 Em5 [(0,.agg ⟨p⟩)] h =
 nw (.cells B2 false p) h fun b w=>gInt .i64 ⟨b,4,none⟩ w fun x=>gInt .i64 ⟨b,5,none⟩ w fun z1=>gInt .i64 ⟨b,0,none⟩ w fun z2=>bnd (cond (z2 != 1) (some (true,w)) (some ((D2 .i64 (J7 .i64 x z1) 65534)==0,w))) fun c w1=>cond c
 (some (.tuple ⟨[iI 0,iI 0]⟩,w1))
 (cond ((D2 .i64 (D2 .i64 (J7 .i64 x z1) 65534) 512) != 0)
 (R As6 Dl4 [(1,pP b),(2,iI 9)] w1)
 (bnd (C W8 [.int .u64 (wrap .u64 (D2 .i64 (J7 .i64 x z1) 65534))] w1) fun r w2=>aInt .i64 r fun z3=>R As6 Dl4 [(1,pP b),(2,iI z3)] w2)):=kR
theorem G31 (p:Addr) :
 xQ Dr3 C R As6 Tryz.f110 Dl4 [(1,.pointer (some p)),(2,iI n)] h =
 gInt .i64 (add p 7) h fun x=>ck ((0:Int)≤(wrap .u64 (n))) (cond ((D2 .i64 (Int.fdiv x (2 ^ (min (Int.toNat (wrap .u64 (n))) 64))) 1)==1)
 (some (.tuple ⟨[iI n,iI 2]⟩,h))
 (cond (n==15)
 (some (.tuple ⟨[iI n,iI 1]⟩,h))
 (cond (n==14)
 (some (.tuple ⟨[iI n,iI 3]⟩,h))
 (some (.tuple ⟨[iI n,iI 4]⟩,h))))):=kR
def D59:Cuts:=⟨2,[],[],[]⟩
def E92:List Item:=A5 Tryz.f119
theorem Hn8 :
 xQ D59 C R Ac9 Tryz.f119 E92 [(0,iI e)] h =
 nw (.cells An3 false [iI 0,iI 0,.slice none 0 0,.bool false]) h fun b w=>pAgg ⟨b,0,none⟩ [iI 0,iI e,.slice none 0 0,.bool false] w fun w1=>gAgg ⟨b,0,none⟩ 4 w1 fun x=>some (.agg ⟨x⟩,w1):=kR
def Ab8:Cuts:=⟨2,[(3,[0,3,9,10,11])],[],[]⟩
def An8:List Item:=A5 Tryz.f125
def P3:List Item:=stk [0,1,0,1,0,0,1,4,5] An8
theorem Dj7 :
 xQ Ab8 C R H0 Tryz.f125 An8 [(0,.pointer t)] h =
 aSome t fun p=>gSl (add p 0) h fun x xn xc=>R H0 P3 [(0,.pointer t),(3,.slice none 0 0),(9,.slice x xn xc),(10,iI (xn:Int)),(11,iI 0)] h:=kR
theorem A17 (out:Option Addr) (outn outc:Nat) (x9:Option Addr) (x9n x9c:Nat) (x10:Int) (x11:Int) :
 xQ Ab8 C R H0 Tryz.f125 P3 [(0,.pointer t),(3,.slice out outn outc),(9,.slice x9 x9n x9c),(10,iI x10),(11,iI x11)] h =
 cond (decide (x11<x10))
 (aSome x9 fun p=>ck ((0:Int)≤x11∧x11<(x9n:Int)) (gAgg (add (B1 p) (Int.toNat x11*8)) 8 h fun x=>nw (.cells Ap1 false [iI 0,iI 0,iI 0,iI 0,iI 0,iI 0,iI 0,.bool false]) h fun b w=>ck (List.length x=8) (pAgg ⟨b,0,none⟩ x w fun w1=>gBool ⟨b,7,none⟩ w1 fun z1=>cond z1
 (bnd (C O9 [.pointer t,iI x11] w1) fun r w2=>aInt .i64 r fun z2=>nw (.cells B3 false [iI z2]) w2 fun p1 w3=>gCells (some ⟨p1,0,none⟩) (1*1) w3 fun cs=>ckB (fitsOpen out B3 w3) (apd B3 1 out outn outc 1 cs w3 fun a an ac w4=>R H0 P3 [(0,.pointer t),(3,.slice a an ac),(9,.slice x9 x9n x9c),(10,iI x10),(11,iI (wrap .i64 (x11+1)))] w4))
 (R H0 P3 [(0,.pointer t),(3,.slice out outn outc),(9,.slice x9 x9n x9c),(10,iI x10),(11,iI (wrap .i64 (x11+1)))] w1))))
 (some (.slice out outn outc,h)):=kR
def Az9:Cuts:=⟨2,[],[],[]⟩
def Bq5:List Item:=A5 Tryz.f126
theorem Dz9 (r:List Value) :
 xQ Az9 C R Ab0 Tryz.f126 Bq5 [(0,.pointer c),(1,.agg ⟨r⟩)] h =
 nw (.cells E0 false r) h fun b w=>nw (.cells B61 false [iI 0,iI 0,iI 0]) w fun p1 w1=>gInt .i64 ⟨b,1,none⟩ w1 fun x=>bnd (cond (decide (x<0)) (some (true,w1)) (gInt .i64 ⟨b,0,none⟩ w1 fun z1=>bnd (C Ac6 [.pointer c,iI z1] w1) fun q1 w2=>aInt .i64 q1 fun z2=>some (decide (x≥z2),w2))) fun c_1 w3=>cond c_1
 (pAgg ⟨p1,0,none⟩ [iI 0,iI 0,iI 0] w3 fun w4=>gAgg ⟨p1,0,none⟩ 3 w4 fun z3=>some (.tuple ⟨[.agg ⟨z3⟩,.bool false]⟩,w4))
 (aSome c fun p=>gSl (add p 2) w3 fun z4 xn _=>aSome z4 fun p_1=>ck ((0:Int)≤0∧0<(xn:Int)) (gInt .i64 (add (B1 p_1) (Int.toNat 0*1)) w3 fun z5=>gInt .i64 ⟨b,0,none⟩ w3 fun z6=>cond (z6==1)
 (pAgg ⟨p1,0,none⟩ [iI z5,iI (wrap .i64 (24*x)),iI 24] w3 fun w5=>gAgg ⟨p1,0,none⟩ 3 w5 fun z7=>some (.tuple ⟨[.agg ⟨z7⟩,.bool true]⟩,w5))
 (gInt .i64 ⟨b,0,none⟩ w3 fun z8=>cond (z8==2)
 (pAgg ⟨p1,0,none⟩ [iI z5,iI (wrap .i64 (192+(wrap .i64 (8*x)))),iI 8] w3 fun w6=>gAgg ⟨p1,0,none⟩ 3 w6 fun z9=>some (.tuple ⟨[.agg ⟨z9⟩,.bool true]⟩,w6))
 (gInt .i64 ⟨b,0,none⟩ w3 fun z10=>bnd (cond (z10==3) (some (decide (x<4),w3)) (some (false,w3))) fun c_2 w7=>cond c_2
 (pAgg ⟨p1,0,none⟩ [iI z5,iI (wrap .i64 (288+(wrap .i64 (40*x)))),iI 40] w7 fun w8=>gAgg ⟨p1,0,none⟩ 3 w8 fun z11=>some (.tuple ⟨[.agg ⟨z11⟩,.bool true]⟩,w8))
 (gInt .i64 ⟨b,0,none⟩ w7 fun z12=>cond (z12==3)
 (aSome c fun p_2=>gSl (add p_2 2) w7 fun z13 xn_1 _=>aSome z13 fun p_3=>ck ((0:Int)≤wrap .i64 ((wrap .i64 (x-4))+1)∧wrap .i64 ((wrap .i64 (x-4))+1)<(xn_1:Int)) (gInt .i64 (add (B1 p_3) (Int.toNat (wrap .i64 ((wrap .i64 (x-4))+1))*1)) w7 fun z14=>pAgg ⟨p1,0,none⟩ [iI z14,iI 0,iI 40] w7 fun w9=>gAgg ⟨p1,0,none⟩ 3 w9 fun z15=>some (.tuple ⟨[.agg ⟨z15⟩,.bool true]⟩,w9)))
 (gInt .i64 ⟨b,0,none⟩ w7 fun z16=>cond (z16==4)
 (pAgg ⟨p1,0,none⟩ [iI z5,iI 448,iI 40] w7 fun w10=>gAgg ⟨p1,0,none⟩ 3 w10 fun z17=>some (.tuple ⟨[.agg ⟨z17⟩,.bool true]⟩,w10))
 (pAgg ⟨p1,0,none⟩ [iI z5,iI 488,iI 4] w7 fun w11=>gAgg ⟨p1,0,none⟩ 3 w11 fun z18=>some (.tuple ⟨[.agg ⟨z18⟩,.bool true]⟩,w11)))))))):=kR
def Bg8:Cuts:=⟨2,[(4,[1,2,22,23,24]),(9,[1,2,43,44,45]),(14,[1,58,59])],[],[]⟩
def Bu2:List Item:=A5 Tryz.f130
def Db0:List Item:=stk [0,1,0,1,0,0,1,4,5] Bu2
def Dd7:List Item:=stk [0,1,0,1,0,1,0,0,1,4,5] Bu2
def Dd1:List Item:=stk [0,1,0,1,0,1,0,1,0,0,1,4,5] Bu2
theorem Hu1 :
 xQ Bg8 C R P6 Tryz.f130 Bu2 [(0,.agg ⟨p⟩),(1,.slice b bn bc)] h =
 nw (.cells B2 false p) h fun p1 w=>gAgg ⟨p1,0,none⟩ 16 w fun x=>bnd (C Ds0 [.agg ⟨x⟩] w) fun r w1=>aBool r fun z1=>cond (!z1)
 (some (.bool false,w1))
 (gInt .i64 ⟨p1,0,none⟩ w1 fun z2=>gInt .i64 ⟨p1,1,none⟩ w1 fun z3=>gInt .i64 ⟨p1,2,none⟩ w1 fun z4=>gInt .i64 ⟨p1,3,none⟩ w1 fun z5=>nw (.cells B3 false [iI z2,iI z3,iI z4,iI z5]) w1 fun p2 w2=>R P6 Db0 [(1,.slice b bn bc),(2,pP p1),(22,.slice (some ⟨p2,0,none⟩) 4 4),(23,iI 4),(24,iI 0)] w2):=kR
theorem A79 (p:Addr) (x22:Option Addr) (x22n x22c:Nat) (x23:Int) (x24:Int) :
 xQ Bg8 C R P6 Tryz.f130 Db0 [(1,.slice b bn bc),(2,.pointer (some p)),(22,.slice x22 x22n x22c),(23,iI x23),(24,iI x24)] h =
 cond (decide (x24<x23))
 (aSome x22 fun p_1=>ck ((0:Int)≤x24∧x24<(x22n:Int)) (gInt .i64 (add (B1 p_1) (Int.toNat x24*1)) h fun x=>aSome b fun p_2=>ck ((0:Int)≤x24∧x24<(bn:Int)) (pV (add (B1 p_2) (Int.toNat x24*1)) (.int .u8 (wrap .u8 (x))) h fun w=>R P6 Db0 [(1,.slice b bn bc),(2,.pointer (some p)),(22,.slice x22 x22n x22c),(23,iI x23),(24,iI (wrap .i64 (x24+1)))] w)))
 (gInt .i64 (add p 4) h fun z1=>gInt .i64 (add p 5) h fun z2=>gInt .i64 (add p 6) h fun z3=>gInt .i64 (add p 7) h fun z4=>nw (.cells B3 false [iI z1,iI z2,iI z3,iI z4]) h fun p1 w1=>R P6 Dd7 [(1,.slice b bn bc),(2,.pointer (some p)),(43,.slice (some ⟨p1,0,none⟩) 4 4),(44,iI 4),(45,iI 0)] w1):=kR
theorem A95 (p:Addr) (x43:Option Addr) (x43n x43c:Nat) (x44:Int) (x45:Int) :
 xQ Bg8 C R P6 Tryz.f130 Dd7 [(1,.slice b bn bc),(2,.pointer (some p)),(43,.slice x43 x43n x43c),(44,iI x44),(45,iI x45)] h =
 cond (decide (x45<x44))
 (aSome x43 fun p_1=>ck ((0:Int)≤x45∧x45<(x43n:Int)) (gInt .i64 (add (B1 p_1) (Int.toNat x45*1)) h fun x=>bnd (C Bn3 [.slice b bn bc,iI (wrap .i64 (4+(wrap .i64 (2*x45)))),iI x] h) fun r w=>aBool r fun _=>R P6 Dd7 [(1,.slice b bn bc),(2,.pointer (some p)),(43,.slice x43 x43n x43c),(44,iI x44),(45,iI (wrap .i64 (x45+1)))] w))
 (gAgg (add p 8) 8 h fun z2=>R P6 Dd1 [(1,.slice b bn bc),(58,.agg ⟨z2⟩),(59,iI 0)] h):=kR
theorem Aa9 (x58:List Value) :
 xQ Bg8 C R P6 Tryz.f130 Dd1 [(1,.slice b bn bc),(58,.agg ⟨x58⟩),(59,iI x59)] h =
 cond (decide (x59<8))
 (ck ((0:Int)≤x59∧x59<((8:Nat):Int)) (nth x58 (Int.toNat x59*1) fun x=>aInt .i64 x fun z1=>aSome b fun p=>ck ((0:Int)≤wrap .i64 (12+x59)∧wrap .i64 (12+x59)<(bn:Int)) (pV (add (B1 p) (Int.toNat (wrap .i64 (12+x59))*1)) (.int .u8 (wrap .u8 (z1))) h fun w=>R P6 Dd1 [(1,.slice b bn bc),(58,.agg ⟨x58⟩),(59,iI (wrap .i64 (x59+1)))] w)))
 (aSome b fun p_1=>ck ((0:Int)≤20∧20<(bn:Int)) (pV (add (B1 p_1) (Int.toNat 20*1)) (.int .u8 167) h fun w1=>ckB (fitsOpen b A4 w1) (ck ((0:Int)≤21∧21≤(bc:Int)) (bnd (C Ad0 [.slice (L5 b (decide (0<bc)) (0*1)) ((Int.toNat 21)-0) (bc-0)] w1) fun r w2=>aInt .u8 r fun z2=>aSome b fun p_2=>ck ((0:Int)≤21∧21<(bn:Int)) (pV (add (B1 p_2) (Int.toNat 21*1)) (.int .u8 z2) w2 fun w3=>some (.bool true,w3)))))):=kR
def Dm3:Cuts:=⟨2,[],[],[]⟩
def Ep7:List Item:=A5 Tryz.f133
theorem G36 :
 xQ Dm3 C R Bg1 Tryz.f133 Ep7 [(0,iI n)] h =
 some (iI (mm2 false (mm2 true n 0) 64),h):=kR
def Ez6:Cuts:=⟨2,[],[],[]⟩
def G07:List Item:=A5 Tryz.f134
theorem Id9 (frames:Int) :
 xQ Ez6 C R D13 Tryz.f134 G07 [(0,iI frames)] h =
 ck ((0:Int)≤wrap .i64 (64*(mm2 false (mm2 true frames 0) 256))∧(wrap .i64 (64*(mm2 false (mm2 true frames 0) 256)):Int)≤wrap .i64 (64*(mm2 false (mm2 true frames 0) 256))∧wrap .i64 (64*(mm2 false (mm2 true frames 0) 256))≤(A8:Int)) (nw (.cells A4 false (L8 (Int.toNat (wrap .i64 (64*(mm2 false (mm2 true frames 0) 256)))) [.int .u8 0])) h fun b w=>nw (.cells Ez7 false [.slice (some ⟨b,0,none⟩) (Int.toNat (wrap .i64 (64*(mm2 false (mm2 true frames 0) 256)))) (Int.toNat (wrap .i64 (64*(mm2 false (mm2 true frames 0) 256))))]) w fun p1 w1=>some (pP p1,w1)):=kR
def Dg4:Cuts:=⟨2,[(3,[3,12,13,14])],[],[(5,⟨[0,1,2,3,4,5,6,7,8,9,10,11,12,13],[0,0,2,6,14,0,32,96,224,480,1022,2047,4095,8191],[],[]⟩)]⟩
def D53:List Item:=A5 Tryz.f136
def Bq0:List Item:=stk [0,1,0,1,0,0,1,4,5] D53
theorem Ht7 (frames:Option Addr) (framesn framesc:Nat) :
 xQ Dg4 C R Av1 Tryz.f136 D53 [(0,.slice frames framesn framesc)] h =
 nw (.cells A02 false [.slice none 0 0]) h fun b w=>ckB (fitsOpen frames B3 w) (ck ((0:Int)≤mm2 false (framesn:Int) 4∧mm2 false (framesn:Int) 4≤(framesc:Int)) (R Av1 Bq0 [(3,pP b),(12,.slice (L5 frames (decide (0<framesc)) (0*1)) ((Int.toNat (mm2 false (framesn:Int) 4))-0) (framesc-0)),(13,iI (((Int.toNat (mm2 false (framesn:Int) 4))-0:Nat):Int)),(14,iI 0)] w)):=kR
theorem Eb7 (q:Addr) (x12:Option Addr) (x12n x12c:Nat) (x14:Int) :
 xQ Dg4 C R Av1 Tryz.f136 Bq0 [(3,.pointer (some q)),(12,.slice x12 x12n x12c),(13,iI x13),(14,iI x14)] h =
 cond (decide (x14<x13))
 (aSome x12 fun p=>ck ((0:Int)≤x14∧x14<(x12n:Int)) (gInt .i64 (add (B1 p) (Int.toNat x14*1)) h fun x=>gSl (add q 0) h fun z1 xn xc=>ck ((0:Int)≤mm2 false (mm2 true x 0) 64∧(mm2 false (mm2 true x 0) 64:Int)≤mm2 false (mm2 true x 0) 64∧mm2 false (mm2 true x 0) 64≤(A8:Int)) (nw (.cells B3 false (L8 (Int.toNat (mm2 false (mm2 true x 0) 64)) [iI 0])) h fun b w=>nw (.cells U5 false [.slice (some ⟨b,0,none⟩) (Int.toNat (mm2 false (mm2 true x 0) 64)) (Int.toNat (mm2 false (mm2 true x 0) 64))]) w fun p1 w1=>gCells (some ⟨p1,0,none⟩) (1*1) w1 fun cs=>ckB (fitsOpen z1 U5 w1) (apd U5 1 z1 xn xc 1 cs w1 fun a an ac w2=>pV (add q 0) (.slice a an ac) w2 fun w3=>R Av1 Bq0 [(3,.pointer (some q)),(12,.slice x12 x12n x12c),(13,iI x13),(14,iI (wrap .i64 (x14+1)))] w3))))
 (some (.pointer (some q),h)):=kR
def Dz8:Cuts:=⟨2,[],[],[]⟩
def Ev0:List Item:=A5 Tryz.f137
theorem G89 :
 xQ Dz8 C R B85 Tryz.f137 Ev0 [(0,.pointer m),(1,.pointer s)] h =
 nw (.cells Du4 false [.pointer m,.pointer s,.slice none 0 0]) h fun b w=>some (pP b,w):=kR
def Bd9:Cuts:=⟨2,[],[],[]⟩
def B57:List Item:=A5 Tryz.f139
theorem Ej1 :
 xQ Bd9 C R At8 Tryz.f139 B57 [(0,.pointer r),(1,iI lo),(2,iI n)] h =
 bnd (cond (decide (lo<0)) (some (true,h)) (some (decide (n<0),h))) fun c w=>bnd (cond c (some (true,w)) (aSome r fun p=>gPtr (add p 0) w fun x=>bnd (C A82 [.pointer x] w) fun q1 w1=>aInt .i64 q1 fun z1=>some (decide (lo>z1),w1))) fun c_1 w2=>bnd (cond c_1 (some (true,w2)) (aSome r fun p_1=>gPtr (add p_1 0) w2 fun z2=>bnd (C A82 [.pointer z2] w2) fun q2 w3=>aInt .i64 q2 fun z3=>some (decide (n>(wrap .i64 (z3-lo))),w3))) fun c_2 w4=>cond c_2
 (some (.tuple ⟨[iI 0,iI 1]⟩,w4))
 (aSome r fun p_2=>gSl (add p_2 2) w4 fun _ xn _=>cond (decide ((xn:Int)≥32))
 (some (.tuple ⟨[iI 0,iI 4]⟩,w4))
 (aSome r fun p_3=>gSl (add p_3 2) w4 fun z5 xn_1 xc_1=>nw (.cells A03 false [iI lo,iI n]) w4 fun b w5=>gCells (some ⟨b,0,none⟩) (1*2) w5 fun cs=>ckB (fitsOpen z5 A03 w5) (apd A03 2 z5 xn_1 xc_1 1 cs w5 fun a an ac w6=>aSome r fun p_4=>pV (add p_4 2) (.slice a an ac) w6 fun w7=>aSome r fun p_5=>gSl (add p_5 2) w7 fun _ xn_2 _=>some (.tuple ⟨[iI (wrap .i64 ((xn_2:Int)-1)),iI 0]⟩,w7)))):=kR
def Bl9:Cuts:=⟨2,[],[],[(5,⟨[0,1,2,3,4,5,6,7,9,10,11,12,13,14,8,15,16,17,18,19,20,21],[0,0,0,4,12,28,0,64,252,0,512,1536,3584,0,8192,32764,65533,131069,262141,524287,1048575,2097151],[(8,[12])],[]⟩)]⟩
def Dj3:List Item:=A5 Tryz.f147
theorem Es4 :
 xQ Bl9 C R A38 Tryz.f147 Dj3 [(0,.pointer r),(1,iI lo),(2,iI n)] h =
 aSome r fun p=>gSl (add p 0) h fun _ xn _=>bnd (C Aj3 [iI lo,iI n,iI (xn:Int)] h) fun q1 w=>aBool q1 fun z1=>cond (!z1)
 (some (.tuple ⟨[iI 0,iI 1]⟩,w))
 (aSome r fun p_1=>gSl (add p_1 1) w fun _ xn_1 _=>cond (decide ((xn_1:Int)≥32))
 (some (.tuple ⟨[iI 0,iI 4]⟩,w))
 (aSome r fun p_2=>gSl (add p_2 1) w fun z3 xn_2 xc_2=>nw (.cells B3 false [iI lo]) w fun b w1=>aSome r fun p_3=>gSl (add p_3 2) w1 fun z4 xn_3 xc_3=>nw (.cells B3 false [iI n]) w1 fun p1 w2=>gCells (some ⟨b,0,none⟩) (1*1) w2 fun cs=>ckB (fitsOpen z3 B3 w2) (apd B3 1 z3 xn_2 xc_2 1 cs w2 fun a an ac w3=>gSl (add p_3 2) w3 fun z5 xn_4 xc_4=>same (.slice z4 xn_3 xc_3) (.slice z5 xn_4 xc_4) (gCells (some ⟨p1,0,none⟩) (1*1) w3 fun cs_1=>ckB (fitsOpen z4 B3 w3) (apd B3 1 z4 xn_3 xc_3 1 cs_1 w3 fun a_1 an_1 ac_1 w4=>aSome r fun p_4=>pV (add p_4 1) (.slice a an ac) w4 fun w5=>aSome r fun p_5=>pV (add p_5 2) (.slice a_1 an_1 ac_1) w5 fun w6=>aSome r fun p_6=>gSl (add p_6 1) w6 fun _ xn_5 _=>some (.tuple ⟨[iI (wrap .i64 ((xn_5:Int)-1)),iI 0]⟩,w6)))))):=kR
def A84:Cuts:=⟨2,[],[],[]⟩
def B20:List Item:=A5 Tryz.f152
theorem Ed4 (fromv:Int) (on:Int) :
 xQ A84 C R Ao7 Tryz.f152 B20 [(0,.pointer r),(1,iI env),(2,iI fromv),(3,iI atv),(4,iI to),(5,iI on),(6,iI n)] h =
 bnd (C Ae6 [.pointer r,iI env,iI fromv,iI atv,iI n] h) fun q1 w=>as2 q1 fun q2 q3=>aSl q2 fun x xn xc=>aInt .i64 q3 fun z1=>cond (z1 != 0)
 (some (iI z1,w))
 (bnd (C Ad3 [.pointer r,iI env,iI to,iI on,.slice x xn xc] w) fun q4 w1=>aInt .i64 q4 fun z2=>some (iI z2,w1)):=kR
def Bl0:Cuts:=⟨2,[],[],[]⟩
def Dj6:List Item:=A5 Tryz.f156
theorem Ez1 (q:Option Addr) (s:Int) (k:Int) :
 xQ Bl0 C R A10 Tryz.f156 Dj6 [(0,.pointer q),(1,iI s),(2,iI k)] h =
 bnd (C Al4 [.pointer q,iI s] h) fun r w=>aBool r fun x=>cond (!x)
 (some (iI 1,w))
 (bnd (C A21 [.pointer q,iI s,iI k] w) fun q1 w1=>aBool q1 fun z1=>cond (!z1)
 (some (iI 5,w1))
 (aSome q fun p=>gSl (add p 0) w1 fun z2 xn _=>aSome z2 fun p_1=>ck ((0:Int)≤s∧s<(xn:Int)) (gSl (add (B1 p_1) (Int.toNat s*1)) w1 fun z3 xn_1 _=>aSome z3 fun p_2=>ck ((0:Int)≤k∧k<(xn_1:Int)) (pV (add (B1 p_2) (Int.toNat k*1)) (iI 0) w1 fun w2=>some (iI 0,w2))))):=kR
def Aj6:Cuts:=⟨2,[],[],[(4,⟨[0,1,2,3,4,10,5,6,7,8,9,11,12],[0,1,3,7,0,16,63,127,255,255,0,1535,4095],[(5,[3])],[]⟩)]⟩
def A57:List Item:=A5 Tryz.f172
theorem Da0 :
 xQ Aj6 C R Y9 Tryz.f172 A57 [(0,.pointer c),(1,.slice b bn bc)] h =
 nw (.cells N1 false [iI 0,iI 0,iI 0,iI 0]) h fun p1 w=>nw (.cells N1 false [iI 0,iI 0,iI 0,iI 0]) w fun p2 w1=>aSome c fun p=>gFv (add p 2) w1 fun x=>isNilF x fun p3=>bnd (cond p3 (some (true,w1)) (aSome c fun p_1=>gInt .i64 (add p_1 0) w1 fun z1=>some ((bn:Int) != z1,w1))) fun c_1 w2=>cond c_1
 (gAgg ⟨p2,0,none⟩ 4 w2 fun z2=>ck (List.length z2=4) (pAgg ⟨p1,0,none⟩ z2 w2 fun w3=>gAgg ⟨p1,0,none⟩ 4 w3 fun z3=>some (.tuple ⟨[.agg ⟨z3⟩,.bool false]⟩,w3)))
 (aSome c fun p_2=>gFv (add p_2 2) w2 fun z4=>nw (.cells N1 false [iI 0,iI 0,iI 0,iI 0]) w2 fun p4 w4=>bnd (C E3 [.slice b bn bc] w4) fun r w5=>aSl r fun z5 xn xc=>gFv (add p_2 2) w5 fun z6=>Bo9 (z4) (z6) (aFn z4 fun g fi cp=>bnd (C g (fi++([.slice z5 xn xc]++cp)) w5) fun q1 w6=>as2 q1 fun q2 q3=>aAgg q2 fun z7=>aBool q3 fun z8=>ck (List.length z7=4) (pAgg ⟨p4,0,none⟩ z7 w6 fun w7=>cond (!z8)
 (gAgg ⟨p2,0,none⟩ 4 w7 fun z9=>ck (List.length z9=4) (pAgg ⟨p1,0,none⟩ z9 w7 fun w8=>gAgg ⟨p1,0,none⟩ 4 w8 fun z10=>some (.tuple ⟨[.agg ⟨z10⟩,.bool false]⟩,w8)))
 (gAgg ⟨p4,0,none⟩ 4 w7 fun z11=>ck (List.length z11=4) (pAgg ⟨p1,0,none⟩ z11 w7 fun w9=>gAgg ⟨p1,0,none⟩ 4 w9 fun z12=>some (.tuple ⟨[.agg ⟨z12⟩,.bool true]⟩,w9)))))):=kR
def Dg7:Cuts:=⟨2,[(2,[0,6])],[],[]⟩
def D88:List Item:=A5 Tryz.f184
def Bp6:List Item:=stk [0,1,0,0,1,4,5] D88
theorem Hq0 :
 xQ Dg7 C R Av3 Tryz.f184 D88 [(0,.pointer c)] h =
 R Av3 Bp6 [(0,.pointer c),(6,iI 0)] h:=kR
theorem Ec3 (x6:Int) :
 xQ Dg7 C R Av3 Tryz.f184 Bp6 [(0,.pointer c),(6,iI x6)] h =
 cond (decide (x6<8))
 (bnd (C E2 [.pointer c,iI x6] h) fun r w=>as2 r fun q1 q2=>aAgg q1 fun x=>aInt .i64 q2 fun z1=>nw (.cells B2 false zZ1) w fun b w1=>ck (List.length x=16) (pAgg ⟨b,0,none⟩ x w1 fun w2=>cond (z1==0)
 (some (iI x6,w2))
 (R Av3 Bp6 [(0,.pointer c),(6,iI (wrap .i64 (x6+1)))] w2)))
 (some (iI (-1),h)):=kR
def Br5:Cuts:=⟨2,[],[],[]⟩
def Do1:List Item:=A5 Tryz.f188
theorem E65 :
 xQ Br5 C R A73 Tryz.f188 Do1 [(0,.agg ⟨x⟩)] h =
 nw (.cells N6 false x) h fun b w=>gInt .i64 ⟨b,1,none⟩ w fun z1=>some (.bool (z1 != 2),w):=kR
def Bt7:Cuts:=⟨2,[],[(6,[2,4,6]),(8,[2,4,6])],[]⟩
def Df2:List Item:=A5 Tryz.f190
def A77:List Item:=stk [0,1,0,1,0,1,0,1,0,0] Df2
def Bo5:List Item:=stk [0,1,0,1,0,1,0,1,0,1,0,0] Df2
theorem Hs3 :
 xQ Bt7 C R W1 Tryz.f190 Df2 [(0,.agg ⟨p⟩),(1,iI n)] h =
 nw (.cells B2 false p) h fun b w=>nw (.cells B2 false zZ1) w fun p1 w1=>bnd (C Eh9 [iI n] w1) fun r w2=>aBool r fun x=>bnd (cond (!x) (some (true,w2)) (gInt .i64 ⟨b,0,none⟩ w2 fun z1=>bnd (cond (z1 != 1) (gInt .i64 ⟨b,0,none⟩ w2 fun z2=>some (z2 != 3,w2)) (some (false,w2))) fun c w3=>some (c,w3))) fun c_1 w4=>cond c_1
 (gAgg ⟨b,0,none⟩ 16 w4 fun z3=>ck (List.length z3=16) (pAgg ⟨p1,0,none⟩ z3 w4 fun w5=>gAgg ⟨p1,0,none⟩ 16 w5 fun z4=>some (.tuple ⟨[.agg ⟨z4⟩,.bool false]⟩,w5)))
 (ck ((0:Int)≤(wrap .u64 (n))) (gInt .i64 ⟨b,6,none⟩ w4 fun z5=>bnd (cond ((D2 .i64 z5 (wrap .i64 (1*2 ^ (min (Int.toNat (wrap .u64 (n))) 64))))==0) (some (true,w4)) (some ((D2 .i64 (wrap .i64 (1*2 ^ (min (Int.toNat (wrap .u64 (n))) 64))) 16896) != 0,w4))) fun c_2 w6=>cond c_2
 (gInt .i64 ⟨b,4,none⟩ w6 fun z6=>pV ⟨b,4,none⟩ (iI (Bb7 .i64 z6 (wrap .i64 (1*2 ^ (min (Int.toNat (wrap .u64 (n))) 64))))) w6 fun w7=>R W1 A77 [(2,pP b),(4,pP p1),(6,iI (wrap .i64 (1*2 ^ (min (Int.toNat (wrap .u64 (n))) 64))))] w7)
 (R W1 A77 [(2,pP b),(4,pP p1),(6,iI (wrap .i64 (1*2 ^ (min (Int.toNat (wrap .u64 (n))) 64))))] w6))):=kR
theorem Gs8 (p:Addr) (b:Int) :
 xQ Bt7 C R W1 Tryz.f190 A77 [(2,.pointer (some p)),(4,.pointer (some x4)),(6,iI b)] h =
 bnd (cond (b==512) (some (true,h)) (some (b==32768,h))) fun c w=>bnd (cond c (gInt .i64 (add p 0) w fun x=>some (x==3,w)) (some (false,w))) fun c_1 w1=>cond c_1
 (pV (add p 0) (iI 1) w1 fun w2=>R W1 Bo5 [(2,.pointer (some p)),(4,.pointer (some x4)),(6,iI b)] w2)
 (R W1 Bo5 [(2,.pointer (some p)),(4,.pointer (some x4)),(6,iI b)] w1):=kR
theorem Gs2 (p:Addr) (b:Int) :
 xQ Bt7 C R W1 Tryz.f190 Bo5 [(2,.pointer (some p)),(4,.pointer (some x4)),(6,iI b)] h =
 cond (b==32768)
 (gInt .i64 (add p 4) h fun x=>pV (add p 4) (iI (J7 .i64 x 16384)) h fun w=>gAgg p 16 w fun z1=>ck (List.length z1=16) (pAgg x4 z1 w fun w1=>gAgg x4 16 w1 fun z2=>some (.tuple ⟨[.agg ⟨z2⟩,.bool true]⟩,w1)))
 (cond (b==16384)
 (gInt .i64 (add p 4) h fun z3=>pV (add p 4) (iI (J7 .i64 z3 32768)) h fun w2=>gAgg p 16 w2 fun z4=>ck (List.length z4=16) (pAgg x4 z4 w2 fun w3=>gAgg x4 16 w3 fun z5=>some (.tuple ⟨[.agg ⟨z5⟩,.bool true]⟩,w3)))
 (gAgg p 16 h fun z6=>ck (List.length z6=16) (pAgg x4 z6 h fun w4=>gAgg x4 16 w4 fun z7=>some (.tuple ⟨[.agg ⟨z7⟩,.bool true]⟩,w4)))):=kR
def Dc9:Cuts:=⟨2,[],[],[]⟩
def Ed5:List Item:=A5 Tryz.f214
theorem Gx0 (s:Int) :
 xQ Dc9 C R I7 Tryz.f214 Ed5 [(0,iI s),(1,.pointer (some fv0))] h =
 bnd (cond (decide (s<0)) (some (true,h)) (gSl (add fv0 0) h fun _ xn _=>some (decide (s≥(xn:Int)),h))) fun c w=>some (.bool c,w):=kR
def Bs9:Cuts:=⟨2,[],[],[]⟩
def Do0:List Item:=A5 Tryz.f232
theorem E80 :
 xQ Bs9 C R A65 Tryz.f232 Do0 [(0,.pointer s),(1,iI who),(2,iI stamp)] h =
 bnd (C Ai7 [.pointer s,iI who,iI stamp] h) fun r w=>aBool r fun x=>cond (!x)
 (some (.bool false,w))
 (aSome s fun p=>pV (add p 1) (.bool false) w fun w1=>aSome s fun p_1=>gInt .i64 (add p_1 7) w1 fun z1=>aSome s fun p_2=>pV (add p_2 6) (iI z1) w1 fun w2=>some (.bool true,w2)):=kR
def Bc2:Cuts:=⟨2,[(2,[0,4])],[],[]⟩
def By4:List Item:=A5 Tryz.f234
def Az1:List Item:=stk [0,1,0,0,1,4,5] By4
theorem Ge0 (n:Option Addr) :
 xQ Bc2 C R Z6 Tryz.f234 By4 [(0,.pointer n)] h =
 R Z6 Az1 [(0,.pointer n),(4,iI 0)] h:=kR
theorem Da6 (n:Option Addr) :
 xQ Bc2 C R Z6 Tryz.f234 Az1 [(0,.pointer n),(4,iI i)] h =
 aSome n fun p=>gSl (add p 0) h fun _ xn _=>cond (decide (i<(xn:Int)))
 (aSome n fun p_1=>gSl (add p_1 0) h fun z1 xn_1 _=>aSome z1 fun p_2=>ck ((0:Int)≤i∧i<(xn_1:Int)) (gBool (add (add (B1 p_2) (Int.toNat i*2)) 1) h fun z2=>bnd (cond (!z2) (aSome n fun p_3=>gSl (add p_3 0) h fun z3 xn_2 _=>aSome z3 fun p_4=>ck ((0:Int)≤i∧i<(xn_2:Int)) (gInt .i64 (add (add (B1 p_4) (Int.toNat i*2)) 0) h fun z4=>some (decide (z4≤1000000),h))) (some (false,h))) fun c w=>cond c
 (aSome n fun p_5=>gSl (add p_5 0) w fun z5 xn_3 _=>aSome z5 fun p_6=>ck ((0:Int)≤i∧i<(xn_3:Int)) (pV (add (add (B1 p_6) (Int.toNat i*2)) 1) (.bool true) w fun w1=>aSome n fun p_7=>gSl (add p_7 0) w1 fun z6 xn_4 _=>aSome z6 fun p_8=>ck ((0:Int)≤i∧i<(xn_4:Int)) (gInt .i64 (add (add (B1 p_8) (Int.toNat i*2)) 0) w1 fun z7=>some (.tuple ⟨[iI (wrap .i64 (i+(wrap .i64 (256*z7)))),.bool true]⟩,w1))))
 (R Z6 Az1 [(0,.pointer n),(4,iI (wrap .i64 (i+1)))] w)))
 (some (.tuple ⟨[iI 0,.bool false]⟩,h)):=kR
def D98:Cuts:=⟨2,[],[],[]⟩
def Ga2:List Item:=A5 Tryz.f238
theorem Hs0 :
 xQ D98 C R Av5 Tryz.f238 Ga2 [(0,.agg ⟨f⟩),(1,.slice b bn bc)] h =
 nw (.cells N1 false f) h fun p1 w=>gAgg ⟨p1,0,none⟩ 4 w fun x=>bnd (C Dq2 [.agg ⟨x⟩] w) fun r w1=>aBool r fun z1=>cond (!z1)
 (some (.bool false,w1))
 (gInt .i64 ⟨p1,0,none⟩ w1 fun z2=>gInt .i64 ⟨p1,1,none⟩ w1 fun z3=>gInt .i64 ⟨p1,2,none⟩ w1 fun z4=>gInt .i64 ⟨p1,3,none⟩ w1 fun z5=>nw (.cells A4 false [.int .u8 (wrap .u8 (z2)),.int .u8 (wrap .u8 (z3)),.int .u8 (wrap .u8 (z4)),.int .u8 (wrap .u8 (z5)),.int .u8 179]) w1 fun p2 w2=>gCells (some ⟨p2,0,none⟩) (min 5 bn*1) w2 fun cs=>pCells b cs w2 fun w3=>ckB (fitsOpen b A4 w3) (ck ((0:Int)≤5∧5≤(bc:Int)) (bnd (C Ad0 [.slice (L5 b (decide (0<bc)) (0*1)) ((Int.toNat 5)-0) (bc-0)] w3) fun q1 w4=>aInt .u8 q1 fun z6=>aSome b fun p=>ck ((0:Int)≤5∧5<(bn:Int)) (pV (add (B1 p) (Int.toNat 5*1)) (.int .u8 z6) w4 fun w5=>some (.bool true,w5))))):=kR
def Bb5:Cuts:=⟨2,[],[],[]⟩
def B78:List Item:=A5 Tryz.f240
theorem Eh4 (size:Int) (put:Value) (get:Value) :
 xQ Bb5 C R At2 Tryz.f240 B78 [(0,iI size),(1,put),(2,get)] h =
 one put (one get (nw (.cells Bv5 false [iI (mm2 false (mm2 true size 0) 64),put,get]) h fun b w=>some (pP b,w))):=kR
def Eg8:Cuts:=⟨2,[],[],[(5,⟨[0,1,2,3,4],[0,1,0,4,15],[],[]⟩)]⟩
def Gl3:List Item:=A5 Tryz.f241
theorem Hy9 :
 xQ Eg8 C R Bp4 Tryz.f241 Gl3 [(0,.agg ⟨p⟩),(1,.slice b bn bc)] h =
 nw (.cells O3 false p) h fun p1 w=>gAgg ⟨p1,0,none⟩ 36 w fun x=>bnd (C D05 [.agg ⟨x⟩] w) fun r w1=>aBool r fun z1=>cond (!z1)
 (some (.bool false,w1))
 (gInt .i64 ⟨p1,0,none⟩ w1 fun z2=>gInt .i64 ⟨p1,1,none⟩ w1 fun z3=>gInt .i64 ⟨p1,2,none⟩ w1 fun z4=>gInt .i64 ⟨p1,3,none⟩ w1 fun z5=>nw (.cells A4 false [.int .u8 1,.int .u8 (wrap .u8 (z2)),.int .u8 (wrap .u8 (z3)),.int .u8 (wrap .u8 (z4)),.int .u8 (wrap .u8 (z5)),.int .u8 197]) w1 fun p2 w2=>gCells (some ⟨p2,0,none⟩) (min 6 bn*1) w2 fun cs=>pCells b cs w2 fun w3=>ckB (fitsOpen b A4 w3) (ck ((0:Int)≤6∧6≤(bc:Int)) (bnd (C Ad0 [.slice (L5 b (decide (0<bc)) (0*1)) ((Int.toNat 6)-0) (bc-0)] w3) fun q1 w4=>aInt .u8 q1 fun z6=>aSome b fun p_1=>ck ((0:Int)≤6∧6<(bn:Int)) (pV (add (B1 p_1) (Int.toNat 6*1)) (.int .u8 z6) w4 fun w5=>ckB (fitsOpen b A4 w5) (ck ((0:Int)≤8∧8≤(bn:Int)) (ckB (liveA ⟨p1,4,none⟩ w5) (gCells (L5 (some ⟨p1,4,none⟩) (decide (0<32)) (0*1)) (min (32-0) (bn-(Int.toNat 8))*1) w5 fun cs_1=>pCells (L5 b (decide (Int.toNat 8<bc)) ((Int.toNat 8)*1)) cs_1 w5 fun w6=>some (.bool true,w6)))))))):=kR
def Aa8:Cuts:=⟨2,[(2,[0,1,7,8])],[],[]⟩
def Al8:List Item:=A5 Tryz.f271
def O7:List Item:=stk [0,1,0,0,1,4,5] Al8
theorem A97 (f:Value) :
 xQ Aa8 C R D7 Tryz.f271 Al8 [(0,.slice s sn sc),(1,f)] h =
 R D7 O7 [(0,.slice s sn sc),(1,f),(7,iI (sn:Int)),(8,iI 0)] h:=kR
theorem V6 (f:Value) :
 xQ Aa8 C R D7 Tryz.f271 O7 [(0,.slice s sn sc),(1,f),(7,iI x7),(8,iI x8)] h =
 cond (decide (x8<x7))
 (aSome s fun p=>ck ((0:Int)≤x8∧x8<(sn:Int)) (gInt .i64 (add (B1 p) (Int.toNat x8*1)) h fun x=>aFn f fun g fi cp=>bnd (C g (fi++([iI x]++cp)) h) fun r w=>aBool r fun z1=>cond z1
 (some (iI x8,w))
 (R D7 O7 [(0,.slice s sn sc),(1,f),(7,iI x7),(8,iI (wrap .i64 (x8+1)))] w)))
 (some (iI (-1),h)):=kR
def Af9:Cuts:=⟨2,[(2,[0,3,11,12,13])],[],[(5,⟨[0,1,2,3,4,5,6,7,8,9,10,11,12,13,14,15,16],[0,1,3,7,0,0,32,96,224,0,0,1535,3583,7679,16383,32767,65535],[],[]⟩)]⟩
def Au3:List Item:=A5 Tryz.f272
def Aa5:List Item:=stk [0,1,0,0,1,4,5] Au3
theorem Do4 (v:List Value) :
 xQ Af9 C R L1 Tryz.f272 Au3 [(0,.pointer t),(1,.agg ⟨v⟩)] h =
 nw (.cells Q8 false v) h fun b w=>aSome t fun p=>gSl (add p 0) w fun x xn xc=>R L1 Aa5 [(0,.pointer t),(3,pP b),(11,.slice x xn xc),(12,iI (xn:Int)),(13,iI 0)] w:=kR
theorem A90 (x11:Option Addr) (x11n x11c:Nat) (x12:Int) :
 xQ Af9 C R L1 Tryz.f272 Aa5 [(0,.pointer t),(3,.pointer (some v)),(11,.slice x11 x11n x11c),(12,iI x12),(13,iI x13)] h =
 cond (decide (x13<x12))
 (aSome x11 fun p=>ck ((0:Int)≤x13∧x13<(x11n:Int)) (gAgg (add (B1 p) (Int.toNat x13*8)) 8 h fun x=>nw (.cells Ap1 false [iI 0,iI 0,iI 0,iI 0,iI 0,iI 0,iI 0,.bool false]) h fun b w=>ck (List.length x=8) (pAgg ⟨b,0,none⟩ x w fun w1=>gBool ⟨b,7,none⟩ w1 fun z1=>bnd (cond (!z1) (gInt .i64 ⟨b,6,none⟩ w1 fun z2=>some (decide (z2≤1000000),w1)) (some (false,w1))) fun c w2=>cond c
 (aSome t fun p_1=>gSl (add p_1 0) w2 fun z3 xn _=>aSome t fun p_2=>gSl (add p_2 0) w2 fun z4 xn_1 _=>gAgg v 6 w2 fun z5=>aSome z3 fun p_3=>ck ((0:Int)≤x13∧x13<(xn:Int)) (ck (List.length z5=6) (pAgg (add (add (B1 p_3) (Int.toNat x13*8)) 0) z5 w2 fun w3=>aSome z4 fun p_4=>ck ((0:Int)≤x13∧x13<(xn_1:Int)) (pV (add (add (B1 p_4) (Int.toNat x13*8)) 7) (.bool true) w3 fun w4=>bnd (C O9 [.pointer t,iI x13] w4) fun r w5=>aInt .i64 r fun z6=>some (.tuple ⟨[iI z6,.bool true]⟩,w5)))))
 (R L1 Aa5 [(0,.pointer t),(3,.pointer (some v)),(11,.slice x11 x11n x11c),(12,iI x12),(13,iI (wrap .i64 (x13+1)))] w2))))
 (some (.tuple ⟨[iI 0,.bool false]⟩,h)):=kR
def El0:Cuts:=⟨2,[],[],[]⟩
def Gq6:List Item:=A5 Tryz.f278
theorem H35 :
 xQ El0 C R Dq2 Tryz.f278 Gq6 [(0,.agg ⟨f⟩)] h =
 nw (.cells N1 false f) h fun b w=>gInt .i64 ⟨b,0,none⟩ w fun x=>bnd (cond (decide (x≥1)) (gInt .i64 ⟨b,0,none⟩ w fun z1=>some (decide (z1≤3),w)) (some (false,w))) fun c w1=>bnd (cond c (gInt .i64 ⟨b,1,none⟩ w1 fun z2=>some (decide (z2≥0),w1)) (some (false,w1))) fun c_1 w2=>bnd (cond c_1 (gInt .i64 ⟨b,1,none⟩ w2 fun z3=>some (decide (z3≤7),w2)) (some (false,w2))) fun c_2 w3=>bnd (cond c_2 (gInt .i64 ⟨b,0,none⟩ w3 fun z4=>bnd (cond (z4 != 3) (some (true,w3)) (gInt .i64 ⟨b,1,none⟩ w3 fun z5=>some (z5==0,w3))) fun c_3 w4=>some (c_3,w4)) (some (false,w3))) fun c_4 w5=>bnd (cond c_4 (gInt .i64 ⟨b,2,none⟩ w5 fun z6=>some (decide (z6≥1),w5)) (some (false,w5))) fun c_5 w6=>bnd (cond c_5 (gInt .i64 ⟨b,2,none⟩ w6 fun z7=>some (decide (z7≤64),w6)) (some (false,w6))) fun c_6 w7=>bnd (cond c_6 (gInt .i64 ⟨b,3,none⟩ w7 fun z8=>bnd (cond (z8==0) (some (true,w7)) (gInt .i64 ⟨b,3,none⟩ w7 fun z9=>some (z9==1,w7))) fun c_7 w8=>some (c_7,w8)) (some (false,w7))) fun c_8 w9=>some (.bool c_8,w9):=kR
def Eu7:Cuts:=⟨2,[],[],[]⟩
def G08:List Item:=A5 Tryz.f280
theorem Ie4 :
 xQ Eu7 C R D05 Tryz.f280 G08 [(0,.agg ⟨p⟩)] h =
 nw (.cells O3 false p) h fun b w=>gInt .i64 ⟨b,0,none⟩ w fun x=>bnd (C Av2 [iI x,iI 31] w) fun r w1=>aBool r fun z1=>bnd (cond z1 (gInt .i64 ⟨b,1,none⟩ w1 fun z2=>bnd (C Av2 [iI z2,iI 32] w1) fun q1 w2=>aBool q1 fun z3=>some (z3,w2)) (some (false,w1))) fun c w3=>bnd (cond c (gInt .i64 ⟨b,2,none⟩ w3 fun z4=>bnd (C Av2 [iI z4,iI 8] w3) fun q2 w4=>aBool q2 fun z5=>some (z5,w4)) (some (false,w3))) fun c_1 w5=>bnd (cond c_1 (gInt .i64 ⟨b,3,none⟩ w5 fun z6=>bnd (C Av2 [iI z6,iI 8] w5) fun q3 w6=>aBool q3 fun z7=>some (z7,w6)) (some (false,w5))) fun c_2 w7=>some (.bool c_2,w7):=kR
def Dl5:Cuts:=⟨2,[],[],[(1,⟨[1,0,2,3,4,5,6],[0,0,3,7,7,31,63],[(0,[1])],[]⟩)]⟩
def Eo4:List Item:=A5 Tryz.f281
theorem G63 :
 xQ Dl5 C R Bv9 Tryz.f281 Eo4 [(0,.agg ⟨p⟩)] h =
 nw (.cells O3 false p) h fun b w=>gAgg ⟨b,0,none⟩ 36 w fun x=>bnd (C Bm7 [] w) fun r w1=>aPtr r fun z1=>gAgg ⟨b,0,none⟩ 36 w1 fun z2=>same (.agg ⟨x⟩) (.agg ⟨z2⟩) (bnd (C Y6 [.pointer z1,.agg ⟨x⟩] w1) fun q1 w2=>as2 q1 fun q2 q3=>aSl q2 fun z3 xn xc=>aBool q3 fun z4=>some (.tuple ⟨[.slice z3 xn xc,.bool z4]⟩,w2)):=kR
def Aj7:Cuts:=⟨2,[],[],[(2,⟨[0,1,2,3,4,5,6,7,8,9,10,11,12,13,14],[0,1,3,7,15,31,63,127,255,511,63,63,4095,8191,16383],[],[]⟩)]⟩
def A59:List Item:=A5 Tryz.f292
theorem B97 (v:List Value) :
 xQ Aj7 C R Y6 Tryz.f292 A59 [(0,.pointer c),(1,.agg ⟨v⟩)] h =
 nw (.cells O3 false v) h fun b w=>aSome c fun p=>gInt .i64 (add p 0) w fun x=>ck ((0:Int)≤x∧(x:Int)≤x∧x≤(A8:Int)) (nw (.cells A4 false (L8 (Int.toNat x) [.int .u8 0])) w fun p1 w1=>aSome c fun p_1=>gFv (add p_1 1) w1 fun z1=>isNilF z1 fun p2=>bnd (cond p2 (some (true,w1)) (aSome c fun p_2=>gFv (add p_2 1) w1 fun z2=>gAgg ⟨b,0,none⟩ 36 w1 fun z3=>aFn z2 fun g fi cp=>bnd (C g (fi++([.agg ⟨z3⟩,.slice (some ⟨p1,0,none⟩) (Int.toNat x) (Int.toNat x)]++cp)) w1) fun r w2=>aBool r fun z4=>some (!z4,w2))) fun c_1 w3=>cond c_1
 (some (.tuple ⟨[.slice none 0 0,.bool false]⟩,w3))
 (some (.tuple ⟨[.slice (some ⟨p1,0,none⟩) (Int.toNat x) (Int.toNat x),.bool true]⟩,w3))):=kR
end
end Go.EQ

set_option maxRecDepth 100000
namespace Go.EQ
open Go Go.NN Go.Proofs
variable (C:D3) (R:Aa7)
noncomputable section
def Ir1:List (Nat × Cuts):=[(3,Ay9),(7,B76),(8,A93),(9,Bs6),(10,Be1),(11,Bs3),(12,Bg9),(13,A44),(14,Bo3),(15,Bs5),(16,Dm4),(21,B43),(22,Dk6),(23,Ek5),(24,B81),(25,V8),(26,Aq2),(28,B05),(29,Br2),(30,Bz2),(31,De6),(33,B62),(34,Dk5),(35,Af4),(36,De0),(37,Db7),(38,En5),(39,B80),(40,Dv0),(41,Dx5),(42,A70),(43,Db9),(44,Dc6),(45,Dm2),(46,A75),(47,Bt1),(48,Bz1),(49,Bm0),(50,A41),(51,A43),(52,A40),(53,A50),(54,Az6),(55,Bz7),(57,Bs8),(58,Ef4),(64,Bw5),(65,Au0),(67,Br3),(68,Bl1),(69,A45),(70,Dl6),(71,Dl2),(72,Ak3),(73,A88),(74,Bb1),(75,Aw0),(76,Dr4),(77,Bs4),(78,Bm6),(80,Bd8),(89,Bm8),(90,Ef9),(91,Bz0),(92,Af8),(93,Da9),(94,Dc3),(95,Af5),(96,Db1),(97,Dk8),(98,Ar9),(99,Bt0),(100,Ah6),(102,Aw7),(103,Dl3),(104,D92),(106,Dg8),(108,D51),(110,Dr3),(116,Db6),(117,Az8),(118,D70),(119,D59),(122,D82),(124,B66),(125,Ab8),(126,Az9),(127,Ac8),(128,B88),(129,Bc8),(130,Bg8),(131,Bv2),(132,Bk7),(133,Dm3),(134,Ez6),(135,Dp5),(136,Dg4),(137,Dz8),(138,Eg9),(139,Bd9),(140,Ay8),(141,An2),(142,By3),(143,Bi8),(144,A26),(145,Bk1),(146,Dd8),(147,Bl9),(148,D47),(149,Bx7),(150,Ba3),(151,A52),(152,A84),(153,Bk5),(155,Bi0),(156,Bl0),(157,Br8),(158,Br4),(159,Be6),(160,B06),(161,By8),(162,Dk9),(163,B00),(170,Bd1),(171,Dl1),(172,Aj6),(173,Dt5),(174,Aj9),(175,Bb3),(184,Dg7),(185,A87),(186,B44),(188,Br5),(189,Dd4),(190,Bt7),(196,Ar8),(203,Aj8),(207,Aq3),(208,W9),(209,Eh6),(210,Du0),(211,Df6),(212,Dw0),(213,Ad9),(214,Dc9),(215,Ag5),(216,Dy4),(217,Az2),(218,Dc7),(219,Bn0),(220,By0),(221,Bj0),(222,A46),(223,Dd2),(224,B58),(225,B07),(228,Bz3),(229,Bl5),(230,By1),(231,W2),(232,Bs9),(233,Bz6),(234,Bc2),(237,Bb2),(238,D98),(239,D87),(240,Bb5),(241,Eg8),(242,Ek3),(249,As0),(261,Bx8),(262,Gg9),(265,Ao0),(269,Dt4),(270,Dt3),(271,Aa8),(272,Af9),(273,Dy0),(274,At4),(277,Ax5),(278,El0),(279,De5),(280,Eu7),(281,Dl5),(290,Ak0),(291,D73),(292,Aj7)]
def cutsOf:FuncId→Cuts:=Gp7 Ir1
noncomputable abbrev A6:D3:=NN.Call PR cutsOf
noncomputable abbrev I4:Aa7:=NN.Jump PR cutsOf
abbrev fK (f:FuncId) (fn:Func) (C:Cuts) (T:List Item) (n:Nat):Prop:=FnOk PR cutsOf f fn C T n
theorem fM {f : FuncId} {fn : Func} {C : Cuts} {T : List Item} {n : Nat} (a : PR.funcs[f]? = some fn) (b : ∃ c, fn.body = some c := by exact ⟨_, rfl⟩) (c : (fn.name == "runtime.NumGoroutine") = false := by kernel_rfl) (d : cutsOf f = C := by exact rfl) (e : A5 fn = T := by exact rfl) (g : Nat.ble n fn.ntmps = true := by kernel_rfl) : fK f fn C T n := ⟨a, b, c, d, e, g⟩
theorem Bh7:fK D0 Tryz.f3 Ay9 Bh0 1:=fM Tryz.func3
theorem Dw2:fK Ad4 Tryz.f7 B76 Dv9 0:=fM Tryz.func7
theorem Ee0:fK E7 Tryz.f8 A93 B16 3:=fM Tryz.func8
theorem Bs2:fK Q9 Tryz.f9 Bs6 Dm6 2:=fM Tryz.func9
theorem Ae1:fK D6 Tryz.f10 Be1 Bx5 1:=fM Tryz.func10
theorem E59:fK A74 Tryz.f11 Bs3 Dn8 1:=fM Tryz.func11
theorem Er0:fK Ak9 Tryz.f12 Bg9 Da5 1:=fM Tryz.func12
theorem D76:fK E2 Tryz.f13 A44 Bv3 2:=fM Tryz.func13
theorem Db2:fK Ae5 Tryz.f14 Bo3 De7 1:=fM Tryz.func14
theorem E67:fK Ai8 Tryz.f15 Bs5 Dn3 1:=fM Tryz.func15
theorem G58:fK Bx2 Tryz.f16 Dm4 Eo9 0:=fM Tryz.func16
theorem B34:fK An9 Tryz.f21 B43 Dv1 1:=fM Tryz.func21
theorem G28:fK Bw9 Tryz.f22 Dk6 Eo6 0:=fM Tryz.func22
theorem En3:fK A25 Tryz.f23 Ek5 Gj0 4:=fM Tryz.func23
theorem Gk1:fK Bj4 Tryz.f24 B81 D32 4:=fM Tryz.func24
theorem P8:fK B8 Tryz.f25 V8 Ac3 1:=fM Tryz.func25
theorem Bf8:fK E3 Tryz.f26 Aq2 Be9 1:=fM Tryz.func26
theorem Gi2:fK Ay5 Tryz.f28 B05 Dv5 1:=fM Tryz.func28
theorem E75:fK Ai6 Tryz.f29 Br2 Dn7 2:=fM Tryz.func29
theorem Ge7:fK Bd7 Tryz.f30 Bz2 Dy5 1:=fM Tryz.func30
theorem Ea6:fK A85 Tryz.f31 De6 Ee5 1:=fM Tryz.func31
theorem D15:fK Ao5 Tryz.f33 B62 D41 2:=fM Tryz.func33
theorem G33:fK Aq1 Tryz.f34 Dk5 Ep5 2:=fM Tryz.func34
theorem Ar3:fK N5 Tryz.f35 Af4 Au2 3:=fM Tryz.func35
theorem Gt5:fK A98 Tryz.f36 De0 Ee4 1:=fM Tryz.func36
theorem Gw4:fK Aw4 Tryz.f37 Db7 Ed8 1:=fM Tryz.func37
theorem H08:fK A30 Tryz.f38 En5 Gj9 3:=fM Tryz.func38
theorem Gp8:fK Ah8 Tryz.f39 B80 D16 1:=fM Tryz.func39
theorem G95:fK Bm3 Tryz.f40 Dv0 E06 1:=fM Tryz.func40
theorem Hd0:fK B84 Tryz.f41 Dx5 Ey8 0:=fM Tryz.func41
theorem Bq9:fK S4 Tryz.f42 A70 Bs0 1:=fM Tryz.func42
theorem Gt7:fK M7 Tryz.f43 Db9 Ec1 3:=fM Tryz.func43
theorem Gu1:fK Aw1 Tryz.f44 Dc6 Ec4 3:=fM Tryz.func44
theorem G53:fK Bf4 Tryz.f45 Dm2 Eq7 0:=fM Tryz.func45
theorem Br0:fK W3 Tryz.f46 A75 Br6 1:=fM Tryz.func46
theorem E64:fK A69 Tryz.f47 Bt1 Dm5 1:=fM Tryz.func47
theorem Dz1:fK Z8 Tryz.f48 Bz1 Dw1 2:=fM Tryz.func48
theorem Ew7:fK Ao4 Tryz.f49 Bm0 Dh8 2:=fM Tryz.func49
theorem D81:fK W0 Tryz.f50 A41 Bu0 2:=fM Tryz.func50
theorem Ea1:fK Ac6 Tryz.f51 A43 Bt3 2:=fM Tryz.func51
theorem D61:fK Am8 Tryz.f52 A40 Bt4 2:=fM Tryz.func52
theorem D97:fK Am4 Tryz.f53 A50 Bu1 1:=fM Tryz.func53
theorem D03:fK Ak5 Tryz.f54 Az6 Bq7 1:=fM Tryz.func54
theorem Gh4:fK Bc9 Tryz.f55 Bz7 Dy9 2:=fM Tryz.func55
theorem E84:fK Ai7 Tryz.f57 Bs8 Dn2 3:=fM Tryz.func57
theorem B24:fK Dp4 Tryz.f58 Ef4 Gj8 3:=fM Tryz.func58
theorem Aj1:fK P1 Tryz.f64 Bw5 Dk4 1:=fM Tryz.func64
theorem Dq5:fK Q2 Tryz.f65 Au0 Bj8 3:=fM Tryz.func65
theorem E83:fK Ar0 Tryz.f67 Br3 Dn6 1:=fM Tryz.func67
theorem E08:fK An6 Tryz.f68 Bl1 Dj0 2:=fM Tryz.func68
theorem D86:fK Q1 Tryz.f69 A45 Bu4 2:=fM Tryz.func69
theorem G39:fK Aq4 Tryz.f70 Dl6 Ep8 1:=fM Tryz.func70
theorem G45:fK Bf5 Tryz.f71 Dl2 Eo2 0:=fM Tryz.func71
theorem Da1:fK Y8 Tryz.f72 Ak3 A54 2:=fM Tryz.func72
theorem Ay4:fK M6 Tryz.f73 A88 Bl6 1:=fM Tryz.func73
theorem At0:fK J6 Tryz.f74 Bb1 Bo0 1:=fM Tryz.func74
theorem Al2:fK I0 Tryz.f75 Aw0 A80 1:=fM Tryz.func75
theorem Em2:fK Ah2 Tryz.f76 Dr4 En6 1:=fM Tryz.func76
theorem E73:fK A63 Tryz.f77 Bs4 Dn0 3:=fM Tryz.func77
theorem Es7:fK A06 Tryz.f78 Bm6 Dh4 3:=fM Tryz.func78
theorem Em9:fK As5 Tryz.f80 Bd8 B45 5:=fM Tryz.func80
theorem Eu0:fK A33 Tryz.f89 Bm8 Di3 1:=fM Tryz.func89
theorem Hx6:fK Bd5 Tryz.f90 Ef9 Gk8 1:=fM Tryz.func90
theorem Gh7:fK Bd3 Tryz.f91 Bz0 Dx2 2:=fM Tryz.func91
theorem As7:fK N3 Tryz.f92 Af8 As9 3:=fM Tryz.func92
theorem Gt0:fK A89 Tryz.f93 Da9 Ee3 1:=fM Tryz.func93
theorem Gw0:fK Aw3 Tryz.f94 Dc3 Ed0 1:=fM Tryz.func94
theorem As4:fK L0 Tryz.f95 Af5 Ar4 3:=fM Tryz.func95
theorem Gu4:fK Bo4 Tryz.f96 Db1 Eb5 1:=fM Tryz.func96
theorem G61:fK Ap9 Tryz.f97 Dk8 Eq2 1:=fM Tryz.func97
theorem Be5:fK V0 Tryz.f98 Ar9 Bb9 3:=fM Tryz.func98
theorem E69:fK Ai9 Tryz.f99 Bt0 Dn1 1:=fM Tryz.func99
theorem Ax9:fK I9 Tryz.f100 Ah6 Ax1 2:=fM Tryz.func100
theorem Dt9:fK Aa1 Tryz.f102 Aw7 Bk2 1:=fM Tryz.func102
theorem G40:fK Bw7 Tryz.f103 Dl3 Eq3 3:=fM Tryz.func103
theorem Hn5:fK Dg1 Tryz.f104 D92 E88 2:=fM Tryz.func104
theorem D55:fK Au9 Tryz.f106 Dg8 D75 4:=fM Tryz.func106
theorem D74:fK V9 Tryz.f108 D51 D90 3:=fM Tryz.func108
theorem Dr6:fK As6 Tryz.f110 Dr3 Em5 1:=fM Tryz.func110
theorem Gu0:fK Ba4 Tryz.f116 Db6 Ec6 1:=fM Tryz.func116
theorem D04:fK S9 Tryz.f117 Az8 Bq4 4:=fM Tryz.func117
theorem Ho3:fK Bg7 Tryz.f118 D70 E96 2:=fM Tryz.func118
theorem Hm3:fK Ac9 Tryz.f119 D59 E92 1:=fM Tryz.func119
theorem Hm4:fK Dg2 Tryz.f122 D82 Gb7 2:=fM Tryz.func122
theorem Gi8:fK Ai0 Tryz.f124 B66 D44 2:=fM Tryz.func124
theorem An7:fK H0 Tryz.f125 Ab8 An8 1:=fM Tryz.func125
theorem D02:fK Ab0 Tryz.f126 Az9 Bq5 2:=fM Tryz.func126
theorem Bu6:fK S8 Tryz.f127 Ac8 Av6 2:=fM Tryz.func127
theorem Gj3:fK Ai5 Tryz.f128 B88 D38 1:=fM Tryz.func128
theorem Ef5:fK As8 Tryz.f129 Bc8 B82 3:=fM Tryz.func129
theorem J4:fK P6 Tryz.f130 Bg8 Bu2 2:=fM Tryz.func130
theorem Q0:fK Aa2 Tryz.f131 Bv2 Df7 1:=fM Tryz.func131
theorem Bm5:fK V5 Tryz.f132 Bk7 B72 1:=fM Tryz.func132
theorem G54:fK Bg1 Tryz.f133 Dm3 Ep7 1:=fM Tryz.func133
theorem H75:fK D13 Tryz.f134 Ez6 G07 1:=fM Tryz.func134
theorem Ek2:fK A24 Tryz.f135 Dp5 El1 1:=fM Tryz.func135
theorem D64:fK Av1 Tryz.f136 Dg4 D53 1:=fM Tryz.func136
theorem Hf1:fK B85 Tryz.f137 Dz8 Ev0 2:=fM Tryz.func137
theorem H69:fK Dr2 Tryz.f138 Eg9 Gi5 1:=fM Tryz.func138
theorem Em3:fK At8 Tryz.f139 Bd9 B57 3:=fM Tryz.func139
theorem Bh6:fK Q6 Tryz.f140 Ay8 Bh4 2:=fM Tryz.func140
theorem Dh2:fK O5 Tryz.f141 An2 Ba9 2:=fM Tryz.func141
theorem Gg2:fK Bc1 Tryz.f142 By3 Dw6 3:=fM Tryz.func142
theorem B67:fK Ac1 Tryz.f143 Bi8 B50 1:=fM Tryz.func143
theorem Bk4:fK P4 Tryz.f144 A26 Bn2 2:=fM Tryz.func144
theorem B23:fK Ab9 Tryz.f145 Bk1 B38 1:=fM Tryz.func145
theorem Gs4:fK Bn9 Tryz.f146 Dd8 Ec5 1:=fM Tryz.func146
theorem Et0:fK A38 Tryz.f147 Bl9 Dj3 3:=fM Tryz.func147
theorem Es6:fK Ba8 Tryz.f148 D47 Ex5 2:=fM Tryz.func148
theorem Gf9:fK Bc6 Tryz.f149 Bx7 Dv8 3:=fM Tryz.func149
theorem Ee8:fK Ae6 Tryz.f150 Ba3 B10 5:=fM Tryz.func150
theorem D57:fK Ad3 Tryz.f151 A52 Bu3 5:=fM Tryz.func151
theorem Ec9:fK Ao7 Tryz.f152 A84 B20 7:=fM Tryz.func152
theorem Et1:fK A08 Tryz.f153 Bk5 Dh3 7:=fM Tryz.func153
theorem Er5:fK Ay7 Tryz.f155 Bi0 Da4 2:=fM Tryz.func155
theorem Et8:fK A10 Tryz.f156 Bl0 Dj6 3:=fM Tryz.func156
theorem E76:fK A66 Tryz.f157 Br8 Do2 3:=fM Tryz.func157
theorem E79:fK A64 Tryz.f158 Br4 Dn5 3:=fM Tryz.func158
theorem Eh2:fK Ar7 Tryz.f159 Be6 B46 6:=fM Tryz.func159
theorem Gc2:fK Be2 Tryz.f160 B06 Dt6 3:=fM Tryz.func160
theorem Gc3:fK Am3 Tryz.f161 By8 Dw3 2:=fM Tryz.func161
theorem G29:fK Aj3 Tryz.f162 Dk9 Eq0 3:=fM Tryz.func162
theorem Gb8:fK Be0 Tryz.f163 B00 Dz0 3:=fM Tryz.func163
theorem Bz4:fK V3 Tryz.f170 Bd1 Bx4 1:=fM Tryz.func170
theorem G44:fK Bf7 Tryz.f171 Dl1 Ep3 0:=fM Tryz.func171
theorem B92:fK Y9 Tryz.f172 Aj6 A57 2:=fM Tryz.func172
theorem He0:fK Bm7 Tryz.f173 Dt5 Ez2 0:=fM Tryz.func173
theorem B95:fK Z0 Tryz.f174 Aj9 A58 2:=fM Tryz.func174
theorem El5:fK At6 Tryz.f175 Bb3 B73 1:=fM Tryz.func175
theorem D71:fK Av3 Tryz.f184 Dg7 D88 1:=fM Tryz.func184
theorem Aw9:fK I2 Tryz.f185 A87 Bn1 2:=fM Tryz.func185
theorem Dw8:fK Ah0 Tryz.f186 B44 Dx3 2:=fM Tryz.func186
theorem E62:fK A73 Tryz.f188 Br5 Do1 1:=fM Tryz.func188
theorem Gv2:fK Bo8 Tryz.f189 Dd4 Ea9 2:=fM Tryz.func189
theorem D50:fK W1 Tryz.f190 Bt7 Df2 2:=fM Tryz.func190
theorem Dr7:fK W8 Tryz.f196 Ar8 Bj1 1:=fM Tryz.func196
theorem B93:fK Z2 Tryz.f203 Aj8 A55 2:=fM Tryz.func203
theorem Dl7:fK O9 Tryz.f207 Aq3 Bg2 2:=fM Tryz.func207
theorem Ag8:fK G0 Tryz.f208 W9 Ag7 2:=fM Tryz.func208
theorem H61:fK Ds0 Tryz.f209 Eh6 Go6 1:=fM Tryz.func209
theorem Hg8:fK Bn3 Tryz.f210 Du0 Eu4 3:=fM Tryz.func210
theorem D69:fK Ad0 Tryz.f211 Df6 D56 1:=fM Tryz.func211
theorem Hd2:fK B74 Tryz.f212 Dw0 Et5 2:=fM Tryz.func212
theorem Aq0:fK D1 Tryz.f213 Ad9 Ap7 2:=fM Tryz.func213
theorem Gu9:fK I7 Tryz.f214 Dc9 Ed5 2:=fM Tryz.func214
theorem Az5:fK E5 Tryz.f215 Ag5 Az3 2:=fM Tryz.func215
theorem Hj9:fK B22 Tryz.f216 Dy4 E16 2:=fM Tryz.func216
theorem Bh1:fK Q7 Tryz.f217 Az2 Bh5 1:=fM Tryz.func217
theorem Gq9:fK A82 Tryz.f218 Dc7 Eb1 1:=fM Tryz.func218
theorem Ez9:fK An1 Tryz.f219 Bn0 Di2 1:=fM Tryz.func219
theorem Gg5:fK Ay1 Tryz.f220 By0 Dy3 3:=fM Tryz.func220
theorem B75:fK Ab5 Tryz.f221 Bj0 B29 1:=fM Tryz.func221
theorem D78:fK Ac4 Tryz.f222 A46 Bt8 6:=fM Tryz.func222
theorem Gs6:fK Bo6 Tryz.f223 Dd2 Ea5 3:=fM Tryz.func223
theorem Gn1:fK Bj3 Tryz.f224 B58 D35 3:=fM Tryz.func224
theorem Gc6:fK Ay2 Tryz.f225 B07 Dy7 3:=fM Tryz.func225
theorem Gf7:fK Al4 Tryz.f228 Bz3 Ds6 2:=fM Tryz.func228
theorem Ez3:fK A21 Tryz.f229 Bl5 Dh9 3:=fM Tryz.func229
theorem Gd5:fK Aw8 Tryz.f230 By1 Dt1 3:=fM Tryz.func230
theorem Ab4:fK B7 Tryz.f231 W2 Ab3 3:=fM Tryz.func231
theorem E57:fK A65 Tryz.f232 Bs9 Do0 3:=fM Tryz.func232
theorem Gg1:fK Bc4 Tryz.f233 Bz6 Du7 2:=fM Tryz.func233
theorem Bz9:fK Z6 Tryz.f234 Bc2 By4 1:=fM Tryz.func234
theorem Eg4:fK As3 Tryz.f237 Bb2 B59 3:=fM Tryz.func237
theorem Hs5:fK Av5 Tryz.f238 D98 Ga2 2:=fM Tryz.func238
theorem Hm0:fK Au6 Tryz.f239 D87 Gb5 1:=fM Tryz.func239
theorem En7:fK At2 Tryz.f240 Bb5 B78 3:=fM Tryz.func240
theorem H22:fK Bp4 Tryz.f241 Eg8 Gl3 2:=fM Tryz.func241
theorem H05:fK Bn7 Tryz.f242 Ek3 Gq1 1:=fM Tryz.func242
theorem Dq8:fK Ag1 Tryz.f249 As0 Bk0 3:=fM Tryz.func249
theorem Gf5:fK Ax7 Tryz.f261 Bx8 Dx1 2:=fM Tryz.func261
theorem Ij9:fK Eh9 Tryz.f262 Gg9 He3 1:=fM Tryz.func262
theorem Dk0:fK Ab7 Tryz.f265 Ao0 Ba7 1:=fM Tryz.func265
theorem Hl0:fK An5 Tryz.f269 Dt4 Ev5 2:=fM Tryz.func269
theorem Hk4:fK Bm4 Tryz.f270 Dt3 Ex3 1:=fM Tryz.func270
theorem O0:fK D7 Tryz.f271 Aa8 Al8 2:=fM Tryz.func271
theorem Au1:fK L1 Tryz.f272 Af9 Au3 2:=fM Tryz.func272
theorem Hk9:fK Bk8 Tryz.f273 Dy0 Ez5 3:=fM Tryz.func273
theorem Dp7:fK Ag4 Tryz.f274 At4 Bi7 2:=fM Tryz.func274
theorem Dy8:fK Ag9 Tryz.f277 Ax5 Bn4 2:=fM Tryz.func277
theorem H58:fK Dq2 Tryz.f278 El0 Gq6 1:=fM Tryz.func278
theorem Gt4:fK A91 Tryz.f279 De5 Eb4 1:=fM Tryz.func279
theorem H74:fK D05 Tryz.f280 Eu7 G08 1:=fM Tryz.func280
theorem G46:fK Bv9 Tryz.f281 Dl5 Eo4 1:=fM Tryz.func281
theorem B96:fK Y7 Tryz.f290 Ak0 A60 2:=fM Tryz.func290
theorem Hm2:fK Av2 Tryz.f291 D73 Gb0 2:=fM Tryz.func291
theorem B91:fK Y6 Tryz.f292 Aj7 A59 2:=fM Tryz.func292
end
end Go.EQ

namespace Go.EQ
open Go Go.NN Go.Proofs
theorem I29:type_of% Tryz.underlying3:=Tryz.underlying3
theorem I02:type_of% Tryz.underlying4:=Tryz.underlying4
theorem It3:type_of% Tryz.underlying5:=Tryz.underlying5
end Go.EQ
