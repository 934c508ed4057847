/- One that is in and never picked again holds the others up for no longer than the lease; picked later it begins anew, and does its call once. -/
import Derived.Test.YtonlefldpebcpaaGreatDoorMd
import Derived.KernelRfl
set_option linter.all false
set_option maxRecDepth 100000
namespace Go.EQ
open Go Go.NN Go.Proofs
open Go.IntKind (wrap)
open Go.Addr (add)
variable (C:D7) (R:Ab9) (nonev swaps v x2 x6:Addr) (grown more:Bool) (h:H) (a atv e env fd first g i isv j lo n name target who x x15 x45 x46 x54 x86 x87:Int) (p r:List Value) (bc bn datac datan foundc foundn lc ln outc outn sc sn x44c x44n x85c x85n:Nat) (b c data found k l m out q s x44 x85:Option Addr) (of:Option Nat) (cmp decode f:Value)
noncomputable section
def B82:Cuts:=⟨0,[(7,[4,6,8,9,10])],[],[]⟩
def Dz8:List Item:=A8 Tryz.f7
def Az3:List Item:=stk [0,1,0,1,0,1,0,1,0,1,0,0,1,4,5] Dz8
theorem He3 :
 xQ B82 C R Ac3 Tryz.f7 Dz8 [] h =
 bnd (C Bv4 [] h) fun r w=>aSl r fun x xn xc=>bnd (C An0 [.slice x xn xc] w) fun q1 w1=>as4 q1 fun q2 q3 q4 q5=>aPtr q2 fun z1=>aPtr q3 fun z2=>aPtr q4 fun z3=>aPtr q5 fun _=>cond z2.isNone
 (some (.tuple ⟨[.pointer none,.slice none 0 0,.pointer none,.slice none 0 0]⟩,w1))
 (R Ac3 Az3 [(4,.pointer z1),(6,.pointer z3),(8,.slice none 0 0),(9,.slice none 0 0),(10,iI 0)] w1):=kR
theorem D15 (wv:Option Addr) (mn mc:Nat) :
 xQ B82 C R Ac3 Tryz.f7 Az3 [(4,.pointer k),(6,.pointer wv),(8,.slice l ln lc),(9,.slice m mn mc),(10,iI i)] h =
 cond (decide (i<4))
 (bnd (C A11 [.pointer k,iI i,iI i,iI 0] h) fun r w=>as2 r fun q1 q2=>aPtr q1 fun x=>aInt .i64 q2 fun z1=>bnd (cond x.isNone (some (true,w)) (some (z1 != 0,w))) fun c w1=>cond c
 (some (.tuple ⟨[.pointer none,.slice none 0 0,.pointer none,.slice none 0 0]⟩,w1))
 (nw (.cells P1 false [.pointer x]) w1 fun b w2=>gCells (some ⟨b,0,none⟩) (1*1) w2 fun cs=>ckB (fitsOpen l P1 w2) (apd P1 1 l ln lc 1 cs w2 fun a an ac w3=>bnd (C Bj6 [.pointer wv,iI i,iI i,iI 0] w3) fun q3 w4=>aPtr q3 fun z2=>nw (.cells Al3 false [.pointer z2]) w4 fun p1 w5=>gCells (some ⟨p1,0,none⟩) (1*1) w5 fun cs_1=>ckB (fitsOpen m Al3 w5) (apd Al3 1 m mn mc 1 cs_1 w5 fun a_1 an_1 ac_1 w6=>R Ac3 Az3 [(4,.pointer k),(6,.pointer wv),(8,.slice a an ac),(9,.slice a_1 an_1 ac_1),(10,iI (wrap .i64 (i+1)))] w6))))
 (some (.tuple ⟨[.pointer k,.slice l ln lc,.pointer wv,.slice m mn mc]⟩,h)):=kR
def Bc3:Cuts:=⟨0,[],[],[(1,⟨[0,1,2,3,4,5,6],[0,0,3,7,0,31,63],[],[]⟩)]⟩
def B67:List Item:=A8 Tryz.f18
theorem Em7 (s:List Value) (fv0:Addr) :
 xQ Bc3 C R E1 Tryz.f18 B67 [(0,iI i),(1,.agg ⟨s⟩),(2,.pointer (some fv0))] h =
 nw (.cells Dh3 false s) h fun b w=>nw (.cells Z1 false [iI 0,iI 0,iI 0,iI 0,iI 0,.slice none 0 0,iI 0,iI 0,.slice none 0 0,.bool false,.slice none 0 0,iI 0]) w fun p1 w1=>gSl fv0 w1 fun x xn _=>aSome x fun p=>ck ((0:Int)≤i∧i<(xn:Int)) (gPtr (add (B2 p) (Int.toNat i*1)) w1 fun z1=>gAgg ⟨b,0,none⟩ 4 w1 fun z2=>bnd (C S5 [.pointer z1,.agg ⟨z2⟩] w1) fun r w2=>aBool r fun z3=>cond (!z3)
 (pAgg ⟨p1,0,none⟩ [iI 0,iI 0,iI 0,iI 0,iI 0,.slice none 0 0,iI 0,iI 0,.slice none 0 0,.bool false,.slice none 0 0,iI 0] w2 fun w3=>gAgg ⟨p1,0,none⟩ 12 w3 fun z4=>some (.tuple ⟨[.agg ⟨z4⟩,.bool false]⟩,w3))
 (gSl fv0 w2 fun z5 xn_1 _=>aSome z5 fun p_1=>ck ((0:Int)≤i∧i<(xn_1:Int)) (gPtr (add (B2 p_1) (Int.toNat i*1)) w2 fun z6=>bnd (C E6 [.pointer z6] w2) fun q1 w4=>as2 q1 fun q2 q3=>aAgg q2 fun _=>aBool q3 fun _=>gSl fv0 w4 fun z9 xn_2 _=>aSome z9 fun p_2=>ck ((0:Int)≤i∧i<(xn_2:Int)) (gPtr (add (B2 p_2) (Int.toNat i*1)) w4 fun z10=>bnd (C E6 [.pointer z10] w4) fun q4 w5=>as2 q4 fun q5 q6=>aAgg q5 fun z11=>aBool q6 fun z12=>ck (List.length z11=12) (pAgg ⟨p1,0,none⟩ z11 w5 fun w6=>gAgg ⟨p1,0,none⟩ 12 w6 fun z13=>some (.tuple ⟨[.agg ⟨z13⟩,.bool z12]⟩,w6)))))):=kR
def Ap5:Cuts:=⟨0,[],[],[]⟩
def Bg0:List Item:=A8 Tryz.f26
theorem Bf2 :
 xQ Ap5 C R E9 Tryz.f26 Bg0 [(0,.slice s sn sc)] h =
 cond s.isNone
 (some (.slice none 0 0,h))
 (nw (.cells A7 false []) h fun b w=>gCells s (sn*1) w fun cs=>ckB (fitsOpen (some ⟨b,0,none⟩) A7 w) (apd A7 1 (some ⟨b,0,none⟩) 0 0 sn cs w fun a an ac w1=>some (.slice a an ac,w1))):=kR
def By1:Cuts:=⟨0,[],[],[(0,⟨[0,1,2,3,4,5,6,7,8,9,10,11,12,14,13,15],[0,1,3,7,0,16,48,112,0,256,768,1792,3840,8191,0,32767],[],[]⟩),(2,⟨[0,1,2,3,4,5,6,7,8,9],[0,0,0,4,1,17,49,127,255,511],[(6,[3])],[]⟩)]⟩
def Dx0:List Item:=A8 Tryz.f30
theorem Gg1 (w:Option Addr) :
 xQ By1 C R Bd4 Tryz.f30 Dx0 [(0,.pointer w)] h =
 aSome w fun p=>gPtr (add p 0) h fun x=>aSome w fun p_1=>gInt .i64 (add p_1 1) h fun z1=>aSome w fun p_2=>gInt .i64 (add p_2 3) h fun z2=>nw (.cells Dz9 false [iI 0,iI 0,.slice none 0 0]) h fun b w1=>bnd (C M0 [.pointer x,iI z1,.agg ⟨[iI 8,iI 0,iI 0,iI z2,iI 0,iI 0,.slice none 0 0]⟩] w1) fun r w2=>aAgg r fun z3=>ck (List.length z3=3) (pAgg ⟨b,0,none⟩ z3 w2 fun w3=>gInt .i64 ⟨b,1,none⟩ w3 fun z4=>cond (decide (z4>0))
 (gInt .i64 ⟨b,1,none⟩ w3 fun z5=>aSome w fun p_3=>pV (add p_3 5) (iI 2) w3 fun w4=>gInt .i64 ⟨b,1,none⟩ w4 fun z6=>same (iI z5) (iI z6) (aSome w fun p_4=>pV (add p_4 6) (iI z5) w4 fun w5=>some (.tuple ⟨[]⟩,w5)))
 (some (.tuple ⟨[]⟩,w3))):=kR
def Dl0:Cuts:=⟨0,[],[],[]⟩
def Er6:List Item:=A8 Tryz.f34
theorem G78 :
 xQ Dl0 C R Ap0 Tryz.f34 Er6 [(0,.pointer k),(1,iI env)] h =
 bnd (cond k.isNone (some (true,h)) (bnd (C Aq0 [.pointer k] h) fun r w=>aPtr r fun x=>bnd (C An1 [.pointer x,iI env] w) fun q1 w1=>aSl q1 fun _ xn _=>some ((xn:Int)==0,w1))) fun c w2=>cond c
 (some (.tuple ⟨[.pointer none,iI 1]⟩,w2))
 (bnd (C Aq0 [.pointer k] w2) fun q2 w3=>aPtr q2 fun z2=>bnd (C An1 [.pointer z2,iI env] w3) fun q3 w4=>aSl q3 fun z3 xn_1 xc_1=>nw (.map [] 0) w4 fun b w5=>nw (.cells Dn2 false [.pointer k,iI env,.slice z3 xn_1 xc_1,.map (some b)]) w5 fun p1 w6=>some (.tuple ⟨[pP p1,iI 0]⟩,w6)):=kR
def Dc0:Cuts:=⟨0,[],[],[]⟩
def Ec3:List Item:=A8 Tryz.f37
theorem Gx9 :
 xQ Dc0 C R Av0 Tryz.f37 Ec3 [(0,.slice b bn bc)] h =
 nw (.cells D2 false zZ1) h fun p1 w=>bnd (cond ((bn:Int)==24) (bnd (C Ap1 [.slice b bn bc] w) fun r w1=>aBool r fun x=>some (x,w1)) (some (false,w))) fun c w2=>cond c
 (pAgg ⟨p1,0,none⟩ zZ1 w2 fun w3=>gAgg ⟨p1,0,none⟩ 16 w3 fun z1=>some (.tuple ⟨[.agg ⟨z1⟩,iI 0]⟩,w3))
 (bnd (C Bf4 [] w2) fun q1 w4=>aPtr q1 fun z2=>bnd (C Y7 [.pointer z2,.slice b bn bc] w4) fun q2 w5=>as2 q2 fun q3 q4=>aAgg q3 fun z3=>aBool q4 fun z4=>nw (.cells D2 false zZ1) w5 fun p2 w6=>ck (List.length z3=16) (pAgg ⟨p2,0,none⟩ z3 w6 fun w7=>cond (!z4)
 (pAgg ⟨p1,0,none⟩ zZ1 w7 fun w8=>gAgg ⟨p1,0,none⟩ 16 w8 fun z5=>some (.tuple ⟨[.agg ⟨z5⟩,iI 2]⟩,w8))
 (gAgg ⟨p2,0,none⟩ 16 w7 fun z6=>ck (List.length z6=16) (pAgg ⟨p1,0,none⟩ z6 w7 fun w9=>gAgg ⟨p1,0,none⟩ 16 w9 fun z7=>some (.tuple ⟨[.agg ⟨z7⟩,iI 1]⟩,w9))))):=kR
def Dz0:Cuts:=⟨0,[],[],[]⟩
def Ez1:List Item:=A8 Tryz.f41
theorem Hh5 :
 xQ Dz0 C R B55 Tryz.f41 Ez1 [] h =
 nw (.cells B54 false [.slice none 0 0,.slice none 0 0,iI 0]) h fun b w=>nw (.cells Gp8 false [.bool false,.bool false]) w fun p1 w1=>nw (.cells B84 false [iI 0,iI 1,iI 1,iI 0]) w1 fun p2 w2=>pAgg ⟨b,0,none⟩ [.slice (some ⟨p1,0,none⟩) 2 2,.slice (some ⟨p2,0,none⟩) 2 2,iI 5] w2 fun w3=>gAgg ⟨b,0,none⟩ 3 w3 fun x=>some (.agg ⟨x⟩,w3):=kR
def A58:Cuts:=⟨0,[(4,[1,3,4])],[],[(2,⟨[0,1,2,5,6,9,10,13,14,3,4,7,8,11,12,15,16,17],[0,0,2,6,15,0,32,110,255,0,512,1774,4095,0,8192,28398,65535,131071],[(3,[6,10,14]),(7,[10,14]),(11,[14])],[]⟩)]⟩
def Br5:List Item:=A8 Tryz.f46
def As9:List Item:=stk [0,1,0,1,0,1,0,0,1,4,5] Br5
theorem E77 :
 xQ A58 C R V6 Tryz.f46 Br5 [(0,.agg ⟨p⟩)] h =
 nw (.cells D2 false p) h fun b w=>gInt .i64 ⟨b,0,none⟩ w fun x=>gInt .i64 ⟨b,1,none⟩ w fun z1=>gInt .i64 ⟨b,2,none⟩ w fun z2=>gInt .i64 ⟨b,3,none⟩ w fun z3=>nw (.cells A7 false [.int .u8 (wrap .u8 (x)),.int .u8 (wrap .u8 (z1)),.int .u8 (wrap .u8 (z2)),.int .u8 (wrap .u8 (z3))]) w fun p1 w1=>gCells (some ⟨p1,0,none⟩) 4 w1 fun cs=>asBytes cs fun l=>gInt .i64 ⟨b,4,none⟩ w1 fun z4=>gInt .i64 ⟨b,5,none⟩ w1 fun z5=>gInt .i64 ⟨b,6,none⟩ w1 fun z6=>gInt .i64 ⟨b,7,none⟩ w1 fun z7=>bnd (C Bb4 [iI z4] w1) fun r w2=>aStr r fun z8=>gInt .i64 ⟨b,5,none⟩ w2 fun z9=>same (iI z5) (iI z9) (gInt .i64 ⟨b,6,none⟩ w2 fun z10=>same (iI z6) (iI z10) (gInt .i64 ⟨b,7,none⟩ w2 fun z11=>same (iI z7) (iI z11) (ck (ByteArray.size (ByteArray.mk ⟨l⟩)+ByteArray.size z8≤B1) (bnd (C Bb4 [iI z5] w2) fun q1 w3=>aStr q1 fun z12=>gInt .i64 ⟨b,6,none⟩ w3 fun z13=>same (iI z6) (iI z13) (gInt .i64 ⟨b,7,none⟩ w3 fun z14=>same (iI z7) (iI z14) (ck (ByteArray.size ((ByteArray.mk ⟨l⟩)++z8)+ByteArray.size z12≤B1) (bnd (C Bb4 [iI z6] w3) fun q2 w4=>aStr q2 fun z15=>gInt .i64 ⟨b,7,none⟩ w4 fun z16=>same (iI z7) (iI z16) (ck (ByteArray.size (((ByteArray.mk ⟨l⟩)++z8)++z12)+ByteArray.size z15≤B1) (bnd (C Bb4 [iI z7] w4) fun q3 w5=>aStr q3 fun z17=>ck (ByteArray.size ((((ByteArray.mk ⟨l⟩)++z8)++z12)++z15)+ByteArray.size z17≤B1) (R V6 As9 [(1,pP b),(3,.string (((((ByteArray.mk ⟨l⟩)++z8)++z12)++z15)++z17)),(4,iI 0)] w5)))))))))):=kR
theorem B79 (p:Addr) (s:ByteArray) :
 xQ A58 C R V6 Tryz.f46 As9 [(1,.pointer (some p)),(3,.string s),(4,iI i)] h =
 cond (decide (i<8))
 (ck ((0:Int)≤i∧i<((8:Nat):Int)) (gInt .i64 (add (add p 8) (Int.toNat i*1)) h fun x=>nw (.cells A7 false [.int .u8 (wrap .u8 (x))]) h fun b w=>gCells (some ⟨b,0,none⟩) 1 w fun cs=>asBytes cs fun l=>ck (ByteArray.size s+ByteArray.size (ByteArray.mk ⟨l⟩)≤B1) (R V6 As9 [(1,.pointer (some p)),(3,.string (s++(ByteArray.mk ⟨l⟩))),(4,iI (wrap .i64 (i+1)))] w)))
 (ck (ByteArray.size s+ByteArray.size (ByteArray.mk ⟨[167]⟩)≤B1) (bnd (C Ag5 [.string (s++(ByteArray.mk ⟨[167]⟩))] h) fun r w1=>aInt .u8 r fun z1=>nw (.cells A7 false [.int .u8 z1,.int .u8 0,.int .u8 0]) w1 fun p1 w2=>gCells (some ⟨p1,0,none⟩) 3 w2 fun cs_1=>asBytes cs_1 fun l_1=>ck (ByteArray.size (s++(ByteArray.mk ⟨[167]⟩))+ByteArray.size (ByteArray.mk ⟨l_1⟩)≤B1) (some (.string ((s++(ByteArray.mk ⟨[167]⟩))++(ByteArray.mk ⟨l_1⟩)),w2)))):=kR
def Br9:Cuts:=⟨0,[],[],[]⟩
def Dm1:List Item:=A8 Tryz.f47
theorem E86 (f:List Value) :
 xQ Br9 C R A62 Tryz.f47 Dm1 [(0,.agg ⟨f⟩)] h =
 nw (.cells D8 false f) h fun b w=>gInt .i64 ⟨b,0,none⟩ w fun x=>gInt .i64 ⟨b,1,none⟩ w fun z1=>gInt .i64 ⟨b,2,none⟩ w fun z2=>gInt .i64 ⟨b,3,none⟩ w fun z3=>nw (.cells A7 false [.int .u8 (wrap .u8 (x)),.int .u8 (wrap .u8 (z1)),.int .u8 (wrap .u8 (z2)),.int .u8 (wrap .u8 (z3)),.int .u8 179]) w fun p1 w1=>gCells (some ⟨p1,0,none⟩) 5 w1 fun cs=>asBytes cs fun l=>bnd (C Ag5 [.string (ByteArray.mk ⟨l⟩)] w1) fun r w2=>aInt .u8 r fun z4=>nw (.cells A7 false [.int .u8 z4,.int .u8 0,.int .u8 0]) w2 fun p2 w3=>gCells (some ⟨p2,0,none⟩) 3 w3 fun cs_1=>asBytes cs_1 fun l_1=>ck (ByteArray.size (ByteArray.mk ⟨l⟩)+ByteArray.size (ByteArray.mk ⟨l_1⟩)≤B1) (some (.string ((ByteArray.mk ⟨l⟩)++(ByteArray.mk ⟨l_1⟩)),w3)):=kR
def A44:Cuts:=⟨0,[],[],[]⟩
def Bv0:List Item:=A8 Tryz.f50
theorem D81 :
 xQ A44 C R N5 Tryz.f50 Bv0 [(0,.pointer c),(1,iI i)] h =
 nw (.cells D8 false [iI 0,iI 0,iI 0,iI 0]) h fun b w=>bnd (C A83 [iI i] w) fun r w1=>aAgg r fun x=>bnd (C M9 [.pointer c,.agg ⟨x⟩,.func (.func Au6) ⟨[]⟩ ⟨[]⟩] w1) fun q1 w2=>as2 q1 fun q2 q3=>aAgg q2 fun z1=>aInt .i64 q3 fun z2=>ck (List.length z1=4) (pAgg ⟨b,0,none⟩ z1 w2 fun w3=>gAgg ⟨b,0,none⟩ 4 w3 fun z3=>some (.tuple ⟨[.agg ⟨z3⟩,iI z2]⟩,w3)):=kR
def A28:Cuts:=⟨0,[],[],[]⟩
def Bt2:List Item:=A8 Tryz.f52
theorem D74 :
 xQ A28 C R V4 Tryz.f52 Bt2 [(0,.pointer c),(1,iI i)] h =
 nw (.cells D3 false zZ2) h fun b w=>bnd (C A76 [iI i] w) fun r w1=>aAgg r fun x=>bnd (C J7 [.pointer c,.agg ⟨x⟩,.func (.func Ap3) ⟨[]⟩ ⟨[]⟩] w1) fun q1 w2=>as2 q1 fun q2 q3=>aAgg q2 fun z1=>aInt .i64 q3 fun z2=>ck (List.length z1=36) (pAgg ⟨b,0,none⟩ z1 w2 fun w3=>gAgg ⟨b,0,none⟩ 36 w3 fun z3=>some (.tuple ⟨[.agg ⟨z3⟩,iI z2]⟩,w3)):=kR
def A99:Cuts:=⟨0,[(3,[1,2,3,4]),(7,[1,2,3,4,5]),(13,[1,2,3,6])],[],[]⟩
def Bl6:List Item:=A8 Tryz.f73
def Bj4:List Item:=stk [0,1,0,1,0,0,1,4,5] Bl6
def A10:List Item:=stk [0,1,0,1,0,0,1,4,5,6,0,1,0,4,0,1,0,0,1,4,5] Bl6
def Bh9:List Item:=stk [0,1,0,1,0,1,0,0,1,4,5] Bl6
theorem Ha7 :
 xQ A99 C R L7 Tryz.f73 Bl6 [(0,.agg ⟨p⟩)] h =
 nw (.cells B54 false p) h fun b w=>nw (.cells E4 false [.slice none 0 0,.slice none 0 0,.slice none 0 0,iI 0,.slice none 0 0]) w fun p1 w1=>gInt .i64 ⟨b,2,none⟩ w1 fun x=>nw (.cells E4 false [.slice none 0 0,.slice none 0 0,.slice none 0 0,iI 0,.slice none 0 0]) w1 fun p2 w2=>pAgg ⟨p2,0,none⟩ [.slice none 0 0,.slice none 0 0,.slice none 0 0,iI x,.slice none 0 0] w2 fun w3=>R L7 Bj4 [(1,pP b),(2,pP p1),(3,pP p2),(4,iI 0)] w3:=kR
theorem D45 (p:Addr) (b:Addr) (s:Int) :
 xQ A99 C R L7 Tryz.f73 Bj4 [(1,.pointer (some p)),(2,.pointer (some x2)),(3,.pointer (some b)),(4,iI s)] h =
 gSl (add p 0) h fun _ xn _=>cond (decide (s<(xn:Int)))
 (gSl (add b 0) h fun z1 xn_1 xc_1=>nw (.cells B5 false [iI 20]) h fun p1 w=>gCells (some ⟨p1,0,none⟩) (1*1) w fun cs=>ckB (fitsOpen z1 B5 w) (apd B5 1 z1 xn_1 xc_1 1 cs w fun a an ac w1=>pV (add b 0) (.slice a an ac) w1 fun w2=>R L7 A10 [(1,.pointer (some p)),(2,.pointer (some x2)),(3,.pointer (some b)),(4,iI s),(5,iI 0)] w2))
 (R L7 Bh9 [(1,.pointer (some p)),(2,.pointer (some x2)),(3,.pointer (some b)),(6,iI 0)] h):=kR
theorem D44 (p:Addr) (b:Addr) (s:Int) :
 xQ A99 C R L7 Tryz.f73 A10 [(1,.pointer (some p)),(2,.pointer (some x2)),(3,.pointer (some b)),(4,iI s),(5,iI i)] h =
 cond (decide (i<9))
 (gSl (add b 1) h fun x xn xc=>nw (.cells B5 false [iI s]) h fun p1 w=>gCells (some ⟨p1,0,none⟩) (1*1) w fun cs=>ckB (fitsOpen x B5 w) (apd B5 1 x xn xc 1 cs w fun a an ac w1=>pV (add b 1) (.slice a an ac) w1 fun w2=>R L7 A10 [(1,.pointer (some p)),(2,.pointer (some x2)),(3,.pointer (some b)),(4,iI s),(5,iI (wrap .i64 (i+1)))] w2))
 (gSl (add b 2) h fun z1 xn_1 xc_1=>nw (.cells B5 false [iI s]) h fun p2 w3=>nw (.cells U4 false [.slice (some ⟨p2,0,none⟩) 1 1]) w3 fun p3 w4=>gCells (some ⟨p3,0,none⟩) (1*1) w4 fun cs_1=>ckB (fitsOpen z1 U4 w4) (apd U4 1 z1 xn_1 xc_1 1 cs_1 w4 fun a_1 an_1 ac_1 w5=>pV (add b 2) (.slice a_1 an_1 ac_1) w5 fun w6=>gSl (add b 4) w6 fun z2 xn_2 xc_2=>nw (.cells B5 false [iI s]) w6 fun p4 w7=>nw (.cells L0 false [iI s,iI 0,iI 0,iI 492,.slice (some ⟨p4,0,none⟩) 1 1]) w7 fun p5 w8=>gCells (some ⟨p5,0,none⟩) (1*5) w8 fun cs_2=>ckB (fitsOpen z2 L0 w8) (apd L0 5 z2 xn_2 xc_2 1 cs_2 w8 fun a_2 an_2 ac_2 w9=>pV (add b 4) (.slice a_2 an_2 ac_2) w9 fun w10=>R L7 Bj4 [(1,.pointer (some p)),(2,.pointer (some x2)),(3,.pointer (some b)),(4,iI (wrap .i64 (s+1)))] w10))):=kR
theorem D50 (p:Addr) (b:Addr) :
 xQ A99 C R L7 Tryz.f73 Bh9 [(1,.pointer (some p)),(2,.pointer (some x2)),(3,.pointer (some b)),(6,iI i)] h =
 gSl (add p 1) h fun _ xn _=>cond (decide (i<(xn:Int)))
 (gSl (add p 1) h fun z1 xn_1 _=>aSome z1 fun p_1=>ck ((0:Int)≤i∧i<(xn_1:Int)) (gAgg (add (B2 p_1) (Int.toNat i*2)) 2 h fun z2=>nw (.cells B84 false [iI 0,iI 0]) h fun p1 w=>ck (List.length z2=2) (pAgg ⟨p1,0,none⟩ z2 w fun w1=>gSl (add b 4) w1 fun z3 xn_2 xc_2=>gInt .i64 ⟨p1,0,none⟩ w1 fun z4=>gInt .i64 ⟨p1,0,none⟩ w1 fun z5=>gInt .i64 ⟨p1,1,none⟩ w1 fun z6=>nw (.cells B5 false [iI z5,iI z6]) w1 fun p2 w2=>nw (.cells L0 false [iI z4,iI (wrap .i64 (8+i)),iI 0,iI 40,.slice (some ⟨p2,0,none⟩) 2 2]) w2 fun p3 w3=>gCells (some ⟨p3,0,none⟩) (1*5) w3 fun cs=>ckB (fitsOpen z3 L0 w3) (apd L0 5 z3 xn_2 xc_2 1 cs w3 fun a an ac w4=>pV (add b 4) (.slice a an ac) w4 fun w5=>R L7 Bh9 [(1,.pointer (some p)),(2,.pointer (some x2)),(3,.pointer (some b)),(6,iI (wrap .i64 (i+1)))] w5))))
 (gAgg b 5 h fun z7=>ck (List.length z7=5) (pAgg x2 z7 h fun w6=>gAgg x2 5 w6 fun z8=>some (.agg ⟨z8⟩,w6))):=kR
def Au7:Cuts:=⟨0,[(4,[1,3,4]),(8,[1,3,5]),(13,[1,3,5,6,7,9])],[],[(1,⟨[0,1,2,3,4,5,6],[0,0,2,6,15,31,63],[(3,[0])],[]⟩),(2,⟨[0,1,2,3,4,5,6,7,11,12,13,8,9,10,14,15,16,17,18,19],[0,0,2,6,14,0,32,96,254,510,1022,0,2048,6144,14846,32766,65534,131071,262143,524287],[(8,[12])],[]⟩),(6,⟨[0,1,2,3,4,5,6,7,8,9,10,11,12],[0,0,2,6,14,0,32,96,224,510,1023,2047,4095],[(7,[4])],[]⟩),(11,⟨[0,1,2,3,4,5,6,7,8,9,11,12,15,16,18,19,10,13,14,17,20,21,22,23,24,25],[0,1,3,7,0,16,48,112,0,256,1008,0,2048,8176,16368,0,32768,131056,0,262144,1048575,2097151,4194303,4194303,8388607,33554431],[(10,[3,12,16,19])],[]⟩),(15,⟨[0,1,2,3,4,5,6,7],[0,1,0,4,0,28,60,127],[],[]⟩),(16,⟨[0,1,2,3,4,5,6,7,8,9,10,11,12],[0,1,3,7,15,31,63,0,0,0,512,1792,4095],[],[]⟩)]⟩
def A95:List Item:=A8 Tryz.f75
def A65:List Item:=stk [0,1,0,1,0,1,0,0,1,4,5] A95
def Ap8:List Item:=stk [0,1,0,1,0,1,0,1,0,0,1,4,5] A95
def Ap9:List Item:=stk [0,1,0,1,0,1,0,1,0,0,1,4,5,6,0,1,0,4,0,1,0,1,0,1,4,5] A95
theorem Gu4 (b:List Value) :
 xQ Au7 C R G9 Tryz.f75 A95 [(0,.agg ⟨b⟩)] h =
 nw (.cells E4 false b) h fun p1 w=>gAgg ⟨p1,0,none⟩ 5 w fun x=>gSl ⟨p1,0,none⟩ w fun z1 xn xc=>bnd (C Ac0 [.slice z1 xn xc] w) fun r w1=>aPtr r fun z2=>gAgg ⟨p1,0,none⟩ 5 w1 fun z3=>same (.agg ⟨x⟩) (.agg ⟨z3⟩) (ck (List.length x=5) (nw (.cells Gb8 false (x++(.pointer z2::(.pointer none::(.slice none 0 0::[iI 0]))))) w1 fun p2 w2=>gPtr ⟨p2,5,none⟩ w2 fun z4=>gSl ⟨p1,0,none⟩ w2 fun _ xn_1 _=>gSl ⟨p1,1,none⟩ w2 fun z6 xn_2 xc_2=>bnd (C P4 [.pointer z4,iI (xn_1:Int)] w2) fun q1 w3=>aInt .i64 q1 fun z7=>gSl ⟨p1,1,none⟩ w3 fun z8 xn_3 xc_3=>same (.slice z6 xn_2 xc_2) (.slice z8 xn_3 xc_3) (ck ((0:Int)≤wrap .i64 (64*z7)∧(wrap .i64 (64*z7):Int)≤wrap .i64 (64*z7)∧wrap .i64 (64*z7)≤(B1:Int)) (nw (.cells A7 false (L5 (Int.toNat (wrap .i64 (64*z7))) [.int .u8 0])) w3 fun p3 w4=>bnd (C Ab6 [iI (xn_2:Int)] w4) fun q2 w5=>aPtr q2 fun z9=>nw (.cells Eb8 false [.slice (some ⟨p3,0,none⟩) (Int.toNat (wrap .i64 (64*z7))) (Int.toNat (wrap .i64 (64*z7))),.slice none 0 0,.slice none 0 0,.pointer z9]) w5 fun p4 w6=>pV ⟨p2,6,none⟩ (pP p4) w6 fun w7=>R G9 A65 [(1,pP p1),(3,pP p2),(4,iI 0)] w7)))):=kR
theorem Dl8 (b:Addr) (k:Addr) :
 xQ Au7 C R G9 Tryz.f75 A65 [(1,.pointer (some b)),(3,.pointer (some k)),(4,iI i)] h =
 gSl (add b 2) h fun _ xn _=>cond (decide (i<(xn:Int)))
 (gSl (add k 7) h fun z1 xn_1 xc_1=>gInt .i64 (add b 3) h fun z2=>bnd (C Bo7 [iI z2] h) fun r w=>aPtr r fun z3=>gSl (add k 7) w fun z4 xn_2 xc_2=>same (.slice z1 xn_1 xc_1) (.slice z4 xn_2 xc_2) (nw (.cells Be4 false [.pointer z3]) w fun p1 w1=>gCells (some ⟨p1,0,none⟩) (1*1) w1 fun cs=>ckB (fitsOpen z1 Be4 w1) (apd Be4 1 z1 xn_1 xc_1 1 cs w1 fun a an ac w2=>pV (add k 7) (.slice a an ac) w2 fun w3=>R G9 A65 [(1,.pointer (some b)),(3,.pointer (some k)),(4,iI (wrap .i64 (i+1)))] w3)))
 (R G9 Ap8 [(1,.pointer (some b)),(3,.pointer (some k)),(5,iI 0)] h):=kR
theorem Dn0 (b:Addr) (k:Addr) :
 xQ Au7 C R G9 Tryz.f75 Ap8 [(1,.pointer (some b)),(3,.pointer (some k)),(5,iI i)] h =
 gSl (add b 4) h fun _ xn _=>cond (decide (i<(xn:Int)))
 (gSl (add b 4) h fun z1 xn_1 _=>aSome z1 fun p=>ck ((0:Int)≤i∧i<(xn_1:Int)) (gAgg (add (B2 p) (Int.toNat i*5)) 5 h fun z2=>nw (.cells L0 false [iI 0,iI 0,iI 0,iI 0,.slice none 0 0]) h fun p1 w=>ck (List.length z2=5) (pAgg ⟨p1,0,none⟩ z2 w fun w1=>gPtr (add k 6) w1 fun z3=>gPtr (add k 5) w1 fun z4=>gInt .i64 ⟨p1,0,none⟩ w1 fun z5=>gInt .i64 ⟨p1,1,none⟩ w1 fun z6=>gInt .i64 ⟨p1,2,none⟩ w1 fun z7=>gInt .i64 ⟨p1,3,none⟩ w1 fun z8=>bnd (C P4 [.pointer z4,iI z5] w1) fun r w2=>aInt .i64 r fun z9=>gPtr (add k 6) w2 fun z10=>same (.pointer z3) (.pointer z10) (gInt .i64 ⟨p1,1,none⟩ w2 fun z11=>same (iI z6) (iI z11) (gInt .i64 ⟨p1,2,none⟩ w2 fun z12=>same (iI z7) (iI z12) (gInt .i64 ⟨p1,3,none⟩ w2 fun z13=>same (iI z8) (iI z13) (bnd (C A24 [.pointer z3,iI (wrap .i64 ((wrap .i64 (64*(wrap .i64 (z9+z6))))+z7)),iI z8] w2) fun q1 w3=>as2 q1 fun q2 q3=>aInt .i64 q2 fun z14=>aInt .i64 q3 fun _=>R G9 Ap9 [(1,.pointer (some b)),(3,.pointer (some k)),(5,iI i),(6,pP p1),(7,iI z14),(9,iI 0)] w3)))))))
 (some (.pointer (some k),h)):=kR
theorem Dl9 (b:Addr) (k:Addr) (s:Addr) (obj:Int) :
 xQ Au7 C R G9 Tryz.f75 Ap9 [(1,.pointer (some b)),(3,.pointer (some k)),(5,iI i),(6,.pointer (some s)),(7,iI obj),(9,iI e)] h =
 gSl (add b 1) h fun _ xn _=>cond (decide (e<(xn:Int)))
 (gSl (add s 4) h fun z1 xn_1 xc_1=>gSl (add b 1) h fun z2 xn_2 _=>aSome z2 fun p=>ck ((0:Int)≤e∧e<(xn_2:Int)) (gInt .i64 (add (B2 p) (Int.toNat e*1)) h fun z3=>bnd (C Ba4 [.slice z1 xn_1 xc_1,iI z3] h) fun r w=>aBool r fun z4=>cond z4
 (gPtr (add k 6) w fun z5=>aSome z5 fun p_1=>gPtr (add p_1 3) w fun z6=>gInt .i64 (add s 3) w fun z7=>bnd (C Bc9 [.pointer z6,iI e,.agg ⟨[iI obj,iI 3,iI 0,iI z7,iI 0,iI 0]⟩] w) fun q1 w1=>as2 q1 fun q2 q3=>aInt .i64 q2 fun _=>aInt .i64 q3 fun _=>R G9 Ap9 [(1,.pointer (some b)),(3,.pointer (some k)),(5,iI i),(6,.pointer (some s)),(7,iI obj),(9,iI (wrap .i64 (e+1)))] w1)
 (R G9 Ap9 [(1,.pointer (some b)),(3,.pointer (some k)),(5,iI i),(6,.pointer (some s)),(7,iI obj),(9,iI (wrap .i64 (e+1)))] w)))
 (R G9 Ap8 [(1,.pointer (some b)),(3,.pointer (some k)),(5,iI (wrap .i64 (i+1)))] h):=kR
def Bn1:Cuts:=⟨0,[],[],[]⟩
def Dg0:List Item:=A8 Tryz.f89
theorem E01 :
 xQ Bn1 C R Az7 Tryz.f89 Dg0 [(0,iI g)] h =
 nw (.cells A7 false [.int .u8 (wrap .u8 (g)),.int .u8 211]) h fun b w=>gCells (some ⟨b,0,none⟩) 2 w fun cs=>asBytes cs fun l=>bnd (C Ag5 [.string (ByteArray.mk ⟨l⟩)] w) fun r w1=>aInt .u8 r fun x=>nw (.cells A7 false [.int .u8 x,.int .u8 0]) w1 fun p1 w2=>gCells (some ⟨p1,0,none⟩) 2 w2 fun cs_1=>asBytes cs_1 fun l_1=>ck (ByteArray.size (ByteArray.mk ⟨l⟩)+ByteArray.size (ByteArray.mk ⟨l_1⟩)≤B1) (some (.string ((ByteArray.mk ⟨l⟩)++(ByteArray.mk ⟨l_1⟩)),w2)):=kR
def Ei6:Cuts:=⟨0,[],[],[]⟩
def Gn5:List Item:=A8 Tryz.f90
theorem H18 :
 xQ Ei6 C R Bb4 Tryz.f90 Gn5 [(0,iI n)] h =
 nw (.cells A7 false [.int .u8 (wrap .u8 (Int.fdiv n (2 ^ 8))),.int .u8 (wrap .u8 (n))]) h fun b w=>gCells (some ⟨b,0,none⟩) 2 w fun cs=>asBytes cs fun l=>some (.string (ByteArray.mk ⟨l⟩),w):=kR
def By5:Cuts:=⟨0,[],[],[]⟩
def Dw4:List Item:=A8 Tryz.f91
theorem Gg4 :
 xQ By5 C R Bd0 Tryz.f91 Dw4 [(0,.pointer s),(1,iI e)] h =
 bnd (C Ak9 [.pointer s,iI e] h) fun r w=>aBool r fun x=>cond (!x)
 (some (.slice none 0 0,w))
 (aSome s fun p=>gSl (add p 0) w fun z1 xn _=>aSome z1 fun p_1=>ck ((0:Int)≤e∧e<(xn:Int)) (gPtr (add (B2 p_1) (Int.toNat e*1)) w fun z2=>bnd (C U8 [.pointer z2] w) fun q1 w1=>aSl q1 fun z3 xn_1 xc_1=>some (.slice z3 xn_1 xc_1,w1))):=kR
def Af1:Cuts:=⟨0,[],[(8,[6,8,11,12])],[(7,⟨[0,1,2,3,4,5,6,7,8,9],[0,1,3,7,0,31,63,31,159,511],[(7,[5])],[]⟩)]⟩
def Ar1:List Item:=A8 Tryz.f92
def Al1:List Item:=stk [0,1,0,1,0,1,0,1,0,1,0,1,0,0] Ar1
theorem Dn7 :
 xQ Af1 C R M9 Tryz.f92 Ar1 [(0,.pointer c),(1,.agg ⟨r⟩),(2,decode)] h =
 nw (.cells E5 false r) h fun b w=>nw (.cells D8 false [iI 0,iI 0,iI 0,iI 0]) w fun p1 w1=>nw (.cells D8 false [iI 0,iI 0,iI 0,iI 0]) w1 fun p2 w2=>gAgg ⟨b,0,none⟩ 2 w2 fun x=>bnd (C P8 [.pointer c,.agg ⟨x⟩] w2) fun q1 w3=>as2 q1 fun q2 q3=>aSl q2 fun z1 xn xc=>aBool q3 fun z2=>cond (!z2)
 (gAgg ⟨p2,0,none⟩ 4 w3 fun z3=>ck (List.length z3=4) (pAgg ⟨p1,0,none⟩ z3 w3 fun w4=>gAgg ⟨p1,0,none⟩ 4 w4 fun z4=>some (.tuple ⟨[.agg ⟨z4⟩,iI 2]⟩,w4)))
 (aFn decode fun g fi cp=>bnd (C g (fi++([.slice z1 xn xc]++cp)) w3) fun q4 w5=>as2 q4 fun q5 q6=>aAgg q5 fun z5=>aInt .i64 q6 fun z6=>nw (.cells D8 false [iI 0,iI 0,iI 0,iI 0]) w5 fun p3 w6=>ck (List.length z5=4) (pAgg ⟨p3,0,none⟩ z5 w6 fun w7=>cond (z6==2)
 (aSome c fun p=>gMap (add p 3) w7 fun z7=>gAgg ⟨b,0,none⟩ 2 w7 fun z8=>keyN PR E5 (.agg ⟨z8⟩) (opt z7 fun q7=>mapAt w7 q7 fun es _=>opt (Ao6 (iI 0) (.agg ⟨z8⟩) es) fun f=>aInt .i64 f.1 fun z9=>keyN PR E5 (.agg ⟨z8⟩) (opt z7 fun q8=>mapAt w7 q8 fun es_1 cl_1=>opt (D61 (iI 0) (.agg ⟨z8⟩) es_1 cl_1) fun f_1=>aInt .i64 f_1.1 fun _=>lt (H.set w7 q8 f_1.2.2) fun w8=>keyN PR E5 (.agg ⟨z8⟩) (opt z7 fun q9=>mapAt w8 q9 fun es_2 _=>opt (Ao6 (iI 0) (.agg ⟨z8⟩) es_2) fun f_2=>aInt .i64 f_2.1 fun z11=>same (iI z9) (iI z11) (opt z7 fun q10=>mapAt w8 q10 fun es_3 cl_3=>opt (Bq0 (f_1.2.1:Int) es_3 0) fun i=>lt (H.set w8 q10 (.map (modN (fun e=>{ e with val:=iI (wrap .i64 (z9+1)) }) i es_3) cl_3)) fun w9=>R M9 Al1 [(6,pP p1),(8,pP p2),(11,pP p3),(12,iI z6)] w9)))))
 (R M9 Al1 [(6,pP p1),(8,pP p2),(11,pP p3),(12,iI z6)] w7))):=kR
theorem A66 :
 xQ Af1 C R M9 Tryz.f92 Al1 [(6,.pointer (some x6)),(8,.pointer (some nonev)),(11,.pointer (some v)),(12,iI isv)] h =
 cond (isv != 1)
 (gAgg nonev 4 h fun x=>ck (List.length x=4) (pAgg x6 x h fun w=>gAgg x6 4 w fun z1=>some (.tuple ⟨[.agg ⟨z1⟩,iI isv]⟩,w)))
 (gAgg v 4 h fun z2=>ck (List.length z2=4) (pAgg x6 z2 h fun w1=>gAgg x6 4 w1 fun z3=>some (.tuple ⟨[.agg ⟨z3⟩,iI isv]⟩,w1))):=kR
def Af9:Cuts:=⟨0,[],[(8,[6,8,11,12])],[(7,⟨[0,1,2,3,4,5,6,7,8,9],[0,1,3,7,0,31,63,31,159,511],[(7,[5])],[]⟩)]⟩
def As1:List Item:=A8 Tryz.f95
def Ak6:List Item:=stk [0,1,0,1,0,1,0,1,0,1,0,1,0,0] As1
theorem Dq8 :
 xQ Af9 C R J7 Tryz.f95 As1 [(0,.pointer c),(1,.agg ⟨r⟩),(2,decode)] h =
 nw (.cells E5 false r) h fun b w=>nw (.cells D3 false zZ2) w fun p1 w1=>nw (.cells D3 false zZ2) w1 fun p2 w2=>gAgg ⟨b,0,none⟩ 2 w2 fun x=>bnd (C P8 [.pointer c,.agg ⟨x⟩] w2) fun q1 w3=>as2 q1 fun q2 q3=>aSl q2 fun z1 xn xc=>aBool q3 fun z2=>cond (!z2)
 (gAgg ⟨p2,0,none⟩ 36 w3 fun z3=>ck (List.length z3=36) (pAgg ⟨p1,0,none⟩ z3 w3 fun w4=>gAgg ⟨p1,0,none⟩ 36 w4 fun z4=>some (.tuple ⟨[.agg ⟨z4⟩,iI 2]⟩,w4)))
 (aFn decode fun g fi cp=>bnd (C g (fi++([.slice z1 xn xc]++cp)) w3) fun q4 w5=>as2 q4 fun q5 q6=>aAgg q5 fun z5=>aInt .i64 q6 fun z6=>nw (.cells D3 false zZ2) w5 fun p3 w6=>ck (List.length z5=36) (pAgg ⟨p3,0,none⟩ z5 w6 fun w7=>cond (z6==2)
 (aSome c fun p=>gMap (add p 3) w7 fun z7=>gAgg ⟨b,0,none⟩ 2 w7 fun z8=>keyN PR E5 (.agg ⟨z8⟩) (opt z7 fun q7=>mapAt w7 q7 fun es _=>opt (Ao6 (iI 0) (.agg ⟨z8⟩) es) fun f=>aInt .i64 f.1 fun z9=>keyN PR E5 (.agg ⟨z8⟩) (opt z7 fun q8=>mapAt w7 q8 fun es_1 cl_1=>opt (D61 (iI 0) (.agg ⟨z8⟩) es_1 cl_1) fun f_1=>aInt .i64 f_1.1 fun _=>lt (H.set w7 q8 f_1.2.2) fun w8=>keyN PR E5 (.agg ⟨z8⟩) (opt z7 fun q9=>mapAt w8 q9 fun es_2 _=>opt (Ao6 (iI 0) (.agg ⟨z8⟩) es_2) fun f_2=>aInt .i64 f_2.1 fun z11=>same (iI z9) (iI z11) (opt z7 fun q10=>mapAt w8 q10 fun es_3 cl_3=>opt (Bq0 (f_1.2.1:Int) es_3 0) fun i=>lt (H.set w8 q10 (.map (modN (fun e=>{ e with val:=iI (wrap .i64 (z9+1)) }) i es_3) cl_3)) fun w9=>R J7 Ak6 [(6,pP p1),(8,pP p2),(11,pP p3),(12,iI z6)] w9)))))
 (R J7 Ak6 [(6,pP p1),(8,pP p2),(11,pP p3),(12,iI z6)] w7))):=kR
theorem A78 :
 xQ Af9 C R J7 Tryz.f95 Ak6 [(6,.pointer (some x6)),(8,.pointer (some nonev)),(11,.pointer (some v)),(12,iI isv)] h =
 cond (isv != 1)
 (gAgg nonev 36 h fun x=>ck (List.length x=36) (pAgg x6 x h fun w=>gAgg x6 36 w fun z1=>some (.tuple ⟨[.agg ⟨z1⟩,iI isv]⟩,w)))
 (gAgg v 36 h fun z2=>ck (List.length z2=36) (pAgg x6 z2 h fun w1=>gAgg x6 36 w1 fun z3=>some (.tuple ⟨[.agg ⟨z3⟩,iI isv]⟩,w1))):=kR
def At3:Cuts:=⟨0,[],[(8,[8,11,12])],[(7,⟨[0,1,2,3,4,5,6,7,8,9],[0,1,3,7,0,31,63,31,159,511],[(7,[5])],[]⟩)]⟩
def Bc5:List Item:=A8 Tryz.f98
def Ay5:List Item:=stk [0,1,0,1,0,1,0,1,0,1,0,1,0,0] Bc5
theorem Eo1 :
 xQ At3 C R U6 Tryz.f98 Bc5 [(0,.pointer c),(1,.agg ⟨r⟩),(2,decode)] h =
 nw (.cells E5 false r) h fun b w=>gAgg ⟨b,0,none⟩ 2 w fun x=>bnd (C P8 [.pointer c,.agg ⟨x⟩] w) fun q1 w1=>as2 q1 fun q2 q3=>aSl q2 fun z1 xn xc=>aBool q3 fun z2=>cond (!z2)
 (some (.tuple ⟨[iI 0,iI 2]⟩,w1))
 (aFn decode fun g fi cp=>bnd (C g (fi++([.slice z1 xn xc]++cp)) w1) fun q4 w2=>as2 q4 fun q5 q6=>aInt .i64 q5 fun z3=>aInt .i64 q6 fun z4=>cond (z4==2)
 (aSome c fun p=>gMap (add p 3) w2 fun z5=>gAgg ⟨b,0,none⟩ 2 w2 fun z6=>keyN PR E5 (.agg ⟨z6⟩) (opt z5 fun q7=>mapAt w2 q7 fun es _=>opt (Ao6 (iI 0) (.agg ⟨z6⟩) es) fun f=>aInt .i64 f.1 fun z7=>keyN PR E5 (.agg ⟨z6⟩) (opt z5 fun q8=>mapAt w2 q8 fun es_1 cl_1=>opt (D61 (iI 0) (.agg ⟨z6⟩) es_1 cl_1) fun f_1=>aInt .i64 f_1.1 fun _=>lt (H.set w2 q8 f_1.2.2) fun w3=>keyN PR E5 (.agg ⟨z6⟩) (opt z5 fun q9=>mapAt w3 q9 fun es_2 _=>opt (Ao6 (iI 0) (.agg ⟨z6⟩) es_2) fun f_2=>aInt .i64 f_2.1 fun z9=>same (iI z7) (iI z9) (opt z5 fun q10=>mapAt w3 q10 fun es_3 cl_3=>opt (Bq0 (f_1.2.1:Int) es_3 0) fun i=>lt (H.set w3 q10 (.map (modN (fun e=>{ e with val:=iI (wrap .i64 (z7+1)) }) i es_3) cl_3)) fun w4=>R U6 Ay5 [(8,iI 0),(11,iI z3),(12,iI z4)] w4)))))
 (R U6 Ay5 [(8,iI 0),(11,iI z3),(12,iI z4)] w2)):=kR
theorem Bq4 (nonev:Int) (v:Int) :
 xQ At3 C R U6 Tryz.f98 Ay5 [(8,iI nonev),(11,iI v),(12,iI isv)] h =
 cond (isv != 1)
 (some (.tuple ⟨[iI nonev,iI isv]⟩,h))
 (some (.tuple ⟨[iI v,iI isv]⟩,h)):=kR
def D58:Cuts:=⟨0,[],[],[]⟩
def Gc3:List Item:=A8 Tryz.f104
theorem Hw0 :
 xQ D58 C R Df5 Tryz.f104 Gc3 [(0,.pointer c),(1,iI i)] h =
 nw (.cells Q8 false [iI 0,iI 0,.slice none 0 0,.bool false]) h fun b w=>bnd (C A41 [.pointer c,iI i] w) fun r w1=>as2 r fun q1 q2=>aAgg q1 fun x=>aInt .i64 q2 fun z1=>nw (.cells D2 false zZ1) w1 fun p1 w2=>ck (List.length x=16) (pAgg ⟨p1,0,none⟩ x w2 fun w3=>cond (z1 != 0)
 (bnd (C A30 [iI z1] w3) fun q3 w4=>aAgg q3 fun z2=>ck (List.length z2=4) (pAgg ⟨b,0,none⟩ z2 w4 fun w5=>gAgg ⟨b,0,none⟩ 4 w5 fun z3=>some (.agg ⟨z3⟩,w5)))
 (bnd (C At6 [.pointer c] w3) fun q4 w6=>aInt .i64 q4 fun z4=>cond (decide (z4<0))
 (bnd (C A30 [iI 111] w6) fun q5 w7=>aAgg q5 fun z5=>ck (List.length z5=4) (pAgg ⟨b,0,none⟩ z5 w7 fun w8=>gAgg ⟨b,0,none⟩ 4 w8 fun z6=>some (.agg ⟨z6⟩,w8)))
 (gAgg ⟨p1,0,none⟩ 16 w6 fun z7=>bnd (C I0 [.pointer c,.agg ⟨z7⟩] w6) fun q6 w9=>aInt .i64 q6 fun z8=>cond (z8 != 0)
 (bnd (C A30 [iI z8] w9) fun q7 w10=>aAgg q7 fun z9=>ck (List.length z9=4) (pAgg ⟨b,0,none⟩ z9 w10 fun w11=>gAgg ⟨b,0,none⟩ 4 w11 fun z10=>some (.agg ⟨z10⟩,w11)))
 (pV ⟨p1,1,none⟩ (iI (wrap .i64 (i+1))) w9 fun w12=>pV ⟨p1,4,none⟩ (iI 0) w12 fun w13=>gAgg ⟨p1,0,none⟩ 16 w13 fun z11=>bnd (C Q2 [.pointer c,iI z4,.agg ⟨z11⟩] w13) fun q8 w14=>aBool q8 fun z12=>bnd (C Df1 [.bool z12,iI z4] w14) fun q9 w15=>aAgg q9 fun z13=>ck (List.length z13=4) (pAgg ⟨b,0,none⟩ z13 w15 fun w16=>gAgg ⟨b,0,none⟩ 4 w16 fun z14=>some (.agg ⟨z14⟩,w16)))))):=kR
def Gh2:Cuts:=⟨0,[],[],[(3,⟨[0,1,2,3,4],[0,0,0,5,15],[],[]⟩),(5,⟨[0,1,2,3],[0,0,3,7],[],[]⟩),(9,⟨[0,1,2,3,4,5,6,7,8],[0,0,3,7,15,0,31,127,255],[],[]⟩)]⟩
def Hl9:List Item:=A8 Tryz.f113
theorem In3 :
 xQ Gh2 C R Dv3 Tryz.f113 Hl9 [(0,.pointer c),(1,iI i),(2,iI fd)] h =
 nw (.cells D8 false [iI 0,iI 0,iI 0,iI 0]) h fun b w=>bnd (C A41 [.pointer c,iI i] w) fun r w1=>as2 r fun q1 q2=>aAgg q1 fun x=>aInt .i64 q2 fun z1=>nw (.cells D2 false zZ1) w1 fun p1 w2=>ck (List.length x=16) (pAgg ⟨p1,0,none⟩ x w2 fun w3=>cond (z1 != 0)
 (gAgg ⟨b,0,none⟩ 4 w3 fun z2=>ck (List.length z2=4) (pAgg ⟨b,0,none⟩ z2 w3 fun w4=>gAgg ⟨b,0,none⟩ 4 w4 fun z3=>some (.tuple ⟨[iI 0,.agg ⟨z3⟩,iI z1]⟩,w4)))
 (gAgg ⟨p1,0,none⟩ 16 w3 fun z4=>bnd (C Df2 [.agg ⟨z4⟩,iI fd] w3) fun q3 w5=>aBool q3 fun z5=>cond (!z5)
 (gAgg ⟨b,0,none⟩ 4 w5 fun z6=>ck (List.length z6=4) (pAgg ⟨b,0,none⟩ z6 w5 fun w6=>gAgg ⟨b,0,none⟩ 4 w6 fun z7=>some (.tuple ⟨[iI 0,.agg ⟨z7⟩,iI 109]⟩,w6)))
 (ck ((0:Int)≤fd∧fd<((8:Nat):Int)) (gInt .i64 (add ⟨p1,8,none⟩ (Int.toNat fd*1)) w5 fun z8=>bnd (C N5 [.pointer c,iI (wrap .i64 (z8-1))] w5) fun q4 w7=>as2 q4 fun q5 q6=>aAgg q5 fun z9=>aInt .i64 q6 fun z10=>ck (List.length z9=4) (pAgg ⟨b,0,none⟩ z9 w7 fun w8=>cond (z10 != 1)
 (pAgg ⟨b,0,none⟩ [iI 0,iI 0,iI 0,iI 0] w8 fun w9=>gAgg ⟨b,0,none⟩ 4 w9 fun z11=>some (.tuple ⟨[iI 0,.agg ⟨z11⟩,iI 105]⟩,w9))
 (ck ((0:Int)≤fd∧fd<((8:Nat):Int)) (gInt .i64 (add ⟨p1,8,none⟩ (Int.toNat fd*1)) w8 fun z12=>gAgg ⟨b,0,none⟩ 4 w8 fun z13=>ck (List.length z13=4) (pAgg ⟨b,0,none⟩ z13 w8 fun w10=>gAgg ⟨b,0,none⟩ 4 w10 fun z14=>some (.tuple ⟨[iI (wrap .i64 (z12-1)),.agg ⟨z14⟩,iI 0]⟩,w10))))))))):=kR
def Da9:Cuts:=⟨0,[],[],[(1,⟨[1,0,2,3,4,5,6],[0,0,3,7,7,31,63],[(0,[1])],[]⟩)]⟩
def Ed5:List Item:=A8 Tryz.f116
theorem Gw1 :
 xQ Da9 C R A80 Tryz.f116 Ed5 [(0,.agg ⟨p⟩)] h =
 nw (.cells D2 false p) h fun b w=>gAgg ⟨b,0,none⟩ 16 w fun x=>bnd (C Bf4 [] w) fun r w1=>aPtr r fun z1=>gAgg ⟨b,0,none⟩ 16 w1 fun z2=>same (.agg ⟨x⟩) (.agg ⟨z2⟩) (bnd (C Y6 [.pointer z1,.agg ⟨x⟩] w1) fun q1 w2=>as2 q1 fun q2 q3=>aSl q2 fun z3 xn xc=>aBool q3 fun z4=>some (.tuple ⟨[.slice z3 xn xc,.bool z4]⟩,w2)):=kR
def D85:Cuts:=⟨0,[],[],[]⟩
def Gc6:List Item:=A8 Tryz.f118
theorem Hs7 :
 xQ D85 C R A41 Tryz.f118 Gc6 [(0,.pointer c),(1,iI i)] h =
 nw (.cells D2 false zZ1) h fun b w=>bnd (C D1 [.pointer c] w) fun r w1=>as0 r (bnd (C J9 [.pointer c,iI i] w1) fun q1 w2=>as2 q1 fun q2 q3=>aAgg q2 fun x=>aInt .i64 q3 fun z1=>nw (.cells D2 false zZ1) w2 fun p1 w3=>ck (List.length x=16) (pAgg ⟨p1,0,none⟩ x w3 fun w4=>bnd (cond (z1 != 1) (some (true,w4)) (gInt .i64 ⟨p1,0,none⟩ w4 fun z2=>some (z2 != 1,w4))) fun c_1 w5=>cond c_1
 (pAgg ⟨b,0,none⟩ zZ1 w5 fun w6=>gAgg ⟨b,0,none⟩ 16 w6 fun z3=>some (.tuple ⟨[.agg ⟨z3⟩,iI 105]⟩,w6))
 (gAgg ⟨p1,0,none⟩ 16 w5 fun z4=>ck (List.length z4=16) (pAgg ⟨b,0,none⟩ z4 w5 fun w7=>gAgg ⟨b,0,none⟩ 16 w7 fun z5=>some (.tuple ⟨[.agg ⟨z5⟩,iI 0]⟩,w7))))):=kR
def Bu1:Cuts:=⟨0,[(3,[0,2,4,31,32,33]),(8,[0,2,4,49])],[],[(1,⟨[0,1,2,3,4,5,6,7,8,9,10,11,12,13,14,15,16,17,18],[0,1,3,7,0,16,48,112,0,256,768,1792,0,4096,12288,28672,65535,0,262143],[],[]⟩),(13,⟨[0,1,2,3,4,5,6,7,8],[0,0,2,6,6,30,62,63,255],[(5,[0])],[]⟩)]⟩
def Df8:List Item:=A8 Tryz.f131
def Dc1:List Item:=stk [0,1,0,1,0,0,1,4,5] Df8
def Dc7:List Item:=stk [0,1,0,1,0,1,0,0,1,4,5] Df8
theorem Ht0 :
 xQ Bu1 C R Z8 Tryz.f131 Df8 [(0,.slice b bn bc)] h =
 nw (.cells D2 false zZ1) h fun p1 w=>aSome b fun p=>ck ((0:Int)≤0∧0<(bn:Int)) (gInt .u8 (add (B2 p) (Int.toNat 0*1)) w fun x=>aSome b fun p_1=>ck ((0:Int)≤1∧1<(bn:Int)) (gInt .u8 (add (B2 p_1) (Int.toNat 1*1)) w fun z1=>aSome b fun p_2=>ck ((0:Int)≤2∧2<(bn:Int)) (gInt .u8 (add (B2 p_2) (Int.toNat 2*1)) w fun z2=>aSome b fun p_3=>ck ((0:Int)≤3∧3<(bn:Int)) (gInt .u8 (add (B2 p_3) (Int.toNat 3*1)) w fun z3=>nw (.cells D2 false zZ1) w fun p2 w1=>pAgg ⟨p2,0,none⟩ [iI (wrap .i64 (x)),iI (wrap .i64 (z1)),iI (wrap .i64 (z2)),iI (wrap .i64 (z3)),iI 0,iI 0,iI 0,iI 0,iI 0,iI 0,iI 0,iI 0,iI 0,iI 0,iI 0,iI 0] w1 fun w2=>nw (.cells I14 false [.pointer (some ⟨p2,4,none⟩),.pointer (some ⟨p2,5,none⟩),.pointer (some ⟨p2,6,none⟩),.pointer (some ⟨p2,7,none⟩)]) w2 fun p3 w3=>R Z8 Dc1 [(0,.slice b bn bc),(2,pP p1),(4,pP p2),(31,.slice (some ⟨p3,0,none⟩) 4 4),(32,iI 4),(33,iI 0)] w3)))):=kR
theorem A67 (p:Addr) (x31:Option Addr) (x31n x31c:Nat) (x32:Int) (x33:Int) :
 xQ Bu1 C R Z8 Tryz.f131 Dc1 [(0,.slice b bn bc),(2,.pointer (some x2)),(4,.pointer (some p)),(31,.slice x31 x31n x31c),(32,iI x32),(33,iI x33)] h =
 cond (decide (x33<x32))
 (aSome x31 fun p_1=>ck ((0:Int)≤x33∧x33<(x31n:Int)) (gPtr (add (B2 p_1) (Int.toNat x33*1)) h fun x=>bnd (C B72 [.slice b bn bc,iI (wrap .i64 (4+(wrap .i64 (2*x33))))] h) fun r w=>as2 r fun q1 q2=>aInt .i64 q1 fun z1=>aBool q2 fun _=>aSome x fun p_2=>pV p_2 (iI z1) w fun w1=>R Z8 Dc1 [(0,.slice b bn bc),(2,.pointer (some x2)),(4,.pointer (some p)),(31,.slice x31 x31n x31c),(32,iI x32),(33,iI (wrap .i64 (x33+1)))] w1))
 (R Z8 Dc7 [(0,.slice b bn bc),(2,.pointer (some x2)),(4,.pointer (some p)),(49,iI 0)] h):=kR
theorem Aa3 (p:Addr) (x49:Int) :
 xQ Bu1 C R Z8 Tryz.f131 Dc7 [(0,.slice b bn bc),(2,.pointer (some x2)),(4,.pointer (some p)),(49,iI x49)] h =
 cond (decide (x49<8))
 (aSome b fun p_1=>ck ((0:Int)≤wrap .i64 (12+x49)∧wrap .i64 (12+x49)<(bn:Int)) (gInt .u8 (add (B2 p_1) (Int.toNat (wrap .i64 (12+x49))*1)) h fun x=>ck ((0:Int)≤x49∧x49<((8:Nat):Int)) (pV (add (add p 8) (Int.toNat x49*1)) (iI (wrap .i64 (x))) h fun w=>R Z8 Dc7 [(0,.slice b bn bc),(2,.pointer (some x2)),(4,.pointer (some p)),(49,iI (wrap .i64 (x49+1)))] w)))
 (gAgg p 16 h fun z1=>bnd (C A80 [.agg ⟨z1⟩] h) fun r w1=>as2 r fun q1 q2=>aSl q1 fun z2 xn xc=>aBool q2 fun z3=>gAgg p 16 w1 fun z4=>bnd (cond z3 (bnd (C D5 [.slice z2 xn xc,.slice b bn bc] w1) fun q3 w2=>aBool q3 fun z5=>gAgg p 16 w2 fun z6=>same (.agg ⟨z4⟩) (.agg ⟨z6⟩) (some (z5,w2))) (some (false,w1))) fun c w3=>ck (List.length z4=16) (pAgg x2 z4 w3 fun w4=>gAgg x2 16 w4 fun z7=>some (.tuple ⟨[.agg ⟨z7⟩,.bool c]⟩,w4))):=kR
def D00:Cuts:=⟨0,[],[],[]⟩
def Et5:List Item:=A8 Tryz.f137
theorem Hd4 :
 xQ D00 C R B30 Tryz.f137 Et5 [(0,.pointer m),(1,.pointer s)] h =
 nw (.cells Du7 false [.pointer m,.pointer s,.slice none 0 0]) h fun b w=>some (pP b,w):=kR
def Bz4:Cuts:=⟨0,[],[],[]⟩
def Dx2:List Item:=A8 Tryz.f142
theorem Gj9 (c:List Value) :
 xQ Bz4 C R Bd2 Tryz.f142 Dx2 [(0,.pointer s),(1,iI env),(2,.agg ⟨c⟩)] h =
 nw (.cells Q9 false c) h fun b w=>bnd (C Ah2 [.pointer s,iI env] w) fun r w1=>aBool r fun x=>bnd (cond (!x) (some (true,w1)) (gInt .i64 ⟨b,1,none⟩ w1 fun z1=>some ((B21 .i64 z1 7) != 0,w1))) fun c_1 w2=>bnd (cond c_1 (some (true,w2)) (gInt .i64 ⟨b,2,none⟩ w2 fun z2=>bnd (C Am9 [iI z2] w2) fun q1 w3=>aBool q1 fun z3=>some (!z3,w3))) fun c_2 w4=>bnd (cond c_2 (some (true,w4)) (gInt .i64 ⟨b,3,none⟩ w4 fun z4=>bnd (C Am9 [iI z4] w4) fun q2 w5=>aBool q2 fun z5=>some (!z5,w5))) fun c_3 w6=>cond c_3
 (some (.tuple ⟨[iI 0,iI 1]⟩,w6))
 (pAgg ⟨b,4,none⟩ [iI 0,iI 0] w6 fun w7=>gAgg ⟨b,0,none⟩ 6 w7 fun z6=>bnd (C Aw2 [.pointer s,iI env,.agg ⟨z6⟩] w7) fun q3 w8=>as2 q3 fun q4 q5=>aInt .i64 q4 fun z7=>aInt .i64 q5 fun z8=>some (.tuple ⟨[iI z7,iI z8]⟩,w8)):=kR
def Bi1:Cuts:=⟨0,[(3,[0,3,4])],[],[(5,⟨[0,1,2,3,4,5,6,7,8,9,10,11,12,13,14,15,16],[0,0,2,6,14,0,0,96,224,480,992,2016,4064,8190,16383,32767,65535],[],[]⟩)]⟩
def B28:List Item:=A8 Tryz.f143
def A21:List Item:=stk [0,1,0,1,0,0,1,4,5] B28
theorem Gr8 :
 xQ Bi1 C R Ac0 Tryz.f143 B28 [(0,.slice l ln lc)] h =
 nw (.cells Ew2 false [.slice none 0 0]) h fun b w=>R Ac0 A21 [(0,.slice l ln lc),(3,pP b),(4,iI 0)] w:=kR
theorem Dh8 (q:Addr) :
 xQ Bi1 C R Ac0 Tryz.f143 A21 [(0,.slice l ln lc),(3,.pointer (some q)),(4,iI i)] h =
 bnd (cond (decide (i<(ln:Int))) (some (decide (i<4),h)) (some (false,h))) fun c w=>cond c
 (gSl (add q 0) w fun x xn xc=>aSome l fun p=>ck ((0:Int)≤i∧i<(ln:Int)) (gInt .i64 (add (B2 p) (Int.toNat i*1)) w fun z1=>ck ((0:Int)≤mm2 false (mm2 true z1 0) 64∧(mm2 false (mm2 true z1 0) 64:Int)≤mm2 false (mm2 true z1 0) 64∧mm2 false (mm2 true z1 0) 64≤(B1:Int)) (nw (.cells Gp8 false (L5 (Int.toNat (mm2 false (mm2 true z1 0) 64)) [.bool false])) w fun b w1=>nw (.cells Dw2 false [.slice (some ⟨b,0,none⟩) (Int.toNat (mm2 false (mm2 true z1 0) 64)) (Int.toNat (mm2 false (mm2 true z1 0) 64))]) w1 fun p1 w2=>gCells (some ⟨p1,0,none⟩) (1*1) w2 fun cs=>ckB (fitsOpen x Dw2 w2) (apd Dw2 1 x xn xc 1 cs w2 fun a an ac w3=>pV (add q 0) (.slice a an ac) w3 fun w4=>R Ac0 A21 [(0,.slice l ln lc),(3,.pointer (some q)),(4,iI (wrap .i64 (i+1)))] w4))))
 (some (.pointer (some q),w)):=kR
def A23:Cuts:=⟨0,[(3,[0,1,5,6])],[],[]⟩
def Bl8:List Item:=A8 Tryz.f144
def An6:List Item:=stk [0,1,0,1,0,0,1,4,5] Bl8
theorem Ey7 (s:Int) :
 xQ A23 C R P4 Tryz.f144 Bl8 [(0,.pointer q),(1,iI s)] h =
 R P4 An6 [(0,.pointer q),(1,iI s),(5,iI 0),(6,iI 0)] h:=kR
theorem B18 (s:Int) :
 xQ A23 C R P4 Tryz.f144 An6 [(0,.pointer q),(1,iI s),(5,iI n),(6,iI i)] h =
 cond (decide (i<s))
 (aSome q fun p=>gSl (add p 0) h fun x xn _=>aSome x fun p_1=>ck ((0:Int)≤i∧i<(xn:Int)) (gSl (add (B2 p_1) (Int.toNat i*1)) h fun _ xn_1 _=>R P4 An6 [(0,.pointer q),(1,iI s),(5,iI (wrap .i64 (n+(xn_1:Int)))),(6,iI (wrap .i64 (i+1)))] h))
 (some (iI n,h)):=kR
def A86:Cuts:=⟨0,[],[],[]⟩
def B09:List Item:=A8 Tryz.f150
theorem Ee2 (r:Option Addr) :
 xQ A86 C R Ae7 Tryz.f150 B09 [(0,.pointer r),(1,iI env),(2,iI name),(3,iI atv),(4,iI n)] h =
 bnd (C Ac6 [.pointer r,iI env,iI name,iI 1,iI atv,iI n] h) fun q1 w=>as2 q1 fun q2 q3=>aInt .i64 q2 fun x=>aInt .i64 q3 fun z1=>cond (z1 != 0)
 (some (.tuple ⟨[.slice none 0 0,iI z1]⟩,w))
 (aSome r fun p=>gPtr (add p 0) w fun z2=>bnd (C Bp2 [.pointer z2,iI x,iI n] w) fun q4 w1=>as2 q4 fun q5 q6=>aSl q5 fun z3 xn xc=>aInt .i64 q6 fun z4=>some (.tuple ⟨[.slice z3 xn xc,iI z4]⟩,w1)):=kR
def Br0:Cuts:=⟨0,[],[],[]⟩
def Dn1:List Item:=A8 Tryz.f157
theorem E91 (c:List Value) :
 xQ Br0 C R A52 Tryz.f157 Dn1 [(0,.pointer k),(1,iI env),(2,.agg ⟨c⟩)] h =
 nw (.cells A02 false c) h fun b w=>gInt .i64 ⟨b,3,none⟩ w fun x=>bnd (C Aw5 [.pointer k,iI env,iI x] w) fun r w1=>as2 r fun q1 q2=>aPtr q1 fun z1=>aInt .i64 q2 fun z2=>cond (z2 != 0)
 (some (.tuple ⟨[iI 0,iI z2]⟩,w1))
 (aSome k fun p=>gInt .i64 (add p 7) w1 fun z3=>bnd (C D0 [.pointer z1,iI env,iI z3] w1) fun q3 w2=>as2 q3 fun q4 q5=>aInt .i64 q4 fun z4=>aBool q5 fun _=>some (.tuple ⟨[iI z4,iI 0]⟩,w2)):=kR
def Bw9:Cuts:=⟨0,[],[],[]⟩
def Du1:List Item:=A8 Tryz.f160
theorem Gk4 :
 xQ Bw9 C R Bb9 Tryz.f160 Du1 [(0,.pointer s),(1,iI e),(2,iI name)] h =
 nw (.cells Q9 false [iI 0,iI 0,iI 0,iI 0,iI 0,iI 0]) h fun b w=>bnd (C Ak9 [.pointer s,iI e] w) fun r w1=>aBool r fun x=>bnd (cond (!x) (some (true,w1)) (aSome s fun p=>gSl (add p 0) w1 fun z1 xn _=>aSome z1 fun p_1=>ck ((0:Int)≤e∧e<(xn:Int)) (gPtr (add (B2 p_1) (Int.toNat e*1)) w1 fun z2=>bnd (C Bd5 [.pointer z2,iI name] w1) fun q1 w2=>aBool q1 fun z3=>some (!z3,w2)))) fun c w3=>cond c
 (pAgg ⟨b,0,none⟩ [iI 0,iI 0,iI 0,iI 0,iI 0,iI 0] w3 fun w4=>gAgg ⟨b,0,none⟩ 6 w4 fun z4=>some (.tuple ⟨[.agg ⟨z4⟩,iI 2]⟩,w4))
 (aSome s fun p_2=>gSl (add p_2 1) w3 fun z5 xn_1 _=>aSome z5 fun p_3=>ck ((0:Int)≤e∧e<(xn_1:Int)) (gSl (add (B2 p_3) (Int.toNat e*1)) w3 fun z6 xn_2 _=>aSome z6 fun p_4=>ck ((0:Int)≤M8 .i64 name 255∧M8 .i64 name 255<(xn_2:Int)) (gAgg (add (B2 p_4) (Int.toNat (M8 .i64 name 255)*6)) 6 w3 fun z7=>ck (List.length z7=6) (pAgg ⟨b,0,none⟩ z7 w3 fun w5=>gAgg ⟨b,0,none⟩ 6 w5 fun z8=>some (.tuple ⟨[.agg ⟨z8⟩,iI 0]⟩,w5))))):=kR
def By8:Cuts:=⟨0,[],[],[]⟩
def Dw0:List Item:=A8 Tryz.f161
theorem Gi4 :
 xQ By8 C R Ak9 Tryz.f161 Dw0 [(0,.pointer s),(1,iI e)] h =
 bnd (cond (decide (e≥0)) (aSome s fun p=>gSl (add p 0) h fun _ xn _=>some (decide (e<(xn:Int)),h)) (some (false,h))) fun c w=>some (.bool c,w):=kR
def Bc0:Cuts:=⟨0,[(3,[0,3,4])],[],[]⟩
def Bz9:List Item:=A8 Tryz.f170
def Ak1:List Item:=stk [0,1,0,1,0,0,1,4,5] Bz9
theorem Gk3 (n:Option Addr) :
 xQ Bc0 C R U8 Tryz.f170 Bz9 [(0,.pointer n)] h =
 R U8 Ak1 [(0,.pointer n),(3,.slice none 0 0),(4,iI 0)] h:=kR
theorem Da3 (n:Option Addr) :
 xQ Bc0 C R U8 Tryz.f170 Ak1 [(0,.pointer n),(3,.slice out outn outc),(4,iI i)] h =
 aSome n fun p=>gSl (add p 0) h fun _ xn _=>cond (decide (i<(xn:Int)))
 (aSome n fun p_1=>gSl (add p_1 0) h fun z1 xn_1 _=>aSome z1 fun p_2=>ck ((0:Int)≤i∧i<(xn_1:Int)) (gBool (add (add (B2 p_2) (Int.toNat i*2)) 1) h fun z2=>cond z2
 (aSome n fun p_3=>gSl (add p_3 0) h fun z3 xn_2 _=>aSome z3 fun p_4=>ck ((0:Int)≤i∧i<(xn_2:Int)) (gInt .i64 (add (add (B2 p_4) (Int.toNat i*2)) 0) h fun z4=>nw (.cells B5 false [iI (wrap .i64 (i+(wrap .i64 (256*z4))))]) h fun b w=>gCells (some ⟨b,0,none⟩) (1*1) w fun cs=>ckB (fitsOpen out B5 w) (apd B5 1 out outn outc 1 cs w fun a an ac w1=>R U8 Ak1 [(0,.pointer n),(3,.slice a an ac),(4,iI (wrap .i64 (i+1)))] w1)))
 (R U8 Ak1 [(0,.pointer n),(3,.slice out outn outc),(4,iI (wrap .i64 (i+1)))] h)))
 (some (.slice out outn outc,h)):=kR
def D93:Cuts:=⟨0,[],[],[]⟩
def Gb6:List Item:=A8 Tryz.f199
theorem Hs9 :
 xQ D93 C R Df2 Tryz.f199 Gb6 [(0,.agg ⟨p⟩),(1,iI fd)] h =
 nw (.cells D2 false p) h fun b w=>bnd (cond (decide (fd≥0)) (some (decide (fd<8),w)) (some (false,w))) fun c w1=>bnd (cond c (ck ((0:Int)≤fd∧fd<((8:Nat):Int)) (gInt .i64 (add ⟨b,8,none⟩ (Int.toNat fd*1)) w1 fun x=>some (decide (x>0),w1))) (some (false,w1))) fun c_1 w2=>some (.bool c_1,w2):=kR
def Aj4:Cuts:=⟨0,[],[],[(2,⟨[0,1,2,3,4,5,6,7,8,9,10,11,12,13,14],[0,1,3,7,15,31,63,127,255,511,63,63,4095,8191,16383],[],[]⟩)]⟩
def A51:List Item:=A8 Tryz.f203
theorem B92 (v:List Value) :
 xQ Aj4 C R Y6 Tryz.f203 A51 [(0,.pointer c),(1,.agg ⟨v⟩)] h =
 nw (.cells D2 false v) h fun b w=>aSome c fun p=>gInt .i64 (add p 0) w fun x=>ck ((0:Int)≤x∧(x:Int)≤x∧x≤(B1:Int)) (nw (.cells A7 false (L5 (Int.toNat x) [.int .u8 0])) w fun p1 w1=>aSome c fun p_1=>gFv (add p_1 1) w1 fun z1=>isNilF z1 fun p2=>bnd (cond p2 (some (true,w1)) (aSome c fun p_2=>gFv (add p_2 1) w1 fun z2=>gAgg ⟨b,0,none⟩ 16 w1 fun z3=>aFn z2 fun g fi cp=>bnd (C g (fi++([.agg ⟨z3⟩,.slice (some ⟨p1,0,none⟩) (Int.toNat x) (Int.toNat x)]++cp)) w1) fun r w2=>aBool r fun z4=>some (!z4,w2))) fun c_1 w3=>cond c_1
 (some (.tuple ⟨[.slice none 0 0,.bool false]⟩,w3))
 (some (.tuple ⟨[.slice (some ⟨p1,0,none⟩) (Int.toNat x) (Int.toNat x),.bool true]⟩,w3))):=kR
def W5:Cuts:=⟨0,[(2,[0,1,7,8])],[],[]⟩
def Ah3:List Item:=A8 Tryz.f208
def U1:List Item:=stk [0,1,0,0,1,4,5] Ah3
theorem B62 :
 xQ W5 C R G6 Tryz.f208 Ah3 [(0,.slice s sn sc),(1,f)] h =
 R G6 U1 [(0,.slice s sn sc),(1,f),(7,iI (sn:Int)),(8,iI 0)] h:=kR
theorem At4 (x7:Int) (x8:Int) :
 xQ W5 C R G6 Tryz.f208 U1 [(0,.slice s sn sc),(1,f),(7,iI x7),(8,iI x8)] h =
 cond (decide (x8<x7))
 (aSome s fun p=>ck ((0:Int)≤x8∧x8<(sn:Int)) (gInt .u8 (add (B2 p) (Int.toNat x8*1)) h fun x=>aFn f fun g fi cp=>bnd (C g (fi++([.int .u8 x]++cp)) h) fun r w=>aBool r fun z1=>cond z1
 (some (iI x8,w))
 (R G6 U1 [(0,.slice s sn sc),(1,f),(7,iI x7),(8,iI (wrap .i64 (x8+1)))] w)))
 (some (iI (-1),h)):=kR
def Dy5:Cuts:=⟨0,[],[],[]⟩
def Et9:List Item:=A8 Tryz.f210
theorem Hd5 :
 xQ Dy5 C R Bm0 Tryz.f210 Et9 [(0,.slice b bn bc),(1,iI atv),(2,iI n)] h =
 bnd (cond (decide (atv<0)) (some (true,h)) (some (decide (atv>(wrap .i64 ((bn:Int)-2))),h))) fun c w=>bnd (cond c (some (true,w)) (some (decide (n<0),w))) fun c_1 w1=>bnd (cond c_1 (some (true,w1)) (some (decide (n>65535),w1))) fun c_2 w2=>cond c_2
 (some (.bool false,w2))
 (aSome b fun p=>ck ((0:Int)≤atv∧atv<(bn:Int)) (pV (add (B2 p) (Int.toNat atv*1)) (.int .u8 (wrap .u8 (Int.fdiv n (2 ^ 8)))) w2 fun w3=>aSome b fun p_1=>ck ((0:Int)≤wrap .i64 (atv+1)∧wrap .i64 (atv+1)<(bn:Int)) (pV (add (B2 p_1) (Int.toNat (wrap .i64 (atv+1))*1)) (.int .u8 (wrap .u8 (n))) w3 fun w4=>some (.bool true,w4)))):=kR
def Du2:Cuts:=⟨0,[],[],[(3,⟨[0,1,2,3,4,5,6,7,8,9,10,11,12,13,14],[0,0,3,7,15,31,0,0,128,448,960,1984,4095,8191,16383],[],[]⟩)]⟩
def Eu2:List Item:=A8 Tryz.f212
theorem Hf9 :
 xQ Du2 C R B72 Tryz.f212 Eu2 [(0,.slice b bn bc),(1,iI atv)] h =
 bnd (cond (decide (atv<0)) (some (true,h)) (some (decide (atv>(wrap .i64 ((bn:Int)-2))),h))) fun c w=>cond c
 (some (.tuple ⟨[iI 0,.bool false]⟩,w))
 (aSome b fun p=>ck ((0:Int)≤atv∧atv<(bn:Int)) (gInt .u8 (add (B2 p) (Int.toNat atv*1)) w fun x=>aSome b fun p_1=>ck ((0:Int)≤wrap .i64 (atv+1)∧wrap .i64 (atv+1)<(bn:Int)) (gInt .u8 (add (B2 p_1) (Int.toNat (wrap .i64 (atv+1))*1)) w fun z1=>some (.tuple ⟨[iI (H90 .i64 (wrap .i64 ((wrap .i64 (x))*2 ^ 8)) (wrap .i64 (z1))),.bool true]⟩,w)))):=kR
def Ax3:Cuts:=⟨0,[(3,[3,15,16])],[],[]⟩
def Bh3:List Item:=A8 Tryz.f217
def Am0:List Item:=stk [0,1,0,1,0,0,1,4,5] Bh3
theorem Es9 (size:Int) :
 xQ Ax3 C R Q6 Tryz.f217 Bh3 [(0,iI size)] h =
 ck ((0:Int)≤mm2 false (mm2 true size 0) 256∧(mm2 false (mm2 true size 0) 256:Int)≤mm2 false (mm2 true size 0) 256∧mm2 false (mm2 true size 0) 256≤(B1:Int)) (nw (.cells Ao4 false (L5 (Int.toNat (mm2 false (mm2 true size 0) 256)) [iI 0,iI 0,iI 0,iI 0,iI 0,iI 0,iI 0,.bool false])) h fun b w=>nw (.cells B13 false [.slice (some ⟨b,0,none⟩) (Int.toNat (mm2 false (mm2 true size 0) 256)) (Int.toNat (mm2 false (mm2 true size 0) 256))]) w fun p1 w1=>gSl ⟨p1,0,none⟩ w1 fun _ xn _=>R Q6 Am0 [(3,pP p1),(15,iI (xn:Int)),(16,iI 0)] w1):=kR
theorem Bt4 (t:Addr) (x16:Int) :
 xQ Ax3 C R Q6 Tryz.f217 Am0 [(3,.pointer (some t)),(15,iI x15),(16,iI x16)] h =
 cond (decide (x16<x15))
 (gSl (add t 0) h fun x xn _=>aSome x fun p=>ck ((0:Int)≤x16∧x16<(xn:Int)) (pV (add (add (B2 p) (Int.toNat x16*8)) 6) (iI 1) h fun w=>R Q6 Am0 [(3,.pointer (some t)),(15,iI x15),(16,iI (wrap .i64 (x16+1)))] w))
 (some (.pointer (some t),h)):=kR
def Bm6:Cuts:=⟨0,[],[],[]⟩
def Dj3:List Item:=A8 Tryz.f219
theorem Ew7 :
 xQ Bm6 C R Am9 Tryz.f219 Dj3 [(0,iI n)] h =
 bnd (cond (decide (n≥0)) (some (decide (n≤65536),h)) (some (false,h))) fun c w=>some (.bool c,w):=kR
def A38:Cuts:=⟨0,[],[],[(6,⟨[0,1,2,3,4,5,6,7,8,9,10,11,12,13,14,15,16,17,18,19,20,21,22,23,24,25,26,27,28,29,30,31,32,33,34,35],[0,1,3,7,15,31,63,127,127,383,1023,2047,4095,8191,8191,24575,8191,122879,262143,524287,1048575,2097151,4194303,8388607,16777215,33554431,67108863,134217727,67108863,335544319,872415231,1946157055,4093640703,8589934591,17179869183,34359738367],[],[]⟩),(8,⟨[0,1,2,3,4,5,6,7,8,9],[0,1,3,7,0,16,63,127,0,511],[],[]⟩)]⟩
def Bt8:List Item:=A8 Tryz.f222
theorem Ea1 (r:Option Addr) (right:Int) :
 xQ A38 C R Ac6 Tryz.f222 Bt8 [(0,.pointer r),(1,iI env),(2,iI name),(3,iI right),(4,iI atv),(5,iI n)] h =
 aSome r fun p=>gPtr (add p 1) h fun x=>bnd (C Aw0 [.pointer x,iI env,iI name] h) fun q1 w=>as2 q1 fun q2 q3=>aAgg q2 fun z1=>aInt .i64 q3 fun z2=>nw (.cells Q9 false [iI 0,iI 0,iI 0,iI 0,iI 0,iI 0]) w fun b w1=>ck (List.length z1=6) (pAgg ⟨b,0,none⟩ z1 w1 fun w2=>cond (z2 != 0)
 (some (.tuple ⟨[iI 0,iI z2]⟩,w2))
 (gInt .i64 ⟨b,1,none⟩ w2 fun z3=>cond ((M8 .i64 z3 right)==0)
 (some (.tuple ⟨[iI 0,iI 3]⟩,w2))
 (bnd (cond (decide (atv<0)) (some (true,w2)) (some (decide (n<0),w2))) fun c w3=>bnd (cond c (some (true,w3)) (gInt .i64 ⟨b,3,none⟩ w3 fun z4=>some (decide (atv>z4),w3))) fun c_1 w4=>bnd (cond c_1 (some (true,w4)) (gInt .i64 ⟨b,3,none⟩ w4 fun z5=>some (decide (n>(wrap .i64 (z5-atv))),w4))) fun c_2 w5=>bnd (cond c_2 (some (true,w5)) (gInt .i64 ⟨b,0,none⟩ w5 fun z6=>some (decide (z6<0),w5))) fun c_3 w6=>bnd (cond c_3 (some (true,w6)) (gInt .i64 ⟨b,0,none⟩ w6 fun z7=>aSome r fun p_1=>gSl (add p_1 2) w6 fun _ xn _=>some (decide (z7≥(xn:Int)),w6))) fun c_4 w7=>cond c_4
 (some (.tuple ⟨[iI 0,iI 1]⟩,w7))
 (aSome r fun p_2=>gSl (add p_2 2) w7 fun z9 xn_1 _=>gInt .i64 ⟨b,0,none⟩ w7 fun z10=>aSome z9 fun p_3=>ck ((0:Int)≤z10∧z10<(xn_1:Int)) (gAgg (add (B2 p_3) (Int.toNat z10*2)) 2 w7 fun z11=>nw (.cells Az1 false [iI 0,iI 0]) w7 fun p1 w8=>ck (List.length z11=2) (pAgg ⟨p1,0,none⟩ z11 w8 fun w9=>gInt .i64 ⟨b,2,none⟩ w9 fun z12=>gInt .i64 ⟨p1,1,none⟩ w9 fun z13=>bnd (cond (decide ((wrap .i64 (z12+atv))>z13)) (some (true,w9)) (gInt .i64 ⟨p1,1,none⟩ w9 fun z14=>gInt .i64 ⟨b,2,none⟩ w9 fun z15=>some (decide (n>(wrap .i64 ((wrap .i64 (z14-z15))-atv))),w9))) fun c_5 w10=>cond c_5
 (some (.tuple ⟨[iI 0,iI 1]⟩,w10))
 (gInt .i64 ⟨p1,0,none⟩ w10 fun z16=>gInt .i64 ⟨b,2,none⟩ w10 fun z17=>some (.tuple ⟨[iI (wrap .i64 ((wrap .i64 (z16+z17))+atv)),iI 0]⟩,w10)))))))):=kR
def Db5:Cuts:=⟨0,[],[],[]⟩
def Ee1:List Item:=A8 Tryz.f223
theorem Gu8 :
 xQ Db5 C R Bp2 Tryz.f223 Ee1 [(0,.pointer m),(1,iI atv),(2,iI n)] h =
 bnd (C Bl0 [.pointer m,iI atv,iI n] h) fun r w=>aBool r fun x=>cond (!x)
 (some (.tuple ⟨[.slice none 0 0,iI 1]⟩,w))
 (aSome m fun p=>gSl (add p 0) w fun z1 _ xc=>ckB (fitsOpen z1 A7 w) (ck ((0:Int)≤wrap .i64 (atv+n)∧wrap .i64 (atv+n)≤(xc:Int)) (ck ((0:Int)≤atv∧atv≤((Int.toNat (wrap .i64 (atv+n)):Nat):Int)) (bnd (C E9 [.slice (I8 z1 (decide (Int.toNat atv<xc)) ((Int.toNat atv)*1)) ((Int.toNat (wrap .i64 (atv+n)))-(Int.toNat atv)) (xc-(Int.toNat atv))] w) fun q1 w1=>aSl q1 fun z2 xn_1 xc_1=>some (.tuple ⟨[.slice z2 xn_1 xc_1,iI 0]⟩,w1))))):=kR
def B02:Cuts:=⟨0,[],[],[]⟩
def Dx5:List Item:=A8 Tryz.f225
theorem Gd9 :
 xQ B02 C R Aw0 Tryz.f225 Dx5 [(0,.pointer s),(1,iI env),(2,iI name)] h =
 nw (.cells Q9 false [iI 0,iI 0,iI 0,iI 0,iI 0,iI 0]) h fun b w=>bnd (C Ah2 [.pointer s,iI env] w) fun r w1=>aBool r fun x=>cond (!x)
 (pAgg ⟨b,0,none⟩ [iI 0,iI 0,iI 0,iI 0,iI 0,iI 0] w1 fun w2=>gAgg ⟨b,0,none⟩ 6 w2 fun z1=>some (.tuple ⟨[.agg ⟨z1⟩,iI 2]⟩,w2))
 (aSome s fun p=>gSl (add p 0) w1 fun z2 xn _=>aSome z2 fun p_1=>ck ((0:Int)≤env∧env<(xn:Int)) (gPtr (add (B2 p_1) (Int.toNat env*1)) w1 fun z3=>bnd (C Af5 [.pointer z3,iI name] w1) fun q1 w3=>as2 q1 fun q2 q3=>aAgg q2 fun z4=>aBool q3 fun z5=>nw (.cells Q9 false [iI 0,iI 0,iI 0,iI 0,iI 0,iI 0]) w3 fun p1 w4=>ck (List.length z4=6) (pAgg ⟨p1,0,none⟩ z4 w4 fun w5=>cond (!z5)
 (pAgg ⟨b,0,none⟩ [iI 0,iI 0,iI 0,iI 0,iI 0,iI 0] w5 fun w6=>gAgg ⟨b,0,none⟩ 6 w6 fun z6=>some (.tuple ⟨[.agg ⟨z6⟩,iI 2]⟩,w6))
 (gAgg ⟨p1,0,none⟩ 6 w5 fun z7=>ck (List.length z7=6) (pAgg ⟨b,0,none⟩ z7 w5 fun w7=>gAgg ⟨b,0,none⟩ 6 w7 fun z8=>some (.tuple ⟨[.agg ⟨z8⟩,iI 0]⟩,w7)))))):=kR
def Bx3:Cuts:=⟨0,[],[],[]⟩
def Dy8:List Item:=A8 Tryz.f228
theorem Gj2 (s:Int) :
 xQ Bx3 C R Ak5 Tryz.f228 Dy8 [(0,.pointer q),(1,iI s)] h =
 bnd (cond (decide (s≥0)) (aSome q fun p=>gSl (add p 0) h fun _ xn _=>some (decide (s<(xn:Int)),h)) (some (false,h))) fun c w=>some (.bool c,w):=kR
def Br2:Cuts:=⟨0,[],[],[]⟩
def Dn5:List Item:=A8 Tryz.f232
theorem E81 (stamp:Int) :
 xQ Br2 C R A61 Tryz.f232 Dn5 [(0,.pointer s),(1,iI who),(2,iI stamp)] h =
 bnd (C Ai1 [.pointer s,iI who,iI stamp] h) fun r w=>aBool r fun x=>cond (!x)
 (some (.bool false,w))
 (aSome s fun p=>pV (add p 1) (.bool false) w fun w1=>aSome s fun p_1=>gInt .i64 (add p_1 7) w1 fun z1=>aSome s fun p_2=>pV (add p_2 6) (iI z1) w1 fun w2=>some (.bool true,w2)):=kR
def Bz7:Cuts:=⟨0,[],[],[]⟩
def D01:List Item:=A8 Tryz.f233
theorem Gf5 (n:Option Addr) :
 xQ Bz7 C R Bd5 Tryz.f233 D01 [(0,.pointer n),(1,iI name)] h =
 bnd (cond (decide (name≥0)) (aSome n fun p=>gSl (add p 0) h fun _ xn _=>some (decide ((M8 .i64 name 255)<(xn:Int)),h)) (some (false,h))) fun c w=>bnd (cond c (aSome n fun p_1=>gSl (add p_1 0) w fun z1 xn_1 _=>aSome z1 fun p_2=>ck ((0:Int)≤M8 .i64 name 255∧M8 .i64 name 255<(xn_1:Int)) (gBool (add (add (B2 p_2) (Int.toNat (M8 .i64 name 255)*2)) 1) w fun z2=>some (z2,w))) (some (false,w))) fun c_1 w1=>bnd (cond c_1 (aSome n fun p_3=>gSl (add p_3 0) w1 fun z3 xn_2 _=>aSome z3 fun p_4=>ck ((0:Int)≤M8 .i64 name 255∧M8 .i64 name 255<(xn_2:Int)) (gInt .i64 (add (add (B2 p_4) (Int.toNat (M8 .i64 name 255)*2)) 0) w1 fun z4=>some (z4==(Int.fdiv name (2 ^ 8)),w1))) (some (false,w1))) fun c_2 w2=>some (.bool c_2,w2):=kR
def Ei8:Cuts:=⟨0,[],[],[(1,⟨[0,1,2,3,4,5,6,7,8,9,10,11,12,13,14,15,16,17,18],[0,1,3,7,0,16,48,112,0,256,768,1792,0,4096,12288,28672,65535,0,262143],[],[]⟩),(2,⟨[0,1,2,3,4],[0,1,0,4,15],[],[]⟩),(4,⟨[0,1,2,3,4,5,6,7,8],[0,0,2,6,6,30,62,63,255],[(5,[0])],[]⟩)]⟩
def Gp7:List Item:=A8 Tryz.f242
theorem H88 :
 xQ Ei8 C R Bp4 Tryz.f242 Gp7 [(0,.slice b bn bc)] h =
 nw (.cells D3 false zZ2) h fun p1 w=>aSome b fun p=>ck ((0:Int)≤1∧1<(bn:Int)) (gInt .u8 (add (B2 p) (Int.toNat 1*1)) w fun x=>aSome b fun p_1=>ck ((0:Int)≤2∧2<(bn:Int)) (gInt .u8 (add (B2 p_1) (Int.toNat 2*1)) w fun z1=>aSome b fun p_2=>ck ((0:Int)≤3∧3<(bn:Int)) (gInt .u8 (add (B2 p_2) (Int.toNat 3*1)) w fun z2=>aSome b fun p_3=>ck ((0:Int)≤4∧4<(bn:Int)) (gInt .u8 (add (B2 p_3) (Int.toNat 4*1)) w fun z3=>nw (.cells D3 false zZ2) w fun p2 w1=>pAgg ⟨p2,0,none⟩ [iI (wrap .i64 (x)),iI (wrap .i64 (z1)),iI (wrap .i64 (z2)),iI (wrap .i64 (z3)),.int .u8 0,.int .u8 0,.int .u8 0,.int .u8 0,.int .u8 0,.int .u8 0,.int .u8 0,.int .u8 0,.int .u8 0,.int .u8 0,.int .u8 0,.int .u8 0,.int .u8 0,.int .u8 0,.int .u8 0,.int .u8 0,.int .u8 0,.int .u8 0,.int .u8 0,.int .u8 0,.int .u8 0,.int .u8 0,.int .u8 0,.int .u8 0,.int .u8 0,.int .u8 0,.int .u8 0,.int .u8 0,.int .u8 0,.int .u8 0,.int .u8 0,.int .u8 0] w1 fun w2=>ckB (liveA ⟨p2,4,none⟩ w2) (ckB (fitsOpen b A7 w2) (ck ((0:Int)≤8∧8≤(bn:Int)) (gCells (I8 b (decide (Int.toNat 8<bc)) ((Int.toNat 8)*1)) (min (bn-(Int.toNat 8)) (32-0)*1) w2 fun cs=>pCells (I8 (some ⟨p2,4,none⟩) (decide (0<32)) (0*1)) cs w2 fun w3=>gAgg ⟨p2,0,none⟩ 36 w3 fun z4=>bnd (C Be5 [.agg ⟨z4⟩] w3) fun r w4=>as2 r fun q1 q2=>aSl q1 fun z5 xn xc=>aBool q2 fun z6=>gAgg ⟨p2,0,none⟩ 36 w4 fun z7=>bnd (cond z6 (bnd (C D5 [.slice z5 xn xc,.slice b bn bc] w4) fun q3 w5=>aBool q3 fun z8=>gAgg ⟨p2,0,none⟩ 36 w5 fun z9=>same (.agg ⟨z7⟩) (.agg ⟨z9⟩) (some (z8,w5))) (some (false,w4))) fun c w6=>ck (List.length z7=36) (pAgg ⟨p1,0,none⟩ z7 w6 fun w7=>gAgg ⟨p1,0,none⟩ 36 w7 fun z10=>some (.tuple ⟨[.agg ⟨z10⟩,.bool c]⟩,w7))))))))):=kR
def D88:Cuts:=⟨0,[],[],[(6,⟨[0,1,2,3,4],[0,0,2,7,15],[(2,[0])],[]⟩)]⟩
def Gb5:List Item:=A8 Tryz.f255
theorem Ht6 :
 xQ D88 C R Df6 Tryz.f255 Gb5 [(0,.agg ⟨p⟩),(1,iI n)] h =
 nw (.cells D3 false p) h fun b w=>nw (.cells D3 false zZ2) w fun p1 w1=>gAgg ⟨b,0,none⟩ 36 w1 fun x=>bnd (C An4 [.agg ⟨x⟩] w1) fun r w2=>aSl r fun z1 xn xc=>ckB (fitsOpen z1 A7 w2) (ck ((0:Int)≤mm2 false (mm2 true n 0) (xn:Int)∧mm2 false (mm2 true n 0) (xn:Int)≤(xc:Int)) (cond (decide ((((Int.toNat (mm2 false (mm2 true n 0) (xn:Int)))-0:Nat):Int)>0))
 (gInt .i64 ⟨b,0,none⟩ w2 fun z2=>pV ⟨b,0,none⟩ (iI (Int.tmod (wrap .i64 (z2+(((Int.toNat (mm2 false (mm2 true n 0) (xn:Int)))-0:Nat):Int))) 32)) w2 fun w3=>gInt .i64 ⟨b,1,none⟩ w3 fun z3=>pV ⟨b,1,none⟩ (iI (wrap .i64 (z3-(((Int.toNat (mm2 false (mm2 true n 0) (xn:Int)))-0:Nat):Int)))) w3 fun w4=>gAgg ⟨b,0,none⟩ 36 w4 fun z4=>bnd (C W4 [.slice (I8 z1 (decide (0<xc)) (0*1)) ((Int.toNat (mm2 false (mm2 true n 0) (xn:Int)))-0) (xc-0)] w4) fun q1 w5=>aSl q1 fun z5 xn_1 xc_1=>gAgg ⟨b,0,none⟩ 36 w5 fun z6=>same (.agg ⟨z4⟩) (.agg ⟨z6⟩) (ck (List.length z4=36) (pAgg ⟨p1,0,none⟩ z4 w5 fun w6=>gAgg ⟨p1,0,none⟩ 36 w6 fun z7=>some (.tuple ⟨[.agg ⟨z7⟩,.slice z5 xn_1 xc_1]⟩,w6))))
 (gAgg ⟨b,0,none⟩ 36 w2 fun z8=>bnd (C W4 [.slice (I8 z1 (decide (0<xc)) (0*1)) ((Int.toNat (mm2 false (mm2 true n 0) (xn:Int)))-0) (xc-0)] w2) fun q2 w7=>aSl q2 fun z9 xn_2 xc_2=>gAgg ⟨b,0,none⟩ 36 w7 fun z10=>same (.agg ⟨z8⟩) (.agg ⟨z10⟩) (ck (List.length z8=36) (pAgg ⟨p1,0,none⟩ z8 w7 fun w8=>gAgg ⟨p1,0,none⟩ 36 w8 fun z11=>some (.tuple ⟨[.agg ⟨z11⟩,.slice z9 xn_2 xc_2]⟩,w8)))))):=kR
def Do4:Cuts:=⟨0,[(5,[2,4,6,13,14,15])],[],[]⟩
def Ef5:List Item:=A8 Tryz.f257
def Bv9:List Item:=stk [0,1,0,1,0,1,0,0,1,4,5] Ef5
theorem H87 :
 xQ Do4 C R A03 Tryz.f257 Ef5 [(0,.agg ⟨p⟩),(1,.slice b bn bc)] h =
 nw (.cells D3 false p) h fun p1 w=>nw (.cells D3 false zZ2) w fun p2 w1=>gAgg ⟨p1,0,none⟩ 36 w1 fun x=>bnd (C B11 [.agg ⟨x⟩] w1) fun r w2=>aBool r fun z1=>cond (!z1)
 (gAgg ⟨p1,0,none⟩ 36 w2 fun z2=>ck (List.length z2=36) (pAgg ⟨p2,0,none⟩ z2 w2 fun w3=>gAgg ⟨p2,0,none⟩ 36 w3 fun z3=>some (.tuple ⟨[.agg ⟨z3⟩,iI 0]⟩,w3)))
 (R A03 Bv9 [(2,pP p1),(4,pP p2),(6,iI 0),(13,.slice b bn bc),(14,iI (bn:Int)),(15,iI 0)] w2):=kR
theorem Ep2 (p:Addr) (x4:Addr) (x13:Option Addr) (x13n x13c:Nat) (x14:Int) :
 xQ Do4 C R A03 Tryz.f257 Bv9 [(2,.pointer (some p)),(4,.pointer (some x4)),(6,iI n),(13,.slice x13 x13n x13c),(14,iI x14),(15,iI x15)] h =
 cond (decide (x15<x14))
 (aSome x13 fun p_1=>ck ((0:Int)≤x15∧x15<(x13n:Int)) (gInt .u8 (add (B2 p_1) (Int.toNat x15*1)) h fun x=>gInt .i64 (add p 1) h fun z1=>cond (z1==32)
 (gAgg p 36 h fun z2=>ck (List.length z2=36) (pAgg x4 z2 h fun w=>gAgg x4 36 w fun z3=>some (.tuple ⟨[.agg ⟨z3⟩,iI n]⟩,w)))
 (gInt .i64 (add p 0) h fun z4=>gInt .i64 (add p 1) h fun z5=>ck ((0:Int)≤Int.tmod (wrap .i64 (z4+z5)) 32∧Int.tmod (wrap .i64 (z4+z5)) 32<((32:Nat):Int)) (pV (add (add p 4) (Int.toNat (Int.tmod (wrap .i64 (z4+z5)) 32)*1)) (.int .u8 x) h fun w1=>gInt .i64 (add p 1) w1 fun z6=>pV (add p 1) (iI (wrap .i64 (z6+1))) w1 fun w2=>R A03 Bv9 [(2,.pointer (some p)),(4,.pointer (some x4)),(6,iI (wrap .i64 (n+1))),(13,.slice x13 x13n x13c),(14,iI x14),(15,iI (wrap .i64 (x15+1)))] w2))))
 (gAgg p 36 h fun z7=>ck (List.length z7=36) (pAgg x4 z7 h fun w3=>gAgg x4 36 w3 fun z8=>some (.tuple ⟨[.agg ⟨z8⟩,iI n]⟩,w3))):=kR
def Dw6:Cuts:=⟨0,[],[],[]⟩
def E11:List Item:=A8 Tryz.f270
theorem Hm4 (f:Int) :
 xQ Dw6 C R Bk4 Tryz.f270 E11 [(0,iI f)] h =
 bnd (cond (decide (f<0)) (some (true,h)) (some (decide (f>12),h))) fun c w=>some (.bool c,w):=kR
def Ar0:Cuts:=⟨0,[],[],[]⟩
def Bj3:List Item:=A8 Tryz.f287
theorem Dr9 :
 xQ Ar0 C R W4 Tryz.f287 Bj3 [(0,.slice s sn sc)] h =
 ckB (fitsOpen s A7 h) (ck ((0:Int)≤(sn:Int)∧(sn:Int)≤(sc:Int)) (ck ((0:Int)≤(sn:Int)∧(sn:Int)≤((Int.toNat (sn:Int):Nat):Int)) (some (.slice (B78 (I8 s (decide (0<Int.toNat (sn:Int))) (0*1))) ((Int.toNat (sn:Int))-0) ((Int.toNat (sn:Int))-0),h)))):=kR
end
end Go.EQ

set_option maxRecDepth 100000
namespace Go.EQ
open Go Go.NN Go.Proofs
open Go.IntKind (wrap)
open Go.Addr (add)
variable (C:D7) (R:Ab9) (dov fv0 hs v x4:Addr) (h:H) (a atv done e env fd first hi how i j lo n name root to x13 x59 x7 x8 x90 x91:Int) (f p:List Value) (bc bn datac datan sc sn x89c x89n:Nat) (b c data k m r s t w x89:Option Addr) (cmp:Value)
noncomputable section
def Am6:Cuts:=⟨0,[(26,[1,6,9,17,18])],[(33,[1,6,9,17,18])],[]⟩
def A20:List Item:=A8 Tryz.f5
def S8:List Item:=stk [0,1,0,1,0,1,0,1,0,1,0,1,0,1,0,1,0,1,0,1,0,1,0,1,0,1,0,1,0,1,0,1,0,0,1,4,5] A20
def A81:List Item:=stk [0,1,0,1,0,1,0,1,0,1,0,1,0,1,0,1,0,1,0,1,0,1,0,1,0,1,0,1,0,1,0,1,0,0,1,4,5,6,0,1,0,4,0,1,0] A20
theorem E32 :
 xQ Am6 C R B9 Tryz.f5 A20 [(0,iI n),(1,.slice b bn bc)] h =
 bnd (C Ac3 [] h) fun r w=>as4 r fun q1 q2 q3 q4=>aPtr q1 fun x=>aSl q2 fun z1 xn xc=>aPtr q3 fun _=>aSl q4 fun _ _ _=>nw (.cells An8 false [.slice none 0 0]) w fun p1 w1=>pV ⟨p1,0,none⟩ (.slice z1 xn xc) w1 fun w2=>bnd (cond x.isNone (some (true,w2)) (some (decide ((bn:Int)>8),w2))) fun c w3=>bnd (cond c (some (true,w3)) (some ((bn:Int)==0,w3))) fun c_1 w4=>cond c_1
 (bnd (cond (!x.isNone) (bnd (C Bf7 [] w4) fun q5 w5=>aBool q5 fun z4=>some (z4,w5)) (some (false,w4))) fun c_2 w6=>some (.bool c_2,w6))
 (bnd (C E1 [iI 0,.agg ⟨[iI 9,iI 0,iI 0,.slice none 0 0]⟩,pP p1] w4) fun q6 w7=>as2 q6 fun q7 q8=>aAgg q7 fun z5=>aBool q8 fun z6=>nw (.cells Z1 false [iI 0,iI 0,iI 0,iI 0,iI 0,.slice none 0 0,iI 0,iI 0,.slice none 0 0,.bool false,.slice none 0 0,iI 0]) w7 fun p2 w8=>ck (List.length z5=12) (pAgg ⟨p2,0,none⟩ z5 w8 fun w9=>bnd (cond (!z6) (some (true,w9)) (gInt .i64 ⟨p2,7,none⟩ w9 fun z7=>some (z7 != 0,w9))) fun c_3 w10=>cond c_3
 (some (.bool false,w10))
 (bnd (C E1 [iI 0,.agg ⟨[iI 2,iI 0,iI 0,.slice none 0 0]⟩,pP p1] w10) fun q9 w11=>as2 q9 fun q10 q11=>aAgg q10 fun z8=>aBool q11 fun z9=>nw (.cells Z1 false [iI 0,iI 0,iI 0,iI 0,iI 0,.slice none 0 0,iI 0,iI 0,.slice none 0 0,.bool false,.slice none 0 0,iI 0]) w11 fun p3 w12=>ck (List.length z8=12) (pAgg ⟨p3,0,none⟩ z8 w12 fun w13=>bnd (cond (!z9) (some (true,w13)) (gInt .i64 ⟨p3,6,none⟩ w13 fun z10=>some (z10 != 1,w13))) fun c_4 w14=>cond c_4
 (some (.bool false,w14))
 (gSl ⟨p1,0,none⟩ w14 fun z11 xn_2 _=>aSome z11 fun p=>ck ((0:Int)≤1∧1<(xn_2:Int)) (gPtr (add (B2 p) (Int.toNat 1*1)) w14 fun z12=>bnd (C A54 [.pointer z12] w14) fun q12 w15=>as0 q12 (gSl ⟨p1,0,none⟩ w15 fun z13 xn_3 _=>aSome z13 fun p_1=>ck ((0:Int)≤1∧1<(xn_3:Int)) (gPtr (add (B2 p_1) (Int.toNat 1*1)) w15 fun z14=>bnd (C S5 [.pointer z14,.agg ⟨[iI 11,iI 2,iI 0,.slice b bn bc]⟩] w15) fun q13 w16=>aBool q13 fun z15=>cond (!z15)
 (some (.bool false,w16))
 (gSl ⟨p1,0,none⟩ w16 fun z16 xn_4 _=>aSome z16 fun p_2=>ck ((0:Int)≤1∧1<(xn_4:Int)) (gPtr (add (B2 p_2) (Int.toNat 1*1)) w16 fun z17=>bnd (C E6 [.pointer z17] w16) fun q14 w17=>as2 q14 fun q15 q16=>aAgg q15 fun _=>aBool q16 fun _=>bnd (C Aw8 [.pointer x,iI (M8 .i64 n 7)] w17) fun q17 w18=>aInt .i64 q17 fun _=>gSl ⟨p1,0,none⟩ w18 fun z21 xn_5 _=>aSome z21 fun p_3=>ck ((0:Int)≤0∧0<(xn_5:Int)) (gPtr (add (B2 p_3) (Int.toNat 0*1)) w18 fun z22=>bnd (C S5 [.pointer z22,.agg ⟨[iI 1,iI 0,iI 0,.slice none 0 0]⟩] w18) fun q18 w19=>aBool q18 fun z23=>cond (!z23)
 (some (.bool false,w19))
 (gSl ⟨p1,0,none⟩ w19 fun z24 xn_6 _=>aSome z24 fun p_4=>ck ((0:Int)≤0∧0<(xn_6:Int)) (gPtr (add (B2 p_4) (Int.toNat 0*1)) w19 fun z25=>bnd (C E6 [.pointer z25] w19) fun q19 w20=>as2 q19 fun q20 q21=>aAgg q20 fun _=>aBool q21 fun _=>gSl ⟨p1,0,none⟩ w20 fun z28 xn_7 _=>aSome z28 fun p_5=>ck ((0:Int)≤0∧0<(xn_7:Int)) (gPtr (add (B2 p_5) (Int.toNat 0*1)) w20 fun z29=>bnd (C E6 [.pointer z29] w20) fun q22 w21=>as2 q22 fun q23 q24=>aAgg q23 fun z30=>aBool q24 fun z31=>nw (.cells Z1 false [iI 0,iI 0,iI 0,iI 0,iI 0,.slice none 0 0,iI 0,iI 0,.slice none 0 0,.bool false,.slice none 0 0,iI 0]) w21 fun p4 w22=>ck (List.length z30=12) (pAgg ⟨p4,0,none⟩ z30 w22 fun w23=>bnd (cond (!(z31==(decide ((M8 .i64 n 7)≥5)))) (some (true,w23)) (bnd (cond z31 (gBool ⟨p4,9,none⟩ w23 fun z32=>bnd (cond (!z32) (some (true,w23)) (gInt .i64 ⟨p4,7,none⟩ w23 fun z33=>some (z33 != 0,w23))) fun c_5 w24=>some (c_5,w24)) (some (false,w23))) fun c_6 w25=>some (c_6,w25))) fun c_7 w26=>cond c_7
 (some (.bool false,w26))
 (R B9 S8 [(1,.slice b bn bc),(6,pP p1),(9,.func (.func E1) ⟨[]⟩ ⟨[pP p1]⟩),(17,iI 0),(18,iI 0)] w26)))))))))))))))):=kR
theorem L8 :
 xQ Am6 C R B9 Tryz.f5 S8 [(1,.slice b bn bc),(6,.pointer (some hs)),(9,.func (.func E1) ⟨[]⟩ ⟨[.pointer (some dov)]⟩),(17,iI done),(18,iI i)] h =
 cond (decide (i<4))
 (gSl hs h fun x xn _=>aSome x fun p=>ck ((0:Int)≤1∧1<(xn:Int)) (gPtr (add (B2 p) (Int.toNat 1*1)) h fun z1=>bnd (C E6 [.pointer z1] h) fun r w=>as2 r fun q1 q2=>aAgg q1 fun z2=>aBool q2 fun z3=>nw (.cells Z1 false [iI 0,iI 0,iI 0,iI 0,iI 0,.slice none 0 0,iI 0,iI 0,.slice none 0 0,.bool false,.slice none 0 0,iI 0]) w fun p1 w1=>ck (List.length z2=12) (pAgg ⟨p1,0,none⟩ z2 w1 fun w2=>bnd (cond z3 (gBool ⟨p1,9,none⟩ w2 fun z4=>some (z4,w2)) (some (false,w2))) fun c w3=>cond c
 (gInt .i64 ⟨p1,7,none⟩ w3 fun z5=>bnd (cond (z5 != 0) (some (true,w3)) (gInt .i64 ⟨p1,6,none⟩ w3 fun z6=>some (z6 != (bn:Int),w3))) fun c_1 w4=>cond c_1
 (some (.bool false,w4))
 (R B9 A81 [(1,.slice b bn bc),(6,.pointer (some hs)),(9,.func (.func E1) ⟨[]⟩ ⟨[.pointer (some dov)]⟩),(17,iI (wrap .i64 (done+1))),(18,iI i)] w4))
 (R B9 A81 [(1,.slice b bn bc),(6,.pointer (some hs)),(9,.func (.func E1) ⟨[]⟩ ⟨[.pointer (some dov)]⟩),(17,iI done),(18,iI i)] w3))))
 (gSl hs h fun z7 xn_1 _=>aSome z7 fun p_1=>ck ((0:Int)≤0∧0<(xn_1:Int)) (gPtr (add (B2 p_1) (Int.toNat 0*1)) h fun z8=>bnd (C Ah9 [.pointer z8] h) fun q3 w5=>aInt .i64 q3 fun z9=>cond (z9 != 0)
 (some (.bool false,w5))
 (bnd (C E1 [iI 0,.agg ⟨[iI 10,iI 1,iI 32,.slice none 0 0]⟩,.pointer (some dov)] w5) fun q4 w6=>as2 q4 fun q5 q6=>aAgg q5 fun z10=>aBool q6 fun z11=>nw (.cells Z1 false [iI 0,iI 0,iI 0,iI 0,iI 0,.slice none 0 0,iI 0,iI 0,.slice none 0 0,.bool false,.slice none 0 0,iI 0]) w6 fun p2 w7=>ck (List.length z10=12) (pAgg ⟨p2,0,none⟩ z10 w7 fun w8=>bnd (cond (done==1) (some (z11,w8)) (some (false,w8))) fun c_2 w9=>bnd (cond c_2 (gSl ⟨p2,8,none⟩ w9 fun z12 xn_2 _=>gCells z12 xn_2 w9 fun cs=>asBytes cs fun l=>gCells b bn w9 fun cs_1=>asBytes cs_1 fun l_1=>some ((ByteArray.mk ⟨l⟩).toList==(ByteArray.mk ⟨l_1⟩).toList,w9)) (some (false,w9))) fun c_3 w10=>bnd (cond c_3 (bnd (C Bf7 [] w10) fun q7 w11=>aBool q7 fun z13=>some (z13,w11)) (some (false,w10))) fun c_4 w12=>some (.bool c_4,w12))))):=kR
theorem O2 :
 xQ Am6 C R B9 Tryz.f5 A81 [(1,.slice b bn bc),(6,.pointer (some hs)),(9,.func (.func E1) ⟨[]⟩ ⟨[.pointer (some dov)]⟩),(17,iI done),(18,iI i)] h =
 gSl hs h fun x xn _=>aSome x fun p=>ck ((0:Int)≤0∧0<(xn:Int)) (gPtr (add (B2 p) (Int.toNat 0*1)) h fun z1=>bnd (C Ah9 [.pointer z1] h) fun r w=>aInt .i64 r fun z2=>cond (z2 != 0)
 (gSl hs w fun z3 xn_1 _=>aSome z3 fun p_1=>ck ((0:Int)≤0∧0<(xn_1:Int)) (gPtr (add (B2 p_1) (Int.toNat 0*1)) w fun z4=>bnd (C E6 [.pointer z4] w) fun q1 w1=>as2 q1 fun q2 q3=>aAgg q2 fun _=>aBool q3 fun _=>R B9 S8 [(1,.slice b bn bc),(6,.pointer (some hs)),(9,.func (.func E1) ⟨[]⟩ ⟨[.pointer (some dov)]⟩),(17,iI done),(18,iI (wrap .i64 (i+1)))] w1))
 (R B9 S8 [(1,.slice b bn bc),(6,.pointer (some hs)),(9,.func (.func E1) ⟨[]⟩ ⟨[.pointer (some dov)]⟩),(17,iI done),(18,iI (wrap .i64 (i+1)))] w)):=kR
def Br4:Cuts:=⟨0,[],[],[(4,⟨[0,1,2,3,4,5,6,7,12,8,9,10,11,13,14],[0,1,3,7,0,16,48,112,255,511,1023,1023,0,6143,16383],[],[]⟩),(8,⟨[0,1,2,3,4,5,6,7,8],[0,0,0,1,9,25,63,127,255],[(5,[2])],[]⟩)]⟩
def Dm5:List Item:=A8 Tryz.f9
theorem Dm3 (s:List Value) :
 xQ Br4 C R S5 Tryz.f9 Dm5 [(0,.pointer w),(1,.agg ⟨s⟩)] h =
 nw (.cells Dh3 false s) h fun b w1=>aSome w fun p=>gPtr (add p 4) w1 fun x=>bnd (C D1 [.pointer x] w1) fun r w2=>as0 r (aSome w fun p_1=>gInt .i64 (add p_1 5) w2 fun z1=>cond (z1 != 0)
 (some (.bool false,w2))
 (aSome w fun p_2=>gPtr (add p_2 4) w2 fun z2=>aSome w fun p_3=>gInt .i64 (add p_3 2) w2 fun z3=>nw (.cells D2 false zZ1) w2 fun p1 w3=>bnd (C J9 [.pointer z2,iI z3] w3) fun q1 w4=>as2 q1 fun q2 q3=>aAgg q2 fun z4=>aInt .i64 q3 fun z5=>ck (List.length z4=16) (pAgg ⟨p1,0,none⟩ z4 w4 fun w5=>bnd (cond (z5 != 1) (some (true,w5)) (gInt .i64 ⟨p1,0,none⟩ w5 fun z6=>some (z6==2,w5))) fun c w6=>cond c
 (some (.bool false,w6))
 (gSl ⟨b,3,none⟩ w6 fun z7 xn xc=>bnd (C E9 [.slice z7 xn xc] w6) fun q4 w7=>aSl q4 fun z8 xn_1 xc_1=>pV ⟨b,3,none⟩ (.slice z8 xn_1 xc_1) w7 fun w8=>gAgg ⟨b,0,none⟩ 4 w8 fun z9=>aSome w fun p_4=>pV (add p_4 5) (iI 1) w8 fun w9=>gAgg ⟨b,0,none⟩ 4 w9 fun z10=>same (.agg ⟨z9⟩) (.agg ⟨z10⟩) (aSome w fun p_5=>ck (List.length z9=4) (pAgg (add p_5 7) z9 w9 fun w10=>some (.bool true,w10))))))):=kR
def Bz2:Cuts:=⟨0,[],[],[]⟩
def D03:List Item:=A8 Tryz.f19
theorem Gi8 :
 xQ Bz2 C R Aw8 Tryz.f19 D03 [(0,.pointer k),(1,iI n)] h =
 aSome k fun p=>gInt .i64 (add p 7) h fun x=>aSome k fun p_1=>pV (add p_1 7) (iI (mm2 false (wrap .i64 (x+(mm2 false (mm2 true n 0) 1000))) 1073741824)) h fun w=>aSome k fun p_2=>gInt .i64 (add p_2 7) w fun z1=>some (iI z1,w):=kR
def B00:Cuts:=⟨0,[],[],[(1,⟨[0,1,2,3,4,5,6,7,9,10,11,12,8,13],[0,1,3,7,0,16,48,112,255,0,512,1536,3584,8191],[(8,[12])],[]⟩)]⟩
def Dt0:List Item:=A8 Tryz.f28
theorem Gk0 :
 xQ B00 C R Av9 Tryz.f28 Dt0 [(0,.pointer w)] h =
 aSome w fun p=>gInt .i64 (add p 5) h fun x=>bnd (cond (x==1) (some (true,h)) (aSome w fun p_1=>gInt .i64 (add p_1 5) h fun z1=>some (z1==2,h))) fun c w1=>cond c
 (aSome w fun p_2=>gPtr (add p_2 0) w1 fun z2=>aSome w fun p_3=>gInt .i64 (add p_3 3) w1 fun z3=>aSome w fun p_4=>gInt .i64 (add p_4 1) w1 fun z4=>bnd (C Z2 [.pointer z2,iI z3] w1) fun r w2=>aPtr r fun z5=>gInt .i64 (add p_4 1) w2 fun z6=>same (iI z4) (iI z6) (bnd (C Gj4 [.pointer z5,iI z4] w2) fun q1 w3=>as0 q1 (aSome w fun p_5=>pV (add p_5 5) (iI 0) w3 fun w4=>some (.tuple ⟨[]⟩,w4))))
 (aSome w fun p_6=>pV (add p_6 5) (iI 0) w1 fun w5=>some (.tuple ⟨[]⟩,w5)):=kR
def Af2:Cuts:=⟨0,[],[(8,[6,8,11,12])],[(7,⟨[0,1,2,3,4,5,6,7,8,9],[0,1,3,7,0,31,63,31,159,511],[(7,[5])],[]⟩)]⟩
def As2:List Item:=A8 Tryz.f35
def Ak7:List Item:=stk [0,1,0,1,0,1,0,1,0,1,0,1,0,0] As2
theorem Dq3 (r:List Value) (decode:Value) :
 xQ Af2 C R N1 Tryz.f35 As2 [(0,.pointer c),(1,.agg ⟨r⟩),(2,decode)] h =
 nw (.cells E5 false r) h fun b w=>nw (.cells D2 false zZ1) w fun p1 w1=>nw (.cells D2 false zZ1) w1 fun p2 w2=>gAgg ⟨b,0,none⟩ 2 w2 fun x=>bnd (C P8 [.pointer c,.agg ⟨x⟩] w2) fun q1 w3=>as2 q1 fun q2 q3=>aSl q2 fun z1 xn xc=>aBool q3 fun z2=>cond (!z2)
 (gAgg ⟨p2,0,none⟩ 16 w3 fun z3=>ck (List.length z3=16) (pAgg ⟨p1,0,none⟩ z3 w3 fun w4=>gAgg ⟨p1,0,none⟩ 16 w4 fun z4=>some (.tuple ⟨[.agg ⟨z4⟩,iI 2]⟩,w4)))
 (aFn decode fun g fi cp=>bnd (C g (fi++([.slice z1 xn xc]++cp)) w3) fun q4 w5=>as2 q4 fun q5 q6=>aAgg q5 fun z5=>aInt .i64 q6 fun z6=>nw (.cells D2 false zZ1) w5 fun p3 w6=>ck (List.length z5=16) (pAgg ⟨p3,0,none⟩ z5 w6 fun w7=>cond (z6==2)
 (aSome c fun p=>gMap (add p 3) w7 fun z7=>gAgg ⟨b,0,none⟩ 2 w7 fun z8=>keyN PR E5 (.agg ⟨z8⟩) (opt z7 fun q7=>mapAt w7 q7 fun es _=>opt (Ao6 (iI 0) (.agg ⟨z8⟩) es) fun f=>aInt .i64 f.1 fun z9=>keyN PR E5 (.agg ⟨z8⟩) (opt z7 fun q8=>mapAt w7 q8 fun es_1 cl_1=>opt (D61 (iI 0) (.agg ⟨z8⟩) es_1 cl_1) fun f_1=>aInt .i64 f_1.1 fun _=>lt (H.set w7 q8 f_1.2.2) fun w8=>keyN PR E5 (.agg ⟨z8⟩) (opt z7 fun q9=>mapAt w8 q9 fun es_2 _=>opt (Ao6 (iI 0) (.agg ⟨z8⟩) es_2) fun f_2=>aInt .i64 f_2.1 fun z11=>same (iI z9) (iI z11) (opt z7 fun q10=>mapAt w8 q10 fun es_3 cl_3=>opt (Bq0 (f_1.2.1:Int) es_3 0) fun i=>lt (H.set w8 q10 (.map (modN (fun e=>{ e with val:=iI (wrap .i64 (z9+1)) }) i es_3) cl_3)) fun w9=>R N1 Ak7 [(6,pP p1),(8,pP p2),(11,pP p3),(12,iI z6)] w9)))))
 (R N1 Ak7 [(6,pP p1),(8,pP p2),(11,pP p3),(12,iI z6)] w7))):=kR
theorem A71 (x6:Addr) (nonev:Addr) (isv:Int) :
 xQ Af2 C R N1 Tryz.f35 Ak7 [(6,.pointer (some x6)),(8,.pointer (some nonev)),(11,.pointer (some v)),(12,iI isv)] h =
 cond (isv != 1)
 (gAgg nonev 16 h fun x=>ck (List.length x=16) (pAgg x6 x h fun w=>gAgg x6 16 w fun z1=>some (.tuple ⟨[.agg ⟨z1⟩,iI isv]⟩,w)))
 (gAgg v 16 h fun z2=>ck (List.length z2=16) (pAgg x6 z2 h fun w1=>gAgg x6 16 w1 fun z3=>some (.tuple ⟨[.agg ⟨z3⟩,iI isv]⟩,w1))):=kR
def De0:Cuts:=⟨0,[],[],[]⟩
def Ed3:List Item:=A8 Tryz.f36
theorem Gu2 :
 xQ De0 C R A94 Tryz.f36 Ed3 [(0,iI i)] h =
 nw (.cells E5 false [iI 0,iI 0]) h fun b w=>pAgg ⟨b,0,none⟩ [iI 1,iI i] w fun w1=>gAgg ⟨b,0,none⟩ 2 w1 fun x=>some (.agg ⟨x⟩,w1):=kR
def Dl7:Cuts:=⟨0,[],[],[(1,⟨[0,1,2,3,4,5,6,7],[0,1,0,4,15,12,63,127],[(3,[1]),(5,[1])],[]⟩)]⟩
def Eq1:List Item:=A8 Tryz.f45
theorem G84 :
 xQ Dl7 C R Be6 Tryz.f45 Eq1 [] h =
 ck ((0:Int)≤448∧(448:Int)≤448∧448≤(B1:Int)) (nw (.cells A7 false (L5 (Int.toNat 448) [.int .u8 0])) h fun b w=>gCells (some ⟨b,0,none⟩) (Int.toNat 448) w fun cs=>asBytes cs fun l=>bnd (C S4 [.agg ⟨[iI 0,iI 0,iI 1,iI 1,.int .u8 0,.int .u8 0,.int .u8 0,.int .u8 0,.int .u8 0,.int .u8 0,.int .u8 0,.int .u8 0,.int .u8 0,.int .u8 0,.int .u8 0,.int .u8 0,.int .u8 0,.int .u8 0,.int .u8 0,.int .u8 0,.int .u8 0,.int .u8 0,.int .u8 0,.int .u8 0,.int .u8 0,.int .u8 0,.int .u8 0,.int .u8 0,.int .u8 0,.int .u8 0,.int .u8 0,.int .u8 0,.int .u8 0,.int .u8 0,.int .u8 0,.int .u8 0]⟩] w) fun r w1=>aStr r fun x=>gCells (some ⟨b,0,none⟩) (Int.toNat 448) w1 fun cs_1=>asBytes cs_1 fun l_1=>same (.string (ByteArray.mk ⟨l⟩)) (.string (ByteArray.mk ⟨l_1⟩)) (ck (ByteArray.size (ByteArray.mk ⟨l⟩)+ByteArray.size x≤B1) (bnd (C Az7 [iI 0] w1) fun q1 w2=>aStr q1 fun z1=>gCells (some ⟨b,0,none⟩) (Int.toNat 448) w2 fun cs_2=>asBytes cs_2 fun l_2=>same (.string (ByteArray.mk ⟨l⟩)) (.string (ByteArray.mk ⟨l_2⟩)) (ck (ByteArray.size ((ByteArray.mk ⟨l⟩)++x)+ByteArray.size z1≤B1) (some (.string (((ByteArray.mk ⟨l⟩)++x)++z1),w2)))))):=kR
def Bz6:Cuts:=⟨0,[],[],[]⟩
def Dx1:List Item:=A8 Tryz.f48
theorem Dz7 :
 xQ Bz6 C R Z2 Tryz.f48 Dx1 [(0,.pointer k),(1,iI n)] h =
 bnd (cond (decide (n<0)) (some (true,h)) (aSome k fun p=>gSl (add p 6) h fun _ xn _=>some (decide (n≥(xn:Int)),h))) fun c w=>cond c
 (some (.pointer none,w))
 (aSome k fun p_1=>gSl (add p_1 6) w fun z1 xn_1 _=>aSome z1 fun p_2=>ck ((0:Int)≤n∧n<(xn_1:Int)) (gPtr (add (B2 p_2) (Int.toNat n*1)) w fun z2=>some (.pointer z2,w))):=kR
def Bk0:Cuts:=⟨0,[],[],[]⟩
def Dg4:List Item:=A8 Tryz.f49
theorem Ev0 :
 xQ Bk0 C R Am3 Tryz.f49 Dg4 [(0,.pointer k),(1,iI env)] h =
 aSome k fun p=>gPtr (add p 6) h fun x=>aSome x fun p_1=>gPtr (add p_1 3) h fun z1=>bnd (C Bd0 [.pointer z1,iI env] h) fun r w=>aSl r fun z2 xn xc=>cond ((xn:Int)==0)
 (some (.pointer none,w))
 (nw (.cells D38 false [.pointer k,iI env,.slice z2 xn xc,.slice none 0 0]) w fun b w1=>some (pP b,w1)):=kR
def Ef4:Cuts:=⟨0,[],[],[]⟩
def Gq0:List Item:=A8 Tryz.f58
theorem Em5 (s:List Value) :
 xQ Ef4 C R Dq7 Tryz.f58 Gq0 [(0,.pointer c),(1,iI i),(2,.agg ⟨s⟩)] h =
 nw (.cells Dh3 false s) h fun b w=>nw (.cells Q8 false [iI 0,iI 0,.slice none 0 0,.bool false]) w fun p1 w1=>bnd (C D1 [.pointer c] w1) fun r w2=>as0 r (gAgg ⟨b,0,none⟩ 4 w2 fun x=>bnd (C Bf3 [.pointer c,iI i,.agg ⟨x⟩] w2) fun q1 w3=>as2 q1 fun q2 q3=>aAgg q2 fun z1=>aBool q3 fun z2=>nw (.cells Q8 false [iI 0,iI 0,.slice none 0 0,.bool false]) w3 fun p2 w4=>ck (List.length z1=4) (pAgg ⟨p2,0,none⟩ z1 w4 fun w5=>cond z2
 (gAgg ⟨p2,0,none⟩ 4 w5 fun z3=>ck (List.length z3=4) (pAgg ⟨p1,0,none⟩ z3 w5 fun w6=>gAgg ⟨p1,0,none⟩ 4 w6 fun z4=>some (.agg ⟨z4⟩,w6)))
 (gInt .i64 ⟨b,0,none⟩ w5 fun z5=>cond (z5==2)
 (bnd (C Df5 [.pointer c,iI i] w5) fun q4 w7=>aAgg q4 fun z6=>ck (List.length z6=4) (pAgg ⟨p1,0,none⟩ z6 w7 fun w8=>gAgg ⟨p1,0,none⟩ 4 w8 fun z7=>some (.agg ⟨z7⟩,w8)))
 (cond (z5==3)
 (gInt .i64 ⟨b,1,none⟩ w5 fun z8=>bnd (C Gc8 [.pointer c,iI i,iI z8] w5) fun q5 w9=>aAgg q5 fun z9=>ck (List.length z9=4) (pAgg ⟨p1,0,none⟩ z9 w9 fun w10=>gAgg ⟨p1,0,none⟩ 4 w10 fun z10=>some (.agg ⟨z10⟩,w10)))
 (cond (z5==4)
 (bnd (C Hw6 [.pointer c,iI i] w5) fun q6 w11=>aAgg q6 fun z11=>ck (List.length z11=4) (pAgg ⟨p1,0,none⟩ z11 w11 fun w12=>gAgg ⟨p1,0,none⟩ 4 w12 fun z12=>some (.agg ⟨z12⟩,w12)))
 (cond (z5==5)
 (gInt .i64 ⟨b,1,none⟩ w5 fun z13=>gInt .i64 ⟨b,2,none⟩ w5 fun z14=>bnd (C Hs4 [.pointer c,iI i,iI z13,iI z14] w5) fun q7 w13=>aAgg q7 fun z15=>ck (List.length z15=4) (pAgg ⟨p1,0,none⟩ z15 w13 fun w14=>gAgg ⟨p1,0,none⟩ 4 w14 fun z16=>some (.agg ⟨z16⟩,w14)))
 (cond (z5==8)
 (gInt .i64 ⟨b,1,none⟩ w5 fun z17=>gInt .i64 ⟨b,2,none⟩ w5 fun z18=>bnd (C Hd7 [.pointer c,iI i,iI z17,iI z18] w5) fun q8 w15=>aAgg q8 fun z19=>ck (List.length z19=4) (pAgg ⟨p1,0,none⟩ z19 w15 fun w16=>gAgg ⟨p1,0,none⟩ 4 w16 fun z20=>some (.agg ⟨z20⟩,w16)))
 (cond (z5==1)
 (cond (z5==1)
 (gAgg ⟨b,0,none⟩ 4 w5 fun z21=>bnd (C Ac5 [.pointer c,iI i,.agg ⟨z21⟩] w5) fun q9 w17=>aAgg q9 fun z22=>ck (List.length z22=4) (pAgg ⟨p1,0,none⟩ z22 w17 fun w18=>gAgg ⟨p1,0,none⟩ 4 w18 fun z23=>some (.agg ⟨z23⟩,w18)))
 (bnd (C Bn6 [iI 122] w5) fun q10 w19=>aAgg q10 fun z24=>ck (List.length z24=4) (pAgg ⟨p1,0,none⟩ z24 w19 fun w20=>gAgg ⟨p1,0,none⟩ 4 w20 fun z25=>some (.agg ⟨z25⟩,w20))))
 (cond (z5==17)
 (cond (z5==17)
 (gAgg ⟨b,0,none⟩ 4 w5 fun z26=>bnd (C Ac5 [.pointer c,iI i,.agg ⟨z26⟩] w5) fun q11 w21=>aAgg q11 fun z27=>ck (List.length z27=4) (pAgg ⟨p1,0,none⟩ z27 w21 fun w22=>gAgg ⟨p1,0,none⟩ 4 w22 fun z28=>some (.agg ⟨z28⟩,w22)))
 (bnd (C Bn6 [iI 122] w5) fun q12 w23=>aAgg q12 fun z29=>ck (List.length z29=4) (pAgg ⟨p1,0,none⟩ z29 w23 fun w24=>gAgg ⟨p1,0,none⟩ 4 w24 fun z30=>some (.agg ⟨z30⟩,w24))))
 (cond (z5==18)
 (cond (z5==18)
 (gAgg ⟨b,0,none⟩ 4 w5 fun z31=>bnd (C Ac5 [.pointer c,iI i,.agg ⟨z31⟩] w5) fun q13 w25=>aAgg q13 fun z32=>ck (List.length z32=4) (pAgg ⟨p1,0,none⟩ z32 w25 fun w26=>gAgg ⟨p1,0,none⟩ 4 w26 fun z33=>some (.agg ⟨z33⟩,w26)))
 (bnd (C Bn6 [iI 122] w5) fun q14 w27=>aAgg q14 fun z34=>ck (List.length z34=4) (pAgg ⟨p1,0,none⟩ z34 w27 fun w28=>gAgg ⟨p1,0,none⟩ 4 w28 fun z35=>some (.agg ⟨z35⟩,w28))))
 (cond (z5==6)
 (cond (z5==6)
 (gAgg ⟨b,0,none⟩ 4 w5 fun z36=>bnd (C Ac5 [.pointer c,iI i,.agg ⟨z36⟩] w5) fun q15 w29=>aAgg q15 fun z37=>ck (List.length z37=4) (pAgg ⟨p1,0,none⟩ z37 w29 fun w30=>gAgg ⟨p1,0,none⟩ 4 w30 fun z38=>some (.agg ⟨z38⟩,w30)))
 (bnd (C Bn6 [iI 122] w5) fun q16 w31=>aAgg q16 fun z39=>ck (List.length z39=4) (pAgg ⟨p1,0,none⟩ z39 w31 fun w32=>gAgg ⟨p1,0,none⟩ 4 w32 fun z40=>some (.agg ⟨z40⟩,w32))))
 (cond (z5==7)
 (gAgg ⟨b,0,none⟩ 4 w5 fun z41=>bnd (C Ac5 [.pointer c,iI i,.agg ⟨z41⟩] w5) fun q17 w33=>aAgg q17 fun z42=>ck (List.length z42=4) (pAgg ⟨p1,0,none⟩ z42 w33 fun w34=>gAgg ⟨p1,0,none⟩ 4 w34 fun z43=>some (.agg ⟨z43⟩,w34)))
 (bnd (C Bn6 [iI 122] w5) fun q18 w35=>aAgg q18 fun z44=>ck (List.length z44=4) (pAgg ⟨p1,0,none⟩ z44 w35 fun w36=>gAgg ⟨p1,0,none⟩ 4 w36 fun z45=>some (.agg ⟨z45⟩,w36))))))))))))))):=kR
def A34:Cuts:=⟨0,[],[],[(2,⟨[0,1,2,3,4,5,6,7,8,9,10],[0,1,3,7,15,31,63,7,255,511,1023],[],[]⟩),(4,⟨[0,1,2,3,4,5,6,7,8,9,10,11,12,13,14,16,15,17],[0,1,3,7,0,16,48,112,0,256,0,1024,0,4096,16128,32767,0,131071],[],[]⟩),(6,⟨[0,1,2,3,4,5,6,7,8,9],[0,1,3,7,0,31,63,31,159,511],[(7,[5])],[]⟩)]⟩
def Bu9:List Item:=A8 Tryz.f69
theorem Ea0 (r:List Value) :
 xQ A34 C R P8 Tryz.f69 Bu9 [(0,.pointer c),(1,.agg ⟨r⟩)] h =
 nw (.cells E5 false r) h fun b w=>gAgg ⟨b,0,none⟩ 2 w fun x=>bnd (C Ab0 [.pointer c,.agg ⟨x⟩] w) fun q1 w1=>as2 q1 fun q2 q3=>aAgg q2 fun z1=>aBool q3 fun z2=>nw (.cells B73 false [iI 0,iI 0,iI 0]) w1 fun p1 w2=>ck (List.length z1=3) (pAgg ⟨p1,0,none⟩ z1 w2 fun w3=>bnd (cond (!z2) (some (true,w3)) (aSome c fun p=>gMap (add p 3) w3 fun z3=>gAgg ⟨b,0,none⟩ 2 w3 fun z4=>keyN PR E5 (.agg ⟨z4⟩) (opt z3 fun q4=>mapAt w3 q4 fun es _=>opt (Ao6 (iI 0) (.agg ⟨z4⟩) es) fun f=>aInt .i64 f.1 fun z5=>some (decide (z5>0),w3)))) fun c_1 w4=>cond c_1
 (some (.tuple ⟨[.slice none 0 0,.bool false]⟩,w4))
 (aSome c fun p_1=>gPtr (add p_1 0) w4 fun z6=>aSome c fun p_2=>gInt .i64 (add p_2 1) w4 fun z7=>gInt .i64 ⟨p1,0,none⟩ w4 fun z8=>gInt .i64 ⟨p1,1,none⟩ w4 fun z9=>gInt .i64 ⟨p1,2,none⟩ w4 fun z10=>nw (.cells Dz9 false [iI 0,iI 0,.slice none 0 0]) w4 fun p2 w5=>bnd (C M0 [.pointer z6,iI z7,.agg ⟨[iI 1,iI z8,iI z9,iI z10,iI 0,iI 0,.slice none 0 0]⟩] w5) fun q5 w6=>aAgg q5 fun z11=>ck (List.length z11=3) (pAgg ⟨p2,0,none⟩ z11 w6 fun w7=>gInt .i64 ⟨p2,0,none⟩ w7 fun z12=>cond (z12 != 0)
 (aSome c fun p_3=>gMap (add p_3 3) w7 fun z13=>gAgg ⟨b,0,none⟩ 2 w7 fun z14=>keyN PR E5 (.agg ⟨z14⟩) (opt z13 fun q6=>mapAt w7 q6 fun es_1 _=>opt (Ao6 (iI 0) (.agg ⟨z14⟩) es_1) fun f_1=>aInt .i64 f_1.1 fun z15=>keyN PR E5 (.agg ⟨z14⟩) (opt z13 fun q7=>mapAt w7 q7 fun es_2 cl_2=>opt (D61 (iI 0) (.agg ⟨z14⟩) es_2 cl_2) fun f_2=>aInt .i64 f_2.1 fun _=>lt (H.set w7 q7 f_2.2.2) fun w8=>keyN PR E5 (.agg ⟨z14⟩) (opt z13 fun q8=>mapAt w8 q8 fun es_3 _=>opt (Ao6 (iI 0) (.agg ⟨z14⟩) es_3) fun f_3=>aInt .i64 f_3.1 fun z17=>same (iI z15) (iI z17) (opt z13 fun q9=>mapAt w8 q9 fun es_4 cl_4=>opt (Bq0 (f_2.2.1:Int) es_4 0) fun i=>lt (H.set w8 q9 (.map (modN (fun e=>{ e with val:=iI (wrap .i64 (z15+1)) }) i es_4) cl_4)) fun w9=>some (.tuple ⟨[.slice none 0 0,.bool false]⟩,w9))))))
 (gSl ⟨p2,2,none⟩ w7 fun z18 xn xc=>some (.tuple ⟨[.slice z18 xn xc,.bool true]⟩,w7))))):=kR
def Ai7:Cuts:=⟨0,[],[],[(4,⟨[0,1,2,3,4,10,5,6,7,8,9,11,12],[0,1,3,7,0,16,63,127,255,255,0,1535,4095],[(5,[3])],[]⟩)]⟩
def A46:List Item:=A8 Tryz.f72
theorem B99 :
 xQ Ai7 C R Y7 Tryz.f72 A46 [(0,.pointer c),(1,.slice b bn bc)] h =
 nw (.cells D2 false zZ1) h fun p1 w=>nw (.cells D2 false zZ1) w fun p2 w1=>aSome c fun p=>gFv (add p 2) w1 fun x=>isNilF x fun p3=>bnd (cond p3 (some (true,w1)) (aSome c fun p_1=>gInt .i64 (add p_1 0) w1 fun z1=>some ((bn:Int) != z1,w1))) fun c_1 w2=>cond c_1
 (gAgg ⟨p2,0,none⟩ 16 w2 fun z2=>ck (List.length z2=16) (pAgg ⟨p1,0,none⟩ z2 w2 fun w3=>gAgg ⟨p1,0,none⟩ 16 w3 fun z3=>some (.tuple ⟨[.agg ⟨z3⟩,.bool false]⟩,w3)))
 (aSome c fun p_2=>gFv (add p_2 2) w2 fun z4=>nw (.cells D2 false zZ1) w2 fun p4 w4=>bnd (C E9 [.slice b bn bc] w4) fun r w5=>aSl r fun z5 xn xc=>gFv (add p_2 2) w5 fun z6=>Bp0 (z4) (z6) (aFn z4 fun g fi cp=>bnd (C g (fi++([.slice z5 xn xc]++cp)) w5) fun q1 w6=>as2 q1 fun q2 q3=>aAgg q2 fun z7=>aBool q3 fun z8=>ck (List.length z7=16) (pAgg ⟨p4,0,none⟩ z7 w6 fun w7=>cond (!z8)
 (gAgg ⟨p2,0,none⟩ 16 w7 fun z9=>ck (List.length z9=16) (pAgg ⟨p1,0,none⟩ z9 w7 fun w8=>gAgg ⟨p1,0,none⟩ 16 w8 fun z10=>some (.tuple ⟨[.agg ⟨z10⟩,.bool false]⟩,w8)))
 (gAgg ⟨p4,0,none⟩ 16 w7 fun z11=>ck (List.length z11=16) (pAgg ⟨p1,0,none⟩ z11 w7 fun w9=>gAgg ⟨p1,0,none⟩ 16 w9 fun z12=>some (.tuple ⟨[.agg ⟨z12⟩,.bool true]⟩,w9)))))):=kR
def Be2:Cuts:=⟨0,[(5,[1,4,20,21,22]),(12,[1,7,58,59,60]),(18,[7,89,90,91]),(22,[7,11,12,89,90,91,122,123,124])],[],[(9,⟨[0,1,3,5,6,7,9,10,2,4,8,11,12,13,14],[0,1,3,0,15,0,32,96,255,0,512,2047,4095,8191,16383],[(2,[6,10]),(4,[6,10]),(8,[10])],[]⟩),(10,⟨[0,1,2,3,4,5,6,7,8,9,10,11,12],[0,0,2,6,14,0,32,96,224,510,1023,2047,4095],[],[]⟩),(14,⟨[0,1,2,3,4,5,6,7,8,9,10,11],[0,0,2,6,14,0,32,96,254,511,1023,2047],[(6,[4])],[]⟩),(15,⟨[0,1,2,3,4,5,6,7,8,9,10,11,12],[0,0,2,6,14,0,32,96,224,510,1023,2047,4095],[(7,[4])],[]⟩),(20,⟨[0,1,2,3,4,5,6,7,8,9,11,12,15,16,18,19,10,13,14,17,20,21,22,23,24,25],[0,1,3,7,0,16,48,112,0,256,1008,0,2048,8176,16368,0,32768,131056,0,262144,1048575,2097151,4194303,4194303,8388607,33554431],[(10,[3,12,16,19])],[]⟩),(25,⟨[0,1,2,3,4,5,6,7,8,9],[0,1,3,7,0,0,0,64,224,511],[],[]⟩)]⟩
def Bq1:List Item:=A8 Tryz.f74
def Bv1:List Item:=stk [0,1,0,1,0,1,0,0,1,4,5] Bq1
def Bw7:List Item:=stk [0,1,0,1,0,1,0,1,0,1,0,1,0,0,1,4,5] Bq1
def Bf9:List Item:=stk [0,1,0,1,0,1,0,1,0,1,0,1,0,1,0,0,1,4,5] Bq1
def Bf6:List Item:=stk [0,1,0,1,0,1,0,1,0,1,0,1,0,1,0,0,1,4,5,6,0,1,0,1,0,4,0,1,0,1,0,1,4,5] Bq1
theorem H81 (c:List Value) :
 xQ Be2 C R J0 Tryz.f74 Bq1 [(0,.agg ⟨c⟩)] h =
 nw (.cells E4 false c) h fun b w=>gAgg ⟨b,0,none⟩ 5 w fun x=>bnd (C V0 [.agg ⟨x⟩] w) fun r w1=>aBool r fun z1=>cond (!z1)
 (some (.tuple ⟨[.pointer none,iI 1]⟩,w1))
 (gSl ⟨b,0,none⟩ w1 fun z2 xn xc=>R J0 Bv1 [(1,pP b),(4,iI 0),(20,.slice z2 xn xc),(21,iI (xn:Int)),(22,iI 0)] w1):=kR
theorem Er9 (c:Addr) (all:Int) (x20:Option Addr) (x20n x20c:Nat) (x21:Int) (x22:Int) :
 xQ Be2 C R J0 Tryz.f74 Bv1 [(1,.pointer (some c)),(4,iI all),(20,.slice x20 x20n x20c),(21,iI x21),(22,iI x22)] h =
 cond (decide (x22<x21))
 (aSome x20 fun p=>ck ((0:Int)≤x22∧x22<(x20n:Int)) (gInt .i64 (add (B2 p) (Int.toNat x22*1)) h fun x=>bnd (C Bf0 [iI x] h) fun r w=>aInt .i64 r fun z1=>R J0 Bv1 [(1,.pointer (some c)),(4,iI (wrap .i64 (all+z1))),(20,.slice x20 x20n x20c),(21,iI x21),(22,iI (wrap .i64 (x22+1)))] w))
 (gSl (add c 1) h fun z2 xn xc=>gSl (add c 1) h fun z3 xn_1 xc_1=>gSl (add c 0) h fun z4 xn_2 xc_2=>bnd (C Z6 [.slice z2 xn xc] h) fun q1 w1=>aSl q1 fun z5 xn_3 xc_3=>gSl (add c 1) w1 fun z6 xn_4 xc_4=>same (.slice z3 xn_1 xc_1) (.slice z6 xn_4 xc_4) (gSl (add c 0) w1 fun z7 xn_5 xc_5=>same (.slice z4 xn_2 xc_2) (.slice z7 xn_5 xc_5) (bnd (C D30 [iI all] w1) fun q2 w2=>aPtr q2 fun z8=>gSl (add c 1) w2 fun z9 xn_6 xc_6=>same (.slice z3 xn_1 xc_1) (.slice z9 xn_6 xc_6) (gSl (add c 0) w2 fun z10 xn_7 xc_7=>same (.slice z4 xn_2 xc_2) (.slice z10 xn_7 xc_7) (bnd (C Az8 [iI (xn_1:Int)] w2) fun q3 w3=>aPtr q3 fun z11=>gSl (add c 0) w3 fun z12 xn_8 xc_8=>same (.slice z4 xn_2 xc_2) (.slice z12 xn_8 xc_8) (bnd (C Au5 [.slice z4 xn_2 xc_2] w3) fun q4 w4=>aPtr q4 fun z13=>nw (.cells D68 false [.slice z5 xn_3 xc_3,.slice none 0 0,.pointer z8,.pointer z11,.pointer z13,.pointer none,.slice none 0 0,iI 0]) w4 fun b w5=>gPtr ⟨b,2,none⟩ w5 fun z14=>gPtr ⟨b,3,none⟩ w5 fun z15=>bnd (C B30 [.pointer z14,.pointer z15] w5) fun q5 w6=>aPtr q5 fun z16=>pV ⟨b,5,none⟩ (.pointer z16) w6 fun w7=>gSl (add c 2) w7 fun z17 xn_9 xc_9=>R J0 Bw7 [(1,.pointer (some c)),(7,pP b),(58,.slice z17 xn_9 xc_9),(59,iI (xn_9:Int)),(60,iI 0)] w7)))))):=kR
theorem Eq3 (c:Addr) (k:Addr) (x58:Option Addr) (x58n x58c:Nat) (x60:Int) :
 xQ Be2 C R J0 Tryz.f74 Bw7 [(1,.pointer (some c)),(7,.pointer (some k)),(58,.slice x58 x58n x58c),(59,iI x59),(60,iI x60)] h =
 cond (decide (x60<x59))
 (aSome x58 fun p=>ck ((0:Int)≤x60∧x60<(x58n:Int)) (gSl (add (B2 p) (Int.toNat x60*1)) h fun x xn xc=>gSl (add k 1) h fun z1 xn_1 xc_1=>bnd (C Z6 [.slice x xn xc] h) fun r w=>aSl r fun z2 xn_2 xc_2=>gSl (add k 1) w fun z3 xn_3 xc_3=>same (.slice z1 xn_1 xc_1) (.slice z3 xn_3 xc_3) (nw (.cells U4 false [.slice z2 xn_2 xc_2]) w fun b w1=>gCells (some ⟨b,0,none⟩) (1*1) w1 fun cs=>ckB (fitsOpen z1 U4 w1) (apd U4 1 z1 xn_1 xc_1 1 cs w1 fun a an ac w2=>pV (add k 1) (.slice a an ac) w2 fun w3=>gSl (add k 6) w3 fun z4 xn_4 xc_4=>gInt .i64 (add c 3) w3 fun z5=>bnd (C Do0 [iI z5] w3) fun q1 w4=>aPtr q1 fun z6=>gSl (add k 6) w4 fun z7 xn_5 xc_5=>same (.slice z4 xn_4 xc_4) (.slice z7 xn_5 xc_5) (nw (.cells Ay9 false [.pointer z6]) w4 fun p1 w5=>gCells (some ⟨p1,0,none⟩) (1*1) w5 fun cs_1=>ckB (fitsOpen z4 Ay9 w5) (apd Ay9 1 z4 xn_4 xc_4 1 cs_1 w5 fun a_1 an_1 ac_1 w6=>pV (add k 6) (.slice a_1 an_1 ac_1) w6 fun w7=>R J0 Bw7 [(1,.pointer (some c)),(7,.pointer (some k)),(58,.slice x58 x58n x58c),(59,iI x59),(60,iI (wrap .i64 (x60+1)))] w7))))))
 (gSl (add c 4) h fun z8 xn_6 xc_6=>R J0 Bf9 [(7,.pointer (some k)),(89,.slice z8 xn_6 xc_6),(90,iI (xn_6:Int)),(91,iI 0)] h):=kR
theorem Ep6 (k:Addr) :
 xQ Be2 C R J0 Tryz.f74 Bf9 [(7,.pointer (some k)),(89,.slice x89 x89n x89c),(90,iI x90),(91,iI x91)] h =
 cond (decide (x91<x90))
 (aSome x89 fun p=>ck ((0:Int)≤x91∧x91<(x89n:Int)) (gAgg (add (B2 p) (Int.toNat x91*5)) 5 h fun x=>nw (.cells L0 false [iI 0,iI 0,iI 0,iI 0,.slice none 0 0]) h fun b w=>ck (List.length x=5) (pAgg ⟨b,0,none⟩ x w fun w1=>gPtr (add k 5) w1 fun z1=>gPtr (add k 4) w1 fun z2=>gInt .i64 ⟨b,0,none⟩ w1 fun z3=>gInt .i64 ⟨b,1,none⟩ w1 fun z4=>gInt .i64 ⟨b,2,none⟩ w1 fun z5=>gInt .i64 ⟨b,3,none⟩ w1 fun z6=>bnd (C Q7 [.pointer z2,iI z3] w1) fun r w2=>aInt .i64 r fun z7=>gPtr (add k 5) w2 fun z8=>same (.pointer z1) (.pointer z8) (gInt .i64 ⟨b,1,none⟩ w2 fun z9=>same (iI z4) (iI z9) (gInt .i64 ⟨b,2,none⟩ w2 fun z10=>same (iI z5) (iI z10) (gInt .i64 ⟨b,3,none⟩ w2 fun z11=>same (iI z6) (iI z11) (bnd (C Aq5 [.pointer z1,iI (wrap .i64 ((wrap .i64 ((wrap .i64 (z7+z4))*64))+z5)),iI z6] w2) fun q1 w3=>as2 q1 fun q2 q3=>aInt .i64 q2 fun z12=>aInt .i64 q3 fun _=>gSl (add k 0) w3 fun z14 xn xc=>R J0 Bf6 [(7,.pointer (some k)),(11,pP b),(12,iI z12),(89,.slice x89 x89n x89c),(90,iI x90),(91,iI x91),(122,.slice z14 xn xc),(123,iI (xn:Int)),(124,iI 0)] w3)))))))
 (some (.tuple ⟨[.pointer (some k),iI 0]⟩,h)):=kR
theorem Er0 (k:Addr) (x:Addr) (obj:Int) (x122:Option Addr) (x122n x122c:Nat) (x123:Int) (x124:Int) :
 xQ Be2 C R J0 Tryz.f74 Bf6 [(7,.pointer (some k)),(11,.pointer (some x)),(12,iI obj),(89,.slice x89 x89n x89c),(90,iI x90),(91,iI x91),(122,.slice x122 x122n x122c),(123,iI x123),(124,iI x124)] h =
 cond (decide (x124<x123))
 (aSome x122 fun p=>ck ((0:Int)≤x124∧x124<(x122n:Int)) (gInt .i64 (add (B2 p) (Int.toNat x124*1)) h fun z1=>gSl (add x 4) h fun z2 xn xc=>bnd (C O3 [.slice z2 xn xc,iI z1] h) fun r w=>aBool r fun z3=>cond z3
 (gPtr (add k 3) w fun z4=>gInt .i64 (add x 3) w fun z5=>bnd (C Bd2 [.pointer z4,iI x124,.agg ⟨[iI obj,iI 3,iI 0,iI z5,iI 0,iI 0]⟩] w) fun q1 w1=>as2 q1 fun q2 q3=>aInt .i64 q2 fun _=>aInt .i64 q3 fun _=>R J0 Bf6 [(7,.pointer (some k)),(11,.pointer (some x)),(12,iI obj),(89,.slice x89 x89n x89c),(90,iI x90),(91,iI x91),(122,.slice x122 x122n x122c),(123,iI x123),(124,iI (wrap .i64 (x124+1)))] w1)
 (R J0 Bf6 [(7,.pointer (some k)),(11,.pointer (some x)),(12,iI obj),(89,.slice x89 x89n x89c),(90,iI x90),(91,iI x91),(122,.slice x122 x122n x122c),(123,iI x123),(124,iI (wrap .i64 (x124+1)))] w)))
 (R J0 Bf9 [(7,.pointer (some k)),(89,.slice x89 x89n x89c),(90,iI x90),(91,iI (wrap .i64 (x91+1)))] h):=kR
def Bn2:Cuts:=⟨0,[],[],[(3,⟨[0,1,2,3,4,5,6,7,8,9,10,11,12,13,14,15,16,17,18,19],[0,1,3,7,0,0,32,0,128,0,512,0,2048,0,8192,32767,65535,65535,262143,524287],[],[]⟩),(5,⟨[0,1,2,3,4,5,6,7,8,9,10,11],[0,1,3,7,0,0,32,127,255,255,1023,2047],[],[]⟩),(7,⟨[0,1,2,3,4,5,6,7,8,9,10,11,12,13,14,15],[0,1,3,7,0,16,48,112,0,496,1008,2047,4095,4095,16383,32767],[],[]⟩),(9,⟨[0,1,2,3,4,5,6,7,8,9,10,11,12,13,14,15],[0,1,3,7,0,16,48,112,0,496,1008,0,2048,8191,16383,32767],[],[]⟩)]⟩
def Dg7:List Item:=A8 Tryz.f78
theorem E36 (c:List Value) :
 xQ Bn2 C R A19 Tryz.f78 Dg7 [(0,.pointer k),(1,iI env),(2,.agg ⟨c⟩)] h =
 nw (.cells A02 false c) h fun b w=>gInt .i64 ⟨b,0,none⟩ w fun x=>cond (x==4)
 (aSome k fun p=>gPtr (add p 3) w fun z1=>gInt .i64 ⟨b,1,none⟩ w fun z2=>gInt .i64 ⟨b,4,none⟩ w fun z3=>gInt .i64 ⟨b,5,none⟩ w fun z4=>gInt .i64 ⟨b,2,none⟩ w fun z5=>gInt .i64 ⟨b,3,none⟩ w fun z6=>bnd (C A00 [.pointer z1,iI env,iI z2,iI z3,iI z4,iI z5,iI z6] w) fun r w1=>as2 r fun q1 q2=>aInt .i64 q1 fun z7=>aInt .i64 q2 fun z8=>some (.tuple ⟨[iI z7,iI z8]⟩,w1))
 (cond (x==5)
 (aSome k fun p_1=>gPtr (add p_1 3) w fun z9=>gInt .i64 ⟨b,1,none⟩ w fun z10=>bnd (C Es6 [.pointer z9,iI env,iI z10] w) fun q3 w2=>as2 q3 fun q4 q5=>aInt .i64 q4 fun z11=>aInt .i64 q5 fun z12=>some (.tuple ⟨[iI z11,iI z12]⟩,w2))
 (cond (x==6)
 (aSome k fun p_2=>gPtr (add p_2 4) w fun z13=>aSome k fun p_3=>gSl (add p_3 0) w fun z14 xn _=>aSome z14 fun p_4=>ck ((0:Int)≤env∧env<(xn:Int)) (gInt .i64 (add (B2 p_4) (Int.toNat env*1)) w fun z15=>bnd (C Ax4 [.pointer z13,iI z15] w) fun q6 w3=>as2 q6 fun q7 q8=>aInt .i64 q7 fun z16=>aInt .i64 q8 fun z17=>some (.tuple ⟨[iI z16,iI z17]⟩,w3)))
 (cond (x==7)
 (aSome k fun p_5=>gPtr (add p_5 4) w fun z18=>aSome k fun p_6=>gSl (add p_6 0) w fun z19 xn_1 _=>aSome z19 fun p_7=>ck ((0:Int)≤env∧env<(xn_1:Int)) (gInt .i64 (add (B2 p_7) (Int.toNat env*1)) w fun z20=>gInt .i64 ⟨b,3,none⟩ w fun z21=>bnd (C A07 [.pointer z18,iI z20,iI z21] w) fun q9 w4=>aInt .i64 q9 fun z22=>some (.tuple ⟨[iI 0,iI z22]⟩,w4)))
 (cond (x==8)
 (gAgg ⟨b,0,none⟩ 7 w fun z23=>bnd (C A52 [.pointer k,iI env,.agg ⟨z23⟩] w) fun q10 w5=>as2 q10 fun q11 q12=>aInt .i64 q11 fun z24=>aInt .i64 q12 fun z25=>some (.tuple ⟨[iI z24,iI z25]⟩,w5))
 (cond (x==9)
 (gAgg ⟨b,0,none⟩ 7 w fun z26=>bnd (C A56 [.pointer k,iI env,.agg ⟨z26⟩] w) fun q13 w6=>aInt .i64 q13 fun z27=>some (.tuple ⟨[iI 0,iI z27]⟩,w6))
 (cond (x==10)
 (aSome k fun p_8=>gInt .i64 (add p_8 7) w fun z28=>some (.tuple ⟨[iI z28,iI 0]⟩,w))
 (some (.tuple ⟨[iI 0,iI 7]⟩,w)))))))):=kR
def Dd4:Cuts:=⟨0,[],[],[]⟩
def Ed1:List Item:=A8 Tryz.f93
theorem Gw6 :
 xQ Dd4 C R A83 Tryz.f93 Ed1 [(0,iI i)] h =
 nw (.cells E5 false [iI 0,iI 0]) h fun b w=>pAgg ⟨b,0,none⟩ [iI 2,iI i] w fun w1=>gAgg ⟨b,0,none⟩ 2 w1 fun x=>some (.agg ⟨x⟩,w1):=kR
def Br3:Cuts:=⟨0,[],[],[]⟩
def Dm9:List Item:=A8 Tryz.f99
theorem E98 :
 xQ Br3 C R Ai2 Tryz.f99 Dm9 [(0,.slice b bn bc)] h =
 cond ((bn:Int) != 4)
 (some (.tuple ⟨[iI 0,iI 2]⟩,h))
 (aSome b fun p=>ck ((0:Int)≤0∧0<(bn:Int)) (gInt .u8 (add (B2 p) (Int.toNat 0*1)) h fun x=>bnd (C Ar5 [iI (wrap .i64 (x))] h) fun r w=>as2 r fun q1 q2=>aSl q1 fun z1 xn _=>aBool q2 fun z2=>bnd (cond (!z2) (some (true,w)) (gCells z1 xn w fun cs=>asBytes cs fun l=>gCells b bn w fun cs_1=>asBytes cs_1 fun l_1=>some (!((ByteArray.mk ⟨l⟩).toList==(ByteArray.mk ⟨l_1⟩).toList),w))) fun c w1=>cond c
 (some (.tuple ⟨[iI 0,iI 2]⟩,w1))
 (aSome b fun p_1=>ck ((0:Int)≤0∧0<(bn:Int)) (gInt .u8 (add (B2 p_1) (Int.toNat 0*1)) w1 fun z3=>some (.tuple ⟨[iI (wrap .i64 (z3)),iI 1]⟩,w1))))):=kR
def Ah6:Cuts:=⟨0,[(2,[0,1,7,8])],[],[]⟩
def Aw4:List Item:=A8 Tryz.f100
def Ab5:List Item:=stk [0,1,0,0,1,4,5] Aw4
theorem Dy6 (v:Int) :
 xQ Ah6 C R I7 Tryz.f100 Aw4 [(0,.slice s sn sc),(1,iI v)] h =
 R I7 Ab5 [(0,.slice s sn sc),(1,iI v),(7,iI (sn:Int)),(8,iI 0)] h:=kR
theorem Ba3 (v:Int) :
 xQ Ah6 C R I7 Tryz.f100 Ab5 [(0,.slice s sn sc),(1,iI v),(7,iI x7),(8,iI x8)] h =
 cond (decide (x8<x7))
 (aSome s fun p=>ck ((0:Int)≤x8∧x8<(sn:Int)) (gInt .i64 (add (B2 p) (Int.toNat x8*1)) h fun x=>cond (v==x)
 (some (iI x8,h))
 (R I7 Ab5 [(0,.slice s sn sc),(1,iI v),(7,iI x7),(8,iI (wrap .i64 (x8+1)))] h)))
 (some (iI (-1),h)):=kR
def Av3:Cuts:=⟨0,[],[],[]⟩
def Bk6:List Item:=A8 Tryz.f102
theorem Ds9 :
 xQ Av3 C R Z6 Tryz.f102 Bk6 [(0,.slice s sn sc)] h =
 cond s.isNone
 (some (.slice none 0 0,h))
 (nw (.cells B5 false []) h fun b w=>gCells s (sn*1) w fun cs=>ckB (fitsOpen (some ⟨b,0,none⟩) B5 w) (apd B5 1 (some ⟨b,0,none⟩) 0 0 sn cs w fun a an ac w1=>some (.slice a an ac,w1))):=kR
def Ef6:Cuts:=⟨0,[],[(7,[1,2])],[]⟩
def Eo6:List Item:=A8 Tryz.f110
def Er3:List Item:=stk [0,1,0,1,0,1,0] Eo6
theorem H60 :
 xQ Ef6 C R Bo8 Tryz.f110 Eo6 [(0,.agg ⟨p⟩)] h =
 nw (.cells D2 false p) h fun b w=>gInt .i64 ⟨b,4,none⟩ w fun x=>gInt .i64 ⟨b,5,none⟩ w fun z1=>gInt .i64 ⟨b,0,none⟩ w fun z2=>bnd (cond (z2 != 1) (some (true,w)) (some ((M8 .i64 (B21 .i64 x z1) 65534)==0,w))) fun c w1=>cond c
 (some (.tuple ⟨[iI 0,iI 0]⟩,w1))
 (cond ((M8 .i64 (M8 .i64 (B21 .i64 x z1) 65534) 512) != 0)
 (R Bo8 Er3 [(1,pP b),(2,iI 9)] w1)
 (bnd (C Dp3 [.int .u64 (wrap .u64 (M8 .i64 (B21 .i64 x z1) 65534))] w1) fun r w2=>aInt .i64 r fun z3=>R Bo8 Er3 [(1,pP b),(2,iI z3)] w2)):=kR
def Ea4:Cuts:=⟨0,[],[],[]⟩
def Gc1:List Item:=A8 Tryz.f119
theorem Hu3 :
 xQ Ea4 C R A30 Tryz.f119 Gc1 [(0,iI e)] h =
 nw (.cells Q8 false [iI 0,iI 0,.slice none 0 0,.bool false]) h fun b w=>pAgg ⟨b,0,none⟩ [iI 0,iI e,.slice none 0 0,.bool false] w fun w1=>gAgg ⟨b,0,none⟩ 4 w1 fun x=>some (.agg ⟨x⟩,w1):=kR
def B60:Cuts:=⟨0,[],[],[]⟩
def D33:List Item:=A8 Tryz.f124
theorem Gs1 :
 xQ B60 C R Ah2 Tryz.f124 D33 [(0,.pointer s),(1,iI env)] h =
 bnd (cond (decide (env≥0)) (aSome s fun p=>gSl (add p 0) h fun _ xn _=>some (decide (env<(xn:Int)),h)) (some (false,h))) fun c w=>some (.bool c,w):=kR
def Ac1:Cuts:=⟨0,[(3,[0,3,9,10,11])],[],[]⟩
def Am2:List Item:=A8 Tryz.f125
def P2:List Item:=stk [0,1,0,1,0,0,1,4,5] Am2
theorem Dh6 :
 xQ Ac1 C R G7 Tryz.f125 Am2 [(0,.pointer t)] h =
 aSome t fun p=>gSl (add p 0) h fun x xn xc=>R G7 P2 [(0,.pointer t),(3,.slice none 0 0),(9,.slice x xn xc),(10,iI (xn:Int)),(11,iI 0)] h:=kR
theorem A12 (out:Option Addr) (outn outc:Nat) (x9:Option Addr) (x9n x9c:Nat) (x10:Int) (x11:Int) :
 xQ Ac1 C R G7 Tryz.f125 P2 [(0,.pointer t),(3,.slice out outn outc),(9,.slice x9 x9n x9c),(10,iI x10),(11,iI x11)] h =
 cond (decide (x11<x10))
 (aSome x9 fun p=>ck ((0:Int)≤x11∧x11<(x9n:Int)) (gAgg (add (B2 p) (Int.toNat x11*8)) 8 h fun x=>nw (.cells Ao4 false [iI 0,iI 0,iI 0,iI 0,iI 0,iI 0,iI 0,.bool false]) h fun b w=>ck (List.length x=8) (pAgg ⟨b,0,none⟩ x w fun w1=>gBool ⟨b,7,none⟩ w1 fun z1=>cond z1
 (bnd (C O9 [.pointer t,iI x11] w1) fun r w2=>aInt .i64 r fun z2=>nw (.cells B5 false [iI z2]) w2 fun p1 w3=>gCells (some ⟨p1,0,none⟩) (1*1) w3 fun cs=>ckB (fitsOpen out B5 w3) (apd B5 1 out outn outc 1 cs w3 fun a an ac w4=>R G7 P2 [(0,.pointer t),(3,.slice a an ac),(9,.slice x9 x9n x9c),(10,iI x10),(11,iI (wrap .i64 (x11+1)))] w4))
 (R G7 P2 [(0,.pointer t),(3,.slice out outn outc),(9,.slice x9 x9n x9c),(10,iI x10),(11,iI (wrap .i64 (x11+1)))] w1))))
 (some (.slice out outn outc,h)):=kR
def Ay2:Cuts:=⟨0,[],[],[]⟩
def Bq3:List Item:=A8 Tryz.f126
theorem D06 (r:List Value) :
 xQ Ay2 C R Ab0 Tryz.f126 Bq3 [(0,.pointer c),(1,.agg ⟨r⟩)] h =
 nw (.cells E5 false r) h fun b w=>nw (.cells B73 false [iI 0,iI 0,iI 0]) w fun p1 w1=>gInt .i64 ⟨b,1,none⟩ w1 fun x=>bnd (cond (decide (x<0)) (some (true,w1)) (gInt .i64 ⟨b,0,none⟩ w1 fun z1=>bnd (C Ac9 [.pointer c,iI z1] w1) fun q1 w2=>aInt .i64 q1 fun z2=>some (decide (x≥z2),w2))) fun c_1 w3=>cond c_1
 (pAgg ⟨p1,0,none⟩ [iI 0,iI 0,iI 0] w3 fun w4=>gAgg ⟨p1,0,none⟩ 3 w4 fun z3=>some (.tuple ⟨[.agg ⟨z3⟩,.bool false]⟩,w4))
 (aSome c fun p=>gSl (add p 2) w3 fun z4 xn _=>aSome z4 fun p_1=>ck ((0:Int)≤0∧0<(xn:Int)) (gInt .i64 (add (B2 p_1) (Int.toNat 0*1)) w3 fun z5=>gInt .i64 ⟨b,0,none⟩ w3 fun z6=>cond (z6==1)
 (pAgg ⟨p1,0,none⟩ [iI z5,iI (wrap .i64 (24*x)),iI 24] w3 fun w5=>gAgg ⟨p1,0,none⟩ 3 w5 fun z7=>some (.tuple ⟨[.agg ⟨z7⟩,.bool true]⟩,w5))
 (gInt .i64 ⟨b,0,none⟩ w3 fun z8=>cond (z8==2)
 (pAgg ⟨p1,0,none⟩ [iI z5,iI (wrap .i64 (192+(wrap .i64 (8*x)))),iI 8] w3 fun w6=>gAgg ⟨p1,0,none⟩ 3 w6 fun z9=>some (.tuple ⟨[.agg ⟨z9⟩,.bool true]⟩,w6))
 (gInt .i64 ⟨b,0,none⟩ w3 fun z10=>bnd (cond (z10==3) (some (decide (x<4),w3)) (some (false,w3))) fun c_2 w7=>cond c_2
 (pAgg ⟨p1,0,none⟩ [iI z5,iI (wrap .i64 (288+(wrap .i64 (40*x)))),iI 40] w7 fun w8=>gAgg ⟨p1,0,none⟩ 3 w8 fun z11=>some (.tuple ⟨[.agg ⟨z11⟩,.bool true]⟩,w8))
 (gInt .i64 ⟨b,0,none⟩ w7 fun z12=>cond (z12==3)
 (aSome c fun p_2=>gSl (add p_2 2) w7 fun z13 xn_1 _=>aSome z13 fun p_3=>ck ((0:Int)≤wrap .i64 ((wrap .i64 (x-4))+1)∧wrap .i64 ((wrap .i64 (x-4))+1)<(xn_1:Int)) (gInt .i64 (add (B2 p_3) (Int.toNat (wrap .i64 ((wrap .i64 (x-4))+1))*1)) w7 fun z14=>pAgg ⟨p1,0,none⟩ [iI z14,iI 0,iI 40] w7 fun w9=>gAgg ⟨p1,0,none⟩ 3 w9 fun z15=>some (.tuple ⟨[.agg ⟨z15⟩,.bool true]⟩,w9)))
 (gInt .i64 ⟨b,0,none⟩ w7 fun z16=>cond (z16==4)
 (pAgg ⟨p1,0,none⟩ [iI z5,iI 448,iI 40] w7 fun w10=>gAgg ⟨p1,0,none⟩ 3 w10 fun z17=>some (.tuple ⟨[.agg ⟨z17⟩,.bool true]⟩,w10))
 (pAgg ⟨p1,0,none⟩ [iI z5,iI 488,iI 4] w7 fun w11=>gAgg ⟨p1,0,none⟩ 3 w11 fun z18=>some (.tuple ⟨[.agg ⟨z18⟩,.bool true]⟩,w11)))))))):=kR
def Bg4:Cuts:=⟨0,[(4,[1,2,22,23,24]),(9,[1,2,43,44,45]),(14,[1,58,59])],[],[]⟩
def Bs6:List Item:=A8 Tryz.f130
def Dd1:List Item:=stk [0,1,0,1,0,0,1,4,5] Bs6
def Dc6:List Item:=stk [0,1,0,1,0,1,0,0,1,4,5] Bs6
def Dd0:List Item:=stk [0,1,0,1,0,1,0,1,0,0,1,4,5] Bs6
theorem Hw8 :
 xQ Bg4 C R P9 Tryz.f130 Bs6 [(0,.agg ⟨p⟩),(1,.slice b bn bc)] h =
 nw (.cells D2 false p) h fun p1 w=>gAgg ⟨p1,0,none⟩ 16 w fun x=>bnd (C Dr8 [.agg ⟨x⟩] w) fun r w1=>aBool r fun z1=>cond (!z1)
 (some (.bool false,w1))
 (gInt .i64 ⟨p1,0,none⟩ w1 fun z2=>gInt .i64 ⟨p1,1,none⟩ w1 fun z3=>gInt .i64 ⟨p1,2,none⟩ w1 fun z4=>gInt .i64 ⟨p1,3,none⟩ w1 fun z5=>nw (.cells B5 false [iI z2,iI z3,iI z4,iI z5]) w1 fun p2 w2=>R P9 Dd1 [(1,.slice b bn bc),(2,pP p1),(22,.slice (some ⟨p2,0,none⟩) 4 4),(23,iI 4),(24,iI 0)] w2):=kR
theorem A85 (p:Addr) (x22:Option Addr) (x22n x22c:Nat) (x23:Int) (x24:Int) :
 xQ Bg4 C R P9 Tryz.f130 Dd1 [(1,.slice b bn bc),(2,.pointer (some p)),(22,.slice x22 x22n x22c),(23,iI x23),(24,iI x24)] h =
 cond (decide (x24<x23))
 (aSome x22 fun p_1=>ck ((0:Int)≤x24∧x24<(x22n:Int)) (gInt .i64 (add (B2 p_1) (Int.toNat x24*1)) h fun x=>aSome b fun p_2=>ck ((0:Int)≤x24∧x24<(bn:Int)) (pV (add (B2 p_2) (Int.toNat x24*1)) (.int .u8 (wrap .u8 (x))) h fun w=>R P9 Dd1 [(1,.slice b bn bc),(2,.pointer (some p)),(22,.slice x22 x22n x22c),(23,iI x23),(24,iI (wrap .i64 (x24+1)))] w)))
 (gInt .i64 (add p 4) h fun z1=>gInt .i64 (add p 5) h fun z2=>gInt .i64 (add p 6) h fun z3=>gInt .i64 (add p 7) h fun z4=>nw (.cells B5 false [iI z1,iI z2,iI z3,iI z4]) h fun p1 w1=>R P9 Dc6 [(1,.slice b bn bc),(2,.pointer (some p)),(43,.slice (some ⟨p1,0,none⟩) 4 4),(44,iI 4),(45,iI 0)] w1):=kR
theorem A98 (p:Addr) (x43:Option Addr) (x43n x43c:Nat) (x44:Int) (x45:Int) :
 xQ Bg4 C R P9 Tryz.f130 Dc6 [(1,.slice b bn bc),(2,.pointer (some p)),(43,.slice x43 x43n x43c),(44,iI x44),(45,iI x45)] h =
 cond (decide (x45<x44))
 (aSome x43 fun p_1=>ck ((0:Int)≤x45∧x45<(x43n:Int)) (gInt .i64 (add (B2 p_1) (Int.toNat x45*1)) h fun x=>bnd (C Bm0 [.slice b bn bc,iI (wrap .i64 (4+(wrap .i64 (2*x45)))),iI x] h) fun r w=>aBool r fun _=>R P9 Dc6 [(1,.slice b bn bc),(2,.pointer (some p)),(43,.slice x43 x43n x43c),(44,iI x44),(45,iI (wrap .i64 (x45+1)))] w))
 (gAgg (add p 8) 8 h fun z2=>R P9 Dd0 [(1,.slice b bn bc),(58,.agg ⟨z2⟩),(59,iI 0)] h):=kR
theorem Aa7 (x58:List Value) :
 xQ Bg4 C R P9 Tryz.f130 Dd0 [(1,.slice b bn bc),(58,.agg ⟨x58⟩),(59,iI x59)] h =
 cond (decide (x59<8))
 (ck ((0:Int)≤x59∧x59<((8:Nat):Int)) (nth x58 (Int.toNat x59*1) fun x=>aInt .i64 x fun z1=>aSome b fun p=>ck ((0:Int)≤wrap .i64 (12+x59)∧wrap .i64 (12+x59)<(bn:Int)) (pV (add (B2 p) (Int.toNat (wrap .i64 (12+x59))*1)) (.int .u8 (wrap .u8 (z1))) h fun w=>R P9 Dd0 [(1,.slice b bn bc),(58,.agg ⟨x58⟩),(59,iI (wrap .i64 (x59+1)))] w)))
 (aSome b fun p_1=>ck ((0:Int)≤20∧20<(bn:Int)) (pV (add (B2 p_1) (Int.toNat 20*1)) (.int .u8 167) h fun w1=>ckB (fitsOpen b A7 w1) (ck ((0:Int)≤21∧21≤(bc:Int)) (bnd (C Ad4 [.slice (I8 b (decide (0<bc)) (0*1)) ((Int.toNat 21)-0) (bc-0)] w1) fun r w2=>aInt .u8 r fun z2=>aSome b fun p_2=>ck ((0:Int)≤21∧21<(bn:Int)) (pV (add (B2 p_2) (Int.toNat 21*1)) (.int .u8 z2) w2 fun w3=>some (.bool true,w3)))))):=kR
def E31:Cuts:=⟨0,[],[],[]⟩
def G20:List Item:=A8 Tryz.f134
theorem Ii2 (frames:Int) :
 xQ E31 C R D30 Tryz.f134 G20 [(0,iI frames)] h =
 ck ((0:Int)≤wrap .i64 (64*(mm2 false (mm2 true frames 0) 256))∧(wrap .i64 (64*(mm2 false (mm2 true frames 0) 256)):Int)≤wrap .i64 (64*(mm2 false (mm2 true frames 0) 256))∧wrap .i64 (64*(mm2 false (mm2 true frames 0) 256))≤(B1:Int)) (nw (.cells A7 false (L5 (Int.toNat (wrap .i64 (64*(mm2 false (mm2 true frames 0) 256)))) [.int .u8 0])) h fun b w=>nw (.cells E28 false [.slice (some ⟨b,0,none⟩) (Int.toNat (wrap .i64 (64*(mm2 false (mm2 true frames 0) 256)))) (Int.toNat (wrap .i64 (64*(mm2 false (mm2 true frames 0) 256))))]) w fun p1 w1=>some (pP p1,w1)):=kR
def De6:Cuts:=⟨0,[(3,[3,12,13,14])],[],[(5,⟨[0,1,2,3,4,5,6,7,8,9,10,11,12,13],[0,0,2,6,14,0,32,96,224,480,1022,2047,4095,8191],[],[]⟩)]⟩
def D94:List Item:=A8 Tryz.f136
def Bo9:List Item:=stk [0,1,0,1,0,0,1,4,5] D94
theorem Ht3 (frames:Option Addr) (framesn framesc:Nat) :
 xQ De6 C R Au5 Tryz.f136 D94 [(0,.slice frames framesn framesc)] h =
 nw (.cells Az2 false [.slice none 0 0]) h fun b w=>ckB (fitsOpen frames B5 w) (ck ((0:Int)≤mm2 false (framesn:Int) 4∧mm2 false (framesn:Int) 4≤(framesc:Int)) (R Au5 Bo9 [(3,pP b),(12,.slice (I8 frames (decide (0<framesc)) (0*1)) ((Int.toNat (mm2 false (framesn:Int) 4))-0) (framesc-0)),(13,iI (((Int.toNat (mm2 false (framesn:Int) 4))-0:Nat):Int)),(14,iI 0)] w)):=kR
theorem Ec1 (q:Addr) (x12:Option Addr) (x12n x12c:Nat) (x14:Int) :
 xQ De6 C R Au5 Tryz.f136 Bo9 [(3,.pointer (some q)),(12,.slice x12 x12n x12c),(13,iI x13),(14,iI x14)] h =
 cond (decide (x14<x13))
 (aSome x12 fun p=>ck ((0:Int)≤x14∧x14<(x12n:Int)) (gInt .i64 (add (B2 p) (Int.toNat x14*1)) h fun x=>gSl (add q 0) h fun z1 xn xc=>ck ((0:Int)≤mm2 false (mm2 true x 0) 64∧(mm2 false (mm2 true x 0) 64:Int)≤mm2 false (mm2 true x 0) 64∧mm2 false (mm2 true x 0) 64≤(B1:Int)) (nw (.cells B5 false (L5 (Int.toNat (mm2 false (mm2 true x 0) 64)) [iI 0])) h fun b w=>nw (.cells U4 false [.slice (some ⟨b,0,none⟩) (Int.toNat (mm2 false (mm2 true x 0) 64)) (Int.toNat (mm2 false (mm2 true x 0) 64))]) w fun p1 w1=>gCells (some ⟨p1,0,none⟩) (1*1) w1 fun cs=>ckB (fitsOpen z1 U4 w1) (apd U4 1 z1 xn xc 1 cs w1 fun a an ac w2=>pV (add q 0) (.slice a an ac) w2 fun w3=>R Au5 Bo9 [(3,.pointer (some q)),(12,.slice x12 x12n x12c),(13,iI x13),(14,iI (wrap .i64 (x14+1)))] w3))))
 (some (.pointer (some q),h)):=kR
def Ba5:Cuts:=⟨0,[],[],[]⟩
def B20:List Item:=A8 Tryz.f139
theorem Em9 :
 xQ Ba5 C R Aq5 Tryz.f139 B20 [(0,.pointer r),(1,iI lo),(2,iI n)] h =
 bnd (cond (decide (lo<0)) (some (true,h)) (some (decide (n<0),h))) fun c w=>bnd (cond c (some (true,w)) (aSome r fun p=>gPtr (add p 0) w fun x=>bnd (C A92 [.pointer x] w) fun q1 w1=>aInt .i64 q1 fun z1=>some (decide (lo>z1),w1))) fun c_1 w2=>bnd (cond c_1 (some (true,w2)) (aSome r fun p_1=>gPtr (add p_1 0) w2 fun z2=>bnd (C A92 [.pointer z2] w2) fun q2 w3=>aInt .i64 q2 fun z3=>some (decide (n>(wrap .i64 (z3-lo))),w3))) fun c_2 w4=>cond c_2
 (some (.tuple ⟨[iI 0,iI 1]⟩,w4))
 (aSome r fun p_2=>gSl (add p_2 2) w4 fun _ xn _=>cond (decide ((xn:Int)≥32))
 (some (.tuple ⟨[iI 0,iI 4]⟩,w4))
 (aSome r fun p_3=>gSl (add p_3 2) w4 fun z5 xn_1 xc_1=>nw (.cells Az1 false [iI lo,iI n]) w4 fun b w5=>gCells (some ⟨b,0,none⟩) (1*2) w5 fun cs=>ckB (fitsOpen z5 Az1 w5) (apd Az1 2 z5 xn_1 xc_1 1 cs w5 fun a an ac w6=>aSome r fun p_4=>pV (add p_4 2) (.slice a an ac) w6 fun w7=>aSome r fun p_5=>gSl (add p_5 2) w7 fun _ xn_2 _=>some (.tuple ⟨[iI (wrap .i64 ((xn_2:Int)-1)),iI 0]⟩,w7)))):=kR
def Db6:Cuts:=⟨0,[],[],[]⟩
def Eb4:List Item:=A8 Tryz.f146
theorem Gv7 (lease:Int) :
 xQ Db6 C R Bo7 Tryz.f146 Eb4 [(0,iI lease)] h =
 nw (.cells Gc2 false [iI (mm2 false (mm2 true lease 1) 1000),iI 0,iI 0,iI 0,iI 0,iI 0,.bool false,iI 0,.slice none 0 0]) h fun b w=>some (pP b,w):=kR
def Bm4:Cuts:=⟨0,[],[],[(5,⟨[0,1,2,3,4,5,6,7,9,10,11,12,13,14,8,15,16,17,18,19,20,21],[0,0,0,4,12,28,0,64,252,0,512,1536,3584,0,8192,32764,65533,131069,262141,524287,1048575,2097151],[(8,[12])],[]⟩)]⟩
def Dg3:List Item:=A8 Tryz.f147
theorem Ez9 :
 xQ Bm4 C R A24 Tryz.f147 Dg3 [(0,.pointer r),(1,iI lo),(2,iI n)] h =
 aSome r fun p=>gSl (add p 0) h fun _ xn _=>bnd (C Ai6 [iI lo,iI n,iI (xn:Int)] h) fun q1 w=>aBool q1 fun z1=>cond (!z1)
 (some (.tuple ⟨[iI 0,iI 1]⟩,w))
 (aSome r fun p_1=>gSl (add p_1 1) w fun _ xn_1 _=>cond (decide ((xn_1:Int)≥32))
 (some (.tuple ⟨[iI 0,iI 4]⟩,w))
 (aSome r fun p_2=>gSl (add p_2 1) w fun z3 xn_2 xc_2=>nw (.cells B5 false [iI lo]) w fun b w1=>aSome r fun p_3=>gSl (add p_3 2) w1 fun z4 xn_3 xc_3=>nw (.cells B5 false [iI n]) w1 fun p1 w2=>gCells (some ⟨b,0,none⟩) (1*1) w2 fun cs=>ckB (fitsOpen z3 B5 w2) (apd B5 1 z3 xn_2 xc_2 1 cs w2 fun a an ac w3=>gSl (add p_3 2) w3 fun z5 xn_4 xc_4=>same (.slice z4 xn_3 xc_3) (.slice z5 xn_4 xc_4) (gCells (some ⟨p1,0,none⟩) (1*1) w3 fun cs_1=>ckB (fitsOpen z4 B5 w3) (apd B5 1 z4 xn_3 xc_3 1 cs_1 w3 fun a_1 an_1 ac_1 w4=>aSome r fun p_4=>pV (add p_4 1) (.slice a an ac) w4 fun w5=>aSome r fun p_5=>pV (add p_5 2) (.slice a_1 an_1 ac_1) w5 fun w6=>aSome r fun p_6=>gSl (add p_6 1) w6 fun _ xn_5 _=>some (.tuple ⟨[iI (wrap .i64 ((xn_5:Int)-1)),iI 0]⟩,w6)))))):=kR
def A70:Cuts:=⟨0,[],[],[]⟩
def B17:List Item:=A8 Tryz.f152
theorem Ee7 (fromv:Int) (on:Int) :
 xQ A70 C R An9 Tryz.f152 B17 [(0,.pointer r),(1,iI env),(2,iI fromv),(3,iI atv),(4,iI to),(5,iI on),(6,iI n)] h =
 bnd (C Ae7 [.pointer r,iI env,iI fromv,iI atv,iI n] h) fun q1 w=>as2 q1 fun q2 q3=>aSl q2 fun x xn xc=>aInt .i64 q3 fun z1=>cond (z1 != 0)
 (some (iI z1,w))
 (bnd (C Ac4 [.pointer r,iI env,iI to,iI on,.slice x xn xc] w) fun q4 w1=>aInt .i64 q4 fun z2=>some (iI z2,w1)):=kR
def Bl5:Cuts:=⟨0,[],[],[]⟩
def Di1:List Item:=A8 Tryz.f156
theorem Et2 (q:Option Addr) (s:Int) (k:Int) :
 xQ Bl5 C R A07 Tryz.f156 Di1 [(0,.pointer q),(1,iI s),(2,iI k)] h =
 bnd (C Ak5 [.pointer q,iI s] h) fun r w=>aBool r fun x=>cond (!x)
 (some (iI 1,w))
 (bnd (C A18 [.pointer q,iI s,iI k] w) fun q1 w1=>aBool q1 fun z1=>cond (!z1)
 (some (iI 5,w1))
 (aSome q fun p=>gSl (add p 0) w1 fun z2 xn _=>aSome z2 fun p_1=>ck ((0:Int)≤s∧s<(xn:Int)) (gSl (add (B2 p_1) (Int.toNat s*1)) w1 fun z3 xn_1 _=>aSome z3 fun p_2=>ck ((0:Int)≤k∧k<(xn_1:Int)) (pV (add (B2 p_2) (Int.toNat k*1)) (iI 0) w1 fun w2=>some (iI 0,w2))))):=kR
def Dk4:Cuts:=⟨0,[],[],[]⟩
def Eq4:List Item:=A8 Tryz.f171
theorem G49 :
 xQ Dk4 C R Bg3 Tryz.f171 Eq4 [] h =
 bnd (C Ar3 [iI 8,.func (.func Au2) ⟨[]⟩ ⟨[]⟩,.func (.func At5) ⟨[]⟩ ⟨[]⟩] h) fun r w=>aPtr r fun x=>some (.pointer x,w):=kR
def Ai8:Cuts:=⟨0,[],[],[(4,⟨[0,1,2,3,4,10,5,6,7,8,9,11,12],[0,1,3,7,0,16,63,127,255,255,0,1535,4095],[(5,[3])],[]⟩)]⟩
def A50:List Item:=A8 Tryz.f172
theorem B94 :
 xQ Ai8 C R Y2 Tryz.f172 A50 [(0,.pointer c),(1,.slice b bn bc)] h =
 nw (.cells D8 false [iI 0,iI 0,iI 0,iI 0]) h fun p1 w=>nw (.cells D8 false [iI 0,iI 0,iI 0,iI 0]) w fun p2 w1=>aSome c fun p=>gFv (add p 2) w1 fun x=>isNilF x fun p3=>bnd (cond p3 (some (true,w1)) (aSome c fun p_1=>gInt .i64 (add p_1 0) w1 fun z1=>some ((bn:Int) != z1,w1))) fun c_1 w2=>cond c_1
 (gAgg ⟨p2,0,none⟩ 4 w2 fun z2=>ck (List.length z2=4) (pAgg ⟨p1,0,none⟩ z2 w2 fun w3=>gAgg ⟨p1,0,none⟩ 4 w3 fun z3=>some (.tuple ⟨[.agg ⟨z3⟩,.bool false]⟩,w3)))
 (aSome c fun p_2=>gFv (add p_2 2) w2 fun z4=>nw (.cells D8 false [iI 0,iI 0,iI 0,iI 0]) w2 fun p4 w4=>bnd (C E9 [.slice b bn bc] w4) fun r w5=>aSl r fun z5 xn xc=>gFv (add p_2 2) w5 fun z6=>Bp0 (z4) (z6) (aFn z4 fun g fi cp=>bnd (C g (fi++([.slice z5 xn xc]++cp)) w5) fun q1 w6=>as2 q1 fun q2 q3=>aAgg q2 fun z7=>aBool q3 fun z8=>ck (List.length z7=4) (pAgg ⟨p4,0,none⟩ z7 w6 fun w7=>cond (!z8)
 (gAgg ⟨p2,0,none⟩ 4 w7 fun z9=>ck (List.length z9=4) (pAgg ⟨p1,0,none⟩ z9 w7 fun w8=>gAgg ⟨p1,0,none⟩ 4 w8 fun z10=>some (.tuple ⟨[.agg ⟨z10⟩,.bool false]⟩,w8)))
 (gAgg ⟨p4,0,none⟩ 4 w7 fun z11=>ck (List.length z11=4) (pAgg ⟨p1,0,none⟩ z11 w7 fun w9=>gAgg ⟨p1,0,none⟩ 4 w9 fun z12=>some (.tuple ⟨[.agg ⟨z12⟩,.bool true]⟩,w9)))))):=kR
def Dv6:Cuts:=⟨0,[],[],[]⟩
def Ew9:List Item:=A8 Tryz.f173
theorem Hk4 :
 xQ Dv6 C R Bn4 Tryz.f173 Ew9 [] h =
 bnd (C As8 [iI 40,.func (.func Bn7) ⟨[]⟩ ⟨[]⟩,.func (.func Bp4) ⟨[]⟩ ⟨[]⟩] h) fun r w=>aPtr r fun x=>some (.pointer x,w):=kR
def Dv1:Cuts:=⟨0,[],[],[]⟩
def E30:List Item:=A8 Tryz.f177
theorem Hk5 :
 xQ Dv1 C R B53 Tryz.f177 E30 [(0,.pointer c),(1,iI i),(2,iI fd),(3,iI n)] h =
 nw (.cells Q8 false [iI 0,iI 0,.slice none 0 0,.bool false]) h fun b w=>bnd (C De3 [.pointer c,iI i,iI fd,iI n] w) fun r w1=>as2 r fun q1 q2=>aAgg q1 fun x=>aInt .i64 q2 fun z1=>nw (.cells D8 false [iI 0,iI 0,iI 0,iI 0]) w1 fun p1 w2=>ck (List.length x=4) (pAgg ⟨p1,0,none⟩ x w2 fun w3=>bnd (cond (z1 != 0) (some (true,w3)) (some (n==0,w3))) fun c_1 w4=>cond c_1
 (bnd (C S7 [iI z1] w4) fun q3 w5=>aAgg q3 fun z2=>ck (List.length z2=4) (pAgg ⟨b,0,none⟩ z2 w5 fun w6=>gAgg ⟨b,0,none⟩ 4 w6 fun z3=>some (.agg ⟨z3⟩,w6)))
 (gAgg ⟨p1,0,none⟩ 4 w4 fun z4=>bnd (C B29 [.pointer c,.agg ⟨z4⟩] w4) fun q4 w7=>as2 q4 fun q5 q6=>aAgg q5 fun z5=>aBool q6 fun z6=>nw (.cells B71 false [iI 0,iI 0,iI 0,iI 0,.int .u8 0,.int .u8 0,.int .u8 0,.int .u8 0,.int .u8 0,.int .u8 0,.int .u8 0,.int .u8 0,.int .u8 0,.int .u8 0,.int .u8 0,.int .u8 0,.int .u8 0,.int .u8 0,.int .u8 0,.int .u8 0,.int .u8 0,.int .u8 0,.int .u8 0,.int .u8 0,.int .u8 0,.int .u8 0,.int .u8 0,.int .u8 0,.int .u8 0,.int .u8 0,.int .u8 0,.int .u8 0,.int .u8 0,.int .u8 0,.int .u8 0,.int .u8 0,.nilFunc]) w7 fun p2 w8=>ck (List.length z5=37) (pAgg ⟨p2,0,none⟩ z5 w8 fun w9=>cond (!z6)
 (bnd (C S7 [iI 105] w9) fun q7 w10=>aAgg q7 fun z7=>ck (List.length z7=4) (pAgg ⟨b,0,none⟩ z7 w10 fun w11=>gAgg ⟨b,0,none⟩ 4 w11 fun z8=>some (.agg ⟨z8⟩,w11)))
 (gInt .i64 ⟨p2,1,none⟩ w9 fun z9=>bnd (cond (z9==0) (gInt .i64 ⟨p1,0,none⟩ w9 fun z10=>some (z10==1,w9)) (some (false,w9))) fun c_2 w12=>bnd (cond c_2 (gInt .i64 ⟨p2,3,none⟩ w12 fun z11=>some (z11==0,w12)) (some (false,w12))) fun c_3 w13=>cond c_3
 (pAgg ⟨b,0,none⟩ [iI 0,iI 0,.slice none 0 0,.bool false] w13 fun w14=>gAgg ⟨b,0,none⟩ 4 w14 fun z12=>some (.agg ⟨z12⟩,w14))
 (gInt .i64 ⟨p2,1,none⟩ w13 fun z13=>cond (z13==0)
 (gAgg ⟨p1,0,none⟩ 4 w13 fun z14=>bnd (C Ay7 [.agg ⟨z14⟩] w13) fun q8 w15=>aAgg q8 fun z15=>ck (List.length z15=4) (pAgg ⟨b,0,none⟩ z15 w15 fun w16=>gAgg ⟨b,0,none⟩ 4 w16 fun z16=>some (.agg ⟨z16⟩,w16)))
 (gAgg ⟨p2,0,none⟩ 36 w13 fun z17=>bnd (C Df6 [.agg ⟨z17⟩,iI n] w13) fun q9 w17=>as2 q9 fun q10 q11=>aAgg q10 fun z18=>aSl q11 fun z19 xn xc=>nw (.cells D3 false zZ2) w17 fun p3 w18=>ck (List.length z18=36) (pAgg ⟨p3,0,none⟩ z18 w18 fun w19=>gFv ⟨p2,36,none⟩ w19 fun z20=>gAgg ⟨p3,0,none⟩ 36 w19 fun z21=>aFn z20 fun g fi cp=>bnd (C g (fi++([.agg ⟨z21⟩]++cp)) w19) fun q12 w20=>aBool q12 fun z22=>cond (!z22)
 (bnd (C S7 [iI 105] w20) fun q13 w21=>aAgg q13 fun z23=>ck (List.length z23=4) (pAgg ⟨b,0,none⟩ z23 w21 fun w22=>gAgg ⟨b,0,none⟩ 4 w22 fun z24=>some (.agg ⟨z24⟩,w22)))
 (pAgg ⟨b,0,none⟩ [iI (xn:Int),iI 0,.slice z19 xn xc,.bool false] w20 fun w23=>gAgg ⟨b,0,none⟩ 4 w23 fun z25=>some (.agg ⟨z25⟩,w23))))))))):=kR
def De4:Cuts:=⟨0,[(2,[0,6])],[],[]⟩
def D59:List Item:=A8 Tryz.f184
def Bo1:List Item:=stk [0,1,0,0,1,4,5] D59
theorem Hq0 :
 xQ De4 C R At6 Tryz.f184 D59 [(0,.pointer c)] h =
 R At6 Bo1 [(0,.pointer c),(6,iI 0)] h:=kR
theorem Eb3 (x6:Int) :
 xQ De4 C R At6 Tryz.f184 Bo1 [(0,.pointer c),(6,iI x6)] h =
 cond (decide (x6<8))
 (bnd (C J9 [.pointer c,iI x6] h) fun r w=>as2 r fun q1 q2=>aAgg q1 fun x=>aInt .i64 q2 fun z1=>nw (.cells D2 false zZ1) w fun b w1=>ck (List.length x=16) (pAgg ⟨b,0,none⟩ x w1 fun w2=>cond (z1==0)
 (some (iI x6,w2))
 (R At6 Bo1 [(0,.pointer c),(6,iI (wrap .i64 (x6+1)))] w2)))
 (some (iI (-1),h)):=kR
def Ag2:Cuts:=⟨0,[],[],[]⟩
def Ay1:List Item:=A8 Tryz.f215
theorem Ay0 (f:Value) :
 xQ Ag2 C R G2 Tryz.f215 Ay1 [(0,.slice s sn sc),(1,f)] h =
 bnd (C E2 [.slice s sn sc,f] h) fun r w=>aInt .i64 r fun x=>some (.bool (decide (x≥0)),w):=kR
def Dd8:Cuts:=⟨0,[],[],[]⟩
def Ec5:List Item:=A8 Tryz.f218
theorem Gv0 :
 xQ Dd8 C R A92 Tryz.f218 Ec5 [(0,.pointer m)] h =
 aSome m fun p=>gSl (add p 0) h fun _ xn _=>some (iI (xn:Int),h):=kR
def B64:Cuts:=⟨0,[],[],[]⟩
def D46:List Item:=A8 Tryz.f224
theorem Gs3 :
 xQ B64 C R Bi6 Tryz.f224 D46 [(0,.pointer m),(1,iI atv),(2,.slice b bn bc)] h =
 bnd (C Bl0 [.pointer m,iI atv,iI (bn:Int)] h) fun r w=>aBool r fun x=>cond (!x)
 (some (iI 1,w))
 (aSome m fun p=>gSl (add p 0) w fun z1 xn xc=>ckB (fitsOpen z1 A7 w) (ck ((0:Int)≤atv∧atv≤(xn:Int)) (gCells b (min bn (xn-(Int.toNat atv))*1) w fun cs=>pCells (I8 z1 (decide (Int.toNat atv<xc)) ((Int.toNat atv)*1)) cs w fun w1=>some (iI 0,w1)))):=kR
def Ba7:Cuts:=⟨0,[(2,[0,4])],[],[]⟩
def By7:List Item:=A8 Tryz.f234
def Ax5:List Item:=stk [0,1,0,0,1,4,5] By7
theorem Gj5 (n:Option Addr) :
 xQ Ba7 C R Z3 Tryz.f234 By7 [(0,.pointer n)] h =
 R Z3 Ax5 [(0,.pointer n),(4,iI 0)] h:=kR
theorem Da2 (n:Option Addr) :
 xQ Ba7 C R Z3 Tryz.f234 Ax5 [(0,.pointer n),(4,iI i)] h =
 aSome n fun p=>gSl (add p 0) h fun _ xn _=>cond (decide (i<(xn:Int)))
 (aSome n fun p_1=>gSl (add p_1 0) h fun z1 xn_1 _=>aSome z1 fun p_2=>ck ((0:Int)≤i∧i<(xn_1:Int)) (gBool (add (add (B2 p_2) (Int.toNat i*2)) 1) h fun z2=>bnd (cond (!z2) (aSome n fun p_3=>gSl (add p_3 0) h fun z3 xn_2 _=>aSome z3 fun p_4=>ck ((0:Int)≤i∧i<(xn_2:Int)) (gInt .i64 (add (add (B2 p_4) (Int.toNat i*2)) 0) h fun z4=>some (decide (z4≤1000000),h))) (some (false,h))) fun c w=>cond c
 (aSome n fun p_5=>gSl (add p_5 0) w fun z5 xn_3 _=>aSome z5 fun p_6=>ck ((0:Int)≤i∧i<(xn_3:Int)) (pV (add (add (B2 p_6) (Int.toNat i*2)) 1) (.bool true) w fun w1=>aSome n fun p_7=>gSl (add p_7 0) w1 fun z6 xn_4 _=>aSome z6 fun p_8=>ck ((0:Int)≤i∧i<(xn_4:Int)) (gInt .i64 (add (add (B2 p_8) (Int.toNat i*2)) 0) w1 fun z7=>some (.tuple ⟨[iI (wrap .i64 (i+(wrap .i64 (256*z7)))),.bool true]⟩,w1))))
 (R Z3 Ax5 [(0,.pointer n),(4,iI (wrap .i64 (i+1)))] w)))
 (some (.tuple ⟨[iI 0,.bool false]⟩,h)):=kR
def Ba6:Cuts:=⟨0,[],[],[]⟩
def B57:List Item:=A8 Tryz.f237
theorem El5 (size:Int) (put:Value) (get:Value) :
 xQ Ba6 C R Ar3 Tryz.f237 B57 [(0,iI size),(1,put),(2,get)] h =
 one put (one get (nw (.cells Al9 false [iI (mm2 false (mm2 true size 0) 64),put,get]) h fun b w=>some (pP b,w))):=kR
def D84:Cuts:=⟨0,[],[],[]⟩
def Gd1:List Item:=A8 Tryz.f238
theorem Hs6 :
 xQ D84 C R Au2 Tryz.f238 Gd1 [(0,.agg ⟨f⟩),(1,.slice b bn bc)] h =
 nw (.cells D8 false f) h fun p1 w=>gAgg ⟨p1,0,none⟩ 4 w fun x=>bnd (C Dq5 [.agg ⟨x⟩] w) fun r w1=>aBool r fun z1=>cond (!z1)
 (some (.bool false,w1))
 (gInt .i64 ⟨p1,0,none⟩ w1 fun z2=>gInt .i64 ⟨p1,1,none⟩ w1 fun z3=>gInt .i64 ⟨p1,2,none⟩ w1 fun z4=>gInt .i64 ⟨p1,3,none⟩ w1 fun z5=>nw (.cells A7 false [.int .u8 (wrap .u8 (z2)),.int .u8 (wrap .u8 (z3)),.int .u8 (wrap .u8 (z4)),.int .u8 (wrap .u8 (z5)),.int .u8 179]) w1 fun p2 w2=>gCells (some ⟨p2,0,none⟩) (min 5 bn*1) w2 fun cs=>pCells b cs w2 fun w3=>ckB (fitsOpen b A7 w3) (ck ((0:Int)≤5∧5≤(bc:Int)) (bnd (C Ad4 [.slice (I8 b (decide (0<bc)) (0*1)) ((Int.toNat 5)-0) (bc-0)] w3) fun q1 w4=>aInt .u8 q1 fun z6=>aSome b fun p=>ck ((0:Int)≤5∧5<(bn:Int)) (pV (add (B2 p) (Int.toNat 5*1)) (.int .u8 z6) w4 fun w5=>some (.bool true,w5))))):=kR
def En6:Cuts:=⟨0,[],[],[(5,⟨[0,1,2,3,4],[0,1,0,4,15],[],[]⟩)]⟩
def Gs0:List Item:=A8 Tryz.f241
theorem H89 :
 xQ En6 C R Bn7 Tryz.f241 Gs0 [(0,.agg ⟨p⟩),(1,.slice b bn bc)] h =
 nw (.cells D3 false p) h fun p1 w=>gAgg ⟨p1,0,none⟩ 36 w fun x=>bnd (C B11 [.agg ⟨x⟩] w) fun r w1=>aBool r fun z1=>cond (!z1)
 (some (.bool false,w1))
 (gInt .i64 ⟨p1,0,none⟩ w1 fun z2=>gInt .i64 ⟨p1,1,none⟩ w1 fun z3=>gInt .i64 ⟨p1,2,none⟩ w1 fun z4=>gInt .i64 ⟨p1,3,none⟩ w1 fun z5=>nw (.cells A7 false [.int .u8 1,.int .u8 (wrap .u8 (z2)),.int .u8 (wrap .u8 (z3)),.int .u8 (wrap .u8 (z4)),.int .u8 (wrap .u8 (z5)),.int .u8 197]) w1 fun p2 w2=>gCells (some ⟨p2,0,none⟩) (min 6 bn*1) w2 fun cs=>pCells b cs w2 fun w3=>ckB (fitsOpen b A7 w3) (ck ((0:Int)≤6∧6≤(bc:Int)) (bnd (C Ad4 [.slice (I8 b (decide (0<bc)) (0*1)) ((Int.toNat 6)-0) (bc-0)] w3) fun q1 w4=>aInt .u8 q1 fun z6=>aSome b fun p_1=>ck ((0:Int)≤6∧6<(bn:Int)) (pV (add (B2 p_1) (Int.toNat 6*1)) (.int .u8 z6) w4 fun w5=>ckB (fitsOpen b A7 w5) (ck ((0:Int)≤8∧8≤(bn:Int)) (ckB (liveA ⟨p1,4,none⟩ w5) (gCells (I8 (some ⟨p1,4,none⟩) (decide (0<32)) (0*1)) (min (32-0) (bn-(Int.toNat 8))*1) w5 fun cs_1=>pCells (I8 b (decide (Int.toNat 8<bc)) ((Int.toNat 8)*1)) cs_1 w5 fun w6=>some (.bool true,w6)))))))):=kR
def Dz1:Cuts:=⟨0,[],[],[]⟩
def Ex2:List Item:=A8 Tryz.f246
theorem Hn2 (k:Int) :
 xQ Dz1 C R A88 Tryz.f246 Ex2 [(0,iI k),(1,.pointer (some fv0))] h =
 gPtr fv0 h fun x=>bnd (C N5 [.pointer x,iI k] h) fun r w=>as2 r fun q1 q2=>aAgg q1 fun z1=>aInt .i64 q2 fun z2=>nw (.cells D8 false [iI 0,iI 0,iI 0,iI 0]) w fun b w1=>ck (List.length z1=4) (pAgg ⟨b,0,none⟩ z1 w1 fun w2=>some (.bool (z2==0),w2)):=kR
def Ar8:Cuts:=⟨0,[],[],[]⟩
def Bi2:List Item:=A8 Tryz.f249
theorem Dp7 :
 xQ Ar8 C R Q3 Tryz.f249 Bi2 [(0,.pointer c),(1,iI i),(2,.agg ⟨f⟩)] h =
 nw (.cells D8 false f) h fun b w=>gAgg ⟨b,0,none⟩ 4 w fun x=>bnd (C A84 [.agg ⟨x⟩] w) fun r w1=>as2 r fun q1 q2=>aSl q1 fun z1 xn xc=>aBool q2 fun z2=>bnd (C A83 [iI i] w1) fun q3 w2=>aAgg q3 fun z3=>bnd (C O7 [.pointer c,.agg ⟨z3⟩,.slice z1 xn xc,.bool z2] w2) fun q4 w3=>aBool q4 fun z4=>some (.bool z4,w3):=kR
def Ef9:Cuts:=⟨0,[],[],[]⟩
def Gl8:List Item:=A8 Tryz.f253
theorem H20 :
 xQ Ef9 C R B29 Tryz.f253 Gl8 [(0,.pointer c),(1,.agg ⟨f⟩)] h =
 nw (.cells R0 false [.pointer c]) h fun b w=>nw (.cells D8 false f) w fun p1 w1=>nw (.cells B71 false [iI 0,iI 0,iI 0,iI 0,.int .u8 0,.int .u8 0,.int .u8 0,.int .u8 0,.int .u8 0,.int .u8 0,.int .u8 0,.int .u8 0,.int .u8 0,.int .u8 0,.int .u8 0,.int .u8 0,.int .u8 0,.int .u8 0,.int .u8 0,.int .u8 0,.int .u8 0,.int .u8 0,.int .u8 0,.int .u8 0,.int .u8 0,.int .u8 0,.int .u8 0,.int .u8 0,.int .u8 0,.int .u8 0,.int .u8 0,.int .u8 0,.int .u8 0,.int .u8 0,.int .u8 0,.int .u8 0,.nilFunc]) w1 fun p2 w2=>gInt .i64 ⟨p1,0,none⟩ w2 fun x=>cond (x==3)
 (gPtr ⟨b,0,none⟩ w2 fun z1=>bnd (C Ad0 [.pointer z1] w2) fun r w3=>as2 r fun q1 q2=>aAgg q1 fun z2=>aInt .i64 q2 fun z3=>nw (.cells D3 false zZ2) w3 fun p3 w4=>ck (List.length z2=36) (pAgg ⟨p3,0,none⟩ z2 w4 fun w5=>gAgg ⟨p3,0,none⟩ 36 w5 fun z4=>gPtr ⟨b,0,none⟩ w5 fun z5=>ck (List.length z4=36) (ck (List.length (z4++[.func (.func Bi5) ⟨[.pointer z5]⟩ ⟨[]⟩])=37) (pAgg ⟨p2,0,none⟩ (z4++[.func (.func Bi5) ⟨[.pointer z5]⟩ ⟨[]⟩]) w5 fun w6=>gAgg ⟨p2,0,none⟩ 37 w6 fun z6=>some (.tuple ⟨[.agg ⟨z6⟩,.bool (z3==1)]⟩,w6)))))
 (gPtr ⟨b,0,none⟩ w2 fun z7=>gInt .i64 ⟨p1,1,none⟩ w2 fun z8=>bnd (C V4 [.pointer z7,iI z8] w2) fun q3 w7=>as2 q3 fun q4 q5=>aAgg q4 fun z9=>aInt .i64 q5 fun z10=>nw (.cells D3 false zZ2) w7 fun p4 w8=>ck (List.length z9=36) (pAgg ⟨p4,0,none⟩ z9 w8 fun w9=>gAgg ⟨p4,0,none⟩ 36 w9 fun z11=>ck (List.length z11=36) (ck (List.length (z11++[.func (.func Ba1) ⟨[]⟩ ⟨[pP b,pP p1]⟩])=37) (pAgg ⟨p2,0,none⟩ (z11++[.func (.func Ba1) ⟨[]⟩ ⟨[pP b,pP p1]⟩]) w9 fun w10=>gAgg ⟨p2,0,none⟩ 37 w10 fun z12=>some (.tuple ⟨[.agg ⟨z12⟩,.bool (z10==1)]⟩,w10))))):=kR
def Aa5:Cuts:=⟨0,[(2,[0,1,7,8])],[],[]⟩
def Al0:List Item:=A8 Tryz.f271
def O5:List Item:=stk [0,1,0,0,1,4,5] Al0
theorem A89 (f:Value) :
 xQ Aa5 C R E2 Tryz.f271 Al0 [(0,.slice s sn sc),(1,f)] h =
 R E2 O5 [(0,.slice s sn sc),(1,f),(7,iI (sn:Int)),(8,iI 0)] h:=kR
theorem V2 (f:Value) :
 xQ Aa5 C R E2 Tryz.f271 O5 [(0,.slice s sn sc),(1,f),(7,iI x7),(8,iI x8)] h =
 cond (decide (x8<x7))
 (aSome s fun p=>ck ((0:Int)≤x8∧x8<(sn:Int)) (gInt .i64 (add (B2 p) (Int.toNat x8*1)) h fun x=>aFn f fun g fi cp=>bnd (C g (fi++([iI x]++cp)) h) fun r w=>aBool r fun z1=>cond z1
 (some (iI x8,w))
 (R E2 O5 [(0,.slice s sn sc),(1,f),(7,iI x7),(8,iI (wrap .i64 (x8+1)))] w)))
 (some (iI (-1),h)):=kR
def Af3:Cuts:=⟨0,[(2,[0,3,11,12,13])],[],[(5,⟨[0,1,2,3,4,5,6,7,8,9,10,11,12,13,14,15,16],[0,1,3,7,0,0,32,96,224,0,0,1535,3583,7679,16383,32767,65535],[],[]⟩)]⟩
def Aq6:List Item:=A8 Tryz.f272
def Aa8:List Item:=stk [0,1,0,0,1,4,5] Aq6
theorem Do6 (v:List Value) :
 xQ Af3 C R J6 Tryz.f272 Aq6 [(0,.pointer t),(1,.agg ⟨v⟩)] h =
 nw (.cells Q9 false v) h fun b w=>aSome t fun p=>gSl (add p 0) w fun x xn xc=>R J6 Aa8 [(0,.pointer t),(3,pP b),(11,.slice x xn xc),(12,iI (xn:Int)),(13,iI 0)] w:=kR
theorem A68 (x11:Option Addr) (x11n x11c:Nat) (x12:Int) :
 xQ Af3 C R J6 Tryz.f272 Aa8 [(0,.pointer t),(3,.pointer (some v)),(11,.slice x11 x11n x11c),(12,iI x12),(13,iI x13)] h =
 cond (decide (x13<x12))
 (aSome x11 fun p=>ck ((0:Int)≤x13∧x13<(x11n:Int)) (gAgg (add (B2 p) (Int.toNat x13*8)) 8 h fun x=>nw (.cells Ao4 false [iI 0,iI 0,iI 0,iI 0,iI 0,iI 0,iI 0,.bool false]) h fun b w=>ck (List.length x=8) (pAgg ⟨b,0,none⟩ x w fun w1=>gBool ⟨b,7,none⟩ w1 fun z1=>bnd (cond (!z1) (gInt .i64 ⟨b,6,none⟩ w1 fun z2=>some (decide (z2≤1000000),w1)) (some (false,w1))) fun c w2=>cond c
 (aSome t fun p_1=>gSl (add p_1 0) w2 fun z3 xn _=>aSome t fun p_2=>gSl (add p_2 0) w2 fun z4 xn_1 _=>gAgg v 6 w2 fun z5=>aSome z3 fun p_3=>ck ((0:Int)≤x13∧x13<(xn:Int)) (ck (List.length z5=6) (pAgg (add (add (B2 p_3) (Int.toNat x13*8)) 0) z5 w2 fun w3=>aSome z4 fun p_4=>ck ((0:Int)≤x13∧x13<(xn_1:Int)) (pV (add (add (B2 p_4) (Int.toNat x13*8)) 7) (.bool true) w3 fun w4=>bnd (C O9 [.pointer t,iI x13] w4) fun r w5=>aInt .i64 r fun z6=>some (.tuple ⟨[iI z6,.bool true]⟩,w5)))))
 (R J6 Aa8 [(0,.pointer t),(3,.pointer (some v)),(11,.slice x11 x11n x11c),(12,iI x12),(13,iI (wrap .i64 (x13+1)))] w2))))
 (some (.tuple ⟨[iI 0,.bool false]⟩,h)):=kR
def Eo5:Cuts:=⟨0,[],[],[]⟩
def Go7:List Item:=A8 Tryz.f278
theorem H97 :
 xQ Eo5 C R Dq5 Tryz.f278 Go7 [(0,.agg ⟨f⟩)] h =
 nw (.cells D8 false f) h fun b w=>gInt .i64 ⟨b,0,none⟩ w fun x=>bnd (cond (decide (x≥1)) (gInt .i64 ⟨b,0,none⟩ w fun z1=>some (decide (z1≤3),w)) (some (false,w))) fun c w1=>bnd (cond c (gInt .i64 ⟨b,1,none⟩ w1 fun z2=>some (decide (z2≥0),w1)) (some (false,w1))) fun c_1 w2=>bnd (cond c_1 (gInt .i64 ⟨b,1,none⟩ w2 fun z3=>some (decide (z3≤7),w2)) (some (false,w2))) fun c_2 w3=>bnd (cond c_2 (gInt .i64 ⟨b,0,none⟩ w3 fun z4=>bnd (cond (z4 != 3) (some (true,w3)) (gInt .i64 ⟨b,1,none⟩ w3 fun z5=>some (z5==0,w3))) fun c_3 w4=>some (c_3,w4)) (some (false,w3))) fun c_4 w5=>bnd (cond c_4 (gInt .i64 ⟨b,2,none⟩ w5 fun z6=>some (decide (z6≥1),w5)) (some (false,w5))) fun c_5 w6=>bnd (cond c_5 (gInt .i64 ⟨b,2,none⟩ w6 fun z7=>some (decide (z7≤64),w6)) (some (false,w6))) fun c_6 w7=>bnd (cond c_6 (gInt .i64 ⟨b,3,none⟩ w7 fun z8=>bnd (cond (z8==0) (some (true,w7)) (gInt .i64 ⟨b,3,none⟩ w7 fun z9=>some (z9==1,w7))) fun c_7 w8=>some (c_7,w8)) (some (false,w7))) fun c_8 w9=>some (.bool c_8,w9):=kR
def E02:Cuts:=⟨0,[],[],[]⟩
def Gz7:List Item:=A8 Tryz.f280
theorem Ik7 :
 xQ E02 C R B11 Tryz.f280 Gz7 [(0,.agg ⟨p⟩)] h =
 nw (.cells D3 false p) h fun b w=>gInt .i64 ⟨b,0,none⟩ w fun x=>bnd (C Au1 [iI x,iI 31] w) fun r w1=>aBool r fun z1=>bnd (cond z1 (gInt .i64 ⟨b,1,none⟩ w1 fun z2=>bnd (C Au1 [iI z2,iI 32] w1) fun q1 w2=>aBool q1 fun z3=>some (z3,w2)) (some (false,w1))) fun c w3=>bnd (cond c (gInt .i64 ⟨b,2,none⟩ w3 fun z4=>bnd (C Au1 [iI z4,iI 8] w3) fun q2 w4=>aBool q2 fun z5=>some (z5,w4)) (some (false,w3))) fun c_1 w5=>bnd (cond c_1 (gInt .i64 ⟨b,3,none⟩ w5 fun z6=>bnd (C Au1 [iI z6,iI 8] w5) fun q3 w6=>aBool q3 fun z7=>some (z7,w6)) (some (false,w5))) fun c_2 w7=>some (.bool c_2,w7):=kR
def Dk2:Cuts:=⟨0,[],[],[(1,⟨[1,0,2,3,4,5,6],[0,0,3,7,7,31,63],[(0,[1])],[]⟩)]⟩
def Er7:List Item:=A8 Tryz.f281
theorem G90 :
 xQ Dk2 C R Be5 Tryz.f281 Er7 [(0,.agg ⟨p⟩)] h =
 nw (.cells D3 false p) h fun b w=>gAgg ⟨b,0,none⟩ 36 w fun x=>bnd (C Bn4 [] w) fun r w1=>aPtr r fun z1=>gAgg ⟨b,0,none⟩ 36 w1 fun z2=>same (.agg ⟨x⟩) (.agg ⟨z2⟩) (bnd (C Y3 [.pointer z1,.agg ⟨x⟩] w1) fun q1 w2=>as2 q1 fun q2 q3=>aSl q2 fun z3 xn xc=>aBool q3 fun z4=>some (.tuple ⟨[.slice z3 xn xc,.bool z4]⟩,w2)):=kR
def Dk8:Cuts:=⟨0,[],[],[]⟩
def Ep8:List Item:=A8 Tryz.f282
theorem G70 :
 xQ Dk8 C R Bg2 Tryz.f282 Ep8 [(0,iI i),(1,.pointer (some fv0))] h =
 ck ((0:Int)≤i∧i<((8:Nat):Int)) (gInt .i64 (add (add fv0 8) (Int.toNat i*1)) h fun x=>some (.bool (x==0),h)):=kR
def Aj3:Cuts:=⟨0,[],[],[(2,⟨[0,1,2,3,4,5,6,7,8,9,10,11,12,13,14],[0,1,3,7,15,31,63,127,255,511,63,63,4095,8191,16383],[],[]⟩)]⟩
def A45:List Item:=A8 Tryz.f292
theorem B89 (v:List Value) :
 xQ Aj3 C R Y3 Tryz.f292 A45 [(0,.pointer c),(1,.agg ⟨v⟩)] h =
 nw (.cells D3 false v) h fun b w=>aSome c fun p=>gInt .i64 (add p 0) w fun x=>ck ((0:Int)≤x∧(x:Int)≤x∧x≤(B1:Int)) (nw (.cells A7 false (L5 (Int.toNat x) [.int .u8 0])) w fun p1 w1=>aSome c fun p_1=>gFv (add p_1 1) w1 fun z1=>isNilF z1 fun p2=>bnd (cond p2 (some (true,w1)) (aSome c fun p_2=>gFv (add p_2 1) w1 fun z2=>gAgg ⟨b,0,none⟩ 36 w1 fun z3=>aFn z2 fun g fi cp=>bnd (C g (fi++([.agg ⟨z3⟩,.slice (some ⟨p1,0,none⟩) (Int.toNat x) (Int.toNat x)]++cp)) w1) fun r w2=>aBool r fun z4=>some (!z4,w2))) fun c_1 w3=>cond c_1
 (some (.tuple ⟨[.slice none 0 0,.bool false]⟩,w3))
 (some (.tuple ⟨[.slice (some ⟨p1,0,none⟩) (Int.toNat x) (Int.toNat x),.bool true]⟩,w3))):=kR
end
end Go.EQ

set_option maxRecDepth 100000
namespace Go.EQ
open Go Go.NN Go.Proofs
variable (C:D7) (R:Ab9)
noncomputable section
def Iv8:List (Nat × Cuts):=[(5,Am6),(7,B82),(9,Br4),(10,Bx2),(11,Bq8),(13,A27),(15,Bs5),(16,Dj7),(18,Bc3),(19,Bz2),(21,B26),(22,Dj8),(23,Eg1),(24,B83),(25,V3),(26,Ap5),(28,B00),(29,Bq9),(30,By1),(31,Dd3),(33,B87),(34,Dl0),(35,Af2),(36,De0),(37,Dc0),(40,Dv9),(41,Dz0),(42,A59),(43,Db0),(44,Dc2),(45,Dl7),(46,A58),(47,Br9),(48,Bz6),(49,Bk0),(50,A44),(51,A31),(52,A28),(53,A33),(54,Ay3),(55,Bz8),(57,Bq7),(58,Ef4),(64,Bv5),(65,Ar2),(67,Bs1),(68,Bk8),(69,A34),(70,Dk0),(71,Dj6),(72,Ai7),(73,A99),(74,Be2),(75,Au7),(76,Dr2),(77,Bs3),(78,Bn2),(80,Bd7),(89,Bn1),(90,Ei6),(91,By5),(92,Af1),(93,Dd4),(94,Dc3),(95,Af9),(96,Dd5),(97,Dj5),(98,At3),(99,Br3),(100,Ah6),(102,Av3),(103,Dk1),(104,D58),(108,D70),(110,Ef6),(113,Gh2),(116,Da9),(117,Ay6),(118,D85),(119,Ea4),(122,D86),(124,B60),(125,Ac1),(126,Ay2),(127,Ad2),(128,B33),(129,Bb6),(130,Bg4),(131,Bu1),(132,Bl4),(133,Dl4),(134,E31),(135,Dp4),(136,De6),(137,D00),(138,Ej2),(139,Ba5),(140,Ax8),(141,Am8),(142,Bz4),(143,Bi1),(144,A23),(145,Bj1),(146,Db6),(147,Bm4),(148,D19),(149,B01),(150,A86),(151,A42),(152,A70),(153,Bk5),(155,Bh0),(156,Bl5),(157,Br0),(158,Br7),(159,Bd3),(160,Bw9),(161,By8),(162,Dl6),(163,By4),(170,Bc0),(171,Dk4),(172,Ai8),(173,Dv6),(174,Aj0),(175,Bd8),(176,Em2),(177,Dv1),(178,Dj9),(184,De4),(185,A90),(199,D93),(203,Aj4),(207,Ap6),(208,W5),(209,Ek0),(210,Dy5),(211,De1),(212,Du2),(213,Ad7),(214,Dd7),(215,Ag2),(216,Dy2),(217,Ax3),(218,Dd8),(219,Bm6),(220,Bz0),(221,Bj5),(222,A38),(223,Db5),(224,B64),(225,B02),(228,Bx3),(229,Bl2),(230,B04),(231,V8),(232,Br2),(233,Bz7),(234,Ba7),(237,Ba6),(238,D84),(239,Ea8),(240,Ba8),(241,En6),(242,Ei8),(243,En1),(244,D92),(245,Do8),(246,Dz1),(247,Dt6),(248,Ar4),(249,Ar8),(250,Ej9),(251,D76),(252,Dt4),(253,Ef9),(254,Dk5),(255,D88),(257,Do4),(269,Dw9),(270,Dw6),(271,Aa5),(272,Af3),(273,Dz6),(274,At0),(277,Av8),(278,Eo5),(279,Da8),(280,E02),(281,Dk2),(282,Dk8),(285,Dy3),(286,B85),(287,Ar0),(290,Aj6),(291,D67),(292,Aj3)]
def cutsOf:FuncId→Cuts:=Gq8 Iv8
noncomputable abbrev A9:D7:=NN.Call PR cutsOf
noncomputable abbrev I2:Ab9:=NN.Jump PR cutsOf
abbrev fK (f:FuncId) (fn:Func) (C:Cuts) (T:List Item) (n:Nat):Prop:=FnOk PR cutsOf f fn C T n
theorem fM {f : FuncId} {fn : Func} {C : Cuts} {T : List Item} {n : Nat} (a : PR.funcs[f]? = some fn) (b : ∃ c, fn.body = some c := by exact ⟨_, rfl⟩) (c : (fn.name == "runtime.NumGoroutine") = false := by kernel_rfl) (d : cutsOf f = C := by exact rfl) (e : A8 fn = T := by exact rfl) (g : Nat.ble n fn.ntmps = true := by kernel_rfl) : fK f fn C T n := ⟨a, b, c, d, e, g⟩
theorem D6:fK B9 Tryz.f5 Am6 A20 2:=fM Tryz.func5
theorem Dv4:fK Ac3 Tryz.f7 B82 Dz8 0:=fM Tryz.func7
theorem Dm4:fK S5 Tryz.f9 Br4 Dm5 2:=fM Tryz.func9
theorem Bc6:fK E6 Tryz.f10 Bx2 Bx9 1:=fM Tryz.func10
theorem E95:fK A54 Tryz.f11 Bq8 Dm7 1:=fM Tryz.func11
theorem D82:fK J9 Tryz.f13 A27 Bu8 2:=fM Tryz.func13
theorem E82:fK Ah9 Tryz.f15 Bs5 Dn4 1:=fM Tryz.func15
theorem G65:fK Bf7 Tryz.f16 Dj7 Eq7 0:=fM Tryz.func16
theorem Eo9:fK E1 Tryz.f18 Bc3 B67 3:=fM Tryz.func18
theorem Ge7:fK Aw8 Tryz.f19 Bz2 D03 2:=fM Tryz.func19
theorem B69:fK An0 Tryz.f21 B26 Dy1 1:=fM Tryz.func21
theorem G56:fK Bv4 Tryz.f22 Dj8 Er2 0:=fM Tryz.func22
theorem En7:fK A11 Tryz.f23 Eg1 Go0 4:=fM Tryz.func23
theorem Go6:fK Bj6 Tryz.f24 B83 D41 4:=fM Tryz.func24
theorem P7:fK D1 Tryz.f25 V3 Ad5 1:=fM Tryz.func25
theorem Bf1:fK E9 Tryz.f26 Ap5 Bg0 1:=fM Tryz.func26
theorem Gh1:fK Av9 Tryz.f28 B00 Dt0 1:=fM Tryz.func28
theorem E75:fK Ai0 Tryz.f29 Bq9 Dm6 2:=fM Tryz.func29
theorem Gh3:fK Bd4 Tryz.f30 By1 Dx0 1:=fM Tryz.func30
theorem Ee5:fK A96 Tryz.f31 Dd3 Ee8 1:=fM Tryz.func31
theorem Go5:fK A06 Tryz.f33 B87 D39 2:=fM Tryz.func33
theorem G89:fK Ap0 Tryz.f34 Dl0 Er6 2:=fM Tryz.func34
theorem Aq3:fK N1 Tryz.f35 Af2 As2 3:=fM Tryz.func35
theorem Gv4:fK A94 Tryz.f36 De0 Ed3 1:=fM Tryz.func36
theorem Gv3:fK Av0 Tryz.f37 Dc0 Ec3 1:=fM Tryz.func37
theorem Hn6:fK Bm1 Tryz.f40 Dv9 E33 1:=fM Tryz.func40
theorem Hf7:fK B55 Tryz.f41 Dz0 Ez1 0:=fM Tryz.func41
theorem Bs2:fK S4 Tryz.f42 A59 Bs0 1:=fM Tryz.func42
theorem Gx4:fK M0 Tryz.f43 Db0 Ee0 3:=fM Tryz.func43
theorem Gy0:fK Av1 Tryz.f44 Dc2 Eb1 3:=fM Tryz.func44
theorem G59:fK Be6 Tryz.f45 Dl7 Eq1 0:=fM Tryz.func45
theorem Br6:fK V6 Tryz.f46 A58 Br5 1:=fM Tryz.func46
theorem Ga2:fK A62 Tryz.f47 Br9 Dm1 1:=fM Tryz.func47
theorem Dw5:fK Z2 Tryz.f48 Bz6 Dx1 2:=fM Tryz.func48
theorem Eu4:fK Am3 Tryz.f49 Bk0 Dg4 2:=fM Tryz.func49
theorem Ea3:fK N5 Tryz.f50 A44 Bv0 2:=fM Tryz.func50
theorem D78:fK Ac9 Tryz.f51 A31 Bs7 2:=fM Tryz.func51
theorem D73:fK V4 Tryz.f52 A28 Bt2 2:=fM Tryz.func52
theorem D89:fK Ad0 Tryz.f53 A33 Bu0 1:=fM Tryz.func53
theorem D10:fK Ak0 Tryz.f54 Ay3 Bq5 1:=fM Tryz.func54
theorem Gf1:fK Bd1 Tryz.f55 Bz8 D02 2:=fM Tryz.func55
theorem E89:fK Ai1 Tryz.f57 Bq7 Dm2 3:=fM Tryz.func57
theorem Ek8:fK Dq7 Tryz.f58 Ef4 Gq0 3:=fM Tryz.func58
theorem Eq2:fK Ad6 Tryz.f64 Bv5 Dk6 1:=fM Tryz.func64
theorem Dr5:fK Q2 Tryz.f65 Ar2 Bh7 3:=fM Tryz.func65
theorem E76:fK Aq0 Tryz.f67 Bs1 Dm8 1:=fM Tryz.func67
theorem Ex6:fK An1 Tryz.f68 Bk8 Dh9 2:=fM Tryz.func68
theorem Ea6:fK P8 Tryz.f69 A34 Bu9 2:=fM Tryz.func69
theorem G63:fK Ap1 Tryz.f70 Dk0 Eq5 1:=fM Tryz.func70
theorem G76:fK Bf4 Tryz.f71 Dj6 Er4 0:=fM Tryz.func71
theorem B93:fK Y7 Tryz.f72 Ai7 A46 2:=fM Tryz.func72
theorem Av6:fK L7 Tryz.f73 A99 Bl6 1:=fM Tryz.func73
theorem As5:fK J0 Tryz.f74 Be2 Bq1 1:=fM Tryz.func74
theorem Ak4:fK G9 Tryz.f75 Au7 A95 1:=fM Tryz.func75
theorem Eh3:fK Ag5 Tryz.f76 Dr2 El8 1:=fM Tryz.func76
theorem E92:fK A55 Tryz.f77 Bs3 Dn3 3:=fM Tryz.func77
theorem Ex8:fK A19 Tryz.f78 Bn2 Dg7 3:=fM Tryz.func78
theorem Eh0:fK As6 Tryz.f80 Bd7 B22 5:=fM Tryz.func80
theorem Eu6:fK Az7 Tryz.f89 Bn1 Dg0 1:=fM Tryz.func89
theorem H43:fK Bb4 Tryz.f90 Ei6 Gn5 1:=fM Tryz.func90
theorem Gk7:fK Bd0 Tryz.f91 By5 Dw4 2:=fM Tryz.func91
theorem As3:fK M9 Tryz.f92 Af1 Ar1 3:=fM Tryz.func92
theorem Gu5:fK A83 Tryz.f93 Dd4 Ed1 1:=fM Tryz.func93
theorem Gw3:fK Au6 Tryz.f94 Dc3 Ec9 1:=fM Tryz.func94
theorem Aq8:fK J7 Tryz.f95 Af9 As1 3:=fM Tryz.func95
theorem Gy4:fK A76 Tryz.f96 Dd5 Ee3 1:=fM Tryz.func96
theorem G51:fK Ap3 Tryz.f97 Dj5 Es2 1:=fM Tryz.func97
theorem Bc4:fK U6 Tryz.f98 At3 Bc5 3:=fM Tryz.func98
theorem Ga1:fK Ai2 Tryz.f99 Br3 Dm9 1:=fM Tryz.func99
theorem Av7:fK I7 Tryz.f100 Ah6 Aw4 2:=fM Tryz.func100
theorem Dv8:fK Z6 Tryz.f102 Av3 Bk6 1:=fM Tryz.func102
theorem Bv3:fK Bf3 Tryz.f103 Dk1 Eq9 3:=fM Tryz.func103
theorem Hw4:fK Df5 Tryz.f104 D58 Gc3 2:=fM Tryz.func104
theorem Hv6:fK Ac5 Tryz.f108 D70 Ea2 3:=fM Tryz.func108
theorem H23:fK Bo8 Tryz.f110 Ef6 Eo6 1:=fM Tryz.func110
theorem Ir9:fK Dv3 Tryz.f113 Gh2 Hl9 3:=fM Tryz.func113
theorem Gw8:fK A80 Tryz.f116 Da9 Ed5 1:=fM Tryz.func116
theorem D09:fK O7 Tryz.f117 Ay6 Bq2 4:=fM Tryz.func117
theorem Hp8:fK A41 Tryz.f118 D85 Gc6 2:=fM Tryz.func118
theorem Hq1:fK A30 Tryz.f119 Ea4 Gc1 1:=fM Tryz.func119
theorem Hs8:fK Df1 Tryz.f122 D86 Gd4 2:=fM Tryz.func122
theorem Gl2:fK Ah2 Tryz.f124 B60 D33 2:=fM Tryz.func124
theorem An2:fK G7 Tryz.f125 Ac1 Am2 1:=fM Tryz.func125
theorem D07:fK Ab0 Tryz.f126 Ay2 Bq3 2:=fM Tryz.func126
theorem Bt1:fK U2 Tryz.f127 Ad2 At8 2:=fM Tryz.func127
theorem Gl0:fK Ag6 Tryz.f128 B33 D31 1:=fM Tryz.func128
theorem Em0:fK As4 Tryz.f129 Bb6 B56 3:=fM Tryz.func129
theorem I9:fK P9 Tryz.f130 Bg4 Bs6 2:=fM Tryz.func130
theorem Q0:fK Z8 Tryz.f131 Bu1 Df8 1:=fM Tryz.func131
theorem Bj9:fK V0 Tryz.f132 Bl4 B65 1:=fM Tryz.func132
theorem G62:fK Bf0 Tryz.f133 Dl4 Ep5 1:=fM Tryz.func133
theorem Il4:fK D30 Tryz.f134 E31 G20 1:=fM Tryz.func134
theorem Ek2:fK Az8 Tryz.f135 Dp4 Ei1 1:=fM Tryz.func135
theorem D79:fK Au5 Tryz.f136 De6 D94 1:=fM Tryz.func136
theorem Hd2:fK B30 Tryz.f137 D00 Et5 2:=fM Tryz.func137
theorem H38:fK Do0 Tryz.f138 Ej2 Gr5 1:=fM Tryz.func138
theorem En0:fK Aq5 Tryz.f139 Ba5 B20 3:=fM Tryz.func139
theorem Bh4:fK Q7 Tryz.f140 Ax8 Bh5 2:=fM Tryz.func140
theorem Dh2:fK O3 Tryz.f141 Am8 Ba2 2:=fM Tryz.func141
theorem Gh8:fK Bd2 Tryz.f142 Bz4 Dx2 3:=fM Tryz.func142
theorem B61:fK Ac0 Tryz.f143 Bi1 B28 1:=fM Tryz.func143
theorem Bl3:fK P4 Tryz.f144 A23 Bl8 2:=fM Tryz.func144
theorem B35:fK Ab6 Tryz.f145 Bj1 B70 1:=fM Tryz.func145
theorem Gx0:fK Bo7 Tryz.f146 Db6 Eb4 1:=fM Tryz.func146
theorem Eu7:fK A24 Tryz.f147 Bm4 Dg3 3:=fM Tryz.func147
theorem Ew0:fK Ba4 Tryz.f148 D19 Ez6 2:=fM Tryz.func148
theorem Ge2:fK Bc9 Tryz.f149 B01 Dx9 3:=fM Tryz.func149
theorem Eb9:fK Ae7 Tryz.f150 A86 B09 5:=fM Tryz.func150
theorem D66:fK Ac4 Tryz.f151 A42 Bt3 5:=fM Tryz.func151
theorem Ee9:fK An9 Tryz.f152 A70 B17 7:=fM Tryz.func152
theorem Ex7:fK A00 Tryz.f153 Bk5 Di5 7:=fM Tryz.func153
theorem Es7:fK Ax4 Tryz.f155 Bh0 Da1 2:=fM Tryz.func155
theorem Ez8:fK A07 Tryz.f156 Bl5 Di1 3:=fM Tryz.func156
theorem E84:fK A52 Tryz.f157 Br0 Dn1 3:=fM Tryz.func157
theorem E83:fK A56 Tryz.f158 Br7 Dm0 3:=fM Tryz.func158
theorem Ej6:fK As0 Tryz.f159 Bd3 B51 6:=fM Tryz.func159
theorem Gj3:fK Bb9 Tryz.f160 Bw9 Du1 3:=fM Tryz.func160
theorem Gh5:fK Ak9 Tryz.f161 By8 Dw0 2:=fM Tryz.func161
theorem G80:fK Ai6 Tryz.f162 Dl6 Er8 3:=fM Tryz.func162
theorem Gi7:fK Bb7 Tryz.f163 By4 Dw7 3:=fM Tryz.func163
theorem Bx4:fK U8 Tryz.f170 Bc0 Bz9 1:=fM Tryz.func170
theorem G60:fK Bg3 Tryz.f171 Dk4 Eq4 0:=fM Tryz.func171
theorem Da0:fK Y2 Tryz.f172 Ai8 A50 2:=fM Tryz.func172
theorem Hj1:fK Bn4 Tryz.f173 Dv6 Ew9 0:=fM Tryz.func173
theorem B91:fK Y4 Tryz.f174 Aj0 A47 2:=fM Tryz.func174
theorem Ei2:fK Ar5 Tryz.f175 Bd8 B34 1:=fM Tryz.func175
theorem H50:fK Do9 Tryz.f176 Em2 Gm5 2:=fM Tryz.func176
theorem Hb3:fK B53 Tryz.f177 Dv1 E30 4:=fM Tryz.func177
theorem G81:fK Bv2 Tryz.f178 Dj9 Er1 4:=fM Tryz.func178
theorem D97:fK At6 Tryz.f184 De4 D59 1:=fM Tryz.func184
theorem Ax2:fK I0 Tryz.f185 A90 Bl7 2:=fM Tryz.func185
theorem Hu6:fK Df2 Tryz.f199 D93 Gb6 2:=fM Tryz.func199
theorem B98:fK Y6 Tryz.f203 Aj4 A51 2:=fM Tryz.func203
theorem Dl1:fK O9 Tryz.f207 Ap6 Be8 2:=fM Tryz.func207
theorem Ag7:fK G6 Tryz.f208 W5 Ah3 2:=fM Tryz.func208
theorem H04:fK Dr8 Tryz.f209 Ek0 Gr1 1:=fM Tryz.func209
theorem Hb7:fK Bm0 Tryz.f210 Dy5 Et9 3:=fM Tryz.func210
theorem Ea9:fK Ad4 Tryz.f211 De1 D65 1:=fM Tryz.func211
theorem Hm9:fK B72 Tryz.f212 Du2 Eu2 2:=fM Tryz.func212
theorem Ap2:fK D5 Tryz.f213 Ad7 Ap4 2:=fM Tryz.func213
theorem Gt0:fK I5 Tryz.f214 Dd7 Ee6 2:=fM Tryz.func214
theorem Ax9:fK G2 Tryz.f215 Ag2 Ay1 2:=fM Tryz.func215
theorem Ha2:fK B46 Tryz.f216 Dy2 E09 2:=fM Tryz.func216
theorem Bh2:fK Q6 Tryz.f217 Ax3 Bh3 1:=fM Tryz.func217
theorem Gy5:fK A92 Tryz.f218 Dd8 Ec5 1:=fM Tryz.func218
theorem E34:fK Am9 Tryz.f219 Bm6 Dj3 1:=fM Tryz.func219
theorem Gh0:fK Aw2 Tryz.f220 Bz0 Du4 3:=fM Tryz.func220
theorem B63:fK Ac2 Tryz.f221 Bj5 B59 1:=fM Tryz.func221
theorem D98:fK Ac6 Tryz.f222 A38 Bt8 6:=fM Tryz.func222
theorem Gt4:fK Bp2 Tryz.f223 Db5 Ee1 3:=fM Tryz.func223
theorem Gs7:fK Bi6 Tryz.f224 B64 D46 3:=fM Tryz.func224
theorem Gf0:fK Aw0 Tryz.f225 B02 Dx5 3:=fM Tryz.func225
theorem Gg2:fK Ak5 Tryz.f228 Bx3 Dy8 2:=fM Tryz.func228
theorem Ev7:fK A18 Tryz.f229 Bl2 Dh4 3:=fM Tryz.func229
theorem Ge3:fK Aw5 Tryz.f230 B04 Dy4 3:=fM Tryz.func230
theorem Ab4:fK D0 Tryz.f231 V8 Ab3 3:=fM Tryz.func231
theorem E80:fK A61 Tryz.f232 Br2 Dn5 3:=fM Tryz.func232
theorem Gj7:fK Bd5 Tryz.f233 Bz7 D01 2:=fM Tryz.func233
theorem B05:fK Z3 Tryz.f234 Ba7 By7 1:=fM Tryz.func234
theorem Ef8:fK Ar3 Tryz.f237 Ba6 B57 3:=fM Tryz.func237
theorem Hp2:fK Au2 Tryz.f238 D84 Gd1 2:=fM Tryz.func238
theorem Hp1:fK At5 Tryz.f239 Ea8 Gd0 1:=fM Tryz.func239
theorem Eo0:fK As8 Tryz.f240 Ba8 B40 3:=fM Tryz.func240
theorem H24:fK Bn7 Tryz.f241 En6 Gs0 2:=fM Tryz.func241
theorem H22:fK Bp4 Tryz.f242 Ei8 Gp7 1:=fM Tryz.func242
theorem H72:fK Bb5 Tryz.f243 En1 Gl7 1:=fM Tryz.func243
theorem Ho4:fK De9 Tryz.f244 D92 Gd2 2:=fM Tryz.func244
theorem Dp8:fK Z9 Tryz.f245 Do8 Ef7 3:=fM Tryz.func245
theorem Hk2:fK A88 Tryz.f246 Dz1 Ex2 2:=fM Tryz.func246
theorem Hm3:fK A69 Tryz.f247 Dt6 Ey3 2:=fM Tryz.func247
theorem Dr3:fK W1 Tryz.f248 Ar4 Bi3 3:=fM Tryz.func248
theorem Dp1:fK Q3 Tryz.f249 Ar8 Bi2 3:=fM Tryz.func249
theorem H59:fK Dq1 Tryz.f250 Ej9 Gp1 2:=fM Tryz.func250
theorem Hp9:fK De3 Tryz.f251 D76 Ga8 4:=fM Tryz.func251
theorem Ha3:fK S7 Tryz.f252 Dt4 Ex3 1:=fM Tryz.func252
theorem H35:fK B29 Tryz.f253 Ef9 Gl8 2:=fM Tryz.func253
theorem G79:fK Ay7 Tryz.f254 Dk5 Er5 1:=fM Tryz.func254
theorem Hp5:fK Df6 Tryz.f255 D88 Gb5 2:=fM Tryz.func255
theorem Eh4:fK A03 Tryz.f257 Do4 Ef5 2:=fM Tryz.func257
theorem Ho3:fK An5 Tryz.f269 Dw9 Ez4 2:=fM Tryz.func269
theorem Hg6:fK Bk4 Tryz.f270 Dw6 E11 1:=fM Tryz.func270
theorem N7:fK E2 Tryz.f271 Aa5 Al0 2:=fM Tryz.func271
theorem Aq4:fK J6 Tryz.f272 Af3 Aq6 2:=fM Tryz.func272
theorem Hc9:fK Bl0 Tryz.f273 Dz6 E16 3:=fM Tryz.func273
theorem Dq6:fK Af5 Tryz.f274 At0 Bj0 2:=fM Tryz.func274
theorem Ds8:fK Ah4 Tryz.f277 Av8 Bm8 2:=fM Tryz.func277
theorem H54:fK Dq5 Tryz.f278 Eo5 Go7 1:=fM Tryz.func278
theorem Gw4:fK A84 Tryz.f279 Da8 Ed2 1:=fM Tryz.func279
theorem Ib2:fK B11 Tryz.f280 E02 Gz7 1:=fM Tryz.func280
theorem G67:fK Be5 Tryz.f281 Dk2 Er7 1:=fM Tryz.func281
theorem G54:fK Bg2 Tryz.f282 Dk8 Ep8 2:=fM Tryz.func282
theorem Hf2:fK Ba1 Tryz.f285 Dy3 E13 3:=fM Tryz.func285
theorem Du9:fK An4 Tryz.f286 B85 Dv7 1:=fM Tryz.func286
theorem Dn6:fK W4 Tryz.f287 Ar0 Bj3 1:=fM Tryz.func287
theorem B96:fK Y5 Tryz.f290 Aj6 A48 2:=fM Tryz.func290
theorem Hv8:fK Au1 Tryz.f291 D67 Ga3 2:=fM Tryz.func291
theorem B97:fK Y3 Tryz.f292 Aj3 A45 2:=fM Tryz.func292
end
end Go.EQ

namespace Go.EQ
open Go Go.NN Go.Proofs
theorem I86:type_of% Tryz.underlying3:=Tryz.underlying3
theorem I33:type_of% Tryz.underlying4:=Tryz.underlying4
theorem I24:type_of% Tryz.underlying5:=Tryz.underlying5
theorem G00:type_of% Tryz.underlying28:=Tryz.underlying28
end Go.EQ
