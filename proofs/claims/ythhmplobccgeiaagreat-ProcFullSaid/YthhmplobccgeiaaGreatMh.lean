/- Processes: forks till there is no room; a fork that finds none changes nothing -/
import Derived.Test.YthhmplobccgeiaaGreatMg
import Derived.KernelRfl
import Derived.Test.YthhmplobccgeiaaGreatRows
set_option linter.unusedVariables false
set_option linter.unusedSimpArgs false
set_option linter.unusedSectionVars false
set_option maxRecDepth 10000
namespace Go.EQ
open Go Go.NN
theorem E01 (k:Nat) (S:KS) (A:KA):CtP A7 Ak1 [P0 k] [pt k (.cells B15 false (Dz5 S A))] (P0 A.s):=by
 refine CtP.of En0 rfl fun h r=>Tr.eq (En2 ..) ?_; (try simp only[Nr,Nl,Nat.reduceAdd,Nat.reduceMul,Int.reduceToNat])
 (repeat' first|refine Gu ?_|(with_reducible first|refine Gn fun b h=>?_|apply Gx|apply Gy|rintro px rfl|refine fun(h:H)=>?_|intro hb)|refine Gs ?_|refine Gt ?_|exact Gz rfl|fail)
theorem Hz1 (k:Nat) (S:KS) (N:Nat) (ok:KOk N S) (env:Int):Ct A7 Bl5 [P0 k,int env] [B8 k S] fun v own =>
  (A07 S.tabs env ≠ [] ∧ ∃ c,v = .tuple ⟨[P0 c,int 0]⟩ ∧ own [S8 c k env (A07 S.tabs env) [],B8 k S]) ∨ (A07 S.tabs env = [] ∧ v = .tuple ⟨[.pointer none,int 1]⟩ ∧ own [B8 k S]):=by
 refine Ct.of Gg6 rfl fun h r=>Tr.eq (Gh6 ..) ?_; (try simp only[Nr,Nl,Nat.reduceAdd,Nat.reduceMul,Int.reduceToNat])
 refine B1 (B8 k S) fun ⟨m,s,q,rg,ea,ec,ma,mc,ms,sa,sc,ss⟩=>?_; (try simp only[Nr,Nl,Nat.reduceAdd,Nat.reduceMul,Int.reduceToNat])
 (repeat' first|refine Gu ?_|(with_reducible first|refine Gn fun b h=>?_|rintro px rfl|refine fun(h:H)=>?_|intro hb)|refine Gs ?_|refine Gt ?_|exact Gz rfl|fail)
 refine Tr.bnd (Tr.condF rfl ?_)
 refine Tr.pcall (E01 k S ⟨m,s,q,rg,ea,ec,ma,mc,ms,sa,sc,ss⟩) ?_; (try simp only[Nr,Nl,Nat.reduceAdd,Nat.reduceMul,Int.reduceToNat]); (repeat' first|refine Gu ?_|(with_reducible first|refine Gn fun b h=>?_|apply Gx|apply Gy|rintro px rfl|refine fun(h:H)=>?_|intro hb)|refine Gs ?_|refine Gt ?_|exact Gz rfl|fail)
 try dsimp only
 refine Tr.xCall (E29 s S.tabs env ok.space) ?_; rintro _ h ⟨a0,c0,rfl,o⟩ <;> (refine (?_:Tr _ _ _ _) o; (try simp only[Nr,Nl,Nat.reduceAdd,Nat.reduceMul,Int.reduceToNat]))
 (repeat' first|refine Gu ?_|(with_reducible first|refine Gn fun b h=>?_|apply Gx|apply Gy|rintro px rfl|refine fun(h:H)=>?_|intro hb)|refine Gs ?_|refine Gt ?_|exact Gz rfl|fail)
 refine Tr.some fun o=>(?_:Tr _ _ _ _) o; (try simp only[Nr,Nl,Nat.reduceAdd,Nat.reduceMul,Int.reduceToNat])
 by_cases hz:A07 S.tabs env = []
 ·refine Tr.condT (by simp [hz]) ?_
  refine A9 (B8 k S) ⟨m,s,q,rg,ea,ec,ma,mc,ms,sa,sc,ss⟩ ?_; (try simp only[Nr,Nl,Nat.reduceAdd,Nat.reduceMul,Int.reduceToNat])
  refine Tr.some fun o=>?_
  exact .inr ⟨hz,rfl,o.sub⟩
 ·refine Tr.condF ?_ ?_
  ·rw [beq_eq_false_iff_ne]
   intro h0
   exact hz (List.eq_nil_of_length_eq_zero (by omega))
  refine Tr.pcall (E01 k S ⟨m,s,q,rg,ea,ec,ma,mc,ms,sa,sc,ss⟩) ?_; (try simp only[Nr,Nl,Nat.reduceAdd,Nat.reduceMul,Int.reduceToNat]); (repeat' first|refine Gu ?_|(with_reducible first|refine Gn fun b h=>?_|apply Gx|apply Gy|rintro px rfl|refine fun(h:H)=>?_|intro hb)|refine Gs ?_|refine Gt ?_|exact Gz rfl|fail)
  try dsimp only
  refine Tr.xCall (E29 s S.tabs env ok.space) ?_; rintro _ h ⟨a1,c1,rfl,o⟩ <;> (refine (?_:Tr _ _ _ _) o; (try simp only[Nr,Nl,Nat.reduceAdd,Nat.reduceMul,Int.reduceToNat]))
  (repeat' first|refine Gu ?_|(with_reducible first|apply Gx|apply Gy|rintro px rfl|refine fun(h:H)=>?_|intro hb)|refine Gs ?_|refine Gt ?_|exact Gz rfl|fail)
  refine Tr.nw fun mb h=>?_
  refine Tr.nw fun c h=>?_
  refine A9 (B8 k S) ⟨m,s,q,rg,ea,ec,ma,mc,ms,sa,sc,ss⟩ ?_; (try simp only[Nr,Nl,Nat.reduceAdd,Nat.reduceMul,Int.reduceToNat])
  refine D5 (S8 c k env (A07 S.tabs env) []) (a1,c1,mb) [1,2,1] rfl ?_; (try simp only[Nr,Nl,Nat.reduceAdd,Nat.reduceMul,Int.reduceToNat])
  refine Tr.some fun o=>?_
  exact .inl ⟨hz,c,rfl,o.sub⟩
def A29:PlanS:=⟨[false,false],[(0,1),(1,0)],5⟩
theorem Hr4:Ct A7 Bq9 [] [] fun v own=>∃ A,v = .agg ⟨Ek3 A29 A⟩ ∧ own (Da0 A29 A):=by
 refine Ct.of Gm9 rfl fun h r=>Tr.eq (Gk0 ..) ?_; (try simp only[Nr,Nl,Nat.reduceAdd,Nat.reduceMul,Int.reduceToNat])
 (repeat' first|refine Gu ?_|(with_reducible first|apply Gx|apply Gy|rintro px rfl|refine fun(h:H)=>?_|intro hb)|refine Gs ?_|refine Gt ?_|exact Gz rfl|fail)
 refine Tr.nw fun b h=>?_
 refine Tr.nw fun b1 h=>?_
 refine Tr.nw fun b2 h=>?_
 (repeat' first|refine Gu ?_|(with_reducible first|refine Gn fun b h=>?_|apply Gx|apply Gy|rintro px rfl|refine fun(h:H)=>?_|intro hb)|refine Gs ?_|refine Gt ?_|exact Gz rfl|fail)
 refine Af9 0 rfl 2 2 rfl (by omega) ?_
 refine Af9 1 rfl 1 2 rfl (by omega) ?_
 (try simp only[Nr,Nl,Nat.reduceAdd,Nat.reduceMul,Int.reduceToNat])
 refine Tr.some fun o=>?_
 exact ⟨⟨some ⟨b1,0,none⟩,2,some ⟨b2,0,none⟩,2⟩,rfl,(show Own h (slC false Bu4 2 (some ⟨b2,0,none⟩) A29.brs.length 2 (A29.brs.flatMap brL) :: slC false E21 1 (some ⟨b1,0,none⟩) A29.bad.length 2 (A29.bad.map Value.bool) :: _) from o).sub⟩
def Ae4:BootS:=Eg5 A29
theorem Gq0:Bj5 Ae4 = true:=by kernel_rfl
theorem Ep0:Small Ae4:=by
 have e:Ae4 = ⟨[20,20],[0,0,0,0,0,0,0,0,0,1,1,1,1,1,1,1,1,1],[[0],[1]],5,[⟨0,0,0,492,[0]⟩,⟨1,0,0,492,[1]⟩,⟨0,8,0,40,[0,1]⟩,⟨1,9,0,40,[1,0]⟩]⟩:=by kernel_rfl
 rw [e]
 exact ⟨by simp [A8],by simp [A8],by simp [A8]⟩
theorem Bn6:Ae4 = ⟨[20,20],[0,0,0,0,0,0,0,0,0,1,1,1,1,1,1,1,1,1],[[0],[1]],5,[⟨0,0,0,492,[0]⟩,⟨1,0,0,492,[1]⟩,⟨0,8,0,40,[0,1]⟩,⟨1,9,0,40,[1,0]⟩]⟩:=by kernel_rfl
theorem Hx9:RBoot Ae4 (Ag1 Ae4.frames):=by
 rw [Bn6]
 refine ⟨by simp,by simp,by simp,fun x hx=>?_,fun x hx=>?_⟩
 ·simp only [List.mem_cons,List.not_mem_nil,or_false] at hx
  rcases hx with rfl | rfl | rfl | rfl <;> simp [A8]
 ·simp only [List.mem_cons,List.not_mem_nil,or_false] at hx
  rcases hx with rfl | rfl | rfl | rfl <;> simp [Ag1]
def S00:KS:=Dq8 Ae4
theorem Gr9:KOk 0 S00:=Hw8 Gq0 Ep0
def wrS (S:KS) (cap:Int) (b:List UInt8):KS:=(V5 S 0 ⟨2,cap,0,0,0,0,b⟩).2
def S0:KS:=wrS S00 256 Z1
theorem H52:(V5 S00 0 ⟨2,256,0,0,0,0,Z1⟩).1.1 = 0:=by kernel_rfl
theorem Hu0:A07 S00.tabs 0 = [256,257,258]:=by kernel_rfl
def wrR (K:RKS) (cap:Int) (b:List UInt8):RKS:={ K with R:=(Ae7 K.R 0 cap 0 b).2 }
def K0:RKS:=wrR (B64 Ae4) 256 Z1
end Go.EQ

set_option maxRecDepth 10000
namespace Go.EQ
open Go Go.NN
theorem Dv4:RKOk (B64 Ae4) ∧ (B64 Ae4).B = Ae4:=Hy4 (by rw [Bn6]; simp) (by rw [Bn6]; simp)
theorem E06 {K:RKS} (k:RKOk K) (cap:Int) (b:List UInt8):RKOk (wrR K cap b):=Hv8 k 0 cap 0 b
theorem Hs5:Bq4 K0 0 ≠ []:=by
 have:Bq4 K0 0 = [256,257,258]:=by kernel_rfl
 rw [this]; simp
theorem Y7:Z1.length = 492:=by kernel_rfl
theorem Dh0 {l:List HP} {h:H} {α:Type} {Q:α → H → Prop} {x:Option (α × H)} (i:Nat) {b n:Nat} {cs:List Value} (hi:l[i]? = some (pt b (.cells A3 false cs))) (hn:cs.length = n) (t:Tr (l.set i (slC false A3 1 (some (I5 b)) n n cs)) h x Q):Tr l h x Q:=fun o=>by
 refine t (Own.back (h:=h) hi ?_)
 have o1:=o.front hi
 refine Own.slShut (pre:=[]) (post:=[]) (by simpa using o1) ⟨by omega,Nat.le_refl _,by simp,by simp,by simp,by omega,by simp⟩
theorem Hv0 (A:PlA):Ct A7 Bc7 [.agg ⟨Ek3 A29 A⟩] (Da0 A29 A) fun v own =>
  ∃ k c w m,v = .tuple ⟨[P0 k,P0 c,P0 w,P0 m]⟩ ∧ own [B8 k S0,S8 c k 0 [256,257,258] [],rkC w K0,rcC m w 0 (Bq4 K0 0) []]:=by
 have hB:Eg5 A29 = Ae4:=rfl
 obtain ⟨ba,bc,ra,rc⟩:=A
 refine Ct.of Gt5 rfl fun h r=>Tr.eq (Gj0 ..) ?_; (try simp only[Nr,Nl,Nat.reduceAdd,Nat.reduceMul,Int.reduceToNat])
 refine Tr.nw fun b0 h=>?_
 (repeat' first|refine Gu ?_|(with_reducible first|refine Gn fun b h=>?_|apply Gx|apply Gy|rintro px rfl|refine fun(h:H)=>?_|intro hb)|refine Gs ?_|refine Gt ?_|exact Gz rfl|fail)
 refine Tr.xCall (Hx4 A29 ⟨ba,bc,ra,rc⟩ (by simp [A29]) (by simp [A29])) ?_; rintro _ h ⟨A,kA,rfl,o⟩ <;> (refine (?_:Tr _ _ _ _) o; (try simp only[Nr,Nl,Nat.reduceAdd,Nat.reduceMul,Int.reduceToNat]))
 rw [hB] at kA ⊢
 obtain ⟨fa,fc,ea,ec,sa,sc,ss,ha,hc,hs⟩:=A
 (repeat' first|refine Gu ?_|(with_reducible first|apply Gx|apply Gy|rintro px rfl|refine fun(h:H)=>?_|intro hb)|refine Gs ?_|refine Gt ?_|exact Gz rfl|fail)
 refine Tr.nw fun b1 h=>?_
 (repeat' first|refine Gu ?_|(with_reducible first|refine Gn fun b h=>?_|apply Gx|apply Gy|rintro px rfl|refine fun(h:H)=>?_|intro hb)|refine Gs ?_|refine Gt ?_|exact Gz rfl|fail)
 have J:=H01 false Ae4 ⟨fa,fc,ea,ec,sa,sc,ss,ha,hc,hs⟩ kA Ep0
 simp only [Gq0,if_true] at J
 refine Tr.xCall (J) ?_; rintro _ h ⟨k,rfl,o⟩ <;> (refine (?_:Tr _ _ _ _) o; (try simp only[Nr,Nl,Nat.reduceAdd,Nat.reduceMul,Int.reduceToNat]))
 (repeat' first|refine Gu ?_|(with_reducible first|refine Gn fun b h=>?_|rintro px rfl|refine fun(h:H)=>?_|intro hb)|refine Gs ?_|refine Gt ?_|exact Gz rfl|fail)
 refine Tr.bnd (Tr.condF rfl ?_)
 refine Tr.some fun o=>(?_:Tr _ _ _ _) o; (try simp only[Nr,Nl,Nat.reduceAdd,Nat.reduceMul,Int.reduceToNat])
 refine Tr.condF rfl ?_
 (repeat' first|refine Gu ?_|(with_reducible first|refine Gn fun b h=>?_|apply Gx|apply Gy|rintro px rfl|refine fun(h:H)=>?_|intro hb)|refine Gs ?_|refine Gt ?_|exact Gz rfl|fail)
 refine Tr.xCall (G00 Ae4 ⟨fa,fc,ea,ec,sa,sc,ss,ha,hc,hs⟩ kA (by rw [Bn6]; simp) Hx9) ?_; rintro _ h ⟨w,rfl,o⟩ <;> (refine (?_:Tr _ _ _ _) o; (try simp only[Nr,Nl,Nat.reduceAdd,Nat.reduceMul,Int.reduceToNat]))
 (repeat' first|refine Gu ?_|(with_reducible first|refine Gn fun b h=>?_|apply Gx|apply Gy|rintro px rfl|refine fun(h:H)=>?_|intro hb)|refine Gs ?_|refine Gt ?_|exact Gz rfl|fail)
 refine Tr.xCall (Hz1 k (Dq8 Ae4) 0 Gr9 0) ?_
 rintro v h (⟨hz,c,rfl,o⟩ | ⟨hz,rfl,o⟩)
 case inr=>exact absurd hz (by rw [show Dq8 Ae4 = S00 from rfl,Hu0]; simp)
 rw [show Dq8 Ae4 = S00 from rfl,Hu0] at o
 refine (?_:Tr _ _ _ _) o
 (try simp only[Nr,Nl,Nat.reduceAdd,Nat.reduceMul,Int.reduceToNat])
 (repeat' first|refine Gu ?_|(with_reducible first|refine Gn fun b h=>?_|rintro px rfl|refine fun(h:H)=>?_|intro hb)|refine Gs ?_|refine Gt ?_|exact Gz rfl|fail)
 refine Tr.bnd (Tr.condF rfl ?_)
 refine Tr.some fun o=>(?_:Tr _ _ _ _) o; (try simp only[Nr,Nl,Nat.reduceAdd,Nat.reduceMul,Int.reduceToNat])
 refine Tr.condF rfl ?_
 refine Tr.xCall (Gd5) ?_; rintro _ h ⟨rfl,o⟩ <;> (refine (?_:Tr _ _ _ _) o; (try simp only[Nr,Nl,Nat.reduceAdd,Nat.reduceMul,Int.reduceToNat]))
 (repeat' first|refine Gu ?_|(with_reducible first|apply Gx|apply Gy|rintro px rfl|refine fun(h:H)=>?_|intro hb)|refine Gs ?_|refine Gt ?_|exact Gz rfl|fail)
 refine Tr.ck (by rw [A02,Y7]; simp [A8]) ?_
 rw [A02,Y7]
 refine Tr.nw fun b2 h=>?_
 refine Dh0 (n:=492) 0 rfl (by rw [Q1,show (bs Z1).data.toList = Z1 from rfl,Y7]) ?_
 (try simp only[Nr,Nl,Nat.reduceAdd,Nat.reduceMul,Int.reduceToNat])
 have J2:=Dt8 k S00 0 Gr9 (by omega) 0 ⟨2,256,0,0,0,0,Z1⟩ (some (I5 b2)) 492 false (show ((2:Int) ≠ 5) by decide)
 simp only [Y7] at J2
 refine Bm5 J2 [2,0] rfl ?_
 rintro _ h ⟨y,d,rfl,o⟩
 rw [H52]
 rw [show (V5 S00 0 ⟨2,256,0,0,0,0,Z1⟩).2 = S0 from rfl] at o
 refine (?_:Tr _ _ _ _) o
 (try simp only[Nr,Nl,Nat.reduceAdd,Nat.reduceMul,Int.reduceToNat])
 (repeat' first|refine Gu ?_|(with_reducible first|apply Gx|apply Gy|rintro px rfl|refine fun(h:H)=>?_|intro hb)|refine Gs ?_|refine Gt ?_|exact Gz rfl|fail)
 refine Tr.condF rfl ?_
 refine Tr.ck (by simp [A8]) ?_
 refine Tr.nw fun b3 h=>?_
 refine Dh0 (n:=492) 0 rfl (by rw [Q1,Y7]) ?_
 (try simp only[Nr,Nl,Nat.reduceAdd,Nat.reduceMul,Int.reduceToNat])
 have J3:=Ej9 w (B64 Ae4) Dv4.1 0 (by rw [Dv4.2,Bn6]; simp) ⟨2,256,0,0,0,0,Z1⟩ rfl (by rw [Y7]; simp [A8]) (slC false A3 1 (some (I5 b3)) Z1.length 492 (A0 Z1)) (some (I5 b3)) 492 false
 simp only [Y7] at J3
 refine Tr.xCall J3 ?_
 rintro _ h ⟨rfl,o⟩
 rw [show ({ B64 Ae4 with R:=(Ae7 (B64 Ae4).R ((0:Nat):Int) 256 0 Z1).2 }:RKS) = K0 from rfl] at o
 refine (?_:Tr _ _ _ _) o
 (try simp only[Nr,Nl,Nat.reduceAdd,Nat.reduceMul,Int.reduceToNat])
 (repeat' first|refine Gu ?_|(with_reducible first|refine Gn fun b h=>?_|apply Gx|apply Gy|rintro px rfl|refine fun(h:H)=>?_|intro hb)|refine Gs ?_|refine Gt ?_|exact Gz rfl|fail)
 refine Tr.xCall (E77 w K0 (E06 Dv4.1 256 Z1) 0 (by show (0:Nat) < (B64 Ae4).B.envs.length; rw [Dv4.2,Bn6]; simp)) ?_
 rintro v h (⟨_,m,rfl,o⟩ | ⟨hn,rfl,o⟩)
 case inr=>exact absurd hn Hs5
 refine (?_:Tr _ _ _ _) o
 (try simp only[Nr,Nl,Nat.reduceAdd,Nat.reduceMul,Int.reduceToNat])
 (repeat' first|refine Gu ?_|(with_reducible first|refine Gn fun b h=>?_|apply Gx|apply Gy|rintro px rfl|refine fun(h:H)=>?_|intro hb)|refine Gs ?_|refine Gt ?_|exact Gz rfl|fail)
 refine Tr.some fun o=>?_
 exact ⟨k,c,w,m,rfl,o.sub⟩
end Go.EQ

set_option maxRecDepth 10000
namespace Go.EQ
open Go Go.NN
def Br2 (mem:List UInt8) (rg:Rg):List (List UInt8):=rg.map fun p=>slice mem p.1 p.2
theorem Gp8 {mem:List UInt8} {rg:Rg} {j lo n:Nat} (h:rg[j]? = some (lo,n)):(Br2 mem rg)[j]? = some (slice mem lo n):=by unfold Br2; rw [List.getElem?_map,h]; rfl
theorem Gj7 {mem:List UInt8} {rg:Rg} (h:∀ (j lo n:Nat),rg[j]? = some (lo,n) → lo + n ≤ mem.length):Fit mem.length rg (Br2 mem rg):=⟨by simp [Br2],fun j lo n hj=>⟨h j lo n hj,slice mem lo n,Gp8 hj,Ef7 (h j lo n hj)⟩⟩
theorem Hp6 {mem:List UInt8} {rg:Rg} (k:RgOk rg) (h:∀ (j lo n:Nat),rg[j]? = some (lo,n) → lo + n ≤ mem.length):Ap0 mem rg (Br2 mem rg) = mem:=by
 have f:=Gj7 h
 refine List.ext_getElem? fun i=>?_
 by_cases ho:∃ (j lo n:Nat),rg[j]? = some (lo,n) ∧ lo ≤ i ∧ i < lo + n
 ·obtain ⟨j,lo,n,hj,h1,h2⟩:=ho
  obtain ⟨i',rfl⟩:∃ i',i = lo + i':=⟨i - lo,by omega⟩
  rw [Bz6 f k j lo n _ hj (Gp8 hj) i' (by omega),Bq0,if_pos (by omega)]
 ·exact Dg7 f i fun j lo n hj=>by
   by_cases hh:lo ≤ i ∧ i < lo + n
   ·exact absurd ⟨j,lo,n,hj,hh.1,hh.2⟩ ho
   ·omega
theorem FrOk.room {F:Fr} {j lo n:Nat} (f:Fit F.S.mem.length F.rg (Br2 F.S.mem F.rg)) (h:F.rg[j]? = some (lo,n)):lo + n ≤ F.S.mem.length:=(f.each j lo n h).1
theorem Fr.at_cut {F:Fr} (k:FrOk F) (h:∀ (j lo n:Nat),F.rg[j]? = some (lo,n) → lo + n ≤ F.S.mem.length):F.at (Br2 F.S.mem F.rg) = F.S:=by
 unfold Fr.at; rw [Hp6 k.dj h]; rfl
theorem Own.cmTake {r:List HP} {h:H} (c k:Nat) (F:Fr) (bad:List RecS) (ok:FrOk F) (hr:∀ (j lo n:Nat),F.rg[j]? = some (lo,n) → lo + n ≤ F.S.mem.length) (o1:Own h (B8 k F.S :: S8 c k F.env F.caps bad :: r)):Own h (cmC c k F ⟨Br2 F.S.mem F.rg,bad⟩ :: r):=by
 refine Own.inex (f:=fun u:Unit=>sl (cmF c k F ⟨Br2 F.S.mem F.rg,bad⟩)) () (Own.group (l:=cmF c k F ⟨Br2 F.S.mem F.rg,bad⟩) ?_)
 show Own h (B8 k (F.at (Br2 F.S.mem F.rg)) :: S8 c k F.env F.caps bad :: pu _ :: r)
 rw [Fr.at_cut ok hr]
 have o2:=Own.inpure (show Fit F.S.mem.length F.rg (Br2 F.S.mem F.rg) from Gj7 hr) o1
 exact o2.picks [1,1,0] rfl
theorem Hz7 {l r:List HP} {h:H} {α:Type} {Q:α → H → Prop} {x:Option (α × H)} (c k:Nat) (F:Fr) (X:CX) [tk:Take (cmC c k F X) l r]
  (t:Fit F.S.mem.length F.rg X.m → Tr (B8 k (F.at X.m) :: S8 c k F.env F.caps X.bad :: r) h x Q):Tr l h x Q:=fun o=>by
 have o1:Own h (cmC c k F X :: r):=o.perm tk.pm
 obtain ⟨u,o2⟩:=Own.ex (f:=fun u:Unit=>sl (cmF c k F X)) o1
 have o3:Own h (B8 k (F.at X.m) :: S8 c k F.env F.caps X.bad :: pu (Fit F.S.mem.length F.rg X.m) :: r):=Own.join o2
 have f:=(o3.front (i:=2) rfl).pure
 exact t f (o3.front (i:=2) rfl).tail
theorem Hb6 {S:KS} {env cap obj:Int} {lo n:Nat} {e1 e2:Int} (hg:Bl1 S.tabs env cap = some ⟨obj,3,0,(n:Int),e1,e2⟩) (h0:0 ≤ obj) (hr:S.regs[obj.toNat]? = some ((lo:Int),(n:Int))) (hl:lo + n ≤ 65536) :
  ∀ (a m:Nat) (right:Int),right = 1 ∨ right = 2 → a + m ≤ n → N9 S.tabs S.regs env cap right a m = (((lo + a:Nat):Int),0):=by
 intro a m right hri ha
 have hlt:=(List.getElem?_eq_some_iff.1 hr).1
 unfold N9
 rw [hg]
 have b1:(O4 .i64 3 1 == 0) = false:=by kernel_rfl
 have b2:(O4 .i64 3 2 == 0) = false:=by kernel_rfl
 have hb:¬ ((O4 .i64 3 right == 0) = true):=by rcases hri with rfl | rfl <;> simp [b1,b2]
 simp only
 have h2:(decide ((a:Int) < 0) || decide ((m:Int) < 0) || decide ((a:Int) > (n:Int)) || decide ((m:Int) > IntKind.wrap .i64 ((n:Int) - a)) || decide (obj < 0) || decide (obj ≥ S.regs.length)) = false:=by
  simp only [Bool.or_eq_false_iff,decide_eq_false_iff_not,A6]; omega
 have h3:(decide (IntKind.wrap .i64 (0 + (a:Int)) > (n:Int)) || decide ((m:Int) > IntKind.wrap .i64 (IntKind.wrap .i64 ((n:Int) - 0) - a))) = false:=by
  simp only [Bool.or_eq_false_iff,decide_eq_false_iff_not,A6]; omega
 have h4:IntKind.wrap .i64 (IntKind.wrap .i64 ((lo:Int) + 0) + a) = ((lo + a:Nat):Int):=by simp only [A6]; omega
 rw [if_neg hb]
 simp only [h2,hr,h3,h4,Bool.false_eq_true,if_false]
structure Like (S:KS):Prop where
 ok:KOk 0 S
 tabs:S.tabs = S00.tabs
 regs:S.regs = S00.regs
 envs:S.envs = S00.envs
 mem:S.mem.length = 2560
theorem D31 {S:KS} (k:Like S) {m:List UInt8} (h:m.length = 2560):Like (Bk5 S m) :=
 ⟨⟨k.ok.envs,k.ok.tabs,k.ok.space,k.ok.quota,by show m.length ≤ 65536; omega,k.ok.regs,k.ok.may,k.ok.mayl,k.ok.nsect,k.ok.sects,k.ok.now⟩,k.tabs,k.regs,k.envs,h⟩
theorem H28:Like S00:=⟨Gr9,rfl,rfl,rfl,by kernel_rfl⟩
theorem Hw7 (S:KS) (k:Like S) (cap:Int) (b:List UInt8):Like (wrS S cap b):=by
 unfold wrS V5
 split
 ·exact k
 ·exact D31 k (by rw [Hc8]; exact k.mem)
theorem Dm3:Like S0:=Hw7 S00 H28 256 Z1
def rgP (s:Nat):Rg:=[(1280 * s,492),(512,40),(1856,40)]
def frP (S:KS) (s:Nat) (env:Int):Fr:=⟨S,0,env,[256,257,258],rgP s⟩
theorem E08:S00.regs = [(0,492),(1280,492),(512,40),(1856,40)]:=by kernel_rfl
theorem H31:S00.envs.length = 18:=by kernel_rfl
structure EnvP (s:Nat) (env:Int):Prop where
 hs:s < 2
 he:0 ≤ env ∧ env < 18
 a:Bl1 S00.tabs env 256 = some ⟨s,3,0,492,0,0⟩
 b:Bl1 S00.tabs env 257 = some ⟨2,3,0,40,0,0⟩
 c:Bl1 S00.tabs env 258 = some ⟨3,3,0,40,0,0⟩
theorem E67:EnvP 0 0:=⟨by omega,by omega,by kernel_rfl,by kernel_rfl,by kernel_rfl⟩
theorem Dt4 {s j lo n:Nat} (h:(rgP s)[j]? = some (lo,n)):(j = 0 ∧ lo = 1280 * s ∧ n = 492) ∨ (j = 1 ∧ lo = 512 ∧ n = 40) ∨ (j = 2 ∧ lo = 1856 ∧ n = 40):=by
 unfold rgP at h
 match j,h with
 | 0,h=>simp at h; omega
 | 1,h=>simp at h; omega
 | 2,h=>simp at h; omega
 | j + 3,h=>simp at h
theorem Dx9 {S:KS} (k:Like S) {s:Nat} (hs:s < 2) (env:Int):∀ (j lo n:Nat),(frP S s env).rg[j]? = some (lo,n) → lo + n ≤ (frP S s env).S.mem.length:=by
 intro j lo n h
 have hm:=k.mem
 have:=Dt4 h
 show lo + n ≤ S.mem.length
 omega
theorem E15 {S:KS} (k:Like S) {s:Nat} {env:Int} (e:EnvP s env):FrOk (frP S s env):=by
 have hs:=e.hs; have he:=e.he
 refine ⟨k.ok,by simp [frP],by simp [frP],by simp [frP],by simp [frP,rgP],?_,?_,?_,⟨1280 * s,rfl⟩,?_⟩
 ·show ¬ (env < 0 ∨ env ≥ (S.envs.length:Int))
  rw [k.envs,H31]; omega
 ·intro j cap lo n hc hr
  show ∀ (a m:Nat) (right:Int),right = 1 ∨ right = 2 → a + m ≤ n → N9 S.tabs S.regs env cap right a m = _
  have hg:=Dt4 hr
  rcases hg with ⟨rfl,rfl,rfl⟩ | ⟨rfl,rfl,rfl⟩ | ⟨rfl,rfl,rfl⟩
  ·cases hc
   refine Hb6 (obj:=s) (e1:=0) (e2:=0) (by rw [k.tabs]; exact e.a) (by omega) ?_ (by omega)
   rw [k.regs,E08,Int.toNat_natCast]
   match s,hs with
   | 0,_=>rfl
   | 1,_=>rfl
  ·cases hc
   exact Hb6 (obj:=2) (e1:=0) (e2:=0) (by rw [k.tabs]; exact e.b) (by omega) (by rw [k.regs,E08]; rfl) (by omega)
  ·cases hc
   exact Hb6 (obj:=3) (e1:=0) (e2:=0) (by rw [k.tabs]; exact e.c) (by omega) (by rw [k.regs,E08]; rfl) (by omega)
 ·intro i j lo n lo' n' hij hi hj
  have h1:=Dt4 hi; have h2:=Dt4 hj
  omega
 ·intro j lo n h0 h
  have:=Dt4 h; omega
end Go.EQ

set_option maxRecDepth 10000
namespace Go.EQ
open Go Go.NN
end Go.EQ

set_option maxRecDepth 10000
namespace Go.EQ
open Go Go.NN
abbrev F0:Fr:=frP S0 0 0
def X0:CX:=⟨Br2 S0.mem (rgP 0),[]⟩
theorem Ht3:FrOk F0:=E15 Dm3 E67
theorem Hq5 (A:PlA):Ct A7 Bc7 [.agg ⟨Ek3 A29 A⟩] (Da0 A29 A) fun v own =>
  ∃ k c w m,v = .tuple ⟨[P0 k,P0 c,P0 w,P0 m]⟩ ∧ own [cmC c k F0 X0,rkC w K0,rcC m w 0 (Bq4 K0 0) []]:=by
 intro h r o
 obtain ⟨v,h',e,k,c,w,m,hv,o2⟩:=Hv0 A h r o
 refine ⟨v,h',e,k,c,w,m,hv,?_⟩
 exact Own.cmTake c k F0 [] Ht3 (Dx9 Dm3 (by omega) 0) o2
end Go.EQ

set_option maxRecDepth 10000
namespace Go.EQ
open Go Go.NN
theorem H43 {y m:Int} (h:0 ≤ y):Int.tmod y m = y % m:=Int.tmod_eq_emod_of_nonneg h
end Go.EQ

set_option maxRecDepth 10000
namespace Go.EQ
open Go Go.NN
theorem Ai0 {x:Int} (h:0 ≤ x ∧ x < 256):((b8 x).toNat:Int) = x:=by rw [← Bc3,Dc2]; omega
theorem Ev0 {l b:List UInt8} {a c n:Nat} (h:a + b.length ≤ l.length) (hd:c + n ≤ a ∨ a + b.length ≤ c):slice (I4 l a b) c n = slice l c n:=by
 refine List.ext_getElem? fun i=>?_
 rw [Bq0,Bq0]
 split
 ·rw [Bf1 h,if_neg (by omega)]
 ·rfl
theorem E30 {l b:List UInt8} {a:Nat} (h:a + b.length ≤ l.length):slice (I4 l a b) a b.length = b:=by
 refine List.ext_getElem? fun i=>?_
 rw [Bq0]
 split
 ·rw [Bf1 h,if_pos (by omega)]; congr 1; omega
 ·rw [List.getElem?_eq_none (by omega)]
abbrev Ht9:List Int:=[256,257,258]
end Go.EQ

set_option maxRecDepth 10000
namespace Go.EQ
open Go Go.NN
structure InS (p:ProcS):Prop where
 a:0 ≤ p.pending ∧ p.pending ≤ 65535
 b:0 ≤ p.mask ∧ p.mask ≤ 65535
 c:0 ≤ p.ignored ∧ p.ignored ≤ 65535
 d:0 ≤ p.caught ∧ p.caught ≤ 65535
theorem Gj9 {p:ProcS} (h:okS p = true) (r:InS p):W9 (As0 p) = (p,1):=by
 have hk:=h
 obtain ⟨ra,rb,rc,rd⟩:=r
 have e:A85 (As0 p) = p:=by
  obtain ⟨st,pa,gr,co,pe,ma,ig,ca,fds,hl⟩:=p
  simp only at ra rb rc rd
  unfold okS at h
  simp only [Bool.and_eq_true,Bool.not_eq_true',Bool.or_eq_false_iff,decide_eq_false_iff_not,List.any_eq_false] at h
  match fds,hl with
  | [f0,f1,f2,f3,f4,f5,f6,f7],hl =>
   have hf:=h.2.2.1
   simp at hf
   have two_b:∀ n:Int,0 ≤ n ∧ n ≤ 65535 → ((hi2 n).toNat:Int) * 256 + ((lo2 n).toNat:Int) = n:=fun n hn=>by
    unfold hi2 lo2
    rw [if_pos hn,if_pos hn,Ai0 (by omega),← Bc3,Dc2]; omega
   have g0:=h.1
   simp only [A85,As0,Dz6,two]
   simp
   refine ⟨Ai0 (by omega),Ai0 (by omega),Ai0 (by omega),Ai0 (by omega),two_b _ ra,two_b _ rb,two_b _ rc,two_b _ rd,Ai0 (by omega),Ai0 (by omega),Ai0 (by omega),Ai0 (by omega),Ai0 (by omega),Ai0 (by omega),Ai0 (by omega),Ai0 (by omega)⟩
 have hz:(As0 p).all (· == 0) = false:=by
  simp [As0,Dz6]
 unfold W9 isS
 rw [hz,e,hk]
 simp
theorem H06:D02 0 0 = true:=by kernel_rfl
end Go.EQ

set_option maxRecDepth 10000
namespace Go.EQ
open Go Go.NN
end Go.EQ

set_option maxRecDepth 10000
namespace Go.EQ
open Go Go.NN
end Go.EQ

set_option maxRecDepth 10000
namespace Go.EQ
open Go Go.NN
end Go.EQ

set_option maxRecDepth 10000
namespace Go.EQ
open Go Go.NN
def stR (kind:Int) (l:List UInt8):Int:=if kind = 1 then (W9 l).2 else if kind = 2 then (Ae0 l).2 else if kind = 5 then (Ap6 l).2 else (Af1 l).2
def rd (X:CX) (r:RecS):List UInt8 :=
 match G5 X.m.length r with
 | some (j,a,n)=>slice (X.m.getD j []) a n
 | none=>[]
structure Clean (nc:Nat) (X:CX):Prop where
 len:X.m.length = nc
 pos:0 < nc
 bad:X.bad = []
 own:(X.m.getD 0 []).length = 492
 brs:∀ j,0 < j → j < nc → (X.m.getD j []).length = 40
 ok:∀ r:RecS,1 ≤ r.kind → r.kind ≤ 5 → 0 ≤ r.index → r.index < W2 nc r.kind → stR r.kind (rd X r) ≠ 2
structure Rin (nc:Nat) (r:RecS):Prop where
 a:1 ≤ r.kind
 b:r.kind ≤ 5
 c:0 ≤ r.index
 d:r.index < W2 nc r.kind
theorem Rin.place {nc:Nat} {r:RecS} (h:Rin nc r) (hn:0 < nc):∃ j a,G5 nc r = some (j,a,Q8 r.kind) ∧ j < nc ∧ (j = 0 → a + Q8 r.kind ≤ 492) ∧ (0 < j → a = 0 ∧ Q8 r.kind = 40):=by
 obtain ⟨h1,h2,h3,h4⟩:=h
 obtain ⟨k,i⟩:=r
 simp only at h1 h2 h3 h4
 have hk:k = 1 ∨ k = 2 ∨ k = 3 ∨ k = 4 ∨ k = 5:=by omega
 unfold G5 Q8
 simp only
 rw [if_neg (by omega)]
 rcases hk with rfl | rfl | rfl | rfl | rfl
 ·exact ⟨0,_,rfl,hn,fun _=>by simp [W2] at h4 ⊢; omega,fun h=>by omega⟩
 ·exact ⟨0,_,rfl,hn,fun _=>by simp [W2] at h4 ⊢; omega,fun h=>by omega⟩
 ·simp only [W2] at h4
  by_cases h5:i < 4
  ·exact ⟨0,_,by simp [h5]; rfl,hn,fun _=>by simp; omega,fun h=>by omega⟩
  ·exact ⟨i.toNat - 3,0,by simp [h5],by simp at h4; omega,fun h=>by omega,fun _=>⟨rfl,rfl⟩⟩
 ·exact ⟨0,_,rfl,hn,fun _=>by simp,fun h=>by omega⟩
 ·exact ⟨0,_,rfl,hn,fun _=>by simp,fun h=>by omega⟩
theorem Hr3 {nc:Nat} {r r':RecS} (h:Rin nc r) (h':Rin nc r') (ne:r ≠ r') {j a n j' a' n':Nat} (e:G5 nc r = some (j,a,n)) (e':G5 nc r' = some (j',a',n')):j ≠ j' ∨ a + n ≤ a' ∨ a' + n' ≤ a:=by
 obtain ⟨h1,h2,h3,h4⟩:=h
 obtain ⟨g1,g2,g3,g4⟩:=h'
 obtain ⟨k,i⟩:=r
 obtain ⟨k',i'⟩:=r'
 simp only at h1 h2 h3 h4 g1 g2 g3 g4
 have ne':k ≠ k' ∨ i ≠ i':=by
  by_cases hk:k = k'
  ·right; intro hi; exact ne (by rw [hk,hi])
  ·exact .inl hk
 unfold G5 at e e'
 simp only at e e'
 rw [if_neg (by omega)] at e e'
 unfold W2 at h4 g4
 have hk:k = 1 ∨ k = 2 ∨ k = 3 ∨ k = 4 ∨ k = 5:=by omega
 have hk':k' = 1 ∨ k' = 2 ∨ k' = 3 ∨ k' = 4 ∨ k' = 5:=by omega
 have fin:∀ {x y:Nat × Nat × Nat},some x = some y → x = y:=fun h=>by cases h; rfl
 rcases hk with rfl | rfl | rfl | rfl | rfl <;> rcases hk' with rfl | rfl | rfl | rfl | rfl <;> simp at e e' h4 g4 ne' <;> (try split at e) <;> (try split at e') <;> (try simp at e e') <;> omega
def B79 (X:CX) (r:RecS) (b:List UInt8):CX :=
 match G5 X.m.length r with
 | some (j,a,_)=>{ X with m:=X.m.set j (I4 (X.m.getD j []) a b) }
 | none=>X
theorem Er4 (l:List (List UInt8)) (j j':Nat) (x:List UInt8) (h:j < l.length):(l.set j x).getD j' [] = if j' = j then x else l.getD j' []:=by
 rw [List.getD_eq_getElem?_getD,List.getD_eq_getElem?_getD,List.getElem?_set]
 by_cases hj:j = j'
 ·subst hj; simp [h]
 ·rw [if_neg hj,if_neg (fun e=>hj e.symm)]
section
variable {nc:Nat} {X:CX} (c:Clean nc X) {r r':RecS} (h:Rin nc r) (h':Rin nc r')
include c h
theorem Hf2:rdX X r = some (rd X r):=by
 obtain ⟨j,a,e,_⟩:=h.place c.pos
 unfold rdX rd
 rw [c.len,e]
 simp [c.bad]
theorem Eh1 (b:List UInt8):wrX X r b true = (true,B79 X r b):=by
 obtain ⟨j,a,e,_⟩:=h.place c.pos
 unfold wrX B79
 rw [c.len,e]
 simp [c.bad]
theorem Ec0 {j a n:Nat} (e:G5 nc r = some (j,a,n)):a + n ≤ (X.m.getD j []).length ∧ j < X.m.length ∧ n = Q8 r.kind:=by
 obtain ⟨j',a',e',hj,h0,h1⟩:=h.place c.pos
 rw [e] at e'; cases e'
 rw [c.len]
 by_cases hz:j = 0
 ·subst hz; rw [c.own]; exact ⟨h0 rfl,hj,rfl⟩
 ·rw [c.brs j (by omega) hj]
  have:=h1 (by omega)
  exact ⟨by omega,hj,rfl⟩
include h'
theorem Bi5 {b:List UInt8} (hb:b.length = Q8 r.kind):rd (B79 X r b) r' = if r' = r then b else rd X r':=by
 obtain ⟨j,a,e,_⟩:=h.place c.pos
 obtain ⟨j',a',e',_⟩:=h'.place c.pos
 have p:=Ec0 c h e
 have p':=Ec0 c h' e'
 have es:B79 X r b = { X with m:=X.m.set j (I4 (X.m.getD j []) a b) }:=by unfold B79; rw [c.len,e]
 have el:(B79 X r b).m.length = nc:=by rw [es]; simp [c.len]
 unfold rd
 rw [el,e',c.len,e',es]
 simp only
 rw [Er4 _ _ _ _ p.2.1]
 by_cases hr:r' = r
 ·subst hr
  rw [e] at e'; cases e'
  rw [if_pos rfl,if_pos rfl]
  have:=E30 (l:=X.m.getD j []) (b:=b) (a:=a) (by omega)
  rwa [hb] at this
 ·rw [if_neg hr]
  by_cases hj:j' = j
  ·subst hj
   rw [if_pos rfl]
   have dj:=Hr3 h' h hr e' e
   exact Ev0 (by omega) (by omega)
  ·rw [if_neg hj]
end
theorem Ee1 {nc:Nat} {X:CX} (c:Clean nc X) {r:RecS} (h:Rin nc r) {b:List UInt8} (hb:b.length = Q8 r.kind) (hs:stR r.kind b ≠ 2):Clean nc (B79 X r b):=by
 obtain ⟨j,a,e,_⟩:=h.place c.pos
 have p:=Ec0 c h e
 have es:B79 X r b = { X with m:=X.m.set j (I4 (X.m.getD j []) a b) }:=by unfold B79; rw [c.len,e]
 refine ⟨by rw [es]; simp [c.len],c.pos,by rw [es]; exact c.bad,?_,?_,?_⟩
 ·rw [es]; simp only
  rw [Er4 _ _ _ _ p.2.1]
  split
  ·rename_i h0; subst h0; rw [Ac7 (by omega)]; exact c.own
  ·exact c.own
 ·intro i h0 h1
  rw [es]; simp only
  rw [Er4 _ _ _ _ p.2.1]
  split
  ·rename_i h2; subst h2; rw [Ac7 (by omega)]; exact c.brs i h0 h1
  ·exact c.brs i h0 h1
 ·intro r' h1 h2 h3 h4
  rw [Bi5 c h ⟨h1,h2,h3,h4⟩ hb]
  split
  ·rename_i hr; rw [hr]; exact hs
  ·exact c.ok r' h1 h2 h3 h4
theorem B40 {α:Type} (dec:List UInt8 → α × Int) (z:α) {nc:Nat} {X:CX} (c:Clean nc X) {r:RecS} (h:Rin nc r) (hd:(dec (rd X r)).2 = stR r.kind (rd X r)):S6 dec z X r = (dec (rd X r),X):=by
 unfold S6
 rw [Hf2 c h]
 simp only
 rw [if_neg (by rw [hd]; exact c.ok r h.a h.b h.c h.d)]
abbrev vS (X:CX) (i:Int):ProcS × Int:=W9 (rd X ⟨1,i⟩)
abbrev vF (X:CX) (i:Int):FileS × Int:=Ae0 (rd X ⟨2,i⟩)
abbrev vP (X:CX) (i:Int):PipeS × Int:=Af1 (rd X ⟨3,i⟩)
theorem Bw0 {nc:Nat} {i:Int} (h:0 ≤ i ∧ i < 8):Rin nc ⟨1,i⟩:=⟨by simp,by simp,h.1,h.2⟩
theorem Dx1 {nc:Nat} {i:Int} (h:0 ≤ i ∧ i < 12):Rin nc ⟨2,i⟩:=⟨by simp,by simp,h.1,h.2⟩
theorem G69 {nc:Nat} {i:Int} (h:0 ≤ i ∧ i < 3 + nc):Rin nc ⟨3,i⟩:=⟨by simp,by simp,h.1,h.2⟩
theorem B24 {nc:Nat} {X:CX} (c:Clean nc X) {i:Int} (h:0 ≤ i ∧ i < 8):Dw9 X i = (vS X i,X):=B40 W9 .zero c (Bw0 h) rfl
theorem B16 {nc:Nat} {X:CX} (c:Clean nc X) {i:Int} (h:0 ≤ i ∧ i < 12):Dz1 X i = (vF X i,X):=B40 Ae0 .zero c (Dx1 h) rfl
theorem Gx6 {nc:Nat} {X:CX} (c:Clean nc X) {i:Int} (h:0 ≤ i ∧ i < 3 + nc):Dw4 X i = (vP X i,X):=B40 Af1 .zero c (G69 h) rfl
theorem B98 {f:CX → Int → CX} {X:CX}:∀ (m:Nat) (i:Int),(∀ j,i ≤ j → j < i + m → f X j = X) → Dc6 f m i X = X
 | 0,_,_=>rfl
 | m + 1,i,h=>by
  unfold Dc6
  rw [h i (by omega) (by omega)]
  exact B98 m (i + 1) fun j h1 h2=>h j (by omega) (by omega)
theorem G68 {nc:Nat} {X:CX} (c:Clean nc X):E25 X = X:=by
 have h3:Ey7 X = X:=by
  unfold Ey7
  have e1:Ei6 X = (Af1 (rd X ⟨4,0⟩),X):=B40 Af1 .zero c ⟨by simp,by simp,by simp,by simp [W2]⟩ rfl
  have e2:Eb1 X = (Ap6 (rd X ⟨5,0⟩),X):=B40 Ap6 0 c ⟨by simp,by simp,by simp,by simp [W2]⟩ rfl
  rw [e1]; simp only; rw [e2]
 have hl:=c.len
 unfold E25 lookN Gm1 Gl4
 rw [B98 8 0 (fun j h1 h2=>by rw [B24 c (by omega)])]
 rw [B98 12 0 (fun j h1 h2=>by rw [B16 c (by omega)])]
 rw [B98 (3 + X.m.length) 0 (fun j h1 h2=>by rw [Gx6 c (by omega)]),h3]
end Go.EQ

set_option maxRecDepth 10000
namespace Go.EQ
open Go Go.NN
theorem Gt7 {f:FileS} (h:okF f = true):Ae0 (Af7 f) = (f,1):=by
 have hk:=h
 simp only [okF,Bool.and_eq_true,Bool.or_eq_true,decide_eq_true_eq,beq_iff_eq,bne_iff_ne] at h
 have e:By4 (Af7 f) = f:=by
  obtain ⟨a,b,c,d⟩:=f
  simp only at h
  have h1:=Ai0 (x:=a) (by omega); have h2:=Ai0 (x:=b) (by omega); have h3:=Ai0 (x:=c) (by omega); have h4:=Ai0 (x:=d) (by omega)
  simp [By4,Af7,A49]
  exact ⟨h1,h2,h3,h4⟩
 have hz:(Af7 f).all (· == 0) = false:=by simp [Af7,A49]
 unfold Ae0 isF
 rw [hz,e,hk]
 simp
section
variable {nc:Nat} {X:CX} (c:Clean nc X)
include c
abbrev Dd9 (X:CX) (i:Int) (p:ProcS):CX:=B79 X ⟨1,i⟩ (As0 p)
abbrev D24 (X:CX) (i:Int) (f:FileS):CX:=B79 X ⟨2,i⟩ (Af7 f)
abbrev Er2 (X:CX) (i:Int):CX:=B79 X ⟨1,i⟩ (List.replicate 24 0)
theorem B01 {i:Int} (h:0 ≤ i ∧ i < 8) {p:ProcS} (ok:okS p = true) (r:InS p) :
  B00 X i p = (true,Dd9 X i p) ∧ Clean nc (Dd9 X i p) ∧ (∀ j:Int,0 ≤ j ∧ j < 8 → vS (Dd9 X i p) j = if j = i then (p,1) else vS X j) ∧ (∀ j:Int,0 ≤ j ∧ j < 12 → vF (Dd9 X i p) j = vF X j) ∧ (∀ j:Int,0 ≤ j ∧ j < 3 + nc → vP (Dd9 X i p) j = vP X j):=by
 have hl:(As0 p).length = Q8 (1:Int):=by rw [D07]; rfl
 refine ⟨by unfold B00; rw [ok]; exact Eh1 c (Bw0 h) _,Ee1 c (Bw0 h) hl (by show (W9 (As0 p)).2 ≠ 2; rw [Gj9 ok r]; simp),fun j hj=>?_,fun j hj=>?_,fun j hj=>?_⟩
 ·show W9 (rd _ _) = _
  rw [Bi5 c (Bw0 h) (Bw0 hj) hl]
  by_cases e:j = i
  ·rw [if_pos (by rw [e]),if_pos e]; exact Gj9 ok r
  ·rw [if_neg (by simp [e]),if_neg e]
 ·show Ae0 (rd _ _) = _
  rw [Bi5 c (Bw0 h) (Dx1 hj) hl,if_neg (by simp)]
 ·show Af1 (rd _ _) = _
  rw [Bi5 c (Bw0 h) (G69 hj) hl,if_neg (by simp)]
theorem Bz9 {i:Int} (h:0 ≤ i ∧ i < 12) {f:FileS} (ok:okF f = true) :
  B14 X i f = (true,D24 X i f) ∧ Clean nc (D24 X i f) ∧ (∀ j:Int,0 ≤ j ∧ j < 8 → vS (D24 X i f) j = vS X j) ∧ (∀ j:Int,0 ≤ j ∧ j < 12 → vF (D24 X i f) j = if j = i then (f,1) else vF X j) ∧ (∀ j:Int,0 ≤ j ∧ j < 3 + nc → vP (D24 X i f) j = vP X j):=by
 have hl:(Af7 f).length = Q8 (2:Int):=by rw [De5]; rfl
 refine ⟨by unfold B14; rw [ok]; exact Eh1 c (Dx1 h) _,Ee1 c (Dx1 h) hl (by show (Ae0 (Af7 f)).2 ≠ 2; rw [Gt7 ok]; simp),fun j hj=>?_,fun j hj=>?_,fun j hj=>?_⟩
 ·show W9 (rd _ _) = _
  rw [Bi5 c (Dx1 h) (Bw0 hj) hl,if_neg (by simp)]
 ·show Ae0 (rd _ _) = _
  rw [Bi5 c (Dx1 h) (Dx1 hj) hl]
  by_cases e:j = i
  ·rw [if_pos (by rw [e]),if_pos e]; exact Gt7 ok
  ·rw [if_neg (by simp [e]),if_neg e]
 ·show Af1 (rd _ _) = _
  rw [Bi5 c (Dx1 h) (G69 hj) hl,if_neg (by simp)]
theorem E64 {i:Int} (h:0 ≤ i ∧ i < 8) :
  Dz3 X ⟨1,i⟩ = (true,Er2 X i) ∧ Clean nc (Er2 X i) ∧ (∀ j:Int,0 ≤ j ∧ j < 8 → vS (Er2 X i) j = if j = i then (.zero,0) else vS X j) ∧ (∀ j:Int,0 ≤ j ∧ j < 12 → vF (Er2 X i) j = vF X j) ∧ (∀ j:Int,0 ≤ j ∧ j < 3 + nc → vP (Er2 X i) j = vP X j):=by
 have hl:(List.replicate 24 (0:UInt8)).length = Q8 (1:Int):=rfl
 refine ⟨Eh1 c (Bw0 h) _,Ee1 c (Bw0 h) hl (by show (W9 (List.replicate 24 0)).2 ≠ 2; rw [show (W9 (List.replicate 24 0)) = (.zero,0) from rfl]; simp),fun j hj=>?_,fun j hj=>?_,fun j hj=>?_⟩
 ·show W9 (rd _ _) = _
  rw [Bi5 c (Bw0 h) (Bw0 hj) hl]
  by_cases e:j = i
  ·rw [if_pos (by rw [e]),if_pos e]; rfl
  ·rw [if_neg (by simp [e]),if_neg e]
 ·show Ae0 (rd _ _) = _
  rw [Bi5 c (Bw0 h) (Dx1 hj) hl,if_neg (by simp)]
 ·show Af1 (rd _ _) = _
  rw [Bi5 c (Bw0 h) (G69 hj) hl,if_neg (by simp)]
theorem Hs9 {i:Int} (h:0 ≤ i ∧ i < 8):((vS X i).2 = 0 ∧ (vS X i).1 = .zero) ∨ ((vS X i).2 = 1 ∧ okS (vS X i).1 = true):=by
 have:=c.ok ⟨1,i⟩ (by simp) (by simp) h.1 h.2
 have hk:(vS X i).2 ≠ 2:=this
 unfold vS W9 at hk ⊢
 split
 ·exact .inl ⟨rfl,rfl⟩
 ·split
  ·rename_i h2
   unfold isS at h2
   simp only [Bool.and_eq_true] at h2
   exact .inr ⟨rfl,h2.1⟩
  ·rename_i h1 h2; simp [h1,h2] at hk
theorem Ht6 {i:Int} (h:0 ≤ i ∧ i < 12):((vF X i).2 = 0 ∧ (vF X i).1 = .zero) ∨ ((vF X i).2 = 1 ∧ okF (vF X i).1 = true):=by
 have:=c.ok ⟨2,i⟩ (by simp) (by simp) h.1 h.2
 have hk:(vF X i).2 ≠ 2:=this
 unfold vF Ae0 at hk ⊢
 split
 ·exact .inl ⟨rfl,rfl⟩
 ·split
  ·rename_i h2
   unfold isF at h2
   simp only [Bool.and_eq_true] at h2
   exact .inr ⟨rfl,h2.1⟩
  ·rename_i h1 h2; simp [h1,h2] at hk
end
abbrev As1 (n e:Int) (b:Bool):List Value:=[int n,int e,.slice none 0 0,.bool b]
theorem Dd0 (e:Int):Ct A7 Ah0 [int e] [] fun v own=>v = .agg ⟨As1 0 e false⟩ ∧ own []:=by
 refine Ct.of Gw5 rfl fun h r=>Tr.eq (G16 ..) ?_; (try simp only[Nr,Nl,Nat.reduceAdd,Nat.reduceMul,Int.reduceToNat])
 (repeat' first|refine Gu ?_|(with_reducible first|refine Gn fun b h=>?_|apply Gx|apply Gy|rintro px rfl|refine fun(h:H)=>?_|intro hb)|refine Gs ?_|refine Gt ?_|exact Gz rfl|fail)
 refine Tr.some fun o=>?_
 exact ⟨rfl,o.sub⟩
theorem G25 (ok:Bool) (n:Int):Ct A7 Bk2 [.bool ok,int n] [] fun v own=>v = .agg ⟨if ok then As1 n 0 false else As1 0 105 false⟩ ∧ own []:=by
 refine Ct.of G07 rfl fun h r=>Tr.eq (Gv3 ..) ?_; (try simp only[Nr,Nl,Nat.reduceAdd,Nat.reduceMul,Int.reduceToNat])
 cases ok with
 | true =>
  (repeat' first|refine Gu ?_|(with_reducible first|refine Gn fun b h=>?_|apply Gx|apply Gy|rintro px rfl|refine fun(h:H)=>?_|intro hb)|refine Gs ?_|refine Gt ?_|exact Gz rfl|fail)
  refine Tr.some fun o=>?_
  exact ⟨rfl,o.sub⟩
 | false =>
  (repeat' first|refine Gu ?_|(with_reducible first|refine Gn fun b h=>?_|apply Gx|apply Gy|rintro px rfl|refine fun(h:H)=>?_|intro hb)|refine Gs ?_|refine Gt ?_|exact Gz rfl|fail)
  refine Tr.xCall (Dd0 105) ?_; rintro _ h ⟨rfl,o⟩ <;> (refine (?_:Tr _ _ _ _) o; (try simp only[Nr,Nl,Nat.reduceAdd,Nat.reduceMul,Int.reduceToNat]); (repeat' first|refine Gu ?_|(with_reducible first|refine Gn fun b h=>?_|apply Gx|apply Gy|rintro px rfl|refine fun(h:H)=>?_|intro hb)|refine Gs ?_|refine Gt ?_|exact Gz rfl|fail))
  refine Tr.some fun o=>?_
  exact ⟨rfl,o.sub⟩
def O0 (X:CX) (i:Int):ProcS × Int:=if (vS X i).2 = 1 ∧ (vS X i).1.state = 1 then ((vS X i).1,0) else (.zero,105)
theorem E62 (b k:Nat) (F:Fr) (X:CX) (ok:FrOk F) {nc:Nat} (c:Clean nc X) (i:Int) (hi:0 ≤ i ∧ i < 8):Ct A7 A79 [P0 b,int i] [cmC b k F X] fun v own=>v = .tuple ⟨[.agg ⟨D8 (O0 X i).1⟩,int (O0 X i).2]⟩ ∧ own [cmC b k F X]:=by
 refine Ct.of Gz2 rfl fun h r=>Tr.eq (Gz4 ..) ?_; (try simp only[Nr,Nl,Nat.reduceAdd,Nat.reduceMul,Int.reduceToNat])
 (repeat' first|refine Gu ?_|(with_reducible first|apply Gx|apply Gy|rintro px rfl|refine fun(h:H)=>?_|intro hb)|refine Gs ?_|refine Gt ?_|exact Gz rfl|fail)
 refine Tr.nw fun b0 h=>?_
 refine Tr.xCall (Hv6 b k F X ok) ?_; rintro _ h ⟨rfl,o⟩ <;> (refine (?_:Tr _ _ _ _) o; (try simp only[Nr,Nl,Nat.reduceAdd,Nat.reduceMul,Int.reduceToNat]))
 rw [G68 c]
 (repeat' first|refine Gu ?_|(with_reducible first|refine Gn fun b h=>?_|apply Gx|apply Gy|rintro px rfl|refine fun(h:H)=>?_|intro hb)|refine Gs ?_|refine Gt ?_|exact Gz rfl|fail)
 refine Tr.xCall (D09 b k F X ok i) ?_; rintro _ h ⟨rfl,o⟩ <;> (refine (?_:Tr _ _ _ _) o; (try simp only[Nr,Nl,Nat.reduceAdd,Nat.reduceMul,Int.reduceToNat]))
 rw [B24 c hi]
 dsimp only
 (repeat' first|refine Gu ?_|(with_reducible first|apply Gx|apply Gy|rintro px rfl|refine fun(h:H)=>?_|intro hb)|refine Gs ?_|refine Gt ?_|exact Gz rfl|fail)
 refine Tr.nw fun b1 h=>?_
 (repeat' first|refine Gu ?_|(with_reducible first|refine Gn fun b h=>?_|rintro px rfl|refine fun(h:H)=>?_|intro hb)|refine Gs ?_|refine Gt ?_|exact Gz rfl|fail)
 refine Tr.orG (c:=(vS X i).1.state != 1) (fun hb=>?_) ?_
 ·(repeat' first|refine Gu ?_|(with_reducible first|refine Gn fun b h=>?_|apply Gx|apply Gy|rintro px rfl|refine fun(h:H)=>?_|intro hb)|refine Gs ?_|refine Gt ?_|exact Gz rfl|fail)
 unfold O0
 by_cases h1:(vS X i).2 = 1 ∧ (vS X i).1.state = 1
 ·rw [if_pos h1]
  refine Tr.condF (by simp [h1.1,h1.2]) ?_
  (repeat' first|refine Gu ?_|(with_reducible first|refine Gn fun b h=>?_|apply Gx|apply Gy|rintro px rfl|refine fun(h:H)=>?_|intro hb)|refine Gs ?_|refine Gt ?_|exact Gz rfl|fail)
  refine Tr.some fun o=>?_
  exact ⟨rfl,o.sub⟩
 ·rw [if_neg h1]
  refine Tr.condT (by simp; by_cases h2:(vS X i).2 = 1 <;> simp [h2] at h1 ⊢; exact h1) ?_
  (repeat' first|refine Gu ?_|(with_reducible first|refine Gn fun b h=>?_|apply Gx|apply Gy|rintro px rfl|refine fun(h:H)=>?_|intro hb)|refine Gs ?_|refine Gt ?_|exact Gz rfl|fail)
  refine Tr.some fun o=>?_
  exact ⟨rfl,o.sub⟩
end Go.EQ

set_option maxRecDepth 10000
namespace Go.EQ
open Go Go.NN
def U7 (X:CX):Nat → Int → Int
 | 0,_=>-1
 | m + 1,i=>if (vS X i).2 = 0 then i else U7 X m (i + 1)
theorem G94 (b k:Nat) (F:Fr) (X:CX) (ok:FrOk F) {nc:Nat} (c:Clean nc X):∀ (m:Nat) (i:Int),0 ≤ i → i + m = 8 →
  CtJ G1 An9 Bd8 [(0,P0 b),(6,int i)] [cmC b k F X] fun v own=>v = int (U7 X m i) ∧ own [cmC b k F X]:=by
 intro m
 induction m with
 | zero =>
  intro i h0 hi
  refine CtJ.of Ds5 fun h r=>Tr.eq (Dt3 ..) ?_; (try simp only[Nr,Nl,Nat.reduceAdd,Nat.reduceMul,Int.reduceToNat])
  refine Tr.condF (by simp; omega) ?_
  refine Tr.some fun o=>?_
  exact ⟨rfl,o.sub⟩
 | succ m ih =>
  intro i h0 hi
  have e1:IntKind.wrap .i64 (i + 1) = i + 1:=by rw [A6]; omega
  refine CtJ.of Ds5 fun h r=>Tr.eq (Dt3 ..) ?_; (try simp only[Nr,Nl,Nat.reduceAdd,Nat.reduceMul,Int.reduceToNat])
  refine Tr.condT (by simp; omega) ?_
  refine Tr.xCall (D09 b k F X ok i) ?_; rintro _ h ⟨rfl,o⟩ <;> (refine (?_:Tr _ _ _ _) o; (try simp only[Nr,Nl,Nat.reduceAdd,Nat.reduceMul,Int.reduceToNat]))
  rw [B24 c (by omega)]
  dsimp only
  (repeat' first|refine Gu ?_|(with_reducible first|apply Gx|apply Gy|rintro px rfl|refine fun(h:H)=>?_|intro hb)|refine Gs ?_|refine Gt ?_|exact Gz rfl|fail)
  refine Tr.nw fun b1 h=>?_
  (repeat' first|refine Gu ?_|(with_reducible first|refine Gn fun b h=>?_|apply Gx|apply Gy|rintro px rfl|refine fun(h:H)=>?_|intro hb)|refine Gs ?_|refine Gt ?_|exact Gz rfl|fail)
  rw [show U7 X (m + 1) i = if (vS X i).2 = 0 then i else U7 X m (i + 1) from rfl]
  by_cases h1:(vS X i).2 = 0
  ·rw [if_pos h1]
   refine Tr.condT (by simpa using h1) ?_
   refine Tr.some fun o=>?_
   exact ⟨rfl,o.sub⟩
  ·rw [if_neg h1,e1]
   refine Tr.condF (by simpa using h1) ?_
   refine L7 [1] 1 rfl rfl ?_
   refine Tr.xRun (ih (i + 1) (by omega) (by omega)) ?_
   intro v h q
   exact q
theorem Hy0 (b k:Nat) (F:Fr) (X:CX) (ok:FrOk F) {nc:Nat} (c:Clean nc X):Ct A7 An9 [P0 b] [cmC b k F X] fun v own=>v = int (U7 X 8 0) ∧ own [cmC b k F X]:=by
 refine Ct.of Ds5 rfl fun h r=>Tr.eq (G18 ..) ?_; (try simp only[Nr,Nl,Nat.reduceAdd,Nat.reduceMul,Int.reduceToNat])
 refine Tr.xRun (G94 b k F X ok c 8 0 (by omega) (by omega)) ?_
 intro v h q
 exact q
def Be1:List Int → List Int → List Int
 | [],m=>m
 | f :: l,m=>Be1 l (if f > 0 then m.set (f - 1).toNat (m.getD (f - 1).toNat 0 + 1) else m)
def Z8 (n:Int) (m:List Int):Prop:=m.length = 12 ∧ ∀ x ∈ m,0 ≤ x ∧ x ≤ n
theorem Z8.get {n:Int} {m:List Int} (h:Z8 n m) {j:Nat} (hj:j < 12):0 ≤ m.getD j 0 ∧ m.getD j 0 ≤ n:=by
 have hl:=h.1
 have e:m[j]? = some m[j]:=List.getElem?_eq_getElem (by omega)
 rw [List.getD_eq_getElem?_getD,e]
 exact h.2 _ (List.getElem_mem _)
theorem Z8.set {n:Int} {m:List Int} (h:Z8 n m) {j:Nat} (hj:j < 12):Z8 (n + 1) (m.set j (m.getD j 0 + 1)):=by
 refine ⟨by simpa using h.1,fun x hx=>?_⟩
 rcases List.mem_or_eq_of_mem_set hx with h2 | rfl
 ·have:=h.2 x h2; omega
 ·have:=h.get hj; omega
theorem Z8.up {n:Int} {m:List Int} (h:Z8 n m):Z8 (n + 1) m:=⟨h.1,fun x hx=>by have:=h.2 x hx; omega⟩
theorem Hm1 {m:List Int} {j:Nat} (h:j < m.length) (v:Int):E48 (m.map int) j (int v) = some ((m.set j v).map int):=by
 rw [E48,show Nat.blt j (m.map int).length = true from Nat.ble_eq_true_of_le (by simp; omega),List.map_set]; rfl
def Br4 (l:List Int):Prop:=∀ f ∈ l,0 ≤ f ∧ f ≤ 12
theorem E53 {l:List Int} {i:Nat} (h:i < l.length):(l.map int)[i]? = some (int (l.getD i 0)):=by rw [List.getElem?_map,L6 0 h]; rfl
theorem Gw9 (b k:Nat) (F:Fr) (X:CX) (b0 b1:Nat) (p:ProcS) (hf:Br4 p.fds) (Φ:Value → (List HP → Prop) → Prop) (M:List Int)
  (next:CtJ G1 E3 Ai4 [(0,P0 b),(5,P0 b1),(31,.agg ⟨p.fds.map int⟩),(32,int 0)] [pt b1 (.cells Dx2 false (M.map int)),cmC b k F X] Φ) :
  ∀ (m i:Nat) (more:List Int),i + m = 8 → Z8 i more → Be1 (p.fds.drop i) more = M →
  CtJ G1 E3 Av1 [(0,P0 b),(3,P0 b0),(5,P0 b1),(17,.agg ⟨p.fds.map int⟩),(18,int i)] [pt b1 (.cells Dx2 false (more.map int)),pt b0 (.cells B9 false (D8 p)),cmC b k F X] Φ:=by
 intro m
 induction m with
 | zero =>
  intro i more hi hm hM
  have:i = 8:=by omega
  subst this
  rw [show p.fds.drop 8 = [] from List.drop_eq_nil_of_le (by rw [p.len]; omega),show Be1 [] more = more from rfl] at hM
  subst hM
  refine CtJ.of Aq3 fun h r=>Tr.eq (Dl1 ..) ?_; (try simp only[Nr,Nl,Nat.reduceAdd,Nat.reduceMul,Int.reduceToNat])
  refine Tr.condF (by simp) ?_
  (repeat' first|refine Gu ?_|(with_reducible first|refine Gn fun b h=>?_|apply Gx|apply Gy|rintro px rfl|refine fun(h:H)=>?_|intro hb)|refine Gs ?_|refine Gt ?_|exact Gz rfl|fail)
  refine L7 [0,1] 1 rfl rfl ?_
  refine Tr.xRun next ?_
  intro v h q
  exact q
 | succ m ih =>
  intro i more hi hm hM
  have e1:IntKind.wrap .i64 ((i:Int) + 1) = ((i + 1:Nat):Int):=by rw [A6]; omega
  have hil:i < p.fds.length:=by rw [p.len]; omega
  have hg:=E53 hil
  have hd:p.fds.drop i = p.fds.getD i 0 :: p.fds.drop (i + 1):=by
   rw [List.drop_eq_getElem_cons hil,List.getD_eq_getElem?_getD,List.getElem?_eq_getElem hil]; rfl
  have hr:0 ≤ p.fds.getD i 0 ∧ p.fds.getD i 0 ≤ 12:=hf _ (by
   rw [List.getD_eq_getElem?_getD,List.getElem?_eq_getElem hil]; exact List.getElem_mem _)
  rw [hd] at hM
  generalize p.fds.getD i 0 = f at hg hr hM
  rw [show Be1 (f :: p.fds.drop (i + 1)) more = Be1 (p.fds.drop (i + 1)) (if f > 0 then more.set (f - 1).toNat (more.getD (f - 1).toNat 0 + 1) else more) from rfl] at hM
  refine CtJ.of Aq3 fun h r=>Tr.eq (Dl1 ..) ?_; (try simp only[Nr,Nl,Nat.reduceAdd,Nat.reduceMul,Int.reduceToNat])
  refine Tr.condT (by simp; omega) ?_
  rw [e1]
  refine Tr.ck (by omega) ?_
  rw [Int.toNat_natCast]
  (repeat' first|refine Gu ?_|(with_reducible first|refine Gn fun b h=>?_|apply Gx|apply Gy|rintro px rfl|refine fun(h:H)=>?_|intro hb)|refine Gs ?_|refine Gt ?_|exact Gz rfl|fail)
  by_cases hz:f > 0
  ·have e2:IntKind.wrap .i64 (f - 1) = f - 1:=by rw [A6]; omega
   have hj:(f - 1).toNat < 12:=by omega
   have hm2:=hm.get hj
   have e3:IntKind.wrap .i64 (more.getD (f - 1).toNat 0 + 1) = more.getD (f - 1).toNat 0 + 1:=by rw [A6]; omega
   have hgm:=E53 (l:=more) (i:=(f - 1).toNat) (by rw [hm.1]; exact hj)
   rw [if_pos hz] at hM
   rw [e2]
   refine Tr.condT (by simpa using hz) ?_
   (repeat' first|refine Gu ?_|(with_reducible first|refine Gn fun b h=>?_|apply Gx|apply Gy|rintro px rfl|refine fun(h:H)=>?_|intro hb)|refine Gs ?_|refine Gt ?_|exact Gz rfl|fail)
   rw [e3]
   refine Gs (fun h=>?_) (by exact Hm1 (by rw [hm.1]; exact hj) _)
   refine Tr.xRun (ih (i + 1) (more.set (f - 1).toNat (more.getD (f - 1).toNat 0 + 1)) (by omega) (by rw [show ((i + 1:Nat):Int) = (i:Int) + 1 by omega]; exact hm.set hj) hM) ?_
   intro v h q
   exact q
  ·rw [if_neg hz] at hM
   refine Tr.condF (by simpa using hz) ?_
   refine Tr.xRun (ih (i + 1) more (by omega) (by simpa using hm.up) hM) ?_
   intro v h q
   exact q
def Ae6 (X:CX) (more:List Int):List Int → Int
 | []=>0
 | f :: l=>if f = 0 then Ae6 X more l else if (vF X (f - 1)).2 ≠ 1 then 105 else if (vF X (f - 1)).1.refs + more.getD (f - 1).toNat 0 > 64 then 123 else Ae6 X more l
theorem G35 {f:FileS} (h:okF f = true):1 ≤ f.refs ∧ f.refs ≤ 64:=by
 simp only [okF,Bool.and_eq_true,Bool.or_eq_true,decide_eq_true_eq,beq_iff_eq,bne_iff_ne] at h
 omega
theorem G19 {nc:Nat} {X:CX} (c:Clean nc X) {i:Int} (h:0 ≤ i ∧ i < 12):0 ≤ (vF X i).1.refs ∧ (vF X i).1.refs ≤ 64:=by
 rcases Ht6 c h with ⟨_,h1⟩ | ⟨_,h1⟩
 ·rw [h1]; simp
 ·have:=G35 h1; omega
theorem Gv0 (b k:Nat) (F:Fr) (X:CX) (ok:FrOk F) {nc:Nat} (c:Clean nc X) (b1:Nat) (fds more:List Int) (hl:fds.length = 8) (hf:Br4 fds) (hm:Z8 8 more) (Φ:Value → (List HP → Prop) → Prop)
  (bad:∀ (e:Int),Ae6 X more fds = e → e ≠ 0 → ∀ h r,Own h (cmC b k F X :: r) → Φ (int e) fun l=>Own h (l ++ r))
  (next:Ae6 X more fds = 0 → CtJ G1 E3 Ai3 [(0,P0 b),(57,.agg ⟨more.map int⟩),(58,int 0)] [cmC b k F X] Φ) :
  ∀ (m i:Nat),i + m = 8 → Ae6 X more fds = Ae6 X more (fds.drop i) →
  CtJ G1 E3 Ai4 [(0,P0 b),(5,P0 b1),(31,.agg ⟨fds.map int⟩),(32,int i)] [pt b1 (.cells Dx2 false (more.map int)),cmC b k F X] Φ:=by
 intro m
 induction m with
 | zero =>
  intro i hi he
  have:i = 8:=by omega
  subst this
  rw [show fds.drop 8 = [] from List.drop_eq_nil_of_le (by omega),show Ae6 X more [] = 0 from rfl] at he
  have hl12:Db8 (more.map int) 0 12 = some (more.map int):=Bq3 (by simp [hm.1])
  refine CtJ.of Aq3 fun h r=>Tr.eq (Dk4 ..) ?_; (try simp only[Nr,Nl,Nat.reduceAdd,Nat.reduceMul,Int.reduceToNat])
  refine Tr.condF (by simp) ?_
  refine Gs ?_ (by exact hl12)
  refine L7 [1] 1 rfl rfl ?_
  refine Tr.xRun (next he) ?_
  intro v h q
  exact q
 | succ m ih =>
  intro i hi he
  have e1:IntKind.wrap .i64 ((i:Int) + 1) = ((i + 1:Nat):Int):=by rw [A6]; omega
  have hil:i < fds.length:=by omega
  have hg:=E53 hil
  have hd:fds.drop i = fds.getD i 0 :: fds.drop (i + 1):=by
   rw [List.drop_eq_getElem_cons hil,List.getD_eq_getElem?_getD,List.getElem?_eq_getElem hil]; rfl
  have hr:0 ≤ fds.getD i 0 ∧ fds.getD i 0 ≤ 12:=hf _ (by
   rw [List.getD_eq_getElem?_getD,List.getElem?_eq_getElem hil]; exact List.getElem_mem _)
  rw [hd] at he
  generalize fds.getD i 0 = f at hg hr he
  rw [show Ae6 X more (f :: fds.drop (i + 1)) = if f = 0 then Ae6 X more (fds.drop (i + 1)) else if (vF X (f - 1)).2 ≠ 1 then 105 else if (vF X (f - 1)).1.refs + more.getD (f - 1).toNat 0 > 64 then 123 else Ae6 X more (fds.drop (i + 1)) from rfl] at he
  refine CtJ.of Aq3 fun h r=>Tr.eq (Dk4 ..) ?_; (try simp only[Nr,Nl,Nat.reduceAdd,Nat.reduceMul,Int.reduceToNat])
  refine Tr.condT (by simp; omega) ?_
  rw [e1]
  refine Tr.ck (by omega) ?_
  rw [Int.toNat_natCast]
  (repeat' first|refine Gu ?_|(with_reducible first|refine Gn fun b h=>?_|apply Gx|apply Gy|rintro px rfl|refine fun(h:H)=>?_|intro hb)|refine Gs ?_|refine Gt ?_|exact Gz rfl|fail)
  by_cases hz:f = 0
  ·rw [if_pos hz] at he
   refine Tr.condT (by simpa using hz) ?_
   refine Tr.xRun (ih (i + 1) (by omega) he) ?_
   intro v h q
   exact q
  rw [if_neg hz] at he
  refine Tr.condF (by simpa using hz) ?_
  have e2:IntKind.wrap .i64 (f - 1) = f - 1:=by rw [A6]; omega
  have hj:(f - 1).toNat < 12:=by omega
  rw [e2]
  refine Tr.xCall (Dz8 b k F X ok (f - 1)) ?_; rintro _ h ⟨rfl,o⟩ <;> (refine (?_:Tr _ _ _ _) o; (try simp only[Nr,Nl,Nat.reduceAdd,Nat.reduceMul,Int.reduceToNat]))
  rw [B16 c (by omega)]
  dsimp only
  (repeat' first|refine Gu ?_|(with_reducible first|apply Gx|apply Gy|rintro px rfl|refine fun(h:H)=>?_|intro hb)|refine Gs ?_|refine Gt ?_|exact Gz rfl|fail)
  refine Tr.nw fun b2 h=>?_
  (repeat' first|refine Gu ?_|(with_reducible first|refine Gn fun b h=>?_|apply Gx|apply Gy|rintro px rfl|refine fun(h:H)=>?_|intro hb)|refine Gs ?_|refine Gt ?_|exact Gz rfl|fail)
  by_cases h1:(vF X (f - 1)).2 = 1
  ·rw [if_neg (by simpa using h1)] at he
   refine Tr.condF (by simpa using h1) ?_
   have hm2:=hm.get hj
   have hgm:=E53 (l:=more) (i:=(f - 1).toNat) (by rw [hm.1]; exact hj)
   have hrf:=G19 c (i:=f - 1) (by omega)
   have e3:IntKind.wrap .i64 ((vF X (f - 1)).1.refs + more.getD (f - 1).toNat 0) = (vF X (f - 1)).1.refs + more.getD (f - 1).toNat 0:=by rw [A6]; omega
   (repeat' first|refine Gu ?_|(with_reducible first|refine Gn fun b h=>?_|apply Gx|apply Gy|rintro px rfl|refine fun(h:H)=>?_|intro hb)|refine Gs ?_|refine Gt ?_|exact Gz rfl|fail)
   rw [e3]
   by_cases h2:(vF X (f - 1)).1.refs + more.getD (f - 1).toNat 0 > 64
   ·rw [if_pos h2] at he
    refine Tr.condT (by simpa using h2) ?_
    refine L7 [1] 2 rfl rfl ?_
    refine Tr.some fun o=>?_
    exact bad 123 he (by simp) _ _ o
   ·rw [if_neg h2] at he
    refine Tr.condF (by simpa using h2) ?_
    refine L7 [2,1] 1 rfl rfl ?_
    refine Tr.xRun (ih (i + 1) (by omega) he) ?_
    intro v h q
    exact q
  ·rw [if_pos h1] at he
   refine Tr.condT (by simpa using h1) ?_
   refine L7 [1] 2 rfl rfl ?_
   refine Tr.some fun o=>?_
   exact bad 105 he (by simp) _ _ o
abbrev Dy1 (f:FileS) (n:Int):FileS:=⟨f.kind,f.pipe,f.refs + n,f.flags⟩
def A67 (more:List Int):Nat → Int → CX → CX
 | 0,_,X=>X
 | m + 1,j,X=>A67 more m (j + 1) (if more.getD j.toNat 0 = 0 then X else D24 X j (Dy1 (vF X j).1 (more.getD j.toNat 0)))
def E91 (more:List Int) (X:CX) (j:Int):Prop:=∀ i:Int,j ≤ i → i < 12 → more.getD i.toNat 0 ≠ 0 → (vF X i).2 = 1 ∧ (vF X i).1.refs + more.getD i.toNat 0 ≤ 64
theorem Hm8 {f:FileS} (h:okF f = true) {n:Int} (hn:1 ≤ f.refs + n ∧ f.refs + n ≤ 64):okF (Dy1 f n) = true:=by
 simp only [okF,Bool.and_eq_true,Bool.or_eq_true,decide_eq_true_eq,beq_iff_eq,bne_iff_ne] at h ⊢
 omega
theorem E91.step {nc:Nat} {X:CX} (c:Clean nc X) {more:List Int} (hm:Z8 8 more) {j:Int} (h0:0 ≤ j ∧ j < 12) (s:E91 more X j) (hz:more.getD j.toNat 0 ≠ 0) :
  okF (Dy1 (vF X j).1 (more.getD j.toNat 0)) = true ∧ E91 more (D24 X j (Dy1 (vF X j).1 (more.getD j.toNat 0))) (j + 1):=by
 obtain ⟨s1,s2⟩:=s j (by omega) (by omega) hz
 have hg:=hm.get (j:=j.toNat) (by omega)
 have hk:okF (vF X j).1 = true:=by
  rcases Ht6 c h0 with ⟨h1,_⟩ | ⟨_,h1⟩
  ·omega
  ·exact h1
 have hr:=G35 hk
 have k:=Hm8 hk (n:=more.getD j.toNat 0) (by omega)
 refine ⟨k,fun i h1 h2 hi=>?_⟩
 rw [(Bz9 c h0 k).2.2.2.1 i (by omega),if_neg (by omega)]
 exact s i (by omega) h2 hi
theorem Gw1 (b k:Nat) (F:Fr) (ok:FrOk F) {nc:Nat} (more:List Int) (hm:Z8 8 more):∀ (m:Nat) (j:Int) (X:CX),Clean nc X → E91 more X j → 0 ≤ j → j + m = 12 →
  CtJ G1 E3 Ai3 [(0,P0 b),(57,.agg ⟨more.map int⟩),(58,int j)] [cmC b k F X] fun v own=>v = int 0 ∧ own [cmC b k F (A67 more m j X)]:=by
 intro m
 induction m with
 | zero =>
  intro j X c s h0 hj
  refine CtJ.of Aq3 fun h r=>Tr.eq (Dm8 ..) ?_; (try simp only[Nr,Nl,Nat.reduceAdd,Nat.reduceMul,Int.reduceToNat])
  refine Tr.condF (by simp; omega) ?_
  refine Tr.some fun o=>?_
  rw [show A67 more 0 j X = X from rfl]
  exact ⟨rfl,o.sub⟩
 | succ m ih =>
  intro j X c s h0 hj
  have e1:IntKind.wrap .i64 (j + 1) = j + 1:=by rw [A6]; omega
  have hg:=E53 (l:=more) (i:=j.toNat) (by rw [hm.1]; omega)
  have hm2:=hm.get (j:=j.toNat) (by omega)
  rw [show A67 more (m + 1) j X = A67 more m (j + 1) (if more.getD j.toNat 0 = 0 then X else D24 X j (Dy1 (vF X j).1 (more.getD j.toNat 0))) from rfl]
  refine CtJ.of Aq3 fun h r=>Tr.eq (Dm8 ..) ?_; (try simp only[Nr,Nl,Nat.reduceAdd,Nat.reduceMul,Int.reduceToNat])
  refine Tr.condT (by simp; omega) ?_
  rw [e1]
  (repeat' first|refine Gu ?_|(with_reducible first|refine Gn fun b h=>?_|apply Gx|apply Gy|rintro px rfl|refine fun(h:H)=>?_|intro hb)|refine Gs ?_|refine Gt ?_|exact Gz rfl|fail)
  by_cases hz:more.getD j.toNat 0 = 0
  ·rw [if_pos hz]
   refine Tr.condT (by simpa using hz) ?_
   refine Tr.xRun (ih (j + 1) X c (fun i h1 h2 h3=>s i (by omega) h2 h3) (by omega) (by omega)) ?_
   intro v h q
   exact q
  ·rw [if_neg hz]
   refine Tr.condF (by simpa using hz) ?_
   have hrf:=G19 c (i:=j) (by omega)
   have e3:IntKind.wrap .i64 ((vF X j).1.refs + more.getD j.toNat 0) = (vF X j).1.refs + more.getD j.toNat 0:=by rw [A6]; omega
   obtain ⟨k1,s2⟩:=s.step c hm (by omega) hz
   obtain ⟨w1,w2,_⟩:=Bz9 c (i:=j) (by omega) k1
   refine Tr.xCall (Dz8 b k F X ok j) ?_; rintro _ h ⟨rfl,o⟩ <;> (refine (?_:Tr _ _ _ _) o; (try simp only[Nr,Nl,Nat.reduceAdd,Nat.reduceMul,Int.reduceToNat]))
   rw [B16 c (by omega)]
   dsimp only
   (repeat' first|refine Gu ?_|(with_reducible first|apply Gx|apply Gy|rintro px rfl|refine fun(h:H)=>?_|intro hb)|refine Gs ?_|refine Gt ?_|exact Gz rfl|fail)
   refine Tr.nw fun b2 h=>?_
   (repeat' first|refine Gu ?_|(with_reducible first|refine Gn fun b h=>?_|apply Gx|apply Gy|rintro px rfl|refine fun(h:H)=>?_|intro hb)|refine Gs ?_|refine Gt ?_|exact Gz rfl|fail)
   simp only [e3,List.set_cons_succ,List.set_cons_zero,List.drop_zero,List.take]
   refine Tr.xCall (Gv1 b k F X ok j (Dy1 (vF X j).1 (more.getD j.toNat 0))) ?_; rintro _ h ⟨rfl,o⟩ <;> (refine (?_:Tr _ _ _ _) o; (try simp only[Nr,Nl,Nat.reduceAdd,Nat.reduceMul,Int.reduceToNat]))
   rw [w1]
   dsimp only
   (repeat' first|refine Gu ?_|(with_reducible first|refine Gn fun b h=>?_|apply Gx|apply Gy|rintro px rfl|refine fun(h:H)=>?_|intro hb)|refine Gs ?_|refine Gt ?_|exact Gz rfl|fail)
   refine L7 [0] 1 rfl rfl ?_
   refine Tr.xRun (ih (j + 1) _ w2 s2 (by omega) (by omega)) ?_
   intro v h q
   exact q
end Go.EQ

set_option maxRecDepth 10000
namespace Go.EQ
open Go Go.NN
theorem Ed2:∀ (l m:List Int) (i:Nat),Br4 l → m.length = 12 → (Be1 l m).getD i 0 ≠ 0 → m.getD i 0 ≠ 0 ∨ ((i:Int) + 1) ∈ l
 | [],m,i,_,_,h=>.inl h
 | f :: l,m,i,hf,hm,h=>by
  have hr:=hf f (by simp)
  have hl:Br4 l:=fun x hx=>hf x (by simp [hx])
  rw [show Be1 (f :: l) m = Be1 l (if f > 0 then m.set (f - 1).toNat (m.getD (f - 1).toNat 0 + 1) else m) from rfl] at h
  by_cases hz:f > 0
  ·rw [if_pos hz] at h
   rcases Ed2 l _ i hl (by simpa using hm) h with h2 | h2
   ·by_cases hi:(f - 1).toNat = i
    ·right
     rw [show (i:Int) + 1 = f by omega]; simp
    ·left
     rw [List.getD_eq_getElem?_getD,List.getElem?_set_ne hi,← List.getD_eq_getElem?_getD] at h2
     exact h2
   ·exact .inr (by simp [h2])
  ·rw [if_neg hz] at h
   rcases Ed2 l m i hl hm h with h2 | h2
   ·exact .inl h2
   ·exact .inr (by simp [h2])
theorem Dr9:∀ (l m:List Int) (n:Int),Br4 l → Z8 n m → Z8 (n + l.length) (Be1 l m)
 | [],m,n,_,h=>by simpa [Be1] using h
 | f :: l,m,n,hf,h=>by
  have hr:=hf f (by simp)
  have hl:Br4 l:=fun x hx=>hf x (by simp [hx])
  rw [show Be1 (f :: l) m = Be1 l (if f > 0 then m.set (f - 1).toNat (m.getD (f - 1).toNat 0 + 1) else m) from rfl]
  have e:n + ((f :: l).length:Int) = (n + 1) + l.length:=by simp; omega
  rw [e]
  by_cases hz:f > 0
  ·rw [if_pos hz]; exact Dr9 l _ (n + 1) hl (h.set (by omega))
  ·rw [if_neg hz]; exact Dr9 l m (n + 1) hl h.up
theorem D35 {X:CX} {more:List Int}:∀ (l:List Int),Ae6 X more l = 0 → ∀ f ∈ l,f ≠ 0 → (vF X (f - 1)).2 = 1 ∧ (vF X (f - 1)).1.refs + more.getD (f - 1).toNat 0 ≤ 64
 | [],_,f,h,_=>by simp at h
 | g :: l,h,f,hm,hf=>by
  rw [show Ae6 X more (g :: l) = if g = 0 then Ae6 X more l else if (vF X (g - 1)).2 ≠ 1 then 105 else if (vF X (g - 1)).1.refs + more.getD (g - 1).toNat 0 > 64 then 123 else Ae6 X more l from rfl] at h
  by_cases hg:g = 0
  ·rw [if_pos hg] at h
   rcases List.mem_cons.1 hm with rfl | h2
   ·exact absurd hg hf
   ·exact D35 l h f h2 hf
  ·rw [if_neg hg] at h
   by_cases h1:(vF X (g - 1)).2 = 1
   ·rw [if_neg (by simpa using h1)] at h
    by_cases h2:(vF X (g - 1)).1.refs + more.getD (g - 1).toNat 0 > 64
    ·rw [if_pos h2] at h; cases h
    ·rw [if_neg h2] at h
     rcases List.mem_cons.1 hm with rfl | h3
     ·exact ⟨h1,by omega⟩
     ·exact D35 l h f h3 hf
   ·rw [if_pos h1] at h; cases h
abbrev Eb6:List Int:=[0,0,0,0,0,0,0,0,0,0,0,0]
theorem Hi8:Z8 0 Eb6:=⟨rfl,fun x hx=>by simp at hx; omega⟩
abbrev Ba3 (p:ProcS):List Int:=Be1 p.fds Eb6
theorem Ep9 {p:ProcS} (h:Br4 p.fds):Z8 8 (Ba3 p):=by
 have:=Dr9 p.fds Eb6 0 h Hi8
 rw [p.len] at this
 exact this
theorem Go2 {X:CX} {p:ProcS} (h:Br4 p.fds) (e:Ae6 X (Ba3 p) p.fds = 0):E91 (Ba3 p) X 0:=fun i h0 h1 hi=>by
 rcases Ed2 p.fds Eb6 i.toNat h rfl hi with h2 | h2
 ·exfalso; apply h2
  have:i.toNat = 0 ∨ i.toNat = 1 ∨ i.toNat = 2 ∨ i.toNat = 3 ∨ i.toNat = 4 ∨ i.toNat = 5 ∨ i.toNat = 6 ∨ i.toNat = 7 ∨ i.toNat = 8 ∨ i.toNat = 9 ∨ i.toNat = 10 ∨ i.toNat = 11:=by omega
  rcases this with h | h | h | h | h | h | h | h | h | h | h | h <;> rw [h] <;> rfl
 ·have:=D35 p.fds e _ h2 (by omega)
  rw [show ((i.toNat:Nat):Int) + 1 - 1 = i by omega] at this
  exact this
def P2 (X:CX) (p:ProcS):Int × CX:=if Ae6 X (Ba3 p) p.fds = 0 then (0,A67 (Ba3 p) 12 0 X) else (Ae6 X (Ba3 p) p.fds,X)
theorem Hj4 (b k:Nat) (F:Fr) (X:CX) (ok:FrOk F) {nc:Nat} (c:Clean nc X) (p:ProcS) (hf:Br4 p.fds):Ct A7 E3 [P0 b,.agg ⟨D8 p⟩] [cmC b k F X] fun v own=>v = int (P2 X p).1 ∧ own [cmC b k F (P2 X p).2]:=by
 refine Ct.of Aq3 rfl fun h r=>Tr.eq (Gk1 ..) ?_; (try simp only[Nr,Nl,Nat.reduceAdd,Nat.reduceMul,Int.reduceToNat])
 refine Tr.nw fun b0 h=>?_
 refine Tr.nw fun b1 h=>?_
 (repeat' first|refine Gu ?_|(with_reducible first|refine Gn fun b h=>?_|apply Gx|apply Gy|rintro px rfl|refine fun(h:H)=>?_|intro hb)|refine Gs ?_|refine Gt ?_|exact Gz rfl|fail)
 have hm:=Ep9 hf
 have L2:=Gv0 b k F X ok c b1 p.fds (Ba3 p) p.len hf hm (fun v own=>v = int (P2 X p).1 ∧ own [cmC b k F (P2 X p).2])
  (fun e he hz h r o=>by
   unfold P2
   rw [if_neg (by rw [he]; exact hz),he]
   exact ⟨rfl,o⟩)
  (fun he=>by
   have J:=Gw1 b k F ok (Ba3 p) hm 12 0 X c (Go2 hf he) (by omega) (by omega)
   unfold P2
   rw [if_pos he]
   exact J) 8 0 rfl rfl
 refine Dt9 (Gw9 b k F X b0 b1 p hf _ (Ba3 p) L2 8 0 Eb6 rfl (by simpa using Hi8) rfl) [0,0,0] rfl ?_
 intro v h q
 exact q
end Go.EQ

set_option maxRecDepth 10000
namespace Go.EQ
open Go Go.NN
theorem De8 {nc:Nat} {more:List Int} (hm:Z8 8 more):∀ (m:Nat) (j:Int) (X:CX),Clean nc X → E91 more X j → 0 ≤ j → j + m = 12 →
  Clean nc (A67 more m j X) ∧ (∀ i:Int,0 ≤ i ∧ i < 8 → vS (A67 more m j X) i = vS X i) ∧
  (∀ i:Int,0 ≤ i ∧ i < 12 → vF (A67 more m j X) i = if j ≤ i ∧ more.getD i.toNat 0 ≠ 0 then (Dy1 (vF X i).1 (more.getD i.toNat 0),1) else vF X i) ∧ (∀ i:Int,0 ≤ i ∧ i < 3 + nc → vP (A67 more m j X) i = vP X i)
 | 0,j,X,c,_,h0,hj=>⟨c,fun _ _=>rfl,fun i hi=>by rw [if_neg (by omega)]; rfl,fun _ _=>rfl⟩
 | m + 1,j,X,c,s,h0,hj=>by
  rw [show A67 more (m + 1) j X = A67 more m (j + 1) (if more.getD j.toNat 0 = 0 then X else D24 X j (Dy1 (vF X j).1 (more.getD j.toNat 0))) from rfl]
  by_cases hz:more.getD j.toNat 0 = 0
  ·rw [if_pos hz]
   obtain ⟨a1,a2,a3,a4⟩:=De8 hm m (j + 1) X c (fun i h1 h2 h3=>s i (by omega) h2 h3) (by omega) (by omega)
   refine ⟨a1,a2,fun i hi=>?_,a4⟩
   rw [a3 i hi]
   by_cases hij:i = j
   ·subst hij
    rw [if_neg (by omega),if_neg (by simp only [hz]; simp)]
   ·by_cases h2:j ≤ i ∧ more.getD i.toNat 0 ≠ 0
    ·rw [if_pos h2,if_pos ⟨by omega,h2.2⟩]
    ·rw [if_neg h2,if_neg (fun h3=>h2 ⟨by omega,h3.2⟩)]
  ·rw [if_neg hz]
   obtain ⟨k1,s2⟩:=s.step c hm (by omega) hz
   obtain ⟨w1,w2,w3,w4,w5⟩:=Bz9 c (i:=j) (by omega) k1
   obtain ⟨a1,a2,a3,a4⟩:=De8 hm m (j + 1) _ w2 s2 (by omega) (by omega)
   refine ⟨a1,fun i hi=>by rw [a2 i hi,w3 i hi],fun i hi=>?_,fun i hi=>by rw [a4 i hi,w5 i hi]⟩
   rw [a3 i hi,w4 i hi]
   by_cases hij:i = j
   ·subst hij
    rw [if_neg (by omega),if_pos rfl,if_pos ⟨by omega,hz⟩]
   ·rw [if_neg hij]
    by_cases h2:j ≤ i ∧ more.getD i.toNat 0 ≠ 0
    ·rw [if_pos h2,if_pos ⟨by omega,h2.2⟩]
    ·rw [if_neg h2,if_neg (fun h3=>h2 ⟨by omega,h3.2⟩)]
theorem G39 (l:List UInt8) (i:Nat):0 ≤ byI l i ∧ byI l i < 256:=by
 have:=(l.getD i 0).toNat_lt
 unfold byI; omega
theorem El4 (l:List UInt8) (j:Nat):0 ≤ two l j ∧ two l j ≤ 65535:=by
 have:=G39 l j; have:=G39 l (j + 1)
 unfold two; omega
theorem E58 (l:List UInt8):InS (W9 l).1:=by
 unfold W9
 split
 ·exact ⟨by simp,by simp,by simp,by simp⟩
 ·split
  ·exact ⟨El4 _ _,El4 _ _,El4 _ _,El4 _ _⟩
  ·exact ⟨by simp,by simp,by simp,by simp⟩
theorem E94 {p:ProcS} (h:okS p = true):Br4 p.fds:=fun f hf=>by
 unfold okS at h
 simp only [Bool.and_eq_true,Bool.not_eq_true',List.any_eq_false] at h
 have:=h.2.2.1 f hf
 simp at this; omega
abbrev Ao4 (p:ProcS) (i:Int):ProcS:=⟨p.state,i + 1,p.group,p.code,0,p.mask,p.ignored,p.caught,p.fds,p.len⟩
theorem Ew2 {p:ProcS} (h:okS p = true) (h1:p.state = 1) {i:Int} (hi:0 ≤ i ∧ i < 8):okS (Ao4 p i) = true:=by
 unfold okS at h ⊢
 rw [if_neg (by rw [h1]; decide)] at h
 rw [if_neg (show ¬ (Ao4 p i).state = 2 by show ¬ p.state = 2; rw [h1]; decide)]
 simp only [Bool.and_eq_true,Bool.not_eq_true',Bool.or_eq_false_iff,decide_eq_false_iff_not] at h ⊢
 obtain ⟨⟨⟨⟨⟨⟨⟨⟨a1,a2⟩,a3⟩,a4⟩,a5⟩,a6⟩,a7⟩,a8⟩,⟨⟨⟨⟨b1,b2⟩,b3⟩,b4⟩,b5⟩,d1,d2⟩:=h
 exact ⟨⟨⟨⟨⟨⟨⟨⟨a1,a2⟩,by show ¬ i + 1 < 0; omega⟩,by show ¬ i + 1 > 8; omega⟩,a5⟩,a6⟩,a7⟩,a8⟩,⟨⟨⟨⟨by simp [H06],b2⟩,b3⟩,b4⟩,b5⟩,d1,d2⟩
def A38 (X:CX) (i:Int):List Value × CX :=
 if (O0 X i).2 ≠ 0 then (As1 0 (O0 X i).2 false,X)
 else if U7 X 8 0 < 0 then (As1 0 111 false,X)
 else if (P2 X (O0 X i).1).1 ≠ 0 then (As1 0 (P2 X (O0 X i).1).1 false,X)
 else (As1 (U7 X 8 0) 0 false,Dd9 (P2 X (O0 X i).1).2 (U7 X 8 0) (Ao4 (O0 X i).1 i))
theorem Ed7 {X:CX}:∀ (m:Nat) (i:Int),0 ≤ i → i + m = 8 → U7 X m i = -1 ∨ (0 ≤ U7 X m i ∧ U7 X m i < 8 ∧ (vS X (U7 X m i)).2 = 0)
 | 0,i,_,_=>.inl rfl
 | m + 1,i,h0,hi=>by
  rw [show U7 X (m + 1) i = if (vS X i).2 = 0 then i else U7 X m (i + 1) from rfl]
  split
  ·rename_i h; exact .inr ⟨h0,by omega,h⟩
  ·exact Ed7 m (i + 1) (by omega) (by omega)
theorem Eu4 {nc:Nat} {X:CX} (c:Clean nc X) {i:Int} (hi:0 ≤ i ∧ i < 8) (h:(O0 X i).2 = 0):O0 X i = ((vS X i).1,0) ∧ (vS X i).1.state = 1 ∧ okS (vS X i).1 = true ∧ (vS X i).2 = 1:=by
 unfold O0 at h ⊢
 split
 ·rename_i h1
  refine ⟨rfl,h1.2,?_,h1.1⟩
  rcases Hs9 c hi with ⟨h2,_⟩ | ⟨_,h2⟩
  ·rw [h1.1] at h2; cases h2
  ·exact h2
 ·rename_i h1; rw [if_neg h1] at h; cases h
theorem Hl0 {X:CX} {p:ProcS} (h:(P2 X p).1 ≠ 0):(P2 X p).2 = X:=by
 unfold P2 at h ⊢
 split
 ·rename_i h1; rw [if_pos h1] at h; exact absurd rfl h
 ·rfl
theorem Dj0 {nc:Nat} {X:CX} (c:Clean nc X) {p:ProcS} (hf:Br4 p.fds) (h:(P2 X p).1 = 0):Clean nc (P2 X p).2 ∧ (∀ i:Int,0 ≤ i ∧ i < 8 → vS (P2 X p).2 i = vS X i) ∧
  (∀ i:Int,0 ≤ i ∧ i < 12 → vF (P2 X p).2 i = if (Ba3 p).getD i.toNat 0 ≠ 0 then (Dy1 (vF X i).1 ((Ba3 p).getD i.toNat 0),1) else vF X i) ∧ (∀ i:Int,0 ≤ i ∧ i < 3 + nc → vP (P2 X p).2 i = vP X i):=by
 unfold P2 at h ⊢
 split
 ·rename_i he
  obtain ⟨a1,a2,a3,a4⟩:=De8 (Ep9 hf) 12 0 X c (Go2 hf he) (by omega) (by omega)
  refine ⟨a1,a2,fun i hi=>?_,a4⟩
  rw [a3 i hi]
  by_cases h2:(Ba3 p).getD i.toNat 0 ≠ 0
  ·rw [if_pos h2,if_pos ⟨hi.1,h2⟩]
  ·rw [if_neg h2,if_neg (fun h3=>h2 h3.2)]
 ·rename_i he; rw [if_neg he] at h; exact absurd h he
theorem E50 (b k:Nat) (F:Fr) (X:CX) (ok:FrOk F) {nc:Nat} (c:Clean nc X) (i:Int) (hi:0 ≤ i ∧ i < 8):Ct A7 Bi8 [P0 b,int i] [cmC b k F X] fun v own=>v = .agg ⟨(A38 X i).1⟩ ∧ own [cmC b k F (A38 X i).2]:=by
 have e1:IntKind.wrap .i64 (i + 1) = i + 1:=by rw [A6]; omega
 unfold A38
 refine Ct.of G17 rfl fun h r=>Tr.eq (Gv6 ..) ?_; (try simp only[Nr,Nl,Nat.reduceAdd,Nat.reduceMul,Int.reduceToNat])
 refine Tr.nw fun b0 h=>?_
 refine Tr.xCall (E62 b k F X ok c i hi) ?_; rintro _ h ⟨rfl,o⟩ <;> (refine (?_:Tr _ _ _ _) o; (try simp only[Nr,Nl,Nat.reduceAdd,Nat.reduceMul,Int.reduceToNat]))
 (repeat' first|refine Gu ?_|(with_reducible first|apply Gx|apply Gy|rintro px rfl|refine fun(h:H)=>?_|intro hb)|refine Gs ?_|refine Gt ?_|exact Gz rfl|fail)
 refine Tr.nw fun b1 h=>?_
 (repeat' first|refine Gu ?_|(with_reducible first|refine Gn fun b h=>?_|apply Gx|apply Gy|rintro px rfl|refine fun(h:H)=>?_|intro hb)|refine Gs ?_|refine Gt ?_|exact Gz rfl|fail)
 by_cases h0:(O0 X i).2 = 0
 case neg =>
  rw [if_pos h0]
  refine Tr.condT (by simpa using h0) ?_
  refine Tr.xCall (Dd0 (O0 X i).2) ?_; rintro _ h ⟨rfl,o⟩ <;> (refine (?_:Tr _ _ _ _) o; (try simp only[Nr,Nl,Nat.reduceAdd,Nat.reduceMul,Int.reduceToNat]); (repeat' first|refine Gu ?_|(with_reducible first|refine Gn fun b h=>?_|apply Gx|apply Gy|rintro px rfl|refine fun(h:H)=>?_|intro hb)|refine Gs ?_|refine Gt ?_|exact Gz rfl|fail))
  refine Tr.some fun o=>?_
  exact ⟨rfl,o.sub⟩
 rw [if_neg (by simpa using h0)]
 refine Tr.condF (by simpa using h0) ?_
 obtain ⟨s1,s2,s3,s4⟩:=Eu4 c hi h0
 refine Tr.xCall (Hy0 b k F X ok c) ?_; rintro _ h ⟨rfl,o⟩ <;> (refine (?_:Tr _ _ _ _) o; (try simp only[Nr,Nl,Nat.reduceAdd,Nat.reduceMul,Int.reduceToNat]))
 (repeat' first|refine Gu ?_|(with_reducible first|refine Gn fun b h=>?_|apply Gx|apply Gy|rintro px rfl|refine fun(h:H)=>?_|intro hb)|refine Gs ?_|refine Gt ?_|exact Gz rfl|fail)
 by_cases h1:U7 X 8 0 < 0
 ·rw [if_pos h1]
  refine Tr.condT (by simpa using h1) ?_
  refine Tr.xCall (Dd0 111) ?_; rintro _ h ⟨rfl,o⟩ <;> (refine (?_:Tr _ _ _ _) o; (try simp only[Nr,Nl,Nat.reduceAdd,Nat.reduceMul,Int.reduceToNat]); (repeat' first|refine Gu ?_|(with_reducible first|refine Gn fun b h=>?_|apply Gx|apply Gy|rintro px rfl|refine fun(h:H)=>?_|intro hb)|refine Gs ?_|refine Gt ?_|exact Gz rfl|fail))
  refine Tr.some fun o=>?_
  exact ⟨rfl,o.sub⟩
 rw [if_neg h1]
 refine Tr.condF (by simpa using h1) ?_
 have hf:Br4 (O0 X i).1.fds:=by rw [s1]; exact E94 s3
 have hok:okS (Ao4 (O0 X i).1 i) = true:=by rw [s1]; exact Ew2 s3 s2 hi
 have hin:InS (Ao4 (O0 X i).1 i):=by
  have:=E58 (rd X ⟨1,i⟩)
  rw [s1]
  exact ⟨by simp,this.b,this.c,this.d⟩
 generalize (O0 X i).1 = p at hf hok hin
 (repeat' first|refine Gu ?_|(with_reducible first|refine Gn fun b h=>?_|apply Gx|apply Gy|rintro px rfl|refine fun(h:H)=>?_|intro hb)|refine Gs ?_|refine Gt ?_|exact Gz rfl|fail)
 refine Tr.xCall (Hj4 b k F X ok c p hf) ?_; rintro _ h ⟨rfl,o⟩ <;> (refine (?_:Tr _ _ _ _) o; (try simp only[Nr,Nl,Nat.reduceAdd,Nat.reduceMul,Int.reduceToNat]))
 (repeat' first|refine Gu ?_|(with_reducible first|refine Gn fun b h=>?_|apply Gx|apply Gy|rintro px rfl|refine fun(h:H)=>?_|intro hb)|refine Gs ?_|refine Gt ?_|exact Gz rfl|fail)
 by_cases h2:(P2 X p).1 = 0
 case neg =>
  rw [if_pos h2]
  rw [Hl0 h2] at o ⊢
  refine Tr.condT (by simpa using h2) ?_
  refine Tr.xCall (Dd0 (P2 X p).1) ?_; rintro _ h ⟨rfl,o⟩ <;> (refine (?_:Tr _ _ _ _) o; (try simp only[Nr,Nl,Nat.reduceAdd,Nat.reduceMul,Int.reduceToNat]); (repeat' first|refine Gu ?_|(with_reducible first|refine Gn fun b h=>?_|apply Gx|apply Gy|rintro px rfl|refine fun(h:H)=>?_|intro hb)|refine Gs ?_|refine Gt ?_|exact Gz rfl|fail))
  refine Tr.some fun o=>?_
  exact ⟨rfl,o.sub⟩
 rw [if_neg (by simpa using h2)]
 refine Tr.condF (by simpa using h2) ?_
 have cs:=(Dj0 c hf h2).1
 have hfr:0 ≤ U7 X 8 0 ∧ U7 X 8 0 < 8:=by
  rcases Ed7 (X:=X) 8 0 (by omega) (by omega) with h | h <;> omega
 obtain ⟨w1,_⟩:=B01 cs hfr hok hin
 (repeat' first|refine Gu ?_|(with_reducible first|refine Gn fun b h=>?_|apply Gx|apply Gy|rintro px rfl|refine fun(h:H)=>?_|intro hb)|refine Gs ?_|refine Gt ?_|exact Gz rfl|fail)
 rw [e1,show ((D8 p).set 1 (int (i + 1))).set 4 (int 0) = D8 (Ao4 p i) from rfl]
 generalize Ao4 p i = q at hok hin w1
 (repeat' first|refine Gu ?_|(with_reducible first|refine Gn fun b h=>?_|apply Gx|apply Gy|rintro px rfl|refine fun(h:H)=>?_|intro hb)|refine Gs ?_|refine Gt ?_|exact Gz rfl|fail)
 refine Tr.xCall (Gy9 b k F (P2 X p).2 ok (U7 X 8 0) q) ?_; rintro _ h ⟨rfl,o⟩ <;> (refine (?_:Tr _ _ _ _) o; (try simp only[Nr,Nl,Nat.reduceAdd,Nat.reduceMul,Int.reduceToNat]))
 rw [w1]
 dsimp only
 (repeat' first|refine Gu ?_|(with_reducible first|refine Gn fun b h=>?_|apply Gx|apply Gy|rintro px rfl|refine fun(h:H)=>?_|intro hb)|refine Gs ?_|refine Gt ?_|exact Gz rfl|fail)
 refine Tr.xCall (G25 true (U7 X 8 0)) ?_; rintro _ h ⟨rfl,o⟩ <;> (refine (?_:Tr _ _ _ _) o; (try simp only[Nr,Nl,Nat.reduceAdd,Nat.reduceMul,Int.reduceToNat]))
 rw [if_pos trivial]
 (repeat' first|refine Gu ?_|(with_reducible first|refine Gn fun b h=>?_|apply Gx|apply Gy|rintro px rfl|refine fun(h:H)=>?_|intro hb)|refine Gs ?_|refine Gt ?_|exact Gz rfl|fail)
 refine Tr.some fun o=>?_
 exact ⟨rfl,o.sub⟩
end Go.EQ

set_option maxRecDepth 10000
namespace Go.EQ
open Go Go.NN
abbrev Da1 (s:Int × ProcS):List Value:=int s.1 :: D8 s.2
def V2 (X:CX) (q:Int → ProcS → Bool):Nat → Int → List (Int × ProcS)
 | 0,_=>[]
 | m + 1,i=>if (vS X i).2 = 1 ∧ q i (vS X i).1 = true then (i,(vS X i).1) :: V2 X q m (i + 1) else V2 X q m (i + 1)
theorem E07 (X:CX) (q:Int → ProcS → Bool):∀ (m:Nat) (i:Int),(V2 X q m i).length ≤ m
 | 0,i=>by simp [V2]
 | m + 1,i=>by
  have:=E07 X q m (i + 1)
  unfold V2; split <;> simp <;> omega
theorem Ba9 (j:Int) (p:ProcS):(int j :: D8 p).length = 17:=by simp [B39 p,p.len]
instance {j:Int} {p:ProcS}:LenC (int j :: D8 p) 17:=⟨Ba9 j p⟩
instance {j:Int} {p:ProcS}:PartC (int j :: D8 p) 0 17 (int j :: D8 p):=⟨Bq3 (Ba9 j p)⟩
instance {j:Int} {p:ProcS} {cs:List Value} [k:LenC cs 17]:SetsC cs 0 (int j :: D8 p) (int j :: D8 p):=⟨Bq1 k.ok (Ba9 j p) (by simp [Value.oneCell])⟩
theorem Gu6 (b k:Nat) (F:Fr) (X:CX) (ok:FrOk F) {nc:Nat} (c:Clean nc X) (pr:HP) (g:FuncId) (cp:List Value) (q:Int → ProcS → Bool)
  (hq:∀ (j:Int) (p:ProcS),Ct A7 g (.agg ⟨int j :: D8 p⟩ :: cp) [pr] fun v own=>v = .bool (q j p) ∧ own [pr]):∀ (m:Nat) (i:Int) (acc:List (Int × ProcS)) (a:Option Addr) (ac:Nat),0 ≤ i → i + m = 8 → acc.length ≤ i →
  CtJ G1 Ac1 At5 [(0,P0 b),(1,.func (.func g) ⟨[]⟩ ⟨cp⟩),(5,.slice a acc.length ac),(10,int i)] [slC false U3 17 a acc.length ac (acc.flatMap Da1),cmC b k F X,pr] fun v own =>
   ∃ a' c',v = .slice a' (acc ++ V2 X q m i).length c' ∧ own [slC false U3 17 a' (acc ++ V2 X q m i).length c' ((acc ++ V2 X q m i).flatMap Da1),cmC b k F X,pr]:=by
 intro m
 induction m with
 | zero =>
  intro i acc a ac h0 hi ha
  refine CtJ.of Di1 fun h r=>Tr.eq (Dl7 ..) ?_; (try simp only[Nr,Nl,Nat.reduceAdd,Nat.reduceMul,Int.reduceToNat])
  refine Tr.condF (by simp; omega) ?_
  refine Tr.some fun o=>?_
  rw [show V2 X q 0 i = [] from rfl,List.append_nil]
  exact ⟨a,ac,rfl,o.sub⟩
 | succ m ih =>
  intro i acc a ac h0 hi ha
  have e1:IntKind.wrap .i64 (i + 1) = i + 1:=by rw [A6]; omega
  refine CtJ.of Di1 fun h r=>Tr.eq (Dl7 ..) ?_; (try simp only[Nr,Nl,Nat.reduceAdd,Nat.reduceMul,Int.reduceToNat])
  refine Tr.condT (by simp; omega) ?_
  rw [e1]
  refine Tr.xCall (D09 b k F X ok i) ?_; rintro _ h ⟨rfl,o⟩ <;> (refine (?_:Tr _ _ _ _) o; (try simp only[Nr,Nl,Nat.reduceAdd,Nat.reduceMul,Int.reduceToNat]))
  rw [B24 c (by omega)]
  dsimp only
  generalize hp:(vS X i).1 = p
  simp only [List.append_nil,List.nil_append]
  (repeat' first|refine Gu ?_|(with_reducible first|apply Gx|apply Gy|rintro px rfl|refine fun(h:H)=>?_|intro hb)|refine Gs ?_|refine Gt ?_|exact Gz rfl|fail)
  refine Tr.nw fun b1 h=>?_
  (repeat' first|refine Gu ?_|(with_reducible first|apply Gx|apply Gy|rintro px rfl|refine fun(h:H)=>?_|intro hb)|refine Gs ?_|refine Gt ?_|exact Gz rfl|fail)
  refine Tr.nw fun b2 h=>?_
  (repeat' first|refine Gu ?_|(with_reducible first|refine Gn fun b h=>?_|rintro px rfl|refine fun(h:H)=>?_|intro hb)|refine Gs ?_|refine Gt ?_|exact Gz rfl|fail)
  rw [show V2 X q (m + 1) i = if (vS X i).2 = 1 ∧ q i (vS X i).1 = true then (i,(vS X i).1) :: V2 X q m (i + 1) else V2 X q m (i + 1) from rfl,hp]
  by_cases h1:(vS X i).2 = 1
  ·refine Tr.bnd (Tr.condT (by simpa using h1) ?_)
   (repeat' first|refine Gu ?_|(with_reducible first|refine Gn fun b h=>?_|rintro px rfl|refine fun(h:H)=>?_|intro hb)|refine Gs ?_|refine Gt ?_|exact Gz rfl|fail)
   simp only [List.nil_append]
   refine Tr.xCall (hq i p) ?_; rintro _ h ⟨rfl,o⟩ <;> (refine (?_:Tr _ _ _ _) o; (try simp only[Nr,Nl,Nat.reduceAdd,Nat.reduceMul,Int.reduceToNat]))
   (repeat' first|refine Gu ?_|(with_reducible first|refine Gn fun b h=>?_|rintro px rfl|refine fun(h:H)=>?_|intro hb)|refine Gs ?_|refine Gt ?_|exact Gz rfl|fail)
   refine Tr.some fun o=>(?_:Tr _ _ _ _) o; (try simp only[Nr,Nl,Nat.reduceAdd,Nat.reduceMul,Int.reduceToNat])
   by_cases h2:q i p = true
   ·rw [if_pos ⟨h1,h2⟩]
    refine Tr.condT h2 ?_
    (repeat' first|refine Gu ?_|(with_reducible first|apply Gx|apply Gy|rintro px rfl|refine fun(h:H)=>?_|intro hb)|refine Gs ?_|refine Gt ?_|exact Gz rfl|fail)
    refine Tr.nw fun b3 h=>?_
    (repeat' first|refine Gu ?_|(with_reducible first|refine Gn fun b h=>?_|apply Gx|apply Gy|rintro px rfl|refine fun(h:H)=>?_|intro hb)|refine Gs ?_|refine Gt ?_|exact Gz rfl|fail)
    refine Tr.xCellsB (xs:=int i :: D8 p) (D39 (Bq3 (Ba9 i p))) ?_
    (repeat' first|refine Gu ?_|(with_reducible first|refine Gn fun b h=>?_|apply Gx|apply Gy|rintro px rfl|refine fun(h:H)=>?_|intro hb)|refine Gs ?_|refine Gt ?_|exact Gz rfl|fail)
    refine Tr.xApd ⟨Ba9 i p,by simp [Value.oneCell],by simp only [A8]; omega⟩ fun a' c' h=>?_
    rw [show acc.flatMap Da1 ++ (int i :: D8 p) = (acc ++ [(i,p)]).flatMap Da1 by simp,show acc.length + 1 = (acc ++ [(i,p)]).length by simp]
    refine L7 [5,4,1] 3 rfl rfl ?_
    refine Tr.xRun (ih (i + 1) (acc ++ [(i,p)]) a' c' (by omega) (by omega) (by simp; omega)) ?_
    intro v h q
    rw [List.append_assoc] at q
    exact q
   ·rw [if_neg (fun h3=>h2 h3.2)]
    refine Tr.condF (by simpa using h2) ?_
    refine L7 [4,3,0] 2 rfl rfl ?_
    refine Tr.xRun (ih (i + 1) acc a ac (by omega) (by omega) (by omega)) ?_
    intro v h q
    exact q
  ·rw [if_neg (fun h3=>h1 h3.1)]
   refine Tr.bnd (Tr.condF (by simpa using h1) ?_)
   refine Tr.some fun o=>(?_:Tr _ _ _ _) o; (try simp only[Nr,Nl,Nat.reduceAdd,Nat.reduceMul,Int.reduceToNat])
   refine Tr.condF rfl ?_
   refine L7 [3,2,2] 2 rfl rfl ?_
   refine Tr.xRun (ih (i + 1) acc a ac (by omega) (by omega) (by omega)) ?_
   intro v h q
   exact q
theorem Hs3 (b k:Nat) (F:Fr) (X:CX) (ok:FrOk F) {nc:Nat} (c:Clean nc X) (pr:HP) (g:FuncId) (cp:List Value) (q:Int → ProcS → Bool)
  (hq:∀ (j:Int) (p:ProcS),Ct A7 g (.agg ⟨int j :: D8 p⟩ :: cp) [pr] fun v own=>v = .bool (q j p) ∧ own [pr]) :
  Ct A7 Ac1 [P0 b,.func (.func g) ⟨[]⟩ ⟨cp⟩] [cmC b k F X,pr] fun v own=>∃ a' c',v = .slice a' (V2 X q 8 0).length c' ∧ own [slC false U3 17 a' (V2 X q 8 0).length c' ((V2 X q 8 0).flatMap Da1),cmC b k F X,pr]:=by
 refine Ct.of Di1 rfl fun h r=>Tr.eq (Go6 ..) ?_; (try simp only[Nr,Nl,Nat.reduceAdd,Nat.reduceMul,Int.reduceToNat])
 refine G0 false U3 17 (by omega) ?_
 have J:=Gu6 b k F X ok c pr g cp q hq 8 0 [] none 0 (by omega) (by omega) (by simp)
 simp only [List.nil_append,List.length_nil,List.flatMap_nil] at J
 refine Tr.xRun J ?_
 intro v h q
 exact q
theorem Hs1 (bi:Nat) (i:Int) (hi:0 ≤ i ∧ i < 8) (j:Int) (p:ProcS):Ct A7 A58 [.agg ⟨int j :: D8 p⟩,P0 bi] [pt bi (.cells B2 false [int i])] fun v own=>v = .bool (p.parent == i + 1) ∧ own [pt bi (.cells B2 false [int i])]:=by
 have e1:IntKind.wrap .i64 (i + 1) = i + 1:=by rw [A6]; omega
 refine Ct.of Gf7 rfl fun h r=>Tr.eq (Gf4 ..) ?_; (try simp only[Nr,Nl,Nat.reduceAdd,Nat.reduceMul,Int.reduceToNat])
 (repeat' first|refine Gu ?_|(with_reducible first|refine Gn fun b h=>?_|apply Gx|apply Gy|rintro px rfl|refine fun(h:H)=>?_|intro hb)|refine Gs ?_|refine Gt ?_|exact Gz rfl|fail)
 refine Tr.some fun o=>?_
 rw [e1]
 exact ⟨rfl,o.sub⟩
theorem Hp3 (j:Int) (p:ProcS):Ct A7 Ay1 [.agg ⟨int j :: D8 p⟩] [] fun v own=>v = .bool (p.state != 2) ∧ own []:=by
 refine Ct.of En5 rfl fun h r=>Tr.eq (En4 ..) ?_; (try simp only[Nr,Nl,Nat.reduceAdd,Nat.reduceMul,Int.reduceToNat])
 (repeat' first|refine Gu ?_|(with_reducible first|refine Gn fun b h=>?_|apply Gx|apply Gy|rintro px rfl|refine fun(h:H)=>?_|intro hb)|refine Gs ?_|refine Gt ?_|exact Gz rfl|fail)
 refine Tr.some fun o=>?_
 exact ⟨rfl,o.sub⟩
end Go.EQ

set_option maxRecDepth 10000
namespace Go.EQ
open Go Go.NN
def D19 (X:CX) (n:Nat):List (Int × ProcS) → List Value × CX
 | []=>(if n = 0 then As1 0 110 false else As1 0 0 true,X)
 | s :: l=>if s.2.state = 2 then (As1 (256 * s.1 + s.2.code) 0 false,Er2 X s.1) else D19 X n l
def Ey8 (X:CX) (i:Int):List Value × CX :=
 if (O0 X i).2 ≠ 0 then (As1 0 (O0 X i).2 false,X)
 else D19 X (V2 X (fun _ p=>p.parent == i + 1) 8 0).length (V2 X (fun _ p=>p.parent == i + 1) 8 0)
theorem D06 {nc:Nat} {X:CX} (c:Clean nc X) (q:Int → ProcS → Bool):∀ (m:Nat) (i:Int),0 ≤ i → i + m = 8 → ∀ s ∈ V2 X q m i,0 ≤ s.1 ∧ s.1 < 8 ∧ okS s.2 = true
 | 0,i,_,_,s,hs=>by simp [V2] at hs
 | m + 1,i,h0,hi,s,hs=>by
  rw [show V2 X q (m + 1) i = if (vS X i).2 = 1 ∧ q i (vS X i).1 = true then (i,(vS X i).1) :: V2 X q m (i + 1) else V2 X q m (i + 1) from rfl] at hs
  split at hs
  ·rename_i h1
   rcases List.mem_cons.1 hs with rfl | h2
   ·refine ⟨h0,by simp only; omega,?_⟩
    rcases Hs9 c (i:=i) (by omega) with ⟨h3,_⟩ | ⟨_,h3⟩
    ·rw [h1.1] at h3; cases h3
    ·exact h3
   ·exact D06 c q m (i + 1) (by omega) (by omega) s h2
  ·exact D06 c q m (i + 1) (by omega) (by omega) s hs
theorem Hn4 {p:ProcS} (h:okS p = true):0 ≤ p.code ∧ p.code ≤ 255:=by
 unfold okS at h
 simp only [Bool.and_eq_true,Bool.not_eq_true',Bool.or_eq_false_iff,decide_eq_false_iff_not] at h
 have:=h.1
 omega
abbrev H53:List Value:=[int 0,int 0,.slice none 0 0,.bool false]
theorem G85 (b k:Nat) (F:Fr) (X:CX) (ok:FrOk F) {nc:Nat} (c:Clean nc X) (b4:Nat) (L:List (Int × ProcS)) (hL:∀ s ∈ L,0 ≤ s.1 ∧ s.1 < 8 ∧ okS s.2 = true) (h8:L.length ≤ 8) (a:Option Addr) (ac:Nat):∀ (m i:Nat),i + m = L.length →
  CtJ G1 Ah1 Be2 [(0,P0 b),(4,P0 b4),(7,.slice a L.length ac),(23,.slice a L.length ac),(24,int L.length),(25,int i)] [slC false U3 17 a L.length ac (L.flatMap Da1),pt b4 (.cells Ah3 false H53),cmC b k F X] fun v own =>
   v = .agg ⟨(D19 X L.length (L.drop i)).1⟩ ∧ own [cmC b k F (D19 X L.length (L.drop i)).2]:=by
 intro m
 induction m with
 | zero =>
  intro i hi
  rw [show L.drop i = [] from List.drop_eq_nil_of_le (by omega),show D19 X L.length [] = (if L.length = 0 then As1 0 110 false else As1 0 0 true,X) from rfl]
  refine CtJ.of Dp8 fun h r=>Tr.eq (Du5 ..) ?_; (try simp only[Nr,Nl,Nat.reduceAdd,Nat.reduceMul,Int.reduceToNat])
  refine Tr.condF (by simp; omega) ?_
  by_cases hz:L.length = 0
  ·rw [if_pos hz]
   refine Tr.condT (by simp [hz]) ?_
   refine Tr.xCall (Dd0 110) ?_; rintro _ h ⟨rfl,o⟩ <;> (refine (?_:Tr _ _ _ _) o; (try simp only[Nr,Nl,Nat.reduceAdd,Nat.reduceMul,Int.reduceToNat]); (repeat' first|refine Gu ?_|(with_reducible first|refine Gn fun b h=>?_|apply Gx|apply Gy|rintro px rfl|refine fun(h:H)=>?_|intro hb)|refine Gs ?_|refine Gt ?_|exact Gz rfl|fail))
   refine Tr.some fun o=>?_
   exact ⟨rfl,o.sub⟩
  ·rw [if_neg hz]
   refine Tr.condF (by simpa using hz) ?_
   (repeat' first|refine Gu ?_|(with_reducible first|refine Gn fun b h=>?_|apply Gx|apply Gy|rintro px rfl|refine fun(h:H)=>?_|intro hb)|refine Gs ?_|refine Gt ?_|exact Gz rfl|fail)
   refine Tr.some fun o=>?_
   exact ⟨rfl,o.sub⟩
 | succ m ih =>
  intro i hi
  have hil:i < L.length:=by omega
  have e1:IntKind.wrap .i64 ((i:Int) + 1) = ((i + 1:Nat):Int):=by rw [A6]; omega
  have hg:L[i]? = some L[i]:=List.getElem?_eq_getElem hil
  have hd:L.drop i = L[i] :: L.drop (i + 1):=List.drop_eq_getElem_cons hil
  obtain ⟨r1,r2,r3⟩:=hL _ (List.getElem_mem hil)
  rw [hd]
  generalize L[i] = s at hg r1 r2 r3
  obtain ⟨j,p⟩:=s
  simp only at r1 r2 r3
  rw [show D19 X L.length ((j,p) :: L.drop (i + 1)) = if p.state = 2 then (As1 (256 * j + p.code) 0 false,Er2 X j) else D19 X L.length (L.drop (i + 1)) from rfl]
  have hpart:=A39 (f:=Da1) (k:=17) (fun x=>Ba9 x.1 x.2) hg
  have hlen:=Q0 (f:=Da1) (k:=17) (fun x=>Ba9 x.1 x.2) L
  have hc:=Hn4 r3
  have e2:IntKind.wrap .i64 (256 * j) = 256 * j:=by rw [A6]; omega
  have e3:IntKind.wrap .i64 (256 * j + p.code) = 256 * j + p.code:=by rw [A6]; omega
  refine CtJ.of Dp8 fun h r=>Tr.eq (Du5 ..) ?_; (try simp only[Nr,Nl,Nat.reduceAdd,Nat.reduceMul,Int.reduceToNat])
  refine Tr.condT (by simp; omega) ?_
  rw [e1]
  refine Z6 0 rfl fun h1 h2 h3=>?_
  (repeat' first|refine Gu ?_|(with_reducible first|apply Gx|apply Gy|rintro px rfl|refine fun(h:H)=>?_|intro hb)|refine Gs ?_|refine Gt ?_|exact Gz rfl|fail)
  rw [Int.toNat_natCast]
  refine Tr.xAggS (xs:=Da1 (j,p)) ⟨by omega,by omega,hpart⟩ ?_
  refine Tr.nw fun b2 h=>?_
  (repeat' first|refine Gu ?_|(with_reducible first|refine Gn fun b h=>?_|apply Gx|apply Gy|rintro px rfl|refine fun(h:H)=>?_|intro hb)|refine Gs ?_|refine Gt ?_|exact Gz rfl|fail)
  refine Tr.xCall (Hp3 j p) ?_; rintro _ h ⟨rfl,o⟩ <;> (refine (?_:Tr _ _ _ _) o; (try simp only[Nr,Nl,Nat.reduceAdd,Nat.reduceMul,Int.reduceToNat]))
  (repeat' first|refine Gu ?_|(with_reducible first|refine Gn fun b h=>?_|apply Gx|apply Gy|rintro px rfl|refine fun(h:H)=>?_|intro hb)|refine Gs ?_|refine Gt ?_|exact Gz rfl|fail)
  by_cases hz:p.state = 2
  ·rw [if_pos hz]
   refine Tr.condT (by simp [hz]) ?_
   (repeat' first|refine Gu ?_|(with_reducible first|refine Gn fun b h=>?_|apply Gx|apply Gy|rintro px rfl|refine fun(h:H)=>?_|intro hb)|refine Gs ?_|refine Gt ?_|exact Gz rfl|fail)
   refine Tr.xCall (Gs7 b k F X ok j) ?_; rintro _ h ⟨rfl,o⟩ <;> (refine (?_:Tr _ _ _ _) o; (try simp only[Nr,Nl,Nat.reduceAdd,Nat.reduceMul,Int.reduceToNat]))
   rw [(E64 c ⟨r1,r2⟩).1]
   dsimp only
   (repeat' first|refine Gu ?_|(with_reducible first|refine Gn fun b h=>?_|apply Gx|apply Gy|rintro px rfl|refine fun(h:H)=>?_|intro hb)|refine Gs ?_|refine Gt ?_|exact Gz rfl|fail)
   rw [e2,e3]
   refine Tr.xCall (G25 true (256 * j + p.code)) ?_; rintro _ h ⟨rfl,o⟩ <;> (refine (?_:Tr _ _ _ _) o; (try simp only[Nr,Nl,Nat.reduceAdd,Nat.reduceMul,Int.reduceToNat]))
   rw [if_pos trivial]
   (repeat' first|refine Gu ?_|(with_reducible first|refine Gn fun b h=>?_|apply Gx|apply Gy|rintro px rfl|refine fun(h:H)=>?_|intro hb)|refine Gs ?_|refine Gt ?_|exact Gz rfl|fail)
   refine Tr.some fun o=>?_
   exact ⟨rfl,o.sub⟩
  ·rw [if_neg hz]
   refine Tr.condF (by simp [hz]) ?_
   refine L7 [1,1,1] 1 rfl rfl ?_
   refine Tr.xRun (ih (i + 1) (by omega)) ?_
   intro v h q
   exact q
theorem G34 (b k:Nat) (F:Fr) (X:CX) (ok:FrOk F) {nc:Nat} (c:Clean nc X) (i:Int) (hi:0 ≤ i ∧ i < 8):Ct A7 Ah1 [P0 b,int i] [cmC b k F X] fun v own=>v = .agg ⟨(Ey8 X i).1⟩ ∧ own [cmC b k F (Ey8 X i).2]:=by
 unfold Ey8
 refine Ct.of Dp8 rfl fun h r=>Tr.eq (Gw4 ..) ?_; (try simp only[Nr,Nl,Nat.reduceAdd,Nat.reduceMul,Int.reduceToNat])
 refine Tr.nw fun bi h=>?_
 refine Tr.nw fun b4 h=>?_
 (repeat' first|refine Gu ?_|(with_reducible first|refine Gn fun b h=>?_|apply Gx|apply Gy|rintro px rfl|refine fun(h:H)=>?_|intro hb)|refine Gs ?_|refine Gt ?_|exact Gz rfl|fail)
 refine Tr.xCall (E62 b k F X ok c i hi) ?_; rintro _ h ⟨rfl,o⟩ <;> (refine (?_:Tr _ _ _ _) o; (try simp only[Nr,Nl,Nat.reduceAdd,Nat.reduceMul,Int.reduceToNat]))
 (repeat' first|refine Gu ?_|(with_reducible first|apply Gx|apply Gy|rintro px rfl|refine fun(h:H)=>?_|intro hb)|refine Gs ?_|refine Gt ?_|exact Gz rfl|fail)
 refine Tr.nw fun b2 h=>?_
 (repeat' first|refine Gu ?_|(with_reducible first|refine Gn fun b h=>?_|apply Gx|apply Gy|rintro px rfl|refine fun(h:H)=>?_|intro hb)|refine Gs ?_|refine Gt ?_|exact Gz rfl|fail)
 by_cases h0:(O0 X i).2 = 0
 case neg =>
  rw [if_pos h0]
  refine Tr.condT (by simpa using h0) ?_
  refine Tr.xCall (Dd0 (O0 X i).2) ?_; rintro _ h ⟨rfl,o⟩ <;> (refine (?_:Tr _ _ _ _) o; (try simp only[Nr,Nl,Nat.reduceAdd,Nat.reduceMul,Int.reduceToNat]); (repeat' first|refine Gu ?_|(with_reducible first|refine Gn fun b h=>?_|apply Gx|apply Gy|rintro px rfl|refine fun(h:H)=>?_|intro hb)|refine Gs ?_|refine Gt ?_|exact Gz rfl|fail))
  refine Tr.some fun o=>?_
  exact ⟨rfl,o.sub⟩
 rw [if_neg (by simpa using h0)]
 refine Tr.condF (by simpa using h0) ?_
 refine Tr.xCall (Hs3 b k F X ok c (pt bi (.cells B2 false [int i])) A58 [P0 bi] (fun _ p=>p.parent == i + 1) (fun j p=>Hs1 bi i hi j p)) ?_; rintro _ h ⟨a,ac,rfl,o⟩ <;> (refine (?_:Tr _ _ _ _) o; (try simp only[Nr,Nl,Nat.reduceAdd,Nat.reduceMul,Int.reduceToNat]))
 (repeat' first|refine Gu ?_|(with_reducible first|refine Gn fun b h=>?_|apply Gx|apply Gy|rintro px rfl|refine fun(h:H)=>?_|intro hb)|refine Gs ?_|refine Gt ?_|exact Gz rfl|fail)
 refine L7 [0,3,0] 2 rfl rfl ?_
 refine Tr.xRun (G85 b k F X ok c b4 _ (D06 c _ 8 0 (by omega) (by omega)) (E07 X _ 8 0) a ac _ 0 (Nat.zero_add _)) ?_
 intro v h q
 exact q
end Go.EQ

set_option maxRecDepth 10000
namespace Go.EQ
open Go Go.NN
def p0:ProcS:=⟨1,0,0,0,0,0,0,0,[1,0,0,0,0,0,0,0],rfl⟩
def f0:FileS:=⟨3,0,1,0⟩
def Au2:List UInt8:=I4 (I4 Z1 0 (D97 p0)) 192 (Af7 f0)
theorem Bs9:Au2.length = 492:=by kernel_rfl
theorem Ed8:(D97 p0).length = 24:=by kernel_rfl
theorem Gc4 (l b:List UInt8) (a:Nat):(A0 l).take a ++ A0 b ++ (A0 l).drop (a + (A0 b).length) = A0 (I4 l a b):=by
 rw [Q1]
 simp [I4,A0,List.map_take,List.map_drop]
theorem Ht2 {b:List UInt8} (h:0 < b.length):A0 b ≠ []:=by
 intro e
 have e2:=congrArg List.length e
 rw [Q1] at e2
 have e3:b.length = 0:=e2
 omega
theorem Gs6:Ct A7 A70 [] [] fun v own=>∃ a,v = .slice a 492 492 ∧ own [slC false A3 1 a 492 492 (A0 Au2)]:=by
 refine Ct.of Ge7 rfl fun h r=>Tr.eq (Ge5 ..) ?_; (try simp only[Nr,Nl,Nat.reduceAdd,Nat.reduceMul,Int.reduceToNat])
 refine Tr.xCall (Gd5) ?_; rintro _ h ⟨rfl,o⟩ <;> (refine (?_:Tr _ _ _ _) o; (try simp only[Nr,Nl,Nat.reduceAdd,Nat.reduceMul,Int.reduceToNat]))
 (repeat' first|refine Gu ?_|(with_reducible first|apply Gx|apply Gy|rintro px rfl|refine fun(h:H)=>?_|intro hb)|refine Gs ?_|refine Gt ?_|exact Gz rfl|fail)
 rw [A02,Y7]
 refine Tr.ck (by simp [A8]) ?_
 refine Tr.nw fun b0 h=>?_
 refine Dh0 (n:=492) 0 rfl (by rw [Q1]; exact Y7) ?_
 (try simp only[Nr,Nl,Nat.reduceAdd,Nat.reduceMul,Int.reduceToNat])
 refine Tr.nw fun b1 h=>?_
 (repeat' first|refine Gu ?_|(with_reducible first|refine Gn fun b h=>?_|apply Gx|apply Gy|rintro px rfl|refine fun(h:H)=>?_|intro hb)|refine Gs ?_|refine Gt ?_|exact Gz rfl|fail)
 rw [show ([int 1,int 0,int 0,int 0,int 0,int 0,int 0,int 0,int 0,int 0,int 0,int 0,int 0,int 0,int 0,int 0]:List Value).set 8 (int 1) = D8 p0 from rfl]
 (repeat' first|refine Gu ?_|(with_reducible first|refine Gn fun b h=>?_|apply Gx|apply Gy|rintro px rfl|refine fun(h:H)=>?_|intro hb)|refine Gs ?_|refine Gt ?_|exact Gz rfl|fail)
 refine Tr.xCall (Hk8 p0) ?_; rintro _ h ⟨rfl,o⟩ <;> (refine (?_:Tr _ _ _ _) o; (try simp only[Nr,Nl,Nat.reduceAdd,Nat.reduceMul,Int.reduceToNat]))
 (repeat' first|refine Gu ?_|(with_reducible first|refine Gn fun b h=>?_|apply Gx|apply Gy|rintro px rfl|refine fun(h:H)=>?_|intro hb)|refine Gs ?_|refine Gt ?_|exact Gz rfl|fail)
 rw [show List.take (min (bs (D97 p0)).size 492) (bs (D97 p0)).data.toList = D97 p0 by kernel_rfl]
 rw [show B0 (I5 b0) = (B0 (I5 b0)).add 0 from rfl]
 refine Tr.xPAggS (cs':=A0 (I4 Z1 0 (D97 p0))) ⟨Ht2 (by rw [Ed8]; omega),by rw [Q1,Q1,Ed8,Y7]; omega,Ac9 _,Gc4 _ _ 0⟩ fun h=>?_
 (repeat' first|refine Gu ?_|(with_reducible first|refine Gn fun b h=>?_|apply Gx|apply Gy|rintro px rfl|refine fun(h:H)=>?_|intro hb)|refine Gs ?_|refine Gt ?_|exact Gz rfl|fail)
 refine Tr.xCall (Hl1 f0) ?_; rintro _ h ⟨rfl,o⟩ <;> (refine (?_:Tr _ _ _ _) o; (try simp only[Nr,Nl,Nat.reduceAdd,Nat.reduceMul,Int.reduceToNat]))
 (repeat' first|refine Gu ?_|(with_reducible first|refine Gn fun b h=>?_|apply Gx|apply Gy|rintro px rfl|refine fun(h:H)=>?_|intro hb)|refine Gs ?_|refine Gt ?_|exact Gz rfl|fail)
 rw [show List.take (min (bs (Af7 f0)).size (492 - 192)) (bs (Af7 f0)).data.toList = Af7 f0 by kernel_rfl]
 rw [E54 (by omega),Eg2]
 refine Tr.xPAggS (cs':=A0 Au2) ⟨Ht2 (by rw [De5]; omega),by rw [Q1,Q1,Ac7 (by rw [Ed8,Y7]; omega),De5,Y7]; omega,Ac9 _,Gc4 _ _ 192⟩ fun h=>?_
 refine Tr.some fun o=>?_
 exact ⟨_,rfl,o.sub⟩
end Go.EQ

set_option maxRecDepth 10000
namespace Go.EQ
open Go Go.NN
theorem G98 {S:KS} (kS:Like S) {s:Nat} {env:Int} (e:EnvP s env) {j:Nat} {cap:Int} {lo n:Nat} (hc:Ht9[j]? = some cap) (hr:(rgP s)[j]? = some (lo,n)) {b:List UInt8} (hb:b.length ≤ n) :
  V5 S env ⟨2,cap,0,0,0,0,b⟩ = ((0,0,[]),Bk5 S (I4 S.mem lo b)):=by
 have F:=E15 kS e
 have hroom:lo + n ≤ S.mem.length:=Dx9 kS e.hs env j lo n hr
 have hp:=F.pl j cap lo n hc hr 0 b.length 2 (.inr rfl) (by omega)
 have hs:A62 S.mem ((lo + 0:Nat):Int) b = some (I4 S.mem lo b):=by
  unfold A62
  rw [if_pos (by omega),Int.toNat_natCast,Nat.add_zero]; rfl
 have ew:Ah9 S.tabs S.regs S.mem env cap 0 b = (0,I4 S.mem lo b):=by
  unfold Ah9
  rw [show N9 S.tabs S.regs env cap 2 0 (b.length:Int) = (((lo + 0:Nat):Int),0) from hp]
  rw [if_neg (by simp),hs]
 unfold V5
 rw [if_neg (show ¬ (env < 0 ∨ env ≥ (S.envs.length:Int)) from F.env)]
 unfold kDo
 rw [if_neg (show ¬ ((2:Int) = 1) by decide),if_pos rfl,ew]
def q1:PipeS:=⟨0,0,1,1,List.replicate 32 0,rfl⟩
def S1:KS:=Bk5 S0 (I4 S0.mem 0 Au2)
def S2:KS:=Bk5 S1 (I4 S1.mem 512 (O5 q1))
def S3:KS:=Bk5 S2 (I4 S2.mem 1856 (O5 q1))
theorem Au1:(O5 q1).length = 40:=D00 q1.len
theorem Ex1:Like S1:=D31 Dm3 (by rw [Ac7 (by rw [Bs9,Dm3.mem]; omega)]; exact Dm3.mem)
theorem E38:Like S2:=D31 Ex1 (by rw [Ac7 (by rw [Au1,Ex1.mem]; omega)]; exact Ex1.mem)
theorem E10:Like S3:=D31 E38 (by rw [Ac7 (by rw [Au1,E38.mem]; omega)]; exact E38.mem)
theorem H54:V5 S0 0 ⟨2,256,0,0,0,0,Au2⟩ = ((0,0,[]),S1):=G98 Dm3 E67 (j:=0) rfl rfl (by rw [Bs9]; omega)
theorem H48:V5 S1 0 ⟨2,257,0,0,0,0,O5 q1⟩ = ((0,0,[]),S2):=G98 Ex1 E67 (j:=1) rfl rfl (by rw [Au1]; omega)
theorem H51:V5 S2 0 ⟨2,258,0,0,0,0,O5 q1⟩ = ((0,0,[]),S3):=G98 E38 E67 (j:=2) rfl rfl (by rw [Au1]; omega)
abbrev F1:Fr:=frP S3 0 0
def X1:CX:=⟨Br2 S3.mem (rgP 0),[]⟩
theorem Dn4:FrOk F1:=E15 E10 E67
theorem D11:Clean 3 X1:=by
 refine ⟨by kernel_rfl,by omega,rfl,by kernel_rfl,fun j h0 h1=>?_,fun r h1 h2 h3 h4=>?_⟩
 ·have:j = 1 ∨ j = 2:=by omega
  rcases this with rfl | rfl
  ·clear h0 h1; show (_:Nat) = _; kernel_rfl
  ·clear h0 h1; show (_:Nat) = _; kernel_rfl
 ·have all:((List.range 8).all (fun i=>decide (stR 1 (rd X1 ⟨1,(i:Int)⟩) ≠ 2)) && ((List.range 12).all (fun i=>decide (stR 2 (rd X1 ⟨2,(i:Int)⟩) ≠ 2)) && ((List.range 6).all (fun i=>decide (stR 3 (rd X1 ⟨3,(i:Int)⟩) ≠ 2)) && (decide (stR 4 (rd X1 ⟨4,0⟩) ≠ 2) && decide (stR 5 (rd X1 ⟨5,0⟩) ≠ 2))))) = true:=by kernel_rfl
  simp only [Bool.and_eq_true,List.all_eq_true,List.mem_range,decide_eq_true_eq] at all
  obtain ⟨a1,a2,a3,a4,a5⟩:=all
  obtain ⟨k,i⟩:=r
  simp only at h1 h2 h3 h4 ⊢
  obtain ⟨n,rfl⟩:∃ n:Nat,i = n:=⟨i.toNat,by omega⟩
  have hk:k = 1 ∨ k = 2 ∨ k = 3 ∨ k = 4 ∨ k = 5:=by omega
  rcases hk with rfl | rfl | rfl | rfl | rfl <;> simp [W2] at h4
  ·exact a1 n (by omega)
  ·exact a2 n (by omega)
  ·exact a3 n (by omega)
  ·obtain rfl:n = 0:=by omega
   exact a4
  ·obtain rfl:n = 0:=by omega
   exact a5
theorem G93 (k w m c:Nat) (b1:Nat) (cs:List Value) (hcs:cs.length = 7) (K:RKS) (hK:RKOk K) (hB:0 < K.B.envs.length) :
  CtJ G1 Ac0 A89 [(6,P0 k),(7,P0 c),(8,P0 w),(9,P0 m),(10,P0 b1),(11,.string (bs (O5 q1))),(12,int 1)] [pt b1 (.cells At9 false cs),B8 k S1,rkC w K] fun v own =>
   v = .tuple ⟨[P0 k,P0 c,P0 w,P0 m]⟩ ∧ ∃ K',own [B8 k S3,rkC w K']:=by
 have hset:∀ xs:List Value,xs.length = 7 → ∀ vs:List Value,vs.length = 7 → vs.all Value.oneCell = true → D33 xs 0 vs = some vs:=fun xs h vs h1 h2=>Bq1 h h1 h2
 refine CtJ.of Bv9 fun h r=>Tr.eq (Br5 ..) ?_; (try simp only[Nr,Nl,Nat.reduceAdd,Nat.reduceMul,Int.reduceToNat])
 refine Tr.condT rfl ?_
 rw [A02,Au1]
 refine Tr.ck (by simp [A8]) ?_
 refine Tr.nw fun b2 h=>?_
 refine Dh0 (n:=40) 0 rfl (by rw [Q1]; exact Au1) ?_
 (try simp only[Nr,Nl,Nat.reduceAdd,Nat.reduceMul,Int.reduceToNat])
 rw [show IntKind.wrap .i64 (256 + 1) = 257 by decide]
 refine Gs (fun h=>?_) (by exact hset cs hcs _ rfl rfl)
 (repeat' first|refine Gu ?_|(with_reducible first|refine Gn fun b h=>?_|apply Gx|apply Gy|rintro px rfl|refine fun(h:H)=>?_|intro hb)|refine Gs ?_|refine Gt ?_|exact Gz rfl|fail)
 have J1:=Dt8 k S1 0 Ex1.ok (by omega) 0 ⟨2,257,0,0,0,0,O5 q1⟩ (some (I5 b2)) 40 false (show ((2:Int) ≠ 5) by decide)
 rw [H48] at J1
 simp only [Be6,Au1] at J1
 refine Bm5 J1 [2,0] rfl ?_
 rintro _ h ⟨y,z,rfl,o⟩
 refine (?_:Tr _ _ _ _) o
 (try simp only[Nr,Nl,Nat.reduceAdd,Nat.reduceMul,Int.reduceToNat])
 (repeat' first|refine Gu ?_|(with_reducible first|refine Gn fun b h=>?_|apply Gx|apply Gy|rintro px rfl|refine fun(h:H)=>?_|intro hb)|refine Gs ?_|refine Gt ?_|exact Gz rfl|fail)
 have R1:=Ej9 w K hK 0 hB ⟨2,257,0,0,0,0,O5 q1⟩ rfl (by rw [Au1]; simp [A8]) (slC false A3 1 (some (I5 b2)) (O5 q1).length 40 (A0 (O5 q1))) (some (I5 b2)) 40 false
 simp only [Be6,Au1] at R1
 refine Bm5 R1 [4,2] rfl ?_
 rintro _ h ⟨rfl,o⟩
 rw [show ({ K with R:=(Ae7 K.R ((0:Nat):Int) 257 0 (O5 q1)).2 }:RKS) = wrR K 257 (O5 q1) from rfl] at o
 have hK1:=E06 hK 257 (O5 q1)
 refine (?_:Tr _ _ _ _) o
 (try simp only[Nr,Nl,Nat.reduceAdd,Nat.reduceMul,Int.reduceToNat])
 (repeat' first|refine Gu ?_|(with_reducible first|refine Gn fun b h=>?_|apply Gx|apply Gy|rintro px rfl|refine fun(h:H)=>?_|intro hb)|refine Gs ?_|refine Gt ?_|exact Gz rfl|fail)
 refine Tr.jmp Bv9 (Tr.eq (Br5 ..) ?_); (try simp only[Nr,Nl,wl,Nat.reduceAdd,Nat.reduceMul,Int.reduceToNat])
 refine Tr.condT rfl ?_
 rw [A02,Au1]
 refine Tr.ck (by simp [A8]) ?_
 refine Tr.nw fun b3 h=>?_
 refine Dh0 (n:=40) 0 rfl (by rw [Q1]; exact Au1) ?_
 (try simp only[Nr,Nl,Nat.reduceAdd,Nat.reduceMul,Int.reduceToNat])
 rw [show IntKind.wrap .i64 (256 + 2) = 258 by decide]
 refine Gs (fun h=>?_) (by exact hset _ rfl _ rfl rfl)
 (repeat' first|refine Gu ?_|(with_reducible first|refine Gn fun b h=>?_|apply Gx|apply Gy|rintro px rfl|refine fun(h:H)=>?_|intro hb)|refine Gs ?_|refine Gt ?_|exact Gz rfl|fail)
 have J2:=Dt8 k S2 0 E38.ok (by omega) 0 ⟨2,258,0,0,0,0,O5 q1⟩ (some (I5 b3)) 40 false (show ((2:Int) ≠ 5) by decide)
 rw [H51] at J2
 simp only [Be6,Au1] at J2
 refine Bm5 J2 [4,0] rfl ?_
 rintro _ h ⟨y2,z2,rfl,o⟩
 refine (?_:Tr _ _ _ _) o
 (try simp only[Nr,Nl,Nat.reduceAdd,Nat.reduceMul,Int.reduceToNat])
 (repeat' first|refine Gu ?_|(with_reducible first|refine Gn fun b h=>?_|apply Gx|apply Gy|rintro px rfl|refine fun(h:H)=>?_|intro hb)|refine Gs ?_|refine Gt ?_|exact Gz rfl|fail)
 have R2:=Ej9 w (wrR K 257 (O5 q1)) hK1 0 hB ⟨2,258,0,0,0,0,O5 q1⟩ rfl (by rw [Au1]; simp [A8]) (slC false A3 1 (some (I5 b3)) (O5 q1).length 40 (A0 (O5 q1))) (some (I5 b3)) 40 false
 simp only [Be6,Au1] at R2
 refine Bm5 R2 [3,2] rfl ?_
 rintro _ h ⟨rfl,o⟩
 rw [show ({ wrR K 257 (O5 q1) with R:=(Ae7 (wrR K 257 (O5 q1)).R ((0:Nat):Int) 258 0 (O5 q1)).2 }:RKS) = wrR (wrR K 257 (O5 q1)) 258 (O5 q1) from rfl] at o
 refine (?_:Tr _ _ _ _) o
 (try simp only[Nr,Nl,Nat.reduceAdd,Nat.reduceMul,Int.reduceToNat])
 (repeat' first|refine Gu ?_|(with_reducible first|refine Gn fun b h=>?_|apply Gx|apply Gy|rintro px rfl|refine fun(h:H)=>?_|intro hb)|refine Gs ?_|refine Gt ?_|exact Gz rfl|fail)
 refine Tr.jmp Bv9 (Tr.eq (Br5 ..) ?_); (try simp only[Nr,Nl,wl,Nat.reduceAdd,Nat.reduceMul,Int.reduceToNat])
 refine Tr.condF rfl ?_
 refine Tr.some fun o=>?_
 exact ⟨rfl,_,o.fin [3,0] 5 rfl rfl⟩
theorem Ht7:RKOk K0:=E06 Dv4.1 256 Z1
theorem G23:0 < K0.B.envs.length:=by show (0:Nat) < (B64 Ae4).B.envs.length; rw [Dv4.2,Bn6]; simp
theorem G45 (a:Option Addr):Ct A7 Ac0 [.slice a 492 492] [slC false A3 1 a 492 492 (A0 Au2)] fun v own=>∃ k c w m K',v = .tuple ⟨[P0 k,P0 c,P0 w,P0 m]⟩ ∧ own [cmC c k F1 X1,rkC w K',rcC m w 0 (Bq4 K0 0) []]:=by
 refine Ct.of Bv9 rfl fun h r=>Tr.eq (Gn2 ..) ?_; (try simp only[Nr,Nl,Nat.reduceAdd,Nat.reduceMul,Int.reduceToNat])
 refine Tr.xCall (Hr4) ?_; rintro _ h ⟨A,rfl,o⟩ <;> (refine (?_:Tr _ _ _ _) o; (try simp only[Nr,Nl,Nat.reduceAdd,Nat.reduceMul,Int.reduceToNat]))
 (repeat' first|refine Gu ?_|(with_reducible first|refine Gn fun b h=>?_|apply Gx|apply Gy|rintro px rfl|refine fun(h:H)=>?_|intro hb)|refine Gs ?_|refine Gt ?_|exact Gz rfl|fail)
 refine Tr.xCall (Hq5 A) ?_
 rintro _ h ⟨k,c,w,m,rfl,o⟩
 refine (?_:Tr _ _ _ _) o
 (try simp only[Nr,Nl,Nat.reduceAdd,Nat.reduceMul,Int.reduceToNat])
 (repeat' first|refine Gu ?_|(with_reducible first|refine Gn fun b h=>?_|rintro px rfl|refine fun(h:H)=>?_|intro hb)|refine Gs ?_|refine Gt ?_|exact Gz rfl|fail)
 refine Tr.bnd (Tr.condF rfl ?_)
 refine Tr.some fun o=>(?_:Tr _ _ _ _) o; (try simp only[Nr,Nl,Nat.reduceAdd,Nat.reduceMul,Int.reduceToNat])
 refine Tr.condF rfl ?_
 refine Hz7 c k F0 X0 fun f=>?_
 rw [show F0.at X0.m = S0 from Fr.at_cut Ht3 (Dx9 Dm3 (by omega) 0)]
 refine (?_:Tr (B8 k S0 :: S8 c k 0 Ht9 [] :: _) _ _ _)
 refine Tr.nw fun b1 h=>?_
 (repeat' first|refine Gu ?_|(with_reducible first|refine Gn fun b h=>?_|apply Gx|apply Gy|rintro px rfl|refine fun(h:H)=>?_|intro hb)|refine Gs ?_|refine Gt ?_|exact Gz rfl|fail)
 refine Tr.xCall (Gb5 q1) ?_; rintro _ h ⟨rfl,o⟩ <;> (refine (?_:Tr _ _ _ _) o; (try simp only[Nr,Nl,Nat.reduceAdd,Nat.reduceMul,Int.reduceToNat]))
 (repeat' first|refine Gu ?_|(with_reducible first|refine Gn fun b h=>?_|apply Gx|apply Gy|rintro px rfl|refine fun(h:H)=>?_|intro hb)|refine Gs ?_|refine Gt ?_|exact Gz rfl|fail)
 have J1:=Dt8 k S0 0 Dm3.ok (by omega) 0 ⟨2,256,0,0,0,0,Au2⟩ a 492 false (show ((2:Int) ≠ 5) by decide)
 rw [H54] at J1
 simp only [Be6,Bs9] at J1
 refine Bm5 J1 [1,4] rfl ?_
 rintro _ h ⟨y,z,rfl,o⟩
 refine (?_:Tr _ _ _ _) o
 (try simp only[Nr,Nl,Nat.reduceAdd,Nat.reduceMul,Int.reduceToNat])
 (repeat' first|refine Gu ?_|(with_reducible first|refine Gn fun b h=>?_|apply Gx|apply Gy|rintro px rfl|refine fun(h:H)=>?_|intro hb)|refine Gs ?_|refine Gt ?_|exact Gz rfl|fail)
 have R1:=Ej9 w K0 Ht7 0 G23 ⟨2,256,0,0,0,0,Au2⟩ rfl (by rw [Bs9]; simp [A8]) (slC false A3 1 a Au2.length 492 (A0 Au2)) a 492 false
 simp only [Be6,Bs9] at R1
 refine Bm5 R1 [5,2] rfl ?_
 rintro _ h ⟨rfl,o⟩
 rw [show ({ K0 with R:=(Ae7 K0.R ((0:Nat):Int) 256 0 Au2).2 }:RKS) = wrR K0 256 Au2 from rfl] at o
 refine (?_:Tr _ _ _ _) o
 (try simp only[Nr,Nl,Nat.reduceAdd,Nat.reduceMul,Int.reduceToNat])
 (repeat' first|refine Gu ?_|(with_reducible first|refine Gn fun b h=>?_|apply Gx|apply Gy|rintro px rfl|refine fun(h:H)=>?_|intro hb)|refine Gs ?_|refine Gt ?_|exact Gz rfl|fail)
 refine Dt9 (G93 k w m c b1 _ rfl (wrR K0 256 Au2) (E06 Ht7 256 Au2) G23) [4,3,0] rfl ?_
 rintro _ h ⟨rfl,K',o⟩
 refine ⟨k,c,w,m,K',rfl,?_⟩
 exact Own.cmTake c k F1 [] Dn4 (Dx9 E10 (by omega) 0) (o.fin [0,3,0,2] 2 rfl rfl)
end Go.EQ

set_option maxRecDepth 10000
namespace Go.EQ
open Go Go.NN
theorem Ez7 {nc:Nat} {X:CX} (c:Clean nc X) {i:Int} (hi:0 ≤ i ∧ i < 8):Clean nc (A38 X i).2:=by
 unfold A38
 by_cases h0:(O0 X i).2 = 0
 case neg=>rw [if_pos h0]; exact c
 rw [if_neg (by simpa using h0)]
 by_cases h1:U7 X 8 0 < 0
 ·rw [if_pos h1]; exact c
 rw [if_neg h1]
 by_cases h2:(P2 X (O0 X i).1).1 = 0
 case neg=>rw [if_pos h2]; exact c
 rw [if_neg (by simpa using h2)]
 obtain ⟨s1,s2,s3,s4⟩:=Eu4 c hi h0
 have hf:Br4 (O0 X i).1.fds:=by rw [s1]; exact E94 s3
 have hok:okS (Ao4 (O0 X i).1 i) = true:=by rw [s1]; exact Ew2 s3 s2 hi
 have hin:InS (Ao4 (O0 X i).1 i):=by
  have:=E58 (rd X ⟨1,i⟩)
  rw [s1]
  exact ⟨by simp,this.b,this.c,this.d⟩
 have hfr:0 ≤ U7 X 8 0 ∧ U7 X 8 0 < 8:=by
  rcases Ed7 (X:=X) 8 0 (by omega) (by omega) with h | h <;> omega
 exact (B01 (Dj0 c hf h2).1 hfr hok hin).2.1
def X2:CX:=(A38 X1 0).2
theorem Gj4:Clean 3 X2:=Ez7 D11 (by omega)
theorem H44:Ey8 X1 0 = (As1 0 110 false,X1):=by kernel_rfl
theorem H33:(A38 X1 0).1 = As1 1 0 false:=by kernel_rfl
theorem H41:Ey8 X2 0 = (As1 0 0 true,X2):=by kernel_rfl
theorem H47:O0 X2 1 = (Ao4 p0 0,0):=by kernel_rfl
theorem Hc1:Ct A7 Bl0 [] [] fun v own=>v = .bool true ∧ own []:=by
 refine Ct.of Gg4 rfl fun h r=>Tr.eq (Gh4 ..) ?_; (try simp only[Nr,Nl,Nat.reduceAdd,Nat.reduceMul,Int.reduceToNat])
 refine Tr.xCall (Gs6) ?_; rintro _ h ⟨a,rfl,o⟩ <;> (refine (?_:Tr _ _ _ _) o; (try simp only[Nr,Nl,Nat.reduceAdd,Nat.reduceMul,Int.reduceToNat]))
 (repeat' first|refine Gu ?_|(with_reducible first|refine Gn fun b h=>?_|apply Gx|apply Gy|rintro px rfl|refine fun(h:H)=>?_|intro hb)|refine Gs ?_|refine Gt ?_|exact Gz rfl|fail)
 refine Tr.xCall (G45 a) ?_
 rintro _ h ⟨k,c,w,m,K',rfl,o⟩
 refine (?_:Tr _ _ _ _) o
 (try simp only[Nr,Nl,Nat.reduceAdd,Nat.reduceMul,Int.reduceToNat])
 (repeat' first|refine Gu ?_|(with_reducible first|refine Gn fun b h=>?_|apply Gx|apply Gy|rintro px rfl|refine fun(h:H)=>?_|intro hb)|refine Gs ?_|refine Gt ?_|exact Gz rfl|fail)
 refine Tr.xCall (G34 c k F1 X1 Dn4 D11 0 (by omega)) ?_; rintro _ h ⟨rfl,o⟩ <;> (refine (?_:Tr _ _ _ _) o; (try simp only[Nr,Nl,Nat.reduceAdd,Nat.reduceMul,Int.reduceToNat]))
 rw [H44]
 dsimp only
 (repeat' first|refine Gu ?_|(with_reducible first|apply Gx|apply Gy|rintro px rfl|refine fun(h:H)=>?_|intro hb)|refine Gs ?_|refine Gt ?_|exact Gz rfl|fail)
 refine Tr.nw fun b1 h=>?_
 (repeat' first|refine Gu ?_|(with_reducible first|refine Gn fun b h=>?_|apply Gx|apply Gy|rintro px rfl|refine fun(h:H)=>?_|intro hb)|refine Gs ?_|refine Gt ?_|exact Gz rfl|fail)
 refine Tr.xCall (E50 c k F1 X1 Dn4 D11 0 (by omega)) ?_; rintro _ h ⟨rfl,o⟩ <;> (refine (?_:Tr _ _ _ _) o; (try simp only[Nr,Nl,Nat.reduceAdd,Nat.reduceMul,Int.reduceToNat]))
 rw [H33,show (A38 X1 0).2 = X2 from rfl]
 (repeat' first|refine Gu ?_|(with_reducible first|apply Gx|apply Gy|rintro px rfl|refine fun(h:H)=>?_|intro hb)|refine Gs ?_|refine Gt ?_|exact Gz rfl|fail)
 refine Tr.nw fun b2 h=>?_
 (repeat' first|refine Gu ?_|(with_reducible first|refine Gn fun b h=>?_|apply Gx|apply Gy|rintro px rfl|refine fun(h:H)=>?_|intro hb)|refine Gs ?_|refine Gt ?_|exact Gz rfl|fail)
 refine Tr.xCall (G34 c k F1 X2 Dn4 Gj4 0 (by omega)) ?_; rintro _ h ⟨rfl,o⟩ <;> (refine (?_:Tr _ _ _ _) o; (try simp only[Nr,Nl,Nat.reduceAdd,Nat.reduceMul,Int.reduceToNat]))
 rw [H41]
 dsimp only
 (repeat' first|refine Gu ?_|(with_reducible first|apply Gx|apply Gy|rintro px rfl|refine fun(h:H)=>?_|intro hb)|refine Gs ?_|refine Gt ?_|exact Gz rfl|fail)
 refine Tr.nw fun b3 h=>?_
 (repeat' first|refine Gu ?_|(with_reducible first|refine Gn fun b h=>?_|apply Gx|apply Gy|rintro px rfl|refine fun(h:H)=>?_|intro hb)|refine Gs ?_|refine Gt ?_|exact Gz rfl|fail)
 refine Tr.xCall (E62 c k F1 X2 Dn4 Gj4 1 (by omega)) ?_; rintro _ h ⟨rfl,o⟩ <;> (refine (?_:Tr _ _ _ _) o; (try simp only[Nr,Nl,Nat.reduceAdd,Nat.reduceMul,Int.reduceToNat]))
 rw [H47]
 dsimp only
 (repeat' first|refine Gu ?_|(with_reducible first|apply Gx|apply Gy|rintro px rfl|refine fun(h:H)=>?_|intro hb)|refine Gs ?_|refine Gt ?_|exact Gz rfl|fail)
 refine Tr.nw fun b4 h=>?_
 (repeat' first|refine Gu ?_|(with_reducible first|refine Gn fun b h=>?_|rintro px rfl|refine fun(h:H)=>?_|intro hb)|refine Gs ?_|refine Gt ?_|exact Gz rfl|fail)
 refine Tr.bnd (Tr.condT rfl ?_)
 (repeat' first|refine Gu ?_|(with_reducible first|refine Gn fun b h=>?_|rintro px rfl|refine fun(h:H)=>?_|intro hb)|refine Gs ?_|refine Gt ?_|exact Gz rfl|fail)
 refine Tr.some fun o=>(?_:Tr _ _ _ _) o; (try simp only[Nr,Nl,Nat.reduceAdd,Nat.reduceMul,Int.reduceToNat])
 refine Tr.bnd (Tr.condT rfl ?_)
 (repeat' first|refine Gu ?_|(with_reducible first|refine Gn fun b h=>?_|rintro px rfl|refine fun(h:H)=>?_|intro hb)|refine Gs ?_|refine Gt ?_|exact Gz rfl|fail)
 refine Tr.some fun o=>(?_:Tr _ _ _ _) o; (try simp only[Nr,Nl,Nat.reduceAdd,Nat.reduceMul,Int.reduceToNat])
 refine Tr.bnd (Tr.condT rfl ?_)
 (repeat' first|refine Gu ?_|(with_reducible first|refine Gn fun b h=>?_|rintro px rfl|refine fun(h:H)=>?_|intro hb)|refine Gs ?_|refine Gt ?_|exact Gz rfl|fail)
 refine Tr.some fun o=>(?_:Tr _ _ _ _) o; (try simp only[Nr,Nl,Nat.reduceAdd,Nat.reduceMul,Int.reduceToNat])
 refine Tr.bnd (Tr.condT rfl ?_)
 refine Tr.some fun o=>(?_:Tr _ _ _ _) o; (try simp only[Nr,Nl,Nat.reduceAdd,Nat.reduceMul,Int.reduceToNat])
 refine Tr.bnd (Tr.condT rfl ?_)
 (repeat' first|refine Gu ?_|(with_reducible first|refine Gn fun b h=>?_|rintro px rfl|refine fun(h:H)=>?_|intro hb)|refine Gs ?_|refine Gt ?_|exact Gz rfl|fail)
 refine Tr.some fun o=>(?_:Tr _ _ _ _) o; (try simp only[Nr,Nl,Nat.reduceAdd,Nat.reduceMul,Int.reduceToNat])
 refine Tr.bnd (Tr.condT rfl ?_)
 (repeat' first|refine Gu ?_|(with_reducible first|refine Gn fun b h=>?_|rintro px rfl|refine fun(h:H)=>?_|intro hb)|refine Gs ?_|refine Gt ?_|exact Gz rfl|fail)
 refine Tr.some fun o=>(?_:Tr _ _ _ _) o; (try simp only[Nr,Nl,Nat.reduceAdd,Nat.reduceMul,Int.reduceToNat])
 refine Tr.some fun o=>?_
 refine ⟨rfl,?_⟩
 exact o.tail.tail.tail.tail.tail.tail.tail
end Go.EQ

set_option maxRecDepth 10000
namespace Go.EQ
open Go Go.NN
abbrev El5:List (Int × Int):=[(0,492),(1280,492),(512,40),(1856,40)]
theorem Hz3 (rg m s:Nat) (bs:List UInt8) (hl:bs.length = 2560):Ct A7 U5 [P0 rg,int 0] [V0 rg m s El5,Ab0 m bs] fun v own =>
  ∃ x d,v = .tuple ⟨[.slice x 492 d,int 0]⟩ ∧ own [slC false A3 1 x 492 d (A0 (slice bs 0 492)),V0 rg m s El5,Ab0 m bs]:=by
 have hb:B20 bs 0 492 = some (slice bs 0 492):=by unfold B20; rw [if_pos (by omega)]; rfl
 have hsl:(slice bs 0 492).length = 492:=Ef7 (by omega)
 refine Ct.of D26 rfl fun h r=>Tr.eq (D29 ..) ?_; (try simp only[Nr,Nl,Nat.reduceAdd,Nat.reduceMul,Int.reduceToNat])
 refine B1 (V0 rg m s El5) fun ⟨ra,rc⟩=>?_; (try simp only[Nr,Nl,Nat.reduceAdd,Nat.reduceMul,Int.reduceToNat])
 (repeat' first|refine Gu ?_|(with_reducible first|refine Gn fun b h=>?_|rintro px rfl|refine fun(h:H)=>?_|intro hb)|refine Gs ?_|refine Gt ?_|exact Gz rfl|fail)
 refine Tr.bnd (Tr.condF rfl ?_)
 (repeat' first|refine Gu ?_|(with_reducible first|refine Gn fun b h=>?_|rintro px rfl|refine fun(h:H)=>?_|intro hb)|refine Gs ?_|refine Gt ?_|exact Gz rfl|fail)
 refine Tr.some fun o=>(?_:Tr _ _ _ _) o; (try simp only[Nr,Nl,Nat.reduceAdd,Nat.reduceMul,Int.reduceToNat])
 refine Tr.condF rfl ?_
 (repeat' first|refine Gu ?_|(with_reducible first|refine Gn fun b h=>?_|apply Gx|apply Gy|rintro px rfl|refine fun(h:H)=>?_|intro hb)|refine Gs ?_|refine Gt ?_|exact Gz rfl|fail)
 refine He7 1 rfl (show 0 < El5.length by decide) fun px e=>?_
 subst e
 (repeat' first|refine Gu ?_|(with_reducible first|refine Gn fun b h=>?_|apply Gx|apply Gy|rintro px rfl|refine fun(h:H)=>?_|intro hb)|refine Gs ?_|refine Gt ?_|exact Gz rfl|fail)
 refine Tr.ck ⟨by omega,by decide⟩ ?_
 (repeat' first|refine Gu ?_|(with_reducible first|refine Gn fun b h=>?_|apply Gx|apply Gy|rintro px rfl|refine fun(h:H)=>?_|intro hb)|refine Gs ?_|refine Gt ?_|exact Gz rfl|fail)
 refine Tr.ck ⟨by omega,by decide⟩ ?_
 (repeat' first|refine Gu ?_|(with_reducible first|refine Gn fun b h=>?_|apply Gx|apply Gy|rintro px rfl|refine fun(h:H)=>?_|intro hb)|refine Gs ?_|refine Gt ?_|exact Gz rfl|fail)
 refine Tr.xCall (G22 m bs 0 492 (by omega)) ?_
 rintro v h (⟨l,x,d,e,rfl,o⟩ | ⟨e,_⟩)
 ·rw [hb] at e; cases e
  refine (?_:Tr _ _ _ _) o
  (try simp only[Nr,Nl,Nat.reduceAdd,Nat.reduceMul,Int.reduceToNat])
  rw [hsl]
  (repeat' first|refine Gu ?_|(with_reducible first|refine Gn fun b h=>?_|apply Gx|apply Gy|rintro px rfl|refine fun(h:H)=>?_|intro hb)|refine Gs ?_|refine Gt ?_|exact Gz rfl|fail)
  refine A9 (V0 rg m s El5) (some px,rc) ?_; (try simp only[Nr,Nl,Nat.reduceAdd,Nat.reduceMul,Int.reduceToNat])
  refine Tr.some fun o=>?_
  exact ⟨x,d,rfl,o.sub⟩
 ·rw [hb] at e; cases e
theorem Gs8 (k:Nat) (S:KS) (A:KA):CtP A7 N4 [P0 k] [pt k (.cells B15 false (Dz5 S A))] (P0 A.r):=by
 refine CtP.of D77 rfl fun h r=>Tr.eq (D81 ..) ?_; (try simp only[Nr,Nl,Nat.reduceAdd,Nat.reduceMul,Int.reduceToNat])
 (repeat' first|refine Gu ?_|(with_reducible first|refine Gn fun b h=>?_|apply Gx|apply Gy|rintro px rfl|refine fun(h:H)=>?_|intro hb)|refine Gs ?_|refine Gt ?_|exact Gz rfl|fail)
theorem H42 {S:KS} (kS:Like S) {env:Int} (e:EnvP 0 env) {m:List (List UInt8)} (f:Fit S.mem.length (rgP 0) m):slice (Ap0 S.mem (rgP 0) m) 0 492 = m.getD 0 []:=by
 obtain ⟨_,x,hx,hl⟩:=f.each 0 0 492 rfl
 have e0:m.getD 0 [] = x:=by rw [List.getD_eq_getElem?_getD,hx]; rfl
 have hs:=Ex9 f (E15 kS e).dj (j:=0) (lo:=0) (n:=492) rfl hx (a:=0) (c:=492) (by omega)
 rw [e0]
 rw [show (0 + 0:Nat) = 0 from rfl] at hs
 rw [hs]
 unfold slice
 rw [List.drop_zero,List.take_of_length_le (by omega)]
theorem Hx3 (F:Fr) (m:List (List UInt8)):(F.at m).regs = F.S.regs:=rfl
theorem H37 (S:KS) (s:Nat) (env:Int):(frP S s env).S = S:=rfl
theorem Gr5 {r:List HP} {h:H} {α:Type} {Q:α → H → Prop} {kk:Value → H → Option (α × H)} (c k:Nat) (X:CX)
  (t:∀ y d h',Tr (slC false A3 1 y 492 d (A0 (X.m.getD 0 [])) :: cmC c k F1 X :: r) h' (kk (.tuple ⟨[.slice y 492 d,int 0]⟩) h') Q) :
  Tr (cmC c k F1 X :: r) h (bnd (A7 N4 [P0 k] h) fun v hv=>aPtr v fun x=>bnd (A7 U5 [.pointer x,int 0] hv) kk) Q:=by
 have hr:(F1.at X.m).regs = El5:=by rw [Hx3,H37,E10.regs,E08]
 have h2:(F1.at X.m).mem = Ap0 F1.S.mem F1.rg X.m:=F1.mem_at X.m
 refine B1 (cmC c k F1 X) fun u=>?_; (try simp only[Nr,Nl,Nat.reduceAdd,Nat.reduceMul,Int.reduceToNat])
 refine J5 2 rfl fun f=>?_
 have hv:=H42 E10 E67 f
 have hl:(F1.at X.m).mem.length = 2560:=by rw [h2,Bz4 f]; exact E10.mem
 have hv2:slice (F1.at X.m).mem 0 492 = X.m.getD 0 []:=by rw [h2]; exact hv
 refine B1 (B8 k (F1.at X.m)) fun ⟨m,s,q,rg,ea,ec,ma,mc,ms,sa,sc,ss⟩=>?_; (try simp only[Nr,Nl,Nat.reduceAdd,Nat.reduceMul,Int.reduceToNat])
 refine Tr.pcall (Gs8 k (F1.at X.m) ⟨m,s,q,rg,ea,ec,ma,mc,ms,sa,sc,ss⟩) ?_; (try simp only[Nr,Nl,Nat.reduceAdd,Nat.reduceMul,Int.reduceToNat]); (repeat' first|refine Gu ?_|(with_reducible first|refine Gn fun b h=>?_|apply Gx|apply Gy|rintro px rfl|refine fun(h:H)=>?_|intro hb)|refine Gs ?_|refine Gt ?_|exact Gz rfl|fail)
 try dsimp only
 rw [hr]
 refine Tr.xCall (Hz3 rg m s (F1.at X.m).mem hl) ?_; rintro _ h ⟨y,d,rfl,o⟩ <;> (refine (?_:Tr _ _ _ _) o; (try simp only[Nr,Nl,Nat.reduceAdd,Nat.reduceMul,Int.reduceToNat]))
 rw [hv2,← hr]
 refine A9 (B8 k (F1.at X.m)) ⟨m,s,q,rg,ea,ec,ma,mc,ms,sa,sc,ss⟩ ?_; (try simp only[Nr,Nl,Nat.reduceAdd,Nat.reduceMul,Int.reduceToNat])
 refine A9 (cmC c k F1 X) () ?_; (try simp only[Nr,Nl,Nat.reduceAdd,Nat.reduceMul,Int.reduceToNat])
 refine L7 [1,0] 0 rfl rfl ?_
 exact t y d _
end Go.EQ

set_option maxRecDepth 10000
namespace Go.EQ
open Go Go.NN
structure Inv (n:Int) (X:CX):Prop where
 c:Clean 3 X
 h:1 ≤ n ∧ n ≤ 8
 on:∀ j:Int,0 ≤ j → j < n → (vS X j).2 = 1 ∧ (vS X j).1.state = 1 ∧ (vS X j).1.fds = p0.fds
 off:∀ j:Int,n ≤ j → j < 8 → (vS X j).2 = 0
 fl:(vF X 0).2 = 1 ∧ (vF X 0).1.refs = n
theorem H50:Inv 1 X1:=by
 refine ⟨D11,by omega,fun j h0 h1=>?_,fun j h0 h1=>?_,by kernel_rfl,by kernel_rfl⟩
 ·obtain rfl:j = 0:=by omega
  clear h0 h1
  exact ⟨by kernel_rfl,by kernel_rfl,by kernel_rfl⟩
 ·have:j = 1 ∨ j = 2 ∨ j = 3 ∨ j = 4 ∨ j = 5 ∨ j = 6 ∨ j = 7:=by omega
  rcases this with rfl | rfl | rfl | rfl | rfl | rfl | rfl <;> (clear h0 h1; show (_:Int) = _; kernel_rfl)
theorem E82 {n:Int} {X:CX} (I:Inv n X):∀ (m:Nat) (i:Int),0 ≤ i → i ≤ n → i + m = 8 → U7 X m i = if n < 8 then n else -1
 | 0,i,h0,hn,hi=>by
  have:=I.h
  rw [if_neg (by omega)]; rfl
 | m + 1,i,h0,hn,hi=>by
  have hh:=I.h
  rw [show U7 X (m + 1) i = if (vS X i).2 = 0 then i else U7 X m (i + 1) from rfl]
  by_cases h1:i < n
  ·have h2:=(I.on i h0 h1).1
   rw [if_neg (by rw [h2]; decide)]
   exact E82 I m (i + 1) (by omega) (by omega) (by omega)
  ·rw [if_pos (I.off i (by omega) (by omega)),if_pos (by omega)]; omega
abbrev Hu1:List Int:=[1,0,0,0,0,0,0,0,0,0,0,0]
theorem H20 {p:ProcS} (h:p.fds = p0.fds):Ba3 p = Hu1:=by unfold Ba3; rw [h]; rfl
theorem Hv3 {X:CX} (I:Inv 8 X) {i:Int} (hi:0 ≤ i ∧ i < 8):A38 X i = (As1 0 111 false,X):=by
 have h1:=I.on i hi.1 hi.2
 have es:O0 X i = ((vS X i).1,0):=by unfold O0; rw [if_pos ⟨h1.1,h1.2.1⟩]
 have ef:U7 X 8 0 = -1:=by rw [E82 I 8 0 (by omega) (by omega) rfl,if_neg (by omega)]
 unfold A38
 rw [es,if_neg (by simp),ef,if_pos (by omega)]
theorem Hq8 {n:Int} {X:CX} (I:Inv n X) (h8:n < 8) {i:Int} (hi:0 ≤ i ∧ i < n):(A38 X i).1 = As1 n 0 false ∧ Inv (n + 1) (A38 X i).2:=by
 have hh:=I.h
 have h1:=I.on i hi.1 hi.2
 have es:O0 X i = ((vS X i).1,0):=by unfold O0; rw [if_pos ⟨h1.1,h1.2.1⟩]
 have ef:U7 X 8 0 = n:=by rw [E82 I 8 0 (by omega) (by omega) rfl,if_pos h8]
 have em:=H20 h1.2.2
 have ee:Ae6 X Hu1 p0.fds = 0:=by
  show (if (1:Int) = 0 then _ else if (vF X (1 - 1)).2 ≠ 1 then (105:Int) else if (vF X (1 - 1)).1.refs + 1 > 64 then 123 else 0) = 0
  rw [if_neg (by decide),show (1 - 1:Int) = 0 from rfl,I.fl.1,I.fl.2,if_neg (by simp),if_neg (by omega)]
 have eh:(P2 X (vS X i).1).1 = 0:=by unfold P2; rw [em,h1.2.2,ee]; rfl
 have hc:=Ez7 I.c (i:=i) (by omega)
 obtain ⟨s1,s2,s3,s4⟩:=Eu4 I.c (i:=i) (by omega) (by rw [es])
 have hf:Br4 (vS X i).1.fds:=E94 s3
 have hok:okS (Ao4 (vS X i).1 i) = true:=Ew2 s3 s2 (by omega)
 have hin:InS (Ao4 (vS X i).1 i):=by
  have:=E58 (rd X ⟨1,i⟩)
  exact ⟨by simp,this.b,this.c,this.d⟩
 obtain ⟨a1,a2,a3,a4⟩:=Dj0 I.c hf eh
 obtain ⟨w1,w2,w3,w4,w5⟩:=B01 a1 (i:=n) (by omega) hok hin
 have e:A38 X i = (As1 n 0 false,Dd9 (P2 X (vS X i).1).2 n (Ao4 (vS X i).1 i)):=by
  unfold A38
  rw [es,if_neg (by simp),ef,if_neg (by omega),if_neg (by simpa using eh)]
 rw [e]
 refine ⟨rfl,w2,by omega,fun j h0 hj=>?_,fun j h0 hj=>?_,?_⟩
 ·show (vS (Dd9 _ n _) j).2 = 1 ∧ _
  rw [w3 j (by omega)]
  by_cases hn:j = n
  ·rw [if_pos hn]; exact ⟨rfl,s2,h1.2.2⟩
  ·rw [if_neg hn,a2 j (by omega)]; exact I.on j h0 (by omega)
 ·show (vS (Dd9 _ n _) j).2 = 0
  rw [w3 j (by omega),if_neg (by omega),a2 j (by omega)]
  exact I.off j (by omega) hj
 ·show (vF (Dd9 _ n _) 0).2 = 1 ∧ (vF (Dd9 _ n _) 0).1.refs = n + 1
  rw [w4 0 (by omega),a3 0 (by omega),em,if_pos (by decide)]
  refine ⟨rfl,?_⟩
  show (vF X 0).1.refs + 1 = n + 1
  rw [I.fl.2]
end Go.EQ

set_option maxRecDepth 10000
namespace Go.EQ
open Go Go.NN
theorem G82 (k c:Nat) (p:HP) (a:Option Addr) (ro:Bool) (cc:Nat) (l:List Int) [ks:IsSl p a ro B2 1 l.length cc (l.map int)]:∀ (m i:Nat) (n:Int) (X:CX),i + m = 20 → Inv n X →
  CtJ G1 G2 W5 [(0,.slice a l.length cc),(3,P0 k),(4,P0 c),(7,int n),(8,int i)] [cmC c k F1 X,p] fun v own=>v = .bool true ∧ own []:=by
 have fin:∀ (i:Nat) (n:Int) (X:CX),Inv n X → (¬ (i < l.length ∧ i < 20)) → CtJ G1 G2 W5 [(0,.slice a l.length cc),(3,P0 k),(4,P0 c),(7,int n),(8,int i)] [cmC c k F1 X,p] fun v own=>v = .bool true ∧ own []:=by
  intro i n X I hg
  refine CtJ.of Bn9 fun h r=>Tr.eq (Bx8 ..) ?_; (try simp only[Nr,Nl,Nat.reduceAdd,Nat.reduceMul,Int.reduceToNat])
  (repeat' first|refine Gu ?_|(with_reducible first|refine Gn fun b h=>?_|rintro px rfl|refine fun(h:H)=>?_|intro hb)|refine Gs ?_|refine Gt ?_|exact Gz rfl|fail)
  refine Tr.andG (c:=decide ((i:Int) < 20)) (fun hb=>?_) ?_
  ·(repeat' first|refine Gu ?_|(with_reducible first|refine Gn fun b h=>?_|apply Gx|apply Gy|rintro px rfl|refine fun(h:H)=>?_|intro hb)|refine Gs ?_|refine Gt ?_|exact Gz rfl|fail)
  refine Tr.condF (by simp; omega) ?_
  refine Tr.xCall (Dz8 c k F1 X Dn4 0) ?_; rintro _ h ⟨rfl,o⟩ <;> (refine (?_:Tr _ _ _ _) o; (try simp only[Nr,Nl,Nat.reduceAdd,Nat.reduceMul,Int.reduceToNat]))
  rw [B16 I.c (by omega)]
  dsimp only
  (repeat' first|refine Gu ?_|(with_reducible first|apply Gx|apply Gy|rintro px rfl|refine fun(h:H)=>?_|intro hb)|refine Gs ?_|refine Gt ?_|exact Gz rfl|fail)
  refine Tr.nw fun b1 h=>?_
  (repeat' first|refine Gu ?_|(with_reducible first|refine Gn fun b h=>?_|rintro px rfl|refine fun(h:H)=>?_|intro hb)|refine Gs ?_|refine Gt ?_|exact Gz rfl|fail)
  rw [I.fl.1]
  refine Tr.bnd (Tr.condT rfl ?_)
  (repeat' first|refine Gu ?_|(with_reducible first|refine Gn fun b h=>?_|rintro px rfl|refine fun(h:H)=>?_|intro hb)|refine Gs ?_|refine Gt ?_|exact Gz rfl|fail)
  refine Tr.some fun o=>(?_:Tr _ _ _ _) o; (try simp only[Nr,Nl,Nat.reduceAdd,Nat.reduceMul,Int.reduceToNat])
  rw [I.fl.2]
  refine Tr.bnd (Tr.condT (by simp) ?_)
  refine Tr.xCall (Hc1) ?_; rintro _ h ⟨rfl,o⟩ <;> (refine (?_:Tr _ _ _ _) o; (try simp only[Nr,Nl,Nat.reduceAdd,Nat.reduceMul,Int.reduceToNat]))
  (repeat' first|refine Gu ?_|(with_reducible first|refine Gn fun b h=>?_|rintro px rfl|refine fun(h:H)=>?_|intro hb)|refine Gs ?_|refine Gt ?_|exact Gz rfl|fail)
  refine Tr.some fun o=>(?_:Tr _ _ _ _) o; (try simp only[Nr,Nl,Nat.reduceAdd,Nat.reduceMul,Int.reduceToNat])
  refine Tr.some fun o=>?_
  exact ⟨rfl,o.tail.tail.tail⟩
 intro m
 induction m with
 | zero =>
  intro i n X hi I
  exact fin i n X I (by omega)
 | succ m ih =>
  intro i n X hi I
  by_cases hg:i < l.length ∧ i < 20
  case neg=>exact fin i n X I hg
  have hh:=I.h
  have e1:IntKind.wrap .i64 ((i:Int) + 1) = ((i + 1:Nat):Int):=by rw [A6]; omega
  have e2:IntKind.wrap .i64 (n + 1) = n + 1:=by rw [A6]; omega
  have hx:=E53 (l:=l) (i:=i) hg.1
  generalize l.getD i 0 = x at hx
  refine CtJ.of Bn9 fun h r=>Tr.eq (Bx8 ..) ?_; (try simp only[Nr,Nl,Nat.reduceAdd,Nat.reduceMul,Int.reduceToNat])
  (repeat' first|refine Gu ?_|(with_reducible first|refine Gn fun b h=>?_|rintro px rfl|refine fun(h:H)=>?_|intro hb)|refine Gs ?_|refine Gt ?_|exact Gz rfl|fail)
  refine Tr.andG (c:=decide ((i:Int) < 20)) (fun hb=>?_) ?_
  ·(repeat' first|refine Gu ?_|(with_reducible first|refine Gn fun b h=>?_|apply Gx|apply Gy|rintro px rfl|refine fun(h:H)=>?_|intro hb)|refine Gs ?_|refine Gt ?_|exact Gz rfl|fail)
  refine Tr.condT (by simp; omega) ?_
  simp only [e1,e2,Dh6]
  refine Gr5 c k X fun y d h=>?_
  (repeat' first|refine Gu ?_|(with_reducible first|refine Gn fun b h=>?_|apply Gx|apply Gy|rintro px rfl|refine fun(h:H)=>?_|intro hb)|refine Gs ?_|refine Gt ?_|exact Gz rfl|fail)
  rw [H43 (show 0 ≤ x % 256 by omega)]
  have g0:=Int.emod_nonneg (x % 256) (show n ≠ 0 by omega)
  have g1:=Int.emod_lt_of_pos (x % 256) (show 0 < n by omega)
  generalize x % 256 % n = g at g0 g1
  by_cases h8:n < 8
  ·obtain ⟨f1,I2⟩:=Hq8 I h8 ⟨g0,g1⟩
   refine Tr.xCall (E50 c k F1 X Dn4 I.c g (by omega)) ?_; rintro _ h ⟨rfl,o⟩ <;> (refine (?_:Tr _ _ _ _) o; (try simp only[Nr,Nl,Nat.reduceAdd,Nat.reduceMul,Int.reduceToNat]))
   rw [f1]
   generalize (A38 X g).2 = X' at I2
   (repeat' first|refine Gu ?_|(with_reducible first|apply Gx|apply Gy|rintro px rfl|refine fun(h:H)=>?_|intro hb)|refine Gs ?_|refine Gt ?_|exact Gz rfl|fail)
   refine Tr.nw fun b1 h=>?_
   (repeat' first|refine Gu ?_|(with_reducible first|refine Gn fun b h=>?_|apply Gx|apply Gy|rintro px rfl|refine fun(h:H)=>?_|intro hb)|refine Gs ?_|refine Gt ?_|exact Gz rfl|fail)
   refine L7 [1] 0 rfl rfl ?_
   refine (?_:Tr (cmC c k F1 X' :: pt b1 (.cells Ah3 false (As1 n 0 false)) :: slC false A3 1 y 492 d (A0 (X.m.getD 0 [])) :: p :: r) _ _ _)
   refine Gr5 c k X' fun y2 d2 h=>?_
   (repeat' first|refine Gu ?_|(with_reducible first|refine Gn fun b h=>?_|rintro px rfl|refine fun(h:H)=>?_|intro hb)|refine Gs ?_|refine Gt ?_|exact Gz rfl|fail)
   refine Tr.condT (by simpa using h8) ?_
   (repeat' first|refine Gu ?_|(with_reducible first|refine Gn fun b h=>?_|rintro px rfl|refine fun(h:H)=>?_|intro hb)|refine Gs ?_|refine Gt ?_|exact Gz rfl|fail)
   refine Tr.bnd (Tr.condF rfl ?_)
   (repeat' first|refine Gu ?_|(with_reducible first|refine Gn fun b h=>?_|rintro px rfl|refine fun(h:H)=>?_|intro hb)|refine Gs ?_|refine Gt ?_|exact Gz rfl|fail)
   refine Tr.some fun o=>(?_:Tr _ _ _ _) o; (try simp only[Nr,Nl,Nat.reduceAdd,Nat.reduceMul,Int.reduceToNat])
   refine Tr.condF (by simp) ?_
   refine L7 [1,3] 3 rfl rfl ?_
   refine Tr.xRun (ih (i + 1) (n + 1) X' (by omega) I2) ?_
   intro v h q
   exact q
  ·obtain rfl:n = 8:=by omega
   refine Tr.xCall (E50 c k F1 X Dn4 I.c g (by omega)) ?_; rintro _ h ⟨rfl,o⟩ <;> (refine (?_:Tr _ _ _ _) o; (try simp only[Nr,Nl,Nat.reduceAdd,Nat.reduceMul,Int.reduceToNat]))
   rw [Hv3 I (by omega)]
   dsimp only
   (repeat' first|refine Gu ?_|(with_reducible first|apply Gx|apply Gy|rintro px rfl|refine fun(h:H)=>?_|intro hb)|refine Gs ?_|refine Gt ?_|exact Gz rfl|fail)
   refine Tr.nw fun b1 h=>?_
   (repeat' first|refine Gu ?_|(with_reducible first|refine Gn fun b h=>?_|apply Gx|apply Gy|rintro px rfl|refine fun(h:H)=>?_|intro hb)|refine Gs ?_|refine Gt ?_|exact Gz rfl|fail)
   refine L7 [1] 0 rfl rfl ?_
   refine (?_:Tr (cmC c k F1 X :: pt b1 (.cells Ah3 false (As1 0 111 false)) :: slC false A3 1 y 492 d (A0 (X.m.getD 0 [])) :: p :: r) _ _ _)
   refine Gr5 c k X fun y2 d2 h=>?_
   (repeat' first|refine Gu ?_|(with_reducible first|refine Gn fun b h=>?_|rintro px rfl|refine fun(h:H)=>?_|intro hb)|refine Gs ?_|refine Gt ?_|exact Gz rfl|fail)
   refine Tr.condF rfl ?_
   (repeat' first|refine Gu ?_|(with_reducible first|refine Gn fun b h=>?_|rintro px rfl|refine fun(h:H)=>?_|intro hb)|refine Gs ?_|refine Gt ?_|exact Gz rfl|fail)
   refine Tr.bnd (Tr.condF rfl ?_)
   (repeat' first|refine Gu ?_|(with_reducible first|refine Gn fun b h=>?_|rintro px rfl|refine fun(h:H)=>?_|intro hb)|refine Gs ?_|refine Gt ?_|exact Gz rfl|fail)
   rw [show (!(ByteArray.mk ⟨X.m.getD 0 []⟩).toList == (ByteArray.mk ⟨X.m.getD 0 []⟩).toList) = false by simp]
   refine Tr.some fun o=>(?_:Tr _ _ _ _) o; (try simp only[Nr,Nl,Nat.reduceAdd,Nat.reduceMul,Int.reduceToNat])
   refine Tr.condF rfl ?_
   refine L7 [1,3] 3 rfl rfl ?_
   refine Tr.xRun (ih (i + 1) 8 X (by omega) I) ?_
   intro v h q
   exact q
theorem Hu4 {r:List HP} {h:H} {α:Type} {Q:α → H → Prop} {kk:Option Addr → H → Option (α × H)} (c k:Nat) (X:CX)
  (t:∀ rg:Nat,Tr (cmC c k F1 X :: r) h (kk (some ⟨rg,0,none⟩) h) Q) :
  Tr (cmC c k F1 X :: r) h (bnd (A7 N4 [P0 k] h) fun v hv=>aPtr v fun x=>kk x hv) Q:=by
 refine B1 (cmC c k F1 X) fun u=>?_; (try simp only[Nr,Nl,Nat.reduceAdd,Nat.reduceMul,Int.reduceToNat])
 refine J5 2 rfl fun f=>?_
 refine B1 (B8 k (F1.at X.m)) fun ⟨m,s,q,rg,ea,ec,ma,mc,ms,sa,sc,ss⟩=>?_; (try simp only[Nr,Nl,Nat.reduceAdd,Nat.reduceMul,Int.reduceToNat])
 refine Tr.pcall (Gs8 k (F1.at X.m) ⟨m,s,q,rg,ea,ec,ma,mc,ms,sa,sc,ss⟩) ?_; (try simp only[Nr,Nl,Nat.reduceAdd,Nat.reduceMul,Int.reduceToNat]); (repeat' first|refine Gu ?_|(with_reducible first|refine Gn fun b h=>?_|apply Gx|apply Gy|rintro px rfl|refine fun(h:H)=>?_|intro hb)|refine Gs ?_|refine Gt ?_|exact Gz rfl|fail)
 try dsimp only
 refine A9 (B8 k (F1.at X.m)) ⟨m,s,q,rg,ea,ec,ma,mc,ms,sa,sc,ss⟩ ?_; (try simp only[Nr,Nl,Nat.reduceAdd,Nat.reduceMul,Int.reduceToNat])
 refine A9 (cmC c k F1 X) () ?_; (try simp only[Nr,Nl,Nat.reduceAdd,Nat.reduceMul,Int.reduceToNat])
 exact t rg
theorem Gw8 (p:HP) (a:Option Addr) (ro:Bool) (cc:Nat) (l:List Int) [ks:IsSl p a ro B2 1 l.length cc (l.map int)]:Ct A7 G2 [.slice a l.length cc] [p] fun v own=>v = .bool true ∧ own []:=by
 refine Ct.of Bn9 rfl fun h r=>Tr.eq (Ew6 ..) ?_; (try simp only[Nr,Nl,Nat.reduceAdd,Nat.reduceMul,Int.reduceToNat])
 refine Tr.xCall (Gs6) ?_; rintro _ h ⟨a1,rfl,o⟩ <;> (refine (?_:Tr _ _ _ _) o; (try simp only[Nr,Nl,Nat.reduceAdd,Nat.reduceMul,Int.reduceToNat]))
 (repeat' first|refine Gu ?_|(with_reducible first|refine Gn fun b h=>?_|apply Gx|apply Gy|rintro px rfl|refine fun(h:H)=>?_|intro hb)|refine Gs ?_|refine Gt ?_|exact Gz rfl|fail)
 refine Tr.xCall (G45 a1) ?_
 rintro _ h ⟨k,c,w,m,K',rfl,o⟩
 refine (?_:Tr _ _ _ _) o
 (try simp only[Nr,Nl,Nat.reduceAdd,Nat.reduceMul,Int.reduceToNat])
 (repeat' first|refine Gu ?_|(with_reducible first|refine Gn fun b h=>?_|rintro px rfl|refine fun(h:H)=>?_|intro hb)|refine Gs ?_|refine Gt ?_|exact Gz rfl|fail)
 refine Tr.bnd (Tr.condF rfl ?_)
 refine Hu4 c k X1 fun rg=>?_
 (repeat' first|refine Gu ?_|(with_reducible first|refine Gn fun b h=>?_|rintro px rfl|refine fun(h:H)=>?_|intro hb)|refine Gs ?_|refine Gt ?_|exact Gz rfl|fail)
 refine Tr.some fun o=>(?_:Tr _ _ _ _) o; (try simp only[Nr,Nl,Nat.reduceAdd,Nat.reduceMul,Int.reduceToNat])
 refine Tr.condF rfl ?_
 refine Dt9 (G82 k c p a ro cc l 20 0 1 X1 rfl H50) [0,2] rfl ?_
 intro v h q
 exact ⟨q.1,q.2.tail.tail⟩
end Go.EQ

set_option maxRecDepth 100000
namespace Go.EQ
open Go Go.NN Go.Proofs Go.ChangeShapes Go.WideShapes Go.RowKit
theorem Hx2:∀ f,(cutsOf f).globs = 0:=Eh4 Hs7 (by kernel_rfl)
theorem Hy8:∀ f,(cutsOf f).globs ≤ PR.globals.size:=fun f=>by rw [Hx2 f]; exact Nat.zero_le _
theorem Hy3:PR.follows .mixedOrders = true:=by kernel_rfl
theorem H07:laidOutB PR = true:=by kernel_rfl
theorem H46:ownKnob PR.godebug = none:=by kernel_rfl
end Go.EQ

set_option maxRecDepth 100000
namespace Go.EQ
open Go Go.NN Go.Proofs Go.Proofs.YthhmplobccgeiaaGreat Go.ChangeShapes Go.WideShapes Go.RowKit
theorem Hu8 {H:Type} {enc:TypeId × Value → H} {W:World} {v:Value} {d:DataW H} {ps:List MemPlace} {b0:Nat} (hval:Value.okWide PR W .any b0 N0 v) (h:DataW.Trod enc PR W 0 (fun _=>true) true N0 v d ps) :
  Calls PR G2 #[v] W fun e W'=>e = .returned (.bool true) ∧ Below W.heap.size W W':=by
 obtain ⟨l,hl,i⟩:=(Aj0.ints (P:=PR) (W:=W) B2 G40 H45 (by kernel_rfl)).arg (G09 G40 hval) h
 refine i.run Hy3 Hy8 fun vs ps ⟨⟨a,c⟩,hv,hp⟩ hh r o=>?_
 subst hv; subst hp
 obtain ⟨v,h',e,rfl,_⟩:=Gw8 (slC true B2 1 a l.length c (l.map int)) a true c l hh r o
 exact ⟨h',e⟩
theorem Hp9 (os:Os) (started:os.Started) (H:Type) (enc:TypeId × Value → H) :
  ReturnsInHanded {} Tryz.checked os G2 .any (Rows.procFullSpec.pre6 enc Tryz.prog Tryz.f6 Rows.procFullRow.domain false) (Rows.procFullSpec.post enc Tryz.prog Tryz.f6 false true false false):=by
 refine returnsInHanded_of_change (C:=Tryz.checked) H46 started (by kernel_rfl) Tryz.func6
  (ChangeSpec.witness6 (enc:=enc) (C:=Tryz.checked) false ⟨#[],#[.slice none 0 0],[]⟩ 8 (by kernel_rfl) (by kernel_rfl) (by kernel_rfl) (by kernel_rfl)) ?_
 intro W base args ds gs before hval hW hcnd _
 have hW':=hW
 obtain ⟨p,q,hA,hV,rfl,hfz,hnd⟩:=hW
 rw [Tryz.params6] at hA hval
 obtain ⟨v0,d0,rfl,rfl,h0⟩:=trodAll_one hA
 refine (Hu8 (hval 0 _ v0 rfl rfl) h0).mono fun e W' ⟨he,hb⟩=>?_
 subst he
 refine ⟨_,rfl,He8 H07 ?_ rfl Hz9 rfl (fun ds gs hl=>?_) hW' hb⟩
 ·rw [Tryz.params6]; intro t ht; simp at ht; subst ht; exact ⟨by kernel_rfl,of_decide_eq_true (by kernel_rfl)⟩
 ·replace hl:ds.length = 1:=hl
  cases gs with
  | cons _ _=>exact .inr (by simp)
  | nil=>match ds,hl with | [d],_=>exact .inl rfl
theorem Hz8:Tryz.pinned.checked.prog.funcNamed Rows.procFullRow.func = some G2:=by kernel_rfl
theorem Hl7:joinedFacts Tryz.pinned.checked.prog G2 Tryz.f6 Rows.procFullSpec Rows.procFullRow = true:=by kernel_rfl
theorem H14:Tryz.f6.isInstance Tryz.pinned.checked.prog Rows.procFullRow.origin Rows.procFullRow.targs:=of_decide_eq_true (by kernel_rfl)
theorem H27:Tryz.f6.isWrapper Tryz.pinned.checked.prog Rows.procFullRow.wrapper Rows.procFullRow.mainSum:=by unfold Func.isWrapper; first | (rw [if_pos (by decide +kernel)]; kernel_rfl) | (rw [if_neg (by decide +kernel)]; exact ⟨rfl,rfl⟩)
theorem ProcFull_holds:Rows.ProcFullSaid :=
 OpenClaim.holds_of_wide G2 Tryz.f6 rfl rfl rfl rfl rfl rfl rfl ⟨rfl,rfl,rfl,rfl,rfl⟩ rfl rfl rfl rfl rfl Hz8 Tryz.func6 Hl7 H14 H27
  (fun os started H enc _=>Hp9 os started H enc)
end Go.EQ
