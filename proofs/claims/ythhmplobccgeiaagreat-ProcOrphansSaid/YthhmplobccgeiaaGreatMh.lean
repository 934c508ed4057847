/- Orphans -/
import Derived.Test.YthhmplobccgeiaaGreatMg
import Derived.KernelRfl
import Derived.Test.YthhmplobccgeiaaGreatRows
set_option linter.all false
set_option maxRecDepth 10000
namespace Go.EQ
open Go Go.NN
theorem Gc3 (k:Nat) (S:KS) (A:KA):CtP D2 An1 [P0 k] [pt k (.cells Dy0 false (Eu8 S A))] (P0 A.s):=by
 refine CtP.of Ev8 rfl fun h r=>Tr.eq (Ex4 ..) ?_;(try simp only[Nr,Nl,Nat.reduceAdd,Nat.reduceMul,Int.reduceToNat])
 (repeat' first|refine Gu ?_|(with_reducible first|refine Gn fun b h=>?_|apply Gx|apply Gy|rintro px rfl|refine fun(h:H)=>?_|intro hb)|refine Gs ?_|refine Gt ?_|exact Gz rfl|fail)
theorem H78 (k:Nat) (S:KS) (N:Nat) (ok:KOk N S) (env:Int):Ct D2 Br8 [P0 k,int env] [G0 k S] fun v own =>
  (A46 S.tabs env≠[]∧∃ c,v=.tuple ⟨[P0 c,int 0]⟩∧own [W5 c k env (A46 S.tabs env) [],G0 k S])∨(A46 S.tabs env=[]∧v=.tuple ⟨[.pointer none,int 1]⟩∧own [G0 k S]):=by
 refine Ct.of Gq3 rfl fun h r=>Tr.eq (Gr7 ..) ?_;(try simp only[Nr,Nl,Nat.reduceAdd,Nat.reduceMul,Int.reduceToNat])
 refine D7 (G0 k S) fun ⟨m,s,q,rg,ea,ec,ma,mc,ms,sa,sc,ss⟩=>?_;(try simp only[Nr,Nl,Nat.reduceAdd,Nat.reduceMul,Int.reduceToNat])
 (repeat' first|refine Gu ?_|(with_reducible first|refine Gn fun b h=>?_|rintro px rfl|refine fun(h:H)=>?_|intro hb)|refine Gs ?_|refine Gt ?_|exact Gz rfl|fail)
 refine Yb (Yf rfl ?_)
 refine Tr.pcall (Gc3 k S ⟨m,s,q,rg,ea,ec,ma,mc,ms,sa,sc,ss⟩) ?_;(try simp only[Nr,Nl,Nat.reduceAdd,Nat.reduceMul,Int.reduceToNat]);(repeat' first|refine Gu ?_|(with_reducible first|refine Gn fun b h=>?_|apply Gx|apply Gy|rintro px rfl|refine fun(h:H)=>?_|intro hb)|refine Gs ?_|refine Gt ?_|exact Gz rfl|fail)
 try dsimp only
 refine Yc (Gc2 s S.tabs env ok.space) ?_;rintro _ h ⟨a0,c0,rfl,o⟩<;>(refine (?_:Tr _ _ _ _) o;(try simp only[Nr,Nl,Nat.reduceAdd,Nat.reduceMul,Int.reduceToNat]))
 (repeat' first|refine Gu ?_|(with_reducible first|refine Gn fun b h=>?_|apply Gx|apply Gy|rintro px rfl|refine fun(h:H)=>?_|intro hb)|refine Gs ?_|refine Gt ?_|exact Gz rfl|fail)
 refine Ys fun o=>(?_:Tr _ _ _ _) o;(try simp only[Nr,Nl,Nat.reduceAdd,Nat.reduceMul,Int.reduceToNat])
 by_cases hz:A46 S.tabs env=[]
 ·refine Yt (by simp [hz]) ?_
  refine D4 (G0 k S) ⟨m,s,q,rg,ea,ec,ma,mc,ms,sa,sc,ss⟩ ?_;(try simp only[Nr,Nl,Nat.reduceAdd,Nat.reduceMul,Int.reduceToNat])
  refine Ys fun o=>?_
  exact .inr ⟨hz,rfl,o.sub⟩
 ·refine Yf ?_ ?_
  ·rw [beq_eq_false_iff_ne]
   intro h0
   exact hz (List.eq_nil_of_length_eq_zero (by omega))
  refine Tr.pcall (Gc3 k S ⟨m,s,q,rg,ea,ec,ma,mc,ms,sa,sc,ss⟩) ?_;(try simp only[Nr,Nl,Nat.reduceAdd,Nat.reduceMul,Int.reduceToNat]);(repeat' first|refine Gu ?_|(with_reducible first|refine Gn fun b h=>?_|apply Gx|apply Gy|rintro px rfl|refine fun(h:H)=>?_|intro hb)|refine Gs ?_|refine Gt ?_|exact Gz rfl|fail)
  try dsimp only
  refine Yc (Gc2 s S.tabs env ok.space) ?_;rintro _ h ⟨a1,c1,rfl,o⟩<;>(refine (?_:Tr _ _ _ _) o;(try simp only[Nr,Nl,Nat.reduceAdd,Nat.reduceMul,Int.reduceToNat]))
  (repeat' first|refine Gu ?_|(with_reducible first|apply Gx|apply Gy|rintro px rfl|refine fun(h:H)=>?_|intro hb)|refine Gs ?_|refine Gt ?_|exact Gz rfl|fail)
  refine Yn fun mb h=>?_
  refine Yn fun c h=>?_
  refine D4 (G0 k S) ⟨m,s,q,rg,ea,ec,ma,mc,ms,sa,sc,ss⟩ ?_;(try simp only[Nr,Nl,Nat.reduceAdd,Nat.reduceMul,Int.reduceToNat])
  refine G2 (W5 c k env (A46 S.tabs env) []) (a1,c1,mb) [1,2,1] rfl ?_;(try simp only[Nr,Nl,Nat.reduceAdd,Nat.reduceMul,Int.reduceToNat])
  refine Ys fun o=>?_
  exact .inl ⟨hz,c,rfl,o.sub⟩
def A75:PlanS:=⟨[false,false],[(0,1),(1,0)],5⟩
theorem H12:Ct D2 B04 [] [] fun v own=>∃ A,v=.agg ⟨Er7 A75 A⟩∧own (Dk1 A75 A):=by
 refine Ct.of Gv9 rfl fun h r=>Tr.eq (Gy3 ..) ?_;(try simp only[Nr,Nl,Nat.reduceAdd,Nat.reduceMul,Int.reduceToNat])
 (repeat' first|refine Gu ?_|(with_reducible first|apply Gx|apply Gy|rintro px rfl|refine fun(h:H)=>?_|intro hb)|refine Gs ?_|refine Gt ?_|exact Gz rfl|fail)
 refine Yn fun b h=>?_
 refine Yn fun b1 h=>?_
 refine Yn fun b2 h=>?_
 (repeat' first|refine Gu ?_|(with_reducible first|refine Gn fun b h=>?_|apply Gx|apply Gy|rintro px rfl|refine fun(h:H)=>?_|intro hb)|refine Gs ?_|refine Gt ?_|exact Gz rfl|fail)
 refine Aj1 0 rfl 2 2 rfl (by omega) ?_
 refine Aj1 1 rfl 1 2 rfl (by omega) ?_
 (try simp only[Nr,Nl,Nat.reduceAdd,Nat.reduceMul,Int.reduceToNat])
 refine Ys fun o=>?_
 exact ⟨⟨some ⟨b1,0,none⟩,2,some ⟨b2,0,none⟩,2⟩,rfl,(show Own h (slC false Bx7 2 (some ⟨b2,0,none⟩) A75.brs.length 2 (A75.brs.flatMap brL)::slC false E97 1 (some ⟨b1,0,none⟩) A75.bad.length 2 (A75.bad.map Value.bool)::_) from o).sub⟩
def Ai0:BootS:=Em1 A75
theorem G43:Bq1 Ai0=true:=by kernel_rfl
theorem E10:Small Ai0:=by
 have e:Ai0=⟨[20,20],[0,0,0,0,0,0,0,0,0,1,1,1,1,1,1,1,1,1],[[0],[1]],5,[⟨0,0,0,492,[0]⟩,⟨1,0,0,492,[1]⟩,⟨0,8,0,40,[0,1]⟩,⟨1,9,0,40,[1,0]⟩]⟩:=by kernel_rfl
 rw [e]
 exact ⟨by simp [D3],by simp [D3],by simp [D3]⟩
theorem Bt8:Ai0=⟨[20,20],[0,0,0,0,0,0,0,0,0,1,1,1,1,1,1,1,1,1],[[0],[1]],5,[⟨0,0,0,492,[0]⟩,⟨1,0,0,492,[1]⟩,⟨0,8,0,40,[0,1]⟩,⟨1,9,0,40,[1,0]⟩]⟩:=by kernel_rfl
theorem H91:RBoot Ai0 (Aj3 Ai0.frames):=by
 rw [Bt8]
 refine ⟨by simp,by simp,by simp,fun x hx=>?_,fun x hx=>?_⟩
 ·simp only [List.mem_cons,List.not_mem_nil,or_false] at hx
  rcases hx with rfl|rfl|rfl|rfl<;>simp [D3]
 ·simp only [List.mem_cons,List.not_mem_nil,or_false] at hx
  rcases hx with rfl|rfl|rfl|rfl<;>simp [Aj3]
def S00:KS:=Dz9 Ai0
theorem Gw2:KOk 0 S00:=H65 G43 E10
def wrS (S:KS) (cap:Int) (b:List UInt8):KS:=(Z4 S 0 ⟨2,cap,0,0,0,0,b⟩).2
def S0:KS:=wrS S00 256 Ad5
theorem Ig5:(Z4 S00 0 ⟨2,256,0,0,0,0,Ad5⟩).1.1=0:=by kernel_rfl
theorem H45:A46 S00.tabs 0=[256,257,258]:=by kernel_rfl
def wrR (K:RKS) (cap:Int) (b:List UInt8):RKS:={ K with R:=(Ai4 K.R 0 cap 0 b).2 }
def K0:RKS:=wrR (Dd8 Ai0) 256 Ad5
theorem D27:RKOk (Dd8 Ai0)∧(Dd8 Ai0).B=Ai0:=H75 (by rw [Bt8];simp) (by rw [Bt8];simp)
theorem Gd1 {K:RKS} (k:RKOk K) (cap:Int) (b:List UInt8):RKOk (wrR K cap b):=H76 k 0 cap 0 b
theorem H27:B02 K0 0≠[]:=by
 have:B02 K0 0=[256,257,258]:=by kernel_rfl
 rw [this];simp
theorem Ac1:Ad5.length=492:=by kernel_rfl
theorem Dm8 {l:List HP} {h:H} {α:Type} {Q:α→H→Prop} {x:Option (α × H)} (i:Nat) {b n:Nat} {cs:List Value} (hi:l[i]?=some (pt b (.cells B0 false cs))) (hn:cs.length=n) (t:Tr (l.set i (slC false B0 1 (some (M0 b)) n n cs)) h x Q):Tr l h x Q:=fun o=>by
 refine t (Own.back (h:=h) hi ?_)
 have o1:=o.front hi
 refine Own.slShut (pre:=[]) (post:=[]) (by simpa using o1) ⟨by omega,Nat.le_refl _,by simp,by simp,by simp,by omega,by simp⟩
theorem H72 (A:PlA):Ct D2 Bj3 [.agg ⟨Er7 A75 A⟩] (Dk1 A75 A) fun v own =>
  ∃ k c w m,v=.tuple ⟨[P0 k,P0 c,P0 w,P0 m]⟩∧own [G0 k S0,W5 c k 0 [256,257,258] [],rkC w K0,rcC m w 0 (B02 K0 0) []]:=by
 have hB:Em1 A75=Ai0:=rfl
 obtain ⟨ba,bc,ra,rc⟩:=A
 refine Ct.of Gx5 rfl fun h r=>Tr.eq (Gx7 ..) ?_;(try simp only[Nr,Nl,Nat.reduceAdd,Nat.reduceMul,Int.reduceToNat])
 refine Yn fun b0 h=>?_
 (repeat' first|refine Gu ?_|(with_reducible first|refine Gn fun b h=>?_|apply Gx|apply Gy|rintro px rfl|refine fun(h:H)=>?_|intro hb)|refine Gs ?_|refine Gt ?_|exact Gz rfl|fail)
 refine Yc (H88 A75 ⟨ba,bc,ra,rc⟩ (by simp [A75]) (by simp [A75])) ?_;rintro _ h ⟨A,kA,rfl,o⟩<;>(refine (?_:Tr _ _ _ _) o;(try simp only[Nr,Nl,Nat.reduceAdd,Nat.reduceMul,Int.reduceToNat]))
 rw [hB] at kA ⊢
 obtain ⟨fa,fc,ea,ec,sa,sc,ss,ha,hc,hs⟩:=A
 (repeat' first|refine Gu ?_|(with_reducible first|apply Gx|apply Gy|rintro px rfl|refine fun(h:H)=>?_|intro hb)|refine Gs ?_|refine Gt ?_|exact Gz rfl|fail)
 refine Yn fun b1 h=>?_
 (repeat' first|refine Gu ?_|(with_reducible first|refine Gn fun b h=>?_|apply Gx|apply Gy|rintro px rfl|refine fun(h:H)=>?_|intro hb)|refine Gs ?_|refine Gt ?_|exact Gz rfl|fail)
 have J:=Ib1 false Ai0 ⟨fa,fc,ea,ec,sa,sc,ss,ha,hc,hs⟩ kA E10
 simp only [G43,if_true] at J
 refine Yc (J) ?_;rintro _ h ⟨k,rfl,o⟩<;>(refine (?_:Tr _ _ _ _) o;(try simp only[Nr,Nl,Nat.reduceAdd,Nat.reduceMul,Int.reduceToNat]))
 (repeat' first|refine Gu ?_|(with_reducible first|refine Gn fun b h=>?_|rintro px rfl|refine fun(h:H)=>?_|intro hb)|refine Gs ?_|refine Gt ?_|exact Gz rfl|fail)
 refine Yb (Yf rfl ?_)
 refine Ys fun o=>(?_:Tr _ _ _ _) o;(try simp only[Nr,Nl,Nat.reduceAdd,Nat.reduceMul,Int.reduceToNat])
 refine Yf rfl ?_
 (repeat' first|refine Gu ?_|(with_reducible first|refine Gn fun b h=>?_|apply Gx|apply Gy|rintro px rfl|refine fun(h:H)=>?_|intro hb)|refine Gs ?_|refine Gt ?_|exact Gz rfl|fail)
 refine Yc (G69 Ai0 ⟨fa,fc,ea,ec,sa,sc,ss,ha,hc,hs⟩ kA (by rw [Bt8];simp) H91) ?_;rintro _ h ⟨w,rfl,o⟩<;>(refine (?_:Tr _ _ _ _) o;(try simp only[Nr,Nl,Nat.reduceAdd,Nat.reduceMul,Int.reduceToNat]))
 (repeat' first|refine Gu ?_|(with_reducible first|refine Gn fun b h=>?_|apply Gx|apply Gy|rintro px rfl|refine fun(h:H)=>?_|intro hb)|refine Gs ?_|refine Gt ?_|exact Gz rfl|fail)
 refine Yc (H78 k (Dz9 Ai0) 0 Gw2 0) ?_
 rintro v h (⟨hz,c,rfl,o⟩|⟨hz,rfl,o⟩)
 case inr=>exact absurd hz (by rw [show Dz9 Ai0=S00 from rfl,H45];simp)
 rw [show Dz9 Ai0=S00 from rfl,H45] at o
 refine (?_:Tr _ _ _ _) o
 (try simp only[Nr,Nl,Nat.reduceAdd,Nat.reduceMul,Int.reduceToNat])
 (repeat' first|refine Gu ?_|(with_reducible first|refine Gn fun b h=>?_|rintro px rfl|refine fun(h:H)=>?_|intro hb)|refine Gs ?_|refine Gt ?_|exact Gz rfl|fail)
 refine Yb (Yf rfl ?_)
 refine Ys fun o=>(?_:Tr _ _ _ _) o;(try simp only[Nr,Nl,Nat.reduceAdd,Nat.reduceMul,Int.reduceToNat])
 refine Yf rfl ?_
 refine Yc (Go1) ?_;rintro _ h ⟨rfl,o⟩<;>(refine (?_:Tr _ _ _ _) o;(try simp only[Nr,Nl,Nat.reduceAdd,Nat.reduceMul,Int.reduceToNat]))
 (repeat' first|refine Gu ?_|(with_reducible first|apply Gx|apply Gy|rintro px rfl|refine fun(h:H)=>?_|intro hb)|refine Gs ?_|refine Gt ?_|exact Gz rfl|fail)
 refine Tr.ck (by rw [A62,Ac1];simp [D3]) ?_
 rw [A62,Ac1]
 refine Yn fun b2 h=>?_
 refine Dm8 (n:=492) 0 rfl (by rw [U8,show (bs Ad5).data.toList=Ad5 from rfl,Ac1]) ?_
 (try simp only[Nr,Nl,Nat.reduceAdd,Nat.reduceMul,Int.reduceToNat])
 have J2:=D36 k S00 0 Gw2 (by omega) 0 ⟨2,256,0,0,0,0,Ad5⟩ (some (M0 b2)) 492 false (show ((2:Int)≠5) by decide)
 simp only [Ac1] at J2
 refine Bu5 J2 [2,0] rfl ?_
 rintro _ h ⟨y,d,rfl,o⟩
 rw [Ig5]
 rw [show (Z4 S00 0 ⟨2,256,0,0,0,0,Ad5⟩).2=S0 from rfl] at o
 refine (?_:Tr _ _ _ _) o
 (try simp only[Nr,Nl,Nat.reduceAdd,Nat.reduceMul,Int.reduceToNat])
 (repeat' first|refine Gu ?_|(with_reducible first|apply Gx|apply Gy|rintro px rfl|refine fun(h:H)=>?_|intro hb)|refine Gs ?_|refine Gt ?_|exact Gz rfl|fail)
 refine Yf rfl ?_
 refine Tr.ck (by simp [D3]) ?_
 refine Yn fun b3 h=>?_
 refine Dm8 (n:=492) 0 rfl (by rw [U8,Ac1]) ?_
 (try simp only[Nr,Nl,Nat.reduceAdd,Nat.reduceMul,Int.reduceToNat])
 have J3:=Et4 w (Dd8 Ai0) D27.1 0 (by rw [D27.2,Bt8];simp) ⟨2,256,0,0,0,0,Ad5⟩ rfl (by rw [Ac1];simp [D3]) (slC false B0 1 (some (M0 b3)) Ad5.length 492 (A0 Ad5)) (some (M0 b3)) 492 false
 simp only [Ac1] at J3
 refine Yc J3 ?_
 rintro _ h ⟨rfl,o⟩
 rw [show ({ Dd8 Ai0 with R:=(Ai4 (Dd8 Ai0).R ((0:Nat):Int) 256 0 Ad5).2 }:RKS)=K0 from rfl] at o
 refine (?_:Tr _ _ _ _) o
 (try simp only[Nr,Nl,Nat.reduceAdd,Nat.reduceMul,Int.reduceToNat])
 (repeat' first|refine Gu ?_|(with_reducible first|refine Gn fun b h=>?_|apply Gx|apply Gy|rintro px rfl|refine fun(h:H)=>?_|intro hb)|refine Gs ?_|refine Gt ?_|exact Gz rfl|fail)
 refine Yc (Gj9 w K0 (Gd1 D27.1 256 Ad5) 0 (by show (0:Nat)<(Dd8 Ai0).B.envs.length;rw [D27.2,Bt8];simp)) ?_
 rintro v h (⟨_,m,rfl,o⟩|⟨hn,rfl,o⟩)
 case inr=>exact absurd hn H27
 refine (?_:Tr _ _ _ _) o
 (try simp only[Nr,Nl,Nat.reduceAdd,Nat.reduceMul,Int.reduceToNat])
 (repeat' first|refine Gu ?_|(with_reducible first|refine Gn fun b h=>?_|apply Gx|apply Gy|rintro px rfl|refine fun(h:H)=>?_|intro hb)|refine Gs ?_|refine Gt ?_|exact Gz rfl|fail)
 refine Ys fun o=>?_
 exact ⟨k,c,w,m,rfl,o.sub⟩
def By3 (mem:List UInt8) (rg:Rg):List (List UInt8):=rg.map fun p=>slice mem p.1 p.2
theorem G58 {mem:List UInt8} {rg:Rg} {j lo n:Nat} (h:rg[j]?=some (lo,n)):(By3 mem rg)[j]?=some (slice mem lo n):=by unfold By3;rw [List.getElem?_map,h];rfl
theorem G25 {mem:List UInt8} {rg:Rg} (h:∀ (j lo n:Nat),rg[j]?=some (lo,n)→lo+n≤mem.length):Fit mem.length rg (By3 mem rg):=⟨by simp [By3],fun j lo n hj=>⟨h j lo n hj,slice mem lo n,G58 hj,Gn5 (h j lo n hj)⟩⟩
theorem Hy4 {mem:List UInt8} {rg:Rg} (k:RgOk rg) (h:∀ (j lo n:Nat),rg[j]?=some (lo,n)→lo+n≤mem.length):A10 mem rg (By3 mem rg)=mem:=by
 have f:=G25 h
 refine List.ext_getElem? fun i=>?_
 by_cases ho:∃ (j lo n:Nat),rg[j]?=some (lo,n)∧lo≤i∧i<lo+n
 ·obtain ⟨j,lo,n,hj,h1,h2⟩:=ho
  obtain ⟨i',rfl⟩:∃ i',i=lo+i':=⟨i-lo,by omega⟩
  rw [B59 f k j lo n _ hj (G58 hj) i' (by omega),Bv5,if_pos (by omega)]
 ·exact Dm0 f i fun j lo n hj=>by
   by_cases hh:lo≤i∧i<lo+n
   ·exact absurd ⟨j,lo,n,hj,hh.1,hh.2⟩ ho
   ·omega
theorem FrOk.room {F:Fr} {j lo n:Nat} (f:Fit F.S.mem.length F.rg (By3 F.S.mem F.rg)) (h:F.rg[j]?=some (lo,n)):lo+n≤F.S.mem.length:=(f.each j lo n h).1
theorem Fr.at_cut {F:Fr} (k:FrOk F) (h:∀ (j lo n:Nat),F.rg[j]?=some (lo,n)→lo+n≤F.S.mem.length):F.at (By3 F.S.mem F.rg)=F.S:=by
 unfold Fr.at;rw [Hy4 k.dj h];rfl
theorem Own.cmTake {r:List HP} {h:H} (c k:Nat) (F:Fr) (bad:List RecS) (ok:FrOk F) (hr:∀ (j lo n:Nat),F.rg[j]?=some (lo,n)→lo+n≤F.S.mem.length) (o1:Own h (G0 k F.S::W5 c k F.env F.caps bad::r)):Own h (cmC c k F ⟨By3 F.S.mem F.rg,bad⟩::r):=by
 refine Own.inex (f:=fun u:Unit=>sl (cmF c k F ⟨By3 F.S.mem F.rg,bad⟩)) () (Own.group (l:=cmF c k F ⟨By3 F.S.mem F.rg,bad⟩) ?_)
 show Own h (G0 k (F.at (By3 F.S.mem F.rg))::W5 c k F.env F.caps bad::pu _::r)
 rw [Fr.at_cut ok hr]
 have o2:=Own.inpure (show Fit F.S.mem.length F.rg (By3 F.S.mem F.rg) from G25 hr) o1
 exact o2.picks [1,1,0] rfl
theorem Id0 {l r:List HP} {h:H} {α:Type} {Q:α→H→Prop} {x:Option (α × H)} (c k:Nat) (F:Fr) (X:CX) [tk:Take (cmC c k F X) l r]
  (t:Fit F.S.mem.length F.rg X.m→Tr (G0 k (F.at X.m)::W5 c k F.env F.caps X.bad::r) h x Q):Tr l h x Q:=fun o=>by
 have o1:Own h (cmC c k F X::r):=o.perm tk.pm
 obtain ⟨u,o2⟩:=Own.ex (f:=fun u:Unit=>sl (cmF c k F X)) o1
 have o3:Own h (G0 k (F.at X.m)::W5 c k F.env F.caps X.bad::pu (Fit F.S.mem.length F.rg X.m)::r):=Own.join o2
 have f:=(o3.front (i:=2) rfl).pure
 exact t f (o3.front (i:=2) rfl).tail
theorem Hj7 {S:KS} {env cap obj:Int} {lo n:Nat} {e1 e2:Int} (hg:Bq9 S.tabs env cap=some ⟨obj,3,0,(n:Int),e1,e2⟩) (h0:0≤obj) (hr:S.regs[obj.toNat]?=some ((lo:Int),(n:Int))) (hl:lo+n≤65536) :
  ∀ (a m:Nat) (right:Int),right=1∨right=2→a+m≤n→P9 S.tabs S.regs env cap right a m=(((lo+a:Nat):Int),0):=by
 intro a m right hri ha
 have hlt:=(List.getElem?_eq_some_iff.1 hr).1
 unfold P9
 rw [hg]
 have b1:(S4 .i64 3 1==0)=false:=by kernel_rfl
 have b2:(S4 .i64 3 2==0)=false:=by kernel_rfl
 have hb:¬ ((S4 .i64 3 right==0)=true):=by rcases hri with rfl|rfl<;>simp [b1,b2]
 simp only
 have h2:(decide ((a:Int)<0) || decide ((m:Int)<0) || decide ((a:Int)>(n:Int)) || decide ((m:Int)>IntKind.wrap .i64 ((n:Int)-a)) || decide (obj<0) || decide (obj≥S.regs.length))=false:=by
  simp only [Bool.or_eq_false_iff,decide_eq_false_iff_not,D1];omega
 have h3:(decide (IntKind.wrap .i64 (0+(a:Int))>(n:Int)) || decide ((m:Int)>IntKind.wrap .i64 (IntKind.wrap .i64 ((n:Int)-0)-a)))=false:=by
  simp only [Bool.or_eq_false_iff,decide_eq_false_iff_not,D1];omega
 have h4:IntKind.wrap .i64 (IntKind.wrap .i64 ((lo:Int)+0)+a)=((lo+a:Nat):Int):=by simp only [D1];omega
 rw [if_neg hb]
 simp only [h2,hr,h3,h4,Bool.false_eq_true,if_false]
structure Like (S:KS):Prop where
 ok:KOk 0 S
 tabs:S.tabs=S00.tabs
 regs:S.regs=S00.regs
 envs:S.envs=S00.envs
 mem:S.mem.length=2560
theorem Ec0 {S:KS} (k:Like S) {m:List UInt8} (h:m.length=2560):Like (Bp6 S m) :=
 ⟨⟨k.ok.envs,k.ok.tabs,k.ok.space,k.ok.quota,by show m.length≤65536;omega,k.ok.regs,k.ok.may,k.ok.mayl,k.ok.nsect,k.ok.sects,k.ok.now⟩,k.tabs,k.regs,k.envs,h⟩
theorem Ie3:Like S00:=⟨Gw2,rfl,rfl,rfl,by kernel_rfl⟩
theorem H85 (S:KS) (k:Like S) (cap:Int) (b:List UInt8):Like (wrS S cap b):=by
 unfold wrS Z4
 split
 ·exact k
 ·exact Ec0 k (by rw [Hm7];exact k.mem)
theorem Dv4:Like S0:=H85 S00 Ie3 256 Ad5
def rgP (s:Nat):Rg:=[(1280*s,492),(512,40),(1856,40)]
def frP (S:KS) (s:Nat) (env:Int):Fr:=⟨S,0,env,[256,257,258],rgP s⟩
theorem Gu8:S00.regs=[(0,492),(1280,492),(512,40),(1856,40)]:=by kernel_rfl
theorem Id3:S00.envs.length=18:=by kernel_rfl
structure EnvP (s:Nat) (env:Int):Prop where
 hs:s<2
 he:0≤env∧env<18
 a:Bq9 S00.tabs env 256=some ⟨s,3,0,492,0,0⟩
 b:Bq9 S00.tabs env 257=some ⟨2,3,0,40,0,0⟩
 c:Bq9 S00.tabs env 258=some ⟨3,3,0,40,0,0⟩
theorem Gz2:EnvP 0 0:=⟨by omega,by omega,by kernel_rfl,by kernel_rfl,by kernel_rfl⟩
theorem D49 {s j lo n:Nat} (h:(rgP s)[j]?=some (lo,n)):(j=0∧lo=1280*s∧n=492)∨(j=1∧lo=512∧n=40)∨(j=2∧lo=1856∧n=40):=by
 unfold rgP at h
 match j,h with
 | 0,h=>simp at h;omega
 | 1,h=>simp at h;omega
 | 2,h=>simp at h;omega
 | j+3,h=>simp at h
theorem D77 {S:KS} (k:Like S) {s:Nat} (hs:s<2) (env:Int):∀ (j lo n:Nat),(frP S s env).rg[j]?=some (lo,n)→lo+n≤(frP S s env).S.mem.length:=by
 intro j lo n h
 have hm:=k.mem
 have:=D49 h
 show lo+n≤S.mem.length
 omega
theorem G30 {S:KS} (k:Like S) {s:Nat} {env:Int} (e:EnvP s env):FrOk (frP S s env):=by
 have hs:=e.hs;have he:=e.he
 refine ⟨k.ok,by simp [frP],by simp [frP],by simp [frP],by simp [frP,rgP],?_,?_,?_,⟨1280*s,rfl⟩,?_⟩
 ·show ¬ (env<0∨env≥(S.envs.length:Int))
  rw [k.envs,Id3];omega
 ·intro j cap lo n hc hr
  show ∀ (a m:Nat) (right:Int),right=1∨right=2→a+m≤n→P9 S.tabs S.regs env cap right a m=_
  have hg:=D49 hr
  rcases hg with ⟨rfl,rfl,rfl⟩|⟨rfl,rfl,rfl⟩|⟨rfl,rfl,rfl⟩
  ·cases hc
   refine Hj7 (obj:=s) (e1:=0) (e2:=0) (by rw [k.tabs];exact e.a) (by omega) ?_ (by omega)
   rw [k.regs,Gu8,Int.toNat_natCast]
   match s,hs with
   | 0,_=>rfl
   | 1,_=>rfl
  ·cases hc
   exact Hj7 (obj:=2) (e1:=0) (e2:=0) (by rw [k.tabs];exact e.b) (by omega) (by rw [k.regs,Gu8];rfl) (by omega)
  ·cases hc
   exact Hj7 (obj:=3) (e1:=0) (e2:=0) (by rw [k.tabs];exact e.c) (by omega) (by rw [k.regs,Gu8];rfl) (by omega)
 ·intro i j lo n lo' n' hij hi hj
  have h1:=D49 hi;have h2:=D49 hj
  omega
 ·intro j lo n h0 h
  have:=D49 h;omega
abbrev F0:Fr:=frP S0 0 0
def X0:CX:=⟨By3 S0.mem (rgP 0),[]⟩
theorem H52:FrOk F0:=G30 Dv4 Gz2
theorem Hx9 (A:PlA):Ct D2 Bj3 [.agg ⟨Er7 A75 A⟩] (Dk1 A75 A) fun v own =>
  ∃ k c w m,v=.tuple ⟨[P0 k,P0 c,P0 w,P0 m]⟩∧own [cmC c k F0 X0,rkC w K0,rcC m w 0 (B02 K0 0) []]:=by
 intro h r o
 obtain ⟨v,h',e,k,c,w,m,hv,o2⟩:=H72 A h r o
 refine ⟨v,h',e,k,c,w,m,hv,?_⟩
 exact Own.cmTake c k F0 [] H52 (D77 Dv4 (by omega) 0) o2
theorem If2 {y m:Int} (h:0≤y):Int.tmod y m=y%m:=Int.tmod_eq_emod_of_nonneg h
theorem Ab2 {x:Int} (h:0≤x∧x<256):((b8 x).toNat:Int)=x:=by rw [← Bg9,Dk7];omega
theorem G39 {p:PipeS} (h:okP p=true):V2 (L1 p)=(p,1):=by
 have hk:=h
 simp only [okP,Bool.and_eq_true,decide_eq_true_eq] at h
 have e:Bd2 (L1 p)=p:=by
  obtain ⟨a,b,c,d,l,hl⟩:=p
  simp only at h
  have h1:=Ab2 (x:=a) (by omega);have h2:=Ab2 (x:=b) (by omega);have h3:=Ab2 (x:=c) (by omega);have h4:=Ab2 (x:=d) (by omega)
  simp [Bd2,L1,Ai2,D56 hl]
  exact ⟨h1,h2,h3,h4⟩
 have hz:(L1 p).all (·==0)=false:=by simp [L1,Ai2]
 unfold V2 isP
 rw [hz,e,hk]
 simp
theorem E27 {l b:List UInt8} {a c n:Nat} (h:a+b.length≤l.length) (hd:c+n≤a∨a+b.length≤c):slice (L9 l a b) c n=slice l c n:=by
 refine List.ext_getElem? fun i=>?_
 rw [Bv5,Bv5]
 split
 ·rw [Bk2 h,if_neg (by omega)]
 ·rfl
theorem Gb6 {l b:List UInt8} {a:Nat} (h:a+b.length≤l.length):slice (L9 l a b) a b.length=b:=by
 refine List.ext_getElem? fun i=>?_
 rw [Bv5]
 split
 ·rw [Bk2 h,if_pos (by omega)];congr 1;omega
 ·rw [List.getElem?_eq_none (by omega)]
abbrev H54:List Int:=[256,257,258]
structure InS (p:ProcS):Prop where
 a:0≤p.pending∧p.pending≤65535
 b:0≤p.mask∧p.mask≤65535
 c:0≤p.ignored∧p.ignored≤65535
 d:0≤p.caught∧p.caught≤65535
theorem G45 {p:ProcS} (h:okS p=true) (r:InS p):W0 (Aw1 p)=(p,1):=by
 have hk:=h
 obtain ⟨ra,rb,rc,rd⟩:=r
 have e:Bd3 (Aw1 p)=p:=by
  obtain ⟨st,pa,gr,co,pe,ma,ig,ca,fds,hl⟩:=p
  simp only at ra rb rc rd
  unfold okS at h
  simp only [Bool.and_eq_true,Bool.not_eq_true',Bool.or_eq_false_iff,decide_eq_false_iff_not,List.any_eq_false] at h
  match fds,hl with
  | [f0,f1,f2,f3,f4,f5,f6,f7],hl =>
   have hf:=h.2.2.1
   simp at hf
   have two_b:∀ n:Int,0≤n∧n≤65535→((hi2 n).toNat:Int)*256+((lo2 n).toNat:Int)=n:=fun n hn=>by
    unfold hi2 lo2
    rw [if_pos hn,if_pos hn,Ab2 (by omega),← Bg9,Dk7];omega
   have g0:=h.1
   simp only [Bd3,Aw1,D70,two]
   simp
   refine ⟨Ab2 (by omega),Ab2 (by omega),Ab2 (by omega),Ab2 (by omega),two_b _ ra,two_b _ rb,two_b _ rc,two_b _ rd,Ab2 (by omega),Ab2 (by omega),Ab2 (by omega),Ab2 (by omega),Ab2 (by omega),Ab2 (by omega),Ab2 (by omega),Ab2 (by omega)⟩
 have hz:(Aw1 p).all (·==0)=false:=by
  simp [Aw1,D70]
 unfold W0 isS
 rw [hz,e,hk]
 simp
theorem Hx7:D64 0 0=true:=by kernel_rfl
def stR (kind:Int) (l:List UInt8):Int:=if kind=1 then (W0 l).2 else if kind=2 then (Z2 l).2 else if kind=5 then (At1 l).2 else (V2 l).2
def rd (X:CX) (r:RecS):List UInt8 :=
 match H5 X.m.length r with
 | some (j,a,n)=>slice (X.m.getD j []) a n
 | none=>[]
structure Clean (nc:Nat) (X:CX):Prop where
 len:X.m.length=nc
 pos:0<nc
 bad:X.bad=[]
 own:(X.m.getD 0 []).length=492
 brs:∀ j,0<j→j<nc→(X.m.getD j []).length=40
 ok:∀ r:RecS,1≤r.kind→r.kind≤5→0≤r.index→r.index<Z0 nc r.kind→stR r.kind (rd X r)≠2
structure Rin (nc:Nat) (r:RecS):Prop where
 a:1≤r.kind
 b:r.kind≤5
 c:0≤r.index
 d:r.index<Z0 nc r.kind
theorem Rin.place {nc:Nat} {r:RecS} (h:Rin nc r) (hn:0<nc):∃ j a,H5 nc r=some (j,a,R0 r.kind)∧j<nc∧(j=0→a+R0 r.kind≤492)∧(0<j→a=0∧R0 r.kind=40):=by
 obtain ⟨h1,h2,h3,h4⟩:=h
 obtain ⟨k,i⟩:=r
 simp only at h1 h2 h3 h4
 have hk:k=1∨k=2∨k=3∨k=4∨k=5:=by omega
 unfold H5 R0
 simp only
 rw [if_neg (by omega)]
 rcases hk with rfl|rfl|rfl|rfl|rfl
 ·exact ⟨0,_,rfl,hn,fun _=>by simp [Z0] at h4 ⊢;omega,fun h=>by omega⟩
 ·exact ⟨0,_,rfl,hn,fun _=>by simp [Z0] at h4 ⊢;omega,fun h=>by omega⟩
 ·simp only [Z0] at h4
  by_cases h5:i<4
  ·exact ⟨0,_,by simp [h5];rfl,hn,fun _=>by simp;omega,fun h=>by omega⟩
  ·exact ⟨i.toNat-3,0,by simp [h5],by simp at h4;omega,fun h=>by omega,fun _=>⟨rfl,rfl⟩⟩
 ·exact ⟨0,_,rfl,hn,fun _=>by simp,fun h=>by omega⟩
 ·exact ⟨0,_,rfl,hn,fun _=>by simp,fun h=>by omega⟩
theorem H19 {nc:Nat} {r r':RecS} (h:Rin nc r) (h':Rin nc r') (ne:r≠r') {j a n j' a' n':Nat} (e:H5 nc r=some (j,a,n)) (e':H5 nc r'=some (j',a',n')):j≠j'∨a+n≤a'∨a'+n'≤a:=by
 obtain ⟨h1,h2,h3,h4⟩:=h
 obtain ⟨g1,g2,g3,g4⟩:=h'
 obtain ⟨k,i⟩:=r
 obtain ⟨k',i'⟩:=r'
 simp only at h1 h2 h3 h4 g1 g2 g3 g4
 have ne':k≠k'∨i≠i':=by
  by_cases hk:k=k'
  ·right;intro hi;exact ne (by rw [hk,hi])
  ·exact .inl hk
 unfold H5 at e e'
 simp only at e e'
 rw [if_neg (by omega)] at e e'
 unfold Z0 at h4 g4
 have hk:k=1∨k=2∨k=3∨k=4∨k=5:=by omega
 have hk':k'=1∨k'=2∨k'=3∨k'=4∨k'=5:=by omega
 have fin:∀ {x y:Nat × Nat × Nat},some x=some y→x=y:=fun h=>by cases h;rfl
 rcases hk with rfl|rfl|rfl|rfl|rfl<;>rcases hk' with rfl|rfl|rfl|rfl|rfl<;>simp at e e' h4 g4 ne'<;>(try split at e)<;>(try split at e')<;>(try simp at e e')<;>omega
def Bv0 (X:CX) (r:RecS) (b:List UInt8):CX :=
 match H5 X.m.length r with
 | some (j,a,_)=>{ X with m:=X.m.set j (L9 (X.m.getD j []) a b) }
 | none=>X
theorem E58 (l:List (List UInt8)) (j j':Nat) (x:List UInt8) (h:j<l.length):(l.set j x).getD j' []=if j'=j then x else l.getD j' []:=by
 rw [List.getD_eq_getElem?_getD,List.getD_eq_getElem?_getD,List.getElem?_set]
 by_cases hj:j=j'
 ·subst hj;simp [h]
 ·rw [if_neg hj,if_neg (fun e=>hj e.symm)]
section
variable {nc:Nat} {X:CX} (c:Clean nc X) {r r':RecS} (h:Rin nc r) (h':Rin nc r')
include c h
theorem Ht7:rdX X r=some (rd X r):=by
 obtain ⟨j,a,e,_⟩:=h.place c.pos
 unfold rdX rd
 rw [c.len,e]
 simp [c.bad]
theorem Bw4 (b:List UInt8):wrX X r b true=(true,Bv0 X r b):=by
 obtain ⟨j,a,e,_⟩:=h.place c.pos
 unfold wrX Bv0
 rw [c.len,e]
 simp [c.bad]
theorem Eo0 {j a n:Nat} (e:H5 nc r=some (j,a,n)):a+n≤(X.m.getD j []).length∧j<X.m.length∧n=R0 r.kind:=by
 obtain ⟨j',a',e',hj,h0,h1⟩:=h.place c.pos
 rw [e] at e';cases e'
 rw [c.len]
 by_cases hz:j=0
 ·subst hz;rw [c.own];exact ⟨h0 rfl,hj,rfl⟩
 ·rw [c.brs j (by omega) hj]
  have:=h1 (by omega)
  exact ⟨by omega,hj,rfl⟩
include h'
theorem Af2 {b:List UInt8} (hb:b.length=R0 r.kind):rd (Bv0 X r b) r'=if r'=r then b else rd X r':=by
 obtain ⟨j,a,e,_⟩:=h.place c.pos
 obtain ⟨j',a',e',_⟩:=h'.place c.pos
 have p:=Eo0 c h e
 have p':=Eo0 c h' e'
 have es:Bv0 X r b={ X with m:=X.m.set j (L9 (X.m.getD j []) a b) }:=by unfold Bv0;rw [c.len,e]
 have el:(Bv0 X r b).m.length=nc:=by rw [es];simp [c.len]
 unfold rd
 rw [el,e',c.len,e',es]
 simp only
 rw [E58 _ _ _ _ p.2.1]
 by_cases hr:r'=r
 ·subst hr
  rw [e] at e';cases e'
  rw [if_pos rfl,if_pos rfl]
  have:=Gb6 (l:=X.m.getD j []) (b:=b) (a:=a) (by omega)
  rwa [hb] at this
 ·rw [if_neg hr]
  by_cases hj:j'=j
  ·subst hj
   rw [if_pos rfl]
   have dj:=H19 h' h hr e' e
   exact E27 (by omega) (by omega)
  ·rw [if_neg hj]
end
theorem Bw8 {nc:Nat} {X:CX} (c:Clean nc X) {r:RecS} (h:Rin nc r) {b:List UInt8} (hb:b.length=R0 r.kind) (hs:stR r.kind b≠2):Clean nc (Bv0 X r b):=by
 obtain ⟨j,a,e,_⟩:=h.place c.pos
 have p:=Eo0 c h e
 have es:Bv0 X r b={ X with m:=X.m.set j (L9 (X.m.getD j []) a b) }:=by unfold Bv0;rw [c.len,e]
 refine ⟨by rw [es];simp [c.len],c.pos,by rw [es];exact c.bad,?_,?_,?_⟩
 ·rw [es];simp only
  rw [E58 _ _ _ _ p.2.1]
  split
  ·rename_i h0;subst h0;rw [Ag4 (by omega)];exact c.own
  ·exact c.own
 ·intro i h0 h1
  rw [es];simp only
  rw [E58 _ _ _ _ p.2.1]
  split
  ·rename_i h2;subst h2;rw [Ag4 (by omega)];exact c.brs i h0 h1
  ·exact c.brs i h0 h1
 ·intro r' h1 h2 h3 h4
  rw [Af2 c h ⟨h1,h2,h3,h4⟩ hb]
  split
  ·rename_i hr;rw [hr];exact hs
  ·exact c.ok r' h1 h2 h3 h4
theorem Db1 {α:Type} (dec:List UInt8→α × Int) (z:α) {nc:Nat} {X:CX} (c:Clean nc X) {r:RecS} (h:Rin nc r) (hd:(dec (rd X r)).2=stR r.kind (rd X r)):V1 dec z X r=(dec (rd X r),X):=by
 unfold V1
 rw [Ht7 c h]
 simp only
 rw [if_neg (by rw [hd];exact c.ok r h.a h.b h.c h.d)]
abbrev vS (X:CX) (i:Int):ProcS × Int:=W0 (rd X ⟨1,i⟩)
abbrev vF (X:CX) (i:Int):FileS × Int:=Z2 (rd X ⟨2,i⟩)
abbrev vP (X:CX) (i:Int):PipeS × Int:=V2 (rd X ⟨3,i⟩)
theorem Bh2 {nc:Nat} {i:Int} (h:0≤i∧i<8):Rin nc ⟨1,i⟩:=⟨by simp,by simp,h.1,h.2⟩
theorem Bi9 {nc:Nat} {i:Int} (h:0≤i∧i<12):Rin nc ⟨2,i⟩:=⟨by simp,by simp,h.1,h.2⟩
theorem Bi6 {nc:Nat} {i:Int} (h:0≤i∧i<3+nc):Rin nc ⟨3,i⟩:=⟨by simp,by simp,h.1,h.2⟩
theorem Ab6 {nc:Nat} {X:CX} (c:Clean nc X) {i:Int} (h:0≤i∧i<8):D88 X i=(vS X i,X):=Db1 W0 .zero c (Bh2 h) rfl
theorem B91 {nc:Nat} {X:CX} (c:Clean nc X) {i:Int} (h:0≤i∧i<12):D74 X i=(vF X i,X):=Db1 Z2 .zero c (Bi9 h) rfl
theorem Ey8 {nc:Nat} {X:CX} (c:Clean nc X) {i:Int} (h:0≤i∧i<3+nc):Dj1 X i=(vP X i,X):=Db1 V2 .zero c (Bi6 h) rfl
theorem Dj0 {f:CX→Int→CX} {X:CX}:∀ (m:Nat) (i:Int),(∀ j,i≤j→j<i+m→f X j=X)→Dj2 f m i X=X
 | 0,_,_=>rfl
 | m+1,i,h=>by
  unfold Dj2
  rw [h i (by omega) (by omega)]
  exact Dj0 m (i+1) fun j h1 h2=>h j (by omega) (by omega)
theorem D76 {nc:Nat} {X:CX} (c:Clean nc X):Gc9 X=X:=by
 have h3:Ga9 X=X:=by
  unfold Ga9
  have e1:Es1 X=(V2 (rd X ⟨4,0⟩),X):=Db1 V2 .zero c ⟨by simp,by simp,by simp,by simp [Z0]⟩ rfl
  have e2:Ei0 X=(At1 (rd X ⟨5,0⟩),X):=Db1 At1 0 c ⟨by simp,by simp,by simp,by simp [Z0]⟩ rfl
  rw [e1];simp only;rw [e2]
 have hl:=c.len
 unfold Gc9 lookN Gt3 G11
 rw [Dj0 8 0 (fun j h1 h2=>by rw [Ab6 c (by omega)])]
 rw [Dj0 12 0 (fun j h1 h2=>by rw [B91 c (by omega)])]
 rw [Dj0 (3+X.m.length) 0 (fun j h1 h2=>by rw [Ey8 c (by omega)]),h3]
theorem G33 {f:FileS} (h:okF f=true):Z2 (Ai6 f)=(f,1):=by
 have hk:=h
 simp only [okF,Bool.and_eq_true,Bool.or_eq_true,decide_eq_true_eq,beq_iff_eq,bne_iff_ne] at h
 have e:B73 (Ai6 f)=f:=by
  obtain ⟨a,b,c,d⟩:=f
  simp only at h
  have h1:=Ab2 (x:=a) (by omega);have h2:=Ab2 (x:=b) (by omega);have h3:=Ab2 (x:=c) (by omega);have h4:=Ab2 (x:=d) (by omega)
  simp [B73,Ai6,A86]
  exact ⟨h1,h2,h3,h4⟩
 have hz:(Ai6 f).all (·==0)=false:=by simp [Ai6,A86]
 unfold Z2 isF
 rw [hz,e,hk]
 simp
section
variable {nc:Nat} {X:CX} (c:Clean nc X)
include c
abbrev Bg2 (X:CX) (i:Int) (p:ProcS):CX:=Bv0 X ⟨1,i⟩ (Aw1 p)
abbrev B87 (X:CX) (i:Int) (f:FileS):CX:=Bv0 X ⟨2,i⟩ (Ai6 f)
abbrev B70 (X:CX) (i:Int):CX:=Bv0 X ⟨1,i⟩ (List.replicate 24 0)
theorem Q0 {i:Int} (h:0≤i∧i<8) {p:ProcS} (ok:okS p=true) (r:InS p) :
  B82 X i p=(true,Bg2 X i p)∧Clean nc (Bg2 X i p)∧(∀ j:Int,0≤j∧j<8→vS (Bg2 X i p) j=if j=i then (p,1) else vS X j)∧(∀ j:Int,0≤j∧j<12→vF (Bg2 X i p) j=vF X j)∧(∀ j:Int,0≤j∧j<3+nc→vP (Bg2 X i p) j=vP X j):=by
 have hl:(Aw1 p).length=R0 (1:Int):=by rw [Eb1];rfl
 refine ⟨by unfold B82;rw [ok];exact Bw4 c (Bh2 h) _,Bw8 c (Bh2 h) hl (by show (W0 (Aw1 p)).2≠2;rw [G45 ok r];simp),fun j hj=>?_,fun j hj=>?_,fun j hj=>?_⟩
 ·show W0 (rd _ _)=_
  rw [Af2 c (Bh2 h) (Bh2 hj) hl]
  by_cases e:j=i
  ·rw [if_pos (by rw [e]),if_pos e];exact G45 ok r
  ·rw [if_neg (by simp [e]),if_neg e]
 ·show Z2 (rd _ _)=_
  rw [Af2 c (Bh2 h) (Bi9 hj) hl,if_neg (by simp)]
 ·show V2 (rd _ _)=_
  rw [Af2 c (Bh2 h) (Bi6 hj) hl,if_neg (by simp)]
theorem As6 {i:Int} (h:0≤i∧i<12) {f:FileS} (ok:okF f=true) :
  B85 X i f=(true,B87 X i f)∧Clean nc (B87 X i f)∧(∀ j:Int,0≤j∧j<8→vS (B87 X i f) j=vS X j)∧(∀ j:Int,0≤j∧j<12→vF (B87 X i f) j=if j=i then (f,1) else vF X j)∧(∀ j:Int,0≤j∧j<3+nc→vP (B87 X i f) j=vP X j):=by
 have hl:(Ai6 f).length=R0 (2:Int):=by rw [Dp8];rfl
 refine ⟨by unfold B85;rw [ok];exact Bw4 c (Bi9 h) _,Bw8 c (Bi9 h) hl (by show (Z2 (Ai6 f)).2≠2;rw [G33 ok];simp),fun j hj=>?_,fun j hj=>?_,fun j hj=>?_⟩
 ·show W0 (rd _ _)=_
  rw [Af2 c (Bi9 h) (Bh2 hj) hl,if_neg (by simp)]
 ·show Z2 (rd _ _)=_
  rw [Af2 c (Bi9 h) (Bi9 hj) hl]
  by_cases e:j=i
  ·rw [if_pos (by rw [e]),if_pos e];exact G33 ok
  ·rw [if_neg (by simp [e]),if_neg e]
 ·show V2 (rd _ _)=_
  rw [Af2 c (Bi9 h) (Bi6 hj) hl,if_neg (by simp)]
theorem Aj8 {i:Int} (h:0≤i∧i<8) :
  Bl3 X ⟨1,i⟩=(true,B70 X i)∧Clean nc (B70 X i)∧(∀ j:Int,0≤j∧j<8→vS (B70 X i) j=if j=i then (.zero,0) else vS X j)∧(∀ j:Int,0≤j∧j<12→vF (B70 X i) j=vF X j)∧(∀ j:Int,0≤j∧j<3+nc→vP (B70 X i) j=vP X j):=by
 have hl:(List.replicate 24 (0:UInt8)).length=R0 (1:Int):=rfl
 refine ⟨Bw4 c (Bh2 h) _,Bw8 c (Bh2 h) hl (by show (W0 (List.replicate 24 0)).2≠2;rw [show (W0 (List.replicate 24 0))=(.zero,0) from rfl];simp),fun j hj=>?_,fun j hj=>?_,fun j hj=>?_⟩
 ·show W0 (rd _ _)=_
  rw [Af2 c (Bh2 h) (Bh2 hj) hl]
  by_cases e:j=i
  ·rw [if_pos (by rw [e]),if_pos e];rfl
  ·rw [if_neg (by simp [e]),if_neg e]
 ·show Z2 (rd _ _)=_
  rw [Af2 c (Bh2 h) (Bi9 hj) hl,if_neg (by simp)]
 ·show V2 (rd _ _)=_
  rw [Af2 c (Bh2 h) (Bi6 hj) hl,if_neg (by simp)]
theorem Du9 {i:Int} (h:0≤i∧i<8):((vS X i).2=0∧(vS X i).1=.zero)∨((vS X i).2=1∧okS (vS X i).1=true):=by
 have:=c.ok ⟨1,i⟩ (by simp) (by simp) h.1 h.2
 have hk:(vS X i).2≠2:=this
 unfold vS W0 at hk ⊢
 split
 ·exact .inl ⟨rfl,rfl⟩
 ·split
  ·rename_i h2
   unfold isS at h2
   simp only [Bool.and_eq_true] at h2
   exact .inr ⟨rfl,h2.1⟩
  ·rename_i h1 h2;simp [h1,h2] at hk
theorem Gs9 {i:Int} (h:0≤i∧i<12):((vF X i).2=0∧(vF X i).1=.zero)∨((vF X i).2=1∧okF (vF X i).1=true):=by
 have:=c.ok ⟨2,i⟩ (by simp) (by simp) h.1 h.2
 have hk:(vF X i).2≠2:=this
 unfold vF Z2 at hk ⊢
 split
 ·exact .inl ⟨rfl,rfl⟩
 ·split
  ·rename_i h2
   unfold isF at h2
   simp only [Bool.and_eq_true] at h2
   exact .inr ⟨rfl,h2.1⟩
  ·rename_i h1 h2;simp [h1,h2] at hk
end
abbrev Ac8 (n e:Int) (b:Bool):List Value:=[int n,int e,.slice none 0 0,.bool b]
theorem Bw3 (e:Int):Ct D2 Aa8 [int e] [] fun v own=>v=.agg ⟨Ac8 0 e false⟩∧own []:=by
 refine Ct.of Hc2 rfl fun h r=>Tr.eq (G95 ..) ?_;(try simp only[Nr,Nl,Nat.reduceAdd,Nat.reduceMul,Int.reduceToNat])
 (repeat' first|refine Gu ?_|(with_reducible first|refine Gn fun b h=>?_|apply Gx|apply Gy|rintro px rfl|refine fun(h:H)=>?_|intro hb)|refine Gs ?_|refine Gt ?_|exact Gz rfl|fail)
 refine Ys fun o=>?_
 exact ⟨rfl,o.sub⟩
theorem Bw9 (ok:Bool) (n:Int):Ct D2 Aa6 [.bool ok,int n] [] fun v own=>v=.agg ⟨if ok then Ac8 n 0 false else Ac8 0 105 false⟩∧own []:=by
 refine Ct.of G68 rfl fun h r=>Tr.eq (Hc1 ..) ?_;(try simp only[Nr,Nl,Nat.reduceAdd,Nat.reduceMul,Int.reduceToNat])
 cases ok with
 | true =>
  (repeat' first|refine Gu ?_|(with_reducible first|refine Gn fun b h=>?_|apply Gx|apply Gy|rintro px rfl|refine fun(h:H)=>?_|intro hb)|refine Gs ?_|refine Gt ?_|exact Gz rfl|fail)
  refine Ys fun o=>?_
  exact ⟨rfl,o.sub⟩
 | false =>
  (repeat' first|refine Gu ?_|(with_reducible first|refine Gn fun b h=>?_|apply Gx|apply Gy|rintro px rfl|refine fun(h:H)=>?_|intro hb)|refine Gs ?_|refine Gt ?_|exact Gz rfl|fail)
  refine Yc (Bw3 105) ?_;rintro _ h ⟨rfl,o⟩<;>(refine (?_:Tr _ _ _ _) o;(try simp only[Nr,Nl,Nat.reduceAdd,Nat.reduceMul,Int.reduceToNat]);(repeat' first|refine Gu ?_|(with_reducible first|refine Gn fun b h=>?_|apply Gx|apply Gy|rintro px rfl|refine fun(h:H)=>?_|intro hb)|refine Gs ?_|refine Gt ?_|exact Gz rfl|fail))
  refine Ys fun o=>?_
  exact ⟨rfl,o.sub⟩
def M8 (X:CX) (i:Int):ProcS × Int:=if (vS X i).2=1∧(vS X i).1.state=1 then ((vS X i).1,0) else (.zero,105)
theorem Es9 (b k:Nat) (F:Fr) (X:CX) (ok:FrOk F) {nc:Nat} (c:Clean nc X) (i:Int) (hi:0≤i∧i<8):Ct D2 A09 [P0 b,int i] [cmC b k F X] fun v own=>v=.tuple ⟨[.agg ⟨E2 (M8 X i).1⟩,int (M8 X i).2]⟩∧own [cmC b k F X]:=by
 refine Ct.of Hd0 rfl fun h r=>Tr.eq (G89 ..) ?_;(try simp only[Nr,Nl,Nat.reduceAdd,Nat.reduceMul,Int.reduceToNat])
 (repeat' first|refine Gu ?_|(with_reducible first|apply Gx|apply Gy|rintro px rfl|refine fun(h:H)=>?_|intro hb)|refine Gs ?_|refine Gt ?_|exact Gz rfl|fail)
 refine Yn fun b0 h=>?_
 refine Yc (Gf2 b k F X ok) ?_;rintro _ h ⟨rfl,o⟩<;>(refine (?_:Tr _ _ _ _) o;(try simp only[Nr,Nl,Nat.reduceAdd,Nat.reduceMul,Int.reduceToNat]))
 rw [D76 c]
 (repeat' first|refine Gu ?_|(with_reducible first|refine Gn fun b h=>?_|apply Gx|apply Gy|rintro px rfl|refine fun(h:H)=>?_|intro hb)|refine Gs ?_|refine Gt ?_|exact Gz rfl|fail)
 refine Yc (Au4 b k F X ok i) ?_;rintro _ h ⟨rfl,o⟩<;>(refine (?_:Tr _ _ _ _) o;(try simp only[Nr,Nl,Nat.reduceAdd,Nat.reduceMul,Int.reduceToNat]))
 rw [Ab6 c hi]
 dsimp only
 (repeat' first|refine Gu ?_|(with_reducible first|apply Gx|apply Gy|rintro px rfl|refine fun(h:H)=>?_|intro hb)|refine Gs ?_|refine Gt ?_|exact Gz rfl|fail)
 refine Yn fun b1 h=>?_
 (repeat' first|refine Gu ?_|(with_reducible first|refine Gn fun b h=>?_|rintro px rfl|refine fun(h:H)=>?_|intro hb)|refine Gs ?_|refine Gt ?_|exact Gz rfl|fail)
 refine Tr.orG (c:=(vS X i).1.state != 1) (fun hb=>?_) ?_
 ·(repeat' first|refine Gu ?_|(with_reducible first|refine Gn fun b h=>?_|apply Gx|apply Gy|rintro px rfl|refine fun(h:H)=>?_|intro hb)|refine Gs ?_|refine Gt ?_|exact Gz rfl|fail)
 unfold M8
 by_cases h1:(vS X i).2=1∧(vS X i).1.state=1
 ·rw [if_pos h1]
  refine Yf (by simp [h1.1,h1.2]) ?_
  (repeat' first|refine Gu ?_|(with_reducible first|refine Gn fun b h=>?_|apply Gx|apply Gy|rintro px rfl|refine fun(h:H)=>?_|intro hb)|refine Gs ?_|refine Gt ?_|exact Gz rfl|fail)
  refine Ys fun o=>?_
  exact ⟨rfl,o.sub⟩
 ·rw [if_neg h1]
  refine Yt (by simp;by_cases h2:(vS X i).2=1<;>simp [h2] at h1 ⊢;exact h1) ?_
  (repeat' first|refine Gu ?_|(with_reducible first|refine Gn fun b h=>?_|apply Gx|apply Gy|rintro px rfl|refine fun(h:H)=>?_|intro hb)|refine Gs ?_|refine Gt ?_|exact Gz rfl|fail)
  refine Ys fun o=>?_
  exact ⟨rfl,o.sub⟩
def Z9 (X:CX):Nat→Int→Int
 | 0,_=>-1
 | m+1,i=>if (vS X i).2=0 then i else Z9 X m (i+1)
theorem Hj6 (b k:Nat) (F:Fr) (X:CX) (ok:FrOk F) {nc:Nat} (c:Clean nc X):∀ (m:Nat) (i:Int),0≤i→i+m=8 →
  CtJ H7 Ar0 Bl0 [(0,P0 b),(6,int i)] [cmC b k F X] fun v own=>v=int (Z9 X m i)∧own [cmC b k F X]:=by
 intro m
 induction m with
 | zero =>
  intro i h0 hi
  refine CtJ.of D01 fun h r=>Tr.eq (D31 ..) ?_;(try simp only[Nr,Nl,Nat.reduceAdd,Nat.reduceMul,Int.reduceToNat])
  refine Yf (by simp;omega) ?_
  refine Ys fun o=>?_
  exact ⟨rfl,o.sub⟩
 | succ m ih =>
  intro i h0 hi
  have e1:IntKind.wrap .i64 (i+1)=i+1:=by rw [D1];omega
  refine CtJ.of D01 fun h r=>Tr.eq (D31 ..) ?_;(try simp only[Nr,Nl,Nat.reduceAdd,Nat.reduceMul,Int.reduceToNat])
  refine Yt (by simp;omega) ?_
  refine Yc (Au4 b k F X ok i) ?_;rintro _ h ⟨rfl,o⟩<;>(refine (?_:Tr _ _ _ _) o;(try simp only[Nr,Nl,Nat.reduceAdd,Nat.reduceMul,Int.reduceToNat]))
  rw [Ab6 c (by omega)]
  dsimp only
  (repeat' first|refine Gu ?_|(with_reducible first|apply Gx|apply Gy|rintro px rfl|refine fun(h:H)=>?_|intro hb)|refine Gs ?_|refine Gt ?_|exact Gz rfl|fail)
  refine Yn fun b1 h=>?_
  (repeat' first|refine Gu ?_|(with_reducible first|refine Gn fun b h=>?_|apply Gx|apply Gy|rintro px rfl|refine fun(h:H)=>?_|intro hb)|refine Gs ?_|refine Gt ?_|exact Gz rfl|fail)
  rw [show Z9 X (m+1) i=if (vS X i).2=0 then i else Z9 X m (i+1) from rfl]
  by_cases h1:(vS X i).2=0
  ·rw [if_pos h1]
   refine Yt (by simpa using h1) ?_
   refine Ys fun o=>?_
   exact ⟨rfl,o.sub⟩
  ·rw [if_neg h1,e1]
   refine Yf (by simpa using h1) ?_
   refine Q8 [1] 1 rfl rfl ?_
   refine Yr (ih (i+1) (by omega) (by omega)) ?_
   intro v h q
   exact q
theorem H93 (b k:Nat) (F:Fr) (X:CX) (ok:FrOk F) {nc:Nat} (c:Clean nc X):Ct D2 Ar0 [P0 b] [cmC b k F X] fun v own=>v=int (Z9 X 8 0)∧own [cmC b k F X]:=by
 refine Ct.of D01 rfl fun h r=>Tr.eq (G71 ..) ?_;(try simp only[Nr,Nl,Nat.reduceAdd,Nat.reduceMul,Int.reduceToNat])
 refine Yr (Hj6 b k F X ok c 8 0 (by omega) (by omega)) ?_
 intro v h q
 exact q
def Bk0:List Int→List Int→List Int
 | [],m=>m
 | f::l,m=>Bk0 l (if f>0 then m.set (f-1).toNat (m.getD (f-1).toNat 0+1) else m)
def Ad2 (n:Int) (m:List Int):Prop:=m.length=12∧∀ x ∈ m,0≤x∧x≤n
theorem Ad2.get {n:Int} {m:List Int} (h:Ad2 n m) {j:Nat} (hj:j<12):0≤m.getD j 0∧m.getD j 0≤n:=by
 have hl:=h.1
 have e:m[j]?=some m[j]:=List.getElem?_eq_getElem (by omega)
 rw [List.getD_eq_getElem?_getD,e]
 exact h.2 _ (List.getElem_mem _)
theorem Ad2.set {n:Int} {m:List Int} (h:Ad2 n m) {j:Nat} (hj:j<12):Ad2 (n+1) (m.set j (m.getD j 0+1)):=by
 refine ⟨by simpa using h.1,fun x hx=>?_⟩
 rcases List.mem_or_eq_of_mem_set hx with h2|rfl
 ·have:=h.2 x h2;omega
 ·have:=h.get hj;omega
theorem Ad2.up {n:Int} {m:List Int} (h:Ad2 n m):Ad2 (n+1) m:=⟨h.1,fun x hx=>by have:=h.2 x hx;omega⟩
theorem Hy5 {m:List Int} {j:Nat} (h:j<m.length) (v:Int):Gh7 (m.map int) j (int v)=some ((m.set j v).map int):=by
 rw [Gh7,show Nat.blt j (m.map int).length=true from Nat.ble_eq_true_of_le (by simp;omega),List.map_set];rfl
def Bn4 (l:List Int):Prop:=∀ f ∈ l,0≤f∧f≤12
theorem Gf4 {l:List Int} {i:Nat} (h:i<l.length):(l.map int)[i]?=some (int (l.getD i 0)):=by rw [List.getElem?_map,O7 0 h];rfl
theorem G94 (b k:Nat) (F:Fr) (X:CX) (b0 b1:Nat) (p:ProcS) (hf:Bn4 p.fds) (Φ:Value→(List HP→Prop)→Prop) (M:List Int)
  (next:CtJ H7 H0 Am1 [(0,P0 b),(5,P0 b1),(31,.agg ⟨p.fds.map int⟩),(32,int 0)] [pt b1 (.cells Ed1 false (M.map int)),cmC b k F X] Φ) :
  ∀ (m i:Nat) (more:List Int),i+m=8→Ad2 i more→Bk0 (p.fds.drop i) more=M →
  CtJ H7 H0 Az0 [(0,P0 b),(3,P0 b0),(5,P0 b1),(17,.agg ⟨p.fds.map int⟩),(18,int i)] [pt b1 (.cells Ed1 false (more.map int)),pt b0 (.cells E1 false (E2 p)),cmC b k F X] Φ:=by
 intro m
 induction m with
 | zero =>
  intro i more hi hm hM
  have:i=8:=by omega
  subst this
  rw [show p.fds.drop 8=[] from List.drop_eq_nil_of_le (by rw [p.len];omega),show Bk0 [] more=more from rfl] at hM
  subst hM
  refine CtJ.of At0 fun h r=>Tr.eq (Dt8 ..) ?_;(try simp only[Nr,Nl,Nat.reduceAdd,Nat.reduceMul,Int.reduceToNat])
  refine Yf (by simp) ?_
  (repeat' first|refine Gu ?_|(with_reducible first|refine Gn fun b h=>?_|apply Gx|apply Gy|rintro px rfl|refine fun(h:H)=>?_|intro hb)|refine Gs ?_|refine Gt ?_|exact Gz rfl|fail)
  refine Q8 [0,1] 1 rfl rfl ?_
  refine Yr next ?_
  intro v h q
  exact q
 | succ m ih =>
  intro i more hi hm hM
  have e1:IntKind.wrap .i64 ((i:Int)+1)=((i+1:Nat):Int):=by rw [D1];omega
  have hil:i<p.fds.length:=by rw [p.len];omega
  have hg:=Gf4 hil
  have hd:p.fds.drop i=p.fds.getD i 0::p.fds.drop (i+1):=by
   rw [List.drop_eq_getElem_cons hil,List.getD_eq_getElem?_getD,List.getElem?_eq_getElem hil];rfl
  have hr:0≤p.fds.getD i 0∧p.fds.getD i 0≤12:=hf _ (by
   rw [List.getD_eq_getElem?_getD,List.getElem?_eq_getElem hil];exact List.getElem_mem _)
  rw [hd] at hM
  generalize p.fds.getD i 0=f at hg hr hM
  rw [show Bk0 (f::p.fds.drop (i+1)) more=Bk0 (p.fds.drop (i+1)) (if f>0 then more.set (f-1).toNat (more.getD (f-1).toNat 0+1) else more) from rfl] at hM
  refine CtJ.of At0 fun h r=>Tr.eq (Dt8 ..) ?_;(try simp only[Nr,Nl,Nat.reduceAdd,Nat.reduceMul,Int.reduceToNat])
  refine Yt (by simp;omega) ?_
  rw [e1]
  refine Tr.ck (by omega) ?_
  rw [Int.toNat_natCast]
  (repeat' first|refine Gu ?_|(with_reducible first|refine Gn fun b h=>?_|apply Gx|apply Gy|rintro px rfl|refine fun(h:H)=>?_|intro hb)|refine Gs ?_|refine Gt ?_|exact Gz rfl|fail)
  by_cases hz:f>0
  ·have e2:IntKind.wrap .i64 (f-1)=f-1:=by rw [D1];omega
   have hj:(f-1).toNat<12:=by omega
   have hm2:=hm.get hj
   have e3:IntKind.wrap .i64 (more.getD (f-1).toNat 0+1)=more.getD (f-1).toNat 0+1:=by rw [D1];omega
   have hgm:=Gf4 (l:=more) (i:=(f-1).toNat) (by rw [hm.1];exact hj)
   rw [if_pos hz] at hM
   rw [e2]
   refine Yt (by simpa using hz) ?_
   (repeat' first|refine Gu ?_|(with_reducible first|refine Gn fun b h=>?_|apply Gx|apply Gy|rintro px rfl|refine fun(h:H)=>?_|intro hb)|refine Gs ?_|refine Gt ?_|exact Gz rfl|fail)
   rw [e3]
   refine Gs (fun h=>?_) (by exact Hy5 (by rw [hm.1];exact hj) _)
   refine Yr (ih (i+1) (more.set (f-1).toNat (more.getD (f-1).toNat 0+1)) (by omega) (by rw [show ((i+1:Nat):Int)=(i:Int)+1 by omega];exact hm.set hj) hM) ?_
   intro v h q
   exact q
  ·rw [if_neg hz] at hM
   refine Yf (by simpa using hz) ?_
   refine Yr (ih (i+1) more (by omega) (by simpa using hm.up) hM) ?_
   intro v h q
   exact q
def Ai3 (X:CX) (more:List Int):List Int→Int
 | []=>0
 | f::l=>if f=0 then Ai3 X more l else if (vF X (f-1)).2≠1 then 105 else if (vF X (f-1)).1.refs+more.getD (f-1).toNat 0>64 then 123 else Ai3 X more l
theorem Eu6 {f:FileS} (h:okF f=true):1≤f.refs∧f.refs≤64:=by
 simp only [okF,Bool.and_eq_true,Bool.or_eq_true,decide_eq_true_eq,beq_iff_eq,bne_iff_ne] at h
 omega
theorem Gj2 {nc:Nat} {X:CX} (c:Clean nc X) {i:Int} (h:0≤i∧i<12):0≤(vF X i).1.refs∧(vF X i).1.refs≤64:=by
 rcases Gs9 c h with ⟨_,h1⟩|⟨_,h1⟩
 ·rw [h1];simp
 ·have:=Eu6 h1;omega
theorem Hb3 (b k:Nat) (F:Fr) (X:CX) (ok:FrOk F) {nc:Nat} (c:Clean nc X) (b1:Nat) (fds more:List Int) (hl:fds.length=8) (hf:Bn4 fds) (hm:Ad2 8 more) (Φ:Value→(List HP→Prop)→Prop)
  (bad:∀ (e:Int),Ai3 X more fds=e→e≠0→∀ h r,Own h (cmC b k F X::r)→Φ (int e) fun l=>Own h (l++r))
  (next:Ai3 X more fds=0→CtJ H7 H0 Al8 [(0,P0 b),(57,.agg ⟨more.map int⟩),(58,int 0)] [cmC b k F X] Φ) :
  ∀ (m i:Nat),i+m=8→Ai3 X more fds=Ai3 X more (fds.drop i) →
  CtJ H7 H0 Am1 [(0,P0 b),(5,P0 b1),(31,.agg ⟨fds.map int⟩),(32,int i)] [pt b1 (.cells Ed1 false (more.map int)),cmC b k F X] Φ:=by
 intro m
 induction m with
 | zero =>
  intro i hi he
  have:i=8:=by omega
  subst this
  rw [show fds.drop 8=[] from List.drop_eq_nil_of_le (by omega),show Ai3 X more []=0 from rfl] at he
  have hl12:B07 (more.map int) 0 12=some (more.map int):=Bx1 (by simp [hm.1])
  refine CtJ.of At0 fun h r=>Tr.eq (Ds6 ..) ?_;(try simp only[Nr,Nl,Nat.reduceAdd,Nat.reduceMul,Int.reduceToNat])
  refine Yf (by simp) ?_
  refine Gs ?_ (by exact hl12)
  refine Q8 [1] 1 rfl rfl ?_
  refine Yr (next he) ?_
  intro v h q
  exact q
 | succ m ih =>
  intro i hi he
  have e1:IntKind.wrap .i64 ((i:Int)+1)=((i+1:Nat):Int):=by rw [D1];omega
  have hil:i<fds.length:=by omega
  have hg:=Gf4 hil
  have hd:fds.drop i=fds.getD i 0::fds.drop (i+1):=by
   rw [List.drop_eq_getElem_cons hil,List.getD_eq_getElem?_getD,List.getElem?_eq_getElem hil];rfl
  have hr:0≤fds.getD i 0∧fds.getD i 0≤12:=hf _ (by
   rw [List.getD_eq_getElem?_getD,List.getElem?_eq_getElem hil];exact List.getElem_mem _)
  rw [hd] at he
  generalize fds.getD i 0=f at hg hr he
  rw [show Ai3 X more (f::fds.drop (i+1))=if f=0 then Ai3 X more (fds.drop (i+1)) else if (vF X (f-1)).2≠1 then 105 else if (vF X (f-1)).1.refs+more.getD (f-1).toNat 0>64 then 123 else Ai3 X more (fds.drop (i+1)) from rfl] at he
  refine CtJ.of At0 fun h r=>Tr.eq (Ds6 ..) ?_;(try simp only[Nr,Nl,Nat.reduceAdd,Nat.reduceMul,Int.reduceToNat])
  refine Yt (by simp;omega) ?_
  rw [e1]
  refine Tr.ck (by omega) ?_
  rw [Int.toNat_natCast]
  (repeat' first|refine Gu ?_|(with_reducible first|refine Gn fun b h=>?_|apply Gx|apply Gy|rintro px rfl|refine fun(h:H)=>?_|intro hb)|refine Gs ?_|refine Gt ?_|exact Gz rfl|fail)
  by_cases hz:f=0
  ·rw [if_pos hz] at he
   refine Yt (by simpa using hz) ?_
   refine Yr (ih (i+1) (by omega) he) ?_
   intro v h q
   exact q
  rw [if_neg hz] at he
  refine Yf (by simpa using hz) ?_
  have e2:IntKind.wrap .i64 (f-1)=f-1:=by rw [D1];omega
  have hj:(f-1).toNat<12:=by omega
  rw [e2]
  refine Yc (Ea5 b k F X ok (f-1)) ?_;rintro _ h ⟨rfl,o⟩<;>(refine (?_:Tr _ _ _ _) o;(try simp only[Nr,Nl,Nat.reduceAdd,Nat.reduceMul,Int.reduceToNat]))
  rw [B91 c (by omega)]
  dsimp only
  (repeat' first|refine Gu ?_|(with_reducible first|apply Gx|apply Gy|rintro px rfl|refine fun(h:H)=>?_|intro hb)|refine Gs ?_|refine Gt ?_|exact Gz rfl|fail)
  refine Yn fun b2 h=>?_
  (repeat' first|refine Gu ?_|(with_reducible first|refine Gn fun b h=>?_|apply Gx|apply Gy|rintro px rfl|refine fun(h:H)=>?_|intro hb)|refine Gs ?_|refine Gt ?_|exact Gz rfl|fail)
  by_cases h1:(vF X (f-1)).2=1
  ·rw [if_neg (by simpa using h1)] at he
   refine Yf (by simpa using h1) ?_
   have hm2:=hm.get hj
   have hgm:=Gf4 (l:=more) (i:=(f-1).toNat) (by rw [hm.1];exact hj)
   have hrf:=Gj2 c (i:=f-1) (by omega)
   have e3:IntKind.wrap .i64 ((vF X (f-1)).1.refs+more.getD (f-1).toNat 0)=(vF X (f-1)).1.refs+more.getD (f-1).toNat 0:=by rw [D1];omega
   (repeat' first|refine Gu ?_|(with_reducible first|refine Gn fun b h=>?_|apply Gx|apply Gy|rintro px rfl|refine fun(h:H)=>?_|intro hb)|refine Gs ?_|refine Gt ?_|exact Gz rfl|fail)
   rw [e3]
   by_cases h2:(vF X (f-1)).1.refs+more.getD (f-1).toNat 0>64
   ·rw [if_pos h2] at he
    refine Yt (by simpa using h2) ?_
    refine Q8 [1] 2 rfl rfl ?_
    refine Ys fun o=>?_
    exact bad 123 he (by simp) _ _ o
   ·rw [if_neg h2] at he
    refine Yf (by simpa using h2) ?_
    refine Q8 [2,1] 1 rfl rfl ?_
    refine Yr (ih (i+1) (by omega) he) ?_
    intro v h q
    exact q
  ·rw [if_pos h1] at he
   refine Yt (by simpa using h1) ?_
   refine Q8 [1] 2 rfl rfl ?_
   refine Ys fun o=>?_
   exact bad 105 he (by simp) _ _ o
abbrev Bh6 (f:FileS) (n:Int):FileS:=⟨f.kind,f.pipe,f.refs+n,f.flags⟩
def Ba5 (more:List Int):Nat→Int→CX→CX
 | 0,_,X=>X
 | m+1,j,X=>Ba5 more m (j+1) (if more.getD j.toNat 0=0 then X else B87 X j (Bh6 (vF X j).1 (more.getD j.toNat 0)))
def Gi1 (more:List Int) (X:CX) (j:Int):Prop:=∀ i:Int,j≤i→i<12→more.getD i.toNat 0≠0→(vF X i).2=1∧(vF X i).1.refs+more.getD i.toNat 0≤64
theorem E62 {f:FileS} (h:okF f=true) {n:Int} (hn:1≤f.refs+n∧f.refs+n≤64):okF (Bh6 f n)=true:=by
 simp only [okF,Bool.and_eq_true,Bool.or_eq_true,decide_eq_true_eq,beq_iff_eq,bne_iff_ne] at h ⊢
 omega
theorem Gi1.step {nc:Nat} {X:CX} (c:Clean nc X) {more:List Int} (hm:Ad2 8 more) {j:Int} (h0:0≤j∧j<12) (s:Gi1 more X j) (hz:more.getD j.toNat 0≠0) :
  okF (Bh6 (vF X j).1 (more.getD j.toNat 0))=true∧Gi1 more (B87 X j (Bh6 (vF X j).1 (more.getD j.toNat 0))) (j+1):=by
 obtain ⟨s1,s2⟩:=s j (by omega) (by omega) hz
 have hg:=hm.get (j:=j.toNat) (by omega)
 have hk:okF (vF X j).1=true:=by
  rcases Gs9 c h0 with ⟨h1,_⟩|⟨_,h1⟩
  ·omega
  ·exact h1
 have hr:=Eu6 hk
 have k:=E62 hk (n:=more.getD j.toNat 0) (by omega)
 refine ⟨k,fun i h1 h2 hi=>?_⟩
 rw [(As6 c h0 k).2.2.2.1 i (by omega),if_neg (by omega)]
 exact s i (by omega) h2 hi
theorem Hc4 (b k:Nat) (F:Fr) (ok:FrOk F) {nc:Nat} (more:List Int) (hm:Ad2 8 more):∀ (m:Nat) (j:Int) (X:CX),Clean nc X→Gi1 more X j→0≤j→j+m=12 →
  CtJ H7 H0 Al8 [(0,P0 b),(57,.agg ⟨more.map int⟩),(58,int j)] [cmC b k F X] fun v own=>v=int 0∧own [cmC b k F (Ba5 more m j X)]:=by
 intro m
 induction m with
 | zero =>
  intro j X c s h0 hj
  refine CtJ.of At0 fun h r=>Tr.eq (Dv6 ..) ?_;(try simp only[Nr,Nl,Nat.reduceAdd,Nat.reduceMul,Int.reduceToNat])
  refine Yf (by simp;omega) ?_
  refine Ys fun o=>?_
  rw [show Ba5 more 0 j X=X from rfl]
  exact ⟨rfl,o.sub⟩
 | succ m ih =>
  intro j X c s h0 hj
  have e1:IntKind.wrap .i64 (j+1)=j+1:=by rw [D1];omega
  have hg:=Gf4 (l:=more) (i:=j.toNat) (by rw [hm.1];omega)
  have hm2:=hm.get (j:=j.toNat) (by omega)
  rw [show Ba5 more (m+1) j X=Ba5 more m (j+1) (if more.getD j.toNat 0=0 then X else B87 X j (Bh6 (vF X j).1 (more.getD j.toNat 0))) from rfl]
  refine CtJ.of At0 fun h r=>Tr.eq (Dv6 ..) ?_;(try simp only[Nr,Nl,Nat.reduceAdd,Nat.reduceMul,Int.reduceToNat])
  refine Yt (by simp;omega) ?_
  rw [e1]
  (repeat' first|refine Gu ?_|(with_reducible first|refine Gn fun b h=>?_|apply Gx|apply Gy|rintro px rfl|refine fun(h:H)=>?_|intro hb)|refine Gs ?_|refine Gt ?_|exact Gz rfl|fail)
  by_cases hz:more.getD j.toNat 0=0
  ·rw [if_pos hz]
   refine Yt (by simpa using hz) ?_
   refine Yr (ih (j+1) X c (fun i h1 h2 h3=>s i (by omega) h2 h3) (by omega) (by omega)) ?_
   intro v h q
   exact q
  ·rw [if_neg hz]
   refine Yf (by simpa using hz) ?_
   have hrf:=Gj2 c (i:=j) (by omega)
   have e3:IntKind.wrap .i64 ((vF X j).1.refs+more.getD j.toNat 0)=(vF X j).1.refs+more.getD j.toNat 0:=by rw [D1];omega
   obtain ⟨k1,s2⟩:=s.step c hm (by omega) hz
   obtain ⟨w1,w2,_⟩:=As6 c (i:=j) (by omega) k1
   refine Yc (Ea5 b k F X ok j) ?_;rintro _ h ⟨rfl,o⟩<;>(refine (?_:Tr _ _ _ _) o;(try simp only[Nr,Nl,Nat.reduceAdd,Nat.reduceMul,Int.reduceToNat]))
   rw [B91 c (by omega)]
   dsimp only
   (repeat' first|refine Gu ?_|(with_reducible first|apply Gx|apply Gy|rintro px rfl|refine fun(h:H)=>?_|intro hb)|refine Gs ?_|refine Gt ?_|exact Gz rfl|fail)
   refine Yn fun b2 h=>?_
   (repeat' first|refine Gu ?_|(with_reducible first|refine Gn fun b h=>?_|apply Gx|apply Gy|rintro px rfl|refine fun(h:H)=>?_|intro hb)|refine Gs ?_|refine Gt ?_|exact Gz rfl|fail)
   simp only [e3,List.set_cons_succ,List.set_cons_zero,List.drop_zero,List.take]
   refine Yc (Ez7 b k F X ok j (Bh6 (vF X j).1 (more.getD j.toNat 0))) ?_;rintro _ h ⟨rfl,o⟩<;>(refine (?_:Tr _ _ _ _) o;(try simp only[Nr,Nl,Nat.reduceAdd,Nat.reduceMul,Int.reduceToNat]))
   rw [w1]
   dsimp only
   (repeat' first|refine Gu ?_|(with_reducible first|refine Gn fun b h=>?_|apply Gx|apply Gy|rintro px rfl|refine fun(h:H)=>?_|intro hb)|refine Gs ?_|refine Gt ?_|exact Gz rfl|fail)
   refine Q8 [0] 1 rfl rfl ?_
   refine Yr (ih (j+1) _ w2 s2 (by omega) (by omega)) ?_
   intro v h q
   exact q
theorem Ei9:∀ (l m:List Int) (i:Nat),Bn4 l→m.length=12→(Bk0 l m).getD i 0≠0→m.getD i 0≠0∨((i:Int)+1) ∈ l
 | [],m,i,_,_,h=>.inl h
 | f::l,m,i,hf,hm,h=>by
  have hr:=hf f (by simp)
  have hl:Bn4 l:=fun x hx=>hf x (by simp [hx])
  rw [show Bk0 (f::l) m=Bk0 l (if f>0 then m.set (f-1).toNat (m.getD (f-1).toNat 0+1) else m) from rfl] at h
  by_cases hz:f>0
  ·rw [if_pos hz] at h
   rcases Ei9 l _ i hl (by simpa using hm) h with h2|h2
   ·by_cases hi:(f-1).toNat=i
    ·right
     rw [show (i:Int)+1=f by omega];simp
    ·left
     rw [List.getD_eq_getElem?_getD,List.getElem?_set_ne hi,← List.getD_eq_getElem?_getD] at h2
     exact h2
   ·exact .inr (by simp [h2])
  ·rw [if_neg hz] at h
   rcases Ei9 l m i hl hm h with h2|h2
   ·exact .inl h2
   ·exact .inr (by simp [h2])
theorem Dw8:∀ (l m:List Int) (n:Int),Bn4 l→Ad2 n m→Ad2 (n+l.length) (Bk0 l m)
 | [],m,n,_,h=>by simpa [Bk0] using h
 | f::l,m,n,hf,h=>by
  have hr:=hf f (by simp)
  have hl:Bn4 l:=fun x hx=>hf x (by simp [hx])
  rw [show Bk0 (f::l) m=Bk0 l (if f>0 then m.set (f-1).toNat (m.getD (f-1).toNat 0+1) else m) from rfl]
  have e:n+((f::l).length:Int)=(n+1)+l.length:=by simp;omega
  rw [e]
  by_cases hz:f>0
  ·rw [if_pos hz];exact Dw8 l _ (n+1) hl (h.set (by omega))
  ·rw [if_neg hz];exact Dw8 l m (n+1) hl h.up
theorem Ec2 {X:CX} {more:List Int}:∀ (l:List Int),Ai3 X more l=0→∀ f ∈ l,f≠0→(vF X (f-1)).2=1∧(vF X (f-1)).1.refs+more.getD (f-1).toNat 0≤64
 | [],_,f,h,_=>by simp at h
 | g::l,h,f,hm,hf=>by
  rw [show Ai3 X more (g::l)=if g=0 then Ai3 X more l else if (vF X (g-1)).2≠1 then 105 else if (vF X (g-1)).1.refs+more.getD (g-1).toNat 0>64 then 123 else Ai3 X more l from rfl] at h
  by_cases hg:g=0
  ·rw [if_pos hg] at h
   rcases List.mem_cons.1 hm with rfl|h2
   ·exact absurd hg hf
   ·exact Ec2 l h f h2 hf
  ·rw [if_neg hg] at h
   by_cases h1:(vF X (g-1)).2=1
   ·rw [if_neg (by simpa using h1)] at h
    by_cases h2:(vF X (g-1)).1.refs+more.getD (g-1).toNat 0>64
    ·rw [if_pos h2] at h;cases h
    ·rw [if_neg h2] at h
     rcases List.mem_cons.1 hm with rfl|h3
     ·exact ⟨h1,by omega⟩
     ·exact Ec2 l h f h3 hf
   ·rw [if_pos h1] at h;cases h
abbrev Eh4:List Int:=[0,0,0,0,0,0,0,0,0,0,0,0]
theorem Hr0:Ad2 0 Eh4:=⟨rfl,fun x hx=>by simp at hx;omega⟩
abbrev Bf5 (p:ProcS):List Int:=Bk0 p.fds Eh4
theorem Ey9 {p:ProcS} (h:Bn4 p.fds):Ad2 8 (Bf5 p):=by
 have:=Dw8 p.fds Eh4 0 h Hr0
 rw [p.len] at this
 exact this
theorem G01 {X:CX} {p:ProcS} (h:Bn4 p.fds) (e:Ai3 X (Bf5 p) p.fds=0):Gi1 (Bf5 p) X 0:=fun i h0 h1 hi=>by
 rcases Ei9 p.fds Eh4 i.toNat h rfl hi with h2|h2
 ·exfalso;apply h2
  have:i.toNat=0∨i.toNat=1∨i.toNat=2∨i.toNat=3∨i.toNat=4∨i.toNat=5∨i.toNat=6∨i.toNat=7∨i.toNat=8∨i.toNat=9∨i.toNat=10∨i.toNat=11:=by omega
  rcases this with h|h|h|h|h|h|h|h|h|h|h|h<;>rw [h]<;>rfl
 ·have:=Ec2 p.fds e _ h2 (by omega)
  rw [show ((i.toNat:Nat):Int)+1-1=i by omega] at this
  exact this
def S8 (X:CX) (p:ProcS):Int × CX:=if Ai3 X (Bf5 p) p.fds=0 then (0,Ba5 (Bf5 p) 12 0 X) else (Ai3 X (Bf5 p) p.fds,X)
theorem Hp4 (b k:Nat) (F:Fr) (X:CX) (ok:FrOk F) {nc:Nat} (c:Clean nc X) (p:ProcS) (hf:Bn4 p.fds):Ct D2 H0 [P0 b,.agg ⟨E2 p⟩] [cmC b k F X] fun v own=>v=int (S8 X p).1∧own [cmC b k F (S8 X p).2]:=by
 refine Ct.of At0 rfl fun h r=>Tr.eq (Gu7 ..) ?_;(try simp only[Nr,Nl,Nat.reduceAdd,Nat.reduceMul,Int.reduceToNat])
 refine Yn fun b0 h=>?_
 refine Yn fun b1 h=>?_
 (repeat' first|refine Gu ?_|(with_reducible first|refine Gn fun b h=>?_|apply Gx|apply Gy|rintro px rfl|refine fun(h:H)=>?_|intro hb)|refine Gs ?_|refine Gt ?_|exact Gz rfl|fail)
 have hm:=Ey9 hf
 have L2:=Hb3 b k F X ok c b1 p.fds (Bf5 p) p.len hf hm (fun v own=>v=int (S8 X p).1∧own [cmC b k F (S8 X p).2])
  (fun e he hz h r o=>by
   unfold S8
   rw [if_neg (by rw [he];exact hz),he]
   exact ⟨rfl,o⟩)
  (fun he=>by
   have J:=Hc4 b k F ok (Bf5 p) hm 12 0 X c (G01 hf he) (by omega) (by omega)
   unfold S8
   rw [if_pos he]
   exact J) 8 0 rfl rfl
 refine B76 (G94 b k F X b0 b1 p hf _ (Bf5 p) L2 8 0 Eh4 rfl (by simpa using Hr0) rfl) [0,0,0] rfl ?_
 intro v h q
 exact q
theorem Dm3 {nc:Nat} {more:List Int} (hm:Ad2 8 more):∀ (m:Nat) (j:Int) (X:CX),Clean nc X→Gi1 more X j→0≤j→j+m=12 →
  Clean nc (Ba5 more m j X)∧(∀ i:Int,0≤i∧i<8→vS (Ba5 more m j X) i=vS X i) ∧
  (∀ i:Int,0≤i∧i<12→vF (Ba5 more m j X) i=if j≤i∧more.getD i.toNat 0≠0 then (Bh6 (vF X i).1 (more.getD i.toNat 0),1) else vF X i)∧(∀ i:Int,0≤i∧i<3+nc→vP (Ba5 more m j X) i=vP X i)
 | 0,j,X,c,_,h0,hj=>⟨c,fun _ _=>rfl,fun i hi=>by rw [if_neg (by omega)];rfl,fun _ _=>rfl⟩
 | m+1,j,X,c,s,h0,hj=>by
  rw [show Ba5 more (m+1) j X=Ba5 more m (j+1) (if more.getD j.toNat 0=0 then X else B87 X j (Bh6 (vF X j).1 (more.getD j.toNat 0))) from rfl]
  by_cases hz:more.getD j.toNat 0=0
  ·rw [if_pos hz]
   obtain ⟨a1,a2,a3,a4⟩:=Dm3 hm m (j+1) X c (fun i h1 h2 h3=>s i (by omega) h2 h3) (by omega) (by omega)
   refine ⟨a1,a2,fun i hi=>?_,a4⟩
   rw [a3 i hi]
   by_cases hij:i=j
   ·subst hij
    rw [if_neg (by omega),if_neg (by simp only [hz];simp)]
   ·by_cases h2:j≤i∧more.getD i.toNat 0≠0
    ·rw [if_pos h2,if_pos ⟨by omega,h2.2⟩]
    ·rw [if_neg h2,if_neg (fun h3=>h2 ⟨by omega,h3.2⟩)]
  ·rw [if_neg hz]
   obtain ⟨k1,s2⟩:=s.step c hm (by omega) hz
   obtain ⟨w1,w2,w3,w4,w5⟩:=As6 c (i:=j) (by omega) k1
   obtain ⟨a1,a2,a3,a4⟩:=Dm3 hm m (j+1) _ w2 s2 (by omega) (by omega)
   refine ⟨a1,fun i hi=>by rw [a2 i hi,w3 i hi],fun i hi=>?_,fun i hi=>by rw [a4 i hi,w5 i hi]⟩
   rw [a3 i hi,w4 i hi]
   by_cases hij:i=j
   ·subst hij
    rw [if_neg (by omega),if_pos rfl,if_pos ⟨by omega,hz⟩]
   ·rw [if_neg hij]
    by_cases h2:j≤i∧more.getD i.toNat 0≠0
    ·rw [if_pos h2,if_pos ⟨by omega,h2.2⟩]
    ·rw [if_neg h2,if_neg (fun h3=>h2 ⟨by omega,h3.2⟩)]
theorem He2 (l:List UInt8) (i:Nat):0≤byI l i∧byI l i<256:=by
 have:=(l.getD i 0).toNat_lt
 unfold byI;omega
theorem Eu0 (l:List UInt8) (j:Nat):0≤two l j∧two l j≤65535:=by
 have:=He2 l j;have:=He2 l (j+1)
 unfold two;omega
theorem Bl1 (l:List UInt8):InS (W0 l).1:=by
 unfold W0
 split
 ·exact ⟨by simp,by simp,by simp,by simp⟩
 ·split
  ·exact ⟨Eu0 _ _,Eu0 _ _,Eu0 _ _,Eu0 _ _⟩
  ·exact ⟨by simp,by simp,by simp,by simp⟩
theorem D22 {p:ProcS} (h:okS p=true):Bn4 p.fds:=fun f hf=>by
 unfold okS at h
 simp only [Bool.and_eq_true,Bool.not_eq_true',List.any_eq_false] at h
 have:=h.2.2.1 f hf
 simp at this;omega
abbrev Ad4 (p:ProcS) (i:Int):ProcS:=⟨p.state,i+1,p.group,p.code,0,p.mask,p.ignored,p.caught,p.fds,p.len⟩
theorem E44 {p:ProcS} (h:okS p=true) (h1:p.state=1) {i:Int} (hi:0≤i∧i<8):okS (Ad4 p i)=true:=by
 unfold okS at h ⊢
 rw [if_neg (by rw [h1];decide)] at h
 rw [if_neg (show ¬ (Ad4 p i).state=2 by show ¬ p.state=2;rw [h1];decide)]
 simp only [Bool.and_eq_true,Bool.not_eq_true',Bool.or_eq_false_iff,decide_eq_false_iff_not] at h ⊢
 obtain ⟨⟨⟨⟨⟨⟨⟨⟨a1,a2⟩,a3⟩,a4⟩,a5⟩,a6⟩,a7⟩,a8⟩,⟨⟨⟨⟨b1,b2⟩,b3⟩,b4⟩,b5⟩,d1,d2⟩:=h
 exact ⟨⟨⟨⟨⟨⟨⟨⟨a1,a2⟩,by show ¬ i+1<0;omega⟩,by show ¬ i+1>8;omega⟩,a5⟩,a6⟩,a7⟩,a8⟩,⟨⟨⟨⟨by simp [Hx7],b2⟩,b3⟩,b4⟩,b5⟩,d1,d2⟩
def Au7 (X:CX) (i:Int):List Value × CX :=
 if (M8 X i).2≠0 then (Ac8 0 (M8 X i).2 false,X)
 else if Z9 X 8 0<0 then (Ac8 0 111 false,X)
 else if (S8 X (M8 X i).1).1≠0 then (Ac8 0 (S8 X (M8 X i).1).1 false,X)
 else (Ac8 (Z9 X 8 0) 0 false,Bg2 (S8 X (M8 X i).1).2 (Z9 X 8 0) (Ad4 (M8 X i).1 i))
theorem Dw4 {X:CX}:∀ (m:Nat) (i:Int),0≤i→i+m=8→Z9 X m i=-1∨(0≤Z9 X m i∧Z9 X m i<8∧(vS X (Z9 X m i)).2=0)
 | 0,i,_,_=>.inl rfl
 | m+1,i,h0,hi=>by
  rw [show Z9 X (m+1) i=if (vS X i).2=0 then i else Z9 X m (i+1) from rfl]
  split
  ·rename_i h;exact .inr ⟨h0,by omega,h⟩
  ·exact Dw4 m (i+1) (by omega) (by omega)
theorem E33 {nc:Nat} {X:CX} (c:Clean nc X) {i:Int} (hi:0≤i∧i<8) (h:(M8 X i).2=0):M8 X i=((vS X i).1,0)∧(vS X i).1.state=1∧okS (vS X i).1=true∧(vS X i).2=1:=by
 unfold M8 at h ⊢
 split
 ·rename_i h1
  refine ⟨rfl,h1.2,?_,h1.1⟩
  rcases Du9 c hi with ⟨h2,_⟩|⟨_,h2⟩
  ·rw [h1.1] at h2;cases h2
  ·exact h2
 ·rename_i h1;rw [if_neg h1] at h;cases h
theorem Hx3 {X:CX} {p:ProcS} (h:(S8 X p).1≠0):(S8 X p).2=X:=by
 unfold S8 at h ⊢
 split
 ·rename_i h1;rw [if_pos h1] at h;exact absurd rfl h
 ·rfl
theorem Dp6 {nc:Nat} {X:CX} (c:Clean nc X) {p:ProcS} (hf:Bn4 p.fds) (h:(S8 X p).1=0):Clean nc (S8 X p).2∧(∀ i:Int,0≤i∧i<8→vS (S8 X p).2 i=vS X i) ∧
  (∀ i:Int,0≤i∧i<12→vF (S8 X p).2 i=if (Bf5 p).getD i.toNat 0≠0 then (Bh6 (vF X i).1 ((Bf5 p).getD i.toNat 0),1) else vF X i)∧(∀ i:Int,0≤i∧i<3+nc→vP (S8 X p).2 i=vP X i):=by
 unfold S8 at h ⊢
 split
 ·rename_i he
  obtain ⟨a1,a2,a3,a4⟩:=Dm3 (Ey9 hf) 12 0 X c (G01 hf he) (by omega) (by omega)
  refine ⟨a1,a2,fun i hi=>?_,a4⟩
  rw [a3 i hi]
  by_cases h2:(Bf5 p).getD i.toNat 0≠0
  ·rw [if_pos h2,if_pos ⟨hi.1,h2⟩]
  ·rw [if_neg h2,if_neg (fun h3=>h2 h3.2)]
 ·rename_i he;rw [if_neg he] at h;exact absurd h he
theorem Er6 (b k:Nat) (F:Fr) (X:CX) (ok:FrOk F) {nc:Nat} (c:Clean nc X) (i:Int) (hi:0≤i∧i<8):Ct D2 A19 [P0 b,int i] [cmC b k F X] fun v own=>v=.agg ⟨(Au7 X i).1⟩∧own [cmC b k F (Au7 X i).2]:=by
 have e1:IntKind.wrap .i64 (i+1)=i+1:=by rw [D1];omega
 unfold Au7
 refine Ct.of Hb7 rfl fun h r=>Tr.eq (Hc6 ..) ?_;(try simp only[Nr,Nl,Nat.reduceAdd,Nat.reduceMul,Int.reduceToNat])
 refine Yn fun b0 h=>?_
 refine Yc (Es9 b k F X ok c i hi) ?_;rintro _ h ⟨rfl,o⟩<;>(refine (?_:Tr _ _ _ _) o;(try simp only[Nr,Nl,Nat.reduceAdd,Nat.reduceMul,Int.reduceToNat]))
 (repeat' first|refine Gu ?_|(with_reducible first|apply Gx|apply Gy|rintro px rfl|refine fun(h:H)=>?_|intro hb)|refine Gs ?_|refine Gt ?_|exact Gz rfl|fail)
 refine Yn fun b1 h=>?_
 (repeat' first|refine Gu ?_|(with_reducible first|refine Gn fun b h=>?_|apply Gx|apply Gy|rintro px rfl|refine fun(h:H)=>?_|intro hb)|refine Gs ?_|refine Gt ?_|exact Gz rfl|fail)
 by_cases h0:(M8 X i).2=0
 case neg =>
  rw [if_pos h0]
  refine Yt (by simpa using h0) ?_
  refine Yc (Bw3 (M8 X i).2) ?_;rintro _ h ⟨rfl,o⟩<;>(refine (?_:Tr _ _ _ _) o;(try simp only[Nr,Nl,Nat.reduceAdd,Nat.reduceMul,Int.reduceToNat]);(repeat' first|refine Gu ?_|(with_reducible first|refine Gn fun b h=>?_|apply Gx|apply Gy|rintro px rfl|refine fun(h:H)=>?_|intro hb)|refine Gs ?_|refine Gt ?_|exact Gz rfl|fail))
  refine Ys fun o=>?_
  exact ⟨rfl,o.sub⟩
 rw [if_neg (by simpa using h0)]
 refine Yf (by simpa using h0) ?_
 obtain ⟨s1,s2,s3,s4⟩:=E33 c hi h0
 refine Yc (H93 b k F X ok c) ?_;rintro _ h ⟨rfl,o⟩<;>(refine (?_:Tr _ _ _ _) o;(try simp only[Nr,Nl,Nat.reduceAdd,Nat.reduceMul,Int.reduceToNat]))
 (repeat' first|refine Gu ?_|(with_reducible first|refine Gn fun b h=>?_|apply Gx|apply Gy|rintro px rfl|refine fun(h:H)=>?_|intro hb)|refine Gs ?_|refine Gt ?_|exact Gz rfl|fail)
 by_cases h1:Z9 X 8 0<0
 ·rw [if_pos h1]
  refine Yt (by simpa using h1) ?_
  refine Yc (Bw3 111) ?_;rintro _ h ⟨rfl,o⟩<;>(refine (?_:Tr _ _ _ _) o;(try simp only[Nr,Nl,Nat.reduceAdd,Nat.reduceMul,Int.reduceToNat]);(repeat' first|refine Gu ?_|(with_reducible first|refine Gn fun b h=>?_|apply Gx|apply Gy|rintro px rfl|refine fun(h:H)=>?_|intro hb)|refine Gs ?_|refine Gt ?_|exact Gz rfl|fail))
  refine Ys fun o=>?_
  exact ⟨rfl,o.sub⟩
 rw [if_neg h1]
 refine Yf (by simpa using h1) ?_
 have hf:Bn4 (M8 X i).1.fds:=by rw [s1];exact D22 s3
 have hok:okS (Ad4 (M8 X i).1 i)=true:=by rw [s1];exact E44 s3 s2 hi
 have hin:InS (Ad4 (M8 X i).1 i):=by
  have:=Bl1 (rd X ⟨1,i⟩)
  rw [s1]
  exact ⟨by simp,this.b,this.c,this.d⟩
 generalize (M8 X i).1=p at hf hok hin
 (repeat' first|refine Gu ?_|(with_reducible first|refine Gn fun b h=>?_|apply Gx|apply Gy|rintro px rfl|refine fun(h:H)=>?_|intro hb)|refine Gs ?_|refine Gt ?_|exact Gz rfl|fail)
 refine Yc (Hp4 b k F X ok c p hf) ?_;rintro _ h ⟨rfl,o⟩<;>(refine (?_:Tr _ _ _ _) o;(try simp only[Nr,Nl,Nat.reduceAdd,Nat.reduceMul,Int.reduceToNat]))
 (repeat' first|refine Gu ?_|(with_reducible first|refine Gn fun b h=>?_|apply Gx|apply Gy|rintro px rfl|refine fun(h:H)=>?_|intro hb)|refine Gs ?_|refine Gt ?_|exact Gz rfl|fail)
 by_cases h2:(S8 X p).1=0
 case neg =>
  rw [if_pos h2]
  rw [Hx3 h2] at o ⊢
  refine Yt (by simpa using h2) ?_
  refine Yc (Bw3 (S8 X p).1) ?_;rintro _ h ⟨rfl,o⟩<;>(refine (?_:Tr _ _ _ _) o;(try simp only[Nr,Nl,Nat.reduceAdd,Nat.reduceMul,Int.reduceToNat]);(repeat' first|refine Gu ?_|(with_reducible first|refine Gn fun b h=>?_|apply Gx|apply Gy|rintro px rfl|refine fun(h:H)=>?_|intro hb)|refine Gs ?_|refine Gt ?_|exact Gz rfl|fail))
  refine Ys fun o=>?_
  exact ⟨rfl,o.sub⟩
 rw [if_neg (by simpa using h2)]
 refine Yf (by simpa using h2) ?_
 have cs:=(Dp6 c hf h2).1
 have hfr:0≤Z9 X 8 0∧Z9 X 8 0<8:=by
  rcases Dw4 (X:=X) 8 0 (by omega) (by omega) with h|h<;>omega
 obtain ⟨w1,_⟩:=Q0 cs hfr hok hin
 (repeat' first|refine Gu ?_|(with_reducible first|refine Gn fun b h=>?_|apply Gx|apply Gy|rintro px rfl|refine fun(h:H)=>?_|intro hb)|refine Gs ?_|refine Gt ?_|exact Gz rfl|fail)
 rw [e1,show ((E2 p).set 1 (int (i+1))).set 4 (int 0)=E2 (Ad4 p i) from rfl]
 generalize Ad4 p i=q at hok hin w1
 (repeat' first|refine Gu ?_|(with_reducible first|refine Gn fun b h=>?_|apply Gx|apply Gy|rintro px rfl|refine fun(h:H)=>?_|intro hb)|refine Gs ?_|refine Gt ?_|exact Gz rfl|fail)
 refine Yc (B95 b k F (S8 X p).2 ok (Z9 X 8 0) q) ?_;rintro _ h ⟨rfl,o⟩<;>(refine (?_:Tr _ _ _ _) o;(try simp only[Nr,Nl,Nat.reduceAdd,Nat.reduceMul,Int.reduceToNat]))
 rw [w1]
 dsimp only
 (repeat' first|refine Gu ?_|(with_reducible first|refine Gn fun b h=>?_|apply Gx|apply Gy|rintro px rfl|refine fun(h:H)=>?_|intro hb)|refine Gs ?_|refine Gt ?_|exact Gz rfl|fail)
 refine Yc (Bw9 true (Z9 X 8 0)) ?_;rintro _ h ⟨rfl,o⟩<;>(refine (?_:Tr _ _ _ _) o;(try simp only[Nr,Nl,Nat.reduceAdd,Nat.reduceMul,Int.reduceToNat]))
 rw [if_pos trivial]
 (repeat' first|refine Gu ?_|(with_reducible first|refine Gn fun b h=>?_|apply Gx|apply Gy|rintro px rfl|refine fun(h:H)=>?_|intro hb)|refine Gs ?_|refine Gt ?_|exact Gz rfl|fail)
 refine Ys fun o=>?_
 exact ⟨rfl,o.sub⟩
abbrev Bj7 (s:Int × ProcS):List Value:=int s.1::E2 s.2
def M6 (X:CX) (q:Int→ProcS→Bool):Nat→Int→List (Int × ProcS)
 | 0,_=>[]
 | m+1,i=>if (vS X i).2=1∧q i (vS X i).1=true then (i,(vS X i).1)::M6 X q m (i+1) else M6 X q m (i+1)
theorem D83 (X:CX) (q:Int→ProcS→Bool):∀ (m:Nat) (i:Int),(M6 X q m i).length≤m
 | 0,i=>by simp [M6]
 | m+1,i=>by
  have:=D83 X q m (i+1)
  unfold M6;split<;>simp<;>omega
theorem Ar2 (j:Int) (p:ProcS):(int j::E2 p).length=17:=by simp [A70 p,p.len]
instance {j:Int} {p:ProcS}:LenC (int j::E2 p) 17:=⟨Ar2 j p⟩
instance {j:Int} {p:ProcS}:PartC (int j::E2 p) 0 17 (int j::E2 p):=⟨Bx1 (Ar2 j p)⟩
instance {j:Int} {p:ProcS} {cs:List Value} [k:LenC cs 17]:SetsC cs 0 (int j::E2 p) (int j::E2 p):=⟨Bv7 k.ok (Ar2 j p) (by simp [Value.oneCell])⟩
theorem Hb8 (b k:Nat) (F:Fr) (X:CX) (ok:FrOk F) {nc:Nat} (c:Clean nc X) (pr:HP) (g:FuncId) (cp:List Value) (q:Int→ProcS→Bool)
  (hq:∀ (j:Int) (p:ProcS),Ct D2 g (.agg ⟨int j::E2 p⟩::cp) [pr] fun v own=>v=.bool (q j p)∧own [pr]):∀ (m:Nat) (i:Int) (acc:List (Int × ProcS)) (a:Option Addr) (ac:Nat),0≤i→i+m=8→acc.length≤i →
  CtJ H7 Ab0 Ax2 [(0,P0 b),(1,.func (.func g) ⟨[]⟩ ⟨cp⟩),(5,.slice a acc.length ac),(10,int i)] [slC false O5 17 a acc.length ac (acc.flatMap Bj7),cmC b k F X,pr] fun v own =>
   ∃ a' c',v=.slice a' (acc++M6 X q m i).length c'∧own [slC false O5 17 a' (acc++M6 X q m i).length c' ((acc++M6 X q m i).flatMap Bj7),cmC b k F X,pr]:=by
 intro m
 induction m with
 | zero =>
  intro i acc a ac h0 hi ha
  refine CtJ.of Dn8 fun h r=>Tr.eq (Du8 ..) ?_;(try simp only[Nr,Nl,Nat.reduceAdd,Nat.reduceMul,Int.reduceToNat])
  refine Yf (by simp;omega) ?_
  refine Ys fun o=>?_
  rw [show M6 X q 0 i=[] from rfl,List.append_nil]
  exact ⟨a,ac,rfl,o.sub⟩
 | succ m ih =>
  intro i acc a ac h0 hi ha
  have e1:IntKind.wrap .i64 (i+1)=i+1:=by rw [D1];omega
  refine CtJ.of Dn8 fun h r=>Tr.eq (Du8 ..) ?_;(try simp only[Nr,Nl,Nat.reduceAdd,Nat.reduceMul,Int.reduceToNat])
  refine Yt (by simp;omega) ?_
  rw [e1]
  refine Yc (Au4 b k F X ok i) ?_;rintro _ h ⟨rfl,o⟩<;>(refine (?_:Tr _ _ _ _) o;(try simp only[Nr,Nl,Nat.reduceAdd,Nat.reduceMul,Int.reduceToNat]))
  rw [Ab6 c (by omega)]
  dsimp only
  generalize hp:(vS X i).1=p
  simp only [List.append_nil,List.nil_append]
  (repeat' first|refine Gu ?_|(with_reducible first|apply Gx|apply Gy|rintro px rfl|refine fun(h:H)=>?_|intro hb)|refine Gs ?_|refine Gt ?_|exact Gz rfl|fail)
  refine Yn fun b1 h=>?_
  (repeat' first|refine Gu ?_|(with_reducible first|apply Gx|apply Gy|rintro px rfl|refine fun(h:H)=>?_|intro hb)|refine Gs ?_|refine Gt ?_|exact Gz rfl|fail)
  refine Yn fun b2 h=>?_
  (repeat' first|refine Gu ?_|(with_reducible first|refine Gn fun b h=>?_|rintro px rfl|refine fun(h:H)=>?_|intro hb)|refine Gs ?_|refine Gt ?_|exact Gz rfl|fail)
  rw [show M6 X q (m+1) i=if (vS X i).2=1∧q i (vS X i).1=true then (i,(vS X i).1)::M6 X q m (i+1) else M6 X q m (i+1) from rfl,hp]
  by_cases h1:(vS X i).2=1
  ·refine Yb (Yt (by simpa using h1) ?_)
   (repeat' first|refine Gu ?_|(with_reducible first|refine Gn fun b h=>?_|rintro px rfl|refine fun(h:H)=>?_|intro hb)|refine Gs ?_|refine Gt ?_|exact Gz rfl|fail)
   simp only [List.nil_append]
   refine Yc (hq i p) ?_;rintro _ h ⟨rfl,o⟩<;>(refine (?_:Tr _ _ _ _) o;(try simp only[Nr,Nl,Nat.reduceAdd,Nat.reduceMul,Int.reduceToNat]))
   (repeat' first|refine Gu ?_|(with_reducible first|refine Gn fun b h=>?_|rintro px rfl|refine fun(h:H)=>?_|intro hb)|refine Gs ?_|refine Gt ?_|exact Gz rfl|fail)
   refine Ys fun o=>(?_:Tr _ _ _ _) o;(try simp only[Nr,Nl,Nat.reduceAdd,Nat.reduceMul,Int.reduceToNat])
   by_cases h2:q i p=true
   ·rw [if_pos ⟨h1,h2⟩]
    refine Yt h2 ?_
    (repeat' first|refine Gu ?_|(with_reducible first|apply Gx|apply Gy|rintro px rfl|refine fun(h:H)=>?_|intro hb)|refine Gs ?_|refine Gt ?_|exact Gz rfl|fail)
    refine Yn fun b3 h=>?_
    (repeat' first|refine Gu ?_|(with_reducible first|refine Gn fun b h=>?_|apply Gx|apply Gy|rintro px rfl|refine fun(h:H)=>?_|intro hb)|refine Gs ?_|refine Gt ?_|exact Gz rfl|fail)
    refine Tr.xCellsB (xs:=int i::E2 p) (Ea8 (Bx1 (Ar2 i p))) ?_
    (repeat' first|refine Gu ?_|(with_reducible first|refine Gn fun b h=>?_|apply Gx|apply Gy|rintro px rfl|refine fun(h:H)=>?_|intro hb)|refine Gs ?_|refine Gt ?_|exact Gz rfl|fail)
    refine Tr.xApd ⟨Ar2 i p,by simp [Value.oneCell],by simp only [D3];omega⟩ fun a' c' h=>?_
    rw [show acc.flatMap Bj7++(int i::E2 p)=(acc++[(i,p)]).flatMap Bj7 by simp,show acc.length+1=(acc++[(i,p)]).length by simp]
    refine Q8 [5,4,1] 3 rfl rfl ?_
    refine Yr (ih (i+1) (acc++[(i,p)]) a' c' (by omega) (by omega) (by simp;omega)) ?_
    intro v h q
    rw [List.append_assoc] at q
    exact q
   ·rw [if_neg (fun h3=>h2 h3.2)]
    refine Yf (by simpa using h2) ?_
    refine Q8 [4,3,0] 2 rfl rfl ?_
    refine Yr (ih (i+1) acc a ac (by omega) (by omega) (by omega)) ?_
    intro v h q
    exact q
  ·rw [if_neg (fun h3=>h1 h3.1)]
   refine Yb (Yf (by simpa using h1) ?_)
   refine Ys fun o=>(?_:Tr _ _ _ _) o;(try simp only[Nr,Nl,Nat.reduceAdd,Nat.reduceMul,Int.reduceToNat])
   refine Yf rfl ?_
   refine Q8 [3,2,2] 2 rfl rfl ?_
   refine Yr (ih (i+1) acc a ac (by omega) (by omega) (by omega)) ?_
   intro v h q
   exact q
theorem Gw5 (b k:Nat) (F:Fr) (X:CX) (ok:FrOk F) {nc:Nat} (c:Clean nc X) (pr:HP) (g:FuncId) (cp:List Value) (q:Int→ProcS→Bool)
  (hq:∀ (j:Int) (p:ProcS),Ct D2 g (.agg ⟨int j::E2 p⟩::cp) [pr] fun v own=>v=.bool (q j p)∧own [pr]) :
  Ct D2 Ab0 [P0 b,.func (.func g) ⟨[]⟩ ⟨cp⟩] [cmC b k F X,pr] fun v own=>∃ a' c',v=.slice a' (M6 X q 8 0).length c'∧own [slC false O5 17 a' (M6 X q 8 0).length c' ((M6 X q 8 0).flatMap Bj7),cmC b k F X,pr]:=by
 refine Ct.of Dn8 rfl fun h r=>Tr.eq (Gu2 ..) ?_;(try simp only[Nr,Nl,Nat.reduceAdd,Nat.reduceMul,Int.reduceToNat])
 refine H8 false O5 17 (by omega) ?_
 have J:=Hb8 b k F X ok c pr g cp q hq 8 0 [] none 0 (by omega) (by omega) (by simp)
 simp only [List.nil_append,List.length_nil,List.flatMap_nil] at J
 refine Yr J ?_
 intro v h q
 exact q
theorem H41 (bi:Nat) (i:Int) (hi:0≤i∧i<8) (j:Int) (p:ProcS):Ct D2 Ba7 [.agg ⟨int j::E2 p⟩,P0 bi] [pt bi (.cells D6 false [int i])] fun v own=>v=.bool (p.parent==i+1)∧own [pt bi (.cells D6 false [int i])]:=by
 have e1:IntKind.wrap .i64 (i+1)=i+1:=by rw [D1];omega
 refine Ct.of Gp6 rfl fun h r=>Tr.eq (Gs4 ..) ?_;(try simp only[Nr,Nl,Nat.reduceAdd,Nat.reduceMul,Int.reduceToNat])
 (repeat' first|refine Gu ?_|(with_reducible first|refine Gn fun b h=>?_|apply Gx|apply Gy|rintro px rfl|refine fun(h:H)=>?_|intro hb)|refine Gs ?_|refine Gt ?_|exact Gz rfl|fail)
 refine Ys fun o=>?_
 rw [e1]
 exact ⟨rfl,o.sub⟩
theorem Gy7 (j:Int) (p:ProcS):Ct D2 An3 [.agg ⟨int j::E2 p⟩] [] fun v own=>v=.bool (p.state != 2)∧own []:=by
 refine Ct.of Ew7 rfl fun h r=>Tr.eq (Ev5 ..) ?_;(try simp only[Nr,Nl,Nat.reduceAdd,Nat.reduceMul,Int.reduceToNat])
 (repeat' first|refine Gu ?_|(with_reducible first|refine Gn fun b h=>?_|apply Gx|apply Gy|rintro px rfl|refine fun(h:H)=>?_|intro hb)|refine Gs ?_|refine Gt ?_|exact Gz rfl|fail)
 refine Ys fun o=>?_
 exact ⟨rfl,o.sub⟩
def B28 (X:CX) (n:Nat):List (Int × ProcS)→List Value × CX
 | []=>(if n=0 then Ac8 0 110 false else Ac8 0 0 true,X)
 | s::l=>if s.2.state=2 then (Ac8 (256*s.1+s.2.code) 0 false,B70 X s.1) else B28 X n l
def B90 (X:CX) (i:Int):List Value × CX :=
 if (M8 X i).2≠0 then (Ac8 0 (M8 X i).2 false,X)
 else B28 X (M6 X (fun _ p=>p.parent==i+1) 8 0).length (M6 X (fun _ p=>p.parent==i+1) 8 0)
theorem D59 {nc:Nat} {X:CX} (c:Clean nc X) (q:Int→ProcS→Bool):∀ (m:Nat) (i:Int),0≤i→i+m=8→∀ s ∈ M6 X q m i,0≤s.1∧s.1<8∧okS s.2=true
 | 0,i,_,_,s,hs=>by simp [M6] at hs
 | m+1,i,h0,hi,s,hs=>by
  rw [show M6 X q (m+1) i=if (vS X i).2=1∧q i (vS X i).1=true then (i,(vS X i).1)::M6 X q m (i+1) else M6 X q m (i+1) from rfl] at hs
  split at hs
  ·rename_i h1
   rcases List.mem_cons.1 hs with rfl|h2
   ·refine ⟨h0,by simp only;omega,?_⟩
    rcases Du9 c (i:=i) (by omega) with ⟨h3,_⟩|⟨_,h3⟩
    ·rw [h1.1] at h3;cases h3
    ·exact h3
   ·exact D59 c q m (i+1) (by omega) (by omega) s h2
  ·exact D59 c q m (i+1) (by omega) (by omega) s hs
theorem Hz6 {p:ProcS} (h:okS p=true):0≤p.code∧p.code≤255:=by
 unfold okS at h
 simp only [Bool.and_eq_true,Bool.not_eq_true',Bool.or_eq_false_iff,decide_eq_false_iff_not] at h
 have:=h.1
 omega
abbrev Ig3:List Value:=[int 0,int 0,.slice none 0 0,.bool false]
theorem Ho3 (b k:Nat) (F:Fr) (X:CX) (ok:FrOk F) {nc:Nat} (c:Clean nc X) (b4:Nat) (L:List (Int × ProcS)) (hL:∀ s ∈ L,0≤s.1∧s.1<8∧okS s.2=true) (h8:L.length≤8) (a:Option Addr) (ac:Nat):∀ (m i:Nat),i+m=L.length →
  CtJ H7 Ab8 Bk8 [(0,P0 b),(4,P0 b4),(7,.slice a L.length ac),(23,.slice a L.length ac),(24,int L.length),(25,int i)] [slC false O5 17 a L.length ac (L.flatMap Bj7),pt b4 (.cells As1 false Ig3),cmC b k F X] fun v own =>
   v=.agg ⟨(B28 X L.length (L.drop i)).1⟩∧own [cmC b k F (B28 X L.length (L.drop i)).2]:=by
 intro m
 induction m with
 | zero =>
  intro i hi
  rw [show L.drop i=[] from List.drop_eq_nil_of_le (by omega),show B28 X L.length []=(if L.length=0 then Ac8 0 110 false else Ac8 0 0 true,X) from rfl]
  refine CtJ.of D02 fun h r=>Tr.eq (D42 ..) ?_;(try simp only[Nr,Nl,Nat.reduceAdd,Nat.reduceMul,Int.reduceToNat])
  refine Yf (by simp;omega) ?_
  by_cases hz:L.length=0
  ·rw [if_pos hz]
   refine Yt (by simp [hz]) ?_
   refine Yc (Bw3 110) ?_;rintro _ h ⟨rfl,o⟩<;>(refine (?_:Tr _ _ _ _) o;(try simp only[Nr,Nl,Nat.reduceAdd,Nat.reduceMul,Int.reduceToNat]);(repeat' first|refine Gu ?_|(with_reducible first|refine Gn fun b h=>?_|apply Gx|apply Gy|rintro px rfl|refine fun(h:H)=>?_|intro hb)|refine Gs ?_|refine Gt ?_|exact Gz rfl|fail))
   refine Ys fun o=>?_
   exact ⟨rfl,o.sub⟩
  ·rw [if_neg hz]
   refine Yf (by simpa using hz) ?_
   (repeat' first|refine Gu ?_|(with_reducible first|refine Gn fun b h=>?_|apply Gx|apply Gy|rintro px rfl|refine fun(h:H)=>?_|intro hb)|refine Gs ?_|refine Gt ?_|exact Gz rfl|fail)
   refine Ys fun o=>?_
   exact ⟨rfl,o.sub⟩
 | succ m ih =>
  intro i hi
  have hil:i<L.length:=by omega
  have e1:IntKind.wrap .i64 ((i:Int)+1)=((i+1:Nat):Int):=by rw [D1];omega
  have hg:L[i]?=some L[i]:=List.getElem?_eq_getElem hil
  have hd:L.drop i=L[i]::L.drop (i+1):=List.drop_eq_getElem_cons hil
  obtain ⟨r1,r2,r3⟩:=hL _ (List.getElem_mem hil)
  rw [hd]
  generalize L[i]=s at hg r1 r2 r3
  obtain ⟨j,p⟩:=s
  simp only at r1 r2 r3
  rw [show B28 X L.length ((j,p)::L.drop (i+1))=if p.state=2 then (Ac8 (256*j+p.code) 0 false,B70 X j) else B28 X L.length (L.drop (i+1)) from rfl]
  have hpart:=A11 (f:=Bj7) (k:=17) (fun x=>Ar2 x.1 x.2) hg
  have hlen:=S6 (f:=Bj7) (k:=17) (fun x=>Ar2 x.1 x.2) L
  have hc:=Hz6 r3
  have e2:IntKind.wrap .i64 (256*j)=256*j:=by rw [D1];omega
  have e3:IntKind.wrap .i64 (256*j+p.code)=256*j+p.code:=by rw [D1];omega
  refine CtJ.of D02 fun h r=>Tr.eq (D42 ..) ?_;(try simp only[Nr,Nl,Nat.reduceAdd,Nat.reduceMul,Int.reduceToNat])
  refine Yt (by simp;omega) ?_
  rw [e1]
  refine Aa0 0 rfl fun h1 h2 h3=>?_
  (repeat' first|refine Gu ?_|(with_reducible first|apply Gx|apply Gy|rintro px rfl|refine fun(h:H)=>?_|intro hb)|refine Gs ?_|refine Gt ?_|exact Gz rfl|fail)
  rw [Int.toNat_natCast]
  refine Tr.xAggS (xs:=Bj7 (j,p)) ⟨by omega,by omega,hpart⟩ ?_
  refine Yn fun b2 h=>?_
  (repeat' first|refine Gu ?_|(with_reducible first|refine Gn fun b h=>?_|apply Gx|apply Gy|rintro px rfl|refine fun(h:H)=>?_|intro hb)|refine Gs ?_|refine Gt ?_|exact Gz rfl|fail)
  refine Yc (Gy7 j p) ?_;rintro _ h ⟨rfl,o⟩<;>(refine (?_:Tr _ _ _ _) o;(try simp only[Nr,Nl,Nat.reduceAdd,Nat.reduceMul,Int.reduceToNat]))
  (repeat' first|refine Gu ?_|(with_reducible first|refine Gn fun b h=>?_|apply Gx|apply Gy|rintro px rfl|refine fun(h:H)=>?_|intro hb)|refine Gs ?_|refine Gt ?_|exact Gz rfl|fail)
  by_cases hz:p.state=2
  ·rw [if_pos hz]
   refine Yt (by simp [hz]) ?_
   (repeat' first|refine Gu ?_|(with_reducible first|refine Gn fun b h=>?_|apply Gx|apply Gy|rintro px rfl|refine fun(h:H)=>?_|intro hb)|refine Gs ?_|refine Gt ?_|exact Gz rfl|fail)
   refine Yc (Bz3 b k F X ok j) ?_;rintro _ h ⟨rfl,o⟩<;>(refine (?_:Tr _ _ _ _) o;(try simp only[Nr,Nl,Nat.reduceAdd,Nat.reduceMul,Int.reduceToNat]))
   rw [(Aj8 c ⟨r1,r2⟩).1]
   dsimp only
   (repeat' first|refine Gu ?_|(with_reducible first|refine Gn fun b h=>?_|apply Gx|apply Gy|rintro px rfl|refine fun(h:H)=>?_|intro hb)|refine Gs ?_|refine Gt ?_|exact Gz rfl|fail)
   rw [e2,e3]
   refine Yc (Bw9 true (256*j+p.code)) ?_;rintro _ h ⟨rfl,o⟩<;>(refine (?_:Tr _ _ _ _) o;(try simp only[Nr,Nl,Nat.reduceAdd,Nat.reduceMul,Int.reduceToNat]))
   rw [if_pos trivial]
   (repeat' first|refine Gu ?_|(with_reducible first|refine Gn fun b h=>?_|apply Gx|apply Gy|rintro px rfl|refine fun(h:H)=>?_|intro hb)|refine Gs ?_|refine Gt ?_|exact Gz rfl|fail)
   refine Ys fun o=>?_
   exact ⟨rfl,o.sub⟩
  ·rw [if_neg hz]
   refine Yf (by simp [hz]) ?_
   refine Q8 [1,1,1] 1 rfl rfl ?_
   refine Yr (ih (i+1) (by omega)) ?_
   intro v h q
   exact q
theorem Et7 (b k:Nat) (F:Fr) (X:CX) (ok:FrOk F) {nc:Nat} (c:Clean nc X) (i:Int) (hi:0≤i∧i<8):Ct D2 Ab8 [P0 b,int i] [cmC b k F X] fun v own=>v=.agg ⟨(B90 X i).1⟩∧own [cmC b k F (B90 X i).2]:=by
 unfold B90
 refine Ct.of D02 rfl fun h r=>Tr.eq (Ha5 ..) ?_;(try simp only[Nr,Nl,Nat.reduceAdd,Nat.reduceMul,Int.reduceToNat])
 refine Yn fun bi h=>?_
 refine Yn fun b4 h=>?_
 (repeat' first|refine Gu ?_|(with_reducible first|refine Gn fun b h=>?_|apply Gx|apply Gy|rintro px rfl|refine fun(h:H)=>?_|intro hb)|refine Gs ?_|refine Gt ?_|exact Gz rfl|fail)
 refine Yc (Es9 b k F X ok c i hi) ?_;rintro _ h ⟨rfl,o⟩<;>(refine (?_:Tr _ _ _ _) o;(try simp only[Nr,Nl,Nat.reduceAdd,Nat.reduceMul,Int.reduceToNat]))
 (repeat' first|refine Gu ?_|(with_reducible first|apply Gx|apply Gy|rintro px rfl|refine fun(h:H)=>?_|intro hb)|refine Gs ?_|refine Gt ?_|exact Gz rfl|fail)
 refine Yn fun b2 h=>?_
 (repeat' first|refine Gu ?_|(with_reducible first|refine Gn fun b h=>?_|apply Gx|apply Gy|rintro px rfl|refine fun(h:H)=>?_|intro hb)|refine Gs ?_|refine Gt ?_|exact Gz rfl|fail)
 by_cases h0:(M8 X i).2=0
 case neg =>
  rw [if_pos h0]
  refine Yt (by simpa using h0) ?_
  refine Yc (Bw3 (M8 X i).2) ?_;rintro _ h ⟨rfl,o⟩<;>(refine (?_:Tr _ _ _ _) o;(try simp only[Nr,Nl,Nat.reduceAdd,Nat.reduceMul,Int.reduceToNat]);(repeat' first|refine Gu ?_|(with_reducible first|refine Gn fun b h=>?_|apply Gx|apply Gy|rintro px rfl|refine fun(h:H)=>?_|intro hb)|refine Gs ?_|refine Gt ?_|exact Gz rfl|fail))
  refine Ys fun o=>?_
  exact ⟨rfl,o.sub⟩
 rw [if_neg (by simpa using h0)]
 refine Yf (by simpa using h0) ?_
 refine Yc (Gw5 b k F X ok c (pt bi (.cells D6 false [int i])) Ba7 [P0 bi] (fun _ p=>p.parent==i+1) (fun j p=>H41 bi i hi j p)) ?_;rintro _ h ⟨a,ac,rfl,o⟩<;>(refine (?_:Tr _ _ _ _) o;(try simp only[Nr,Nl,Nat.reduceAdd,Nat.reduceMul,Int.reduceToNat]))
 (repeat' first|refine Gu ?_|(with_reducible first|refine Gn fun b h=>?_|apply Gx|apply Gy|rintro px rfl|refine fun(h:H)=>?_|intro hb)|refine Gs ?_|refine Gt ?_|exact Gz rfl|fail)
 refine Q8 [0,3,0] 2 rfl rfl ?_
 refine Yr (Ho3 b k F X ok c b4 _ (D59 c _ 8 0 (by omega) (by omega)) (D83 X _ 8 0) a ac _ 0 (Nat.zero_add _)) ?_
 intro v h q
 exact q
def p0:ProcS:=⟨1,0,0,0,0,0,0,0,[1,0,0,0,0,0,0,0],rfl⟩
def f0:FileS:=⟨3,0,1,0⟩
def Ay6:List UInt8:=L9 (L9 Ad5 0 (Eh6 p0)) 192 (Ai6 f0)
theorem B33:Ay6.length=492:=by kernel_rfl
theorem Ek6:(Eh6 p0).length=24:=by kernel_rfl
theorem Gm0 (l b:List UInt8) (a:Nat):(A0 l).take a++A0 b++(A0 l).drop (a+(A0 b).length)=A0 (L9 l a b):=by
 rw [U8]
 simp [L9,A0,List.map_take,List.map_drop]
theorem H44 {b:List UInt8} (h:0<b.length):A0 b≠[]:=by
 intro e
 have e2:=congrArg List.length e
 rw [U8] at e2
 have e3:b.length=0:=e2
 omega
theorem G27:Ct D2 Bc2 [] [] fun v own=>∃ a,v=.slice a 492 492∧own [slC false B0 1 a 492 492 (A0 Ay6)]:=by
 refine Ct.of Gr4 rfl fun h r=>Tr.eq (Gq6 ..) ?_;(try simp only[Nr,Nl,Nat.reduceAdd,Nat.reduceMul,Int.reduceToNat])
 refine Yc (Go1) ?_;rintro _ h ⟨rfl,o⟩<;>(refine (?_:Tr _ _ _ _) o;(try simp only[Nr,Nl,Nat.reduceAdd,Nat.reduceMul,Int.reduceToNat]))
 (repeat' first|refine Gu ?_|(with_reducible first|apply Gx|apply Gy|rintro px rfl|refine fun(h:H)=>?_|intro hb)|refine Gs ?_|refine Gt ?_|exact Gz rfl|fail)
 rw [A62,Ac1]
 refine Tr.ck (by simp [D3]) ?_
 refine Yn fun b0 h=>?_
 refine Dm8 (n:=492) 0 rfl (by rw [U8];exact Ac1) ?_
 (try simp only[Nr,Nl,Nat.reduceAdd,Nat.reduceMul,Int.reduceToNat])
 refine Yn fun b1 h=>?_
 (repeat' first|refine Gu ?_|(with_reducible first|refine Gn fun b h=>?_|apply Gx|apply Gy|rintro px rfl|refine fun(h:H)=>?_|intro hb)|refine Gs ?_|refine Gt ?_|exact Gz rfl|fail)
 rw [show ([int 1,int 0,int 0,int 0,int 0,int 0,int 0,int 0,int 0,int 0,int 0,int 0,int 0,int 0,int 0,int 0]:List Value).set 8 (int 1)=E2 p0 from rfl]
 (repeat' first|refine Gu ?_|(with_reducible first|refine Gn fun b h=>?_|apply Gx|apply Gy|rintro px rfl|refine fun(h:H)=>?_|intro hb)|refine Gs ?_|refine Gt ?_|exact Gz rfl|fail)
 refine Yc (Hp0 p0) ?_;rintro _ h ⟨rfl,o⟩<;>(refine (?_:Tr _ _ _ _) o;(try simp only[Nr,Nl,Nat.reduceAdd,Nat.reduceMul,Int.reduceToNat]))
 (repeat' first|refine Gu ?_|(with_reducible first|refine Gn fun b h=>?_|apply Gx|apply Gy|rintro px rfl|refine fun(h:H)=>?_|intro hb)|refine Gs ?_|refine Gt ?_|exact Gz rfl|fail)
 rw [show List.take (min (bs (Eh6 p0)).size 492) (bs (Eh6 p0)).data.toList=Eh6 p0 by kernel_rfl]
 rw [show D5 (M0 b0)=(D5 (M0 b0)).add 0 from rfl]
 refine Tr.xPAggS (cs':=A0 (L9 Ad5 0 (Eh6 p0))) ⟨H44 (by rw [Ek6];omega),by rw [U8,U8,Ek6,Ac1];omega,Ag6 _,Gm0 _ _ 0⟩ fun h=>?_
 (repeat' first|refine Gu ?_|(with_reducible first|refine Gn fun b h=>?_|apply Gx|apply Gy|rintro px rfl|refine fun(h:H)=>?_|intro hb)|refine Gs ?_|refine Gt ?_|exact Gz rfl|fail)
 refine Yc (Hp1 f0) ?_;rintro _ h ⟨rfl,o⟩<;>(refine (?_:Tr _ _ _ _) o;(try simp only[Nr,Nl,Nat.reduceAdd,Nat.reduceMul,Int.reduceToNat]))
 (repeat' first|refine Gu ?_|(with_reducible first|refine Gn fun b h=>?_|apply Gx|apply Gy|rintro px rfl|refine fun(h:H)=>?_|intro hb)|refine Gs ?_|refine Gt ?_|exact Gz rfl|fail)
 rw [show List.take (min (bs (Ai6 f0)).size (492-192)) (bs (Ai6 f0)).data.toList=Ai6 f0 by kernel_rfl]
 rw [Gj6 (by omega),Eh3]
 refine Tr.xPAggS (cs':=A0 Ay6) ⟨H44 (by rw [Dp8];omega),by rw [U8,U8,Ag4 (by rw [Ek6,Ac1];omega),Dp8,Ac1];omega,Ag6 _,Gm0 _ _ 192⟩ fun h=>?_
 refine Ys fun o=>?_
 exact ⟨_,rfl,o.sub⟩
theorem Hh5 {S:KS} (kS:Like S) {s:Nat} {env:Int} (e:EnvP s env) {j:Nat} {cap:Int} {lo n:Nat} (hc:H54[j]?=some cap) (hr:(rgP s)[j]?=some (lo,n)) {b:List UInt8} (hb:b.length≤n) :
  Z4 S env ⟨2,cap,0,0,0,0,b⟩=((0,0,[]),Bp6 S (L9 S.mem lo b)):=by
 have F:=G30 kS e
 have hroom:lo+n≤S.mem.length:=D77 kS e.hs env j lo n hr
 have hp:=F.pl j cap lo n hc hr 0 b.length 2 (.inr rfl) (by omega)
 have hs:Bb0 S.mem ((lo+0:Nat):Int) b=some (L9 S.mem lo b):=by
  unfold Bb0
  rw [if_pos (by omega),Int.toNat_natCast,Nat.add_zero];rfl
 have ew:Ak7 S.tabs S.regs S.mem env cap 0 b=(0,L9 S.mem lo b):=by
  unfold Ak7
  rw [show P9 S.tabs S.regs env cap 2 0 (b.length:Int)=(((lo+0:Nat):Int),0) from hp]
  rw [if_neg (by simp),hs]
 unfold Z4
 rw [if_neg (show ¬ (env<0∨env≥(S.envs.length:Int)) from F.env)]
 unfold kDo
 rw [if_neg (show ¬ ((2:Int)=1) by decide),if_pos rfl,ew]
def q1:PipeS:=⟨0,0,1,1,List.replicate 32 0,rfl⟩
def S1:KS:=Bp6 S0 (L9 S0.mem 0 Ay6)
def S2:KS:=Bp6 S1 (L9 S1.mem 512 (L1 q1))
def S3:KS:=Bp6 S2 (L9 S2.mem 1856 (L1 q1))
theorem Ay7:(L1 q1).length=40:=Bu9 q1.len
theorem E69:Like S1:=Ec0 Dv4 (by rw [Ag4 (by rw [B33,Dv4.mem];omega)];exact Dv4.mem)
theorem E82:Like S2:=Ec0 E69 (by rw [Ag4 (by rw [Ay7,E69.mem];omega)];exact E69.mem)
theorem H55:Like S3:=Ec0 E82 (by rw [Ag4 (by rw [Ay7,E82.mem];omega)];exact E82.mem)
theorem Ig6:Z4 S0 0 ⟨2,256,0,0,0,0,Ay6⟩=((0,0,[]),S1):=Hh5 Dv4 Gz2 (j:=0) rfl rfl (by rw [B33];omega)
theorem Ie9:Z4 S1 0 ⟨2,257,0,0,0,0,L1 q1⟩=((0,0,[]),S2):=Hh5 E69 Gz2 (j:=1) rfl rfl (by rw [Ay7];omega)
theorem Ig4:Z4 S2 0 ⟨2,258,0,0,0,0,L1 q1⟩=((0,0,[]),S3):=Hh5 E82 Gz2 (j:=2) rfl rfl (by rw [Ay7];omega)
abbrev F1:Fr:=frP S3 0 0
def X1:CX:=⟨By3 S3.mem (rgP 0),[]⟩
theorem A02:FrOk F1:=G30 H55 Gz2
theorem Dl8:Clean 3 X1:=by
 refine ⟨by kernel_rfl,by omega,rfl,by kernel_rfl,fun j h0 h1=>?_,fun r h1 h2 h3 h4=>?_⟩
 ·have:j=1∨j=2:=by omega
  rcases this with rfl|rfl
  ·clear h0 h1;show (_:Nat)=_;kernel_rfl
  ·clear h0 h1;show (_:Nat)=_;kernel_rfl
 ·have all:((List.range 8).all (fun i=>decide (stR 1 (rd X1 ⟨1,(i:Int)⟩)≠2)) && ((List.range 12).all (fun i=>decide (stR 2 (rd X1 ⟨2,(i:Int)⟩)≠2)) && ((List.range 6).all (fun i=>decide (stR 3 (rd X1 ⟨3,(i:Int)⟩)≠2)) && (decide (stR 4 (rd X1 ⟨4,0⟩)≠2) && decide (stR 5 (rd X1 ⟨5,0⟩)≠2)))))=true:=by kernel_rfl
  simp only [Bool.and_eq_true,List.all_eq_true,List.mem_range,decide_eq_true_eq] at all
  obtain ⟨a1,a2,a3,a4,a5⟩:=all
  obtain ⟨k,i⟩:=r
  simp only at h1 h2 h3 h4 ⊢
  obtain ⟨n,rfl⟩:∃ n:Nat,i=n:=⟨i.toNat,by omega⟩
  have hk:k=1∨k=2∨k=3∨k=4∨k=5:=by omega
  rcases hk with rfl|rfl|rfl|rfl|rfl<;>simp [Z0] at h4
  ·exact a1 n (by omega)
  ·exact a2 n (by omega)
  ·exact a3 n (by omega)
  ·obtain rfl:n=0:=by omega
   exact a4
  ·obtain rfl:n=0:=by omega
   exact a5
theorem Hk8 (k w m c:Nat) (b1:Nat) (cs:List Value) (hcs:cs.length=7) (K:RKS) (hK:RKOk K) (hB:0<K.B.envs.length) :
  CtJ H7 Af0 Bf8 [(6,P0 k),(7,P0 c),(8,P0 w),(9,P0 m),(10,P0 b1),(11,.string (bs (L1 q1))),(12,int 1)] [pt b1 (.cells Ay8 false cs),G0 k S1,rkC w K] fun v own =>
   v=.tuple ⟨[P0 k,P0 c,P0 w,P0 m]⟩∧∃ K',own [G0 k S3,rkC w K']:=by
 have hset:∀ xs:List Value,xs.length=7→∀ vs:List Value,vs.length=7→vs.all Value.oneCell=true→B00 xs 0 vs=some vs:=fun xs h vs h1 h2=>Bv7 h h1 h2
 refine CtJ.of Bz1 fun h r=>Tr.eq (B20 ..) ?_;(try simp only[Nr,Nl,Nat.reduceAdd,Nat.reduceMul,Int.reduceToNat])
 refine Yt rfl ?_
 rw [A62,Ay7]
 refine Tr.ck (by simp [D3]) ?_
 refine Yn fun b2 h=>?_
 refine Dm8 (n:=40) 0 rfl (by rw [U8];exact Ay7) ?_
 (try simp only[Nr,Nl,Nat.reduceAdd,Nat.reduceMul,Int.reduceToNat])
 rw [show IntKind.wrap .i64 (256+1)=257 by decide]
 refine Gs (fun h=>?_) (by exact hset cs hcs _ rfl rfl)
 (repeat' first|refine Gu ?_|(with_reducible first|refine Gn fun b h=>?_|apply Gx|apply Gy|rintro px rfl|refine fun(h:H)=>?_|intro hb)|refine Gs ?_|refine Gt ?_|exact Gz rfl|fail)
 have J1:=D36 k S1 0 E69.ok (by omega) 0 ⟨2,257,0,0,0,0,L1 q1⟩ (some (M0 b2)) 40 false (show ((2:Int)≠5) by decide)
 rw [Ie9] at J1
 simp only [Bl2,Ay7] at J1
 refine Bu5 J1 [2,0] rfl ?_
 rintro _ h ⟨y,z,rfl,o⟩
 refine (?_:Tr _ _ _ _) o
 (try simp only[Nr,Nl,Nat.reduceAdd,Nat.reduceMul,Int.reduceToNat])
 (repeat' first|refine Gu ?_|(with_reducible first|refine Gn fun b h=>?_|apply Gx|apply Gy|rintro px rfl|refine fun(h:H)=>?_|intro hb)|refine Gs ?_|refine Gt ?_|exact Gz rfl|fail)
 have R1:=Et4 w K hK 0 hB ⟨2,257,0,0,0,0,L1 q1⟩ rfl (by rw [Ay7];simp [D3]) (slC false B0 1 (some (M0 b2)) (L1 q1).length 40 (A0 (L1 q1))) (some (M0 b2)) 40 false
 simp only [Bl2,Ay7] at R1
 refine Bu5 R1 [4,2] rfl ?_
 rintro _ h ⟨rfl,o⟩
 rw [show ({ K with R:=(Ai4 K.R ((0:Nat):Int) 257 0 (L1 q1)).2 }:RKS)=wrR K 257 (L1 q1) from rfl] at o
 have hK1:=Gd1 hK 257 (L1 q1)
 refine (?_:Tr _ _ _ _) o
 (try simp only[Nr,Nl,Nat.reduceAdd,Nat.reduceMul,Int.reduceToNat])
 (repeat' first|refine Gu ?_|(with_reducible first|refine Gn fun b h=>?_|apply Gx|apply Gy|rintro px rfl|refine fun(h:H)=>?_|intro hb)|refine Gs ?_|refine Gt ?_|exact Gz rfl|fail)
 refine Tr.jmp Bz1 (Tr.eq (B20 ..) ?_);(try simp only[Nr,Nl,wl,Nat.reduceAdd,Nat.reduceMul,Int.reduceToNat])
 refine Yt rfl ?_
 rw [A62,Ay7]
 refine Tr.ck (by simp [D3]) ?_
 refine Yn fun b3 h=>?_
 refine Dm8 (n:=40) 0 rfl (by rw [U8];exact Ay7) ?_
 (try simp only[Nr,Nl,Nat.reduceAdd,Nat.reduceMul,Int.reduceToNat])
 rw [show IntKind.wrap .i64 (256+2)=258 by decide]
 refine Gs (fun h=>?_) (by exact hset _ rfl _ rfl rfl)
 (repeat' first|refine Gu ?_|(with_reducible first|refine Gn fun b h=>?_|apply Gx|apply Gy|rintro px rfl|refine fun(h:H)=>?_|intro hb)|refine Gs ?_|refine Gt ?_|exact Gz rfl|fail)
 have J2:=D36 k S2 0 E82.ok (by omega) 0 ⟨2,258,0,0,0,0,L1 q1⟩ (some (M0 b3)) 40 false (show ((2:Int)≠5) by decide)
 rw [Ig4] at J2
 simp only [Bl2,Ay7] at J2
 refine Bu5 J2 [4,0] rfl ?_
 rintro _ h ⟨y2,z2,rfl,o⟩
 refine (?_:Tr _ _ _ _) o
 (try simp only[Nr,Nl,Nat.reduceAdd,Nat.reduceMul,Int.reduceToNat])
 (repeat' first|refine Gu ?_|(with_reducible first|refine Gn fun b h=>?_|apply Gx|apply Gy|rintro px rfl|refine fun(h:H)=>?_|intro hb)|refine Gs ?_|refine Gt ?_|exact Gz rfl|fail)
 have R2:=Et4 w (wrR K 257 (L1 q1)) hK1 0 hB ⟨2,258,0,0,0,0,L1 q1⟩ rfl (by rw [Ay7];simp [D3]) (slC false B0 1 (some (M0 b3)) (L1 q1).length 40 (A0 (L1 q1))) (some (M0 b3)) 40 false
 simp only [Bl2,Ay7] at R2
 refine Bu5 R2 [3,2] rfl ?_
 rintro _ h ⟨rfl,o⟩
 rw [show ({ wrR K 257 (L1 q1) with R:=(Ai4 (wrR K 257 (L1 q1)).R ((0:Nat):Int) 258 0 (L1 q1)).2 }:RKS)=wrR (wrR K 257 (L1 q1)) 258 (L1 q1) from rfl] at o
 refine (?_:Tr _ _ _ _) o
 (try simp only[Nr,Nl,Nat.reduceAdd,Nat.reduceMul,Int.reduceToNat])
 (repeat' first|refine Gu ?_|(with_reducible first|refine Gn fun b h=>?_|apply Gx|apply Gy|rintro px rfl|refine fun(h:H)=>?_|intro hb)|refine Gs ?_|refine Gt ?_|exact Gz rfl|fail)
 refine Tr.jmp Bz1 (Tr.eq (B20 ..) ?_);(try simp only[Nr,Nl,wl,Nat.reduceAdd,Nat.reduceMul,Int.reduceToNat])
 refine Yf rfl ?_
 refine Ys fun o=>?_
 exact ⟨rfl,_,o.fin [3,0] 5 rfl rfl⟩
theorem H56:RKOk K0:=Gd1 D27.1 256 Ad5
theorem Hg4:0<K0.B.envs.length:=by show (0:Nat)<(Dd8 Ai0).B.envs.length;rw [D27.2,Bt8];simp
theorem He9 (a:Option Addr):Ct D2 Af0 [.slice a 492 492] [slC false B0 1 a 492 492 (A0 Ay6)] fun v own=>∃ k c w m K',v=.tuple ⟨[P0 k,P0 c,P0 w,P0 m]⟩∧own [cmC c k F1 X1,rkC w K',rcC m w 0 (B02 K0 0) []]:=by
 refine Ct.of Bz1 rfl fun h r=>Tr.eq (Gu4 ..) ?_;(try simp only[Nr,Nl,Nat.reduceAdd,Nat.reduceMul,Int.reduceToNat])
 refine Yc (H12) ?_;rintro _ h ⟨A,rfl,o⟩<;>(refine (?_:Tr _ _ _ _) o;(try simp only[Nr,Nl,Nat.reduceAdd,Nat.reduceMul,Int.reduceToNat]))
 (repeat' first|refine Gu ?_|(with_reducible first|refine Gn fun b h=>?_|apply Gx|apply Gy|rintro px rfl|refine fun(h:H)=>?_|intro hb)|refine Gs ?_|refine Gt ?_|exact Gz rfl|fail)
 refine Yc (Hx9 A) ?_
 rintro _ h ⟨k,c,w,m,rfl,o⟩
 refine (?_:Tr _ _ _ _) o
 (try simp only[Nr,Nl,Nat.reduceAdd,Nat.reduceMul,Int.reduceToNat])
 (repeat' first|refine Gu ?_|(with_reducible first|refine Gn fun b h=>?_|rintro px rfl|refine fun(h:H)=>?_|intro hb)|refine Gs ?_|refine Gt ?_|exact Gz rfl|fail)
 refine Yb (Yf rfl ?_)
 refine Ys fun o=>(?_:Tr _ _ _ _) o;(try simp only[Nr,Nl,Nat.reduceAdd,Nat.reduceMul,Int.reduceToNat])
 refine Yf rfl ?_
 refine Id0 c k F0 X0 fun f=>?_
 rw [show F0.at X0.m=S0 from Fr.at_cut H52 (D77 Dv4 (by omega) 0)]
 refine (?_:Tr (G0 k S0::W5 c k 0 H54 []::_) _ _ _)
 refine Yn fun b1 h=>?_
 (repeat' first|refine Gu ?_|(with_reducible first|refine Gn fun b h=>?_|apply Gx|apply Gy|rintro px rfl|refine fun(h:H)=>?_|intro hb)|refine Gs ?_|refine Gt ?_|exact Gz rfl|fail)
 refine Yc (Gm1 q1) ?_;rintro _ h ⟨rfl,o⟩<;>(refine (?_:Tr _ _ _ _) o;(try simp only[Nr,Nl,Nat.reduceAdd,Nat.reduceMul,Int.reduceToNat]))
 (repeat' first|refine Gu ?_|(with_reducible first|refine Gn fun b h=>?_|apply Gx|apply Gy|rintro px rfl|refine fun(h:H)=>?_|intro hb)|refine Gs ?_|refine Gt ?_|exact Gz rfl|fail)
 have J1:=D36 k S0 0 Dv4.ok (by omega) 0 ⟨2,256,0,0,0,0,Ay6⟩ a 492 false (show ((2:Int)≠5) by decide)
 rw [Ig6] at J1
 simp only [Bl2,B33] at J1
 refine Bu5 J1 [1,4] rfl ?_
 rintro _ h ⟨y,z,rfl,o⟩
 refine (?_:Tr _ _ _ _) o
 (try simp only[Nr,Nl,Nat.reduceAdd,Nat.reduceMul,Int.reduceToNat])
 (repeat' first|refine Gu ?_|(with_reducible first|refine Gn fun b h=>?_|apply Gx|apply Gy|rintro px rfl|refine fun(h:H)=>?_|intro hb)|refine Gs ?_|refine Gt ?_|exact Gz rfl|fail)
 have R1:=Et4 w K0 H56 0 Hg4 ⟨2,256,0,0,0,0,Ay6⟩ rfl (by rw [B33];simp [D3]) (slC false B0 1 a Ay6.length 492 (A0 Ay6)) a 492 false
 simp only [Bl2,B33] at R1
 refine Bu5 R1 [5,2] rfl ?_
 rintro _ h ⟨rfl,o⟩
 rw [show ({ K0 with R:=(Ai4 K0.R ((0:Nat):Int) 256 0 Ay6).2 }:RKS)=wrR K0 256 Ay6 from rfl] at o
 refine (?_:Tr _ _ _ _) o
 (try simp only[Nr,Nl,Nat.reduceAdd,Nat.reduceMul,Int.reduceToNat])
 (repeat' first|refine Gu ?_|(with_reducible first|refine Gn fun b h=>?_|apply Gx|apply Gy|rintro px rfl|refine fun(h:H)=>?_|intro hb)|refine Gs ?_|refine Gt ?_|exact Gz rfl|fail)
 refine B76 (Hk8 k w m c b1 _ rfl (wrR K0 256 Ay6) (Gd1 H56 256 Ay6) Hg4) [4,3,0] rfl ?_
 rintro _ h ⟨rfl,K',o⟩
 refine ⟨k,c,w,m,K',rfl,?_⟩
 exact Own.cmTake c k F1 [] A02 (D77 H55 (by omega) 0) (o.fin [0,3,0,2] 2 rfl rfl)
theorem Hj3 {nc:Nat} {X:CX} (c:Clean nc X) {i:Int} (hi:0≤i∧i<8):Clean nc (Au7 X i).2:=by
 unfold Au7
 by_cases h0:(M8 X i).2=0
 case neg=>rw [if_pos h0];exact c
 rw [if_neg (by simpa using h0)]
 by_cases h1:Z9 X 8 0<0
 ·rw [if_pos h1];exact c
 rw [if_neg h1]
 by_cases h2:(S8 X (M8 X i).1).1=0
 case neg=>rw [if_pos h2];exact c
 rw [if_neg (by simpa using h2)]
 obtain ⟨s1,s2,s3,s4⟩:=E33 c hi h0
 have hf:Bn4 (M8 X i).1.fds:=by rw [s1];exact D22 s3
 have hok:okS (Ad4 (M8 X i).1 i)=true:=by rw [s1];exact E44 s3 s2 hi
 have hin:InS (Ad4 (M8 X i).1 i):=by
  have:=Bl1 (rd X ⟨1,i⟩)
  rw [s1]
  exact ⟨by simp,this.b,this.c,this.d⟩
 have hfr:0≤Z9 X 8 0∧Z9 X 8 0<8:=by
  rcases Dw4 (X:=X) 8 0 (by omega) (by omega) with h|h<;>omega
 exact (Q0 (Dp6 c hf h2).1 hfr hok hin).2.1
def X2:CX:=(Au7 X1 0).2
theorem G40:Clean 3 X2:=Hj3 Dl8 (by omega)
theorem Ie6:B90 X1 0=(Ac8 0 110 false,X1):=by kernel_rfl
theorem If4:(Au7 X1 0).1=Ac8 1 0 false:=by kernel_rfl
theorem If9:B90 X2 0=(Ac8 0 0 true,X2):=by kernel_rfl
theorem If0:M8 X2 1=(Ad4 p0 0,0):=by kernel_rfl
theorem Hn6:Ct D2 Bq8 [] [] fun v own=>v=.bool true∧own []:=by
 refine Ct.of Gq7 rfl fun h r=>Tr.eq (Gs0 ..) ?_;(try simp only[Nr,Nl,Nat.reduceAdd,Nat.reduceMul,Int.reduceToNat])
 refine Yc (G27) ?_;rintro _ h ⟨a,rfl,o⟩<;>(refine (?_:Tr _ _ _ _) o;(try simp only[Nr,Nl,Nat.reduceAdd,Nat.reduceMul,Int.reduceToNat]))
 (repeat' first|refine Gu ?_|(with_reducible first|refine Gn fun b h=>?_|apply Gx|apply Gy|rintro px rfl|refine fun(h:H)=>?_|intro hb)|refine Gs ?_|refine Gt ?_|exact Gz rfl|fail)
 refine Yc (He9 a) ?_
 rintro _ h ⟨k,c,w,m,K',rfl,o⟩
 refine (?_:Tr _ _ _ _) o
 (try simp only[Nr,Nl,Nat.reduceAdd,Nat.reduceMul,Int.reduceToNat])
 (repeat' first|refine Gu ?_|(with_reducible first|refine Gn fun b h=>?_|apply Gx|apply Gy|rintro px rfl|refine fun(h:H)=>?_|intro hb)|refine Gs ?_|refine Gt ?_|exact Gz rfl|fail)
 refine Yc (Et7 c k F1 X1 A02 Dl8 0 (by omega)) ?_;rintro _ h ⟨rfl,o⟩<;>(refine (?_:Tr _ _ _ _) o;(try simp only[Nr,Nl,Nat.reduceAdd,Nat.reduceMul,Int.reduceToNat]))
 rw [Ie6]
 dsimp only
 (repeat' first|refine Gu ?_|(with_reducible first|apply Gx|apply Gy|rintro px rfl|refine fun(h:H)=>?_|intro hb)|refine Gs ?_|refine Gt ?_|exact Gz rfl|fail)
 refine Yn fun b1 h=>?_
 (repeat' first|refine Gu ?_|(with_reducible first|refine Gn fun b h=>?_|apply Gx|apply Gy|rintro px rfl|refine fun(h:H)=>?_|intro hb)|refine Gs ?_|refine Gt ?_|exact Gz rfl|fail)
 refine Yc (Er6 c k F1 X1 A02 Dl8 0 (by omega)) ?_;rintro _ h ⟨rfl,o⟩<;>(refine (?_:Tr _ _ _ _) o;(try simp only[Nr,Nl,Nat.reduceAdd,Nat.reduceMul,Int.reduceToNat]))
 rw [If4,show (Au7 X1 0).2=X2 from rfl]
 (repeat' first|refine Gu ?_|(with_reducible first|apply Gx|apply Gy|rintro px rfl|refine fun(h:H)=>?_|intro hb)|refine Gs ?_|refine Gt ?_|exact Gz rfl|fail)
 refine Yn fun b2 h=>?_
 (repeat' first|refine Gu ?_|(with_reducible first|refine Gn fun b h=>?_|apply Gx|apply Gy|rintro px rfl|refine fun(h:H)=>?_|intro hb)|refine Gs ?_|refine Gt ?_|exact Gz rfl|fail)
 refine Yc (Et7 c k F1 X2 A02 G40 0 (by omega)) ?_;rintro _ h ⟨rfl,o⟩<;>(refine (?_:Tr _ _ _ _) o;(try simp only[Nr,Nl,Nat.reduceAdd,Nat.reduceMul,Int.reduceToNat]))
 rw [If9]
 dsimp only
 (repeat' first|refine Gu ?_|(with_reducible first|apply Gx|apply Gy|rintro px rfl|refine fun(h:H)=>?_|intro hb)|refine Gs ?_|refine Gt ?_|exact Gz rfl|fail)
 refine Yn fun b3 h=>?_
 (repeat' first|refine Gu ?_|(with_reducible first|refine Gn fun b h=>?_|apply Gx|apply Gy|rintro px rfl|refine fun(h:H)=>?_|intro hb)|refine Gs ?_|refine Gt ?_|exact Gz rfl|fail)
 refine Yc (Es9 c k F1 X2 A02 G40 1 (by omega)) ?_;rintro _ h ⟨rfl,o⟩<;>(refine (?_:Tr _ _ _ _) o;(try simp only[Nr,Nl,Nat.reduceAdd,Nat.reduceMul,Int.reduceToNat]))
 rw [If0]
 dsimp only
 (repeat' first|refine Gu ?_|(with_reducible first|apply Gx|apply Gy|rintro px rfl|refine fun(h:H)=>?_|intro hb)|refine Gs ?_|refine Gt ?_|exact Gz rfl|fail)
 refine Yn fun b4 h=>?_
 (repeat' first|refine Gu ?_|(with_reducible first|refine Gn fun b h=>?_|rintro px rfl|refine fun(h:H)=>?_|intro hb)|refine Gs ?_|refine Gt ?_|exact Gz rfl|fail)
 refine Yb (Yt rfl ?_)
 (repeat' first|refine Gu ?_|(with_reducible first|refine Gn fun b h=>?_|rintro px rfl|refine fun(h:H)=>?_|intro hb)|refine Gs ?_|refine Gt ?_|exact Gz rfl|fail)
 refine Ys fun o=>(?_:Tr _ _ _ _) o;(try simp only[Nr,Nl,Nat.reduceAdd,Nat.reduceMul,Int.reduceToNat])
 refine Yb (Yt rfl ?_)
 (repeat' first|refine Gu ?_|(with_reducible first|refine Gn fun b h=>?_|rintro px rfl|refine fun(h:H)=>?_|intro hb)|refine Gs ?_|refine Gt ?_|exact Gz rfl|fail)
 refine Ys fun o=>(?_:Tr _ _ _ _) o;(try simp only[Nr,Nl,Nat.reduceAdd,Nat.reduceMul,Int.reduceToNat])
 refine Yb (Yt rfl ?_)
 (repeat' first|refine Gu ?_|(with_reducible first|refine Gn fun b h=>?_|rintro px rfl|refine fun(h:H)=>?_|intro hb)|refine Gs ?_|refine Gt ?_|exact Gz rfl|fail)
 refine Ys fun o=>(?_:Tr _ _ _ _) o;(try simp only[Nr,Nl,Nat.reduceAdd,Nat.reduceMul,Int.reduceToNat])
 refine Yb (Yt rfl ?_)
 refine Ys fun o=>(?_:Tr _ _ _ _) o;(try simp only[Nr,Nl,Nat.reduceAdd,Nat.reduceMul,Int.reduceToNat])
 refine Yb (Yt rfl ?_)
 (repeat' first|refine Gu ?_|(with_reducible first|refine Gn fun b h=>?_|rintro px rfl|refine fun(h:H)=>?_|intro hb)|refine Gs ?_|refine Gt ?_|exact Gz rfl|fail)
 refine Ys fun o=>(?_:Tr _ _ _ _) o;(try simp only[Nr,Nl,Nat.reduceAdd,Nat.reduceMul,Int.reduceToNat])
 refine Yb (Yt rfl ?_)
 (repeat' first|refine Gu ?_|(with_reducible first|refine Gn fun b h=>?_|rintro px rfl|refine fun(h:H)=>?_|intro hb)|refine Gs ?_|refine Gt ?_|exact Gz rfl|fail)
 refine Ys fun o=>(?_:Tr _ _ _ _) o;(try simp only[Nr,Nl,Nat.reduceAdd,Nat.reduceMul,Int.reduceToNat])
 refine Ys fun o=>?_
 refine ⟨rfl,?_⟩
 exact o.tail.tail.tail.tail.tail.tail.tail
structure Inv (n:Int) (X:CX):Prop where
 c:Clean 3 X
 h:1≤n∧n≤8
 on:∀ j:Int,0≤j→j<n→(vS X j).2=1∧(vS X j).1.state=1∧(vS X j).1.fds=p0.fds
 off:∀ j:Int,n≤j→j<8→(vS X j).2=0
 fl:(vF X 0).2=1∧(vF X 0).1.refs=n
abbrev H58:List Int:=[1,0,0,0,0,0,0,0,0,0,0,0]
theorem Ic7 {p:ProcS} (h:p.fds=p0.fds):Bf5 p=H58:=by unfold Bf5;rw [h];rfl
section
variable {nc:Nat} {X:CX} (c:Clean nc X)
include c
abbrev Gg2 (X:CX) (i:Int) (p:PipeS):CX:=Bv0 X ⟨3,i⟩ (L1 p)
abbrev D93 (X:CX) (i:Int):CX:=Bv0 X ⟨2,i⟩ (List.replicate 8 0)
abbrev Ge2 (X:CX) (i:Int):CX:=Bv0 X ⟨3,i⟩ (List.replicate 40 0)
theorem D26 {i:Int} (h:0≤i∧i<3+nc) {p:PipeS} (ok:okP p=true) :
  B77 X i p=(true,Gg2 X i p)∧Clean nc (Gg2 X i p)∧(∀ j:Int,0≤j∧j<8→vS (Gg2 X i p) j=vS X j)∧(∀ j:Int,0≤j∧j<12→vF (Gg2 X i p) j=vF X j)∧(∀ j:Int,0≤j∧j<3+nc→vP (Gg2 X i p) j=if j=i then (p,1) else vP X j):=by
 have hl:(L1 p).length=R0 (3:Int):=by rw [Bu9 p.len];rfl
 refine ⟨by unfold B77;rw [ok];exact Bw4 c (Bi6 h) _,Bw8 c (Bi6 h) hl (by show (V2 (L1 p)).2≠2;rw [G39 ok];simp),fun j hj=>?_,fun j hj=>?_,fun j hj=>?_⟩
 ·show W0 (rd _ _)=_
  rw [Af2 c (Bi6 h) (Bh2 hj) hl,if_neg (by simp)]
 ·show Z2 (rd _ _)=_
  rw [Af2 c (Bi6 h) (Bi9 hj) hl,if_neg (by simp)]
 ·show V2 (rd _ _)=_
  rw [Af2 c (Bi6 h) (Bi6 hj) hl]
  by_cases e:j=i
  ·rw [if_pos (by rw [e]),if_pos e];exact G39 ok
  ·rw [if_neg (by simp [e]),if_neg e]
theorem D17 {i:Int} (h:0≤i∧i<12) :
  Bl3 X ⟨2,i⟩=(true,D93 X i)∧Clean nc (D93 X i)∧(∀ j:Int,0≤j∧j<8→vS (D93 X i) j=vS X j)∧(∀ j:Int,0≤j∧j<12→vF (D93 X i) j=if j=i then (.zero,0) else vF X j)∧(∀ j:Int,0≤j∧j<3+nc→vP (D93 X i) j=vP X j):=by
 have hl:(List.replicate 8 (0:UInt8)).length=R0 (2:Int):=rfl
 refine ⟨Bw4 c (Bi9 h) _,Bw8 c (Bi9 h) hl (by show (Z2 (List.replicate 8 0)).2≠2;rw [show (Z2 (List.replicate 8 0))=(.zero,0) from rfl];simp),fun j hj=>?_,fun j hj=>?_,fun j hj=>?_⟩
 ·show W0 (rd _ _)=_
  rw [Af2 c (Bi9 h) (Bh2 hj) hl,if_neg (by simp)]
 ·show Z2 (rd _ _)=_
  rw [Af2 c (Bi9 h) (Bi9 hj) hl]
  by_cases e:j=i
  ·rw [if_pos (by rw [e]),if_pos e];rfl
  ·rw [if_neg (by simp [e]),if_neg e]
 ·show V2 (rd _ _)=_
  rw [Af2 c (Bi9 h) (Bi6 hj) hl,if_neg (by simp)]
theorem D32 {i:Int} (h:0≤i∧i<3+nc) :
  Bl3 X ⟨3,i⟩=(true,Ge2 X i)∧Clean nc (Ge2 X i)∧(∀ j:Int,0≤j∧j<8→vS (Ge2 X i) j=vS X j)∧(∀ j:Int,0≤j∧j<12→vF (Ge2 X i) j=vF X j)∧(∀ j:Int,0≤j∧j<3+nc→vP (Ge2 X i) j=if j=i then (.zero,0) else vP X j):=by
 have hl:(List.replicate 40 (0:UInt8)).length=R0 (3:Int):=rfl
 refine ⟨Bw4 c (Bi6 h) _,Bw8 c (Bi6 h) hl (by show (V2 (List.replicate 40 0)).2≠2;rw [show (V2 (List.replicate 40 0))=(.zero,0) from rfl];simp),fun j hj=>?_,fun j hj=>?_,fun j hj=>?_⟩
 ·show W0 (rd _ _)=_
  rw [Af2 c (Bi6 h) (Bh2 hj) hl,if_neg (by simp)]
 ·show Z2 (rd _ _)=_
  rw [Af2 c (Bi6 h) (Bi9 hj) hl,if_neg (by simp)]
 ·show V2 (rd _ _)=_
  rw [Af2 c (Bi6 h) (Bi6 hj) hl]
  by_cases e:j=i
  ·rw [if_pos (by rw [e]),if_pos e];rfl
  ·rw [if_neg (by simp [e]),if_neg e]
theorem H53 {i:Int} (h:0≤i∧i<3+nc):((vP X i).2=0∧(vP X i).1=.zero)∨((vP X i).2=1∧okP (vP X i).1=true):=by
 have:=c.ok ⟨3,i⟩ (by simp) (by simp) h.1 h.2
 have hk:(vP X i).2≠2:=this
 unfold vP V2 at hk ⊢
 split
 ·exact .inl ⟨rfl,rfl⟩
 ·split
  ·rename_i h2
   unfold isP at h2
   simp only [Bool.and_eq_true] at h2
   exact .inr ⟨rfl,h2.1⟩
  ·rename_i h1 h2;simp [h1,h2] at hk
end
abbrev Hn7 (q:PipeS):PipeS:=⟨q.head,q.count,max (q.readers-1) 0,q.writers,q.data,q.len⟩
abbrev Hn0 (q:PipeS):PipeS:=⟨q.head,q.count,q.readers,max (q.writers-1) 0,q.data,q.len⟩
def E49 (kind:Int) (q:PipeS):PipeS:=if kind=1 then Hn7 q else Hn0 q
theorem Hf4 {q:PipeS} (h:okP q=true) (kind:Int):okP (E49 kind q)=true:=by
 unfold E49
 split<;>(simp only [okP,Bool.and_eq_true,decide_eq_true_eq] at h ⊢;omega)
def Ek9 (X:CX) (i:Int) (q:PipeS):CX:=if q.readers+q.writers=0∧i<4 then Ge2 X i else Gg2 X i q
def Bb2 (nc:Nat) (X:CX) (f:Int):Int × CX :=
 if (vF X f).2≠1 then (105,X)
 else if (vF X f).1.refs-1>0 then (0,B87 X f (Bh6 (vF X f).1 (-1)))
 else if (vF X f).1.kind=3 then (0,D93 X f)
 else if ¬ ((vF X f).1.pipe<3+nc∧(vP X (vF X f).1.pipe).2=1) then (105,D93 X f)
 else (0,Ek9 (D93 X f) (vF X f).1.pipe (E49 (vF X f).1.kind (vP X (vF X f).1.pipe).1))
theorem Hs2 {nc:Nat} {X:CX} (c:Clean nc X) {i:Int} (h:¬ i<3+nc):Dj1 X i=((.zero,2),X):=by
 have hp:H5 X.m.length ⟨3,i⟩=none:=by
  unfold H5
  rw [c.len,if_pos (by simp [Z0];omega)]
 unfold Dj1 V1 rdX
 rw [hp]
theorem G53 {f:FileS} (h:okF f=true):0≤f.pipe:=by
 simp only [okF,Bool.and_eq_true,Bool.or_eq_true,decide_eq_true_eq,beq_iff_eq,bne_iff_ne] at h
 omega
theorem Gu6 {nc:Nat} {X:CX} (c:Clean nc X) {i:Int} (h:0≤i∧i<3+nc) {q:PipeS} (ok:okP q=true):Clean nc (Ek9 X i q):=by
 unfold Ek9
 split
 ·exact (D32 c h).2.1
 ·exact (D26 c h ok).2.1
theorem Ez1 (b k:Nat) (F:Fr) (ok:FrOk F) {nc:Nat} {X:CX} (c:Clean nc X) (b1 b2:Nat) (g:FileS) (q:PipeS) (hi:0≤g.pipe∧g.pipe<3+nc) (hq:okP q=true) :
  CtJ H7 W2 Av4 [(0,P0 b),(5,P0 b1),(7,P0 b2)] [pt b1 (.cells J0 false (Br5 g)),pt b2 (.cells I9 false (N7 q)),cmC b k F X] fun v own=>v=int 0∧own [cmC b k F (Ek9 X g.pipe q)]:=by
 have hr:0≤q.readers∧q.readers≤8∧0≤q.writers∧q.writers≤8:=by
  simp only [okP,Bool.and_eq_true,decide_eq_true_eq] at hq;omega
 have e1:IntKind.wrap .i64 (q.readers+q.writers)=q.readers+q.writers:=by rw [D1];omega
 obtain ⟨f1,_⟩:=D32 c hi
 obtain ⟨w1,_⟩:=D26 c hi hq
 unfold Ek9
 refine CtJ.of Dq8 fun h r=>Tr.eq (Eg1 ..) ?_;(try simp only[Nr,Nl,Nat.reduceAdd,Nat.reduceMul,Int.reduceToNat])
 (repeat' first|refine Gu ?_|(with_reducible first|refine Gn fun b h=>?_|rintro px rfl|refine fun(h:H)=>?_|intro hb)|refine Gs ?_|refine Gt ?_|exact Gz rfl|fail)
 rw [e1]
 refine Tr.andG (c:=decide (g.pipe<4)) (fun hb=>?_) ?_
 ·(repeat' first|refine Gu ?_|(with_reducible first|refine Gn fun b h=>?_|apply Gx|apply Gy|rintro px rfl|refine fun(h:H)=>?_|intro hb)|refine Gs ?_|refine Gt ?_|exact Gz rfl|fail)
 by_cases h:q.readers+q.writers=0∧g.pipe<4
 ·rw [if_pos h]
  refine Yt (by simp [h.1,h.2]) ?_
  (repeat' first|refine Gu ?_|(with_reducible first|refine Gn fun b h=>?_|apply Gx|apply Gy|rintro px rfl|refine fun(h:H)=>?_|intro hb)|refine Gs ?_|refine Gt ?_|exact Gz rfl|fail)
  refine Yc (Gt6 b k F X ok g.pipe) ?_;rintro _ h ⟨rfl,o⟩<;>(refine (?_:Tr _ _ _ _) o;(try simp only[Nr,Nl,Nat.reduceAdd,Nat.reduceMul,Int.reduceToNat]))
  rw [f1]
  dsimp only
  (repeat' first|refine Gu ?_|(with_reducible first|refine Gn fun b h=>?_|apply Gx|apply Gy|rintro px rfl|refine fun(h:H)=>?_|intro hb)|refine Gs ?_|refine Gt ?_|exact Gz rfl|fail)
  refine Yc (Bw9 true 0) ?_;rintro _ h ⟨rfl,o⟩<;>(refine (?_:Tr _ _ _ _) o;(try simp only[Nr,Nl,Nat.reduceAdd,Nat.reduceMul,Int.reduceToNat]))
  rw [if_pos trivial]
  (repeat' first|refine Gu ?_|(with_reducible first|refine Gn fun b h=>?_|apply Gx|apply Gy|rintro px rfl|refine fun(h:H)=>?_|intro hb)|refine Gs ?_|refine Gt ?_|exact Gz rfl|fail)
  refine Ys fun o=>?_
  exact ⟨rfl,o.sub⟩
 ·rw [if_neg h]
  refine Yf (by simp;omega) ?_
  (repeat' first|refine Gu ?_|(with_reducible first|refine Gn fun b h=>?_|apply Gx|apply Gy|rintro px rfl|refine fun(h:H)=>?_|intro hb)|refine Gs ?_|refine Gt ?_|exact Gz rfl|fail)
  refine Yc (G98 b k F X ok g.pipe q) ?_;rintro _ h ⟨rfl,o⟩<;>(refine (?_:Tr _ _ _ _) o;(try simp only[Nr,Nl,Nat.reduceAdd,Nat.reduceMul,Int.reduceToNat]))
  rw [w1]
  dsimp only
  (repeat' first|refine Gu ?_|(with_reducible first|refine Gn fun b h=>?_|apply Gx|apply Gy|rintro px rfl|refine fun(h:H)=>?_|intro hb)|refine Gs ?_|refine Gt ?_|exact Gz rfl|fail)
  refine Yc (Bw9 true 0) ?_;rintro _ h ⟨rfl,o⟩<;>(refine (?_:Tr _ _ _ _) o;(try simp only[Nr,Nl,Nat.reduceAdd,Nat.reduceMul,Int.reduceToNat]))
  rw [if_pos trivial]
  (repeat' first|refine Gu ?_|(with_reducible first|refine Gn fun b h=>?_|apply Gx|apply Gy|rintro px rfl|refine fun(h:H)=>?_|intro hb)|refine Gs ?_|refine Gt ?_|exact Gz rfl|fail)
  refine Ys fun o=>?_
  exact ⟨rfl,o.sub⟩
theorem G60 (b k:Nat) (F:Fr) (X:CX) (ok:FrOk F) {nc:Nat} (c:Clean nc X) (f:Int) (hf:0≤f∧f<12):Ct D2 W2 [P0 b,int f] [cmC b k F X] fun v own=>v=int (Bb2 nc X f).1∧own [cmC b k F (Bb2 nc X f).2]:=by
 have hrf:=Gj2 c hf
 have e1:IntKind.wrap .i64 ((vF X f).1.refs-1)=(vF X f).1.refs+-1:=by rw [D1];omega
 obtain ⟨z1,z2,z3,z4,z5⟩:=D17 c hf
 unfold Bb2
 refine Ct.of Dq8 rfl fun h r=>Tr.eq (E20 ..) ?_;(try simp only[Nr,Nl,Nat.reduceAdd,Nat.reduceMul,Int.reduceToNat])
 refine Yc (Gf2 b k F X ok) ?_;rintro _ h ⟨rfl,o⟩<;>(refine (?_:Tr _ _ _ _) o;(try simp only[Nr,Nl,Nat.reduceAdd,Nat.reduceMul,Int.reduceToNat]))
 rw [D76 c]
 (repeat' first|refine Gu ?_|(with_reducible first|refine Gn fun b h=>?_|apply Gx|apply Gy|rintro px rfl|refine fun(h:H)=>?_|intro hb)|refine Gs ?_|refine Gt ?_|exact Gz rfl|fail)
 refine Yc (Ea5 b k F X ok f) ?_;rintro _ h ⟨rfl,o⟩<;>(refine (?_:Tr _ _ _ _) o;(try simp only[Nr,Nl,Nat.reduceAdd,Nat.reduceMul,Int.reduceToNat]))
 rw [B91 c hf]
 dsimp only
 (repeat' first|refine Gu ?_|(with_reducible first|apply Gx|apply Gy|rintro px rfl|refine fun(h:H)=>?_|intro hb)|refine Gs ?_|refine Gt ?_|exact Gz rfl|fail)
 refine Yn fun b1 h=>?_
 (repeat' first|refine Gu ?_|(with_reducible first|refine Gn fun b h=>?_|apply Gx|apply Gy|rintro px rfl|refine fun(h:H)=>?_|intro hb)|refine Gs ?_|refine Gt ?_|exact Gz rfl|fail)
 by_cases h1:(vF X f).2=1
 case neg =>
  rw [if_pos h1]
  refine Yt (by simpa using h1) ?_
  refine Ys fun o=>?_
  exact ⟨rfl,o.sub⟩
 rw [if_neg (by simpa using h1)]
 refine Yf (by simpa using h1) ?_
 have hk:okF (vF X f).1=true:=by
  rcases Gs9 c hf with ⟨h2,_⟩|⟨_,h2⟩
  ·rw [h1] at h2;cases h2
  ·exact h2
 have hr:=Eu6 hk
 have hpp:=G53 hk
 generalize hg:(vF X f).1=g at hrf e1 hk hr hpp
 (repeat' first|refine Gu ?_|(with_reducible first|refine Gn fun b h=>?_|apply Gx|apply Gy|rintro px rfl|refine fun(h:H)=>?_|intro hb)|refine Gs ?_|refine Gt ?_|exact Gz rfl|fail)
 simp only [e1,List.set_cons_succ,List.set_cons_zero]
 (repeat' first|refine Gu ?_|(with_reducible first|refine Gn fun b h=>?_|apply Gx|apply Gy|rintro px rfl|refine fun(h:H)=>?_|intro hb)|refine Gs ?_|refine Gt ?_|exact Gz rfl|fail)
 by_cases h2:g.refs-1>0
 ·rw [if_pos h2]
  refine Yt (by simp;omega) ?_
  have hk2:=E62 hk (n:=-1) (by omega)
  obtain ⟨w1,_⟩:=As6 c hf hk2
  (repeat' first|refine Gu ?_|(with_reducible first|refine Gn fun b h=>?_|apply Gx|apply Gy|rintro px rfl|refine fun(h:H)=>?_|intro hb)|refine Gs ?_|refine Gt ?_|exact Gz rfl|fail)
  simp only [List.drop_zero,List.take]
  refine Yc (Ez7 b k F X ok f (Bh6 g (-1))) ?_;rintro _ h ⟨rfl,o⟩<;>(refine (?_:Tr _ _ _ _) o;(try simp only[Nr,Nl,Nat.reduceAdd,Nat.reduceMul,Int.reduceToNat]))
  rw [w1]
  dsimp only
  (repeat' first|refine Gu ?_|(with_reducible first|refine Gn fun b h=>?_|apply Gx|apply Gy|rintro px rfl|refine fun(h:H)=>?_|intro hb)|refine Gs ?_|refine Gt ?_|exact Gz rfl|fail)
  refine Yc (Bw9 true 0) ?_;rintro _ h ⟨rfl,o⟩<;>(refine (?_:Tr _ _ _ _) o;(try simp only[Nr,Nl,Nat.reduceAdd,Nat.reduceMul,Int.reduceToNat]))
  rw [if_pos trivial]
  (repeat' first|refine Gu ?_|(with_reducible first|refine Gn fun b h=>?_|apply Gx|apply Gy|rintro px rfl|refine fun(h:H)=>?_|intro hb)|refine Gs ?_|refine Gt ?_|exact Gz rfl|fail)
  refine Ys fun o=>?_
  exact ⟨rfl,o.sub⟩
 rw [if_neg h2]
 refine Yf (by simp;omega) ?_
 refine Yc (Gx0 b k F X ok f) ?_;rintro _ h ⟨rfl,o⟩<;>(refine (?_:Tr _ _ _ _) o;(try simp only[Nr,Nl,Nat.reduceAdd,Nat.reduceMul,Int.reduceToNat]))
 rw [z1]
 dsimp only
 (repeat' first|refine Gu ?_|(with_reducible first|refine Gn fun b h=>?_|apply Gx|apply Gy|rintro px rfl|refine fun(h:H)=>?_|intro hb)|refine Gs ?_|refine Gt ?_|exact Gz rfl|fail)
 by_cases h3:g.kind=3
 ·rw [if_pos h3]
  refine Yt (by simpa using h3) ?_
  refine Ys fun o=>?_
  exact ⟨rfl,o.sub⟩
 rw [if_neg h3]
 refine Yf (by simpa using h3) ?_
 (repeat' first|refine Gu ?_|(with_reducible first|refine Gn fun b h=>?_|apply Gx|apply Gy|rintro px rfl|refine fun(h:H)=>?_|intro hb)|refine Gs ?_|refine Gt ?_|exact Gz rfl|fail)
 refine Yc (Gt8 b k F (D93 X f) ok g.pipe) ?_;rintro _ h ⟨rfl,o⟩<;>(refine (?_:Tr _ _ _ _) o;(try simp only[Nr,Nl,Nat.reduceAdd,Nat.reduceMul,Int.reduceToNat]))
 by_cases h4:g.pipe<3+(nc:Int)
 case neg =>
  rw [if_pos (fun h=>h4 h.1),Hs2 z2 h4]
  dsimp only
  (repeat' first|refine Gu ?_|(with_reducible first|apply Gx|apply Gy|rintro px rfl|refine fun(h:H)=>?_|intro hb)|refine Gs ?_|refine Gt ?_|exact Gz rfl|fail)
  refine Yn fun b2 h=>?_
  (repeat' first|refine Gu ?_|(with_reducible first|refine Gn fun b h=>?_|apply Gx|apply Gy|rintro px rfl|refine fun(h:H)=>?_|intro hb)|refine Gs ?_|refine Gt ?_|exact Gz rfl|fail)
  refine Ys fun o=>?_
  exact ⟨rfl,o.sub⟩
 rw [Ey8 z2 ⟨hpp,h4⟩,z5 _ ⟨hpp,h4⟩]
 dsimp only
 (repeat' first|refine Gu ?_|(with_reducible first|apply Gx|apply Gy|rintro px rfl|refine fun(h:H)=>?_|intro hb)|refine Gs ?_|refine Gt ?_|exact Gz rfl|fail)
 refine Yn fun b2 h=>?_
 (repeat' first|refine Gu ?_|(with_reducible first|refine Gn fun b h=>?_|apply Gx|apply Gy|rintro px rfl|refine fun(h:H)=>?_|intro hb)|refine Gs ?_|refine Gt ?_|exact Gz rfl|fail)
 by_cases h5:(vP X g.pipe).2=1
 case neg =>
  rw [if_pos (fun h=>h5 h.2)]
  refine Yt (by simpa using h5) ?_
  refine Ys fun o=>?_
  exact ⟨rfl,o.sub⟩
 rw [if_neg (fun h=>h ⟨h4,h5⟩)]
 refine Yf (by simpa using h5) ?_
 have hq:okP (vP X g.pipe).1=true:=by
  rcases H53 c ⟨hpp,h4⟩ with ⟨h6,_⟩|⟨_,h6⟩
  ·rw [h5] at h6;cases h6
  ·exact h6
 have hq2:=Hf4 hq g.kind
 generalize (vP X g.pipe).1=q at hq hq2
 have hqr:0≤q.readers∧q.readers≤8∧0≤q.writers∧q.writers≤8:=by
  simp only [okP,Bool.and_eq_true,decide_eq_true_eq] at hq;omega
 have e2:IntKind.wrap .i64 (q.readers-1)=q.readers-1:=by rw [D1];omega
 have e3:IntKind.wrap .i64 (q.writers-1)=q.writers-1:=by rw [D1];omega
 (repeat' first|refine Gu ?_|(with_reducible first|refine Gn fun b h=>?_|apply Gx|apply Gy|rintro px rfl|refine fun(h:H)=>?_|intro hb)|refine Gs ?_|refine Gt ?_|exact Gz rfl|fail)
 by_cases h6:g.kind=1
 ·refine Yt (by simpa using h6) ?_
  have ee:E49 g.kind q=Hn7 q:=by unfold E49;rw [if_pos h6]
  rw [ee] at hq2 ⊢
  (repeat' first|refine Gu ?_|(with_reducible first|refine Gn fun b h=>?_|apply Gx|apply Gy|rintro px rfl|refine fun(h:H)=>?_|intro hb)|refine Gs ?_|refine Gt ?_|exact Gz rfl|fail)
  rw [e2,Y8,show (N7 q).set 2 (int (max (q.readers-1) 0))=N7 (Hn7 q) from rfl]
  refine B76 (Ez1 b k F ok z2 b1 b2 (Bh6 g (-1)) (Hn7 q) ⟨hpp,h4⟩ hq2) [2,0,0] rfl ?_
  intro v h q
  exact q
 ·refine Yf (by simpa using h6) ?_
  have ee:E49 g.kind q=Hn0 q:=by unfold E49;rw [if_neg h6]
  rw [ee] at hq2 ⊢
  (repeat' first|refine Gu ?_|(with_reducible first|refine Gn fun b h=>?_|apply Gx|apply Gy|rintro px rfl|refine fun(h:H)=>?_|intro hb)|refine Gs ?_|refine Gt ?_|exact Gz rfl|fail)
  rw [e3,Y8,show (N7 q).set 3 (int (max (q.writers-1) 0))=N7 (Hn0 q) from rfl]
  refine B76 (Ez1 b k F ok z2 b1 b2 (Bh6 g (-1)) (Hn0 q) ⟨hpp,h4⟩ hq2) [2,0,0] rfl ?_
  intro v h q
  exact q
theorem Ek2 {nc:Nat} {X:CX} (c:Clean nc X) {f:Int} (hf:0≤f∧f<12):Clean nc (Bb2 nc X f).2:=by
 have z2:=(D17 c hf).2.1
 unfold Bb2
 by_cases h1:(vF X f).2=1
 case neg=>rw [if_pos h1];exact c
 rw [if_neg (by simpa using h1)]
 have hk:okF (vF X f).1=true:=by
  rcases Gs9 c hf with ⟨h2,_⟩|⟨_,h2⟩
  ·rw [h1] at h2;cases h2
  ·exact h2
 have hr:=Eu6 hk
 by_cases h2:(vF X f).1.refs-1>0
 ·rw [if_pos h2]
  exact (As6 c hf (E62 hk (n:=-1) (by omega))).2.1
 rw [if_neg h2]
 by_cases h3:(vF X f).1.kind=3
 ·rw [if_pos h3];exact z2
 rw [if_neg h3]
 by_cases h4:(vF X f).1.pipe<3+nc∧(vP X (vF X f).1.pipe).2=1
 case neg=>rw [if_pos h4];exact z2
 rw [if_neg (fun h=>h h4)]
 have hi:0≤(vF X f).1.pipe∧(vF X f).1.pipe<3+nc:=⟨G53 hk,h4.1⟩
 have hq:okP (vP X (vF X f).1.pipe).1=true:=by
  rcases H53 c hi with ⟨h6,_⟩|⟨_,h6⟩
  ·rw [h4.2] at h6;cases h6
  ·exact h6
 exact Gu6 z2 hi (Hf4 hq _)
def Bp2 (nc:Nat):List Int→CX→CX
 | [],X=>X
 | f::l,X=>Bp2 nc l (if f>0 then (Bb2 nc X (f-1)).2 else X)
theorem Dm2 {nc:Nat}:∀ (l:List Int) (X:CX),Bn4 l→Clean nc X→Clean nc (Bp2 nc l X)
 | [],X,_,c=>c
 | f::l,X,hf,c=>by
  have h1:=hf f (by simp)
  have hl:Bn4 l:=fun x hx=>hf x (by simp [hx])
  rw [show Bp2 nc (f::l) X=Bp2 nc l (if f>0 then (Bb2 nc X (f-1)).2 else X) from rfl]
  split
  ·exact Dm2 l _ hl (Ek2 c (by omega))
  ·exact Dm2 l _ hl c
abbrev A34 (p:ProcS):ProcS:=⟨p.state,p.parent,p.group,p.code,p.pending,p.mask,p.ignored,p.caught,Bs1,rfl⟩
theorem Gg8 {p:ProcS} (h:okS p=true):okS (A34 p)=true:=by
 unfold okS at h ⊢
 simp only [Bool.and_eq_true] at h ⊢
 refine ⟨h.1,h.2.1,by decide,?_⟩
 have:=h.2.2.2
 by_cases h2:p.state=2
 ·rw [if_pos h2] at this
  rw [if_pos (show (A34 p).state=2 from h2)]
  simp only [Bool.and_eq_true] at this ⊢
  exact ⟨this.1,by simp⟩
 ·rw [if_neg h2] at this
  rw [if_neg (show ¬ (A34 p).state=2 from h2)]
  exact this
def N4 (nc:Nat) (X:CX) (i:Int):CX:=if (vS X i).2=1 then Bg2 (Bp2 nc (vS X i).1.fds X) i (A34 (vS X i).1) else X
theorem Gi7 (b k:Nat) (F:Fr) (ok:FrOk F) {nc:Nat} (i:Int) (hi:0≤i∧i<8) (b1:Nat) (p:ProcS) (hp:okS p=true) (hin:InS p) (fds:List Int) (hl:fds.length=8) (hf:Bn4 fds):∀ (m n:Nat) (X:CX),n+m=8→Clean nc X →
  CtJ H7 U9 Ak6 [(0,P0 b),(1,int i),(4,P0 b1),(19,.agg ⟨fds.map int⟩),(20,int n)] [pt b1 (.cells E1 false (E2 p)),cmC b k F X] fun v own=>v=.tuple ⟨[]⟩∧own [cmC b k F (Bg2 (Bp2 nc (fds.drop n) X) i (A34 p))]:=by
 intro m
 induction m with
 | zero =>
  intro n X hn c
  have:n=8:=by omega
  subst this
  rw [show fds.drop 8=[] from List.drop_eq_nil_of_le (by omega),show Bp2 nc [] X=X from rfl]
  obtain ⟨w1,_⟩:=Q0 c hi (Gg8 hp) ⟨hin.a,hin.b,hin.c,hin.d⟩
  refine CtJ.of By6 fun h r=>Tr.eq (Db8 ..) ?_;(try simp only[Nr,Nl,Nat.reduceAdd,Nat.reduceMul,Int.reduceToNat])
  refine Yf (by simp) ?_
  refine Gs (fun h=>?_) (by exact (show B00 (E2 p) 8 (Bs1.map int)=some (E2 (A34 p)) from by
   have hlen:(E2 p).length=16:=A70 p
   have e:Nat.ble (8+(Bs1.map int).length) (E2 p).length=true:=by rw [hlen];rfl
   rw [B00,e]
   have h9:(E2 p).drop (8+(Bs1.map int).length)=[]:=List.drop_eq_nil_of_le (by rw [hlen];decide)
   rw [h9];rfl))
  generalize A34 p=q at w1
  (repeat' first|refine Gu ?_|(with_reducible first|refine Gn fun b h=>?_|apply Gx|apply Gy|rintro px rfl|refine fun(h:H)=>?_|intro hb)|refine Gs ?_|refine Gt ?_|exact Gz rfl|fail)
  refine Yc (B95 b k F X ok i q) ?_;rintro _ h ⟨rfl,o⟩<;>(refine (?_:Tr _ _ _ _) o;(try simp only[Nr,Nl,Nat.reduceAdd,Nat.reduceMul,Int.reduceToNat]))
  rw [w1]
  (repeat' first|refine Gu ?_|(with_reducible first|refine Gn fun b h=>?_|apply Gx|apply Gy|rintro px rfl|refine fun(h:H)=>?_|intro hb)|refine Gs ?_|refine Gt ?_|exact Gz rfl|fail)
  refine Ys fun o=>?_
  exact ⟨rfl,o.sub⟩
 | succ m ih =>
  intro n X hn c
  have e1:IntKind.wrap .i64 ((n:Int)+1)=((n+1:Nat):Int):=by rw [D1];omega
  have hil:n<fds.length:=by omega
  have hg:=Gf4 hil
  have hd:fds.drop n=fds.getD n 0::fds.drop (n+1):=by
   rw [List.drop_eq_getElem_cons hil,List.getD_eq_getElem?_getD,List.getElem?_eq_getElem hil];rfl
  have hr:0≤fds.getD n 0∧fds.getD n 0≤12:=hf _ (by
   rw [List.getD_eq_getElem?_getD,List.getElem?_eq_getElem hil];exact List.getElem_mem _)
  rw [hd]
  generalize fds.getD n 0=f at hg hr
  rw [show Bp2 nc (f::fds.drop (n+1)) X=Bp2 nc (fds.drop (n+1)) (if f>0 then (Bb2 nc X (f-1)).2 else X) from rfl]
  refine CtJ.of By6 fun h r=>Tr.eq (Db8 ..) ?_;(try simp only[Nr,Nl,Nat.reduceAdd,Nat.reduceMul,Int.reduceToNat])
  refine Yt (by simp;omega) ?_
  rw [e1]
  refine Tr.ck (by omega) ?_
  rw [Int.toNat_natCast]
  (repeat' first|refine Gu ?_|(with_reducible first|refine Gn fun b h=>?_|apply Gx|apply Gy|rintro px rfl|refine fun(h:H)=>?_|intro hb)|refine Gs ?_|refine Gt ?_|exact Gz rfl|fail)
  by_cases hz:f>0
  ·rw [if_pos hz]
   refine Yt (by simpa using hz) ?_
   rw [show IntKind.wrap .i64 (f-1)=f-1 by rw [D1];omega]
   refine Yc (G60 b k F X ok c (f-1) (by omega)) ?_;rintro _ h ⟨rfl,o⟩<;>(refine (?_:Tr _ _ _ _) o;(try simp only[Nr,Nl,Nat.reduceAdd,Nat.reduceMul,Int.reduceToNat]))
   (repeat' first|refine Gu ?_|(with_reducible first|refine Gn fun b h=>?_|apply Gx|apply Gy|rintro px rfl|refine fun(h:H)=>?_|intro hb)|refine Gs ?_|refine Gt ?_|exact Gz rfl|fail)
   refine Yr (ih (n+1) (Bb2 nc X (f-1)).2 (by omega) (Ek2 c (show 0≤f-1∧f-1<12 by omega))) ?_
   intro v h q
   exact q
  ·rw [if_neg hz]
   refine Yf (by simpa using hz) ?_
   refine Yr (ih (n+1) X (by omega) c) ?_
   intro v h q
   exact q
theorem G90 (b k:Nat) (F:Fr) (X:CX) (ok:FrOk F) {nc:Nat} (c:Clean nc X) (i:Int) (hi:0≤i∧i<8):Ct D2 U9 [P0 b,int i] [cmC b k F X] fun v own=>v=.tuple ⟨[]⟩∧own [cmC b k F (N4 nc X i)]:=by
 unfold N4
 refine Ct.of By6 rfl fun h r=>Tr.eq (Gd5 ..) ?_;(try simp only[Nr,Nl,Nat.reduceAdd,Nat.reduceMul,Int.reduceToNat])
 refine Yc (Gf2 b k F X ok) ?_;rintro _ h ⟨rfl,o⟩<;>(refine (?_:Tr _ _ _ _) o;(try simp only[Nr,Nl,Nat.reduceAdd,Nat.reduceMul,Int.reduceToNat]))
 rw [D76 c]
 (repeat' first|refine Gu ?_|(with_reducible first|refine Gn fun b h=>?_|apply Gx|apply Gy|rintro px rfl|refine fun(h:H)=>?_|intro hb)|refine Gs ?_|refine Gt ?_|exact Gz rfl|fail)
 refine Yc (Au4 b k F X ok i) ?_;rintro _ h ⟨rfl,o⟩<;>(refine (?_:Tr _ _ _ _) o;(try simp only[Nr,Nl,Nat.reduceAdd,Nat.reduceMul,Int.reduceToNat]))
 rw [Ab6 c hi]
 dsimp only
 (repeat' first|refine Gu ?_|(with_reducible first|apply Gx|apply Gy|rintro px rfl|refine fun(h:H)=>?_|intro hb)|refine Gs ?_|refine Gt ?_|exact Gz rfl|fail)
 refine Yn fun b1 h=>?_
 (repeat' first|refine Gu ?_|(with_reducible first|refine Gn fun b h=>?_|apply Gx|apply Gy|rintro px rfl|refine fun(h:H)=>?_|intro hb)|refine Gs ?_|refine Gt ?_|exact Gz rfl|fail)
 by_cases h1:(vS X i).2=1
 case neg =>
  rw [if_neg h1]
  refine Yt (by simpa using h1) ?_
  refine Ys fun o=>?_
  exact ⟨rfl,o.sub⟩
 rw [if_pos h1]
 refine Yf (by simpa using h1) ?_
 have hk:okS (vS X i).1=true:=by
  rcases Du9 c hi with ⟨h2,_⟩|⟨_,h2⟩
  ·rw [h1] at h2;cases h2
  ·exact h2
 have hin:=Bl1 (rd X ⟨1,i⟩)
 (repeat' first|refine Gu ?_|(with_reducible first|refine Gn fun b h=>?_|apply Gx|apply Gy|rintro px rfl|refine fun(h:H)=>?_|intro hb)|refine Gs ?_|refine Gt ?_|exact Gz rfl|fail)
 refine B76 (Gi7 b k F ok i hi b1 _ hk hin _ (vS X i).1.len (D22 hk) 8 0 X rfl c) [0,0] rfl ?_
 intro v h q
 exact q
abbrev Da0 (p:ProcS):ProcS:=⟨p.state,0,p.group,p.code,p.pending,p.mask,p.ignored,p.caught,p.fds,p.len⟩
theorem Gf0 {p:ProcS} (h:okS p=true):okS (Da0 p)=true:=by
 unfold okS at h ⊢
 simp only [Bool.and_eq_true,Bool.not_eq_true',Bool.or_eq_false_iff,decide_eq_false_iff_not] at h ⊢
 obtain ⟨⟨⟨⟨⟨⟨⟨⟨a1,a2⟩,a3⟩,a4⟩,a5⟩,a6⟩,a7⟩,a8⟩,b1,d1,d2⟩:=h
 exact ⟨⟨⟨⟨⟨⟨⟨⟨a1,a2⟩,by decide⟩,by decide⟩,a5⟩,a6⟩,a7⟩,a8⟩,b1,d1,d2⟩
def B88:List (Int × ProcS)→CX→CX
 | [],X=>X
 | s::l,X=>B88 l (if s.2.state=2 then B70 X s.1 else Bg2 X s.1 (Da0 s.2))
def SlOk (L:List (Int × ProcS)):Prop:=∀ s ∈ L,(0≤s.1∧s.1<8)∧okS s.2=true∧InS s.2
theorem Bv8 {nc:Nat} {X:CX} (c:Clean nc X) (q:Int→ProcS→Bool):∀ (m:Nat) (i:Int),0≤i→i+m=8→SlOk (M6 X q m i)
 | 0,i,_,_,s,hs=>by simp [M6] at hs
 | m+1,i,h0,hi,s,hs=>by
  rw [show M6 X q (m+1) i=if (vS X i).2=1∧q i (vS X i).1=true then (i,(vS X i).1)::M6 X q m (i+1) else M6 X q m (i+1) from rfl] at hs
  split at hs
  ·rename_i h1
   rcases List.mem_cons.1 hs with rfl|h2
   ·refine ⟨⟨h0,by simp only;omega⟩,?_,Bl1 _⟩
    rcases Du9 c (i:=i) (by omega) with ⟨h3,_⟩|⟨_,h3⟩
    ·rw [h1.1] at h3;cases h3
    ·exact h3
   ·exact Bv8 c q m (i+1) (by omega) (by omega) s h2
  ·exact Bv8 c q m (i+1) (by omega) (by omega) s hs
theorem Go9 {nc:Nat} {X:CX} (c:Clean nc X) {s:Int × ProcS} (h:(0≤s.1∧s.1<8)∧okS s.2=true∧InS s.2):Clean nc (if s.2.state=2 then B70 X s.1 else Bg2 X s.1 (Da0 s.2)):=by
 split
 ·exact (Aj8 c h.1).2.1
 ·exact (Q0 c h.1 (Gf0 h.2.1) ⟨h.2.2.a,h.2.2.b,h.2.2.c,h.2.2.d⟩).2.1
theorem Ey7 {nc:Nat}:∀ (L:List (Int × ProcS)) (X:CX),SlOk L→Clean nc X→Clean nc (B88 L X)
 | [],X,_,c=>c
 | s::l,X,hL,c=>Ey7 l _ (fun x hx=>hL x (by simp [hx])) (Go9 c (hL s (by simp)))
theorem Hq7 (j:Int) (q:ProcS):B07 (int j::E2 q) 1 16=some (E2 q):=by
 have e:Nat.ble (1+16) (int j::E2 q).length=true:=by rw [Ar2];rfl
 rw [B07,e,List.drop_succ_cons,List.drop_zero,List.take_of_length_le (by rw [A70];omega)];rfl
theorem Hj8 (b k:Nat) (F:Fr) (ok:FrOk F) {nc:Nat} (L:List (Int × ProcS)) (hL:SlOk L) (h8:L.length≤8) (a:Option Addr) (ac:Nat):∀ (m n:Nat) (X:CX),n+m=L.length→Clean nc X →
  CtJ H7 Ac0 At8 [(0,P0 b),(8,.slice a L.length ac),(9,int L.length),(10,int n)] [slC false O5 17 a L.length ac (L.flatMap Bj7),cmC b k F X] fun v own=>v=.tuple ⟨[]⟩∧own [cmC b k F (B88 (L.drop n) X)]:=by
 intro m
 induction m with
 | zero =>
  intro n X hn c
  rw [show L.drop n=[] from List.drop_eq_nil_of_le (by omega),show B88 [] X=X from rfl]
  refine CtJ.of Df7 fun h r=>Tr.eq (Dr3 ..) ?_;(try simp only[Nr,Nl,Nat.reduceAdd,Nat.reduceMul,Int.reduceToNat])
  refine Yf (by simp;omega) ?_
  refine Ys fun o=>?_
  exact ⟨rfl,o.sub⟩
 | succ m ih =>
  intro n X hn c
  have hil:n<L.length:=by omega
  have e1:IntKind.wrap .i64 ((n:Int)+1)=((n+1:Nat):Int):=by rw [D1];omega
  have hg:L[n]?=some L[n]:=List.getElem?_eq_getElem hil
  have hd:L.drop n=L[n]::L.drop (n+1):=List.drop_eq_getElem_cons hil
  have hs:=hL _ (List.getElem_mem hil)
  rw [hd]
  generalize L[n]=s at hg hs
  obtain ⟨j,p⟩:=s
  have hstep:=Go9 c hs
  obtain ⟨hj,hk,hin⟩:=hs
  simp only at hj hk hin hstep
  rw [show B88 ((j,p)::L.drop (n+1)) X=B88 (L.drop (n+1)) (if p.state=2 then B70 X j else Bg2 X j (Da0 p)) from rfl]
  have hpart:=A11 (f:=Bj7) (k:=17) (fun x=>Ar2 x.1 x.2) hg
  have hlen:=S6 (f:=Bj7) (k:=17) (fun x=>Ar2 x.1 x.2) L
  refine CtJ.of Df7 fun h r=>Tr.eq (Dr3 ..) ?_;(try simp only[Nr,Nl,Nat.reduceAdd,Nat.reduceMul,Int.reduceToNat])
  refine Yt (by simp;omega) ?_
  rw [e1]
  refine Aa0 0 rfl fun h1 h2 h3=>?_
  (repeat' first|refine Gu ?_|(with_reducible first|apply Gx|apply Gy|rintro px rfl|refine fun(h:H)=>?_|intro hb)|refine Gs ?_|refine Gt ?_|exact Gz rfl|fail)
  rw [Int.toNat_natCast]
  refine Tr.xAggS (xs:=Bj7 (j,p)) ⟨by omega,by omega,hpart⟩ ?_
  refine Yn fun b2 h=>?_
  (repeat' first|refine Gu ?_|(with_reducible first|refine Gn fun b h=>?_|apply Gx|apply Gy|rintro px rfl|refine fun(h:H)=>?_|intro hb)|refine Gs ?_|refine Gt ?_|exact Gz rfl|fail)
  refine Yc (Gy7 j p) ?_;rintro _ h ⟨rfl,o⟩<;>(refine (?_:Tr _ _ _ _) o;(try simp only[Nr,Nl,Nat.reduceAdd,Nat.reduceMul,Int.reduceToNat]))
  (repeat' first|refine Gu ?_|(with_reducible first|refine Gn fun b h=>?_|apply Gx|apply Gy|rintro px rfl|refine fun(h:H)=>?_|intro hb)|refine Gs ?_|refine Gt ?_|exact Gz rfl|fail)
  by_cases hz:p.state=2
  ·rw [if_pos hz] at hstep ⊢
   refine Yt (by simp [hz]) ?_
   (repeat' first|refine Gu ?_|(with_reducible first|refine Gn fun b h=>?_|apply Gx|apply Gy|rintro px rfl|refine fun(h:H)=>?_|intro hb)|refine Gs ?_|refine Gt ?_|exact Gz rfl|fail)
   refine Yc (Bz3 b k F X ok j) ?_;rintro _ h ⟨rfl,o⟩<;>(refine (?_:Tr _ _ _ _) o;(try simp only[Nr,Nl,Nat.reduceAdd,Nat.reduceMul,Int.reduceToNat]))
   rw [(Aj8 c hj).1]
   dsimp only
   (repeat' first|refine Gu ?_|(with_reducible first|refine Gn fun b h=>?_|apply Gx|apply Gy|rintro px rfl|refine fun(h:H)=>?_|intro hb)|refine Gs ?_|refine Gt ?_|exact Gz rfl|fail)
   refine Q8 [2,0] 1 rfl rfl ?_
   refine Yr (ih (n+1) _ (by omega) hstep) ?_
   intro v h q
   exact q
  ·rw [if_neg hz] at hstep ⊢
   refine Yf (by simp [hz]) ?_
   obtain ⟨w1,_⟩:=Q0 c hj (Gf0 hk) ⟨hin.a,hin.b,hin.c,hin.d⟩
   (repeat' first|refine Gu ?_|(with_reducible first|refine Gn fun b h=>?_|apply Gx|apply Gy|rintro px rfl|refine fun(h:H)=>?_|intro hb)|refine Gs ?_|refine Gt ?_|exact Gz rfl|fail)
   rw [show (int j::E2 p).set 2 (int 0)=int j::E2 (Da0 p) from rfl]
   generalize Da0 p=q at w1 hstep
   refine Gs ?_ (by exact Hq7 j q)
   refine Yc (B95 b k F X ok j q) ?_;rintro _ h ⟨rfl,o⟩<;>(refine (?_:Tr _ _ _ _) o;(try simp only[Nr,Nl,Nat.reduceAdd,Nat.reduceMul,Int.reduceToNat]))
   rw [w1]
   dsimp only
   (repeat' first|refine Gu ?_|(with_reducible first|refine Gn fun b h=>?_|apply Gx|apply Gy|rintro px rfl|refine fun(h:H)=>?_|intro hb)|refine Gs ?_|refine Gt ?_|exact Gz rfl|fail)
   refine Q8 [2,0] 1 rfl rfl ?_
   refine Yr (ih (n+1) _ (by omega) hstep) ?_
   intro v h q
   exact q
theorem H36 (bi:Nat) (i:Int) (hi:0≤i∧i<8) (j:Int) (p:ProcS):Ct D2 Az1 [.agg ⟨int j::E2 p⟩,P0 bi] [pt bi (.cells D6 false [int i])] fun v own=>v=.bool (j != i && p.parent==i+1)∧own [pt bi (.cells D6 false [int i])]:=by
 have e1:IntKind.wrap .i64 (i+1)=i+1:=by rw [D1];omega
 refine Ct.of Gd9 rfl fun h r=>Tr.eq (Gd7 ..) ?_;(try simp only[Nr,Nl,Nat.reduceAdd,Nat.reduceMul,Int.reduceToNat])
 (repeat' first|refine Gu ?_|(with_reducible first|refine Gn fun b h=>?_|apply Gx|apply Gy|rintro px rfl|refine fun(h:H)=>?_|intro hb)|refine Gs ?_|refine Gt ?_|exact Gz rfl|fail)
 refine Ys fun o=>?_
 rw [e1]
 exact ⟨rfl,o.sub⟩
abbrev Eu7 (i:Int) (j:Int) (p:ProcS):Bool:=j != i && p.parent==i+1
def Ax9 (X:CX) (i:Int):CX:=B88 (M6 X (Eu7 i) 8 0) X
theorem Hw6 (b k:Nat) (F:Fr) (X:CX) (ok:FrOk F) {nc:Nat} (c:Clean nc X) (i:Int) (hi:0≤i∧i<8):Ct D2 Ac0 [P0 b,int i] [cmC b k F X] fun v own=>v=.tuple ⟨[]⟩∧own [cmC b k F (Ax9 X i)]:=by
 unfold Ax9
 refine Ct.of Df7 rfl fun h r=>Tr.eq (Gp2 ..) ?_;(try simp only[Nr,Nl,Nat.reduceAdd,Nat.reduceMul,Int.reduceToNat])
 refine Yn fun bi h=>?_
 refine Yc (Gw5 b k F X ok c (pt bi (.cells D6 false [int i])) Az1 [P0 bi] (Eu7 i) (fun j p=>H36 bi i hi j p)) ?_;rintro _ h ⟨a,ac,rfl,o⟩<;>(refine (?_:Tr _ _ _ _) o;(try simp only[Nr,Nl,Nat.reduceAdd,Nat.reduceMul,Int.reduceToNat]))
 (repeat' first|refine Gu ?_|(with_reducible first|refine Gn fun b h=>?_|apply Gx|apply Gy|rintro px rfl|refine fun(h:H)=>?_|intro hb)|refine Gs ?_|refine Gt ?_|exact Gz rfl|fail)
 refine Q8 [0,0] 1 rfl rfl ?_
 refine Yr (Hj8 b k F ok _ (Bv8 c _ 8 0 (by omega) (by omega)) (D83 X _ 8 0) a ac _ 0 X (Nat.zero_add _) c) ?_
 intro v h q
 exact q
abbrev B68 (code:Int):Int:=Int.tmod (IntKind.wrap .i64 (Int.tmod code 256+256)) 256
theorem Gx8 (code:Int):0≤B68 code∧B68 code≤255:=by
 have h1:=Int.tmod_lt_of_pos code (show (0:Int)<256 by omega)
 have h2:-256<Int.tmod code 256:=by
  have:=Int.lt_tmod_of_pos code (show (0:Int)<256 by omega)
  omega
 unfold B68
 rw [D1]
 generalize Int.tmod code 256=x at h1 h2
 rw [If2 (by omega)]
 omega
abbrev Er4 (p:ProcS) (code:Int):ProcS:=⟨2,p.parent,p.group,B68 code,0,p.mask,p.ignored,p.caught,Bs1,rfl⟩
theorem Hf1 {p:ProcS} (h:okS p=true) (code:Int):okS (Er4 p code)=true:=by
 have hc:=Gx8 code
 unfold okS at h ⊢
 rw [if_pos (show (Er4 p code).state=2 from rfl)]
 simp only [Bool.and_eq_true,Bool.not_eq_true',Bool.or_eq_false_iff,decide_eq_false_iff_not] at h ⊢
 obtain ⟨⟨⟨⟨⟨⟨⟨⟨a1,a2⟩,a3⟩,a4⟩,a5⟩,a6⟩,a7⟩,a8⟩,⟨⟨⟨⟨b1,b2⟩,b3⟩,b4⟩,b5⟩,d1,d2⟩:=h
 refine ⟨⟨⟨⟨⟨⟨⟨⟨by decide,by decide⟩,a3⟩,a4⟩,a5⟩,a6⟩,by show ¬ B68 code<0;omega⟩,by show ¬ B68 code>255;omega⟩,⟨⟨⟨⟨by simp [Hx7],b2⟩,b3⟩,b4⟩,b5⟩,by decide,by simp⟩
def Br7 (nc:Nat) (X:CX) (i code:Int):List Value × CX :=
 if (M8 X i).2≠0 then (Ac8 0 (M8 X i).2 false,X)
 else if (vS (Ax9 (N4 nc X i) i) i).2≠1 then (Ac8 0 105 false,Ax9 (N4 nc X i) i)
 else if (vS (Ax9 (N4 nc X i) i) i).1.parent>0∧(vS (Ax9 (N4 nc X i) i) ((vS (Ax9 (N4 nc X i) i) i).1.parent-1)).2=1∧(vS (Ax9 (N4 nc X i) i) ((vS (Ax9 (N4 nc X i) i) i).1.parent-1)).1.state≠2 then (Ac8 0 0 false,Bg2 (Ax9 (N4 nc X i) i) i (Er4 (vS (Ax9 (N4 nc X i) i) i).1 code))
 else (Ac8 0 0 false,B70 (Ax9 (N4 nc X i) i) i)
theorem Gc0 {nc:Nat} {X:CX} (c:Clean nc X) {i:Int} (hi:0≤i∧i<8):Clean nc (N4 nc X i):=by
 unfold N4
 split
 ·rename_i h1
  have hk:okS (vS X i).1=true:=by
   rcases Du9 c hi with ⟨h2,_⟩|⟨_,h2⟩
   ·rw [h1] at h2;cases h2
   ·exact h2
  have hin:=Bl1 (rd X ⟨1,i⟩)
  exact (Q0 (Dm2 _ _ (D22 hk) c) hi (Gg8 hk) ⟨hin.a,hin.b,hin.c,hin.d⟩).2.1
 ·exact c
theorem G80 {nc:Nat} {X:CX} (c:Clean nc X) (i:Int):Clean nc (Ax9 X i):=Ey7 _ _ (Bv8 c _ 8 0 (by omega) (by omega)) c
theorem He0 {p:ProcS} (h:okS p=true):0≤p.parent∧p.parent≤8:=by
 unfold okS at h
 simp only [Bool.and_eq_true,Bool.not_eq_true',Bool.or_eq_false_iff,decide_eq_false_iff_not] at h
 have:=h.1
 omega
theorem H07 (p:ProcS):B00 (E2 p) 8 (Bs1.map int)=some (E2 (A34 p)):=by
 have hlen:(E2 p).length=16:=A70 p
 have e:Nat.ble (8+(Bs1.map int).length) (E2 p).length=true:=by rw [hlen];rfl
 rw [B00,e]
 have h9:(E2 p).drop (8+(Bs1.map int).length)=[]:=List.drop_eq_nil_of_le (by rw [hlen];decide)
 rw [h9];rfl
theorem Gg7 (b k:Nat) (F:Fr) (X:CX) (ok:FrOk F) {nc:Nat} (c:Clean nc X) (i code:Int) (hi:0≤i∧i<8):Ct D2 Bc9 [P0 b,int i,int code] [cmC b k F X] fun v own=>v=.agg ⟨(Br7 nc X i code).1⟩∧own [cmC b k F (Br7 nc X i code).2]:=by
 have c1:=Gc0 c hi
 have c2:=G80 c1 i
 unfold Br7
 refine Ct.of Hc7 rfl fun h r=>Tr.eq (Hc0 ..) ?_;(try simp only[Nr,Nl,Nat.reduceAdd,Nat.reduceMul,Int.reduceToNat])
 refine Yn fun b0 h=>?_
 refine Yc (Es9 b k F X ok c i hi) ?_;rintro _ h ⟨rfl,o⟩<;>(refine (?_:Tr _ _ _ _) o;(try simp only[Nr,Nl,Nat.reduceAdd,Nat.reduceMul,Int.reduceToNat]))
 (repeat' first|refine Gu ?_|(with_reducible first|apply Gx|apply Gy|rintro px rfl|refine fun(h:H)=>?_|intro hb)|refine Gs ?_|refine Gt ?_|exact Gz rfl|fail)
 refine Yn fun b1 h=>?_
 (repeat' first|refine Gu ?_|(with_reducible first|refine Gn fun b h=>?_|apply Gx|apply Gy|rintro px rfl|refine fun(h:H)=>?_|intro hb)|refine Gs ?_|refine Gt ?_|exact Gz rfl|fail)
 by_cases h0:(M8 X i).2=0
 case neg =>
  rw [if_pos h0]
  refine Yt (by simpa using h0) ?_
  refine Yc (Bw3 (M8 X i).2) ?_;rintro _ h ⟨rfl,o⟩<;>(refine (?_:Tr _ _ _ _) o;(try simp only[Nr,Nl,Nat.reduceAdd,Nat.reduceMul,Int.reduceToNat]);(repeat' first|refine Gu ?_|(with_reducible first|refine Gn fun b h=>?_|apply Gx|apply Gy|rintro px rfl|refine fun(h:H)=>?_|intro hb)|refine Gs ?_|refine Gt ?_|exact Gz rfl|fail))
  refine Ys fun o=>?_
  exact ⟨rfl,o.sub⟩
 rw [if_neg (by simpa using h0)]
 refine Yf (by simpa using h0) ?_
 refine Yc (G90 b k F X ok c i hi) ?_;rintro _ h ⟨rfl,o⟩<;>(refine (?_:Tr _ _ _ _) o;(try simp only[Nr,Nl,Nat.reduceAdd,Nat.reduceMul,Int.reduceToNat]))
 (repeat' first|refine Gu ?_|(with_reducible first|refine Gn fun b h=>?_|apply Gx|apply Gy|rintro px rfl|refine fun(h:H)=>?_|intro hb)|refine Gs ?_|refine Gt ?_|exact Gz rfl|fail)
 refine Yc (Hw6 b k F _ ok c1 i hi) ?_;rintro _ h ⟨rfl,o⟩<;>(refine (?_:Tr _ _ _ _) o;(try simp only[Nr,Nl,Nat.reduceAdd,Nat.reduceMul,Int.reduceToNat]))
 generalize Ax9 (N4 nc X i) i=Y at c2
 (repeat' first|refine Gu ?_|(with_reducible first|refine Gn fun b h=>?_|apply Gx|apply Gy|rintro px rfl|refine fun(h:H)=>?_|intro hb)|refine Gs ?_|refine Gt ?_|exact Gz rfl|fail)
 refine Yc (Au4 b k F Y ok i) ?_;rintro _ h ⟨rfl,o⟩<;>(refine (?_:Tr _ _ _ _) o;(try simp only[Nr,Nl,Nat.reduceAdd,Nat.reduceMul,Int.reduceToNat]))
 rw [Ab6 c2 hi]
 dsimp only
 (repeat' first|refine Gu ?_|(with_reducible first|apply Gx|apply Gy|rintro px rfl|refine fun(h:H)=>?_|intro hb)|refine Gs ?_|refine Gt ?_|exact Gz rfl|fail)
 refine Yn fun b2 h=>?_
 (repeat' first|refine Gu ?_|(with_reducible first|refine Gn fun b h=>?_|apply Gx|apply Gy|rintro px rfl|refine fun(h:H)=>?_|intro hb)|refine Gs ?_|refine Gt ?_|exact Gz rfl|fail)
 by_cases h1:(vS Y i).2=1
 case neg =>
  rw [if_pos h1]
  refine Yt (by simpa using h1) ?_
  refine Yc (Bw3 105) ?_;rintro _ h ⟨rfl,o⟩<;>(refine (?_:Tr _ _ _ _) o;(try simp only[Nr,Nl,Nat.reduceAdd,Nat.reduceMul,Int.reduceToNat]);(repeat' first|refine Gu ?_|(with_reducible first|refine Gn fun b h=>?_|apply Gx|apply Gy|rintro px rfl|refine fun(h:H)=>?_|intro hb)|refine Gs ?_|refine Gt ?_|exact Gz rfl|fail))
  refine Ys fun o=>?_
  exact ⟨rfl,o.sub⟩
 rw [if_neg (by simpa using h1)]
 refine Yf (by simpa using h1) ?_
 have hk:okS (vS Y i).1=true:=by
  rcases Du9 c2 hi with ⟨h2,_⟩|⟨_,h2⟩
  ·rw [h1] at h2;cases h2
  ·exact h2
 have hin:InS (vS Y i).1:=Bl1 _
 have hpar:=He0 hk
 have hdead:=Hf1 hk code
 generalize (vS Y i).1=p at hk hpar hdead hin
 obtain ⟨z1,_⟩:=Aj8 c2 hi
 (repeat' first|refine Gu ?_|(with_reducible first|refine Gn fun b h=>?_|apply Gx|apply Gy|rintro px rfl|refine fun(h:H)=>?_|intro hb)|refine Gs ?_|refine Gt ?_|exact Gz rfl|fail)
 by_cases h2:p.parent>0
 case neg =>
  rw [if_neg (fun h=>h2 h.1)]
  refine Yf (by simpa using h2) ?_
  refine Yc (Bz3 b k F Y ok i) ?_;rintro _ h ⟨rfl,o⟩<;>(refine (?_:Tr _ _ _ _) o;(try simp only[Nr,Nl,Nat.reduceAdd,Nat.reduceMul,Int.reduceToNat]))
  rw [z1]
  dsimp only
  (repeat' first|refine Gu ?_|(with_reducible first|refine Gn fun b h=>?_|apply Gx|apply Gy|rintro px rfl|refine fun(h:H)=>?_|intro hb)|refine Gs ?_|refine Gt ?_|exact Gz rfl|fail)
  refine Yc (Bw9 true 0) ?_;rintro _ h ⟨rfl,o⟩<;>(refine (?_:Tr _ _ _ _) o;(try simp only[Nr,Nl,Nat.reduceAdd,Nat.reduceMul,Int.reduceToNat]))
  rw [if_pos trivial]
  (repeat' first|refine Gu ?_|(with_reducible first|refine Gn fun b h=>?_|apply Gx|apply Gy|rintro px rfl|refine fun(h:H)=>?_|intro hb)|refine Gs ?_|refine Gt ?_|exact Gz rfl|fail)
  refine Ys fun o=>?_
  exact ⟨rfl,o.sub⟩
 refine Yt (by simpa using h2) ?_
 (repeat' first|refine Gu ?_|(with_reducible first|refine Gn fun b h=>?_|apply Gx|apply Gy|rintro px rfl|refine fun(h:H)=>?_|intro hb)|refine Gs ?_|refine Gt ?_|exact Gz rfl|fail)
 rw [show IntKind.wrap .i64 (p.parent-1)=p.parent-1 by rw [D1];omega]
 refine Yc (Au4 b k F Y ok (p.parent-1)) ?_;rintro _ h ⟨rfl,o⟩<;>(refine (?_:Tr _ _ _ _) o;(try simp only[Nr,Nl,Nat.reduceAdd,Nat.reduceMul,Int.reduceToNat]))
 rw [Ab6 c2 (show 0≤p.parent-1∧p.parent-1<8 by omega)]
 dsimp only
 (repeat' first|refine Gu ?_|(with_reducible first|apply Gx|apply Gy|rintro px rfl|refine fun(h:H)=>?_|intro hb)|refine Gs ?_|refine Gt ?_|exact Gz rfl|fail)
 refine Yn fun b3 h=>?_
 (repeat' first|refine Gu ?_|(with_reducible first|refine Gn fun b h=>?_|rintro px rfl|refine fun(h:H)=>?_|intro hb)|refine Gs ?_|refine Gt ?_|exact Gz rfl|fail)
 refine Tr.andG (c:=(vS Y (p.parent-1)).1.state != 2) (fun hb=>?_) ?_
 ·(repeat' first|refine Gu ?_|(with_reducible first|refine Gn fun b h=>?_|apply Gx|apply Gy|rintro px rfl|refine fun(h:H)=>?_|intro hb)|refine Gs ?_|refine Gt ?_|exact Gz rfl|fail)
 by_cases h3:(vS Y (p.parent-1)).2=1∧(vS Y (p.parent-1)).1.state≠2
 ·rw [if_pos ⟨h2,h3⟩]
  refine Yt (by simp [h3.1,h3.2]) ?_
  obtain ⟨w1,_⟩:=Q0 c2 hi hdead ⟨by simp,hin.b,hin.c,hin.d⟩
  (repeat' first|refine Gu ?_|(with_reducible first|refine Gn fun b h=>?_|apply Gx|apply Gy|rintro px rfl|refine fun(h:H)=>?_|intro hb)|refine Gs ?_|refine Gt ?_|exact Gz rfl|fail)
  rw [show (((E2 p).set 0 (int 2)).set 3 (int (B68 code))).set 4 (int 0)=E2 ⟨2,p.parent,p.group,B68 code,0,p.mask,p.ignored,p.caught,p.fds,p.len⟩ from rfl]
  refine Gs (fun h=>?_) (by exact H07 _)
  rw [show A34 (⟨2,p.parent,p.group,B68 code,0,p.mask,p.ignored,p.caught,p.fds,p.len⟩:ProcS)=Er4 p code from rfl]
  generalize Er4 p code=q at w1
  (repeat' first|refine Gu ?_|(with_reducible first|refine Gn fun b h=>?_|apply Gx|apply Gy|rintro px rfl|refine fun(h:H)=>?_|intro hb)|refine Gs ?_|refine Gt ?_|exact Gz rfl|fail)
  refine Yc (B95 b k F Y ok i q) ?_;rintro _ h ⟨rfl,o⟩<;>(refine (?_:Tr _ _ _ _) o;(try simp only[Nr,Nl,Nat.reduceAdd,Nat.reduceMul,Int.reduceToNat]))
  rw [w1]
  dsimp only
  (repeat' first|refine Gu ?_|(with_reducible first|refine Gn fun b h=>?_|apply Gx|apply Gy|rintro px rfl|refine fun(h:H)=>?_|intro hb)|refine Gs ?_|refine Gt ?_|exact Gz rfl|fail)
  refine Yc (Bw9 true 0) ?_;rintro _ h ⟨rfl,o⟩<;>(refine (?_:Tr _ _ _ _) o;(try simp only[Nr,Nl,Nat.reduceAdd,Nat.reduceMul,Int.reduceToNat]))
  rw [if_pos trivial]
  (repeat' first|refine Gu ?_|(with_reducible first|refine Gn fun b h=>?_|apply Gx|apply Gy|rintro px rfl|refine fun(h:H)=>?_|intro hb)|refine Gs ?_|refine Gt ?_|exact Gz rfl|fail)
  refine Ys fun o=>?_
  exact ⟨rfl,o.sub⟩
 ·rw [if_neg (fun h=>h3 h.2)]
  refine Yf (by
   by_cases h4:(vS Y (p.parent-1)).2=1
   ·have:(vS Y (p.parent-1)).1.state=2:=Classical.byContradiction fun h5=>h3 ⟨h4,h5⟩
    simp [this]
   ·simp [h4]) ?_
  refine Yc (Bz3 b k F Y ok i) ?_;rintro _ h ⟨rfl,o⟩<;>(refine (?_:Tr _ _ _ _) o;(try simp only[Nr,Nl,Nat.reduceAdd,Nat.reduceMul,Int.reduceToNat]))
  rw [z1]
  dsimp only
  (repeat' first|refine Gu ?_|(with_reducible first|refine Gn fun b h=>?_|apply Gx|apply Gy|rintro px rfl|refine fun(h:H)=>?_|intro hb)|refine Gs ?_|refine Gt ?_|exact Gz rfl|fail)
  refine Yc (Bw9 true 0) ?_;rintro _ h ⟨rfl,o⟩<;>(refine (?_:Tr _ _ _ _) o;(try simp only[Nr,Nl,Nat.reduceAdd,Nat.reduceMul,Int.reduceToNat]))
  rw [if_pos trivial]
  (repeat' first|refine Gu ?_|(with_reducible first|refine Gn fun b h=>?_|apply Gx|apply Gy|rintro px rfl|refine fun(h:H)=>?_|intro hb)|refine Gs ?_|refine Gt ?_|exact Gz rfl|fail)
  refine Ys fun o=>?_
  exact ⟨rfl,o.sub⟩
abbrev PV:=Int→ProcS × Int
structure Fam (X:CX) (P:PV) (n:Int):Prop where
 c:Clean 3 X
 at_:∀ j:Int,0≤j∧j<8→vS X j=P j
 fl:vF X 0=(⟨3,0,n,0⟩,1)
def upd (P:PV) (i:Int) (v:ProcS × Int):PV:=fun j=>if j=i then v else P j
def Gb8 (P:PV):Nat→Int→Int
 | 0,_=>-1
 | m+1,i=>if (P i).2=0 then i else Gb8 P m (i+1)
theorem Gx4 {X:CX} {P:PV} {n:Int} (A:Fam X P n):∀ (m:Nat) (i:Int),0≤i→i+m=8→Z9 X m i=Gb8 P m i
 | 0,_,_,_=>rfl
 | m+1,i,h0,hi=>by
  rw [show Z9 X (m+1) i=if (vS X i).2=0 then i else Z9 X m (i+1) from rfl,show Gb8 P (m+1) i=if (P i).2=0 then i else Gb8 P m (i+1) from rfl,A.at_ i (by omega),Gx4 A m (i+1) (by omega) (by omega)]
structure Live (v:ProcS × Int):Prop where
 a:v.2=1
 b:v.1.state=1
 c:v.1.fds=p0.fds
theorem E18 {X:CX} {P:PV} {n:Int} (A:Fam X P n) (hn:0≤n∧n<64) {i:Int} (hi:0≤i∧i<8) (v:Live (P i)) {m:Int} (hm:Gb8 P 8 0=m) (h0:0≤m) :
  (Au7 X i).1=Ac8 m 0 false∧Fam (Au7 X i).2 (upd P m (Ad4 (P i).1 i,1)) (n+1):=by
 have e0:=A.at_ i hi
 have ef:Z9 X 8 0=m:=by rw [Gx4 A 8 0 (by omega) (by omega)];exact hm
 have hm8:0≤m∧m<8:=by
  rcases Dw4 (X:=X) 8 0 (by omega) (by omega) with h|h<;>omega
 have es:M8 X i=((vS X i).1,0):=by unfold M8;rw [if_pos (by rw [e0];exact ⟨v.a,v.b⟩)]
 have hfd:(vS X i).1.fds=p0.fds:=by rw [e0];exact v.c
 have em:=Ic7 hfd
 have ee:Ai3 X H58 p0.fds=0:=by
  show (if (1:Int)=0 then _ else if (vF X (1-1)).2≠1 then (105:Int) else if (vF X (1-1)).1.refs+1>64 then 123 else 0)=0
  rw [if_neg (by decide),show (1-1:Int)=0 from rfl,A.fl,if_neg (by simp),if_neg (by show ¬ n+1>64;omega)]
 have eh:(S8 X (vS X i).1).1=0:=by unfold S8;rw [em,hfd,ee];rfl
 obtain ⟨s1,s2,s3,s4⟩:=E33 A.c hi (by rw [es])
 have hok:okS (Ad4 (vS X i).1 i)=true:=E44 s3 s2 hi
 have hin:InS (Ad4 (vS X i).1 i):=by
  have:=Bl1 (rd X ⟨1,i⟩)
  exact ⟨by simp,this.b,this.c,this.d⟩
 obtain ⟨a1,a2,a3,a4⟩:=Dp6 A.c (D22 s3) eh
 obtain ⟨w1,w2,w3,w4,w5⟩:=Q0 a1 hm8 hok hin
 have e:Au7 X i=(Ac8 m 0 false,Bg2 (S8 X (vS X i).1).2 m (Ad4 (vS X i).1 i)):=by
  unfold Au7
  rw [es,if_neg (by simp),ef,if_neg (by omega),if_neg (by simpa using eh)]
 rw [e]
 refine ⟨rfl,w2,fun j hj=>?_,?_⟩
 ·show vS (Bg2 _ m _) j=_
  rw [w3 j hj,a2 j hj,A.at_ j hj,e0];rfl
 ·show vF (Bg2 _ m _) 0=_
  rw [w4 0 (by omega),a3 0 (by omega),em,if_pos (by decide),A.fl];rfl
theorem Hx4 {X:CX} {P:PV} {n:Int} (A:Fam X P n) (hn:2≤n∧n≤64) {i:Int} (hi:0≤i∧i<8) (v:Live (P i)):Fam (N4 3 X i) (upd P i (A34 (P i).1,1)) (n-1):=by
 have e0:=A.at_ i hi
 have hk2:okF (Bh6 ⟨3,0,n,0⟩ (-1))=true:=by
  simp [okF];omega
 have ev:Bb2 3 X 0=(0,B87 X 0 (Bh6 ⟨3,0,n,0⟩ (-1))):=by
  unfold Bb2
  rw [A.fl,if_neg (by simp),if_pos (by show n-1>0;omega)]
 obtain ⟨w1,w2,w3,w4,w5⟩:=As6 A.c (i:=0) (by omega) hk2
 have el:Bp2 3 p0.fds X=B87 X 0 (Bh6 ⟨3,0,n,0⟩ (-1)):=by
  show (Bb2 3 X (1-1)).2=_
  rw [show (1-1:Int)=0 from rfl,ev]
 have hk:okS (vS X i).1=true:=by
  rcases Du9 A.c hi with ⟨h2,_⟩|⟨_,h2⟩
  ·rw [e0,v.a] at h2;cases h2
  ·exact h2
 have hin:=Bl1 (rd X ⟨1,i⟩)
 obtain ⟨x1,x2,x3,x4,x5⟩:=Q0 w2 hi (Gg8 hk) ⟨hin.a,hin.b,hin.c,hin.d⟩
 have e:N4 3 X i=Bg2 (B87 X 0 (Bh6 ⟨3,0,n,0⟩ (-1))) i (A34 (vS X i).1):=by
  unfold N4
  rw [if_pos (by rw [e0];exact v.a),show (vS X i).1.fds=p0.fds by rw [e0];exact v.c,el]
 rw [e]
 refine ⟨x2,fun j hj=>?_,?_⟩
 ·rw [x3 j hj,w3 j hj,A.at_ j hj,e0];rfl
 ·rw [x4 0 (by omega),w4 0 (by omega),if_pos rfl]
  show ((⟨3,0,n+-1,0⟩:FileS),(1:Int))=_
  rw [Int.sub_eq_add_neg]
def A01 (P:PV) (q:Int→ProcS→Bool):Nat→Int→List (Int × ProcS)
 | 0,_=>[]
 | m+1,i=>if (P i).2=1∧q i (P i).1=true then (i,(P i).1)::A01 P q m (i+1) else A01 P q m (i+1)
theorem Er1 {X:CX} {P:PV} {n:Int} (A:Fam X P n) (q:Int→ProcS→Bool):∀ (m:Nat) (i:Int),0≤i→i+m=8→M6 X q m i=A01 P q m i
 | 0,_,_,_=>rfl
 | m+1,i,h0,hi=>by
  rw [show M6 X q (m+1) i=if (vS X i).2=1∧q i (vS X i).1=true then (i,(vS X i).1)::M6 X q m (i+1) else M6 X q m (i+1) from rfl,
   show A01 P q (m+1) i=if (P i).2=1∧q i (P i).1=true then (i,(P i).1)::A01 P q m (i+1) else A01 P q m (i+1) from rfl,A.at_ i (by omega),Er1 A q m (i+1) (by omega) (by omega)]
def Du7:List (Int × ProcS)→PV→PV
 | [],P=>P
 | s::l,P=>Du7 l (upd P s.1 (if s.2.state=2 then (.zero,0) else (Da0 s.2,1)))
theorem Gw4:∀ (L:List (Int × ProcS)) (X:CX) (P:PV) (n:Int),SlOk L→Fam X P n→Fam (B88 L X) (Du7 L P) n
 | [],X,P,n,_,A=>A
 | s::l,X,P,n,hL,A=>by
  obtain ⟨hj,hk,hin⟩:=hL s (by simp)
  rw [show B88 (s::l) X=B88 l (if s.2.state=2 then B70 X s.1 else Bg2 X s.1 (Da0 s.2)) from rfl,show Du7 (s::l) P=Du7 l (upd P s.1 (if s.2.state=2 then (.zero,0) else (Da0 s.2,1))) from rfl]
  refine Gw4 l _ _ n (fun x hx=>hL x (by simp [hx])) ?_
  split
  ·obtain ⟨_,z2,z3,z4,_⟩:=Aj8 A.c hj
   exact ⟨z2,fun j h=>by rw [z3 j h,A.at_ j h];rfl,by rw [z4 0 (by omega)];exact A.fl⟩
  ·obtain ⟨_,z2,z3,z4,_⟩:=Q0 A.c hj (Gf0 hk) ⟨hin.a,hin.b,hin.c,hin.d⟩
   exact ⟨z2,fun j h=>by rw [z3 j h,A.at_ j h];rfl,by rw [z4 0 (by omega)];exact A.fl⟩
theorem E57 (P:PV) (q:Int→ProcS→Bool):∀ (m:Nat) (i:Int),∀ s ∈ A01 P q m i,q s.1 s.2=true
 | 0,i,s,hs=>by simp [A01] at hs
 | m+1,i,s,hs=>by
  rw [show A01 P q (m+1) i=if (P i).2=1∧q i (P i).1=true then (i,(P i).1)::A01 P q m (i+1) else A01 P q m (i+1) from rfl] at hs
  split at hs
  ·rename_i h1
   rcases List.mem_cons.1 hs with rfl|h2
   ·exact h1.2
   ·exact E57 P q m (i+1) s h2
  ·exact E57 P q m (i+1) s hs
theorem Hg0 {i:Int}:∀ (L:List (Int × ProcS)) (P:PV),(∀ s ∈ L,s.1≠i)→Du7 L P i=P i
 | [],P,_=>rfl
 | s::l,P,h=>by
  rw [show Du7 (s::l) P=Du7 l (upd P s.1 (if s.2.state=2 then (.zero,0) else (Da0 s.2,1))) from rfl,Hg0 l _ (fun x hx=>h x (by simp [hx]))]
  unfold upd
  rw [if_neg (fun e=>h s (by simp) e.symm)]
def Bp9 (P:PV) (i:Int):PV:=Du7 (A01 (upd P i (A34 (P i).1,1)) (Eu7 i) 8 0) (upd P i (A34 (P i).1,1))
def Ga5 (P:PV) (i code:Int):PV :=
 if (P i).1.parent>0∧(Bp9 P i ((P i).1.parent-1)).2=1∧(Bp9 P i ((P i).1.parent-1)).1.state≠2 then upd (Bp9 P i) i (Er4 (A34 (P i).1) code,1) else upd (Bp9 P i) i (.zero,0)
theorem E31 {X:CX} {P:PV} {n:Int} (A:Fam X P n) (hn:2≤n∧n≤64) {i:Int} (hi:0≤i∧i<8) (v:Live (P i)) (code:Int):(Br7 3 X i code).1=Ac8 0 0 false∧Fam (Br7 3 X i code).2 (Ga5 P i code) (n-1):=by
 have e0:=A.at_ i hi
 have A1:=Hx4 A hn hi v
 have es:(M8 X i).2=0:=by unfold M8;rw [if_pos (by rw [e0];exact ⟨v.a,v.b⟩)]
 have A2:Fam (Ax9 (N4 3 X i) i) (Bp9 P i) (n-1):=by
  have hs:=Er1 A1 (Eu7 i) 8 0 (by omega) (by omega)
  have:=Gw4 _ _ _ _ (Bv8 A1.c (Eu7 i) 8 0 (by omega) (by omega)) A1
  unfold Ax9 Bp9
  rw [hs] at this ⊢
  exact this
 have ei:Bp9 P i i=(A34 (P i).1,1):=by
  unfold Bp9
  rw [Hg0 _ _ (fun s hs=>by
   have:=E57 _ _ _ _ s hs
   simp [Eu7] at this
   exact this.1)]
  unfold upd;rw [if_pos rfl]
 unfold Br7 Ga5
 rw [if_neg (by simpa using es)]
 generalize Ax9 (N4 3 X i) i=Y at A2
 have ey:vS Y i=(A34 (P i).1,1):=by rw [A2.at_ i hi,ei]
 rw [ey,if_neg (by simp)]
 have hk:okS (vS Y i).1=true:=by
  rcases Du9 A2.c hi with ⟨h2,_⟩|⟨_,h2⟩
  ·rw [ey] at h2;cases h2
  ·exact h2
 have hin:InS (vS Y i).1:=Bl1 _
 rw [ey] at hk hin
 have hpar:=He0 hk
 simp only at hk hin hpar ⊢
 have hdead:=Hf1 hk code
 obtain ⟨_,z2,z3,z4,_⟩:=Aj8 A2.c hi
 obtain ⟨_,w2,w3,w4,_⟩:=Q0 A2.c hi hdead ⟨by simp,hin.b,hin.c,hin.d⟩
 by_cases hp:(P i).1.parent>0
 ·rw [A2.at_ ((P i).1.parent-1) (by omega)]
  by_cases h3:(P i).1.parent>0∧(Bp9 P i ((P i).1.parent-1)).2=1∧(Bp9 P i ((P i).1.parent-1)).1.state≠2
  ·rw [if_pos h3,if_pos h3]
   exact ⟨rfl,w2,fun j h=>by rw [w3 j h,A2.at_ j h];rfl,by rw [w4 0 (by omega)];exact A2.fl⟩
  ·rw [if_neg h3,if_neg h3]
   exact ⟨rfl,z2,fun j h=>by rw [z3 j h,A2.at_ j h];rfl,by rw [z4 0 (by omega)];exact A2.fl⟩
 ·rw [if_neg (fun h=>hp h.1),if_neg (fun h=>hp h.1)]
  exact ⟨rfl,z2,fun j h=>by rw [z3 j h,A2.at_ j h];rfl,by rw [z4 0 (by omega)];exact A2.fl⟩
def Es2 (n:Nat):List (Int × ProcS)→PV→List Value × PV
 | [],P=>(if n=0 then Ac8 0 110 false else Ac8 0 0 true,P)
 | s::l,P=>if s.2.state=2 then (Ac8 (256*s.1+s.2.code) 0 false,upd P s.1 (.zero,0)) else Es2 n l P
theorem Gn7 {X:CX} {P:PV} {n:Int} (A:Fam X P n) (k:Nat):∀ (L:List (Int × ProcS)),SlOk L→(B28 X k L).1=(Es2 k L P).1∧Fam (B28 X k L).2 (Es2 k L P).2 n
 | [],_=>⟨rfl,A⟩
 | s::l,hL=>by
  obtain ⟨hj,_,_⟩:=hL s (by simp)
  rw [show B28 X k (s::l)=if s.2.state=2 then (Ac8 (256*s.1+s.2.code) 0 false,B70 X s.1) else B28 X k l from rfl,show Es2 k (s::l) P=if s.2.state=2 then (Ac8 (256*s.1+s.2.code) 0 false,upd P s.1 (.zero,0)) else Es2 k l P from rfl]
  split
  ·obtain ⟨_,z2,z3,z4,_⟩:=Aj8 A.c hj
   exact ⟨rfl,z2,fun j h=>by rw [z3 j h,A.at_ j h];rfl,by rw [z4 0 (by omega)];exact A.fl⟩
  ·exact Gn7 A k l fun x hx=>hL x (by simp [hx])
def Er5 (P:PV) (i:Int):List Value × PV:=Es2 (A01 P (fun _ p=>p.parent==i+1) 8 0).length (A01 P (fun _ p=>p.parent==i+1) 8 0) P
theorem Gz5 {X:CX} {P:PV} {n:Int} (A:Fam X P n) {i:Int} (hi:0≤i∧i<8) (v:Live (P i)):(B90 X i).1=(Er5 P i).1∧Fam (B90 X i).2 (Er5 P i).2 n:=by
 have e0:=A.at_ i hi
 have es:(M8 X i).2=0:=by unfold M8;rw [if_pos (by rw [e0];exact ⟨v.a,v.b⟩)]
 have hs:=Er1 A (fun _ p=>p.parent==i+1) 8 0 (by omega) (by omega)
 have ho:=Bv8 A.c (fun _ p=>p.parent==i+1) 8 0 (by omega) (by omega)
 unfold B90 Er5
 rw [if_neg (by simpa using es)]
 rw [hs] at ho ⊢
 exact Gn7 A _ _ ho
def FP0:PV:=upd (fun _=>(.zero,0)) 0 (p0,1)
theorem Ig2:Fam X1 FP0 1:=by
 refine ⟨Dl8,fun j hj=>?_,by kernel_rfl⟩
 have:j=0∨j=1∨j=2∨j=3∨j=4∨j=5∨j=6∨j=7:=by omega
 rcases this with rfl|rfl|rfl|rfl|rfl|rfl|rfl|rfl<;>(clear hj;show (_:ProcS × Int)=_;kernel_rfl)
def FP1:PV:=upd FP0 1 (Ad4 (FP0 0).1 0,1)
def FP2:PV:=upd FP1 2 (Ad4 (FP1 1).1 1,1)
def FP3:PV:=upd FP2 3 (Ad4 (FP2 1).1 1,1)
theorem lv0:Live (FP0 0):=⟨rfl,rfl,rfl⟩
theorem lv1:Live (FP1 1):=⟨rfl,rfl,rfl⟩
theorem lv2:Live (FP2 1):=⟨rfl,rfl,rfl⟩
def FP4 (other:Int):PV:=Ga5 FP3 2 other
def FP5 (other code:Int):PV:=Ga5 (FP4 other) 1 code
def FP6 (other code:Int):PV:=Ga5 (FP5 other code) 3 5
theorem lv3:Live (FP3 2):=⟨rfl,rfl,rfl⟩
theorem lv4 (other:Int):Live (FP4 other 1):=⟨rfl,rfl,rfl⟩
theorem lv5 (other code:Int):Live (FP5 other code 3):=⟨rfl,rfl,rfl⟩
theorem lv6 (other code:Int):Live (FP6 other code 0):=⟨rfl,rfl,rfl⟩
theorem v52 (other code:Int):(FP5 other code 2).2=0:=rfl
theorem v53 (other code:Int):(FP5 other code 3).2=1∧(FP5 other code 3).1.parent=0:=⟨rfl,rfl⟩
theorem v51 (other code:Int):(FP5 other code 1).2=1∧(FP5 other code 1).1.state=2∧(FP5 other code 1).1.code=B68 code:=⟨rfl,rfl,rfl⟩
theorem v63 (other code:Int):(FP6 other code 3).2=0:=rfl
theorem w6 (other code:Int):(Er5 (FP6 other code) 0).1=Ac8 (256*1+B68 code) 0 false:=rfl
def FP7 (other code:Int):PV:=(Er5 (FP6 other code) 0).2
theorem lv7 (other code:Int):Live (FP7 other code 0):=⟨by kernel_rfl,by kernel_rfl,by kernel_rfl⟩
theorem w7 (other code:Int):(Er5 (FP7 other code) 0).1=Ac8 0 110 false:=by kernel_rfl
theorem H89 (code:Int):IntKind.wrap .i64 (256+B68 code)=256*1+B68 code:=by
 have:=Gx8 code
 rw [D1];omega
theorem Gk2 (code other:Int):Ct D2 P3 [int code,int other] [] fun v own=>v=.bool true∧own []:=by
 obtain ⟨r1,B1⟩:=E18 Ig2 (by omega) (i:=0) (by omega) lv0 (m:=1) (by kernel_rfl) (by omega)
 have A1:Fam (Au7 X1 0).2 FP1 2:=B1
 generalize hY1:(Au7 X1 0).2=Y1 at A1
 obtain ⟨r2,B2⟩:=E18 A1 (by omega) (i:=1) (by omega) lv1 (m:=2) (by kernel_rfl) (by omega)
 have A2:Fam (Au7 Y1 1).2 FP2 3:=B2
 generalize hY2:(Au7 Y1 1).2=Y2 at A2
 obtain ⟨r3,B3⟩:=E18 A2 (by omega) (i:=1) (by omega) lv2 (m:=3) (by kernel_rfl) (by omega)
 have A3:Fam (Au7 Y2 1).2 FP3 4:=B3
 generalize hY3:(Au7 Y2 1).2=Y3 at A3
 obtain ⟨r4,B4⟩:=E31 A3 (by omega) (i:=2) (by omega) lv3 other
 have A4:Fam (Br7 3 Y3 2 other).2 (FP4 other) 3:=B4
 generalize hY4:(Br7 3 Y3 2 other).2=Y4 at A4
 obtain ⟨r5,B5⟩:=E31 A4 (by omega) (i:=1) (by omega) (lv4 other) code
 have A5:Fam (Br7 3 Y4 1 code).2 (FP5 other code) 2:=B5
 generalize hY5:(Br7 3 Y4 1 code).2=Y5 at A5
 obtain ⟨r6,B6⟩:=E31 A5 (by omega) (i:=3) (by omega) (lv5 other code) 5
 have A6:Fam (Br7 3 Y5 3 5).2 (FP6 other code) 1:=B6
 generalize hY6:(Br7 3 Y5 3 5).2=Y6 at A6
 obtain ⟨r7,B7⟩:=Gz5 A6 (i:=0) (by omega) (lv6 other code)
 have A7:Fam (B90 Y6 0).2 (FP7 other code) 1:=B7
 generalize hY7:(B90 Y6 0).2=Y7 at A7
 obtain ⟨r8,B8⟩:=Gz5 A7 (i:=0) (by omega) (lv7 other code)
 replace r7:=r7.trans (w6 other code)
 replace r8:=r8.trans (w7 other code)
 clear B1 B2 B3 B4 B5 B6 B7 B8
 refine Ct.of Eg4 rfl fun h r=>Tr.eq (Eg5 ..) ?_;(try simp only[Nr,Nl,Nat.reduceAdd,Nat.reduceMul,Int.reduceToNat])
 refine Yc (G27) ?_;rintro _ h ⟨a1,rfl,o⟩<;>(refine (?_:Tr _ _ _ _) o;(try simp only[Nr,Nl,Nat.reduceAdd,Nat.reduceMul,Int.reduceToNat]))
 (repeat' first|refine Gu ?_|(with_reducible first|refine Gn fun b h=>?_|apply Gx|apply Gy|rintro px rfl|refine fun(h:H)=>?_|intro hb)|refine Gs ?_|refine Gt ?_|exact Gz rfl|fail)
 refine Yc (He9 a1) ?_
 rintro _ h ⟨k,c,w,m,K',rfl,o⟩
 refine (?_:Tr _ _ _ _) o
 (try simp only[Nr,Nl,Nat.reduceAdd,Nat.reduceMul,Int.reduceToNat])
 (repeat' first|refine Gu ?_|(with_reducible first|refine Gn fun b h=>?_|apply Gx|apply Gy|rintro px rfl|refine fun(h:H)=>?_|intro hb)|refine Gs ?_|refine Gt ?_|exact Gz rfl|fail)
 refine Yc (Er6 c k F1 X1 A02 Dl8 0 (by omega)) ?_;rintro _ h ⟨rfl,o⟩<;>(refine (?_:Tr _ _ _ _) o;(try simp only[Nr,Nl,Nat.reduceAdd,Nat.reduceMul,Int.reduceToNat]))
 rw [r1,hY1]
 (repeat' first|refine Gu ?_|(with_reducible first|refine Gn fun b h=>?_|rintro px rfl|refine fun(h:H)=>?_|intro hb)|refine Gs ?_|refine Gt ?_|exact Gz rfl|fail)
 refine Yb (Yf rfl ?_)
 refine Yc (Er6 c k F1 Y1 A02 A1.c 1 (by omega)) ?_;rintro _ h ⟨rfl,o⟩<;>(refine (?_:Tr _ _ _ _) o;(try simp only[Nr,Nl,Nat.reduceAdd,Nat.reduceMul,Int.reduceToNat]))
 rw [r2,hY2]
 (repeat' first|refine Gu ?_|(with_reducible first|refine Gn fun b h=>?_|rintro px rfl|refine fun(h:H)=>?_|intro hb)|refine Gs ?_|refine Gt ?_|exact Gz rfl|fail)
 refine Ys fun o=>(?_:Tr _ _ _ _) o;(try simp only[Nr,Nl,Nat.reduceAdd,Nat.reduceMul,Int.reduceToNat])
 refine Yb (Yf rfl ?_)
 refine Yc (Er6 c k F1 Y2 A02 A2.c 1 (by omega)) ?_;rintro _ h ⟨rfl,o⟩<;>(refine (?_:Tr _ _ _ _) o;(try simp only[Nr,Nl,Nat.reduceAdd,Nat.reduceMul,Int.reduceToNat]))
 rw [r3,hY3]
 (repeat' first|refine Gu ?_|(with_reducible first|refine Gn fun b h=>?_|rintro px rfl|refine fun(h:H)=>?_|intro hb)|refine Gs ?_|refine Gt ?_|exact Gz rfl|fail)
 refine Ys fun o=>(?_:Tr _ _ _ _) o;(try simp only[Nr,Nl,Nat.reduceAdd,Nat.reduceMul,Int.reduceToNat])
 refine Yf rfl ?_
 refine Yc (Gg7 c k F1 Y3 A02 A3.c 2 other (by omega)) ?_;rintro _ h ⟨rfl,o⟩<;>(refine (?_:Tr _ _ _ _) o;(try simp only[Nr,Nl,Nat.reduceAdd,Nat.reduceMul,Int.reduceToNat]))
 rw [r4,hY4]
 (repeat' first|refine Gu ?_|(with_reducible first|refine Gn fun b h=>?_|rintro px rfl|refine fun(h:H)=>?_|intro hb)|refine Gs ?_|refine Gt ?_|exact Gz rfl|fail)
 refine Yb (Yf rfl ?_)
 refine Yc (Gg7 c k F1 Y4 A02 A4.c 1 code (by omega)) ?_;rintro _ h ⟨rfl,o⟩<;>(refine (?_:Tr _ _ _ _) o;(try simp only[Nr,Nl,Nat.reduceAdd,Nat.reduceMul,Int.reduceToNat]))
 rw [r5,hY5]
 (repeat' first|refine Gu ?_|(with_reducible first|refine Gn fun b h=>?_|rintro px rfl|refine fun(h:H)=>?_|intro hb)|refine Gs ?_|refine Gt ?_|exact Gz rfl|fail)
 refine Ys fun o=>(?_:Tr _ _ _ _) o;(try simp only[Nr,Nl,Nat.reduceAdd,Nat.reduceMul,Int.reduceToNat])
 refine Yf rfl ?_
 have t2:=A5.at_ 2 (by omega)
 have t3:=A5.at_ 3 (by omega)
 have t1:=A5.at_ 1 (by omega)
 have q2:=v52 other code
 have q3:=v53 other code
 have q1:=v51 other code
 have q6:=v63 other code
 have t6:=A6.at_ 3 (by omega)
 generalize FP5 other code 2=v2 at t2 q2
 generalize FP5 other code 3=v3 at t3 q3
 generalize FP5 other code 1=v1 at t1 q1
 generalize FP6 other code 3=v6 at t6 q6
 refine Yc (Au4 c k F1 Y5 A02 2) ?_;rintro _ h ⟨rfl,o⟩<;>(refine (?_:Tr _ _ _ _) o;(try simp only[Nr,Nl,Nat.reduceAdd,Nat.reduceMul,Int.reduceToNat]))
 rw [Ab6 A5.c (by omega),t2]
 dsimp only
 (repeat' first|refine Gu ?_|(with_reducible first|apply Gx|apply Gy|rintro px rfl|refine fun(h:H)=>?_|intro hb)|refine Gs ?_|refine Gt ?_|exact Gz rfl|fail)
 refine Yn fun b2 h=>?_
 (repeat' first|refine Gu ?_|(with_reducible first|refine Gn fun b h=>?_|apply Gx|apply Gy|rintro px rfl|refine fun(h:H)=>?_|intro hb)|refine Gs ?_|refine Gt ?_|exact Gz rfl|fail)
 refine Yc (Au4 c k F1 Y5 A02 3) ?_;rintro _ h ⟨rfl,o⟩<;>(refine (?_:Tr _ _ _ _) o;(try simp only[Nr,Nl,Nat.reduceAdd,Nat.reduceMul,Int.reduceToNat]))
 rw [Ab6 A5.c (by omega),t3]
 dsimp only
 (repeat' first|refine Gu ?_|(with_reducible first|apply Gx|apply Gy|rintro px rfl|refine fun(h:H)=>?_|intro hb)|refine Gs ?_|refine Gt ?_|exact Gz rfl|fail)
 refine Yn fun b3 h=>?_
 (repeat' first|refine Gu ?_|(with_reducible first|refine Gn fun b h=>?_|apply Gx|apply Gy|rintro px rfl|refine fun(h:H)=>?_|intro hb)|refine Gs ?_|refine Gt ?_|exact Gz rfl|fail)
 refine Yc (Au4 c k F1 Y5 A02 1) ?_;rintro _ h ⟨rfl,o⟩<;>(refine (?_:Tr _ _ _ _) o;(try simp only[Nr,Nl,Nat.reduceAdd,Nat.reduceMul,Int.reduceToNat]))
 rw [Ab6 A5.c (by omega),t1]
 dsimp only
 (repeat' first|refine Gu ?_|(with_reducible first|apply Gx|apply Gy|rintro px rfl|refine fun(h:H)=>?_|intro hb)|refine Gs ?_|refine Gt ?_|exact Gz rfl|fail)
 refine Yn fun b4 h=>?_
 (repeat' first|refine Gu ?_|(with_reducible first|refine Gn fun b h=>?_|rintro px rfl|refine fun(h:H)=>?_|intro hb)|refine Gs ?_|refine Gt ?_|exact Gz rfl|fail)
 rw [q2,q3.1,q1.1]
 refine Yb (Yf rfl ?_)
 refine Ys fun o=>(?_:Tr _ _ _ _) o;(try simp only[Nr,Nl,Nat.reduceAdd,Nat.reduceMul,Int.reduceToNat])
 refine Yb (Yf rfl ?_)
 (repeat' first|refine Gu ?_|(with_reducible first|refine Gn fun b h=>?_|rintro px rfl|refine fun(h:H)=>?_|intro hb)|refine Gs ?_|refine Gt ?_|exact Gz rfl|fail)
 rw [q3.2]
 refine Ys fun o=>(?_:Tr _ _ _ _) o;(try simp only[Nr,Nl,Nat.reduceAdd,Nat.reduceMul,Int.reduceToNat])
 refine Yb (Yf rfl ?_)
 refine Ys fun o=>(?_:Tr _ _ _ _) o;(try simp only[Nr,Nl,Nat.reduceAdd,Nat.reduceMul,Int.reduceToNat])
 refine Yb (Yf rfl ?_)
 (repeat' first|refine Gu ?_|(with_reducible first|refine Gn fun b h=>?_|rintro px rfl|refine fun(h:H)=>?_|intro hb)|refine Gs ?_|refine Gt ?_|exact Gz rfl|fail)
 rw [q1.2.1]
 refine Ys fun o=>(?_:Tr _ _ _ _) o;(try simp only[Nr,Nl,Nat.reduceAdd,Nat.reduceMul,Int.reduceToNat])
 refine Yb (Yf rfl ?_)
 (repeat' first|refine Gu ?_|(with_reducible first|refine Gn fun b h=>?_|rintro px rfl|refine fun(h:H)=>?_|intro hb)|refine Gs ?_|refine Gt ?_|exact Gz rfl|fail)
 rw [q1.2.2]
 refine Ys fun o=>(?_:Tr _ _ _ _) o;(try simp only[Nr,Nl,Nat.reduceAdd,Nat.reduceMul,Int.reduceToNat])
 refine Yf (by simp) ?_
 refine Yc (Gg7 c k F1 Y5 A02 A5.c 3 5 (by omega)) ?_;rintro _ h ⟨rfl,o⟩<;>(refine (?_:Tr _ _ _ _) o;(try simp only[Nr,Nl,Nat.reduceAdd,Nat.reduceMul,Int.reduceToNat]))
 rw [r6,hY6]
 (repeat' first|refine Gu ?_|(with_reducible first|refine Gn fun b h=>?_|rintro px rfl|refine fun(h:H)=>?_|intro hb)|refine Gs ?_|refine Gt ?_|exact Gz rfl|fail)
 refine Yf rfl ?_
 refine Yc (Au4 c k F1 Y6 A02 3) ?_;rintro _ h ⟨rfl,o⟩<;>(refine (?_:Tr _ _ _ _) o;(try simp only[Nr,Nl,Nat.reduceAdd,Nat.reduceMul,Int.reduceToNat]))
 rw [Ab6 A6.c (by omega),t6]
 dsimp only
 (repeat' first|refine Gu ?_|(with_reducible first|apply Gx|apply Gy|rintro px rfl|refine fun(h:H)=>?_|intro hb)|refine Gs ?_|refine Gt ?_|exact Gz rfl|fail)
 refine Yn fun b5 h=>?_
 (repeat' first|refine Gu ?_|(with_reducible first|refine Gn fun b h=>?_|apply Gx|apply Gy|rintro px rfl|refine fun(h:H)=>?_|intro hb)|refine Gs ?_|refine Gt ?_|exact Gz rfl|fail)
 refine Yc (Et7 c k F1 Y6 A02 A6.c 0 (by omega)) ?_;rintro _ h ⟨rfl,o⟩<;>(refine (?_:Tr _ _ _ _) o;(try simp only[Nr,Nl,Nat.reduceAdd,Nat.reduceMul,Int.reduceToNat]))
 rw [r7,hY7]
 (repeat' first|refine Gu ?_|(with_reducible first|apply Gx|apply Gy|rintro px rfl|refine fun(h:H)=>?_|intro hb)|refine Gs ?_|refine Gt ?_|exact Gz rfl|fail)
 refine Yn fun b6 h=>?_
 (repeat' first|refine Gu ?_|(with_reducible first|refine Gn fun b h=>?_|rintro px rfl|refine fun(h:H)=>?_|intro hb)|refine Gs ?_|refine Gt ?_|exact Gz rfl|fail)
 rw [q6]
 refine Yb (Yt rfl ?_)
 (repeat' first|refine Gu ?_|(with_reducible first|refine Gn fun b h=>?_|rintro px rfl|refine fun(h:H)=>?_|intro hb)|refine Gs ?_|refine Gt ?_|exact Gz rfl|fail)
 rw [H89 code]
 refine Ys fun o=>(?_:Tr _ _ _ _) o;(try simp only[Nr,Nl,Nat.reduceAdd,Nat.reduceMul,Int.reduceToNat])
 refine Yb (Yt (by simp) ?_)
 refine Yc (Et7 c k F1 Y7 A02 A7.c 0 (by omega)) ?_;rintro _ h ⟨rfl,o⟩<;>(refine (?_:Tr _ _ _ _) o;(try simp only[Nr,Nl,Nat.reduceAdd,Nat.reduceMul,Int.reduceToNat]))
 rw [r8]
 (repeat' first|refine Gu ?_|(with_reducible first|refine Gn fun b h=>?_|rintro px rfl|refine fun(h:H)=>?_|intro hb)|refine Gs ?_|refine Gt ?_|exact Gz rfl|fail)
 refine Ys fun o=>(?_:Tr _ _ _ _) o;(try simp only[Nr,Nl,Nat.reduceAdd,Nat.reduceMul,Int.reduceToNat])
 refine Yb (Yt rfl ?_)
 refine Yc (Hn6) ?_;rintro _ h ⟨rfl,o⟩<;>(refine (?_:Tr _ _ _ _) o;(try simp only[Nr,Nl,Nat.reduceAdd,Nat.reduceMul,Int.reduceToNat]))
 (repeat' first|refine Gu ?_|(with_reducible first|refine Gn fun b h=>?_|rintro px rfl|refine fun(h:H)=>?_|intro hb)|refine Gs ?_|refine Gt ?_|exact Gz rfl|fail)
 refine Ys fun o=>(?_:Tr _ _ _ _) o;(try simp only[Nr,Nl,Nat.reduceAdd,Nat.reduceMul,Int.reduceToNat])
 refine Ys fun o=>?_
 refine ⟨rfl,?_⟩
 exact o.tail.tail.tail.tail.tail.tail.tail.tail
end Go.EQ

set_option maxRecDepth 100000
namespace Go.EQ
open Go Go.NN Go.Proofs Go.ChangeShapes Go.WideShapes Go.RowKit
theorem Ia3:∀ f,(cutsOf f).globs=0:=Ej6 H50 (by kernel_rfl)
theorem H63:∀ f,(cutsOf f).globs≤PR.globals.size:=fun f=>by rw [Ia3 f];exact Nat.zero_le _
theorem Ia8:PR.follows .mixedOrders=true:=by kernel_rfl
theorem Ib4:laidOutB PR=true:=by kernel_rfl
theorem Ig0:ownKnob PR.godebug=none:=by kernel_rfl
end Go.EQ

set_option maxRecDepth 100000
namespace Go.EQ
open Go Go.NN Go.Proofs Go.Proofs.YthhmplobccgeiaaGreat Go.ChangeShapes Go.WideShapes Go.RowKit
theorem H68 {H:Type} {enc:TypeId × Value→H} {W:World} {v0 v1:Value} {d0 d1:DataW H} {p0 p1:List MemPlace} {b0:Nat} (k0:Value.okWide PR W .any b0 D6 v0) (k1:Value.okWide PR W .any b0 D6 v1)
  (h0:DataW.Trod enc PR W 0 (fun _=>true) true D6 v0 d0 p0) (h1:DataW.Trod enc PR W 0 (fun _=>true) true D6 v1 d1 p1) :
  Calls PR P3 #[v0,v1] W fun e W'=>e=.returned (.bool true)∧Below W.heap.size W W':=by
 obtain ⟨x,_,i0⟩:=Am2.argInt H57 k0 h0
 obtain ⟨y,_,i1⟩:=Am2.argInt H57 k1 h1
 refine (i0.app i1).run Ia8 H63 fun vs ps ⟨_,_,_,_,hv,hp,⟨h5,h6⟩,h7,h8⟩ hh r o=>?_
 subst h5;subst h6;subst h7;subst h8;subst hv;subst hp
 obtain ⟨v,h',e,rfl,_⟩:=Gk2 x y hh r o
 exact ⟨h',e⟩
theorem H38 (os:Os) (started:os.Started) (H:Type) (enc:TypeId × Value→H) :
  ReturnsInHanded {} Tryz.checked os P3 .any (Rows.procOrphansSpec.pre6 enc Tryz.prog Tryz.f7 Rows.procOrphansRow.domain false) (Rows.procOrphansSpec.post enc Tryz.prog Tryz.f7 false true false false):=by
 refine returnsInHanded_of_change (C:=Tryz.checked) Ig0 started (by kernel_rfl) Tryz.func7
  (ChangeSpec.witness6 (enc:=enc) (C:=Tryz.checked) false ⟨#[],#[.int .i64 0,.int .i64 0],[]⟩ 8 (by kernel_rfl) (by kernel_rfl) (by kernel_rfl) (by kernel_rfl)) ?_
 intro W base args ds gs before hval hW hcnd _
 have hW':=hW
 obtain ⟨p,q,hA,hV,rfl,hfz,hnd⟩:=hW
 rw [Tryz.params7] at hA hval
 obtain ⟨v0,v1,d0,d1,p0,p1,rfl,rfl,rfl,h0,h1⟩:=trodAll_two hA
 refine (H68 (hval 0 _ v0 rfl rfl) (hval 1 _ v1 rfl rfl) h0 h1).mono fun e W' ⟨he,hb⟩=>?_
 subst he
 refine ⟨_,rfl,Hr3 Ib4 ?_ rfl Ie0 rfl (fun ds gs hl=>?_) hW' hb⟩
 ·rw [Tryz.params7];intro t ht;simp at ht;subst ht;exact ⟨by kernel_rfl,of_decide_eq_true (by kernel_rfl)⟩
 ·replace hl:ds.length=2:=hl
  cases gs with
  | cons _ _=>exact .inr (by simp)
  | nil=>match ds,hl with|[_,_],_=>exact .inl rfl
theorem Ic1:Tryz.pinned.checked.prog.funcNamed Rows.procOrphansRow.func=some P3:=by kernel_rfl
theorem H31:joinedFacts Tryz.pinned.checked.prog P3 Tryz.f7 Rows.procOrphansSpec Rows.procOrphansRow=true:=by kernel_rfl
theorem Ib6:Tryz.f7.isInstance Tryz.pinned.checked.prog Rows.procOrphansRow.origin Rows.procOrphansRow.targs:=of_decide_eq_true (by kernel_rfl)
theorem Ic6:Tryz.f7.isWrapper Tryz.pinned.checked.prog Rows.procOrphansRow.wrapper Rows.procOrphansRow.mainSum:=by unfold Func.isWrapper;first|(rw [if_pos (by decide +kernel)];kernel_rfl)|(rw [if_neg (by decide +kernel)];exact ⟨rfl,rfl⟩)
theorem ProcOrphans_holds:Rows.ProcOrphansSaid :=
 OpenClaim.holds_of_wide P3 Tryz.f7 rfl rfl rfl rfl rfl rfl rfl ⟨rfl,rfl,rfl,rfl,rfl⟩ rfl rfl rfl rfl rfl Ic1 Tryz.func7 H31 Ib6 Ic6
  (fun os started H enc _=>H38 os started H enc)
end Go.EQ
