/- A file that never waits is told so where another one would block; it is so for all who have it; no conditions. -/
import Derived.Test.YtnmdbfbjdhgmlaaGreatMh
import Derived.KernelRfl
import Derived.Test.YtnmdbfbjdhgmlaaGreatRows
set_option linter.all false
set_option maxRecDepth 10000
namespace Go.EQ
open Go Go.NN
theorem E80 (k:Nat) (S:KS) (A:KA):CtP A6 Al7 [P0 k] [pt k (.cells Dw1 false (Eo6 S A))] (P0 A.s):=by
 refine CtP.of Et1 rfl fun h r=>Tr.eq (Es9 ..) ?_;refine Je ?_
 exact Jz
theorem Ie3 (k:Nat) (S:KS) (N:Nat) (ok:KOk N S) (env:Int):Ct A6 Bo0 [P0 k,int env] [E3 k S] fun v own =>
  (A24 S.tabs env≠[]∧∃ c,v=.tuple ⟨[P0 c,int 0]⟩∧own [V7 c k env (A24 S.tabs env) [],E3 k S])∨(A24 S.tabs env=[]∧v=.tuple ⟨[.pointer none,int 1]⟩∧own [E3 k S]):=by
 refine Ct.of Gq9 rfl fun h r=>Tr.eq (Gp8 ..) ?_;refine Je ?_
 refine B7 (E3 k S) fun ⟨m,s,q,rg,ea,ec,ma,mc,ms,sa,sc,ss⟩=>?_;refine Je ?_
 (refine Jb ?_;unhygienic intros)
 refine Yb (Yf rfl ?_)
 refine Tr.pcall (E80 k S ⟨m,s,q,rg,ea,ec,ma,mc,ms,sa,sc,ss⟩) ?_;refine Je ?_;(refine Ja ?_;unhygienic intros)
 try dsimp only
 refine Yc (E94 s S.tabs env ok.space) ?_;rintro _ h ⟨a0,c0,rfl,o⟩<;>refine Jh o ?_
 (refine Ja ?_;unhygienic intros)
 refine Ys fun o=>(?_:Tr _ _ _ _) o;refine Je ?_
 by_cases hz:A24 S.tabs env=[]
 ·refine Yt (by simp [hz]) ?_
  refine B0 (E3 k S) ⟨m,s,q,rg,ea,ec,ma,mc,ms,sa,sc,ss⟩ ?_;refine Je ?_
  refine Ys fun o=>?_
  exact .inr ⟨hz,rfl,o.sub⟩
 ·refine Yf ?_ ?_
  ·rw [beq_eq_false_iff_ne]
   intro h0
   exact hz (List.eq_nil_of_length_eq_zero (by omega))
  refine Tr.pcall (E80 k S ⟨m,s,q,rg,ea,ec,ma,mc,ms,sa,sc,ss⟩) ?_;refine Je ?_;(refine Ja ?_;unhygienic intros)
  try dsimp only
  refine Yc (E94 s S.tabs env ok.space) ?_;rintro _ h ⟨a1,c1,rfl,o⟩<;>refine Jh o ?_
  (refine Jc ?_;unhygienic intros)
  refine Yn fun mb h=>?_
  refine Yn fun c h=>?_
  refine B0 (E3 k S) ⟨m,s,q,rg,ea,ec,ma,mc,ms,sa,sc,ss⟩ ?_;refine Je ?_
  refine E5 (V7 c k env (A24 S.tabs env) []) (a1,c1,mb) [1,2,1] rfl ?_;refine Je ?_
  refine Ys fun o=>?_
  exact .inl ⟨hz,c,rfl,o.sub⟩
def A74:PlanS:=⟨[false,false],[(0,1),(1,0)],5⟩
theorem H69:Ct A6 Bu4 [] [] fun v own=>∃ A,v=.agg ⟨Ep7 A74 A⟩∧own (De3 A74 A):=by
 refine Ct.of Gs9 rfl fun h r=>Tr.eq (Gy1 ..) ?_;refine Je ?_
 (refine Jc ?_;unhygienic intros;rename H=>h)
 refine Yn fun b h=>?_
 refine Yn fun b1 h=>?_
 refine Yn fun b2 h=>?_
 (refine Ja ?_;unhygienic intros;rename H=>h)
 refine W6 0 rfl 2 2 rfl (by omega) ?_
 refine W6 1 rfl 1 2 rfl (by omega) ?_
 refine Je ?_
 refine Ys fun o=>?_
 exact ⟨⟨some ⟨b1,0,none⟩,2,some ⟨b2,0,none⟩,2⟩,rfl,(show Own h (slC false Bu5 2 (some ⟨b2,0,none⟩) A74.brs.length 2 (A74.brs.flatMap brL)::slC false E99 1 (some ⟨b1,0,none⟩) A74.bad.length 2 (A74.bad.map Value.bool)::_) from o).sub⟩
def Ag4:BootS:=Ef1 A74
theorem G22:Bm0 Ag4=true:=by kernel_rfl
theorem Ex3:Small Ag4:=by
 have e:Ag4=⟨[20,20],[0,0,0,0,0,0,0,0,0,1,1,1,1,1,1,1,1,1],[[0],[1]],5,[⟨0,0,0,492,[0]⟩,⟨1,0,0,492,[1]⟩,⟨0,8,0,40,[0,1]⟩,⟨1,9,0,40,[1,0]⟩]⟩:=by kernel_rfl
 rw [e]
 exact ⟨by simp [A8],by simp [A8],by simp [A8]⟩
theorem Br1:Ag4=⟨[20,20],[0,0,0,0,0,0,0,0,0,1,1,1,1,1,1,1,1,1],[[0],[1]],5,[⟨0,0,0,492,[0]⟩,⟨1,0,0,492,[1]⟩,⟨0,8,0,40,[0,1]⟩,⟨1,9,0,40,[1,0]⟩]⟩:=by kernel_rfl
theorem Id6:RBoot Ag4 (Ai2 Ag4.frames):=by
 rw [Br1]
 refine ⟨by simp,by simp,by simp,fun x hx=>?_,fun x hx=>?_⟩
 ·simp only [List.mem_cons,List.not_mem_nil,or_false] at hx
  rcases hx with rfl|rfl|rfl|rfl<;>simp [A8]
 ·simp only [List.mem_cons,List.not_mem_nil,or_false] at hx
  rcases hx with rfl|rfl|rfl|rfl<;>simp [Ai2]
def S00:KS:=Dx1 Ag4
theorem G25:KOk 0 S00:=Id9 G22 Ex3
def wrS (S:KS) (cap:Int) (b:List UInt8):KS:=(Y7 S 0 ⟨2,cap,0,0,0,0,b⟩).2
def S0:KS:=wrS S00 256 Ab9
theorem Im0:(Y7 S00 0 ⟨2,256,0,0,0,0,Ab9⟩).1.1=0:=by kernel_rfl
theorem H79:A24 S00.tabs 0=[256,257,258]:=by kernel_rfl
def wrR (K:RKS) (cap:Int) (b:List UInt8):RKS:={ K with R:=(Ag8 K.R 0 cap 0 b).2 }
def K0:RKS:=wrR (Db0 Ag4) 256 Ab9
theorem D03:RKOk (Db0 Ag4)∧(Db0 Ag4).B=Ag4:=Ie4 (by rw [Br1];simp) (by rw [Br1];simp)
theorem E65 {K:RKS} (k:RKOk K) (cap:Int) (b:List UInt8):RKOk (wrR K cap b):=Id4 k 0 cap 0 b
theorem H39:Bx8 K0 0≠[]:=by
 have:Bx8 K0 0=[256,257,258]:=by kernel_rfl
 rw [this];simp
theorem Aa8:Ab9.length=492:=by kernel_rfl
theorem Dl0 {l:List HP} {h:H} {α:Type} {Q:α→H→Prop} {x:Option (α × H)} (i:Nat) {b n:Nat} {cs:List Value} (hi:l[i]?=some (pt b (.cells A2 false cs))) (hn:cs.length=n) (t:Tr (l.set i (slC false A2 1 (some (L5 b)) n n cs)) h x Q):Tr l h x Q:=fun o=>by
 refine t (Own.back (h:=h) hi ?_)
 have o1:=o.front hi
 refine Own.slShut (pre:=[]) (post:=[]) (by simpa using o1) ⟨by omega,Nat.le_refl _,by simp,by simp,by simp,by omega,by simp⟩
theorem Ic6 (A:PlA):Ct A6 Bf6 [.agg ⟨Ep7 A74 A⟩] (De3 A74 A) fun v own =>
  ∃ k c w m,v=.tuple ⟨[P0 k,P0 c,P0 w,P0 m]⟩∧own [E3 k S0,V7 c k 0 [256,257,258] [],rkC w K0,rcC m w 0 (Bx8 K0 0) []]:=by
 have hB:Ef1 A74=Ag4:=rfl
 obtain ⟨ba,bc,ra,rc⟩:=A
 refine Ct.of G54 rfl fun h r=>Tr.eq (Gz6 ..) ?_;refine Je ?_
 refine Yn fun b0 h=>?_
 (refine Ja ?_;unhygienic intros)
 refine Yc (Ic4 A74 ⟨ba,bc,ra,rc⟩ (by simp [A74]) (by simp [A74])) ?_;rintro _ h ⟨A,kA,rfl,o⟩<;>refine Jh o ?_
 rw [hB] at kA ⊢
 obtain ⟨fa,fc,ea,ec,sa,sc,ss,ha,hc,hs⟩:=A
 (refine Jc ?_;unhygienic intros)
 refine Yn fun b1 h=>?_
 (refine Ja ?_;unhygienic intros)
 have J:=Ig9 false Ag4 ⟨fa,fc,ea,ec,sa,sc,ss,ha,hc,hs⟩ kA Ex3
 simp only [G22,if_true] at J
 refine Yc (J) ?_;rintro _ h ⟨k,rfl,o⟩<;>refine Jh o ?_
 (refine Jb ?_;unhygienic intros)
 refine Yb (Yf rfl ?_)
 refine Ys fun o=>(?_:Tr _ _ _ _) o;refine Je ?_
 refine Yf rfl ?_
 (refine Ja ?_;unhygienic intros)
 refine Yc (G73 Ag4 ⟨fa,fc,ea,ec,sa,sc,ss,ha,hc,hs⟩ kA (by rw [Br1];simp) Id6) ?_;rintro _ h ⟨w,rfl,o⟩<;>refine Jh o ?_
 (refine Ja ?_;unhygienic intros)
 refine Yc (Ie3 k (Dx1 Ag4) 0 G25 0) ?_
 rintro v h (⟨hz,c,rfl,o⟩|⟨hz,rfl,o⟩)
 case inr=>exact absurd hz (by rw [show Dx1 Ag4=S00 from rfl,H79];simp)
 rw [show Dx1 Ag4=S00 from rfl,H79] at o
 refine (?_:Tr _ _ _ _) o
 refine Je ?_
 (refine Jb ?_;unhygienic intros)
 refine Yb (Yf rfl ?_)
 refine Ys fun o=>(?_:Tr _ _ _ _) o;refine Je ?_
 refine Yf rfl ?_
 refine Yc (Gj4) ?_;rintro _ h ⟨rfl,o⟩<;>refine Jh o ?_
 (refine Jc ?_;unhygienic intros)
 refine Tr.ck (by rw [A47,Aa8];simp [A8]) ?_
 rw [A47,Aa8]
 refine Yn fun b2 h=>?_
 refine Dl0 (n:=492) 0 rfl (by rw [S8,show (bs Ab9).data.toList=Ab9 from rfl,Aa8]) ?_
 refine Je ?_
 have J2:=Dz6 k S00 0 G25 (by omega) 0 ⟨2,256,0,0,0,0,Ab9⟩ (some (L5 b2)) 492 false (show ((2:Int)≠5) by decide)
 simp only [Aa8] at J2
 refine Bq3 J2 [2,0] rfl ?_
 rintro _ h ⟨y,d,rfl,o⟩
 rw [Im0]
 rw [show (Y7 S00 0 ⟨2,256,0,0,0,0,Ab9⟩).2=S0 from rfl] at o
 refine (?_:Tr _ _ _ _) o
 refine Je ?_
 (refine Jc ?_;unhygienic intros)
 refine Yf rfl ?_
 refine Tr.ck (by simp [A8]) ?_
 refine Yn fun b3 h=>?_
 refine Dl0 (n:=492) 0 rfl (by rw [S8,Aa8]) ?_
 refine Je ?_
 have J3:=Eq9 w (Db0 Ag4) D03.1 0 (by rw [D03.2,Br1];simp) ⟨2,256,0,0,0,0,Ab9⟩ rfl (by rw [Aa8];simp [A8]) (slC false A2 1 (some (L5 b3)) Ab9.length 492 (A0 Ab9)) (some (L5 b3)) 492 false
 simp only [Aa8] at J3
 refine Yc J3 ?_
 rintro _ h ⟨rfl,o⟩
 rw [show ({ Db0 Ag4 with R:=(Ag8 (Db0 Ag4).R ((0:Nat):Int) 256 0 Ab9).2 }:RKS)=K0 from rfl] at o
 refine (?_:Tr _ _ _ _) o
 refine Je ?_
 (refine Ja ?_;unhygienic intros)
 refine Yc (Ge0 w K0 (E65 D03.1 256 Ab9) 0 (by show (0:Nat)<(Db0 Ag4).B.envs.length;rw [D03.2,Br1];simp)) ?_
 rintro v h (⟨_,m,rfl,o⟩|⟨hn,rfl,o⟩)
 case inr=>exact absurd hn H39
 refine (?_:Tr _ _ _ _) o
 refine Je ?_
 (refine Ja ?_;unhygienic intros)
 refine Ys fun o=>?_
 exact ⟨k,c,w,m,rfl,o.sub⟩
def Bu8 (mem:List UInt8) (rg:Rg):List (List UInt8):=rg.map fun p=>slice mem p.1 p.2
theorem Gt9 {mem:List UInt8} {rg:Rg} {j lo n:Nat} (h:rg[j]?=some (lo,n)):(Bu8 mem rg)[j]?=some (slice mem lo n):=by unfold Bu8;rw [List.getElem?_map,h];rfl
theorem Gz9 {mem:List UInt8} {rg:Rg} (h:∀ (j lo n:Nat),rg[j]?=some (lo,n)→lo+n≤mem.length):Fit mem.length rg (Bu8 mem rg):=⟨by simp [Bu8],fun j lo n hj=>⟨h j lo n hj,slice mem lo n,Gt9 hj,Gn1 (h j lo n hj)⟩⟩
theorem Hz9 {mem:List UInt8} {rg:Rg} (k:RgOk rg) (h:∀ (j lo n:Nat),rg[j]?=some (lo,n)→lo+n≤mem.length):Ay5 mem rg (Bu8 mem rg)=mem:=by
 have f:=Gz9 h
 refine List.ext_getElem? fun i=>?_
 by_cases ho:∃ (j lo n:Nat),rg[j]?=some (lo,n)∧lo≤i∧i<lo+n
 ·obtain ⟨j,lo,n,hj,h1,h2⟩:=ho
  obtain ⟨i',rfl⟩:∃ i',i=lo+i':=⟨i-lo,by omega⟩
  rw [B45 f k j lo n _ hj (Gt9 hj) i' (by omega),Bt0,if_pos (by omega)]
 ·exact Dl3 f i fun j lo n hj=>by
   by_cases hh:lo≤i∧i<lo+n
   ·exact absurd ⟨j,lo,n,hj,hh.1,hh.2⟩ ho
   ·omega
theorem FrOk.room {F:Fr} {j lo n:Nat} (f:Fit F.S.mem.length F.rg (Bu8 F.S.mem F.rg)) (h:F.rg[j]?=some (lo,n)):lo+n≤F.S.mem.length:=(f.each j lo n h).1
theorem Fr.at_cut {F:Fr} (k:FrOk F) (h:∀ (j lo n:Nat),F.rg[j]?=some (lo,n)→lo+n≤F.S.mem.length):F.at (Bu8 F.S.mem F.rg)=F.S:=by
 unfold Fr.at;rw [Hz9 k.dj h];rfl
theorem Own.cmTake {r:List HP} {h:H} (c k:Nat) (F:Fr) (bad:List RecS) (ok:FrOk F) (hr:∀ (j lo n:Nat),F.rg[j]?=some (lo,n)→lo+n≤F.S.mem.length) (o1:Own h (E3 k F.S::V7 c k F.env F.caps bad::r)):Own h (cmC c k F ⟨Bu8 F.S.mem F.rg,bad⟩::r):=by
 refine Own.inex (f:=fun u:Unit=>sl (cmF c k F ⟨Bu8 F.S.mem F.rg,bad⟩)) () (Own.group (l:=cmF c k F ⟨Bu8 F.S.mem F.rg,bad⟩) ?_)
 show Own h (E3 k (F.at (Bu8 F.S.mem F.rg))::V7 c k F.env F.caps bad::pu _::r)
 rw [Fr.at_cut ok hr]
 have o2:=Own.inpure (show Fit F.S.mem.length F.rg (Bu8 F.S.mem F.rg) from Gz9 hr) o1
 exact o2.picks [1,1,0] rfl
theorem Ih6 {l r:List HP} {h:H} {α:Type} {Q:α→H→Prop} {x:Option (α × H)} (c k:Nat) (F:Fr) (X:CX) [tk:Take (cmC c k F X) l r]
  (t:Fit F.S.mem.length F.rg X.m→Tr (E3 k (F.at X.m)::V7 c k F.env F.caps X.bad::r) h x Q):Tr l h x Q:=fun o=>by
 have o1:Own h (cmC c k F X::r):=o.perm tk.pm
 obtain ⟨u,o2⟩:=Own.ex (f:=fun u:Unit=>sl (cmF c k F X)) o1
 have o3:Own h (E3 k (F.at X.m)::V7 c k F.env F.caps X.bad::pu (Fit F.S.mem.length F.rg X.m)::r):=Own.join o2
 have f:=(o3.front (i:=2) rfl).pure
 exact t f (o3.front (i:=2) rfl).tail
theorem Hn2 {S:KS} {env cap obj:Int} {lo n:Nat} {e1 e2:Int} (hg:Bo9 S.tabs env cap=some ⟨obj,3,0,(n:Int),e1,e2⟩) (h0:0≤obj) (hr:S.regs[obj.toNat]?=some ((lo:Int),(n:Int))) (hl:lo+n≤65536) :
  ∀ (a m:Nat) (right:Int),right=1∨right=2→a+m≤n→O9 S.tabs S.regs env cap right a m=(((lo+a:Nat):Int),0):=by
 intro a m right hri ha
 have hlt:=(List.getElem?_eq_some_iff.1 hr).1
 unfold O9
 rw [hg]
 have b1:(I4 .i64 3 1==0)=false:=by kernel_rfl
 have b2:(I4 .i64 3 2==0)=false:=by kernel_rfl
 have hb:¬ ((I4 .i64 3 right==0)=true):=by rcases hri with rfl|rfl<;>simp [b1,b2]
 simp only
 have h2:(decide ((a:Int)<0) || decide ((m:Int)<0) || decide ((a:Int)>(n:Int)) || decide ((m:Int)>IntKind.wrap .i64 ((n:Int)-a)) || decide (obj<0) || decide (obj≥S.regs.length))=false:=by
  simp only [Bool.or_eq_false_iff,decide_eq_false_iff_not,A7];omega
 have h3:(decide (IntKind.wrap .i64 (0+(a:Int))>(n:Int)) || decide ((m:Int)>IntKind.wrap .i64 (IntKind.wrap .i64 ((n:Int)-0)-a)))=false:=by
  simp only [Bool.or_eq_false_iff,decide_eq_false_iff_not,A7];omega
 have h4:IntKind.wrap .i64 (IntKind.wrap .i64 ((lo:Int)+0)+a)=((lo+a:Nat):Int):=by simp only [A7];omega
 rw [if_neg hb]
 simp only [h2,hr,h3,h4,Bool.false_eq_true,if_false]
structure Like (S:KS):Prop where
 ok:KOk 0 S
 tabs:S.tabs=S00.tabs
 regs:S.regs=S00.regs
 envs:S.envs=S00.envs
 mem:S.mem.length=2560
theorem D25 {S:KS} (k:Like S) {m:List UInt8} (h:m.length=2560):Like (Bm6 S m) :=
 ⟨⟨k.ok.envs,k.ok.tabs,k.ok.space,k.ok.quota,by show m.length≤65536;omega,k.ok.regs,k.ok.may,k.ok.mayl,k.ok.nsect,k.ok.sects,k.ok.now⟩,k.tabs,k.regs,k.envs,h⟩
theorem Ij2:Like S00:=⟨G25,rfl,rfl,rfl,by kernel_rfl⟩
theorem Ic7 (S:KS) (k:Like S) (cap:Int) (b:List UInt8):Like (wrS S cap b):=by
 unfold wrS Y7
 split
 ·exact k
 ·exact D25 k (by rw [Hm1];exact k.mem)
theorem Ds1:Like S0:=Ic7 S00 Ij2 256 Ab9
def rgP (s:Nat):Rg:=[(1280*s,492),(512,40),(1856,40)]
def frP (S:KS) (s:Nat) (env:Int):Fr:=⟨S,0,env,[256,257,258],rgP s⟩
theorem Gt8:S00.regs=[(0,492),(1280,492),(512,40),(1856,40)]:=by kernel_rfl
theorem Ii4:S00.envs.length=18:=by kernel_rfl
structure EnvP (s:Nat) (env:Int):Prop where
 hs:s<2
 he:0≤env∧env<18
 a:Bo9 S00.tabs env 256=some ⟨s,3,0,492,0,0⟩
 b:Bo9 S00.tabs env 257=some ⟨2,3,0,40,0,0⟩
 c:Bo9 S00.tabs env 258=some ⟨3,3,0,40,0,0⟩
theorem Gx7:EnvP 0 0:=⟨by omega,by omega,by kernel_rfl,by kernel_rfl,by kernel_rfl⟩
theorem D02 {s j lo n:Nat} (h:(rgP s)[j]?=some (lo,n)):(j=0∧lo=1280*s∧n=492)∨(j=1∧lo=512∧n=40)∨(j=2∧lo=1856∧n=40):=by
 unfold rgP at h
 match j,h with
 | 0,h=>simp at h;omega
 | 1,h=>simp at h;omega
 | 2,h=>simp at h;omega
 | j+3,h=>simp at h
theorem D69 {S:KS} (k:Like S) {s:Nat} (hs:s<2) (env:Int):∀ (j lo n:Nat),(frP S s env).rg[j]?=some (lo,n)→lo+n≤(frP S s env).S.mem.length:=by
 intro j lo n h
 have hm:=k.mem
 have:=D02 h
 show lo+n≤S.mem.length
 omega
theorem Gz0 {S:KS} (k:Like S) {s:Nat} {env:Int} (e:EnvP s env):FrOk (frP S s env):=by
 have hs:=e.hs;have he:=e.he
 refine ⟨k.ok,by simp [frP],by simp [frP],by simp [frP],by simp [frP,rgP],?_,?_,?_,⟨1280*s,rfl⟩,?_⟩
 ·show ¬ (env<0∨env≥(S.envs.length:Int))
  rw [k.envs,Ii4];omega
 ·intro j cap lo n hc hr
  show ∀ (a m:Nat) (right:Int),right=1∨right=2→a+m≤n→O9 S.tabs S.regs env cap right a m=_
  have hg:=D02 hr
  rcases hg with ⟨rfl,rfl,rfl⟩|⟨rfl,rfl,rfl⟩|⟨rfl,rfl,rfl⟩
  ·cases hc
   refine Hn2 (obj:=s) (e1:=0) (e2:=0) (by rw [k.tabs];exact e.a) (by omega) ?_ (by omega)
   rw [k.regs,Gt8,Int.toNat_natCast]
   match s,hs with
   | 0,_=>rfl
   | 1,_=>rfl
  ·cases hc
   exact Hn2 (obj:=2) (e1:=0) (e2:=0) (by rw [k.tabs];exact e.b) (by omega) (by rw [k.regs,Gt8];rfl) (by omega)
  ·cases hc
   exact Hn2 (obj:=3) (e1:=0) (e2:=0) (by rw [k.tabs];exact e.c) (by omega) (by rw [k.regs,Gt8];rfl) (by omega)
 ·intro i j lo n lo' n' hij hi hj
  have h1:=D02 hi;have h2:=D02 hj
  omega
 ·intro j lo n h0 h
  have:=D02 h;omega
abbrev F0:Fr:=frP S0 0 0
def X0:CX:=⟨Bu8 S0.mem (rgP 0),[]⟩
theorem H88:FrOk F0:=Gz0 Ds1 Gx7
theorem H61 (A:PlA):Ct A6 Bf6 [.agg ⟨Ep7 A74 A⟩] (De3 A74 A) fun v own =>
  ∃ k c w m,v=.tuple ⟨[P0 k,P0 c,P0 w,P0 m]⟩∧own [cmC c k F0 X0,rkC w K0,rcC m w 0 (Bx8 K0 0) []]:=by
 intro h r o
 obtain ⟨v,h',e,k,c,w,m,hv,o2⟩:=Ic6 A h r o
 refine ⟨v,h',e,k,c,w,m,hv,?_⟩
 exact Own.cmTake c k F0 [] H88 (D69 Ds1 (by omega) 0) o2
theorem Hj4 {y m:Int} (h:0≤y):Int.tmod y m=y%m:=Int.tmod_eq_emod_of_nonneg h
theorem Aa6 {x:Int} (h:0≤x∧x<256):((b8 x).toNat:Int)=x:=by rw [← Bf0,Dg1];omega
theorem G57 {p:PipeS} (h:okP p=true):Q0 (I3 p)=(p,1):=by
 have hk:=h
 simp only [okP,Bool.and_eq_true,decide_eq_true_eq] at h
 have e:Bb5 (I3 p)=p:=by
  obtain ⟨a,b,c,d,l,hl⟩:=p
  simp only at h
  have h1:=Aa6 (x:=a) (by omega);have h2:=Aa6 (x:=b) (by omega);have h3:=Aa6 (x:=c) (by omega);have h4:=Aa6 (x:=d) (by omega)
  simp [Bb5,I3,Ag3,D74 hl]
  exact ⟨h1,h2,h3,h4⟩
 have hz:(I3 p).all (·==0)=false:=by simp [I3,Ag3]
 unfold Q0 isP
 rw [hz,e,hk]
 simp
theorem E14 {l b:List UInt8} {a c n:Nat} (h:a+b.length≤l.length) (hd:c+n≤a∨a+b.length≤c):slice (L1 l a b) c n=slice l c n:=by
 refine List.ext_getElem? fun i=>?_
 rw [Bt0,Bt0]
 split
 ·rw [Bi9 h,if_neg (by omega)]
 ·rfl
theorem Ga9 {l b:List UInt8} {a:Nat} (h:a+b.length≤l.length):slice (L1 l a b) a b.length=b:=by
 refine List.ext_getElem? fun i=>?_
 rw [Bt0]
 split
 ·rw [Bi9 h,if_pos (by omega)];congr 1;omega
 ·rw [List.getElem?_eq_none (by omega)]
abbrev H83:List Int:=[256,257,258]
structure InS (p:ProcS):Prop where
 a:0≤p.pending∧p.pending≤65535
 b:0≤p.mask∧p.mask≤65535
 c:0≤p.ignored∧p.ignored≤65535
 d:0≤p.caught∧p.caught≤65535
theorem Gv6 {p:ProcS} (h:okS p=true) (r:InS p):Y4 (Au0 p)=(p,1):=by
 have hk:=h
 obtain ⟨ra,rb,rc,rd⟩:=r
 have e:Bb4 (Au0 p)=p:=by
  obtain ⟨st,pa,gr,co,pe,ma,ig,ca,fds,hl⟩:=p
  simp only at ra rb rc rd
  unfold okS at h
  simp only [Bool.and_eq_true,Bool.not_eq_true',Bool.or_eq_false_iff,decide_eq_false_iff_not,List.any_eq_false] at h
  match fds,hl with
  | [f0,f1,f2,f3,f4,f5,f6,f7],hl =>
   have hf:=h.2.2.1
   simp at hf
   have two_b:∀ n:Int,0≤n∧n≤65535→((hi2 n).toNat:Int)*256+((lo2 n).toNat:Int)=n:=fun n hn=>by
    unfold hi2 lo2
    rw [if_pos hn,if_pos hn,Aa6 (by omega),← Bf0,Dg1];omega
   have g0:=h.1
   simp only [Bb4,Au0,D80,two]
   simp
   refine ⟨Aa6 (by omega),Aa6 (by omega),Aa6 (by omega),Aa6 (by omega),two_b _ ra,two_b _ rb,two_b _ rc,two_b _ rd,Aa6 (by omega),Aa6 (by omega),Aa6 (by omega),Aa6 (by omega),Aa6 (by omega),Aa6 (by omega),Aa6 (by omega),Aa6 (by omega)⟩
 have hz:(Au0 p).all (·==0)=false:=by
  simp [Au0,D80]
 unfold Y4 isS
 rw [hz,e,hk]
 simp
def stR (kind:Int) (l:List UInt8):Int:=if kind=1 then (Y4 l).2 else if kind=2 then (Aa3 l).2 else if kind=5 then (Ar0 l).2 else (Q0 l).2
def rd (X:CX) (r:RecS):List UInt8 :=
 match H7 X.m.length r with
 | some (j,a,n)=>slice (X.m.getD j []) a n
 | none=>[]
structure Clean (nc:Nat) (X:CX):Prop where
 len:X.m.length=nc
 pos:0<nc
 bad:X.bad=[]
 own:(X.m.getD 0 []).length=492
 brs:∀ j,0<j→j<nc→(X.m.getD j []).length=40
 ok:∀ r:RecS,1≤r.kind→r.kind≤5→0≤r.index→r.index<U7 nc r.kind→stR r.kind (rd X r)≠2
structure Rin (nc:Nat) (r:RecS):Prop where
 a:1≤r.kind
 b:r.kind≤5
 c:0≤r.index
 d:r.index<U7 nc r.kind
theorem Rin.place {nc:Nat} {r:RecS} (h:Rin nc r) (hn:0<nc):∃ j a,H7 nc r=some (j,a,Ac6 r.kind)∧j<nc∧(j=0→a+Ac6 r.kind≤492)∧(0<j→a=0∧Ac6 r.kind=40):=by
 obtain ⟨h1,h2,h3,h4⟩:=h
 obtain ⟨k,i⟩:=r
 simp only at h1 h2 h3 h4
 have hk:k=1∨k=2∨k=3∨k=4∨k=5:=by omega
 unfold H7 Ac6
 simp only
 rw [if_neg (by omega)]
 rcases hk with rfl|rfl|rfl|rfl|rfl
 ·exact ⟨0,_,rfl,hn,fun _=>by simp [U7] at h4 ⊢;omega,fun h=>by omega⟩
 ·exact ⟨0,_,rfl,hn,fun _=>by simp [U7] at h4 ⊢;omega,fun h=>by omega⟩
 ·simp only [U7] at h4
  by_cases h5:i<4
  ·exact ⟨0,_,by simp [h5];rfl,hn,fun _=>by simp;omega,fun h=>by omega⟩
  ·exact ⟨i.toNat-3,0,by simp [h5],by simp at h4;omega,fun h=>by omega,fun _=>⟨rfl,rfl⟩⟩
 ·exact ⟨0,_,rfl,hn,fun _=>by simp,fun h=>by omega⟩
 ·exact ⟨0,_,rfl,hn,fun _=>by simp,fun h=>by omega⟩
theorem H28 {nc:Nat} {r r':RecS} (h:Rin nc r) (h':Rin nc r') (ne:r≠r') {j a n j' a' n':Nat} (e:H7 nc r=some (j,a,n)) (e':H7 nc r'=some (j',a',n')):j≠j'∨a+n≤a'∨a'+n'≤a:=by
 obtain ⟨h1,h2,h3,h4⟩:=h
 obtain ⟨g1,g2,g3,g4⟩:=h'
 obtain ⟨k,i⟩:=r
 obtain ⟨k',i'⟩:=r'
 simp only at h1 h2 h3 h4 g1 g2 g3 g4
 have ne':k≠k'∨i≠i':=by
  by_cases hk:k=k'
  ·right;intro hi;exact ne (by rw [hk,hi])
  ·exact .inl hk
 unfold H7 at e e'
 simp only at e e'
 rw [if_neg (by omega)] at e e'
 unfold U7 at h4 g4
 have hk:k=1∨k=2∨k=3∨k=4∨k=5:=by omega
 have hk':k'=1∨k'=2∨k'=3∨k'=4∨k'=5:=by omega
 have fin:∀ {x y:Nat × Nat × Nat},some x=some y→x=y:=fun h=>by cases h;rfl
 rcases hk with rfl|rfl|rfl|rfl|rfl<;>rcases hk' with rfl|rfl|rfl|rfl|rfl<;>simp at e e' h4 g4 ne'<;>(try split at e)<;>(try split at e')<;>(try simp at e e')<;>omega
def Br4 (X:CX) (r:RecS) (b:List UInt8):CX :=
 match H7 X.m.length r with
 | some (j,a,_)=>{ X with m:=X.m.set j (L1 (X.m.getD j []) a b) }
 | none=>X
theorem E10 (l:List (List UInt8)) (j j':Nat) (x:List UInt8) (h:j<l.length):(l.set j x).getD j' []=if j'=j then x else l.getD j' []:=by
 rw [List.getD_eq_getElem?_getD,List.getD_eq_getElem?_getD,List.getElem?_set]
 by_cases hj:j=j'
 ·subst hj;simp [h]
 ·rw [if_neg hj,if_neg (fun e=>hj e.symm)]
section
variable {nc:Nat} {X:CX} (c:Clean nc X) {r r':RecS} (h:Rin nc r) (h':Rin nc r')
include c h
theorem Hv7:rdX X r=some (rd X r):=by
 obtain ⟨j,a,e,_⟩:=h.place c.pos
 unfold rdX rd
 rw [c.len,e]
 simp [c.bad]
theorem Bu1 (b:List UInt8):wrX X r b true=(true,Br4 X r b):=by
 obtain ⟨j,a,e,_⟩:=h.place c.pos
 unfold wrX Br4
 rw [c.len,e]
 simp [c.bad]
theorem Ee9 {j a n:Nat} (e:H7 nc r=some (j,a,n)):a+n≤(X.m.getD j []).length∧j<X.m.length∧n=Ac6 r.kind:=by
 obtain ⟨j',a',e',hj,h0,h1⟩:=h.place c.pos
 rw [e] at e';cases e'
 rw [c.len]
 by_cases hz:j=0
 ·subst hz;rw [c.own];exact ⟨h0 rfl,hj,rfl⟩
 ·rw [c.brs j (by omega) hj]
  have:=h1 (by omega)
  exact ⟨by omega,hj,rfl⟩
include h'
theorem Aj5 {b:List UInt8} (hb:b.length=Ac6 r.kind):rd (Br4 X r b) r'=if r'=r then b else rd X r':=by
 obtain ⟨j,a,e,_⟩:=h.place c.pos
 obtain ⟨j',a',e',_⟩:=h'.place c.pos
 have p:=Ee9 c h e
 have p':=Ee9 c h' e'
 have es:Br4 X r b={ X with m:=X.m.set j (L1 (X.m.getD j []) a b) }:=by unfold Br4;rw [c.len,e]
 have el:(Br4 X r b).m.length=nc:=by rw [es];simp [c.len]
 unfold rd
 rw [el,e',c.len,e',es]
 simp only
 rw [E10 _ _ _ _ p.2.1]
 by_cases hr:r'=r
 ·subst hr
  rw [e] at e';cases e'
  rw [if_pos rfl,if_pos rfl]
  have:=Ga9 (l:=X.m.getD j []) (b:=b) (a:=a) (by omega)
  rwa [hb] at this
 ·rw [if_neg hr]
  by_cases hj:j'=j
  ·subst hj
   rw [if_pos rfl]
   have dj:=H28 h' h hr e' e
   exact E14 (by omega) (by omega)
  ·rw [if_neg hj]
end
theorem B79 {nc:Nat} {X:CX} (c:Clean nc X) {r:RecS} (h:Rin nc r) {b:List UInt8} (hb:b.length=Ac6 r.kind) (hs:stR r.kind b≠2):Clean nc (Br4 X r b):=by
 obtain ⟨j,a,e,_⟩:=h.place c.pos
 have p:=Ee9 c h e
 have es:Br4 X r b={ X with m:=X.m.set j (L1 (X.m.getD j []) a b) }:=by unfold Br4;rw [c.len,e]
 refine ⟨by rw [es];simp [c.len],c.pos,by rw [es];exact c.bad,?_,?_,?_⟩
 ·rw [es];simp only
  rw [E10 _ _ _ _ p.2.1]
  split
  ·rename_i h0;subst h0;rw [Ae3 (by omega)];exact c.own
  ·exact c.own
 ·intro i h0 h1
  rw [es];simp only
  rw [E10 _ _ _ _ p.2.1]
  split
  ·rename_i h2;subst h2;rw [Ae3 (by omega)];exact c.brs i h0 h1
  ·exact c.brs i h0 h1
 ·intro r' h1 h2 h3 h4
  rw [Aj5 c h ⟨h1,h2,h3,h4⟩ hb]
  split
  ·rename_i hr;rw [hr];exact hs
  ·exact c.ok r' h1 h2 h3 h4
theorem Bt7 {α:Type} (dec:List UInt8→α × Int) (z:α) {nc:Nat} {X:CX} (c:Clean nc X) {r:RecS} (h:Rin nc r) (hd:(dec (rd X r)).2=stR r.kind (rd X r)):W0 dec z X r=(dec (rd X r),X):=by
 unfold W0
 rw [Hv7 c h]
 simp only
 rw [if_neg (by rw [hd];exact c.ok r h.a h.b h.c h.d)]
abbrev vS (X:CX) (i:Int):ProcS × Int:=Y4 (rd X ⟨1,i⟩)
abbrev vF (X:CX) (i:Int):FileS × Int:=Aa3 (rd X ⟨2,i⟩)
abbrev vP (X:CX) (i:Int):PipeS × Int:=Q0 (rd X ⟨3,i⟩)
theorem Dp0 {nc:Nat} {i:Int} (h:0≤i∧i<8):Rin nc ⟨1,i⟩:=⟨by simp,by simp,h.1,h.2⟩
theorem Bl0 {nc:Nat} {i:Int} (h:0≤i∧i<12):Rin nc ⟨2,i⟩:=⟨by simp,by simp,h.1,h.2⟩
theorem Bg0 {nc:Nat} {i:Int} (h:0≤i∧i<3+nc):Rin nc ⟨3,i⟩:=⟨by simp,by simp,h.1,h.2⟩
theorem Ex1 {nc:Nat} {X:CX} (c:Clean nc X) {i:Int} (h:0≤i∧i<8):D64 X i=(vS X i,X):=Bt7 Y4 .zero c (Dp0 h) rfl
theorem Dv6 {nc:Nat} {X:CX} (c:Clean nc X) {i:Int} (h:0≤i∧i<12):D78 X i=(vF X i,X):=Bt7 Aa3 .zero c (Bl0 h) rfl
theorem Dx5 {nc:Nat} {X:CX} (c:Clean nc X) {i:Int} (h:0≤i∧i<3+nc):D61 X i=(vP X i,X):=Bt7 Q0 .zero c (Bg0 h) rfl
theorem Dd5 {f:CX→Int→CX} {X:CX}:∀ (m:Nat) (i:Int),(∀ j,i≤j→j<i+m→f X j=X)→De9 f m i X=X
 | 0,_,_=>rfl
 | m+1,i,h=>by
  unfold De9
  rw [h i (by omega) (by omega)]
  exact Dd5 m (i+1) fun j h1 h2=>h j (by omega) (by omega)
theorem Ga8 {nc:Nat} {X:CX} (c:Clean nc X):E49 X=X:=by
 have h3:E89 X=X:=by
  unfold E89
  have e1:D51 X=(Q0 (rd X ⟨4,0⟩),X):=Bt7 Q0 .zero c ⟨by simp,by simp,by simp,by simp [U7]⟩ rfl
  have e2:Eg0 X=(Ar0 (rd X ⟨5,0⟩),X):=Bt7 Ar0 0 c ⟨by simp,by simp,by simp,by simp [U7]⟩ rfl
  rw [e1];simp only;rw [e2]
 have hl:=c.len
 unfold E49 lookN Gw0 G44
 rw [Dd5 8 0 (fun j h1 h2=>by rw [Ex1 c (by omega)])]
 rw [Dd5 12 0 (fun j h1 h2=>by rw [Dv6 c (by omega)])]
 rw [Dd5 (3+X.m.length) 0 (fun j h1 h2=>by rw [Dx5 c (by omega)]),h3]
theorem Gw2 {f:FileS} (h:okF f=true):Aa3 (Ah4 f)=(f,1):=by
 have hk:=h
 simp only [okF,Bool.and_eq_true,Bool.or_eq_true,decide_eq_true_eq,beq_iff_eq,bne_iff_ne] at h
 have e:B49 (Ah4 f)=f:=by
  obtain ⟨a,b,c,d⟩:=f
  simp only at h
  have h1:=Aa6 (x:=a) (by omega);have h2:=Aa6 (x:=b) (by omega);have h3:=Aa6 (x:=c) (by omega);have h4:=Aa6 (x:=d) (by omega)
  simp [B49,Ah4,A80]
  exact ⟨h1,h2,h3,h4⟩
 have hz:(Ah4 f).all (·==0)=false:=by simp [Ah4,A80]
 unfold Aa3 isF
 rw [hz,e,hk]
 simp
section
variable {nc:Nat} {X:CX} (c:Clean nc X)
include c
abbrev B50 (X:CX) (i:Int) (p:ProcS):CX:=Br4 X ⟨1,i⟩ (Au0 p)
abbrev Ar3 (X:CX) (i:Int) (f:FileS):CX:=Br4 X ⟨2,i⟩ (Ah4 f)
theorem B43 {i:Int} (h:0≤i∧i<8) {p:ProcS} (ok:okS p=true) (r:InS p) :
  Bq4 X i p=(true,B50 X i p)∧Clean nc (B50 X i p)∧(∀ j:Int,0≤j∧j<8→vS (B50 X i p) j=if j=i then (p,1) else vS X j)∧(∀ j:Int,0≤j∧j<12→vF (B50 X i p) j=vF X j)∧(∀ j:Int,0≤j∧j<3+nc→vP (B50 X i p) j=vP X j):=by
 have hl:(Au0 p).length=Ac6 (1:Int):=by rw [D71];rfl
 refine ⟨by unfold Bq4;rw [ok];exact Bu1 c (Dp0 h) _,B79 c (Dp0 h) hl (by show (Y4 (Au0 p)).2≠2;rw [Gv6 ok r];simp),fun j hj=>?_,fun j hj=>?_,fun j hj=>?_⟩
 ·show Y4 (rd _ _)=_
  rw [Aj5 c (Dp0 h) (Dp0 hj) hl]
  by_cases e:j=i
  ·rw [if_pos (by rw [e]),if_pos e];exact Gv6 ok r
  ·rw [if_neg (by simp [e]),if_neg e]
 ·show Aa3 (rd _ _)=_
  rw [Aj5 c (Dp0 h) (Bl0 hj) hl,if_neg (by simp)]
 ·show Q0 (rd _ _)=_
  rw [Aj5 c (Dp0 h) (Bg0 hj) hl,if_neg (by simp)]
theorem Ah8 {i:Int} (h:0≤i∧i<12) {f:FileS} (ok:okF f=true) :
  Be6 X i f=(true,Ar3 X i f)∧Clean nc (Ar3 X i f)∧(∀ j:Int,0≤j∧j<8→vS (Ar3 X i f) j=vS X j)∧(∀ j:Int,0≤j∧j<12→vF (Ar3 X i f) j=if j=i then (f,1) else vF X j)∧(∀ j:Int,0≤j∧j<3+nc→vP (Ar3 X i f) j=vP X j):=by
 have hl:(Ah4 f).length=Ac6 (2:Int):=by rw [Dn2];rfl
 refine ⟨by unfold Be6;rw [ok];exact Bu1 c (Bl0 h) _,B79 c (Bl0 h) hl (by show (Aa3 (Ah4 f)).2≠2;rw [Gw2 ok];simp),fun j hj=>?_,fun j hj=>?_,fun j hj=>?_⟩
 ·show Y4 (rd _ _)=_
  rw [Aj5 c (Bl0 h) (Dp0 hj) hl,if_neg (by simp)]
 ·show Aa3 (rd _ _)=_
  rw [Aj5 c (Bl0 h) (Bl0 hj) hl]
  by_cases e:j=i
  ·rw [if_pos (by rw [e]),if_pos e];exact Gw2 ok
  ·rw [if_neg (by simp [e]),if_neg e]
 ·show Q0 (rd _ _)=_
  rw [Aj5 c (Bl0 h) (Bg0 hj) hl,if_neg (by simp)]
theorem Ik6 {i:Int} (h:0≤i∧i<8):((vS X i).2=0∧(vS X i).1=.zero)∨((vS X i).2=1∧okS (vS X i).1=true):=by
 have:=c.ok ⟨1,i⟩ (by simp) (by simp) h.1 h.2
 have hk:(vS X i).2≠2:=this
 unfold vS Y4 at hk ⊢
 split
 ·exact .inl ⟨rfl,rfl⟩
 ·split
  ·rename_i h2
   unfold isS at h2
   simp only [Bool.and_eq_true] at h2
   exact .inr ⟨rfl,h2.1⟩
  ·rename_i h1 h2;simp [h1,h2] at hk
theorem H76 {i:Int} (h:0≤i∧i<12):((vF X i).2=0∧(vF X i).1=.zero)∨((vF X i).2=1∧okF (vF X i).1=true):=by
 have:=c.ok ⟨2,i⟩ (by simp) (by simp) h.1 h.2
 have hk:(vF X i).2≠2:=this
 unfold vF Aa3 at hk ⊢
 split
 ·exact .inl ⟨rfl,rfl⟩
 ·split
  ·rename_i h2
   unfold isF at h2
   simp only [Bool.and_eq_true] at h2
   exact .inr ⟨rfl,h2.1⟩
  ·rename_i h1 h2;simp [h1,h2] at hk
end
abbrev H3 (n e:Int) (b:Bool):List Value:=[int n,int e,.slice none 0 0,.bool b]
def U0 (X:CX) (i:Int):ProcS × Int:=if (vS X i).2=1∧(vS X i).1.state=1 then ((vS X i).1,0) else (.zero,105)
theorem Eq2 (b k:Nat) (F:Fr) (X:CX) (ok:FrOk F) {nc:Nat} (c:Clean nc X) (i:Int) (hi:0≤i∧i<8):Ct A6 Ay7 [P0 b,int i] [cmC b k F X] fun v own=>v=.tuple ⟨[.agg ⟨E2 (U0 X i).1⟩,int (U0 X i).2]⟩∧own [cmC b k F X]:=by
 refine Ct.of G85 rfl fun h r=>Tr.eq (Hb8 ..) ?_;refine Je ?_
 (refine Jc ?_;unhygienic intros)
 refine Yn fun b0 h=>?_
 refine Yc (Hf6 b k F X ok) ?_;rintro _ h ⟨rfl,o⟩<;>refine Jh o ?_
 rw [Ga8 c]
 (refine Ja ?_;unhygienic intros)
 refine Yc (G55 b k F X ok i) ?_;rintro _ h ⟨rfl,o⟩<;>refine Jh o ?_
 rw [Ex1 c hi]
 dsimp only
 (refine Jc ?_;unhygienic intros)
 refine Yn fun b1 h=>?_
 (refine Jb ?_;unhygienic intros)
 refine Tr.orG (c:=(vS X i).1.state != 1) (fun hb=>?_) ?_
 ·exact Jz
 unfold U0
 by_cases h1:(vS X i).2=1∧(vS X i).1.state=1
 ·rw [if_pos h1]
  refine Yf (by simp [h1.1,h1.2]) ?_
  (refine Ja ?_;unhygienic intros)
  refine Ys fun o=>?_
  exact ⟨rfl,o.sub⟩
 ·rw [if_neg h1]
  refine Yt (by simp;by_cases h2:(vS X i).2=1<;>simp [h2] at h1 ⊢;exact h1) ?_
  (refine Ja ?_;unhygienic intros)
  refine Ys fun o=>?_
  exact ⟨rfl,o.sub⟩
def Gs5 (X:CX):Nat→Int→Int
 | 0,_=>-1
 | m+1,i=>if (vS X i).2=0 then i else Gs5 X m (i+1)
def H91:List Int→List Int→List Int
 | [],m=>m
 | f::l,m=>H91 l (if f>0 then m.set (f-1).toNat (m.getD (f-1).toNat 0+1) else m)
def Bh5 (n:Int) (m:List Int):Prop:=m.length=12∧∀ x ∈ m,0≤x∧x≤n
theorem Bh5.get {n:Int} {m:List Int} (h:Bh5 n m) {j:Nat} (hj:j<12):0≤m.getD j 0∧m.getD j 0≤n:=by
 have hl:=h.1
 have e:m[j]?=some m[j]:=List.getElem?_eq_getElem (by omega)
 rw [List.getD_eq_getElem?_getD,e]
 exact h.2 _ (List.getElem_mem _)
theorem Bh5.set {n:Int} {m:List Int} (h:Bh5 n m) {j:Nat} (hj:j<12):Bh5 (n+1) (m.set j (m.getD j 0+1)):=by
 refine ⟨by simpa using h.1,fun x hx=>?_⟩
 rcases List.mem_or_eq_of_mem_set hx with h2|rfl
 ·have:=h.2 x h2;omega
 ·have:=h.get hj;omega
theorem Bh5.up {n:Int} {m:List Int} (h:Bh5 n m):Bh5 (n+1) m:=⟨h.1,fun x hx=>by have:=h.2 x hx;omega⟩
def H55 (l:List Int):Prop:=∀ f ∈ l,0≤f∧f≤12
theorem If6 {l:List Int} {i:Nat} (h:i<l.length):(l.map int)[i]?=some (int (l.getD i 0)):=by rw [List.getElem?_map,N5 0 h];rfl
def D16 (X:CX) (more:List Int):List Int→Int
 | []=>0
 | f::l=>if f=0 then D16 X more l else if (vF X (f-1)).2≠1 then 105 else if (vF X (f-1)).1.refs+more.getD (f-1).toNat 0>64 then 123 else D16 X more l
theorem Eq1 {f:FileS} (h:okF f=true):1≤f.refs∧f.refs≤64:=by
 simp only [okF,Bool.and_eq_true,Bool.or_eq_true,decide_eq_true_eq,beq_iff_eq,bne_iff_ne] at h
 omega
abbrev Do7 (f:FileS) (n:Int):FileS:=⟨f.kind,f.pipe,f.refs+n,f.flags⟩
def Hq7 (more:List Int):Nat→Int→CX→CX
 | 0,_,X=>X
 | m+1,j,X=>Hq7 more m (j+1) (if more.getD j.toNat 0=0 then X else Ar3 X j (Do7 (vF X j).1 (more.getD j.toNat 0)))
def H22 (more:List Int) (X:CX) (j:Int):Prop:=∀ i:Int,j≤i→i<12→more.getD i.toNat 0≠0→(vF X i).2=1∧(vF X i).1.refs+more.getD i.toNat 0≤64
theorem D60 {f:FileS} (h:okF f=true) {n:Int} (hn:1≤f.refs+n∧f.refs+n≤64):okF (Do7 f n)=true:=by
 simp only [okF,Bool.and_eq_true,Bool.or_eq_true,decide_eq_true_eq,beq_iff_eq,bne_iff_ne] at h ⊢
 omega
theorem H22.step {nc:Nat} {X:CX} (c:Clean nc X) {more:List Int} (hm:Bh5 8 more) {j:Int} (h0:0≤j∧j<12) (s:H22 more X j) (hz:more.getD j.toNat 0≠0) :
  okF (Do7 (vF X j).1 (more.getD j.toNat 0))=true∧H22 more (Ar3 X j (Do7 (vF X j).1 (more.getD j.toNat 0))) (j+1):=by
 obtain ⟨s1,s2⟩:=s j (by omega) (by omega) hz
 have hg:=hm.get (j:=j.toNat) (by omega)
 have hk:okF (vF X j).1=true:=by
  rcases H76 c h0 with ⟨h1,_⟩|⟨_,h1⟩
  ·omega
  ·exact h1
 have hr:=Eq1 hk
 have k:=D60 hk (n:=more.getD j.toNat 0) (by omega)
 refine ⟨k,fun i h1 h2 hi=>?_⟩
 rw [(Ah8 c h0 k).2.2.2.1 i (by omega),if_neg (by omega)]
 exact s i (by omega) h2 hi
abbrev Ig0:List Int:=[0,0,0,0,0,0,0,0,0,0,0,0]
abbrev Er9 (p:ProcS):List Int:=H91 p.fds Ig0
def Gv7 (X:CX) (p:ProcS):Int × CX:=if D16 X (Er9 p) p.fds=0 then (0,Hq7 (Er9 p) 12 0 X) else (D16 X (Er9 p) p.fds,X)
theorem Hg3 (l:List UInt8) (i:Nat):0≤byI l i∧byI l i<256:=by
 have:=(l.getD i 0).toNat_lt
 unfold byI;omega
theorem Er5 (l:List UInt8) (j:Nat):0≤two l j∧two l j≤65535:=by
 have:=Hg3 l j;have:=Hg3 l (j+1)
 unfold two;omega
theorem Gg5 (l:List UInt8):InS (Y4 l).1:=by
 unfold Y4
 split
 ·exact ⟨by simp,by simp,by simp,by simp⟩
 ·split
  ·exact ⟨Er5 _ _,Er5 _ _,Er5 _ _,Er5 _ _⟩
  ·exact ⟨by simp,by simp,by simp,by simp⟩
theorem Hf0 {p:ProcS} (h:okS p=true):H55 p.fds:=fun f hf=>by
 unfold okS at h
 simp only [Bool.and_eq_true,Bool.not_eq_true',List.any_eq_false] at h
 have:=h.2.2.1 f hf
 simp at this;omega
abbrev He0 (p:ProcS) (i:Int):ProcS:=⟨p.state,i+1,p.group,p.code,0,p.mask,p.ignored,p.caught,p.fds,p.len⟩
def Ik7 (X:CX) (i:Int):List Value × CX :=
 if (U0 X i).2≠0 then (H3 0 (U0 X i).2 false,X)
 else if Gs5 X 8 0<0 then (H3 0 111 false,X)
 else if (Gv7 X (U0 X i).1).1≠0 then (H3 0 (Gv7 X (U0 X i).1).1 false,X)
 else (H3 (Gs5 X 8 0) 0 false,B50 (Gv7 X (U0 X i).1).2 (Gs5 X 8 0) (He0 (U0 X i).1 i))
theorem Br2 {nc:Nat} {X:CX} (c:Clean nc X) {i:Int} (hi:0≤i∧i<8) (h:(U0 X i).2=0):U0 X i=((vS X i).1,0)∧(vS X i).1.state=1∧okS (vS X i).1=true∧(vS X i).2=1:=by
 unfold U0 at h ⊢
 split
 ·rename_i h1
  refine ⟨rfl,h1.2,?_,h1.1⟩
  rcases Ik6 c hi with ⟨h2,_⟩|⟨_,h2⟩
  ·rw [h1.1] at h2;cases h2
  ·exact h2
 ·rename_i h1;rw [if_neg h1] at h;cases h
theorem Eo2 (j:Int) (p:ProcS):(int j::E2 p).length=17:=by simp [Bs8 p,p.len]
instance {j:Int} {p:ProcS}:LenC (int j::E2 p) 17:=⟨Eo2 j p⟩
instance {j:Int} {p:ProcS}:PartC (int j::E2 p) 0 17 (int j::E2 p):=⟨B77 (Eo2 j p)⟩
instance {j:Int} {p:ProcS} {cs:List Value} [k:LenC cs 17]:SetsC cs 0 (int j::E2 p) (int j::E2 p):=⟨Bd9 k.ok (Eo2 j p) (by simp [Value.oneCell])⟩
def p0:ProcS:=⟨1,0,0,0,0,0,0,0,[1,0,0,0,0,0,0,0],rfl⟩
def f0:FileS:=⟨3,0,1,0⟩
def Av0:List UInt8:=L1 (L1 Ab9 0 (Eg1 p0)) 192 (Ah4 f0)
theorem Bz3:Av0.length=492:=by kernel_rfl
theorem Eh3:(Eg1 p0).length=24:=by kernel_rfl
theorem Gi8 (l b:List UInt8) (a:Nat):(A0 l).take a++A0 b++(A0 l).drop (a+(A0 b).length)=A0 (L1 l a b):=by
 rw [S8]
 simp [L1,A0,List.map_take,List.map_drop]
theorem H81 {b:List UInt8} (h:0<b.length):A0 b≠[]:=by
 intro e
 have e2:=congrArg List.length e
 rw [S8] at e2
 have e3:b.length=0:=e2
 omega
theorem G51:Ct A6 A88 [] [] fun v own=>∃ a,v=.slice a 492 492∧own [slC false A2 1 a 492 492 (A0 Av0)]:=by
 refine Ct.of Gp9 rfl fun h r=>Tr.eq (Gp4 ..) ?_;refine Je ?_
 refine Yc (Gj4) ?_;rintro _ h ⟨rfl,o⟩<;>refine Jh o ?_
 (refine Jc ?_;unhygienic intros)
 rw [A47,Aa8]
 refine Tr.ck (by simp [A8]) ?_
 refine Yn fun b0 h=>?_
 refine Dl0 (n:=492) 0 rfl (by rw [S8];exact Aa8) ?_
 refine Je ?_
 refine Yn fun b1 h=>?_
 (refine Ja ?_;unhygienic intros)
 rw [show ([int 1,int 0,int 0,int 0,int 0,int 0,int 0,int 0,int 0,int 0,int 0,int 0,int 0,int 0,int 0,int 0]:List Value).set 8 (int 1)=E2 p0 from rfl]
 (refine Ja ?_;unhygienic intros)
 refine Yc (Ht7 p0) ?_;rintro _ h ⟨rfl,o⟩<;>refine Jh o ?_
 (refine Ja ?_;unhygienic intros)
 rw [show List.take (min (bs (Eg1 p0)).size 492) (bs (Eg1 p0)).data.toList=Eg1 p0 by kernel_rfl]
 rw [show A9 (L5 b0)=(A9 (L5 b0)).add 0 from rfl]
 refine Tr.xPAggS (cs':=A0 (L1 Ab9 0 (Eg1 p0))) ⟨H81 (by rw [Eh3];omega),by rw [S8,S8,Eh3,Aa8];omega,Af3 _,Gi8 _ _ 0⟩ fun h=>?_
 (refine Ja ?_;unhygienic intros)
 refine Yc (Hr4 f0) ?_;rintro _ h ⟨rfl,o⟩<;>refine Jh o ?_
 (refine Ja ?_;unhygienic intros)
 rw [show List.take (min (bs (Ah4 f0)).size (492-192)) (bs (Ah4 f0)).data.toList=Ah4 f0 by kernel_rfl]
 rw [Gf1 (by omega),Ee4]
 refine Tr.xPAggS (cs':=A0 Av0) ⟨H81 (by rw [Dn2];omega),by rw [S8,S8,Ae3 (by rw [Eh3,Aa8];omega),Dn2,Aa8];omega,Af3 _,Gi8 _ _ 192⟩ fun h=>?_
 refine Ys fun o=>?_
 exact ⟨_,rfl,o.sub⟩
theorem Hp2 {S:KS} (kS:Like S) {s:Nat} {env:Int} (e:EnvP s env) {j:Nat} {cap:Int} {lo n:Nat} (hc:H83[j]?=some cap) (hr:(rgP s)[j]?=some (lo,n)) {b:List UInt8} (hb:b.length≤n) :
  Y7 S env ⟨2,cap,0,0,0,0,b⟩=((0,0,[]),Bm6 S (L1 S.mem lo b)):=by
 have F:=Gz0 kS e
 have hroom:lo+n≤S.mem.length:=D69 kS e.hs env j lo n hr
 have hp:=F.pl j cap lo n hc hr 0 b.length 2 (.inr rfl) (by omega)
 have hs:A99 S.mem ((lo+0:Nat):Int) b=some (L1 S.mem lo b):=by
  unfold A99
  rw [if_pos (by omega),Int.toNat_natCast,Nat.add_zero];rfl
 have ew:Aj0 S.tabs S.regs S.mem env cap 0 b=(0,L1 S.mem lo b):=by
  unfold Aj0
  rw [show O9 S.tabs S.regs env cap 2 0 (b.length:Int)=(((lo+0:Nat):Int),0) from hp]
  rw [if_neg (by simp),hs]
 unfold Y7
 rw [if_neg (show ¬ (env<0∨env≥(S.envs.length:Int)) from F.env)]
 unfold kDo
 rw [if_neg (show ¬ ((2:Int)=1) by decide),if_pos rfl,ew]
def q1:PipeS:=⟨0,0,1,1,List.replicate 32 0,rfl⟩
def S1:KS:=Bm6 S0 (L1 S0.mem 0 Av0)
def S2:KS:=Bm6 S1 (L1 S1.mem 512 (I3 q1))
def S3:KS:=Bm6 S2 (L1 S2.mem 1856 (I3 q1))
theorem Av5:(I3 q1).length=40:=Ax8 q1.len
theorem E91:Like S1:=D25 Ds1 (by rw [Ae3 (by rw [Bz3,Ds1.mem];omega)];exact Ds1.mem)
theorem E77:Like S2:=D25 E91 (by rw [Ae3 (by rw [Av5,E91.mem];omega)];exact E91.mem)
theorem H87:Like S3:=D25 E77 (by rw [Ae3 (by rw [Av5,E77.mem];omega)];exact E77.mem)
theorem Il5:Y7 S0 0 ⟨2,256,0,0,0,0,Av0⟩=((0,0,[]),S1):=Hp2 Ds1 Gx7 (j:=0) rfl rfl (by rw [Bz3];omega)
theorem Ik8:Y7 S1 0 ⟨2,257,0,0,0,0,I3 q1⟩=((0,0,[]),S2):=Hp2 E91 Gx7 (j:=1) rfl rfl (by rw [Av5];omega)
theorem Il9:Y7 S2 0 ⟨2,258,0,0,0,0,I3 q1⟩=((0,0,[]),S3):=Hp2 E77 Gx7 (j:=2) rfl rfl (by rw [Av5];omega)
abbrev F1:Fr:=frP S3 0 0
def X1:CX:=⟨Bu8 S3.mem (rgP 0),[]⟩
theorem Ak1:FrOk F1:=Gz0 H87 Gx7
theorem Ey3:Clean 3 X1:=by
 refine ⟨by kernel_rfl,by omega,rfl,by kernel_rfl,fun j h0 h1=>?_,fun r h1 h2 h3 h4=>?_⟩
 ·have:j=1∨j=2:=by omega
  rcases this with rfl|rfl
  ·clear h0 h1;show (_:Nat)=_;kernel_rfl
  ·clear h0 h1;show (_:Nat)=_;kernel_rfl
 ·have all:((List.range 8).all (fun i=>decide (stR 1 (rd X1 ⟨1,(i:Int)⟩)≠2)) && ((List.range 12).all (fun i=>decide (stR 2 (rd X1 ⟨2,(i:Int)⟩)≠2)) && ((List.range 6).all (fun i=>decide (stR 3 (rd X1 ⟨3,(i:Int)⟩)≠2)) && (decide (stR 4 (rd X1 ⟨4,0⟩)≠2) && decide (stR 5 (rd X1 ⟨5,0⟩)≠2)))))=true:=by kernel_rfl
  simp only [Bool.and_eq_true,List.all_eq_true,List.mem_range,decide_eq_true_eq] at all
  obtain ⟨a1,a2,a3,a4,a5⟩:=all
  obtain ⟨k,i⟩:=r
  simp only at h1 h2 h3 h4 ⊢
  obtain ⟨n,rfl⟩:∃ n:Nat,i=n:=⟨i.toNat,by omega⟩
  have hk:k=1∨k=2∨k=3∨k=4∨k=5:=by omega
  rcases hk with rfl|rfl|rfl|rfl|rfl<;>simp [U7] at h4
  ·exact a1 n (by omega)
  ·exact a2 n (by omega)
  ·exact a3 n (by omega)
  ·obtain rfl:n=0:=by omega
   exact a4
  ·obtain rfl:n=0:=by omega
   exact a5
theorem Hm3 (k w m c:Nat) (b1:Nat) (cs:List Value) (hcs:cs.length=7) (K:RKS) (hK:RKOk K) (hB:0<K.B.envs.length) :
  CtJ I8 Ae8 Bd1 [(6,P0 k),(7,P0 c),(8,P0 w),(9,P0 m),(10,P0 b1),(11,.string (bs (I3 q1))),(12,int 1)] [pt b1 (.cells Aw7 false cs),E3 k S1,rkC w K] fun v own =>
   v=.tuple ⟨[P0 k,P0 c,P0 w,P0 m]⟩∧∃ K',own [E3 k S3,rkC w K']:=by
 have hset:∀ xs:List Value,xs.length=7→∀ vs:List Value,vs.length=7→vs.all Value.oneCell=true→D79 xs 0 vs=some vs:=fun xs h vs h1 h2=>Bd9 h h1 h2
 refine CtJ.of Bz8 fun h r=>Tr.eq (Bw0 ..) ?_;refine Je ?_
 refine Yt rfl ?_
 rw [A47,Av5]
 refine Tr.ck (by simp [A8]) ?_
 refine Yn fun b2 h=>?_
 refine Dl0 (n:=40) 0 rfl (by rw [S8];exact Av5) ?_
 refine Je ?_
 rw [show IntKind.wrap .i64 (256+1)=257 by decide]
 refine Gs (fun h=>?_) (by exact hset cs hcs _ rfl rfl)
 (refine Ja ?_;unhygienic intros)
 have J1:=Dz6 k S1 0 E91.ok (by omega) 0 ⟨2,257,0,0,0,0,I3 q1⟩ (some (L5 b2)) 40 false (show ((2:Int)≠5) by decide)
 rw [Ik8] at J1
 simp only [Bi4,Av5] at J1
 refine Bq3 J1 [2,0] rfl ?_
 rintro _ h ⟨y,z,rfl,o⟩
 refine (?_:Tr _ _ _ _) o
 refine Je ?_
 (refine Ja ?_;unhygienic intros)
 have R1:=Eq9 w K hK 0 hB ⟨2,257,0,0,0,0,I3 q1⟩ rfl (by rw [Av5];simp [A8]) (slC false A2 1 (some (L5 b2)) (I3 q1).length 40 (A0 (I3 q1))) (some (L5 b2)) 40 false
 simp only [Bi4,Av5] at R1
 refine Bq3 R1 [4,2] rfl ?_
 rintro _ h ⟨rfl,o⟩
 rw [show ({ K with R:=(Ag8 K.R ((0:Nat):Int) 257 0 (I3 q1)).2 }:RKS)=wrR K 257 (I3 q1) from rfl] at o
 have hK1:=E65 hK 257 (I3 q1)
 refine (?_:Tr _ _ _ _) o
 refine Je ?_
 (refine Ja ?_;unhygienic intros)
 refine Tr.jmp Bz8 (Tr.eq (Bw0 ..) ?_);(try simp only[Nr,Nl,wl,Nat.reduceAdd,Nat.reduceMul,Int.reduceToNat])
 refine Yt rfl ?_
 rw [A47,Av5]
 refine Tr.ck (by simp [A8]) ?_
 refine Yn fun b3 h=>?_
 refine Dl0 (n:=40) 0 rfl (by rw [S8];exact Av5) ?_
 refine Je ?_
 rw [show IntKind.wrap .i64 (256+2)=258 by decide]
 refine Gs (fun h=>?_) (by exact hset _ rfl _ rfl rfl)
 (refine Ja ?_;unhygienic intros)
 have J2:=Dz6 k S2 0 E77.ok (by omega) 0 ⟨2,258,0,0,0,0,I3 q1⟩ (some (L5 b3)) 40 false (show ((2:Int)≠5) by decide)
 rw [Il9] at J2
 simp only [Bi4,Av5] at J2
 refine Bq3 J2 [4,0] rfl ?_
 rintro _ h ⟨y2,z2,rfl,o⟩
 refine (?_:Tr _ _ _ _) o
 refine Je ?_
 (refine Ja ?_;unhygienic intros)
 have R2:=Eq9 w (wrR K 257 (I3 q1)) hK1 0 hB ⟨2,258,0,0,0,0,I3 q1⟩ rfl (by rw [Av5];simp [A8]) (slC false A2 1 (some (L5 b3)) (I3 q1).length 40 (A0 (I3 q1))) (some (L5 b3)) 40 false
 simp only [Bi4,Av5] at R2
 refine Bq3 R2 [3,2] rfl ?_
 rintro _ h ⟨rfl,o⟩
 rw [show ({ wrR K 257 (I3 q1) with R:=(Ag8 (wrR K 257 (I3 q1)).R ((0:Nat):Int) 258 0 (I3 q1)).2 }:RKS)=wrR (wrR K 257 (I3 q1)) 258 (I3 q1) from rfl] at o
 refine (?_:Tr _ _ _ _) o
 refine Je ?_
 (refine Ja ?_;unhygienic intros)
 refine Tr.jmp Bz8 (Tr.eq (Bw0 ..) ?_);(try simp only[Nr,Nl,wl,Nat.reduceAdd,Nat.reduceMul,Int.reduceToNat])
 refine Yf rfl ?_
 refine Ys fun o=>?_
 exact ⟨rfl,_,o.fin [3,0] 5 rfl rfl⟩
theorem H84:RKOk K0:=E65 D03.1 256 Ab9
theorem Hg4:0<K0.B.envs.length:=by show (0:Nat)<(Db0 Ag4).B.envs.length;rw [D03.2,Br1];simp
theorem Hd9 (a:Option Addr):Ct A6 Ae8 [.slice a 492 492] [slC false A2 1 a 492 492 (A0 Av0)] fun v own=>∃ k c w m K',v=.tuple ⟨[P0 k,P0 c,P0 w,P0 m]⟩∧own [cmC c k F1 X1,rkC w K',rcC m w 0 (Bx8 K0 0) []]:=by
 refine Ct.of Bz8 rfl fun h r=>Tr.eq (G11 ..) ?_;refine Je ?_
 refine Yc (H69) ?_;rintro _ h ⟨A,rfl,o⟩<;>refine Jh o ?_
 (refine Ja ?_;unhygienic intros)
 refine Yc (H61 A) ?_
 rintro _ h ⟨k,c,w,m,rfl,o⟩
 refine (?_:Tr _ _ _ _) o
 refine Je ?_
 (refine Jb ?_;unhygienic intros)
 refine Yb (Yf rfl ?_)
 refine Ys fun o=>(?_:Tr _ _ _ _) o;refine Je ?_
 refine Yf rfl ?_
 refine Ih6 c k F0 X0 fun f=>?_
 rw [show F0.at X0.m=S0 from Fr.at_cut H88 (D69 Ds1 (by omega) 0)]
 refine (?_:Tr (E3 k S0::V7 c k 0 H83 []::_) _ _ _)
 refine Yn fun b1 h=>?_
 (refine Ja ?_;unhygienic intros)
 refine Yc (Gi7 q1) ?_;rintro _ h ⟨rfl,o⟩<;>refine Jh o ?_
 (refine Ja ?_;unhygienic intros)
 have J1:=Dz6 k S0 0 Ds1.ok (by omega) 0 ⟨2,256,0,0,0,0,Av0⟩ a 492 false (show ((2:Int)≠5) by decide)
 rw [Il5] at J1
 simp only [Bi4,Bz3] at J1
 refine Bq3 J1 [1,4] rfl ?_
 rintro _ h ⟨y,z,rfl,o⟩
 refine (?_:Tr _ _ _ _) o
 refine Je ?_
 (refine Ja ?_;unhygienic intros)
 have R1:=Eq9 w K0 H84 0 Hg4 ⟨2,256,0,0,0,0,Av0⟩ rfl (by rw [Bz3];simp [A8]) (slC false A2 1 a Av0.length 492 (A0 Av0)) a 492 false
 simp only [Bi4,Bz3] at R1
 refine Bq3 R1 [5,2] rfl ?_
 rintro _ h ⟨rfl,o⟩
 rw [show ({ K0 with R:=(Ag8 K0.R ((0:Nat):Int) 256 0 Av0).2 }:RKS)=wrR K0 256 Av0 from rfl] at o
 refine (?_:Tr _ _ _ _) o
 refine Je ?_
 (refine Ja ?_;unhygienic intros)
 refine Gf8 (Hm3 k w m c b1 _ rfl (wrR K0 256 Av0) (E65 H84 256 Av0) Hg4) [4,3,0] rfl ?_
 rintro _ h ⟨rfl,K',o⟩
 refine ⟨k,c,w,m,K',rfl,?_⟩
 exact Own.cmTake c k F1 [] Ak1 (D69 H87 (by omega) 0) (o.fin [0,3,0,2] 2 rfl rfl)
def X2:CX:=(Ik7 X1 0).2
structure Inv (n:Int) (X:CX):Prop where
 c:Clean 3 X
 h:1≤n∧n≤8
 on:∀ j:Int,0≤j→j<n→(vS X j).2=1∧(vS X j).1.state=1∧(vS X j).1.fds=p0.fds
 off:∀ j:Int,n≤j→j<8→(vS X j).2=0
 fl:(vF X 0).2=1∧(vF X 0).1.refs=n
section
variable {nc:Nat} {X:CX} (c:Clean nc X)
include c
abbrev A21 (X:CX) (i:Int) (p:PipeS):CX:=Br4 X ⟨3,i⟩ (I3 p)
abbrev Gd5 (X:CX) (i:Int):CX:=Br4 X ⟨2,i⟩ (List.replicate 8 0)
abbrev Ge3 (X:CX) (i:Int):CX:=Br4 X ⟨3,i⟩ (List.replicate 40 0)
theorem A25 {i:Int} (h:0≤i∧i<3+nc) {p:PipeS} (ok:okP p=true) :
  A78 X i p=(true,A21 X i p)∧Clean nc (A21 X i p)∧(∀ j:Int,0≤j∧j<8→vS (A21 X i p) j=vS X j)∧(∀ j:Int,0≤j∧j<12→vF (A21 X i p) j=vF X j)∧(∀ j:Int,0≤j∧j<3+nc→vP (A21 X i p) j=if j=i then (p,1) else vP X j):=by
 have hl:(I3 p).length=Ac6 (3:Int):=by rw [Ax8 p.len];rfl
 refine ⟨by unfold A78;rw [ok];exact Bu1 c (Bg0 h) _,B79 c (Bg0 h) hl (by show (Q0 (I3 p)).2≠2;rw [G57 ok];simp),fun j hj=>?_,fun j hj=>?_,fun j hj=>?_⟩
 ·show Y4 (rd _ _)=_
  rw [Aj5 c (Bg0 h) (Dp0 hj) hl,if_neg (by simp)]
 ·show Aa3 (rd _ _)=_
  rw [Aj5 c (Bg0 h) (Bl0 hj) hl,if_neg (by simp)]
 ·show Q0 (rd _ _)=_
  rw [Aj5 c (Bg0 h) (Bg0 hj) hl]
  by_cases e:j=i
  ·rw [if_pos (by rw [e]),if_pos e];exact G57 ok
  ·rw [if_neg (by simp [e]),if_neg e]
theorem Gf5 {i:Int} (h:0≤i∧i<12) :
  H77 X ⟨2,i⟩=(true,Gd5 X i)∧Clean nc (Gd5 X i)∧(∀ j:Int,0≤j∧j<8→vS (Gd5 X i) j=vS X j)∧(∀ j:Int,0≤j∧j<12→vF (Gd5 X i) j=if j=i then (.zero,0) else vF X j)∧(∀ j:Int,0≤j∧j<3+nc→vP (Gd5 X i) j=vP X j):=by
 have hl:(List.replicate 8 (0:UInt8)).length=Ac6 (2:Int):=rfl
 refine ⟨Bu1 c (Bl0 h) _,B79 c (Bl0 h) hl (by show (Aa3 (List.replicate 8 0)).2≠2;rw [show (Aa3 (List.replicate 8 0))=(.zero,0) from rfl];simp),fun j hj=>?_,fun j hj=>?_,fun j hj=>?_⟩
 ·show Y4 (rd _ _)=_
  rw [Aj5 c (Bl0 h) (Dp0 hj) hl,if_neg (by simp)]
 ·show Aa3 (rd _ _)=_
  rw [Aj5 c (Bl0 h) (Bl0 hj) hl]
  by_cases e:j=i
  ·rw [if_pos (by rw [e]),if_pos e];rfl
  ·rw [if_neg (by simp [e]),if_neg e]
 ·show Q0 (rd _ _)=_
  rw [Aj5 c (Bl0 h) (Bg0 hj) hl,if_neg (by simp)]
theorem Gh5 {i:Int} (h:0≤i∧i<3+nc) :
  H77 X ⟨3,i⟩=(true,Ge3 X i)∧Clean nc (Ge3 X i)∧(∀ j:Int,0≤j∧j<8→vS (Ge3 X i) j=vS X j)∧(∀ j:Int,0≤j∧j<12→vF (Ge3 X i) j=vF X j)∧(∀ j:Int,0≤j∧j<3+nc→vP (Ge3 X i) j=if j=i then (.zero,0) else vP X j):=by
 have hl:(List.replicate 40 (0:UInt8)).length=Ac6 (3:Int):=rfl
 refine ⟨Bu1 c (Bg0 h) _,B79 c (Bg0 h) hl (by show (Q0 (List.replicate 40 0)).2≠2;rw [show (Q0 (List.replicate 40 0))=(.zero,0) from rfl];simp),fun j hj=>?_,fun j hj=>?_,fun j hj=>?_⟩
 ·show Y4 (rd _ _)=_
  rw [Aj5 c (Bg0 h) (Dp0 hj) hl,if_neg (by simp)]
 ·show Aa3 (rd _ _)=_
  rw [Aj5 c (Bg0 h) (Bl0 hj) hl,if_neg (by simp)]
 ·show Q0 (rd _ _)=_
  rw [Aj5 c (Bg0 h) (Bg0 hj) hl]
  by_cases e:j=i
  ·rw [if_pos (by rw [e]),if_pos e];rfl
  ·rw [if_neg (by simp [e]),if_neg e]
theorem H78 {i:Int} (h:0≤i∧i<3+nc):((vP X i).2=0∧(vP X i).1=.zero)∨((vP X i).2=1∧okP (vP X i).1=true):=by
 have:=c.ok ⟨3,i⟩ (by simp) (by simp) h.1 h.2
 have hk:(vP X i).2≠2:=this
 unfold vP Q0 at hk ⊢
 split
 ·exact .inl ⟨rfl,rfl⟩
 ·split
  ·rename_i h2
   unfold isP at h2
   simp only [Bool.and_eq_true] at h2
   exact .inr ⟨rfl,h2.1⟩
  ·rename_i h1 h2;simp [h1,h2] at hk
end
abbrev Ig8 (q:PipeS):PipeS:=⟨q.head,q.count,max (q.readers-1) 0,q.writers,q.data,q.len⟩
abbrev Il7 (q:PipeS):PipeS:=⟨q.head,q.count,q.readers,max (q.writers-1) 0,q.data,q.len⟩
def Il8 (kind:Int) (q:PipeS):PipeS:=if kind=1 then Ig8 q else Il7 q
def SlOk (L:List (Int × ProcS)):Prop:=∀ s ∈ L,(0≤s.1∧s.1<8)∧okS s.2=true∧InS s.2
theorem As1 (e:Int):Ct A6 S7 [int e] [] fun v own=>v=.agg ⟨H3 0 e false⟩∧own []:=by
 refine Ct.of Ho1 rfl fun h r=>Tr.eq (Hj6 ..) ?_;refine Je ?_
 (refine Ja ?_;unhygienic intros)
 refine Ys fun o=>?_
 exact ⟨rfl,o.tail⟩
theorem E39 (ok:Bool) (n:Int):Ct A6 Bh7 [.bool ok,int n] [] fun v own=>v=.agg ⟨if ok then H3 n 0 false else H3 0 105 false⟩∧own []:=by
 refine Ct.of Hl0 rfl fun h r=>Tr.eq (Hn3 ..) ?_;refine Je ?_
 refine Yn fun b1 h=>?_
 cases ok
 ·refine Yt rfl ?_
  refine Yc (As1 105) ?_;rintro _ h ⟨rfl,o⟩<;>(refine Jf o ?_;unhygienic intros)
  refine Ys fun o=>?_
  exact ⟨rfl,o.tail⟩
 ·refine Yf rfl ?_
  (refine Ja ?_;unhygienic intros)
  refine Ys fun o=>?_
  exact ⟨rfl,o.tail⟩
theorem El5 (p:ProcS) {j:Nat} (h:j<8):(E2 p)[8+j]?=some (int (p.fds.getD j 0)):=by
 have:=If6 (l:=p.fds) (i:=j) (by rw [p.len];exact h)
 rw [show 8+j=j+8 by omega]
 exact this
abbrev setFd (p:ProcS) (j:Nat) (f:Int):ProcS:=⟨p.state,p.parent,p.group,p.code,p.pending,p.mask,p.ignored,p.caught,p.fds.set j f,by rw [List.length_set];exact p.len⟩
theorem Eh0 (p:ProcS) {j:Nat} (h:j<8) (f:Int):Dx4 (E2 p) (8+j) (int f)=some (E2 (setFd p j f)):=by
 have e:Nat.blt (8+j) (E2 p).length=true:=by rw [Bs8 p];exact Nat.ble_eq_true_of_le (by have:=p.len;omega)
 unfold Dx4
 rw [e,show 8+j=j+8 by omega]
 show some ((E2 p).set (j+8) (int f))=_
 simp only [E2,List.set_cons_succ,List.map_set]
def Ag7 (p:ProcS) (fd:Int):Bool:=decide (0≤fd∧fd<8) && decide (p.fds.getD fd.toNat 0>0)
theorem H05 (p:ProcS) (fd:Int):Ct A6 B57 [.agg ⟨E2 p⟩,int fd] [] fun v own=>v=.bool (Ag7 p fd)∧own []:=by
 refine Ct.of G71 rfl fun h r=>Tr.eq (G66 ..) ?_;refine Je ?_
 refine Yn fun b1 h=>?_
 by_cases h0:0≤fd
 case neg =>
  refine Yb (Yf (by simpa using h0) ?_)
  refine Ys fun o=>(?_:Tr _ _ _ _) o;refine Je ?_
  refine Yb (Yf rfl ?_)
  refine Ys fun o=>(?_:Tr _ _ _ _) o;refine Je ?_
  refine Ys fun o=>?_
  refine ⟨?_,o.tail⟩
  rw [show Ag7 p fd=false by simp [Ag7];omega]
 refine Yb (Yt (by simpa using h0) ?_)
 refine Ys fun o=>(?_:Tr _ _ _ _) o;refine Je ?_
 by_cases h1:fd<8
 case neg =>
  refine Yb (Yf (by simpa using h1) ?_)
  refine Ys fun o=>(?_:Tr _ _ _ _) o;refine Je ?_
  refine Ys fun o=>?_
  refine ⟨?_,o.tail⟩
  rw [show Ag7 p fd=false by simp [Ag7];omega]
 have hg:=El5 p (j:=fd.toNat) (by omega)
 refine Yb (Yt (by simpa using h1) ?_)
 (refine Ja ?_;unhygienic intros)
 refine Ys fun o=>(?_:Tr _ _ _ _) o;refine Je ?_
 refine Ys fun o=>?_
 refine ⟨?_,o.tail⟩
 rw [show Ag7 p fd=decide (p.fds.getD fd.toNat 0>0) by simp [Ag7,h0,h1]]
theorem Ie6 (b k:Nat) (F:Fr) (X:CX) (ok:FrOk F) {nc:Nat} (c:Clean nc X) (f:Int) (hf:0≤f∧f<12) (x:FileS) (hx:okF x=true) (h64:x.refs<64) :
  Ct A6 Dg0 [P0 b,int f,.agg ⟨Ae6 x⟩] [cmC b k F X] fun v own=>v=.bool true∧own [cmC b k F (Ar3 X f (Do7 x 1))]:=by
 have hr:=Eq1 hx
 have e1:IntKind.wrap .i64 (x.refs+1)=x.refs+1:=by rw [A7];omega
 obtain ⟨w1,_⟩:=Ah8 c hf (D60 hx (n:=1) (by omega))
 refine Ct.of Hj1 rfl fun h r=>Tr.eq (Hl9 ..) ?_;refine Je ?_
 (refine Ja ?_;unhygienic intros)
 rw [e1]
 (refine Ja ?_;unhygienic intros)
 simp only [List.set_cons_succ,List.set_cons_zero,List.drop_zero,List.take]
 refine Yc (B53 b k F X ok f (Do7 x 1)) ?_;rintro _ h ⟨rfl,o⟩<;>refine Jh o ?_
 rw [w1]
 dsimp only
 (refine Ja ?_;unhygienic intros)
 refine Ys fun o=>?_
 exact ⟨rfl,o.sub⟩
theorem D81 {p:ProcS} (h:okS p=true) (h1:p.state=1) (j:Nat) {f:Int} (hf:0≤f∧f≤12):okS (setFd p j f)=true:=by
 have hd:=Hf0 h
 have hd2:H55 (setFd p j f).fds:=fun x hx=>by
  rcases List.mem_or_eq_of_mem_set hx with h2|rfl
  ·exact hd x h2
  ·exact hf
 unfold okS at h ⊢
 rw [if_neg (by rw [h1];decide)] at h
 rw [if_neg (show ¬ (setFd p j f).state=2 by show ¬ p.state=2;rw [h1];decide)]
 simp only [Bool.and_eq_true] at h ⊢
 refine ⟨h.1,h.2.1,?_,h.2.2.2⟩
 rw [Bool.not_eq_true',List.any_eq_false]
 intro x hx
 have:=hd2 x hx
 simp;omega
def Dh2 (X:CX) (i fd f:Int):List Value × CX :=
 if (U0 X i).2≠0 then (H3 0 (U0 X i).2 false,X) else (H3 fd 0 false,B50 X i (setFd (vS X i).1 fd.toNat (f+1)))
theorem H62 (b k:Nat) (F:Fr) (X:CX) (ok:FrOk F) {nc:Nat} (c:Clean nc X) (i fd f:Int) (hi:0≤i∧i<8) (hd:0≤fd∧fd<8) (hf:0≤f∧f<12) :
  Ct A6 Dg4 [P0 b,int i,int fd,int f] [cmC b k F X] fun v own=>v=.agg ⟨(Dh2 X i fd f).1⟩∧own [cmC b k F (Dh2 X i fd f).2]:=by
 have e1:IntKind.wrap .i64 (f+1)=f+1:=by rw [A7];omega
 unfold Dh2
 refine Ct.of Hi8 rfl fun h r=>Tr.eq (Hp3 ..) ?_;refine Je ?_
 refine Yn fun b0 h=>?_
 refine Yc (Eq2 b k F X ok c i hi) ?_;rintro _ h ⟨rfl,o⟩<;>refine Jh o ?_
 (refine Jc ?_;unhygienic intros)
 refine Yn fun b1 h=>?_
 (refine Jb ?_;unhygienic intros)
 by_cases h1:(U0 X i).2=0
 case neg =>
  rw [if_pos h1]
  refine Yt (by simpa using h1) ?_
  refine Yc (As1 (U0 X i).2) ?_;rintro _ h ⟨rfl,o⟩<;>(refine Jf o ?_;unhygienic intros)
  refine Ys fun o=>?_
  exact ⟨rfl,o.sub⟩
 rw [if_neg (by simpa using h1)]
 refine Yf (by simpa using h1) ?_
 obtain ⟨s1,s2,s3,s4⟩:=Br2 c hi h1
 rw [s1,e1]
 generalize hp:(vS X i).1=p at s2 s3
 have hin:=Gg5 (rd X ⟨1,i⟩)
 rw [show (Y4 (rd X ⟨1,i⟩)).1=p from hp] at hin
 have hs:=Eh0 p (j:=fd.toNat) (by omega) (f+1)
 obtain ⟨w1,_⟩:=B43 c hi (D81 s3 s2 fd.toNat (f:=f+1) (by omega)) ⟨hin.a,hin.b,hin.c,hin.d⟩
 generalize setFd p fd.toNat (f+1)=q at hs w1
 dsimp only
 (refine Ja ?_;unhygienic intros)
 refine Yc (Ew3 b k F X ok i q) ?_;rintro _ h ⟨rfl,o⟩<;>refine Jh o ?_
 rw [w1]
 dsimp only
 (refine Ja ?_;unhygienic intros)
 refine Yc (E39 true fd) ?_;rintro _ h ⟨rfl,o⟩<;>refine Jh o ?_
 rw [if_pos trivial]
 (refine Ja ?_;unhygienic intros)
 refine Ys fun o=>?_
 exact ⟨rfl,o.sub⟩
def N1 (q:Int→Bool):Nat→Int→Nat→List Int
 | 0,_,_=>[]
 | _+1,_,0=>[]
 | m+1,i,w+1=>if q i=true then i::N1 q m (i+1) w else N1 q m (i+1) (w+1)
theorem Bu0 (q:Int→Bool):∀ (m:Nat) (i:Int) (w:Nat),(N1 q m i w).length≤w
 | 0,_,_=>by simp [N1]
 | _+1,_,0=>by simp [N1]
 | m+1,i,w+1=>by
  have h1:=Bu0 q m (i+1) w
  have h2:=Bu0 q m (i+1) (w+1)
  unfold N1;split<;>simp<;>omega
theorem Ap5 (q:Int→Bool):∀ (m:Nat) (i:Int) (w:Nat),∀ x ∈ N1 q m i w,i≤x∧x<i+m∧q x=true
 | 0,_,_,x,hx=>by simp [N1] at hx
 | _+1,_,0,x,hx=>by simp [N1] at hx
 | m+1,i,w+1,x,hx=>by
  unfold N1 at hx
  split at hx
  ·rename_i hq
   rcases List.mem_cons.1 hx with rfl|h
   ·exact ⟨by omega,by omega,hq⟩
   ·have:=Ap5 q m (i+1) w x h
    exact ⟨by omega,by omega,this.2.2⟩
  ·have:=Ap5 q m (i+1) (w+1) x hx
   exact ⟨by omega,by omega,this.2.2⟩
theorem Dt8 (pr:HP) (g:FuncId) (cp:List Value) (n:Int) (hn:n≤100) (q:Int→Bool) (hq:∀ j:Int,0≤j∧j<n→Ct A6 g (int j::cp) [pr] fun v own=>v=.bool (q j)∧own [pr]):∀ (m:Nat) (i:Int) (acc:List Int) (w:Nat) (a:Option Addr) (ac:Nat),0≤i→i+m=n→acc.length≤i →
  CtJ I8 W8 A95 [(0,int n),(1,int ((acc.length+w:Nat):Int)),(2,.func (.func g) ⟨[]⟩ ⟨cp⟩),(7,.slice a acc.length ac),(8,int i)] [slC false B6 1 a acc.length ac (acc.map int),pr] fun v own =>
   ∃ a' c',v=.slice a' (acc++N1 q m i w).length c'∧own [slC false B6 1 a' (acc++N1 q m i w).length c' ((acc++N1 q m i w).map int),pr]
 | 0,i,acc,w,a,ac,h0,hi,ha=>by
  refine CtJ.of De5 fun h r=>Tr.eq (Da0 ..) ?_;refine Je ?_
  refine Yb (Yf (by simp;omega) ?_)
  refine Ys fun o=>(?_:Tr _ _ _ _) o;refine Je ?_
  refine Yf rfl ?_
  refine Ys fun o=>?_
  rw [show N1 q 0 i w=[] by unfold N1;rfl,List.append_nil]
  exact ⟨a,ac,rfl,o.sub⟩
 | m+1,i,acc,0,a,ac,h0,hi,ha=>by
  refine CtJ.of De5 fun h r=>Tr.eq (Da0 ..) ?_;refine Je ?_
  refine Yb (Yt (by simp;omega) ?_)
  refine Ys fun o=>(?_:Tr _ _ _ _) o;refine Je ?_
  refine Yf (by simp) ?_
  refine Ys fun o=>?_
  rw [show N1 q (m+1) i 0=[] by unfold N1;rfl,List.append_nil]
  exact ⟨a,ac,rfl,o.sub⟩
 | m+1,i,acc,w+1,a,ac,h0,hi,ha=>by
  have e1:IntKind.wrap .i64 (i+1)=i+1:=by rw [A7];omega
  rw [show N1 q (m+1) i (w+1)=if q i=true then i::N1 q m (i+1) w else N1 q m (i+1) (w+1) by rw [N1]]
  refine CtJ.of De5 fun h r=>Tr.eq (Da0 ..) ?_;refine Je ?_
  refine Yb (Yt (by simp;omega) ?_)
  refine Ys fun o=>(?_:Tr _ _ _ _) o;refine Je ?_
  refine Yt (by simp;omega) ?_
  rw [e1]
  refine Q9 0 rfl fun hl hc _=>?_
  (refine Ja ?_;unhygienic intros)
  simp only [List.nil_append,List.singleton_append]
  refine Yc (hq i (by omega)) ?_;rintro _ h ⟨rfl,o⟩<;>refine Jh o ?_
  (refine Ja ?_;unhygienic intros)
  by_cases h2:q i=true
  ·rw [if_pos h2]
   refine Yt h2 ?_
   (refine Ja ?_;unhygienic intros)
   refine Tr.xApd (new:=[int i]) ⟨rfl,rfl,by simp only [A8];omega⟩ fun a' c' h=>?_
   have H:=Dt8 pr g cp n hn q hq m (i+1) (acc++[i]) w a' c' (by omega) (by omega) (by simp;omega)
   rw [show acc++i::N1 q m (i+1) w=acc++[i]++N1 q m (i+1) w by simp,show acc.length+(w+1)=(acc++[i]).length+w by simp;omega]
   refine (?_:Tr (_::pr::slC false B6 1 a' (acc.length+1) c' (acc.map int++[int i])::_) _ _ _)
   rw [show acc.map int++[int i]=(acc++[i]).map int by simp,show acc.length+1=(acc++[i]).length by simp]
   refine Az3 [2,1] 1 rfl rfl ?_
   exact Yr H fun v h q=>q
  ·rw [if_neg h2]
   refine Yf (by simpa using h2) ?_
   refine Az3 [1,0] 0 rfl rfl ?_
   exact Yr (Dt8 pr g cp n hn q hq m (i+1) acc (w+1) a ac (by omega) (by omega) (by omega)) fun v h q=>q
theorem Ez8 (pr:HP) (g:FuncId) (cp:List Value) (n:Nat) (hn:n≤100) (w:Nat) (q:Int→Bool) (hq:∀ j:Int,0≤j∧j<n→Ct A6 g (int j::cp) [pr] fun v own=>v=.bool (q j)∧own [pr]) :
  Ct A6 W8 [int n,int w,.func (.func g) ⟨[]⟩ ⟨cp⟩] [pr] fun v own=>∃ a' c',v=.slice a' (N1 q n 0 w).length c'∧own [slC false B6 1 a' (N1 q n 0 w).length c' ((N1 q n 0 w).map int),pr]:=by
 refine Ct.of De5 rfl fun h r=>Tr.eq (Ho9 ..) ?_;refine Je ?_
 refine G7 false B6 1 (by omega) ?_
 have J:=Dt8 pr g cp n (by omega) q hq n 0 [] w none 0 (by omega) (by omega) (by simp)
 simp only [List.nil_append,List.length_nil,List.map_nil,Nat.zero_add] at J
 exact Yr J fun v h q=>q
theorem Hv3 (b:Nat) (p:ProcS) (j:Int) (hj:0≤j∧j<8):Ct A6 A85 [int j,P0 b] [pt b (.cells D7 false (E2 p))] fun v own=>v=.bool (p.fds.getD j.toNat 0==0)∧own [pt b (.cells D7 false (E2 p))]:=by
 have hg:=El5 p (j:=j.toNat) (by omega)
 refine Ct.of Gq1 rfl fun h r=>Tr.eq (Gq6 ..) ?_;refine Je ?_
 (refine Ja ?_;unhygienic intros)
 refine Ys fun o=>?_
 exact ⟨rfl,o.sub⟩
abbrev L9 (p:ProcS) (w:Nat):List Int:=N1 (fun j=>p.fds.getD j.toNat 0==0) 8 0 w
theorem Gu1 (p:ProcS) (w:Nat):Ct A6 Bl3 [.agg ⟨E2 p⟩,int w] [] fun v own=>∃ a' c',v=.slice a' (L9 p w).length c'∧own [slC false B6 1 a' (L9 p w).length c' ((L9 p w).map int)]:=by
 refine Ct.of G84 rfl fun h r=>Tr.eq (G74 ..) ?_;refine Je ?_
 refine Yn fun b1 h=>?_
 refine Yc (Ez8 _ A85 [P0 b1] 8 (by omega) w _ fun j hj=>Hv3 b1 p j (by omega)) ?_
 rintro _ h ⟨a',c',rfl,o⟩
 refine Jh o ?_
 (refine Ja ?_;unhygienic intros)
 refine Ys fun o=>?_
 exact ⟨a',c',rfl,o.sub⟩
def hcC (bh b k:Nat) (F:Fr) (X:CX):HP:=hex fun _:Unit=>sl [pt bh (.cells O4 false [P0 b]),cmC b k F X]
instance {bh b k:Nat} {F:Fr} {X:CX}:Chk (hcC bh b k F X) (fun _:Unit=>[pt bh (.cells O4 false [P0 b]),cmC b k F X]):=⟨rfl⟩
theorem H58 (bh b k:Nat) (F:Fr) (X:CX) (ok:FrOk F) {nc:Nat} (c:Clean nc X) (j:Int) (hj:0≤j∧j<12):Ct A6 A17 [int j,P0 bh] [hcC bh b k F X] fun v own=>v=.bool ((vF X j).2==0)∧own [hcC bh b k F X]:=by
 refine Ct.of G45 rfl fun h r=>Tr.eq (G58 ..) ?_;refine Je ?_
 refine B7 (hcC bh b k F X) fun u=>?_;refine Je ?_
 (refine Ja ?_;unhygienic intros)
 refine Yc (E25 b k F X ok j) ?_;rintro _ h ⟨rfl,o⟩<;>refine Jh o ?_
 rw [Dv6 c hj]
 dsimp only
 (refine Jc ?_;unhygienic intros)
 refine Yn fun b1 h=>?_
 (refine Ja ?_;unhygienic intros)
 refine B0 (hcC bh b k F X) () ?_;refine Je ?_
 refine Ys fun o=>?_
 exact ⟨rfl,o.sub⟩
theorem H63 (bh b k:Nat) (F:Fr) (X:CX) (ok:FrOk F) {nc:Nat} (c:Clean nc X) (j:Int) (hj:0≤j∧j<3+nc):Ct A6 A42 [int j,P0 bh] [hcC bh b k F X] fun v own=>v=.bool ((vP X j).2==0)∧own [hcC bh b k F X]:=by
 refine Ct.of G02 rfl fun h r=>Tr.eq (G01 ..) ?_;refine Je ?_
 refine B7 (hcC bh b k F X) fun u=>?_;refine Je ?_
 (refine Ja ?_;unhygienic intros)
 refine Yc (Ex8 b k F X ok j) ?_;rintro _ h ⟨rfl,o⟩<;>refine Jh o ?_
 rw [Dx5 c hj]
 dsimp only
 (refine Jc ?_;unhygienic intros)
 refine Yn fun b1 h=>?_
 (refine Ja ?_;unhygienic intros)
 refine B0 (hcC bh b k F X) () ?_;refine Je ?_
 refine Ys fun o=>?_
 exact ⟨rfl,o.sub⟩
def ofV (X:CX) (i fd:Int):(Int × FileS) × Int :=
 if (U0 X i).2≠0 then ((0,.zero),(U0 X i).2)
 else if Ag7 (vS X i).1 fd=false then ((0,.zero),109)
 else if (vF X ((vS X i).1.fds.getD fd.toNat 0-1)).2≠1 then ((0,.zero),105)
 else (((vS X i).1.fds.getD fd.toNat 0-1,(vF X ((vS X i).1.fds.getD fd.toNat 0-1)).1),0)
theorem Gy4 {nc:Nat} {X:CX} (c:Clean nc X) {i:Int} (hi:0≤i∧i<8) (h:(U0 X i).2=0) (j:Nat):0≤(vS X i).1.fds.getD j 0∧(vS X i).1.fds.getD j 0≤12:=by
 obtain ⟨s1,s2,s3,s4⟩:=Br2 c hi h
 by_cases hj:j<(vS X i).1.fds.length
 ·rw [List.getD_eq_getElem?_getD,List.getElem?_eq_getElem hj];exact Hf0 s3 _ (List.getElem_mem _)
 ·rw [List.getD_eq_getElem?_getD,List.getElem?_eq_none (by omega)];simp
theorem Gr9 (b k:Nat) (F:Fr) (X:CX) (ok:FrOk F) {nc:Nat} (c:Clean nc X) (i fd:Int) (hi:0≤i∧i<8) :
  Ct A6 Bq2 [P0 b,int i,int fd] [cmC b k F X] fun v own=>v=.tuple ⟨[int (ofV X i fd).1.1,.agg ⟨Ae6 (ofV X i fd).1.2⟩,int (ofV X i fd).2]⟩∧own [cmC b k F X]:=by
 unfold ofV
 refine Ct.of H37 rfl fun h r=>Tr.eq (H60 ..) ?_;refine Je ?_
 refine Yn fun b0 h=>?_
 refine Yc (Eq2 b k F X ok c i hi) ?_;rintro _ h ⟨rfl,o⟩<;>refine Jh o ?_
 (refine Jc ?_;unhygienic intros)
 refine Yn fun b1 h=>?_
 (refine Jb ?_;unhygienic intros)
 by_cases h1:(U0 X i).2=0
 case neg =>
  rw [if_pos h1]
  refine Yt (by simpa using h1) ?_
  (refine Ja ?_;unhygienic intros)
  refine Ys fun o=>?_
  exact ⟨rfl,o.sub⟩
 rw [if_neg (by simpa using h1)]
 refine Yf (by simpa using h1) ?_
 obtain ⟨s1,s2,s3,s4⟩:=Br2 c hi h1
 have hr:=fun j=>Gy4 c hi h1 j
 rw [s1]
 generalize hp:(vS X i).1=p at s2 s3 hr
 (refine Ja ?_;unhygienic intros)
 refine Yc (H05 p fd) ?_;rintro _ h ⟨rfl,o⟩<;>(refine Jf o ?_;unhygienic intros)
 by_cases h2:Ag7 p fd=true
 case neg =>
  rw [if_pos (by simpa using h2)]
  refine Yt (by simpa using h2) ?_
  (refine Ja ?_;unhygienic intros)
  refine Ys fun o=>?_
  exact ⟨rfl,o.sub⟩
 rw [if_neg (by simpa using h2)]
 refine Yf (by simpa using h2) ?_
 simp only [Ag7,Bool.and_eq_true,decide_eq_true_eq] at h2
 have hg:=El5 p (j:=fd.toNat) (by omega)
 have hf:=hr fd.toNat
 generalize p.fds.getD fd.toNat 0=f at hg hf h2
 have e1:IntKind.wrap .i64 (f-1)=f-1:=by rw [A7];omega
 (refine Ja ?_;unhygienic intros)
 rw [e1]
 refine Yc (E25 b k F X ok (f-1)) ?_;rintro _ h ⟨rfl,o⟩<;>refine Jh o ?_
 rw [Dv6 c (by omega)]
 dsimp only
 (refine Ja ?_;unhygienic intros)
 by_cases h3:(vF X (f-1)).2=1
 case neg =>
  rw [if_pos h3]
  refine Yt (by simpa using h3) ?_
  (refine Ja ?_;unhygienic intros)
  refine Ys fun o=>?_
  exact ⟨rfl,o.sub⟩
 rw [if_neg (by simpa using h3)]
 refine Yf (by simpa using h3) ?_
 (refine Ja ?_;unhygienic intros)
 rw [e1]
 refine Ys fun o=>?_
 exact ⟨rfl,o.sub⟩
theorem Gj3 {p:ProcS} {fd:Int} (h:Ag7 p fd=true):(0≤fd∧fd<8)∧p.fds.getD fd.toNat 0>0:=by
 simp only [Ag7,Bool.and_eq_true,decide_eq_true_eq] at h;exact h
def E08 (X:CX) (i fd:Int):List Value × CX :=
 if (ofV X i fd).2≠0 then (H3 0 (ofV X i fd).2 false,X)
 else if (L9 (vS X i).1 1).length=0 then (H3 0 124 false,X)
 else if (ofV X i fd).1.2.refs≥64 then (H3 0 123 false,X)
 else Dh2 (Ar3 X (ofV X i fd).1.1 (Do7 (ofV X i fd).1.2 1)) i ((L9 (vS X i).1 1).getD 0 0) (ofV X i fd).1.1
theorem G30 {nc:Nat} {X:CX} (c:Clean nc X) {i fd:Int} (hi:0≤i∧i<8) (h:(ofV X i fd).2=0) :
  (U0 X i).2=0∧Ag7 (vS X i).1 fd=true∧(ofV X i fd).1.1=(vS X i).1.fds.getD fd.toNat 0-1∧(0≤(ofV X i fd).1.1∧(ofV X i fd).1.1<12)∧vF X (ofV X i fd).1.1=((ofV X i fd).1.2,1)∧okF (ofV X i fd).1.2=true:=by
 unfold ofV at h ⊢
 by_cases h1:(U0 X i).2=0
 case neg=>rw [if_pos h1] at h;exact absurd h h1
 rw [if_neg (by simpa using h1)] at h ⊢
 by_cases h2:Ag7 (vS X i).1 fd=true
 case neg=>rw [if_pos (by simpa using h2)] at h;cases h
 rw [if_neg (by simpa using h2)] at h ⊢
 have hn:=Gj3 h2
 have hr:=Gy4 c hi h1 fd.toNat
 by_cases h3:(vF X ((vS X i).1.fds.getD fd.toNat 0-1)).2=1
 case neg=>rw [if_pos h3] at h;cases h
 rw [if_neg (by simpa using h3)]
 have hk:okF (vF X ((vS X i).1.fds.getD fd.toNat 0-1)).1=true:=by
  rcases H76 c (i:=(vS X i).1.fds.getD fd.toNat 0-1) (by omega) with ⟨h4,_⟩|⟨_,h4⟩
  ·rw [h3] at h4;cases h4
  ·exact h4
 exact ⟨h1,h2,rfl,by simp only;omega,Prod.ext rfl h3,hk⟩
theorem Ij9 {l:List Int} (h:l.length≠0):(l.map int)[0]?=some (int (l.getD 0 0)):=If6 (by omega)
theorem Hq8 (X:CX) (i d f:Int):∃ n e:Int,(Dh2 X i d f).1=H3 n e false:=by
 unfold Dh2;split
 ·exact ⟨_,_,rfl⟩
 ·exact ⟨_,_,rfl⟩
theorem Ic8 (b k:Nat) (F:Fr) (X:CX) (ok:FrOk F) {nc:Nat} (c:Clean nc X) (i fd:Int) (hi:0≤i∧i<8) :
  Ct A6 Dr2 [P0 b,int i,int fd] [cmC b k F X] fun v own=>v=.agg ⟨(E08 X i fd).1⟩∧own [cmC b k F (E08 X i fd).2]:=by
 unfold E08
 refine Ct.of Hs5 rfl fun h r=>Tr.eq (Hq2 ..) ?_;refine Je ?_
 refine Yn fun b0 h=>?_
 refine Yc (Gr9 b k F X ok c i fd hi) ?_;rintro _ h ⟨rfl,o⟩<;>refine Jh o ?_
 (refine Jc ?_;unhygienic intros)
 refine Yn fun b1 h=>?_
 (refine Jb ?_;unhygienic intros)
 by_cases h1:(ofV X i fd).2=0
 case neg =>
  rw [if_pos h1]
  refine Yt (by simpa using h1) ?_
  refine Yc (As1 (ofV X i fd).2) ?_;rintro _ h ⟨rfl,o⟩<;>(refine Jf o ?_;unhygienic intros)
  refine Ys fun o=>?_
  exact ⟨rfl,o.sub⟩
 rw [if_neg (by simpa using h1)]
 refine Yf (by simpa using h1) ?_
 obtain ⟨o1,o2,o3,o4,o5,o6⟩:=G30 c hi h1
 obtain ⟨s1,s2,s3,s4⟩:=Br2 c hi o1
 generalize (ofV X i fd).1.1=f at o3 o4 o5
 generalize (ofV X i fd).1.2=x at o5 o6
 refine Yc (Eq2 b k F X ok c i hi) ?_;rintro _ h ⟨rfl,o⟩<;>refine Jh o ?_
 rw [s1]
 (refine Jc ?_;unhygienic intros)
 refine Yn fun b2 h=>?_
 generalize hp:(vS X i).1=p
 (refine Ja ?_;unhygienic intros)
 refine Yc (Gu1 p 1) ?_
 rintro _ h ⟨a,ac,rfl,o⟩
 refine Jh o ?_
 have hm:=Ap5 (fun j=>p.fds.getD j.toNat 0==0) 8 0 1
 have hl:=Bu0 (fun j=>p.fds.getD j.toNat 0==0) 8 0 1
 show Tr (slC false B6 1 a (L9 p 1).length ac ((L9 p 1).map int)::_) _ _ _
 generalize hL:L9 p 1=L
 replace hm:∀ y ∈ L,0≤y∧y<8:=by rw [← hL];exact fun y hy=>⟨(hm y hy).1,(hm y hy).2.1⟩
 by_cases h2:L.length=0
 ·rw [if_pos h2]
  (refine Ja ?_;unhygienic intros)
  refine Yt (by simpa using h2) ?_
  refine Yc (As1 124) ?_;rintro _ h ⟨rfl,o⟩<;>(refine Jf o ?_;unhygienic intros)
  refine Ys fun o=>?_
  exact ⟨rfl,o.sub⟩
 rw [if_neg h2]
 (refine Ja ?_;unhygienic intros)
 refine Yf (by simpa using h2) ?_
 (refine Ja ?_;unhygienic intros)
 have hr:=Eq1 o6
 by_cases h3:x.refs≥64
 ·rw [if_pos h3]
  refine Yt (by simpa using h3) ?_
  refine Yc (As1 123) ?_;rintro _ h ⟨rfl,o⟩<;>(refine Jf o ?_;unhygienic intros)
  refine Ys fun o=>?_
  exact ⟨rfl,o.sub⟩
 rw [if_neg h3]
 refine Yf (by simpa using h3) ?_
 (refine Ja ?_;unhygienic intros)
 refine Yc (Ie6 b k F X ok c f o4 x o6 (by omega)) ?_;rintro _ h ⟨rfl,o⟩<;>refine Jh o ?_
 have hd:=Ij9 h2
 have hd8:0≤L.getD 0 0∧L.getD 0 0<8:=hm _ (by
  rw [List.getD_eq_getElem?_getD,List.getElem?_eq_getElem (by omega)];exact List.getElem_mem _)
 generalize L.getD 0 0=d at hd hd8
 have c2:=(Ah8 c o4 (D60 o6 (n:=1) (by omega))).2.1
 (refine Ja ?_;unhygienic intros;repeat(refine Gw ?_;rintro px rfl;refine Ja ?_;unhygienic intros))
 refine Yc (H62 b k F _ ok c2 i d f hi hd8 o4) ?_;rintro _ h ⟨rfl,o⟩<;>refine Jh o ?_
 obtain ⟨y,z,he⟩:=Hq8 (Ar3 X f (Do7 x 1)) i d f
 rw [he]
 (refine Ja ?_;unhygienic intros)
 refine Ys fun o=>?_
 exact ⟨rfl,o.sub⟩
def Ai1:PipeS:=⟨0,0,1,1,[0,0,0,0,0,0,0,0,0,0,0,0,0,0,0,0,0,0,0,0,0,0,0,0,0,0,0,0,0,0,0,0],rfl⟩
abbrev Ba7 (X:CX):List Int:=N1 (fun j=>(vF X j).2==0) 12 0 2
abbrev Bi2 (X:CX):List Int:=N1 (fun j=>(vP X j).2==0) 4 0 1
def Bm1 (X:CX) (i d0 d1 f0 f1 r0:Int):CX :=
 B50 (Ar3 (Ar3 (A21 X r0 Ai1) f0 ⟨1,r0,1,0⟩) f1 ⟨2,r0,1,0⟩) i (setFd (setFd (vS X i).1 d0.toNat (f0+1)) d1.toNat (f1+1))
def A31 (X:CX) (i:Int):List Value × CX :=
 if (U0 X i).2≠0 then (H3 0 (U0 X i).2 false,X)
 else if (L9 (vS X i).1 2).length<2 then (H3 0 124 false,X)
 else if (Ba7 X).length<2∨(Bi2 X).length=0 then (H3 0 123 false,X)
 else (H3 ((L9 (vS X i).1 2).getD 0 0+16*(L9 (vS X i).1 2).getD 1 0) 0 false,Bm1 X i ((L9 (vS X i).1 2).getD 0 0) ((L9 (vS X i).1 2).getD 1 0) ((Ba7 X).getD 0 0) ((Ba7 X).getD 1 0) ((Bi2 X).getD 0 0))
theorem Hy3 {l:List Int} (h:l.length≤2) (h2:¬ l.length<2):∃ a b,l=[a,b]:=by
 match l,h,h2 with
 | [a,b],_,_=>exact ⟨a,b,rfl⟩
 | [],_,h2=>simp at h2
 | [_],_,h2=>simp at h2
 | _::_::_::_,h,_=>simp at h
theorem Gn3 {nc:Nat} {X:CX} (c:Clean nc X) {i:Int} (hi:0≤i∧i<8) (hs:(U0 X i).2=0) {d0 d1 f0 f1 r0:Int} (hd0:0≤d0∧d0<8) (hd1:0≤d1∧d1<8) (hf0:0≤f0∧f0<12) (hf1:0≤f1∧f1<12) (hr:0≤r0∧r0<4) (hn:r0<3+(nc:Int)) :
  A78 X r0 Ai1=(true,A21 X r0 Ai1)∧Be6 (A21 X r0 Ai1) f0 ⟨1,r0,1,0⟩=(true,Ar3 (A21 X r0 Ai1) f0 ⟨1,r0,1,0⟩) ∧
  Be6 (Ar3 (A21 X r0 Ai1) f0 ⟨1,r0,1,0⟩) f1 ⟨2,r0,1,0⟩=(true,Ar3 (Ar3 (A21 X r0 Ai1) f0 ⟨1,r0,1,0⟩) f1 ⟨2,r0,1,0⟩) ∧
  Bq4 (Ar3 (Ar3 (A21 X r0 Ai1) f0 ⟨1,r0,1,0⟩) f1 ⟨2,r0,1,0⟩) i (setFd (setFd (vS X i).1 d0.toNat (f0+1)) d1.toNat (f1+1))=(true,Bm1 X i d0 d1 f0 f1 r0) ∧
  Clean nc (Bm1 X i d0 d1 f0 f1 r0)∧(∀ j:Int,0≤j∧j<8→vS (Bm1 X i d0 d1 f0 f1 r0) j=if j=i then (setFd (setFd (vS X i).1 d0.toNat (f0+1)) d1.toNat (f1+1),1) else vS X j) ∧
  (∀ j:Int,0≤j∧j<12→vF (Bm1 X i d0 d1 f0 f1 r0) j=if j=f1 then (⟨2,r0,1,0⟩,1) else if j=f0 then (⟨1,r0,1,0⟩,1) else vF X j) ∧
  (∀ j:Int,0≤j∧j<3+nc→vP (Bm1 X i d0 d1 f0 f1 r0) j=if j=r0 then (Ai1,1) else vP X j):=by
 obtain ⟨s1,s2,s3,s4⟩:=Br2 c hi hs
 have hin:=Gg5 (rd X ⟨1,i⟩)
 obtain ⟨a1,a2,a3,a4,a5⟩:=A25 c (i:=r0) (by omega) (p:=Ai1) rfl
 obtain ⟨b1,b2,b3,b4,b5⟩:=Ah8 a2 hf0 (f:=⟨1,r0,1,0⟩) (by simp [okF];omega)
 obtain ⟨c1,c2,c3,c4,c5⟩:=Ah8 b2 hf1 (f:=⟨2,r0,1,0⟩) (by simp [okF];omega)
 have hq:=D81 (D81 s3 s2 d0.toNat (f:=f0+1) (by omega)) s2 d1.toNat (f:=f1+1) (by omega)
 obtain ⟨e1,e2,e3,e4,e5⟩:=B43 c2 hi hq ⟨hin.a,hin.b,hin.c,hin.d⟩
 refine ⟨a1,b1,c1,e1,e2,fun j hj=>?_,fun j hj=>?_,fun j hj=>?_⟩
 ·rw [show Bm1 X i d0 d1 f0 f1 r0=B50 _ _ _ from rfl,e3 j hj,c3 j hj,b3 j hj,a3 j hj]
 ·rw [show Bm1 X i d0 d1 f0 f1 r0=B50 _ _ _ from rfl,e4 j hj,c4 j hj,b4 j hj,a4 j hj]
 ·rw [show Bm1 X i d0 d1 f0 f1 r0=B50 _ _ _ from rfl,e5 j hj,c5 j hj,b5 j hj,a5 j hj]
theorem H67 (bh b k:Nat) (F:Fr) (X:CX) (ok:FrOk F) {nc:Nat} (c:Clean nc X):Ct A6 W8 [int 12,int 2,.func (.func A17) ⟨[]⟩ ⟨[P0 bh]⟩] [hcC bh b k F X] fun v own =>
  ∃ a' c',v=.slice a' (Ba7 X).length c'∧own [slC false B6 1 a' (Ba7 X).length c' ((Ba7 X).map int),hcC bh b k F X] :=
 Ez8 _ A17 [P0 bh] 12 (by omega) 2 _ fun j hj=>H58 bh b k F X ok c j (by omega)
theorem H14 (bh b k:Nat) (F:Fr) (X:CX) (ok:FrOk F) {nc:Nat} (c:Clean nc X):Ct A6 W8 [int 4,int 1,.func (.func A42) ⟨[]⟩ ⟨[P0 bh]⟩] [hcC bh b k F X] fun v own =>
  ∃ a' c',v=.slice a' (Bi2 X).length c'∧own [slC false B6 1 a' (Bi2 X).length c' ((Bi2 X).map int),hcC bh b k F X] :=
 Ez8 _ A42 [P0 bh] 4 (by omega) 1 _ fun j hj=>H63 bh b k F X ok c j (by have:=c.pos;omega)
theorem If4 {l:List Int} (h:l.length≤1) (h2:¬ l.length=0):∃ a,l=[a]:=by
 match l,h,h2 with
 | [a],_,_=>exact ⟨a,rfl⟩
 | [],_,h2=>simp at h2
 | _::_::_,h,_=>simp at h
theorem Gs6 (b k:Nat) (F:Fr) (X:CX) (ok:FrOk F) {nc:Nat} (c:Clean nc X) (i:Int) (hi:0≤i∧i<8) :
  Ct A6 Bv0 [P0 b,int i] [cmC b k F X] fun v own=>v=.agg ⟨(A31 X i).1⟩∧own [cmC b k F (A31 X i).2]:=by
 unfold A31
 refine Ct.of Hj9 rfl fun h r=>Tr.eq (Ho5 ..) ?_;refine Je ?_
 refine Yn fun bh h=>?_
 refine Yn fun b0 h=>?_
 (refine Ja ?_;unhygienic intros)
 refine Yc (Eq2 b k F X ok c i hi) ?_;rintro _ h ⟨rfl,o⟩<;>refine Jh o ?_
 (refine Jc ?_;unhygienic intros)
 refine Yn fun b1 h=>?_
 (refine Jb ?_;unhygienic intros)
 by_cases h1:(U0 X i).2=0
 case neg =>
  rw [if_pos h1]
  refine Yt (by simpa using h1) ?_
  refine Yc (As1 (U0 X i).2) ?_;rintro _ h ⟨rfl,o⟩<;>(refine Jf o ?_;unhygienic intros)
  refine Ys fun o=>?_
  exact ⟨rfl,o.sub⟩
 rw [if_neg (by simpa using h1)]
 refine Yf (by simpa using h1) ?_
 have hM:=fun d0 d1 f0 f1 r0=>Gn3 c hi h1 (d0:=d0) (d1:=d1) (f0:=f0) (f1:=f1) (r0:=r0)
 obtain ⟨s1,s2,s3,s4⟩:=Br2 c hi h1
 rw [s1]
 unfold Bm1 at hM ⊢
 generalize (vS X i).1=p at hM
 (refine Ja ?_;unhygienic intros)
 refine Yc (Gu1 p 2) ?_
 rintro _ h ⟨a,ac,rfl,o⟩
 refine Jh o ?_
 have hm:=Ap5 (fun j=>p.fds.getD j.toNat 0==0) 8 0 2
 have hl:=Bu0 (fun j=>p.fds.getD j.toNat 0==0) 8 0 2
 change ∀ x ∈ L9 p 2,_ at hm
 change (L9 p 2).length≤2 at hl
 refine (?_:Tr (slC false B6 1 a (L9 p 2).length ac ((L9 p 2).map int)::_) _ _ _)
 generalize L9 p 2=L at hm hl
 by_cases h2:L.length<2
 ·(refine Ja ?_;unhygienic intros)
  refine Yt (by simp;omega) ?_
  refine Yc (As1 124) ?_;rintro _ h ⟨rfl,o⟩<;>(refine Jf o ?_;unhygienic intros)
  refine Ys fun o=>?_
  rw [if_pos h2]
  exact ⟨rfl,o.sub⟩
 rw [if_neg h2]
 obtain ⟨d0,d1,rfl⟩:=Hy3 hl h2
 have hd0:=hm d0 (by simp)
 have hd1:=hm d1 (by simp)
 (refine Ja ?_;unhygienic intros)
 refine Yf (by simp) ?_
 refine B0 (hcC bh b k F X) () ?_;refine Je ?_
 refine Yc (H67 bh b k F X ok c) ?_
 rintro _ h ⟨a2,ac2,rfl,o⟩
 refine Jh o ?_
 have hmF:=Ap5 (fun j=>(vF X j).2==0) 12 0 2
 have hlF:=Bu0 (fun j=>(vF X j).2==0) 12 0 2
 change ∀ x ∈ Ba7 X,_ at hmF
 change (Ba7 X).length≤2 at hlF
 generalize Ba7 X=Fl at hmF hlF
 (refine Ja ?_;unhygienic intros)
 refine Yc (H14 bh b k F X ok c) ?_
 rintro _ h ⟨a3,ac3,rfl,o⟩
 refine Jh o ?_
 have hmR:=Ap5 (fun j=>(vP X j).2==0) 4 0 1
 have hlR:=Bu0 (fun j=>(vP X j).2==0) 4 0 1
 change ∀ x ∈ Bi2 X,_ at hmR
 change (Bi2 X).length≤1 at hlR
 generalize Bi2 X=Rl at hmR hlR
 refine B7 (hcC bh b k F X) fun u=>?_;refine Je ?_
 by_cases h3:Fl.length<2
 ·rw [if_pos (.inl h3)]
  (refine Jb ?_;unhygienic intros)
  refine Yb (Yt (by simp;omega) ?_)
  refine Ys fun o=>(?_:Tr _ _ _ _) o;refine Je ?_
  refine Yt rfl ?_
  refine Yc (As1 123) ?_;rintro _ h ⟨rfl,o⟩<;>(refine Jf o ?_;unhygienic intros)
  refine Ys fun o=>?_
  exact ⟨rfl,o.sub⟩
 obtain ⟨f0,f1,rfl⟩:=Hy3 hlF h3
 by_cases h4:Rl.length=0
 ·rw [if_pos (.inr h4)]
  (refine Jb ?_;unhygienic intros)
  refine Yb (Yf rfl ?_)
  refine Ys fun o=>(?_:Tr _ _ _ _) o;refine Je ?_
  refine Yt (by simpa using h4) ?_
  refine Yc (As1 123) ?_;rintro _ h ⟨rfl,o⟩<;>(refine Jf o ?_;unhygienic intros)
  refine Ys fun o=>?_
  exact ⟨rfl,o.sub⟩
 rw [if_neg (fun h=>h.elim h3 h4)]
 obtain ⟨r0,rfl⟩:=If4 hlR h4
 have hf0:=hmF f0 (by simp)
 have hf1:=hmF f1 (by simp)
 have hr0:=hmR r0 (by simp)
 obtain ⟨w1,w2,w3,w4,_⟩:=hM d0 d1 f0 f1 r0 (by omega) (by omega) (by omega) (by omega) (by omega) (by have:=c.pos;omega)
 (refine Jb ?_;unhygienic intros)
 refine Yb (Yf rfl ?_)
 refine Ys fun o=>(?_:Tr _ _ _ _) o;refine Je ?_
 refine Yf rfl ?_
 (refine Ja ?_;unhygienic intros;repeat(refine Gw ?_;rintro px rfl;refine Ja ?_;unhygienic intros))
 refine Yc (Ew9 b k F X ok r0 Ai1) ?_;rintro _ h ⟨rfl,o⟩<;>refine Jh o ?_
 rw [w1]
 dsimp only
 (refine Jb ?_;unhygienic intros)
 refine Yb (Yt rfl ?_)
 (refine Jb ?_;unhygienic intros;repeat(refine Gw ?_;rintro px rfl;refine Jb ?_;unhygienic intros))
 refine Yc (B53 b k F (A21 X r0 Ai1) ok f0 ⟨1,r0,1,0⟩) ?_;rintro _ h ⟨rfl,o⟩<;>refine Jh o ?_
 rw [w2]
 dsimp only
 (refine Jb ?_;unhygienic intros)
 refine Ys fun o=>(?_:Tr _ _ _ _) o;refine Je ?_
 refine Yb (Yt rfl ?_)
 (refine Jb ?_;unhygienic intros;repeat(refine Gw ?_;rintro px rfl;refine Jb ?_;unhygienic intros))
 refine Yc (B53 b k F (Ar3 (A21 X r0 Ai1) f0 ⟨1,r0,1,0⟩) ok f1 ⟨2,r0,1,0⟩) ?_;rintro _ h ⟨rfl,o⟩<;>refine Jh o ?_
 rw [w3]
 dsimp only
 (refine Jb ?_;unhygienic intros)
 refine Ys fun o=>(?_:Tr _ _ _ _) o;refine Je ?_
 have hs:Dx4 (E2 p) (8+d0.toNat) (int (IntKind.wrap .i64 (f0+1)))=some (E2 (setFd p d0.toNat (f0+1))):=by
  rw [show IntKind.wrap .i64 (f0+1)=f0+1 by rw [A7];omega];exact Eh0 p (by omega) _
 have hs2:Dx4 (E2 (setFd p d0.toNat (f0+1))) (8+d1.toNat) (int (IntKind.wrap .i64 (f1+1)))=some (E2 (setFd (setFd p d0.toNat (f0+1)) d1.toNat (f1+1))):=by
  rw [show IntKind.wrap .i64 (f1+1)=f1+1 by rw [A7];omega];exact Eh0 _ (by omega) _
 have hx:IntKind.wrap .i64 (d0+IntKind.wrap .i64 (16*d1))=d0+16*d1:=by simp only [A7];omega
 simp only [List.getD_cons_zero,List.getD_cons_succ]
 generalize setFd (setFd p d0.toNat (f0+1)) d1.toNat (f1+1)=q at hs2 w4
 (refine Jb ?_;unhygienic intros;repeat(refine Gw ?_;rintro px rfl;refine Jb ?_;unhygienic intros))
 rw [hx]
 refine Yb (Yt rfl ?_)
 (refine Jb ?_;unhygienic intros)
 refine Yc (Ew3 b k F (Ar3 (Ar3 (A21 X r0 Ai1) f0 ⟨1,r0,1,0⟩) f1 ⟨2,r0,1,0⟩) ok i q) ?_;rintro _ h ⟨rfl,o⟩<;>refine Jh o ?_
 rw [w4]
 dsimp only
 (refine Jb ?_;unhygienic intros)
 refine Ys fun o=>(?_:Tr _ _ _ _) o;refine Je ?_
 refine Yc (E39 true (d0+16*d1)) ?_;rintro _ h ⟨rfl,o⟩<;>refine Jh o ?_
 rw [if_pos trivial]
 (refine Ja ?_;unhygienic intros)
 refine Ys fun o=>?_
 exact ⟨rfl,o.sub⟩
structure VW where
 S:Int→ProcS × Int
 F:Int→FileS × Int
 P:Int→PipeS × Int
structure See (X:CX) (V:VW):Prop where
 c:Clean 3 X
 s:∀ j:Int,0≤j∧j<8→vS X j=V.S j
 f:∀ j:Int,0≤j∧j<12→vF X j=V.F j
 p:∀ j:Int,0≤j∧j<6→vP X j=V.P j
theorem See.to {X:CX} {V V':VW} (A:See X V) (hs:∀ j:Int,0≤j∧j<8→V.S j=V'.S j) (hf:∀ j:Int,0≤j∧j<12→V.F j=V'.F j) (hp:∀ j:Int,0≤j∧j<6→V.P j=V'.P j):See X V' :=
 ⟨A.c,fun j h=>(A.s j h).trans (hs j h),fun j h=>(A.f j h).trans (hf j h),fun j h=>(A.p j h).trans (hp j h)⟩
def wS (V:VW) (i:Int) (p:ProcS):VW:=⟨fun j=>if j=i then (p,1) else V.S j,V.F,V.P⟩
def wF (V:VW) (i:Int) (x:FileS):VW:=⟨V.S,fun j=>if j=i then (x,1) else V.F j,V.P⟩
def wP (V:VW) (i:Int) (x:PipeS):VW:=⟨V.S,V.F,fun j=>if j=i then (x,1) else V.P j⟩
def oF (V:VW) (i:Int):VW:=⟨V.S,fun j=>if j=i then (.zero,0) else V.F j,V.P⟩
def oP (V:VW) (i:Int):VW:=⟨V.S,V.F,fun j=>if j=i then (.zero,0) else V.P j⟩
section
variable {X:CX} {V:VW} (A:See X V)
include A
theorem See.ws {i:Int} (hi:0≤i∧i<8) {p:ProcS} (ok:okS p=true) (r:InS p):See (B50 X i p) (wS V i p):=by
 obtain ⟨_,w2,w3,w4,w5⟩:=B43 A.c hi ok r
 exact ⟨w2,fun j h=>by rw [w3 j h,A.s j h];rfl,fun j h=>by rw [w4 j h];exact A.f j h,fun j h=>by rw [w5 j (by omega)];exact A.p j h⟩
theorem See.wf {i:Int} (hi:0≤i∧i<12) {x:FileS} (ok:okF x=true):See (Ar3 X i x) (wF V i x):=by
 obtain ⟨_,w2,w3,w4,w5⟩:=Ah8 A.c hi ok
 exact ⟨w2,fun j h=>by rw [w3 j h];exact A.s j h,fun j h=>by rw [w4 j h,A.f j h];rfl,fun j h=>by rw [w5 j (by omega)];exact A.p j h⟩
theorem See.wp {i:Int} (hi:0≤i∧i<6) {x:PipeS} (ok:okP x=true):See (A21 X i x) (wP V i x):=by
 obtain ⟨_,w2,w3,w4,w5⟩:=A25 A.c (i:=i) (by omega) ok
 exact ⟨w2,fun j h=>by rw [w3 j h];exact A.s j h,fun j h=>by rw [w4 j h];exact A.f j h,fun j h=>by rw [w5 j (by omega),A.p j h];rfl⟩
theorem See.of {i:Int} (hi:0≤i∧i<12):See (Gd5 X i) (oF V i):=by
 obtain ⟨_,w2,w3,w4,w5⟩:=Gf5 A.c hi
 exact ⟨w2,fun j h=>by rw [w3 j h];exact A.s j h,fun j h=>by rw [w4 j h,A.f j h];rfl,fun j h=>by rw [w5 j (by omega)];exact A.p j h⟩
theorem See.op {i:Int} (hi:0≤i∧i<6):See (Ge3 X i) (oP V i):=by
 obtain ⟨_,w2,w3,w4,w5⟩:=Gh5 A.c (i:=i) (by omega)
 exact ⟨w2,fun j h=>by rw [w3 j h];exact A.s j h,fun j h=>by rw [w4 j h];exact A.f j h,fun j h=>by rw [w5 j (by omega),A.p j h];rfl⟩
end
def Ap0 (V:VW) (i:Int):ProcS × Int:=if (V.S i).2=1∧(V.S i).1.state=1 then ((V.S i).1,0) else (.zero,105)
theorem See.self {X:CX} {V:VW} (A:See X V) {i:Int} (hi:0≤i∧i<8):U0 X i=Ap0 V i:=by unfold U0 Ap0;rw [A.s i hi]
def clP (V:VW) (i:Int) (q:PipeS):VW:=if q.readers+q.writers=0∧i<4 then oP V i else wP V i q
def Hr6 (V:VW) (f:Int):Int × VW :=
 if (V.F f).2≠1 then (105,V)
 else if (V.F f).1.refs-1>0 then (0,wF V f (Do7 (V.F f).1 (-1)))
 else if (V.F f).1.kind=3 then (0,oF V f)
 else if ¬ ((V.F f).1.pipe<6∧(V.P (V.F f).1.pipe).2=1) then (105,oF V f)
 else (0,clP (oF V f) (V.F f).1.pipe (Il8 (V.F f).1.kind (V.P (V.F f).1.pipe).1))
def ofW (V:VW) (i fd:Int):(Int × FileS) × Int :=
 if (Ap0 V i).2≠0 then ((0,.zero),(Ap0 V i).2)
 else if Ag7 (V.S i).1 fd=false then ((0,.zero),109)
 else if (V.F ((V.S i).1.fds.getD fd.toNat 0-1)).2≠1 then ((0,.zero),105)
 else (((V.S i).1.fds.getD fd.toNat 0-1,(V.F ((V.S i).1.fds.getD fd.toNat 0-1)).1),0)
theorem See.ofv {X:CX} {V:VW} (A:See X V) {i:Int} (hi:0≤i∧i<8) (fd:Int):ofV X i fd=ofW V i fd:=by
 have es:=A.self hi
 have hr:=fun h=>Gy4 A.c (i:=i) hi h fd.toNat
 unfold ofV ofW
 rw [es] at hr ⊢
 rw [A.s i hi] at hr ⊢
 by_cases h1:(Ap0 V i).2≠0
 ·rw [if_pos h1,if_pos h1]
 rw [if_neg h1,if_neg h1]
 by_cases h2:Ag7 (V.S i).1 fd=false
 ·rw [if_pos h2,if_pos h2]
 have hn:=Gj3 (show Ag7 (V.S i).1 fd=true by simpa using h2)
 have hr:=hr (by simpa using h1)
 rw [if_neg h2,if_neg h2,A.f _ (by omega)]
def Gs3 (V:VW) (i fd f:Int):List Value × VW :=
 if (Ap0 V i).2≠0 then (H3 0 (Ap0 V i).2 false,V) else (H3 fd 0 false,wS V i (setFd (V.S i).1 fd.toNat (f+1)))
theorem See.setFd {X:CX} {V:VW} (A:See X V) {i:Int} (hi:0≤i∧i<8) (h:(Ap0 V i).2=0) (j:Nat) {f:Int} (hf:0≤f∧f≤12):See (B50 X i (EQ.setFd (vS X i).1 j f)) (wS V i (EQ.setFd (V.S i).1 j f)):=by
 have es:=A.self hi
 obtain ⟨s1,s2,s3,s4⟩:=Br2 A.c hi (by rw [es];exact h)
 have hin:=Gg5 (rd X ⟨1,i⟩)
 have:=A.ws hi (D81 s3 s2 j hf) ⟨hin.a,hin.b,hin.c,hin.d⟩
 have e:EQ.setFd (V.S i).1 j f=EQ.setFd (vS X i).1 j f:=by rw [A.s i hi]
 rw [e];exact this
theorem See.name {X:CX} {V:VW} (A:See X V) {i:Int} (hi:0≤i∧i<8) (fd:Int) {f:Int} (hf:0≤f∧f<12):(Dh2 X i fd f).1=(Gs3 V i fd f).1∧See (Dh2 X i fd f).2 (Gs3 V i fd f).2:=by
 have es:=A.self hi
 unfold Dh2 Gs3
 rw [es]
 by_cases h1:(Ap0 V i).2=0
 case neg=>rw [if_pos h1,if_pos h1];exact ⟨rfl,A⟩
 have n1:¬ (Ap0 V i).2≠0:=by simpa using h1
 rw [if_neg n1,if_neg n1]
 exact ⟨rfl,A.setFd hi h1 fd.toNat (by omega)⟩
def Ay9 (V:VW) (i fd:Int):List Value × VW :=
 if (Ap0 V i).2≠0 then (H3 0 (Ap0 V i).2 false,V)
 else if Ag7 (V.S i).1 fd=false then (H3 0 109 false,V)
 else (H3 0 (Hr6 (wS V i (setFd (V.S i).1 fd.toNat 0)) ((V.S i).1.fds.getD fd.toNat 0-1)).1 false,(Hr6 (wS V i (setFd (V.S i).1 fd.toNat 0)) ((V.S i).1.fds.getD fd.toNat 0-1)).2)
def Gw1 (V:VW) (i fd:Int):List Value × VW :=
 if (ofW V i fd).2≠0 then (H3 0 (ofW V i fd).2 false,V)
 else if (L9 (V.S i).1 1).length=0 then (H3 0 124 false,V)
 else if (ofW V i fd).1.2.refs≥64 then (H3 0 123 false,V)
 else Gs3 (wF V (ofW V i fd).1.1 (Do7 (ofW V i fd).1.2 1)) i ((L9 (V.S i).1 1).getD 0 0) (ofW V i fd).1.1
theorem See.dup {X:CX} {V:VW} (A:See X V) {i:Int} (hi:0≤i∧i<8) (fd:Int):(E08 X i fd).1=(Gw1 V i fd).1∧See (E08 X i fd).2 (Gw1 V i fd).2:=by
 have eo:=A.ofv hi fd
 unfold E08 Gw1
 have ho:=G30 A.c (fd:=fd) hi
 rw [eo] at ho ⊢
 by_cases h1:(ofW V i fd).2=0
 case neg=>rw [if_pos h1,if_pos h1];exact ⟨rfl,A⟩
 obtain ⟨o1,o2,o3,o4,o5,o6⟩:=ho h1
 have n1:¬ (ofW V i fd).2≠0:=by simpa using h1
 rw [if_neg n1,if_neg n1,A.s i hi]
 by_cases h2:(L9 (V.S i).1 1).length=0
 ·rw [if_pos h2,if_pos h2];exact ⟨rfl,A⟩
 rw [if_neg h2,if_neg h2]
 have hr:=Eq1 o6
 by_cases h3:(ofW V i fd).1.2.refs≥64
 ·rw [if_pos h3,if_pos h3];exact ⟨rfl,A⟩
 rw [if_neg h3,if_neg h3]
 exact (A.wf o4 (D60 o6 (n:=1) (by omega))).name hi _ o4
theorem B66 {q q':Int→Bool}:∀ (m:Nat) (i:Int) (w:Nat),(∀ j:Int,i≤j→j<i+m→q j=q' j)→N1 q m i w=N1 q' m i w
 | 0,_,_,_=>rfl
 | _+1,_,0,_=>rfl
 | m+1,i,w+1,h=>by
  rw [N1,N1,h i (by omega) (by omega),B66 m (i+1) w fun j h1 h2=>h j (by omega) (by omega),B66 m (i+1) (w+1) fun j h1 h2=>h j (by omega) (by omega)]
abbrev D37 (V:VW):List Int:=N1 (fun j=>(V.F j).2==0) 12 0 2
abbrev Gc2 (V:VW):List Int:=N1 (fun j=>(V.P j).2==0) 4 0 1
def mkW (V:VW) (i d0 d1 f0 f1 r0:Int):VW:=wS (wF (wF (wP V r0 Ai1) f0 ⟨1,r0,1,0⟩) f1 ⟨2,r0,1,0⟩) i (setFd (setFd (V.S i).1 d0.toNat (f0+1)) d1.toNat (f1+1))
def E51 (V:VW) (i:Int):List Value × VW :=
 if (Ap0 V i).2≠0 then (H3 0 (Ap0 V i).2 false,V)
 else if (L9 (V.S i).1 2).length<2 then (H3 0 124 false,V)
 else if (D37 V).length<2∨(Gc2 V).length=0 then (H3 0 123 false,V)
 else (H3 ((L9 (V.S i).1 2).getD 0 0+16*(L9 (V.S i).1 2).getD 1 0) 0 false,mkW V i ((L9 (V.S i).1 2).getD 0 0) ((L9 (V.S i).1 2).getD 1 0) ((D37 V).getD 0 0) ((D37 V).getD 1 0) ((Gc2 V).getD 0 0))
theorem Dl4 {l:List Int} {j:Nat} (h:j<l.length):l.getD j 0 ∈ l:=by
 rw [List.getD_eq_getElem?_getD,List.getElem?_eq_getElem h];exact List.getElem_mem _
theorem See.pipe {X:CX} {V:VW} (A:See X V) {i:Int} (hi:0≤i∧i<8):(A31 X i).1=(E51 V i).1∧See (A31 X i).2 (E51 V i).2:=by
 have es:=A.self hi
 have e1:Ba7 X=D37 V:=B66 12 0 2 fun j h1 h2=>by rw [A.f j (by omega)]
 have e2:Bi2 X=Gc2 V:=B66 4 0 1 fun j h1 h2=>by rw [A.p j (by omega)]
 unfold A31 E51
 rw [e1,e2,es]
 by_cases h1:(Ap0 V i).2=0
 case neg=>rw [if_pos h1,if_pos h1];exact ⟨rfl,A⟩
 have n1:¬ (Ap0 V i).2≠0:=by simpa using h1
 rw [if_neg n1,if_neg n1,A.s i hi]
 by_cases h2:(L9 (V.S i).1 2).length<2
 ·rw [if_pos h2,if_pos h2];exact ⟨rfl,A⟩
 rw [if_neg h2,if_neg h2]
 by_cases h3:(D37 V).length<2∨(Gc2 V).length=0
 ·rw [if_pos h3,if_pos h3];exact ⟨rfl,A⟩
 rw [if_neg h3,if_neg h3]
 have hm:=Ap5 (fun j=>(V.S i).1.fds.getD j.toNat 0==0) 8 0 2
 have hd0:=hm _ (Dl4 (l:=L9 (V.S i).1 2) (j:=0) (by omega))
 have hd1:=hm _ (Dl4 (l:=L9 (V.S i).1 2) (j:=1) (by omega))
 have hf0:=Ap5 (fun j=>(V.F j).2==0) 12 0 2 _ (Dl4 (l:=D37 V) (j:=0) (by omega))
 have hf1:=Ap5 (fun j=>(V.F j).2==0) 12 0 2 _ (Dl4 (l:=D37 V) (j:=1) (by omega))
 have hr:=Ap5 (fun j=>(V.P j).2==0) 4 0 1 _ (Dl4 (l:=Gc2 V) (j:=0) (by omega))
 generalize (L9 (V.S i).1 2).getD 0 0=d0 at hd0 ⊢
 generalize (L9 (V.S i).1 2).getD 1 0=d1 at hd1 ⊢
 generalize (D37 V).getD 0 0=f0 at hf0 ⊢
 generalize (D37 V).getD 1 0=f1 at hf1 ⊢
 generalize (Gc2 V).getD 0 0=r0 at hr ⊢
 obtain ⟨_,_,_,_,m1,m2,m3,m4⟩:=Gn3 A.c hi (by rw [es];exact h1) (d0:=d0) (d1:=d1) (f0:=f0) (f1:=f1) (r0:=r0) (by omega) (by omega) (by omega) (by omega) (by omega) (by omega)
 refine ⟨rfl,m1,fun j hj=>?_,fun j hj=>?_,fun j hj=>?_⟩
 ·rw [m2 j hj,A.s i hi,A.s j hj];rfl
 ·rw [m3 j hj,A.f j hj];rfl
 ·rw [m4 j (by omega),A.p j hj];rfl
def Gs1 (V:VW):Nat→Int→Int
 | 0,_=>-1
 | m+1,i=>if (V.S i).2=0 then i else Gs1 V m (i+1)
def D06 (V:VW) (more:List Int):List Int→Int
 | []=>0
 | f::l=>if f=0 then D06 V more l else if (V.F (f-1)).2≠1 then 105 else if (V.F (f-1)).1.refs+more.getD (f-1).toNat 0>64 then 123 else D06 V more l
theorem See.share {X:CX} {V:VW} (A:See X V) (more:List Int):∀ l:List Int,H55 l→D16 X more l=D06 V more l
 | [],_=>rfl
 | f::l,h=>by
  have hf:=h f (by simp)
  rw [D16,D06,A.share more l fun x hx=>h x (by simp [hx])]
  by_cases h0:f=0
  ·rw [if_pos h0,if_pos h0]
  ·rw [if_neg h0,if_neg h0,A.f (f-1) (by omega)]
def Il2 (V:VW) (more:List Int):VW:=⟨V.S,fun j=>if more.getD j.toNat 0≠0 then (Do7 (V.F j).1 (more.getD j.toNat 0),1) else V.F j,V.P⟩
def Il1 (V:VW) (i:Int):List Value × VW :=
 if (Ap0 V i).2≠0 then (H3 0 (Ap0 V i).2 false,V)
 else if Gs1 V 8 0<0 then (H3 0 111 false,V)
 else if D06 V (Er9 (V.S i).1) (V.S i).1.fds≠0 then (H3 0 (D06 V (Er9 (V.S i).1) (V.S i).1.fds) false,V)
 else (H3 (Gs1 V 8 0) 0 false,wS (Il2 V (Er9 (V.S i).1)) (Gs1 V 8 0) (He0 (V.S i).1 i))
def V1:VW:=⟨fun j=>if j=0 then (p0,1) else (.zero,0),fun j=>if j=0 then (f0,1) else (.zero,0),fun j=>if j<4 then (.zero,0) else vP X1 j⟩
theorem Ig1:See X1 V1:=by
 refine ⟨Ey3,fun j hj=>?_,fun j hj=>?_,fun j hj=>?_⟩
 ·have:j=0∨j=1∨j=2∨j=3∨j=4∨j=5∨j=6∨j=7:=by omega
  rcases this with rfl|rfl|rfl|rfl|rfl|rfl|rfl|rfl<;>(clear hj;show (_:ProcS × Int)=_;kernel_rfl)
 ·have:j=0∨j=1∨j=2∨j=3∨j=4∨j=5∨j=6∨j=7∨j=8∨j=9∨j=10∨j=11:=by omega
  rcases this with rfl|rfl|rfl|rfl|rfl|rfl|rfl|rfl|rfl|rfl|rfl|rfl<;>(clear hj;show (_:FileS × Int)=_;kernel_rfl)
 ·by_cases h4:j<4
  ·have:j=0∨j=1∨j=2∨j=3:=by omega
   rcases this with rfl|rfl|rfl|rfl<;>(clear hj h4;show (_:PipeS × Int)=_;kernel_rfl)
  ·show _=if j<4 then _ else vP X1 j
   rw [if_neg h4]
abbrev Ij4 (ow:List Int) (h:ow.length=8):ProcS:=⟨1,0,0,0,0,0,0,0,ow,h⟩
def kd (j:Int):Int:=if j=0 then 3 else j
def Il3 (j n:Int):FileS × Int:=if n>0 then (⟨kd j,0,n,0⟩,1) else (.zero,0)
def pO (a b:Int):PipeS:=⟨0,0,min a 1,min b 1,[0,0,0,0,0,0,0,0,0,0,0,0,0,0,0,0,0,0,0,0,0,0,0,0,0,0,0,0,0,0,0,0],rfl⟩
def Il6 (a b:Int):PipeS × Int:=if a>0∨b>0 then (pO a b,1) else (.zero,0)
def Im2 (ow:List Int) (h:ow.length=8) (r:Int→Int):VW :=
 ⟨fun j=>if j=0 then (Ij4 ow h,1) else (.zero,0),fun j=>if 0≤j∧j<3 then Il3 j (r (j+1)) else (.zero,0),fun j=>if j=0 then Il6 (r 2) (r 3) else if j<4 then (.zero,0) else vP X1 j⟩
abbrev rr (r:Int→Int) (v d:Int):Int→Int:=fun k=>if k=v then r k+d else r k
theorem VW.ext' {V V':VW} (h1:∀ j,V.S j=V'.S j) (h2:∀ j,V.F j=V'.F j) (h3:∀ j,V.P j=V'.P j):V=V':=by
 obtain ⟨a,b,c⟩:=V
 obtain ⟨a',b',c'⟩:=V'
 have e1:a=a':=funext h1
 have e2:b=b':=funext h2
 have e3:c=c':=funext h3
 rw [e1,e2,e3]
section
variable {ow:List Int} {h:ow.length=8} {r:Int→Int}
end
def cnt (v:Int):List Int→Int
 | []=>0
 | x::l=>(if x=v then 1 else 0)+cnt v l
theorem Gh3 (v:Int):∀ l:List Int,0≤cnt v l∧cnt v l≤l.length
 | []=>by simp [cnt]
 | x::l=>by
  have:=Gh3 v l
  unfold cnt;rw [List.length_cons];split<;>omega
theorem He1 (v:Int):∀ (l:List Int) (j:Nat),j<l.length→l.getD j 0=v→1≤cnt v l
 | [],j,h,_=>by simp at h
 | x::l,0,_,e=>by
  have:=Gh3 v l
  rw [List.getD_cons_zero] at e
  unfold cnt;rw [if_pos e];omega
 | x::l,j+1,h,e=>by
  rw [List.getD_cons_succ] at e
  have:=He1 v l j (by simpa using h) e
  unfold cnt;split<;>omega
theorem He8 (v w:Int):∀ (l:List Int) (j:Nat),j<l.length→cnt v (l.set j w)=cnt v l-(if l.getD j 0=v then 1 else 0)+(if w=v then 1 else 0)
 | [],j,h=>by simp at h
 | x::l,0,_=>by
  rw [List.set_cons_zero,List.getD_cons_zero,cnt,cnt];omega
 | x::l,j+1,h=>by
  have:=He8 v w l j (by simpa using h)
  rw [List.set_cons_succ,List.getD_cons_succ,cnt,cnt,this];omega
theorem Hx2 (l:List Int) (j n:Nat) (w:Int) (h:j<l.length):(l.set j w).getD n 0=if n=j then w else l.getD n 0:=by
 rw [List.getD_eq_getElem?_getD,List.getD_eq_getElem?_getD,List.getElem?_set]
 by_cases hj:j=n
 ·subst hj;simp [h]
 ·rw [if_neg hj,if_neg (fun e=>hj e.symm)]
structure Own8 (ow:List Int) (r:Int→Int):Prop where
 len:ow.length=8
 rng:∀ j:Nat,0≤ow.getD j 0∧ow.getD j 0≤3
 ct:∀ v:Int,1≤v→v≤3→r v=cnt v ow
theorem Own8.pos {ow:List Int} {r:Int→Int} (I:Own8 ow r) {j:Nat} (hj:j<8) (h:ow.getD j 0>0):1≤r (ow.getD j 0):=by
 rw [I.ct _ (by omega) (I.rng j).2];exact He1 _ _ j (by rw [I.len];exact hj) rfl
theorem Own8.nn {ow:List Int} {r:Int→Int} (I:Own8 ow r) {v:Int} (h:1≤v∧v≤3):0≤r v∧r v≤8:=by
 rw [I.ct v h.1 h.2];have:=Gh3 v ow;have:=I.len;omega
theorem Own8.set {ow:List Int} {r:Int→Int} (I:Own8 ow r) {j:Nat} (hj:j<8) {w:Int} (hw:0≤w∧w≤3) {r':Int→Int} (hr:∀ v:Int,1≤v→v≤3→r' v=r v-(if ow.getD j 0=v then 1 else 0)+(if w=v then 1 else 0)):Own8 (ow.set j w) r':=by
 refine ⟨by rw [List.length_set];exact I.len,fun n=>?_,fun v h1 h2=>?_⟩
 ·rw [Hx2 _ _ _ _ (by rw [I.len];exact hj)]
  split
  ·exact hw
  ·exact I.rng n
 ·rw [hr v h1 h2,He8 _ _ _ _ (by rw [I.len];exact hj),I.ct v h1 h2]
section
variable {ow:List Int} {h:ow.length=8} {r:Int→Int} (I:Own8 ow r)
include I
def r2 (r:Int→Int) (w v:Int):Int→Int:=rr (if w>0 then rr r w (-1) else r) v 1
end
def ow0:List Int:=[1,2,3,0,0,0,0,0]
def VD:VW:=Im2 ow0 rfl (fun _=>1)
theorem Ik1:(E51 V1 0).1=H3 33 0 false:=by kernel_rfl
theorem Il4:See (A31 X1 0).2 VD:=by
 refine (Ig1.pipe (i:=0) (by omega)).2.to (fun j hj=>?_) (fun j hj=>?_) fun j hj=>?_
 ·have:j=0∨j=1∨j=2∨j=3∨j=4∨j=5∨j=6∨j=7:=by omega
  rcases this with rfl|rfl|rfl|rfl|rfl|rfl|rfl|rfl<;>(clear hj;show (_:ProcS × Int)=_;kernel_rfl)
 ·have:j=0∨j=1∨j=2∨j=3∨j=4∨j=5∨j=6∨j=7∨j=8∨j=9∨j=10∨j=11:=by omega
  rcases this with rfl|rfl|rfl|rfl|rfl|rfl|rfl|rfl|rfl|rfl|rfl|rfl<;>(clear hj;show (_:FileS × Int)=_;kernel_rfl)
 ·have:j=0∨j=1∨j=2∨j=3∨j=4∨j=5:=by omega
  rcases this with rfl|rfl|rfl|rfl|rfl|rfl<;>(clear hj;show (_:PipeS × Int)=_;kernel_rfl)
theorem Hy5:(A31 X1 0).1=H3 33 0 false:=(Ig1.pipe (i:=0) (by omega)).1.trans Ik1
def XD:CX:=(A31 X1 0).2
theorem H40:See XD VD:=Il4
theorem Ij7 {h:H} {ro:Bool} {e:TypeId} {sz:Nat} {a:Option Addr} {n c:Nat} {cs:List Value} {r:List HP} (m:Nat) (hm:m≤n) (o:Own h (slC ro e sz a n c cs::r)):Own h (slC ro e sz a m c (cs.take (m*sz))::r):=by
 cases a with
 | none =>
  obtain ⟨rfl,rfl,rfl,hs⟩:=o.slNone
  obtain rfl:m=0:=by omega
  simpa using o
 | some x =>
  obtain ⟨b,o',sp⟩:=x
  obtain ⟨pre,post,o2,h1,h2,h3,h4,h5,h6,h7⟩:=o.slOpen
  have hl:m*sz≤cs.length:=by rw [← h1];exact Nat.mul_le_mul_right _ hm
  have e1:pre++cs++post=pre++cs.take (m*sz)++(cs.drop (m*sz)++post):=by rw [List.append_assoc pre cs,List.append_assoc pre,← List.append_assoc (cs.take _),List.take_append_drop]
  rw [e1] at o2
  refine Own.slShut (b:=b) (o:=o') (sp:=sp) o2 ⟨by rw [List.length_take];omega,by omega,?_,h4,h5,h6,h7⟩
  rw [List.length_append,List.length_drop,← h1]
  have:(c-m)*sz=(c-n)*sz+(n*sz-m*sz):=by rw [← Nat.sub_mul,← Nat.add_mul];congr 1;omega
  omega
theorem Ih8 {h:H} {e:TypeId} {sz:Nat} {a:Option Addr} {n c:Nat} {cs:List Value} {r:List HP} (o:Own h (slC false e sz a n c cs::r)):Own h (slC false e sz (By7 a) n n cs::r):=by
 cases a with
 | none=>obtain ⟨rfl,rfl,rfl,hs⟩:=o.slNone;exact o
 | some x =>
  obtain ⟨b,o',sp⟩:=x
  obtain ⟨pre,post,o2,h1,h2,h3,h4,h5,h6,h7⟩:=o.slOpen
  refine Own.slShut (b:=b) (o:=o') (sp:=none) o2 ⟨h1,by omega,by simp,fun h=>h4 (by omega),fun h=>absurd rfl h,h6,fun h=>?_⟩
  rcases Nat.eq_zero_or_pos c with hc|hc
  ·exact h7 hc
  ·have:=h4 hc;omega
theorem Hw1 {l:List HP} {h:H} {α:Type} {Q:α→H→Prop} {ro:Bool} {e:TypeId} {sz:Nat} {a:Option Addr} {n c:Nat} {cs:List Value} {z:Option (α × H)} (i:Nat) (hi:l[i]?=some (slC ro e sz a n c cs)) (m:Nat) (cs':List Value) (hm:m≤n) (hc:cs.take (m*sz)=cs')
  (k:Tr (l.set i (slC ro e sz a m c cs')) h z Q):Tr l h z Q:=fun o=>by
 subst hc;exact k (Own.back (h:=h) hi (Ij7 m hm (o.front hi)))
theorem He7 (a:Option Addr) (n c:Nat) (cs:List Value):Ct A6 S5 [.slice a n c] [slC false A2 1 a n c cs] fun v own=>v=.slice (By7 a) n n∧own [slC false A2 1 (By7 a) n n cs]:=by
 refine Ct.of Dh9 rfl fun h r=>Tr.eq (Df0 ..) ?_;refine Je ?_
 refine Q9 0 rfl fun hl hc _=>?_
 simp only [Int.toNat_natCast]
 (refine Ja ?_;unhygienic intros)
 refine Ys fun o=>?_
 refine ⟨?_,Ih8 o⟩
 simp
abbrev bytesN (p:PipeS) (i:Nat):List UInt8:=(List.range i).map fun (j:Nat)=>p.data.getD (((p.head+j)%32).toNat) 0
abbrev Aa7 (p:PipeS):List UInt8:=bytesN p p.count.toNat
theorem Ab7 {p:PipeS} (h:okP p=true):(0≤p.head∧p.head≤31)∧(0≤p.count∧p.count≤32)∧(0≤p.readers∧p.readers≤8)∧(0≤p.writers∧p.writers≤8):=by
 simp only [okP,Bool.and_eq_true,decide_eq_true_eq] at h;omega
theorem Hf8 {l:List UInt8} {j:Nat} (h:j<l.length):(A0 l)[j]?=some (.int .u8 (l.getD j 0).toNat):=by
 unfold A0
 rw [List.getElem?_map,List.getElem?_eq_getElem h,List.getD_eq_getElem?_getD,List.getElem?_eq_getElem h];rfl
theorem Hs6 (p:PipeS) {j:Nat} (h:j<32):(E6 p)[4+j]?=some (.int .u8 (p.data.getD j 0).toNat):=by
 rw [show 4+j=j+4 by omega]
 exact Hf8 (by rw [p.len];exact h)
theorem El3 (b:Nat) (p:PipeS) (hp:okP p=true):∀ (m i:Nat) (a:Option Addr) (ac:Nat),(i:Int)+m=p.count→CtJ I8 Aj2 Bd4 [(1,P0 b),(3,.slice a i ac),(9,int p.count),(10,int i)] [pt b (.cells D0 false (E6 p)),slC false A2 1 a i ac (A0 (bytesN p i))] fun v own =>
  ∃ a' c',v=.slice a' p.count.toNat c'∧own [slC false A2 1 a' p.count.toNat c' (A0 (Aa7 p))]
 | 0,i,a,ac,hi=>by
  obtain rfl:i=p.count.toNat:=by omega
  refine CtJ.of Do3 fun h r=>Tr.eq (Dq2 ..) ?_;refine Je ?_
  refine Yf (by simp;omega) ?_
  refine Ys fun o=>?_
  exact ⟨a,ac,rfl,o.sub⟩
 | m+1,i,a,ac,hi=>by
  obtain ⟨r1,r2,r3,r4⟩:=Ab7 hp
  have e1:IntKind.wrap .i64 ((i:Int)+1)=((i+1:Nat):Int):=by rw [A7];omega
  have e2:IntKind.wrap .i64 (p.head+i)=p.head+i:=by rw [A7];omega
  have hg:=Hs6 p (j:=((p.head+i)%32).toNat) (by omega)
  refine CtJ.of Do3 fun h r=>Tr.eq (Dq2 ..) ?_;refine Je ?_
  refine Yt (by simp;omega) ?_
  rw [e1]
  (refine Ja ?_;unhygienic intros)
  rw [e2,Hj4 (show 0≤p.head+(i:Int) by omega)]
  (refine Ja ?_;unhygienic intros)
  refine Q9 2 rfl fun hl hc _=>?_
  refine Tr.xApd (new:=A0 [p.data.getD (((p.head+i)%32).toNat) 0]) ⟨rfl,rfl,by simp only [A8];omega⟩ fun a2 c2 h=>?_
  have H:=El3 b p hp m (i+1) a2 c2 (by omega)
  refine (?_:Tr (pt b_1 _::pt b _::slC false A2 1 a2 (i+1) c2 (A0 (bytesN p i)++A0 [p.data.getD (((p.head+i)%32).toNat) 0])::_) _ _ _)
  rw [← Ie9,show bytesN p i++[p.data.getD (((p.head+i)%32).toNat) 0]=bytesN p (i+1) by unfold bytesN;rw [List.range_succ,List.map_append];rfl]
  refine Az3 [1,1] 1 rfl rfl ?_
  exact Yr H fun v h q=>q
theorem Hn0 (p:PipeS):(Aa7 p).length=p.count.toNat:=by simp [Aa7]
theorem Ht1 (p:PipeS) (hp:okP p=true):Ct A6 Aj2 [.agg ⟨E6 p⟩] [] fun v own=>∃ a c,v=.slice a p.count.toNat c∧own [slC false A2 1 a p.count.toNat c (A0 (Aa7 p))]:=by
 refine Ct.of Do3 rfl fun h r=>Tr.eq (G00 ..) ?_;refine Je ?_
 (refine Ja ?_;unhygienic intros)
 refine Yc (G49 p) ?_;rintro _ h ⟨rfl,o⟩<;>refine Jh o ?_
 rw [hp]
 (refine Ja ?_;unhygienic intros)
 refine G7 false A2 1 (by omega) ?_
 have H:=fun b=>El3 b p hp p.count.toNat 0 none 0 (by have:=Ab7 hp;omega)
 refine (?_:Tr (slC false A2 1 none 0 0 (A0 (bytesN p 0))::_) _ _ _)
 exact Yr (H _) fun v h q=>q
abbrev Dr6 (p:PipeS) (m:Nat):PipeS:=if 0<m then ⟨(p.head+m)%32,p.count-m,p.readers,p.writers,p.data,p.len⟩ else p
theorem H34 (p:PipeS) (hp:okP p=true) (n:Int) (hn:0≤n∧n≤32):Ct A6 B56 [.agg ⟨E6 p⟩,int n] [] fun v own=>∃ a c,v=.tuple ⟨[.agg ⟨E6 (Dr6 p (min n.toNat p.count.toNat))⟩,.slice a (min n.toNat p.count.toNat) c]⟩∧own [slC false A2 1 a (min n.toNat p.count.toNat) c (A0 ((Aa7 p).take (min n.toNat p.count.toNat)))]:=by
 obtain ⟨r1,r2,r3,r4⟩:=Ab7 hp
 refine Ct.of Hb5 rfl fun h r=>Tr.eq (G80 ..) ?_;refine Je ?_
 (refine Ja ?_;unhygienic intros)
 refine Yc (Ht1 p hp) ?_
 rintro _ h ⟨a,c,rfl,o⟩
 refine Jh o ?_
 refine Tr.dx ?_
 simp only [Z5,Z4]
 have e:min (max n 0) ((p.count.toNat:Nat):Int)=((min n.toNat p.count.toNat:Nat):Int):=by omega
 have hle:min n.toNat p.count.toNat≤p.count.toNat:=by omega
 rw [e]
 simp only [Int.toNat_natCast]
 generalize min n.toNat p.count.toNat=m at hle
 refine Q9 0 rfl fun hl hc _=>?_
 (refine Ja ?_;unhygienic intros)
 refine Hw1 0 rfl m (A0 ((Aa7 p).take m)) hle (by rw [Nat.mul_one,Ia6]) ?_
 refine (?_:Tr (slC false A2 1 a m c (A0 ((Aa7 p).take m))::_::_::_) _ _ _)
 by_cases hm:0<m
 ·rw [show Dr6 p m=⟨(p.head+m)%32,p.count-m,p.readers,p.writers,p.data,p.len⟩ from if_pos hm]
  refine Yt (by simpa using hm) ?_
  (refine Ja ?_;unhygienic intros)
  rw [show Int.tmod (IntKind.wrap .i64 (p.head+m)) 32=(p.head+m)%32 by rw [show IntKind.wrap .i64 (p.head+m)=p.head+m by rw [A7];omega,Hj4 (show 0≤p.head+(m:Int) by omega)],show IntKind.wrap .i64 (p.count-m)=p.count-m by rw [A7];omega]
  refine (?_:Tr (_::_::pt _ (.cells D0 false (E6 ⟨(p.head+m)%32,p.count-m,p.readers,p.writers,p.data,p.len⟩))::_) _ _ _)
  generalize (⟨(p.head+m)%32,p.count-m,p.readers,p.writers,p.data,p.len⟩:PipeS)=q
  (refine Ja ?_;unhygienic intros)
  refine Yc (He7 a m c (A0 ((Aa7 p).take m))) ?_;rintro _ h ⟨rfl,o⟩<;>refine Jh o ?_
  (refine Ja ?_;unhygienic intros)
  refine Ys fun o=>?_
  exact ⟨By7 a,m,rfl,o.sub⟩
 ·rw [show Dr6 p m=p from if_neg hm]
  refine Yf (by simpa using hm) ?_
  (refine Ja ?_;unhygienic intros)
  refine Yc (He7 a m c (A0 ((Aa7 p).take m))) ?_;rintro _ h ⟨rfl,o⟩<;>refine Jh o ?_
  (refine Ja ?_;unhygienic intros)
  refine Ys fun o=>?_
  exact ⟨By7 a,m,rfl,o.sub⟩
theorem Hy6 (p:PipeS) {j:Nat} (h:j<32) (x:UInt8):Dx4 (E6 p) (4+j) (.int .u8 x.toNat)=some (E6 ⟨p.head,p.count,p.readers,p.writers,p.data.set j x,by rw [List.length_set];exact p.len⟩):=by
 have e:Nat.blt (4+j) (E6 p).length=true:=by rw [Ab6 p.len];exact Nat.ble_eq_true_of_le (by omega)
 unfold Dx4
 rw [e,show 4+j=j+4 by omega]
 show some ((E6 p).set (j+4) _)=_
 simp only [E6,List.set_cons_succ,A0,List.map_set]
abbrev At2 (p:PipeS) (b:UInt8):PipeS:=⟨p.head,p.count+1,p.readers,p.writers,p.data.set (((p.head+p.count)%32).toNat) b,by rw [List.length_set];exact p.len⟩
def H2:PipeS→List UInt8→PipeS × Int
 | p,[]=>(p,0)
 | p,b::l=>if p.count=32 then (p,0) else ((H2 (At2 p b) l).1,(H2 (At2 p b) l).2+1)
theorem Gh8:∀ (l:List UInt8) (p:PipeS),0≤(H2 p l).2∧(H2 p l).2≤l.length
 | [],p=>by simp [H2]
 | b::l,p=>by
  have:=Gh8 l (At2 p b)
  unfold H2;split<;>simp<;>omega
theorem E22 {p:PipeS} (h:okP p=true) (hc:p.count≠32) (b:UInt8):okP (At2 p b)=true:=by
 have:=Ab7 h
 simp only [okP,Bool.and_eq_true,decide_eq_true_eq] at h ⊢;omega
theorem Gb1 (b1 b2:Nat) (pb:HP) (a:Option Addr) (ro:Bool) (cc:Nat) (l:List UInt8) (hl:l.length≤1000) [ks:IsSl pb a ro A2 1 l.length cc (A0 l)] (z:PipeS):∀ (m i:Nat) (n:Int) (p:PipeS),okP p=true→i+m=l.length→0≤n→n≤i →
  CtJ I8 Ao2 Bo1 [(2,P0 b1),(4,P0 b2),(6,int n),(13,.slice a l.length cc),(14,int l.length),(15,int i)] [pt b1 (.cells D0 false (E6 p)),pt b2 (.cells D0 false (E6 z)),pb] fun v own =>
   v=.tuple ⟨[.agg ⟨E6 (H2 p (l.drop i)).1⟩,int (n+(H2 p (l.drop i)).2)]⟩∧own [pb]
 | 0,i,n,p,hp,hi,h0,hn=>by
  rw [List.drop_eq_nil_of_le (by omega),show H2 p []=(p,0) from rfl,Int.add_zero]
  refine CtJ.of D34 fun h r=>Tr.eq (Eb5 ..) ?_;refine Je ?_
  refine Yf (by simp;omega) ?_
  (refine Ja ?_;unhygienic intros)
  refine Ys fun o=>?_
  exact ⟨rfl,o.sub⟩
 | m+1,i,n,p,hp,hi,h0,hn=>by
  obtain ⟨r1,r2,r3,r4⟩:=Ab7 hp
  have hil:i<l.length:=by omega
  have hg:=Hf8 hil
  have hd:l.drop i=l.getD i 0::l.drop (i+1):=by
   rw [List.drop_eq_getElem_cons hil,List.getD_eq_getElem?_getD,List.getElem?_eq_getElem hil];rfl
  rw [hd,H2]
  generalize l.getD i 0=x at hg
  have e1:IntKind.wrap .i64 ((i:Int)+1)=((i+1:Nat):Int):=by rw [A7];omega
  have e2:IntKind.wrap .i64 (n+1)=n+1:=by rw [A7];omega
  refine CtJ.of D34 fun h r=>Tr.eq (Eb5 ..) ?_;refine Je ?_
  refine Yt (by simp;omega) ?_
  rw [e1,e2]
  simp only [Int.toNat_natCast]
  (refine Ja ?_;unhygienic intros;repeat(refine Gw ?_;rintro px rfl;refine Ja ?_;unhygienic intros))
  by_cases hc:p.count=32
  ·rw [if_pos hc]
   refine Yt (by simpa using hc) ?_
   (refine Ja ?_;unhygienic intros)
   refine Ys fun o=>?_
   rw [Int.add_zero]
   exact ⟨rfl,o.sub⟩
  rw [if_neg hc]
  refine Yf (by simpa using hc) ?_
  have e3:Int.tmod (IntKind.wrap .i64 (p.head+p.count)) 32=(p.head+p.count)%32:=by
   rw [show IntKind.wrap .i64 (p.head+p.count)=p.head+p.count by rw [A7];omega,Hj4 (show 0≤p.head+p.count by omega)]
  have hs:=Hy6 p (j:=((p.head+p.count)%32).toNat) (by omega) x
  have H:=Gb1 b1 b2 pb (some px) ro cc l hl z m (i+1) (n+1) (At2 p x) (E22 hp hc x) (by omega) (by omega) (by omega)
  (refine Ja ?_;unhygienic intros)
  rw [e3]
  (refine Ja ?_;unhygienic intros)
  dsimp only
  rw [show IntKind.wrap .i64 (p.count+1)=p.count+1 by rw [A7];omega]
  refine (?_:Tr (pt b1 (.cells D0 false (E6 (At2 p x)))::pt b2 (.cells D0 false (E6 z))::pb::_) _ _ _)
  refine Yr H ?_
  intro v h q
  obtain ⟨rfl,o⟩:=q
  exact ⟨by rw [Int.add_right_comm,Int.add_assoc],o⟩
theorem Gb9 (p:PipeS) (hp:okP p=true) (pb:HP) (a:Option Addr) (ro:Bool) (cc:Nat) (l:List UInt8) (hl:l.length≤1000) [ks:IsSl pb a ro A2 1 l.length cc (A0 l)] :
  Ct A6 Ao2 [.agg ⟨E6 p⟩,.slice a l.length cc] [pb] fun v own=>v=.tuple ⟨[.agg ⟨E6 (H2 p l).1⟩,int (H2 p l).2]⟩∧own [pb]:=by
 refine Ct.of D34 rfl fun h r=>Tr.eq (Hl5 ..) ?_;refine Je ?_
 (refine Ja ?_;unhygienic intros)
 refine Yc (G49 p) ?_;rintro _ h ⟨rfl,o⟩<;>refine Jh o ?_
 rw [hp]
 (refine Ja ?_;unhygienic intros)
 have H:=fun b1 b2=>Gb1 b1 b2 pb a ro cc l hl .zero l.length 0 0 p hp (by omega) (by omega) (by omega)
 rw [List.drop_zero,Int.zero_add] at H
 refine (?_:Tr (pt _ (.cells D0 false (E6 .zero))::pt _ (.cells D0 false (E6 p))::pb::_) _ _ _)
 exact Yr (H _ _) fun v h q=>q
abbrev vT (X:CX):PipeS × Int:=Q0 (rd X ⟨4,0⟩)
theorem H51 {nc:Nat}:Rin nc ⟨4,0⟩:=⟨by simp,by simp,by simp,by simp [U7]⟩
theorem Gb5 {nc:Nat} {X:CX} (c:Clean nc X) {i:Int} (h:0≤i∧i<3+nc) {q:PipeS} (ok:okP q=true):vT (A21 X i q)=vT X:=by
 have hl:(I3 q).length=Ac6 (3:Int):=by rw [Ax8 q.len];rfl
 show Q0 (rd _ _)=_
 rw [Aj5 c (Bg0 h) H51 hl,if_neg (by simp)]
theorem Bp3 (e:Int):Ct A6 P1 [int e] [] fun v own=>v=.agg ⟨H3 0 e false⟩∧own []:=by
 refine Ct.of G03 rfl fun h r=>Tr.eq (G48 ..) ?_;refine Je ?_
 (refine Ja ?_;unhygienic intros)
 refine Ys fun o=>?_
 exact ⟨rfl,o.tail⟩
theorem E01 (f:FileS):Ct A6 Au4 [.agg ⟨Ae6 f⟩] [] fun v own=>v=.agg ⟨if f.flags=1 then H3 0 111 false else H3 0 0 true⟩∧own []:=by
 refine Ct.of Gr2 rfl fun h r=>Tr.eq (Go5 ..) ?_;refine Je ?_
 (refine Jb ?_;unhygienic intros)
 by_cases h1:f.flags=1
 ·rw [if_pos h1]
  refine Yt (by simpa using h1) ?_
  refine Yc (Bp3 111) ?_;rintro _ h ⟨rfl,o⟩<;>(refine Jf o ?_;unhygienic intros)
  refine Ys fun o=>?_
  exact ⟨rfl,o.sub⟩
 ·rw [if_neg h1]
  refine Yf (by simpa using h1) ?_
  (refine Ja ?_;unhygienic intros)
  refine Ys fun o=>?_
  exact ⟨rfl,o.sub⟩
abbrev Df9 (b b1:Nat):Value:=.func (.func A33) ⟨[]⟩ ⟨[P0 b,P0 b1]⟩
theorem Ge7 (c k b b1:Nat) (F:Fr) (X:CX) (ok:FrOk F) (f:FileS) (q:PipeS):Ct A6 A33 [.agg ⟨E6 q⟩,P0 b,P0 b1] [cmC c k F X,pt b (.cells O4 false [P0 c]),pt b1 (.cells D5 false (Ae6 f))] fun v own =>
  v=.bool (A78 X f.pipe q).1∧own [cmC c k F (A78 X f.pipe q).2,pt b (.cells O4 false [P0 c]),pt b1 (.cells D5 false (Ae6 f))]:=by
 refine Ct.of Gv8 rfl fun h r=>Tr.eq (Gy8 ..) ?_;refine Je ?_
 (refine Ja ?_;unhygienic intros)
 refine Yc (Ew9 c k F X ok f.pipe q) ?_;rintro _ h ⟨rfl,o⟩<;>(refine Jf o ?_;unhygienic intros)
 refine Ys fun o=>?_
 exact ⟨rfl,o.sub⟩
def Ak2 (q:PipeS) (v:Value):List Value:=E6 q++[v]
theorem Dj2 (q:PipeS) (v:Value):(Ak2 q v).length=37:=by unfold Ak2;rw [List.length_append,Ab6 q.len];rfl
theorem H08 (q:PipeS) (x:Fn) (y z:Array Value):(Ak2 q (.func x y z)).all Value.oneCell=true:=by unfold Ak2;rw [List.all_append,Gi6];rfl
instance {q:PipeS} {v:Value}:LenC (Ak2 q v) 37:=⟨Dj2 q v⟩
instance {q:PipeS} {v:Value}:PartC (Ak2 q v) 0 37 (Ak2 q v):=⟨B77 (Dj2 q v)⟩
instance {q:PipeS} {v:Value}:PartC (Ak2 q v) 0 36 (E6 q):=⟨by
 unfold Dh7
 rw [Nat.ble_eq_true_of_le (by rw [Dj2];omega),List.drop_zero]
 unfold Ak2
 rw [List.take_left' (Ab6 q.len)];rfl⟩
instance {q:PipeS} {x:Fn} {y z:Array Value} {cs:List Value} [k:LenC cs 37]:SetsC cs 0 (Ak2 q (.func x y z)) (Ak2 q (.func x y z)):=⟨Bd9 k.ok (Dj2 q _) (H08 q x y z)⟩
theorem Hz1 (c k:Nat) (F:Fr) (X:CX) (ok:FrOk F) {nc:Nat} (cl:Clean nc X) (f:FileS) (h3:f.kind≠3) (hp:0≤f.pipe∧f.pipe<3+nc):Ct A6 Bx6 [P0 c,.agg ⟨Ae6 f⟩] [cmC c k F X] fun v own =>
  ∃ b b1,v=.tuple ⟨[.agg ⟨Ak2 (vP X f.pipe).1 (Df9 b b1)⟩,.bool ((vP X f.pipe).2==1)]⟩∧own [cmC c k F X,pt b (.cells O4 false [P0 c]),pt b1 (.cells D5 false (Ae6 f))]:=by
 refine Ct.of Hh9 rfl fun h r=>Tr.eq (Hi6 ..) ?_;refine Je ?_
 refine Yn fun b h=>?_
 refine Yn fun b1 h=>?_
 refine Yn fun b2 h=>?_
 (refine Ja ?_;unhygienic intros)
 refine Yf (by simpa using h3) ?_
 (refine Ja ?_;unhygienic intros)
 refine Yc (Ex8 c k F X ok f.pipe) ?_;rintro _ h ⟨rfl,o⟩<;>refine Jh o ?_
 rw [Dx5 cl hp]
 dsimp only
 generalize (vP X f.pipe).1=q
 (refine Jc ?_;unhygienic intros)
 refine Yn fun b3 h=>?_
 (refine Jc ?_;unhygienic intros)
 refine Tr.ck (Dj2 q _) ?_
 refine (?_:Tr _ _ (pAgg ⟨b2,0,none⟩ (Ak2 q (Df9 b b1)) _ _) _)
 (refine Ja ?_;unhygienic intros)
 refine Ys fun o=>?_
 exact ⟨b,b1,rfl,o.sub⟩
def Y2 (V:VW) (i fd n:Int):FileS × Int :=
 if (ofW V i fd).2≠0 then ((ofW V i fd).1.2,(ofW V i fd).2)
 else if (ofW V i fd).1.2.kind=2 then ((ofW V i fd).1.2,109)
 else if n<0∨n>32 then ((ofW V i fd).1.2,122)
 else ((ofW V i fd).1.2,0)
theorem Ii3 (c k:Nat) (F:Fr) (X:CX) (ok:FrOk F) (V:VW) (A:See X V) (i fd n:Int) (hi:0≤i∧i<8) (h3:(ofW V i fd).1.2.kind≠3):Ct A6 B59 [P0 c,int i,int fd,int n] [cmC c k F X] fun v own=>v=.tuple ⟨[.agg ⟨Ae6 (Y2 V i fd n).1⟩,int (Y2 V i fd n).2]⟩∧own [cmC c k F X]:=by
 have eo:=A.ofv hi fd
 unfold Y2
 refine Ct.of G91 rfl fun h r=>Tr.eq (Hc8 ..) ?_;refine Je ?_
 refine Yn fun b0 h=>?_
 refine Yc (Gr9 c k F X ok A.c i fd hi) ?_;rintro _ h ⟨rfl,o⟩<;>refine Jh o ?_
 rw [eo]
 (refine Jc ?_;unhygienic intros)
 refine Yn fun b1 h=>?_
 (refine Jb ?_;unhygienic intros)
 generalize (ofW V i fd).1.2=x at *
 generalize (ofW V i fd).2=e at *
 by_cases h1:e=0
 case neg =>
  rw [if_pos h1]
  refine Yt (by simpa using h1) ?_
  (refine Ja ?_;unhygienic intros)
  refine Ys fun o=>?_
  exact ⟨rfl,o.sub⟩
 have n1:¬ e≠0:=by simpa using h1
 rw [if_neg n1]
 refine Yf (by simpa using h1) ?_
 (refine Ja ?_;unhygienic intros)
 by_cases h2:x.kind=2
 ·rw [if_pos h2]
  refine Yt (by simpa using h2) ?_
  (refine Ja ?_;unhygienic intros)
  refine Ys fun o=>?_
  exact ⟨rfl,o.sub⟩
 rw [if_neg h2]
 refine Yf (by simpa using h2) ?_
 by_cases h4:n<0
 ·rw [if_pos (.inl h4)]
  refine Yb (Yt (by simpa using h4) ?_)
  refine Ys fun o=>(?_:Tr _ _ _ _) o;refine Je ?_
  refine Yt rfl ?_
  (refine Ja ?_;unhygienic intros)
  refine Ys fun o=>?_
  exact ⟨rfl,o.sub⟩
 refine Yb (Yf (by simpa using h4) ?_)
 refine Ys fun o=>(?_:Tr _ _ _ _) o;refine Je ?_
 by_cases h5:n>32
 ·rw [if_pos (.inr h5)]
  refine Yt (by simpa using h5) ?_
  (refine Ja ?_;unhygienic intros)
  refine Ys fun o=>?_
  exact ⟨rfl,o.sub⟩
 rw [if_neg (fun h=>h.elim h4 h5)]
 refine Yf (by simpa using h5) ?_
 (refine Ja ?_;unhygienic intros)
 refine Yf (by simpa using h3) ?_
 (refine Ja ?_;unhygienic intros)
 refine Ys fun o=>?_
 exact ⟨rfl,o.sub⟩
structure RdS where
 bs:List UInt8
 e:Int
 blk:Bool
def A08 (V:VW) (i fd n:Int):RdS × VW :=
 if (Y2 V i fd n).2≠0∨n=0 then (⟨[],(Y2 V i fd n).2,false⟩,V)
 else if (V.P (Y2 V i fd n).1.pipe).2≠1 then (⟨[],105,false⟩,V)
 else if (V.P (Y2 V i fd n).1.pipe).1.count=0 then
  if (Y2 V i fd n).1.kind=1∧(V.P (Y2 V i fd n).1.pipe).1.writers=0 then (⟨[],0,false⟩,V)
  else if (Y2 V i fd n).1.flags=1 then (⟨[],111,false⟩,V) else (⟨[],0,true⟩,V)
 else (⟨(Aa7 (V.P (Y2 V i fd n).1.pipe).1).take (min n.toNat (V.P (Y2 V i fd n).1.pipe).1.count.toNat),0,false⟩,
  wP V (Y2 V i fd n).1.pipe (Dr6 (V.P (Y2 V i fd n).1.pipe).1 (min n.toNat (V.P (Y2 V i fd n).1.pipe).1.count.toNat)))
theorem H49 {p:PipeS} (h:okP p=true) {m:Nat} (hm:m≤p.count.toNat):okP (Dr6 p m)=true:=by
 have:=Ab7 h
 unfold Dr6
 split
 ·simp only [okP,Bool.and_eq_true,decide_eq_true_eq];omega
 ·exact h
theorem D52 (c k:Nat) (F:Fr) (X:CX) (ok:FrOk F) (V:VW) (A:See X V) (i fd n:Int) (hi:0≤i∧i<8) (h3:(ofW V i fd).1.2.kind≠3) (hp:(Y2 V i fd n).2=0→0≤(Y2 V i fd n).1.pipe∧(Y2 V i fd n).1.pipe<6) :
  Ct A6 Aq6 [P0 c,int i,int fd,int n] [cmC c k F X] fun v own=>∃ a cap X',See X' (A08 V i fd n).2∧vT X'=vT X ∧
   v=.agg ⟨[int (A08 V i fd n).1.bs.length,int (A08 V i fd n).1.e,.slice a (A08 V i fd n).1.bs.length cap,.bool (A08 V i fd n).1.blk]⟩ ∧
   own [cmC c k F X',slC false A2 1 a (A08 V i fd n).1.bs.length cap (A0 (A08 V i fd n).1.bs)]:=by
 have nil:∀ {h:NN.H} {r:List HP},Own h (cmC c k F X::r)→Own h (cmC c k F X::slC false A2 1 none 0 0 (A0 [])::r):=fun o=>(o.slNil false A2 (by omega)).perm (List.Perm.swap _ _ _)
 have hk3:(Y2 V i fd n).2=0→(Y2 V i fd n).1.kind≠3:=by
  intro h;unfold Y2 at h ⊢;repeat' split
  all_goals exact h3
 have hn:(Y2 V i fd n).2=0→0≤n∧n≤32:=by
  intro h;unfold Y2 at h
  split at h
  ·rename_i h1;exact absurd h h1
  ·split at h
   ·cases h
   ·split at h
    ·cases h
    ·omega
 unfold A08
 refine Ct.of Gu0 rfl fun h r=>Tr.eq (G29 ..) ?_;refine Je ?_
 refine Yn fun b0 h=>?_
 refine Yc (Ii3 c k F X ok V A i fd n hi h3) ?_;rintro _ h ⟨rfl,o⟩<;>refine Jh o ?_
 generalize (Y2 V i fd n).1=x at *
 generalize (Y2 V i fd n).2=e at *
 (refine Jc ?_;unhygienic intros)
 refine Yn fun b1 h=>?_
 (refine Jb ?_;unhygienic intros)
 by_cases h1:e≠0∨n=0
 ·rw [if_pos h1]
  have hg:∀ {h:NN.H} {r:List HP},Tr (pt b1 (.cells D5 false (Ae6 x))::cmC c k F X::pt b0 (.cells N3 false (H3 0 0 false))::r) h (bnd (A6 P1 [int e] h) fun r_3 hv_5=>aAgg r_3 fun x_2=>ck (List.length x_2=4) (pAgg ⟨b0,0,none⟩ x_2 hv_5 fun hv_6=>gAgg ⟨b0,0,none⟩ 4 hv_6 fun x_3=>some (Value.agg ⟨x_3⟩,hv_6)))
   fun (v:Value) h'=>∃ a cap X',See X' V∧vT X'=vT X∧v=.agg ⟨[int 0,int e,.slice a 0 cap,.bool false]⟩∧Own h' (cmC c k F X'::slC false A2 1 a 0 cap (A0 [])::r):=by
   intro h r
   refine Yc (Bp3 e) ?_;rintro _ h ⟨rfl,o⟩<;>(refine Jf o ?_;unhygienic intros)
   refine Ys fun o=>?_
   exact ⟨none,0,X,A,rfl,rfl,nil o.sub⟩
  by_cases h2:e=0
  ·refine Yb (Yf (by simpa using h2) ?_)
   refine Ys fun o=>(?_:Tr _ _ _ _) o;refine Je ?_
   refine Yt (by simpa using h1.resolve_left (by simpa using h2)) ?_
   exact hg
  ·refine Yb (Yt (by simpa using h2) ?_)
   refine Ys fun o=>(?_:Tr _ _ _ _) o;refine Je ?_
   refine Yt rfl ?_
   exact hg
 rw [if_neg h1]
 have h2:e=0:=Classical.byContradiction fun h=>h1 (.inl h)
 have h0:n≠0:=fun h=>h1 (.inr h)
 have hpx:=hp h2
 have hnn:=hn h2
 have hkk:=hk3 h2
 subst h2
 refine Yb (Yf rfl ?_)
 refine Ys fun o=>(?_:Tr _ _ _ _) o;refine Je ?_
 refine Yf (by simpa using h0) ?_
 (refine Ja ?_;unhygienic intros)
 refine Yc (Hz1 c k F X ok A.c x hkk (by omega)) ?_
 rintro _ h ⟨b,b2,rfl,o⟩
 refine Jh o ?_
 have hvp:=A.p x.pipe hpx
 rw [hvp]
 have hq:(V.P x.pipe).2=1→okP (V.P x.pipe).1=true:=fun h=>by
  rcases H78 A.c (i:=x.pipe) (by omega) with ⟨h6,_⟩|⟨_,h6⟩
  ·rw [hvp,h] at h6;cases h6
  ·rw [hvp] at h6;exact h6
 generalize hqq:(V.P x.pipe).1=q at *
 generalize (V.P x.pipe).2=st at *
 (refine Jc ?_;unhygienic intros)
 refine Yn fun b3 h=>?_
 (refine Jb ?_;unhygienic intros)
 by_cases h5:st=1
 case neg =>
  rw [if_pos h5]
  refine Yt (by simpa using h5) ?_
  refine Yc (Bp3 105) ?_;rintro _ h ⟨rfl,o⟩<;>(refine Jf o ?_;unhygienic intros)
  refine Ys fun o=>?_
  exact ⟨none,0,X,A,rfl,rfl,nil o.sub⟩
 have n5:¬ st≠1:=by simpa using h5
 rw [if_neg n5]
 refine Yf (by simpa using h5) ?_
 replace hq:=hq h5
 obtain ⟨r1,r2,r3,r4⟩:=Ab7 hq
 (refine Jb ?_;unhygienic intros)
 by_cases h6:q.count=0
 ·rw [if_pos h6]
  refine Yb (Yt (by simpa using h6) ?_)
  (refine Jb ?_;unhygienic intros)
  have hw:∀ {h:NN.H} {r:List HP},Tr (pt b3 (.cells Bw4 false (Ak2 q (Df9 b b2)))::cmC c k F X::pt b (.cells O4 false [P0 c])::pt b2 (.cells D5 false (Ae6 x))::pt b1 (.cells D5 false (Ae6 x))::pt b0 (.cells N3 false (H3 0 0 false))::r) h
    (gAgg ⟨b1,0,none⟩ 4 h fun x_14=>bnd (A6 Au4 [.agg ⟨x_14⟩] h) fun r_8 hv_15=>aAgg r_8 fun x_15=>ck (List.length x_15=4) (pAgg ⟨b0,0,none⟩ x_15 hv_15 fun hv_16=>gAgg ⟨b0,0,none⟩ 4 hv_16 fun x_16=>some (Value.agg ⟨x_16⟩,hv_16)))
    fun (v:Value) h'=>∃ a cap X',See X' (if x.flags=1 then ((⟨[],111,false⟩:RdS),V) else (⟨[],0,true⟩,V)).2∧vT X'=vT X∧v=.agg ⟨[int (if x.flags=1 then ((⟨[],111,false⟩:RdS),V) else (⟨[],0,true⟩,V)).1.bs.length,int (if x.flags=1 then ((⟨[],111,false⟩:RdS),V) else (⟨[],0,true⟩,V)).1.e,.slice a (if x.flags=1 then ((⟨[],111,false⟩:RdS),V) else (⟨[],0,true⟩,V)).1.bs.length cap,.bool (if x.flags=1 then ((⟨[],111,false⟩:RdS),V) else (⟨[],0,true⟩,V)).1.blk]⟩∧Own h' (cmC c k F X'::slC false A2 1 a (if x.flags=1 then ((⟨[],111,false⟩:RdS),V) else (⟨[],0,true⟩,V)).1.bs.length cap (A0 (if x.flags=1 then ((⟨[],111,false⟩:RdS),V) else (⟨[],0,true⟩,V)).1.bs)::r):=by
   intro h r
   (refine Ja ?_;unhygienic intros)
   refine Yc (E01 x) ?_;rintro _ h ⟨rfl,o⟩<;>refine Jh o ?_
   by_cases h7:x.flags=1
   ·rw [if_pos h7]
    (refine Ja ?_;unhygienic intros)
    refine Ys fun o=>?_
    rw [if_pos h7]
    exact ⟨none,0,X,A,rfl,rfl,nil o.sub⟩
   ·rw [if_neg h7]
    (refine Ja ?_;unhygienic intros)
    refine Ys fun o=>?_
    rw [if_neg h7]
    exact ⟨none,0,X,A,rfl,rfl,nil o.sub⟩
  by_cases h8:x.kind=1
  ·by_cases h9:q.writers=0
   ·rw [if_pos ⟨h8,h9⟩]
    refine Ys fun o=>(?_:Tr _ _ _ _) o;refine Je ?_
    refine Yb (Yt (by simpa using h8) ?_)
    (refine Jb ?_;unhygienic intros)
    refine Ys fun o=>(?_:Tr _ _ _ _) o;refine Je ?_
    refine Yt (by simpa using h9) ?_
    (refine Ja ?_;unhygienic intros)
    refine Ys fun o=>?_
    exact ⟨none,0,X,A,rfl,rfl,nil o.sub⟩
   ·rw [if_neg (fun h=>h9 h.2)]
    refine Ys fun o=>(?_:Tr _ _ _ _) o;refine Je ?_
    refine Yb (Yt (by simpa using h8) ?_)
    (refine Jb ?_;unhygienic intros)
    refine Ys fun o=>(?_:Tr _ _ _ _) o;refine Je ?_
    refine Yf (by simpa using h9) ?_
    (refine Jb ?_;unhygienic intros)
    refine Yt (by simpa using h6) ?_
    exact hw
  ·rw [if_neg (fun h=>h8 h.1)]
   refine Ys fun o=>(?_:Tr _ _ _ _) o;refine Je ?_
   refine Yb (Yf (by simpa using h8) ?_)
   refine Ys fun o=>(?_:Tr _ _ _ _) o;refine Je ?_
   refine Yf rfl ?_
   (refine Jb ?_;unhygienic intros)
   refine Yt (by simpa using h6) ?_
   exact hw
 rw [if_neg h6]
 refine Yb (Yf (by simpa using h6) ?_)
 refine Ys fun o=>(?_:Tr _ _ _ _) o;refine Je ?_
 refine Yb (Yf rfl ?_)
 refine Ys fun o=>(?_:Tr _ _ _ _) o;refine Je ?_
 refine Yf rfl ?_
 (refine Jb ?_;unhygienic intros)
 refine Yf (by simpa using h6) ?_
 (refine Ja ?_;unhygienic intros)
 refine Yc (H34 q hq n hnn) ?_
 rintro _ h ⟨a,cap,rfl,o⟩
 refine Jh o ?_
 have hm:min n.toNat q.count.toNat≤q.count.toNat:=by omega
 have hlen:((Aa7 q).take (min n.toNat q.count.toNat)).length=min n.toNat q.count.toNat:=by
  rw [List.length_take,Hn0];omega
 rw [hlen]
 have hok:=H49 hq hm
 generalize min n.toNat q.count.toNat=m at *
 obtain ⟨w1,_⟩:=A25 A.c (i:=x.pipe) (by omega) hok
 have hwp:=A.wp hpx hok
 have hvt:=Gb5 A.c (i:=x.pipe) (by omega) hok
 generalize Dr6 q m=q2 at *
 have hfv:(Ak2 q (Df9 b b2))[36]?=some (Df9 b b2):=by
  unfold Ak2;rw [List.getElem?_append_right (by rw [Ab6 q.len];exact Nat.le_refl _),Ab6 q.len];rfl
 (refine Jc ?_;unhygienic intros)
 refine Yn fun b4 h=>?_
 (refine Ja ?_;unhygienic intros)
 simp only [List.nil_append]
 refine Yc (Ge7 c k b b2 F X ok x q2) ?_;rintro _ h ⟨rfl,o⟩<;>refine Jh o ?_
 rw [w1]
 dsimp only
 (refine Ja ?_;unhygienic intros)
 refine Ys fun o=>?_
 exact ⟨a,cap,A21 X x.pipe q2,hwp,hvt,rfl,o.sub⟩
structure WrS where
 n:Int
 e:Int
 blk:Bool
def Bl7 (V:VW) (i fd:Int) (l:List UInt8):WrS × VW :=
 if (ofW V i fd).2≠0 then (⟨0,(ofW V i fd).2,false⟩,V)
 else if (ofW V i fd).1.2.kind≠2 then (⟨0,109,false⟩,V)
 else if l.length>32 then (⟨0,122,false⟩,V)
 else if l.length=0 then (⟨0,0,false⟩,V)
 else if (V.P (ofW V i fd).1.2.pipe).2≠1 then (⟨0,105,false⟩,V)
 else if 32-(V.P (ofW V i fd).1.2.pipe).1.count=0∨l.length≤8∧32-(V.P (ofW V i fd).1.2.pipe).1.count<l.length then
  if (ofW V i fd).1.2.flags=1 then (⟨0,111,false⟩,V) else (⟨0,0,true⟩,V)
 else (⟨(H2 (V.P (ofW V i fd).1.2.pipe).1 l).2,0,false⟩,wP V (ofW V i fd).1.2.pipe (H2 (V.P (ofW V i fd).1.2.pipe).1 l).1)
theorem Br8:∀ (l:List UInt8) (p:PipeS),okP p=true→okP (H2 p l).1=true
 | [],p,h=>h
 | b::l,p,h=>by
  unfold H2
  split
  ·exact h
  ·rename_i hc;exact Br8 l _ (E22 h hc b)
abbrev wrL (w:WrS):List Value:=H3 w.n w.e w.blk
theorem B67 (c k:Nat) (F:Fr) (X:CX) (ok:FrOk F) (V:VW) (A:See X V) (i fd:Int) (hi:0≤i∧i<8) (hp:(ofW V i fd).2=0→(ofW V i fd).1.2.kind=2→0≤(ofW V i fd).1.2.pipe∧(ofW V i fd).1.2.pipe<6∧(V.P (ofW V i fd).1.2.pipe).1.readers≠0)
  (pb:HP) (a:Option Addr) (ro:Bool) (cc:Nat) (l:List UInt8) (hl:l.length≤A8) [ks:IsSl pb a ro A2 1 l.length cc (A0 l)] :
  Ct A6 Af1 [P0 c,int i,int fd,.slice a l.length cc] [cmC c k F X,pb] fun v own=>∃ X',See X' (Bl7 V i fd l).2∧vT X'=vT X∧v=.agg ⟨wrL (Bl7 V i fd l).1⟩∧own [cmC c k F X',pb]:=by
 have eo:=A.ofv hi fd
 unfold Bl7
 refine Ct.of Go3 rfl fun h r=>Tr.eq (Gq4 ..) ?_;refine Je ?_
 refine Yn fun b0 h=>?_
 refine Yc (Gr9 c k F X ok A.c i fd hi) ?_;rintro _ h ⟨rfl,o⟩<;>refine Jh o ?_
 rw [eo]
 (refine Jc ?_;unhygienic intros)
 refine Yn fun b1 h=>?_
 (refine Jb ?_;unhygienic intros)
 generalize (ofW V i fd).1.2=x at *
 generalize (ofW V i fd).2=e at *
 by_cases h1:e=0
 case neg =>
  rw [if_pos h1]
  refine Yt (by simpa using h1) ?_
  refine Yc (Bp3 e) ?_;rintro _ h ⟨rfl,o⟩<;>(refine Jf o ?_;unhygienic intros)
  refine Ys fun o=>?_
  exact ⟨X,A,rfl,rfl,o.sub⟩
 have n1:¬ e≠0:=by simpa using h1
 rw [if_neg n1]
 refine Yf (by simpa using h1) ?_
 (refine Jb ?_;unhygienic intros)
 by_cases h2:x.kind=2
 case neg =>
  rw [if_pos h2]
  refine Yt (by simpa using h2) ?_
  refine Yc (Bp3 109) ?_;rintro _ h ⟨rfl,o⟩<;>(refine Jf o ?_;unhygienic intros)
  refine Ys fun o=>?_
  exact ⟨X,A,rfl,rfl,o.sub⟩
 have n2:¬ x.kind≠2:=by simpa using h2
 rw [if_neg n2]
 refine Yf (by simpa using h2) ?_
 obtain ⟨hp0,hp6,hrd⟩:=hp h1 h2
 by_cases h3:l.length>32
 ·rw [if_pos h3]
  refine Yt (by rw [decide_eq_true_iff];omega) ?_
  refine Yc (Bp3 122) ?_;rintro _ h ⟨rfl,o⟩<;>(refine Jf o ?_;unhygienic intros)
  refine Ys fun o=>?_
  exact ⟨X,A,rfl,rfl,o.sub⟩
 rw [if_neg h3]
 refine Yf (by rw [decide_eq_false_iff_not];omega) ?_
 by_cases h4:l.length=0
 ·rw [if_pos h4]
  refine Yt (by rw [beq_iff_eq];omega) ?_
  (refine Ja ?_;unhygienic intros)
  refine Ys fun o=>?_
  exact ⟨X,A,rfl,rfl,o.sub⟩
 rw [if_neg h4]
 refine Yf (by rw [beq_eq_false_iff_ne];omega) ?_
 (refine Ja ?_;unhygienic intros)
 refine Yc (Hz1 c k F X ok A.c x (by omega) (by omega)) ?_
 rintro _ h ⟨b,b2,rfl,o⟩
 refine Jh o ?_
 have hvp:=A.p x.pipe ⟨hp0,hp6⟩
 rw [hvp]
 have hq:(V.P x.pipe).2=1→okP (V.P x.pipe).1=true:=fun h=>by
  rcases H78 A.c (i:=x.pipe) (by omega) with ⟨h6,_⟩|⟨_,h6⟩
  ·rw [hvp,h] at h6;cases h6
  ·rw [hvp] at h6;exact h6
 generalize hqq:(V.P x.pipe).1=q at *
 generalize (V.P x.pipe).2=st at *
 (refine Jc ?_;unhygienic intros)
 refine Yn fun b3 h=>?_
 (refine Jb ?_;unhygienic intros)
 by_cases h5:st=1
 case neg =>
  rw [if_pos h5]
  refine Yt (by simpa using h5) ?_
  refine Yc (Bp3 105) ?_;rintro _ h ⟨rfl,o⟩<;>(refine Jf o ?_;unhygienic intros)
  refine Ys fun o=>?_
  exact ⟨X,A,rfl,rfl,o.sub⟩
 have n5:¬ st≠1:=by simpa using h5
 rw [if_neg n5]
 refine Yf (by simpa using h5) ?_
 replace hq:=hq h5
 obtain ⟨r1,r2,r3,r4⟩:=Ab7 hq
 have e1:IntKind.wrap .i64 (32-q.count)=32-q.count:=by rw [A7];omega
 (refine Jb ?_;unhygienic intros)
 refine Yf (by simpa using hrd) ?_
 (refine Jb ?_;unhygienic intros)
 rw [e1]
 by_cases a1:32-q.count=0
 ·rw [if_pos (.inl a1)]
  refine Yb (Yt (by rw [beq_iff_eq];exact a1) ?_)
  refine Ys fun o=>(?_:Tr _ _ _ _) o;refine Je ?_
  refine Yt rfl ?_
  (refine Ja ?_;unhygienic intros)
  refine Yc (E01 x) ?_;rintro _ h ⟨rfl,o⟩<;>refine Jh o ?_
  by_cases h7:x.flags=1
  ·rw [if_pos h7,if_pos h7]
   (refine Ja ?_;unhygienic intros)
   refine Ys fun o=>?_
   exact ⟨X,A,rfl,rfl,o.sub⟩
  ·rw [if_neg h7,if_neg h7]
   (refine Ja ?_;unhygienic intros)
   refine Ys fun o=>?_
   exact ⟨X,A,rfl,rfl,o.sub⟩
 refine Yb (Yf (by rw [beq_eq_false_iff_ne];exact a1) ?_)
 by_cases a2:l.length≤8
 ·by_cases a3:32-q.count<l.length
  ·rw [if_pos (.inr ⟨a2,a3⟩)]
   refine Yb (Yt (by rw [decide_eq_true_iff];omega) ?_)
   refine Ys fun o=>(?_:Tr _ _ _ _) o;refine Je ?_
   refine Ys fun o=>(?_:Tr _ _ _ _) o;refine Je ?_
   refine Yt (by rw [decide_eq_true_iff];exact a3) ?_
   (refine Ja ?_;unhygienic intros)
   refine Yc (E01 x) ?_;rintro _ h ⟨rfl,o⟩<;>refine Jh o ?_
   by_cases h7:x.flags=1
   ·rw [if_pos h7,if_pos h7]
    (refine Ja ?_;unhygienic intros)
    refine Ys fun o=>?_
    exact ⟨X,A,rfl,rfl,o.sub⟩
   ·rw [if_neg h7,if_neg h7]
    (refine Ja ?_;unhygienic intros)
    refine Ys fun o=>?_
    exact ⟨X,A,rfl,rfl,o.sub⟩
  ·rw [if_neg (fun h=>h.elim a1 fun h=>a3 h.2)]
   refine Yb (Yt (by rw [decide_eq_true_iff];omega) ?_)
   refine Ys fun o=>(?_:Tr _ _ _ _) o;refine Je ?_
   refine Ys fun o=>(?_:Tr _ _ _ _) o;refine Je ?_
   refine Yf (by rw [decide_eq_false_iff_not];exact a3) ?_
   (refine Ja ?_;unhygienic intros)
   refine Yc (Gb9 q hq pb a ro cc l (by omega)) ?_;rintro _ h ⟨rfl,o⟩<;>refine Jh o ?_
   have hok:=Br8 l q hq
   obtain ⟨w1,_⟩:=A25 A.c (i:=x.pipe) (by omega) hok
   have hwp:=A.wp ⟨hp0,hp6⟩ hok
   have hvt:=Gb5 A.c (i:=x.pipe) (by omega) hok
   generalize (H2 q l).1=q2 at *
   have hfv:(Ak2 q (Df9 b b2))[36]?=some (Df9 b b2):=by
    unfold Ak2;rw [List.getElem?_append_right (by rw [Ab6 q.len];exact Nat.le_refl _),Ab6 q.len];rfl
   (refine Jc ?_;unhygienic intros)
   refine Yn fun b4 h=>?_
   (refine Ja ?_;unhygienic intros)
   simp only [List.nil_append]
   refine Yc (Ge7 c k b b2 F X ok x q2) ?_;rintro _ h ⟨rfl,o⟩<;>refine Jh o ?_
   rw [w1]
   dsimp only
   (refine Ja ?_;unhygienic intros)
   refine Ys fun o=>?_
   exact ⟨A21 X x.pipe q2,hwp,hvt,rfl,o.sub⟩
 ·rw [if_neg (fun h=>h.elim a1 fun h=>a2 h.1)]
  refine Yb (Yf (by rw [decide_eq_false_iff_not];omega) ?_)
  refine Ys fun o=>(?_:Tr _ _ _ _) o;refine Je ?_
  refine Ys fun o=>(?_:Tr _ _ _ _) o;refine Je ?_
  refine Yf rfl ?_
  (refine Ja ?_;unhygienic intros)
  refine Yc (Gb9 q hq pb a ro cc l (by omega)) ?_;rintro _ h ⟨rfl,o⟩<;>refine Jh o ?_
  have hok:=Br8 l q hq
  obtain ⟨w1,_⟩:=A25 A.c (i:=x.pipe) (by omega) hok
  have hwp:=A.wp ⟨hp0,hp6⟩ hok
  have hvt:=Gb5 A.c (i:=x.pipe) (by omega) hok
  generalize (H2 q l).1=q2 at *
  have hfv:(Ak2 q (Df9 b b2))[36]?=some (Df9 b b2):=by
   unfold Ak2;rw [List.getElem?_append_right (by rw [Ab6 q.len];exact Nat.le_refl _),Ab6 q.len];rfl
  (refine Jc ?_;unhygienic intros)
  refine Yn fun b4 h=>?_
  (refine Ja ?_;unhygienic intros)
  simp only [List.nil_append]
  refine Yc (Ge7 c k b b2 F X ok x q2) ?_;rintro _ h ⟨rfl,o⟩<;>refine Jh o ?_
  rw [w1]
  dsimp only
  (refine Ja ?_;unhygienic intros)
  refine Ys fun o=>?_
  exact ⟨A21 X x.pipe q2,hwp,hvt,rfl,o.sub⟩
theorem Gm1 (l:List UInt8) (j n:Nat) (x:UInt8) (h:j<l.length):(l.set j x).getD n 0=if n=j then x else l.getD n 0:=by
 rw [List.getD_eq_getElem?_getD,List.getD_eq_getElem?_getD,List.getElem?_set]
 by_cases hj:j=n
 ·subst hj;simp [h]
 ·rw [if_neg hj,if_neg (fun e=>hj e.symm)]
theorem Ho6 {p:PipeS} (hp:okP p=true) (hc:p.count≠32) (b:UInt8):Aa7 (At2 p b)=Aa7 p++[b]:=by
 obtain ⟨r1,r2,r3,r4⟩:=Ab7 hp
 have hl:=p.len
 have hj:((p.head+p.count)%32).toNat<p.data.length:=by rw [hl];omega
 have e:(At2 p b).count.toNat=p.count.toNat+1:=by show (p.count+1).toNat=_;omega
 unfold Aa7
 rw [e]
 unfold bytesN
 rw [List.range_succ,List.map_append]
 congr 1
 ·refine List.map_congr_left fun j hj2=>?_
  have:=List.mem_range.1 hj2
  show (p.data.set _ b).getD (((p.head+j)%32).toNat) 0=_
  rw [Gm1 _ _ _ _ hj,if_neg (by omega)]
 ·show [(p.data.set _ b).getD (((p.head+(p.count.toNat:Nat))%32).toNat) 0]=[b]
  rw [Gm1 _ _ _ _ hj,if_pos (by rw [show ((p.count.toNat:Nat):Int)=p.count by omega])]
theorem Dq0:∀ (l:List UInt8) (p:PipeS),okP p=true→(H2 p l).2=min (l.length:Int) (32-p.count)∧(H2 p l).1.count=p.count+(H2 p l).2∧Aa7 (H2 p l).1=Aa7 p++l.take (H2 p l).2.toNat∧(H2 p l).1.readers=p.readers∧(H2 p l).1.writers=p.writers
 | [],p,h=>by
  have:=Ab7 h
  refine ⟨by show (0:Int)=min ((([]:List UInt8).length:Nat):Int) (32-p.count);rw [List.length_nil];omega,by simp [H2],by simp [H2],rfl,rfl⟩
 | b::l,p,h=>by
  have hr:=Ab7 h
  unfold H2
  by_cases hc:p.count=32
  ·rw [if_pos hc]
   refine ⟨by simp;omega,by simp,by simp,rfl,rfl⟩
  ·rw [if_neg hc]
   obtain ⟨h1,h2,h3,h4,h5⟩:=Dq0 l (At2 p b) (E22 h hc b)
   have hn:=Gh8 l (At2 p b)
   have hk:(At2 p b).count=p.count+1:=rfl
   refine ⟨?_,?_,?_,h4,h5⟩
   ·show (H2 (At2 p b) l).2+1=_
    rw [h1,hk,List.length_cons];omega
   ·show (H2 (At2 p b) l).1.count=p.count+((H2 (At2 p b) l).2+1)
    rw [h2,hk];omega
   ·show Aa7 (H2 (At2 p b) l).1=Aa7 p++(b::l).take ((H2 (At2 p b) l).2+1).toNat
    rw [h3,Ho6 h hc,show ((H2 (At2 p b) l).2+1).toNat=(H2 (At2 p b) l).2.toNat+1 by omega,List.take_succ_cons]
    simp
theorem Hb1 (c k:Nat) (F:Fr) (X:CX) (ok:FrOk F) (p:PipeS):Ct A6 O1 [P0 c,.agg ⟨E6 p⟩] [cmC c k F X] fun v own=>v=.bool (B23 X p).1∧own [cmC c k F (B23 X p).2]:=by
 refine Ct.of Dh0 rfl fun h r=>Tr.eq (Dd7 ..) ?_;refine Je ?_
 (refine Ja ?_;unhygienic intros)
 refine Yc (D75 p) ?_
 rintro v h (⟨hk,a,rfl,o⟩|⟨hk,rfl,o⟩)
 ·refine (?_:Tr _ _ _ _) o
  refine Je ?_
  (refine Ja ?_;unhygienic intros)
  have J:=B81 c k F X ⟨4,0⟩ ok (I3 p) true a 40 (fun _=>Ax8 p.len)
  rw [Ax8 p.len] at J
  refine Yc (J) ?_;rintro _ h ⟨rfl,o⟩<;>(refine Jf o ?_;unhygienic intros)
  refine Ys fun o=>?_
  unfold B23;rw [hk]
  exact ⟨rfl,o.sub⟩
 ·refine (?_:Tr _ _ _ _) o
  refine Je ?_
  (refine Ja ?_;unhygienic intros)
  refine Yc (Df7 c k F X ⟨4,0⟩ ok) ?_;rintro _ h ⟨rfl,o⟩<;>(refine Jf o ?_;unhygienic intros)
  refine Ys fun o=>?_
  unfold B23;rw [hk,Ei7]
  exact ⟨rfl,o.sub⟩
theorem Ij8 {nc:Nat} {X:CX} (c:Clean nc X):((vT X).2=0∧(vT X).1=.zero)∨((vT X).2=1∧okP (vT X).1=true):=by
 have:=c.ok ⟨4,0⟩ (by simp) (by simp) (by simp) (by simp [U7])
 have hk:(vT X).2≠2:=this
 unfold vT Q0 at hk ⊢
 split
 ·exact .inl ⟨rfl,rfl⟩
 ·split
  ·rename_i h2
   unfold isP at h2
   simp only [Bool.and_eq_true] at h2
   exact .inr ⟨rfl,h2.1⟩
  ·rename_i h1 h2;simp [h1,h2] at hk
theorem Hd1 {nc:Nat} {X:CX} (c:Clean nc X):D51 X=(vT X,X):=Bt7 Q0 .zero c H51 rfl
abbrev Ig6 (X:CX) (p:PipeS):CX:=Br4 X ⟨4,0⟩ (I3 p)
theorem Gc5 {nc:Nat} {X:CX} (c:Clean nc X) {p:PipeS} (ok:okP p=true):B23 X p=(true,Ig6 X p):=by
 unfold B23;rw [ok];exact Bu1 c H51 _
theorem H50 (c k:Nat) (F:Fr) (X:CX) (ok:FrOk F) {nc:Nat} (cl:Clean nc X) (ht:(vT X).2=1) (pb:HP) (a:Option Addr) (ro:Bool) (cc:Nat) (l:List UInt8) (hl:l.length≤1000) [ks:IsSl pb a ro A2 1 l.length cc (A0 l)] :
  Ct A6 By2 [P0 c,.slice a l.length cc] [cmC c k F X,pb] fun v own=>v=int (H2 (vT X).1 l).2∧own [cmC c k F (Ig6 X (H2 (vT X).1 l).1),pb]:=by
 have hq:okP (vT X).1=true:=by
  rcases Ij8 cl with ⟨h,_⟩|⟨_,h⟩
  ·rw [ht] at h;cases h
  ·exact h
 have hw:=Gc5 cl (Br8 l _ hq)
 refine Ct.of Gv1 rfl fun h r=>Tr.eq (Gs7 ..) ?_;refine Je ?_
 refine Yc (Hf6 c k F X ok) ?_;rintro _ h ⟨rfl,o⟩<;>refine Jh o ?_
 rw [Ga8 cl]
 (refine Ja ?_;unhygienic intros)
 refine Yc (G40 c k F X ok) ?_;rintro _ h ⟨rfl,o⟩<;>refine Jh o ?_
 rw [Hd1 cl]
 dsimp only
 rw [ht]
 generalize (vT X).1=q at *
 (refine Jc ?_;unhygienic intros)
 refine Yn fun b1 h=>?_
 (refine Jb ?_;unhygienic intros)
 refine Yf rfl ?_
 (refine Jb ?_;unhygienic intros)
 refine Yc (Gb9 q hq pb a ro cc l hl) ?_;rintro _ h ⟨rfl,o⟩<;>refine Jh o ?_
 generalize (H2 q l).1=q2 at *
 (refine Jc ?_;unhygienic intros)
 refine Yn fun b2 h=>?_
 (refine Jb ?_;unhygienic intros)
 refine Yc (Hb1 c k F X ok q2) ?_;rintro _ h ⟨rfl,o⟩<;>refine Jh o ?_
 rw [hw]
 dsimp only
 (refine Jb ?_;unhygienic intros)
 refine Ys fun o=>?_
 exact ⟨rfl,o.sub⟩
theorem of2:ofW VD 0 2=((2,⟨2,0,1,0⟩),0):=by kernel_rfl
theorem vTD:(vT XD).2=1∧(vT XD).1.count=0:=⟨by kernel_rfl,by kernel_rfl⟩
def VA1:VW:=(Bl7 VD 0 2 [7,8,9]).2
def VA2:VW:=(A08 VA1 0 1 8).2
theorem aw1:(Bl7 VD 0 2 [7,8,9]).1=⟨3,0,false⟩:=by kernel_rfl
theorem aw2:(A08 VA1 0 1 8).1=⟨[7,8,9],0,false⟩:=by kernel_rfl
theorem aw3:(A08 VA2 0 1 8).1=⟨[],0,true⟩:=by kernel_rfl
theorem Ga1:Ct A6 A90 [] [] fun v own=>v=.bool true∧own []:=by
 refine Ct.of Gn7 rfl fun h r=>Tr.eq (Gp3 ..) ?_;refine Je ?_
 refine Yc (G51) ?_;rintro _ h ⟨a,rfl,o⟩<;>refine Jh o ?_
 (refine Ja ?_;unhygienic intros)
 refine Yc (Hd9 a) ?_
 rintro _ h ⟨k,c,w,m,K',rfl,o⟩
 refine Jh o ?_
 (refine Ja ?_;unhygienic intros)
 refine Yc (Gs6 c k F1 X1 Ak1 Ey3 0 (by omega)) ?_;rintro _ h ⟨rfl,o⟩<;>refine Jh o ?_
 rw [Hy5,show (A31 X1 0).2=XD from rfl]
 (refine Jc ?_;unhygienic intros)
 refine Yn fun b0 h=>?_
 refine W6 0 rfl 1 3 rfl (by omega) ?_
 have J:=B67 c k F1 XD Ak1 VD H40 0 2 (by omega) (fun _ _=>by rw [of2];exact ⟨by decide,by decide,by rw [show (VD.P (⟨2,0,1,0⟩:FileS).pipe).1.readers=1 by kernel_rfl];decide⟩) (slC false A2 1 (some ⟨b0,0,none⟩) 3 3 (A0 [7,8,9])) (some ⟨b0,0,none⟩) false 3 [7,8,9] (by simp [A8])
 rw [aw1] at J
 refine (?_:Tr (slC false A2 1 (some ⟨b0,0,none⟩) 3 3 (A0 [7,8,9])::cmC c k F1 XD::_) _ _ _)
 refine Yc J ?_
 rintro _ h ⟨XA,s1,t1,rfl,o⟩
 refine Jh o ?_
 (refine Jc ?_;unhygienic intros)
 refine Yn fun b1 h=>?_
 (refine Ja ?_;unhygienic intros)
 have o1:(ofW VA1 0 1)=((1,⟨1,0,1,0⟩),0):=by kernel_rfl
 have m1:Y2 VA1 0 1 8=(⟨1,0,1,0⟩,0):=by kernel_rfl
 have J:=D52 c k F1 XA Ak1 VA1 s1 0 1 8 (by omega) (by rw [o1];decide) (fun _=>by rw [m1];exact ⟨by decide,by decide⟩)
 rw [aw2] at J
 refine Yc J ?_
 rintro _ h ⟨a2,cap,XB,s2,t2,rfl,o⟩
 refine Jh o ?_
 (refine Jc ?_;unhygienic intros)
 refine Yn fun b2 h=>?_
 (refine Ja ?_;unhygienic intros)
 have o1:(ofW VA2 0 1)=((1,⟨1,0,1,0⟩),0):=by kernel_rfl
 have m1:Y2 VA2 0 1 8=(⟨1,0,1,0⟩,0):=by kernel_rfl
 have J:=D52 c k F1 XB Ak1 VA2 s2 0 1 8 (by omega) (by rw [o1];decide) (fun _=>by rw [m1];exact ⟨by decide,by decide⟩)
 rw [aw3] at J
 refine Yc J ?_
 rintro _ h ⟨a3,cap3,XC,s3,t3,rfl,o⟩
 refine Jh o ?_
 (refine Jc ?_;unhygienic intros)
 refine Yn fun b3 h=>?_
 (refine Jb ?_;unhygienic intros)
 refine Yb (Yt rfl ?_)
 (refine Jb ?_;unhygienic intros)
 refine Ys fun o=>(?_:Tr _ _ _ _) o;refine Je ?_
 refine Yb (Yt rfl ?_)
 (refine Jb ?_;unhygienic intros)
 refine Ys fun o=>(?_:Tr _ _ _ _) o;refine Je ?_
 refine Yb (Yt (by simp) ?_)
 (refine Jb ?_;unhygienic intros)
 refine Ys fun o=>(?_:Tr _ _ _ _) o;refine Je ?_
 refine Yb (Yt rfl ?_)
 refine Yn fun b4 h=>?_
 refine W6 0 rfl 1 1 rfl (by omega) ?_
 have ht:vT XC=vT XD:=t3.trans (t2.trans t1)
 have J:=H50 c k F1 XC Ak1 s3.c (by rw [ht];exact vTD.1) (slC false A2 1 (some ⟨b4,0,none⟩) 1 1 (A0 [1])) (some ⟨b4,0,none⟩) false 1 [1] (by simp)
 have hT:(H2 (vT XD).1 [1]).2=1:=by
  unfold H2;rw [if_neg (by rw [vTD.2];decide)];rfl
 rw [ht,hT] at J
 refine (?_:Tr (slC false A2 1 (some ⟨b4,0,none⟩) 1 1 (A0 [1])::_::cmC c k F1 XC::_) _ _ _)
 refine Yc J ?_
 rintro _ h ⟨rfl,o⟩
 refine Jh o ?_
 (refine Jb ?_;unhygienic intros)
 refine Ys fun o=>(?_:Tr _ _ _ _) o;refine Je ?_
 refine Ys fun o=>?_
 exact ⟨rfl,o.sub⟩
theorem Ef8 (V:VW) (j:Int) (q:PipeS) (i fd:Int):ofW (wP V j q) i fd=ofW V i fd:=rfl
theorem H26 (V:VW) (j:Int) (q:PipeS):(wP V j q).P j=(q,1):=by
 show (if j=j then (q,(1:Int)) else V.P j)=_
 rw [if_pos rfl]
theorem H73 (V:VW) (j:Int) (q q':PipeS):wP (wP V j q) j q'=wP V j q':=by
 refine VW.ext' (fun _=>rfl) (fun _=>rfl) fun n=>?_
 show (if n=j then _ else if n=j then _ else _)=if n=j then _ else _
 by_cases h:n=j
 ·rw [if_pos h,if_pos h]
 ·rw [if_neg h,if_neg h,if_neg h]
theorem Ib7 {V:VW} {j:Int} {q:PipeS} (h:V.P j=(q,1)):wP V j q=V:=by
 refine VW.ext' (fun _=>rfl) (fun _=>rfl) fun n=>?_
 show (if n=j then _ else _)=_
 by_cases hn:n=j
 ·rw [if_pos hn,hn,h]
 ·rw [if_neg hn]
section
variable {V:VW} {i fd f r fl j:Int} {q:PipeS}
theorem G38 (ho:ofW V i fd=((f,⟨2,j,r,fl⟩),0)) (l:List UInt8) (hl:l.length≤32):Bl7 (wP V j q) i fd l=if l.length=0 then (⟨0,0,false⟩,wP V j q) else if 32-q.count=0∨l.length≤8∧32-q.count<l.length then (if fl=1 then (⟨0,111,false⟩,wP V j q) else (⟨0,0,true⟩,wP V j q)) else (⟨(H2 q l).2,0,false⟩,wP V j (H2 q l).1):=by
 unfold Bl7
 rw [Ef8,ho]
 dsimp only
 rw [H26]
 rw [if_neg (by simp),if_neg (by simp),if_neg (by omega)]
 by_cases h0:l.length=0
 ·rw [if_pos h0,if_pos h0]
 ·rw [if_neg h0,if_neg h0,if_neg (by simp),H73]
theorem Ic9 (ho:ofW V i fd=((f,⟨1,j,r,fl⟩),0)) {n:Int} (hn:0≤n∧n≤32):Y2 (wP V j q) i fd n=(⟨1,j,r,fl⟩,0):=by
 unfold Y2
 rw [Ef8,ho]
 dsimp only
 rw [if_neg (by simp),if_neg (by simp),if_neg (by omega)]
theorem Hx7 (ho:ofW V i fd=((f,⟨1,j,r,fl⟩),0)) {n:Int} (hn:0≤n∧n≤32):A08 (wP V j q) i fd n=if n=0 then (⟨[],0,false⟩,wP V j q) else if q.count=0 then (if q.writers=0 then (⟨[],0,false⟩,wP V j q) else if fl=1 then (⟨[],111,false⟩,wP V j q) else (⟨[],0,true⟩,wP V j q)) else (⟨(Aa7 q).take (min n.toNat q.count.toNat),0,false⟩,wP V j (Dr6 q (min n.toNat q.count.toNat))):=by
 unfold A08
 rw [Ic9 ho hn]
 dsimp only
 rw [H26]
 by_cases h0:n=0
 ·rw [if_pos (.inr h0),if_pos h0]
 ·rw [if_neg (fun h=>h.elim (by simp) h0),if_neg h0,if_neg (by simp)]
  dsimp only
  by_cases h1:q.count=0
  ·rw [if_pos h1,if_pos h1]
   by_cases h2:q.writers=0
   ·rw [if_pos ⟨rfl,h2⟩,if_pos h2]
   ·rw [if_neg (fun h=>h2 h.2),if_neg h2]
  ·rw [if_neg h1,if_neg h1,H73]
end
theorem Hs0 {V:VW} {i fd f r fl j:Int} {q:PipeS} (ho:ofW V i fd=((f,⟨1,j,r,fl⟩),0)):(ofW (wP V j q) i fd).1.2.kind≠3:=by rw [Ef8,ho];simp
theorem H90 {V:VW} {i fd f r fl j:Int} (n:Int) {q:PipeS} (ho:ofW V i fd=((f,⟨1,j,r,fl⟩),0)) (hj:0≤j∧j<6):(Y2 (wP V j q) i fd n).2=0→0≤(Y2 (wP V j q) i fd n).1.pipe∧(Y2 (wP V j q) i fd n).1.pipe<6:=by
 intro _
 unfold Y2
 rw [Ef8,ho]
 dsimp only
 rw [if_neg (by simp),if_neg (by simp)]
 split<;>exact hj
theorem Gr4 {V:VW} {i fd f r fl j:Int} {q:PipeS} (ho:ofW V i fd=((f,⟨2,j,r,fl⟩),0)) (hj:0≤j∧j<6) (hq:q.readers≠0):(ofW (wP V j q) i fd).2=0→(ofW (wP V j q) i fd).1.2.kind=2→0≤(ofW (wP V j q) i fd).1.2.pipe∧(ofW (wP V j q) i fd).1.2.pipe<6∧((wP V j q).P (ofW (wP V j q) i fd).1.2.pipe).1.readers≠0:=fun _ _=>by
 rw [Ef8,ho]
 dsimp only
 rw [H26]
 exact ⟨hj.1,hj.2,hq⟩
theorem Ia2 {V:VW} {i fd f r fl j:Int} {q:PipeS} (hq:okP q=true) (ho:ofW V i fd=((f,⟨2,j,r,fl⟩),0)) (l:List UInt8) (hl:q.count+l.length≤32) :
  ∃ q',Bl7 (wP V j q) i fd l=(⟨l.length,0,false⟩,wP V j q')∧okP q'=true∧q'.count=q.count+l.length∧Aa7 q'=Aa7 q++l∧q'.readers=q.readers∧q'.writers=q.writers:=by
 have hr:=Ab7 hq
 rw [G38 ho l (by omega)]
 by_cases h0:l.length=0
 ·have:l=[]:=List.eq_nil_of_length_eq_zero h0
  subst this
  rw [if_pos h0]
  exact ⟨q,rfl,hq,by simp,by simp,rfl,rfl⟩
 ·rw [if_neg h0,if_neg (by omega)]
  obtain ⟨h1,h2,h3,h4,h5⟩:=Dq0 l q hq
  have e:(H2 q l).2=l.length:=by rw [h1];omega
  rw [e] at h2 h3
  refine ⟨(H2 q l).1,by rw [e],Br8 l q hq,h2,?_,h4,h5⟩
  rw [h3,Int.toNat_natCast,List.take_length]
def VF1:VW:=(Il1 VD 0).2
def VF (f t:Int):VW:=(Ay9 (Ay9 VF1 f 1).2 t 2).2
structure FtOk (f t:Int):Prop where
 rf:0≤f∧f<8
 rt:0≤t∧t<8
 c1:(Ay9 VF1 f 1).1=H3 0 0 false
 c2:(Ay9 (Ay9 VF1 f 1).2 t 2).1=H3 0 0 false
 p0:(VF f t).P 0=(Ai1,1)
 o1:ofW (VF f t) f 2=((2,⟨2,0,1,0⟩),0)
 o2:ofW (VF f t) t 1=((1,⟨1,0,1,0⟩),0)
 o3:ofW (VF f t) f 1=((0,.zero),109)
 o4:ofW (VF f t) t 2=((0,.zero),109)
 c5:∀ hd d dl,(Ay9 (wP (VF f t) 0 ⟨hd,0,1,1,d,dl⟩) f 2).1=H3 0 0 false
 o6:∀ hd d dl,ofW (Ay9 (wP (VF f t) 0 ⟨hd,0,1,1,d,dl⟩) f 2).2 t 1=((1,⟨1,0,1,0⟩),0)
 r6:∀ hd d dl,(A08 (Ay9 (wP (VF f t) 0 ⟨hd,0,1,1,d,dl⟩) f 2).2 t 1 5).1=⟨[],0,false⟩
def U1 (V:VW) (hd:Int) (d:List UInt8) (dl:d.length=32):List Value × VW:=Ay9 (wP V 0 ⟨hd,0,1,0,d,dl⟩) 0 1
def U2 (V:VW) (hd:Int) (d:List UInt8) (dl:d.length=32):List Value × VW:=E51 (U1 V hd d dl).2 0
def U3 (V:VW) (hd:Int) (d:List UInt8) (dl:d.length=32):List Value × VW:=Ay9 (U2 V hd d dl).2 0 1
structure EndOk (V:VW):Prop where
 o1:ofW V 0 1=((1,⟨1,0,1,0⟩),0)
 u1:∀ hd d dl,(U1 V hd d dl).1=H3 0 0 false
 u2:∀ hd d dl,(U2 V hd d dl).1=H3 33 0 false
 u3:∀ hd d dl,(U3 V hd d dl).1=H3 0 0 false
 o2:∀ hd d dl,ofW (U3 V hd d dl).2 0 2=((2,⟨2,0,1,0⟩),0)
 p0:∀ hd d dl,(U3 V hd d dl).2.P 0=(Ig8 Ai1,1)
 s1:∀ hd d dl,(Ap0 (U3 V hd d dl).2 0).2=0
 s2:∀ hd d dl,((U3 V hd d dl).2.S 0).1.pending=0
 s3:∀ hd d dl,((U3 V hd d dl).2.S 0).1.ignored=0
 s4:∀ hd d dl,((U3 V hd d dl).2.S 0).1.state=1
abbrev Gr8 (x:FileS) (n:Int):FileS:=⟨x.kind,x.pipe,x.refs,n⟩
theorem Ic2 {x:FileS} (h:okF x=true) {n:Int} (hn:n=0∨n=1):okF (Gr8 x n)=true:=by
 simp only [okF,Bool.and_eq_true,Bool.or_eq_true,decide_eq_true_eq,beq_iff_eq,bne_iff_ne] at h ⊢
 omega
def Dt6 (V:VW) (i fd on:Int):List Value × VW :=
 if (ofW V i fd).2≠0 then (H3 0 (ofW V i fd).2 false,V)
 else if ¬ (on=0∨on=1) then (H3 0 122 false,V)
 else (H3 0 0 false,wF V (ofW V i fd).1.1 (Gr8 (ofW V i fd).1.2 on))
theorem Di0 (c k:Nat) (F:Fr) (X:CX) (ok:FrOk F) (V:VW) (A:See X V) (i fd on:Int) (hi:0≤i∧i<8) :
  Ct A6 Bf1 [P0 c,int i,int fd,int on] [cmC c k F X] fun v own=>∃ X',See X' (Dt6 V i fd on).2∧v=.agg ⟨(Dt6 V i fd on).1⟩∧own [cmC c k F X']:=by
 have eo:=A.ofv hi fd
 have ho:=G30 A.c (fd:=fd) hi
 rw [eo] at ho
 unfold Dt6
 refine Ct.of Hp8 rfl fun h r=>Tr.eq (Hu0 ..) ?_;refine Je ?_
 refine Yn fun b0 h=>?_
 refine Yc (Gr9 c k F X ok A.c i fd hi) ?_;rintro _ h ⟨rfl,o⟩<;>refine Jh o ?_
 rw [eo]
 (refine Jc ?_;unhygienic intros)
 refine Yn fun b1 h=>?_
 (refine Jb ?_;unhygienic intros)
 by_cases h1:(ofW V i fd).2=0
 case neg =>
  rw [if_pos h1]
  refine Yt (by simpa using h1) ?_
  refine Yc (As1 (ofW V i fd).2) ?_;rintro _ h ⟨rfl,o⟩<;>(refine Jf o ?_;unhygienic intros)
  refine Ys fun o=>?_
  exact ⟨X,A,rfl,o.sub⟩
 obtain ⟨o1,o2,o3,o4,o5,o6⟩:=ho h1
 have n1:¬ (ofW V i fd).2≠0:=by simpa using h1
 rw [if_neg n1]
 refine Yf (by simpa using h1) ?_
 generalize (ofW V i fd).1.1=f at *
 generalize (ofW V i fd).1.2=x at *
 refine Yn fun b2 h=>?_
 refine W6 0 rfl 1 2 rfl (by omega) ?_
 refine (?_:Tr (slC false B6 1 (some ⟨b2,0,none⟩) ([0,1]:List Int).length 2 (([0,1]:List Int).map int)::_::cmC c k F X::_) _ _ _)
 refine Tr.pcall (B60 (slC false B6 1 (some ⟨b2,0,none⟩) ([0,1]:List Int).length 2 (([0,1]:List Int).map int)) (some ⟨b2,0,none⟩) false 2 [0,1] on (by simp [A8])) ?_;refine Je ?_;(refine Jb ?_;unhygienic intros)
 by_cases h2:on=0∨on=1
 case neg =>
  rw [if_pos h2]
  refine Yt (by simpa using h2) ?_
  refine Yc (As1 122) ?_;rintro _ h ⟨rfl,o⟩<;>(refine Jf o ?_;unhygienic intros)
  refine Ys fun o=>?_
  exact ⟨X,A,rfl,o.sub⟩
 have n2:¬ ¬ (on=0∨on=1):=fun h=>h h2
 rw [if_neg n2]
 refine Yf (by rw [decide_eq_true (show on ∈ ([0,1]:List Int) by simpa using h2)];rfl) ?_
 have hok:=Ic2 o6 h2
 obtain ⟨w1,_⟩:=Ah8 A.c o4 hok
 have hw:=A.wf o4 hok
 (refine Ja ?_;unhygienic intros)
 simp only [List.set_cons_succ,List.set_cons_zero]
 (refine Ja ?_;unhygienic intros)
 refine (?_:Tr _ _ (bnd (A6 H9 [P0 c,int f,.agg ⟨Ae6 (Gr8 x on)⟩] _) _) _)
 generalize Gr8 x on=x2 at *
 refine Yc (B53 c k F X ok f x2) ?_;rintro _ h ⟨rfl,o⟩<;>refine Jh o ?_
 rw [w1]
 dsimp only
 (refine Ja ?_;unhygienic intros)
 refine Yc (E39 true 0) ?_;rintro _ h ⟨rfl,o⟩<;>refine Jh o ?_
 rw [if_pos trivial]
 (refine Ja ?_;unhygienic intros)
 refine Ys fun o=>?_
 exact ⟨Ar3 X f x2,hw,rfl,o.sub⟩
def VN1:VW:=(Gw1 VD 0 1).2
def VN2:VW:=(Dt6 VN1 0 1 1).2
def VN3:VW:=(Dt6 VN2 0 2 1).2
def VN4:VW:=(Dt6 VN3 0 2 0).2
theorem nn1:(Gw1 VD 0 1).1=H3 3 0 false:=by kernel_rfl
theorem nn2:(Dt6 VN1 0 1 1).1=H3 0 0 false:=by kernel_rfl
theorem nn3:(Dt6 VN2 0 2 1).1=H3 0 0 false:=by kernel_rfl
theorem nn4 (q:PipeS):Dt6 (wP VN3 0 q) 0 2 0=(H3 0 0 false,wP VN4 0 q):=by kernel_rfl
theorem nn5 (q:PipeS):Dt6 (wP VN4 0 q) 0 1 2=(H3 0 122 false,wP VN4 0 q):=by kernel_rfl
theorem nn6:VN3.P 0=(Ai1,1):=by kernel_rfl
theorem nn7:ofW VN3 0 3=((1,⟨1,0,2,1⟩),0):=by kernel_rfl
theorem nn8:ofW VN3 0 1=((1,⟨1,0,2,1⟩),0):=by kernel_rfl
theorem nn9:ofW VN3 0 2=((2,⟨2,0,1,1⟩),0):=by kernel_rfl
theorem H27:ofW VN4 0 2=((2,⟨2,0,1,0⟩),0):=by kernel_rfl
theorem wr1 {q:PipeS} (hq:okP q=true):∃ q':PipeS,∃ n:Int,∃ b:Bool,Bl7 (wP VN4 0 q) 0 2 [1]=(⟨n,0,b⟩,wP VN4 0 q')∧okP q'=true∧q'.readers=q.readers∧q'.count=min 32 (q.count+1)∧(q.count=32→b=true):=by
 have hr:=Ab7 hq
 rw [G38 H27 [1] (by simp),if_neg (by simp)]
 by_cases h0:q.count=32
 ·rw [if_pos (.inl (by omega)),if_neg (by decide)]
  exact ⟨q,0,true,rfl,hq,rfl,by omega,fun _=>rfl⟩
 ·rw [if_neg (by simp;omega)]
  obtain ⟨h1,h2,h3,h4,h5⟩:=Dq0 [1] q hq
  have e:(H2 q [1]).2=1:=by rw [h1];simp;omega
  exact ⟨(H2 q [1]).1,1,false,by rw [e],Br8 [1] q hq,h4,by rw [h2,e];omega,fun h=>absurd h h0⟩
theorem Em6 (k c:Nat):∀ (m i:Nat) (X:CX) (q:PipeS),i+m=40→okP q=true→q.readers=1→q.count≥min 32 (i:Int)→See X (wP VN4 0 q) →
  CtJ I8 J6 As6 [(6,P0 c),(12,int i)] [cmC c k F1 X] fun v own=>v=.bool true∧own []
 | 0,i,X,q,hi,hq,hr,hc,A=>by
  obtain rfl:i=40:=by omega
  have hrng:=Ab7 hq
  obtain ⟨q',n,bb,w1,p1,p2,p3,p4⟩:=wr1 hq
  have hb:=p4 (by omega)
  subst hb
  have J:=fun b1=>B67 c k F1 X Ak1 _ A 0 2 (by omega) (Gr4 H27 (by omega) (by rw [hr];decide)) (slC false A2 1 (some ⟨b1,0,none⟩) 1 1 (A0 [1])) (some ⟨b1,0,none⟩) false 1 [1] (by simp [A8])
  rw [w1] at J
  refine CtJ.of Br3 fun h r=>Tr.eq (B18 ..) ?_;refine Je ?_
  refine Yf rfl ?_
  refine Yn fun b1 h=>?_
  refine W6 0 rfl 1 1 rfl (by omega) ?_
  refine (?_:Tr (slC false A2 1 (some ⟨b1,0,none⟩) 1 1 (A0 [1])::cmC c k F1 X::_) _ _ _)
  refine Yc (J b1) ?_
  rintro _ h ⟨X',A',_,rfl,o⟩
  refine Jh o ?_
  (refine Jc ?_;unhygienic intros)
  refine Yn fun b2 h=>?_
  (refine Jb ?_;unhygienic intros)
  refine Yb (Yt rfl ?_)
  (refine Jb ?_;unhygienic intros)
  refine Ys fun o=>(?_:Tr _ _ _ _) o;refine Je ?_
  refine Yb (Yt rfl ?_)
  refine Yc (Ga1) ?_;rintro _ h ⟨rfl,o⟩<;>refine Jh o ?_
  (refine Jb ?_;unhygienic intros)
  refine Ys fun o=>(?_:Tr _ _ _ _) o;refine Je ?_
  refine Ys fun o=>?_
  exact ⟨rfl,o.sub⟩
 | m+1,i,X,q,hi,hq,hr,hc,A=>by
  have e1:IntKind.wrap .i64 ((i:Int)+1)=((i+1:Nat):Int):=by rw [A7];omega
  have hrng:=Ab7 hq
  obtain ⟨q',n,bb,w1,p1,p2,p3,p4⟩:=wr1 hq
  have J:=fun b1=>B67 c k F1 X Ak1 _ A 0 2 (by omega) (Gr4 H27 (by omega) (by rw [hr];decide)) (slC false A2 1 (some ⟨b1,0,none⟩) 1 1 (A0 [1])) (some ⟨b1,0,none⟩) false 1 [1] (by simp [A8])
  rw [w1] at J
  have H:=fun X' A'=>Em6 k c m (i+1) X' q' (by omega) p1 (p2.trans hr) (by rw [p3];omega) A'
  refine CtJ.of Br3 fun h r=>Tr.eq (B18 ..) ?_;refine Je ?_
  refine Yt (by simp;omega) ?_
  rw [e1]
  refine Yn fun b1 h=>?_
  refine W6 0 rfl 1 1 rfl (by omega) ?_
  refine (?_:Tr (slC false A2 1 (some ⟨b1,0,none⟩) 1 1 (A0 [1])::cmC c k F1 X::_) _ _ _)
  refine Yc (J b1) ?_
  rintro _ h ⟨X',A',_,rfl,o⟩
  refine Jh o ?_
  (refine Ja ?_;unhygienic intros)
  refine Az3 [0] 1 rfl rfl ?_
  exact Yr (H X' A') fun v h q=>q
theorem G68 (n:Int) (pb:HP) (a:Option Addr) (ro:Bool) (cc:Nat) (l:List UInt8) [ks:IsSl pb a ro A2 1 l.length cc (A0 l)]:Ct A6 J6 [int n,.slice a l.length cc] [pb] fun v own=>v=.bool true∧own []:=by
 refine Ct.of Br3 rfl fun h r=>Tr.eq (E15 ..) ?_;refine Je ?_
 refine Yc (G51) ?_;rintro _ h ⟨a1,rfl,o⟩<;>refine Jh o ?_
 (refine Ja ?_;unhygienic intros)
 refine Yc (Hd9 a1) ?_
 rintro _ h ⟨k,c,w,m,K',rfl,o⟩
 refine Jh o ?_
 (refine Jb ?_;unhygienic intros)
 refine Yb (Yf rfl ?_)
 refine Ys fun o=>(?_:Tr _ _ _ _) o;refine Je ?_
 by_cases hl:l.length>32
 ·refine Yt (by rw [decide_eq_true_iff];omega) ?_
  refine Yb (Yt rfl ?_)
  refine Yc (Ga1) ?_;rintro _ h ⟨rfl,o⟩<;>refine Jh o ?_
  (refine Jb ?_;unhygienic intros)
  refine Ys fun o=>(?_:Tr _ _ _ _) o;refine Je ?_
  refine Ys fun o=>?_
  exact ⟨rfl,o.sub⟩
 refine Yf (by rw [decide_eq_false_iff_not];omega) ?_
 refine Yc (Gs6 c k F1 X1 Ak1 Ey3 0 (by omega)) ?_;rintro _ h ⟨rfl,o⟩<;>refine Jh o ?_
 rw [Hy5,show (A31 X1 0).2=XD from rfl]
 (refine Jb ?_;unhygienic intros)
 obtain ⟨b1,B1⟩:=H40.dup (i:=0) (by omega) 1
 rw [nn1] at b1
 replace B1:See _ VN1:=B1
 refine Yc (Ic8 c k F1 XD Ak1 H40.c 0 1 (by omega)) ?_;rintro _ h ⟨rfl,o⟩<;>refine Jh o ?_
 rw [b1]
 generalize (E08 XD 0 1).2=XC at *
 (refine Jb ?_;unhygienic intros)
 refine Yb (Yf rfl ?_)
 have J:=Di0 c k F1 XC Ak1 VN1 B1 0 1 1 (by omega)
 rw [nn2] at J
 refine Yc J ?_
 rintro _ h ⟨XE,B2,rfl,o⟩
 refine Jh o ?_
 replace B2:See XE VN2:=B2
 (refine Jb ?_;unhygienic intros)
 refine Ys fun o=>(?_:Tr _ _ _ _) o;refine Je ?_
 refine Yb (Yf rfl ?_)
 have J:=Di0 c k F1 XE Ak1 VN2 B2 0 2 1 (by omega)
 rw [nn3] at J
 refine Yc J ?_
 rintro _ h ⟨XF,B3,rfl,o⟩
 refine Jh o ?_
 replace B3:See XF (wP VN3 0 Ai1):=by rw [Ib7 nn6];exact B3
 (refine Jb ?_;unhygienic intros)
 refine Ys fun o=>(?_:Tr _ _ _ _) o;refine Je ?_
 refine Yf rfl ?_
 have r1:A08 (wP VN3 0 Ai1) 0 3 5=(⟨[],111,false⟩,wP VN3 0 Ai1):=by
  rw [Hx7 nn7 (by omega),if_neg (by decide),if_pos (by rfl),if_neg (by decide),if_pos rfl]
 have r2:A08 (wP VN3 0 Ai1) 0 1 5=(⟨[],111,false⟩,wP VN3 0 Ai1):=by
  rw [Hx7 nn8 (by omega),if_neg (by decide),if_pos (by rfl),if_neg (by decide),if_pos rfl]
 have J:=D52 c k F1 XF Ak1 _ B3 0 3 5 (by omega) (Hs0 nn7) (H90 5 nn7 (by omega))
 rw [r1] at J
 refine Yc J ?_
 rintro _ h ⟨a2,cap,XG,B4,_,rfl,o⟩
 refine Jh o ?_
 replace B4:See XG (wP VN3 0 Ai1):=B4
 (refine Jb ?_;unhygienic intros)
 refine Yb (Yf rfl ?_)
 have J:=D52 c k F1 XG Ak1 _ B4 0 1 5 (by omega) (Hs0 nn8) (H90 5 nn8 (by omega))
 rw [r2] at J
 refine Yc J ?_
 rintro _ h ⟨a3,cap3,XH,B5,_,rfl,o⟩
 refine Jh o ?_
 replace B5:See XH (wP VN3 0 Ai1):=B5
 (refine Jb ?_;unhygienic intros)
 refine Ys fun o=>(?_:Tr _ _ _ _) o;refine Je ?_
 refine Yf rfl ?_
 have hn:0≤I4 .i64 n 31∧I4 .i64 n 31<32:=by rw [Ib8];omega
 generalize I4 .i64 n 31=z at *
 obtain ⟨j,rfl⟩:=Int.eq_ofNat_of_zero_le hn.1
 simp only [Int.toNat_natCast]
 refine Yb fun o=>Wp.mono (Q:=fun v h'=>∃ X' q,See X' (wP VN3 0 q)∧okP q=true∧q.readers=1∧q.count=(j:Int)∧v=false∧Own h' (cmC c k F1 X'::pb::r)) ?_ ?_
 ·refine Jh o ?_
  by_cases h0:j>0
  ·refine Yt (by rw [decide_eq_true_iff];omega) ?_
   refine Tr.ck (by simp only [A8];omega) ?_
   obtain ⟨q,w1,q1,q2,q3,q4,q5⟩:=Ia2 (q:=Ai1) (by rfl) nn9 (List.replicate j 0) (by rw [List.length_replicate];show (0:Int)+j≤32;omega)
   rw [List.length_replicate] at w1 q2
   refine Yn fun b2 h=>?_
   rw [Gd2]
   refine W6 0 rfl 1 j (by simp [A0]) (by omega) ?_
   have J:=B67 c k F1 XH Ak1 _ B5 0 2 (by omega) (Gr4 nn9 (by omega) (by decide)) (slC false A2 1 (some ⟨b2,0,none⟩) j j (A0 (List.replicate j 0))) (some ⟨b2,0,none⟩) false j (List.replicate j 0) (by rw [List.length_replicate];simp only [A8];omega) (ks:=by rw [List.length_replicate];infer_instance)
   rw [w1,List.length_replicate] at J
   refine (?_:Tr (slC false A2 1 (some ⟨b2,0,none⟩) j j (A0 (List.replicate j 0))::cmC c k F1 XH::_) _ _ _)
   refine Yc J ?_
   rintro _ h ⟨XI,C1,_,rfl,o⟩
   refine Jh o ?_
   (refine Jb ?_;unhygienic intros)
   refine Ys fun o=>?_
   exact ⟨XI,q,C1,q1,q4,q2.trans (by show (0:Int)+j=j;omega),by simp,o.sub⟩
  ·refine Yf (by rw [decide_eq_false_iff_not];omega) ?_
   refine Ys fun o=>?_
   exact ⟨XH,Ai1,B5,rfl,rfl,by show (0:Int)=j;omega,rfl,o.sub⟩
 rintro v h ⟨XI,q,C1,q1,q2,q3,rfl,o⟩
 refine Jh o ?_
 refine Yf rfl ?_
 have hx:∃ (q2:PipeS) (n2 e:Int),Bl7 (wP VN3 0 q) 0 2 l=(⟨n2,e,false⟩,wP VN3 0 q2)∧okP q2=true∧q2.readers=1∧e=(if l.length=0∨(l.length≤8∧(l.length:Int)≤32-j)∨l.length>8 then 0 else 111):=by
  rw [G38 nn9 l (by omega)]
  by_cases h0:l.length=0
  ·rw [if_pos h0,if_pos (.inl h0)];exact ⟨q,0,0,rfl,q1,q2,rfl⟩
  ·rw [if_neg h0]
   by_cases hb:32-q.count=0∨l.length≤8∧32-q.count<l.length
   ·rw [if_pos hb,if_pos rfl,if_neg (show ¬ (l.length=0∨(l.length≤8∧(l.length:Int)≤32-j)∨l.length>8) by omega)]
    exact ⟨q,0,111,rfl,q1,q2,rfl⟩
   ·rw [if_neg hb,if_pos (show (l.length=0∨(l.length≤8∧(l.length:Int)≤32-j)∨l.length>8) by omega)]
    obtain ⟨_,_,_,h4,_⟩:=Dq0 l q q1
    exact ⟨_,_,0,rfl,Br8 l q q1,h4.trans q2,rfl⟩
 obtain ⟨q2',n2,e,w1,g1,g2,he⟩:=hx
 have J:=B67 c k F1 XI Ak1 _ C1 0 2 (by omega) (Gr4 nn9 (by omega) (by rw [q2];decide)) pb a ro cc l (by simp only [A8];omega)
 rw [w1] at J
 refine Yc J ?_
 rintro _ h ⟨XJ,D,_,rfl,o⟩
 refine Jh o ?_
 replace D:See XJ (wP VN3 0 q2'):=D
 have ew:IntKind.wrap .i64 (32-(j:Int))=32-j:=by rw [A7];omega
 clear w1 J q1 q2
 rw [ew]
 (refine Jc ?_;unhygienic intros)
 refine Yn fun b2 h=>?_
 (refine Jb ?_;unhygienic intros)
 refine Yb fun o=>Wp.mono (Q:=fun v h'=>v=decide (l.length=0∨l.length≤8∧(l.length:Int)≤32-j)∧Own h' (pt b2 (.cells N3 false (H3 n2 e false))::cmC c k F1 XJ::pb::r)) ?_ ?_
 ·refine Jh o ?_
  by_cases h0:l.length=0
  ·refine Yt (by rw [beq_iff_eq];omega) ?_
   refine Ys fun o=>?_
   exact ⟨(decide_eq_true (.inl h0)).symm,o.sub⟩
  refine Yf (by rw [beq_eq_false_iff_ne];omega) ?_
  by_cases h8:l.length≤8
  ·refine Yb (Yt (by rw [decide_eq_true_iff];omega) ?_)
   refine Ys fun o=>(?_:Tr _ _ _ _) o;refine Je ?_
   refine Ys fun o=>?_
   exact ⟨by rw [Bool.eq_iff_iff,decide_eq_true_iff,decide_eq_true_iff];omega,o.sub⟩
  ·refine Yb (Yf (by rw [decide_eq_false_iff_not];omega) ?_)
   refine Ys fun o=>(?_:Tr _ _ _ _) o;refine Je ?_
   refine Ys fun o=>?_
   exact ⟨(decide_eq_false (by omega)).symm,o.sub⟩
 rintro v h ⟨rfl,o⟩
 refine Jh o ?_
 refine Yb fun o=>Wp.mono (Q:=fun v h'=>v=decide (l.length=0∨(l.length≤8∧(l.length:Int)≤32-j)∨l.length>8)∧Own h' (pt b2 (.cells N3 false (H3 n2 e false))::cmC c k F1 XJ::pb::r)) ?_ ?_
 ·refine Jh o ?_
  by_cases h0:l.length=0∨l.length≤8∧(l.length:Int)≤32-j
  ·refine Yt (decide_eq_true h0) ?_
   refine Ys fun o=>?_
   exact ⟨(decide_eq_true (by omega)).symm,o.sub⟩
  refine Yf (decide_eq_false h0) ?_
  by_cases h8:l.length>8
  ·refine Yb (Yt (by rw [decide_eq_true_iff];omega) ?_)
   refine Ys fun o=>(?_:Tr _ _ _ _) o;refine Je ?_
   refine Ys fun o=>?_
   exact ⟨by rw [Bool.eq_iff_iff,decide_eq_true_iff,decide_eq_true_iff];omega,o.sub⟩
  ·refine Yb (Yf (by rw [decide_eq_false_iff_not];omega) ?_)
   refine Ys fun o=>(?_:Tr _ _ _ _) o;refine Je ?_
   refine Ys fun o=>?_
   exact ⟨(decide_eq_false (by omega)).symm,o.sub⟩
 rintro v h ⟨rfl,o⟩
 refine Jh o ?_
 (refine Jb ?_;unhygienic intros)
 refine Yb (Yf rfl ?_)
 (refine Jb ?_;unhygienic intros)
 refine Ys fun o=>(?_:Tr _ _ _ _) o;refine Je ?_
 by_cases hf:l.length=0∨(l.length≤8∧(l.length:Int)≤32-j)∨l.length>8
 ·rw [if_pos hf] at he
  subst he
  rw [decide_eq_true hf]
  refine Yb (Yf rfl ?_)
  refine Yb (Yf rfl ?_)
  refine Ys fun o=>(?_:Tr _ _ _ _) o;refine Je ?_
  refine Ys fun o=>(?_:Tr _ _ _ _) o;refine Je ?_
  refine Yf rfl ?_
  have J:=Di0 c k F1 XJ Ak1 _ D 0 2 0 (by omega)
  rw [nn4] at J
  refine Yc J ?_
  rintro _ h ⟨XK,D2,rfl,o⟩
  refine Jh o ?_
  replace D2:See XK (wP VN4 0 q2'):=D2
  (refine Jb ?_;unhygienic intros)
  refine Yb (Yf rfl ?_)
  have J:=Di0 c k F1 XK Ak1 _ D2 0 1 2 (by omega)
  rw [nn5] at J
  refine Yc J ?_
  rintro _ h ⟨XL,D3,rfl,o⟩
  refine Jh o ?_
  replace D3:See XL (wP VN4 0 q2'):=D3
  (refine Jb ?_;unhygienic intros)
  refine Ys fun o=>(?_:Tr _ _ _ _) o;refine Je ?_
  refine Yf rfl ?_
  refine Az3 [0] 2 rfl rfl ?_
  exact Yr (Em6 k c 40 0 XL q2' rfl g1 g2 (by have:=Ab7 g1;omega) D3) fun v h q=>q
 ·rw [if_neg hf] at he
  subst he
  rw [decide_eq_false hf]
  refine Yb (Yf rfl ?_)
  refine Yb (Yt rfl ?_)
  (refine Jb ?_;unhygienic intros)
  refine Ys fun o=>(?_:Tr _ _ _ _) o;refine Je ?_
  refine Ys fun o=>(?_:Tr _ _ _ _) o;refine Je ?_
  refine Yf rfl ?_
  have J:=Di0 c k F1 XJ Ak1 _ D 0 2 0 (by omega)
  rw [nn4] at J
  refine Yc J ?_
  rintro _ h ⟨XK,D2,rfl,o⟩
  refine Jh o ?_
  replace D2:See XK (wP VN4 0 q2'):=D2
  (refine Jb ?_;unhygienic intros)
  refine Yb (Yf rfl ?_)
  have J:=Di0 c k F1 XK Ak1 _ D2 0 1 2 (by omega)
  rw [nn5] at J
  refine Yc J ?_
  rintro _ h ⟨XL,D3,rfl,o⟩
  refine Jh o ?_
  replace D3:See XL (wP VN4 0 q2'):=D3
  (refine Jb ?_;unhygienic intros)
  refine Ys fun o=>(?_:Tr _ _ _ _) o;refine Je ?_
  refine Yf rfl ?_
  refine Az3 [0] 2 rfl rfl ?_
  exact Yr (Em6 k c 40 0 XL q2' rfl g1 g2 (by have:=Ab7 g1;omega) D3) fun v h q=>q
end Go.EQ

set_option maxRecDepth 100000
namespace Go.EQ
open Go Go.NN Go.Proofs Go.ChangeShapes Go.WideShapes Go.RowKit
theorem Id3:∀ f,(cutsOf f).globs=0:=Ej1 H75 (by kernel_rfl)
theorem Ib4:∀ f,(cutsOf f).globs≤PR.globals.size:=fun f=>by rw [Id3 f];exact Nat.zero_le _
theorem Id0:PR.follows .mixedOrders=true:=by kernel_rfl
theorem Ii9:laidOutB PR=true:=by kernel_rfl
theorem Ik9:ownKnob PR.godebug=none:=by kernel_rfl
end Go.EQ

set_option maxRecDepth 100000
namespace Go.EQ
open Go Go.NN Go.Proofs Go.Proofs.YtnmdbfbjdhgmlaaGreat Go.ChangeShapes Go.WideShapes Go.RowKit
theorem Ic3 {H:Type} {enc:TypeId × Value→H} {W:World} {v0 v1:Value} {d0 d1:DataW H} {p0 p1:List MemPlace} {b0:Nat} (k0:Value.okWide PR W .any b0 B6 v0) (k1:Value.okWide PR W .any b0 Gl8 v1)
  (h0:DataW.Trod enc PR W 0 (fun _=>true) true B6 v0 d0 p0) (h1:DataW.Trod enc PR W 0 (fun _=>true) true Gl8 v1 d1 p1) :
  Calls PR J6 #[v0,v1] W fun e W'=>e=.returned (.bool true)∧Below W.heap.size W W':=by
 obtain ⟨x0,_,i0⟩:=Ah0.argInt Il0 k0 h0
 obtain ⟨x1,hl1,i1⟩:=(Ah0.bytes (P:=PR) (W:=W) A2 Gl3 Ib5 (by kernel_rfl)).arg (Hc1 Gl3 k1) h1
 refine (i0.app i1).run Id0 Ib4 fun vs ps J hh r o=>?_
 obtain ⟨_,_,_,_,hv0,hp0,⟨e0a,e0b⟩,⟨⟨a1,c1⟩,e1a,e1b⟩⟩:=J
 subst e0a
 subst e0b
 subst e1a
 subst e1b
 subst hv0
 subst hp0
 have O:Own hh ([(slC true A2 1 a1 x1.length c1 (A0 x1))]++r):=by
  exact o
 obtain ⟨v,h',e,rfl,_⟩:=G68 x0 (slC true A2 1 a1 x1.length c1 (A0 x1)) a1 true c1 x1 hh r O
 exact ⟨h',e⟩
theorem H52 (os:Os) (started:os.Started) (H:Type) (enc:TypeId × Value→H) :
  ReturnsInHanded {} Tryz.checked os J6 .any (Rows.pipesNowSpec.pre6 enc Tryz.prog Tryz.f4 Rows.pipesNowRow.domain false) (Rows.pipesNowSpec.post enc Tryz.prog Tryz.f4 false true false false):=by
 refine returnsInHanded_of_change (C:=Tryz.checked) Ik9 started (by kernel_rfl) Tryz.func4
  (ChangeSpec.witness6 (enc:=enc) (C:=Tryz.checked) false ⟨#[],#[.int .i64 0,.slice none 0 0],[]⟩ 8 (by kernel_rfl) (by kernel_rfl) (by kernel_rfl) (by kernel_rfl)) ?_
 intro W base args ds gs before hval hW hcnd _
 have hW':=hW
 obtain ⟨p,q,hA,hV,rfl,hfz,hnd⟩:=hW
 rw [Tryz.params4] at hA hval
 obtain ⟨v0,v1,d0,d1,p0,p1,rfl,rfl,rfl,h0,h1⟩:=trodAll_two hA
 refine (Ic3 (hval 0 _ v0 rfl rfl) (hval 1 _ v1 rfl rfl) h0 h1).mono fun e W' ⟨he,hb⟩=>?_
 subst he
 refine ⟨_,rfl,Hq9 Ii9 ?_ rfl If3 rfl (fun ds gs hl=>?_) hW' hb⟩
 ·rw [Tryz.params4];intro t ht;simp at ht;rcases ht with rfl|rfl<;>exact ⟨by kernel_rfl,of_decide_eq_true (by kernel_rfl)⟩
 ·replace hl:ds.length=2:=hl
  cases gs with
  | cons _ _=>exact .inr (by simp)
  | nil=>match ds,hl with|[_,_],_=>exact .inl rfl
theorem Ii8:Tryz.pinned.checked.prog.funcNamed Rows.pipesNowRow.func=some J6:=by kernel_rfl
theorem H65:joinedFacts Tryz.pinned.checked.prog J6 Tryz.f4 Rows.pipesNowSpec Rows.pipesNowRow=true:=by kernel_rfl
theorem If7:Tryz.f4.isInstance Tryz.pinned.checked.prog Rows.pipesNowRow.origin Rows.pipesNowRow.targs:=of_decide_eq_true (by kernel_rfl)
theorem Ie8:Tryz.f4.isWrapper Tryz.pinned.checked.prog Rows.pipesNowRow.wrapper Rows.pipesNowRow.mainSum:=by unfold Func.isWrapper;first|(rw [if_pos (by decide +kernel)];kernel_rfl)|(rw [if_neg (by decide +kernel)];exact ⟨rfl,rfl⟩)
theorem PipesNow_holds:Rows.PipesNowSaid :=
 OpenClaim.holds_of_wide J6 Tryz.f4 rfl rfl rfl rfl rfl rfl rfl ⟨rfl,rfl,rfl,rfl,rfl⟩ rfl rfl rfl rfl rfl Ii8 Tryz.func4 H65 If7 Ie8
  (fun os started H enc _=>H52 os started H enc)
end Go.EQ
