/- A child has its parent's descriptors, of the same files: what the one closes the other still has; what the one writes the other reads; no conditions. -/
import Derived.Test.YtnmdbfbjdhgmlaaGreatMh
import Derived.KernelRfl
import Derived.Test.YtnmdbfbjdhgmlaaGreatRows
set_option linter.all false
set_option maxRecDepth 10000
namespace Go.EQ
open Go Go.NN
theorem Gi3 (k:Nat) (S:KS) (A:KA):CtP B6 An4 [P0 k] [pt k (.cells D02 false (Ey6 S A))] (P0 A.s):=by
 refine CtP.of E08 rfl fun h r=>Tr.eq (E14 ..) ?_;refine Je ?_
 exact Jz
theorem Ih8 (k:Nat) (S:KS) (N:Nat) (ok:KOk N S) (env:Int):Ct B6 Bs0 [P0 k,int env] [E6 k S] fun v own =>
  (A52 S.tabs env≠[]∧∃ c,v=.tuple ⟨[P0 c,int 0]⟩∧own [W6 c k env (A52 S.tabs env) [],E6 k S])∨(A52 S.tabs env=[]∧v=.tuple ⟨[.pointer none,int 1]⟩∧own [E6 k S]):=by
 refine Ct.of Gv6 rfl fun h r=>Tr.eq (Gw0 ..) ?_;refine Je ?_
 refine D1 (E6 k S) fun ⟨m,s,q,rg,ea,ec,ma,mc,ms,sa,sc,ss⟩=>?_;refine Je ?_
 (refine Jb ?_;unhygienic intros)
 refine Yb (Yf rfl ?_)
 refine Tr.pcall (Gi3 k S ⟨m,s,q,rg,ea,ec,ma,mc,ms,sa,sc,ss⟩) ?_;refine Je ?_;(refine Ja ?_;unhygienic intros)
 try dsimp only
 refine Yc (Gg9 s S.tabs env ok.space) ?_;rintro _ h ⟨a0,c0,rfl,o⟩<;>refine Jh o ?_
 (refine Ja ?_;unhygienic intros)
 refine Ys fun o=>(?_:Tr _ _ _ _) o;refine Je ?_
 by_cases hz:A52 S.tabs env=[]
 ·refine Yt (by simp [hz]) ?_
  refine B9 (E6 k S) ⟨m,s,q,rg,ea,ec,ma,mc,ms,sa,sc,ss⟩ ?_;refine Je ?_
  refine Ys fun o=>?_
  exact .inr ⟨hz,rfl,o.sub⟩
 ·refine Yf ?_ ?_
  ·rw [beq_eq_false_iff_ne]
   intro h0
   exact hz (List.eq_nil_of_length_eq_zero (by omega))
  refine Tr.pcall (Gi3 k S ⟨m,s,q,rg,ea,ec,ma,mc,ms,sa,sc,ss⟩) ?_;refine Je ?_;(refine Ja ?_;unhygienic intros)
  try dsimp only
  refine Yc (Gg9 s S.tabs env ok.space) ?_;rintro _ h ⟨a1,c1,rfl,o⟩<;>refine Jh o ?_
  (refine Jc ?_;unhygienic intros)
  refine Yn fun mb h=>?_
  refine Yn fun c h=>?_
  refine B9 (E6 k S) ⟨m,s,q,rg,ea,ec,ma,mc,ms,sa,sc,ss⟩ ?_;refine Je ?_
  refine E8 (W6 c k env (A52 S.tabs env) []) (a1,c1,mb) [1,2,1] rfl ?_;refine Je ?_
  refine Ys fun o=>?_
  exact .inl ⟨hz,c,rfl,o.sub⟩
def A85:PlanS:=⟨[false,false],[(0,1),(1,0)],5⟩
theorem Id1:Ct B6 B04 [] [] fun v own=>∃ A,v=.agg ⟨Ey5 A85 A⟩∧own (Di7 A85 A):=by
 refine Ct.of G22 rfl fun h r=>Tr.eq (Hc8 ..) ?_;refine Je ?_
 (refine Jc ?_;unhygienic intros;rename H=>h)
 refine Yn fun b h=>?_
 refine Yn fun b1 h=>?_
 refine Yn fun b2 h=>?_
 (refine Ja ?_;unhygienic intros;rename H=>h)
 refine Aa1 0 rfl 2 2 rfl (by omega) ?_
 refine Aa1 1 rfl 1 2 rfl (by omega) ?_
 refine Je ?_
 refine Ys fun o=>?_
 exact ⟨⟨some ⟨b1,0,none⟩,2,some ⟨b2,0,none⟩,2⟩,rfl,(show Own h (slC false By9 2 (some ⟨b2,0,none⟩) A85.brs.length 2 (A85.brs.flatMap brL)::slC false D67 1 (some ⟨b1,0,none⟩) A85.bad.length 2 (A85.bad.map Value.bool)::_) from o).sub⟩
def Ah2:BootS:=Eq9 A85
theorem Gz5:Br7 Ah2=true:=by kernel_rfl
theorem E22:Small Ah2:=by
 have e:Ah2=⟨[20,20],[0,0,0,0,0,0,0,0,0,1,1,1,1,1,1,1,1,1],[[0],[1]],5,[⟨0,0,0,492,[0]⟩,⟨1,0,0,492,[1]⟩,⟨0,8,0,40,[0,1]⟩,⟨1,9,0,40,[1,0]⟩]⟩:=by kernel_rfl
 rw [e]
 exact ⟨by simp [B7],by simp [B7],by simp [B7]⟩
theorem Bt5:Ah2=⟨[20,20],[0,0,0,0,0,0,0,0,0,1,1,1,1,1,1,1,1,1],[[0],[1]],5,[⟨0,0,0,492,[0]⟩,⟨1,0,0,492,[1]⟩,⟨0,8,0,40,[0,1]⟩,⟨1,9,0,40,[1,0]⟩]⟩:=by kernel_rfl
theorem Ig9:RBoot Ah2 (Ai5 Ah2.frames):=by
 rw [Bt5]
 refine ⟨by simp,by simp,by simp,fun x hx=>?_,fun x hx=>?_⟩
 ·simp only [List.mem_cons,List.not_mem_nil,or_false] at hx
  rcases hx with rfl|rfl|rfl|rfl<;>simp [B7]
 ·simp only [List.mem_cons,List.not_mem_nil,or_false] at hx
  rcases hx with rfl|rfl|rfl|rfl<;>simp [Ai5]
def S00:KS:=D42 Ah2
theorem G48:KOk 0 S00:=Ii0 Gz5 E22
def wrS (S:KS) (cap:Int) (b:List UInt8):KS:=(Z2 S 0 ⟨2,cap,0,0,0,0,b⟩).2
def S0:KS:=wrS S00 256 Ac4
theorem Is3:(Z2 S00 0 ⟨2,256,0,0,0,0,Ac4⟩).1.1=0:=by kernel_rfl
theorem Ig2:A52 S00.tabs 0=[256,257,258]:=by kernel_rfl
def wrR (K:RKS) (cap:Int) (b:List UInt8):RKS:={ K with R:=(Ah8 K.R 0 cap 0 b).2 }
def K0:RKS:=wrR (De6 Ah2) 256 Ac4
theorem D82:RKOk (De6 Ah2)∧(De6 Ah2).B=Ah2:=Ik0 (by rw [Bt5];simp) (by rw [Bt5];simp)
theorem Gc2 {K:RKS} (k:RKOk K) (cap:Int) (b:List UInt8):RKOk (wrR K cap b):=Ik2 k 0 cap 0 b
theorem H84:By5 K0 0≠[]:=by
 have:By5 K0 0=[256,257,258]:=by kernel_rfl
 rw [this];simp
theorem Ab7:Ac4.length=492:=by kernel_rfl
theorem Dp1 {l:List HP} {h:H} {α:Type} {Q:α→H→Prop} {x:Option (α × H)} (i:Nat) {b n:Nat} {cs:List Value} (hi:l[i]?=some (pt b (.cells B1 false cs))) (hn:cs.length=n) (t:Tr (l.set i (slC false B1 1 (some (L8 b)) n n cs)) h x Q):Tr l h x Q:=fun o=>by
 refine t (Own.back (h:=h) hi ?_)
 have o1:=o.front hi
 refine Own.slShut (pre:=[]) (post:=[]) (by simpa using o1) ⟨by omega,Nat.le_refl _,by simp,by simp,by simp,by omega,by simp⟩
theorem Ii2 (A:PlA):Ct B6 Bj1 [.agg ⟨Ey5 A85 A⟩] (Di7 A85 A) fun v own =>
  ∃ k c w m,v=.tuple ⟨[P0 k,P0 c,P0 w,P0 m]⟩∧own [E6 k S0,W6 c k 0 [256,257,258] [],rkC w K0,rcC m w 0 (By5 K0 0) []]:=by
 have hB:Eq9 A85=Ah2:=rfl
 obtain ⟨ba,bc,ra,rc⟩:=A
 refine Ct.of G54 rfl fun h r=>Tr.eq (G73 ..) ?_;refine Je ?_
 refine Yn fun b0 h=>?_
 (refine Ja ?_;unhygienic intros)
 refine Yc (Ij0 A85 ⟨ba,bc,ra,rc⟩ (by simp [A85]) (by simp [A85])) ?_;rintro _ h ⟨A,kA,rfl,o⟩<;>refine Jh o ?_
 rw [hB] at kA ⊢
 obtain ⟨fa,fc,ea,ec,sa,sc,ss,ha,hc,hs⟩:=A
 (refine Jc ?_;unhygienic intros)
 refine Yn fun b1 h=>?_
 (refine Ja ?_;unhygienic intros)
 have J:=Ip7 false Ah2 ⟨fa,fc,ea,ec,sa,sc,ss,ha,hc,hs⟩ kA E22
 simp only [Gz5,if_true] at J
 refine Yc (J) ?_;rintro _ h ⟨k,rfl,o⟩<;>refine Jh o ?_
 (refine Jb ?_;unhygienic intros)
 refine Yb (Yf rfl ?_)
 refine Ys fun o=>(?_:Tr _ _ _ _) o;refine Je ?_
 refine Yf rfl ?_
 (refine Ja ?_;unhygienic intros)
 refine Yc (Hg3 Ah2 ⟨fa,fc,ea,ec,sa,sc,ss,ha,hc,hs⟩ kA (by rw [Bt5];simp) Ig9) ?_;rintro _ h ⟨w,rfl,o⟩<;>refine Jh o ?_
 (refine Ja ?_;unhygienic intros)
 refine Yc (Ih8 k (D42 Ah2) 0 G48 0) ?_
 rintro v h (⟨hz,c,rfl,o⟩|⟨hz,rfl,o⟩)
 case inr=>exact absurd hz (by rw [show D42 Ah2=S00 from rfl,Ig2];simp)
 rw [show D42 Ah2=S00 from rfl,Ig2] at o
 refine (?_:Tr _ _ _ _) o
 refine Je ?_
 (refine Jb ?_;unhygienic intros)
 refine Yb (Yf rfl ?_)
 refine Ys fun o=>(?_:Tr _ _ _ _) o;refine Je ?_
 refine Yf rfl ?_
 refine Yc (Gt5) ?_;rintro _ h ⟨rfl,o⟩<;>refine Jh o ?_
 (refine Jc ?_;unhygienic intros)
 refine Tr.ck (by rw [A46,Ab7];simp [B7]) ?_
 rw [A46,Ab7]
 refine Yn fun b2 h=>?_
 refine Dp1 (n:=492) 0 rfl (by rw [V2,show (bs Ac4).data.toList=Ac4 from rfl,Ab7]) ?_
 refine Je ?_
 have J2:=D44 k S00 0 G48 (by omega) 0 ⟨2,256,0,0,0,0,Ac4⟩ (some (L8 b2)) 492 false (show ((2:Int)≠5) by decide)
 simp only [Ab7] at J2
 refine Bt8 J2 [2,0] rfl ?_
 rintro _ h ⟨y,d,rfl,o⟩
 rw [Is3]
 rw [show (Z2 S00 0 ⟨2,256,0,0,0,0,Ac4⟩).2=S0 from rfl] at o
 refine (?_:Tr _ _ _ _) o
 refine Je ?_
 (refine Jc ?_;unhygienic intros)
 refine Yf rfl ?_
 refine Tr.ck (by simp [B7]) ?_
 refine Yn fun b3 h=>?_
 refine Dp1 (n:=492) 0 rfl (by rw [V2,Ab7]) ?_
 refine Je ?_
 have J3:=Ey7 w (De6 Ah2) D82.1 0 (by rw [D82.2,Bt5];simp) ⟨2,256,0,0,0,0,Ac4⟩ rfl (by rw [Ab7];simp [B7]) (slC false B1 1 (some (L8 b3)) Ac4.length 492 (A0 Ac4)) (some (L8 b3)) 492 false
 simp only [Ab7] at J3
 refine Yc J3 ?_
 rintro _ h ⟨rfl,o⟩
 rw [show ({ De6 Ah2 with R:=(Ah8 (De6 Ah2).R ((0:Nat):Int) 256 0 Ac4).2 }:RKS)=K0 from rfl] at o
 refine (?_:Tr _ _ _ _) o
 refine Je ?_
 (refine Ja ?_;unhygienic intros)
 refine Yc (Gl2 w K0 (Gc2 D82.1 256 Ac4) 0 (by show (0:Nat)<(De6 Ah2).B.envs.length;rw [D82.2,Bt5];simp)) ?_
 rintro v h (⟨_,m,rfl,o⟩|⟨hn,rfl,o⟩)
 case inr=>exact absurd hn H84
 refine (?_:Tr _ _ _ _) o
 refine Je ?_
 (refine Ja ?_;unhygienic intros)
 refine Ys fun o=>?_
 exact ⟨k,c,w,m,rfl,o.sub⟩
def B15 (mem:List UInt8) (rg:Rg):List (List UInt8):=rg.map fun p=>slice mem p.1 p.2
theorem Hb8 {mem:List UInt8} {rg:Rg} {j lo n:Nat} (h:rg[j]?=some (lo,n)):(B15 mem rg)[j]?=some (slice mem lo n):=by unfold B15;rw [List.getElem?_map,h];rfl
theorem G20 {mem:List UInt8} {rg:Rg} (h:∀ (j lo n:Nat),rg[j]?=some (lo,n)→lo+n≤mem.length):Fit mem.length rg (B15 mem rg):=⟨by simp [B15],fun j lo n hj=>⟨h j lo n hj,slice mem lo n,Hb8 hj,Gt8 (h j lo n hj)⟩⟩
theorem H81 {mem:List UInt8} {rg:Rg} (k:RgOk rg) (h:∀ (j lo n:Nat),rg[j]?=some (lo,n)→lo+n≤mem.length):A19 mem rg (B15 mem rg)=mem:=by
 have f:=G20 h
 refine List.ext_getElem? fun i=>?_
 by_cases ho:∃ (j lo n:Nat),rg[j]?=some (lo,n)∧lo≤i∧i<lo+n
 ·obtain ⟨j,lo,n,hj,h1,h2⟩:=ho
  obtain ⟨i',rfl⟩:∃ i',i=lo+i':=⟨i-lo,by omega⟩
  rw [B76 f k j lo n _ hj (Hb8 hj) i' (by omega),Bx5,if_pos (by omega)]
 ·exact Dt8 f i fun j lo n hj=>by
   by_cases hh:lo≤i∧i<lo+n
   ·exact absurd ⟨j,lo,n,hj,hh.1,hh.2⟩ ho
   ·omega
theorem FrOk.room {F:Fr} {j lo n:Nat} (f:Fit F.S.mem.length F.rg (B15 F.S.mem F.rg)) (h:F.rg[j]?=some (lo,n)):lo+n≤F.S.mem.length:=(f.each j lo n h).1
theorem Fr.at_cut {F:Fr} (k:FrOk F) (h:∀ (j lo n:Nat),F.rg[j]?=some (lo,n)→lo+n≤F.S.mem.length):F.at (B15 F.S.mem F.rg)=F.S:=by
 unfold Fr.at;rw [H81 k.dj h];rfl
theorem Own.cmTake {r:List HP} {h:H} (c k:Nat) (F:Fr) (bad:List RecS) (ok:FrOk F) (hr:∀ (j lo n:Nat),F.rg[j]?=some (lo,n)→lo+n≤F.S.mem.length) (o1:Own h (E6 k F.S::W6 c k F.env F.caps bad::r)):Own h (cmC c k F ⟨B15 F.S.mem F.rg,bad⟩::r):=by
 refine Own.inex (f:=fun u:Unit=>sl (cmF c k F ⟨B15 F.S.mem F.rg,bad⟩)) () (Own.group (l:=cmF c k F ⟨B15 F.S.mem F.rg,bad⟩) ?_)
 show Own h (E6 k (F.at (B15 F.S.mem F.rg))::W6 c k F.env F.caps bad::pu _::r)
 rw [Fr.at_cut ok hr]
 have o2:=Own.inpure (show Fit F.S.mem.length F.rg (B15 F.S.mem F.rg) from G20 hr) o1
 exact o2.picks [1,1,0] rfl
theorem Il6 {l r:List HP} {h:H} {α:Type} {Q:α→H→Prop} {x:Option (α × H)} (c k:Nat) (F:Fr) (X:CX) [tk:Take (cmC c k F X) l r]
  (t:Fit F.S.mem.length F.rg X.m→Tr (E6 k (F.at X.m)::W6 c k F.env F.caps X.bad::r) h x Q):Tr l h x Q:=fun o=>by
 have o1:Own h (cmC c k F X::r):=o.perm tk.pm
 obtain ⟨u,o2⟩:=Own.ex (f:=fun u:Unit=>sl (cmF c k F X)) o1
 have o3:Own h (E6 k (F.at X.m)::W6 c k F.env F.caps X.bad::pu (Fit F.S.mem.length F.rg X.m)::r):=Own.join o2
 have f:=(o3.front (i:=2) rfl).pure
 exact t f (o3.front (i:=2) rfl).tail
theorem Hr3 {S:KS} {env cap obj:Int} {lo n:Nat} {e1 e2:Int} (hg:Bs8 S.tabs env cap=some ⟨obj,3,0,(n:Int),e1,e2⟩) (h0:0≤obj) (hr:S.regs[obj.toNat]?=some ((lo:Int),(n:Int))) (hl:lo+n≤65536) :
  ∀ (a m:Nat) (right:Int),right=1∨right=2→a+m≤n→Q0 S.tabs S.regs env cap right a m=(((lo+a:Nat):Int),0):=by
 intro a m right hri ha
 have hlt:=(List.getElem?_eq_some_iff.1 hr).1
 unfold Q0
 rw [hg]
 have b1:(Q9 .i64 3 1==0)=false:=by kernel_rfl
 have b2:(Q9 .i64 3 2==0)=false:=by kernel_rfl
 have hb:¬ ((Q9 .i64 3 right==0)=true):=by rcases hri with rfl|rfl<;>simp [b1,b2]
 simp only
 have h2:(decide ((a:Int)<0) || decide ((m:Int)<0) || decide ((a:Int)>(n:Int)) || decide ((m:Int)>IntKind.wrap .i64 ((n:Int)-a)) || decide (obj<0) || decide (obj≥S.regs.length))=false:=by
  simp only [Bool.or_eq_false_iff,decide_eq_false_iff_not,B5];omega
 have h3:(decide (IntKind.wrap .i64 (0+(a:Int))>(n:Int)) || decide ((m:Int)>IntKind.wrap .i64 (IntKind.wrap .i64 ((n:Int)-0)-a)))=false:=by
  simp only [Bool.or_eq_false_iff,decide_eq_false_iff_not,B5];omega
 have h4:IntKind.wrap .i64 (IntKind.wrap .i64 ((lo:Int)+0)+a)=((lo+a:Nat):Int):=by simp only [B5];omega
 rw [if_neg hb]
 simp only [h2,hr,h3,h4,Bool.false_eq_true,if_false]
structure Like (S:KS):Prop where
 ok:KOk 0 S
 tabs:S.tabs=S00.tabs
 regs:S.regs=S00.regs
 envs:S.envs=S00.envs
 mem:S.mem.length=2560
theorem Ed4 {S:KS} (k:Like S) {m:List UInt8} (h:m.length=2560):Like (Br1 S m) :=
 ⟨⟨k.ok.envs,k.ok.tabs,k.ok.space,k.ok.quota,by show m.length≤65536;omega,k.ok.regs,k.ok.may,k.ok.mayl,k.ok.nsect,k.ok.sects,k.ok.now⟩,k.tabs,k.regs,k.envs,h⟩
theorem In9:Like S00:=⟨G48,rfl,rfl,rfl,by kernel_rfl⟩
theorem Ih0 (S:KS) (k:Like S) (cap:Int) (b:List UInt8):Like (wrS S cap b):=by
 unfold wrS Z2
 split
 ·exact k
 ·exact Ed4 k (by rw [Hq3];exact k.mem)
theorem Dx0:Like S0:=Ih0 S00 In9 256 Ac4
def rgP (s:Nat):Rg:=[(1280*s,492),(512,40),(1856,40)]
def frP (S:KS) (s:Nat) (env:Int):Fr:=⟨S,0,env,[256,257,258],rgP s⟩
theorem G56:S00.regs=[(0,492),(1280,492),(512,40),(1856,40)]:=by kernel_rfl
theorem Ip2:S00.envs.length=18:=by kernel_rfl
structure EnvP (s:Nat) (env:Int):Prop where
 hs:s<2
 he:0≤env∧env<18
 a:Bs8 S00.tabs env 256=some ⟨s,3,0,492,0,0⟩
 b:Bs8 S00.tabs env 257=some ⟨2,3,0,40,0,0⟩
 c:Bs8 S00.tabs env 258=some ⟨3,3,0,40,0,0⟩
theorem G42:EnvP 0 0:=⟨by omega,by omega,by kernel_rfl,by kernel_rfl,by kernel_rfl⟩
theorem D64 {s j lo n:Nat} (h:(rgP s)[j]?=some (lo,n)):(j=0∧lo=1280*s∧n=492)∨(j=1∧lo=512∧n=40)∨(j=2∧lo=1856∧n=40):=by
 unfold rgP at h
 match j,h with
 | 0,h=>simp at h;omega
 | 1,h=>simp at h;omega
 | 2,h=>simp at h;omega
 | j+3,h=>simp at h
theorem Eg6 {S:KS} (k:Like S) {s:Nat} (hs:s<2) (env:Int):∀ (j lo n:Nat),(frP S s env).rg[j]?=some (lo,n)→lo+n≤(frP S s env).S.mem.length:=by
 intro j lo n h
 have hm:=k.mem
 have:=D64 h
 show lo+n≤S.mem.length
 omega
theorem G18 {S:KS} (k:Like S) {s:Nat} {env:Int} (e:EnvP s env):FrOk (frP S s env):=by
 have hs:=e.hs;have he:=e.he
 refine ⟨k.ok,by simp [frP],by simp [frP],by simp [frP],by simp [frP,rgP],?_,?_,?_,⟨1280*s,rfl⟩,?_⟩
 ·show ¬ (env<0∨env≥(S.envs.length:Int))
  rw [k.envs,Ip2];omega
 ·intro j cap lo n hc hr
  show ∀ (a m:Nat) (right:Int),right=1∨right=2→a+m≤n→Q0 S.tabs S.regs env cap right a m=_
  have hg:=D64 hr
  rcases hg with ⟨rfl,rfl,rfl⟩|⟨rfl,rfl,rfl⟩|⟨rfl,rfl,rfl⟩
  ·cases hc
   refine Hr3 (obj:=s) (e1:=0) (e2:=0) (by rw [k.tabs];exact e.a) (by omega) ?_ (by omega)
   rw [k.regs,G56,Int.toNat_natCast]
   match s,hs with
   | 0,_=>rfl
   | 1,_=>rfl
  ·cases hc
   exact Hr3 (obj:=2) (e1:=0) (e2:=0) (by rw [k.tabs];exact e.b) (by omega) (by rw [k.regs,G56];rfl) (by omega)
  ·cases hc
   exact Hr3 (obj:=3) (e1:=0) (e2:=0) (by rw [k.tabs];exact e.c) (by omega) (by rw [k.regs,G56];rfl) (by omega)
 ·intro i j lo n lo' n' hij hi hj
  have h1:=D64 hi;have h2:=D64 hj
  omega
 ·intro j lo n h0 h
  have:=D64 h;omega
abbrev F0:Fr:=frP S0 0 0
def X0:CX:=⟨B15 S0.mem (rgP 0),[]⟩
theorem If3:FrOk F0:=G18 Dx0 G42
theorem Ie5 (A:PlA):Ct B6 Bj1 [.agg ⟨Ey5 A85 A⟩] (Di7 A85 A) fun v own =>
  ∃ k c w m,v=.tuple ⟨[P0 k,P0 c,P0 w,P0 m]⟩∧own [cmC c k F0 X0,rkC w K0,rcC m w 0 (By5 K0 0) []]:=by
 intro h r o
 obtain ⟨v,h',e,k,c,w,m,hv,o2⟩:=Ii2 A h r o
 refine ⟨v,h',e,k,c,w,m,hv,?_⟩
 exact Own.cmTake c k F0 [] If3 (Eg6 Dx0 (by omega) 0) o2
theorem Ho6 {y m:Int} (h:0≤y):Int.tmod y m=y%m:=Int.tmod_eq_emod_of_nonneg h
theorem Ab2 {x:Int} (h:0≤x∧x<256):((b8 x).toNat:Int)=x:=by rw [← Bj7,Dj8];omega
theorem G32 {p:PipeS} (h:okP p=true):Q8 (I8 p)=(p,1):=by
 have hk:=h
 simp only [okP,Bool.and_eq_true,decide_eq_true_eq] at h
 have e:Be9 (I8 p)=p:=by
  obtain ⟨a,b,c,d,l,hl⟩:=p
  simp only at h
  have h1:=Ab2 (x:=a) (by omega);have h2:=Ab2 (x:=b) (by omega);have h3:=Ab2 (x:=c) (by omega);have h4:=Ab2 (x:=d) (by omega)
  simp [Be9,I8,Ah6,Ea4 hl]
  exact ⟨h1,h2,h3,h4⟩
 have hz:(I8 p).all (·==0)=false:=by simp [I8,Ah6]
 unfold Q8 isP
 rw [hz,e,hk]
 simp
theorem E68 {l b:List UInt8} {a c n:Nat} (h:a+b.length≤l.length) (hd:c+n≤a∨a+b.length≤c):slice (L7 l a b) c n=slice l c n:=by
 refine List.ext_getElem? fun i=>?_
 rw [Bx5,Bx5]
 split
 ·rw [Bk8 h,if_neg (by omega)]
 ·rfl
theorem Gc4 {l b:List UInt8} {a:Nat} (h:a+b.length≤l.length):slice (L7 l a b) a b.length=b:=by
 refine List.ext_getElem? fun i=>?_
 rw [Bx5]
 split
 ·rw [Bk8 h,if_pos (by omega)];congr 1;omega
 ·rw [List.getElem?_eq_none (by omega)]
abbrev If5:List Int:=[256,257,258]
structure InS (p:ProcS):Prop where
 a:0≤p.pending∧p.pending≤65535
 b:0≤p.mask∧p.mask≤65535
 c:0≤p.ignored∧p.ignored≤65535
 d:0≤p.caught∧p.caught≤65535
theorem G95 {p:ProcS} (h:okS p=true) (r:InS p):Aa6 (Av4 p)=(p,1):=by
 have hk:=h
 obtain ⟨ra,rb,rc,rd⟩:=r
 have e:Be3 (Av4 p)=p:=by
  obtain ⟨st,pa,gr,co,pe,ma,ig,ca,fds,hl⟩:=p
  simp only at ra rb rc rd
  unfold okS at h
  simp only [Bool.and_eq_true,Bool.not_eq_true',Bool.or_eq_false_iff,decide_eq_false_iff_not,List.any_eq_false] at h
  match fds,hl with
  | [f0,f1,f2,f3,f4,f5,f6,f7],hl =>
   have hf:=h.2.2.1
   simp at hf
   have two_b:∀ n:Int,0≤n∧n≤65535→((hi2 n).toNat:Int)*256+((lo2 n).toNat:Int)=n:=fun n hn=>by
    unfold hi2 lo2
    rw [if_pos hn,if_pos hn,Ab2 (by omega),← Bj7,Dj8];omega
   have g0:=h.1
   simp only [Be3,Av4,Ea0,two]
   simp
   refine ⟨Ab2 (by omega),Ab2 (by omega),Ab2 (by omega),Ab2 (by omega),two_b _ ra,two_b _ rb,two_b _ rc,two_b _ rd,Ab2 (by omega),Ab2 (by omega),Ab2 (by omega),Ab2 (by omega),Ab2 (by omega),Ab2 (by omega),Ab2 (by omega),Ab2 (by omega)⟩
 have hz:(Av4 p).all (·==0)=false:=by
  simp [Av4,Ea0]
 unfold Aa6 isS
 rw [hz,e,hk]
 simp
theorem Iq2:Ed6 0 0=true:=by kernel_rfl
def stR (kind:Int) (l:List UInt8):Int:=if kind=1 then (Aa6 l).2 else if kind=2 then (Ab1 l).2 else if kind=5 then (At4 l).2 else (Q8 l).2
def rd (X:CX) (r:RecS):List UInt8 :=
 match H3 X.m.length r with
 | some (j,a,n)=>slice (X.m.getD j []) a n
 | none=>[]
structure Clean (nc:Nat) (X:CX):Prop where
 len:X.m.length=nc
 pos:0<nc
 bad:X.bad=[]
 own:(X.m.getD 0 []).length=492
 brs:∀ j,0<j→j<nc→(X.m.getD j []).length=40
 ok:∀ r:RecS,1≤r.kind→r.kind≤5→0≤r.index→r.index<U6 nc r.kind→stR r.kind (rd X r)≠2
structure Rin (nc:Nat) (r:RecS):Prop where
 a:1≤r.kind
 b:r.kind≤5
 c:0≤r.index
 d:r.index<U6 nc r.kind
theorem Rin.place {nc:Nat} {r:RecS} (h:Rin nc r) (hn:0<nc):∃ j a,H3 nc r=some (j,a,S5 r.kind)∧j<nc∧(j=0→a+S5 r.kind≤492)∧(0<j→a=0∧S5 r.kind=40):=by
 obtain ⟨h1,h2,h3,h4⟩:=h
 obtain ⟨k,i⟩:=r
 simp only at h1 h2 h3 h4
 have hk:k=1∨k=2∨k=3∨k=4∨k=5:=by omega
 unfold H3 S5
 simp only
 rw [if_neg (by omega)]
 rcases hk with rfl|rfl|rfl|rfl|rfl
 ·exact ⟨0,_,rfl,hn,fun _=>by simp [U6] at h4 ⊢;omega,fun h=>by omega⟩
 ·exact ⟨0,_,rfl,hn,fun _=>by simp [U6] at h4 ⊢;omega,fun h=>by omega⟩
 ·simp only [U6] at h4
  by_cases h5:i<4
  ·exact ⟨0,_,by simp [h5];rfl,hn,fun _=>by simp;omega,fun h=>by omega⟩
  ·exact ⟨i.toNat-3,0,by simp [h5],by simp at h4;omega,fun h=>by omega,fun _=>⟨rfl,rfl⟩⟩
 ·exact ⟨0,_,rfl,hn,fun _=>by simp,fun h=>by omega⟩
 ·exact ⟨0,_,rfl,hn,fun _=>by simp,fun h=>by omega⟩
theorem Id3 {nc:Nat} {r r':RecS} (h:Rin nc r) (h':Rin nc r') (ne:r≠r') {j a n j' a' n':Nat} (e:H3 nc r=some (j,a,n)) (e':H3 nc r'=some (j',a',n')):j≠j'∨a+n≤a'∨a'+n'≤a:=by
 obtain ⟨h1,h2,h3,h4⟩:=h
 obtain ⟨g1,g2,g3,g4⟩:=h'
 obtain ⟨k,i⟩:=r
 obtain ⟨k',i'⟩:=r'
 simp only at h1 h2 h3 h4 g1 g2 g3 g4
 have ne':k≠k'∨i≠i':=by
  by_cases hk:k=k'
  ·right;intro hi;exact ne (by rw [hk,hi])
  ·exact .inl hk
 unfold H3 at e e'
 simp only at e e'
 rw [if_neg (by omega)] at e e'
 unfold U6 at h4 g4
 have hk:k=1∨k=2∨k=3∨k=4∨k=5:=by omega
 have hk':k'=1∨k'=2∨k'=3∨k'=4∨k'=5:=by omega
 have fin:∀ {x y:Nat × Nat × Nat},some x=some y→x=y:=fun h=>by cases h;rfl
 rcases hk with rfl|rfl|rfl|rfl|rfl<;>rcases hk' with rfl|rfl|rfl|rfl|rfl<;>simp at e e' h4 g4 ne'<;>(try split at e)<;>(try split at e')<;>(try simp at e e')<;>omega
def Bv5 (X:CX) (r:RecS) (b:List UInt8):CX :=
 match H3 X.m.length r with
 | some (j,a,_)=>{ X with m:=X.m.set j (L7 (X.m.getD j []) a b) }
 | none=>X
theorem E90 (l:List (List UInt8)) (j j':Nat) (x:List UInt8) (h:j<l.length):(l.set j x).getD j' []=if j'=j then x else l.getD j' []:=by
 rw [List.getD_eq_getElem?_getD,List.getD_eq_getElem?_getD,List.getElem?_set]
 by_cases hj:j=j'
 ·subst hj;simp [h]
 ·rw [if_neg hj,if_neg (fun e=>hj e.symm)]
section
variable {nc:Nat} {X:CX} (c:Clean nc X) {r r':RecS} (h:Rin nc r) (h':Rin nc r')
include c h
theorem Hz2:rdX X r=some (rd X r):=by
 obtain ⟨j,a,e,_⟩:=h.place c.pos
 unfold rdX rd
 rw [c.len,e]
 simp [c.bad]
theorem Bw8 (b:List UInt8):wrX X r b true=(true,Bv5 X r b):=by
 obtain ⟨j,a,e,_⟩:=h.place c.pos
 unfold wrX Bv5
 rw [c.len,e]
 simp [c.bad]
theorem El1 {j a n:Nat} (e:H3 nc r=some (j,a,n)):a+n≤(X.m.getD j []).length∧j<X.m.length∧n=S5 r.kind:=by
 obtain ⟨j',a',e',hj,h0,h1⟩:=h.place c.pos
 rw [e] at e';cases e'
 rw [c.len]
 by_cases hz:j=0
 ·subst hz;rw [c.own];exact ⟨h0 rfl,hj,rfl⟩
 ·rw [c.brs j (by omega) hj]
  have:=h1 (by omega)
  exact ⟨by omega,hj,rfl⟩
include h'
theorem Al0 {b:List UInt8} (hb:b.length=S5 r.kind):rd (Bv5 X r b) r'=if r'=r then b else rd X r':=by
 obtain ⟨j,a,e,_⟩:=h.place c.pos
 obtain ⟨j',a',e',_⟩:=h'.place c.pos
 have p:=El1 c h e
 have p':=El1 c h' e'
 have es:Bv5 X r b={ X with m:=X.m.set j (L7 (X.m.getD j []) a b) }:=by unfold Bv5;rw [c.len,e]
 have el:(Bv5 X r b).m.length=nc:=by rw [es];simp [c.len]
 unfold rd
 rw [el,e',c.len,e',es]
 simp only
 rw [E90 _ _ _ _ p.2.1]
 by_cases hr:r'=r
 ·subst hr
  rw [e] at e';cases e'
  rw [if_pos rfl,if_pos rfl]
  have:=Gc4 (l:=X.m.getD j []) (b:=b) (a:=a) (by omega)
  rwa [hb] at this
 ·rw [if_neg hr]
  by_cases hj:j'=j
  ·subst hj
   rw [if_pos rfl]
   have dj:=Id3 h' h hr e' e
   exact E68 (by omega) (by omega)
  ·rw [if_neg hj]
end
theorem Dc8 {nc:Nat} {X:CX} (c:Clean nc X) {r:RecS} (h:Rin nc r) {b:List UInt8} (hb:b.length=S5 r.kind) (hs:stR r.kind b≠2):Clean nc (Bv5 X r b):=by
 obtain ⟨j,a,e,_⟩:=h.place c.pos
 have p:=El1 c h e
 have es:Bv5 X r b={ X with m:=X.m.set j (L7 (X.m.getD j []) a b) }:=by unfold Bv5;rw [c.len,e]
 refine ⟨by rw [es];simp [c.len],c.pos,by rw [es];exact c.bad,?_,?_,?_⟩
 ·rw [es];simp only
  rw [E90 _ _ _ _ p.2.1]
  split
  ·rename_i h0;subst h0;rw [Ae9 (by omega)];exact c.own
  ·exact c.own
 ·intro i h0 h1
  rw [es];simp only
  rw [E90 _ _ _ _ p.2.1]
  split
  ·rename_i h2;subst h2;rw [Ae9 (by omega)];exact c.brs i h0 h1
  ·exact c.brs i h0 h1
 ·intro r' h1 h2 h3 h4
  rw [Al0 c h ⟨h1,h2,h3,h4⟩ hb]
  split
  ·rename_i hr;rw [hr];exact hs
  ·exact c.ok r' h1 h2 h3 h4
theorem Bx3 {α:Type} (dec:List UInt8→α × Int) (z:α) {nc:Nat} {X:CX} (c:Clean nc X) {r:RecS} (h:Rin nc r) (hd:(dec (rd X r)).2=stR r.kind (rd X r)):V4 dec z X r=(dec (rd X r),X):=by
 unfold V4
 rw [Hz2 c h]
 simp only
 rw [if_neg (by rw [hd];exact c.ok r h.a h.b h.c h.d)]
abbrev vS (X:CX) (i:Int):ProcS × Int:=Aa6 (rd X ⟨1,i⟩)
abbrev vF (X:CX) (i:Int):FileS × Int:=Ab1 (rd X ⟨2,i⟩)
abbrev vP (X:CX) (i:Int):PipeS × Int:=Q8 (rd X ⟨3,i⟩)
theorem Dt1 {nc:Nat} {i:Int} (h:0≤i∧i<8):Rin nc ⟨1,i⟩:=⟨by simp,by simp,h.1,h.2⟩
theorem Bn6 {nc:Nat} {i:Int} (h:0≤i∧i<12):Rin nc ⟨2,i⟩:=⟨by simp,by simp,h.1,h.2⟩
theorem Bi0 {nc:Nat} {i:Int} (h:0≤i∧i<3+nc):Rin nc ⟨3,i⟩:=⟨by simp,by simp,h.1,h.2⟩
theorem D21 {nc:Nat} {X:CX} (c:Clean nc X) {i:Int} (h:0≤i∧i<8):D86 X i=(vS X i,X):=Bx3 Aa6 .zero c (Dt1 h) rfl
theorem Bd8 {nc:Nat} {X:CX} (c:Clean nc X) {i:Int} (h:0≤i∧i<12):Eb1 X i=(vF X i,X):=Bx3 Ab1 .zero c (Bn6 h) rfl
theorem Da1 {nc:Nat} {X:CX} (c:Clean nc X) {i:Int} (h:0≤i∧i<3+nc):Di2 X i=(vP X i,X):=Bx3 Q8 .zero c (Bi0 h) rfl
theorem Dk6 {f:CX→Int→CX} {X:CX}:∀ (m:Nat) (i:Int),(∀ j,i≤j→j<i+m→f X j=X)→Dj3 f m i X=X
 | 0,_,_=>rfl
 | m+1,i,h=>by
  unfold Dj3
  rw [h i (by omega) (by omega)]
  exact Dk6 m (i+1) fun j h1 h2=>h j (by omega) (by omega)
theorem Ef9 {nc:Nat} {X:CX} (c:Clean nc X):Ge5 X=X:=by
 have h3:Gg2 X=X:=by
  unfold Gg2
  have e1:Ea3 X=(Q8 (rd X ⟨4,0⟩),X):=Bx3 Q8 .zero c ⟨by simp,by simp,by simp,by simp [U6]⟩ rfl
  have e2:Er6 X=(At4 (rd X ⟨5,0⟩),X):=Bx3 At4 0 c ⟨by simp,by simp,by simp,by simp [U6]⟩ rfl
  rw [e1];simp only;rw [e2]
 have hl:=c.len
 unfold Ge5 lookN G92 G70
 rw [Dk6 8 0 (fun j h1 h2=>by rw [D21 c (by omega)])]
 rw [Dk6 12 0 (fun j h1 h2=>by rw [Bd8 c (by omega)])]
 rw [Dk6 (3+X.m.length) 0 (fun j h1 h2=>by rw [Da1 c (by omega)]),h3]
theorem Hd1 {f:FileS} (h:okF f=true):Ab1 (Ai4 f)=(f,1):=by
 have hk:=h
 simp only [okF,Bool.and_eq_true,Bool.or_eq_true,decide_eq_true_eq,beq_iff_eq,bne_iff_ne] at h
 have e:B58 (Ai4 f)=f:=by
  obtain ⟨a,b,c,d⟩:=f
  simp only at h
  have h1:=Ab2 (x:=a) (by omega);have h2:=Ab2 (x:=b) (by omega);have h3:=Ab2 (x:=c) (by omega);have h4:=Ab2 (x:=d) (by omega)
  simp [B58,Ai4,A99]
  exact ⟨h1,h2,h3,h4⟩
 have hz:(Ai4 f).all (·==0)=false:=by simp [Ai4,A99]
 unfold Ab1 isF
 rw [hz,e,hk]
 simp
section
variable {nc:Nat} {X:CX} (c:Clean nc X)
include c
abbrev A06 (X:CX) (i:Int) (p:ProcS):CX:=Bv5 X ⟨1,i⟩ (Av4 p)
abbrev Av6 (X:CX) (i:Int) (f:FileS):CX:=Bv5 X ⟨2,i⟩ (Ai4 f)
theorem Bl9 {i:Int} (h:0≤i∧i<8) {p:ProcS} (ok:okS p=true) (r:InS p) :
  Bk1 X i p=(true,A06 X i p)∧Clean nc (A06 X i p)∧(∀ j:Int,0≤j∧j<8→vS (A06 X i p) j=if j=i then (p,1) else vS X j)∧(∀ j:Int,0≤j∧j<12→vF (A06 X i p) j=vF X j)∧(∀ j:Int,0≤j∧j<3+nc→vP (A06 X i p) j=vP X j):=by
 have hl:(Av4 p).length=S5 (1:Int):=by rw [Eg5];rfl
 refine ⟨by unfold Bk1;rw [ok];exact Bw8 c (Dt1 h) _,Dc8 c (Dt1 h) hl (by show (Aa6 (Av4 p)).2≠2;rw [G95 ok r];simp),fun j hj=>?_,fun j hj=>?_,fun j hj=>?_⟩
 ·show Aa6 (rd _ _)=_
  rw [Al0 c (Dt1 h) (Dt1 hj) hl]
  by_cases e:j=i
  ·rw [if_pos (by rw [e]),if_pos e];exact G95 ok r
  ·rw [if_neg (by simp [e]),if_neg e]
 ·show Ab1 (rd _ _)=_
  rw [Al0 c (Dt1 h) (Bn6 hj) hl,if_neg (by simp)]
 ·show Q8 (rd _ _)=_
  rw [Al0 c (Dt1 h) (Bi0 hj) hl,if_neg (by simp)]
theorem Ah9 {i:Int} (h:0≤i∧i<12) {f:FileS} (ok:okF f=true) :
  Bi2 X i f=(true,Av6 X i f)∧Clean nc (Av6 X i f)∧(∀ j:Int,0≤j∧j<8→vS (Av6 X i f) j=vS X j)∧(∀ j:Int,0≤j∧j<12→vF (Av6 X i f) j=if j=i then (f,1) else vF X j)∧(∀ j:Int,0≤j∧j<3+nc→vP (Av6 X i f) j=vP X j):=by
 have hl:(Ai4 f).length=S5 (2:Int):=by rw [Dq8];rfl
 refine ⟨by unfold Bi2;rw [ok];exact Bw8 c (Bn6 h) _,Dc8 c (Bn6 h) hl (by show (Ab1 (Ai4 f)).2≠2;rw [Hd1 ok];simp),fun j hj=>?_,fun j hj=>?_,fun j hj=>?_⟩
 ·show Aa6 (rd _ _)=_
  rw [Al0 c (Bn6 h) (Dt1 hj) hl,if_neg (by simp)]
 ·show Ab1 (rd _ _)=_
  rw [Al0 c (Bn6 h) (Bn6 hj) hl]
  by_cases e:j=i
  ·rw [if_pos (by rw [e]),if_pos e];exact Hd1 ok
  ·rw [if_neg (by simp [e]),if_neg e]
 ·show Q8 (rd _ _)=_
  rw [Al0 c (Bn6 h) (Bi0 hj) hl,if_neg (by simp)]
theorem Iq3 {i:Int} (h:0≤i∧i<8):((vS X i).2=0∧(vS X i).1=.zero)∨((vS X i).2=1∧okS (vS X i).1=true):=by
 have:=c.ok ⟨1,i⟩ (by simp) (by simp) h.1 h.2
 have hk:(vS X i).2≠2:=this
 unfold vS Aa6 at hk ⊢
 split
 ·exact .inl ⟨rfl,rfl⟩
 ·split
  ·rename_i h2
   unfold isS at h2
   simp only [Bool.and_eq_true] at h2
   exact .inr ⟨rfl,h2.1⟩
  ·rename_i h1 h2;simp [h1,h2] at hk
theorem Gy3 {i:Int} (h:0≤i∧i<12):((vF X i).2=0∧(vF X i).1=.zero)∨((vF X i).2=1∧okF (vF X i).1=true):=by
 have:=c.ok ⟨2,i⟩ (by simp) (by simp) h.1 h.2
 have hk:(vF X i).2≠2:=this
 unfold vF Ab1 at hk ⊢
 split
 ·exact .inl ⟨rfl,rfl⟩
 ·split
  ·rename_i h2
   unfold isF at h2
   simp only [Bool.and_eq_true] at h2
   exact .inr ⟨rfl,h2.1⟩
  ·rename_i h1 h2;simp [h1,h2] at hk
end
abbrev O0 (n e:Int) (b:Bool):List Value:=[int n,int e,.slice none 0 0,.bool b]
theorem Ey4 (e:Int):Ct B6 A05 [int e] [] fun v own=>v=.agg ⟨O0 0 e false⟩∧own []:=by
 refine Ct.of Hl0 rfl fun h r=>Tr.eq (Hk5 ..) ?_;refine Je ?_
 (refine Ja ?_;unhygienic intros)
 refine Ys fun o=>?_
 exact ⟨rfl,o.sub⟩
theorem Ez1 (ok:Bool) (n:Int):Ct B6 A03 [.bool ok,int n] [] fun v own=>v=.agg ⟨if ok then O0 n 0 false else O0 0 105 false⟩∧own []:=by
 refine Ct.of He5 rfl fun h r=>Tr.eq (Hh7 ..) ?_;refine Je ?_
 cases ok with
 | true =>
  (refine Ja ?_;unhygienic intros)
  refine Ys fun o=>?_
  exact ⟨rfl,o.sub⟩
 | false =>
  (refine Ja ?_;unhygienic intros)
  refine Yc (Ey4 105) ?_;rintro _ h ⟨rfl,o⟩<;>(refine Jf o ?_;unhygienic intros)
  refine Ys fun o=>?_
  exact ⟨rfl,o.sub⟩
def M8 (X:CX) (i:Int):ProcS × Int:=if (vS X i).2=1∧(vS X i).1.state=1 then ((vS X i).1,0) else (.zero,105)
theorem Ew8 (b k:Nat) (F:Fr) (X:CX) (ok:FrOk F) {nc:Nat} (c:Clean nc X) (i:Int) (hi:0≤i∧i<8):Ct B6 A14 [P0 b,int i] [cmC b k F X] fun v own=>v=.tuple ⟨[.agg ⟨E0 (M8 X i).1⟩,int (M8 X i).2]⟩∧own [cmC b k F X]:=by
 refine Ct.of Hl5 rfl fun h r=>Tr.eq (Hh3 ..) ?_;refine Je ?_
 (refine Jc ?_;unhygienic intros)
 refine Yn fun b0 h=>?_
 refine Yc (Gn0 b k F X ok) ?_;rintro _ h ⟨rfl,o⟩<;>refine Jh o ?_
 rw [Ef9 c]
 (refine Ja ?_;unhygienic intros)
 refine Yc (E73 b k F X ok i) ?_;rintro _ h ⟨rfl,o⟩<;>refine Jh o ?_
 rw [D21 c hi]
 dsimp only
 (refine Jc ?_;unhygienic intros)
 refine Yn fun b1 h=>?_
 (refine Jb ?_;unhygienic intros)
 refine Tr.orG (c:=(vS X i).1.state != 1) (fun hb=>?_) ?_
 ·exact Jz
 unfold M8
 by_cases h1:(vS X i).2=1∧(vS X i).1.state=1
 ·rw [if_pos h1]
  refine Yf (by simp [h1.1,h1.2]) ?_
  (refine Ja ?_;unhygienic intros)
  refine Ys fun o=>?_
  exact ⟨rfl,o.sub⟩
 ·rw [if_neg h1]
  refine Yt (by simp;by_cases h2:(vS X i).2=1<;>simp [h2] at h1 ⊢;exact h1) ?_
  (refine Ja ?_;unhygienic intros)
  refine Ys fun o=>?_
  exact ⟨rfl,o.sub⟩
def Aj6 (X:CX):Nat→Int→Int
 | 0,_=>-1
 | m+1,i=>if (vS X i).2=0 then i else Aj6 X m (i+1)
theorem Hp0 (b k:Nat) (F:Fr) (X:CX) (ok:FrOk F) {nc:Nat} (c:Clean nc X):∀ (m:Nat) (i:Int),0≤i→i+m=8 →
  CtJ H5 Ar6 Bm0 [(0,P0 b),(6,int i)] [cmC b k F X] fun v own=>v=int (Aj6 X m i)∧own [cmC b k F X]:=by
 intro m
 induction m with
 | zero =>
  intro i h0 hi
  refine CtJ.of Dz6 fun h r=>Tr.eq (D56 ..) ?_;refine Je ?_
  refine Yf (by simp;omega) ?_
  refine Ys fun o=>?_
  exact ⟨rfl,o.sub⟩
 | succ m ih =>
  intro i h0 hi
  have e1:IntKind.wrap .i64 (i+1)=i+1:=by rw [B5];omega
  refine CtJ.of Dz6 fun h r=>Tr.eq (D56 ..) ?_;refine Je ?_
  refine Yt (by simp;omega) ?_
  refine Yc (E73 b k F X ok i) ?_;rintro _ h ⟨rfl,o⟩<;>refine Jh o ?_
  rw [D21 c (by omega)]
  dsimp only
  (refine Jc ?_;unhygienic intros)
  refine Yn fun b1 h=>?_
  (refine Ja ?_;unhygienic intros)
  rw [show Aj6 X (m+1) i=if (vS X i).2=0 then i else Aj6 X m (i+1) from rfl]
  by_cases h1:(vS X i).2=0
  ·rw [if_pos h1]
   refine Yt (by simpa using h1) ?_
   refine Ys fun o=>?_
   exact ⟨rfl,o.sub⟩
  ·rw [if_neg h1,e1]
   refine Yf (by simpa using h1) ?_
   refine Ac0 [1] 1 rfl rfl ?_
   refine Yr (ih (i+1) (by omega) (by omega)) ?_
   intro v h q
   exact q
theorem Ik8 (b k:Nat) (F:Fr) (X:CX) (ok:FrOk F) {nc:Nat} (c:Clean nc X):Ct B6 Ar6 [P0 b] [cmC b k F X] fun v own=>v=int (Aj6 X 8 0)∧own [cmC b k F X]:=by
 refine Ct.of Dz6 rfl fun h r=>Tr.eq (Hj6 ..) ?_;refine Je ?_
 refine Yr (Hp0 b k F X ok c 8 0 (by omega) (by omega)) ?_
 intro v h q
 exact q
def Bm9:List Int→List Int→List Int
 | [],m=>m
 | f::l,m=>Bm9 l (if f>0 then m.set (f-1).toNat (m.getD (f-1).toNat 0+1) else m)
def Ac9 (n:Int) (m:List Int):Prop:=m.length=12∧∀ x ∈ m,0≤x∧x≤n
theorem Ac9.get {n:Int} {m:List Int} (h:Ac9 n m) {j:Nat} (hj:j<12):0≤m.getD j 0∧m.getD j 0≤n:=by
 have hl:=h.1
 have e:m[j]?=some m[j]:=List.getElem?_eq_getElem (by omega)
 rw [List.getD_eq_getElem?_getD,e]
 exact h.2 _ (List.getElem_mem _)
theorem Ac9.set {n:Int} {m:List Int} (h:Ac9 n m) {j:Nat} (hj:j<12):Ac9 (n+1) (m.set j (m.getD j 0+1)):=by
 refine ⟨by simpa using h.1,fun x hx=>?_⟩
 rcases List.mem_or_eq_of_mem_set hx with h2|rfl
 ·have:=h.2 x h2;omega
 ·have:=h.get hj;omega
theorem Ac9.up {n:Int} {m:List Int} (h:Ac9 n m):Ac9 (n+1) m:=⟨h.1,fun x hx=>by have:=h.2 x hx;omega⟩
theorem Ic4 {m:List Int} {j:Nat} (h:j<m.length) (v:Int):Dg3 (m.map int) j (int v)=some ((m.set j v).map int):=by
 rw [Dg3,show Nat.blt j (m.map int).length=true from Nat.ble_eq_true_of_le (by simp;omega),List.map_set];rfl
def B32 (l:List Int):Prop:=∀ f ∈ l,0≤f∧f≤12
theorem Gn9 {l:List Int} {i:Nat} (h:i<l.length):(l.map int)[i]?=some (int (l.getD i 0)):=by rw [List.getElem?_map,O2 0 h];rfl
theorem Hk6 (b k:Nat) (F:Fr) (X:CX) (b0 b1:Nat) (p:ProcS) (hf:B32 p.fds) (Φ:Value→(List HP→Prop)→Prop) (M:List Int)
  (next:CtJ H5 G6 Al9 [(0,P0 b),(5,P0 b1),(31,.agg ⟨p.fds.map int⟩),(32,int 0)] [pt b1 (.cells Eg7 false (M.map int)),cmC b k F X] Φ) :
  ∀ (m i:Nat) (more:List Int),i+m=8→Ac9 i more→Bm9 (p.fds.drop i) more=M →
  CtJ H5 G6 Ax5 [(0,P0 b),(3,P0 b0),(5,P0 b1),(17,.agg ⟨p.fds.map int⟩),(18,int i)] [pt b1 (.cells Eg7 false (more.map int)),pt b0 (.cells D8 false (E0 p)),cmC b k F X] Φ:=by
 intro m
 induction m with
 | zero =>
  intro i more hi hm hM
  have:i=8:=by omega
  subst this
  rw [show p.fds.drop 8=[] from List.drop_eq_nil_of_le (by rw [p.len];omega),show Bm9 [] more=more from rfl] at hM
  subst hM
  refine CtJ.of As7 fun h r=>Tr.eq (Dw5 ..) ?_;refine Je ?_
  refine Yf (by simp) ?_
  (refine Ja ?_;unhygienic intros)
  refine Ac0 [0,1] 1 rfl rfl ?_
  refine Yr next ?_
  intro v h q
  exact q
 | succ m ih =>
  intro i more hi hm hM
  have e1:IntKind.wrap .i64 ((i:Int)+1)=((i+1:Nat):Int):=by rw [B5];omega
  have hil:i<p.fds.length:=by rw [p.len];omega
  have hg:=Gn9 hil
  have hd:p.fds.drop i=p.fds.getD i 0::p.fds.drop (i+1):=by
   rw [List.drop_eq_getElem_cons hil,List.getD_eq_getElem?_getD,List.getElem?_eq_getElem hil];rfl
  have hr:0≤p.fds.getD i 0∧p.fds.getD i 0≤12:=hf _ (by
   rw [List.getD_eq_getElem?_getD,List.getElem?_eq_getElem hil];exact List.getElem_mem _)
  rw [hd] at hM
  generalize p.fds.getD i 0=f at hg hr hM
  rw [show Bm9 (f::p.fds.drop (i+1)) more=Bm9 (p.fds.drop (i+1)) (if f>0 then more.set (f-1).toNat (more.getD (f-1).toNat 0+1) else more) from rfl] at hM
  refine CtJ.of As7 fun h r=>Tr.eq (Dw5 ..) ?_;refine Je ?_
  refine Yt (by simp;omega) ?_
  rw [e1]
  refine Tr.ck (by omega) ?_
  rw [Int.toNat_natCast]
  (refine Ja ?_;unhygienic intros)
  by_cases hz:f>0
  ·have e2:IntKind.wrap .i64 (f-1)=f-1:=by rw [B5];omega
   have hj:(f-1).toNat<12:=by omega
   have hm2:=hm.get hj
   have e3:IntKind.wrap .i64 (more.getD (f-1).toNat 0+1)=more.getD (f-1).toNat 0+1:=by rw [B5];omega
   have hgm:=Gn9 (l:=more) (i:=(f-1).toNat) (by rw [hm.1];exact hj)
   rw [if_pos hz] at hM
   rw [e2]
   refine Yt (by simpa using hz) ?_
   (refine Ja ?_;unhygienic intros)
   rw [e3]
   refine Gs (fun h=>?_) (by exact Ic4 (by rw [hm.1];exact hj) _)
   refine Yr (ih (i+1) (more.set (f-1).toNat (more.getD (f-1).toNat 0+1)) (by omega) (by rw [show ((i+1:Nat):Int)=(i:Int)+1 by omega];exact hm.set hj) hM) ?_
   intro v h q
   exact q
  ·rw [if_neg hz] at hM
   refine Yf (by simpa using hz) ?_
   refine Yr (ih (i+1) more (by omega) (by simpa using hm.up) hM) ?_
   intro v h q
   exact q
def Ac6 (X:CX) (more:List Int):List Int→Int
 | []=>0
 | f::l=>if f=0 then Ac6 X more l else if (vF X (f-1)).2≠1 then 105 else if (vF X (f-1)).1.refs+more.getD (f-1).toNat 0>64 then 123 else Ac6 X more l
theorem Ez6 {f:FileS} (h:okF f=true):1≤f.refs∧f.refs≤64:=by
 simp only [okF,Bool.and_eq_true,Bool.or_eq_true,decide_eq_true_eq,beq_iff_eq,bne_iff_ne] at h
 omega
theorem Go1 {nc:Nat} {X:CX} (c:Clean nc X) {i:Int} (h:0≤i∧i<12):0≤(vF X i).1.refs∧(vF X i).1.refs≤64:=by
 rcases Gy3 c h with ⟨_,h1⟩|⟨_,h1⟩
 ·rw [h1];simp
 ·have:=Ez6 h1;omega
theorem Hf0 (b k:Nat) (F:Fr) (X:CX) (ok:FrOk F) {nc:Nat} (c:Clean nc X) (b1:Nat) (fds more:List Int) (hl:fds.length=8) (hf:B32 fds) (hm:Ac9 8 more) (Φ:Value→(List HP→Prop)→Prop)
  (bad:∀ (e:Int),Ac6 X more fds=e→e≠0→∀ h r,Own h (cmC b k F X::r)→Φ (int e) fun l=>Own h (l++r))
  (next:Ac6 X more fds=0→CtJ H5 G6 Al8 [(0,P0 b),(57,.agg ⟨more.map int⟩),(58,int 0)] [cmC b k F X] Φ) :
  ∀ (m i:Nat),i+m=8→Ac6 X more fds=Ac6 X more (fds.drop i) →
  CtJ H5 G6 Al9 [(0,P0 b),(5,P0 b1),(31,.agg ⟨fds.map int⟩),(32,int i)] [pt b1 (.cells Eg7 false (more.map int)),cmC b k F X] Φ:=by
 intro m
 induction m with
 | zero =>
  intro i hi he
  have:i=8:=by omega
  subst this
  rw [show fds.drop 8=[] from List.drop_eq_nil_of_le (by omega),show Ac6 X more []=0 from rfl] at he
  have hl12:B94 (more.map int) 0 12=some (more.map int):=Bx2 (by simp [hm.1])
  refine CtJ.of As7 fun h r=>Tr.eq (Dx8 ..) ?_;refine Je ?_
  refine Yf (by simp) ?_
  refine Gs ?_ (by exact hl12)
  refine Ac0 [1] 1 rfl rfl ?_
  refine Yr (next he) ?_
  intro v h q
  exact q
 | succ m ih =>
  intro i hi he
  have e1:IntKind.wrap .i64 ((i:Int)+1)=((i+1:Nat):Int):=by rw [B5];omega
  have hil:i<fds.length:=by omega
  have hg:=Gn9 hil
  have hd:fds.drop i=fds.getD i 0::fds.drop (i+1):=by
   rw [List.drop_eq_getElem_cons hil,List.getD_eq_getElem?_getD,List.getElem?_eq_getElem hil];rfl
  have hr:0≤fds.getD i 0∧fds.getD i 0≤12:=hf _ (by
   rw [List.getD_eq_getElem?_getD,List.getElem?_eq_getElem hil];exact List.getElem_mem _)
  rw [hd] at he
  generalize fds.getD i 0=f at hg hr he
  rw [show Ac6 X more (f::fds.drop (i+1))=if f=0 then Ac6 X more (fds.drop (i+1)) else if (vF X (f-1)).2≠1 then 105 else if (vF X (f-1)).1.refs+more.getD (f-1).toNat 0>64 then 123 else Ac6 X more (fds.drop (i+1)) from rfl] at he
  refine CtJ.of As7 fun h r=>Tr.eq (Dx8 ..) ?_;refine Je ?_
  refine Yt (by simp;omega) ?_
  rw [e1]
  refine Tr.ck (by omega) ?_
  rw [Int.toNat_natCast]
  (refine Ja ?_;unhygienic intros)
  by_cases hz:f=0
  ·rw [if_pos hz] at he
   refine Yt (by simpa using hz) ?_
   refine Yr (ih (i+1) (by omega) he) ?_
   intro v h q
   exact q
  rw [if_neg hz] at he
  refine Yf (by simpa using hz) ?_
  have e2:IntKind.wrap .i64 (f-1)=f-1:=by rw [B5];omega
  have hj:(f-1).toNat<12:=by omega
  rw [e2]
  refine Yc (B78 b k F X ok (f-1)) ?_;rintro _ h ⟨rfl,o⟩<;>refine Jh o ?_
  rw [Bd8 c (by omega)]
  dsimp only
  (refine Jc ?_;unhygienic intros)
  refine Yn fun b2 h=>?_
  (refine Ja ?_;unhygienic intros)
  by_cases h1:(vF X (f-1)).2=1
  ·rw [if_neg (by simpa using h1)] at he
   refine Yf (by simpa using h1) ?_
   have hm2:=hm.get hj
   have hgm:=Gn9 (l:=more) (i:=(f-1).toNat) (by rw [hm.1];exact hj)
   have hrf:=Go1 c (i:=f-1) (by omega)
   have e3:IntKind.wrap .i64 ((vF X (f-1)).1.refs+more.getD (f-1).toNat 0)=(vF X (f-1)).1.refs+more.getD (f-1).toNat 0:=by rw [B5];omega
   (refine Ja ?_;unhygienic intros)
   rw [e3]
   by_cases h2:(vF X (f-1)).1.refs+more.getD (f-1).toNat 0>64
   ·rw [if_pos h2] at he
    refine Yt (by simpa using h2) ?_
    refine Ac0 [1] 2 rfl rfl ?_
    refine Ys fun o=>?_
    exact bad 123 he (by simp) _ _ o
   ·rw [if_neg h2] at he
    refine Yf (by simpa using h2) ?_
    refine Ac0 [2,1] 1 rfl rfl ?_
    refine Yr (ih (i+1) (by omega) he) ?_
    intro v h q
    exact q
  ·rw [if_pos h1] at he
   refine Yt (by simpa using h1) ?_
   refine Ac0 [1] 2 rfl rfl ?_
   refine Ys fun o=>?_
   exact bad 105 he (by simp) _ _ o
abbrev Bv8 (f:FileS) (n:Int):FileS:=⟨f.kind,f.pipe,f.refs+n,f.flags⟩
def Bb8 (more:List Int):Nat→Int→CX→CX
 | 0,_,X=>X
 | m+1,j,X=>Bb8 more m (j+1) (if more.getD j.toNat 0=0 then X else Av6 X j (Bv8 (vF X j).1 (more.getD j.toNat 0)))
def Gk9 (more:List Int) (X:CX) (j:Int):Prop:=∀ i:Int,j≤i→i<12→more.getD i.toNat 0≠0→(vF X i).2=1∧(vF X i).1.refs+more.getD i.toNat 0≤64
theorem Ga6 {f:FileS} (h:okF f=true) {n:Int} (hn:1≤f.refs+n∧f.refs+n≤64):okF (Bv8 f n)=true:=by
 simp only [okF,Bool.and_eq_true,Bool.or_eq_true,decide_eq_true_eq,beq_iff_eq,bne_iff_ne] at h ⊢
 omega
theorem Gk9.step {nc:Nat} {X:CX} (c:Clean nc X) {more:List Int} (hm:Ac9 8 more) {j:Int} (h0:0≤j∧j<12) (s:Gk9 more X j) (hz:more.getD j.toNat 0≠0) :
  okF (Bv8 (vF X j).1 (more.getD j.toNat 0))=true∧Gk9 more (Av6 X j (Bv8 (vF X j).1 (more.getD j.toNat 0))) (j+1):=by
 obtain ⟨s1,s2⟩:=s j (by omega) (by omega) hz
 have hg:=hm.get (j:=j.toNat) (by omega)
 have hk:okF (vF X j).1=true:=by
  rcases Gy3 c h0 with ⟨h1,_⟩|⟨_,h1⟩
  ·omega
  ·exact h1
 have hr:=Ez6 hk
 have k:=Ga6 hk (n:=more.getD j.toNat 0) (by omega)
 refine ⟨k,fun i h1 h2 hi=>?_⟩
 rw [(Ah9 c h0 k).2.2.2.1 i (by omega),if_neg (by omega)]
 exact s i (by omega) h2 hi
theorem Hf2 (b k:Nat) (F:Fr) (ok:FrOk F) {nc:Nat} (more:List Int) (hm:Ac9 8 more):∀ (m:Nat) (j:Int) (X:CX),Clean nc X→Gk9 more X j→0≤j→j+m=12 →
  CtJ H5 G6 Al8 [(0,P0 b),(57,.agg ⟨more.map int⟩),(58,int j)] [cmC b k F X] fun v own=>v=int 0∧own [cmC b k F (Bb8 more m j X)]:=by
 intro m
 induction m with
 | zero =>
  intro j X c s h0 hj
  refine CtJ.of As7 fun h r=>Tr.eq (Dy3 ..) ?_;refine Je ?_
  refine Yf (by simp;omega) ?_
  refine Ys fun o=>?_
  rw [show Bb8 more 0 j X=X from rfl]
  exact ⟨rfl,o.sub⟩
 | succ m ih =>
  intro j X c s h0 hj
  have e1:IntKind.wrap .i64 (j+1)=j+1:=by rw [B5];omega
  have hg:=Gn9 (l:=more) (i:=j.toNat) (by rw [hm.1];omega)
  have hm2:=hm.get (j:=j.toNat) (by omega)
  rw [show Bb8 more (m+1) j X=Bb8 more m (j+1) (if more.getD j.toNat 0=0 then X else Av6 X j (Bv8 (vF X j).1 (more.getD j.toNat 0))) from rfl]
  refine CtJ.of As7 fun h r=>Tr.eq (Dy3 ..) ?_;refine Je ?_
  refine Yt (by simp;omega) ?_
  rw [e1]
  (refine Ja ?_;unhygienic intros)
  by_cases hz:more.getD j.toNat 0=0
  ·rw [if_pos hz]
   refine Yt (by simpa using hz) ?_
   refine Yr (ih (j+1) X c (fun i h1 h2 h3=>s i (by omega) h2 h3) (by omega) (by omega)) ?_
   intro v h q
   exact q
  ·rw [if_neg hz]
   refine Yf (by simpa using hz) ?_
   have hrf:=Go1 c (i:=j) (by omega)
   have e3:IntKind.wrap .i64 ((vF X j).1.refs+more.getD j.toNat 0)=(vF X j).1.refs+more.getD j.toNat 0:=by rw [B5];omega
   obtain ⟨k1,s2⟩:=s.step c hm (by omega) hz
   obtain ⟨w1,w2,_⟩:=Ah9 c (i:=j) (by omega) k1
   refine Yc (B78 b k F X ok j) ?_;rintro _ h ⟨rfl,o⟩<;>refine Jh o ?_
   rw [Bd8 c (by omega)]
   dsimp only
   (refine Jc ?_;unhygienic intros)
   refine Yn fun b2 h=>?_
   (refine Ja ?_;unhygienic intros)
   simp only [e3,List.set_cons_succ,List.set_cons_zero,List.drop_zero,List.take]
   refine Yc (Da3 b k F X ok j (Bv8 (vF X j).1 (more.getD j.toNat 0))) ?_;rintro _ h ⟨rfl,o⟩<;>refine Jh o ?_
   rw [w1]
   dsimp only
   (refine Ja ?_;unhygienic intros)
   refine Ac0 [0] 1 rfl rfl ?_
   refine Yr (ih (j+1) _ w2 s2 (by omega) (by omega)) ?_
   intro v h q
   exact q
theorem Er7:∀ (l m:List Int) (i:Nat),B32 l→m.length=12→(Bm9 l m).getD i 0≠0→m.getD i 0≠0∨((i:Int)+1) ∈ l
 | [],m,i,_,_,h=>.inl h
 | f::l,m,i,hf,hm,h=>by
  have hr:=hf f (by simp)
  have hl:B32 l:=fun x hx=>hf x (by simp [hx])
  rw [show Bm9 (f::l) m=Bm9 l (if f>0 then m.set (f-1).toNat (m.getD (f-1).toNat 0+1) else m) from rfl] at h
  by_cases hz:f>0
  ·rw [if_pos hz] at h
   rcases Er7 l _ i hl (by simpa using hm) h with h2|h2
   ·by_cases hi:(f-1).toNat=i
    ·right
     rw [show (i:Int)+1=f by omega];simp
    ·left
     rw [List.getD_eq_getElem?_getD,List.getElem?_set_ne hi,← List.getD_eq_getElem?_getD] at h2
     exact h2
   ·exact .inr (by simp [h2])
  ·rw [if_neg hz] at h
   rcases Er7 l m i hl hm h with h2|h2
   ·exact .inl h2
   ·exact .inr (by simp [h2])
theorem D36:∀ (l m:List Int) (n:Int),B32 l→Ac9 n m→Ac9 (n+l.length) (Bm9 l m)
 | [],m,n,_,h=>by simpa [Bm9] using h
 | f::l,m,n,hf,h=>by
  have hr:=hf f (by simp)
  have hl:B32 l:=fun x hx=>hf x (by simp [hx])
  rw [show Bm9 (f::l) m=Bm9 l (if f>0 then m.set (f-1).toNat (m.getD (f-1).toNat 0+1) else m) from rfl]
  have e:n+((f::l).length:Int)=(n+1)+l.length:=by simp;omega
  rw [e]
  by_cases hz:f>0
  ·rw [if_pos hz];exact D36 l _ (n+1) hl (h.set (by omega))
  ·rw [if_neg hz];exact D36 l m (n+1) hl h.up
theorem D98 {X:CX} {more:List Int}:∀ (l:List Int),Ac6 X more l=0→∀ f ∈ l,f≠0→(vF X (f-1)).2=1∧(vF X (f-1)).1.refs+more.getD (f-1).toNat 0≤64
 | [],_,f,h,_=>by simp at h
 | g::l,h,f,hm,hf=>by
  rw [show Ac6 X more (g::l)=if g=0 then Ac6 X more l else if (vF X (g-1)).2≠1 then 105 else if (vF X (g-1)).1.refs+more.getD (g-1).toNat 0>64 then 123 else Ac6 X more l from rfl] at h
  by_cases hg:g=0
  ·rw [if_pos hg] at h
   rcases List.mem_cons.1 hm with rfl|h2
   ·exact absurd hg hf
   ·exact D98 l h f h2 hf
  ·rw [if_neg hg] at h
   by_cases h1:(vF X (g-1)).2=1
   ·rw [if_neg (by simpa using h1)] at h
    by_cases h2:(vF X (g-1)).1.refs+more.getD (g-1).toNat 0>64
    ·rw [if_pos h2] at h;cases h
    ·rw [if_neg h2] at h
     rcases List.mem_cons.1 hm with rfl|h3
     ·exact ⟨h1,by omega⟩
     ·exact D98 l h f h3 hf
   ·rw [if_pos h1] at h;cases h
abbrev Ep8:List Int:=[0,0,0,0,0,0,0,0,0,0,0,0]
theorem H59:Ac9 0 Ep8:=⟨rfl,fun x hx=>by simp at hx;omega⟩
abbrev Al7 (p:ProcS):List Int:=Bm9 p.fds Ep8
theorem E51 {p:ProcS} (h:B32 p.fds):Ac9 8 (Al7 p):=by
 have:=D36 p.fds Ep8 0 h H59
 rw [p.len] at this
 exact this
theorem G80 {X:CX} {p:ProcS} (h:B32 p.fds) (e:Ac6 X (Al7 p) p.fds=0):Gk9 (Al7 p) X 0:=fun i h0 h1 hi=>by
 rcases Er7 p.fds Ep8 i.toNat h rfl hi with h2|h2
 ·exfalso;apply h2
  have:i.toNat=0∨i.toNat=1∨i.toNat=2∨i.toNat=3∨i.toNat=4∨i.toNat=5∨i.toNat=6∨i.toNat=7∨i.toNat=8∨i.toNat=9∨i.toNat=10∨i.toNat=11:=by omega
  rcases this with h|h|h|h|h|h|h|h|h|h|h|h<;>rw [h]<;>rfl
 ·have:=D98 p.fds e _ h2 (by omega)
  rw [show ((i.toNat:Nat):Int)+1-1=i by omega] at this
  exact this
def U8 (X:CX) (p:ProcS):Int × CX:=if Ac6 X (Al7 p) p.fds=0 then (0,Bb8 (Al7 p) 12 0 X) else (Ac6 X (Al7 p) p.fds,X)
theorem H71 (b k:Nat) (F:Fr) (X:CX) (ok:FrOk F) {nc:Nat} (c:Clean nc X) (p:ProcS) (hf:B32 p.fds):Ct B6 G6 [P0 b,.agg ⟨E0 p⟩] [cmC b k F X] fun v own=>v=int (U8 X p).1∧own [cmC b k F (U8 X p).2]:=by
 refine Ct.of As7 rfl fun h r=>Tr.eq (G84 ..) ?_;refine Je ?_
 refine Yn fun b0 h=>?_
 refine Yn fun b1 h=>?_
 (refine Ja ?_;unhygienic intros)
 have hm:=E51 hf
 have L2:=Hf0 b k F X ok c b1 p.fds (Al7 p) p.len hf hm (fun v own=>v=int (U8 X p).1∧own [cmC b k F (U8 X p).2])
  (fun e he hz h r o=>by
   unfold U8
   rw [if_neg (by rw [he];exact hz),he]
   exact ⟨rfl,o⟩)
  (fun he=>by
   have J:=Hf2 b k F ok (Al7 p) hm 12 0 X c (G80 hf he) (by omega) (by omega)
   unfold U8
   rw [if_pos he]
   exact J) 8 0 rfl rfl
 refine Dm5 (Hk6 b k F X b0 b1 p hf _ (Al7 p) L2 8 0 Ep8 rfl (by simpa using H59) rfl) [0,0,0] rfl ?_
 intro v h q
 exact q
theorem Ds1 {nc:Nat} {more:List Int} (hm:Ac9 8 more):∀ (m:Nat) (j:Int) (X:CX),Clean nc X→Gk9 more X j→0≤j→j+m=12 →
  Clean nc (Bb8 more m j X)∧(∀ i:Int,0≤i∧i<8→vS (Bb8 more m j X) i=vS X i) ∧
  (∀ i:Int,0≤i∧i<12→vF (Bb8 more m j X) i=if j≤i∧more.getD i.toNat 0≠0 then (Bv8 (vF X i).1 (more.getD i.toNat 0),1) else vF X i)∧(∀ i:Int,0≤i∧i<3+nc→vP (Bb8 more m j X) i=vP X i)
 | 0,j,X,c,_,h0,hj=>⟨c,fun _ _=>rfl,fun i hi=>by rw [if_neg (by omega)];rfl,fun _ _=>rfl⟩
 | m+1,j,X,c,s,h0,hj=>by
  rw [show Bb8 more (m+1) j X=Bb8 more m (j+1) (if more.getD j.toNat 0=0 then X else Av6 X j (Bv8 (vF X j).1 (more.getD j.toNat 0))) from rfl]
  by_cases hz:more.getD j.toNat 0=0
  ·rw [if_pos hz]
   obtain ⟨a1,a2,a3,a4⟩:=Ds1 hm m (j+1) X c (fun i h1 h2 h3=>s i (by omega) h2 h3) (by omega) (by omega)
   refine ⟨a1,a2,fun i hi=>?_,a4⟩
   rw [a3 i hi]
   by_cases hij:i=j
   ·subst hij
    rw [if_neg (by omega),if_neg (by simp only [hz];simp)]
   ·by_cases h2:j≤i∧more.getD i.toNat 0≠0
    ·rw [if_pos h2,if_pos ⟨by omega,h2.2⟩]
    ·rw [if_neg h2,if_neg (fun h3=>h2 ⟨by omega,h3.2⟩)]
  ·rw [if_neg hz]
   obtain ⟨k1,s2⟩:=s.step c hm (by omega) hz
   obtain ⟨w1,w2,w3,w4,w5⟩:=Ah9 c (i:=j) (by omega) k1
   obtain ⟨a1,a2,a3,a4⟩:=Ds1 hm m (j+1) _ w2 s2 (by omega) (by omega)
   refine ⟨a1,fun i hi=>by rw [a2 i hi,w3 i hi],fun i hi=>?_,fun i hi=>by rw [a4 i hi,w5 i hi]⟩
   rw [a3 i hi,w4 i hi]
   by_cases hij:i=j
   ·subst hij
    rw [if_neg (by omega),if_pos rfl,if_pos ⟨by omega,hz⟩]
   ·rw [if_neg hij]
    by_cases h2:j≤i∧more.getD i.toNat 0≠0
    ·rw [if_pos h2,if_pos ⟨by omega,h2.2⟩]
    ·rw [if_neg h2,if_neg (fun h3=>h2 ⟨by omega,h3.2⟩)]
theorem Hl9 (l:List UInt8) (i:Nat):0≤byI l i∧byI l i<256:=by
 have:=(l.getD i 0).toNat_lt
 unfold byI;omega
theorem Ew4 (l:List UInt8) (j:Nat):0≤two l j∧two l j≤65535:=by
 have:=Hl9 l j;have:=Hl9 l (j+1)
 unfold two;omega
theorem D54 (l:List UInt8):InS (Aa6 l).1:=by
 unfold Aa6
 split
 ·exact ⟨by simp,by simp,by simp,by simp⟩
 ·split
  ·exact ⟨Ew4 _ _,Ew4 _ _,Ew4 _ _,Ew4 _ _⟩
  ·exact ⟨by simp,by simp,by simp,by simp⟩
theorem Ex3 {p:ProcS} (h:okS p=true):B32 p.fds:=fun f hf=>by
 unfold okS at h
 simp only [Bool.and_eq_true,Bool.not_eq_true',List.any_eq_false] at h
 have:=h.2.2.1 f hf
 simp at this;omega
abbrev Bm5 (p:ProcS) (i:Int):ProcS:=⟨p.state,i+1,p.group,p.code,0,p.mask,p.ignored,p.caught,p.fds,p.len⟩
theorem G79 {p:ProcS} (h:okS p=true) (h1:p.state=1) {i:Int} (hi:0≤i∧i<8):okS (Bm5 p i)=true:=by
 unfold okS at h ⊢
 rw [if_neg (by rw [h1];decide)] at h
 rw [if_neg (show ¬ (Bm5 p i).state=2 by show ¬ p.state=2;rw [h1];decide)]
 simp only [Bool.and_eq_true,Bool.not_eq_true',Bool.or_eq_false_iff,decide_eq_false_iff_not] at h ⊢
 obtain ⟨⟨⟨⟨⟨⟨⟨⟨a1,a2⟩,a3⟩,a4⟩,a5⟩,a6⟩,a7⟩,a8⟩,⟨⟨⟨⟨b1,b2⟩,b3⟩,b4⟩,b5⟩,d1,d2⟩:=h
 exact ⟨⟨⟨⟨⟨⟨⟨⟨a1,a2⟩,by show ¬ i+1<0;omega⟩,by show ¬ i+1>8;omega⟩,a5⟩,a6⟩,a7⟩,a8⟩,⟨⟨⟨⟨by simp [Iq2],b2⟩,b3⟩,b4⟩,b5⟩,d1,d2⟩
def D94 (X:CX) (i:Int):List Value × CX :=
 if (M8 X i).2≠0 then (O0 0 (M8 X i).2 false,X)
 else if Aj6 X 8 0<0 then (O0 0 111 false,X)
 else if (U8 X (M8 X i).1).1≠0 then (O0 0 (U8 X (M8 X i).1).1 false,X)
 else (O0 (Aj6 X 8 0) 0 false,A06 (U8 X (M8 X i).1).2 (Aj6 X 8 0) (Bm5 (M8 X i).1 i))
theorem Eo3 {X:CX}:∀ (m:Nat) (i:Int),0≤i→i+m=8→Aj6 X m i=-1∨(0≤Aj6 X m i∧Aj6 X m i<8∧(vS X (Aj6 X m i)).2=0)
 | 0,i,_,_=>.inl rfl
 | m+1,i,h0,hi=>by
  rw [show Aj6 X (m+1) i=if (vS X i).2=0 then i else Aj6 X m (i+1) from rfl]
  split
  ·rename_i h;exact .inr ⟨h0,by omega,h⟩
  ·exact Eo3 m (i+1) (by omega) (by omega)
theorem Bb0 {nc:Nat} {X:CX} (c:Clean nc X) {i:Int} (hi:0≤i∧i<8) (h:(M8 X i).2=0):M8 X i=((vS X i).1,0)∧(vS X i).1.state=1∧okS (vS X i).1=true∧(vS X i).2=1:=by
 unfold M8 at h ⊢
 split
 ·rename_i h1
  refine ⟨rfl,h1.2,?_,h1.1⟩
  rcases Iq3 c hi with ⟨h2,_⟩|⟨_,h2⟩
  ·rw [h1.1] at h2;cases h2
  ·exact h2
 ·rename_i h1;rw [if_neg h1] at h;cases h
theorem Gq9 {X:CX} {p:ProcS} (h:(U8 X p).1≠0):(U8 X p).2=X:=by
 unfold U8 at h ⊢
 split
 ·rename_i h1;rw [if_pos h1] at h;exact absurd rfl h
 ·rfl
theorem Et1 {nc:Nat} {X:CX} (c:Clean nc X) {p:ProcS} (hf:B32 p.fds) (h:(U8 X p).1=0):Clean nc (U8 X p).2∧(∀ i:Int,0≤i∧i<8→vS (U8 X p).2 i=vS X i) ∧
  (∀ i:Int,0≤i∧i<12→vF (U8 X p).2 i=if (Al7 p).getD i.toNat 0≠0 then (Bv8 (vF X i).1 ((Al7 p).getD i.toNat 0),1) else vF X i)∧(∀ i:Int,0≤i∧i<3+nc→vP (U8 X p).2 i=vP X i):=by
 unfold U8 at h ⊢
 split
 ·rename_i he
  obtain ⟨a1,a2,a3,a4⟩:=Ds1 (E51 hf) 12 0 X c (G80 hf he) (by omega) (by omega)
  refine ⟨a1,a2,fun i hi=>?_,a4⟩
  rw [a3 i hi]
  by_cases h2:(Al7 p).getD i.toNat 0≠0
  ·rw [if_pos h2,if_pos ⟨hi.1,h2⟩]
  ·rw [if_neg h2,if_neg (fun h3=>h2 h3.2)]
 ·rename_i he;rw [if_neg he] at h;exact absurd h he
theorem Ij8 (b k:Nat) (F:Fr) (X:CX) (ok:FrOk F) {nc:Nat} (c:Clean nc X) (i:Int) (hi:0≤i∧i<8):Ct B6 B92 [P0 b,int i] [cmC b k F X] fun v own=>v=.agg ⟨(D94 X i).1⟩∧own [cmC b k F (D94 X i).2]:=by
 have e1:IntKind.wrap .i64 (i+1)=i+1:=by rw [B5];omega
 unfold D94
 refine Ct.of Hd5 rfl fun h r=>Tr.eq (Hh8 ..) ?_;refine Je ?_
 refine Yn fun b0 h=>?_
 refine Yc (Ew8 b k F X ok c i hi) ?_;rintro _ h ⟨rfl,o⟩<;>refine Jh o ?_
 (refine Jc ?_;unhygienic intros)
 refine Yn fun b1 h=>?_
 (refine Ja ?_;unhygienic intros)
 by_cases h0:(M8 X i).2=0
 case neg =>
  rw [if_pos h0]
  refine Yt (by simpa using h0) ?_
  refine Yc (Ey4 (M8 X i).2) ?_;rintro _ h ⟨rfl,o⟩<;>(refine Jf o ?_;unhygienic intros)
  refine Ys fun o=>?_
  exact ⟨rfl,o.sub⟩
 rw [if_neg (by simpa using h0)]
 refine Yf (by simpa using h0) ?_
 obtain ⟨s1,s2,s3,s4⟩:=Bb0 c hi h0
 refine Yc (Ik8 b k F X ok c) ?_;rintro _ h ⟨rfl,o⟩<;>refine Jh o ?_
 (refine Ja ?_;unhygienic intros)
 by_cases h1:Aj6 X 8 0<0
 ·rw [if_pos h1]
  refine Yt (by simpa using h1) ?_
  refine Yc (Ey4 111) ?_;rintro _ h ⟨rfl,o⟩<;>(refine Jf o ?_;unhygienic intros)
  refine Ys fun o=>?_
  exact ⟨rfl,o.sub⟩
 rw [if_neg h1]
 refine Yf (by simpa using h1) ?_
 have hf:B32 (M8 X i).1.fds:=by rw [s1];exact Ex3 s3
 have hok:okS (Bm5 (M8 X i).1 i)=true:=by rw [s1];exact G79 s3 s2 hi
 have hin:InS (Bm5 (M8 X i).1 i):=by
  have:=D54 (rd X ⟨1,i⟩)
  rw [s1]
  exact ⟨by simp,this.b,this.c,this.d⟩
 generalize (M8 X i).1=p at hf hok hin
 (refine Ja ?_;unhygienic intros)
 refine Yc (H71 b k F X ok c p hf) ?_;rintro _ h ⟨rfl,o⟩<;>refine Jh o ?_
 (refine Ja ?_;unhygienic intros)
 by_cases h2:(U8 X p).1=0
 case neg =>
  rw [if_pos h2]
  rw [Gq9 h2] at o ⊢
  refine Yt (by simpa using h2) ?_
  refine Yc (Ey4 (U8 X p).1) ?_;rintro _ h ⟨rfl,o⟩<;>(refine Jf o ?_;unhygienic intros)
  refine Ys fun o=>?_
  exact ⟨rfl,o.sub⟩
 rw [if_neg (by simpa using h2)]
 refine Yf (by simpa using h2) ?_
 have cs:=(Et1 c hf h2).1
 have hfr:0≤Aj6 X 8 0∧Aj6 X 8 0<8:=by
  rcases Eo3 (X:=X) 8 0 (by omega) (by omega) with h|h<;>omega
 obtain ⟨w1,_⟩:=Bl9 cs hfr hok hin
 (refine Ja ?_;unhygienic intros)
 rw [e1,show ((E0 p).set 1 (int (i+1))).set 4 (int 0)=E0 (Bm5 p i) from rfl]
 generalize Bm5 p i=q at hok hin w1
 (refine Ja ?_;unhygienic intros)
 refine Yc (D14 b k F (U8 X p).2 ok (Aj6 X 8 0) q) ?_;rintro _ h ⟨rfl,o⟩<;>refine Jh o ?_
 rw [w1]
 dsimp only
 (refine Ja ?_;unhygienic intros)
 refine Yc (Ez1 true (Aj6 X 8 0)) ?_;rintro _ h ⟨rfl,o⟩<;>refine Jh o ?_
 rw [if_pos trivial]
 (refine Ja ?_;unhygienic intros)
 refine Ys fun o=>?_
 exact ⟨rfl,o.sub⟩
theorem Em8 (j:Int) (p:ProcS):(int j::E0 p).length=17:=by simp [Bx0 p,p.len]
instance {j:Int} {p:ProcS}:LenC (int j::E0 p) 17:=⟨Em8 j p⟩
instance {j:Int} {p:ProcS}:PartC (int j::E0 p) 0 17 (int j::E0 p):=⟨Bx2 (Em8 j p)⟩
instance {j:Int} {p:ProcS} {cs:List Value} [k:LenC cs 17]:SetsC cs 0 (int j::E0 p) (int j::E0 p):=⟨Bj9 k.ok (Em8 j p) (by simp [Value.oneCell])⟩
def p0:ProcS:=⟨1,0,0,0,0,0,0,0,[1,0,0,0,0,0,0,0],rfl⟩
def f0:FileS:=⟨3,0,1,0⟩
def Ay0:List UInt8:=L7 (L7 Ac4 0 (Es8 p0)) 192 (Ai4 f0)
theorem By0:Ay0.length=492:=by kernel_rfl
theorem El4:(Es8 p0).length=24:=by kernel_rfl
theorem Gq1 (l b:List UInt8) (a:Nat):(A0 l).take a++A0 b++(A0 l).drop (a+(A0 b).length)=A0 (L7 l a b):=by
 rw [V2]
 simp [L7,A0,List.map_take,List.map_drop]
theorem If1 {b:List UInt8} (h:0<b.length):A0 b≠[]:=by
 intro e
 have e2:=congrArg List.length e
 rw [V2] at e2
 have e3:b.length=0:=e2
 omega
theorem Gz3:Ct B6 Bb9 [] [] fun v own=>∃ a,v=.slice a 492 492∧own [slC false B1 1 a 492 492 (A0 Ay0)]:=by
 refine Ct.of Gx0 rfl fun h r=>Tr.eq (Gw9 ..) ?_;refine Je ?_
 refine Yc (Gt5) ?_;rintro _ h ⟨rfl,o⟩<;>refine Jh o ?_
 (refine Jc ?_;unhygienic intros)
 rw [A46,Ab7]
 refine Tr.ck (by simp [B7]) ?_
 refine Yn fun b0 h=>?_
 refine Dp1 (n:=492) 0 rfl (by rw [V2];exact Ab7) ?_
 refine Je ?_
 refine Yn fun b1 h=>?_
 (refine Ja ?_;unhygienic intros)
 rw [show ([int 1,int 0,int 0,int 0,int 0,int 0,int 0,int 0,int 0,int 0,int 0,int 0,int 0,int 0,int 0,int 0]:List Value).set 8 (int 1)=E0 p0 from rfl]
 (refine Ja ?_;unhygienic intros)
 refine Yc (Hx9 p0) ?_;rintro _ h ⟨rfl,o⟩<;>refine Jh o ?_
 (refine Ja ?_;unhygienic intros)
 rw [show List.take (min (bs (Es8 p0)).size 492) (bs (Es8 p0)).data.toList=Es8 p0 by kernel_rfl]
 rw [show B8 (L8 b0)=(B8 (L8 b0)).add 0 from rfl]
 refine Tr.xPAggS (cs':=A0 (L7 Ac4 0 (Es8 p0))) ⟨If1 (by rw [El4];omega),by rw [V2,V2,El4,Ab7];omega,Ag1 _,Gq1 _ _ 0⟩ fun h=>?_
 (refine Ja ?_;unhygienic intros)
 refine Yc (H51 f0) ?_;rintro _ h ⟨rfl,o⟩<;>refine Jh o ?_
 (refine Ja ?_;unhygienic intros)
 rw [show List.take (min (bs (Ai4 f0)).size (492-192)) (bs (Ai4 f0)).data.toList=Ai4 f0 by kernel_rfl]
 rw [Go4 (by omega),Eq4]
 refine Tr.xPAggS (cs':=A0 Ay0) ⟨If1 (by rw [Dq8];omega),by rw [V2,V2,Ae9 (by rw [El4,Ab7];omega),Dq8,Ab7];omega,Ag1 _,Gq1 _ _ 192⟩ fun h=>?_
 refine Ys fun o=>?_
 exact ⟨_,rfl,o.sub⟩
theorem Hu4 {S:KS} (kS:Like S) {s:Nat} {env:Int} (e:EnvP s env) {j:Nat} {cap:Int} {lo n:Nat} (hc:If5[j]?=some cap) (hr:(rgP s)[j]?=some (lo,n)) {b:List UInt8} (hb:b.length≤n) :
  Z2 S env ⟨2,cap,0,0,0,0,b⟩=((0,0,[]),Br1 S (L7 S.mem lo b)):=by
 have F:=G18 kS e
 have hroom:lo+n≤S.mem.length:=Eg6 kS e.hs env j lo n hr
 have hp:=F.pl j cap lo n hc hr 0 b.length 2 (.inr rfl) (by omega)
 have hs:Bc6 S.mem ((lo+0:Nat):Int) b=some (L7 S.mem lo b):=by
  unfold Bc6
  rw [if_pos (by omega),Int.toNat_natCast,Nat.add_zero];rfl
 have ew:Ak4 S.tabs S.regs S.mem env cap 0 b=(0,L7 S.mem lo b):=by
  unfold Ak4
  rw [show Q0 S.tabs S.regs env cap 2 0 (b.length:Int)=(((lo+0:Nat):Int),0) from hp]
  rw [if_neg (by simp),hs]
 unfold Z2
 rw [if_neg (show ¬ (env<0∨env≥(S.envs.length:Int)) from F.env)]
 unfold kDo
 rw [if_neg (show ¬ ((2:Int)=1) by decide),if_pos rfl,ew]
def q1:PipeS:=⟨0,0,1,1,List.replicate 32 0,rfl⟩
def S1:KS:=Br1 S0 (L7 S0.mem 0 Ay0)
def S2:KS:=Br1 S1 (L7 S1.mem 512 (I8 q1))
def S3:KS:=Br1 S2 (L7 S2.mem 1856 (I8 q1))
theorem Az2:(I8 q1).length=40:=A17 q1.len
theorem Ge8:Like S1:=Ed4 Dx0 (by rw [Ae9 (by rw [By0,Dx0.mem];omega)];exact Dx0.mem)
theorem Gi4:Like S2:=Ed4 Ge8 (by rw [Ae9 (by rw [Az2,Ge8.mem];omega)];exact Ge8.mem)
theorem Ie7:Like S3:=Ed4 Gi4 (by rw [Ae9 (by rw [Az2,Gi4.mem];omega)];exact Gi4.mem)
theorem Is4:Z2 S0 0 ⟨2,256,0,0,0,0,Ay0⟩=((0,0,[]),S1):=Hu4 Dx0 G42 (j:=0) rfl rfl (by rw [By0];omega)
theorem Is0:Z2 S1 0 ⟨2,257,0,0,0,0,I8 q1⟩=((0,0,[]),S2):=Hu4 Ge8 G42 (j:=1) rfl rfl (by rw [Az2];omega)
theorem Is5:Z2 S2 0 ⟨2,258,0,0,0,0,I8 q1⟩=((0,0,[]),S3):=Hu4 Gi4 G42 (j:=2) rfl rfl (by rw [Az2];omega)
abbrev F1:Fr:=frP S3 0 0
def X1:CX:=⟨B15 S3.mem (rgP 0),[]⟩
theorem A31:FrOk F1:=G18 Ie7 G42
theorem E85:Clean 3 X1:=by
 refine ⟨by kernel_rfl,by omega,rfl,by kernel_rfl,fun j h0 h1=>?_,fun r h1 h2 h3 h4=>?_⟩
 ·have:j=1∨j=2:=by omega
  rcases this with rfl|rfl
  ·clear h0 h1;show (_:Nat)=_;kernel_rfl
  ·clear h0 h1;show (_:Nat)=_;kernel_rfl
 ·have all:((List.range 8).all (fun i=>decide (stR 1 (rd X1 ⟨1,(i:Int)⟩)≠2)) && ((List.range 12).all (fun i=>decide (stR 2 (rd X1 ⟨2,(i:Int)⟩)≠2)) && ((List.range 6).all (fun i=>decide (stR 3 (rd X1 ⟨3,(i:Int)⟩)≠2)) && (decide (stR 4 (rd X1 ⟨4,0⟩)≠2) && decide (stR 5 (rd X1 ⟨5,0⟩)≠2)))))=true:=by kernel_rfl
  simp only [Bool.and_eq_true,List.all_eq_true,List.mem_range,decide_eq_true_eq] at all
  obtain ⟨a1,a2,a3,a4,a5⟩:=all
  obtain ⟨k,i⟩:=r
  simp only at h1 h2 h3 h4 ⊢
  obtain ⟨n,rfl⟩:∃ n:Nat,i=n:=⟨i.toNat,by omega⟩
  have hk:k=1∨k=2∨k=3∨k=4∨k=5:=by omega
  rcases hk with rfl|rfl|rfl|rfl|rfl<;>simp [U6] at h4
  ·exact a1 n (by omega)
  ·exact a2 n (by omega)
  ·exact a3 n (by omega)
  ·obtain rfl:n=0:=by omega
   exact a4
  ·obtain rfl:n=0:=by omega
   exact a5
theorem Hp4 (k w m c:Nat) (b1:Nat) (cs:List Value) (hcs:cs.length=7) (K:RKS) (hK:RKOk K) (hB:0<K.B.envs.length) :
  CtJ H5 Ae2 Bg5 [(6,P0 k),(7,P0 c),(8,P0 w),(9,P0 m),(10,P0 b1),(11,.string (bs (I8 q1))),(12,int 1)] [pt b1 (.cells Ax4 false cs),E6 k S1,rkC w K] fun v own =>
   v=.tuple ⟨[P0 k,P0 c,P0 w,P0 m]⟩∧∃ K',own [E6 k S3,rkC w K']:=by
 have hset:∀ xs:List Value,xs.length=7→∀ vs:List Value,vs.length=7→vs.all Value.oneCell=true→Ed9 xs 0 vs=some vs:=fun xs h vs h1 h2=>Bj9 h h1 h2
 refine CtJ.of B27 fun h r=>Tr.eq (Bz0 ..) ?_;refine Je ?_
 refine Yt rfl ?_
 rw [A46,Az2]
 refine Tr.ck (by simp [B7]) ?_
 refine Yn fun b2 h=>?_
 refine Dp1 (n:=40) 0 rfl (by rw [V2];exact Az2) ?_
 refine Je ?_
 rw [show IntKind.wrap .i64 (256+1)=257 by decide]
 refine Gs (fun h=>?_) (by exact hset cs hcs _ rfl rfl)
 (refine Ja ?_;unhygienic intros)
 have J1:=D44 k S1 0 Ge8.ok (by omega) 0 ⟨2,257,0,0,0,0,I8 q1⟩ (some (L8 b2)) 40 false (show ((2:Int)≠5) by decide)
 rw [Is0] at J1
 simp only [Bk9,Az2] at J1
 refine Bt8 J1 [2,0] rfl ?_
 rintro _ h ⟨y,z,rfl,o⟩
 refine (?_:Tr _ _ _ _) o
 refine Je ?_
 (refine Ja ?_;unhygienic intros)
 have R1:=Ey7 w K hK 0 hB ⟨2,257,0,0,0,0,I8 q1⟩ rfl (by rw [Az2];simp [B7]) (slC false B1 1 (some (L8 b2)) (I8 q1).length 40 (A0 (I8 q1))) (some (L8 b2)) 40 false
 simp only [Bk9,Az2] at R1
 refine Bt8 R1 [4,2] rfl ?_
 rintro _ h ⟨rfl,o⟩
 rw [show ({ K with R:=(Ah8 K.R ((0:Nat):Int) 257 0 (I8 q1)).2 }:RKS)=wrR K 257 (I8 q1) from rfl] at o
 have hK1:=Gc2 hK 257 (I8 q1)
 refine (?_:Tr _ _ _ _) o
 refine Je ?_
 (refine Ja ?_;unhygienic intros)
 refine Tr.jmp B27 (Tr.eq (Bz0 ..) ?_);(try simp only[Nr,Nl,wl,Nat.reduceAdd,Nat.reduceMul,Int.reduceToNat])
 refine Yt rfl ?_
 rw [A46,Az2]
 refine Tr.ck (by simp [B7]) ?_
 refine Yn fun b3 h=>?_
 refine Dp1 (n:=40) 0 rfl (by rw [V2];exact Az2) ?_
 refine Je ?_
 rw [show IntKind.wrap .i64 (256+2)=258 by decide]
 refine Gs (fun h=>?_) (by exact hset _ rfl _ rfl rfl)
 (refine Ja ?_;unhygienic intros)
 have J2:=D44 k S2 0 Gi4.ok (by omega) 0 ⟨2,258,0,0,0,0,I8 q1⟩ (some (L8 b3)) 40 false (show ((2:Int)≠5) by decide)
 rw [Is5] at J2
 simp only [Bk9,Az2] at J2
 refine Bt8 J2 [4,0] rfl ?_
 rintro _ h ⟨y2,z2,rfl,o⟩
 refine (?_:Tr _ _ _ _) o
 refine Je ?_
 (refine Ja ?_;unhygienic intros)
 have R2:=Ey7 w (wrR K 257 (I8 q1)) hK1 0 hB ⟨2,258,0,0,0,0,I8 q1⟩ rfl (by rw [Az2];simp [B7]) (slC false B1 1 (some (L8 b3)) (I8 q1).length 40 (A0 (I8 q1))) (some (L8 b3)) 40 false
 simp only [Bk9,Az2] at R2
 refine Bt8 R2 [3,2] rfl ?_
 rintro _ h ⟨rfl,o⟩
 rw [show ({ wrR K 257 (I8 q1) with R:=(Ah8 (wrR K 257 (I8 q1)).R ((0:Nat):Int) 258 0 (I8 q1)).2 }:RKS)=wrR (wrR K 257 (I8 q1)) 258 (I8 q1) from rfl] at o
 refine (?_:Tr _ _ _ _) o
 refine Je ?_
 (refine Ja ?_;unhygienic intros)
 refine Tr.jmp B27 (Tr.eq (Bz0 ..) ?_);(try simp only[Nr,Nl,wl,Nat.reduceAdd,Nat.reduceMul,Int.reduceToNat])
 refine Yf rfl ?_
 refine Ys fun o=>?_
 exact ⟨rfl,_,o.fin [3,0] 5 rfl rfl⟩
theorem If2:RKOk K0:=Gc2 D82.1 256 Ac4
theorem Hm1:0<K0.B.envs.length:=by show (0:Nat)<(De6 Ah2).B.envs.length;rw [D82.2,Bt5];simp
theorem Hm9 (a:Option Addr):Ct B6 Ae2 [.slice a 492 492] [slC false B1 1 a 492 492 (A0 Ay0)] fun v own=>∃ k c w m K',v=.tuple ⟨[P0 k,P0 c,P0 w,P0 m]⟩∧own [cmC c k F1 X1,rkC w K',rcC m w 0 (By5 K0 0) []]:=by
 refine Ct.of B27 rfl fun h r=>Tr.eq (Hb6 ..) ?_;refine Je ?_
 refine Yc (Id1) ?_;rintro _ h ⟨A,rfl,o⟩<;>refine Jh o ?_
 (refine Ja ?_;unhygienic intros)
 refine Yc (Ie5 A) ?_
 rintro _ h ⟨k,c,w,m,rfl,o⟩
 refine (?_:Tr _ _ _ _) o
 refine Je ?_
 (refine Jb ?_;unhygienic intros)
 refine Yb (Yf rfl ?_)
 refine Ys fun o=>(?_:Tr _ _ _ _) o;refine Je ?_
 refine Yf rfl ?_
 refine Il6 c k F0 X0 fun f=>?_
 rw [show F0.at X0.m=S0 from Fr.at_cut If3 (Eg6 Dx0 (by omega) 0)]
 refine (?_:Tr (E6 k S0::W6 c k 0 If5 []::_) _ _ _)
 refine Yn fun b1 h=>?_
 (refine Ja ?_;unhygienic intros)
 refine Yc (Gt6 q1) ?_;rintro _ h ⟨rfl,o⟩<;>refine Jh o ?_
 (refine Ja ?_;unhygienic intros)
 have J1:=D44 k S0 0 Dx0.ok (by omega) 0 ⟨2,256,0,0,0,0,Ay0⟩ a 492 false (show ((2:Int)≠5) by decide)
 rw [Is4] at J1
 simp only [Bk9,By0] at J1
 refine Bt8 J1 [1,4] rfl ?_
 rintro _ h ⟨y,z,rfl,o⟩
 refine (?_:Tr _ _ _ _) o
 refine Je ?_
 (refine Ja ?_;unhygienic intros)
 have R1:=Ey7 w K0 If2 0 Hm1 ⟨2,256,0,0,0,0,Ay0⟩ rfl (by rw [By0];simp [B7]) (slC false B1 1 a Ay0.length 492 (A0 Ay0)) a 492 false
 simp only [Bk9,By0] at R1
 refine Bt8 R1 [5,2] rfl ?_
 rintro _ h ⟨rfl,o⟩
 rw [show ({ K0 with R:=(Ah8 K0.R ((0:Nat):Int) 256 0 Ay0).2 }:RKS)=wrR K0 256 Ay0 from rfl] at o
 refine (?_:Tr _ _ _ _) o
 refine Je ?_
 (refine Ja ?_;unhygienic intros)
 refine Dm5 (Hp4 k w m c b1 _ rfl (wrR K0 256 Ay0) (Gc2 If2 256 Ay0) Hm1) [4,3,0] rfl ?_
 rintro _ h ⟨rfl,K',o⟩
 refine ⟨k,c,w,m,K',rfl,?_⟩
 exact Own.cmTake c k F1 [] A31 (Eg6 Ie7 (by omega) 0) (o.fin [0,3,0,2] 2 rfl rfl)
def X2:CX:=(D94 X1 0).2
structure Inv (n:Int) (X:CX):Prop where
 c:Clean 3 X
 h:1≤n∧n≤8
 on:∀ j:Int,0≤j→j<n→(vS X j).2=1∧(vS X j).1.state=1∧(vS X j).1.fds=p0.fds
 off:∀ j:Int,n≤j→j<8→(vS X j).2=0
 fl:(vF X 0).2=1∧(vF X 0).1.refs=n
section
variable {nc:Nat} {X:CX} (c:Clean nc X)
include c
abbrev A11 (X:CX) (i:Int) (p:PipeS):CX:=Bv5 X ⟨3,i⟩ (I8 p)
abbrev D06 (X:CX) (i:Int):CX:=Bv5 X ⟨2,i⟩ (List.replicate 8 0)
abbrev E58 (X:CX) (i:Int):CX:=Bv5 X ⟨3,i⟩ (List.replicate 40 0)
theorem As0 {i:Int} (h:0≤i∧i<3+nc) {p:PipeS} (ok:okP p=true) :
  A81 X i p=(true,A11 X i p)∧Clean nc (A11 X i p)∧(∀ j:Int,0≤j∧j<8→vS (A11 X i p) j=vS X j)∧(∀ j:Int,0≤j∧j<12→vF (A11 X i p) j=vF X j)∧(∀ j:Int,0≤j∧j<3+nc→vP (A11 X i p) j=if j=i then (p,1) else vP X j):=by
 have hl:(I8 p).length=S5 (3:Int):=by rw [A17 p.len];rfl
 refine ⟨by unfold A81;rw [ok];exact Bw8 c (Bi0 h) _,Dc8 c (Bi0 h) hl (by show (Q8 (I8 p)).2≠2;rw [G32 ok];simp),fun j hj=>?_,fun j hj=>?_,fun j hj=>?_⟩
 ·show Aa6 (rd _ _)=_
  rw [Al0 c (Bi0 h) (Dt1 hj) hl,if_neg (by simp)]
 ·show Ab1 (rd _ _)=_
  rw [Al0 c (Bi0 h) (Bn6 hj) hl,if_neg (by simp)]
 ·show Q8 (rd _ _)=_
  rw [Al0 c (Bi0 h) (Bi0 hj) hl]
  by_cases e:j=i
  ·rw [if_pos (by rw [e]),if_pos e];exact G32 ok
  ·rw [if_neg (by simp [e]),if_neg e]
theorem D79 {i:Int} (h:0≤i∧i<12) :
  B91 X ⟨2,i⟩=(true,D06 X i)∧Clean nc (D06 X i)∧(∀ j:Int,0≤j∧j<8→vS (D06 X i) j=vS X j)∧(∀ j:Int,0≤j∧j<12→vF (D06 X i) j=if j=i then (.zero,0) else vF X j)∧(∀ j:Int,0≤j∧j<3+nc→vP (D06 X i) j=vP X j):=by
 have hl:(List.replicate 8 (0:UInt8)).length=S5 (2:Int):=rfl
 refine ⟨Bw8 c (Bn6 h) _,Dc8 c (Bn6 h) hl (by show (Ab1 (List.replicate 8 0)).2≠2;rw [show (Ab1 (List.replicate 8 0))=(.zero,0) from rfl];simp),fun j hj=>?_,fun j hj=>?_,fun j hj=>?_⟩
 ·show Aa6 (rd _ _)=_
  rw [Al0 c (Bn6 h) (Dt1 hj) hl,if_neg (by simp)]
 ·show Ab1 (rd _ _)=_
  rw [Al0 c (Bn6 h) (Bn6 hj) hl]
  by_cases e:j=i
  ·rw [if_pos (by rw [e]),if_pos e];rfl
  ·rw [if_neg (by simp [e]),if_neg e]
 ·show Q8 (rd _ _)=_
  rw [Al0 c (Bn6 h) (Bi0 hj) hl,if_neg (by simp)]
theorem D80 {i:Int} (h:0≤i∧i<3+nc) :
  B91 X ⟨3,i⟩=(true,E58 X i)∧Clean nc (E58 X i)∧(∀ j:Int,0≤j∧j<8→vS (E58 X i) j=vS X j)∧(∀ j:Int,0≤j∧j<12→vF (E58 X i) j=vF X j)∧(∀ j:Int,0≤j∧j<3+nc→vP (E58 X i) j=if j=i then (.zero,0) else vP X j):=by
 have hl:(List.replicate 40 (0:UInt8)).length=S5 (3:Int):=rfl
 refine ⟨Bw8 c (Bi0 h) _,Dc8 c (Bi0 h) hl (by show (Q8 (List.replicate 40 0)).2≠2;rw [show (Q8 (List.replicate 40 0))=(.zero,0) from rfl];simp),fun j hj=>?_,fun j hj=>?_,fun j hj=>?_⟩
 ·show Aa6 (rd _ _)=_
  rw [Al0 c (Bi0 h) (Dt1 hj) hl,if_neg (by simp)]
 ·show Ab1 (rd _ _)=_
  rw [Al0 c (Bi0 h) (Bn6 hj) hl,if_neg (by simp)]
 ·show Q8 (rd _ _)=_
  rw [Al0 c (Bi0 h) (Bi0 hj) hl]
  by_cases e:j=i
  ·rw [if_pos (by rw [e]),if_pos e];rfl
  ·rw [if_neg (by simp [e]),if_neg e]
theorem Gz2 {i:Int} (h:0≤i∧i<3+nc):((vP X i).2=0∧(vP X i).1=.zero)∨((vP X i).2=1∧okP (vP X i).1=true):=by
 have:=c.ok ⟨3,i⟩ (by simp) (by simp) h.1 h.2
 have hk:(vP X i).2≠2:=this
 unfold vP Q8 at hk ⊢
 split
 ·exact .inl ⟨rfl,rfl⟩
 ·split
  ·rename_i h2
   unfold isP at h2
   simp only [Bool.and_eq_true] at h2
   exact .inr ⟨rfl,h2.1⟩
  ·rename_i h1 h2;simp [h1,h2] at hk
end
abbrev Hp9 (q:PipeS):PipeS:=⟨q.head,q.count,max (q.readers-1) 0,q.writers,q.data,q.len⟩
abbrev Hv5 (q:PipeS):PipeS:=⟨q.head,q.count,q.readers,max (q.writers-1) 0,q.data,q.len⟩
def Es3 (kind:Int) (q:PipeS):PipeS:=if kind=1 then Hp9 q else Hv5 q
theorem Ho4 {q:PipeS} (h:okP q=true) (kind:Int):okP (Es3 kind q)=true:=by
 unfold Es3
 split<;>(simp only [okP,Bool.and_eq_true,decide_eq_true_eq] at h ⊢;omega)
def Gh5 (X:CX) (i:Int) (q:PipeS):CX:=if q.readers+q.writers=0∧i<4 then E58 X i else A11 X i q
def B39 (nc:Nat) (X:CX) (f:Int):Int × CX :=
 if (vF X f).2≠1 then (105,X)
 else if (vF X f).1.refs-1>0 then (0,Av6 X f (Bv8 (vF X f).1 (-1)))
 else if (vF X f).1.kind=3 then (0,D06 X f)
 else if ¬ ((vF X f).1.pipe<3+nc∧(vP X (vF X f).1.pipe).2=1) then (105,D06 X f)
 else (0,Gh5 (D06 X f) (vF X f).1.pipe (Es3 (vF X f).1.kind (vP X (vF X f).1.pipe).1))
theorem H32 {nc:Nat} {X:CX} (c:Clean nc X) {i:Int} (h:¬ i<3+nc):Di2 X i=((.zero,2),X):=by
 have hp:H3 X.m.length ⟨3,i⟩=none:=by
  unfold H3
  rw [c.len,if_pos (by simp [U6];omega)]
 unfold Di2 V4 rdX
 rw [hp]
theorem G49 {f:FileS} (h:okF f=true):0≤f.pipe:=by
 simp only [okF,Bool.and_eq_true,Bool.or_eq_true,decide_eq_true_eq,beq_iff_eq,bne_iff_ne] at h
 omega
theorem E19 (b k:Nat) (F:Fr) (ok:FrOk F) {nc:Nat} {X:CX} (c:Clean nc X) (b1 b2:Nat) (g:FileS) (q:PipeS) (hi:0≤g.pipe∧g.pipe<3+nc) (hq:okP q=true) :
  CtJ H5 Y1 Au9 [(0,P0 b),(5,P0 b1),(7,P0 b2)] [pt b1 (.cells D7 false (Ah5 g)),pt b2 (.cells D4 false (E4 q)),cmC b k F X] fun v own=>v=int 0∧own [cmC b k F (Gh5 X g.pipe q)]:=by
 have hr:0≤q.readers∧q.readers≤8∧0≤q.writers∧q.writers≤8:=by
  simp only [okP,Bool.and_eq_true,decide_eq_true_eq] at hq;omega
 have e1:IntKind.wrap .i64 (q.readers+q.writers)=q.readers+q.writers:=by rw [B5];omega
 obtain ⟨f1,_⟩:=D80 c hi
 obtain ⟨w1,_⟩:=As0 c hi hq
 unfold Gh5
 refine CtJ.of Dt9 fun h r=>Tr.eq (Ek7 ..) ?_;refine Je ?_
 (refine Jb ?_;unhygienic intros)
 rw [e1]
 refine Tr.andG (c:=decide (g.pipe<4)) (fun hb=>?_) ?_
 ·exact Jz
 by_cases h:q.readers+q.writers=0∧g.pipe<4
 ·rw [if_pos h]
  refine Yt (by simp [h.1,h.2]) ?_
  (refine Ja ?_;unhygienic intros)
  refine Yc (Ha4 b k F X ok g.pipe) ?_;rintro _ h ⟨rfl,o⟩<;>refine Jh o ?_
  rw [f1]
  dsimp only
  (refine Ja ?_;unhygienic intros)
  refine Yc (Ez1 true 0) ?_;rintro _ h ⟨rfl,o⟩<;>refine Jh o ?_
  rw [if_pos trivial]
  (refine Ja ?_;unhygienic intros)
  refine Ys fun o=>?_
  exact ⟨rfl,o.sub⟩
 ·rw [if_neg h]
  refine Yf (by simp;omega) ?_
  (refine Ja ?_;unhygienic intros)
  refine Yc (D24 b k F X ok g.pipe q) ?_;rintro _ h ⟨rfl,o⟩<;>refine Jh o ?_
  rw [w1]
  dsimp only
  (refine Ja ?_;unhygienic intros)
  refine Yc (Ez1 true 0) ?_;rintro _ h ⟨rfl,o⟩<;>refine Jh o ?_
  rw [if_pos trivial]
  (refine Ja ?_;unhygienic intros)
  refine Ys fun o=>?_
  exact ⟨rfl,o.sub⟩
theorem Gz6 (b k:Nat) (F:Fr) (X:CX) (ok:FrOk F) {nc:Nat} (c:Clean nc X) (f:Int) (hf:0≤f∧f<12):Ct B6 Y1 [P0 b,int f] [cmC b k F X] fun v own=>v=int (B39 nc X f).1∧own [cmC b k F (B39 nc X f).2]:=by
 have hrf:=Go1 c hf
 have e1:IntKind.wrap .i64 ((vF X f).1.refs-1)=(vF X f).1.refs+-1:=by rw [B5];omega
 obtain ⟨z1,z2,z3,z4,z5⟩:=D79 c hf
 unfold B39
 refine Ct.of Dt9 rfl fun h r=>Tr.eq (E57 ..) ?_;refine Je ?_
 refine Yc (Gn0 b k F X ok) ?_;rintro _ h ⟨rfl,o⟩<;>refine Jh o ?_
 rw [Ef9 c]
 (refine Ja ?_;unhygienic intros)
 refine Yc (B78 b k F X ok f) ?_;rintro _ h ⟨rfl,o⟩<;>refine Jh o ?_
 rw [Bd8 c hf]
 dsimp only
 (refine Jc ?_;unhygienic intros)
 refine Yn fun b1 h=>?_
 (refine Ja ?_;unhygienic intros)
 by_cases h1:(vF X f).2=1
 case neg =>
  rw [if_pos h1]
  refine Yt (by simpa using h1) ?_
  refine Ys fun o=>?_
  exact ⟨rfl,o.sub⟩
 rw [if_neg (by simpa using h1)]
 refine Yf (by simpa using h1) ?_
 have hk:okF (vF X f).1=true:=by
  rcases Gy3 c hf with ⟨h2,_⟩|⟨_,h2⟩
  ·rw [h1] at h2;cases h2
  ·exact h2
 have hr:=Ez6 hk
 have hpp:=G49 hk
 generalize hg:(vF X f).1=g at hrf e1 hk hr hpp
 (refine Ja ?_;unhygienic intros)
 simp only [e1,List.set_cons_succ,List.set_cons_zero]
 (refine Ja ?_;unhygienic intros)
 by_cases h2:g.refs-1>0
 ·rw [if_pos h2]
  refine Yt (by simp;omega) ?_
  have hk2:=Ga6 hk (n:=-1) (by omega)
  obtain ⟨w1,_⟩:=Ah9 c hf hk2
  (refine Ja ?_;unhygienic intros)
  simp only [List.drop_zero,List.take]
  refine Yc (Da3 b k F X ok f (Bv8 g (-1))) ?_;rintro _ h ⟨rfl,o⟩<;>refine Jh o ?_
  rw [w1]
  dsimp only
  (refine Ja ?_;unhygienic intros)
  refine Yc (Ez1 true 0) ?_;rintro _ h ⟨rfl,o⟩<;>refine Jh o ?_
  rw [if_pos trivial]
  (refine Ja ?_;unhygienic intros)
  refine Ys fun o=>?_
  exact ⟨rfl,o.sub⟩
 rw [if_neg h2]
 refine Yf (by simp;omega) ?_
 refine Yc (G30 b k F X ok f) ?_;rintro _ h ⟨rfl,o⟩<;>refine Jh o ?_
 rw [z1]
 dsimp only
 (refine Ja ?_;unhygienic intros)
 by_cases h3:g.kind=3
 ·rw [if_pos h3]
  refine Yt (by simpa using h3) ?_
  refine Ys fun o=>?_
  exact ⟨rfl,o.sub⟩
 rw [if_neg h3]
 refine Yf (by simpa using h3) ?_
 (refine Ja ?_;unhygienic intros)
 refine Yc (Ef3 b k F (D06 X f) ok g.pipe) ?_;rintro _ h ⟨rfl,o⟩<;>refine Jh o ?_
 by_cases h4:g.pipe<3+(nc:Int)
 case neg =>
  rw [if_pos (fun h=>h4 h.1),H32 z2 h4]
  dsimp only
  (refine Jc ?_;unhygienic intros)
  refine Yn fun b2 h=>?_
  (refine Ja ?_;unhygienic intros)
  refine Ys fun o=>?_
  exact ⟨rfl,o.sub⟩
 rw [Da1 z2 ⟨hpp,h4⟩,z5 _ ⟨hpp,h4⟩]
 dsimp only
 (refine Jc ?_;unhygienic intros)
 refine Yn fun b2 h=>?_
 (refine Ja ?_;unhygienic intros)
 by_cases h5:(vP X g.pipe).2=1
 case neg =>
  rw [if_pos (fun h=>h5 h.2)]
  refine Yt (by simpa using h5) ?_
  refine Ys fun o=>?_
  exact ⟨rfl,o.sub⟩
 rw [if_neg (fun h=>h ⟨h4,h5⟩)]
 refine Yf (by simpa using h5) ?_
 have hq:okP (vP X g.pipe).1=true:=by
  rcases Gz2 c ⟨hpp,h4⟩ with ⟨h6,_⟩|⟨_,h6⟩
  ·rw [h5] at h6;cases h6
  ·exact h6
 have hq2:=Ho4 hq g.kind
 generalize (vP X g.pipe).1=q at hq hq2
 have hqr:0≤q.readers∧q.readers≤8∧0≤q.writers∧q.writers≤8:=by
  simp only [okP,Bool.and_eq_true,decide_eq_true_eq] at hq;omega
 have e2:IntKind.wrap .i64 (q.readers-1)=q.readers-1:=by rw [B5];omega
 have e3:IntKind.wrap .i64 (q.writers-1)=q.writers-1:=by rw [B5];omega
 (refine Ja ?_;unhygienic intros)
 by_cases h6:g.kind=1
 ·refine Yt (by simpa using h6) ?_
  have ee:Es3 g.kind q=Hp9 q:=by unfold Es3;rw [if_pos h6]
  rw [ee] at hq2 ⊢
  (refine Ja ?_;unhygienic intros)
  rw [e2,V6,show (E4 q).set 2 (int (max (q.readers-1) 0))=E4 (Hp9 q) from rfl]
  refine Dm5 (E19 b k F ok z2 b1 b2 (Bv8 g (-1)) (Hp9 q) ⟨hpp,h4⟩ hq2) [2,0,0] rfl ?_
  intro v h q
  exact q
 ·refine Yf (by simpa using h6) ?_
  have ee:Es3 g.kind q=Hv5 q:=by unfold Es3;rw [if_neg h6]
  rw [ee] at hq2 ⊢
  (refine Ja ?_;unhygienic intros)
  rw [e3,V6,show (E4 q).set 3 (int (max (q.writers-1) 0))=E4 (Hv5 q) from rfl]
  refine Dm5 (E19 b k F ok z2 b1 b2 (Bv8 g (-1)) (Hv5 q) ⟨hpp,h4⟩ hq2) [2,0,0] rfl ?_
  intro v h q
  exact q
def SlOk (L:List (Int × ProcS)):Prop:=∀ s ∈ L,(0≤s.1∧s.1<8)∧okS s.2=true∧InS s.2
theorem Bh4 (e:Int):Ct B6 Af5 [int e] [] fun v own=>v=.agg ⟨O0 0 e false⟩∧own []:=by
 refine Ct.of Hw0 rfl fun h r=>Tr.eq (Hv1 ..) ?_;refine Je ?_
 (refine Ja ?_;unhygienic intros)
 refine Ys fun o=>?_
 exact ⟨rfl,o.tail⟩
theorem H86 (ok:Bool) (n:Int):Ct B6 Di5 [.bool ok,int n] [] fun v own=>v=.agg ⟨if ok then O0 n 0 false else O0 0 105 false⟩∧own []:=by
 refine Ct.of Ht4 rfl fun h r=>Tr.eq (Hp5 ..) ?_;refine Je ?_
 refine Yn fun b1 h=>?_
 cases ok
 ·refine Yt rfl ?_
  refine Yc (Bh4 105) ?_;rintro _ h ⟨rfl,o⟩<;>(refine Jf o ?_;unhygienic intros)
  refine Ys fun o=>?_
  exact ⟨rfl,o.tail⟩
 ·refine Yf rfl ?_
  (refine Ja ?_;unhygienic intros)
  refine Ys fun o=>?_
  exact ⟨rfl,o.tail⟩
theorem Dx6 (p:ProcS) {j:Nat} (h:j<8):(E0 p)[8+j]?=some (int (p.fds.getD j 0)):=by
 have:=Gn9 (l:=p.fds) (i:=j) (by rw [p.len];exact h)
 rw [show 8+j=j+8 by omega]
 exact this
abbrev setFd (p:ProcS) (j:Nat) (f:Int):ProcS:=⟨p.state,p.parent,p.group,p.code,p.pending,p.mask,p.ignored,p.caught,p.fds.set j f,by rw [List.length_set];exact p.len⟩
theorem Et5 (p:ProcS) {j:Nat} (h:j<8) (f:Int):Dg3 (E0 p) (8+j) (int f)=some (E0 (setFd p j f)):=by
 have e:Nat.blt (8+j) (E0 p).length=true:=by rw [Bx0 p];exact Nat.ble_eq_true_of_le (by have:=p.len;omega)
 unfold Dg3
 rw [e,show 8+j=j+8 by omega]
 show some ((E0 p).set (j+8) (int f))=_
 simp only [E0,List.set_cons_succ,List.map_set]
def Ac7 (p:ProcS) (fd:Int):Bool:=decide (0≤fd∧fd<8) && decide (p.fds.getD fd.toNat 0>0)
theorem G99 (p:ProcS) (fd:Int):Ct B6 Bp7 [.agg ⟨E0 p⟩,int fd] [] fun v own=>v=.bool (Ac7 p fd)∧own []:=by
 refine Ct.of He8 rfl fun h r=>Tr.eq (Hd4 ..) ?_;refine Je ?_
 refine Yn fun b1 h=>?_
 by_cases h0:0≤fd
 case neg =>
  refine Yb (Yf (by simpa using h0) ?_)
  refine Ys fun o=>(?_:Tr _ _ _ _) o;refine Je ?_
  refine Yb (Yf rfl ?_)
  refine Ys fun o=>(?_:Tr _ _ _ _) o;refine Je ?_
  refine Ys fun o=>?_
  refine ⟨?_,o.tail⟩
  rw [show Ac7 p fd=false by simp [Ac7];omega]
 refine Yb (Yt (by simpa using h0) ?_)
 refine Ys fun o=>(?_:Tr _ _ _ _) o;refine Je ?_
 by_cases h1:fd<8
 case neg =>
  refine Yb (Yf (by simpa using h1) ?_)
  refine Ys fun o=>(?_:Tr _ _ _ _) o;refine Je ?_
  refine Ys fun o=>?_
  refine ⟨?_,o.tail⟩
  rw [show Ac7 p fd=false by simp [Ac7];omega]
 have hg:=Dx6 p (j:=fd.toNat) (by omega)
 refine Yb (Yt (by simpa using h1) ?_)
 (refine Ja ?_;unhygienic intros)
 refine Ys fun o=>(?_:Tr _ _ _ _) o;refine Je ?_
 refine Ys fun o=>?_
 refine ⟨?_,o.tail⟩
 rw [show Ac7 p fd=decide (p.fds.getD fd.toNat 0>0) by simp [Ac7,h0,h1]]
theorem Eb3 {p:ProcS} (h:okS p=true) (h1:p.state=1) (j:Nat) {f:Int} (hf:0≤f∧f≤12):okS (setFd p j f)=true:=by
 have hd:=Ex3 h
 have hd2:B32 (setFd p j f).fds:=fun x hx=>by
  rcases List.mem_or_eq_of_mem_set hx with h2|rfl
  ·exact hd x h2
  ·exact hf
 unfold okS at h ⊢
 rw [if_neg (by rw [h1];decide)] at h
 rw [if_neg (show ¬ (setFd p j f).state=2 by show ¬ p.state=2;rw [h1];decide)]
 simp only [Bool.and_eq_true] at h ⊢
 refine ⟨h.1,h.2.1,?_,h.2.2.2⟩
 rw [Bool.not_eq_true',List.any_eq_false]
 intro x hx
 have:=hd2 x hx
 simp;omega
def Hu3 (X:CX) (i fd f:Int):List Value × CX :=
 if (M8 X i).2≠0 then (O0 0 (M8 X i).2 false,X) else (O0 fd 0 false,A06 X i (setFd (vS X i).1 fd.toNat (f+1)))
def N8 (q:Int→Bool):Nat→Int→Nat→List Int
 | 0,_,_=>[]
 | _+1,_,0=>[]
 | m+1,i,w+1=>if q i=true then i::N8 q m (i+1) w else N8 q m (i+1) (w+1)
theorem Dd2 (q:Int→Bool):∀ (m:Nat) (i:Int) (w:Nat),(N8 q m i w).length≤w
 | 0,_,_=>by simp [N8]
 | _+1,_,0=>by simp [N8]
 | m+1,i,w+1=>by
  have h1:=Dd2 q m (i+1) w
  have h2:=Dd2 q m (i+1) (w+1)
  unfold N8;split<;>simp<;>omega
theorem Ay1 (q:Int→Bool):∀ (m:Nat) (i:Int) (w:Nat),∀ x ∈ N8 q m i w,i≤x∧x<i+m∧q x=true
 | 0,_,_,x,hx=>by simp [N8] at hx
 | _+1,_,0,x,hx=>by simp [N8] at hx
 | m+1,i,w+1,x,hx=>by
  unfold N8 at hx
  split at hx
  ·rename_i hq
   rcases List.mem_cons.1 hx with rfl|h
   ·exact ⟨by omega,by omega,hq⟩
   ·have:=Ay1 q m (i+1) w x h
    exact ⟨by omega,by omega,this.2.2⟩
  ·have:=Ay1 q m (i+1) (w+1) x hx
   exact ⟨by omega,by omega,this.2.2⟩
theorem D22 (pr:HP) (g:FuncId) (cp:List Value) (n:Int) (hn:n≤100) (q:Int→Bool) (hq:∀ j:Int,0≤j∧j<n→Ct B6 g (int j::cp) [pr] fun v own=>v=.bool (q j)∧own [pr]):∀ (m:Nat) (i:Int) (acc:List Int) (w:Nat) (a:Option Addr) (ac:Nat),0≤i→i+m=n→acc.length≤i →
  CtJ H5 Y6 Bd3 [(0,int n),(1,int ((acc.length+w:Nat):Int)),(2,.func (.func g) ⟨[]⟩ ⟨cp⟩),(7,.slice a acc.length ac),(8,int i)] [slC false D0 1 a acc.length ac (acc.map int),pr] fun v own =>
   ∃ a' c',v=.slice a' (acc++N8 q m i w).length c'∧own [slC false D0 1 a' (acc++N8 q m i w).length c' ((acc++N8 q m i w).map int),pr]
 | 0,i,acc,w,a,ac,h0,hi,ha=>by
  refine CtJ.of Di8 fun h r=>Tr.eq (De2 ..) ?_;refine Je ?_
  refine Yb (Yf (by simp;omega) ?_)
  refine Ys fun o=>(?_:Tr _ _ _ _) o;refine Je ?_
  refine Yf rfl ?_
  refine Ys fun o=>?_
  rw [show N8 q 0 i w=[] by unfold N8;rfl,List.append_nil]
  exact ⟨a,ac,rfl,o.sub⟩
 | m+1,i,acc,0,a,ac,h0,hi,ha=>by
  refine CtJ.of Di8 fun h r=>Tr.eq (De2 ..) ?_;refine Je ?_
  refine Yb (Yt (by simp;omega) ?_)
  refine Ys fun o=>(?_:Tr _ _ _ _) o;refine Je ?_
  refine Yf (by simp) ?_
  refine Ys fun o=>?_
  rw [show N8 q (m+1) i 0=[] by unfold N8;rfl,List.append_nil]
  exact ⟨a,ac,rfl,o.sub⟩
 | m+1,i,acc,w+1,a,ac,h0,hi,ha=>by
  have e1:IntKind.wrap .i64 (i+1)=i+1:=by rw [B5];omega
  rw [show N8 q (m+1) i (w+1)=if q i=true then i::N8 q m (i+1) w else N8 q m (i+1) (w+1) by rw [N8]]
  refine CtJ.of Di8 fun h r=>Tr.eq (De2 ..) ?_;refine Je ?_
  refine Yb (Yt (by simp;omega) ?_)
  refine Ys fun o=>(?_:Tr _ _ _ _) o;refine Je ?_
  refine Yt (by simp;omega) ?_
  rw [e1]
  refine U4 0 rfl fun hl hc _=>?_
  (refine Ja ?_;unhygienic intros)
  simp only [List.nil_append,List.singleton_append]
  refine Yc (hq i (by omega)) ?_;rintro _ h ⟨rfl,o⟩<;>refine Jh o ?_
  (refine Ja ?_;unhygienic intros)
  by_cases h2:q i=true
  ·rw [if_pos h2]
   refine Yt h2 ?_
   (refine Ja ?_;unhygienic intros)
   refine Tr.xApd (new:=[int i]) ⟨rfl,rfl,by simp only [B7];omega⟩ fun a' c' h=>?_
   have H:=D22 pr g cp n hn q hq m (i+1) (acc++[i]) w a' c' (by omega) (by omega) (by simp;omega)
   rw [show acc++i::N8 q m (i+1) w=acc++[i]++N8 q m (i+1) w by simp,show acc.length+(w+1)=(acc++[i]).length+w by simp;omega]
   refine (?_:Tr (_::pr::slC false D0 1 a' (acc.length+1) c' (acc.map int++[int i])::_) _ _ _)
   rw [show acc.map int++[int i]=(acc++[i]).map int by simp,show acc.length+1=(acc++[i]).length by simp]
   refine Ac0 [2,1] 1 rfl rfl ?_
   exact Yr H fun v h q=>q
  ·rw [if_neg h2]
   refine Yf (by simpa using h2) ?_
   refine Ac0 [1,0] 0 rfl rfl ?_
   exact Yr (D22 pr g cp n hn q hq m (i+1) acc (w+1) a ac (by omega) (by omega) (by omega)) fun v h q=>q
theorem E93 (pr:HP) (g:FuncId) (cp:List Value) (n:Nat) (hn:n≤100) (w:Nat) (q:Int→Bool) (hq:∀ j:Int,0≤j∧j<n→Ct B6 g (int j::cp) [pr] fun v own=>v=.bool (q j)∧own [pr]) :
  Ct B6 Y6 [int n,int w,.func (.func g) ⟨[]⟩ ⟨cp⟩] [pr] fun v own=>∃ a' c',v=.slice a' (N8 q n 0 w).length c'∧own [slC false D0 1 a' (N8 q n 0 w).length c' ((N8 q n 0 w).map int),pr]:=by
 refine Ct.of Di8 rfl fun h r=>Tr.eq (Hs9 ..) ?_;refine Je ?_
 refine H1 false D0 1 (by omega) ?_
 have J:=D22 pr g cp n (by omega) q hq n 0 [] w none 0 (by omega) (by omega) (by simp)
 simp only [List.nil_append,List.length_nil,List.map_nil,Nat.zero_add] at J
 exact Yr J fun v h q=>q
theorem H52 (b:Nat) (p:ProcS) (j:Int) (hj:0≤j∧j<8):Ct B6 Bb4 [int j,P0 b] [pt b (.cells D8 false (E0 p))] fun v own=>v=.bool (p.fds.getD j.toNat 0==0)∧own [pt b (.cells D8 false (E0 p))]:=by
 have hg:=Dx6 p (j:=j.toNat) (by omega)
 refine Ct.of Gw5 rfl fun h r=>Tr.eq (Gx2 ..) ?_;refine Je ?_
 (refine Ja ?_;unhygienic intros)
 refine Ys fun o=>?_
 exact ⟨rfl,o.sub⟩
abbrev W7 (p:ProcS) (w:Nat):List Int:=N8 (fun j=>p.fds.getD j.toNat 0==0) 8 0 w
theorem Id5 (p:ProcS) (w:Nat):Ct B6 Da4 [.agg ⟨E0 p⟩,int w] [] fun v own=>∃ a' c',v=.slice a' (W7 p w).length c'∧own [slC false D0 1 a' (W7 p w).length c' ((W7 p w).map int)]:=by
 refine Ct.of Hf3 rfl fun h r=>Tr.eq (Hf6 ..) ?_;refine Je ?_
 refine Yn fun b1 h=>?_
 refine Yc (E93 _ Bb4 [P0 b1] 8 (by omega) w _ fun j hj=>H52 b1 p j (by omega)) ?_
 rintro _ h ⟨a',c',rfl,o⟩
 refine Jh o ?_
 (refine Ja ?_;unhygienic intros)
 refine Ys fun o=>?_
 exact ⟨a',c',rfl,o.sub⟩
def hcC (bh b k:Nat) (F:Fr) (X:CX):HP:=hex fun _:Unit=>sl [pt bh (.cells P7 false [P0 b]),cmC b k F X]
instance {bh b k:Nat} {F:Fr} {X:CX}:Chk (hcC bh b k F X) (fun _:Unit=>[pt bh (.cells P7 false [P0 b]),cmC b k F X]):=⟨rfl⟩
theorem Id6 (bh b k:Nat) (F:Fr) (X:CX) (ok:FrOk F) {nc:Nat} (c:Clean nc X) (j:Int) (hj:0≤j∧j<12):Ct B6 A60 [int j,P0 bh] [hcC bh b k F X] fun v own=>v=.bool ((vF X j).2==0)∧own [hcC bh b k F X]:=by
 refine Ct.of Hb2 rfl fun h r=>Tr.eq (G46 ..) ?_;refine Je ?_
 refine D1 (hcC bh b k F X) fun u=>?_;refine Je ?_
 (refine Ja ?_;unhygienic intros)
 refine Yc (B78 b k F X ok j) ?_;rintro _ h ⟨rfl,o⟩<;>refine Jh o ?_
 rw [Bd8 c hj]
 dsimp only
 (refine Jc ?_;unhygienic intros)
 refine Yn fun b1 h=>?_
 (refine Ja ?_;unhygienic intros)
 refine B9 (hcC bh b k F X) () ?_;refine Je ?_
 refine Ys fun o=>?_
 exact ⟨rfl,o.sub⟩
theorem Ic0 (bh b k:Nat) (F:Fr) (X:CX) (ok:FrOk F) {nc:Nat} (c:Clean nc X) (j:Int) (hj:0≤j∧j<3+nc):Ct B6 A62 [int j,P0 bh] [hcC bh b k F X] fun v own=>v=.bool ((vP X j).2==0)∧own [hcC bh b k F X]:=by
 refine Ct.of Hb7 rfl fun h r=>Tr.eq (G77 ..) ?_;refine Je ?_
 refine D1 (hcC bh b k F X) fun u=>?_;refine Je ?_
 (refine Ja ?_;unhygienic intros)
 refine Yc (Ef3 b k F X ok j) ?_;rintro _ h ⟨rfl,o⟩<;>refine Jh o ?_
 rw [Da1 c hj]
 dsimp only
 (refine Jc ?_;unhygienic intros)
 refine Yn fun b1 h=>?_
 (refine Ja ?_;unhygienic intros)
 refine B9 (hcC bh b k F X) () ?_;refine Je ?_
 refine Ys fun o=>?_
 exact ⟨rfl,o.sub⟩
def ofV (X:CX) (i fd:Int):(Int × FileS) × Int :=
 if (M8 X i).2≠0 then ((0,.zero),(M8 X i).2)
 else if Ac7 (vS X i).1 fd=false then ((0,.zero),109)
 else if (vF X ((vS X i).1.fds.getD fd.toNat 0-1)).2≠1 then ((0,.zero),105)
 else (((vS X i).1.fds.getD fd.toNat 0-1,(vF X ((vS X i).1.fds.getD fd.toNat 0-1)).1),0)
theorem Gb7 {nc:Nat} {X:CX} (c:Clean nc X) {i:Int} (hi:0≤i∧i<8) (h:(M8 X i).2=0) (j:Nat):0≤(vS X i).1.fds.getD j 0∧(vS X i).1.fds.getD j 0≤12:=by
 obtain ⟨s1,s2,s3,s4⟩:=Bb0 c hi h
 by_cases hj:j<(vS X i).1.fds.length
 ·rw [List.getD_eq_getElem?_getD,List.getElem?_eq_getElem hj];exact Ex3 s3 _ (List.getElem_mem _)
 ·rw [List.getD_eq_getElem?_getD,List.getElem?_eq_none (by omega)];simp
theorem If4 (b k:Nat) (F:Fr) (X:CX) (ok:FrOk F) {nc:Nat} (c:Clean nc X) (i fd:Int) (hi:0≤i∧i<8) :
  Ct B6 Dt4 [P0 b,int i,int fd] [cmC b k F X] fun v own=>v=.tuple ⟨[int (ofV X i fd).1.1,.agg ⟨Ah5 (ofV X i fd).1.2⟩,int (ofV X i fd).2]⟩∧own [cmC b k F X]:=by
 unfold ofV
 refine Ct.of H89 rfl fun h r=>Tr.eq (Ia1 ..) ?_;refine Je ?_
 refine Yn fun b0 h=>?_
 refine Yc (Ew8 b k F X ok c i hi) ?_;rintro _ h ⟨rfl,o⟩<;>refine Jh o ?_
 (refine Jc ?_;unhygienic intros)
 refine Yn fun b1 h=>?_
 (refine Jb ?_;unhygienic intros)
 by_cases h1:(M8 X i).2=0
 case neg =>
  rw [if_pos h1]
  refine Yt (by simpa using h1) ?_
  (refine Ja ?_;unhygienic intros)
  refine Ys fun o=>?_
  exact ⟨rfl,o.sub⟩
 rw [if_neg (by simpa using h1)]
 refine Yf (by simpa using h1) ?_
 obtain ⟨s1,s2,s3,s4⟩:=Bb0 c hi h1
 have hr:=fun j=>Gb7 c hi h1 j
 rw [s1]
 generalize hp:(vS X i).1=p at s2 s3 hr
 (refine Ja ?_;unhygienic intros)
 refine Yc (G99 p fd) ?_;rintro _ h ⟨rfl,o⟩<;>(refine Jf o ?_;unhygienic intros)
 by_cases h2:Ac7 p fd=true
 case neg =>
  rw [if_pos (by simpa using h2)]
  refine Yt (by simpa using h2) ?_
  (refine Ja ?_;unhygienic intros)
  refine Ys fun o=>?_
  exact ⟨rfl,o.sub⟩
 rw [if_neg (by simpa using h2)]
 refine Yf (by simpa using h2) ?_
 simp only [Ac7,Bool.and_eq_true,decide_eq_true_eq] at h2
 have hg:=Dx6 p (j:=fd.toNat) (by omega)
 have hf:=hr fd.toNat
 generalize p.fds.getD fd.toNat 0=f at hg hf h2
 have e1:IntKind.wrap .i64 (f-1)=f-1:=by rw [B5];omega
 (refine Ja ?_;unhygienic intros)
 rw [e1]
 refine Yc (B78 b k F X ok (f-1)) ?_;rintro _ h ⟨rfl,o⟩<;>refine Jh o ?_
 rw [Bd8 c (by omega)]
 dsimp only
 (refine Ja ?_;unhygienic intros)
 by_cases h3:(vF X (f-1)).2=1
 case neg =>
  rw [if_pos h3]
  refine Yt (by simpa using h3) ?_
  (refine Ja ?_;unhygienic intros)
  refine Ys fun o=>?_
  exact ⟨rfl,o.sub⟩
 rw [if_neg (by simpa using h3)]
 refine Yf (by simpa using h3) ?_
 (refine Ja ?_;unhygienic intros)
 rw [e1]
 refine Ys fun o=>?_
 exact ⟨rfl,o.sub⟩
def A83 (nc:Nat) (X:CX) (i fd:Int):List Value × CX :=
 if (M8 X i).2≠0 then (O0 0 (M8 X i).2 false,X)
 else if Ac7 (vS X i).1 fd=false then (O0 0 109 false,X)
 else (O0 0 (B39 nc (A06 X i (setFd (vS X i).1 fd.toNat 0)) ((vS X i).1.fds.getD fd.toNat 0-1)).1 false,(B39 nc (A06 X i (setFd (vS X i).1 fd.toNat 0)) ((vS X i).1.fds.getD fd.toNat 0-1)).2)
theorem En9 {p:ProcS} {fd:Int} (h:Ac7 p fd=true):(0≤fd∧fd<8)∧p.fds.getD fd.toNat 0>0:=by
 simp only [Ac7,Bool.and_eq_true,decide_eq_true_eq] at h;exact h
theorem He2 {nc:Nat} {X:CX} (c:Clean nc X) {i:Int} (hi:0≤i∧i<8) (h:(M8 X i).2=0) (j:Nat) {f:Int} (hf:0≤f∧f≤12) :
  Bk1 X i (setFd (vS X i).1 j f)=(true,A06 X i (setFd (vS X i).1 j f))∧Clean nc (A06 X i (setFd (vS X i).1 j f))∧(∀ n:Int,0≤n∧n<8→vS (A06 X i (setFd (vS X i).1 j f)) n=if n=i then (setFd (vS X i).1 j f,1) else vS X n)∧(∀ n:Int,0≤n∧n<12→vF (A06 X i (setFd (vS X i).1 j f)) n=vF X n)∧(∀ n:Int,0≤n∧n<3+nc→vP (A06 X i (setFd (vS X i).1 j f)) n=vP X n):=by
 obtain ⟨s1,s2,s3,s4⟩:=Bb0 c hi h
 have hin:=D54 (rd X ⟨1,i⟩)
 exact Bl9 c hi (Eb3 s3 s2 j hf) ⟨hin.a,hin.b,hin.c,hin.d⟩
theorem Ev0 (b k:Nat) (F:Fr) (X:CX) (ok:FrOk F) {nc:Nat} (c:Clean nc X) (i fd:Int) (hi:0≤i∧i<8) :
  Ct B6 Bd6 [P0 b,int i,int fd] [cmC b k F X] fun v own=>v=.agg ⟨(A83 nc X i fd).1⟩∧own [cmC b k F (A83 nc X i fd).2]:=by
 unfold A83
 refine Ct.of He1 rfl fun h r=>Tr.eq (Hh0 ..) ?_;refine Je ?_
 refine Yn fun b0 h=>?_
 refine Yc (Ew8 b k F X ok c i hi) ?_;rintro _ h ⟨rfl,o⟩<;>refine Jh o ?_
 (refine Jc ?_;unhygienic intros)
 refine Yn fun b1 h=>?_
 (refine Jb ?_;unhygienic intros)
 by_cases h1:(M8 X i).2=0
 case neg =>
  rw [if_pos h1]
  refine Yt (by simpa using h1) ?_
  refine Yc (Bh4 (M8 X i).2) ?_;rintro _ h ⟨rfl,o⟩<;>(refine Jf o ?_;unhygienic intros)
  refine Ys fun o=>?_
  exact ⟨rfl,o.sub⟩
 rw [if_neg (by simpa using h1)]
 refine Yf (by simpa using h1) ?_
 obtain ⟨s1,s2,s3,s4⟩:=Bb0 c hi h1
 have hr:=Gb7 c hi h1 fd.toNat
 have hW:=fun hf=>He2 c hi h1 fd.toNat (f:=0) hf
 rw [s1]
 generalize (vS X i).1=p at s2 s3 hr hW
 (refine Ja ?_;unhygienic intros)
 refine Yc (G99 p fd) ?_;rintro _ h ⟨rfl,o⟩<;>(refine Jf o ?_;unhygienic intros)
 by_cases h2:Ac7 p fd=true
 case neg =>
  rw [if_pos (by simpa using h2)]
  refine Yt (by simpa using h2) ?_
  refine Yc (Bh4 109) ?_;rintro _ h ⟨rfl,o⟩<;>(refine Jf o ?_;unhygienic intros)
  refine Ys fun o=>?_
  exact ⟨rfl,o.sub⟩
 rw [if_neg (by simpa using h2)]
 refine Yf (by simpa using h2) ?_
 have hn:=En9 h2
 have hg:=Dx6 p (j:=fd.toNat) (by omega)
 have hs:=Et5 p (j:=fd.toNat) (by omega) 0
 obtain ⟨w1,w2,_⟩:=hW (by omega)
 generalize p.fds.getD fd.toNat 0=f at hg hr hn
 have e1:IntKind.wrap .i64 (f-1)=f-1:=by rw [B5];omega
 generalize setFd p fd.toNat 0=q at hs w1 w2
 (refine Ja ?_;unhygienic intros)
 refine Yc (D14 b k F X ok i q) ?_;rintro _ h ⟨rfl,o⟩<;>refine Jh o ?_
 rw [w1]
 (refine Ja ?_;unhygienic intros)
 rw [e1]
 refine Yc (Gz6 b k F _ ok w2 (f-1) (by omega)) ?_;rintro _ h ⟨rfl,o⟩<;>(refine Jf o ?_;unhygienic intros)
 refine Yc (Bh4 (B39 nc (A06 X i q) (f-1)).1) ?_;rintro _ h ⟨rfl,o⟩<;>(refine Jf o ?_;unhygienic intros)
 refine Ys fun o=>?_
 exact ⟨rfl,o.sub⟩
def A78:PipeS:=⟨0,0,1,1,[0,0,0,0,0,0,0,0,0,0,0,0,0,0,0,0,0,0,0,0,0,0,0,0,0,0,0,0,0,0,0,0],rfl⟩
abbrev Be0 (X:CX):List Int:=N8 (fun j=>(vF X j).2==0) 12 0 2
abbrev Bm6 (X:CX):List Int:=N8 (fun j=>(vP X j).2==0) 4 0 1
def Bp9 (X:CX) (i d0 d1 f0 f1 r0:Int):CX :=
 A06 (Av6 (Av6 (A11 X r0 A78) f0 ⟨1,r0,1,0⟩) f1 ⟨2,r0,1,0⟩) i (setFd (setFd (vS X i).1 d0.toNat (f0+1)) d1.toNat (f1+1))
def A65 (X:CX) (i:Int):List Value × CX :=
 if (M8 X i).2≠0 then (O0 0 (M8 X i).2 false,X)
 else if (W7 (vS X i).1 2).length<2 then (O0 0 124 false,X)
 else if (Be0 X).length<2∨(Bm6 X).length=0 then (O0 0 123 false,X)
 else (O0 ((W7 (vS X i).1 2).getD 0 0+16*(W7 (vS X i).1 2).getD 1 0) 0 false,Bp9 X i ((W7 (vS X i).1 2).getD 0 0) ((W7 (vS X i).1 2).getD 1 0) ((Be0 X).getD 0 0) ((Be0 X).getD 1 0) ((Bm6 X).getD 0 0))
theorem H13 {l:List Int} (h:l.length≤2) (h2:¬ l.length<2):∃ a b,l=[a,b]:=by
 match l,h,h2 with
 | [a,b],_,_=>exact ⟨a,b,rfl⟩
 | [],_,h2=>simp at h2
 | [_],_,h2=>simp at h2
 | _::_::_::_,h,_=>simp at h
theorem Gr9 {nc:Nat} {X:CX} (c:Clean nc X) {i:Int} (hi:0≤i∧i<8) (hs:(M8 X i).2=0) {d0 d1 f0 f1 r0:Int} (hd0:0≤d0∧d0<8) (hd1:0≤d1∧d1<8) (hf0:0≤f0∧f0<12) (hf1:0≤f1∧f1<12) (hr:0≤r0∧r0<4) (hn:r0<3+(nc:Int)) :
  A81 X r0 A78=(true,A11 X r0 A78)∧Bi2 (A11 X r0 A78) f0 ⟨1,r0,1,0⟩=(true,Av6 (A11 X r0 A78) f0 ⟨1,r0,1,0⟩) ∧
  Bi2 (Av6 (A11 X r0 A78) f0 ⟨1,r0,1,0⟩) f1 ⟨2,r0,1,0⟩=(true,Av6 (Av6 (A11 X r0 A78) f0 ⟨1,r0,1,0⟩) f1 ⟨2,r0,1,0⟩) ∧
  Bk1 (Av6 (Av6 (A11 X r0 A78) f0 ⟨1,r0,1,0⟩) f1 ⟨2,r0,1,0⟩) i (setFd (setFd (vS X i).1 d0.toNat (f0+1)) d1.toNat (f1+1))=(true,Bp9 X i d0 d1 f0 f1 r0) ∧
  Clean nc (Bp9 X i d0 d1 f0 f1 r0)∧(∀ j:Int,0≤j∧j<8→vS (Bp9 X i d0 d1 f0 f1 r0) j=if j=i then (setFd (setFd (vS X i).1 d0.toNat (f0+1)) d1.toNat (f1+1),1) else vS X j) ∧
  (∀ j:Int,0≤j∧j<12→vF (Bp9 X i d0 d1 f0 f1 r0) j=if j=f1 then (⟨2,r0,1,0⟩,1) else if j=f0 then (⟨1,r0,1,0⟩,1) else vF X j) ∧
  (∀ j:Int,0≤j∧j<3+nc→vP (Bp9 X i d0 d1 f0 f1 r0) j=if j=r0 then (A78,1) else vP X j):=by
 obtain ⟨s1,s2,s3,s4⟩:=Bb0 c hi hs
 have hin:=D54 (rd X ⟨1,i⟩)
 obtain ⟨a1,a2,a3,a4,a5⟩:=As0 c (i:=r0) (by omega) (p:=A78) rfl
 obtain ⟨b1,b2,b3,b4,b5⟩:=Ah9 a2 hf0 (f:=⟨1,r0,1,0⟩) (by simp [okF];omega)
 obtain ⟨c1,c2,c3,c4,c5⟩:=Ah9 b2 hf1 (f:=⟨2,r0,1,0⟩) (by simp [okF];omega)
 have hq:=Eb3 (Eb3 s3 s2 d0.toNat (f:=f0+1) (by omega)) s2 d1.toNat (f:=f1+1) (by omega)
 obtain ⟨e1,e2,e3,e4,e5⟩:=Bl9 c2 hi hq ⟨hin.a,hin.b,hin.c,hin.d⟩
 refine ⟨a1,b1,c1,e1,e2,fun j hj=>?_,fun j hj=>?_,fun j hj=>?_⟩
 ·rw [show Bp9 X i d0 d1 f0 f1 r0=A06 _ _ _ from rfl,e3 j hj,c3 j hj,b3 j hj,a3 j hj]
 ·rw [show Bp9 X i d0 d1 f0 f1 r0=A06 _ _ _ from rfl,e4 j hj,c4 j hj,b4 j hj,a4 j hj]
 ·rw [show Bp9 X i d0 d1 f0 f1 r0=A06 _ _ _ from rfl,e5 j hj,c5 j hj,b5 j hj,a5 j hj]
theorem Ic1 (bh b k:Nat) (F:Fr) (X:CX) (ok:FrOk F) {nc:Nat} (c:Clean nc X):Ct B6 Y6 [int 12,int 2,.func (.func A60) ⟨[]⟩ ⟨[P0 bh]⟩] [hcC bh b k F X] fun v own =>
  ∃ a' c',v=.slice a' (Be0 X).length c'∧own [slC false D0 1 a' (Be0 X).length c' ((Be0 X).map int),hcC bh b k F X] :=
 E93 _ A60 [P0 bh] 12 (by omega) 2 _ fun j hj=>Id6 bh b k F X ok c j (by omega)
theorem Ic3 (bh b k:Nat) (F:Fr) (X:CX) (ok:FrOk F) {nc:Nat} (c:Clean nc X):Ct B6 Y6 [int 4,int 1,.func (.func A62) ⟨[]⟩ ⟨[P0 bh]⟩] [hcC bh b k F X] fun v own =>
  ∃ a' c',v=.slice a' (Bm6 X).length c'∧own [slC false D0 1 a' (Bm6 X).length c' ((Bm6 X).map int),hcC bh b k F X] :=
 E93 _ A62 [P0 bh] 4 (by omega) 1 _ fun j hj=>Ic0 bh b k F X ok c j (by have:=c.pos;omega)
theorem Ip9 {l:List Int} (h:l.length≤1) (h2:¬ l.length=0):∃ a,l=[a]:=by
 match l,h,h2 with
 | [a],_,_=>exact ⟨a,rfl⟩
 | [],_,h2=>simp at h2
 | _::_::_,h,_=>simp at h
theorem G98 (b k:Nat) (F:Fr) (X:CX) (ok:FrOk F) {nc:Nat} (c:Clean nc X) (i:Int) (hi:0≤i∧i<8) :
  Ct B6 B24 [P0 b,int i] [cmC b k F X] fun v own=>v=.agg ⟨(A65 X i).1⟩∧own [cmC b k F (A65 X i).2]:=by
 unfold A65
 refine Ct.of Hv3 rfl fun h r=>Tr.eq (Ho7 ..) ?_;refine Je ?_
 refine Yn fun bh h=>?_
 refine Yn fun b0 h=>?_
 (refine Ja ?_;unhygienic intros)
 refine Yc (Ew8 b k F X ok c i hi) ?_;rintro _ h ⟨rfl,o⟩<;>refine Jh o ?_
 (refine Jc ?_;unhygienic intros)
 refine Yn fun b1 h=>?_
 (refine Jb ?_;unhygienic intros)
 by_cases h1:(M8 X i).2=0
 case neg =>
  rw [if_pos h1]
  refine Yt (by simpa using h1) ?_
  refine Yc (Bh4 (M8 X i).2) ?_;rintro _ h ⟨rfl,o⟩<;>(refine Jf o ?_;unhygienic intros)
  refine Ys fun o=>?_
  exact ⟨rfl,o.sub⟩
 rw [if_neg (by simpa using h1)]
 refine Yf (by simpa using h1) ?_
 have hM:=fun d0 d1 f0 f1 r0=>Gr9 c hi h1 (d0:=d0) (d1:=d1) (f0:=f0) (f1:=f1) (r0:=r0)
 obtain ⟨s1,s2,s3,s4⟩:=Bb0 c hi h1
 rw [s1]
 unfold Bp9 at hM ⊢
 generalize (vS X i).1=p at hM
 (refine Ja ?_;unhygienic intros)
 refine Yc (Id5 p 2) ?_
 rintro _ h ⟨a,ac,rfl,o⟩
 refine Jh o ?_
 have hm:=Ay1 (fun j=>p.fds.getD j.toNat 0==0) 8 0 2
 have hl:=Dd2 (fun j=>p.fds.getD j.toNat 0==0) 8 0 2
 change ∀ x ∈ W7 p 2,_ at hm
 change (W7 p 2).length≤2 at hl
 refine (?_:Tr (slC false D0 1 a (W7 p 2).length ac ((W7 p 2).map int)::_) _ _ _)
 generalize W7 p 2=L at hm hl
 by_cases h2:L.length<2
 ·(refine Ja ?_;unhygienic intros)
  refine Yt (by simp;omega) ?_
  refine Yc (Bh4 124) ?_;rintro _ h ⟨rfl,o⟩<;>(refine Jf o ?_;unhygienic intros)
  refine Ys fun o=>?_
  rw [if_pos h2]
  exact ⟨rfl,o.sub⟩
 rw [if_neg h2]
 obtain ⟨d0,d1,rfl⟩:=H13 hl h2
 have hd0:=hm d0 (by simp)
 have hd1:=hm d1 (by simp)
 (refine Ja ?_;unhygienic intros)
 refine Yf (by simp) ?_
 refine B9 (hcC bh b k F X) () ?_;refine Je ?_
 refine Yc (Ic1 bh b k F X ok c) ?_
 rintro _ h ⟨a2,ac2,rfl,o⟩
 refine Jh o ?_
 have hmF:=Ay1 (fun j=>(vF X j).2==0) 12 0 2
 have hlF:=Dd2 (fun j=>(vF X j).2==0) 12 0 2
 change ∀ x ∈ Be0 X,_ at hmF
 change (Be0 X).length≤2 at hlF
 generalize Be0 X=Fl at hmF hlF
 (refine Ja ?_;unhygienic intros)
 refine Yc (Ic3 bh b k F X ok c) ?_
 rintro _ h ⟨a3,ac3,rfl,o⟩
 refine Jh o ?_
 have hmR:=Ay1 (fun j=>(vP X j).2==0) 4 0 1
 have hlR:=Dd2 (fun j=>(vP X j).2==0) 4 0 1
 change ∀ x ∈ Bm6 X,_ at hmR
 change (Bm6 X).length≤1 at hlR
 generalize Bm6 X=Rl at hmR hlR
 refine D1 (hcC bh b k F X) fun u=>?_;refine Je ?_
 by_cases h3:Fl.length<2
 ·rw [if_pos (.inl h3)]
  (refine Jb ?_;unhygienic intros)
  refine Yb (Yt (by simp;omega) ?_)
  refine Ys fun o=>(?_:Tr _ _ _ _) o;refine Je ?_
  refine Yt rfl ?_
  refine Yc (Bh4 123) ?_;rintro _ h ⟨rfl,o⟩<;>(refine Jf o ?_;unhygienic intros)
  refine Ys fun o=>?_
  exact ⟨rfl,o.sub⟩
 obtain ⟨f0,f1,rfl⟩:=H13 hlF h3
 by_cases h4:Rl.length=0
 ·rw [if_pos (.inr h4)]
  (refine Jb ?_;unhygienic intros)
  refine Yb (Yf rfl ?_)
  refine Ys fun o=>(?_:Tr _ _ _ _) o;refine Je ?_
  refine Yt (by simpa using h4) ?_
  refine Yc (Bh4 123) ?_;rintro _ h ⟨rfl,o⟩<;>(refine Jf o ?_;unhygienic intros)
  refine Ys fun o=>?_
  exact ⟨rfl,o.sub⟩
 rw [if_neg (fun h=>h.elim h3 h4)]
 obtain ⟨r0,rfl⟩:=Ip9 hlR h4
 have hf0:=hmF f0 (by simp)
 have hf1:=hmF f1 (by simp)
 have hr0:=hmR r0 (by simp)
 obtain ⟨w1,w2,w3,w4,_⟩:=hM d0 d1 f0 f1 r0 (by omega) (by omega) (by omega) (by omega) (by omega) (by have:=c.pos;omega)
 (refine Jb ?_;unhygienic intros)
 refine Yb (Yf rfl ?_)
 refine Ys fun o=>(?_:Tr _ _ _ _) o;refine Je ?_
 refine Yf rfl ?_
 (refine Ja ?_;unhygienic intros;repeat(refine Gw ?_;rintro px rfl;refine Ja ?_;unhygienic intros))
 refine Yc (D24 b k F X ok r0 A78) ?_;rintro _ h ⟨rfl,o⟩<;>refine Jh o ?_
 rw [w1]
 dsimp only
 (refine Jb ?_;unhygienic intros)
 refine Yb (Yt rfl ?_)
 (refine Jb ?_;unhygienic intros;repeat(refine Gw ?_;rintro px rfl;refine Jb ?_;unhygienic intros))
 refine Yc (Da3 b k F (A11 X r0 A78) ok f0 ⟨1,r0,1,0⟩) ?_;rintro _ h ⟨rfl,o⟩<;>refine Jh o ?_
 rw [w2]
 dsimp only
 (refine Jb ?_;unhygienic intros)
 refine Ys fun o=>(?_:Tr _ _ _ _) o;refine Je ?_
 refine Yb (Yt rfl ?_)
 (refine Jb ?_;unhygienic intros;repeat(refine Gw ?_;rintro px rfl;refine Jb ?_;unhygienic intros))
 refine Yc (Da3 b k F (Av6 (A11 X r0 A78) f0 ⟨1,r0,1,0⟩) ok f1 ⟨2,r0,1,0⟩) ?_;rintro _ h ⟨rfl,o⟩<;>refine Jh o ?_
 rw [w3]
 dsimp only
 (refine Jb ?_;unhygienic intros)
 refine Ys fun o=>(?_:Tr _ _ _ _) o;refine Je ?_
 have hs:Dg3 (E0 p) (8+d0.toNat) (int (IntKind.wrap .i64 (f0+1)))=some (E0 (setFd p d0.toNat (f0+1))):=by
  rw [show IntKind.wrap .i64 (f0+1)=f0+1 by rw [B5];omega];exact Et5 p (by omega) _
 have hs2:Dg3 (E0 (setFd p d0.toNat (f0+1))) (8+d1.toNat) (int (IntKind.wrap .i64 (f1+1)))=some (E0 (setFd (setFd p d0.toNat (f0+1)) d1.toNat (f1+1))):=by
  rw [show IntKind.wrap .i64 (f1+1)=f1+1 by rw [B5];omega];exact Et5 _ (by omega) _
 have hx:IntKind.wrap .i64 (d0+IntKind.wrap .i64 (16*d1))=d0+16*d1:=by simp only [B5];omega
 simp only [List.getD_cons_zero,List.getD_cons_succ]
 generalize setFd (setFd p d0.toNat (f0+1)) d1.toNat (f1+1)=q at hs2 w4
 (refine Jb ?_;unhygienic intros;repeat(refine Gw ?_;rintro px rfl;refine Jb ?_;unhygienic intros))
 rw [hx]
 refine Yb (Yt rfl ?_)
 (refine Jb ?_;unhygienic intros)
 refine Yc (D14 b k F (Av6 (Av6 (A11 X r0 A78) f0 ⟨1,r0,1,0⟩) f1 ⟨2,r0,1,0⟩) ok i q) ?_;rintro _ h ⟨rfl,o⟩<;>refine Jh o ?_
 rw [w4]
 dsimp only
 (refine Jb ?_;unhygienic intros)
 refine Ys fun o=>(?_:Tr _ _ _ _) o;refine Je ?_
 refine Yc (H86 true (d0+16*d1)) ?_;rintro _ h ⟨rfl,o⟩<;>refine Jh o ?_
 rw [if_pos trivial]
 (refine Ja ?_;unhygienic intros)
 refine Ys fun o=>?_
 exact ⟨rfl,o.sub⟩
structure VW where
 S:Int→ProcS × Int
 F:Int→FileS × Int
 P:Int→PipeS × Int
structure See (X:CX) (V:VW):Prop where
 c:Clean 3 X
 s:∀ j:Int,0≤j∧j<8→vS X j=V.S j
 f:∀ j:Int,0≤j∧j<12→vF X j=V.F j
 p:∀ j:Int,0≤j∧j<6→vP X j=V.P j
theorem See.to {X:CX} {V V':VW} (A:See X V) (hs:∀ j:Int,0≤j∧j<8→V.S j=V'.S j) (hf:∀ j:Int,0≤j∧j<12→V.F j=V'.F j) (hp:∀ j:Int,0≤j∧j<6→V.P j=V'.P j):See X V' :=
 ⟨A.c,fun j h=>(A.s j h).trans (hs j h),fun j h=>(A.f j h).trans (hf j h),fun j h=>(A.p j h).trans (hp j h)⟩
def wS (V:VW) (i:Int) (p:ProcS):VW:=⟨fun j=>if j=i then (p,1) else V.S j,V.F,V.P⟩
def wF (V:VW) (i:Int) (x:FileS):VW:=⟨V.S,fun j=>if j=i then (x,1) else V.F j,V.P⟩
def wP (V:VW) (i:Int) (x:PipeS):VW:=⟨V.S,V.F,fun j=>if j=i then (x,1) else V.P j⟩
def oF (V:VW) (i:Int):VW:=⟨V.S,fun j=>if j=i then (.zero,0) else V.F j,V.P⟩
def oP (V:VW) (i:Int):VW:=⟨V.S,V.F,fun j=>if j=i then (.zero,0) else V.P j⟩
section
variable {X:CX} {V:VW} (A:See X V)
include A
theorem See.ws {i:Int} (hi:0≤i∧i<8) {p:ProcS} (ok:okS p=true) (r:InS p):See (A06 X i p) (wS V i p):=by
 obtain ⟨_,w2,w3,w4,w5⟩:=Bl9 A.c hi ok r
 exact ⟨w2,fun j h=>by rw [w3 j h,A.s j h];rfl,fun j h=>by rw [w4 j h];exact A.f j h,fun j h=>by rw [w5 j (by omega)];exact A.p j h⟩
theorem See.wf {i:Int} (hi:0≤i∧i<12) {x:FileS} (ok:okF x=true):See (Av6 X i x) (wF V i x):=by
 obtain ⟨_,w2,w3,w4,w5⟩:=Ah9 A.c hi ok
 exact ⟨w2,fun j h=>by rw [w3 j h];exact A.s j h,fun j h=>by rw [w4 j h,A.f j h];rfl,fun j h=>by rw [w5 j (by omega)];exact A.p j h⟩
theorem See.wp {i:Int} (hi:0≤i∧i<6) {x:PipeS} (ok:okP x=true):See (A11 X i x) (wP V i x):=by
 obtain ⟨_,w2,w3,w4,w5⟩:=As0 A.c (i:=i) (by omega) ok
 exact ⟨w2,fun j h=>by rw [w3 j h];exact A.s j h,fun j h=>by rw [w4 j h];exact A.f j h,fun j h=>by rw [w5 j (by omega),A.p j h];rfl⟩
theorem See.of {i:Int} (hi:0≤i∧i<12):See (D06 X i) (oF V i):=by
 obtain ⟨_,w2,w3,w4,w5⟩:=D79 A.c hi
 exact ⟨w2,fun j h=>by rw [w3 j h];exact A.s j h,fun j h=>by rw [w4 j h,A.f j h];rfl,fun j h=>by rw [w5 j (by omega)];exact A.p j h⟩
theorem See.op {i:Int} (hi:0≤i∧i<6):See (E58 X i) (oP V i):=by
 obtain ⟨_,w2,w3,w4,w5⟩:=D80 A.c (i:=i) (by omega)
 exact ⟨w2,fun j h=>by rw [w3 j h];exact A.s j h,fun j h=>by rw [w4 j h];exact A.f j h,fun j h=>by rw [w5 j (by omega),A.p j h];rfl⟩
end
def Ah3 (V:VW) (i:Int):ProcS × Int:=if (V.S i).2=1∧(V.S i).1.state=1 then ((V.S i).1,0) else (.zero,105)
theorem See.self {X:CX} {V:VW} (A:See X V) {i:Int} (hi:0≤i∧i<8):M8 X i=Ah3 V i:=by unfold M8 Ah3;rw [A.s i hi]
def clP (V:VW) (i:Int) (q:PipeS):VW:=if q.readers+q.writers=0∧i<4 then oP V i else wP V i q
def Ev4 (V:VW) (f:Int):Int × VW :=
 if (V.F f).2≠1 then (105,V)
 else if (V.F f).1.refs-1>0 then (0,wF V f (Bv8 (V.F f).1 (-1)))
 else if (V.F f).1.kind=3 then (0,oF V f)
 else if ¬ ((V.F f).1.pipe<6∧(V.P (V.F f).1.pipe).2=1) then (105,oF V f)
 else (0,clP (oF V f) (V.F f).1.pipe (Es3 (V.F f).1.kind (V.P (V.F f).1.pipe).1))
theorem See.close {X:CX} {V:VW} (A:See X V) {f:Int} (hf:0≤f∧f<12):(B39 3 X f).1=(Ev4 V f).1∧See (B39 3 X f).2 (Ev4 V f).2:=by
 have e:=A.f f hf
 have hk:(V.F f).2=1→okF (V.F f).1=true:=fun h=>by
  rcases Gy3 A.c hf with ⟨h2,_⟩|⟨_,h2⟩
  ·rw [e,h] at h2;cases h2
  ·rw [e] at h2;exact h2
 unfold B39 Ev4
 rw [e]
 by_cases h1:(V.F f).2=1
 case neg=>rw [if_pos h1,if_pos h1];exact ⟨rfl,A⟩
 have n1:¬ (V.F f).2≠1:=by simpa using h1
 rw [if_neg n1,if_neg n1]
 replace hk:=hk h1
 have hr:=Ez6 hk
 have hp:=G49 hk
 by_cases h2:(V.F f).1.refs-1>0
 ·rw [if_pos h2,if_pos h2]
  exact ⟨rfl,A.wf hf (Ga6 hk (n:=-1) (by omega))⟩
 rw [if_neg h2,if_neg h2]
 by_cases h3:(V.F f).1.kind=3
 ·rw [if_pos h3,if_pos h3];exact ⟨rfl,A.of hf⟩
 rw [if_neg h3,if_neg h3]
 by_cases h4:(V.F f).1.pipe<6
 case neg =>
  have n4:¬ ((V.F f).1.pipe<3+((3:Nat):Int)∧(vP X (V.F f).1.pipe).2=1):=fun h=>h4 (by have:=h.1;omega)
  have n5:¬ ((V.F f).1.pipe<6∧(V.P (V.F f).1.pipe).2=1):=fun h=>h4 h.1
  rw [if_pos n4,if_pos n5];exact ⟨rfl,A.of hf⟩
 have ep:=A.p (V.F f).1.pipe ⟨hp,h4⟩
 rw [ep]
 by_cases h5:(V.P (V.F f).1.pipe).2=1
 case neg =>
  have n4:¬ ((V.F f).1.pipe<3+((3:Nat):Int)∧(V.P (V.F f).1.pipe).2=1):=fun h=>h5 h.2
  have n5:¬ ((V.F f).1.pipe<6∧(V.P (V.F f).1.pipe).2=1):=fun h=>h5 h.2
  rw [if_pos n4,if_pos n5];exact ⟨rfl,A.of hf⟩
 have n4:¬ ¬ ((V.F f).1.pipe<3+((3:Nat):Int)∧(V.P (V.F f).1.pipe).2=1):=fun h=>h ⟨by omega,h5⟩
 have n5:¬ ¬ ((V.F f).1.pipe<6∧(V.P (V.F f).1.pipe).2=1):=fun h=>h ⟨h4,h5⟩
 rw [if_neg n4,if_neg n5]
 have hq:okP (V.P (V.F f).1.pipe).1=true:=by
  rcases Gz2 A.c (i:=(V.F f).1.pipe) (by omega) with ⟨h6,_⟩|⟨_,h6⟩
  ·rw [ep,h5] at h6;cases h6
  ·rw [ep] at h6;exact h6
 refine ⟨rfl,?_⟩
 unfold Gh5 clP
 split
 ·exact (A.of hf).op ⟨hp,h4⟩
 ·exact (A.of hf).wp ⟨hp,h4⟩ (Ho4 hq _)
def ofW (V:VW) (i fd:Int):(Int × FileS) × Int :=
 if (Ah3 V i).2≠0 then ((0,.zero),(Ah3 V i).2)
 else if Ac7 (V.S i).1 fd=false then ((0,.zero),109)
 else if (V.F ((V.S i).1.fds.getD fd.toNat 0-1)).2≠1 then ((0,.zero),105)
 else (((V.S i).1.fds.getD fd.toNat 0-1,(V.F ((V.S i).1.fds.getD fd.toNat 0-1)).1),0)
theorem See.ofv {X:CX} {V:VW} (A:See X V) {i:Int} (hi:0≤i∧i<8) (fd:Int):ofV X i fd=ofW V i fd:=by
 have es:=A.self hi
 have hr:=fun h=>Gb7 A.c (i:=i) hi h fd.toNat
 unfold ofV ofW
 rw [es] at hr ⊢
 rw [A.s i hi] at hr ⊢
 by_cases h1:(Ah3 V i).2≠0
 ·rw [if_pos h1,if_pos h1]
 rw [if_neg h1,if_neg h1]
 by_cases h2:Ac7 (V.S i).1 fd=false
 ·rw [if_pos h2,if_pos h2]
 have hn:=En9 (show Ac7 (V.S i).1 fd=true by simpa using h2)
 have hr:=hr (by simpa using h1)
 rw [if_neg h2,if_neg h2,A.f _ (by omega)]
def Hw8 (V:VW) (i fd f:Int):List Value × VW :=
 if (Ah3 V i).2≠0 then (O0 0 (Ah3 V i).2 false,V) else (O0 fd 0 false,wS V i (setFd (V.S i).1 fd.toNat (f+1)))
theorem See.setFd {X:CX} {V:VW} (A:See X V) {i:Int} (hi:0≤i∧i<8) (h:(Ah3 V i).2=0) (j:Nat) {f:Int} (hf:0≤f∧f≤12):See (A06 X i (EQ.setFd (vS X i).1 j f)) (wS V i (EQ.setFd (V.S i).1 j f)):=by
 have es:=A.self hi
 obtain ⟨s1,s2,s3,s4⟩:=Bb0 A.c hi (by rw [es];exact h)
 have hin:=D54 (rd X ⟨1,i⟩)
 have:=A.ws hi (Eb3 s3 s2 j hf) ⟨hin.a,hin.b,hin.c,hin.d⟩
 have e:EQ.setFd (V.S i).1 j f=EQ.setFd (vS X i).1 j f:=by rw [A.s i hi]
 rw [e];exact this
theorem See.name {X:CX} {V:VW} (A:See X V) {i:Int} (hi:0≤i∧i<8) (fd:Int) {f:Int} (hf:0≤f∧f<12):(Hu3 X i fd f).1=(Hw8 V i fd f).1∧See (Hu3 X i fd f).2 (Hw8 V i fd f).2:=by
 have es:=A.self hi
 unfold Hu3 Hw8
 rw [es]
 by_cases h1:(Ah3 V i).2=0
 case neg=>rw [if_pos h1,if_pos h1];exact ⟨rfl,A⟩
 have n1:¬ (Ah3 V i).2≠0:=by simpa using h1
 rw [if_neg n1,if_neg n1]
 exact ⟨rfl,A.setFd hi h1 fd.toNat (by omega)⟩
def Am6 (V:VW) (i fd:Int):List Value × VW :=
 if (Ah3 V i).2≠0 then (O0 0 (Ah3 V i).2 false,V)
 else if Ac7 (V.S i).1 fd=false then (O0 0 109 false,V)
 else (O0 0 (Ev4 (wS V i (setFd (V.S i).1 fd.toNat 0)) ((V.S i).1.fds.getD fd.toNat 0-1)).1 false,(Ev4 (wS V i (setFd (V.S i).1 fd.toNat 0)) ((V.S i).1.fds.getD fd.toNat 0-1)).2)
theorem See.closeFd {X:CX} {V:VW} (A:See X V) {i:Int} (hi:0≤i∧i<8) (fd:Int):(A83 3 X i fd).1=(Am6 V i fd).1∧See (A83 3 X i fd).2 (Am6 V i fd).2:=by
 have es:=A.self hi
 unfold A83 Am6
 have hr0:=fun h=>Gb7 A.c (i:=i) hi h fd.toNat
 rw [es] at hr0 ⊢
 by_cases h1:(Ah3 V i).2=0
 case neg=>rw [if_pos h1,if_pos h1];exact ⟨rfl,A⟩
 have n1:¬ (Ah3 V i).2≠0:=by simpa using h1
 have hr:=hr0 h1
 have B:=A.setFd hi h1 fd.toNat (f:=0) (by omega)
 rw [if_neg n1,if_neg n1]
 rw [A.s i hi] at hr B ⊢
 by_cases h2:Ac7 (V.S i).1 fd=false
 ·rw [if_pos h2,if_pos h2];exact ⟨rfl,A⟩
 have hn:=En9 (show Ac7 (V.S i).1 fd=true by simpa using h2)
 rw [if_neg h2,if_neg h2]
 have C:=B.close (f:=(V.S i).1.fds.getD fd.toNat 0-1) (by omega)
 exact ⟨by rw [C.1],C.2⟩
theorem Da0 {q q':Int→Bool}:∀ (m:Nat) (i:Int) (w:Nat),(∀ j:Int,i≤j→j<i+m→q j=q' j)→N8 q m i w=N8 q' m i w
 | 0,_,_,_=>rfl
 | _+1,_,0,_=>rfl
 | m+1,i,w+1,h=>by
  rw [N8,N8,h i (by omega) (by omega),Da0 m (i+1) w fun j h1 h2=>h j (by omega) (by omega),Da0 m (i+1) (w+1) fun j h1 h2=>h j (by omega) (by omega)]
abbrev Ec7 (V:VW):List Int:=N8 (fun j=>(V.F j).2==0) 12 0 2
abbrev Go0 (V:VW):List Int:=N8 (fun j=>(V.P j).2==0) 4 0 1
def mkW (V:VW) (i d0 d1 f0 f1 r0:Int):VW:=wS (wF (wF (wP V r0 A78) f0 ⟨1,r0,1,0⟩) f1 ⟨2,r0,1,0⟩) i (setFd (setFd (V.S i).1 d0.toNat (f0+1)) d1.toNat (f1+1))
def Gy9 (V:VW) (i:Int):List Value × VW :=
 if (Ah3 V i).2≠0 then (O0 0 (Ah3 V i).2 false,V)
 else if (W7 (V.S i).1 2).length<2 then (O0 0 124 false,V)
 else if (Ec7 V).length<2∨(Go0 V).length=0 then (O0 0 123 false,V)
 else (O0 ((W7 (V.S i).1 2).getD 0 0+16*(W7 (V.S i).1 2).getD 1 0) 0 false,mkW V i ((W7 (V.S i).1 2).getD 0 0) ((W7 (V.S i).1 2).getD 1 0) ((Ec7 V).getD 0 0) ((Ec7 V).getD 1 0) ((Go0 V).getD 0 0))
theorem Dt0 {l:List Int} {j:Nat} (h:j<l.length):l.getD j 0 ∈ l:=by
 rw [List.getD_eq_getElem?_getD,List.getElem?_eq_getElem h];exact List.getElem_mem _
theorem See.pipe {X:CX} {V:VW} (A:See X V) {i:Int} (hi:0≤i∧i<8):(A65 X i).1=(Gy9 V i).1∧See (A65 X i).2 (Gy9 V i).2:=by
 have es:=A.self hi
 have e1:Be0 X=Ec7 V:=Da0 12 0 2 fun j h1 h2=>by rw [A.f j (by omega)]
 have e2:Bm6 X=Go0 V:=Da0 4 0 1 fun j h1 h2=>by rw [A.p j (by omega)]
 unfold A65 Gy9
 rw [e1,e2,es]
 by_cases h1:(Ah3 V i).2=0
 case neg=>rw [if_pos h1,if_pos h1];exact ⟨rfl,A⟩
 have n1:¬ (Ah3 V i).2≠0:=by simpa using h1
 rw [if_neg n1,if_neg n1,A.s i hi]
 by_cases h2:(W7 (V.S i).1 2).length<2
 ·rw [if_pos h2,if_pos h2];exact ⟨rfl,A⟩
 rw [if_neg h2,if_neg h2]
 by_cases h3:(Ec7 V).length<2∨(Go0 V).length=0
 ·rw [if_pos h3,if_pos h3];exact ⟨rfl,A⟩
 rw [if_neg h3,if_neg h3]
 have hm:=Ay1 (fun j=>(V.S i).1.fds.getD j.toNat 0==0) 8 0 2
 have hd0:=hm _ (Dt0 (l:=W7 (V.S i).1 2) (j:=0) (by omega))
 have hd1:=hm _ (Dt0 (l:=W7 (V.S i).1 2) (j:=1) (by omega))
 have hf0:=Ay1 (fun j=>(V.F j).2==0) 12 0 2 _ (Dt0 (l:=Ec7 V) (j:=0) (by omega))
 have hf1:=Ay1 (fun j=>(V.F j).2==0) 12 0 2 _ (Dt0 (l:=Ec7 V) (j:=1) (by omega))
 have hr:=Ay1 (fun j=>(V.P j).2==0) 4 0 1 _ (Dt0 (l:=Go0 V) (j:=0) (by omega))
 generalize (W7 (V.S i).1 2).getD 0 0=d0 at hd0 ⊢
 generalize (W7 (V.S i).1 2).getD 1 0=d1 at hd1 ⊢
 generalize (Ec7 V).getD 0 0=f0 at hf0 ⊢
 generalize (Ec7 V).getD 1 0=f1 at hf1 ⊢
 generalize (Go0 V).getD 0 0=r0 at hr ⊢
 obtain ⟨_,_,_,_,m1,m2,m3,m4⟩:=Gr9 A.c hi (by rw [es];exact h1) (d0:=d0) (d1:=d1) (f0:=f0) (f1:=f1) (r0:=r0) (by omega) (by omega) (by omega) (by omega) (by omega) (by omega)
 refine ⟨rfl,m1,fun j hj=>?_,fun j hj=>?_,fun j hj=>?_⟩
 ·rw [m2 j hj,A.s i hi,A.s j hj];rfl
 ·rw [m3 j hj,A.f j hj];rfl
 ·rw [m4 j (by omega),A.p j hj];rfl
def Dy1 (V:VW):Nat→Int→Int
 | 0,_=>-1
 | m+1,i=>if (V.S i).2=0 then i else Dy1 V m (i+1)
theorem See.free {X:CX} {V:VW} (A:See X V):∀ (m:Nat) (i:Int),0≤i→i+m=8→Aj6 X m i=Dy1 V m i
 | 0,_,_,_=>rfl
 | m+1,i,h0,hi=>by rw [Aj6,Dy1,A.s i (by omega),A.free m (i+1) (by omega) (by omega)]
def Db1 (V:VW) (more:List Int):List Int→Int
 | []=>0
 | f::l=>if f=0 then Db1 V more l else if (V.F (f-1)).2≠1 then 105 else if (V.F (f-1)).1.refs+more.getD (f-1).toNat 0>64 then 123 else Db1 V more l
theorem See.share {X:CX} {V:VW} (A:See X V) (more:List Int):∀ l:List Int,B32 l→Ac6 X more l=Db1 V more l
 | [],_=>rfl
 | f::l,h=>by
  have hf:=h f (by simp)
  rw [Ac6,Db1,A.share more l fun x hx=>h x (by simp [hx])]
  by_cases h0:f=0
  ·rw [if_pos h0,if_pos h0]
  ·rw [if_neg h0,if_neg h0,A.f (f-1) (by omega)]
def Ip6 (V:VW) (more:List Int):VW:=⟨V.S,fun j=>if more.getD j.toNat 0≠0 then (Bv8 (V.F j).1 (more.getD j.toNat 0),1) else V.F j,V.P⟩
def Gi7 (V:VW) (i:Int):List Value × VW :=
 if (Ah3 V i).2≠0 then (O0 0 (Ah3 V i).2 false,V)
 else if Dy1 V 8 0<0 then (O0 0 111 false,V)
 else if Db1 V (Al7 (V.S i).1) (V.S i).1.fds≠0 then (O0 0 (Db1 V (Al7 (V.S i).1) (V.S i).1.fds) false,V)
 else (O0 (Dy1 V 8 0) 0 false,wS (Ip6 V (Al7 (V.S i).1)) (Dy1 V 8 0) (Bm5 (V.S i).1 i))
theorem See.fork {X:CX} {V:VW} (A:See X V) {i:Int} (hi:0≤i∧i<8):(D94 X i).1=(Gi7 V i).1∧See (D94 X i).2 (Gi7 V i).2:=by
 have es:=A.self hi
 have ef:=A.free 8 0 (by omega) (by omega)
 unfold D94 Gi7
 rw [ef]
 by_cases h1:(Ah3 V i).2=0
 case neg=>rw [es,if_pos h1,if_pos h1];exact ⟨rfl,A⟩
 have n1:¬ (Ah3 V i).2≠0:=by simpa using h1
 have n2:¬ (M8 X i).2≠0:=by rw [es];exact n1
 rw [if_neg n2,if_neg n1]
 by_cases h2:Dy1 V 8 0<0
 ·rw [if_pos h2,if_pos h2];exact ⟨rfl,A⟩
 rw [if_neg h2,if_neg h2]
 obtain ⟨s1,s2,s3,s4⟩:=Bb0 A.c hi (by rw [es];exact h1)
 rw [s1]
 have hfd:=Ex3 s3
 have hin:=D54 (rd X ⟨1,i⟩)
 have esh:=A.share (Al7 (vS X i).1) _ hfd
 have hcl:=Et1 A.c hfd
 have hno:=fun h=>Gq9 (X:=X) (p:=(vS X i).1) h
 have hm8:Dy1 V 8 0<8:=by
  rcases Eo3 (X:=X) 8 0 (by omega) (by omega) with h|h<;>omega
 have e1:(U8 X (vS X i).1).1=Ac6 X (Al7 (vS X i).1) (vS X i).1.fds:=by
  unfold U8;split
  ·rename_i h;exact h.symm
  ·rfl
 rw [esh] at e1
 have hck:=G79 s3 s2 hi
 have hin2:InS (Bm5 (vS X i).1 i):=⟨by simp,hin.b,hin.c,hin.d⟩
 simp only
 rw [e1] at hcl hno ⊢
 rw [A.s i hi] at *
 by_cases h3:Db1 V (Al7 (V.S i).1) (V.S i).1.fds=0
 case neg=>rw [if_pos h3,if_pos h3];exact ⟨rfl,A⟩
 have n3:¬ Db1 V (Al7 (V.S i).1) (V.S i).1.fds≠0:=by simpa using h3
 rw [if_neg n3,if_neg n3]
 obtain ⟨a1,a2,a3,a4⟩:=hcl h3
 refine ⟨rfl,?_⟩
 have B:See (U8 X (V.S i).1).2 (Ip6 V (Al7 (V.S i).1)):=⟨a1,fun j hj=>by rw [a2 j hj];exact A.s j hj,fun j hj=>by rw [a3 j hj,A.f j hj];rfl,fun j hj=>by rw [a4 j (by omega)];exact A.p j hj⟩
 exact B.ws (by omega) hck hin2
def V1:VW:=⟨fun j=>if j=0 then (p0,1) else (.zero,0),fun j=>if j=0 then (f0,1) else (.zero,0),fun j=>if j<4 then (.zero,0) else vP X1 j⟩
theorem Im0:See X1 V1:=by
 refine ⟨E85,fun j hj=>?_,fun j hj=>?_,fun j hj=>?_⟩
 ·have:j=0∨j=1∨j=2∨j=3∨j=4∨j=5∨j=6∨j=7:=by omega
  rcases this with rfl|rfl|rfl|rfl|rfl|rfl|rfl|rfl<;>(clear hj;show (_:ProcS × Int)=_;kernel_rfl)
 ·have:j=0∨j=1∨j=2∨j=3∨j=4∨j=5∨j=6∨j=7∨j=8∨j=9∨j=10∨j=11:=by omega
  rcases this with rfl|rfl|rfl|rfl|rfl|rfl|rfl|rfl|rfl|rfl|rfl|rfl<;>(clear hj;show (_:FileS × Int)=_;kernel_rfl)
 ·by_cases h4:j<4
  ·have:j=0∨j=1∨j=2∨j=3:=by omega
   rcases this with rfl|rfl|rfl|rfl<;>(clear hj h4;show (_:PipeS × Int)=_;kernel_rfl)
  ·show _=if j<4 then _ else vP X1 j
   rw [if_neg h4]
abbrev Ir9 (ow:List Int) (h:ow.length=8):ProcS:=⟨1,0,0,0,0,0,0,0,ow,h⟩
def kd (j:Int):Int:=if j=0 then 3 else j
def Is2 (j n:Int):FileS × Int:=if n>0 then (⟨kd j,0,n,0⟩,1) else (.zero,0)
def pO (a b:Int):PipeS:=⟨0,0,min a 1,min b 1,[0,0,0,0,0,0,0,0,0,0,0,0,0,0,0,0,0,0,0,0,0,0,0,0,0,0,0,0,0,0,0,0],rfl⟩
def Is6 (a b:Int):PipeS × Int:=if a>0∨b>0 then (pO a b,1) else (.zero,0)
def Is1 (ow:List Int) (h:ow.length=8) (r:Int→Int):VW :=
 ⟨fun j=>if j=0 then (Ir9 ow h,1) else (.zero,0),fun j=>if 0≤j∧j<3 then Is2 j (r (j+1)) else (.zero,0),fun j=>if j=0 then Is6 (r 2) (r 3) else if j<4 then (.zero,0) else vP X1 j⟩
abbrev rr (r:Int→Int) (v d:Int):Int→Int:=fun k=>if k=v then r k+d else r k
theorem VW.ext' {V V':VW} (h1:∀ j,V.S j=V'.S j) (h2:∀ j,V.F j=V'.F j) (h3:∀ j,V.P j=V'.P j):V=V':=by
 obtain ⟨a,b,c⟩:=V
 obtain ⟨a',b',c'⟩:=V'
 have e1:a=a':=funext h1
 have e2:b=b':=funext h2
 have e3:c=c':=funext h3
 rw [e1,e2,e3]
section
variable {ow:List Int} {h:ow.length=8} {r:Int→Int}
end
def cnt (v:Int):List Int→Int
 | []=>0
 | x::l=>(if x=v then 1 else 0)+cnt v l
theorem Go5 (v:Int):∀ l:List Int,0≤cnt v l∧cnt v l≤l.length
 | []=>by simp [cnt]
 | x::l=>by
  have:=Go5 v l
  unfold cnt;rw [List.length_cons];split<;>omega
theorem Hm5 (v:Int):∀ (l:List Int) (j:Nat),j<l.length→l.getD j 0=v→1≤cnt v l
 | [],j,h,_=>by simp at h
 | x::l,0,_,e=>by
  have:=Go5 v l
  rw [List.getD_cons_zero] at e
  unfold cnt;rw [if_pos e];omega
 | x::l,j+1,h,e=>by
  rw [List.getD_cons_succ] at e
  have:=Hm5 v l j (by simpa using h) e
  unfold cnt;split<;>omega
theorem Hm7 (v w:Int):∀ (l:List Int) (j:Nat),j<l.length→cnt v (l.set j w)=cnt v l-(if l.getD j 0=v then 1 else 0)+(if w=v then 1 else 0)
 | [],j,h=>by simp at h
 | x::l,0,_=>by
  rw [List.set_cons_zero,List.getD_cons_zero,cnt,cnt];omega
 | x::l,j+1,h=>by
  have:=Hm7 v w l j (by simpa using h)
  rw [List.set_cons_succ,List.getD_cons_succ,cnt,cnt,this];omega
theorem H65 (l:List Int) (j n:Nat) (w:Int) (h:j<l.length):(l.set j w).getD n 0=if n=j then w else l.getD n 0:=by
 rw [List.getD_eq_getElem?_getD,List.getD_eq_getElem?_getD,List.getElem?_set]
 by_cases hj:j=n
 ·subst hj;simp [h]
 ·rw [if_neg hj,if_neg (fun e=>hj e.symm)]
structure Own8 (ow:List Int) (r:Int→Int):Prop where
 len:ow.length=8
 rng:∀ j:Nat,0≤ow.getD j 0∧ow.getD j 0≤3
 ct:∀ v:Int,1≤v→v≤3→r v=cnt v ow
theorem Own8.pos {ow:List Int} {r:Int→Int} (I:Own8 ow r) {j:Nat} (hj:j<8) (h:ow.getD j 0>0):1≤r (ow.getD j 0):=by
 rw [I.ct _ (by omega) (I.rng j).2];exact Hm5 _ _ j (by rw [I.len];exact hj) rfl
theorem Own8.nn {ow:List Int} {r:Int→Int} (I:Own8 ow r) {v:Int} (h:1≤v∧v≤3):0≤r v∧r v≤8:=by
 rw [I.ct v h.1 h.2];have:=Go5 v ow;have:=I.len;omega
theorem Own8.set {ow:List Int} {r:Int→Int} (I:Own8 ow r) {j:Nat} (hj:j<8) {w:Int} (hw:0≤w∧w≤3) {r':Int→Int} (hr:∀ v:Int,1≤v→v≤3→r' v=r v-(if ow.getD j 0=v then 1 else 0)+(if w=v then 1 else 0)):Own8 (ow.set j w) r':=by
 refine ⟨by rw [List.length_set];exact I.len,fun n=>?_,fun v h1 h2=>?_⟩
 ·rw [H65 _ _ _ _ (by rw [I.len];exact hj)]
  split
  ·exact hw
  ·exact I.rng n
 ·rw [hr v h1 h2,Hm7 _ _ _ _ (by rw [I.len];exact hj),I.ct v h1 h2]
section
variable {ow:List Int} {h:ow.length=8} {r:Int→Int} (I:Own8 ow r)
include I
def r2 (r:Int→Int) (w v:Int):Int→Int:=rr (if w>0 then rr r w (-1) else r) v 1
end
def ow0:List Int:=[1,2,3,0,0,0,0,0]
def VD:VW:=Is1 ow0 rfl (fun _=>1)
theorem Ir7:(Gy9 V1 0).1=O0 33 0 false:=by kernel_rfl
theorem Is8:See (A65 X1 0).2 VD:=by
 refine (Im0.pipe (i:=0) (by omega)).2.to (fun j hj=>?_) (fun j hj=>?_) fun j hj=>?_
 ·have:j=0∨j=1∨j=2∨j=3∨j=4∨j=5∨j=6∨j=7:=by omega
  rcases this with rfl|rfl|rfl|rfl|rfl|rfl|rfl|rfl<;>(clear hj;show (_:ProcS × Int)=_;kernel_rfl)
 ·have:j=0∨j=1∨j=2∨j=3∨j=4∨j=5∨j=6∨j=7∨j=8∨j=9∨j=10∨j=11:=by omega
  rcases this with rfl|rfl|rfl|rfl|rfl|rfl|rfl|rfl|rfl|rfl|rfl|rfl<;>(clear hj;show (_:FileS × Int)=_;kernel_rfl)
 ·have:j=0∨j=1∨j=2∨j=3∨j=4∨j=5:=by omega
  rcases this with rfl|rfl|rfl|rfl|rfl|rfl<;>(clear hj;show (_:PipeS × Int)=_;kernel_rfl)
theorem H02:(A65 X1 0).1=O0 33 0 false:=(Im0.pipe (i:=0) (by omega)).1.trans Ir7
def XD:CX:=(A65 X1 0).2
theorem Ib6:See XD VD:=Is8
theorem Ir6 {h:H} {ro:Bool} {e:TypeId} {sz:Nat} {a:Option Addr} {n c:Nat} {cs:List Value} {r:List HP} (m:Nat) (hm:m≤n) (o:Own h (slC ro e sz a n c cs::r)):Own h (slC ro e sz a m c (cs.take (m*sz))::r):=by
 cases a with
 | none =>
  obtain ⟨rfl,rfl,rfl,hs⟩:=o.slNone
  obtain rfl:m=0:=by omega
  simpa using o
 | some x =>
  obtain ⟨b,o',sp⟩:=x
  obtain ⟨pre,post,o2,h1,h2,h3,h4,h5,h6,h7⟩:=o.slOpen
  have hl:m*sz≤cs.length:=by rw [← h1];exact Nat.mul_le_mul_right _ hm
  have e1:pre++cs++post=pre++cs.take (m*sz)++(cs.drop (m*sz)++post):=by rw [List.append_assoc pre cs,List.append_assoc pre,← List.append_assoc (cs.take _),List.take_append_drop]
  rw [e1] at o2
  refine Own.slShut (b:=b) (o:=o') (sp:=sp) o2 ⟨by rw [List.length_take];omega,by omega,?_,h4,h5,h6,h7⟩
  rw [List.length_append,List.length_drop,← h1]
  have:(c-m)*sz=(c-n)*sz+(n*sz-m*sz):=by rw [← Nat.sub_mul,← Nat.add_mul];congr 1;omega
  omega
theorem Ip3 {h:H} {e:TypeId} {sz:Nat} {a:Option Addr} {n c:Nat} {cs:List Value} {r:List HP} (o:Own h (slC false e sz a n c cs::r)):Own h (slC false e sz (Bz8 a) n n cs::r):=by
 cases a with
 | none=>obtain ⟨rfl,rfl,rfl,hs⟩:=o.slNone;exact o
 | some x =>
  obtain ⟨b,o',sp⟩:=x
  obtain ⟨pre,post,o2,h1,h2,h3,h4,h5,h6,h7⟩:=o.slOpen
  refine Own.slShut (b:=b) (o:=o') (sp:=none) o2 ⟨h1,by omega,by simp,fun h=>h4 (by omega),fun h=>absurd rfl h,h6,fun h=>?_⟩
  rcases Nat.eq_zero_or_pos c with hc|hc
  ·exact h7 hc
  ·have:=h4 hc;omega
theorem H47 {l:List HP} {h:H} {α:Type} {Q:α→H→Prop} {ro:Bool} {e:TypeId} {sz:Nat} {a:Option Addr} {n c:Nat} {cs:List Value} {z:Option (α × H)} (i:Nat) (hi:l[i]?=some (slC ro e sz a n c cs)) (m:Nat) (cs':List Value) (hm:m≤n) (hc:cs.take (m*sz)=cs')
  (k:Tr (l.set i (slC ro e sz a m c cs')) h z Q):Tr l h z Q:=fun o=>by
 subst hc;exact k (Own.back (h:=h) hi (Ir6 m hm (o.front hi)))
theorem Hn1 (a:Option Addr) (n c:Nat) (cs:List Value):Ct B6 V0 [.slice a n c] [slC false B1 1 a n c cs] fun v own=>v=.slice (Bz8 a) n n∧own [slC false B1 1 (Bz8 a) n n cs]:=by
 refine Ct.of Di9 rfl fun h r=>Tr.eq (Di0 ..) ?_;refine Je ?_
 refine U4 0 rfl fun hl hc _=>?_
 simp only [Int.toNat_natCast]
 (refine Ja ?_;unhygienic intros)
 refine Ys fun o=>?_
 refine ⟨?_,Ip3 o⟩
 simp
abbrev bytesN (p:PipeS) (i:Nat):List UInt8:=(List.range i).map fun (j:Nat)=>p.data.getD (((p.head+j)%32).toNat) 0
abbrev N9 (p:PipeS):List UInt8:=bytesN p p.count.toNat
theorem Al4 {p:PipeS} (h:okP p=true):(0≤p.head∧p.head≤31)∧(0≤p.count∧p.count≤32)∧(0≤p.readers∧p.readers≤8)∧(0≤p.writers∧p.writers≤8):=by
 simp only [okP,Bool.and_eq_true,decide_eq_true_eq] at h;omega
theorem Ho3 {l:List UInt8} {j:Nat} (h:j<l.length):(A0 l)[j]?=some (.int .u8 (l.getD j 0).toNat):=by
 unfold A0
 rw [List.getElem?_map,List.getElem?_eq_getElem h,List.getD_eq_getElem?_getD,List.getElem?_eq_getElem h];rfl
theorem H27 (p:PipeS) {j:Nat} (h:j<32):(E4 p)[4+j]?=some (.int .u8 (p.data.getD j 0).toNat):=by
 rw [show 4+j=j+4 by omega]
 exact Ho3 (by rw [p.len];exact h)
theorem Et3 (b:Nat) (p:PipeS) (hp:okP p=true):∀ (m i:Nat) (a:Option Addr) (ac:Nat),(i:Int)+m=p.count→CtJ H5 Ak9 Bf1 [(1,P0 b),(3,.slice a i ac),(9,int p.count),(10,int i)] [pt b (.cells D4 false (E4 p)),slC false B1 1 a i ac (A0 (bytesN p i))] fun v own =>
  ∃ a' c',v=.slice a' p.count.toNat c'∧own [slC false B1 1 a' p.count.toNat c' (A0 (N9 p))]
 | 0,i,a,ac,hi=>by
  obtain rfl:i=p.count.toNat:=by omega
  refine CtJ.of Dr7 fun h r=>Tr.eq (Dy8 ..) ?_;refine Je ?_
  refine Yf (by simp;omega) ?_
  refine Ys fun o=>?_
  exact ⟨a,ac,rfl,o.sub⟩
 | m+1,i,a,ac,hi=>by
  obtain ⟨r1,r2,r3,r4⟩:=Al4 hp
  have e1:IntKind.wrap .i64 ((i:Int)+1)=((i+1:Nat):Int):=by rw [B5];omega
  have e2:IntKind.wrap .i64 (p.head+i)=p.head+i:=by rw [B5];omega
  have hg:=H27 p (j:=((p.head+i)%32).toNat) (by omega)
  refine CtJ.of Dr7 fun h r=>Tr.eq (Dy8 ..) ?_;refine Je ?_
  refine Yt (by simp;omega) ?_
  rw [e1]
  (refine Ja ?_;unhygienic intros)
  rw [e2,Ho6 (show 0≤p.head+(i:Int) by omega)]
  (refine Ja ?_;unhygienic intros)
  refine U4 2 rfl fun hl hc _=>?_
  refine Tr.xApd (new:=A0 [p.data.getD (((p.head+i)%32).toNat) 0]) ⟨rfl,rfl,by simp only [B7];omega⟩ fun a2 c2 h=>?_
  have H:=Et3 b p hp m (i+1) a2 c2 (by omega)
  refine (?_:Tr (pt b_1 _::pt b _::slC false B1 1 a2 (i+1) c2 (A0 (bytesN p i)++A0 [p.data.getD (((p.head+i)%32).toNat) 0])::_) _ _ _)
  rw [← Ip0,show bytesN p i++[p.data.getD (((p.head+i)%32).toNat) 0]=bytesN p (i+1) by unfold bytesN;rw [List.range_succ,List.map_append];rfl]
  refine Ac0 [1,1] 1 rfl rfl ?_
  exact Yr H fun v h q=>q
theorem Ef1 (p:PipeS):(N9 p).length=p.count.toNat:=by simp [N9]
theorem H06 (p:PipeS) (hp:okP p=true):Ct B6 Ak9 [.agg ⟨E4 p⟩] [] fun v own=>∃ a c,v=.slice a p.count.toNat c∧own [slC false B1 1 a p.count.toNat c (A0 (N9 p))]:=by
 refine Ct.of Dr7 rfl fun h r=>Tr.eq (Ha3 ..) ?_;refine Je ?_
 (refine Ja ?_;unhygienic intros)
 refine Yc (G44 p) ?_;rintro _ h ⟨rfl,o⟩<;>refine Jh o ?_
 rw [hp]
 (refine Ja ?_;unhygienic intros)
 refine H1 false B1 1 (by omega) ?_
 have H:=fun b=>Et3 b p hp p.count.toNat 0 none 0 (by have:=Al4 hp;omega)
 refine (?_:Tr (slC false B1 1 none 0 0 (A0 (bytesN p 0))::_) _ _ _)
 exact Yr (H _) fun v h q=>q
abbrev A80 (p:PipeS) (m:Nat):PipeS:=if 0<m then ⟨(p.head+m)%32,p.count-m,p.readers,p.writers,p.data,p.len⟩ else p
theorem Ic6 (p:PipeS) (hp:okP p=true) (n:Int) (hn:0≤n∧n≤32):Ct B6 Da5 [.agg ⟨E4 p⟩,int n] [] fun v own=>∃ a c,v=.tuple ⟨[.agg ⟨E4 (A80 p (min n.toNat p.count.toNat))⟩,.slice a (min n.toNat p.count.toNat) c]⟩∧own [slC false B1 1 a (min n.toNat p.count.toNat) c (A0 ((N9 p).take (min n.toNat p.count.toNat)))]:=by
 obtain ⟨r1,r2,r3,r4⟩:=Al4 hp
 refine Ct.of Hi1 rfl fun h r=>Tr.eq (He0 ..) ?_;refine Je ?_
 (refine Ja ?_;unhygienic intros)
 refine Yc (H06 p hp) ?_
 rintro _ h ⟨a,c,rfl,o⟩
 refine Jh o ?_
 refine Tr.dx ?_
 simp only [V6,Aa2]
 have e:min (max n 0) ((p.count.toNat:Nat):Int)=((min n.toNat p.count.toNat:Nat):Int):=by omega
 have hle:min n.toNat p.count.toNat≤p.count.toNat:=by omega
 rw [e]
 simp only [Int.toNat_natCast]
 generalize min n.toNat p.count.toNat=m at hle
 refine U4 0 rfl fun hl hc _=>?_
 (refine Ja ?_;unhygienic intros)
 refine H47 0 rfl m (A0 ((N9 p).take m)) hle (by rw [Nat.mul_one,Ii4]) ?_
 refine (?_:Tr (slC false B1 1 a m c (A0 ((N9 p).take m))::_::_::_) _ _ _)
 by_cases hm:0<m
 ·rw [show A80 p m=⟨(p.head+m)%32,p.count-m,p.readers,p.writers,p.data,p.len⟩ from if_pos hm]
  refine Yt (by simpa using hm) ?_
  (refine Ja ?_;unhygienic intros)
  rw [show Int.tmod (IntKind.wrap .i64 (p.head+m)) 32=(p.head+m)%32 by rw [show IntKind.wrap .i64 (p.head+m)=p.head+m by rw [B5];omega,Ho6 (show 0≤p.head+(m:Int) by omega)],show IntKind.wrap .i64 (p.count-m)=p.count-m by rw [B5];omega]
  refine (?_:Tr (_::_::pt _ (.cells D4 false (E4 ⟨(p.head+m)%32,p.count-m,p.readers,p.writers,p.data,p.len⟩))::_) _ _ _)
  generalize (⟨(p.head+m)%32,p.count-m,p.readers,p.writers,p.data,p.len⟩:PipeS)=q
  (refine Ja ?_;unhygienic intros)
  refine Yc (Hn1 a m c (A0 ((N9 p).take m))) ?_;rintro _ h ⟨rfl,o⟩<;>refine Jh o ?_
  (refine Ja ?_;unhygienic intros)
  refine Ys fun o=>?_
  exact ⟨Bz8 a,m,rfl,o.sub⟩
 ·rw [show A80 p m=p from if_neg hm]
  refine Yf (by simpa using hm) ?_
  (refine Ja ?_;unhygienic intros)
  refine Yc (Hn1 a m c (A0 ((N9 p).take m))) ?_;rintro _ h ⟨rfl,o⟩<;>refine Jh o ?_
  (refine Ja ?_;unhygienic intros)
  refine Ys fun o=>?_
  exact ⟨Bz8 a,m,rfl,o.sub⟩
theorem H05 (p:PipeS) {j:Nat} (h:j<32) (x:UInt8):Dg3 (E4 p) (4+j) (.int .u8 x.toNat)=some (E4 ⟨p.head,p.count,p.readers,p.writers,p.data.set j x,by rw [List.length_set];exact p.len⟩):=by
 have e:Nat.blt (4+j) (E4 p).length=true:=by rw [Ac5 p.len];exact Nat.ble_eq_true_of_le (by omega)
 unfold Dg3
 rw [e,show 4+j=j+4 by omega]
 show some ((E4 p).set (j+4) _)=_
 simp only [E4,List.set_cons_succ,A0,List.map_set]
abbrev Au7 (p:PipeS) (b:UInt8):PipeS:=⟨p.head,p.count+1,p.readers,p.writers,p.data.set (((p.head+p.count)%32).toNat) b,by rw [List.length_set];exact p.len⟩
def I5:PipeS→List UInt8→PipeS × Int
 | p,[]=>(p,0)
 | p,b::l=>if p.count=32 then (p,0) else ((I5 (Au7 p b) l).1,(I5 (Au7 p b) l).2+1)
theorem Gr7:∀ (l:List UInt8) (p:PipeS),0≤(I5 p l).2∧(I5 p l).2≤l.length
 | [],p=>by simp [I5]
 | b::l,p=>by
  have:=Gr7 l (Au7 p b)
  unfold I5;split<;>simp<;>omega
theorem E98 {p:PipeS} (h:okP p=true) (hc:p.count≠32) (b:UInt8):okP (Au7 p b)=true:=by
 have:=Al4 h
 simp only [okP,Bool.and_eq_true,decide_eq_true_eq] at h ⊢;omega
theorem Ge6 (b1 b2:Nat) (pb:HP) (a:Option Addr) (ro:Bool) (cc:Nat) (l:List UInt8) (hl:l.length≤1000) [ks:IsSl pb a ro B1 1 l.length cc (A0 l)] (z:PipeS):∀ (m i:Nat) (n:Int) (p:PipeS),okP p=true→i+m=l.length→0≤n→n≤i →
  CtJ H5 Ao9 Bt1 [(2,P0 b1),(4,P0 b2),(6,int n),(13,.slice a l.length cc),(14,int l.length),(15,int i)] [pt b1 (.cells D4 false (E4 p)),pt b2 (.cells D4 false (E4 z)),pb] fun v own =>
   v=.tuple ⟨[.agg ⟨E4 (I5 p (l.drop i)).1⟩,int (n+(I5 p (l.drop i)).2)]⟩∧own [pb]
 | 0,i,n,p,hp,hi,h0,hn=>by
  rw [List.drop_eq_nil_of_le (by omega),show I5 p []=(p,0) from rfl,Int.add_zero]
  refine CtJ.of Ed3 fun h r=>Tr.eq (Ej2 ..) ?_;refine Je ?_
  refine Yf (by simp;omega) ?_
  (refine Ja ?_;unhygienic intros)
  refine Ys fun o=>?_
  exact ⟨rfl,o.sub⟩
 | m+1,i,n,p,hp,hi,h0,hn=>by
  obtain ⟨r1,r2,r3,r4⟩:=Al4 hp
  have hil:i<l.length:=by omega
  have hg:=Ho3 hil
  have hd:l.drop i=l.getD i 0::l.drop (i+1):=by
   rw [List.drop_eq_getElem_cons hil,List.getD_eq_getElem?_getD,List.getElem?_eq_getElem hil];rfl
  rw [hd,I5]
  generalize l.getD i 0=x at hg
  have e1:IntKind.wrap .i64 ((i:Int)+1)=((i+1:Nat):Int):=by rw [B5];omega
  have e2:IntKind.wrap .i64 (n+1)=n+1:=by rw [B5];omega
  refine CtJ.of Ed3 fun h r=>Tr.eq (Ej2 ..) ?_;refine Je ?_
  refine Yt (by simp;omega) ?_
  rw [e1,e2]
  simp only [Int.toNat_natCast]
  (refine Ja ?_;unhygienic intros;repeat(refine Gw ?_;rintro px rfl;refine Ja ?_;unhygienic intros))
  by_cases hc:p.count=32
  ·rw [if_pos hc]
   refine Yt (by simpa using hc) ?_
   (refine Ja ?_;unhygienic intros)
   refine Ys fun o=>?_
   rw [Int.add_zero]
   exact ⟨rfl,o.sub⟩
  rw [if_neg hc]
  refine Yf (by simpa using hc) ?_
  have e3:Int.tmod (IntKind.wrap .i64 (p.head+p.count)) 32=(p.head+p.count)%32:=by
   rw [show IntKind.wrap .i64 (p.head+p.count)=p.head+p.count by rw [B5];omega,Ho6 (show 0≤p.head+p.count by omega)]
  have hs:=H05 p (j:=((p.head+p.count)%32).toNat) (by omega) x
  have H:=Ge6 b1 b2 pb (some px) ro cc l hl z m (i+1) (n+1) (Au7 p x) (E98 hp hc x) (by omega) (by omega) (by omega)
  (refine Ja ?_;unhygienic intros)
  rw [e3]
  (refine Ja ?_;unhygienic intros)
  dsimp only
  rw [show IntKind.wrap .i64 (p.count+1)=p.count+1 by rw [B5];omega]
  refine (?_:Tr (pt b1 (.cells D4 false (E4 (Au7 p x)))::pt b2 (.cells D4 false (E4 z))::pb::_) _ _ _)
  refine Yr H ?_
  intro v h q
  obtain ⟨rfl,o⟩:=q
  exact ⟨by rw [Int.add_right_comm,Int.add_assoc],o⟩
theorem Gl4 (p:PipeS) (hp:okP p=true) (pb:HP) (a:Option Addr) (ro:Bool) (cc:Nat) (l:List UInt8) (hl:l.length≤1000) [ks:IsSl pb a ro B1 1 l.length cc (A0 l)] :
  Ct B6 Ao9 [.agg ⟨E4 p⟩,.slice a l.length cc] [pb] fun v own=>v=.tuple ⟨[.agg ⟨E4 (I5 p l).1⟩,int (I5 p l).2]⟩∧own [pb]:=by
 refine Ct.of Ed3 rfl fun h r=>Tr.eq (Ho9 ..) ?_;refine Je ?_
 (refine Ja ?_;unhygienic intros)
 refine Yc (G44 p) ?_;rintro _ h ⟨rfl,o⟩<;>refine Jh o ?_
 rw [hp]
 (refine Ja ?_;unhygienic intros)
 have H:=fun b1 b2=>Ge6 b1 b2 pb a ro cc l hl .zero l.length 0 0 p hp (by omega) (by omega) (by omega)
 rw [List.drop_zero,Int.zero_add] at H
 refine (?_:Tr (pt _ (.cells D4 false (E4 .zero))::pt _ (.cells D4 false (E4 p))::pb::_) _ _ _)
 exact Yr (H _ _) fun v h q=>q
abbrev vT (X:CX):PipeS × Int:=Q8 (rd X ⟨4,0⟩)
theorem H80 {nc:Nat}:Rin nc ⟨4,0⟩:=⟨by simp,by simp,by simp,by simp [U6]⟩
theorem Gj9 {nc:Nat} {X:CX} (c:Clean nc X) {i:Int} (h:0≤i∧i<3+nc) {q:PipeS} (ok:okP q=true):vT (A11 X i q)=vT X:=by
 have hl:(I8 q).length=S5 (3:Int):=by rw [A17 q.len];rfl
 show Q8 (rd _ _)=_
 rw [Al0 c (Bi0 h) H80 hl,if_neg (by simp)]
theorem Bu0 (e:Int):Ct B6 Q1 [int e] [] fun v own=>v=.agg ⟨O0 0 e false⟩∧own []:=by
 refine Ct.of Hc7 rfl fun h r=>Tr.eq (G67 ..) ?_;refine Je ?_
 (refine Ja ?_;unhygienic intros)
 refine Ys fun o=>?_
 exact ⟨rfl,o.tail⟩
theorem E87 (f:FileS):Ct B6 Aw6 [.agg ⟨Ah5 f⟩] [] fun v own=>v=.agg ⟨if f.flags=1 then O0 0 111 false else O0 0 0 true⟩∧own []:=by
 refine Ct.of Gv7 rfl fun h r=>Tr.eq (Gw1 ..) ?_;refine Je ?_
 (refine Jb ?_;unhygienic intros)
 by_cases h1:f.flags=1
 ·rw [if_pos h1]
  refine Yt (by simpa using h1) ?_
  refine Yc (Bu0 111) ?_;rintro _ h ⟨rfl,o⟩<;>(refine Jf o ?_;unhygienic intros)
  refine Ys fun o=>?_
  exact ⟨rfl,o.sub⟩
 ·rw [if_neg h1]
  refine Yf (by simpa using h1) ?_
  (refine Ja ?_;unhygienic intros)
  refine Ys fun o=>?_
  exact ⟨rfl,o.sub⟩
abbrev Dk7 (b b1:Nat):Value:=.func (.func A64) ⟨[]⟩ ⟨[P0 b,P0 b1]⟩
theorem Go3 (c k b b1:Nat) (F:Fr) (X:CX) (ok:FrOk F) (f:FileS) (q:PipeS):Ct B6 A64 [.agg ⟨E4 q⟩,P0 b,P0 b1] [cmC c k F X,pt b (.cells P7 false [P0 c]),pt b1 (.cells D7 false (Ah5 f))] fun v own =>
  v=.bool (A81 X f.pipe q).1∧own [cmC c k F (A81 X f.pipe q).2,pt b (.cells P7 false [P0 c]),pt b1 (.cells D7 false (Ah5 f))]:=by
 refine Ct.of G74 rfl fun h r=>Tr.eq (Hb3 ..) ?_;refine Je ?_
 (refine Ja ?_;unhygienic intros)
 refine Yc (D24 c k F X ok f.pipe q) ?_;rintro _ h ⟨rfl,o⟩<;>(refine Jf o ?_;unhygienic intros)
 refine Ys fun o=>?_
 exact ⟨rfl,o.sub⟩
def Al6 (q:PipeS) (v:Value):List Value:=E4 q++[v]
theorem Do2 (q:PipeS) (v:Value):(Al6 q v).length=37:=by unfold Al6;rw [List.length_append,Ac5 q.len];rfl
theorem H88 (q:PipeS) (x:Fn) (y z:Array Value):(Al6 q (.func x y z)).all Value.oneCell=true:=by unfold Al6;rw [List.all_append,Gt2];rfl
instance {q:PipeS} {v:Value}:LenC (Al6 q v) 37:=⟨Do2 q v⟩
instance {q:PipeS} {v:Value}:PartC (Al6 q v) 0 37 (Al6 q v):=⟨Bx2 (Do2 q v)⟩
instance {q:PipeS} {v:Value}:PartC (Al6 q v) 0 36 (E4 q):=⟨by
 unfold B94
 rw [Nat.ble_eq_true_of_le (by rw [Do2];omega),List.drop_zero]
 unfold Al6
 rw [List.take_left' (Ac5 q.len)];rfl⟩
instance {q:PipeS} {x:Fn} {y z:Array Value} {cs:List Value} [k:LenC cs 37]:SetsC cs 0 (Al6 q (.func x y z)) (Al6 q (.func x y z)):=⟨Bj9 k.ok (Do2 q _) (H88 q x y z)⟩
theorem Hz8 (c k:Nat) (F:Fr) (X:CX) (ok:FrOk F) {nc:Nat} (cl:Clean nc X) (f:FileS) (h3:f.kind≠3) (hp:0≤f.pipe∧f.pipe<3+nc):Ct B6 B17 [P0 c,.agg ⟨Ah5 f⟩] [cmC c k F X] fun v own =>
  ∃ b b1,v=.tuple ⟨[.agg ⟨Al6 (vP X f.pipe).1 (Dk7 b b1)⟩,.bool ((vP X f.pipe).2==1)]⟩∧own [cmC c k F X,pt b (.cells P7 false [P0 c]),pt b1 (.cells D7 false (Ah5 f))]:=by
 refine Ct.of Hw7 rfl fun h r=>Tr.eq (Hv0 ..) ?_;refine Je ?_
 refine Yn fun b h=>?_
 refine Yn fun b1 h=>?_
 refine Yn fun b2 h=>?_
 (refine Ja ?_;unhygienic intros)
 refine Yf (by simpa using h3) ?_
 (refine Ja ?_;unhygienic intros)
 refine Yc (Ef3 c k F X ok f.pipe) ?_;rintro _ h ⟨rfl,o⟩<;>refine Jh o ?_
 rw [Da1 cl hp]
 dsimp only
 generalize (vP X f.pipe).1=q
 (refine Jc ?_;unhygienic intros)
 refine Yn fun b3 h=>?_
 (refine Jc ?_;unhygienic intros)
 refine Tr.ck (Do2 q _) ?_
 refine (?_:Tr _ _ (pAgg ⟨b2,0,none⟩ (Al6 q (Dk7 b b1)) _ _) _)
 (refine Ja ?_;unhygienic intros)
 refine Ys fun o=>?_
 exact ⟨b,b1,rfl,o.sub⟩
def V5 (V:VW) (i fd n:Int):FileS × Int :=
 if (ofW V i fd).2≠0 then ((ofW V i fd).1.2,(ofW V i fd).2)
 else if (ofW V i fd).1.2.kind=2 then ((ofW V i fd).1.2,109)
 else if n<0∨n>32 then ((ofW V i fd).1.2,122)
 else ((ofW V i fd).1.2,0)
theorem Im5 (c k:Nat) (F:Fr) (X:CX) (ok:FrOk F) (V:VW) (A:See X V) (i fd n:Int) (hi:0≤i∧i<8) (h3:(ofW V i fd).1.2.kind≠3):Ct B6 Da7 [P0 c,int i,int fd,int n] [cmC c k F X] fun v own=>v=.tuple ⟨[.agg ⟨Ah5 (V5 V i fd n).1⟩,int (V5 V i fd n).2]⟩∧own [cmC c k F X]:=by
 have eo:=A.ofv hi fd
 unfold V5
 refine Ct.of Hh4 rfl fun h r=>Tr.eq (Hg0 ..) ?_;refine Je ?_
 refine Yn fun b0 h=>?_
 refine Yc (If4 c k F X ok A.c i fd hi) ?_;rintro _ h ⟨rfl,o⟩<;>refine Jh o ?_
 rw [eo]
 (refine Jc ?_;unhygienic intros)
 refine Yn fun b1 h=>?_
 (refine Jb ?_;unhygienic intros)
 generalize (ofW V i fd).1.2=x at *
 generalize (ofW V i fd).2=e at *
 by_cases h1:e=0
 case neg =>
  rw [if_pos h1]
  refine Yt (by simpa using h1) ?_
  (refine Ja ?_;unhygienic intros)
  refine Ys fun o=>?_
  exact ⟨rfl,o.sub⟩
 have n1:¬ e≠0:=by simpa using h1
 rw [if_neg n1]
 refine Yf (by simpa using h1) ?_
 (refine Ja ?_;unhygienic intros)
 by_cases h2:x.kind=2
 ·rw [if_pos h2]
  refine Yt (by simpa using h2) ?_
  (refine Ja ?_;unhygienic intros)
  refine Ys fun o=>?_
  exact ⟨rfl,o.sub⟩
 rw [if_neg h2]
 refine Yf (by simpa using h2) ?_
 by_cases h4:n<0
 ·rw [if_pos (.inl h4)]
  refine Yb (Yt (by simpa using h4) ?_)
  refine Ys fun o=>(?_:Tr _ _ _ _) o;refine Je ?_
  refine Yt rfl ?_
  (refine Ja ?_;unhygienic intros)
  refine Ys fun o=>?_
  exact ⟨rfl,o.sub⟩
 refine Yb (Yf (by simpa using h4) ?_)
 refine Ys fun o=>(?_:Tr _ _ _ _) o;refine Je ?_
 by_cases h5:n>32
 ·rw [if_pos (.inr h5)]
  refine Yt (by simpa using h5) ?_
  (refine Ja ?_;unhygienic intros)
  refine Ys fun o=>?_
  exact ⟨rfl,o.sub⟩
 rw [if_neg (fun h=>h.elim h4 h5)]
 refine Yf (by simpa using h5) ?_
 (refine Ja ?_;unhygienic intros)
 refine Yf (by simpa using h3) ?_
 (refine Ja ?_;unhygienic intros)
 refine Ys fun o=>?_
 exact ⟨rfl,o.sub⟩
structure RdS where
 bs:List UInt8
 e:Int
 blk:Bool
def Az1 (V:VW) (i fd n:Int):RdS × VW :=
 if (V5 V i fd n).2≠0∨n=0 then (⟨[],(V5 V i fd n).2,false⟩,V)
 else if (V.P (V5 V i fd n).1.pipe).2≠1 then (⟨[],105,false⟩,V)
 else if (V.P (V5 V i fd n).1.pipe).1.count=0 then
  if (V5 V i fd n).1.kind=1∧(V.P (V5 V i fd n).1.pipe).1.writers=0 then (⟨[],0,false⟩,V)
  else if (V5 V i fd n).1.flags=1 then (⟨[],111,false⟩,V) else (⟨[],0,true⟩,V)
 else (⟨(N9 (V.P (V5 V i fd n).1.pipe).1).take (min n.toNat (V.P (V5 V i fd n).1.pipe).1.count.toNat),0,false⟩,
  wP V (V5 V i fd n).1.pipe (A80 (V.P (V5 V i fd n).1.pipe).1 (min n.toNat (V.P (V5 V i fd n).1.pipe).1.count.toNat)))
theorem Hd2 {p:PipeS} (h:okP p=true) {m:Nat} (hm:m≤p.count.toNat):okP (A80 p m)=true:=by
 have:=Al4 h
 unfold A80
 split
 ·simp only [okP,Bool.and_eq_true,decide_eq_true_eq];omega
 ·exact h
theorem Dr2 (c k:Nat) (F:Fr) (X:CX) (ok:FrOk F) (V:VW) (A:See X V) (i fd n:Int) (hi:0≤i∧i<8) (h3:(ofW V i fd).1.2.kind≠3) (hp:(V5 V i fd n).2=0→0≤(V5 V i fd n).1.pipe∧(V5 V i fd n).1.pipe<6) :
  Ct B6 Ak7 [P0 c,int i,int fd,int n] [cmC c k F X] fun v own=>∃ a cap X',See X' (Az1 V i fd n).2∧vT X'=vT X ∧
   v=.agg ⟨[int (Az1 V i fd n).1.bs.length,int (Az1 V i fd n).1.e,.slice a (Az1 V i fd n).1.bs.length cap,.bool (Az1 V i fd n).1.blk]⟩ ∧
   own [cmC c k F X',slC false B1 1 a (Az1 V i fd n).1.bs.length cap (A0 (Az1 V i fd n).1.bs)]:=by
 have nil:∀ {h:NN.H} {r:List HP},Own h (cmC c k F X::r)→Own h (cmC c k F X::slC false B1 1 none 0 0 (A0 [])::r):=fun o=>(o.slNil false B1 (by omega)).perm (List.Perm.swap _ _ _)
 have hk3:(V5 V i fd n).2=0→(V5 V i fd n).1.kind≠3:=by
  intro h;unfold V5 at h ⊢;repeat' split
  all_goals exact h3
 have hn:(V5 V i fd n).2=0→0≤n∧n≤32:=by
  intro h;unfold V5 at h
  split at h
  ·rename_i h1;exact absurd h h1
  ·split at h
   ·cases h
   ·split at h
    ·cases h
    ·omega
 unfold Az1
 refine Ct.of G75 rfl fun h r=>Tr.eq (Ha0 ..) ?_;refine Je ?_
 refine Yn fun b0 h=>?_
 refine Yc (Im5 c k F X ok V A i fd n hi h3) ?_;rintro _ h ⟨rfl,o⟩<;>refine Jh o ?_
 generalize (V5 V i fd n).1=x at *
 generalize (V5 V i fd n).2=e at *
 (refine Jc ?_;unhygienic intros)
 refine Yn fun b1 h=>?_
 (refine Jb ?_;unhygienic intros)
 by_cases h1:e≠0∨n=0
 ·rw [if_pos h1]
  have hg:∀ {h:NN.H} {r:List HP},Tr (pt b1 (.cells D7 false (Ah5 x))::cmC c k F X::pt b0 (.cells L9 false (O0 0 0 false))::r) h (bnd (B6 Q1 [int e] h) fun r_3 hv_5=>aAgg r_3 fun x_2=>ck (List.length x_2=4) (pAgg ⟨b0,0,none⟩ x_2 hv_5 fun hv_6=>gAgg ⟨b0,0,none⟩ 4 hv_6 fun x_3=>some (Value.agg ⟨x_3⟩,hv_6)))
   fun (v:Value) h'=>∃ a cap X',See X' V∧vT X'=vT X∧v=.agg ⟨[int 0,int e,.slice a 0 cap,.bool false]⟩∧Own h' (cmC c k F X'::slC false B1 1 a 0 cap (A0 [])::r):=by
   intro h r
   refine Yc (Bu0 e) ?_;rintro _ h ⟨rfl,o⟩<;>(refine Jf o ?_;unhygienic intros)
   refine Ys fun o=>?_
   exact ⟨none,0,X,A,rfl,rfl,nil o.sub⟩
  by_cases h2:e=0
  ·refine Yb (Yf (by simpa using h2) ?_)
   refine Ys fun o=>(?_:Tr _ _ _ _) o;refine Je ?_
   refine Yt (by simpa using h1.resolve_left (by simpa using h2)) ?_
   exact hg
  ·refine Yb (Yt (by simpa using h2) ?_)
   refine Ys fun o=>(?_:Tr _ _ _ _) o;refine Je ?_
   refine Yt rfl ?_
   exact hg
 rw [if_neg h1]
 have h2:e=0:=Classical.byContradiction fun h=>h1 (.inl h)
 have h0:n≠0:=fun h=>h1 (.inr h)
 have hpx:=hp h2
 have hnn:=hn h2
 have hkk:=hk3 h2
 subst h2
 refine Yb (Yf rfl ?_)
 refine Ys fun o=>(?_:Tr _ _ _ _) o;refine Je ?_
 refine Yf (by simpa using h0) ?_
 (refine Ja ?_;unhygienic intros)
 refine Yc (Hz8 c k F X ok A.c x hkk (by omega)) ?_
 rintro _ h ⟨b,b2,rfl,o⟩
 refine Jh o ?_
 have hvp:=A.p x.pipe hpx
 rw [hvp]
 have hq:(V.P x.pipe).2=1→okP (V.P x.pipe).1=true:=fun h=>by
  rcases Gz2 A.c (i:=x.pipe) (by omega) with ⟨h6,_⟩|⟨_,h6⟩
  ·rw [hvp,h] at h6;cases h6
  ·rw [hvp] at h6;exact h6
 generalize hqq:(V.P x.pipe).1=q at *
 generalize (V.P x.pipe).2=st at *
 (refine Jc ?_;unhygienic intros)
 refine Yn fun b3 h=>?_
 (refine Jb ?_;unhygienic intros)
 by_cases h5:st=1
 case neg =>
  rw [if_pos h5]
  refine Yt (by simpa using h5) ?_
  refine Yc (Bu0 105) ?_;rintro _ h ⟨rfl,o⟩<;>(refine Jf o ?_;unhygienic intros)
  refine Ys fun o=>?_
  exact ⟨none,0,X,A,rfl,rfl,nil o.sub⟩
 have n5:¬ st≠1:=by simpa using h5
 rw [if_neg n5]
 refine Yf (by simpa using h5) ?_
 replace hq:=hq h5
 obtain ⟨r1,r2,r3,r4⟩:=Al4 hq
 (refine Jb ?_;unhygienic intros)
 by_cases h6:q.count=0
 ·rw [if_pos h6]
  refine Yb (Yt (by simpa using h6) ?_)
  (refine Jb ?_;unhygienic intros)
  have hw:∀ {h:NN.H} {r:List HP},Tr (pt b3 (.cells By3 false (Al6 q (Dk7 b b2)))::cmC c k F X::pt b (.cells P7 false [P0 c])::pt b2 (.cells D7 false (Ah5 x))::pt b1 (.cells D7 false (Ah5 x))::pt b0 (.cells L9 false (O0 0 0 false))::r) h
    (gAgg ⟨b1,0,none⟩ 4 h fun x_14=>bnd (B6 Aw6 [.agg ⟨x_14⟩] h) fun r_8 hv_15=>aAgg r_8 fun x_15=>ck (List.length x_15=4) (pAgg ⟨b0,0,none⟩ x_15 hv_15 fun hv_16=>gAgg ⟨b0,0,none⟩ 4 hv_16 fun x_16=>some (Value.agg ⟨x_16⟩,hv_16)))
    fun (v:Value) h'=>∃ a cap X',See X' (if x.flags=1 then ((⟨[],111,false⟩:RdS),V) else (⟨[],0,true⟩,V)).2∧vT X'=vT X∧v=.agg ⟨[int (if x.flags=1 then ((⟨[],111,false⟩:RdS),V) else (⟨[],0,true⟩,V)).1.bs.length,int (if x.flags=1 then ((⟨[],111,false⟩:RdS),V) else (⟨[],0,true⟩,V)).1.e,.slice a (if x.flags=1 then ((⟨[],111,false⟩:RdS),V) else (⟨[],0,true⟩,V)).1.bs.length cap,.bool (if x.flags=1 then ((⟨[],111,false⟩:RdS),V) else (⟨[],0,true⟩,V)).1.blk]⟩∧Own h' (cmC c k F X'::slC false B1 1 a (if x.flags=1 then ((⟨[],111,false⟩:RdS),V) else (⟨[],0,true⟩,V)).1.bs.length cap (A0 (if x.flags=1 then ((⟨[],111,false⟩:RdS),V) else (⟨[],0,true⟩,V)).1.bs)::r):=by
   intro h r
   (refine Ja ?_;unhygienic intros)
   refine Yc (E87 x) ?_;rintro _ h ⟨rfl,o⟩<;>refine Jh o ?_
   by_cases h7:x.flags=1
   ·rw [if_pos h7]
    (refine Ja ?_;unhygienic intros)
    refine Ys fun o=>?_
    rw [if_pos h7]
    exact ⟨none,0,X,A,rfl,rfl,nil o.sub⟩
   ·rw [if_neg h7]
    (refine Ja ?_;unhygienic intros)
    refine Ys fun o=>?_
    rw [if_neg h7]
    exact ⟨none,0,X,A,rfl,rfl,nil o.sub⟩
  by_cases h8:x.kind=1
  ·by_cases h9:q.writers=0
   ·rw [if_pos ⟨h8,h9⟩]
    refine Ys fun o=>(?_:Tr _ _ _ _) o;refine Je ?_
    refine Yb (Yt (by simpa using h8) ?_)
    (refine Jb ?_;unhygienic intros)
    refine Ys fun o=>(?_:Tr _ _ _ _) o;refine Je ?_
    refine Yt (by simpa using h9) ?_
    (refine Ja ?_;unhygienic intros)
    refine Ys fun o=>?_
    exact ⟨none,0,X,A,rfl,rfl,nil o.sub⟩
   ·rw [if_neg (fun h=>h9 h.2)]
    refine Ys fun o=>(?_:Tr _ _ _ _) o;refine Je ?_
    refine Yb (Yt (by simpa using h8) ?_)
    (refine Jb ?_;unhygienic intros)
    refine Ys fun o=>(?_:Tr _ _ _ _) o;refine Je ?_
    refine Yf (by simpa using h9) ?_
    (refine Jb ?_;unhygienic intros)
    refine Yt (by simpa using h6) ?_
    exact hw
  ·rw [if_neg (fun h=>h8 h.1)]
   refine Ys fun o=>(?_:Tr _ _ _ _) o;refine Je ?_
   refine Yb (Yf (by simpa using h8) ?_)
   refine Ys fun o=>(?_:Tr _ _ _ _) o;refine Je ?_
   refine Yf rfl ?_
   (refine Jb ?_;unhygienic intros)
   refine Yt (by simpa using h6) ?_
   exact hw
 rw [if_neg h6]
 refine Yb (Yf (by simpa using h6) ?_)
 refine Ys fun o=>(?_:Tr _ _ _ _) o;refine Je ?_
 refine Yb (Yf rfl ?_)
 refine Ys fun o=>(?_:Tr _ _ _ _) o;refine Je ?_
 refine Yf rfl ?_
 (refine Jb ?_;unhygienic intros)
 refine Yf (by simpa using h6) ?_
 (refine Ja ?_;unhygienic intros)
 refine Yc (Ic6 q hq n hnn) ?_
 rintro _ h ⟨a,cap,rfl,o⟩
 refine Jh o ?_
 have hm:min n.toNat q.count.toNat≤q.count.toNat:=by omega
 have hlen:((N9 q).take (min n.toNat q.count.toNat)).length=min n.toNat q.count.toNat:=by
  rw [List.length_take,Ef1];omega
 rw [hlen]
 have hok:=Hd2 hq hm
 generalize min n.toNat q.count.toNat=m at *
 obtain ⟨w1,_⟩:=As0 A.c (i:=x.pipe) (by omega) hok
 have hwp:=A.wp hpx hok
 have hvt:=Gj9 A.c (i:=x.pipe) (by omega) hok
 generalize A80 q m=q2 at *
 have hfv:(Al6 q (Dk7 b b2))[36]?=some (Dk7 b b2):=by
  unfold Al6;rw [List.getElem?_append_right (by rw [Ac5 q.len];exact Nat.le_refl _),Ac5 q.len];rfl
 (refine Jc ?_;unhygienic intros)
 refine Yn fun b4 h=>?_
 (refine Ja ?_;unhygienic intros)
 simp only [List.nil_append]
 refine Yc (Go3 c k b b2 F X ok x q2) ?_;rintro _ h ⟨rfl,o⟩<;>refine Jh o ?_
 rw [w1]
 dsimp only
 (refine Ja ?_;unhygienic intros)
 refine Ys fun o=>?_
 exact ⟨a,cap,A11 X x.pipe q2,hwp,hvt,rfl,o.sub⟩
structure WrS where
 n:Int
 e:Int
 blk:Bool
def Br9 (V:VW) (i fd:Int) (l:List UInt8):WrS × VW :=
 if (ofW V i fd).2≠0 then (⟨0,(ofW V i fd).2,false⟩,V)
 else if (ofW V i fd).1.2.kind≠2 then (⟨0,109,false⟩,V)
 else if l.length>32 then (⟨0,122,false⟩,V)
 else if l.length=0 then (⟨0,0,false⟩,V)
 else if (V.P (ofW V i fd).1.2.pipe).2≠1 then (⟨0,105,false⟩,V)
 else if 32-(V.P (ofW V i fd).1.2.pipe).1.count=0∨l.length≤8∧32-(V.P (ofW V i fd).1.2.pipe).1.count<l.length then
  if (ofW V i fd).1.2.flags=1 then (⟨0,111,false⟩,V) else (⟨0,0,true⟩,V)
 else (⟨(I5 (V.P (ofW V i fd).1.2.pipe).1 l).2,0,false⟩,wP V (ofW V i fd).1.2.pipe (I5 (V.P (ofW V i fd).1.2.pipe).1 l).1)
theorem Dp7:∀ (l:List UInt8) (p:PipeS),okP p=true→okP (I5 p l).1=true
 | [],p,h=>h
 | b::l,p,h=>by
  unfold I5
  split
  ·exact h
  ·rename_i hc;exact Dp7 l _ (E98 h hc b)
abbrev wrL (w:WrS):List Value:=O0 w.n w.e w.blk
theorem Ep3 (c k:Nat) (F:Fr) (X:CX) (ok:FrOk F) (V:VW) (A:See X V) (i fd:Int) (hi:0≤i∧i<8) (hp:(ofW V i fd).2=0→(ofW V i fd).1.2.kind=2→0≤(ofW V i fd).1.2.pipe∧(ofW V i fd).1.2.pipe<6∧(V.P (ofW V i fd).1.2.pipe).1.readers≠0)
  (pb:HP) (a:Option Addr) (ro:Bool) (cc:Nat) (l:List UInt8) (hl:l.length≤B7) [ks:IsSl pb a ro B1 1 l.length cc (A0 l)] :
  Ct B6 Aw5 [P0 c,int i,int fd,.slice a l.length cc] [cmC c k F X,pb] fun v own=>∃ X',See X' (Br9 V i fd l).2∧vT X'=vT X∧v=.agg ⟨wrL (Br9 V i fd l).1⟩∧own [cmC c k F X',pb]:=by
 have eo:=A.ofv hi fd
 unfold Br9
 refine Ct.of Gx1 rfl fun h r=>Tr.eq (Gx8 ..) ?_;refine Je ?_
 refine Yn fun b0 h=>?_
 refine Yc (If4 c k F X ok A.c i fd hi) ?_;rintro _ h ⟨rfl,o⟩<;>refine Jh o ?_
 rw [eo]
 (refine Jc ?_;unhygienic intros)
 refine Yn fun b1 h=>?_
 (refine Jb ?_;unhygienic intros)
 generalize (ofW V i fd).1.2=x at *
 generalize (ofW V i fd).2=e at *
 by_cases h1:e=0
 case neg =>
  rw [if_pos h1]
  refine Yt (by simpa using h1) ?_
  refine Yc (Bu0 e) ?_;rintro _ h ⟨rfl,o⟩<;>(refine Jf o ?_;unhygienic intros)
  refine Ys fun o=>?_
  exact ⟨X,A,rfl,rfl,o.sub⟩
 have n1:¬ e≠0:=by simpa using h1
 rw [if_neg n1]
 refine Yf (by simpa using h1) ?_
 (refine Jb ?_;unhygienic intros)
 by_cases h2:x.kind=2
 case neg =>
  rw [if_pos h2]
  refine Yt (by simpa using h2) ?_
  refine Yc (Bu0 109) ?_;rintro _ h ⟨rfl,o⟩<;>(refine Jf o ?_;unhygienic intros)
  refine Ys fun o=>?_
  exact ⟨X,A,rfl,rfl,o.sub⟩
 have n2:¬ x.kind≠2:=by simpa using h2
 rw [if_neg n2]
 refine Yf (by simpa using h2) ?_
 obtain ⟨hp0,hp6,hrd⟩:=hp h1 h2
 by_cases h3:l.length>32
 ·rw [if_pos h3]
  refine Yt (by rw [decide_eq_true_iff];omega) ?_
  refine Yc (Bu0 122) ?_;rintro _ h ⟨rfl,o⟩<;>(refine Jf o ?_;unhygienic intros)
  refine Ys fun o=>?_
  exact ⟨X,A,rfl,rfl,o.sub⟩
 rw [if_neg h3]
 refine Yf (by rw [decide_eq_false_iff_not];omega) ?_
 by_cases h4:l.length=0
 ·rw [if_pos h4]
  refine Yt (by rw [beq_iff_eq];omega) ?_
  (refine Ja ?_;unhygienic intros)
  refine Ys fun o=>?_
  exact ⟨X,A,rfl,rfl,o.sub⟩
 rw [if_neg h4]
 refine Yf (by rw [beq_eq_false_iff_ne];omega) ?_
 (refine Ja ?_;unhygienic intros)
 refine Yc (Hz8 c k F X ok A.c x (by omega) (by omega)) ?_
 rintro _ h ⟨b,b2,rfl,o⟩
 refine Jh o ?_
 have hvp:=A.p x.pipe ⟨hp0,hp6⟩
 rw [hvp]
 have hq:(V.P x.pipe).2=1→okP (V.P x.pipe).1=true:=fun h=>by
  rcases Gz2 A.c (i:=x.pipe) (by omega) with ⟨h6,_⟩|⟨_,h6⟩
  ·rw [hvp,h] at h6;cases h6
  ·rw [hvp] at h6;exact h6
 generalize hqq:(V.P x.pipe).1=q at *
 generalize (V.P x.pipe).2=st at *
 (refine Jc ?_;unhygienic intros)
 refine Yn fun b3 h=>?_
 (refine Jb ?_;unhygienic intros)
 by_cases h5:st=1
 case neg =>
  rw [if_pos h5]
  refine Yt (by simpa using h5) ?_
  refine Yc (Bu0 105) ?_;rintro _ h ⟨rfl,o⟩<;>(refine Jf o ?_;unhygienic intros)
  refine Ys fun o=>?_
  exact ⟨X,A,rfl,rfl,o.sub⟩
 have n5:¬ st≠1:=by simpa using h5
 rw [if_neg n5]
 refine Yf (by simpa using h5) ?_
 replace hq:=hq h5
 obtain ⟨r1,r2,r3,r4⟩:=Al4 hq
 have e1:IntKind.wrap .i64 (32-q.count)=32-q.count:=by rw [B5];omega
 (refine Jb ?_;unhygienic intros)
 refine Yf (by simpa using hrd) ?_
 (refine Jb ?_;unhygienic intros)
 rw [e1]
 by_cases a1:32-q.count=0
 ·rw [if_pos (.inl a1)]
  refine Yb (Yt (by rw [beq_iff_eq];exact a1) ?_)
  refine Ys fun o=>(?_:Tr _ _ _ _) o;refine Je ?_
  refine Yt rfl ?_
  (refine Ja ?_;unhygienic intros)
  refine Yc (E87 x) ?_;rintro _ h ⟨rfl,o⟩<;>refine Jh o ?_
  by_cases h7:x.flags=1
  ·rw [if_pos h7,if_pos h7]
   (refine Ja ?_;unhygienic intros)
   refine Ys fun o=>?_
   exact ⟨X,A,rfl,rfl,o.sub⟩
  ·rw [if_neg h7,if_neg h7]
   (refine Ja ?_;unhygienic intros)
   refine Ys fun o=>?_
   exact ⟨X,A,rfl,rfl,o.sub⟩
 refine Yb (Yf (by rw [beq_eq_false_iff_ne];exact a1) ?_)
 by_cases a2:l.length≤8
 ·by_cases a3:32-q.count<l.length
  ·rw [if_pos (.inr ⟨a2,a3⟩)]
   refine Yb (Yt (by rw [decide_eq_true_iff];omega) ?_)
   refine Ys fun o=>(?_:Tr _ _ _ _) o;refine Je ?_
   refine Ys fun o=>(?_:Tr _ _ _ _) o;refine Je ?_
   refine Yt (by rw [decide_eq_true_iff];exact a3) ?_
   (refine Ja ?_;unhygienic intros)
   refine Yc (E87 x) ?_;rintro _ h ⟨rfl,o⟩<;>refine Jh o ?_
   by_cases h7:x.flags=1
   ·rw [if_pos h7,if_pos h7]
    (refine Ja ?_;unhygienic intros)
    refine Ys fun o=>?_
    exact ⟨X,A,rfl,rfl,o.sub⟩
   ·rw [if_neg h7,if_neg h7]
    (refine Ja ?_;unhygienic intros)
    refine Ys fun o=>?_
    exact ⟨X,A,rfl,rfl,o.sub⟩
  ·rw [if_neg (fun h=>h.elim a1 fun h=>a3 h.2)]
   refine Yb (Yt (by rw [decide_eq_true_iff];omega) ?_)
   refine Ys fun o=>(?_:Tr _ _ _ _) o;refine Je ?_
   refine Ys fun o=>(?_:Tr _ _ _ _) o;refine Je ?_
   refine Yf (by rw [decide_eq_false_iff_not];exact a3) ?_
   (refine Ja ?_;unhygienic intros)
   refine Yc (Gl4 q hq pb a ro cc l (by omega)) ?_;rintro _ h ⟨rfl,o⟩<;>refine Jh o ?_
   have hok:=Dp7 l q hq
   obtain ⟨w1,_⟩:=As0 A.c (i:=x.pipe) (by omega) hok
   have hwp:=A.wp ⟨hp0,hp6⟩ hok
   have hvt:=Gj9 A.c (i:=x.pipe) (by omega) hok
   generalize (I5 q l).1=q2 at *
   have hfv:(Al6 q (Dk7 b b2))[36]?=some (Dk7 b b2):=by
    unfold Al6;rw [List.getElem?_append_right (by rw [Ac5 q.len];exact Nat.le_refl _),Ac5 q.len];rfl
   (refine Jc ?_;unhygienic intros)
   refine Yn fun b4 h=>?_
   (refine Ja ?_;unhygienic intros)
   simp only [List.nil_append]
   refine Yc (Go3 c k b b2 F X ok x q2) ?_;rintro _ h ⟨rfl,o⟩<;>refine Jh o ?_
   rw [w1]
   dsimp only
   (refine Ja ?_;unhygienic intros)
   refine Ys fun o=>?_
   exact ⟨A11 X x.pipe q2,hwp,hvt,rfl,o.sub⟩
 ·rw [if_neg (fun h=>h.elim a1 fun h=>a2 h.1)]
  refine Yb (Yf (by rw [decide_eq_false_iff_not];omega) ?_)
  refine Ys fun o=>(?_:Tr _ _ _ _) o;refine Je ?_
  refine Ys fun o=>(?_:Tr _ _ _ _) o;refine Je ?_
  refine Yf rfl ?_
  (refine Ja ?_;unhygienic intros)
  refine Yc (Gl4 q hq pb a ro cc l (by omega)) ?_;rintro _ h ⟨rfl,o⟩<;>refine Jh o ?_
  have hok:=Dp7 l q hq
  obtain ⟨w1,_⟩:=As0 A.c (i:=x.pipe) (by omega) hok
  have hwp:=A.wp ⟨hp0,hp6⟩ hok
  have hvt:=Gj9 A.c (i:=x.pipe) (by omega) hok
  generalize (I5 q l).1=q2 at *
  have hfv:(Al6 q (Dk7 b b2))[36]?=some (Dk7 b b2):=by
   unfold Al6;rw [List.getElem?_append_right (by rw [Ac5 q.len];exact Nat.le_refl _),Ac5 q.len];rfl
  (refine Jc ?_;unhygienic intros)
  refine Yn fun b4 h=>?_
  (refine Ja ?_;unhygienic intros)
  simp only [List.nil_append]
  refine Yc (Go3 c k b b2 F X ok x q2) ?_;rintro _ h ⟨rfl,o⟩<;>refine Jh o ?_
  rw [w1]
  dsimp only
  (refine Ja ?_;unhygienic intros)
  refine Ys fun o=>?_
  exact ⟨A11 X x.pipe q2,hwp,hvt,rfl,o.sub⟩
theorem Gr4 (l:List UInt8) (j n:Nat) (x:UInt8) (h:j<l.length):(l.set j x).getD n 0=if n=j then x else l.getD n 0:=by
 rw [List.getD_eq_getElem?_getD,List.getD_eq_getElem?_getD,List.getElem?_set]
 by_cases hj:j=n
 ·subst hj;simp [h]
 ·rw [if_neg hj,if_neg (fun e=>hj e.symm)]
theorem Hw2 {p:PipeS} (hp:okP p=true) (hc:p.count≠32) (b:UInt8):N9 (Au7 p b)=N9 p++[b]:=by
 obtain ⟨r1,r2,r3,r4⟩:=Al4 hp
 have hl:=p.len
 have hj:((p.head+p.count)%32).toNat<p.data.length:=by rw [hl];omega
 have e:(Au7 p b).count.toNat=p.count.toNat+1:=by show (p.count+1).toNat=_;omega
 unfold N9
 rw [e]
 unfold bytesN
 rw [List.range_succ,List.map_append]
 congr 1
 ·refine List.map_congr_left fun j hj2=>?_
  have:=List.mem_range.1 hj2
  show (p.data.set _ b).getD (((p.head+j)%32).toNat) 0=_
  rw [Gr4 _ _ _ _ hj,if_neg (by omega)]
 ·show [(p.data.set _ b).getD (((p.head+(p.count.toNat:Nat))%32).toNat) 0]=[b]
  rw [Gr4 _ _ _ _ hj,if_pos (by rw [show ((p.count.toNat:Nat):Int)=p.count by omega])]
theorem Gq4:∀ (l:List UInt8) (p:PipeS),okP p=true→(I5 p l).2=min (l.length:Int) (32-p.count)∧(I5 p l).1.count=p.count+(I5 p l).2∧N9 (I5 p l).1=N9 p++l.take (I5 p l).2.toNat∧(I5 p l).1.readers=p.readers∧(I5 p l).1.writers=p.writers
 | [],p,h=>by
  have:=Al4 h
  refine ⟨by show (0:Int)=min ((([]:List UInt8).length:Nat):Int) (32-p.count);rw [List.length_nil];omega,by simp [I5],by simp [I5],rfl,rfl⟩
 | b::l,p,h=>by
  have hr:=Al4 h
  unfold I5
  by_cases hc:p.count=32
  ·rw [if_pos hc]
   refine ⟨by simp;omega,by simp,by simp,rfl,rfl⟩
  ·rw [if_neg hc]
   obtain ⟨h1,h2,h3,h4,h5⟩:=Gq4 l (Au7 p b) (E98 h hc b)
   have hn:=Gr7 l (Au7 p b)
   have hk:(Au7 p b).count=p.count+1:=rfl
   refine ⟨?_,?_,?_,h4,h5⟩
   ·show (I5 (Au7 p b) l).2+1=_
    rw [h1,hk,List.length_cons];omega
   ·show (I5 (Au7 p b) l).1.count=p.count+((I5 (Au7 p b) l).2+1)
    rw [h2,hk];omega
   ·show N9 (I5 (Au7 p b) l).1=N9 p++(b::l).take ((I5 (Au7 p b) l).2+1).toNat
    rw [h3,Hw2 h hc,show ((I5 (Au7 p b) l).2+1).toNat=(I5 (Au7 p b) l).2.toNat+1 by omega,List.take_succ_cons]
    simp
theorem Hv7 {p:PipeS} (hp:okP p=true) {m:Nat} (hm:m≤p.count.toNat):N9 (A80 p m)=(N9 p).drop m∧(A80 p m).count=p.count-m∧(A80 p m).readers=p.readers∧(A80 p m).writers=p.writers:=by
 obtain ⟨r1,r2,r3,r4⟩:=Al4 hp
 by_cases h0:0<m
 case neg =>
  obtain rfl:m=0:=by omega
  rw [show A80 p 0=p from if_neg h0]
  exact ⟨by simp,by simp,rfl,rfl⟩
 rw [show A80 p m=⟨(p.head+m)%32,p.count-m,p.readers,p.writers,p.data,p.len⟩ from if_pos h0]
 refine ⟨?_,rfl,rfl,rfl⟩
 unfold N9 bytesN
 dsimp only
 rw [← List.map_drop,List.range_eq_range' ,List.range_eq_range',List.drop_range',Nat.mul_one,Nat.zero_add]
 rw [show (p.count-(m:Int)).toNat=p.count.toNat-m by omega]
 rw [show List.range' m (p.count.toNat-m)=(List.range' 0 (p.count.toNat-m)).map fun j=>m+j by rw [List.map_add_range'];rfl]
 rw [List.map_map]
 refine List.map_congr_left fun j hj=>?_
 show p.data.getD ((((p.head+m)%32+j)%32).toNat) 0=p.data.getD (((p.head+((m+j:Nat):Int))%32).toNat) 0
 congr 1
 omega
theorem He7 (c k:Nat) (F:Fr) (X:CX) (ok:FrOk F) (p:PipeS):Ct B6 P1 [P0 c,.agg ⟨E4 p⟩] [cmC c k F X] fun v own=>v=.bool (B57 X p).1∧own [cmC c k F (B57 X p).2]:=by
 refine Ct.of Dl2 rfl fun h r=>Tr.eq (Dk1 ..) ?_;refine Je ?_
 (refine Ja ?_;unhygienic intros)
 refine Yc (Ef7 p) ?_
 rintro v h (⟨hk,a,rfl,o⟩|⟨hk,rfl,o⟩)
 ·refine (?_:Tr _ _ _ _) o
  refine Je ?_
  (refine Ja ?_;unhygienic intros)
  have J:=Bi1 c k F X ⟨4,0⟩ ok (I8 p) true a 40 (fun _=>A17 p.len)
  rw [A17 p.len] at J
  refine Yc (J) ?_;rintro _ h ⟨rfl,o⟩<;>(refine Jf o ?_;unhygienic intros)
  refine Ys fun o=>?_
  unfold B57;rw [hk]
  exact ⟨rfl,o.sub⟩
 ·refine (?_:Tr _ _ _ _) o
  refine Je ?_
  (refine Ja ?_;unhygienic intros)
  refine Yc (Dh8 c k F X ⟨4,0⟩ ok) ?_;rintro _ h ⟨rfl,o⟩<;>(refine Jf o ?_;unhygienic intros)
  refine Ys fun o=>?_
  unfold B57;rw [hk,Dt7]
  exact ⟨rfl,o.sub⟩
theorem Iq9 {nc:Nat} {X:CX} (c:Clean nc X):((vT X).2=0∧(vT X).1=.zero)∨((vT X).2=1∧okP (vT X).1=true):=by
 have:=c.ok ⟨4,0⟩ (by simp) (by simp) (by simp) (by simp [U6])
 have hk:(vT X).2≠2:=this
 unfold vT Q8 at hk ⊢
 split
 ·exact .inl ⟨rfl,rfl⟩
 ·split
  ·rename_i h2
   unfold isP at h2
   simp only [Bool.and_eq_true] at h2
   exact .inr ⟨rfl,h2.1⟩
  ·rename_i h1 h2;simp [h1,h2] at hk
theorem Hi7 {nc:Nat} {X:CX} (c:Clean nc X):Ea3 X=(vT X,X):=Bx3 Q8 .zero c H80 rfl
abbrev Io6 (X:CX) (p:PipeS):CX:=Bv5 X ⟨4,0⟩ (I8 p)
theorem Gl5 {nc:Nat} {X:CX} (c:Clean nc X) {p:PipeS} (ok:okP p=true):B57 X p=(true,Io6 X p):=by
 unfold B57;rw [ok];exact Bw8 c H80 _
theorem H74 (c k:Nat) (F:Fr) (X:CX) (ok:FrOk F) {nc:Nat} (cl:Clean nc X) (ht:(vT X).2=1) (pb:HP) (a:Option Addr) (ro:Bool) (cc:Nat) (l:List UInt8) (hl:l.length≤1000) [ks:IsSl pb a ro B1 1 l.length cc (A0 l)] :
  Ct B6 B34 [P0 c,.slice a l.length cc] [cmC c k F X,pb] fun v own=>v=int (I5 (vT X).1 l).2∧own [cmC c k F (Io6 X (I5 (vT X).1 l).1),pb]:=by
 have hq:okP (vT X).1=true:=by
  rcases Iq9 cl with ⟨h,_⟩|⟨_,h⟩
  ·rw [ht] at h;cases h
  ·exact h
 have hw:=Gl5 cl (Dp7 l _ hq)
 refine Ct.of Gz8 rfl fun h r=>Tr.eq (G27 ..) ?_;refine Je ?_
 refine Yc (Gn0 c k F X ok) ?_;rintro _ h ⟨rfl,o⟩<;>refine Jh o ?_
 rw [Ef9 cl]
 (refine Ja ?_;unhygienic intros)
 refine Yc (G23 c k F X ok) ?_;rintro _ h ⟨rfl,o⟩<;>refine Jh o ?_
 rw [Hi7 cl]
 dsimp only
 rw [ht]
 generalize (vT X).1=q at *
 (refine Jc ?_;unhygienic intros)
 refine Yn fun b1 h=>?_
 (refine Jb ?_;unhygienic intros)
 refine Yf rfl ?_
 (refine Jb ?_;unhygienic intros)
 refine Yc (Gl4 q hq pb a ro cc l hl) ?_;rintro _ h ⟨rfl,o⟩<;>refine Jh o ?_
 generalize (I5 q l).1=q2 at *
 (refine Jc ?_;unhygienic intros)
 refine Yn fun b2 h=>?_
 (refine Jb ?_;unhygienic intros)
 refine Yc (He7 c k F X ok q2) ?_;rintro _ h ⟨rfl,o⟩<;>refine Jh o ?_
 rw [hw]
 dsimp only
 (refine Jb ?_;unhygienic intros)
 refine Ys fun o=>?_
 exact ⟨rfl,o.sub⟩
theorem of2:ofW VD 0 2=((2,⟨2,0,1,0⟩),0):=by kernel_rfl
theorem vTD:(vT XD).2=1∧(vT XD).1.count=0:=⟨by kernel_rfl,by kernel_rfl⟩
def VA1:VW:=(Br9 VD 0 2 [7,8,9]).2
def VA2:VW:=(Az1 VA1 0 1 8).2
theorem aw1:(Br9 VD 0 2 [7,8,9]).1=⟨3,0,false⟩:=by kernel_rfl
theorem aw2:(Az1 VA1 0 1 8).1=⟨[7,8,9],0,false⟩:=by kernel_rfl
theorem aw3:(Az1 VA2 0 1 8).1=⟨[],0,true⟩:=by kernel_rfl
theorem Gd1:Ct B6 Bb5 [] [] fun v own=>v=.bool true∧own []:=by
 refine Ct.of Gy2 rfl fun h r=>Tr.eq (Gw8 ..) ?_;refine Je ?_
 refine Yc (Gz3) ?_;rintro _ h ⟨a,rfl,o⟩<;>refine Jh o ?_
 (refine Ja ?_;unhygienic intros)
 refine Yc (Hm9 a) ?_
 rintro _ h ⟨k,c,w,m,K',rfl,o⟩
 refine Jh o ?_
 (refine Ja ?_;unhygienic intros)
 refine Yc (G98 c k F1 X1 A31 E85 0 (by omega)) ?_;rintro _ h ⟨rfl,o⟩<;>refine Jh o ?_
 rw [H02,show (A65 X1 0).2=XD from rfl]
 (refine Jc ?_;unhygienic intros)
 refine Yn fun b0 h=>?_
 refine Aa1 0 rfl 1 3 rfl (by omega) ?_
 have J:=Ep3 c k F1 XD A31 VD Ib6 0 2 (by omega) (fun _ _=>by rw [of2];exact ⟨by decide,by decide,by rw [show (VD.P (⟨2,0,1,0⟩:FileS).pipe).1.readers=1 by kernel_rfl];decide⟩) (slC false B1 1 (some ⟨b0,0,none⟩) 3 3 (A0 [7,8,9])) (some ⟨b0,0,none⟩) false 3 [7,8,9] (by simp [B7])
 rw [aw1] at J
 refine (?_:Tr (slC false B1 1 (some ⟨b0,0,none⟩) 3 3 (A0 [7,8,9])::cmC c k F1 XD::_) _ _ _)
 refine Yc J ?_
 rintro _ h ⟨XA,s1,t1,rfl,o⟩
 refine Jh o ?_
 (refine Jc ?_;unhygienic intros)
 refine Yn fun b1 h=>?_
 (refine Ja ?_;unhygienic intros)
 have o1:(ofW VA1 0 1)=((1,⟨1,0,1,0⟩),0):=by kernel_rfl
 have m1:V5 VA1 0 1 8=(⟨1,0,1,0⟩,0):=by kernel_rfl
 have J:=Dr2 c k F1 XA A31 VA1 s1 0 1 8 (by omega) (by rw [o1];decide) (fun _=>by rw [m1];exact ⟨by decide,by decide⟩)
 rw [aw2] at J
 refine Yc J ?_
 rintro _ h ⟨a2,cap,XB,s2,t2,rfl,o⟩
 refine Jh o ?_
 (refine Jc ?_;unhygienic intros)
 refine Yn fun b2 h=>?_
 (refine Ja ?_;unhygienic intros)
 have o1:(ofW VA2 0 1)=((1,⟨1,0,1,0⟩),0):=by kernel_rfl
 have m1:V5 VA2 0 1 8=(⟨1,0,1,0⟩,0):=by kernel_rfl
 have J:=Dr2 c k F1 XB A31 VA2 s2 0 1 8 (by omega) (by rw [o1];decide) (fun _=>by rw [m1];exact ⟨by decide,by decide⟩)
 rw [aw3] at J
 refine Yc J ?_
 rintro _ h ⟨a3,cap3,XC,s3,t3,rfl,o⟩
 refine Jh o ?_
 (refine Jc ?_;unhygienic intros)
 refine Yn fun b3 h=>?_
 (refine Jb ?_;unhygienic intros)
 refine Yb (Yt rfl ?_)
 (refine Jb ?_;unhygienic intros)
 refine Ys fun o=>(?_:Tr _ _ _ _) o;refine Je ?_
 refine Yb (Yt rfl ?_)
 (refine Jb ?_;unhygienic intros)
 refine Ys fun o=>(?_:Tr _ _ _ _) o;refine Je ?_
 refine Yb (Yt (by simp) ?_)
 (refine Jb ?_;unhygienic intros)
 refine Ys fun o=>(?_:Tr _ _ _ _) o;refine Je ?_
 refine Yb (Yt rfl ?_)
 refine Yn fun b4 h=>?_
 refine Aa1 0 rfl 1 1 rfl (by omega) ?_
 have ht:vT XC=vT XD:=t3.trans (t2.trans t1)
 have J:=H74 c k F1 XC A31 s3.c (by rw [ht];exact vTD.1) (slC false B1 1 (some ⟨b4,0,none⟩) 1 1 (A0 [1])) (some ⟨b4,0,none⟩) false 1 [1] (by simp)
 have hT:(I5 (vT XD).1 [1]).2=1:=by
  unfold I5;rw [if_neg (by rw [vTD.2];decide)];rfl
 rw [ht,hT] at J
 refine (?_:Tr (slC false B1 1 (some ⟨b4,0,none⟩) 1 1 (A0 [1])::_::cmC c k F1 XC::_) _ _ _)
 refine Yc J ?_
 rintro _ h ⟨rfl,o⟩
 refine Jh o ?_
 (refine Jb ?_;unhygienic intros)
 refine Ys fun o=>(?_:Tr _ _ _ _) o;refine Je ?_
 refine Ys fun o=>?_
 exact ⟨rfl,o.sub⟩
theorem Bq4 (V:VW) (j:Int) (q:PipeS) (i fd:Int):ofW (wP V j q) i fd=ofW V i fd:=rfl
theorem Ic8 (V:VW) (j:Int) (q:PipeS):(wP V j q).P j=(q,1):=by
 show (if j=j then (q,(1:Int)) else V.P j)=_
 rw [if_pos rfl]
theorem Ig1 (V:VW) (j:Int) (q q':PipeS):wP (wP V j q) j q'=wP V j q':=by
 refine VW.ext' (fun _=>rfl) (fun _=>rfl) fun n=>?_
 show (if n=j then _ else if n=j then _ else _)=if n=j then _ else _
 by_cases h:n=j
 ·rw [if_pos h,if_pos h]
 ·rw [if_neg h,if_neg h,if_neg h]
theorem Ii9 {V:VW} {j:Int} {q:PipeS} (h:V.P j=(q,1)):wP V j q=V:=by
 refine VW.ext' (fun _=>rfl) (fun _=>rfl) fun n=>?_
 show (if n=j then _ else _)=_
 by_cases hn:n=j
 ·rw [if_pos hn,hn,h]
 ·rw [if_neg hn]
section
variable {V:VW} {i fd f r fl j:Int} {q:PipeS}
theorem Il9 (ho:ofW V i fd=((f,⟨2,j,r,fl⟩),0)) (l:List UInt8) (hl:l.length≤32):Br9 (wP V j q) i fd l=if l.length=0 then (⟨0,0,false⟩,wP V j q) else if 32-q.count=0∨l.length≤8∧32-q.count<l.length then (if fl=1 then (⟨0,111,false⟩,wP V j q) else (⟨0,0,true⟩,wP V j q)) else (⟨(I5 q l).2,0,false⟩,wP V j (I5 q l).1):=by
 unfold Br9
 rw [Bq4,ho]
 dsimp only
 rw [Ic8]
 rw [if_neg (by simp),if_neg (by simp),if_neg (by omega)]
 by_cases h0:l.length=0
 ·rw [if_pos h0,if_pos h0]
 ·rw [if_neg h0,if_neg h0,if_neg (by simp),Ig1]
theorem Ii6 (ho:ofW V i fd=((f,⟨1,j,r,fl⟩),0)) {n:Int} (hn:0≤n∧n≤32):V5 (wP V j q) i fd n=(⟨1,j,r,fl⟩,0):=by
 unfold V5
 rw [Bq4,ho]
 dsimp only
 rw [if_neg (by simp),if_neg (by simp),if_neg (by omega)]
theorem Iq1 (ho:ofW V i fd=((f,⟨1,j,r,fl⟩),0)) {n:Int} (hn:0≤n∧n≤32):Az1 (wP V j q) i fd n=if n=0 then (⟨[],0,false⟩,wP V j q) else if q.count=0 then (if q.writers=0 then (⟨[],0,false⟩,wP V j q) else if fl=1 then (⟨[],111,false⟩,wP V j q) else (⟨[],0,true⟩,wP V j q)) else (⟨(N9 q).take (min n.toNat q.count.toNat),0,false⟩,wP V j (A80 q (min n.toNat q.count.toNat))):=by
 unfold Az1
 rw [Ii6 ho hn]
 dsimp only
 rw [Ic8]
 by_cases h0:n=0
 ·rw [if_pos (.inr h0),if_pos h0]
 ·rw [if_neg (fun h=>h.elim (by simp) h0),if_neg h0,if_neg (by simp)]
  dsimp only
  by_cases h1:q.count=0
  ·rw [if_pos h1,if_pos h1]
   by_cases h2:q.writers=0
   ·rw [if_pos ⟨rfl,h2⟩,if_pos h2]
   ·rw [if_neg (fun h=>h2 h.2),if_neg h2]
  ·rw [if_neg h1,if_neg h1,Ig1]
end
theorem Ip4 {V:VW} {i fd f r fl j:Int} {q:PipeS} (ho:ofW V i fd=((f,⟨1,j,r,fl⟩),0)):(ofW (wP V j q) i fd).1.2.kind≠3:=by rw [Bq4,ho];simp
theorem Ir1 {V:VW} {i fd f r fl j:Int} (n:Int) {q:PipeS} (ho:ofW V i fd=((f,⟨1,j,r,fl⟩),0)) (hj:0≤j∧j<6):(V5 (wP V j q) i fd n).2=0→0≤(V5 (wP V j q) i fd n).1.pipe∧(V5 (wP V j q) i fd n).1.pipe<6:=by
 intro _
 unfold V5
 rw [Bq4,ho]
 dsimp only
 rw [if_neg (by simp),if_neg (by simp)]
 split<;>exact hj
theorem Ir8 {V:VW} {i fd f r fl j:Int} {q:PipeS} (ho:ofW V i fd=((f,⟨2,j,r,fl⟩),0)) (hj:0≤j∧j<6) (hq:q.readers≠0):(ofW (wP V j q) i fd).2=0→(ofW (wP V j q) i fd).1.2.kind=2→0≤(ofW (wP V j q) i fd).1.2.pipe∧(ofW (wP V j q) i fd).1.2.pipe<6∧((wP V j q).P (ofW (wP V j q) i fd).1.2.pipe).1.readers≠0:=fun _ _=>by
 rw [Bq4,ho]
 dsimp only
 rw [Ic8]
 exact ⟨hj.1,hj.2,hq⟩
theorem Ik6 {V:VW} {i fd f r fl j:Int} {q:PipeS} (hq:okP q=true) (ho:ofW V i fd=((f,⟨2,j,r,fl⟩),0)) (l:List UInt8) (hl:q.count+l.length≤32) :
  ∃ q',Br9 (wP V j q) i fd l=(⟨l.length,0,false⟩,wP V j q')∧okP q'=true∧q'.count=q.count+l.length∧N9 q'=N9 q++l∧q'.readers=q.readers∧q'.writers=q.writers:=by
 have hr:=Al4 hq
 rw [Il9 ho l (by omega)]
 by_cases h0:l.length=0
 ·have:l=[]:=List.eq_nil_of_length_eq_zero h0
  subst this
  rw [if_pos h0]
  exact ⟨q,rfl,hq,by simp,by simp,rfl,rfl⟩
 ·rw [if_neg h0,if_neg (by omega)]
  obtain ⟨h1,h2,h3,h4,h5⟩:=Gq4 l q hq
  have e:(I5 q l).2=l.length:=by rw [h1];omega
  rw [e] at h2 h3
  refine ⟨(I5 q l).1,by rw [e],Dp7 l q hq,h2,?_,h4,h5⟩
  rw [h3,Int.toNat_natCast,List.take_length]
theorem In0 {V:VW} {i fd f r j:Int} {q:PipeS} (hq:okP q=true) (hw:q.writers≠0) (ho:ofW V i fd=((f,⟨1,j,r,0⟩),0)) :
  ∃ q',Az1 (wP V j q) i fd 32=(⟨N9 q,0,decide (q.count=0)⟩,wP V j q')∧okP q'=true∧q'.count=0∧q'.readers=q.readers∧q'.writers=q.writers:=by
 have hr:=Al4 hq
 rw [Iq1 ho (by omega),if_neg (by decide)]
 by_cases h0:q.count=0
 ·rw [if_pos h0,if_neg hw,if_neg (by decide)]
  have:N9 q=[]:=List.eq_nil_of_length_eq_zero (by rw [Ef1];omega)
  exact ⟨q,by rw [this,decide_eq_true h0],hq,h0,rfl,rfl⟩
 ·rw [if_neg h0]
  have e:min (32:Int).toNat q.count.toNat=q.count.toNat:=by
   show min 32 q.count.toNat=_
   omega
  rw [e]
  obtain ⟨t1,t2,t3,t4⟩:=Hv7 hq (m:=q.count.toNat) (Nat.le_refl _)
  have ht:(N9 q).take q.count.toNat=N9 q:=List.take_of_length_le (by rw [Ef1];exact Nat.le_refl _)
  exact ⟨A80 q q.count.toNat,by rw [ht,decide_eq_false h0],Hd2 hq (Nat.le_refl _),by rw [t2];omega,t3,t4⟩
def VF1:VW:=(Gi7 VD 0).2
def VF (f t:Int):VW:=(Am6 (Am6 VF1 f 1).2 t 2).2
structure FtOk (f t:Int):Prop where
 rf:0≤f∧f<8
 rt:0≤t∧t<8
 c1:(Am6 VF1 f 1).1=O0 0 0 false
 c2:(Am6 (Am6 VF1 f 1).2 t 2).1=O0 0 0 false
 p0:(VF f t).P 0=(A78,1)
 o1:ofW (VF f t) f 2=((2,⟨2,0,1,0⟩),0)
 o2:ofW (VF f t) t 1=((1,⟨1,0,1,0⟩),0)
 o3:ofW (VF f t) f 1=((0,.zero),109)
 o4:ofW (VF f t) t 2=((0,.zero),109)
 c5:∀ hd d dl,(Am6 (wP (VF f t) 0 ⟨hd,0,1,1,d,dl⟩) f 2).1=O0 0 0 false
 o6:∀ hd d dl,ofW (Am6 (wP (VF f t) 0 ⟨hd,0,1,1,d,dl⟩) f 2).2 t 1=((1,⟨1,0,1,0⟩),0)
 r6:∀ hd d dl,(Az1 (Am6 (wP (VF f t) 0 ⟨hd,0,1,1,d,dl⟩) f 2).2 t 1 5).1=⟨[],0,false⟩
theorem ft1:FtOk 1 0:=⟨by omega,by omega,by kernel_rfl,by kernel_rfl,by kernel_rfl,by kernel_rfl,by kernel_rfl,by kernel_rfl,by kernel_rfl,fun _ _ _=>by kernel_rfl,fun _ _ _=>by kernel_rfl,fun _ _ _=>by kernel_rfl⟩
theorem ft2:FtOk 0 1:=⟨by omega,by omega,by kernel_rfl,by kernel_rfl,by kernel_rfl,by kernel_rfl,by kernel_rfl,by kernel_rfl,by kernel_rfl,fun _ _ _=>by kernel_rfl,fun _ _ _=>by kernel_rfl,fun _ _ _=>by kernel_rfl⟩
theorem Iq6:(Gi7 VD 0).1=O0 1 0 false:=by kernel_rfl
theorem Et2 (k c:Nat) (f t:Int) (T:FtOk f t) (X:CX) (A:See X VF1) (pb:HP) (a:Option Addr) (ro:Bool) (cc:Nat) (l:List UInt8) (hl:l.length≤32) [ks:IsSl pb a ro B1 1 l.length cc (A0 l)] :
  CtJ H5 H2 Aj5 [(0,.slice a l.length cc),(6,P0 c),(9,int f),(10,int t)] [cmC c k F1 X,pb] fun v own=>v=.bool true∧own []:=by
 obtain ⟨a1,A1⟩:=A.closeFd T.rf 1
 obtain ⟨a2,A2⟩:=A1.closeFd T.rt 2
 replace a1:=a1.trans T.c1
 replace a2:=a2.trans T.c2
 generalize hX2:(A83 3 (A83 3 X f 1).2 t 2).2=X2 at A2
 have A3:See X2 (wP (VF f t) 0 A78):=by rw [Ii9 T.p0];exact A2
 have hq0:okP A78=true:=rfl
 obtain ⟨q,w1,q1,q2,q3,q4,q5⟩:=Ik6 hq0 T.o1 l (by show (0:Int)+l.length≤32;omega)
 have hb0:N9 A78=[]:=rfl
 rw [hb0,List.nil_append] at q3
 replace q2:q.count=l.length:=q2.trans (by show (0:Int)+l.length=l.length;omega)
 obtain ⟨q',w2,p1,p2,p3,p4⟩:=In0 (j:=0) q1 (by rw [q5];decide) T.o2
 rw [q3] at w2
 have J1:=Ep3 c k F1 X2 A31 _ A3 f 2 T.rf (Ir8 T.o1 (by omega) (by decide)) pb a ro cc l (by simp only [B7];omega)
 rw [w1] at J1
 have J2:=fun X3 (A4:See X3 (wP (VF f t) 0 q))=>Dr2 c k F1 X3 A31 _ A4 t 1 32 T.rt (Ip4 T.o2) (Ir1 32 T.o2 (by omega))
 rw [w2] at J2
 have w3:Az1 (wP (VF f t) 0 q') f 1 5=(⟨[],109,false⟩,wP (VF f t) 0 q'):=by
  unfold Az1 V5;rw [Bq4,T.o3,if_pos (by simp),if_pos (by simp)]
 have J3:=fun X4 (A5:See X4 (wP (VF f t) 0 q'))=>Dr2 c k F1 X4 A31 _ A5 f 1 5 T.rf (by rw [Bq4,T.o3];decide) (fun h=>by unfold V5 at h;rw [Bq4,T.o3,if_pos (by simp)] at h;cases h)
 rw [w3] at J3
 have w4:Br9 (wP (VF f t) 0 q') t 2 [1]=(⟨0,109,false⟩,wP (VF f t) 0 q'):=by
  unfold Br9;rw [Bq4,T.o4,if_pos (by simp)]
 have J4:=fun X5 (A6:See X5 (wP (VF f t) 0 q')) b4=>Ep3 c k F1 X5 A31 _ A6 t 2 T.rt (fun h=>by rw [Bq4,T.o4] at h;cases h) (slC false B1 1 (some ⟨b4,0,none⟩) 1 1 (A0 [1])) (some ⟨b4,0,none⟩) false 1 [1] (by simp [B7])
 rw [w4] at J4
 rw [q4] at p3
 rw [q5] at p4
 obtain ⟨hd,ct,rd',wr',d,dl⟩:=q'
 obtain rfl:ct=0:=p2
 obtain rfl:rd'=1:=p3
 obtain rfl:wr'=1:=p4
 have J7:=fun X7 (A7:See X7 (Am6 (wP (VF f t) 0 ⟨hd,0,1,1,d,dl⟩) f 2).2)=>Dr2 c k F1 X7 A31 _ A7 t 1 5 T.rt (by rw [T.o6];decide) (fun _=>by unfold V5;rw [T.o6,if_neg (by simp),if_neg (by simp),if_neg (by omega)];exact ⟨by decide,by decide⟩)
 rw [T.r6] at J7
 refine CtJ.of B55 fun h r=>Tr.eq (D16 ..) ?_;refine Je ?_
 refine Yc (Ev0 c k F1 X A31 A.c f 1 T.rf) ?_;rintro _ h ⟨rfl,o⟩<;>refine Jh o ?_
 rw [a1]
 (refine Jb ?_;unhygienic intros)
 refine Yb (Yf rfl ?_)
 refine Yc (Ev0 c k F1 _ A31 A1.c t 2 T.rt) ?_;rintro _ h ⟨rfl,o⟩<;>refine Jh o ?_
 rw [a2,hX2]
 (refine Jb ?_;unhygienic intros)
 refine Ys fun o=>(?_:Tr _ _ _ _) o;refine Je ?_
 refine Yf rfl ?_
 refine Yc J1 ?_
 rintro _ h ⟨X3,A4,_,rfl,o⟩
 refine Jh o ?_
 (refine Jc ?_;unhygienic intros)
 refine Yn fun b1 h=>?_
 (refine Ja ?_;unhygienic intros)
 refine Yc (J2 X3 A4) ?_
 rintro _ h ⟨a3,cap,X4,A5,_,rfl,o⟩
 refine Jh o ?_
 (refine Jc ?_;unhygienic intros)
 refine Yn fun b2 h=>?_
 (refine Ja ?_;unhygienic intros)
 refine Yc (J3 X4 A5) ?_
 rintro _ h ⟨a4,cap4,X5,A6,_,rfl,o⟩
 refine Jh o ?_
 (refine Jc ?_;unhygienic intros)
 refine Yn fun b3 h=>?_
 (refine Jc ?_;unhygienic intros)
 refine Yn fun b4 h=>?_
 refine Aa1 0 rfl 1 1 rfl (by omega) ?_
 refine (?_:Tr (slC false B1 1 (some ⟨b4,0,none⟩) 1 1 (A0 [1])::_::cmC c k F1 X5::_) _ _ _)
 refine Yc (J4 X5 A6 b4) ?_
 rintro _ h ⟨X6,A7,_,rfl,o⟩
 refine Jh o ?_
 (refine Jc ?_;unhygienic intros)
 refine Yn fun b5 h=>?_
 (refine Jb ?_;unhygienic intros)
 refine Yb (Yf (by simp) ?_)
 (refine Jb ?_;unhygienic intros)
 refine Ys fun o=>(?_:Tr _ _ _ _) o;refine Je ?_
 refine Yb (Yf rfl ?_)
 (refine Jb ?_;unhygienic intros)
 refine Ys fun o=>(?_:Tr _ _ _ _) o;refine Je ?_
 refine Yb (Yf (by simp) ?_)
 (refine Jb ?_;unhygienic intros)
 refine Ys fun o=>(?_:Tr _ _ _ _) o;refine Je ?_
 have hbd:(!(decide (q.count=0)==((l.length:Int)==0)))=false:=by
  rw [q2]
  by_cases h:(l.length:Int)=0
  ·rw [h];rfl
  ·rw [decide_eq_false h,beq_eq_false_iff_ne.2 h];rfl
 refine Yb (Yf hbd ?_)
 (refine Jb ?_;unhygienic intros)
 refine Ys fun o=>(?_:Tr _ _ _ _) o;refine Je ?_
 refine Yb (Yf (by simp) ?_)
 (refine Jb ?_;unhygienic intros)
 refine Ys fun o=>(?_:Tr _ _ _ _) o;refine Je ?_
 refine Yf (by simp) ?_
 obtain ⟨a8,A8⟩:=A7.closeFd T.rf 2
 replace a8:=a8.trans (T.c5 hd d dl)
 refine Yc (Ev0 c k F1 X6 A31 A7.c f 2 T.rf) ?_;rintro _ h ⟨rfl,o⟩<;>refine Jh o ?_
 rw [a8]
 generalize (A83 3 X6 f 2).2=X7 at A8 ⊢
 (refine Jb ?_;unhygienic intros)
 refine Yf rfl ?_
 refine Yc (J7 X7 A8) ?_
 rintro _ h ⟨a6,cap6,X8,A9,_,rfl,o⟩
 refine Jh o ?_
 (refine Jc ?_;unhygienic intros)
 refine Yn fun b6 h=>?_
 (refine Jb ?_;unhygienic intros)
 refine Yb (Yt rfl ?_)
 (refine Jb ?_;unhygienic intros)
 refine Ys fun o=>(?_:Tr _ _ _ _) o;refine Je ?_
 refine Yb (Yt rfl ?_)
 (refine Jb ?_;unhygienic intros)
 refine Ys fun o=>(?_:Tr _ _ _ _) o;refine Je ?_
 refine Yb (Yt rfl ?_)
 refine Yc (Gd1) ?_;rintro _ h ⟨rfl,o⟩<;>refine Jh o ?_
 (refine Jb ?_;unhygienic intros)
 refine Ys fun o=>(?_:Tr _ _ _ _) o;refine Je ?_
 refine Ys fun o=>?_
 exact ⟨rfl,o.sub⟩
theorem Gj0 (pb:HP) (a:Option Addr) (ro:Bool) (cc:Nat) (l:List UInt8) (child:Bool) [ks:IsSl pb a ro B1 1 l.length cc (A0 l)]:Ct B6 H2 [.slice a l.length cc,.bool child] [pb] fun v own=>v=.bool true∧own []:=by
 refine Ct.of B55 rfl fun h r=>Tr.eq (Ek0 ..) ?_;refine Je ?_
 refine Yc (Gz3) ?_;rintro _ h ⟨a1,rfl,o⟩<;>refine Jh o ?_
 (refine Ja ?_;unhygienic intros)
 refine Yc (Hm9 a1) ?_
 rintro _ h ⟨k,c,w,m,K',rfl,o⟩
 refine Jh o ?_
 (refine Jb ?_;unhygienic intros)
 refine Yb (Yf rfl ?_)
 refine Ys fun o=>(?_:Tr _ _ _ _) o;refine Je ?_
 by_cases hl:l.length>32
 ·refine Yt (by rw [decide_eq_true_iff];omega) ?_
  refine Yb (Yt rfl ?_)
  refine Yc (Gd1) ?_;rintro _ h ⟨rfl,o⟩<;>refine Jh o ?_
  (refine Jb ?_;unhygienic intros)
  refine Ys fun o=>(?_:Tr _ _ _ _) o;refine Je ?_
  refine Ys fun o=>?_
  exact ⟨rfl,o.sub⟩
 refine Yf (by rw [decide_eq_false_iff_not];omega) ?_
 refine Yc (G98 c k F1 X1 A31 E85 0 (by omega)) ?_;rintro _ h ⟨rfl,o⟩<;>refine Jh o ?_
 rw [H02,show (A65 X1 0).2=XD from rfl]
 (refine Jb ?_;unhygienic intros)
 refine Yb (Yf (by simp) ?_)
 obtain ⟨f1,A1⟩:=Ib6.fork (i:=0) (by omega)
 replace f1:=f1.trans Iq6
 refine Yc (Ij8 c k F1 XD A31 Ib6.c 0 (by omega)) ?_;rintro _ h ⟨rfl,o⟩<;>refine Jh o ?_
 rw [f1]
 (refine Jb ?_;unhygienic intros)
 refine Ys fun o=>(?_:Tr _ _ _ _) o;refine Je ?_
 refine Yf (by simp) ?_
 refine Ac0 [0,2] 2 rfl rfl ?_
 cases child
 ·refine Yf rfl ?_
  exact Yr (Et2 k c 0 1 ft2 _ A1 pb a ro cc l (by omega)) fun v h q=>q
 ·refine Yt rfl ?_
  exact Yr (Et2 k c 1 0 ft1 _ A1 pb a ro cc l (by omega)) fun v h q=>q
end Go.EQ

set_option maxRecDepth 100000
namespace Go.EQ
open Go Go.NN Go.Proofs Go.ChangeShapes Go.WideShapes Go.RowKit
theorem Ij5:∀ f,(cutsOf f).globs=0:=En1 If0 (by kernel_rfl)
theorem Il3:∀ f,(cutsOf f).globs≤PR.globals.size:=fun f=>by rw [Ij5 f];exact Nat.zero_le _
theorem Ik9:PR.follows .mixedOrders=true:=by kernel_rfl
theorem In6:laidOutB PR=true:=by kernel_rfl
theorem Iq5:ownKnob PR.godebug=none:=by kernel_rfl
end Go.EQ

set_option maxRecDepth 100000
namespace Go.EQ
open Go Go.NN Go.Proofs Go.Proofs.YtnmdbfbjdhgmlaaGreat Go.ChangeShapes Go.WideShapes Go.RowKit
theorem Ik3 {H:Type} {enc:TypeId × Value→H} {W:World} {v0 v1:Value} {d0 d1:DataW H} {p0 p1:List MemPlace} {b0:Nat} (k0:Value.okWide PR W .any b0 Gq2 v0) (k1:Value.okWide PR W .any b0 D67 v1)
  (h0:DataW.Trod enc PR W 0 (fun _=>true) true Gq2 v0 d0 p0) (h1:DataW.Trod enc PR W 0 (fun _=>true) true D67 v1 d1 p1) :
  Calls PR H2 #[v0,v1] W fun e W'=>e=.returned (.bool true)∧Below W.heap.size W W':=by
 obtain ⟨x0,hl0,i0⟩:=(Am8.bytes (P:=PR) (W:=W) B1 Gr6 Ig3 (by kernel_rfl)).arg (Hf4 Gr6 k0) h0
 obtain ⟨x1,rfl,_⟩:=open_bool Hy1 k1 h1
 have i1:Imp PR W [.bool x1] fun vs qs=>vs=[.bool x1]∧qs=[]:=Imp.flat (by simp [Dy0])
 refine (i0.app i1).run Ik9 Il3 fun vs ps J hh r o=>?_
 obtain ⟨_,_,_,_,hv0,hp0,⟨⟨a0,c0⟩,e0a,e0b⟩,⟨e1a,e1b⟩⟩:=J
 subst e0a
 subst e0b
 subst e1a
 subst e1b
 subst hv0
 subst hp0
 have O:Own hh ([(slC true B1 1 a0 x0.length c0 (A0 x0))]++r):=by
  exact o
 obtain ⟨v,h',e,rfl,_⟩:=Gj0 (slC true B1 1 a0 x0.length c0 (A0 x0)) a0 true c0 x0 x1 hh r O
 exact ⟨h',e⟩
theorem Ia4 (os:Os) (started:os.Started) (H:Type) (enc:TypeId × Value→H) :
  ReturnsInHanded {} Tryz.checked os H2 .any (Rows.pipesForkedSpec.pre6 enc Tryz.prog Tryz.f7 Rows.pipesForkedRow.domain false) (Rows.pipesForkedSpec.post enc Tryz.prog Tryz.f7 false true false false):=by
 refine returnsInHanded_of_change (C:=Tryz.checked) Iq5 started (by kernel_rfl) Tryz.func7
  (ChangeSpec.witness6 (enc:=enc) (C:=Tryz.checked) false ⟨#[],#[.slice none 0 0,.bool false],[]⟩ 8 (by kernel_rfl) (by kernel_rfl) (by kernel_rfl) (by kernel_rfl)) ?_
 intro W base args ds gs before hval hW hcnd _
 have hW':=hW
 obtain ⟨p,q,hA,hV,rfl,hfz,hnd⟩:=hW
 rw [Tryz.params7] at hA hval
 obtain ⟨v0,v1,d0,d1,p0,p1,rfl,rfl,rfl,h0,h1⟩:=trodAll_two hA
 refine (Ik3 (hval 0 _ v0 rfl rfl) (hval 1 _ v1 rfl rfl) h0 h1).mono fun e W' ⟨he,hb⟩=>?_
 subst he
 refine ⟨_,rfl,H20 In6 ?_ rfl Hy1 rfl (fun ds gs hl=>?_) hW' hb⟩
 ·rw [Tryz.params7];intro t ht;simp at ht;rcases ht with rfl|rfl<;>exact ⟨by kernel_rfl,of_decide_eq_true (by kernel_rfl)⟩
 ·replace hl:ds.length=2:=hl
  cases gs with
  | cons _ _=>exact .inr (by simp)
  | nil=>match ds,hl with|[_,_],_=>exact .inl rfl
theorem Ip5:Tryz.pinned.checked.prog.funcNamed Rows.pipesForkedRow.func=some H2:=by kernel_rfl
theorem Ia5:joinedFacts Tryz.pinned.checked.prog H2 Tryz.f7 Rows.pipesForkedSpec Rows.pipesForkedRow=true:=by kernel_rfl
theorem In3:Tryz.f7.isInstance Tryz.pinned.checked.prog Rows.pipesForkedRow.origin Rows.pipesForkedRow.targs:=of_decide_eq_true (by kernel_rfl)
theorem Im1:Tryz.f7.isWrapper Tryz.pinned.checked.prog Rows.pipesForkedRow.wrapper Rows.pipesForkedRow.mainSum:=by unfold Func.isWrapper;first|(rw [if_pos (by decide +kernel)];kernel_rfl)|(rw [if_neg (by decide +kernel)];exact ⟨rfl,rfl⟩)
theorem PipesForked_holds:Rows.PipesForkedSaid :=
 OpenClaim.holds_of_wide H2 Tryz.f7 rfl rfl rfl rfl rfl rfl rfl ⟨rfl,rfl,rfl,rfl,rfl⟩ rfl rfl rfl rfl rfl Ip5 Tryz.func7 Ia5 In3 Im1
  (fun os started H enc _=>Ia4 os started H enc)
end Go.EQ
