/- A process whose own record is bad is told EIO whatever it asks, and nobody's record is changed by it. -/
import Derived.Test.YtoegoalficgneaaGreatMh
import Derived.KernelRfl
set_option linter.all false
set_option maxRecDepth 10000
namespace Go.EQ
open Go Go.NN
theorem Gy8 (k:Nat) (S:KS) (A:KA):CtP A3 Ar0 [P0 k] [pt k (.cells Dj8 false (Et9 S A))] (P0 A.s):=by
 refine CtP.of Gg0 rfl fun h r=>Tr.eq (Gf7 ..) ?_;refine Je ?_
 exact Jz
theorem I64 (k:Nat) (S:KS) (N:Nat) (ok:KOk N S) (env:Int):Ct A3 Bz5 [P0 k,int env] [D5 k S] fun v own =>
  (A98 S.tabs env≠[]∧∃ c,v=.tuple ⟨[P0 c,int 0]⟩∧own [N4 c k env (A98 S.tabs env) [],D5 k S])∨(A98 S.tabs env=[]∧v=.tuple ⟨[.pointer none,int 1]⟩∧own [D5 k S]):=by
 refine Ct.of Hf2 rfl fun h r=>Tr.eq (Hd9 ..) ?_;refine Je ?_
 refine A9 (D5 k S) fun ⟨m,s,q,rg,ea,ec,ma,mc,ms,sa,sc,ss⟩=>?_;refine Je ?_
 (refine Jb ?_;intros)
 refine Yb (Yf rfl ?_)
 refine Tr.pcall (Gy8 k S ⟨m,s,q,rg,ea,ec,ma,mc,ms,sa,sc,ss⟩) ?_;refine Je ?_;(refine Ja ?_;intros)
 try dsimp only
 refine Yc (Gu6 s S.tabs env ok.space) ?_;rintro _ h ⟨a0,c0,rfl,o⟩<;>refine Jh o ?_
 (refine Ja ?_;intros)
 refine Ys fun o=>(?_:Tr _ _ _ _) o;refine Je ?_
 by_cases hz:A98 S.tabs env=[]
 ·refine Yt (by simp [hz]) ?_
  refine A4 (D5 k S) ⟨m,s,q,rg,ea,ec,ma,mc,ms,sa,sc,ss⟩ ?_;refine Je ?_
  refine Ys fun o=>?_
  exact .inr ⟨hz,rfl,o.sub⟩
 ·refine Yf ?_ ?_
  ·rw [beq_eq_false_iff_ne]
   intro h0
   exact hz (List.eq_nil_of_length_eq_zero (by omega))
  refine Tr.pcall (Gy8 k S ⟨m,s,q,rg,ea,ec,ma,mc,ms,sa,sc,ss⟩) ?_;refine Je ?_;(refine Ja ?_;intros)
  try dsimp only
  refine Yc (Gu6 s S.tabs env ok.space) ?_;rintro _ h ⟨a1,c1,rfl,o⟩<;>refine Jh o ?_
  (refine Jc ?_;intros)
  refine Yn fun mb h=>?_
  refine Yn fun c h=>?_
  refine A4 (D5 k S) ⟨m,s,q,rg,ea,ec,ma,mc,ms,sa,sc,ss⟩ ?_;refine Je ?_
  refine D8 (N4 c k env (A98 S.tabs env) []) (a1,c1,mb) [1,2,1] rfl ?_;refine Je ?_
  refine Ys fun o=>?_
  exact .inl ⟨hz,c,rfl,o.sub⟩
def Bd0:PlanS:=⟨[false,false],[(0,1),(1,0)],5⟩
theorem Hi9:Ct A3 B64 [] [] fun v own=>∃ A,v=.agg ⟨Ga6 Bd0 A⟩∧own (Du0 Bd0 A):=by
 refine Ct.of Hq1 rfl fun h r=>Tr.eq (Ht1 ..) ?_;refine Je ?_
 (refine Jc ?_;intros;rename H=>h)
 refine Yn fun b h=>?_
 refine Yn fun b1 h=>?_
 refine Yn fun b2 h=>?_
 (refine Ja ?_;intros;rename H=>h)
 refine Ai6 0 rfl 2 2 rfl (by omega) ?_
 refine Ai6 1 rfl 1 2 rfl (by omega) ?_
 refine Je ?_
 refine Ys fun o=>?_
 exact ⟨⟨some ⟨b1,0,none⟩,2,some ⟨b2,0,none⟩,2⟩,rfl,(show Own h (slC false B98 2 (some ⟨b2,0,none⟩) Bd0.brs.length 2 (Bd0.brs.flatMap brL)::slC false Gt8 1 (some ⟨b1,0,none⟩) Bd0.bad.length 2 (Bd0.bad.map Value.bool)::_) from o).sub⟩
def Ak2:BootS:=E05 Bd0
theorem Hl5:Bx8 Ak2=true:=by kernel_rfl
theorem Gj9:Small Ak2:=by
 have e:Ak2=⟨[20,20],[0,0,0,0,0,0,0,0,0,1,1,1,1,1,1,1,1,1],[[0],[1]],5,[⟨0,0,0,492,[0]⟩,⟨1,0,0,492,[1]⟩,⟨0,8,0,40,[0,1]⟩,⟨1,9,0,40,[1,0]⟩]⟩:=by kernel_rfl
 rw [e]
 exact ⟨by simp [A5],by simp [A5],by simp [A5]⟩
theorem B12:Ak2=⟨[20,20],[0,0,0,0,0,0,0,0,0,1,1,1,1,1,1,1,1,1],[[0],[1]],5,[⟨0,0,0,492,[0]⟩,⟨1,0,0,492,[1]⟩,⟨0,8,0,40,[0,1]⟩,⟨1,9,0,40,[1,0]⟩]⟩:=by kernel_rfl
theorem I50:RBoot Ak2 (Al7 Ak2.frames):=by
 rw [B12]
 refine ⟨by simp,by simp,by simp,fun x hx=>?_,fun x hx=>?_⟩
 ·simp only [List.mem_cons,List.not_mem_nil,or_false] at hx
  rcases hx with rfl|rfl|rfl|rfl<;>simp [A5]
 ·simp only [List.mem_cons,List.not_mem_nil,or_false] at hx
  rcases hx with rfl|rfl|rfl|rfl<;>simp [Al7]
def S00:KS:=Ec9 Ak2
theorem Hp5:KOk 0 S00:=I22 Hl5 Gj9
def wrS (S:KS) (cap:Int) (b:List UInt8):KS:=(W0 S 0 ⟨2,cap,0,0,0,0,b⟩).2
def S0:KS:=wrS S00 256 Ad9
theorem Jf1:(W0 S00 0 ⟨2,256,0,0,0,0,Ad9⟩).1.1=0:=by kernel_rfl
theorem Iz8:A98 S00.tabs 0=[256,257,258]:=by kernel_rfl
def wrR (K:RKS) (cap:Int) (b:List UInt8):RKS:={ K with R:=(Z8 K.R 0 cap 0 b).2 }
def K0:RKS:=wrR (Dp1 Ak2) 256 Ad9
theorem Ee7:RKOk (Dp1 Ak2)∧(Dp1 Ak2).B=Ak2:=I37 (by rw [B12];simp) (by rw [B12];simp)
theorem Eg4 {K:RKS} (k:RKOk K) (cap:Int) (b:List UInt8):RKOk (wrR K cap b):=I58 k 0 cap 0 b
theorem Iy7:Bz0 K0 0≠[]:=by
 have:Bz0 K0 0=[256,257,258]:=by kernel_rfl
 rw [this];simp
theorem Ad1:Ad9.length=492:=by kernel_rfl
theorem Bq3 {l:List HP} {h:H} {α:Type} {Q:α→H→Prop} {x:Option (α × H)} (i:Nat) {b n:Nat} {cs:List Value} (hi:l[i]?=some (pt b (.cells A1 false cs))) (hn:cs.length=n) (t:Tr (l.set i (slC false A1 1 (some (G9 b)) n n cs)) h x Q):Tr l h x Q:=fun o=>by
 refine t (Own.back (h:=h) hi ?_)
 have o1:=o.front hi
 refine Own.slShut (pre:=[]) (post:=[]) (by simpa using o1) ⟨by omega,Nat.le_refl _,by simp,by simp,by simp,by omega,by simp⟩
theorem I31 (A:PlA):Ct A3 Bp1 [.agg ⟨Ga6 Bd0 A⟩] (Du0 Bd0 A) fun v own =>
  ∃ k c w m,v=.tuple ⟨[P0 k,P0 c,P0 w,P0 m]⟩∧own [D5 k S0,N4 c k 0 [256,257,258] [],rkC w K0,rcC m w 0 (Bz0 K0 0) []]:=by
 have hB:E05 Bd0=Ak2:=rfl
 obtain ⟨ba,bc,ra,rc⟩:=A
 refine Ct.of Ht9 rfl fun h r=>Tr.eq (Hq9 ..) ?_;refine Je ?_
 refine Yn fun b0 h=>?_
 (refine Ja ?_;intros)
 refine Yc (I45 Bd0 ⟨ba,bc,ra,rc⟩ (by simp [Bd0]) (by simp [Bd0])) ?_;rintro _ h ⟨A,kA,rfl,o⟩<;>refine Jh o ?_
 rw [hB] at kA ⊢
 obtain ⟨fa,fc,ea,ec,sa,sc,ss,ha,hc,hs⟩:=A
 (refine Jc ?_;intros)
 refine Yn fun b1 h=>?_
 (refine Ja ?_;intros)
 have J:=Jc2 false Ak2 ⟨fa,fc,ea,ec,sa,sc,ss,ha,hc,hs⟩ kA Gj9
 simp only [Hl5,if_true] at J
 refine Yc (J) ?_;rintro _ h ⟨k,rfl,o⟩<;>refine Jh o ?_
 (refine Jb ?_;intros)
 refine Yb (Yf rfl ?_)
 refine Ys fun o=>(?_:Tr _ _ _ _) o;refine Je ?_
 refine Yf rfl ?_
 (refine Ja ?_;intros)
 refine Yc (H09 Ak2 ⟨fa,fc,ea,ec,sa,sc,ss,ha,hc,hs⟩ kA (by rw [B12];simp) I50) ?_;rintro _ h ⟨w,rfl,o⟩<;>refine Jh o ?_
 (refine Ja ?_;intros)
 refine Yc (I64 k (Ec9 Ak2) 0 Hp5 0) ?_
 rintro v h (⟨hz,c,rfl,o⟩|⟨hz,rfl,o⟩)
 case inr=>exact absurd hz (by rw [show Ec9 Ak2=S00 from rfl,Iz8];simp)
 rw [show Ec9 Ak2=S00 from rfl,Iz8] at o
 refine (?_:Tr _ _ _ _) o
 refine Je ?_
 (refine Jb ?_;intros)
 refine Yb (Yf rfl ?_)
 refine Ys fun o=>(?_:Tr _ _ _ _) o;refine Je ?_
 refine Yf rfl ?_
 refine Yc (Hb4) ?_;rintro _ h ⟨rfl,o⟩<;>refine Jh o ?_
 (refine Jc ?_;intros)
 refine Tr.ck (by rw [O3,Ad1];simp [A5]) ?_
 rw [O3,Ad1]
 refine Yn fun b2 h=>?_
 refine Bq3 (n:=492) 0 rfl (by rw [N8,show (bs Ad9).data.toList=Ad9 from rfl,Ad1]) ?_
 refine Je ?_
 have J2:=B46 k S00 0 Hp5 (by omega) 0 ⟨2,256,0,0,0,0,Ad9⟩ (some (G9 b2)) 492 false (show ((2:Int)≠5) by decide)
 simp only [Ad1] at J2
 refine Am5 J2 [2,0] rfl ?_
 rintro _ h ⟨y,d,rfl,o⟩
 rw [Jf1]
 rw [show (W0 S00 0 ⟨2,256,0,0,0,0,Ad9⟩).2=S0 from rfl] at o
 refine (?_:Tr _ _ _ _) o
 refine Je ?_
 (refine Jc ?_;intros)
 refine Yf rfl ?_
 refine Tr.ck (by simp [A5]) ?_
 refine Yn fun b3 h=>?_
 refine Bq3 (n:=492) 0 rfl (by rw [N8,Ad1]) ?_
 refine Je ?_
 have J3:=Dg1 w (Dp1 Ak2) Ee7.1 0 (by rw [Ee7.2,B12];simp) ⟨2,256,0,0,0,0,Ad9⟩ rfl (by rw [Ad1];simp [A5]) (slC false A1 1 (some (G9 b3)) Ad9.length 492 (A0 Ad9)) (some (G9 b3)) 492 false
 simp only [Ad1] at J3
 refine Yc J3 ?_
 rintro _ h ⟨rfl,o⟩
 rw [show ({ Dp1 Ak2 with R:=(Z8 (Dp1 Ak2).R ((0:Nat):Int) 256 0 Ad9).2 }:RKS)=K0 from rfl] at o
 refine (?_:Tr _ _ _ _) o
 refine Je ?_
 (refine Ja ?_;intros)
 refine Yc (G47 w K0 (Eg4 Ee7.1 256 Ad9) 0 (by show (0:Nat)<(Dp1 Ak2).B.envs.length;rw [Ee7.2,B12];simp)) ?_
 rintro v h (⟨_,m,rfl,o⟩|⟨hn,rfl,o⟩)
 case inr=>exact absurd hn Iy7
 refine (?_:Tr _ _ _ _) o
 refine Je ?_
 (refine Ja ?_;intros)
 refine Ys fun o=>?_
 exact ⟨k,c,w,m,rfl,o.sub⟩
def Da1 (mem:List UInt8) (rg:Rg):List (List UInt8):=rg.map fun p=>slice mem p.1 p.2
theorem Hh9 {mem:List UInt8} {rg:Rg} {j lo n:Nat} (h:rg[j]?=some (lo,n)):(Da1 mem rg)[j]?=some (slice mem lo n):=by unfold Da1;rw [List.getElem?_map,h];rfl
theorem Hm5 {mem:List UInt8} {rg:Rg} (h:∀ (j lo n:Nat),rg[j]?=some (lo,n)→lo+n≤mem.length):Fit mem.length rg (Da1 mem rg):=⟨by simp [Da1],fun j lo n hj=>⟨h j lo n hj,slice mem lo n,Hh9 hj,D62 (h j lo n hj)⟩⟩
theorem Iy3 {mem:List UInt8} {rg:Rg} (k:RgOk rg) (h:∀ (j lo n:Nat),rg[j]?=some (lo,n)→lo+n≤mem.length):Ao3 mem rg (Da1 mem rg)=mem:=by
 have f:=Hm5 h
 refine List.ext_getElem? fun i=>?_
 by_cases ho:∃ (j lo n:Nat),rg[j]?=some (lo,n)∧lo≤i∧i<lo+n
 ·obtain ⟨j,lo,n,hj,h1,h2⟩:=ho
  obtain ⟨i',rfl⟩:∃ i',i=lo+i':=⟨i-lo,by omega⟩
  rw [Df3 f k j lo n _ hj (Hh9 hj) i' (by omega),B38,if_pos (by omega)]
 ·exact D05 f i fun j lo n hj=>by
   by_cases hh:lo≤i∧i<lo+n
   ·exact absurd ⟨j,lo,n,hj,hh.1,hh.2⟩ ho
   ·omega
theorem FrOk.room {F:Fr} {j lo n:Nat} (f:Fit F.S.mem.length F.rg (Da1 F.S.mem F.rg)) (h:F.rg[j]?=some (lo,n)):lo+n≤F.S.mem.length:=(f.each j lo n h).1
theorem Fr.at_cut {F:Fr} (k:FrOk F) (h:∀ (j lo n:Nat),F.rg[j]?=some (lo,n)→lo+n≤F.S.mem.length):F.at (Da1 F.S.mem F.rg)=F.S:=by
 unfold Fr.at;rw [Iy3 k.dj h];rfl
theorem Own.cmTake {r:List HP} {h:H} (c k:Nat) (F:Fr) (bad:List RecS) (ok:FrOk F) (hr:∀ (j lo n:Nat),F.rg[j]?=some (lo,n)→lo+n≤F.S.mem.length) (o1:Own h (D5 k F.S::N4 c k F.env F.caps bad::r)):Own h (cmC c k F ⟨Da1 F.S.mem F.rg,bad⟩::r):=by
 refine Own.inex (f:=fun u:Unit=>sl (cmF c k F ⟨Da1 F.S.mem F.rg,bad⟩)) () (Own.group (l:=cmF c k F ⟨Da1 F.S.mem F.rg,bad⟩) ?_)
 show Own h (D5 k (F.at (Da1 F.S.mem F.rg))::N4 c k F.env F.caps bad::pu _::r)
 rw [Fr.at_cut ok hr]
 have o2:=Own.inpure (show Fit F.S.mem.length F.rg (Da1 F.S.mem F.rg) from Hm5 hr) o1
 exact o2.picks [1,1,0] rfl
theorem Ip6 {l r:List HP} {h:H} {α:Type} {Q:α→H→Prop} {x:Option (α × H)} (c k:Nat) (F:Fr) (X:CX) [tk:Take (cmC c k F X) l r]
  (t:Fit F.S.mem.length F.rg X.m→Tr (D5 k (F.at X.m)::N4 c k F.env F.caps X.bad::r) h x Q):Tr l h x Q:=fun o=>by
 have o1:Own h (cmC c k F X::r):=o.perm tk.pm
 obtain ⟨u,o2⟩:=Own.ex (f:=fun u:Unit=>sl (cmF c k F X)) o1
 have o3:Own h (D5 k (F.at X.m)::N4 c k F.env F.caps X.bad::pu (Fit F.S.mem.length F.rg X.m)::r):=Own.join o2
 have f:=(o3.front (i:=2) rfl).pure
 exact t f (o3.front (i:=2) rfl).tail
theorem Id4 {S:KS} {env cap obj:Int} {lo n:Nat} {e1 e2:Int} (hg:Bz8 S.tabs env cap=some ⟨obj,3,0,(n:Int),e1,e2⟩) (h0:0≤obj) (hr:S.regs[obj.toNat]?=some ((lo:Int),(n:Int))) (hl:lo+n≤65536) :
  ∀ (a m:Nat) (right:Int),right=1∨right=2→a+m≤n→Q6 S.tabs S.regs env cap right a m=(((lo+a:Nat):Int),0):=by
 intro a m right hri ha
 have hlt:=(List.getElem?_eq_some_iff.1 hr).1
 unfold Q6
 rw [hg]
 have b1:(B4 .i64 3 1==0)=false:=by kernel_rfl
 have b2:(B4 .i64 3 2==0)=false:=by kernel_rfl
 have hb:¬ ((B4 .i64 3 right==0)=true):=by rcases hri with rfl|rfl<;>simp [b1,b2]
 simp only
 have h2:(decide ((a:Int)<0) || decide ((m:Int)<0) || decide ((a:Int)>(n:Int)) || decide ((m:Int)>IntKind.wrap .i64 ((n:Int)-a)) || decide (obj<0) || decide (obj≥S.regs.length))=false:=by
  simp only [Bool.or_eq_false_iff,decide_eq_false_iff_not,A8];omega
 have h3:(decide (IntKind.wrap .i64 (0+(a:Int))>(n:Int)) || decide ((m:Int)>IntKind.wrap .i64 (IntKind.wrap .i64 ((n:Int)-0)-a)))=false:=by
  simp only [Bool.or_eq_false_iff,decide_eq_false_iff_not,A8];omega
 have h4:IntKind.wrap .i64 (IntKind.wrap .i64 ((lo:Int)+0)+a)=((lo+a:Nat):Int):=by simp only [A8];omega
 rw [if_neg hb]
 simp only [h2,hr,h3,h4,Bool.false_eq_true,if_false]
structure Like (S:KS):Prop where
 ok:KOk 0 S
 tabs:S.tabs=S00.tabs
 regs:S.regs=S00.regs
 envs:S.envs=S00.envs
 mem:S.mem.length=2560
theorem Dg2 {S:KS} (k:Like S) {m:List UInt8} (h:m.length=2560):Like (Ao8 S m) :=
 ⟨⟨k.ok.envs,k.ok.tabs,k.ok.space,k.ok.quota,by show m.length≤65536;omega,k.ok.regs,k.ok.may,k.ok.mayl,k.ok.nsect,k.ok.sects,k.ok.now⟩,k.tabs,k.regs,k.envs,h⟩
theorem Jc1:Like S00:=⟨Hp5,rfl,rfl,rfl,by kernel_rfl⟩
theorem I69 (S:KS) (k:Like S) (cap:Int) (b:List UInt8):Like (wrS S cap b):=by
 unfold wrS W0
 split
 ·exact k
 ·exact Dg2 k (by rw [Ib7];exact k.mem)
theorem A77:Like S0:=I69 S00 Jc1 256 Ad9
def rgP (s:Nat):Rg:=[(1280*s,492),(512,40),(1856,40)]
def frP (S:KS) (s:Nat) (env:Int):Fr:=⟨S,0,env,[256,257,258],rgP s⟩
theorem Gx3:S00.regs=[(0,492),(1280,492),(512,40),(1856,40)]:=by kernel_rfl
theorem I98:S00.envs.length=18:=by kernel_rfl
structure EnvP (s:Nat) (env:Int):Prop where
 hs:s<2
 he:0≤env∧env<18
 a:Bz8 S00.tabs env 256=some ⟨s,3,0,492,0,0⟩
 b:Bz8 S00.tabs env 257=some ⟨2,3,0,40,0,0⟩
 c:Bz8 S00.tabs env 258=some ⟨3,3,0,40,0,0⟩
theorem Eq6:EnvP 0 0:=⟨by omega,by omega,by kernel_rfl,by kernel_rfl,by kernel_rfl⟩
theorem Ee6 {s j lo n:Nat} (h:(rgP s)[j]?=some (lo,n)):(j=0∧lo=1280*s∧n=492)∨(j=1∧lo=512∧n=40)∨(j=2∧lo=1856∧n=40):=by
 unfold rgP at h
 match j,h with
 | 0,h=>simp at h;omega
 | 1,h=>simp at h;omega
 | 2,h=>simp at h;omega
 | j+3,h=>simp at h
theorem Dw6 {S:KS} (k:Like S) {s:Nat} (hs:s<2) (env:Int):∀ (j lo n:Nat),(frP S s env).rg[j]?=some (lo,n)→lo+n≤(frP S s env).S.mem.length:=by
 intro j lo n h
 have hm:=k.mem
 have:=Ee6 h
 show lo+n≤S.mem.length
 omega
theorem Gy5 {S:KS} (k:Like S) {s:Nat} {env:Int} (e:EnvP s env):FrOk (frP S s env):=by
 have hs:=e.hs;have he:=e.he
 refine ⟨k.ok,by simp [frP],by simp [frP],by simp [frP],by simp [frP,rgP],?_,?_,?_,⟨1280*s,rfl⟩,?_⟩
 ·show ¬ (env<0∨env≥(S.envs.length:Int))
  rw [k.envs,I98];omega
 ·intro j cap lo n hc hr
  show ∀ (a m:Nat) (right:Int),right=1∨right=2→a+m≤n→Q6 S.tabs S.regs env cap right a m=_
  have hg:=Ee6 hr
  rcases hg with ⟨rfl,rfl,rfl⟩|⟨rfl,rfl,rfl⟩|⟨rfl,rfl,rfl⟩
  ·cases hc
   refine Id4 (obj:=s) (e1:=0) (e2:=0) (by rw [k.tabs];exact e.a) (by omega) ?_ (by omega)
   rw [k.regs,Gx3,Int.toNat_natCast]
   match s,hs with
   | 0,_=>rfl
   | 1,_=>rfl
  ·cases hc
   exact Id4 (obj:=2) (e1:=0) (e2:=0) (by rw [k.tabs];exact e.b) (by omega) (by rw [k.regs,Gx3];rfl) (by omega)
  ·cases hc
   exact Id4 (obj:=3) (e1:=0) (e2:=0) (by rw [k.tabs];exact e.c) (by omega) (by rw [k.regs,Gx3];rfl) (by omega)
 ·intro i j lo n lo' n' hij hi hj
  have h1:=Ee6 hi;have h2:=Ee6 hj
  omega
 ·intro j lo n h0 h
  have:=Ee6 h;omega
def E61 (bad:List RecS) (kind:Int):Nat→Int→List RecS
 | 0,_=>[]
 | m+1,i=>if (⟨kind,i⟩:RecS) ∈ bad then ⟨kind,i⟩::E61 bad kind m (i+1) else E61 bad kind m (i+1)
def Eq9 (nc:Nat) (bad:List RecS):Nat→Int→List RecS
 | 0,_=>[]
 | m+1,kind=>E61 bad kind (I1 nc kind).toNat 0++Eq9 nc bad m (kind+1)
def Ds7 (nc:Nat) (bad:List RecS):List RecS:=Eq9 nc bad 5 1
theorem Ik2 (c k:Nat) (env:Int) (caps:List Int) (bad:List RecS) (hs:caps.length≤40) (kind:Int) (hk:1≤kind∧kind≤5) (Φ:List RecS→Value→(List HP→Prop)→Prop)
  (next:∀ (acc:List RecS) (a:Option Addr) (cp:Nat),acc.length≤50*kind→CtJ E2 D0 Y3 [(0,P0 c),(3,.slice a acc.length cp),(4,int (kind+1))] [slC false A6 2 a acc.length cp (acc.flatMap G8),N4 c k env caps bad] (Φ acc)) :
  ∀ (m:Nat) (i:Int) (acc:List RecS) (a:Option Addr) (cp:Nat),0≤i→i+m=I1 caps.length kind→acc.length≤50*(kind-1)+i →
  CtJ E2 D0 Y1 [(0,P0 c),(3,.slice a acc.length cp),(4,int kind),(13,int (I1 caps.length kind)),(14,int i)] [slC false A6 2 a acc.length cp (acc.flatMap G8),N4 c k env caps bad] (Φ (acc++E61 bad kind m i)):=by
 have hmost:I1 caps.length kind≤43:=by unfold I1;(repeat' split)<;>omega
 have e5:=wI kind
 intro m
 induction m with
 | zero =>
  intro i acc a cp h0 hi ha
  refine CtJ.of Ae3 fun h r=>Tr.eq (Bo4 ..) ?_;refine Je ?_
  refine Yf (by simp;omega) ?_
  rw [e5]
  refine Yr (next acc a cp (by omega)) ?_
  intro v h q
  rw [show E61 bad kind 0 i=[] from rfl,List.append_nil]
  exact q
 | succ m ih =>
  intro i acc a cp h0 hi ha
  have e1:=wI i
  refine CtJ.of Ae3 fun h r=>Tr.eq (Bo4 ..) ?_;refine Je ?_
  refine Yt (by simp;omega) ?_
  refine A9 (N4 c k env caps bad) fun ⟨ca,cn,mb⟩=>?_;refine Je ?_
  (refine Ja ?_;intros)
  have hl:=Bp0 ⟨kind,i⟩ bad
  simp only [G8] at hl
  rw [hl]
  rw [show E61 bad kind (m+1) i=if (⟨kind,i⟩:RecS) ∈ bad then ⟨kind,i⟩::E61 bad kind m (i+1) else E61 bad kind m (i+1) from rfl]
  by_cases hb:(⟨kind,i⟩:RecS) ∈ bad
  ·simp only [if_pos hb]
   (refine Ja ?_;intros)
   refine Yt rfl ?_
   (refine Ja ?_;intros)
   refine A4 (N4 c k env caps bad) ⟨ca,cn,mb⟩ ?_;refine Je ?_
   refine Tr.xApd ?_ (fun a' c' h=>?_);exact ⟨by first|rfl|simp,by first|rfl|simp,by simp only [A5];omega⟩;refine Je ?_
   rw [e1]
   rw [show acc.flatMap G8++[Value.int IntKind.i64 kind,Value.int IntKind.i64 i]=(acc++[(⟨kind,i⟩:RecS)]).flatMap G8 by simp [G8],show acc.length+1=(acc++[(⟨kind,i⟩:RecS)]).length by simp]
   refine H7 [3,0] 2 rfl rfl ?_
   refine Yr (ih (i+1) (acc++[⟨kind,i⟩]) a' c' (by omega) (by omega) (by simp;omega)) ?_
   intro v h q
   rw [List.append_assoc] at q
   exact q
  ·simp only [if_neg hb]
   (refine Ja ?_;intros)
   refine Yf rfl ?_
   refine A4 (N4 c k env caps bad) ⟨ca,cn,mb⟩ ?_;refine Je ?_
   rw [e1]
   refine H7 [2,0] 1 rfl rfl ?_
   refine Yr (ih (i+1) acc a cp (by omega) (by omega) (by omega)) ?_
   intro v h q
   exact q
theorem Il6 (c k:Nat) (env:Int) (caps:List Int) (bad:List RecS) (hs:caps.length≤40):∀ (m:Nat) (kind:Int) (acc:List RecS) (a:Option Addr) (cp:Nat),1≤kind→kind+m=6→acc.length≤50*(kind-1) →
  CtJ E2 D0 Y3 [(0,P0 c),(3,.slice a acc.length cp),(4,int kind)] [slC false A6 2 a acc.length cp (acc.flatMap G8),N4 c k env caps bad] fun v own =>
   ∃ a' cp',v=.slice a' (acc++Eq9 caps.length bad m kind).length cp'∧own [slC false A6 2 a' (acc++Eq9 caps.length bad m kind).length cp' ((acc++Eq9 caps.length bad m kind).flatMap G8),N4 c k env caps bad]:=by
 intro m
 induction m with
 | zero =>
  intro kind acc a cp hk hi ha
  refine CtJ.of Ae3 fun h r=>Tr.eq (Bo7 ..) ?_;refine Je ?_
  refine Yf (by simp;omega) ?_
  refine Ys fun o=>?_
  rw [show Eq9 caps.length bad 0 kind=[] from rfl,List.append_nil]
  exact ⟨a,cp,rfl,o.sub⟩
 | succ m ih =>
  intro kind acc a cp hk hi ha
  have hm0:0≤I1 caps.length kind:=by unfold I1;(repeat' split)<;>omega
  have L2:=Ik2 c k env caps bad hs kind (by omega) (fun acc v own=>∃ a' cp',v=.slice a' (acc++Eq9 caps.length bad m (kind+1)).length cp'∧own [slC false A6 2 a' (acc++Eq9 caps.length bad m (kind+1)).length cp' ((acc++Eq9 caps.length bad m (kind+1)).flatMap G8),N4 c k env caps bad])
   (fun acc a cp ha=>ih (kind+1) acc a cp (by omega) (by omega) (by omega)) (I1 caps.length kind).toNat 0 acc a cp (by omega) (by omega) (by omega)
  refine CtJ.of Ae3 fun h r=>Tr.eq (Bo7 ..) ?_;refine Je ?_
  refine Yt (by simp;omega) ?_
  refine Tr.pcall (Gn6 c k env caps bad kind hs) ?_;refine Je ?_;(refine Ja ?_;intros)
  refine Yr L2 ?_
  intro v h q
  rw [List.append_assoc] at q
  exact q
theorem I72 (c k:Nat) (env:Int) (caps:List Int) (bad:List RecS) (hs:caps.length≤40):Ct A3 D0 [P0 c] [N4 c k env caps bad] fun v own =>
  ∃ a' cp',v=.slice a' (Ds7 caps.length bad).length cp'∧own [slC false A6 2 a' (Ds7 caps.length bad).length cp' ((Ds7 caps.length bad).flatMap G8),N4 c k env caps bad]:=by
 refine Ct.of Ae3 rfl fun h r=>Tr.eq (Ef3 ..) ?_;refine Je ?_
 refine H6 false A6 2 (by omega) ?_
 have J:=Il6 c k env caps bad hs 5 1 [] none 0 (by omega) (by omega) (by simp)
 simp only [List.nil_append,List.length_nil,List.flatMap_nil] at J
 refine Yr J ?_
 intro v h q
 exact q
theorem Hq4 (c k:Nat) (F:Fr) (X:CX) (ok:FrOk F):Ct A3 D0 [P0 c] [cmC c k F X] fun v own =>
  ∃ a' cp',v=.slice a' (Ds7 F.caps.length X.bad).length cp'∧own [slC false A6 2 a' (Ds7 F.caps.length X.bad).length cp' ((Ds7 F.caps.length X.bad).flatMap G8),cmC c k F X]:=by
 intro h r o
 obtain ⟨u,o2⟩:=Own.unfold (cmC c k F X) o
 obtain ⟨v,h',e,a',cp',hv,o3⟩:=I72 c k F.env F.caps X.bad ok.small h _ (o2.picks [1] rfl)
 refine ⟨v,h',e,a',cp',hv,?_⟩
 have o4:=o3.picks [2,1,1] rfl
 exact (Own.shut (f:=fun _:Unit=>cmF c k F X) () o4).picks [1,0] rfl
abbrev F0:Fr:=frP S0 0 0
def X0:CX:=⟨Da1 S0.mem (rgP 0),[]⟩
theorem Bs1:FrOk F0:=Gy5 A77 Eq6
theorem Hn3 (A:PlA):Ct A3 Bp1 [.agg ⟨Ga6 Bd0 A⟩] (Du0 Bd0 A) fun v own =>
  ∃ k c w m,v=.tuple ⟨[P0 k,P0 c,P0 w,P0 m]⟩∧own [cmC c k F0 X0,rkC w K0,rcC m w 0 (Bz0 K0 0) []]:=by
 intro h r o
 obtain ⟨v,h',e,k,c,w,m,hv,o2⟩:=I31 A h r o
 refine ⟨v,h',e,k,c,w,m,hv,?_⟩
 exact Own.cmTake c k F0 [] Bs1 (Dw6 A77 (by omega) 0) o2
theorem I55 (a:Int):B4 .i64 a 16777215=a%16777216:=B37 a 24 (by omega)
theorem Iz7:(∀ y:Int,Int.fdiv y 4=y / 4)∧(∀ y:Int,Int.fdiv y 16=y / 16)∧(∀ y:Int,Int.fdiv y 32=y / 32)∧(∀ y:Int,Int.fdiv y 64=y / 64)∧(∀ y:Int,Int.fdiv y 256=y / 256)∧(∀ y:Int,Int.fdiv y 512=y / 512)∧(∀ y:Int,Int.fdiv y 2048=y / 2048)∧(∀ y:Int,Int.fdiv y 32768=y / 32768):=by
 refine ⟨?_,?_,?_,?_,?_,?_,?_,?_⟩<;>exact fun y=>Int.fdiv_eq_ediv_of_nonneg _ (by decide)
theorem Id2 {y m:Int} (h:0≤y):Int.tmod y m=y%m:=Int.tmod_eq_emod_of_nonneg h
theorem pw:((2:Int) ^ 4=16)∧((2:Int) ^ 5=32)∧((2:Int) ^ 8=256)∧((2:Int) ^ 11=2048)∧((2:Int) ^ 15=32768)∧((2:Int) ^ 2=4)∧((2:Int) ^ 6=64)∧((2:Int) ^ 9=512):=by decide
def fdS (q:ProcS) (i:Nat) (v:Int):ProcS:={ q with fds:=q.fds.set i v,len:=by rw [List.length_set];exact q.len }
theorem I74 (q:ProcS) (i:Nat) (v:Int) (h:i<8):B13 (B6 q) (8+i) (int v)=some (B6 (fdS q i v)):=by
 have e:Nat.blt (8+i) (B6 q).length=true:=by rw [Av7];exact Nat.ble_eq_true_of_le (by omega)
 rw [B13,e]
 have e2:(B6 q).set (8+i) (int v)=B6 (fdS q i v):=by
  rw [Nat.add_comm]
  simp [B6,fdS,List.map_set]
 rw [← e2];rfl
theorem I88 {q:ProcS} (h:okS q=true) (h1:¬ q.state=2) (i:Nat) {v:Int} (hv:0≤v∧v≤12):okS (fdS q i v)=true:=by
 unfold okS at h ⊢
 rw [if_neg h1] at h
 rw [if_neg (show ¬ (fdS q i v).state=2 from h1)]
 simp only [Bool.and_eq_true] at h ⊢
 refine ⟨h.1,h.2.1,?_,h.2.2.2⟩
 have:=h.2.2.1
 simp only [Bool.not_eq_true',List.any_eq_false,fdS] at this ⊢
 intro x hx
 rcases List.mem_or_eq_of_mem_set hx with h2|rfl
 ·exact this x h2
 ·simp;omega
theorem Ac4 {x:Int} (h:0≤x∧x<256):((b8 x).toNat:Int)=x:=by rw [← A13,B73];omega
theorem Hr9 {p:PipeS} (h:okP p=true):D7 (D3 p)=(p,1):=by
 have hk:=h
 simp only [okP,Bool.and_eq_true,decide_eq_true_eq] at h
 have e:An7 (D3 p)=p:=by
  obtain ⟨a,b,c,d,l,hl⟩:=p
  simp only at h
  have h1:=Ac4 (x:=a) (by omega);have h2:=Ac4 (x:=b) (by omega);have h3:=Ac4 (x:=c) (by omega);have h4:=Ac4 (x:=d) (by omega)
  simp [An7,D3,Ak9,D23 hl]
  exact ⟨h1,h2,h3,h4⟩
 have hz:(D3 p).all (·==0)=false:=by simp [D3,Ak9]
 unfold D7 isP
 rw [hz,e,hk]
 simp
theorem Go1 {l b:List UInt8} {a c n:Nat} (h:a+b.length≤l.length) (hd:c+n≤a∨a+b.length≤c):slice (B7 l a b) c n=slice l c n:=by
 refine List.ext_getElem? fun i=>?_
 rw [B38,B38]
 split
 ·rw [Bt1 h,if_neg (by omega)]
 ·rfl
theorem Gs5 {l b:List UInt8} {a:Nat} (h:a+b.length≤l.length):slice (B7 l a b) a b.length=b:=by
 refine List.ext_getElem? fun i=>?_
 rw [B38]
 split
 ·rw [Bt1 h,if_pos (by omega)];congr 1;omega
 ·rw [List.getElem?_eq_none (by omega)]
abbrev Ie9:List Int:=[256,257,258]
theorem G55 (n:Int):BitVec.ofInt 64 (IntKind.wrap .i64 n)=BitVec.ofInt 64 n:=by
 apply BitVec.eq_of_toNat_eq
 rw [BitVec.toNat_ofInt,BitVec.toNat_ofInt,A8];omega
theorem Hk1 (x:BitVec 64):BitVec.ofInt 64 (x.toNat:Int)=x:=by
 apply BitVec.eq_of_toNat_eq
 have:=x.isLt
 rw [BitVec.toNat_ofInt];omega
theorem Gm7 (a b:Int):BitVec.ofInt 64 (B4 .i64 a b)=BitVec.ofInt 64 a &&& BitVec.ofInt 64 b:=by
 unfold B4;rw [G55];exact Hk1 _
theorem Eo8 (a b:Int):BitVec.ofInt 64 (Q4 .i64 a b)=BitVec.ofInt 64 a &&& ~~~ BitVec.ofInt 64 b:=by
 unfold Q4;rw [G55];exact Hk1 _
theorem Dz4 {a b:Int} (h:BitVec.ofInt 64 a &&& BitVec.ofInt 64 b=0#64):B4 .i64 a b=0:=by
 unfold B4
 rw [show IntKind.bits .i64=64 from rfl,h];rfl
theorem Gq0 {a b:Int} (h:BitVec.ofInt 64 a &&& ~~~ BitVec.ofInt 64 b=0#64):Q4 .i64 a b=0:=by
 unfold Q4
 rw [show IntKind.bits .i64=64 from rfl,h];rfl
theorem bv1 (x b:BitVec 64):(x &&& b) &&& ~~~ b=0#64:=by
 apply BitVec.eq_of_getLsbD_eq;intro i hi
 simp only [BitVec.getLsbD_and,BitVec.getLsbD_not,BitVec.getLsbD_zero]
 cases x.getLsbD i<;>cases b.getLsbD i<;>simp
theorem bv2 (x b c:BitVec 64):(x &&& b &&& ~~~ c) &&& ~~~ b=0#64:=by
 apply BitVec.eq_of_getLsbD_eq;intro i hi
 simp only [BitVec.getLsbD_and,BitVec.getLsbD_not,BitVec.getLsbD_zero]
 cases x.getLsbD i<;>cases b.getLsbD i<;>simp
theorem bv3 (x c:BitVec 64):(x &&& ~~~ c) &&& c=0#64:=by
 apply BitVec.eq_of_getLsbD_eq;intro i hi
 simp only [BitVec.getLsbD_and,BitVec.getLsbD_not,BitVec.getLsbD_zero]
 cases x.getLsbD i<;>cases c.getLsbD i<;>simp
theorem bv4 (x b c g:BitVec 64):(x &&& b &&& ~~~ c &&& ~~~ g) &&& ~~~ b=0#64:=by
 apply BitVec.eq_of_getLsbD_eq;intro i hi
 simp only [BitVec.getLsbD_and,BitVec.getLsbD_not,BitVec.getLsbD_zero]
 cases x.getLsbD i<;>cases b.getLsbD i<;>simp
theorem bv5 (x c g:BitVec 64):(x &&& ~~~ c &&& ~~~ g) &&& c=0#64:=by
 apply BitVec.eq_of_getLsbD_eq;intro i hi
 simp only [BitVec.getLsbD_and,BitVec.getLsbD_not,BitVec.getLsbD_zero]
 cases x.getLsbD i<;>cases c.getLsbD i<;>simp
theorem bv6 (x g:BitVec 64):g &&& (x &&& ~~~ g)=0#64:=by
 apply BitVec.eq_of_getLsbD_eq;intro i hi
 simp only [BitVec.getLsbD_and,BitVec.getLsbD_not,BitVec.getLsbD_zero]
 cases x.getLsbD i<;>cases g.getLsbD i<;>simp
theorem H69 (a:Int):0≤B4 .i64 a 65534∧B4 .i64 a 65534≤65534:=by
 unfold B4
 rw [show IntKind.bits .i64=64 from rfl,BitVec.toNat_and]
 have:=Nat.and_le_right (n:=(BitVec.ofInt 64 a).toNat) (m:=(BitVec.ofInt 64 65534).toNat)
 have e:(BitVec.ofInt 64 65534).toNat=65534:=rfl
 rw [e] at this ⊢
 rw [A8];omega
theorem H73 {y:Int} (c:Int) (h:0≤y∧y≤65534):0≤Q4 .i64 y c∧Q4 .i64 y c≤65534:=by
 unfold Q4
 rw [show IntKind.bits .i64=64 from rfl,BitVec.toNat_and]
 have:=Nat.and_le_left (n:=(BitVec.ofInt 64 y).toNat) (m:=(~~~ BitVec.ofInt 64 c).toNat)
 have e:(BitVec.ofInt 64 y).toNat=y.toNat:=by rw [BitVec.toNat_ofInt];omega
 rw [e] at this ⊢
 rw [A8];omega
def nx (l:List Int) (k:Nat):Int:=if k>l.length then 7*k else l.getD (k-1) 0%16777216
theorem Hj4 (l:List Int) (k:Nat):0≤nx l k:=by unfold nx;split<;>omega
def stA (x:Int):Int:=if x=0 then 1 else if x=1 then 1 else if x=2 then 3 else 2
abbrev Hf6 (l:List Int):Int:=Q4 .i64 (B4 .i64 (nx l 2) 65534) 16896
abbrev Ea2 (l:List Int):Int:=Q4 .i64 (B4 .i64 (B4 .i64 (nx l 3) (nx l 4)) 65534) 16896
abbrev Hh2 (l:List Int):Int:=Q4 .i64 (Q4 .i64 (B4 .i64 (nx l 5) 65534) 16896) (Ea2 l)
abbrev Gr1 (l:List Int):Int:=B4 .i64 (B4 .i64 (nx l 6) (nx l 7)) 65534
abbrev Ga8 (l:List Int) (code pend:Int):ProcS:=⟨stA (nx l 1%4),nx l 1 / 4%16%9,nx l 1 / 64%8,code,pend,Hf6 l,Ea2 l,Hh2 l,Gc9,rfl⟩
def fdA (l:List Int):Nat→Nat→Nat→ProcS→ProcS
 | 0,_,_,q=>q
 | m+1,k,i,q=>fdA l m (k+1) (i+1) (if nx l (k+1)%4=0 then q else fdS q i (nx l (k+1) / 4%13))
def Dj4 (l:List Int):ProcS:=if stA (nx l 1%4)=2 then Ga8 l (nx l 1 / 512%256) 0 else fdA l 8 7 0 (Ga8 l 0 (Gr1 l))
structure InS (p:ProcS):Prop where
 a:0≤p.pending∧p.pending≤65535
 b:0≤p.mask∧p.mask≤65535
 c:0≤p.ignored∧p.ignored≤65535
 d:0≤p.caught∧p.caught≤65535
theorem Hs1 (l:List Int) (code pend:Int) (h:0≤pend∧pend≤65535):InS (Ga8 l code pend):=by
 have h1:0≤Hf6 l∧Hf6 l≤65534:=H73 16896 (H69 (nx l 2))
 have h2:0≤Ea2 l∧Ea2 l≤65534:=H73 16896 (H69 (B4 .i64 (nx l 3) (nx l 4)))
 have h3:0≤Hh2 l∧Hh2 l≤65534:=H73 (Ea2 l) (H73 16896 (H69 (nx l 5)))
 exact ⟨h,by simp only;omega,by simp only;omega,by simp only;omega⟩
theorem Hr1 (l:List Int) (code pend:Int) (hp:Ap8 pend 0=true) (hs:if stA (nx l 1%4)=2 then pend=0∧0≤code∧code≤255 else code=0):okS (Ga8 l code pend)=true:=by
 have n0:=Hj4 l 1
 have hst:1≤stA (nx l 1%4)∧stA (nx l 1%4)≤3:=by unfold stA;(repeat' split)<;>omega
 have b1:Ap8 (Hf6 l) 16896=true:=by
  unfold Ap8
  rw [Gq0 (by rw [Eo8,Gm7];exact bv2 _ _ _),Dz4 (by rw [Eo8,Gm7];exact bv3 _ _)];rfl
 have b2:Ap8 (Ea2 l) 16896=true:=by
  unfold Ap8
  rw [Gq0 (by rw [Eo8,Gm7 _ 65534];exact bv2 _ _ _),Dz4 (by rw [Eo8,Gm7];exact bv3 _ _)];rfl
 have b3:Ap8 (Hh2 l) 16896=true:=by
  unfold Ap8
  rw [Gq0 (by rw [Eo8 _ (Ea2 l),Eo8 _ 16896,Gm7];exact bv4 _ _ _ _),Dz4 (by rw [Eo8 _ (Ea2 l),Eo8 _ 16896];exact bv5 _ _ _)];rfl
 have b4:B4 .i64 (Ea2 l) (Hh2 l)=0:=Dz4 (by rw [Eo8 _ (Ea2 l)];exact bv6 _ _)
 unfold okS
 simp only [b1,b2,b3,b4,hp]
 by_cases h2:stA (nx l 1%4)=2
 ·rw [if_pos h2] at hs
  rw [if_pos h2]
  obtain ⟨rfl,hc⟩:=hs
  simp;omega
 ·rw [if_neg h2] at hs
  rw [if_neg h2]
  subst hs
  simp;omega
theorem Hj8 {p:ProcS} (h:okS p=true) (r:InS p):H2 (M6 p)=(p,1):=by
 have hk:=h
 obtain ⟨ra,rb,rc,rd⟩:=r
 have e:An8 (M6 p)=p:=by
  obtain ⟨st,pa,gr,co,pe,ma,ig,ca,fds,hl⟩:=p
  simp only at ra rb rc rd
  unfold okS at h
  simp only [Bool.and_eq_true,Bool.not_eq_true',Bool.or_eq_false_iff,decide_eq_false_iff_not,List.any_eq_false] at h
  match fds,hl with
  | [f0,f1,f2,f3,f4,f5,f6,f7],hl =>
   have hf:=h.2.2.1
   simp at hf
   have two_b:∀ n:Int,0≤n∧n≤65535→((hi2 n).toNat:Int)*256+((lo2 n).toNat:Int)=n:=fun n hn=>by
    unfold hi2 lo2
    rw [if_pos hn,if_pos hn,Ac4 (by omega),← A13,B73];omega
   have g0:=h.1
   simp only [An8,M6,Au5,two]
   simp
   refine ⟨Ac4 (by omega),Ac4 (by omega),Ac4 (by omega),Ac4 (by omega),two_b _ ra,two_b _ rb,two_b _ rc,two_b _ rd,Ac4 (by omega),Ac4 (by omega),Ac4 (by omega),Ac4 (by omega),Ac4 (by omega),Ac4 (by omega),Ac4 (by omega),Ac4 (by omega)⟩
 have hz:(M6 p).all (·==0)=false:=by
  simp [M6,Au5]
 unfold H2 isS
 rw [hz,e,hk]
 simp
theorem Hk3 (l:List Int):∀ (m k i:Nat) (q:ProcS),okS q=true→¬ q.state=2→InS q→okS (fdA l m k i q)=true∧InS (fdA l m k i q)
 | 0,_,_,q,h,_,r=>⟨h,r⟩
 | m+1,k,i,q,h,h2,r=>by
  unfold fdA
  split
  ·exact Hk3 l m _ _ _ h h2 r
  ·exact Hk3 l m _ _ _ (I88 h h2 i (by omega)) h2 ⟨r.a,r.b,r.c,r.d⟩
theorem Ii5:Ap8 0 0=true:=by kernel_rfl
theorem Iv5 (l:List Int):okS (Dj4 l)=true∧InS (Dj4 l):=by
 have hp:0≤Gr1 l∧Gr1 l≤65534:=H69 (B4 .i64 (nx l 6) (nx l 7))
 unfold Dj4
 split
 ·rename_i h
  exact ⟨Hr1 l _ 0 Ii5 (by rw [if_pos h];exact ⟨rfl,by omega,by omega⟩),Hs1 l _ 0 (by omega)⟩
 ·rename_i h
  refine Hk3 l 8 7 0 _ (Hr1 l 0 _ ?_ (by rw [if_neg h])) h (Hs1 l 0 _ (by omega))
  unfold Ap8
  rw [Gq0 (by rw [Gm7 _ 65534];exact bv1 _ _),Dz4 (by simp)];rfl
theorem H29 {p:ProcS} (r:InS p):Ee2 p=M6 p:=by
 have e:∀ n:Int,0≤n∧n≤65535→Gl6 n=put2 n:=fun n h=>by unfold Gl6 put2 hi2 lo2;rw [if_pos h,if_pos h]
 unfold Ee2 M6 Hg0 Au5
 rw [e _ r.a,e _ r.b,e _ r.c,e _ r.d]
theorem B43 (bn bz:Nat) (p:HP) (a:Option Addr) (ro:Bool) (c:Nat) (l:List Int) [ks:IsSl p a ro B2 1 l.length c (l.map int)] (n:Nat) (hn:n≤1000) :
  Ct A3 I2 [P0 bn,P0 bz] [pt bn (.cells B2 false [int n]),pt bz (.cells L0 false [.slice a l.length c]),p] fun v own=>v=int (nx l (n+1))∧own [pt bn (.cells B2 false [int ((n+1:Nat):Int)]),pt bz (.cells L0 false [.slice a l.length c]),p]:=by
 have e1:=wN n
 refine Ct.of G10 rfl fun h r=>Tr.eq (G08 ..) ?_;refine Je ?_
 (refine Ja ?_;intros)
 simp only [e1,List.set_cons_zero]
 by_cases hg:n+1>l.length
 ·refine Yt (by simp;omega) ?_
  (refine Ja ?_;intros)
  refine Ys fun o=>?_
  have:nx l (n+1)=7*((n+1:Nat):Int):=by unfold nx;rw [if_pos hg]
  refine ⟨?_,o.sub⟩
  rw [this];congr 1;rw [A8];omega
 ·refine Yf (by simp;omega) ?_
  have hx:(l.map int)[n]?=some (int (l.getD n 0)):=by rw [List.getElem?_map,M7 0 (show n<l.length by omega)];rfl
  have e2:IntKind.wrap .i64 (((n+1:Nat):Int)-1)=(n:Int):=by rw [A8];omega
  (refine Ja ?_;intros;repeat(refine Gw ?_;rintro px rfl;refine Ja ?_;intros))
  rw [e2,Int.toNat_natCast]
  (refine Ja ?_;intros)
  refine Ys fun o=>?_
  have:nx l (n+1)=l.getD n 0%16777216:=by unfold nx;rw [if_neg hg];rfl
  rw [this,I55]
  exact ⟨rfl,o.sub⟩
theorem H12 (bn bz bq bx:Nat) (z:ProcS) (p:HP) (a:Option Addr) (ro:Bool) (c:Nat) (l:List Int) [ks:IsSl p a ro B2 1 l.length c (l.map int)]:∀ (m i k:Nat) (q:ProcS),i+m=8→k≤100+i →
  CtJ E2 Ah8 A23 [(2,P0 bx),(4,.func (.func I2) ⟨[]⟩ ⟨[P0 bn,P0 bz]⟩),(6,P0 bq),(7,int i)] [pt bn (.cells B2 false [int k]),pt bz (.cells L0 false [.slice a l.length c]),pt bq (.cells B1 false (B6 q)),pt bx (.cells B1 false (B6 z)),p] fun v own=>v=.agg ⟨B6 (fdA l m k i q)⟩∧own [p]:=by
 intro m
 induction m with
 | zero =>
  intro i k q hi hk
  refine CtJ.of D22 fun h r=>Tr.eq (D54 ..) ?_;refine Je ?_
  refine Yf (by simp;omega) ?_
  (refine Ja ?_;intros)
  refine Ys fun o=>?_
  exact ⟨rfl,o.sub⟩
 | succ m ih =>
  intro i k q hi hk
  have e1:=wN i
  refine CtJ.of D22 fun h r=>Tr.eq (D54 ..) ?_;refine Je ?_
  refine Yt (by simp;omega) ?_
  simp only [Ht4,Iz7,pw]
  refine Yc (B43 bn bz p a ro c l k (by omega)) ?_;rintro _ h ⟨rfl,o⟩<;>(refine Jf o ?_;intros)
  rw [e1,Id2 (show 0≤nx l (k+1) / 4 by have:=Hj4 l (k+1);omega)]
  have ef:fdA l (m+1) k i q=fdA l m (k+1) (i+1) (if nx l (k+1)%4=0 then q else fdS q i (nx l (k+1) / 4%13)):=rfl
  rw [ef]
  by_cases h4:nx l (k+1)%4=0
  ·refine Yf (by simpa using h4) ?_
   rw [if_pos h4]
   refine Yr (ih (i+1) (k+1) q (by omega) (by omega)) ?_
   intro v h q
   exact q
  ·refine Yt (by simpa using h4) ?_
   rw [if_neg h4]
   (refine Ja ?_;intros)
   rw [Int.toNat_natCast]
   refine Gs (fun h=>?_) (by exact I74 q i (nx l (k+1) / 4%13) (by omega))
   refine Yr (ih (i+1) (k+1) (fdS q i (nx l (k+1) / 4%13)) (by omega) (by omega)) ?_
   intro v h q
   exact q
theorem It4 (p:HP) (a:Option Addr) (ro:Bool) (c:Nat) (l:List Int) [ks:IsSl p a ro B2 1 l.length c (l.map int)]:Ct A3 Ah8 [.slice a l.length c] [p] fun v own=>v=.agg ⟨B6 (Dj4 l)⟩∧own [p]:=by
 have n1:=Hj4 l 1
 have hst:([int 1,int 1,int 3,int 2]:List Value)[(nx l 1%4).toNat]?=some (int (stA (nx l 1%4))):=by
  have:nx l 1%4=0∨nx l 1%4=1∨nx l 1%4=2∨nx l 1%4=3:=by omega
  rcases this with h|h|h|h<;>rw [h]<;>rfl
 refine Ct.of D22 rfl fun h r=>Tr.eq (Hn9 ..) ?_;refine Je ?_
 refine Yn fun bz h=>?_
 refine Yn fun bx h=>?_
 refine Yn fun bn h=>?_
 simp only [Ht4,I26,I79,Dv7,Iz7,pw]
 (refine Ja ?_;intros)
 simp only [List.set_cons_zero]
 refine Yc (B43 bn bz p a ro c l 0 (by omega)) ?_;rintro _ h ⟨rfl,o⟩<;>refine Jh o ?_
 refine Tr.dx ?_
 refine Yn fun b4 h=>?_
 refine Tr.ck (by omega) ?_
 refine Tr.xInt hst ?_
 refine Yn fun bq h=>?_
 rw [Id2 (show 0≤nx l (0+1) / 4%16 by omega)]
 (refine Ja ?_;intros)
 refine Yc (B43 bn bz p a ro c l 1 (by omega)) ?_;rintro _ h ⟨rfl,o⟩<;>(refine Jf o ?_;intros)
 refine Yc (B43 bn bz p a ro c l 2 (by omega)) ?_;rintro _ h ⟨rfl,o⟩<;>(refine Jf o ?_;intros)
 refine Yc (B43 bn bz p a ro c l 3 (by omega)) ?_;rintro _ h ⟨rfl,o⟩<;>(refine Jf o ?_;intros)
 refine Yc (B43 bn bz p a ro c l 4 (by omega)) ?_;rintro _ h ⟨rfl,o⟩<;>(refine Jf o ?_;intros)
 by_cases h2:stA (nx l 1%4)=2
 ·refine Yt (by simpa using h2) ?_
  (refine Ja ?_;intros)
  refine Ys fun o=>?_
  unfold Dj4
  rw [if_pos h2]
  exact ⟨rfl,o.sub⟩
 ·refine Yf (by simpa using h2) ?_
  refine Yc (B43 bn bz p a ro c l 5 (by omega)) ?_;rintro _ h ⟨rfl,o⟩<;>(refine Jf o ?_;intros)
  refine Yc (B43 bn bz p a ro c l 6 (by omega)) ?_;rintro _ h ⟨rfl,o⟩<;>(refine Jf o ?_;intros)
  have ea:Dj4 l=fdA l 8 7 0 (Ga8 l 0 (Gr1 l)):=by unfold Dj4;rw [if_neg h2]
  rw [ea]
  refine H7 [0,0,1,2,0] 1 rfl rfl ?_
  refine Dv2 (H12 bn bz bq bx .zero p a ro c l 8 0 7 (Ga8 l 0 (Gr1 l)) rfl (by omega)) [0,0,0,0,0] rfl ?_
  intro v h q
  exact q
def stR (kind:Int) (l:List UInt8):Int:=if kind=1 then (H2 l).2 else if kind=2 then (J7 l).2 else if kind=5 then (S5 l).2 else (D7 l).2
def rd (X:CX) (r:RecS):List UInt8 :=
 match E3 X.m.length r with
 | some (j,a,n)=>slice (X.m.getD j []) a n
 | none=>[]
structure Clean (nc:Nat) (X:CX):Prop where
 len:X.m.length=nc
 pos:0<nc
 bad:X.bad=[]
 own:(X.m.getD 0 []).length=492
 brs:∀ j,0<j→j<nc→(X.m.getD j []).length=40
 ok:∀ r:RecS,1≤r.kind→r.kind≤5→0≤r.index→r.index<I1 nc r.kind→stR r.kind (rd X r)≠2
structure Rin (nc:Nat) (r:RecS):Prop where
 a:1≤r.kind
 b:r.kind≤5
 c:0≤r.index
 d:r.index<I1 nc r.kind
theorem Rin.place {nc:Nat} {r:RecS} (h:Rin nc r) (hn:0<nc):∃ j a,E3 nc r=some (j,a,O6 r.kind)∧j<nc∧(j=0→a+O6 r.kind≤492)∧(0<j→a=0∧O6 r.kind=40):=by
 obtain ⟨h1,h2,h3,h4⟩:=h
 obtain ⟨k,i⟩:=r
 simp only at h1 h2 h3 h4
 have hk:k=1∨k=2∨k=3∨k=4∨k=5:=by omega
 unfold E3 O6
 simp only
 rw [if_neg (by omega)]
 rcases hk with rfl|rfl|rfl|rfl|rfl
 ·exact ⟨0,_,rfl,hn,fun _=>by simp [I1] at h4 ⊢;omega,fun h=>by omega⟩
 ·exact ⟨0,_,rfl,hn,fun _=>by simp [I1] at h4 ⊢;omega,fun h=>by omega⟩
 ·simp only [I1] at h4
  by_cases h5:i<4
  ·exact ⟨0,_,by simp [h5];rfl,hn,fun _=>by simp;omega,fun h=>by omega⟩
  ·exact ⟨i.toNat-3,0,by simp [h5],by simp at h4;omega,fun h=>by omega,fun _=>⟨rfl,rfl⟩⟩
 ·exact ⟨0,_,rfl,hn,fun _=>by simp,fun h=>by omega⟩
 ·exact ⟨0,_,rfl,hn,fun _=>by simp,fun h=>by omega⟩
theorem Iv1 {nc:Nat} {r r':RecS} (h:Rin nc r) (h':Rin nc r') (ne:r≠r') {j a n j' a' n':Nat} (e:E3 nc r=some (j,a,n)) (e':E3 nc r'=some (j',a',n')):j≠j'∨a+n≤a'∨a'+n'≤a:=by
 obtain ⟨h1,h2,h3,h4⟩:=h
 obtain ⟨g1,g2,g3,g4⟩:=h'
 obtain ⟨k,i⟩:=r
 obtain ⟨k',i'⟩:=r'
 simp only at h1 h2 h3 h4 g1 g2 g3 g4
 have ne':k≠k'∨i≠i':=by
  by_cases hk:k=k'
  ·right;intro hi;exact ne (by rw [hk,hi])
  ·exact .inl hk
 unfold E3 at e e'
 simp only at e e'
 rw [if_neg (by omega)] at e e'
 unfold I1 at h4 g4
 have hk:k=1∨k=2∨k=3∨k=4∨k=5:=by omega
 have hk':k'=1∨k'=2∨k'=3∨k'=4∨k'=5:=by omega
 have fin:∀ {x y:Nat × Nat × Nat},some x=some y→x=y:=fun h=>by cases h;rfl
 rcases hk with rfl|rfl|rfl|rfl|rfl<;>rcases hk' with rfl|rfl|rfl|rfl|rfl<;>simp at e e' h4 g4 ne'<;>(try split at e)<;>(try split at e')<;>(try simp at e e')<;>omega
def setR (X:CX) (r:RecS) (b:List UInt8):CX :=
 match E3 X.m.length r with
 | some (j,a,_)=>{ X with m:=X.m.set j (B7 (X.m.getD j []) a b) }
 | none=>X
theorem Gp1 (l:List (List UInt8)) (j j':Nat) (x:List UInt8) (h:j<l.length):(l.set j x).getD j' []=if j'=j then x else l.getD j' []:=by
 rw [List.getD_eq_getElem?_getD,List.getD_eq_getElem?_getD,List.getElem?_set]
 by_cases hj:j=j'
 ·subst hj;simp [h]
 ·rw [if_neg hj,if_neg (fun e=>hj e.symm)]
section
variable {nc:Nat} {X:CX} (c:Clean nc X) {r r':RecS} (h:Rin nc r) (h':Rin nc r')
include c h
theorem Ii8:rdX X r=some (rd X r):=by
 obtain ⟨j,a,e,_⟩:=h.place c.pos
 unfold rdX rd
 rw [c.len,e]
 simp [c.bad]
theorem B49 (b:List UInt8):wrX X r b true=(true,setR X r b):=by
 obtain ⟨j,a,e,_⟩:=h.place c.pos
 unfold wrX setR
 rw [c.len,e]
 simp [c.bad]
theorem E62 {j a n:Nat} (e:E3 nc r=some (j,a,n)):a+n≤(X.m.getD j []).length∧j<X.m.length∧n=O6 r.kind:=by
 obtain ⟨j',a',e',hj,h0,h1⟩:=h.place c.pos
 rw [e] at e';cases e'
 rw [c.len]
 by_cases hz:j=0
 ·subst hz;rw [c.own];exact ⟨h0 rfl,hj,rfl⟩
 ·rw [c.brs j (by omega) hj]
  have:=h1 (by omega)
  exact ⟨by omega,hj,rfl⟩
include h'
theorem Ad7 {b:List UInt8} (hb:b.length=O6 r.kind):rd (setR X r b) r'=if r'=r then b else rd X r':=by
 obtain ⟨j,a,e,_⟩:=h.place c.pos
 obtain ⟨j',a',e',_⟩:=h'.place c.pos
 have p:=E62 c h e
 have p':=E62 c h' e'
 have es:setR X r b={ X with m:=X.m.set j (B7 (X.m.getD j []) a b) }:=by unfold setR;rw [c.len,e]
 have el:(setR X r b).m.length=nc:=by rw [es];simp [c.len]
 unfold rd
 rw [el,e',c.len,e',es]
 simp only
 rw [Gp1 _ _ _ _ p.2.1]
 by_cases hr:r'=r
 ·subst hr
  rw [e] at e';cases e'
  rw [if_pos rfl,if_pos rfl]
  have:=Gs5 (l:=X.m.getD j []) (b:=b) (a:=a) (by omega)
  rwa [hb] at this
 ·rw [if_neg hr]
  by_cases hj:j'=j
  ·subst hj
   rw [if_pos rfl]
   have dj:=Iv1 h' h hr e' e
   exact Go1 (by omega) (by omega)
  ·rw [if_neg hj]
end
theorem B36 {nc:Nat} {X:CX} (c:Clean nc X) {r:RecS} (h:Rin nc r) {b:List UInt8} (hb:b.length=O6 r.kind) (hs:stR r.kind b≠2):Clean nc (setR X r b):=by
 obtain ⟨j,a,e,_⟩:=h.place c.pos
 have p:=E62 c h e
 have es:setR X r b={ X with m:=X.m.set j (B7 (X.m.getD j []) a b) }:=by unfold setR;rw [c.len,e]
 refine ⟨by rw [es];simp [c.len],c.pos,by rw [es];exact c.bad,?_,?_,?_⟩
 ·rw [es];simp only
  rw [Gp1 _ _ _ _ p.2.1]
  split
  ·rename_i h0;subst h0;rw [Q3 (by omega)];exact c.own
  ·exact c.own
 ·intro i h0 h1
  rw [es];simp only
  rw [Gp1 _ _ _ _ p.2.1]
  split
  ·rename_i h2;subst h2;rw [Q3 (by omega)];exact c.brs i h0 h1
  ·exact c.brs i h0 h1
 ·intro r' h1 h2 h3 h4
  rw [Ad7 c h ⟨h1,h2,h3,h4⟩ hb]
  split
  ·rename_i hr;rw [hr];exact hs
  ·exact c.ok r' h1 h2 h3 h4
theorem Dm9 {α:Type} (dec:List UInt8→α × Int) (z:α) {nc:Nat} {X:CX} (c:Clean nc X) {r:RecS} (h:Rin nc r) (hd:(dec (rd X r)).2=stR r.kind (rd X r)):M0 dec z X r=(dec (rd X r),X):=by
 unfold M0
 rw [Ii8 c h]
 simp only
 rw [if_neg (by rw [hd];exact c.ok r h.a h.b h.c h.d)]
abbrev vS (X:CX) (i:Int):ProcS × Int:=H2 (rd X ⟨1,i⟩)
abbrev vF (X:CX) (i:Int):FileS × Int:=J7 (rd X ⟨2,i⟩)
abbrev vP (X:CX) (i:Int):PipeS × Int:=D7 (rd X ⟨3,i⟩)
theorem Bj9 {nc:Nat} {i:Int} (h:0≤i∧i<8):Rin nc ⟨1,i⟩:=⟨by simp,by simp,h.1,h.2⟩
theorem Bj8 {nc:Nat} {i:Int} (h:0≤i∧i<12):Rin nc ⟨2,i⟩:=⟨by simp,by simp,h.1,h.2⟩
theorem Bk0 {nc:Nat} {i:Int} (h:0≤i∧i<3+nc):Rin nc ⟨3,i⟩:=⟨by simp,by simp,h.1,h.2⟩
theorem Di7 {nc:Nat} {X:CX} (c:Clean nc X) {i:Int} (h:0≤i∧i<8):Dj7 X i=(vS X i,X):=Dm9 H2 .zero c (Bj9 h) rfl
theorem Ed3 {nc:Nat} {X:CX} (c:Clean nc X) {i:Int} (h:0≤i∧i<12):D52 X i=(vF X i,X):=Dm9 J7 .zero c (Bj8 h) rfl
theorem H03 {nc:Nat} {X:CX} (c:Clean nc X) {i:Int} (h:0≤i∧i<3+nc):D77 X i=(vP X i,X):=Dm9 D7 .zero c (Bk0 h) rfl
theorem Ar7 {f:CX→Int→CX} {X:CX}:∀ (m:Nat) (i:Int),(∀ j,i≤j→j<i+m→f X j=X)→Al0 f m i X=X
 | 0,_,_=>rfl
 | m+1,i,h=>by
  unfold Al0
  rw [h i (by omega) (by omega)]
  exact Ar7 m (i+1) fun j h1 h2=>h j (by omega) (by omega)
theorem Gy1 {nc:Nat} {X:CX} (c:Clean nc X):D68 X=X:=by
 have h3:E35 X=X:=by
  unfold E35
  have e1:Ej9 X=(D7 (rd X ⟨4,0⟩),X):=Dm9 D7 .zero c ⟨by simp,by simp,by simp,by simp [I1]⟩ rfl
  have e2:Ei5 X=(S5 (rd X ⟨5,0⟩),X):=Dm9 S5 0 c ⟨by simp,by simp,by simp,by simp [I1]⟩ rfl
  rw [e1];simp only;rw [e2]
 have hl:=c.len
 unfold D68 lookN Gs8 Gv4
 rw [Ar7 8 0 (fun j h1 h2=>by rw [Di7 c (by omega)])]
 rw [Ar7 12 0 (fun j h1 h2=>by rw [Ed3 c (by omega)])]
 rw [Ar7 (3+X.m.length) 0 (fun j h1 h2=>by rw [H03 c (by omega)]),h3]
theorem Hq5 {f:FileS} (h:okF f=true):J7 (Ag6 f)=(f,1):=by
 have hk:=h
 simp only [okF,Bool.and_eq_true,Bool.or_eq_true,decide_eq_true_eq,beq_iff_eq,bne_iff_ne] at h
 have e:Bj5 (Ag6 f)=f:=by
  obtain ⟨a,b,c,d⟩:=f
  simp only at h
  have h1:=Ac4 (x:=a) (by omega);have h2:=Ac4 (x:=b) (by omega);have h3:=Ac4 (x:=c) (by omega);have h4:=Ac4 (x:=d) (by omega)
  simp [Bj5,Ag6,Bc5]
  exact ⟨h1,h2,h3,h4⟩
 have hz:(Ag6 f).all (·==0)=false:=by simp [Ag6,Bc5]
 unfold J7 isF
 rw [hz,e,hk]
 simp
section
variable {nc:Nat} {X:CX} (c:Clean nc X)
include c
abbrev Dh4 (X:CX) (i:Int) (p:ProcS):CX:=setR X ⟨1,i⟩ (M6 p)
abbrev Bk1 (X:CX) (i:Int) (f:FileS):CX:=setR X ⟨2,i⟩ (Ag6 f)
abbrev Go0 (X:CX) (i:Int):CX:=setR X ⟨1,i⟩ (List.replicate 24 0)
theorem Br9 {i:Int} (h:0≤i∧i<8) {p:ProcS} (ok:okS p=true) (r:InS p) :
  B27 X i p=(true,Dh4 X i p)∧Clean nc (Dh4 X i p)∧(∀ j:Int,0≤j∧j<8→vS (Dh4 X i p) j=if j=i then (p,1) else vS X j)∧(∀ j:Int,0≤j∧j<12→vF (Dh4 X i p) j=vF X j)∧(∀ j:Int,0≤j∧j<3+nc→vP (Dh4 X i p) j=vP X j):=by
 have hl:(M6 p).length=O6 (1:Int):=by rw [Bg1];rfl
 refine ⟨by unfold B27;rw [ok];exact B49 c (Bj9 h) _,B36 c (Bj9 h) hl (by show (H2 (M6 p)).2≠2;rw [Hj8 ok r];simp),fun j hj=>?_,fun j hj=>?_,fun j hj=>?_⟩
 ·show H2 (rd _ _)=_
  rw [Ad7 c (Bj9 h) (Bj9 hj) hl]
  by_cases e:j=i
  ·rw [if_pos (by rw [e]),if_pos e];exact Hj8 ok r
  ·rw [if_neg (by simp [e]),if_neg e]
 ·show J7 (rd _ _)=_
  rw [Ad7 c (Bj9 h) (Bj8 hj) hl,if_neg (by simp)]
 ·show D7 (rd _ _)=_
  rw [Ad7 c (Bj9 h) (Bk0 hj) hl,if_neg (by simp)]
theorem Aw5 {i:Int} (h:0≤i∧i<12) {f:FileS} (ok:okF f=true) :
  Bo8 X i f=(true,Bk1 X i f)∧Clean nc (Bk1 X i f)∧(∀ j:Int,0≤j∧j<8→vS (Bk1 X i f) j=vS X j)∧(∀ j:Int,0≤j∧j<12→vF (Bk1 X i f) j=if j=i then (f,1) else vF X j)∧(∀ j:Int,0≤j∧j<3+nc→vP (Bk1 X i f) j=vP X j):=by
 have hl:(Ag6 f).length=O6 (2:Int):=by rw [D24];rfl
 refine ⟨by unfold Bo8;rw [ok];exact B49 c (Bj8 h) _,B36 c (Bj8 h) hl (by show (J7 (Ag6 f)).2≠2;rw [Hq5 ok];simp),fun j hj=>?_,fun j hj=>?_,fun j hj=>?_⟩
 ·show H2 (rd _ _)=_
  rw [Ad7 c (Bj8 h) (Bj9 hj) hl,if_neg (by simp)]
 ·show J7 (rd _ _)=_
  rw [Ad7 c (Bj8 h) (Bj8 hj) hl]
  by_cases e:j=i
  ·rw [if_pos (by rw [e]),if_pos e];exact Hq5 ok
  ·rw [if_neg (by simp [e]),if_neg e]
 ·show D7 (rd _ _)=_
  rw [Ad7 c (Bj8 h) (Bk0 hj) hl,if_neg (by simp)]
theorem G53 {i:Int} (h:0≤i∧i<8) :
  Ds5 X ⟨1,i⟩=(true,Go0 X i)∧Clean nc (Go0 X i)∧(∀ j:Int,0≤j∧j<8→vS (Go0 X i) j=if j=i then (.zero,0) else vS X j)∧(∀ j:Int,0≤j∧j<12→vF (Go0 X i) j=vF X j)∧(∀ j:Int,0≤j∧j<3+nc→vP (Go0 X i) j=vP X j):=by
 have hl:(List.replicate 24 (0:UInt8)).length=O6 (1:Int):=rfl
 refine ⟨B49 c (Bj9 h) _,B36 c (Bj9 h) hl (by show (H2 (List.replicate 24 0)).2≠2;rw [show (H2 (List.replicate 24 0))=(.zero,0) from rfl];simp),fun j hj=>?_,fun j hj=>?_,fun j hj=>?_⟩
 ·show H2 (rd _ _)=_
  rw [Ad7 c (Bj9 h) (Bj9 hj) hl]
  by_cases e:j=i
  ·rw [if_pos (by rw [e]),if_pos e];rfl
  ·rw [if_neg (by simp [e]),if_neg e]
 ·show J7 (rd _ _)=_
  rw [Ad7 c (Bj9 h) (Bj8 hj) hl,if_neg (by simp)]
 ·show D7 (rd _ _)=_
  rw [Ad7 c (Bj9 h) (Bk0 hj) hl,if_neg (by simp)]
theorem I07 {i:Int} (h:0≤i∧i<8):((vS X i).2=0∧(vS X i).1=.zero)∨((vS X i).2=1∧okS (vS X i).1=true):=by
 have:=c.ok ⟨1,i⟩ (by simp) (by simp) h.1 h.2
 have hk:(vS X i).2≠2:=this
 unfold vS H2 at hk ⊢
 split
 ·exact .inl ⟨rfl,rfl⟩
 ·split
  ·rename_i h2
   unfold isS at h2
   simp only [Bool.and_eq_true] at h2
   exact .inr ⟨rfl,h2.1⟩
  ·rename_i h1 h2;simp [h1,h2] at hk
theorem I12 {i:Int} (h:0≤i∧i<12):((vF X i).2=0∧(vF X i).1=.zero)∨((vF X i).2=1∧okF (vF X i).1=true):=by
 have:=c.ok ⟨2,i⟩ (by simp) (by simp) h.1 h.2
 have hk:(vF X i).2≠2:=this
 unfold vF J7 at hk ⊢
 split
 ·exact .inl ⟨rfl,rfl⟩
 ·split
  ·rename_i h2
   unfold isF at h2
   simp only [Bool.and_eq_true] at h2
   exact .inr ⟨rfl,h2.1⟩
  ·rename_i h1 h2;simp [h1,h2] at hk
end
abbrev Q5 (n e:Int) (b:Bool):List Value:=[int n,int e,.slice none 0 0,.bool b]
theorem Bi9 (e:Int):Ct A3 Q8 [int e] [] fun v own=>v=.agg ⟨Q5 0 e false⟩∧own []:=by
 refine Ct.of Hy6 rfl fun h r=>Tr.eq (H19 ..) ?_;refine Je ?_
 (refine Ja ?_;intros)
 refine Ys fun o=>?_
 exact ⟨rfl,o.sub⟩
theorem H42 (ok:Bool) (n:Int):Ct A3 Av6 [.bool ok,int n] [] fun v own=>v=.agg ⟨if ok then Q5 n 0 false else Q5 0 105 false⟩∧own []:=by
 refine Ct.of H16 rfl fun h r=>Tr.eq (Hx9 ..) ?_;refine Je ?_
 cases ok with
 | true =>
  (refine Ja ?_;intros)
  refine Ys fun o=>?_
  exact ⟨rfl,o.sub⟩
 | false =>
  (refine Ja ?_;intros)
  refine Yc (Bi9 105) ?_;rintro _ h ⟨rfl,o⟩<;>(refine Jf o ?_;intros)
  refine Ys fun o=>?_
  exact ⟨rfl,o.sub⟩
def O7 (X:CX) (i:Int):ProcS × Int:=if (vS X i).2=1∧(vS X i).1.state=1 then ((vS X i).1,0) else (.zero,105)
theorem G56 (b k:Nat) (F:Fr) (X:CX) (ok:FrOk F) {nc:Nat} (c:Clean nc X) (i:Int) (hi:0≤i∧i<8):Ct A3 Ac2 [P0 b,int i] [cmC b k F X] fun v own=>v=.tuple ⟨[.agg ⟨B6 (O7 X i).1⟩,int (O7 X i).2]⟩∧own [cmC b k F X]:=by
 refine Ct.of Gg4 rfl fun h r=>Tr.eq (Gh0 ..) ?_;refine Je ?_
 (refine Jc ?_;intros)
 refine Yn fun b0 h=>?_
 refine Yc (H47 b k F X ok) ?_;rintro _ h ⟨rfl,o⟩<;>refine Jh o ?_
 rw [Gy1 c]
 (refine Ja ?_;intros)
 refine Yc (D03 b k F X ok i) ?_;rintro _ h ⟨rfl,o⟩<;>refine Jh o ?_
 rw [Di7 c hi]
 dsimp only
 (refine Jc ?_;intros)
 refine Yn fun b1 h=>?_
 (refine Jb ?_;intros)
 refine Tr.orG (c:=(vS X i).1.state != 1) (fun hb=>?_) ?_
 ·exact Jz
 unfold O7
 by_cases h1:(vS X i).2=1∧(vS X i).1.state=1
 ·rw [if_pos h1]
  refine Yf (by simp [h1.1,h1.2]) ?_
  (refine Ja ?_;intros)
  refine Ys fun o=>?_
  exact ⟨rfl,o.sub⟩
 ·rw [if_neg h1]
  refine Yt (by simp;by_cases h2:(vS X i).2=1<;>simp [h2] at h1 ⊢;exact h1) ?_
  (refine Ja ?_;intros)
  refine Ys fun o=>?_
  exact ⟨rfl,o.sub⟩
def Ak3 (X:CX):Nat→Int→Int
 | 0,_=>-1
 | m+1,i=>if (vS X i).2=0 then i else Ak3 X m (i+1)
theorem Ic8 (b k:Nat) (F:Fr) (X:CX) (ok:FrOk F) {nc:Nat} (c:Clean nc X):∀ (m:Nat) (i:Int),0≤i→i+m=8 →
  CtJ E2 Aw0 Bs9 [(0,P0 b),(6,int i)] [cmC b k F X] fun v own=>v=int (Ak3 X m i)∧own [cmC b k F X]:=by
 intro m
 induction m with
 | zero =>
  intro i h0 hi
  refine CtJ.of Ed4 fun h r=>Tr.eq (Ef4 ..) ?_;refine Je ?_
  refine Yf (by simp;omega) ?_
  refine Ys fun o=>?_
  exact ⟨rfl,o.sub⟩
 | succ m ih =>
  intro i h0 hi
  have e1:=wI i
  refine CtJ.of Ed4 fun h r=>Tr.eq (Ef4 ..) ?_;refine Je ?_
  refine Yt (by simp;omega) ?_
  refine Yc (D03 b k F X ok i) ?_;rintro _ h ⟨rfl,o⟩<;>refine Jh o ?_
  rw [Di7 c (by omega)]
  dsimp only
  (refine Jc ?_;intros)
  refine Yn fun b1 h=>?_
  (refine Ja ?_;intros)
  rw [show Ak3 X (m+1) i=if (vS X i).2=0 then i else Ak3 X m (i+1) from rfl]
  by_cases h1:(vS X i).2=0
  ·rw [if_pos h1]
   refine Yt (by simpa using h1) ?_
   refine Ys fun o=>?_
   exact ⟨rfl,o.sub⟩
  ·rw [if_neg h1,e1]
   refine Yf (by simpa using h1) ?_
   refine H7 [1] 1 rfl rfl ?_
   refine Yr (ih (i+1) (by omega) (by omega)) ?_
   intro v h q
   exact q
theorem I70 (b k:Nat) (F:Fr) (X:CX) (ok:FrOk F) {nc:Nat} (c:Clean nc X):Ct A3 Aw0 [P0 b] [cmC b k F X] fun v own=>v=int (Ak3 X 8 0)∧own [cmC b k F X]:=by
 refine Ct.of Ed4 rfl fun h r=>Tr.eq (H00 ..) ?_;refine Je ?_
 refine Yr (Ic8 b k F X ok c 8 0 (by omega) (by omega)) ?_
 intro v h q
 exact q
def Bq7:List Int→List Int→List Int
 | [],m=>m
 | f::l,m=>Bq7 l (if f>0 then m.set (f-1).toNat (m.getD (f-1).toNat 0+1) else m)
def Ae4 (n:Int) (m:List Int):Prop:=m.length=12∧∀ x ∈ m,0≤x∧x≤n
theorem Ae4.get {n:Int} {m:List Int} (h:Ae4 n m) {j:Nat} (hj:j<12):0≤m.getD j 0∧m.getD j 0≤n:=by
 have hl:=h.1
 have e:m[j]?=some m[j]:=List.getElem?_eq_getElem (by omega)
 rw [List.getD_eq_getElem?_getD,e]
 exact h.2 _ (List.getElem_mem _)
theorem Ae4.set {n:Int} {m:List Int} (h:Ae4 n m) {j:Nat} (hj:j<12):Ae4 (n+1) (m.set j (m.getD j 0+1)):=by
 refine ⟨by simpa using h.1,fun x hx=>?_⟩
 rcases List.mem_or_eq_of_mem_set hx with h2|rfl
 ·have:=h.2 x h2;omega
 ·have:=h.get hj;omega
theorem Ae4.up {n:Int} {m:List Int} (h:Ae4 n m):Ae4 (n+1) m:=⟨h.1,fun x hx=>by have:=h.2 x hx;omega⟩
theorem Is0 {m:List Int} {j:Nat} (h:j<m.length) (v:Int):B13 (m.map int) j (int v)=some ((m.set j v).map int):=by
 rw [B13,show Nat.blt j (m.map int).length=true from Nat.ble_eq_true_of_le (by simp;omega),List.map_set];rfl
def B10 (l:List Int):Prop:=∀ f ∈ l,0≤f∧f≤12
theorem Hl3 {l:List Int} {i:Nat} (h:i<l.length):(l.map int)[i]?=some (int (l.getD i 0)):=by rw [List.getElem?_map,M7 0 h];rfl
theorem Hw3 (b k:Nat) (F:Fr) (X:CX) (b0 b1:Nat) (p:ProcS) (hf:B10 p.fds) (Φ:Value→(List HP→Prop)→Prop) (M:List Int)
  (next:CtJ E2 G7 Ap5 [(0,P0 b),(5,P0 b1),(31,.agg ⟨p.fds.map int⟩),(32,int 0)] [pt b1 (.cells Em7 false (M.map int)),cmC b k F X] Φ) :
  ∀ (m i:Nat) (more:List Int),i+m=8→Ae4 i more→Bq7 (p.fds.drop i) more=M →
  CtJ E2 G7 A14 [(0,P0 b),(3,P0 b0),(5,P0 b1),(17,.agg ⟨p.fds.map int⟩),(18,int i)] [pt b1 (.cells Em7 false (more.map int)),pt b0 (.cells B1 false (B6 p)),cmC b k F X] Φ:=by
 intro m
 induction m with
 | zero =>
  intro i more hi hm hM
  have:i=8:=by omega
  subst this
  rw [show p.fds.drop 8=[] from List.drop_eq_nil_of_le (by rw [p.len];omega),show Bq7 [] more=more from rfl] at hM
  subst hM
  refine CtJ.of Ax6 fun h r=>Tr.eq (D58 ..) ?_;refine Je ?_
  refine Yf (by simp) ?_
  (refine Ja ?_;intros)
  refine H7 [0,1] 1 rfl rfl ?_
  refine Yr next ?_
  intro v h q
  exact q
 | succ m ih =>
  intro i more hi hm hM
  have e1:=wN i
  have hil:i<p.fds.length:=by rw [p.len];omega
  have hg:=Hl3 hil
  have hd:p.fds.drop i=p.fds.getD i 0::p.fds.drop (i+1):=by
   rw [List.drop_eq_getElem_cons hil,List.getD_eq_getElem?_getD,List.getElem?_eq_getElem hil];rfl
  have hr:0≤p.fds.getD i 0∧p.fds.getD i 0≤12:=hf _ (by
   rw [List.getD_eq_getElem?_getD,List.getElem?_eq_getElem hil];exact List.getElem_mem _)
  rw [hd] at hM
  generalize p.fds.getD i 0=f at hg hr hM
  rw [show Bq7 (f::p.fds.drop (i+1)) more=Bq7 (p.fds.drop (i+1)) (if f>0 then more.set (f-1).toNat (more.getD (f-1).toNat 0+1) else more) from rfl] at hM
  refine CtJ.of Ax6 fun h r=>Tr.eq (D58 ..) ?_;refine Je ?_
  refine Yt (by simp;omega) ?_
  rw [e1]
  refine Tr.ck (by omega) ?_
  rw [Int.toNat_natCast]
  (refine Ja ?_;intros)
  by_cases hz:f>0
  ·have e2:IntKind.wrap .i64 (f-1)=f-1:=by rw [A8];omega
   have hj:(f-1).toNat<12:=by omega
   have hm2:=hm.get hj
   have e3:IntKind.wrap .i64 (more.getD (f-1).toNat 0+1)=more.getD (f-1).toNat 0+1:=by rw [A8];omega
   have hgm:=Hl3 (l:=more) (i:=(f-1).toNat) (by rw [hm.1];exact hj)
   rw [if_pos hz] at hM
   rw [e2]
   refine Yt (by simpa using hz) ?_
   (refine Ja ?_;intros)
   rw [e3]
   refine Gs (fun h=>?_) (by exact Is0 (by rw [hm.1];exact hj) _)
   refine Yr (ih (i+1) (more.set (f-1).toNat (more.getD (f-1).toNat 0+1)) (by omega) (by rw [show ((i+1:Nat):Int)=(i:Int)+1 by omega];exact hm.set hj) hM) ?_
   intro v h q
   exact q
  ·rw [if_neg hz] at hM
   refine Yf (by simpa using hz) ?_
   refine Yr (ih (i+1) more (by omega) (by simpa using hm.up) hM) ?_
   intro v h q
   exact q
def Ag7 (X:CX) (more:List Int):List Int→Int
 | []=>0
 | f::l=>if f=0 then Ag7 X more l else if (vF X (f-1)).2≠1 then 105 else if (vF X (f-1)).1.refs+more.getD (f-1).toNat 0>64 then 123 else Ag7 X more l
theorem H30 {f:FileS} (h:okF f=true):1≤f.refs∧f.refs≤64:=by
 simp only [okF,Bool.and_eq_true,Bool.or_eq_true,decide_eq_true_eq,beq_iff_eq,bne_iff_ne] at h
 omega
theorem H45 {nc:Nat} {X:CX} (c:Clean nc X) {i:Int} (h:0≤i∧i<12):0≤(vF X i).1.refs∧(vF X i).1.refs≤64:=by
 rcases I12 c h with ⟨_,h1⟩|⟨_,h1⟩
 ·rw [h1];simp
 ·have:=H30 h1;omega
theorem Hz2 (b k:Nat) (F:Fr) (X:CX) (ok:FrOk F) {nc:Nat} (c:Clean nc X) (b1:Nat) (fds more:List Int) (hl:fds.length=8) (hf:B10 fds) (hm:Ae4 8 more) (Φ:Value→(List HP→Prop)→Prop)
  (bad:∀ (e:Int),Ag7 X more fds=e→e≠0→∀ h r,Own h (cmC b k F X::r)→Φ (int e) fun l=>Own h (l++r))
  (next:Ag7 X more fds=0→CtJ E2 G7 Ap2 [(0,P0 b),(57,.agg ⟨more.map int⟩),(58,int 0)] [cmC b k F X] Φ) :
  ∀ (m i:Nat),i+m=8→Ag7 X more fds=Ag7 X more (fds.drop i) →
  CtJ E2 G7 Ap5 [(0,P0 b),(5,P0 b1),(31,.agg ⟨fds.map int⟩),(32,int i)] [pt b1 (.cells Em7 false (more.map int)),cmC b k F X] Φ:=by
 intro m
 induction m with
 | zero =>
  intro i hi he
  have:i=8:=by omega
  subst this
  rw [show fds.drop 8=[] from List.drop_eq_nil_of_le (by omega),show Ag7 X more []=0 from rfl] at he
  have hl12:Di5 (more.map int) 0 12=some (more.map int):=B42 (by simp [hm.1])
  refine CtJ.of Ax6 fun h r=>Tr.eq (D78 ..) ?_;refine Je ?_
  refine Yf (by simp) ?_
  refine Gs ?_ (by exact hl12)
  refine H7 [1] 1 rfl rfl ?_
  refine Yr (next he) ?_
  intro v h q
  exact q
 | succ m ih =>
  intro i hi he
  have e1:=wN i
  have hil:i<fds.length:=by omega
  have hg:=Hl3 hil
  have hd:fds.drop i=fds.getD i 0::fds.drop (i+1):=by
   rw [List.drop_eq_getElem_cons hil,List.getD_eq_getElem?_getD,List.getElem?_eq_getElem hil];rfl
  have hr:0≤fds.getD i 0∧fds.getD i 0≤12:=hf _ (by
   rw [List.getD_eq_getElem?_getD,List.getElem?_eq_getElem hil];exact List.getElem_mem _)
  rw [hd] at he
  generalize fds.getD i 0=f at hg hr he
  rw [show Ag7 X more (f::fds.drop (i+1))=if f=0 then Ag7 X more (fds.drop (i+1)) else if (vF X (f-1)).2≠1 then 105 else if (vF X (f-1)).1.refs+more.getD (f-1).toNat 0>64 then 123 else Ag7 X more (fds.drop (i+1)) from rfl] at he
  refine CtJ.of Ax6 fun h r=>Tr.eq (D78 ..) ?_;refine Je ?_
  refine Yt (by simp;omega) ?_
  rw [e1]
  refine Tr.ck (by omega) ?_
  rw [Int.toNat_natCast]
  (refine Ja ?_;intros)
  by_cases hz:f=0
  ·rw [if_pos hz] at he
   refine Yt (by simpa using hz) ?_
   refine Yr (ih (i+1) (by omega) he) ?_
   intro v h q
   exact q
  rw [if_neg hz] at he
  refine Yf (by simpa using hz) ?_
  have e2:IntKind.wrap .i64 (f-1)=f-1:=by rw [A8];omega
  have hj:(f-1).toNat<12:=by omega
  rw [e2]
  refine Yc (Gm3 b k F X ok (f-1)) ?_;rintro _ h ⟨rfl,o⟩<;>refine Jh o ?_
  rw [Ed3 c (by omega)]
  dsimp only
  (refine Jc ?_;intros)
  refine Yn fun b2 h=>?_
  (refine Ja ?_;intros)
  by_cases h1:(vF X (f-1)).2=1
  ·rw [if_neg (by simpa using h1)] at he
   refine Yf (by simpa using h1) ?_
   have hm2:=hm.get hj
   have hgm:=Hl3 (l:=more) (i:=(f-1).toNat) (by rw [hm.1];exact hj)
   have hrf:=H45 c (i:=f-1) (by omega)
   have e3:IntKind.wrap .i64 ((vF X (f-1)).1.refs+more.getD (f-1).toNat 0)=(vF X (f-1)).1.refs+more.getD (f-1).toNat 0:=by rw [A8];omega
   (refine Ja ?_;intros)
   rw [e3]
   by_cases h2:(vF X (f-1)).1.refs+more.getD (f-1).toNat 0>64
   ·rw [if_pos h2] at he
    refine Yt (by simpa using h2) ?_
    refine H7 [1] 2 rfl rfl ?_
    refine Ys fun o=>?_
    exact bad 123 he (by simp) _ _ o
   ·rw [if_neg h2] at he
    refine Yf (by simpa using h2) ?_
    refine H7 [2,1] 1 rfl rfl ?_
    refine Yr (ih (i+1) (by omega) he) ?_
    intro v h q
    exact q
  ·rw [if_pos h1] at he
   refine Yt (by simpa using h1) ?_
   refine H7 [1] 2 rfl rfl ?_
   refine Ys fun o=>?_
   exact bad 105 he (by simp) _ _ o
abbrev Er1 (f:FileS) (n:Int):FileS:=⟨f.kind,f.pipe,f.refs+n,f.flags⟩
def Bi2 (more:List Int):Nat→Int→CX→CX
 | 0,_,X=>X
 | m+1,j,X=>Bi2 more m (j+1) (if more.getD j.toNat 0=0 then X else Bk1 X j (Er1 (vF X j).1 (more.getD j.toNat 0)))
def G64 (more:List Int) (X:CX) (j:Int):Prop:=∀ i:Int,j≤i→i<12→more.getD i.toNat 0≠0→(vF X i).2=1∧(vF X i).1.refs+more.getD i.toNat 0≤64
theorem Iy1 {f:FileS} (h:okF f=true) {n:Int} (hn:1≤f.refs+n∧f.refs+n≤64):okF (Er1 f n)=true:=by
 simp only [okF,Bool.and_eq_true,Bool.or_eq_true,decide_eq_true_eq,beq_iff_eq,bne_iff_ne] at h ⊢
 omega
theorem G64.step {nc:Nat} {X:CX} (c:Clean nc X) {more:List Int} (hm:Ae4 8 more) {j:Int} (h0:0≤j∧j<12) (s:G64 more X j) (hz:more.getD j.toNat 0≠0) :
  okF (Er1 (vF X j).1 (more.getD j.toNat 0))=true∧G64 more (Bk1 X j (Er1 (vF X j).1 (more.getD j.toNat 0))) (j+1):=by
 obtain ⟨s1,s2⟩:=s j (by omega) (by omega) hz
 have hg:=hm.get (j:=j.toNat) (by omega)
 have hk:okF (vF X j).1=true:=by
  rcases I12 c h0 with ⟨h1,_⟩|⟨_,h1⟩
  ·omega
  ·exact h1
 have hr:=H30 hk
 have k:=Iy1 hk (n:=more.getD j.toNat 0) (by omega)
 refine ⟨k,fun i h1 h2 hi=>?_⟩
 rw [(Aw5 c h0 k).2.2.2.1 i (by omega),if_neg (by omega)]
 exact s i (by omega) h2 hi
theorem Hy5 (b k:Nat) (F:Fr) (ok:FrOk F) {nc:Nat} (more:List Int) (hm:Ae4 8 more):∀ (m:Nat) (j:Int) (X:CX),Clean nc X→G64 more X j→0≤j→j+m=12 →
  CtJ E2 G7 Ap2 [(0,P0 b),(57,.agg ⟨more.map int⟩),(58,int j)] [cmC b k F X] fun v own=>v=int 0∧own [cmC b k F (Bi2 more m j X)]:=by
 intro m
 induction m with
 | zero =>
  intro j X c s h0 hj
  refine CtJ.of Ax6 fun h r=>Tr.eq (D69 ..) ?_;refine Je ?_
  refine Yf (by simp;omega) ?_
  refine Ys fun o=>?_
  rw [show Bi2 more 0 j X=X from rfl]
  exact ⟨rfl,o.sub⟩
 | succ m ih =>
  intro j X c s h0 hj
  have e1:=wI j
  have hg:=Hl3 (l:=more) (i:=j.toNat) (by rw [hm.1];omega)
  have hm2:=hm.get (j:=j.toNat) (by omega)
  rw [show Bi2 more (m+1) j X=Bi2 more m (j+1) (if more.getD j.toNat 0=0 then X else Bk1 X j (Er1 (vF X j).1 (more.getD j.toNat 0))) from rfl]
  refine CtJ.of Ax6 fun h r=>Tr.eq (D69 ..) ?_;refine Je ?_
  refine Yt (by simp;omega) ?_
  rw [e1]
  (refine Ja ?_;intros)
  by_cases hz:more.getD j.toNat 0=0
  ·rw [if_pos hz]
   refine Yt (by simpa using hz) ?_
   refine Yr (ih (j+1) X c (fun i h1 h2 h3=>s i (by omega) h2 h3) (by omega) (by omega)) ?_
   intro v h q
   exact q
  ·rw [if_neg hz]
   refine Yf (by simpa using hz) ?_
   have hrf:=H45 c (i:=j) (by omega)
   have e3:IntKind.wrap .i64 ((vF X j).1.refs+more.getD j.toNat 0)=(vF X j).1.refs+more.getD j.toNat 0:=by rw [A8];omega
   obtain ⟨k1,s2⟩:=s.step c hm (by omega) hz
   obtain ⟨w1,w2,_⟩:=Aw5 c (i:=j) (by omega) k1
   refine Yc (Gm3 b k F X ok j) ?_;rintro _ h ⟨rfl,o⟩<;>refine Jh o ?_
   rw [Ed3 c (by omega)]
   dsimp only
   (refine Jc ?_;intros)
   refine Yn fun b2 h=>?_
   (refine Ja ?_;intros)
   simp only [e3,List.set_cons_succ,List.set_cons_zero,List.drop_zero,List.take]
   refine Yc (Hy1 b k F X ok j (Er1 (vF X j).1 (more.getD j.toNat 0))) ?_;rintro _ h ⟨rfl,o⟩<;>refine Jh o ?_
   rw [w1]
   dsimp only
   (refine Ja ?_;intros)
   refine H7 [0] 1 rfl rfl ?_
   refine Yr (ih (j+1) _ w2 s2 (by omega) (by omega)) ?_
   intro v h q
   exact q
theorem E93:∀ (l m:List Int) (i:Nat),B10 l→m.length=12→(Bq7 l m).getD i 0≠0→m.getD i 0≠0∨((i:Int)+1) ∈ l
 | [],m,i,_,_,h=>.inl h
 | f::l,m,i,hf,hm,h=>by
  have hr:=hf f (by simp)
  have hl:B10 l:=fun x hx=>hf x (by simp [hx])
  rw [show Bq7 (f::l) m=Bq7 l (if f>0 then m.set (f-1).toNat (m.getD (f-1).toNat 0+1) else m) from rfl] at h
  by_cases hz:f>0
  ·rw [if_pos hz] at h
   rcases E93 l _ i hl (by simpa using hm) h with h2|h2
   ·by_cases hi:(f-1).toNat=i
    ·right
     rw [show (i:Int)+1=f by omega];simp
    ·left
     rw [List.getD_eq_getElem?_getD,List.getElem?_set_ne hi,← List.getD_eq_getElem?_getD] at h2
     exact h2
   ·exact .inr (by simp [h2])
  ·rw [if_neg hz] at h
   rcases E93 l m i hl hm h with h2|h2
   ·exact .inl h2
   ·exact .inr (by simp [h2])
theorem Eb7:∀ (l m:List Int) (n:Int),B10 l→Ae4 n m→Ae4 (n+l.length) (Bq7 l m)
 | [],m,n,_,h=>by simpa [Bq7] using h
 | f::l,m,n,hf,h=>by
  have hr:=hf f (by simp)
  have hl:B10 l:=fun x hx=>hf x (by simp [hx])
  rw [show Bq7 (f::l) m=Bq7 l (if f>0 then m.set (f-1).toNat (m.getD (f-1).toNat 0+1) else m) from rfl]
  have e:n+((f::l).length:Int)=(n+1)+l.length:=by simp;omega
  rw [e]
  by_cases hz:f>0
  ·rw [if_pos hz];exact Eb7 l _ (n+1) hl (h.set (by omega))
  ·rw [if_neg hz];exact Eb7 l m (n+1) hl h.up
theorem Eo1 {X:CX} {more:List Int}:∀ (l:List Int),Ag7 X more l=0→∀ f ∈ l,f≠0→(vF X (f-1)).2=1∧(vF X (f-1)).1.refs+more.getD (f-1).toNat 0≤64
 | [],_,f,h,_=>by simp at h
 | g::l,h,f,hm,hf=>by
  rw [show Ag7 X more (g::l)=if g=0 then Ag7 X more l else if (vF X (g-1)).2≠1 then 105 else if (vF X (g-1)).1.refs+more.getD (g-1).toNat 0>64 then 123 else Ag7 X more l from rfl] at h
  by_cases hg:g=0
  ·rw [if_pos hg] at h
   rcases List.mem_cons.1 hm with rfl|h2
   ·exact absurd hg hf
   ·exact Eo1 l h f h2 hf
  ·rw [if_neg hg] at h
   by_cases h1:(vF X (g-1)).2=1
   ·rw [if_neg (by simpa using h1)] at h
    by_cases h2:(vF X (g-1)).1.refs+more.getD (g-1).toNat 0>64
    ·rw [if_pos h2] at h;cases h
    ·rw [if_neg h2] at h
     rcases List.mem_cons.1 hm with rfl|h3
     ·exact ⟨h1,by omega⟩
     ·exact Eo1 l h f h3 hf
   ·rw [if_pos h1] at h;cases h
abbrev Ez8:List Int:=[0,0,0,0,0,0,0,0,0,0,0,0]
theorem Iq2:Ae4 0 Ez8:=⟨rfl,fun x hx=>by simp at hx;omega⟩
abbrev Bz6 (p:ProcS):List Int:=Bq7 p.fds Ez8
theorem Gi4 {p:ProcS} (h:B10 p.fds):Ae4 8 (Bz6 p):=by
 have:=Eb7 p.fds Ez8 0 h Iq2
 rw [p.len] at this
 exact this
theorem Hk7 {X:CX} {p:ProcS} (h:B10 p.fds) (e:Ag7 X (Bz6 p) p.fds=0):G64 (Bz6 p) X 0:=fun i h0 h1 hi=>by
 rcases E93 p.fds Ez8 i.toNat h rfl hi with h2|h2
 ·exfalso;apply h2
  have:i.toNat=0∨i.toNat=1∨i.toNat=2∨i.toNat=3∨i.toNat=4∨i.toNat=5∨i.toNat=6∨i.toNat=7∨i.toNat=8∨i.toNat=9∨i.toNat=10∨i.toNat=11:=by omega
  rcases this with h|h|h|h|h|h|h|h|h|h|h|h<;>rw [h]<;>rfl
 ·have:=Eo1 p.fds e _ h2 (by omega)
  rw [show ((i.toNat:Nat):Int)+1-1=i by omega] at this
  exact this
def Aa0 (X:CX) (p:ProcS):Int × CX:=if Ag7 X (Bz6 p) p.fds=0 then (0,Bi2 (Bz6 p) 12 0 X) else (Ag7 X (Bz6 p) p.fds,X)
theorem Io6 (b k:Nat) (F:Fr) (X:CX) (ok:FrOk F) {nc:Nat} (c:Clean nc X) (p:ProcS) (hf:B10 p.fds):Ct A3 G7 [P0 b,.agg ⟨B6 p⟩] [cmC b k F X] fun v own=>v=int (Aa0 X p).1∧own [cmC b k F (Aa0 X p).2]:=by
 refine Ct.of Ax6 rfl fun h r=>Tr.eq (Hm9 ..) ?_;refine Je ?_
 refine Yn fun b0 h=>?_
 refine Yn fun b1 h=>?_
 (refine Ja ?_;intros)
 have hm:=Gi4 hf
 have L2:=Hz2 b k F X ok c b1 p.fds (Bz6 p) p.len hf hm (fun v own=>v=int (Aa0 X p).1∧own [cmC b k F (Aa0 X p).2])
  (fun e he hz h r o=>by
   unfold Aa0
   rw [if_neg (by rw [he];exact hz),he]
   exact ⟨rfl,o⟩)
  (fun he=>by
   have J:=Hy5 b k F ok (Bz6 p) hm 12 0 X c (Hk7 hf he) (by omega) (by omega)
   unfold Aa0
   rw [if_pos he]
   exact J) 8 0 rfl rfl
 refine Dv2 (Hw3 b k F X b0 b1 p hf _ (Bz6 p) L2 8 0 Ez8 rfl (by simpa using Iq2) rfl) [0,0,0] rfl ?_
 intro v h q
 exact q
theorem D02 {nc:Nat} {more:List Int} (hm:Ae4 8 more):∀ (m:Nat) (j:Int) (X:CX),Clean nc X→G64 more X j→0≤j→j+m=12 →
  Clean nc (Bi2 more m j X)∧(∀ i:Int,0≤i∧i<8→vS (Bi2 more m j X) i=vS X i) ∧
  (∀ i:Int,0≤i∧i<12→vF (Bi2 more m j X) i=if j≤i∧more.getD i.toNat 0≠0 then (Er1 (vF X i).1 (more.getD i.toNat 0),1) else vF X i)∧(∀ i:Int,0≤i∧i<3+nc→vP (Bi2 more m j X) i=vP X i)
 | 0,j,X,c,_,h0,hj=>⟨c,fun _ _=>rfl,fun i hi=>by rw [if_neg (by omega)];rfl,fun _ _=>rfl⟩
 | m+1,j,X,c,s,h0,hj=>by
  rw [show Bi2 more (m+1) j X=Bi2 more m (j+1) (if more.getD j.toNat 0=0 then X else Bk1 X j (Er1 (vF X j).1 (more.getD j.toNat 0))) from rfl]
  by_cases hz:more.getD j.toNat 0=0
  ·rw [if_pos hz]
   obtain ⟨a1,a2,a3,a4⟩:=D02 hm m (j+1) X c (fun i h1 h2 h3=>s i (by omega) h2 h3) (by omega) (by omega)
   refine ⟨a1,a2,fun i hi=>?_,a4⟩
   rw [a3 i hi]
   by_cases hij:i=j
   ·subst hij
    rw [if_neg (by omega),if_neg (by simp only [hz];simp)]
   ·by_cases h2:j≤i∧more.getD i.toNat 0≠0
    ·rw [if_pos h2,if_pos ⟨by omega,h2.2⟩]
    ·rw [if_neg h2,if_neg (fun h3=>h2 ⟨by omega,h3.2⟩)]
  ·rw [if_neg hz]
   obtain ⟨k1,s2⟩:=s.step c hm (by omega) hz
   obtain ⟨w1,w2,w3,w4,w5⟩:=Aw5 c (i:=j) (by omega) k1
   obtain ⟨a1,a2,a3,a4⟩:=D02 hm m (j+1) _ w2 s2 (by omega) (by omega)
   refine ⟨a1,fun i hi=>by rw [a2 i hi,w3 i hi],fun i hi=>?_,fun i hi=>by rw [a4 i hi,w5 i hi]⟩
   rw [a3 i hi,w4 i hi]
   by_cases hij:i=j
   ·subst hij
    rw [if_neg (by omega),if_pos rfl,if_pos ⟨by omega,hz⟩]
   ·rw [if_neg hij]
    by_cases h2:j≤i∧more.getD i.toNat 0≠0
    ·rw [if_pos h2,if_pos ⟨by omega,h2.2⟩]
    ·rw [if_neg h2,if_neg (fun h3=>h2 ⟨by omega,h3.2⟩)]
theorem H58 (l:List UInt8) (i:Nat):0≤byI l i∧byI l i<256:=by
 have:=(l.getD i 0).toNat_lt
 unfold byI;omega
theorem Gc4 (l:List UInt8) (j:Nat):0≤two l j∧two l j≤65535:=by
 have:=H58 l j;have:=H58 l (j+1)
 unfold two;omega
theorem Gc6 (l:List UInt8):InS (H2 l).1:=by
 unfold H2
 split
 ·exact ⟨by simp,by simp,by simp,by simp⟩
 ·split
  ·exact ⟨Gc4 _ _,Gc4 _ _,Gc4 _ _,Gc4 _ _⟩
  ·exact ⟨by simp,by simp,by simp,by simp⟩
theorem G00 {p:ProcS} (h:okS p=true):B10 p.fds:=fun f hf=>by
 unfold okS at h
 simp only [Bool.and_eq_true,Bool.not_eq_true',List.any_eq_false] at h
 have:=h.2.2.1 f hf
 simp at this;omega
abbrev Bj2 (p:ProcS) (i:Int):ProcS:=⟨p.state,i+1,p.group,p.code,0,p.mask,p.ignored,p.caught,p.fds,p.len⟩
theorem Hu0 {p:ProcS} (h:okS p=true) (h1:p.state=1) {i:Int} (hi:0≤i∧i<8):okS (Bj2 p i)=true:=by
 unfold okS at h ⊢
 rw [if_neg (by rw [h1];decide)] at h
 rw [if_neg (show ¬ (Bj2 p i).state=2 by show ¬ p.state=2;rw [h1];decide)]
 simp only [Bool.and_eq_true,Bool.not_eq_true',Bool.or_eq_false_iff,decide_eq_false_iff_not] at h ⊢
 obtain ⟨⟨⟨⟨⟨⟨⟨⟨a1,a2⟩,a3⟩,a4⟩,a5⟩,a6⟩,a7⟩,a8⟩,⟨⟨⟨⟨b1,b2⟩,b3⟩,b4⟩,b5⟩,d1,d2⟩:=h
 exact ⟨⟨⟨⟨⟨⟨⟨⟨a1,a2⟩,by show ¬ i+1<0;omega⟩,by show ¬ i+1>8;omega⟩,a5⟩,a6⟩,a7⟩,a8⟩,⟨⟨⟨⟨by simp [Ii5],b2⟩,b3⟩,b4⟩,b5⟩,d1,d2⟩
def D74 (X:CX) (i:Int):List Value × CX :=
 if (O7 X i).2≠0 then (Q5 0 (O7 X i).2 false,X)
 else if Ak3 X 8 0<0 then (Q5 0 111 false,X)
 else if (Aa0 X (O7 X i).1).1≠0 then (Q5 0 (Aa0 X (O7 X i).1).1 false,X)
 else (Q5 (Ak3 X 8 0) 0 false,Dh4 (Aa0 X (O7 X i).1).2 (Ak3 X 8 0) (Bj2 (O7 X i).1 i))
theorem E63 {X:CX}:∀ (m:Nat) (i:Int),0≤i→i+m=8→Ak3 X m i=-1∨(0≤Ak3 X m i∧Ak3 X m i<8∧(vS X (Ak3 X m i)).2=0)
 | 0,i,_,_=>.inl rfl
 | m+1,i,h0,hi=>by
  rw [show Ak3 X (m+1) i=if (vS X i).2=0 then i else Ak3 X m (i+1) from rfl]
  split
  ·rename_i h;exact .inr ⟨h0,by omega,h⟩
  ·exact E63 m (i+1) (by omega) (by omega)
theorem Ek4 {nc:Nat} {X:CX} (c:Clean nc X) {i:Int} (hi:0≤i∧i<8) (h:(O7 X i).2=0):O7 X i=((vS X i).1,0)∧(vS X i).1.state=1∧okS (vS X i).1=true∧(vS X i).2=1:=by
 unfold O7 at h ⊢
 split
 ·rename_i h1
  refine ⟨rfl,h1.2,?_,h1.1⟩
  rcases I07 c hi with ⟨h2,_⟩|⟨_,h2⟩
  ·rw [h1.1] at h2;cases h2
  ·exact h2
 ·rename_i h1;rw [if_neg h1] at h;cases h
theorem Ip7 {X:CX} {p:ProcS} (h:(Aa0 X p).1≠0):(Aa0 X p).2=X:=by
 unfold Aa0 at h ⊢
 split
 ·rename_i h1;rw [if_pos h1] at h;exact absurd rfl h
 ·rfl
theorem E94 {nc:Nat} {X:CX} (c:Clean nc X) {p:ProcS} (hf:B10 p.fds) (h:(Aa0 X p).1=0):Clean nc (Aa0 X p).2∧(∀ i:Int,0≤i∧i<8→vS (Aa0 X p).2 i=vS X i) ∧
  (∀ i:Int,0≤i∧i<12→vF (Aa0 X p).2 i=if (Bz6 p).getD i.toNat 0≠0 then (Er1 (vF X i).1 ((Bz6 p).getD i.toNat 0),1) else vF X i)∧(∀ i:Int,0≤i∧i<3+nc→vP (Aa0 X p).2 i=vP X i):=by
 unfold Aa0 at h ⊢
 split
 ·rename_i he
  obtain ⟨a1,a2,a3,a4⟩:=D02 (Gi4 hf) 12 0 X c (Hk7 hf he) (by omega) (by omega)
  refine ⟨a1,a2,fun i hi=>?_,a4⟩
  rw [a3 i hi]
  by_cases h2:(Bz6 p).getD i.toNat 0≠0
  ·rw [if_pos h2,if_pos ⟨hi.1,h2⟩]
  ·rw [if_neg h2,if_neg (fun h3=>h2 h3.2)]
 ·rename_i he;rw [if_neg he] at h;exact absurd h he
theorem I48 (b k:Nat) (F:Fr) (X:CX) (ok:FrOk F) {nc:Nat} (c:Clean nc X) (i:Int) (hi:0≤i∧i<8):Ct A3 A53 [P0 b,int i] [cmC b k F X] fun v own=>v=.agg ⟨(D74 X i).1⟩∧own [cmC b k F (D74 X i).2]:=by
 have e1:=wI i
 unfold D74
 refine Ct.of Gj6 rfl fun h r=>Tr.eq (Gi8 ..) ?_;refine Je ?_
 refine Yn fun b0 h=>?_
 refine Yc (G56 b k F X ok c i hi) ?_;rintro _ h ⟨rfl,o⟩<;>refine Jh o ?_
 (refine Jc ?_;intros)
 refine Yn fun b1 h=>?_
 (refine Ja ?_;intros)
 by_cases h0:(O7 X i).2=0
 case neg =>
  rw [if_pos h0]
  refine Yt (by simpa using h0) ?_
  refine Yc (Bi9 (O7 X i).2) ?_;rintro _ h ⟨rfl,o⟩<;>(refine Jf o ?_;intros)
  refine Ys fun o=>?_
  exact ⟨rfl,o.sub⟩
 rw [if_neg (by simpa using h0)]
 refine Yf (by simpa using h0) ?_
 obtain ⟨s1,s2,s3,s4⟩:=Ek4 c hi h0
 refine Yc (I70 b k F X ok c) ?_;rintro _ h ⟨rfl,o⟩<;>refine Jh o ?_
 (refine Ja ?_;intros)
 by_cases h1:Ak3 X 8 0<0
 ·rw [if_pos h1]
  refine Yt (by simpa using h1) ?_
  refine Yc (Bi9 111) ?_;rintro _ h ⟨rfl,o⟩<;>(refine Jf o ?_;intros)
  refine Ys fun o=>?_
  exact ⟨rfl,o.sub⟩
 rw [if_neg h1]
 refine Yf (by simpa using h1) ?_
 have hf:B10 (O7 X i).1.fds:=by rw [s1];exact G00 s3
 have hok:okS (Bj2 (O7 X i).1 i)=true:=by rw [s1];exact Hu0 s3 s2 hi
 have hin:InS (Bj2 (O7 X i).1 i):=by
  have:=Gc6 (rd X ⟨1,i⟩)
  rw [s1]
  exact ⟨by simp,this.b,this.c,this.d⟩
 generalize (O7 X i).1=p at hf hok hin
 (refine Ja ?_;intros)
 refine Yc (Io6 b k F X ok c p hf) ?_;rintro _ h ⟨rfl,o⟩<;>refine Jh o ?_
 (refine Ja ?_;intros)
 by_cases h2:(Aa0 X p).1=0
 case neg =>
  rw [if_pos h2]
  rw [Ip7 h2] at o ⊢
  refine Yt (by simpa using h2) ?_
  refine Yc (Bi9 (Aa0 X p).1) ?_;rintro _ h ⟨rfl,o⟩<;>(refine Jf o ?_;intros)
  refine Ys fun o=>?_
  exact ⟨rfl,o.sub⟩
 rw [if_neg (by simpa using h2)]
 refine Yf (by simpa using h2) ?_
 have cs:=(E94 c hf h2).1
 have hfr:0≤Ak3 X 8 0∧Ak3 X 8 0<8:=by
  rcases E63 (X:=X) 8 0 (by omega) (by omega) with h|h<;>omega
 obtain ⟨w1,_⟩:=Br9 cs hfr hok hin
 (refine Ja ?_;intros)
 rw [e1,show ((B6 p).set 1 (int (i+1))).set 4 (int 0)=B6 (Bj2 p i) from rfl]
 generalize Bj2 p i=q at hok hin w1
 (refine Ja ?_;intros)
 refine Yc (Hy8 b k F (Aa0 X p).2 ok (Ak3 X 8 0) q) ?_;rintro _ h ⟨rfl,o⟩<;>refine Jh o ?_
 rw [w1]
 dsimp only
 (refine Ja ?_;intros)
 refine Yc (H42 true (Ak3 X 8 0)) ?_;rintro _ h ⟨rfl,o⟩<;>refine Jh o ?_
 rw [if_pos trivial]
 (refine Ja ?_;intros)
 refine Ys fun o=>?_
 exact ⟨rfl,o.sub⟩
abbrev Ds0 (s:Int × ProcS):List Value:=int s.1::B6 s.2
def V5 (X:CX) (q:Int→ProcS→Bool):Nat→Int→List (Int × ProcS)
 | 0,_=>[]
 | m+1,i=>if (vS X i).2=1∧q i (vS X i).1=true then (i,(vS X i).1)::V5 X q m (i+1) else V5 X q m (i+1)
theorem Gu1 (X:CX) (q:Int→ProcS→Bool):∀ (m:Nat) (i:Int),(V5 X q m i).length≤m
 | 0,i=>by simp [V5]
 | m+1,i=>by
  have:=Gu1 X q m (i+1)
  unfold V5;split<;>simp<;>omega
theorem Bb6 (j:Int) (p:ProcS):(int j::B6 p).length=17:=by simp [Av7 p,p.len]
instance {j:Int} {p:ProcS}:LenC (int j::B6 p) 17:=⟨Bb6 j p⟩
instance {j:Int} {p:ProcS}:PartC (int j::B6 p) 0 17 (int j::B6 p):=⟨B42 (Bb6 j p)⟩
instance {j:Int} {p:ProcS} {cs:List Value} [k:LenC cs 17]:SetsC cs 0 (int j::B6 p) (int j::B6 p):=⟨A16 k.ok (Bb6 j p) (by simp [Value.oneCell])⟩
theorem Hw9 (b k:Nat) (F:Fr) (X:CX) (ok:FrOk F) {nc:Nat} (c:Clean nc X) (pr:HP) (g:FuncId) (cp:List Value) (q:Int→ProcS→Bool)
  (hq:∀ (j:Int) (p:ProcS),Ct A3 g (.agg ⟨int j::B6 p⟩::cp) [pr] fun v own=>v=.bool (q j p)∧own [pr]):∀ (m:Nat) (i:Int) (acc:List (Int × ProcS)) (a:Option Addr) (ac:Nat),0≤i→i+m=8→acc.length≤i →
  CtJ E2 Ag5 A11 [(0,P0 b),(1,.func (.func g) ⟨[]⟩ ⟨cp⟩),(5,.slice a acc.length ac),(10,int i)] [slC false Y6 17 a acc.length ac (acc.flatMap Ds0),cmC b k F X,pr] fun v own =>
   ∃ a' c',v=.slice a' (acc++V5 X q m i).length c'∧own [slC false Y6 17 a' (acc++V5 X q m i).length c' ((acc++V5 X q m i).flatMap Ds0),cmC b k F X,pr]:=by
 intro m
 induction m with
 | zero =>
  intro i acc a ac h0 hi ha
  refine CtJ.of D19 fun h r=>Tr.eq (D64 ..) ?_;refine Je ?_
  refine Yf (by simp;omega) ?_
  refine Ys fun o=>?_
  rw [show V5 X q 0 i=[] from rfl,List.append_nil]
  exact ⟨a,ac,rfl,o.sub⟩
 | succ m ih =>
  intro i acc a ac h0 hi ha
  have e1:=wI i
  refine CtJ.of D19 fun h r=>Tr.eq (D64 ..) ?_;refine Je ?_
  refine Yt (by simp;omega) ?_
  rw [e1]
  refine Yc (D03 b k F X ok i) ?_;rintro _ h ⟨rfl,o⟩<;>refine Jh o ?_
  rw [Di7 c (by omega)]
  dsimp only
  generalize hp:(vS X i).1=p
  simp only [List.append_nil,List.nil_append]
  (refine Jc ?_;intros)
  refine Yn fun b1 h=>?_
  (refine Jc ?_;intros)
  refine Yn fun b2 h=>?_
  (refine Jb ?_;intros)
  rw [show V5 X q (m+1) i=if (vS X i).2=1∧q i (vS X i).1=true then (i,(vS X i).1)::V5 X q m (i+1) else V5 X q m (i+1) from rfl,hp]
  by_cases h1:(vS X i).2=1
  ·refine Yb (Yt (by simpa using h1) ?_)
   (refine Jb ?_;intros)
   simp only [List.nil_append]
   refine Yc (hq i p) ?_;rintro _ h ⟨rfl,o⟩<;>refine Jh o ?_
   (refine Jb ?_;intros)
   refine Ys fun o=>(?_:Tr _ _ _ _) o;refine Je ?_
   by_cases h2:q i p=true
   ·rw [if_pos ⟨h1,h2⟩]
    refine Yt h2 ?_
    (refine Jc ?_;intros)
    refine Yn fun b3 h=>?_
    (refine Ja ?_;intros)
    refine Tr.xCellsB (xs:=int i::B6 p) (Es4 (B42 (Bb6 i p))) ?_
    (refine Ja ?_;intros)
    refine Tr.xApd ⟨Bb6 i p,by simp [Value.oneCell],by simp only [A5];omega⟩ fun a' c' h=>?_
    rw [show acc.flatMap Ds0++(int i::B6 p)=(acc++[(i,p)]).flatMap Ds0 by simp,show acc.length+1=(acc++[(i,p)]).length by simp]
    refine H7 [5,4,1] 3 rfl rfl ?_
    refine Yr (ih (i+1) (acc++[(i,p)]) a' c' (by omega) (by omega) (by simp;omega)) ?_
    intro v h q
    rw [List.append_assoc] at q
    exact q
   ·rw [if_neg (fun h3=>h2 h3.2)]
    refine Yf (by simpa using h2) ?_
    refine H7 [4,3,0] 2 rfl rfl ?_
    refine Yr (ih (i+1) acc a ac (by omega) (by omega) (by omega)) ?_
    intro v h q
    exact q
  ·rw [if_neg (fun h3=>h1 h3.1)]
   refine Yb (Yf (by simpa using h1) ?_)
   refine Ys fun o=>(?_:Tr _ _ _ _) o;refine Je ?_
   refine Yf rfl ?_
   refine H7 [3,2,2] 2 rfl rfl ?_
   refine Yr (ih (i+1) acc a ac (by omega) (by omega) (by omega)) ?_
   intro v h q
   exact q
theorem Iz2 (b k:Nat) (F:Fr) (X:CX) (ok:FrOk F) {nc:Nat} (c:Clean nc X) (pr:HP) (g:FuncId) (cp:List Value) (q:Int→ProcS→Bool)
  (hq:∀ (j:Int) (p:ProcS),Ct A3 g (.agg ⟨int j::B6 p⟩::cp) [pr] fun v own=>v=.bool (q j p)∧own [pr]) :
  Ct A3 Ag5 [P0 b,.func (.func g) ⟨[]⟩ ⟨cp⟩] [cmC b k F X,pr] fun v own=>∃ a' c',v=.slice a' (V5 X q 8 0).length c'∧own [slC false Y6 17 a' (V5 X q 8 0).length c' ((V5 X q 8 0).flatMap Ds0),cmC b k F X,pr]:=by
 refine Ct.of D19 rfl fun h r=>Tr.eq (Ht8 ..) ?_;refine Je ?_
 refine H6 false Y6 17 (by omega) ?_
 have J:=Hw9 b k F X ok c pr g cp q hq 8 0 [] none 0 (by omega) (by omega) (by simp)
 simp only [List.nil_append,List.length_nil,List.flatMap_nil] at J
 refine Yr J ?_
 intro v h q
 exact q
theorem Iy2 (bi:Nat) (i:Int) (hi:0≤i∧i<8) (j:Int) (p:ProcS):Ct A3 Bh7 [.agg ⟨int j::B6 p⟩,P0 bi] [pt bi (.cells B2 false [int i])] fun v own=>v=.bool (p.parent==i+1)∧own [pt bi (.cells B2 false [int i])]:=by
 have e1:=wI i
 refine Ct.of Hd2 rfl fun h r=>Tr.eq (He6 ..) ?_;refine Je ?_
 (refine Ja ?_;intros)
 refine Ys fun o=>?_
 rw [e1]
 exact ⟨rfl,o.sub⟩
theorem Iu9 (j:Int) (p:ProcS):Ct A3 A74 [.agg ⟨int j::B6 p⟩] [] fun v own=>v=.bool (p.state != 2)∧own []:=by
 refine Ct.of Ge8 rfl fun h r=>Tr.eq (Ge5 ..) ?_;refine Je ?_
 (refine Ja ?_;intros)
 refine Ys fun o=>?_
 exact ⟨rfl,o.sub⟩
def Eq2 (X:CX) (n:Nat):List (Int × ProcS)→List Value × CX
 | []=>(if n=0 then Q5 0 110 false else Q5 0 0 true,X)
 | s::l=>if s.2.state=2 then (Q5 (256*s.1+s.2.code) 0 false,Go0 X s.1) else Eq2 X n l
def Gz0 (X:CX) (i:Int):List Value × CX :=
 if (O7 X i).2≠0 then (Q5 0 (O7 X i).2 false,X)
 else Eq2 X (V5 X (fun _ p=>p.parent==i+1) 8 0).length (V5 X (fun _ p=>p.parent==i+1) 8 0)
theorem Ep1 {nc:Nat} {X:CX} (c:Clean nc X) (q:Int→ProcS→Bool):∀ (m:Nat) (i:Int),0≤i→i+m=8→∀ s ∈ V5 X q m i,0≤s.1∧s.1<8∧okS s.2=true
 | 0,i,_,_,s,hs=>by simp [V5] at hs
 | m+1,i,h0,hi,s,hs=>by
  rw [show V5 X q (m+1) i=if (vS X i).2=1∧q i (vS X i).1=true then (i,(vS X i).1)::V5 X q m (i+1) else V5 X q m (i+1) from rfl] at hs
  split at hs
  ·rename_i h1
   rcases List.mem_cons.1 hs with rfl|h2
   ·refine ⟨h0,by simp only;omega,?_⟩
    rcases I07 c (i:=i) (by omega) with ⟨h3,_⟩|⟨_,h3⟩
    ·rw [h1.1] at h3;cases h3
    ·exact h3
   ·exact Ep1 c q m (i+1) (by omega) (by omega) s h2
  ·exact Ep1 c q m (i+1) (by omega) (by omega) s hs
theorem Ir7 {p:ProcS} (h:okS p=true):0≤p.code∧p.code≤255:=by
 unfold okS at h
 simp only [Bool.and_eq_true,Bool.not_eq_true',Bool.or_eq_false_iff,decide_eq_false_iff_not] at h
 have:=h.1
 omega
abbrev Jf5:List Value:=[int 0,int 0,.slice none 0 0,.bool false]
theorem If7 (b k:Nat) (F:Fr) (X:CX) (ok:FrOk F) {nc:Nat} (c:Clean nc X) (b4:Nat) (L:List (Int × ProcS)) (hL:∀ s ∈ L,0≤s.1∧s.1<8∧okS s.2=true) (h8:L.length≤8) (a:Option Addr) (ac:Nat):∀ (m i:Nat),i+m=L.length →
  CtJ E2 Ab8 Br3 [(0,P0 b),(4,P0 b4),(7,.slice a L.length ac),(23,.slice a L.length ac),(24,int L.length),(25,int i)] [slC false Y6 17 a L.length ac (L.flatMap Ds0),pt b4 (.cells O8 false Jf5),cmC b k F X] fun v own =>
   v=.agg ⟨(Eq2 X L.length (L.drop i)).1⟩∧own [cmC b k F (Eq2 X L.length (L.drop i)).2]:=by
 intro m
 induction m with
 | zero =>
  intro i hi
  rw [show L.drop i=[] from List.drop_eq_nil_of_le (by omega),show Eq2 X L.length []=(if L.length=0 then Q5 0 110 false else Q5 0 0 true,X) from rfl]
  refine CtJ.of Dk1 fun h r=>Tr.eq (Ei7 ..) ?_;refine Je ?_
  refine Yf (by simp;omega) ?_
  by_cases hz:L.length=0
  ·rw [if_pos hz]
   refine Yt (by simp [hz]) ?_
   refine Yc (Bi9 110) ?_;rintro _ h ⟨rfl,o⟩<;>(refine Jf o ?_;intros)
   refine Ys fun o=>?_
   exact ⟨rfl,o.sub⟩
  ·rw [if_neg hz]
   refine Yf (by simpa using hz) ?_
   (refine Ja ?_;intros)
   refine Ys fun o=>?_
   exact ⟨rfl,o.sub⟩
 | succ m ih =>
  intro i hi
  have hil:i<L.length:=by omega
  have e1:=wN i
  have hg:L[i]?=some L[i]:=List.getElem?_eq_getElem hil
  have hd:L.drop i=L[i]::L.drop (i+1):=List.drop_eq_getElem_cons hil
  obtain ⟨r1,r2,r3⟩:=hL _ (List.getElem_mem hil)
  rw [hd]
  generalize L[i]=s at hg r1 r2 r3
  obtain ⟨j,p⟩:=s
  simp only at r1 r2 r3
  rw [show Eq2 X L.length ((j,p)::L.drop (i+1))=if p.state=2 then (Q5 (256*j+p.code) 0 false,Go0 X j) else Eq2 X L.length (L.drop (i+1)) from rfl]
  have hpart:=A41 (f:=Ds0) (k:=17) (fun x=>Bb6 x.1 x.2) hg
  have hlen:=Q7 (f:=Ds0) (k:=17) (fun x=>Bb6 x.1 x.2) L
  have hc:=Ir7 r3
  have e2:IntKind.wrap .i64 (256*j)=256*j:=by rw [A8];omega
  have e3:IntKind.wrap .i64 (256*j+p.code)=256*j+p.code:=by rw [A8];omega
  refine CtJ.of Dk1 fun h r=>Tr.eq (Ei7 ..) ?_;refine Je ?_
  refine Yt (by simp;omega) ?_
  rw [e1]
  refine Aa8 0 rfl fun h1 h2 h3=>?_
  (refine Jc ?_;intros;repeat(refine Gw ?_;rintro px rfl;refine Jc ?_;intros))
  rw [Int.toNat_natCast]
  refine Tr.xAggS (xs:=Ds0 (j,p)) ⟨by omega,by omega,hpart⟩ ?_
  refine Yn fun b2 h=>?_
  (refine Ja ?_;intros)
  refine Yc (Iu9 j p) ?_;rintro _ h ⟨rfl,o⟩<;>refine Jh o ?_
  (refine Ja ?_;intros)
  by_cases hz:p.state=2
  ·rw [if_pos hz]
   refine Yt (by simp [hz]) ?_
   (refine Ja ?_;intros)
   refine Yc (Hg9 b k F X ok j) ?_;rintro _ h ⟨rfl,o⟩<;>refine Jh o ?_
   rw [(G53 c ⟨r1,r2⟩).1]
   dsimp only
   (refine Ja ?_;intros)
   rw [e2,e3]
   refine Yc (H42 true (256*j+p.code)) ?_;rintro _ h ⟨rfl,o⟩<;>refine Jh o ?_
   rw [if_pos trivial]
   (refine Ja ?_;intros)
   refine Ys fun o=>?_
   exact ⟨rfl,o.sub⟩
  ·rw [if_neg hz]
   refine Yf (by simp [hz]) ?_
   refine H7 [1,1,1] 1 rfl rfl ?_
   refine Yr (ih (i+1) (by omega)) ?_
   intro v h q
   exact q
theorem H52 (b k:Nat) (F:Fr) (X:CX) (ok:FrOk F) {nc:Nat} (c:Clean nc X) (i:Int) (hi:0≤i∧i<8):Ct A3 Ab8 [P0 b,int i] [cmC b k F X] fun v own=>v=.agg ⟨(Gz0 X i).1⟩∧own [cmC b k F (Gz0 X i).2]:=by
 unfold Gz0
 refine Ct.of Dk1 rfl fun h r=>Tr.eq (Gg6 ..) ?_;refine Je ?_
 refine Yn fun bi h=>?_
 refine Yn fun b4 h=>?_
 (refine Ja ?_;intros)
 refine Yc (G56 b k F X ok c i hi) ?_;rintro _ h ⟨rfl,o⟩<;>refine Jh o ?_
 (refine Jc ?_;intros)
 refine Yn fun b2 h=>?_
 (refine Ja ?_;intros)
 by_cases h0:(O7 X i).2=0
 case neg =>
  rw [if_pos h0]
  refine Yt (by simpa using h0) ?_
  refine Yc (Bi9 (O7 X i).2) ?_;rintro _ h ⟨rfl,o⟩<;>(refine Jf o ?_;intros)
  refine Ys fun o=>?_
  exact ⟨rfl,o.sub⟩
 rw [if_neg (by simpa using h0)]
 refine Yf (by simpa using h0) ?_
 refine Yc (Iz2 b k F X ok c (pt bi (.cells B2 false [int i])) Bh7 [P0 bi] (fun _ p=>p.parent==i+1) (fun j p=>Iy2 bi i hi j p)) ?_;rintro _ h ⟨a,ac,rfl,o⟩<;>refine Jh o ?_
 (refine Ja ?_;intros)
 refine H7 [0,3,0] 2 rfl rfl ?_
 refine Yr (If7 b k F X ok c b4 _ (Ep1 c _ 8 0 (by omega) (by omega)) (Gu1 X _ 8 0) a ac _ 0 (Nat.zero_add _)) ?_
 intro v h q
 exact q
def p0:ProcS:=⟨1,0,0,0,0,0,0,0,[1,0,0,0,0,0,0,0],rfl⟩
def f0:FileS:=⟨3,0,1,0⟩
def S6:List UInt8:=B7 (B7 Ad9 0 (Ee2 p0)) 192 (Ag6 f0)
theorem An0:S6.length=492:=by kernel_rfl
theorem E85:(Ee2 p0).length=24:=by kernel_rfl
theorem E72 (l b:List UInt8) (a:Nat):(A0 l).take a++A0 b++(A0 l).drop (a+(A0 b).length)=A0 (B7 l a b):=by
 rw [N8]
 simp [B7,A0,List.map_take,List.map_drop]
theorem H62 {b:List UInt8} (h:0<b.length):A0 b≠[]:=by
 intro e
 have e2:=congrArg List.length e
 rw [N8] at e2
 have e3:b.length=0:=e2
 omega
theorem Hi1:Ct A3 Bi6 [] [] fun v own=>∃ a,v=.slice a 492 492∧own [slC false A1 1 a 492 492 (A0 S6)]:=by
 refine Ct.of Hc2 rfl fun h r=>Tr.eq (Hc6 ..) ?_;refine Je ?_
 refine Yc (Hb4) ?_;rintro _ h ⟨rfl,o⟩<;>refine Jh o ?_
 (refine Jc ?_;intros)
 rw [O3,Ad1]
 refine Tr.ck (by simp [A5]) ?_
 refine Yn fun b0 h=>?_
 refine Bq3 (n:=492) 0 rfl (by rw [N8];exact Ad1) ?_
 refine Je ?_
 refine Yn fun b1 h=>?_
 (refine Ja ?_;intros)
 rw [show ([int 1,int 0,int 0,int 0,int 0,int 0,int 0,int 0,int 0,int 0,int 0,int 0,int 0,int 0,int 0,int 0]:List Value).set 8 (int 1)=B6 p0 from rfl]
 (refine Ja ?_;intros)
 refine Yc (E15 p0) ?_;rintro _ h ⟨rfl,o⟩<;>refine Jh o ?_
 (refine Ja ?_;intros)
 rw [show List.take (min (bs (Ee2 p0)).size 492) (bs (Ee2 p0)).data.toList=Ee2 p0 by kernel_rfl]
 rw [show B0 (G9 b0)=(B0 (G9 b0)).add 0 from rfl]
 refine Tr.xPAggS (cs':=A0 (B7 Ad9 0 (Ee2 p0))) ⟨H62 (by rw [E85];omega),by rw [N8,N8,E85,Ad1];omega,Ad2 _,E72 _ _ 0⟩ fun h=>?_
 (refine Ja ?_;intros)
 refine Yc (G72 f0) ?_;rintro _ h ⟨rfl,o⟩<;>refine Jh o ?_
 (refine Ja ?_;intros)
 rw [show List.take (min (bs (Ag6 f0)).size (492-192)) (bs (Ag6 f0)).data.toList=Ag6 f0 by kernel_rfl]
 rw [Gd7 (by omega),D06]
 refine Tr.xPAggS (cs':=A0 S6) ⟨H62 (by rw [D24];omega),by rw [N8,N8,Q3 (by rw [E85,Ad1];omega),D24,Ad1];omega,Ad2 _,E72 _ _ 192⟩ fun h=>?_
 refine Ys fun o=>?_
 exact ⟨_,rfl,o.sub⟩
theorem Ga0 {S:KS} (kS:Like S) {s:Nat} {env:Int} (e:EnvP s env) {j:Nat} {cap:Int} {lo n:Nat} (hc:Ie9[j]?=some cap) (hr:(rgP s)[j]?=some (lo,n)) {b:List UInt8} (hb:b.length≤n) :
  W0 S env ⟨2,cap,0,0,0,0,b⟩=((0,0,[]),Ao8 S (B7 S.mem lo b)):=by
 have F:=Gy5 kS e
 have hroom:lo+n≤S.mem.length:=Dw6 kS e.hs env j lo n hr
 have hp:=F.pl j cap lo n hc hr 0 b.length 2 (.inr rfl) (by omega)
 have hs:Bi0 S.mem ((lo+0:Nat):Int) b=some (B7 S.mem lo b):=by
  unfold Bi0
  rw [if_pos (by omega),Int.toNat_natCast,Nat.add_zero];rfl
 have ew:Ao6 S.tabs S.regs S.mem env cap 0 b=(0,B7 S.mem lo b):=by
  unfold Ao6
  rw [show Q6 S.tabs S.regs env cap 2 0 (b.length:Int)=(((lo+0:Nat):Int),0) from hp]
  rw [if_neg (by simp),hs]
 unfold W0
 rw [if_neg (show ¬ (env<0∨env≥(S.envs.length:Int)) from F.env)]
 unfold kDo
 rw [if_neg (show ¬ ((2:Int)=1) by decide),if_pos rfl,ew]
def q1:PipeS:=⟨0,0,1,1,List.replicate 32 0,rfl⟩
def S1:KS:=Ao8 S0 (B7 S0.mem 0 S6)
def S2:KS:=Ao8 S1 (B7 S1.mem 512 (D3 q1))
def S3:KS:=Ao8 S2 (B7 S2.mem 1856 (D3 q1))
theorem M8:(D3 q1).length=40:=D10 q1.len
theorem Gx4:Like S1:=Dg2 A77 (by rw [Q3 (by rw [An0,A77.mem];omega)];exact A77.mem)
theorem Gw1:Like S2:=Dg2 Gx4 (by rw [Q3 (by rw [M8,Gx4.mem];omega)];exact Gx4.mem)
theorem Iz4:Like S3:=Dg2 Gw1 (by rw [Q3 (by rw [M8,Gw1.mem];omega)];exact Gw1.mem)
theorem Je8:W0 S0 0 ⟨2,256,0,0,0,0,S6⟩=((0,0,[]),S1):=Ga0 A77 Eq6 (j:=0) rfl rfl (by rw [An0];omega)
theorem Jd8:W0 S1 0 ⟨2,257,0,0,0,0,D3 q1⟩=((0,0,[]),S2):=Ga0 Gx4 Eq6 (j:=1) rfl rfl (by rw [M8];omega)
theorem Jf6:W0 S2 0 ⟨2,258,0,0,0,0,D3 q1⟩=((0,0,[]),S3):=Ga0 Gw1 Eq6 (j:=2) rfl rfl (by rw [M8];omega)
abbrev F1:Fr:=frP S3 0 0
def X1:CX:=⟨Da1 S3.mem (rgP 0),[]⟩
theorem Gq5:FrOk F1:=Gy5 Iz4 Eq6
theorem Ax8:Clean 3 X1:=by
 refine ⟨by kernel_rfl,by omega,rfl,by kernel_rfl,fun j h0 h1=>?_,fun r h1 h2 h3 h4=>?_⟩
 ·have:j=1∨j=2:=by omega
  rcases this with rfl|rfl
  ·clear h0 h1;show (_:Nat)=_;kernel_rfl
  ·clear h0 h1;show (_:Nat)=_;kernel_rfl
 ·have all:((List.range 8).all (fun i=>decide (stR 1 (rd X1 ⟨1,(i:Int)⟩)≠2)) && ((List.range 12).all (fun i=>decide (stR 2 (rd X1 ⟨2,(i:Int)⟩)≠2)) && ((List.range 6).all (fun i=>decide (stR 3 (rd X1 ⟨3,(i:Int)⟩)≠2)) && (decide (stR 4 (rd X1 ⟨4,0⟩)≠2) && decide (stR 5 (rd X1 ⟨5,0⟩)≠2)))))=true:=by kernel_rfl
  simp only [Bool.and_eq_true,List.all_eq_true,List.mem_range,decide_eq_true_eq] at all
  obtain ⟨a1,a2,a3,a4,a5⟩:=all
  obtain ⟨k,i⟩:=r
  simp only at h1 h2 h3 h4 ⊢
  obtain ⟨n,rfl⟩:∃ n:Nat,i=n:=⟨i.toNat,by omega⟩
  have hk:k=1∨k=2∨k=3∨k=4∨k=5:=by omega
  rcases hk with rfl|rfl|rfl|rfl|rfl<;>simp [I1] at h4
  ·exact a1 n (by omega)
  ·exact a2 n (by omega)
  ·exact a3 n (by omega)
  ·obtain rfl:n=0:=by omega
   exact a4
  ·obtain rfl:n=0:=by omega
   exact a5
theorem If8 (k w m c:Nat) (b1:Nat) (cs:List Value) (hcs:cs.length=7) (K:RKS) (hK:RKOk K) (hB:0<K.B.envs.length) :
  CtJ E2 W8 A39 [(6,P0 k),(7,P0 c),(8,P0 w),(9,P0 m),(10,P0 b1),(11,.string (bs (D3 q1))),(12,int 1)] [pt b1 (.cells As4 false cs),D5 k S1,rkC w K] fun v own =>
   v=.tuple ⟨[P0 k,P0 c,P0 w,P0 m]⟩∧∃ K',own [D5 k S3,rkC w K']:=by
 have hset:∀ xs:List Value,xs.length=7→∀ vs:List Value,vs.length=7→vs.all Value.oneCell=true→D90 xs 0 vs=some vs:=fun xs h vs h1 h2=>A16 h h1 h2
 refine CtJ.of An6 fun h r=>Tr.eq (Aq0 ..) ?_;refine Je ?_
 refine Yt rfl ?_
 rw [O3,M8]
 refine Tr.ck (by simp [A5]) ?_
 refine Yn fun b2 h=>?_
 refine Bq3 (n:=40) 0 rfl (by rw [N8];exact M8) ?_
 refine Je ?_
 rw [show IntKind.wrap .i64 (256+1)=257 by decide]
 refine Gs (fun h=>?_) (by exact hset cs hcs _ rfl rfl)
 (refine Ja ?_;intros)
 have J1:=B46 k S1 0 Gx4.ok (by omega) 0 ⟨2,257,0,0,0,0,D3 q1⟩ (some (G9 b2)) 40 false (show ((2:Int)≠5) by decide)
 rw [Jd8] at J1
 simp only [Am6,M8] at J1
 refine Am5 J1 [2,0] rfl ?_
 rintro _ h ⟨y,z,rfl,o⟩
 refine (?_:Tr _ _ _ _) o
 refine Je ?_
 (refine Ja ?_;intros)
 have R1:=Dg1 w K hK 0 hB ⟨2,257,0,0,0,0,D3 q1⟩ rfl (by rw [M8];simp [A5]) (slC false A1 1 (some (G9 b2)) (D3 q1).length 40 (A0 (D3 q1))) (some (G9 b2)) 40 false
 simp only [Am6,M8] at R1
 refine Am5 R1 [4,2] rfl ?_
 rintro _ h ⟨rfl,o⟩
 rw [show ({ K with R:=(Z8 K.R ((0:Nat):Int) 257 0 (D3 q1)).2 }:RKS)=wrR K 257 (D3 q1) from rfl] at o
 have hK1:=Eg4 hK 257 (D3 q1)
 refine (?_:Tr _ _ _ _) o
 refine Je ?_
 (refine Ja ?_;intros)
 refine Tr.jmp An6 (Tr.eq (Aq0 ..) ?_);(try simp only[Nr,Nl,wl,Nat.reduceAdd,Nat.reduceMul,Int.reduceToNat])
 refine Yt rfl ?_
 rw [O3,M8]
 refine Tr.ck (by simp [A5]) ?_
 refine Yn fun b3 h=>?_
 refine Bq3 (n:=40) 0 rfl (by rw [N8];exact M8) ?_
 refine Je ?_
 rw [show IntKind.wrap .i64 (256+2)=258 by decide]
 refine Gs (fun h=>?_) (by exact hset _ rfl _ rfl rfl)
 (refine Ja ?_;intros)
 have J2:=B46 k S2 0 Gw1.ok (by omega) 0 ⟨2,258,0,0,0,0,D3 q1⟩ (some (G9 b3)) 40 false (show ((2:Int)≠5) by decide)
 rw [Jf6] at J2
 simp only [Am6,M8] at J2
 refine Am5 J2 [4,0] rfl ?_
 rintro _ h ⟨y2,z2,rfl,o⟩
 refine (?_:Tr _ _ _ _) o
 refine Je ?_
 (refine Ja ?_;intros)
 have R2:=Dg1 w (wrR K 257 (D3 q1)) hK1 0 hB ⟨2,258,0,0,0,0,D3 q1⟩ rfl (by rw [M8];simp [A5]) (slC false A1 1 (some (G9 b3)) (D3 q1).length 40 (A0 (D3 q1))) (some (G9 b3)) 40 false
 simp only [Am6,M8] at R2
 refine Am5 R2 [3,2] rfl ?_
 rintro _ h ⟨rfl,o⟩
 rw [show ({ wrR K 257 (D3 q1) with R:=(Z8 (wrR K 257 (D3 q1)).R ((0:Nat):Int) 258 0 (D3 q1)).2 }:RKS)=wrR (wrR K 257 (D3 q1)) 258 (D3 q1) from rfl] at o
 refine (?_:Tr _ _ _ _) o
 refine Je ?_
 (refine Ja ?_;intros)
 refine Tr.jmp An6 (Tr.eq (Aq0 ..) ?_);(try simp only[Nr,Nl,wl,Nat.reduceAdd,Nat.reduceMul,Int.reduceToNat])
 refine Yf rfl ?_
 refine Ys fun o=>?_
 exact ⟨rfl,_,o.fin [3,0] 5 rfl rfl⟩
theorem Gs2:RKOk K0:=Eg4 Ee7.1 256 Ad9
theorem Ef7:0<K0.B.envs.length:=by show (0:Nat)<(Dp1 Ak2).B.envs.length;rw [Ee7.2,B12];simp
theorem I16 (a:Option Addr):Ct A3 W8 [.slice a 492 492] [slC false A1 1 a 492 492 (A0 S6)] fun v own=>∃ k c w m K',v=.tuple ⟨[P0 k,P0 c,P0 w,P0 m]⟩∧own [cmC c k F1 X1,rkC w K',rcC m w 0 (Bz0 K0 0) []]:=by
 refine Ct.of An6 rfl fun h r=>Tr.eq (E76 ..) ?_;refine Je ?_
 refine Yc (Hi9) ?_;rintro _ h ⟨A,rfl,o⟩<;>refine Jh o ?_
 (refine Ja ?_;intros)
 refine Yc (Hn3 A) ?_
 rintro _ h ⟨k,c,w,m,rfl,o⟩
 refine (?_:Tr _ _ _ _) o
 refine Je ?_
 (refine Jb ?_;intros)
 refine Yb (Yf rfl ?_)
 refine Ys fun o=>(?_:Tr _ _ _ _) o;refine Je ?_
 refine Yf rfl ?_
 refine Ip6 c k F0 X0 fun f=>?_
 rw [show F0.at X0.m=S0 from Fr.at_cut Bs1 (Dw6 A77 (by omega) 0)]
 refine (?_:Tr (D5 k S0::N4 c k 0 Ie9 []::_) _ _ _)
 refine Yn fun b1 h=>?_
 (refine Ja ?_;intros)
 refine Yc (D88 q1) ?_;rintro _ h ⟨rfl,o⟩<;>refine Jh o ?_
 (refine Ja ?_;intros)
 have J1:=B46 k S0 0 A77.ok (by omega) 0 ⟨2,256,0,0,0,0,S6⟩ a 492 false (show ((2:Int)≠5) by decide)
 rw [Je8] at J1
 simp only [Am6,An0] at J1
 refine Am5 J1 [1,4] rfl ?_
 rintro _ h ⟨y,z,rfl,o⟩
 refine (?_:Tr _ _ _ _) o
 refine Je ?_
 (refine Ja ?_;intros)
 have R1:=Dg1 w K0 Gs2 0 Ef7 ⟨2,256,0,0,0,0,S6⟩ rfl (by rw [An0];simp [A5]) (slC false A1 1 a S6.length 492 (A0 S6)) a 492 false
 simp only [Am6,An0] at R1
 refine Am5 R1 [5,2] rfl ?_
 rintro _ h ⟨rfl,o⟩
 rw [show ({ K0 with R:=(Z8 K0.R ((0:Nat):Int) 256 0 S6).2 }:RKS)=wrR K0 256 S6 from rfl] at o
 refine (?_:Tr _ _ _ _) o
 refine Je ?_
 (refine Ja ?_;intros)
 refine Dv2 (If8 k w m c b1 _ rfl (wrR K0 256 S6) (Eg4 Gs2 256 S6) Ef7) [4,3,0] rfl ?_
 rintro _ h ⟨rfl,K',o⟩
 refine ⟨k,c,w,m,K',rfl,?_⟩
 exact Own.cmTake c k F1 [] Gq5 (Dw6 Iz4 (by omega) 0) (o.fin [0,3,0,2] 2 rfl rfl)
theorem H90 {nc:Nat} {X:CX} (c:Clean nc X) {i:Int} (hi:0≤i∧i<8):Clean nc (D74 X i).2:=by
 unfold D74
 by_cases h0:(O7 X i).2=0
 case neg=>rw [if_pos h0];exact c
 rw [if_neg (by simpa using h0)]
 by_cases h1:Ak3 X 8 0<0
 ·rw [if_pos h1];exact c
 rw [if_neg h1]
 by_cases h2:(Aa0 X (O7 X i).1).1=0
 case neg=>rw [if_pos h2];exact c
 rw [if_neg (by simpa using h2)]
 obtain ⟨s1,s2,s3,s4⟩:=Ek4 c hi h0
 have hf:B10 (O7 X i).1.fds:=by rw [s1];exact G00 s3
 have hok:okS (Bj2 (O7 X i).1 i)=true:=by rw [s1];exact Hu0 s3 s2 hi
 have hin:InS (Bj2 (O7 X i).1 i):=by
  have:=Gc6 (rd X ⟨1,i⟩)
  rw [s1]
  exact ⟨by simp,this.b,this.c,this.d⟩
 have hfr:0≤Ak3 X 8 0∧Ak3 X 8 0<8:=by
  rcases E63 (X:=X) 8 0 (by omega) (by omega) with h|h<;>omega
 exact (Br9 (E94 c hf h2).1 hfr hok hin).2.1
def X2:CX:=(D74 X1 0).2
theorem Hi7:Clean 3 X2:=H90 Ax8 (by omega)
theorem Je4:Gz0 X1 0=(Q5 0 110 false,X1):=by kernel_rfl
theorem Je2:(D74 X1 0).1=Q5 1 0 false:=by kernel_rfl
theorem Jd7:Gz0 X2 0=(Q5 0 0 true,X2):=by kernel_rfl
theorem Jd4:O7 X2 1=(Bj2 p0 0,0):=by kernel_rfl
theorem Id1:Ct A3 B02 [] [] fun v own=>v=.bool true∧own []:=by
 refine Ct.of Hf0 rfl fun h r=>Tr.eq (Hc1 ..) ?_;refine Je ?_
 refine Yc (Hi1) ?_;rintro _ h ⟨a,rfl,o⟩<;>refine Jh o ?_
 (refine Ja ?_;intros)
 refine Yc (I16 a) ?_
 rintro _ h ⟨k,c,w,m,K',rfl,o⟩
 refine (?_:Tr _ _ _ _) o
 refine Je ?_
 (refine Ja ?_;intros)
 refine Yc (H52 c k F1 X1 Gq5 Ax8 0 (by omega)) ?_;rintro _ h ⟨rfl,o⟩<;>refine Jh o ?_
 rw [Je4]
 dsimp only
 (refine Jc ?_;intros)
 refine Yn fun b1 h=>?_
 (refine Ja ?_;intros)
 refine Yc (I48 c k F1 X1 Gq5 Ax8 0 (by omega)) ?_;rintro _ h ⟨rfl,o⟩<;>refine Jh o ?_
 rw [Je2,show (D74 X1 0).2=X2 from rfl]
 (refine Jc ?_;intros)
 refine Yn fun b2 h=>?_
 (refine Ja ?_;intros)
 refine Yc (H52 c k F1 X2 Gq5 Hi7 0 (by omega)) ?_;rintro _ h ⟨rfl,o⟩<;>refine Jh o ?_
 rw [Jd7]
 dsimp only
 (refine Jc ?_;intros)
 refine Yn fun b3 h=>?_
 (refine Ja ?_;intros)
 refine Yc (G56 c k F1 X2 Gq5 Hi7 1 (by omega)) ?_;rintro _ h ⟨rfl,o⟩<;>refine Jh o ?_
 rw [Jd4]
 dsimp only
 (refine Jc ?_;intros)
 refine Yn fun b4 h=>?_
 (refine Jb ?_;intros)
 refine Yb (Yt rfl ?_)
 (refine Jb ?_;intros)
 refine Ys fun o=>(?_:Tr _ _ _ _) o;refine Je ?_
 refine Yb (Yt rfl ?_)
 (refine Jb ?_;intros)
 refine Ys fun o=>(?_:Tr _ _ _ _) o;refine Je ?_
 refine Yb (Yt rfl ?_)
 (refine Jb ?_;intros)
 refine Ys fun o=>(?_:Tr _ _ _ _) o;refine Je ?_
 refine Yb (Yt rfl ?_)
 refine Ys fun o=>(?_:Tr _ _ _ _) o;refine Je ?_
 refine Yb (Yt rfl ?_)
 (refine Jb ?_;intros)
 refine Ys fun o=>(?_:Tr _ _ _ _) o;refine Je ?_
 refine Yb (Yt rfl ?_)
 (refine Jb ?_;intros)
 refine Ys fun o=>(?_:Tr _ _ _ _) o;refine Je ?_
 refine Ys fun o=>?_
 refine ⟨rfl,?_⟩
 exact o.tail.tail.tail.tail.tail.tail.tail
abbrev Ga1:List (Int × Int):=[(0,492),(1280,492),(512,40),(1856,40)]
theorem Jb6 (rg m s:Nat) (bs:List UInt8) (hl:bs.length=2560):Ct A3 Ah7 [P0 rg,int 0] [Z7 rg m s Ga1,Af6 m bs] fun v own =>
  ∃ x d,v=.tuple ⟨[.slice x 492 d,int 0]⟩∧own [slC false A1 1 x 492 d (A0 (slice bs 0 492)),Z7 rg m s Ga1,Af6 m bs]:=by
 have hb:Dj2 bs 0 492=some (slice bs 0 492):=by unfold Dj2;rw [if_pos (by omega)];rfl
 have hsl:(slice bs 0 492).length=492:=D62 (by omega)
 refine Ct.of Eq8 rfl fun h r=>Tr.eq (Eo0 ..) ?_;refine Je ?_
 refine A9 (Z7 rg m s Ga1) fun ⟨ra,rc⟩=>?_;refine Je ?_
 (refine Jb ?_;intros)
 refine Yb (Yf rfl ?_)
 (refine Jb ?_;intros)
 refine Ys fun o=>(?_:Tr _ _ _ _) o;refine Je ?_
 refine Yf rfl ?_
 (refine Ja ?_;intros)
 refine Dl9 1 rfl (show 0<Ga1.length by decide) fun px e=>?_
 subst e
 (refine Ja ?_;intros)
 refine Tr.ck ⟨by omega,by decide⟩ ?_
 (refine Ja ?_;intros)
 refine Tr.ck ⟨by omega,by decide⟩ ?_
 (refine Ja ?_;intros)
 refine Yc (H50 m bs 0 492 (by omega)) ?_
 rintro v h (⟨l,x,d,e,rfl,o⟩|⟨e,_⟩)
 ·rw [hb] at e;cases e
  refine (?_:Tr _ _ _ _) o
  refine Je ?_
  rw [hsl]
  (refine Ja ?_;intros)
  refine A4 (Z7 rg m s Ga1) (some px,rc) ?_;refine Je ?_
  refine Ys fun o=>?_
  exact ⟨x,d,rfl,o.sub⟩
 ·rw [hb] at e;cases e
theorem Hs0 (k:Nat) (S:KS) (A:KA):CtP A3 V3 [P0 k] [pt k (.cells Dj8 false (Et9 S A))] (P0 A.r):=by
 refine CtP.of Ey4 rfl fun h r=>Tr.eq (Ey5 ..) ?_;refine Je ?_
 exact Jz
theorem Je7 {S:KS} (kS:Like S) {env:Int} (e:EnvP 0 env) {m:List (List UInt8)} (f:Fit S.mem.length (rgP 0) m):slice (Ao3 S.mem (rgP 0) m) 0 492=m.getD 0 []:=by
 obtain ⟨_,x,hx,hl⟩:=f.each 0 0 492 rfl
 have e0:m.getD 0 []=x:=by rw [List.getD_eq_getElem?_getD,hx];rfl
 have hs:=En2 f (Gy5 kS e).dj (j:=0) (lo:=0) (n:=492) rfl hx (a:=0) (c:=492) (by omega)
 rw [e0]
 rw [show (0+0:Nat)=0 from rfl] at hs
 rw [hs]
 unfold slice
 rw [List.drop_zero,List.take_of_length_le (by omega)]
theorem I68 (F:Fr) (m:List (List UInt8)):(F.at m).regs=F.S.regs:=rfl
theorem Je5 (S:KS) (s:Nat) (env:Int):(frP S s env).S=S:=rfl
end Go.EQ
