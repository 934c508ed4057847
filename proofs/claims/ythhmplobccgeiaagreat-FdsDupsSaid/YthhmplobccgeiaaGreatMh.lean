/- What is doubled is one file: closed as often as it was doubled it is gone, not sooner; a double to itself does nothing; no conditions. -/
import Derived.Test.YthhmplobccgeiaaGreatMg
import Derived.KernelRfl
import Derived.Test.YthhmplobccgeiaaGreatRows
set_option linter.all false
set_option maxRecDepth 10000
namespace Go.EQ
open Go Go.NN
theorem Ga4 (k:Nat) (S:KS) (A:KA):CtP A7 Ak9 [P0 k] [pt k (.cells Dw3 false (Er2 S A))] (P0 A.s):=by
 refine CtP.of Et8 rfl fun h r=>Tr.eq (Es7 ..) ?_;refine Je ?_
 exact Jz
theorem H75 (k:Nat) (S:KS) (N:Nat) (ok:KOk N S) (env:Int):Ct A7 Bp3 [P0 k,int env] [D7 k S] fun v own =>
  (A35 S.tabs env≠[]∧∃ c,v=.tuple ⟨[P0 c,int 0]⟩∧own [V4 c k env (A35 S.tabs env) [],D7 k S])∨(A35 S.tabs env=[]∧v=.tuple ⟨[.pointer none,int 1]⟩∧own [D7 k S]):=by
 refine Ct.of Go3 rfl fun h r=>Tr.eq (Gp3 ..) ?_;refine Je ?_
 refine B3 (D7 k S) fun ⟨m,s,q,rg,ea,ec,ma,mc,ms,sa,sc,ss⟩=>?_;refine Je ?_
 (refine Jb ?_;unhygienic intros)
 refine Yb (Yf rfl ?_)
 refine Tr.pcall (Ga4 k S ⟨m,s,q,rg,ea,ec,ma,mc,ms,sa,sc,ss⟩) ?_;refine Je ?_;(refine Ja ?_;unhygienic intros)
 try dsimp only
 refine Yc (E71 s S.tabs env ok.space) ?_;rintro _ h ⟨a0,c0,rfl,o⟩<;>refine Jh o ?_
 (refine Ja ?_;unhygienic intros)
 refine Ys fun o=>(?_:Tr _ _ _ _) o;refine Je ?_
 by_cases hz:A35 S.tabs env=[]
 ·refine Yt (by simp [hz]) ?_
  refine B1 (D7 k S) ⟨m,s,q,rg,ea,ec,ma,mc,ms,sa,sc,ss⟩ ?_;refine Je ?_
  refine Ys fun o=>?_
  exact .inr ⟨hz,rfl,o.sub⟩
 ·refine Yf ?_ ?_
  ·rw [beq_eq_false_iff_ne]
   intro h0
   exact hz (List.eq_nil_of_length_eq_zero (by omega))
  refine Tr.pcall (Ga4 k S ⟨m,s,q,rg,ea,ec,ma,mc,ms,sa,sc,ss⟩) ?_;refine Je ?_;(refine Ja ?_;unhygienic intros)
  try dsimp only
  refine Yc (E71 s S.tabs env ok.space) ?_;rintro _ h ⟨a1,c1,rfl,o⟩<;>refine Jh o ?_
  (refine Jc ?_;unhygienic intros)
  refine Yn fun mb h=>?_
  refine Yn fun c h=>?_
  refine B1 (D7 k S) ⟨m,s,q,rg,ea,ec,ma,mc,ms,sa,sc,ss⟩ ?_;refine Je ?_
  refine D9 (V4 c k env (A35 S.tabs env) []) (a1,c1,mb) [1,2,1] rfl ?_;refine Je ?_
  refine Ys fun o=>?_
  exact .inl ⟨hz,c,rfl,o.sub⟩
def A58:PlanS:=⟨[false,false],[(0,1),(1,0)],5⟩
theorem H05:Ct A7 Bv7 [] [] fun v own=>∃ A,v=.agg ⟨Eo9 A58 A⟩∧own (Df9 A58 A):=by
 refine Ct.of Gw1 rfl fun h r=>Tr.eq (G08 ..) ?_;refine Je ?_
 (refine Jc ?_;unhygienic intros;rename H=>h)
 refine Yn fun b h=>?_
 refine Yn fun b1 h=>?_
 refine Yn fun b2 h=>?_
 (refine Ja ?_;unhygienic intros;rename H=>h)
 refine Ah2 0 rfl 2 2 rfl (by omega) ?_
 refine Ah2 1 rfl 1 2 rfl (by omega) ?_
 refine Je ?_
 refine Ys fun o=>?_
 exact ⟨⟨some ⟨b1,0,none⟩,2,some ⟨b2,0,none⟩,2⟩,rfl,(show Own h (slC false Bx6 2 (some ⟨b2,0,none⟩) A58.brs.length 2 (A58.brs.flatMap brL)::slC false E78 1 (some ⟨b1,0,none⟩) A58.bad.length 2 (A58.bad.map Value.bool)::_) from o).sub⟩
def Ag0:BootS:=En4 A58
theorem G05:Bo4 Ag0=true:=by kernel_rfl
theorem Ev6:Small Ag0:=by
 have e:Ag0=⟨[20,20],[0,0,0,0,0,0,0,0,0,1,1,1,1,1,1,1,1,1],[[0],[1]],5,[⟨0,0,0,492,[0]⟩,⟨1,0,0,492,[1]⟩,⟨0,8,0,40,[0,1]⟩,⟨1,9,0,40,[1,0]⟩]⟩:=by kernel_rfl
 rw [e]
 exact ⟨by simp [A8],by simp [A8],by simp [A8]⟩
theorem Bs2:Ag0=⟨[20,20],[0,0,0,0,0,0,0,0,0,1,1,1,1,1,1,1,1,1],[[0],[1]],5,[⟨0,0,0,492,[0]⟩,⟨1,0,0,492,[1]⟩,⟨0,8,0,40,[0,1]⟩,⟨1,9,0,40,[1,0]⟩]⟩:=by kernel_rfl
theorem H79:RBoot Ag0 (Ah0 Ag0.frames):=by
 rw [Bs2]
 refine ⟨by simp,by simp,by simp,fun x hx=>?_,fun x hx=>?_⟩
 ·simp only [List.mem_cons,List.not_mem_nil,or_false] at hx
  rcases hx with rfl|rfl|rfl|rfl<;>simp [A8]
 ·simp only [List.mem_cons,List.not_mem_nil,or_false] at hx
  rcases hx with rfl|rfl|rfl|rfl<;>simp [Ah0]
def S00:KS:=Dx4 Ag0
theorem G29:KOk 0 S00:=Ib5 G05 Ev6
def wrS (S:KS) (cap:Int) (b:List UInt8):KS:=(Y3 S 0 ⟨2,cap,0,0,0,0,b⟩).2
def S0:KS:=wrS S00 256 Ab1
theorem Ih7:(Y3 S00 0 ⟨2,256,0,0,0,0,Ab1⟩).1.1=0:=by kernel_rfl
theorem H53:A35 S00.tabs 0=[256,257,258]:=by kernel_rfl
def wrR (K:RKS) (cap:Int) (b:List UInt8):RKS:={ K with R:=(Ag2 K.R 0 cap 0 b).2 }
def K0:RKS:=wrR (Db6 Ag0) 256 Ab1
theorem D16:RKOk (Db6 Ag0)∧(Db6 Ag0).B=Ag0:=Ia1 (by rw [Bs2];simp) (by rw [Bs2];simp)
theorem Ga5 {K:RKS} (k:RKOk K) (cap:Int) (b:List UInt8):RKOk (wrR K cap b):=Ib8 k 0 cap 0 b
theorem H19:Bp8 K0 0≠[]:=by
 have:Bp8 K0 0=[256,257,258]:=by kernel_rfl
 rw [this];simp
theorem Aa8:Ab1.length=492:=by kernel_rfl
theorem Dk7 {l:List HP} {h:H} {α:Type} {Q:α→H→Prop} {x:Option (α × H)} (i:Nat) {b n:Nat} {cs:List Value} (hi:l[i]?=some (pt b (.cells A3 false cs))) (hn:cs.length=n) (t:Tr (l.set i (slC false A3 1 (some (J6 b)) n n cs)) h x Q):Tr l h x Q:=fun o=>by
 refine t (Own.back (h:=h) hi ?_)
 have o1:=o.front hi
 refine Own.slShut (pre:=[]) (post:=[]) (by simpa using o1) ⟨by omega,Nat.le_refl _,by simp,by simp,by simp,by omega,by simp⟩
theorem Ia5 (A:PlA):Ct A7 Bg3 [.agg ⟨Eo9 A58 A⟩] (Df9 A58 A) fun v own =>
  ∃ k c w m,v=.tuple ⟨[P0 k,P0 c,P0 w,P0 m]⟩∧own [D7 k S0,V4 c k 0 [256,257,258] [],rkC w K0,rcC m w 0 (Bp8 K0 0) []]:=by
 have hB:En4 A58=Ag0:=rfl
 obtain ⟨ba,bc,ra,rc⟩:=A
 refine Ct.of Gr7 rfl fun h r=>Tr.eq (Gw9 ..) ?_;refine Je ?_
 refine Yn fun b0 h=>?_
 (refine Ja ?_;unhygienic intros)
 refine Yc (H98 A58 ⟨ba,bc,ra,rc⟩ (by simp [A58]) (by simp [A58])) ?_;rintro _ h ⟨A,kA,rfl,o⟩<;>refine Jh o ?_
 rw [hB] at kA ⊢
 obtain ⟨fa,fc,ea,ec,sa,sc,ss,ha,hc,hs⟩:=A
 (refine Jc ?_;unhygienic intros)
 refine Yn fun b1 h=>?_
 (refine Ja ?_;unhygienic intros)
 have J:=Ie2 false Ag0 ⟨fa,fc,ea,ec,sa,sc,ss,ha,hc,hs⟩ kA Ev6
 simp only [G05,if_true] at J
 refine Yc (J) ?_;rintro _ h ⟨k,rfl,o⟩<;>refine Jh o ?_
 (refine Jb ?_;unhygienic intros)
 refine Yb (Yf rfl ?_)
 refine Ys fun o=>(?_:Tr _ _ _ _) o;refine Je ?_
 refine Yf rfl ?_
 (refine Ja ?_;unhygienic intros)
 refine Yc (G47 Ag0 ⟨fa,fc,ea,ec,sa,sc,ss,ha,hc,hs⟩ kA (by rw [Bs2];simp) H79) ?_;rintro _ h ⟨w,rfl,o⟩<;>refine Jh o ?_
 (refine Ja ?_;unhygienic intros)
 refine Yc (H75 k (Dx4 Ag0) 0 G29 0) ?_
 rintro v h (⟨hz,c,rfl,o⟩|⟨hz,rfl,o⟩)
 case inr=>exact absurd hz (by rw [show Dx4 Ag0=S00 from rfl,H53];simp)
 rw [show Dx4 Ag0=S00 from rfl,H53] at o
 refine (?_:Tr _ _ _ _) o
 refine Je ?_
 (refine Jb ?_;unhygienic intros)
 refine Yb (Yf rfl ?_)
 refine Ys fun o=>(?_:Tr _ _ _ _) o;refine Je ?_
 refine Yf rfl ?_
 refine Yc (Gm6) ?_;rintro _ h ⟨rfl,o⟩<;>refine Jh o ?_
 (refine Jc ?_;unhygienic intros)
 refine Tr.ck (by rw [A34,Aa8];simp [A8]) ?_
 rw [A34,Aa8]
 refine Yn fun b2 h=>?_
 refine Dk7 (n:=492) 0 rfl (by rw [S8,show (bs Ab1).data.toList=Ab1 from rfl,Aa8]) ?_
 refine Je ?_
 have J2:=D20 k S00 0 G29 (by omega) 0 ⟨2,256,0,0,0,0,Ab1⟩ (some (J6 b2)) 492 false (show ((2:Int)≠5) by decide)
 simp only [Aa8] at J2
 refine Bq8 J2 [2,0] rfl ?_
 rintro _ h ⟨y,d,rfl,o⟩
 rw [Ih7]
 rw [show (Y3 S00 0 ⟨2,256,0,0,0,0,Ab1⟩).2=S0 from rfl] at o
 refine (?_:Tr _ _ _ _) o
 refine Je ?_
 (refine Jc ?_;unhygienic intros)
 refine Yf rfl ?_
 refine Tr.ck (by simp [A8]) ?_
 refine Yn fun b3 h=>?_
 refine Dk7 (n:=492) 0 rfl (by rw [S8,Aa8]) ?_
 refine Je ?_
 have J3:=Eq2 w (Db6 Ag0) D16.1 0 (by rw [D16.2,Bs2];simp) ⟨2,256,0,0,0,0,Ab1⟩ rfl (by rw [Aa8];simp [A8]) (slC false A3 1 (some (J6 b3)) Ab1.length 492 (A0 Ab1)) (some (J6 b3)) 492 false
 simp only [Aa8] at J3
 refine Yc J3 ?_
 rintro _ h ⟨rfl,o⟩
 rw [show ({ Db6 Ag0 with R:=(Ag2 (Db6 Ag0).R ((0:Nat):Int) 256 0 Ab1).2 }:RKS)=K0 from rfl] at o
 refine (?_:Tr _ _ _ _) o
 refine Je ?_
 (refine Ja ?_;unhygienic intros)
 refine Yc (Gh3 w K0 (Ga5 D16.1 256 Ab1) 0 (by show (0:Nat)<(Db6 Ag0).B.envs.length;rw [D16.2,Bs2];simp)) ?_
 rintro v h (⟨_,m,rfl,o⟩|⟨hn,rfl,o⟩)
 case inr=>exact absurd hn H19
 refine (?_:Tr _ _ _ _) o
 refine Je ?_
 (refine Ja ?_;unhygienic intros)
 refine Ys fun o=>?_
 exact ⟨k,c,w,m,rfl,o.sub⟩
def By3 (mem:List UInt8) (rg:Rg):List (List UInt8):=rg.map fun p=>slice mem p.1 p.2
theorem Gy1 {mem:List UInt8} {rg:Rg} {j lo n:Nat} (h:rg[j]?=some (lo,n)):(By3 mem rg)[j]?=some (slice mem lo n):=by unfold By3;rw [List.getElem?_map,h];rfl
theorem Gt0 {mem:List UInt8} {rg:Rg} (h:∀ (j lo n:Nat),rg[j]?=some (lo,n)→lo+n≤mem.length):Fit mem.length rg (By3 mem rg):=⟨by simp [By3],fun j lo n hj=>⟨h j lo n hj,slice mem lo n,Gy1 hj,Gk2 (h j lo n hj)⟩⟩
theorem H07 {mem:List UInt8} {rg:Rg} (k:RgOk rg) (h:∀ (j lo n:Nat),rg[j]?=some (lo,n)→lo+n≤mem.length):Ax4 mem rg (By3 mem rg)=mem:=by
 have f:=Gt0 h
 refine List.ext_getElem? fun i=>?_
 by_cases ho:∃ (j lo n:Nat),rg[j]?=some (lo,n)∧lo≤i∧i<lo+n
 ·obtain ⟨j,lo,n,hj,h1,h2⟩:=ho
  obtain ⟨i',rfl⟩:∃ i',i=lo+i':=⟨i-lo,by omega⟩
  rw [B40 f k j lo n _ hj (Gy1 hj) i' (by omega),Bu5,if_pos (by omega)]
 ·exact Dn8 f i fun j lo n hj=>by
   by_cases hh:lo≤i∧i<lo+n
   ·exact absurd ⟨j,lo,n,hj,hh.1,hh.2⟩ ho
   ·omega
theorem FrOk.room {F:Fr} {j lo n:Nat} (f:Fit F.S.mem.length F.rg (By3 F.S.mem F.rg)) (h:F.rg[j]?=some (lo,n)):lo+n≤F.S.mem.length:=(f.each j lo n h).1
theorem Fr.at_cut {F:Fr} (k:FrOk F) (h:∀ (j lo n:Nat),F.rg[j]?=some (lo,n)→lo+n≤F.S.mem.length):F.at (By3 F.S.mem F.rg)=F.S:=by
 unfold Fr.at;rw [H07 k.dj h];rfl
theorem Own.cmTake {r:List HP} {h:H} (c k:Nat) (F:Fr) (bad:List RecS) (ok:FrOk F) (hr:∀ (j lo n:Nat),F.rg[j]?=some (lo,n)→lo+n≤F.S.mem.length) (o1:Own h (D7 k F.S::V4 c k F.env F.caps bad::r)):Own h (cmC c k F ⟨By3 F.S.mem F.rg,bad⟩::r):=by
 refine Own.inex (f:=fun u:Unit=>sl (cmF c k F ⟨By3 F.S.mem F.rg,bad⟩)) () (Own.group (l:=cmF c k F ⟨By3 F.S.mem F.rg,bad⟩) ?_)
 show Own h (D7 k (F.at (By3 F.S.mem F.rg))::V4 c k F.env F.caps bad::pu _::r)
 rw [Fr.at_cut ok hr]
 have o2:=Own.inpure (show Fit F.S.mem.length F.rg (By3 F.S.mem F.rg) from Gt0 hr) o1
 exact o2.picks [1,1,0] rfl
theorem Ic7 {l r:List HP} {h:H} {α:Type} {Q:α→H→Prop} {x:Option (α × H)} (c k:Nat) (F:Fr) (X:CX) [tk:Take (cmC c k F X) l r]
  (t:Fit F.S.mem.length F.rg X.m→Tr (D7 k (F.at X.m)::V4 c k F.env F.caps X.bad::r) h x Q):Tr l h x Q:=fun o=>by
 have o1:Own h (cmC c k F X::r):=o.perm tk.pm
 obtain ⟨u,o2⟩:=Own.ex (f:=fun u:Unit=>sl (cmF c k F X)) o1
 have o3:Own h (D7 k (F.at X.m)::V4 c k F.env F.caps X.bad::pu (Fit F.S.mem.length F.rg X.m)::r):=Own.join o2
 have f:=(o3.front (i:=2) rfl).pure
 exact t f (o3.front (i:=2) rfl).tail
theorem Hj5 {S:KS} {env cap obj:Int} {lo n:Nat} {e1 e2:Int} (hg:Bo7 S.tabs env cap=some ⟨obj,3,0,(n:Int),e1,e2⟩) (h0:0≤obj) (hr:S.regs[obj.toNat]?=some ((lo:Int),(n:Int))) (hl:lo+n≤65536) :
  ∀ (a m:Nat) (right:Int),right=1∨right=2→a+m≤n→P3 S.tabs S.regs env cap right a m=(((lo+a:Nat):Int),0):=by
 intro a m right hri ha
 have hlt:=(List.getElem?_eq_some_iff.1 hr).1
 unfold P3
 rw [hg]
 have b1:(B4 .i64 3 1==0)=false:=by kernel_rfl
 have b2:(B4 .i64 3 2==0)=false:=by kernel_rfl
 have hb:¬ ((B4 .i64 3 right==0)=true):=by rcases hri with rfl|rfl<;>simp [b1,b2]
 simp only
 have h2:(decide ((a:Int)<0) || decide ((m:Int)<0) || decide ((a:Int)>(n:Int)) || decide ((m:Int)>IntKind.wrap .i64 ((n:Int)-a)) || decide (obj<0) || decide (obj≥S.regs.length))=false:=by
  simp only [Bool.or_eq_false_iff,decide_eq_false_iff_not,A6];omega
 have h3:(decide (IntKind.wrap .i64 (0+(a:Int))>(n:Int)) || decide ((m:Int)>IntKind.wrap .i64 (IntKind.wrap .i64 ((n:Int)-0)-a)))=false:=by
  simp only [Bool.or_eq_false_iff,decide_eq_false_iff_not,A6];omega
 have h4:IntKind.wrap .i64 (IntKind.wrap .i64 ((lo:Int)+0)+a)=((lo+a:Nat):Int):=by simp only [A6];omega
 rw [if_neg hb]
 simp only [h2,hr,h3,h4,Bool.false_eq_true,if_false]
structure Like (S:KS):Prop where
 ok:KOk 0 S
 tabs:S.tabs=S00.tabs
 regs:S.regs=S00.regs
 envs:S.envs=S00.envs
 mem:S.mem.length=2560
theorem D75 {S:KS} (k:Like S) {m:List UInt8} (h:m.length=2560):Like (Bn4 S m) :=
 ⟨⟨k.ok.envs,k.ok.tabs,k.ok.space,k.ok.quota,by show m.length≤65536;omega,k.ok.regs,k.ok.may,k.ok.mayl,k.ok.nsect,k.ok.sects,k.ok.now⟩,k.tabs,k.regs,k.envs,h⟩
theorem If5:Like S00:=⟨G29,rfl,rfl,rfl,by kernel_rfl⟩
theorem H89 (S:KS) (k:Like S) (cap:Int) (b:List UInt8):Like (wrS S cap b):=by
 unfold wrS Y3
 split
 ·exact k
 ·exact D75 k (by rw [Hg0];exact k.mem)
theorem Dr1:Like S0:=H89 S00 If5 256 Ab1
def rgP (s:Nat):Rg:=[(1280*s,492),(512,40),(1856,40)]
def frP (S:KS) (s:Nat) (env:Int):Fr:=⟨S,0,env,[256,257,258],rgP s⟩
theorem G18:S00.regs=[(0,492),(1280,492),(512,40),(1856,40)]:=by kernel_rfl
theorem Id0:S00.envs.length=18:=by kernel_rfl
structure EnvP (s:Nat) (env:Int):Prop where
 hs:s<2
 he:0≤env∧env<18
 a:Bo7 S00.tabs env 256=some ⟨s,3,0,492,0,0⟩
 b:Bo7 S00.tabs env 257=some ⟨2,3,0,40,0,0⟩
 c:Bo7 S00.tabs env 258=some ⟨3,3,0,40,0,0⟩
theorem Gt3:EnvP 0 0:=⟨by omega,by omega,by kernel_rfl,by kernel_rfl,by kernel_rfl⟩
theorem D13 {s j lo n:Nat} (h:(rgP s)[j]?=some (lo,n)):(j=0∧lo=1280*s∧n=492)∨(j=1∧lo=512∧n=40)∨(j=2∧lo=1856∧n=40):=by
 unfold rgP at h
 match j,h with
 | 0,h=>simp at h;omega
 | 1,h=>simp at h;omega
 | 2,h=>simp at h;omega
 | j+3,h=>simp at h
theorem D78 {S:KS} (k:Like S) {s:Nat} (hs:s<2) (env:Int):∀ (j lo n:Nat),(frP S s env).rg[j]?=some (lo,n)→lo+n≤(frP S s env).S.mem.length:=by
 intro j lo n h
 have hm:=k.mem
 have:=D13 h
 show lo+n≤S.mem.length
 omega
theorem Gx3 {S:KS} (k:Like S) {s:Nat} {env:Int} (e:EnvP s env):FrOk (frP S s env):=by
 have hs:=e.hs;have he:=e.he
 refine ⟨k.ok,by simp [frP],by simp [frP],by simp [frP],by simp [frP,rgP],?_,?_,?_,⟨1280*s,rfl⟩,?_⟩
 ·show ¬ (env<0∨env≥(S.envs.length:Int))
  rw [k.envs,Id0];omega
 ·intro j cap lo n hc hr
  show ∀ (a m:Nat) (right:Int),right=1∨right=2→a+m≤n→P3 S.tabs S.regs env cap right a m=_
  have hg:=D13 hr
  rcases hg with ⟨rfl,rfl,rfl⟩|⟨rfl,rfl,rfl⟩|⟨rfl,rfl,rfl⟩
  ·cases hc
   refine Hj5 (obj:=s) (e1:=0) (e2:=0) (by rw [k.tabs];exact e.a) (by omega) ?_ (by omega)
   rw [k.regs,G18,Int.toNat_natCast]
   match s,hs with
   | 0,_=>rfl
   | 1,_=>rfl
  ·cases hc
   exact Hj5 (obj:=2) (e1:=0) (e2:=0) (by rw [k.tabs];exact e.b) (by omega) (by rw [k.regs,G18];rfl) (by omega)
  ·cases hc
   exact Hj5 (obj:=3) (e1:=0) (e2:=0) (by rw [k.tabs];exact e.c) (by omega) (by rw [k.regs,G18];rfl) (by omega)
 ·intro i j lo n lo' n' hij hi hj
  have h1:=D13 hi;have h2:=D13 hj
  omega
 ·intro j lo n h0 h
  have:=D13 h;omega
abbrev F0:Fr:=frP S0 0 0
def X0:CX:=⟨By3 S0.mem (rgP 0),[]⟩
theorem H60:FrOk F0:=Gx3 Dr1 Gt3
theorem H34 (A:PlA):Ct A7 Bg3 [.agg ⟨Eo9 A58 A⟩] (Df9 A58 A) fun v own =>
  ∃ k c w m,v=.tuple ⟨[P0 k,P0 c,P0 w,P0 m]⟩∧own [cmC c k F0 X0,rkC w K0,rcC m w 0 (Bp8 K0 0) []]:=by
 intro h r o
 obtain ⟨v,h',e,k,c,w,m,hv,o2⟩:=Ia5 A h r o
 refine ⟨v,h',e,k,c,w,m,hv,?_⟩
 exact Own.cmTake c k F0 [] H60 (D78 Dr1 (by omega) 0) o2
theorem Z5 {x:Int} (h:0≤x∧x<256):((b8 x).toNat:Int)=x:=by rw [← Bf0,Dh9];omega
theorem G41 {p:PipeS} (h:okP p=true):V7 (I8 p)=(p,1):=by
 have hk:=h
 simp only [okP,Bool.and_eq_true,decide_eq_true_eq] at h
 have e:Ba6 (I8 p)=p:=by
  obtain ⟨a,b,c,d,l,hl⟩:=p
  simp only at h
  have h1:=Z5 (x:=a) (by omega);have h2:=Z5 (x:=b) (by omega);have h3:=Z5 (x:=c) (by omega);have h4:=Z5 (x:=d) (by omega)
  simp [Ba6,I8,Af9,D42 hl]
  exact ⟨h1,h2,h3,h4⟩
 have hz:(I8 p).all (·==0)=false:=by simp [I8,Af9]
 unfold V7 isP
 rw [hz,e,hk]
 simp
theorem E01 {l b:List UInt8} {a c n:Nat} (h:a+b.length≤l.length) (hd:c+n≤a∨a+b.length≤c):slice (J8 l a b) c n=slice l c n:=by
 refine List.ext_getElem? fun i=>?_
 rw [Bu5,Bu5]
 split
 ·rw [Bh8 h,if_neg (by omega)]
 ·rfl
theorem Gb9 {l b:List UInt8} {a:Nat} (h:a+b.length≤l.length):slice (J8 l a b) a b.length=b:=by
 refine List.ext_getElem? fun i=>?_
 rw [Bu5]
 split
 ·rw [Bh8 h,if_pos (by omega)];congr 1;omega
 ·rw [List.getElem?_eq_none (by omega)]
abbrev H56:List Int:=[256,257,258]
structure InS (p:ProcS):Prop where
 a:0≤p.pending∧p.pending≤65535
 b:0≤p.mask∧p.mask≤65535
 c:0≤p.ignored∧p.ignored≤65535
 d:0≤p.caught∧p.caught≤65535
theorem G20 {p:ProcS} (h:okS p=true) (r:InS p):Y2 (At4 p)=(p,1):=by
 have hk:=h
 obtain ⟨ra,rb,rc,rd⟩:=r
 have e:Ba8 (At4 p)=p:=by
  obtain ⟨st,pa,gr,co,pe,ma,ig,ca,fds,hl⟩:=p
  simp only at ra rb rc rd
  unfold okS at h
  simp only [Bool.and_eq_true,Bool.not_eq_true',Bool.or_eq_false_iff,decide_eq_false_iff_not,List.any_eq_false] at h
  match fds,hl with
  | [f0,f1,f2,f3,f4,f5,f6,f7],hl =>
   have hf:=h.2.2.1
   simp at hf
   have two_b:∀ n:Int,0≤n∧n≤65535→((hi2 n).toNat:Int)*256+((lo2 n).toNat:Int)=n:=fun n hn=>by
    unfold hi2 lo2
    rw [if_pos hn,if_pos hn,Z5 (by omega),← Bf0,Dh9];omega
   have g0:=h.1
   simp only [Ba8,At4,D37,two]
   simp
   refine ⟨Z5 (by omega),Z5 (by omega),Z5 (by omega),Z5 (by omega),two_b _ ra,two_b _ rb,two_b _ rc,two_b _ rd,Z5 (by omega),Z5 (by omega),Z5 (by omega),Z5 (by omega),Z5 (by omega),Z5 (by omega),Z5 (by omega),Z5 (by omega)⟩
 have hz:(At4 p).all (·==0)=false:=by
  simp [At4,D37]
 unfold Y2 isS
 rw [hz,e,hk]
 simp
def stR (kind:Int) (l:List UInt8):Int:=if kind=1 then (Y2 l).2 else if kind=2 then (Z4 l).2 else if kind=5 then (Ar3 l).2 else (V7 l).2
def rd (X:CX) (r:RecS):List UInt8 :=
 match G3 X.m.length r with
 | some (j,a,n)=>slice (X.m.getD j []) a n
 | none=>[]
structure Clean (nc:Nat) (X:CX):Prop where
 len:X.m.length=nc
 pos:0<nc
 bad:X.bad=[]
 own:(X.m.getD 0 []).length=492
 brs:∀ j,0<j→j<nc→(X.m.getD j []).length=40
 ok:∀ r:RecS,1≤r.kind→r.kind≤5→0≤r.index→r.index<W3 nc r.kind→stR r.kind (rd X r)≠2
structure Rin (nc:Nat) (r:RecS):Prop where
 a:1≤r.kind
 b:r.kind≤5
 c:0≤r.index
 d:r.index<W3 nc r.kind
theorem Rin.place {nc:Nat} {r:RecS} (h:Rin nc r) (hn:0<nc):∃ j a,G3 nc r=some (j,a,Q3 r.kind)∧j<nc∧(j=0→a+Q3 r.kind≤492)∧(0<j→a=0∧Q3 r.kind=40):=by
 obtain ⟨h1,h2,h3,h4⟩:=h
 obtain ⟨k,i⟩:=r
 simp only at h1 h2 h3 h4
 have hk:k=1∨k=2∨k=3∨k=4∨k=5:=by omega
 unfold G3 Q3
 simp only
 rw [if_neg (by omega)]
 rcases hk with rfl|rfl|rfl|rfl|rfl
 ·exact ⟨0,_,rfl,hn,fun _=>by simp [W3] at h4 ⊢;omega,fun h=>by omega⟩
 ·exact ⟨0,_,rfl,hn,fun _=>by simp [W3] at h4 ⊢;omega,fun h=>by omega⟩
 ·simp only [W3] at h4
  by_cases h5:i<4
  ·exact ⟨0,_,by simp [h5];rfl,hn,fun _=>by simp;omega,fun h=>by omega⟩
  ·exact ⟨i.toNat-3,0,by simp [h5],by simp at h4;omega,fun h=>by omega,fun _=>⟨rfl,rfl⟩⟩
 ·exact ⟨0,_,rfl,hn,fun _=>by simp,fun h=>by omega⟩
 ·exact ⟨0,_,rfl,hn,fun _=>by simp,fun h=>by omega⟩
theorem Hy1 {nc:Nat} {r r':RecS} (h:Rin nc r) (h':Rin nc r') (ne:r≠r') {j a n j' a' n':Nat} (e:G3 nc r=some (j,a,n)) (e':G3 nc r'=some (j',a',n')):j≠j'∨a+n≤a'∨a'+n'≤a:=by
 obtain ⟨h1,h2,h3,h4⟩:=h
 obtain ⟨g1,g2,g3,g4⟩:=h'
 obtain ⟨k,i⟩:=r
 obtain ⟨k',i'⟩:=r'
 simp only at h1 h2 h3 h4 g1 g2 g3 g4
 have ne':k≠k'∨i≠i':=by
  by_cases hk:k=k'
  ·right;intro hi;exact ne (by rw [hk,hi])
  ·exact .inl hk
 unfold G3 at e e'
 simp only at e e'
 rw [if_neg (by omega)] at e e'
 unfold W3 at h4 g4
 have hk:k=1∨k=2∨k=3∨k=4∨k=5:=by omega
 have hk':k'=1∨k'=2∨k'=3∨k'=4∨k'=5:=by omega
 have fin:∀ {x y:Nat × Nat × Nat},some x=some y→x=y:=fun h=>by cases h;rfl
 rcases hk with rfl|rfl|rfl|rfl|rfl<;>rcases hk' with rfl|rfl|rfl|rfl|rfl<;>simp at e e' h4 g4 ne'<;>(try split at e)<;>(try split at e')<;>(try simp at e e')<;>omega
def Bw9 (X:CX) (r:RecS) (b:List UInt8):CX :=
 match G3 X.m.length r with
 | some (j,a,_)=>{ X with m:=X.m.set j (J8 (X.m.getD j []) a b) }
 | none=>X
theorem Ez7 (l:List (List UInt8)) (j j':Nat) (x:List UInt8) (h:j<l.length):(l.set j x).getD j' []=if j'=j then x else l.getD j' []:=by
 rw [List.getD_eq_getElem?_getD,List.getD_eq_getElem?_getD,List.getElem?_set]
 by_cases hj:j=j'
 ·subst hj;simp [h]
 ·rw [if_neg hj,if_neg (fun e=>hj e.symm)]
section
variable {nc:Nat} {X:CX} (c:Clean nc X) {r r':RecS} (h:Rin nc r) (h':Rin nc r')
include c h
theorem Ht5:rdX X r=some (rd X r):=by
 obtain ⟨j,a,e,_⟩:=h.place c.pos
 unfold rdX rd
 rw [c.len,e]
 simp [c.bad]
theorem B90 (b:List UInt8):wrX X r b true=(true,Bw9 X r b):=by
 obtain ⟨j,a,e,_⟩:=h.place c.pos
 unfold wrX Bw9
 rw [c.len,e]
 simp [c.bad]
theorem El6 {j a n:Nat} (e:G3 nc r=some (j,a,n)):a+n≤(X.m.getD j []).length∧j<X.m.length∧n=Q3 r.kind:=by
 obtain ⟨j',a',e',hj,h0,h1⟩:=h.place c.pos
 rw [e] at e';cases e'
 rw [c.len]
 by_cases hz:j=0
 ·subst hz;rw [c.own];exact ⟨h0 rfl,hj,rfl⟩
 ·rw [c.brs j (by omega) hj]
  have:=h1 (by omega)
  exact ⟨by omega,hj,rfl⟩
include h'
theorem Al0 {b:List UInt8} (hb:b.length=Q3 r.kind):rd (Bw9 X r b) r'=if r'=r then b else rd X r':=by
 obtain ⟨j,a,e,_⟩:=h.place c.pos
 obtain ⟨j',a',e',_⟩:=h'.place c.pos
 have p:=El6 c h e
 have p':=El6 c h' e'
 have es:Bw9 X r b={ X with m:=X.m.set j (J8 (X.m.getD j []) a b) }:=by unfold Bw9;rw [c.len,e]
 have el:(Bw9 X r b).m.length=nc:=by rw [es];simp [c.len]
 unfold rd
 rw [el,e',c.len,e',es]
 simp only
 rw [Ez7 _ _ _ _ p.2.1]
 by_cases hr:r'=r
 ·subst hr
  rw [e] at e';cases e'
  rw [if_pos rfl,if_pos rfl]
  have:=Gb9 (l:=X.m.getD j []) (b:=b) (a:=a) (by omega)
  rwa [hb] at this
 ·rw [if_neg hr]
  by_cases hj:j'=j
  ·subst hj
   rw [if_pos rfl]
   have dj:=Hy1 h' h hr e' e
   exact E01 (by omega) (by omega)
  ·rw [if_neg hj]
end
theorem B80 {nc:Nat} {X:CX} (c:Clean nc X) {r:RecS} (h:Rin nc r) {b:List UInt8} (hb:b.length=Q3 r.kind) (hs:stR r.kind b≠2):Clean nc (Bw9 X r b):=by
 obtain ⟨j,a,e,_⟩:=h.place c.pos
 have p:=El6 c h e
 have es:Bw9 X r b={ X with m:=X.m.set j (J8 (X.m.getD j []) a b) }:=by unfold Bw9;rw [c.len,e]
 refine ⟨by rw [es];simp [c.len],c.pos,by rw [es];exact c.bad,?_,?_,?_⟩
 ·rw [es];simp only
  rw [Ez7 _ _ _ _ p.2.1]
  split
  ·rename_i h0;subst h0;rw [Ad0 (by omega)];exact c.own
  ·exact c.own
 ·intro i h0 h1
  rw [es];simp only
  rw [Ez7 _ _ _ _ p.2.1]
  split
  ·rename_i h2;subst h2;rw [Ad0 (by omega)];exact c.brs i h0 h1
  ·exact c.brs i h0 h1
 ·intro r' h1 h2 h3 h4
  rw [Al0 c h ⟨h1,h2,h3,h4⟩ hb]
  split
  ·rename_i hr;rw [hr];exact hs
  ·exact c.ok r' h1 h2 h3 h4
theorem B75 {α:Type} (dec:List UInt8→α × Int) (z:α) {nc:Nat} {X:CX} (c:Clean nc X) {r:RecS} (h:Rin nc r) (hd:(dec (rd X r)).2=stR r.kind (rd X r)):U0 dec z X r=(dec (rd X r),X):=by
 unfold U0
 rw [Ht5 c h]
 simp only
 rw [if_neg (by rw [hd];exact c.ok r h.a h.b h.c h.d)]
abbrev vS (X:CX) (i:Int):ProcS × Int:=Y2 (rd X ⟨1,i⟩)
abbrev vF (X:CX) (i:Int):FileS × Int:=Z4 (rd X ⟨2,i⟩)
abbrev vP (X:CX) (i:Int):PipeS × Int:=V7 (rd X ⟨3,i⟩)
theorem Dj6 {nc:Nat} {i:Int} (h:0≤i∧i<8):Rin nc ⟨1,i⟩:=⟨by simp,by simp,h.1,h.2⟩
theorem Bk2 {nc:Nat} {i:Int} (h:0≤i∧i<12):Rin nc ⟨2,i⟩:=⟨by simp,by simp,h.1,h.2⟩
theorem Bl4 {nc:Nat} {i:Int} (h:0≤i∧i<3+nc):Rin nc ⟨3,i⟩:=⟨by simp,by simp,h.1,h.2⟩
theorem Ew9 {nc:Nat} {X:CX} (c:Clean nc X) {i:Int} (h:0≤i∧i<8):D73 X i=(vS X i,X):=B75 Y2 .zero c (Dj6 h) rfl
theorem Bm2 {nc:Nat} {X:CX} (c:Clean nc X) {i:Int} (h:0≤i∧i<12):D62 X i=(vF X i,X):=B75 Z4 .zero c (Bk2 h) rfl
theorem B60 {nc:Nat} {X:CX} (c:Clean nc X) {i:Int} (h:0≤i∧i<3+nc):Di1 X i=(vP X i,X):=B75 V7 .zero c (Bl4 h) rfl
theorem Dg0 {f:CX→Int→CX} {X:CX}:∀ (m:Nat) (i:Int),(∀ j,i≤j→j<i+m→f X j=X)→Dh3 f m i X=X
 | 0,_,_=>rfl
 | m+1,i,h=>by
  unfold Dh3
  rw [h i (by omega) (by omega)]
  exact Dg0 m (i+1) fun j h1 h2=>h j (by omega) (by omega)
theorem E87 {nc:Nat} {X:CX} (c:Clean nc X):Gb2 X=X:=by
 have h3:E55 X=X:=by
  unfold E55
  have e1:Ep2 X=(V7 (rd X ⟨4,0⟩),X):=B75 V7 .zero c ⟨by simp,by simp,by simp,by simp [W3]⟩ rfl
  have e2:Ef8 X=(Ar3 (rd X ⟨5,0⟩),X):=B75 Ar3 0 c ⟨by simp,by simp,by simp,by simp [W3]⟩ rfl
  rw [e1];simp only;rw [e2]
 have hl:=c.len
 unfold Gb2 lookN Gr6 G43
 rw [Dg0 8 0 (fun j h1 h2=>by rw [Ew9 c (by omega)])]
 rw [Dg0 12 0 (fun j h1 h2=>by rw [Bm2 c (by omega)])]
 rw [Dg0 (3+X.m.length) 0 (fun j h1 h2=>by rw [B60 c (by omega)]),h3]
theorem Gz5 {f:FileS} (h:okF f=true):Z4 (Ag6 f)=(f,1):=by
 have hk:=h
 simp only [okF,Bool.and_eq_true,Bool.or_eq_true,decide_eq_true_eq,beq_iff_eq,bne_iff_ne] at h
 have e:B34 (Ag6 f)=f:=by
  obtain ⟨a,b,c,d⟩:=f
  simp only at h
  have h1:=Z5 (x:=a) (by omega);have h2:=Z5 (x:=b) (by omega);have h3:=Z5 (x:=c) (by omega);have h4:=Z5 (x:=d) (by omega)
  simp [B34,Ag6,A72]
  exact ⟨h1,h2,h3,h4⟩
 have hz:(Ag6 f).all (·==0)=false:=by simp [Ag6,A72]
 unfold Z4 isF
 rw [hz,e,hk]
 simp
section
variable {nc:Nat} {X:CX} (c:Clean nc X)
include c
abbrev Ay4 (X:CX) (i:Int) (p:ProcS):CX:=Bw9 X ⟨1,i⟩ (At4 p)
abbrev Ak1 (X:CX) (i:Int) (f:FileS):CX:=Bw9 X ⟨2,i⟩ (Ag6 f)
theorem Bj0 {i:Int} (h:0≤i∧i<8) {p:ProcS} (ok:okS p=true) (r:InS p) :
  Bf1 X i p=(true,Ay4 X i p)∧Clean nc (Ay4 X i p)∧(∀ j:Int,0≤j∧j<8→vS (Ay4 X i p) j=if j=i then (p,1) else vS X j)∧(∀ j:Int,0≤j∧j<12→vF (Ay4 X i p) j=vF X j)∧(∀ j:Int,0≤j∧j<3+nc→vP (Ay4 X i p) j=vP X j):=by
 have hl:(At4 p).length=Q3 (1:Int):=by rw [D93];rfl
 refine ⟨by unfold Bf1;rw [ok];exact B90 c (Dj6 h) _,B80 c (Dj6 h) hl (by show (Y2 (At4 p)).2≠2;rw [G20 ok r];simp),fun j hj=>?_,fun j hj=>?_,fun j hj=>?_⟩
 ·show Y2 (rd _ _)=_
  rw [Al0 c (Dj6 h) (Dj6 hj) hl]
  by_cases e:j=i
  ·rw [if_pos (by rw [e]),if_pos e];exact G20 ok r
  ·rw [if_neg (by simp [e]),if_neg e]
 ·show Z4 (rd _ _)=_
  rw [Al0 c (Dj6 h) (Bk2 hj) hl,if_neg (by simp)]
 ·show V7 (rd _ _)=_
  rw [Al0 c (Dj6 h) (Bl4 hj) hl,if_neg (by simp)]
theorem W0 {i:Int} (h:0≤i∧i<12) {f:FileS} (ok:okF f=true) :
  Bf2 X i f=(true,Ak1 X i f)∧Clean nc (Ak1 X i f)∧(∀ j:Int,0≤j∧j<8→vS (Ak1 X i f) j=vS X j)∧(∀ j:Int,0≤j∧j<12→vF (Ak1 X i f) j=if j=i then (f,1) else vF X j)∧(∀ j:Int,0≤j∧j<3+nc→vP (Ak1 X i f) j=vP X j):=by
 have hl:(Ag6 f).length=Q3 (2:Int):=by rw [Dn3];rfl
 refine ⟨by unfold Bf2;rw [ok];exact B90 c (Bk2 h) _,B80 c (Bk2 h) hl (by show (Z4 (Ag6 f)).2≠2;rw [Gz5 ok];simp),fun j hj=>?_,fun j hj=>?_,fun j hj=>?_⟩
 ·show Y2 (rd _ _)=_
  rw [Al0 c (Bk2 h) (Dj6 hj) hl,if_neg (by simp)]
 ·show Z4 (rd _ _)=_
  rw [Al0 c (Bk2 h) (Bk2 hj) hl]
  by_cases e:j=i
  ·rw [if_pos (by rw [e]),if_pos e];exact Gz5 ok
  ·rw [if_neg (by simp [e]),if_neg e]
 ·show V7 (rd _ _)=_
  rw [Al0 c (Bk2 h) (Bl4 hj) hl,if_neg (by simp)]
theorem Ih6 {i:Int} (h:0≤i∧i<8):((vS X i).2=0∧(vS X i).1=.zero)∨((vS X i).2=1∧okS (vS X i).1=true):=by
 have:=c.ok ⟨1,i⟩ (by simp) (by simp) h.1 h.2
 have hk:(vS X i).2≠2:=this
 unfold vS Y2 at hk ⊢
 split
 ·exact .inl ⟨rfl,rfl⟩
 ·split
  ·rename_i h2
   unfold isS at h2
   simp only [Bool.and_eq_true] at h2
   exact .inr ⟨rfl,h2.1⟩
  ·rename_i h1 h2;simp [h1,h2] at hk
theorem Ep3 {i:Int} (h:0≤i∧i<12):((vF X i).2=0∧(vF X i).1=.zero)∨((vF X i).2=1∧okF (vF X i).1=true):=by
 have:=c.ok ⟨2,i⟩ (by simp) (by simp) h.1 h.2
 have hk:(vF X i).2≠2:=this
 unfold vF Z4 at hk ⊢
 split
 ·exact .inl ⟨rfl,rfl⟩
 ·split
  ·rename_i h2
   unfold isF at h2
   simp only [Bool.and_eq_true] at h2
   exact .inr ⟨rfl,h2.1⟩
  ·rename_i h1 h2;simp [h1,h2] at hk
end
abbrev E7 (n e:Int) (b:Bool):List Value:=[int n,int e,.slice none 0 0,.bool b]
theorem Ia0 (e:Int):Ct A7 B65 [int e] [] fun v own=>v=.agg ⟨E7 0 e false⟩∧own []:=by
 refine Ct.of Ha7 rfl fun h r=>Tr.eq (G66 ..) ?_;refine Je ?_
 (refine Ja ?_;unhygienic intros)
 refine Ys fun o=>?_
 exact ⟨rfl,o.sub⟩
theorem Gh1 (ok:Bool) (n:Int):Ct A7 Ba1 [.bool ok,int n] [] fun v own=>v=.agg ⟨if ok then E7 n 0 false else E7 0 105 false⟩∧own []:=by
 refine Ct.of G80 rfl fun h r=>Tr.eq (G73 ..) ?_;refine Je ?_
 cases ok with
 | true =>
  (refine Ja ?_;unhygienic intros)
  refine Ys fun o=>?_
  exact ⟨rfl,o.sub⟩
 | false =>
  (refine Ja ?_;unhygienic intros)
  refine Yc (Ia0 105) ?_;rintro _ h ⟨rfl,o⟩<;>(refine Jf o ?_;unhygienic intros)
  refine Ys fun o=>?_
  exact ⟨rfl,o.sub⟩
def O3 (X:CX) (i:Int):ProcS × Int:=if (vS X i).2=1∧(vS X i).1.state=1 then ((vS X i).1,0) else (.zero,105)
theorem D22 (b k:Nat) (F:Fr) (X:CX) (ok:FrOk F) {nc:Nat} (c:Clean nc X) (i:Int) (hi:0≤i∧i<8):Ct A7 Ao8 [P0 b,int i] [cmC b k F X] fun v own=>v=.tuple ⟨[.agg ⟨D6 (O3 X i).1⟩,int (O3 X i).2]⟩∧own [cmC b k F X]:=by
 refine Ct.of G91 rfl fun h r=>Tr.eq (G57 ..) ?_;refine Je ?_
 (refine Jc ?_;unhygienic intros)
 refine Yn fun b0 h=>?_
 refine Yc (Hc5 b k F X ok) ?_;rintro _ h ⟨rfl,o⟩<;>refine Jh o ?_
 rw [E87 c]
 (refine Ja ?_;unhygienic intros)
 refine Yc (Gu5 b k F X ok i) ?_;rintro _ h ⟨rfl,o⟩<;>refine Jh o ?_
 rw [Ew9 c hi]
 dsimp only
 (refine Jc ?_;unhygienic intros)
 refine Yn fun b1 h=>?_
 (refine Jb ?_;unhygienic intros)
 refine Tr.orG (c:=(vS X i).1.state != 1) (fun hb=>?_) ?_
 ·exact Jz
 unfold O3
 by_cases h1:(vS X i).2=1∧(vS X i).1.state=1
 ·rw [if_pos h1]
  refine Yf (by simp [h1.1,h1.2]) ?_
  (refine Ja ?_;unhygienic intros)
  refine Ys fun o=>?_
  exact ⟨rfl,o.sub⟩
 ·rw [if_neg h1]
  refine Yt (by simp;by_cases h2:(vS X i).2=1<;>simp [h2] at h1 ⊢;exact h1) ?_
  (refine Ja ?_;unhygienic intros)
  refine Ys fun o=>?_
  exact ⟨rfl,o.sub⟩
def Gq6 (X:CX):Nat→Int→Int
 | 0,_=>-1
 | m+1,i=>if (vS X i).2=0 then i else Gq6 X m (i+1)
def H66:List Int→List Int→List Int
 | [],m=>m
 | f::l,m=>H66 l (if f>0 then m.set (f-1).toNat (m.getD (f-1).toNat 0+1) else m)
def Bi1 (n:Int) (m:List Int):Prop:=m.length=12∧∀ x ∈ m,0≤x∧x≤n
theorem Bi1.get {n:Int} {m:List Int} (h:Bi1 n m) {j:Nat} (hj:j<12):0≤m.getD j 0∧m.getD j 0≤n:=by
 have hl:=h.1
 have e:m[j]?=some m[j]:=List.getElem?_eq_getElem (by omega)
 rw [List.getD_eq_getElem?_getD,e]
 exact h.2 _ (List.getElem_mem _)
theorem Bi1.set {n:Int} {m:List Int} (h:Bi1 n m) {j:Nat} (hj:j<12):Bi1 (n+1) (m.set j (m.getD j 0+1)):=by
 refine ⟨by simpa using h.1,fun x hx=>?_⟩
 rcases List.mem_or_eq_of_mem_set hx with h2|rfl
 ·have:=h.2 x h2;omega
 ·have:=h.get hj;omega
theorem Bi1.up {n:Int} {m:List Int} (h:Bi1 n m):Bi1 (n+1) m:=⟨h.1,fun x hx=>by have:=h.2 x hx;omega⟩
theorem Hy2 {m:List Int} {j:Nat} (h:j<m.length) (v:Int):Da9 (m.map int) j (int v)=some ((m.set j v).map int):=by
 rw [Da9,show Nat.blt j (m.map int).length=true from Nat.ble_eq_true_of_le (by simp;omega),List.map_set];rfl
def H33 (l:List Int):Prop:=∀ f ∈ l,0≤f∧f≤12
theorem Hh4 {l:List Int} {i:Nat} (h:i<l.length):(l.map int)[i]?=some (int (l.getD i 0)):=by rw [List.getElem?_map,N5 0 h];rfl
def D21 (X:CX) (more:List Int):List Int→Int
 | []=>0
 | f::l=>if f=0 then D21 X more l else if (vF X (f-1)).2≠1 then 105 else if (vF X (f-1)).1.refs+more.getD (f-1).toNat 0>64 then 123 else D21 X more l
theorem Ba5 {f:FileS} (h:okF f=true):1≤f.refs∧f.refs≤64:=by
 simp only [okF,Bool.and_eq_true,Bool.or_eq_true,decide_eq_true_eq,beq_iff_eq,bne_iff_ne] at h
 omega
theorem H76 {nc:Nat} {X:CX} (c:Clean nc X) {i:Int} (h:0≤i∧i<12):0≤(vF X i).1.refs∧(vF X i).1.refs≤64:=by
 rcases Ep3 c h with ⟨_,h1⟩|⟨_,h1⟩
 ·rw [h1];simp
 ·have:=Ba5 h1;omega
abbrev Bg4 (f:FileS) (n:Int):FileS:=⟨f.kind,f.pipe,f.refs+n,f.flags⟩
def Hx3 (more:List Int):Nat→Int→CX→CX
 | 0,_,X=>X
 | m+1,j,X=>Hx3 more m (j+1) (if more.getD j.toNat 0=0 then X else Ak1 X j (Bg4 (vF X j).1 (more.getD j.toNat 0)))
def H44 (more:List Int) (X:CX) (j:Int):Prop:=∀ i:Int,j≤i→i<12→more.getD i.toNat 0≠0→(vF X i).2=1∧(vF X i).1.refs+more.getD i.toNat 0≤64
theorem A48 {f:FileS} (h:okF f=true) {n:Int} (hn:1≤f.refs+n∧f.refs+n≤64):okF (Bg4 f n)=true:=by
 simp only [okF,Bool.and_eq_true,Bool.or_eq_true,decide_eq_true_eq,beq_iff_eq,bne_iff_ne] at h ⊢
 omega
theorem H44.step {nc:Nat} {X:CX} (c:Clean nc X) {more:List Int} (hm:Bi1 8 more) {j:Int} (h0:0≤j∧j<12) (s:H44 more X j) (hz:more.getD j.toNat 0≠0) :
  okF (Bg4 (vF X j).1 (more.getD j.toNat 0))=true∧H44 more (Ak1 X j (Bg4 (vF X j).1 (more.getD j.toNat 0))) (j+1):=by
 obtain ⟨s1,s2⟩:=s j (by omega) (by omega) hz
 have hg:=hm.get (j:=j.toNat) (by omega)
 have hk:okF (vF X j).1=true:=by
  rcases Ep3 c h0 with ⟨h1,_⟩|⟨_,h1⟩
  ·omega
  ·exact h1
 have hr:=Ba5 hk
 have k:=A48 hk (n:=more.getD j.toNat 0) (by omega)
 refine ⟨k,fun i h1 h2 hi=>?_⟩
 rw [(W0 c h0 k).2.2.2.1 i (by omega),if_neg (by omega)]
 exact s i (by omega) h2 hi
abbrev Ic9:List Int:=[0,0,0,0,0,0,0,0,0,0,0,0]
abbrev Hi8 (p:ProcS):List Int:=H66 p.fds Ic9
def G28 (X:CX) (p:ProcS):Int × CX:=if D21 X (Hi8 p) p.fds=0 then (0,Hx3 (Hi8 p) 12 0 X) else (D21 X (Hi8 p) p.fds,X)
theorem Hc8 (l:List UInt8) (i:Nat):0≤byI l i∧byI l i<256:=by
 have:=(l.getD i 0).toNat_lt
 unfold byI;omega
theorem Eo6 (l:List UInt8) (j:Nat):0≤two l j∧two l j≤65535:=by
 have:=Hc8 l j;have:=Hc8 l (j+1)
 unfold two;omega
theorem Ep7 (l:List UInt8):InS (Y2 l).1:=by
 unfold Y2
 split
 ·exact ⟨by simp,by simp,by simp,by simp⟩
 ·split
  ·exact ⟨Eo6 _ _,Eo6 _ _,Eo6 _ _,Eo6 _ _⟩
  ·exact ⟨by simp,by simp,by simp,by simp⟩
theorem Hc6 {p:ProcS} (h:okS p=true):H33 p.fds:=fun f hf=>by
 unfold okS at h
 simp only [Bool.and_eq_true,Bool.not_eq_true',List.any_eq_false] at h
 have:=h.2.2.1 f hf
 simp at this;omega
abbrev H72 (p:ProcS) (i:Int):ProcS:=⟨p.state,i+1,p.group,p.code,0,p.mask,p.ignored,p.caught,p.fds,p.len⟩
def Ih1 (X:CX) (i:Int):List Value × CX :=
 if (O3 X i).2≠0 then (E7 0 (O3 X i).2 false,X)
 else if Gq6 X 8 0<0 then (E7 0 111 false,X)
 else if (G28 X (O3 X i).1).1≠0 then (E7 0 (G28 X (O3 X i).1).1 false,X)
 else (E7 (Gq6 X 8 0) 0 false,Ay4 (G28 X (O3 X i).1).2 (Gq6 X 8 0) (H72 (O3 X i).1 i))
theorem A63 {nc:Nat} {X:CX} (c:Clean nc X) {i:Int} (hi:0≤i∧i<8) (h:(O3 X i).2=0):O3 X i=((vS X i).1,0)∧(vS X i).1.state=1∧okS (vS X i).1=true∧(vS X i).2=1:=by
 unfold O3 at h ⊢
 split
 ·rename_i h1
  refine ⟨rfl,h1.2,?_,h1.1⟩
  rcases Ih6 c hi with ⟨h2,_⟩|⟨_,h2⟩
  ·rw [h1.1] at h2;cases h2
  ·exact h2
 ·rename_i h1;rw [if_neg h1] at h;cases h
theorem Ek5 (j:Int) (p:ProcS):(int j::D6 p).length=17:=by simp [Bt6 p,p.len]
instance {j:Int} {p:ProcS}:LenC (int j::D6 p) 17:=⟨Ek5 j p⟩
instance {j:Int} {p:ProcS}:PartC (int j::D6 p) 0 17 (int j::D6 p):=⟨Dr3 (Ek5 j p)⟩
instance {j:Int} {p:ProcS} {cs:List Value} [k:LenC cs 17]:SetsC cs 0 (int j::D6 p) (int j::D6 p):=⟨Bt7 k.ok (Ek5 j p) (by simp [Value.oneCell])⟩
def p0:ProcS:=⟨1,0,0,0,0,0,0,0,[1,0,0,0,0,0,0,0],rfl⟩
def f0:FileS:=⟨3,0,1,0⟩
def Aw6:List UInt8:=J8 (J8 Ab1 0 (Ee6 p0)) 192 (Ag6 f0)
theorem Bv4:Aw6.length=492:=by kernel_rfl
theorem Eg3:(Ee6 p0).length=24:=by kernel_rfl
theorem Gj3 (l b:List UInt8) (a:Nat):(A0 l).take a++A0 b++(A0 l).drop (a+(A0 b).length)=A0 (J8 l a b):=by
 rw [S8]
 simp [J8,A0,List.map_take,List.map_drop]
theorem H63 {b:List UInt8} (h:0<b.length):A0 b≠[]:=by
 intro e
 have e2:=congrArg List.length e
 rw [S8] at e2
 have e3:b.length=0:=e2
 omega
theorem Gy4:Ct A7 A77 [] [] fun v own=>∃ a,v=.slice a 492 492∧own [slC false A3 1 a 492 492 (A0 Aw6)]:=by
 refine Ct.of Gn1 rfl fun h r=>Tr.eq (Gm9 ..) ?_;refine Je ?_
 refine Yc (Gm6) ?_;rintro _ h ⟨rfl,o⟩<;>refine Jh o ?_
 (refine Jc ?_;unhygienic intros)
 rw [A34,Aa8]
 refine Tr.ck (by simp [A8]) ?_
 refine Yn fun b0 h=>?_
 refine Dk7 (n:=492) 0 rfl (by rw [S8];exact Aa8) ?_
 refine Je ?_
 refine Yn fun b1 h=>?_
 (refine Ja ?_;unhygienic intros)
 rw [show ([int 1,int 0,int 0,int 0,int 0,int 0,int 0,int 0,int 0,int 0,int 0,int 0,int 0,int 0,int 0,int 0]:List Value).set 8 (int 1)=D6 p0 from rfl]
 (refine Ja ?_;unhygienic intros)
 refine Yc (Hv1 p0) ?_;rintro _ h ⟨rfl,o⟩<;>refine Jh o ?_
 (refine Ja ?_;unhygienic intros)
 rw [show List.take (min (bs (Ee6 p0)).size 492) (bs (Ee6 p0)).data.toList=Ee6 p0 by kernel_rfl]
 rw [show A9 (J6 b0)=(A9 (J6 b0)).add 0 from rfl]
 refine Tr.xPAggS (cs':=A0 (J8 Ab1 0 (Ee6 p0))) ⟨H63 (by rw [Eg3];omega),by rw [S8,S8,Eg3,Aa8];omega,Ae7 _,Gj3 _ _ 0⟩ fun h=>?_
 (refine Ja ?_;unhygienic intros)
 refine Yc (Hu2 f0) ?_;rintro _ h ⟨rfl,o⟩<;>refine Jh o ?_
 (refine Ja ?_;unhygienic intros)
 rw [show List.take (min (bs (Ag6 f0)).size (492-192)) (bs (Ag6 f0)).data.toList=Ag6 f0 by kernel_rfl]
 rw [Gg9 (by omega),Eh3]
 refine Tr.xPAggS (cs':=A0 Aw6) ⟨H63 (by rw [Dn3];omega),by rw [S8,S8,Ad0 (by rw [Eg3,Aa8];omega),Dn3,Aa8];omega,Ae7 _,Gj3 _ _ 192⟩ fun h=>?_
 refine Ys fun o=>?_
 exact ⟨_,rfl,o.sub⟩
theorem Hk2 {S:KS} (kS:Like S) {s:Nat} {env:Int} (e:EnvP s env) {j:Nat} {cap:Int} {lo n:Nat} (hc:H56[j]?=some cap) (hr:(rgP s)[j]?=some (lo,n)) {b:List UInt8} (hb:b.length≤n) :
  Y3 S env ⟨2,cap,0,0,0,0,b⟩=((0,0,[]),Bn4 S (J8 S.mem lo b)):=by
 have F:=Gx3 kS e
 have hroom:lo+n≤S.mem.length:=D78 kS e.hs env j lo n hr
 have hp:=F.pl j cap lo n hc hr 0 b.length 2 (.inr rfl) (by omega)
 have hs:A89 S.mem ((lo+0:Nat):Int) b=some (J8 S.mem lo b):=by
  unfold A89
  rw [if_pos (by omega),Int.toNat_natCast,Nat.add_zero];rfl
 have ew:Ai9 S.tabs S.regs S.mem env cap 0 b=(0,J8 S.mem lo b):=by
  unfold Ai9
  rw [show P3 S.tabs S.regs env cap 2 0 (b.length:Int)=(((lo+0:Nat):Int),0) from hp]
  rw [if_neg (by simp),hs]
 unfold Y3
 rw [if_neg (show ¬ (env<0∨env≥(S.envs.length:Int)) from F.env)]
 unfold kDo
 rw [if_neg (show ¬ ((2:Int)=1) by decide),if_pos rfl,ew]
def q1:PipeS:=⟨0,0,1,1,List.replicate 32 0,rfl⟩
def S1:KS:=Bn4 S0 (J8 S0.mem 0 Aw6)
def S2:KS:=Bn4 S1 (J8 S1.mem 512 (I8 q1))
def S3:KS:=Bn4 S2 (J8 S2.mem 1856 (I8 q1))
theorem Ax1:(I8 q1).length=40:=Br6 q1.len
theorem Gb7:Like S1:=D75 Dr1 (by rw [Ad0 (by rw [Bv4,Dr1.mem];omega)];exact Dr1.mem)
theorem E43:Like S2:=D75 Gb7 (by rw [Ad0 (by rw [Ax1,Gb7.mem];omega)];exact Gb7.mem)
theorem H57:Like S3:=D75 E43 (by rw [Ad0 (by rw [Ax1,E43.mem];omega)];exact E43.mem)
theorem Ih8:Y3 S0 0 ⟨2,256,0,0,0,0,Aw6⟩=((0,0,[]),S1):=Hk2 Dr1 Gt3 (j:=0) rfl rfl (by rw [Bv4];omega)
theorem Ig6:Y3 S1 0 ⟨2,257,0,0,0,0,I8 q1⟩=((0,0,[]),S2):=Hk2 Gb7 Gt3 (j:=1) rfl rfl (by rw [Ax1];omega)
theorem Ii1:Y3 S2 0 ⟨2,258,0,0,0,0,I8 q1⟩=((0,0,[]),S3):=Hk2 E43 Gt3 (j:=2) rfl rfl (by rw [Ax1];omega)
abbrev F1:Fr:=frP S3 0 0
def X1:CX:=⟨By3 S3.mem (rgP 0),[]⟩
theorem By0:FrOk F1:=Gx3 H57 Gt3
theorem E08:Clean 3 X1:=by
 refine ⟨by kernel_rfl,by omega,rfl,by kernel_rfl,fun j h0 h1=>?_,fun r h1 h2 h3 h4=>?_⟩
 ·have:j=1∨j=2:=by omega
  rcases this with rfl|rfl
  ·clear h0 h1;show (_:Nat)=_;kernel_rfl
  ·clear h0 h1;show (_:Nat)=_;kernel_rfl
 ·have all:((List.range 8).all (fun i=>decide (stR 1 (rd X1 ⟨1,(i:Int)⟩)≠2)) && ((List.range 12).all (fun i=>decide (stR 2 (rd X1 ⟨2,(i:Int)⟩)≠2)) && ((List.range 6).all (fun i=>decide (stR 3 (rd X1 ⟨3,(i:Int)⟩)≠2)) && (decide (stR 4 (rd X1 ⟨4,0⟩)≠2) && decide (stR 5 (rd X1 ⟨5,0⟩)≠2)))))=true:=by kernel_rfl
  simp only [Bool.and_eq_true,List.all_eq_true,List.mem_range,decide_eq_true_eq] at all
  obtain ⟨a1,a2,a3,a4,a5⟩:=all
  obtain ⟨k,i⟩:=r
  simp only at h1 h2 h3 h4 ⊢
  obtain ⟨n,rfl⟩:∃ n:Nat,i=n:=⟨i.toNat,by omega⟩
  have hk:k=1∨k=2∨k=3∨k=4∨k=5:=by omega
  rcases hk with rfl|rfl|rfl|rfl|rfl<;>simp [W3] at h4
  ·exact a1 n (by omega)
  ·exact a2 n (by omega)
  ·exact a3 n (by omega)
  ·obtain rfl:n=0:=by omega
   exact a4
  ·obtain rfl:n=0:=by omega
   exact a5
theorem Hi2 (k w m c:Nat) (b1:Nat) (cs:List Value) (hcs:cs.length=7) (K:RKS) (hK:RKOk K) (hB:0<K.B.envs.length) :
  CtJ G2 Ad9 Bd0 [(6,P0 k),(7,P0 c),(8,P0 w),(9,P0 m),(10,P0 b1),(11,.string (bs (I8 q1))),(12,int 1)] [pt b1 (.cells Av5 false cs),D7 k S1,rkC w K] fun v own =>
   v=.tuple ⟨[P0 k,P0 c,P0 w,P0 m]⟩∧∃ K',own [D7 k S3,rkC w K']:=by
 have hset:∀ xs:List Value,xs.length=7→∀ vs:List Value,vs.length=7→vs.all Value.oneCell=true→D48 xs 0 vs=some vs:=fun xs h vs h1 h2=>Bt7 h h1 h2
 refine CtJ.of By8 fun h r=>Tr.eq (Bz9 ..) ?_;refine Je ?_
 refine Yt rfl ?_
 rw [A34,Ax1]
 refine Tr.ck (by simp [A8]) ?_
 refine Yn fun b2 h=>?_
 refine Dk7 (n:=40) 0 rfl (by rw [S8];exact Ax1) ?_
 refine Je ?_
 rw [show IntKind.wrap .i64 (256+1)=257 by decide]
 refine Gs (fun h=>?_) (by exact hset cs hcs _ rfl rfl)
 (refine Ja ?_;unhygienic intros)
 have J1:=D20 k S1 0 Gb7.ok (by omega) 0 ⟨2,257,0,0,0,0,I8 q1⟩ (some (J6 b2)) 40 false (show ((2:Int)≠5) by decide)
 rw [Ig6] at J1
 simp only [Bi2,Ax1] at J1
 refine Bq8 J1 [2,0] rfl ?_
 rintro _ h ⟨y,z,rfl,o⟩
 refine (?_:Tr _ _ _ _) o
 refine Je ?_
 (refine Ja ?_;unhygienic intros)
 have R1:=Eq2 w K hK 0 hB ⟨2,257,0,0,0,0,I8 q1⟩ rfl (by rw [Ax1];simp [A8]) (slC false A3 1 (some (J6 b2)) (I8 q1).length 40 (A0 (I8 q1))) (some (J6 b2)) 40 false
 simp only [Bi2,Ax1] at R1
 refine Bq8 R1 [4,2] rfl ?_
 rintro _ h ⟨rfl,o⟩
 rw [show ({ K with R:=(Ag2 K.R ((0:Nat):Int) 257 0 (I8 q1)).2 }:RKS)=wrR K 257 (I8 q1) from rfl] at o
 have hK1:=Ga5 hK 257 (I8 q1)
 refine (?_:Tr _ _ _ _) o
 refine Je ?_
 (refine Ja ?_;unhygienic intros)
 refine Tr.jmp By8 (Tr.eq (Bz9 ..) ?_);(try simp only[Nr,Nl,wl,Nat.reduceAdd,Nat.reduceMul,Int.reduceToNat])
 refine Yt rfl ?_
 rw [A34,Ax1]
 refine Tr.ck (by simp [A8]) ?_
 refine Yn fun b3 h=>?_
 refine Dk7 (n:=40) 0 rfl (by rw [S8];exact Ax1) ?_
 refine Je ?_
 rw [show IntKind.wrap .i64 (256+2)=258 by decide]
 refine Gs (fun h=>?_) (by exact hset _ rfl _ rfl rfl)
 (refine Ja ?_;unhygienic intros)
 have J2:=D20 k S2 0 E43.ok (by omega) 0 ⟨2,258,0,0,0,0,I8 q1⟩ (some (J6 b3)) 40 false (show ((2:Int)≠5) by decide)
 rw [Ii1] at J2
 simp only [Bi2,Ax1] at J2
 refine Bq8 J2 [4,0] rfl ?_
 rintro _ h ⟨y2,z2,rfl,o⟩
 refine (?_:Tr _ _ _ _) o
 refine Je ?_
 (refine Ja ?_;unhygienic intros)
 have R2:=Eq2 w (wrR K 257 (I8 q1)) hK1 0 hB ⟨2,258,0,0,0,0,I8 q1⟩ rfl (by rw [Ax1];simp [A8]) (slC false A3 1 (some (J6 b3)) (I8 q1).length 40 (A0 (I8 q1))) (some (J6 b3)) 40 false
 simp only [Bi2,Ax1] at R2
 refine Bq8 R2 [3,2] rfl ?_
 rintro _ h ⟨rfl,o⟩
 rw [show ({ wrR K 257 (I8 q1) with R:=(Ag2 (wrR K 257 (I8 q1)).R ((0:Nat):Int) 258 0 (I8 q1)).2 }:RKS)=wrR (wrR K 257 (I8 q1)) 258 (I8 q1) from rfl] at o
 refine (?_:Tr _ _ _ _) o
 refine Je ?_
 (refine Ja ?_;unhygienic intros)
 refine Tr.jmp By8 (Tr.eq (Bz9 ..) ?_);(try simp only[Nr,Nl,wl,Nat.reduceAdd,Nat.reduceMul,Int.reduceToNat])
 refine Yf rfl ?_
 refine Ys fun o=>?_
 exact ⟨rfl,_,o.fin [3,0] 5 rfl rfl⟩
theorem H62:RKOk K0:=Ga5 D16.1 256 Ab1
theorem Hc0:0<K0.B.envs.length:=by show (0:Nat)<(Db6 Ag0).B.envs.length;rw [D16.2,Bs2];simp
theorem Hc7 (a:Option Addr):Ct A7 Ad9 [.slice a 492 492] [slC false A3 1 a 492 492 (A0 Aw6)] fun v own=>∃ k c w m K',v=.tuple ⟨[P0 k,P0 c,P0 w,P0 m]⟩∧own [cmC c k F1 X1,rkC w K',rcC m w 0 (Bp8 K0 0) []]:=by
 refine Ct.of By8 rfl fun h r=>Tr.eq (Gv6 ..) ?_;refine Je ?_
 refine Yc (H05) ?_;rintro _ h ⟨A,rfl,o⟩<;>refine Jh o ?_
 (refine Ja ?_;unhygienic intros)
 refine Yc (H34 A) ?_
 rintro _ h ⟨k,c,w,m,rfl,o⟩
 refine (?_:Tr _ _ _ _) o
 refine Je ?_
 (refine Jb ?_;unhygienic intros)
 refine Yb (Yf rfl ?_)
 refine Ys fun o=>(?_:Tr _ _ _ _) o;refine Je ?_
 refine Yf rfl ?_
 refine Ic7 c k F0 X0 fun f=>?_
 rw [show F0.at X0.m=S0 from Fr.at_cut H60 (D78 Dr1 (by omega) 0)]
 refine (?_:Tr (D7 k S0::V4 c k 0 H56 []::_) _ _ _)
 refine Yn fun b1 h=>?_
 (refine Ja ?_;unhygienic intros)
 refine Yc (Gk9 q1) ?_;rintro _ h ⟨rfl,o⟩<;>refine Jh o ?_
 (refine Ja ?_;unhygienic intros)
 have J1:=D20 k S0 0 Dr1.ok (by omega) 0 ⟨2,256,0,0,0,0,Aw6⟩ a 492 false (show ((2:Int)≠5) by decide)
 rw [Ih8] at J1
 simp only [Bi2,Bv4] at J1
 refine Bq8 J1 [1,4] rfl ?_
 rintro _ h ⟨y,z,rfl,o⟩
 refine (?_:Tr _ _ _ _) o
 refine Je ?_
 (refine Ja ?_;unhygienic intros)
 have R1:=Eq2 w K0 H62 0 Hc0 ⟨2,256,0,0,0,0,Aw6⟩ rfl (by rw [Bv4];simp [A8]) (slC false A3 1 a Aw6.length 492 (A0 Aw6)) a 492 false
 simp only [Bi2,Bv4] at R1
 refine Bq8 R1 [5,2] rfl ?_
 rintro _ h ⟨rfl,o⟩
 rw [show ({ K0 with R:=(Ag2 K0.R ((0:Nat):Int) 256 0 Aw6).2 }:RKS)=wrR K0 256 Aw6 from rfl] at o
 refine (?_:Tr _ _ _ _) o
 refine Je ?_
 (refine Ja ?_;unhygienic intros)
 refine D06 (Hi2 k w m c b1 _ rfl (wrR K0 256 Aw6) (Ga5 H62 256 Aw6) Hc0) [4,3,0] rfl ?_
 rintro _ h ⟨rfl,K',o⟩
 refine ⟨k,c,w,m,K',rfl,?_⟩
 exact Own.cmTake c k F1 [] By0 (D78 H57 (by omega) 0) (o.fin [0,3,0,2] 2 rfl rfl)
def X2:CX:=(Ih1 X1 0).2
structure Inv (n:Int) (X:CX):Prop where
 c:Clean 3 X
 h:1≤n∧n≤8
 on:∀ j:Int,0≤j→j<n→(vS X j).2=1∧(vS X j).1.state=1∧(vS X j).1.fds=p0.fds
 off:∀ j:Int,n≤j→j<8→(vS X j).2=0
 fl:(vF X 0).2=1∧(vF X 0).1.refs=n
section
variable {nc:Nat} {X:CX} (c:Clean nc X)
include c
abbrev Bh1 (X:CX) (i:Int) (p:PipeS):CX:=Bw9 X ⟨3,i⟩ (I8 p)
abbrev Du8 (X:CX) (i:Int):CX:=Bw9 X ⟨2,i⟩ (List.replicate 8 0)
abbrev Ey0 (X:CX) (i:Int):CX:=Bw9 X ⟨3,i⟩ (List.replicate 40 0)
theorem Bi0 {i:Int} (h:0≤i∧i<3+nc) {p:PipeS} (ok:okP p=true) :
  Bs3 X i p=(true,Bh1 X i p)∧Clean nc (Bh1 X i p)∧(∀ j:Int,0≤j∧j<8→vS (Bh1 X i p) j=vS X j)∧(∀ j:Int,0≤j∧j<12→vF (Bh1 X i p) j=vF X j)∧(∀ j:Int,0≤j∧j<3+nc→vP (Bh1 X i p) j=if j=i then (p,1) else vP X j):=by
 have hl:(I8 p).length=Q3 (3:Int):=by rw [Br6 p.len];rfl
 refine ⟨by unfold Bs3;rw [ok];exact B90 c (Bl4 h) _,B80 c (Bl4 h) hl (by show (V7 (I8 p)).2≠2;rw [G41 ok];simp),fun j hj=>?_,fun j hj=>?_,fun j hj=>?_⟩
 ·show Y2 (rd _ _)=_
  rw [Al0 c (Bl4 h) (Dj6 hj) hl,if_neg (by simp)]
 ·show Z4 (rd _ _)=_
  rw [Al0 c (Bl4 h) (Bk2 hj) hl,if_neg (by simp)]
 ·show V7 (rd _ _)=_
  rw [Al0 c (Bl4 h) (Bl4 hj) hl]
  by_cases e:j=i
  ·rw [if_pos (by rw [e]),if_pos e];exact G41 ok
  ·rw [if_neg (by simp [e]),if_neg e]
theorem B42 {i:Int} (h:0≤i∧i<12) :
  B67 X ⟨2,i⟩=(true,Du8 X i)∧Clean nc (Du8 X i)∧(∀ j:Int,0≤j∧j<8→vS (Du8 X i) j=vS X j)∧(∀ j:Int,0≤j∧j<12→vF (Du8 X i) j=if j=i then (.zero,0) else vF X j)∧(∀ j:Int,0≤j∧j<3+nc→vP (Du8 X i) j=vP X j):=by
 have hl:(List.replicate 8 (0:UInt8)).length=Q3 (2:Int):=rfl
 refine ⟨B90 c (Bk2 h) _,B80 c (Bk2 h) hl (by show (Z4 (List.replicate 8 0)).2≠2;rw [show (Z4 (List.replicate 8 0))=(.zero,0) from rfl];simp),fun j hj=>?_,fun j hj=>?_,fun j hj=>?_⟩
 ·show Y2 (rd _ _)=_
  rw [Al0 c (Bk2 h) (Dj6 hj) hl,if_neg (by simp)]
 ·show Z4 (rd _ _)=_
  rw [Al0 c (Bk2 h) (Bk2 hj) hl]
  by_cases e:j=i
  ·rw [if_pos (by rw [e]),if_pos e];rfl
  ·rw [if_neg (by simp [e]),if_neg e]
 ·show V7 (rd _ _)=_
  rw [Al0 c (Bk2 h) (Bl4 hj) hl,if_neg (by simp)]
theorem B29 {i:Int} (h:0≤i∧i<3+nc) :
  B67 X ⟨3,i⟩=(true,Ey0 X i)∧Clean nc (Ey0 X i)∧(∀ j:Int,0≤j∧j<8→vS (Ey0 X i) j=vS X j)∧(∀ j:Int,0≤j∧j<12→vF (Ey0 X i) j=vF X j)∧(∀ j:Int,0≤j∧j<3+nc→vP (Ey0 X i) j=if j=i then (.zero,0) else vP X j):=by
 have hl:(List.replicate 40 (0:UInt8)).length=Q3 (3:Int):=rfl
 refine ⟨B90 c (Bl4 h) _,B80 c (Bl4 h) hl (by show (V7 (List.replicate 40 0)).2≠2;rw [show (V7 (List.replicate 40 0))=(.zero,0) from rfl];simp),fun j hj=>?_,fun j hj=>?_,fun j hj=>?_⟩
 ·show Y2 (rd _ _)=_
  rw [Al0 c (Bl4 h) (Dj6 hj) hl,if_neg (by simp)]
 ·show Z4 (rd _ _)=_
  rw [Al0 c (Bl4 h) (Bk2 hj) hl,if_neg (by simp)]
 ·show V7 (rd _ _)=_
  rw [Al0 c (Bl4 h) (Bl4 hj) hl]
  by_cases e:j=i
  ·rw [if_pos (by rw [e]),if_pos e];rfl
  ·rw [if_neg (by simp [e]),if_neg e]
theorem Hh9 {i:Int} (h:0≤i∧i<3+nc):((vP X i).2=0∧(vP X i).1=.zero)∨((vP X i).2=1∧okP (vP X i).1=true):=by
 have:=c.ok ⟨3,i⟩ (by simp) (by simp) h.1 h.2
 have hk:(vP X i).2≠2:=this
 unfold vP V7 at hk ⊢
 split
 ·exact .inl ⟨rfl,rfl⟩
 ·split
  ·rename_i h2
   unfold isP at h2
   simp only [Bool.and_eq_true] at h2
   exact .inr ⟨rfl,h2.1⟩
  ·rename_i h1 h2;simp [h1,h2] at hk
end
abbrev El2 (q:PipeS):PipeS:=⟨q.head,q.count,max (q.readers-1) 0,q.writers,q.data,q.len⟩
abbrev Eh5 (q:PipeS):PipeS:=⟨q.head,q.count,q.readers,max (q.writers-1) 0,q.data,q.len⟩
def Db2 (kind:Int) (q:PipeS):PipeS:=if kind=1 then El2 q else Eh5 q
theorem Gf9 {q:PipeS} (h:okP q=true) (kind:Int):okP (Db2 kind q)=true:=by
 unfold Db2
 split<;>(simp only [okP,Bool.and_eq_true,decide_eq_true_eq] at h ⊢;omega)
def D08 (X:CX) (i:Int) (q:PipeS):CX:=if q.readers+q.writers=0∧i<4 then Ey0 X i else Bh1 X i q
def Bg6 (nc:Nat) (X:CX) (f:Int):Int × CX :=
 if (vF X f).2≠1 then (105,X)
 else if (vF X f).1.refs-1>0 then (0,Ak1 X f (Bg4 (vF X f).1 (-1)))
 else if (vF X f).1.kind=3 then (0,Du8 X f)
 else if ¬ ((vF X f).1.pipe<3+nc∧(vP X (vF X f).1.pipe).2=1) then (105,Du8 X f)
 else (0,D08 (Du8 X f) (vF X f).1.pipe (Db2 (vF X f).1.kind (vP X (vF X f).1.pipe).1))
theorem Hp0 {nc:Nat} {X:CX} (c:Clean nc X) {i:Int} (h:¬ i<3+nc):Di1 X i=((.zero,2),X):=by
 have hp:G3 X.m.length ⟨3,i⟩=none:=by
  unfold G3
  rw [c.len,if_pos (by simp [W3];omega)]
 unfold Di1 U0 rdX
 rw [hp]
theorem E25 {f:FileS} (h:okF f=true):0≤f.pipe:=by
 simp only [okF,Bool.and_eq_true,Bool.or_eq_true,decide_eq_true_eq,beq_iff_eq,bne_iff_ne] at h
 omega
theorem Gx1 {nc:Nat} {X:CX} (c:Clean nc X) {i:Int} (h:0≤i∧i<3+nc) {q:PipeS} (ok:okP q=true):Clean nc (D08 X i q):=by
 unfold D08
 split
 ·exact (B29 c h).2.1
 ·exact (Bi0 c h ok).2.1
theorem Ev9 (b k:Nat) (F:Fr) (ok:FrOk F) {nc:Nat} {X:CX} (c:Clean nc X) (b1 b2:Nat) (g:FileS) (q:PipeS) (hi:0≤g.pipe∧g.pipe<3+nc) (hq:okP q=true) :
  CtJ G2 V6 As0 [(0,P0 b),(5,P0 b1),(7,P0 b2)] [pt b1 (.cells D4 false (Bc3 g)),pt b2 (.cells G8 false (M7 q)),cmC b k F X] fun v own=>v=int 0∧own [cmC b k F (D08 X g.pipe q)]:=by
 have hr:0≤q.readers∧q.readers≤8∧0≤q.writers∧q.writers≤8:=by
  simp only [okP,Bool.and_eq_true,decide_eq_true_eq] at hq;omega
 have e1:IntKind.wrap .i64 (q.readers+q.writers)=q.readers+q.writers:=by rw [A6];omega
 obtain ⟨f1,_⟩:=B29 c hi
 obtain ⟨w1,_⟩:=Bi0 c hi hq
 unfold D08
 refine CtJ.of Do7 fun h r=>Tr.eq (Ed2 ..) ?_;refine Je ?_
 (refine Jb ?_;unhygienic intros)
 rw [e1]
 refine Tr.andG (c:=decide (g.pipe<4)) (fun hb=>?_) ?_
 ·exact Jz
 by_cases h:q.readers+q.writers=0∧g.pipe<4
 ·rw [if_pos h]
  refine Yt (by simp [h.1,h.2]) ?_
  (refine Ja ?_;unhygienic intros)
  refine Yc (Gw0 b k F X ok g.pipe) ?_;rintro _ h ⟨rfl,o⟩<;>refine Jh o ?_
  rw [f1]
  dsimp only
  (refine Ja ?_;unhygienic intros)
  refine Yc (Gh1 true 0) ?_;rintro _ h ⟨rfl,o⟩<;>refine Jh o ?_
  rw [if_pos trivial]
  (refine Ja ?_;unhygienic intros)
  refine Ys fun o=>?_
  exact ⟨rfl,o.sub⟩
 ·rw [if_neg h]
  refine Yf (by simp;omega) ?_
  (refine Ja ?_;unhygienic intros)
  refine Yc (Ew8 b k F X ok g.pipe q) ?_;rintro _ h ⟨rfl,o⟩<;>refine Jh o ?_
  rw [w1]
  dsimp only
  (refine Ja ?_;unhygienic intros)
  refine Yc (Gh1 true 0) ?_;rintro _ h ⟨rfl,o⟩<;>refine Jh o ?_
  rw [if_pos trivial]
  (refine Ja ?_;unhygienic intros)
  refine Ys fun o=>?_
  exact ⟨rfl,o.sub⟩
theorem Gs7 (b k:Nat) (F:Fr) (X:CX) (ok:FrOk F) {nc:Nat} (c:Clean nc X) (f:Int) (hf:0≤f∧f<12):Ct A7 V6 [P0 b,int f] [cmC b k F X] fun v own=>v=int (Bg6 nc X f).1∧own [cmC b k F (Bg6 nc X f).2]:=by
 have hrf:=H76 c hf
 have e1:IntKind.wrap .i64 ((vF X f).1.refs-1)=(vF X f).1.refs+-1:=by rw [A6];omega
 obtain ⟨z1,z2,z3,z4,z5⟩:=B42 c hf
 unfold Bg6
 refine Ct.of Do7 rfl fun h r=>Tr.eq (E34 ..) ?_;refine Je ?_
 refine Yc (Hc5 b k F X ok) ?_;rintro _ h ⟨rfl,o⟩<;>refine Jh o ?_
 rw [E87 c]
 (refine Ja ?_;unhygienic intros)
 refine Yc (Dj7 b k F X ok f) ?_;rintro _ h ⟨rfl,o⟩<;>refine Jh o ?_
 rw [Bm2 c hf]
 dsimp only
 (refine Jc ?_;unhygienic intros)
 refine Yn fun b1 h=>?_
 (refine Ja ?_;unhygienic intros)
 by_cases h1:(vF X f).2=1
 case neg =>
  rw [if_pos h1]
  refine Yt (by simpa using h1) ?_
  refine Ys fun o=>?_
  exact ⟨rfl,o.sub⟩
 rw [if_neg (by simpa using h1)]
 refine Yf (by simpa using h1) ?_
 have hk:okF (vF X f).1=true:=by
  rcases Ep3 c hf with ⟨h2,_⟩|⟨_,h2⟩
  ·rw [h1] at h2;cases h2
  ·exact h2
 have hr:=Ba5 hk
 have hpp:=E25 hk
 generalize hg:(vF X f).1=g at hrf e1 hk hr hpp
 (refine Ja ?_;unhygienic intros)
 simp only [e1,List.set_cons_succ,List.set_cons_zero]
 (refine Ja ?_;unhygienic intros)
 by_cases h2:g.refs-1>0
 ·rw [if_pos h2]
  refine Yt (by simp;omega) ?_
  have hk2:=A48 hk (n:=-1) (by omega)
  obtain ⟨w1,_⟩:=W0 c hf hk2
  (refine Ja ?_;unhygienic intros)
  simp only [List.drop_zero,List.take]
  refine Yc (B62 b k F X ok f (Bg4 g (-1))) ?_;rintro _ h ⟨rfl,o⟩<;>refine Jh o ?_
  rw [w1]
  dsimp only
  (refine Ja ?_;unhygienic intros)
  refine Yc (Gh1 true 0) ?_;rintro _ h ⟨rfl,o⟩<;>refine Jh o ?_
  rw [if_pos trivial]
  (refine Ja ?_;unhygienic intros)
  refine Ys fun o=>?_
  exact ⟨rfl,o.sub⟩
 rw [if_neg h2]
 refine Yf (by simp;omega) ?_
 refine Yc (G17 b k F X ok f) ?_;rintro _ h ⟨rfl,o⟩<;>refine Jh o ?_
 rw [z1]
 dsimp only
 (refine Ja ?_;unhygienic intros)
 by_cases h3:g.kind=3
 ·rw [if_pos h3]
  refine Yt (by simpa using h3) ?_
  refine Ys fun o=>?_
  exact ⟨rfl,o.sub⟩
 rw [if_neg h3]
 refine Yf (by simpa using h3) ?_
 (refine Ja ?_;unhygienic intros)
 refine Yc (D72 b k F (Du8 X f) ok g.pipe) ?_;rintro _ h ⟨rfl,o⟩<;>refine Jh o ?_
 by_cases h4:g.pipe<3+(nc:Int)
 case neg =>
  rw [if_pos (fun h=>h4 h.1),Hp0 z2 h4]
  dsimp only
  (refine Jc ?_;unhygienic intros)
  refine Yn fun b2 h=>?_
  (refine Ja ?_;unhygienic intros)
  refine Ys fun o=>?_
  exact ⟨rfl,o.sub⟩
 rw [B60 z2 ⟨hpp,h4⟩,z5 _ ⟨hpp,h4⟩]
 dsimp only
 (refine Jc ?_;unhygienic intros)
 refine Yn fun b2 h=>?_
 (refine Ja ?_;unhygienic intros)
 by_cases h5:(vP X g.pipe).2=1
 case neg =>
  rw [if_pos (fun h=>h5 h.2)]
  refine Yt (by simpa using h5) ?_
  refine Ys fun o=>?_
  exact ⟨rfl,o.sub⟩
 rw [if_neg (fun h=>h ⟨h4,h5⟩)]
 refine Yf (by simpa using h5) ?_
 have hq:okP (vP X g.pipe).1=true:=by
  rcases Hh9 c ⟨hpp,h4⟩ with ⟨h6,_⟩|⟨_,h6⟩
  ·rw [h5] at h6;cases h6
  ·exact h6
 have hq2:=Gf9 hq g.kind
 generalize (vP X g.pipe).1=q at hq hq2
 have hqr:0≤q.readers∧q.readers≤8∧0≤q.writers∧q.writers≤8:=by
  simp only [okP,Bool.and_eq_true,decide_eq_true_eq] at hq;omega
 have e2:IntKind.wrap .i64 (q.readers-1)=q.readers-1:=by rw [A6];omega
 have e3:IntKind.wrap .i64 (q.writers-1)=q.writers-1:=by rw [A6];omega
 (refine Ja ?_;unhygienic intros)
 by_cases h6:g.kind=1
 ·refine Yt (by simpa using h6) ?_
  have ee:Db2 g.kind q=El2 q:=by unfold Db2;rw [if_pos h6]
  rw [ee] at hq2 ⊢
  (refine Ja ?_;unhygienic intros)
  rw [e2,W1,show (M7 q).set 2 (int (max (q.readers-1) 0))=M7 (El2 q) from rfl]
  refine D06 (Ev9 b k F ok z2 b1 b2 (Bg4 g (-1)) (El2 q) ⟨hpp,h4⟩ hq2) [2,0,0] rfl ?_
  intro v h q
  exact q
 ·refine Yf (by simpa using h6) ?_
  have ee:Db2 g.kind q=Eh5 q:=by unfold Db2;rw [if_neg h6]
  rw [ee] at hq2 ⊢
  (refine Ja ?_;unhygienic intros)
  rw [e3,W1,show (M7 q).set 3 (int (max (q.writers-1) 0))=M7 (Eh5 q) from rfl]
  refine D06 (Ev9 b k F ok z2 b1 b2 (Bg4 g (-1)) (Eh5 q) ⟨hpp,h4⟩ hq2) [2,0,0] rfl ?_
  intro v h q
  exact q
theorem Gv2 {nc:Nat} {X:CX} (c:Clean nc X) {f:Int} (hf:0≤f∧f<12):Clean nc (Bg6 nc X f).2:=by
 have z2:=(B42 c hf).2.1
 unfold Bg6
 by_cases h1:(vF X f).2=1
 case neg=>rw [if_pos h1];exact c
 rw [if_neg (by simpa using h1)]
 have hk:okF (vF X f).1=true:=by
  rcases Ep3 c hf with ⟨h2,_⟩|⟨_,h2⟩
  ·rw [h1] at h2;cases h2
  ·exact h2
 have hr:=Ba5 hk
 by_cases h2:(vF X f).1.refs-1>0
 ·rw [if_pos h2]
  exact (W0 c hf (A48 hk (n:=-1) (by omega))).2.1
 rw [if_neg h2]
 by_cases h3:(vF X f).1.kind=3
 ·rw [if_pos h3];exact z2
 rw [if_neg h3]
 by_cases h4:(vF X f).1.pipe<3+nc∧(vP X (vF X f).1.pipe).2=1
 case neg=>rw [if_pos h4];exact z2
 rw [if_neg (fun h=>h h4)]
 have hi:0≤(vF X f).1.pipe∧(vF X f).1.pipe<3+nc:=⟨E25 hk,h4.1⟩
 have hq:okP (vP X (vF X f).1.pipe).1=true:=by
  rcases Hh9 c hi with ⟨h6,_⟩|⟨_,h6⟩
  ·rw [h4.2] at h6;cases h6
  ·exact h6
 exact Gx1 z2 hi (Gf9 hq _)
def SlOk (L:List (Int × ProcS)):Prop:=∀ s ∈ L,(0≤s.1∧s.1<8)∧okS s.2=true∧InS s.2
theorem Y1 (e:Int):Ct A7 I4 [int e] [] fun v own=>v=.agg ⟨E7 0 e false⟩∧own []:=by
 refine Ct.of Hg7 rfl fun h r=>Tr.eq (He9 ..) ?_;refine Je ?_
 (refine Ja ?_;unhygienic intros)
 refine Ys fun o=>?_
 exact ⟨rfl,o.tail⟩
theorem Gt2 (ok:Bool) (n:Int):Ct A7 By6 [.bool ok,int n] [] fun v own=>v=.agg ⟨if ok then E7 n 0 false else E7 0 105 false⟩∧own []:=by
 refine Ct.of Hf7 rfl fun h r=>Tr.eq (Hn9 ..) ?_;refine Je ?_
 refine Yn fun b1 h=>?_
 cases ok
 ·refine Yt rfl ?_
  refine Yc (Y1 105) ?_;rintro _ h ⟨rfl,o⟩<;>(refine Jf o ?_;unhygienic intros)
  refine Ys fun o=>?_
  exact ⟨rfl,o.tail⟩
 ·refine Yf rfl ?_
  (refine Ja ?_;unhygienic intros)
  refine Ys fun o=>?_
  exact ⟨rfl,o.tail⟩
theorem Ds0 (p:ProcS) {j:Nat} (h:j<8):(D6 p)[8+j]?=some (int (p.fds.getD j 0)):=by
 have:=Hh4 (l:=p.fds) (i:=j) (by rw [p.len];exact h)
 rw [show 8+j=j+8 by omega]
 exact this
abbrev setFd (p:ProcS) (j:Nat) (f:Int):ProcS:=⟨p.state,p.parent,p.group,p.code,p.pending,p.mask,p.ignored,p.caught,p.fds.set j f,by rw [List.length_set];exact p.len⟩
theorem Dr8 (p:ProcS) {j:Nat} (h:j<8) (f:Int):Da9 (D6 p) (8+j) (int f)=some (D6 (setFd p j f)):=by
 have e:Nat.blt (8+j) (D6 p).length=true:=by rw [Bt6 p];exact Nat.ble_eq_true_of_le (by have:=p.len;omega)
 unfold Da9
 rw [e,show 8+j=j+8 by omega]
 show some ((D6 p).set (j+8) (int f))=_
 simp only [D6,List.set_cons_succ,List.map_set]
def O5 (p:ProcS) (fd:Int):Bool:=decide (0≤fd∧fd<8) && decide (p.fds.getD fd.toNat 0>0)
theorem Gy5 (p:ProcS) (fd:Int):Ct A7 Bm4 [.agg ⟨D6 p⟩,int fd] [] fun v own=>v=.bool (O5 p fd)∧own []:=by
 refine Ct.of G92 rfl fun h r=>Tr.eq (Hb5 ..) ?_;refine Je ?_
 refine Yn fun b1 h=>?_
 by_cases h0:0≤fd
 case neg =>
  refine Yb (Yf (by simpa using h0) ?_)
  refine Ys fun o=>(?_:Tr _ _ _ _) o;refine Je ?_
  refine Yb (Yf rfl ?_)
  refine Ys fun o=>(?_:Tr _ _ _ _) o;refine Je ?_
  refine Ys fun o=>?_
  refine ⟨?_,o.tail⟩
  rw [show O5 p fd=false by simp [O5];omega]
 refine Yb (Yt (by simpa using h0) ?_)
 refine Ys fun o=>(?_:Tr _ _ _ _) o;refine Je ?_
 by_cases h1:fd<8
 case neg =>
  refine Yb (Yf (by simpa using h1) ?_)
  refine Ys fun o=>(?_:Tr _ _ _ _) o;refine Je ?_
  refine Ys fun o=>?_
  refine ⟨?_,o.tail⟩
  rw [show O5 p fd=false by simp [O5];omega]
 have hg:=Ds0 p (j:=fd.toNat) (by omega)
 refine Yb (Yt (by simpa using h1) ?_)
 (refine Ja ?_;unhygienic intros)
 refine Ys fun o=>(?_:Tr _ _ _ _) o;refine Je ?_
 refine Ys fun o=>?_
 refine ⟨?_,o.tail⟩
 rw [show O5 p fd=decide (p.fds.getD fd.toNat 0>0) by simp [O5,h0,h1]]
theorem He2 (b k:Nat) (F:Fr) (X:CX) (ok:FrOk F) {nc:Nat} (c:Clean nc X) (f:Int) (hf:0≤f∧f<12) (x:FileS) (hx:okF x=true) (h64:x.refs<64) :
  Ct A7 Bv9 [P0 b,int f,.agg ⟨Bc3 x⟩] [cmC b k F X] fun v own=>v=.bool true∧own [cmC b k F (Ak1 X f (Bg4 x 1))]:=by
 have hr:=Ba5 hx
 have e1:IntKind.wrap .i64 (x.refs+1)=x.refs+1:=by rw [A6];omega
 obtain ⟨w1,_⟩:=W0 c hf (A48 hx (n:=1) (by omega))
 refine Ct.of Hi3 rfl fun h r=>Tr.eq (Hn2 ..) ?_;refine Je ?_
 (refine Ja ?_;unhygienic intros)
 rw [e1]
 (refine Ja ?_;unhygienic intros)
 simp only [List.set_cons_succ,List.set_cons_zero,List.drop_zero,List.take]
 refine Yc (B62 b k F X ok f (Bg4 x 1)) ?_;rintro _ h ⟨rfl,o⟩<;>refine Jh o ?_
 rw [w1]
 dsimp only
 (refine Ja ?_;unhygienic intros)
 refine Ys fun o=>?_
 exact ⟨rfl,o.sub⟩
theorem Dj4 {p:ProcS} (h:okS p=true) (h1:p.state=1) (j:Nat) {f:Int} (hf:0≤f∧f≤12):okS (setFd p j f)=true:=by
 have hd:=Hc6 h
 have hd2:H33 (setFd p j f).fds:=fun x hx=>by
  rcases List.mem_or_eq_of_mem_set hx with h2|rfl
  ·exact hd x h2
  ·exact hf
 unfold okS at h ⊢
 rw [if_neg (by rw [h1];decide)] at h
 rw [if_neg (show ¬ (setFd p j f).state=2 by show ¬ p.state=2;rw [h1];decide)]
 simp only [Bool.and_eq_true] at h ⊢
 refine ⟨h.1,h.2.1,?_,h.2.2.2⟩
 rw [Bool.not_eq_true',List.any_eq_false]
 intro x hx
 have:=hd2 x hx
 simp;omega
def B69 (X:CX) (i fd f:Int):List Value × CX :=
 if (O3 X i).2≠0 then (E7 0 (O3 X i).2 false,X) else (E7 fd 0 false,Ay4 X i (setFd (vS X i).1 fd.toNat (f+1)))
theorem Gu7 (b k:Nat) (F:Fr) (X:CX) (ok:FrOk F) {nc:Nat} (c:Clean nc X) (i fd f:Int) (hi:0≤i∧i<8) (hd:0≤fd∧fd<8) (hf:0≤f∧f<12) :
  Ct A7 Bx2 [P0 b,int i,int fd,int f] [cmC b k F X] fun v own=>v=.agg ⟨(B69 X i fd f).1⟩∧own [cmC b k F (B69 X i fd f).2]:=by
 have e1:IntKind.wrap .i64 (f+1)=f+1:=by rw [A6];omega
 unfold B69
 refine Ct.of Hk9 rfl fun h r=>Tr.eq (Hi1 ..) ?_;refine Je ?_
 refine Yn fun b0 h=>?_
 refine Yc (D22 b k F X ok c i hi) ?_;rintro _ h ⟨rfl,o⟩<;>refine Jh o ?_
 (refine Jc ?_;unhygienic intros)
 refine Yn fun b1 h=>?_
 (refine Jb ?_;unhygienic intros)
 by_cases h1:(O3 X i).2=0
 case neg =>
  rw [if_pos h1]
  refine Yt (by simpa using h1) ?_
  refine Yc (Y1 (O3 X i).2) ?_;rintro _ h ⟨rfl,o⟩<;>(refine Jf o ?_;unhygienic intros)
  refine Ys fun o=>?_
  exact ⟨rfl,o.sub⟩
 rw [if_neg (by simpa using h1)]
 refine Yf (by simpa using h1) ?_
 obtain ⟨s1,s2,s3,s4⟩:=A63 c hi h1
 rw [s1,e1]
 generalize hp:(vS X i).1=p at s2 s3
 have hin:=Ep7 (rd X ⟨1,i⟩)
 rw [show (Y2 (rd X ⟨1,i⟩)).1=p from hp] at hin
 have hs:=Dr8 p (j:=fd.toNat) (by omega) (f+1)
 obtain ⟨w1,_⟩:=Bj0 c hi (Dj4 s3 s2 fd.toNat (f:=f+1) (by omega)) ⟨hin.a,hin.b,hin.c,hin.d⟩
 generalize setFd p fd.toNat (f+1)=q at hs w1
 dsimp only
 (refine Ja ?_;unhygienic intros)
 refine Yc (Dw5 b k F X ok i q) ?_;rintro _ h ⟨rfl,o⟩<;>refine Jh o ?_
 rw [w1]
 dsimp only
 (refine Ja ?_;unhygienic intros)
 refine Yc (Gt2 true fd) ?_;rintro _ h ⟨rfl,o⟩<;>refine Jh o ?_
 rw [if_pos trivial]
 (refine Ja ?_;unhygienic intros)
 refine Ys fun o=>?_
 exact ⟨rfl,o.sub⟩
def L1 (q:Int→Bool):Nat→Int→Nat→List Int
 | 0,_,_=>[]
 | _+1,_,0=>[]
 | m+1,i,w+1=>if q i=true then i::L1 q m (i+1) w else L1 q m (i+1) (w+1)
theorem Bt9 (q:Int→Bool):∀ (m:Nat) (i:Int) (w:Nat),(L1 q m i w).length≤w
 | 0,_,_=>by simp [L1]
 | _+1,_,0=>by simp [L1]
 | m+1,i,w+1=>by
  have h1:=Bt9 q m (i+1) w
  have h2:=Bt9 q m (i+1) (w+1)
  unfold L1;split<;>simp<;>omega
theorem Ap1 (q:Int→Bool):∀ (m:Nat) (i:Int) (w:Nat),∀ x ∈ L1 q m i w,i≤x∧x<i+m∧q x=true
 | 0,_,_,x,hx=>by simp [L1] at hx
 | _+1,_,0,x,hx=>by simp [L1] at hx
 | m+1,i,w+1,x,hx=>by
  unfold L1 at hx
  split at hx
  ·rename_i hq
   rcases List.mem_cons.1 hx with rfl|h
   ·exact ⟨by omega,by omega,hq⟩
   ·have:=Ap1 q m (i+1) w x h
    exact ⟨by omega,by omega,this.2.2⟩
  ·have:=Ap1 q m (i+1) (w+1) x hx
   exact ⟨by omega,by omega,this.2.2⟩
theorem Dw4 (pr:HP) (g:FuncId) (cp:List Value) (n:Int) (hn:n≤100) (q:Int→Bool) (hq:∀ j:Int,0≤j∧j<n→Ct A7 g (int j::cp) [pr] fun v own=>v=.bool (q j)∧own [pr]):∀ (m:Nat) (i:Int) (acc:List Int) (w:Nat) (a:Option Addr) (ac:Nat),0≤i→i+m=n→acc.length≤i →
  CtJ G2 V9 A76 [(0,int n),(1,int ((acc.length+w:Nat):Int)),(2,.func (.func g) ⟨[]⟩ ⟨cp⟩),(7,.slice a acc.length ac),(8,int i)] [slC false B2 1 a acc.length ac (acc.map int),pr] fun v own =>
   ∃ a' c',v=.slice a' (acc++L1 q m i w).length c'∧own [slC false B2 1 a' (acc++L1 q m i w).length c' ((acc++L1 q m i w).map int),pr]
 | 0,i,acc,w,a,ac,h0,hi,ha=>by
  refine CtJ.of Df4 fun h r=>Tr.eq (Dc0 ..) ?_;refine Je ?_
  refine Yb (Yf (by simp;omega) ?_)
  refine Ys fun o=>(?_:Tr _ _ _ _) o;refine Je ?_
  refine Yf rfl ?_
  refine Ys fun o=>?_
  rw [show L1 q 0 i w=[] by unfold L1;rfl,List.append_nil]
  exact ⟨a,ac,rfl,o.sub⟩
 | m+1,i,acc,0,a,ac,h0,hi,ha=>by
  refine CtJ.of Df4 fun h r=>Tr.eq (Dc0 ..) ?_;refine Je ?_
  refine Yb (Yt (by simp;omega) ?_)
  refine Ys fun o=>(?_:Tr _ _ _ _) o;refine Je ?_
  refine Yf (by simp) ?_
  refine Ys fun o=>?_
  rw [show L1 q (m+1) i 0=[] by unfold L1;rfl,List.append_nil]
  exact ⟨a,ac,rfl,o.sub⟩
 | m+1,i,acc,w+1,a,ac,h0,hi,ha=>by
  have e1:IntKind.wrap .i64 (i+1)=i+1:=by rw [A6];omega
  rw [show L1 q (m+1) i (w+1)=if q i=true then i::L1 q m (i+1) w else L1 q m (i+1) (w+1) by rw [L1]]
  refine CtJ.of Df4 fun h r=>Tr.eq (Dc0 ..) ?_;refine Je ?_
  refine Yb (Yt (by simp;omega) ?_)
  refine Ys fun o=>(?_:Tr _ _ _ _) o;refine Je ?_
  refine Yt (by simp;omega) ?_
  rw [e1]
  refine Ab5 0 rfl fun hl hc _=>?_
  (refine Ja ?_;unhygienic intros)
  simp only [List.nil_append,List.singleton_append]
  refine Yc (hq i (by omega)) ?_;rintro _ h ⟨rfl,o⟩<;>refine Jh o ?_
  (refine Ja ?_;unhygienic intros)
  by_cases h2:q i=true
  ·rw [if_pos h2]
   refine Yt h2 ?_
   (refine Ja ?_;unhygienic intros)
   refine Tr.xApd (new:=[int i]) ⟨rfl,rfl,by simp only [A8];omega⟩ fun a' c' h=>?_
   have H:=Dw4 pr g cp n hn q hq m (i+1) (acc++[i]) w a' c' (by omega) (by omega) (by simp;omega)
   rw [show acc++i::L1 q m (i+1) w=acc++[i]++L1 q m (i+1) w by simp,show acc.length+(w+1)=(acc++[i]).length+w by simp;omega]
   refine (?_:Tr (_::pr::slC false B2 1 a' (acc.length+1) c' (acc.map int++[int i])::_) _ _ _)
   rw [show acc.map int++[int i]=(acc++[i]).map int by simp,show acc.length+1=(acc++[i]).length by simp]
   refine S4 [2,1] 1 rfl rfl ?_
   exact Yr H fun v h q=>q
  ·rw [if_neg h2]
   refine Yf (by simpa using h2) ?_
   refine S4 [1,0] 0 rfl rfl ?_
   exact Yr (Dw4 pr g cp n hn q hq m (i+1) acc (w+1) a ac (by omega) (by omega) (by omega)) fun v h q=>q
theorem Ez3 (pr:HP) (g:FuncId) (cp:List Value) (n:Nat) (hn:n≤100) (w:Nat) (q:Int→Bool) (hq:∀ j:Int,0≤j∧j<n→Ct A7 g (int j::cp) [pr] fun v own=>v=.bool (q j)∧own [pr]) :
  Ct A7 V9 [int n,int w,.func (.func g) ⟨[]⟩ ⟨cp⟩] [pr] fun v own=>∃ a' c',v=.slice a' (L1 q n 0 w).length c'∧own [slC false B2 1 a' (L1 q n 0 w).length c' ((L1 q n 0 w).map int),pr]:=by
 refine Ct.of Df4 rfl fun h r=>Tr.eq (Hl2 ..) ?_;refine Je ?_
 refine G9 false B2 1 (by omega) ?_
 have J:=Dw4 pr g cp n (by omega) q hq n 0 [] w none 0 (by omega) (by omega) (by simp)
 simp only [List.nil_append,List.length_nil,List.map_nil,Nat.zero_add] at J
 exact Yr J fun v h q=>q
theorem Hs4 (b:Nat) (p:ProcS) (j:Int) (hj:0≤j∧j<8):Ct A7 A75 [int j,P0 b] [pt b (.cells B9 false (D6 p))] fun v own=>v=.bool (p.fds.getD j.toNat 0==0)∧own [pt b (.cells B9 false (D6 p))]:=by
 have hg:=Ds0 p (j:=j.toNat) (by omega)
 refine Ct.of Gp0 rfl fun h r=>Tr.eq (Go5 ..) ?_;refine Je ?_
 (refine Ja ?_;unhygienic intros)
 refine Ys fun o=>?_
 exact ⟨rfl,o.sub⟩
abbrev J9 (p:ProcS) (w:Nat):List Int:=L1 (fun j=>p.fds.getD j.toNat 0==0) 8 0 w
theorem Gu9 (p:ProcS) (w:Nat):Ct A7 Bn2 [.agg ⟨D6 p⟩,int w] [] fun v own=>∃ a' c',v=.slice a' (J9 p w).length c'∧own [slC false B2 1 a' (J9 p w).length c' ((J9 p w).map int)]:=by
 refine Ct.of G75 rfl fun h r=>Tr.eq (Hb6 ..) ?_;refine Je ?_
 refine Yn fun b1 h=>?_
 refine Yc (Ez3 _ A75 [P0 b1] 8 (by omega) w _ fun j hj=>Hs4 b1 p j (by omega)) ?_
 rintro _ h ⟨a',c',rfl,o⟩
 refine Jh o ?_
 (refine Ja ?_;unhygienic intros)
 refine Ys fun o=>?_
 exact ⟨a',c',rfl,o.sub⟩
def hcC (bh b k:Nat) (F:Fr) (X:CX):HP:=hex fun _:Unit=>sl [pt bh (.cells Ba9 false [P0 b]),cmC b k F X]
instance {bh b k:Nat} {F:Fr} {X:CX}:Chk (hcC bh b k F X) (fun _:Unit=>[pt bh (.cells Ba9 false [P0 b]),cmC b k F X]):=⟨rfl⟩
theorem H36 (bh b k:Nat) (F:Fr) (X:CX) (ok:FrOk F) {nc:Nat} (c:Clean nc X) (j:Int) (hj:0≤j∧j<12):Ct A7 A16 [int j,P0 bh] [hcC bh b k F X] fun v own=>v=.bool ((vF X j).2==0)∧own [hcC bh b k F X]:=by
 refine Ct.of G42 rfl fun h r=>Tr.eq (G06 ..) ?_;refine Je ?_
 refine B3 (hcC bh b k F X) fun u=>?_;refine Je ?_
 (refine Ja ?_;unhygienic intros)
 refine Yc (Dj7 b k F X ok j) ?_;rintro _ h ⟨rfl,o⟩<;>refine Jh o ?_
 rw [Bm2 c hj]
 dsimp only
 (refine Jc ?_;unhygienic intros)
 refine Yn fun b1 h=>?_
 (refine Ja ?_;unhygienic intros)
 refine B1 (hcC bh b k F X) () ?_;refine Je ?_
 refine Ys fun o=>?_
 exact ⟨rfl,o.sub⟩
theorem H31 (bh b k:Nat) (F:Fr) (X:CX) (ok:FrOk F) {nc:Nat} (c:Clean nc X) (j:Int) (hj:0≤j∧j<3+nc):Ct A7 A31 [int j,P0 bh] [hcC bh b k F X] fun v own=>v=.bool ((vP X j).2==0)∧own [hcC bh b k F X]:=by
 refine Ct.of Gu6 rfl fun h r=>Tr.eq (Gs6 ..) ?_;refine Je ?_
 refine B3 (hcC bh b k F X) fun u=>?_;refine Je ?_
 (refine Ja ?_;unhygienic intros)
 refine Yc (D72 b k F X ok j) ?_;rintro _ h ⟨rfl,o⟩<;>refine Jh o ?_
 rw [B60 c hj]
 dsimp only
 (refine Jc ?_;unhygienic intros)
 refine Yn fun b1 h=>?_
 (refine Ja ?_;unhygienic intros)
 refine B1 (hcC bh b k F X) () ?_;refine Je ?_
 refine Ys fun o=>?_
 exact ⟨rfl,o.sub⟩
def ofV (X:CX) (i fd:Int):(Int × FileS) × Int :=
 if (O3 X i).2≠0 then ((0,.zero),(O3 X i).2)
 else if O5 (vS X i).1 fd=false then ((0,.zero),109)
 else if (vF X ((vS X i).1.fds.getD fd.toNat 0-1)).2≠1 then ((0,.zero),105)
 else (((vS X i).1.fds.getD fd.toNat 0-1,(vF X ((vS X i).1.fds.getD fd.toNat 0-1)).1),0)
theorem D18 {nc:Nat} {X:CX} (c:Clean nc X) {i:Int} (hi:0≤i∧i<8) (h:(O3 X i).2=0) (j:Nat):0≤(vS X i).1.fds.getD j 0∧(vS X i).1.fds.getD j 0≤12:=by
 obtain ⟨s1,s2,s3,s4⟩:=A63 c hi h
 by_cases hj:j<(vS X i).1.fds.length
 ·rw [List.getD_eq_getElem?_getD,List.getElem?_eq_getElem hj];exact Hc6 s3 _ (List.getElem_mem _)
 ·rw [List.getD_eq_getElem?_getD,List.getElem?_eq_none (by omega)];simp
theorem Hj3 (b k:Nat) (F:Fr) (X:CX) (ok:FrOk F) {nc:Nat} (c:Clean nc X) (i fd:Int) (hi:0≤i∧i<8) :
  Ct A7 B41 [P0 b,int i,int fd] [cmC b k F X] fun v own=>v=.tuple ⟨[int (ofV X i fd).1.1,.agg ⟨Bc3 (ofV X i fd).1.2⟩,int (ofV X i fd).2]⟩∧own [cmC b k F X]:=by
 unfold ofV
 refine Ct.of H17 rfl fun h r=>Tr.eq (H10 ..) ?_;refine Je ?_
 refine Yn fun b0 h=>?_
 refine Yc (D22 b k F X ok c i hi) ?_;rintro _ h ⟨rfl,o⟩<;>refine Jh o ?_
 (refine Jc ?_;unhygienic intros)
 refine Yn fun b1 h=>?_
 (refine Jb ?_;unhygienic intros)
 by_cases h1:(O3 X i).2=0
 case neg =>
  rw [if_pos h1]
  refine Yt (by simpa using h1) ?_
  (refine Ja ?_;unhygienic intros)
  refine Ys fun o=>?_
  exact ⟨rfl,o.sub⟩
 rw [if_neg (by simpa using h1)]
 refine Yf (by simpa using h1) ?_
 obtain ⟨s1,s2,s3,s4⟩:=A63 c hi h1
 have hr:=fun j=>D18 c hi h1 j
 rw [s1]
 generalize hp:(vS X i).1=p at s2 s3 hr
 (refine Ja ?_;unhygienic intros)
 refine Yc (Gy5 p fd) ?_;rintro _ h ⟨rfl,o⟩<;>(refine Jf o ?_;unhygienic intros)
 by_cases h2:O5 p fd=true
 case neg =>
  rw [if_pos (by simpa using h2)]
  refine Yt (by simpa using h2) ?_
  (refine Ja ?_;unhygienic intros)
  refine Ys fun o=>?_
  exact ⟨rfl,o.sub⟩
 rw [if_neg (by simpa using h2)]
 refine Yf (by simpa using h2) ?_
 simp only [O5,Bool.and_eq_true,decide_eq_true_eq] at h2
 have hg:=Ds0 p (j:=fd.toNat) (by omega)
 have hf:=hr fd.toNat
 generalize p.fds.getD fd.toNat 0=f at hg hf h2
 have e1:IntKind.wrap .i64 (f-1)=f-1:=by rw [A6];omega
 (refine Ja ?_;unhygienic intros)
 rw [e1]
 refine Yc (Dj7 b k F X ok (f-1)) ?_;rintro _ h ⟨rfl,o⟩<;>refine Jh o ?_
 rw [Bm2 c (by omega)]
 dsimp only
 (refine Ja ?_;unhygienic intros)
 by_cases h3:(vF X (f-1)).2=1
 case neg =>
  rw [if_pos h3]
  refine Yt (by simpa using h3) ?_
  (refine Ja ?_;unhygienic intros)
  refine Ys fun o=>?_
  exact ⟨rfl,o.sub⟩
 rw [if_neg (by simpa using h3)]
 refine Yf (by simpa using h3) ?_
 (refine Ja ?_;unhygienic intros)
 rw [e1]
 refine Ys fun o=>?_
 exact ⟨rfl,o.sub⟩
def Ae2 (nc:Nat) (X:CX) (i fd:Int):List Value × CX :=
 if (O3 X i).2≠0 then (E7 0 (O3 X i).2 false,X)
 else if O5 (vS X i).1 fd=false then (E7 0 109 false,X)
 else (E7 0 (Bg6 nc (Ay4 X i (setFd (vS X i).1 fd.toNat 0)) ((vS X i).1.fds.getD fd.toNat 0-1)).1 false,(Bg6 nc (Ay4 X i (setFd (vS X i).1 fd.toNat 0)) ((vS X i).1.fds.getD fd.toNat 0-1)).2)
theorem Bg9 {p:ProcS} {fd:Int} (h:O5 p fd=true):(0≤fd∧fd<8)∧p.fds.getD fd.toNat 0>0:=by
 simp only [O5,Bool.and_eq_true,decide_eq_true_eq] at h;exact h
theorem Ev7 {nc:Nat} {X:CX} (c:Clean nc X) {i:Int} (hi:0≤i∧i<8) (h:(O3 X i).2=0) (j:Nat) {f:Int} (hf:0≤f∧f≤12) :
  Bf1 X i (setFd (vS X i).1 j f)=(true,Ay4 X i (setFd (vS X i).1 j f))∧Clean nc (Ay4 X i (setFd (vS X i).1 j f))∧(∀ n:Int,0≤n∧n<8→vS (Ay4 X i (setFd (vS X i).1 j f)) n=if n=i then (setFd (vS X i).1 j f,1) else vS X n)∧(∀ n:Int,0≤n∧n<12→vF (Ay4 X i (setFd (vS X i).1 j f)) n=vF X n)∧(∀ n:Int,0≤n∧n<3+nc→vP (Ay4 X i (setFd (vS X i).1 j f)) n=vP X n):=by
 obtain ⟨s1,s2,s3,s4⟩:=A63 c hi h
 have hin:=Ep7 (rd X ⟨1,i⟩)
 exact Bj0 c hi (Dj4 s3 s2 j hf) ⟨hin.a,hin.b,hin.c,hin.d⟩
theorem Gc8 {nc:Nat} {X:CX} (c:Clean nc X) {i:Int} (hi:0≤i∧i<8) (fd:Int):Clean nc (Ae2 nc X i fd).2:=by
 unfold Ae2
 split
 ·exact c
 ·rename_i h1
  split
  ·exact c
  ·rename_i h2
   have hn:=Bg9 (show O5 (vS X i).1 fd=true by simpa using h2)
   have hr:=D18 c hi (by simpa using h1) fd.toNat
   exact Gv2 (Ev7 c hi (by simpa using h1) fd.toNat (by omega)).2.1 (by omega)
theorem Ej7 (b k:Nat) (F:Fr) (X:CX) (ok:FrOk F) {nc:Nat} (c:Clean nc X) (i fd:Int) (hi:0≤i∧i<8) :
  Ct A7 Ba4 [P0 b,int i,int fd] [cmC b k F X] fun v own=>v=.agg ⟨(Ae2 nc X i fd).1⟩∧own [cmC b k F (Ae2 nc X i fd).2]:=by
 unfold Ae2
 refine Ct.of G94 rfl fun h r=>Tr.eq (G72 ..) ?_;refine Je ?_
 refine Yn fun b0 h=>?_
 refine Yc (D22 b k F X ok c i hi) ?_;rintro _ h ⟨rfl,o⟩<;>refine Jh o ?_
 (refine Jc ?_;unhygienic intros)
 refine Yn fun b1 h=>?_
 (refine Jb ?_;unhygienic intros)
 by_cases h1:(O3 X i).2=0
 case neg =>
  rw [if_pos h1]
  refine Yt (by simpa using h1) ?_
  refine Yc (Y1 (O3 X i).2) ?_;rintro _ h ⟨rfl,o⟩<;>(refine Jf o ?_;unhygienic intros)
  refine Ys fun o=>?_
  exact ⟨rfl,o.sub⟩
 rw [if_neg (by simpa using h1)]
 refine Yf (by simpa using h1) ?_
 obtain ⟨s1,s2,s3,s4⟩:=A63 c hi h1
 have hr:=D18 c hi h1 fd.toNat
 have hW:=fun hf=>Ev7 c hi h1 fd.toNat (f:=0) hf
 rw [s1]
 generalize (vS X i).1=p at s2 s3 hr hW
 (refine Ja ?_;unhygienic intros)
 refine Yc (Gy5 p fd) ?_;rintro _ h ⟨rfl,o⟩<;>(refine Jf o ?_;unhygienic intros)
 by_cases h2:O5 p fd=true
 case neg =>
  rw [if_pos (by simpa using h2)]
  refine Yt (by simpa using h2) ?_
  refine Yc (Y1 109) ?_;rintro _ h ⟨rfl,o⟩<;>(refine Jf o ?_;unhygienic intros)
  refine Ys fun o=>?_
  exact ⟨rfl,o.sub⟩
 rw [if_neg (by simpa using h2)]
 refine Yf (by simpa using h2) ?_
 have hn:=Bg9 h2
 have hg:=Ds0 p (j:=fd.toNat) (by omega)
 have hs:=Dr8 p (j:=fd.toNat) (by omega) 0
 obtain ⟨w1,w2,_⟩:=hW (by omega)
 generalize p.fds.getD fd.toNat 0=f at hg hr hn
 have e1:IntKind.wrap .i64 (f-1)=f-1:=by rw [A6];omega
 generalize setFd p fd.toNat 0=q at hs w1 w2
 (refine Ja ?_;unhygienic intros)
 refine Yc (Dw5 b k F X ok i q) ?_;rintro _ h ⟨rfl,o⟩<;>refine Jh o ?_
 rw [w1]
 (refine Ja ?_;unhygienic intros)
 rw [e1]
 refine Yc (Gs7 b k F _ ok w2 (f-1) (by omega)) ?_;rintro _ h ⟨rfl,o⟩<;>(refine Jf o ?_;unhygienic intros)
 refine Yc (Y1 (Bg6 nc (Ay4 X i q) (f-1)).1) ?_;rintro _ h ⟨rfl,o⟩<;>(refine Jf o ?_;unhygienic intros)
 refine Ys fun o=>?_
 exact ⟨rfl,o.sub⟩
def D27 (X:CX) (i fd:Int):List Value × CX :=
 if (ofV X i fd).2≠0 then (E7 0 (ofV X i fd).2 false,X)
 else if (J9 (vS X i).1 1).length=0 then (E7 0 124 false,X)
 else if (ofV X i fd).1.2.refs≥64 then (E7 0 123 false,X)
 else B69 (Ak1 X (ofV X i fd).1.1 (Bg4 (ofV X i fd).1.2 1)) i ((J9 (vS X i).1 1).getD 0 0) (ofV X i fd).1.1
theorem E51 {nc:Nat} {X:CX} (c:Clean nc X) {i fd:Int} (hi:0≤i∧i<8) (h:(ofV X i fd).2=0) :
  (O3 X i).2=0∧O5 (vS X i).1 fd=true∧(ofV X i fd).1.1=(vS X i).1.fds.getD fd.toNat 0-1∧(0≤(ofV X i fd).1.1∧(ofV X i fd).1.1<12)∧vF X (ofV X i fd).1.1=((ofV X i fd).1.2,1)∧okF (ofV X i fd).1.2=true:=by
 unfold ofV at h ⊢
 by_cases h1:(O3 X i).2=0
 case neg=>rw [if_pos h1] at h;exact absurd h h1
 rw [if_neg (by simpa using h1)] at h ⊢
 by_cases h2:O5 (vS X i).1 fd=true
 case neg=>rw [if_pos (by simpa using h2)] at h;cases h
 rw [if_neg (by simpa using h2)] at h ⊢
 have hn:=Bg9 h2
 have hr:=D18 c hi h1 fd.toNat
 by_cases h3:(vF X ((vS X i).1.fds.getD fd.toNat 0-1)).2=1
 case neg=>rw [if_pos h3] at h;cases h
 rw [if_neg (by simpa using h3)]
 have hk:okF (vF X ((vS X i).1.fds.getD fd.toNat 0-1)).1=true:=by
  rcases Ep3 c (i:=(vS X i).1.fds.getD fd.toNat 0-1) (by omega) with ⟨h4,_⟩|⟨_,h4⟩
  ·rw [h3] at h4;cases h4
  ·exact h4
 exact ⟨h1,h2,rfl,by simp only;omega,Prod.ext rfl h3,hk⟩
theorem Ih5 {l:List Int} (h:l.length≠0):(l.map int)[0]?=some (int (l.getD 0 0)):=Hh4 (by omega)
theorem Ds5 (X:CX) (i d f:Int):∃ n e:Int,(B69 X i d f).1=E7 n e false:=by
 unfold B69;split
 ·exact ⟨_,_,rfl⟩
 ·exact ⟨_,_,rfl⟩
theorem H93 (b k:Nat) (F:Fr) (X:CX) (ok:FrOk F) {nc:Nat} (c:Clean nc X) (i fd:Int) (hi:0≤i∧i<8) :
  Ct A7 Dt0 [P0 b,int i,int fd] [cmC b k F X] fun v own=>v=.agg ⟨(D27 X i fd).1⟩∧own [cmC b k F (D27 X i fd).2]:=by
 unfold D27
 refine Ct.of Hv5 rfl fun h r=>Tr.eq (Hp1 ..) ?_;refine Je ?_
 refine Yn fun b0 h=>?_
 refine Yc (Hj3 b k F X ok c i fd hi) ?_;rintro _ h ⟨rfl,o⟩<;>refine Jh o ?_
 (refine Jc ?_;unhygienic intros)
 refine Yn fun b1 h=>?_
 (refine Jb ?_;unhygienic intros)
 by_cases h1:(ofV X i fd).2=0
 case neg =>
  rw [if_pos h1]
  refine Yt (by simpa using h1) ?_
  refine Yc (Y1 (ofV X i fd).2) ?_;rintro _ h ⟨rfl,o⟩<;>(refine Jf o ?_;unhygienic intros)
  refine Ys fun o=>?_
  exact ⟨rfl,o.sub⟩
 rw [if_neg (by simpa using h1)]
 refine Yf (by simpa using h1) ?_
 obtain ⟨o1,o2,o3,o4,o5,o6⟩:=E51 c hi h1
 obtain ⟨s1,s2,s3,s4⟩:=A63 c hi o1
 generalize (ofV X i fd).1.1=f at o3 o4 o5
 generalize (ofV X i fd).1.2=x at o5 o6
 refine Yc (D22 b k F X ok c i hi) ?_;rintro _ h ⟨rfl,o⟩<;>refine Jh o ?_
 rw [s1]
 (refine Jc ?_;unhygienic intros)
 refine Yn fun b2 h=>?_
 generalize hp:(vS X i).1=p
 (refine Ja ?_;unhygienic intros)
 refine Yc (Gu9 p 1) ?_
 rintro _ h ⟨a,ac,rfl,o⟩
 refine Jh o ?_
 have hm:=Ap1 (fun j=>p.fds.getD j.toNat 0==0) 8 0 1
 have hl:=Bt9 (fun j=>p.fds.getD j.toNat 0==0) 8 0 1
 show Tr (slC false B2 1 a (J9 p 1).length ac ((J9 p 1).map int)::_) _ _ _
 generalize hL:J9 p 1=L
 replace hm:∀ y ∈ L,0≤y∧y<8:=by rw [← hL];exact fun y hy=>⟨(hm y hy).1,(hm y hy).2.1⟩
 by_cases h2:L.length=0
 ·rw [if_pos h2]
  (refine Ja ?_;unhygienic intros)
  refine Yt (by simpa using h2) ?_
  refine Yc (Y1 124) ?_;rintro _ h ⟨rfl,o⟩<;>(refine Jf o ?_;unhygienic intros)
  refine Ys fun o=>?_
  exact ⟨rfl,o.sub⟩
 rw [if_neg h2]
 (refine Ja ?_;unhygienic intros)
 refine Yf (by simpa using h2) ?_
 (refine Ja ?_;unhygienic intros)
 have hr:=Ba5 o6
 by_cases h3:x.refs≥64
 ·rw [if_pos h3]
  refine Yt (by simpa using h3) ?_
  refine Yc (Y1 123) ?_;rintro _ h ⟨rfl,o⟩<;>(refine Jf o ?_;unhygienic intros)
  refine Ys fun o=>?_
  exact ⟨rfl,o.sub⟩
 rw [if_neg h3]
 refine Yf (by simpa using h3) ?_
 (refine Ja ?_;unhygienic intros)
 refine Yc (He2 b k F X ok c f o4 x o6 (by omega)) ?_;rintro _ h ⟨rfl,o⟩<;>refine Jh o ?_
 have hd:=Ih5 h2
 have hd8:0≤L.getD 0 0∧L.getD 0 0<8:=hm _ (by
  rw [List.getD_eq_getElem?_getD,List.getElem?_eq_getElem (by omega)];exact List.getElem_mem _)
 generalize L.getD 0 0=d at hd hd8
 have c2:=(W0 c o4 (A48 o6 (n:=1) (by omega))).2.1
 (refine Ja ?_;unhygienic intros;repeat(refine Gw ?_;rintro px rfl;refine Ja ?_;unhygienic intros))
 refine Yc (Gu7 b k F _ ok c2 i d f hi hd8 o4) ?_;rintro _ h ⟨rfl,o⟩<;>refine Jh o ?_
 obtain ⟨y,z,he⟩:=Ds5 (Ak1 X f (Bg4 x 1)) i d f
 rw [he]
 (refine Ja ?_;unhygienic intros)
 refine Ys fun o=>?_
 exact ⟨rfl,o.sub⟩
def B59 (nc:Nat) (X:CX) (i fd to:Int):List Value × CX :=
 if (ofV X i fd).2≠0 then (E7 0 (ofV X i fd).2 false,X)
 else if to<0∨to≥8 then (E7 0 109 false,X)
 else if to=fd then (E7 to 0 false,X)
 else if (ofV X i fd).1.2.refs≥64 then (E7 0 123 false,X)
 else B69 (Ae2 nc (Ak1 X (ofV X i fd).1.1 (Bg4 (ofV X i fd).1.2 1)) i to).2 i to (ofV X i fd).1.1
theorem Gs8 (b k:Nat) (F:Fr) (X:CX) (ok:FrOk F) {nc:Nat} (c:Clean nc X) (i fd to:Int) (hi:0≤i∧i<8) :
  Ct A7 Bj1 [P0 b,int i,int fd,int to] [cmC b k F X] fun v own=>v=.agg ⟨(B59 nc X i fd to).1⟩∧own [cmC b k F (B59 nc X i fd to).2]:=by
 unfold B59
 refine Ct.of Hm9 rfl fun h r=>Tr.eq (Hg9 ..) ?_;refine Je ?_
 refine Yn fun b0 h=>?_
 refine Yc (Hj3 b k F X ok c i fd hi) ?_;rintro _ h ⟨rfl,o⟩<;>refine Jh o ?_
 (refine Jc ?_;unhygienic intros)
 refine Yn fun b1 h=>?_
 (refine Jb ?_;unhygienic intros)
 by_cases h1:(ofV X i fd).2=0
 case neg =>
  rw [if_pos h1]
  refine Yt (by simpa using h1) ?_
  refine Yc (Y1 (ofV X i fd).2) ?_;rintro _ h ⟨rfl,o⟩<;>(refine Jf o ?_;unhygienic intros)
  refine Ys fun o=>?_
  exact ⟨rfl,o.sub⟩
 rw [if_neg (by simpa using h1)]
 refine Yf (by simpa using h1) ?_
 obtain ⟨o1,o2,o3,o4,o5,o6⟩:=E51 c hi h1
 generalize (ofV X i fd).1.1=f at o3 o4 o5
 generalize (ofV X i fd).1.2=x at o5 o6
 by_cases h0:to<0∨to≥8
 ·rw [if_pos h0]
  by_cases h00:to<0
  ·refine Yb (Yt (by simpa using h00) ?_)
   refine Ys fun o=>(?_:Tr _ _ _ _) o;refine Je ?_
   refine Yt rfl ?_
   refine Yc (Y1 109) ?_;rintro _ h ⟨rfl,o⟩<;>(refine Jf o ?_;unhygienic intros)
   refine Ys fun o=>?_
   exact ⟨rfl,o.sub⟩
  ·refine Yb (Yf (by simpa using h00) ?_)
   refine Ys fun o=>(?_:Tr _ _ _ _) o;refine Je ?_
   refine Yt (by simp;omega) ?_
   refine Yc (Y1 109) ?_;rintro _ h ⟨rfl,o⟩<;>(refine Jf o ?_;unhygienic intros)
   refine Ys fun o=>?_
   exact ⟨rfl,o.sub⟩
 rw [if_neg h0]
 refine Yb (Yf (by simp;omega) ?_)
 refine Ys fun o=>(?_:Tr _ _ _ _) o;refine Je ?_
 refine Yf (by simp;omega) ?_
 by_cases hfd:to=fd
 ·rw [if_pos hfd]
  refine Yt (by simpa using hfd) ?_
  (refine Ja ?_;unhygienic intros)
  refine Ys fun o=>?_
  exact ⟨rfl,o.sub⟩
 rw [if_neg hfd]
 refine Yf (by simpa using hfd) ?_
 (refine Ja ?_;unhygienic intros)
 have hr:=Ba5 o6
 by_cases h3:x.refs≥64
 ·rw [if_pos h3]
  refine Yt (by simpa using h3) ?_
  refine Yc (Y1 123) ?_;rintro _ h ⟨rfl,o⟩<;>(refine Jf o ?_;unhygienic intros)
  refine Ys fun o=>?_
  exact ⟨rfl,o.sub⟩
 rw [if_neg h3]
 refine Yf (by simpa using h3) ?_
 have c2:=(W0 c o4 (A48 o6 (n:=1) (by omega))).2.1
 (refine Ja ?_;unhygienic intros)
 refine Yc (He2 b k F X ok c f o4 x o6 (by omega)) ?_;rintro _ h ⟨rfl,o⟩<;>(refine Jf o ?_;unhygienic intros)
 refine Yc (Ej7 b k F _ ok c2 i to hi) ?_;rintro _ h ⟨rfl,o⟩<;>(refine Jf o ?_;unhygienic intros)
 refine Yc (Gu7 b k F _ ok (Gc8 c2 hi to) i to f hi (by omega) o4) ?_;rintro _ h ⟨rfl,o⟩<;>refine Jh o ?_
 obtain ⟨y,z,he⟩:=Ds5 (Ae2 nc (Ak1 X f (Bg4 x 1)) i to).2 i to f
 rw [he]
 (refine Ja ?_;unhygienic intros)
 refine Ys fun o=>?_
 exact ⟨rfl,o.sub⟩
def Bq2:PipeS:=⟨0,0,1,1,[0,0,0,0,0,0,0,0,0,0,0,0,0,0,0,0,0,0,0,0,0,0,0,0,0,0,0,0,0,0,0,0],rfl⟩
abbrev A99 (X:CX):List Int:=L1 (fun j=>(vF X j).2==0) 12 0 2
abbrev Bj4 (X:CX):List Int:=L1 (fun j=>(vP X j).2==0) 4 0 1
def Bm3 (X:CX) (i d0 d1 f0 f1 r0:Int):CX :=
 Ay4 (Ak1 (Ak1 (Bh1 X r0 Bq2) f0 ⟨1,r0,1,0⟩) f1 ⟨2,r0,1,0⟩) i (setFd (setFd (vS X i).1 d0.toNat (f0+1)) d1.toNat (f1+1))
def A27 (X:CX) (i:Int):List Value × CX :=
 if (O3 X i).2≠0 then (E7 0 (O3 X i).2 false,X)
 else if (J9 (vS X i).1 2).length<2 then (E7 0 124 false,X)
 else if (A99 X).length<2∨(Bj4 X).length=0 then (E7 0 123 false,X)
 else (E7 ((J9 (vS X i).1 2).getD 0 0+16*(J9 (vS X i).1 2).getD 1 0) 0 false,Bm3 X i ((J9 (vS X i).1 2).getD 0 0) ((J9 (vS X i).1 2).getD 1 0) ((A99 X).getD 0 0) ((A99 X).getD 1 0) ((Bj4 X).getD 0 0))
theorem Hr1 {l:List Int} (h:l.length≤2) (h2:¬ l.length<2):∃ a b,l=[a,b]:=by
 match l,h,h2 with
 | [a,b],_,_=>exact ⟨a,b,rfl⟩
 | [],_,h2=>simp at h2
 | [_],_,h2=>simp at h2
 | _::_::_::_,h,_=>simp at h
theorem Gl7 {nc:Nat} {X:CX} (c:Clean nc X) {i:Int} (hi:0≤i∧i<8) (hs:(O3 X i).2=0) {d0 d1 f0 f1 r0:Int} (hd0:0≤d0∧d0<8) (hd1:0≤d1∧d1<8) (hf0:0≤f0∧f0<12) (hf1:0≤f1∧f1<12) (hr:0≤r0∧r0<4) (hn:r0<3+(nc:Int)) :
  Bs3 X r0 Bq2=(true,Bh1 X r0 Bq2)∧Bf2 (Bh1 X r0 Bq2) f0 ⟨1,r0,1,0⟩=(true,Ak1 (Bh1 X r0 Bq2) f0 ⟨1,r0,1,0⟩) ∧
  Bf2 (Ak1 (Bh1 X r0 Bq2) f0 ⟨1,r0,1,0⟩) f1 ⟨2,r0,1,0⟩=(true,Ak1 (Ak1 (Bh1 X r0 Bq2) f0 ⟨1,r0,1,0⟩) f1 ⟨2,r0,1,0⟩) ∧
  Bf1 (Ak1 (Ak1 (Bh1 X r0 Bq2) f0 ⟨1,r0,1,0⟩) f1 ⟨2,r0,1,0⟩) i (setFd (setFd (vS X i).1 d0.toNat (f0+1)) d1.toNat (f1+1))=(true,Bm3 X i d0 d1 f0 f1 r0) ∧
  Clean nc (Bm3 X i d0 d1 f0 f1 r0)∧(∀ j:Int,0≤j∧j<8→vS (Bm3 X i d0 d1 f0 f1 r0) j=if j=i then (setFd (setFd (vS X i).1 d0.toNat (f0+1)) d1.toNat (f1+1),1) else vS X j) ∧
  (∀ j:Int,0≤j∧j<12→vF (Bm3 X i d0 d1 f0 f1 r0) j=if j=f1 then (⟨2,r0,1,0⟩,1) else if j=f0 then (⟨1,r0,1,0⟩,1) else vF X j) ∧
  (∀ j:Int,0≤j∧j<3+nc→vP (Bm3 X i d0 d1 f0 f1 r0) j=if j=r0 then (Bq2,1) else vP X j):=by
 obtain ⟨s1,s2,s3,s4⟩:=A63 c hi hs
 have hin:=Ep7 (rd X ⟨1,i⟩)
 obtain ⟨a1,a2,a3,a4,a5⟩:=Bi0 c (i:=r0) (by omega) (p:=Bq2) rfl
 obtain ⟨b1,b2,b3,b4,b5⟩:=W0 a2 hf0 (f:=⟨1,r0,1,0⟩) (by simp [okF];omega)
 obtain ⟨c1,c2,c3,c4,c5⟩:=W0 b2 hf1 (f:=⟨2,r0,1,0⟩) (by simp [okF];omega)
 have hq:=Dj4 (Dj4 s3 s2 d0.toNat (f:=f0+1) (by omega)) s2 d1.toNat (f:=f1+1) (by omega)
 obtain ⟨e1,e2,e3,e4,e5⟩:=Bj0 c2 hi hq ⟨hin.a,hin.b,hin.c,hin.d⟩
 refine ⟨a1,b1,c1,e1,e2,fun j hj=>?_,fun j hj=>?_,fun j hj=>?_⟩
 ·rw [show Bm3 X i d0 d1 f0 f1 r0=Ay4 _ _ _ from rfl,e3 j hj,c3 j hj,b3 j hj,a3 j hj]
 ·rw [show Bm3 X i d0 d1 f0 f1 r0=Ay4 _ _ _ from rfl,e4 j hj,c4 j hj,b4 j hj,a4 j hj]
 ·rw [show Bm3 X i d0 d1 f0 f1 r0=Ay4 _ _ _ from rfl,e5 j hj,c5 j hj,b5 j hj,a5 j hj]
theorem H25 (bh b k:Nat) (F:Fr) (X:CX) (ok:FrOk F) {nc:Nat} (c:Clean nc X):Ct A7 V9 [int 12,int 2,.func (.func A16) ⟨[]⟩ ⟨[P0 bh]⟩] [hcC bh b k F X] fun v own =>
  ∃ a' c',v=.slice a' (A99 X).length c'∧own [slC false B2 1 a' (A99 X).length c' ((A99 X).map int),hcC bh b k F X] :=
 Ez3 _ A16 [P0 bh] 12 (by omega) 2 _ fun j hj=>H36 bh b k F X ok c j (by omega)
theorem H48 (bh b k:Nat) (F:Fr) (X:CX) (ok:FrOk F) {nc:Nat} (c:Clean nc X):Ct A7 V9 [int 4,int 1,.func (.func A31) ⟨[]⟩ ⟨[P0 bh]⟩] [hcC bh b k F X] fun v own =>
  ∃ a' c',v=.slice a' (Bj4 X).length c'∧own [slC false B2 1 a' (Bj4 X).length c' ((Bj4 X).map int),hcC bh b k F X] :=
 Ez3 _ A31 [P0 bh] 4 (by omega) 1 _ fun j hj=>H31 bh b k F X ok c j (by have:=c.pos;omega)
theorem Ic2 {l:List Int} (h:l.length≤1) (h2:¬ l.length=0):∃ a,l=[a]:=by
 match l,h,h2 with
 | [a],_,_=>exact ⟨a,rfl⟩
 | [],_,h2=>simp at h2
 | _::_::_,h,_=>simp at h
theorem Gt4 (b k:Nat) (F:Fr) (X:CX) (ok:FrOk F) {nc:Nat} (c:Clean nc X) (i:Int) (hi:0≤i∧i<8) :
  Ct A7 Bz2 [P0 b,int i] [cmC b k F X] fun v own=>v=.agg ⟨(A27 X i).1⟩∧own [cmC b k F (A27 X i).2]:=by
 unfold A27
 refine Ct.of Hm8 rfl fun h r=>Tr.eq (Hh1 ..) ?_;refine Je ?_
 refine Yn fun bh h=>?_
 refine Yn fun b0 h=>?_
 (refine Ja ?_;unhygienic intros)
 refine Yc (D22 b k F X ok c i hi) ?_;rintro _ h ⟨rfl,o⟩<;>refine Jh o ?_
 (refine Jc ?_;unhygienic intros)
 refine Yn fun b1 h=>?_
 (refine Jb ?_;unhygienic intros)
 by_cases h1:(O3 X i).2=0
 case neg =>
  rw [if_pos h1]
  refine Yt (by simpa using h1) ?_
  refine Yc (Y1 (O3 X i).2) ?_;rintro _ h ⟨rfl,o⟩<;>(refine Jf o ?_;unhygienic intros)
  refine Ys fun o=>?_
  exact ⟨rfl,o.sub⟩
 rw [if_neg (by simpa using h1)]
 refine Yf (by simpa using h1) ?_
 have hM:=fun d0 d1 f0 f1 r0=>Gl7 c hi h1 (d0:=d0) (d1:=d1) (f0:=f0) (f1:=f1) (r0:=r0)
 obtain ⟨s1,s2,s3,s4⟩:=A63 c hi h1
 rw [s1]
 unfold Bm3 at hM ⊢
 generalize (vS X i).1=p at hM
 (refine Ja ?_;unhygienic intros)
 refine Yc (Gu9 p 2) ?_
 rintro _ h ⟨a,ac,rfl,o⟩
 refine Jh o ?_
 have hm:=Ap1 (fun j=>p.fds.getD j.toNat 0==0) 8 0 2
 have hl:=Bt9 (fun j=>p.fds.getD j.toNat 0==0) 8 0 2
 change ∀ x ∈ J9 p 2,_ at hm
 change (J9 p 2).length≤2 at hl
 refine (?_:Tr (slC false B2 1 a (J9 p 2).length ac ((J9 p 2).map int)::_) _ _ _)
 generalize J9 p 2=L at hm hl
 by_cases h2:L.length<2
 ·(refine Ja ?_;unhygienic intros)
  refine Yt (by simp;omega) ?_
  refine Yc (Y1 124) ?_;rintro _ h ⟨rfl,o⟩<;>(refine Jf o ?_;unhygienic intros)
  refine Ys fun o=>?_
  rw [if_pos h2]
  exact ⟨rfl,o.sub⟩
 rw [if_neg h2]
 obtain ⟨d0,d1,rfl⟩:=Hr1 hl h2
 have hd0:=hm d0 (by simp)
 have hd1:=hm d1 (by simp)
 (refine Ja ?_;unhygienic intros)
 refine Yf (by simp) ?_
 refine B1 (hcC bh b k F X) () ?_;refine Je ?_
 refine Yc (H25 bh b k F X ok c) ?_
 rintro _ h ⟨a2,ac2,rfl,o⟩
 refine Jh o ?_
 have hmF:=Ap1 (fun j=>(vF X j).2==0) 12 0 2
 have hlF:=Bt9 (fun j=>(vF X j).2==0) 12 0 2
 change ∀ x ∈ A99 X,_ at hmF
 change (A99 X).length≤2 at hlF
 generalize A99 X=Fl at hmF hlF
 (refine Ja ?_;unhygienic intros)
 refine Yc (H48 bh b k F X ok c) ?_
 rintro _ h ⟨a3,ac3,rfl,o⟩
 refine Jh o ?_
 have hmR:=Ap1 (fun j=>(vP X j).2==0) 4 0 1
 have hlR:=Bt9 (fun j=>(vP X j).2==0) 4 0 1
 change ∀ x ∈ Bj4 X,_ at hmR
 change (Bj4 X).length≤1 at hlR
 generalize Bj4 X=Rl at hmR hlR
 refine B3 (hcC bh b k F X) fun u=>?_;refine Je ?_
 by_cases h3:Fl.length<2
 ·rw [if_pos (.inl h3)]
  (refine Jb ?_;unhygienic intros)
  refine Yb (Yt (by simp;omega) ?_)
  refine Ys fun o=>(?_:Tr _ _ _ _) o;refine Je ?_
  refine Yt rfl ?_
  refine Yc (Y1 123) ?_;rintro _ h ⟨rfl,o⟩<;>(refine Jf o ?_;unhygienic intros)
  refine Ys fun o=>?_
  exact ⟨rfl,o.sub⟩
 obtain ⟨f0,f1,rfl⟩:=Hr1 hlF h3
 by_cases h4:Rl.length=0
 ·rw [if_pos (.inr h4)]
  (refine Jb ?_;unhygienic intros)
  refine Yb (Yf rfl ?_)
  refine Ys fun o=>(?_:Tr _ _ _ _) o;refine Je ?_
  refine Yt (by simpa using h4) ?_
  refine Yc (Y1 123) ?_;rintro _ h ⟨rfl,o⟩<;>(refine Jf o ?_;unhygienic intros)
  refine Ys fun o=>?_
  exact ⟨rfl,o.sub⟩
 rw [if_neg (fun h=>h.elim h3 h4)]
 obtain ⟨r0,rfl⟩:=Ic2 hlR h4
 have hf0:=hmF f0 (by simp)
 have hf1:=hmF f1 (by simp)
 have hr0:=hmR r0 (by simp)
 obtain ⟨w1,w2,w3,w4,_⟩:=hM d0 d1 f0 f1 r0 (by omega) (by omega) (by omega) (by omega) (by omega) (by have:=c.pos;omega)
 (refine Jb ?_;unhygienic intros)
 refine Yb (Yf rfl ?_)
 refine Ys fun o=>(?_:Tr _ _ _ _) o;refine Je ?_
 refine Yf rfl ?_
 (refine Ja ?_;unhygienic intros;repeat(refine Gw ?_;rintro px rfl;refine Ja ?_;unhygienic intros))
 refine Yc (Ew8 b k F X ok r0 Bq2) ?_;rintro _ h ⟨rfl,o⟩<;>refine Jh o ?_
 rw [w1]
 dsimp only
 (refine Jb ?_;unhygienic intros)
 refine Yb (Yt rfl ?_)
 (refine Jb ?_;unhygienic intros;repeat(refine Gw ?_;rintro px rfl;refine Jb ?_;unhygienic intros))
 refine Yc (B62 b k F (Bh1 X r0 Bq2) ok f0 ⟨1,r0,1,0⟩) ?_;rintro _ h ⟨rfl,o⟩<;>refine Jh o ?_
 rw [w2]
 dsimp only
 (refine Jb ?_;unhygienic intros)
 refine Ys fun o=>(?_:Tr _ _ _ _) o;refine Je ?_
 refine Yb (Yt rfl ?_)
 (refine Jb ?_;unhygienic intros;repeat(refine Gw ?_;rintro px rfl;refine Jb ?_;unhygienic intros))
 refine Yc (B62 b k F (Ak1 (Bh1 X r0 Bq2) f0 ⟨1,r0,1,0⟩) ok f1 ⟨2,r0,1,0⟩) ?_;rintro _ h ⟨rfl,o⟩<;>refine Jh o ?_
 rw [w3]
 dsimp only
 (refine Jb ?_;unhygienic intros)
 refine Ys fun o=>(?_:Tr _ _ _ _) o;refine Je ?_
 have hs:Da9 (D6 p) (8+d0.toNat) (int (IntKind.wrap .i64 (f0+1)))=some (D6 (setFd p d0.toNat (f0+1))):=by
  rw [show IntKind.wrap .i64 (f0+1)=f0+1 by rw [A6];omega];exact Dr8 p (by omega) _
 have hs2:Da9 (D6 (setFd p d0.toNat (f0+1))) (8+d1.toNat) (int (IntKind.wrap .i64 (f1+1)))=some (D6 (setFd (setFd p d0.toNat (f0+1)) d1.toNat (f1+1))):=by
  rw [show IntKind.wrap .i64 (f1+1)=f1+1 by rw [A6];omega];exact Dr8 _ (by omega) _
 have hx:IntKind.wrap .i64 (d0+IntKind.wrap .i64 (16*d1))=d0+16*d1:=by simp only [A6];omega
 simp only [List.getD_cons_zero,List.getD_cons_succ]
 generalize setFd (setFd p d0.toNat (f0+1)) d1.toNat (f1+1)=q at hs2 w4
 (refine Jb ?_;unhygienic intros;repeat(refine Gw ?_;rintro px rfl;refine Jb ?_;unhygienic intros))
 rw [hx]
 refine Yb (Yt rfl ?_)
 (refine Jb ?_;unhygienic intros)
 refine Yc (Dw5 b k F (Ak1 (Ak1 (Bh1 X r0 Bq2) f0 ⟨1,r0,1,0⟩) f1 ⟨2,r0,1,0⟩) ok i q) ?_;rintro _ h ⟨rfl,o⟩<;>refine Jh o ?_
 rw [w4]
 dsimp only
 (refine Jb ?_;unhygienic intros)
 refine Ys fun o=>(?_:Tr _ _ _ _) o;refine Je ?_
 refine Yc (Gt2 true (d0+16*d1)) ?_;rintro _ h ⟨rfl,o⟩<;>refine Jh o ?_
 rw [if_pos trivial]
 (refine Ja ?_;unhygienic intros)
 refine Ys fun o=>?_
 exact ⟨rfl,o.sub⟩
structure VW where
 S:Int→ProcS × Int
 F:Int→FileS × Int
 P:Int→PipeS × Int
structure See (X:CX) (V:VW):Prop where
 c:Clean 3 X
 s:∀ j:Int,0≤j∧j<8→vS X j=V.S j
 f:∀ j:Int,0≤j∧j<12→vF X j=V.F j
 p:∀ j:Int,0≤j∧j<6→vP X j=V.P j
theorem See.to {X:CX} {V V':VW} (A:See X V) (hs:∀ j:Int,0≤j∧j<8→V.S j=V'.S j) (hf:∀ j:Int,0≤j∧j<12→V.F j=V'.F j) (hp:∀ j:Int,0≤j∧j<6→V.P j=V'.P j):See X V' :=
 ⟨A.c,fun j h=>(A.s j h).trans (hs j h),fun j h=>(A.f j h).trans (hf j h),fun j h=>(A.p j h).trans (hp j h)⟩
def wS (V:VW) (i:Int) (p:ProcS):VW:=⟨fun j=>if j=i then (p,1) else V.S j,V.F,V.P⟩
def wF (V:VW) (i:Int) (x:FileS):VW:=⟨V.S,fun j=>if j=i then (x,1) else V.F j,V.P⟩
def wP (V:VW) (i:Int) (x:PipeS):VW:=⟨V.S,V.F,fun j=>if j=i then (x,1) else V.P j⟩
def oF (V:VW) (i:Int):VW:=⟨V.S,fun j=>if j=i then (.zero,0) else V.F j,V.P⟩
def oP (V:VW) (i:Int):VW:=⟨V.S,V.F,fun j=>if j=i then (.zero,0) else V.P j⟩
section
variable {X:CX} {V:VW} (A:See X V)
include A
theorem See.ws {i:Int} (hi:0≤i∧i<8) {p:ProcS} (ok:okS p=true) (r:InS p):See (Ay4 X i p) (wS V i p):=by
 obtain ⟨_,w2,w3,w4,w5⟩:=Bj0 A.c hi ok r
 exact ⟨w2,fun j h=>by rw [w3 j h,A.s j h];rfl,fun j h=>by rw [w4 j h];exact A.f j h,fun j h=>by rw [w5 j (by omega)];exact A.p j h⟩
theorem See.wf {i:Int} (hi:0≤i∧i<12) {x:FileS} (ok:okF x=true):See (Ak1 X i x) (wF V i x):=by
 obtain ⟨_,w2,w3,w4,w5⟩:=W0 A.c hi ok
 exact ⟨w2,fun j h=>by rw [w3 j h];exact A.s j h,fun j h=>by rw [w4 j h,A.f j h];rfl,fun j h=>by rw [w5 j (by omega)];exact A.p j h⟩
theorem See.wp {i:Int} (hi:0≤i∧i<6) {x:PipeS} (ok:okP x=true):See (Bh1 X i x) (wP V i x):=by
 obtain ⟨_,w2,w3,w4,w5⟩:=Bi0 A.c (i:=i) (by omega) ok
 exact ⟨w2,fun j h=>by rw [w3 j h];exact A.s j h,fun j h=>by rw [w4 j h];exact A.f j h,fun j h=>by rw [w5 j (by omega),A.p j h];rfl⟩
theorem See.of {i:Int} (hi:0≤i∧i<12):See (Du8 X i) (oF V i):=by
 obtain ⟨_,w2,w3,w4,w5⟩:=B42 A.c hi
 exact ⟨w2,fun j h=>by rw [w3 j h];exact A.s j h,fun j h=>by rw [w4 j h,A.f j h];rfl,fun j h=>by rw [w5 j (by omega)];exact A.p j h⟩
theorem See.op {i:Int} (hi:0≤i∧i<6):See (Ey0 X i) (oP V i):=by
 obtain ⟨_,w2,w3,w4,w5⟩:=B29 A.c (i:=i) (by omega)
 exact ⟨w2,fun j h=>by rw [w3 j h];exact A.s j h,fun j h=>by rw [w4 j h];exact A.f j h,fun j h=>by rw [w5 j (by omega),A.p j h];rfl⟩
end
def Aj5 (V:VW) (i:Int):ProcS × Int:=if (V.S i).2=1∧(V.S i).1.state=1 then ((V.S i).1,0) else (.zero,105)
theorem See.self {X:CX} {V:VW} (A:See X V) {i:Int} (hi:0≤i∧i<8):O3 X i=Aj5 V i:=by unfold O3 Aj5;rw [A.s i hi]
def clP (V:VW) (i:Int) (q:PipeS):VW:=if q.readers+q.writers=0∧i<4 then oP V i else wP V i q
def Bg7 (V:VW) (f:Int):Int × VW :=
 if (V.F f).2≠1 then (105,V)
 else if (V.F f).1.refs-1>0 then (0,wF V f (Bg4 (V.F f).1 (-1)))
 else if (V.F f).1.kind=3 then (0,oF V f)
 else if ¬ ((V.F f).1.pipe<6∧(V.P (V.F f).1.pipe).2=1) then (105,oF V f)
 else (0,clP (oF V f) (V.F f).1.pipe (Db2 (V.F f).1.kind (V.P (V.F f).1.pipe).1))
theorem See.close {X:CX} {V:VW} (A:See X V) {f:Int} (hf:0≤f∧f<12):(Bg6 3 X f).1=(Bg7 V f).1∧See (Bg6 3 X f).2 (Bg7 V f).2:=by
 have e:=A.f f hf
 have hk:(V.F f).2=1→okF (V.F f).1=true:=fun h=>by
  rcases Ep3 A.c hf with ⟨h2,_⟩|⟨_,h2⟩
  ·rw [e,h] at h2;cases h2
  ·rw [e] at h2;exact h2
 unfold Bg6 Bg7
 rw [e]
 by_cases h1:(V.F f).2=1
 case neg=>rw [if_pos h1,if_pos h1];exact ⟨rfl,A⟩
 have n1:¬ (V.F f).2≠1:=by simpa using h1
 rw [if_neg n1,if_neg n1]
 replace hk:=hk h1
 have hr:=Ba5 hk
 have hp:=E25 hk
 by_cases h2:(V.F f).1.refs-1>0
 ·rw [if_pos h2,if_pos h2]
  exact ⟨rfl,A.wf hf (A48 hk (n:=-1) (by omega))⟩
 rw [if_neg h2,if_neg h2]
 by_cases h3:(V.F f).1.kind=3
 ·rw [if_pos h3,if_pos h3];exact ⟨rfl,A.of hf⟩
 rw [if_neg h3,if_neg h3]
 by_cases h4:(V.F f).1.pipe<6
 case neg =>
  have n4:¬ ((V.F f).1.pipe<3+((3:Nat):Int)∧(vP X (V.F f).1.pipe).2=1):=fun h=>h4 (by have:=h.1;omega)
  have n5:¬ ((V.F f).1.pipe<6∧(V.P (V.F f).1.pipe).2=1):=fun h=>h4 h.1
  rw [if_pos n4,if_pos n5];exact ⟨rfl,A.of hf⟩
 have ep:=A.p (V.F f).1.pipe ⟨hp,h4⟩
 rw [ep]
 by_cases h5:(V.P (V.F f).1.pipe).2=1
 case neg =>
  have n4:¬ ((V.F f).1.pipe<3+((3:Nat):Int)∧(V.P (V.F f).1.pipe).2=1):=fun h=>h5 h.2
  have n5:¬ ((V.F f).1.pipe<6∧(V.P (V.F f).1.pipe).2=1):=fun h=>h5 h.2
  rw [if_pos n4,if_pos n5];exact ⟨rfl,A.of hf⟩
 have n4:¬ ¬ ((V.F f).1.pipe<3+((3:Nat):Int)∧(V.P (V.F f).1.pipe).2=1):=fun h=>h ⟨by omega,h5⟩
 have n5:¬ ¬ ((V.F f).1.pipe<6∧(V.P (V.F f).1.pipe).2=1):=fun h=>h ⟨h4,h5⟩
 rw [if_neg n4,if_neg n5]
 have hq:okP (V.P (V.F f).1.pipe).1=true:=by
  rcases Hh9 A.c (i:=(V.F f).1.pipe) (by omega) with ⟨h6,_⟩|⟨_,h6⟩
  ·rw [ep,h5] at h6;cases h6
  ·rw [ep] at h6;exact h6
 refine ⟨rfl,?_⟩
 unfold D08 clP
 split
 ·exact (A.of hf).op ⟨hp,h4⟩
 ·exact (A.of hf).wp ⟨hp,h4⟩ (Gf9 hq _)
def ofW (V:VW) (i fd:Int):(Int × FileS) × Int :=
 if (Aj5 V i).2≠0 then ((0,.zero),(Aj5 V i).2)
 else if O5 (V.S i).1 fd=false then ((0,.zero),109)
 else if (V.F ((V.S i).1.fds.getD fd.toNat 0-1)).2≠1 then ((0,.zero),105)
 else (((V.S i).1.fds.getD fd.toNat 0-1,(V.F ((V.S i).1.fds.getD fd.toNat 0-1)).1),0)
theorem See.ofv {X:CX} {V:VW} (A:See X V) {i:Int} (hi:0≤i∧i<8) (fd:Int):ofV X i fd=ofW V i fd:=by
 have es:=A.self hi
 have hr:=fun h=>D18 A.c (i:=i) hi h fd.toNat
 unfold ofV ofW
 rw [es] at hr ⊢
 rw [A.s i hi] at hr ⊢
 by_cases h1:(Aj5 V i).2≠0
 ·rw [if_pos h1,if_pos h1]
 rw [if_neg h1,if_neg h1]
 by_cases h2:O5 (V.S i).1 fd=false
 ·rw [if_pos h2,if_pos h2]
 have hn:=Bg9 (show O5 (V.S i).1 fd=true by simpa using h2)
 have hr:=hr (by simpa using h1)
 rw [if_neg h2,if_neg h2,A.f _ (by omega)]
def B58 (V:VW) (i fd f:Int):List Value × VW :=
 if (Aj5 V i).2≠0 then (E7 0 (Aj5 V i).2 false,V) else (E7 fd 0 false,wS V i (setFd (V.S i).1 fd.toNat (f+1)))
theorem See.setFd {X:CX} {V:VW} (A:See X V) {i:Int} (hi:0≤i∧i<8) (h:(Aj5 V i).2=0) (j:Nat) {f:Int} (hf:0≤f∧f≤12):See (Ay4 X i (EQ.setFd (vS X i).1 j f)) (wS V i (EQ.setFd (V.S i).1 j f)):=by
 have es:=A.self hi
 obtain ⟨s1,s2,s3,s4⟩:=A63 A.c hi (by rw [es];exact h)
 have hin:=Ep7 (rd X ⟨1,i⟩)
 have:=A.ws hi (Dj4 s3 s2 j hf) ⟨hin.a,hin.b,hin.c,hin.d⟩
 have e:EQ.setFd (V.S i).1 j f=EQ.setFd (vS X i).1 j f:=by rw [A.s i hi]
 rw [e];exact this
theorem See.name {X:CX} {V:VW} (A:See X V) {i:Int} (hi:0≤i∧i<8) (fd:Int) {f:Int} (hf:0≤f∧f<12):(B69 X i fd f).1=(B58 V i fd f).1∧See (B69 X i fd f).2 (B58 V i fd f).2:=by
 have es:=A.self hi
 unfold B69 B58
 rw [es]
 by_cases h1:(Aj5 V i).2=0
 case neg=>rw [if_pos h1,if_pos h1];exact ⟨rfl,A⟩
 have n1:¬ (Aj5 V i).2≠0:=by simpa using h1
 rw [if_neg n1,if_neg n1]
 exact ⟨rfl,A.setFd hi h1 fd.toNat (by omega)⟩
def Aq6 (V:VW) (i fd:Int):List Value × VW :=
 if (Aj5 V i).2≠0 then (E7 0 (Aj5 V i).2 false,V)
 else if O5 (V.S i).1 fd=false then (E7 0 109 false,V)
 else (E7 0 (Bg7 (wS V i (setFd (V.S i).1 fd.toNat 0)) ((V.S i).1.fds.getD fd.toNat 0-1)).1 false,(Bg7 (wS V i (setFd (V.S i).1 fd.toNat 0)) ((V.S i).1.fds.getD fd.toNat 0-1)).2)
theorem See.closeFd {X:CX} {V:VW} (A:See X V) {i:Int} (hi:0≤i∧i<8) (fd:Int):(Ae2 3 X i fd).1=(Aq6 V i fd).1∧See (Ae2 3 X i fd).2 (Aq6 V i fd).2:=by
 have es:=A.self hi
 unfold Ae2 Aq6
 have hr0:=fun h=>D18 A.c (i:=i) hi h fd.toNat
 rw [es] at hr0 ⊢
 by_cases h1:(Aj5 V i).2=0
 case neg=>rw [if_pos h1,if_pos h1];exact ⟨rfl,A⟩
 have n1:¬ (Aj5 V i).2≠0:=by simpa using h1
 have hr:=hr0 h1
 have B:=A.setFd hi h1 fd.toNat (f:=0) (by omega)
 rw [if_neg n1,if_neg n1]
 rw [A.s i hi] at hr B ⊢
 by_cases h2:O5 (V.S i).1 fd=false
 ·rw [if_pos h2,if_pos h2];exact ⟨rfl,A⟩
 have hn:=Bg9 (show O5 (V.S i).1 fd=true by simpa using h2)
 rw [if_neg h2,if_neg h2]
 have C:=B.close (f:=(V.S i).1.fds.getD fd.toNat 0-1) (by omega)
 exact ⟨by rw [C.1],C.2⟩
def B02 (V:VW) (i fd:Int):List Value × VW :=
 if (ofW V i fd).2≠0 then (E7 0 (ofW V i fd).2 false,V)
 else if (J9 (V.S i).1 1).length=0 then (E7 0 124 false,V)
 else if (ofW V i fd).1.2.refs≥64 then (E7 0 123 false,V)
 else B58 (wF V (ofW V i fd).1.1 (Bg4 (ofW V i fd).1.2 1)) i ((J9 (V.S i).1 1).getD 0 0) (ofW V i fd).1.1
theorem See.dup {X:CX} {V:VW} (A:See X V) {i:Int} (hi:0≤i∧i<8) (fd:Int):(D27 X i fd).1=(B02 V i fd).1∧See (D27 X i fd).2 (B02 V i fd).2:=by
 have eo:=A.ofv hi fd
 unfold D27 B02
 have ho:=E51 A.c (fd:=fd) hi
 rw [eo] at ho ⊢
 by_cases h1:(ofW V i fd).2=0
 case neg=>rw [if_pos h1,if_pos h1];exact ⟨rfl,A⟩
 obtain ⟨o1,o2,o3,o4,o5,o6⟩:=ho h1
 have n1:¬ (ofW V i fd).2≠0:=by simpa using h1
 rw [if_neg n1,if_neg n1,A.s i hi]
 by_cases h2:(J9 (V.S i).1 1).length=0
 ·rw [if_pos h2,if_pos h2];exact ⟨rfl,A⟩
 rw [if_neg h2,if_neg h2]
 have hr:=Ba5 o6
 by_cases h3:(ofW V i fd).1.2.refs≥64
 ·rw [if_pos h3,if_pos h3];exact ⟨rfl,A⟩
 rw [if_neg h3,if_neg h3]
 exact (A.wf o4 (A48 o6 (n:=1) (by omega))).name hi _ o4
def Bx7 (V:VW) (i fd to:Int):List Value × VW :=
 if (ofW V i fd).2≠0 then (E7 0 (ofW V i fd).2 false,V)
 else if to<0∨to≥8 then (E7 0 109 false,V)
 else if to=fd then (E7 to 0 false,V)
 else if (ofW V i fd).1.2.refs≥64 then (E7 0 123 false,V)
 else B58 (Aq6 (wF V (ofW V i fd).1.1 (Bg4 (ofW V i fd).1.2 1)) i to).2 i to (ofW V i fd).1.1
theorem See.dup2 {X:CX} {V:VW} (A:See X V) {i:Int} (hi:0≤i∧i<8) (fd to:Int):(B59 3 X i fd to).1=(Bx7 V i fd to).1∧See (B59 3 X i fd to).2 (Bx7 V i fd to).2:=by
 have eo:=A.ofv hi fd
 unfold B59 Bx7
 have ho:=E51 A.c (fd:=fd) hi
 rw [eo] at ho ⊢
 by_cases h1:(ofW V i fd).2=0
 case neg=>rw [if_pos h1,if_pos h1];exact ⟨rfl,A⟩
 obtain ⟨o1,o2,o3,o4,o5,o6⟩:=ho h1
 have n1:¬ (ofW V i fd).2≠0:=by simpa using h1
 rw [if_neg n1,if_neg n1]
 by_cases h2:to<0∨to≥8
 ·rw [if_pos h2,if_pos h2];exact ⟨rfl,A⟩
 rw [if_neg h2,if_neg h2]
 by_cases h4:to=fd
 ·rw [if_pos h4,if_pos h4];exact ⟨rfl,A⟩
 rw [if_neg h4,if_neg h4]
 have hr:=Ba5 o6
 by_cases h3:(ofW V i fd).1.2.refs≥64
 ·rw [if_pos h3,if_pos h3];exact ⟨rfl,A⟩
 rw [if_neg h3,if_neg h3]
 exact ((A.wf o4 (A48 o6 (n:=1) (by omega))).closeFd hi to).2.name hi _ o4
theorem B61 {q q':Int→Bool}:∀ (m:Nat) (i:Int) (w:Nat),(∀ j:Int,i≤j→j<i+m→q j=q' j)→L1 q m i w=L1 q' m i w
 | 0,_,_,_=>rfl
 | _+1,_,0,_=>rfl
 | m+1,i,w+1,h=>by
  rw [L1,L1,h i (by omega) (by omega),B61 m (i+1) w fun j h1 h2=>h j (by omega) (by omega),B61 m (i+1) (w+1) fun j h1 h2=>h j (by omega) (by omega)]
abbrev D52 (V:VW):List Int:=L1 (fun j=>(V.F j).2==0) 12 0 2
abbrev Gf5 (V:VW):List Int:=L1 (fun j=>(V.P j).2==0) 4 0 1
def mkW (V:VW) (i d0 d1 f0 f1 r0:Int):VW:=wS (wF (wF (wP V r0 Bq2) f0 ⟨1,r0,1,0⟩) f1 ⟨2,r0,1,0⟩) i (setFd (setFd (V.S i).1 d0.toNat (f0+1)) d1.toNat (f1+1))
def Gq2 (V:VW) (i:Int):List Value × VW :=
 if (Aj5 V i).2≠0 then (E7 0 (Aj5 V i).2 false,V)
 else if (J9 (V.S i).1 2).length<2 then (E7 0 124 false,V)
 else if (D52 V).length<2∨(Gf5 V).length=0 then (E7 0 123 false,V)
 else (E7 ((J9 (V.S i).1 2).getD 0 0+16*(J9 (V.S i).1 2).getD 1 0) 0 false,mkW V i ((J9 (V.S i).1 2).getD 0 0) ((J9 (V.S i).1 2).getD 1 0) ((D52 V).getD 0 0) ((D52 V).getD 1 0) ((Gf5 V).getD 0 0))
theorem Do6 {l:List Int} {j:Nat} (h:j<l.length):l.getD j 0 ∈ l:=by
 rw [List.getD_eq_getElem?_getD,List.getElem?_eq_getElem h];exact List.getElem_mem _
theorem See.pipe {X:CX} {V:VW} (A:See X V) {i:Int} (hi:0≤i∧i<8):(A27 X i).1=(Gq2 V i).1∧See (A27 X i).2 (Gq2 V i).2:=by
 have es:=A.self hi
 have e1:A99 X=D52 V:=B61 12 0 2 fun j h1 h2=>by rw [A.f j (by omega)]
 have e2:Bj4 X=Gf5 V:=B61 4 0 1 fun j h1 h2=>by rw [A.p j (by omega)]
 unfold A27 Gq2
 rw [e1,e2,es]
 by_cases h1:(Aj5 V i).2=0
 case neg=>rw [if_pos h1,if_pos h1];exact ⟨rfl,A⟩
 have n1:¬ (Aj5 V i).2≠0:=by simpa using h1
 rw [if_neg n1,if_neg n1,A.s i hi]
 by_cases h2:(J9 (V.S i).1 2).length<2
 ·rw [if_pos h2,if_pos h2];exact ⟨rfl,A⟩
 rw [if_neg h2,if_neg h2]
 by_cases h3:(D52 V).length<2∨(Gf5 V).length=0
 ·rw [if_pos h3,if_pos h3];exact ⟨rfl,A⟩
 rw [if_neg h3,if_neg h3]
 have hm:=Ap1 (fun j=>(V.S i).1.fds.getD j.toNat 0==0) 8 0 2
 have hd0:=hm _ (Do6 (l:=J9 (V.S i).1 2) (j:=0) (by omega))
 have hd1:=hm _ (Do6 (l:=J9 (V.S i).1 2) (j:=1) (by omega))
 have hf0:=Ap1 (fun j=>(V.F j).2==0) 12 0 2 _ (Do6 (l:=D52 V) (j:=0) (by omega))
 have hf1:=Ap1 (fun j=>(V.F j).2==0) 12 0 2 _ (Do6 (l:=D52 V) (j:=1) (by omega))
 have hr:=Ap1 (fun j=>(V.P j).2==0) 4 0 1 _ (Do6 (l:=Gf5 V) (j:=0) (by omega))
 generalize (J9 (V.S i).1 2).getD 0 0=d0 at hd0 ⊢
 generalize (J9 (V.S i).1 2).getD 1 0=d1 at hd1 ⊢
 generalize (D52 V).getD 0 0=f0 at hf0 ⊢
 generalize (D52 V).getD 1 0=f1 at hf1 ⊢
 generalize (Gf5 V).getD 0 0=r0 at hr ⊢
 obtain ⟨_,_,_,_,m1,m2,m3,m4⟩:=Gl7 A.c hi (by rw [es];exact h1) (d0:=d0) (d1:=d1) (f0:=f0) (f1:=f1) (r0:=r0) (by omega) (by omega) (by omega) (by omega) (by omega) (by omega)
 refine ⟨rfl,m1,fun j hj=>?_,fun j hj=>?_,fun j hj=>?_⟩
 ·rw [m2 j hj,A.s i hi,A.s j hj];rfl
 ·rw [m3 j hj,A.f j hj];rfl
 ·rw [m4 j (by omega),A.p j hj];rfl
def E69 (V:VW) (more:List Int):List Int→Int
 | []=>0
 | f::l=>if f=0 then E69 V more l else if (V.F (f-1)).2≠1 then 105 else if (V.F (f-1)).1.refs+more.getD (f-1).toNat 0>64 then 123 else E69 V more l
theorem See.share {X:CX} {V:VW} (A:See X V) (more:List Int):∀ l:List Int,H33 l→D21 X more l=E69 V more l
 | [],_=>rfl
 | f::l,h=>by
  have hf:=h f (by simp)
  rw [D21,E69,A.share more l fun x hx=>h x (by simp [hx])]
  by_cases h0:f=0
  ·rw [if_pos h0,if_pos h0]
  ·rw [if_neg h0,if_neg h0,A.f (f-1) (by omega)]
def V1:VW:=⟨fun j=>if j=0 then (p0,1) else (.zero,0),fun j=>if j=0 then (f0,1) else (.zero,0),fun j=>if j<4 then (.zero,0) else vP X1 j⟩
theorem Id2:See X1 V1:=by
 refine ⟨E08,fun j hj=>?_,fun j hj=>?_,fun j hj=>?_⟩
 ·have:j=0∨j=1∨j=2∨j=3∨j=4∨j=5∨j=6∨j=7:=by omega
  rcases this with rfl|rfl|rfl|rfl|rfl|rfl|rfl|rfl<;>(clear hj;show (_:ProcS × Int)=_;kernel_rfl)
 ·have:j=0∨j=1∨j=2∨j=3∨j=4∨j=5∨j=6∨j=7∨j=8∨j=9∨j=10∨j=11:=by omega
  rcases this with rfl|rfl|rfl|rfl|rfl|rfl|rfl|rfl|rfl|rfl|rfl|rfl<;>(clear hj;show (_:FileS × Int)=_;kernel_rfl)
 ·by_cases h4:j<4
  ·have:j=0∨j=1∨j=2∨j=3:=by omega
   rcases this with rfl|rfl|rfl|rfl<;>(clear hj h4;show (_:PipeS × Int)=_;kernel_rfl)
  ·show _=if j<4 then _ else vP X1 j
   rw [if_neg h4]
abbrev As3 (ow:List Int) (h:ow.length=8):ProcS:=⟨1,0,0,0,0,0,0,0,ow,h⟩
def kd (j:Int):Int:=if j=0 then 3 else j
def Du1 (j n:Int):FileS × Int:=if n>0 then (⟨kd j,0,n,0⟩,1) else (.zero,0)
theorem Ez8 {j n:Int} (h:n>0):Du1 j n=(⟨kd j,0,n,0⟩,1):=if_pos h
theorem He5 {j n:Int} (h:¬ n>0):Du1 j n=(.zero,0):=if_neg h
theorem E17 {p:ProcS} {fd:Int} (h:0≤fd∧fd<8) (h2:p.fds.getD fd.toNat 0>0):¬ O5 p fd=false:=by
 unfold O5;rw [decide_eq_true h,decide_eq_true h2];decide
def pO (a b:Int):PipeS:=⟨0,0,min a 1,min b 1,[0,0,0,0,0,0,0,0,0,0,0,0,0,0,0,0,0,0,0,0,0,0,0,0,0,0,0,0,0,0,0,0],rfl⟩
def A25 (a b:Int):PipeS × Int:=if a>0∨b>0 then (pO a b,1) else (.zero,0)
def G5 (ow:List Int) (h:ow.length=8) (r:Int→Int):VW :=
 ⟨fun j=>if j=0 then (As3 ow h,1) else (.zero,0),fun j=>if 0≤j∧j<3 then Du1 j (r (j+1)) else (.zero,0),fun j=>if j=0 then A25 (r 2) (r 3) else if j<4 then (.zero,0) else vP X1 j⟩
abbrev rr (r:Int→Int) (v d:Int):Int→Int:=fun k=>if k=v then r k+d else r k
theorem VW.ext' {V V':VW} (h1:∀ j,V.S j=V'.S j) (h2:∀ j,V.F j=V'.F j) (h3:∀ j,V.P j=V'.P j):V=V':=by
 obtain ⟨a,b,c⟩:=V
 obtain ⟨a',b',c'⟩:=V'
 have e1:a=a':=funext h1
 have e2:b=b':=funext h2
 have e3:c=c':=funext h3
 rw [e1,e2,e3]
section
variable {ow:List Int} {h:ow.length=8} {r:Int→Int}
theorem B70:(G5 ow h r).S 0=(As3 ow h,1):=by
 show (if (0:Int)=0 then (As3 ow h,(1:Int)) else (.zero,0))=_
 exact if_pos rfl
theorem H58 {v:Int} (hv:1≤v∧v≤3) (hr:r v>0):(G5 ow h r).F (v-1)=(⟨kd (v-1),0,r v,0⟩,1):=by
 show (if 0≤v-1∧v-1<3 then Du1 (v-1) (r (v-1+1)) else _)=_
 rw [if_pos (by omega),show v-1+1=v by omega]
 exact Ez8 hr
theorem Bp9:Aj5 (G5 ow h r) 0=(As3 ow h,0):=by unfold Aj5;rw [B70,if_pos ⟨rfl,rfl⟩]
theorem E76 {fd:Int} (hfd:0≤fd∧fd<8) (hv:1≤ow.getD fd.toNat 0∧ow.getD fd.toNat 0≤3) (hr:r (ow.getD fd.toNat 0)>0) :
  ofW (G5 ow h r) 0 fd=((ow.getD fd.toNat 0-1,⟨kd (ow.getD fd.toNat 0-1),0,r (ow.getD fd.toNat 0),0⟩),0):=by
 unfold ofW
 rw [Bp9,B70,if_neg (by simp),if_neg (E17 hfd (show (As3 ow h).fds.getD fd.toNat 0>0 by show ow.getD fd.toNat 0>0;omega))]
 show (if ((G5 ow h r).F (ow.getD fd.toNat 0-1)).2≠1 then _ else ((ow.getD fd.toNat 0-1,((G5 ow h r).F (ow.getD fd.toNat 0-1)).1),0))=_
 rw [H58 hv hr,if_neg (by simp)]
theorem He4 {fd:Int} (hv:¬ (0≤fd∧fd<8∧ow.getD fd.toNat 0>0)):ofW (G5 ow h r) 0 fd=((0,.zero),109):=by
 unfold ofW
 rw [Bp9,B70,if_neg (by simp),if_pos]
 show O5 (As3 ow h) fd=false
 cases e:O5 (As3 ow h) fd
 ·rfl
 ·have:=Bg9 e
  exact absurd ⟨this.1.1,this.1.2,this.2⟩ hv
theorem Gy8 {v d:Int} (hv:1≤v∧v≤3) (hr:r v>0) (hd:r v+d>0):wF (G5 ow h r) (v-1) ⟨kd (v-1),0,r v+d,0⟩=G5 ow h (rr r v d):=by
 refine VW.ext' (fun j=>rfl) (fun j=>?_) fun j=>?_
 ·show (if j=v-1 then _ else if 0≤j∧j<3 then Du1 j (r (j+1)) else _)=if 0≤j∧j<3 then Du1 j (if j+1=v then r (j+1)+d else r (j+1)) else _
  by_cases h1:j=v-1
  ·rw [if_pos h1,if_pos (show 0≤j∧j<3 by omega),if_pos (show j+1=v by omega),show j+1=v by omega,h1]
   exact (Ez8 hd).symm
  ·rw [if_neg h1,if_neg (show ¬ j+1=v by omega)]
 ·show (if j=0 then A25 (r 2) (r 3) else _)=if j=0 then A25 (if 2=v then r 2+d else r 2) (if 3=v then r 3+d else r 3) else _
  by_cases h0:j=0
  ·rw [if_pos h0,if_pos h0]
   have:v=1∨v=2∨v=3:=by omega
   rcases this with rfl|rfl|rfl
   ·rw [if_neg (show ¬ (2:Int)=1 by decide),if_neg (show ¬ (3:Int)=1 by decide)]
   ·rw [if_pos (show (2:Int)=2 from rfl),if_neg (show ¬ (3:Int)=2 by decide)]
    unfold A25
    rw [if_pos (.inl hr),if_pos (.inl hd)]
    unfold pO
    rw [show min (r 2) 1=min (r 2+d) 1 by omega]
   ·rw [if_neg (show ¬ (2:Int)=3 by decide),if_pos (show (3:Int)=3 from rfl)]
    unfold A25
    rw [if_pos (.inr hr),if_pos (.inr hd)]
    unfold pO
    rw [show min (r 3) 1=min (r 3+d) 1 by omega]
  ·rw [if_neg h0,if_neg h0]
theorem E70 (n:Nat) (f:Int):wS (G5 ow h r) 0 (setFd (As3 ow h) n f)=G5 (ow.set n f) (by rw [List.length_set];exact h) r:=by
 refine VW.ext' (fun j=>?_) (fun j=>rfl) fun j=>rfl
 show (if j=0 then _ else if j=0 then _ else _)=if j=0 then _ else _
 by_cases h0:j=0
 ·rw [if_pos h0,if_pos h0]
 ·rw [if_neg h0,if_neg h0,if_neg h0]
theorem Gl8 {v:Int} (hv:1≤v∧v≤3) (hr:r v>0) (h2:0≤r 2) (h3:0≤r 3):Bg7 (G5 ow h r) (v-1)=(0,G5 ow h (rr r v (-1))):=by
 unfold Bg7
 rw [H58 hv hr,if_neg (by simp)]
 by_cases h1:r v-1>0
 ·rw [if_pos h1]
  have:=Gy8 (ow:=ow) (h:=h) (d:=-1) hv hr (by omega)
  rw [← this]
 rw [if_neg h1]
 have e:r v=1:=by omega
 have hF:∀ j:Int,(oF (G5 ow h r) (v-1)).F j=(G5 ow h (rr r v (-1))).F j:=fun j=>by
  show (if j=v-1 then _ else if 0≤j∧j<3 then Du1 j (r (j+1)) else _)=if 0≤j∧j<3 then Du1 j (if j+1=v then r (j+1)+-1 else r (j+1)) else _
  by_cases h4:j=v-1
  ·rw [if_pos h4,if_pos (show 0≤j∧j<3 by omega),if_pos (show j+1=v by omega),show j+1=v by omega,e]
   exact (He5 (by decide)).symm
  ·rw [if_neg h4,if_neg (show ¬ j+1=v by omega)]
 have:v=1∨v=2∨v=3:=by omega
 rcases this with rfl|rfl|rfl
 ·rw [if_pos (show kd ((1:Int)-1)=3 from rfl)]
  refine congrArg (Prod.mk 0) (VW.ext' (fun j=>rfl) hF fun j=>?_)
  show (if j=0 then A25 (r 2) (r 3) else _)=if j=0 then A25 (if (2:Int)=1 then r 2+-1 else r 2) (if (3:Int)=1 then r 3+-1 else r 3) else _
  rw [if_neg (show ¬ (2:Int)=1 by decide),if_neg (show ¬ (3:Int)=1 by decide)]
 ·have hP:(G5 ow h r).P 0=(pO (r 2) (r 3),1):=by
   show (if (0:Int)=0 then A25 (r 2) (r 3) else if (0:Int)<4 then (.zero,0) else vP X1 0)=_
   rw [if_pos rfl];unfold A25;rw [if_pos (.inl hr)]
  rw [if_neg (show ¬ (kd ((2:Int)-1))=3 by decide),if_neg (by rw [hP];exact fun k=>k ⟨show (0:Int)<6 by decide,rfl⟩)]
  refine congrArg (Prod.mk 0) ?_
  rw [hP]
  show clP (oF (G5 ow h r) (2-1)) 0 (Db2 (kd (2-1)) (pO (r 2) (r 3)))=_
  rw [show Db2 (kd (2-1)) (pO (r 2) (r 3))=El2 (pO (r 2) (r 3)) from rfl]
  unfold clP
  have e1:(El2 (pO (r 2) (r 3))).readers=0:=by show max (min (r 2) 1-1) 0=0;omega
  have e2:(El2 (pO (r 2) (r 3))).writers=min (r 3) 1:=rfl
  rw [e1,e2]
  by_cases h5:r 3=0
  ·rw [if_pos (by rw [h5];decide)]
   refine VW.ext' (fun j=>rfl) hF fun j=>?_
   show (if j=0 then _ else if j=0 then _ else _)=if j=0 then A25 (if (2:Int)=2 then r 2+-1 else r 2) (if (3:Int)=2 then r 3+-1 else r 3) else _
   by_cases h0:j=0
   ·rw [if_pos h0,if_pos h0,if_pos (show (2:Int)=2 from rfl),if_neg (show ¬ (3:Int)=2 by decide),e,h5];rfl
   ·rw [if_neg h0,if_neg h0,if_neg h0]
  ·rw [if_neg (by omega)]
   refine VW.ext' (fun j=>rfl) hF fun j=>?_
   show (if j=0 then (El2 (pO (r 2) (r 3)),1) else if j=0 then _ else _)=if j=0 then A25 (if (2:Int)=2 then r 2+-1 else r 2) (if (3:Int)=2 then r 3+-1 else r 3) else _
   by_cases h0:j=0
   ·rw [if_pos h0,if_pos h0,if_pos (show (2:Int)=2 from rfl),if_neg (show ¬ (3:Int)=2 by decide),e]
    unfold A25;rw [if_pos (.inr (by omega))];rfl
   ·rw [if_neg h0,if_neg h0,if_neg h0]
 ·have hP:(G5 ow h r).P 0=(pO (r 2) (r 3),1):=by
   show (if (0:Int)=0 then A25 (r 2) (r 3) else if (0:Int)<4 then (.zero,0) else vP X1 0)=_
   rw [if_pos rfl];unfold A25;rw [if_pos (.inr hr)]
  rw [if_neg (show ¬ (kd ((3:Int)-1))=3 by decide),if_neg (by rw [hP];exact fun k=>k ⟨show (0:Int)<6 by decide,rfl⟩)]
  refine congrArg (Prod.mk 0) ?_
  rw [hP]
  show clP (oF (G5 ow h r) (3-1)) 0 (Db2 (kd (3-1)) (pO (r 2) (r 3)))=_
  rw [show Db2 (kd (3-1)) (pO (r 2) (r 3))=Eh5 (pO (r 2) (r 3)) from rfl]
  unfold clP
  have e1:(Eh5 (pO (r 2) (r 3))).readers=min (r 2) 1:=rfl
  have e2:(Eh5 (pO (r 2) (r 3))).writers=0:=by show max (min (r 3) 1-1) 0=0;omega
  rw [e1,e2]
  by_cases h5:r 2=0
  ·rw [if_pos (by rw [h5];decide)]
   refine VW.ext' (fun j=>rfl) hF fun j=>?_
   show (if j=0 then _ else if j=0 then _ else _)=if j=0 then A25 (if (2:Int)=3 then r 2+-1 else r 2) (if (3:Int)=3 then r 3+-1 else r 3) else _
   by_cases h0:j=0
   ·rw [if_pos h0,if_pos h0,if_neg (show ¬ (2:Int)=3 by decide),if_pos (show (3:Int)=3 from rfl),e,h5];rfl
   ·rw [if_neg h0,if_neg h0,if_neg h0]
  ·rw [if_neg (by omega)]
   refine VW.ext' (fun j=>rfl) hF fun j=>?_
   show (if j=0 then (Eh5 (pO (r 2) (r 3)),1) else if j=0 then _ else _)=if j=0 then A25 (if (2:Int)=3 then r 2+-1 else r 2) (if (3:Int)=3 then r 3+-1 else r 3) else _
   by_cases h0:j=0
   ·rw [if_pos h0,if_pos h0,if_neg (show ¬ (2:Int)=3 by decide),if_pos (show (3:Int)=3 from rfl),e]
    unfold A25;rw [if_pos (.inl (by omega))];rfl
   ·rw [if_neg h0,if_neg h0,if_neg h0]
end
def cnt (v:Int):List Int→Int
 | []=>0
 | x::l=>(if x=v then 1 else 0)+cnt v l
theorem Gc5 (v:Int):∀ l:List Int,0≤cnt v l∧cnt v l≤l.length
 | []=>by simp [cnt]
 | x::l=>by
  have:=Gc5 v l
  unfold cnt;rw [List.length_cons];split<;>omega
theorem Hd2 (v:Int):∀ (l:List Int) (j:Nat),j<l.length→l.getD j 0=v→1≤cnt v l
 | [],j,h,_=>by simp at h
 | x::l,0,_,e=>by
  have:=Gc5 v l
  rw [List.getD_cons_zero] at e
  unfold cnt;rw [if_pos e];omega
 | x::l,j+1,h,e=>by
  rw [List.getD_cons_succ] at e
  have:=Hd2 v l j (by simpa using h) e
  unfold cnt;split<;>omega
theorem Hd5 (v w:Int):∀ (l:List Int) (j:Nat),j<l.length→cnt v (l.set j w)=cnt v l-(if l.getD j 0=v then 1 else 0)+(if w=v then 1 else 0)
 | [],j,h=>by simp at h
 | x::l,0,_=>by
  rw [List.set_cons_zero,List.getD_cons_zero,cnt,cnt];omega
 | x::l,j+1,h=>by
  have:=Hd5 v w l j (by simpa using h)
  rw [List.set_cons_succ,List.getD_cons_succ,cnt,cnt,this];omega
theorem Ee2 (l:List Int) (j n:Nat) (w:Int) (h:j<l.length):(l.set j w).getD n 0=if n=j then w else l.getD n 0:=by
 rw [List.getD_eq_getElem?_getD,List.getD_eq_getElem?_getD,List.getElem?_set]
 by_cases hj:j=n
 ·subst hj;simp [h]
 ·rw [if_neg hj,if_neg (fun e=>hj e.symm)]
structure Own8 (ow:List Int) (r:Int→Int):Prop where
 len:ow.length=8
 rng:∀ j:Nat,0≤ow.getD j 0∧ow.getD j 0≤3
 ct:∀ v:Int,1≤v→v≤3→r v=cnt v ow
theorem Own8.pos {ow:List Int} {r:Int→Int} (I:Own8 ow r) {j:Nat} (hj:j<8) (h:ow.getD j 0>0):1≤r (ow.getD j 0):=by
 rw [I.ct _ (by omega) (I.rng j).2];exact Hd2 _ _ j (by rw [I.len];exact hj) rfl
theorem Own8.nn {ow:List Int} {r:Int→Int} (I:Own8 ow r) {v:Int} (h:1≤v∧v≤3):0≤r v∧r v≤8:=by
 rw [I.ct v h.1 h.2];have:=Gc5 v ow;have:=I.len;omega
theorem Own8.set {ow:List Int} {r:Int→Int} (I:Own8 ow r) {j:Nat} (hj:j<8) {w:Int} (hw:0≤w∧w≤3) {r':Int→Int} (hr:∀ v:Int,1≤v→v≤3→r' v=r v-(if ow.getD j 0=v then 1 else 0)+(if w=v then 1 else 0)):Own8 (ow.set j w) r':=by
 refine ⟨by rw [List.length_set];exact I.len,fun n=>?_,fun v h1 h2=>?_⟩
 ·rw [Ee2 _ _ _ _ (by rw [I.len];exact hj)]
  split
  ·exact hw
  ·exact I.rng n
 ·rw [hr v h1 h2,Hd5 _ _ _ _ (by rw [I.len];exact hj),I.ct v h1 h2]
def lz:List Int→Nat
 | []=>0
 | x::l=>if x=0 then 0 else lz l+1
theorem Hk6:∀ l:List Int,lz l≤l.length
 | []=>by simp [lz]
 | x::l=>by
  have:=Hk6 l
  unfold lz;rw [List.length_cons];split<;>omega
theorem Hu1:∀ l:List Int,lz l<l.length→l.getD (lz l) 0=0
 | [],h=>by simp at h
 | x::l,h=>by
  unfold lz at h ⊢
  split
  ·rename_i h0;rw [List.getD_cons_zero];exact h0
  ·rename_i h0
   rw [if_neg h0,List.length_cons] at h
   rw [List.getD_cons_succ];exact Hu1 l (by omega)
theorem Gk4 (l:List Int) {n:Nat} (h:n<l.length):l.drop n=l.getD n 0::l.drop (n+1):=by
 rw [List.drop_eq_getElem_cons h,List.getD_eq_getElem?_getD,List.getElem?_eq_getElem h];rfl
theorem Gy9 (l:List Int):∀ (m n:Nat),n+m=l.length→L1 (fun j=>l.getD j.toNat 0==0) m n 1=if lz (l.drop n)<m then [((n+lz (l.drop n):Nat):Int)] else []
 | 0,n,h=>by rw [if_neg (by omega)];rfl
 | m+1,n,h=>by
  rw [L1,Gk4 l (by omega),lz,Int.toNat_natCast]
  by_cases h0:l.getD n 0=0
  ·rw [if_pos (by simpa using h0),if_pos h0,if_pos (by omega)]
   have:∀ m':Nat,∀ i:Int,L1 (fun j=>l.getD j.toNat 0==0) m' i 0=[]:=fun m' i=>by cases m'<;>rfl
   rw [this];simp
  ·rw [if_neg (by simpa using h0),if_neg h0]
   have:=Gy9 l m (n+1) (by omega)
   rw [show ((n:Int)+1)=((n+1:Nat):Int) by omega,this]
   by_cases h1:lz (l.drop (n+1))<m
   ·rw [if_pos h1,if_pos (by omega)]
    congr 2;omega
   ·rw [if_neg h1,if_neg (by omega)]
theorem Gm2 (ow:List Int) (h:ow.length=8):J9 (As3 ow h) 1=if lz ow<8 then [(lz ow:Int)] else []:=by
 have:=Gy9 ow 8 0 (by omega)
 rw [List.drop_zero,Nat.zero_add] at this
 exact this
section
variable {ow:List Int} {h:ow.length=8} {r:Int→Int} (I:Own8 ow r)
include I
theorem G97 {fd:Int} (hfd:0≤fd∧fd<8) (hv:ow.getD fd.toNat 0>0):Aq6 (G5 ow h r) 0 fd=(E7 0 0 false,G5 (ow.set fd.toNat 0) (by rw [List.length_set];exact h) (rr r (ow.getD fd.toNat 0) (-1))):=by
 have hp:=I.pos (j:=fd.toNat) (by omega) hv
 unfold Aq6
 rw [Bp9,B70,if_neg (by simp),if_neg (E17 hfd (show (As3 ow h).fds.getD fd.toNat 0>0 from hv))]
 show (E7 0 (Bg7 (wS (G5 ow h r) 0 (setFd (As3 ow h) fd.toNat 0)) (ow.getD fd.toNat 0-1)).1 false,(Bg7 (wS (G5 ow h r) 0 (setFd (As3 ow h) fd.toNat 0)) (ow.getD fd.toNat 0-1)).2)=_
 rw [E70,Gl8 ⟨by omega,(I.rng _).2⟩ (by omega) (I.nn (by omega)).1 (I.nn (by omega)).1]
omit I in
theorem En9 {fd:Int} (hv:¬ (0≤fd∧fd<8∧ow.getD fd.toNat 0>0)):Aq6 (G5 ow h r) 0 fd=(E7 0 109 false,G5 ow h r):=by
 unfold Aq6
 rw [Bp9,B70,if_neg (by simp),if_pos]
 cases e:O5 (As3 ow h) fd
 ·rfl
 ·have:=Bg9 e
  exact absurd ⟨this.1.1,this.1.2,this.2⟩ hv
theorem Ia7 {fd:Int} (hfd:0≤fd∧fd<8) (hv:ow.getD fd.toNat 0>0) (hz:lz ow<8):B02 (G5 ow h r) 0 fd=(E7 (lz ow) 0 false,G5 (ow.set (lz ow) (ow.getD fd.toNat 0)) (by rw [List.length_set];exact h) (rr r (ow.getD fd.toNat 0) 1)):=by
 have hp:=I.pos (j:=fd.toNat) (by omega) hv
 have hg:=I.rng fd.toNat
 have hn:=I.nn (v:=ow.getD fd.toNat 0) (by omega)
 unfold B02
 rw [E76 hfd (by omega) (by omega),B70,Gm2,if_pos hz,if_neg (by simp),if_neg (by simp)]
 show (if r (ow.getD fd.toNat 0)≥64 then _ else B58 (wF (G5 ow h r) (ow.getD fd.toNat 0-1) ⟨kd (ow.getD fd.toNat 0-1),0,r (ow.getD fd.toNat 0)+1,0⟩) 0 ((lz ow:Nat):Int) (ow.getD fd.toNat 0-1))=_
 rw [if_neg (by omega),Gy8 (by omega) (by omega) (by omega)]
 unfold B58
 rw [Bp9,if_neg (by simp),B70]
 show (E7 _ 0 false,wS (G5 ow h _) 0 (setFd (As3 ow h) ((lz ow:Nat):Int).toNat (ow.getD fd.toNat 0-1+1)))=_
 rw [E70]
 simp only [Int.toNat_natCast,Int.sub_add_cancel]
theorem H18 {fd:Int} (hfd:0≤fd∧fd<8) (hv:ow.getD fd.toNat 0>0) (hz:¬ lz ow<8):B02 (G5 ow h r) 0 fd=(E7 0 124 false,G5 ow h r):=by
 have hp:=I.pos (j:=fd.toNat) (by omega) hv
 have hg:=I.rng fd.toNat
 unfold B02
 rw [E76 hfd (by omega) (by omega),B70,Gm2,if_neg hz,if_neg (by simp),if_pos (by simp)]
omit I in
theorem H50 {fd:Int} (hv:¬ (0≤fd∧fd<8∧ow.getD fd.toNat 0>0)):B02 (G5 ow h r) 0 fd=(E7 0 109 false,G5 ow h r):=by
 unfold B02
 rw [He4 hv,if_pos (by simp)]
omit I in
theorem Gk6 {fd to:Int} (hv:¬ (0≤fd∧fd<8∧ow.getD fd.toNat 0>0)):Bx7 (G5 ow h r) 0 fd to=(E7 0 109 false,G5 ow h r):=by
 unfold Bx7
 rw [He4 hv,if_pos (by simp)]
theorem Gj4 {fd:Int} (hfd:0≤fd∧fd<8) (hv:ow.getD fd.toNat 0>0):Bx7 (G5 ow h r) 0 fd fd=(E7 fd 0 false,G5 ow h r):=by
 have hp:=I.pos (j:=fd.toNat) (by omega) hv
 have hg:=I.rng fd.toNat
 unfold Bx7
 rw [E76 hfd (by omega) (by omega),if_neg (by simp),if_neg (by omega),if_pos rfl]
def r2 (r:Int→Int) (w v:Int):Int→Int:=rr (if w>0 then rr r w (-1) else r) v 1
theorem H04 {fd to:Int} (hfd:0≤fd∧fd<8) (hto:0≤to∧to<8) (ne:to≠fd) (hv:ow.getD fd.toNat 0>0) :
  Bx7 (G5 ow h r) 0 fd to=(E7 to 0 false,G5 (ow.set to.toNat (ow.getD fd.toNat 0)) (by rw [List.length_set];exact h) (r2 r (ow.getD to.toNat 0) (ow.getD fd.toNat 0))):=by
 have hp:=I.pos (j:=fd.toNat) (by omega) hv
 have hg:=I.rng fd.toNat
 have hg2:=I.rng to.toNat
 have hn:=I.nn (v:=ow.getD fd.toNat 0) (by omega)
 have hn2:=I.nn (v:=2) (by omega)
 have hn3:=I.nn (v:=3) (by omega)
 have hpw:=I.pos (j:=to.toNat) (by omega)
 unfold Bx7
 rw [E76 hfd (by omega) (by omega),if_neg (by simp),if_neg (by omega),if_neg ne]
 show (if r (ow.getD fd.toNat 0)≥64 then _ else B58 (Aq6 (wF (G5 ow h r) (ow.getD fd.toNat 0-1) ⟨kd (ow.getD fd.toNat 0-1),0,r (ow.getD fd.toNat 0)+1,0⟩) 0 to).2 0 to (ow.getD fd.toNat 0-1))=_
 rw [if_neg (by omega),Gy8 (by omega) (by omega) (by omega)]
 have hname:∀ (ow':List Int) (h':ow'.length=8) (r':Int→Int),B58 (G5 ow' h' r') 0 to (ow.getD fd.toNat 0-1)=(E7 to 0 false,G5 (ow'.set to.toNat (ow.getD fd.toNat 0)) (by rw [List.length_set];exact h') r'):=fun ow' h' r'=>by
  unfold B58
  rw [Bp9,if_neg (by simp),B70]
  show (E7 _ 0 false,wS (G5 ow' h' r') 0 (setFd (As3 ow' h') to.toNat (ow.getD fd.toNat 0-1+1)))=_
  rw [E70]
  simp only [Int.sub_add_cancel]
 by_cases hw:ow.getD to.toNat 0>0
 ·have e:Aq6 (G5 ow h (rr r (ow.getD fd.toNat 0) 1)) 0 to=(E7 0 0 false,G5 (ow.set to.toNat 0) (by rw [List.length_set];exact h) (rr (rr r (ow.getD fd.toNat 0) 1) (ow.getD to.toNat 0) (-1))):=by
   unfold Aq6
   rw [Bp9,B70,if_neg (by simp),if_neg (E17 hto (show (As3 ow h).fds.getD to.toNat 0>0 from hw))]
   show (E7 0 (Bg7 (wS (G5 ow h _) 0 (setFd (As3 ow h) to.toNat 0)) (ow.getD to.toNat 0-1)).1 false,(Bg7 (wS (G5 ow h _) 0 (setFd (As3 ow h) to.toNat 0)) (ow.getD to.toNat 0-1)).2)=_
   rw [E70,Gl8 ⟨by omega,hg2.2⟩ (by have:=hpw hw;simp only [rr];split<;>omega) (by simp only [rr];split<;>omega) (by simp only [rr];split<;>omega)]
  rw [e,hname]
  refine congrArg (Prod.mk _) ?_
  have es:(ow.set to.toNat 0).set to.toNat (ow.getD fd.toNat 0)=ow.set to.toNat (ow.getD fd.toNat 0):=List.set_set ..
  have er:rr (rr r (ow.getD fd.toNat 0) 1) (ow.getD to.toNat 0) (-1)=r2 r (ow.getD to.toNat 0) (ow.getD fd.toNat 0):=by
   funext x
   unfold r2;rw [if_pos hw]
   simp only [rr]
   split<;>split<;>omega
  rw [er]
  simp only [es]
 ·rw [En9 (by omega),hname]
  refine congrArg (Prod.mk _) ?_
  unfold r2;rw [if_neg hw]
end
def ow0:List Int:=[1,2,3,0,0,0,0,0]
def VD:VW:=G5 ow0 rfl (fun _=>1)
theorem Ih2:(Gq2 V1 0).1=E7 33 0 false:=by kernel_rfl
theorem Ih9:See (A27 X1 0).2 VD:=by
 refine (Id2.pipe (i:=0) (by omega)).2.to (fun j hj=>?_) (fun j hj=>?_) fun j hj=>?_
 ·have:j=0∨j=1∨j=2∨j=3∨j=4∨j=5∨j=6∨j=7:=by omega
  rcases this with rfl|rfl|rfl|rfl|rfl|rfl|rfl|rfl<;>(clear hj;show (_:ProcS × Int)=_;kernel_rfl)
 ·have:j=0∨j=1∨j=2∨j=3∨j=4∨j=5∨j=6∨j=7∨j=8∨j=9∨j=10∨j=11:=by omega
  rcases this with rfl|rfl|rfl|rfl|rfl|rfl|rfl|rfl|rfl|rfl|rfl|rfl<;>(clear hj;show (_:FileS × Int)=_;kernel_rfl)
 ·have:j=0∨j=1∨j=2∨j=3∨j=4∨j=5:=by omega
  rcases this with rfl|rfl|rfl|rfl|rfl|rfl<;>(clear hj;show (_:PipeS × Int)=_;kernel_rfl)
theorem Hv9:(A27 X1 0).1=E7 33 0 false:=(Id2.pipe (i:=0) (by omega)).1.trans Ih2
def XD:CX:=(A27 X1 0).2
theorem Ho2:See XD VD:=Ih9
theorem Ia8 {α:Type} (k:Bool→Option α):Bi8 PR D4 [int 1,int 0,int 1,int 0] [int 1,int 0,int 1,int 0] k=k true:=by kernel_rfl
theorem E58:Ct A7 A84 [] [] fun v own=>v=.bool true∧own []:=by
 have q1:(Ae2 3 XD 0 5).1=E7 0 109 false:=(Ho2.closeFd (i:=0) (by omega) 5).1.trans (by kernel_rfl)
 have s1:=(Ho2.closeFd (i:=0) (by omega) 5).2
 have q2:ofV (Ae2 3 XD 0 5).2 0 1=((1,⟨1,0,1,0⟩),0):=(s1.ofv (i:=0) (by omega) 1).trans (by kernel_rfl)
 generalize hY:(Ae2 3 XD 0 5).2=Y at q2 s1
 refine Ct.of Go9 rfl fun h r=>Tr.eq (Gn7 ..) ?_;refine Je ?_
 refine Yc (Gy4) ?_;rintro _ h ⟨a,rfl,o⟩<;>refine Jh o ?_
 (refine Ja ?_;unhygienic intros)
 refine Yc (Hc7 a) ?_
 rintro _ h ⟨k,c,w,m,K',rfl,o⟩
 refine Jh o ?_
 (refine Ja ?_;unhygienic intros)
 refine Yc (Gt4 c k F1 X1 By0 E08 0 (by omega)) ?_;rintro _ h ⟨rfl,o⟩<;>refine Jh o ?_
 rw [Hv9,show (A27 X1 0).2=XD from rfl]
 (refine Jc ?_;unhygienic intros)
 refine Yn fun b1 h=>?_
 (refine Ja ?_;unhygienic intros)
 refine Yc (Ej7 c k F1 XD By0 Ho2.c 0 5 (by omega)) ?_;rintro _ h ⟨rfl,o⟩<;>refine Jh o ?_
 rw [q1,hY]
 (refine Jc ?_;unhygienic intros)
 refine Yn fun b2 h=>?_
 (refine Ja ?_;unhygienic intros)
 refine Yc (Hj3 c k F1 Y By0 s1.c 0 1 (by omega)) ?_;rintro _ h ⟨rfl,o⟩<;>refine Jh o ?_
 rw [q2]
 dsimp only
 (refine Jc ?_;unhygienic intros)
 refine Yn fun b3 h=>?_
 (refine Jb ?_;unhygienic intros)
 refine Yb (Yt rfl ?_)
 (refine Jb ?_;unhygienic intros)
 refine Ys fun o=>(?_:Tr _ _ _ _) o;refine Je ?_
 refine Yb (Yt rfl ?_)
 (refine Jb ?_;unhygienic intros)
 refine Ys fun o=>(?_:Tr _ _ _ _) o;refine Je ?_
 refine Yb (Yt rfl ?_)
 refine Ys fun o=>(?_:Tr _ _ _ _) o;refine Je ?_
 refine Yb (Yt rfl ?_)
 (refine Jb ?_;unhygienic intros)
 refine (?_:Tr _ _ (Bi8 PR D4 [int 1,int 0,int 1,int 0] [int 1,int 0,int 1,int 0] _) _)
 rw [Ia8]
 refine Ys fun o=>(?_:Tr _ _ _ _) o;refine Je ?_
 refine Yb (Yt rfl ?_)
 refine Ys fun o=>(?_:Tr _ _ _ _) o;refine Je ?_
 refine Ys fun o=>?_
 exact ⟨rfl,o.sub⟩
abbrev rL (g:Int→Int):List Value:=[int (g 1),int (g 2),int (g 3)]
theorem Eo2 {g:Int→Int} {v:Int} (hv:1≤v∧v≤3):(rL g)[(v-1).toNat]?=some (int (g v)):=by
 have:v=1∨v=2∨v=3:=by omega
 rcases this with rfl|rfl|rfl<;>rfl
theorem E96 {g:Int→Int} {v d:Int} (hv:1≤v∧v≤3):Da9 (rL g) (v-1).toNat (int (g v+d))=some (rL (rr g v d)):=by
 have:v=1∨v=2∨v=3:=by omega
 rcases this with rfl|rfl|rfl<;>rfl
theorem Bh5 {ow:List Int} (h:ow.length=8) {j:Nat} (hj:j<8):(ow.map int)[j]?=some (int (ow.getD j 0)):=Hh4 (by rw [h];exact hj)
theorem Gf8 {ow:List Int} (h:ow.length=8) {j:Nat} (hj:j<8) (v:Int):Da9 (ow.map int) j (int v)=some ((ow.set j v).map int):=Hy2 (by rw [h];exact hj) v
def Di7 (k c bR bO:Nat) (p:HP) (a:Option Addr) (n cc:Nat) (to:Int) (i:Nat):Prop :=
 ∀ (X:CX) (ow:List Int) (h8:ow.length=8) (g:Int→Int),See X (G5 ow h8 g)→Own8 ow g →
  CtJ G2 B0 Ai4 [(0,.slice a n cc),(1,int to),(6,P0 c),(9,P0 bR),(10,P0 bO),(11,int i)] [cmC c k F1 X,pt bR (.cells A23 false (rL g)),pt bO (.cells Aj3 false (ow.map int)),p] fun v own=>v=.bool true∧own []
theorem If8 {ow:List Int} {h8:ow.length=8} {g:Int→Int} {k:Nat} (hk:k<3):(G5 ow h8 g).F k=Du1 k (g (k+1)):=by
 show (if 0≤(k:Int)∧(k:Int)<3 then Du1 k (g (k+1)) else (.zero,0))=_
 rw [if_pos (by omega)]
theorem Au4 (k c bR bO:Nat) (p:HP) (a:Option Addr) (n cc:Nat) (to:Int) (i:Nat) (hi:i<30) (ih:Di7 k c bR bO p a n cc to (i+1)) (X:CX) (ow:List Int) (h8:ow.length=8) (g:Int→Int) (A:See X (G5 ow h8 g)) (I:Own8 ow g):∀ (m q:Nat),q+m=3 →
  CtJ G2 B0 N3 [(0,.slice a n cc),(1,int to),(6,P0 c),(9,P0 bR),(10,P0 bO),(11,int i),(21,int q)] [cmC c k F1 X,pt bR (.cells A23 false (rL g)),pt bO (.cells Aj3 false (ow.map int)),p] fun v own=>v=.bool true∧own []
 | 0,q,hq=>by
  have e1:IntKind.wrap .i64 ((i:Int)+1)=((i+1:Nat):Int):=by rw [A6];omega
  obtain rfl:q=3:=by omega
  refine CtJ.of H5 fun h r=>Tr.eq (B85 ..) ?_;refine Je ?_
  refine Yf (by simp) ?_
  rw [e1]
  exact Yr (ih X ow h8 g A I) fun v h q=>q
 | m+1,q,hq=>by
  have e1:IntKind.wrap .i64 ((q:Int)+1)=((q+1:Nat):Int):=by rw [A6];omega
  have H:=Au4 k c bR bO p a n cc to i hi ih X ow h8 g A I m (q+1) (by omega)
  have hf:=(A.f q (by omega)).trans (If8 (by omega))
  have hg:(rL g)[(q:Int).toNat]?=some (int (g ((q:Int)+1))):=by
   have:=Eo2 (g:=g) (v:=(q:Int)+1) (by omega)
   rwa [show (q:Int)+1-1=q by omega] at this
  refine CtJ.of H5 fun h r=>Tr.eq (B85 ..) ?_;refine Je ?_
  refine Yt (by simp;omega) ?_
  refine Yc (Dj7 c k F1 X By0 q) ?_;rintro _ h ⟨rfl,o⟩<;>refine Jh o ?_
  rw [Bm2 A.c (by omega),hf,e1]
  by_cases hr:g ((q:Int)+1)>0
  ·rw [Ez8 hr]
   dsimp only
   (refine Jc ?_;unhygienic intros)
   refine Yn fun b1 h=>?_
   (refine Jb ?_;unhygienic intros)
   refine Yb (Yf (by simpa using hr) ?_)
   (refine Jb ?_;unhygienic intros)
   refine Yb (Yt rfl ?_)
   (refine Jb ?_;unhygienic intros)
   refine Ys fun o=>(?_:Tr _ _ _ _) o;refine Je ?_
   refine Ys fun o=>(?_:Tr _ _ _ _) o;refine Je ?_
   refine Yf (by simp) ?_
   refine S4 [1,1,1,1] 1 rfl rfl ?_
   exact Yr H fun v h q=>q
  ·rw [He5 hr]
   dsimp only
   (refine Jc ?_;unhygienic intros)
   refine Yn fun b1 h=>?_
   (refine Jb ?_;unhygienic intros)
   refine Yb (Yf (by simpa using hr) ?_)
   (refine Jb ?_;unhygienic intros)
   refine Yb (Yf rfl ?_)
   refine Ys fun o=>(?_:Tr _ _ _ _) o;refine Je ?_
   refine Ys fun o=>(?_:Tr _ _ _ _) o;refine Je ?_
   refine Yf rfl ?_
   refine S4 [1,1,1,1] 1 rfl rfl ?_
   exact Yr H fun v h q=>q
theorem Ht2 (k c bR bO b1:Nat) (p:HP) (a:Option Addr) (n cc:Nat) (to:Int) (i:Nat) (hi:i<30) (ih:Di7 k c bR bO p a n cc to (i+1)) (X:CX) (ow:List Int) (h8:ow.length=8) (g:Int→Int) (I:Own8 ow g) (fd:Int) (hfd:0≤fd∧fd<8)
  (want:Int) (hw:want=if ow.getD fd.toNat 0=0 then 109 else if lz ow=8 then 124 else 0) (A:See X (B02 (G5 ow h8 g) 0 fd).2) :
  CtJ G2 B0 P7 [(0,.slice a n cc),(1,int to),(6,P0 c),(9,P0 bR),(10,P0 bO),(11,int i),(13,int fd),(14,P0 b1),(15,int (lz ow)),(16,int want)] [pt b1 (.cells L8 false (B02 (G5 ow h8 g) 0 fd).1),cmC c k F1 X,pt bR (.cells A23 false (rL g)),pt bO (.cells Aj3 false (ow.map int)),p] fun v own=>v=.bool true∧own []:=by
 have hrg:=I.rng fd.toNat
 have hz:=Hk6 ow
 by_cases h0:ow.getD fd.toNat 0=0
 ·rw [if_pos h0] at hw
  subst hw
  rw [H50 (by omega)] at A ⊢
  have H:=Au4 k c bR bO p a n cc to i hi ih X ow h8 g A I 3 0 rfl
  refine CtJ.of H5 fun h r=>Tr.eq (Bf4 ..) ?_;refine Je ?_
  (refine Jb ?_;unhygienic intros)
  refine Yb (Yf rfl ?_)
  refine Yb (Yf rfl ?_)
  refine Ys fun o=>(?_:Tr _ _ _ _) o;refine Je ?_
  refine Ys fun o=>(?_:Tr _ _ _ _) o;refine Je ?_
  refine Yf rfl ?_
  refine Yf rfl ?_
  refine S4 [1,1,1,1] 1 rfl rfl ?_
  exact Yr H fun v h q=>q
 rw [if_neg h0] at hw
 by_cases h1:lz ow=8
 ·rw [if_pos h1] at hw
  subst hw
  rw [H18 I hfd (by omega) (by omega)] at A ⊢
  have H:=Au4 k c bR bO p a n cc to i hi ih X ow h8 g A I 3 0 rfl
  refine CtJ.of H5 fun h r=>Tr.eq (Bf4 ..) ?_;refine Je ?_
  (refine Jb ?_;unhygienic intros)
  refine Yb (Yf rfl ?_)
  refine Yb (Yf rfl ?_)
  refine Ys fun o=>(?_:Tr _ _ _ _) o;refine Je ?_
  refine Ys fun o=>(?_:Tr _ _ _ _) o;refine Je ?_
  refine Yf rfl ?_
  refine Yf rfl ?_
  refine S4 [1,1,1,1] 1 rfl rfl ?_
  exact Yr H fun v h q=>q
 rw [if_neg h1] at hw
 subst hw
 have hz8:lz ow<8:=by omega
 rw [Ia7 I hfd (by omega) hz8] at A ⊢
 have hzero:=Hu1 ow (by omega)
 have hg:=Bh5 h8 (j:=fd.toNat) (by omega)
 have hg2:=Bh5 (ow:=ow.set (lz ow) (ow.getD fd.toNat 0)) (by rw [List.length_set];exact h8) (j:=fd.toNat) (by omega)
 have hne:fd.toNat≠lz ow:=fun e=>h0 (by rw [e];exact hzero)
 rw [Ee2 _ _ _ _ (by omega),if_neg hne] at hg2
 have hs:=Gf8 h8 hz8 (ow.getD fd.toNat 0)
 have I2:Own8 (ow.set (lz ow) (ow.getD fd.toNat 0)) (rr g (ow.getD fd.toNat 0) 1):=I.set hz8 (w:=ow.getD fd.toNat 0) hrg fun v h1 h2=>by
  rw [hzero,if_neg (by omega)]
  simp only [rr]
  by_cases e:v=ow.getD fd.toNat 0
  ·rw [if_pos e,if_pos e.symm];omega
  ·rw [if_neg e,if_neg (fun h=>e h.symm)];omega
 have hnn:=I.nn (v:=ow.getD fd.toNat 0) (by omega)
 have H:=Au4 k c bR bO p a n cc to i hi ih X _ (by rw [List.length_set];exact h8) _ A I2 3 0 rfl
 have hrg2:=Eo2 (g:=g) (v:=ow.getD fd.toNat 0) (by omega)
 have hrs:=E96 (g:=g) (v:=ow.getD fd.toNat 0) (d:=1) (by omega)
 generalize ow.getD fd.toNat 0=v at *
 have e1:IntKind.wrap .i64 (v-1)=v-1:=by rw [A6];omega
 have e2:IntKind.wrap .i64 (g v+1)=g v+1:=by rw [A6];omega
 refine CtJ.of H5 fun h r=>Tr.eq (Bf4 ..) ?_;refine Je ?_
 (refine Jb ?_;unhygienic intros)
 refine Yb (Yf rfl ?_)
 refine Yb (Yt rfl ?_)
 (refine Jb ?_;unhygienic intros)
 refine Ys fun o=>(?_:Tr _ _ _ _) o;refine Je ?_
 refine Ys fun o=>(?_:Tr _ _ _ _) o;refine Je ?_
 refine Yf (by simp) ?_
 refine Yt rfl ?_
 simp only [Int.toNat_natCast] at *
 rw [← e2] at hrs
 (refine Ja ?_;unhygienic intros)
 rw [e1]
 (refine Ja ?_;unhygienic intros)
 refine S4 [1,1,1,1] 1 rfl rfl ?_
 exact Yr H fun v h q=>q
theorem Hq7 (k c bR bO b1:Nat) (p:HP) (a:Option Addr) (n cc:Nat) (to:Int) (i:Nat) (hi:i<30) (ih:Di7 k c bR bO p a n cc to (i+1)) (X:CX) (ow:List Int) (h8:ow.length=8) (g:Int→Int) (I:Own8 ow g) (fd:Int) (hfd:0≤fd∧fd<8)
  (A:See X (B02 (G5 ow h8 g) 0 fd).2):∀ (m q:Nat),q+m=8→q+lz (ow.drop q)=lz ow →
  CtJ G2 B0 Au6 [(0,.slice a n cc),(1,int to),(6,P0 c),(9,P0 bR),(10,P0 bO),(11,int i),(13,int fd),(14,P0 b1),(15,int q)] [pt b1 (.cells L8 false (B02 (G5 ow h8 g) 0 fd).1),cmC c k F1 X,pt bR (.cells A23 false (rL g)),pt bO (.cells Aj3 false (ow.map int)),p] fun v own=>v=.bool true∧own []:=by
 have H:=fun want hw=>Ht2 k c bR bO b1 p a n cc to i hi ih X ow h8 g I fd hfd want hw A
 have hz:=Hk6 ow
 have hgf:=Bh5 h8 (j:=fd.toNat) (by omega)
 have fin:∀ (q:Nat),q=lz ow→∀ {r:List HP} {h:NN.H},Tr (pt b1 (.cells L8 false (B02 (G5 ow h8 g) 0 fd).1)::cmC c k F1 X::pt bR (.cells A23 false (rL g))::pt bO (.cells Aj3 false (ow.map int))::p::r) h
   (ck ((0:Int)≤fd∧fd<((8:Nat):Int)) (gInt .i64 ⟨bO,fd.toNat,none⟩ h fun x_1=>cond (x_1==0)
 (G2 B0 P7 [(0,.slice a n cc),(1,int to),(6,P0 c),(9,P0 bR),(10,P0 bO),(11,int i),(13,int fd),(14,P0 b1),(15,int q),(16,int 109)] h)
 (cond ((q:Int)==8)
 (G2 B0 P7 [(0,.slice a n cc),(1,int to),(6,P0 c),(9,P0 bR),(10,P0 bO),(11,int i),(13,int fd),(14,P0 b1),(15,int q),(16,int 124)] h)
 (G2 B0 P7 [(0,.slice a n cc),(1,int to),(6,P0 c),(9,P0 bR),(10,P0 bO),(11,int i),(13,int fd),(14,P0 b1),(15,int q),(16,int 0)] h)))) fun v h'=>v=.bool true∧Own h' r:=by
  intro q hq r h
  subst hq
  (refine Ja ?_;unhygienic intros)
  by_cases h0:ow.getD fd.toNat 0=0
  ·refine Yt (by simpa using h0) ?_
   exact Yr (H 109 (if_pos h0).symm) fun v h q=>q
  refine Yf (by simpa using h0) ?_
  by_cases h1:lz ow=8
  ·refine Yt (by simp;omega) ?_
   exact Yr (H 124 (by rw [if_neg h0,if_pos h1])) fun v h q=>q
  refine Yf (by simp;omega) ?_
  exact Yr (H 0 (by rw [if_neg h0,if_neg h1])) fun v h q=>q
 intro m
 induction m with
 | zero =>
  intro q hq hl
  obtain rfl:q=8:=by omega
  rw [List.drop_eq_nil_of_le (by omega),show lz []=0 from rfl] at hl
  refine CtJ.of H5 fun h r=>Tr.eq (B84 ..) ?_;refine Je ?_
  refine Yb (Yf (by simp) ?_)
  refine Ys fun o=>(?_:Tr _ _ _ _) o;refine Je ?_
  refine Yf rfl ?_
  exact fin 8 (by omega)
 | succ m ihm =>
  intro q hq hl
  have e1:IntKind.wrap .i64 ((q:Int)+1)=((q+1:Nat):Int):=by rw [A6];omega
  have hg:=Bh5 h8 (j:=q) (by omega)
  rw [Gk4 ow (by omega),lz] at hl
  refine CtJ.of H5 fun h r=>Tr.eq (B84 ..) ?_;refine Je ?_
  refine Yb (Yt (by simp;omega) ?_)
  rw [e1]
  simp only [Int.toNat_natCast]
  (refine Ja ?_;unhygienic intros)
  refine Ys fun o=>(?_:Tr _ _ _ _) o;refine Je ?_
  by_cases h0:ow.getD q 0=0
  ·rw [if_pos h0] at hl
   refine Yf (by simpa using h0) ?_
   exact fin q (by omega)
  ·rw [if_neg h0] at hl
   refine Yt (by simpa using h0) ?_
   exact Yr (ihm (q+1) (by omega) (by omega)) fun v h q=>q
theorem Ht1 (k c bR bO:Nat) (p:HP) (a:Option Addr) (n cc:Nat) (to:Int) (i:Nat) (hi:i<30) (ih:Di7 k c bR bO p a n cc to (i+1)) (X:CX) (ow:List Int) (h8:ow.length=8) (g:Int→Int) (I:Own8 ow g) (fd on:Int) (hfd:0≤fd∧fd<8) (hon:0≤on∧on<8) (ne:on≠fd)
  (hv:ow.getD fd.toNat 0>0) (A:See X (G5 (ow.set on.toNat (ow.getD fd.toNat 0)) (by rw [List.length_set];exact h8) (r2 g (ow.getD on.toNat 0) (ow.getD fd.toNat 0)))) :
  CtJ G2 B0 Ax2 [(0,.slice a n cc),(1,int to),(6,P0 c),(9,P0 bR),(10,P0 bO),(11,int i),(13,int fd),(17,int on)] [cmC c k F1 X,pt bR (.cells A23 false (rL (if ow.getD on.toNat 0>0 then rr g (ow.getD on.toNat 0) (-1) else g))),pt bO (.cells Aj3 false (ow.map int)),p] fun v own=>v=.bool true∧own []:=by
 have hrg:=I.rng fd.toNat
 have hrw:=I.rng on.toNat
 have hnn:=I.nn (v:=ow.getD fd.toNat 0) (by omega)
 have hg:=Bh5 h8 (j:=fd.toNat) (by omega)
 have hg2:=Bh5 (ow:=ow.set on.toNat (ow.getD fd.toNat 0)) (by rw [List.length_set];exact h8) (j:=fd.toNat) (by omega)
 rw [Ee2 _ _ _ _ (by omega),if_neg (by omega)] at hg2
 have hs:=Gf8 h8 (j:=on.toNat) (by omega) (ow.getD fd.toNat 0)
 have I2:Own8 (ow.set on.toNat (ow.getD fd.toNat 0)) (r2 g (ow.getD on.toNat 0) (ow.getD fd.toNat 0)):=I.set (by omega) (w:=ow.getD fd.toNat 0) hrg fun v h1 h2=>by
  unfold r2
  generalize ow.getD on.toNat 0=w at *
  generalize ow.getD fd.toNat 0=u at *
  by_cases h3:w>0
  ·rw [if_pos h3]
   simp only [rr]
   repeat' split
   all_goals omega
  ·rw [if_neg h3]
   simp only [rr]
   repeat' split
   all_goals omega
 have H:=Au4 k c bR bO p a n cc to i hi ih X _ (by rw [List.length_set];exact h8) _ A I2 3 0 rfl
 rw [show r2 g (ow.getD on.toNat 0) (ow.getD fd.toNat 0)=rr (if ow.getD on.toNat 0>0 then rr g (ow.getD on.toNat 0) (-1) else g) (ow.getD fd.toNat 0) 1 from rfl] at H
 have hg1:-1≤(if ow.getD on.toNat 0>0 then rr g (ow.getD on.toNat 0) (-1) else g) (ow.getD fd.toNat 0)∧(if ow.getD on.toNat 0>0 then rr g (ow.getD on.toNat 0) (-1) else g) (ow.getD fd.toNat 0)≤8:=by
  by_cases h3:ow.getD on.toNat 0>0
  ·rw [if_pos h3];simp only [rr];split<;>omega
  ·rw [if_neg h3];omega
 generalize (if ow.getD on.toNat 0>0 then rr g (ow.getD on.toNat 0) (-1) else g)=g1 at *
 have hrg2:=Eo2 (g:=g1) (v:=ow.getD fd.toNat 0) (by omega)
 have hrs:=E96 (g:=g1) (v:=ow.getD fd.toNat 0) (d:=1) (by omega)
 clear A I2 hnn
 generalize ow.getD fd.toNat 0=v at *
 have e1:IntKind.wrap .i64 (v-1)=v-1:=by rw [A6];omega
 have e2:IntKind.wrap .i64 (g1 v+1)=g1 v+1:=by rw [A6];omega
 rw [← e2] at hrs
 refine CtJ.of H5 fun h r=>Tr.eq (Eg9 ..) ?_;refine Je ?_
 (refine Ja ?_;unhygienic intros)
 rw [e1]
 (refine Ja ?_;unhygienic intros)
 exact Yr H fun v h q=>q
theorem Hr0 (k c bR bO b1:Nat) (p:HP) (a:Option Addr) (n cc:Nat) (to:Int) (i:Nat) (hi:i<30) (ih:Di7 k c bR bO p a n cc to (i+1)) (X:CX) (ow:List Int) (h8:ow.length=8) (g:Int→Int) (I:Own8 ow g) (fd on:Int) (hfd:0≤fd∧fd<8) (hon:0≤on∧on<8)
  (want:Int) (hw:want=if ow.getD fd.toNat 0=0 then 109 else 0) (A:See X (Bx7 (G5 ow h8 g) 0 fd on).2) :
  CtJ G2 B0 Aw7 [(0,.slice a n cc),(1,int to),(6,P0 c),(9,P0 bR),(10,P0 bO),(11,int i),(13,int fd),(17,int on),(18,P0 b1),(19,int want)] [pt b1 (.cells L8 false (Bx7 (G5 ow h8 g) 0 fd on).1),cmC c k F1 X,pt bR (.cells A23 false (rL g)),pt bO (.cells Aj3 false (ow.map int)),p] fun v own=>v=.bool true∧own []:=by
 have hrg:=I.rng fd.toNat
 by_cases h0:ow.getD fd.toNat 0=0
 ·rw [if_pos h0] at hw
  subst hw
  rw [Gk6 (by omega)] at A ⊢
  have H:=Au4 k c bR bO p a n cc to i hi ih X ow h8 g A I 3 0 rfl
  refine CtJ.of H5 fun h r=>Tr.eq (Be9 ..) ?_;refine Je ?_
  (refine Jb ?_;unhygienic intros)
  refine Yb (Yf rfl ?_)
  refine Yb (Yf rfl ?_)
  refine Ys fun o=>(?_:Tr _ _ _ _) o;refine Je ?_
  refine Ys fun o=>(?_:Tr _ _ _ _) o;refine Je ?_
  refine Yf rfl ?_
  refine Yb (Yf rfl ?_)
  refine Ys fun o=>(?_:Tr _ _ _ _) o;refine Je ?_
  refine Yf rfl ?_
  refine S4 [1,1,1,1] 1 rfl rfl ?_
  exact Yr H fun v h q=>q
 rw [if_neg h0] at hw
 subst hw
 by_cases h1:on=fd
 ·subst h1
  rw [Gj4 I hfd (by omega)] at A ⊢
  have H:=Au4 k c bR bO p a n cc to i hi ih X ow h8 g A I 3 0 rfl
  refine CtJ.of H5 fun h r=>Tr.eq (Be9 ..) ?_;refine Je ?_
  (refine Jb ?_;unhygienic intros)
  refine Yb (Yf rfl ?_)
  refine Yb (Yt rfl ?_)
  (refine Jb ?_;unhygienic intros)
  refine Ys fun o=>(?_:Tr _ _ _ _) o;refine Je ?_
  refine Ys fun o=>(?_:Tr _ _ _ _) o;refine Je ?_
  refine Yf (by simp) ?_
  refine Yb (Yt rfl ?_)
  refine Ys fun o=>(?_:Tr _ _ _ _) o;refine Je ?_
  refine Yf (by simp) ?_
  refine S4 [1,1,1,1] 1 rfl rfl ?_
  exact Yr H fun v h q=>q
 rw [H04 I hfd hon h1 (by omega)] at A ⊢
 have H:=Ht1 k c bR bO p a n cc to i hi ih X ow h8 g I fd on hfd hon h1 (by omega) A
 have hg:=Bh5 h8 (j:=on.toNat) (by omega)
 have hrw:=I.rng on.toNat
 refine CtJ.of H5 fun h r=>Tr.eq (Be9 ..) ?_;refine Je ?_
 (refine Jb ?_;unhygienic intros)
 refine Yb (Yf rfl ?_)
 refine Yb (Yt rfl ?_)
 (refine Jb ?_;unhygienic intros)
 refine Ys fun o=>(?_:Tr _ _ _ _) o;refine Je ?_
 refine Ys fun o=>(?_:Tr _ _ _ _) o;refine Je ?_
 refine Yf (by simp) ?_
 refine Yb (Yt rfl ?_)
 refine Ys fun o=>(?_:Tr _ _ _ _) o;refine Je ?_
 refine Yt (by simpa using h1) ?_
 by_cases h3:ow.getD on.toNat 0>0
 ·rw [if_pos h3] at H
  have hnn:=I.nn (v:=ow.getD on.toNat 0) (by omega)
  have hrg2:=Eo2 (g:=g) (v:=ow.getD on.toNat 0) (by omega)
  have hrs:=E96 (g:=g) (v:=ow.getD on.toNat 0) (d:=-1) (by omega)
  clear A
  generalize ow.getD on.toNat 0=v at *
  have e1:IntKind.wrap .i64 (v-1)=v-1:=by rw [A6];omega
  have e2:IntKind.wrap .i64 (g v-1)=g v+-1:=by rw [A6];omega
  rw [← e2] at hrs
  (refine Ja ?_;unhygienic intros)
  refine Yt (by simpa using h3) ?_
  (refine Ja ?_;unhygienic intros)
  rw [e1]
  (refine Ja ?_;unhygienic intros)
  refine S4 [1,1,1,1] 1 rfl rfl ?_
  exact Yr H fun v h q=>q
 ·rw [if_neg h3] at H
  (refine Ja ?_;unhygienic intros)
  refine Yf (by simpa using h3) ?_
  refine S4 [1,1,1,1] 1 rfl rfl ?_
  exact Yr H fun v h q=>q
theorem E49 (k c bR bO:Nat) (p:HP) (a:Option Addr) (n cc:Nat) (to:Int) (i:Nat) (hi:¬ (i<n∧i<30)) (X:CX) (ow:List Int) (h8:ow.length=8) (g:Int→Int) (A:See X (G5 ow h8 g)) (I:Own8 ow g) :
  CtJ G2 B0 Ai4 [(0,.slice a n cc),(1,int to),(6,P0 c),(9,P0 bR),(10,P0 bO),(11,int i)] [cmC c k F1 X,pt bR (.cells A23 false (rL g)),pt bO (.cells Aj3 false (ow.map int)),p] fun v own=>v=.bool true∧own []:=by
 have ht:0≤B4 .i64 to 7∧B4 .i64 to 7<8:=by rw [Gs0];omega
 have hg:=Bh5 h8 (j:=(B4 .i64 to 7).toNat) (by omega)
 have hrg:=I.rng (B4 .i64 to 7).toNat
 have hp:vP X 0=A25 (g 2) (g 3):=A.p 0 (by omega)
 have hn2:=I.nn (v:=2) (by omega)
 have hn3:=I.nn (v:=3) (by omega)
 have hd:(B59 3 X 0 (B4 .i64 to 7) (B4 .i64 to 7)).1=if ow.getD (B4 .i64 to 7).toNat 0>0 then E7 (B4 .i64 to 7) 0 false else E7 0 109 false:=by
  rw [(A.dup2 (i:=0) (by omega) _ _).1]
  by_cases h0:ow.getD (B4 .i64 to 7).toNat 0>0
  ·rw [if_pos h0,Gj4 I ht h0]
  ·rw [if_neg h0,Gk6 (by omega)]
 generalize ht7:B4 .i64 to 7=t at *
 have fin:∀ (q1:HP) {r:List HP} {h:NN.H},Tr (q1::cmC c k F1 X::pt bR (.cells A23 false (rL g))::pt bO (.cells Aj3 false (ow.map int))::p::r) h
   (bnd (A7 Bj1 [P0 c,int 0,int t,int t] h) fun r_6 hv_19=>aAgg r_6 fun x_18=>nw (.cells L8 false [int 0,int 0,.slice none 0 0,.bool false]) hv_19 fun b_4 hv_20=>ck (List.length x_18=4) (pAgg ⟨b_4,0,none⟩ x_18 hv_20 fun hv_21=>gInt .i64 ⟨b_4,1,none⟩ hv_21 fun x_19=>ck ((0:Int)≤t∧t<((8:Nat):Int)) (gInt .i64 ⟨bO,t.toNat,none⟩ hv_21 fun x_20=>bnd (cond ((x_19==0)==(decide (x_20>0))) (bnd (A7 A84 [] hv_21) fun r_7 hv_22=>aBool r_7 fun x_21=>some (x_21,hv_22)) (some (false,hv_21))) fun c_6 hv_23=>some (Value.bool c_6,hv_23)))) fun (v:Value) h'=>v=Value.bool true∧Own h' r:=by
  intro q1 r h
  refine Yc (Gs8 c k F1 X By0 A.c 0 t t (by omega)) ?_;rintro _ h ⟨rfl,o⟩<;>refine Jh o ?_
  rw [hd]
  by_cases h0:ow.getD t.toNat 0>0
  ·rw [if_pos h0]
   (refine Jc ?_;unhygienic intros)
   refine Yn fun b1 h=>?_
   (refine Jb ?_;unhygienic intros)
   refine Yb (Yt (by simpa using h0) ?_)
   refine Yc (E58) ?_;rintro _ h ⟨rfl,o⟩<;>refine Jh o ?_
   (refine Jb ?_;unhygienic intros)
   refine Ys fun o=>(?_:Tr _ _ _ _) o;refine Je ?_
   refine Ys fun o=>?_
   exact ⟨rfl,o.sub⟩
  ·rw [if_neg h0]
   (refine Jc ?_;unhygienic intros)
   refine Yn fun b1 h=>?_
   (refine Jb ?_;unhygienic intros)
   refine Yb (Yt (by simpa using h0) ?_)
   refine Yc (E58) ?_;rintro _ h ⟨rfl,o⟩<;>refine Jh o ?_
   (refine Jb ?_;unhygienic intros)
   refine Ys fun o=>(?_:Tr _ _ _ _) o;refine Je ?_
   refine Ys fun o=>?_
   exact ⟨rfl,o.sub⟩
 refine CtJ.of H5 fun h r=>Tr.eq (B94 ..) ?_;refine Je ?_
 (refine Jb ?_;unhygienic intros)
 refine Tr.andG (c:=decide ((i:Int)<30)) (fun hb=>?_) ?_
 ·exact Jz
 refine Yf (by simp;omega) ?_
 refine Yc (D72 c k F1 X By0 0) ?_;rintro _ h ⟨rfl,o⟩<;>refine Jh o ?_
 rw [B60 A.c (by omega),hp]
 by_cases h1:g 2>0∨g 3>0
 ·rw [show A25 (g 2) (g 3)=(pO (g 2) (g 3),1) from if_pos h1]
  dsimp only
  (refine Jc ?_;unhygienic intros)
  refine Yn fun b1 h=>?_
  (refine Jb ?_;unhygienic intros)
  have hr:(pO (g 2) (g 3)).readers=min (g 2) 1:=rfl
  have hw:(pO (g 2) (g 3)).writers=min (g 3) 1:=rfl
  by_cases h2:g 2>0
  ·refine Yb (Yt (by simpa using h2) ?_)
   refine Ys fun o=>(?_:Tr _ _ _ _) o;refine Je ?_
   refine Yb (Yf (by simp) ?_)
   refine Yb (Yt rfl ?_)
   (refine Jb ?_;unhygienic intros)
   refine Yb (Yf (by rw [hr,Q7];simp) ?_)
   (refine Jb ?_;unhygienic intros)
   refine Ys fun o=>(?_:Tr _ _ _ _) o;refine Je ?_
   refine Ys fun o=>(?_:Tr _ _ _ _) o;refine Je ?_
   refine Ys fun o=>(?_:Tr _ _ _ _) o;refine Je ?_
   refine Yf (by rw [hw,Q7];simp) ?_
   rw [ht7]
   exact fin _
  ·refine Yb (Yf (by simpa using h2) ?_)
   (refine Jb ?_;unhygienic intros)
   refine Ys fun o=>(?_:Tr _ _ _ _) o;refine Je ?_
   refine Yb (Yf (by simp;omega) ?_)
   refine Yb (Yt rfl ?_)
   (refine Jb ?_;unhygienic intros)
   refine Yb (Yf (by rw [hr,Q7];simp) ?_)
   (refine Jb ?_;unhygienic intros)
   refine Ys fun o=>(?_:Tr _ _ _ _) o;refine Je ?_
   refine Ys fun o=>(?_:Tr _ _ _ _) o;refine Je ?_
   refine Ys fun o=>(?_:Tr _ _ _ _) o;refine Je ?_
   refine Yf (by rw [hw,Q7];simp) ?_
   rw [ht7]
   exact fin _
 ·rw [show A25 (g 2) (g 3)=(.zero,0) from if_neg h1]
  dsimp only
  (refine Jc ?_;unhygienic intros)
  refine Yn fun b1 h=>?_
  (refine Jb ?_;unhygienic intros)
  refine Yb (Yf (by simp;omega) ?_)
  (refine Jb ?_;unhygienic intros)
  refine Ys fun o=>(?_:Tr _ _ _ _) o;refine Je ?_
  refine Yb (Yf (by simp;omega) ?_)
  refine Yb (Yf rfl ?_)
  refine Ys fun o=>(?_:Tr _ _ _ _) o;refine Je ?_
  refine Ys fun o=>(?_:Tr _ _ _ _) o;refine Je ?_
  refine Yf rfl ?_
  rw [ht7]
  exact fin _
theorem H12 (X:CX) (i fd:Int):∃ n e:Int,(D27 X i fd).1=E7 n e false:=by
 unfold D27
 repeat' split
 all_goals first|exact Ds5 ..|exact ⟨_,_,rfl⟩
theorem Hw6 (nc:Nat) (X:CX) (i fd to:Int):∃ n e:Int,(B59 nc X i fd to).1=E7 n e false:=by
 unfold B59
 repeat' split
 all_goals first|exact Ds5 ..|exact ⟨_,_,rfl⟩
theorem Hr9 (k c bR bO:Nat) (p:HP) (a:Option Addr) (ro:Bool) (cc:Nat) (to:Int) (l:List Int) [ks:IsSl p a ro B2 1 l.length cc (l.map int)]:∀ (m i:Nat),i+m=30→Di7 k c bR bO p a l.length cc to i:=by
 intro m
 induction m with
 | zero =>
  intro i hi X ow h8 g A I
  exact E49 k c bR bO p a l.length cc to i (by omega) X ow h8 g A I
 | succ m ihm =>
  intro i hi X ow h8 g A I
  by_cases hg:i<l.length∧i<30
  case neg=>exact E49 k c bR bO p a l.length cc to i hg X ow h8 g A I
  have ih:=ihm (i+1) (by omega)
  have hx:=Hh4 (l:=l) (i:=i) hg.1
  generalize l.getD i 0=x at hx
  have hfd:0≤B4 .i64 (Int.fdiv (B4 .i64 x 65535) (2 ^ 2)) 7∧B4 .i64 (Int.fdiv (B4 .i64 x 65535) (2 ^ 2)) 7<8:=by rw [Gs0];omega
  have hon:0≤B4 .i64 (Int.fdiv (B4 .i64 x 65535) (2 ^ 5)) 7∧B4 .i64 (Int.fdiv (B4 .i64 x 65535) (2 ^ 5)) 7<8:=by rw [Gs0];omega
  refine CtJ.of H5 fun h r=>Tr.eq (B94 ..) ?_;refine Je ?_
  (refine Jb ?_;unhygienic intros)
  refine Tr.andG (c:=decide ((i:Int)<30)) (fun hb=>?_) ?_
  ·exact Jz
  refine Yt (by simp;omega) ?_
  (refine Jb ?_;unhygienic intros;repeat(refine Gw ?_;rintro px rfl;refine Jb ?_;unhygienic intros))
  generalize B4 .i64 (Int.fdiv (B4 .i64 x 65535) (2 ^ 2)) 7=fd at *
  generalize B4 .i64 (Int.fdiv (B4 .i64 x 65535) (2 ^ 5)) 7=on at *
  generalize B4 .i64 (B4 .i64 x 65535) 3=kind at *
  have hog:=Bh5 h8 (j:=fd.toNat) (by omega)
  have hrg:=I.rng fd.toNat
  by_cases h0:kind=0
  ·refine Yt (by simpa using h0) ?_
   obtain ⟨d1,d2⟩:=A.dup (i:=0) (by omega) fd
   refine Yc (H93 c k F1 X By0 A.c 0 fd (by omega)) ?_;rintro _ h ⟨rfl,o⟩<;>refine Jh o ?_
   generalize (D27 X 0 fd).2=X' at d2 ⊢
   obtain ⟨y,z,he⟩:=H12 X 0 fd
   have H:=fun b1=>Hq7 k c bR bO b1 p _ l.length cc to i hg.2 ih X' ow h8 g I fd hfd d2 8 0 rfl (by simp)
   rw [← d1] at H
   rw [he] at H ⊢
   (refine Jc ?_;unhygienic intros)
   refine Yn fun b1 h=>?_
   (refine Jb ?_;unhygienic intros)
   exact Yr (H b1) fun v h q=>q
  refine Yf (by simpa using h0) ?_
  by_cases h1:kind=1
  ·refine Yt (by simpa using h1) ?_
   obtain ⟨d1,d2⟩:=A.dup2 (i:=0) (by omega) fd on
   refine Yc (Gs8 c k F1 X By0 A.c 0 fd on (by omega)) ?_;rintro _ h ⟨rfl,o⟩<;>refine Jh o ?_
   generalize (B59 3 X 0 fd on).2=X' at d2 ⊢
   obtain ⟨y,z,he⟩:=Hw6 3 X 0 fd on
   have H:=fun b1 want hw=>Hr0 k c bR bO b1 p _ l.length cc to i hg.2 ih X' ow h8 g I fd on hfd hon want hw d2
   rw [← d1] at H
   rw [he] at H ⊢
   (refine Jc ?_;unhygienic intros)
   refine Yn fun b1 h=>?_
   (refine Jb ?_;unhygienic intros)
   by_cases h2:ow.getD fd.toNat 0=0
   ·refine Yt (by simpa using h2) ?_
    exact Yr (H b1 109 (if_pos h2).symm) fun v h q=>q
   ·refine Yf (by simpa using h2) ?_
    exact Yr (H b1 0 (if_neg h2).symm) fun v h q=>q
  refine Yf (by simpa using h1) ?_
  obtain ⟨d1,d2⟩:=A.closeFd (i:=0) (by omega) fd
  refine Yc (Ej7 c k F1 X By0 A.c 0 fd (by omega)) ?_;rintro _ h ⟨rfl,o⟩<;>refine Jh o ?_
  rw [d1]
  generalize (Ae2 3 X 0 fd).2=X' at d2 ⊢
  by_cases h2:ow.getD fd.toNat 0>0
  ·rw [G97 I hfd h2] at d2 ⊢
   have I2:Own8 (ow.set fd.toNat 0) (rr g (ow.getD fd.toNat 0) (-1)):=I.set (by omega) (w:=0) (by omega) fun v h1 h2=>by
    simp only [rr]
    repeat' split
    all_goals omega
   have H:=Au4 k c bR bO p _ l.length cc to i hg.2 ih X' _ (by rw [List.length_set];exact h8) _ d2 I2 3 0 rfl
   have hs:=Gf8 h8 (j:=fd.toNat) (by omega) 0
   have hnn:=I.nn (v:=ow.getD fd.toNat 0) (by omega)
   have hrg2:=Eo2 (g:=g) (v:=ow.getD fd.toNat 0) (by omega)
   have hrs:=E96 (g:=g) (v:=ow.getD fd.toNat 0) (d:=-1) (by omega)
   clear d2 I2 d1
   generalize ow.getD fd.toNat 0=v at *
   have e1:IntKind.wrap .i64 (v-1)=v-1:=by rw [A6];omega
   have e2:IntKind.wrap .i64 (g v-1)=g v+-1:=by rw [A6];omega
   rw [← e2] at hrs
   (refine Jc ?_;unhygienic intros)
   refine Yn fun b1 h=>?_
   (refine Jb ?_;unhygienic intros)
   refine Yf (by simpa using h2) ?_
   (refine Jb ?_;unhygienic intros)
   refine Yt (by simpa using h2) ?_
   (refine Jb ?_;unhygienic intros)
   rw [e1]
   (refine Jb ?_;unhygienic intros)
   refine S4 [1,1,1,1] 1 rfl rfl ?_
   exact Yr H fun v h q=>q
  ·rw [En9 (by omega)] at d2 ⊢
   have H:=Au4 k c bR bO p _ l.length cc to i hg.2 ih X' ow h8 g d2 I 3 0 rfl
   (refine Jc ?_;unhygienic intros)
   refine Yn fun b1 h=>?_
   (refine Jb ?_;unhygienic intros)
   refine Yf (by simpa using h2) ?_
   (refine Jb ?_;unhygienic intros)
   refine Yf (by simpa using h2) ?_
   refine S4 [1,1,1,1] 1 rfl rfl ?_
   exact Yr H fun v h q=>q
theorem Hi6 (p:HP) (a:Option Addr) (ro:Bool) (cc:Nat) (to:Int) (l:List Int) [ks:IsSl p a ro B2 1 l.length cc (l.map int)]:Ct A7 B0 [.slice a l.length cc,int to] [p] fun v own=>v=.bool true∧own []:=by
 have I0:Own8 ow0 (fun _=>1):=⟨rfl,fun j=>by
  match j with
  | 0|1|2|3|4|5|6|7=>simp [ow0]
  | n+8=>simp [ow0],fun v h1 h2=>by
  have:v=1∨v=2∨v=3:=by omega
  rcases this with rfl|rfl|rfl<;>rfl⟩
 refine Ct.of H5 rfl fun h r=>Tr.eq (E68 ..) ?_;refine Je ?_
 refine Yc (Gy4) ?_;rintro _ h ⟨a1,rfl,o⟩<;>refine Jh o ?_
 (refine Ja ?_;unhygienic intros)
 refine Yc (Hc7 a1) ?_
 rintro _ h ⟨k,c,w,m,K',rfl,o⟩
 refine Jh o ?_
 (refine Ja ?_;unhygienic intros)
 refine Yc (Gt4 c k F1 X1 By0 E08 0 (by omega)) ?_;rintro _ h ⟨rfl,o⟩<;>refine Jh o ?_
 rw [Hv9,show (A27 X1 0).2=XD from rfl]
 (refine Jb ?_;unhygienic intros)
 refine Yf rfl ?_
 refine Yn fun bR h=>?_
 (refine Jc ?_;unhygienic intros)
 refine Yn fun bO h=>?_
 (refine Jd ?_;unhygienic intros)
 refine (?_:Tr (pt bO (.cells Aj3 false (ow0.map int))::pt bR (.cells A23 false (rL fun _=>1))::cmC c k F1 XD::rkC w K'::rcC m w 0 (Bp8 K0 0) []::p::r) _ _ _)
 refine S4 [2,1,0,2] 2 rfl rfl ?_
 exact Yr (Hr9 k c bR bO p a ro cc to l 30 0 rfl XD ow0 rfl (fun _=>1) Ho2 I0) fun v h q=>q
end Go.EQ

set_option maxRecDepth 100000
namespace Go.EQ
open Go Go.NN Go.Proofs Go.ChangeShapes Go.WideShapes Go.RowKit
theorem H91:∀ f,(cutsOf f).globs=0:=Ek9 H68 (by kernel_rfl)
theorem H87:∀ f,(cutsOf f).globs≤PR.globals.size:=fun f=>by rw [H91 f];exact Nat.zero_le _
theorem H77:PR.follows .mixedOrders=true:=by kernel_rfl
theorem If4:laidOutB PR=true:=by kernel_rfl
theorem Ih0:ownKnob PR.godebug=none:=by kernel_rfl
end Go.EQ

set_option maxRecDepth 100000
namespace Go.EQ
open Go Go.NN Go.Proofs Go.Proofs.YthhmplobccgeiaaGreat Go.ChangeShapes Go.WideShapes Go.RowKit
theorem H92 {H:Type} {enc:TypeId × Value→H} {W:World} {v0 v1:Value} {d0 d1:DataW H} {p0 p1:List MemPlace} {b0:Nat} (k0:Value.okWide PR W .any b0 O2 v0) (k1:Value.okWide PR W .any b0 B2 v1)
  (h0:DataW.Trod enc PR W 0 (fun _=>true) true O2 v0 d0 p0) (h1:DataW.Trod enc PR W 0 (fun _=>true) true B2 v1 d1 p1) :
  Calls PR B0 #[v0,v1] W fun e W'=>e=.returned (.bool true)∧Below W.heap.size W W':=by
 obtain ⟨x0,hl0,i0⟩:=(Ah1.ints (P:=PR) (W:=W) B2 He1 H69 (by kernel_rfl)).arg (G99 He1 k0) h0
 obtain ⟨x1,_,i1⟩:=Ah1.argInt H69 k1 h1
 refine (i0.app i1).run H77 H87 fun vs ps J hh r o=>?_
 obtain ⟨_,_,_,_,hv0,hp0,⟨⟨a0,c0⟩,e0a,e0b⟩,⟨e1a,e1b⟩⟩:=J
 subst e0a
 subst e0b
 subst e1a
 subst e1b
 subst hv0
 subst hp0
 have O:Own hh ([(slC true B2 1 a0 x0.length c0 (x0.map int))]++r):=by
  exact o
 obtain ⟨v,h',e,rfl,_⟩:=Hi6 (slC true B2 1 a0 x0.length c0 (x0.map int)) a0 true c0 x1 x0 hh r O
 exact ⟨h',e⟩
theorem Hz8 (os:Os) (started:os.Started) (H:Type) (enc:TypeId × Value→H) :
  ReturnsInHanded {} Tryz.checked os B0 .any (Rows.fdsDupsSpec.pre6 enc Tryz.prog Tryz.f10 Rows.fdsDupsRow.domain false) (Rows.fdsDupsSpec.post enc Tryz.prog Tryz.f10 false true false false):=by
 refine returnsInHanded_of_change (C:=Tryz.checked) Ih0 started (by kernel_rfl) Tryz.func10
  (ChangeSpec.witness6 (enc:=enc) (C:=Tryz.checked) false ⟨#[],#[.slice none 0 0,.int .i64 0],[]⟩ 8 (by kernel_rfl) (by kernel_rfl) (by kernel_rfl) (by kernel_rfl)) ?_
 intro W base args ds gs before hval hW hcnd _
 have hW':=hW
 obtain ⟨p,q,hA,hV,rfl,hfz,hnd⟩:=hW
 rw [Tryz.params10] at hA hval
 obtain ⟨v0,v1,d0,d1,p0,p1,rfl,rfl,rfl,h0,h1⟩:=trodAll_two hA
 refine (H92 (hval 0 _ v0 rfl rfl) (hval 1 _ v1 rfl rfl) h0 h1).mono fun e W' ⟨he,hb⟩=>?_
 subst he
 refine ⟨_,rfl,Hq4 If4 ?_ rfl If1 rfl (fun ds gs hl=>?_) hW' hb⟩
 ·rw [Tryz.params10];intro t ht;simp at ht;rcases ht with rfl|rfl<;>exact ⟨by kernel_rfl,of_decide_eq_true (by kernel_rfl)⟩
 ·replace hl:ds.length=2:=hl
  cases gs with
  | cons _ _=>exact .inr (by simp)
  | nil=>match ds,hl with|[_,_],_=>exact .inl rfl
theorem Ie0:Tryz.pinned.checked.prog.funcNamed Rows.fdsDupsRow.func=some B0:=by kernel_rfl
theorem Hz2:joinedFacts Tryz.pinned.checked.prog B0 Tryz.f10 Rows.fdsDupsSpec Rows.fdsDupsRow=true:=by kernel_rfl
theorem Ic5:Tryz.f10.isInstance Tryz.pinned.checked.prog Rows.fdsDupsRow.origin Rows.fdsDupsRow.targs:=of_decide_eq_true (by kernel_rfl)
theorem Ie3:Tryz.f10.isWrapper Tryz.pinned.checked.prog Rows.fdsDupsRow.wrapper Rows.fdsDupsRow.mainSum:=by unfold Func.isWrapper;first|(rw [if_pos (by decide +kernel)];kernel_rfl)|(rw [if_neg (by decide +kernel)];exact ⟨rfl,rfl⟩)
theorem FdsDups_holds:Rows.FdsDupsSaid :=
 OpenClaim.holds_of_wide B0 Tryz.f10 rfl rfl rfl rfl rfl rfl rfl ⟨rfl,rfl,rfl,rfl,rfl⟩ rfl rfl rfl rfl rfl Ie0 Tryz.func10 Hz2 Ic5 Ie3
  (fun os started H enc _=>Hz8 os started H enc)
end Go.EQ
