/- A process' children are waited for each once, with the code each ended with; no conditions. -/
import Derived.Test.YthhmplobccgeiaaGreatMg
import Derived.KernelRfl
import Derived.Test.YthhmplobccgeiaaGreatRows
set_option linter.all false
set_option maxRecDepth 10000
namespace Go.EQ
open Go Go.NN
theorem Ga4 (k:Nat) (S:KS) (A:KA):CtP B0 An5 [P0 k] [pt k (.cells D05 false (Eu5 S A))] (P0 A.s):=by
 refine CtP.of Ex0 rfl fun h r=>Tr.eq (Ey7 ..) ?_;refine Je ?_
 exact Jz
theorem Ia7 (k:Nat) (S:KS) (N:Nat) (ok:KOk N S) (env:Int):Ct B0 Br6 [P0 k,int env] [E0 k S] fun v own =>
  (A63 S.tabs env≠[]∧∃ c,v=.tuple ⟨[P0 c,int 0]⟩∧own [W0 c k env (A63 S.tabs env) [],E0 k S])∨(A63 S.tabs env=[]∧v=.tuple ⟨[.pointer none,int 1]⟩∧own [E0 k S]):=by
 refine Ct.of Gu3 rfl fun h r=>Tr.eq (Gr4 ..) ?_;refine Je ?_
 refine B8 (E0 k S) fun ⟨m,s,q,rg,ea,ec,ma,mc,ms,sa,sc,ss⟩=>?_;refine Je ?_
 (refine Jb ?_;unhygienic intros)
 refine Yb (Yf rfl ?_)
 refine Tr.pcall (Ga4 k S ⟨m,s,q,rg,ea,ec,ma,mc,ms,sa,sc,ss⟩) ?_;refine Je ?_;(refine Ja ?_;unhygienic intros)
 try dsimp only
 refine Yc (Ge6 s S.tabs env ok.space) ?_;rintro _ h ⟨a0,c0,rfl,o⟩<;>refine Jh o ?_
 (refine Ja ?_;unhygienic intros)
 refine Ys fun o=>(?_:Tr _ _ _ _) o;refine Je ?_
 by_cases hz:A63 S.tabs env=[]
 ·refine Yt (by simp [hz]) ?_
  refine B6 (E0 k S) ⟨m,s,q,rg,ea,ec,ma,mc,ms,sa,sc,ss⟩ ?_;refine Je ?_
  refine Ys fun o=>?_
  exact .inr ⟨hz,rfl,o.sub⟩
 ·refine Yf ?_ ?_
  ·rw [beq_eq_false_iff_ne]
   intro h0
   exact hz (List.eq_nil_of_length_eq_zero (by omega))
  refine Tr.pcall (Ga4 k S ⟨m,s,q,rg,ea,ec,ma,mc,ms,sa,sc,ss⟩) ?_;refine Je ?_;(refine Ja ?_;unhygienic intros)
  try dsimp only
  refine Yc (Ge6 s S.tabs env ok.space) ?_;rintro _ h ⟨a1,c1,rfl,o⟩<;>refine Jh o ?_
  (refine Jc ?_;unhygienic intros)
  refine Yn fun mb h=>?_
  refine Yn fun c h=>?_
  refine B6 (E0 k S) ⟨m,s,q,rg,ea,ec,ma,mc,ms,sa,sc,ss⟩ ?_;refine Je ?_
  refine E4 (W0 c k env (A63 S.tabs env) []) (a1,c1,mb) [1,2,1] rfl ?_;refine Je ?_
  refine Ys fun o=>?_
  exact .inl ⟨hz,c,rfl,o.sub⟩
def A84:PlanS:=⟨[false,false],[(0,1),(1,0)],5⟩
theorem H54:Ct B0 By0 [] [] fun v own=>∃ A,v=.agg ⟨Eu2 A84 A⟩∧own (Dk1 A84 A):=by
 refine Ct.of G66 rfl fun h r=>Tr.eq (Gx8 ..) ?_;refine Je ?_
 (refine Jc ?_;unhygienic intros;rename H=>h)
 refine Yn fun b h=>?_
 refine Yn fun b1 h=>?_
 refine Yn fun b2 h=>?_
 (refine Ja ?_;unhygienic intros;rename H=>h)
 refine Af7 0 rfl 2 2 rfl (by omega) ?_
 refine Af7 1 rfl 1 2 rfl (by omega) ?_
 refine Je ?_
 refine Ys fun o=>?_
 exact ⟨⟨some ⟨b1,0,none⟩,2,some ⟨b2,0,none⟩,2⟩,rfl,(show Own h (slC false B39 2 (some ⟨b2,0,none⟩) A84.brs.length 2 (A84.brs.flatMap brL)::slC false D39 1 (some ⟨b1,0,none⟩) A84.bad.length 2 (A84.bad.map Value.bool)::_) from o).sub⟩
def Ah2:BootS:=El3 A84
theorem Gy1:Bp0 Ah2=true:=by kernel_rfl
theorem E15:Small Ah2:=by
 have e:Ah2=⟨[20,20],[0,0,0,0,0,0,0,0,0,1,1,1,1,1,1,1,1,1],[[0],[1]],5,[⟨0,0,0,492,[0]⟩,⟨1,0,0,492,[1]⟩,⟨0,8,0,40,[0,1]⟩,⟨1,9,0,40,[1,0]⟩]⟩:=by kernel_rfl
 rw [e]
 exact ⟨by simp [B4],by simp [B4],by simp [B4]⟩
theorem Bs8:Ah2=⟨[20,20],[0,0,0,0,0,0,0,0,0,1,1,1,1,1,1,1,1,1],[[0],[1]],5,[⟨0,0,0,492,[0]⟩,⟨1,0,0,492,[1]⟩,⟨0,8,0,40,[0,1]⟩,⟨1,9,0,40,[1,0]⟩]⟩:=by kernel_rfl
theorem Ie2:RBoot Ah2 (Ai0 Ah2.frames):=by
 rw [Bs8]
 refine ⟨by simp,by simp,by simp,fun x hx=>?_,fun x hx=>?_⟩
 ·simp only [List.mem_cons,List.not_mem_nil,or_false] at hx
  rcases hx with rfl|rfl|rfl|rfl<;>simp [B4]
 ·simp only [List.mem_cons,List.not_mem_nil,or_false] at hx
  rcases hx with rfl|rfl|rfl|rfl<;>simp [Ai0]
def S00:KS:=Dz3 Ah2
theorem G23:KOk 0 S00:=Id8 Gy1 E15
def wrS (S:KS) (cap:Int) (b:List UInt8):KS:=(Z1 S 0 ⟨2,cap,0,0,0,0,b⟩).2
def S0:KS:=wrS S00 256 Ac6
theorem Il1:(Z1 S00 0 ⟨2,256,0,0,0,0,Ac6⟩).1.1=0:=by kernel_rfl
theorem H87:A63 S00.tabs 0=[256,257,258]:=by kernel_rfl
def wrR (K:RKS) (cap:Int) (b:List UInt8):RKS:={ K with R:=(Ah7 K.R 0 cap 0 b).2 }
def K0:RKS:=wrR (Df2 Ah2) 256 Ac6
theorem D73:RKOk (Df2 Ah2)∧(Df2 Ah2).B=Ah2:=Ie7 (by rw [Bs8];simp) (by rw [Bs8];simp)
theorem E88 {K:RKS} (k:RKOk K) (cap:Int) (b:List UInt8):RKOk (wrR K cap b):=Ic5 k 0 cap 0 b
theorem H21:B14 K0 0≠[]:=by
 have:B14 K0 0=[256,257,258]:=by kernel_rfl
 rw [this];simp
theorem Ab3:Ac6.length=492:=by kernel_rfl
theorem Dp0 {l:List HP} {h:H} {α:Type} {Q:α→H→Prop} {x:Option (α × H)} (i:Nat) {b n:Nat} {cs:List Value} (hi:l[i]?=some (pt b (.cells A5 false cs))) (hn:cs.length=n) (t:Tr (l.set i (slC false A5 1 (some (L8 b)) n n cs)) h x Q):Tr l h x Q:=fun o=>by
 refine t (Own.back (h:=h) hi ?_)
 have o1:=o.front hi
 refine Own.slShut (pre:=[]) (post:=[]) (by simpa using o1) ⟨by omega,Nat.le_refl _,by simp,by simp,by simp,by omega,by simp⟩
theorem Ic4 (A:PlA):Ct B0 Bh2 [.agg ⟨Eu2 A84 A⟩] (Dk1 A84 A) fun v own =>
  ∃ k c w m,v=.tuple ⟨[P0 k,P0 c,P0 w,P0 m]⟩∧own [E0 k S0,W0 c k 0 [256,257,258] [],rkC w K0,rcC m w 0 (B14 K0 0) []]:=by
 have hB:El3 A84=Ah2:=rfl
 obtain ⟨ba,bc,ra,rc⟩:=A
 refine Ct.of G00 rfl fun h r=>Tr.eq (G13 ..) ?_;refine Je ?_
 refine Yn fun b0 h=>?_
 (refine Ja ?_;unhygienic intros)
 refine Yc (Ib0 A84 ⟨ba,bc,ra,rc⟩ (by simp [A84]) (by simp [A84])) ?_;rintro _ h ⟨A,kA,rfl,o⟩<;>refine Jh o ?_
 rw [hB] at kA ⊢
 obtain ⟨fa,fc,ea,ec,sa,sc,ss,ha,hc,hs⟩:=A
 (refine Jc ?_;unhygienic intros)
 refine Yn fun b1 h=>?_
 (refine Ja ?_;unhygienic intros)
 have J:=Ii9 false Ah2 ⟨fa,fc,ea,ec,sa,sc,ss,ha,hc,hs⟩ kA E15
 simp only [Gy1,if_true] at J
 refine Yc (J) ?_;rintro _ h ⟨k,rfl,o⟩<;>refine Jh o ?_
 (refine Jb ?_;unhygienic intros)
 refine Yb (Yf rfl ?_)
 refine Ys fun o=>(?_:Tr _ _ _ _) o;refine Je ?_
 refine Yf rfl ?_
 (refine Ja ?_;unhygienic intros)
 refine Yc (Ha6 Ah2 ⟨fa,fc,ea,ec,sa,sc,ss,ha,hc,hs⟩ kA (by rw [Bs8];simp) Ie2) ?_;rintro _ h ⟨w,rfl,o⟩<;>refine Jh o ?_
 (refine Ja ?_;unhygienic intros)
 refine Yc (Ia7 k (Dz3 Ah2) 0 G23 0) ?_
 rintro v h (⟨hz,c,rfl,o⟩|⟨hz,rfl,o⟩)
 case inr=>exact absurd hz (by rw [show Dz3 Ah2=S00 from rfl,H87];simp)
 rw [show Dz3 Ah2=S00 from rfl,H87] at o
 refine (?_:Tr _ _ _ _) o
 refine Je ?_
 (refine Jb ?_;unhygienic intros)
 refine Yb (Yf rfl ?_)
 refine Ys fun o=>(?_:Tr _ _ _ _) o;refine Je ?_
 refine Yf rfl ?_
 refine Yc (Gn7) ?_;rintro _ h ⟨rfl,o⟩<;>refine Jh o ?_
 (refine Jc ?_;unhygienic intros)
 refine Tr.ck (by rw [A59,Ab3];simp [B4]) ?_
 rw [A59,Ab3]
 refine Yn fun b2 h=>?_
 refine Dp0 (n:=492) 0 rfl (by rw [U4,show (bs Ac6).data.toList=Ac6 from rfl,Ab3]) ?_
 refine Je ?_
 have J2:=D65 k S00 0 G23 (by omega) 0 ⟨2,256,0,0,0,0,Ac6⟩ (some (L8 b2)) 492 false (show ((2:Int)≠5) by decide)
 simp only [Ab3] at J2
 refine Bv7 J2 [2,0] rfl ?_
 rintro _ h ⟨y,d,rfl,o⟩
 rw [Il1]
 rw [show (Z1 S00 0 ⟨2,256,0,0,0,0,Ac6⟩).2=S0 from rfl] at o
 refine (?_:Tr _ _ _ _) o
 refine Je ?_
 (refine Jc ?_;unhygienic intros)
 refine Yf rfl ?_
 refine Tr.ck (by simp [B4]) ?_
 refine Yn fun b3 h=>?_
 refine Dp0 (n:=492) 0 rfl (by rw [U4,Ab3]) ?_
 refine Je ?_
 have J3:=Ew7 w (Df2 Ah2) D73.1 0 (by rw [D73.2,Bs8];simp) ⟨2,256,0,0,0,0,Ac6⟩ rfl (by rw [Ab3];simp [B4]) (slC false A5 1 (some (L8 b3)) Ac6.length 492 (A0 Ac6)) (some (L8 b3)) 492 false
 simp only [Ab3] at J3
 refine Yc J3 ?_
 rintro _ h ⟨rfl,o⟩
 rw [show ({ Df2 Ah2 with R:=(Ah7 (Df2 Ah2).R ((0:Nat):Int) 256 0 Ac6).2 }:RKS)=K0 from rfl] at o
 refine (?_:Tr _ _ _ _) o
 refine Je ?_
 (refine Ja ?_;unhygienic intros)
 refine Yc (Gl4 w K0 (E88 D73.1 256 Ac6) 0 (by show (0:Nat)<(Df2 Ah2).B.envs.length;rw [D73.2,Bs8];simp)) ?_
 rintro v h (⟨_,m,rfl,o⟩|⟨hn,rfl,o⟩)
 case inr=>exact absurd hn H21
 refine (?_:Tr _ _ _ _) o
 refine Je ?_
 (refine Ja ?_;unhygienic intros)
 refine Ys fun o=>?_
 exact ⟨k,c,w,m,rfl,o.sub⟩
def B01 (mem:List UInt8) (rg:Rg):List (List UInt8):=rg.map fun p=>slice mem p.1 p.2
theorem Gv6 {mem:List UInt8} {rg:Rg} {j lo n:Nat} (h:rg[j]?=some (lo,n)):(B01 mem rg)[j]?=some (slice mem lo n):=by unfold B01;rw [List.getElem?_map,h];rfl
theorem G65 {mem:List UInt8} {rg:Rg} (h:∀ (j lo n:Nat),rg[j]?=some (lo,n)→lo+n≤mem.length):Fit mem.length rg (B01 mem rg):=⟨by simp [B01],fun j lo n hj=>⟨h j lo n hj,slice mem lo n,Gv6 hj,Gp9 (h j lo n hj)⟩⟩
theorem H45 {mem:List UInt8} {rg:Rg} (k:RgOk rg) (h:∀ (j lo n:Nat),rg[j]?=some (lo,n)→lo+n≤mem.length):A05 mem rg (B01 mem rg)=mem:=by
 have f:=G65 h
 refine List.ext_getElem? fun i=>?_
 by_cases ho:∃ (j lo n:Nat),rg[j]?=some (lo,n)∧lo≤i∧i<lo+n
 ·obtain ⟨j,lo,n,hj,h1,h2⟩:=ho
  obtain ⟨i',rfl⟩:∃ i',i=lo+i':=⟨i-lo,by omega⟩
  rw [B79 f k j lo n _ hj (Gv6 hj) i' (by omega),Bx5,if_pos (by omega)]
 ·exact Ds8 f i fun j lo n hj=>by
   by_cases hh:lo≤i∧i<lo+n
   ·exact absurd ⟨j,lo,n,hj,hh.1,hh.2⟩ ho
   ·omega
theorem FrOk.room {F:Fr} {j lo n:Nat} (f:Fit F.S.mem.length F.rg (B01 F.S.mem F.rg)) (h:F.rg[j]?=some (lo,n)):lo+n≤F.S.mem.length:=(f.each j lo n h).1
theorem Fr.at_cut {F:Fr} (k:FrOk F) (h:∀ (j lo n:Nat),F.rg[j]?=some (lo,n)→lo+n≤F.S.mem.length):F.at (B01 F.S.mem F.rg)=F.S:=by
 unfold Fr.at;rw [H45 k.dj h];rfl
theorem Own.cmTake {r:List HP} {h:H} (c k:Nat) (F:Fr) (bad:List RecS) (ok:FrOk F) (hr:∀ (j lo n:Nat),F.rg[j]?=some (lo,n)→lo+n≤F.S.mem.length) (o1:Own h (E0 k F.S::W0 c k F.env F.caps bad::r)):Own h (cmC c k F ⟨B01 F.S.mem F.rg,bad⟩::r):=by
 refine Own.inex (f:=fun u:Unit=>sl (cmF c k F ⟨B01 F.S.mem F.rg,bad⟩)) () (Own.group (l:=cmF c k F ⟨B01 F.S.mem F.rg,bad⟩) ?_)
 show Own h (E0 k (F.at (B01 F.S.mem F.rg))::W0 c k F.env F.caps bad::pu _::r)
 rw [Fr.at_cut ok hr]
 have o2:=Own.inpure (show Fit F.S.mem.length F.rg (B01 F.S.mem F.rg) from G65 hr) o1
 exact o2.picks [1,1,0] rfl
theorem Ig4 {l r:List HP} {h:H} {α:Type} {Q:α→H→Prop} {x:Option (α × H)} (c k:Nat) (F:Fr) (X:CX) [tk:Take (cmC c k F X) l r]
  (t:Fit F.S.mem.length F.rg X.m→Tr (E0 k (F.at X.m)::W0 c k F.env F.caps X.bad::r) h x Q):Tr l h x Q:=fun o=>by
 have o1:Own h (cmC c k F X::r):=o.perm tk.pm
 obtain ⟨u,o2⟩:=Own.ex (f:=fun u:Unit=>sl (cmF c k F X)) o1
 have o3:Own h (E0 k (F.at X.m)::W0 c k F.env F.caps X.bad::pu (Fit F.S.mem.length F.rg X.m)::r):=Own.join o2
 have f:=(o3.front (i:=2) rfl).pure
 exact t f (o3.front (i:=2) rfl).tail
theorem Hm2 {S:KS} {env cap obj:Int} {lo n:Nat} {e1 e2:Int} (hg:Bs3 S.tabs env cap=some ⟨obj,3,0,(n:Int),e1,e2⟩) (h0:0≤obj) (hr:S.regs[obj.toNat]?=some ((lo:Int),(n:Int))) (hl:lo+n≤65536) :
  ∀ (a m:Nat) (right:Int),right=1∨right=2→a+m≤n→P6 S.tabs S.regs env cap right a m=(((lo+a:Nat):Int),0):=by
 intro a m right hri ha
 have hlt:=(List.getElem?_eq_some_iff.1 hr).1
 unfold P6
 rw [hg]
 have b1:(P5 .i64 3 1==0)=false:=by kernel_rfl
 have b2:(P5 .i64 3 2==0)=false:=by kernel_rfl
 have hb:¬ ((P5 .i64 3 right==0)=true):=by rcases hri with rfl|rfl<;>simp [b1,b2]
 simp only
 have h2:(decide ((a:Int)<0) || decide ((m:Int)<0) || decide ((a:Int)>(n:Int)) || decide ((m:Int)>IntKind.wrap .i64 ((n:Int)-a)) || decide (obj<0) || decide (obj≥S.regs.length))=false:=by
  simp only [Bool.or_eq_false_iff,decide_eq_false_iff_not,A8];omega
 have h3:(decide (IntKind.wrap .i64 (0+(a:Int))>(n:Int)) || decide ((m:Int)>IntKind.wrap .i64 (IntKind.wrap .i64 ((n:Int)-0)-a)))=false:=by
  simp only [Bool.or_eq_false_iff,decide_eq_false_iff_not,A8];omega
 have h4:IntKind.wrap .i64 (IntKind.wrap .i64 ((lo:Int)+0)+a)=((lo+a:Nat):Int):=by simp only [A8];omega
 rw [if_neg hb]
 simp only [h2,hr,h3,h4,Bool.false_eq_true,if_false]
structure Like (S:KS):Prop where
 ok:KOk 0 S
 tabs:S.tabs=S00.tabs
 regs:S.regs=S00.regs
 envs:S.envs=S00.envs
 mem:S.mem.length=2560
theorem Ee9 {S:KS} (k:Like S) {m:List UInt8} (h:m.length=2560):Like (Bo9 S m) :=
 ⟨⟨k.ok.envs,k.ok.tabs,k.ok.space,k.ok.quota,by show m.length≤65536;omega,k.ok.regs,k.ok.may,k.ok.mayl,k.ok.nsect,k.ok.sects,k.ok.now⟩,k.tabs,k.regs,k.envs,h⟩
theorem Ii2:Like S00:=⟨G23,rfl,rfl,rfl,by kernel_rfl⟩
theorem Ib9 (S:KS) (k:Like S) (cap:Int) (b:List UInt8):Like (wrS S cap b):=by
 unfold wrS Z1
 split
 ·exact k
 ·exact Ee9 k (by rw [Hn0];exact k.mem)
theorem Du9:Like S0:=Ib9 S00 Ii2 256 Ac6
def rgP (s:Nat):Rg:=[(1280*s,492),(512,40),(1856,40)]
def frP (S:KS) (s:Nat) (env:Int):Fr:=⟨S,0,env,[256,257,258],rgP s⟩
theorem G38:S00.regs=[(0,492),(1280,492),(512,40),(1856,40)]:=by kernel_rfl
theorem Ii1:S00.envs.length=18:=by kernel_rfl
structure EnvP (s:Nat) (env:Int):Prop where
 hs:s<2
 he:0≤env∧env<18
 a:Bs3 S00.tabs env 256=some ⟨s,3,0,492,0,0⟩
 b:Bs3 S00.tabs env 257=some ⟨2,3,0,40,0,0⟩
 c:Bs3 S00.tabs env 258=some ⟨3,3,0,40,0,0⟩
theorem G04:EnvP 0 0:=⟨by omega,by omega,by kernel_rfl,by kernel_rfl,by kernel_rfl⟩
theorem D78 {s j lo n:Nat} (h:(rgP s)[j]?=some (lo,n)):(j=0∧lo=1280*s∧n=492)∨(j=1∧lo=512∧n=40)∨(j=2∧lo=1856∧n=40):=by
 unfold rgP at h
 match j,h with
 | 0,h=>simp at h;omega
 | 1,h=>simp at h;omega
 | 2,h=>simp at h;omega
 | j+3,h=>simp at h
theorem D90 {S:KS} (k:Like S) {s:Nat} (hs:s<2) (env:Int):∀ (j lo n:Nat),(frP S s env).rg[j]?=some (lo,n)→lo+n≤(frP S s env).S.mem.length:=by
 intro j lo n h
 have hm:=k.mem
 have:=D78 h
 show lo+n≤S.mem.length
 omega
theorem G44 {S:KS} (k:Like S) {s:Nat} {env:Int} (e:EnvP s env):FrOk (frP S s env):=by
 have hs:=e.hs;have he:=e.he
 refine ⟨k.ok,by simp [frP],by simp [frP],by simp [frP],by simp [frP,rgP],?_,?_,?_,⟨1280*s,rfl⟩,?_⟩
 ·show ¬ (env<0∨env≥(S.envs.length:Int))
  rw [k.envs,Ii1];omega
 ·intro j cap lo n hc hr
  show ∀ (a m:Nat) (right:Int),right=1∨right=2→a+m≤n→P6 S.tabs S.regs env cap right a m=_
  have hg:=D78 hr
  rcases hg with ⟨rfl,rfl,rfl⟩|⟨rfl,rfl,rfl⟩|⟨rfl,rfl,rfl⟩
  ·cases hc
   refine Hm2 (obj:=s) (e1:=0) (e2:=0) (by rw [k.tabs];exact e.a) (by omega) ?_ (by omega)
   rw [k.regs,G38,Int.toNat_natCast]
   match s,hs with
   | 0,_=>rfl
   | 1,_=>rfl
  ·cases hc
   exact Hm2 (obj:=2) (e1:=0) (e2:=0) (by rw [k.tabs];exact e.b) (by omega) (by rw [k.regs,G38];rfl) (by omega)
  ·cases hc
   exact Hm2 (obj:=3) (e1:=0) (e2:=0) (by rw [k.tabs];exact e.c) (by omega) (by rw [k.regs,G38];rfl) (by omega)
 ·intro i j lo n lo' n' hij hi hj
  have h1:=D78 hi;have h2:=D78 hj
  omega
 ·intro j lo n h0 h
  have:=D78 h;omega
abbrev F0:Fr:=frP S0 0 0
def X0:CX:=⟨B01 S0.mem (rgP 0),[]⟩
theorem H94:FrOk F0:=G44 Du9 G04
theorem H60 (A:PlA):Ct B0 Bh2 [.agg ⟨Eu2 A84 A⟩] (Dk1 A84 A) fun v own =>
  ∃ k c w m,v=.tuple ⟨[P0 k,P0 c,P0 w,P0 m]⟩∧own [cmC c k F0 X0,rkC w K0,rcC m w 0 (B14 K0 0) []]:=by
 intro h r o
 obtain ⟨v,h',e,k,c,w,m,hv,o2⟩:=Ic4 A h r o
 refine ⟨v,h',e,k,c,w,m,hv,?_⟩
 exact Own.cmTake c k F0 [] H94 (D90 Du9 (by omega) 0) o2
theorem Hq2 {y m:Int} (h:0≤y):Int.tmod y m=y%m:=Int.tmod_eq_emod_of_nonneg h
theorem Aa5 {x:Int} (h:0≤x∧x<256):((b8 x).toNat:Int)=x:=by rw [← Bg1,Di0];omega
theorem Gv5 {p:PipeS} (h:okP p=true):U7 (J7 p)=(p,1):=by
 have hk:=h
 simp only [okP,Bool.and_eq_true,decide_eq_true_eq] at h
 have e:Bd8 (J7 p)=p:=by
  obtain ⟨a,b,c,d,l,hl⟩:=p
  simp only at h
  have h1:=Aa5 (x:=a) (by omega);have h2:=Aa5 (x:=b) (by omega);have h3:=Aa5 (x:=c) (by omega);have h4:=Aa5 (x:=d) (by omega)
  simp [Bd8,J7,Ah5,Ee6 hl]
  exact ⟨h1,h2,h3,h4⟩
 have hz:(J7 p).all (·==0)=false:=by simp [J7,Ah5]
 unfold U7 isP
 rw [hz,e,hk]
 simp
theorem E68 {l b:List UInt8} {a c n:Nat} (h:a+b.length≤l.length) (hd:c+n≤a∨a+b.length≤c):slice (L6 l a b) c n=slice l c n:=by
 refine List.ext_getElem? fun i=>?_
 rw [Bx5,Bx5]
 split
 ·rw [Bk4 h,if_neg (by omega)]
 ·rfl
theorem Ga1 {l b:List UInt8} {a:Nat} (h:a+b.length≤l.length):slice (L6 l a b) a b.length=b:=by
 refine List.ext_getElem? fun i=>?_
 rw [Bx5]
 split
 ·rw [Bk4 h,if_pos (by omega)];congr 1;omega
 ·rw [List.getElem?_eq_none (by omega)]
abbrev H93:List Int:=[256,257,258]
structure InS (p:ProcS):Prop where
 a:0≤p.pending∧p.pending≤65535
 b:0≤p.mask∧p.mask≤65535
 c:0≤p.ignored∧p.ignored≤65535
 d:0≤p.caught∧p.caught≤65535
theorem G05 {p:ProcS} (h:okS p=true) (r:InS p):V9 (Av9 p)=(p,1):=by
 have hk:=h
 obtain ⟨ra,rb,rc,rd⟩:=r
 have e:Bd6 (Av9 p)=p:=by
  obtain ⟨st,pa,gr,co,pe,ma,ig,ca,fds,hl⟩:=p
  simp only at ra rb rc rd
  unfold okS at h
  simp only [Bool.and_eq_true,Bool.not_eq_true',Bool.or_eq_false_iff,decide_eq_false_iff_not,List.any_eq_false] at h
  match fds,hl with
  | [f0,f1,f2,f3,f4,f5,f6,f7],hl =>
   have hf:=h.2.2.1
   simp at hf
   have two_b:∀ n:Int,0≤n∧n≤65535→((hi2 n).toNat:Int)*256+((lo2 n).toNat:Int)=n:=fun n hn=>by
    unfold hi2 lo2
    rw [if_pos hn,if_pos hn,Aa5 (by omega),← Bg1,Di0];omega
   have g0:=h.1
   simp only [Bd6,Av9,D88,two]
   simp
   refine ⟨Aa5 (by omega),Aa5 (by omega),Aa5 (by omega),Aa5 (by omega),two_b _ ra,two_b _ rb,two_b _ rc,two_b _ rd,Aa5 (by omega),Aa5 (by omega),Aa5 (by omega),Aa5 (by omega),Aa5 (by omega),Aa5 (by omega),Aa5 (by omega),Aa5 (by omega)⟩
 have hz:(Av9 p).all (·==0)=false:=by
  simp [Av9,D88]
 unfold V9 isS
 rw [hz,e,hk]
 simp
theorem Hz1:D82 0 0=true:=by kernel_rfl
def stR (kind:Int) (l:List UInt8):Int:=if kind=1 then (V9 l).2 else if kind=2 then (Y6 l).2 else if kind=5 then (Au1 l).2 else (U7 l).2
def rd (X:CX) (r:RecS):List UInt8 :=
 match H0 X.m.length r with
 | some (j,a,n)=>slice (X.m.getD j []) a n
 | none=>[]
structure Clean (nc:Nat) (X:CX):Prop where
 len:X.m.length=nc
 pos:0<nc
 bad:X.bad=[]
 own:(X.m.getD 0 []).length=492
 brs:∀ j,0<j→j<nc→(X.m.getD j []).length=40
 ok:∀ r:RecS,1≤r.kind→r.kind≤5→0≤r.index→r.index<W8 nc r.kind→stR r.kind (rd X r)≠2
structure Rin (nc:Nat) (r:RecS):Prop where
 a:1≤r.kind
 b:r.kind≤5
 c:0≤r.index
 d:r.index<W8 nc r.kind
theorem Rin.place {nc:Nat} {r:RecS} (h:Rin nc r) (hn:0<nc):∃ j a,H0 nc r=some (j,a,Q9 r.kind)∧j<nc∧(j=0→a+Q9 r.kind≤492)∧(0<j→a=0∧Q9 r.kind=40):=by
 obtain ⟨h1,h2,h3,h4⟩:=h
 obtain ⟨k,i⟩:=r
 simp only at h1 h2 h3 h4
 have hk:k=1∨k=2∨k=3∨k=4∨k=5:=by omega
 unfold H0 Q9
 simp only
 rw [if_neg (by omega)]
 rcases hk with rfl|rfl|rfl|rfl|rfl
 ·exact ⟨0,_,rfl,hn,fun _=>by simp [W8] at h4 ⊢;omega,fun h=>by omega⟩
 ·exact ⟨0,_,rfl,hn,fun _=>by simp [W8] at h4 ⊢;omega,fun h=>by omega⟩
 ·simp only [W8] at h4
  by_cases h5:i<4
  ·exact ⟨0,_,by simp [h5];rfl,hn,fun _=>by simp;omega,fun h=>by omega⟩
  ·exact ⟨i.toNat-3,0,by simp [h5],by simp at h4;omega,fun h=>by omega,fun _=>⟨rfl,rfl⟩⟩
 ·exact ⟨0,_,rfl,hn,fun _=>by simp,fun h=>by omega⟩
 ·exact ⟨0,_,rfl,hn,fun _=>by simp,fun h=>by omega⟩
theorem H42 {nc:Nat} {r r':RecS} (h:Rin nc r) (h':Rin nc r') (ne:r≠r') {j a n j' a' n':Nat} (e:H0 nc r=some (j,a,n)) (e':H0 nc r'=some (j',a',n')):j≠j'∨a+n≤a'∨a'+n'≤a:=by
 obtain ⟨h1,h2,h3,h4⟩:=h
 obtain ⟨g1,g2,g3,g4⟩:=h'
 obtain ⟨k,i⟩:=r
 obtain ⟨k',i'⟩:=r'
 simp only at h1 h2 h3 h4 g1 g2 g3 g4
 have ne':k≠k'∨i≠i':=by
  by_cases hk:k=k'
  ·right;intro hi;exact ne (by rw [hk,hi])
  ·exact .inl hk
 unfold H0 at e e'
 simp only at e e'
 rw [if_neg (by omega)] at e e'
 unfold W8 at h4 g4
 have hk:k=1∨k=2∨k=3∨k=4∨k=5:=by omega
 have hk':k'=1∨k'=2∨k'=3∨k'=4∨k'=5:=by omega
 have fin:∀ {x y:Nat × Nat × Nat},some x=some y→x=y:=fun h=>by cases h;rfl
 rcases hk with rfl|rfl|rfl|rfl|rfl<;>rcases hk' with rfl|rfl|rfl|rfl|rfl<;>simp at e e' h4 g4 ne'<;>(try split at e)<;>(try split at e')<;>(try simp at e e')<;>omega
def Bt6 (X:CX) (r:RecS) (b:List UInt8):CX :=
 match H0 X.m.length r with
 | some (j,a,_)=>{ X with m:=X.m.set j (L6 (X.m.getD j []) a b) }
 | none=>X
theorem E69 (l:List (List UInt8)) (j j':Nat) (x:List UInt8) (h:j<l.length):(l.set j x).getD j' []=if j'=j then x else l.getD j' []:=by
 rw [List.getD_eq_getElem?_getD,List.getD_eq_getElem?_getD,List.getElem?_set]
 by_cases hj:j=j'
 ·subst hj;simp [h]
 ·rw [if_neg hj,if_neg (fun e=>hj e.symm)]
section
variable {nc:Nat} {X:CX} (c:Clean nc X) {r r':RecS} (h:Rin nc r) (h':Rin nc r')
include c h
theorem Hw0:rdX X r=some (rd X r):=by
 obtain ⟨j,a,e,_⟩:=h.place c.pos
 unfold rdX rd
 rw [c.len,e]
 simp [c.bad]
theorem Bx7 (b:List UInt8):wrX X r b true=(true,Bt6 X r b):=by
 obtain ⟨j,a,e,_⟩:=h.place c.pos
 unfold wrX Bt6
 rw [c.len,e]
 simp [c.bad]
theorem Eq4 {j a n:Nat} (e:H0 nc r=some (j,a,n)):a+n≤(X.m.getD j []).length∧j<X.m.length∧n=Q9 r.kind:=by
 obtain ⟨j',a',e',hj,h0,h1⟩:=h.place c.pos
 rw [e] at e';cases e'
 rw [c.len]
 by_cases hz:j=0
 ·subst hz;rw [c.own];exact ⟨h0 rfl,hj,rfl⟩
 ·rw [c.brs j (by omega) hj]
  have:=h1 (by omega)
  exact ⟨by omega,hj,rfl⟩
include h'
theorem Ae9 {b:List UInt8} (hb:b.length=Q9 r.kind):rd (Bt6 X r b) r'=if r'=r then b else rd X r':=by
 obtain ⟨j,a,e,_⟩:=h.place c.pos
 obtain ⟨j',a',e',_⟩:=h'.place c.pos
 have p:=Eq4 c h e
 have p':=Eq4 c h' e'
 have es:Bt6 X r b={ X with m:=X.m.set j (L6 (X.m.getD j []) a b) }:=by unfold Bt6;rw [c.len,e]
 have el:(Bt6 X r b).m.length=nc:=by rw [es];simp [c.len]
 unfold rd
 rw [el,e',c.len,e',es]
 simp only
 rw [E69 _ _ _ _ p.2.1]
 by_cases hr:r'=r
 ·subst hr
  rw [e] at e';cases e'
  rw [if_pos rfl,if_pos rfl]
  have:=Ga1 (l:=X.m.getD j []) (b:=b) (a:=a) (by omega)
  rwa [hb] at this
 ·rw [if_neg hr]
  by_cases hj:j'=j
  ·subst hj
   rw [if_pos rfl]
   have dj:=H42 h' h hr e' e
   exact E68 (by omega) (by omega)
  ·rw [if_neg hj]
end
theorem Bx8 {nc:Nat} {X:CX} (c:Clean nc X) {r:RecS} (h:Rin nc r) {b:List UInt8} (hb:b.length=Q9 r.kind) (hs:stR r.kind b≠2):Clean nc (Bt6 X r b):=by
 obtain ⟨j,a,e,_⟩:=h.place c.pos
 have p:=Eq4 c h e
 have es:Bt6 X r b={ X with m:=X.m.set j (L6 (X.m.getD j []) a b) }:=by unfold Bt6;rw [c.len,e]
 refine ⟨by rw [es];simp [c.len],c.pos,by rw [es];exact c.bad,?_,?_,?_⟩
 ·rw [es];simp only
  rw [E69 _ _ _ _ p.2.1]
  split
  ·rename_i h0;subst h0;rw [Af2 (by omega)];exact c.own
  ·exact c.own
 ·intro i h0 h1
  rw [es];simp only
  rw [E69 _ _ _ _ p.2.1]
  split
  ·rename_i h2;subst h2;rw [Af2 (by omega)];exact c.brs i h0 h1
  ·exact c.brs i h0 h1
 ·intro r' h1 h2 h3 h4
  rw [Ae9 c h ⟨h1,h2,h3,h4⟩ hb]
  split
  ·rename_i hr;rw [hr];exact hs
  ·exact c.ok r' h1 h2 h3 h4
theorem Dd4 {α:Type} (dec:List UInt8→α × Int) (z:α) {nc:Nat} {X:CX} (c:Clean nc X) {r:RecS} (h:Rin nc r) (hd:(dec (rd X r)).2=stR r.kind (rd X r)):U8 dec z X r=(dec (rd X r),X):=by
 unfold U8
 rw [Hw0 c h]
 simp only
 rw [if_neg (by rw [hd];exact c.ok r h.a h.b h.c h.d)]
abbrev vS (X:CX) (i:Int):ProcS × Int:=V9 (rd X ⟨1,i⟩)
abbrev vF (X:CX) (i:Int):FileS × Int:=Y6 (rd X ⟨2,i⟩)
abbrev vP (X:CX) (i:Int):PipeS × Int:=U7 (rd X ⟨3,i⟩)
theorem Bh0 {nc:Nat} {i:Int} (h:0≤i∧i<8):Rin nc ⟨1,i⟩:=⟨by simp,by simp,h.1,h.2⟩
theorem Bi2 {nc:Nat} {i:Int} (h:0≤i∧i<12):Rin nc ⟨2,i⟩:=⟨by simp,by simp,h.1,h.2⟩
theorem Bg5 {nc:Nat} {i:Int} (h:0≤i∧i<3+nc):Rin nc ⟨3,i⟩:=⟨by simp,by simp,h.1,h.2⟩
theorem Aj9 {nc:Nat} {X:CX} (c:Clean nc X) {i:Int} (h:0≤i∧i<8):D96 X i=(vS X i,X):=Dd4 V9 .zero c (Bh0 h) rfl
theorem Bp1 {nc:Nat} {X:CX} (c:Clean nc X) {i:Int} (h:0≤i∧i<12):Ed6 X i=(vF X i,X):=Dd4 Y6 .zero c (Bi2 h) rfl
theorem E11 {nc:Nat} {X:CX} (c:Clean nc X) {i:Int} (h:0≤i∧i<3+nc):Dj5 X i=(vP X i,X):=Dd4 U7 .zero c (Bg5 h) rfl
theorem Dk0 {f:CX→Int→CX} {X:CX}:∀ (m:Nat) (i:Int),(∀ j,i≤j→j<i+m→f X j=X)→Dl1 f m i X=X
 | 0,_,_=>rfl
 | m+1,i,h=>by
  unfold Dl1
  rw [h i (by omega) (by omega)]
  exact Dk0 m (i+1) fun j h1 h2=>h j (by omega) (by omega)
theorem Ed7 {nc:Nat} {X:CX} (c:Clean nc X):Gc2 X=X:=by
 have h3:Gb5 X=X:=by
  unfold Gb5
  have e1:Eu9 X=(U7 (rd X ⟨4,0⟩),X):=Dd4 U7 .zero c ⟨by simp,by simp,by simp,by simp [W8]⟩ rfl
  have e2:Er6 X=(Au1 (rd X ⟨5,0⟩),X):=Dd4 Au1 0 c ⟨by simp,by simp,by simp,by simp [W8]⟩ rfl
  rw [e1];simp only;rw [e2]
 have hl:=c.len
 unfold Gc2 lookN G26 G60
 rw [Dk0 8 0 (fun j h1 h2=>by rw [Aj9 c (by omega)])]
 rw [Dk0 12 0 (fun j h1 h2=>by rw [Bp1 c (by omega)])]
 rw [Dk0 (3+X.m.length) 0 (fun j h1 h2=>by rw [E11 c (by omega)]),h3]
theorem Gy3 {f:FileS} (h:okF f=true):Y6 (Ai4 f)=(f,1):=by
 have hk:=h
 simp only [okF,Bool.and_eq_true,Bool.or_eq_true,decide_eq_true_eq,beq_iff_eq,bne_iff_ne] at h
 have e:B81 (Ai4 f)=f:=by
  obtain ⟨a,b,c,d⟩:=f
  simp only at h
  have h1:=Aa5 (x:=a) (by omega);have h2:=Aa5 (x:=b) (by omega);have h3:=Aa5 (x:=c) (by omega);have h4:=Aa5 (x:=d) (by omega)
  simp [B81,Ai4,A68]
  exact ⟨h1,h2,h3,h4⟩
 have hz:(Ai4 f).all (·==0)=false:=by simp [Ai4,A68]
 unfold Y6 isF
 rw [hz,e,hk]
 simp
section
variable {nc:Nat} {X:CX} (c:Clean nc X)
include c
abbrev Bj3 (X:CX) (i:Int) (p:ProcS):CX:=Bt6 X ⟨1,i⟩ (Av9 p)
abbrev B61 (X:CX) (i:Int) (f:FileS):CX:=Bt6 X ⟨2,i⟩ (Ai4 f)
abbrev B78 (X:CX) (i:Int):CX:=Bt6 X ⟨1,i⟩ (List.replicate 24 0)
theorem P7 {i:Int} (h:0≤i∧i<8) {p:ProcS} (ok:okS p=true) (r:InS p) :
  B77 X i p=(true,Bj3 X i p)∧Clean nc (Bj3 X i p)∧(∀ j:Int,0≤j∧j<8→vS (Bj3 X i p) j=if j=i then (p,1) else vS X j)∧(∀ j:Int,0≤j∧j<12→vF (Bj3 X i p) j=vF X j)∧(∀ j:Int,0≤j∧j<3+nc→vP (Bj3 X i p) j=vP X j):=by
 have hl:(Av9 p).length=Q9 (1:Int):=by rw [D91];rfl
 refine ⟨by unfold B77;rw [ok];exact Bx7 c (Bh0 h) _,Bx8 c (Bh0 h) hl (by show (V9 (Av9 p)).2≠2;rw [G05 ok r];simp),fun j hj=>?_,fun j hj=>?_,fun j hj=>?_⟩
 ·show V9 (rd _ _)=_
  rw [Ae9 c (Bh0 h) (Bh0 hj) hl]
  by_cases e:j=i
  ·rw [if_pos (by rw [e]),if_pos e];exact G05 ok r
  ·rw [if_neg (by simp [e]),if_neg e]
 ·show Y6 (rd _ _)=_
  rw [Ae9 c (Bh0 h) (Bi2 hj) hl,if_neg (by simp)]
 ·show U7 (rd _ _)=_
  rw [Ae9 c (Bh0 h) (Bg5 hj) hl,if_neg (by simp)]
theorem As7 {i:Int} (h:0≤i∧i<12) {f:FileS} (ok:okF f=true) :
  B89 X i f=(true,B61 X i f)∧Clean nc (B61 X i f)∧(∀ j:Int,0≤j∧j<8→vS (B61 X i f) j=vS X j)∧(∀ j:Int,0≤j∧j<12→vF (B61 X i f) j=if j=i then (f,1) else vF X j)∧(∀ j:Int,0≤j∧j<3+nc→vP (B61 X i f) j=vP X j):=by
 have hl:(Ai4 f).length=Q9 (2:Int):=by rw [Dp7];rfl
 refine ⟨by unfold B89;rw [ok];exact Bx7 c (Bi2 h) _,Bx8 c (Bi2 h) hl (by show (Y6 (Ai4 f)).2≠2;rw [Gy3 ok];simp),fun j hj=>?_,fun j hj=>?_,fun j hj=>?_⟩
 ·show V9 (rd _ _)=_
  rw [Ae9 c (Bi2 h) (Bh0 hj) hl,if_neg (by simp)]
 ·show Y6 (rd _ _)=_
  rw [Ae9 c (Bi2 h) (Bi2 hj) hl]
  by_cases e:j=i
  ·rw [if_pos (by rw [e]),if_pos e];exact Gy3 ok
  ·rw [if_neg (by simp [e]),if_neg e]
 ·show U7 (rd _ _)=_
  rw [Ae9 c (Bi2 h) (Bg5 hj) hl,if_neg (by simp)]
theorem Ai3 {i:Int} (h:0≤i∧i<8) :
  Bk1 X ⟨1,i⟩=(true,B78 X i)∧Clean nc (B78 X i)∧(∀ j:Int,0≤j∧j<8→vS (B78 X i) j=if j=i then (.zero,0) else vS X j)∧(∀ j:Int,0≤j∧j<12→vF (B78 X i) j=vF X j)∧(∀ j:Int,0≤j∧j<3+nc→vP (B78 X i) j=vP X j):=by
 have hl:(List.replicate 24 (0:UInt8)).length=Q9 (1:Int):=rfl
 refine ⟨Bx7 c (Bh0 h) _,Bx8 c (Bh0 h) hl (by show (V9 (List.replicate 24 0)).2≠2;rw [show (V9 (List.replicate 24 0))=(.zero,0) from rfl];simp),fun j hj=>?_,fun j hj=>?_,fun j hj=>?_⟩
 ·show V9 (rd _ _)=_
  rw [Ae9 c (Bh0 h) (Bh0 hj) hl]
  by_cases e:j=i
  ·rw [if_pos (by rw [e]),if_pos e];rfl
  ·rw [if_neg (by simp [e]),if_neg e]
 ·show Y6 (rd _ _)=_
  rw [Ae9 c (Bh0 h) (Bi2 hj) hl,if_neg (by simp)]
 ·show U7 (rd _ _)=_
  rw [Ae9 c (Bh0 h) (Bg5 hj) hl,if_neg (by simp)]
theorem Dx5 {i:Int} (h:0≤i∧i<8):((vS X i).2=0∧(vS X i).1=.zero)∨((vS X i).2=1∧okS (vS X i).1=true):=by
 have:=c.ok ⟨1,i⟩ (by simp) (by simp) h.1 h.2
 have hk:(vS X i).2≠2:=this
 unfold vS V9 at hk ⊢
 split
 ·exact .inl ⟨rfl,rfl⟩
 ·split
  ·rename_i h2
   unfold isS at h2
   simp only [Bool.and_eq_true] at h2
   exact .inr ⟨rfl,h2.1⟩
  ·rename_i h1 h2;simp [h1,h2] at hk
theorem Gu5 {i:Int} (h:0≤i∧i<12):((vF X i).2=0∧(vF X i).1=.zero)∨((vF X i).2=1∧okF (vF X i).1=true):=by
 have:=c.ok ⟨2,i⟩ (by simp) (by simp) h.1 h.2
 have hk:(vF X i).2≠2:=this
 unfold vF Y6 at hk ⊢
 split
 ·exact .inl ⟨rfl,rfl⟩
 ·split
  ·rename_i h2
   unfold isF at h2
   simp only [Bool.and_eq_true] at h2
   exact .inr ⟨rfl,h2.1⟩
  ·rename_i h1 h2;simp [h1,h2] at hk
end
abbrev Q8 (n e:Int) (b:Bool):List Value:=[int n,int e,.slice none 0 0,.bool b]
theorem Bw1 (e:Int):Ct B0 Ab1 [int e] [] fun v own=>v=.agg ⟨Q8 0 e false⟩∧own []:=by
 refine Ct.of Hc4 rfl fun h r=>Tr.eq (G89 ..) ?_;refine Je ?_
 (refine Ja ?_;unhygienic intros)
 refine Ys fun o=>?_
 exact ⟨rfl,o.sub⟩
theorem Bw6 (ok:Bool) (n:Int):Ct B0 Aa9 [.bool ok,int n] [] fun v own=>v=.agg ⟨if ok then Q8 n 0 false else Q8 0 105 false⟩∧own []:=by
 refine Ct.of Hb5 rfl fun h r=>Tr.eq (Hd8 ..) ?_;refine Je ?_
 cases ok with
 | true =>
  (refine Ja ?_;unhygienic intros)
  refine Ys fun o=>?_
  exact ⟨rfl,o.sub⟩
 | false =>
  (refine Ja ?_;unhygienic intros)
  refine Yc (Bw1 105) ?_;rintro _ h ⟨rfl,o⟩<;>(refine Jf o ?_;unhygienic intros)
  refine Ys fun o=>?_
  exact ⟨rfl,o.sub⟩
def J6 (X:CX) (i:Int):ProcS × Int:=if (vS X i).2=1∧(vS X i).1.state=1 then ((vS X i).1,0) else (.zero,105)
theorem D66 (b k:Nat) (F:Fr) (X:CX) (ok:FrOk F) {nc:Nat} (c:Clean nc X) (i:Int) (hi:0≤i∧i<8):Ct B0 Ar6 [P0 b,int i] [cmC b k F X] fun v own=>v=.tuple ⟨[.agg ⟨D3 (J6 X i).1⟩,int (J6 X i).2]⟩∧own [cmC b k F X]:=by
 refine Ct.of G95 rfl fun h r=>Tr.eq (Ha1 ..) ?_;refine Je ?_
 (refine Jc ?_;unhygienic intros)
 refine Yn fun b0 h=>?_
 refine Yc (Gk3 b k F X ok) ?_;rintro _ h ⟨rfl,o⟩<;>refine Jh o ?_
 rw [Ed7 c]
 (refine Ja ?_;unhygienic intros)
 refine Yc (Ba1 b k F X ok i) ?_;rintro _ h ⟨rfl,o⟩<;>refine Jh o ?_
 rw [Aj9 c hi]
 dsimp only
 (refine Jc ?_;unhygienic intros)
 refine Yn fun b1 h=>?_
 (refine Jb ?_;unhygienic intros)
 refine Tr.orG (c:=(vS X i).1.state != 1) (fun hb=>?_) ?_
 ·exact Jz
 unfold J6
 by_cases h1:(vS X i).2=1∧(vS X i).1.state=1
 ·rw [if_pos h1]
  refine Yf (by simp [h1.1,h1.2]) ?_
  (refine Ja ?_;unhygienic intros)
  refine Ys fun o=>?_
  exact ⟨rfl,o.sub⟩
 ·rw [if_neg h1]
  refine Yt (by simp;by_cases h2:(vS X i).2=1<;>simp [h2] at h1 ⊢;exact h1) ?_
  (refine Ja ?_;unhygienic intros)
  refine Ys fun o=>?_
  exact ⟨rfl,o.sub⟩
def Z2 (X:CX):Nat→Int→Int
 | 0,_=>-1
 | m+1,i=>if (vS X i).2=0 then i else Z2 X m (i+1)
theorem Hq9 (b k:Nat) (F:Fr) (X:CX) (ok:FrOk F) {nc:Nat} (c:Clean nc X):∀ (m:Nat) (i:Int),0≤i→i+m=8 →
  CtJ E3 Ar1 Bl6 [(0,P0 b),(6,int i)] [cmC b k F X] fun v own=>v=int (Z2 X m i)∧own [cmC b k F X]:=by
 intro m
 induction m with
 | zero =>
  intro i h0 hi
  refine CtJ.of Dz6 fun h r=>Tr.eq (D79 ..) ?_;refine Je ?_
  refine Yf (by simp;omega) ?_
  refine Ys fun o=>?_
  exact ⟨rfl,o.sub⟩
 | succ m ih =>
  intro i h0 hi
  have e1:IntKind.wrap .i64 (i+1)=i+1:=by rw [A8];omega
  refine CtJ.of Dz6 fun h r=>Tr.eq (D79 ..) ?_;refine Je ?_
  refine Yt (by simp;omega) ?_
  refine Yc (Ba1 b k F X ok i) ?_;rintro _ h ⟨rfl,o⟩<;>refine Jh o ?_
  rw [Aj9 c (by omega)]
  dsimp only
  (refine Jc ?_;unhygienic intros)
  refine Yn fun b1 h=>?_
  (refine Ja ?_;unhygienic intros)
  rw [show Z2 X (m+1) i=if (vS X i).2=0 then i else Z2 X m (i+1) from rfl]
  by_cases h1:(vS X i).2=0
  ·rw [if_pos h1]
   refine Yt (by simpa using h1) ?_
   refine Ys fun o=>?_
   exact ⟨rfl,o.sub⟩
  ·rw [if_neg h1,e1]
   refine Yf (by simpa using h1) ?_
   refine H5 [1] 1 rfl rfl ?_
   refine Yr (ih (i+1) (by omega) (by omega)) ?_
   intro v h q
   exact q
theorem Id4 (b k:Nat) (F:Fr) (X:CX) (ok:FrOk F) {nc:Nat} (c:Clean nc X):Ct B0 Ar1 [P0 b] [cmC b k F X] fun v own=>v=int (Z2 X 8 0)∧own [cmC b k F X]:=by
 refine Ct.of Dz6 rfl fun h r=>Tr.eq (Hc3 ..) ?_;refine Je ?_
 refine Yr (Hq9 b k F X ok c 8 0 (by omega) (by omega)) ?_
 intro v h q
 exact q
def Bl2:List Int→List Int→List Int
 | [],m=>m
 | f::l,m=>Bl2 l (if f>0 then m.set (f-1).toNat (m.getD (f-1).toNat 0+1) else m)
def Ac5 (n:Int) (m:List Int):Prop:=m.length=12∧∀ x ∈ m,0≤x∧x≤n
theorem Ac5.get {n:Int} {m:List Int} (h:Ac5 n m) {j:Nat} (hj:j<12):0≤m.getD j 0∧m.getD j 0≤n:=by
 have hl:=h.1
 have e:m[j]?=some m[j]:=List.getElem?_eq_getElem (by omega)
 rw [List.getD_eq_getElem?_getD,e]
 exact h.2 _ (List.getElem_mem _)
theorem Ac5.set {n:Int} {m:List Int} (h:Ac5 n m) {j:Nat} (hj:j<12):Ac5 (n+1) (m.set j (m.getD j 0+1)):=by
 refine ⟨by simpa using h.1,fun x hx=>?_⟩
 rcases List.mem_or_eq_of_mem_set hx with h2|rfl
 ·have:=h.2 x h2;omega
 ·have:=h.get hj;omega
theorem Ac5.up {n:Int} {m:List Int} (h:Ac5 n m):Ac5 (n+1) m:=⟨h.1,fun x hx=>by have:=h.2 x hx;omega⟩
theorem H71 {m:List Int} {j:Nat} (h:j<m.length) (v:Int):Gf8 (m.map int) j (int v)=some ((m.set j v).map int):=by
 rw [Gf8,show Nat.blt j (m.map int).length=true from Nat.ble_eq_true_of_le (by simp;omega),List.map_set];rfl
def Bm4 (l:List Int):Prop:=∀ f ∈ l,0≤f∧f≤12
theorem Es5 {l:List Int} {i:Nat} (h:i<l.length):(l.map int)[i]?=some (int (l.getD i 0)):=by rw [List.getElem?_map,O6 0 h];rfl
theorem Ha2 (b k:Nat) (F:Fr) (X:CX) (b0 b1:Nat) (p:ProcS) (hf:Bm4 p.fds) (Φ:Value→(List HP→Prop)→Prop) (M:List Int)
  (next:CtJ E3 G2 Al6 [(0,P0 b),(5,P0 b1),(31,.agg ⟨p.fds.map int⟩),(32,int 0)] [pt b1 (.cells Ee3 false (M.map int)),cmC b k F X] Φ) :
  ∀ (m i:Nat) (more:List Int),i+m=8→Ac5 i more→Bl2 (p.fds.drop i) more=M →
  CtJ E3 G2 Az0 [(0,P0 b),(3,P0 b0),(5,P0 b1),(17,.agg ⟨p.fds.map int⟩),(18,int i)] [pt b1 (.cells Ee3 false (more.map int)),pt b0 (.cells D2 false (D3 p)),cmC b k F X] Φ:=by
 intro m
 induction m with
 | zero =>
  intro i more hi hm hM
  have:i=8:=by omega
  subst this
  rw [show p.fds.drop 8=[] from List.drop_eq_nil_of_le (by rw [p.len];omega),show Bl2 [] more=more from rfl] at hM
  subst hM
  refine CtJ.of At6 fun h r=>Tr.eq (Dx0 ..) ?_;refine Je ?_
  refine Yf (by simp) ?_
  (refine Ja ?_;unhygienic intros)
  refine H5 [0,1] 1 rfl rfl ?_
  refine Yr next ?_
  intro v h q
  exact q
 | succ m ih =>
  intro i more hi hm hM
  have e1:IntKind.wrap .i64 ((i:Int)+1)=((i+1:Nat):Int):=by rw [A8];omega
  have hil:i<p.fds.length:=by rw [p.len];omega
  have hg:=Es5 hil
  have hd:p.fds.drop i=p.fds.getD i 0::p.fds.drop (i+1):=by
   rw [List.drop_eq_getElem_cons hil,List.getD_eq_getElem?_getD,List.getElem?_eq_getElem hil];rfl
  have hr:0≤p.fds.getD i 0∧p.fds.getD i 0≤12:=hf _ (by
   rw [List.getD_eq_getElem?_getD,List.getElem?_eq_getElem hil];exact List.getElem_mem _)
  rw [hd] at hM
  generalize p.fds.getD i 0=f at hg hr hM
  rw [show Bl2 (f::p.fds.drop (i+1)) more=Bl2 (p.fds.drop (i+1)) (if f>0 then more.set (f-1).toNat (more.getD (f-1).toNat 0+1) else more) from rfl] at hM
  refine CtJ.of At6 fun h r=>Tr.eq (Dx0 ..) ?_;refine Je ?_
  refine Yt (by simp;omega) ?_
  rw [e1]
  refine Tr.ck (by omega) ?_
  rw [Int.toNat_natCast]
  (refine Ja ?_;unhygienic intros)
  by_cases hz:f>0
  ·have e2:IntKind.wrap .i64 (f-1)=f-1:=by rw [A8];omega
   have hj:(f-1).toNat<12:=by omega
   have hm2:=hm.get hj
   have e3:IntKind.wrap .i64 (more.getD (f-1).toNat 0+1)=more.getD (f-1).toNat 0+1:=by rw [A8];omega
   have hgm:=Es5 (l:=more) (i:=(f-1).toNat) (by rw [hm.1];exact hj)
   rw [if_pos hz] at hM
   rw [e2]
   refine Yt (by simpa using hz) ?_
   (refine Ja ?_;unhygienic intros)
   rw [e3]
   refine Gs (fun h=>?_) (by exact H71 (by rw [hm.1];exact hj) _)
   refine Yr (ih (i+1) (more.set (f-1).toNat (more.getD (f-1).toNat 0+1)) (by omega) (by rw [show ((i+1:Nat):Int)=(i:Int)+1 by omega];exact hm.set hj) hM) ?_
   intro v h q
   exact q
  ·rw [if_neg hz] at hM
   refine Yf (by simpa using hz) ?_
   refine Yr (ih (i+1) more (by omega) (by simpa using hm.up) hM) ?_
   intro v h q
   exact q
def Ah8 (X:CX) (more:List Int):List Int→Int
 | []=>0
 | f::l=>if f=0 then Ah8 X more l else if (vF X (f-1)).2≠1 then 105 else if (vF X (f-1)).1.refs+more.getD (f-1).toNat 0>64 then 123 else Ah8 X more l
theorem Ev7 {f:FileS} (h:okF f=true):1≤f.refs∧f.refs≤64:=by
 simp only [okF,Bool.and_eq_true,Bool.or_eq_true,decide_eq_true_eq,beq_iff_eq,bne_iff_ne] at h
 omega
theorem Gh4 {nc:Nat} {X:CX} (c:Clean nc X) {i:Int} (h:0≤i∧i<12):0≤(vF X i).1.refs∧(vF X i).1.refs≤64:=by
 rcases Gu5 c h with ⟨_,h1⟩|⟨_,h1⟩
 ·rw [h1];simp
 ·have:=Ev7 h1;omega
theorem Hf0 (b k:Nat) (F:Fr) (X:CX) (ok:FrOk F) {nc:Nat} (c:Clean nc X) (b1:Nat) (fds more:List Int) (hl:fds.length=8) (hf:Bm4 fds) (hm:Ac5 8 more) (Φ:Value→(List HP→Prop)→Prop)
  (bad:∀ (e:Int),Ah8 X more fds=e→e≠0→∀ h r,Own h (cmC b k F X::r)→Φ (int e) fun l=>Own h (l++r))
  (next:Ah8 X more fds=0→CtJ E3 G2 Am3 [(0,P0 b),(57,.agg ⟨more.map int⟩),(58,int 0)] [cmC b k F X] Φ) :
  ∀ (m i:Nat),i+m=8→Ah8 X more fds=Ah8 X more (fds.drop i) →
  CtJ E3 G2 Al6 [(0,P0 b),(5,P0 b1),(31,.agg ⟨fds.map int⟩),(32,int i)] [pt b1 (.cells Ee3 false (more.map int)),cmC b k F X] Φ:=by
 intro m
 induction m with
 | zero =>
  intro i hi he
  have:i=8:=by omega
  subst this
  rw [show fds.drop 8=[] from List.drop_eq_nil_of_le (by omega),show Ah8 X more []=0 from rfl] at he
  have hl12:B32 (more.map int) 0 12=some (more.map int):=Bw5 (by simp [hm.1])
  refine CtJ.of At6 fun h r=>Tr.eq (Dw0 ..) ?_;refine Je ?_
  refine Yf (by simp) ?_
  refine Gs ?_ (by exact hl12)
  refine H5 [1] 1 rfl rfl ?_
  refine Yr (next he) ?_
  intro v h q
  exact q
 | succ m ih =>
  intro i hi he
  have e1:IntKind.wrap .i64 ((i:Int)+1)=((i+1:Nat):Int):=by rw [A8];omega
  have hil:i<fds.length:=by omega
  have hg:=Es5 hil
  have hd:fds.drop i=fds.getD i 0::fds.drop (i+1):=by
   rw [List.drop_eq_getElem_cons hil,List.getD_eq_getElem?_getD,List.getElem?_eq_getElem hil];rfl
  have hr:0≤fds.getD i 0∧fds.getD i 0≤12:=hf _ (by
   rw [List.getD_eq_getElem?_getD,List.getElem?_eq_getElem hil];exact List.getElem_mem _)
  rw [hd] at he
  generalize fds.getD i 0=f at hg hr he
  rw [show Ah8 X more (f::fds.drop (i+1))=if f=0 then Ah8 X more (fds.drop (i+1)) else if (vF X (f-1)).2≠1 then 105 else if (vF X (f-1)).1.refs+more.getD (f-1).toNat 0>64 then 123 else Ah8 X more (fds.drop (i+1)) from rfl] at he
  refine CtJ.of At6 fun h r=>Tr.eq (Dw0 ..) ?_;refine Je ?_
  refine Yt (by simp;omega) ?_
  rw [e1]
  refine Tr.ck (by omega) ?_
  rw [Int.toNat_natCast]
  (refine Ja ?_;unhygienic intros)
  by_cases hz:f=0
  ·rw [if_pos hz] at he
   refine Yt (by simpa using hz) ?_
   refine Yr (ih (i+1) (by omega) he) ?_
   intro v h q
   exact q
  rw [if_neg hz] at he
  refine Yf (by simpa using hz) ?_
  have e2:IntKind.wrap .i64 (f-1)=f-1:=by rw [A8];omega
  have hj:(f-1).toNat<12:=by omega
  rw [e2]
  refine Yc (Dq3 b k F X ok (f-1)) ?_;rintro _ h ⟨rfl,o⟩<;>refine Jh o ?_
  rw [Bp1 c (by omega)]
  dsimp only
  (refine Jc ?_;unhygienic intros)
  refine Yn fun b2 h=>?_
  (refine Ja ?_;unhygienic intros)
  by_cases h1:(vF X (f-1)).2=1
  ·rw [if_neg (by simpa using h1)] at he
   refine Yf (by simpa using h1) ?_
   have hm2:=hm.get hj
   have hgm:=Es5 (l:=more) (i:=(f-1).toNat) (by rw [hm.1];exact hj)
   have hrf:=Gh4 c (i:=f-1) (by omega)
   have e3:IntKind.wrap .i64 ((vF X (f-1)).1.refs+more.getD (f-1).toNat 0)=(vF X (f-1)).1.refs+more.getD (f-1).toNat 0:=by rw [A8];omega
   (refine Ja ?_;unhygienic intros)
   rw [e3]
   by_cases h2:(vF X (f-1)).1.refs+more.getD (f-1).toNat 0>64
   ·rw [if_pos h2] at he
    refine Yt (by simpa using h2) ?_
    refine H5 [1] 2 rfl rfl ?_
    refine Ys fun o=>?_
    exact bad 123 he (by simp) _ _ o
   ·rw [if_neg h2] at he
    refine Yf (by simpa using h2) ?_
    refine H5 [2,1] 1 rfl rfl ?_
    refine Yr (ih (i+1) (by omega) he) ?_
    intro v h q
    exact q
  ·rw [if_pos h1] at he
   refine Yt (by simpa using h1) ?_
   refine H5 [1] 2 rfl rfl ?_
   refine Ys fun o=>?_
   exact bad 105 he (by simp) _ _ o
abbrev Bj0 (f:FileS) (n:Int):FileS:=⟨f.kind,f.pipe,f.refs+n,f.flags⟩
def Bc3 (more:List Int):Nat→Int→CX→CX
 | 0,_,X=>X
 | m+1,j,X=>Bc3 more m (j+1) (if more.getD j.toNat 0=0 then X else B61 X j (Bj0 (vF X j).1 (more.getD j.toNat 0)))
def Gi4 (more:List Int) (X:CX) (j:Int):Prop:=∀ i:Int,j≤i→i<12→more.getD i.toNat 0≠0→(vF X i).2=1∧(vF X i).1.refs+more.getD i.toNat 0≤64
theorem E50 {f:FileS} (h:okF f=true) {n:Int} (hn:1≤f.refs+n∧f.refs+n≤64):okF (Bj0 f n)=true:=by
 simp only [okF,Bool.and_eq_true,Bool.or_eq_true,decide_eq_true_eq,beq_iff_eq,bne_iff_ne] at h ⊢
 omega
theorem Gi4.step {nc:Nat} {X:CX} (c:Clean nc X) {more:List Int} (hm:Ac5 8 more) {j:Int} (h0:0≤j∧j<12) (s:Gi4 more X j) (hz:more.getD j.toNat 0≠0) :
  okF (Bj0 (vF X j).1 (more.getD j.toNat 0))=true∧Gi4 more (B61 X j (Bj0 (vF X j).1 (more.getD j.toNat 0))) (j+1):=by
 obtain ⟨s1,s2⟩:=s j (by omega) (by omega) hz
 have hg:=hm.get (j:=j.toNat) (by omega)
 have hk:okF (vF X j).1=true:=by
  rcases Gu5 c h0 with ⟨h1,_⟩|⟨_,h1⟩
  ·omega
  ·exact h1
 have hr:=Ev7 hk
 have k:=E50 hk (n:=more.getD j.toNat 0) (by omega)
 refine ⟨k,fun i h1 h2 hi=>?_⟩
 rw [(As7 c h0 k).2.2.2.1 i (by omega),if_neg (by omega)]
 exact s i (by omega) h2 hi
theorem Hb3 (b k:Nat) (F:Fr) (ok:FrOk F) {nc:Nat} (more:List Int) (hm:Ac5 8 more):∀ (m:Nat) (j:Int) (X:CX),Clean nc X→Gi4 more X j→0≤j→j+m=12 →
  CtJ E3 G2 Am3 [(0,P0 b),(57,.agg ⟨more.map int⟩),(58,int j)] [cmC b k F X] fun v own=>v=int 0∧own [cmC b k F (Bc3 more m j X)]:=by
 intro m
 induction m with
 | zero =>
  intro j X c s h0 hj
  refine CtJ.of At6 fun h r=>Tr.eq (Du2 ..) ?_;refine Je ?_
  refine Yf (by simp;omega) ?_
  refine Ys fun o=>?_
  rw [show Bc3 more 0 j X=X from rfl]
  exact ⟨rfl,o.sub⟩
 | succ m ih =>
  intro j X c s h0 hj
  have e1:IntKind.wrap .i64 (j+1)=j+1:=by rw [A8];omega
  have hg:=Es5 (l:=more) (i:=j.toNat) (by rw [hm.1];omega)
  have hm2:=hm.get (j:=j.toNat) (by omega)
  rw [show Bc3 more (m+1) j X=Bc3 more m (j+1) (if more.getD j.toNat 0=0 then X else B61 X j (Bj0 (vF X j).1 (more.getD j.toNat 0))) from rfl]
  refine CtJ.of At6 fun h r=>Tr.eq (Du2 ..) ?_;refine Je ?_
  refine Yt (by simp;omega) ?_
  rw [e1]
  (refine Ja ?_;unhygienic intros)
  by_cases hz:more.getD j.toNat 0=0
  ·rw [if_pos hz]
   refine Yt (by simpa using hz) ?_
   refine Yr (ih (j+1) X c (fun i h1 h2 h3=>s i (by omega) h2 h3) (by omega) (by omega)) ?_
   intro v h q
   exact q
  ·rw [if_neg hz]
   refine Yf (by simpa using hz) ?_
   have hrf:=Gh4 c (i:=j) (by omega)
   have e3:IntKind.wrap .i64 ((vF X j).1.refs+more.getD j.toNat 0)=(vF X j).1.refs+more.getD j.toNat 0:=by rw [A8];omega
   obtain ⟨k1,s2⟩:=s.step c hm (by omega) hz
   obtain ⟨w1,w2,_⟩:=As7 c (i:=j) (by omega) k1
   refine Yc (Dq3 b k F X ok j) ?_;rintro _ h ⟨rfl,o⟩<;>refine Jh o ?_
   rw [Bp1 c (by omega)]
   dsimp only
   (refine Jc ?_;unhygienic intros)
   refine Yn fun b2 h=>?_
   (refine Ja ?_;unhygienic intros)
   simp only [e3,List.set_cons_succ,List.set_cons_zero,List.drop_zero,List.take]
   refine Yc (E27 b k F X ok j (Bj0 (vF X j).1 (more.getD j.toNat 0))) ?_;rintro _ h ⟨rfl,o⟩<;>refine Jh o ?_
   rw [w1]
   dsimp only
   (refine Ja ?_;unhygienic intros)
   refine H5 [0] 1 rfl rfl ?_
   refine Yr (ih (j+1) _ w2 s2 (by omega) (by omega)) ?_
   intro v h q
   exact q
theorem Et0:∀ (l m:List Int) (i:Nat),Bm4 l→m.length=12→(Bl2 l m).getD i 0≠0→m.getD i 0≠0∨((i:Int)+1) ∈ l
 | [],m,i,_,_,h=>.inl h
 | f::l,m,i,hf,hm,h=>by
  have hr:=hf f (by simp)
  have hl:Bm4 l:=fun x hx=>hf x (by simp [hx])
  rw [show Bl2 (f::l) m=Bl2 l (if f>0 then m.set (f-1).toNat (m.getD (f-1).toNat 0+1) else m) from rfl] at h
  by_cases hz:f>0
  ·rw [if_pos hz] at h
   rcases Et0 l _ i hl (by simpa using hm) h with h2|h2
   ·by_cases hi:(f-1).toNat=i
    ·right
     rw [show (i:Int)+1=f by omega];simp
    ·left
     rw [List.getD_eq_getElem?_getD,List.getElem?_set_ne hi,← List.getD_eq_getElem?_getD] at h2
     exact h2
   ·exact .inr (by simp [h2])
  ·rw [if_neg hz] at h
   rcases Et0 l m i hl hm h with h2|h2
   ·exact .inl h2
   ·exact .inr (by simp [h2])
theorem Dz5:∀ (l m:List Int) (n:Int),Bm4 l→Ac5 n m→Ac5 (n+l.length) (Bl2 l m)
 | [],m,n,_,h=>by simpa [Bl2] using h
 | f::l,m,n,hf,h=>by
  have hr:=hf f (by simp)
  have hl:Bm4 l:=fun x hx=>hf x (by simp [hx])
  rw [show Bl2 (f::l) m=Bl2 l (if f>0 then m.set (f-1).toNat (m.getD (f-1).toNat 0+1) else m) from rfl]
  have e:n+((f::l).length:Int)=(n+1)+l.length:=by simp;omega
  rw [e]
  by_cases hz:f>0
  ·rw [if_pos hz];exact Dz5 l _ (n+1) hl (h.set (by omega))
  ·rw [if_neg hz];exact Dz5 l m (n+1) hl h.up
theorem Ec2 {X:CX} {more:List Int}:∀ (l:List Int),Ah8 X more l=0→∀ f ∈ l,f≠0→(vF X (f-1)).2=1∧(vF X (f-1)).1.refs+more.getD (f-1).toNat 0≤64
 | [],_,f,h,_=>by simp at h
 | g::l,h,f,hm,hf=>by
  rw [show Ah8 X more (g::l)=if g=0 then Ah8 X more l else if (vF X (g-1)).2≠1 then 105 else if (vF X (g-1)).1.refs+more.getD (g-1).toNat 0>64 then 123 else Ah8 X more l from rfl] at h
  by_cases hg:g=0
  ·rw [if_pos hg] at h
   rcases List.mem_cons.1 hm with rfl|h2
   ·exact absurd hg hf
   ·exact Ec2 l h f h2 hf
  ·rw [if_neg hg] at h
   by_cases h1:(vF X (g-1)).2=1
   ·rw [if_neg (by simpa using h1)] at h
    by_cases h2:(vF X (g-1)).1.refs+more.getD (g-1).toNat 0>64
    ·rw [if_pos h2] at h;cases h
    ·rw [if_neg h2] at h
     rcases List.mem_cons.1 hm with rfl|h3
     ·exact ⟨h1,by omega⟩
     ·exact Ec2 l h f h3 hf
   ·rw [if_pos h1] at h;cases h
abbrev Eq8:List Int:=[0,0,0,0,0,0,0,0,0,0,0,0]
theorem Ht2:Ac5 0 Eq8:=⟨rfl,fun x hx=>by simp at hx;omega⟩
abbrev Be5 (p:ProcS):List Int:=Bl2 p.fds Eq8
theorem E14 {p:ProcS} (h:Bm4 p.fds):Ac5 8 (Be5 p):=by
 have:=Dz5 p.fds Eq8 0 h Ht2
 rw [p.len] at this
 exact this
theorem G46 {X:CX} {p:ProcS} (h:Bm4 p.fds) (e:Ah8 X (Be5 p) p.fds=0):Gi4 (Be5 p) X 0:=fun i h0 h1 hi=>by
 rcases Et0 p.fds Eq8 i.toNat h rfl hi with h2|h2
 ·exfalso;apply h2
  have:i.toNat=0∨i.toNat=1∨i.toNat=2∨i.toNat=3∨i.toNat=4∨i.toNat=5∨i.toNat=6∨i.toNat=7∨i.toNat=8∨i.toNat=9∨i.toNat=10∨i.toNat=11:=by omega
  rcases this with h|h|h|h|h|h|h|h|h|h|h|h<;>rw [h]<;>rfl
 ·have:=Ec2 p.fds e _ h2 (by omega)
  rw [show ((i.toNat:Nat):Int)+1-1=i by omega] at this
  exact this
def S4 (X:CX) (p:ProcS):Int × CX:=if Ah8 X (Be5 p) p.fds=0 then (0,Bc3 (Be5 p) 12 0 X) else (Ah8 X (Be5 p) p.fds,X)
theorem H08 (b k:Nat) (F:Fr) (X:CX) (ok:FrOk F) {nc:Nat} (c:Clean nc X) (p:ProcS) (hf:Bm4 p.fds):Ct B0 G2 [P0 b,.agg ⟨D3 p⟩] [cmC b k F X] fun v own=>v=int (S4 X p).1∧own [cmC b k F (S4 X p).2]:=by
 refine Ct.of At6 rfl fun h r=>Tr.eq (Gv8 ..) ?_;refine Je ?_
 refine Yn fun b0 h=>?_
 refine Yn fun b1 h=>?_
 (refine Ja ?_;unhygienic intros)
 have hm:=E14 hf
 have L2:=Hf0 b k F X ok c b1 p.fds (Be5 p) p.len hf hm (fun v own=>v=int (S4 X p).1∧own [cmC b k F (S4 X p).2])
  (fun e he hz h r o=>by
   unfold S4
   rw [if_neg (by rw [he];exact hz),he]
   exact ⟨rfl,o⟩)
  (fun he=>by
   have J:=Hb3 b k F ok (Be5 p) hm 12 0 X c (G46 hf he) (by omega) (by omega)
   unfold S4
   rw [if_pos he]
   exact J) 8 0 rfl rfl
 refine B66 (Ha2 b k F X b0 b1 p hf _ (Be5 p) L2 8 0 Eq8 rfl (by simpa using Ht2) rfl) [0,0,0] rfl ?_
 intro v h q
 exact q
theorem Dq0 {nc:Nat} {more:List Int} (hm:Ac5 8 more):∀ (m:Nat) (j:Int) (X:CX),Clean nc X→Gi4 more X j→0≤j→j+m=12 →
  Clean nc (Bc3 more m j X)∧(∀ i:Int,0≤i∧i<8→vS (Bc3 more m j X) i=vS X i) ∧
  (∀ i:Int,0≤i∧i<12→vF (Bc3 more m j X) i=if j≤i∧more.getD i.toNat 0≠0 then (Bj0 (vF X i).1 (more.getD i.toNat 0),1) else vF X i)∧(∀ i:Int,0≤i∧i<3+nc→vP (Bc3 more m j X) i=vP X i)
 | 0,j,X,c,_,h0,hj=>⟨c,fun _ _=>rfl,fun i hi=>by rw [if_neg (by omega)];rfl,fun _ _=>rfl⟩
 | m+1,j,X,c,s,h0,hj=>by
  rw [show Bc3 more (m+1) j X=Bc3 more m (j+1) (if more.getD j.toNat 0=0 then X else B61 X j (Bj0 (vF X j).1 (more.getD j.toNat 0))) from rfl]
  by_cases hz:more.getD j.toNat 0=0
  ·rw [if_pos hz]
   obtain ⟨a1,a2,a3,a4⟩:=Dq0 hm m (j+1) X c (fun i h1 h2 h3=>s i (by omega) h2 h3) (by omega) (by omega)
   refine ⟨a1,a2,fun i hi=>?_,a4⟩
   rw [a3 i hi]
   by_cases hij:i=j
   ·subst hij
    rw [if_neg (by omega),if_neg (by simp only [hz];simp)]
   ·by_cases h2:j≤i∧more.getD i.toNat 0≠0
    ·rw [if_pos h2,if_pos ⟨by omega,h2.2⟩]
    ·rw [if_neg h2,if_neg (fun h3=>h2 ⟨by omega,h3.2⟩)]
  ·rw [if_neg hz]
   obtain ⟨k1,s2⟩:=s.step c hm (by omega) hz
   obtain ⟨w1,w2,w3,w4,w5⟩:=As7 c (i:=j) (by omega) k1
   obtain ⟨a1,a2,a3,a4⟩:=Dq0 hm m (j+1) _ w2 s2 (by omega) (by omega)
   refine ⟨a1,fun i hi=>by rw [a2 i hi,w3 i hi],fun i hi=>?_,fun i hi=>by rw [a4 i hi,w5 i hi]⟩
   rw [a3 i hi,w4 i hi]
   by_cases hij:i=j
   ·subst hij
    rw [if_neg (by omega),if_pos rfl,if_pos ⟨by omega,hz⟩]
   ·rw [if_neg hij]
    by_cases h2:j≤i∧more.getD i.toNat 0≠0
    ·rw [if_pos h2,if_pos ⟨by omega,h2.2⟩]
    ·rw [if_neg h2,if_neg (fun h3=>h2 ⟨by omega,h3.2⟩)]
theorem Hj1 (l:List UInt8) (i:Nat):0≤byI l i∧byI l i<256:=by
 have:=(l.getD i 0).toNat_lt
 unfold byI;omega
theorem Ev5 (l:List UInt8) (j:Nat):0≤two l j∧two l j≤65535:=by
 have:=Hj1 l j;have:=Hj1 l (j+1)
 unfold two;omega
theorem Bj6 (l:List UInt8):InS (V9 l).1:=by
 unfold V9
 split
 ·exact ⟨by simp,by simp,by simp,by simp⟩
 ·split
  ·exact ⟨Ev5 _ _,Ev5 _ _,Ev5 _ _,Ev5 _ _⟩
  ·exact ⟨by simp,by simp,by simp,by simp⟩
theorem D61 {p:ProcS} (h:okS p=true):Bm4 p.fds:=fun f hf=>by
 unfold okS at h
 simp only [Bool.and_eq_true,Bool.not_eq_true',List.any_eq_false] at h
 have:=h.2.2.1 f hf
 simp at this;omega
abbrev Al2 (p:ProcS) (i:Int):ProcS:=⟨p.state,i+1,p.group,p.code,0,p.mask,p.ignored,p.caught,p.fds,p.len⟩
theorem E31 {p:ProcS} (h:okS p=true) (h1:p.state=1) {i:Int} (hi:0≤i∧i<8):okS (Al2 p i)=true:=by
 unfold okS at h ⊢
 rw [if_neg (by rw [h1];decide)] at h
 rw [if_neg (show ¬ (Al2 p i).state=2 by show ¬ p.state=2;rw [h1];decide)]
 simp only [Bool.and_eq_true,Bool.not_eq_true',Bool.or_eq_false_iff,decide_eq_false_iff_not] at h ⊢
 obtain ⟨⟨⟨⟨⟨⟨⟨⟨a1,a2⟩,a3⟩,a4⟩,a5⟩,a6⟩,a7⟩,a8⟩,⟨⟨⟨⟨b1,b2⟩,b3⟩,b4⟩,b5⟩,d1,d2⟩:=h
 exact ⟨⟨⟨⟨⟨⟨⟨⟨a1,a2⟩,by show ¬ i+1<0;omega⟩,by show ¬ i+1>8;omega⟩,a5⟩,a6⟩,a7⟩,a8⟩,⟨⟨⟨⟨by simp [Hz1],b2⟩,b3⟩,b4⟩,b5⟩,d1,d2⟩
def Av2 (X:CX) (i:Int):List Value × CX :=
 if (J6 X i).2≠0 then (Q8 0 (J6 X i).2 false,X)
 else if Z2 X 8 0<0 then (Q8 0 111 false,X)
 else if (S4 X (J6 X i).1).1≠0 then (Q8 0 (S4 X (J6 X i).1).1 false,X)
 else (Q8 (Z2 X 8 0) 0 false,Bj3 (S4 X (J6 X i).1).2 (Z2 X 8 0) (Al2 (J6 X i).1 i))
theorem Dv2 {X:CX}:∀ (m:Nat) (i:Int),0≤i→i+m=8→Z2 X m i=-1∨(0≤Z2 X m i∧Z2 X m i<8∧(vS X (Z2 X m i)).2=0)
 | 0,i,_,_=>.inl rfl
 | m+1,i,h0,hi=>by
  rw [show Z2 X (m+1) i=if (vS X i).2=0 then i else Z2 X m (i+1) from rfl]
  split
  ·rename_i h;exact .inr ⟨h0,by omega,h⟩
  ·exact Dv2 m (i+1) (by omega) (by omega)
theorem E56 {nc:Nat} {X:CX} (c:Clean nc X) {i:Int} (hi:0≤i∧i<8) (h:(J6 X i).2=0):J6 X i=((vS X i).1,0)∧(vS X i).1.state=1∧okS (vS X i).1=true∧(vS X i).2=1:=by
 unfold J6 at h ⊢
 split
 ·rename_i h1
  refine ⟨rfl,h1.2,?_,h1.1⟩
  rcases Dx5 c hi with ⟨h2,_⟩|⟨_,h2⟩
  ·rw [h1.1] at h2;cases h2
  ·exact h2
 ·rename_i h1;rw [if_neg h1] at h;cases h
theorem Ht5 {X:CX} {p:ProcS} (h:(S4 X p).1≠0):(S4 X p).2=X:=by
 unfold S4 at h ⊢
 split
 ·rename_i h1;rw [if_pos h1] at h;exact absurd rfl h
 ·rfl
theorem Dp2 {nc:Nat} {X:CX} (c:Clean nc X) {p:ProcS} (hf:Bm4 p.fds) (h:(S4 X p).1=0):Clean nc (S4 X p).2∧(∀ i:Int,0≤i∧i<8→vS (S4 X p).2 i=vS X i) ∧
  (∀ i:Int,0≤i∧i<12→vF (S4 X p).2 i=if (Be5 p).getD i.toNat 0≠0 then (Bj0 (vF X i).1 ((Be5 p).getD i.toNat 0),1) else vF X i)∧(∀ i:Int,0≤i∧i<3+nc→vP (S4 X p).2 i=vP X i):=by
 unfold S4 at h ⊢
 split
 ·rename_i he
  obtain ⟨a1,a2,a3,a4⟩:=Dq0 (E14 hf) 12 0 X c (G46 hf he) (by omega) (by omega)
  refine ⟨a1,a2,fun i hi=>?_,a4⟩
  rw [a3 i hi]
  by_cases h2:(Be5 p).getD i.toNat 0≠0
  ·rw [if_pos h2,if_pos ⟨hi.1,h2⟩]
  ·rw [if_neg h2,if_neg (fun h3=>h2 h3.2)]
 ·rename_i he;rw [if_neg he] at h;exact absurd h he
theorem Gh2 (b k:Nat) (F:Fr) (X:CX) (ok:FrOk F) {nc:Nat} (c:Clean nc X) (i:Int) (hi:0≤i∧i<8):Ct B0 Bc8 [P0 b,int i] [cmC b k F X] fun v own=>v=.agg ⟨(Av2 X i).1⟩∧own [cmC b k F (Av2 X i).2]:=by
 have e1:IntKind.wrap .i64 (i+1)=i+1:=by rw [A8];omega
 unfold Av2
 refine Ct.of Hg3 rfl fun h r=>Tr.eq (He3 ..) ?_;refine Je ?_
 refine Yn fun b0 h=>?_
 refine Yc (D66 b k F X ok c i hi) ?_;rintro _ h ⟨rfl,o⟩<;>refine Jh o ?_
 (refine Jc ?_;unhygienic intros)
 refine Yn fun b1 h=>?_
 (refine Ja ?_;unhygienic intros)
 by_cases h0:(J6 X i).2=0
 case neg =>
  rw [if_pos h0]
  refine Yt (by simpa using h0) ?_
  refine Yc (Bw1 (J6 X i).2) ?_;rintro _ h ⟨rfl,o⟩<;>(refine Jf o ?_;unhygienic intros)
  refine Ys fun o=>?_
  exact ⟨rfl,o.sub⟩
 rw [if_neg (by simpa using h0)]
 refine Yf (by simpa using h0) ?_
 obtain ⟨s1,s2,s3,s4⟩:=E56 c hi h0
 refine Yc (Id4 b k F X ok c) ?_;rintro _ h ⟨rfl,o⟩<;>refine Jh o ?_
 (refine Ja ?_;unhygienic intros)
 by_cases h1:Z2 X 8 0<0
 ·rw [if_pos h1]
  refine Yt (by simpa using h1) ?_
  refine Yc (Bw1 111) ?_;rintro _ h ⟨rfl,o⟩<;>(refine Jf o ?_;unhygienic intros)
  refine Ys fun o=>?_
  exact ⟨rfl,o.sub⟩
 rw [if_neg h1]
 refine Yf (by simpa using h1) ?_
 have hf:Bm4 (J6 X i).1.fds:=by rw [s1];exact D61 s3
 have hok:okS (Al2 (J6 X i).1 i)=true:=by rw [s1];exact E31 s3 s2 hi
 have hin:InS (Al2 (J6 X i).1 i):=by
  have:=Bj6 (rd X ⟨1,i⟩)
  rw [s1]
  exact ⟨by simp,this.b,this.c,this.d⟩
 generalize (J6 X i).1=p at hf hok hin
 (refine Ja ?_;unhygienic intros)
 refine Yc (H08 b k F X ok c p hf) ?_;rintro _ h ⟨rfl,o⟩<;>refine Jh o ?_
 (refine Ja ?_;unhygienic intros)
 by_cases h2:(S4 X p).1=0
 case neg =>
  rw [if_pos h2]
  rw [Ht5 h2] at o ⊢
  refine Yt (by simpa using h2) ?_
  refine Yc (Bw1 (S4 X p).1) ?_;rintro _ h ⟨rfl,o⟩<;>(refine Jf o ?_;unhygienic intros)
  refine Ys fun o=>?_
  exact ⟨rfl,o.sub⟩
 rw [if_neg (by simpa using h2)]
 refine Yf (by simpa using h2) ?_
 have cs:=(Dp2 c hf h2).1
 have hfr:0≤Z2 X 8 0∧Z2 X 8 0<8:=by
  rcases Dv2 (X:=X) 8 0 (by omega) (by omega) with h|h<;>omega
 obtain ⟨w1,_⟩:=P7 cs hfr hok hin
 (refine Ja ?_;unhygienic intros)
 rw [e1,show ((D3 p).set 1 (int (i+1))).set 4 (int 0)=D3 (Al2 p i) from rfl]
 generalize Al2 p i=q at hok hin w1
 (refine Ja ?_;unhygienic intros)
 refine Yc (B97 b k F (S4 X p).2 ok (Z2 X 8 0) q) ?_;rintro _ h ⟨rfl,o⟩<;>refine Jh o ?_
 rw [w1]
 dsimp only
 (refine Ja ?_;unhygienic intros)
 refine Yc (Bw6 true (Z2 X 8 0)) ?_;rintro _ h ⟨rfl,o⟩<;>refine Jh o ?_
 rw [if_pos trivial]
 (refine Ja ?_;unhygienic intros)
 refine Ys fun o=>?_
 exact ⟨rfl,o.sub⟩
abbrev Bl3 (s:Int × ProcS):List Value:=int s.1::D3 s.2
def L9 (X:CX) (q:Int→ProcS→Bool):Nat→Int→List (Int × ProcS)
 | 0,_=>[]
 | m+1,i=>if (vS X i).2=1∧q i (vS X i).1=true then (i,(vS X i).1)::L9 X q m (i+1) else L9 X q m (i+1)
theorem Ee4 (X:CX) (q:Int→ProcS→Bool):∀ (m:Nat) (i:Int),(L9 X q m i).length≤m
 | 0,i=>by simp [L9]
 | m+1,i=>by
  have:=Ee4 X q m (i+1)
  unfold L9;split<;>simp<;>omega
theorem Ar8 (j:Int) (p:ProcS):(int j::D3 p).length=17:=by simp [A65 p,p.len]
instance {j:Int} {p:ProcS}:LenC (int j::D3 p) 17:=⟨Ar8 j p⟩
instance {j:Int} {p:ProcS}:PartC (int j::D3 p) 0 17 (int j::D3 p):=⟨Bw5 (Ar8 j p)⟩
instance {j:Int} {p:ProcS} {cs:List Value} [k:LenC cs 17]:SetsC cs 0 (int j::D3 p) (int j::D3 p):=⟨Bw8 k.ok (Ar8 j p) (by simp [Value.oneCell])⟩
theorem Ha9 (b k:Nat) (F:Fr) (X:CX) (ok:FrOk F) {nc:Nat} (c:Clean nc X) (pr:HP) (g:FuncId) (cp:List Value) (q:Int→ProcS→Bool)
  (hq:∀ (j:Int) (p:ProcS),Ct B0 g (.agg ⟨int j::D3 p⟩::cp) [pr] fun v own=>v=.bool (q j p)∧own [pr]):∀ (m:Nat) (i:Int) (acc:List (Int × ProcS)) (a:Option Addr) (ac:Nat),0≤i→i+m=8→acc.length≤i →
  CtJ E3 Aa7 Ay0 [(0,P0 b),(1,.func (.func g) ⟨[]⟩ ⟨cp⟩),(5,.slice a acc.length ac),(10,int i)] [slC false O0 17 a acc.length ac (acc.flatMap Bl3),cmC b k F X,pr] fun v own =>
   ∃ a' c',v=.slice a' (acc++L9 X q m i).length c'∧own [slC false O0 17 a' (acc++L9 X q m i).length c' ((acc++L9 X q m i).flatMap Bl3),cmC b k F X,pr]:=by
 intro m
 induction m with
 | zero =>
  intro i acc a ac h0 hi ha
  refine CtJ.of Dr8 fun h r=>Tr.eq (Du7 ..) ?_;refine Je ?_
  refine Yf (by simp;omega) ?_
  refine Ys fun o=>?_
  rw [show L9 X q 0 i=[] from rfl,List.append_nil]
  exact ⟨a,ac,rfl,o.sub⟩
 | succ m ih =>
  intro i acc a ac h0 hi ha
  have e1:IntKind.wrap .i64 (i+1)=i+1:=by rw [A8];omega
  refine CtJ.of Dr8 fun h r=>Tr.eq (Du7 ..) ?_;refine Je ?_
  refine Yt (by simp;omega) ?_
  rw [e1]
  refine Yc (Ba1 b k F X ok i) ?_;rintro _ h ⟨rfl,o⟩<;>refine Jh o ?_
  rw [Aj9 c (by omega)]
  dsimp only
  generalize hp:(vS X i).1=p
  simp only [List.append_nil,List.nil_append]
  (refine Jc ?_;unhygienic intros)
  refine Yn fun b1 h=>?_
  (refine Jc ?_;unhygienic intros)
  refine Yn fun b2 h=>?_
  (refine Jb ?_;unhygienic intros)
  rw [show L9 X q (m+1) i=if (vS X i).2=1∧q i (vS X i).1=true then (i,(vS X i).1)::L9 X q m (i+1) else L9 X q m (i+1) from rfl,hp]
  by_cases h1:(vS X i).2=1
  ·refine Yb (Yt (by simpa using h1) ?_)
   (refine Jb ?_;unhygienic intros)
   simp only [List.nil_append]
   refine Yc (hq i p) ?_;rintro _ h ⟨rfl,o⟩<;>refine Jh o ?_
   (refine Jb ?_;unhygienic intros)
   refine Ys fun o=>(?_:Tr _ _ _ _) o;refine Je ?_
   by_cases h2:q i p=true
   ·rw [if_pos ⟨h1,h2⟩]
    refine Yt h2 ?_
    (refine Jc ?_;unhygienic intros)
    refine Yn fun b3 h=>?_
    (refine Ja ?_;unhygienic intros)
    refine Tr.xCellsB (xs:=int i::D3 p) (Ed1 (Bw5 (Ar8 i p))) ?_
    (refine Ja ?_;unhygienic intros)
    refine Tr.xApd ⟨Ar8 i p,by simp [Value.oneCell],by simp only [B4];omega⟩ fun a' c' h=>?_
    rw [show acc.flatMap Bl3++(int i::D3 p)=(acc++[(i,p)]).flatMap Bl3 by simp,show acc.length+1=(acc++[(i,p)]).length by simp]
    refine H5 [5,4,1] 3 rfl rfl ?_
    refine Yr (ih (i+1) (acc++[(i,p)]) a' c' (by omega) (by omega) (by simp;omega)) ?_
    intro v h q
    rw [List.append_assoc] at q
    exact q
   ·rw [if_neg (fun h3=>h2 h3.2)]
    refine Yf (by simpa using h2) ?_
    refine H5 [4,3,0] 2 rfl rfl ?_
    refine Yr (ih (i+1) acc a ac (by omega) (by omega) (by omega)) ?_
    intro v h q
    exact q
  ·rw [if_neg (fun h3=>h1 h3.1)]
   refine Yb (Yf (by simpa using h1) ?_)
   refine Ys fun o=>(?_:Tr _ _ _ _) o;refine Je ?_
   refine Yf rfl ?_
   refine H5 [3,2,2] 2 rfl rfl ?_
   refine Yr (ih (i+1) acc a ac (by omega) (by omega) (by omega)) ?_
   intro v h q
   exact q
theorem Gy5 (b k:Nat) (F:Fr) (X:CX) (ok:FrOk F) {nc:Nat} (c:Clean nc X) (pr:HP) (g:FuncId) (cp:List Value) (q:Int→ProcS→Bool)
  (hq:∀ (j:Int) (p:ProcS),Ct B0 g (.agg ⟨int j::D3 p⟩::cp) [pr] fun v own=>v=.bool (q j p)∧own [pr]) :
  Ct B0 Aa7 [P0 b,.func (.func g) ⟨[]⟩ ⟨cp⟩] [cmC b k F X,pr] fun v own=>∃ a' c',v=.slice a' (L9 X q 8 0).length c'∧own [slC false O0 17 a' (L9 X q 8 0).length c' ((L9 X q 8 0).flatMap Bl3),cmC b k F X,pr]:=by
 refine Ct.of Dr8 rfl fun h r=>Tr.eq (G43 ..) ?_;refine Je ?_
 refine G9 false O0 17 (by omega) ?_
 have J:=Ha9 b k F X ok c pr g cp q hq 8 0 [] none 0 (by omega) (by omega) (by simp)
 simp only [List.nil_append,List.length_nil,List.flatMap_nil] at J
 refine Yr J ?_
 intro v h q
 exact q
theorem H31 (bi:Nat) (i:Int) (hi:0≤i∧i<8) (j:Int) (p:ProcS):Ct B0 Bb9 [.agg ⟨int j::D3 p⟩,P0 bi] [pt bi (.cells B5 false [int i])] fun v own=>v=.bool (p.parent==i+1)∧own [pt bi (.cells B5 false [int i])]:=by
 have e1:IntKind.wrap .i64 (i+1)=i+1:=by rw [A8];omega
 refine Ct.of Gt8 rfl fun h r=>Tr.eq (Gt9 ..) ?_;refine Je ?_
 (refine Ja ?_;unhygienic intros)
 refine Ys fun o=>?_
 rw [e1]
 exact ⟨rfl,o.sub⟩
theorem G63 (j:Int) (p:ProcS):Ct B0 An7 [.agg ⟨int j::D3 p⟩] [] fun v own=>v=.bool (p.state != 2)∧own []:=by
 refine Ct.of Ey2 rfl fun h r=>Tr.eq (Ey6 ..) ?_;refine Je ?_
 (refine Ja ?_;unhygienic intros)
 refine Ys fun o=>?_
 exact ⟨rfl,o.sub⟩
def Bz5 (X:CX) (n:Nat):List (Int × ProcS)→List Value × CX
 | []=>(if n=0 then Q8 0 110 false else Q8 0 0 true,X)
 | s::l=>if s.2.state=2 then (Q8 (256*s.1+s.2.code) 0 false,B78 X s.1) else Bz5 X n l
def Da1 (X:CX) (i:Int):List Value × CX :=
 if (J6 X i).2≠0 then (Q8 0 (J6 X i).2 false,X)
 else Bz5 X (L9 X (fun _ p=>p.parent==i+1) 8 0).length (L9 X (fun _ p=>p.parent==i+1) 8 0)
theorem D93 {nc:Nat} {X:CX} (c:Clean nc X) (q:Int→ProcS→Bool):∀ (m:Nat) (i:Int),0≤i→i+m=8→∀ s ∈ L9 X q m i,0≤s.1∧s.1<8∧okS s.2=true
 | 0,i,_,_,s,hs=>by simp [L9] at hs
 | m+1,i,h0,hi,s,hs=>by
  rw [show L9 X q (m+1) i=if (vS X i).2=1∧q i (vS X i).1=true then (i,(vS X i).1)::L9 X q m (i+1) else L9 X q m (i+1) from rfl] at hs
  split at hs
  ·rename_i h1
   rcases List.mem_cons.1 hs with rfl|h2
   ·refine ⟨h0,by simp only;omega,?_⟩
    rcases Dx5 c (i:=i) (by omega) with ⟨h3,_⟩|⟨_,h3⟩
    ·rw [h1.1] at h3;cases h3
    ·exact h3
   ·exact D93 c q m (i+1) (by omega) (by omega) s h2
  ·exact D93 c q m (i+1) (by omega) (by omega) s hs
theorem H52 {p:ProcS} (h:okS p=true):0≤p.code∧p.code≤255:=by
 unfold okS at h
 simp only [Bool.and_eq_true,Bool.not_eq_true',Bool.or_eq_false_iff,decide_eq_false_iff_not] at h
 have:=h.1
 omega
abbrev Ik8:List Value:=[int 0,int 0,.slice none 0 0,.bool false]
theorem Hl6 (b k:Nat) (F:Fr) (X:CX) (ok:FrOk F) {nc:Nat} (c:Clean nc X) (b4:Nat) (L:List (Int × ProcS)) (hL:∀ s ∈ L,0≤s.1∧s.1<8∧okS s.2=true) (h8:L.length≤8) (a:Option Addr) (ac:Nat):∀ (m i:Nat),i+m=L.length →
  CtJ E3 Aa6 Bl7 [(0,P0 b),(4,P0 b4),(7,.slice a L.length ac),(23,.slice a L.length ac),(24,int L.length),(25,int i)] [slC false O0 17 a L.length ac (L.flatMap Bl3),pt b4 (.cells Z4 false Ik8),cmC b k F X] fun v own =>
   v=.agg ⟨(Bz5 X L.length (L.drop i)).1⟩∧own [cmC b k F (Bz5 X L.length (L.drop i)).2]:=by
 intro m
 induction m with
 | zero =>
  intro i hi
  rw [show L.drop i=[] from List.drop_eq_nil_of_le (by omega),show Bz5 X L.length []=(if L.length=0 then Q8 0 110 false else Q8 0 0 true,X) from rfl]
  refine CtJ.of Dz2 fun h r=>Tr.eq (D44 ..) ?_;refine Je ?_
  refine Yf (by simp;omega) ?_
  by_cases hz:L.length=0
  ·rw [if_pos hz]
   refine Yt (by simp [hz]) ?_
   refine Yc (Bw1 110) ?_;rintro _ h ⟨rfl,o⟩<;>(refine Jf o ?_;unhygienic intros)
   refine Ys fun o=>?_
   exact ⟨rfl,o.sub⟩
  ·rw [if_neg hz]
   refine Yf (by simpa using hz) ?_
   (refine Ja ?_;unhygienic intros)
   refine Ys fun o=>?_
   exact ⟨rfl,o.sub⟩
 | succ m ih =>
  intro i hi
  have hil:i<L.length:=by omega
  have e1:IntKind.wrap .i64 ((i:Int)+1)=((i+1:Nat):Int):=by rw [A8];omega
  have hg:L[i]?=some L[i]:=List.getElem?_eq_getElem hil
  have hd:L.drop i=L[i]::L.drop (i+1):=List.drop_eq_getElem_cons hil
  obtain ⟨r1,r2,r3⟩:=hL _ (List.getElem_mem hil)
  rw [hd]
  generalize L[i]=s at hg r1 r2 r3
  obtain ⟨j,p⟩:=s
  simp only at r1 r2 r3
  rw [show Bz5 X L.length ((j,p)::L.drop (i+1))=if p.state=2 then (Q8 (256*j+p.code) 0 false,B78 X j) else Bz5 X L.length (L.drop (i+1)) from rfl]
  have hpart:=A04 (f:=Bl3) (k:=17) (fun x=>Ar8 x.1 x.2) hg
  have hlen:=Q7 (f:=Bl3) (k:=17) (fun x=>Ar8 x.1 x.2) L
  have hc:=H52 r3
  have e2:IntKind.wrap .i64 (256*j)=256*j:=by rw [A8];omega
  have e3:IntKind.wrap .i64 (256*j+p.code)=256*j+p.code:=by rw [A8];omega
  refine CtJ.of Dz2 fun h r=>Tr.eq (D44 ..) ?_;refine Je ?_
  refine Yt (by simp;omega) ?_
  rw [e1]
  refine S9 0 rfl fun h1 h2 h3=>?_
  (refine Jc ?_;unhygienic intros;repeat(refine Gw ?_;rintro px rfl;refine Jc ?_;unhygienic intros))
  rw [Int.toNat_natCast]
  refine Tr.xAggS (xs:=Bl3 (j,p)) ⟨by omega,by omega,hpart⟩ ?_
  refine Yn fun b2 h=>?_
  (refine Ja ?_;unhygienic intros)
  refine Yc (G63 j p) ?_;rintro _ h ⟨rfl,o⟩<;>refine Jh o ?_
  (refine Ja ?_;unhygienic intros)
  by_cases hz:p.state=2
  ·rw [if_pos hz]
   refine Yt (by simp [hz]) ?_
   (refine Ja ?_;unhygienic intros)
   refine Yc (B12 b k F X ok j) ?_;rintro _ h ⟨rfl,o⟩<;>refine Jh o ?_
   rw [(Ai3 c ⟨r1,r2⟩).1]
   dsimp only
   (refine Ja ?_;unhygienic intros)
   rw [e2,e3]
   refine Yc (Bw6 true (256*j+p.code)) ?_;rintro _ h ⟨rfl,o⟩<;>refine Jh o ?_
   rw [if_pos trivial]
   (refine Ja ?_;unhygienic intros)
   refine Ys fun o=>?_
   exact ⟨rfl,o.sub⟩
  ·rw [if_neg hz]
   refine Yf (by simp [hz]) ?_
   refine H5 [1,1,1] 1 rfl rfl ?_
   refine Yr (ih (i+1) (by omega)) ?_
   intro v h q
   exact q
theorem Eu3 (b k:Nat) (F:Fr) (X:CX) (ok:FrOk F) {nc:Nat} (c:Clean nc X) (i:Int) (hi:0≤i∧i<8):Ct B0 Aa6 [P0 b,int i] [cmC b k F X] fun v own=>v=.agg ⟨(Da1 X i).1⟩∧own [cmC b k F (Da1 X i).2]:=by
 unfold Da1
 refine Ct.of Dz2 rfl fun h r=>Tr.eq (Ha7 ..) ?_;refine Je ?_
 refine Yn fun bi h=>?_
 refine Yn fun b4 h=>?_
 (refine Ja ?_;unhygienic intros)
 refine Yc (D66 b k F X ok c i hi) ?_;rintro _ h ⟨rfl,o⟩<;>refine Jh o ?_
 (refine Jc ?_;unhygienic intros)
 refine Yn fun b2 h=>?_
 (refine Ja ?_;unhygienic intros)
 by_cases h0:(J6 X i).2=0
 case neg =>
  rw [if_pos h0]
  refine Yt (by simpa using h0) ?_
  refine Yc (Bw1 (J6 X i).2) ?_;rintro _ h ⟨rfl,o⟩<;>(refine Jf o ?_;unhygienic intros)
  refine Ys fun o=>?_
  exact ⟨rfl,o.sub⟩
 rw [if_neg (by simpa using h0)]
 refine Yf (by simpa using h0) ?_
 refine Yc (Gy5 b k F X ok c (pt bi (.cells B5 false [int i])) Bb9 [P0 bi] (fun _ p=>p.parent==i+1) (fun j p=>H31 bi i hi j p)) ?_;rintro _ h ⟨a,ac,rfl,o⟩<;>refine Jh o ?_
 (refine Ja ?_;unhygienic intros)
 refine H5 [0,3,0] 2 rfl rfl ?_
 refine Yr (Hl6 b k F X ok c b4 _ (D93 c _ 8 0 (by omega) (by omega)) (Ee4 X _ 8 0) a ac _ 0 (Nat.zero_add _)) ?_
 intro v h q
 exact q
def p0:ProcS:=⟨1,0,0,0,0,0,0,0,[1,0,0,0,0,0,0,0],rfl⟩
def f0:FileS:=⟨3,0,1,0⟩
def Az3:List UInt8:=L6 (L6 Ac6 0 (Es7 p0)) 192 (Ai4 f0)
theorem By5:Az3.length=492:=by kernel_rfl
theorem El6:(Es7 p0).length=24:=by kernel_rfl
theorem Gq1 (l b:List UInt8) (a:Nat):(A0 l).take a++A0 b++(A0 l).drop (a+(A0 b).length)=A0 (L6 l a b):=by
 rw [U4]
 simp [L6,A0,List.map_take,List.map_drop]
theorem H96 {b:List UInt8} (h:0<b.length):A0 b≠[]:=by
 intro e
 have e2:=congrArg List.length e
 rw [U4] at e2
 have e3:b.length=0:=e2
 omega
theorem G37:Ct B0 Bc5 [] [] fun v own=>∃ a,v=.slice a 492 492∧own [slC false A5 1 a 492 492 (A0 Az3)]:=by
 refine Ct.of Gt2 rfl fun h r=>Tr.eq (Gs1 ..) ?_;refine Je ?_
 refine Yc (Gn7) ?_;rintro _ h ⟨rfl,o⟩<;>refine Jh o ?_
 (refine Jc ?_;unhygienic intros)
 rw [A59,Ab3]
 refine Tr.ck (by simp [B4]) ?_
 refine Yn fun b0 h=>?_
 refine Dp0 (n:=492) 0 rfl (by rw [U4];exact Ab3) ?_
 refine Je ?_
 refine Yn fun b1 h=>?_
 (refine Ja ?_;unhygienic intros)
 rw [show ([int 1,int 0,int 0,int 0,int 0,int 0,int 0,int 0,int 0,int 0,int 0,int 0,int 0,int 0,int 0,int 0]:List Value).set 8 (int 1)=D3 p0 from rfl]
 (refine Ja ?_;unhygienic intros)
 refine Yc (Hw3 p0) ?_;rintro _ h ⟨rfl,o⟩<;>refine Jh o ?_
 (refine Ja ?_;unhygienic intros)
 rw [show List.take (min (bs (Es7 p0)).size 492) (bs (Es7 p0)).data.toList=Es7 p0 by kernel_rfl]
 rw [show B7 (L8 b0)=(B7 (L8 b0)).add 0 from rfl]
 refine Tr.xPAggS (cs':=A0 (L6 Ac6 0 (Es7 p0))) ⟨H96 (by rw [El6];omega),by rw [U4,U4,El6,Ab3];omega,Af9 _,Gq1 _ _ 0⟩ fun h=>?_
 (refine Ja ?_;unhygienic intros)
 refine Yc (Hz7 f0) ?_;rintro _ h ⟨rfl,o⟩<;>refine Jh o ?_
 (refine Ja ?_;unhygienic intros)
 rw [show List.take (min (bs (Ai4 f0)).size (492-192)) (bs (Ai4 f0)).data.toList=Ai4 f0 by kernel_rfl]
 rw [Gj7 (by omega),En7]
 refine Tr.xPAggS (cs':=A0 Az3) ⟨H96 (by rw [Dp7];omega),by rw [U4,U4,Af2 (by rw [El6,Ab3];omega),Dp7,Ab3];omega,Af9 _,Gq1 _ _ 192⟩ fun h=>?_
 refine Ys fun o=>?_
 exact ⟨_,rfl,o.sub⟩
theorem Hn7 {S:KS} (kS:Like S) {s:Nat} {env:Int} (e:EnvP s env) {j:Nat} {cap:Int} {lo n:Nat} (hc:H93[j]?=some cap) (hr:(rgP s)[j]?=some (lo,n)) {b:List UInt8} (hb:b.length≤n) :
  Z1 S env ⟨2,cap,0,0,0,0,b⟩=((0,0,[]),Bo9 S (L6 S.mem lo b)):=by
 have F:=G44 kS e
 have hroom:lo+n≤S.mem.length:=D90 kS e.hs env j lo n hr
 have hp:=F.pl j cap lo n hc hr 0 b.length 2 (.inr rfl) (by omega)
 have hs:Ba5 S.mem ((lo+0:Nat):Int) b=some (L6 S.mem lo b):=by
  unfold Ba5
  rw [if_pos (by omega),Int.toNat_natCast,Nat.add_zero];rfl
 have ew:Ak1 S.tabs S.regs S.mem env cap 0 b=(0,L6 S.mem lo b):=by
  unfold Ak1
  rw [show P6 S.tabs S.regs env cap 2 0 (b.length:Int)=(((lo+0:Nat):Int),0) from hp]
  rw [if_neg (by simp),hs]
 unfold Z1
 rw [if_neg (show ¬ (env<0∨env≥(S.envs.length:Int)) from F.env)]
 unfold kDo
 rw [if_neg (show ¬ ((2:Int)=1) by decide),if_pos rfl,ew]
def q1:PipeS:=⟨0,0,1,1,List.replicate 32 0,rfl⟩
def S1:KS:=Bo9 S0 (L6 S0.mem 0 Az3)
def S2:KS:=Bo9 S1 (L6 S1.mem 512 (J7 q1))
def S3:KS:=Bo9 S2 (L6 S2.mem 1856 (J7 q1))
theorem Ax5:(J7 q1).length=40:=Bs7 q1.len
theorem Ga3:Like S1:=Ee9 Du9 (by rw [Af2 (by rw [By5,Du9.mem];omega)];exact Du9.mem)
theorem Gc0:Like S2:=Ee9 Ga3 (by rw [Af2 (by rw [Ax5,Ga3.mem];omega)];exact Ga3.mem)
theorem H92:Like S3:=Ee9 Gc0 (by rw [Af2 (by rw [Ax5,Gc0.mem];omega)];exact Gc0.mem)
theorem Il2:Z1 S0 0 ⟨2,256,0,0,0,0,Az3⟩=((0,0,[]),S1):=Hn7 Du9 G04 (j:=0) rfl rfl (by rw [By5];omega)
theorem Ik4:Z1 S1 0 ⟨2,257,0,0,0,0,J7 q1⟩=((0,0,[]),S2):=Hn7 Ga3 G04 (j:=1) rfl rfl (by rw [Ax5];omega)
theorem Ik9:Z1 S2 0 ⟨2,258,0,0,0,0,J7 q1⟩=((0,0,[]),S3):=Hn7 Gc0 G04 (j:=2) rfl rfl (by rw [Ax5];omega)
abbrev F1:Fr:=frP S3 0 0
def X1:CX:=⟨B01 S3.mem (rgP 0),[]⟩
theorem A89:FrOk F1:=G44 H92 G04
theorem Ef4:Clean 3 X1:=by
 refine ⟨by kernel_rfl,by omega,rfl,by kernel_rfl,fun j h0 h1=>?_,fun r h1 h2 h3 h4=>?_⟩
 ·have:j=1∨j=2:=by omega
  rcases this with rfl|rfl
  ·clear h0 h1;show (_:Nat)=_;kernel_rfl
  ·clear h0 h1;show (_:Nat)=_;kernel_rfl
 ·have all:((List.range 8).all (fun i=>decide (stR 1 (rd X1 ⟨1,(i:Int)⟩)≠2)) && ((List.range 12).all (fun i=>decide (stR 2 (rd X1 ⟨2,(i:Int)⟩)≠2)) && ((List.range 6).all (fun i=>decide (stR 3 (rd X1 ⟨3,(i:Int)⟩)≠2)) && (decide (stR 4 (rd X1 ⟨4,0⟩)≠2) && decide (stR 5 (rd X1 ⟨5,0⟩)≠2)))))=true:=by kernel_rfl
  simp only [Bool.and_eq_true,List.all_eq_true,List.mem_range,decide_eq_true_eq] at all
  obtain ⟨a1,a2,a3,a4,a5⟩:=all
  obtain ⟨k,i⟩:=r
  simp only at h1 h2 h3 h4 ⊢
  obtain ⟨n,rfl⟩:∃ n:Nat,i=n:=⟨i.toNat,by omega⟩
  have hk:k=1∨k=2∨k=3∨k=4∨k=5:=by omega
  rcases hk with rfl|rfl|rfl|rfl|rfl<;>simp [W8] at h4
  ·exact a1 n (by omega)
  ·exact a2 n (by omega)
  ·exact a3 n (by omega)
  ·obtain rfl:n=0:=by omega
   exact a4
  ·obtain rfl:n=0:=by omega
   exact a5
theorem Hj8 (k w m c:Nat) (b1:Nat) (cs:List Value) (hcs:cs.length=7) (K:RKS) (hK:RKOk K) (hB:0<K.B.envs.length) :
  CtJ E3 Ae2 Be0 [(6,P0 k),(7,P0 c),(8,P0 w),(9,P0 m),(10,P0 b1),(11,.string (bs (J7 q1))),(12,int 1)] [pt b1 (.cells Az7 false cs),E0 k S1,rkC w K] fun v own =>
   v=.tuple ⟨[P0 k,P0 c,P0 w,P0 m]⟩∧∃ K',own [E0 k S3,rkC w K']:=by
 have hset:∀ xs:List Value,xs.length=7→∀ vs:List Value,vs.length=7→vs.all Value.oneCell=true→B20 xs 0 vs=some vs:=fun xs h vs h1 h2=>Bw8 h h1 h2
 refine CtJ.of Bz8 fun h r=>Tr.eq (B36 ..) ?_;refine Je ?_
 refine Yt rfl ?_
 rw [A59,Ax5]
 refine Tr.ck (by simp [B4]) ?_
 refine Yn fun b2 h=>?_
 refine Dp0 (n:=40) 0 rfl (by rw [U4];exact Ax5) ?_
 refine Je ?_
 rw [show IntKind.wrap .i64 (256+1)=257 by decide]
 refine Gs (fun h=>?_) (by exact hset cs hcs _ rfl rfl)
 (refine Ja ?_;unhygienic intros)
 have J1:=D65 k S1 0 Ga3.ok (by omega) 0 ⟨2,257,0,0,0,0,J7 q1⟩ (some (L8 b2)) 40 false (show ((2:Int)≠5) by decide)
 rw [Ik4] at J1
 simp only [Bk2,Ax5] at J1
 refine Bv7 J1 [2,0] rfl ?_
 rintro _ h ⟨y,z,rfl,o⟩
 refine (?_:Tr _ _ _ _) o
 refine Je ?_
 (refine Ja ?_;unhygienic intros)
 have R1:=Ew7 w K hK 0 hB ⟨2,257,0,0,0,0,J7 q1⟩ rfl (by rw [Ax5];simp [B4]) (slC false A5 1 (some (L8 b2)) (J7 q1).length 40 (A0 (J7 q1))) (some (L8 b2)) 40 false
 simp only [Bk2,Ax5] at R1
 refine Bv7 R1 [4,2] rfl ?_
 rintro _ h ⟨rfl,o⟩
 rw [show ({ K with R:=(Ah7 K.R ((0:Nat):Int) 257 0 (J7 q1)).2 }:RKS)=wrR K 257 (J7 q1) from rfl] at o
 have hK1:=E88 hK 257 (J7 q1)
 refine (?_:Tr _ _ _ _) o
 refine Je ?_
 (refine Ja ?_;unhygienic intros)
 refine Tr.jmp Bz8 (Tr.eq (B36 ..) ?_);(try simp only[Nr,Nl,wl,Nat.reduceAdd,Nat.reduceMul,Int.reduceToNat])
 refine Yt rfl ?_
 rw [A59,Ax5]
 refine Tr.ck (by simp [B4]) ?_
 refine Yn fun b3 h=>?_
 refine Dp0 (n:=40) 0 rfl (by rw [U4];exact Ax5) ?_
 refine Je ?_
 rw [show IntKind.wrap .i64 (256+2)=258 by decide]
 refine Gs (fun h=>?_) (by exact hset _ rfl _ rfl rfl)
 (refine Ja ?_;unhygienic intros)
 have J2:=D65 k S2 0 Gc0.ok (by omega) 0 ⟨2,258,0,0,0,0,J7 q1⟩ (some (L8 b3)) 40 false (show ((2:Int)≠5) by decide)
 rw [Ik9] at J2
 simp only [Bk2,Ax5] at J2
 refine Bv7 J2 [4,0] rfl ?_
 rintro _ h ⟨y2,z2,rfl,o⟩
 refine (?_:Tr _ _ _ _) o
 refine Je ?_
 (refine Ja ?_;unhygienic intros)
 have R2:=Ew7 w (wrR K 257 (J7 q1)) hK1 0 hB ⟨2,258,0,0,0,0,J7 q1⟩ rfl (by rw [Ax5];simp [B4]) (slC false A5 1 (some (L8 b3)) (J7 q1).length 40 (A0 (J7 q1))) (some (L8 b3)) 40 false
 simp only [Bk2,Ax5] at R2
 refine Bv7 R2 [3,2] rfl ?_
 rintro _ h ⟨rfl,o⟩
 rw [show ({ wrR K 257 (J7 q1) with R:=(Ah7 (wrR K 257 (J7 q1)).R ((0:Nat):Int) 258 0 (J7 q1)).2 }:RKS)=wrR (wrR K 257 (J7 q1)) 258 (J7 q1) from rfl] at o
 refine (?_:Tr _ _ _ _) o
 refine Je ?_
 (refine Ja ?_;unhygienic intros)
 refine Tr.jmp Bz8 (Tr.eq (B36 ..) ?_);(try simp only[Nr,Nl,wl,Nat.reduceAdd,Nat.reduceMul,Int.reduceToNat])
 refine Yf rfl ?_
 refine Ys fun o=>?_
 exact ⟨rfl,_,o.fin [3,0] 5 rfl rfl⟩
theorem H95:RKOk K0:=E88 D73.1 256 Ac6
theorem Hi8:0<K0.B.envs.length:=by show (0:Nat)<(Df2 Ah2).B.envs.length;rw [D73.2,Bs8];simp
theorem Hh4 (a:Option Addr):Ct B0 Ae2 [.slice a 492 492] [slC false A5 1 a 492 492 (A0 Az3)] fun v own=>∃ k c w m K',v=.tuple ⟨[P0 k,P0 c,P0 w,P0 m]⟩∧own [cmC c k F1 X1,rkC w K',rcC m w 0 (B14 K0 0) []]:=by
 refine Ct.of Bz8 rfl fun h r=>Tr.eq (G35 ..) ?_;refine Je ?_
 refine Yc (H54) ?_;rintro _ h ⟨A,rfl,o⟩<;>refine Jh o ?_
 (refine Ja ?_;unhygienic intros)
 refine Yc (H60 A) ?_
 rintro _ h ⟨k,c,w,m,rfl,o⟩
 refine (?_:Tr _ _ _ _) o
 refine Je ?_
 (refine Jb ?_;unhygienic intros)
 refine Yb (Yf rfl ?_)
 refine Ys fun o=>(?_:Tr _ _ _ _) o;refine Je ?_
 refine Yf rfl ?_
 refine Ig4 c k F0 X0 fun f=>?_
 rw [show F0.at X0.m=S0 from Fr.at_cut H94 (D90 Du9 (by omega) 0)]
 refine (?_:Tr (E0 k S0::W0 c k 0 H93 []::_) _ _ _)
 refine Yn fun b1 h=>?_
 (refine Ja ?_;unhygienic intros)
 refine Yc (Gp5 q1) ?_;rintro _ h ⟨rfl,o⟩<;>refine Jh o ?_
 (refine Ja ?_;unhygienic intros)
 have J1:=D65 k S0 0 Du9.ok (by omega) 0 ⟨2,256,0,0,0,0,Az3⟩ a 492 false (show ((2:Int)≠5) by decide)
 rw [Il2] at J1
 simp only [Bk2,By5] at J1
 refine Bv7 J1 [1,4] rfl ?_
 rintro _ h ⟨y,z,rfl,o⟩
 refine (?_:Tr _ _ _ _) o
 refine Je ?_
 (refine Ja ?_;unhygienic intros)
 have R1:=Ew7 w K0 H95 0 Hi8 ⟨2,256,0,0,0,0,Az3⟩ rfl (by rw [By5];simp [B4]) (slC false A5 1 a Az3.length 492 (A0 Az3)) a 492 false
 simp only [Bk2,By5] at R1
 refine Bv7 R1 [5,2] rfl ?_
 rintro _ h ⟨rfl,o⟩
 rw [show ({ K0 with R:=(Ah7 K0.R ((0:Nat):Int) 256 0 Az3).2 }:RKS)=wrR K0 256 Az3 from rfl] at o
 refine (?_:Tr _ _ _ _) o
 refine Je ?_
 (refine Ja ?_;unhygienic intros)
 refine B66 (Hj8 k w m c b1 _ rfl (wrR K0 256 Az3) (E88 H95 256 Az3) Hi8) [4,3,0] rfl ?_
 rintro _ h ⟨rfl,K',o⟩
 refine ⟨k,c,w,m,K',rfl,?_⟩
 exact Own.cmTake c k F1 [] A89 (D90 H92 (by omega) 0) (o.fin [0,3,0,2] 2 rfl rfl)
theorem Hq6 {nc:Nat} {X:CX} (c:Clean nc X) {i:Int} (hi:0≤i∧i<8):Clean nc (Av2 X i).2:=by
 unfold Av2
 by_cases h0:(J6 X i).2=0
 case neg=>rw [if_pos h0];exact c
 rw [if_neg (by simpa using h0)]
 by_cases h1:Z2 X 8 0<0
 ·rw [if_pos h1];exact c
 rw [if_neg h1]
 by_cases h2:(S4 X (J6 X i).1).1=0
 case neg=>rw [if_pos h2];exact c
 rw [if_neg (by simpa using h2)]
 obtain ⟨s1,s2,s3,s4⟩:=E56 c hi h0
 have hf:Bm4 (J6 X i).1.fds:=by rw [s1];exact D61 s3
 have hok:okS (Al2 (J6 X i).1 i)=true:=by rw [s1];exact E31 s3 s2 hi
 have hin:InS (Al2 (J6 X i).1 i):=by
  have:=Bj6 (rd X ⟨1,i⟩)
  rw [s1]
  exact ⟨by simp,this.b,this.c,this.d⟩
 have hfr:0≤Z2 X 8 0∧Z2 X 8 0<8:=by
  rcases Dv2 (X:=X) 8 0 (by omega) (by omega) with h|h<;>omega
 exact (P7 (Dp2 c hf h2).1 hfr hok hin).2.1
def X2:CX:=(Av2 X1 0).2
theorem Gx0:Clean 3 X2:=Hq6 Ef4 (by omega)
theorem Ij5:Da1 X1 0=(Q8 0 110 false,X1):=by kernel_rfl
theorem Ik3:(Av2 X1 0).1=Q8 1 0 false:=by kernel_rfl
theorem Ik6:Da1 X2 0=(Q8 0 0 true,X2):=by kernel_rfl
theorem Ik1:J6 X2 1=(Al2 p0 0,0):=by kernel_rfl
theorem Ho0:Ct B0 Bq8 [] [] fun v own=>v=.bool true∧own []:=by
 refine Ct.of Gs0 rfl fun h r=>Tr.eq (Gs7 ..) ?_;refine Je ?_
 refine Yc (G37) ?_;rintro _ h ⟨a,rfl,o⟩<;>refine Jh o ?_
 (refine Ja ?_;unhygienic intros)
 refine Yc (Hh4 a) ?_
 rintro _ h ⟨k,c,w,m,K',rfl,o⟩
 refine (?_:Tr _ _ _ _) o
 refine Je ?_
 (refine Ja ?_;unhygienic intros)
 refine Yc (Eu3 c k F1 X1 A89 Ef4 0 (by omega)) ?_;rintro _ h ⟨rfl,o⟩<;>refine Jh o ?_
 rw [Ij5]
 dsimp only
 (refine Jc ?_;unhygienic intros)
 refine Yn fun b1 h=>?_
 (refine Ja ?_;unhygienic intros)
 refine Yc (Gh2 c k F1 X1 A89 Ef4 0 (by omega)) ?_;rintro _ h ⟨rfl,o⟩<;>refine Jh o ?_
 rw [Ik3,show (Av2 X1 0).2=X2 from rfl]
 (refine Jc ?_;unhygienic intros)
 refine Yn fun b2 h=>?_
 (refine Ja ?_;unhygienic intros)
 refine Yc (Eu3 c k F1 X2 A89 Gx0 0 (by omega)) ?_;rintro _ h ⟨rfl,o⟩<;>refine Jh o ?_
 rw [Ik6]
 dsimp only
 (refine Jc ?_;unhygienic intros)
 refine Yn fun b3 h=>?_
 (refine Ja ?_;unhygienic intros)
 refine Yc (D66 c k F1 X2 A89 Gx0 1 (by omega)) ?_;rintro _ h ⟨rfl,o⟩<;>refine Jh o ?_
 rw [Ik1]
 dsimp only
 (refine Jc ?_;unhygienic intros)
 refine Yn fun b4 h=>?_
 (refine Jb ?_;unhygienic intros)
 refine Yb (Yt rfl ?_)
 (refine Jb ?_;unhygienic intros)
 refine Ys fun o=>(?_:Tr _ _ _ _) o;refine Je ?_
 refine Yb (Yt rfl ?_)
 (refine Jb ?_;unhygienic intros)
 refine Ys fun o=>(?_:Tr _ _ _ _) o;refine Je ?_
 refine Yb (Yt rfl ?_)
 (refine Jb ?_;unhygienic intros)
 refine Ys fun o=>(?_:Tr _ _ _ _) o;refine Je ?_
 refine Yb (Yt rfl ?_)
 refine Ys fun o=>(?_:Tr _ _ _ _) o;refine Je ?_
 refine Yb (Yt rfl ?_)
 (refine Jb ?_;unhygienic intros)
 refine Ys fun o=>(?_:Tr _ _ _ _) o;refine Je ?_
 refine Yb (Yt rfl ?_)
 (refine Jb ?_;unhygienic intros)
 refine Ys fun o=>(?_:Tr _ _ _ _) o;refine Je ?_
 refine Ys fun o=>?_
 refine ⟨rfl,?_⟩
 exact o.tail.tail.tail.tail.tail.tail.tail
structure Inv (n:Int) (X:CX):Prop where
 c:Clean 3 X
 h:1≤n∧n≤8
 on:∀ j:Int,0≤j→j<n→(vS X j).2=1∧(vS X j).1.state=1∧(vS X j).1.fds=p0.fds
 off:∀ j:Int,n≤j→j<8→(vS X j).2=0
 fl:(vF X 0).2=1∧(vF X 0).1.refs=n
abbrev H89:List Int:=[1,0,0,0,0,0,0,0,0,0,0,0]
theorem If4 {p:ProcS} (h:p.fds=p0.fds):Be5 p=H89:=by unfold Be5;rw [h];rfl
section
variable {nc:Nat} {X:CX} (c:Clean nc X)
include c
abbrev Gj4 (X:CX) (i:Int) (p:PipeS):CX:=Bt6 X ⟨3,i⟩ (J7 p)
abbrev Ee7 (X:CX) (i:Int):CX:=Bt6 X ⟨2,i⟩ (List.replicate 8 0)
abbrev Gi5 (X:CX) (i:Int):CX:=Bt6 X ⟨3,i⟩ (List.replicate 40 0)
theorem D31 {i:Int} (h:0≤i∧i<3+nc) {p:PipeS} (ok:okP p=true) :
  B74 X i p=(true,Gj4 X i p)∧Clean nc (Gj4 X i p)∧(∀ j:Int,0≤j∧j<8→vS (Gj4 X i p) j=vS X j)∧(∀ j:Int,0≤j∧j<12→vF (Gj4 X i p) j=vF X j)∧(∀ j:Int,0≤j∧j<3+nc→vP (Gj4 X i p) j=if j=i then (p,1) else vP X j):=by
 have hl:(J7 p).length=Q9 (3:Int):=by rw [Bs7 p.len];rfl
 refine ⟨by unfold B74;rw [ok];exact Bx7 c (Bg5 h) _,Bx8 c (Bg5 h) hl (by show (U7 (J7 p)).2≠2;rw [Gv5 ok];simp),fun j hj=>?_,fun j hj=>?_,fun j hj=>?_⟩
 ·show V9 (rd _ _)=_
  rw [Ae9 c (Bg5 h) (Bh0 hj) hl,if_neg (by simp)]
 ·show Y6 (rd _ _)=_
  rw [Ae9 c (Bg5 h) (Bi2 hj) hl,if_neg (by simp)]
 ·show U7 (rd _ _)=_
  rw [Ae9 c (Bg5 h) (Bg5 hj) hl]
  by_cases e:j=i
  ·rw [if_pos (by rw [e]),if_pos e];exact Gv5 ok
  ·rw [if_neg (by simp [e]),if_neg e]
theorem D33 {i:Int} (h:0≤i∧i<12) :
  Bk1 X ⟨2,i⟩=(true,Ee7 X i)∧Clean nc (Ee7 X i)∧(∀ j:Int,0≤j∧j<8→vS (Ee7 X i) j=vS X j)∧(∀ j:Int,0≤j∧j<12→vF (Ee7 X i) j=if j=i then (.zero,0) else vF X j)∧(∀ j:Int,0≤j∧j<3+nc→vP (Ee7 X i) j=vP X j):=by
 have hl:(List.replicate 8 (0:UInt8)).length=Q9 (2:Int):=rfl
 refine ⟨Bx7 c (Bi2 h) _,Bx8 c (Bi2 h) hl (by show (Y6 (List.replicate 8 0)).2≠2;rw [show (Y6 (List.replicate 8 0))=(.zero,0) from rfl];simp),fun j hj=>?_,fun j hj=>?_,fun j hj=>?_⟩
 ·show V9 (rd _ _)=_
  rw [Ae9 c (Bi2 h) (Bh0 hj) hl,if_neg (by simp)]
 ·show Y6 (rd _ _)=_
  rw [Ae9 c (Bi2 h) (Bi2 hj) hl]
  by_cases e:j=i
  ·rw [if_pos (by rw [e]),if_pos e];rfl
  ·rw [if_neg (by simp [e]),if_neg e]
 ·show U7 (rd _ _)=_
  rw [Ae9 c (Bi2 h) (Bg5 hj) hl,if_neg (by simp)]
theorem D34 {i:Int} (h:0≤i∧i<3+nc) :
  Bk1 X ⟨3,i⟩=(true,Gi5 X i)∧Clean nc (Gi5 X i)∧(∀ j:Int,0≤j∧j<8→vS (Gi5 X i) j=vS X j)∧(∀ j:Int,0≤j∧j<12→vF (Gi5 X i) j=vF X j)∧(∀ j:Int,0≤j∧j<3+nc→vP (Gi5 X i) j=if j=i then (.zero,0) else vP X j):=by
 have hl:(List.replicate 40 (0:UInt8)).length=Q9 (3:Int):=rfl
 refine ⟨Bx7 c (Bg5 h) _,Bx8 c (Bg5 h) hl (by show (U7 (List.replicate 40 0)).2≠2;rw [show (U7 (List.replicate 40 0))=(.zero,0) from rfl];simp),fun j hj=>?_,fun j hj=>?_,fun j hj=>?_⟩
 ·show V9 (rd _ _)=_
  rw [Ae9 c (Bg5 h) (Bh0 hj) hl,if_neg (by simp)]
 ·show Y6 (rd _ _)=_
  rw [Ae9 c (Bg5 h) (Bi2 hj) hl,if_neg (by simp)]
 ·show U7 (rd _ _)=_
  rw [Ae9 c (Bg5 h) (Bg5 hj) hl]
  by_cases e:j=i
  ·rw [if_pos (by rw [e]),if_pos e];rfl
  ·rw [if_neg (by simp [e]),if_neg e]
theorem H99 {i:Int} (h:0≤i∧i<3+nc):((vP X i).2=0∧(vP X i).1=.zero)∨((vP X i).2=1∧okP (vP X i).1=true):=by
 have:=c.ok ⟨3,i⟩ (by simp) (by simp) h.1 h.2
 have hk:(vP X i).2≠2:=this
 unfold vP U7 at hk ⊢
 split
 ·exact .inl ⟨rfl,rfl⟩
 ·split
  ·rename_i h2
   unfold isP at h2
   simp only [Bool.and_eq_true] at h2
   exact .inr ⟨rfl,h2.1⟩
  ·rename_i h1 h2;simp [h1,h2] at hk
end
abbrev Hn8 (q:PipeS):PipeS:=⟨q.head,q.count,max (q.readers-1) 0,q.writers,q.data,q.len⟩
abbrev Hm1 (q:PipeS):PipeS:=⟨q.head,q.count,q.readers,max (q.writers-1) 0,q.data,q.len⟩
def E75 (kind:Int) (q:PipeS):PipeS:=if kind=1 then Hn8 q else Hm1 q
theorem Hi7 {q:PipeS} (h:okP q=true) (kind:Int):okP (E75 kind q)=true:=by
 unfold E75
 split<;>(simp only [okP,Bool.and_eq_true,decide_eq_true_eq] at h ⊢;omega)
def Em9 (X:CX) (i:Int) (q:PipeS):CX:=if q.readers+q.writers=0∧i<4 then Gi5 X i else Gj4 X i q
def Bb3 (nc:Nat) (X:CX) (f:Int):Int × CX :=
 if (vF X f).2≠1 then (105,X)
 else if (vF X f).1.refs-1>0 then (0,B61 X f (Bj0 (vF X f).1 (-1)))
 else if (vF X f).1.kind=3 then (0,Ee7 X f)
 else if ¬ ((vF X f).1.pipe<3+nc∧(vP X (vF X f).1.pipe).2=1) then (105,Ee7 X f)
 else (0,Em9 (Ee7 X f) (vF X f).1.pipe (E75 (vF X f).1.kind (vP X (vF X f).1.pipe).1))
theorem H18 {nc:Nat} {X:CX} (c:Clean nc X) {i:Int} (h:¬ i<3+nc):Dj5 X i=((.zero,2),X):=by
 have hp:H0 X.m.length ⟨3,i⟩=none:=by
  unfold H0
  rw [c.len,if_pos (by simp [W8];omega)]
 unfold Dj5 U8 rdX
 rw [hp]
theorem G10 {f:FileS} (h:okF f=true):0≤f.pipe:=by
 simp only [okF,Bool.and_eq_true,Bool.or_eq_true,decide_eq_true_eq,beq_iff_eq,bne_iff_ne] at h
 omega
theorem G01 {nc:Nat} {X:CX} (c:Clean nc X) {i:Int} (h:0≤i∧i<3+nc) {q:PipeS} (ok:okP q=true):Clean nc (Em9 X i q):=by
 unfold Em9
 split
 ·exact (D34 c h).2.1
 ·exact (D31 c h ok).2.1
theorem E24 (b k:Nat) (F:Fr) (ok:FrOk F) {nc:Nat} {X:CX} (c:Clean nc X) (b1 b2:Nat) (g:FileS) (q:PipeS) (hi:0≤g.pipe∧g.pipe<3+nc) (hq:okP q=true) :
  CtJ E3 W2 Au9 [(0,P0 b),(5,P0 b1),(7,P0 b2)] [pt b1 (.cells H8 false (Br9 g)),pt b2 (.cells I4 false (N5 q)),cmC b k F X] fun v own=>v=int 0∧own [cmC b k F (Em9 X g.pipe q)]:=by
 have hr:0≤q.readers∧q.readers≤8∧0≤q.writers∧q.writers≤8:=by
  simp only [okP,Bool.and_eq_true,decide_eq_true_eq] at hq;omega
 have e1:IntKind.wrap .i64 (q.readers+q.writers)=q.readers+q.writers:=by rw [A8];omega
 obtain ⟨f1,_⟩:=D34 c hi
 obtain ⟨w1,_⟩:=D31 c hi hq
 unfold Em9
 refine CtJ.of Do5 fun h r=>Tr.eq (Ei8 ..) ?_;refine Je ?_
 (refine Jb ?_;unhygienic intros)
 rw [e1]
 refine Tr.andG (c:=decide (g.pipe<4)) (fun hb=>?_) ?_
 ·exact Jz
 by_cases h:q.readers+q.writers=0∧g.pipe<4
 ·rw [if_pos h]
  refine Yt (by simp [h.1,h.2]) ?_
  (refine Ja ?_;unhygienic intros)
  refine Yc (G55 b k F X ok g.pipe) ?_;rintro _ h ⟨rfl,o⟩<;>refine Jh o ?_
  rw [f1]
  dsimp only
  (refine Ja ?_;unhygienic intros)
  refine Yc (Bw6 true 0) ?_;rintro _ h ⟨rfl,o⟩<;>refine Jh o ?_
  rw [if_pos trivial]
  (refine Ja ?_;unhygienic intros)
  refine Ys fun o=>?_
  exact ⟨rfl,o.sub⟩
 ·rw [if_neg h]
  refine Yf (by simp;omega) ?_
  (refine Ja ?_;unhygienic intros)
  refine Yc (Hg1 b k F X ok g.pipe q) ?_;rintro _ h ⟨rfl,o⟩<;>refine Jh o ?_
  rw [w1]
  dsimp only
  (refine Ja ?_;unhygienic intros)
  refine Yc (Bw6 true 0) ?_;rintro _ h ⟨rfl,o⟩<;>refine Jh o ?_
  rw [if_pos trivial]
  (refine Ja ?_;unhygienic intros)
  refine Ys fun o=>?_
  exact ⟨rfl,o.sub⟩
theorem G79 (b k:Nat) (F:Fr) (X:CX) (ok:FrOk F) {nc:Nat} (c:Clean nc X) (f:Int) (hf:0≤f∧f<12):Ct B0 W2 [P0 b,int f] [cmC b k F X] fun v own=>v=int (Bb3 nc X f).1∧own [cmC b k F (Bb3 nc X f).2]:=by
 have hrf:=Gh4 c hf
 have e1:IntKind.wrap .i64 ((vF X f).1.refs-1)=(vF X f).1.refs+-1:=by rw [A8];omega
 obtain ⟨z1,z2,z3,z4,z5⟩:=D33 c hf
 unfold Bb3
 refine Ct.of Do5 rfl fun h r=>Tr.eq (E43 ..) ?_;refine Je ?_
 refine Yc (Gk3 b k F X ok) ?_;rintro _ h ⟨rfl,o⟩<;>refine Jh o ?_
 rw [Ed7 c]
 (refine Ja ?_;unhygienic intros)
 refine Yc (Dq3 b k F X ok f) ?_;rintro _ h ⟨rfl,o⟩<;>refine Jh o ?_
 rw [Bp1 c hf]
 dsimp only
 (refine Jc ?_;unhygienic intros)
 refine Yn fun b1 h=>?_
 (refine Ja ?_;unhygienic intros)
 by_cases h1:(vF X f).2=1
 case neg =>
  rw [if_pos h1]
  refine Yt (by simpa using h1) ?_
  refine Ys fun o=>?_
  exact ⟨rfl,o.sub⟩
 rw [if_neg (by simpa using h1)]
 refine Yf (by simpa using h1) ?_
 have hk:okF (vF X f).1=true:=by
  rcases Gu5 c hf with ⟨h2,_⟩|⟨_,h2⟩
  ·rw [h1] at h2;cases h2
  ·exact h2
 have hr:=Ev7 hk
 have hpp:=G10 hk
 generalize hg:(vF X f).1=g at hrf e1 hk hr hpp
 (refine Ja ?_;unhygienic intros)
 simp only [e1,List.set_cons_succ,List.set_cons_zero]
 (refine Ja ?_;unhygienic intros)
 by_cases h2:g.refs-1>0
 ·rw [if_pos h2]
  refine Yt (by simp;omega) ?_
  have hk2:=E50 hk (n:=-1) (by omega)
  obtain ⟨w1,_⟩:=As7 c hf hk2
  (refine Ja ?_;unhygienic intros)
  simp only [List.drop_zero,List.take]
  refine Yc (E27 b k F X ok f (Bj0 g (-1))) ?_;rintro _ h ⟨rfl,o⟩<;>refine Jh o ?_
  rw [w1]
  dsimp only
  (refine Ja ?_;unhygienic intros)
  refine Yc (Bw6 true 0) ?_;rintro _ h ⟨rfl,o⟩<;>refine Jh o ?_
  rw [if_pos trivial]
  (refine Ja ?_;unhygienic intros)
  refine Ys fun o=>?_
  exact ⟨rfl,o.sub⟩
 rw [if_neg h2]
 refine Yf (by simp;omega) ?_
 refine Yc (G48 b k F X ok f) ?_;rintro _ h ⟨rfl,o⟩<;>refine Jh o ?_
 rw [z1]
 dsimp only
 (refine Ja ?_;unhygienic intros)
 by_cases h3:g.kind=3
 ·rw [if_pos h3]
  refine Yt (by simpa using h3) ?_
  refine Ys fun o=>?_
  exact ⟨rfl,o.sub⟩
 rw [if_neg h3]
 refine Yf (by simpa using h3) ?_
 (refine Ja ?_;unhygienic intros)
 refine Yc (G27 b k F (Ee7 X f) ok g.pipe) ?_;rintro _ h ⟨rfl,o⟩<;>refine Jh o ?_
 by_cases h4:g.pipe<3+(nc:Int)
 case neg =>
  rw [if_pos (fun h=>h4 h.1),H18 z2 h4]
  dsimp only
  (refine Jc ?_;unhygienic intros)
  refine Yn fun b2 h=>?_
  (refine Ja ?_;unhygienic intros)
  refine Ys fun o=>?_
  exact ⟨rfl,o.sub⟩
 rw [E11 z2 ⟨hpp,h4⟩,z5 _ ⟨hpp,h4⟩]
 dsimp only
 (refine Jc ?_;unhygienic intros)
 refine Yn fun b2 h=>?_
 (refine Ja ?_;unhygienic intros)
 by_cases h5:(vP X g.pipe).2=1
 case neg =>
  rw [if_pos (fun h=>h5 h.2)]
  refine Yt (by simpa using h5) ?_
  refine Ys fun o=>?_
  exact ⟨rfl,o.sub⟩
 rw [if_neg (fun h=>h ⟨h4,h5⟩)]
 refine Yf (by simpa using h5) ?_
 have hq:okP (vP X g.pipe).1=true:=by
  rcases H99 c ⟨hpp,h4⟩ with ⟨h6,_⟩|⟨_,h6⟩
  ·rw [h5] at h6;cases h6
  ·exact h6
 have hq2:=Hi7 hq g.kind
 generalize (vP X g.pipe).1=q at hq hq2
 have hqr:0≤q.readers∧q.readers≤8∧0≤q.writers∧q.writers≤8:=by
  simp only [okP,Bool.and_eq_true,decide_eq_true_eq] at hq;omega
 have e2:IntKind.wrap .i64 (q.readers-1)=q.readers-1:=by rw [A8];omega
 have e3:IntKind.wrap .i64 (q.writers-1)=q.writers-1:=by rw [A8];omega
 (refine Ja ?_;unhygienic intros)
 by_cases h6:g.kind=1
 ·refine Yt (by simpa using h6) ?_
  have ee:E75 g.kind q=Hn8 q:=by unfold E75;rw [if_pos h6]
  rw [ee] at hq2 ⊢
  (refine Ja ?_;unhygienic intros)
  rw [e2,W6,show (N5 q).set 2 (int (max (q.readers-1) 0))=N5 (Hn8 q) from rfl]
  refine B66 (E24 b k F ok z2 b1 b2 (Bj0 g (-1)) (Hn8 q) ⟨hpp,h4⟩ hq2) [2,0,0] rfl ?_
  intro v h q
  exact q
 ·refine Yf (by simpa using h6) ?_
  have ee:E75 g.kind q=Hm1 q:=by unfold E75;rw [if_neg h6]
  rw [ee] at hq2 ⊢
  (refine Ja ?_;unhygienic intros)
  rw [e3,W6,show (N5 q).set 3 (int (max (q.writers-1) 0))=N5 (Hm1 q) from rfl]
  refine B66 (E24 b k F ok z2 b1 b2 (Bj0 g (-1)) (Hm1 q) ⟨hpp,h4⟩ hq2) [2,0,0] rfl ?_
  intro v h q
  exact q
theorem Ek9 {nc:Nat} {X:CX} (c:Clean nc X) {f:Int} (hf:0≤f∧f<12):Clean nc (Bb3 nc X f).2:=by
 have z2:=(D33 c hf).2.1
 unfold Bb3
 by_cases h1:(vF X f).2=1
 case neg=>rw [if_pos h1];exact c
 rw [if_neg (by simpa using h1)]
 have hk:okF (vF X f).1=true:=by
  rcases Gu5 c hf with ⟨h2,_⟩|⟨_,h2⟩
  ·rw [h1] at h2;cases h2
  ·exact h2
 have hr:=Ev7 hk
 by_cases h2:(vF X f).1.refs-1>0
 ·rw [if_pos h2]
  exact (As7 c hf (E50 hk (n:=-1) (by omega))).2.1
 rw [if_neg h2]
 by_cases h3:(vF X f).1.kind=3
 ·rw [if_pos h3];exact z2
 rw [if_neg h3]
 by_cases h4:(vF X f).1.pipe<3+nc∧(vP X (vF X f).1.pipe).2=1
 case neg=>rw [if_pos h4];exact z2
 rw [if_neg (fun h=>h h4)]
 have hi:0≤(vF X f).1.pipe∧(vF X f).1.pipe<3+nc:=⟨G10 hk,h4.1⟩
 have hq:okP (vP X (vF X f).1.pipe).1=true:=by
  rcases H99 c hi with ⟨h6,_⟩|⟨_,h6⟩
  ·rw [h4.2] at h6;cases h6
  ·exact h6
 exact G01 z2 hi (Hi7 hq _)
def Bq7 (nc:Nat):List Int→CX→CX
 | [],X=>X
 | f::l,X=>Bq7 nc l (if f>0 then (Bb3 nc X (f-1)).2 else X)
theorem Ds2 {nc:Nat}:∀ (l:List Int) (X:CX),Bm4 l→Clean nc X→Clean nc (Bq7 nc l X)
 | [],X,_,c=>c
 | f::l,X,hf,c=>by
  have h1:=hf f (by simp)
  have hl:Bm4 l:=fun x hx=>hf x (by simp [hx])
  rw [show Bq7 nc (f::l) X=Bq7 nc l (if f>0 then (Bb3 nc X (f-1)).2 else X) from rfl]
  split
  ·exact Ds2 l _ hl (Ek9 c (by omega))
  ·exact Ds2 l _ hl c
abbrev Aj5 (p:ProcS):ProcS:=⟨p.state,p.parent,p.group,p.code,p.pending,p.mask,p.ignored,p.caught,Bs2,rfl⟩
theorem Gg0 {p:ProcS} (h:okS p=true):okS (Aj5 p)=true:=by
 unfold okS at h ⊢
 simp only [Bool.and_eq_true] at h ⊢
 refine ⟨h.1,h.2.1,by decide,?_⟩
 have:=h.2.2.2
 by_cases h2:p.state=2
 ·rw [if_pos h2] at this
  rw [if_pos (show (Aj5 p).state=2 from h2)]
  simp only [Bool.and_eq_true] at this ⊢
  exact ⟨this.1,by simp⟩
 ·rw [if_neg h2] at this
  rw [if_neg (show ¬ (Aj5 p).state=2 from h2)]
  exact this
def N1 (nc:Nat) (X:CX) (i:Int):CX:=if (vS X i).2=1 then Bj3 (Bq7 nc (vS X i).1.fds X) i (Aj5 (vS X i).1) else X
theorem Gh7 (b k:Nat) (F:Fr) (ok:FrOk F) {nc:Nat} (i:Int) (hi:0≤i∧i<8) (b1:Nat) (p:ProcS) (hp:okS p=true) (hin:InS p) (fds:List Int) (hl:fds.length=8) (hf:Bm4 fds):∀ (m n:Nat) (X:CX),n+m=8→Clean nc X →
  CtJ E3 U5 Ak5 [(0,P0 b),(1,int i),(4,P0 b1),(19,.agg ⟨fds.map int⟩),(20,int n)] [pt b1 (.cells D2 false (D3 p)),cmC b k F X] fun v own=>v=.tuple ⟨[]⟩∧own [cmC b k F (Bj3 (Bq7 nc (fds.drop n) X) i (Aj5 p))]:=by
 intro m
 induction m with
 | zero =>
  intro n X hn c
  have:n=8:=by omega
  subst this
  rw [show fds.drop 8=[] from List.drop_eq_nil_of_le (by omega),show Bq7 nc [] X=X from rfl]
  obtain ⟨w1,_⟩:=P7 c hi (Gg0 hp) ⟨hin.a,hin.b,hin.c,hin.d⟩
  refine CtJ.of B37 fun h r=>Tr.eq (Dc3 ..) ?_;refine Je ?_
  refine Yf (by simp) ?_
  refine Gs (fun h=>?_) (by exact (show B20 (D3 p) 8 (Bs2.map int)=some (D3 (Aj5 p)) from by
   have hlen:(D3 p).length=16:=A65 p
   have e:Nat.ble (8+(Bs2.map int).length) (D3 p).length=true:=by rw [hlen];rfl
   rw [B20,e]
   have h9:(D3 p).drop (8+(Bs2.map int).length)=[]:=List.drop_eq_nil_of_le (by rw [hlen];decide)
   rw [h9];rfl))
  generalize Aj5 p=q at w1
  (refine Ja ?_;unhygienic intros)
  refine Yc (B97 b k F X ok i q) ?_;rintro _ h ⟨rfl,o⟩<;>refine Jh o ?_
  rw [w1]
  (refine Ja ?_;unhygienic intros)
  refine Ys fun o=>?_
  exact ⟨rfl,o.sub⟩
 | succ m ih =>
  intro n X hn c
  have e1:IntKind.wrap .i64 ((n:Int)+1)=((n+1:Nat):Int):=by rw [A8];omega
  have hil:n<fds.length:=by omega
  have hg:=Es5 hil
  have hd:fds.drop n=fds.getD n 0::fds.drop (n+1):=by
   rw [List.drop_eq_getElem_cons hil,List.getD_eq_getElem?_getD,List.getElem?_eq_getElem hil];rfl
  have hr:0≤fds.getD n 0∧fds.getD n 0≤12:=hf _ (by
   rw [List.getD_eq_getElem?_getD,List.getElem?_eq_getElem hil];exact List.getElem_mem _)
  rw [hd]
  generalize fds.getD n 0=f at hg hr
  rw [show Bq7 nc (f::fds.drop (n+1)) X=Bq7 nc (fds.drop (n+1)) (if f>0 then (Bb3 nc X (f-1)).2 else X) from rfl]
  refine CtJ.of B37 fun h r=>Tr.eq (Dc3 ..) ?_;refine Je ?_
  refine Yt (by simp;omega) ?_
  rw [e1]
  refine Tr.ck (by omega) ?_
  rw [Int.toNat_natCast]
  (refine Ja ?_;unhygienic intros)
  by_cases hz:f>0
  ·rw [if_pos hz]
   refine Yt (by simpa using hz) ?_
   rw [show IntKind.wrap .i64 (f-1)=f-1 by rw [A8];omega]
   refine Yc (G79 b k F X ok c (f-1) (by omega)) ?_;rintro _ h ⟨rfl,o⟩<;>refine Jh o ?_
   (refine Ja ?_;unhygienic intros)
   refine Yr (ih (n+1) (Bb3 nc X (f-1)).2 (by omega) (Ek9 c (show 0≤f-1∧f-1<12 by omega))) ?_
   intro v h q
   exact q
  ·rw [if_neg hz]
   refine Yf (by simpa using hz) ?_
   refine Yr (ih (n+1) X (by omega) c) ?_
   intro v h q
   exact q
theorem Ha3 (b k:Nat) (F:Fr) (X:CX) (ok:FrOk F) {nc:Nat} (c:Clean nc X) (i:Int) (hi:0≤i∧i<8):Ct B0 U5 [P0 b,int i] [cmC b k F X] fun v own=>v=.tuple ⟨[]⟩∧own [cmC b k F (N1 nc X i)]:=by
 unfold N1
 refine Ct.of B37 rfl fun h r=>Tr.eq (Gd2 ..) ?_;refine Je ?_
 refine Yc (Gk3 b k F X ok) ?_;rintro _ h ⟨rfl,o⟩<;>refine Jh o ?_
 rw [Ed7 c]
 (refine Ja ?_;unhygienic intros)
 refine Yc (Ba1 b k F X ok i) ?_;rintro _ h ⟨rfl,o⟩<;>refine Jh o ?_
 rw [Aj9 c hi]
 dsimp only
 (refine Jc ?_;unhygienic intros)
 refine Yn fun b1 h=>?_
 (refine Ja ?_;unhygienic intros)
 by_cases h1:(vS X i).2=1
 case neg =>
  rw [if_neg h1]
  refine Yt (by simpa using h1) ?_
  refine Ys fun o=>?_
  exact ⟨rfl,o.sub⟩
 rw [if_pos h1]
 refine Yf (by simpa using h1) ?_
 have hk:okS (vS X i).1=true:=by
  rcases Dx5 c hi with ⟨h2,_⟩|⟨_,h2⟩
  ·rw [h1] at h2;cases h2
  ·exact h2
 have hin:=Bj6 (rd X ⟨1,i⟩)
 (refine Ja ?_;unhygienic intros)
 refine B66 (Gh7 b k F ok i hi b1 _ hk hin _ (vS X i).1.len (D61 hk) 8 0 X rfl c) [0,0] rfl ?_
 intro v h q
 exact q
abbrev Bs0 (p:ProcS):ProcS:=⟨p.state,0,p.group,p.code,p.pending,p.mask,p.ignored,p.caught,p.fds,p.len⟩
theorem Gk9 {p:ProcS} (h:okS p=true):okS (Bs0 p)=true:=by
 unfold okS at h ⊢
 simp only [Bool.and_eq_true,Bool.not_eq_true',Bool.or_eq_false_iff,decide_eq_false_iff_not] at h ⊢
 obtain ⟨⟨⟨⟨⟨⟨⟨⟨a1,a2⟩,a3⟩,a4⟩,a5⟩,a6⟩,a7⟩,a8⟩,b1,d1,d2⟩:=h
 exact ⟨⟨⟨⟨⟨⟨⟨⟨a1,a2⟩,by decide⟩,by decide⟩,a5⟩,a6⟩,a7⟩,a8⟩,b1,d1,d2⟩
def Da8:List (Int × ProcS)→CX→CX
 | [],X=>X
 | s::l,X=>Da8 l (if s.2.state=2 then B78 X s.1 else Bj3 X s.1 (Bs0 s.2))
def SlOk (L:List (Int × ProcS)):Prop:=∀ s ∈ L,(0≤s.1∧s.1<8)∧okS s.2=true∧InS s.2
theorem Bx6 {nc:Nat} {X:CX} (c:Clean nc X) (q:Int→ProcS→Bool):∀ (m:Nat) (i:Int),0≤i→i+m=8→SlOk (L9 X q m i)
 | 0,i,_,_,s,hs=>by simp [L9] at hs
 | m+1,i,h0,hi,s,hs=>by
  rw [show L9 X q (m+1) i=if (vS X i).2=1∧q i (vS X i).1=true then (i,(vS X i).1)::L9 X q m (i+1) else L9 X q m (i+1) from rfl] at hs
  split at hs
  ·rename_i h1
   rcases List.mem_cons.1 hs with rfl|h2
   ·refine ⟨⟨h0,by simp only;omega⟩,?_,Bj6 _⟩
    rcases Dx5 c (i:=i) (by omega) with ⟨h3,_⟩|⟨_,h3⟩
    ·rw [h1.1] at h3;cases h3
    ·exact h3
   ·exact Bx6 c q m (i+1) (by omega) (by omega) s h2
  ·exact Bx6 c q m (i+1) (by omega) (by omega) s hs
theorem Gl6 {nc:Nat} {X:CX} (c:Clean nc X) {s:Int × ProcS} (h:(0≤s.1∧s.1<8)∧okS s.2=true∧InS s.2):Clean nc (if s.2.state=2 then B78 X s.1 else Bj3 X s.1 (Bs0 s.2)):=by
 split
 ·exact (Ai3 c h.1).2.1
 ·exact (P7 c h.1 (Gk9 h.2.1) ⟨h.2.2.a,h.2.2.b,h.2.2.c,h.2.2.d⟩).2.1
theorem E06 {nc:Nat}:∀ (L:List (Int × ProcS)) (X:CX),SlOk L→Clean nc X→Clean nc (Da8 L X)
 | [],X,_,c=>c
 | s::l,X,hL,c=>E06 l _ (fun x hx=>hL x (by simp [hx])) (Gl6 c (hL s (by simp)))
theorem Hz2 (j:Int) (q:ProcS):B32 (int j::D3 q) 1 16=some (D3 q):=by
 have e:Nat.ble (1+16) (int j::D3 q).length=true:=by rw [Ar8];rfl
 rw [B32,e,List.drop_succ_cons,List.drop_zero,List.take_of_length_le (by rw [A65];omega)];rfl
theorem Hk6 (b k:Nat) (F:Fr) (ok:FrOk F) {nc:Nat} (L:List (Int × ProcS)) (hL:SlOk L) (h8:L.length≤8) (a:Option Addr) (ac:Nat):∀ (m n:Nat) (X:CX),n+m=L.length→Clean nc X →
  CtJ E3 Ab8 At9 [(0,P0 b),(8,.slice a L.length ac),(9,int L.length),(10,int n)] [slC false O0 17 a L.length ac (L.flatMap Bl3),cmC b k F X] fun v own=>v=.tuple ⟨[]⟩∧own [cmC b k F (Da8 (L.drop n) X)]:=by
 intro m
 induction m with
 | zero =>
  intro n X hn c
  rw [show L.drop n=[] from List.drop_eq_nil_of_le (by omega),show Da8 [] X=X from rfl]
  refine CtJ.of De1 fun h r=>Tr.eq (Do6 ..) ?_;refine Je ?_
  refine Yf (by simp;omega) ?_
  refine Ys fun o=>?_
  exact ⟨rfl,o.sub⟩
 | succ m ih =>
  intro n X hn c
  have hil:n<L.length:=by omega
  have e1:IntKind.wrap .i64 ((n:Int)+1)=((n+1:Nat):Int):=by rw [A8];omega
  have hg:L[n]?=some L[n]:=List.getElem?_eq_getElem hil
  have hd:L.drop n=L[n]::L.drop (n+1):=List.drop_eq_getElem_cons hil
  have hs:=hL _ (List.getElem_mem hil)
  rw [hd]
  generalize L[n]=s at hg hs
  obtain ⟨j,p⟩:=s
  have hstep:=Gl6 c hs
  obtain ⟨hj,hk,hin⟩:=hs
  simp only at hj hk hin hstep
  rw [show Da8 ((j,p)::L.drop (n+1)) X=Da8 (L.drop (n+1)) (if p.state=2 then B78 X j else Bj3 X j (Bs0 p)) from rfl]
  have hpart:=A04 (f:=Bl3) (k:=17) (fun x=>Ar8 x.1 x.2) hg
  have hlen:=Q7 (f:=Bl3) (k:=17) (fun x=>Ar8 x.1 x.2) L
  refine CtJ.of De1 fun h r=>Tr.eq (Do6 ..) ?_;refine Je ?_
  refine Yt (by simp;omega) ?_
  rw [e1]
  refine S9 0 rfl fun h1 h2 h3=>?_
  (refine Jc ?_;unhygienic intros;repeat(refine Gw ?_;rintro px rfl;refine Jc ?_;unhygienic intros))
  rw [Int.toNat_natCast]
  refine Tr.xAggS (xs:=Bl3 (j,p)) ⟨by omega,by omega,hpart⟩ ?_
  refine Yn fun b2 h=>?_
  (refine Ja ?_;unhygienic intros)
  refine Yc (G63 j p) ?_;rintro _ h ⟨rfl,o⟩<;>refine Jh o ?_
  (refine Ja ?_;unhygienic intros)
  by_cases hz:p.state=2
  ·rw [if_pos hz] at hstep ⊢
   refine Yt (by simp [hz]) ?_
   (refine Ja ?_;unhygienic intros)
   refine Yc (B12 b k F X ok j) ?_;rintro _ h ⟨rfl,o⟩<;>refine Jh o ?_
   rw [(Ai3 c hj).1]
   dsimp only
   (refine Ja ?_;unhygienic intros)
   refine H5 [2,0] 1 rfl rfl ?_
   refine Yr (ih (n+1) _ (by omega) hstep) ?_
   intro v h q
   exact q
  ·rw [if_neg hz] at hstep ⊢
   refine Yf (by simp [hz]) ?_
   obtain ⟨w1,_⟩:=P7 c hj (Gk9 hk) ⟨hin.a,hin.b,hin.c,hin.d⟩
   (refine Ja ?_;unhygienic intros)
   rw [show (int j::D3 p).set 2 (int 0)=int j::D3 (Bs0 p) from rfl]
   generalize Bs0 p=q at w1 hstep
   refine Gs ?_ (by exact Hz2 j q)
   refine Yc (B97 b k F X ok j q) ?_;rintro _ h ⟨rfl,o⟩<;>refine Jh o ?_
   rw [w1]
   dsimp only
   (refine Ja ?_;unhygienic intros)
   refine H5 [2,0] 1 rfl rfl ?_
   refine Yr (ih (n+1) _ (by omega) hstep) ?_
   intro v h q
   exact q
theorem H65 (bi:Nat) (i:Int) (hi:0≤i∧i<8) (j:Int) (p:ProcS):Ct B0 Ay8 [.agg ⟨int j::D3 p⟩,P0 bi] [pt bi (.cells B5 false [int i])] fun v own=>v=.bool (j != i && p.parent==i+1)∧own [pt bi (.cells B5 false [int i])]:=by
 have e1:IntKind.wrap .i64 (i+1)=i+1:=by rw [A8];omega
 refine Ct.of Gb2 rfl fun h r=>Tr.eq (E97 ..) ?_;refine Je ?_
 (refine Ja ?_;unhygienic intros)
 refine Ys fun o=>?_
 rw [e1]
 exact ⟨rfl,o.sub⟩
abbrev Di7 (i:Int) (j:Int) (p:ProcS):Bool:=j != i && p.parent==i+1
def Ay1 (X:CX) (i:Int):CX:=Da8 (L9 X (Di7 i) 8 0) X
theorem Ht3 (b k:Nat) (F:Fr) (X:CX) (ok:FrOk F) {nc:Nat} (c:Clean nc X) (i:Int) (hi:0≤i∧i<8):Ct B0 Ab8 [P0 b,int i] [cmC b k F X] fun v own=>v=.tuple ⟨[]⟩∧own [cmC b k F (Ay1 X i)]:=by
 unfold Ay1
 refine Ct.of De1 rfl fun h r=>Tr.eq (Gt4 ..) ?_;refine Je ?_
 refine Yn fun bi h=>?_
 refine Yc (Gy5 b k F X ok c (pt bi (.cells B5 false [int i])) Ay8 [P0 bi] (Di7 i) (fun j p=>H65 bi i hi j p)) ?_;rintro _ h ⟨a,ac,rfl,o⟩<;>refine Jh o ?_
 (refine Ja ?_;unhygienic intros)
 refine H5 [0,0] 1 rfl rfl ?_
 refine Yr (Hk6 b k F ok _ (Bx6 c _ 8 0 (by omega) (by omega)) (Ee4 X _ 8 0) a ac _ 0 X (Nat.zero_add _) c) ?_
 intro v h q
 exact q
abbrev De5 (code:Int):Int:=Int.tmod (IntKind.wrap .i64 (Int.tmod code 256+256)) 256
theorem G72 (code:Int):0≤De5 code∧De5 code≤255:=by
 have h1:=Int.tmod_lt_of_pos code (show (0:Int)<256 by omega)
 have h2:-256<Int.tmod code 256:=by
  have:=Int.lt_tmod_of_pos code (show (0:Int)<256 by omega)
  omega
 unfold De5
 rw [A8]
 generalize Int.tmod code 256=x at h1 h2
 rw [Hq2 (by omega)]
 omega
abbrev Dt7 (p:ProcS) (code:Int):ProcS:=⟨2,p.parent,p.group,De5 code,0,p.mask,p.ignored,p.caught,Bs2,rfl⟩
theorem Hh5 {p:ProcS} (h:okS p=true) (code:Int):okS (Dt7 p code)=true:=by
 have hc:=G72 code
 unfold okS at h ⊢
 rw [if_pos (show (Dt7 p code).state=2 from rfl)]
 simp only [Bool.and_eq_true,Bool.not_eq_true',Bool.or_eq_false_iff,decide_eq_false_iff_not] at h ⊢
 obtain ⟨⟨⟨⟨⟨⟨⟨⟨a1,a2⟩,a3⟩,a4⟩,a5⟩,a6⟩,a7⟩,a8⟩,⟨⟨⟨⟨b1,b2⟩,b3⟩,b4⟩,b5⟩,d1,d2⟩:=h
 refine ⟨⟨⟨⟨⟨⟨⟨⟨by decide,by decide⟩,a3⟩,a4⟩,a5⟩,a6⟩,by show ¬ De5 code<0;omega⟩,by show ¬ De5 code>255;omega⟩,⟨⟨⟨⟨by simp [Hz1],b2⟩,b3⟩,b4⟩,b5⟩,by decide,by simp⟩
def Dl9 (nc:Nat) (X:CX) (i code:Int):List Value × CX :=
 if (J6 X i).2≠0 then (Q8 0 (J6 X i).2 false,X)
 else if (vS (Ay1 (N1 nc X i) i) i).2≠1 then (Q8 0 105 false,Ay1 (N1 nc X i) i)
 else if (vS (Ay1 (N1 nc X i) i) i).1.parent>0∧(vS (Ay1 (N1 nc X i) i) ((vS (Ay1 (N1 nc X i) i) i).1.parent-1)).2=1∧(vS (Ay1 (N1 nc X i) i) ((vS (Ay1 (N1 nc X i) i) i).1.parent-1)).1.state≠2 then (Q8 0 0 false,Bj3 (Ay1 (N1 nc X i) i) i (Dt7 (vS (Ay1 (N1 nc X i) i) i).1 code))
 else (Q8 0 0 false,B78 (Ay1 (N1 nc X i) i) i)
theorem E96 {nc:Nat} {X:CX} (c:Clean nc X) {i:Int} (hi:0≤i∧i<8):Clean nc (N1 nc X i):=by
 unfold N1
 split
 ·rename_i h1
  have hk:okS (vS X i).1=true:=by
   rcases Dx5 c hi with ⟨h2,_⟩|⟨_,h2⟩
   ·rw [h1] at h2;cases h2
   ·exact h2
  have hin:=Bj6 (rd X ⟨1,i⟩)
  exact (P7 (Ds2 _ _ (D61 hk) c) hi (Gg0 hk) ⟨hin.a,hin.b,hin.c,hin.d⟩).2.1
 ·exact c
theorem Hg0 {nc:Nat} {X:CX} (c:Clean nc X) (i:Int):Clean nc (Ay1 X i):=E06 _ _ (Bx6 c _ 8 0 (by omega) (by omega)) c
theorem Hh3 {p:ProcS} (h:okS p=true):0≤p.parent∧p.parent≤8:=by
 unfold okS at h
 simp only [Bool.and_eq_true,Bool.not_eq_true',Bool.or_eq_false_iff,decide_eq_false_iff_not] at h
 have:=h.1
 omega
theorem H46 (p:ProcS):B20 (D3 p) 8 (Bs2.map int)=some (D3 (Aj5 p)):=by
 have hlen:(D3 p).length=16:=A65 p
 have e:Nat.ble (8+(Bs2.map int).length) (D3 p).length=true:=by rw [hlen];rfl
 rw [B20,e]
 have h9:(D3 p).drop (8+(Bs2.map int).length)=[]:=List.drop_eq_nil_of_le (by rw [hlen];decide)
 rw [h9];rfl
theorem Hh0 (b k:Nat) (F:Fr) (X:CX) (ok:FrOk F) {nc:Nat} (c:Clean nc X) (i code:Int) (hi:0≤i∧i<8):Ct B0 Bq6 [P0 b,int i,int code] [cmC b k F X] fun v own=>v=.agg ⟨(Dl9 nc X i code).1⟩∧own [cmC b k F (Dl9 nc X i code).2]:=by
 have c1:=E96 c hi
 have c2:=Hg0 c1 i
 unfold Dl9
 refine Ct.of G94 rfl fun h r=>Tr.eq (G91 ..) ?_;refine Je ?_
 refine Yn fun b0 h=>?_
 refine Yc (D66 b k F X ok c i hi) ?_;rintro _ h ⟨rfl,o⟩<;>refine Jh o ?_
 (refine Jc ?_;unhygienic intros)
 refine Yn fun b1 h=>?_
 (refine Ja ?_;unhygienic intros)
 by_cases h0:(J6 X i).2=0
 case neg =>
  rw [if_pos h0]
  refine Yt (by simpa using h0) ?_
  refine Yc (Bw1 (J6 X i).2) ?_;rintro _ h ⟨rfl,o⟩<;>(refine Jf o ?_;unhygienic intros)
  refine Ys fun o=>?_
  exact ⟨rfl,o.sub⟩
 rw [if_neg (by simpa using h0)]
 refine Yf (by simpa using h0) ?_
 refine Yc (Ha3 b k F X ok c i hi) ?_;rintro _ h ⟨rfl,o⟩<;>refine Jh o ?_
 (refine Ja ?_;unhygienic intros)
 refine Yc (Ht3 b k F _ ok c1 i hi) ?_;rintro _ h ⟨rfl,o⟩<;>refine Jh o ?_
 generalize Ay1 (N1 nc X i) i=Y at c2
 (refine Ja ?_;unhygienic intros)
 refine Yc (Ba1 b k F Y ok i) ?_;rintro _ h ⟨rfl,o⟩<;>refine Jh o ?_
 rw [Aj9 c2 hi]
 dsimp only
 (refine Jc ?_;unhygienic intros)
 refine Yn fun b2 h=>?_
 (refine Ja ?_;unhygienic intros)
 by_cases h1:(vS Y i).2=1
 case neg =>
  rw [if_pos h1]
  refine Yt (by simpa using h1) ?_
  refine Yc (Bw1 105) ?_;rintro _ h ⟨rfl,o⟩<;>(refine Jf o ?_;unhygienic intros)
  refine Ys fun o=>?_
  exact ⟨rfl,o.sub⟩
 rw [if_neg (by simpa using h1)]
 refine Yf (by simpa using h1) ?_
 have hk:okS (vS Y i).1=true:=by
  rcases Dx5 c2 hi with ⟨h2,_⟩|⟨_,h2⟩
  ·rw [h1] at h2;cases h2
  ·exact h2
 have hin:InS (vS Y i).1:=Bj6 _
 have hpar:=Hh3 hk
 have hdead:=Hh5 hk code
 generalize (vS Y i).1=p at hk hpar hdead hin
 obtain ⟨z1,_⟩:=Ai3 c2 hi
 (refine Ja ?_;unhygienic intros)
 by_cases h2:p.parent>0
 case neg =>
  rw [if_neg (fun h=>h2 h.1)]
  refine Yf (by simpa using h2) ?_
  refine Yc (B12 b k F Y ok i) ?_;rintro _ h ⟨rfl,o⟩<;>refine Jh o ?_
  rw [z1]
  dsimp only
  (refine Ja ?_;unhygienic intros)
  refine Yc (Bw6 true 0) ?_;rintro _ h ⟨rfl,o⟩<;>refine Jh o ?_
  rw [if_pos trivial]
  (refine Ja ?_;unhygienic intros)
  refine Ys fun o=>?_
  exact ⟨rfl,o.sub⟩
 refine Yt (by simpa using h2) ?_
 (refine Ja ?_;unhygienic intros)
 rw [show IntKind.wrap .i64 (p.parent-1)=p.parent-1 by rw [A8];omega]
 refine Yc (Ba1 b k F Y ok (p.parent-1)) ?_;rintro _ h ⟨rfl,o⟩<;>refine Jh o ?_
 rw [Aj9 c2 (show 0≤p.parent-1∧p.parent-1<8 by omega)]
 dsimp only
 (refine Jc ?_;unhygienic intros)
 refine Yn fun b3 h=>?_
 (refine Jb ?_;unhygienic intros)
 refine Tr.andG (c:=(vS Y (p.parent-1)).1.state != 2) (fun hb=>?_) ?_
 ·exact Jz
 by_cases h3:(vS Y (p.parent-1)).2=1∧(vS Y (p.parent-1)).1.state≠2
 ·rw [if_pos ⟨h2,h3⟩]
  refine Yt (by simp [h3.1,h3.2]) ?_
  obtain ⟨w1,_⟩:=P7 c2 hi hdead ⟨by simp,hin.b,hin.c,hin.d⟩
  (refine Ja ?_;unhygienic intros)
  rw [show (((D3 p).set 0 (int 2)).set 3 (int (De5 code))).set 4 (int 0)=D3 ⟨2,p.parent,p.group,De5 code,0,p.mask,p.ignored,p.caught,p.fds,p.len⟩ from rfl]
  refine Gs (fun h=>?_) (by exact H46 _)
  rw [show Aj5 (⟨2,p.parent,p.group,De5 code,0,p.mask,p.ignored,p.caught,p.fds,p.len⟩:ProcS)=Dt7 p code from rfl]
  generalize Dt7 p code=q at w1
  (refine Ja ?_;unhygienic intros)
  refine Yc (B97 b k F Y ok i q) ?_;rintro _ h ⟨rfl,o⟩<;>refine Jh o ?_
  rw [w1]
  dsimp only
  (refine Ja ?_;unhygienic intros)
  refine Yc (Bw6 true 0) ?_;rintro _ h ⟨rfl,o⟩<;>refine Jh o ?_
  rw [if_pos trivial]
  (refine Ja ?_;unhygienic intros)
  refine Ys fun o=>?_
  exact ⟨rfl,o.sub⟩
 ·rw [if_neg (fun h=>h3 h.2)]
  refine Yf (by
   by_cases h4:(vS Y (p.parent-1)).2=1
   ·have:(vS Y (p.parent-1)).1.state=2:=Classical.byContradiction fun h5=>h3 ⟨h4,h5⟩
    simp [this]
   ·simp [h4]) ?_
  refine Yc (B12 b k F Y ok i) ?_;rintro _ h ⟨rfl,o⟩<;>refine Jh o ?_
  rw [z1]
  dsimp only
  (refine Ja ?_;unhygienic intros)
  refine Yc (Bw6 true 0) ?_;rintro _ h ⟨rfl,o⟩<;>refine Jh o ?_
  rw [if_pos trivial]
  (refine Ja ?_;unhygienic intros)
  refine Ys fun o=>?_
  exact ⟨rfl,o.sub⟩
abbrev PV:=Int→ProcS × Int
structure Fam (X:CX) (P:PV) (n:Int):Prop where
 c:Clean 3 X
 at_:∀ j:Int,0≤j∧j<8→vS X j=P j
 fl:vF X 0=(⟨3,0,n,0⟩,1)
def upd (P:PV) (i:Int) (v:ProcS × Int):PV:=fun j=>if j=i then v else P j
def Da0 (P:PV):Nat→Int→Int
 | 0,_=>-1
 | m+1,i=>if (P i).2=0 then i else Da0 P m (i+1)
theorem G29 {X:CX} {P:PV} {n:Int} (A:Fam X P n):∀ (m:Nat) (i:Int),0≤i→i+m=8→Z2 X m i=Da0 P m i
 | 0,_,_,_=>rfl
 | m+1,i,h0,hi=>by
  rw [show Z2 X (m+1) i=if (vS X i).2=0 then i else Z2 X m (i+1) from rfl,show Da0 P (m+1) i=if (P i).2=0 then i else Da0 P m (i+1) from rfl,A.at_ i (by omega),G29 A m (i+1) (by omega) (by omega)]
structure Live (v:ProcS × Int):Prop where
 a:v.2=1
 b:v.1.state=1
 c:v.1.fds=p0.fds
theorem Gw6 {X:CX} {P:PV} {n:Int} (A:Fam X P n) (hn:0≤n∧n<64) {i:Int} (hi:0≤i∧i<8) (v:Live (P i)) {m:Int} (hm:Da0 P 8 0=m) (h0:0≤m) :
  (Av2 X i).1=Q8 m 0 false∧Fam (Av2 X i).2 (upd P m (Al2 (P i).1 i,1)) (n+1):=by
 have e0:=A.at_ i hi
 have ef:Z2 X 8 0=m:=by rw [G29 A 8 0 (by omega) (by omega)];exact hm
 have hm8:0≤m∧m<8:=by
  rcases Dv2 (X:=X) 8 0 (by omega) (by omega) with h|h<;>omega
 have es:J6 X i=((vS X i).1,0):=by unfold J6;rw [if_pos (by rw [e0];exact ⟨v.a,v.b⟩)]
 have hfd:(vS X i).1.fds=p0.fds:=by rw [e0];exact v.c
 have em:=If4 hfd
 have ee:Ah8 X H89 p0.fds=0:=by
  show (if (1:Int)=0 then _ else if (vF X (1-1)).2≠1 then (105:Int) else if (vF X (1-1)).1.refs+1>64 then 123 else 0)=0
  rw [if_neg (by decide),show (1-1:Int)=0 from rfl,A.fl,if_neg (by simp),if_neg (by show ¬ n+1>64;omega)]
 have eh:(S4 X (vS X i).1).1=0:=by unfold S4;rw [em,hfd,ee];rfl
 obtain ⟨s1,s2,s3,s4⟩:=E56 A.c hi (by rw [es])
 have hok:okS (Al2 (vS X i).1 i)=true:=E31 s3 s2 hi
 have hin:InS (Al2 (vS X i).1 i):=by
  have:=Bj6 (rd X ⟨1,i⟩)
  exact ⟨by simp,this.b,this.c,this.d⟩
 obtain ⟨a1,a2,a3,a4⟩:=Dp2 A.c (D61 s3) eh
 obtain ⟨w1,w2,w3,w4,w5⟩:=P7 a1 hm8 hok hin
 have e:Av2 X i=(Q8 m 0 false,Bj3 (S4 X (vS X i).1).2 m (Al2 (vS X i).1 i)):=by
  unfold Av2
  rw [es,if_neg (by simp),ef,if_neg (by omega),if_neg (by simpa using eh)]
 rw [e]
 refine ⟨rfl,w2,fun j hj=>?_,?_⟩
 ·show vS (Bj3 _ m _) j=_
  rw [w3 j hj,a2 j hj,A.at_ j hj,e0];rfl
 ·show vF (Bj3 _ m _) 0=_
  rw [w4 0 (by omega),a3 0 (by omega),em,if_pos (by decide),A.fl];rfl
theorem Hv0 {X:CX} {P:PV} {n:Int} (A:Fam X P n) (hn:2≤n∧n≤64) {i:Int} (hi:0≤i∧i<8) (v:Live (P i)):Fam (N1 3 X i) (upd P i (Aj5 (P i).1,1)) (n-1):=by
 have e0:=A.at_ i hi
 have hk2:okF (Bj0 ⟨3,0,n,0⟩ (-1))=true:=by
  simp [okF];omega
 have ev:Bb3 3 X 0=(0,B61 X 0 (Bj0 ⟨3,0,n,0⟩ (-1))):=by
  unfold Bb3
  rw [A.fl,if_neg (by simp),if_pos (by show n-1>0;omega)]
 obtain ⟨w1,w2,w3,w4,w5⟩:=As7 A.c (i:=0) (by omega) hk2
 have el:Bq7 3 p0.fds X=B61 X 0 (Bj0 ⟨3,0,n,0⟩ (-1)):=by
  show (Bb3 3 X (1-1)).2=_
  rw [show (1-1:Int)=0 from rfl,ev]
 have hk:okS (vS X i).1=true:=by
  rcases Dx5 A.c hi with ⟨h2,_⟩|⟨_,h2⟩
  ·rw [e0,v.a] at h2;cases h2
  ·exact h2
 have hin:=Bj6 (rd X ⟨1,i⟩)
 obtain ⟨x1,x2,x3,x4,x5⟩:=P7 w2 hi (Gg0 hk) ⟨hin.a,hin.b,hin.c,hin.d⟩
 have e:N1 3 X i=Bj3 (B61 X 0 (Bj0 ⟨3,0,n,0⟩ (-1))) i (Aj5 (vS X i).1):=by
  unfold N1
  rw [if_pos (by rw [e0];exact v.a),show (vS X i).1.fds=p0.fds by rw [e0];exact v.c,el]
 rw [e]
 refine ⟨x2,fun j hj=>?_,?_⟩
 ·rw [x3 j hj,w3 j hj,A.at_ j hj,e0];rfl
 ·rw [x4 0 (by omega),w4 0 (by omega),if_pos rfl]
  show ((⟨3,0,n+-1,0⟩:FileS),(1:Int))=_
  rw [Int.sub_eq_add_neg]
def Q1 (P:PV) (q:Int→ProcS→Bool):Nat→Int→List (Int × ProcS)
 | 0,_=>[]
 | m+1,i=>if (P i).2=1∧q i (P i).1=true then (i,(P i).1)::Q1 P q m (i+1) else Q1 P q m (i+1)
theorem Em2 {X:CX} {P:PV} {n:Int} (A:Fam X P n) (q:Int→ProcS→Bool):∀ (m:Nat) (i:Int),0≤i→i+m=8→L9 X q m i=Q1 P q m i
 | 0,_,_,_=>rfl
 | m+1,i,h0,hi=>by
  rw [show L9 X q (m+1) i=if (vS X i).2=1∧q i (vS X i).1=true then (i,(vS X i).1)::L9 X q m (i+1) else L9 X q m (i+1) from rfl,
   show Q1 P q (m+1) i=if (P i).2=1∧q i (P i).1=true then (i,(P i).1)::Q1 P q m (i+1) else Q1 P q m (i+1) from rfl,A.at_ i (by omega),Em2 A q m (i+1) (by omega) (by omega)]
def Br1:List (Int × ProcS)→PV→PV
 | [],P=>P
 | s::l,P=>Br1 l (upd P s.1 (if s.2.state=2 then (.zero,0) else (Bs0 s.2,1)))
theorem G83:∀ (L:List (Int × ProcS)) (X:CX) (P:PV) (n:Int),SlOk L→Fam X P n→Fam (Da8 L X) (Br1 L P) n
 | [],X,P,n,_,A=>A
 | s::l,X,P,n,hL,A=>by
  obtain ⟨hj,hk,hin⟩:=hL s (by simp)
  rw [show Da8 (s::l) X=Da8 l (if s.2.state=2 then B78 X s.1 else Bj3 X s.1 (Bs0 s.2)) from rfl,show Br1 (s::l) P=Br1 l (upd P s.1 (if s.2.state=2 then (.zero,0) else (Bs0 s.2,1))) from rfl]
  refine G83 l _ _ n (fun x hx=>hL x (by simp [hx])) ?_
  split
  ·obtain ⟨_,z2,z3,z4,_⟩:=Ai3 A.c hj
   exact ⟨z2,fun j h=>by rw [z3 j h,A.at_ j h];rfl,by rw [z4 0 (by omega)];exact A.fl⟩
  ·obtain ⟨_,z2,z3,z4,_⟩:=P7 A.c hj (Gk9 hk) ⟨hin.a,hin.b,hin.c,hin.d⟩
   exact ⟨z2,fun j h=>by rw [z3 j h,A.at_ j h];rfl,by rw [z4 0 (by omega)];exact A.fl⟩
theorem E84 (P:PV) (q:Int→ProcS→Bool):∀ (m:Nat) (i:Int),∀ s ∈ Q1 P q m i,q s.1 s.2=true
 | 0,i,s,hs=>by simp [Q1] at hs
 | m+1,i,s,hs=>by
  rw [show Q1 P q (m+1) i=if (P i).2=1∧q i (P i).1=true then (i,(P i).1)::Q1 P q m (i+1) else Q1 P q m (i+1) from rfl] at hs
  split at hs
  ·rename_i h1
   rcases List.mem_cons.1 hs with rfl|h2
   ·exact h1.2
   ·exact E84 P q m (i+1) s h2
  ·exact E84 P q m (i+1) s hs
theorem Hi4 {i:Int}:∀ (L:List (Int × ProcS)) (P:PV),(∀ s ∈ L,s.1≠i)→Br1 L P i=P i
 | [],P,_=>rfl
 | s::l,P,h=>by
  rw [show Br1 (s::l) P=Br1 l (upd P s.1 (if s.2.state=2 then (.zero,0) else (Bs0 s.2,1))) from rfl,Hi4 l _ (fun x hx=>h x (by simp [hx]))]
  unfold upd
  rw [if_neg (fun e=>h s (by simp) e.symm)]
def Bb4 (P:PV) (i:Int):PV:=Br1 (Q1 (upd P i (Aj5 (P i).1,1)) (Di7 i) 8 0) (upd P i (Aj5 (P i).1,1))
def B31 (P:PV) (i code:Int):PV :=
 if (P i).1.parent>0∧(Bb4 P i ((P i).1.parent-1)).2=1∧(Bb4 P i ((P i).1.parent-1)).1.state≠2 then upd (Bb4 P i) i (Dt7 (Aj5 (P i).1) code,1) else upd (Bb4 P i) i (.zero,0)
theorem Gw7 {X:CX} {P:PV} {n:Int} (A:Fam X P n) (hn:2≤n∧n≤64) {i:Int} (hi:0≤i∧i<8) (v:Live (P i)) (code:Int):(Dl9 3 X i code).1=Q8 0 0 false∧Fam (Dl9 3 X i code).2 (B31 P i code) (n-1):=by
 have e0:=A.at_ i hi
 have A1:=Hv0 A hn hi v
 have es:(J6 X i).2=0:=by unfold J6;rw [if_pos (by rw [e0];exact ⟨v.a,v.b⟩)]
 have A2:Fam (Ay1 (N1 3 X i) i) (Bb4 P i) (n-1):=by
  have hs:=Em2 A1 (Di7 i) 8 0 (by omega) (by omega)
  have:=G83 _ _ _ _ (Bx6 A1.c (Di7 i) 8 0 (by omega) (by omega)) A1
  unfold Ay1 Bb4
  rw [hs] at this ⊢
  exact this
 have ei:Bb4 P i i=(Aj5 (P i).1,1):=by
  unfold Bb4
  rw [Hi4 _ _ (fun s hs=>by
   have:=E84 _ _ _ _ s hs
   simp [Di7] at this
   exact this.1)]
  unfold upd;rw [if_pos rfl]
 unfold Dl9 B31
 rw [if_neg (by simpa using es)]
 generalize Ay1 (N1 3 X i) i=Y at A2
 have ey:vS Y i=(Aj5 (P i).1,1):=by rw [A2.at_ i hi,ei]
 rw [ey,if_neg (by simp)]
 have hk:okS (vS Y i).1=true:=by
  rcases Dx5 A2.c hi with ⟨h2,_⟩|⟨_,h2⟩
  ·rw [ey] at h2;cases h2
  ·exact h2
 have hin:InS (vS Y i).1:=Bj6 _
 rw [ey] at hk hin
 have hpar:=Hh3 hk
 simp only at hk hin hpar ⊢
 have hdead:=Hh5 hk code
 obtain ⟨_,z2,z3,z4,_⟩:=Ai3 A2.c hi
 obtain ⟨_,w2,w3,w4,_⟩:=P7 A2.c hi hdead ⟨by simp,hin.b,hin.c,hin.d⟩
 by_cases hp:(P i).1.parent>0
 ·rw [A2.at_ ((P i).1.parent-1) (by omega)]
  by_cases h3:(P i).1.parent>0∧(Bb4 P i ((P i).1.parent-1)).2=1∧(Bb4 P i ((P i).1.parent-1)).1.state≠2
  ·rw [if_pos h3,if_pos h3]
   exact ⟨rfl,w2,fun j h=>by rw [w3 j h,A2.at_ j h];rfl,by rw [w4 0 (by omega)];exact A2.fl⟩
  ·rw [if_neg h3,if_neg h3]
   exact ⟨rfl,z2,fun j h=>by rw [z3 j h,A2.at_ j h];rfl,by rw [z4 0 (by omega)];exact A2.fl⟩
 ·rw [if_neg (fun h=>hp h.1),if_neg (fun h=>hp h.1)]
  exact ⟨rfl,z2,fun j h=>by rw [z3 j h,A2.at_ j h];rfl,by rw [z4 0 (by omega)];exact A2.fl⟩
def Bq9 (n:Nat):List (Int × ProcS)→PV→List Value × PV
 | [],P=>(if n=0 then Q8 0 110 false else Q8 0 0 true,P)
 | s::l,P=>if s.2.state=2 then (Q8 (256*s.1+s.2.code) 0 false,upd P s.1 (.zero,0)) else Bq9 n l P
theorem Gp7 {X:CX} {P:PV} {n:Int} (A:Fam X P n) (k:Nat):∀ (L:List (Int × ProcS)),SlOk L→(Bz5 X k L).1=(Bq9 k L P).1∧Fam (Bz5 X k L).2 (Bq9 k L P).2 n
 | [],_=>⟨rfl,A⟩
 | s::l,hL=>by
  obtain ⟨hj,_,_⟩:=hL s (by simp)
  rw [show Bz5 X k (s::l)=if s.2.state=2 then (Q8 (256*s.1+s.2.code) 0 false,B78 X s.1) else Bz5 X k l from rfl,show Bq9 k (s::l) P=if s.2.state=2 then (Q8 (256*s.1+s.2.code) 0 false,upd P s.1 (.zero,0)) else Bq9 k l P from rfl]
  split
  ·obtain ⟨_,z2,z3,z4,_⟩:=Ai3 A.c hj
   exact ⟨rfl,z2,fun j h=>by rw [z3 j h,A.at_ j h];rfl,by rw [z4 0 (by omega)];exact A.fl⟩
  ·exact Gp7 A k l fun x hx=>hL x (by simp [hx])
def Du6 (P:PV) (i:Int):List Value × PV:=Bq9 (Q1 P (fun _ p=>p.parent==i+1) 8 0).length (Q1 P (fun _ p=>p.parent==i+1) 8 0) P
theorem Gy0 {X:CX} {P:PV} {n:Int} (A:Fam X P n) {i:Int} (hi:0≤i∧i<8) (v:Live (P i)):(Da1 X i).1=(Du6 P i).1∧Fam (Da1 X i).2 (Du6 P i).2 n:=by
 have e0:=A.at_ i hi
 have es:(J6 X i).2=0:=by unfold J6;rw [if_pos (by rw [e0];exact ⟨v.a,v.b⟩)]
 have hs:=Em2 A (fun _ p=>p.parent==i+1) 8 0 (by omega) (by omega)
 have ho:=Bx6 A.c (fun _ p=>p.parent==i+1) 8 0 (by omega) (by omega)
 unfold Da1 Du6
 rw [if_neg (by simpa using es)]
 rw [hs] at ho ⊢
 exact Gp7 A _ _ ho
def FP0:PV:=upd (fun _=>(.zero,0)) 0 (p0,1)
theorem Ik7:Fam X1 FP0 1:=by
 refine ⟨Ef4,fun j hj=>?_,by kernel_rfl⟩
 have:j=0∨j=1∨j=2∨j=3∨j=4∨j=5∨j=6∨j=7:=by omega
 rcases this with rfl|rfl|rfl|rfl|rfl|rfl|rfl|rfl<;>(clear hj;show (_:ProcS × Int)=_;kernel_rfl)
abbrev A69 (w:Int):ProcS:=⟨1,w,0,0,0,0,0,0,[1,0,0,0,0,0,0,0],rfl⟩
def G4 (L:List Int) (ex:Int):PV:=fun j=>if j=0 then (A69 0,1) else if j ∈ L then (A69 1,1) else if j=ex then (A69 (if 1 ∈ L then 2 else 0),1) else (.zero,0)
theorem Fam.to {X:CX} {P P':PV} {n:Int} (A:Fam X P n) (e:∀ j:Int,0≤j∧j<8→P j=P' j):Fam X P' n:=⟨A.c,fun j h=>(A.at_ j h).trans (e j h),A.fl⟩
theorem A85 (P:PV) (q:Int→ProcS→Bool) (s:Int × ProcS):∀ (m:Nat) (i:Int),s ∈ Q1 P q m i↔(i≤s.1∧s.1<i+m)∧((P s.1).2=1∧q s.1 (P s.1).1=true)∧s.2=(P s.1).1
 | 0,i=>by
  refine ⟨fun h=>by simp [Q1] at h,fun ⟨⟨h1,h2⟩,_⟩=>by omega⟩
 | m+1,i=>by
  rw [show Q1 P q (m+1) i=if (P i).2=1∧q i (P i).1=true then (i,(P i).1)::Q1 P q m (i+1) else Q1 P q m (i+1) from rfl]
  have ih:=A85 P q s m (i+1)
  obtain ⟨j,p⟩:=s
  simp only at ih ⊢
  by_cases hj:j=i
  ·subst hj
   split
   ·rename_i h1
    rw [List.mem_cons,ih]
    constructor
    ·rintro (h|h)
     ·cases h;exact ⟨by omega,h1,rfl⟩
     ·exact ⟨by omega,h.2⟩
    ·intro h;left;rw [h.2.2]
   ·rename_i h1
    rw [ih]
    constructor
    ·intro h;omega
    ·intro h;exact absurd h.2.1 h1
  ·have:(j,p) ∈ (if (P i).2=1∧q i (P i).1=true then (i,(P i).1)::Q1 P q m (i+1) else Q1 P q m (i+1))↔(j,p) ∈ Q1 P q m (i+1):=by
    split
    ·rw [List.mem_cons]
     constructor
     ·rintro (h|h)
      ·cases h;exact absurd rfl hj
      ·exact h
     ·exact .inr
    ·rfl
   rw [this,ih]
   constructor
   ·intro h;exact ⟨by omega,h.2⟩
   ·intro h;exact ⟨by omega,h.2⟩
theorem G62 (f:Int→ProcS) (j:Int):∀ (L:List (Int × ProcS)) (P:PV),(∀ s ∈ L,s.2=f s.1)→Br1 L P j=if j ∈ L.map (fun s=>s.1) then (if (f j).state=2 then (.zero,0) else (Bs0 (f j),1)) else P j
 | [],P,_=>by simp [Br1]
 | s::l,P,h=>by
  rw [show Br1 (s::l) P=Br1 l (upd P s.1 (if s.2.state=2 then (.zero,0) else (Bs0 s.2,1))) from rfl,G62 f j l _ (fun x hx=>h x (by simp [hx]))]
  by_cases h1:j ∈ l.map fun s=>s.1
  ·have h3:j ∈ (s::l).map fun s=>s.1:=by rw [List.map_cons];exact List.mem_cons_of_mem _ h1
   rw [if_pos h1,if_pos h3]
  ·rw [if_neg h1]
   by_cases h2:j=s.1
   ·have h3:j ∈ (s::l).map fun s=>s.1:=by rw [List.map_cons,h2];exact List.mem_cons_self
    rw [if_pos h3,h2,← h s (by simp)];unfold upd;rw [if_pos rfl]
   ·have h3:j ∉ (s::l).map fun s=>s.1:=by
     rw [List.map_cons,List.mem_cons,not_or];exact ⟨h2,h1⟩
    rw [if_neg h3];unfold upd;rw [if_neg h2]
structure LOk (L:List Int) (ex:Int):Prop where
 a:∀ j ∈ L,1≤j∧j<8
 b:ex ∉ L
 c:0≤ex∧ex<8
theorem D52 (L:List Int) (ex:Int):G4 L ex 0=(A69 0,1):=by unfold G4;rw [if_pos rfl]
theorem Dm4 {L:List Int} {ex j:Int} (h:LOk L ex) (hj:j ∈ L):G4 L ex j=(A69 1,1):=by
 have:=h.a j hj
 unfold G4;rw [if_neg (by omega),if_pos hj]
theorem D63 {L:List Int} {ex:Int} (h:LOk L ex) (h0:ex≠0):G4 L ex ex=(A69 (if 1 ∈ L then 2 else 0),1):=by
 unfold G4;rw [if_neg h0,if_neg h.b,if_pos rfl]
theorem D45 {L:List Int} {ex j:Int} (h0:j≠0) (h1:j ∉ L) (h2:j≠ex):G4 L ex j=(.zero,0):=by
 unfold G4;rw [if_neg h0,if_neg h1,if_neg h2]
theorem Dk3 {L:List Int} {ex:Int} (h:LOk L ex) (j:Int):(j=0∧G4 L ex j=(A69 0,1))∨(j ∈ L∧j≠0∧G4 L ex j=(A69 1,1))∨(j ∉ L∧j=ex∧ex≠0∧G4 L ex j=(A69 (if 1 ∈ L then 2 else 0),1))∨(j ∉ L∧j≠0∧j≠ex∧G4 L ex j=(.zero,0)):=by
 by_cases h0:j=0
 ·exact .inl ⟨h0,by rw [h0];exact D52 ..⟩
 ·by_cases h1:j ∈ L
  ·exact .inr (.inl ⟨h1,h0,Dm4 h h1⟩)
  ·by_cases h2:j=ex
   ·exact .inr (.inr (.inl ⟨h1,h2,by omega,by rw [h2];exact D63 h (by omega)⟩))
   ·exact .inr (.inr (.inr ⟨h1,h0,h2,D45 h0 h1 h2⟩))
theorem Go1 {L:List Int} {ex x:Int} (h:LOk L ex) (hx:x ∈ L) (j:Int) (hj:0≤j∧j<8) :
  Bb4 (G4 L ex) x j=if j=x then (Aj5 (A69 1),1) else if j=ex∧ex≠0∧x=1 then (A69 0,1) else G4 L ex j:=by
 have hx1:=h.a x hx
 unfold Bb4
 rw [Dm4 h hx,G62 (fun i=>(upd (G4 L ex) x (Aj5 (A69 1),1) i).1) j _ _ (fun s hs=>((A85 _ _ s 8 0).1 hs).2.2)]
 have hm:(j ∈ (Q1 (upd (G4 L ex) x (Aj5 (A69 1),1)) (Di7 x) 8 0).map fun s=>s.1)↔(j≠x∧(G4 L ex j).2=1∧(G4 L ex j).1.parent=x+1):=by
  rw [List.mem_map]
  constructor
  ·rintro ⟨s,hs,rfl⟩
   obtain ⟨_,⟨h1,h2⟩,_⟩:=(A85 _ _ s 8 0).1 hs
   simp only [Di7,Bool.and_eq_true,bne_iff_ne,beq_iff_eq,ne_eq] at h2
   unfold upd at h1 h2
   rw [if_neg h2.1] at h1 h2
   exact ⟨h2.1,h1,h2.2⟩
  ·rintro ⟨h1,h2,h3⟩
   refine ⟨(j,(G4 L ex j).1),(A85 _ _ _ 8 0).2 ⟨⟨by simpa using hj.1,by simp;omega⟩,?_,?_⟩,rfl⟩
   ·simp only [Di7,Bool.and_eq_true,bne_iff_ne,beq_iff_eq,ne_eq]
    unfold upd;rw [if_neg h1];exact ⟨h2,h1,h3⟩
   ·unfold upd;rw [if_neg h1]
 by_cases h1:j=x
 ·rw [if_neg (by rw [hm];exact fun k=>k.1 h1),if_pos h1];unfold upd;rw [if_pos h1]
 ·rw [if_neg h1]
  by_cases h2:j=ex∧ex≠0∧x=1
  ·obtain ⟨rfl,h3,rfl⟩:=h2
   have h4:=hm.2 (by rw [D63 h h3,if_pos hx];exact ⟨h1,rfl,rfl⟩)
   rw [if_pos h4]
   refine Eq.trans ?_ (if_pos ⟨rfl,h3,rfl⟩).symm
   unfold upd;rw [if_neg h1,D63 h h3,if_neg (by simp)]
  ·rw [if_neg h2,if_neg (by
    rw [hm]
    rintro ⟨_,h4,h5⟩
    rcases Dk3 h j with ⟨_,e⟩|⟨_,_,e⟩|⟨_,e1,e2,e⟩|⟨_,_,_,e⟩<;>rw [e] at h4 h5
    ·simp at h5;omega
    ·simp at h5;omega
    ·simp only at h5
     split at h5
     ·exact h2 ⟨e1,e2,by omega⟩
     ·omega
    ·simp at h4)]
   unfold upd;rw [if_neg h1]
theorem Dx8 {L:List Int} {ex x:Int} (h:LOk L ex) (hx:x ∈ L) (code:Int) (j:Int) (hj:0≤j∧j<8) :
  B31 (G4 L ex) x code j=if j=x then (Dt7 (Aj5 (A69 1)) code,1) else if j=ex∧ex≠0∧x=1 then (A69 0,1) else G4 L ex j:=by
 have hx1:=h.a x hx
 unfold B31
 have e0:=Go1 h hx 0 (by omega)
 rw [if_neg (by omega),if_neg (by omega),D52] at e0
 rw [Dm4 h hx]
 rw [show (A69 1).parent-1=0 from rfl,e0,if_pos ⟨by decide,rfl,by decide⟩]
 unfold upd
 split
 ·rfl
 ·rename_i h1
  rw [Go1 h hx j hj,if_neg h1]
theorem Go6 (n:Nat) (P:PV) (s:Int × ProcS):∀ (l:List (Int × ProcS)),s ∈ l→s.2.state=2→(∀ t ∈ l,t.2.state=2→t=s)→Bq9 n l P=(Q8 (256*s.1+s.2.code) 0 false,upd P s.1 (.zero,0))
 | [],h,_,_=>by simp at h
 | t::l,h,h2,hl=>by
  rw [show Bq9 n (t::l) P=if t.2.state=2 then (Q8 (256*t.1+t.2.code) 0 false,upd P t.1 (.zero,0)) else Bq9 n l P from rfl]
  split
  ·rename_i h3
   rw [hl t (by simp) h3]
  ·rename_i h3
   refine Go6 n P s l ?_ h2 fun u hu=>hl u (by simp [hu])
   rcases List.mem_cons.1 h with rfl|h4
   ·exact absurd h2 h3
   ·exact h4
theorem Gz6 (n:Nat) (P:PV):∀ (l:List (Int × ProcS)),(∀ t ∈ l,t.2.state≠2)→Bq9 n l P=(if n=0 then Q8 0 110 false else Q8 0 0 true,P)
 | [],_=>rfl
 | t::l,hl=>by
  rw [show Bq9 n (t::l) P=if t.2.state=2 then (Q8 (256*t.1+t.2.code) 0 false,upd P t.1 (.zero,0)) else Bq9 n l P from rfl,if_neg (hl t (by simp))]
  exact Gz6 n P l fun u hu=>hl u (by simp [hu])
theorem H01 {L L':List Int} {ex x:Int} (h:LOk L ex) (hx:x ∈ L) (hL:∀ j,j ∈ L'↔j ∈ L∧j≠x) (code:Int) :
  (Du6 (B31 (G4 L ex) x code) 0).1=Q8 (256*x+De5 code) 0 false∧∀ j:Int,0≤j∧j<8→(Du6 (B31 (G4 L ex) x code) 0).2 j=G4 L' ex j:=by
 have hx1:=h.a x hx
 have ex_x:=Dx8 h hx code x (by omega)
 rw [if_pos rfl] at ex_x
 have e:=Go6 (Q1 (B31 (G4 L ex) x code) (fun _ p=>p.parent==0+1) 8 0).length (B31 (G4 L ex) x code) (x,Dt7 (Aj5 (A69 1)) code) (Q1 (B31 (G4 L ex) x code) (fun _ p=>p.parent==0+1) 8 0)
  ((A85 _ _ _ 8 0).2 (by simp only;rw [ex_x];exact ⟨by omega,⟨rfl,rfl⟩,rfl⟩)) rfl (fun t ht h2=>by
   obtain ⟨h3,⟨h4,h5⟩,h6⟩:=(A85 _ _ t 8 0).1 ht
   have e1:=Dx8 h hx code t.1 (by omega)
   by_cases h7:t.1=x
   ·rw [if_pos h7] at e1
    rw [e1] at h6
    exact Prod.ext h7 h6
   ·exfalso
    rw [if_neg h7] at e1
    rw [h6,e1] at h2
    revert h2
    split
    ·decide
    ·rcases Dk3 h t.1 with ⟨_,e⟩|⟨_,_,e⟩|⟨_,e1,e2,e⟩|⟨_,_,_,e⟩<;>rw [e]<;>simp [ProcS.zero])
 unfold Du6
 rw [e]
 refine ⟨rfl,fun j hj=>?_⟩
 simp only
 unfold upd
 by_cases hjx:j=x
 ·rw [if_pos hjx]
  rw [D45 (by omega) (by rw [hL];exact fun k=>k.2 hjx) (fun k=>h.b (by rw [← k,hjx];exact hx))]
 ·rw [if_neg hjx,Dx8 h hx code j hj,if_neg hjx]
  by_cases h1:j=ex∧ex≠0∧x=1
  ·obtain ⟨rfl,h3,rfl⟩:=h1
   rw [if_pos ⟨rfl,h3,rfl⟩]
   unfold G4
   rw [if_neg h3,if_neg (by rw [hL];exact fun k=>h.b k.1),if_pos rfl,if_neg (by rw [hL];simp)]
  ·rw [if_neg h1]
   unfold G4
   have e2:(j ∈ L')↔j ∈ L:=by rw [hL];exact ⟨fun k=>k.1,fun k=>⟨k,hjx⟩⟩
   simp only [e2]
   by_cases h2:j=ex
   ·by_cases h3:ex=0
    ·rw [if_pos (by omega),if_pos (by omega)]
    ·have:(1 ∈ L')↔1 ∈ L:=by rw [hL];exact ⟨fun k=>k.1,fun k=>⟨k,fun h4=>h1 ⟨h2,h3,h4.symm⟩⟩⟩
     simp only [this]
   ·rw [if_neg h2,if_neg h2]
theorem Hs6 {L:List Int} {ex:Int} (h:LOk L ex):Du6 (G4 L ex) 0=(if L=[] then Q8 0 110 false else Q8 0 0 true,G4 L ex):=by
 unfold Du6
 have hm:=A85 (G4 L ex) (fun _ p=>p.parent==0+1)
 rw [Gz6 _ _ _ (fun t ht=>by
  obtain ⟨_,_,h6⟩:=(hm t 8 0).1 ht
  rw [h6]
  rcases Dk3 h t.1 with ⟨_,e⟩|⟨_,_,e⟩|⟨_,e1,e2,e⟩|⟨_,_,_,e⟩<;>rw [e]<;>simp [ProcS.zero])]
 congr 1
 by_cases h0:L=[]
 ·subst h0
  rw [if_pos rfl,if_pos]
  rw [List.length_eq_zero_iff,List.eq_nil_iff_forall_not_mem]
  intro t ht
  obtain ⟨_,⟨h1,h2⟩,_⟩:=(hm t 8 0).1 ht
  rcases Dk3 h t.1 with ⟨_,e⟩|⟨e0,_,e⟩|⟨_,e1,e2,e⟩|⟨_,_,_,e⟩
  ·rw [e] at h2;simp at h2
  ·simp at e0
  ·rw [e] at h2;simp at h2
  ·rw [e] at h1;simp at h1
 ·rw [if_neg h0,if_neg]
  obtain ⟨x,l,rfl⟩:=List.exists_cons_of_ne_nil h0
  have hx:=h.a x (by simp)
  have:(x,(A69 1)) ∈ Q1 (G4 (x::l) ex) (fun _ p=>p.parent==0+1) 8 0:=(hm _ 8 0).2 (by
   simp only;rw [Dm4 h (by simp)];exact ⟨by omega,⟨rfl,rfl⟩,rfl⟩)
  intro k
  rw [List.length_eq_zero_iff] at k
  rw [k] at this;simp at this
theorem Ih3 (L:List Int) (ex:Int):Live (G4 L ex 0):=by rw [D52];exact ⟨rfl,rfl,rfl⟩
theorem lvQ {L:List Int} {ex x:Int} (h:LOk L ex) (hx:x ∈ L):Live (G4 L ex x):=by rw [Dm4 h hx];exact ⟨rfl,rfl,rfl⟩
theorem lvX {L:List Int} {ex:Int} (h:LOk L ex) (h0:ex≠0):Live (G4 L ex ex):=by rw [D63 h h0];exact ⟨rfl,rfl,rfl⟩
theorem G82 (P:PV) (k:Int):∀ (m:Nat) (i:Int),(∀ j,i≤j→j<k→(P j).2≠0)→(P k).2=0→i≤k→k<i+m→Da0 P m i=k
 | 0,i,_,_,h1,h2=>by omega
 | m+1,i,ha,hb,h1,h2=>by
  rw [show Da0 P (m+1) i=if (P i).2=0 then i else Da0 P m (i+1) from rfl]
  by_cases h3:i=k
  ·rw [h3,if_pos hb]
  ·rw [if_neg (ha i (by omega) (by omega))]
   exact G82 P k m (i+1) (fun j h4 h5=>ha j (by omega) h5) hb (by omega) (by omega)
def upL (n:Nat):List Int:=(List.range n).map fun (i:Nat)=>(i:Int)+1
theorem A38 (n:Nat) (j:Int):j ∈ upL n↔1≤j∧j≤n:=by
 unfold upL
 rw [List.mem_map]
 constructor
 ·rintro ⟨i,hi,rfl⟩
  have:=List.mem_range.1 hi
  omega
 ·intro h
  exact ⟨(j-1).toNat,List.mem_range.2 (by omega),by show ((j-1).toNat:Int)+1=j;omega⟩
theorem G19 (n:Nat) (hn:n<7):LOk (upL n) 0:=⟨fun j h=>by rw [A38] at h;omega,by rw [A38];omega,by omega⟩
theorem Ib8 (n:Nat) (hn:n<7):LOk (upL n) (n+1):=⟨fun j h=>by rw [A38] at h;omega,by rw [A38];omega,by omega⟩
theorem Hj2 (n:Nat):Da0 (G4 (upL n) 0) 8 0=if n<7 then (n:Int)+1 else Da0 (G4 (upL n) 0) 8 0:=by
 split
 ·refine G82 _ _ 8 0 (fun j h1 h2=>?_) ?_ (by omega) (by omega)
  ·by_cases h0:j=0
   ·rw [h0,D52];simp
   ·unfold G4;rw [if_neg h0,if_pos ((A38 ..).2 (by omega))];simp
  ·rw [D45 (by omega) (by rw [A38];omega) (by omega)]
 ·rfl
theorem Ie9 {X:CX} {n:Nat} (hn:n<7) (A:Fam X (G4 (upL n) 0) (n+1)):(Av2 X 0).1=Q8 (n+1) 0 false∧Fam (Av2 X 0).2 (G4 (upL (n+1)) 0) (n+1+1):=by
 obtain ⟨r1,B⟩:=Gw6 A (by omega) (i:=0) (by omega) (Ih3 ..) ((Hj2 n).trans (if_pos hn)) (by omega)
 refine ⟨r1,B.to fun j hj=>?_⟩
 rw [D52]
 unfold upd
 by_cases h1:j=(n:Int)+1
 ·rw [if_pos h1]
  unfold G4;rw [if_neg (by omega),if_pos ((A38 ..).2 (by omega))];rfl
 ·rw [if_neg h1]
  unfold G4
  have:(j ∈ upL (n+1))↔j ∈ upL n:=by rw [A38,A38];omega
  by_cases h0:j=0
  ·rw [if_pos h0,if_pos h0]
  ·rw [if_neg h0,if_neg h0]
   simp only [this,if_neg h0]
theorem If1 {X:CX} {n:Nat} (hn:1≤n∧n<7) (A:Fam X (G4 (upL n) 0) (n+1)):(Av2 X 1).1=Q8 (n+1) 0 false∧Fam (Av2 X 1).2 (G4 (upL n) (n+1)) (n+1+1):=by
 have h1:(1:Int) ∈ upL n:=(A38 ..).2 (by omega)
 obtain ⟨r1,B⟩:=Gw6 A (by omega) (i:=1) (by omega) (lvQ (G19 n hn.2) h1) ((Hj2 n).trans (if_pos hn.2)) (by omega)
 refine ⟨r1,B.to fun j hj=>?_⟩
 rw [Dm4 (G19 n hn.2) h1]
 unfold upd G4
 by_cases h2:j=(n:Int)+1
 ·rw [if_pos h2,if_neg (by omega),if_neg (by rw [A38];omega),if_pos h2,if_pos h1];rfl
 ·rw [if_neg h2,if_neg h2]
  by_cases h0:j=0
  ·rw [if_pos h0,if_pos h0]
  ·rw [if_neg h0,if_neg h0,if_neg h0]
theorem Ic6:∀ (n:Nat),1≤n∧n<7→∀ j:Int,0≤j∧j<8→B31 (G4 [] (n+1)) (n+1) 0 j=G4 [] 0 j:=by
 intro n hn j hj
 have h1:j=0∨j=1∨j=2∨j=3∨j=4∨j=5∨j=6∨j=7:=by omega
 have h2:n=1∨n=2∨n=3∨n=4∨n=5∨n=6:=by omega
 clear hn hj
 rcases h2 with rfl|rfl|rfl|rfl|rfl|rfl<;>rcases h1 with rfl|rfl|rfl|rfl|rfl|rfl|rfl|rfl<;>(show (_:ProcS × Int)=_;kernel_rfl)
theorem Ia4 {L:List Int} (hn:L.Nodup) {k:Nat} (hk:k<L.length) (j:Int):j ∈ L.take k++L.drop (k+1)↔j ∈ L∧j≠L[k]:=by
 have e:L=L.take k++L[k]::L.drop (k+1):=by rw [List.getElem_cons_drop,List.take_append_drop]
 have hn':=hn
 rw [e,List.nodup_append,List.nodup_cons] at hn'
 obtain ⟨_,⟨h2,_⟩,h3⟩:=hn'
 have e2:j ∈ L↔j ∈ L.take k++L[k]::L.drop (k+1):=by rw [← e]
 rw [e2,List.mem_append,List.mem_append,List.mem_cons]
 constructor
 ·rintro (h|h)
  ·exact ⟨.inl h,fun he=>h3 j h L[k] List.mem_cons_self he⟩
  ·exact ⟨.inr (.inr h),fun he=>h2 (he ▸ h)⟩
 ·rintro ⟨h|h|h,he⟩
  ·exact .inl h
  ·exact absurd h he
  ·exact .inr h
theorem Hy1 {L:List Int} (hn:L.Nodup) (k:Nat):(L.take k++L.drop (k+1)).Nodup:=by
 have:=hn.sublist (List.eraseIdx_sublist L k)
 rwa [List.eraseIdx_eq_take_drop_succ] at this
theorem H13 (n:Nat):(upL n).Nodup:=by
 unfold upL
 rw [List.Nodup,List.pairwise_map]
 exact (List.nodup_range (n:=n)).imp fun {a b} h=>by omega
theorem Hr5:∀ l:List Int,(l.map int).all Value.oneCell=true
 | []=>rfl
 | a::l=>by rw [List.map_cons,List.all_cons,Hr5 l];rfl
theorem H00 (k c:Nat) (X:CX) (A:Fam X (G4 [] 0) 1):∀ (m i:Nat),1≤i→i+m=8→CtJ E3 A9 Am1 [(10,P0 c),(30,int i)] [cmC c k F1 X] fun v own=>v=.bool true∧own []:=by
 intro m
 induction m with
 | zero =>
  intro i h1 hi
  obtain rfl:i=8:=by omega
  refine CtJ.of G6 fun h r=>Tr.eq (Bw3 ..) ?_;refine Je ?_
  refine Yf (by simp) ?_
  refine Yc (Dq3 c k F1 X A89 0) ?_;rintro _ h ⟨rfl,o⟩<;>refine Jh o ?_
  rw [Bp1 A.c (by omega),A.fl]
  dsimp only
  (refine Jc ?_;unhygienic intros)
  refine Yn fun b1 h=>?_
  (refine Jb ?_;unhygienic intros)
  refine Yb (Yt rfl ?_)
  (refine Jb ?_;unhygienic intros)
  refine Ys fun o=>(?_:Tr _ _ _ _) o;refine Je ?_
  refine Yb (Yt rfl ?_)
  refine Yc (Ho0) ?_;rintro _ h ⟨rfl,o⟩<;>refine Jh o ?_
  (refine Jb ?_;unhygienic intros)
  refine Ys fun o=>(?_:Tr _ _ _ _) o;refine Je ?_
  refine Ys fun o=>?_
  exact ⟨rfl,o.tail.tail⟩
 | succ m ih =>
  intro i h1 hi
  have e1:IntKind.wrap .i64 ((i:Int)+1)=((i+1:Nat):Int):=by rw [A8];omega
  have hq:G4 [] 0 i=(.zero,0):=D45 (by omega) (by simp) (by omega)
  refine CtJ.of G6 fun h r=>Tr.eq (Bw3 ..) ?_;refine Je ?_
  refine Yt (by simp;omega) ?_
  refine Yc (Ba1 c k F1 X A89 i) ?_;rintro _ h ⟨rfl,o⟩<;>refine Jh o ?_
  rw [Aj9 A.c (by omega),A.at_ i (by omega),hq]
  dsimp only
  (refine Jc ?_;unhygienic intros)
  refine Yn fun b1 h=>?_
  (refine Jb ?_;unhygienic intros)
  refine Yf rfl ?_
  rw [e1]
  refine H5 [1] 1 rfl rfl ?_
  refine Yr (ih (i+1) (by omega) (by omega)) ?_
  intro v h q
  exact q
theorem Gm2 (k c:Nat) (X:CX) (A:Fam X (G4 [] 0) 1):CtJ E3 A9 Al9 [(10,P0 c)] [cmC c k F1 X] fun v own=>v=.bool true∧own []:=by
 refine CtJ.of G6 fun h r=>Tr.eq (D60 ..) ?_;refine Je ?_
 exact Yr (H00 k c X A 7 1 (by omega) (by omega)) fun v h q=>q
theorem Hn5 (k c:Nat) (n:Nat) (hn:1≤n∧n<7) (p1 p2 p3:HP) (order codes left:Option Addr) (on oc cn cc lc:Nat) (X:CX) (extra:Int) (he:extra=0∨extra=1) (A:Fam X (G4 [] (if extra=1 then n+1 else 0)) (1+extra)) :
  CtJ E3 A9 V0 [(0,int n),(1,.slice order on oc),(2,.slice codes cn cc),(10,P0 c),(15,int extra),(17,.slice left 0 lc),(19,int n)] [cmC c k F1 X,p3,p1,p2] fun v own=>v=.bool true∧own []:=by
 have e1:IntKind.wrap .i64 ((n:Int)+1)=(n:Int)+1:=by rw [A8];omega
 refine CtJ.of G6 fun h r=>Tr.eq (Bx4 ..) ?_;refine Je ?_
 refine Yf (by simp) ?_
 rcases he with rfl|rfl
 ·refine Yf rfl ?_
  refine H5 [0] 3 rfl rfl ?_
  refine Yr (Gm2 k c X A) ?_
  intro v h q
  exact q
 ·have hok:LOk [] ((n:Int)+1):=⟨by simp,by simp,by omega⟩
  rw [if_pos rfl] at A
  have hv:=A.at_ (n+1) (by omega)
  rw [D63 hok (by omega),if_neg (by simp)] at hv
  obtain ⟨r1,B⟩:=Gw7 A (by omega) (i:=n+1) (by omega) (lvX hok (by omega)) 0
  have A2:Fam (Dl9 3 X (n+1) 0).2 (G4 [] 0) 1:=B.to (Ic6 n hn)
  have hs:J6 X (n+1)=(A69 0,0):=by unfold J6;rw [hv,if_pos ⟨rfl,rfl⟩]
  have hv2:=A2.at_ (n+1) (by omega)
  rw [D45 (by omega) (by simp) (by omega)] at hv2
  generalize hY:(Dl9 3 X (n+1) 0).2=Y at A2 hv2
  clear B
  refine Yt rfl ?_
  rw [e1]
  refine Yc (D66 c k F1 X A89 A.c (n+1) (by omega)) ?_;rintro _ h ⟨rfl,o⟩<;>refine Jh o ?_
  rw [hs]
  dsimp only
  (refine Jc ?_;unhygienic intros)
  refine Yn fun b1 h=>?_
  (refine Jb ?_;unhygienic intros)
  refine Yb (Yf rfl ?_)
  (refine Jb ?_;unhygienic intros)
  refine Ys fun o=>(?_:Tr _ _ _ _) o;refine Je ?_
  refine Yb (Yf rfl ?_)
  refine Yc (Hh0 c k F1 X A89 A.c (n+1) 0 (by omega)) ?_;rintro _ h ⟨rfl,o⟩<;>refine Jh o ?_
  rw [r1,hY]
  (refine Jb ?_;unhygienic intros)
  refine Ys fun o=>(?_:Tr _ _ _ _) o;refine Je ?_
  refine Yf rfl ?_
  refine Yc (Ba1 c k F1 Y A89 (n+1)) ?_;rintro _ h ⟨rfl,o⟩<;>refine Jh o ?_
  rw [Aj9 A2.c (by omega),hv2]
  dsimp only
  (refine Jc ?_;unhygienic intros)
  refine Yn fun b2 h=>?_
  (refine Jb ?_;unhygienic intros)
  refine Yf rfl ?_
  refine H5 [1] 5 rfl rfl ?_
  refine Yr (Gm2 k c Y A2) ?_
  intro v h q
  exact q
def Gh9 (k c n:Nat) (p1 p2:HP) (order codes:Option Addr) (on oc cn cc:Nat) (extra:Int) (i:Nat):Prop :=
 ∀ (X:CX) (L:List Int) (left:Option Addr) (lc:Nat),i+L.length=n→L.Nodup→LOk L (if extra=1 then n+1 else 0)→Fam X (G4 L (if extra=1 then n+1 else 0)) (1+L.length+extra) →
  CtJ E3 A9 V0 [(0,int n),(1,.slice order on oc),(2,.slice codes cn cc),(10,P0 c),(15,int extra),(17,.slice left L.length lc),(19,int i)] [cmC c k F1 X,slC false B5 1 left L.length lc (L.map int),p1,p2] fun v own=>v=.bool true∧own []
theorem Hs4 (k c n:Nat) (hn:n<7) (p1 p2:HP) (order codes:Option Addr) (on oc cn cc:Nat) (extra:Int) (he:extra=0∨extra=1) (i:Nat) (ih:Gh9 k c n p1 p2 order codes on oc cn cc extra (i+1))
  (X:CX) (L:List Int) (left:Option Addr) (lc:Nat) (hi:i+L.length=n) (hd:L.Nodup) (hok:LOk L (if extra=1 then n+1 else 0)) (A:Fam X (G4 L (if extra=1 then n+1 else 0)) (1+L.length+extra)) (j:Nat) (hj:j<L.length) (code:Int) :
  CtJ E3 A9 Am2 [(0,int n),(1,.slice order on oc),(2,.slice codes cn cc),(10,P0 c),(15,int extra),(17,.slice left L.length lc),(19,int i),(20,int j),(21,int code)] [cmC c k F1 X,slC false B5 1 left L.length lc (L.map int),p1,p2] fun v own=>v=.bool true∧own []:=by
 have e1:IntKind.wrap .i64 ((i:Int)+1)=((i+1:Nat):Int):=by rw [A8];omega
 have e2:IntKind.wrap .i64 ((j:Int)+1)=((j+1:Nat):Int):=by rw [A8];omega
 generalize hex:(if extra=1 then (n:Int)+1 else 0)=ex at hok A
 have hx:L[j] ∈ L:=List.getElem_mem hj
 have hm:=fun y=>Ia4 hd hj y
 have hd2:=Hy1 hd j
 have hl2:(L.take j++L.drop (j+1)).length=L.length-1:=by simp;omega
 have hgx:(L.map int)[j]?=some (int L[j]):=by simp [hj]
 have hxr:=hok.a _ hx
 obtain ⟨r1,B1⟩:=Gw7 A (by omega) (i:=L[j]) (by omega) (lvQ hok hx) code
 generalize hY1:(Dl9 3 X L[j] code).2=Y1 at B1
 obtain ⟨w1,w2⟩:=H01 hok hx hm code
 have lv:Live (B31 (G4 L ex) L[j] code 0):=by
  rw [Dx8 hok hx code 0 (by omega),if_neg (by omega),D52]
  split
  ·exact ⟨rfl,rfl,rfl⟩
  ·exact ⟨rfl,rfl,rfl⟩
 obtain ⟨r2,B2⟩:=Gy0 B1 (i:=0) (by omega) lv
 replace r2:=r2.trans w1
 generalize hY2:(Da1 Y1 0).2=Y2 at B2
 have A2:=B2.to w2
 generalize hL2:L.take j++L.drop (j+1)=L2 at hm hd2 hl2 A2
 have hok2:LOk L2 ex:=⟨fun y h=>hok.a y ((hm y).1 h).1,fun h=>hok.b ((hm ex).1 h).1,hok.c⟩
 obtain ⟨r3,B3⟩:=Gy0 A2 (i:=0) (by omega) (Ih3 ..)
 rw [Hs6 hok2] at r3 B3
 generalize hY3:(Da1 Y2 0).2=Y3 at B3
 dsimp only at r3 B3
 have B1c:=B1.c
 have e3:IntKind.wrap .i64 (IntKind.wrap .i64 (256*L[j])+De5 code)=256*L[j]+De5 code:=by
  have:=G72 code
  simp only [A8];omega
 have B3':Fam Y3 (G4 L2 ex) (1+L2.length+extra):=by
  have e:(1+(L.length:Int)+extra-1)=1+L2.length+extra:=by omega
  rw [← e];exact B3
 clear w1 w2 B1 B2 lv
 refine CtJ.of G6 fun h r=>Tr.eq (D41 ..) ?_;refine Je ?_
 rw [e1,e2]
 refine S9 1 rfl fun hl hc _=>?_
 (refine Ja ?_;unhygienic intros;repeat(refine Gw ?_;rintro px rfl;refine Ja ?_;unhygienic intros))
 simp only [Int.toNat_natCast]
 refine Tr.xCellsP (xs:=(L.take j).map int) ⟨by omega,by rw [List.map_take]⟩ ?_
 refine Af7 0 rfl 1 0 rfl (by omega) ?_
 refine Je ?_
 (refine Ja ?_;unhygienic intros)
 refine Tr.xApd ⟨by simp;omega,Hr5 _,by simp only [B4];omega⟩ fun a1 c1 h=>?_
 refine Je ?_
 (refine Ja ?_;unhygienic intros)
 refine D99 2 rfl (j+1) ((L.drop (j+1)).map int) (by omega) (by rw [Nat.mul_one,List.map_drop]) ?_
 refine Je ?_
 (refine Ja ?_;unhygienic intros)
 refine Tr.xApd ⟨by simp,Hr5 _,by simp only [B4];omega⟩ fun a2 c2 h=>?_
 rw [show j+(L.length-(j+1))=L2.length by omega,← List.map_append,hL2]
 refine Je ?_
 refine Yc (Hh0 c k F1 X A89 A.c L[j] code (by omega)) ?_;rintro _ h ⟨rfl,o⟩<;>refine Jh o ?_
 rw [r1,hY1]
 (refine Jc ?_;unhygienic intros)
 refine Yn fun b1 h=>?_
 (refine Jb ?_;unhygienic intros)
 refine Yf rfl ?_
 refine Yc (Eu3 c k F1 Y1 A89 B1c 0 (by omega)) ?_;rintro _ h ⟨rfl,o⟩<;>refine Jh o ?_
 rw [r2,hY2]
 (refine Jc ?_;unhygienic intros)
 refine Yn fun b2 h=>?_
 (refine Jb ?_;unhygienic intros)
 refine Yb (Yf rfl ?_)
 (refine Jb ?_;unhygienic intros)
 refine Ys fun o=>(?_:Tr _ _ _ _) o;refine Je ?_
 refine Yb (Yf rfl ?_)
 (refine Jb ?_;unhygienic intros)
 rw [e3]
 refine Ys fun o=>(?_:Tr _ _ _ _) o;refine Je ?_
 refine Yf (by simp) ?_
 refine Yc (Eu3 c k F1 Y2 A89 A2.c 0 (by omega)) ?_;rintro _ h ⟨rfl,o⟩<;>refine Jh o ?_
 rw [r3,hY3]
 have hfin:∀ (q1 q2 q3 q4:HP) {r:List HP} {h:H},Tr (q1::cmC c k F1 Y3::q2::q3::slC false B5 1 a2 L2.length c2 (L2.map int)::q4::p1::p2::r) h (E3 A9 V0 [(0,int n),(1,.slice order on oc),(2,.slice codes cn cc),(10,P0 c),(15,int extra),(17,.slice a2 L2.length c2),(19,int ((i+1:Nat):Int))] h) fun v h'=>v=.bool true∧Own h' r:=by
  intro q1 q2 q3 q4 r h
  refine H5 [1,3,4,4] 4 rfl rfl ?_
  refine Yr (ih Y3 L2 a2 c2 (by omega) hd2 (hex ▸ hok2) (hex ▸ B3')) ?_
  intro v h q
  exact q
 by_cases h0:L2=[]
 ·rw [if_pos h0]
  (refine Jc ?_;unhygienic intros)
  refine Yn fun b3 h=>?_
  (refine Jb ?_;unhygienic intros)
  refine Yb (Yf (by simp [h0]) ?_)
  (refine Jb ?_;unhygienic intros)
  refine Yb (Yt rfl ?_)
  (refine Jb ?_;unhygienic intros)
  refine Ys fun o=>(?_:Tr _ _ _ _) o;refine Je ?_
  (refine Jb ?_;unhygienic intros)
  refine Ys fun o=>(?_:Tr _ _ _ _) o;refine Je ?_
  refine Yf rfl ?_
  exact hfin _ _ _ _
 ·rw [if_neg h0]
  have h1:0<L2.length:=List.length_pos_iff.2 h0
  (refine Jc ?_;unhygienic intros)
  refine Yn fun b3 h=>?_
  (refine Jb ?_;unhygienic intros)
  refine Yb (Yf (by simp;omega) ?_)
  (refine Jb ?_;unhygienic intros)
  refine Yb (Yf rfl ?_)
  (refine Jb ?_;unhygienic intros)
  refine Ys fun o=>(?_:Tr _ _ _ _) o;refine Je ?_
  (refine Jb ?_;unhygienic intros)
  refine Ys fun o=>(?_:Tr _ _ _ _) o;refine Je ?_
  refine Yf rfl ?_
  exact hfin _ _ _ _
theorem Hs2 (k c n:Nat) (hn:n<7) (p1 p2:HP) (order codes:Option Addr) (on oc cc:Nat) (l2:List Int) (ro2:Bool) [ks:IsSl p2 codes ro2 B5 1 l2.length cc (l2.map int)] (extra:Int) (he:extra=0∨extra=1) (i:Nat) (ih:Gh9 k c n p1 p2 order codes on oc l2.length cc extra (i+1))
  (X:CX) (L:List Int) (left:Option Addr) (lc:Nat) (hi:i+L.length=n) (hd:L.Nodup) (hok:LOk L (if extra=1 then n+1 else 0)) (A:Fam X (G4 L (if extra=1 then n+1 else 0)) (1+L.length+extra)) (j:Nat) (hj:j<L.length) :
  CtJ E3 A9 Al8 [(0,int n),(1,.slice order on oc),(2,.slice codes l2.length cc),(10,P0 c),(15,int extra),(17,.slice left L.length lc),(19,int i),(20,int j),(21,int 0)] [cmC c k F1 X,slC false B5 1 left L.length lc (L.map int),p1,p2] fun v own=>v=.bool true∧own []:=by
 have H:=Hs4 k c n hn p1 p2 order codes on oc l2.length cc extra he i ih X L left lc hi hd hok A j hj
 refine CtJ.of G6 fun h r=>Tr.eq (D47 ..) ?_;refine Je ?_
 by_cases hg:i<l2.length
 ·have hx:=Es5 (l:=l2) (i:=i) hg
  generalize l2.getD i 0=x at hx
  refine Yt (by simpa using hg) ?_
  (refine Ja ?_;unhygienic intros;repeat(refine Gw ?_;rintro px rfl;refine Ja ?_;unhygienic intros))
  exact Yr (H x) fun v h q=>q
 ·refine Yf (by simpa using hg) ?_
  exact Yr (H 0) fun v h q=>q
theorem Gp6 (k c n:Nat) (hn:1≤n∧n<7) (p1 p2:HP) (order codes:Option Addr) (oc cc:Nat) (l1 l2:List Int) (ro1 ro2:Bool) [ks1:IsSl p1 order ro1 B5 1 l1.length oc (l1.map int)] [ks:IsSl p2 codes ro2 B5 1 l2.length cc (l2.map int)] (extra:Int) (he:extra=0∨extra=1) :
  ∀ (m i:Nat),i+m=n→Gh9 k c n p1 p2 order codes l1.length oc l2.length cc extra i
 | 0,i,hi=>by
  intro X L left lc hL hd hok A
  obtain rfl:L=[]:=List.eq_nil_of_length_eq_zero (by omega)
  obtain rfl:i=n:=by omega
  refine Hn5 k c i hn p1 p2 _ order codes left l1.length oc l2.length cc lc X extra he ?_
  have e:(1:Int)+((([]:List Int).length:Nat):Int)+extra=1+extra:=by simp
  rw [← e];exact A
 | m+1,i,hi=>by
  intro X L left lc hL hd hok A
  have H:=fun j hj=>Hs2 k c n hn.2 p1 p2 order codes l1.length oc cc l2 ro2 extra he i (Gp6 k c n hn p1 p2 order codes oc cc l1 l2 ro1 ro2 extra he m (i+1) (by omega)) X L left lc hL hd hok A j hj
  refine CtJ.of G6 fun h r=>Tr.eq (Bx4 ..) ?_;refine Je ?_
  refine Yt (by simp;omega) ?_
  by_cases hg:i<l1.length
  ·have hx:=Es5 (l:=l1) (i:=i) hg
   generalize l1.getD i 0=x at hx
   refine Yt (by simpa using hg) ?_
   (refine Ja ?_;unhygienic intros;repeat(refine Gw ?_;rintro px rfl;refine Ja ?_;unhygienic intros))
   rw [B72,Hq2 (show 0≤x%256 by omega)]
   have g0:=Int.emod_nonneg (x%256) (show (L.length:Int)≠0 by omega)
   have g1:=Int.emod_lt_of_pos (x%256) (show 0<(L.length:Int) by omega)
   obtain ⟨j,hj⟩:=Int.eq_ofNat_of_zero_le g0
   rw [hj] at g1 ⊢
   exact Yr (H j (by omega)) fun v h q=>q
  ·refine Yf (by simpa using hg) ?_
   exact Yr (H 0 (by omega)) fun v h q=>q
theorem H55 (n:Nat):upL (n+1)=upL n++[(n:Int)+1]:=by unfold upL;rw [List.range_succ,List.map_append];rfl
theorem Gk0 (n:Nat):(upL n).length=n:=by unfold upL;simp
theorem Gn2 (k c n:Nat) (hn:1≤n∧n<7) (p1 p2:HP) (order codes:Option Addr) (oc cc:Nat) (l1 l2:List Int) (ro1 ro2:Bool) [ks1:IsSl p1 order ro1 B5 1 l1.length oc (l1.map int)] [ks:IsSl p2 codes ro2 B5 1 l2.length cc (l2.map int)] (extra:Int) (he:extra=0∨extra=1)
  (X:CX) (A:Fam X (G4 (upL n) (if extra=1 then n+1 else 0)) (1+n+extra)) :
  ∀ (m t:Nat) (left:Option Addr) (lc:Nat),t+m=n→CtJ E3 A9 Al5 [(0,int n),(1,.slice order l1.length oc),(2,.slice codes l2.length cc),(10,P0 c),(15,int extra),(17,.slice left t lc),(18,int ((t:Int)+1))] [cmC c k F1 X,slC false B5 1 left t lc ((upL t).map int),p1,p2] fun v own=>v=.bool true∧own []
 | 0,t,left,lc,ht=>by
  obtain rfl:t=n:=by omega
  have H:=Gp6 k c t hn p1 p2 order codes oc cc l1 l2 ro1 ro2 extra he t 0 (by omega) X (upL t) left lc (by rw [Gk0];omega) (H13 t) (by split;exact Ib8 t hn.2;exact G19 t hn.2) (by rw [Gk0];exact A)
  rw [Gk0] at H
  refine CtJ.of G6 fun h r=>Tr.eq (Bx3 ..) ?_;refine Je ?_
  refine Yf (by rw [decide_eq_false_iff_not];omega) ?_
  exact Yr H fun v h q=>q
 | m+1,t,left,lc,ht=>by
  have e1:IntKind.wrap .i64 ((t:Int)+1+1)=((t+1:Nat):Int)+1:=by rw [A8];omega
  have H:=fun left lc=>Gn2 k c n hn p1 p2 order codes oc cc l1 l2 ro1 ro2 extra he X A m (t+1) left lc (by omega)
  refine CtJ.of G6 fun h r=>Tr.eq (Bx3 ..) ?_;refine Je ?_
  refine Yt (by simp;omega) ?_
  rw [e1]
  refine S9 1 rfl fun hl hc _=>?_
  (refine Ja ?_;unhygienic intros)
  refine Tr.xApd (new:=[int ((t:Int)+1)]) ⟨rfl,rfl,by simp only [B4];omega⟩ fun a2 c2 h=>?_
  refine (?_:Tr (_::_::slC false B5 1 a2 (t+1) c2 ((upL t).map int++[int ((t:Int)+1)])::_) _ _ _)
  rw [show (upL t).map int++[int ((t:Int)+1)]=(upL (t+1)).map int by rw [H55,List.map_append];rfl]
  refine H5 [1,1,1,1] 1 rfl rfl ?_
  exact Yr (H a2 c2) fun v h q=>q
theorem Gn5 (k c n:Nat) (hn:1≤n∧n<7) (p1 p2:HP) (order codes:Option Addr) (oc cc:Nat) (l1 l2:List Int) (ro1 ro2:Bool) [ks1:IsSl p1 order ro1 B5 1 l1.length oc (l1.map int)] [ks:IsSl p2 codes ro2 B5 1 l2.length cc (l2.map int)] (extra:Int) (he:extra=0∨extra=1)
  (X:CX) (A:Fam X (G4 (upL n) (if extra=1 then n+1 else 0)) (1+n+extra)) :
  CtJ E3 A9 Al7 [(0,int n),(1,.slice order l1.length oc),(2,.slice codes l2.length cc),(10,P0 c),(15,int extra)] [cmC c k F1 X,p1,p2] fun v own=>v=.bool true∧own []:=by
 have H:=Gn2 k c n hn p1 p2 order codes oc cc l1 l2 ro1 ro2 extra he X A n 0 none 0 (by omega)
 refine CtJ.of G6 fun h r=>Tr.eq (D64 ..) ?_;refine Je ?_
 refine G9 false B5 1 (by omega) ?_
 refine H5 [1,0,0,0] 0 rfl rfl ?_
 refine (?_:Tr (cmC c k F1 X::slC false B5 1 none 0 0 ((upL 0).map int)::p1::p2::r) _ _ _)
 exact Yr H fun v h q=>q
theorem Go4 (k c n:Nat) (hn:1≤n∧n<7) (p1 p2:HP) (order codes:Option Addr) (oc cc:Nat) (l1 l2:List Int) (ro1 ro2:Bool) [ks1:IsSl p1 order ro1 B5 1 l1.length oc (l1.map int)] [ks:IsSl p2 codes ro2 B5 1 l2.length cc (l2.map int)] (fork:Bool) :
  ∀ (m i:Nat) (X:CX),i+m=n→Fam X (G4 (upL i) 0) (i+1)→CtJ E3 A9 Al0 [(0,int n),(1,.slice order l1.length oc),(2,.slice codes l2.length cc),(3,.bool fork),(10,P0 c),(13,int i)] [cmC c k F1 X,p1,p2] fun v own=>v=.bool true∧own []
 | 0,i,X,hi,A=>by
  obtain rfl:i=n:=by omega
  have e1:IntKind.wrap .i64 ((i:Int)+1)=(i:Int)+1:=by rw [A8];omega
  obtain ⟨r1,B⟩:=If1 hn A
  generalize hY:(Av2 X 1).2=Y at B
  refine CtJ.of G6 fun h r=>Tr.eq (Bx0 ..) ?_;refine Je ?_
  refine Yf (by simp) ?_
  cases fork
  ·refine Yb (Yf rfl ?_)
   refine Ys fun o=>(?_:Tr _ _ _ _) o;refine Je ?_
   refine Yf rfl ?_
   refine Yr (Gn5 k c i hn p1 p2 order codes oc cc l1 l2 ro1 ro2 0 (.inl rfl) X ?_) fun v h q=>q
   have e:(1+(i:Int)+0)=i+1:=by omega
   rw [e];exact A
  ·refine Yb (Yt rfl ?_)
   refine Ys fun o=>(?_:Tr _ _ _ _) o;refine Je ?_
   refine Yt (by simp;omega) ?_
   refine Yc (Gh2 c k F1 X A89 A.c 1 (by omega)) ?_;rintro _ h ⟨rfl,o⟩<;>refine Jh o ?_
   rw [r1,hY]
   (refine Jc ?_;unhygienic intros)
   refine Yn fun b1 h=>?_
   (refine Jb ?_;unhygienic intros)
   refine Yb (Yf rfl ?_)
   (refine Jb ?_;unhygienic intros)
   rw [e1]
   refine Ys fun o=>(?_:Tr _ _ _ _) o;refine Je ?_
   refine Yf (by simp) ?_
   refine H5 [1,1,1] 1 rfl rfl ?_
   refine Yr (Gn5 k c i hn p1 p2 order codes oc cc l1 l2 ro1 ro2 1 (.inr rfl) Y ?_) fun v h q=>q
   have e:(1+(i:Int)+1)=i+1+1:=by omega
   rw [e];exact B
 | m+1,i,X,hi,A=>by
  have e1:IntKind.wrap .i64 ((i:Int)+1)=((i+1:Nat):Int):=by rw [A8];omega
  obtain ⟨r1,B⟩:=Ie9 (by omega) A
  generalize hY:(Av2 X 0).2=Y at B
  have B':Fam Y (G4 (upL (i+1)) 0) (((i+1:Nat):Int)+1):=by
   have e:((i+1:Nat):Int)+1=i+1+1:=by omega
   rw [e];exact B
  have H:=Go4 k c n hn p1 p2 order codes oc cc l1 l2 ro1 ro2 fork m (i+1) Y (by omega) B'
  refine CtJ.of G6 fun h r=>Tr.eq (Bx0 ..) ?_;refine Je ?_
  refine Yt (by simp;omega) ?_
  refine Yc (Gh2 c k F1 X A89 A.c 0 (by omega)) ?_;rintro _ h ⟨rfl,o⟩<;>refine Jh o ?_
  rw [r1,hY,e1]
  (refine Jc ?_;unhygienic intros)
  refine Yn fun b1 h=>?_
  (refine Jb ?_;unhygienic intros)
  refine Yb (Yf rfl ?_)
  (refine Jb ?_;unhygienic intros)
  refine Ys fun o=>(?_:Tr _ _ _ _) o;refine Je ?_
  refine Yf (by simp) ?_
  refine H5 [1,1,1] 1 rfl rfl ?_
  exact Yr H fun v h q=>q
theorem Ij2:Fam X1 (G4 (upL 0) 0) (((0:Nat):Int)+1):=by
 refine Ik7.to fun j hj=>?_
 have:j=0∨j=1∨j=2∨j=3∨j=4∨j=5∨j=6∨j=7:=by omega
 rcases this with rfl|rfl|rfl|rfl|rfl|rfl|rfl|rfl<;>(clear hj;show (_:ProcS × Int)=_;kernel_rfl)
theorem Gr8 (n:Int) (p1 p2:HP) (order codes:Option Addr) (oc cc:Nat) (l1 l2:List Int) (ro1 ro2:Bool) [ks1:IsSl p1 order ro1 B5 1 l1.length oc (l1.map int)] [ks:IsSl p2 codes ro2 B5 1 l2.length cc (l2.map int)] (fork:Bool) :
  Ct B0 A9 [int n,.slice order l1.length oc,.slice codes l2.length cc,.bool fork] [p1,p2] fun v own=>v=.bool true∧own []:=by
 refine Ct.of G6 rfl fun h r=>Tr.eq (Ep1 ..) ?_;refine Je ?_
 refine Yc (G37) ?_;rintro _ h ⟨a1,rfl,o⟩<;>refine Jh o ?_
 (refine Ja ?_;unhygienic intros)
 refine Yc (Hh4 a1) ?_
 rintro _ h ⟨k,c,w,m,K',rfl,o⟩
 refine (?_:Tr _ _ _ _) o
 refine Je ?_
 (refine Ja ?_;unhygienic intros)
 rw [B72,Hq2 (show 0≤n%256 by omega)]
 obtain ⟨j,hj⟩:=Int.eq_ofNat_of_zero_le (Int.emod_nonneg (n%256) (show (6:Int)≠0 by omega))
 have hj6:=Int.emod_lt_of_pos (n%256) (show (0:Int)<6 by omega)
 rw [hj,show IntKind.wrap .i64 ((j:Int)+1)=((j+1:Nat):Int) by rw [A8];omega]
 refine H5 [0,2,2] 2 rfl rfl ?_
 exact Yr (Go4 k c (j+1) (by omega) p1 p2 order codes oc cc l1 l2 ro1 ro2 fork (j+1) 0 X1 (by omega) Ij2) fun v h q=>q
end Go.EQ

set_option maxRecDepth 100000
namespace Go.EQ
open Go Go.NN Go.Proofs Go.ChangeShapes Go.WideShapes Go.RowKit
theorem Id6:∀ f,(cutsOf f).globs=0:=Em3 H88 (by kernel_rfl)
theorem Id9:∀ f,(cutsOf f).globs≤PR.globals.size:=fun f=>by rw [Id6 f];exact Nat.zero_le _
theorem Ib7:PR.follows .mixedOrders=true:=by kernel_rfl
theorem Ii7:laidOutB PR=true:=by kernel_rfl
theorem Ik0:ownKnob PR.godebug=none:=by kernel_rfl
end Go.EQ

set_option maxRecDepth 100000
namespace Go.EQ
open Go Go.NN Go.Proofs Go.Proofs.YthhmplobccgeiaaGreat Go.ChangeShapes Go.WideShapes Go.RowKit
theorem Ic9 {H:Type} {enc:TypeId × Value→H} {W:World} {v0 v1 v2 v3:Value} {d0 d1 d2 d3:DataW H} {p0 p1 p2 p3:List MemPlace} {b0:Nat} (k0:Value.okWide PR W .any b0 B5 v0) (k1:Value.okWide PR W .any b0 M9 v1) (k2:Value.okWide PR W .any b0 M9 v2) (k3:Value.okWide PR W .any b0 D39 v3)
  (h0:DataW.Trod enc PR W 0 (fun _=>true) true B5 v0 d0 p0) (h1:DataW.Trod enc PR W 0 (fun _=>true) true M9 v1 d1 p1) (h2:DataW.Trod enc PR W 0 (fun _=>true) true M9 v2 d2 p2) (h3:DataW.Trod enc PR W 0 (fun _=>true) true D39 v3 d3 p3) :
  Calls PR A9 #[v0,v1,v2,v3] W fun e W'=>e=.returned (.bool true)∧Below W.heap.size W W':=by
 obtain ⟨x,_,i0⟩:=Ag5.argInt Hl1 k0 h0
 obtain ⟨l,hl,i1⟩:=(Ag5.ints (P:=PR) (W:=W) B5 Eu6 Hl1 (by kernel_rfl)).arg (Ez3 Eu6 k1) h1
 obtain ⟨l2,hl2,i2⟩:=(Ag5.ints (P:=PR) (W:=W) B5 Eu6 Hl1 (by kernel_rfl)).arg (Ez3 Eu6 k2) h2
 obtain ⟨b,rfl,_⟩:=open_bool Hv2 k3 h3
 have i3:Imp PR W [.bool b] fun vs qs=>vs=[.bool b]∧qs=[]:=Imp.flat (by simp [Dj6])
 refine (i0.app (i1.app (i2.app i3))).run Ib7 Id9 fun vs ps J hh r o=>?_
 obtain ⟨_,_,_,_,hv,hp,⟨e1,e2⟩,_,_,_,_,e3,e4,⟨⟨a,c⟩,e5,e6⟩,_,_,_,_,e7,e8,⟨⟨a2,c2⟩,e9,e10⟩,e11,e12⟩:=J
 subst e1 e2 e5 e6 e9 e10 e11 e12 e7 e8 e3 e4 hv hp
 obtain ⟨v,h',e,rfl,_⟩:=Gr8 x (slC true B5 1 a l.length c (l.map int)) (slC true B5 1 a2 l2.length c2 (l2.map int)) a a2 c c2 l l2 true true b hh r (Own.picks (l:=slC true B5 1 a2 l2.length c2 (l2.map int)::slC true B5 1 a l.length c (l.map int)::r) o [1,0] rfl)
 exact ⟨h',e⟩
theorem H44 (os:Os) (started:os.Started) (H:Type) (enc:TypeId × Value→H) :
  ReturnsInHanded {} Tryz.checked os A9 .any (Rows.procFamilySpec.pre6 enc Tryz.prog Tryz.f8 Rows.procFamilyRow.domain false) (Rows.procFamilySpec.post enc Tryz.prog Tryz.f8 false true false false):=by
 refine returnsInHanded_of_change (C:=Tryz.checked) Ik0 started (by kernel_rfl) Tryz.func8
  (ChangeSpec.witness6 (enc:=enc) (C:=Tryz.checked) false ⟨#[],#[.int .i64 0,.slice none 0 0,.slice none 0 0,.bool false],[]⟩ 8 (by kernel_rfl) (by kernel_rfl) (by kernel_rfl) (by kernel_rfl)) ?_
 intro W base args ds gs before hval hW hcnd _
 have hW':=hW
 obtain ⟨p,q,hA,hV,rfl,hfz,hnd⟩:=hW
 rw [Tryz.params8] at hA hval
 obtain ⟨v0,v1,v2,v3,d0,d1,d2,d3,p0,p1,p2,p3,rfl,rfl,rfl,h0,h1,h2,h3⟩:=trodAll_four hA
 refine (Ic9 (hval 0 _ v0 rfl rfl) (hval 1 _ v1 rfl rfl) (hval 2 _ v2 rfl rfl) (hval 3 _ v3 rfl rfl) h0 h1 h2 h3).mono fun e W' ⟨he,hb⟩=>?_
 subst he
 refine ⟨_,rfl,Hv4 Ii7 ?_ rfl Hv2 rfl (fun ds gs hl=>?_) hW' hb⟩
 ·rw [Tryz.params8];intro t ht;simp at ht;rcases ht with rfl|rfl|rfl<;>exact ⟨by kernel_rfl,of_decide_eq_true (by kernel_rfl)⟩
 ·replace hl:ds.length=4:=hl
  cases gs with
  | cons _ _=>exact .inr (by simp)
  | nil=>match ds,hl with|[_,_,_,_],_=>exact .inl rfl
theorem Ii3:Tryz.pinned.checked.prog.funcNamed Rows.procFamilyRow.func=some A9:=by kernel_rfl
theorem H69:joinedFacts Tryz.pinned.checked.prog A9 Tryz.f8 Rows.procFamilySpec Rows.procFamilyRow=true:=by kernel_rfl
theorem Ih0:Tryz.f8.isInstance Tryz.pinned.checked.prog Rows.procFamilyRow.origin Rows.procFamilyRow.targs:=of_decide_eq_true (by kernel_rfl)
theorem Ig2:Tryz.f8.isWrapper Tryz.pinned.checked.prog Rows.procFamilyRow.wrapper Rows.procFamilyRow.mainSum:=by unfold Func.isWrapper;first|(rw [if_pos (by decide +kernel)];kernel_rfl)|(rw [if_neg (by decide +kernel)];exact ⟨rfl,rfl⟩)
theorem ProcFamily_holds:Rows.ProcFamilySaid :=
 OpenClaim.holds_of_wide A9 Tryz.f8 rfl rfl rfl rfl rfl rfl rfl ⟨rfl,rfl,rfl,rfl,rfl⟩ rfl rfl rfl rfl rfl Ii3 Tryz.func8 H69 Ih0 Ig2
  (fun os started H enc _=>H44 os started H enc)
end Go.EQ
