/- What is typed is read, in order, by the front group alone; the front goes to a group that is there, given by the front group alone; no conditions. -/
import Derived.Test.YtnmdbfbjdhgmlaaGreatMh
import Derived.KernelRfl
import Derived.Test.YtnmdbfbjdhgmlaaGreatRows
set_option linter.all false
set_option maxRecDepth 10000
namespace Go.EQ
open Go Go.NN
theorem Ge7 (k:Nat) (S:KS) (A:KA):CtP A9 An2 [P0 k] [pt k (.cells D15 false (Ex9 S A))] (P0 A.s):=by
 refine CtP.of E29 rfl fun h r=>Tr.eq (E26 ..) ?_;refine Je ?_
 exact Jz
theorem In0 (k:Nat) (S:KS) (N:Nat) (ok:KOk N S) (env:Int):Ct A9 Bs6 [P0 k,int env] [E3 k S] fun v own =>
  (A64 S.tabs env≠[]∧∃ c,v=.tuple ⟨[P0 c,int 0]⟩∧own [W7 c k env (A64 S.tabs env) [],E3 k S])∨(A64 S.tabs env=[]∧v=.tuple ⟨[.pointer none,int 1]⟩∧own [E3 k S]):=by
 refine Ct.of G08 rfl fun h r=>Tr.eq (Gz9 ..) ?_;refine Je ?_
 refine B9 (E3 k S) fun ⟨m,s,q,rg,ea,ec,ma,mc,ms,sa,sc,ss⟩=>?_;refine Je ?_
 (refine Jb ?_;unhygienic intros)
 refine Yb (Yf rfl ?_)
 refine Tr.pcall (Ge7 k S ⟨m,s,q,rg,ea,ec,ma,mc,ms,sa,sc,ss⟩) ?_;refine Je ?_;(refine Ja ?_;unhygienic intros)
 try dsimp only
 refine Yc (Gj7 s S.tabs env ok.space) ?_;rintro _ h ⟨a0,c0,rfl,o⟩<;>refine Jh o ?_
 (refine Ja ?_;unhygienic intros)
 refine Ys fun o=>(?_:Tr _ _ _ _) o;refine Je ?_
 by_cases hz:A64 S.tabs env=[]
 ·refine Yt (by simp [hz]) ?_
  refine B7 (E3 k S) ⟨m,s,q,rg,ea,ec,ma,mc,ms,sa,sc,ss⟩ ?_;refine Je ?_
  refine Ys fun o=>?_
  exact .inr ⟨hz,rfl,o.sub⟩
 ·refine Yf ?_ ?_
  ·rw [beq_eq_false_iff_ne]
   intro h0
   exact hz (List.eq_nil_of_length_eq_zero (by omega))
  refine Tr.pcall (Ge7 k S ⟨m,s,q,rg,ea,ec,ma,mc,ms,sa,sc,ss⟩) ?_;refine Je ?_;(refine Ja ?_;unhygienic intros)
  try dsimp only
  refine Yc (Gj7 s S.tabs env ok.space) ?_;rintro _ h ⟨a1,c1,rfl,o⟩<;>refine Jh o ?_
  (refine Jc ?_;unhygienic intros)
  refine Yn fun mb h=>?_
  refine Yn fun c h=>?_
  refine B7 (E3 k S) ⟨m,s,q,rg,ea,ec,ma,mc,ms,sa,sc,ss⟩ ?_;refine Je ?_
  refine E7 (W7 c k env (A64 S.tabs env) []) (a1,c1,mb) [1,2,1] rfl ?_;refine Je ?_
  refine Ys fun o=>?_
  exact .inl ⟨hz,c,rfl,o.sub⟩
def A86:PlanS:=⟨[false,false],[(0,1),(1,0)],5⟩
theorem Ic9:Ct A9 B00 [] [] fun v own=>∃ A,v=.agg ⟨Ey5 A86 A⟩∧own (Dm9 A86 A):=by
 refine Ct.of Hf9 rfl fun h r=>Tr.eq (G46 ..) ?_;refine Je ?_
 (refine Jc ?_;unhygienic intros;rename H=>h)
 refine Yn fun b h=>?_
 refine Yn fun b1 h=>?_
 refine Yn fun b2 h=>?_
 (refine Ja ?_;unhygienic intros;rename H=>h)
 refine Aj7 0 rfl 2 2 rfl (by omega) ?_
 refine Aj7 1 rfl 1 2 rfl (by omega) ?_
 refine Je ?_
 refine Ys fun o=>?_
 exact ⟨⟨some ⟨b1,0,none⟩,2,some ⟨b2,0,none⟩,2⟩,rfl,(show Own h (slC false B29 2 (some ⟨b2,0,none⟩) A86.brs.length 2 (A86.brs.flatMap brL)::slC false Gj3 1 (some ⟨b1,0,none⟩) A86.bad.length 2 (A86.bad.map Value.bool)::_) from o).sub⟩
def Ah8:BootS:=Ew4 A86
theorem G80:Bq3 Ah8=true:=by kernel_rfl
theorem E62:Small Ah8:=by
 have e:Ah8=⟨[20,20],[0,0,0,0,0,0,0,0,0,1,1,1,1,1,1,1,1,1],[[0],[1]],5,[⟨0,0,0,492,[0]⟩,⟨1,0,0,492,[1]⟩,⟨0,8,0,40,[0,1]⟩,⟨1,9,0,40,[1,0]⟩]⟩:=by kernel_rfl
 rw [e]
 exact ⟨by simp [B1],by simp [B1],by simp [B1]⟩
theorem Bu7:Ah8=⟨[20,20],[0,0,0,0,0,0,0,0,0,1,1,1,1,1,1,1,1,1],[[0],[1]],5,[⟨0,0,0,492,[0]⟩,⟨1,0,0,492,[1]⟩,⟨0,8,0,40,[0,1]⟩,⟨1,9,0,40,[1,0]⟩]⟩:=by kernel_rfl
theorem Im4:RBoot Ah8 (Aj0 Ah8.frames):=by
 rw [Bu7]
 refine ⟨by simp,by simp,by simp,fun x hx=>?_,fun x hx=>?_⟩
 ·simp only [List.mem_cons,List.not_mem_nil,or_false] at hx
  rcases hx with rfl|rfl|rfl|rfl<;>simp [B1]
 ·simp only [List.mem_cons,List.not_mem_nil,or_false] at hx
  rcases hx with rfl|rfl|rfl|rfl<;>simp [Aj0]
def S00:KS:=D40 Ah8
theorem Hf2:KOk 0 S00:=Il3 G80 E62
def wrS (S:KS) (cap:Int) (b:List UInt8):KS:=(Z5 S 0 ⟨2,cap,0,0,0,0,b⟩).2
def S0:KS:=wrS S00 256 Ac6
theorem Iv5:(Z5 S00 0 ⟨2,256,0,0,0,0,Ac6⟩).1.1=0:=by kernel_rfl
theorem Ik0:A64 S00.tabs 0=[256,257,258]:=by kernel_rfl
def wrR (K:RKS) (cap:Int) (b:List UInt8):RKS:={ K with R:=(Ai0 K.R 0 cap 0 b).2 }
def K0:RKS:=wrR (Df8 Ah8) 256 Ac6
theorem D86:RKOk (Df8 Ah8)∧(Df8 Ah8).B=Ah8:=Il0 (by rw [Bu7];simp) (by rw [Bu7];simp)
theorem Gi7 {K:RKS} (k:RKOk K) (cap:Int) (b:List UInt8):RKOk (wrR K cap b):=Ip0 k 0 cap 0 b
theorem Ih0:B26 K0 0≠[]:=by
 have:B26 K0 0=[256,257,258]:=by kernel_rfl
 rw [this];simp
theorem Ac2:Ac6.length=492:=by kernel_rfl
theorem Dr1 {l:List HP} {h:H} {α:Type} {Q:α→H→Prop} {x:Option (α × H)} (i:Nat) {b n:Nat} {cs:List Value} (hi:l[i]?=some (pt b (.cells A5 false cs))) (hn:cs.length=n) (t:Tr (l.set i (slC false A5 1 (some (L8 b)) n n cs)) h x Q):Tr l h x Q:=fun o=>by
 refine t (Own.back (h:=h) hi ?_)
 have o1:=o.front hi
 refine Own.slShut (pre:=[]) (post:=[]) (by simpa using o1) ⟨by omega,Nat.le_refl _,by simp,by simp,by simp,by omega,by simp⟩
theorem Im0 (A:PlA):Ct A9 Bi6 [.agg ⟨Ey5 A86 A⟩] (Dm9 A86 A) fun v own =>
  ∃ k c w m,v=.tuple ⟨[P0 k,P0 c,P0 w,P0 m]⟩∧own [E3 k S0,W7 c k 0 [256,257,258] [],rkC w K0,rcC m w 0 (B26 K0 0) []]:=by
 have hB:Ew4 A86=Ah8:=rfl
 obtain ⟨ba,bc,ra,rc⟩:=A
 refine Ct.of Hc9 rfl fun h r=>Tr.eq (Hf8 ..) ?_;refine Je ?_
 refine Yn fun b0 h=>?_
 (refine Ja ?_;unhygienic intros)
 refine Yc (Il1 A86 ⟨ba,bc,ra,rc⟩ (by simp [A86]) (by simp [A86])) ?_;rintro _ h ⟨A,kA,rfl,o⟩<;>refine Jh o ?_
 rw [hB] at kA ⊢
 obtain ⟨fa,fc,ea,ec,sa,sc,ss,ha,hc,hs⟩:=A
 (refine Jc ?_;unhygienic intros)
 refine Yn fun b1 h=>?_
 (refine Ja ?_;unhygienic intros)
 have J:=Is5 false Ah8 ⟨fa,fc,ea,ec,sa,sc,ss,ha,hc,hs⟩ kA E62
 simp only [G80,if_true] at J
 refine Yc (J) ?_;rintro _ h ⟨k,rfl,o⟩<;>refine Jh o ?_
 (refine Jb ?_;unhygienic intros)
 refine Yb (Yf rfl ?_)
 refine Ys fun o=>(?_:Tr _ _ _ _) o;refine Je ?_
 refine Yf rfl ?_
 (refine Ja ?_;unhygienic intros)
 refine Yc (Hm5 Ah8 ⟨fa,fc,ea,ec,sa,sc,ss,ha,hc,hs⟩ kA (by rw [Bu7];simp) Im4) ?_;rintro _ h ⟨w,rfl,o⟩<;>refine Jh o ?_
 (refine Ja ?_;unhygienic intros)
 refine Yc (In0 k (D40 Ah8) 0 Hf2 0) ?_
 rintro v h (⟨hz,c,rfl,o⟩|⟨hz,rfl,o⟩)
 case inr=>exact absurd hz (by rw [show D40 Ah8=S00 from rfl,Ik0];simp)
 rw [show D40 Ah8=S00 from rfl,Ik0] at o
 refine (?_:Tr _ _ _ _) o
 refine Je ?_
 (refine Jb ?_;unhygienic intros)
 refine Yb (Yf rfl ?_)
 refine Ys fun o=>(?_:Tr _ _ _ _) o;refine Je ?_
 refine Yf rfl ?_
 refine Yc (Gw8) ?_;rintro _ h ⟨rfl,o⟩<;>refine Jh o ?_
 (refine Jc ?_;unhygienic intros)
 refine Tr.ck (by rw [A66,Ac2];simp [B1]) ?_
 rw [A66,Ac2]
 refine Yn fun b2 h=>?_
 refine Dr1 (n:=492) 0 rfl (by rw [U5,show (bs Ac6).data.toList=Ac6 from rfl,Ac2]) ?_
 refine Je ?_
 have J2:=D55 k S00 0 Hf2 (by omega) 0 ⟨2,256,0,0,0,0,Ac6⟩ (some (L8 b2)) 492 false (show ((2:Int)≠5) by decide)
 simp only [Ac2] at J2
 refine Bv7 J2 [2,0] rfl ?_
 rintro _ h ⟨y,d,rfl,o⟩
 rw [Iv5]
 rw [show (Z5 S00 0 ⟨2,256,0,0,0,0,Ac6⟩).2=S0 from rfl] at o
 refine (?_:Tr _ _ _ _) o
 refine Je ?_
 (refine Jc ?_;unhygienic intros)
 refine Yf rfl ?_
 refine Tr.ck (by simp [B1]) ?_
 refine Yn fun b3 h=>?_
 refine Dr1 (n:=492) 0 rfl (by rw [U5,Ac2]) ?_
 refine Je ?_
 have J3:=Ey6 w (Df8 Ah8) D86.1 0 (by rw [D86.2,Bu7];simp) ⟨2,256,0,0,0,0,Ac6⟩ rfl (by rw [Ac2];simp [B1]) (slC false A5 1 (some (L8 b3)) Ac6.length 492 (A0 Ac6)) (some (L8 b3)) 492 false
 simp only [Ac2] at J3
 refine Yc J3 ?_
 rintro _ h ⟨rfl,o⟩
 rw [show ({ Df8 Ah8 with R:=(Ai0 (Df8 Ah8).R ((0:Nat):Int) 256 0 Ac6).2 }:RKS)=K0 from rfl] at o
 refine (?_:Tr _ _ _ _) o
 refine Je ?_
 (refine Ja ?_;unhygienic intros)
 refine Yc (Go7 w K0 (Gi7 D86.1 256 Ac6) 0 (by show (0:Nat)<(Df8 Ah8).B.envs.length;rw [D86.2,Bu7];simp)) ?_
 rintro v h (⟨_,m,rfl,o⟩|⟨hn,rfl,o⟩)
 case inr=>exact absurd hn Ih0
 refine (?_:Tr _ _ _ _) o
 refine Je ?_
 (refine Ja ?_;unhygienic intros)
 refine Ys fun o=>?_
 exact ⟨k,c,w,m,rfl,o.sub⟩
def Bz6 (mem:List UInt8) (rg:Rg):List (List UInt8):=rg.map fun p=>slice mem p.1 p.2
theorem G51 {mem:List UInt8} {rg:Rg} {j lo n:Nat} (h:rg[j]?=some (lo,n)):(Bz6 mem rg)[j]?=some (slice mem lo n):=by unfold Bz6;rw [List.getElem?_map,h];rfl
theorem G22 {mem:List UInt8} {rg:Rg} (h:∀ (j lo n:Nat),rg[j]?=some (lo,n)→lo+n≤mem.length):Fit mem.length rg (Bz6 mem rg):=⟨by simp [Bz6],fun j lo n hj=>⟨h j lo n hj,slice mem lo n,G51 hj,Gv0 (h j lo n hj)⟩⟩
theorem Id8 {mem:List UInt8} {rg:Rg} (k:RgOk rg) (h:∀ (j lo n:Nat),rg[j]?=some (lo,n)→lo+n≤mem.length):A12 mem rg (Bz6 mem rg)=mem:=by
 have f:=G22 h
 refine List.ext_getElem? fun i=>?_
 by_cases ho:∃ (j lo n:Nat),rg[j]?=some (lo,n)∧lo≤i∧i<lo+n
 ·obtain ⟨j,lo,n,hj,h1,h2⟩:=ho
  obtain ⟨i',rfl⟩:∃ i',i=lo+i':=⟨i-lo,by omega⟩
  rw [B66 f k j lo n _ hj (G51 hj) i' (by omega),Bx5,if_pos (by omega)]
 ·exact Ds9 f i fun j lo n hj=>by
   by_cases hh:lo≤i∧i<lo+n
   ·exact absurd ⟨j,lo,n,hj,hh.1,hh.2⟩ ho
   ·omega
theorem FrOk.room {F:Fr} {j lo n:Nat} (f:Fit F.S.mem.length F.rg (Bz6 F.S.mem F.rg)) (h:F.rg[j]?=some (lo,n)):lo+n≤F.S.mem.length:=(f.each j lo n h).1
theorem Fr.at_cut {F:Fr} (k:FrOk F) (h:∀ (j lo n:Nat),F.rg[j]?=some (lo,n)→lo+n≤F.S.mem.length):F.at (Bz6 F.S.mem F.rg)=F.S:=by
 unfold Fr.at;rw [Id8 k.dj h];rfl
theorem Own.cmTake {r:List HP} {h:H} (c k:Nat) (F:Fr) (bad:List RecS) (ok:FrOk F) (hr:∀ (j lo n:Nat),F.rg[j]?=some (lo,n)→lo+n≤F.S.mem.length) (o1:Own h (E3 k F.S::W7 c k F.env F.caps bad::r)):Own h (cmC c k F ⟨Bz6 F.S.mem F.rg,bad⟩::r):=by
 refine Own.inex (f:=fun u:Unit=>sl (cmF c k F ⟨Bz6 F.S.mem F.rg,bad⟩)) () (Own.group (l:=cmF c k F ⟨Bz6 F.S.mem F.rg,bad⟩) ?_)
 show Own h (E3 k (F.at (Bz6 F.S.mem F.rg))::W7 c k F.env F.caps bad::pu _::r)
 rw [Fr.at_cut ok hr]
 have o2:=Own.inpure (show Fit F.S.mem.length F.rg (Bz6 F.S.mem F.rg) from G22 hr) o1
 exact o2.picks [1,1,0] rfl
theorem Iq1 {l r:List HP} {h:H} {α:Type} {Q:α→H→Prop} {x:Option (α × H)} (c k:Nat) (F:Fr) (X:CX) [tk:Take (cmC c k F X) l r]
  (t:Fit F.S.mem.length F.rg X.m→Tr (E3 k (F.at X.m)::W7 c k F.env F.caps X.bad::r) h x Q):Tr l h x Q:=fun o=>by
 have o1:Own h (cmC c k F X::r):=o.perm tk.pm
 obtain ⟨u,o2⟩:=Own.ex (f:=fun u:Unit=>sl (cmF c k F X)) o1
 have o3:Own h (E3 k (F.at X.m)::W7 c k F.env F.caps X.bad::pu (Fit F.S.mem.length F.rg X.m)::r):=Own.join o2
 have f:=(o3.front (i:=2) rfl).pure
 exact t f (o3.front (i:=2) rfl).tail
theorem Hy8 {S:KS} {env cap obj:Int} {lo n:Nat} {e1 e2:Int} (hg:Bt0 S.tabs env cap=some ⟨obj,3,0,(n:Int),e1,e2⟩) (h0:0≤obj) (hr:S.regs[obj.toNat]?=some ((lo:Int),(n:Int))) (hl:lo+n≤65536) :
  ∀ (a m:Nat) (right:Int),right=1∨right=2→a+m≤n→P8 S.tabs S.regs env cap right a m=(((lo+a:Nat):Int),0):=by
 intro a m right hri ha
 have hlt:=(List.getElem?_eq_some_iff.1 hr).1
 unfold P8
 rw [hg]
 have b1:(M7 .i64 3 1==0)=false:=by kernel_rfl
 have b2:(M7 .i64 3 2==0)=false:=by kernel_rfl
 have hb:¬ ((M7 .i64 3 right==0)=true):=by rcases hri with rfl|rfl<;>simp [b1,b2]
 simp only
 have h2:(decide ((a:Int)<0) || decide ((m:Int)<0) || decide ((a:Int)>(n:Int)) || decide ((m:Int)>IntKind.wrap .i64 ((n:Int)-a)) || decide (obj<0) || decide (obj≥S.regs.length))=false:=by
  simp only [Bool.or_eq_false_iff,decide_eq_false_iff_not,B0];omega
 have h3:(decide (IntKind.wrap .i64 (0+(a:Int))>(n:Int)) || decide ((m:Int)>IntKind.wrap .i64 (IntKind.wrap .i64 ((n:Int)-0)-a)))=false:=by
  simp only [Bool.or_eq_false_iff,decide_eq_false_iff_not,B0];omega
 have h4:IntKind.wrap .i64 (IntKind.wrap .i64 ((lo:Int)+0)+a)=((lo+a:Nat):Int):=by simp only [B0];omega
 rw [if_neg hb]
 simp only [h2,hr,h3,h4,Bool.false_eq_true,if_false]
structure Like (S:KS):Prop where
 ok:KOk 0 S
 tabs:S.tabs=S00.tabs
 regs:S.regs=S00.regs
 envs:S.envs=S00.envs
 mem:S.mem.length=2560
theorem Ea8 {S:KS} (k:Like S) {m:List UInt8} (h:m.length=2560):Like (Br6 S m) :=
 ⟨⟨k.ok.envs,k.ok.tabs,k.ok.space,k.ok.quota,by show m.length≤65536;omega,k.ok.regs,k.ok.may,k.ok.mayl,k.ok.nsect,k.ok.sects,k.ok.now⟩,k.tabs,k.regs,k.envs,h⟩
theorem Ir3:Like S00:=⟨Hf2,rfl,rfl,rfl,by kernel_rfl⟩
theorem Ip4 (S:KS) (k:Like S) (cap:Int) (b:List UInt8):Like (wrS S cap b):=by
 unfold wrS Z5
 split
 ·exact k
 ·exact Ea8 k (by rw [Hs4];exact k.mem)
theorem Dy4:Like S0:=Ip4 S00 Ir3 256 Ac6
def rgP (s:Nat):Rg:=[(1280*s,492),(512,40),(1856,40)]
def frP (S:KS) (s:Nat) (env:Int):Fr:=⟨S,0,env,[256,257,258],rgP s⟩
theorem Hb6:S00.regs=[(0,492),(1280,492),(512,40),(1856,40)]:=by kernel_rfl
theorem It8:S00.envs.length=18:=by kernel_rfl
structure EnvP (s:Nat) (env:Int):Prop where
 hs:s<2
 he:0≤env∧env<18
 a:Bt0 S00.tabs env 256=some ⟨s,3,0,492,0,0⟩
 b:Bt0 S00.tabs env 257=some ⟨2,3,0,40,0,0⟩
 c:Bt0 S00.tabs env 258=some ⟨3,3,0,40,0,0⟩
theorem G58:EnvP 0 0:=⟨by omega,by omega,by kernel_rfl,by kernel_rfl,by kernel_rfl⟩
theorem D89 {s j lo n:Nat} (h:(rgP s)[j]?=some (lo,n)):(j=0∧lo=1280*s∧n=492)∨(j=1∧lo=512∧n=40)∨(j=2∧lo=1856∧n=40):=by
 unfold rgP at h
 match j,h with
 | 0,h=>simp at h;omega
 | 1,h=>simp at h;omega
 | 2,h=>simp at h;omega
 | j+3,h=>simp at h
theorem Eh3 {S:KS} (k:Like S) {s:Nat} (hs:s<2) (env:Int):∀ (j lo n:Nat),(frP S s env).rg[j]?=some (lo,n)→lo+n≤(frP S s env).S.mem.length:=by
 intro j lo n h
 have hm:=k.mem
 have:=D89 h
 show lo+n≤S.mem.length
 omega
theorem G57 {S:KS} (k:Like S) {s:Nat} {env:Int} (e:EnvP s env):FrOk (frP S s env):=by
 have hs:=e.hs;have he:=e.he
 refine ⟨k.ok,by simp [frP],by simp [frP],by simp [frP],by simp [frP,rgP],?_,?_,?_,⟨1280*s,rfl⟩,?_⟩
 ·show ¬ (env<0∨env≥(S.envs.length:Int))
  rw [k.envs,It8];omega
 ·intro j cap lo n hc hr
  show ∀ (a m:Nat) (right:Int),right=1∨right=2→a+m≤n→P8 S.tabs S.regs env cap right a m=_
  have hg:=D89 hr
  rcases hg with ⟨rfl,rfl,rfl⟩|⟨rfl,rfl,rfl⟩|⟨rfl,rfl,rfl⟩
  ·cases hc
   refine Hy8 (obj:=s) (e1:=0) (e2:=0) (by rw [k.tabs];exact e.a) (by omega) ?_ (by omega)
   rw [k.regs,Hb6,Int.toNat_natCast]
   match s,hs with
   | 0,_=>rfl
   | 1,_=>rfl
  ·cases hc
   exact Hy8 (obj:=2) (e1:=0) (e2:=0) (by rw [k.tabs];exact e.b) (by omega) (by rw [k.regs,Hb6];rfl) (by omega)
  ·cases hc
   exact Hy8 (obj:=3) (e1:=0) (e2:=0) (by rw [k.tabs];exact e.c) (by omega) (by rw [k.regs,Hb6];rfl) (by omega)
 ·intro i j lo n lo' n' hij hi hj
  have h1:=D89 hi;have h2:=D89 hj
  omega
 ·intro j lo n h0 h
  have:=D89 h;omega
abbrev F0:Fr:=frP S0 0 0
def X0:CX:=⟨Bz6 S0.mem (rgP 0),[]⟩
theorem Ij0:FrOk F0:=G57 Dy4 G58
theorem Ic4 (A:PlA):Ct A9 Bi6 [.agg ⟨Ey5 A86 A⟩] (Dm9 A86 A) fun v own =>
  ∃ k c w m,v=.tuple ⟨[P0 k,P0 c,P0 w,P0 m]⟩∧own [cmC c k F0 X0,rkC w K0,rcC m w 0 (B26 K0 0) []]:=by
 intro h r o
 obtain ⟨v,h',e,k,c,w,m,hv,o2⟩:=Im0 A h r o
 refine ⟨v,h',e,k,c,w,m,hv,?_⟩
 exact Own.cmTake c k F0 [] Ij0 (Eh3 Dy4 (by omega) 0) o2
theorem Hx1 {y m:Int} (h:0≤y):Int.tmod y m=y%m:=Int.tmod_eq_emod_of_nonneg h
theorem Ab1 {x:Int} (h:0≤x∧x<256):((b8 x).toNat:Int)=x:=by rw [← Bg8,Dk2];omega
theorem Eb8 {p:PipeS} (h:okP p=true):N9 (I1 p)=(p,1):=by
 have hk:=h
 simp only [okP,Bool.and_eq_true,decide_eq_true_eq] at h
 have e:Be2 (I1 p)=p:=by
  obtain ⟨a,b,c,d,l,hl⟩:=p
  simp only at h
  have h1:=Ab1 (x:=a) (by omega);have h2:=Ab1 (x:=b) (by omega);have h3:=Ab1 (x:=c) (by omega);have h4:=Ab1 (x:=d) (by omega)
  simp [Be2,I1,Ah7,Eg1 hl]
  exact ⟨h1,h2,h3,h4⟩
 have hz:(I1 p).all (·==0)=false:=by simp [I1,Ah7]
 unfold N9 isP
 rw [hz,e,hk]
 simp
theorem Gc8 {l b:List UInt8} {a c n:Nat} (h:a+b.length≤l.length) (hd:c+n≤a∨a+b.length≤c):slice (L6 l a b) c n=slice l c n:=by
 refine List.ext_getElem? fun i=>?_
 rw [Bx5,Bx5]
 split
 ·rw [Bm2 h,if_neg (by omega)]
 ·rfl
theorem Gh5 {l b:List UInt8} {a:Nat} (h:a+b.length≤l.length):slice (L6 l a b) a b.length=b:=by
 refine List.ext_getElem? fun i=>?_
 rw [Bx5]
 split
 ·rw [Bm2 h,if_pos (by omega)];congr 1;omega
 ·rw [List.getElem?_eq_none (by omega)]
abbrev Ij5:List Int:=[256,257,258]
structure InS (p:ProcS):Prop where
 a:0≤p.pending∧p.pending≤65535
 b:0≤p.mask∧p.mask≤65535
 c:0≤p.ignored∧p.ignored≤65535
 d:0≤p.caught∧p.caught≤65535
theorem G69 {p:ProcS} (h:okS p=true) (r:InS p):Y7 (Av8 p)=(p,1):=by
 have hk:=h
 obtain ⟨ra,rb,rc,rd⟩:=r
 have e:Be1 (Av8 p)=p:=by
  obtain ⟨st,pa,gr,co,pe,ma,ig,ca,fds,hl⟩:=p
  simp only at ra rb rc rd
  unfold okS at h
  simp only [Bool.and_eq_true,Bool.not_eq_true',Bool.or_eq_false_iff,decide_eq_false_iff_not,List.any_eq_false] at h
  match fds,hl with
  | [f0,f1,f2,f3,f4,f5,f6,f7],hl =>
   have hf:=h.2.2.1
   simp at hf
   have two_b:∀ n:Int,0≤n∧n≤65535→((hi2 n).toNat:Int)*256+((lo2 n).toNat:Int)=n:=fun n hn=>by
    unfold hi2 lo2
    rw [if_pos hn,if_pos hn,Ab1 (by omega),← Bg8,Dk2];omega
   have g0:=h.1
   simp only [Be1,Av8,Ec6,two]
   simp
   refine ⟨Ab1 (by omega),Ab1 (by omega),Ab1 (by omega),Ab1 (by omega),two_b _ ra,two_b _ rb,two_b _ rc,two_b _ rd,Ab1 (by omega),Ab1 (by omega),Ab1 (by omega),Ab1 (by omega),Ab1 (by omega),Ab1 (by omega),Ab1 (by omega),Ab1 (by omega)⟩
 have hz:(Av8 p).all (·==0)=false:=by
  simp [Av8,Ec6]
 unfold Y7 isS
 rw [hz,e,hk]
 simp
theorem Is0:Ei2 0 0=true:=by kernel_rfl
def stR (kind:Int) (l:List UInt8):Int:=if kind=1 then (Y7 l).2 else if kind=2 then (Z0 l).2 else if kind=5 then (Af0 l).2 else (N9 l).2
def rd (X:CX) (r:RecS):List UInt8 :=
 match I0 X.m.length r with
 | some (j,a,n)=>slice (X.m.getD j []) a n
 | none=>[]
structure Clean (nc:Nat) (X:CX):Prop where
 len:X.m.length=nc
 pos:0<nc
 bad:X.bad=[]
 own:(X.m.getD 0 []).length=492
 brs:∀ j,0<j→j<nc→(X.m.getD j []).length=40
 ok:∀ r:RecS,1≤r.kind→r.kind≤5→0≤r.index→r.index<V0 nc r.kind→stR r.kind (rd X r)≠2
structure Rin (nc:Nat) (r:RecS):Prop where
 a:1≤r.kind
 b:r.kind≤5
 c:0≤r.index
 d:r.index<V0 nc r.kind
theorem Rin.place {nc:Nat} {r:RecS} (h:Rin nc r) (hn:0<nc):∃ j a,I0 nc r=some (j,a,Aa3 r.kind)∧j<nc∧(j=0→a+Aa3 r.kind≤492)∧(0<j→a=0∧Aa3 r.kind=40):=by
 obtain ⟨h1,h2,h3,h4⟩:=h
 obtain ⟨k,i⟩:=r
 simp only at h1 h2 h3 h4
 have hk:k=1∨k=2∨k=3∨k=4∨k=5:=by omega
 unfold I0 Aa3
 simp only
 rw [if_neg (by omega)]
 rcases hk with rfl|rfl|rfl|rfl|rfl
 ·exact ⟨0,_,rfl,hn,fun _=>by simp [V0] at h4 ⊢;omega,fun h=>by omega⟩
 ·exact ⟨0,_,rfl,hn,fun _=>by simp [V0] at h4 ⊢;omega,fun h=>by omega⟩
 ·simp only [V0] at h4
  by_cases h5:i<4
  ·exact ⟨0,_,by simp [h5];rfl,hn,fun _=>by simp;omega,fun h=>by omega⟩
  ·exact ⟨i.toNat-3,0,by simp [h5],by simp at h4;omega,fun h=>by omega,fun _=>⟨rfl,rfl⟩⟩
 ·exact ⟨0,_,rfl,hn,fun _=>by simp,fun h=>by omega⟩
 ·exact ⟨0,_,rfl,hn,fun _=>by simp,fun h=>by omega⟩
theorem Ic1 {nc:Nat} {r r':RecS} (h:Rin nc r) (h':Rin nc r') (ne:r≠r') {j a n j' a' n':Nat} (e:I0 nc r=some (j,a,n)) (e':I0 nc r'=some (j',a',n')):j≠j'∨a+n≤a'∨a'+n'≤a:=by
 obtain ⟨h1,h2,h3,h4⟩:=h
 obtain ⟨g1,g2,g3,g4⟩:=h'
 obtain ⟨k,i⟩:=r
 obtain ⟨k',i'⟩:=r'
 simp only at h1 h2 h3 h4 g1 g2 g3 g4
 have ne':k≠k'∨i≠i':=by
  by_cases hk:k=k'
  ·right;intro hi;exact ne (by rw [hk,hi])
  ·exact .inl hk
 unfold I0 at e e'
 simp only at e e'
 rw [if_neg (by omega)] at e e'
 unfold V0 at h4 g4
 have hk:k=1∨k=2∨k=3∨k=4∨k=5:=by omega
 have hk':k'=1∨k'=2∨k'=3∨k'=4∨k'=5:=by omega
 have fin:∀ {x y:Nat × Nat × Nat},some x=some y→x=y:=fun h=>by cases h;rfl
 rcases hk with rfl|rfl|rfl|rfl|rfl<;>rcases hk' with rfl|rfl|rfl|rfl|rfl<;>simp at e e' h4 g4 ne'<;>(try split at e)<;>(try split at e')<;>(try simp at e e')<;>omega
def Bo5 (X:CX) (r:RecS) (b:List UInt8):CX :=
 match I0 X.m.length r with
 | some (j,a,_)=>{ X with m:=X.m.set j (L6 (X.m.getD j []) a b) }
 | none=>X
theorem E74 (l:List (List UInt8)) (j j':Nat) (x:List UInt8) (h:j<l.length):(l.set j x).getD j' []=if j'=j then x else l.getD j' []:=by
 rw [List.getD_eq_getElem?_getD,List.getD_eq_getElem?_getD,List.getElem?_set]
 by_cases hj:j=j'
 ·subst hj;simp [h]
 ·rw [if_neg hj,if_neg (fun e=>hj e.symm)]
section
variable {nc:Nat} {X:CX} (c:Clean nc X) {r r':RecS} (h:Rin nc r) (h':Rin nc r')
include c h
theorem H76:rdX X r=some (rd X r):=by
 obtain ⟨j,a,e,_⟩:=h.place c.pos
 unfold rdX rd
 rw [c.len,e]
 simp [c.bad]
theorem Bh3 (b:List UInt8):wrX X r b true=(true,Bo5 X r b):=by
 obtain ⟨j,a,e,_⟩:=h.place c.pos
 unfold wrX Bo5
 rw [c.len,e]
 simp [c.bad]
theorem Er7 {j a n:Nat} (e:I0 nc r=some (j,a,n)):a+n≤(X.m.getD j []).length∧j<X.m.length∧n=Aa3 r.kind:=by
 obtain ⟨j',a',e',hj,h0,h1⟩:=h.place c.pos
 rw [e] at e';cases e'
 rw [c.len]
 by_cases hz:j=0
 ·subst hz;rw [c.own];exact ⟨h0 rfl,hj,rfl⟩
 ·rw [c.brs j (by omega) hj]
  have:=h1 (by omega)
  exact ⟨by omega,hj,rfl⟩
include h'
theorem P9 {b:List UInt8} (hb:b.length=Aa3 r.kind):rd (Bo5 X r b) r'=if r'=r then b else rd X r':=by
 obtain ⟨j,a,e,_⟩:=h.place c.pos
 obtain ⟨j',a',e',_⟩:=h'.place c.pos
 have p:=Er7 c h e
 have p':=Er7 c h' e'
 have es:Bo5 X r b={ X with m:=X.m.set j (L6 (X.m.getD j []) a b) }:=by unfold Bo5;rw [c.len,e]
 have el:(Bo5 X r b).m.length=nc:=by rw [es];simp [c.len]
 unfold rd
 rw [el,e',c.len,e',es]
 simp only
 rw [E74 _ _ _ _ p.2.1]
 by_cases hr:r'=r
 ·subst hr
  rw [e] at e';cases e'
  rw [if_pos rfl,if_pos rfl]
  have:=Gh5 (l:=X.m.getD j []) (b:=b) (a:=a) (by omega)
  rwa [hb] at this
 ·rw [if_neg hr]
  by_cases hj:j'=j
  ·subst hj
   rw [if_pos rfl]
   have dj:=Ic1 h' h hr e' e
   exact Gc8 (by omega) (by omega)
  ·rw [if_neg hj]
end
theorem Bg9 {nc:Nat} {X:CX} (c:Clean nc X) {r:RecS} (h:Rin nc r) {b:List UInt8} (hb:b.length=Aa3 r.kind) (hs:stR r.kind b≠2):Clean nc (Bo5 X r b):=by
 obtain ⟨j,a,e,_⟩:=h.place c.pos
 have p:=Er7 c h e
 have es:Bo5 X r b={ X with m:=X.m.set j (L6 (X.m.getD j []) a b) }:=by unfold Bo5;rw [c.len,e]
 refine ⟨by rw [es];simp [c.len],c.pos,by rw [es];exact c.bad,?_,?_,?_⟩
 ·rw [es];simp only
  rw [E74 _ _ _ _ p.2.1]
  split
  ·rename_i h0;subst h0;rw [Ae8 (by omega)];exact c.own
  ·exact c.own
 ·intro i h0 h1
  rw [es];simp only
  rw [E74 _ _ _ _ p.2.1]
  split
  ·rename_i h2;subst h2;rw [Ae8 (by omega)];exact c.brs i h0 h1
  ·exact c.brs i h0 h1
 ·intro r' h1 h2 h3 h4
  rw [P9 c h ⟨h1,h2,h3,h4⟩ hb]
  split
  ·rename_i hr;rw [hr];exact hs
  ·exact c.ok r' h1 h2 h3 h4
theorem Bj2 {α:Type} (dec:List UInt8→α × Int) (z:α) {nc:Nat} {X:CX} (c:Clean nc X) {r:RecS} (h:Rin nc r) (hd:(dec (rd X r)).2=stR r.kind (rd X r)):W8 dec z X r=(dec (rd X r),X):=by
 unfold W8
 rw [H76 c h]
 simp only
 rw [if_neg (by rw [hd];exact c.ok r h.a h.b h.c h.d)]
abbrev vS (X:CX) (i:Int):ProcS × Int:=Y7 (rd X ⟨1,i⟩)
abbrev vF (X:CX) (i:Int):FileS × Int:=Z0 (rd X ⟨2,i⟩)
abbrev vP (X:CX) (i:Int):PipeS × Int:=N9 (rd X ⟨3,i⟩)
theorem B91 {nc:Nat} {i:Int} (h:0≤i∧i<8):Rin nc ⟨1,i⟩:=⟨by simp,by simp,h.1,h.2⟩
theorem Be0 {nc:Nat} {i:Int} (h:0≤i∧i<12):Rin nc ⟨2,i⟩:=⟨by simp,by simp,h.1,h.2⟩
theorem A79 {nc:Nat} {i:Int} (h:0≤i∧i<3+nc):Rin nc ⟨3,i⟩:=⟨by simp,by simp,h.1,h.2⟩
theorem Br7 {nc:Nat} {X:CX} (c:Clean nc X) {i:Int} (h:0≤i∧i<8):Eg3 X i=(vS X i,X):=Bj2 Y7 .zero c (B91 h) rfl
theorem Br4 {nc:Nat} {X:CX} (c:Clean nc X) {i:Int} (h:0≤i∧i<12):Eg7 X i=(vF X i,X):=Bj2 Z0 .zero c (Be0 h) rfl
theorem D41 {nc:Nat} {X:CX} (c:Clean nc X) {i:Int} (h:0≤i∧i<3+nc):Eb5 X i=(vP X i,X):=Bj2 N9 .zero c (A79 h) rfl
theorem Dj1 {f:CX→Int→CX} {X:CX}:∀ (m:Nat) (i:Int),(∀ j,i≤j→j<i+m→f X j=X)→Di9 f m i X=X
 | 0,_,_=>rfl
 | m+1,i,h=>by
  unfold Di9
  rw [h i (by omega) (by omega)]
  exact Dj1 m (i+1) fun j h1 h2=>h j (by omega) (by omega)
theorem Gi9 {nc:Nat} {X:CX} (c:Clean nc X):Gh2 X=X:=by
 have h3:Ge3 X=X:=by
  unfold Ge3
  have e1:Eb2 X=(N9 (rd X ⟨4,0⟩),X):=Bj2 N9 .zero c ⟨by simp,by simp,by simp,by simp [V0]⟩ rfl
  have e2:D82 X=(Af0 (rd X ⟨5,0⟩),X):=Bj2 Af0 0 c ⟨by simp,by simp,by simp,by simp [V0]⟩ rfl
  rw [e1];simp only;rw [e2]
 have hl:=c.len
 unfold Gh2 lookN G67 G23
 rw [Dj1 8 0 (fun j h1 h2=>by rw [Br7 c (by omega)])]
 rw [Dj1 12 0 (fun j h1 h2=>by rw [Br4 c (by omega)])]
 rw [Dj1 (3+X.m.length) 0 (fun j h1 h2=>by rw [D41 c (by omega)]),h3]
theorem Hd7 {f:FileS} (h:okF f=true):Z0 (Ai9 f)=(f,1):=by
 have hk:=h
 simp only [okF,Bool.and_eq_true,Bool.or_eq_true,decide_eq_true_eq,beq_iff_eq,bne_iff_ne] at h
 have e:B77 (Ai9 f)=f:=by
  obtain ⟨a,b,c,d⟩:=f
  simp only at h
  have h1:=Ab1 (x:=a) (by omega);have h2:=Ab1 (x:=b) (by omega);have h3:=Ab1 (x:=c) (by omega);have h4:=Ab1 (x:=d) (by omega)
  simp [B77,Ai9,A83]
  exact ⟨h1,h2,h3,h4⟩
 have hz:(Ai9 f).all (·==0)=false:=by simp [Ai9,A83]
 unfold Z0 isF
 rw [hz,e,hk]
 simp
section
variable {nc:Nat} {X:CX} (c:Clean nc X)
include c
abbrev Bw1 (X:CX) (i:Int) (p:ProcS):CX:=Bo5 X ⟨1,i⟩ (Av8 p)
abbrev A09 (X:CX) (i:Int) (f:FileS):CX:=Bo5 X ⟨2,i⟩ (Ai9 f)
theorem Bl7 {i:Int} (h:0≤i∧i<8) {p:ProcS} (ok:okS p=true) (r:InS p) :
  Bu5 X i p=(true,Bw1 X i p)∧Clean nc (Bw1 X i p)∧(∀ j:Int,0≤j∧j<8→vS (Bw1 X i p) j=if j=i then (p,1) else vS X j)∧(∀ j:Int,0≤j∧j<12→vF (Bw1 X i p) j=vF X j)∧(∀ j:Int,0≤j∧j<3+nc→vP (Bw1 X i p) j=vP X j):=by
 have hl:(Av8 p).length=Aa3 (1:Int):=by rw [Ei0];rfl
 refine ⟨by unfold Bu5;rw [ok];exact Bh3 c (B91 h) _,Bg9 c (B91 h) hl (by show (Y7 (Av8 p)).2≠2;rw [G69 ok r];simp),fun j hj=>?_,fun j hj=>?_,fun j hj=>?_⟩
 ·show Y7 (rd _ _)=_
  rw [P9 c (B91 h) (B91 hj) hl]
  by_cases e:j=i
  ·rw [if_pos (by rw [e]),if_pos e];exact G69 ok r
  ·rw [if_neg (by simp [e]),if_neg e]
 ·show Z0 (rd _ _)=_
  rw [P9 c (B91 h) (Be0 hj) hl,if_neg (by simp)]
 ·show N9 (rd _ _)=_
  rw [P9 c (B91 h) (A79 hj) hl,if_neg (by simp)]
theorem As2 {i:Int} (h:0≤i∧i<12) {f:FileS} (ok:okF f=true) :
  Bj3 X i f=(true,A09 X i f)∧Clean nc (A09 X i f)∧(∀ j:Int,0≤j∧j<8→vS (A09 X i f) j=vS X j)∧(∀ j:Int,0≤j∧j<12→vF (A09 X i f) j=if j=i then (f,1) else vF X j)∧(∀ j:Int,0≤j∧j<3+nc→vP (A09 X i f) j=vP X j):=by
 have hl:(Ai9 f).length=Aa3 (2:Int):=by rw [Ds7];rfl
 refine ⟨by unfold Bj3;rw [ok];exact Bh3 c (Be0 h) _,Bg9 c (Be0 h) hl (by show (Z0 (Ai9 f)).2≠2;rw [Hd7 ok];simp),fun j hj=>?_,fun j hj=>?_,fun j hj=>?_⟩
 ·show Y7 (rd _ _)=_
  rw [P9 c (Be0 h) (B91 hj) hl,if_neg (by simp)]
 ·show Z0 (rd _ _)=_
  rw [P9 c (Be0 h) (Be0 hj) hl]
  by_cases e:j=i
  ·rw [if_pos (by rw [e]),if_pos e];exact Hd7 ok
  ·rw [if_neg (by simp [e]),if_neg e]
 ·show N9 (rd _ _)=_
  rw [P9 c (Be0 h) (A79 hj) hl,if_neg (by simp)]
theorem Ik1 {i:Int} (h:0≤i∧i<8):((vS X i).2=0∧(vS X i).1=.zero)∨((vS X i).2=1∧okS (vS X i).1=true):=by
 have:=c.ok ⟨1,i⟩ (by simp) (by simp) h.1 h.2
 have hk:(vS X i).2≠2:=this
 unfold vS Y7 at hk ⊢
 split
 ·exact .inl ⟨rfl,rfl⟩
 ·split
  ·rename_i h2
   unfold isS at h2
   simp only [Bool.and_eq_true] at h2
   exact .inr ⟨rfl,h2.1⟩
  ·rename_i h1 h2;simp [h1,h2] at hk
theorem Ik2 {i:Int} (h:0≤i∧i<12):((vF X i).2=0∧(vF X i).1=.zero)∨((vF X i).2=1∧okF (vF X i).1=true):=by
 have:=c.ok ⟨2,i⟩ (by simp) (by simp) h.1 h.2
 have hk:(vF X i).2≠2:=this
 unfold vF Z0 at hk ⊢
 split
 ·exact .inl ⟨rfl,rfl⟩
 ·split
  ·rename_i h2
   unfold isF at h2
   simp only [Bool.and_eq_true] at h2
   exact .inr ⟨rfl,h2.1⟩
  ·rename_i h1 h2;simp [h1,h2] at hk
end
abbrev N4 (n e:Int) (b:Bool):List Value:=[int n,int e,.slice none 0 0,.bool b]
theorem Bw9 (e:Int):Ct A9 Ab6 [int e] [] fun v own=>v=.agg ⟨N4 0 e false⟩∧own []:=by
 refine Ct.of Hl1 rfl fun h r=>Tr.eq (Hn3 ..) ?_;refine Je ?_
 (refine Ja ?_;unhygienic intros)
 refine Ys fun o=>?_
 exact ⟨rfl,o.sub⟩
theorem Hp4 (ok:Bool) (n:Int):Ct A9 Bq6 [.bool ok,int n] [] fun v own=>v=.agg ⟨if ok then N4 n 0 false else N4 0 105 false⟩∧own []:=by
 refine Ct.of Hg9 rfl fun h r=>Tr.eq (Hg4 ..) ?_;refine Je ?_
 cases ok with
 | true =>
  (refine Ja ?_;unhygienic intros)
  refine Ys fun o=>?_
  exact ⟨rfl,o.sub⟩
 | false =>
  (refine Ja ?_;unhygienic intros)
  refine Yc (Bw9 105) ?_;rintro _ h ⟨rfl,o⟩<;>(refine Jf o ?_;unhygienic intros)
  refine Ys fun o=>?_
  exact ⟨rfl,o.sub⟩
def M0 (X:CX) (i:Int):ProcS × Int:=if (vS X i).2=1∧(vS X i).1.state=1 then ((vS X i).1,0) else (.zero,105)
theorem Dn6 (b k:Nat) (F:Fr) (X:CX) (ok:FrOk F) {nc:Nat} (c:Clean nc X) (i:Int) (hi:0≤i∧i<8):Ct A9 Aj8 [P0 b,int i] [cmC b k F X] fun v own=>v=.tuple ⟨[.agg ⟨D5 (M0 X i).1⟩,int (M0 X i).2]⟩∧own [cmC b k F X]:=by
 refine Ct.of Hn9 rfl fun h r=>Tr.eq (Hi7 ..) ?_;refine Je ?_
 (refine Jc ?_;unhygienic intros)
 refine Yn fun b0 h=>?_
 refine Yc (Hq0 b k F X ok) ?_;rintro _ h ⟨rfl,o⟩<;>refine Jh o ?_
 rw [Gi9 c]
 (refine Ja ?_;unhygienic intros)
 refine Yc (Ds6 b k F X ok i) ?_;rintro _ h ⟨rfl,o⟩<;>refine Jh o ?_
 rw [Br7 c hi]
 dsimp only
 (refine Jc ?_;unhygienic intros)
 refine Yn fun b1 h=>?_
 (refine Jb ?_;unhygienic intros)
 refine Tr.orG (c:=(vS X i).1.state != 1) (fun hb=>?_) ?_
 ·exact Jz
 unfold M0
 by_cases h1:(vS X i).2=1∧(vS X i).1.state=1
 ·rw [if_pos h1]
  refine Yf (by simp [h1.1,h1.2]) ?_
  (refine Ja ?_;unhygienic intros)
  refine Ys fun o=>?_
  exact ⟨rfl,o.sub⟩
 ·rw [if_neg h1]
  refine Yt (by simp;by_cases h2:(vS X i).2=1<;>simp [h2] at h1 ⊢;exact h1) ?_
  (refine Ja ?_;unhygienic intros)
  refine Ys fun o=>?_
  exact ⟨rfl,o.sub⟩
def Ak0 (X:CX):Nat→Int→Int
 | 0,_=>-1
 | m+1,i=>if (vS X i).2=0 then i else Ak0 X m (i+1)
theorem Hy0 (b k:Nat) (F:Fr) (X:CX) (ok:FrOk F) {nc:Nat} (c:Clean nc X):∀ (m:Nat) (i:Int),0≤i→i+m=8 →
  CtJ H3 Ar8 Bk8 [(0,P0 b),(6,int i)] [cmC b k F X] fun v own=>v=int (Ak0 X m i)∧own [cmC b k F X]:=by
 intro m
 induction m with
 | zero =>
  intro i h0 hi
  refine CtJ.of D06 fun h r=>Tr.eq (D63 ..) ?_;refine Je ?_
  refine Yf (by simp;omega) ?_
  refine Ys fun o=>?_
  exact ⟨rfl,o.sub⟩
 | succ m ih =>
  intro i h0 hi
  have e1:IntKind.wrap .i64 (i+1)=i+1:=by rw [B0];omega
  refine CtJ.of D06 fun h r=>Tr.eq (D63 ..) ?_;refine Je ?_
  refine Yt (by simp;omega) ?_
  refine Yc (Ds6 b k F X ok i) ?_;rintro _ h ⟨rfl,o⟩<;>refine Jh o ?_
  rw [Br7 c (by omega)]
  dsimp only
  (refine Jc ?_;unhygienic intros)
  refine Yn fun b1 h=>?_
  (refine Ja ?_;unhygienic intros)
  rw [show Ak0 X (m+1) i=if (vS X i).2=0 then i else Ak0 X m (i+1) from rfl]
  by_cases h1:(vS X i).2=0
  ·rw [if_pos h1]
   refine Yt (by simpa using h1) ?_
   refine Ys fun o=>?_
   exact ⟨rfl,o.sub⟩
  ·rw [if_neg h1,e1]
   refine Yf (by simpa using h1) ?_
   refine Q7 [1] 1 rfl rfl ?_
   refine Yr (ih (i+1) (by omega) (by omega)) ?_
   intro v h q
   exact q
theorem Io7 (b k:Nat) (F:Fr) (X:CX) (ok:FrOk F) {nc:Nat} (c:Clean nc X):Ct A9 Ar8 [P0 b] [cmC b k F X] fun v own=>v=int (Ak0 X 8 0)∧own [cmC b k F X]:=by
 refine Ct.of D06 rfl fun h r=>Tr.eq (Hn8 ..) ?_;refine Je ?_
 refine Yr (Hy0 b k F X ok c 8 0 (by omega) (by omega)) ?_
 intro v h q
 exact q
def Bm0:List Int→List Int→List Int
 | [],m=>m
 | f::l,m=>Bm0 l (if f>0 then m.set (f-1).toNat (m.getD (f-1).toNat 0+1) else m)
def Ad0 (n:Int) (m:List Int):Prop:=m.length=12∧∀ x ∈ m,0≤x∧x≤n
theorem Ad0.get {n:Int} {m:List Int} (h:Ad0 n m) {j:Nat} (hj:j<12):0≤m.getD j 0∧m.getD j 0≤n:=by
 have hl:=h.1
 have e:m[j]?=some m[j]:=List.getElem?_eq_getElem (by omega)
 rw [List.getD_eq_getElem?_getD,e]
 exact h.2 _ (List.getElem_mem _)
theorem Ad0.set {n:Int} {m:List Int} (h:Ad0 n m) {j:Nat} (hj:j<12):Ad0 (n+1) (m.set j (m.getD j 0+1)):=by
 refine ⟨by simpa using h.1,fun x hx=>?_⟩
 rcases List.mem_or_eq_of_mem_set hx with h2|rfl
 ·have:=h.2 x h2;omega
 ·have:=h.get hj;omega
theorem Ad0.up {n:Int} {m:List Int} (h:Ad0 n m):Ad0 (n+1) m:=⟨h.1,fun x hx=>by have:=h.2 x hx;omega⟩
theorem Id0 {m:List Int} {j:Nat} (h:j<m.length) (v:Int):Dh3 (m.map int) j (int v)=some ((m.set j v).map int):=by
 rw [Dh3,show Nat.blt j (m.map int).length=true from Nat.ble_eq_true_of_le (by simp;omega),List.map_set];rfl
def B46 (l:List Int):Prop:=∀ f ∈ l,0≤f∧f≤12
theorem Gp6 {l:List Int} {i:Nat} (h:i<l.length):(l.map int)[i]?=some (int (l.getD i 0)):=by rw [List.getElem?_map,O4 0 h];rfl
theorem Hh4 (b k:Nat) (F:Fr) (X:CX) (b0 b1:Nat) (p:ProcS) (hf:B46 p.fds) (Φ:Value→(List HP→Prop)→Prop) (M:List Int)
  (next:CtJ H3 G5 Al9 [(0,P0 b),(5,P0 b1),(31,.agg ⟨p.fds.map int⟩),(32,int 0)] [pt b1 (.cells Ec5 false (M.map int)),cmC b k F X] Φ) :
  ∀ (m i:Nat) (more:List Int),i+m=8→Ad0 i more→Bm0 (p.fds.drop i) more=M →
  CtJ H3 G5 Az3 [(0,P0 b),(3,P0 b0),(5,P0 b1),(17,.agg ⟨p.fds.map int⟩),(18,int i)] [pt b1 (.cells Ec5 false (more.map int)),pt b0 (.cells D0 false (D5 p)),cmC b k F X] Φ:=by
 intro m
 induction m with
 | zero =>
  intro i more hi hm hM
  have:i=8:=by omega
  subst this
  rw [show p.fds.drop 8=[] from List.drop_eq_nil_of_le (by rw [p.len];omega),show Bm0 [] more=more from rfl] at hM
  subst hM
  refine CtJ.of At2 fun h r=>Tr.eq (Dz0 ..) ?_;refine Je ?_
  refine Yf (by simp) ?_
  (refine Ja ?_;unhygienic intros)
  refine Q7 [0,1] 1 rfl rfl ?_
  refine Yr next ?_
  intro v h q
  exact q
 | succ m ih =>
  intro i more hi hm hM
  have e1:IntKind.wrap .i64 ((i:Int)+1)=((i+1:Nat):Int):=by rw [B0];omega
  have hil:i<p.fds.length:=by rw [p.len];omega
  have hg:=Gp6 hil
  have hd:p.fds.drop i=p.fds.getD i 0::p.fds.drop (i+1):=by
   rw [List.drop_eq_getElem_cons hil,List.getD_eq_getElem?_getD,List.getElem?_eq_getElem hil];rfl
  have hr:0≤p.fds.getD i 0∧p.fds.getD i 0≤12:=hf _ (by
   rw [List.getD_eq_getElem?_getD,List.getElem?_eq_getElem hil];exact List.getElem_mem _)
  rw [hd] at hM
  generalize p.fds.getD i 0=f at hg hr hM
  rw [show Bm0 (f::p.fds.drop (i+1)) more=Bm0 (p.fds.drop (i+1)) (if f>0 then more.set (f-1).toNat (more.getD (f-1).toNat 0+1) else more) from rfl] at hM
  refine CtJ.of At2 fun h r=>Tr.eq (Dz0 ..) ?_;refine Je ?_
  refine Yt (by simp;omega) ?_
  rw [e1]
  refine Tr.ck (by omega) ?_
  rw [Int.toNat_natCast]
  (refine Ja ?_;unhygienic intros)
  by_cases hz:f>0
  ·have e2:IntKind.wrap .i64 (f-1)=f-1:=by rw [B0];omega
   have hj:(f-1).toNat<12:=by omega
   have hm2:=hm.get hj
   have e3:IntKind.wrap .i64 (more.getD (f-1).toNat 0+1)=more.getD (f-1).toNat 0+1:=by rw [B0];omega
   have hgm:=Gp6 (l:=more) (i:=(f-1).toNat) (by rw [hm.1];exact hj)
   rw [if_pos hz] at hM
   rw [e2]
   refine Yt (by simpa using hz) ?_
   (refine Ja ?_;unhygienic intros)
   rw [e3]
   refine Gs (fun h=>?_) (by exact Id0 (by rw [hm.1];exact hj) _)
   refine Yr (ih (i+1) (more.set (f-1).toNat (more.getD (f-1).toNat 0+1)) (by omega) (by rw [show ((i+1:Nat):Int)=(i:Int)+1 by omega];exact hm.set hj) hM) ?_
   intro v h q
   exact q
  ·rw [if_neg hz] at hM
   refine Yf (by simpa using hz) ?_
   refine Yr (ih (i+1) more (by omega) (by simpa using hm.up) hM) ?_
   intro v h q
   exact q
def Ac9 (X:CX) (more:List Int):List Int→Int
 | []=>0
 | f::l=>if f=0 then Ac9 X more l else if (vF X (f-1)).2≠1 then 105 else if (vF X (f-1)).1.refs+more.getD (f-1).toNat 0>64 then 123 else Ac9 X more l
theorem Hq1 {f:FileS} (h:okF f=true):1≤f.refs∧f.refs≤64:=by
 simp only [okF,Bool.and_eq_true,Bool.or_eq_true,decide_eq_true_eq,beq_iff_eq,bne_iff_ne] at h
 omega
theorem Ho3 {nc:Nat} {X:CX} (c:Clean nc X) {i:Int} (h:0≤i∧i<12):0≤(vF X i).1.refs∧(vF X i).1.refs≤64:=by
 rcases Ik2 c h with ⟨_,h1⟩|⟨_,h1⟩
 ·rw [h1];simp
 ·have:=Hq1 h1;omega
theorem Hj1 (b k:Nat) (F:Fr) (X:CX) (ok:FrOk F) {nc:Nat} (c:Clean nc X) (b1:Nat) (fds more:List Int) (hl:fds.length=8) (hf:B46 fds) (hm:Ad0 8 more) (Φ:Value→(List HP→Prop)→Prop)
  (bad:∀ (e:Int),Ac9 X more fds=e→e≠0→∀ h r,Own h (cmC b k F X::r)→Φ (int e) fun l=>Own h (l++r))
  (next:Ac9 X more fds=0→CtJ H3 G5 Am1 [(0,P0 b),(57,.agg ⟨more.map int⟩),(58,int 0)] [cmC b k F X] Φ) :
  ∀ (m i:Nat),i+m=8→Ac9 X more fds=Ac9 X more (fds.drop i) →
  CtJ H3 G5 Al9 [(0,P0 b),(5,P0 b1),(31,.agg ⟨fds.map int⟩),(32,int i)] [pt b1 (.cells Ec5 false (more.map int)),cmC b k F X] Φ:=by
 intro m
 induction m with
 | zero =>
  intro i hi he
  have:i=8:=by omega
  subst this
  rw [show fds.drop 8=[] from List.drop_eq_nil_of_le (by omega),show Ac9 X more []=0 from rfl] at he
  have hl12:Da4 (more.map int) 0 12=some (more.map int):=Bi5 (by simp [hm.1])
  refine CtJ.of At2 fun h r=>Tr.eq (Dz2 ..) ?_;refine Je ?_
  refine Yf (by simp) ?_
  refine Gs ?_ (by exact hl12)
  refine Q7 [1] 1 rfl rfl ?_
  refine Yr (next he) ?_
  intro v h q
  exact q
 | succ m ih =>
  intro i hi he
  have e1:IntKind.wrap .i64 ((i:Int)+1)=((i+1:Nat):Int):=by rw [B0];omega
  have hil:i<fds.length:=by omega
  have hg:=Gp6 hil
  have hd:fds.drop i=fds.getD i 0::fds.drop (i+1):=by
   rw [List.drop_eq_getElem_cons hil,List.getD_eq_getElem?_getD,List.getElem?_eq_getElem hil];rfl
  have hr:0≤fds.getD i 0∧fds.getD i 0≤12:=hf _ (by
   rw [List.getD_eq_getElem?_getD,List.getElem?_eq_getElem hil];exact List.getElem_mem _)
  rw [hd] at he
  generalize fds.getD i 0=f at hg hr he
  rw [show Ac9 X more (f::fds.drop (i+1))=if f=0 then Ac9 X more (fds.drop (i+1)) else if (vF X (f-1)).2≠1 then 105 else if (vF X (f-1)).1.refs+more.getD (f-1).toNat 0>64 then 123 else Ac9 X more (fds.drop (i+1)) from rfl] at he
  refine CtJ.of At2 fun h r=>Tr.eq (Dz2 ..) ?_;refine Je ?_
  refine Yt (by simp;omega) ?_
  rw [e1]
  refine Tr.ck (by omega) ?_
  rw [Int.toNat_natCast]
  (refine Ja ?_;unhygienic intros)
  by_cases hz:f=0
  ·rw [if_pos hz] at he
   refine Yt (by simpa using hz) ?_
   refine Yr (ih (i+1) (by omega) he) ?_
   intro v h q
   exact q
  rw [if_neg hz] at he
  refine Yf (by simpa using hz) ?_
  have e2:IntKind.wrap .i64 (f-1)=f-1:=by rw [B0];omega
  have hj:(f-1).toNat<12:=by omega
  rw [e2]
  refine Yc (Do7 b k F X ok (f-1)) ?_;rintro _ h ⟨rfl,o⟩<;>refine Jh o ?_
  rw [Br4 c (by omega)]
  dsimp only
  (refine Jc ?_;unhygienic intros)
  refine Yn fun b2 h=>?_
  (refine Ja ?_;unhygienic intros)
  by_cases h1:(vF X (f-1)).2=1
  ·rw [if_neg (by simpa using h1)] at he
   refine Yf (by simpa using h1) ?_
   have hm2:=hm.get hj
   have hgm:=Gp6 (l:=more) (i:=(f-1).toNat) (by rw [hm.1];exact hj)
   have hrf:=Ho3 c (i:=f-1) (by omega)
   have e3:IntKind.wrap .i64 ((vF X (f-1)).1.refs+more.getD (f-1).toNat 0)=(vF X (f-1)).1.refs+more.getD (f-1).toNat 0:=by rw [B0];omega
   (refine Ja ?_;unhygienic intros)
   rw [e3]
   by_cases h2:(vF X (f-1)).1.refs+more.getD (f-1).toNat 0>64
   ·rw [if_pos h2] at he
    refine Yt (by simpa using h2) ?_
    refine Q7 [1] 2 rfl rfl ?_
    refine Ys fun o=>?_
    exact bad 123 he (by simp) _ _ o
   ·rw [if_neg h2] at he
    refine Yf (by simpa using h2) ?_
    refine Q7 [2,1] 1 rfl rfl ?_
    refine Yr (ih (i+1) (by omega) he) ?_
    intro v h q
    exact q
  ·rw [if_pos h1] at he
   refine Yt (by simpa using h1) ?_
   refine Q7 [1] 2 rfl rfl ?_
   refine Ys fun o=>?_
   exact bad 105 he (by simp) _ _ o
abbrev D13 (f:FileS) (n:Int):FileS:=⟨f.kind,f.pipe,f.refs+n,f.flags⟩
def Bd0 (more:List Int):Nat→Int→CX→CX
 | 0,_,X=>X
 | m+1,j,X=>Bd0 more m (j+1) (if more.getD j.toNat 0=0 then X else A09 X j (D13 (vF X j).1 (more.getD j.toNat 0)))
def Gm8 (more:List Int) (X:CX) (j:Int):Prop:=∀ i:Int,j≤i→i<12→more.getD i.toNat 0≠0→(vF X i).2=1∧(vF X i).1.refs+more.getD i.toNat 0≤64
theorem Ic2 {f:FileS} (h:okF f=true) {n:Int} (hn:1≤f.refs+n∧f.refs+n≤64):okF (D13 f n)=true:=by
 simp only [okF,Bool.and_eq_true,Bool.or_eq_true,decide_eq_true_eq,beq_iff_eq,bne_iff_ne] at h ⊢
 omega
theorem Gm8.step {nc:Nat} {X:CX} (c:Clean nc X) {more:List Int} (hm:Ad0 8 more) {j:Int} (h0:0≤j∧j<12) (s:Gm8 more X j) (hz:more.getD j.toNat 0≠0) :
  okF (D13 (vF X j).1 (more.getD j.toNat 0))=true∧Gm8 more (A09 X j (D13 (vF X j).1 (more.getD j.toNat 0))) (j+1):=by
 obtain ⟨s1,s2⟩:=s j (by omega) (by omega) hz
 have hg:=hm.get (j:=j.toNat) (by omega)
 have hk:okF (vF X j).1=true:=by
  rcases Ik2 c h0 with ⟨h1,_⟩|⟨_,h1⟩
  ·omega
  ·exact h1
 have hr:=Hq1 hk
 have k:=Ic2 hk (n:=more.getD j.toNat 0) (by omega)
 refine ⟨k,fun i h1 h2 hi=>?_⟩
 rw [(As2 c h0 k).2.2.2.1 i (by omega),if_neg (by omega)]
 exact s i (by omega) h2 hi
theorem Hk1 (b k:Nat) (F:Fr) (ok:FrOk F) {nc:Nat} (more:List Int) (hm:Ad0 8 more):∀ (m:Nat) (j:Int) (X:CX),Clean nc X→Gm8 more X j→0≤j→j+m=12 →
  CtJ H3 G5 Am1 [(0,P0 b),(57,.agg ⟨more.map int⟩),(58,int j)] [cmC b k F X] fun v own=>v=int 0∧own [cmC b k F (Bd0 more m j X)]:=by
 intro m
 induction m with
 | zero =>
  intro j X c s h0 hj
  refine CtJ.of At2 fun h r=>Tr.eq (Dx1 ..) ?_;refine Je ?_
  refine Yf (by simp;omega) ?_
  refine Ys fun o=>?_
  rw [show Bd0 more 0 j X=X from rfl]
  exact ⟨rfl,o.sub⟩
 | succ m ih =>
  intro j X c s h0 hj
  have e1:IntKind.wrap .i64 (j+1)=j+1:=by rw [B0];omega
  have hg:=Gp6 (l:=more) (i:=j.toNat) (by rw [hm.1];omega)
  have hm2:=hm.get (j:=j.toNat) (by omega)
  rw [show Bd0 more (m+1) j X=Bd0 more m (j+1) (if more.getD j.toNat 0=0 then X else A09 X j (D13 (vF X j).1 (more.getD j.toNat 0))) from rfl]
  refine CtJ.of At2 fun h r=>Tr.eq (Dx1 ..) ?_;refine Je ?_
  refine Yt (by simp;omega) ?_
  rw [e1]
  (refine Ja ?_;unhygienic intros)
  by_cases hz:more.getD j.toNat 0=0
  ·rw [if_pos hz]
   refine Yt (by simpa using hz) ?_
   refine Yr (ih (j+1) X c (fun i h1 h2 h3=>s i (by omega) h2 h3) (by omega) (by omega)) ?_
   intro v h q
   exact q
  ·rw [if_neg hz]
   refine Yf (by simpa using hz) ?_
   have hrf:=Ho3 c (i:=j) (by omega)
   have e3:IntKind.wrap .i64 ((vF X j).1.refs+more.getD j.toNat 0)=(vF X j).1.refs+more.getD j.toNat 0:=by rw [B0];omega
   obtain ⟨k1,s2⟩:=s.step c hm (by omega) hz
   obtain ⟨w1,w2,_⟩:=As2 c (i:=j) (by omega) k1
   refine Yc (Do7 b k F X ok j) ?_;rintro _ h ⟨rfl,o⟩<;>refine Jh o ?_
   rw [Br4 c (by omega)]
   dsimp only
   (refine Jc ?_;unhygienic intros)
   refine Yn fun b2 h=>?_
   (refine Ja ?_;unhygienic intros)
   simp only [e3,List.set_cons_succ,List.set_cons_zero,List.drop_zero,List.take]
   refine Yc (D16 b k F X ok j (D13 (vF X j).1 (more.getD j.toNat 0))) ?_;rintro _ h ⟨rfl,o⟩<;>refine Jh o ?_
   rw [w1]
   dsimp only
   (refine Ja ?_;unhygienic intros)
   refine Q7 [0] 1 rfl rfl ?_
   refine Yr (ih (j+1) _ w2 s2 (by omega) (by omega)) ?_
   intro v h q
   exact q
theorem Et9:∀ (l m:List Int) (i:Nat),B46 l→m.length=12→(Bm0 l m).getD i 0≠0→m.getD i 0≠0∨((i:Int)+1) ∈ l
 | [],m,i,_,_,h=>.inl h
 | f::l,m,i,hf,hm,h=>by
  have hr:=hf f (by simp)
  have hl:B46 l:=fun x hx=>hf x (by simp [hx])
  rw [show Bm0 (f::l) m=Bm0 l (if f>0 then m.set (f-1).toNat (m.getD (f-1).toNat 0+1) else m) from rfl] at h
  by_cases hz:f>0
  ·rw [if_pos hz] at h
   rcases Et9 l _ i hl (by simpa using hm) h with h2|h2
   ·by_cases hi:(f-1).toNat=i
    ·right
     rw [show (i:Int)+1=f by omega];simp
    ·left
     rw [List.getD_eq_getElem?_getD,List.getElem?_set_ne hi,← List.getD_eq_getElem?_getD] at h2
     exact h2
   ·exact .inr (by simp [h2])
  ·rw [if_neg hz] at h
   rcases Et9 l m i hl hm h with h2|h2
   ·exact .inl h2
   ·exact .inr (by simp [h2])
theorem D39:∀ (l m:List Int) (n:Int),B46 l→Ad0 n m→Ad0 (n+l.length) (Bm0 l m)
 | [],m,n,_,h=>by simpa [Bm0] using h
 | f::l,m,n,hf,h=>by
  have hr:=hf f (by simp)
  have hl:B46 l:=fun x hx=>hf x (by simp [hx])
  rw [show Bm0 (f::l) m=Bm0 l (if f>0 then m.set (f-1).toNat (m.getD (f-1).toNat 0+1) else m) from rfl]
  have e:n+((f::l).length:Int)=(n+1)+l.length:=by simp;omega
  rw [e]
  by_cases hz:f>0
  ·rw [if_pos hz];exact D39 l _ (n+1) hl (h.set (by omega))
  ·rw [if_neg hz];exact D39 l m (n+1) hl h.up
theorem Ec2 {X:CX} {more:List Int}:∀ (l:List Int),Ac9 X more l=0→∀ f ∈ l,f≠0→(vF X (f-1)).2=1∧(vF X (f-1)).1.refs+more.getD (f-1).toNat 0≤64
 | [],_,f,h,_=>by simp at h
 | g::l,h,f,hm,hf=>by
  rw [show Ac9 X more (g::l)=if g=0 then Ac9 X more l else if (vF X (g-1)).2≠1 then 105 else if (vF X (g-1)).1.refs+more.getD (g-1).toNat 0>64 then 123 else Ac9 X more l from rfl] at h
  by_cases hg:g=0
  ·rw [if_pos hg] at h
   rcases List.mem_cons.1 hm with rfl|h2
   ·exact absurd hg hf
   ·exact Ec2 l h f h2 hf
  ·rw [if_neg hg] at h
   by_cases h1:(vF X (g-1)).2=1
   ·rw [if_neg (by simpa using h1)] at h
    by_cases h2:(vF X (g-1)).1.refs+more.getD (g-1).toNat 0>64
    ·rw [if_pos h2] at h;cases h
    ·rw [if_neg h2] at h
     rcases List.mem_cons.1 hm with rfl|h3
     ·exact ⟨h1,by omega⟩
     ·exact Ec2 l h f h3 hf
   ·rw [if_pos h1] at h;cases h
abbrev Eq8:List Int:=[0,0,0,0,0,0,0,0,0,0,0,0]
theorem H75:Ad0 0 Eq8:=⟨rfl,fun x hx=>by simp at hx;omega⟩
abbrev Al6 (p:ProcS):List Int:=Bm0 p.fds Eq8
theorem E63 {p:ProcS} (h:B46 p.fds):Ad0 8 (Al6 p):=by
 have:=D39 p.fds Eq8 0 h H75
 rw [p.len] at this
 exact this
theorem G94 {X:CX} {p:ProcS} (h:B46 p.fds) (e:Ac9 X (Al6 p) p.fds=0):Gm8 (Al6 p) X 0:=fun i h0 h1 hi=>by
 rcases Et9 p.fds Eq8 i.toNat h rfl hi with h2|h2
 ·exfalso;apply h2
  have:i.toNat=0∨i.toNat=1∨i.toNat=2∨i.toNat=3∨i.toNat=4∨i.toNat=5∨i.toNat=6∨i.toNat=7∨i.toNat=8∨i.toNat=9∨i.toNat=10∨i.toNat=11:=by omega
  rcases this with h|h|h|h|h|h|h|h|h|h|h|h<;>rw [h]<;>rfl
 ·have:=Ec2 p.fds e _ h2 (by omega)
  rw [show ((i.toNat:Nat):Int)+1-1=i by omega] at this
  exact this
def U6 (X:CX) (p:ProcS):Int × CX:=if Ac9 X (Al6 p) p.fds=0 then (0,Bd0 (Al6 p) 12 0 X) else (Ac9 X (Al6 p) p.fds,X)
theorem H16 (b k:Nat) (F:Fr) (X:CX) (ok:FrOk F) {nc:Nat} (c:Clean nc X) (p:ProcS) (hf:B46 p.fds):Ct A9 G5 [P0 b,.agg ⟨D5 p⟩] [cmC b k F X] fun v own=>v=int (U6 X p).1∧own [cmC b k F (U6 X p).2]:=by
 refine Ct.of At2 rfl fun h r=>Tr.eq (G52 ..) ?_;refine Je ?_
 refine Yn fun b0 h=>?_
 refine Yn fun b1 h=>?_
 (refine Ja ?_;unhygienic intros)
 have hm:=E63 hf
 have L2:=Hj1 b k F X ok c b1 p.fds (Al6 p) p.len hf hm (fun v own=>v=int (U6 X p).1∧own [cmC b k F (U6 X p).2])
  (fun e he hz h r o=>by
   unfold U6
   rw [if_neg (by rw [he];exact hz),he]
   exact ⟨rfl,o⟩)
  (fun he=>by
   have J:=Hk1 b k F ok (Al6 p) hm 12 0 X c (G94 hf he) (by omega) (by omega)
   unfold U6
   rw [if_pos he]
   exact J) 8 0 rfl rfl
 refine E03 (Hh4 b k F X b0 b1 p hf _ (Al6 p) L2 8 0 Eq8 rfl (by simpa using H75) rfl) [0,0,0] rfl ?_
 intro v h q
 exact q
theorem Dp4 {nc:Nat} {more:List Int} (hm:Ad0 8 more):∀ (m:Nat) (j:Int) (X:CX),Clean nc X→Gm8 more X j→0≤j→j+m=12 →
  Clean nc (Bd0 more m j X)∧(∀ i:Int,0≤i∧i<8→vS (Bd0 more m j X) i=vS X i) ∧
  (∀ i:Int,0≤i∧i<12→vF (Bd0 more m j X) i=if j≤i∧more.getD i.toNat 0≠0 then (D13 (vF X i).1 (more.getD i.toNat 0),1) else vF X i)∧(∀ i:Int,0≤i∧i<3+nc→vP (Bd0 more m j X) i=vP X i)
 | 0,j,X,c,_,h0,hj=>⟨c,fun _ _=>rfl,fun i hi=>by rw [if_neg (by omega)];rfl,fun _ _=>rfl⟩
 | m+1,j,X,c,s,h0,hj=>by
  rw [show Bd0 more (m+1) j X=Bd0 more m (j+1) (if more.getD j.toNat 0=0 then X else A09 X j (D13 (vF X j).1 (more.getD j.toNat 0))) from rfl]
  by_cases hz:more.getD j.toNat 0=0
  ·rw [if_pos hz]
   obtain ⟨a1,a2,a3,a4⟩:=Dp4 hm m (j+1) X c (fun i h1 h2 h3=>s i (by omega) h2 h3) (by omega) (by omega)
   refine ⟨a1,a2,fun i hi=>?_,a4⟩
   rw [a3 i hi]
   by_cases hij:i=j
   ·subst hij
    rw [if_neg (by omega),if_neg (by simp only [hz];simp)]
   ·by_cases h2:j≤i∧more.getD i.toNat 0≠0
    ·rw [if_pos h2,if_pos ⟨by omega,h2.2⟩]
    ·rw [if_neg h2,if_neg (fun h3=>h2 ⟨by omega,h3.2⟩)]
  ·rw [if_neg hz]
   obtain ⟨k1,s2⟩:=s.step c hm (by omega) hz
   obtain ⟨w1,w2,w3,w4,w5⟩:=As2 c (i:=j) (by omega) k1
   obtain ⟨a1,a2,a3,a4⟩:=Dp4 hm m (j+1) _ w2 s2 (by omega) (by omega)
   refine ⟨a1,fun i hi=>by rw [a2 i hi,w3 i hi],fun i hi=>?_,fun i hi=>by rw [a4 i hi,w5 i hi]⟩
   rw [a3 i hi,w4 i hi]
   by_cases hij:i=j
   ·subst hij
    rw [if_neg (by omega),if_pos rfl,if_pos ⟨by omega,hz⟩]
   ·rw [if_neg hij]
    by_cases h2:j≤i∧more.getD i.toNat 0≠0
    ·rw [if_pos h2,if_pos ⟨by omega,h2.2⟩]
    ·rw [if_neg h2,if_neg (fun h3=>h2 ⟨by omega,h3.2⟩)]
theorem Ho7 (l:List UInt8) (i:Nat):0≤byI l i∧byI l i<256:=by
 have:=(l.getD i 0).toNat_lt
 unfold byI;omega
theorem Ey3 (l:List UInt8) (j:Nat):0≤two l j∧two l j≤65535:=by
 have:=Ho7 l j;have:=Ho7 l (j+1)
 unfold two;omega
theorem Dn5 (l:List UInt8):InS (Y7 l).1:=by
 unfold Y7
 split
 ·exact ⟨by simp,by simp,by simp,by simp⟩
 ·split
  ·exact ⟨Ey3 _ _,Ey3 _ _,Ey3 _ _,Ey3 _ _⟩
  ·exact ⟨by simp,by simp,by simp,by simp⟩
theorem Ey1 {p:ProcS} (h:okS p=true):B46 p.fds:=fun f hf=>by
 unfold okS at h
 simp only [Bool.and_eq_true,Bool.not_eq_true',List.any_eq_false] at h
 have:=h.2.2.1 f hf
 simp at this;omega
abbrev Bl2 (p:ProcS) (i:Int):ProcS:=⟨p.state,i+1,p.group,p.code,0,p.mask,p.ignored,p.caught,p.fds,p.len⟩
theorem G48 {p:ProcS} (h:okS p=true) (h1:p.state=1) {i:Int} (hi:0≤i∧i<8):okS (Bl2 p i)=true:=by
 unfold okS at h ⊢
 rw [if_neg (by rw [h1];decide)] at h
 rw [if_neg (show ¬ (Bl2 p i).state=2 by show ¬ p.state=2;rw [h1];decide)]
 simp only [Bool.and_eq_true,Bool.not_eq_true',Bool.or_eq_false_iff,decide_eq_false_iff_not] at h ⊢
 obtain ⟨⟨⟨⟨⟨⟨⟨⟨a1,a2⟩,a3⟩,a4⟩,a5⟩,a6⟩,a7⟩,a8⟩,⟨⟨⟨⟨b1,b2⟩,b3⟩,b4⟩,b5⟩,d1,d2⟩:=h
 exact ⟨⟨⟨⟨⟨⟨⟨⟨a1,a2⟩,by show ¬ i+1<0;omega⟩,by show ¬ i+1>8;omega⟩,a5⟩,a6⟩,a7⟩,a8⟩,⟨⟨⟨⟨by simp [Is0],b2⟩,b3⟩,b4⟩,b5⟩,d1,d2⟩
def Dm5 (X:CX) (i:Int):List Value × CX :=
 if (M0 X i).2≠0 then (N4 0 (M0 X i).2 false,X)
 else if Ak0 X 8 0<0 then (N4 0 111 false,X)
 else if (U6 X (M0 X i).1).1≠0 then (N4 0 (U6 X (M0 X i).1).1 false,X)
 else (N4 (Ak0 X 8 0) 0 false,Bw1 (U6 X (M0 X i).1).2 (Ak0 X 8 0) (Bl2 (M0 X i).1 i))
theorem Eu0 {X:CX}:∀ (m:Nat) (i:Int),0≤i→i+m=8→Ak0 X m i=-1∨(0≤Ak0 X m i∧Ak0 X m i<8∧(vS X (Ak0 X m i)).2=0)
 | 0,i,_,_=>.inl rfl
 | m+1,i,h0,hi=>by
  rw [show Ak0 X (m+1) i=if (vS X i).2=0 then i else Ak0 X m (i+1) from rfl]
  split
  ·rename_i h;exact .inr ⟨h0,by omega,h⟩
  ·exact Eu0 m (i+1) (by omega) (by omega)
theorem Bj5 {nc:Nat} {X:CX} (c:Clean nc X) {i:Int} (hi:0≤i∧i<8) (h:(M0 X i).2=0):M0 X i=((vS X i).1,0)∧(vS X i).1.state=1∧okS (vS X i).1=true∧(vS X i).2=1:=by
 unfold M0 at h ⊢
 split
 ·rename_i h1
  refine ⟨rfl,h1.2,?_,h1.1⟩
  rcases Ik1 c hi with ⟨h2,_⟩|⟨_,h2⟩
  ·rw [h1.1] at h2;cases h2
  ·exact h2
 ·rename_i h1;rw [if_neg h1] at h;cases h
theorem Gs8 {X:CX} {p:ProcS} (h:(U6 X p).1≠0):(U6 X p).2=X:=by
 unfold U6 at h ⊢
 split
 ·rename_i h1;rw [if_pos h1] at h;exact absurd rfl h
 ·rfl
theorem En9 {nc:Nat} {X:CX} (c:Clean nc X) {p:ProcS} (hf:B46 p.fds) (h:(U6 X p).1=0):Clean nc (U6 X p).2∧(∀ i:Int,0≤i∧i<8→vS (U6 X p).2 i=vS X i) ∧
  (∀ i:Int,0≤i∧i<12→vF (U6 X p).2 i=if (Al6 p).getD i.toNat 0≠0 then (D13 (vF X i).1 ((Al6 p).getD i.toNat 0),1) else vF X i)∧(∀ i:Int,0≤i∧i<3+nc→vP (U6 X p).2 i=vP X i):=by
 unfold U6 at h ⊢
 split
 ·rename_i he
  obtain ⟨a1,a2,a3,a4⟩:=Dp4 (E63 hf) 12 0 X c (G94 hf he) (by omega) (by omega)
  refine ⟨a1,a2,fun i hi=>?_,a4⟩
  rw [a3 i hi]
  by_cases h2:(Al6 p).getD i.toNat 0≠0
  ·rw [if_pos h2,if_pos ⟨hi.1,h2⟩]
  ·rw [if_neg h2,if_neg (fun h3=>h2 h3.2)]
 ·rename_i he;rw [if_neg he] at h;exact absurd h he
theorem Im7 (b k:Nat) (F:Fr) (X:CX) (ok:FrOk F) {nc:Nat} (c:Clean nc X) (i:Int) (hi:0≤i∧i<8):Ct A9 Da3 [P0 b,int i] [cmC b k F X] fun v own=>v=.agg ⟨(Dm5 X i).1⟩∧own [cmC b k F (Dm5 X i).2]:=by
 have e1:IntKind.wrap .i64 (i+1)=i+1:=by rw [B0];omega
 unfold Dm5
 refine Ct.of Hj5 rfl fun h r=>Tr.eq (Hl0 ..) ?_;refine Je ?_
 refine Yn fun b0 h=>?_
 refine Yc (Dn6 b k F X ok c i hi) ?_;rintro _ h ⟨rfl,o⟩<;>refine Jh o ?_
 (refine Jc ?_;unhygienic intros)
 refine Yn fun b1 h=>?_
 (refine Ja ?_;unhygienic intros)
 by_cases h0:(M0 X i).2=0
 case neg =>
  rw [if_pos h0]
  refine Yt (by simpa using h0) ?_
  refine Yc (Bw9 (M0 X i).2) ?_;rintro _ h ⟨rfl,o⟩<;>(refine Jf o ?_;unhygienic intros)
  refine Ys fun o=>?_
  exact ⟨rfl,o.sub⟩
 rw [if_neg (by simpa using h0)]
 refine Yf (by simpa using h0) ?_
 obtain ⟨s1,s2,s3,s4⟩:=Bj5 c hi h0
 refine Yc (Io7 b k F X ok c) ?_;rintro _ h ⟨rfl,o⟩<;>refine Jh o ?_
 (refine Ja ?_;unhygienic intros)
 by_cases h1:Ak0 X 8 0<0
 ·rw [if_pos h1]
  refine Yt (by simpa using h1) ?_
  refine Yc (Bw9 111) ?_;rintro _ h ⟨rfl,o⟩<;>(refine Jf o ?_;unhygienic intros)
  refine Ys fun o=>?_
  exact ⟨rfl,o.sub⟩
 rw [if_neg h1]
 refine Yf (by simpa using h1) ?_
 have hf:B46 (M0 X i).1.fds:=by rw [s1];exact Ey1 s3
 have hok:okS (Bl2 (M0 X i).1 i)=true:=by rw [s1];exact G48 s3 s2 hi
 have hin:InS (Bl2 (M0 X i).1 i):=by
  have:=Dn5 (rd X ⟨1,i⟩)
  rw [s1]
  exact ⟨by simp,this.b,this.c,this.d⟩
 generalize (M0 X i).1=p at hf hok hin
 (refine Ja ?_;unhygienic intros)
 refine Yc (H16 b k F X ok c p hf) ?_;rintro _ h ⟨rfl,o⟩<;>refine Jh o ?_
 (refine Ja ?_;unhygienic intros)
 by_cases h2:(U6 X p).1=0
 case neg =>
  rw [if_pos h2]
  rw [Gs8 h2] at o ⊢
  refine Yt (by simpa using h2) ?_
  refine Yc (Bw9 (U6 X p).1) ?_;rintro _ h ⟨rfl,o⟩<;>(refine Jf o ?_;unhygienic intros)
  refine Ys fun o=>?_
  exact ⟨rfl,o.sub⟩
 rw [if_neg (by simpa using h2)]
 refine Yf (by simpa using h2) ?_
 have cs:=(En9 c hf h2).1
 have hfr:0≤Ak0 X 8 0∧Ak0 X 8 0<8:=by
  rcases Eu0 (X:=X) 8 0 (by omega) (by omega) with h|h<;>omega
 obtain ⟨w1,_⟩:=Bl7 cs hfr hok hin
 (refine Ja ?_;unhygienic intros)
 rw [e1,show ((D5 p).set 1 (int (i+1))).set 4 (int 0)=D5 (Bl2 p i) from rfl]
 generalize Bl2 p i=q at hok hin w1
 (refine Ja ?_;unhygienic intros)
 refine Yc (D27 b k F (U6 X p).2 ok (Ak0 X 8 0) q) ?_;rintro _ h ⟨rfl,o⟩<;>refine Jh o ?_
 rw [w1]
 dsimp only
 (refine Ja ?_;unhygienic intros)
 refine Yc (Hp4 true (Ak0 X 8 0)) ?_;rintro _ h ⟨rfl,o⟩<;>refine Jh o ?_
 rw [if_pos trivial]
 (refine Ja ?_;unhygienic intros)
 refine Ys fun o=>?_
 exact ⟨rfl,o.sub⟩
abbrev Gh4 (s:Int × ProcS):List Value:=int s.1::D5 s.2
def An3 (X:CX) (q:Int→ProcS→Bool):Nat→Int→List (Int × ProcS)
 | 0,_=>[]
 | m+1,i=>if (vS X i).2=1∧q i (vS X i).1=true then (i,(vS X i).1)::An3 X q m (i+1) else An3 X q m (i+1)
theorem Dd4 (j:Int) (p:ProcS):(int j::D5 p).length=17:=by simp [Bx7 p,p.len]
instance {j:Int} {p:ProcS}:LenC (int j::D5 p) 17:=⟨Dd4 j p⟩
instance {j:Int} {p:ProcS}:PartC (int j::D5 p) 0 17 (int j::D5 p):=⟨Bi5 (Dd4 j p)⟩
instance {j:Int} {p:ProcS} {cs:List Value} [k:LenC cs 17]:SetsC cs 0 (int j::D5 p) (int j::D5 p):=⟨Bk0 k.ok (Dd4 j p) (by simp [Value.oneCell])⟩
theorem Hj4 (b k:Nat) (F:Fr) (X:CX) (ok:FrOk F) {nc:Nat} (c:Clean nc X) (pr:HP) (g:FuncId) (cp:List Value) (q:Int→ProcS→Bool)
  (hq:∀ (j:Int) (p:ProcS),Ct A9 g (.agg ⟨int j::D5 p⟩::cp) [pr] fun v own=>v=.bool (q j p)∧own [pr]):∀ (m:Nat) (i:Int) (acc:List (Int × ProcS)) (a:Option Addr) (ac:Nat),0≤i→i+m=8→acc.length≤i →
  CtJ H3 Ae7 Ay0 [(0,P0 b),(1,.func (.func g) ⟨[]⟩ ⟨cp⟩),(5,.slice a acc.length ac),(10,int i)] [slC false Ae4 17 a acc.length ac (acc.flatMap Gh4),cmC b k F X,pr] fun v own =>
   ∃ a' c',v=.slice a' (acc++An3 X q m i).length c'∧own [slC false Ae4 17 a' (acc++An3 X q m i).length c' ((acc++An3 X q m i).flatMap Gh4),cmC b k F X,pr]:=by
 intro m
 induction m with
 | zero =>
  intro i acc a ac h0 hi ha
  refine CtJ.of Dt3 fun h r=>Tr.eq (Dw6 ..) ?_;refine Je ?_
  refine Yf (by simp;omega) ?_
  refine Ys fun o=>?_
  rw [show An3 X q 0 i=[] from rfl,List.append_nil]
  exact ⟨a,ac,rfl,o.sub⟩
 | succ m ih =>
  intro i acc a ac h0 hi ha
  have e1:IntKind.wrap .i64 (i+1)=i+1:=by rw [B0];omega
  refine CtJ.of Dt3 fun h r=>Tr.eq (Dw6 ..) ?_;refine Je ?_
  refine Yt (by simp;omega) ?_
  rw [e1]
  refine Yc (Ds6 b k F X ok i) ?_;rintro _ h ⟨rfl,o⟩<;>refine Jh o ?_
  rw [Br7 c (by omega)]
  dsimp only
  generalize hp:(vS X i).1=p
  simp only [List.append_nil,List.nil_append]
  (refine Jc ?_;unhygienic intros)
  refine Yn fun b1 h=>?_
  (refine Jc ?_;unhygienic intros)
  refine Yn fun b2 h=>?_
  (refine Jb ?_;unhygienic intros)
  rw [show An3 X q (m+1) i=if (vS X i).2=1∧q i (vS X i).1=true then (i,(vS X i).1)::An3 X q m (i+1) else An3 X q m (i+1) from rfl,hp]
  by_cases h1:(vS X i).2=1
  ·refine Yb (Yt (by simpa using h1) ?_)
   (refine Jb ?_;unhygienic intros)
   simp only [List.nil_append]
   refine Yc (hq i p) ?_;rintro _ h ⟨rfl,o⟩<;>refine Jh o ?_
   (refine Jb ?_;unhygienic intros)
   refine Ys fun o=>(?_:Tr _ _ _ _) o;refine Je ?_
   by_cases h2:q i p=true
   ·rw [if_pos ⟨h1,h2⟩]
    refine Yt h2 ?_
    (refine Jc ?_;unhygienic intros)
    refine Yn fun b3 h=>?_
    (refine Ja ?_;unhygienic intros)
    refine Tr.xCellsB (xs:=int i::D5 p) (Ee6 (Bi5 (Dd4 i p))) ?_
    (refine Ja ?_;unhygienic intros)
    refine Tr.xApd ⟨Dd4 i p,by simp [Value.oneCell],by simp only [B1];omega⟩ fun a' c' h=>?_
    rw [show acc.flatMap Gh4++(int i::D5 p)=(acc++[(i,p)]).flatMap Gh4 by simp,show acc.length+1=(acc++[(i,p)]).length by simp]
    refine Q7 [5,4,1] 3 rfl rfl ?_
    refine Yr (ih (i+1) (acc++[(i,p)]) a' c' (by omega) (by omega) (by simp;omega)) ?_
    intro v h q
    rw [List.append_assoc] at q
    exact q
   ·rw [if_neg (fun h3=>h2 h3.2)]
    refine Yf (by simpa using h2) ?_
    refine Q7 [4,3,0] 2 rfl rfl ?_
    refine Yr (ih (i+1) acc a ac (by omega) (by omega) (by omega)) ?_
    intro v h q
    exact q
  ·rw [if_neg (fun h3=>h1 h3.1)]
   refine Yb (Yf (by simpa using h1) ?_)
   refine Ys fun o=>(?_:Tr _ _ _ _) o;refine Je ?_
   refine Yf rfl ?_
   refine Q7 [3,2,2] 2 rfl rfl ?_
   refine Yr (ih (i+1) acc a ac (by omega) (by omega) (by omega)) ?_
   intro v h q
   exact q
theorem If5 (b k:Nat) (F:Fr) (X:CX) (ok:FrOk F) {nc:Nat} (c:Clean nc X) (pr:HP) (g:FuncId) (cp:List Value) (q:Int→ProcS→Bool)
  (hq:∀ (j:Int) (p:ProcS),Ct A9 g (.agg ⟨int j::D5 p⟩::cp) [pr] fun v own=>v=.bool (q j p)∧own [pr]) :
  Ct A9 Ae7 [P0 b,.func (.func g) ⟨[]⟩ ⟨cp⟩] [cmC b k F X,pr] fun v own=>∃ a' c',v=.slice a' (An3 X q 8 0).length c'∧own [slC false Ae4 17 a' (An3 X q 8 0).length c' ((An3 X q 8 0).flatMap Gh4),cmC b k F X,pr]:=by
 refine Ct.of Dt3 rfl fun h r=>Tr.eq (Hd2 ..) ?_;refine Je ?_
 refine G7 false Ae4 17 (by omega) ?_
 have J:=Hj4 b k F X ok c pr g cp q hq 8 0 [] none 0 (by omega) (by omega) (by simp)
 simp only [List.nil_append,List.length_nil,List.flatMap_nil] at J
 refine Yr J ?_
 intro v h q
 exact q
theorem Ie0 (j:Int) (p:ProcS):Ct A9 A22 [.agg ⟨int j::D5 p⟩] [] fun v own=>v=.bool (p.state != 2)∧own []:=by
 refine Ct.of E24 rfl fun h r=>Tr.eq (E09 ..) ?_;refine Je ?_
 (refine Ja ?_;unhygienic intros)
 refine Ys fun o=>?_
 exact ⟨rfl,o.sub⟩
abbrev Hw5:List Value:=[int 0,int 0,.slice none 0 0,.bool false]
def p0:ProcS:=⟨1,0,0,0,0,0,0,0,[1,0,0,0,0,0,0,0],rfl⟩
def f0:FileS:=⟨3,0,1,0⟩
def A00:List UInt8:=L6 (L6 Ac6 0 (Et6 p0)) 192 (Ai9 f0)
theorem B47:A00.length=492:=by kernel_rfl
theorem Ep8:(Et6 p0).length=24:=by kernel_rfl
theorem Gw3 (l b:List UInt8) (a:Nat):(A0 l).take a++A0 b++(A0 l).drop (a+(A0 b).length)=A0 (L6 l a b):=by
 rw [U5]
 simp [L6,A0,List.map_take,List.map_drop]
theorem Ik4 {b:List UInt8} (h:0<b.length):A0 b≠[]:=by
 intro e
 have e2:=congrArg List.length e
 rw [U5] at e2
 have e3:b.length=0:=e2
 omega
theorem G49:Ct A9 Bc5 [] [] fun v own=>∃ a,v=.slice a 492 492∧own [slC false A5 1 a 492 492 (A0 A00)]:=by
 refine Ct.of G04 rfl fun h r=>Tr.eq (Gy9 ..) ?_;refine Je ?_
 refine Yc (Gw8) ?_;rintro _ h ⟨rfl,o⟩<;>refine Jh o ?_
 (refine Jc ?_;unhygienic intros)
 rw [A66,Ac2]
 refine Tr.ck (by simp [B1]) ?_
 refine Yn fun b0 h=>?_
 refine Dr1 (n:=492) 0 rfl (by rw [U5];exact Ac2) ?_
 refine Je ?_
 refine Yn fun b1 h=>?_
 (refine Ja ?_;unhygienic intros)
 rw [show ([int 1,int 0,int 0,int 0,int 0,int 0,int 0,int 0,int 0,int 0,int 0,int 0,int 0,int 0,int 0,int 0]:List Value).set 8 (int 1)=D5 p0 from rfl]
 (refine Ja ?_;unhygienic intros)
 refine Yc (H23 p0) ?_;rintro _ h ⟨rfl,o⟩<;>refine Jh o ?_
 (refine Ja ?_;unhygienic intros)
 rw [show List.take (min (bs (Et6 p0)).size 492) (bs (Et6 p0)).data.toList=Et6 p0 by kernel_rfl]
 rw [show B6 (L8 b0)=(B6 (L8 b0)).add 0 from rfl]
 refine Tr.xPAggS (cs':=A0 (L6 Ac6 0 (Et6 p0))) ⟨Ik4 (by rw [Ep8];omega),by rw [U5,U5,Ep8,Ac2];omega,Ag4 _,Gw3 _ _ 0⟩ fun h=>?_
 (refine Ja ?_;unhygienic intros)
 refine Yc (H22 f0) ?_;rintro _ h ⟨rfl,o⟩<;>refine Jh o ?_
 (refine Ja ?_;unhygienic intros)
 rw [show List.take (min (bs (Ai9 f0)).size (492-192)) (bs (Ai9 f0)).data.toList=Ai9 f0 by kernel_rfl]
 rw [Gn5 (by omega),Em8]
 refine Tr.xPAggS (cs':=A0 A00) ⟨Ik4 (by rw [Ds7];omega),by rw [U5,U5,Ae8 (by rw [Ep8,Ac2];omega),Ds7,Ac2];omega,Ag4 _,Gw3 _ _ 192⟩ fun h=>?_
 refine Ys fun o=>?_
 exact ⟨_,rfl,o.sub⟩
theorem Hu0 {S:KS} (kS:Like S) {s:Nat} {env:Int} (e:EnvP s env) {j:Nat} {cap:Int} {lo n:Nat} (hc:Ij5[j]?=some cap) (hr:(rgP s)[j]?=some (lo,n)) {b:List UInt8} (hb:b.length≤n) :
  Z5 S env ⟨2,cap,0,0,0,0,b⟩=((0,0,[]),Br6 S (L6 S.mem lo b)):=by
 have F:=G57 kS e
 have hroom:lo+n≤S.mem.length:=Eh3 kS e.hs env j lo n hr
 have hp:=F.pl j cap lo n hc hr 0 b.length 2 (.inr rfl) (by omega)
 have hs:Bb7 S.mem ((lo+0:Nat):Int) b=some (L6 S.mem lo b):=by
  unfold Bb7
  rw [if_pos (by omega),Int.toNat_natCast,Nat.add_zero];rfl
 have ew:Ak5 S.tabs S.regs S.mem env cap 0 b=(0,L6 S.mem lo b):=by
  unfold Ak5
  rw [show P8 S.tabs S.regs env cap 2 0 (b.length:Int)=(((lo+0:Nat):Int),0) from hp]
  rw [if_neg (by simp),hs]
 unfold Z5
 rw [if_neg (show ¬ (env<0∨env≥(S.envs.length:Int)) from F.env)]
 unfold kDo
 rw [if_neg (show ¬ ((2:Int)=1) by decide),if_pos rfl,ew]
def q1:PipeS:=⟨0,0,1,1,List.replicate 32 0,rfl⟩
def S1:KS:=Br6 S0 (L6 S0.mem 0 A00)
def S2:KS:=Br6 S1 (L6 S1.mem 512 (I1 q1))
def S3:KS:=Br6 S2 (L6 S2.mem 1856 (I1 q1))
theorem Ay8:(I1 q1).length=40:=As9 q1.len
theorem Gk5:Like S1:=Ea8 Dy4 (by rw [Ae8 (by rw [B47,Dy4.mem];omega)];exact Dy4.mem)
theorem Gg9:Like S2:=Ea8 Gk5 (by rw [Ae8 (by rw [Ay8,Gk5.mem];omega)];exact Gk5.mem)
theorem Ij7:Like S3:=Ea8 Gg9 (by rw [Ae8 (by rw [Ay8,Gg9.mem];omega)];exact Gg9.mem)
theorem Iv6:Z5 S0 0 ⟨2,256,0,0,0,0,A00⟩=((0,0,[]),S1):=Hu0 Dy4 G58 (j:=0) rfl rfl (by rw [B47];omega)
theorem Iv1:Z5 S1 0 ⟨2,257,0,0,0,0,I1 q1⟩=((0,0,[]),S2):=Hu0 Gk5 G58 (j:=1) rfl rfl (by rw [Ay8];omega)
theorem Iv8:Z5 S2 0 ⟨2,258,0,0,0,0,I1 q1⟩=((0,0,[]),S3):=Hu0 Gg9 G58 (j:=2) rfl rfl (by rw [Ay8];omega)
abbrev F1:Fr:=frP S3 0 0
def X1:CX:=⟨Bz6 S3.mem (rgP 0),[]⟩
theorem Au4:FrOk F1:=G57 Ij7 G58
theorem E97:Clean 3 X1:=by
 refine ⟨by kernel_rfl,by omega,rfl,by kernel_rfl,fun j h0 h1=>?_,fun r h1 h2 h3 h4=>?_⟩
 ·have:j=1∨j=2:=by omega
  rcases this with rfl|rfl
  ·clear h0 h1;show (_:Nat)=_;kernel_rfl
  ·clear h0 h1;show (_:Nat)=_;kernel_rfl
 ·have all:((List.range 8).all (fun i=>decide (stR 1 (rd X1 ⟨1,(i:Int)⟩)≠2)) && ((List.range 12).all (fun i=>decide (stR 2 (rd X1 ⟨2,(i:Int)⟩)≠2)) && ((List.range 6).all (fun i=>decide (stR 3 (rd X1 ⟨3,(i:Int)⟩)≠2)) && (decide (stR 4 (rd X1 ⟨4,0⟩)≠2) && decide (stR 5 (rd X1 ⟨5,0⟩)≠2)))))=true:=by kernel_rfl
  simp only [Bool.and_eq_true,List.all_eq_true,List.mem_range,decide_eq_true_eq] at all
  obtain ⟨a1,a2,a3,a4,a5⟩:=all
  obtain ⟨k,i⟩:=r
  simp only at h1 h2 h3 h4 ⊢
  obtain ⟨n,rfl⟩:∃ n:Nat,i=n:=⟨i.toNat,by omega⟩
  have hk:k=1∨k=2∨k=3∨k=4∨k=5:=by omega
  rcases hk with rfl|rfl|rfl|rfl|rfl<;>simp [V0] at h4
  ·exact a1 n (by omega)
  ·exact a2 n (by omega)
  ·exact a3 n (by omega)
  ·obtain rfl:n=0:=by omega
   exact a4
  ·obtain rfl:n=0:=by omega
   exact a5
theorem Hx8 (k w m c:Nat) (b1:Nat) (cs:List Value) (hcs:cs.length=7) (K:RKS) (hK:RKOk K) (hB:0<K.B.envs.length) :
  CtJ H3 Af1 Bf7 [(6,P0 k),(7,P0 c),(8,P0 w),(9,P0 m),(10,P0 b1),(11,.string (bs (I1 q1))),(12,int 1)] [pt b1 (.cells Az4 false cs),E3 k S1,rkC w K] fun v own =>
   v=.tuple ⟨[P0 k,P0 c,P0 w,P0 m]⟩∧∃ K',own [E3 k S3,rkC w K']:=by
 have hset:∀ xs:List Value,xs.length=7→∀ vs:List Value,vs.length=7→vs.all Value.oneCell=true→Eb4 xs 0 vs=some vs:=fun xs h vs h1 h2=>Bk0 h h1 h2
 refine CtJ.of B18 fun h r=>Tr.eq (Bz5 ..) ?_;refine Je ?_
 refine Yt rfl ?_
 rw [A66,Ay8]
 refine Tr.ck (by simp [B1]) ?_
 refine Yn fun b2 h=>?_
 refine Dr1 (n:=40) 0 rfl (by rw [U5];exact Ay8) ?_
 refine Je ?_
 rw [show IntKind.wrap .i64 (256+1)=257 by decide]
 refine Gs (fun h=>?_) (by exact hset cs hcs _ rfl rfl)
 (refine Ja ?_;unhygienic intros)
 have J1:=D55 k S1 0 Gk5.ok (by omega) 0 ⟨2,257,0,0,0,0,I1 q1⟩ (some (L8 b2)) 40 false (show ((2:Int)≠5) by decide)
 rw [Iv1] at J1
 simp only [Bl5,Ay8] at J1
 refine Bv7 J1 [2,0] rfl ?_
 rintro _ h ⟨y,z,rfl,o⟩
 refine (?_:Tr _ _ _ _) o
 refine Je ?_
 (refine Ja ?_;unhygienic intros)
 have R1:=Ey6 w K hK 0 hB ⟨2,257,0,0,0,0,I1 q1⟩ rfl (by rw [Ay8];simp [B1]) (slC false A5 1 (some (L8 b2)) (I1 q1).length 40 (A0 (I1 q1))) (some (L8 b2)) 40 false
 simp only [Bl5,Ay8] at R1
 refine Bv7 R1 [4,2] rfl ?_
 rintro _ h ⟨rfl,o⟩
 rw [show ({ K with R:=(Ai0 K.R ((0:Nat):Int) 257 0 (I1 q1)).2 }:RKS)=wrR K 257 (I1 q1) from rfl] at o
 have hK1:=Gi7 hK 257 (I1 q1)
 refine (?_:Tr _ _ _ _) o
 refine Je ?_
 (refine Ja ?_;unhygienic intros)
 refine Tr.jmp B18 (Tr.eq (Bz5 ..) ?_);(try simp only[Nr,Nl,wl,Nat.reduceAdd,Nat.reduceMul,Int.reduceToNat])
 refine Yt rfl ?_
 rw [A66,Ay8]
 refine Tr.ck (by simp [B1]) ?_
 refine Yn fun b3 h=>?_
 refine Dr1 (n:=40) 0 rfl (by rw [U5];exact Ay8) ?_
 refine Je ?_
 rw [show IntKind.wrap .i64 (256+2)=258 by decide]
 refine Gs (fun h=>?_) (by exact hset _ rfl _ rfl rfl)
 (refine Ja ?_;unhygienic intros)
 have J2:=D55 k S2 0 Gg9.ok (by omega) 0 ⟨2,258,0,0,0,0,I1 q1⟩ (some (L8 b3)) 40 false (show ((2:Int)≠5) by decide)
 rw [Iv8] at J2
 simp only [Bl5,Ay8] at J2
 refine Bv7 J2 [4,0] rfl ?_
 rintro _ h ⟨y2,z2,rfl,o⟩
 refine (?_:Tr _ _ _ _) o
 refine Je ?_
 (refine Ja ?_;unhygienic intros)
 have R2:=Ey6 w (wrR K 257 (I1 q1)) hK1 0 hB ⟨2,258,0,0,0,0,I1 q1⟩ rfl (by rw [Ay8];simp [B1]) (slC false A5 1 (some (L8 b3)) (I1 q1).length 40 (A0 (I1 q1))) (some (L8 b3)) 40 false
 simp only [Bl5,Ay8] at R2
 refine Bv7 R2 [3,2] rfl ?_
 rintro _ h ⟨rfl,o⟩
 rw [show ({ wrR K 257 (I1 q1) with R:=(Ai0 (wrR K 257 (I1 q1)).R ((0:Nat):Int) 258 0 (I1 q1)).2 }:RKS)=wrR (wrR K 257 (I1 q1)) 258 (I1 q1) from rfl] at o
 refine (?_:Tr _ _ _ _) o
 refine Je ?_
 (refine Ja ?_;unhygienic intros)
 refine Tr.jmp B18 (Tr.eq (Bz5 ..) ?_);(try simp only[Nr,Nl,wl,Nat.reduceAdd,Nat.reduceMul,Int.reduceToNat])
 refine Yf rfl ?_
 refine Ys fun o=>?_
 exact ⟨rfl,_,o.fin [3,0] 5 rfl rfl⟩
theorem Ii7:RKOk K0:=Gi7 D86.1 256 Ac6
theorem Hq3:0<K0.B.envs.length:=by show (0:Nat)<(Df8 Ah8).B.envs.length;rw [D86.2,Bu7];simp
theorem Hq5 (a:Option Addr):Ct A9 Af1 [.slice a 492 492] [slC false A5 1 a 492 492 (A0 A00)] fun v own=>∃ k c w m K',v=.tuple ⟨[P0 k,P0 c,P0 w,P0 m]⟩∧own [cmC c k F1 X1,rkC w K',rcC m w 0 (B26 K0 0) []]:=by
 refine Ct.of B18 rfl fun h r=>Tr.eq (G40 ..) ?_;refine Je ?_
 refine Yc (Ic9) ?_;rintro _ h ⟨A,rfl,o⟩<;>refine Jh o ?_
 (refine Ja ?_;unhygienic intros)
 refine Yc (Ic4 A) ?_
 rintro _ h ⟨k,c,w,m,rfl,o⟩
 refine (?_:Tr _ _ _ _) o
 refine Je ?_
 (refine Jb ?_;unhygienic intros)
 refine Yb (Yf rfl ?_)
 refine Ys fun o=>(?_:Tr _ _ _ _) o;refine Je ?_
 refine Yf rfl ?_
 refine Iq1 c k F0 X0 fun f=>?_
 rw [show F0.at X0.m=S0 from Fr.at_cut Ij0 (Eh3 Dy4 (by omega) 0)]
 refine (?_:Tr (E3 k S0::W7 c k 0 Ij5 []::_) _ _ _)
 refine Yn fun b1 h=>?_
 (refine Ja ?_;unhygienic intros)
 refine Yc (Gu6 q1) ?_;rintro _ h ⟨rfl,o⟩<;>refine Jh o ?_
 (refine Ja ?_;unhygienic intros)
 have J1:=D55 k S0 0 Dy4.ok (by omega) 0 ⟨2,256,0,0,0,0,A00⟩ a 492 false (show ((2:Int)≠5) by decide)
 rw [Iv6] at J1
 simp only [Bl5,B47] at J1
 refine Bv7 J1 [1,4] rfl ?_
 rintro _ h ⟨y,z,rfl,o⟩
 refine (?_:Tr _ _ _ _) o
 refine Je ?_
 (refine Ja ?_;unhygienic intros)
 have R1:=Ey6 w K0 Ii7 0 Hq3 ⟨2,256,0,0,0,0,A00⟩ rfl (by rw [B47];simp [B1]) (slC false A5 1 a A00.length 492 (A0 A00)) a 492 false
 simp only [Bl5,B47] at R1
 refine Bv7 R1 [5,2] rfl ?_
 rintro _ h ⟨rfl,o⟩
 rw [show ({ K0 with R:=(Ai0 K0.R ((0:Nat):Int) 256 0 A00).2 }:RKS)=wrR K0 256 A00 from rfl] at o
 refine (?_:Tr _ _ _ _) o
 refine Je ?_
 (refine Ja ?_;unhygienic intros)
 refine E03 (Hx8 k w m c b1 _ rfl (wrR K0 256 A00) (Gi7 Ii7 256 A00) Hq3) [4,3,0] rfl ?_
 rintro _ h ⟨rfl,K',o⟩
 refine ⟨k,c,w,m,K',rfl,?_⟩
 exact Own.cmTake c k F1 [] Au4 (Eh3 Ij7 (by omega) 0) (o.fin [0,3,0,2] 2 rfl rfl)
def X2:CX:=(Dm5 X1 0).2
structure Inv (n:Int) (X:CX):Prop where
 c:Clean 3 X
 h:1≤n∧n≤8
 on:∀ j:Int,0≤j→j<n→(vS X j).2=1∧(vS X j).1.state=1∧(vS X j).1.fds=p0.fds
 off:∀ j:Int,n≤j→j<8→(vS X j).2=0
 fl:(vF X 0).2=1∧(vF X 0).1.refs=n
section
variable {nc:Nat} {X:CX} (c:Clean nc X)
include c
abbrev A63 (X:CX) (i:Int) (p:PipeS):CX:=Bo5 X ⟨3,i⟩ (I1 p)
abbrev Go2 (X:CX) (i:Int):CX:=Bo5 X ⟨2,i⟩ (List.replicate 8 0)
abbrev Gl6 (X:CX) (i:Int):CX:=Bo5 X ⟨3,i⟩ (List.replicate 40 0)
theorem A50 {i:Int} (h:0≤i∧i<3+nc) {p:PipeS} (ok:okP p=true) :
  A89 X i p=(true,A63 X i p)∧Clean nc (A63 X i p)∧(∀ j:Int,0≤j∧j<8→vS (A63 X i p) j=vS X j)∧(∀ j:Int,0≤j∧j<12→vF (A63 X i p) j=vF X j)∧(∀ j:Int,0≤j∧j<3+nc→vP (A63 X i p) j=if j=i then (p,1) else vP X j):=by
 have hl:(I1 p).length=Aa3 (3:Int):=by rw [As9 p.len];rfl
 refine ⟨by unfold A89;rw [ok];exact Bh3 c (A79 h) _,Bg9 c (A79 h) hl (by show (N9 (I1 p)).2≠2;rw [Eb8 ok];simp),fun j hj=>?_,fun j hj=>?_,fun j hj=>?_⟩
 ·show Y7 (rd _ _)=_
  rw [P9 c (A79 h) (B91 hj) hl,if_neg (by simp)]
 ·show Z0 (rd _ _)=_
  rw [P9 c (A79 h) (Be0 hj) hl,if_neg (by simp)]
 ·show N9 (rd _ _)=_
  rw [P9 c (A79 h) (A79 hj) hl]
  by_cases e:j=i
  ·rw [if_pos (by rw [e]),if_pos e];exact Eb8 ok
  ·rw [if_neg (by simp [e]),if_neg e]
theorem Gp1 {i:Int} (h:0≤i∧i<12) :
  Ij1 X ⟨2,i⟩=(true,Go2 X i)∧Clean nc (Go2 X i)∧(∀ j:Int,0≤j∧j<8→vS (Go2 X i) j=vS X j)∧(∀ j:Int,0≤j∧j<12→vF (Go2 X i) j=if j=i then (.zero,0) else vF X j)∧(∀ j:Int,0≤j∧j<3+nc→vP (Go2 X i) j=vP X j):=by
 have hl:(List.replicate 8 (0:UInt8)).length=Aa3 (2:Int):=rfl
 refine ⟨Bh3 c (Be0 h) _,Bg9 c (Be0 h) hl (by show (Z0 (List.replicate 8 0)).2≠2;rw [show (Z0 (List.replicate 8 0))=(.zero,0) from rfl];simp),fun j hj=>?_,fun j hj=>?_,fun j hj=>?_⟩
 ·show Y7 (rd _ _)=_
  rw [P9 c (Be0 h) (B91 hj) hl,if_neg (by simp)]
 ·show Z0 (rd _ _)=_
  rw [P9 c (Be0 h) (Be0 hj) hl]
  by_cases e:j=i
  ·rw [if_pos (by rw [e]),if_pos e];rfl
  ·rw [if_neg (by simp [e]),if_neg e]
 ·show N9 (rd _ _)=_
  rw [P9 c (Be0 h) (A79 hj) hl,if_neg (by simp)]
theorem Gl2 {i:Int} (h:0≤i∧i<3+nc) :
  Ij1 X ⟨3,i⟩=(true,Gl6 X i)∧Clean nc (Gl6 X i)∧(∀ j:Int,0≤j∧j<8→vS (Gl6 X i) j=vS X j)∧(∀ j:Int,0≤j∧j<12→vF (Gl6 X i) j=vF X j)∧(∀ j:Int,0≤j∧j<3+nc→vP (Gl6 X i) j=if j=i then (.zero,0) else vP X j):=by
 have hl:(List.replicate 40 (0:UInt8)).length=Aa3 (3:Int):=rfl
 refine ⟨Bh3 c (A79 h) _,Bg9 c (A79 h) hl (by show (N9 (List.replicate 40 0)).2≠2;rw [show (N9 (List.replicate 40 0))=(.zero,0) from rfl];simp),fun j hj=>?_,fun j hj=>?_,fun j hj=>?_⟩
 ·show Y7 (rd _ _)=_
  rw [P9 c (A79 h) (B91 hj) hl,if_neg (by simp)]
 ·show Z0 (rd _ _)=_
  rw [P9 c (A79 h) (Be0 hj) hl,if_neg (by simp)]
 ·show N9 (rd _ _)=_
  rw [P9 c (A79 h) (A79 hj) hl]
  by_cases e:j=i
  ·rw [if_pos (by rw [e]),if_pos e];rfl
  ·rw [if_neg (by simp [e]),if_neg e]
theorem Ii8 {i:Int} (h:0≤i∧i<3+nc):((vP X i).2=0∧(vP X i).1=.zero)∨((vP X i).2=1∧okP (vP X i).1=true):=by
 have:=c.ok ⟨3,i⟩ (by simp) (by simp) h.1 h.2
 have hk:(vP X i).2≠2:=this
 unfold vP N9 at hk ⊢
 split
 ·exact .inl ⟨rfl,rfl⟩
 ·split
  ·rename_i h2
   unfold isP at h2
   simp only [Bool.and_eq_true] at h2
   exact .inr ⟨rfl,h2.1⟩
  ·rename_i h1 h2;simp [h1,h2] at hk
end
def SlOk (L:List (Int × ProcS)):Prop:=∀ s ∈ L,(0≤s.1∧s.1<8)∧okS s.2=true∧InS s.2
theorem Dp2 (e:Int):Ct A9 Ba0 [int e] [] fun v own=>v=.agg ⟨N4 0 e false⟩∧own []:=by
 refine Ct.of Hs9 rfl fun h r=>Tr.eq (Hv5 ..) ?_;refine Je ?_
 (refine Ja ?_;unhygienic intros)
 refine Ys fun o=>?_
 exact ⟨rfl,o.tail⟩
theorem If7 (ok:Bool) (n:Int):Ct A9 Dm4 [.bool ok,int n] [] fun v own=>v=.agg ⟨if ok then N4 n 0 false else N4 0 105 false⟩∧own []:=by
 refine Ct.of Hw7 rfl fun h r=>Tr.eq (Ht6 ..) ?_;refine Je ?_
 refine Yn fun b1 h=>?_
 cases ok
 ·refine Yt rfl ?_
  refine Yc (Dp2 105) ?_;rintro _ h ⟨rfl,o⟩<;>(refine Jf o ?_;unhygienic intros)
  refine Ys fun o=>?_
  exact ⟨rfl,o.tail⟩
 ·refine Yf rfl ?_
  (refine Ja ?_;unhygienic intros)
  refine Ys fun o=>?_
  exact ⟨rfl,o.tail⟩
theorem Es1 (p:ProcS) {j:Nat} (h:j<8):(D5 p)[8+j]?=some (int (p.fds.getD j 0)):=by
 have:=Gp6 (l:=p.fds) (i:=j) (by rw [p.len];exact h)
 rw [show 8+j=j+8 by omega]
 exact this
abbrev setFd (p:ProcS) (j:Nat) (f:Int):ProcS:=⟨p.state,p.parent,p.group,p.code,p.pending,p.mask,p.ignored,p.caught,p.fds.set j f,by rw [List.length_set];exact p.len⟩
theorem Gs9 (p:ProcS) {j:Nat} (h:j<8) (f:Int):Dh3 (D5 p) (8+j) (int f)=some (D5 (setFd p j f)):=by
 have e:Nat.blt (8+j) (D5 p).length=true:=by rw [Bx7 p];exact Nat.ble_eq_true_of_le (by have:=p.len;omega)
 unfold Dh3
 rw [e,show 8+j=j+8 by omega]
 show some ((D5 p).set (j+8) (int f))=_
 simp only [D5,List.set_cons_succ,List.map_set]
def Au0 (p:ProcS) (fd:Int):Bool:=decide (0≤fd∧fd<8) && decide (p.fds.getD fd.toNat 0>0)
theorem Ii4 (p:ProcS) (fd:Int):Ct A9 Db2 [.agg ⟨D5 p⟩,int fd] [] fun v own=>v=.bool (Au0 p fd)∧own []:=by
 refine Ct.of Hk3 rfl fun h r=>Tr.eq (Hm6 ..) ?_;refine Je ?_
 refine Yn fun b1 h=>?_
 by_cases h0:0≤fd
 case neg =>
  refine Yb (Yf (by simpa using h0) ?_)
  refine Ys fun o=>(?_:Tr _ _ _ _) o;refine Je ?_
  refine Yb (Yf rfl ?_)
  refine Ys fun o=>(?_:Tr _ _ _ _) o;refine Je ?_
  refine Ys fun o=>?_
  refine ⟨?_,o.tail⟩
  rw [show Au0 p fd=false by simp [Au0];omega]
 refine Yb (Yt (by simpa using h0) ?_)
 refine Ys fun o=>(?_:Tr _ _ _ _) o;refine Je ?_
 by_cases h1:fd<8
 case neg =>
  refine Yb (Yf (by simpa using h1) ?_)
  refine Ys fun o=>(?_:Tr _ _ _ _) o;refine Je ?_
  refine Ys fun o=>?_
  refine ⟨?_,o.tail⟩
  rw [show Au0 p fd=false by simp [Au0];omega]
 have hg:=Es1 p (j:=fd.toNat) (by omega)
 refine Yb (Yt (by simpa using h1) ?_)
 (refine Ja ?_;unhygienic intros)
 refine Ys fun o=>(?_:Tr _ _ _ _) o;refine Je ?_
 refine Ys fun o=>?_
 refine ⟨?_,o.tail⟩
 rw [show Au0 p fd=decide (p.fds.getD fd.toNat 0>0) by simp [Au0,h0,h1]]
theorem Gb8 {p:ProcS} (h:okS p=true) (h1:p.state=1) (j:Nat) {f:Int} (hf:0≤f∧f≤12):okS (setFd p j f)=true:=by
 have hd:=Ey1 h
 have hd2:B46 (setFd p j f).fds:=fun x hx=>by
  rcases List.mem_or_eq_of_mem_set hx with h2|rfl
  ·exact hd x h2
  ·exact hf
 unfold okS at h ⊢
 rw [if_neg (by rw [h1];decide)] at h
 rw [if_neg (show ¬ (setFd p j f).state=2 by show ¬ p.state=2;rw [h1];decide)]
 simp only [Bool.and_eq_true] at h ⊢
 refine ⟨h.1,h.2.1,?_,h.2.2.2⟩
 rw [Bool.not_eq_true',List.any_eq_false]
 intro x hx
 have:=hd2 x hx
 simp;omega
def Hs3 (X:CX) (i fd f:Int):List Value × CX :=
 if (M0 X i).2≠0 then (N4 0 (M0 X i).2 false,X) else (N4 fd 0 false,Bw1 X i (setFd (vS X i).1 fd.toNat (f+1)))
def N7 (q:Int→Bool):Nat→Int→Nat→List Int
 | 0,_,_=>[]
 | _+1,_,0=>[]
 | m+1,i,w+1=>if q i=true then i::N7 q m (i+1) w else N7 q m (i+1) (w+1)
theorem Dc4 (q:Int→Bool):∀ (m:Nat) (i:Int) (w:Nat),(N7 q m i w).length≤w
 | 0,_,_=>by simp [N7]
 | _+1,_,0=>by simp [N7]
 | m+1,i,w+1=>by
  have h1:=Dc4 q m (i+1) w
  have h2:=Dc4 q m (i+1) (w+1)
  unfold N7;split<;>simp<;>omega
theorem Ax4 (q:Int→Bool):∀ (m:Nat) (i:Int) (w:Nat),∀ x ∈ N7 q m i w,i≤x∧x<i+m∧q x=true
 | 0,_,_,x,hx=>by simp [N7] at hx
 | _+1,_,0,x,hx=>by simp [N7] at hx
 | m+1,i,w+1,x,hx=>by
  unfold N7 at hx
  split at hx
  ·rename_i hq
   rcases List.mem_cons.1 hx with rfl|h
   ·exact ⟨by omega,by omega,hq⟩
   ·have:=Ax4 q m (i+1) w x h
    exact ⟨by omega,by omega,this.2.2⟩
  ·have:=Ax4 q m (i+1) (w+1) x hx
   exact ⟨by omega,by omega,this.2.2⟩
theorem D05 (pr:HP) (g:FuncId) (cp:List Value) (n:Int) (hn:n≤100) (q:Int→Bool) (hq:∀ j:Int,0≤j∧j<n→Ct A9 g (int j::cp) [pr] fun v own=>v=.bool (q j)∧own [pr]):∀ (m:Nat) (i:Int) (acc:List Int) (w:Nat) (a:Option Addr) (ac:Nat),0≤i→i+m=n→acc.length≤i →
  CtJ H3 Y8 Bb6 [(0,int n),(1,int ((acc.length+w:Nat):Int)),(2,.func (.func g) ⟨[]⟩ ⟨cp⟩),(7,.slice a acc.length ac),(8,int i)] [slC false B8 1 a acc.length ac (acc.map int),pr] fun v own =>
   ∃ a' c',v=.slice a' (acc++N7 q m i w).length c'∧own [slC false B8 1 a' (acc++N7 q m i w).length c' ((acc++N7 q m i w).map int),pr]
 | 0,i,acc,w,a,ac,h0,hi,ha=>by
  refine CtJ.of Dl2 fun h r=>Tr.eq (Dg7 ..) ?_;refine Je ?_
  refine Yb (Yf (by simp;omega) ?_)
  refine Ys fun o=>(?_:Tr _ _ _ _) o;refine Je ?_
  refine Yf rfl ?_
  refine Ys fun o=>?_
  rw [show N7 q 0 i w=[] by unfold N7;rfl,List.append_nil]
  exact ⟨a,ac,rfl,o.sub⟩
 | m+1,i,acc,0,a,ac,h0,hi,ha=>by
  refine CtJ.of Dl2 fun h r=>Tr.eq (Dg7 ..) ?_;refine Je ?_
  refine Yb (Yt (by simp;omega) ?_)
  refine Ys fun o=>(?_:Tr _ _ _ _) o;refine Je ?_
  refine Yf (by simp) ?_
  refine Ys fun o=>?_
  rw [show N7 q (m+1) i 0=[] by unfold N7;rfl,List.append_nil]
  exact ⟨a,ac,rfl,o.sub⟩
 | m+1,i,acc,w+1,a,ac,h0,hi,ha=>by
  have e1:IntKind.wrap .i64 (i+1)=i+1:=by rw [B0];omega
  rw [show N7 q (m+1) i (w+1)=if q i=true then i::N7 q m (i+1) w else N7 q m (i+1) (w+1) by rw [N7]]
  refine CtJ.of Dl2 fun h r=>Tr.eq (Dg7 ..) ?_;refine Je ?_
  refine Yb (Yt (by simp;omega) ?_)
  refine Ys fun o=>(?_:Tr _ _ _ _) o;refine Je ?_
  refine Yt (by simp;omega) ?_
  rw [e1]
  refine P6 0 rfl fun hl hc _=>?_
  (refine Ja ?_;unhygienic intros)
  simp only [List.nil_append,List.singleton_append]
  refine Yc (hq i (by omega)) ?_;rintro _ h ⟨rfl,o⟩<;>refine Jh o ?_
  (refine Ja ?_;unhygienic intros)
  by_cases h2:q i=true
  ·rw [if_pos h2]
   refine Yt h2 ?_
   (refine Ja ?_;unhygienic intros)
   refine Tr.xApd (new:=[int i]) ⟨rfl,rfl,by simp only [B1];omega⟩ fun a' c' h=>?_
   have H:=D05 pr g cp n hn q hq m (i+1) (acc++[i]) w a' c' (by omega) (by omega) (by simp;omega)
   rw [show acc++i::N7 q m (i+1) w=acc++[i]++N7 q m (i+1) w by simp,show acc.length+(w+1)=(acc++[i]).length+w by simp;omega]
   refine (?_:Tr (_::pr::slC false B8 1 a' (acc.length+1) c' (acc.map int++[int i])::_) _ _ _)
   rw [show acc.map int++[int i]=(acc++[i]).map int by simp,show acc.length+1=(acc++[i]).length by simp]
   refine Q7 [2,1] 1 rfl rfl ?_
   exact Yr H fun v h q=>q
  ·rw [if_neg h2]
   refine Yf (by simpa using h2) ?_
   refine Q7 [1,0] 0 rfl rfl ?_
   exact Yr (D05 pr g cp n hn q hq m (i+1) acc (w+1) a ac (by omega) (by omega) (by omega)) fun v h q=>q
theorem E80 (pr:HP) (g:FuncId) (cp:List Value) (n:Nat) (hn:n≤100) (w:Nat) (q:Int→Bool) (hq:∀ j:Int,0≤j∧j<n→Ct A9 g (int j::cp) [pr] fun v own=>v=.bool (q j)∧own [pr]) :
  Ct A9 Y8 [int n,int w,.func (.func g) ⟨[]⟩ ⟨cp⟩] [pr] fun v own=>∃ a' c',v=.slice a' (N7 q n 0 w).length c'∧own [slC false B8 1 a' (N7 q n 0 w).length c' ((N7 q n 0 w).map int),pr]:=by
 refine Ct.of Dl2 rfl fun h r=>Tr.eq (Hr8 ..) ?_;refine Je ?_
 refine G7 false B8 1 (by omega) ?_
 have J:=D05 pr g cp n (by omega) q hq n 0 [] w none 0 (by omega) (by omega) (by simp)
 simp only [List.nil_append,List.length_nil,List.map_nil,Nat.zero_add] at J
 exact Yr J fun v h q=>q
theorem H91 (b:Nat) (p:ProcS) (j:Int) (hj:0≤j∧j<8):Ct A9 Bc8 [int j,P0 b] [pt b (.cells D0 false (D5 p))] fun v own=>v=.bool (p.fds.getD j.toNat 0==0)∧own [pt b (.cells D0 false (D5 p))]:=by
 have hg:=Es1 p (j:=j.toNat) (by omega)
 refine Ct.of Gx0 rfl fun h r=>Tr.eq (G09 ..) ?_;refine Je ?_
 (refine Ja ?_;unhygienic intros)
 refine Ys fun o=>?_
 exact ⟨rfl,o.sub⟩
abbrev W6 (p:ProcS) (w:Nat):List Int:=N7 (fun j=>p.fds.getD j.toNat 0==0) 8 0 w
theorem Ia9 (p:ProcS) (w:Nat):Ct A9 Da1 [.agg ⟨D5 p⟩,int w] [] fun v own=>∃ a' c',v=.slice a' (W6 p w).length c'∧own [slC false B8 1 a' (W6 p w).length c' ((W6 p w).map int)]:=by
 refine Ct.of Hl5 rfl fun h r=>Tr.eq (Hk6 ..) ?_;refine Je ?_
 refine Yn fun b1 h=>?_
 refine Yc (E80 _ Bc8 [P0 b1] 8 (by omega) w _ fun j hj=>H91 b1 p j (by omega)) ?_
 rintro _ h ⟨a',c',rfl,o⟩
 refine Jh o ?_
 (refine Ja ?_;unhygienic intros)
 refine Ys fun o=>?_
 exact ⟨a',c',rfl,o.sub⟩
def hcC (bh b k:Nat) (F:Fr) (X:CX):HP:=hex fun _:Unit=>sl [pt bh (.cells P3 false [P0 b]),cmC b k F X]
instance {bh b k:Nat} {F:Fr} {X:CX}:Chk (hcC bh b k F X) (fun _:Unit=>[pt bh (.cells P3 false [P0 b]),cmC b k F X]):=⟨rfl⟩
theorem Ie8 (bh b k:Nat) (F:Fr) (X:CX) (ok:FrOk F) {nc:Nat} (c:Clean nc X) (j:Int) (hj:0≤j∧j<12):Ct A9 A71 [int j,P0 bh] [hcC bh b k F X] fun v own=>v=.bool ((vF X j).2==0)∧own [hcC bh b k F X]:=by
 refine Ct.of Hc1 rfl fun h r=>Tr.eq (Hc8 ..) ?_;refine Je ?_
 refine B9 (hcC bh b k F X) fun u=>?_;refine Je ?_
 (refine Ja ?_;unhygienic intros)
 refine Yc (Do7 b k F X ok j) ?_;rintro _ h ⟨rfl,o⟩<;>refine Jh o ?_
 rw [Br4 c hj]
 dsimp only
 (refine Jc ?_;unhygienic intros)
 refine Yn fun b1 h=>?_
 (refine Ja ?_;unhygienic intros)
 refine B7 (hcC bh b k F X) () ?_;refine Je ?_
 refine Ys fun o=>?_
 exact ⟨rfl,o.sub⟩
theorem Ib5 (bh b k:Nat) (F:Fr) (X:CX) (ok:FrOk F) {nc:Nat} (c:Clean nc X) (j:Int) (hj:0≤j∧j<3+nc):Ct A9 A57 [int j,P0 bh] [hcC bh b k F X] fun v own=>v=.bool ((vP X j).2==0)∧own [hcC bh b k F X]:=by
 refine Ct.of G72 rfl fun h r=>Tr.eq (Hc5 ..) ?_;refine Je ?_
 refine B9 (hcC bh b k F X) fun u=>?_;refine Je ?_
 (refine Ja ?_;unhygienic intros)
 refine Yc (Gb1 b k F X ok j) ?_;rintro _ h ⟨rfl,o⟩<;>refine Jh o ?_
 rw [D41 c hj]
 dsimp only
 (refine Jc ?_;unhygienic intros)
 refine Yn fun b1 h=>?_
 (refine Ja ?_;unhygienic intros)
 refine B7 (hcC bh b k F X) () ?_;refine Je ?_
 refine Ys fun o=>?_
 exact ⟨rfl,o.sub⟩
def ofV (X:CX) (i fd:Int):(Int × FileS) × Int :=
 if (M0 X i).2≠0 then ((0,.zero),(M0 X i).2)
 else if Au0 (vS X i).1 fd=false then ((0,.zero),109)
 else if (vF X ((vS X i).1.fds.getD fd.toNat 0-1)).2≠1 then ((0,.zero),105)
 else (((vS X i).1.fds.getD fd.toNat 0-1,(vF X ((vS X i).1.fds.getD fd.toNat 0-1)).1),0)
theorem H73 {nc:Nat} {X:CX} (c:Clean nc X) {i:Int} (hi:0≤i∧i<8) (h:(M0 X i).2=0) (j:Nat):0≤(vS X i).1.fds.getD j 0∧(vS X i).1.fds.getD j 0≤12:=by
 obtain ⟨s1,s2,s3,s4⟩:=Bj5 c hi h
 by_cases hj:j<(vS X i).1.fds.length
 ·rw [List.getD_eq_getElem?_getD,List.getElem?_eq_getElem hj];exact Ey1 s3 _ (List.getElem_mem _)
 ·rw [List.getD_eq_getElem?_getD,List.getElem?_eq_none (by omega)];simp
theorem Hu3 (b k:Nat) (F:Fr) (X:CX) (ok:FrOk F) {nc:Nat} (c:Clean nc X) (i fd:Int) (hi:0≤i∧i<8) :
  Ct A9 Dp7 [P0 b,int i,int fd] [cmC b k F X] fun v own=>v=.tuple ⟨[int (ofV X i fd).1.1,.agg ⟨Ae0 (ofV X i fd).1.2⟩,int (ofV X i fd).2]⟩∧own [cmC b k F X]:=by
 unfold ofV
 refine Ct.of Ic6 rfl fun h r=>Tr.eq (Id9 ..) ?_;refine Je ?_
 refine Yn fun b0 h=>?_
 refine Yc (Dn6 b k F X ok c i hi) ?_;rintro _ h ⟨rfl,o⟩<;>refine Jh o ?_
 (refine Jc ?_;unhygienic intros)
 refine Yn fun b1 h=>?_
 (refine Jb ?_;unhygienic intros)
 by_cases h1:(M0 X i).2=0
 case neg =>
  rw [if_pos h1]
  refine Yt (by simpa using h1) ?_
  (refine Ja ?_;unhygienic intros)
  refine Ys fun o=>?_
  exact ⟨rfl,o.sub⟩
 rw [if_neg (by simpa using h1)]
 refine Yf (by simpa using h1) ?_
 obtain ⟨s1,s2,s3,s4⟩:=Bj5 c hi h1
 have hr:=fun j=>H73 c hi h1 j
 rw [s1]
 generalize hp:(vS X i).1=p at s2 s3 hr
 (refine Ja ?_;unhygienic intros)
 refine Yc (Ii4 p fd) ?_;rintro _ h ⟨rfl,o⟩<;>(refine Jf o ?_;unhygienic intros)
 by_cases h2:Au0 p fd=true
 case neg =>
  rw [if_pos (by simpa using h2)]
  refine Yt (by simpa using h2) ?_
  (refine Ja ?_;unhygienic intros)
  refine Ys fun o=>?_
  exact ⟨rfl,o.sub⟩
 rw [if_neg (by simpa using h2)]
 refine Yf (by simpa using h2) ?_
 simp only [Au0,Bool.and_eq_true,decide_eq_true_eq] at h2
 have hg:=Es1 p (j:=fd.toNat) (by omega)
 have hf:=hr fd.toNat
 generalize p.fds.getD fd.toNat 0=f at hg hf h2
 have e1:IntKind.wrap .i64 (f-1)=f-1:=by rw [B0];omega
 (refine Ja ?_;unhygienic intros)
 rw [e1]
 refine Yc (Do7 b k F X ok (f-1)) ?_;rintro _ h ⟨rfl,o⟩<;>refine Jh o ?_
 rw [Br4 c (by omega)]
 dsimp only
 (refine Ja ?_;unhygienic intros)
 by_cases h3:(vF X (f-1)).2=1
 case neg =>
  rw [if_pos h3]
  refine Yt (by simpa using h3) ?_
  (refine Ja ?_;unhygienic intros)
  refine Ys fun o=>?_
  exact ⟨rfl,o.sub⟩
 rw [if_neg (by simpa using h3)]
 refine Yf (by simpa using h3) ?_
 (refine Ja ?_;unhygienic intros)
 rw [e1]
 refine Ys fun o=>?_
 exact ⟨rfl,o.sub⟩
theorem H85 {p:ProcS} {fd:Int} (h:Au0 p fd=true):(0≤fd∧fd<8)∧p.fds.getD fd.toNat 0>0:=by
 simp only [Au0,Bool.and_eq_true,decide_eq_true_eq] at h;exact h
def Ar0:PipeS:=⟨0,0,1,1,[0,0,0,0,0,0,0,0,0,0,0,0,0,0,0,0,0,0,0,0,0,0,0,0,0,0,0,0,0,0,0,0],rfl⟩
abbrev Bd2 (X:CX):List Int:=N7 (fun j=>(vF X j).2==0) 12 0 2
abbrev Bl8 (X:CX):List Int:=N7 (fun j=>(vP X j).2==0) 4 0 1
def Bp8 (X:CX) (i d0 d1 f0 f1 r0:Int):CX :=
 Bw1 (A09 (A09 (A63 X r0 Ar0) f0 ⟨1,r0,1,0⟩) f1 ⟨2,r0,1,0⟩) i (setFd (setFd (vS X i).1 d0.toNat (f0+1)) d1.toNat (f1+1))
def Bd6 (X:CX) (i:Int):List Value × CX :=
 if (M0 X i).2≠0 then (N4 0 (M0 X i).2 false,X)
 else if (W6 (vS X i).1 2).length<2 then (N4 0 124 false,X)
 else if (Bd2 X).length<2∨(Bl8 X).length=0 then (N4 0 123 false,X)
 else (N4 ((W6 (vS X i).1 2).getD 0 0+16*(W6 (vS X i).1 2).getD 1 0) 0 false,Bp8 X i ((W6 (vS X i).1 2).getD 0 0) ((W6 (vS X i).1 2).getD 1 0) ((Bd2 X).getD 0 0) ((Bd2 X).getD 1 0) ((Bl8 X).getD 0 0))
theorem H18 {l:List Int} (h:l.length≤2) (h2:¬ l.length<2):∃ a b,l=[a,b]:=by
 match l,h,h2 with
 | [a,b],_,_=>exact ⟨a,b,rfl⟩
 | [],_,h2=>simp at h2
 | [_],_,h2=>simp at h2
 | _::_::_::_,h,_=>simp at h
theorem Gu8 {nc:Nat} {X:CX} (c:Clean nc X) {i:Int} (hi:0≤i∧i<8) (hs:(M0 X i).2=0) {d0 d1 f0 f1 r0:Int} (hd0:0≤d0∧d0<8) (hd1:0≤d1∧d1<8) (hf0:0≤f0∧f0<12) (hf1:0≤f1∧f1<12) (hr:0≤r0∧r0<4) (hn:r0<3+(nc:Int)) :
  A89 X r0 Ar0=(true,A63 X r0 Ar0)∧Bj3 (A63 X r0 Ar0) f0 ⟨1,r0,1,0⟩=(true,A09 (A63 X r0 Ar0) f0 ⟨1,r0,1,0⟩) ∧
  Bj3 (A09 (A63 X r0 Ar0) f0 ⟨1,r0,1,0⟩) f1 ⟨2,r0,1,0⟩=(true,A09 (A09 (A63 X r0 Ar0) f0 ⟨1,r0,1,0⟩) f1 ⟨2,r0,1,0⟩) ∧
  Bu5 (A09 (A09 (A63 X r0 Ar0) f0 ⟨1,r0,1,0⟩) f1 ⟨2,r0,1,0⟩) i (setFd (setFd (vS X i).1 d0.toNat (f0+1)) d1.toNat (f1+1))=(true,Bp8 X i d0 d1 f0 f1 r0) ∧
  Clean nc (Bp8 X i d0 d1 f0 f1 r0)∧(∀ j:Int,0≤j∧j<8→vS (Bp8 X i d0 d1 f0 f1 r0) j=if j=i then (setFd (setFd (vS X i).1 d0.toNat (f0+1)) d1.toNat (f1+1),1) else vS X j) ∧
  (∀ j:Int,0≤j∧j<12→vF (Bp8 X i d0 d1 f0 f1 r0) j=if j=f1 then (⟨2,r0,1,0⟩,1) else if j=f0 then (⟨1,r0,1,0⟩,1) else vF X j) ∧
  (∀ j:Int,0≤j∧j<3+nc→vP (Bp8 X i d0 d1 f0 f1 r0) j=if j=r0 then (Ar0,1) else vP X j):=by
 obtain ⟨s1,s2,s3,s4⟩:=Bj5 c hi hs
 have hin:=Dn5 (rd X ⟨1,i⟩)
 obtain ⟨a1,a2,a3,a4,a5⟩:=A50 c (i:=r0) (by omega) (p:=Ar0) rfl
 obtain ⟨b1,b2,b3,b4,b5⟩:=As2 a2 hf0 (f:=⟨1,r0,1,0⟩) (by simp [okF];omega)
 obtain ⟨c1,c2,c3,c4,c5⟩:=As2 b2 hf1 (f:=⟨2,r0,1,0⟩) (by simp [okF];omega)
 have hq:=Gb8 (Gb8 s3 s2 d0.toNat (f:=f0+1) (by omega)) s2 d1.toNat (f:=f1+1) (by omega)
 obtain ⟨e1,e2,e3,e4,e5⟩:=Bl7 c2 hi hq ⟨hin.a,hin.b,hin.c,hin.d⟩
 refine ⟨a1,b1,c1,e1,e2,fun j hj=>?_,fun j hj=>?_,fun j hj=>?_⟩
 ·rw [show Bp8 X i d0 d1 f0 f1 r0=Bw1 _ _ _ from rfl,e3 j hj,c3 j hj,b3 j hj,a3 j hj]
 ·rw [show Bp8 X i d0 d1 f0 f1 r0=Bw1 _ _ _ from rfl,e4 j hj,c4 j hj,b4 j hj,a4 j hj]
 ·rw [show Bp8 X i d0 d1 f0 f1 r0=Bw1 _ _ _ from rfl,e5 j hj,c5 j hj,b5 j hj,a5 j hj]
theorem Id1 (bh b k:Nat) (F:Fr) (X:CX) (ok:FrOk F) {nc:Nat} (c:Clean nc X):Ct A9 Y8 [int 12,int 2,.func (.func A71) ⟨[]⟩ ⟨[P0 bh]⟩] [hcC bh b k F X] fun v own =>
  ∃ a' c',v=.slice a' (Bd2 X).length c'∧own [slC false B8 1 a' (Bd2 X).length c' ((Bd2 X).map int),hcC bh b k F X] :=
 E80 _ A71 [P0 bh] 12 (by omega) 2 _ fun j hj=>Ie8 bh b k F X ok c j (by omega)
theorem If6 (bh b k:Nat) (F:Fr) (X:CX) (ok:FrOk F) {nc:Nat} (c:Clean nc X):Ct A9 Y8 [int 4,int 1,.func (.func A57) ⟨[]⟩ ⟨[P0 bh]⟩] [hcC bh b k F X] fun v own =>
  ∃ a' c',v=.slice a' (Bl8 X).length c'∧own [slC false B8 1 a' (Bl8 X).length c' ((Bl8 X).map int),hcC bh b k F X] :=
 E80 _ A57 [P0 bh] 4 (by omega) 1 _ fun j hj=>Ib5 bh b k F X ok c j (by have:=c.pos;omega)
theorem Ir0 {l:List Int} (h:l.length≤1) (h2:¬ l.length=0):∃ a,l=[a]:=by
 match l,h,h2 with
 | [a],_,_=>exact ⟨a,rfl⟩
 | [],_,h2=>simp at h2
 | _::_::_,h,_=>simp at h
theorem If1 (b k:Nat) (F:Fr) (X:CX) (ok:FrOk F) {nc:Nat} (c:Clean nc X) (i:Int) (hi:0≤i∧i<8) :
  Ct A9 Dj7 [P0 b,int i] [cmC b k F X] fun v own=>v=.agg ⟨(Bd6 X i).1⟩∧own [cmC b k F (Bd6 X i).2]:=by
 unfold Bd6
 refine Ct.of H00 rfl fun h r=>Tr.eq (Hv0 ..) ?_;refine Je ?_
 refine Yn fun bh h=>?_
 refine Yn fun b0 h=>?_
 (refine Ja ?_;unhygienic intros)
 refine Yc (Dn6 b k F X ok c i hi) ?_;rintro _ h ⟨rfl,o⟩<;>refine Jh o ?_
 (refine Jc ?_;unhygienic intros)
 refine Yn fun b1 h=>?_
 (refine Jb ?_;unhygienic intros)
 by_cases h1:(M0 X i).2=0
 case neg =>
  rw [if_pos h1]
  refine Yt (by simpa using h1) ?_
  refine Yc (Dp2 (M0 X i).2) ?_;rintro _ h ⟨rfl,o⟩<;>(refine Jf o ?_;unhygienic intros)
  refine Ys fun o=>?_
  exact ⟨rfl,o.sub⟩
 rw [if_neg (by simpa using h1)]
 refine Yf (by simpa using h1) ?_
 have hM:=fun d0 d1 f0 f1 r0=>Gu8 c hi h1 (d0:=d0) (d1:=d1) (f0:=f0) (f1:=f1) (r0:=r0)
 obtain ⟨s1,s2,s3,s4⟩:=Bj5 c hi h1
 rw [s1]
 unfold Bp8 at hM ⊢
 generalize (vS X i).1=p at hM
 (refine Ja ?_;unhygienic intros)
 refine Yc (Ia9 p 2) ?_
 rintro _ h ⟨a,ac,rfl,o⟩
 refine Jh o ?_
 have hm:=Ax4 (fun j=>p.fds.getD j.toNat 0==0) 8 0 2
 have hl:=Dc4 (fun j=>p.fds.getD j.toNat 0==0) 8 0 2
 change ∀ x ∈ W6 p 2,_ at hm
 change (W6 p 2).length≤2 at hl
 refine (?_:Tr (slC false B8 1 a (W6 p 2).length ac ((W6 p 2).map int)::_) _ _ _)
 generalize W6 p 2=L at hm hl
 by_cases h2:L.length<2
 ·(refine Ja ?_;unhygienic intros)
  refine Yt (by simp;omega) ?_
  refine Yc (Dp2 124) ?_;rintro _ h ⟨rfl,o⟩<;>(refine Jf o ?_;unhygienic intros)
  refine Ys fun o=>?_
  rw [if_pos h2]
  exact ⟨rfl,o.sub⟩
 rw [if_neg h2]
 obtain ⟨d0,d1,rfl⟩:=H18 hl h2
 have hd0:=hm d0 (by simp)
 have hd1:=hm d1 (by simp)
 (refine Ja ?_;unhygienic intros)
 refine Yf (by simp) ?_
 refine B7 (hcC bh b k F X) () ?_;refine Je ?_
 refine Yc (Id1 bh b k F X ok c) ?_
 rintro _ h ⟨a2,ac2,rfl,o⟩
 refine Jh o ?_
 have hmF:=Ax4 (fun j=>(vF X j).2==0) 12 0 2
 have hlF:=Dc4 (fun j=>(vF X j).2==0) 12 0 2
 change ∀ x ∈ Bd2 X,_ at hmF
 change (Bd2 X).length≤2 at hlF
 generalize Bd2 X=Fl at hmF hlF
 (refine Ja ?_;unhygienic intros)
 refine Yc (If6 bh b k F X ok c) ?_
 rintro _ h ⟨a3,ac3,rfl,o⟩
 refine Jh o ?_
 have hmR:=Ax4 (fun j=>(vP X j).2==0) 4 0 1
 have hlR:=Dc4 (fun j=>(vP X j).2==0) 4 0 1
 change ∀ x ∈ Bl8 X,_ at hmR
 change (Bl8 X).length≤1 at hlR
 generalize Bl8 X=Rl at hmR hlR
 refine B9 (hcC bh b k F X) fun u=>?_;refine Je ?_
 by_cases h3:Fl.length<2
 ·rw [if_pos (.inl h3)]
  (refine Jb ?_;unhygienic intros)
  refine Yb (Yt (by simp;omega) ?_)
  refine Ys fun o=>(?_:Tr _ _ _ _) o;refine Je ?_
  refine Yt rfl ?_
  refine Yc (Dp2 123) ?_;rintro _ h ⟨rfl,o⟩<;>(refine Jf o ?_;unhygienic intros)
  refine Ys fun o=>?_
  exact ⟨rfl,o.sub⟩
 obtain ⟨f0,f1,rfl⟩:=H18 hlF h3
 by_cases h4:Rl.length=0
 ·rw [if_pos (.inr h4)]
  (refine Jb ?_;unhygienic intros)
  refine Yb (Yf rfl ?_)
  refine Ys fun o=>(?_:Tr _ _ _ _) o;refine Je ?_
  refine Yt (by simpa using h4) ?_
  refine Yc (Dp2 123) ?_;rintro _ h ⟨rfl,o⟩<;>(refine Jf o ?_;unhygienic intros)
  refine Ys fun o=>?_
  exact ⟨rfl,o.sub⟩
 rw [if_neg (fun h=>h.elim h3 h4)]
 obtain ⟨r0,rfl⟩:=Ir0 hlR h4
 have hf0:=hmF f0 (by simp)
 have hf1:=hmF f1 (by simp)
 have hr0:=hmR r0 (by simp)
 obtain ⟨w1,w2,w3,w4,_⟩:=hM d0 d1 f0 f1 r0 (by omega) (by omega) (by omega) (by omega) (by omega) (by have:=c.pos;omega)
 (refine Jb ?_;unhygienic intros)
 refine Yb (Yf rfl ?_)
 refine Ys fun o=>(?_:Tr _ _ _ _) o;refine Je ?_
 refine Yf rfl ?_
 (refine Ja ?_;unhygienic intros;repeat(refine Gw ?_;rintro px rfl;refine Ja ?_;unhygienic intros))
 refine Yc (E36 b k F X ok r0 Ar0) ?_;rintro _ h ⟨rfl,o⟩<;>refine Jh o ?_
 rw [w1]
 dsimp only
 (refine Jb ?_;unhygienic intros)
 refine Yb (Yt rfl ?_)
 (refine Jb ?_;unhygienic intros;repeat(refine Gw ?_;rintro px rfl;refine Jb ?_;unhygienic intros))
 refine Yc (D16 b k F (A63 X r0 Ar0) ok f0 ⟨1,r0,1,0⟩) ?_;rintro _ h ⟨rfl,o⟩<;>refine Jh o ?_
 rw [w2]
 dsimp only
 (refine Jb ?_;unhygienic intros)
 refine Ys fun o=>(?_:Tr _ _ _ _) o;refine Je ?_
 refine Yb (Yt rfl ?_)
 (refine Jb ?_;unhygienic intros;repeat(refine Gw ?_;rintro px rfl;refine Jb ?_;unhygienic intros))
 refine Yc (D16 b k F (A09 (A63 X r0 Ar0) f0 ⟨1,r0,1,0⟩) ok f1 ⟨2,r0,1,0⟩) ?_;rintro _ h ⟨rfl,o⟩<;>refine Jh o ?_
 rw [w3]
 dsimp only
 (refine Jb ?_;unhygienic intros)
 refine Ys fun o=>(?_:Tr _ _ _ _) o;refine Je ?_
 have hs:Dh3 (D5 p) (8+d0.toNat) (int (IntKind.wrap .i64 (f0+1)))=some (D5 (setFd p d0.toNat (f0+1))):=by
  rw [show IntKind.wrap .i64 (f0+1)=f0+1 by rw [B0];omega];exact Gs9 p (by omega) _
 have hs2:Dh3 (D5 (setFd p d0.toNat (f0+1))) (8+d1.toNat) (int (IntKind.wrap .i64 (f1+1)))=some (D5 (setFd (setFd p d0.toNat (f0+1)) d1.toNat (f1+1))):=by
  rw [show IntKind.wrap .i64 (f1+1)=f1+1 by rw [B0];omega];exact Gs9 _ (by omega) _
 have hx:IntKind.wrap .i64 (d0+IntKind.wrap .i64 (16*d1))=d0+16*d1:=by simp only [B0];omega
 simp only [List.getD_cons_zero,List.getD_cons_succ]
 generalize setFd (setFd p d0.toNat (f0+1)) d1.toNat (f1+1)=q at hs2 w4
 (refine Jb ?_;unhygienic intros;repeat(refine Gw ?_;rintro px rfl;refine Jb ?_;unhygienic intros))
 rw [hx]
 refine Yb (Yt rfl ?_)
 (refine Jb ?_;unhygienic intros)
 refine Yc (D27 b k F (A09 (A09 (A63 X r0 Ar0) f0 ⟨1,r0,1,0⟩) f1 ⟨2,r0,1,0⟩) ok i q) ?_;rintro _ h ⟨rfl,o⟩<;>refine Jh o ?_
 rw [w4]
 dsimp only
 (refine Jb ?_;unhygienic intros)
 refine Ys fun o=>(?_:Tr _ _ _ _) o;refine Je ?_
 refine Yc (If7 true (d0+16*d1)) ?_;rintro _ h ⟨rfl,o⟩<;>refine Jh o ?_
 rw [if_pos trivial]
 (refine Ja ?_;unhygienic intros)
 refine Ys fun o=>?_
 exact ⟨rfl,o.sub⟩
structure VW where
 S:Int→ProcS × Int
 F:Int→FileS × Int
 P:Int→PipeS × Int
structure See (X:CX) (V:VW):Prop where
 c:Clean 3 X
 s:∀ j:Int,0≤j∧j<8→vS X j=V.S j
 f:∀ j:Int,0≤j∧j<12→vF X j=V.F j
 p:∀ j:Int,0≤j∧j<6→vP X j=V.P j
theorem See.to {X:CX} {V V':VW} (A:See X V) (hs:∀ j:Int,0≤j∧j<8→V.S j=V'.S j) (hf:∀ j:Int,0≤j∧j<12→V.F j=V'.F j) (hp:∀ j:Int,0≤j∧j<6→V.P j=V'.P j):See X V' :=
 ⟨A.c,fun j h=>(A.s j h).trans (hs j h),fun j h=>(A.f j h).trans (hf j h),fun j h=>(A.p j h).trans (hp j h)⟩
def wS (V:VW) (i:Int) (p:ProcS):VW:=⟨fun j=>if j=i then (p,1) else V.S j,V.F,V.P⟩
def wF (V:VW) (i:Int) (x:FileS):VW:=⟨V.S,fun j=>if j=i then (x,1) else V.F j,V.P⟩
def wP (V:VW) (i:Int) (x:PipeS):VW:=⟨V.S,V.F,fun j=>if j=i then (x,1) else V.P j⟩
def oF (V:VW) (i:Int):VW:=⟨V.S,fun j=>if j=i then (.zero,0) else V.F j,V.P⟩
def oP (V:VW) (i:Int):VW:=⟨V.S,V.F,fun j=>if j=i then (.zero,0) else V.P j⟩
section
variable {X:CX} {V:VW} (A:See X V)
include A
theorem See.ws {i:Int} (hi:0≤i∧i<8) {p:ProcS} (ok:okS p=true) (r:InS p):See (Bw1 X i p) (wS V i p):=by
 obtain ⟨_,w2,w3,w4,w5⟩:=Bl7 A.c hi ok r
 exact ⟨w2,fun j h=>by rw [w3 j h,A.s j h];rfl,fun j h=>by rw [w4 j h];exact A.f j h,fun j h=>by rw [w5 j (by omega)];exact A.p j h⟩
theorem See.wf {i:Int} (hi:0≤i∧i<12) {x:FileS} (ok:okF x=true):See (A09 X i x) (wF V i x):=by
 obtain ⟨_,w2,w3,w4,w5⟩:=As2 A.c hi ok
 exact ⟨w2,fun j h=>by rw [w3 j h];exact A.s j h,fun j h=>by rw [w4 j h,A.f j h];rfl,fun j h=>by rw [w5 j (by omega)];exact A.p j h⟩
theorem See.wp {i:Int} (hi:0≤i∧i<6) {x:PipeS} (ok:okP x=true):See (A63 X i x) (wP V i x):=by
 obtain ⟨_,w2,w3,w4,w5⟩:=A50 A.c (i:=i) (by omega) ok
 exact ⟨w2,fun j h=>by rw [w3 j h];exact A.s j h,fun j h=>by rw [w4 j h];exact A.f j h,fun j h=>by rw [w5 j (by omega),A.p j h];rfl⟩
theorem See.of {i:Int} (hi:0≤i∧i<12):See (Go2 X i) (oF V i):=by
 obtain ⟨_,w2,w3,w4,w5⟩:=Gp1 A.c hi
 exact ⟨w2,fun j h=>by rw [w3 j h];exact A.s j h,fun j h=>by rw [w4 j h,A.f j h];rfl,fun j h=>by rw [w5 j (by omega)];exact A.p j h⟩
theorem See.op {i:Int} (hi:0≤i∧i<6):See (Gl6 X i) (oP V i):=by
 obtain ⟨_,w2,w3,w4,w5⟩:=Gl2 A.c (i:=i) (by omega)
 exact ⟨w2,fun j h=>by rw [w3 j h];exact A.s j h,fun j h=>by rw [w4 j h];exact A.f j h,fun j h=>by rw [w5 j (by omega),A.p j h];rfl⟩
end
def U4 (V:VW) (i:Int):ProcS × Int:=if (V.S i).2=1∧(V.S i).1.state=1 then ((V.S i).1,0) else (.zero,105)
theorem See.self {X:CX} {V:VW} (A:See X V) {i:Int} (hi:0≤i∧i<8):M0 X i=U4 V i:=by unfold M0 U4;rw [A.s i hi]
def ofW (V:VW) (i fd:Int):(Int × FileS) × Int :=
 if (U4 V i).2≠0 then ((0,.zero),(U4 V i).2)
 else if Au0 (V.S i).1 fd=false then ((0,.zero),109)
 else if (V.F ((V.S i).1.fds.getD fd.toNat 0-1)).2≠1 then ((0,.zero),105)
 else (((V.S i).1.fds.getD fd.toNat 0-1,(V.F ((V.S i).1.fds.getD fd.toNat 0-1)).1),0)
theorem See.ofv {X:CX} {V:VW} (A:See X V) {i:Int} (hi:0≤i∧i<8) (fd:Int):ofV X i fd=ofW V i fd:=by
 have es:=A.self hi
 have hr:=fun h=>H73 A.c (i:=i) hi h fd.toNat
 unfold ofV ofW
 rw [es] at hr ⊢
 rw [A.s i hi] at hr ⊢
 by_cases h1:(U4 V i).2≠0
 ·rw [if_pos h1,if_pos h1]
 rw [if_neg h1,if_neg h1]
 by_cases h2:Au0 (V.S i).1 fd=false
 ·rw [if_pos h2,if_pos h2]
 have hn:=H85 (show Au0 (V.S i).1 fd=true by simpa using h2)
 have hr:=hr (by simpa using h1)
 rw [if_neg h2,if_neg h2,A.f _ (by omega)]
def Hy4 (V:VW) (i fd f:Int):List Value × VW :=
 if (U4 V i).2≠0 then (N4 0 (U4 V i).2 false,V) else (N4 fd 0 false,wS V i (setFd (V.S i).1 fd.toNat (f+1)))
theorem See.setFd {X:CX} {V:VW} (A:See X V) {i:Int} (hi:0≤i∧i<8) (h:(U4 V i).2=0) (j:Nat) {f:Int} (hf:0≤f∧f≤12):See (Bw1 X i (EQ.setFd (vS X i).1 j f)) (wS V i (EQ.setFd (V.S i).1 j f)):=by
 have es:=A.self hi
 obtain ⟨s1,s2,s3,s4⟩:=Bj5 A.c hi (by rw [es];exact h)
 have hin:=Dn5 (rd X ⟨1,i⟩)
 have:=A.ws hi (Gb8 s3 s2 j hf) ⟨hin.a,hin.b,hin.c,hin.d⟩
 have e:EQ.setFd (V.S i).1 j f=EQ.setFd (vS X i).1 j f:=by rw [A.s i hi]
 rw [e];exact this
theorem See.name {X:CX} {V:VW} (A:See X V) {i:Int} (hi:0≤i∧i<8) (fd:Int) {f:Int} (hf:0≤f∧f<12):(Hs3 X i fd f).1=(Hy4 V i fd f).1∧See (Hs3 X i fd f).2 (Hy4 V i fd f).2:=by
 have es:=A.self hi
 unfold Hs3 Hy4
 rw [es]
 by_cases h1:(U4 V i).2=0
 case neg=>rw [if_pos h1,if_pos h1];exact ⟨rfl,A⟩
 have n1:¬ (U4 V i).2≠0:=by simpa using h1
 rw [if_neg n1,if_neg n1]
 exact ⟨rfl,A.setFd hi h1 fd.toNat (by omega)⟩
theorem Da8 {q q':Int→Bool}:∀ (m:Nat) (i:Int) (w:Nat),(∀ j:Int,i≤j→j<i+m→q j=q' j)→N7 q m i w=N7 q' m i w
 | 0,_,_,_=>rfl
 | _+1,_,0,_=>rfl
 | m+1,i,w+1,h=>by
  rw [N7,N7,h i (by omega) (by omega),Da8 m (i+1) w fun j h1 h2=>h j (by omega) (by omega),Da8 m (i+1) (w+1) fun j h1 h2=>h j (by omega) (by omega)]
abbrev Ee3 (V:VW):List Int:=N7 (fun j=>(V.F j).2==0) 12 0 2
abbrev Gq7 (V:VW):List Int:=N7 (fun j=>(V.P j).2==0) 4 0 1
def mkW (V:VW) (i d0 d1 f0 f1 r0:Int):VW:=wS (wF (wF (wP V r0 Ar0) f0 ⟨1,r0,1,0⟩) f1 ⟨2,r0,1,0⟩) i (setFd (setFd (V.S i).1 d0.toNat (f0+1)) d1.toNat (f1+1))
def G12 (V:VW) (i:Int):List Value × VW :=
 if (U4 V i).2≠0 then (N4 0 (U4 V i).2 false,V)
 else if (W6 (V.S i).1 2).length<2 then (N4 0 124 false,V)
 else if (Ee3 V).length<2∨(Gq7 V).length=0 then (N4 0 123 false,V)
 else (N4 ((W6 (V.S i).1 2).getD 0 0+16*(W6 (V.S i).1 2).getD 1 0) 0 false,mkW V i ((W6 (V.S i).1 2).getD 0 0) ((W6 (V.S i).1 2).getD 1 0) ((Ee3 V).getD 0 0) ((Ee3 V).getD 1 0) ((Gq7 V).getD 0 0))
theorem Ds3 {l:List Int} {j:Nat} (h:j<l.length):l.getD j 0 ∈ l:=by
 rw [List.getD_eq_getElem?_getD,List.getElem?_eq_getElem h];exact List.getElem_mem _
theorem See.pipe {X:CX} {V:VW} (A:See X V) {i:Int} (hi:0≤i∧i<8):(Bd6 X i).1=(G12 V i).1∧See (Bd6 X i).2 (G12 V i).2:=by
 have es:=A.self hi
 have e1:Bd2 X=Ee3 V:=Da8 12 0 2 fun j h1 h2=>by rw [A.f j (by omega)]
 have e2:Bl8 X=Gq7 V:=Da8 4 0 1 fun j h1 h2=>by rw [A.p j (by omega)]
 unfold Bd6 G12
 rw [e1,e2,es]
 by_cases h1:(U4 V i).2=0
 case neg=>rw [if_pos h1,if_pos h1];exact ⟨rfl,A⟩
 have n1:¬ (U4 V i).2≠0:=by simpa using h1
 rw [if_neg n1,if_neg n1,A.s i hi]
 by_cases h2:(W6 (V.S i).1 2).length<2
 ·rw [if_pos h2,if_pos h2];exact ⟨rfl,A⟩
 rw [if_neg h2,if_neg h2]
 by_cases h3:(Ee3 V).length<2∨(Gq7 V).length=0
 ·rw [if_pos h3,if_pos h3];exact ⟨rfl,A⟩
 rw [if_neg h3,if_neg h3]
 have hm:=Ax4 (fun j=>(V.S i).1.fds.getD j.toNat 0==0) 8 0 2
 have hd0:=hm _ (Ds3 (l:=W6 (V.S i).1 2) (j:=0) (by omega))
 have hd1:=hm _ (Ds3 (l:=W6 (V.S i).1 2) (j:=1) (by omega))
 have hf0:=Ax4 (fun j=>(V.F j).2==0) 12 0 2 _ (Ds3 (l:=Ee3 V) (j:=0) (by omega))
 have hf1:=Ax4 (fun j=>(V.F j).2==0) 12 0 2 _ (Ds3 (l:=Ee3 V) (j:=1) (by omega))
 have hr:=Ax4 (fun j=>(V.P j).2==0) 4 0 1 _ (Ds3 (l:=Gq7 V) (j:=0) (by omega))
 generalize (W6 (V.S i).1 2).getD 0 0=d0 at hd0 ⊢
 generalize (W6 (V.S i).1 2).getD 1 0=d1 at hd1 ⊢
 generalize (Ee3 V).getD 0 0=f0 at hf0 ⊢
 generalize (Ee3 V).getD 1 0=f1 at hf1 ⊢
 generalize (Gq7 V).getD 0 0=r0 at hr ⊢
 obtain ⟨_,_,_,_,m1,m2,m3,m4⟩:=Gu8 A.c hi (by rw [es];exact h1) (d0:=d0) (d1:=d1) (f0:=f0) (f1:=f1) (r0:=r0) (by omega) (by omega) (by omega) (by omega) (by omega) (by omega)
 refine ⟨rfl,m1,fun j hj=>?_,fun j hj=>?_,fun j hj=>?_⟩
 ·rw [m2 j hj,A.s i hi,A.s j hj];rfl
 ·rw [m3 j hj,A.f j hj];rfl
 ·rw [m4 j (by omega),A.p j hj];rfl
def Dw7 (V:VW):Nat→Int→Int
 | 0,_=>-1
 | m+1,i=>if (V.S i).2=0 then i else Dw7 V m (i+1)
theorem See.free {X:CX} {V:VW} (A:See X V):∀ (m:Nat) (i:Int),0≤i→i+m=8→Ak0 X m i=Dw7 V m i
 | 0,_,_,_=>rfl
 | m+1,i,h0,hi=>by rw [Ak0,Dw7,A.s i (by omega),A.free m (i+1) (by omega) (by omega)]
def Dc6 (V:VW) (more:List Int):List Int→Int
 | []=>0
 | f::l=>if f=0 then Dc6 V more l else if (V.F (f-1)).2≠1 then 105 else if (V.F (f-1)).1.refs+more.getD (f-1).toNat 0>64 then 123 else Dc6 V more l
theorem See.share {X:CX} {V:VW} (A:See X V) (more:List Int):∀ l:List Int,B46 l→Ac9 X more l=Dc6 V more l
 | [],_=>rfl
 | f::l,h=>by
  have hf:=h f (by simp)
  rw [Ac9,Dc6,A.share more l fun x hx=>h x (by simp [hx])]
  by_cases h0:f=0
  ·rw [if_pos h0,if_pos h0]
  ·rw [if_neg h0,if_neg h0,A.f (f-1) (by omega)]
def Ir9 (V:VW) (more:List Int):VW:=⟨V.S,fun j=>if more.getD j.toNat 0≠0 then (D13 (V.F j).1 (more.getD j.toNat 0),1) else V.F j,V.P⟩
def G18 (V:VW) (i:Int):List Value × VW :=
 if (U4 V i).2≠0 then (N4 0 (U4 V i).2 false,V)
 else if Dw7 V 8 0<0 then (N4 0 111 false,V)
 else if Dc6 V (Al6 (V.S i).1) (V.S i).1.fds≠0 then (N4 0 (Dc6 V (Al6 (V.S i).1) (V.S i).1.fds) false,V)
 else (N4 (Dw7 V 8 0) 0 false,wS (Ir9 V (Al6 (V.S i).1)) (Dw7 V 8 0) (Bl2 (V.S i).1 i))
theorem See.fork {X:CX} {V:VW} (A:See X V) {i:Int} (hi:0≤i∧i<8):(Dm5 X i).1=(G18 V i).1∧See (Dm5 X i).2 (G18 V i).2:=by
 have es:=A.self hi
 have ef:=A.free 8 0 (by omega) (by omega)
 unfold Dm5 G18
 rw [ef]
 by_cases h1:(U4 V i).2=0
 case neg=>rw [es,if_pos h1,if_pos h1];exact ⟨rfl,A⟩
 have n1:¬ (U4 V i).2≠0:=by simpa using h1
 have n2:¬ (M0 X i).2≠0:=by rw [es];exact n1
 rw [if_neg n2,if_neg n1]
 by_cases h2:Dw7 V 8 0<0
 ·rw [if_pos h2,if_pos h2];exact ⟨rfl,A⟩
 rw [if_neg h2,if_neg h2]
 obtain ⟨s1,s2,s3,s4⟩:=Bj5 A.c hi (by rw [es];exact h1)
 rw [s1]
 have hfd:=Ey1 s3
 have hin:=Dn5 (rd X ⟨1,i⟩)
 have esh:=A.share (Al6 (vS X i).1) _ hfd
 have hcl:=En9 A.c hfd
 have hno:=fun h=>Gs8 (X:=X) (p:=(vS X i).1) h
 have hm8:Dw7 V 8 0<8:=by
  rcases Eu0 (X:=X) 8 0 (by omega) (by omega) with h|h<;>omega
 have e1:(U6 X (vS X i).1).1=Ac9 X (Al6 (vS X i).1) (vS X i).1.fds:=by
  unfold U6;split
  ·rename_i h;exact h.symm
  ·rfl
 rw [esh] at e1
 have hck:=G48 s3 s2 hi
 have hin2:InS (Bl2 (vS X i).1 i):=⟨by simp,hin.b,hin.c,hin.d⟩
 simp only
 rw [e1] at hcl hno ⊢
 rw [A.s i hi] at *
 by_cases h3:Dc6 V (Al6 (V.S i).1) (V.S i).1.fds=0
 case neg=>rw [if_pos h3,if_pos h3];exact ⟨rfl,A⟩
 have n3:¬ Dc6 V (Al6 (V.S i).1) (V.S i).1.fds≠0:=by simpa using h3
 rw [if_neg n3,if_neg n3]
 obtain ⟨a1,a2,a3,a4⟩:=hcl h3
 refine ⟨rfl,?_⟩
 have B:See (U6 X (V.S i).1).2 (Ir9 V (Al6 (V.S i).1)):=⟨a1,fun j hj=>by rw [a2 j hj];exact A.s j hj,fun j hj=>by rw [a3 j hj,A.f j hj];rfl,fun j hj=>by rw [a4 j (by omega)];exact A.p j hj⟩
 exact B.ws (by omega) hck hin2
def V1:VW:=⟨fun j=>if j=0 then (p0,1) else (.zero,0),fun j=>if j=0 then (f0,1) else (.zero,0),fun j=>if j<4 then (.zero,0) else vP X1 j⟩
theorem Hu6:See X1 V1:=by
 refine ⟨E97,fun j hj=>?_,fun j hj=>?_,fun j hj=>?_⟩
 ·have:j=0∨j=1∨j=2∨j=3∨j=4∨j=5∨j=6∨j=7:=by omega
  rcases this with rfl|rfl|rfl|rfl|rfl|rfl|rfl|rfl<;>(clear hj;show (_:ProcS × Int)=_;kernel_rfl)
 ·have:j=0∨j=1∨j=2∨j=3∨j=4∨j=5∨j=6∨j=7∨j=8∨j=9∨j=10∨j=11:=by omega
  rcases this with rfl|rfl|rfl|rfl|rfl|rfl|rfl|rfl|rfl|rfl|rfl|rfl<;>(clear hj;show (_:FileS × Int)=_;kernel_rfl)
 ·by_cases h4:j<4
  ·have:j=0∨j=1∨j=2∨j=3:=by omega
   rcases this with rfl|rfl|rfl|rfl<;>(clear hj h4;show (_:PipeS × Int)=_;kernel_rfl)
  ·show _=if j<4 then _ else vP X1 j
   rw [if_neg h4]
abbrev Iv3 (ow:List Int) (h:ow.length=8):ProcS:=⟨1,0,0,0,0,0,0,0,ow,h⟩
def kd (j:Int):Int:=if j=0 then 3 else j
def Iw4 (j n:Int):FileS × Int:=if n>0 then (⟨kd j,0,n,0⟩,1) else (.zero,0)
def pO (a b:Int):PipeS:=⟨0,0,min a 1,min b 1,[0,0,0,0,0,0,0,0,0,0,0,0,0,0,0,0,0,0,0,0,0,0,0,0,0,0,0,0,0,0,0,0],rfl⟩
def Iw1 (a b:Int):PipeS × Int:=if a>0∨b>0 then (pO a b,1) else (.zero,0)
def Iv9 (ow:List Int) (h:ow.length=8) (r:Int→Int):VW :=
 ⟨fun j=>if j=0 then (Iv3 ow h,1) else (.zero,0),fun j=>if 0≤j∧j<3 then Iw4 j (r (j+1)) else (.zero,0),fun j=>if j=0 then Iw1 (r 2) (r 3) else if j<4 then (.zero,0) else vP X1 j⟩
abbrev rr (r:Int→Int) (v d:Int):Int→Int:=fun k=>if k=v then r k+d else r k
theorem VW.ext' {V V':VW} (h1:∀ j,V.S j=V'.S j) (h2:∀ j,V.F j=V'.F j) (h3:∀ j,V.P j=V'.P j):V=V':=by
 obtain ⟨a,b,c⟩:=V
 obtain ⟨a',b',c'⟩:=V'
 have e1:a=a':=funext h1
 have e2:b=b':=funext h2
 have e3:c=c':=funext h3
 rw [e1,e2,e3]
section
variable {ow:List Int} {h:ow.length=8} {r:Int→Int}
end
def cnt (v:Int):List Int→Int
 | []=>0
 | x::l=>(if x=v then 1 else 0)+cnt v l
theorem Gn2 (v:Int):∀ l:List Int,0≤cnt v l∧cnt v l≤l.length
 | []=>by simp [cnt]
 | x::l=>by
  have:=Gn2 v l
  unfold cnt;rw [List.length_cons];split<;>omega
theorem Hq2 (v:Int):∀ (l:List Int) (j:Nat),j<l.length→l.getD j 0=v→1≤cnt v l
 | [],j,h,_=>by simp at h
 | x::l,0,_,e=>by
  have:=Gn2 v l
  rw [List.getD_cons_zero] at e
  unfold cnt;rw [if_pos e];omega
 | x::l,j+1,h,e=>by
  rw [List.getD_cons_succ] at e
  have:=Hq2 v l j (by simpa using h) e
  unfold cnt;split<;>omega
theorem Hq7 (v w:Int):∀ (l:List Int) (j:Nat),j<l.length→cnt v (l.set j w)=cnt v l-(if l.getD j 0=v then 1 else 0)+(if w=v then 1 else 0)
 | [],j,h=>by simp at h
 | x::l,0,_=>by
  rw [List.set_cons_zero,List.getD_cons_zero,cnt,cnt];omega
 | x::l,j+1,h=>by
  have:=Hq7 v w l j (by simpa using h)
  rw [List.set_cons_succ,List.getD_cons_succ,cnt,cnt,this];omega
theorem H27 (l:List Int) (j n:Nat) (w:Int) (h:j<l.length):(l.set j w).getD n 0=if n=j then w else l.getD n 0:=by
 rw [List.getD_eq_getElem?_getD,List.getD_eq_getElem?_getD,List.getElem?_set]
 by_cases hj:j=n
 ·subst hj;simp [h]
 ·rw [if_neg hj,if_neg (fun e=>hj e.symm)]
structure Own8 (ow:List Int) (r:Int→Int):Prop where
 len:ow.length=8
 rng:∀ j:Nat,0≤ow.getD j 0∧ow.getD j 0≤3
 ct:∀ v:Int,1≤v→v≤3→r v=cnt v ow
theorem Own8.pos {ow:List Int} {r:Int→Int} (I:Own8 ow r) {j:Nat} (hj:j<8) (h:ow.getD j 0>0):1≤r (ow.getD j 0):=by
 rw [I.ct _ (by omega) (I.rng j).2];exact Hq2 _ _ j (by rw [I.len];exact hj) rfl
theorem Own8.nn {ow:List Int} {r:Int→Int} (I:Own8 ow r) {v:Int} (h:1≤v∧v≤3):0≤r v∧r v≤8:=by
 rw [I.ct v h.1 h.2];have:=Gn2 v ow;have:=I.len;omega
theorem Own8.set {ow:List Int} {r:Int→Int} (I:Own8 ow r) {j:Nat} (hj:j<8) {w:Int} (hw:0≤w∧w≤3) {r':Int→Int} (hr:∀ v:Int,1≤v→v≤3→r' v=r v-(if ow.getD j 0=v then 1 else 0)+(if w=v then 1 else 0)):Own8 (ow.set j w) r':=by
 refine ⟨by rw [List.length_set];exact I.len,fun n=>?_,fun v h1 h2=>?_⟩
 ·rw [H27 _ _ _ _ (by rw [I.len];exact hj)]
  split
  ·exact hw
  ·exact I.rng n
 ·rw [hr v h1 h2,Hq7 _ _ _ _ (by rw [I.len];exact hj),I.ct v h1 h2]
section
variable {ow:List Int} {h:ow.length=8} {r:Int→Int} (I:Own8 ow r)
include I
def r2 (r:Int→Int) (w v:Int):Int→Int:=rr (if w>0 then rr r w (-1) else r) v 1
end
def ow0:List Int:=[1,2,3,0,0,0,0,0]
def VD:VW:=Iv9 ow0 rfl (fun _=>1)
theorem Iu8:(G12 V1 0).1=N4 33 0 false:=by kernel_rfl
theorem Iv7:See (Bd6 X1 0).2 VD:=by
 refine (Hu6.pipe (i:=0) (by omega)).2.to (fun j hj=>?_) (fun j hj=>?_) fun j hj=>?_
 ·have:j=0∨j=1∨j=2∨j=3∨j=4∨j=5∨j=6∨j=7:=by omega
  rcases this with rfl|rfl|rfl|rfl|rfl|rfl|rfl|rfl<;>(clear hj;show (_:ProcS × Int)=_;kernel_rfl)
 ·have:j=0∨j=1∨j=2∨j=3∨j=4∨j=5∨j=6∨j=7∨j=8∨j=9∨j=10∨j=11:=by omega
  rcases this with rfl|rfl|rfl|rfl|rfl|rfl|rfl|rfl|rfl|rfl|rfl|rfl<;>(clear hj;show (_:FileS × Int)=_;kernel_rfl)
 ·have:j=0∨j=1∨j=2∨j=3∨j=4∨j=5:=by omega
  rcases this with rfl|rfl|rfl|rfl|rfl|rfl<;>(clear hj;show (_:PipeS × Int)=_;kernel_rfl)
theorem It1:(Bd6 X1 0).1=N4 33 0 false:=(Hu6.pipe (i:=0) (by omega)).1.trans Iu8
def XD:CX:=(Bd6 X1 0).2
theorem Iw3:See XD VD:=Iv7
theorem Iv0 {h:H} {ro:Bool} {e:TypeId} {sz:Nat} {a:Option Addr} {n c:Nat} {cs:List Value} {r:List HP} (m:Nat) (hm:m≤n) (o:Own h (slC ro e sz a n c cs::r)):Own h (slC ro e sz a m c (cs.take (m*sz))::r):=by
 cases a with
 | none =>
  obtain ⟨rfl,rfl,rfl,hs⟩:=o.slNone
  obtain rfl:m=0:=by omega
  simpa using o
 | some x =>
  obtain ⟨b,o',sp⟩:=x
  obtain ⟨pre,post,o2,h1,h2,h3,h4,h5,h6,h7⟩:=o.slOpen
  have hl:m*sz≤cs.length:=by rw [← h1];exact Nat.mul_le_mul_right _ hm
  have e1:pre++cs++post=pre++cs.take (m*sz)++(cs.drop (m*sz)++post):=by rw [List.append_assoc pre cs,List.append_assoc pre,← List.append_assoc (cs.take _),List.take_append_drop]
  rw [e1] at o2
  refine Own.slShut (b:=b) (o:=o') (sp:=sp) o2 ⟨by rw [List.length_take];omega,by omega,?_,h4,h5,h6,h7⟩
  rw [List.length_append,List.length_drop,← h1]
  have:(c-m)*sz=(c-n)*sz+(n*sz-m*sz):=by rw [← Nat.sub_mul,← Nat.add_mul];congr 1;omega
  omega
theorem Ip8 {h:H} {e:TypeId} {sz:Nat} {a:Option Addr} {n c:Nat} {cs:List Value} {r:List HP} (o:Own h (slC false e sz a n c cs::r)):Own h (slC false e sz (B41 a) n n cs::r):=by
 cases a with
 | none=>obtain ⟨rfl,rfl,rfl,hs⟩:=o.slNone;exact o
 | some x =>
  obtain ⟨b,o',sp⟩:=x
  obtain ⟨pre,post,o2,h1,h2,h3,h4,h5,h6,h7⟩:=o.slOpen
  refine Own.slShut (b:=b) (o:=o') (sp:=none) o2 ⟨h1,by omega,by simp,fun h=>h4 (by omega),fun h=>absurd rfl h,h6,fun h=>?_⟩
  rcases Nat.eq_zero_or_pos c with hc|hc
  ·exact h7 hc
  ·have:=h4 hc;omega
theorem H60 {l:List HP} {h:H} {α:Type} {Q:α→H→Prop} {ro:Bool} {e:TypeId} {sz:Nat} {a:Option Addr} {n c:Nat} {cs:List Value} {z:Option (α × H)} (i:Nat) (hi:l[i]?=some (slC ro e sz a n c cs)) (m:Nat) (cs':List Value) (hm:m≤n) (hc:cs.take (m*sz)=cs')
  (k:Tr (l.set i (slC ro e sz a m c cs')) h z Q):Tr l h z Q:=fun o=>by
 subst hc;exact k (Own.back (h:=h) hi (Iv0 m hm (o.front hi)))
theorem Hr2 (a:Option Addr) (n c:Nat) (cs:List Value):Ct A9 U7 [.slice a n c] [slC false A5 1 a n c cs] fun v own=>v=.slice (B41 a) n n∧own [slC false A5 1 (B41 a) n n cs]:=by
 refine Ct.of Dj6 rfl fun h r=>Tr.eq (Dj3 ..) ?_;refine Je ?_
 refine P6 0 rfl fun hl hc _=>?_
 simp only [Int.toNat_natCast]
 (refine Ja ?_;unhygienic intros)
 refine Ys fun o=>?_
 refine ⟨?_,Ip8 o⟩
 simp
abbrev bytesN (p:PipeS) (i:Nat):List UInt8:=(List.range i).map fun (j:Nat)=>p.data.getD (((p.head+j)%32).toNat) 0
abbrev J6 (p:PipeS):List UInt8:=bytesN p p.count.toNat
theorem Aj4 {p:PipeS} (h:okP p=true):(0≤p.head∧p.head≤31)∧(0≤p.count∧p.count≤32)∧(0≤p.readers∧p.readers≤8)∧(0≤p.writers∧p.writers≤8):=by
 simp only [okP,Bool.and_eq_true,decide_eq_true_eq] at h;omega
theorem Hq9 {l:List UInt8} {j:Nat} (h:j<l.length):(A0 l)[j]?=some (.int .u8 (l.getD j 0).toNat):=by
 unfold A0
 rw [List.getElem?_map,List.getElem?_eq_getElem h,List.getD_eq_getElem?_getD,List.getElem?_eq_getElem h];rfl
theorem H59 (p:PipeS) {j:Nat} (h:j<32):(E6 p)[4+j]?=some (.int .u8 (p.data.getD j 0).toNat):=by
 rw [show 4+j=j+4 by omega]
 exact Hq9 (by rw [p.len];exact h)
theorem Eu1 (b:Nat) (p:PipeS) (hp:okP p=true):∀ (m i:Nat) (a:Option Addr) (ac:Nat),(i:Int)+m=p.count→CtJ H3 Al3 Bg4 [(1,P0 b),(3,.slice a i ac),(9,int p.count),(10,int i)] [pt b (.cells D3 false (E6 p)),slC false A5 1 a i ac (A0 (bytesN p i))] fun v own =>
  ∃ a' c',v=.slice a' p.count.toNat c'∧own [slC false A5 1 a' p.count.toNat c' (A0 (J6 p))]
 | 0,i,a,ac,hi=>by
  obtain rfl:i=p.count.toNat:=by omega
  refine CtJ.of Dt6 fun h r=>Tr.eq (Dy3 ..) ?_;refine Je ?_
  refine Yf (by simp;omega) ?_
  refine Ys fun o=>?_
  exact ⟨a,ac,rfl,o.sub⟩
 | m+1,i,a,ac,hi=>by
  obtain ⟨r1,r2,r3,r4⟩:=Aj4 hp
  have e1:IntKind.wrap .i64 ((i:Int)+1)=((i+1:Nat):Int):=by rw [B0];omega
  have e2:IntKind.wrap .i64 (p.head+i)=p.head+i:=by rw [B0];omega
  have hg:=H59 p (j:=((p.head+i)%32).toNat) (by omega)
  refine CtJ.of Dt6 fun h r=>Tr.eq (Dy3 ..) ?_;refine Je ?_
  refine Yt (by simp;omega) ?_
  rw [e1]
  (refine Ja ?_;unhygienic intros)
  rw [e2,Hx1 (show 0≤p.head+(i:Int) by omega)]
  (refine Ja ?_;unhygienic intros)
  refine P6 2 rfl fun hl hc _=>?_
  refine Tr.xApd (new:=A0 [p.data.getD (((p.head+i)%32).toNat) 0]) ⟨rfl,rfl,by simp only [B1];omega⟩ fun a2 c2 h=>?_
  have H:=Eu1 b p hp m (i+1) a2 c2 (by omega)
  refine (?_:Tr (pt b_1 _::pt b _::slC false A5 1 a2 (i+1) c2 (A0 (bytesN p i)++A0 [p.data.getD (((p.head+i)%32).toNat) 0])::_) _ _ _)
  rw [← Is4,show bytesN p i++[p.data.getD (((p.head+i)%32).toNat) 0]=bytesN p (i+1) by unfold bytesN;rw [List.range_succ,List.map_append];rfl]
  refine Q7 [1,1] 1 rfl rfl ?_
  exact Yr H fun v h q=>q
theorem B32 (p:PipeS):(J6 p).length=p.count.toNat:=by simp [J6]
theorem H30 (p:PipeS) (hp:okP p=true):Ct A9 Al3 [.agg ⟨E6 p⟩] [] fun v own=>∃ a c,v=.slice a p.count.toNat c∧own [slC false A5 1 a p.count.toNat c (A0 (J6 p))]:=by
 refine Ct.of Dt6 rfl fun h r=>Tr.eq (Hb3 ..) ?_;refine Je ?_
 (refine Ja ?_;unhygienic intros)
 refine Yc (Ha0 p) ?_;rintro _ h ⟨rfl,o⟩<;>refine Jh o ?_
 rw [hp]
 (refine Ja ?_;unhygienic intros)
 refine G7 false A5 1 (by omega) ?_
 have H:=fun b=>Eu1 b p hp p.count.toNat 0 none 0 (by have:=Aj4 hp;omega)
 refine (?_:Tr (slC false A5 1 none 0 0 (A0 (bytesN p 0))::_) _ _ _)
 exact Yr (H _) fun v h q=>q
abbrev A24 (p:PipeS) (m:Nat):PipeS:=if 0<m then ⟨(p.head+m)%32,p.count-m,p.readers,p.writers,p.data,p.len⟩ else p
theorem G36 (p:PipeS) (hp:okP p=true) (n:Int) (hn:0≤n∧n≤32):Ct A9 Db1 [.agg ⟨E6 p⟩,int n] [] fun v own=>∃ a c,v=.tuple ⟨[.agg ⟨E6 (A24 p (min n.toNat p.count.toNat))⟩,.slice a (min n.toNat p.count.toNat) c]⟩∧own [slC false A5 1 a (min n.toNat p.count.toNat) c (A0 ((J6 p).take (min n.toNat p.count.toNat)))]:=by
 obtain ⟨r1,r2,r3,r4⟩:=Aj4 hp
 refine Ct.of Hk7 rfl fun h r=>Tr.eq (Hh5 ..) ?_;refine Je ?_
 (refine Ja ?_;unhygienic intros)
 refine Yc (H30 p hp) ?_
 rintro _ h ⟨a,c,rfl,o⟩
 refine Jh o ?_
 refine Tr.dx ?_
 simp only [Aa6,S7]
 have e:min (max n 0) ((p.count.toNat:Nat):Int)=((min n.toNat p.count.toNat:Nat):Int):=by omega
 have hle:min n.toNat p.count.toNat≤p.count.toNat:=by omega
 rw [e]
 simp only [Int.toNat_natCast]
 generalize min n.toNat p.count.toNat=m at hle
 refine P6 0 rfl fun hl hc _=>?_
 (refine Ja ?_;unhygienic intros)
 refine H60 0 rfl m (A0 ((J6 p).take m)) hle (by rw [Nat.mul_one,Gn8]) ?_
 refine (?_:Tr (slC false A5 1 a m c (A0 ((J6 p).take m))::_::_::_) _ _ _)
 by_cases hm:0<m
 ·rw [show A24 p m=⟨(p.head+m)%32,p.count-m,p.readers,p.writers,p.data,p.len⟩ from if_pos hm]
  refine Yt (by simpa using hm) ?_
  (refine Ja ?_;unhygienic intros)
  rw [show Int.tmod (IntKind.wrap .i64 (p.head+m)) 32=(p.head+m)%32 by rw [show IntKind.wrap .i64 (p.head+m)=p.head+m by rw [B0];omega,Hx1 (show 0≤p.head+(m:Int) by omega)],show IntKind.wrap .i64 (p.count-m)=p.count-m by rw [B0];omega]
  refine (?_:Tr (_::_::pt _ (.cells D3 false (E6 ⟨(p.head+m)%32,p.count-m,p.readers,p.writers,p.data,p.len⟩))::_) _ _ _)
  generalize (⟨(p.head+m)%32,p.count-m,p.readers,p.writers,p.data,p.len⟩:PipeS)=q
  (refine Ja ?_;unhygienic intros)
  refine Yc (Hr2 a m c (A0 ((J6 p).take m))) ?_;rintro _ h ⟨rfl,o⟩<;>refine Jh o ?_
  (refine Ja ?_;unhygienic intros)
  refine Ys fun o=>?_
  exact ⟨B41 a,m,rfl,o.sub⟩
 ·rw [show A24 p m=p from if_neg hm]
  refine Yf (by simpa using hm) ?_
  (refine Ja ?_;unhygienic intros)
  refine Yc (Hr2 a m c (A0 ((J6 p).take m))) ?_;rintro _ h ⟨rfl,o⟩<;>refine Jh o ?_
  (refine Ja ?_;unhygienic intros)
  refine Ys fun o=>?_
  exact ⟨B41 a,m,rfl,o.sub⟩
theorem H66 (p:PipeS) {j:Nat} (h:j<32) (x:UInt8):Dh3 (E6 p) (4+j) (.int .u8 x.toNat)=some (E6 ⟨p.head,p.count,p.readers,p.writers,p.data.set j x,by rw [List.length_set];exact p.len⟩):=by
 have e:Nat.blt (4+j) (E6 p).length=true:=by rw [W2 p.len];exact Nat.ble_eq_true_of_le (by omega)
 unfold Dh3
 rw [e,show 4+j=j+4 by omega]
 show some ((E6 p).set (j+4) _)=_
 simp only [E6,List.set_cons_succ,A0,List.map_set]
abbrev Au7 (p:PipeS) (b:UInt8):PipeS:=⟨p.head,p.count+1,p.readers,p.writers,p.data.set (((p.head+p.count)%32).toNat) b,by rw [List.length_set];exact p.len⟩
def I6:PipeS→List UInt8→PipeS × Int
 | p,[]=>(p,0)
 | p,b::l=>if p.count=32 then (p,0) else ((I6 (Au7 p b) l).1,(I6 (Au7 p b) l).2+1)
theorem Gt4:∀ (l:List UInt8) (p:PipeS),0≤(I6 p l).2∧(I6 p l).2≤l.length
 | [],p=>by simp [I6]
 | b::l,p=>by
  have:=Gt4 l (Au7 p b)
  unfold I6;split<;>simp<;>omega
theorem Gb3 {p:PipeS} (h:okP p=true) (hc:p.count≠32) (b:UInt8):okP (Au7 p b)=true:=by
 have:=Aj4 h
 simp only [okP,Bool.and_eq_true,decide_eq_true_eq] at h ⊢;omega
theorem Gj2 (b1 b2:Nat) (pb:HP) (a:Option Addr) (ro:Bool) (cc:Nat) (l:List UInt8) (hl:l.length≤1000) [ks:IsSl pb a ro A5 1 l.length cc (A0 l)] (z:PipeS):∀ (m i:Nat) (n:Int) (p:PipeS),okP p=true→i+m=l.length→0≤n→n≤i →
  CtJ H3 Ao2 Bt3 [(2,P0 b1),(4,P0 b2),(6,int n),(13,.slice a l.length cc),(14,int l.length),(15,int i)] [pt b1 (.cells D3 false (E6 p)),pt b2 (.cells D3 false (E6 z)),pb] fun v own =>
   v=.tuple ⟨[.agg ⟨E6 (I6 p (l.drop i)).1⟩,int (n+(I6 p (l.drop i)).2)]⟩∧own [pb]
 | 0,i,n,p,hp,hi,h0,hn=>by
  rw [List.drop_eq_nil_of_le (by omega),show I6 p []=(p,0) from rfl,Int.add_zero]
  refine CtJ.of Ee4 fun h r=>Tr.eq (El1 ..) ?_;refine Je ?_
  refine Yf (by simp;omega) ?_
  (refine Ja ?_;unhygienic intros)
  refine Ys fun o=>?_
  exact ⟨rfl,o.sub⟩
 | m+1,i,n,p,hp,hi,h0,hn=>by
  obtain ⟨r1,r2,r3,r4⟩:=Aj4 hp
  have hil:i<l.length:=by omega
  have hg:=Hq9 hil
  have hd:l.drop i=l.getD i 0::l.drop (i+1):=by
   rw [List.drop_eq_getElem_cons hil,List.getD_eq_getElem?_getD,List.getElem?_eq_getElem hil];rfl
  rw [hd,I6]
  generalize l.getD i 0=x at hg
  have e1:IntKind.wrap .i64 ((i:Int)+1)=((i+1:Nat):Int):=by rw [B0];omega
  have e2:IntKind.wrap .i64 (n+1)=n+1:=by rw [B0];omega
  refine CtJ.of Ee4 fun h r=>Tr.eq (El1 ..) ?_;refine Je ?_
  refine Yt (by simp;omega) ?_
  rw [e1,e2]
  simp only [Int.toNat_natCast]
  (refine Ja ?_;unhygienic intros;repeat(refine Gw ?_;rintro px rfl;refine Ja ?_;unhygienic intros))
  by_cases hc:p.count=32
  ·rw [if_pos hc]
   refine Yt (by simpa using hc) ?_
   (refine Ja ?_;unhygienic intros)
   refine Ys fun o=>?_
   rw [Int.add_zero]
   exact ⟨rfl,o.sub⟩
  rw [if_neg hc]
  refine Yf (by simpa using hc) ?_
  have e3:Int.tmod (IntKind.wrap .i64 (p.head+p.count)) 32=(p.head+p.count)%32:=by
   rw [show IntKind.wrap .i64 (p.head+p.count)=p.head+p.count by rw [B0];omega,Hx1 (show 0≤p.head+p.count by omega)]
  have hs:=H66 p (j:=((p.head+p.count)%32).toNat) (by omega) x
  have H:=Gj2 b1 b2 pb (some px) ro cc l hl z m (i+1) (n+1) (Au7 p x) (Gb3 hp hc x) (by omega) (by omega) (by omega)
  (refine Ja ?_;unhygienic intros)
  rw [e3]
  (refine Ja ?_;unhygienic intros)
  dsimp only
  rw [show IntKind.wrap .i64 (p.count+1)=p.count+1 by rw [B0];omega]
  refine (?_:Tr (pt b1 (.cells D3 false (E6 (Au7 p x)))::pt b2 (.cells D3 false (E6 z))::pb::_) _ _ _)
  refine Yr H ?_
  intro v h q
  obtain ⟨rfl,o⟩:=q
  exact ⟨by rw [Int.add_right_comm,Int.add_assoc],o⟩
theorem Go6 (p:PipeS) (hp:okP p=true) (pb:HP) (a:Option Addr) (ro:Bool) (cc:Nat) (l:List UInt8) (hl:l.length≤1000) [ks:IsSl pb a ro A5 1 l.length cc (A0 l)] :
  Ct A9 Ao2 [.agg ⟨E6 p⟩,.slice a l.length cc] [pb] fun v own=>v=.tuple ⟨[.agg ⟨E6 (I6 p l).1⟩,int (I6 p l).2]⟩∧own [pb]:=by
 refine Ct.of Ee4 rfl fun h r=>Tr.eq (Hz8 ..) ?_;refine Je ?_
 (refine Ja ?_;unhygienic intros)
 refine Yc (Ha0 p) ?_;rintro _ h ⟨rfl,o⟩<;>refine Jh o ?_
 rw [hp]
 (refine Ja ?_;unhygienic intros)
 have H:=fun b1 b2=>Gj2 b1 b2 pb a ro cc l hl .zero l.length 0 0 p hp (by omega) (by omega) (by omega)
 rw [List.drop_zero,Int.zero_add] at H
 refine (?_:Tr (pt _ (.cells D3 false (E6 .zero))::pt _ (.cells D3 false (E6 p))::pb::_) _ _ _)
 exact Yr (H _ _) fun v h q=>q
abbrev vT (X:CX):PipeS × Int:=N9 (rd X ⟨4,0⟩)
theorem Do5 {nc:Nat}:Rin nc ⟨4,0⟩:=⟨by simp,by simp,by simp,by simp [V0]⟩
theorem Gn1 {nc:Nat} {X:CX} (c:Clean nc X) {i:Int} (h:0≤i∧i<3+nc) {q:PipeS} (ok:okP q=true):vT (A63 X i q)=vT X:=by
 have hl:(I1 q).length=Aa3 (3:Int):=by rw [As9 q.len];rfl
 show N9 (rd _ _)=_
 rw [P9 c (A79 h) Do5 hl,if_neg (by simp)]
theorem Au2 (e:Int):Ct A9 H9 [int e] [] fun v own=>v=.agg ⟨N4 0 e false⟩∧own []:=by
 refine Ct.of G56 rfl fun h r=>Tr.eq (Hb0 ..) ?_;refine Je ?_
 (refine Ja ?_;unhygienic intros)
 refine Ys fun o=>?_
 exact ⟨rfl,o.tail⟩
theorem Ef9 (f:FileS):Ct A9 Aw6 [.agg ⟨Ae0 f⟩] [] fun v own=>v=.agg ⟨if f.flags=1 then N4 0 111 false else N4 0 0 true⟩∧own []:=by
 refine Ct.of Gy8 rfl fun h r=>Tr.eq (Gx3 ..) ?_;refine Je ?_
 (refine Jb ?_;unhygienic intros)
 by_cases h1:f.flags=1
 ·rw [if_pos h1]
  refine Yt (by simpa using h1) ?_
  refine Yc (Au2 111) ?_;rintro _ h ⟨rfl,o⟩<;>(refine Jf o ?_;unhygienic intros)
  refine Ys fun o=>?_
  exact ⟨rfl,o.sub⟩
 ·rw [if_neg h1]
  refine Yf (by simpa using h1) ?_
  (refine Ja ?_;unhygienic intros)
  refine Ys fun o=>?_
  exact ⟨rfl,o.sub⟩
abbrev Dl5 (b b1:Nat):Value:=.func (.func A73) ⟨[]⟩ ⟨[P0 b,P0 b1]⟩
theorem Gp0 (c k b b1:Nat) (F:Fr) (X:CX) (ok:FrOk F) (f:FileS) (q:PipeS):Ct A9 A73 [.agg ⟨E6 q⟩,P0 b,P0 b1] [cmC c k F X,pt b (.cells P3 false [P0 c]),pt b1 (.cells D7 false (Ae0 f))] fun v own =>
  v=.bool (A89 X f.pipe q).1∧own [cmC c k F (A89 X f.pipe q).2,pt b (.cells P3 false [P0 c]),pt b1 (.cells D7 false (Ae0 f))]:=by
 refine Ct.of Ha9 rfl fun h r=>Tr.eq (G70 ..) ?_;refine Je ?_
 (refine Ja ?_;unhygienic intros)
 refine Yc (E36 c k F X ok f.pipe q) ?_;rintro _ h ⟨rfl,o⟩<;>(refine Jf o ?_;unhygienic intros)
 refine Ys fun o=>?_
 exact ⟨rfl,o.sub⟩
def Ad4 (q:PipeS) (v:Value):List Value:=E6 q++[v]
theorem B86 (q:PipeS) (v:Value):(Ad4 q v).length=37:=by unfold Ad4;rw [List.length_append,W2 q.len];rfl
theorem Ib1 (q:PipeS) (x:Fn) (y z:Array Value):(Ad4 q (.func x y z)).all Value.oneCell=true:=by unfold Ad4;rw [List.all_append,Gv2];rfl
instance {q:PipeS} {v:Value}:LenC (Ad4 q v) 37:=⟨B86 q v⟩
instance {q:PipeS} {v:Value}:PartC (Ad4 q v) 0 37 (Ad4 q v):=⟨Bi5 (B86 q v)⟩
instance {q:PipeS} {v:Value}:PartC (Ad4 q v) 0 36 (E6 q):=⟨by
 unfold Da4
 rw [Nat.ble_eq_true_of_le (by rw [B86];omega),List.drop_zero]
 unfold Ad4
 rw [List.take_left' (W2 q.len)];rfl⟩
instance {q:PipeS} {x:Fn} {y z:Array Value} {cs:List Value} [k:LenC cs 37]:SetsC cs 0 (Ad4 q (.func x y z)) (Ad4 q (.func x y z)):=⟨Bk0 k.ok (B86 q _) (Ib1 q x y z)⟩
theorem H86 (c k:Nat) (F:Fr) (X:CX) (ok:FrOk F) {nc:Nat} (cl:Clean nc X) (f:FileS) (h3:f.kind≠3) (hp:0≤f.pipe∧f.pipe<3+nc):Ct A9 Bl3 [P0 c,.agg ⟨Ae0 f⟩] [cmC c k F X] fun v own =>
  ∃ b b1,v=.tuple ⟨[.agg ⟨Ad4 (vP X f.pipe).1 (Dl5 b b1)⟩,.bool ((vP X f.pipe).2==1)]⟩∧own [cmC c k F X,pt b (.cells P3 false [P0 c]),pt b1 (.cells D7 false (Ae0 f))]:=by
 refine Ct.of Gk0 rfl fun h r=>Tr.eq (Gi3 ..) ?_;refine Je ?_
 refine Yn fun b h=>?_
 refine Yn fun b1 h=>?_
 refine Yn fun b2 h=>?_
 (refine Ja ?_;unhygienic intros)
 refine Yf (by simpa using h3) ?_
 (refine Ja ?_;unhygienic intros)
 refine Yc (Gb1 c k F X ok f.pipe) ?_;rintro _ h ⟨rfl,o⟩<;>refine Jh o ?_
 rw [D41 cl hp]
 dsimp only
 generalize (vP X f.pipe).1=q
 (refine Jc ?_;unhygienic intros)
 refine Yn fun b3 h=>?_
 (refine Jc ?_;unhygienic intros)
 refine Tr.ck (B86 q _) ?_
 refine (?_:Tr _ _ (pAgg ⟨b2,0,none⟩ (Ad4 q (Dl5 b b1)) _ _) _)
 (refine Ja ?_;unhygienic intros)
 refine Ys fun o=>?_
 exact ⟨b,b1,rfl,o.sub⟩
def Ai7 (V:VW) (i fd n:Int):FileS × Int :=
 if (ofW V i fd).2≠0 then ((ofW V i fd).1.2,(ofW V i fd).2)
 else if (ofW V i fd).1.2.kind=2 then ((ofW V i fd).1.2,109)
 else if n<0∨n>32 then ((ofW V i fd).1.2,122)
 else ((ofW V i fd).1.2,0)
theorem It5 (c k:Nat) (F:Fr) (X:CX) (ok:FrOk F) (V:VW) (A:See X V) (i fd n:Int) (hi:0≤i∧i<8) (h3:(ofW V i fd).1.2.kind≠3):Ct A9 Bq5 [P0 c,int i,int fd,int n] [cmC c k F X] fun v own=>v=.tuple ⟨[.agg ⟨Ae0 (Ai7 V i fd n).1⟩,int (Ai7 V i fd n).2]⟩∧own [cmC c k F X]:=by
 have eo:=A.ofv hi fd
 unfold Ai7
 refine Ct.of E59 rfl fun h r=>Tr.eq (E51 ..) ?_;refine Je ?_
 refine Yn fun b0 h=>?_
 refine Yc (Hu3 c k F X ok A.c i fd hi) ?_;rintro _ h ⟨rfl,o⟩<;>refine Jh o ?_
 rw [eo]
 (refine Jc ?_;unhygienic intros)
 refine Yn fun b1 h=>?_
 (refine Jb ?_;unhygienic intros)
 generalize (ofW V i fd).1.2=x at *
 generalize (ofW V i fd).2=e at *
 by_cases h1:e=0
 case neg =>
  rw [if_pos h1]
  refine Yt (by simpa using h1) ?_
  (refine Ja ?_;unhygienic intros)
  refine Ys fun o=>?_
  exact ⟨rfl,o.sub⟩
 have n1:¬ e≠0:=by simpa using h1
 rw [if_neg n1]
 refine Yf (by simpa using h1) ?_
 (refine Ja ?_;unhygienic intros)
 by_cases h2:x.kind=2
 ·rw [if_pos h2]
  refine Yt (by simpa using h2) ?_
  (refine Ja ?_;unhygienic intros)
  refine Ys fun o=>?_
  exact ⟨rfl,o.sub⟩
 rw [if_neg h2]
 refine Yf (by simpa using h2) ?_
 by_cases h4:n<0
 ·rw [if_pos (.inl h4)]
  refine Yb (Yt (by simpa using h4) ?_)
  refine Ys fun o=>(?_:Tr _ _ _ _) o;refine Je ?_
  refine Yt rfl ?_
  (refine Ja ?_;unhygienic intros)
  refine Ys fun o=>?_
  exact ⟨rfl,o.sub⟩
 refine Yb (Yf (by simpa using h4) ?_)
 refine Ys fun o=>(?_:Tr _ _ _ _) o;refine Je ?_
 by_cases h5:n>32
 ·rw [if_pos (.inr h5)]
  refine Yt (by simpa using h5) ?_
  (refine Ja ?_;unhygienic intros)
  refine Ys fun o=>?_
  exact ⟨rfl,o.sub⟩
 rw [if_neg (fun h=>h.elim h4 h5)]
 refine Yf (by simpa using h5) ?_
 (refine Ja ?_;unhygienic intros)
 refine Yf (by simpa using h3) ?_
 (refine Ja ?_;unhygienic intros)
 refine Ys fun o=>?_
 exact ⟨rfl,o.sub⟩
structure RdS where
 bs:List UInt8
 e:Int
 blk:Bool
def Bz9 (V:VW) (i fd n:Int):RdS × VW :=
 if (Ai7 V i fd n).2≠0∨n=0 then (⟨[],(Ai7 V i fd n).2,false⟩,V)
 else if (V.P (Ai7 V i fd n).1.pipe).2≠1 then (⟨[],105,false⟩,V)
 else if (V.P (Ai7 V i fd n).1.pipe).1.count=0 then
  if (Ai7 V i fd n).1.kind=1∧(V.P (Ai7 V i fd n).1.pipe).1.writers=0 then (⟨[],0,false⟩,V)
  else if (Ai7 V i fd n).1.flags=1 then (⟨[],111,false⟩,V) else (⟨[],0,true⟩,V)
 else (⟨(J6 (V.P (Ai7 V i fd n).1.pipe).1).take (min n.toNat (V.P (Ai7 V i fd n).1.pipe).1.count.toNat),0,false⟩,
  wP V (Ai7 V i fd n).1.pipe (A24 (V.P (Ai7 V i fd n).1.pipe).1 (min n.toNat (V.P (Ai7 V i fd n).1.pipe).1.count.toNat)))
theorem E72 {p:PipeS} (h:okP p=true) {m:Nat} (hm:m≤p.count.toNat):okP (A24 p m)=true:=by
 have:=Aj4 h
 unfold A24
 split
 ·simp only [okP,Bool.and_eq_true,decide_eq_true_eq];omega
 ·exact h
theorem G50 (c k:Nat) (F:Fr) (X:CX) (ok:FrOk F) (V:VW) (A:See X V) (i fd n:Int) (hi:0≤i∧i<8) (h3:(ofW V i fd).1.2.kind≠3) (hp:(Ai7 V i fd n).2=0→0≤(Ai7 V i fd n).1.pipe∧(Ai7 V i fd n).1.pipe<6) :
  Ct A9 Ab7 [P0 c,int i,int fd,int n] [cmC c k F X] fun v own=>∃ a cap X',See X' (Bz9 V i fd n).2∧vT X'=vT X ∧
   v=.agg ⟨[int (Bz9 V i fd n).1.bs.length,int (Bz9 V i fd n).1.e,.slice a (Bz9 V i fd n).1.bs.length cap,.bool (Bz9 V i fd n).1.blk]⟩ ∧
   own [cmC c k F X',slC false A5 1 a (Bz9 V i fd n).1.bs.length cap (A0 (Bz9 V i fd n).1.bs)]:=by
 have nil:∀ {h:NN.H} {r:List HP},Own h (cmC c k F X::r)→Own h (cmC c k F X::slC false A5 1 none 0 0 (A0 [])::r):=fun o=>(o.slNil false A5 (by omega)).perm (List.Perm.swap _ _ _)
 have hk3:(Ai7 V i fd n).2=0→(Ai7 V i fd n).1.kind≠3:=by
  intro h;unfold Ai7 at h ⊢;repeat' split
  all_goals exact h3
 have hn:(Ai7 V i fd n).2=0→0≤n∧n≤32:=by
  intro h;unfold Ai7 at h
  split at h
  ·rename_i h1;exact absurd h h1
  ·split at h
   ·cases h
   ·split at h
    ·cases h
    ·omega
 unfold Bz9
 refine Ct.of Eq0 rfl fun h r=>Tr.eq (Ex3 ..) ?_;refine Je ?_
 refine Yn fun b0 h=>?_
 refine Yc (It5 c k F X ok V A i fd n hi h3) ?_;rintro _ h ⟨rfl,o⟩<;>refine Jh o ?_
 generalize (Ai7 V i fd n).1=x at *
 generalize (Ai7 V i fd n).2=e at *
 (refine Jc ?_;unhygienic intros)
 refine Yn fun b1 h=>?_
 (refine Jb ?_;unhygienic intros)
 by_cases h1:e≠0∨n=0
 ·rw [if_pos h1]
  have hg:∀ {h:NN.H} {r:List HP},Tr (pt b1 (.cells D7 false (Ae0 x))::cmC c k F X::pt b0 (.cells E4 false (N4 0 0 false))::r) h (bnd (A9 H9 [int e] h) fun r_3 hv_5=>aAgg r_3 fun x_2=>ck (List.length x_2=4) (pAgg ⟨b0,0,none⟩ x_2 hv_5 fun hv_6=>gAgg ⟨b0,0,none⟩ 4 hv_6 fun x_3=>some (Value.agg ⟨x_3⟩,hv_6)))
   fun (v:Value) h'=>∃ a cap X',See X' V∧vT X'=vT X∧v=.agg ⟨[int 0,int e,.slice a 0 cap,.bool false]⟩∧Own h' (cmC c k F X'::slC false A5 1 a 0 cap (A0 [])::r):=by
   intro h r
   refine Yc (Au2 e) ?_;rintro _ h ⟨rfl,o⟩<;>(refine Jf o ?_;unhygienic intros)
   refine Ys fun o=>?_
   exact ⟨none,0,X,A,rfl,rfl,nil o.sub⟩
  by_cases h2:e=0
  ·refine Yb (Yf (by simpa using h2) ?_)
   refine Ys fun o=>(?_:Tr _ _ _ _) o;refine Je ?_
   refine Yt (by simpa using h1.resolve_left (by simpa using h2)) ?_
   exact hg
  ·refine Yb (Yt (by simpa using h2) ?_)
   refine Ys fun o=>(?_:Tr _ _ _ _) o;refine Je ?_
   refine Yt rfl ?_
   exact hg
 rw [if_neg h1]
 have h2:e=0:=Classical.byContradiction fun h=>h1 (.inl h)
 have h0:n≠0:=fun h=>h1 (.inr h)
 have hpx:=hp h2
 have hnn:=hn h2
 have hkk:=hk3 h2
 subst h2
 refine Yb (Yf rfl ?_)
 refine Ys fun o=>(?_:Tr _ _ _ _) o;refine Je ?_
 refine Yf (by simpa using h0) ?_
 (refine Ja ?_;unhygienic intros)
 refine Yc (H86 c k F X ok A.c x hkk (by omega)) ?_
 rintro _ h ⟨b,b2,rfl,o⟩
 refine Jh o ?_
 have hvp:=A.p x.pipe hpx
 rw [hvp]
 have hq:(V.P x.pipe).2=1→okP (V.P x.pipe).1=true:=fun h=>by
  rcases Ii8 A.c (i:=x.pipe) (by omega) with ⟨h6,_⟩|⟨_,h6⟩
  ·rw [hvp,h] at h6;cases h6
  ·rw [hvp] at h6;exact h6
 generalize hqq:(V.P x.pipe).1=q at *
 generalize (V.P x.pipe).2=st at *
 (refine Jc ?_;unhygienic intros)
 refine Yn fun b3 h=>?_
 (refine Jb ?_;unhygienic intros)
 by_cases h5:st=1
 case neg =>
  rw [if_pos h5]
  refine Yt (by simpa using h5) ?_
  refine Yc (Au2 105) ?_;rintro _ h ⟨rfl,o⟩<;>(refine Jf o ?_;unhygienic intros)
  refine Ys fun o=>?_
  exact ⟨none,0,X,A,rfl,rfl,nil o.sub⟩
 have n5:¬ st≠1:=by simpa using h5
 rw [if_neg n5]
 refine Yf (by simpa using h5) ?_
 replace hq:=hq h5
 obtain ⟨r1,r2,r3,r4⟩:=Aj4 hq
 (refine Jb ?_;unhygienic intros)
 by_cases h6:q.count=0
 ·rw [if_pos h6]
  refine Yb (Yt (by simpa using h6) ?_)
  (refine Jb ?_;unhygienic intros)
  have hw:∀ {h:NN.H} {r:List HP},Tr (pt b3 (.cells By2 false (Ad4 q (Dl5 b b2)))::cmC c k F X::pt b (.cells P3 false [P0 c])::pt b2 (.cells D7 false (Ae0 x))::pt b1 (.cells D7 false (Ae0 x))::pt b0 (.cells E4 false (N4 0 0 false))::r) h
    (gAgg ⟨b1,0,none⟩ 4 h fun x_14=>bnd (A9 Aw6 [.agg ⟨x_14⟩] h) fun r_8 hv_15=>aAgg r_8 fun x_15=>ck (List.length x_15=4) (pAgg ⟨b0,0,none⟩ x_15 hv_15 fun hv_16=>gAgg ⟨b0,0,none⟩ 4 hv_16 fun x_16=>some (Value.agg ⟨x_16⟩,hv_16)))
    fun (v:Value) h'=>∃ a cap X',See X' (if x.flags=1 then ((⟨[],111,false⟩:RdS),V) else (⟨[],0,true⟩,V)).2∧vT X'=vT X∧v=.agg ⟨[int (if x.flags=1 then ((⟨[],111,false⟩:RdS),V) else (⟨[],0,true⟩,V)).1.bs.length,int (if x.flags=1 then ((⟨[],111,false⟩:RdS),V) else (⟨[],0,true⟩,V)).1.e,.slice a (if x.flags=1 then ((⟨[],111,false⟩:RdS),V) else (⟨[],0,true⟩,V)).1.bs.length cap,.bool (if x.flags=1 then ((⟨[],111,false⟩:RdS),V) else (⟨[],0,true⟩,V)).1.blk]⟩∧Own h' (cmC c k F X'::slC false A5 1 a (if x.flags=1 then ((⟨[],111,false⟩:RdS),V) else (⟨[],0,true⟩,V)).1.bs.length cap (A0 (if x.flags=1 then ((⟨[],111,false⟩:RdS),V) else (⟨[],0,true⟩,V)).1.bs)::r):=by
   intro h r
   (refine Ja ?_;unhygienic intros)
   refine Yc (Ef9 x) ?_;rintro _ h ⟨rfl,o⟩<;>refine Jh o ?_
   by_cases h7:x.flags=1
   ·rw [if_pos h7]
    (refine Ja ?_;unhygienic intros)
    refine Ys fun o=>?_
    rw [if_pos h7]
    exact ⟨none,0,X,A,rfl,rfl,nil o.sub⟩
   ·rw [if_neg h7]
    (refine Ja ?_;unhygienic intros)
    refine Ys fun o=>?_
    rw [if_neg h7]
    exact ⟨none,0,X,A,rfl,rfl,nil o.sub⟩
  by_cases h8:x.kind=1
  ·by_cases h9:q.writers=0
   ·rw [if_pos ⟨h8,h9⟩]
    refine Ys fun o=>(?_:Tr _ _ _ _) o;refine Je ?_
    refine Yb (Yt (by simpa using h8) ?_)
    (refine Jb ?_;unhygienic intros)
    refine Ys fun o=>(?_:Tr _ _ _ _) o;refine Je ?_
    refine Yt (by simpa using h9) ?_
    (refine Ja ?_;unhygienic intros)
    refine Ys fun o=>?_
    exact ⟨none,0,X,A,rfl,rfl,nil o.sub⟩
   ·rw [if_neg (fun h=>h9 h.2)]
    refine Ys fun o=>(?_:Tr _ _ _ _) o;refine Je ?_
    refine Yb (Yt (by simpa using h8) ?_)
    (refine Jb ?_;unhygienic intros)
    refine Ys fun o=>(?_:Tr _ _ _ _) o;refine Je ?_
    refine Yf (by simpa using h9) ?_
    (refine Jb ?_;unhygienic intros)
    refine Yt (by simpa using h6) ?_
    exact hw
  ·rw [if_neg (fun h=>h8 h.1)]
   refine Ys fun o=>(?_:Tr _ _ _ _) o;refine Je ?_
   refine Yb (Yf (by simpa using h8) ?_)
   refine Ys fun o=>(?_:Tr _ _ _ _) o;refine Je ?_
   refine Yf rfl ?_
   (refine Jb ?_;unhygienic intros)
   refine Yt (by simpa using h6) ?_
   exact hw
 rw [if_neg h6]
 refine Yb (Yf (by simpa using h6) ?_)
 refine Ys fun o=>(?_:Tr _ _ _ _) o;refine Je ?_
 refine Yb (Yf rfl ?_)
 refine Ys fun o=>(?_:Tr _ _ _ _) o;refine Je ?_
 refine Yf rfl ?_
 (refine Jb ?_;unhygienic intros)
 refine Yf (by simpa using h6) ?_
 (refine Ja ?_;unhygienic intros)
 refine Yc (G36 q hq n hnn) ?_
 rintro _ h ⟨a,cap,rfl,o⟩
 refine Jh o ?_
 have hm:min n.toNat q.count.toNat≤q.count.toNat:=by omega
 have hlen:((J6 q).take (min n.toNat q.count.toNat)).length=min n.toNat q.count.toNat:=by
  rw [List.length_take,B32];omega
 rw [hlen]
 have hok:=E72 hq hm
 generalize min n.toNat q.count.toNat=m at *
 obtain ⟨w1,_⟩:=A50 A.c (i:=x.pipe) (by omega) hok
 have hwp:=A.wp hpx hok
 have hvt:=Gn1 A.c (i:=x.pipe) (by omega) hok
 generalize A24 q m=q2 at *
 have hfv:(Ad4 q (Dl5 b b2))[36]?=some (Dl5 b b2):=by
  unfold Ad4;rw [List.getElem?_append_right (by rw [W2 q.len];exact Nat.le_refl _),W2 q.len];rfl
 (refine Jc ?_;unhygienic intros)
 refine Yn fun b4 h=>?_
 (refine Ja ?_;unhygienic intros)
 simp only [List.nil_append]
 refine Yc (Gp0 c k b b2 F X ok x q2) ?_;rintro _ h ⟨rfl,o⟩<;>refine Jh o ?_
 rw [w1]
 dsimp only
 (refine Ja ?_;unhygienic intros)
 refine Ys fun o=>?_
 exact ⟨a,cap,A63 X x.pipe q2,hwp,hvt,rfl,o.sub⟩
structure WrS where
 n:Int
 e:Int
 blk:Bool
def Ev2 (V:VW) (i fd:Int) (l:List UInt8):WrS × VW :=
 if (ofW V i fd).2≠0 then (⟨0,(ofW V i fd).2,false⟩,V)
 else if (ofW V i fd).1.2.kind≠2 then (⟨0,109,false⟩,V)
 else if l.length>32 then (⟨0,122,false⟩,V)
 else if l.length=0 then (⟨0,0,false⟩,V)
 else if (V.P (ofW V i fd).1.2.pipe).2≠1 then (⟨0,105,false⟩,V)
 else if 32-(V.P (ofW V i fd).1.2.pipe).1.count=0∨l.length≤8∧32-(V.P (ofW V i fd).1.2.pipe).1.count<l.length then
  if (ofW V i fd).1.2.flags=1 then (⟨0,111,false⟩,V) else (⟨0,0,true⟩,V)
 else (⟨(I6 (V.P (ofW V i fd).1.2.pipe).1 l).2,0,false⟩,wP V (ofW V i fd).1.2.pipe (I6 (V.P (ofW V i fd).1.2.pipe).1 l).1)
theorem B85:∀ (l:List UInt8) (p:PipeS),okP p=true→okP (I6 p l).1=true
 | [],p,h=>h
 | b::l,p,h=>by
  unfold I6
  split
  ·exact h
  ·rename_i hc;exact B85 l _ (Gb3 h hc b)
abbrev wrL (w:WrS):List Value:=N4 w.n w.e w.blk
theorem H68 (c k:Nat) (F:Fr) (X:CX) (ok:FrOk F) (V:VW) (A:See X V) (i fd:Int) (hi:0≤i∧i<8) (hp:(ofW V i fd).2=0→(ofW V i fd).1.2.kind=2→0≤(ofW V i fd).1.2.pipe∧(ofW V i fd).1.2.pipe<6∧(V.P (ofW V i fd).1.2.pipe).1.readers≠0)
  (pb:HP) (a:Option Addr) (ro:Bool) (cc:Nat) (l:List UInt8) (hl:l.length≤B1) [ks:IsSl pb a ro A5 1 l.length cc (A0 l)] :
  Ct A9 Bt4 [P0 c,int i,int fd,.slice a l.length cc] [cmC c k F X,pb] fun v own=>∃ X',See X' (Ev2 V i fd l).2∧vT X'=vT X∧v=.agg ⟨wrL (Ev2 V i fd l).1⟩∧own [cmC c k F X',pb]:=by
 have eo:=A.ofv hi fd
 unfold Ev2
 refine Ct.of G00 rfl fun h r=>Tr.eq (Gx1 ..) ?_;refine Je ?_
 refine Yn fun b0 h=>?_
 refine Yc (Hu3 c k F X ok A.c i fd hi) ?_;rintro _ h ⟨rfl,o⟩<;>refine Jh o ?_
 rw [eo]
 (refine Jc ?_;unhygienic intros)
 refine Yn fun b1 h=>?_
 (refine Jb ?_;unhygienic intros)
 generalize (ofW V i fd).1.2=x at *
 generalize (ofW V i fd).2=e at *
 by_cases h1:e=0
 case neg =>
  rw [if_pos h1]
  refine Yt (by simpa using h1) ?_
  refine Yc (Au2 e) ?_;rintro _ h ⟨rfl,o⟩<;>(refine Jf o ?_;unhygienic intros)
  refine Ys fun o=>?_
  exact ⟨X,A,rfl,rfl,o.sub⟩
 have n1:¬ e≠0:=by simpa using h1
 rw [if_neg n1]
 refine Yf (by simpa using h1) ?_
 (refine Jb ?_;unhygienic intros)
 by_cases h2:x.kind=2
 case neg =>
  rw [if_pos h2]
  refine Yt (by simpa using h2) ?_
  refine Yc (Au2 109) ?_;rintro _ h ⟨rfl,o⟩<;>(refine Jf o ?_;unhygienic intros)
  refine Ys fun o=>?_
  exact ⟨X,A,rfl,rfl,o.sub⟩
 have n2:¬ x.kind≠2:=by simpa using h2
 rw [if_neg n2]
 refine Yf (by simpa using h2) ?_
 obtain ⟨hp0,hp6,hrd⟩:=hp h1 h2
 by_cases h3:l.length>32
 ·rw [if_pos h3]
  refine Yt (by rw [decide_eq_true_iff];omega) ?_
  refine Yc (Au2 122) ?_;rintro _ h ⟨rfl,o⟩<;>(refine Jf o ?_;unhygienic intros)
  refine Ys fun o=>?_
  exact ⟨X,A,rfl,rfl,o.sub⟩
 rw [if_neg h3]
 refine Yf (by rw [decide_eq_false_iff_not];omega) ?_
 by_cases h4:l.length=0
 ·rw [if_pos h4]
  refine Yt (by rw [beq_iff_eq];omega) ?_
  (refine Ja ?_;unhygienic intros)
  refine Ys fun o=>?_
  exact ⟨X,A,rfl,rfl,o.sub⟩
 rw [if_neg h4]
 refine Yf (by rw [beq_eq_false_iff_ne];omega) ?_
 (refine Ja ?_;unhygienic intros)
 refine Yc (H86 c k F X ok A.c x (by omega) (by omega)) ?_
 rintro _ h ⟨b,b2,rfl,o⟩
 refine Jh o ?_
 have hvp:=A.p x.pipe ⟨hp0,hp6⟩
 rw [hvp]
 have hq:(V.P x.pipe).2=1→okP (V.P x.pipe).1=true:=fun h=>by
  rcases Ii8 A.c (i:=x.pipe) (by omega) with ⟨h6,_⟩|⟨_,h6⟩
  ·rw [hvp,h] at h6;cases h6
  ·rw [hvp] at h6;exact h6
 generalize hqq:(V.P x.pipe).1=q at *
 generalize (V.P x.pipe).2=st at *
 (refine Jc ?_;unhygienic intros)
 refine Yn fun b3 h=>?_
 (refine Jb ?_;unhygienic intros)
 by_cases h5:st=1
 case neg =>
  rw [if_pos h5]
  refine Yt (by simpa using h5) ?_
  refine Yc (Au2 105) ?_;rintro _ h ⟨rfl,o⟩<;>(refine Jf o ?_;unhygienic intros)
  refine Ys fun o=>?_
  exact ⟨X,A,rfl,rfl,o.sub⟩
 have n5:¬ st≠1:=by simpa using h5
 rw [if_neg n5]
 refine Yf (by simpa using h5) ?_
 replace hq:=hq h5
 obtain ⟨r1,r2,r3,r4⟩:=Aj4 hq
 have e1:IntKind.wrap .i64 (32-q.count)=32-q.count:=by rw [B0];omega
 (refine Jb ?_;unhygienic intros)
 refine Yf (by simpa using hrd) ?_
 (refine Jb ?_;unhygienic intros)
 rw [e1]
 by_cases a1:32-q.count=0
 ·rw [if_pos (.inl a1)]
  refine Yb (Yt (by rw [beq_iff_eq];exact a1) ?_)
  refine Ys fun o=>(?_:Tr _ _ _ _) o;refine Je ?_
  refine Yt rfl ?_
  (refine Ja ?_;unhygienic intros)
  refine Yc (Ef9 x) ?_;rintro _ h ⟨rfl,o⟩<;>refine Jh o ?_
  by_cases h7:x.flags=1
  ·rw [if_pos h7,if_pos h7]
   (refine Ja ?_;unhygienic intros)
   refine Ys fun o=>?_
   exact ⟨X,A,rfl,rfl,o.sub⟩
  ·rw [if_neg h7,if_neg h7]
   (refine Ja ?_;unhygienic intros)
   refine Ys fun o=>?_
   exact ⟨X,A,rfl,rfl,o.sub⟩
 refine Yb (Yf (by rw [beq_eq_false_iff_ne];exact a1) ?_)
 by_cases a2:l.length≤8
 ·by_cases a3:32-q.count<l.length
  ·rw [if_pos (.inr ⟨a2,a3⟩)]
   refine Yb (Yt (by rw [decide_eq_true_iff];omega) ?_)
   refine Ys fun o=>(?_:Tr _ _ _ _) o;refine Je ?_
   refine Ys fun o=>(?_:Tr _ _ _ _) o;refine Je ?_
   refine Yt (by rw [decide_eq_true_iff];exact a3) ?_
   (refine Ja ?_;unhygienic intros)
   refine Yc (Ef9 x) ?_;rintro _ h ⟨rfl,o⟩<;>refine Jh o ?_
   by_cases h7:x.flags=1
   ·rw [if_pos h7,if_pos h7]
    (refine Ja ?_;unhygienic intros)
    refine Ys fun o=>?_
    exact ⟨X,A,rfl,rfl,o.sub⟩
   ·rw [if_neg h7,if_neg h7]
    (refine Ja ?_;unhygienic intros)
    refine Ys fun o=>?_
    exact ⟨X,A,rfl,rfl,o.sub⟩
  ·rw [if_neg (fun h=>h.elim a1 fun h=>a3 h.2)]
   refine Yb (Yt (by rw [decide_eq_true_iff];omega) ?_)
   refine Ys fun o=>(?_:Tr _ _ _ _) o;refine Je ?_
   refine Ys fun o=>(?_:Tr _ _ _ _) o;refine Je ?_
   refine Yf (by rw [decide_eq_false_iff_not];exact a3) ?_
   (refine Ja ?_;unhygienic intros)
   refine Yc (Go6 q hq pb a ro cc l (by omega)) ?_;rintro _ h ⟨rfl,o⟩<;>refine Jh o ?_
   have hok:=B85 l q hq
   obtain ⟨w1,_⟩:=A50 A.c (i:=x.pipe) (by omega) hok
   have hwp:=A.wp ⟨hp0,hp6⟩ hok
   have hvt:=Gn1 A.c (i:=x.pipe) (by omega) hok
   generalize (I6 q l).1=q2 at *
   have hfv:(Ad4 q (Dl5 b b2))[36]?=some (Dl5 b b2):=by
    unfold Ad4;rw [List.getElem?_append_right (by rw [W2 q.len];exact Nat.le_refl _),W2 q.len];rfl
   (refine Jc ?_;unhygienic intros)
   refine Yn fun b4 h=>?_
   (refine Ja ?_;unhygienic intros)
   simp only [List.nil_append]
   refine Yc (Gp0 c k b b2 F X ok x q2) ?_;rintro _ h ⟨rfl,o⟩<;>refine Jh o ?_
   rw [w1]
   dsimp only
   (refine Ja ?_;unhygienic intros)
   refine Ys fun o=>?_
   exact ⟨A63 X x.pipe q2,hwp,hvt,rfl,o.sub⟩
 ·rw [if_neg (fun h=>h.elim a1 fun h=>a2 h.1)]
  refine Yb (Yf (by rw [decide_eq_false_iff_not];omega) ?_)
  refine Ys fun o=>(?_:Tr _ _ _ _) o;refine Je ?_
  refine Ys fun o=>(?_:Tr _ _ _ _) o;refine Je ?_
  refine Yf rfl ?_
  (refine Ja ?_;unhygienic intros)
  refine Yc (Go6 q hq pb a ro cc l (by omega)) ?_;rintro _ h ⟨rfl,o⟩<;>refine Jh o ?_
  have hok:=B85 l q hq
  obtain ⟨w1,_⟩:=A50 A.c (i:=x.pipe) (by omega) hok
  have hwp:=A.wp ⟨hp0,hp6⟩ hok
  have hvt:=Gn1 A.c (i:=x.pipe) (by omega) hok
  generalize (I6 q l).1=q2 at *
  have hfv:(Ad4 q (Dl5 b b2))[36]?=some (Dl5 b b2):=by
   unfold Ad4;rw [List.getElem?_append_right (by rw [W2 q.len];exact Nat.le_refl _),W2 q.len];rfl
  (refine Jc ?_;unhygienic intros)
  refine Yn fun b4 h=>?_
  (refine Ja ?_;unhygienic intros)
  simp only [List.nil_append]
  refine Yc (Gp0 c k b b2 F X ok x q2) ?_;rintro _ h ⟨rfl,o⟩<;>refine Jh o ?_
  rw [w1]
  dsimp only
  (refine Ja ?_;unhygienic intros)
  refine Ys fun o=>?_
  exact ⟨A63 X x.pipe q2,hwp,hvt,rfl,o.sub⟩
theorem Gw4 (l:List UInt8) (j n:Nat) (x:UInt8) (h:j<l.length):(l.set j x).getD n 0=if n=j then x else l.getD n 0:=by
 rw [List.getD_eq_getElem?_getD,List.getD_eq_getElem?_getD,List.getElem?_set]
 by_cases hj:j=n
 ·subst hj;simp [h]
 ·rw [if_neg hj,if_neg (fun e=>hj e.symm)]
theorem Hs1 {p:PipeS} (hp:okP p=true) (hc:p.count≠32) (b:UInt8):J6 (Au7 p b)=J6 p++[b]:=by
 obtain ⟨r1,r2,r3,r4⟩:=Aj4 hp
 have hl:=p.len
 have hj:((p.head+p.count)%32).toNat<p.data.length:=by rw [hl];omega
 have e:(Au7 p b).count.toNat=p.count.toNat+1:=by show (p.count+1).toNat=_;omega
 unfold J6
 rw [e]
 unfold bytesN
 rw [List.range_succ,List.map_append]
 congr 1
 ·refine List.map_congr_left fun j hj2=>?_
  have:=List.mem_range.1 hj2
  show (p.data.set _ b).getD (((p.head+j)%32).toNat) 0=_
  rw [Gw4 _ _ _ _ hj,if_neg (by omega)]
 ·show [(p.data.set _ b).getD (((p.head+(p.count.toNat:Nat))%32).toNat) 0]=[b]
  rw [Gw4 _ _ _ _ hj,if_pos (by rw [show ((p.count.toNat:Nat):Int)=p.count by omega])]
theorem Gv3:∀ (l:List UInt8) (p:PipeS),okP p=true→(I6 p l).2=min (l.length:Int) (32-p.count)∧(I6 p l).1.count=p.count+(I6 p l).2∧J6 (I6 p l).1=J6 p++l.take (I6 p l).2.toNat∧(I6 p l).1.readers=p.readers∧(I6 p l).1.writers=p.writers
 | [],p,h=>by
  have:=Aj4 h
  refine ⟨by show (0:Int)=min ((([]:List UInt8).length:Nat):Int) (32-p.count);rw [List.length_nil];omega,by simp [I6],by simp [I6],rfl,rfl⟩
 | b::l,p,h=>by
  have hr:=Aj4 h
  unfold I6
  by_cases hc:p.count=32
  ·rw [if_pos hc]
   refine ⟨by simp;omega,by simp,by simp,rfl,rfl⟩
  ·rw [if_neg hc]
   obtain ⟨h1,h2,h3,h4,h5⟩:=Gv3 l (Au7 p b) (Gb3 h hc b)
   have hn:=Gt4 l (Au7 p b)
   have hk:(Au7 p b).count=p.count+1:=rfl
   refine ⟨?_,?_,?_,h4,h5⟩
   ·show (I6 (Au7 p b) l).2+1=_
    rw [h1,hk,List.length_cons];omega
   ·show (I6 (Au7 p b) l).1.count=p.count+((I6 (Au7 p b) l).2+1)
    rw [h2,hk];omega
   ·show J6 (I6 (Au7 p b) l).1=J6 p++(b::l).take ((I6 (Au7 p b) l).2+1).toNat
    rw [h3,Hs1 h hc,show ((I6 (Au7 p b) l).2+1).toNat=(I6 (Au7 p b) l).2.toNat+1 by omega,List.take_succ_cons]
    simp
theorem Hx2 {p:PipeS} (hp:okP p=true) {m:Nat} (hm:m≤p.count.toNat):J6 (A24 p m)=(J6 p).drop m∧(A24 p m).count=p.count-m∧(A24 p m).readers=p.readers∧(A24 p m).writers=p.writers:=by
 obtain ⟨r1,r2,r3,r4⟩:=Aj4 hp
 by_cases h0:0<m
 case neg =>
  obtain rfl:m=0:=by omega
  rw [show A24 p 0=p from if_neg h0]
  exact ⟨by simp,by simp,rfl,rfl⟩
 rw [show A24 p m=⟨(p.head+m)%32,p.count-m,p.readers,p.writers,p.data,p.len⟩ from if_pos h0]
 refine ⟨?_,rfl,rfl,rfl⟩
 unfold J6 bytesN
 dsimp only
 rw [← List.map_drop,List.range_eq_range' ,List.range_eq_range',List.drop_range',Nat.mul_one,Nat.zero_add]
 rw [show (p.count-(m:Int)).toNat=p.count.toNat-m by omega]
 rw [show List.range' m (p.count.toNat-m)=(List.range' 0 (p.count.toNat-m)).map fun j=>m+j by rw [List.map_add_range'];rfl]
 rw [List.map_map]
 refine List.map_congr_left fun j hj=>?_
 show p.data.getD ((((p.head+m)%32+j)%32).toNat) 0=p.data.getD (((p.head+((m+j:Nat):Int))%32).toNat) 0
 congr 1
 omega
theorem E37 (c k:Nat) (F:Fr) (X:CX) (ok:FrOk F) (p:PipeS):Ct A9 J9 [P0 c,.agg ⟨E6 p⟩] [cmC c k F X] fun v own=>v=.bool (B80 X p).1∧own [cmC c k F (B80 X p).2]:=by
 refine Ct.of Dl3 rfl fun h r=>Tr.eq (Dj9 ..) ?_;refine Je ?_
 (refine Ja ?_;unhygienic intros)
 refine Yc (Eb1 p) ?_
 rintro v h (⟨hk,a,rfl,o⟩|⟨hk,rfl,o⟩)
 ·refine (?_:Tr _ _ _ _) o
  refine Je ?_
  (refine Ja ?_;unhygienic intros)
  have J:=Bx2 c k F X ⟨4,0⟩ ok (I1 p) true a 40 (fun _=>As9 p.len)
  rw [As9 p.len] at J
  refine Yc (J) ?_;rintro _ h ⟨rfl,o⟩<;>(refine Jf o ?_;unhygienic intros)
  refine Ys fun o=>?_
  unfold B80;rw [hk]
  exact ⟨rfl,o.sub⟩
 ·refine (?_:Tr _ _ _ _) o
  refine Je ?_
  (refine Ja ?_;unhygienic intros)
  refine Yc (Bz8 c k F X ⟨4,0⟩ ok) ?_;rintro _ h ⟨rfl,o⟩<;>(refine Jf o ?_;unhygienic intros)
  refine Ys fun o=>?_
  unfold B80;rw [hk,D72]
  exact ⟨rfl,o.sub⟩
theorem Ij9 {nc:Nat} {X:CX} (c:Clean nc X):((vT X).2=0∧(vT X).1=.zero)∨((vT X).2=1∧okP (vT X).1=true):=by
 have:=c.ok ⟨4,0⟩ (by simp) (by simp) (by simp) (by simp [V0])
 have hk:(vT X).2≠2:=this
 unfold vT N9 at hk ⊢
 split
 ·exact .inl ⟨rfl,rfl⟩
 ·split
  ·rename_i h2
   unfold isP at h2
   simp only [Bool.and_eq_true] at h2
   exact .inr ⟨rfl,h2.1⟩
  ·rename_i h1 h2;simp [h1,h2] at hk
theorem E61 {nc:Nat} {X:CX} (c:Clean nc X):Eb2 X=(vT X,X):=Bj2 N9 .zero c Do5 rfl
abbrev setT (X:CX) (p:PipeS):CX:=Bo5 X ⟨4,0⟩ (I1 p)
theorem D74 {nc:Nat} {X:CX} (c:Clean nc X) {p:PipeS} (ok:okP p=true):B80 X p=(true,setT X p):=by
 unfold B80;rw [ok];exact Bh3 c Do5 _
theorem Hg1 (c k:Nat) (F:Fr) (X:CX) (ok:FrOk F) {nc:Nat} (cl:Clean nc X) (ht:(vT X).2=1) (pb:HP) (a:Option Addr) (ro:Bool) (cc:Nat) (l:List UInt8) (hl:l.length≤1000) [ks:IsSl pb a ro A5 1 l.length cc (A0 l)] :
  Ct A9 Bj6 [P0 c,.slice a l.length cc] [cmC c k F X,pb] fun v own=>v=int (I6 (vT X).1 l).2∧own [cmC c k F (setT X (I6 (vT X).1 l).1),pb]:=by
 have hq:okP (vT X).1=true:=by
  rcases Ij9 cl with ⟨h,_⟩|⟨_,h⟩
  ·rw [ht] at h;cases h
  ·exact h
 have hw:=D74 cl (B85 l _ hq)
 refine Ct.of G92 rfl fun h r=>Tr.eq (Hd4 ..) ?_;refine Je ?_
 refine Yc (Hq0 c k F X ok) ?_;rintro _ h ⟨rfl,o⟩<;>refine Jh o ?_
 rw [Gi9 cl]
 (refine Ja ?_;unhygienic intros)
 refine Yc (Gc7 c k F X ok) ?_;rintro _ h ⟨rfl,o⟩<;>refine Jh o ?_
 rw [E61 cl]
 dsimp only
 rw [ht]
 generalize (vT X).1=q at *
 (refine Jc ?_;unhygienic intros)
 refine Yn fun b1 h=>?_
 (refine Jb ?_;unhygienic intros)
 refine Yf rfl ?_
 (refine Jb ?_;unhygienic intros)
 refine Yc (Go6 q hq pb a ro cc l hl) ?_;rintro _ h ⟨rfl,o⟩<;>refine Jh o ?_
 generalize (I6 q l).1=q2 at *
 (refine Jc ?_;unhygienic intros)
 refine Yn fun b2 h=>?_
 (refine Jb ?_;unhygienic intros)
 refine Yc (E37 c k F X ok q2) ?_;rintro _ h ⟨rfl,o⟩<;>refine Jh o ?_
 rw [hw]
 dsimp only
 (refine Jb ?_;unhygienic intros)
 refine Ys fun o=>?_
 exact ⟨rfl,o.sub⟩
theorem of2:ofW VD 0 2=((2,⟨2,0,1,0⟩),0):=by kernel_rfl
theorem vTD:(vT XD).2=1∧(vT XD).1.count=0:=⟨by kernel_rfl,by kernel_rfl⟩
def VA1:VW:=(Ev2 VD 0 2 [7,8,9]).2
def VA2:VW:=(Bz9 VA1 0 1 8).2
theorem aw1:(Ev2 VD 0 2 [7,8,9]).1=⟨3,0,false⟩:=by kernel_rfl
theorem aw2:(Bz9 VA1 0 1 8).1=⟨[7,8,9],0,false⟩:=by kernel_rfl
theorem aw3:(Bz9 VA2 0 1 8).1=⟨[],0,true⟩:=by kernel_rfl
theorem Eg8:Ct A9 Aw0 [] [] fun v own=>v=.bool true∧own []:=by
 refine Ct.of Gz1 rfl fun h r=>Tr.eq (Gz7 ..) ?_;refine Je ?_
 refine Yc (G49) ?_;rintro _ h ⟨a,rfl,o⟩<;>refine Jh o ?_
 (refine Ja ?_;unhygienic intros)
 refine Yc (Hq5 a) ?_
 rintro _ h ⟨k,c,w,m,K',rfl,o⟩
 refine Jh o ?_
 (refine Ja ?_;unhygienic intros)
 refine Yc (If1 c k F1 X1 Au4 E97 0 (by omega)) ?_;rintro _ h ⟨rfl,o⟩<;>refine Jh o ?_
 rw [It1,show (Bd6 X1 0).2=XD from rfl]
 (refine Jc ?_;unhygienic intros)
 refine Yn fun b0 h=>?_
 refine Aj7 0 rfl 1 3 rfl (by omega) ?_
 have J:=H68 c k F1 XD Au4 VD Iw3 0 2 (by omega) (fun _ _=>by rw [of2];exact ⟨by decide,by decide,by rw [show (VD.P (⟨2,0,1,0⟩:FileS).pipe).1.readers=1 by kernel_rfl];decide⟩) (slC false A5 1 (some ⟨b0,0,none⟩) 3 3 (A0 [7,8,9])) (some ⟨b0,0,none⟩) false 3 [7,8,9] (by simp [B1])
 rw [aw1] at J
 refine (?_:Tr (slC false A5 1 (some ⟨b0,0,none⟩) 3 3 (A0 [7,8,9])::cmC c k F1 XD::_) _ _ _)
 refine Yc J ?_
 rintro _ h ⟨XA,s1,t1,rfl,o⟩
 refine Jh o ?_
 (refine Jc ?_;unhygienic intros)
 refine Yn fun b1 h=>?_
 (refine Ja ?_;unhygienic intros)
 have o1:(ofW VA1 0 1)=((1,⟨1,0,1,0⟩),0):=by kernel_rfl
 have m1:Ai7 VA1 0 1 8=(⟨1,0,1,0⟩,0):=by kernel_rfl
 have J:=G50 c k F1 XA Au4 VA1 s1 0 1 8 (by omega) (by rw [o1];decide) (fun _=>by rw [m1];exact ⟨by decide,by decide⟩)
 rw [aw2] at J
 refine Yc J ?_
 rintro _ h ⟨a2,cap,XB,s2,t2,rfl,o⟩
 refine Jh o ?_
 (refine Jc ?_;unhygienic intros)
 refine Yn fun b2 h=>?_
 (refine Ja ?_;unhygienic intros)
 have o1:(ofW VA2 0 1)=((1,⟨1,0,1,0⟩),0):=by kernel_rfl
 have m1:Ai7 VA2 0 1 8=(⟨1,0,1,0⟩,0):=by kernel_rfl
 have J:=G50 c k F1 XB Au4 VA2 s2 0 1 8 (by omega) (by rw [o1];decide) (fun _=>by rw [m1];exact ⟨by decide,by decide⟩)
 rw [aw3] at J
 refine Yc J ?_
 rintro _ h ⟨a3,cap3,XC,s3,t3,rfl,o⟩
 refine Jh o ?_
 (refine Jc ?_;unhygienic intros)
 refine Yn fun b3 h=>?_
 (refine Jb ?_;unhygienic intros)
 refine Yb (Yt rfl ?_)
 (refine Jb ?_;unhygienic intros)
 refine Ys fun o=>(?_:Tr _ _ _ _) o;refine Je ?_
 refine Yb (Yt rfl ?_)
 (refine Jb ?_;unhygienic intros)
 refine Ys fun o=>(?_:Tr _ _ _ _) o;refine Je ?_
 refine Yb (Yt (by simp) ?_)
 (refine Jb ?_;unhygienic intros)
 refine Ys fun o=>(?_:Tr _ _ _ _) o;refine Je ?_
 refine Yb (Yt rfl ?_)
 refine Yn fun b4 h=>?_
 refine Aj7 0 rfl 1 1 rfl (by omega) ?_
 have ht:vT XC=vT XD:=t3.trans (t2.trans t1)
 have J:=Hg1 c k F1 XC Au4 s3.c (by rw [ht];exact vTD.1) (slC false A5 1 (some ⟨b4,0,none⟩) 1 1 (A0 [1])) (some ⟨b4,0,none⟩) false 1 [1] (by simp)
 have hT:(I6 (vT XD).1 [1]).2=1:=by
  unfold I6;rw [if_neg (by rw [vTD.2];decide)];rfl
 rw [ht,hT] at J
 refine (?_:Tr (slC false A5 1 (some ⟨b4,0,none⟩) 1 1 (A0 [1])::_::cmC c k F1 XC::_) _ _ _)
 refine Yc J ?_
 rintro _ h ⟨rfl,o⟩
 refine Jh o ?_
 (refine Jb ?_;unhygienic intros)
 refine Ys fun o=>(?_:Tr _ _ _ _) o;refine Je ?_
 refine Ys fun o=>?_
 exact ⟨rfl,o.sub⟩
abbrev inG (g:Int):Int→ProcS→Bool:=fun _ p=>p.state != 2 && p.group==g
abbrev B70 (X:CX) (g:Int):Bool:=decide ((An3 X (inG g) 8 0).length>0)
theorem In1 (bi:Nat) (g:Int) (j:Int) (p:ProcS):Ct A9 Bk3 [.agg ⟨int j::D5 p⟩,P0 bi] [pt bi (.cells B8 false [int g])] fun v own=>v=.bool (inG g j p)∧own [pt bi (.cells B8 false [int g])]:=by
 refine Ct.of Hf0 rfl fun h r=>Tr.eq (Hd1 ..) ?_;refine Je ?_
 refine Yn fun b h=>?_
 (refine Ja ?_;unhygienic intros)
 refine Yc (Ie0 j p) ?_;rintro _ h ⟨rfl,o⟩<;>refine Jh o ?_
 (refine Jb ?_;unhygienic intros)
 by_cases h2:p.state=2
 ·refine Yb (Yf (by simpa using h2) ?_)
  refine Ys fun o=>(?_:Tr _ _ _ _) o;refine Je ?_
  refine Ys fun o=>?_
  exact ⟨by rw [show inG g j p=false by unfold inG;simp [h2]],o.sub⟩
 ·refine Yb (Yt (by simpa using h2) ?_)
  (refine Jb ?_;unhygienic intros)
  refine Ys fun o=>(?_:Tr _ _ _ _) o;refine Je ?_
  refine Ys fun o=>?_
  exact ⟨by rw [show inG g j p=(p.group==g) by unfold inG;simp [h2]],o.sub⟩
theorem H55 (b k:Nat) (F:Fr) (X:CX) (ok:FrOk F) {nc:Nat} (c:Clean nc X) (g:Int):Ct A9 B07 [P0 b,int g] [cmC b k F X] fun v own=>v=.bool (B70 X g)∧own [cmC b k F X]:=by
 refine Ct.of Hx9 rfl fun h r=>Tr.eq (Hv2 ..) ?_;refine Je ?_
 refine Yn fun bi h=>?_
 refine Yc (If5 b k F X ok c (pt bi (.cells B8 false [int g])) Bk3 [P0 bi] (inG g) (fun j p=>In1 bi g j p)) ?_;rintro _ h ⟨a,ac,rfl,o⟩<;>refine Jh o ?_
 (refine Ja ?_;unhygienic intros)
 refine Ys fun o=>?_
 exact ⟨by rw [show decide (((An3 X (inG g) 8 0).length:Int)>0)=B70 X g from decide_eq_decide.2 (by omega)],o.sub⟩
theorem Gs1 (n:Int):Ct A9 A59 [int n] [] fun v own=>v=.bool (decide (0≤n∧n<8))∧own []:=by
 refine Ct.of Go0 rfl fun h r=>Tr.eq (Gm2 ..) ?_;refine Je ?_
 by_cases h1:0≤n
 ·refine Yb (Yt (by simpa using h1) ?_)
  refine Ys fun o=>(?_:Tr _ _ _ _) o;refine Je ?_
  refine Ys fun o=>?_
  exact ⟨by rw [decide_eq_decide.2 (show n<8↔0≤n∧n<8 by omega)],o.sub⟩
 ·refine Yb (Yf (by simpa using h1) ?_)
  refine Ys fun o=>(?_:Tr _ _ _ _) o;refine Je ?_
  refine Ys fun o=>?_
  exact ⟨by rw [decide_eq_false (show ¬ (0≤n∧n<8) by omega)],o.sub⟩
abbrev Ii6:List Value:=[int 0,int 0,int 0,int 0,int 0,int 0,int 0,int 0,int 0,int 0,int 0,int 0,int 0,int 0,int 0,int 0]
def Db9 (X:CX) (i t:Int):Int :=
 if t=i then 0 else if (vS X t).2≠1∨(vS X t).1.parent≠i+1∨(vS X t).1.state=2 then 103 else 0
theorem If4 (b k:Nat) (F:Fr) (X:CX) (ok:FrOk F) {nc:Nat} (c:Clean nc X) (i t:Int) (hi:0≤i∧i<8) (ht:0≤t∧t<8):Ct A9 By6 [P0 b,int i,int t] [cmC b k F X] fun v own=>v=.tuple ⟨[.agg ⟨D5 (vS X t).1⟩,int (Db9 X i t)]⟩∧own [cmC b k F X]:=by
 have e1:IntKind.wrap .i64 (i+1)=i+1:=by rw [B0];omega
 have hk:(vS X t).2≠2:=c.ok ⟨1,t⟩ (by simp) (by simp) ht.1 ht.2
 unfold Db9
 refine Ct.of G86 rfl fun h r=>Tr.eq (Ha8 ..) ?_;refine Je ?_
 refine Yn fun b0 h=>?_
 refine Yc (Ds6 b k F X ok t) ?_;rintro _ h ⟨rfl,o⟩<;>refine Jh o ?_
 rw [Br7 c ht]
 dsimp only
 generalize (vS X t).1=p at *
 generalize (vS X t).2=st at *
 (refine Jc ?_;unhygienic intros)
 refine Yn fun b1 h=>?_
 (refine Jb ?_;unhygienic intros)
 by_cases h1:t=i
 ·rw [if_pos h1]
  refine Yt (by simpa using h1) ?_
  (refine Ja ?_;unhygienic intros)
  refine Ys fun o=>?_
  exact ⟨rfl,o.sub⟩
 rw [if_neg h1]
 refine Yf (by simpa using h1) ?_
 refine Yf (by simpa using hk) ?_
 rw [e1]
 refine Yb fun o=>Wp.mono (Q:=fun v h'=>v=decide (st≠1∨p.parent≠i+1)∧Own h' (pt b1 (.cells D0 false (D5 p))::cmC b k F X::pt b0 (.cells D0 false Ii6)::r)) ?_ ?_
 ·refine Jh o ?_
  by_cases h2:st=1
  ·refine Yf (by simpa using h2) ?_
   (refine Jb ?_;unhygienic intros)
   refine Ys fun o=>?_
   exact ⟨by subst h2;simp [bne,Bool.beq_eq_decide_eq],o.sub⟩
  ·refine Yt (by simpa using h2) ?_
   refine Ys fun o=>?_
   exact ⟨(decide_eq_true (.inl h2)).symm,o.sub⟩
 rintro v h ⟨rfl,o⟩
 refine Jh o ?_
 refine Yb fun o=>Wp.mono (Q:=fun v h'=>v=decide (st≠1∨p.parent≠i+1∨p.state=2)∧Own h' (pt b1 (.cells D0 false (D5 p))::cmC b k F X::pt b0 (.cells D0 false Ii6)::r)) ?_ ?_
 ·refine Jh o ?_
  by_cases h2:st≠1∨p.parent≠i+1
  ·refine Yt (decide_eq_true h2) ?_
   refine Ys fun o=>?_
   exact ⟨(decide_eq_true (h2.elim .inl fun h=>.inr (.inl h))).symm,o.sub⟩
  ·refine Yf (decide_eq_false h2) ?_
   (refine Jb ?_;unhygienic intros)
   refine Ys fun o=>?_
   refine ⟨?_,o.sub⟩
   rw [Bool.eq_iff_iff,decide_eq_true_iff,beq_iff_eq]
   exact ⟨fun h=>.inr (.inr h),fun h=>h.elim (fun h=>absurd (.inl h) h2) fun h=>h.elim (fun h=>absurd (.inr h) h2) id⟩
 rintro v h ⟨rfl,o⟩
 refine Jh o ?_
 by_cases h2:st≠1∨p.parent≠i+1∨p.state=2
 ·rw [if_pos h2]
  refine Yt (decide_eq_true h2) ?_
  (refine Ja ?_;unhygienic intros)
  refine Ys fun o=>?_
  exact ⟨rfl,o.sub⟩
 ·rw [if_neg h2]
  refine Yf (decide_eq_false h2) ?_
  (refine Ja ?_;unhygienic intros)
  refine Ys fun o=>?_
  exact ⟨rfl,o.sub⟩
abbrev Gl4 (p:ProcS) (g:Int):ProcS:=⟨p.state,p.parent,g,p.code,p.pending,p.mask,p.ignored,p.caught,p.fds,p.len⟩
theorem Ho5 {p:ProcS} (h:okS p=true) {g:Int} (hg:0≤g∧g<8):okS (Gl4 p g)=true:=by
 unfold okS at h ⊢
 simp only [Bool.and_eq_true,Bool.not_eq_true',Bool.or_eq_false_iff,decide_eq_false_iff_not] at h ⊢
 obtain ⟨⟨⟨⟨⟨⟨⟨⟨a1,a2⟩,a3⟩,a4⟩,a5⟩,a6⟩,a7⟩,a8⟩,b,d⟩:=h
 exact ⟨⟨⟨⟨⟨⟨⟨⟨a1,a2⟩,a3⟩,a4⟩,by show ¬ g<0;omega⟩,by show ¬ g≥8;omega⟩,a7⟩,a8⟩,b,d⟩
def Em5 (X:CX) (i t g:Int):List Value × CX :=
 if (M0 X i).2≠0 then (N4 0 (M0 X i).2 false,X)
 else if ¬ ((0≤t∧t<8)∧(0≤g∧g<8)) then (N4 0 122 false,X)
 else if Db9 X i t≠0 then (N4 0 (Db9 X i t) false,X)
 else if g≠t∧B70 X g=false then (N4 0 101 false,X)
 else (N4 0 0 false,Bw1 X t (Gl4 (vS X t).1 g))
theorem Id3 (b k:Nat) (F:Fr) (X:CX) (ok:FrOk F) {nc:Nat} (c:Clean nc X) (i t g:Int) (hi:0≤i∧i<8):Ct A9 B12 [P0 b,int i,int t,int g] [cmC b k F X] fun v own=>v=.agg ⟨(Em5 X i t g).1⟩∧own [cmC b k F (Em5 X i t g).2]:=by
 unfold Em5
 refine Ct.of Hf4 rfl fun h r=>Tr.eq (G87 ..) ?_;refine Je ?_
 refine Yn fun b0 h=>?_
 refine Yc (Dn6 b k F X ok c i hi) ?_;rintro _ h ⟨rfl,o⟩<;>refine Jh o ?_
 (refine Jc ?_;unhygienic intros)
 refine Yn fun b1 h=>?_
 (refine Jb ?_;unhygienic intros)
 by_cases h0:(M0 X i).2=0
 case neg =>
  rw [if_pos h0]
  refine Yt (by simpa using h0) ?_
  refine Yc (Bw9 (M0 X i).2) ?_;rintro _ h ⟨rfl,o⟩<;>(refine Jf o ?_;unhygienic intros)
  refine Ys fun o=>?_
  exact ⟨rfl,o.sub⟩
 rw [if_neg (by simpa using h0)]
 refine Yf (by simpa using h0) ?_
 obtain ⟨s1,s2,s3,s4⟩:=Bj5 c hi h0
 refine Yc (Gs1 t) ?_;rintro _ h ⟨rfl,o⟩<;>refine Jh o ?_
 (refine Jb ?_;unhygienic intros)
 refine Yb fun o=>Wp.mono (Q:=fun v h'=>v=decide (¬ ((0≤t∧t<8)∧(0≤g∧g<8)))∧Own h' (pt b1 (.cells D0 false (D5 (M0 X i).1))::cmC b k F X::pt b0 (.cells E4 false Hw5)::r)) ?_ ?_
 ·refine Jh o ?_
  by_cases ht:0≤t∧t<8
  ·refine Yf (by rw [decide_eq_true ht];rfl) ?_
   refine Yc (Gs1 g) ?_;rintro _ h ⟨rfl,o⟩<;>refine Jh o ?_
   (refine Jb ?_;unhygienic intros)
   refine Ys fun o=>?_
   refine ⟨?_,o.sub⟩
   rw [Bool.eq_iff_iff,Bool.not_eq_true',decide_eq_false_iff_not,decide_eq_true_iff]
   exact ⟨fun h k=>h k.2,fun h k=>h ⟨ht,k⟩⟩
  ·refine Yt (by rw [decide_eq_false ht];rfl) ?_
   refine Ys fun o=>?_
   exact ⟨(decide_eq_true (show ¬ ((0≤t∧t<8)∧(0≤g∧g<8)) from fun h=>ht h.1)).symm,o.sub⟩
 rintro v h ⟨rfl,o⟩
 refine Jh o ?_
 by_cases h2:(0≤t∧t<8)∧(0≤g∧g<8)
 case neg =>
  rw [if_pos h2]
  refine Yt (decide_eq_true h2) ?_
  refine Yc (Bw9 122) ?_;rintro _ h ⟨rfl,o⟩<;>(refine Jf o ?_;unhygienic intros)
  refine Ys fun o=>?_
  exact ⟨rfl,o.sub⟩
 rw [if_neg (fun h=>h h2)]
 refine Yf (decide_eq_false (fun h=>h h2)) ?_
 obtain ⟨ht,hg⟩:=h2
 refine Yc (If4 b k F X ok c i t hi ht) ?_;rintro _ h ⟨rfl,o⟩<;>refine Jh o ?_
 (refine Jc ?_;unhygienic intros)
 refine Yn fun b2 h=>?_
 (refine Jb ?_;unhygienic intros)
 by_cases h3:Db9 X i t=0
 case neg =>
  rw [if_pos h3]
  refine Yt (by simpa using h3) ?_
  refine Yc (Bw9 (Db9 X i t)) ?_;rintro _ h ⟨rfl,o⟩<;>(refine Jf o ?_;unhygienic intros)
  refine Ys fun o=>?_
  exact ⟨rfl,o.sub⟩
 rw [if_neg (by simpa using h3)]
 refine Yf (by simpa using h3) ?_
 refine Yb fun o=>Wp.mono (Q:=fun v h'=>v=decide (g≠t∧B70 X g=false)∧Own h' (pt b2 (.cells D0 false (D5 (vS X t).1))::cmC b k F X::pt b0 (.cells E4 false Hw5)::r)) ?_ ?_
 ·refine Jh o ?_
  by_cases hgt:g=t
  ·refine Yf (by simpa using hgt) ?_
   refine Ys fun o=>?_
   exact ⟨(decide_eq_false fun h=>h.1 hgt).symm,o.sub⟩
  ·refine Yt (by simpa using hgt) ?_
   refine Yc (H55 b k F X ok c g) ?_;rintro _ h ⟨rfl,o⟩<;>refine Jh o ?_
   (refine Jb ?_;unhygienic intros)
   refine Ys fun o=>?_
   refine ⟨?_,o.sub⟩
   rw [Bool.eq_iff_iff,Bool.not_eq_true',decide_eq_true_iff]
   exact ⟨fun h=>⟨hgt,h⟩,fun h=>h.2⟩
 rintro v h ⟨rfl,o⟩
 refine Jh o ?_
 by_cases h4:g≠t∧B70 X g=false
 ·rw [if_pos h4]
  refine Yt (decide_eq_true h4) ?_
  refine Yc (Bw9 101) ?_;rintro _ h ⟨rfl,o⟩<;>(refine Jf o ?_;unhygienic intros)
  refine Ys fun o=>?_
  exact ⟨rfl,o.sub⟩
 rw [if_neg h4]
 refine Yf (decide_eq_false h4) ?_
 have hin:=Dn5 (rd X ⟨1,t⟩)
 have hok:okS (vS X t).1=true:=by
  unfold Db9 at h3
  split at h3
  ·rename_i e;rw [e];exact s3
  ·split at h3
   ·simp at h3
   ·rename_i h5
    rcases Ik1 c ht with ⟨h6,_⟩|⟨_,h6⟩
    ·exact absurd (.inl (by rw [h6];decide)) h5
    ·exact h6
 have hw:=(Bl7 c ht (Ho5 hok hg) ⟨hin.a,hin.b,hin.c,hin.d⟩).1
 (refine Ja ?_;unhygienic intros)
 simp only [List.set_cons_succ,List.set_cons_zero]
 refine (?_:Tr (pt b2 (.cells D0 false (D5 (Gl4 (vS X t).1 g)))::_) _ _ _)
 generalize Gl4 (vS X t).1 g=p2 at *
 (refine Ja ?_;unhygienic intros)
 refine Yc (D27 b k F X ok t p2) ?_;rintro _ h ⟨rfl,o⟩<;>refine Jh o ?_
 rw [hw]
 dsimp only
 (refine Ja ?_;unhygienic intros)
 refine Yc (Hp4 true 0) ?_;rintro _ h ⟨rfl,o⟩<;>refine Jh o ?_
 rw [if_pos trivial]
 (refine Ja ?_;unhygienic intros)
 refine Ys fun o=>?_
 exact ⟨rfl,o.sub⟩
abbrev vG (X:CX):Int × Int:=Af0 (rd X ⟨5,0⟩)
theorem D34 {nc:Nat}:Rin nc ⟨5,0⟩:=⟨by simp,by simp,by simp,by simp [V0]⟩
theorem Es0 {nc:Nat} {X:CX} (c:Clean nc X):D82 X=(vG X,X):=Bj2 Af0 0 c D34 rfl
abbrev setG (X:CX) (g:Int):CX:=Bo5 X ⟨5,0⟩ (Bh2 g)
theorem He5 {g:Int} (h:0≤g∧g<8):Af0 (Bh2 g)=(g,1):=by
 have:g=0∨g=1∨g=2∨g=3∨g=4∨g=5∨g=6∨g=7:=by omega
 rcases this with rfl|rfl|rfl|rfl|rfl|rfl|rfl|rfl<;>(clear h;show (_:Int × Int)=_;kernel_rfl)
structure SeeT (X:CX) (V:VW) (q:PipeS) (g:Int):Prop where
 a:See X V
 t:vT X=(q,1)
 g:vG X=(g,1)
theorem SeeT.ok {X V q g} (A:SeeT X V q g):okP q=true:=by
 rcases Ij9 A.a.c with ⟨h,_⟩|⟨_,h⟩
 ·rw [A.t] at h;cases h
 ·rw [A.t] at h;exact h
theorem SeeT.setT {X V q g} (A:SeeT X V q g) {q':PipeS} (ok:okP q'=true):SeeT (setT X q') V q' g:=by
 have c:=A.a.c
 have hl:(I1 q').length=Aa3 (4:Int):=by rw [As9 q'.len];rfl
 refine ⟨⟨Bg9 c Do5 hl (by show (N9 (I1 q')).2≠2;rw [Eb8 ok];simp),fun j hj=>?_,fun j hj=>?_,fun j hj=>?_⟩,?_,?_⟩
 ·rw [← A.a.s j hj];show Y7 (rd _ _)=_;rw [P9 c Do5 (B91 hj) hl,if_neg (by simp)]
 ·rw [← A.a.f j hj];show Z0 (rd _ _)=_;rw [P9 c Do5 (Be0 hj) hl,if_neg (by simp)]
 ·rw [← A.a.p j hj];show N9 (rd _ _)=_;rw [P9 c Do5 (A79 (by omega)) hl,if_neg (by simp)]
 ·show N9 (rd _ _)=_;rw [P9 c Do5 Do5 hl,if_pos rfl,Eb8 ok]
 ·rw [← A.g];show Af0 (rd _ _)=_;rw [P9 c Do5 D34 hl,if_neg (by simp)]
theorem SeeT.setG {X V q g} (A:SeeT X V q g) {g':Int} (ok:0≤g'∧g'<8):SeeT (setG X g') V q g':=by
 have c:=A.a.c
 have hl:(Bh2 g').length=Aa3 (5:Int):=rfl
 refine ⟨⟨Bg9 c D34 hl (by show (Af0 (Bh2 g')).2≠2;rw [He5 ok];simp),fun j hj=>?_,fun j hj=>?_,fun j hj=>?_⟩,?_,?_⟩
 ·rw [← A.a.s j hj];show Y7 (rd _ _)=_;rw [P9 c D34 (B91 hj) hl,if_neg (by simp)]
 ·rw [← A.a.f j hj];show Z0 (rd _ _)=_;rw [P9 c D34 (Be0 hj) hl,if_neg (by simp)]
 ·rw [← A.a.p j hj];show N9 (rd _ _)=_;rw [P9 c D34 (A79 (by omega)) hl,if_neg (by simp)]
 ·rw [← A.t];show N9 (rd _ _)=_;rw [P9 c D34 Do5 hl,if_neg (by simp)]
 ·show Af0 (rd _ _)=_;rw [P9 c D34 D34 hl,if_pos rfl,He5 ok]
theorem Gj5 {nc:Nat} {X:CX} (c:Clean nc X) {g:Int} (ok:0≤g∧g<8):Bx4 X g=(true,setG X g):=by
 unfold Bx4;rw [decide_eq_true ok];exact Bh3 c D34 _
def Az0 (V:VW) (g i:Int):Int:=if g≠(U4 V i).1.group then 125 else 0
theorem Ie4 (c k:Nat) (F:Fr) (X:CX) (ok:FrOk F) {V q g} (A:SeeT X V q g) (i:Int) (hi:0≤i∧i<8):Ct A9 Bt2 [P0 c,int i] [cmC c k F X] fun v own=>v=int (Az0 V g i)∧own [cmC c k F X]:=by
 have es:=A.a.self hi
 unfold Az0
 refine Ct.of Gx6 rfl fun h r=>Tr.eq (Gz4 ..) ?_;refine Je ?_
 refine Yc (Dn6 c k F X ok A.a.c i hi) ?_;rintro _ h ⟨rfl,o⟩<;>refine Jh o ?_
 rw [es]
 generalize (U4 V i).1=p at *
 (refine Jc ?_;unhygienic intros)
 refine Yn fun b1 h=>?_
 (refine Ja ?_;unhygienic intros)
 refine Yc (Eo0 c k F X ok) ?_;rintro _ h ⟨rfl,o⟩<;>refine Jh o ?_
 rw [Es0 A.a.c,A.g]
 (refine Jb ?_;unhygienic intros)
 refine Yf rfl ?_
 (refine Jb ?_;unhygienic intros)
 by_cases h1:g=p.group
 ·rw [if_neg (by simpa using h1)]
  refine Yf (by simpa using h1) ?_
  refine Ys fun o=>?_
  exact ⟨rfl,o.sub⟩
 ·rw [if_pos h1]
  refine Yt (by simpa using h1) ?_
  refine Ys fun o=>?_
  exact ⟨rfl,o.sub⟩
abbrev G20 (c:Nat):Value:=.func (.func J9) ⟨[P0 c]⟩ ⟨[]⟩
theorem In6 (c k:Nat) (F:Fr) (X:CX) (ok:FrOk F) {V q g} (A:SeeT X V q g) (f:FileS) (h3:f.kind=3):Ct A9 Bl3 [P0 c,.agg ⟨Ae0 f⟩] [cmC c k F X] fun v own =>
  v=.tuple ⟨[.agg ⟨Ad4 q (G20 c)⟩,.bool true]⟩∧own [cmC c k F X]:=by
 refine Ct.of Gk0 rfl fun h r=>Tr.eq (Gi3 ..) ?_;refine Je ?_
 refine Yn fun b h=>?_
 refine Yn fun b1 h=>?_
 refine Yn fun b2 h=>?_
 (refine Ja ?_;unhygienic intros)
 refine Yt (by simpa using h3) ?_
 (refine Ja ?_;unhygienic intros)
 refine Yc (Gc7 c k F X ok) ?_;rintro _ h ⟨rfl,o⟩<;>refine Jh o ?_
 rw [E61 A.a.c,A.t]
 dsimp only
 (refine Jc ?_;unhygienic intros)
 refine Yn fun b3 h=>?_
 (refine Jc ?_;unhygienic intros)
 refine Tr.ck (B86 q _) ?_
 refine (?_:Tr _ _ (pAgg ⟨b2,0,none⟩ (Ad4 q (G20 c)) _ _) _)
 (refine Ja ?_;unhygienic intros)
 refine Ys fun o=>?_
 exact ⟨rfl,o.sub⟩
def rdT (V:VW) (q:PipeS) (g i n:Int):RdS × PipeS :=
 if Az0 V g i≠0∨n=0 then (⟨[],Az0 V g i,false⟩,q)
 else if q.count=0 then (⟨[],0,true⟩,q)
 else (⟨(J6 q).take (min n.toNat q.count.toNat),0,false⟩,A24 q (min n.toNat q.count.toNat))
theorem Im3 (c k:Nat) (F:Fr) (X:CX) (ok:FrOk F) {V q g} (A:SeeT X V q g) (i fd n f:Int) (x:FileS) (hi:0≤i∧i<8) (hn:0≤n∧n≤32) (ho:ofW V i fd=((f,x),0)) (h3:x.kind=3):Ct A9 Bq5 [P0 c,int i,int fd,int n] [cmC c k F X] fun v own=>v=.tuple ⟨[.agg ⟨Ae0 x⟩,int (Az0 V g i)]⟩∧own [cmC c k F X]:=by
 have eo:=A.a.ofv hi fd
 rw [ho] at eo
 refine Ct.of E59 rfl fun h r=>Tr.eq (E51 ..) ?_;refine Je ?_
 refine Yn fun b0 h=>?_
 refine Yc (Hu3 c k F X ok A.a.c i fd hi) ?_;rintro _ h ⟨rfl,o⟩<;>refine Jh o ?_
 rw [eo]
 dsimp only
 (refine Jc ?_;unhygienic intros)
 refine Yn fun b1 h=>?_
 (refine Jb ?_;unhygienic intros)
 refine Yf rfl ?_
 (refine Ja ?_;unhygienic intros)
 refine Yf (by rw [h3];rfl) ?_
 refine Yb (Yf (by rw [decide_eq_false_iff_not];omega) ?_)
 refine Ys fun o=>(?_:Tr _ _ _ _) o;refine Je ?_
 refine Yf (by rw [decide_eq_false_iff_not];omega) ?_
 (refine Ja ?_;unhygienic intros)
 refine Yt (by rw [h3];rfl) ?_
 (refine Ja ?_;unhygienic intros)
 refine Yc (Ie4 c k F X ok A i hi) ?_;rintro _ h ⟨rfl,o⟩<;>refine Jh o ?_
 (refine Ja ?_;unhygienic intros)
 refine Ys fun o=>?_
 exact ⟨rfl,o.sub⟩
theorem Bx8 (c k:Nat) (F:Fr) (X:CX) (ok:FrOk F) {V q g} (A:SeeT X V q g) (i fd n f:Int) (x:FileS) (hi:0≤i∧i<8) (hn:0≤n∧n≤32) (ho:ofW V i fd=((f,x),0)) (h3:x.kind=3) (hf:x.flags=0) :
  Ct A9 Ab7 [P0 c,int i,int fd,int n] [cmC c k F X] fun v own=>∃ a cap X',SeeT X' V (rdT V q g i n).2 g ∧
   v=.agg ⟨[int (rdT V q g i n).1.bs.length,int (rdT V q g i n).1.e,.slice a (rdT V q g i n).1.bs.length cap,.bool (rdT V q g i n).1.blk]⟩ ∧
   own [cmC c k F X',slC false A5 1 a (rdT V q g i n).1.bs.length cap (A0 (rdT V q g i n).1.bs)]:=by
 have nil:∀ {h:NN.H} {r:List HP},Own h (cmC c k F X::r)→Own h (cmC c k F X::slC false A5 1 none 0 0 (A0 [])::r):=fun o=>(o.slNil false A5 (by omega)).perm (List.Perm.swap _ _ _)
 have hq:=A.ok
 obtain ⟨r1,r2,r3,r4⟩:=Aj4 hq
 unfold rdT
 refine Ct.of Eq0 rfl fun h r=>Tr.eq (Ex3 ..) ?_;refine Je ?_
 refine Yn fun b0 h=>?_
 refine Yc (Im3 c k F X ok A i fd n f x hi hn ho h3) ?_;rintro _ h ⟨rfl,o⟩<;>refine Jh o ?_
 generalize Az0 V g i=e at *
 (refine Jc ?_;unhygienic intros)
 refine Yn fun b1 h=>?_
 (refine Jb ?_;unhygienic intros)
 refine Yb fun o=>Wp.mono (Q:=fun v h'=>v=decide (e≠0∨n=0)∧Own h' (pt b1 (.cells D7 false (Ae0 x))::cmC c k F X::pt b0 (.cells E4 false (N4 0 0 false))::r)) ?_ ?_
 ·refine Jh o ?_
  by_cases h2:e=0
  ·refine Yf (by simpa using h2) ?_
   refine Ys fun o=>?_
   exact ⟨by rw [Bool.eq_iff_iff,beq_iff_eq,decide_eq_true_iff];exact ⟨.inr,fun h=>h.elim (fun h=>absurd h2 h) id⟩,o.sub⟩
  ·refine Yt (by simpa using h2) ?_
   refine Ys fun o=>?_
   exact ⟨(decide_eq_true (.inl h2)).symm,o.sub⟩
 rintro v h ⟨rfl,o⟩
 refine Jh o ?_
 by_cases h1:e≠0∨n=0
 ·rw [if_pos h1]
  refine Yt (decide_eq_true h1) ?_
  refine Yc (Au2 e) ?_;rintro _ h ⟨rfl,o⟩<;>(refine Jf o ?_;unhygienic intros)
  refine Ys fun o=>?_
  exact ⟨none,0,X,A,rfl,nil o.sub⟩
 rw [if_neg h1]
 refine Yf (decide_eq_false h1) ?_
 have h0:n≠0:=fun h=>h1 (.inr h)
 (refine Ja ?_;unhygienic intros)
 refine Yc (In6 c k F X ok A x h3) ?_;rintro _ h ⟨rfl,o⟩<;>refine Jh o ?_
 (refine Jc ?_;unhygienic intros)
 refine Yn fun b3 h=>?_
 (refine Jb ?_;unhygienic intros)
 by_cases h6:q.count=0
 ·rw [if_pos h6]
  refine Yb (Yt (by simpa using h6) ?_)
  (refine Jb ?_;unhygienic intros)
  refine Ys fun o=>(?_:Tr _ _ _ _) o;refine Je ?_
  refine Yb (Yf (by rw [h3];rfl) ?_)
  refine Ys fun o=>(?_:Tr _ _ _ _) o;refine Je ?_
  refine Yf rfl ?_
  (refine Jb ?_;unhygienic intros)
  refine Yt (by simpa using h6) ?_
  (refine Ja ?_;unhygienic intros)
  refine Yc (Ef9 x) ?_;rintro _ h ⟨rfl,o⟩<;>refine Jh o ?_
  rw [if_neg (by rw [hf];decide)]
  (refine Ja ?_;unhygienic intros)
  refine Ys fun o=>?_
  exact ⟨none,0,X,A,rfl,nil o.sub⟩
 rw [if_neg h6]
 refine Yb (Yf (by simpa using h6) ?_)
 refine Ys fun o=>(?_:Tr _ _ _ _) o;refine Je ?_
 refine Yb (Yf rfl ?_)
 refine Ys fun o=>(?_:Tr _ _ _ _) o;refine Je ?_
 refine Yf rfl ?_
 (refine Jb ?_;unhygienic intros)
 refine Yf (by simpa using h6) ?_
 (refine Ja ?_;unhygienic intros)
 refine Yc (G36 q hq n hn) ?_
 rintro _ h ⟨a,cap,rfl,o⟩
 refine Jh o ?_
 have hm:min n.toNat q.count.toNat≤q.count.toNat:=by omega
 have hlen:((J6 q).take (min n.toNat q.count.toNat)).length=min n.toNat q.count.toNat:=by
  rw [List.length_take,B32];omega
 rw [hlen]
 have hok:=E72 hq hm
 generalize min n.toNat q.count.toNat=m at *
 have hw:=D74 A.a.c hok
 have hs:=A.setT hok
 generalize A24 q m=q2 at *
 have hfv:(Ad4 q (G20 c))[36]?=some (G20 c):=by
  unfold Ad4;rw [List.getElem?_append_right (by rw [W2 q.len];exact Nat.le_refl _),W2 q.len];rfl
 (refine Jc ?_;unhygienic intros)
 refine Yn fun b4 h=>?_
 (refine Ja ?_;unhygienic intros)
 simp only [List.nil_append,List.append_nil,List.cons_append]
 refine Yc (E37 c k F X ok q2) ?_;rintro _ h ⟨rfl,o⟩<;>refine Jh o ?_
 rw [hw]
 dsimp only
 (refine Ja ?_;unhygienic intros)
 refine Ys fun o=>?_
 exact ⟨a,cap,_,hs,rfl,o.sub⟩
def B31 (V:VW) (g i n:Int) (has:Bool):Int × Int :=
 if (U4 V i).2≠0 then ((U4 V i).2,g)
 else if n<0∨n≥8 then (122,g)
 else if (U4 V i).1.group≠g∨has=false then (101,g)
 else (0,n)
theorem Es9 (c k:Nat) (F:Fr) (X:CX) (ok:FrOk F) {V q g} (A:SeeT X V q g) (i n:Int) (hi:0≤i∧i<8) :
  Ct A9 Aw8 [P0 c,int i,int n] [cmC c k F X] fun v own=>∃ X',SeeT X' V q (B31 V g i n (B70 X n)).2∧v=.agg ⟨N4 0 (B31 V g i n (B70 X n)).1 false⟩∧own [cmC c k F X']:=by
 have es:=A.a.self hi
 unfold B31
 refine Ct.of Gz3 rfl fun h r=>Tr.eq (Gz5 ..) ?_;refine Je ?_
 refine Yn fun b0 h=>?_
 refine Yc (Dn6 c k F X ok A.a.c i hi) ?_;rintro _ h ⟨rfl,o⟩<;>refine Jh o ?_
 rw [es]
 generalize (U4 V i).1=p at *
 generalize (U4 V i).2=e at *
 (refine Jc ?_;unhygienic intros)
 refine Yn fun b1 h=>?_
 (refine Jb ?_;unhygienic intros)
 by_cases h0:e=0
 case neg =>
  rw [if_pos h0]
  refine Yt (by simpa using h0) ?_
  refine Yc (Au2 e) ?_;rintro _ h ⟨rfl,o⟩<;>(refine Jf o ?_;unhygienic intros)
  refine Ys fun o=>?_
  exact ⟨X,A,rfl,o.sub⟩
 rw [if_neg (by simpa using h0)]
 refine Yf (by simpa using h0) ?_
 refine Yb fun o=>Wp.mono (Q:=fun v h'=>v=decide (n<0∨n≥8)∧Own h' (pt b1 (.cells D0 false (D5 p))::cmC c k F X::pt b0 (.cells E4 false Hw5)::r)) ?_ ?_
 ·refine Jh o ?_
  by_cases h2:n<0
  ·refine Yt (decide_eq_true h2) ?_
   refine Ys fun o=>?_
   exact ⟨(decide_eq_true (.inl h2)).symm,o.sub⟩
  ·refine Yf (decide_eq_false h2) ?_
   refine Ys fun o=>?_
   exact ⟨decide_eq_decide.2 ⟨.inr,fun h=>h.elim (fun h=>absurd h h2) id⟩,o.sub⟩
 rintro v h ⟨rfl,o⟩
 refine Jh o ?_
 by_cases h2:n<0∨n≥8
 ·rw [if_pos h2]
  refine Yt (decide_eq_true h2) ?_
  refine Yc (Au2 122) ?_;rintro _ h ⟨rfl,o⟩<;>(refine Jf o ?_;unhygienic intros)
  refine Ys fun o=>?_
  exact ⟨X,A,rfl,o.sub⟩
 rw [if_neg h2]
 refine Yf (decide_eq_false h2) ?_
 refine Yc (Eo0 c k F X ok) ?_;rintro _ h ⟨rfl,o⟩<;>refine Jh o ?_
 rw [Es0 A.a.c,A.g]
 (refine Jb ?_;unhygienic intros)
 refine Yf rfl ?_
 (refine Jb ?_;unhygienic intros)
 refine Yb fun o=>Wp.mono (Q:=fun v h'=>v=decide (p.group≠g∨B70 X n=false)∧Own h' (pt b1 (.cells D0 false (D5 p))::cmC c k F X::pt b0 (.cells E4 false Hw5)::r)) ?_ ?_
 ·refine Jh o ?_
  by_cases h3:p.group=g
  ·refine Yf (by simpa using h3) ?_
   refine Yc (H55 c k F X ok A.a.c n) ?_;rintro _ h ⟨rfl,o⟩<;>refine Jh o ?_
   (refine Jb ?_;unhygienic intros)
   refine Ys fun o=>?_
   refine ⟨?_,o.sub⟩
   rw [Bool.eq_iff_iff,Bool.not_eq_true',decide_eq_true_iff]
   exact ⟨.inr,fun h=>h.elim (fun h=>absurd h3 h) id⟩
  ·refine Yt (by simpa using h3) ?_
   refine Ys fun o=>?_
   exact ⟨(decide_eq_true (.inl h3)).symm,o.sub⟩
 rintro v h ⟨rfl,o⟩
 refine Jh o ?_
 by_cases h4:p.group≠g∨B70 X n=false
 ·rw [if_pos h4]
  refine Yt (decide_eq_true h4) ?_
  refine Yc (Au2 101) ?_;rintro _ h ⟨rfl,o⟩<;>(refine Jf o ?_;unhygienic intros)
  refine Ys fun o=>?_
  exact ⟨X,A,rfl,o.sub⟩
 rw [if_neg h4]
 refine Yf (decide_eq_false h4) ?_
 refine Yc (G79 c k F X ok n) ?_;rintro _ h ⟨rfl,o⟩<;>refine Jh o ?_
 rw [Gj5 A.a.c (by omega)]
 dsimp only
 (refine Jb ?_;unhygienic intros)
 refine Ys fun o=>?_
 exact ⟨_,A.setG (by omega),rfl,o.sub⟩
def Gg0 (V:VW) (q:Int→ProcS→Bool):Nat→Int→List (Int × ProcS)
 | 0,_=>[]
 | m+1,i=>if (V.S i).2=1∧q i (V.S i).1=true then (i,(V.S i).1)::Gg0 V q m (i+1) else Gg0 V q m (i+1)
theorem See.slots {X V} (A:See X V) (q:Int→ProcS→Bool):∀ (m:Nat) (i:Int),0≤i→i+m≤8→An3 X q m i=Gg0 V q m i
 | 0,_,_,_=>rfl
 | m+1,i,h0,hm=>by rw [An3,Gg0,A.slots q m (i+1) (by omega) (by omega),A.s i (by omega)]
abbrev VTa:VW:=(G18 V1 0).2
def VTb:VW:=wS VTa 1 (Gl4 (VTa.S 1).1 1)
abbrev XTa:CX:=(Dm5 X1 0).2
def XTb:CX:=Bw1 XTa 1 (Gl4 (VTa.S 1).1 1)
theorem tm1:(Dm5 X1 0).1=N4 1 0 false:=(Hu6.fork (i:=0) (by omega)).1.trans (by kernel_rfl)
theorem tmA:See XTa VTa:=(Hu6.fork (i:=0) (by omega)).2
theorem tm2:Em5 XTa 1 1 1=(N4 0 0 false,XTb):=by
 have e1:(M0 XTa 1).2=0:=by rw [tmA.self (i:=1) (by omega)];kernel_rfl
 unfold Em5
 rw [if_neg (by rw [e1];simp),if_neg (by simp),if_neg (by unfold Db9;simp),if_neg (by simp),tmA.s 1 (by omega)];rfl
theorem tmB:See XTb VTb:=by
 have hs:=tmA.s 1 (by omega)
 have hin:=Dn5 (rd XTa ⟨1,1⟩)
 refine tmA.ws (i:=1) (by omega) (Ho5 ?_ (by omega)) ?_
 ·show (okS (VTa.S 1).1:Bool)=_;kernel_rfl
 ·rw [← hs];exact ⟨hin.a,hin.b,hin.c,hin.d⟩
theorem tmT:vT XTb=(Ar0,1):=by show (_:PipeS × Int)=_;kernel_rfl
theorem tmG:vG XTb=(0,1):=by show (_:Int × Int)=_;kernel_rfl
theorem Iw0:SeeT XTb VTb Ar0 0:=⟨tmB,tmT,tmG⟩
theorem Ig4:ofW VTb 0 0=((0,⟨3,0,2,0⟩),0):=by kernel_rfl
theorem Ib2:ofW VTb 1 0=((0,⟨3,0,2,0⟩),0):=by kernel_rfl
theorem G88:(U4 VTb 0).2=0∧(U4 VTb 0).1.group=0:=⟨by kernel_rfl,by kernel_rfl⟩
theorem H06:(U4 VTb 1).2=0∧(U4 VTb 1).1.group=1:=⟨by kernel_rfl,by kernel_rfl⟩
theorem tmh {X} (A:See X VTb) {z:Int} (hz:0≤z∧z<8):B70 X z=decide (z<2):=by
 unfold B70
 rw [A.slots (inG z) 8 0 (by omega) (by omega)]
 have:z=0∨z=1∨z=2∨z=3∨z=4∨z=5∨z=6∨z=7:=by omega
 rcases this with rfl|rfl|rfl|rfl|rfl|rfl|rfl|rfl<;>(clear hz;show (_:Bool)=_;kernel_rfl)
theorem Ho8 {V:VW} {q:PipeS} {g i:Int} (hq:okP q=true) (he:Az0 V g i=0) {n:Int} (hn:1≤n∧n≤32) :
  ∃ q',rdT V q g i n=(⟨(J6 q).take n.toNat,0,decide (q.count=0)⟩,q')∧okP q'=true∧J6 q'=(J6 q).drop n.toNat:=by
 have hr:=Aj4 hq
 unfold rdT
 rw [he,if_neg (by omega)]
 by_cases h1:q.count=0
 ·have hb:J6 q=[]:=List.eq_nil_of_length_eq_zero (by rw [B32];omega)
  rw [if_pos h1,decide_eq_true h1,hb]
  exact ⟨q,by simp,hq,by rw [hb];simp⟩
 ·have hb:=B32 q
  rw [if_neg h1,decide_eq_false h1]
  have e1:min n.toNat q.count.toNat=min n.toNat (J6 q).length:=by rw [hb]
  refine ⟨A24 q (min n.toNat q.count.toNat),?_,E72 hq (by omega),?_⟩
  ·rw [e1,← List.take_eq_take_min]
  ·rw [(Hx2 hq (by omega)).1,e1]
   by_cases h2:n.toNat≤(J6 q).length
   ·rw [Nat.min_eq_left h2]
   ·rw [Nat.min_eq_right (by omega),List.drop_length,List.drop_eq_nil_of_le (by omega)]
theorem Ht0 (k c b3 b4:Nat) (X:CX) (q:PipeS) (g z w:Int) (hz:M7 .i64 g 7=z) (h0:0≤z∧z<8) (l:List UInt8) (N:Nat) (hN:N≤l.length∧N≤32) (hw:(z<2∧w=0)∨(¬ z<2∧w=101)) (hb:J6 q=(l.take N).drop 5) (a:Option Addr) (cc:Nat)
  (A:SeeT X VTb q (if z<2 then z else 0)) :
  CtJ H3 I5 An8 [(0,.slice a l.length cc),(1,int g),(6,P0 c),(9,int N),(12,P0 b3),(13,P0 b4),(14,int w)] [cmC c k F1 X,slC true A5 1 a l.length cc (A0 l),pt b3 (.cells E4 false (N4 0 101 false)),pt b4 (.cells E4 false (N4 0 w false))] fun v own=>v=.bool true∧own []:=by
 generalize hG:(if z<2 then z else 0)=G at A
 have J:=Es9 c k F1 X Au4 A 0 8 (by omega)
 have hf:B31 VTb G 0 8 (B70 X 8)=(122,G):=by
  unfold B31
  rw [if_neg (by rw [G88.1];simp),if_pos (by omega)]
 rw [hf] at J
 have hq:=A.ok
 have hrng:=Aj4 hq
 have hlen:(J6 q).length=N-5:=by rw [hb,List.length_drop,List.length_take];omega
 have hct:q.count=((N-5:Nat):Int):=by rw [← hlen,B32];omega
 have f1:Az0 VTb G 1=if z=1 then 0 else 125:=by
  unfold Az0;rw [H06.2,← hG]
  by_cases h1:z=1
  ·rw [if_pos h1,if_neg (by rw [if_pos (by omega)];simpa using h1)]
  ·rw [if_neg h1,if_pos (by split<;>omega)]
 have f0:Az0 VTb G 0=if z=1 then 125 else 0:=by
  unfold Az0;rw [G88.2,← hG]
  by_cases h1:z=1
  ·rw [if_pos h1,if_pos (by rw [if_pos (by omega)];omega)]
  ·rw [if_neg h1,if_neg (by split<;>omega)]
 refine CtJ.of Dh9 fun h r=>Tr.eq (Ei4 ..) ?_;refine Je ?_
 refine Yc J ?_
 rintro _ h ⟨X1',A1,rfl,o⟩
 refine Jh o ?_
 (refine Jc ?_;unhygienic intros)
 refine Yn fun b1 h=>?_
 (refine Jb ?_;unhygienic intros)
 refine Yb (Yf rfl ?_)
 (refine Jb ?_;unhygienic intros)
 refine Ys fun o=>(?_:Tr _ _ _ _) o;refine Je ?_
 refine Yb (Yf (by simp) ?_)
 (refine Jb ?_;unhygienic intros)
 refine Ys fun o=>(?_:Tr _ _ _ _) o;refine Je ?_
 refine Yf rfl ?_
 rw [hz]
 by_cases h1:z=1
 ·obtain rfl:w=0:=by omega
  rw [if_pos h1] at f0 f1
  obtain ⟨q',w1,q1,_⟩:=Ho8 hq f1 (n:=32) (by omega)
  rw [List.take_of_length_le (by rw [hlen];omega)] at w1
  have J:=Bx8 c k F1 X1' Au4 A1 1 0 32 0 ⟨3,0,2,0⟩ (by omega) (by omega) Ib2 rfl rfl
  rw [w1] at J
  refine Yc J ?_
  rintro _ h ⟨a2,cap,X2',A2,rfl,o⟩
  refine Jh o ?_
  have w2:rdT VTb q' G 0 0=(⟨[],125,false⟩,q'):=by unfold rdT;rw [f0,if_pos (.inl (by decide))]
  have J:=Bx8 c k F1 X2' Au4 A2 0 0 0 0 ⟨3,0,2,0⟩ (by omega) (by omega) Ig4 rfl rfl
  rw [w2] at J
  (refine Jc ?_;unhygienic intros)
  refine Yc J ?_
  rintro _ h ⟨a3,cap3,X3',A3,rfl,o⟩
  refine Jh o ?_
  (refine Jc ?_;unhygienic intros)
  refine Yn fun b5 h=>?_
  refine Yn fun b6 h=>?_
  (refine Jb ?_;unhygienic intros)
  refine Yb (Yt rfl ?_)
  refine Ys fun o=>(?_:Tr _ _ _ _) o;refine Je ?_
  refine Yt (by rw [h1];rfl) ?_
  (refine Jb ?_;unhygienic intros)
  refine Yb (Yt rfl ?_)
  (refine Jb ?_;unhygienic intros)
  refine Ys fun o=>(?_:Tr _ _ _ _) o;refine Je ?_
  refine Yb (Yt (by rw [beq_iff_eq,decide_eq_decide,hct];omega) ?_)
  (refine Jb ?_;unhygienic intros)
  have hmm:mm2 false (N:Int) 5=((min N 5:Nat):Int):=by rw [S7];omega
  rw [hmm]
  refine P6 6 rfl fun hl2 hc2 _=>?_
  refine Tr.ck (by omega) ?_
  refine Tr.ck (by omega) ?_
  simp only [Int.toNat_natCast]
  refine Ea7 6 rfl (min N 5) (A0 (l.drop (min N 5))) (by omega) (by rw [Nat.mul_one];unfold A0;rw [List.map_drop]) ?_
  rw [Nat.mul_one]
  simp only [List.set_cons_succ,List.set_cons_zero]
  refine Tr.xCellsP (n:=l.length-min N 5) (sz:=1) (cs:=A0 (l.drop (min N 5))) (xs:=A0 ((l.drop (min N 5)).take (N-min N 5))) ⟨by omega,Gn8 ..⟩ ?_
  (refine Ja ?_;unhygienic intros)
  have e9:(l.drop (min N 5)).take (N-min N 5)=J6 q:=by
   rw [hb,← List.drop_take]
   by_cases h5:N≤5
   ·rw [Nat.min_eq_left h5,List.drop_eq_nil_of_le (by rw [List.length_take];omega),List.drop_eq_nil_of_le (by rw [List.length_take];omega)]
   ·rw [Nat.min_eq_right (by omega)]
  rw [e9,beq_self_eq_true]
  refine Ys fun o=>(?_:Tr _ _ _ _) o;refine Je ?_
  refine Yb (Yt rfl ?_)
  (refine Jb ?_;unhygienic intros)
  refine Ys fun o=>(?_:Tr _ _ _ _) o;refine Je ?_
  refine Yb (Yt rfl ?_)
  refine Yc (Eg8) ?_;rintro _ h ⟨rfl,o⟩<;>refine Jh o ?_
  (refine Jb ?_;unhygienic intros)
  refine Ys fun o=>(?_:Tr _ _ _ _) o;refine Je ?_
  refine Ys fun o=>?_
  exact ⟨rfl,o.sub⟩
 ·rw [if_neg h1] at f0 f1
  have w1:rdT VTb q G 1 32=(⟨[],125,false⟩,q):=by unfold rdT;rw [f1,if_pos (.inl (by decide))]
  have w2:rdT VTb q G 0 0=(⟨[],0,false⟩,q):=by unfold rdT;rw [f0,if_pos (.inr rfl)]
  have J:=Bx8 c k F1 X1' Au4 A1 1 0 32 0 ⟨3,0,2,0⟩ (by omega) (by omega) Ib2 rfl rfl
  rw [w1] at J
  refine Yc J ?_
  rintro _ h ⟨a2,cap,X2',A2,rfl,o⟩
  refine Jh o ?_
  have J:=Bx8 c k F1 X2' Au4 A2 0 0 0 0 ⟨3,0,2,0⟩ (by omega) (by omega) Ig4 rfl rfl
  rw [w2] at J
  (refine Jc ?_;unhygienic intros)
  refine Yc J ?_
  rintro _ h ⟨a3,cap3,X3',A3,rfl,o⟩
  refine Jh o ?_
  (refine Jc ?_;unhygienic intros)
  refine Yn fun b5 h=>?_
  refine Yn fun b6 h=>?_
  (refine Jb ?_;unhygienic intros)
  rw [show (z==1)=false from beq_eq_false_iff_ne.2 h1,Bool.cond_self]
  refine Yb ?_
  refine Ys fun o=>(?_:Tr _ _ _ _) o;refine Je ?_
  refine Yf rfl ?_
  (refine Jb ?_;unhygienic intros)
  refine Yb (Yt rfl ?_)
  (refine Jb ?_;unhygienic intros)
  refine Ys fun o=>(?_:Tr _ _ _ _) o;refine Je ?_
  refine Yb (Yt rfl ?_)
  (refine Jb ?_;unhygienic intros)
  refine Ys fun o=>(?_:Tr _ _ _ _) o;refine Je ?_
  refine Yb (Yt rfl ?_)
  refine Yc (Eg8) ?_;rintro _ h ⟨rfl,o⟩<;>refine Jh o ?_
  (refine Jb ?_;unhygienic intros)
  refine Ys fun o=>(?_:Tr _ _ _ _) o;refine Je ?_
  refine Ys fun o=>?_
  exact ⟨rfl,o.sub⟩
theorem He8 (a:Option Addr) (cc:Nat) (l:List UInt8) (g:Int):Ct A9 I5 [.slice a l.length cc,int g] [slC true A5 1 a l.length cc (A0 l)] fun v own=>v=.bool true∧own []:=by
 refine Ct.of Dh9 rfl fun h r=>Tr.eq (E32 ..) ?_;refine Je ?_
 refine Yc (G49) ?_;rintro _ h ⟨a1,rfl,o⟩<;>refine Jh o ?_
 (refine Ja ?_;unhygienic intros)
 refine Yc (Hq5 a1) ?_
 rintro _ h ⟨k,c,w,m,K',rfl,o⟩
 refine Jh o ?_
 (refine Jb ?_;unhygienic intros)
 refine Yb (Yf rfl ?_)
 refine Ys fun o=>(?_:Tr _ _ _ _) o;refine Je ?_
 by_cases hl:l.length>60
 ·refine Yt (by rw [decide_eq_true_iff];omega) ?_
  refine Yb (Yt rfl ?_)
  refine Yc (Eg8) ?_;rintro _ h ⟨rfl,o⟩<;>refine Jh o ?_
  (refine Jb ?_;unhygienic intros)
  refine Ys fun o=>(?_:Tr _ _ _ _) o;refine Je ?_
  refine Ys fun o=>?_
  exact ⟨rfl,o.sub⟩
 refine Yf (by rw [decide_eq_false_iff_not];omega) ?_
 refine Yc (Im7 c k F1 X1 Au4 E97 0 (by omega)) ?_;rintro _ h ⟨rfl,o⟩<;>refine Jh o ?_
 rw [tm1]
 (refine Jb ?_;unhygienic intros)
 refine Yb (Yf rfl ?_)
 refine Yc (Id3 c k F1 XTa Au4 tmA.c 1 1 1 (by omega)) ?_;rintro _ h ⟨rfl,o⟩<;>refine Jh o ?_
 rw [tm2]
 dsimp only
 (refine Jb ?_;unhygienic intros)
 refine Ys fun o=>(?_:Tr _ _ _ _) o;refine Je ?_
 refine Yf rfl ?_
 have A:=Iw0
 generalize XTb=Y0 at *
 have J:=Hg1 c k F1 Y0 Au4 A.a.c (by rw [A.t]) (slC true A5 1 a l.length cc (A0 l)) a true cc l (by omega)
 rw [A.t] at J
 dsimp only at J
 have B:=A.setT (B85 l Ar0 A.ok)
 obtain ⟨p1,p2,p3,_⟩:=Gv3 l Ar0 A.ok
 have hq:=B85 l Ar0 A.ok
 have hN:(I6 Ar0 l).2=((min l.length 32:Nat):Int):=by rw [p1];show min (l.length:Int) (32-0)=_;omega
 rw [hN] at J p2 p3
 rw [Int.toNat_natCast,show J6 Ar0=[] from rfl,List.nil_append] at p3
 replace p2:(I6 Ar0 l).1.count=((min l.length 32:Nat):Int):=by rw [p2];show (0:Int)+_=_;omega
 generalize hNN:min l.length 32=N at *
 generalize (I6 Ar0 l).1=q1 at *
 refine Yc J ?_
 rintro _ h ⟨rfl,o⟩
 refine Jh o ?_
 generalize EQ.setT Y0 q1=Y1 at *
 have J:=Bx8 c k F1 Y1 Au4 B 1 0 5 0 ⟨3,0,2,0⟩ (by omega) (by omega) Ib2 rfl rfl
 have w1:rdT VTb q1 0 1 5=(⟨[],125,false⟩,q1):=by
  have f1:Az0 VTb 0 1=125:=by unfold Az0;rw [H06.2];rfl
  unfold rdT;rw [f1,if_pos (.inl (by decide))]
 rw [w1] at J
 (refine Jc ?_;unhygienic intros)
 refine Yc J ?_
 rintro _ h ⟨a2,cap,Y2,B2,rfl,o⟩
 refine Jh o ?_
 replace B2:SeeT Y2 VTb q1 0:=B2
 (refine Jc ?_;unhygienic intros)
 refine Yn fun b1 h=>?_
 (refine Jb ?_;unhygienic intros)
 obtain ⟨q2,w2,h2,h3⟩:=Ho8 (V:=VTb) (g:=0) (i:=0) hq (by unfold Az0;rw [G88.2];rfl) (n:=5) (by omega)
 have J:=Bx8 c k F1 Y2 Au4 B2 0 0 5 0 ⟨3,0,2,0⟩ (by omega) (by omega) Ig4 rfl rfl
 rw [w2] at J
 refine Yc J ?_
 rintro _ h ⟨a3,cap3,Y3,B3,rfl,o⟩
 refine Jh o ?_
 replace B3:SeeT Y3 VTb q2 0:=B3
 (refine Jc ?_;unhygienic intros)
 refine Yn fun b2 h=>?_
 (refine Jb ?_;unhygienic intros)
 have m1:mm2 false (l.length:Int) 32=(N:Int):=by rw [S7];omega
 have m2:mm2 false (N:Int) 5=((min N 5:Nat):Int):=by rw [S7];omega
 have hbt:(J6 q1).take 5=l.take (min N 5):=by rw [p3,List.take_take,Nat.min_comm]
 rw [m1,m2]
 refine Yb (Yf (bne_self_eq_false ..) ?_)
 (refine Jb ?_;unhygienic intros)
 refine Ys fun o=>(?_:Tr _ _ _ _) o;refine Je ?_
 refine Yb (Yf rfl ?_)
 (refine Jb ?_;unhygienic intros)
 refine Ys fun o=>(?_:Tr _ _ _ _) o;refine Je ?_
 refine Yb (Yf rfl ?_)
 (refine Jb ?_;unhygienic intros)
 refine Ys fun o=>(?_:Tr _ _ _ _) o;refine Je ?_
 refine Yb (Yf (by rw [Bool.not_eq_false',beq_iff_eq,Bool.eq_iff_iff,decide_eq_true_iff,beq_iff_eq];omega) ?_)
 (refine Jb ?_;unhygienic intros)
 rw [hbt]
 refine P6 5 rfl fun hl2 hc2 _=>?_
 refine Tr.ck (by omega) ?_
 simp only [Int.toNat_natCast]
 refine Tr.xCellsP (n:=l.length) (sz:=1) (cs:=A0 l) (xs:=A0 (l.take (min N 5))) ⟨by omega,Gn8 ..⟩ ?_
 (refine Ja ?_;unhygienic intros)
 rw [beq_self_eq_true]
 refine Ys fun o=>(?_:Tr _ _ _ _) o;refine Je ?_
 refine Yf rfl ?_
 have J:=Es9 c k F1 Y3 Au4 B3 1 1 (by omega)
 have w3:∀ x,B31 VTb 0 1 1 x=(101,0):=fun x=>by
  unfold B31
  rw [if_neg (by rw [H06.1];simp),if_neg (by omega),if_pos (.inl (by rw [H06.2];decide))]
 rw [w3] at J
 refine Yc J ?_
 rintro _ h ⟨Y4,B4,rfl,o⟩
 refine Jh o ?_
 replace B4:SeeT Y4 VTb q2 0:=B4
 (refine Jc ?_;unhygienic intros)
 refine Yn fun b3 h=>?_
 (refine Jb ?_;unhygienic intros)
 have hz:0≤M7 .i64 g 7∧M7 .i64 g 7<8:=by rw [Iq9];omega
 generalize hzz:M7 .i64 g 7=z at *
 have J:=Es9 c k F1 Y4 Au4 B4 0 z (by omega)
 have w4:B31 VTb 0 0 z (B70 Y4 z)=(if z<2 then 0 else 101,if z<2 then z else 0):=by
  rw [tmh B4.a hz]
  unfold B31
  rw [if_neg (by rw [G88.1];simp),if_neg (by omega)]
  by_cases h2:z<2
  ·rw [if_neg (by rw [G88.2,decide_eq_true h2];simp),if_pos h2,if_pos h2]
  ·rw [if_pos (.inr (decide_eq_false h2)),if_neg h2,if_neg h2]
 rw [w4] at J
 refine Yc J ?_
 rintro _ h ⟨Y5,B5,rfl,o⟩
 refine Jh o ?_
 replace B5:SeeT Y5 VTb q2 (if z<2 then z else 0):=B5
 (refine Jc ?_;unhygienic intros)
 refine Yn fun b4 h=>?_
 (refine Jb ?_;unhygienic intros)
 have H:=fun w hw=>Ht0 k c b3 b4 Y5 q2 g z w hzz hz l N (by omega) hw (h3.trans (by rw [p3];rfl)) a cc B5
 by_cases h2:z<2
 ·rw [if_pos h2]
  refine Yt (decide_eq_true h2) ?_
  refine Q7 [1,6,1,0] 6 rfl rfl ?_
  exact Yr (H 0 (.inl ⟨h2,rfl⟩)) fun v h q=>q
 ·rw [if_neg h2]
  refine Yf (decide_eq_false h2) ?_
  refine Q7 [1,6,1,0] 6 rfl rfl ?_
  exact Yr (H 101 (.inr ⟨h2,rfl⟩)) fun v h q=>q
end Go.EQ

set_option maxRecDepth 100000
namespace Go.EQ
open Go Go.NN Go.Proofs Go.ChangeShapes Go.WideShapes Go.RowKit
theorem Io0:∀ f,(cutsOf f).globs=0:=Ew5 Ij3 (by kernel_rfl)
theorem Im1:∀ f,(cutsOf f).globs≤PR.globals.size:=fun f=>by rw [Io0 f];exact Nat.zero_le _
theorem In3:PR.follows .mixedOrders=true:=by kernel_rfl
theorem Ir7:laidOutB PR=true:=by kernel_rfl
theorem Iu2:ownKnob PR.godebug=none:=by kernel_rfl
end Go.EQ

set_option maxRecDepth 100000
namespace Go.EQ
open Go Go.NN Go.Proofs Go.Proofs.YtnmdbfbjdhgmlaaGreat Go.ChangeShapes Go.WideShapes Go.RowKit
theorem Io8 {H:Type} {enc:TypeId × Value→H} {W:World} {v0 v1:Value} {d0 d1:DataW H} {p0 p1:List MemPlace} {b0:Nat} (k0:Value.okWide PR W .any b0 Gr5 v0) (k1:Value.okWide PR W .any b0 B8 v1)
  (h0:DataW.Trod enc PR W 0 (fun _=>true) true Gr5 v0 d0 p0) (h1:DataW.Trod enc PR W 0 (fun _=>true) true B8 v1 d1 p1) :
  Calls PR I5 #[v0,v1] W fun e W'=>e=.returned (.bool true)∧Below W.heap.size W W':=by
 obtain ⟨x0,hl0,i0⟩:=(Aj2.bytes (P:=PR) (W:=W) A5 Gv5 In4 (by kernel_rfl)).arg (Hh7 Gv5 k0) h0
 obtain ⟨x1,_,i1⟩:=Aj2.argInt Iu5 k1 h1
 refine (i0.app i1).run In3 Im1 fun vs ps J hh r o=>?_
 obtain ⟨_,_,_,_,hv0,hp0,⟨⟨a0,c0⟩,e0a,e0b⟩,⟨e1a,e1b⟩⟩:=J
 subst e0a
 subst e0b
 subst e1a
 subst e1b
 subst hv0
 subst hp0
 have O:Own hh ([(slC true A5 1 a0 x0.length c0 (A0 x0))]++r):=by
  exact o
 obtain ⟨v,h',e,rfl,_⟩:=He8 a0 c0 x0 x1 hh r O
 exact ⟨h',e⟩
theorem Ig5 (os:Os) (started:os.Started) (H:Type) (enc:TypeId × Value→H) :
  ReturnsInHanded {} Tryz.checked os I5 .any (Rows.pipesTermSpec.pre6 enc Tryz.prog Tryz.f8 Rows.pipesTermRow.domain false) (Rows.pipesTermSpec.post enc Tryz.prog Tryz.f8 false true false false):=by
 refine returnsInHanded_of_change (C:=Tryz.checked) Iu2 started (by kernel_rfl) Tryz.func8
  (ChangeSpec.witness6 (enc:=enc) (C:=Tryz.checked) false ⟨#[],#[.slice none 0 0,.int .i64 0],[]⟩ 8 (by kernel_rfl) (by kernel_rfl) (by kernel_rfl) (by kernel_rfl)) ?_
 intro W base args ds gs before hval hW hcnd _
 have hW':=hW
 obtain ⟨p,q,hA,hV,rfl,hfz,hnd⟩:=hW
 rw [Tryz.params8] at hA hval
 obtain ⟨v0,v1,d0,d1,p0,p1,rfl,rfl,rfl,h0,h1⟩:=trodAll_two hA
 refine (Io8 (hval 0 _ v0 rfl rfl) (hval 1 _ v1 rfl rfl) h0 h1).mono fun e W' ⟨he,hb⟩=>?_
 subst he
 refine ⟨_,rfl,H36 Ir7 ?_ rfl Ir4 rfl (fun ds gs hl=>?_) hW' hb⟩
 ·rw [Tryz.params8];intro t ht;simp at ht;rcases ht with rfl|rfl<;>exact ⟨by kernel_rfl,of_decide_eq_true (by kernel_rfl)⟩
 ·replace hl:ds.length=2:=hl
  cases gs with
  | cons _ _=>exact .inr (by simp)
  | nil=>match ds,hl with|[_,_],_=>exact .inl rfl
theorem Ir2:Tryz.pinned.checked.prog.funcNamed Rows.pipesTermRow.func=some I5:=by kernel_rfl
theorem Ii1:joinedFacts Tryz.pinned.checked.prog I5 Tryz.f8 Rows.pipesTermSpec Rows.pipesTermRow=true:=by kernel_rfl
theorem Iq2:Tryz.f8.isInstance Tryz.pinned.checked.prog Rows.pipesTermRow.origin Rows.pipesTermRow.targs:=of_decide_eq_true (by kernel_rfl)
theorem It3:Tryz.f8.isWrapper Tryz.pinned.checked.prog Rows.pipesTermRow.wrapper Rows.pipesTermRow.mainSum:=by unfold Func.isWrapper;first|(rw [if_pos (by decide +kernel)];kernel_rfl)|(rw [if_neg (by decide +kernel)];exact ⟨rfl,rfl⟩)
theorem PipesTerm_holds:Rows.PipesTermSaid :=
 OpenClaim.holds_of_wide I5 Tryz.f8 rfl rfl rfl rfl rfl rfl rfl ⟨rfl,rfl,rfl,rfl,rfl⟩ rfl rfl rfl rfl rfl Ir2 Tryz.func8 Ii1 Iq2 It3
  (fun os started H enc _=>Ig5 os started H enc)
end Go.EQ
