/- One that is stopped does nothing till it goes on, and holds nobody up; then its call is done. -/
import Derived.Test.YtonlefldpebcpaaGreatDoorMh
import Derived.KernelRfl
set_option linter.all false
set_option maxRecDepth 10000
namespace Go.EQ
open Go Go.NN
theorem Gm9 (k:Nat) (S:KS) (A:KA):CtP A6 Ar0 [P0 k] [pt k (.cells D89 false (E51 S A))] (P0 A.s):=by
 refine CtP.of E83 rfl fun h r=>Tr.eq (E56 ..) ?_;refine Je ?_
 exact Jz
theorem Hx1 (k:Nat) (S:KS) (N:Nat) (ok:KOk N S) (env:Int):Ct A6 Aq1 [P0 k,int env] [D4 k S] fun v own =>
  (Av8 S.tabs env≠[]∧∃ c,v=.tuple ⟨[P0 c,int 0]⟩∧own [Y4 c k env (Av8 S.tabs env) [],D4 k S])∨(Av8 S.tabs env=[]∧v=.tuple ⟨[.pointer none,int 1]⟩∧own [D4 k S]):=by
 refine Ct.of G33 rfl fun h r=>Tr.eq (G43 ..) ?_;refine Je ?_
 refine A9 (D4 k S) fun ⟨m,s,q,rg,ea,ec,ma,mc,ms,sa,sc,ss⟩=>?_;refine Je ?_
 (refine Jb ?_;intros)
 refine Yb (Yf rfl ?_)
 refine Tr.pcall (Gm9 k S ⟨m,s,q,rg,ea,ec,ma,mc,ms,sa,sc,ss⟩) ?_;refine Je ?_;(refine Ja ?_;intros)
 try dsimp only
 refine Yc (Gm1 s S.tabs env ok.space) ?_;rintro _ h ⟨a0,c0,rfl,o⟩<;>refine Jh o ?_
 (refine Ja ?_;intros)
 refine Ys fun o=>(?_:Tr _ _ _ _) o;refine Je ?_
 by_cases hz:Av8 S.tabs env=[]
 ·refine Yt (by simp [hz]) ?_
  refine A7 (D4 k S) ⟨m,s,q,rg,ea,ec,ma,mc,ms,sa,sc,ss⟩ ?_;refine Je ?_
  refine Ys fun o=>?_
  exact .inr ⟨hz,rfl,o.sub⟩
 ·refine Yf ?_ ?_
  ·rw [beq_eq_false_iff_ne]
   intro h0
   exact hz (List.eq_nil_of_length_eq_zero (by omega))
  refine Tr.pcall (Gm9 k S ⟨m,s,q,rg,ea,ec,ma,mc,ms,sa,sc,ss⟩) ?_;refine Je ?_;(refine Ja ?_;intros)
  try dsimp only
  refine Yc (Gm1 s S.tabs env ok.space) ?_;rintro _ h ⟨a1,c1,rfl,o⟩<;>refine Jh o ?_
  (refine Jc ?_;intros)
  refine Yn fun mb h=>?_
  refine Yn fun c h=>?_
  refine A7 (D4 k S) ⟨m,s,q,rg,ea,ec,ma,mc,ms,sa,sc,ss⟩ ?_;refine Je ?_
  refine E4 (Y4 c k env (Av8 S.tabs env) []) (a1,c1,mb) [1,2,1] rfl ?_;refine Je ?_
  refine Ys fun o=>?_
  exact .inl ⟨hz,c,rfl,o.sub⟩
def Bb4:PlanS:=⟨[false,false],[(0,1),(1,0)],5⟩
theorem Il8:Ct A6 B84 [] [] fun v own=>∃ A,v=.agg ⟨E21 Bb4 A⟩∧own (Dq3 Bb4 A):=by
 refine Ct.of Hd0 rfl fun h r=>Tr.eq (Hc0 ..) ?_;refine Je ?_
 (refine Jc ?_;intros;rename H=>h)
 refine Yn fun b h=>?_
 refine Yn fun b1 h=>?_
 refine Yn fun b2 h=>?_
 (refine Ja ?_;intros;rename H=>h)
 refine Ao6 0 rfl 2 2 rfl (by omega) ?_
 refine Ao6 1 rfl 1 2 rfl (by omega) ?_
 refine Je ?_
 refine Ys fun o=>?_
 exact ⟨⟨some ⟨b1,0,none⟩,2,some ⟨b2,0,none⟩,2⟩,rfl,(show Own h (slC false B35 2 (some ⟨b2,0,none⟩) Bb4.brs.length 2 (Bb4.brs.flatMap brL)::slC false Gp4 1 (some ⟨b1,0,none⟩) Bb4.bad.length 2 (Bb4.bad.map Value.bool)::_) from o).sub⟩
def Ad7:BootS:=Ew9 Bb4
theorem G94:Bv4 Ad7=true:=by kernel_rfl
theorem E94:Small Ad7:=by
 have e:Ad7=⟨[20,20],[0,0,0,0,0,0,0,0,0,1,1,1,1,1,1,1,1,1],[[0],[1]],5,[⟨0,0,0,492,[0]⟩,⟨1,0,0,492,[1]⟩,⟨0,8,0,40,[0,1]⟩,⟨1,9,0,40,[1,0]⟩]⟩:=by kernel_rfl
 rw [e]
 exact ⟨by simp [A8],by simp [A8],by simp [A8]⟩
theorem Bm2:Ad7=⟨[20,20],[0,0,0,0,0,0,0,0,0,1,1,1,1,1,1,1,1,1],[[0],[1]],5,[⟨0,0,0,492,[0]⟩,⟨1,0,0,492,[1]⟩,⟨0,8,0,40,[0,1]⟩,⟨1,9,0,40,[1,0]⟩]⟩:=by kernel_rfl
theorem Is0:RBoot Ad7 (Al3 Ad7.frames):=by
 rw [Bm2]
 refine ⟨by simp,by simp,by simp,fun x hx=>?_,fun x hx=>?_⟩
 ·simp only [List.mem_cons,List.not_mem_nil,or_false] at hx
  rcases hx with rfl|rfl|rfl|rfl<;>simp [A8]
 ·simp only [List.mem_cons,List.not_mem_nil,or_false] at hx
  rcases hx with rfl|rfl|rfl|rfl<;>simp [Al3]
def S00:KS:=D60 Ad7
theorem Ha7:KOk 0 S00:=Iw8 G94 E94
def wrS (S:KS) (cap:Int) (b:List UInt8):KS:=(W5 S 0 ⟨2,cap,0,0,0,0,b⟩).2
def S0:KS:=wrS S00 256 Ad5
theorem I50:(W5 S00 0 ⟨2,256,0,0,0,0,Ad5⟩).1.1=0:=by kernel_rfl
theorem Ir6:Av8 S00.tabs 0=[256,257,258]:=by kernel_rfl
def wrR (K:RKS) (cap:Int) (b:List UInt8):RKS:={ K with R:=(Ak8 K.R 0 cap 0 b).2 }
def K0:RKS:=wrR (De1 Ad7) 256 Ad5
theorem Dz7:RKOk (De1 Ad7)∧(De1 Ad7).B=Ad7:=Ix2 (by rw [Bm2];simp) (by rw [Bm2];simp)
theorem Es3 {K:RKS} (k:RKOk K) (cap:Int) (b:List UInt8):RKOk (wrR K cap b):=Iv4 k 0 cap 0 b
theorem In0:B54 K0 0≠[]:=by
 have:B54 K0 0=[256,257,258]:=by kernel_rfl
 rw [this];simp
theorem Ad6:Ad5.length=492:=by kernel_rfl
theorem Dw9 {l:List HP} {h:H} {α:Type} {Q:α→H→Prop} {x:Option (α × H)} (i:Nat) {b n:Nat} {cs:List Value} (hi:l[i]?=some (pt b (.cells A4 false cs))) (hn:cs.length=n) (t:Tr (l.set i (slC false A4 1 (some (N7 b)) n n cs)) h x Q):Tr l h x Q:=fun o=>by
 refine t (Own.back (h:=h) hi ?_)
 have o1:=o.front hi
 refine Own.slShut (pre:=[]) (post:=[]) (by simpa using o1) ⟨by omega,Nat.le_refl _,by simp,by simp,by simp,by omega,by simp⟩
theorem Iu4 (A:PlA):Ct A6 Bm3 [.agg ⟨E21 Bb4 A⟩] (Dq3 Bb4 A) fun v own =>
  ∃ k c w m,v=.tuple ⟨[P0 k,P0 c,P0 w,P0 m]⟩∧own [D4 k S0,Y4 c k 0 [256,257,258] [],rkC w K0,rcC m w 0 (B54 K0 0) []]:=by
 have hB:Ew9 Bb4=Ad7:=rfl
 obtain ⟨ba,bc,ra,rc⟩:=A
 refine Ct.of G95 rfl fun h r=>Tr.eq (Hh6 ..) ?_;refine Je ?_
 refine Yn fun b0 h=>?_
 (refine Ja ?_;intros)
 refine Yc (Is1 Bb4 ⟨ba,bc,ra,rc⟩ (by simp [Bb4]) (by simp [Bb4])) ?_;rintro _ h ⟨A,kA,rfl,o⟩<;>refine Jh o ?_
 rw [hB] at kA ⊢
 obtain ⟨fa,fc,ea,ec,sa,sc,ss,ha,hc,hs⟩:=A
 (refine Jc ?_;intros)
 refine Yn fun b1 h=>?_
 (refine Ja ?_;intros)
 have J:=Ix5 false Ad7 ⟨fa,fc,ea,ec,sa,sc,ss,ha,hc,hs⟩ kA E94
 simp only [G94,if_true] at J
 refine Yc (J) ?_;rintro _ h ⟨k,rfl,o⟩<;>refine Jh o ?_
 (refine Jb ?_;intros)
 refine Yb (Yf rfl ?_)
 refine Ys fun o=>(?_:Tr _ _ _ _) o;refine Je ?_
 refine Yf rfl ?_
 (refine Ja ?_;intros)
 refine Yc (Ho4 Ad7 ⟨fa,fc,ea,ec,sa,sc,ss,ha,hc,hs⟩ kA (by rw [Bm2];simp) Is0) ?_;rintro _ h ⟨w,rfl,o⟩<;>refine Jh o ?_
 (refine Ja ?_;intros)
 refine Yc (Hx1 k (D60 Ad7) 0 Ha7 0) ?_
 rintro v h (⟨hz,c,rfl,o⟩|⟨hz,rfl,o⟩)
 case inr=>exact absurd hz (by rw [show D60 Ad7=S00 from rfl,Ir6];simp)
 rw [show D60 Ad7=S00 from rfl,Ir6] at o
 refine (?_:Tr _ _ _ _) o
 refine Je ?_
 (refine Jb ?_;intros)
 refine Yb (Yf rfl ?_)
 refine Ys fun o=>(?_:Tr _ _ _ _) o;refine Je ?_
 refine Yf rfl ?_
 refine Yc (G15) ?_;rintro _ h ⟨rfl,o⟩<;>refine Jh o ?_
 (refine Jc ?_;intros)
 refine Tr.ck (by rw [A86,Ad6];simp [A8]) ?_
 rw [A86,Ad6]
 refine Yn fun b2 h=>?_
 refine Dw9 (n:=492) 0 rfl (by rw [Y0,show (bs Ad5).data.toList=Ad5 from rfl,Ad6]) ?_
 refine Je ?_
 have J2:=Ed7 k S00 0 Ha7 (by omega) 0 ⟨2,256,0,0,0,0,Ad5⟩ (some (N7 b2)) 492 false (show ((2:Int)≠5) by decide)
 simp only [Ad6] at J2
 refine By7 J2 [2,0] rfl ?_
 rintro _ h ⟨y,d,rfl,o⟩
 rw [I50]
 rw [show (W5 S00 0 ⟨2,256,0,0,0,0,Ad5⟩).2=S0 from rfl] at o
 refine (?_:Tr _ _ _ _) o
 refine Je ?_
 (refine Jc ?_;intros)
 refine Yf rfl ?_
 refine Tr.ck (by simp [A8]) ?_
 refine Yn fun b3 h=>?_
 refine Dw9 (n:=492) 0 rfl (by rw [Y0,Ad6]) ?_
 refine Je ?_
 have J3:=E23 w (De1 Ad7) Dz7.1 0 (by rw [Dz7.2,Bm2];simp) ⟨2,256,0,0,0,0,Ad5⟩ rfl (by rw [Ad6];simp [A8]) (slC false A4 1 (some (N7 b3)) Ad5.length 492 (A0 Ad5)) (some (N7 b3)) 492 false
 simp only [Ad6] at J3
 refine Yc J3 ?_
 rintro _ h ⟨rfl,o⟩
 rw [show ({ De1 Ad7 with R:=(Ak8 (De1 Ad7).R ((0:Nat):Int) 256 0 Ad5).2 }:RKS)=K0 from rfl] at o
 refine (?_:Tr _ _ _ _) o
 refine Je ?_
 (refine Ja ?_;intros)
 refine Yc (Ea4 w K0 (Es3 Dz7.1 256 Ad5) 0 (by show (0:Nat)<(De1 Ad7).B.envs.length;rw [Dz7.2,Bm2];simp)) ?_
 rintro v h (⟨_,m,rfl,o⟩|⟨hn,rfl,o⟩)
 case inr=>exact absurd hn In0
 refine (?_:Tr _ _ _ _) o
 refine Je ?_
 (refine Ja ?_;intros)
 refine Ys fun o=>?_
 exact ⟨k,c,w,m,rfl,o.sub⟩
def B89 (mem:List UInt8) (rg:Rg):List (List UInt8):=rg.map fun p=>slice mem p.1 p.2
theorem G87 {mem:List UInt8} {rg:Rg} {j lo n:Nat} (h:rg[j]?=some (lo,n)):(B89 mem rg)[j]?=some (slice mem lo n):=by unfold B89;rw [List.getElem?_map,h];rfl
theorem Hd5 {mem:List UInt8} {rg:Rg} (h:∀ (j lo n:Nat),rg[j]?=some (lo,n)→lo+n≤mem.length):Fit mem.length rg (B89 mem rg):=⟨by simp [B89],fun j lo n hj=>⟨h j lo n hj,slice mem lo n,G87 hj,Gy7 (h j lo n hj)⟩⟩
theorem Ik9 {mem:List UInt8} {rg:Rg} (k:RgOk rg) (h:∀ (j lo n:Nat),rg[j]?=some (lo,n)→lo+n≤mem.length):U8 mem rg (B89 mem rg)=mem:=by
 have f:=Hd5 h
 refine List.ext_getElem? fun i=>?_
 by_cases ho:∃ (j lo n:Nat),rg[j]?=some (lo,n)∧lo≤i∧i<lo+n
 ·obtain ⟨j,lo,n,hj,h1,h2⟩:=ho
  obtain ⟨i',rfl⟩:∃ i',i=lo+i':=⟨i-lo,by omega⟩
  rw [Da8 f k j lo n _ hj (G87 hj) i' (by omega),B15,if_pos (by omega)]
 ·exact Dy1 f i fun j lo n hj=>by
   by_cases hh:lo≤i∧i<lo+n
   ·exact absurd ⟨j,lo,n,hj,hh.1,hh.2⟩ ho
   ·omega
theorem FrOk.room {F:Fr} {j lo n:Nat} (f:Fit F.S.mem.length F.rg (B89 F.S.mem F.rg)) (h:F.rg[j]?=some (lo,n)):lo+n≤F.S.mem.length:=(f.each j lo n h).1
theorem Fr.at_cut {F:Fr} (k:FrOk F) (h:∀ (j lo n:Nat),F.rg[j]?=some (lo,n)→lo+n≤F.S.mem.length):F.at (B89 F.S.mem F.rg)=F.S:=by
 unfold Fr.at;rw [Ik9 k.dj h];rfl
theorem Own.cmTake {r:List HP} {h:H} (c k:Nat) (F:Fr) (bad:List RecS) (ok:FrOk F) (hr:∀ (j lo n:Nat),F.rg[j]?=some (lo,n)→lo+n≤F.S.mem.length) (o1:Own h (D4 k F.S::Y4 c k F.env F.caps bad::r)):Own h (cmC c k F ⟨B89 F.S.mem F.rg,bad⟩::r):=by
 refine Own.inex (f:=fun u:Unit=>sl (cmF c k F ⟨B89 F.S.mem F.rg,bad⟩)) () (Own.group (l:=cmF c k F ⟨B89 F.S.mem F.rg,bad⟩) ?_)
 show Own h (D4 k (F.at (B89 F.S.mem F.rg))::Y4 c k F.env F.caps bad::pu _::r)
 rw [Fr.at_cut ok hr]
 have o2:=Own.inpure (show Fit F.S.mem.length F.rg (B89 F.S.mem F.rg) from Hd5 hr) o1
 exact o2.picks [1,1,0] rfl
theorem I23 {l r:List HP} {h:H} {α:Type} {Q:α→H→Prop} {x:Option (α × H)} (c k:Nat) (F:Fr) (X:CX) [tk:Take (cmC c k F X) l r]
  (t:Fit F.S.mem.length F.rg X.m→Tr (D4 k (F.at X.m)::Y4 c k F.env F.caps X.bad::r) h x Q):Tr l h x Q:=fun o=>by
 have o1:Own h (cmC c k F X::r):=o.perm tk.pm
 obtain ⟨u,o2⟩:=Own.ex (f:=fun u:Unit=>sl (cmF c k F X)) o1
 have o3:Own h (D4 k (F.at X.m)::Y4 c k F.env F.caps X.bad::pu (Fit F.S.mem.length F.rg X.m)::r):=Own.join o2
 have f:=(o3.front (i:=2) rfl).pure
 exact t f (o3.front (i:=2) rfl).tail
theorem H16 {S:KS} {env cap obj:Int} {lo n:Nat} {e1 e2:Int} (hg:Bw6 S.tabs env cap=some ⟨obj,3,0,(n:Int),e1,e2⟩) (h0:0≤obj) (hr:S.regs[obj.toNat]?=some ((lo:Int),(n:Int))) (hl:lo+n≤65536) :
  ∀ (a m:Nat) (right:Int),right=1∨right=2→a+m≤n→S5 S.tabs S.regs env cap right a m=(((lo+a:Nat):Int),0):=by
 intro a m right hri ha
 have hlt:=(List.getElem?_eq_some_iff.1 hr).1
 unfold S5
 rw [hg]
 have b1:(D2 .i64 3 1==0)=false:=by kernel_rfl
 have b2:(D2 .i64 3 2==0)=false:=by kernel_rfl
 have hb:¬ ((D2 .i64 3 right==0)=true):=by rcases hri with rfl|rfl<;>simp [b1,b2]
 simp only
 have h2:(decide ((a:Int)<0) || decide ((m:Int)<0) || decide ((a:Int)>(n:Int)) || decide ((m:Int)>IntKind.wrap .i64 ((n:Int)-a)) || decide (obj<0) || decide (obj≥S.regs.length))=false:=by
  simp only [Bool.or_eq_false_iff,decide_eq_false_iff_not,B4];omega
 have h3:(decide (IntKind.wrap .i64 (0+(a:Int))>(n:Int)) || decide ((m:Int)>IntKind.wrap .i64 (IntKind.wrap .i64 ((n:Int)-0)-a)))=false:=by
  simp only [Bool.or_eq_false_iff,decide_eq_false_iff_not,B4];omega
 have h4:IntKind.wrap .i64 (IntKind.wrap .i64 ((lo:Int)+0)+a)=((lo+a:Nat):Int):=by simp only [B4];omega
 rw [if_neg hb]
 simp only [h2,hr,h3,h4,Bool.false_eq_true,if_false]
structure Like (S:KS):Prop where
 ok:KOk 0 S
 tabs:S.tabs=S00.tabs
 regs:S.regs=S00.regs
 envs:S.envs=S00.envs
 mem:S.mem.length=2560
theorem Ef1 {S:KS} (k:Like S) {m:List UInt8} (h:m.length=2560):Like (J9 S m) :=
 ⟨⟨k.ok.envs,k.ok.tabs,k.ok.space,k.ok.quota,by show m.length≤65536;omega,k.ok.regs,k.ok.may,k.ok.mayl,k.ok.nsect,k.ok.sects,k.ok.now⟩,k.tabs,k.regs,k.envs,h⟩
theorem Iz3:Like S00:=⟨Ha7,rfl,rfl,rfl,by kernel_rfl⟩
theorem Iw5 (S:KS) (k:Like S) (cap:Int) (b:List UInt8):Like (wrS S cap b):=by
 unfold wrS W5
 split
 ·exact k
 ·exact Ef1 k (by rw [H01];exact k.mem)
theorem D30:Like S0:=Iw5 S00 Iz3 256 Ad5
def rgP (s:Nat):Rg:=[(1280*s,492),(512,40),(1856,40)]
def frP (S:KS) (s:Nat) (env:Int):Fr:=⟨S,0,env,[256,257,258],rgP s⟩
theorem G77:S00.regs=[(0,492),(1280,492),(512,40),(1856,40)]:=by kernel_rfl
theorem Iz1:S00.envs.length=18:=by kernel_rfl
structure EnvP (s:Nat) (env:Int):Prop where
 hs:s<2
 he:0≤env∧env<18
 a:Bw6 S00.tabs env 256=some ⟨s,3,0,492,0,0⟩
 b:Bw6 S00.tabs env 257=some ⟨2,3,0,40,0,0⟩
 c:Bw6 S00.tabs env 258=some ⟨3,3,0,40,0,0⟩
theorem Gf4:EnvP 0 0:=⟨by omega,by omega,by kernel_rfl,by kernel_rfl,by kernel_rfl⟩
theorem I44:EnvP 0 3:=⟨by omega,by omega,by kernel_rfl,by kernel_rfl,by kernel_rfl⟩
theorem Ed1 {s j lo n:Nat} (h:(rgP s)[j]?=some (lo,n)):(j=0∧lo=1280*s∧n=492)∨(j=1∧lo=512∧n=40)∨(j=2∧lo=1856∧n=40):=by
 unfold rgP at h
 match j,h with
 | 0,h=>simp at h;omega
 | 1,h=>simp at h;omega
 | 2,h=>simp at h;omega
 | j+3,h=>simp at h
theorem Ef7 {S:KS} (k:Like S) {s:Nat} (hs:s<2) (env:Int):∀ (j lo n:Nat),(frP S s env).rg[j]?=some (lo,n)→lo+n≤(frP S s env).S.mem.length:=by
 intro j lo n h
 have hm:=k.mem
 have:=Ed1 h
 show lo+n≤S.mem.length
 omega
theorem Gn2 {S:KS} (k:Like S) {s:Nat} {env:Int} (e:EnvP s env):FrOk (frP S s env):=by
 have hs:=e.hs;have he:=e.he
 refine ⟨k.ok,by simp [frP],by simp [frP],by simp [frP],by simp [frP,rgP],?_,?_,?_,⟨1280*s,rfl⟩,?_⟩
 ·show ¬ (env<0∨env≥(S.envs.length:Int))
  rw [k.envs,Iz1];omega
 ·intro j cap lo n hc hr
  show ∀ (a m:Nat) (right:Int),right=1∨right=2→a+m≤n→S5 S.tabs S.regs env cap right a m=_
  have hg:=Ed1 hr
  rcases hg with ⟨rfl,rfl,rfl⟩|⟨rfl,rfl,rfl⟩|⟨rfl,rfl,rfl⟩
  ·cases hc
   refine H16 (obj:=s) (e1:=0) (e2:=0) (by rw [k.tabs];exact e.a) (by omega) ?_ (by omega)
   rw [k.regs,G77,Int.toNat_natCast]
   match s,hs with
   | 0,_=>rfl
   | 1,_=>rfl
  ·cases hc
   exact H16 (obj:=2) (e1:=0) (e2:=0) (by rw [k.tabs];exact e.b) (by omega) (by rw [k.regs,G77];rfl) (by omega)
  ·cases hc
   exact H16 (obj:=3) (e1:=0) (e2:=0) (by rw [k.tabs];exact e.c) (by omega) (by rw [k.regs,G77];rfl) (by omega)
 ·intro i j lo n lo' n' hij hi hj
  have h1:=Ed1 hi;have h2:=Ed1 hj
  omega
 ·intro j lo n h0 h
  have:=Ed1 h;omega
abbrev F0:Fr:=frP S0 0 0
def X0:CX:=⟨B89 S0.mem (rgP 0),[]⟩
theorem Iq6:FrOk F0:=Gn2 D30 Gf4
theorem Im7 (A:PlA):Ct A6 Bm3 [.agg ⟨E21 Bb4 A⟩] (Dq3 Bb4 A) fun v own =>
  ∃ k c w m,v=.tuple ⟨[P0 k,P0 c,P0 w,P0 m]⟩∧own [cmC c k F0 X0,rkC w K0,rcC m w 0 (B54 K0 0) []]:=by
 intro h r o
 obtain ⟨v,h',e,k,c,w,m,hv,o2⟩:=Iu4 A h r o
 refine ⟨v,h',e,k,c,w,m,hv,?_⟩
 exact Own.cmTake c k F0 [] Iq6 (Ef7 D30 (by omega) 0) o2
theorem Ad2 {x:Int} (h:0≤x∧x<256):((b8 x).toNat:Int)=x:=by rw [← Bl7,Do9];omega
theorem Hf5 {p:PipeS} (h:okP p=true):Y5 (N0 p)=(p,1):=by
 have hk:=h
 simp only [okP,Bool.and_eq_true,decide_eq_true_eq] at h
 have e:Bh8 (N0 p)=p:=by
  obtain ⟨a,b,c,d,l,hl⟩:=p
  simp only at h
  have h1:=Ad2 (x:=a) (by omega);have h2:=Ad2 (x:=b) (by omega);have h3:=Ad2 (x:=c) (by omega);have h4:=Ad2 (x:=d) (by omega)
  simp [Bh8,N0,Ak6,Eh1 hl]
  exact ⟨h1,h2,h3,h4⟩
 have hz:(N0 p).all (·==0)=false:=by simp [N0,Ak6]
 unfold Y5 isP
 rw [hz,e,hk]
 simp
theorem Gh2 {l b:List UInt8} {a c n:Nat} (h:a+b.length≤l.length) (hd:c+n≤a∨a+b.length≤c):slice (N8 l a b) c n=slice l c n:=by
 refine List.ext_getElem? fun i=>?_
 rw [B15,B15]
 split
 ·rw [Bo1 h,if_neg (by omega)]
 ·rfl
theorem Gp9 {l b:List UInt8} {a:Nat} (h:a+b.length≤l.length):slice (N8 l a b) a b.length=b:=by
 refine List.ext_getElem? fun i=>?_
 rw [B15]
 split
 ·rw [Bo1 h,if_pos (by omega)];congr 1;omega
 ·rw [List.getElem?_eq_none (by omega)]
abbrev Ir3:List Int:=[256,257,258]
theorem Ed2 (n:Int):BitVec.ofInt 64 (IntKind.wrap .i64 n)=BitVec.ofInt 64 n:=by
 apply BitVec.eq_of_toNat_eq
 rw [BitVec.toNat_ofInt,BitVec.toNat_ofInt,B4];omega
theorem E02 (x:BitVec 64):BitVec.ofInt 64 (x.toNat:Int)=x:=by
 apply BitVec.eq_of_toNat_eq
 have:=x.isLt
 rw [BitVec.toNat_ofInt];omega
theorem I47 (a b:Int):BitVec.ofInt 64 (D2 .i64 a b)=BitVec.ofInt 64 a &&& BitVec.ofInt 64 b:=by
 unfold D2;rw [Ed2];exact E02 _
theorem Iz2 (a b:Int):BitVec.ofInt 64 (J7 .i64 a b)=BitVec.ofInt 64 a &&& ~~~ BitVec.ofInt 64 b:=by
 unfold J7;rw [Ed2];exact E02 _
theorem Hc5 {a b:Int} (h:BitVec.ofInt 64 a &&& BitVec.ofInt 64 b=0#64):D2 .i64 a b=0:=by
 unfold D2
 rw [show IntKind.bits .i64=64 from rfl,h];rfl
theorem Iy3 {a b:Int} (h:BitVec.ofInt 64 a &&& ~~~ BitVec.ofInt 64 b=0#64):J7 .i64 a b=0:=by
 unfold J7
 rw [show IntKind.bits .i64=64 from rfl,h];rfl
def nx (l:List Int) (k:Nat):Int:=if k>l.length then 7*k else l.getD (k-1) 0%16777216
structure InS (p:ProcS):Prop where
 a:0≤p.pending∧p.pending≤65535
 b:0≤p.mask∧p.mask≤65535
 c:0≤p.ignored∧p.ignored≤65535
 d:0≤p.caught∧p.caught≤65535
theorem Hg3 {p:ProcS} (h:okS p=true) (r:InS p):Aa3 (Az7 p)=(p,1):=by
 have hk:=h
 obtain ⟨ra,rb,rc,rd⟩:=r
 have e:Bh2 (Az7 p)=p:=by
  obtain ⟨st,pa,gr,co,pe,ma,ig,ca,fds,hl⟩:=p
  simp only at ra rb rc rd
  unfold okS at h
  simp only [Bool.and_eq_true,Bool.not_eq_true',Bool.or_eq_false_iff,decide_eq_false_iff_not,List.any_eq_false] at h
  match fds,hl with
  | [f0,f1,f2,f3,f4,f5,f6,f7],hl =>
   have hf:=h.2.2.1
   simp at hf
   have two_b:∀ n:Int,0≤n∧n≤65535→((hi2 n).toNat:Int)*256+((lo2 n).toNat:Int)=n:=fun n hn=>by
    unfold hi2 lo2
    rw [if_pos hn,if_pos hn,Ad2 (by omega),← Bl7,Do9];omega
   have g0:=h.1
   simp only [Bh2,Az7,Eh7,two]
   simp
   refine ⟨Ad2 (by omega),Ad2 (by omega),Ad2 (by omega),Ad2 (by omega),two_b _ ra,two_b _ rb,two_b _ rc,two_b _ rd,Ad2 (by omega),Ad2 (by omega),Ad2 (by omega),Ad2 (by omega),Ad2 (by omega),Ad2 (by omega),Ad2 (by omega),Ad2 (by omega)⟩
 have hz:(Az7 p).all (·==0)=false:=by
  simp [Az7,Eh7]
 unfold Aa3 isS
 rw [hz,e,hk]
 simp
theorem Iz9:A18 0 0=true:=by kernel_rfl
theorem Il4:EnvP 0 1:=⟨by omega,by omega,by kernel_rfl,by kernel_rfl,by kernel_rfl⟩
def stR (kind:Int) (l:List UInt8):Int:=if kind=1 then (Aa3 l).2 else if kind=2 then (Aa6 l).2 else if kind=5 then (Aq5 l).2 else (Y5 l).2
def rd (X:CX) (r:RecS):List UInt8 :=
 match J8 X.m.length r with
 | some (j,a,n)=>slice (X.m.getD j []) a n
 | none=>[]
structure Clean (nc:Nat) (X:CX):Prop where
 len:X.m.length=nc
 pos:0<nc
 bad:X.bad=[]
 own:(X.m.getD 0 []).length=492
 brs:∀ j,0<j→j<nc→(X.m.getD j []).length=40
 ok:∀ r:RecS,1≤r.kind→r.kind≤5→0≤r.index→r.index<Ab6 nc r.kind→stR r.kind (rd X r)≠2
structure Rin (nc:Nat) (r:RecS):Prop where
 a:1≤r.kind
 b:r.kind≤5
 c:0≤r.index
 d:r.index<Ab6 nc r.kind
theorem Rin.place {nc:Nat} {r:RecS} (h:Rin nc r) (hn:0<nc):∃ j a,J8 nc r=some (j,a,Ah3 r.kind)∧j<nc∧(j=0→a+Ah3 r.kind≤492)∧(0<j→a=0∧Ah3 r.kind=40):=by
 obtain ⟨h1,h2,h3,h4⟩:=h
 obtain ⟨k,i⟩:=r
 simp only at h1 h2 h3 h4
 have hk:k=1∨k=2∨k=3∨k=4∨k=5:=by omega
 unfold J8 Ah3
 simp only
 rw [if_neg (by omega)]
 rcases hk with rfl|rfl|rfl|rfl|rfl
 ·exact ⟨0,_,rfl,hn,fun _=>by simp [Ab6] at h4 ⊢;omega,fun h=>by omega⟩
 ·exact ⟨0,_,rfl,hn,fun _=>by simp [Ab6] at h4 ⊢;omega,fun h=>by omega⟩
 ·simp only [Ab6] at h4
  by_cases h5:i<4
  ·exact ⟨0,_,by simp [h5];rfl,hn,fun _=>by simp;omega,fun h=>by omega⟩
  ·exact ⟨i.toNat-3,0,by simp [h5],by simp at h4;omega,fun h=>by omega,fun _=>⟨rfl,rfl⟩⟩
 ·exact ⟨0,_,rfl,hn,fun _=>by simp,fun h=>by omega⟩
 ·exact ⟨0,_,rfl,hn,fun _=>by simp,fun h=>by omega⟩
theorem In7 {nc:Nat} {r r':RecS} (h:Rin nc r) (h':Rin nc r') (ne:r≠r') {j a n j' a' n':Nat} (e:J8 nc r=some (j,a,n)) (e':J8 nc r'=some (j',a',n')):j≠j'∨a+n≤a'∨a'+n'≤a:=by
 obtain ⟨h1,h2,h3,h4⟩:=h
 obtain ⟨g1,g2,g3,g4⟩:=h'
 obtain ⟨k,i⟩:=r
 obtain ⟨k',i'⟩:=r'
 simp only at h1 h2 h3 h4 g1 g2 g3 g4
 have ne':k≠k'∨i≠i':=by
  by_cases hk:k=k'
  ·right;intro hi;exact ne (by rw [hk,hi])
  ·exact .inl hk
 unfold J8 at e e'
 simp only at e e'
 rw [if_neg (by omega)] at e e'
 unfold Ab6 at h4 g4
 have hk:k=1∨k=2∨k=3∨k=4∨k=5:=by omega
 have hk':k'=1∨k'=2∨k'=3∨k'=4∨k'=5:=by omega
 have fin:∀ {x y:Nat × Nat × Nat},some x=some y→x=y:=fun h=>by cases h;rfl
 rcases hk with rfl|rfl|rfl|rfl|rfl<;>rcases hk' with rfl|rfl|rfl|rfl|rfl<;>simp at e e' h4 g4 ne'<;>(try split at e)<;>(try split at e')<;>(try simp at e e')<;>omega
def B30 (X:CX) (r:RecS) (b:List UInt8):CX :=
 match J8 X.m.length r with
 | some (j,a,_)=>{ X with m:=X.m.set j (N8 (X.m.getD j []) a b) }
 | none=>X
theorem Gh0 (l:List (List UInt8)) (j j':Nat) (x:List UInt8) (h:j<l.length):(l.set j x).getD j' []=if j'=j then x else l.getD j' []:=by
 rw [List.getD_eq_getElem?_getD,List.getD_eq_getElem?_getD,List.getElem?_set]
 by_cases hj:j=j'
 ·subst hj;simp [h]
 ·rw [if_neg hj,if_neg (fun e=>hj e.symm)]
section
variable {nc:Nat} {X:CX} (c:Clean nc X) {r r':RecS} (h:Rin nc r) (h':Rin nc r')
include c h
theorem Ih9:rdX X r=some (rd X r):=by
 obtain ⟨j,a,e,_⟩:=h.place c.pos
 unfold rdX rd
 rw [c.len,e]
 simp [c.bad]
theorem Dk3 (b:List UInt8):wrX X r b true=(true,B30 X r b):=by
 obtain ⟨j,a,e,_⟩:=h.place c.pos
 unfold wrX B30
 rw [c.len,e]
 simp [c.bad]
theorem E05 {j a n:Nat} (e:J8 nc r=some (j,a,n)):a+n≤(X.m.getD j []).length∧j<X.m.length∧n=Ah3 r.kind:=by
 obtain ⟨j',a',e',hj,h0,h1⟩:=h.place c.pos
 rw [e] at e';cases e'
 rw [c.len]
 by_cases hz:j=0
 ·subst hz;rw [c.own];exact ⟨h0 rfl,hj,rfl⟩
 ·rw [c.brs j (by omega) hj]
  have:=h1 (by omega)
  exact ⟨by omega,hj,rfl⟩
include h'
theorem Aq7 {b:List UInt8} (hb:b.length=Ah3 r.kind):rd (B30 X r b) r'=if r'=r then b else rd X r':=by
 obtain ⟨j,a,e,_⟩:=h.place c.pos
 obtain ⟨j',a',e',_⟩:=h'.place c.pos
 have p:=E05 c h e
 have p':=E05 c h' e'
 have es:B30 X r b={ X with m:=X.m.set j (N8 (X.m.getD j []) a b) }:=by unfold B30;rw [c.len,e]
 have el:(B30 X r b).m.length=nc:=by rw [es];simp [c.len]
 unfold rd
 rw [el,e',c.len,e',es]
 simp only
 rw [Gh0 _ _ _ _ p.2.1]
 by_cases hr:r'=r
 ·subst hr
  rw [e] at e';cases e'
  rw [if_pos rfl,if_pos rfl]
  have:=Gp9 (l:=X.m.getD j []) (b:=b) (a:=a) (by omega)
  rwa [hb] at this
 ·rw [if_neg hr]
  by_cases hj:j'=j
  ·subst hj
   rw [if_pos rfl]
   have dj:=In7 h' h hr e' e
   exact Gh2 (by omega) (by omega)
  ·rw [if_neg hj]
end
theorem Dh7 {nc:Nat} {X:CX} (c:Clean nc X) {r:RecS} (h:Rin nc r) {b:List UInt8} (hb:b.length=Ah3 r.kind) (hs:stR r.kind b≠2):Clean nc (B30 X r b):=by
 obtain ⟨j,a,e,_⟩:=h.place c.pos
 have p:=E05 c h e
 have es:B30 X r b={ X with m:=X.m.set j (N8 (X.m.getD j []) a b) }:=by unfold B30;rw [c.len,e]
 refine ⟨by rw [es];simp [c.len],c.pos,by rw [es];exact c.bad,?_,?_,?_⟩
 ·rw [es];simp only
  rw [Gh0 _ _ _ _ p.2.1]
  split
  ·rename_i h0;subst h0;rw [Ah1 (by omega)];exact c.own
  ·exact c.own
 ·intro i h0 h1
  rw [es];simp only
  rw [Gh0 _ _ _ _ p.2.1]
  split
  ·rename_i h2;subst h2;rw [Ah1 (by omega)];exact c.brs i h0 h1
  ·exact c.brs i h0 h1
 ·intro r' h1 h2 h3 h4
  rw [Aq7 c h ⟨h1,h2,h3,h4⟩ hb]
  split
  ·rename_i hr;rw [hr];exact hs
  ·exact c.ok r' h1 h2 h3 h4
theorem Dh0 {α:Type} (dec:List UInt8→α × Int) (z:α) {nc:Nat} {X:CX} (c:Clean nc X) {r:RecS} (h:Rin nc r) (hd:(dec (rd X r)).2=stR r.kind (rd X r)):Z9 dec z X r=(dec (rd X r),X):=by
 unfold Z9
 rw [Ih9 c h]
 simp only
 rw [if_neg (by rw [hd];exact c.ok r h.a h.b h.c h.d)]
abbrev vS (X:CX) (i:Int):ProcS × Int:=Aa3 (rd X ⟨1,i⟩)
abbrev vF (X:CX) (i:Int):FileS × Int:=Aa6 (rd X ⟨2,i⟩)
abbrev vP (X:CX) (i:Int):PipeS × Int:=Y5 (rd X ⟨3,i⟩)
theorem Dx4 {nc:Nat} {i:Int} (h:0≤i∧i<8):Rin nc ⟨1,i⟩:=⟨by simp,by simp,h.1,h.2⟩
theorem Br9 {nc:Nat} {i:Int} (h:0≤i∧i<12):Rin nc ⟨2,i⟩:=⟨by simp,by simp,h.1,h.2⟩
theorem Br7 {nc:Nat} {i:Int} (h:0≤i∧i<3+nc):Rin nc ⟨3,i⟩:=⟨by simp,by simp,h.1,h.2⟩
theorem N9 {nc:Nat} {X:CX} (c:Clean nc X) {i:Int} (h:0≤i∧i<8):Ek9 X i=(vS X i,X):=Dh0 Aa3 .zero c (Dx4 h) rfl
theorem D67 {nc:Nat} {X:CX} (c:Clean nc X) {i:Int} (h:0≤i∧i<12):Ek8 X i=(vF X i,X):=Dh0 Aa6 .zero c (Br9 h) rfl
theorem Hq9 {nc:Nat} {X:CX} (c:Clean nc X) {i:Int} (h:0≤i∧i<3+nc):Ei5 X i=(vP X i,X):=Dh0 Y5 .zero c (Br7 h) rfl
theorem Do5 {f:CX→Int→CX} {X:CX}:∀ (m:Nat) (i:Int),(∀ j,i≤j→j<i+m→f X j=X)→Dp9 f m i X=X
 | 0,_,_=>rfl
 | m+1,i,h=>by
  unfold Dp9
  rw [h i (by omega) (by omega)]
  exact Do5 m (i+1) fun j h1 h2=>h j (by omega) (by omega)
theorem U7 {nc:Nat} {X:CX} (c:Clean nc X):Gn7 X=X:=by
 have h3:Gp6 X=X:=by
  unfold Gp6
  have e1:E45 X=(Y5 (rd X ⟨4,0⟩),X):=Dh0 Y5 .zero c ⟨by simp,by simp,by simp,by simp [Ab6]⟩ rfl
  have e2:Ex4 X=(Aq5 (rd X ⟨5,0⟩),X):=Dh0 Aq5 0 c ⟨by simp,by simp,by simp,by simp [Ab6]⟩ rfl
  rw [e1];simp only;rw [e2]
 have hl:=c.len
 unfold Gn7 lookN Hk3 G86
 rw [Do5 8 0 (fun j h1 h2=>by rw [N9 c (by omega)])]
 rw [Do5 12 0 (fun j h1 h2=>by rw [D67 c (by omega)])]
 rw [Do5 (3+X.m.length) 0 (fun j h1 h2=>by rw [Hq9 c (by omega)]),h3]
theorem Hl9 {f:FileS} (h:okF f=true):Aa6 (Al5 f)=(f,1):=by
 have hk:=h
 simp only [okF,Bool.and_eq_true,Bool.or_eq_true,decide_eq_true_eq,beq_iff_eq,bne_iff_ne] at h
 have e:Dd9 (Al5 f)=f:=by
  obtain ⟨a,b,c,d⟩:=f
  simp only at h
  have h1:=Ad2 (x:=a) (by omega);have h2:=Ad2 (x:=b) (by omega);have h3:=Ad2 (x:=c) (by omega);have h4:=Ad2 (x:=d) (by omega)
  simp [Dd9,Al5,Bc7]
  exact ⟨h1,h2,h3,h4⟩
 have hz:(Al5 f).all (·==0)=false:=by simp [Al5,Bc7]
 unfold Aa6 isF
 rw [hz,e,hk]
 simp
section
variable {nc:Nat} {X:CX} (c:Clean nc X)
include c
abbrev Br1 (X:CX) (i:Int) (p:ProcS):CX:=B30 X ⟨1,i⟩ (Az7 p)
abbrev Bh9 (X:CX) (i:Int) (f:FileS):CX:=B30 X ⟨2,i⟩ (Al5 f)
theorem Aw2 {i:Int} (h:0≤i∧i<8) {p:ProcS} (ok:okS p=true) (r:InS p) :
  A51 X i p=(true,Br1 X i p)∧Clean nc (Br1 X i p)∧(∀ j:Int,0≤j∧j<8→vS (Br1 X i p) j=if j=i then (p,1) else vS X j)∧(∀ j:Int,0≤j∧j<12→vF (Br1 X i p) j=vF X j)∧(∀ j:Int,0≤j∧j<3+nc→vP (Br1 X i p) j=vP X j):=by
 have hl:(Az7 p).length=Ah3 (1:Int):=by rw [Eh3];rfl
 refine ⟨by unfold A51;rw [ok];exact Dk3 c (Dx4 h) _,Dh7 c (Dx4 h) hl (by show (Aa3 (Az7 p)).2≠2;rw [Hg3 ok r];simp),fun j hj=>?_,fun j hj=>?_,fun j hj=>?_⟩
 ·show Aa3 (rd _ _)=_
  rw [Aq7 c (Dx4 h) (Dx4 hj) hl]
  by_cases e:j=i
  ·rw [if_pos (by rw [e]),if_pos e];exact Hg3 ok r
  ·rw [if_neg (by simp [e]),if_neg e]
 ·show Aa6 (rd _ _)=_
  rw [Aq7 c (Dx4 h) (Br9 hj) hl,if_neg (by simp)]
 ·show Y5 (rd _ _)=_
  rw [Aq7 c (Dx4 h) (Br7 hj) hl,if_neg (by simp)]
theorem Av9 {i:Int} (h:0≤i∧i<12) {f:FileS} (ok:okF f=true) :
  Bk6 X i f=(true,Bh9 X i f)∧Clean nc (Bh9 X i f)∧(∀ j:Int,0≤j∧j<8→vS (Bh9 X i f) j=vS X j)∧(∀ j:Int,0≤j∧j<12→vF (Bh9 X i f) j=if j=i then (f,1) else vF X j)∧(∀ j:Int,0≤j∧j<3+nc→vP (Bh9 X i f) j=vP X j):=by
 have hl:(Al5 f).length=Ah3 (2:Int):=by rw [Dx6];rfl
 refine ⟨by unfold Bk6;rw [ok];exact Dk3 c (Br9 h) _,Dh7 c (Br9 h) hl (by show (Aa6 (Al5 f)).2≠2;rw [Hl9 ok];simp),fun j hj=>?_,fun j hj=>?_,fun j hj=>?_⟩
 ·show Aa3 (rd _ _)=_
  rw [Aq7 c (Br9 h) (Dx4 hj) hl,if_neg (by simp)]
 ·show Aa6 (rd _ _)=_
  rw [Aq7 c (Br9 h) (Br9 hj) hl]
  by_cases e:j=i
  ·rw [if_pos (by rw [e]),if_pos e];exact Hl9 ok
  ·rw [if_neg (by simp [e]),if_neg e]
 ·show Y5 (rd _ _)=_
  rw [Aq7 c (Br9 h) (Br7 hj) hl,if_neg (by simp)]
theorem Gl7 {i:Int} (h:0≤i∧i<8):((vS X i).2=0∧(vS X i).1=.zero)∨((vS X i).2=1∧okS (vS X i).1=true):=by
 have:=c.ok ⟨1,i⟩ (by simp) (by simp) h.1 h.2
 have hk:(vS X i).2≠2:=this
 unfold vS Aa3 at hk ⊢
 split
 ·exact .inl ⟨rfl,rfl⟩
 ·split
  ·rename_i h2
   unfold isS at h2
   simp only [Bool.and_eq_true] at h2
   exact .inr ⟨rfl,h2.1⟩
  ·rename_i h1 h2;simp [h1,h2] at hk
theorem Iq8 {i:Int} (h:0≤i∧i<12):((vF X i).2=0∧(vF X i).1=.zero)∨((vF X i).2=1∧okF (vF X i).1=true):=by
 have:=c.ok ⟨2,i⟩ (by simp) (by simp) h.1 h.2
 have hk:(vF X i).2≠2:=this
 unfold vF Aa6 at hk ⊢
 split
 ·exact .inl ⟨rfl,rfl⟩
 ·split
  ·rename_i h2
   unfold isF at h2
   simp only [Bool.and_eq_true] at h2
   exact .inr ⟨rfl,h2.1⟩
  ·rename_i h1 h2;simp [h1,h2] at hk
end
abbrev Aa0 (n e:Int) (b:Bool):List Value:=[int n,int e,.slice none 0 0,.bool b]
theorem Dd3 (e:Int):Ct A6 Ac9 [int e] [] fun v own=>v=.agg ⟨Aa0 0 e false⟩∧own []:=by
 refine Ct.of Hm3 rfl fun h r=>Tr.eq (Hn8 ..) ?_;refine Je ?_
 (refine Ja ?_;intros)
 refine Ys fun o=>?_
 exact ⟨rfl,o.sub⟩
theorem Iu6 (ok:Bool) (n:Int):Ct A6 Dg2 [.bool ok,int n] [] fun v own=>v=.agg ⟨if ok then Aa0 n 0 false else Aa0 0 105 false⟩∧own []:=by
 refine Ct.of Hm4 rfl fun h r=>Tr.eq (Hp7 ..) ?_;refine Je ?_
 cases ok with
 | true =>
  (refine Ja ?_;intros)
  refine Ys fun o=>?_
  exact ⟨rfl,o.sub⟩
 | false =>
  (refine Ja ?_;intros)
  refine Yc (Dd3 105) ?_;rintro _ h ⟨rfl,o⟩<;>(refine Jf o ?_;intros)
  refine Ys fun o=>?_
  exact ⟨rfl,o.sub⟩
def V7 (X:CX) (i:Int):ProcS × Int:=if (vS X i).2=1∧(vS X i).1.state=1 then ((vS X i).1,0) else (.zero,105)
theorem Ec2 (b k:Nat) (F:Fr) (X:CX) (ok:FrOk F) {nc:Nat} (c:Clean nc X) (i:Int) (hi:0≤i∧i<8):Ct A6 Bg7 [P0 b,int i] [cmC b k F X] fun v own=>v=.tuple ⟨[.agg ⟨B5 (V7 X i).1⟩,int (V7 X i).2]⟩∧own [cmC b k F X]:=by
 refine Ct.of Ho3 rfl fun h r=>Tr.eq (Ho6 ..) ?_;refine Je ?_
 (refine Jc ?_;intros)
 refine Yn fun b0 h=>?_
 refine Yc (Al1 b k F X ok) ?_;rintro _ h ⟨rfl,o⟩<;>refine Jh o ?_
 rw [U7 c]
 (refine Ja ?_;intros)
 refine Yc (Z5 b k F X ok i) ?_;rintro _ h ⟨rfl,o⟩<;>refine Jh o ?_
 rw [N9 c hi]
 dsimp only
 (refine Jc ?_;intros)
 refine Yn fun b1 h=>?_
 (refine Jb ?_;intros)
 refine Tr.orG (c:=(vS X i).1.state != 1) (fun hb=>?_) ?_
 ·exact Jz
 unfold V7
 by_cases h1:(vS X i).2=1∧(vS X i).1.state=1
 ·rw [if_pos h1]
  refine Yf (by simp [h1.1,h1.2]) ?_
  (refine Ja ?_;intros)
  refine Ys fun o=>?_
  exact ⟨rfl,o.sub⟩
 ·rw [if_neg h1]
  refine Yt (by simp;by_cases h2:(vS X i).2=1<;>simp [h2] at h1 ⊢;exact h1) ?_
  (refine Ja ?_;intros)
  refine Ys fun o=>?_
  exact ⟨rfl,o.sub⟩
def Am7 (X:CX):Nat→Int→Int
 | 0,_=>-1
 | m+1,i=>if (vS X i).2=0 then i else Am7 X m (i+1)
theorem H29 (b k:Nat) (F:Fr) (X:CX) (ok:FrOk F) {nc:Nat} (c:Clean nc X):∀ (m:Nat) (i:Int),0≤i→i+m=8 →
  CtJ I4 Av3 Bp6 [(0,P0 b),(6,int i)] [cmC b k F X] fun v own=>v=int (Am7 X m i)∧own [cmC b k F X]:=by
 intro m
 induction m with
 | zero =>
  intro i h0 hi
  refine CtJ.of D71 fun h r=>Tr.eq (Ec3 ..) ?_;refine Je ?_
  refine Yf (by simp;omega) ?_
  refine Ys fun o=>?_
  exact ⟨rfl,o.sub⟩
 | succ m ih =>
  intro i h0 hi
  have e1:=wI i
  refine CtJ.of D71 fun h r=>Tr.eq (Ec3 ..) ?_;refine Je ?_
  refine Yt (by simp;omega) ?_
  refine Yc (Z5 b k F X ok i) ?_;rintro _ h ⟨rfl,o⟩<;>refine Jh o ?_
  rw [N9 c (by omega)]
  dsimp only
  (refine Jc ?_;intros)
  refine Yn fun b1 h=>?_
  (refine Ja ?_;intros)
  rw [show Am7 X (m+1) i=if (vS X i).2=0 then i else Am7 X m (i+1) from rfl]
  by_cases h1:(vS X i).2=0
  ·rw [if_pos h1]
   refine Yt (by simpa using h1) ?_
   refine Ys fun o=>?_
   exact ⟨rfl,o.sub⟩
  ·rw [if_neg h1,e1]
   refine Yf (by simpa using h1) ?_
   refine V4 [1] 1 rfl rfl ?_
   refine Yr (ih (i+1) (by omega) (by omega)) ?_
   intro v h q
   exact q
theorem Iu2 (b k:Nat) (F:Fr) (X:CX) (ok:FrOk F) {nc:Nat} (c:Clean nc X):Ct A6 Av3 [P0 b] [cmC b k F X] fun v own=>v=int (Am7 X 8 0)∧own [cmC b k F X]:=by
 refine Ct.of D71 rfl fun h r=>Tr.eq (Hq0 ..) ?_;refine Je ?_
 refine Yr (H29 b k F X ok c 8 0 (by omega) (by omega)) ?_
 intro v h q
 exact q
def Bp5:List Int→List Int→List Int
 | [],m=>m
 | f::l,m=>Bp5 l (if f>0 then m.set (f-1).toNat (m.getD (f-1).toNat 0+1) else m)
def Ae7 (n:Int) (m:List Int):Prop:=m.length=12∧∀ x ∈ m,0≤x∧x≤n
theorem Ae7.get {n:Int} {m:List Int} (h:Ae7 n m) {j:Nat} (hj:j<12):0≤m.getD j 0∧m.getD j 0≤n:=by
 have hl:=h.1
 have e:m[j]?=some m[j]:=List.getElem?_eq_getElem (by omega)
 rw [List.getD_eq_getElem?_getD,e]
 exact h.2 _ (List.getElem_mem _)
theorem Ae7.set {n:Int} {m:List Int} (h:Ae7 n m) {j:Nat} (hj:j<12):Ae7 (n+1) (m.set j (m.getD j 0+1)):=by
 refine ⟨by simpa using h.1,fun x hx=>?_⟩
 rcases List.mem_or_eq_of_mem_set hx with h2|rfl
 ·have:=h.2 x h2;omega
 ·have:=h.get hj;omega
theorem Ae7.up {n:Int} {m:List Int} (h:Ae7 n m):Ae7 (n+1) m:=⟨h.1,fun x hx=>by have:=h.2 x hx;omega⟩
theorem Im0 {m:List Int} {j:Nat} (h:j<m.length) (v:Int):Gu2 (m.map int) j (int v)=some ((m.set j v).map int):=by
 rw [Gu2,show Nat.blt j (m.map int).length=true from Nat.ble_eq_true_of_le (by simp;omega),List.map_set];rfl
def B37 (l:List Int):Prop:=∀ f ∈ l,0≤f∧f≤12
theorem Hk5 {l:List Int} {i:Nat} (h:i<l.length):(l.map int)[i]?=some (int (l.getD i 0)):=by rw [List.getElem?_map,P7 0 h];rfl
theorem Hq4 (b k:Nat) (F:Fr) (X:CX) (b0 b1:Nat) (p:ProcS) (hf:B37 p.fds) (Φ:Value→(List HP→Prop)→Prop) (M:List Int)
  (next:CtJ I4 I2 Ap3 [(0,P0 b),(5,P0 b1),(31,.agg ⟨p.fds.map int⟩),(32,int 0)] [pt b1 (.cells Eg2 false (M.map int)),cmC b k F X] Φ) :
  ∀ (m i:Nat) (more:List Int),i+m=8→Ae7 i more→Bp5 (p.fds.drop i) more=M →
  CtJ I4 I2 A11 [(0,P0 b),(3,P0 b0),(5,P0 b1),(17,.agg ⟨p.fds.map int⟩),(18,int i)] [pt b1 (.cells Eg2 false (more.map int)),pt b0 (.cells B2 false (B5 p)),cmC b k F X] Φ:=by
 intro m
 induction m with
 | zero =>
  intro i more hi hm hM
  have:i=8:=by omega
  subst this
  rw [show p.fds.drop 8=[] from List.drop_eq_nil_of_le (by rw [p.len];omega),show Bp5 [] more=more from rfl] at hM
  subst hM
  refine CtJ.of Aw9 fun h r=>Tr.eq (D37 ..) ?_;refine Je ?_
  refine Yf (by simp) ?_
  (refine Ja ?_;intros)
  refine V4 [0,1] 1 rfl rfl ?_
  refine Yr next ?_
  intro v h q
  exact q
 | succ m ih =>
  intro i more hi hm hM
  have e1:=wN i
  have hil:i<p.fds.length:=by rw [p.len];omega
  have hg:=Hk5 hil
  have hd:p.fds.drop i=p.fds.getD i 0::p.fds.drop (i+1):=by
   rw [List.drop_eq_getElem_cons hil,List.getD_eq_getElem?_getD,List.getElem?_eq_getElem hil];rfl
  have hr:0≤p.fds.getD i 0∧p.fds.getD i 0≤12:=hf _ (by
   rw [List.getD_eq_getElem?_getD,List.getElem?_eq_getElem hil];exact List.getElem_mem _)
  rw [hd] at hM
  generalize p.fds.getD i 0=f at hg hr hM
  rw [show Bp5 (f::p.fds.drop (i+1)) more=Bp5 (p.fds.drop (i+1)) (if f>0 then more.set (f-1).toNat (more.getD (f-1).toNat 0+1) else more) from rfl] at hM
  refine CtJ.of Aw9 fun h r=>Tr.eq (D37 ..) ?_;refine Je ?_
  refine Yt (by simp;omega) ?_
  rw [e1]
  refine Tr.ck (by omega) ?_
  rw [Int.toNat_natCast]
  (refine Ja ?_;intros)
  by_cases hz:f>0
  ·have e2:IntKind.wrap .i64 (f-1)=f-1:=by rw [B4];omega
   have hj:(f-1).toNat<12:=by omega
   have hm2:=hm.get hj
   have e3:IntKind.wrap .i64 (more.getD (f-1).toNat 0+1)=more.getD (f-1).toNat 0+1:=by rw [B4];omega
   have hgm:=Hk5 (l:=more) (i:=(f-1).toNat) (by rw [hm.1];exact hj)
   rw [if_pos hz] at hM
   rw [e2]
   refine Yt (by simpa using hz) ?_
   (refine Ja ?_;intros)
   rw [e3]
   refine Gs (fun h=>?_) (by exact Im0 (by rw [hm.1];exact hj) _)
   refine Yr (ih (i+1) (more.set (f-1).toNat (more.getD (f-1).toNat 0+1)) (by omega) (by rw [show ((i+1:Nat):Int)=(i:Int)+1 by omega];exact hm.set hj) hM) ?_
   intro v h q
   exact q
  ·rw [if_neg hz] at hM
   refine Yf (by simpa using hz) ?_
   refine Yr (ih (i+1) more (by omega) (by simpa using hm.up) hM) ?_
   intro v h q
   exact q
def Af2 (X:CX) (more:List Int):List Int→Int
 | []=>0
 | f::l=>if f=0 then Af2 X more l else if (vF X (f-1)).2≠1 then 105 else if (vF X (f-1)).1.refs+more.getD (f-1).toNat 0>64 then 123 else Af2 X more l
theorem Hw8 {f:FileS} (h:okF f=true):1≤f.refs∧f.refs≤64:=by
 simp only [okF,Bool.and_eq_true,Bool.or_eq_true,decide_eq_true_eq,beq_iff_eq,bne_iff_ne] at h
 omega
theorem Hv7 {nc:Nat} {X:CX} (c:Clean nc X) {i:Int} (h:0≤i∧i<12):0≤(vF X i).1.refs∧(vF X i).1.refs≤64:=by
 rcases Iq8 c h with ⟨_,h1⟩|⟨_,h1⟩
 ·rw [h1];simp
 ·have:=Hw8 h1;omega
theorem Hs9 (b k:Nat) (F:Fr) (X:CX) (ok:FrOk F) {nc:Nat} (c:Clean nc X) (b1:Nat) (fds more:List Int) (hl:fds.length=8) (hf:B37 fds) (hm:Ae7 8 more) (Φ:Value→(List HP→Prop)→Prop)
  (bad:∀ (e:Int),Af2 X more fds=e→e≠0→∀ h r,Own h (cmC b k F X::r)→Φ (int e) fun l=>Own h (l++r))
  (next:Af2 X more fds=0→CtJ I4 I2 Ap4 [(0,P0 b),(57,.agg ⟨more.map int⟩),(58,int 0)] [cmC b k F X] Φ) :
  ∀ (m i:Nat),i+m=8→Af2 X more fds=Af2 X more (fds.drop i) →
  CtJ I4 I2 Ap3 [(0,P0 b),(5,P0 b1),(31,.agg ⟨fds.map int⟩),(32,int i)] [pt b1 (.cells Eg2 false (more.map int)),cmC b k F X] Φ:=by
 intro m
 induction m with
 | zero =>
  intro i hi he
  have:i=8:=by omega
  subst this
  rw [show fds.drop 8=[] from List.drop_eq_nil_of_le (by omega),show Af2 X more []=0 from rfl] at he
  have hl12:B32 (more.map int) 0 12=some (more.map int):=Bl8 (by simp [hm.1])
  refine CtJ.of Aw9 fun h r=>Tr.eq (D34 ..) ?_;refine Je ?_
  refine Yf (by simp) ?_
  refine Gs ?_ (by exact hl12)
  refine V4 [1] 1 rfl rfl ?_
  refine Yr (next he) ?_
  intro v h q
  exact q
 | succ m ih =>
  intro i hi he
  have e1:=wN i
  have hil:i<fds.length:=by omega
  have hg:=Hk5 hil
  have hd:fds.drop i=fds.getD i 0::fds.drop (i+1):=by
   rw [List.drop_eq_getElem_cons hil,List.getD_eq_getElem?_getD,List.getElem?_eq_getElem hil];rfl
  have hr:0≤fds.getD i 0∧fds.getD i 0≤12:=hf _ (by
   rw [List.getD_eq_getElem?_getD,List.getElem?_eq_getElem hil];exact List.getElem_mem _)
  rw [hd] at he
  generalize fds.getD i 0=f at hg hr he
  rw [show Af2 X more (f::fds.drop (i+1))=if f=0 then Af2 X more (fds.drop (i+1)) else if (vF X (f-1)).2≠1 then 105 else if (vF X (f-1)).1.refs+more.getD (f-1).toNat 0>64 then 123 else Af2 X more (fds.drop (i+1)) from rfl] at he
  refine CtJ.of Aw9 fun h r=>Tr.eq (D34 ..) ?_;refine Je ?_
  refine Yt (by simp;omega) ?_
  rw [e1]
  refine Tr.ck (by omega) ?_
  rw [Int.toNat_natCast]
  (refine Ja ?_;intros)
  by_cases hz:f=0
  ·rw [if_pos hz] at he
   refine Yt (by simpa using hz) ?_
   refine Yr (ih (i+1) (by omega) he) ?_
   intro v h q
   exact q
  rw [if_neg hz] at he
  refine Yf (by simpa using hz) ?_
  have e2:IntKind.wrap .i64 (f-1)=f-1:=by rw [B4];omega
  have hj:(f-1).toNat<12:=by omega
  rw [e2]
  refine Yc (Gd6 b k F X ok (f-1)) ?_;rintro _ h ⟨rfl,o⟩<;>refine Jh o ?_
  rw [D67 c (by omega)]
  dsimp only
  (refine Jc ?_;intros)
  refine Yn fun b2 h=>?_
  (refine Ja ?_;intros)
  by_cases h1:(vF X (f-1)).2=1
  ·rw [if_neg (by simpa using h1)] at he
   refine Yf (by simpa using h1) ?_
   have hm2:=hm.get hj
   have hgm:=Hk5 (l:=more) (i:=(f-1).toNat) (by rw [hm.1];exact hj)
   have hrf:=Hv7 c (i:=f-1) (by omega)
   have e3:IntKind.wrap .i64 ((vF X (f-1)).1.refs+more.getD (f-1).toNat 0)=(vF X (f-1)).1.refs+more.getD (f-1).toNat 0:=by rw [B4];omega
   (refine Ja ?_;intros)
   rw [e3]
   by_cases h2:(vF X (f-1)).1.refs+more.getD (f-1).toNat 0>64
   ·rw [if_pos h2] at he
    refine Yt (by simpa using h2) ?_
    refine V4 [1] 2 rfl rfl ?_
    refine Ys fun o=>?_
    exact bad 123 he (by simp) _ _ o
   ·rw [if_neg h2] at he
    refine Yf (by simpa using h2) ?_
    refine V4 [2,1] 1 rfl rfl ?_
    refine Yr (ih (i+1) (by omega) he) ?_
    intro v h q
    exact q
  ·rw [if_pos h1] at he
   refine Yt (by simpa using h1) ?_
   refine V4 [1] 2 rfl rfl ?_
   refine Ys fun o=>?_
   exact bad 105 he (by simp) _ _ o
abbrev D80 (f:FileS) (n:Int):FileS:=⟨f.kind,f.pipe,f.refs+n,f.flags⟩
def Bf9 (more:List Int):Nat→Int→CX→CX
 | 0,_,X=>X
 | m+1,j,X=>Bf9 more m (j+1) (if more.getD j.toNat 0=0 then X else Bh9 X j (D80 (vF X j).1 (more.getD j.toNat 0)))
def Gu3 (more:List Int) (X:CX) (j:Int):Prop:=∀ i:Int,j≤i→i<12→more.getD i.toNat 0≠0→(vF X i).2=1∧(vF X i).1.refs+more.getD i.toNat 0≤64
theorem Ii6 {f:FileS} (h:okF f=true) {n:Int} (hn:1≤f.refs+n∧f.refs+n≤64):okF (D80 f n)=true:=by
 simp only [okF,Bool.and_eq_true,Bool.or_eq_true,decide_eq_true_eq,beq_iff_eq,bne_iff_ne] at h ⊢
 omega
theorem Gu3.step {nc:Nat} {X:CX} (c:Clean nc X) {more:List Int} (hm:Ae7 8 more) {j:Int} (h0:0≤j∧j<12) (s:Gu3 more X j) (hz:more.getD j.toNat 0≠0) :
  okF (D80 (vF X j).1 (more.getD j.toNat 0))=true∧Gu3 more (Bh9 X j (D80 (vF X j).1 (more.getD j.toNat 0))) (j+1):=by
 obtain ⟨s1,s2⟩:=s j (by omega) (by omega) hz
 have hg:=hm.get (j:=j.toNat) (by omega)
 have hk:okF (vF X j).1=true:=by
  rcases Iq8 c h0 with ⟨h1,_⟩|⟨_,h1⟩
  ·omega
  ·exact h1
 have hr:=Hw8 hk
 have k:=Ii6 hk (n:=more.getD j.toNat 0) (by omega)
 refine ⟨k,fun i h1 h2 hi=>?_⟩
 rw [(Av9 c h0 k).2.2.2.1 i (by omega),if_neg (by omega)]
 exact s i (by omega) h2 hi
theorem Ht0 (b k:Nat) (F:Fr) (ok:FrOk F) {nc:Nat} (more:List Int) (hm:Ae7 8 more):∀ (m:Nat) (j:Int) (X:CX),Clean nc X→Gu3 more X j→0≤j→j+m=12 →
  CtJ I4 I2 Ap4 [(0,P0 b),(57,.agg ⟨more.map int⟩),(58,int j)] [cmC b k F X] fun v own=>v=int 0∧own [cmC b k F (Bf9 more m j X)]:=by
 intro m
 induction m with
 | zero =>
  intro j X c s h0 hj
  refine CtJ.of Aw9 fun h r=>Tr.eq (D20 ..) ?_;refine Je ?_
  refine Yf (by simp;omega) ?_
  refine Ys fun o=>?_
  rw [show Bf9 more 0 j X=X from rfl]
  exact ⟨rfl,o.sub⟩
 | succ m ih =>
  intro j X c s h0 hj
  have e1:=wI j
  have hg:=Hk5 (l:=more) (i:=j.toNat) (by rw [hm.1];omega)
  have hm2:=hm.get (j:=j.toNat) (by omega)
  rw [show Bf9 more (m+1) j X=Bf9 more m (j+1) (if more.getD j.toNat 0=0 then X else Bh9 X j (D80 (vF X j).1 (more.getD j.toNat 0))) from rfl]
  refine CtJ.of Aw9 fun h r=>Tr.eq (D20 ..) ?_;refine Je ?_
  refine Yt (by simp;omega) ?_
  rw [e1]
  (refine Ja ?_;intros)
  by_cases hz:more.getD j.toNat 0=0
  ·rw [if_pos hz]
   refine Yt (by simpa using hz) ?_
   refine Yr (ih (j+1) X c (fun i h1 h2 h3=>s i (by omega) h2 h3) (by omega) (by omega)) ?_
   intro v h q
   exact q
  ·rw [if_neg hz]
   refine Yf (by simpa using hz) ?_
   have hrf:=Hv7 c (i:=j) (by omega)
   have e3:IntKind.wrap .i64 ((vF X j).1.refs+more.getD j.toNat 0)=(vF X j).1.refs+more.getD j.toNat 0:=by rw [B4];omega
   obtain ⟨k1,s2⟩:=s.step c hm (by omega) hz
   obtain ⟨w1,w2,_⟩:=Av9 c (i:=j) (by omega) k1
   refine Yc (Gd6 b k F X ok j) ?_;rintro _ h ⟨rfl,o⟩<;>refine Jh o ?_
   rw [D67 c (by omega)]
   dsimp only
   (refine Jc ?_;intros)
   refine Yn fun b2 h=>?_
   (refine Ja ?_;intros)
   simp only [e3,List.set_cons_succ,List.set_cons_zero,List.drop_zero,List.take]
   refine Yc (Hm9 b k F X ok j (D80 (vF X j).1 (more.getD j.toNat 0))) ?_;rintro _ h ⟨rfl,o⟩<;>refine Jh o ?_
   rw [w1]
   dsimp only
   (refine Ja ?_;intros)
   refine V4 [0] 1 rfl rfl ?_
   refine Yr (ih (j+1) _ w2 s2 (by omega) (by omega)) ?_
   intro v h q
   exact q
theorem Ey3:∀ (l m:List Int) (i:Nat),B37 l→m.length=12→(Bp5 l m).getD i 0≠0→m.getD i 0≠0∨((i:Int)+1) ∈ l
 | [],m,i,_,_,h=>.inl h
 | f::l,m,i,hf,hm,h=>by
  have hr:=hf f (by simp)
  have hl:B37 l:=fun x hx=>hf x (by simp [hx])
  rw [show Bp5 (f::l) m=Bp5 l (if f>0 then m.set (f-1).toNat (m.getD (f-1).toNat 0+1) else m) from rfl] at h
  by_cases hz:f>0
  ·rw [if_pos hz] at h
   rcases Ey3 l _ i hl (by simpa using hm) h with h2|h2
   ·by_cases hi:(f-1).toNat=i
    ·right
     rw [show (i:Int)+1=f by omega];simp
    ·left
     rw [List.getD_eq_getElem?_getD,List.getElem?_set_ne hi,← List.getD_eq_getElem?_getD] at h2
     exact h2
   ·exact .inr (by simp [h2])
  ·rw [if_neg hz] at h
   rcases Ey3 l m i hl hm h with h2|h2
   ·exact .inl h2
   ·exact .inr (by simp [h2])
theorem D62:∀ (l m:List Int) (n:Int),B37 l→Ae7 n m→Ae7 (n+l.length) (Bp5 l m)
 | [],m,n,_,h=>by simpa [Bp5] using h
 | f::l,m,n,hf,h=>by
  have hr:=hf f (by simp)
  have hl:B37 l:=fun x hx=>hf x (by simp [hx])
  rw [show Bp5 (f::l) m=Bp5 l (if f>0 then m.set (f-1).toNat (m.getD (f-1).toNat 0+1) else m) from rfl]
  have e:n+((f::l).length:Int)=(n+1)+l.length:=by simp;omega
  rw [e]
  by_cases hz:f>0
  ·rw [if_pos hz];exact D62 l _ (n+1) hl (h.set (by omega))
  ·rw [if_neg hz];exact D62 l m (n+1) hl h.up
theorem Ek7 {X:CX} {more:List Int}:∀ (l:List Int),Af2 X more l=0→∀ f ∈ l,f≠0→(vF X (f-1)).2=1∧(vF X (f-1)).1.refs+more.getD (f-1).toNat 0≤64
 | [],_,f,h,_=>by simp at h
 | g::l,h,f,hm,hf=>by
  rw [show Af2 X more (g::l)=if g=0 then Af2 X more l else if (vF X (g-1)).2≠1 then 105 else if (vF X (g-1)).1.refs+more.getD (g-1).toNat 0>64 then 123 else Af2 X more l from rfl] at h
  by_cases hg:g=0
  ·rw [if_pos hg] at h
   rcases List.mem_cons.1 hm with rfl|h2
   ·exact absurd hg hf
   ·exact Ek7 l h f h2 hf
  ·rw [if_neg hg] at h
   by_cases h1:(vF X (g-1)).2=1
   ·rw [if_neg (by simpa using h1)] at h
    by_cases h2:(vF X (g-1)).1.refs+more.getD (g-1).toNat 0>64
    ·rw [if_pos h2] at h;cases h
    ·rw [if_neg h2] at h
     rcases List.mem_cons.1 hm with rfl|h3
     ·exact ⟨h1,by omega⟩
     ·exact Ek7 l h f h3 hf
   ·rw [if_pos h1] at h;cases h
abbrev Eu8:List Int:=[0,0,0,0,0,0,0,0,0,0,0,0]
theorem If2:Ae7 0 Eu8:=⟨rfl,fun x hx=>by simp at hx;omega⟩
abbrev Ap2 (p:ProcS):List Int:=Bp5 p.fds Eu8
theorem Gb2 {p:ProcS} (h:B37 p.fds):Ae7 8 (Ap2 p):=by
 have:=D62 p.fds Eu8 0 h If2
 rw [p.len] at this
 exact this
theorem Hj5 {X:CX} {p:ProcS} (h:B37 p.fds) (e:Af2 X (Ap2 p) p.fds=0):Gu3 (Ap2 p) X 0:=fun i h0 h1 hi=>by
 rcases Ey3 p.fds Eu8 i.toNat h rfl hi with h2|h2
 ·exfalso;apply h2
  have:i.toNat=0∨i.toNat=1∨i.toNat=2∨i.toNat=3∨i.toNat=4∨i.toNat=5∨i.toNat=6∨i.toNat=7∨i.toNat=8∨i.toNat=9∨i.toNat=10∨i.toNat=11:=by omega
  rcases this with h|h|h|h|h|h|h|h|h|h|h|h<;>rw [h]<;>rfl
 ·have:=Ek7 p.fds e _ h2 (by omega)
  rw [show ((i.toNat:Nat):Int)+1-1=i by omega] at this
  exact this
def Y1 (X:CX) (p:ProcS):Int × CX:=if Af2 X (Ap2 p) p.fds=0 then (0,Bf9 (Ap2 p) 12 0 X) else (Af2 X (Ap2 p) p.fds,X)
theorem Id2 (b k:Nat) (F:Fr) (X:CX) (ok:FrOk F) {nc:Nat} (c:Clean nc X) (p:ProcS) (hf:B37 p.fds):Ct A6 I2 [P0 b,.agg ⟨B5 p⟩] [cmC b k F X] fun v own=>v=int (Y1 X p).1∧own [cmC b k F (Y1 X p).2]:=by
 refine Ct.of Aw9 rfl fun h r=>Tr.eq (Hh0 ..) ?_;refine Je ?_
 refine Yn fun b0 h=>?_
 refine Yn fun b1 h=>?_
 (refine Ja ?_;intros)
 have hm:=Gb2 hf
 have L2:=Hs9 b k F X ok c b1 p.fds (Ap2 p) p.len hf hm (fun v own=>v=int (Y1 X p).1∧own [cmC b k F (Y1 X p).2])
  (fun e he hz h r o=>by
   unfold Y1
   rw [if_neg (by rw [he];exact hz),he]
   exact ⟨rfl,o⟩)
  (fun he=>by
   have J:=Ht0 b k F ok (Ap2 p) hm 12 0 X c (Hj5 hf he) (by omega) (by omega)
   unfold Y1
   rw [if_pos he]
   exact J) 8 0 rfl rfl
 refine E41 (Hq4 b k F X b0 b1 p hf _ (Ap2 p) L2 8 0 Eu8 rfl (by simpa using If2) rfl) [0,0,0] rfl ?_
 intro v h q
 exact q
theorem Du1 {nc:Nat} {more:List Int} (hm:Ae7 8 more):∀ (m:Nat) (j:Int) (X:CX),Clean nc X→Gu3 more X j→0≤j→j+m=12 →
  Clean nc (Bf9 more m j X)∧(∀ i:Int,0≤i∧i<8→vS (Bf9 more m j X) i=vS X i) ∧
  (∀ i:Int,0≤i∧i<12→vF (Bf9 more m j X) i=if j≤i∧more.getD i.toNat 0≠0 then (D80 (vF X i).1 (more.getD i.toNat 0),1) else vF X i)∧(∀ i:Int,0≤i∧i<3+nc→vP (Bf9 more m j X) i=vP X i)
 | 0,j,X,c,_,h0,hj=>⟨c,fun _ _=>rfl,fun i hi=>by rw [if_neg (by omega)];rfl,fun _ _=>rfl⟩
 | m+1,j,X,c,s,h0,hj=>by
  rw [show Bf9 more (m+1) j X=Bf9 more m (j+1) (if more.getD j.toNat 0=0 then X else Bh9 X j (D80 (vF X j).1 (more.getD j.toNat 0))) from rfl]
  by_cases hz:more.getD j.toNat 0=0
  ·rw [if_pos hz]
   obtain ⟨a1,a2,a3,a4⟩:=Du1 hm m (j+1) X c (fun i h1 h2 h3=>s i (by omega) h2 h3) (by omega) (by omega)
   refine ⟨a1,a2,fun i hi=>?_,a4⟩
   rw [a3 i hi]
   by_cases hij:i=j
   ·subst hij
    rw [if_neg (by omega),if_neg (by simp only [hz];simp)]
   ·by_cases h2:j≤i∧more.getD i.toNat 0≠0
    ·rw [if_pos h2,if_pos ⟨by omega,h2.2⟩]
    ·rw [if_neg h2,if_neg (fun h3=>h2 ⟨by omega,h3.2⟩)]
  ·rw [if_neg hz]
   obtain ⟨k1,s2⟩:=s.step c hm (by omega) hz
   obtain ⟨w1,w2,w3,w4,w5⟩:=Av9 c (i:=j) (by omega) k1
   obtain ⟨a1,a2,a3,a4⟩:=Du1 hm m (j+1) _ w2 s2 (by omega) (by omega)
   refine ⟨a1,fun i hi=>by rw [a2 i hi,w3 i hi],fun i hi=>?_,fun i hi=>by rw [a4 i hi,w5 i hi]⟩
   rw [a3 i hi,w4 i hi]
   by_cases hij:i=j
   ·subst hij
    rw [if_neg (by omega),if_pos rfl,if_pos ⟨by omega,hz⟩]
   ·rw [if_neg hij]
    by_cases h2:j≤i∧more.getD i.toNat 0≠0
    ·rw [if_pos h2,if_pos ⟨by omega,h2.2⟩]
    ·rw [if_neg h2,if_neg (fun h3=>h2 ⟨by omega,h3.2⟩)]
theorem Hv0 (l:List UInt8) (i:Nat):0≤byI l i∧byI l i<256:=by
 have:=(l.getD i 0).toNat_lt
 unfold byI;omega
theorem E39 (l:List UInt8) (j:Nat):0≤two l j∧two l j≤65535:=by
 have:=Hv0 l j;have:=Hv0 l (j+1)
 unfold two;omega
theorem De3 (l:List UInt8):InS (Aa3 l).1:=by
 unfold Aa3
 split
 ·exact ⟨by simp,by simp,by simp,by simp⟩
 ·split
  ·exact ⟨E39 _ _,E39 _ _,E39 _ _,E39 _ _⟩
  ·exact ⟨by simp,by simp,by simp,by simp⟩
theorem Gr0 {p:ProcS} (h:okS p=true):B37 p.fds:=fun f hf=>by
 unfold okS at h
 simp only [Bool.and_eq_true,Bool.not_eq_true',List.any_eq_false] at h
 have:=h.2.2.1 f hf
 simp at this;omega
abbrev Bq2 (p:ProcS) (i:Int):ProcS:=⟨p.state,i+1,p.group,p.code,0,p.mask,p.ignored,p.caught,p.fds,p.len⟩
theorem He4 {p:ProcS} (h:okS p=true) (h1:p.state=1) {i:Int} (hi:0≤i∧i<8):okS (Bq2 p i)=true:=by
 unfold okS at h ⊢
 rw [if_neg (by rw [h1];decide)] at h
 rw [if_neg (show ¬ (Bq2 p i).state=2 by show ¬ p.state=2;rw [h1];decide)]
 simp only [Bool.and_eq_true,Bool.not_eq_true',Bool.or_eq_false_iff,decide_eq_false_iff_not] at h ⊢
 obtain ⟨⟨⟨⟨⟨⟨⟨⟨a1,a2⟩,a3⟩,a4⟩,a5⟩,a6⟩,a7⟩,a8⟩,⟨⟨⟨⟨b1,b2⟩,b3⟩,b4⟩,b5⟩,d1,d2⟩:=h
 exact ⟨⟨⟨⟨⟨⟨⟨⟨a1,a2⟩,by show ¬ i+1<0;omega⟩,by show ¬ i+1>8;omega⟩,a5⟩,a6⟩,a7⟩,a8⟩,⟨⟨⟨⟨by simp [Iz9],b2⟩,b3⟩,b4⟩,b5⟩,d1,d2⟩
def En8 (X:CX) (i:Int):List Value × CX :=
 if (V7 X i).2≠0 then (Aa0 0 (V7 X i).2 false,X)
 else if Am7 X 8 0<0 then (Aa0 0 111 false,X)
 else if (Y1 X (V7 X i).1).1≠0 then (Aa0 0 (Y1 X (V7 X i).1).1 false,X)
 else (Aa0 (Am7 X 8 0) 0 false,Br1 (Y1 X (V7 X i).1).2 (Am7 X 8 0) (Bq2 (V7 X i).1 i))
theorem E00 {X:CX}:∀ (m:Nat) (i:Int),0≤i→i+m=8→Am7 X m i=-1∨(0≤Am7 X m i∧Am7 X m i<8∧(vS X (Am7 X m i)).2=0)
 | 0,i,_,_=>.inl rfl
 | m+1,i,h0,hi=>by
  rw [show Am7 X (m+1) i=if (vS X i).2=0 then i else Am7 X m (i+1) from rfl]
  split
  ·rename_i h;exact .inr ⟨h0,by omega,h⟩
  ·exact E00 m (i+1) (by omega) (by omega)
theorem Em1 {nc:Nat} {X:CX} (c:Clean nc X) {i:Int} (hi:0≤i∧i<8) (h:(V7 X i).2=0):V7 X i=((vS X i).1,0)∧(vS X i).1.state=1∧okS (vS X i).1=true∧(vS X i).2=1:=by
 unfold V7 at h ⊢
 split
 ·rename_i h1
  refine ⟨rfl,h1.2,?_,h1.1⟩
  rcases Gl7 c hi with ⟨h2,_⟩|⟨_,h2⟩
  ·rw [h1.1] at h2;cases h2
  ·exact h2
 ·rename_i h1;rw [if_neg h1] at h;cases h
theorem Gx5 {X:CX} {p:ProcS} (h:(Y1 X p).1≠0):(Y1 X p).2=X:=by
 unfold Y1 at h ⊢
 split
 ·rename_i h1;rw [if_pos h1] at h;exact absurd rfl h
 ·rfl
theorem E04 {nc:Nat} {X:CX} (c:Clean nc X) {p:ProcS} (hf:B37 p.fds) (h:(Y1 X p).1=0):Clean nc (Y1 X p).2∧(∀ i:Int,0≤i∧i<8→vS (Y1 X p).2 i=vS X i) ∧
  (∀ i:Int,0≤i∧i<12→vF (Y1 X p).2 i=if (Ap2 p).getD i.toNat 0≠0 then (D80 (vF X i).1 ((Ap2 p).getD i.toNat 0),1) else vF X i)∧(∀ i:Int,0≤i∧i<3+nc→vP (Y1 X p).2 i=vP X i):=by
 unfold Y1 at h ⊢
 split
 ·rename_i he
  obtain ⟨a1,a2,a3,a4⟩:=Du1 (Gb2 hf) 12 0 X c (Hj5 hf he) (by omega) (by omega)
  refine ⟨a1,a2,fun i hi=>?_,a4⟩
  rw [a3 i hi]
  by_cases h2:(Ap2 p).getD i.toNat 0≠0
  ·rw [if_pos h2,if_pos ⟨hi.1,h2⟩]
  ·rw [if_neg h2,if_neg (fun h3=>h2 h3.2)]
 ·rename_i he;rw [if_neg he] at h;exact absurd h he
theorem Is9 (b k:Nat) (F:Fr) (X:CX) (ok:FrOk F) {nc:Nat} (c:Clean nc X) (i:Int) (hi:0≤i∧i<8):Ct A6 Dg1 [P0 b,int i] [cmC b k F X] fun v own=>v=.agg ⟨(En8 X i).1⟩∧own [cmC b k F (En8 X i).2]:=by
 have e1:=wI i
 unfold En8
 refine Ct.of Hn5 rfl fun h r=>Tr.eq (Hr3 ..) ?_;refine Je ?_
 refine Yn fun b0 h=>?_
 refine Yc (Ec2 b k F X ok c i hi) ?_;rintro _ h ⟨rfl,o⟩<;>refine Jh o ?_
 (refine Jc ?_;intros)
 refine Yn fun b1 h=>?_
 (refine Ja ?_;intros)
 by_cases h0:(V7 X i).2=0
 case neg =>
  rw [if_pos h0]
  refine Yt (by simpa using h0) ?_
  refine Yc (Dd3 (V7 X i).2) ?_;rintro _ h ⟨rfl,o⟩<;>(refine Jf o ?_;intros)
  refine Ys fun o=>?_
  exact ⟨rfl,o.sub⟩
 rw [if_neg (by simpa using h0)]
 refine Yf (by simpa using h0) ?_
 obtain ⟨s1,s2,s3,s4⟩:=Em1 c hi h0
 refine Yc (Iu2 b k F X ok c) ?_;rintro _ h ⟨rfl,o⟩<;>refine Jh o ?_
 (refine Ja ?_;intros)
 by_cases h1:Am7 X 8 0<0
 ·rw [if_pos h1]
  refine Yt (by simpa using h1) ?_
  refine Yc (Dd3 111) ?_;rintro _ h ⟨rfl,o⟩<;>(refine Jf o ?_;intros)
  refine Ys fun o=>?_
  exact ⟨rfl,o.sub⟩
 rw [if_neg h1]
 refine Yf (by simpa using h1) ?_
 have hf:B37 (V7 X i).1.fds:=by rw [s1];exact Gr0 s3
 have hok:okS (Bq2 (V7 X i).1 i)=true:=by rw [s1];exact He4 s3 s2 hi
 have hin:InS (Bq2 (V7 X i).1 i):=by
  have:=De3 (rd X ⟨1,i⟩)
  rw [s1]
  exact ⟨by simp,this.b,this.c,this.d⟩
 generalize (V7 X i).1=p at hf hok hin
 (refine Ja ?_;intros)
 refine Yc (Id2 b k F X ok c p hf) ?_;rintro _ h ⟨rfl,o⟩<;>refine Jh o ?_
 (refine Ja ?_;intros)
 by_cases h2:(Y1 X p).1=0
 case neg =>
  rw [if_pos h2]
  rw [Gx5 h2] at o ⊢
  refine Yt (by simpa using h2) ?_
  refine Yc (Dd3 (Y1 X p).1) ?_;rintro _ h ⟨rfl,o⟩<;>(refine Jf o ?_;intros)
  refine Ys fun o=>?_
  exact ⟨rfl,o.sub⟩
 rw [if_neg (by simpa using h2)]
 refine Yf (by simpa using h2) ?_
 have cs:=(E04 c hf h2).1
 have hfr:0≤Am7 X 8 0∧Am7 X 8 0<8:=by
  rcases E00 (X:=X) 8 0 (by omega) (by omega) with h|h<;>omega
 obtain ⟨w1,_⟩:=Aw2 cs hfr hok hin
 (refine Ja ?_;intros)
 rw [e1,show ((B5 p).set 1 (int (i+1))).set 4 (int 0)=B5 (Bq2 p i) from rfl]
 generalize Bq2 p i=q at hok hin w1
 (refine Ja ?_;intros)
 refine Yc (Dg6 b k F (Y1 X p).2 ok (Am7 X 8 0) q) ?_;rintro _ h ⟨rfl,o⟩<;>refine Jh o ?_
 rw [w1]
 dsimp only
 (refine Ja ?_;intros)
 refine Yc (Iu6 true (Am7 X 8 0)) ?_;rintro _ h ⟨rfl,o⟩<;>refine Jh o ?_
 rw [if_pos trivial]
 (refine Ja ?_;intros)
 refine Ys fun o=>?_
 exact ⟨rfl,o.sub⟩
end Go.EQ
