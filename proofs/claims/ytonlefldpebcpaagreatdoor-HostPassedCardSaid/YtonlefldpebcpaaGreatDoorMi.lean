/- One that is in and never picked again holds the others up for no longer than the lease; picked later it begins anew, and does its call once. -/
import Derived.Test.YtonlefldpebcpaaGreatDoorMh
import Derived.KernelRfl
set_option linter.all false
set_option maxRecDepth 10000
namespace Go.EQ
open Go Go.NN
theorem Gr2 (k:Nat) (S:KS) (A:KA):CtP A9 Aq0 [P0 k] [pt k (.cells D68 false (E45 S A))] (P0 A.s):=by
 refine CtP.of E76 rfl fun h r=>Tr.eq (Ga0 ..) ?_;refine Je ?_
 exact Jz
theorem Hz7 (k:Nat) (S:KS) (N:Nat) (ok:KOk N S) (env:Int):Ct A9 Ap0 [P0 k,int env] [D4 k S] fun v own =>
  (Au9 S.tabs env≠[]∧∃ c,v=.tuple ⟨[P0 c,int 0]⟩∧own [W6 c k env (Au9 S.tabs env) [],D4 k S])∨(Au9 S.tabs env=[]∧v=.tuple ⟨[.pointer none,int 1]⟩∧own [D4 k S]):=by
 refine Ct.of G89 rfl fun h r=>Tr.eq (G78 ..) ?_;refine Je ?_
 refine B4 (D4 k S) fun ⟨m,s,q,rg,ea,ec,ma,mc,ms,sa,sc,ss⟩=>?_;refine Je ?_
 (refine Jb ?_;intros)
 refine Yb (Yf rfl ?_)
 refine Tr.pcall (Gr2 k S ⟨m,s,q,rg,ea,ec,ma,mc,ms,sa,sc,ss⟩) ?_;refine Je ?_;(refine Ja ?_;intros)
 try dsimp only
 refine Yc (Gr4 s S.tabs env ok.space) ?_;rintro _ h ⟨a0,c0,rfl,o⟩<;>refine Jh o ?_
 (refine Ja ?_;intros)
 refine Ys fun o=>(?_:Tr _ _ _ _) o;refine Je ?_
 by_cases hz:Au9 S.tabs env=[]
 ·refine Yt (by simp [hz]) ?_
  refine B0 (D4 k S) ⟨m,s,q,rg,ea,ec,ma,mc,ms,sa,sc,ss⟩ ?_;refine Je ?_
  refine Ys fun o=>?_
  exact .inr ⟨hz,rfl,o.sub⟩
 ·refine Yf ?_ ?_
  ·rw [beq_eq_false_iff_ne]
   intro h0
   exact hz (List.eq_nil_of_length_eq_zero (by omega))
  refine Tr.pcall (Gr2 k S ⟨m,s,q,rg,ea,ec,ma,mc,ms,sa,sc,ss⟩) ?_;refine Je ?_;(refine Ja ?_;intros)
  try dsimp only
  refine Yc (Gr4 s S.tabs env ok.space) ?_;rintro _ h ⟨a1,c1,rfl,o⟩<;>refine Jh o ?_
  (refine Jc ?_;intros)
  refine Yn fun mb h=>?_
  refine Yn fun c h=>?_
  refine B0 (D4 k S) ⟨m,s,q,rg,ea,ec,ma,mc,ms,sa,sc,ss⟩ ?_;refine Je ?_
  refine E7 (W6 c k env (Au9 S.tabs env) []) (a1,c1,mb) [1,2,1] rfl ?_;refine Je ?_
  refine Ys fun o=>?_
  exact .inl ⟨hz,c,rfl,o.sub⟩
def Bb2:PlanS:=⟨[false,false],[(0,1),(1,0)],5⟩
theorem Ir7:Ct A9 B55 [] [] fun v own=>∃ A,v=.agg ⟨E46 Bb2 A⟩∧own (Dr6 Bb2 A):=by
 refine Ct.of Hf7 rfl fun h r=>Tr.eq (Hh5 ..) ?_;refine Je ?_
 (refine Jc ?_;intros;rename H=>h)
 refine Yn fun b h=>?_
 refine Yn fun b1 h=>?_
 refine Yn fun b2 h=>?_
 (refine Ja ?_;intros;rename H=>h)
 refine Av2 0 rfl 2 2 rfl (by omega) ?_
 refine Av2 1 rfl 1 2 rfl (by omega) ?_
 refine Je ?_
 refine Ys fun o=>?_
 exact ⟨⟨some ⟨b1,0,none⟩,2,some ⟨b2,0,none⟩,2⟩,rfl,(show Own h (slC false B84 2 (some ⟨b2,0,none⟩) Bb2.brs.length 2 (Bb2.brs.flatMap brL)::slC false Gp8 1 (some ⟨b1,0,none⟩) Bb2.bad.length 2 (Bb2.bad.map Value.bool)::_) from o).sub⟩
def Ae0:BootS:=E22 Bb2
theorem Hi9:Bs9 Ae0=true:=by kernel_rfl
theorem Gd3:Small Ae0:=by
 have e:Ae0=⟨[20,20],[0,0,0,0,0,0,0,0,0,1,1,1,1,1,1,1,1,1],[[0],[1]],5,[⟨0,0,0,492,[0]⟩,⟨1,0,0,492,[1]⟩,⟨0,8,0,40,[0,1]⟩,⟨1,9,0,40,[1,0]⟩]⟩:=by kernel_rfl
 rw [e]
 exact ⟨by simp [B1],by simp [B1],by simp [B1]⟩
theorem Bm5:Ae0=⟨[20,20],[0,0,0,0,0,0,0,0,0,1,1,1,1,1,1,1,1,1],[[0],[1]],5,[⟨0,0,0,492,[0]⟩,⟨1,0,0,492,[1]⟩,⟨0,8,0,40,[0,1]⟩,⟨1,9,0,40,[1,0]⟩]⟩:=by kernel_rfl
theorem I21:RBoot Ae0 (Ak3 Ae0.frames):=by
 rw [Bm5]
 refine ⟨by simp,by simp,by simp,fun x hx=>?_,fun x hx=>?_⟩
 ·simp only [List.mem_cons,List.not_mem_nil,or_false] at hx
  rcases hx with rfl|rfl|rfl|rfl<;>simp [B1]
 ·simp only [List.mem_cons,List.not_mem_nil,or_false] at hx
  rcases hx with rfl|rfl|rfl|rfl<;>simp [Ak3]
def S00:KS:=Eb0 Ae0
theorem Hn5:KOk 0 S00:=I10 Hi9 Gd3
def wrS (S:KS) (cap:Int) (b:List UInt8):KS:=(V9 S 0 ⟨2,cap,0,0,0,0,b⟩).2
def S0:KS:=wrS S00 256 Ad1
theorem Ja9:(V9 S00 0 ⟨2,256,0,0,0,0,Ad1⟩).1.1=0:=by kernel_rfl
theorem Iw4:Au9 S00.tabs 0=[256,257,258]:=by kernel_rfl
def wrR (K:RKS) (cap:Int) (b:List UInt8):RKS:={ K with R:=(Ak2 K.R 0 cap 0 b).2 }
def K0:RKS:=wrR (Dc9 Ae0) 256 Ad1
theorem Dz4:RKOk (Dc9 Ae0)∧(Dc9 Ae0).B=Ae0:=I25 (by rw [Bm5];simp) (by rw [Bm5];simp)
theorem Ev2 {K:RKS} (k:RKOk K) (cap:Int) (b:List UInt8):RKOk (wrR K cap b):=Iz4 k 0 cap 0 b
theorem It8:B47 K0 0≠[]:=by
 have:B47 K0 0=[256,257,258]:=by kernel_rfl
 rw [this];simp
theorem Ad8:Ad1.length=492:=by kernel_rfl
theorem Du6 {l:List HP} {h:H} {α:Type} {Q:α→H→Prop} {x:Option (α × H)} (i:Nat) {b n:Nat} {cs:List Value} (hi:l[i]?=some (pt b (.cells A7 false cs))) (hn:cs.length=n) (t:Tr (l.set i (slC false A7 1 (some (N4 b)) n n cs)) h x Q):Tr l h x Q:=fun o=>by
 refine t (Own.back (h:=h) hi ?_)
 have o1:=o.front hi
 refine Own.slShut (pre:=[]) (post:=[]) (by simpa using o1) ⟨by omega,Nat.le_refl _,by simp,by simp,by simp,by omega,by simp⟩
theorem I20 (A:PlA):Ct A9 Bm1 [.agg ⟨E46 Bb2 A⟩] (Dr6 Bb2 A) fun v own =>
  ∃ k c w m,v=.tuple ⟨[P0 k,P0 c,P0 w,P0 m]⟩∧own [D4 k S0,W6 c k 0 [256,257,258] [],rkC w K0,rcC m w 0 (B47 K0 0) []]:=by
 have hB:E22 Bb2=Ae0:=rfl
 obtain ⟨ba,bc,ra,rc⟩:=A
 refine Ct.of Hn6 rfl fun h r=>Tr.eq (Hh0 ..) ?_;refine Je ?_
 refine Yn fun b0 h=>?_
 (refine Ja ?_;intros)
 refine Yc (Iy6 Bb2 ⟨ba,bc,ra,rc⟩ (by simp [Bb2]) (by simp [Bb2])) ?_;rintro _ h ⟨A,kA,rfl,o⟩<;>refine Jh o ?_
 rw [hB] at kA ⊢
 obtain ⟨fa,fc,ea,ec,sa,sc,ss,ha,hc,hs⟩:=A
 (refine Jc ?_;intros)
 refine Yn fun b1 h=>?_
 (refine Ja ?_;intros)
 have J:=I67 false Ae0 ⟨fa,fc,ea,ec,sa,sc,ss,ha,hc,hs⟩ kA Gd3
 simp only [Hi9,if_true] at J
 refine Yc (J) ?_;rintro _ h ⟨k,rfl,o⟩<;>refine Jh o ?_
 (refine Jb ?_;intros)
 refine Yb (Yf rfl ?_)
 refine Ys fun o=>(?_:Tr _ _ _ _) o;refine Je ?_
 refine Yf rfl ?_
 (refine Ja ?_;intros)
 refine Yc (Hq9 Ae0 ⟨fa,fc,ea,ec,sa,sc,ss,ha,hc,hs⟩ kA (by rw [Bm5];simp) I21) ?_;rintro _ h ⟨w,rfl,o⟩<;>refine Jh o ?_
 (refine Ja ?_;intros)
 refine Yc (Hz7 k (Eb0 Ae0) 0 Hn5 0) ?_
 rintro v h (⟨hz,c,rfl,o⟩|⟨hz,rfl,o⟩)
 case inr=>exact absurd hz (by rw [show Eb0 Ae0=S00 from rfl,Iw4];simp)
 rw [show Eb0 Ae0=S00 from rfl,Iw4] at o
 refine (?_:Tr _ _ _ _) o
 refine Je ?_
 (refine Jb ?_;intros)
 refine Yb (Yf rfl ?_)
 refine Ys fun o=>(?_:Tr _ _ _ _) o;refine Je ?_
 refine Yf rfl ?_
 refine Yc (G27) ?_;rintro _ h ⟨rfl,o⟩<;>refine Jh o ?_
 (refine Jc ?_;intros)
 refine Tr.ck (by rw [A93,Ad8];simp [B1]) ?_
 rw [A93,Ad8]
 refine Yn fun b2 h=>?_
 refine Du6 (n:=492) 0 rfl (by rw [W3,show (bs Ad1).data.toList=Ad1 from rfl,Ad8]) ?_
 refine Je ?_
 have J2:=Ed7 k S00 0 Hn5 (by omega) 0 ⟨2,256,0,0,0,0,Ad1⟩ (some (N4 b2)) 492 false (show ((2:Int)≠5) by decide)
 simp only [Ad8] at J2
 refine By2 J2 [2,0] rfl ?_
 rintro _ h ⟨y,d,rfl,o⟩
 rw [Ja9]
 rw [show (V9 S00 0 ⟨2,256,0,0,0,0,Ad1⟩).2=S0 from rfl] at o
 refine (?_:Tr _ _ _ _) o
 refine Je ?_
 (refine Jc ?_;intros)
 refine Yf rfl ?_
 refine Tr.ck (by simp [B1]) ?_
 refine Yn fun b3 h=>?_
 refine Du6 (n:=492) 0 rfl (by rw [W3,Ad8]) ?_
 refine Je ?_
 have J3:=E70 w (Dc9 Ae0) Dz4.1 0 (by rw [Dz4.2,Bm5];simp) ⟨2,256,0,0,0,0,Ad1⟩ rfl (by rw [Ad8];simp [B1]) (slC false A7 1 (some (N4 b3)) Ad1.length 492 (A0 Ad1)) (some (N4 b3)) 492 false
 simp only [Ad8] at J3
 refine Yc J3 ?_
 rintro _ h ⟨rfl,o⟩
 rw [show ({ Dc9 Ae0 with R:=(Ak2 (Dc9 Ae0).R ((0:Nat):Int) 256 0 Ad1).2 }:RKS)=K0 from rfl] at o
 refine (?_:Tr _ _ _ _) o
 refine Je ?_
 (refine Ja ?_;intros)
 refine Yc (Ec8 w K0 (Ev2 Dz4.1 256 Ad1) 0 (by show (0:Nat)<(Dc9 Ae0).B.envs.length;rw [Dz4.2,Bm5];simp)) ?_
 rintro v h (⟨_,m,rfl,o⟩|⟨hn,rfl,o⟩)
 case inr=>exact absurd hn It8
 refine (?_:Tr _ _ _ _) o
 refine Je ?_
 (refine Ja ?_;intros)
 refine Ys fun o=>?_
 exact ⟨k,c,w,m,rfl,o.sub⟩
def B74 (mem:List UInt8) (rg:Rg):List (List UInt8):=rg.map fun p=>slice mem p.1 p.2
theorem Hm6 {mem:List UInt8} {rg:Rg} {j lo n:Nat} (h:rg[j]?=some (lo,n)):(B74 mem rg)[j]?=some (slice mem lo n):=by unfold B74;rw [List.getElem?_map,h];rfl
theorem Hn3 {mem:List UInt8} {rg:Rg} (h:∀ (j lo n:Nat),rg[j]?=some (lo,n)→lo+n≤mem.length):Fit mem.length rg (B74 mem rg):=⟨by simp [B74],fun j lo n hj=>⟨h j lo n hj,slice mem lo n,Hm6 hj,G21 (h j lo n hj)⟩⟩
theorem It4 {mem:List UInt8} {rg:Rg} (k:RgOk rg) (h:∀ (j lo n:Nat),rg[j]?=some (lo,n)→lo+n≤mem.length):U3 mem rg (B74 mem rg)=mem:=by
 have f:=Hn3 h
 refine List.ext_getElem? fun i=>?_
 by_cases ho:∃ (j lo n:Nat),rg[j]?=some (lo,n)∧lo≤i∧i<lo+n
 ·obtain ⟨j,lo,n,hj,h1,h2⟩:=ho
  obtain ⟨i',rfl⟩:∃ i',i=lo+i':=⟨i-lo,by omega⟩
  rw [Db3 f k j lo n _ hj (Hm6 hj) i' (by omega),B15,if_pos (by omega)]
 ·exact Dv0 f i fun j lo n hj=>by
   by_cases hh:lo≤i∧i<lo+n
   ·exact absurd ⟨j,lo,n,hj,hh.1,hh.2⟩ ho
   ·omega
theorem FrOk.room {F:Fr} {j lo n:Nat} (f:Fit F.S.mem.length F.rg (B74 F.S.mem F.rg)) (h:F.rg[j]?=some (lo,n)):lo+n≤F.S.mem.length:=(f.each j lo n h).1
theorem Fr.at_cut {F:Fr} (k:FrOk F) (h:∀ (j lo n:Nat),F.rg[j]?=some (lo,n)→lo+n≤F.S.mem.length):F.at (B74 F.S.mem F.rg)=F.S:=by
 unfold Fr.at;rw [It4 k.dj h];rfl
theorem Own.cmTake {r:List HP} {h:H} (c k:Nat) (F:Fr) (bad:List RecS) (ok:FrOk F) (hr:∀ (j lo n:Nat),F.rg[j]?=some (lo,n)→lo+n≤F.S.mem.length) (o1:Own h (D4 k F.S::W6 c k F.env F.caps bad::r)):Own h (cmC c k F ⟨B74 F.S.mem F.rg,bad⟩::r):=by
 refine Own.inex (f:=fun u:Unit=>sl (cmF c k F ⟨B74 F.S.mem F.rg,bad⟩)) () (Own.group (l:=cmF c k F ⟨B74 F.S.mem F.rg,bad⟩) ?_)
 show Own h (D4 k (F.at (B74 F.S.mem F.rg))::W6 c k F.env F.caps bad::pu _::r)
 rw [Fr.at_cut ok hr]
 have o2:=Own.inpure (show Fit F.S.mem.length F.rg (B74 F.S.mem F.rg) from Hn3 hr) o1
 exact o2.picks [1,1,0] rfl
theorem I60 {l r:List HP} {h:H} {α:Type} {Q:α→H→Prop} {x:Option (α × H)} (c k:Nat) (F:Fr) (X:CX) [tk:Take (cmC c k F X) l r]
  (t:Fit F.S.mem.length F.rg X.m→Tr (D4 k (F.at X.m)::W6 c k F.env F.caps X.bad::r) h x Q):Tr l h x Q:=fun o=>by
 have o1:Own h (cmC c k F X::r):=o.perm tk.pm
 obtain ⟨u,o2⟩:=Own.ex (f:=fun u:Unit=>sl (cmF c k F X)) o1
 have o3:Own h (D4 k (F.at X.m)::W6 c k F.env F.caps X.bad::pu (Fit F.S.mem.length F.rg X.m)::r):=Own.join o2
 have f:=(o3.front (i:=2) rfl).pure
 exact t f (o3.front (i:=2) rfl).tail
theorem H95 {S:KS} {env cap obj:Int} {lo n:Nat} {e1 e2:Int} (hg:Bw1 S.tabs env cap=some ⟨obj,3,0,(n:Int),e1,e2⟩) (h0:0≤obj) (hr:S.regs[obj.toNat]?=some ((lo:Int),(n:Int))) (hl:lo+n≤65536) :
  ∀ (a m:Nat) (right:Int),right=1∨right=2→a+m≤n→S6 S.tabs S.regs env cap right a m=(((lo+a:Nat):Int),0):=by
 intro a m right hri ha
 have hlt:=(List.getElem?_eq_some_iff.1 hr).1
 unfold S6
 rw [hg]
 have b1:(M8 .i64 3 1==0)=false:=by kernel_rfl
 have b2:(M8 .i64 3 2==0)=false:=by kernel_rfl
 have hb:¬ ((M8 .i64 3 right==0)=true):=by rcases hri with rfl|rfl<;>simp [b1,b2]
 simp only
 have h2:(decide ((a:Int)<0) || decide ((m:Int)<0) || decide ((a:Int)>(n:Int)) || decide ((m:Int)>IntKind.wrap .i64 ((n:Int)-a)) || decide (obj<0) || decide (obj≥S.regs.length))=false:=by
  simp only [Bool.or_eq_false_iff,decide_eq_false_iff_not,B6];omega
 have h3:(decide (IntKind.wrap .i64 (0+(a:Int))>(n:Int)) || decide ((m:Int)>IntKind.wrap .i64 (IntKind.wrap .i64 ((n:Int)-0)-a)))=false:=by
  simp only [Bool.or_eq_false_iff,decide_eq_false_iff_not,B6];omega
 have h4:IntKind.wrap .i64 (IntKind.wrap .i64 ((lo:Int)+0)+a)=((lo+a:Nat):Int):=by simp only [B6];omega
 rw [if_neg hb]
 simp only [h2,hr,h3,h4,Bool.false_eq_true,if_false]
structure Like (S:KS):Prop where
 ok:KOk 0 S
 tabs:S.tabs=S00.tabs
 regs:S.regs=S00.regs
 envs:S.envs=S00.envs
 mem:S.mem.length=2560
theorem El7 {S:KS} (k:Like S) {m:List UInt8} (h:m.length=2560):Like (I1 S m) :=
 ⟨⟨k.ok.envs,k.ok.tabs,k.ok.space,k.ok.quota,by show m.length≤65536;omega,k.ok.regs,k.ok.may,k.ok.mayl,k.ok.nsect,k.ok.sects,k.ok.now⟩,k.tabs,k.regs,k.envs,h⟩
theorem I79:Like S00:=⟨Hn5,rfl,rfl,rfl,by kernel_rfl⟩
theorem Ix1 (S:KS) (k:Like S) (cap:Int) (b:List UInt8):Like (wrS S cap b):=by
 unfold wrS V9
 split
 ·exact k
 ·exact El7 k (by rw [H80];exact k.mem)
theorem D27:Like S0:=Ix1 S00 I79 256 Ad1
def rgP (s:Nat):Rg:=[(1280*s,492),(512,40),(1856,40)]
def frP (S:KS) (s:Nat) (env:Int):Fr:=⟨S,0,env,[256,257,258],rgP s⟩
theorem Ha6:S00.regs=[(0,492),(1280,492),(512,40),(1856,40)]:=by kernel_rfl
theorem I37:S00.envs.length=18:=by kernel_rfl
structure EnvP (s:Nat) (env:Int):Prop where
 hs:s<2
 he:0≤env∧env<18
 a:Bw1 S00.tabs env 256=some ⟨s,3,0,492,0,0⟩
 b:Bw1 S00.tabs env 257=some ⟨2,3,0,40,0,0⟩
 c:Bw1 S00.tabs env 258=some ⟨3,3,0,40,0,0⟩
theorem Em4:EnvP 0 0:=⟨by omega,by omega,by kernel_rfl,by kernel_rfl,by kernel_rfl⟩
theorem Ja8:EnvP 0 3:=⟨by omega,by omega,by kernel_rfl,by kernel_rfl,by kernel_rfl⟩
theorem Eb2 {s j lo n:Nat} (h:(rgP s)[j]?=some (lo,n)):(j=0∧lo=1280*s∧n=492)∨(j=1∧lo=512∧n=40)∨(j=2∧lo=1856∧n=40):=by
 unfold rgP at h
 match j,h with
 | 0,h=>simp at h;omega
 | 1,h=>simp at h;omega
 | 2,h=>simp at h;omega
 | j+3,h=>simp at h
theorem Eg5 {S:KS} (k:Like S) {s:Nat} (hs:s<2) (env:Int):∀ (j lo n:Nat),(frP S s env).rg[j]?=some (lo,n)→lo+n≤(frP S s env).S.mem.length:=by
 intro j lo n h
 have hm:=k.mem
 have:=Eb2 h
 show lo+n≤S.mem.length
 omega
theorem Go9 {S:KS} (k:Like S) {s:Nat} {env:Int} (e:EnvP s env):FrOk (frP S s env):=by
 have hs:=e.hs;have he:=e.he
 refine ⟨k.ok,by simp [frP],by simp [frP],by simp [frP],by simp [frP,rgP],?_,?_,?_,⟨1280*s,rfl⟩,?_⟩
 ·show ¬ (env<0∨env≥(S.envs.length:Int))
  rw [k.envs,I37];omega
 ·intro j cap lo n hc hr
  show ∀ (a m:Nat) (right:Int),right=1∨right=2→a+m≤n→S6 S.tabs S.regs env cap right a m=_
  have hg:=Eb2 hr
  rcases hg with ⟨rfl,rfl,rfl⟩|⟨rfl,rfl,rfl⟩|⟨rfl,rfl,rfl⟩
  ·cases hc
   refine H95 (obj:=s) (e1:=0) (e2:=0) (by rw [k.tabs];exact e.a) (by omega) ?_ (by omega)
   rw [k.regs,Ha6,Int.toNat_natCast]
   match s,hs with
   | 0,_=>rfl
   | 1,_=>rfl
  ·cases hc
   exact H95 (obj:=2) (e1:=0) (e2:=0) (by rw [k.tabs];exact e.b) (by omega) (by rw [k.regs,Ha6];rfl) (by omega)
  ·cases hc
   exact H95 (obj:=3) (e1:=0) (e2:=0) (by rw [k.tabs];exact e.c) (by omega) (by rw [k.regs,Ha6];rfl) (by omega)
 ·intro i j lo n lo' n' hij hi hj
  have h1:=Eb2 hi;have h2:=Eb2 hj
  omega
 ·intro j lo n h0 h
  have:=Eb2 h;omega
abbrev F0:Fr:=frP S0 0 0
def X0:CX:=⟨B74 S0.mem (rgP 0),[]⟩
theorem Iv4:FrOk F0:=Go9 D27 Em4
theorem Is0 (A:PlA):Ct A9 Bm1 [.agg ⟨E46 Bb2 A⟩] (Dr6 Bb2 A) fun v own =>
  ∃ k c w m,v=.tuple ⟨[P0 k,P0 c,P0 w,P0 m]⟩∧own [cmC c k F0 X0,rkC w K0,rcC m w 0 (B47 K0 0) []]:=by
 intro h r o
 obtain ⟨v,h',e,k,c,w,m,hv,o2⟩:=I20 A h r o
 refine ⟨v,h',e,k,c,w,m,hv,?_⟩
 exact Own.cmTake c k F0 [] Iv4 (Eg5 D27 (by omega) 0) o2
theorem Ia7 {y m:Int} (h:0≤y):Int.tmod y m=y%m:=Int.tmod_eq_emod_of_nonneg h
theorem Ad3 {x:Int} (h:0≤x∧x<256):((b8 x).toNat:Int)=x:=by rw [← Bm9,Do7];omega
theorem Hk9 {p:PipeS} (h:okP p=true):U7 (M7 p)=(p,1):=by
 have hk:=h
 simp only [okP,Bool.and_eq_true,decide_eq_true_eq] at h
 have e:Bh1 (M7 p)=p:=by
  obtain ⟨a,b,c,d,l,hl⟩:=p
  simp only at h
  have h1:=Ad3 (x:=a) (by omega);have h2:=Ad3 (x:=b) (by omega);have h3:=Ad3 (x:=c) (by omega);have h4:=Ad3 (x:=d) (by omega)
  simp [Bh1,M7,Aj9,El3 hl]
  exact ⟨h1,h2,h3,h4⟩
 have hz:(M7 p).all (·==0)=false:=by simp [M7,Aj9]
 unfold U7 isP
 rw [hz,e,hk]
 simp
theorem Gg7 {l b:List UInt8} {a c n:Nat} (h:a+b.length≤l.length) (hd:c+n≤a∨a+b.length≤c):slice (N6 l a b) c n=slice l c n:=by
 refine List.ext_getElem? fun i=>?_
 rw [B15,B15]
 split
 ·rw [Bn8 h,if_neg (by omega)]
 ·rfl
theorem Gl4 {l b:List UInt8} {a:Nat} (h:a+b.length≤l.length):slice (N6 l a b) a b.length=b:=by
 refine List.ext_getElem? fun i=>?_
 rw [B15]
 split
 ·rw [Bn8 h,if_pos (by omega)];congr 1;omega
 ·rw [List.getElem?_eq_none (by omega)]
abbrev Iw6:List Int:=[256,257,258]
def nx (l:List Int) (k:Nat):Int:=if k>l.length then 7*k else l.getD (k-1) 0%16777216
structure InS (p:ProcS):Prop where
 a:0≤p.pending∧p.pending≤65535
 b:0≤p.mask∧p.mask≤65535
 c:0≤p.ignored∧p.ignored≤65535
 d:0≤p.caught∧p.caught≤65535
theorem Hh2 {p:ProcS} (h:okS p=true) (r:InS p):Aa4 (Ay4 p)=(p,1):=by
 have hk:=h
 obtain ⟨ra,rb,rc,rd⟩:=r
 have e:Bh6 (Ay4 p)=p:=by
  obtain ⟨st,pa,gr,co,pe,ma,ig,ca,fds,hl⟩:=p
  simp only at ra rb rc rd
  unfold okS at h
  simp only [Bool.and_eq_true,Bool.not_eq_true',Bool.or_eq_false_iff,decide_eq_false_iff_not,List.any_eq_false] at h
  match fds,hl with
  | [f0,f1,f2,f3,f4,f5,f6,f7],hl =>
   have hf:=h.2.2.1
   simp at hf
   have two_b:∀ n:Int,0≤n∧n≤65535→((hi2 n).toNat:Int)*256+((lo2 n).toNat:Int)=n:=fun n hn=>by
    unfold hi2 lo2
    rw [if_pos hn,if_pos hn,Ad3 (by omega),← Bm9,Do7];omega
   have g0:=h.1
   simp only [Bh6,Ay4,El0,two]
   simp
   refine ⟨Ad3 (by omega),Ad3 (by omega),Ad3 (by omega),Ad3 (by omega),two_b _ ra,two_b _ rb,two_b _ rc,two_b _ rd,Ad3 (by omega),Ad3 (by omega),Ad3 (by omega),Ad3 (by omega),Ad3 (by omega),Ad3 (by omega),Ad3 (by omega),Ad3 (by omega)⟩
 have hz:(Ay4 p).all (·==0)=false:=by
  simp [Ay4,El0]
 unfold Aa4 isS
 rw [hz,e,hk]
 simp
theorem I49:Ei7 0 0=true:=by kernel_rfl
theorem Iq2:EnvP 0 1:=⟨by omega,by omega,by kernel_rfl,by kernel_rfl,by kernel_rfl⟩
def stR (kind:Int) (l:List UInt8):Int:=if kind=1 then (Aa4 l).2 else if kind=2 then (Aa2 l).2 else if kind=5 then (Ao9 l).2 else (U7 l).2
def rd (X:CX) (r:RecS):List UInt8 :=
 match J5 X.m.length r with
 | some (j,a,n)=>slice (X.m.getD j []) a n
 | none=>[]
structure Clean (nc:Nat) (X:CX):Prop where
 len:X.m.length=nc
 pos:0<nc
 bad:X.bad=[]
 own:(X.m.getD 0 []).length=492
 brs:∀ j,0<j→j<nc→(X.m.getD j []).length=40
 ok:∀ r:RecS,1≤r.kind→r.kind≤5→0≤r.index→r.index<Aa6 nc r.kind→stR r.kind (rd X r)≠2
structure Rin (nc:Nat) (r:RecS):Prop where
 a:1≤r.kind
 b:r.kind≤5
 c:0≤r.index
 d:r.index<Aa6 nc r.kind
theorem Rin.place {nc:Nat} {r:RecS} (h:Rin nc r) (hn:0<nc):∃ j a,J5 nc r=some (j,a,Af7 r.kind)∧j<nc∧(j=0→a+Af7 r.kind≤492)∧(0<j→a=0∧Af7 r.kind=40):=by
 obtain ⟨h1,h2,h3,h4⟩:=h
 obtain ⟨k,i⟩:=r
 simp only at h1 h2 h3 h4
 have hk:k=1∨k=2∨k=3∨k=4∨k=5:=by omega
 unfold J5 Af7
 simp only
 rw [if_neg (by omega)]
 rcases hk with rfl|rfl|rfl|rfl|rfl
 ·exact ⟨0,_,rfl,hn,fun _=>by simp [Aa6] at h4 ⊢;omega,fun h=>by omega⟩
 ·exact ⟨0,_,rfl,hn,fun _=>by simp [Aa6] at h4 ⊢;omega,fun h=>by omega⟩
 ·simp only [Aa6] at h4
  by_cases h5:i<4
  ·exact ⟨0,_,by simp [h5];rfl,hn,fun _=>by simp;omega,fun h=>by omega⟩
  ·exact ⟨i.toNat-3,0,by simp [h5],by simp at h4;omega,fun h=>by omega,fun _=>⟨rfl,rfl⟩⟩
 ·exact ⟨0,_,rfl,hn,fun _=>by simp,fun h=>by omega⟩
 ·exact ⟨0,_,rfl,hn,fun _=>by simp,fun h=>by omega⟩
theorem Il7 {nc:Nat} {r r':RecS} (h:Rin nc r) (h':Rin nc r') (ne:r≠r') {j a n j' a' n':Nat} (e:J5 nc r=some (j,a,n)) (e':J5 nc r'=some (j',a',n')):j≠j'∨a+n≤a'∨a'+n'≤a:=by
 obtain ⟨h1,h2,h3,h4⟩:=h
 obtain ⟨g1,g2,g3,g4⟩:=h'
 obtain ⟨k,i⟩:=r
 obtain ⟨k',i'⟩:=r'
 simp only at h1 h2 h3 h4 g1 g2 g3 g4
 have ne':k≠k'∨i≠i':=by
  by_cases hk:k=k'
  ·right;intro hi;exact ne (by rw [hk,hi])
  ·exact .inl hk
 unfold J5 at e e'
 simp only at e e'
 rw [if_neg (by omega)] at e e'
 unfold Aa6 at h4 g4
 have hk:k=1∨k=2∨k=3∨k=4∨k=5:=by omega
 have hk':k'=1∨k'=2∨k'=3∨k'=4∨k'=5:=by omega
 have fin:∀ {x y:Nat × Nat × Nat},some x=some y→x=y:=fun h=>by cases h;rfl
 rcases hk with rfl|rfl|rfl|rfl|rfl<;>rcases hk' with rfl|rfl|rfl|rfl|rfl<;>simp at e e' h4 g4 ne'<;>(try split at e)<;>(try split at e')<;>(try simp at e e')<;>omega
def B37 (X:CX) (r:RecS) (b:List UInt8):CX :=
 match J5 X.m.length r with
 | some (j,a,_)=>{ X with m:=X.m.set j (N6 (X.m.getD j []) a b) }
 | none=>X
theorem Ge9 (l:List (List UInt8)) (j j':Nat) (x:List UInt8) (h:j<l.length):(l.set j x).getD j' []=if j'=j then x else l.getD j' []:=by
 rw [List.getD_eq_getElem?_getD,List.getD_eq_getElem?_getD,List.getElem?_set]
 by_cases hj:j=j'
 ·subst hj;simp [h]
 ·rw [if_neg hj,if_neg (fun e=>hj e.symm)]
section
variable {nc:Nat} {X:CX} (c:Clean nc X) {r r':RecS} (h:Rin nc r) (h':Rin nc r')
include c h
theorem Ig7:rdX X r=some (rd X r):=by
 obtain ⟨j,a,e,_⟩:=h.place c.pos
 unfold rdX rd
 rw [c.len,e]
 simp [c.bad]
theorem Di7 (b:List UInt8):wrX X r b true=(true,B37 X r b):=by
 obtain ⟨j,a,e,_⟩:=h.place c.pos
 unfold wrX B37
 rw [c.len,e]
 simp [c.bad]
theorem Ez7 {j a n:Nat} (e:J5 nc r=some (j,a,n)):a+n≤(X.m.getD j []).length∧j<X.m.length∧n=Af7 r.kind:=by
 obtain ⟨j',a',e',hj,h0,h1⟩:=h.place c.pos
 rw [e] at e';cases e'
 rw [c.len]
 by_cases hz:j=0
 ·subst hz;rw [c.own];exact ⟨h0 rfl,hj,rfl⟩
 ·rw [c.brs j (by omega) hj]
  have:=h1 (by omega)
  exact ⟨by omega,hj,rfl⟩
include h'
theorem Am5 {b:List UInt8} (hb:b.length=Af7 r.kind):rd (B37 X r b) r'=if r'=r then b else rd X r':=by
 obtain ⟨j,a,e,_⟩:=h.place c.pos
 obtain ⟨j',a',e',_⟩:=h'.place c.pos
 have p:=Ez7 c h e
 have p':=Ez7 c h' e'
 have es:B37 X r b={ X with m:=X.m.set j (N6 (X.m.getD j []) a b) }:=by unfold B37;rw [c.len,e]
 have el:(B37 X r b).m.length=nc:=by rw [es];simp [c.len]
 unfold rd
 rw [el,e',c.len,e',es]
 simp only
 rw [Ge9 _ _ _ _ p.2.1]
 by_cases hr:r'=r
 ·subst hr
  rw [e] at e';cases e'
  rw [if_pos rfl,if_pos rfl]
  have:=Gl4 (l:=X.m.getD j []) (b:=b) (a:=a) (by omega)
  rwa [hb] at this
 ·rw [if_neg hr]
  by_cases hj:j'=j
  ·subst hj
   rw [if_pos rfl]
   have dj:=Il7 h' h hr e' e
   exact Gg7 (by omega) (by omega)
  ·rw [if_neg hj]
end
theorem Di2 {nc:Nat} {X:CX} (c:Clean nc X) {r:RecS} (h:Rin nc r) {b:List UInt8} (hb:b.length=Af7 r.kind) (hs:stR r.kind b≠2):Clean nc (B37 X r b):=by
 obtain ⟨j,a,e,_⟩:=h.place c.pos
 have p:=Ez7 c h e
 have es:B37 X r b={ X with m:=X.m.set j (N6 (X.m.getD j []) a b) }:=by unfold B37;rw [c.len,e]
 refine ⟨by rw [es];simp [c.len],c.pos,by rw [es];exact c.bad,?_,?_,?_⟩
 ·rw [es];simp only
  rw [Ge9 _ _ _ _ p.2.1]
  split
  ·rename_i h0;subst h0;rw [Ah8 (by omega)];exact c.own
  ·exact c.own
 ·intro i h0 h1
  rw [es];simp only
  rw [Ge9 _ _ _ _ p.2.1]
  split
  ·rename_i h2;subst h2;rw [Ah8 (by omega)];exact c.brs i h0 h1
  ·exact c.brs i h0 h1
 ·intro r' h1 h2 h3 h4
  rw [Am5 c h ⟨h1,h2,h3,h4⟩ hb]
  split
  ·rename_i hr;rw [hr];exact hs
  ·exact c.ok r' h1 h2 h3 h4
theorem Dg6 {α:Type} (dec:List UInt8→α × Int) (z:α) {nc:Nat} {X:CX} (c:Clean nc X) {r:RecS} (h:Rin nc r) (hd:(dec (rd X r)).2=stR r.kind (rd X r)):Y9 dec z X r=(dec (rd X r),X):=by
 unfold Y9
 rw [Ig7 c h]
 simp only
 rw [if_neg (by rw [hd];exact c.ok r h.a h.b h.c h.d)]
abbrev vS (X:CX) (i:Int):ProcS × Int:=Aa4 (rd X ⟨1,i⟩)
abbrev vF (X:CX) (i:Int):FileS × Int:=Aa2 (rd X ⟨2,i⟩)
abbrev vP (X:CX) (i:Int):PipeS × Int:=U7 (rd X ⟨3,i⟩)
theorem Dz3 {nc:Nat} {i:Int} (h:0≤i∧i<8):Rin nc ⟨1,i⟩:=⟨by simp,by simp,h.1,h.2⟩
theorem Br8 {nc:Nat} {i:Int} (h:0≤i∧i<12):Rin nc ⟨2,i⟩:=⟨by simp,by simp,h.1,h.2⟩
theorem Bm3 {nc:Nat} {i:Int} (h:0≤i∧i<3+nc):Rin nc ⟨3,i⟩:=⟨by simp,by simp,h.1,h.2⟩
theorem Ag4 {nc:Nat} {X:CX} (c:Clean nc X) {i:Int} (h:0≤i∧i<8):Eo8 X i=(vS X i,X):=Dg6 Aa4 .zero c (Dz3 h) rfl
theorem Bu5 {nc:Nat} {X:CX} (c:Clean nc X) {i:Int} (h:0≤i∧i<12):Eo7 X i=(vF X i,X):=Dg6 Aa2 .zero c (Br8 h) rfl
theorem Ea5 {nc:Nat} {X:CX} (c:Clean nc X) {i:Int} (h:0≤i∧i<3+nc):En4 X i=(vP X i,X):=Dg6 U7 .zero c (Bm3 h) rfl
theorem Dp5 {f:CX→Int→CX} {X:CX}:∀ (m:Nat) (i:Int),(∀ j,i≤j→j<i+m→f X j=X)→Dq4 f m i X=X
 | 0,_,_=>rfl
 | m+1,i,h=>by
  unfold Dq4
  rw [h i (by omega) (by omega)]
  exact Dp5 m (i+1) fun j h1 h2=>h j (by omega) (by omega)
theorem Al5 {nc:Nat} {X:CX} (c:Clean nc X):Gr3 X=X:=by
 have h3:Gs8 X=X:=by
  unfold Gs8
  have e1:E48 X=(U7 (rd X ⟨4,0⟩),X):=Dg6 U7 .zero c ⟨by simp,by simp,by simp,by simp [Aa6]⟩ rfl
  have e2:Eu8 X=(Ao9 (rd X ⟨5,0⟩),X):=Dg6 Ao9 0 c ⟨by simp,by simp,by simp,by simp [Aa6]⟩ rfl
  rw [e1];simp only;rw [e2]
 have hl:=c.len
 unfold Gr3 lookN Hj0 He5
 rw [Dp5 8 0 (fun j h1 h2=>by rw [Ag4 c (by omega)])]
 rw [Dp5 12 0 (fun j h1 h2=>by rw [Bu5 c (by omega)])]
 rw [Dp5 (3+X.m.length) 0 (fun j h1 h2=>by rw [Ea5 c (by omega)]),h3]
theorem Hj3 {f:FileS} (h:okF f=true):Aa2 (Al4 f)=(f,1):=by
 have hk:=h
 simp only [okF,Bool.and_eq_true,Bool.or_eq_true,decide_eq_true_eq,beq_iff_eq,bne_iff_ne] at h
 have e:Da7 (Al4 f)=f:=by
  obtain ⟨a,b,c,d⟩:=f
  simp only at h
  have h1:=Ad3 (x:=a) (by omega);have h2:=Ad3 (x:=b) (by omega);have h3:=Ad3 (x:=c) (by omega);have h4:=Ad3 (x:=d) (by omega)
  simp [Da7,Al4,Bd6]
  exact ⟨h1,h2,h3,h4⟩
 have hz:(Al4 f).all (·==0)=false:=by simp [Al4,Bd6]
 unfold Aa2 isF
 rw [hz,e,hk]
 simp
section
variable {nc:Nat} {X:CX} (c:Clean nc X)
include c
abbrev Db8 (X:CX) (i:Int) (p:ProcS):CX:=B37 X ⟨1,i⟩ (Ay4 p)
abbrev A43 (X:CX) (i:Int) (f:FileS):CX:=B37 X ⟨2,i⟩ (Al4 f)
theorem Bp5 {i:Int} (h:0≤i∧i<8) {p:ProcS} (ok:okS p=true) (r:InS p) :
  A37 X i p=(true,Db8 X i p)∧Clean nc (Db8 X i p)∧(∀ j:Int,0≤j∧j<8→vS (Db8 X i p) j=if j=i then (p,1) else vS X j)∧(∀ j:Int,0≤j∧j<12→vF (Db8 X i p) j=vF X j)∧(∀ j:Int,0≤j∧j<3+nc→vP (Db8 X i p) j=vP X j):=by
 have hl:(Ay4 p).length=Af7 (1:Int):=by rw [Ej0];rfl
 refine ⟨by unfold A37;rw [ok];exact Di7 c (Dz3 h) _,Di2 c (Dz3 h) hl (by show (Aa4 (Ay4 p)).2≠2;rw [Hh2 ok r];simp),fun j hj=>?_,fun j hj=>?_,fun j hj=>?_⟩
 ·show Aa4 (rd _ _)=_
  rw [Am5 c (Dz3 h) (Dz3 hj) hl]
  by_cases e:j=i
  ·rw [if_pos (by rw [e]),if_pos e];exact Hh2 ok r
  ·rw [if_neg (by simp [e]),if_neg e]
 ·show Aa2 (rd _ _)=_
  rw [Am5 c (Dz3 h) (Br8 hj) hl,if_neg (by simp)]
 ·show U7 (rd _ _)=_
  rw [Am5 c (Dz3 h) (Bm3 hj) hl,if_neg (by simp)]
theorem Au8 {i:Int} (h:0≤i∧i<12) {f:FileS} (ok:okF f=true) :
  Bn0 X i f=(true,A43 X i f)∧Clean nc (A43 X i f)∧(∀ j:Int,0≤j∧j<8→vS (A43 X i f) j=vS X j)∧(∀ j:Int,0≤j∧j<12→vF (A43 X i f) j=if j=i then (f,1) else vF X j)∧(∀ j:Int,0≤j∧j<3+nc→vP (A43 X i f) j=vP X j):=by
 have hl:(Al4 f).length=Af7 (2:Int):=by rw [Dt5];rfl
 refine ⟨by unfold Bn0;rw [ok];exact Di7 c (Br8 h) _,Di2 c (Br8 h) hl (by show (Aa2 (Al4 f)).2≠2;rw [Hj3 ok];simp),fun j hj=>?_,fun j hj=>?_,fun j hj=>?_⟩
 ·show Aa4 (rd _ _)=_
  rw [Am5 c (Br8 h) (Dz3 hj) hl,if_neg (by simp)]
 ·show Aa2 (rd _ _)=_
  rw [Am5 c (Br8 h) (Br8 hj) hl]
  by_cases e:j=i
  ·rw [if_pos (by rw [e]),if_pos e];exact Hj3 ok
  ·rw [if_neg (by simp [e]),if_neg e]
 ·show U7 (rd _ _)=_
  rw [Am5 c (Br8 h) (Bm3 hj) hl,if_neg (by simp)]
theorem Iv0 {i:Int} (h:0≤i∧i<8):((vS X i).2=0∧(vS X i).1=.zero)∨((vS X i).2=1∧okS (vS X i).1=true):=by
 have:=c.ok ⟨1,i⟩ (by simp) (by simp) h.1 h.2
 have hk:(vS X i).2≠2:=this
 unfold vS Aa4 at hk ⊢
 split
 ·exact .inl ⟨rfl,rfl⟩
 ·split
  ·rename_i h2
   unfold isS at h2
   simp only [Bool.and_eq_true] at h2
   exact .inr ⟨rfl,h2.1⟩
  ·rename_i h1 h2;simp [h1,h2] at hk
theorem Iv2 {i:Int} (h:0≤i∧i<12):((vF X i).2=0∧(vF X i).1=.zero)∨((vF X i).2=1∧okF (vF X i).1=true):=by
 have:=c.ok ⟨2,i⟩ (by simp) (by simp) h.1 h.2
 have hk:(vF X i).2≠2:=this
 unfold vF Aa2 at hk ⊢
 split
 ·exact .inl ⟨rfl,rfl⟩
 ·split
  ·rename_i h2
   unfold isF at h2
   simp only [Bool.and_eq_true] at h2
   exact .inr ⟨rfl,h2.1⟩
  ·rename_i h1 h2;simp [h1,h2] at hk
end
abbrev U9 (n e:Int) (b:Bool):List Value:=[int n,int e,.slice none 0 0,.bool b]
theorem E73 (e:Int):Ct A9 A30 [int e] [] fun v own=>v=.agg ⟨U9 0 e false⟩∧own []:=by
 refine Ct.of Hq1 rfl fun h r=>Tr.eq (Hu3 ..) ?_;refine Je ?_
 (refine Ja ?_;intros)
 refine Ys fun o=>?_
 exact ⟨rfl,o.sub⟩
theorem Iz1 (ok:Bool) (n:Int):Ct A9 Df1 [.bool ok,int n] [] fun v own=>v=.agg ⟨if ok then U9 n 0 false else U9 0 105 false⟩∧own []:=by
 refine Ct.of Hs8 rfl fun h r=>Tr.eq (Ht1 ..) ?_;refine Je ?_
 cases ok with
 | true =>
  (refine Ja ?_;intros)
  refine Ys fun o=>?_
  exact ⟨rfl,o.sub⟩
 | false =>
  (refine Ja ?_;intros)
  refine Yc (E73 105) ?_;rintro _ h ⟨rfl,o⟩<;>(refine Jf o ?_;intros)
  refine Ys fun o=>?_
  exact ⟨rfl,o.sub⟩
def S9 (X:CX) (i:Int):ProcS × Int:=if (vS X i).2=1∧(vS X i).1.state=1 then ((vS X i).1,0) else (.zero,105)
theorem E53 (b k:Nat) (F:Fr) (X:CX) (ok:FrOk F) {nc:Nat} (c:Clean nc X) (i:Int) (hi:0≤i∧i<8):Ct A9 A41 [P0 b,int i] [cmC b k F X] fun v own=>v=.tuple ⟨[.agg ⟨E0 (S9 X i).1⟩,int (S9 X i).2]⟩∧own [cmC b k F X]:=by
 refine Ct.of Hp8 rfl fun h r=>Tr.eq (Hs7 ..) ?_;refine Je ?_
 (refine Jc ?_;intros)
 refine Yn fun b0 h=>?_
 refine Yc (Bg5 b k F X ok) ?_;rintro _ h ⟨rfl,o⟩<;>refine Jh o ?_
 rw [Al5 c]
 (refine Ja ?_;intros)
 refine Yc (A32 b k F X ok i) ?_;rintro _ h ⟨rfl,o⟩<;>refine Jh o ?_
 rw [Ag4 c hi]
 dsimp only
 (refine Jc ?_;intros)
 refine Yn fun b1 h=>?_
 (refine Jb ?_;intros)
 refine Tr.orG (c:=(vS X i).1.state != 1) (fun hb=>?_) ?_
 ·exact Jz
 unfold S9
 by_cases h1:(vS X i).2=1∧(vS X i).1.state=1
 ·rw [if_pos h1]
  refine Yf (by simp [h1.1,h1.2]) ?_
  (refine Ja ?_;intros)
  refine Ys fun o=>?_
  exact ⟨rfl,o.sub⟩
 ·rw [if_neg h1]
  refine Yt (by simp;by_cases h2:(vS X i).2=1<;>simp [h2] at h1 ⊢;exact h1) ?_
  (refine Ja ?_;intros)
  refine Ys fun o=>?_
  exact ⟨rfl,o.sub⟩
def Al8 (X:CX):Nat→Int→Int
 | 0,_=>-1
 | m+1,i=>if (vS X i).2=0 then i else Al8 X m (i+1)
theorem H34 (b k:Nat) (F:Fr) (X:CX) (ok:FrOk F) {nc:Nat} (c:Clean nc X):∀ (m:Nat) (i:Int),0≤i→i+m=8 →
  CtJ I2 At6 Bo1 [(0,P0 b),(6,int i)] [cmC b k F X] fun v own=>v=int (Al8 X m i)∧own [cmC b k F X]:=by
 intro m
 induction m with
 | zero =>
  intro i h0 hi
  refine CtJ.of D97 fun h r=>Tr.eq (Eb3 ..) ?_;refine Je ?_
  refine Yf (by simp;omega) ?_
  refine Ys fun o=>?_
  exact ⟨rfl,o.sub⟩
 | succ m ih =>
  intro i h0 hi
  have e1:=wI i
  refine CtJ.of D97 fun h r=>Tr.eq (Eb3 ..) ?_;refine Je ?_
  refine Yt (by simp;omega) ?_
  refine Yc (A32 b k F X ok i) ?_;rintro _ h ⟨rfl,o⟩<;>refine Jh o ?_
  rw [Ag4 c (by omega)]
  dsimp only
  (refine Jc ?_;intros)
  refine Yn fun b1 h=>?_
  (refine Ja ?_;intros)
  rw [show Al8 X (m+1) i=if (vS X i).2=0 then i else Al8 X m (i+1) from rfl]
  by_cases h1:(vS X i).2=0
  ·rw [if_pos h1]
   refine Yt (by simpa using h1) ?_
   refine Ys fun o=>?_
   exact ⟨rfl,o.sub⟩
  ·rw [if_neg h1,e1]
   refine Yf (by simpa using h1) ?_
   refine Ab2 [1] 1 rfl rfl ?_
   refine Yr (ih (i+1) (by omega) (by omega)) ?_
   intro v h q
   exact q
theorem I16 (b k:Nat) (F:Fr) (X:CX) (ok:FrOk F) {nc:Nat} (c:Clean nc X):Ct A9 At6 [P0 b] [cmC b k F X] fun v own=>v=int (Al8 X 8 0)∧own [cmC b k F X]:=by
 refine Ct.of D97 rfl fun h r=>Tr.eq (Hq0 ..) ?_;refine Je ?_
 refine Yr (H34 b k F X ok c 8 0 (by omega) (by omega)) ?_
 intro v h q
 exact q
def Bp3:List Int→List Int→List Int
 | [],m=>m
 | f::l,m=>Bp3 l (if f>0 then m.set (f-1).toNat (m.getD (f-1).toNat 0+1) else m)
def Ae5 (n:Int) (m:List Int):Prop:=m.length=12∧∀ x ∈ m,0≤x∧x≤n
theorem Ae5.get {n:Int} {m:List Int} (h:Ae5 n m) {j:Nat} (hj:j<12):0≤m.getD j 0∧m.getD j 0≤n:=by
 have hl:=h.1
 have e:m[j]?=some m[j]:=List.getElem?_eq_getElem (by omega)
 rw [List.getD_eq_getElem?_getD,e]
 exact h.2 _ (List.getElem_mem _)
theorem Ae5.set {n:Int} {m:List Int} (h:Ae5 n m) {j:Nat} (hj:j<12):Ae5 (n+1) (m.set j (m.getD j 0+1)):=by
 refine ⟨by simpa using h.1,fun x hx=>?_⟩
 rcases List.mem_or_eq_of_mem_set hx with h2|rfl
 ·have:=h.2 x h2;omega
 ·have:=h.get hj;omega
theorem Ae5.up {n:Int} {m:List Int} (h:Ae5 n m):Ae5 (n+1) m:=⟨h.1,fun x hx=>by have:=h.2 x hx;omega⟩
theorem It0 {m:List Int} {j:Nat} (h:j<m.length) (v:Int):Dk9 (m.map int) j (int v)=some ((m.set j v).map int):=by
 rw [Dk9,show Nat.blt j (m.map int).length=true from Nat.ble_eq_true_of_le (by simp;omega),List.map_set];rfl
def B32 (l:List Int):Prop:=∀ f ∈ l,0≤f∧f≤12
theorem Gy9 {l:List Int} {i:Nat} (h:i<l.length):(l.map int)[i]?=some (int (l.getD i 0)):=by rw [List.getElem?_map,P6 0 h];rfl
theorem Hw5 (b k:Nat) (F:Fr) (X:CX) (b0 b1:Nat) (p:ProcS) (hf:B32 p.fds) (Φ:Value→(List HP→Prop)→Prop) (M:List Int)
  (next:CtJ I2 I0 Ao7 [(0,P0 b),(5,P0 b1),(31,.agg ⟨p.fds.map int⟩),(32,int 0)] [pt b1 (.cells Eh8 false (M.map int)),cmC b k F X] Φ) :
  ∀ (m i:Nat) (more:List Int),i+m=8→Ae5 i more→Bp3 (p.fds.drop i) more=M →
  CtJ I2 I0 A05 [(0,P0 b),(3,P0 b0),(5,P0 b1),(17,.agg ⟨p.fds.map int⟩),(18,int i)] [pt b1 (.cells Eh8 false (more.map int)),pt b0 (.cells D2 false (E0 p)),cmC b k F X] Φ:=by
 intro m
 induction m with
 | zero =>
  intro i more hi hm hM
  have:i=8:=by omega
  subst this
  rw [show p.fds.drop 8=[] from List.drop_eq_nil_of_le (by rw [p.len];omega),show Bp3 [] more=more from rfl] at hM
  subst hM
  refine CtJ.of Ax2 fun h r=>Tr.eq (D26 ..) ?_;refine Je ?_
  refine Yf (by simp) ?_
  (refine Ja ?_;intros)
  refine Ab2 [0,1] 1 rfl rfl ?_
  refine Yr next ?_
  intro v h q
  exact q
 | succ m ih =>
  intro i more hi hm hM
  have e1:=wN i
  have hil:i<p.fds.length:=by rw [p.len];omega
  have hg:=Gy9 hil
  have hd:p.fds.drop i=p.fds.getD i 0::p.fds.drop (i+1):=by
   rw [List.drop_eq_getElem_cons hil,List.getD_eq_getElem?_getD,List.getElem?_eq_getElem hil];rfl
  have hr:0≤p.fds.getD i 0∧p.fds.getD i 0≤12:=hf _ (by
   rw [List.getD_eq_getElem?_getD,List.getElem?_eq_getElem hil];exact List.getElem_mem _)
  rw [hd] at hM
  generalize p.fds.getD i 0=f at hg hr hM
  rw [show Bp3 (f::p.fds.drop (i+1)) more=Bp3 (p.fds.drop (i+1)) (if f>0 then more.set (f-1).toNat (more.getD (f-1).toNat 0+1) else more) from rfl] at hM
  refine CtJ.of Ax2 fun h r=>Tr.eq (D26 ..) ?_;refine Je ?_
  refine Yt (by simp;omega) ?_
  rw [e1]
  refine Tr.ck (by omega) ?_
  rw [Int.toNat_natCast]
  (refine Ja ?_;intros)
  by_cases hz:f>0
  ·have e2:IntKind.wrap .i64 (f-1)=f-1:=by rw [B6];omega
   have hj:(f-1).toNat<12:=by omega
   have hm2:=hm.get hj
   have e3:IntKind.wrap .i64 (more.getD (f-1).toNat 0+1)=more.getD (f-1).toNat 0+1:=by rw [B6];omega
   have hgm:=Gy9 (l:=more) (i:=(f-1).toNat) (by rw [hm.1];exact hj)
   rw [if_pos hz] at hM
   rw [e2]
   refine Yt (by simpa using hz) ?_
   (refine Ja ?_;intros)
   rw [e3]
   refine Gs (fun h=>?_) (by exact It0 (by rw [hm.1];exact hj) _)
   refine Yr (ih (i+1) (more.set (f-1).toNat (more.getD (f-1).toNat 0+1)) (by omega) (by rw [show ((i+1:Nat):Int)=(i:Int)+1 by omega];exact hm.set hj) hM) ?_
   intro v h q
   exact q
  ·rw [if_neg hz] at hM
   refine Yf (by simpa using hz) ?_
   refine Yr (ih (i+1) more (by omega) (by simpa using hm.up) hM) ?_
   intro v h q
   exact q
def Ae9 (X:CX) (more:List Int):List Int→Int
 | []=>0
 | f::l=>if f=0 then Ae9 X more l else if (vF X (f-1)).2≠1 then 105 else if (vF X (f-1)).1.refs+more.getD (f-1).toNat 0>64 then 123 else Ae9 X more l
theorem Hz1 {f:FileS} (h:okF f=true):1≤f.refs∧f.refs≤64:=by
 simp only [okF,Bool.and_eq_true,Bool.or_eq_true,decide_eq_true_eq,beq_iff_eq,bne_iff_ne] at h
 omega
theorem Hx2 {nc:Nat} {X:CX} (c:Clean nc X) {i:Int} (h:0≤i∧i<12):0≤(vF X i).1.refs∧(vF X i).1.refs≤64:=by
 rcases Iv2 c h with ⟨_,h1⟩|⟨_,h1⟩
 ·rw [h1];simp
 ·have:=Hz1 h1;omega
theorem Hu1 (b k:Nat) (F:Fr) (X:CX) (ok:FrOk F) {nc:Nat} (c:Clean nc X) (b1:Nat) (fds more:List Int) (hl:fds.length=8) (hf:B32 fds) (hm:Ae5 8 more) (Φ:Value→(List HP→Prop)→Prop)
  (bad:∀ (e:Int),Ae9 X more fds=e→e≠0→∀ h r,Own h (cmC b k F X::r)→Φ (int e) fun l=>Own h (l++r))
  (next:Ae9 X more fds=0→CtJ I2 I0 Ao2 [(0,P0 b),(57,.agg ⟨more.map int⟩),(58,int 0)] [cmC b k F X] Φ) :
  ∀ (m i:Nat),i+m=8→Ae9 X more fds=Ae9 X more (fds.drop i) →
  CtJ I2 I0 Ao7 [(0,P0 b),(5,P0 b1),(31,.agg ⟨fds.map int⟩),(32,int i)] [pt b1 (.cells Eh8 false (more.map int)),cmC b k F X] Φ:=by
 intro m
 induction m with
 | zero =>
  intro i hi he
  have:i=8:=by omega
  subst this
  rw [show fds.drop 8=[] from List.drop_eq_nil_of_le (by omega),show Ae9 X more []=0 from rfl] at he
  have hl12:Df3 (more.map int) 0 12=some (more.map int):=B10 (by simp [hm.1])
  refine CtJ.of Ax2 fun h r=>Tr.eq (D47 ..) ?_;refine Je ?_
  refine Yf (by simp) ?_
  refine Gs ?_ (by exact hl12)
  refine Ab2 [1] 1 rfl rfl ?_
  refine Yr (next he) ?_
  intro v h q
  exact q
 | succ m ih =>
  intro i hi he
  have e1:=wN i
  have hil:i<fds.length:=by omega
  have hg:=Gy9 hil
  have hd:fds.drop i=fds.getD i 0::fds.drop (i+1):=by
   rw [List.drop_eq_getElem_cons hil,List.getD_eq_getElem?_getD,List.getElem?_eq_getElem hil];rfl
  have hr:0≤fds.getD i 0∧fds.getD i 0≤12:=hf _ (by
   rw [List.getD_eq_getElem?_getD,List.getElem?_eq_getElem hil];exact List.getElem_mem _)
  rw [hd] at he
  generalize fds.getD i 0=f at hg hr he
  rw [show Ae9 X more (f::fds.drop (i+1))=if f=0 then Ae9 X more (fds.drop (i+1)) else if (vF X (f-1)).2≠1 then 105 else if (vF X (f-1)).1.refs+more.getD (f-1).toNat 0>64 then 123 else Ae9 X more (fds.drop (i+1)) from rfl] at he
  refine CtJ.of Ax2 fun h r=>Tr.eq (D47 ..) ?_;refine Je ?_
  refine Yt (by simp;omega) ?_
  rw [e1]
  refine Tr.ck (by omega) ?_
  rw [Int.toNat_natCast]
  (refine Ja ?_;intros)
  by_cases hz:f=0
  ·rw [if_pos hz] at he
   refine Yt (by simpa using hz) ?_
   refine Yr (ih (i+1) (by omega) he) ?_
   intro v h q
   exact q
  rw [if_neg hz] at he
  refine Yf (by simpa using hz) ?_
  have e2:IntKind.wrap .i64 (f-1)=f-1:=by rw [B6];omega
  have hj:(f-1).toNat<12:=by omega
  rw [e2]
  refine Yc (Dx3 b k F X ok (f-1)) ?_;rintro _ h ⟨rfl,o⟩<;>refine Jh o ?_
  rw [Bu5 c (by omega)]
  dsimp only
  (refine Jc ?_;intros)
  refine Yn fun b2 h=>?_
  (refine Ja ?_;intros)
  by_cases h1:(vF X (f-1)).2=1
  ·rw [if_neg (by simpa using h1)] at he
   refine Yf (by simpa using h1) ?_
   have hm2:=hm.get hj
   have hgm:=Gy9 (l:=more) (i:=(f-1).toNat) (by rw [hm.1];exact hj)
   have hrf:=Hx2 c (i:=f-1) (by omega)
   have e3:IntKind.wrap .i64 ((vF X (f-1)).1.refs+more.getD (f-1).toNat 0)=(vF X (f-1)).1.refs+more.getD (f-1).toNat 0:=by rw [B6];omega
   (refine Ja ?_;intros)
   rw [e3]
   by_cases h2:(vF X (f-1)).1.refs+more.getD (f-1).toNat 0>64
   ·rw [if_pos h2] at he
    refine Yt (by simpa using h2) ?_
    refine Ab2 [1] 2 rfl rfl ?_
    refine Ys fun o=>?_
    exact bad 123 he (by simp) _ _ o
   ·rw [if_neg h2] at he
    refine Yf (by simpa using h2) ?_
    refine Ab2 [2,1] 1 rfl rfl ?_
    refine Yr (ih (i+1) (by omega) he) ?_
    intro v h q
    exact q
  ·rw [if_pos h1] at he
   refine Yt (by simpa using h1) ?_
   refine Ab2 [1] 2 rfl rfl ?_
   refine Ys fun o=>?_
   exact bad 105 he (by simp) _ _ o
abbrev Ea7 (f:FileS) (n:Int):FileS:=⟨f.kind,f.pipe,f.refs+n,f.flags⟩
def Bf5 (more:List Int):Nat→Int→CX→CX
 | 0,_,X=>X
 | m+1,j,X=>Bf5 more m (j+1) (if more.getD j.toNat 0=0 then X else A43 X j (Ea7 (vF X j).1 (more.getD j.toNat 0)))
def Gt7 (more:List Int) (X:CX) (j:Int):Prop:=∀ i:Int,j≤i→i<12→more.getD i.toNat 0≠0→(vF X i).2=1∧(vF X i).1.refs+more.getD i.toNat 0≤64
theorem Im5 {f:FileS} (h:okF f=true) {n:Int} (hn:1≤f.refs+n∧f.refs+n≤64):okF (Ea7 f n)=true:=by
 simp only [okF,Bool.and_eq_true,Bool.or_eq_true,decide_eq_true_eq,beq_iff_eq,bne_iff_ne] at h ⊢
 omega
theorem Gt7.step {nc:Nat} {X:CX} (c:Clean nc X) {more:List Int} (hm:Ae5 8 more) {j:Int} (h0:0≤j∧j<12) (s:Gt7 more X j) (hz:more.getD j.toNat 0≠0) :
  okF (Ea7 (vF X j).1 (more.getD j.toNat 0))=true∧Gt7 more (A43 X j (Ea7 (vF X j).1 (more.getD j.toNat 0))) (j+1):=by
 obtain ⟨s1,s2⟩:=s j (by omega) (by omega) hz
 have hg:=hm.get (j:=j.toNat) (by omega)
 have hk:okF (vF X j).1=true:=by
  rcases Iv2 c h0 with ⟨h1,_⟩|⟨_,h1⟩
  ·omega
  ·exact h1
 have hr:=Hz1 hk
 have k:=Im5 hk (n:=more.getD j.toNat 0) (by omega)
 refine ⟨k,fun i h1 h2 hi=>?_⟩
 rw [(Au8 c h0 k).2.2.2.1 i (by omega),if_neg (by omega)]
 exact s i (by omega) h2 hi
theorem Hv3 (b k:Nat) (F:Fr) (ok:FrOk F) {nc:Nat} (more:List Int) (hm:Ae5 8 more):∀ (m:Nat) (j:Int) (X:CX),Clean nc X→Gt7 more X j→0≤j→j+m=12 →
  CtJ I2 I0 Ao2 [(0,P0 b),(57,.agg ⟨more.map int⟩),(58,int j)] [cmC b k F X] fun v own=>v=int 0∧own [cmC b k F (Bf5 more m j X)]:=by
 intro m
 induction m with
 | zero =>
  intro j X c s h0 hj
  refine CtJ.of Ax2 fun h r=>Tr.eq (D24 ..) ?_;refine Je ?_
  refine Yf (by simp;omega) ?_
  refine Ys fun o=>?_
  rw [show Bf5 more 0 j X=X from rfl]
  exact ⟨rfl,o.sub⟩
 | succ m ih =>
  intro j X c s h0 hj
  have e1:=wI j
  have hg:=Gy9 (l:=more) (i:=j.toNat) (by rw [hm.1];omega)
  have hm2:=hm.get (j:=j.toNat) (by omega)
  rw [show Bf5 more (m+1) j X=Bf5 more m (j+1) (if more.getD j.toNat 0=0 then X else A43 X j (Ea7 (vF X j).1 (more.getD j.toNat 0))) from rfl]
  refine CtJ.of Ax2 fun h r=>Tr.eq (D24 ..) ?_;refine Je ?_
  refine Yt (by simp;omega) ?_
  rw [e1]
  (refine Ja ?_;intros)
  by_cases hz:more.getD j.toNat 0=0
  ·rw [if_pos hz]
   refine Yt (by simpa using hz) ?_
   refine Yr (ih (j+1) X c (fun i h1 h2 h3=>s i (by omega) h2 h3) (by omega) (by omega)) ?_
   intro v h q
   exact q
  ·rw [if_neg hz]
   refine Yf (by simpa using hz) ?_
   have hrf:=Hx2 c (i:=j) (by omega)
   have e3:IntKind.wrap .i64 ((vF X j).1.refs+more.getD j.toNat 0)=(vF X j).1.refs+more.getD j.toNat 0:=by rw [B6];omega
   obtain ⟨k1,s2⟩:=s.step c hm (by omega) hz
   obtain ⟨w1,w2,_⟩:=Au8 c (i:=j) (by omega) k1
   refine Yc (Dx3 b k F X ok j) ?_;rintro _ h ⟨rfl,o⟩<;>refine Jh o ?_
   rw [Bu5 c (by omega)]
   dsimp only
   (refine Jc ?_;intros)
   refine Yn fun b2 h=>?_
   (refine Ja ?_;intros)
   simp only [e3,List.set_cons_succ,List.set_cons_zero,List.drop_zero,List.take]
   refine Yc (D77 b k F X ok j (Ea7 (vF X j).1 (more.getD j.toNat 0))) ?_;rintro _ h ⟨rfl,o⟩<;>refine Jh o ?_
   rw [w1]
   dsimp only
   (refine Ja ?_;intros)
   refine Ab2 [0] 1 rfl rfl ?_
   refine Yr (ih (j+1) _ w2 s2 (by omega) (by omega)) ?_
   intro v h q
   exact q
theorem E23:∀ (l m:List Int) (i:Nat),B32 l→m.length=12→(Bp3 l m).getD i 0≠0→m.getD i 0≠0∨((i:Int)+1) ∈ l
 | [],m,i,_,_,h=>.inl h
 | f::l,m,i,hf,hm,h=>by
  have hr:=hf f (by simp)
  have hl:B32 l:=fun x hx=>hf x (by simp [hx])
  rw [show Bp3 (f::l) m=Bp3 l (if f>0 then m.set (f-1).toNat (m.getD (f-1).toNat 0+1) else m) from rfl] at h
  by_cases hz:f>0
  ·rw [if_pos hz] at h
   rcases E23 l _ i hl (by simpa using hm) h with h2|h2
   ·by_cases hi:(f-1).toNat=i
    ·right
     rw [show (i:Int)+1=f by omega];simp
    ·left
     rw [List.getD_eq_getElem?_getD,List.getElem?_set_ne hi,← List.getD_eq_getElem?_getD] at h2
     exact h2
   ·exact .inr (by simp [h2])
  ·rw [if_neg hz] at h
   rcases E23 l m i hl hm h with h2|h2
   ·exact .inl h2
   ·exact .inr (by simp [h2])
theorem D72:∀ (l m:List Int) (n:Int),B32 l→Ae5 n m→Ae5 (n+l.length) (Bp3 l m)
 | [],m,n,_,h=>by simpa [Bp3] using h
 | f::l,m,n,hf,h=>by
  have hr:=hf f (by simp)
  have hl:B32 l:=fun x hx=>hf x (by simp [hx])
  rw [show Bp3 (f::l) m=Bp3 l (if f>0 then m.set (f-1).toNat (m.getD (f-1).toNat 0+1) else m) from rfl]
  have e:n+((f::l).length:Int)=(n+1)+l.length:=by simp;omega
  rw [e]
  by_cases hz:f>0
  ·rw [if_pos hz];exact D72 l _ (n+1) hl (h.set (by omega))
  ·rw [if_neg hz];exact D72 l m (n+1) hl h.up
theorem Ej4 {X:CX} {more:List Int}:∀ (l:List Int),Ae9 X more l=0→∀ f ∈ l,f≠0→(vF X (f-1)).2=1∧(vF X (f-1)).1.refs+more.getD (f-1).toNat 0≤64
 | [],_,f,h,_=>by simp at h
 | g::l,h,f,hm,hf=>by
  rw [show Ae9 X more (g::l)=if g=0 then Ae9 X more l else if (vF X (g-1)).2≠1 then 105 else if (vF X (g-1)).1.refs+more.getD (g-1).toNat 0>64 then 123 else Ae9 X more l from rfl] at h
  by_cases hg:g=0
  ·rw [if_pos hg] at h
   rcases List.mem_cons.1 hm with rfl|h2
   ·exact absurd hg hf
   ·exact Ej4 l h f h2 hf
  ·rw [if_neg hg] at h
   by_cases h1:(vF X (g-1)).2=1
   ·rw [if_neg (by simpa using h1)] at h
    by_cases h2:(vF X (g-1)).1.refs+more.getD (g-1).toNat 0>64
    ·rw [if_pos h2] at h;cases h
    ·rw [if_neg h2] at h
     rcases List.mem_cons.1 hm with rfl|h3
     ·exact ⟨h1,by omega⟩
     ·exact Ej4 l h f h3 hf
   ·rw [if_pos h1] at h;cases h
abbrev Ex4:List Int:=[0,0,0,0,0,0,0,0,0,0,0,0]
theorem Ij1:Ae5 0 Ex4:=⟨rfl,fun x hx=>by simp at hx;omega⟩
abbrev Ao5 (p:ProcS):List Int:=Bp3 p.fds Ex4
theorem Gb1 {p:ProcS} (h:B32 p.fds):Ae5 8 (Ao5 p):=by
 have:=D72 p.fds Ex4 0 h Ij1
 rw [p.len] at this
 exact this
theorem Hd1 {X:CX} {p:ProcS} (h:B32 p.fds) (e:Ae9 X (Ao5 p) p.fds=0):Gt7 (Ao5 p) X 0:=fun i h0 h1 hi=>by
 rcases E23 p.fds Ex4 i.toNat h rfl hi with h2|h2
 ·exfalso;apply h2
  have:i.toNat=0∨i.toNat=1∨i.toNat=2∨i.toNat=3∨i.toNat=4∨i.toNat=5∨i.toNat=6∨i.toNat=7∨i.toNat=8∨i.toNat=9∨i.toNat=10∨i.toNat=11:=by omega
  rcases this with h|h|h|h|h|h|h|h|h|h|h|h<;>rw [h]<;>rfl
 ·have:=Ej4 p.fds e _ h2 (by omega)
  rw [show ((i.toNat:Nat):Int)+1-1=i by omega] at this
  exact this
def W2 (X:CX) (p:ProcS):Int × CX:=if Ae9 X (Ao5 p) p.fds=0 then (0,Bf5 (Ao5 p) 12 0 X) else (Ae9 X (Ao5 p) p.fds,X)
theorem Id4 (b k:Nat) (F:Fr) (X:CX) (ok:FrOk F) {nc:Nat} (c:Clean nc X) (p:ProcS) (hf:B32 p.fds):Ct A9 I0 [P0 b,.agg ⟨E0 p⟩] [cmC b k F X] fun v own=>v=int (W2 X p).1∧own [cmC b k F (W2 X p).2]:=by
 refine Ct.of Ax2 rfl fun h r=>Tr.eq (Hb8 ..) ?_;refine Je ?_
 refine Yn fun b0 h=>?_
 refine Yn fun b1 h=>?_
 (refine Ja ?_;intros)
 have hm:=Gb1 hf
 have L2:=Hu1 b k F X ok c b1 p.fds (Ao5 p) p.len hf hm (fun v own=>v=int (W2 X p).1∧own [cmC b k F (W2 X p).2])
  (fun e he hz h r o=>by
   unfold W2
   rw [if_neg (by rw [he];exact hz),he]
   exact ⟨rfl,o⟩)
  (fun he=>by
   have J:=Hv3 b k F ok (Ao5 p) hm 12 0 X c (Hd1 hf he) (by omega) (by omega)
   unfold W2
   rw [if_pos he]
   exact J) 8 0 rfl rfl
 refine E43 (Hw5 b k F X b0 b1 p hf _ (Ao5 p) L2 8 0 Ex4 rfl (by simpa using Ij1) rfl) [0,0,0] rfl ?_
 intro v h q
 exact q
theorem Dz5 {nc:Nat} {more:List Int} (hm:Ae5 8 more):∀ (m:Nat) (j:Int) (X:CX),Clean nc X→Gt7 more X j→0≤j→j+m=12 →
  Clean nc (Bf5 more m j X)∧(∀ i:Int,0≤i∧i<8→vS (Bf5 more m j X) i=vS X i) ∧
  (∀ i:Int,0≤i∧i<12→vF (Bf5 more m j X) i=if j≤i∧more.getD i.toNat 0≠0 then (Ea7 (vF X i).1 (more.getD i.toNat 0),1) else vF X i)∧(∀ i:Int,0≤i∧i<3+nc→vP (Bf5 more m j X) i=vP X i)
 | 0,j,X,c,_,h0,hj=>⟨c,fun _ _=>rfl,fun i hi=>by rw [if_neg (by omega)];rfl,fun _ _=>rfl⟩
 | m+1,j,X,c,s,h0,hj=>by
  rw [show Bf5 more (m+1) j X=Bf5 more m (j+1) (if more.getD j.toNat 0=0 then X else A43 X j (Ea7 (vF X j).1 (more.getD j.toNat 0))) from rfl]
  by_cases hz:more.getD j.toNat 0=0
  ·rw [if_pos hz]
   obtain ⟨a1,a2,a3,a4⟩:=Dz5 hm m (j+1) X c (fun i h1 h2 h3=>s i (by omega) h2 h3) (by omega) (by omega)
   refine ⟨a1,a2,fun i hi=>?_,a4⟩
   rw [a3 i hi]
   by_cases hij:i=j
   ·subst hij
    rw [if_neg (by omega),if_neg (by simp only [hz];simp)]
   ·by_cases h2:j≤i∧more.getD i.toNat 0≠0
    ·rw [if_pos h2,if_pos ⟨by omega,h2.2⟩]
    ·rw [if_neg h2,if_neg (fun h3=>h2 ⟨by omega,h3.2⟩)]
  ·rw [if_neg hz]
   obtain ⟨k1,s2⟩:=s.step c hm (by omega) hz
   obtain ⟨w1,w2,w3,w4,w5⟩:=Au8 c (i:=j) (by omega) k1
   obtain ⟨a1,a2,a3,a4⟩:=Dz5 hm m (j+1) _ w2 s2 (by omega) (by omega)
   refine ⟨a1,fun i hi=>by rw [a2 i hi,w3 i hi],fun i hi=>?_,fun i hi=>by rw [a4 i hi,w5 i hi]⟩
   rw [a3 i hi,w4 i hi]
   by_cases hij:i=j
   ·subst hij
    rw [if_neg (by omega),if_pos rfl,if_pos ⟨by omega,hz⟩]
   ·rw [if_neg hij]
    by_cases h2:j≤i∧more.getD i.toNat 0≠0
    ·rw [if_pos h2,if_pos ⟨by omega,h2.2⟩]
    ·rw [if_neg h2,if_neg (fun h3=>h2 ⟨by omega,h3.2⟩)]
theorem Hx6 (l:List UInt8) (i:Nat):0≤byI l i∧byI l i<256:=by
 have:=(l.getD i 0).toNat_lt
 unfold byI;omega
theorem E56 (l:List UInt8) (j:Nat):0≤two l j∧two l j≤65535:=by
 have:=Hx6 l j;have:=Hx6 l (j+1)
 unfold two;omega
theorem Ee4 (l:List UInt8):InS (Aa4 l).1:=by
 unfold Aa4
 split
 ·exact ⟨by simp,by simp,by simp,by simp⟩
 ·split
  ·exact ⟨E56 _ _,E56 _ _,E56 _ _,E56 _ _⟩
  ·exact ⟨by simp,by simp,by simp,by simp⟩
theorem E37 {p:ProcS} (h:okS p=true):B32 p.fds:=fun f hf=>by
 unfold okS at h
 simp only [Bool.and_eq_true,Bool.not_eq_true',List.any_eq_false] at h
 have:=h.2.2.1 f hf
 simp at this;omega
abbrev Bp8 (p:ProcS) (i:Int):ProcS:=⟨p.state,i+1,p.group,p.code,0,p.mask,p.ignored,p.caught,p.fds,p.len⟩
theorem Ha9 {p:ProcS} (h:okS p=true) (h1:p.state=1) {i:Int} (hi:0≤i∧i<8):okS (Bp8 p i)=true:=by
 unfold okS at h ⊢
 rw [if_neg (by rw [h1];decide)] at h
 rw [if_neg (show ¬ (Bp8 p i).state=2 by show ¬ p.state=2;rw [h1];decide)]
 simp only [Bool.and_eq_true,Bool.not_eq_true',Bool.or_eq_false_iff,decide_eq_false_iff_not] at h ⊢
 obtain ⟨⟨⟨⟨⟨⟨⟨⟨a1,a2⟩,a3⟩,a4⟩,a5⟩,a6⟩,a7⟩,a8⟩,⟨⟨⟨⟨b1,b2⟩,b3⟩,b4⟩,b5⟩,d1,d2⟩:=h
 exact ⟨⟨⟨⟨⟨⟨⟨⟨a1,a2⟩,by show ¬ i+1<0;omega⟩,by show ¬ i+1>8;omega⟩,a5⟩,a6⟩,a7⟩,a8⟩,⟨⟨⟨⟨by simp [I49],b2⟩,b3⟩,b4⟩,b5⟩,d1,d2⟩
def Ef3 (X:CX) (i:Int):List Value × CX :=
 if (S9 X i).2≠0 then (U9 0 (S9 X i).2 false,X)
 else if Al8 X 8 0<0 then (U9 0 111 false,X)
 else if (W2 X (S9 X i).1).1≠0 then (U9 0 (W2 X (S9 X i).1).1 false,X)
 else (U9 (Al8 X 8 0) 0 false,Db8 (W2 X (S9 X i).1).2 (Al8 X 8 0) (Bp8 (S9 X i).1 i))
theorem Ev6 {X:CX}:∀ (m:Nat) (i:Int),0≤i→i+m=8→Al8 X m i=-1∨(0≤Al8 X m i∧Al8 X m i<8∧(vS X (Al8 X m i)).2=0)
 | 0,i,_,_=>.inl rfl
 | m+1,i,h0,hi=>by
  rw [show Al8 X (m+1) i=if (vS X i).2=0 then i else Al8 X m (i+1) from rfl]
  split
  ·rename_i h;exact .inr ⟨h0,by omega,h⟩
  ·exact Ev6 m (i+1) (by omega) (by omega)
theorem Bx1 {nc:Nat} {X:CX} (c:Clean nc X) {i:Int} (hi:0≤i∧i<8) (h:(S9 X i).2=0):S9 X i=((vS X i).1,0)∧(vS X i).1.state=1∧okS (vS X i).1=true∧(vS X i).2=1:=by
 unfold S9 at h ⊢
 split
 ·rename_i h1
  refine ⟨rfl,h1.2,?_,h1.1⟩
  rcases Iv0 c hi with ⟨h2,_⟩|⟨_,h2⟩
  ·rw [h1.1] at h2;cases h2
  ·exact h2
 ·rename_i h1;rw [if_neg h1] at h;cases h
theorem G23 {X:CX} {p:ProcS} (h:(W2 X p).1≠0):(W2 X p).2=X:=by
 unfold W2 at h ⊢
 split
 ·rename_i h1;rw [if_pos h1] at h;exact absurd rfl h
 ·rfl
theorem Eu9 {nc:Nat} {X:CX} (c:Clean nc X) {p:ProcS} (hf:B32 p.fds) (h:(W2 X p).1=0):Clean nc (W2 X p).2∧(∀ i:Int,0≤i∧i<8→vS (W2 X p).2 i=vS X i) ∧
  (∀ i:Int,0≤i∧i<12→vF (W2 X p).2 i=if (Ao5 p).getD i.toNat 0≠0 then (Ea7 (vF X i).1 ((Ao5 p).getD i.toNat 0),1) else vF X i)∧(∀ i:Int,0≤i∧i<3+nc→vP (W2 X p).2 i=vP X i):=by
 unfold W2 at h ⊢
 split
 ·rename_i he
  obtain ⟨a1,a2,a3,a4⟩:=Dz5 (Gb1 hf) 12 0 X c (Hd1 hf he) (by omega) (by omega)
  refine ⟨a1,a2,fun i hi=>?_,a4⟩
  rw [a3 i hi]
  by_cases h2:(Ao5 p).getD i.toNat 0≠0
  ·rw [if_pos h2,if_pos ⟨hi.1,h2⟩]
  ·rw [if_neg h2,if_neg (fun h3=>h2 h3.2)]
 ·rename_i he;rw [if_neg he] at h;exact absurd h he
theorem I27 (b k:Nat) (F:Fr) (X:CX) (ok:FrOk F) {nc:Nat} (c:Clean nc X) (i:Int) (hi:0≤i∧i<8):Ct A9 Df5 [P0 b,int i] [cmC b k F X] fun v own=>v=.agg ⟨(Ef3 X i).1⟩∧own [cmC b k F (Ef3 X i).2]:=by
 have e1:=wI i
 unfold Ef3
 refine Ct.of Hw4 rfl fun h r=>Tr.eq (Hw0 ..) ?_;refine Je ?_
 refine Yn fun b0 h=>?_
 refine Yc (E53 b k F X ok c i hi) ?_;rintro _ h ⟨rfl,o⟩<;>refine Jh o ?_
 (refine Jc ?_;intros)
 refine Yn fun b1 h=>?_
 (refine Ja ?_;intros)
 by_cases h0:(S9 X i).2=0
 case neg =>
  rw [if_pos h0]
  refine Yt (by simpa using h0) ?_
  refine Yc (E73 (S9 X i).2) ?_;rintro _ h ⟨rfl,o⟩<;>(refine Jf o ?_;intros)
  refine Ys fun o=>?_
  exact ⟨rfl,o.sub⟩
 rw [if_neg (by simpa using h0)]
 refine Yf (by simpa using h0) ?_
 obtain ⟨s1,s2,s3,s4⟩:=Bx1 c hi h0
 refine Yc (I16 b k F X ok c) ?_;rintro _ h ⟨rfl,o⟩<;>refine Jh o ?_
 (refine Ja ?_;intros)
 by_cases h1:Al8 X 8 0<0
 ·rw [if_pos h1]
  refine Yt (by simpa using h1) ?_
  refine Yc (E73 111) ?_;rintro _ h ⟨rfl,o⟩<;>(refine Jf o ?_;intros)
  refine Ys fun o=>?_
  exact ⟨rfl,o.sub⟩
 rw [if_neg h1]
 refine Yf (by simpa using h1) ?_
 have hf:B32 (S9 X i).1.fds:=by rw [s1];exact E37 s3
 have hok:okS (Bp8 (S9 X i).1 i)=true:=by rw [s1];exact Ha9 s3 s2 hi
 have hin:InS (Bp8 (S9 X i).1 i):=by
  have:=Ee4 (rd X ⟨1,i⟩)
  rw [s1]
  exact ⟨by simp,this.b,this.c,this.d⟩
 generalize (S9 X i).1=p at hf hok hin
 (refine Ja ?_;intros)
 refine Yc (Id4 b k F X ok c p hf) ?_;rintro _ h ⟨rfl,o⟩<;>refine Jh o ?_
 (refine Ja ?_;intros)
 by_cases h2:(W2 X p).1=0
 case neg =>
  rw [if_pos h2]
  rw [G23 h2] at o ⊢
  refine Yt (by simpa using h2) ?_
  refine Yc (E73 (W2 X p).1) ?_;rintro _ h ⟨rfl,o⟩<;>(refine Jf o ?_;intros)
  refine Ys fun o=>?_
  exact ⟨rfl,o.sub⟩
 rw [if_neg (by simpa using h2)]
 refine Yf (by simpa using h2) ?_
 have cs:=(Eu9 c hf h2).1
 have hfr:0≤Al8 X 8 0∧Al8 X 8 0<8:=by
  rcases Ev6 (X:=X) 8 0 (by omega) (by omega) with h|h<;>omega
 obtain ⟨w1,_⟩:=Bp5 cs hfr hok hin
 (refine Ja ?_;intros)
 rw [e1,show ((E0 p).set 1 (int (i+1))).set 4 (int 0)=E0 (Bp8 p i) from rfl]
 generalize Bp8 p i=q at hok hin w1
 (refine Ja ?_;intros)
 refine Yc (D80 b k F (W2 X p).2 ok (Al8 X 8 0) q) ?_;rintro _ h ⟨rfl,o⟩<;>refine Jh o ?_
 rw [w1]
 dsimp only
 (refine Ja ?_;intros)
 refine Yc (Iz1 true (Al8 X 8 0)) ?_;rintro _ h ⟨rfl,o⟩<;>refine Jh o ?_
 rw [if_pos trivial]
 (refine Ja ?_;intros)
 refine Ys fun o=>?_
 exact ⟨rfl,o.sub⟩
end Go.EQ
