/- What is read out of a pipe is what was written, in order; small writes are whole; no more than there is room for goes in; no conditions. -/
import Derived.Test.YtnmdbfbjdhgmlaaGreatMh
import Derived.KernelRfl
import Derived.Test.YtnmdbfbjdhgmlaaGreatRows
set_option linter.all false
set_option maxRecDepth 10000
namespace Go.EQ
open Go Go.NN
theorem E88 (k:Nat) (S:KS) (A:KA):CtP A8 Al7 [P0 k] [pt k (.cells Dy7 false (Eu3 S A))] (P0 A.s):=by
 refine CtP.of Ex5 rfl fun h r=>Tr.eq (Ew8 ..) ?_;refine Je ?_
 exact Jz
theorem Ii0 (k:Nat) (S:KS) (N:Nat) (ok:KOk N S) (env:Int):Ct A8 Bp8 [P0 k,int env] [D8 k S] fun v own =>
  (A23 S.tabs env≠[]∧∃ c,v=.tuple ⟨[P0 c,int 0]⟩∧own [V8 c k env (A23 S.tabs env) [],D8 k S])∨(A23 S.tabs env=[]∧v=.tuple ⟨[.pointer none,int 1]⟩∧own [D8 k S]):=by
 refine Ct.of Gs3 rfl fun h r=>Tr.eq (Gs7 ..) ?_;refine Je ?_
 refine B3 (D8 k S) fun ⟨m,s,q,rg,ea,ec,ma,mc,ms,sa,sc,ss⟩=>?_;refine Je ?_
 (refine Jb ?_;unhygienic intros)
 refine Yb (Yf rfl ?_)
 refine Tr.pcall (E88 k S ⟨m,s,q,rg,ea,ec,ma,mc,ms,sa,sc,ss⟩) ?_;refine Je ?_;(refine Ja ?_;unhygienic intros)
 try dsimp only
 refine Yc (Ga2 s S.tabs env ok.space) ?_;rintro _ h ⟨a0,c0,rfl,o⟩<;>refine Jh o ?_
 (refine Ja ?_;unhygienic intros)
 refine Ys fun o=>(?_:Tr _ _ _ _) o;refine Je ?_
 by_cases hz:A23 S.tabs env=[]
 ·refine Yt (by simp [hz]) ?_
  refine B1 (D8 k S) ⟨m,s,q,rg,ea,ec,ma,mc,ms,sa,sc,ss⟩ ?_;refine Je ?_
  refine Ys fun o=>?_
  exact .inr ⟨hz,rfl,o.sub⟩
 ·refine Yf ?_ ?_
  ·rw [beq_eq_false_iff_ne]
   intro h0
   exact hz (List.eq_nil_of_length_eq_zero (by omega))
  refine Tr.pcall (E88 k S ⟨m,s,q,rg,ea,ec,ma,mc,ms,sa,sc,ss⟩) ?_;refine Je ?_;(refine Ja ?_;unhygienic intros)
  try dsimp only
  refine Yc (Ga2 s S.tabs env ok.space) ?_;rintro _ h ⟨a1,c1,rfl,o⟩<;>refine Jh o ?_
  (refine Jc ?_;unhygienic intros)
  refine Yn fun mb h=>?_
  refine Yn fun c h=>?_
  refine B1 (D8 k S) ⟨m,s,q,rg,ea,ec,ma,mc,ms,sa,sc,ss⟩ ?_;refine Je ?_
  refine E0 (V8 c k env (A23 S.tabs env) []) (a1,c1,mb) [1,2,1] rfl ?_;refine Je ?_
  refine Ys fun o=>?_
  exact .inl ⟨hz,c,rfl,o.sub⟩
def A88:PlanS:=⟨[false,false],[(0,1),(1,0)],5⟩
theorem H80:Ct A8 Bw0 [] [] fun v own=>∃ A,v=.agg ⟨Eu5 A88 A⟩∧own (De9 A88 A):=by
 refine Ct.of G25 rfl fun h r=>Tr.eq (Gy8 ..) ?_;refine Je ?_
 (refine Jc ?_;unhygienic intros;rename H=>h)
 refine Yn fun b h=>?_
 refine Yn fun b1 h=>?_
 refine Yn fun b2 h=>?_
 (refine Ja ?_;unhygienic intros;rename H=>h)
 refine Ah3 0 rfl 2 2 rfl (by omega) ?_
 refine Ah3 1 rfl 1 2 rfl (by omega) ?_
 refine Je ?_
 refine Ys fun o=>?_
 exact ⟨⟨some ⟨b1,0,none⟩,2,some ⟨b2,0,none⟩,2⟩,rfl,(show Own h (slC false By1 2 (some ⟨b2,0,none⟩) A88.brs.length 2 (A88.brs.flatMap brL)::slC false E84 1 (some ⟨b1,0,none⟩) A88.bad.length 2 (A88.bad.map Value.bool)::_) from o).sub⟩
def Ag0:BootS:=Er4 A88
theorem G65:Bm5 Ag0=true:=by kernel_rfl
theorem Ez1:Small Ag0:=by
 have e:Ag0=⟨[20,20],[0,0,0,0,0,0,0,0,0,1,1,1,1,1,1,1,1,1],[[0],[1]],5,[⟨0,0,0,492,[0]⟩,⟨1,0,0,492,[1]⟩,⟨0,8,0,40,[0,1]⟩,⟨1,9,0,40,[1,0]⟩]⟩:=by kernel_rfl
 rw [e]
 exact ⟨by simp [A9],by simp [A9],by simp [A9]⟩
theorem Bq5:Ag0=⟨[20,20],[0,0,0,0,0,0,0,0,0,1,1,1,1,1,1,1,1,1],[[0],[1]],5,[⟨0,0,0,492,[0]⟩,⟨1,0,0,492,[1]⟩,⟨0,8,0,40,[0,1]⟩,⟨1,9,0,40,[1,0]⟩]⟩:=by kernel_rfl
theorem Id4:RBoot Ag0 (Ag9 Ag0.frames):=by
 rw [Bq5]
 refine ⟨by simp,by simp,by simp,fun x hx=>?_,fun x hx=>?_⟩
 ·simp only [List.mem_cons,List.not_mem_nil,or_false] at hx
  rcases hx with rfl|rfl|rfl|rfl<;>simp [A9]
 ·simp only [List.mem_cons,List.not_mem_nil,or_false] at hx
  rcases hx with rfl|rfl|rfl|rfl<;>simp [Ag9]
def S00:KS:=D02 Ag0
theorem G88:KOk 0 S00:=Ig0 G65 Ez1
def wrS (S:KS) (cap:Int) (b:List UInt8):KS:=(Y4 S 0 ⟨2,cap,0,0,0,0,b⟩).2
def S0:KS:=wrS S00 256 Ab4
theorem Ip9:(Y4 S00 0 ⟨2,256,0,0,0,0,Ab4⟩).1.1=0:=by kernel_rfl
theorem Ic3:A23 S00.tabs 0=[256,257,258]:=by kernel_rfl
def wrR (K:RKS) (cap:Int) (b:List UInt8):RKS:={ K with R:=(Ag4 K.R 0 cap 0 b).2 }
def K0:RKS:=wrR (Db4 Ag0) 256 Ab4
theorem D32:RKOk (Db4 Ag0)∧(Db4 Ag0).B=Ag0:=Ig7 (by rw [Bq5];simp) (by rw [Bq5];simp)
theorem Gb5 {K:RKS} (k:RKOk K) (cap:Int) (b:List UInt8):RKOk (wrR K cap b):=Ih9 k 0 cap 0 b
theorem Ia5:B10 K0 0≠[]:=by
 have:B10 K0 0=[256,257,258]:=by kernel_rfl
 rw [this];simp
theorem Aa7:Ab4.length=492:=by kernel_rfl
theorem Dk0 {l:List HP} {h:H} {α:Type} {Q:α→H→Prop} {x:Option (α × H)} (i:Nat) {b n:Nat} {cs:List Value} (hi:l[i]?=some (pt b (.cells A3 false cs))) (hn:cs.length=n) (t:Tr (l.set i (slC false A3 1 (some (J4 b)) n n cs)) h x Q):Tr l h x Q:=fun o=>by
 refine t (Own.back (h:=h) hi ?_)
 have o1:=o.front hi
 refine Own.slShut (pre:=[]) (post:=[]) (by simpa using o1) ⟨by omega,Nat.le_refl _,by simp,by simp,by simp,by omega,by simp⟩
theorem If2 (A:PlA):Ct A8 Bg2 [.agg ⟨Eu5 A88 A⟩] (De9 A88 A) fun v own =>
  ∃ k c w m,v=.tuple ⟨[P0 k,P0 c,P0 w,P0 m]⟩∧own [D8 k S0,V8 c k 0 [256,257,258] [],rkC w K0,rcC m w 0 (B10 K0 0) []]:=by
 have hB:Er4 A88=Ag0:=rfl
 obtain ⟨ba,bc,ra,rc⟩:=A
 refine Ct.of G13 rfl fun h r=>Tr.eq (Gx5 ..) ?_;refine Je ?_
 refine Yn fun b0 h=>?_
 (refine Ja ?_;unhygienic intros)
 refine Yc (Id0 A88 ⟨ba,bc,ra,rc⟩ (by simp [A88]) (by simp [A88])) ?_;rintro _ h ⟨A,kA,rfl,o⟩<;>refine Jh o ?_
 rw [hB] at kA ⊢
 obtain ⟨fa,fc,ea,ec,sa,sc,ss,ha,hc,hs⟩:=A
 (refine Jc ?_;unhygienic intros)
 refine Yn fun b1 h=>?_
 (refine Ja ?_;unhygienic intros)
 have J:=Ik6 false Ag0 ⟨fa,fc,ea,ec,sa,sc,ss,ha,hc,hs⟩ kA Ez1
 simp only [G65,if_true] at J
 refine Yc (J) ?_;rintro _ h ⟨k,rfl,o⟩<;>refine Jh o ?_
 (refine Jb ?_;unhygienic intros)
 refine Yb (Yf rfl ?_)
 refine Ys fun o=>(?_:Tr _ _ _ _) o;refine Je ?_
 refine Yf rfl ?_
 (refine Ja ?_;unhygienic intros)
 refine Yc (Ha2 Ag0 ⟨fa,fc,ea,ec,sa,sc,ss,ha,hc,hs⟩ kA (by rw [Bq5];simp) Id4) ?_;rintro _ h ⟨w,rfl,o⟩<;>refine Jh o ?_
 (refine Ja ?_;unhygienic intros)
 refine Yc (Ii0 k (D02 Ag0) 0 G88 0) ?_
 rintro v h (⟨hz,c,rfl,o⟩|⟨hz,rfl,o⟩)
 case inr=>exact absurd hz (by rw [show D02 Ag0=S00 from rfl,Ic3];simp)
 rw [show D02 Ag0=S00 from rfl,Ic3] at o
 refine (?_:Tr _ _ _ _) o
 refine Je ?_
 (refine Jb ?_;unhygienic intros)
 refine Yb (Yf rfl ?_)
 refine Ys fun o=>(?_:Tr _ _ _ _) o;refine Je ?_
 refine Yf rfl ?_
 refine Yc (Go3) ?_;rintro _ h ⟨rfl,o⟩<;>refine Jh o ?_
 (refine Jc ?_;unhygienic intros)
 refine Tr.ck (by rw [Ak3,Aa7];simp [A9]) ?_
 rw [Ak3,Aa7]
 refine Yn fun b2 h=>?_
 refine Dk0 (n:=492) 0 rfl (by rw [S8,show (bs Ab4).data.toList=Ab4 from rfl,Aa7]) ?_
 refine Je ?_
 have J2:=D09 k S00 0 G88 (by omega) 0 ⟨2,256,0,0,0,0,Ab4⟩ (some (J4 b2)) 492 false (show ((2:Int)≠5) by decide)
 simp only [Aa7] at J2
 refine Br6 J2 [2,0] rfl ?_
 rintro _ h ⟨y,d,rfl,o⟩
 rw [Ip9]
 rw [show (Y4 S00 0 ⟨2,256,0,0,0,0,Ab4⟩).2=S0 from rfl] at o
 refine (?_:Tr _ _ _ _) o
 refine Je ?_
 (refine Jc ?_;unhygienic intros)
 refine Yf rfl ?_
 refine Tr.ck (by simp [A9]) ?_
 refine Yn fun b3 h=>?_
 refine Dk0 (n:=492) 0 rfl (by rw [S8,Aa7]) ?_
 refine Je ?_
 have J3:=Et3 w (Db4 Ag0) D32.1 0 (by rw [D32.2,Bq5];simp) ⟨2,256,0,0,0,0,Ab4⟩ rfl (by rw [Aa7];simp [A9]) (slC false A3 1 (some (J4 b3)) Ab4.length 492 (A0 Ab4)) (some (J4 b3)) 492 false
 simp only [Aa7] at J3
 refine Yc J3 ?_
 rintro _ h ⟨rfl,o⟩
 rw [show ({ Db4 Ag0 with R:=(Ag4 (Db4 Ag0).R ((0:Nat):Int) 256 0 Ab4).2 }:RKS)=K0 from rfl] at o
 refine (?_:Tr _ _ _ _) o
 refine Je ?_
 (refine Ja ?_;unhygienic intros)
 refine Yc (Gi0 w K0 (Gb5 D32.1 256 Ab4) 0 (by show (0:Nat)<(Db4 Ag0).B.envs.length;rw [D32.2,Bq5];simp)) ?_
 rintro v h (⟨_,m,rfl,o⟩|⟨hn,rfl,o⟩)
 case inr=>exact absurd hn Ia5
 refine (?_:Tr _ _ _ _) o
 refine Je ?_
 (refine Ja ?_;unhygienic intros)
 refine Ys fun o=>?_
 exact ⟨k,c,w,m,rfl,o.sub⟩
def By4 (mem:List UInt8) (rg:Rg):List (List UInt8):=rg.map fun p=>slice mem p.1 p.2
theorem G20 {mem:List UInt8} {rg:Rg} {j lo n:Nat} (h:rg[j]?=some (lo,n)):(By4 mem rg)[j]?=some (slice mem lo n):=by unfold By4;rw [List.getElem?_map,h];rfl
theorem G38 {mem:List UInt8} {rg:Rg} (h:∀ (j lo n:Nat),rg[j]?=some (lo,n)→lo+n≤mem.length):Fit mem.length rg (By4 mem rg):=⟨by simp [By4],fun j lo n hj=>⟨h j lo n hj,slice mem lo n,G20 hj,Gn9 (h j lo n hj)⟩⟩
theorem H71 {mem:List UInt8} {rg:Rg} (k:RgOk rg) (h:∀ (j lo n:Nat),rg[j]?=some (lo,n)→lo+n≤mem.length):Az9 mem rg (By4 mem rg)=mem:=by
 have f:=G38 h
 refine List.ext_getElem? fun i=>?_
 by_cases ho:∃ (j lo n:Nat),rg[j]?=some (lo,n)∧lo≤i∧i<lo+n
 ·obtain ⟨j,lo,n,hj,h1,h2⟩:=ho
  obtain ⟨i',rfl⟩:∃ i',i=lo+i':=⟨i-lo,by omega⟩
  rw [B28 f k j lo n _ hj (G20 hj) i' (by omega),Bt7,if_pos (by omega)]
 ·exact Dq1 f i fun j lo n hj=>by
   by_cases hh:lo≤i∧i<lo+n
   ·exact absurd ⟨j,lo,n,hj,hh.1,hh.2⟩ ho
   ·omega
theorem FrOk.room {F:Fr} {j lo n:Nat} (f:Fit F.S.mem.length F.rg (By4 F.S.mem F.rg)) (h:F.rg[j]?=some (lo,n)):lo+n≤F.S.mem.length:=(f.each j lo n h).1
theorem Fr.at_cut {F:Fr} (k:FrOk F) (h:∀ (j lo n:Nat),F.rg[j]?=some (lo,n)→lo+n≤F.S.mem.length):F.at (By4 F.S.mem F.rg)=F.S:=by
 unfold Fr.at;rw [H71 k.dj h];rfl
theorem Own.cmTake {r:List HP} {h:H} (c k:Nat) (F:Fr) (bad:List RecS) (ok:FrOk F) (hr:∀ (j lo n:Nat),F.rg[j]?=some (lo,n)→lo+n≤F.S.mem.length) (o1:Own h (D8 k F.S::V8 c k F.env F.caps bad::r)):Own h (cmC c k F ⟨By4 F.S.mem F.rg,bad⟩::r):=by
 refine Own.inex (f:=fun u:Unit=>sl (cmF c k F ⟨By4 F.S.mem F.rg,bad⟩)) () (Own.group (l:=cmF c k F ⟨By4 F.S.mem F.rg,bad⟩) ?_)
 show Own h (D8 k (F.at (By4 F.S.mem F.rg))::V8 c k F.env F.caps bad::pu _::r)
 rw [Fr.at_cut ok hr]
 have o2:=Own.inpure (show Fit F.S.mem.length F.rg (By4 F.S.mem F.rg) from G38 hr) o1
 exact o2.picks [1,1,0] rfl
theorem Ii5 {l r:List HP} {h:H} {α:Type} {Q:α→H→Prop} {x:Option (α × H)} (c k:Nat) (F:Fr) (X:CX) [tk:Take (cmC c k F X) l r]
  (t:Fit F.S.mem.length F.rg X.m→Tr (D8 k (F.at X.m)::V8 c k F.env F.caps X.bad::r) h x Q):Tr l h x Q:=fun o=>by
 have o1:Own h (cmC c k F X::r):=o.perm tk.pm
 obtain ⟨u,o2⟩:=Own.ex (f:=fun u:Unit=>sl (cmF c k F X)) o1
 have o3:Own h (D8 k (F.at X.m)::V8 c k F.env F.caps X.bad::pu (Fit F.S.mem.length F.rg X.m)::r):=Own.join o2
 have f:=(o3.front (i:=2) rfl).pure
 exact t f (o3.front (i:=2) rfl).tail
theorem Hr8 {S:KS} {env cap obj:Int} {lo n:Nat} {e1 e2:Int} (hg:Bp2 S.tabs env cap=some ⟨obj,3,0,(n:Int),e1,e2⟩) (h0:0≤obj) (hr:S.regs[obj.toNat]?=some ((lo:Int),(n:Int))) (hl:lo+n≤65536) :
  ∀ (a m:Nat) (right:Int),right=1∨right=2→a+m≤n→O5 S.tabs S.regs env cap right a m=(((lo+a:Nat):Int),0):=by
 intro a m right hri ha
 have hlt:=(List.getElem?_eq_some_iff.1 hr).1
 unfold O5
 rw [hg]
 have b1:(I1 .i64 3 1==0)=false:=by kernel_rfl
 have b2:(I1 .i64 3 2==0)=false:=by kernel_rfl
 have hb:¬ ((I1 .i64 3 right==0)=true):=by rcases hri with rfl|rfl<;>simp [b1,b2]
 simp only
 have h2:(decide ((a:Int)<0) || decide ((m:Int)<0) || decide ((a:Int)>(n:Int)) || decide ((m:Int)>IntKind.wrap .i64 ((n:Int)-a)) || decide (obj<0) || decide (obj≥S.regs.length))=false:=by
  simp only [Bool.or_eq_false_iff,decide_eq_false_iff_not,A7];omega
 have h3:(decide (IntKind.wrap .i64 (0+(a:Int))>(n:Int)) || decide ((m:Int)>IntKind.wrap .i64 (IntKind.wrap .i64 ((n:Int)-0)-a)))=false:=by
  simp only [Bool.or_eq_false_iff,decide_eq_false_iff_not,A7];omega
 have h4:IntKind.wrap .i64 (IntKind.wrap .i64 ((lo:Int)+0)+a)=((lo+a:Nat):Int):=by simp only [A7];omega
 rw [if_neg hb]
 simp only [h2,hr,h3,h4,Bool.false_eq_true,if_false]
structure Like (S:KS):Prop where
 ok:KOk 0 S
 tabs:S.tabs=S00.tabs
 regs:S.regs=S00.regs
 envs:S.envs=S00.envs
 mem:S.mem.length=2560
theorem D72 {S:KS} (k:Like S) {m:List UInt8} (h:m.length=2560):Like (Bn6 S m) :=
 ⟨⟨k.ok.envs,k.ok.tabs,k.ok.space,k.ok.quota,by show m.length≤65536;omega,k.ok.regs,k.ok.may,k.ok.mayl,k.ok.nsect,k.ok.sects,k.ok.now⟩,k.tabs,k.regs,k.envs,h⟩
theorem Il7:Like S00:=⟨G88,rfl,rfl,rfl,by kernel_rfl⟩
theorem Id1 (S:KS) (k:Like S) (cap:Int) (b:List UInt8):Like (wrS S cap b):=by
 unfold wrS Y4
 split
 ·exact k
 ·exact D72 k (by rw [Hm7];exact k.mem)
theorem Dv7:Like S0:=Id1 S00 Il7 256 Ab4
def rgP (s:Nat):Rg:=[(1280*s,492),(512,40),(1856,40)]
def frP (S:KS) (s:Nat) (env:Int):Fr:=⟨S,0,env,[256,257,258],rgP s⟩
theorem Gy1:S00.regs=[(0,492),(1280,492),(512,40),(1856,40)]:=by kernel_rfl
theorem In3:S00.envs.length=18:=by kernel_rfl
structure EnvP (s:Nat) (env:Int):Prop where
 hs:s<2
 he:0≤env∧env<18
 a:Bp2 S00.tabs env 256=some ⟨s,3,0,492,0,0⟩
 b:Bp2 S00.tabs env 257=some ⟨2,3,0,40,0,0⟩
 c:Bp2 S00.tabs env 258=some ⟨3,3,0,40,0,0⟩
theorem G79:EnvP 0 0:=⟨by omega,by omega,by kernel_rfl,by kernel_rfl,by kernel_rfl⟩
theorem D10 {s j lo n:Nat} (h:(rgP s)[j]?=some (lo,n)):(j=0∧lo=1280*s∧n=492)∨(j=1∧lo=512∧n=40)∨(j=2∧lo=1856∧n=40):=by
 unfold rgP at h
 match j,h with
 | 0,h=>simp at h;omega
 | 1,h=>simp at h;omega
 | 2,h=>simp at h;omega
 | j+3,h=>simp at h
theorem Ec1 {S:KS} (k:Like S) {s:Nat} (hs:s<2) (env:Int):∀ (j lo n:Nat),(frP S s env).rg[j]?=some (lo,n)→lo+n≤(frP S s env).S.mem.length:=by
 intro j lo n h
 have hm:=k.mem
 have:=D10 h
 show lo+n≤S.mem.length
 omega
theorem G43 {S:KS} (k:Like S) {s:Nat} {env:Int} (e:EnvP s env):FrOk (frP S s env):=by
 have hs:=e.hs;have he:=e.he
 refine ⟨k.ok,by simp [frP],by simp [frP],by simp [frP],by simp [frP,rgP],?_,?_,?_,⟨1280*s,rfl⟩,?_⟩
 ·show ¬ (env<0∨env≥(S.envs.length:Int))
  rw [k.envs,In3];omega
 ·intro j cap lo n hc hr
  show ∀ (a m:Nat) (right:Int),right=1∨right=2→a+m≤n→O5 S.tabs S.regs env cap right a m=_
  have hg:=D10 hr
  rcases hg with ⟨rfl,rfl,rfl⟩|⟨rfl,rfl,rfl⟩|⟨rfl,rfl,rfl⟩
  ·cases hc
   refine Hr8 (obj:=s) (e1:=0) (e2:=0) (by rw [k.tabs];exact e.a) (by omega) ?_ (by omega)
   rw [k.regs,Gy1,Int.toNat_natCast]
   match s,hs with
   | 0,_=>rfl
   | 1,_=>rfl
  ·cases hc
   exact Hr8 (obj:=2) (e1:=0) (e2:=0) (by rw [k.tabs];exact e.b) (by omega) (by rw [k.regs,Gy1];rfl) (by omega)
  ·cases hc
   exact Hr8 (obj:=3) (e1:=0) (e2:=0) (by rw [k.tabs];exact e.c) (by omega) (by rw [k.regs,Gy1];rfl) (by omega)
 ·intro i j lo n lo' n' hij hi hj
  have h1:=D10 hi;have h2:=D10 hj
  omega
 ·intro j lo n h0 h
  have:=D10 h;omega
abbrev F0:Fr:=frP S0 0 0
def X0:CX:=⟨By4 S0.mem (rgP 0),[]⟩
theorem Ib3:FrOk F0:=G43 Dv7 G79
theorem H73 (A:PlA):Ct A8 Bg2 [.agg ⟨Eu5 A88 A⟩] (De9 A88 A) fun v own =>
  ∃ k c w m,v=.tuple ⟨[P0 k,P0 c,P0 w,P0 m]⟩∧own [cmC c k F0 X0,rkC w K0,rcC m w 0 (B10 K0 0) []]:=by
 intro h r o
 obtain ⟨v,h',e,k,c,w,m,hv,o2⟩:=If2 A h r o
 refine ⟨v,h',e,k,c,w,m,hv,?_⟩
 exact Own.cmTake c k F0 [] Ib3 (Ec1 Dv7 (by omega) 0) o2
theorem Hk3 {y m:Int} (h:0≤y):Int.tmod y m=y%m:=Int.tmod_eq_emod_of_nonneg h
theorem Z6 {x:Int} (h:0≤x∧x<256):((b8 x).toNat:Int)=x:=by rw [← Bh6,Df4];omega
theorem G22 {p:PipeS} (h:okP p=true):P7 (I0 p)=(p,1):=by
 have hk:=h
 simp only [okP,Bool.and_eq_true,decide_eq_true_eq] at h
 have e:Bc3 (I0 p)=p:=by
  obtain ⟨a,b,c,d,l,hl⟩:=p
  simp only at h
  have h1:=Z6 (x:=a) (by omega);have h2:=Z6 (x:=b) (by omega);have h3:=Z6 (x:=c) (by omega);have h4:=Z6 (x:=d) (by omega)
  simp [Bc3,I0,Af9,Ec7 hl]
  exact ⟨h1,h2,h3,h4⟩
 have hz:(I0 p).all (·==0)=false:=by simp [I0,Af9]
 unfold P7 isP
 rw [hz,e,hk]
 simp
theorem E16 {l b:List UInt8} {a c n:Nat} (h:a+b.length≤l.length) (hd:c+n≤a∨a+b.length≤c):slice (J5 l a b) c n=slice l c n:=by
 refine List.ext_getElem? fun i=>?_
 rw [Bt7,Bt7]
 split
 ·rw [Bk4 h,if_neg (by omega)]
 ·rfl
theorem Gb2 {l b:List UInt8} {a:Nat} (h:a+b.length≤l.length):slice (J5 l a b) a b.length=b:=by
 refine List.ext_getElem? fun i=>?_
 rw [Bt7]
 split
 ·rw [Bk4 h,if_pos (by omega)];congr 1;omega
 ·rw [List.getElem?_eq_none (by omega)]
abbrev Ib6:List Int:=[256,257,258]
structure InS (p:ProcS):Prop where
 a:0≤p.pending∧p.pending≤65535
 b:0≤p.mask∧p.mask≤65535
 c:0≤p.ignored∧p.ignored≤65535
 d:0≤p.caught∧p.caught≤65535
theorem Gw7 {p:ProcS} (h:okS p=true) (r:InS p):Z7 (Au1 p)=(p,1):=by
 have hk:=h
 obtain ⟨ra,rb,rc,rd⟩:=r
 have e:Bc6 (Au1 p)=p:=by
  obtain ⟨st,pa,gr,co,pe,ma,ig,ca,fds,hl⟩:=p
  simp only at ra rb rc rd
  unfold okS at h
  simp only [Bool.and_eq_true,Bool.not_eq_true',Bool.or_eq_false_iff,decide_eq_false_iff_not,List.any_eq_false] at h
  match fds,hl with
  | [f0,f1,f2,f3,f4,f5,f6,f7],hl =>
   have hf:=h.2.2.1
   simp at hf
   have two_b:∀ n:Int,0≤n∧n≤65535→((hi2 n).toNat:Int)*256+((lo2 n).toNat:Int)=n:=fun n hn=>by
    unfold hi2 lo2
    rw [if_pos hn,if_pos hn,Z6 (by omega),← Bh6,Df4];omega
   have g0:=h.1
   simp only [Bc6,Au1,Ec0,two]
   simp
   refine ⟨Z6 (by omega),Z6 (by omega),Z6 (by omega),Z6 (by omega),two_b _ ra,two_b _ rb,two_b _ rc,two_b _ rd,Z6 (by omega),Z6 (by omega),Z6 (by omega),Z6 (by omega),Z6 (by omega),Z6 (by omega),Z6 (by omega),Z6 (by omega)⟩
 have hz:(Au1 p).all (·==0)=false:=by
  simp [Au1,Ec0]
 unfold Z7 isS
 rw [hz,e,hk]
 simp
theorem Ij7:Ed3 0 0=true:=by kernel_rfl
def stR (kind:Int) (l:List UInt8):Int:=if kind=1 then (Z7 l).2 else if kind=2 then (Z3 l).2 else if kind=5 then (As6 l).2 else (P7 l).2
def rd (X:CX) (r:RecS):List UInt8 :=
 match H5 X.m.length r with
 | some (j,a,n)=>slice (X.m.getD j []) a n
 | none=>[]
structure Clean (nc:Nat) (X:CX):Prop where
 len:X.m.length=nc
 pos:0<nc
 bad:X.bad=[]
 own:(X.m.getD 0 []).length=492
 brs:∀ j,0<j→j<nc→(X.m.getD j []).length=40
 ok:∀ r:RecS,1≤r.kind→r.kind≤5→0≤r.index→r.index<V2 nc r.kind→stR r.kind (rd X r)≠2
structure Rin (nc:Nat) (r:RecS):Prop where
 a:1≤r.kind
 b:r.kind≤5
 c:0≤r.index
 d:r.index<V2 nc r.kind
theorem Rin.place {nc:Nat} {r:RecS} (h:Rin nc r) (hn:0<nc):∃ j a,H5 nc r=some (j,a,Ac6 r.kind)∧j<nc∧(j=0→a+Ac6 r.kind≤492)∧(0<j→a=0∧Ac6 r.kind=40):=by
 obtain ⟨h1,h2,h3,h4⟩:=h
 obtain ⟨k,i⟩:=r
 simp only at h1 h2 h3 h4
 have hk:k=1∨k=2∨k=3∨k=4∨k=5:=by omega
 unfold H5 Ac6
 simp only
 rw [if_neg (by omega)]
 rcases hk with rfl|rfl|rfl|rfl|rfl
 ·exact ⟨0,_,rfl,hn,fun _=>by simp [V2] at h4 ⊢;omega,fun h=>by omega⟩
 ·exact ⟨0,_,rfl,hn,fun _=>by simp [V2] at h4 ⊢;omega,fun h=>by omega⟩
 ·simp only [V2] at h4
  by_cases h5:i<4
  ·exact ⟨0,_,by simp [h5];rfl,hn,fun _=>by simp;omega,fun h=>by omega⟩
  ·exact ⟨i.toNat-3,0,by simp [h5],by simp at h4;omega,fun h=>by omega,fun _=>⟨rfl,rfl⟩⟩
 ·exact ⟨0,_,rfl,hn,fun _=>by simp,fun h=>by omega⟩
 ·exact ⟨0,_,rfl,hn,fun _=>by simp,fun h=>by omega⟩
theorem H84 {nc:Nat} {r r':RecS} (h:Rin nc r) (h':Rin nc r') (ne:r≠r') {j a n j' a' n':Nat} (e:H5 nc r=some (j,a,n)) (e':H5 nc r'=some (j',a',n')):j≠j'∨a+n≤a'∨a'+n'≤a:=by
 obtain ⟨h1,h2,h3,h4⟩:=h
 obtain ⟨g1,g2,g3,g4⟩:=h'
 obtain ⟨k,i⟩:=r
 obtain ⟨k',i'⟩:=r'
 simp only at h1 h2 h3 h4 g1 g2 g3 g4
 have ne':k≠k'∨i≠i':=by
  by_cases hk:k=k'
  ·right;intro hi;exact ne (by rw [hk,hi])
  ·exact .inl hk
 unfold H5 at e e'
 simp only at e e'
 rw [if_neg (by omega)] at e e'
 unfold V2 at h4 g4
 have hk:k=1∨k=2∨k=3∨k=4∨k=5:=by omega
 have hk':k'=1∨k'=2∨k'=3∨k'=4∨k'=5:=by omega
 have fin:∀ {x y:Nat × Nat × Nat},some x=some y→x=y:=fun h=>by cases h;rfl
 rcases hk with rfl|rfl|rfl|rfl|rfl<;>rcases hk' with rfl|rfl|rfl|rfl|rfl<;>simp at e e' h4 g4 ne'<;>(try split at e)<;>(try split at e')<;>(try simp at e e')<;>omega
def Bq7 (X:CX) (r:RecS) (b:List UInt8):CX :=
 match H5 X.m.length r with
 | some (j,a,_)=>{ X with m:=X.m.set j (J5 (X.m.getD j []) a b) }
 | none=>X
theorem E47 (l:List (List UInt8)) (j j':Nat) (x:List UInt8) (h:j<l.length):(l.set j x).getD j' []=if j'=j then x else l.getD j' []:=by
 rw [List.getD_eq_getElem?_getD,List.getD_eq_getElem?_getD,List.getElem?_set]
 by_cases hj:j=j'
 ·subst hj;simp [h]
 ·rw [if_neg hj,if_neg (fun e=>hj e.symm)]
section
variable {nc:Nat} {X:CX} (c:Clean nc X) {r r':RecS} (h:Rin nc r) (h':Rin nc r')
include c h
theorem H15:rdX X r=some (rd X r):=by
 obtain ⟨j,a,e,_⟩:=h.place c.pos
 unfold rdX rd
 rw [c.len,e]
 simp [c.bad]
theorem Bu0 (b:List UInt8):wrX X r b true=(true,Bq7 X r b):=by
 obtain ⟨j,a,e,_⟩:=h.place c.pos
 unfold wrX Bq7
 rw [c.len,e]
 simp [c.bad]
theorem El8 {j a n:Nat} (e:H5 nc r=some (j,a,n)):a+n≤(X.m.getD j []).length∧j<X.m.length∧n=Ac6 r.kind:=by
 obtain ⟨j',a',e',hj,h0,h1⟩:=h.place c.pos
 rw [e] at e';cases e'
 rw [c.len]
 by_cases hz:j=0
 ·subst hz;rw [c.own];exact ⟨h0 rfl,hj,rfl⟩
 ·rw [c.brs j (by omega) hj]
  have:=h1 (by omega)
  exact ⟨by omega,hj,rfl⟩
include h'
theorem Aj2 {b:List UInt8} (hb:b.length=Ac6 r.kind):rd (Bq7 X r b) r'=if r'=r then b else rd X r':=by
 obtain ⟨j,a,e,_⟩:=h.place c.pos
 obtain ⟨j',a',e',_⟩:=h'.place c.pos
 have p:=El8 c h e
 have p':=El8 c h' e'
 have es:Bq7 X r b={ X with m:=X.m.set j (J5 (X.m.getD j []) a b) }:=by unfold Bq7;rw [c.len,e]
 have el:(Bq7 X r b).m.length=nc:=by rw [es];simp [c.len]
 unfold rd
 rw [el,e',c.len,e',es]
 simp only
 rw [E47 _ _ _ _ p.2.1]
 by_cases hr:r'=r
 ·subst hr
  rw [e] at e';cases e'
  rw [if_pos rfl,if_pos rfl]
  have:=Gb2 (l:=X.m.getD j []) (b:=b) (a:=a) (by omega)
  rwa [hb] at this
 ·rw [if_neg hr]
  by_cases hj:j'=j
  ·subst hj
   rw [if_pos rfl]
   have dj:=H84 h' h hr e' e
   exact E16 (by omega) (by omega)
  ·rw [if_neg hj]
end
theorem Da2 {nc:Nat} {X:CX} (c:Clean nc X) {r:RecS} (h:Rin nc r) {b:List UInt8} (hb:b.length=Ac6 r.kind) (hs:stR r.kind b≠2):Clean nc (Bq7 X r b):=by
 obtain ⟨j,a,e,_⟩:=h.place c.pos
 have p:=El8 c h e
 have es:Bq7 X r b={ X with m:=X.m.set j (J5 (X.m.getD j []) a b) }:=by unfold Bq7;rw [c.len,e]
 refine ⟨by rw [es];simp [c.len],c.pos,by rw [es];exact c.bad,?_,?_,?_⟩
 ·rw [es];simp only
  rw [E47 _ _ _ _ p.2.1]
  split
  ·rename_i h0;subst h0;rw [Ad3 (by omega)];exact c.own
  ·exact c.own
 ·intro i h0 h1
  rw [es];simp only
  rw [E47 _ _ _ _ p.2.1]
  split
  ·rename_i h2;subst h2;rw [Ad3 (by omega)];exact c.brs i h0 h1
  ·exact c.brs i h0 h1
 ·intro r' h1 h2 h3 h4
  rw [Aj2 c h ⟨h1,h2,h3,h4⟩ hb]
  split
  ·rename_i hr;rw [hr];exact hs
  ·exact c.ok r' h1 h2 h3 h4
theorem Bu9 {α:Type} (dec:List UInt8→α × Int) (z:α) {nc:Nat} {X:CX} (c:Clean nc X) {r:RecS} (h:Rin nc r) (hd:(dec (rd X r)).2=stR r.kind (rd X r)):W0 dec z X r=(dec (rd X r),X):=by
 unfold W0
 rw [H15 c h]
 simp only
 rw [if_neg (by rw [hd];exact c.ok r h.a h.b h.c h.d)]
abbrev vS (X:CX) (i:Int):ProcS × Int:=Z7 (rd X ⟨1,i⟩)
abbrev vF (X:CX) (i:Int):FileS × Int:=Z3 (rd X ⟨2,i⟩)
abbrev vP (X:CX) (i:Int):PipeS × Int:=P7 (rd X ⟨3,i⟩)
theorem Dk9 {nc:Nat} {i:Int} (h:0≤i∧i<8):Rin nc ⟨1,i⟩:=⟨by simp,by simp,h.1,h.2⟩
theorem Bl0 {nc:Nat} {i:Int} (h:0≤i∧i<12):Rin nc ⟨2,i⟩:=⟨by simp,by simp,h.1,h.2⟩
theorem Bf5 {nc:Nat} {i:Int} (h:0≤i∧i<3+nc):Rin nc ⟨3,i⟩:=⟨by simp,by simp,h.1,h.2⟩
theorem Dx7 {nc:Nat} {X:CX} (c:Clean nc X) {i:Int} (h:0≤i∧i<8):Ec5 X i=(vS X i,X):=Bu9 Z7 .zero c (Dk9 h) rfl
theorem Bo6 {nc:Nat} {X:CX} (c:Clean nc X) {i:Int} (h:0≤i∧i<12):D61 X i=(vF X i,X):=Bu9 Z3 .zero c (Bl0 h) rfl
theorem Dv8 {nc:Nat} {X:CX} (c:Clean nc X) {i:Int} (h:0≤i∧i<3+nc):D75 X i=(vP X i,X):=Bu9 P7 .zero c (Bf5 h) rfl
theorem Dg5 {f:CX→Int→CX} {X:CX}:∀ (m:Nat) (i:Int),(∀ j,i≤j→j<i+m→f X j=X)→Dg7 f m i X=X
 | 0,_,_=>rfl
 | m+1,i,h=>by
  unfold Dg7
  rw [h i (by omega) (by omega)]
  exact Dg5 m (i+1) fun j h1 h2=>h j (by omega) (by omega)
theorem Ge1 {nc:Nat} {X:CX} (c:Clean nc X):E86 X=X:=by
 have h3:Gd3 X=X:=by
  unfold Gd3
  have e1:Ed2 X=(P7 (rd X ⟨4,0⟩),X):=Bu9 P7 .zero c ⟨by simp,by simp,by simp,by simp [V2]⟩ rfl
  have e2:Ep2 X=(As6 (rd X ⟨5,0⟩),X):=Bu9 As6 0 c ⟨by simp,by simp,by simp,by simp [V2]⟩ rfl
  rw [e1];simp only;rw [e2]
 have hl:=c.len
 unfold E86 lookN G33 G86
 rw [Dg5 8 0 (fun j h1 h2=>by rw [Dx7 c (by omega)])]
 rw [Dg5 12 0 (fun j h1 h2=>by rw [Bo6 c (by omega)])]
 rw [Dg5 (3+X.m.length) 0 (fun j h1 h2=>by rw [Dv8 c (by omega)]),h3]
theorem G03 {f:FileS} (h:okF f=true):Z3 (Ah1 f)=(f,1):=by
 have hk:=h
 simp only [okF,Bool.and_eq_true,Bool.or_eq_true,decide_eq_true_eq,beq_iff_eq,bne_iff_ne] at h
 have e:B40 (Ah1 f)=f:=by
  obtain ⟨a,b,c,d⟩:=f
  simp only at h
  have h1:=Z6 (x:=a) (by omega);have h2:=Z6 (x:=b) (by omega);have h3:=Z6 (x:=c) (by omega);have h4:=Z6 (x:=d) (by omega)
  simp [B40,Ah1,A66]
  exact ⟨h1,h2,h3,h4⟩
 have hz:(Ah1 f).all (·==0)=false:=by simp [Ah1,A66]
 unfold Z3 isF
 rw [hz,e,hk]
 simp
section
variable {nc:Nat} {X:CX} (c:Clean nc X)
include c
abbrev B61 (X:CX) (i:Int) (p:ProcS):CX:=Bq7 X ⟨1,i⟩ (Au1 p)
abbrev Az4 (X:CX) (i:Int) (f:FileS):CX:=Bq7 X ⟨2,i⟩ (Ah1 f)
theorem B29 {i:Int} (h:0≤i∧i<8) {p:ProcS} (ok:okS p=true) (r:InS p) :
  Br1 X i p=(true,B61 X i p)∧Clean nc (B61 X i p)∧(∀ j:Int,0≤j∧j<8→vS (B61 X i p) j=if j=i then (p,1) else vS X j)∧(∀ j:Int,0≤j∧j<12→vF (B61 X i p) j=vF X j)∧(∀ j:Int,0≤j∧j<3+nc→vP (B61 X i p) j=vP X j):=by
 have hl:(Au1 p).length=Ac6 (1:Int):=by rw [D66];rfl
 refine ⟨by unfold Br1;rw [ok];exact Bu0 c (Dk9 h) _,Da2 c (Dk9 h) hl (by show (Z7 (Au1 p)).2≠2;rw [Gw7 ok r];simp),fun j hj=>?_,fun j hj=>?_,fun j hj=>?_⟩
 ·show Z7 (rd _ _)=_
  rw [Aj2 c (Dk9 h) (Dk9 hj) hl]
  by_cases e:j=i
  ·rw [if_pos (by rw [e]),if_pos e];exact Gw7 ok r
  ·rw [if_neg (by simp [e]),if_neg e]
 ·show Z3 (rd _ _)=_
  rw [Aj2 c (Dk9 h) (Bl0 hj) hl,if_neg (by simp)]
 ·show P7 (rd _ _)=_
  rw [Aj2 c (Dk9 h) (Bf5 hj) hl,if_neg (by simp)]
theorem Ar1 {i:Int} (h:0≤i∧i<12) {f:FileS} (ok:okF f=true) :
  Bg9 X i f=(true,Az4 X i f)∧Clean nc (Az4 X i f)∧(∀ j:Int,0≤j∧j<8→vS (Az4 X i f) j=vS X j)∧(∀ j:Int,0≤j∧j<12→vF (Az4 X i f) j=if j=i then (f,1) else vF X j)∧(∀ j:Int,0≤j∧j<3+nc→vP (Az4 X i f) j=vP X j):=by
 have hl:(Ah1 f).length=Ac6 (2:Int):=by rw [Dr1];rfl
 refine ⟨by unfold Bg9;rw [ok];exact Bu0 c (Bl0 h) _,Da2 c (Bl0 h) hl (by show (Z3 (Ah1 f)).2≠2;rw [G03 ok];simp),fun j hj=>?_,fun j hj=>?_,fun j hj=>?_⟩
 ·show Z7 (rd _ _)=_
  rw [Aj2 c (Bl0 h) (Dk9 hj) hl,if_neg (by simp)]
 ·show Z3 (rd _ _)=_
  rw [Aj2 c (Bl0 h) (Bl0 hj) hl]
  by_cases e:j=i
  ·rw [if_pos (by rw [e]),if_pos e];exact G03 ok
  ·rw [if_neg (by simp [e]),if_neg e]
 ·show P7 (rd _ _)=_
  rw [Aj2 c (Bl0 h) (Bf5 hj) hl,if_neg (by simp)]
theorem Io3 {i:Int} (h:0≤i∧i<8):((vS X i).2=0∧(vS X i).1=.zero)∨((vS X i).2=1∧okS (vS X i).1=true):=by
 have:=c.ok ⟨1,i⟩ (by simp) (by simp) h.1 h.2
 have hk:(vS X i).2≠2:=this
 unfold vS Z7 at hk ⊢
 split
 ·exact .inl ⟨rfl,rfl⟩
 ·split
  ·rename_i h2
   unfold isS at h2
   simp only [Bool.and_eq_true] at h2
   exact .inr ⟨rfl,h2.1⟩
  ·rename_i h1 h2;simp [h1,h2] at hk
theorem Ic7 {i:Int} (h:0≤i∧i<12):((vF X i).2=0∧(vF X i).1=.zero)∨((vF X i).2=1∧okF (vF X i).1=true):=by
 have:=c.ok ⟨2,i⟩ (by simp) (by simp) h.1 h.2
 have hk:(vF X i).2≠2:=this
 unfold vF Z3 at hk ⊢
 split
 ·exact .inl ⟨rfl,rfl⟩
 ·split
  ·rename_i h2
   unfold isF at h2
   simp only [Bool.and_eq_true] at h2
   exact .inr ⟨rfl,h2.1⟩
  ·rename_i h1 h2;simp [h1,h2] at hk
end
abbrev L6 (n e:Int) (b:Bool):List Value:=[int n,int e,.slice none 0 0,.bool b]
theorem Eu4 (e:Int):Ct A8 Ay8 [int e] [] fun v own=>v=.agg ⟨L6 0 e false⟩∧own []:=by
 refine Ct.of He1 rfl fun h r=>Tr.eq (Hb7 ..) ?_;refine Je ?_
 (refine Ja ?_;unhygienic intros)
 refine Ys fun o=>?_
 exact ⟨rfl,o.sub⟩
theorem Ie5 (ok:Bool) (n:Int):Ct A8 B75 [.bool ok,int n] [] fun v own=>v=.agg ⟨if ok then L6 n 0 false else L6 0 105 false⟩∧own []:=by
 refine Ct.of Hb4 rfl fun h r=>Tr.eq (Ha4 ..) ?_;refine Je ?_
 cases ok with
 | true =>
  (refine Ja ?_;unhygienic intros)
  refine Ys fun o=>?_
  exact ⟨rfl,o.sub⟩
 | false =>
  (refine Ja ?_;unhygienic intros)
  refine Yc (Eu4 105) ?_;rintro _ h ⟨rfl,o⟩<;>(refine Jf o ?_;unhygienic intros)
  refine Ys fun o=>?_
  exact ⟨rfl,o.sub⟩
def P1 (X:CX) (i:Int):ProcS × Int:=if (vS X i).2=1∧(vS X i).1.state=1 then ((vS X i).1,0) else (.zero,105)
theorem Gj9 (b k:Nat) (F:Fr) (X:CX) (ok:FrOk F) {nc:Nat} (c:Clean nc X) (i:Int) (hi:0≤i∧i<8):Ct A8 Bb9 [P0 b,int i] [cmC b k F X] fun v own=>v=.tuple ⟨[.agg ⟨D3 (P1 X i).1⟩,int (P1 X i).2]⟩∧own [cmC b k F X]:=by
 refine Ct.of Hc7 rfl fun h r=>Tr.eq (Hb0 ..) ?_;refine Je ?_
 (refine Jc ?_;unhygienic intros)
 refine Yn fun b0 h=>?_
 refine Yc (Hj6 b k F X ok) ?_;rintro _ h ⟨rfl,o⟩<;>refine Jh o ?_
 rw [Ge1 c]
 (refine Ja ?_;unhygienic intros)
 refine Yc (E15 b k F X ok i) ?_;rintro _ h ⟨rfl,o⟩<;>refine Jh o ?_
 rw [Dx7 c hi]
 dsimp only
 (refine Jc ?_;unhygienic intros)
 refine Yn fun b1 h=>?_
 (refine Jb ?_;unhygienic intros)
 refine Tr.orG (c:=(vS X i).1.state != 1) (fun hb=>?_) ?_
 ·exact Jz
 unfold P1
 by_cases h1:(vS X i).2=1∧(vS X i).1.state=1
 ·rw [if_pos h1]
  refine Yf (by simp [h1.1,h1.2]) ?_
  (refine Ja ?_;unhygienic intros)
  refine Ys fun o=>?_
  exact ⟨rfl,o.sub⟩
 ·rw [if_neg h1]
  refine Yt (by simp;by_cases h2:(vS X i).2=1<;>simp [h2] at h1 ⊢;exact h1) ?_
  (refine Ja ?_;unhygienic intros)
  refine Ys fun o=>?_
  exact ⟨rfl,o.sub⟩
def Ai5 (X:CX):Nat→Int→Int
 | 0,_=>-1
 | m+1,i=>if (vS X i).2=0 then i else Ai5 X m (i+1)
theorem Hq4 (b k:Nat) (F:Fr) (X:CX) (ok:FrOk F) {nc:Nat} (c:Clean nc X):∀ (m:Nat) (i:Int),0≤i→i+m=8 →
  CtJ G5 Aq2 Bk0 [(0,P0 b),(6,int i)] [cmC b k F X] fun v own=>v=int (Ai5 X m i)∧own [cmC b k F X]:=by
 intro m
 induction m with
 | zero =>
  intro i h0 hi
  refine CtJ.of Dw3 fun h r=>Tr.eq (D33 ..) ?_;refine Je ?_
  refine Yf (by simp;omega) ?_
  refine Ys fun o=>?_
  exact ⟨rfl,o.sub⟩
 | succ m ih =>
  intro i h0 hi
  have e1:IntKind.wrap .i64 (i+1)=i+1:=by rw [A7];omega
  refine CtJ.of Dw3 fun h r=>Tr.eq (D33 ..) ?_;refine Je ?_
  refine Yt (by simp;omega) ?_
  refine Yc (E15 b k F X ok i) ?_;rintro _ h ⟨rfl,o⟩<;>refine Jh o ?_
  rw [Dx7 c (by omega)]
  dsimp only
  (refine Jc ?_;unhygienic intros)
  refine Yn fun b1 h=>?_
  (refine Ja ?_;unhygienic intros)
  rw [show Ai5 X (m+1) i=if (vS X i).2=0 then i else Ai5 X m (i+1) from rfl]
  by_cases h1:(vS X i).2=0
  ·rw [if_pos h1]
   refine Yt (by simpa using h1) ?_
   refine Ys fun o=>?_
   exact ⟨rfl,o.sub⟩
  ·rw [if_neg h1,e1]
   refine Yf (by simpa using h1) ?_
   refine Q9 [1] 1 rfl rfl ?_
   refine Yr (ih (i+1) (by omega) (by omega)) ?_
   intro v h q
   exact q
theorem If3 (b k:Nat) (F:Fr) (X:CX) (ok:FrOk F) {nc:Nat} (c:Clean nc X):Ct A8 Aq2 [P0 b] [cmC b k F X] fun v own=>v=int (Ai5 X 8 0)∧own [cmC b k F X]:=by
 refine Ct.of Dw3 rfl fun h r=>Tr.eq (Hf2 ..) ?_;refine Je ?_
 refine Yr (Hq4 b k F X ok c 8 0 (by omega) (by omega)) ?_
 intro v h q
 exact q
def Bj0:List Int→List Int→List Int
 | [],m=>m
 | f::l,m=>Bj0 l (if f>0 then m.set (f-1).toNat (m.getD (f-1).toNat 0+1) else m)
def Ab1 (n:Int) (m:List Int):Prop:=m.length=12∧∀ x ∈ m,0≤x∧x≤n
theorem Ab1.get {n:Int} {m:List Int} (h:Ab1 n m) {j:Nat} (hj:j<12):0≤m.getD j 0∧m.getD j 0≤n:=by
 have hl:=h.1
 have e:m[j]?=some m[j]:=List.getElem?_eq_getElem (by omega)
 rw [List.getD_eq_getElem?_getD,e]
 exact h.2 _ (List.getElem_mem _)
theorem Ab1.set {n:Int} {m:List Int} (h:Ab1 n m) {j:Nat} (hj:j<12):Ab1 (n+1) (m.set j (m.getD j 0+1)):=by
 refine ⟨by simpa using h.1,fun x hx=>?_⟩
 rcases List.mem_or_eq_of_mem_set hx with h2|rfl
 ·have:=h.2 x h2;omega
 ·have:=h.get hj;omega
theorem Ab1.up {n:Int} {m:List Int} (h:Ab1 n m):Ab1 (n+1) m:=⟨h.1,fun x hx=>by have:=h.2 x hx;omega⟩
theorem H88 {m:List Int} {j:Nat} (h:j<m.length) (v:Int):Dd6 (m.map int) j (int v)=some ((m.set j v).map int):=by
 rw [Dd6,show Nat.blt j (m.map int).length=true from Nat.ble_eq_true_of_le (by simp;omega),List.map_set];rfl
def Bw4 (l:List Int):Prop:=∀ f ∈ l,0≤f∧f≤12
theorem Gi5 {l:List Int} {i:Nat} (h:i<l.length):(l.map int)[i]?=some (int (l.getD i 0)):=by rw [List.getElem?_map,N0 0 h];rfl
theorem Hf4 (b k:Nat) (F:Fr) (X:CX) (b0 b1:Nat) (p:ProcS) (hf:Bw4 p.fds) (Φ:Value→(List HP→Prop)→Prop) (M:List Int)
  (next:CtJ G5 E9 Ak7 [(0,P0 b),(5,P0 b1),(31,.agg ⟨p.fds.map int⟩),(32,int 0)] [pt b1 (.cells Ea0 false (M.map int)),cmC b k F X] Φ) :
  ∀ (m i:Nat) (more:List Int),i+m=8→Ab1 i more→Bj0 (p.fds.drop i) more=M →
  CtJ G5 E9 Av9 [(0,P0 b),(3,P0 b0),(5,P0 b1),(17,.agg ⟨p.fds.map int⟩),(18,int i)] [pt b1 (.cells Ea0 false (more.map int)),pt b0 (.cells D1 false (D3 p)),cmC b k F X] Φ:=by
 intro m
 induction m with
 | zero =>
  intro i more hi hm hM
  have:i=8:=by omega
  subst this
  rw [show p.fds.drop 8=[] from List.drop_eq_nil_of_le (by rw [p.len];omega),show Bj0 [] more=more from rfl] at hM
  subst hM
  refine CtJ.of Ar7 fun h r=>Tr.eq (Du5 ..) ?_;refine Je ?_
  refine Yf (by simp) ?_
  (refine Ja ?_;unhygienic intros)
  refine Q9 [0,1] 1 rfl rfl ?_
  refine Yr next ?_
  intro v h q
  exact q
 | succ m ih =>
  intro i more hi hm hM
  have e1:IntKind.wrap .i64 ((i:Int)+1)=((i+1:Nat):Int):=by rw [A7];omega
  have hil:i<p.fds.length:=by rw [p.len];omega
  have hg:=Gi5 hil
  have hd:p.fds.drop i=p.fds.getD i 0::p.fds.drop (i+1):=by
   rw [List.drop_eq_getElem_cons hil,List.getD_eq_getElem?_getD,List.getElem?_eq_getElem hil];rfl
  have hr:0≤p.fds.getD i 0∧p.fds.getD i 0≤12:=hf _ (by
   rw [List.getD_eq_getElem?_getD,List.getElem?_eq_getElem hil];exact List.getElem_mem _)
  rw [hd] at hM
  generalize p.fds.getD i 0=f at hg hr hM
  rw [show Bj0 (f::p.fds.drop (i+1)) more=Bj0 (p.fds.drop (i+1)) (if f>0 then more.set (f-1).toNat (more.getD (f-1).toNat 0+1) else more) from rfl] at hM
  refine CtJ.of Ar7 fun h r=>Tr.eq (Du5 ..) ?_;refine Je ?_
  refine Yt (by simp;omega) ?_
  rw [e1]
  refine Tr.ck (by omega) ?_
  rw [Int.toNat_natCast]
  (refine Ja ?_;unhygienic intros)
  by_cases hz:f>0
  ·have e2:IntKind.wrap .i64 (f-1)=f-1:=by rw [A7];omega
   have hj:(f-1).toNat<12:=by omega
   have hm2:=hm.get hj
   have e3:IntKind.wrap .i64 (more.getD (f-1).toNat 0+1)=more.getD (f-1).toNat 0+1:=by rw [A7];omega
   have hgm:=Gi5 (l:=more) (i:=(f-1).toNat) (by rw [hm.1];exact hj)
   rw [if_pos hz] at hM
   rw [e2]
   refine Yt (by simpa using hz) ?_
   (refine Ja ?_;unhygienic intros)
   rw [e3]
   refine Gs (fun h=>?_) (by exact H88 (by rw [hm.1];exact hj) _)
   refine Yr (ih (i+1) (more.set (f-1).toNat (more.getD (f-1).toNat 0+1)) (by omega) (by rw [show ((i+1:Nat):Int)=(i:Int)+1 by omega];exact hm.set hj) hM) ?_
   intro v h q
   exact q
  ·rw [if_neg hz] at hM
   refine Yf (by simpa using hz) ?_
   refine Yr (ih (i+1) more (by omega) (by simpa using hm.up) hM) ?_
   intro v h q
   exact q
def Ab3 (X:CX) (more:List Int):List Int→Int
 | []=>0
 | f::l=>if f=0 then Ab3 X more l else if (vF X (f-1)).2≠1 then 105 else if (vF X (f-1)).1.refs+more.getD (f-1).toNat 0>64 then 123 else Ab3 X more l
theorem Hh6 {f:FileS} (h:okF f=true):1≤f.refs∧f.refs≤64:=by
 simp only [okF,Bool.and_eq_true,Bool.or_eq_true,decide_eq_true_eq,beq_iff_eq,bne_iff_ne] at h
 omega
theorem Hh3 {nc:Nat} {X:CX} (c:Clean nc X) {i:Int} (h:0≤i∧i<12):0≤(vF X i).1.refs∧(vF X i).1.refs≤64:=by
 rcases Ic7 c h with ⟨_,h1⟩|⟨_,h1⟩
 ·rw [h1];simp
 ·have:=Hh6 h1;omega
theorem G92 (b k:Nat) (F:Fr) (X:CX) (ok:FrOk F) {nc:Nat} (c:Clean nc X) (b1:Nat) (fds more:List Int) (hl:fds.length=8) (hf:Bw4 fds) (hm:Ab1 8 more) (Φ:Value→(List HP→Prop)→Prop)
  (bad:∀ (e:Int),Ab3 X more fds=e→e≠0→∀ h r,Own h (cmC b k F X::r)→Φ (int e) fun l=>Own h (l++r))
  (next:Ab3 X more fds=0→CtJ G5 E9 Ak6 [(0,P0 b),(57,.agg ⟨more.map int⟩),(58,int 0)] [cmC b k F X] Φ) :
  ∀ (m i:Nat),i+m=8→Ab3 X more fds=Ab3 X more (fds.drop i) →
  CtJ G5 E9 Ak7 [(0,P0 b),(5,P0 b1),(31,.agg ⟨fds.map int⟩),(32,int i)] [pt b1 (.cells Ea0 false (more.map int)),cmC b k F X] Φ:=by
 intro m
 induction m with
 | zero =>
  intro i hi he
  have:i=8:=by omega
  subst this
  rw [show fds.drop 8=[] from List.drop_eq_nil_of_le (by omega),show Ab3 X more []=0 from rfl] at he
  have hl12:B70 (more.map int) 0 12=some (more.map int):=Bt8 (by simp [hm.1])
  refine CtJ.of Ar7 fun h r=>Tr.eq (Dt6 ..) ?_;refine Je ?_
  refine Yf (by simp) ?_
  refine Gs ?_ (by exact hl12)
  refine Q9 [1] 1 rfl rfl ?_
  refine Yr (next he) ?_
  intro v h q
  exact q
 | succ m ih =>
  intro i hi he
  have e1:IntKind.wrap .i64 ((i:Int)+1)=((i+1:Nat):Int):=by rw [A7];omega
  have hil:i<fds.length:=by omega
  have hg:=Gi5 hil
  have hd:fds.drop i=fds.getD i 0::fds.drop (i+1):=by
   rw [List.drop_eq_getElem_cons hil,List.getD_eq_getElem?_getD,List.getElem?_eq_getElem hil];rfl
  have hr:0≤fds.getD i 0∧fds.getD i 0≤12:=hf _ (by
   rw [List.getD_eq_getElem?_getD,List.getElem?_eq_getElem hil];exact List.getElem_mem _)
  rw [hd] at he
  generalize fds.getD i 0=f at hg hr he
  rw [show Ab3 X more (f::fds.drop (i+1))=if f=0 then Ab3 X more (fds.drop (i+1)) else if (vF X (f-1)).2≠1 then 105 else if (vF X (f-1)).1.refs+more.getD (f-1).toNat 0>64 then 123 else Ab3 X more (fds.drop (i+1)) from rfl] at he
  refine CtJ.of Ar7 fun h r=>Tr.eq (Dt6 ..) ?_;refine Je ?_
  refine Yt (by simp;omega) ?_
  rw [e1]
  refine Tr.ck (by omega) ?_
  rw [Int.toNat_natCast]
  (refine Ja ?_;unhygienic intros)
  by_cases hz:f=0
  ·rw [if_pos hz] at he
   refine Yt (by simpa using hz) ?_
   refine Yr (ih (i+1) (by omega) he) ?_
   intro v h q
   exact q
  rw [if_neg hz] at he
  refine Yf (by simpa using hz) ?_
  have e2:IntKind.wrap .i64 (f-1)=f-1:=by rw [A7];omega
  have hj:(f-1).toNat<12:=by omega
  rw [e2]
  refine Yc (Dk8 b k F X ok (f-1)) ?_;rintro _ h ⟨rfl,o⟩<;>refine Jh o ?_
  rw [Bo6 c (by omega)]
  dsimp only
  (refine Jc ?_;unhygienic intros)
  refine Yn fun b2 h=>?_
  (refine Ja ?_;unhygienic intros)
  by_cases h1:(vF X (f-1)).2=1
  ·rw [if_neg (by simpa using h1)] at he
   refine Yf (by simpa using h1) ?_
   have hm2:=hm.get hj
   have hgm:=Gi5 (l:=more) (i:=(f-1).toNat) (by rw [hm.1];exact hj)
   have hrf:=Hh3 c (i:=f-1) (by omega)
   have e3:IntKind.wrap .i64 ((vF X (f-1)).1.refs+more.getD (f-1).toNat 0)=(vF X (f-1)).1.refs+more.getD (f-1).toNat 0:=by rw [A7];omega
   (refine Ja ?_;unhygienic intros)
   rw [e3]
   by_cases h2:(vF X (f-1)).1.refs+more.getD (f-1).toNat 0>64
   ·rw [if_pos h2] at he
    refine Yt (by simpa using h2) ?_
    refine Q9 [1] 2 rfl rfl ?_
    refine Ys fun o=>?_
    exact bad 123 he (by simp) _ _ o
   ·rw [if_neg h2] at he
    refine Yf (by simpa using h2) ?_
    refine Q9 [2,1] 1 rfl rfl ?_
    refine Yr (ih (i+1) (by omega) he) ?_
    intro v h q
    exact q
  ·rw [if_pos h1] at he
   refine Yt (by simpa using h1) ?_
   refine Q9 [1] 2 rfl rfl ?_
   refine Ys fun o=>?_
   exact bad 105 he (by simp) _ _ o
abbrev Dp5 (f:FileS) (n:Int):FileS:=⟨f.kind,f.pipe,f.refs+n,f.flags⟩
def Ba1 (more:List Int):Nat→Int→CX→CX
 | 0,_,X=>X
 | m+1,j,X=>Ba1 more m (j+1) (if more.getD j.toNat 0=0 then X else Az4 X j (Dp5 (vF X j).1 (more.getD j.toNat 0)))
def Gh2 (more:List Int) (X:CX) (j:Int):Prop:=∀ i:Int,j≤i→i<12→more.getD i.toNat 0≠0→(vF X i).2=1∧(vF X i).1.refs+more.getD i.toNat 0≤64
theorem H57 {f:FileS} (h:okF f=true) {n:Int} (hn:1≤f.refs+n∧f.refs+n≤64):okF (Dp5 f n)=true:=by
 simp only [okF,Bool.and_eq_true,Bool.or_eq_true,decide_eq_true_eq,beq_iff_eq,bne_iff_ne] at h ⊢
 omega
theorem Gh2.step {nc:Nat} {X:CX} (c:Clean nc X) {more:List Int} (hm:Ab1 8 more) {j:Int} (h0:0≤j∧j<12) (s:Gh2 more X j) (hz:more.getD j.toNat 0≠0) :
  okF (Dp5 (vF X j).1 (more.getD j.toNat 0))=true∧Gh2 more (Az4 X j (Dp5 (vF X j).1 (more.getD j.toNat 0))) (j+1):=by
 obtain ⟨s1,s2⟩:=s j (by omega) (by omega) hz
 have hg:=hm.get (j:=j.toNat) (by omega)
 have hk:okF (vF X j).1=true:=by
  rcases Ic7 c h0 with ⟨h1,_⟩|⟨_,h1⟩
  ·omega
  ·exact h1
 have hr:=Hh6 hk
 have k:=H57 hk (n:=more.getD j.toNat 0) (by omega)
 refine ⟨k,fun i h1 h2 hi=>?_⟩
 rw [(Ar1 c h0 k).2.2.2.1 i (by omega),if_neg (by omega)]
 exact s i (by omega) h2 hi
theorem G97 (b k:Nat) (F:Fr) (ok:FrOk F) {nc:Nat} (more:List Int) (hm:Ab1 8 more):∀ (m:Nat) (j:Int) (X:CX),Clean nc X→Gh2 more X j→0≤j→j+m=12 →
  CtJ G5 E9 Ak6 [(0,P0 b),(57,.agg ⟨more.map int⟩),(58,int j)] [cmC b k F X] fun v own=>v=int 0∧own [cmC b k F (Ba1 more m j X)]:=by
 intro m
 induction m with
 | zero =>
  intro j X c s h0 hj
  refine CtJ.of Ar7 fun h r=>Tr.eq (Ds6 ..) ?_;refine Je ?_
  refine Yf (by simp;omega) ?_
  refine Ys fun o=>?_
  rw [show Ba1 more 0 j X=X from rfl]
  exact ⟨rfl,o.sub⟩
 | succ m ih =>
  intro j X c s h0 hj
  have e1:IntKind.wrap .i64 (j+1)=j+1:=by rw [A7];omega
  have hg:=Gi5 (l:=more) (i:=j.toNat) (by rw [hm.1];omega)
  have hm2:=hm.get (j:=j.toNat) (by omega)
  rw [show Ba1 more (m+1) j X=Ba1 more m (j+1) (if more.getD j.toNat 0=0 then X else Az4 X j (Dp5 (vF X j).1 (more.getD j.toNat 0))) from rfl]
  refine CtJ.of Ar7 fun h r=>Tr.eq (Ds6 ..) ?_;refine Je ?_
  refine Yt (by simp;omega) ?_
  rw [e1]
  (refine Ja ?_;unhygienic intros)
  by_cases hz:more.getD j.toNat 0=0
  ·rw [if_pos hz]
   refine Yt (by simpa using hz) ?_
   refine Yr (ih (j+1) X c (fun i h1 h2 h3=>s i (by omega) h2 h3) (by omega) (by omega)) ?_
   intro v h q
   exact q
  ·rw [if_neg hz]
   refine Yf (by simpa using hz) ?_
   have hrf:=Hh3 c (i:=j) (by omega)
   have e3:IntKind.wrap .i64 ((vF X j).1.refs+more.getD j.toNat 0)=(vF X j).1.refs+more.getD j.toNat 0:=by rw [A7];omega
   obtain ⟨k1,s2⟩:=s.step c hm (by omega) hz
   obtain ⟨w1,w2,_⟩:=Ar1 c (i:=j) (by omega) k1
   refine Yc (Dk8 b k F X ok j) ?_;rintro _ h ⟨rfl,o⟩<;>refine Jh o ?_
   rw [Bo6 c (by omega)]
   dsimp only
   (refine Jc ?_;unhygienic intros)
   refine Yn fun b2 h=>?_
   (refine Ja ?_;unhygienic intros)
   simp only [e3,List.set_cons_succ,List.set_cons_zero,List.drop_zero,List.take]
   refine Yc (Dx8 b k F X ok j (Dp5 (vF X j).1 (more.getD j.toNat 0))) ?_;rintro _ h ⟨rfl,o⟩<;>refine Jh o ?_
   rw [w1]
   dsimp only
   (refine Ja ?_;unhygienic intros)
   refine Q9 [0] 1 rfl rfl ?_
   refine Yr (ih (j+1) _ w2 s2 (by omega) (by omega)) ?_
   intro v h q
   exact q
theorem Ej9:∀ (l m:List Int) (i:Nat),Bw4 l→m.length=12→(Bj0 l m).getD i 0≠0→m.getD i 0≠0∨((i:Int)+1) ∈ l
 | [],m,i,_,_,h=>.inl h
 | f::l,m,i,hf,hm,h=>by
  have hr:=hf f (by simp)
  have hl:Bw4 l:=fun x hx=>hf x (by simp [hx])
  rw [show Bj0 (f::l) m=Bj0 l (if f>0 then m.set (f-1).toNat (m.getD (f-1).toNat 0+1) else m) from rfl] at h
  by_cases hz:f>0
  ·rw [if_pos hz] at h
   rcases Ej9 l _ i hl (by simpa using hm) h with h2|h2
   ·by_cases hi:(f-1).toNat=i
    ·right
     rw [show (i:Int)+1=f by omega];simp
    ·left
     rw [List.getD_eq_getElem?_getD,List.getElem?_set_ne hi,← List.getD_eq_getElem?_getD] at h2
     exact h2
   ·exact .inr (by simp [h2])
  ·rw [if_neg hz] at h
   rcases Ej9 l m i hl hm h with h2|h2
   ·exact .inl h2
   ·exact .inr (by simp [h2])
theorem Dy8:∀ (l m:List Int) (n:Int),Bw4 l→Ab1 n m→Ab1 (n+l.length) (Bj0 l m)
 | [],m,n,_,h=>by simpa [Bj0] using h
 | f::l,m,n,hf,h=>by
  have hr:=hf f (by simp)
  have hl:Bw4 l:=fun x hx=>hf x (by simp [hx])
  rw [show Bj0 (f::l) m=Bj0 l (if f>0 then m.set (f-1).toNat (m.getD (f-1).toNat 0+1) else m) from rfl]
  have e:n+((f::l).length:Int)=(n+1)+l.length:=by simp;omega
  rw [e]
  by_cases hz:f>0
  ·rw [if_pos hz];exact Dy8 l _ (n+1) hl (h.set (by omega))
  ·rw [if_neg hz];exact Dy8 l m (n+1) hl h.up
theorem D74 {X:CX} {more:List Int}:∀ (l:List Int),Ab3 X more l=0→∀ f ∈ l,f≠0→(vF X (f-1)).2=1∧(vF X (f-1)).1.refs+more.getD (f-1).toNat 0≤64
 | [],_,f,h,_=>by simp at h
 | g::l,h,f,hm,hf=>by
  rw [show Ab3 X more (g::l)=if g=0 then Ab3 X more l else if (vF X (g-1)).2≠1 then 105 else if (vF X (g-1)).1.refs+more.getD (g-1).toNat 0>64 then 123 else Ab3 X more l from rfl] at h
  by_cases hg:g=0
  ·rw [if_pos hg] at h
   rcases List.mem_cons.1 hm with rfl|h2
   ·exact absurd hg hf
   ·exact D74 l h f h2 hf
  ·rw [if_neg hg] at h
   by_cases h1:(vF X (g-1)).2=1
   ·rw [if_neg (by simpa using h1)] at h
    by_cases h2:(vF X (g-1)).1.refs+more.getD (g-1).toNat 0>64
    ·rw [if_pos h2] at h;cases h
    ·rw [if_neg h2] at h
     rcases List.mem_cons.1 hm with rfl|h3
     ·exact ⟨h1,by omega⟩
     ·exact D74 l h f h3 hf
   ·rw [if_pos h1] at h;cases h
abbrev Eq4:List Int:=[0,0,0,0,0,0,0,0,0,0,0,0]
theorem H06:Ab1 0 Eq4:=⟨rfl,fun x hx=>by simp at hx;omega⟩
abbrev Ak4 (p:ProcS):List Int:=Bj0 p.fds Eq4
theorem Ey4 {p:ProcS} (h:Bw4 p.fds):Ab1 8 (Ak4 p):=by
 have:=Dy8 p.fds Eq4 0 h H06
 rw [p.len] at this
 exact this
theorem G47 {X:CX} {p:ProcS} (h:Bw4 p.fds) (e:Ab3 X (Ak4 p) p.fds=0):Gh2 (Ak4 p) X 0:=fun i h0 h1 hi=>by
 rcases Ej9 p.fds Eq4 i.toNat h rfl hi with h2|h2
 ·exfalso;apply h2
  have:i.toNat=0∨i.toNat=1∨i.toNat=2∨i.toNat=3∨i.toNat=4∨i.toNat=5∨i.toNat=6∨i.toNat=7∨i.toNat=8∨i.toNat=9∨i.toNat=10∨i.toNat=11:=by omega
  rcases this with h|h|h|h|h|h|h|h|h|h|h|h<;>rw [h]<;>rfl
 ·have:=D74 p.fds e _ h2 (by omega)
  rw [show ((i.toNat:Nat):Int)+1-1=i by omega] at this
  exact this
def S6 (X:CX) (p:ProcS):Int × CX:=if Ab3 X (Ak4 p) p.fds=0 then (0,Ba1 (Ak4 p) 12 0 X) else (Ab3 X (Ak4 p) p.fds,X)
theorem Hw3 (b k:Nat) (F:Fr) (X:CX) (ok:FrOk F) {nc:Nat} (c:Clean nc X) (p:ProcS) (hf:Bw4 p.fds):Ct A8 E9 [P0 b,.agg ⟨D3 p⟩] [cmC b k F X] fun v own=>v=int (S6 X p).1∧own [cmC b k F (S6 X p).2]:=by
 refine Ct.of Ar7 rfl fun h r=>Tr.eq (G64 ..) ?_;refine Je ?_
 refine Yn fun b0 h=>?_
 refine Yn fun b1 h=>?_
 (refine Ja ?_;unhygienic intros)
 have hm:=Ey4 hf
 have L2:=G92 b k F X ok c b1 p.fds (Ak4 p) p.len hf hm (fun v own=>v=int (S6 X p).1∧own [cmC b k F (S6 X p).2])
  (fun e he hz h r o=>by
   unfold S6
   rw [if_neg (by rw [he];exact hz),he]
   exact ⟨rfl,o⟩)
  (fun he=>by
   have J:=G97 b k F ok (Ak4 p) hm 12 0 X c (G47 hf he) (by omega) (by omega)
   unfold S6
   rw [if_pos he]
   exact J) 8 0 rfl rfl
 refine Es3 (Hf4 b k F X b0 b1 p hf _ (Ak4 p) L2 8 0 Eq4 rfl (by simpa using H06) rfl) [0,0,0] rfl ?_
 intro v h q
 exact q
theorem Dn7 {nc:Nat} {more:List Int} (hm:Ab1 8 more):∀ (m:Nat) (j:Int) (X:CX),Clean nc X→Gh2 more X j→0≤j→j+m=12 →
  Clean nc (Ba1 more m j X)∧(∀ i:Int,0≤i∧i<8→vS (Ba1 more m j X) i=vS X i) ∧
  (∀ i:Int,0≤i∧i<12→vF (Ba1 more m j X) i=if j≤i∧more.getD i.toNat 0≠0 then (Dp5 (vF X i).1 (more.getD i.toNat 0),1) else vF X i)∧(∀ i:Int,0≤i∧i<3+nc→vP (Ba1 more m j X) i=vP X i)
 | 0,j,X,c,_,h0,hj=>⟨c,fun _ _=>rfl,fun i hi=>by rw [if_neg (by omega)];rfl,fun _ _=>rfl⟩
 | m+1,j,X,c,s,h0,hj=>by
  rw [show Ba1 more (m+1) j X=Ba1 more m (j+1) (if more.getD j.toNat 0=0 then X else Az4 X j (Dp5 (vF X j).1 (more.getD j.toNat 0))) from rfl]
  by_cases hz:more.getD j.toNat 0=0
  ·rw [if_pos hz]
   obtain ⟨a1,a2,a3,a4⟩:=Dn7 hm m (j+1) X c (fun i h1 h2 h3=>s i (by omega) h2 h3) (by omega) (by omega)
   refine ⟨a1,a2,fun i hi=>?_,a4⟩
   rw [a3 i hi]
   by_cases hij:i=j
   ·subst hij
    rw [if_neg (by omega),if_neg (by simp only [hz];simp)]
   ·by_cases h2:j≤i∧more.getD i.toNat 0≠0
    ·rw [if_pos h2,if_pos ⟨by omega,h2.2⟩]
    ·rw [if_neg h2,if_neg (fun h3=>h2 ⟨by omega,h3.2⟩)]
  ·rw [if_neg hz]
   obtain ⟨k1,s2⟩:=s.step c hm (by omega) hz
   obtain ⟨w1,w2,w3,w4,w5⟩:=Ar1 c (i:=j) (by omega) k1
   obtain ⟨a1,a2,a3,a4⟩:=Dn7 hm m (j+1) _ w2 s2 (by omega) (by omega)
   refine ⟨a1,fun i hi=>by rw [a2 i hi,w3 i hi],fun i hi=>?_,fun i hi=>by rw [a4 i hi,w5 i hi]⟩
   rw [a3 i hi,w4 i hi]
   by_cases hij:i=j
   ·subst hij
    rw [if_neg (by omega),if_pos rfl,if_pos ⟨by omega,hz⟩]
   ·rw [if_neg hij]
    by_cases h2:j≤i∧more.getD i.toNat 0≠0
    ·rw [if_pos h2,if_pos ⟨by omega,h2.2⟩]
    ·rw [if_neg h2,if_neg (fun h3=>h2 ⟨by omega,h3.2⟩)]
theorem Hi5 (l:List UInt8) (i:Nat):0≤byI l i∧byI l i<256:=by
 have:=(l.getD i 0).toNat_lt
 unfold byI;omega
theorem Es1 (l:List UInt8) (j:Nat):0≤two l j∧two l j≤65535:=by
 have:=Hi5 l j;have:=Hi5 l (j+1)
 unfold two;omega
theorem Es2 (l:List UInt8):InS (Z7 l).1:=by
 unfold Z7
 split
 ·exact ⟨by simp,by simp,by simp,by simp⟩
 ·split
  ·exact ⟨Es1 _ _,Es1 _ _,Es1 _ _,Es1 _ _⟩
  ·exact ⟨by simp,by simp,by simp,by simp⟩
theorem Eu9 {p:ProcS} (h:okS p=true):Bw4 p.fds:=fun f hf=>by
 unfold okS at h
 simp only [Bool.and_eq_true,Bool.not_eq_true',List.any_eq_false] at h
 have:=h.2.2.1 f hf
 simp at this;omega
abbrev Bj9 (p:ProcS) (i:Int):ProcS:=⟨p.state,i+1,p.group,p.code,0,p.mask,p.ignored,p.caught,p.fds,p.len⟩
theorem G39 {p:ProcS} (h:okS p=true) (h1:p.state=1) {i:Int} (hi:0≤i∧i<8):okS (Bj9 p i)=true:=by
 unfold okS at h ⊢
 rw [if_neg (by rw [h1];decide)] at h
 rw [if_neg (show ¬ (Bj9 p i).state=2 by show ¬ p.state=2;rw [h1];decide)]
 simp only [Bool.and_eq_true,Bool.not_eq_true',Bool.or_eq_false_iff,decide_eq_false_iff_not] at h ⊢
 obtain ⟨⟨⟨⟨⟨⟨⟨⟨a1,a2⟩,a3⟩,a4⟩,a5⟩,a6⟩,a7⟩,a8⟩,⟨⟨⟨⟨b1,b2⟩,b3⟩,b4⟩,b5⟩,d1,d2⟩:=h
 exact ⟨⟨⟨⟨⟨⟨⟨⟨a1,a2⟩,by show ¬ i+1<0;omega⟩,by show ¬ i+1>8;omega⟩,a5⟩,a6⟩,a7⟩,a8⟩,⟨⟨⟨⟨by simp [Ij7],b2⟩,b3⟩,b4⟩,b5⟩,d1,d2⟩
def Dt5 (X:CX) (i:Int):List Value × CX :=
 if (P1 X i).2≠0 then (L6 0 (P1 X i).2 false,X)
 else if Ai5 X 8 0<0 then (L6 0 111 false,X)
 else if (S6 X (P1 X i).1).1≠0 then (L6 0 (S6 X (P1 X i).1).1 false,X)
 else (L6 (Ai5 X 8 0) 0 false,B61 (S6 X (P1 X i).1).2 (Ai5 X 8 0) (Bj9 (P1 X i).1 i))
theorem Ep9 {X:CX}:∀ (m:Nat) (i:Int),0≤i→i+m=8→Ai5 X m i=-1∨(0≤Ai5 X m i∧Ai5 X m i<8∧(vS X (Ai5 X m i)).2=0)
 | 0,i,_,_=>.inl rfl
 | m+1,i,h0,hi=>by
  rw [show Ai5 X (m+1) i=if (vS X i).2=0 then i else Ai5 X m (i+1) from rfl]
  split
  ·rename_i h;exact .inr ⟨h0,by omega,h⟩
  ·exact Ep9 m (i+1) (by omega) (by omega)
theorem Br4 {nc:Nat} {X:CX} (c:Clean nc X) {i:Int} (hi:0≤i∧i<8) (h:(P1 X i).2=0):P1 X i=((vS X i).1,0)∧(vS X i).1.state=1∧okS (vS X i).1=true∧(vS X i).2=1:=by
 unfold P1 at h ⊢
 split
 ·rename_i h1
  refine ⟨rfl,h1.2,?_,h1.1⟩
  rcases Io3 c hi with ⟨h2,_⟩|⟨_,h2⟩
  ·rw [h1.1] at h2;cases h2
  ·exact h2
 ·rename_i h1;rw [if_neg h1] at h;cases h
theorem Gp2 {X:CX} {p:ProcS} (h:(S6 X p).1≠0):(S6 X p).2=X:=by
 unfold S6 at h ⊢
 split
 ·rename_i h1;rw [if_pos h1] at h;exact absurd rfl h
 ·rfl
theorem Ej1 {nc:Nat} {X:CX} (c:Clean nc X) {p:ProcS} (hf:Bw4 p.fds) (h:(S6 X p).1=0):Clean nc (S6 X p).2∧(∀ i:Int,0≤i∧i<8→vS (S6 X p).2 i=vS X i) ∧
  (∀ i:Int,0≤i∧i<12→vF (S6 X p).2 i=if (Ak4 p).getD i.toNat 0≠0 then (Dp5 (vF X i).1 ((Ak4 p).getD i.toNat 0),1) else vF X i)∧(∀ i:Int,0≤i∧i<3+nc→vP (S6 X p).2 i=vP X i):=by
 unfold S6 at h ⊢
 split
 ·rename_i he
  obtain ⟨a1,a2,a3,a4⟩:=Dn7 (Ey4 hf) 12 0 X c (G47 hf he) (by omega) (by omega)
  refine ⟨a1,a2,fun i hi=>?_,a4⟩
  rw [a3 i hi]
  by_cases h2:(Ak4 p).getD i.toNat 0≠0
  ·rw [if_pos h2,if_pos ⟨hi.1,h2⟩]
  ·rw [if_neg h2,if_neg (fun h3=>h2 h3.2)]
 ·rename_i he;rw [if_neg he] at h;exact absurd h he
theorem If5 (b k:Nat) (F:Fr) (X:CX) (ok:FrOk F) {nc:Nat} (c:Clean nc X) (i:Int) (hi:0≤i∧i<8):Ct A8 B68 [P0 b,int i] [cmC b k F X] fun v own=>v=.agg ⟨(Dt5 X i).1⟩∧own [cmC b k F (Dt5 X i).2]:=by
 have e1:IntKind.wrap .i64 (i+1)=i+1:=by rw [A7];omega
 unfold Dt5
 refine Ct.of Hf7 rfl fun h r=>Tr.eq (Hg3 ..) ?_;refine Je ?_
 refine Yn fun b0 h=>?_
 refine Yc (Gj9 b k F X ok c i hi) ?_;rintro _ h ⟨rfl,o⟩<;>refine Jh o ?_
 (refine Jc ?_;unhygienic intros)
 refine Yn fun b1 h=>?_
 (refine Ja ?_;unhygienic intros)
 by_cases h0:(P1 X i).2=0
 case neg =>
  rw [if_pos h0]
  refine Yt (by simpa using h0) ?_
  refine Yc (Eu4 (P1 X i).2) ?_;rintro _ h ⟨rfl,o⟩<;>(refine Jf o ?_;unhygienic intros)
  refine Ys fun o=>?_
  exact ⟨rfl,o.sub⟩
 rw [if_neg (by simpa using h0)]
 refine Yf (by simpa using h0) ?_
 obtain ⟨s1,s2,s3,s4⟩:=Br4 c hi h0
 refine Yc (If3 b k F X ok c) ?_;rintro _ h ⟨rfl,o⟩<;>refine Jh o ?_
 (refine Ja ?_;unhygienic intros)
 by_cases h1:Ai5 X 8 0<0
 ·rw [if_pos h1]
  refine Yt (by simpa using h1) ?_
  refine Yc (Eu4 111) ?_;rintro _ h ⟨rfl,o⟩<;>(refine Jf o ?_;unhygienic intros)
  refine Ys fun o=>?_
  exact ⟨rfl,o.sub⟩
 rw [if_neg h1]
 refine Yf (by simpa using h1) ?_
 have hf:Bw4 (P1 X i).1.fds:=by rw [s1];exact Eu9 s3
 have hok:okS (Bj9 (P1 X i).1 i)=true:=by rw [s1];exact G39 s3 s2 hi
 have hin:InS (Bj9 (P1 X i).1 i):=by
  have:=Es2 (rd X ⟨1,i⟩)
  rw [s1]
  exact ⟨by simp,this.b,this.c,this.d⟩
 generalize (P1 X i).1=p at hf hok hin
 (refine Ja ?_;unhygienic intros)
 refine Yc (Hw3 b k F X ok c p hf) ?_;rintro _ h ⟨rfl,o⟩<;>refine Jh o ?_
 (refine Ja ?_;unhygienic intros)
 by_cases h2:(S6 X p).1=0
 case neg =>
  rw [if_pos h2]
  rw [Gp2 h2] at o ⊢
  refine Yt (by simpa using h2) ?_
  refine Yc (Eu4 (S6 X p).1) ?_;rintro _ h ⟨rfl,o⟩<;>(refine Jf o ?_;unhygienic intros)
  refine Ys fun o=>?_
  exact ⟨rfl,o.sub⟩
 rw [if_neg (by simpa using h2)]
 refine Yf (by simpa using h2) ?_
 have cs:=(Ej1 c hf h2).1
 have hfr:0≤Ai5 X 8 0∧Ai5 X 8 0<8:=by
  rcases Ep9 (X:=X) 8 0 (by omega) (by omega) with h|h<;>omega
 obtain ⟨w1,_⟩:=B29 cs hfr hok hin
 (refine Ja ?_;unhygienic intros)
 rw [e1,show ((D3 p).set 1 (int (i+1))).set 4 (int 0)=D3 (Bj9 p i) from rfl]
 generalize Bj9 p i=q at hok hin w1
 (refine Ja ?_;unhygienic intros)
 refine Yc (Ex8 b k F (S6 X p).2 ok (Ai5 X 8 0) q) ?_;rintro _ h ⟨rfl,o⟩<;>refine Jh o ?_
 rw [w1]
 dsimp only
 (refine Ja ?_;unhygienic intros)
 refine Yc (Ie5 true (Ai5 X 8 0)) ?_;rintro _ h ⟨rfl,o⟩<;>refine Jh o ?_
 rw [if_pos trivial]
 (refine Ja ?_;unhygienic intros)
 refine Ys fun o=>?_
 exact ⟨rfl,o.sub⟩
theorem Ep0 (j:Int) (p:ProcS):(int j::D3 p).length=17:=by simp [Bu3 p,p.len]
instance {j:Int} {p:ProcS}:LenC (int j::D3 p) 17:=⟨Ep0 j p⟩
instance {j:Int} {p:ProcS}:PartC (int j::D3 p) 0 17 (int j::D3 p):=⟨Bt8 (Ep0 j p)⟩
instance {j:Int} {p:ProcS} {cs:List Value} [k:LenC cs 17]:SetsC cs 0 (int j::D3 p) (int j::D3 p):=⟨Bf2 k.ok (Ep0 j p) (by simp [Value.oneCell])⟩
def p0:ProcS:=⟨1,0,0,0,0,0,0,0,[1,0,0,0,0,0,0,0],rfl⟩
def f0:FileS:=⟨3,0,1,0⟩
def Ax3:List UInt8:=J5 (J5 Ab4 0 (Ei2 p0)) 192 (Ah1 f0)
theorem By5:Ax3.length=492:=by kernel_rfl
theorem Ei8:(Ei2 p0).length=24:=by kernel_rfl
theorem Gq5 (l b:List UInt8) (a:Nat):(A0 l).take a++A0 b++(A0 l).drop (a+(A0 b).length)=A0 (J5 l a b):=by
 rw [S8]
 simp [J5,A0,List.map_take,List.map_drop]
theorem Ic4 {b:List UInt8} (h:0<b.length):A0 b≠[]:=by
 intro e
 have e2:=congrArg List.length e
 rw [S8] at e2
 have e3:b.length=0:=e2
 omega
theorem Gz7:Ct A8 Bb4 [] [] fun v own=>∃ a,v=.slice a 492 492∧own [slC false A3 1 a 492 492 (A0 Ax3)]:=by
 refine Ct.of Gt1 rfl fun h r=>Tr.eq (Gq7 ..) ?_;refine Je ?_
 refine Yc (Go3) ?_;rintro _ h ⟨rfl,o⟩<;>refine Jh o ?_
 (refine Jc ?_;unhygienic intros)
 rw [Ak3,Aa7]
 refine Tr.ck (by simp [A9]) ?_
 refine Yn fun b0 h=>?_
 refine Dk0 (n:=492) 0 rfl (by rw [S8];exact Aa7) ?_
 refine Je ?_
 refine Yn fun b1 h=>?_
 (refine Ja ?_;unhygienic intros)
 rw [show ([int 1,int 0,int 0,int 0,int 0,int 0,int 0,int 0,int 0,int 0,int 0,int 0,int 0,int 0,int 0,int 0]:List Value).set 8 (int 1)=D3 p0 from rfl]
 (refine Ja ?_;unhygienic intros)
 refine Yc (Hx7 p0) ?_;rintro _ h ⟨rfl,o⟩<;>refine Jh o ?_
 (refine Ja ?_;unhygienic intros)
 rw [show List.take (min (bs (Ei2 p0)).size 492) (bs (Ei2 p0)).data.toList=Ei2 p0 by kernel_rfl]
 rw [show B0 (J4 b0)=(B0 (J4 b0)).add 0 from rfl]
 refine Tr.xPAggS (cs':=A0 (J5 Ab4 0 (Ei2 p0))) ⟨Ic4 (by rw [Ei8];omega),by rw [S8,S8,Ei8,Aa7];omega,Ae6 _,Gq5 _ _ 0⟩ fun h=>?_
 (refine Ja ?_;unhygienic intros)
 refine Yc (Hz6 f0) ?_;rintro _ h ⟨rfl,o⟩<;>refine Jh o ?_
 (refine Ja ?_;unhygienic intros)
 rw [show List.take (min (bs (Ah1 f0)).size (492-192)) (bs (Ah1 f0)).data.toList=Ah1 f0 by kernel_rfl]
 rw [Gg8 (by omega),En4]
 refine Tr.xPAggS (cs':=A0 Ax3) ⟨Ic4 (by rw [Dr1];omega),by rw [S8,S8,Ad3 (by rw [Ei8,Aa7];omega),Dr1,Aa7];omega,Ae6 _,Gq5 _ _ 192⟩ fun h=>?_
 refine Ys fun o=>?_
 exact ⟨_,rfl,o.sub⟩
theorem Hq8 {S:KS} (kS:Like S) {s:Nat} {env:Int} (e:EnvP s env) {j:Nat} {cap:Int} {lo n:Nat} (hc:Ib6[j]?=some cap) (hr:(rgP s)[j]?=some (lo,n)) {b:List UInt8} (hb:b.length≤n) :
  Y4 S env ⟨2,cap,0,0,0,0,b⟩=((0,0,[]),Bn6 S (J5 S.mem lo b)):=by
 have F:=G43 kS e
 have hroom:lo+n≤S.mem.length:=Ec1 kS e.hs env j lo n hr
 have hp:=F.pl j cap lo n hc hr 0 b.length 2 (.inr rfl) (by omega)
 have hs:A98 S.mem ((lo+0:Nat):Int) b=some (J5 S.mem lo b):=by
  unfold A98
  rw [if_pos (by omega),Int.toNat_natCast,Nat.add_zero];rfl
 have ew:Aj0 S.tabs S.regs S.mem env cap 0 b=(0,J5 S.mem lo b):=by
  unfold Aj0
  rw [show O5 S.tabs S.regs env cap 2 0 (b.length:Int)=(((lo+0:Nat):Int),0) from hp]
  rw [if_neg (by simp),hs]
 unfold Y4
 rw [if_neg (show ¬ (env<0∨env≥(S.envs.length:Int)) from F.env)]
 unfold kDo
 rw [if_neg (show ¬ ((2:Int)=1) by decide),if_pos rfl,ew]
def q1:PipeS:=⟨0,0,1,1,List.replicate 32 0,rfl⟩
def S1:KS:=Bn6 S0 (J5 S0.mem 0 Ax3)
def S2:KS:=Bn6 S1 (J5 S1.mem 512 (I0 q1))
def S3:KS:=Bn6 S2 (J5 S2.mem 1856 (I0 q1))
theorem Av8:(I0 q1).length=40:=Ay5 q1.len
theorem Gc4:Like S1:=D72 Dv7 (by rw [Ad3 (by rw [By5,Dv7.mem];omega)];exact Dv7.mem)
theorem E81:Like S2:=D72 Gc4 (by rw [Ad3 (by rw [Av8,Gc4.mem];omega)];exact Gc4.mem)
theorem Ib5:Like S3:=D72 E81 (by rw [Ad3 (by rw [Av8,E81.mem];omega)];exact E81.mem)
theorem Iq0:Y4 S0 0 ⟨2,256,0,0,0,0,Ax3⟩=((0,0,[]),S1):=Hq8 Dv7 G79 (j:=0) rfl rfl (by rw [By5];omega)
theorem Ip1:Y4 S1 0 ⟨2,257,0,0,0,0,I0 q1⟩=((0,0,[]),S2):=Hq8 Gc4 G79 (j:=1) rfl rfl (by rw [Av8];omega)
theorem Iq1:Y4 S2 0 ⟨2,258,0,0,0,0,I0 q1⟩=((0,0,[]),S3):=Hq8 E81 G79 (j:=2) rfl rfl (by rw [Av8];omega)
abbrev F1:Fr:=frP S3 0 0
def X1:CX:=⟨By4 S3.mem (rgP 0),[]⟩
theorem B71:FrOk F1:=G43 Ib5 G79
theorem E28:Clean 3 X1:=by
 refine ⟨by kernel_rfl,by omega,rfl,by kernel_rfl,fun j h0 h1=>?_,fun r h1 h2 h3 h4=>?_⟩
 ·have:j=1∨j=2:=by omega
  rcases this with rfl|rfl
  ·clear h0 h1;show (_:Nat)=_;kernel_rfl
  ·clear h0 h1;show (_:Nat)=_;kernel_rfl
 ·have all:((List.range 8).all (fun i=>decide (stR 1 (rd X1 ⟨1,(i:Int)⟩)≠2)) && ((List.range 12).all (fun i=>decide (stR 2 (rd X1 ⟨2,(i:Int)⟩)≠2)) && ((List.range 6).all (fun i=>decide (stR 3 (rd X1 ⟨3,(i:Int)⟩)≠2)) && (decide (stR 4 (rd X1 ⟨4,0⟩)≠2) && decide (stR 5 (rd X1 ⟨5,0⟩)≠2)))))=true:=by kernel_rfl
  simp only [Bool.and_eq_true,List.all_eq_true,List.mem_range,decide_eq_true_eq] at all
  obtain ⟨a1,a2,a3,a4,a5⟩:=all
  obtain ⟨k,i⟩:=r
  simp only at h1 h2 h3 h4 ⊢
  obtain ⟨n,rfl⟩:∃ n:Nat,i=n:=⟨i.toNat,by omega⟩
  have hk:k=1∨k=2∨k=3∨k=4∨k=5:=by omega
  rcases hk with rfl|rfl|rfl|rfl|rfl<;>simp [V2] at h4
  ·exact a1 n (by omega)
  ·exact a2 n (by omega)
  ·exact a3 n (by omega)
  ·obtain rfl:n=0:=by omega
   exact a4
  ·obtain rfl:n=0:=by omega
   exact a5
theorem Hn1 (k w m c:Nat) (b1:Nat) (cs:List Value) (hcs:cs.length=7) (K:RKS) (hK:RKOk K) (hB:0<K.B.envs.length) :
  CtJ G5 Ad1 Be9 [(6,P0 k),(7,P0 c),(8,P0 w),(9,P0 m),(10,P0 b1),(11,.string (bs (I0 q1))),(12,int 1)] [pt b1 (.cells Aw2 false cs),D8 k S1,rkC w K] fun v own =>
   v=.tuple ⟨[P0 k,P0 c,P0 w,P0 m]⟩∧∃ K',own [D8 k S3,rkC w K']:=by
 have hset:∀ xs:List Value,xs.length=7→∀ vs:List Value,vs.length=7→vs.all Value.oneCell=true→Ea8 xs 0 vs=some vs:=fun xs h vs h1 h2=>Bf2 h h1 h2
 refine CtJ.of B01 fun h r=>Tr.eq (B11 ..) ?_;refine Je ?_
 refine Yt rfl ?_
 rw [Ak3,Av8]
 refine Tr.ck (by simp [A9]) ?_
 refine Yn fun b2 h=>?_
 refine Dk0 (n:=40) 0 rfl (by rw [S8];exact Av8) ?_
 refine Je ?_
 rw [show IntKind.wrap .i64 (256+1)=257 by decide]
 refine Gs (fun h=>?_) (by exact hset cs hcs _ rfl rfl)
 (refine Ja ?_;unhygienic intros)
 have J1:=D09 k S1 0 Gc4.ok (by omega) 0 ⟨2,257,0,0,0,0,I0 q1⟩ (some (J4 b2)) 40 false (show ((2:Int)≠5) by decide)
 rw [Ip1] at J1
 simp only [Bk3,Av8] at J1
 refine Br6 J1 [2,0] rfl ?_
 rintro _ h ⟨y,z,rfl,o⟩
 refine (?_:Tr _ _ _ _) o
 refine Je ?_
 (refine Ja ?_;unhygienic intros)
 have R1:=Et3 w K hK 0 hB ⟨2,257,0,0,0,0,I0 q1⟩ rfl (by rw [Av8];simp [A9]) (slC false A3 1 (some (J4 b2)) (I0 q1).length 40 (A0 (I0 q1))) (some (J4 b2)) 40 false
 simp only [Bk3,Av8] at R1
 refine Br6 R1 [4,2] rfl ?_
 rintro _ h ⟨rfl,o⟩
 rw [show ({ K with R:=(Ag4 K.R ((0:Nat):Int) 257 0 (I0 q1)).2 }:RKS)=wrR K 257 (I0 q1) from rfl] at o
 have hK1:=Gb5 hK 257 (I0 q1)
 refine (?_:Tr _ _ _ _) o
 refine Je ?_
 (refine Ja ?_;unhygienic intros)
 refine Tr.jmp B01 (Tr.eq (B11 ..) ?_);(try simp only[Nr,Nl,wl,Nat.reduceAdd,Nat.reduceMul,Int.reduceToNat])
 refine Yt rfl ?_
 rw [Ak3,Av8]
 refine Tr.ck (by simp [A9]) ?_
 refine Yn fun b3 h=>?_
 refine Dk0 (n:=40) 0 rfl (by rw [S8];exact Av8) ?_
 refine Je ?_
 rw [show IntKind.wrap .i64 (256+2)=258 by decide]
 refine Gs (fun h=>?_) (by exact hset _ rfl _ rfl rfl)
 (refine Ja ?_;unhygienic intros)
 have J2:=D09 k S2 0 E81.ok (by omega) 0 ⟨2,258,0,0,0,0,I0 q1⟩ (some (J4 b3)) 40 false (show ((2:Int)≠5) by decide)
 rw [Iq1] at J2
 simp only [Bk3,Av8] at J2
 refine Br6 J2 [4,0] rfl ?_
 rintro _ h ⟨y2,z2,rfl,o⟩
 refine (?_:Tr _ _ _ _) o
 refine Je ?_
 (refine Ja ?_;unhygienic intros)
 have R2:=Et3 w (wrR K 257 (I0 q1)) hK1 0 hB ⟨2,258,0,0,0,0,I0 q1⟩ rfl (by rw [Av8];simp [A9]) (slC false A3 1 (some (J4 b3)) (I0 q1).length 40 (A0 (I0 q1))) (some (J4 b3)) 40 false
 simp only [Bk3,Av8] at R2
 refine Br6 R2 [3,2] rfl ?_
 rintro _ h ⟨rfl,o⟩
 rw [show ({ wrR K 257 (I0 q1) with R:=(Ag4 (wrR K 257 (I0 q1)).R ((0:Nat):Int) 258 0 (I0 q1)).2 }:RKS)=wrR (wrR K 257 (I0 q1)) 258 (I0 q1) from rfl] at o
 refine (?_:Tr _ _ _ _) o
 refine Je ?_
 (refine Ja ?_;unhygienic intros)
 refine Tr.jmp B01 (Tr.eq (B11 ..) ?_);(try simp only[Nr,Nl,wl,Nat.reduceAdd,Nat.reduceMul,Int.reduceToNat])
 refine Yf rfl ?_
 refine Ys fun o=>?_
 exact ⟨rfl,_,o.fin [3,0] 5 rfl rfl⟩
theorem Ic0:RKOk K0:=Gb5 D32.1 256 Ab4
theorem Hj8:0<K0.B.envs.length:=by show (0:Nat)<(Db4 Ag0).B.envs.length;rw [D32.2,Bq5];simp
theorem Hh5 (a:Option Addr):Ct A8 Ad1 [.slice a 492 492] [slC false A3 1 a 492 492 (A0 Ax3)] fun v own=>∃ k c w m K',v=.tuple ⟨[P0 k,P0 c,P0 w,P0 m]⟩∧own [cmC c k F1 X1,rkC w K',rcC m w 0 (B10 K0 0) []]:=by
 refine Ct.of B01 rfl fun h r=>Tr.eq (Gy7 ..) ?_;refine Je ?_
 refine Yc (H80) ?_;rintro _ h ⟨A,rfl,o⟩<;>refine Jh o ?_
 (refine Ja ?_;unhygienic intros)
 refine Yc (H73 A) ?_
 rintro _ h ⟨k,c,w,m,rfl,o⟩
 refine (?_:Tr _ _ _ _) o
 refine Je ?_
 (refine Jb ?_;unhygienic intros)
 refine Yb (Yf rfl ?_)
 refine Ys fun o=>(?_:Tr _ _ _ _) o;refine Je ?_
 refine Yf rfl ?_
 refine Ii5 c k F0 X0 fun f=>?_
 rw [show F0.at X0.m=S0 from Fr.at_cut Ib3 (Ec1 Dv7 (by omega) 0)]
 refine (?_:Tr (D8 k S0::V8 c k 0 Ib6 []::_) _ _ _)
 refine Yn fun b1 h=>?_
 (refine Ja ?_;unhygienic intros)
 refine Yc (Gn8 q1) ?_;rintro _ h ⟨rfl,o⟩<;>refine Jh o ?_
 (refine Ja ?_;unhygienic intros)
 have J1:=D09 k S0 0 Dv7.ok (by omega) 0 ⟨2,256,0,0,0,0,Ax3⟩ a 492 false (show ((2:Int)≠5) by decide)
 rw [Iq0] at J1
 simp only [Bk3,By5] at J1
 refine Br6 J1 [1,4] rfl ?_
 rintro _ h ⟨y,z,rfl,o⟩
 refine (?_:Tr _ _ _ _) o
 refine Je ?_
 (refine Ja ?_;unhygienic intros)
 have R1:=Et3 w K0 Ic0 0 Hj8 ⟨2,256,0,0,0,0,Ax3⟩ rfl (by rw [By5];simp [A9]) (slC false A3 1 a Ax3.length 492 (A0 Ax3)) a 492 false
 simp only [Bk3,By5] at R1
 refine Br6 R1 [5,2] rfl ?_
 rintro _ h ⟨rfl,o⟩
 rw [show ({ K0 with R:=(Ag4 K0.R ((0:Nat):Int) 256 0 Ax3).2 }:RKS)=wrR K0 256 Ax3 from rfl] at o
 refine (?_:Tr _ _ _ _) o
 refine Je ?_
 (refine Ja ?_;unhygienic intros)
 refine Es3 (Hn1 k w m c b1 _ rfl (wrR K0 256 Ax3) (Gb5 Ic0 256 Ax3) Hj8) [4,3,0] rfl ?_
 rintro _ h ⟨rfl,K',o⟩
 refine ⟨k,c,w,m,K',rfl,?_⟩
 exact Own.cmTake c k F1 [] B71 (Ec1 Ib5 (by omega) 0) (o.fin [0,3,0,2] 2 rfl rfl)
def X2:CX:=(Dt5 X1 0).2
structure Inv (n:Int) (X:CX):Prop where
 c:Clean 3 X
 h:1≤n∧n≤8
 on:∀ j:Int,0≤j→j<n→(vS X j).2=1∧(vS X j).1.state=1∧(vS X j).1.fds=p0.fds
 off:∀ j:Int,n≤j→j<8→(vS X j).2=0
 fl:(vF X 0).2=1∧(vF X 0).1.refs=n
section
variable {nc:Nat} {X:CX} (c:Clean nc X)
include c
abbrev A53 (X:CX) (i:Int) (p:PipeS):CX:=Bq7 X ⟨3,i⟩ (I0 p)
abbrev Gh7 (X:CX) (i:Int):CX:=Bq7 X ⟨2,i⟩ (List.replicate 8 0)
abbrev Gh4 (X:CX) (i:Int):CX:=Bq7 X ⟨3,i⟩ (List.replicate 40 0)
theorem A55 {i:Int} (h:0≤i∧i<3+nc) {p:PipeS} (ok:okP p=true) :
  A67 X i p=(true,A53 X i p)∧Clean nc (A53 X i p)∧(∀ j:Int,0≤j∧j<8→vS (A53 X i p) j=vS X j)∧(∀ j:Int,0≤j∧j<12→vF (A53 X i p) j=vF X j)∧(∀ j:Int,0≤j∧j<3+nc→vP (A53 X i p) j=if j=i then (p,1) else vP X j):=by
 have hl:(I0 p).length=Ac6 (3:Int):=by rw [Ay5 p.len];rfl
 refine ⟨by unfold A67;rw [ok];exact Bu0 c (Bf5 h) _,Da2 c (Bf5 h) hl (by show (P7 (I0 p)).2≠2;rw [G22 ok];simp),fun j hj=>?_,fun j hj=>?_,fun j hj=>?_⟩
 ·show Z7 (rd _ _)=_
  rw [Aj2 c (Bf5 h) (Dk9 hj) hl,if_neg (by simp)]
 ·show Z3 (rd _ _)=_
  rw [Aj2 c (Bf5 h) (Bl0 hj) hl,if_neg (by simp)]
 ·show P7 (rd _ _)=_
  rw [Aj2 c (Bf5 h) (Bf5 hj) hl]
  by_cases e:j=i
  ·rw [if_pos (by rw [e]),if_pos e];exact G22 ok
  ·rw [if_neg (by simp [e]),if_neg e]
theorem Gh5 {i:Int} (h:0≤i∧i<12) :
  Ib9 X ⟨2,i⟩=(true,Gh7 X i)∧Clean nc (Gh7 X i)∧(∀ j:Int,0≤j∧j<8→vS (Gh7 X i) j=vS X j)∧(∀ j:Int,0≤j∧j<12→vF (Gh7 X i) j=if j=i then (.zero,0) else vF X j)∧(∀ j:Int,0≤j∧j<3+nc→vP (Gh7 X i) j=vP X j):=by
 have hl:(List.replicate 8 (0:UInt8)).length=Ac6 (2:Int):=rfl
 refine ⟨Bu0 c (Bl0 h) _,Da2 c (Bl0 h) hl (by show (Z3 (List.replicate 8 0)).2≠2;rw [show (Z3 (List.replicate 8 0))=(.zero,0) from rfl];simp),fun j hj=>?_,fun j hj=>?_,fun j hj=>?_⟩
 ·show Z7 (rd _ _)=_
  rw [Aj2 c (Bl0 h) (Dk9 hj) hl,if_neg (by simp)]
 ·show Z3 (rd _ _)=_
  rw [Aj2 c (Bl0 h) (Bl0 hj) hl]
  by_cases e:j=i
  ·rw [if_pos (by rw [e]),if_pos e];rfl
  ·rw [if_neg (by simp [e]),if_neg e]
 ·show P7 (rd _ _)=_
  rw [Aj2 c (Bl0 h) (Bf5 hj) hl,if_neg (by simp)]
theorem Gi4 {i:Int} (h:0≤i∧i<3+nc) :
  Ib9 X ⟨3,i⟩=(true,Gh4 X i)∧Clean nc (Gh4 X i)∧(∀ j:Int,0≤j∧j<8→vS (Gh4 X i) j=vS X j)∧(∀ j:Int,0≤j∧j<12→vF (Gh4 X i) j=vF X j)∧(∀ j:Int,0≤j∧j<3+nc→vP (Gh4 X i) j=if j=i then (.zero,0) else vP X j):=by
 have hl:(List.replicate 40 (0:UInt8)).length=Ac6 (3:Int):=rfl
 refine ⟨Bu0 c (Bf5 h) _,Da2 c (Bf5 h) hl (by show (P7 (List.replicate 40 0)).2≠2;rw [show (P7 (List.replicate 40 0))=(.zero,0) from rfl];simp),fun j hj=>?_,fun j hj=>?_,fun j hj=>?_⟩
 ·show Z7 (rd _ _)=_
  rw [Aj2 c (Bf5 h) (Dk9 hj) hl,if_neg (by simp)]
 ·show Z3 (rd _ _)=_
  rw [Aj2 c (Bf5 h) (Bl0 hj) hl,if_neg (by simp)]
 ·show P7 (rd _ _)=_
  rw [Aj2 c (Bf5 h) (Bf5 hj) hl]
  by_cases e:j=i
  ·rw [if_pos (by rw [e]),if_pos e];rfl
  ·rw [if_neg (by simp [e]),if_neg e]
theorem Ic5 {i:Int} (h:0≤i∧i<3+nc):((vP X i).2=0∧(vP X i).1=.zero)∨((vP X i).2=1∧okP (vP X i).1=true):=by
 have:=c.ok ⟨3,i⟩ (by simp) (by simp) h.1 h.2
 have hk:(vP X i).2≠2:=this
 unfold vP P7 at hk ⊢
 split
 ·exact .inl ⟨rfl,rfl⟩
 ·split
  ·rename_i h2
   unfold isP at h2
   simp only [Bool.and_eq_true] at h2
   exact .inr ⟨rfl,h2.1⟩
  ·rename_i h1 h2;simp [h1,h2] at hk
end
abbrev Ij4 (q:PipeS):PipeS:=⟨q.head,q.count,max (q.readers-1) 0,q.writers,q.data,q.len⟩
abbrev Ip8 (q:PipeS):PipeS:=⟨q.head,q.count,q.readers,max (q.writers-1) 0,q.data,q.len⟩
def Ip3 (kind:Int) (q:PipeS):PipeS:=if kind=1 then Ij4 q else Ip8 q
def SlOk (L:List (Int × ProcS)):Prop:=∀ s ∈ L,(0≤s.1∧s.1<8)∧okS s.2=true∧InS s.2
theorem Dl3 (e:Int):Ct A8 A92 [int e] [] fun v own=>v=.agg ⟨L6 0 e false⟩∧own []:=by
 refine Ct.of Hm0 rfl fun h r=>Tr.eq (Ht4 ..) ?_;refine Je ?_
 (refine Ja ?_;unhygienic intros)
 refine Ys fun o=>?_
 exact ⟨rfl,o.tail⟩
theorem H42 (ok:Bool) (n:Int):Ct A8 Df1 [.bool ok,int n] [] fun v own=>v=.agg ⟨if ok then L6 n 0 false else L6 0 105 false⟩∧own []:=by
 refine Ct.of Hp1 rfl fun h r=>Tr.eq (Hk6 ..) ?_;refine Je ?_
 refine Yn fun b1 h=>?_
 cases ok
 ·refine Yt rfl ?_
  refine Yc (Dl3 105) ?_;rintro _ h ⟨rfl,o⟩<;>(refine Jf o ?_;unhygienic intros)
  refine Ys fun o=>?_
  exact ⟨rfl,o.tail⟩
 ·refine Yf rfl ?_
  (refine Ja ?_;unhygienic intros)
  refine Ys fun o=>?_
  exact ⟨rfl,o.tail⟩
theorem En5 (p:ProcS) {j:Nat} (h:j<8):(D3 p)[8+j]?=some (int (p.fds.getD j 0)):=by
 have:=Gi5 (l:=p.fds) (i:=j) (by rw [p.len];exact h)
 rw [show 8+j=j+8 by omega]
 exact this
abbrev setFd (p:ProcS) (j:Nat) (f:Int):ProcS:=⟨p.state,p.parent,p.group,p.code,p.pending,p.mask,p.ignored,p.caught,p.fds.set j f,by rw [List.length_set];exact p.len⟩
theorem Go5 (p:ProcS) {j:Nat} (h:j<8) (f:Int):Dd6 (D3 p) (8+j) (int f)=some (D3 (setFd p j f)):=by
 have e:Nat.blt (8+j) (D3 p).length=true:=by rw [Bu3 p];exact Nat.ble_eq_true_of_le (by have:=p.len;omega)
 unfold Dd6
 rw [e,show 8+j=j+8 by omega]
 show some ((D3 p).set (j+8) (int f))=_
 simp only [D3,List.set_cons_succ,List.map_set]
def Am0 (p:ProcS) (fd:Int):Bool:=decide (0≤fd∧fd<8) && decide (p.fds.getD fd.toNat 0>0)
theorem H37 (p:ProcS) (fd:Int):Ct A8 B67 [.agg ⟨D3 p⟩,int fd] [] fun v own=>v=.bool (Am0 p fd)∧own []:=by
 refine Ct.of Hc0 rfl fun h r=>Tr.eq (Hd6 ..) ?_;refine Je ?_
 refine Yn fun b1 h=>?_
 by_cases h0:0≤fd
 case neg =>
  refine Yb (Yf (by simpa using h0) ?_)
  refine Ys fun o=>(?_:Tr _ _ _ _) o;refine Je ?_
  refine Yb (Yf rfl ?_)
  refine Ys fun o=>(?_:Tr _ _ _ _) o;refine Je ?_
  refine Ys fun o=>?_
  refine ⟨?_,o.tail⟩
  rw [show Am0 p fd=false by simp [Am0];omega]
 refine Yb (Yt (by simpa using h0) ?_)
 refine Ys fun o=>(?_:Tr _ _ _ _) o;refine Je ?_
 by_cases h1:fd<8
 case neg =>
  refine Yb (Yf (by simpa using h1) ?_)
  refine Ys fun o=>(?_:Tr _ _ _ _) o;refine Je ?_
  refine Ys fun o=>?_
  refine ⟨?_,o.tail⟩
  rw [show Am0 p fd=false by simp [Am0];omega]
 have hg:=En5 p (j:=fd.toNat) (by omega)
 refine Yb (Yt (by simpa using h1) ?_)
 (refine Ja ?_;unhygienic intros)
 refine Ys fun o=>(?_:Tr _ _ _ _) o;refine Je ?_
 refine Ys fun o=>?_
 refine ⟨?_,o.tail⟩
 rw [show Am0 p fd=decide (p.fds.getD fd.toNat 0>0) by simp [Am0,h0,h1]]
theorem E71 {p:ProcS} (h:okS p=true) (h1:p.state=1) (j:Nat) {f:Int} (hf:0≤f∧f≤12):okS (setFd p j f)=true:=by
 have hd:=Eu9 h
 have hd2:Bw4 (setFd p j f).fds:=fun x hx=>by
  rcases List.mem_or_eq_of_mem_set hx with h2|rfl
  ·exact hd x h2
  ·exact hf
 unfold okS at h ⊢
 rw [if_neg (by rw [h1];decide)] at h
 rw [if_neg (show ¬ (setFd p j f).state=2 by show ¬ p.state=2;rw [h1];decide)]
 simp only [Bool.and_eq_true] at h ⊢
 refine ⟨h.1,h.2.1,?_,h.2.2.2⟩
 rw [Bool.not_eq_true',List.any_eq_false]
 intro x hx
 have:=hd2 x hx
 simp;omega
def Hs7 (X:CX) (i fd f:Int):List Value × CX :=
 if (P1 X i).2≠0 then (L6 0 (P1 X i).2 false,X) else (L6 fd 0 false,B61 X i (setFd (vS X i).1 fd.toNat (f+1)))
def M7 (q:Int→Bool):Nat→Int→Nat→List Int
 | 0,_,_=>[]
 | _+1,_,0=>[]
 | m+1,i,w+1=>if q i=true then i::M7 q m (i+1) w else M7 q m (i+1) (w+1)
theorem B81 (q:Int→Bool):∀ (m:Nat) (i:Int) (w:Nat),(M7 q m i w).length≤w
 | 0,_,_=>by simp [M7]
 | _+1,_,0=>by simp [M7]
 | m+1,i,w+1=>by
  have h1:=B81 q m (i+1) w
  have h2:=B81 q m (i+1) (w+1)
  unfold M7;split<;>simp<;>omega
theorem Ay1 (q:Int→Bool):∀ (m:Nat) (i:Int) (w:Nat),∀ x ∈ M7 q m i w,i≤x∧x<i+m∧q x=true
 | 0,_,_,x,hx=>by simp [M7] at hx
 | _+1,_,0,x,hx=>by simp [M7] at hx
 | m+1,i,w+1,x,hx=>by
  unfold M7 at hx
  split at hx
  ·rename_i hq
   rcases List.mem_cons.1 hx with rfl|h
   ·exact ⟨by omega,by omega,hq⟩
   ·have:=Ay1 q m (i+1) w x h
    exact ⟨by omega,by omega,this.2.2⟩
  ·have:=Ay1 q m (i+1) (w+1) x hx
   exact ⟨by omega,by omega,this.2.2⟩
theorem Dz0 (pr:HP) (g:FuncId) (cp:List Value) (n:Int) (hn:n≤100) (q:Int→Bool) (hq:∀ j:Int,0≤j∧j<n→Ct A8 g (int j::cp) [pr] fun v own=>v=.bool (q j)∧own [pr]):∀ (m:Nat) (i:Int) (acc:List Int) (w:Nat) (a:Option Addr) (ac:Nat),0≤i→i+m=n→acc.length≤i →
  CtJ G5 W3 Ba7 [(0,int n),(1,int ((acc.length+w:Nat):Int)),(2,.func (.func g) ⟨[]⟩ ⟨cp⟩),(7,.slice a acc.length ac),(8,int i)] [slC false B2 1 a acc.length ac (acc.map int),pr] fun v own =>
   ∃ a' c',v=.slice a' (acc++M7 q m i w).length c'∧own [slC false B2 1 a' (acc++M7 q m i w).length c' ((acc++M7 q m i w).map int),pr]
 | 0,i,acc,w,a,ac,h0,hi,ha=>by
  refine CtJ.of Dj1 fun h r=>Tr.eq (Db9 ..) ?_;refine Je ?_
  refine Yb (Yf (by simp;omega) ?_)
  refine Ys fun o=>(?_:Tr _ _ _ _) o;refine Je ?_
  refine Yf rfl ?_
  refine Ys fun o=>?_
  rw [show M7 q 0 i w=[] by unfold M7;rfl,List.append_nil]
  exact ⟨a,ac,rfl,o.sub⟩
 | m+1,i,acc,0,a,ac,h0,hi,ha=>by
  refine CtJ.of Dj1 fun h r=>Tr.eq (Db9 ..) ?_;refine Je ?_
  refine Yb (Yt (by simp;omega) ?_)
  refine Ys fun o=>(?_:Tr _ _ _ _) o;refine Je ?_
  refine Yf (by simp) ?_
  refine Ys fun o=>?_
  rw [show M7 q (m+1) i 0=[] by unfold M7;rfl,List.append_nil]
  exact ⟨a,ac,rfl,o.sub⟩
 | m+1,i,acc,w+1,a,ac,h0,hi,ha=>by
  have e1:IntKind.wrap .i64 (i+1)=i+1:=by rw [A7];omega
  rw [show M7 q (m+1) i (w+1)=if q i=true then i::M7 q m (i+1) w else M7 q m (i+1) (w+1) by rw [M7]]
  refine CtJ.of Dj1 fun h r=>Tr.eq (Db9 ..) ?_;refine Je ?_
  refine Yb (Yt (by simp;omega) ?_)
  refine Ys fun o=>(?_:Tr _ _ _ _) o;refine Je ?_
  refine Yt (by simp;omega) ?_
  rw [e1]
  refine P3 0 rfl fun hl hc _=>?_
  (refine Ja ?_;unhygienic intros)
  simp only [List.nil_append,List.singleton_append]
  refine Yc (hq i (by omega)) ?_;rintro _ h ⟨rfl,o⟩<;>refine Jh o ?_
  (refine Ja ?_;unhygienic intros)
  by_cases h2:q i=true
  ·rw [if_pos h2]
   refine Yt h2 ?_
   (refine Ja ?_;unhygienic intros)
   refine Tr.xApd (new:=[int i]) ⟨rfl,rfl,by simp only [A9];omega⟩ fun a' c' h=>?_
   have H:=Dz0 pr g cp n hn q hq m (i+1) (acc++[i]) w a' c' (by omega) (by omega) (by simp;omega)
   rw [show acc++i::M7 q m (i+1) w=acc++[i]++M7 q m (i+1) w by simp,show acc.length+(w+1)=(acc++[i]).length+w by simp;omega]
   refine (?_:Tr (_::pr::slC false B2 1 a' (acc.length+1) c' (acc.map int++[int i])::_) _ _ _)
   rw [show acc.map int++[int i]=(acc++[i]).map int by simp,show acc.length+1=(acc++[i]).length by simp]
   refine Q9 [2,1] 1 rfl rfl ?_
   exact Yr H fun v h q=>q
  ·rw [if_neg h2]
   refine Yf (by simpa using h2) ?_
   refine Q9 [1,0] 0 rfl rfl ?_
   exact Yr (Dz0 pr g cp n hn q hq m (i+1) acc (w+1) a ac (by omega) (by omega) (by omega)) fun v h q=>q
theorem E23 (pr:HP) (g:FuncId) (cp:List Value) (n:Nat) (hn:n≤100) (w:Nat) (q:Int→Bool) (hq:∀ j:Int,0≤j∧j<n→Ct A8 g (int j::cp) [pr] fun v own=>v=.bool (q j)∧own [pr]) :
  Ct A8 W3 [int n,int w,.func (.func g) ⟨[]⟩ ⟨cp⟩] [pr] fun v own=>∃ a' c',v=.slice a' (M7 q n 0 w).length c'∧own [slC false B2 1 a' (M7 q n 0 w).length c' ((M7 q n 0 w).map int),pr]:=by
 refine Ct.of Dj1 rfl fun h r=>Tr.eq (Hn3 ..) ?_;refine Je ?_
 refine G4 false B2 1 (by omega) ?_
 have J:=Dz0 pr g cp n (by omega) q hq n 0 [] w none 0 (by omega) (by omega) (by simp)
 simp only [List.nil_append,List.length_nil,List.map_nil,Nat.zero_add] at J
 exact Yr J fun v h q=>q
theorem Hx0 (b:Nat) (p:ProcS) (j:Int) (hj:0≤j∧j<8):Ct A8 Ba9 [int j,P0 b] [pt b (.cells D1 false (D3 p))] fun v own=>v=.bool (p.fds.getD j.toNat 0==0)∧own [pt b (.cells D1 false (D3 p))]:=by
 have hg:=En5 p (j:=j.toNat) (by omega)
 refine Ct.of Gr0 rfl fun h r=>Tr.eq (Gr3 ..) ?_;refine Je ?_
 (refine Ja ?_;unhygienic intros)
 refine Ys fun o=>?_
 exact ⟨rfl,o.sub⟩
abbrev V4 (p:ProcS) (w:Nat):List Int:=M7 (fun j=>p.fds.getD j.toNat 0==0) 8 0 w
theorem H33 (p:ProcS) (w:Nat):Ct A8 B64 [.agg ⟨D3 p⟩,int w] [] fun v own=>∃ a' c',v=.slice a' (V4 p w).length c'∧own [slC false B2 1 a' (V4 p w).length c' ((V4 p w).map int)]:=by
 refine Ct.of Hb3 rfl fun h r=>Tr.eq (He6 ..) ?_;refine Je ?_
 refine Yn fun b1 h=>?_
 refine Yc (E23 _ Ba9 [P0 b1] 8 (by omega) w _ fun j hj=>Hx0 b1 p j (by omega)) ?_
 rintro _ h ⟨a',c',rfl,o⟩
 refine Jh o ?_
 (refine Ja ?_;unhygienic intros)
 refine Ys fun o=>?_
 exact ⟨a',c',rfl,o.sub⟩
def hcC (bh b k:Nat) (F:Fr) (X:CX):HP:=hex fun _:Unit=>sl [pt bh (.cells O3 false [P0 b]),cmC b k F X]
instance {bh b k:Nat} {F:Fr} {X:CX}:Chk (hcC bh b k F X) (fun _:Unit=>[pt bh (.cells O3 false [P0 b]),cmC b k F X]):=⟨rfl⟩
theorem Ia0 (bh b k:Nat) (F:Fr) (X:CX) (ok:FrOk F) {nc:Nat} (c:Clean nc X) (j:Int) (hj:0≤j∧j<12):Ct A8 A39 [int j,P0 bh] [hcC bh b k F X] fun v own=>v=.bool ((vF X j).2==0)∧own [hcC bh b k F X]:=by
 refine Ct.of Gx2 rfl fun h r=>Tr.eq (Gz1 ..) ?_;refine Je ?_
 refine B3 (hcC bh b k F X) fun u=>?_;refine Je ?_
 (refine Ja ?_;unhygienic intros)
 refine Yc (Dk8 b k F X ok j) ?_;rintro _ h ⟨rfl,o⟩<;>refine Jh o ?_
 rw [Bo6 c hj]
 dsimp only
 (refine Jc ?_;unhygienic intros)
 refine Yn fun b1 h=>?_
 (refine Ja ?_;unhygienic intros)
 refine B1 (hcC bh b k F X) () ?_;refine Je ?_
 refine Ys fun o=>?_
 exact ⟨rfl,o.sub⟩
theorem H45 (bh b k:Nat) (F:Fr) (X:CX) (ok:FrOk F) {nc:Nat} (c:Clean nc X) (j:Int) (hj:0≤j∧j<3+nc):Ct A8 A29 [int j,P0 bh] [hcC bh b k F X] fun v own=>v=.bool ((vP X j).2==0)∧own [hcC bh b k F X]:=by
 refine Ct.of Gx6 rfl fun h r=>Tr.eq (G34 ..) ?_;refine Je ?_
 refine B3 (hcC bh b k F X) fun u=>?_;refine Je ?_
 (refine Ja ?_;unhygienic intros)
 refine Yc (E27 b k F X ok j) ?_;rintro _ h ⟨rfl,o⟩<;>refine Jh o ?_
 rw [Dv8 c hj]
 dsimp only
 (refine Jc ?_;unhygienic intros)
 refine Yn fun b1 h=>?_
 (refine Ja ?_;unhygienic intros)
 refine B1 (hcC bh b k F X) () ?_;refine Je ?_
 refine Ys fun o=>?_
 exact ⟨rfl,o.sub⟩
def ofV (X:CX) (i fd:Int):(Int × FileS) × Int :=
 if (P1 X i).2≠0 then ((0,.zero),(P1 X i).2)
 else if Am0 (vS X i).1 fd=false then ((0,.zero),109)
 else if (vF X ((vS X i).1.fds.getD fd.toNat 0-1)).2≠1 then ((0,.zero),105)
 else (((vS X i).1.fds.getD fd.toNat 0-1,(vF X ((vS X i).1.fds.getD fd.toNat 0-1)).1),0)
theorem Hv1 {nc:Nat} {X:CX} (c:Clean nc X) {i:Int} (hi:0≤i∧i<8) (h:(P1 X i).2=0) (j:Nat):0≤(vS X i).1.fds.getD j 0∧(vS X i).1.fds.getD j 0≤12:=by
 obtain ⟨s1,s2,s3,s4⟩:=Br4 c hi h
 by_cases hj:j<(vS X i).1.fds.length
 ·rw [List.getD_eq_getElem?_getD,List.getElem?_eq_getElem hj];exact Eu9 s3 _ (List.getElem_mem _)
 ·rw [List.getD_eq_getElem?_getD,List.getElem?_eq_none (by omega)];simp
theorem Ib1 (b k:Nat) (F:Fr) (X:CX) (ok:FrOk F) {nc:Nat} (c:Clean nc X) (i fd:Int) (hi:0≤i∧i<8) :
  Ct A8 Dk4 [P0 b,int i,int fd] [cmC b k F X] fun v own=>v=.tuple ⟨[int (ofV X i fd).1.1,.agg ⟨Ai2 (ofV X i fd).1.2⟩,int (ofV X i fd).2]⟩∧own [cmC b k F X]:=by
 unfold ofV
 refine Ct.of H99 rfl fun h r=>Tr.eq (H39 ..) ?_;refine Je ?_
 refine Yn fun b0 h=>?_
 refine Yc (Gj9 b k F X ok c i hi) ?_;rintro _ h ⟨rfl,o⟩<;>refine Jh o ?_
 (refine Jc ?_;unhygienic intros)
 refine Yn fun b1 h=>?_
 (refine Jb ?_;unhygienic intros)
 by_cases h1:(P1 X i).2=0
 case neg =>
  rw [if_pos h1]
  refine Yt (by simpa using h1) ?_
  (refine Ja ?_;unhygienic intros)
  refine Ys fun o=>?_
  exact ⟨rfl,o.sub⟩
 rw [if_neg (by simpa using h1)]
 refine Yf (by simpa using h1) ?_
 obtain ⟨s1,s2,s3,s4⟩:=Br4 c hi h1
 have hr:=fun j=>Hv1 c hi h1 j
 rw [s1]
 generalize hp:(vS X i).1=p at s2 s3 hr
 (refine Ja ?_;unhygienic intros)
 refine Yc (H37 p fd) ?_;rintro _ h ⟨rfl,o⟩<;>(refine Jf o ?_;unhygienic intros)
 by_cases h2:Am0 p fd=true
 case neg =>
  rw [if_pos (by simpa using h2)]
  refine Yt (by simpa using h2) ?_
  (refine Ja ?_;unhygienic intros)
  refine Ys fun o=>?_
  exact ⟨rfl,o.sub⟩
 rw [if_neg (by simpa using h2)]
 refine Yf (by simpa using h2) ?_
 simp only [Am0,Bool.and_eq_true,decide_eq_true_eq] at h2
 have hg:=En5 p (j:=fd.toNat) (by omega)
 have hf:=hr fd.toNat
 generalize p.fds.getD fd.toNat 0=f at hg hf h2
 have e1:IntKind.wrap .i64 (f-1)=f-1:=by rw [A7];omega
 (refine Ja ?_;unhygienic intros)
 rw [e1]
 refine Yc (Dk8 b k F X ok (f-1)) ?_;rintro _ h ⟨rfl,o⟩<;>refine Jh o ?_
 rw [Bo6 c (by omega)]
 dsimp only
 (refine Ja ?_;unhygienic intros)
 by_cases h3:(vF X (f-1)).2=1
 case neg =>
  rw [if_pos h3]
  refine Yt (by simpa using h3) ?_
  (refine Ja ?_;unhygienic intros)
  refine Ys fun o=>?_
  exact ⟨rfl,o.sub⟩
 rw [if_neg (by simpa using h3)]
 refine Yf (by simpa using h3) ?_
 (refine Ja ?_;unhygienic intros)
 rw [e1]
 refine Ys fun o=>?_
 exact ⟨rfl,o.sub⟩
theorem Hv4 {p:ProcS} {fd:Int} (h:Am0 p fd=true):(0≤fd∧fd<8)∧p.fds.getD fd.toNat 0>0:=by
 simp only [Am0,Bool.and_eq_true,decide_eq_true_eq] at h;exact h
def A20:PipeS:=⟨0,0,1,1,[0,0,0,0,0,0,0,0,0,0,0,0,0,0,0,0,0,0,0,0,0,0,0,0,0,0,0,0,0,0,0,0],rfl⟩
abbrev Bb7 (X:CX):List Int:=M7 (fun j=>(vF X j).2==0) 12 0 2
abbrev Bk2 (X:CX):List Int:=M7 (fun j=>(vP X j).2==0) 4 0 1
def Bo4 (X:CX) (i d0 d1 f0 f1 r0:Int):CX :=
 B61 (Az4 (Az4 (A53 X r0 A20) f0 ⟨1,r0,1,0⟩) f1 ⟨2,r0,1,0⟩) i (setFd (setFd (vS X i).1 d0.toNat (f0+1)) d1.toNat (f1+1))
def A49 (X:CX) (i:Int):List Value × CX :=
 if (P1 X i).2≠0 then (L6 0 (P1 X i).2 false,X)
 else if (V4 (vS X i).1 2).length<2 then (L6 0 124 false,X)
 else if (Bb7 X).length<2∨(Bk2 X).length=0 then (L6 0 123 false,X)
 else (L6 ((V4 (vS X i).1 2).getD 0 0+16*(V4 (vS X i).1 2).getD 1 0) 0 false,Bo4 X i ((V4 (vS X i).1 2).getD 0 0) ((V4 (vS X i).1 2).getD 1 0) ((Bb7 X).getD 0 0) ((Bb7 X).getD 1 0) ((Bk2 X).getD 0 0))
theorem Hu9 {l:List Int} (h:l.length≤2) (h2:¬ l.length<2):∃ a b,l=[a,b]:=by
 match l,h,h2 with
 | [a,b],_,_=>exact ⟨a,b,rfl⟩
 | [],_,h2=>simp at h2
 | [_],_,h2=>simp at h2
 | _::_::_::_,h,_=>simp at h
theorem Go9 {nc:Nat} {X:CX} (c:Clean nc X) {i:Int} (hi:0≤i∧i<8) (hs:(P1 X i).2=0) {d0 d1 f0 f1 r0:Int} (hd0:0≤d0∧d0<8) (hd1:0≤d1∧d1<8) (hf0:0≤f0∧f0<12) (hf1:0≤f1∧f1<12) (hr:0≤r0∧r0<4) (hn:r0<3+(nc:Int)) :
  A67 X r0 A20=(true,A53 X r0 A20)∧Bg9 (A53 X r0 A20) f0 ⟨1,r0,1,0⟩=(true,Az4 (A53 X r0 A20) f0 ⟨1,r0,1,0⟩) ∧
  Bg9 (Az4 (A53 X r0 A20) f0 ⟨1,r0,1,0⟩) f1 ⟨2,r0,1,0⟩=(true,Az4 (Az4 (A53 X r0 A20) f0 ⟨1,r0,1,0⟩) f1 ⟨2,r0,1,0⟩) ∧
  Br1 (Az4 (Az4 (A53 X r0 A20) f0 ⟨1,r0,1,0⟩) f1 ⟨2,r0,1,0⟩) i (setFd (setFd (vS X i).1 d0.toNat (f0+1)) d1.toNat (f1+1))=(true,Bo4 X i d0 d1 f0 f1 r0) ∧
  Clean nc (Bo4 X i d0 d1 f0 f1 r0)∧(∀ j:Int,0≤j∧j<8→vS (Bo4 X i d0 d1 f0 f1 r0) j=if j=i then (setFd (setFd (vS X i).1 d0.toNat (f0+1)) d1.toNat (f1+1),1) else vS X j) ∧
  (∀ j:Int,0≤j∧j<12→vF (Bo4 X i d0 d1 f0 f1 r0) j=if j=f1 then (⟨2,r0,1,0⟩,1) else if j=f0 then (⟨1,r0,1,0⟩,1) else vF X j) ∧
  (∀ j:Int,0≤j∧j<3+nc→vP (Bo4 X i d0 d1 f0 f1 r0) j=if j=r0 then (A20,1) else vP X j):=by
 obtain ⟨s1,s2,s3,s4⟩:=Br4 c hi hs
 have hin:=Es2 (rd X ⟨1,i⟩)
 obtain ⟨a1,a2,a3,a4,a5⟩:=A55 c (i:=r0) (by omega) (p:=A20) rfl
 obtain ⟨b1,b2,b3,b4,b5⟩:=Ar1 a2 hf0 (f:=⟨1,r0,1,0⟩) (by simp [okF];omega)
 obtain ⟨c1,c2,c3,c4,c5⟩:=Ar1 b2 hf1 (f:=⟨2,r0,1,0⟩) (by simp [okF];omega)
 have hq:=E71 (E71 s3 s2 d0.toNat (f:=f0+1) (by omega)) s2 d1.toNat (f:=f1+1) (by omega)
 obtain ⟨e1,e2,e3,e4,e5⟩:=B29 c2 hi hq ⟨hin.a,hin.b,hin.c,hin.d⟩
 refine ⟨a1,b1,c1,e1,e2,fun j hj=>?_,fun j hj=>?_,fun j hj=>?_⟩
 ·rw [show Bo4 X i d0 d1 f0 f1 r0=B61 _ _ _ from rfl,e3 j hj,c3 j hj,b3 j hj,a3 j hj]
 ·rw [show Bo4 X i d0 d1 f0 f1 r0=B61 _ _ _ from rfl,e4 j hj,c4 j hj,b4 j hj,a4 j hj]
 ·rw [show Bo4 X i d0 d1 f0 f1 r0=B61 _ _ _ from rfl,e5 j hj,c5 j hj,b5 j hj,a5 j hj]
theorem H40 (bh b k:Nat) (F:Fr) (X:CX) (ok:FrOk F) {nc:Nat} (c:Clean nc X):Ct A8 W3 [int 12,int 2,.func (.func A39) ⟨[]⟩ ⟨[P0 bh]⟩] [hcC bh b k F X] fun v own =>
  ∃ a' c',v=.slice a' (Bb7 X).length c'∧own [slC false B2 1 a' (Bb7 X).length c' ((Bb7 X).map int),hcC bh b k F X] :=
 E23 _ A39 [P0 bh] 12 (by omega) 2 _ fun j hj=>Ia0 bh b k F X ok c j (by omega)
theorem H55 (bh b k:Nat) (F:Fr) (X:CX) (ok:FrOk F) {nc:Nat} (c:Clean nc X):Ct A8 W3 [int 4,int 1,.func (.func A29) ⟨[]⟩ ⟨[P0 bh]⟩] [hcC bh b k F X] fun v own =>
  ∃ a' c',v=.slice a' (Bk2 X).length c'∧own [slC false B2 1 a' (Bk2 X).length c' ((Bk2 X).map int),hcC bh b k F X] :=
 E23 _ A29 [P0 bh] 4 (by omega) 1 _ fun j hj=>H45 bh b k F X ok c j (by have:=c.pos;omega)
theorem Im7 {l:List Int} (h:l.length≤1) (h2:¬ l.length=0):∃ a,l=[a]:=by
 match l,h,h2 with
 | [a],_,_=>exact ⟨a,rfl⟩
 | [],_,h2=>simp at h2
 | _::_::_,h,_=>simp at h
theorem G18 (b k:Nat) (F:Fr) (X:CX) (ok:FrOk F) {nc:Nat} (c:Clean nc X) (i:Int) (hi:0≤i∧i<8) :
  Ct A8 Bz8 [P0 b,int i] [cmC b k F X] fun v own=>v=.agg ⟨(A49 X i).1⟩∧own [cmC b k F (A49 X i).2]:=by
 unfold A49
 refine Ct.of Hl5 rfl fun h r=>Tr.eq (Ht3 ..) ?_;refine Je ?_
 refine Yn fun bh h=>?_
 refine Yn fun b0 h=>?_
 (refine Ja ?_;unhygienic intros)
 refine Yc (Gj9 b k F X ok c i hi) ?_;rintro _ h ⟨rfl,o⟩<;>refine Jh o ?_
 (refine Jc ?_;unhygienic intros)
 refine Yn fun b1 h=>?_
 (refine Jb ?_;unhygienic intros)
 by_cases h1:(P1 X i).2=0
 case neg =>
  rw [if_pos h1]
  refine Yt (by simpa using h1) ?_
  refine Yc (Dl3 (P1 X i).2) ?_;rintro _ h ⟨rfl,o⟩<;>(refine Jf o ?_;unhygienic intros)
  refine Ys fun o=>?_
  exact ⟨rfl,o.sub⟩
 rw [if_neg (by simpa using h1)]
 refine Yf (by simpa using h1) ?_
 have hM:=fun d0 d1 f0 f1 r0=>Go9 c hi h1 (d0:=d0) (d1:=d1) (f0:=f0) (f1:=f1) (r0:=r0)
 obtain ⟨s1,s2,s3,s4⟩:=Br4 c hi h1
 rw [s1]
 unfold Bo4 at hM ⊢
 generalize (vS X i).1=p at hM
 (refine Ja ?_;unhygienic intros)
 refine Yc (H33 p 2) ?_
 rintro _ h ⟨a,ac,rfl,o⟩
 refine Jh o ?_
 have hm:=Ay1 (fun j=>p.fds.getD j.toNat 0==0) 8 0 2
 have hl:=B81 (fun j=>p.fds.getD j.toNat 0==0) 8 0 2
 change ∀ x ∈ V4 p 2,_ at hm
 change (V4 p 2).length≤2 at hl
 refine (?_:Tr (slC false B2 1 a (V4 p 2).length ac ((V4 p 2).map int)::_) _ _ _)
 generalize V4 p 2=L at hm hl
 by_cases h2:L.length<2
 ·(refine Ja ?_;unhygienic intros)
  refine Yt (by simp;omega) ?_
  refine Yc (Dl3 124) ?_;rintro _ h ⟨rfl,o⟩<;>(refine Jf o ?_;unhygienic intros)
  refine Ys fun o=>?_
  rw [if_pos h2]
  exact ⟨rfl,o.sub⟩
 rw [if_neg h2]
 obtain ⟨d0,d1,rfl⟩:=Hu9 hl h2
 have hd0:=hm d0 (by simp)
 have hd1:=hm d1 (by simp)
 (refine Ja ?_;unhygienic intros)
 refine Yf (by simp) ?_
 refine B1 (hcC bh b k F X) () ?_;refine Je ?_
 refine Yc (H40 bh b k F X ok c) ?_
 rintro _ h ⟨a2,ac2,rfl,o⟩
 refine Jh o ?_
 have hmF:=Ay1 (fun j=>(vF X j).2==0) 12 0 2
 have hlF:=B81 (fun j=>(vF X j).2==0) 12 0 2
 change ∀ x ∈ Bb7 X,_ at hmF
 change (Bb7 X).length≤2 at hlF
 generalize Bb7 X=Fl at hmF hlF
 (refine Ja ?_;unhygienic intros)
 refine Yc (H55 bh b k F X ok c) ?_
 rintro _ h ⟨a3,ac3,rfl,o⟩
 refine Jh o ?_
 have hmR:=Ay1 (fun j=>(vP X j).2==0) 4 0 1
 have hlR:=B81 (fun j=>(vP X j).2==0) 4 0 1
 change ∀ x ∈ Bk2 X,_ at hmR
 change (Bk2 X).length≤1 at hlR
 generalize Bk2 X=Rl at hmR hlR
 refine B3 (hcC bh b k F X) fun u=>?_;refine Je ?_
 by_cases h3:Fl.length<2
 ·rw [if_pos (.inl h3)]
  (refine Jb ?_;unhygienic intros)
  refine Yb (Yt (by simp;omega) ?_)
  refine Ys fun o=>(?_:Tr _ _ _ _) o;refine Je ?_
  refine Yt rfl ?_
  refine Yc (Dl3 123) ?_;rintro _ h ⟨rfl,o⟩<;>(refine Jf o ?_;unhygienic intros)
  refine Ys fun o=>?_
  exact ⟨rfl,o.sub⟩
 obtain ⟨f0,f1,rfl⟩:=Hu9 hlF h3
 by_cases h4:Rl.length=0
 ·rw [if_pos (.inr h4)]
  (refine Jb ?_;unhygienic intros)
  refine Yb (Yf rfl ?_)
  refine Ys fun o=>(?_:Tr _ _ _ _) o;refine Je ?_
  refine Yt (by simpa using h4) ?_
  refine Yc (Dl3 123) ?_;rintro _ h ⟨rfl,o⟩<;>(refine Jf o ?_;unhygienic intros)
  refine Ys fun o=>?_
  exact ⟨rfl,o.sub⟩
 rw [if_neg (fun h=>h.elim h3 h4)]
 obtain ⟨r0,rfl⟩:=Im7 hlR h4
 have hf0:=hmF f0 (by simp)
 have hf1:=hmF f1 (by simp)
 have hr0:=hmR r0 (by simp)
 obtain ⟨w1,w2,w3,w4,_⟩:=hM d0 d1 f0 f1 r0 (by omega) (by omega) (by omega) (by omega) (by omega) (by have:=c.pos;omega)
 (refine Jb ?_;unhygienic intros)
 refine Yb (Yf rfl ?_)
 refine Ys fun o=>(?_:Tr _ _ _ _) o;refine Je ?_
 refine Yf rfl ?_
 (refine Ja ?_;unhygienic intros;repeat(refine Gw ?_;rintro px rfl;refine Ja ?_;unhygienic intros))
 refine Yc (E11 b k F X ok r0 A20) ?_;rintro _ h ⟨rfl,o⟩<;>refine Jh o ?_
 rw [w1]
 dsimp only
 (refine Jb ?_;unhygienic intros)
 refine Yb (Yt rfl ?_)
 (refine Jb ?_;unhygienic intros;repeat(refine Gw ?_;rintro px rfl;refine Jb ?_;unhygienic intros))
 refine Yc (Dx8 b k F (A53 X r0 A20) ok f0 ⟨1,r0,1,0⟩) ?_;rintro _ h ⟨rfl,o⟩<;>refine Jh o ?_
 rw [w2]
 dsimp only
 (refine Jb ?_;unhygienic intros)
 refine Ys fun o=>(?_:Tr _ _ _ _) o;refine Je ?_
 refine Yb (Yt rfl ?_)
 (refine Jb ?_;unhygienic intros;repeat(refine Gw ?_;rintro px rfl;refine Jb ?_;unhygienic intros))
 refine Yc (Dx8 b k F (Az4 (A53 X r0 A20) f0 ⟨1,r0,1,0⟩) ok f1 ⟨2,r0,1,0⟩) ?_;rintro _ h ⟨rfl,o⟩<;>refine Jh o ?_
 rw [w3]
 dsimp only
 (refine Jb ?_;unhygienic intros)
 refine Ys fun o=>(?_:Tr _ _ _ _) o;refine Je ?_
 have hs:Dd6 (D3 p) (8+d0.toNat) (int (IntKind.wrap .i64 (f0+1)))=some (D3 (setFd p d0.toNat (f0+1))):=by
  rw [show IntKind.wrap .i64 (f0+1)=f0+1 by rw [A7];omega];exact Go5 p (by omega) _
 have hs2:Dd6 (D3 (setFd p d0.toNat (f0+1))) (8+d1.toNat) (int (IntKind.wrap .i64 (f1+1)))=some (D3 (setFd (setFd p d0.toNat (f0+1)) d1.toNat (f1+1))):=by
  rw [show IntKind.wrap .i64 (f1+1)=f1+1 by rw [A7];omega];exact Go5 _ (by omega) _
 have hx:IntKind.wrap .i64 (d0+IntKind.wrap .i64 (16*d1))=d0+16*d1:=by simp only [A7];omega
 simp only [List.getD_cons_zero,List.getD_cons_succ]
 generalize setFd (setFd p d0.toNat (f0+1)) d1.toNat (f1+1)=q at hs2 w4
 (refine Jb ?_;unhygienic intros;repeat(refine Gw ?_;rintro px rfl;refine Jb ?_;unhygienic intros))
 rw [hx]
 refine Yb (Yt rfl ?_)
 (refine Jb ?_;unhygienic intros)
 refine Yc (Ex8 b k F (Az4 (Az4 (A53 X r0 A20) f0 ⟨1,r0,1,0⟩) f1 ⟨2,r0,1,0⟩) ok i q) ?_;rintro _ h ⟨rfl,o⟩<;>refine Jh o ?_
 rw [w4]
 dsimp only
 (refine Jb ?_;unhygienic intros)
 refine Ys fun o=>(?_:Tr _ _ _ _) o;refine Je ?_
 refine Yc (H42 true (d0+16*d1)) ?_;rintro _ h ⟨rfl,o⟩<;>refine Jh o ?_
 rw [if_pos trivial]
 (refine Ja ?_;unhygienic intros)
 refine Ys fun o=>?_
 exact ⟨rfl,o.sub⟩
structure VW where
 S:Int→ProcS × Int
 F:Int→FileS × Int
 P:Int→PipeS × Int
structure See (X:CX) (V:VW):Prop where
 c:Clean 3 X
 s:∀ j:Int,0≤j∧j<8→vS X j=V.S j
 f:∀ j:Int,0≤j∧j<12→vF X j=V.F j
 p:∀ j:Int,0≤j∧j<6→vP X j=V.P j
theorem See.to {X:CX} {V V':VW} (A:See X V) (hs:∀ j:Int,0≤j∧j<8→V.S j=V'.S j) (hf:∀ j:Int,0≤j∧j<12→V.F j=V'.F j) (hp:∀ j:Int,0≤j∧j<6→V.P j=V'.P j):See X V' :=
 ⟨A.c,fun j h=>(A.s j h).trans (hs j h),fun j h=>(A.f j h).trans (hf j h),fun j h=>(A.p j h).trans (hp j h)⟩
def wS (V:VW) (i:Int) (p:ProcS):VW:=⟨fun j=>if j=i then (p,1) else V.S j,V.F,V.P⟩
def wF (V:VW) (i:Int) (x:FileS):VW:=⟨V.S,fun j=>if j=i then (x,1) else V.F j,V.P⟩
def wP (V:VW) (i:Int) (x:PipeS):VW:=⟨V.S,V.F,fun j=>if j=i then (x,1) else V.P j⟩
def oF (V:VW) (i:Int):VW:=⟨V.S,fun j=>if j=i then (.zero,0) else V.F j,V.P⟩
def oP (V:VW) (i:Int):VW:=⟨V.S,V.F,fun j=>if j=i then (.zero,0) else V.P j⟩
section
variable {X:CX} {V:VW} (A:See X V)
include A
theorem See.ws {i:Int} (hi:0≤i∧i<8) {p:ProcS} (ok:okS p=true) (r:InS p):See (B61 X i p) (wS V i p):=by
 obtain ⟨_,w2,w3,w4,w5⟩:=B29 A.c hi ok r
 exact ⟨w2,fun j h=>by rw [w3 j h,A.s j h];rfl,fun j h=>by rw [w4 j h];exact A.f j h,fun j h=>by rw [w5 j (by omega)];exact A.p j h⟩
theorem See.wf {i:Int} (hi:0≤i∧i<12) {x:FileS} (ok:okF x=true):See (Az4 X i x) (wF V i x):=by
 obtain ⟨_,w2,w3,w4,w5⟩:=Ar1 A.c hi ok
 exact ⟨w2,fun j h=>by rw [w3 j h];exact A.s j h,fun j h=>by rw [w4 j h,A.f j h];rfl,fun j h=>by rw [w5 j (by omega)];exact A.p j h⟩
theorem See.wp {i:Int} (hi:0≤i∧i<6) {x:PipeS} (ok:okP x=true):See (A53 X i x) (wP V i x):=by
 obtain ⟨_,w2,w3,w4,w5⟩:=A55 A.c (i:=i) (by omega) ok
 exact ⟨w2,fun j h=>by rw [w3 j h];exact A.s j h,fun j h=>by rw [w4 j h];exact A.f j h,fun j h=>by rw [w5 j (by omega),A.p j h];rfl⟩
theorem See.of {i:Int} (hi:0≤i∧i<12):See (Gh7 X i) (oF V i):=by
 obtain ⟨_,w2,w3,w4,w5⟩:=Gh5 A.c hi
 exact ⟨w2,fun j h=>by rw [w3 j h];exact A.s j h,fun j h=>by rw [w4 j h,A.f j h];rfl,fun j h=>by rw [w5 j (by omega)];exact A.p j h⟩
theorem See.op {i:Int} (hi:0≤i∧i<6):See (Gh4 X i) (oP V i):=by
 obtain ⟨_,w2,w3,w4,w5⟩:=Gi4 A.c (i:=i) (by omega)
 exact ⟨w2,fun j h=>by rw [w3 j h];exact A.s j h,fun j h=>by rw [w4 j h];exact A.f j h,fun j h=>by rw [w5 j (by omega),A.p j h];rfl⟩
end
def Ai0 (V:VW) (i:Int):ProcS × Int:=if (V.S i).2=1∧(V.S i).1.state=1 then ((V.S i).1,0) else (.zero,105)
theorem See.self {X:CX} {V:VW} (A:See X V) {i:Int} (hi:0≤i∧i<8):P1 X i=Ai0 V i:=by unfold P1 Ai0;rw [A.s i hi]
def clP (V:VW) (i:Int) (q:PipeS):VW:=if q.readers+q.writers=0∧i<4 then oP V i else wP V i q
def Hu2 (V:VW) (f:Int):Int × VW :=
 if (V.F f).2≠1 then (105,V)
 else if (V.F f).1.refs-1>0 then (0,wF V f (Dp5 (V.F f).1 (-1)))
 else if (V.F f).1.kind=3 then (0,oF V f)
 else if ¬ ((V.F f).1.pipe<6∧(V.P (V.F f).1.pipe).2=1) then (105,oF V f)
 else (0,clP (oF V f) (V.F f).1.pipe (Ip3 (V.F f).1.kind (V.P (V.F f).1.pipe).1))
def ofW (V:VW) (i fd:Int):(Int × FileS) × Int :=
 if (Ai0 V i).2≠0 then ((0,.zero),(Ai0 V i).2)
 else if Am0 (V.S i).1 fd=false then ((0,.zero),109)
 else if (V.F ((V.S i).1.fds.getD fd.toNat 0-1)).2≠1 then ((0,.zero),105)
 else (((V.S i).1.fds.getD fd.toNat 0-1,(V.F ((V.S i).1.fds.getD fd.toNat 0-1)).1),0)
theorem See.ofv {X:CX} {V:VW} (A:See X V) {i:Int} (hi:0≤i∧i<8) (fd:Int):ofV X i fd=ofW V i fd:=by
 have es:=A.self hi
 have hr:=fun h=>Hv1 A.c (i:=i) hi h fd.toNat
 unfold ofV ofW
 rw [es] at hr ⊢
 rw [A.s i hi] at hr ⊢
 by_cases h1:(Ai0 V i).2≠0
 ·rw [if_pos h1,if_pos h1]
 rw [if_neg h1,if_neg h1]
 by_cases h2:Am0 (V.S i).1 fd=false
 ·rw [if_pos h2,if_pos h2]
 have hn:=Hv4 (show Am0 (V.S i).1 fd=true by simpa using h2)
 have hr:=hr (by simpa using h1)
 rw [if_neg h2,if_neg h2,A.f _ (by omega)]
def Ho0 (V:VW) (i fd f:Int):List Value × VW :=
 if (Ai0 V i).2≠0 then (L6 0 (Ai0 V i).2 false,V) else (L6 fd 0 false,wS V i (setFd (V.S i).1 fd.toNat (f+1)))
theorem See.setFd {X:CX} {V:VW} (A:See X V) {i:Int} (hi:0≤i∧i<8) (h:(Ai0 V i).2=0) (j:Nat) {f:Int} (hf:0≤f∧f≤12):See (B61 X i (EQ.setFd (vS X i).1 j f)) (wS V i (EQ.setFd (V.S i).1 j f)):=by
 have es:=A.self hi
 obtain ⟨s1,s2,s3,s4⟩:=Br4 A.c hi (by rw [es];exact h)
 have hin:=Es2 (rd X ⟨1,i⟩)
 have:=A.ws hi (E71 s3 s2 j hf) ⟨hin.a,hin.b,hin.c,hin.d⟩
 have e:EQ.setFd (V.S i).1 j f=EQ.setFd (vS X i).1 j f:=by rw [A.s i hi]
 rw [e];exact this
theorem See.name {X:CX} {V:VW} (A:See X V) {i:Int} (hi:0≤i∧i<8) (fd:Int) {f:Int} (hf:0≤f∧f<12):(Hs7 X i fd f).1=(Ho0 V i fd f).1∧See (Hs7 X i fd f).2 (Ho0 V i fd f).2:=by
 have es:=A.self hi
 unfold Hs7 Ho0
 rw [es]
 by_cases h1:(Ai0 V i).2=0
 case neg=>rw [if_pos h1,if_pos h1];exact ⟨rfl,A⟩
 have n1:¬ (Ai0 V i).2≠0:=by simpa using h1
 rw [if_neg n1,if_neg n1]
 exact ⟨rfl,A.setFd hi h1 fd.toNat (by omega)⟩
def Ay3 (V:VW) (i fd:Int):List Value × VW :=
 if (Ai0 V i).2≠0 then (L6 0 (Ai0 V i).2 false,V)
 else if Am0 (V.S i).1 fd=false then (L6 0 109 false,V)
 else (L6 0 (Hu2 (wS V i (setFd (V.S i).1 fd.toNat 0)) ((V.S i).1.fds.getD fd.toNat 0-1)).1 false,(Hu2 (wS V i (setFd (V.S i).1 fd.toNat 0)) ((V.S i).1.fds.getD fd.toNat 0-1)).2)
theorem B78 {q q':Int→Bool}:∀ (m:Nat) (i:Int) (w:Nat),(∀ j:Int,i≤j→j<i+m→q j=q' j)→M7 q m i w=M7 q' m i w
 | 0,_,_,_=>rfl
 | _+1,_,0,_=>rfl
 | m+1,i,w+1,h=>by
  rw [M7,M7,h i (by omega) (by omega),B78 m (i+1) w fun j h1 h2=>h j (by omega) (by omega),B78 m (i+1) (w+1) fun j h1 h2=>h j (by omega) (by omega)]
abbrev D96 (V:VW):List Int:=M7 (fun j=>(V.F j).2==0) 12 0 2
abbrev Gh6 (V:VW):List Int:=M7 (fun j=>(V.P j).2==0) 4 0 1
def mkW (V:VW) (i d0 d1 f0 f1 r0:Int):VW:=wS (wF (wF (wP V r0 A20) f0 ⟨1,r0,1,0⟩) f1 ⟨2,r0,1,0⟩) i (setFd (setFd (V.S i).1 d0.toNat (f0+1)) d1.toNat (f1+1))
def E77 (V:VW) (i:Int):List Value × VW :=
 if (Ai0 V i).2≠0 then (L6 0 (Ai0 V i).2 false,V)
 else if (V4 (V.S i).1 2).length<2 then (L6 0 124 false,V)
 else if (D96 V).length<2∨(Gh6 V).length=0 then (L6 0 123 false,V)
 else (L6 ((V4 (V.S i).1 2).getD 0 0+16*(V4 (V.S i).1 2).getD 1 0) 0 false,mkW V i ((V4 (V.S i).1 2).getD 0 0) ((V4 (V.S i).1 2).getD 1 0) ((D96 V).getD 0 0) ((D96 V).getD 1 0) ((Gh6 V).getD 0 0))
theorem Dm1 {l:List Int} {j:Nat} (h:j<l.length):l.getD j 0 ∈ l:=by
 rw [List.getD_eq_getElem?_getD,List.getElem?_eq_getElem h];exact List.getElem_mem _
theorem See.pipe {X:CX} {V:VW} (A:See X V) {i:Int} (hi:0≤i∧i<8):(A49 X i).1=(E77 V i).1∧See (A49 X i).2 (E77 V i).2:=by
 have es:=A.self hi
 have e1:Bb7 X=D96 V:=B78 12 0 2 fun j h1 h2=>by rw [A.f j (by omega)]
 have e2:Bk2 X=Gh6 V:=B78 4 0 1 fun j h1 h2=>by rw [A.p j (by omega)]
 unfold A49 E77
 rw [e1,e2,es]
 by_cases h1:(Ai0 V i).2=0
 case neg=>rw [if_pos h1,if_pos h1];exact ⟨rfl,A⟩
 have n1:¬ (Ai0 V i).2≠0:=by simpa using h1
 rw [if_neg n1,if_neg n1,A.s i hi]
 by_cases h2:(V4 (V.S i).1 2).length<2
 ·rw [if_pos h2,if_pos h2];exact ⟨rfl,A⟩
 rw [if_neg h2,if_neg h2]
 by_cases h3:(D96 V).length<2∨(Gh6 V).length=0
 ·rw [if_pos h3,if_pos h3];exact ⟨rfl,A⟩
 rw [if_neg h3,if_neg h3]
 have hm:=Ay1 (fun j=>(V.S i).1.fds.getD j.toNat 0==0) 8 0 2
 have hd0:=hm _ (Dm1 (l:=V4 (V.S i).1 2) (j:=0) (by omega))
 have hd1:=hm _ (Dm1 (l:=V4 (V.S i).1 2) (j:=1) (by omega))
 have hf0:=Ay1 (fun j=>(V.F j).2==0) 12 0 2 _ (Dm1 (l:=D96 V) (j:=0) (by omega))
 have hf1:=Ay1 (fun j=>(V.F j).2==0) 12 0 2 _ (Dm1 (l:=D96 V) (j:=1) (by omega))
 have hr:=Ay1 (fun j=>(V.P j).2==0) 4 0 1 _ (Dm1 (l:=Gh6 V) (j:=0) (by omega))
 generalize (V4 (V.S i).1 2).getD 0 0=d0 at hd0 ⊢
 generalize (V4 (V.S i).1 2).getD 1 0=d1 at hd1 ⊢
 generalize (D96 V).getD 0 0=f0 at hf0 ⊢
 generalize (D96 V).getD 1 0=f1 at hf1 ⊢
 generalize (Gh6 V).getD 0 0=r0 at hr ⊢
 obtain ⟨_,_,_,_,m1,m2,m3,m4⟩:=Go9 A.c hi (by rw [es];exact h1) (d0:=d0) (d1:=d1) (f0:=f0) (f1:=f1) (r0:=r0) (by omega) (by omega) (by omega) (by omega) (by omega) (by omega)
 refine ⟨rfl,m1,fun j hj=>?_,fun j hj=>?_,fun j hj=>?_⟩
 ·rw [m2 j hj,A.s i hi,A.s j hj];rfl
 ·rw [m3 j hj,A.f j hj];rfl
 ·rw [m4 j (by omega),A.p j hj];rfl
def Dt8 (V:VW):Nat→Int→Int
 | 0,_=>-1
 | m+1,i=>if (V.S i).2=0 then i else Dt8 V m (i+1)
theorem See.free {X:CX} {V:VW} (A:See X V):∀ (m:Nat) (i:Int),0≤i→i+m=8→Ai5 X m i=Dt8 V m i
 | 0,_,_,_=>rfl
 | m+1,i,h0,hi=>by rw [Ai5,Dt8,A.s i (by omega),A.free m (i+1) (by omega) (by omega)]
def B84 (V:VW) (more:List Int):List Int→Int
 | []=>0
 | f::l=>if f=0 then B84 V more l else if (V.F (f-1)).2≠1 then 105 else if (V.F (f-1)).1.refs+more.getD (f-1).toNat 0>64 then 123 else B84 V more l
theorem See.share {X:CX} {V:VW} (A:See X V) (more:List Int):∀ l:List Int,Bw4 l→Ab3 X more l=B84 V more l
 | [],_=>rfl
 | f::l,h=>by
  have hf:=h f (by simp)
  rw [Ab3,B84,A.share more l fun x hx=>h x (by simp [hx])]
  by_cases h0:f=0
  ·rw [if_pos h0,if_pos h0]
  ·rw [if_neg h0,if_neg h0,A.f (f-1) (by omega)]
def Im8 (V:VW) (more:List Int):VW:=⟨V.S,fun j=>if more.getD j.toNat 0≠0 then (Dp5 (V.F j).1 (more.getD j.toNat 0),1) else V.F j,V.P⟩
def Ga9 (V:VW) (i:Int):List Value × VW :=
 if (Ai0 V i).2≠0 then (L6 0 (Ai0 V i).2 false,V)
 else if Dt8 V 8 0<0 then (L6 0 111 false,V)
 else if B84 V (Ak4 (V.S i).1) (V.S i).1.fds≠0 then (L6 0 (B84 V (Ak4 (V.S i).1) (V.S i).1.fds) false,V)
 else (L6 (Dt8 V 8 0) 0 false,wS (Im8 V (Ak4 (V.S i).1)) (Dt8 V 8 0) (Bj9 (V.S i).1 i))
theorem See.fork {X:CX} {V:VW} (A:See X V) {i:Int} (hi:0≤i∧i<8):(Dt5 X i).1=(Ga9 V i).1∧See (Dt5 X i).2 (Ga9 V i).2:=by
 have es:=A.self hi
 have ef:=A.free 8 0 (by omega) (by omega)
 unfold Dt5 Ga9
 rw [ef]
 by_cases h1:(Ai0 V i).2=0
 case neg=>rw [es,if_pos h1,if_pos h1];exact ⟨rfl,A⟩
 have n1:¬ (Ai0 V i).2≠0:=by simpa using h1
 have n2:¬ (P1 X i).2≠0:=by rw [es];exact n1
 rw [if_neg n2,if_neg n1]
 by_cases h2:Dt8 V 8 0<0
 ·rw [if_pos h2,if_pos h2];exact ⟨rfl,A⟩
 rw [if_neg h2,if_neg h2]
 obtain ⟨s1,s2,s3,s4⟩:=Br4 A.c hi (by rw [es];exact h1)
 rw [s1]
 have hfd:=Eu9 s3
 have hin:=Es2 (rd X ⟨1,i⟩)
 have esh:=A.share (Ak4 (vS X i).1) _ hfd
 have hcl:=Ej1 A.c hfd
 have hno:=fun h=>Gp2 (X:=X) (p:=(vS X i).1) h
 have hm8:Dt8 V 8 0<8:=by
  rcases Ep9 (X:=X) 8 0 (by omega) (by omega) with h|h<;>omega
 have e1:(S6 X (vS X i).1).1=Ab3 X (Ak4 (vS X i).1) (vS X i).1.fds:=by
  unfold S6;split
  ·rename_i h;exact h.symm
  ·rfl
 rw [esh] at e1
 have hck:=G39 s3 s2 hi
 have hin2:InS (Bj9 (vS X i).1 i):=⟨by simp,hin.b,hin.c,hin.d⟩
 simp only
 rw [e1] at hcl hno ⊢
 rw [A.s i hi] at *
 by_cases h3:B84 V (Ak4 (V.S i).1) (V.S i).1.fds=0
 case neg=>rw [if_pos h3,if_pos h3];exact ⟨rfl,A⟩
 have n3:¬ B84 V (Ak4 (V.S i).1) (V.S i).1.fds≠0:=by simpa using h3
 rw [if_neg n3,if_neg n3]
 obtain ⟨a1,a2,a3,a4⟩:=hcl h3
 refine ⟨rfl,?_⟩
 have B:See (S6 X (V.S i).1).2 (Im8 V (Ak4 (V.S i).1)):=⟨a1,fun j hj=>by rw [a2 j hj];exact A.s j hj,fun j hj=>by rw [a3 j hj,A.f j hj];rfl,fun j hj=>by rw [a4 j (by omega)];exact A.p j hj⟩
 exact B.ws (by omega) hck hin2
def V1:VW:=⟨fun j=>if j=0 then (p0,1) else (.zero,0),fun j=>if j=0 then (f0,1) else (.zero,0),fun j=>if j<4 then (.zero,0) else vP X1 j⟩
theorem In2:See X1 V1:=by
 refine ⟨E28,fun j hj=>?_,fun j hj=>?_,fun j hj=>?_⟩
 ·have:j=0∨j=1∨j=2∨j=3∨j=4∨j=5∨j=6∨j=7:=by omega
  rcases this with rfl|rfl|rfl|rfl|rfl|rfl|rfl|rfl<;>(clear hj;show (_:ProcS × Int)=_;kernel_rfl)
 ·have:j=0∨j=1∨j=2∨j=3∨j=4∨j=5∨j=6∨j=7∨j=8∨j=9∨j=10∨j=11:=by omega
  rcases this with rfl|rfl|rfl|rfl|rfl|rfl|rfl|rfl|rfl|rfl|rfl|rfl<;>(clear hj;show (_:FileS × Int)=_;kernel_rfl)
 ·by_cases h4:j<4
  ·have:j=0∨j=1∨j=2∨j=3:=by omega
   rcases this with rfl|rfl|rfl|rfl<;>(clear hj h4;show (_:PipeS × Int)=_;kernel_rfl)
  ·show _=if j<4 then _ else vP X1 j
   rw [if_neg h4]
abbrev Io4 (ow:List Int) (h:ow.length=8):ProcS:=⟨1,0,0,0,0,0,0,0,ow,h⟩
def kd (j:Int):Int:=if j=0 then 3 else j
def Ip4 (j n:Int):FileS × Int:=if n>0 then (⟨kd j,0,n,0⟩,1) else (.zero,0)
def pO (a b:Int):PipeS:=⟨0,0,min a 1,min b 1,[0,0,0,0,0,0,0,0,0,0,0,0,0,0,0,0,0,0,0,0,0,0,0,0,0,0,0,0,0,0,0,0],rfl⟩
def Ip2 (a b:Int):PipeS × Int:=if a>0∨b>0 then (pO a b,1) else (.zero,0)
def Ip7 (ow:List Int) (h:ow.length=8) (r:Int→Int):VW :=
 ⟨fun j=>if j=0 then (Io4 ow h,1) else (.zero,0),fun j=>if 0≤j∧j<3 then Ip4 j (r (j+1)) else (.zero,0),fun j=>if j=0 then Ip2 (r 2) (r 3) else if j<4 then (.zero,0) else vP X1 j⟩
abbrev rr (r:Int→Int) (v d:Int):Int→Int:=fun k=>if k=v then r k+d else r k
theorem VW.ext' {V V':VW} (h1:∀ j,V.S j=V'.S j) (h2:∀ j,V.F j=V'.F j) (h3:∀ j,V.P j=V'.P j):V=V':=by
 obtain ⟨a,b,c⟩:=V
 obtain ⟨a',b',c'⟩:=V'
 have e1:a=a':=funext h1
 have e2:b=b':=funext h2
 have e3:c=c':=funext h3
 rw [e1,e2,e3]
section
variable {ow:List Int} {h:ow.length=8} {r:Int→Int}
end
def cnt (v:Int):List Int→Int
 | []=>0
 | x::l=>(if x=v then 1 else 0)+cnt v l
theorem Gg9 (v:Int):∀ l:List Int,0≤cnt v l∧cnt v l≤l.length
 | []=>by simp [cnt]
 | x::l=>by
  have:=Gg9 v l
  unfold cnt;rw [List.length_cons];split<;>omega
theorem Hi3 (v:Int):∀ (l:List Int) (j:Nat),j<l.length→l.getD j 0=v→1≤cnt v l
 | [],j,h,_=>by simp at h
 | x::l,0,_,e=>by
  have:=Gg9 v l
  rw [List.getD_cons_zero] at e
  unfold cnt;rw [if_pos e];omega
 | x::l,j+1,h,e=>by
  rw [List.getD_cons_succ] at e
  have:=Hi3 v l j (by simpa using h) e
  unfold cnt;split<;>omega
theorem Hi7 (v w:Int):∀ (l:List Int) (j:Nat),j<l.length→cnt v (l.set j w)=cnt v l-(if l.getD j 0=v then 1 else 0)+(if w=v then 1 else 0)
 | [],j,h=>by simp at h
 | x::l,0,_=>by
  rw [List.set_cons_zero,List.getD_cons_zero,cnt,cnt];omega
 | x::l,j+1,h=>by
  have:=Hi7 v w l j (by simpa using h)
  rw [List.set_cons_succ,List.getD_cons_succ,cnt,cnt,this];omega
theorem Hw4 (l:List Int) (j n:Nat) (w:Int) (h:j<l.length):(l.set j w).getD n 0=if n=j then w else l.getD n 0:=by
 rw [List.getD_eq_getElem?_getD,List.getD_eq_getElem?_getD,List.getElem?_set]
 by_cases hj:j=n
 ·subst hj;simp [h]
 ·rw [if_neg hj,if_neg (fun e=>hj e.symm)]
structure Own8 (ow:List Int) (r:Int→Int):Prop where
 len:ow.length=8
 rng:∀ j:Nat,0≤ow.getD j 0∧ow.getD j 0≤3
 ct:∀ v:Int,1≤v→v≤3→r v=cnt v ow
theorem Own8.pos {ow:List Int} {r:Int→Int} (I:Own8 ow r) {j:Nat} (hj:j<8) (h:ow.getD j 0>0):1≤r (ow.getD j 0):=by
 rw [I.ct _ (by omega) (I.rng j).2];exact Hi3 _ _ j (by rw [I.len];exact hj) rfl
theorem Own8.nn {ow:List Int} {r:Int→Int} (I:Own8 ow r) {v:Int} (h:1≤v∧v≤3):0≤r v∧r v≤8:=by
 rw [I.ct v h.1 h.2];have:=Gg9 v ow;have:=I.len;omega
theorem Own8.set {ow:List Int} {r:Int→Int} (I:Own8 ow r) {j:Nat} (hj:j<8) {w:Int} (hw:0≤w∧w≤3) {r':Int→Int} (hr:∀ v:Int,1≤v→v≤3→r' v=r v-(if ow.getD j 0=v then 1 else 0)+(if w=v then 1 else 0)):Own8 (ow.set j w) r':=by
 refine ⟨by rw [List.length_set];exact I.len,fun n=>?_,fun v h1 h2=>?_⟩
 ·rw [Hw4 _ _ _ _ (by rw [I.len];exact hj)]
  split
  ·exact hw
  ·exact I.rng n
 ·rw [hr v h1 h2,Hi7 _ _ _ _ (by rw [I.len];exact hj),I.ct v h1 h2]
section
variable {ow:List Int} {h:ow.length=8} {r:Int→Int} (I:Own8 ow r)
include I
def r2 (r:Int→Int) (w v:Int):Int→Int:=rr (if w>0 then rr r w (-1) else r) v 1
end
def ow0:List Int:=[1,2,3,0,0,0,0,0]
def VD:VW:=Ip7 ow0 rfl (fun _=>1)
theorem In9:(E77 V1 0).1=L6 33 0 false:=by kernel_rfl
theorem Iq2:See (A49 X1 0).2 VD:=by
 refine (In2.pipe (i:=0) (by omega)).2.to (fun j hj=>?_) (fun j hj=>?_) fun j hj=>?_
 ·have:j=0∨j=1∨j=2∨j=3∨j=4∨j=5∨j=6∨j=7:=by omega
  rcases this with rfl|rfl|rfl|rfl|rfl|rfl|rfl|rfl<;>(clear hj;show (_:ProcS × Int)=_;kernel_rfl)
 ·have:j=0∨j=1∨j=2∨j=3∨j=4∨j=5∨j=6∨j=7∨j=8∨j=9∨j=10∨j=11:=by omega
  rcases this with rfl|rfl|rfl|rfl|rfl|rfl|rfl|rfl|rfl|rfl|rfl|rfl<;>(clear hj;show (_:FileS × Int)=_;kernel_rfl)
 ·have:j=0∨j=1∨j=2∨j=3∨j=4∨j=5:=by omega
  rcases this with rfl|rfl|rfl|rfl|rfl|rfl<;>(clear hj;show (_:PipeS × Int)=_;kernel_rfl)
theorem H05:(A49 X1 0).1=L6 33 0 false:=(In2.pipe (i:=0) (by omega)).1.trans In9
def XD:CX:=(A49 X1 0).2
theorem H86:See XD VD:=Iq2
theorem In7 {h:H} {ro:Bool} {e:TypeId} {sz:Nat} {a:Option Addr} {n c:Nat} {cs:List Value} {r:List HP} (m:Nat) (hm:m≤n) (o:Own h (slC ro e sz a n c cs::r)):Own h (slC ro e sz a m c (cs.take (m*sz))::r):=by
 cases a with
 | none =>
  obtain ⟨rfl,rfl,rfl,hs⟩:=o.slNone
  obtain rfl:m=0:=by omega
  simpa using o
 | some x =>
  obtain ⟨b,o',sp⟩:=x
  obtain ⟨pre,post,o2,h1,h2,h3,h4,h5,h6,h7⟩:=o.slOpen
  have hl:m*sz≤cs.length:=by rw [← h1];exact Nat.mul_le_mul_right _ hm
  have e1:pre++cs++post=pre++cs.take (m*sz)++(cs.drop (m*sz)++post):=by rw [List.append_assoc pre cs,List.append_assoc pre,← List.append_assoc (cs.take _),List.take_append_drop]
  rw [e1] at o2
  refine Own.slShut (b:=b) (o:=o') (sp:=sp) o2 ⟨by rw [List.length_take];omega,by omega,?_,h4,h5,h6,h7⟩
  rw [List.length_append,List.length_drop,← h1]
  have:(c-m)*sz=(c-n)*sz+(n*sz-m*sz):=by rw [← Nat.sub_mul,← Nat.add_mul];congr 1;omega
  omega
theorem Il0 {h:H} {e:TypeId} {sz:Nat} {a:Option Addr} {n c:Nat} {cs:List Value} {r:List HP} (o:Own h (slC false e sz a n c cs::r)):Own h (slC false e sz (B03 a) n n cs::r):=by
 cases a with
 | none=>obtain ⟨rfl,rfl,rfl,hs⟩:=o.slNone;exact o
 | some x =>
  obtain ⟨b,o',sp⟩:=x
  obtain ⟨pre,post,o2,h1,h2,h3,h4,h5,h6,h7⟩:=o.slOpen
  refine Own.slShut (b:=b) (o:=o') (sp:=none) o2 ⟨h1,by omega,by simp,fun h=>h4 (by omega),fun h=>absurd rfl h,h6,fun h=>?_⟩
  rcases Nat.eq_zero_or_pos c with hc|hc
  ·exact h7 hc
  ·have:=h4 hc;omega
theorem H23 {l:List HP} {h:H} {α:Type} {Q:α→H→Prop} {ro:Bool} {e:TypeId} {sz:Nat} {a:Option Addr} {n c:Nat} {cs:List Value} {z:Option (α × H)} (i:Nat) (hi:l[i]?=some (slC ro e sz a n c cs)) (m:Nat) (cs':List Value) (hm:m≤n) (hc:cs.take (m*sz)=cs')
  (k:Tr (l.set i (slC ro e sz a m c cs')) h z Q):Tr l h z Q:=fun o=>by
 subst hc;exact k (Own.back (h:=h) hi (In7 m hm (o.front hi)))
theorem Hj4 (a:Option Addr) (n c:Nat) (cs:List Value):Ct A8 R0 [.slice a n c] [slC false A3 1 a n c cs] fun v own=>v=.slice (B03 a) n n∧own [slC false A3 1 (B03 a) n n cs]:=by
 refine Ct.of Dg6 rfl fun h r=>Tr.eq (Dg2 ..) ?_;refine Je ?_
 refine P3 0 rfl fun hl hc _=>?_
 simp only [Int.toNat_natCast]
 (refine Ja ?_;unhygienic intros)
 refine Ys fun o=>?_
 refine ⟨?_,Il0 o⟩
 simp
abbrev bytesN (p:PipeS) (i:Nat):List UInt8:=(List.range i).map fun (j:Nat)=>p.data.getD (((p.head+j)%32).toNat) 0
abbrev H4 (p:PipeS):List UInt8:=bytesN p p.count.toNat
theorem Ah9 {p:PipeS} (h:okP p=true):(0≤p.head∧p.head≤31)∧(0≤p.count∧p.count≤32)∧(0≤p.readers∧p.readers≤8)∧(0≤p.writers∧p.writers≤8):=by
 simp only [okP,Bool.and_eq_true,decide_eq_true_eq] at h;omega
theorem Hi1 {l:List UInt8} {j:Nat} (h:j<l.length):(A0 l)[j]?=some (.int .u8 (l.getD j 0).toNat):=by
 unfold A0
 rw [List.getElem?_map,List.getElem?_eq_getElem h,List.getD_eq_getElem?_getD,List.getElem?_eq_getElem h];rfl
theorem H31 (p:PipeS) {j:Nat} (h:j<32):(E1 p)[4+j]?=some (.int .u8 (p.data.getD j 0).toNat):=by
 rw [show 4+j=j+4 by omega]
 exact Hi1 (by rw [p.len];exact h)
theorem Er0 (b:Nat) (p:PipeS) (hp:okP p=true):∀ (m i:Nat) (a:Option Addr) (ac:Nat),(i:Int)+m=p.count→CtJ G5 Aj6 Bd8 [(1,P0 b),(3,.slice a i ac),(9,int p.count),(10,int i)] [pt b (.cells B6 false (E1 p)),slC false A3 1 a i ac (A0 (bytesN p i))] fun v own =>
  ∃ a' c',v=.slice a' p.count.toNat c'∧own [slC false A3 1 a' p.count.toNat c' (A0 (H4 p))]
 | 0,i,a,ac,hi=>by
  obtain rfl:i=p.count.toNat:=by omega
  refine CtJ.of Dk7 fun h r=>Tr.eq (Ds3 ..) ?_;refine Je ?_
  refine Yf (by simp;omega) ?_
  refine Ys fun o=>?_
  exact ⟨a,ac,rfl,o.sub⟩
 | m+1,i,a,ac,hi=>by
  obtain ⟨r1,r2,r3,r4⟩:=Ah9 hp
  have e1:IntKind.wrap .i64 ((i:Int)+1)=((i+1:Nat):Int):=by rw [A7];omega
  have e2:IntKind.wrap .i64 (p.head+i)=p.head+i:=by rw [A7];omega
  have hg:=H31 p (j:=((p.head+i)%32).toNat) (by omega)
  refine CtJ.of Dk7 fun h r=>Tr.eq (Ds3 ..) ?_;refine Je ?_
  refine Yt (by simp;omega) ?_
  rw [e1]
  (refine Ja ?_;unhygienic intros)
  rw [e2,Hk3 (show 0≤p.head+(i:Int) by omega)]
  (refine Ja ?_;unhygienic intros)
  refine P3 2 rfl fun hl hc _=>?_
  refine Tr.xApd (new:=A0 [p.data.getD (((p.head+i)%32).toNat) 0]) ⟨rfl,rfl,by simp only [A9];omega⟩ fun a2 c2 h=>?_
  have H:=Er0 b p hp m (i+1) a2 c2 (by omega)
  refine (?_:Tr (pt b_1 _::pt b _::slC false A3 1 a2 (i+1) c2 (A0 (bytesN p i)++A0 [p.data.getD (((p.head+i)%32).toNat) 0])::_) _ _ _)
  rw [← Ik8,show bytesN p i++[p.data.getD (((p.head+i)%32).toNat) 0]=bytesN p (i+1) by unfold bytesN;rw [List.range_succ,List.map_append];rfl]
  refine Q9 [1,1] 1 rfl rfl ?_
  exact Yr H fun v h q=>q
theorem Eb5 (p:PipeS):(H4 p).length=p.count.toNat:=by simp [H4]
theorem Hy6 (p:PipeS) (hp:okP p=true):Ct A8 Aj6 [.agg ⟨E1 p⟩] [] fun v own=>∃ a c,v=.slice a p.count.toNat c∧own [slC false A3 1 a p.count.toNat c (A0 (H4 p))]:=by
 refine Ct.of Dk7 rfl fun h r=>Tr.eq (G89 ..) ?_;refine Je ?_
 (refine Ja ?_;unhygienic intros)
 refine Yc (Gx8 p) ?_;rintro _ h ⟨rfl,o⟩<;>refine Jh o ?_
 rw [hp]
 (refine Ja ?_;unhygienic intros)
 refine G4 false A3 1 (by omega) ?_
 have H:=fun b=>Er0 b p hp p.count.toNat 0 none 0 (by have:=Ah9 hp;omega)
 refine (?_:Tr (slC false A3 1 none 0 0 (A0 (bytesN p 0))::_) _ _ _)
 exact Yr (H _) fun v h q=>q
abbrev A82 (p:PipeS) (m:Nat):PipeS:=if 0<m then ⟨(p.head+m)%32,p.count-m,p.readers,p.writers,p.data,p.len⟩ else p
theorem Ia9 (p:PipeS) (hp:okP p=true) (n:Int) (hn:0≤n∧n≤32):Ct A8 B77 [.agg ⟨E1 p⟩,int n] [] fun v own=>∃ a c,v=.tuple ⟨[.agg ⟨E1 (A82 p (min n.toNat p.count.toNat))⟩,.slice a (min n.toNat p.count.toNat) c]⟩∧own [slC false A3 1 a (min n.toNat p.count.toNat) c (A0 ((H4 p).take (min n.toNat p.count.toNat)))]:=by
 obtain ⟨r1,r2,r3,r4⟩:=Ah9 hp
 refine Ct.of Hc8 rfl fun h r=>Tr.eq (Hc4 ..) ?_;refine Je ?_
 (refine Ja ?_;unhygienic intros)
 refine Yc (Hy6 p hp) ?_
 rintro _ h ⟨a,c,rfl,o⟩
 refine Jh o ?_
 refine Tr.dx ?_
 simp only [Z2,U4]
 have e:min (max n 0) ((p.count.toNat:Nat):Int)=((min n.toNat p.count.toNat:Nat):Int):=by omega
 have hle:min n.toNat p.count.toNat≤p.count.toNat:=by omega
 rw [e]
 simp only [Int.toNat_natCast]
 generalize min n.toNat p.count.toNat=m at hle
 refine P3 0 rfl fun hl hc _=>?_
 (refine Ja ?_;unhygienic intros)
 refine H23 0 rfl m (A0 ((H4 p).take m)) hle (by rw [Nat.mul_one,Gj4]) ?_
 refine (?_:Tr (slC false A3 1 a m c (A0 ((H4 p).take m))::_::_::_) _ _ _)
 by_cases hm:0<m
 ·rw [show A82 p m=⟨(p.head+m)%32,p.count-m,p.readers,p.writers,p.data,p.len⟩ from if_pos hm]
  refine Yt (by simpa using hm) ?_
  (refine Ja ?_;unhygienic intros)
  rw [show Int.tmod (IntKind.wrap .i64 (p.head+m)) 32=(p.head+m)%32 by rw [show IntKind.wrap .i64 (p.head+m)=p.head+m by rw [A7];omega,Hk3 (show 0≤p.head+(m:Int) by omega)],show IntKind.wrap .i64 (p.count-m)=p.count-m by rw [A7];omega]
  refine (?_:Tr (_::_::pt _ (.cells B6 false (E1 ⟨(p.head+m)%32,p.count-m,p.readers,p.writers,p.data,p.len⟩))::_) _ _ _)
  generalize (⟨(p.head+m)%32,p.count-m,p.readers,p.writers,p.data,p.len⟩:PipeS)=q
  (refine Ja ?_;unhygienic intros)
  refine Yc (Hj4 a m c (A0 ((H4 p).take m))) ?_;rintro _ h ⟨rfl,o⟩<;>refine Jh o ?_
  (refine Ja ?_;unhygienic intros)
  refine Ys fun o=>?_
  exact ⟨B03 a,m,rfl,o.sub⟩
 ·rw [show A82 p m=p from if_neg hm]
  refine Yf (by simpa using hm) ?_
  (refine Ja ?_;unhygienic intros)
  refine Yc (Hj4 a m c (A0 ((H4 p).take m))) ?_;rintro _ h ⟨rfl,o⟩<;>refine Jh o ?_
  (refine Ja ?_;unhygienic intros)
  refine Ys fun o=>?_
  exact ⟨B03 a,m,rfl,o.sub⟩
theorem Hw9 (p:PipeS) {j:Nat} (h:j<32) (x:UInt8):Dd6 (E1 p) (4+j) (.int .u8 x.toNat)=some (E1 ⟨p.head,p.count,p.readers,p.writers,p.data.set j x,by rw [List.length_set];exact p.len⟩):=by
 have e:Nat.blt (4+j) (E1 p).length=true:=by rw [Ab6 p.len];exact Nat.ble_eq_true_of_le (by omega)
 unfold Dd6
 rw [e,show 4+j=j+4 by omega]
 show some ((E1 p).set (j+4) _)=_
 simp only [E1,List.set_cons_succ,A0,List.map_set]
abbrev At2 (p:PipeS) (b:UInt8):PipeS:=⟨p.head,p.count+1,p.readers,p.writers,p.data.set (((p.head+p.count)%32).toNat) b,by rw [List.length_set];exact p.len⟩
def H0:PipeS→List UInt8→PipeS × Int
 | p,[]=>(p,0)
 | p,b::l=>if p.count=32 then (p,0) else ((H0 (At2 p b) l).1,(H0 (At2 p b) l).2+1)
theorem Ds4:∀ (l:List UInt8) (p:PipeS),0≤(H0 p l).2∧(H0 p l).2≤l.length
 | [],p=>by simp [H0]
 | b::l,p=>by
  have:=Ds4 l (At2 p b)
  unfold H0;split<;>simp<;>omega
theorem E34 {p:PipeS} (h:okP p=true) (hc:p.count≠32) (b:UInt8):okP (At2 p b)=true:=by
 have:=Ah9 h
 simp only [okP,Bool.and_eq_true,decide_eq_true_eq] at h ⊢;omega
theorem E97 (b1 b2:Nat) (pb:HP) (a:Option Addr) (ro:Bool) (cc:Nat) (l:List UInt8) (hl:l.length≤1000) [ks:IsSl pb a ro A3 1 l.length cc (A0 l)] (z:PipeS):∀ (m i:Nat) (n:Int) (p:PipeS),okP p=true→i+m=l.length→0≤n→n≤i →
  CtJ G5 Ao2 Bp3 [(2,P0 b1),(4,P0 b2),(6,int n),(13,.slice a l.length cc),(14,int l.length),(15,int i)] [pt b1 (.cells B6 false (E1 p)),pt b2 (.cells B6 false (E1 z)),pb] fun v own =>
   v=.tuple ⟨[.agg ⟨E1 (H0 p (l.drop i)).1⟩,int (n+(H0 p (l.drop i)).2)]⟩∧own [pb]
 | 0,i,n,p,hp,hi,h0,hn=>by
  rw [List.drop_eq_nil_of_le (by omega),show H0 p []=(p,0) from rfl,Int.add_zero]
  refine CtJ.of D47 fun h r=>Tr.eq (Ef6 ..) ?_;refine Je ?_
  refine Yf (by simp;omega) ?_
  (refine Ja ?_;unhygienic intros)
  refine Ys fun o=>?_
  exact ⟨rfl,o.sub⟩
 | m+1,i,n,p,hp,hi,h0,hn=>by
  obtain ⟨r1,r2,r3,r4⟩:=Ah9 hp
  have hil:i<l.length:=by omega
  have hg:=Hi1 hil
  have hd:l.drop i=l.getD i 0::l.drop (i+1):=by
   rw [List.drop_eq_getElem_cons hil,List.getD_eq_getElem?_getD,List.getElem?_eq_getElem hil];rfl
  rw [hd,H0]
  generalize l.getD i 0=x at hg
  have e1:IntKind.wrap .i64 ((i:Int)+1)=((i+1:Nat):Int):=by rw [A7];omega
  have e2:IntKind.wrap .i64 (n+1)=n+1:=by rw [A7];omega
  refine CtJ.of D47 fun h r=>Tr.eq (Ef6 ..) ?_;refine Je ?_
  refine Yt (by simp;omega) ?_
  rw [e1,e2]
  simp only [Int.toNat_natCast]
  (refine Ja ?_;unhygienic intros;repeat(refine Gw ?_;rintro px rfl;refine Ja ?_;unhygienic intros))
  by_cases hc:p.count=32
  ·rw [if_pos hc]
   refine Yt (by simpa using hc) ?_
   (refine Ja ?_;unhygienic intros)
   refine Ys fun o=>?_
   rw [Int.add_zero]
   exact ⟨rfl,o.sub⟩
  rw [if_neg hc]
  refine Yf (by simpa using hc) ?_
  have e3:Int.tmod (IntKind.wrap .i64 (p.head+p.count)) 32=(p.head+p.count)%32:=by
   rw [show IntKind.wrap .i64 (p.head+p.count)=p.head+p.count by rw [A7];omega,Hk3 (show 0≤p.head+p.count by omega)]
  have hs:=Hw9 p (j:=((p.head+p.count)%32).toNat) (by omega) x
  have H:=E97 b1 b2 pb (some px) ro cc l hl z m (i+1) (n+1) (At2 p x) (E34 hp hc x) (by omega) (by omega) (by omega)
  (refine Ja ?_;unhygienic intros)
  rw [e3]
  (refine Ja ?_;unhygienic intros)
  dsimp only
  rw [show IntKind.wrap .i64 (p.count+1)=p.count+1 by rw [A7];omega]
  refine (?_:Tr (pt b1 (.cells B6 false (E1 (At2 p x)))::pt b2 (.cells B6 false (E1 z))::pb::_) _ _ _)
  refine Yr H ?_
  intro v h q
  obtain ⟨rfl,o⟩:=q
  exact ⟨by rw [Int.add_right_comm,Int.add_assoc],o⟩
theorem Gg2 (p:PipeS) (hp:okP p=true) (pb:HP) (a:Option Addr) (ro:Bool) (cc:Nat) (l:List UInt8) (hl:l.length≤1000) [ks:IsSl pb a ro A3 1 l.length cc (A0 l)] :
  Ct A8 Ao2 [.agg ⟨E1 p⟩,.slice a l.length cc] [pb] fun v own=>v=.tuple ⟨[.agg ⟨E1 (H0 p l).1⟩,int (H0 p l).2]⟩∧own [pb]:=by
 refine Ct.of D47 rfl fun h r=>Tr.eq (Hr9 ..) ?_;refine Je ?_
 (refine Ja ?_;unhygienic intros)
 refine Yc (Gx8 p) ?_;rintro _ h ⟨rfl,o⟩<;>refine Jh o ?_
 rw [hp]
 (refine Ja ?_;unhygienic intros)
 have H:=fun b1 b2=>E97 b1 b2 pb a ro cc l hl .zero l.length 0 0 p hp (by omega) (by omega) (by omega)
 rw [List.drop_zero,Int.zero_add] at H
 refine (?_:Tr (pt _ (.cells B6 false (E1 .zero))::pt _ (.cells B6 false (E1 p))::pb::_) _ _ _)
 exact Yr (H _ _) fun v h q=>q
abbrev vT (X:CX):PipeS × Int:=P7 (rd X ⟨4,0⟩)
theorem H38 {nc:Nat}:Rin nc ⟨4,0⟩:=⟨by simp,by simp,by simp,by simp [V2]⟩
theorem Gi8 {nc:Nat} {X:CX} (c:Clean nc X) {i:Int} (h:0≤i∧i<3+nc) {q:PipeS} (ok:okP q=true):vT (A53 X i q)=vT X:=by
 have hl:(I0 q).length=Ac6 (3:Int):=by rw [Ay5 q.len];rfl
 show P7 (rd _ _)=_
 rw [Aj2 c (Bf5 h) H38 hl,if_neg (by simp)]
theorem Bt1 (e:Int):Ct A8 O6 [int e] [] fun v own=>v=.agg ⟨L6 0 e false⟩∧own []:=by
 refine Ct.of G09 rfl fun h r=>Tr.eq (G29 ..) ?_;refine Je ?_
 (refine Ja ?_;unhygienic intros)
 refine Ys fun o=>?_
 exact ⟨rfl,o.tail⟩
theorem E62 (f:FileS):Ct A8 Au6 [.agg ⟨Ai2 f⟩] [] fun v own=>v=.agg ⟨if f.flags=1 then L6 0 111 false else L6 0 0 true⟩∧own []:=by
 refine Ct.of Gr7 rfl fun h r=>Tr.eq (Gq8 ..) ?_;refine Je ?_
 (refine Jb ?_;unhygienic intros)
 by_cases h1:f.flags=1
 ·rw [if_pos h1]
  refine Yt (by simpa using h1) ?_
  refine Yc (Bt1 111) ?_;rintro _ h ⟨rfl,o⟩<;>(refine Jf o ?_;unhygienic intros)
  refine Ys fun o=>?_
  exact ⟨rfl,o.sub⟩
 ·rw [if_neg h1]
  refine Yf (by simpa using h1) ?_
  (refine Ja ?_;unhygienic intros)
  refine Ys fun o=>?_
  exact ⟨rfl,o.sub⟩
abbrev Df8 (b b1:Nat):Value:=.func (.func A27) ⟨[]⟩ ⟨[P0 b,P0 b1]⟩
theorem Gj3 (c k b b1:Nat) (F:Fr) (X:CX) (ok:FrOk F) (f:FileS) (q:PipeS):Ct A8 A27 [.agg ⟨E1 q⟩,P0 b,P0 b1] [cmC c k F X,pt b (.cells O3 false [P0 c]),pt b1 (.cells D0 false (Ai2 f))] fun v own =>
  v=.bool (A67 X f.pipe q).1∧own [cmC c k F (A67 X f.pipe q).2,pt b (.cells O3 false [P0 c]),pt b1 (.cells D0 false (Ai2 f))]:=by
 refine Ct.of G53 rfl fun h r=>Tr.eq (Gw1 ..) ?_;refine Je ?_
 (refine Ja ?_;unhygienic intros)
 refine Yc (E11 c k F X ok f.pipe q) ?_;rintro _ h ⟨rfl,o⟩<;>(refine Jf o ?_;unhygienic intros)
 refine Ys fun o=>?_
 exact ⟨rfl,o.sub⟩
def Ak5 (q:PipeS) (v:Value):List Value:=E1 q++[v]
theorem Dk3 (q:PipeS) (v:Value):(Ak5 q v).length=37:=by unfold Ak5;rw [List.length_append,Ab6 q.len];rfl
theorem H46 (q:PipeS) (x:Fn) (y z:Array Value):(Ak5 q (.func x y z)).all Value.oneCell=true:=by unfold Ak5;rw [List.all_append,Gn1];rfl
instance {q:PipeS} {v:Value}:LenC (Ak5 q v) 37:=⟨Dk3 q v⟩
instance {q:PipeS} {v:Value}:PartC (Ak5 q v) 0 37 (Ak5 q v):=⟨Bt8 (Dk3 q v)⟩
instance {q:PipeS} {v:Value}:PartC (Ak5 q v) 0 36 (E1 q):=⟨by
 unfold B70
 rw [Nat.ble_eq_true_of_le (by rw [Dk3];omega),List.drop_zero]
 unfold Ak5
 rw [List.take_left' (Ab6 q.len)];rfl⟩
instance {q:PipeS} {x:Fn} {y z:Array Value} {cs:List Value} [k:LenC cs 37]:SetsC cs 0 (Ak5 q (.func x y z)) (Ak5 q (.func x y z)):=⟨Bf2 k.ok (Dk3 q _) (H46 q x y z)⟩
theorem H03 (c k:Nat) (F:Fr) (X:CX) (ok:FrOk F) {nc:Nat} (cl:Clean nc X) (f:FileS) (h3:f.kind≠3) (hp:0≤f.pipe∧f.pipe<3+nc):Ct A8 Bw8 [P0 c,.agg ⟨Ai2 f⟩] [cmC c k F X] fun v own =>
  ∃ b b1,v=.tuple ⟨[.agg ⟨Ak5 (vP X f.pipe).1 (Df8 b b1)⟩,.bool ((vP X f.pipe).2==1)]⟩∧own [cmC c k F X,pt b (.cells O3 false [P0 c]),pt b1 (.cells D0 false (Ai2 f))]:=by
 refine Ct.of Ho9 rfl fun h r=>Tr.eq (Hk5 ..) ?_;refine Je ?_
 refine Yn fun b h=>?_
 refine Yn fun b1 h=>?_
 refine Yn fun b2 h=>?_
 (refine Ja ?_;unhygienic intros)
 refine Yf (by simpa using h3) ?_
 (refine Ja ?_;unhygienic intros)
 refine Yc (E27 c k F X ok f.pipe) ?_;rintro _ h ⟨rfl,o⟩<;>refine Jh o ?_
 rw [Dv8 cl hp]
 dsimp only
 generalize (vP X f.pipe).1=q
 (refine Jc ?_;unhygienic intros)
 refine Yn fun b3 h=>?_
 (refine Jc ?_;unhygienic intros)
 refine Tr.ck (Dk3 q _) ?_
 refine (?_:Tr _ _ (pAgg ⟨b2,0,none⟩ (Ak5 q (Df8 b b1)) _ _) _)
 (refine Ja ?_;unhygienic intros)
 refine Ys fun o=>?_
 exact ⟨b,b1,rfl,o.sub⟩
def Y0 (V:VW) (i fd n:Int):FileS × Int :=
 if (ofW V i fd).2≠0 then ((ofW V i fd).1.2,(ofW V i fd).2)
 else if (ofW V i fd).1.2.kind=2 then ((ofW V i fd).1.2,109)
 else if n<0∨n>32 then ((ofW V i fd).1.2,122)
 else ((ofW V i fd).1.2,0)
theorem Ii7 (c k:Nat) (F:Fr) (X:CX) (ok:FrOk F) (V:VW) (A:See X V) (i fd n:Int) (hi:0≤i∧i<8) (h3:(ofW V i fd).1.2.kind≠3):Ct A8 B66 [P0 c,int i,int fd,int n] [cmC c k F X] fun v own=>v=.tuple ⟨[.agg ⟨Ai2 (Y0 V i fd n).1⟩,int (Y0 V i fd n).2]⟩∧own [cmC c k F X]:=by
 have eo:=A.ofv hi fd
 unfold Y0
 refine Ct.of Hb6 rfl fun h r=>Tr.eq (Hb1 ..) ?_;refine Je ?_
 refine Yn fun b0 h=>?_
 refine Yc (Ib1 c k F X ok A.c i fd hi) ?_;rintro _ h ⟨rfl,o⟩<;>refine Jh o ?_
 rw [eo]
 (refine Jc ?_;unhygienic intros)
 refine Yn fun b1 h=>?_
 (refine Jb ?_;unhygienic intros)
 generalize (ofW V i fd).1.2=x at *
 generalize (ofW V i fd).2=e at *
 by_cases h1:e=0
 case neg =>
  rw [if_pos h1]
  refine Yt (by simpa using h1) ?_
  (refine Ja ?_;unhygienic intros)
  refine Ys fun o=>?_
  exact ⟨rfl,o.sub⟩
 have n1:¬ e≠0:=by simpa using h1
 rw [if_neg n1]
 refine Yf (by simpa using h1) ?_
 (refine Ja ?_;unhygienic intros)
 by_cases h2:x.kind=2
 ·rw [if_pos h2]
  refine Yt (by simpa using h2) ?_
  (refine Ja ?_;unhygienic intros)
  refine Ys fun o=>?_
  exact ⟨rfl,o.sub⟩
 rw [if_neg h2]
 refine Yf (by simpa using h2) ?_
 by_cases h4:n<0
 ·rw [if_pos (.inl h4)]
  refine Yb (Yt (by simpa using h4) ?_)
  refine Ys fun o=>(?_:Tr _ _ _ _) o;refine Je ?_
  refine Yt rfl ?_
  (refine Ja ?_;unhygienic intros)
  refine Ys fun o=>?_
  exact ⟨rfl,o.sub⟩
 refine Yb (Yf (by simpa using h4) ?_)
 refine Ys fun o=>(?_:Tr _ _ _ _) o;refine Je ?_
 by_cases h5:n>32
 ·rw [if_pos (.inr h5)]
  refine Yt (by simpa using h5) ?_
  (refine Ja ?_;unhygienic intros)
  refine Ys fun o=>?_
  exact ⟨rfl,o.sub⟩
 rw [if_neg (fun h=>h.elim h4 h5)]
 refine Yf (by simpa using h5) ?_
 (refine Ja ?_;unhygienic intros)
 refine Yf (by simpa using h3) ?_
 (refine Ja ?_;unhygienic intros)
 refine Ys fun o=>?_
 exact ⟨rfl,o.sub⟩
structure RdS where
 bs:List UInt8
 e:Int
 blk:Bool
def A77 (V:VW) (i fd n:Int):RdS × VW :=
 if (Y0 V i fd n).2≠0∨n=0 then (⟨[],(Y0 V i fd n).2,false⟩,V)
 else if (V.P (Y0 V i fd n).1.pipe).2≠1 then (⟨[],105,false⟩,V)
 else if (V.P (Y0 V i fd n).1.pipe).1.count=0 then
  if (Y0 V i fd n).1.kind=1∧(V.P (Y0 V i fd n).1.pipe).1.writers=0 then (⟨[],0,false⟩,V)
  else if (Y0 V i fd n).1.flags=1 then (⟨[],111,false⟩,V) else (⟨[],0,true⟩,V)
 else (⟨(H4 (V.P (Y0 V i fd n).1.pipe).1).take (min n.toNat (V.P (Y0 V i fd n).1.pipe).1.count.toNat),0,false⟩,
  wP V (Y0 V i fd n).1.pipe (A82 (V.P (Y0 V i fd n).1.pipe).1 (min n.toNat (V.P (Y0 V i fd n).1.pipe).1.count.toNat)))
theorem G72 {p:PipeS} (h:okP p=true) {m:Nat} (hm:m≤p.count.toNat):okP (A82 p m)=true:=by
 have:=Ah9 h
 unfold A82
 split
 ·simp only [okP,Bool.and_eq_true,decide_eq_true_eq];omega
 ·exact h
theorem E72 (c k:Nat) (F:Fr) (X:CX) (ok:FrOk F) (V:VW) (A:See X V) (i fd n:Int) (hi:0≤i∧i<8) (h3:(ofW V i fd).1.2.kind≠3) (hp:(Y0 V i fd n).2=0→0≤(Y0 V i fd n).1.pipe∧(Y0 V i fd n).1.pipe<6) :
  Ct A8 A44 [P0 c,int i,int fd,int n] [cmC c k F X] fun v own=>∃ a cap X',See X' (A77 V i fd n).2∧vT X'=vT X ∧
   v=.agg ⟨[int (A77 V i fd n).1.bs.length,int (A77 V i fd n).1.e,.slice a (A77 V i fd n).1.bs.length cap,.bool (A77 V i fd n).1.blk]⟩ ∧
   own [cmC c k F X',slC false A3 1 a (A77 V i fd n).1.bs.length cap (A0 (A77 V i fd n).1.bs)]:=by
 have nil:∀ {h:NN.H} {r:List HP},Own h (cmC c k F X::r)→Own h (cmC c k F X::slC false A3 1 none 0 0 (A0 [])::r):=fun o=>(o.slNil false A3 (by omega)).perm (List.Perm.swap _ _ _)
 have hk3:(Y0 V i fd n).2=0→(Y0 V i fd n).1.kind≠3:=by
  intro h;unfold Y0 at h ⊢;repeat' split
  all_goals exact h3
 have hn:(Y0 V i fd n).2=0→0≤n∧n≤32:=by
  intro h;unfold Y0 at h
  split at h
  ·rename_i h1;exact absurd h h1
  ·split at h
   ·cases h
   ·split at h
    ·cases h
    ·omega
 unfold A77
 refine Ct.of G69 rfl fun h r=>Tr.eq (Gz4 ..) ?_;refine Je ?_
 refine Yn fun b0 h=>?_
 refine Yc (Ii7 c k F X ok V A i fd n hi h3) ?_;rintro _ h ⟨rfl,o⟩<;>refine Jh o ?_
 generalize (Y0 V i fd n).1=x at *
 generalize (Y0 V i fd n).2=e at *
 (refine Jc ?_;unhygienic intros)
 refine Yn fun b1 h=>?_
 (refine Jb ?_;unhygienic intros)
 by_cases h1:e≠0∨n=0
 ·rw [if_pos h1]
  have hg:∀ {h:NN.H} {r:List HP},Tr (pt b1 (.cells D0 false (Ai2 x))::cmC c k F X::pt b0 (.cells J7 false (L6 0 0 false))::r) h (bnd (A8 O6 [int e] h) fun r_3 hv_5=>aAgg r_3 fun x_2=>ck (List.length x_2=4) (pAgg ⟨b0,0,none⟩ x_2 hv_5 fun hv_6=>gAgg ⟨b0,0,none⟩ 4 hv_6 fun x_3=>some (Value.agg ⟨x_3⟩,hv_6)))
   fun (v:Value) h'=>∃ a cap X',See X' V∧vT X'=vT X∧v=.agg ⟨[int 0,int e,.slice a 0 cap,.bool false]⟩∧Own h' (cmC c k F X'::slC false A3 1 a 0 cap (A0 [])::r):=by
   intro h r
   refine Yc (Bt1 e) ?_;rintro _ h ⟨rfl,o⟩<;>(refine Jf o ?_;unhygienic intros)
   refine Ys fun o=>?_
   exact ⟨none,0,X,A,rfl,rfl,nil o.sub⟩
  by_cases h2:e=0
  ·refine Yb (Yf (by simpa using h2) ?_)
   refine Ys fun o=>(?_:Tr _ _ _ _) o;refine Je ?_
   refine Yt (by simpa using h1.resolve_left (by simpa using h2)) ?_
   exact hg
  ·refine Yb (Yt (by simpa using h2) ?_)
   refine Ys fun o=>(?_:Tr _ _ _ _) o;refine Je ?_
   refine Yt rfl ?_
   exact hg
 rw [if_neg h1]
 have h2:e=0:=Classical.byContradiction fun h=>h1 (.inl h)
 have h0:n≠0:=fun h=>h1 (.inr h)
 have hpx:=hp h2
 have hnn:=hn h2
 have hkk:=hk3 h2
 subst h2
 refine Yb (Yf rfl ?_)
 refine Ys fun o=>(?_:Tr _ _ _ _) o;refine Je ?_
 refine Yf (by simpa using h0) ?_
 (refine Ja ?_;unhygienic intros)
 refine Yc (H03 c k F X ok A.c x hkk (by omega)) ?_
 rintro _ h ⟨b,b2,rfl,o⟩
 refine Jh o ?_
 have hvp:=A.p x.pipe hpx
 rw [hvp]
 have hq:(V.P x.pipe).2=1→okP (V.P x.pipe).1=true:=fun h=>by
  rcases Ic5 A.c (i:=x.pipe) (by omega) with ⟨h6,_⟩|⟨_,h6⟩
  ·rw [hvp,h] at h6;cases h6
  ·rw [hvp] at h6;exact h6
 generalize hqq:(V.P x.pipe).1=q at *
 generalize (V.P x.pipe).2=st at *
 (refine Jc ?_;unhygienic intros)
 refine Yn fun b3 h=>?_
 (refine Jb ?_;unhygienic intros)
 by_cases h5:st=1
 case neg =>
  rw [if_pos h5]
  refine Yt (by simpa using h5) ?_
  refine Yc (Bt1 105) ?_;rintro _ h ⟨rfl,o⟩<;>(refine Jf o ?_;unhygienic intros)
  refine Ys fun o=>?_
  exact ⟨none,0,X,A,rfl,rfl,nil o.sub⟩
 have n5:¬ st≠1:=by simpa using h5
 rw [if_neg n5]
 refine Yf (by simpa using h5) ?_
 replace hq:=hq h5
 obtain ⟨r1,r2,r3,r4⟩:=Ah9 hq
 (refine Jb ?_;unhygienic intros)
 by_cases h6:q.count=0
 ·rw [if_pos h6]
  refine Yb (Yt (by simpa using h6) ?_)
  (refine Jb ?_;unhygienic intros)
  have hw:∀ {h:NN.H} {r:List HP},Tr (pt b3 (.cells Bz9 false (Ak5 q (Df8 b b2)))::cmC c k F X::pt b (.cells O3 false [P0 c])::pt b2 (.cells D0 false (Ai2 x))::pt b1 (.cells D0 false (Ai2 x))::pt b0 (.cells J7 false (L6 0 0 false))::r) h
    (gAgg ⟨b1,0,none⟩ 4 h fun x_14=>bnd (A8 Au6 [.agg ⟨x_14⟩] h) fun r_8 hv_15=>aAgg r_8 fun x_15=>ck (List.length x_15=4) (pAgg ⟨b0,0,none⟩ x_15 hv_15 fun hv_16=>gAgg ⟨b0,0,none⟩ 4 hv_16 fun x_16=>some (Value.agg ⟨x_16⟩,hv_16)))
    fun (v:Value) h'=>∃ a cap X',See X' (if x.flags=1 then ((⟨[],111,false⟩:RdS),V) else (⟨[],0,true⟩,V)).2∧vT X'=vT X∧v=.agg ⟨[int (if x.flags=1 then ((⟨[],111,false⟩:RdS),V) else (⟨[],0,true⟩,V)).1.bs.length,int (if x.flags=1 then ((⟨[],111,false⟩:RdS),V) else (⟨[],0,true⟩,V)).1.e,.slice a (if x.flags=1 then ((⟨[],111,false⟩:RdS),V) else (⟨[],0,true⟩,V)).1.bs.length cap,.bool (if x.flags=1 then ((⟨[],111,false⟩:RdS),V) else (⟨[],0,true⟩,V)).1.blk]⟩∧Own h' (cmC c k F X'::slC false A3 1 a (if x.flags=1 then ((⟨[],111,false⟩:RdS),V) else (⟨[],0,true⟩,V)).1.bs.length cap (A0 (if x.flags=1 then ((⟨[],111,false⟩:RdS),V) else (⟨[],0,true⟩,V)).1.bs)::r):=by
   intro h r
   (refine Ja ?_;unhygienic intros)
   refine Yc (E62 x) ?_;rintro _ h ⟨rfl,o⟩<;>refine Jh o ?_
   by_cases h7:x.flags=1
   ·rw [if_pos h7]
    (refine Ja ?_;unhygienic intros)
    refine Ys fun o=>?_
    rw [if_pos h7]
    exact ⟨none,0,X,A,rfl,rfl,nil o.sub⟩
   ·rw [if_neg h7]
    (refine Ja ?_;unhygienic intros)
    refine Ys fun o=>?_
    rw [if_neg h7]
    exact ⟨none,0,X,A,rfl,rfl,nil o.sub⟩
  by_cases h8:x.kind=1
  ·by_cases h9:q.writers=0
   ·rw [if_pos ⟨h8,h9⟩]
    refine Ys fun o=>(?_:Tr _ _ _ _) o;refine Je ?_
    refine Yb (Yt (by simpa using h8) ?_)
    (refine Jb ?_;unhygienic intros)
    refine Ys fun o=>(?_:Tr _ _ _ _) o;refine Je ?_
    refine Yt (by simpa using h9) ?_
    (refine Ja ?_;unhygienic intros)
    refine Ys fun o=>?_
    exact ⟨none,0,X,A,rfl,rfl,nil o.sub⟩
   ·rw [if_neg (fun h=>h9 h.2)]
    refine Ys fun o=>(?_:Tr _ _ _ _) o;refine Je ?_
    refine Yb (Yt (by simpa using h8) ?_)
    (refine Jb ?_;unhygienic intros)
    refine Ys fun o=>(?_:Tr _ _ _ _) o;refine Je ?_
    refine Yf (by simpa using h9) ?_
    (refine Jb ?_;unhygienic intros)
    refine Yt (by simpa using h6) ?_
    exact hw
  ·rw [if_neg (fun h=>h8 h.1)]
   refine Ys fun o=>(?_:Tr _ _ _ _) o;refine Je ?_
   refine Yb (Yf (by simpa using h8) ?_)
   refine Ys fun o=>(?_:Tr _ _ _ _) o;refine Je ?_
   refine Yf rfl ?_
   (refine Jb ?_;unhygienic intros)
   refine Yt (by simpa using h6) ?_
   exact hw
 rw [if_neg h6]
 refine Yb (Yf (by simpa using h6) ?_)
 refine Ys fun o=>(?_:Tr _ _ _ _) o;refine Je ?_
 refine Yb (Yf rfl ?_)
 refine Ys fun o=>(?_:Tr _ _ _ _) o;refine Je ?_
 refine Yf rfl ?_
 (refine Jb ?_;unhygienic intros)
 refine Yf (by simpa using h6) ?_
 (refine Ja ?_;unhygienic intros)
 refine Yc (Ia9 q hq n hnn) ?_
 rintro _ h ⟨a,cap,rfl,o⟩
 refine Jh o ?_
 have hm:min n.toNat q.count.toNat≤q.count.toNat:=by omega
 have hlen:((H4 q).take (min n.toNat q.count.toNat)).length=min n.toNat q.count.toNat:=by
  rw [List.length_take,Eb5];omega
 rw [hlen]
 have hok:=G72 hq hm
 generalize min n.toNat q.count.toNat=m at *
 obtain ⟨w1,_⟩:=A55 A.c (i:=x.pipe) (by omega) hok
 have hwp:=A.wp hpx hok
 have hvt:=Gi8 A.c (i:=x.pipe) (by omega) hok
 generalize A82 q m=q2 at *
 have hfv:(Ak5 q (Df8 b b2))[36]?=some (Df8 b b2):=by
  unfold Ak5;rw [List.getElem?_append_right (by rw [Ab6 q.len];exact Nat.le_refl _),Ab6 q.len];rfl
 (refine Jc ?_;unhygienic intros)
 refine Yn fun b4 h=>?_
 (refine Ja ?_;unhygienic intros)
 simp only [List.nil_append]
 refine Yc (Gj3 c k b b2 F X ok x q2) ?_;rintro _ h ⟨rfl,o⟩<;>refine Jh o ?_
 rw [w1]
 dsimp only
 (refine Ja ?_;unhygienic intros)
 refine Ys fun o=>?_
 exact ⟨a,cap,A53 X x.pipe q2,hwp,hvt,rfl,o.sub⟩
structure WrS where
 n:Int
 e:Int
 blk:Bool
def B93 (V:VW) (i fd:Int) (l:List UInt8):WrS × VW :=
 if (ofW V i fd).2≠0 then (⟨0,(ofW V i fd).2,false⟩,V)
 else if (ofW V i fd).1.2.kind≠2 then (⟨0,109,false⟩,V)
 else if l.length>32 then (⟨0,122,false⟩,V)
 else if l.length=0 then (⟨0,0,false⟩,V)
 else if (V.P (ofW V i fd).1.2.pipe).2≠1 then (⟨0,105,false⟩,V)
 else if 32-(V.P (ofW V i fd).1.2.pipe).1.count=0∨l.length≤8∧32-(V.P (ofW V i fd).1.2.pipe).1.count<l.length then
  if (ofW V i fd).1.2.flags=1 then (⟨0,111,false⟩,V) else (⟨0,0,true⟩,V)
 else (⟨(H0 (V.P (ofW V i fd).1.2.pipe).1 l).2,0,false⟩,wP V (ofW V i fd).1.2.pipe (H0 (V.P (ofW V i fd).1.2.pipe).1 l).1)
theorem Dl5:∀ (l:List UInt8) (p:PipeS),okP p=true→okP (H0 p l).1=true
 | [],p,h=>h
 | b::l,p,h=>by
  unfold H0
  split
  ·exact h
  ·rename_i hc;exact Dl5 l _ (E34 h hc b)
abbrev wrL (w:WrS):List Value:=L6 w.n w.e w.blk
theorem Go0 (c k:Nat) (F:Fr) (X:CX) (ok:FrOk F) (V:VW) (A:See X V) (i fd:Int) (hi:0≤i∧i<8) (hp:(ofW V i fd).2=0→(ofW V i fd).1.2.kind=2→0≤(ofW V i fd).1.2.pipe∧(ofW V i fd).1.2.pipe<6∧(V.P (ofW V i fd).1.2.pipe).1.readers≠0)
  (pb:HP) (a:Option Addr) (ro:Bool) (cc:Nat) (l:List UInt8) (hl:l.length≤A9) [ks:IsSl pb a ro A3 1 l.length cc (A0 l)] :
  Ct A8 Ba4 [P0 c,int i,int fd,.slice a l.length cc] [cmC c k F X,pb] fun v own=>∃ X',See X' (B93 V i fd l).2∧vT X'=vT X∧v=.agg ⟨wrL (B93 V i fd l).1⟩∧own [cmC c k F X',pb]:=by
 have eo:=A.ofv hi fd
 unfold B93
 refine Ct.of Gt5 rfl fun h r=>Tr.eq (Gq9 ..) ?_;refine Je ?_
 refine Yn fun b0 h=>?_
 refine Yc (Ib1 c k F X ok A.c i fd hi) ?_;rintro _ h ⟨rfl,o⟩<;>refine Jh o ?_
 rw [eo]
 (refine Jc ?_;unhygienic intros)
 refine Yn fun b1 h=>?_
 (refine Jb ?_;unhygienic intros)
 generalize (ofW V i fd).1.2=x at *
 generalize (ofW V i fd).2=e at *
 by_cases h1:e=0
 case neg =>
  rw [if_pos h1]
  refine Yt (by simpa using h1) ?_
  refine Yc (Bt1 e) ?_;rintro _ h ⟨rfl,o⟩<;>(refine Jf o ?_;unhygienic intros)
  refine Ys fun o=>?_
  exact ⟨X,A,rfl,rfl,o.sub⟩
 have n1:¬ e≠0:=by simpa using h1
 rw [if_neg n1]
 refine Yf (by simpa using h1) ?_
 (refine Jb ?_;unhygienic intros)
 by_cases h2:x.kind=2
 case neg =>
  rw [if_pos h2]
  refine Yt (by simpa using h2) ?_
  refine Yc (Bt1 109) ?_;rintro _ h ⟨rfl,o⟩<;>(refine Jf o ?_;unhygienic intros)
  refine Ys fun o=>?_
  exact ⟨X,A,rfl,rfl,o.sub⟩
 have n2:¬ x.kind≠2:=by simpa using h2
 rw [if_neg n2]
 refine Yf (by simpa using h2) ?_
 obtain ⟨hp0,hp6,hrd⟩:=hp h1 h2
 by_cases h3:l.length>32
 ·rw [if_pos h3]
  refine Yt (by rw [decide_eq_true_iff];omega) ?_
  refine Yc (Bt1 122) ?_;rintro _ h ⟨rfl,o⟩<;>(refine Jf o ?_;unhygienic intros)
  refine Ys fun o=>?_
  exact ⟨X,A,rfl,rfl,o.sub⟩
 rw [if_neg h3]
 refine Yf (by rw [decide_eq_false_iff_not];omega) ?_
 by_cases h4:l.length=0
 ·rw [if_pos h4]
  refine Yt (by rw [beq_iff_eq];omega) ?_
  (refine Ja ?_;unhygienic intros)
  refine Ys fun o=>?_
  exact ⟨X,A,rfl,rfl,o.sub⟩
 rw [if_neg h4]
 refine Yf (by rw [beq_eq_false_iff_ne];omega) ?_
 (refine Ja ?_;unhygienic intros)
 refine Yc (H03 c k F X ok A.c x (by omega) (by omega)) ?_
 rintro _ h ⟨b,b2,rfl,o⟩
 refine Jh o ?_
 have hvp:=A.p x.pipe ⟨hp0,hp6⟩
 rw [hvp]
 have hq:(V.P x.pipe).2=1→okP (V.P x.pipe).1=true:=fun h=>by
  rcases Ic5 A.c (i:=x.pipe) (by omega) with ⟨h6,_⟩|⟨_,h6⟩
  ·rw [hvp,h] at h6;cases h6
  ·rw [hvp] at h6;exact h6
 generalize hqq:(V.P x.pipe).1=q at *
 generalize (V.P x.pipe).2=st at *
 (refine Jc ?_;unhygienic intros)
 refine Yn fun b3 h=>?_
 (refine Jb ?_;unhygienic intros)
 by_cases h5:st=1
 case neg =>
  rw [if_pos h5]
  refine Yt (by simpa using h5) ?_
  refine Yc (Bt1 105) ?_;rintro _ h ⟨rfl,o⟩<;>(refine Jf o ?_;unhygienic intros)
  refine Ys fun o=>?_
  exact ⟨X,A,rfl,rfl,o.sub⟩
 have n5:¬ st≠1:=by simpa using h5
 rw [if_neg n5]
 refine Yf (by simpa using h5) ?_
 replace hq:=hq h5
 obtain ⟨r1,r2,r3,r4⟩:=Ah9 hq
 have e1:IntKind.wrap .i64 (32-q.count)=32-q.count:=by rw [A7];omega
 (refine Jb ?_;unhygienic intros)
 refine Yf (by simpa using hrd) ?_
 (refine Jb ?_;unhygienic intros)
 rw [e1]
 by_cases a1:32-q.count=0
 ·rw [if_pos (.inl a1)]
  refine Yb (Yt (by rw [beq_iff_eq];exact a1) ?_)
  refine Ys fun o=>(?_:Tr _ _ _ _) o;refine Je ?_
  refine Yt rfl ?_
  (refine Ja ?_;unhygienic intros)
  refine Yc (E62 x) ?_;rintro _ h ⟨rfl,o⟩<;>refine Jh o ?_
  by_cases h7:x.flags=1
  ·rw [if_pos h7,if_pos h7]
   (refine Ja ?_;unhygienic intros)
   refine Ys fun o=>?_
   exact ⟨X,A,rfl,rfl,o.sub⟩
  ·rw [if_neg h7,if_neg h7]
   (refine Ja ?_;unhygienic intros)
   refine Ys fun o=>?_
   exact ⟨X,A,rfl,rfl,o.sub⟩
 refine Yb (Yf (by rw [beq_eq_false_iff_ne];exact a1) ?_)
 by_cases a2:l.length≤8
 ·by_cases a3:32-q.count<l.length
  ·rw [if_pos (.inr ⟨a2,a3⟩)]
   refine Yb (Yt (by rw [decide_eq_true_iff];omega) ?_)
   refine Ys fun o=>(?_:Tr _ _ _ _) o;refine Je ?_
   refine Ys fun o=>(?_:Tr _ _ _ _) o;refine Je ?_
   refine Yt (by rw [decide_eq_true_iff];exact a3) ?_
   (refine Ja ?_;unhygienic intros)
   refine Yc (E62 x) ?_;rintro _ h ⟨rfl,o⟩<;>refine Jh o ?_
   by_cases h7:x.flags=1
   ·rw [if_pos h7,if_pos h7]
    (refine Ja ?_;unhygienic intros)
    refine Ys fun o=>?_
    exact ⟨X,A,rfl,rfl,o.sub⟩
   ·rw [if_neg h7,if_neg h7]
    (refine Ja ?_;unhygienic intros)
    refine Ys fun o=>?_
    exact ⟨X,A,rfl,rfl,o.sub⟩
  ·rw [if_neg (fun h=>h.elim a1 fun h=>a3 h.2)]
   refine Yb (Yt (by rw [decide_eq_true_iff];omega) ?_)
   refine Ys fun o=>(?_:Tr _ _ _ _) o;refine Je ?_
   refine Ys fun o=>(?_:Tr _ _ _ _) o;refine Je ?_
   refine Yf (by rw [decide_eq_false_iff_not];exact a3) ?_
   (refine Ja ?_;unhygienic intros)
   refine Yc (Gg2 q hq pb a ro cc l (by omega)) ?_;rintro _ h ⟨rfl,o⟩<;>refine Jh o ?_
   have hok:=Dl5 l q hq
   obtain ⟨w1,_⟩:=A55 A.c (i:=x.pipe) (by omega) hok
   have hwp:=A.wp ⟨hp0,hp6⟩ hok
   have hvt:=Gi8 A.c (i:=x.pipe) (by omega) hok
   generalize (H0 q l).1=q2 at *
   have hfv:(Ak5 q (Df8 b b2))[36]?=some (Df8 b b2):=by
    unfold Ak5;rw [List.getElem?_append_right (by rw [Ab6 q.len];exact Nat.le_refl _),Ab6 q.len];rfl
   (refine Jc ?_;unhygienic intros)
   refine Yn fun b4 h=>?_
   (refine Ja ?_;unhygienic intros)
   simp only [List.nil_append]
   refine Yc (Gj3 c k b b2 F X ok x q2) ?_;rintro _ h ⟨rfl,o⟩<;>refine Jh o ?_
   rw [w1]
   dsimp only
   (refine Ja ?_;unhygienic intros)
   refine Ys fun o=>?_
   exact ⟨A53 X x.pipe q2,hwp,hvt,rfl,o.sub⟩
 ·rw [if_neg (fun h=>h.elim a1 fun h=>a2 h.1)]
  refine Yb (Yf (by rw [decide_eq_false_iff_not];omega) ?_)
  refine Ys fun o=>(?_:Tr _ _ _ _) o;refine Je ?_
  refine Ys fun o=>(?_:Tr _ _ _ _) o;refine Je ?_
  refine Yf rfl ?_
  (refine Ja ?_;unhygienic intros)
  refine Yc (Gg2 q hq pb a ro cc l (by omega)) ?_;rintro _ h ⟨rfl,o⟩<;>refine Jh o ?_
  have hok:=Dl5 l q hq
  obtain ⟨w1,_⟩:=A55 A.c (i:=x.pipe) (by omega) hok
  have hwp:=A.wp ⟨hp0,hp6⟩ hok
  have hvt:=Gi8 A.c (i:=x.pipe) (by omega) hok
  generalize (H0 q l).1=q2 at *
  have hfv:(Ak5 q (Df8 b b2))[36]?=some (Df8 b b2):=by
   unfold Ak5;rw [List.getElem?_append_right (by rw [Ab6 q.len];exact Nat.le_refl _),Ab6 q.len];rfl
  (refine Jc ?_;unhygienic intros)
  refine Yn fun b4 h=>?_
  (refine Ja ?_;unhygienic intros)
  simp only [List.nil_append]
  refine Yc (Gj3 c k b b2 F X ok x q2) ?_;rintro _ h ⟨rfl,o⟩<;>refine Jh o ?_
  rw [w1]
  dsimp only
  (refine Ja ?_;unhygienic intros)
  refine Ys fun o=>?_
  exact ⟨A53 X x.pipe q2,hwp,hvt,rfl,o.sub⟩
theorem Go8 (l:List UInt8) (j n:Nat) (x:UInt8) (h:j<l.length):(l.set j x).getD n 0=if n=j then x else l.getD n 0:=by
 rw [List.getD_eq_getElem?_getD,List.getD_eq_getElem?_getD,List.getElem?_set]
 by_cases hj:j=n
 ·subst hj;simp [h]
 ·rw [if_neg hj,if_neg (fun e=>hj e.symm)]
theorem Hn9 {p:PipeS} (hp:okP p=true) (hc:p.count≠32) (b:UInt8):H4 (At2 p b)=H4 p++[b]:=by
 obtain ⟨r1,r2,r3,r4⟩:=Ah9 hp
 have hl:=p.len
 have hj:((p.head+p.count)%32).toNat<p.data.length:=by rw [hl];omega
 have e:(At2 p b).count.toNat=p.count.toNat+1:=by show (p.count+1).toNat=_;omega
 unfold H4
 rw [e]
 unfold bytesN
 rw [List.range_succ,List.map_append]
 congr 1
 ·refine List.map_congr_left fun j hj2=>?_
  have:=List.mem_range.1 hj2
  show (p.data.set _ b).getD (((p.head+j)%32).toNat) 0=_
  rw [Go8 _ _ _ _ hj,if_neg (by omega)]
 ·show [(p.data.set _ b).getD (((p.head+(p.count.toNat:Nat))%32).toNat) 0]=[b]
  rw [Go8 _ _ _ _ hj,if_pos (by rw [show ((p.count.toNat:Nat):Int)=p.count by omega])]
theorem Gq1:∀ (l:List UInt8) (p:PipeS),okP p=true→(H0 p l).2=min (l.length:Int) (32-p.count)∧(H0 p l).1.count=p.count+(H0 p l).2∧H4 (H0 p l).1=H4 p++l.take (H0 p l).2.toNat∧(H0 p l).1.readers=p.readers∧(H0 p l).1.writers=p.writers
 | [],p,h=>by
  have:=Ah9 h
  refine ⟨by show (0:Int)=min ((([]:List UInt8).length:Nat):Int) (32-p.count);rw [List.length_nil];omega,by simp [H0],by simp [H0],rfl,rfl⟩
 | b::l,p,h=>by
  have hr:=Ah9 h
  unfold H0
  by_cases hc:p.count=32
  ·rw [if_pos hc]
   refine ⟨by simp;omega,by simp,by simp,rfl,rfl⟩
  ·rw [if_neg hc]
   obtain ⟨h1,h2,h3,h4,h5⟩:=Gq1 l (At2 p b) (E34 h hc b)
   have hn:=Ds4 l (At2 p b)
   have hk:(At2 p b).count=p.count+1:=rfl
   refine ⟨?_,?_,?_,h4,h5⟩
   ·show (H0 (At2 p b) l).2+1=_
    rw [h1,hk,List.length_cons];omega
   ·show (H0 (At2 p b) l).1.count=p.count+((H0 (At2 p b) l).2+1)
    rw [h2,hk];omega
   ·show H4 (H0 (At2 p b) l).1=H4 p++(b::l).take ((H0 (At2 p b) l).2+1).toNat
    rw [h3,Hn9 h hc,show ((H0 (At2 p b) l).2+1).toNat=(H0 (At2 p b) l).2.toNat+1 by omega,List.take_succ_cons]
    simp
theorem Hr3 {p:PipeS} (hp:okP p=true) {m:Nat} (hm:m≤p.count.toNat):H4 (A82 p m)=(H4 p).drop m∧(A82 p m).count=p.count-m∧(A82 p m).readers=p.readers∧(A82 p m).writers=p.writers:=by
 obtain ⟨r1,r2,r3,r4⟩:=Ah9 hp
 by_cases h0:0<m
 case neg =>
  obtain rfl:m=0:=by omega
  rw [show A82 p 0=p from if_neg h0]
  exact ⟨by simp,by simp,rfl,rfl⟩
 rw [show A82 p m=⟨(p.head+m)%32,p.count-m,p.readers,p.writers,p.data,p.len⟩ from if_pos h0]
 refine ⟨?_,rfl,rfl,rfl⟩
 unfold H4 bytesN
 dsimp only
 rw [← List.map_drop,List.range_eq_range' ,List.range_eq_range',List.drop_range',Nat.mul_one,Nat.zero_add]
 rw [show (p.count-(m:Int)).toNat=p.count.toNat-m by omega]
 rw [show List.range' m (p.count.toNat-m)=(List.range' 0 (p.count.toNat-m)).map fun j=>m+j by rw [List.map_add_range'];rfl]
 rw [List.map_map]
 refine List.map_congr_left fun j hj=>?_
 show p.data.getD ((((p.head+m)%32+j)%32).toNat) 0=p.data.getD (((p.head+((m+j:Nat):Int))%32).toNat) 0
 congr 1
 omega
theorem Hc2 (c k:Nat) (F:Fr) (X:CX) (ok:FrOk F) (p:PipeS):Ct A8 N6 [P0 c,.agg ⟨E1 p⟩] [cmC c k F X] fun v own=>v=.bool (B58 X p).1∧own [cmC c k F (B58 X p).2]:=by
 refine Ct.of Dg9 rfl fun h r=>Tr.eq (Dh1 ..) ?_;refine Je ?_
 (refine Ja ?_;unhygienic intros)
 refine Yc (D79 p) ?_
 rintro v h (⟨hk,a,rfl,o⟩|⟨hk,rfl,o⟩)
 ·refine (?_:Tr _ _ _ _) o
  refine Je ?_
  (refine Ja ?_;unhygienic intros)
  have J:=Da1 c k F X ⟨4,0⟩ ok (I0 p) true a 40 (fun _=>Ay5 p.len)
  rw [Ay5 p.len] at J
  refine Yc (J) ?_;rintro _ h ⟨rfl,o⟩<;>(refine Jf o ?_;unhygienic intros)
  refine Ys fun o=>?_
  unfold B58;rw [hk]
  exact ⟨rfl,o.sub⟩
 ·refine (?_:Tr _ _ _ _) o
  refine Je ?_
  (refine Ja ?_;unhygienic intros)
  refine Yc (Di7 c k F X ⟨4,0⟩ ok) ?_;rintro _ h ⟨rfl,o⟩<;>(refine Jf o ?_;unhygienic intros)
  refine Ys fun o=>?_
  unfold B58;rw [hk,Ep7]
  exact ⟨rfl,o.sub⟩
theorem In6 {nc:Nat} {X:CX} (c:Clean nc X):((vT X).2=0∧(vT X).1=.zero)∨((vT X).2=1∧okP (vT X).1=true):=by
 have:=c.ok ⟨4,0⟩ (by simp) (by simp) (by simp) (by simp [V2])
 have hk:(vT X).2≠2:=this
 unfold vT P7 at hk ⊢
 split
 ·exact .inl ⟨rfl,rfl⟩
 ·split
  ·rename_i h2
   unfold isP at h2
   simp only [Bool.and_eq_true] at h2
   exact .inr ⟨rfl,h2.1⟩
  ·rename_i h1 h2;simp [h1,h2] at hk
theorem Hb8 {nc:Nat} {X:CX} (c:Clean nc X):Ed2 X=(vT X,X):=Bu9 P7 .zero c H38 rfl
abbrev Ik1 (X:CX) (p:PipeS):CX:=Bq7 X ⟨4,0⟩ (I0 p)
theorem Gj1 {nc:Nat} {X:CX} (c:Clean nc X) {p:PipeS} (ok:okP p=true):B58 X p=(true,Ik1 X p):=by
 unfold B58;rw [ok];exact Bu0 c H38 _
theorem Ia4 (c k:Nat) (F:Fr) (X:CX) (ok:FrOk F) {nc:Nat} (cl:Clean nc X) (ht:(vT X).2=1) (pb:HP) (a:Option Addr) (ro:Bool) (cc:Nat) (l:List UInt8) (hl:l.length≤1000) [ks:IsSl pb a ro A3 1 l.length cc (A0 l)] :
  Ct A8 Bz1 [P0 c,.slice a l.length cc] [cmC c k F X,pb] fun v own=>v=int (H0 (vT X).1 l).2∧own [cmC c k F (Ik1 X (H0 (vT X).1 l).1),pb]:=by
 have hq:okP (vT X).1=true:=by
  rcases In6 cl with ⟨h,_⟩|⟨_,h⟩
  ·rw [ht] at h;cases h
  ·exact h
 have hw:=Gj1 cl (Dl5 l _ hq)
 refine Ct.of G48 rfl fun h r=>Tr.eq (Gx4 ..) ?_;refine Je ?_
 refine Yc (Hj6 c k F X ok) ?_;rintro _ h ⟨rfl,o⟩<;>refine Jh o ?_
 rw [Ge1 cl]
 (refine Ja ?_;unhygienic intros)
 refine Yc (Gx3 c k F X ok) ?_;rintro _ h ⟨rfl,o⟩<;>refine Jh o ?_
 rw [Hb8 cl]
 dsimp only
 rw [ht]
 generalize (vT X).1=q at *
 (refine Jc ?_;unhygienic intros)
 refine Yn fun b1 h=>?_
 (refine Jb ?_;unhygienic intros)
 refine Yf rfl ?_
 (refine Jb ?_;unhygienic intros)
 refine Yc (Gg2 q hq pb a ro cc l hl) ?_;rintro _ h ⟨rfl,o⟩<;>refine Jh o ?_
 generalize (H0 q l).1=q2 at *
 (refine Jc ?_;unhygienic intros)
 refine Yn fun b2 h=>?_
 (refine Jb ?_;unhygienic intros)
 refine Yc (Hc2 c k F X ok q2) ?_;rintro _ h ⟨rfl,o⟩<;>refine Jh o ?_
 rw [hw]
 dsimp only
 (refine Jb ?_;unhygienic intros)
 refine Ys fun o=>?_
 exact ⟨rfl,o.sub⟩
theorem of2:ofW VD 0 2=((2,⟨2,0,1,0⟩),0):=by kernel_rfl
theorem vTD:(vT XD).2=1∧(vT XD).1.count=0:=⟨by kernel_rfl,by kernel_rfl⟩
def VA1:VW:=(B93 VD 0 2 [7,8,9]).2
def VA2:VW:=(A77 VA1 0 1 8).2
theorem aw1:(B93 VD 0 2 [7,8,9]).1=⟨3,0,false⟩:=by kernel_rfl
theorem aw2:(A77 VA1 0 1 8).1=⟨[7,8,9],0,false⟩:=by kernel_rfl
theorem aw3:(A77 VA2 0 1 8).1=⟨[],0,true⟩:=by kernel_rfl
theorem E87:Ct A8 Bb2 [] [] fun v own=>v=.bool true∧own []:=by
 refine Ct.of Gt3 rfl fun h r=>Tr.eq (Gq6 ..) ?_;refine Je ?_
 refine Yc (Gz7) ?_;rintro _ h ⟨a,rfl,o⟩<;>refine Jh o ?_
 (refine Ja ?_;unhygienic intros)
 refine Yc (Hh5 a) ?_
 rintro _ h ⟨k,c,w,m,K',rfl,o⟩
 refine Jh o ?_
 (refine Ja ?_;unhygienic intros)
 refine Yc (G18 c k F1 X1 B71 E28 0 (by omega)) ?_;rintro _ h ⟨rfl,o⟩<;>refine Jh o ?_
 rw [H05,show (A49 X1 0).2=XD from rfl]
 (refine Jc ?_;unhygienic intros)
 refine Yn fun b0 h=>?_
 refine Ah3 0 rfl 1 3 rfl (by omega) ?_
 have J:=Go0 c k F1 XD B71 VD H86 0 2 (by omega) (fun _ _=>by rw [of2];exact ⟨by decide,by decide,by rw [show (VD.P (⟨2,0,1,0⟩:FileS).pipe).1.readers=1 by kernel_rfl];decide⟩) (slC false A3 1 (some ⟨b0,0,none⟩) 3 3 (A0 [7,8,9])) (some ⟨b0,0,none⟩) false 3 [7,8,9] (by simp [A9])
 rw [aw1] at J
 refine (?_:Tr (slC false A3 1 (some ⟨b0,0,none⟩) 3 3 (A0 [7,8,9])::cmC c k F1 XD::_) _ _ _)
 refine Yc J ?_
 rintro _ h ⟨XA,s1,t1,rfl,o⟩
 refine Jh o ?_
 (refine Jc ?_;unhygienic intros)
 refine Yn fun b1 h=>?_
 (refine Ja ?_;unhygienic intros)
 have o1:(ofW VA1 0 1)=((1,⟨1,0,1,0⟩),0):=by kernel_rfl
 have m1:Y0 VA1 0 1 8=(⟨1,0,1,0⟩,0):=by kernel_rfl
 have J:=E72 c k F1 XA B71 VA1 s1 0 1 8 (by omega) (by rw [o1];decide) (fun _=>by rw [m1];exact ⟨by decide,by decide⟩)
 rw [aw2] at J
 refine Yc J ?_
 rintro _ h ⟨a2,cap,XB,s2,t2,rfl,o⟩
 refine Jh o ?_
 (refine Jc ?_;unhygienic intros)
 refine Yn fun b2 h=>?_
 (refine Ja ?_;unhygienic intros)
 have o1:(ofW VA2 0 1)=((1,⟨1,0,1,0⟩),0):=by kernel_rfl
 have m1:Y0 VA2 0 1 8=(⟨1,0,1,0⟩,0):=by kernel_rfl
 have J:=E72 c k F1 XB B71 VA2 s2 0 1 8 (by omega) (by rw [o1];decide) (fun _=>by rw [m1];exact ⟨by decide,by decide⟩)
 rw [aw3] at J
 refine Yc J ?_
 rintro _ h ⟨a3,cap3,XC,s3,t3,rfl,o⟩
 refine Jh o ?_
 (refine Jc ?_;unhygienic intros)
 refine Yn fun b3 h=>?_
 (refine Jb ?_;unhygienic intros)
 refine Yb (Yt rfl ?_)
 (refine Jb ?_;unhygienic intros)
 refine Ys fun o=>(?_:Tr _ _ _ _) o;refine Je ?_
 refine Yb (Yt rfl ?_)
 (refine Jb ?_;unhygienic intros)
 refine Ys fun o=>(?_:Tr _ _ _ _) o;refine Je ?_
 refine Yb (Yt (by simp) ?_)
 (refine Jb ?_;unhygienic intros)
 refine Ys fun o=>(?_:Tr _ _ _ _) o;refine Je ?_
 refine Yb (Yt rfl ?_)
 refine Yn fun b4 h=>?_
 refine Ah3 0 rfl 1 1 rfl (by omega) ?_
 have ht:vT XC=vT XD:=t3.trans (t2.trans t1)
 have J:=Ia4 c k F1 XC B71 s3.c (by rw [ht];exact vTD.1) (slC false A3 1 (some ⟨b4,0,none⟩) 1 1 (A0 [1])) (some ⟨b4,0,none⟩) false 1 [1] (by simp)
 have hT:(H0 (vT XD).1 [1]).2=1:=by
  unfold H0;rw [if_neg (by rw [vTD.2];decide)];rfl
 rw [ht,hT] at J
 refine (?_:Tr (slC false A3 1 (some ⟨b4,0,none⟩) 1 1 (A0 [1])::_::cmC c k F1 XC::_) _ _ _)
 refine Yc J ?_
 rintro _ h ⟨rfl,o⟩
 refine Jh o ?_
 (refine Jb ?_;unhygienic intros)
 refine Ys fun o=>(?_:Tr _ _ _ _) o;refine Je ?_
 refine Ys fun o=>?_
 exact ⟨rfl,o.sub⟩
theorem Eq8 (V:VW) (j:Int) (q:PipeS) (i fd:Int):ofW (wP V j q) i fd=ofW V i fd:=rfl
theorem H61 (V:VW) (j:Int) (q:PipeS):(wP V j q).P j=(q,1):=by
 show (if j=j then (q,(1:Int)) else V.P j)=_
 rw [if_pos rfl]
theorem Ib2 (V:VW) (j:Int) (q q':PipeS):wP (wP V j q) j q'=wP V j q':=by
 refine VW.ext' (fun _=>rfl) (fun _=>rfl) fun n=>?_
 show (if n=j then _ else if n=j then _ else _)=if n=j then _ else _
 by_cases h:n=j
 ·rw [if_pos h,if_pos h]
 ·rw [if_neg h,if_neg h,if_neg h]
theorem Ig3 {V:VW} {j:Int} {q:PipeS} (h:V.P j=(q,1)):wP V j q=V:=by
 refine VW.ext' (fun _=>rfl) (fun _=>rfl) fun n=>?_
 show (if n=j then _ else _)=_
 by_cases hn:n=j
 ·rw [if_pos hn,hn,h]
 ·rw [if_neg hn]
section
variable {V:VW} {i fd f r fl j:Int} {q:PipeS}
theorem Ij0 (ho:ofW V i fd=((f,⟨2,j,r,fl⟩),0)) (l:List UInt8) (hl:l.length≤32):B93 (wP V j q) i fd l=if l.length=0 then (⟨0,0,false⟩,wP V j q) else if 32-q.count=0∨l.length≤8∧32-q.count<l.length then (if fl=1 then (⟨0,111,false⟩,wP V j q) else (⟨0,0,true⟩,wP V j q)) else (⟨(H0 q l).2,0,false⟩,wP V j (H0 q l).1):=by
 unfold B93
 rw [Eq8,ho]
 dsimp only
 rw [H61]
 rw [if_neg (by simp),if_neg (by simp),if_neg (by omega)]
 by_cases h0:l.length=0
 ·rw [if_pos h0,if_pos h0]
 ·rw [if_neg h0,if_neg h0,if_neg (by simp),Ib2]
theorem If6 (ho:ofW V i fd=((f,⟨1,j,r,fl⟩),0)) {n:Int} (hn:0≤n∧n≤32):Y0 (wP V j q) i fd n=(⟨1,j,r,fl⟩,0):=by
 unfold Y0
 rw [Eq8,ho]
 dsimp only
 rw [if_neg (by simp),if_neg (by simp),if_neg (by omega)]
theorem Ii6 (ho:ofW V i fd=((f,⟨1,j,r,fl⟩),0)) {n:Int} (hn:0≤n∧n≤32):A77 (wP V j q) i fd n=if n=0 then (⟨[],0,false⟩,wP V j q) else if q.count=0 then (if q.writers=0 then (⟨[],0,false⟩,wP V j q) else if fl=1 then (⟨[],111,false⟩,wP V j q) else (⟨[],0,true⟩,wP V j q)) else (⟨(H4 q).take (min n.toNat q.count.toNat),0,false⟩,wP V j (A82 q (min n.toNat q.count.toNat))):=by
 unfold A77
 rw [If6 ho hn]
 dsimp only
 rw [H61]
 by_cases h0:n=0
 ·rw [if_pos (.inr h0),if_pos h0]
 ·rw [if_neg (fun h=>h.elim (by simp) h0),if_neg h0,if_neg (by simp)]
  dsimp only
  by_cases h1:q.count=0
  ·rw [if_pos h1,if_pos h1]
   by_cases h2:q.writers=0
   ·rw [if_pos ⟨rfl,h2⟩,if_pos h2]
   ·rw [if_neg (fun h=>h2 h.2),if_neg h2]
  ·rw [if_neg h1,if_neg h1,Ib2]
end
theorem Im6 {V:VW} {i fd f r fl j:Int} {q:PipeS} (ho:ofW V i fd=((f,⟨1,j,r,fl⟩),0)):(ofW (wP V j q) i fd).1.2.kind≠3:=by rw [Eq8,ho];simp
theorem In8 {V:VW} {i fd f r fl j:Int} (n:Int) {q:PipeS} (ho:ofW V i fd=((f,⟨1,j,r,fl⟩),0)) (hj:0≤j∧j<6):(Y0 (wP V j q) i fd n).2=0→0≤(Y0 (wP V j q) i fd n).1.pipe∧(Y0 (wP V j q) i fd n).1.pipe<6:=by
 intro _
 unfold Y0
 rw [Eq8,ho]
 dsimp only
 rw [if_neg (by simp),if_neg (by simp)]
 split<;>exact hj
theorem Io5 {V:VW} {i fd f r fl j:Int} {q:PipeS} (ho:ofW V i fd=((f,⟨2,j,r,fl⟩),0)) (hj:0≤j∧j<6) (hq:q.readers≠0):(ofW (wP V j q) i fd).2=0→(ofW (wP V j q) i fd).1.2.kind=2→0≤(ofW (wP V j q) i fd).1.2.pipe∧(ofW (wP V j q) i fd).1.2.pipe<6∧((wP V j q).P (ofW (wP V j q) i fd).1.2.pipe).1.readers≠0:=fun _ _=>by
 rw [Eq8,ho]
 dsimp only
 rw [H61]
 exact ⟨hj.1,hj.2,hq⟩
def VF1:VW:=(Ga9 VD 0).2
def VF (f t:Int):VW:=(Ay3 (Ay3 VF1 f 1).2 t 2).2
structure FtOk (f t:Int):Prop where
 rf:0≤f∧f<8
 rt:0≤t∧t<8
 c1:(Ay3 VF1 f 1).1=L6 0 0 false
 c2:(Ay3 (Ay3 VF1 f 1).2 t 2).1=L6 0 0 false
 p0:(VF f t).P 0=(A20,1)
 o1:ofW (VF f t) f 2=((2,⟨2,0,1,0⟩),0)
 o2:ofW (VF f t) t 1=((1,⟨1,0,1,0⟩),0)
 o3:ofW (VF f t) f 1=((0,.zero),109)
 o4:ofW (VF f t) t 2=((0,.zero),109)
 c5:∀ hd d dl,(Ay3 (wP (VF f t) 0 ⟨hd,0,1,1,d,dl⟩) f 2).1=L6 0 0 false
 o6:∀ hd d dl,ofW (Ay3 (wP (VF f t) 0 ⟨hd,0,1,1,d,dl⟩) f 2).2 t 1=((1,⟨1,0,1,0⟩),0)
 r6:∀ hd d dl,(A77 (Ay3 (wP (VF f t) 0 ⟨hd,0,1,1,d,dl⟩) f 2).2 t 1 5).1=⟨[],0,false⟩
theorem In5:(Ga9 VD 0).1=L6 1 0 false:=by kernel_rfl
def U1 (V:VW) (hd:Int) (d:List UInt8) (dl:d.length=32):List Value × VW:=Ay3 (wP V 0 ⟨hd,0,1,0,d,dl⟩) 0 1
def U2 (V:VW) (hd:Int) (d:List UInt8) (dl:d.length=32):List Value × VW:=E77 (U1 V hd d dl).2 0
def U3 (V:VW) (hd:Int) (d:List UInt8) (dl:d.length=32):List Value × VW:=Ay3 (U2 V hd d dl).2 0 1
structure EndOk (V:VW):Prop where
 o1:ofW V 0 1=((1,⟨1,0,1,0⟩),0)
 u1:∀ hd d dl,(U1 V hd d dl).1=L6 0 0 false
 u2:∀ hd d dl,(U2 V hd d dl).1=L6 33 0 false
 u3:∀ hd d dl,(U3 V hd d dl).1=L6 0 0 false
 o2:∀ hd d dl,ofW (U3 V hd d dl).2 0 2=((2,⟨2,0,1,0⟩),0)
 p0:∀ hd d dl,(U3 V hd d dl).2.P 0=(Ij4 A20,1)
 s1:∀ hd d dl,(Ai0 (U3 V hd d dl).2 0).2=0
 s2:∀ hd d dl,((U3 V hd d dl).2.S 0).1.pending=0
 s3:∀ hd d dl,((U3 V hd d dl).2.S 0).1.ignored=0
 s4:∀ hd d dl,((U3 V hd d dl).2.S 0).1.state=1
structure OpS where
 k:Int
 i:Int
 a:Int
 b:Int
 d:List UInt8
abbrev opL (g:Option Addr × Nat) (x:OpS):List Value:=[int x.k,int x.i,int x.a,int x.b,.slice g.1 x.d.length g.2]
abbrev opF (g:Option Addr × Nat) (x:OpS):HP:=slC true A3 1 g.1 x.d.length g.2 (A0 x.d)
def Gk4 (gs:List (Option Addr × Nat)) (xs:List OpS):List Value:=(List.zip gs xs).flatMap fun p=>opL p.1 p.2
theorem G11:∀ (gs:List (Option Addr × Nat)) (xs:List OpS),gs.length=xs.length→(Gk4 gs xs).length=xs.length*5
 | [],[],_=>rfl
 | g::gs,x::xs,h=>by
  have:=G11 gs xs (by simpa using h)
  simp only [Gk4,List.zip_cons_cons,List.flatMap_cons,List.length_append] at this ⊢
  rw [this];simp;omega
theorem Hk1:∀ (gs:List (Option Addr × Nat)) (xs:List OpS) (i:Nat) (g:Option Addr × Nat) (x:OpS),gs[i]?=some g→xs[i]?=some x→((Gk4 gs xs).drop (i*5)).take 5=opL g x
 | g'::gs,x'::xs,0,g,x,h,h2=>by
  simp at h h2;subst h;subst h2
  simp [Gk4]
 | g'::gs,x'::xs,i+1,g,x,h,h2=>by
  have:=Hk1 gs xs i g x (by simpa using h) (by simpa using h2)
  rw [← this]
  have e:(i+1)*5=5+i*5:=by omega
  rw [e,← List.drop_drop]
  simp [Gk4]
theorem Ij3 (l:List UInt8) (b e:Nat):ByteArray.extract (bs l) b e=bs ((l.take e).drop b):=by
 apply ByteArray.ext
 rw [ByteArray.data_extract]
 apply Array.ext'
 rw [Array.toList_extract]
 simp [List.extract,List.drop_take]
theorem fl0:VF1.P 0=(A20,1):=by kernel_rfl
theorem fl1 {i:Int} (hi:i=0∨i=1):ofW VF1 i 1=((1,⟨1,0,2,0⟩),0):=by rcases hi with rfl|rfl<;>kernel_rfl
theorem fl2 {i:Int} (hi:i=0∨i=1):ofW VF1 i 2=((2,⟨2,0,2,0⟩),0):=by rcases hi with rfl|rfl<;>kernel_rfl
theorem Ik5 {V:VW} {i fd f r j n:Int} {q:PipeS} (hq:okP q=true) (hw:q.writers≠0) (ho:ofW V i fd=((f,⟨1,j,r,0⟩),0)) (hn:0≤n∧n≤32) :
  ∃ q',A77 (wP V j q) i fd n=(⟨(H4 q).take (min n.toNat q.count.toNat),0,decide (q.count=0∧n>0)⟩,wP V j q')∧okP q'=true∧q'.readers=q.readers∧q'.writers=q.writers∧H4 q'=(H4 q).drop (min n.toNat q.count.toNat)∧q'.count=q.count-(min n.toNat q.count.toNat:Nat):=by
 have hr:=Ah9 hq
 rw [Ii6 ho hn]
 by_cases h0:n=0
 ·subst h0
  rw [if_pos rfl,show min (0:Int).toNat q.count.toNat=0 by simp]
  exact ⟨q,by rw [decide_eq_false (by omega)];simp,hq,rfl,rfl,by simp,by simp⟩
 rw [if_neg h0]
 by_cases h1:q.count=0
 ·rw [if_pos h1,if_neg hw,if_neg (by decide)]
  have hb:H4 q=[]:=List.eq_nil_of_length_eq_zero (by rw [Eb5];omega)
  exact ⟨q,by rw [hb,decide_eq_true (by omega)];simp,hq,rfl,rfl,by rw [hb];simp,by omega⟩
 ·rw [if_neg h1]
  obtain ⟨t1,t2,t3,t4⟩:=Hr3 hq (m:=min n.toNat q.count.toNat) (by omega)
  exact ⟨A82 q (min n.toNat q.count.toNat),by rw [decide_eq_false (by omega)],G72 hq (by omega),t3,t4,t1,t2⟩
theorem In1 {V:VW} {i fd f r j:Int} {q:PipeS} (hq:okP q=true) (ho:ofW V i fd=((f,⟨2,j,r,0⟩),0)) (l:List UInt8) (hl:l.length≤32) :
  ∃ (q':PipeS) (m:Nat) (b:Bool),B93 (wP V j q) i fd l=(⟨m,0,b⟩,wP V j q')∧okP q'=true∧q'.readers=q.readers∧q'.writers=q.writers∧H4 q'=H4 q++l.take m∧q'.count=q.count+m∧m≤l.length ∧
   ((l.length>0∧((l.length≤8∧32-q.count<l.length)∨32-q.count=0)∧m=0∧b=true)∨(¬ (l.length>0∧((l.length≤8∧32-q.count<l.length)∨32-q.count=0))∧(m:Int)=min (l.length:Int) (32-q.count)∧b=false)):=by
 have hr:=Ah9 hq
 rw [Ij0 ho l hl]
 by_cases h0:l.length=0
 ·rw [if_pos h0]
  exact ⟨q,0,false,rfl,hq,rfl,rfl,by simp,by simp,by omega,.inr ⟨by omega,by omega,rfl⟩⟩
 rw [if_neg h0]
 by_cases hb:32-q.count=0∨l.length≤8∧32-q.count<l.length
 ·rw [if_pos hb,if_neg (by decide)]
  exact ⟨q,0,true,rfl,hq,rfl,rfl,by simp,by simp,by omega,.inl ⟨by omega,by omega,rfl,rfl⟩⟩
 ·rw [if_neg hb]
  obtain ⟨h1,h2,h3,h4,h5⟩:=Gq1 l q hq
  have hm:(((H0 q l).2.toNat:Nat):Int)=(H0 q l).2:=by have:=Ds4 l q;omega
  refine ⟨(H0 q l).1,(H0 q l).2.toNat,false,by rw [hm],Dl5 l q hq,h4,h5,h3,by rw [hm];exact h2,by have:=Ds4 l q;omega,.inr ⟨by omega,by rw [hm];exact h1,rfl⟩⟩
abbrev Dn8 (a:Option Addr) (lc:Nat) (gs:List (Option Addr × Nat)) (xs:List OpS):HP:=slC true A63 5 a xs.length lc (Gk4 gs xs)
def D59 (k c:Nat) (a:Option Addr) (lc:Nat) (gs:List (Option Addr × Nat)) (xs:List OpS) (i:Nat):Prop :=
 ∀ (X:CX) (q:PipeS) (I O:List UInt8),okP q=true→q.readers=1→q.writers=1→I=O++H4 q→I.length≤32*i→See X (wP VF1 0 q) →
  CtJ G5 B9 An0 [(0,.slice a xs.length lc),(4,P0 c),(7,.string (bs I)),(8,.string (bs O)),(9,int i)] [cmC c k F1 X,Dn8 a lc gs xs,G1 opF gs xs] fun v own=>v=.bool true∧own []
theorem Ga5 (k c:Nat) (a:Option Addr) (lc:Nat) (gs:List (Option Addr × Nat)) (xs:List OpS) (i:Nat) (hi:i<60) (ih:D59 k c a lc gs xs (i+1)) (X:CX) (q:PipeS) (I O:List UInt8) (hq:okP q=true) (hr:q.readers=1) (hw:q.writers=1) (hI:I=O++H4 q) (hl:I.length≤32*(i+1)) (A:See X (wP VF1 0 q)) :
  CtJ G5 B9 An4 [(0,.slice a xs.length lc),(4,P0 c),(7,.string (bs I)),(8,.string (bs O)),(9,int i)] [cmC c k F1 X,Dn8 a lc gs xs,G1 opF gs xs] fun v own=>v=.bool true∧own []:=by
 have e1:IntKind.wrap .i64 ((i:Int)+1)=((i+1:Nat):Int):=by rw [A7];omega
 have hlen:O.length≤I.length:=by rw [hI,List.length_append];omega
 have hx:ByteArray.extract (bs I) 0 O.length=bs O:=by
  rw [Ij3,hI];simp
 refine CtJ.of Al9 fun h r=>Tr.eq (Ea6 ..) ?_;refine Je ?_
 rw [e1,Ak3,Ak3]
 refine Yb (Yf (by rw [decide_eq_false_iff_not];omega) ?_)
 refine Tr.ck (by omega) ?_
 rw [Int.toNat_natCast,hx]
 refine Ys fun o=>(?_:Tr _ _ _ _) o;refine Je ?_
 refine Yf (by simp) ?_
 exact Yr (ih X q I O hq hr hw hI hl A) fun v h q=>q
theorem Hm1 (k c b b2:Nat) (a:Option Addr) (lc:Nat) (gs:List (Option Addr × Nat)) (xs:List OpS) (i:Nat) (hi:i<60) (ih:D59 k c a lc gs xs (i+1)) (X:CX) (q q':PipeS) (I O:List UInt8) (hq:okP q'=true) (hr:q'.readers=1) (hw:q'.writers=1) (hI:I=O++H4 q) (hl:I.length≤32*i)
  (g:Option Addr × Nat) (x:OpS) (hg:gs[i]?=some g) (hx:xs[i]?=some x) (hd:x.d.length≤32) (m:Nat) (hm:m≤x.d.length) (bb:Bool) (hb:bb=true→m=0) (hy:H4 q'=H4 q++x.d.take m) (A:See X (wP VF1 0 q')) :
  CtJ G5 B9 Am5 [(0,.slice a xs.length lc),(4,P0 c),(7,.string (bs I)),(8,.string (bs O)),(9,int i),(10,P0 b),(14,P0 b2),(15,int m)] [cmC c k F1 X,Dn8 a lc gs xs,pt b (.cells A63 false (opL g x)),pt b2 (.cells J7 false (L6 m 0 bb)),opF g x,D95 opF gs xs i] fun v own=>v=.bool true∧own []:=by
 have H:=Ga5 k c a lc gs xs i hi ih X q' (I++x.d.take m) O hq hr hw (by rw [hy,hI,List.append_assoc]) (by rw [List.length_append,List.length_take];omega) A
 have hml:(x.d.take m).length≤32:=by rw [List.length_take];omega
 refine CtJ.of Al9 fun h r=>Tr.eq (Eb8 ..) ?_;refine Je ?_
 refine P3 4 rfl fun hl2 hc2 _=>?_
 (refine Jb ?_;unhygienic intros)
 refine Yb (Yf rfl ?_)
 (refine Jb ?_;unhygienic intros)
 refine Ys fun o=>(?_:Tr _ _ _ _) o;refine Je ?_
 refine Yb (Yf (by simp) ?_)
 (refine Jb ?_;unhygienic intros)
 cases bb
 ·refine Yb (Yf rfl ?_)
  refine Ys fun o=>(?_:Tr _ _ _ _) o;refine Je ?_
  refine Ys fun o=>(?_:Tr _ _ _ _) o;refine Je ?_
  refine Yf rfl ?_
  (refine Ja ?_;unhygienic intros)
  simp only [Int.toNat_natCast]
  refine Tr.xCellsP (n:=x.d.length) (sz:=1) (cs:=A0 x.d) (xs:=A0 (x.d.take m)) ⟨by omega,Gj4 ..⟩ ?_
  (refine Ja ?_;unhygienic intros)
  refine Tr.ck (show I.length+(x.d.take m).length≤A9 by simp only [A9];omega) ?_
  rw [show bs I++(ByteArray.mk ⟨x.d.take m⟩)=bs (I++x.d.take m) from Al3 ..]
  refine Ah4 opF gs xs i hg hx ?_
  refine Q9 [1,1,0] 2 rfl rfl ?_
  exact Yr H fun v h q=>q
 ·obtain rfl:=hb rfl
  refine Yb (Yt rfl ?_)
  refine Ys fun o=>(?_:Tr _ _ _ _) o;refine Je ?_
  refine Ys fun o=>(?_:Tr _ _ _ _) o;refine Je ?_
  refine Yf rfl ?_
  (refine Ja ?_;unhygienic intros)
  simp only [Int.toNat_natCast]
  refine Tr.xCellsP (n:=x.d.length) (sz:=1) (cs:=A0 x.d) (xs:=A0 (x.d.take 0)) ⟨by omega,Gj4 ..⟩ ?_
  (refine Ja ?_;unhygienic intros)
  refine Tr.ck (show I.length+(x.d.take 0).length≤A9 by simp only [A9];omega) ?_
  rw [show bs I++(ByteArray.mk ⟨x.d.take 0⟩)=bs (I++x.d.take 0) from Al3 ..]
  refine Ah4 opF gs xs i hg hx ?_
  refine Q9 [1,1,0] 2 rfl rfl ?_
  exact Yr H fun v h q=>q
theorem Hn6 (k c:Nat) (a:Option Addr) (lc:Nat) (gs:List (Option Addr × Nat)) (xs:List OpS) (hgx:gs.length=xs.length):∀ (m i:Nat),i+m=60→D59 k c a lc gs xs i:=by
 have fin:∀ (i:Nat),¬ (i<xs.length∧i<60)→D59 k c a lc gs xs i:=by
  intro i hi X q I O hq hr hw hI hl A
  refine CtJ.of Al9 fun h r=>Tr.eq (B07 ..) ?_;refine Je ?_
  (refine Jb ?_;unhygienic intros)
  refine Tr.andG (c:=decide ((i:Int)<60)) (fun hb=>?_) ?_
  ·exact Jz
  refine Yf (by simp;omega) ?_
  refine Yc (E87) ?_;rintro _ h ⟨rfl,o⟩<;>refine Jh o ?_
  (refine Jb ?_;unhygienic intros)
  refine Ys fun o=>?_
  exact ⟨rfl,o.sub⟩
 intro m
 induction m with
 | zero=>intro i hi;exact fin i (by omega)
 | succ m ihm =>
  intro i hi
  by_cases hg0:i<xs.length∧i<60
  case neg=>exact fin i hg0
  intro X q I O hq hr hw hI hl A
  have ih:=ihm (i+1) (by omega)
  have hx:xs[i]?=some xs[i]:=List.getElem?_eq_getElem hg0.1
  have hg:gs[i]?=some (gs[i]'(by omega)):=List.getElem?_eq_getElem (by omega)
  generalize xs[i]=x at hx
  generalize gs[i]'(by omega)=g at hg
  have hat:=Hk1 gs xs i g x hg hx
  have hln:=G11 gs xs hgx
  have hrng:=Ah9 hq
  have hbl:=Eb5 q
  have hIl:(I.length:Int)=O.length+q.count:=by rw [hI,List.length_append,hbl];omega
  have eroom:IntKind.wrap .i64 (IntKind.wrap .i64 (32-(I.length:Int))+O.length)=32-q.count:=by simp only [A7];omega
  have hii:I1 .i64 x.i 1=0∨I1 .i64 x.i 1=1:=by rw [Ii2];omega
  have hn:0≤I1 .i64 x.b 31∧I1 .i64 x.b 31<32:=by rw [Ih7];omega
  refine CtJ.of Al9 fun h r=>Tr.eq (B07 ..) ?_;refine Je ?_
  (refine Jb ?_;unhygienic intros)
  refine Tr.andG (c:=decide ((i:Int)<60)) (fun hb=>?_) ?_
  ·exact Jz
  refine Yt (by simp;omega) ?_
  (refine Jb ?_;unhygienic intros;repeat(refine Gw ?_;rintro px rfl;refine Jb ?_;unhygienic intros))
  simp only [Int.toNat_natCast]
  refine Tr.xAggS (xs:=opL g x) ⟨by omega,by omega,hat⟩ ?_
  (refine Jc ?_;unhygienic intros)
  refine Yn fun b h=>?_
  (refine Jb ?_;unhygienic intros)
  simp only [Ak3,eroom]
  by_cases hd:x.d.length>32
  ·refine Yt (by rw [decide_eq_true_iff];omega) ?_
   refine Yc (E87) ?_;rintro _ h ⟨rfl,o⟩<;>refine Jh o ?_
   (refine Jb ?_;unhygienic intros)
   refine Ys fun o=>?_
   exact ⟨rfl,o.sub⟩
  refine Yf (by rw [decide_eq_false_iff_not];omega) ?_
  (refine Jb ?_;unhygienic intros)
  generalize hwho:I1 .i64 x.i 1=who at *
  by_cases hk:I1 .i64 x.k 1=0
  ·refine Yt (by rw [beq_iff_eq];exact hk) ?_
   (refine Jb ?_;unhygienic intros)
   generalize I1 .i64 x.b 31=n at *
   obtain ⟨q',w1,q1,q2,q3,q4,q5⟩:=Ik5 hq (by rw [hw];decide) (fl1 hii) (n:=n) (by omega)
   have J:=E72 c k F1 X B71 _ A who 1 n (by omega) (Im6 (fl1 hii)) (In8 n (fl1 hii) (by omega))
   rw [w1] at J
   have htl:((H4 q).take (min n.toNat q.count.toNat)).length=min n.toNat q.count.toNat:=by rw [List.length_take,hbl];omega
   have hI2:I=O++(H4 q).take (min n.toNat q.count.toNat)++H4 q':=by rw [q4,List.append_assoc,List.take_append_drop];exact hI
   have e5:IntKind.wrap .i64 (32-(32-q.count))=q.count:=by rw [A7];omega
   generalize (H4 q).take (min n.toNat q.count.toNat)=t at *
   have H:=fun X' A'=>Ga5 k c (some px) lc gs xs i hg0.2 ih X' q' I (O++t) q1 (q2.trans hr) (q3.trans hw) hI2 (by omega) A'
   rw [hwho]
   refine Yc J ?_
   rintro _ h ⟨a2,cap,X',A',_,rfl,o⟩
   refine Jh o ?_
   (refine Jc ?_;unhygienic intros)
   refine Yn fun b1 h=>?_
   (refine Jb ?_;unhygienic intros)
   refine Yb (Yf rfl ?_)
   (refine Jb ?_;unhygienic intros)
   refine (?_:Tr (pt b1 (.cells J7 false [int t.length,int 0,.slice a2 t.length cap,.bool (decide (q.count=0∧n>0))])::cmC c k F1 X'::slC false A3 1 a2 t.length cap (A0 t)::pt b _::Dn8 (some px) lc gs xs::G1 opF gs xs::_) _ _ _)
   refine Yb fun o=>Wp.mono (Q:=fun v h'=>v=decide (q.count=0∧n>0)∧Own h' (pt b1 (.cells J7 false [int t.length,int 0,.slice a2 t.length cap,.bool (decide (q.count=0∧n>0))])::cmC c k F1 X'::slC false A3 1 a2 t.length cap (A0 t)::pt b (.cells A63 false (opL g x))::Dn8 (some px) lc gs xs::G1 opF gs xs::r)) ?_ ?_
   ·refine Jh o ?_
    by_cases hc:q.count=0
    ·refine Yt (by rw [beq_iff_eq];omega) ?_
     refine Ys fun o=>?_
     exact ⟨by simp [hc],o⟩
    ·refine Yf (by rw [beq_eq_false_iff_ne];omega) ?_
     refine Ys fun o=>?_
     exact ⟨by simp [hc],o⟩
   rintro v h ⟨rfl,o⟩
   refine Jh o ?_
   refine Ys fun o=>(?_:Tr _ _ _ _) o;refine Je ?_
   refine Yb (Yf (by simp) ?_)
   (refine Jb ?_;unhygienic intros)
   refine Ys fun o=>(?_:Tr _ _ _ _) o;refine Je ?_
   rw [e5,U4]
   refine Yb (Yf (by rw [bne_eq_false_iff_eq];omega) ?_)
   (refine Jb ?_;unhygienic intros)
   refine Ys fun o=>(?_:Tr _ _ _ _) o;refine Je ?_
   refine Yf (by simp) ?_
   (refine Ja ?_;unhygienic intros)
   refine Tr.ck (show O.length+t.length≤A9 by simp only [A9];omega) ?_
   rw [show bs O++(ByteArray.mk ⟨t⟩)=bs (O++t) from Al3 ..]
   refine Q9 [1,3,3] 3 rfl rfl ?_
   exact Yr (H X' A') fun v h q=>q
  ·refine Yf (by rw [beq_eq_false_iff_ne];exact hk) ?_
   (refine Jb ?_;unhygienic intros)
   refine Ab0 opF gs xs hg hx ?_
   obtain ⟨q',m,bb,w1,q1,q2,q3,q4,q5,q6,q7⟩:=In1 hq (fl2 hii) x.d (by omega)
   have J:=Go0 c k F1 X B71 _ A who 2 (by omega) (Io5 (fl2 hii) (by omega) (by rw [hr];decide)) (opF g x) g.1 true g.2 x.d (by simp only [A9];omega)
   rw [w1] at J
   rw [hwho]
   refine Yc J ?_
   rintro _ h ⟨X',A',_,rfl,o⟩
   refine Jh o ?_
   (refine Jc ?_;unhygienic intros)
   refine Yn fun b1 h=>?_
   (refine Jb ?_;unhygienic intros)
   refine Yb fun o=>Wp.mono (Q:=fun v h'=>v=decide (x.d.length>0∧((x.d.length≤8∧32-q.count<x.d.length)∨32-q.count=0))∧Own h' (pt b1 (.cells J7 false (L6 m 0 bb))::cmC c k F1 X'::opF g x::D95 opF gs xs i::pt b (.cells A63 false (opL g x))::Dn8 (some px) lc gs xs::r)) ?_ ?_
   ·refine Jh o ?_
    by_cases h0:x.d.length>0
    case neg =>
     refine Yf (by rw [decide_eq_false_iff_not];omega) ?_
     refine Ys fun o=>?_
     exact ⟨(decide_eq_false (by omega)).symm,o⟩
    refine Yt (by rw [decide_eq_true_iff];omega) ?_
    by_cases h8:x.d.length≤8
    ·refine Yb (Yt (by rw [decide_eq_true_iff];omega) ?_)
     refine Ys fun o=>(?_:Tr _ _ _ _) o;refine Je ?_
     by_cases hr8:32-q.count<x.d.length
     ·refine Yb (Yt (by rw [decide_eq_true_iff];exact hr8) ?_)
      refine Ys fun o=>(?_:Tr _ _ _ _) o;refine Je ?_
      refine Ys fun o=>?_
      exact ⟨(decide_eq_true (by omega)).symm,o⟩
     ·refine Yb (Yf (by rw [decide_eq_false_iff_not];exact hr8) ?_)
      refine Ys fun o=>(?_:Tr _ _ _ _) o;refine Je ?_
      refine Ys fun o=>?_
      exact ⟨by rw [Bool.eq_iff_iff,beq_iff_eq,decide_eq_true_iff];omega,o⟩
    ·refine Yb (Yf (by rw [decide_eq_false_iff_not];omega) ?_)
     refine Ys fun o=>(?_:Tr _ _ _ _) o;refine Je ?_
     refine Yb (Yf rfl ?_)
     refine Ys fun o=>(?_:Tr _ _ _ _) o;refine Je ?_
     refine Ys fun o=>?_
     exact ⟨by rw [Bool.eq_iff_iff,beq_iff_eq,decide_eq_true_iff];omega,o⟩
   rintro v h ⟨rfl,o⟩
   refine Jh o ?_
   have H:=Hm1 k c b b1 (some px) lc gs xs i hg0.2 ih X' q q' I O q1 (q2.trans hr) (q3.trans hw) hI hl g x hg hx (by omega) m q6
   rcases q7 with ⟨z1,z2,rfl,rfl⟩|⟨z1,z2,rfl⟩
   ·refine Yt (decide_eq_true ⟨z1,z2⟩) ?_
    (refine Jb ?_;unhygienic intros)
    exact Yr (H true (fun _=>rfl) q4 A') fun v h q=>q
   ·refine Yf (decide_eq_false z1) ?_
    rw [U4,← z2]
    exact Yr (H false (fun h=>by cases h) q4 A') fun v h q=>q
theorem G41 (a:Option Addr) (lc:Nat) (gs:List (Option Addr × Nat)) (xs:List OpS) (hgx:gs.length=xs.length):Ct A8 B9 [.slice a xs.length lc] [Dn8 a lc gs xs,G1 opF gs xs] fun v own=>v=.bool true∧own []:=by
 refine Ct.of Al9 rfl fun h r=>Tr.eq (Ex2 ..) ?_;refine Je ?_
 refine Yc (Gz7) ?_;rintro _ h ⟨a1,rfl,o⟩<;>refine Jh o ?_
 (refine Ja ?_;unhygienic intros)
 refine Yc (Hh5 a1) ?_
 rintro _ h ⟨k,c,w,m,K',rfl,o⟩
 refine Jh o ?_
 (refine Jb ?_;unhygienic intros)
 refine Yb (Yf rfl ?_)
 refine Yc (G18 c k F1 X1 B71 E28 0 (by omega)) ?_;rintro _ h ⟨rfl,o⟩<;>refine Jh o ?_
 rw [H05,show (A49 X1 0).2=XD from rfl]
 (refine Jb ?_;unhygienic intros)
 refine Ys fun o=>(?_:Tr _ _ _ _) o;refine Je ?_
 refine Yb (Yf rfl ?_)
 obtain ⟨f1,A1⟩:=H86.fork (i:=0) (by omega)
 replace f1:=f1.trans In5
 refine Yc (If5 c k F1 XD B71 H86.c 0 (by omega)) ?_;rintro _ h ⟨rfl,o⟩<;>refine Jh o ?_
 rw [f1]
 generalize (Dt5 XD 0).2=X2 at *
 (refine Jb ?_;unhygienic intros)
 refine Ys fun o=>(?_:Tr _ _ _ _) o;refine Je ?_
 refine Yf (by simp) ?_
 replace A1:See X2 (wP VF1 0 A20):=by rw [Ig3 fl0];exact A1
 refine Q9 [0,2,2] 2 rfl rfl ?_
 exact Yr (Hn6 k c a lc gs xs hgx 60 0 rfl X2 A20 [] [] rfl rfl rfl rfl (by simp) A1) fun v h q=>q
end Go.EQ

set_option maxRecDepth 100000
namespace Go.EQ
open Go Go.NN Go.Proofs Go.ChangeShapes Go.WideShapes Go.RowKit
theorem Id6:∀ f,(cutsOf f).globs=0:=Ep3 Ic1 (by kernel_rfl)
theorem Ig8:∀ f,(cutsOf f).globs≤PR.globals.size:=fun f=>by rw [Id6 f];exact Nat.zero_le _
theorem Ih1:PR.follows .mixedOrders=true:=by kernel_rfl
theorem Ii4:laidOutB PR=true:=by kernel_rfl
theorem In4:ownKnob PR.godebug=none:=by kernel_rfl
end Go.EQ

set_option maxRecDepth 100000
namespace Go.EQ
open Go Go.NN Go.Proofs Go.Proofs.YtnmdbfbjdhgmlaaGreat Go.ChangeShapes Go.WideShapes Go.RowKit
theorem opT {W:World}:Y1 PR W A63 opL opF (fun _=>True) :=
 (Y1.struct Hl7 (by kernel_rfl) (Dd5.cons (Y1.int Gu9) (Dd5.cons (Y1.int Gu9) (Dd5.cons (Y1.int Gu9) (Dd5.cons (Y1.int Gu9) (Dd5.cons (Y1.bytes A3 Hx1 Id8 (by kernel_rfl)) Dd5.nil)))))).as
  fun ⟨k,i,a,b,d,_⟩ _=>⟨⟨k,i,a,b,d⟩,trivial,fun ⟨_,_,_,_,g,_⟩=>⟨g,rfl,fun hh r o=>((((o.of_sl 1 rfl).of_sl 1 rfl).of_sl 1 rfl).of_sl 1 rfl).of_sl 0 rfl⟩⟩
theorem Ip6 {W:World}:Y1 PR W Dn2 (fun (g:(Option Addr × Nat) × List (Option Addr × Nat)) (l:List OpS)=>[.slice g.1.1 l.length g.1.2]) (fun g l=>sl [Dn8 g.1.1 g.1.2 g.2 l,G1 opF g.2 l,pu (g.2.length=l.length)]) (fun l=>l.length≤maxLen∧∀ y ∈ l,True) :=
 Y1.slice (sz:=5) A63 Eh7 (by kernel_rfl) (by omega) (fun _ _=>rfl) opT
theorem Ia1 {hh:NN.H} {r:List HP} {a:Option Addr} {c:Nat} {gs:List (Option Addr × Nat)} {l:List OpS} (o:Own hh (sl [Dn8 a c gs l,G1 opF gs l,pu (gs.length=l.length)]::r)):gs.length=l.length∧Own hh (Dn8 a c gs l::G1 opF gs l::r):=by
 have o2:Own hh (Dn8 a c gs l::G1 opF gs l::pu (gs.length=l.length)::r):=Own.join o
 exact ⟨(o2.front (i:=2) rfl).pure,o2.fin [0,0] 1 rfl rfl⟩
end Go.EQ

set_option maxRecDepth 100000
namespace Go.EQ
open Go Go.NN Go.Proofs Go.Proofs.YtnmdbfbjdhgmlaaGreat Go.ChangeShapes Go.WideShapes Go.RowKit
theorem If8 {H:Type} {enc:TypeId × Value→H} {W:World} {v0:Value} {d0:DataW H} {p0:List MemPlace} {b0:Nat} (k0:Value.okWide PR W .any b0 Dn2 v0)
  (h0:DataW.Trod enc PR W 0 (fun _=>true) true Dn2 v0 d0 p0) :
  Calls PR B9 #[v0] W fun e W'=>e=.returned (.bool true)∧Below W.heap.size W W':=by
 obtain ⟨x0,hl0,i0⟩:=Ip6.arg (He9 Eh7 k0) h0
 refine i0.run Ih1 Ig8 fun vs ps J hh r o=>?_
 obtain ⟨⟨⟨a0,c0⟩,gs⟩,e0a,e0b⟩:=J
 subst e0a
 subst e0b
 obtain ⟨hg,O⟩:=Ia1 o
 obtain ⟨v,h',e,rfl,_⟩:=G41 a0 c0 gs x0 hg hh r O
 exact ⟨h',e⟩
theorem H90 (os:Os) (started:os.Started) (H:Type) (enc:TypeId × Value→H) :
  ReturnsInHanded {} Tryz.checked os B9 .any (Rows.pipesFlowSpec.pre6 enc Tryz.prog Tryz.f5 Rows.pipesFlowRow.domain false) (Rows.pipesFlowSpec.post enc Tryz.prog Tryz.f5 false true false false):=by
 refine returnsInHanded_of_change (C:=Tryz.checked) In4 started (by kernel_rfl) Tryz.func5
  (ChangeSpec.witness6 (enc:=enc) (C:=Tryz.checked) false ⟨#[],#[.slice none 0 0],[]⟩ 8 (by kernel_rfl) (by kernel_rfl) (by kernel_rfl) (by kernel_rfl)) ?_
 intro W base args ds gs before hval hW hcnd _
 have hW':=hW
 obtain ⟨p,q,hA,hV,rfl,hfz,hnd⟩:=hW
 rw [Tryz.params5] at hA hval
 obtain ⟨v0,d0,rfl,rfl,h0⟩:=trodAll_one hA
 refine (If8 (hval 0 _ v0 rfl rfl) h0).mono fun e W' ⟨he,hb⟩=>?_
 subst he
 refine ⟨_,rfl,Hz4 Ii4 ?_ rfl Ii9 rfl (fun ds gs hl=>?_) hW' hb⟩
 ·rw [Tryz.params5];intro t ht;simp at ht;subst ht;exact ⟨by kernel_rfl,of_decide_eq_true (by kernel_rfl)⟩
 ·replace hl:ds.length=1:=hl
  cases gs with
  | cons _ _=>exact .inr (by simp)
  | nil=>match ds,hl with|[_],_=>exact .inl rfl
theorem Ik9:Tryz.pinned.checked.prog.funcNamed Rows.pipesFlowRow.func=some B9:=by kernel_rfl
theorem H82:joinedFacts Tryz.pinned.checked.prog B9 Tryz.f5 Rows.pipesFlowSpec Rows.pipesFlowRow=true:=by kernel_rfl
theorem Ik2:Tryz.f5.isInstance Tryz.pinned.checked.prog Rows.pipesFlowRow.origin Rows.pipesFlowRow.targs:=of_decide_eq_true (by kernel_rfl)
theorem Il2:Tryz.f5.isWrapper Tryz.pinned.checked.prog Rows.pipesFlowRow.wrapper Rows.pipesFlowRow.mainSum:=by unfold Func.isWrapper;first|(rw [if_pos (by decide +kernel)];kernel_rfl)|(rw [if_neg (by decide +kernel)];exact ⟨rfl,rfl⟩)
theorem PipesFlow_holds:Rows.PipesFlowSaid :=
 OpenClaim.holds_of_wide B9 Tryz.f5 rfl rfl rfl rfl rfl rfl rfl ⟨rfl,rfl,rfl,rfl,rfl⟩ rfl rfl rfl rfl rfl Ik9 Tryz.func5 H82 Ik2 Il2
  (fun os started H enc _=>H90 os started H enc)
end Go.EQ
