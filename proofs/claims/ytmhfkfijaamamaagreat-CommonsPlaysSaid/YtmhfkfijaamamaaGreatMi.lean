/- Records are read, set and freed as the document says, among others who write any bytes; what was bad once is bad for ever, for this one. -/
import Derived.Test.YtmhfkfijaamamaaGreatMh
import Derived.KernelRfl
set_option linter.all false
set_option maxRecDepth 10000
namespace Go.EQ
open Go Go.NN
theorem Gm0 (k:Nat) (S:KS) (A:KA):CtP A4 As1 [P0 k] [pt k (.cells Dj2 false (Eq1 S A))] (P0 A.s):=by
 refine CtP.of Gb1 rfl fun h r=>Tr.eq (Gb6 ..) ?_;refine Je ?_
 exact Jz
theorem It3 (k:Nat) (S:KS) (N:Nat) (ok:KOk N S) (env:Int):Ct A4 A18 [P0 k,int env] [E5 k S] fun v own =>
  (Bb6 S.tabs env≠[]∧∃ c,v=.tuple ⟨[P0 c,int 0]⟩∧own [N5 c k env (Bb6 S.tabs env) [],E5 k S])∨(Bb6 S.tabs env=[]∧v=.tuple ⟨[.pointer none,int 1]⟩∧own [E5 k S]):=by
 refine Ct.of Et8 rfl fun h r=>Tr.eq (Et4 ..) ?_;refine Je ?_
 refine A7 (E5 k S) fun ⟨m,s,q,rg,ea,ec,ma,mc,ms,sa,sc,ss⟩=>?_;refine Je ?_
 (refine Jb ?_;intros)
 refine Yb (Yf rfl ?_)
 refine Tr.pcall (Gm0 k S ⟨m,s,q,rg,ea,ec,ma,mc,ms,sa,sc,ss⟩) ?_;refine Je ?_;(refine Ja ?_;intros)
 try dsimp only
 refine Yc (Go1 s S.tabs env ok.space) ?_;rintro _ h ⟨a0,c0,rfl,o⟩<;>refine Jh o ?_
 (refine Ja ?_;intros)
 refine Ys fun o=>(?_:Tr _ _ _ _) o;refine Je ?_
 by_cases hz:Bb6 S.tabs env=[]
 ·refine Yt (by simp [hz]) ?_
  refine A5 (E5 k S) ⟨m,s,q,rg,ea,ec,ma,mc,ms,sa,sc,ss⟩ ?_;refine Je ?_
  refine Ys fun o=>?_
  exact .inr ⟨hz,rfl,o.sub⟩
 ·refine Yf ?_ ?_
  ·rw [beq_eq_false_iff_ne]
   intro h0
   exact hz (List.eq_nil_of_length_eq_zero (by omega))
  refine Tr.pcall (Gm0 k S ⟨m,s,q,rg,ea,ec,ma,mc,ms,sa,sc,ss⟩) ?_;refine Je ?_;(refine Ja ?_;intros)
  try dsimp only
  refine Yc (Go1 s S.tabs env ok.space) ?_;rintro _ h ⟨a1,c1,rfl,o⟩<;>refine Jh o ?_
  (refine Jc ?_;intros)
  refine Yn fun mb h=>?_
  refine Yn fun c h=>?_
  refine A5 (E5 k S) ⟨m,s,q,rg,ea,ec,ma,mc,ms,sa,sc,ss⟩ ?_;refine Je ?_
  refine D3 (N5 c k env (Bb6 S.tabs env) []) (a1,c1,mb) [1,2,1] rfl ?_;refine Je ?_
  refine Ys fun o=>?_
  exact .inl ⟨hz,c,rfl,o.sub⟩
theorem Ih4 (env:Int):Ct A4 A18 [.pointer none,int env] [] fun v own=>v=.tuple ⟨[.pointer none,int 1]⟩∧own []:=by
 refine Ct.of Et8 rfl fun h r=>Tr.eq (Et4 ..) ?_;refine Je ?_
 (refine Jb ?_;intros)
 refine Yb (Yt rfl ?_)
 refine Ys fun o=>(?_:Tr _ _ _ _) o;refine Je ?_
 (refine Ja ?_;intros)
 refine Ys fun o=>?_
 exact ⟨rfl,o.sub⟩
def Bg2:PlanS:=⟨[false,false],[(0,1),(1,0)],5⟩
theorem He8:Ct A4 Bo0 [] [] fun v own=>∃ A,v=.agg ⟨E80 Bg2 A⟩∧own (Dr8 Bg2 A):=by
 refine Ct.of Hd8 rfl fun h r=>Tr.eq (Hi1 ..) ?_;refine Je ?_
 (refine Jc ?_;intros;rename H=>h)
 refine Yn fun b h=>?_
 refine Yn fun b1 h=>?_
 refine Yn fun b2 h=>?_
 (refine Ja ?_;intros;rename H=>h)
 refine Ak1 0 rfl 2 2 rfl (by omega) ?_
 refine Ak1 1 rfl 1 2 rfl (by omega) ?_
 refine Je ?_
 refine Ys fun o=>?_
 exact ⟨⟨some ⟨b1,0,none⟩,2,some ⟨b2,0,none⟩,2⟩,rfl,(show Own h (slC false B68 2 (some ⟨b2,0,none⟩) Bg2.brs.length 2 (Bg2.brs.flatMap brL)::slC false Gm1 1 (some ⟨b1,0,none⟩) Bg2.bad.length 2 (Bg2.bad.map Value.bool)::_) from o).sub⟩
def Ai0:BootS:=E00 Bg2
theorem Hg1:By0 Ai0=true:=by kernel_rfl
theorem Gd7:Small Ai0:=by
 have e:Ai0=⟨[20,20],[0,0,0,0,0,0,0,0,0,1,1,1,1,1,1,1,1,1],[[0],[1]],5,[⟨0,0,0,492,[0]⟩,⟨1,0,0,492,[1]⟩,⟨0,8,0,40,[0,1]⟩,⟨1,9,0,40,[1,0]⟩]⟩:=by kernel_rfl
 rw [e]
 exact ⟨by simp [A8],by simp [A8],by simp [A8]⟩
theorem Bq3:Ai0=⟨[20,20],[0,0,0,0,0,0,0,0,0,1,1,1,1,1,1,1,1,1],[[0],[1]],5,[⟨0,0,0,492,[0]⟩,⟨1,0,0,492,[1]⟩,⟨0,8,0,40,[0,1]⟩,⟨1,9,0,40,[1,0]⟩]⟩:=by kernel_rfl
theorem It9:RBoot Ai0 (An5 Ai0.frames):=by
 rw [Bq3]
 refine ⟨by simp,by simp,by simp,fun x hx=>?_,fun x hx=>?_⟩
 ·simp only [List.mem_cons,List.not_mem_nil,or_false] at hx
  rcases hx with rfl|rfl|rfl|rfl<;>simp [A8]
 ·simp only [List.mem_cons,List.not_mem_nil,or_false] at hx
  rcases hx with rfl|rfl|rfl|rfl<;>simp [An5]
def S00:KS:=Eb5 Ai0
theorem Hc5:KOk 0 S00:=Ir5 Hg1 Gd7
def wrS (S:KS) (cap:Int) (b:List UInt8):KS:=(Y8 S 0 ⟨2,cap,0,0,0,0,b⟩).2
def S0:KS:=wrS S00 256 Am6
theorem I41:(Y8 S00 0 ⟨2,256,0,0,0,0,Am6⟩).1.1=0:=by kernel_rfl
theorem Io9:Bb6 S00.tabs 0=[256,257,258]:=by kernel_rfl
def wrR (K:RKS) (cap:Int) (b:List UInt8):RKS:={ K with R:=(V7 K.R 0 cap 0 b).2 }
def K0:RKS:=wrR (De0 Ai0) 256 Am6
theorem D10:RKOk (De0 Ai0)∧(De0 Ai0).B=Ai0:=It1 (by rw [Bq3];simp) (by rw [Bq3];simp)
theorem Ic4 {K:RKS} (k:RKOk K) (cap:Int) (b:List UInt8):RKOk (wrR K cap b):=Ir9 k 0 cap 0 b
theorem Ih8:Bs8 K0 0≠[]:=by
 have:Bs8 K0 0=[256,257,258]:=by kernel_rfl
 rw [this];simp
theorem Be1:Am6.length=492:=by kernel_rfl
theorem Gf4 {l:List HP} {h:H} {α:Type} {Q:α→H→Prop} {x:Option (α × H)} (i:Nat) {b n:Nat} {cs:List Value} (hi:l[i]?=some (pt b (.cells A2 false cs))) (hn:cs.length=n) (t:Tr (l.set i (slC false A2 1 (some (Ak0 b)) n n cs)) h x Q):Tr l h x Q:=fun o=>by
 refine t (Own.back (h:=h) hi ?_)
 have o1:=o.front hi
 refine Own.slShut (pre:=[]) (post:=[]) (by simpa using o1) ⟨by omega,Nat.le_refl _,by simp,by simp,by simp,by omega,by simp⟩
theorem It2 (A:PlA):Ct A4 Bb0 [.agg ⟨E80 Bg2 A⟩] (Dr8 Bg2 A) fun v own =>
  ∃ k c w m,v=.tuple ⟨[P0 k,P0 c,P0 w,P0 m]⟩∧own [E5 k S0,N5 c k 0 [256,257,258] [],rkC w K0,rcC m w 0 (Bs8 K0 0) []]:=by
 have hB:E00 Bg2=Ai0:=rfl
 obtain ⟨ba,bc,ra,rc⟩:=A
 refine Ct.of Hf9 rfl fun h r=>Tr.eq (G93 ..) ?_;refine Je ?_
 refine Yn fun b0 h=>?_
 (refine Ja ?_;intros)
 refine Yc (Is8 Bg2 ⟨ba,bc,ra,rc⟩ (by simp [Bg2]) (by simp [Bg2])) ?_;rintro _ h ⟨A,kA,rfl,o⟩<;>refine Jh o ?_
 rw [hB] at kA ⊢
 obtain ⟨fa,fc,ea,ec,sa,sc,ss,ha,hc,hs⟩:=A
 (refine Jc ?_;intros)
 refine Yn fun b1 h=>?_
 (refine Ja ?_;intros)
 have J:=I02 false Ai0 ⟨fa,fc,ea,ec,sa,sc,ss,ha,hc,hs⟩ kA Gd7
 simp only [Hg1,if_true] at J
 refine Yc (J) ?_;rintro _ h ⟨k,rfl,o⟩<;>refine Jh o ?_
 (refine Jb ?_;intros)
 refine Yb (Yf rfl ?_)
 refine Ys fun o=>(?_:Tr _ _ _ _) o;refine Je ?_
 refine Yf rfl ?_
 (refine Ja ?_;intros)
 refine Yc (Ht0 Ai0 ⟨fa,fc,ea,ec,sa,sc,ss,ha,hc,hs⟩ kA (by rw [Bq3];simp) It9) ?_;rintro _ h ⟨w,rfl,o⟩<;>refine Jh o ?_
 (refine Ja ?_;intros)
 refine Yc (It3 k (Eb5 Ai0) 0 Hc5 0) ?_
 rintro v h (⟨hz,c,rfl,o⟩|⟨hz,rfl,o⟩)
 case inr=>exact absurd hz (by rw [show Eb5 Ai0=S00 from rfl,Io9];simp)
 rw [show Eb5 Ai0=S00 from rfl,Io9] at o
 refine (?_:Tr _ _ _ _) o
 refine Je ?_
 (refine Jb ?_;intros)
 refine Yb (Yf rfl ?_)
 refine Ys fun o=>(?_:Tr _ _ _ _) o;refine Je ?_
 refine Yf rfl ?_
 refine Yc (H78) ?_;rintro _ h ⟨rfl,o⟩<;>refine Jh o ?_
 (refine Jc ?_;intros)
 refine Tr.ck (by rw [U6,Be1];simp [A8]) ?_
 rw [U6,Be1]
 refine Yn fun b2 h=>?_
 refine Gf4 (n:=492) 0 rfl (by rw [Am5,show (bs Am6).data.toList=Am6 from rfl,Be1]) ?_
 refine Je ?_
 have J2:=Gz6 k S00 0 Hc5 (by omega) 0 ⟨2,256,0,0,0,0,Am6⟩ (some (Ak0 b2)) 492 false (show ((2:Int)≠5) by decide)
 simp only [Be1] at J2
 refine Ii6 J2 [2,0] rfl ?_
 rintro _ h ⟨y,d,rfl,o⟩
 rw [I41]
 rw [show (Y8 S00 0 ⟨2,256,0,0,0,0,Am6⟩).2=S0 from rfl] at o
 refine (?_:Tr _ _ _ _) o
 refine Je ?_
 (refine Jc ?_;intros)
 refine Yf rfl ?_
 refine Tr.ck (by simp [A8]) ?_
 refine Yn fun b3 h=>?_
 refine Gf4 (n:=492) 0 rfl (by rw [Am5,Be1]) ?_
 refine Je ?_
 have J3:=Gz0 w (De0 Ai0) D10.1 0 (by rw [D10.2,Bq3];simp) ⟨2,256,0,0,0,0,Am6⟩ rfl (by rw [Be1];simp [A8]) (slC false A2 1 (some (Ak0 b3)) Am6.length 492 (A0 Am6)) (some (Ak0 b3)) 492 false
 simp only [Be1] at J3
 refine Yc J3 ?_
 rintro _ h ⟨rfl,o⟩
 rw [show ({ De0 Ai0 with R:=(V7 (De0 Ai0).R ((0:Nat):Int) 256 0 Am6).2 }:RKS)=K0 from rfl] at o
 refine (?_:Tr _ _ _ _) o
 refine Je ?_
 (refine Ja ?_;intros)
 refine Yc (Gy0 w K0 (Ic4 D10.1 256 Am6) 0 (by show (0:Nat)<(De0 Ai0).B.envs.length;rw [D10.2,Bq3];simp)) ?_
 rintro v h (⟨_,m,rfl,o⟩|⟨hn,rfl,o⟩)
 case inr=>exact absurd hn Ih8
 refine (?_:Tr _ _ _ _) o
 refine Je ?_
 (refine Ja ?_;intros)
 refine Ys fun o=>?_
 exact ⟨k,c,w,m,rfl,o.sub⟩
def B64 (mem:List UInt8) (rg:Rg):List (List UInt8):=rg.map fun p=>slice mem p.1 p.2
theorem Ha7 {mem:List UInt8} {rg:Rg} {j lo n:Nat} (h:rg[j]?=some (lo,n)):(B64 mem rg)[j]?=some (slice mem lo n):=by unfold B64;rw [List.getElem?_map,h];rfl
theorem Gk7 {mem:List UInt8} {rg:Rg} (h:∀ (j lo n:Nat),rg[j]?=some (lo,n)→lo+n≤mem.length):Fit mem.length rg (B64 mem rg):=⟨by simp [B64],fun j lo n hj=>⟨h j lo n hj,slice mem lo n,Ha7 hj,D65 (h j lo n hj)⟩⟩
theorem Hk7 {mem:List UInt8} {rg:Rg} (k:RgOk rg) (h:∀ (j lo n:Nat),rg[j]?=some (lo,n)→lo+n≤mem.length):U2 mem rg (B64 mem rg)=mem:=by
 have f:=Gk7 h
 refine List.ext_getElem? fun i=>?_
 by_cases ho:∃ (j lo n:Nat),rg[j]?=some (lo,n)∧lo≤i∧i<lo+n
 ·obtain ⟨j,lo,n,hj,h1,h2⟩:=ho
  obtain ⟨i',rfl⟩:∃ i',i=lo+i':=⟨i-lo,by omega⟩
  rw [Df1 f k j lo n _ hj (Ha7 hj) i' (by omega),E22,if_pos (by omega)]
 ·exact Dz0 f i fun j lo n hj=>by
   by_cases hh:lo≤i∧i<lo+n
   ·exact absurd ⟨j,lo,n,hj,hh.1,hh.2⟩ ho
   ·omega
theorem FrOk.room {F:Fr} {j lo n:Nat} (f:Fit F.S.mem.length F.rg (B64 F.S.mem F.rg)) (h:F.rg[j]?=some (lo,n)):lo+n≤F.S.mem.length:=(f.each j lo n h).1
theorem Fr.at_cut {F:Fr} (k:FrOk F) (h:∀ (j lo n:Nat),F.rg[j]?=some (lo,n)→lo+n≤F.S.mem.length):F.at (B64 F.S.mem F.rg)=F.S:=by
 unfold Fr.at;rw [Hk7 k.dj h];rfl
theorem Own.cmTake {r:List HP} {h:H} (c k:Nat) (F:Fr) (bad:List RecS) (ok:FrOk F) (hr:∀ (j lo n:Nat),F.rg[j]?=some (lo,n)→lo+n≤F.S.mem.length) (o1:Own h (E5 k F.S::N5 c k F.env F.caps bad::r)):Own h (cmC c k F ⟨B64 F.S.mem F.rg,bad⟩::r):=by
 refine Own.inex (f:=fun u:Unit=>sl (cmF c k F ⟨B64 F.S.mem F.rg,bad⟩)) () (Own.group (l:=cmF c k F ⟨B64 F.S.mem F.rg,bad⟩) ?_)
 show Own h (E5 k (F.at (B64 F.S.mem F.rg))::N5 c k F.env F.caps bad::pu _::r)
 rw [Fr.at_cut ok hr]
 have o2:=Own.inpure (show Fit F.S.mem.length F.rg (B64 F.S.mem F.rg) from Gk7 hr) o1
 exact o2.picks [1,1,0] rfl
theorem H13 {S:KS} {env cap obj:Int} {lo n:Nat} {e1 e2:Int} (hg:Aq4 S.tabs env cap=some ⟨obj,3,0,(n:Int),e1,e2⟩) (h0:0≤obj) (hr:S.regs[obj.toNat]?=some ((lo:Int),(n:Int))) (hl:lo+n≤65536) :
  ∀ (a m:Nat) (right:Int),right=1∨right=2→a+m≤n→I8 S.tabs S.regs env cap right a m=(((lo+a:Nat):Int),0):=by
 intro a m right hri ha
 have hlt:=(List.getElem?_eq_some_iff.1 hr).1
 unfold I8
 rw [hg]
 have b1:(B5 .i64 3 1==0)=false:=by kernel_rfl
 have b2:(B5 .i64 3 2==0)=false:=by kernel_rfl
 have hb:¬ ((B5 .i64 3 right==0)=true):=by rcases hri with rfl|rfl<;>simp [b1,b2]
 simp only
 have h2:(decide ((a:Int)<0) || decide ((m:Int)<0) || decide ((a:Int)>(n:Int)) || decide ((m:Int)>IntKind.wrap .i64 ((n:Int)-a)) || decide (obj<0) || decide (obj≥S.regs.length))=false:=by
  simp only [Bool.or_eq_false_iff,decide_eq_false_iff_not,B0];omega
 have h3:(decide (IntKind.wrap .i64 (0+(a:Int))>(n:Int)) || decide ((m:Int)>IntKind.wrap .i64 (IntKind.wrap .i64 ((n:Int)-0)-a)))=false:=by
  simp only [Bool.or_eq_false_iff,decide_eq_false_iff_not,B0];omega
 have h4:IntKind.wrap .i64 (IntKind.wrap .i64 ((lo:Int)+0)+a)=((lo+a:Nat):Int):=by simp only [B0];omega
 rw [if_neg hb]
 simp only [h2,hr,h3,h4,Bool.false_eq_true,if_false]
structure Like (S:KS):Prop where
 ok:KOk 0 S
 tabs:S.tabs=S00.tabs
 regs:S.regs=S00.regs
 envs:S.envs=S00.envs
 mem:S.mem.length=2560
theorem Im2 {S:KS} (k:Like S) {m:List UInt8} (h:m.length=2560):Like (Eg1 S m) :=
 ⟨⟨k.ok.envs,k.ok.tabs,k.ok.space,k.ok.quota,by show m.length≤65536;omega,k.ok.regs,k.ok.may,k.ok.mayl,k.ok.nsect,k.ok.sects,k.ok.now⟩,k.tabs,k.regs,k.envs,h⟩
theorem Iw0:Like S00:=⟨Hc5,rfl,rfl,rfl,by kernel_rfl⟩
theorem Is5 (S:KS) (k:Like S) (cap:Int) (b:List UInt8):Like (wrS S cap b):=by
 unfold wrS Y8
 split
 ·exact k
 ·exact Im2 k (by rw [Hx7];exact k.mem)
theorem D58:Like S0:=Is5 S00 Iw0 256 Am6
def rgP (s:Nat):Rg:=[(1280*s,492),(512,40),(1856,40)]
def frP (S:KS) (s:Nat) (env:Int):Fr:=⟨S,0,env,[256,257,258],rgP s⟩
theorem Go0:S00.regs=[(0,492),(1280,492),(512,40),(1856,40)]:=by kernel_rfl
theorem Iv8:S00.envs.length=18:=by kernel_rfl
structure EnvP (s:Nat) (env:Int):Prop where
 hs:s<2
 he:0≤env∧env<18
 a:Aq4 S00.tabs env 256=some ⟨s,3,0,492,0,0⟩
 b:Aq4 S00.tabs env 257=some ⟨2,3,0,40,0,0⟩
 c:Aq4 S00.tabs env 258=some ⟨3,3,0,40,0,0⟩
theorem I40:EnvP 0 0:=⟨by omega,by omega,by kernel_rfl,by kernel_rfl,by kernel_rfl⟩
theorem Ec5 {s j lo n:Nat} (h:(rgP s)[j]?=some (lo,n)):(j=0∧lo=1280*s∧n=492)∨(j=1∧lo=512∧n=40)∨(j=2∧lo=1856∧n=40):=by
 unfold rgP at h
 match j,h with
 | 0,h=>simp at h;omega
 | 1,h=>simp at h;omega
 | 2,h=>simp at h;omega
 | j+3,h=>simp at h
theorem Gi5 {S:KS} (k:Like S) {s:Nat} (hs:s<2) (env:Int):∀ (j lo n:Nat),(frP S s env).rg[j]?=some (lo,n)→lo+n≤(frP S s env).S.mem.length:=by
 intro j lo n h
 have hm:=k.mem
 have:=Ec5 h
 show lo+n≤S.mem.length
 omega
theorem H81 {S:KS} (k:Like S) {s:Nat} {env:Int} (e:EnvP s env):FrOk (frP S s env):=by
 have hs:=e.hs;have he:=e.he
 refine ⟨k.ok,by simp [frP],by simp [frP],by simp [frP],by simp [frP,rgP],?_,?_,?_,⟨1280*s,rfl⟩,?_⟩
 ·show ¬ (env<0∨env≥(S.envs.length:Int))
  rw [k.envs,Iv8];omega
 ·intro j cap lo n hc hr
  show ∀ (a m:Nat) (right:Int),right=1∨right=2→a+m≤n→I8 S.tabs S.regs env cap right a m=_
  have hg:=Ec5 hr
  rcases hg with ⟨rfl,rfl,rfl⟩|⟨rfl,rfl,rfl⟩|⟨rfl,rfl,rfl⟩
  ·cases hc
   refine H13 (obj:=s) (e1:=0) (e2:=0) (by rw [k.tabs];exact e.a) (by omega) ?_ (by omega)
   rw [k.regs,Go0,Int.toNat_natCast]
   match s,hs with
   | 0,_=>rfl
   | 1,_=>rfl
  ·cases hc
   exact H13 (obj:=2) (e1:=0) (e2:=0) (by rw [k.tabs];exact e.b) (by omega) (by rw [k.regs,Go0];rfl) (by omega)
  ·cases hc
   exact H13 (obj:=3) (e1:=0) (e2:=0) (by rw [k.tabs];exact e.c) (by omega) (by rw [k.regs,Go0];rfl) (by omega)
 ·intro i j lo n lo' n' hij hi hj
  have h1:=Ec5 hi;have h2:=Ec5 hj
  omega
 ·intro j lo n h0 h
  have:=Ec5 h;omega
def Dn9 (bad:List RecS) (kind:Int):Nat→Int→List RecS
 | 0,_=>[]
 | m+1,i=>if (⟨kind,i⟩:RecS) ∈ bad then ⟨kind,i⟩::Dn9 bad kind m (i+1) else Dn9 bad kind m (i+1)
def De9 (nc:Nat) (bad:List RecS):Nat→Int→List RecS
 | 0,_=>[]
 | m+1,kind=>Dn9 bad kind (N1 nc kind).toNat 0++De9 nc bad m (kind+1)
def Bz4 (nc:Nat) (bad:List RecS):List RecS:=De9 nc bad 5 1
theorem Ia8 (c k:Nat) (env:Int) (caps:List Int) (bad:List RecS) (hs:caps.length≤40) (kind:Int) (hk:1≤kind∧kind≤5) (Φ:List RecS→Value→(List HP→Prop)→Prop)
  (next:∀ (acc:List RecS) (a:Option Addr) (cp:Nat),acc.length≤50*kind→CtJ E9 D4 Y4 [(0,P0 c),(3,.slice a acc.length cp),(4,int (kind+1))] [slC false A6 2 a acc.length cp (acc.flatMap E2),N5 c k env caps bad] (Φ acc)) :
  ∀ (m:Nat) (i:Int) (acc:List RecS) (a:Option Addr) (cp:Nat),0≤i→i+m=N1 caps.length kind→acc.length≤50*(kind-1)+i →
  CtJ E9 D4 Y1 [(0,P0 c),(3,.slice a acc.length cp),(4,int kind),(13,int (N1 caps.length kind)),(14,int i)] [slC false A6 2 a acc.length cp (acc.flatMap E2),N5 c k env caps bad] (Φ (acc++Dn9 bad kind m i)):=by
 have hmost:N1 caps.length kind≤43:=by unfold N1;(repeat' split)<;>omega
 have e5:=wI kind
 intro m
 induction m with
 | zero =>
  intro i acc a cp h0 hi ha
  refine CtJ.of Ae4 fun h r=>Tr.eq (Bp4 ..) ?_;refine Je ?_
  refine Yf (by simp;omega) ?_
  rw [e5]
  refine Yr (next acc a cp (by omega)) ?_
  intro v h q
  rw [show Dn9 bad kind 0 i=[] from rfl,List.append_nil]
  exact q
 | succ m ih =>
  intro i acc a cp h0 hi ha
  have e1:=wI i
  refine CtJ.of Ae4 fun h r=>Tr.eq (Bp4 ..) ?_;refine Je ?_
  refine Yt (by simp;omega) ?_
  refine A7 (N5 c k env caps bad) fun ⟨ca,cn,mb⟩=>?_;refine Je ?_
  (refine Ja ?_;intros)
  have hl:=Bp5 ⟨kind,i⟩ bad
  simp only [E2] at hl
  rw [hl]
  rw [show Dn9 bad kind (m+1) i=if (⟨kind,i⟩:RecS) ∈ bad then ⟨kind,i⟩::Dn9 bad kind m (i+1) else Dn9 bad kind m (i+1) from rfl]
  by_cases hb:(⟨kind,i⟩:RecS) ∈ bad
  ·simp only [if_pos hb]
   (refine Ja ?_;intros)
   refine Yt rfl ?_
   (refine Ja ?_;intros)
   refine A5 (N5 c k env caps bad) ⟨ca,cn,mb⟩ ?_;refine Je ?_
   refine Tr.xApd ?_ (fun a' c' h=>?_);exact ⟨by first|rfl|simp,by first|rfl|simp,by simp only [A8];omega⟩;refine Je ?_
   rw [e1]
   rw [show acc.flatMap E2++[Value.int IntKind.i64 kind,Value.int IntKind.i64 i]=(acc++[(⟨kind,i⟩:RecS)]).flatMap E2 by simp [E2],show acc.length+1=(acc++[(⟨kind,i⟩:RecS)]).length by simp]
   refine U0 [3,0] 2 rfl rfl ?_
   refine Yr (ih (i+1) (acc++[⟨kind,i⟩]) a' c' (by omega) (by omega) (by simp;omega)) ?_
   intro v h q
   rw [List.append_assoc] at q
   exact q
  ·simp only [if_neg hb]
   (refine Ja ?_;intros)
   refine Yf rfl ?_
   refine A5 (N5 c k env caps bad) ⟨ca,cn,mb⟩ ?_;refine Je ?_
   rw [e1]
   refine U0 [2,0] 1 rfl rfl ?_
   refine Yr (ih (i+1) acc a cp (by omega) (by omega) (by omega)) ?_
   intro v h q
   exact q
theorem Ia7 (c k:Nat) (env:Int) (caps:List Int) (bad:List RecS) (hs:caps.length≤40):∀ (m:Nat) (kind:Int) (acc:List RecS) (a:Option Addr) (cp:Nat),1≤kind→kind+m=6→acc.length≤50*(kind-1) →
  CtJ E9 D4 Y4 [(0,P0 c),(3,.slice a acc.length cp),(4,int kind)] [slC false A6 2 a acc.length cp (acc.flatMap E2),N5 c k env caps bad] fun v own =>
   ∃ a' cp',v=.slice a' (acc++De9 caps.length bad m kind).length cp'∧own [slC false A6 2 a' (acc++De9 caps.length bad m kind).length cp' ((acc++De9 caps.length bad m kind).flatMap E2),N5 c k env caps bad]:=by
 intro m
 induction m with
 | zero =>
  intro kind acc a cp hk hi ha
  refine CtJ.of Ae4 fun h r=>Tr.eq (Bn5 ..) ?_;refine Je ?_
  refine Yf (by simp;omega) ?_
  refine Ys fun o=>?_
  rw [show De9 caps.length bad 0 kind=[] from rfl,List.append_nil]
  exact ⟨a,cp,rfl,o.sub⟩
 | succ m ih =>
  intro kind acc a cp hk hi ha
  have hm0:0≤N1 caps.length kind:=by unfold N1;(repeat' split)<;>omega
  have L2:=Ia8 c k env caps bad hs kind (by omega) (fun acc v own=>∃ a' cp',v=.slice a' (acc++De9 caps.length bad m (kind+1)).length cp'∧own [slC false A6 2 a' (acc++De9 caps.length bad m (kind+1)).length cp' ((acc++De9 caps.length bad m (kind+1)).flatMap E2),N5 c k env caps bad])
   (fun acc a cp ha=>ih (kind+1) acc a cp (by omega) (by omega) (by omega)) (N1 caps.length kind).toNat 0 acc a cp (by omega) (by omega) (by omega)
  refine CtJ.of Ae4 fun h r=>Tr.eq (Bn5 ..) ?_;refine Je ?_
  refine Yt (by simp;omega) ?_
  refine Tr.pcall (Gh0 c k env caps bad kind hs) ?_;refine Je ?_;(refine Ja ?_;intros)
  refine Yr L2 ?_
  intro v h q
  rw [List.append_assoc] at q
  exact q
theorem Iq5 (c k:Nat) (env:Int) (caps:List Int) (bad:List RecS) (hs:caps.length≤40):Ct A4 D4 [P0 c] [N5 c k env caps bad] fun v own =>
  ∃ a' cp',v=.slice a' (Bz4 caps.length bad).length cp'∧own [slC false A6 2 a' (Bz4 caps.length bad).length cp' ((Bz4 caps.length bad).flatMap E2),N5 c k env caps bad]:=by
 refine Ct.of Ae4 rfl fun h r=>Tr.eq (Ee2 ..) ?_;refine Je ?_
 refine H8 false A6 2 (by omega) ?_
 have J:=Ia7 c k env caps bad hs 5 1 [] none 0 (by omega) (by omega) (by simp)
 simp only [List.nil_append,List.length_nil,List.flatMap_nil] at J
 refine Yr J ?_
 intro v h q
 exact q
theorem G37 (nc:Nat):Bz4 nc []=[]:=by
 have h1:∀ (kind:Int) (m:Nat) (i:Int),Dn9 [] kind m i=[]:=by
  intro kind m
  induction m with
  | zero=>intro i;rfl
  | succ m ih=>intro i;unfold Dn9;rw [if_neg (by simp),ih]
 have h2:∀ (m:Nat) (kind:Int),De9 nc [] m kind=[]:=by
  intro m
  induction m with
  | zero=>intro k;rfl
  | succ m ih=>intro k;unfold De9;rw [h1,ih];rfl
 exact h2 5 1
theorem Hm4 (c k:Nat) (F:Fr) (X:CX) (ok:FrOk F):Ct A4 D4 [P0 c] [cmC c k F X] fun v own =>
  ∃ a' cp',v=.slice a' (Bz4 F.caps.length X.bad).length cp'∧own [slC false A6 2 a' (Bz4 F.caps.length X.bad).length cp' ((Bz4 F.caps.length X.bad).flatMap E2),cmC c k F X]:=by
 intro h r o
 obtain ⟨u,o2⟩:=Own.unfold (cmC c k F X) o
 obtain ⟨v,h',e,a',cp',hv,o3⟩:=Iq5 c k F.env F.caps X.bad ok.small h _ (o2.picks [1] rfl)
 refine ⟨v,h',e,a',cp',hv,?_⟩
 have o4:=o3.picks [2,1,1] rfl
 exact (Own.shut (f:=fun _:Unit=>cmF c k F X) () o4).picks [1,0] rfl
theorem Hh2 (c k:Nat) (F:Fr) (X:CX) (ok:FrOk F):Ct A4 Ad1 [P0 c] [cmC c k F X] fun v own =>
  ∃ a' cp',v=.slice a' (X.m.getD 0 []).length cp'∧own [slC false A2 1 a' (X.m.getD 0 []).length cp' (A0 (X.m.getD 0 [])),cmC c k F X]:=by
 have hn:=ok.ne
 have hg:(F.caps.map int)[0]?=some (int (F.caps.getD 0 0)):=by rw [List.getElem?_map,J7 0 hn];rfl
 refine Ct.of D84 rfl fun h r=>Tr.eq (Eb2 ..) ?_;refine Je ?_
 refine A7 (cmC c k F X) fun u=>?_;refine Je ?_
 refine H2 2 rfl fun f=>?_
 refine A7 (N5 c k F.env F.caps X.bad) fun ⟨ca,cn,mb⟩=>?_;refine Je ?_
 (refine Ja ?_;intros;repeat(refine Gw ?_;rintro px rfl;refine Ja ?_;intros))
 refine A5 (N5 c k F.env F.caps X.bad) ⟨some px,cn,mb⟩ ?_;refine Je ?_
 obtain ⟨lo,h0⟩:=ok.own
 obtain ⟨_,x,hx,hxl⟩:=f.each 0 lo 492 h0
 have e0:X.m.getD 0 []=x:=by rw [List.getD_eq_getElem?_getD,hx];rfl
 have hp:=ok.pl 0 _ lo 492 (J7 0 hn) h0 0 492 1 (.inl rfl) (by omega)
 have lp:=Bg4 f
 have hb:Bq9 (U2 F.S.mem F.rg X.m) ((lo+0:Nat):Int) (492:Int)=some x:=by
  have:=f.each 0 lo 492 h0
  unfold Bq9
  rw [if_pos (by rw [lp];omega),Int.toNat_natCast]
  have hs:=Dq6 f ok.dj h0 hx (a:=0) (c:=492) (by omega)
  show some (slice (U2 F.S.mem F.rg X.m) (lo+0) 492)=some x
  rw [hs]
  unfold slice
  rw [List.drop_zero,List.take_of_length_le (by omega)]
 have e:Y8 (F.at X.m) F.env ⟨1,F.caps.getD 0 0,0,492,0,0,[]⟩=((0,0,x),F.at X.m):=by
  unfold Y8
  rw [if_neg (show ¬ (F.env<0∨F.env≥((F.at X.m).envs.length:Int)) from ok.env)]
  unfold kDo
  rw [if_pos rfl]
  have er:Ao6 (F.at X.m).tabs (F.at X.m).regs (F.at X.m).mem F.env (F.caps.getD 0 0) 0 492=(x,0):=by
   unfold Ao6
   rw [show I8 (F.at X.m).tabs (F.at X.m).regs F.env (F.caps.getD 0 0) 1 0 492=(((lo+0:Nat):Int),0) from hp]
   rw [if_neg (by simp),show Bq9 (F.at X.m).mem _ _=_ from hb]
  simp only [er]
 have J:=Hx5 k (F.at X.m) F.N (F.at_ok ok f) ok.hN F.env 1 (F.caps.getD 0 0) 0 492 0 0 (by decide)
 rw [e] at J
 refine Yc (J) ?_;rintro _ h ⟨y,d,rfl,o⟩<;>(refine Jf o ?_;intros)
 refine A5 (cmC c k F X) () ?_;refine Je ?_
 refine Ys fun o=>?_
 rw [e0]
 exact ⟨y,d,rfl,o.sub⟩
abbrev F0:Fr:=frP S0 0 0
def X0:CX:=⟨B64 S0.mem (rgP 0),[]⟩
theorem Z5:FrOk F0:=H81 D58 I40
theorem I42:(D44 X0 0).1.2=0:=by kernel_rfl
theorem I21:(D44 X0 0).2=X0:=by kernel_rfl
theorem I48:(Eq8 X0).1.2=1:=by kernel_rfl
theorem I32:(Eq8 X0).2=X0:=by kernel_rfl
theorem I39:(Ee5 X0).1=(0,1):=by kernel_rfl
theorem I24:(Ee5 X0).2=X0:=by kernel_rfl
theorem I43:(X0.m.getD 0 []).length=492:=by kernel_rfl
theorem Hl4 (A:PlA):Ct A4 Bb0 [.agg ⟨E80 Bg2 A⟩] (Dr8 Bg2 A) fun v own =>
  ∃ k c w m,v=.tuple ⟨[P0 k,P0 c,P0 w,P0 m]⟩∧own [cmC c k F0 X0,rkC w K0,rcC m w 0 (Bs8 K0 0) []]:=by
 intro h r o
 obtain ⟨v,h',e,k,c,w,m,hv,o2⟩:=It2 A h r o
 refine ⟨v,h',e,k,c,w,m,hv,?_⟩
 exact Own.cmTake c k F0 [] Z5 (Gi5 D58 (by omega) 0) o2
theorem H23:Ct A4 B02 [] [] fun v own=>v=.bool true∧own []:=by
 refine Ct.of G73 rfl fun h r=>Tr.eq (G60 ..) ?_;refine Je ?_
 refine Yc (He8) ?_;rintro _ h ⟨A,rfl,o⟩<;>refine Jh o ?_
 (refine Ja ?_;unhygienic intros)
 refine Yc (Hl4 A) ?_
 rintro _ h ⟨k,c,w,m,rfl,o⟩
 refine (?_:Tr _ _ _ _) o
 refine Je ?_
 (refine Ja ?_;unhygienic intros)
 refine Yc (Gh5 c k F0 X0 Z5 0) ?_;rintro _ h ⟨rfl,o⟩<;>refine Jh o ?_
 rw [I42,I21]
 (refine Ja ?_;unhygienic intros)
 refine Yc (Gg4 c k F0 X0 Z5) ?_;rintro _ h ⟨rfl,o⟩<;>refine Jh o ?_
 rw [I48,I32]
 (refine Ja ?_;unhygienic intros)
 refine Yc (Ex3 c k F0 X0 Z5) ?_;rintro _ h ⟨rfl,o⟩<;>refine Jh o ?_
 rw [I39,I24]
 (refine Ja ?_;unhygienic intros)
 refine Yc (Ih4 0) ?_;rintro _ h ⟨rfl,o⟩<;>refine Jh o ?_
 (refine Jb ?_;unhygienic intros)
 refine Yb (Yt rfl ?_)
 refine Ys fun o=>(?_:Tr _ _ _ _) o;refine Je ?_
 refine Yb (Yt rfl ?_)
 refine Ys fun o=>(?_:Tr _ _ _ _) o;refine Je ?_
 refine Yb (Yt rfl ?_)
 refine Ys fun o=>(?_:Tr _ _ _ _) o;refine Je ?_
 refine Yb (Yt rfl ?_)
 refine Ys fun o=>(?_:Tr _ _ _ _) o;refine Je ?_
 refine Yb (Yt rfl ?_)
 refine Yc (Hm4 c k F0 X0 Z5) ?_;rintro _ h ⟨a1,c1,rfl,o⟩<;>refine Jh o ?_
 (refine Jb ?_;unhygienic intros)
 refine Ys fun o=>(?_:Tr _ _ _ _) o;refine Je ?_
 rw [show Bz4 F0.caps.length X0.bad=[] from G37 _]
 refine Yb (Yt rfl ?_)
 refine Yc (Hh2 c k F0 X0 Z5) ?_;rintro _ h ⟨a2,c2,rfl,o⟩<;>refine Jh o ?_
 rw [I43]
 (refine Jb ?_;unhygienic intros)
 refine Ys fun o=>(?_:Tr _ _ _ _) o;refine Je ?_
 refine Ys fun o=>?_
 exact ⟨rfl,o.sub⟩
theorem Gv4 (a:Int):B5 .i64 a 16777215=a%16777216:=Bc7 a 24 (by omega)
theorem Hv5 (a:Int):B5 .i64 a 63=a%64:=Bc7 a 6 (by omega)
theorem G88:(∀ y:Int,Int.fdiv y 4=y / 4)∧(∀ y:Int,Int.fdiv y 16=y / 16)∧(∀ y:Int,Int.fdiv y 32=y / 32)∧(∀ y:Int,Int.fdiv y 64=y / 64)∧(∀ y:Int,Int.fdiv y 256=y / 256)∧(∀ y:Int,Int.fdiv y 512=y / 512)∧(∀ y:Int,Int.fdiv y 2048=y / 2048)∧(∀ y:Int,Int.fdiv y 32768=y / 32768):=by
 refine ⟨?_,?_,?_,?_,?_,?_,?_,?_⟩<;>exact fun y=>Int.fdiv_eq_ediv_of_nonneg _ (by decide)
theorem E88 {y m:Int} (h:0≤y):Int.tmod y m=y%m:=Int.tmod_eq_emod_of_nonneg h
theorem pw:((2:Int) ^ 4=16)∧((2:Int) ^ 5=32)∧((2:Int) ^ 8=256)∧((2:Int) ^ 11=2048)∧((2:Int) ^ 15=32768)∧((2:Int) ^ 2=4)∧((2:Int) ^ 6=64)∧((2:Int) ^ 9=512):=by decide
theorem Io0 (x:Int):Ct A4 B92 [int x] [] fun v own=>(∃ f,okF f=true∧v=.agg ⟨Z6 f⟩)∧own []:=by
 refine Ct.of Hb2 rfl fun h r=>Tr.eq (Hn4 ..) ?_;refine Je ?_
 simp only [Gv4,Hv5,H98,Iy2,G88,pw]
 have hy:0≤x%16777216:=by omega
 generalize x%16777216=y at hy
 rw [E88 hy]
 have e1:IntKind.wrap .i64 (y%3+1)=y%3+1:=by rw [B0];omega
 have e2:IntKind.wrap .i64 (y / 256%64+1)=y / 256%64+1:=by rw [B0];omega
 rw [e1,e2]
 (refine Ja ?_;unhygienic intros)
 by_cases h3:y%3+1=3
 ·refine Yt (by simpa using h3) ?_
  (refine Ja ?_;unhygienic intros)
  refine Ys fun o=>?_
  refine ⟨⟨⟨y%3+1,0,y / 256%64+1,y / 32768%2⟩,?_,rfl⟩,o.sub⟩
  simp only [okF,Bool.and_eq_true,Bool.or_eq_true,decide_eq_true_eq,beq_iff_eq,bne_iff_ne,or_true,and_true];omega
 ·refine Yf (by simpa using h3) ?_
  (refine Ja ?_;unhygienic intros)
  refine Ys fun o=>?_
  refine ⟨⟨⟨y%3+1,y / 16%8,y / 256%64+1,y / 32768%2⟩,?_,rfl⟩,o.sub⟩
  simp only [okF,Bool.and_eq_true,Bool.or_eq_true,decide_eq_true_eq,beq_iff_eq,bne_iff_ne,or_true,and_true];omega
theorem Ia1 (a b c d:Value) {t:List UInt8} (h:t.length≤32):a::b::c::d::(A0 t++List.drop (4+(A0 t).length) (a::b::c::d::A0 (List.replicate 32 0)))=a::b::c::d::A0 (Br9 t):=by
 rw [Am5,Nat.add_comm]
 simp [Br9,List.take_append,Ix5,List.take_of_length_le h,A0,List.drop_replicate,List.take_replicate]
 show List.drop _ (List.replicate 32 (Value.int .u8 0))=List.take _ (List.replicate 32 (Value.int .u8 0))
 rw [List.drop_replicate,List.take_replicate];congr 1;omega
theorem Ij2 (x:Int) (p:HP) (a:Option Addr) (ro:Bool) (n c:Nat) (l:List UInt8) [ks:IsSl p a ro A2 1 n c (A0 l)] (hl:l.length=n):Ct A4 B76 [int x,.slice a n c] [p] fun v own=>(∃ f,okP f=true∧v=.agg ⟨D0 f⟩)∧own [p]:=by
 refine Ct.of Hf8 rfl fun h r=>Tr.eq (Ha3 ..) ?_;refine Je ?_
 simp only [Gv4,Hv5,Hv1,Ir0,G88,pw]
 have hy:0≤x%16777216:=by omega
 generalize x%16777216=y at hy
 rw [E88 (show 0≤y / 32%64 by omega),E88 (show 0≤y / 2048%16 by omega),E88 (show 0≤y / 32768%16 by omega)]
 refine Yn fun b1 h=>?_
 refine Yn fun b2 h=>?_
 (refine Ja ?_;unhygienic intros)
 refine Tr.xCellsP (xs:=A0 (l.take 32)) ⟨by omega,by
  rw [Iq4];congr 1;rw [List.take_eq_take_iff];omega⟩ ?_
 rw [show pCells (some (⟨b2,4,none⟩:Addr))=pAgg ⟨b2,4,none⟩ from rfl]
 obtain ⟨f,hf,e⟩:∃ f,okP f=true∧int (y%32)::int (y / 32%64%33)::int (y / 2048%16%9)::int (y / 32768%16%9)::A0 (Br9 (l.take 32))=D0 f:=⟨⟨y%32,y / 32%64%33,y / 2048%16%9,y / 32768%16%9,Br9 (l.take 32),G39 _⟩,by
  simp only [okP,Bool.and_eq_true,decide_eq_true_eq];omega,rfl⟩
 have h32:(l.take 32).length≤32:=by simp;omega
 have hb:(A0 (l.take 32)).length≤32:=by rw [Am5];exact h32
 refine Tr.xPAgg (cs':=D0 f) ⟨by simp only [List.length_cons,List.length_nil];omega,Aq9 _,?_⟩ fun h=>?_
 ·rw [← e,← Ia1 (int (y%32)) (int (y / 32%64%33)) (int (y / 2048%16%9)) (int (y / 32768%16%9)) h32]
  rfl
 (refine Ja ?_;unhygienic intros)
 refine Ys fun o=>?_
 exact ⟨⟨f,hf,rfl⟩,o.sub⟩
def fdS (q:ProcS) (i:Nat) (v:Int):ProcS:={ q with fds:=q.fds.set i v,len:=by rw [List.length_set];exact q.len }
theorem Ir8 (q:ProcS) (i:Nat) (v:Int) (h:i<8):De5 (B9 q) (8+i) (int v)=some (B9 (fdS q i v)):=by
 have e:Nat.blt (8+i) (B9 q).length=true:=by rw [Aa9];exact Nat.ble_eq_true_of_le (by omega)
 rw [De5,e]
 have e2:(B9 q).set (8+i) (int v)=B9 (fdS q i v):=by
  rw [Nat.add_comm]
  simp [B9,fdS,List.map_set]
 rw [← e2];rfl
theorem Iy3 {q:ProcS} (h:okS q=true) (h1:¬ q.state=2) (i:Nat) {v:Int} (hv:0≤v∧v≤12):okS (fdS q i v)=true:=by
 unfold okS at h ⊢
 rw [if_neg h1] at h
 rw [if_neg (show ¬ (fdS q i v).state=2 from h1)]
 simp only [Bool.and_eq_true] at h ⊢
 refine ⟨h.1,h.2.1,?_,h.2.2.2⟩
 have:=h.2.2.1
 simp only [Bool.not_eq_true',List.any_eq_false,fdS] at this ⊢
 intro x hx
 rcases List.mem_or_eq_of_mem_set hx with h2|rfl
 ·exact this x h2
 ·simp;omega
theorem Gj6:∀ {xs:List Value},xs.all (fun v=>match v with|.int _ _=>true|_=>false)=true→eqs xs xs=some true
 | [],_=>rfl
 | .int k n::xs,h=>by
  simp only [List.all_cons,Bool.true_and] at h
  simp [eqs,eq1,Gj6 h]
 | .bool _::_,h|.string _::_,h|.pointer _::_,h|.slice _ _ _::_,h|.map _::_,h|.agg _::_,h|.tuple _::_,h=>by simp at h
theorem G38:∀ (l:List UInt8),E4 (List.replicate l.length (TypeDesc.int .u8)) (A0 l)=true
 | []=>rfl
 | a::l=>by
  have:=G38 l
  simp only [A0] at this ⊢
  simp only [List.length_cons,List.replicate_succ,List.map_cons,E4,decide_true,this,Bool.and_self]
theorem eqP {α:Type} (p:PipeS) (k:Bool→Option α):Af8 PR B3 (D0 p) (D0 p) k=k true:=by
 have e:Ad7 PR 8 B3=some (.int .i64::.int .i64::.int .i64::.int .i64::List.replicate 32 (TypeDesc.int .u8)):=by kernel_rfl
 have f:=G38 p.data
 rw [p.len] at f
 have f2:E4 (.int .i64::.int .i64::.int .i64::.int .i64::List.replicate 32 (TypeDesc.int .u8)) (D0 p)=true:=by
  simp only [D0,E4,decide_true,f,Bool.and_self]
 have q:eqs (D0 p) (D0 p)=some true:=Gj6 (by simp [D0,A0])
 rw [Af8,e]
 simp only [f2,q,Bool.and_self,ckB,cond_true,eqK]
theorem E98 (n:Int):BitVec.ofInt 64 (IntKind.wrap .i64 n)=BitVec.ofInt 64 n:=by
 apply BitVec.eq_of_toNat_eq
 rw [BitVec.toNat_ofInt,BitVec.toNat_ofInt,B0];omega
theorem Gn0 (x:BitVec 64):BitVec.ofInt 64 (x.toNat:Int)=x:=by
 apply BitVec.eq_of_toNat_eq
 have:=x.isLt
 rw [BitVec.toNat_ofInt];omega
theorem Gh4 (a b:Int):BitVec.ofInt 64 (B5 .i64 a b)=BitVec.ofInt 64 a &&& BitVec.ofInt 64 b:=by
 unfold B5;rw [E98];exact Gn0 _
theorem Eo2 (a b:Int):BitVec.ofInt 64 (N9 .i64 a b)=BitVec.ofInt 64 a &&& ~~~ BitVec.ofInt 64 b:=by
 unfold N9;rw [E98];exact Gn0 _
theorem Dx8 {a b:Int} (h:BitVec.ofInt 64 a &&& BitVec.ofInt 64 b=0#64):B5 .i64 a b=0:=by
 unfold B5
 rw [show IntKind.bits .i64=64 from rfl,h];rfl
theorem Gs9 {a b:Int} (h:BitVec.ofInt 64 a &&& ~~~ BitVec.ofInt 64 b=0#64):N9 .i64 a b=0:=by
 unfold N9
 rw [show IntKind.bits .i64=64 from rfl,h];rfl
theorem bv1 (x b:BitVec 64):(x &&& b) &&& ~~~ b=0#64:=by
 apply BitVec.eq_of_getLsbD_eq;intro i hi
 simp only [BitVec.getLsbD_and,BitVec.getLsbD_not,BitVec.getLsbD_zero]
 cases x.getLsbD i<;>cases b.getLsbD i<;>simp
theorem bv2 (x b c:BitVec 64):(x &&& b &&& ~~~ c) &&& ~~~ b=0#64:=by
 apply BitVec.eq_of_getLsbD_eq;intro i hi
 simp only [BitVec.getLsbD_and,BitVec.getLsbD_not,BitVec.getLsbD_zero]
 cases x.getLsbD i<;>cases b.getLsbD i<;>simp
theorem bv3 (x c:BitVec 64):(x &&& ~~~ c) &&& c=0#64:=by
 apply BitVec.eq_of_getLsbD_eq;intro i hi
 simp only [BitVec.getLsbD_and,BitVec.getLsbD_not,BitVec.getLsbD_zero]
 cases x.getLsbD i<;>cases c.getLsbD i<;>simp
theorem bv4 (x b c g:BitVec 64):(x &&& b &&& ~~~ c &&& ~~~ g) &&& ~~~ b=0#64:=by
 apply BitVec.eq_of_getLsbD_eq;intro i hi
 simp only [BitVec.getLsbD_and,BitVec.getLsbD_not,BitVec.getLsbD_zero]
 cases x.getLsbD i<;>cases b.getLsbD i<;>simp
theorem bv5 (x c g:BitVec 64):(x &&& ~~~ c &&& ~~~ g) &&& c=0#64:=by
 apply BitVec.eq_of_getLsbD_eq;intro i hi
 simp only [BitVec.getLsbD_and,BitVec.getLsbD_not,BitVec.getLsbD_zero]
 cases x.getLsbD i<;>cases c.getLsbD i<;>simp
theorem bv6 (x g:BitVec 64):g &&& (x &&& ~~~ g)=0#64:=by
 apply BitVec.eq_of_getLsbD_eq;intro i hi
 simp only [BitVec.getLsbD_and,BitVec.getLsbD_not,BitVec.getLsbD_zero]
 cases x.getLsbD i<;>cases g.getLsbD i<;>simp
theorem H58 (a:Int):0≤B5 .i64 a 65534∧B5 .i64 a 65534≤65534:=by
 unfold B5
 rw [show IntKind.bits .i64=64 from rfl,BitVec.toNat_and]
 have:=Nat.and_le_right (n:=(BitVec.ofInt 64 a).toNat) (m:=(BitVec.ofInt 64 65534).toNat)
 have e:(BitVec.ofInt 64 65534).toNat=65534:=rfl
 rw [e] at this ⊢
 rw [B0];omega
theorem H69 {y:Int} (c:Int) (h:0≤y∧y≤65534):0≤N9 .i64 y c∧N9 .i64 y c≤65534:=by
 unfold N9
 rw [show IntKind.bits .i64=64 from rfl,BitVec.toNat_and]
 have:=Nat.and_le_left (n:=(BitVec.ofInt 64 y).toNat) (m:=(~~~ BitVec.ofInt 64 c).toNat)
 have e:(BitVec.ofInt 64 y).toNat=y.toNat:=by rw [BitVec.toNat_ofInt];omega
 rw [e] at this ⊢
 rw [B0];omega
def nx (l:List Int) (k:Nat):Int:=if k>l.length then 7*k else l.getD (k-1) 0%16777216
theorem Hh1 (l:List Int) (k:Nat):0≤nx l k:=by unfold nx;split<;>omega
def stA (x:Int):Int:=if x=0 then 1 else if x=1 then 1 else if x=2 then 3 else 2
abbrev G85 (l:List Int):Int:=N9 .i64 (B5 .i64 (nx l 2) 65534) 16896
abbrev Ea3 (l:List Int):Int:=N9 .i64 (B5 .i64 (B5 .i64 (nx l 3) (nx l 4)) 65534) 16896
abbrev Hh0 (l:List Int):Int:=N9 .i64 (N9 .i64 (B5 .i64 (nx l 5) 65534) 16896) (Ea3 l)
abbrev Gp4 (l:List Int):Int:=B5 .i64 (B5 .i64 (nx l 6) (nx l 7)) 65534
abbrev E94 (l:List Int) (code pend:Int):ProcS:=⟨stA (nx l 1%4),nx l 1 / 4%16%9,nx l 1 / 64%8,code,pend,G85 l,Ea3 l,Hh0 l,E89,rfl⟩
def fdA (l:List Int):Nat→Nat→Nat→ProcS→ProcS
 | 0,_,_,q=>q
 | m+1,k,i,q=>fdA l m (k+1) (i+1) (if nx l (k+1)%4=0 then q else fdS q i (nx l (k+1) / 4%13))
def D50 (l:List Int):ProcS:=if stA (nx l 1%4)=2 then E94 l (nx l 1 / 512%256) 0 else fdA l 8 7 0 (E94 l 0 (Gp4 l))
structure InS (p:ProcS):Prop where
 a:0≤p.pending∧p.pending≤65535
 b:0≤p.mask∧p.mask≤65535
 c:0≤p.ignored∧p.ignored≤65535
 d:0≤p.caught∧p.caught≤65535
theorem Ha9 (l:List Int) (code pend:Int) (h:0≤pend∧pend≤65535):InS (E94 l code pend):=by
 have h1:0≤G85 l∧G85 l≤65534:=H69 16896 (H58 (nx l 2))
 have h2:0≤Ea3 l∧Ea3 l≤65534:=H69 16896 (H58 (B5 .i64 (nx l 3) (nx l 4)))
 have h3:0≤Hh0 l∧Hh0 l≤65534:=H69 (Ea3 l) (H69 16896 (H58 (nx l 5)))
 exact ⟨h,by simp only;omega,by simp only;omega,by simp only;omega⟩
theorem Hk5 (l:List Int) (code pend:Int) (hp:Aq3 pend 0=true) (hs:if stA (nx l 1%4)=2 then pend=0∧0≤code∧code≤255 else code=0):okS (E94 l code pend)=true:=by
 have n0:=Hh1 l 1
 have hst:1≤stA (nx l 1%4)∧stA (nx l 1%4)≤3:=by unfold stA;(repeat' split)<;>omega
 have b1:Aq3 (G85 l) 16896=true:=by
  unfold Aq3
  rw [Gs9 (by rw [Eo2,Gh4];exact bv2 _ _ _),Dx8 (by rw [Eo2,Gh4];exact bv3 _ _)];rfl
 have b2:Aq3 (Ea3 l) 16896=true:=by
  unfold Aq3
  rw [Gs9 (by rw [Eo2,Gh4 _ 65534];exact bv2 _ _ _),Dx8 (by rw [Eo2,Gh4];exact bv3 _ _)];rfl
 have b3:Aq3 (Hh0 l) 16896=true:=by
  unfold Aq3
  rw [Gs9 (by rw [Eo2 _ (Ea3 l),Eo2 _ 16896,Gh4];exact bv4 _ _ _ _),Dx8 (by rw [Eo2 _ (Ea3 l),Eo2 _ 16896];exact bv5 _ _ _)];rfl
 have b4:B5 .i64 (Ea3 l) (Hh0 l)=0:=Dx8 (by rw [Eo2 _ (Ea3 l)];exact bv6 _ _)
 unfold okS
 simp only [b1,b2,b3,b4,hp]
 by_cases h2:stA (nx l 1%4)=2
 ·rw [if_pos h2] at hs
  rw [if_pos h2]
  obtain ⟨rfl,hc⟩:=hs
  simp;omega
 ·rw [if_neg h2] at hs
  rw [if_neg h2]
  subst hs
  simp;omega
theorem Ha1 (l:List Int):∀ (m k i:Nat) (q:ProcS),okS q=true→¬ q.state=2→InS q→okS (fdA l m k i q)=true∧InS (fdA l m k i q)
 | 0,_,_,q,h,_,r=>⟨h,r⟩
 | m+1,k,i,q,h,h2,r=>by
  unfold fdA
  split
  ·exact Ha1 l m _ _ _ h h2 r
  ·exact Ha1 l m _ _ _ (Iy3 h h2 i (by omega)) h2 ⟨r.a,r.b,r.c,r.d⟩
theorem Iz6:Aq3 0 0=true:=by kernel_rfl
theorem Ik1 (l:List Int):okS (D50 l)=true∧InS (D50 l):=by
 have hp:0≤Gp4 l∧Gp4 l≤65534:=H58 (B5 .i64 (nx l 6) (nx l 7))
 unfold D50
 split
 ·rename_i h
  exact ⟨Hk5 l _ 0 Iz6 (by rw [if_pos h];exact ⟨rfl,by omega,by omega⟩),Ha9 l _ 0 (by omega)⟩
 ·rename_i h
  refine Ha1 l 8 7 0 _ (Hk5 l 0 _ ?_ (by rw [if_neg h])) h (Ha9 l 0 _ (by omega))
  unfold Aq3
  rw [Gs9 (by rw [Gh4 _ 65534];exact bv1 _ _),Dx8 (by simp)];rfl
theorem Hw5 {p:ProcS} (r:InS p):H00 p=Bb4 p:=by
 have e:∀ n:Int,0≤n∧n≤65535→Gg1 n=put2 n:=fun n h=>by unfold Gg1 put2 hi2 lo2;rw [if_pos h,if_pos h]
 unfold H00 Bb4 G91 E84
 rw [e _ r.a,e _ r.b,e _ r.c,e _ r.d]
theorem B41 (bn bz:Nat) (p:HP) (a:Option Addr) (ro:Bool) (c:Nat) (l:List Int) [ks:IsSl p a ro B2 1 l.length c (l.map int)] (n:Nat) (hn:n≤1000) :
  Ct A4 I0 [P0 bn,P0 bz] [pt bn (.cells B2 false [int n]),pt bz (.cells L6 false [.slice a l.length c]),p] fun v own=>v=int (nx l (n+1))∧own [pt bn (.cells B2 false [int ((n+1:Nat):Int)]),pt bz (.cells L6 false [.slice a l.length c]),p]:=by
 have e1:=wN n
 refine Ct.of Gx2 rfl fun h r=>Tr.eq (Gv6 ..) ?_;refine Je ?_
 (refine Ja ?_;intros)
 simp only [e1,List.set_cons_zero]
 by_cases hg:n+1>l.length
 ·refine Yt (by simp;omega) ?_
  (refine Ja ?_;intros)
  refine Ys fun o=>?_
  have:nx l (n+1)=7*((n+1:Nat):Int):=by unfold nx;rw [if_pos hg]
  refine ⟨?_,o.sub⟩
  rw [this];congr 1;rw [B0];omega
 ·refine Yf (by simp;omega) ?_
  have hx:(l.map int)[n]?=some (int (l.getD n 0)):=by rw [List.getElem?_map,J7 0 (show n<l.length by omega)];rfl
  have e2:IntKind.wrap .i64 (((n+1:Nat):Int)-1)=(n:Int):=by rw [B0];omega
  (refine Ja ?_;intros;repeat(refine Gw ?_;rintro px rfl;refine Ja ?_;intros))
  rw [e2,Int.toNat_natCast]
  (refine Ja ?_;intros)
  refine Ys fun o=>?_
  have:nx l (n+1)=l.getD n 0%16777216:=by unfold nx;rw [if_neg hg];rfl
  rw [this,Gv4]
  exact ⟨rfl,o.sub⟩
theorem Hr5 (bn bz bq bx:Nat) (z:ProcS) (p:HP) (a:Option Addr) (ro:Bool) (c:Nat) (l:List Int) [ks:IsSl p a ro B2 1 l.length c (l.map int)]:∀ (m i k:Nat) (q:ProcS),i+m=8→k≤100+i →
  CtJ E9 Ah6 A33 [(2,P0 bx),(4,.func (.func I0) ⟨[]⟩ ⟨[P0 bn,P0 bz]⟩),(6,P0 bq),(7,int i)] [pt bn (.cells B2 false [int k]),pt bz (.cells L6 false [.slice a l.length c]),pt bq (.cells B6 false (B9 q)),pt bx (.cells B6 false (B9 z)),p] fun v own=>v=.agg ⟨B9 (fdA l m k i q)⟩∧own [p]:=by
 intro m
 induction m with
 | zero =>
  intro i k q hi hk
  refine CtJ.of D15 fun h r=>Tr.eq (D77 ..) ?_;refine Je ?_
  refine Yf (by simp;omega) ?_
  (refine Ja ?_;intros)
  refine Ys fun o=>?_
  exact ⟨rfl,o.sub⟩
 | succ m ih =>
  intro i k q hi hk
  have e1:=wN i
  refine CtJ.of D15 fun h r=>Tr.eq (D77 ..) ?_;refine Je ?_
  refine Yt (by simp;omega) ?_
  simp only [Hd6,G88,pw]
  refine Yc (B41 bn bz p a ro c l k (by omega)) ?_;rintro _ h ⟨rfl,o⟩<;>(refine Jf o ?_;intros)
  rw [e1,E88 (show 0≤nx l (k+1) / 4 by have:=Hh1 l (k+1);omega)]
  have ef:fdA l (m+1) k i q=fdA l m (k+1) (i+1) (if nx l (k+1)%4=0 then q else fdS q i (nx l (k+1) / 4%13)):=rfl
  rw [ef]
  by_cases h4:nx l (k+1)%4=0
  ·refine Yf (by simpa using h4) ?_
   rw [if_pos h4]
   refine Yr (ih (i+1) (k+1) q (by omega) (by omega)) ?_
   intro v h q
   exact q
  ·refine Yt (by simpa using h4) ?_
   rw [if_neg h4]
   (refine Ja ?_;intros)
   rw [Int.toNat_natCast]
   refine Gs (fun h=>?_) (by exact Ir8 q i (nx l (k+1) / 4%13) (by omega))
   refine Yr (ih (i+1) (k+1) (fdS q i (nx l (k+1) / 4%13)) (by omega) (by omega)) ?_
   intro v h q
   exact q
theorem Im6 (p:HP) (a:Option Addr) (ro:Bool) (c:Nat) (l:List Int) [ks:IsSl p a ro B2 1 l.length c (l.map int)]:Ct A4 Ah6 [.slice a l.length c] [p] fun v own=>v=.agg ⟨B9 (D50 l)⟩∧own [p]:=by
 have n1:=Hh1 l 1
 have hst:([int 1,int 1,int 3,int 2]:List Value)[(nx l 1%4).toNat]?=some (int (stA (nx l 1%4))):=by
  have:nx l 1%4=0∨nx l 1%4=1∨nx l 1%4=2∨nx l 1%4=3:=by omega
  rcases this with h|h|h|h<;>rw [h]<;>rfl
 refine Ct.of D15 rfl fun h r=>Tr.eq (Hg9 ..) ?_;refine Je ?_
 refine Yn fun bz h=>?_
 refine Yn fun bx h=>?_
 refine Yn fun bn h=>?_
 simp only [Hd6,Hv1,H98,D02,G88,pw]
 (refine Ja ?_;intros)
 simp only [List.set_cons_zero]
 refine Yc (B41 bn bz p a ro c l 0 (by omega)) ?_;rintro _ h ⟨rfl,o⟩<;>refine Jh o ?_
 refine Tr.dx ?_
 refine Yn fun b4 h=>?_
 refine Tr.ck (by omega) ?_
 refine Tr.xInt hst ?_
 refine Yn fun bq h=>?_
 rw [E88 (show 0≤nx l (0+1) / 4%16 by omega)]
 (refine Ja ?_;intros)
 refine Yc (B41 bn bz p a ro c l 1 (by omega)) ?_;rintro _ h ⟨rfl,o⟩<;>(refine Jf o ?_;intros)
 refine Yc (B41 bn bz p a ro c l 2 (by omega)) ?_;rintro _ h ⟨rfl,o⟩<;>(refine Jf o ?_;intros)
 refine Yc (B41 bn bz p a ro c l 3 (by omega)) ?_;rintro _ h ⟨rfl,o⟩<;>(refine Jf o ?_;intros)
 refine Yc (B41 bn bz p a ro c l 4 (by omega)) ?_;rintro _ h ⟨rfl,o⟩<;>(refine Jf o ?_;intros)
 by_cases h2:stA (nx l 1%4)=2
 ·refine Yt (by simpa using h2) ?_
  (refine Ja ?_;intros)
  refine Ys fun o=>?_
  unfold D50
  rw [if_pos h2]
  exact ⟨rfl,o.sub⟩
 ·refine Yf (by simpa using h2) ?_
  refine Yc (B41 bn bz p a ro c l 5 (by omega)) ?_;rintro _ h ⟨rfl,o⟩<;>(refine Jf o ?_;intros)
  refine Yc (B41 bn bz p a ro c l 6 (by omega)) ?_;rintro _ h ⟨rfl,o⟩<;>(refine Jf o ?_;intros)
  have ea:D50 l=fdA l 8 7 0 (E94 l 0 (Gp4 l)):=by unfold D50;rw [if_neg h2]
  rw [ea]
  refine U0 [0,0,1,2,0] 1 rfl rfl ?_
  refine Gv8 (Hr5 bn bz bq bx .zero p a ro c l 8 0 7 (E94 l 0 (Gp4 l)) rfl (by omega)) [0,0,0,0,0] rfl ?_
  intro v h q
  exact q
theorem H49:EnvP 0 1:=⟨by omega,by omega,by kernel_rfl,by kernel_rfl,by kernel_rfl⟩
theorem eqS {α:Type} (p:ProcS) (k:Bool→Option α):Af8 PR B6 (B9 p) (B9 p) k=k true:=by
 have e:Ad7 PR 8 B6=some (List.replicate 16 (TypeDesc.int .i64)):=by kernel_rfl
 have f:=Em5 p.fds
 rw [p.len] at f
 have f2:E4 (List.replicate 16 (TypeDesc.int .i64)) (B9 p)=true:=by
  show E4 (.int .i64::.int .i64::.int .i64::.int .i64::.int .i64::.int .i64::.int .i64::.int .i64::List.replicate 8 (TypeDesc.int .i64)) (B9 p)=true
  simp only [B9,E4,decide_true,f,Bool.and_self]
 have q:eqs (B9 p) (B9 p)=some true:=Gj6 (by simp [B9])
 rw [Af8,e]
 simp only [f2,q,Bool.and_self,ckB,cond_true,eqK]
theorem Ho9 (c k:Nat) (F:Fr) (X:CX) (ok:FrOk F) (p:PipeS):Ct A4 Af5 [P0 c,.agg ⟨D0 p⟩] [cmC c k F X] fun v own=>v=.bool (Df8 X p).1∧own [cmC c k F (Df8 X p).2]:=by
 refine Ct.of Dt4 rfl fun h r=>Tr.eq (Dr0 ..) ?_;refine Je ?_
 (refine Ja ?_;unhygienic intros)
 refine Yc (Ep7 p) ?_
 rintro v h (⟨hk,a,rfl,o⟩|⟨hk,rfl,o⟩)
 ·refine (?_:Tr _ _ _ _) o
  refine Je ?_
  (refine Ja ?_;unhygienic intros)
  have J:=Bc5 c k F X ⟨4,0⟩ ok (Al3 p) true a 40 (fun _=>Bo6 p.len)
  rw [Bo6 p.len] at J
  refine Yc (J) ?_;rintro _ h ⟨rfl,o⟩<;>(refine Jf o ?_;unhygienic intros)
  refine Ys fun o=>?_
  unfold Df8;rw [hk]
  exact ⟨rfl,o.sub⟩
 ·refine (?_:Tr _ _ _ _) o
  refine Je ?_
  (refine Ja ?_;unhygienic intros)
  refine Yc (B55 c k F X ⟨4,0⟩ ok) ?_;rintro _ h ⟨rfl,o⟩<;>(refine Jf o ?_;unhygienic intros)
  refine Ys fun o=>?_
  unfold Df8;rw [hk,Bh7]
  exact ⟨rfl,o.sub⟩
abbrev B69:List (Int × Int):=[(0,492),(1280,492),(512,40),(1856,40)]
theorem He4 (k:Nat) (S:KS) (A:KA):CtP A4 Ab7 [P0 k] [pt k (.cells Dj2 false (Eq1 S A))] (P0 A.r):=by
 refine CtP.of Ev4 rfl fun h r=>Tr.eq (Eu6 ..) ?_;refine Je ?_
 exact Jz
theorem Iu3 (F:Fr) (m:List (List UInt8)):(F.at m).regs=F.S.regs:=rfl
theorem I35 (S:KS) (s:Nat) (env:Int):(frP S s env).S=S:=rfl
end Go.EQ
