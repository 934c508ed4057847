/- Pipes are apart: what flows in one is nothing to another one; no conditions. -/
import Derived.Test.YtnmdbfbjdhgmlaaGreatMh
import Derived.KernelRfl
import Derived.Test.YtnmdbfbjdhgmlaaGreatRows
set_option linter.all false
set_option maxRecDepth 10000
namespace Go.EQ
open Go Go.NN
theorem E94 (k:Nat) (S:KS) (A:KA):CtP A9 Ak9 [P0 k] [pt k (.cells Dt6 false (Eq2 S A))] (P0 A.s):=by
 refine CtP.of Eq9 rfl fun h r=>Tr.eq (Er5 ..) ?_;refine Je ?_
 exact Jz
theorem Ib1 (k:Nat) (S:KS) (N:Nat) (ok:KOk N S) (env:Int):Ct A9 Bn4 [P0 k,int env] [D9 k S] fun v own =>
  (A32 S.tabs env≠[]∧∃ c,v=.tuple ⟨[P0 c,int 0]⟩∧own [V2 c k env (A32 S.tabs env) [],D9 k S])∨(A32 S.tabs env=[]∧v=.tuple ⟨[.pointer none,int 1]⟩∧own [D9 k S]):=by
 refine Ct.of Gn0 rfl fun h r=>Tr.eq (Gn7 ..) ?_;refine Je ?_
 refine B4 (D9 k S) fun ⟨m,s,q,rg,ea,ec,ma,mc,ms,sa,sc,ss⟩=>?_;refine Je ?_
 (refine Jb ?_;unhygienic intros)
 refine Yb (Yf rfl ?_)
 refine Tr.pcall (E94 k S ⟨m,s,q,rg,ea,ec,ma,mc,ms,sa,sc,ss⟩) ?_;refine Je ?_;(refine Ja ?_;unhygienic intros)
 try dsimp only
 refine Yc (E77 s S.tabs env ok.space) ?_;rintro _ h ⟨a0,c0,rfl,o⟩<;>refine Jh o ?_
 (refine Ja ?_;unhygienic intros)
 refine Ys fun o=>(?_:Tr _ _ _ _) o;refine Je ?_
 by_cases hz:A32 S.tabs env=[]
 ·refine Yt (by simp [hz]) ?_
  refine B2 (D9 k S) ⟨m,s,q,rg,ea,ec,ma,mc,ms,sa,sc,ss⟩ ?_;refine Je ?_
  refine Ys fun o=>?_
  exact .inr ⟨hz,rfl,o.sub⟩
 ·refine Yf ?_ ?_
  ·rw [beq_eq_false_iff_ne]
   intro h0
   exact hz (List.eq_nil_of_length_eq_zero (by omega))
  refine Tr.pcall (E94 k S ⟨m,s,q,rg,ea,ec,ma,mc,ms,sa,sc,ss⟩) ?_;refine Je ?_;(refine Ja ?_;unhygienic intros)
  try dsimp only
  refine Yc (E77 s S.tabs env ok.space) ?_;rintro _ h ⟨a1,c1,rfl,o⟩<;>refine Jh o ?_
  (refine Jc ?_;unhygienic intros)
  refine Yn fun mb h=>?_
  refine Yn fun c h=>?_
  refine B2 (D9 k S) ⟨m,s,q,rg,ea,ec,ma,mc,ms,sa,sc,ss⟩ ?_;refine Je ?_
  refine E2 (V2 c k env (A32 S.tabs env) []) (a1,c1,mb) [1,2,1] rfl ?_;refine Je ?_
  refine Ys fun o=>?_
  exact .inl ⟨hz,c,rfl,o.sub⟩
def A72:PlanS:=⟨[false,false],[(0,1),(1,0)],5⟩
theorem H05:Ct A9 Bx5 [] [] fun v own=>∃ A,v=.agg ⟨En8 A72 A⟩∧own (Dd8 A72 A):=by
 refine Ct.of Gt0 rfl fun h r=>Tr.eq (G19 ..) ?_;refine Je ?_
 (refine Jc ?_;unhygienic intros;rename H=>h)
 refine Yn fun b h=>?_
 refine Yn fun b1 h=>?_
 refine Yn fun b2 h=>?_
 (refine Ja ?_;unhygienic intros;rename H=>h)
 refine Ah6 0 rfl 2 2 rfl (by omega) ?_
 refine Ah6 1 rfl 1 2 rfl (by omega) ?_
 refine Je ?_
 refine Ys fun o=>?_
 exact ⟨⟨some ⟨b1,0,none⟩,2,some ⟨b2,0,none⟩,2⟩,rfl,(show Own h (slC false Bt8 2 (some ⟨b2,0,none⟩) A72.brs.length 2 (A72.brs.flatMap brL)::slC false E30 1 (some ⟨b1,0,none⟩) A72.bad.length 2 (A72.bad.map Value.bool)::_) from o).sub⟩
def Af9:BootS:=Ef5 A72
theorem Gx1:Bk3 Af9=true:=by kernel_rfl
theorem Eu9:Small Af9:=by
 have e:Af9=⟨[20,20],[0,0,0,0,0,0,0,0,0,1,1,1,1,1,1,1,1,1],[[0],[1]],5,[⟨0,0,0,492,[0]⟩,⟨1,0,0,492,[1]⟩,⟨0,8,0,40,[0,1]⟩,⟨1,9,0,40,[1,0]⟩]⟩:=by kernel_rfl
 rw [e]
 exact ⟨by simp [B0],by simp [B0],by simp [B0]⟩
theorem Br2:Af9=⟨[20,20],[0,0,0,0,0,0,0,0,0,1,1,1,1,1,1,1,1,1],[[0],[1]],5,[⟨0,0,0,492,[0]⟩,⟨1,0,0,492,[1]⟩,⟨0,8,0,40,[0,1]⟩,⟨1,9,0,40,[1,0]⟩]⟩:=by kernel_rfl
theorem Ib7:RBoot Af9 (Ag3 Af9.frames):=by
 rw [Br2]
 refine ⟨by simp,by simp,by simp,fun x hx=>?_,fun x hx=>?_⟩
 ·simp only [List.mem_cons,List.not_mem_nil,or_false] at hx
  rcases hx with rfl|rfl|rfl|rfl<;>simp [B0]
 ·simp only [List.mem_cons,List.not_mem_nil,or_false] at hx
  rcases hx with rfl|rfl|rfl|rfl<;>simp [Ag3]
def S00:KS:=Dt3 Af9
theorem Gv5:KOk 0 S00:=H78 Gx1 Eu9
def wrS (S:KS) (cap:Int) (b:List UInt8):KS:=(W7 S 0 ⟨2,cap,0,0,0,0,b⟩).2
def S0:KS:=wrS S00 256 Ab1
theorem Ik4:(W7 S00 0 ⟨2,256,0,0,0,0,Ab1⟩).1.1=0:=by kernel_rfl
theorem H64:A32 S00.tabs 0=[256,257,258]:=by kernel_rfl
def wrR (K:RKS) (cap:Int) (b:List UInt8):RKS:={ K with R:=(Ag1 K.R 0 cap 0 b).2 }
def K0:RKS:=wrR (Da5 Af9) 256 Ab1
theorem Dz3:RKOk (Da5 Af9)∧(Da5 Af9).B=Af9:=H87 (by rw [Br2];simp) (by rw [Br2];simp)
theorem E37 {K:RKS} (k:RKOk K) (cap:Int) (b:List UInt8):RKOk (wrR K cap b):=Ia4 k 0 cap 0 b
theorem Hz5:Bx3 K0 0≠[]:=by
 have:Bx3 K0 0=[256,257,258]:=by kernel_rfl
 rw [this];simp
theorem Aa5:Ab1.length=492:=by kernel_rfl
theorem Dk6 {l:List HP} {h:H} {α:Type} {Q:α→H→Prop} {x:Option (α × H)} (i:Nat) {b n:Nat} {cs:List Value} (hi:l[i]?=some (pt b (.cells A4 false cs))) (hn:cs.length=n) (t:Tr (l.set i (slC false A4 1 (some (J4 b)) n n cs)) h x Q):Tr l h x Q:=fun o=>by
 refine t (Own.back (h:=h) hi ?_)
 have o1:=o.front hi
 refine Own.slShut (pre:=[]) (post:=[]) (by simpa using o1) ⟨by omega,Nat.le_refl _,by simp,by simp,by simp,by omega,by simp⟩
theorem Ia0 (A:PlA):Ct A9 Be1 [.agg ⟨En8 A72 A⟩] (Dd8 A72 A) fun v own =>
  ∃ k c w m,v=.tuple ⟨[P0 k,P0 c,P0 w,P0 m]⟩∧own [D9 k S0,V2 c k 0 [256,257,258] [],rkC w K0,rcC m w 0 (Bx3 K0 0) []]:=by
 have hB:Ef5 A72=Af9:=rfl
 obtain ⟨ba,bc,ra,rc⟩:=A
 refine Ct.of Gp9 rfl fun h r=>Tr.eq (Gr5 ..) ?_;refine Je ?_
 refine Yn fun b0 h=>?_
 (refine Ja ?_;unhygienic intros)
 refine Yc (Ib6 A72 ⟨ba,bc,ra,rc⟩ (by simp [A72]) (by simp [A72])) ?_;rintro _ h ⟨A,kA,rfl,o⟩<;>refine Jh o ?_
 rw [hB] at kA ⊢
 obtain ⟨fa,fc,ea,ec,sa,sc,ss,ha,hc,hs⟩:=A
 (refine Jc ?_;unhygienic intros)
 refine Yn fun b1 h=>?_
 (refine Ja ?_;unhygienic intros)
 have J:=Ig0 false Af9 ⟨fa,fc,ea,ec,sa,sc,ss,ha,hc,hs⟩ kA Eu9
 simp only [Gx1,if_true] at J
 refine Yc (J) ?_;rintro _ h ⟨k,rfl,o⟩<;>refine Jh o ?_
 (refine Jb ?_;unhygienic intros)
 refine Yb (Yf rfl ?_)
 refine Ys fun o=>(?_:Tr _ _ _ _) o;refine Je ?_
 refine Yf rfl ?_
 (refine Ja ?_;unhygienic intros)
 refine Yc (G87 Af9 ⟨fa,fc,ea,ec,sa,sc,ss,ha,hc,hs⟩ kA (by rw [Br2];simp) Ib7) ?_;rintro _ h ⟨w,rfl,o⟩<;>refine Jh o ?_
 (refine Ja ?_;unhygienic intros)
 refine Yc (Ib1 k (Dt3 Af9) 0 Gv5 0) ?_
 rintro v h (⟨hz,c,rfl,o⟩|⟨hz,rfl,o⟩)
 case inr=>exact absurd hz (by rw [show Dt3 Af9=S00 from rfl,H64];simp)
 rw [show Dt3 Af9=S00 from rfl,H64] at o
 refine (?_:Tr _ _ _ _) o
 refine Je ?_
 (refine Jb ?_;unhygienic intros)
 refine Yb (Yf rfl ?_)
 refine Ys fun o=>(?_:Tr _ _ _ _) o;refine Je ?_
 refine Yf rfl ?_
 refine Yc (Gi8) ?_;rintro _ h ⟨rfl,o⟩<;>refine Jh o ?_
 (refine Jc ?_;unhygienic intros)
 refine Tr.ck (by rw [Ae2,Aa5];simp [B0]) ?_
 rw [Ae2,Aa5]
 refine Yn fun b2 h=>?_
 refine Dk6 (n:=492) 0 rfl (by rw [Q9,show (bs Ab1).data.toList=Ab1 from rfl,Aa5]) ?_
 refine Je ?_
 have J2:=Dy8 k S00 0 Gv5 (by omega) 0 ⟨2,256,0,0,0,0,Ab1⟩ (some (J4 b2)) 492 false (show ((2:Int)≠5) by decide)
 simp only [Aa5] at J2
 refine Bq6 J2 [2,0] rfl ?_
 rintro _ h ⟨y,d,rfl,o⟩
 rw [Ik4]
 rw [show (W7 S00 0 ⟨2,256,0,0,0,0,Ab1⟩).2=S0 from rfl] at o
 refine (?_:Tr _ _ _ _) o
 refine Je ?_
 (refine Jc ?_;unhygienic intros)
 refine Yf rfl ?_
 refine Tr.ck (by simp [B0]) ?_
 refine Yn fun b3 h=>?_
 refine Dk6 (n:=492) 0 rfl (by rw [Q9,Aa5]) ?_
 refine Je ?_
 have J3:=Eq3 w (Da5 Af9) Dz3.1 0 (by rw [Dz3.2,Br2];simp) ⟨2,256,0,0,0,0,Ab1⟩ rfl (by rw [Aa5];simp [B0]) (slC false A4 1 (some (J4 b3)) Ab1.length 492 (A0 Ab1)) (some (J4 b3)) 492 false
 simp only [Aa5] at J3
 refine Yc J3 ?_
 rintro _ h ⟨rfl,o⟩
 rw [show ({ Da5 Af9 with R:=(Ag1 (Da5 Af9).R ((0:Nat):Int) 256 0 Ab1).2 }:RKS)=K0 from rfl] at o
 refine (?_:Tr _ _ _ _) o
 refine Je ?_
 (refine Ja ?_;unhygienic intros)
 refine Yc (E99 w K0 (E37 Dz3.1 256 Ab1) 0 (by show (0:Nat)<(Da5 Af9).B.envs.length;rw [Dz3.2,Br2];simp)) ?_
 rintro v h (⟨_,m,rfl,o⟩|⟨hn,rfl,o⟩)
 case inr=>exact absurd hn Hz5
 refine (?_:Tr _ _ _ _) o
 refine Je ?_
 (refine Ja ?_;unhygienic intros)
 refine Ys fun o=>?_
 exact ⟨k,c,w,m,rfl,o.sub⟩
def Bt7 (mem:List UInt8) (rg:Rg):List (List UInt8):=rg.map fun p=>slice mem p.1 p.2
theorem Gz8 {mem:List UInt8} {rg:Rg} {j lo n:Nat} (h:rg[j]?=some (lo,n)):(Bt7 mem rg)[j]?=some (slice mem lo n):=by unfold Bt7;rw [List.getElem?_map,h];rfl
theorem Gz1 {mem:List UInt8} {rg:Rg} (h:∀ (j lo n:Nat),rg[j]?=some (lo,n)→lo+n≤mem.length):Fit mem.length rg (Bt7 mem rg):=⟨by simp [Bt7],fun j lo n hj=>⟨h j lo n hj,slice mem lo n,Gz8 hj,Gf9 (h j lo n hj)⟩⟩
theorem H22 {mem:List UInt8} {rg:Rg} (k:RgOk rg) (h:∀ (j lo n:Nat),rg[j]?=some (lo,n)→lo+n≤mem.length):Aw9 mem rg (Bt7 mem rg)=mem:=by
 have f:=Gz1 h
 refine List.ext_getElem? fun i=>?_
 by_cases ho:∃ (j lo n:Nat),rg[j]?=some (lo,n)∧lo≤i∧i<lo+n
 ·obtain ⟨j,lo,n,hj,h1,h2⟩:=ho
  obtain ⟨i',rfl⟩:∃ i',i=lo+i':=⟨i-lo,by omega⟩
  rw [B36 f k j lo n _ hj (Gz8 hj) i' (by omega),Bs3,if_pos (by omega)]
 ·exact Do0 f i fun j lo n hj=>by
   by_cases hh:lo≤i∧i<lo+n
   ·exact absurd ⟨j,lo,n,hj,hh.1,hh.2⟩ ho
   ·omega
theorem FrOk.room {F:Fr} {j lo n:Nat} (f:Fit F.S.mem.length F.rg (Bt7 F.S.mem F.rg)) (h:F.rg[j]?=some (lo,n)):lo+n≤F.S.mem.length:=(f.each j lo n h).1
theorem Fr.at_cut {F:Fr} (k:FrOk F) (h:∀ (j lo n:Nat),F.rg[j]?=some (lo,n)→lo+n≤F.S.mem.length):F.at (Bt7 F.S.mem F.rg)=F.S:=by
 unfold Fr.at;rw [H22 k.dj h];rfl
theorem Own.cmTake {r:List HP} {h:H} (c k:Nat) (F:Fr) (bad:List RecS) (ok:FrOk F) (hr:∀ (j lo n:Nat),F.rg[j]?=some (lo,n)→lo+n≤F.S.mem.length) (o1:Own h (D9 k F.S::V2 c k F.env F.caps bad::r)):Own h (cmC c k F ⟨Bt7 F.S.mem F.rg,bad⟩::r):=by
 refine Own.inex (f:=fun u:Unit=>sl (cmF c k F ⟨Bt7 F.S.mem F.rg,bad⟩)) () (Own.group (l:=cmF c k F ⟨Bt7 F.S.mem F.rg,bad⟩) ?_)
 show Own h (D9 k (F.at (Bt7 F.S.mem F.rg))::V2 c k F.env F.caps bad::pu _::r)
 rw [Fr.at_cut ok hr]
 have o2:=Own.inpure (show Fit F.S.mem.length F.rg (Bt7 F.S.mem F.rg) from Gz1 hr) o1
 exact o2.picks [1,1,0] rfl
theorem If4 {l r:List HP} {h:H} {α:Type} {Q:α→H→Prop} {x:Option (α × H)} (c k:Nat) (F:Fr) (X:CX) [tk:Take (cmC c k F X) l r]
  (t:Fit F.S.mem.length F.rg X.m→Tr (D9 k (F.at X.m)::V2 c k F.env F.caps X.bad::r) h x Q):Tr l h x Q:=fun o=>by
 have o1:Own h (cmC c k F X::r):=o.perm tk.pm
 obtain ⟨u,o2⟩:=Own.ex (f:=fun u:Unit=>sl (cmF c k F X)) o1
 have o3:Own h (D9 k (F.at X.m)::V2 c k F.env F.caps X.bad::pu (Fit F.S.mem.length F.rg X.m)::r):=Own.join o2
 have f:=(o3.front (i:=2) rfl).pure
 exact t f (o3.front (i:=2) rfl).tail
theorem Hk5 {S:KS} {env cap obj:Int} {lo n:Nat} {e1 e2:Int} (hg:Bn9 S.tabs env cap=some ⟨obj,3,0,(n:Int),e1,e2⟩) (h0:0≤obj) (hr:S.regs[obj.toNat]?=some ((lo:Int),(n:Int))) (hl:lo+n≤65536) :
  ∀ (a m:Nat) (right:Int),right=1∨right=2→a+m≤n→O3 S.tabs S.regs env cap right a m=(((lo+a:Nat):Int),0):=by
 intro a m right hri ha
 have hlt:=(List.getElem?_eq_some_iff.1 hr).1
 unfold O3
 rw [hg]
 have b1:(D0 .i64 3 1==0)=false:=by kernel_rfl
 have b2:(D0 .i64 3 2==0)=false:=by kernel_rfl
 have hb:¬ ((D0 .i64 3 right==0)=true):=by rcases hri with rfl|rfl<;>simp [b1,b2]
 simp only
 have h2:(decide ((a:Int)<0) || decide ((m:Int)<0) || decide ((a:Int)>(n:Int)) || decide ((m:Int)>IntKind.wrap .i64 ((n:Int)-a)) || decide (obj<0) || decide (obj≥S.regs.length))=false:=by
  simp only [Bool.or_eq_false_iff,decide_eq_false_iff_not,A8];omega
 have h3:(decide (IntKind.wrap .i64 (0+(a:Int))>(n:Int)) || decide ((m:Int)>IntKind.wrap .i64 (IntKind.wrap .i64 ((n:Int)-0)-a)))=false:=by
  simp only [Bool.or_eq_false_iff,decide_eq_false_iff_not,A8];omega
 have h4:IntKind.wrap .i64 (IntKind.wrap .i64 ((lo:Int)+0)+a)=((lo+a:Nat):Int):=by simp only [A8];omega
 rw [if_neg hb]
 simp only [h2,hr,h3,h4,Bool.false_eq_true,if_false]
structure Like (S:KS):Prop where
 ok:KOk 0 S
 tabs:S.tabs=S00.tabs
 regs:S.regs=S00.regs
 envs:S.envs=S00.envs
 mem:S.mem.length=2560
theorem D35 {S:KS} (k:Like S) {m:List UInt8} (h:m.length=2560):Like (Bk7 S m) :=
 ⟨⟨k.ok.envs,k.ok.tabs,k.ok.space,k.ok.quota,by show m.length≤65536;omega,k.ok.regs,k.ok.may,k.ok.mayl,k.ok.nsect,k.ok.sects,k.ok.now⟩,k.tabs,k.regs,k.envs,h⟩
theorem If5:Like S00:=⟨Gv5,rfl,rfl,rfl,by kernel_rfl⟩
theorem Ia6 (S:KS) (k:Like S) (cap:Int) (b:List UInt8):Like (wrS S cap b):=by
 unfold wrS W7
 split
 ·exact k
 ·exact D35 k (by rw [Hi7];exact k.mem)
theorem Ds3:Like S0:=Ia6 S00 If5 256 Ab1
def rgP (s:Nat):Rg:=[(1280*s,492),(512,40),(1856,40)]
def frP (S:KS) (s:Nat) (env:Int):Fr:=⟨S,0,env,[256,257,258],rgP s⟩
theorem Gu1:S00.regs=[(0,492),(1280,492),(512,40),(1856,40)]:=by kernel_rfl
theorem If3:S00.envs.length=18:=by kernel_rfl
structure EnvP (s:Nat) (env:Int):Prop where
 hs:s<2
 he:0≤env∧env<18
 a:Bn9 S00.tabs env 256=some ⟨s,3,0,492,0,0⟩
 b:Bn9 S00.tabs env 257=some ⟨2,3,0,40,0,0⟩
 c:Bn9 S00.tabs env 258=some ⟨3,3,0,40,0,0⟩
theorem G13:EnvP 0 0:=⟨by omega,by omega,by kernel_rfl,by kernel_rfl,by kernel_rfl⟩
theorem Dy1 {s j lo n:Nat} (h:(rgP s)[j]?=some (lo,n)):(j=0∧lo=1280*s∧n=492)∨(j=1∧lo=512∧n=40)∨(j=2∧lo=1856∧n=40):=by
 unfold rgP at h
 match j,h with
 | 0,h=>simp at h;omega
 | 1,h=>simp at h;omega
 | 2,h=>simp at h;omega
 | j+3,h=>simp at h
theorem D64 {S:KS} (k:Like S) {s:Nat} (hs:s<2) (env:Int):∀ (j lo n:Nat),(frP S s env).rg[j]?=some (lo,n)→lo+n≤(frP S s env).S.mem.length:=by
 intro j lo n h
 have hm:=k.mem
 have:=Dy1 h
 show lo+n≤S.mem.length
 omega
theorem G05 {S:KS} (k:Like S) {s:Nat} {env:Int} (e:EnvP s env):FrOk (frP S s env):=by
 have hs:=e.hs;have he:=e.he
 refine ⟨k.ok,by simp [frP],by simp [frP],by simp [frP],by simp [frP,rgP],?_,?_,?_,⟨1280*s,rfl⟩,?_⟩
 ·show ¬ (env<0∨env≥(S.envs.length:Int))
  rw [k.envs,If3];omega
 ·intro j cap lo n hc hr
  show ∀ (a m:Nat) (right:Int),right=1∨right=2→a+m≤n→O3 S.tabs S.regs env cap right a m=_
  have hg:=Dy1 hr
  rcases hg with ⟨rfl,rfl,rfl⟩|⟨rfl,rfl,rfl⟩|⟨rfl,rfl,rfl⟩
  ·cases hc
   refine Hk5 (obj:=s) (e1:=0) (e2:=0) (by rw [k.tabs];exact e.a) (by omega) ?_ (by omega)
   rw [k.regs,Gu1,Int.toNat_natCast]
   match s,hs with
   | 0,_=>rfl
   | 1,_=>rfl
  ·cases hc
   exact Hk5 (obj:=2) (e1:=0) (e2:=0) (by rw [k.tabs];exact e.b) (by omega) (by rw [k.regs,Gu1];rfl) (by omega)
  ·cases hc
   exact Hk5 (obj:=3) (e1:=0) (e2:=0) (by rw [k.tabs];exact e.c) (by omega) (by rw [k.regs,Gu1];rfl) (by omega)
 ·intro i j lo n lo' n' hij hi hj
  have h1:=Dy1 hi;have h2:=Dy1 hj
  omega
 ·intro j lo n h0 h
  have:=Dy1 h;omega
abbrev F0:Fr:=frP S0 0 0
def X0:CX:=⟨Bt7 S0.mem (rgP 0),[]⟩
theorem H54:FrOk F0:=G05 Ds3 G13
theorem H28 (A:PlA):Ct A9 Be1 [.agg ⟨En8 A72 A⟩] (Dd8 A72 A) fun v own =>
  ∃ k c w m,v=.tuple ⟨[P0 k,P0 c,P0 w,P0 m]⟩∧own [cmC c k F0 X0,rkC w K0,rcC m w 0 (Bx3 K0 0) []]:=by
 intro h r o
 obtain ⟨v,h',e,k,c,w,m,hv,o2⟩:=Ia0 A h r o
 refine ⟨v,h',e,k,c,w,m,hv,?_⟩
 exact Own.cmTake c k F0 [] H54 (D64 Ds3 (by omega) 0) o2
theorem Hm3 {y m:Int} (h:0≤y):Int.tmod y m=y%m:=Int.tmod_eq_emod_of_nonneg h
theorem Z2 {x:Int} (h:0≤x∧x<256):((b8 x).toNat:Int)=x:=by rw [← Bf9,Dd1];omega
theorem Gw2 {p:PipeS} (h:okP p=true):P3 (I0 p)=(p,1):=by
 have hk:=h
 simp only [okP,Bool.and_eq_true,decide_eq_true_eq] at h
 have e:Ba4 (I0 p)=p:=by
  obtain ⟨a,b,c,d,l,hl⟩:=p
  simp only at h
  have h1:=Z2 (x:=a) (by omega);have h2:=Z2 (x:=b) (by omega);have h3:=Z2 (x:=c) (by omega);have h4:=Z2 (x:=d) (by omega)
  simp [Ba4,I0,Af8,D84 hl]
  exact ⟨h1,h2,h3,h4⟩
 have hz:(I0 p).all (·==0)=false:=by simp [I0,Af8]
 unfold P3 isP
 rw [hz,e,hk]
 simp
theorem E00 {l b:List UInt8} {a c n:Nat} (h:a+b.length≤l.length) (hd:c+n≤a∨a+b.length≤c):slice (J5 l a b) c n=slice l c n:=by
 refine List.ext_getElem? fun i=>?_
 rw [Bs3,Bs3]
 split
 ·rw [Bg5 h,if_neg (by omega)]
 ·rfl
theorem E60 {l b:List UInt8} {a:Nat} (h:a+b.length≤l.length):slice (J5 l a b) a b.length=b:=by
 refine List.ext_getElem? fun i=>?_
 rw [Bs3]
 split
 ·rw [Bg5 h,if_pos (by omega)];congr 1;omega
 ·rw [List.getElem?_eq_none (by omega)]
abbrev H60:List Int:=[256,257,258]
structure InS (p:ProcS):Prop where
 a:0≤p.pending∧p.pending≤65535
 b:0≤p.mask∧p.mask≤65535
 c:0≤p.ignored∧p.ignored≤65535
 d:0≤p.caught∧p.caught≤65535
theorem Gq7 {p:ProcS} (h:okS p=true) (r:InS p):Z3 (As6 p)=(p,1):=by
 have hk:=h
 obtain ⟨ra,rb,rc,rd⟩:=r
 have e:Ba7 (As6 p)=p:=by
  obtain ⟨st,pa,gr,co,pe,ma,ig,ca,fds,hl⟩:=p
  simp only at ra rb rc rd
  unfold okS at h
  simp only [Bool.and_eq_true,Bool.not_eq_true',Bool.or_eq_false_iff,decide_eq_false_iff_not,List.any_eq_false] at h
  match fds,hl with
  | [f0,f1,f2,f3,f4,f5,f6,f7],hl =>
   have hf:=h.2.2.1
   simp at hf
   have two_b:∀ n:Int,0≤n∧n≤65535→((hi2 n).toNat:Int)*256+((lo2 n).toNat:Int)=n:=fun n hn=>by
    unfold hi2 lo2
    rw [if_pos hn,if_pos hn,Z2 (by omega),← Bf9,Dd1];omega
   have g0:=h.1
   simp only [Ba7,As6,D52,two]
   simp
   refine ⟨Z2 (by omega),Z2 (by omega),Z2 (by omega),Z2 (by omega),two_b _ ra,two_b _ rb,two_b _ rc,two_b _ rd,Z2 (by omega),Z2 (by omega),Z2 (by omega),Z2 (by omega),Z2 (by omega),Z2 (by omega),Z2 (by omega),Z2 (by omega)⟩
 have hz:(As6 p).all (·==0)=false:=by
  simp [As6,D52]
 unfold Z3 isS
 rw [hz,e,hk]
 simp
def stR (kind:Int) (l:List UInt8):Int:=if kind=1 then (Z3 l).2 else if kind=2 then (Z4 l).2 else if kind=5 then (Aq7 l).2 else (P3 l).2
def rd (X:CX) (r:RecS):List UInt8 :=
 match H5 X.m.length r with
 | some (j,a,n)=>slice (X.m.getD j []) a n
 | none=>[]
structure Clean (nc:Nat) (X:CX):Prop where
 len:X.m.length=nc
 pos:0<nc
 bad:X.bad=[]
 own:(X.m.getD 0 []).length=492
 brs:∀ j,0<j→j<nc→(X.m.getD j []).length=40
 ok:∀ r:RecS,1≤r.kind→r.kind≤5→0≤r.index→r.index<U4 nc r.kind→stR r.kind (rd X r)≠2
structure Rin (nc:Nat) (r:RecS):Prop where
 a:1≤r.kind
 b:r.kind≤5
 c:0≤r.index
 d:r.index<U4 nc r.kind
theorem Rin.place {nc:Nat} {r:RecS} (h:Rin nc r) (hn:0<nc):∃ j a,H5 nc r=some (j,a,Ac0 r.kind)∧j<nc∧(j=0→a+Ac0 r.kind≤492)∧(0<j→a=0∧Ac0 r.kind=40):=by
 obtain ⟨h1,h2,h3,h4⟩:=h
 obtain ⟨k,i⟩:=r
 simp only at h1 h2 h3 h4
 have hk:k=1∨k=2∨k=3∨k=4∨k=5:=by omega
 unfold H5 Ac0
 simp only
 rw [if_neg (by omega)]
 rcases hk with rfl|rfl|rfl|rfl|rfl
 ·exact ⟨0,_,rfl,hn,fun _=>by simp [U4] at h4 ⊢;omega,fun h=>by omega⟩
 ·exact ⟨0,_,rfl,hn,fun _=>by simp [U4] at h4 ⊢;omega,fun h=>by omega⟩
 ·simp only [U4] at h4
  by_cases h5:i<4
  ·exact ⟨0,_,by simp [h5];rfl,hn,fun _=>by simp;omega,fun h=>by omega⟩
  ·exact ⟨i.toNat-3,0,by simp [h5],by simp at h4;omega,fun h=>by omega,fun _=>⟨rfl,rfl⟩⟩
 ·exact ⟨0,_,rfl,hn,fun _=>by simp,fun h=>by omega⟩
 ·exact ⟨0,_,rfl,hn,fun _=>by simp,fun h=>by omega⟩
theorem H32 {nc:Nat} {r r':RecS} (h:Rin nc r) (h':Rin nc r') (ne:r≠r') {j a n j' a' n':Nat} (e:H5 nc r=some (j,a,n)) (e':H5 nc r'=some (j',a',n')):j≠j'∨a+n≤a'∨a'+n'≤a:=by
 obtain ⟨h1,h2,h3,h4⟩:=h
 obtain ⟨g1,g2,g3,g4⟩:=h'
 obtain ⟨k,i⟩:=r
 obtain ⟨k',i'⟩:=r'
 simp only at h1 h2 h3 h4 g1 g2 g3 g4
 have ne':k≠k'∨i≠i':=by
  by_cases hk:k=k'
  ·right;intro hi;exact ne (by rw [hk,hi])
  ·exact .inl hk
 unfold H5 at e e'
 simp only at e e'
 rw [if_neg (by omega)] at e e'
 unfold U4 at h4 g4
 have hk:k=1∨k=2∨k=3∨k=4∨k=5:=by omega
 have hk':k'=1∨k'=2∨k'=3∨k'=4∨k'=5:=by omega
 have fin:∀ {x y:Nat × Nat × Nat},some x=some y→x=y:=fun h=>by cases h;rfl
 rcases hk with rfl|rfl|rfl|rfl|rfl<;>rcases hk' with rfl|rfl|rfl|rfl|rfl<;>simp at e e' h4 g4 ne'<;>(try split at e)<;>(try split at e')<;>(try simp at e e')<;>omega
def Bp8 (X:CX) (r:RecS) (b:List UInt8):CX :=
 match H5 X.m.length r with
 | some (j,a,_)=>{ X with m:=X.m.set j (J5 (X.m.getD j []) a b) }
 | none=>X
theorem Ez9 (l:List (List UInt8)) (j j':Nat) (x:List UInt8) (h:j<l.length):(l.set j x).getD j' []=if j'=j then x else l.getD j' []:=by
 rw [List.getD_eq_getElem?_getD,List.getD_eq_getElem?_getD,List.getElem?_set]
 by_cases hj:j=j'
 ·subst hj;simp [h]
 ·rw [if_neg hj,if_neg (fun e=>hj e.symm)]
section
variable {nc:Nat} {X:CX} (c:Clean nc X) {r r':RecS} (h:Rin nc r) (h':Rin nc r')
include c h
theorem Hp0:rdX X r=some (rd X r):=by
 obtain ⟨j,a,e,_⟩:=h.place c.pos
 unfold rdX rd
 rw [c.len,e]
 simp [c.bad]
theorem Bs7 (b:List UInt8):wrX X r b true=(true,Bp8 X r b):=by
 obtain ⟨j,a,e,_⟩:=h.place c.pos
 unfold wrX Bp8
 rw [c.len,e]
 simp [c.bad]
theorem Eh0 {j a n:Nat} (e:H5 nc r=some (j,a,n)):a+n≤(X.m.getD j []).length∧j<X.m.length∧n=Ac0 r.kind:=by
 obtain ⟨j',a',e',hj,h0,h1⟩:=h.place c.pos
 rw [e] at e';cases e'
 rw [c.len]
 by_cases hz:j=0
 ·subst hz;rw [c.own];exact ⟨h0 rfl,hj,rfl⟩
 ·rw [c.brs j (by omega) hj]
  have:=h1 (by omega)
  exact ⟨by omega,hj,rfl⟩
include h'
theorem Aj4 {b:List UInt8} (hb:b.length=Ac0 r.kind):rd (Bp8 X r b) r'=if r'=r then b else rd X r':=by
 obtain ⟨j,a,e,_⟩:=h.place c.pos
 obtain ⟨j',a',e',_⟩:=h'.place c.pos
 have p:=Eh0 c h e
 have p':=Eh0 c h' e'
 have es:Bp8 X r b={ X with m:=X.m.set j (J5 (X.m.getD j []) a b) }:=by unfold Bp8;rw [c.len,e]
 have el:(Bp8 X r b).m.length=nc:=by rw [es];simp [c.len]
 unfold rd
 rw [el,e',c.len,e',es]
 simp only
 rw [Ez9 _ _ _ _ p.2.1]
 by_cases hr:r'=r
 ·subst hr
  rw [e] at e';cases e'
  rw [if_pos rfl,if_pos rfl]
  have:=E60 (l:=X.m.getD j []) (b:=b) (a:=a) (by omega)
  rwa [hb] at this
 ·rw [if_neg hr]
  by_cases hj:j'=j
  ·subst hj
   rw [if_pos rfl]
   have dj:=H32 h' h hr e' e
   exact E00 (by omega) (by omega)
  ·rw [if_neg hj]
end
theorem B64 {nc:Nat} {X:CX} (c:Clean nc X) {r:RecS} (h:Rin nc r) {b:List UInt8} (hb:b.length=Ac0 r.kind) (hs:stR r.kind b≠2):Clean nc (Bp8 X r b):=by
 obtain ⟨j,a,e,_⟩:=h.place c.pos
 have p:=Eh0 c h e
 have es:Bp8 X r b={ X with m:=X.m.set j (J5 (X.m.getD j []) a b) }:=by unfold Bp8;rw [c.len,e]
 refine ⟨by rw [es];simp [c.len],c.pos,by rw [es];exact c.bad,?_,?_,?_⟩
 ·rw [es];simp only
  rw [Ez9 _ _ _ _ p.2.1]
  split
  ·rename_i h0;subst h0;rw [Ad1 (by omega)];exact c.own
  ·exact c.own
 ·intro i h0 h1
  rw [es];simp only
  rw [Ez9 _ _ _ _ p.2.1]
  split
  ·rename_i h2;subst h2;rw [Ad1 (by omega)];exact c.brs i h0 h1
  ·exact c.brs i h0 h1
 ·intro r' h1 h2 h3 h4
  rw [Aj4 c h ⟨h1,h2,h3,h4⟩ hb]
  split
  ·rename_i hr;rw [hr];exact hs
  ·exact c.ok r' h1 h2 h3 h4
theorem Bs5 {α:Type} (dec:List UInt8→α × Int) (z:α) {nc:Nat} {X:CX} (c:Clean nc X) {r:RecS} (h:Rin nc r) (hd:(dec (rd X r)).2=stR r.kind (rd X r)):V3 dec z X r=(dec (rd X r),X):=by
 unfold V3
 rw [Hp0 c h]
 simp only
 rw [if_neg (by rw [hd];exact c.ok r h.a h.b h.c h.d)]
abbrev vS (X:CX) (i:Int):ProcS × Int:=Z3 (rd X ⟨1,i⟩)
abbrev vF (X:CX) (i:Int):FileS × Int:=Z4 (rd X ⟨2,i⟩)
abbrev vP (X:CX) (i:Int):PipeS × Int:=P3 (rd X ⟨3,i⟩)
theorem Dk2 {nc:Nat} {i:Int} (h:0≤i∧i<8):Rin nc ⟨1,i⟩:=⟨by simp,by simp,h.1,h.2⟩
theorem Bj3 {nc:Nat} {i:Int} (h:0≤i∧i<12):Rin nc ⟨2,i⟩:=⟨by simp,by simp,h.1,h.2⟩
theorem Bd1 {nc:Nat} {i:Int} (h:0≤i∧i<3+nc):Rin nc ⟨3,i⟩:=⟨by simp,by simp,h.1,h.2⟩
theorem Eu5 {nc:Nat} {X:CX} (c:Clean nc X) {i:Int} (h:0≤i∧i<8):D09 X i=(vS X i,X):=Bs5 Z3 .zero c (Dk2 h) rfl
theorem Du5 {nc:Nat} {X:CX} (c:Clean nc X) {i:Int} (h:0≤i∧i<12):D55 X i=(vF X i,X):=Bs5 Z4 .zero c (Bj3 h) rfl
theorem Ds8 {nc:Nat} {X:CX} (c:Clean nc X) {i:Int} (h:0≤i∧i<3+nc):D29 X i=(vP X i,X):=Bs5 P3 .zero c (Bd1 h) rfl
theorem Dd9 {f:CX→Int→CX} {X:CX}:∀ (m:Nat) (i:Int),(∀ j,i≤j→j<i+m→f X j=X)→Df5 f m i X=X
 | 0,_,_=>rfl
 | m+1,i,h=>by
  unfold Df5
  rw [h i (by omega) (by omega)]
  exact Dd9 m (i+1) fun j h1 h2=>h j (by omega) (by omega)
theorem E79 {nc:Nat} {X:CX} (c:Clean nc X):E48 X=X:=by
 have h3:E66 X=X:=by
  unfold E66
  have e1:D31 X=(P3 (rd X ⟨4,0⟩),X):=Bs5 P3 .zero c ⟨by simp,by simp,by simp,by simp [U4]⟩ rfl
  have e2:Ed0 X=(Aq7 (rd X ⟨5,0⟩),X):=Bs5 Aq7 0 c ⟨by simp,by simp,by simp,by simp [U4]⟩ rfl
  rw [e1];simp only;rw [e2]
 have hl:=c.len
 unfold E48 lookN Gu4 Gs0
 rw [Dd9 8 0 (fun j h1 h2=>by rw [Eu5 c (by omega)])]
 rw [Dd9 12 0 (fun j h1 h2=>by rw [Du5 c (by omega)])]
 rw [Dd9 (3+X.m.length) 0 (fun j h1 h2=>by rw [Ds8 c (by omega)]),h3]
theorem Gu5 {f:FileS} (h:okF f=true):Z4 (Ag7 f)=(f,1):=by
 have hk:=h
 simp only [okF,Bool.and_eq_true,Bool.or_eq_true,decide_eq_true_eq,beq_iff_eq,bne_iff_ne] at h
 have e:B12 (Ag7 f)=f:=by
  obtain ⟨a,b,c,d⟩:=f
  simp only at h
  have h1:=Z2 (x:=a) (by omega);have h2:=Z2 (x:=b) (by omega);have h3:=Z2 (x:=c) (by omega);have h4:=Z2 (x:=d) (by omega)
  simp [B12,Ag7,A67]
  exact ⟨h1,h2,h3,h4⟩
 have hz:(Ag7 f).all (·==0)=false:=by simp [Ag7,A67]
 unfold Z4 isF
 rw [hz,e,hk]
 simp
section
variable {nc:Nat} {X:CX} (c:Clean nc X)
include c
abbrev B07 (X:CX) (i:Int) (p:ProcS):CX:=Bp8 X ⟨1,i⟩ (As6 p)
abbrev A58 (X:CX) (i:Int) (f:FileS):CX:=Bp8 X ⟨2,i⟩ (Ag7 f)
theorem Dx0 {i:Int} (h:0≤i∧i<8) {p:ProcS} (ok:okS p=true) (r:InS p) :
  Bq9 X i p=(true,B07 X i p)∧Clean nc (B07 X i p)∧(∀ j:Int,0≤j∧j<8→vS (B07 X i p) j=if j=i then (p,1) else vS X j)∧(∀ j:Int,0≤j∧j<12→vF (B07 X i p) j=vF X j)∧(∀ j:Int,0≤j∧j<3+nc→vP (B07 X i p) j=vP X j):=by
 have hl:(As6 p).length=Ac0 (1:Int):=by rw [D43];rfl
 refine ⟨by unfold Bq9;rw [ok];exact Bs7 c (Dk2 h) _,B64 c (Dk2 h) hl (by show (Z3 (As6 p)).2≠2;rw [Gq7 ok r];simp),fun j hj=>?_,fun j hj=>?_,fun j hj=>?_⟩
 ·show Z3 (rd _ _)=_
  rw [Aj4 c (Dk2 h) (Dk2 hj) hl]
  by_cases e:j=i
  ·rw [if_pos (by rw [e]),if_pos e];exact Gq7 ok r
  ·rw [if_neg (by simp [e]),if_neg e]
 ·show Z4 (rd _ _)=_
  rw [Aj4 c (Dk2 h) (Bj3 hj) hl,if_neg (by simp)]
 ·show P3 (rd _ _)=_
  rw [Aj4 c (Dk2 h) (Bd1 hj) hl,if_neg (by simp)]
theorem Bh5 {i:Int} (h:0≤i∧i<12) {f:FileS} (ok:okF f=true) :
  Be8 X i f=(true,A58 X i f)∧Clean nc (A58 X i f)∧(∀ j:Int,0≤j∧j<8→vS (A58 X i f) j=vS X j)∧(∀ j:Int,0≤j∧j<12→vF (A58 X i f) j=if j=i then (f,1) else vF X j)∧(∀ j:Int,0≤j∧j<3+nc→vP (A58 X i f) j=vP X j):=by
 have hl:(Ag7 f).length=Ac0 (2:Int):=by rw [Dj0];rfl
 refine ⟨by unfold Be8;rw [ok];exact Bs7 c (Bj3 h) _,B64 c (Bj3 h) hl (by show (Z4 (Ag7 f)).2≠2;rw [Gu5 ok];simp),fun j hj=>?_,fun j hj=>?_,fun j hj=>?_⟩
 ·show Z3 (rd _ _)=_
  rw [Aj4 c (Bj3 h) (Dk2 hj) hl,if_neg (by simp)]
 ·show Z4 (rd _ _)=_
  rw [Aj4 c (Bj3 h) (Bj3 hj) hl]
  by_cases e:j=i
  ·rw [if_pos (by rw [e]),if_pos e];exact Gu5 ok
  ·rw [if_neg (by simp [e]),if_neg e]
 ·show P3 (rd _ _)=_
  rw [Aj4 c (Bj3 h) (Bd1 hj) hl,if_neg (by simp)]
theorem Ih7 {i:Int} (h:0≤i∧i<8):((vS X i).2=0∧(vS X i).1=.zero)∨((vS X i).2=1∧okS (vS X i).1=true):=by
 have:=c.ok ⟨1,i⟩ (by simp) (by simp) h.1 h.2
 have hk:(vS X i).2≠2:=this
 unfold vS Z3 at hk ⊢
 split
 ·exact .inl ⟨rfl,rfl⟩
 ·split
  ·rename_i h2
   unfold isS at h2
   simp only [Bool.and_eq_true] at h2
   exact .inr ⟨rfl,h2.1⟩
  ·rename_i h1 h2;simp [h1,h2] at hk
theorem Ij0 {i:Int} (h:0≤i∧i<12):((vF X i).2=0∧(vF X i).1=.zero)∨((vF X i).2=1∧okF (vF X i).1=true):=by
 have:=c.ok ⟨2,i⟩ (by simp) (by simp) h.1 h.2
 have hk:(vF X i).2≠2:=this
 unfold vF Z4 at hk ⊢
 split
 ·exact .inl ⟨rfl,rfl⟩
 ·split
  ·rename_i h2
   unfold isF at h2
   simp only [Bool.and_eq_true] at h2
   exact .inr ⟨rfl,h2.1⟩
  ·rename_i h1 h2;simp [h1,h2] at hk
end
abbrev O1 (n e:Int) (b:Bool):List Value:=[int n,int e,.slice none 0 0,.bool b]
def Aa4 (X:CX) (i:Int):ProcS × Int:=if (vS X i).2=1∧(vS X i).1.state=1 then ((vS X i).1,0) else (.zero,105)
theorem Hc0 (b k:Nat) (F:Fr) (X:CX) (ok:FrOk F) {nc:Nat} (c:Clean nc X) (i:Int) (hi:0≤i∧i<8):Ct A9 Bl8 [P0 b,int i] [cmC b k F X] fun v own=>v=.tuple ⟨[.agg ⟨D8 (Aa4 X i).1⟩,int (Aa4 X i).2]⟩∧own [cmC b k F X]:=by
 refine Ct.of G53 rfl fun h r=>Tr.eq (G97 ..) ?_;refine Je ?_
 (refine Jc ?_;unhygienic intros)
 refine Yn fun b0 h=>?_
 refine Yc (Hb3 b k F X ok) ?_;rintro _ h ⟨rfl,o⟩<;>refine Jh o ?_
 rw [E79 c]
 (refine Ja ?_;unhygienic intros)
 refine Yc (Gx6 b k F X ok i) ?_;rintro _ h ⟨rfl,o⟩<;>refine Jh o ?_
 rw [Eu5 c hi]
 dsimp only
 (refine Jc ?_;unhygienic intros)
 refine Yn fun b1 h=>?_
 (refine Jb ?_;unhygienic intros)
 refine Tr.orG (c:=(vS X i).1.state != 1) (fun hb=>?_) ?_
 ·exact Jz
 unfold Aa4
 by_cases h1:(vS X i).2=1∧(vS X i).1.state=1
 ·rw [if_pos h1]
  refine Yf (by simp [h1.1,h1.2]) ?_
  (refine Ja ?_;unhygienic intros)
  refine Ys fun o=>?_
  exact ⟨rfl,o.sub⟩
 ·rw [if_neg h1]
  refine Yt (by simp;by_cases h2:(vS X i).2=1<;>simp [h2] at h1 ⊢;exact h1) ?_
  (refine Ja ?_;unhygienic intros)
  refine Ys fun o=>?_
  exact ⟨rfl,o.sub⟩
def Gp1 (X:CX):Nat→Int→Int
 | 0,_=>-1
 | m+1,i=>if (vS X i).2=0 then i else Gp1 X m (i+1)
def H56:List Int→List Int→List Int
 | [],m=>m
 | f::l,m=>H56 l (if f>0 then m.set (f-1).toNat (m.getD (f-1).toNat 0+1) else m)
def Bg8 (n:Int) (m:List Int):Prop:=m.length=12∧∀ x ∈ m,0≤x∧x≤n
theorem Bg8.get {n:Int} {m:List Int} (h:Bg8 n m) {j:Nat} (hj:j<12):0≤m.getD j 0∧m.getD j 0≤n:=by
 have hl:=h.1
 have e:m[j]?=some m[j]:=List.getElem?_eq_getElem (by omega)
 rw [List.getD_eq_getElem?_getD,e]
 exact h.2 _ (List.getElem_mem _)
theorem Bg8.set {n:Int} {m:List Int} (h:Bg8 n m) {j:Nat} (hj:j<12):Bg8 (n+1) (m.set j (m.getD j 0+1)):=by
 refine ⟨by simpa using h.1,fun x hx=>?_⟩
 rcases List.mem_or_eq_of_mem_set hx with h2|rfl
 ·have:=h.2 x h2;omega
 ·have:=h.get hj;omega
theorem Bg8.up {n:Int} {m:List Int} (h:Bg8 n m):Bg8 (n+1) m:=⟨h.1,fun x hx=>by have:=h.2 x hx;omega⟩
def Hx0 (l:List Int):Prop:=∀ f ∈ l,0≤f∧f≤12
theorem Ij4 {l:List Int} {i:Nat} (h:i<l.length):(l.map int)[i]?=some (int (l.getD i 0)):=by rw [List.getElem?_map,M6 0 h];rfl
def D03 (X:CX) (more:List Int):List Int→Int
 | []=>0
 | f::l=>if f=0 then D03 X more l else if (vF X (f-1)).2≠1 then 105 else if (vF X (f-1)).1.refs+more.getD (f-1).toNat 0>64 then 123 else D03 X more l
theorem H84 {f:FileS} (h:okF f=true):1≤f.refs∧f.refs≤64:=by
 simp only [okF,Bool.and_eq_true,Bool.or_eq_true,decide_eq_true_eq,beq_iff_eq,bne_iff_ne] at h
 omega
abbrev Ge9 (f:FileS) (n:Int):FileS:=⟨f.kind,f.pipe,f.refs+n,f.flags⟩
def Hn4 (more:List Int):Nat→Int→CX→CX
 | 0,_,X=>X
 | m+1,j,X=>Hn4 more m (j+1) (if more.getD j.toNat 0=0 then X else A58 X j (Ge9 (vF X j).1 (more.getD j.toNat 0)))
def H13 (more:List Int) (X:CX) (j:Int):Prop:=∀ i:Int,j≤i→i<12→more.getD i.toNat 0≠0→(vF X i).2=1∧(vF X i).1.refs+more.getD i.toNat 0≤64
theorem H24 {f:FileS} (h:okF f=true) {n:Int} (hn:1≤f.refs+n∧f.refs+n≤64):okF (Ge9 f n)=true:=by
 simp only [okF,Bool.and_eq_true,Bool.or_eq_true,decide_eq_true_eq,beq_iff_eq,bne_iff_ne] at h ⊢
 omega
theorem H13.step {nc:Nat} {X:CX} (c:Clean nc X) {more:List Int} (hm:Bg8 8 more) {j:Int} (h0:0≤j∧j<12) (s:H13 more X j) (hz:more.getD j.toNat 0≠0) :
  okF (Ge9 (vF X j).1 (more.getD j.toNat 0))=true∧H13 more (A58 X j (Ge9 (vF X j).1 (more.getD j.toNat 0))) (j+1):=by
 obtain ⟨s1,s2⟩:=s j (by omega) (by omega) hz
 have hg:=hm.get (j:=j.toNat) (by omega)
 have hk:okF (vF X j).1=true:=by
  rcases Ij0 c h0 with ⟨h1,_⟩|⟨_,h1⟩
  ·omega
  ·exact h1
 have hr:=H84 hk
 have k:=H24 hk (n:=more.getD j.toNat 0) (by omega)
 refine ⟨k,fun i h1 h2 hi=>?_⟩
 rw [(Bh5 c h0 k).2.2.2.1 i (by omega),if_neg (by omega)]
 exact s i (by omega) h2 hi
abbrev If8:List Int:=[0,0,0,0,0,0,0,0,0,0,0,0]
abbrev En4 (p:ProcS):List Int:=H56 p.fds If8
def Gy0 (X:CX) (p:ProcS):Int × CX:=if D03 X (En4 p) p.fds=0 then (0,Hn4 (En4 p) 12 0 X) else (D03 X (En4 p) p.fds,X)
theorem Hb5 (l:List UInt8) (i:Nat):0≤byI l i∧byI l i<256:=by
 have:=(l.getD i 0).toNat_lt
 unfold byI;omega
theorem Eq1 (l:List UInt8) (j:Nat):0≤two l j∧two l j≤65535:=by
 have:=Hb5 l j;have:=Hb5 l (j+1)
 unfold two;omega
theorem Hd4 (l:List UInt8):InS (Z3 l).1:=by
 unfold Z3
 split
 ·exact ⟨by simp,by simp,by simp,by simp⟩
 ·split
  ·exact ⟨Eq1 _ _,Eq1 _ _,Eq1 _ _,Eq1 _ _⟩
  ·exact ⟨by simp,by simp,by simp,by simp⟩
theorem Hc3 {p:ProcS} (h:okS p=true):Hx0 p.fds:=fun f hf=>by
 unfold okS at h
 simp only [Bool.and_eq_true,Bool.not_eq_true',List.any_eq_false] at h
 have:=h.2.2.1 f hf
 simp at this;omega
abbrev Hc4 (p:ProcS) (i:Int):ProcS:=⟨p.state,i+1,p.group,p.code,0,p.mask,p.ignored,p.caught,p.fds,p.len⟩
def Ii1 (X:CX) (i:Int):List Value × CX :=
 if (Aa4 X i).2≠0 then (O1 0 (Aa4 X i).2 false,X)
 else if Gp1 X 8 0<0 then (O1 0 111 false,X)
 else if (Gy0 X (Aa4 X i).1).1≠0 then (O1 0 (Gy0 X (Aa4 X i).1).1 false,X)
 else (O1 (Gp1 X 8 0) 0 false,B07 (Gy0 X (Aa4 X i).1).2 (Gp1 X 8 0) (Hc4 (Aa4 X i).1 i))
theorem Do3 {nc:Nat} {X:CX} (c:Clean nc X) {i:Int} (hi:0≤i∧i<8) (h:(Aa4 X i).2=0):Aa4 X i=((vS X i).1,0)∧(vS X i).1.state=1∧okS (vS X i).1=true∧(vS X i).2=1:=by
 unfold Aa4 at h ⊢
 split
 ·rename_i h1
  refine ⟨rfl,h1.2,?_,h1.1⟩
  rcases Ih7 c hi with ⟨h2,_⟩|⟨_,h2⟩
  ·rw [h1.1] at h2;cases h2
  ·exact h2
 ·rename_i h1;rw [if_neg h1] at h;cases h
theorem Eg5 (j:Int) (p:ProcS):(int j::D8 p).length=17:=by simp [Br8 p,p.len]
instance {j:Int} {p:ProcS}:LenC (int j::D8 p) 17:=⟨Eg5 j p⟩
instance {j:Int} {p:ProcS}:PartC (int j::D8 p) 0 17 (int j::D8 p):=⟨B60 (Eg5 j p)⟩
instance {j:Int} {p:ProcS} {cs:List Value} [k:LenC cs 17]:SetsC cs 0 (int j::D8 p) (int j::D8 p):=⟨Bf5 k.ok (Eg5 j p) (by simp [Value.oneCell])⟩
def p0:ProcS:=⟨1,0,0,0,0,0,0,0,[1,0,0,0,0,0,0,0],rfl⟩
def f0:FileS:=⟨3,0,1,0⟩
def Av6:List UInt8:=J5 (J5 Ab1 0 (Ei8 p0)) 192 (Ag7 f0)
theorem Bx9:Av6.length=492:=by kernel_rfl
theorem Em0:(Ei8 p0).length=24:=by kernel_rfl
theorem Gj7 (l b:List UInt8) (a:Nat):(A0 l).take a++A0 b++(A0 l).drop (a+(A0 b).length)=A0 (J5 l a b):=by
 rw [Q9]
 simp [J5,A0,List.map_take,List.map_drop]
theorem H59 {b:List UInt8} (h:0<b.length):A0 b≠[]:=by
 intro e
 have e2:=congrArg List.length e
 rw [Q9] at e2
 have e3:b.length=0:=e2
 omega
theorem Gv2:Ct A9 A86 [] [] fun v own=>∃ a,v=.slice a 492 492∧own [slC false A4 1 a 492 492 (A0 Av6)]:=by
 refine Ct.of Go6 rfl fun h r=>Tr.eq (Gl6 ..) ?_;refine Je ?_
 refine Yc (Gi8) ?_;rintro _ h ⟨rfl,o⟩<;>refine Jh o ?_
 (refine Jc ?_;unhygienic intros)
 rw [Ae2,Aa5]
 refine Tr.ck (by simp [B0]) ?_
 refine Yn fun b0 h=>?_
 refine Dk6 (n:=492) 0 rfl (by rw [Q9];exact Aa5) ?_
 refine Je ?_
 refine Yn fun b1 h=>?_
 (refine Ja ?_;unhygienic intros)
 rw [show ([int 1,int 0,int 0,int 0,int 0,int 0,int 0,int 0,int 0,int 0,int 0,int 0,int 0,int 0,int 0,int 0]:List Value).set 8 (int 1)=D8 p0 from rfl]
 (refine Ja ?_;unhygienic intros)
 refine Yc (Hp7 p0) ?_;rintro _ h ⟨rfl,o⟩<;>refine Jh o ?_
 (refine Ja ?_;unhygienic intros)
 rw [show List.take (min (bs (Ei8 p0)).size 492) (bs (Ei8 p0)).data.toList=Ei8 p0 by kernel_rfl]
 rw [show B1 (J4 b0)=(B1 (J4 b0)).add 0 from rfl]
 refine Tr.xPAggS (cs':=A0 (J5 Ab1 0 (Ei8 p0))) ⟨H59 (by rw [Em0];omega),by rw [Q9,Q9,Em0,Aa5];omega,Ae4 _,Gj7 _ _ 0⟩ fun h=>?_
 (refine Ja ?_;unhygienic intros)
 refine Yc (Hs3 f0) ?_;rintro _ h ⟨rfl,o⟩<;>refine Jh o ?_
 (refine Ja ?_;unhygienic intros)
 rw [show List.take (min (bs (Ag7 f0)).size (492-192)) (bs (Ag7 f0)).data.toList=Ag7 f0 by kernel_rfl]
 rw [Gb6 (by omega),Ei5]
 refine Tr.xPAggS (cs':=A0 Av6) ⟨H59 (by rw [Dj0];omega),by rw [Q9,Q9,Ad1 (by rw [Em0,Aa5];omega),Dj0,Aa5];omega,Ae4 _,Gj7 _ _ 192⟩ fun h=>?_
 refine Ys fun o=>?_
 exact ⟨_,rfl,o.sub⟩
theorem Hj8 {S:KS} (kS:Like S) {s:Nat} {env:Int} (e:EnvP s env) {j:Nat} {cap:Int} {lo n:Nat} (hc:H60[j]?=some cap) (hr:(rgP s)[j]?=some (lo,n)) {b:List UInt8} (hb:b.length≤n) :
  W7 S env ⟨2,cap,0,0,0,0,b⟩=((0,0,[]),Bk7 S (J5 S.mem lo b)):=by
 have F:=G05 kS e
 have hroom:lo+n≤S.mem.length:=D64 kS e.hs env j lo n hr
 have hp:=F.pl j cap lo n hc hr 0 b.length 2 (.inr rfl) (by omega)
 have hs:A84 S.mem ((lo+0:Nat):Int) b=some (J5 S.mem lo b):=by
  unfold A84
  rw [if_pos (by omega),Int.toNat_natCast,Nat.add_zero];rfl
 have ew:Ai6 S.tabs S.regs S.mem env cap 0 b=(0,J5 S.mem lo b):=by
  unfold Ai6
  rw [show O3 S.tabs S.regs env cap 2 0 (b.length:Int)=(((lo+0:Nat):Int),0) from hp]
  rw [if_neg (by simp),hs]
 unfold W7
 rw [if_neg (show ¬ (env<0∨env≥(S.envs.length:Int)) from F.env)]
 unfold kDo
 rw [if_neg (show ¬ ((2:Int)=1) by decide),if_pos rfl,ew]
def q1:PipeS:=⟨0,0,1,1,List.replicate 32 0,rfl⟩
def S1:KS:=Bk7 S0 (J5 S0.mem 0 Av6)
def S2:KS:=Bk7 S1 (J5 S1.mem 512 (I0 q1))
def S3:KS:=Bk7 S2 (J5 S2.mem 1856 (I0 q1))
theorem Aw2:(I0 q1).length=40:=Ax3 q1.len
theorem E57:Like S1:=D35 Ds3 (by rw [Ad1 (by rw [Bx9,Ds3.mem];omega)];exact Ds3.mem)
theorem E86:Like S2:=D35 E57 (by rw [Ad1 (by rw [Aw2,E57.mem];omega)];exact E57.mem)
theorem H52:Like S3:=D35 E86 (by rw [Ad1 (by rw [Aw2,E86.mem];omega)];exact E86.mem)
theorem Ij5:W7 S0 0 ⟨2,256,0,0,0,0,Av6⟩=((0,0,[]),S1):=Hj8 Ds3 G13 (j:=0) rfl rfl (by rw [Bx9];omega)
theorem Ii6:W7 S1 0 ⟨2,257,0,0,0,0,I0 q1⟩=((0,0,[]),S2):=Hj8 E57 G13 (j:=1) rfl rfl (by rw [Aw2];omega)
theorem Ij8:W7 S2 0 ⟨2,258,0,0,0,0,I0 q1⟩=((0,0,[]),S3):=Hj8 E86 G13 (j:=2) rfl rfl (by rw [Aw2];omega)
abbrev F1:Fr:=frP S3 0 0
def X1:CX:=⟨Bt7 S3.mem (rgP 0),[]⟩
theorem B45:FrOk F1:=G05 H52 G13
theorem Ez5:Clean 3 X1:=by
 refine ⟨by kernel_rfl,by omega,rfl,by kernel_rfl,fun j h0 h1=>?_,fun r h1 h2 h3 h4=>?_⟩
 ·have:j=1∨j=2:=by omega
  rcases this with rfl|rfl
  ·clear h0 h1;show (_:Nat)=_;kernel_rfl
  ·clear h0 h1;show (_:Nat)=_;kernel_rfl
 ·have all:((List.range 8).all (fun i=>decide (stR 1 (rd X1 ⟨1,(i:Int)⟩)≠2)) && ((List.range 12).all (fun i=>decide (stR 2 (rd X1 ⟨2,(i:Int)⟩)≠2)) && ((List.range 6).all (fun i=>decide (stR 3 (rd X1 ⟨3,(i:Int)⟩)≠2)) && (decide (stR 4 (rd X1 ⟨4,0⟩)≠2) && decide (stR 5 (rd X1 ⟨5,0⟩)≠2)))))=true:=by kernel_rfl
  simp only [Bool.and_eq_true,List.all_eq_true,List.mem_range,decide_eq_true_eq] at all
  obtain ⟨a1,a2,a3,a4,a5⟩:=all
  obtain ⟨k,i⟩:=r
  simp only at h1 h2 h3 h4 ⊢
  obtain ⟨n,rfl⟩:∃ n:Nat,i=n:=⟨i.toNat,by omega⟩
  have hk:k=1∨k=2∨k=3∨k=4∨k=5:=by omega
  rcases hk with rfl|rfl|rfl|rfl|rfl<;>simp [U4] at h4
  ·exact a1 n (by omega)
  ·exact a2 n (by omega)
  ·exact a3 n (by omega)
  ·obtain rfl:n=0:=by omega
   exact a4
  ·obtain rfl:n=0:=by omega
   exact a5
theorem Hg0 (k w m c:Nat) (b1:Nat) (cs:List Value) (hcs:cs.length=7) (K:RKS) (hK:RKOk K) (hB:0<K.B.envs.length) :
  CtJ I4 Ad6 Bb9 [(6,P0 k),(7,P0 c),(8,P0 w),(9,P0 m),(10,P0 b1),(11,.string (bs (I0 q1))),(12,int 1)] [pt b1 (.cells Aw0 false cs),D9 k S1,rkC w K] fun v own =>
   v=.tuple ⟨[P0 k,P0 c,P0 w,P0 m]⟩∧∃ K',own [D9 k S3,rkC w K']:=by
 have hset:∀ xs:List Value,xs.length=7→∀ vs:List Value,vs.length=7→vs.all Value.oneCell=true→D41 xs 0 vs=some vs:=fun xs h vs h1 h2=>Bf5 h h1 h2
 refine CtJ.of Bt1 fun h r=>Tr.eq (Bu3 ..) ?_;refine Je ?_
 refine Yt rfl ?_
 rw [Ae2,Aw2]
 refine Tr.ck (by simp [B0]) ?_
 refine Yn fun b2 h=>?_
 refine Dk6 (n:=40) 0 rfl (by rw [Q9];exact Aw2) ?_
 refine Je ?_
 rw [show IntKind.wrap .i64 (256+1)=257 by decide]
 refine Gs (fun h=>?_) (by exact hset cs hcs _ rfl rfl)
 (refine Ja ?_;unhygienic intros)
 have J1:=Dy8 k S1 0 E57.ok (by omega) 0 ⟨2,257,0,0,0,0,I0 q1⟩ (some (J4 b2)) 40 false (show ((2:Int)≠5) by decide)
 rw [Ii6] at J1
 simp only [Bh1,Aw2] at J1
 refine Bq6 J1 [2,0] rfl ?_
 rintro _ h ⟨y,z,rfl,o⟩
 refine (?_:Tr _ _ _ _) o
 refine Je ?_
 (refine Ja ?_;unhygienic intros)
 have R1:=Eq3 w K hK 0 hB ⟨2,257,0,0,0,0,I0 q1⟩ rfl (by rw [Aw2];simp [B0]) (slC false A4 1 (some (J4 b2)) (I0 q1).length 40 (A0 (I0 q1))) (some (J4 b2)) 40 false
 simp only [Bh1,Aw2] at R1
 refine Bq6 R1 [4,2] rfl ?_
 rintro _ h ⟨rfl,o⟩
 rw [show ({ K with R:=(Ag1 K.R ((0:Nat):Int) 257 0 (I0 q1)).2 }:RKS)=wrR K 257 (I0 q1) from rfl] at o
 have hK1:=E37 hK 257 (I0 q1)
 refine (?_:Tr _ _ _ _) o
 refine Je ?_
 (refine Ja ?_;unhygienic intros)
 refine Tr.jmp Bt1 (Tr.eq (Bu3 ..) ?_);(try simp only[Nr,Nl,wl,Nat.reduceAdd,Nat.reduceMul,Int.reduceToNat])
 refine Yt rfl ?_
 rw [Ae2,Aw2]
 refine Tr.ck (by simp [B0]) ?_
 refine Yn fun b3 h=>?_
 refine Dk6 (n:=40) 0 rfl (by rw [Q9];exact Aw2) ?_
 refine Je ?_
 rw [show IntKind.wrap .i64 (256+2)=258 by decide]
 refine Gs (fun h=>?_) (by exact hset _ rfl _ rfl rfl)
 (refine Ja ?_;unhygienic intros)
 have J2:=Dy8 k S2 0 E86.ok (by omega) 0 ⟨2,258,0,0,0,0,I0 q1⟩ (some (J4 b3)) 40 false (show ((2:Int)≠5) by decide)
 rw [Ij8] at J2
 simp only [Bh1,Aw2] at J2
 refine Bq6 J2 [4,0] rfl ?_
 rintro _ h ⟨y2,z2,rfl,o⟩
 refine (?_:Tr _ _ _ _) o
 refine Je ?_
 (refine Ja ?_;unhygienic intros)
 have R2:=Eq3 w (wrR K 257 (I0 q1)) hK1 0 hB ⟨2,258,0,0,0,0,I0 q1⟩ rfl (by rw [Aw2];simp [B0]) (slC false A4 1 (some (J4 b3)) (I0 q1).length 40 (A0 (I0 q1))) (some (J4 b3)) 40 false
 simp only [Bh1,Aw2] at R2
 refine Bq6 R2 [3,2] rfl ?_
 rintro _ h ⟨rfl,o⟩
 rw [show ({ wrR K 257 (I0 q1) with R:=(Ag1 (wrR K 257 (I0 q1)).R ((0:Nat):Int) 258 0 (I0 q1)).2 }:RKS)=wrR (wrR K 257 (I0 q1)) 258 (I0 q1) from rfl] at o
 refine (?_:Tr _ _ _ _) o
 refine Je ?_
 (refine Ja ?_;unhygienic intros)
 refine Tr.jmp Bt1 (Tr.eq (Bu3 ..) ?_);(try simp only[Nr,Nl,wl,Nat.reduceAdd,Nat.reduceMul,Int.reduceToNat])
 refine Yf rfl ?_
 refine Ys fun o=>?_
 exact ⟨rfl,_,o.fin [3,0] 5 rfl rfl⟩
theorem H49:RKOk K0:=E37 Dz3.1 256 Ab1
theorem Hb4:0<K0.B.envs.length:=by show (0:Nat)<(Da5 Af9).B.envs.length;rw [Dz3.2,Br2];simp
theorem Hd8 (a:Option Addr):Ct A9 Ad6 [.slice a 492 492] [slC false A4 1 a 492 492 (A0 Av6)] fun v own=>∃ k c w m K',v=.tuple ⟨[P0 k,P0 c,P0 w,P0 m]⟩∧own [cmC c k F1 X1,rkC w K',rcC m w 0 (Bx3 K0 0) []]:=by
 refine Ct.of Bt1 rfl fun h r=>Tr.eq (Gx5 ..) ?_;refine Je ?_
 refine Yc (H05) ?_;rintro _ h ⟨A,rfl,o⟩<;>refine Jh o ?_
 (refine Ja ?_;unhygienic intros)
 refine Yc (H28 A) ?_
 rintro _ h ⟨k,c,w,m,rfl,o⟩
 refine (?_:Tr _ _ _ _) o
 refine Je ?_
 (refine Jb ?_;unhygienic intros)
 refine Yb (Yf rfl ?_)
 refine Ys fun o=>(?_:Tr _ _ _ _) o;refine Je ?_
 refine Yf rfl ?_
 refine If4 c k F0 X0 fun f=>?_
 rw [show F0.at X0.m=S0 from Fr.at_cut H54 (D64 Ds3 (by omega) 0)]
 refine (?_:Tr (D9 k S0::V2 c k 0 H60 []::_) _ _ _)
 refine Yn fun b1 h=>?_
 (refine Ja ?_;unhygienic intros)
 refine Yc (Gg4 q1) ?_;rintro _ h ⟨rfl,o⟩<;>refine Jh o ?_
 (refine Ja ?_;unhygienic intros)
 have J1:=Dy8 k S0 0 Ds3.ok (by omega) 0 ⟨2,256,0,0,0,0,Av6⟩ a 492 false (show ((2:Int)≠5) by decide)
 rw [Ij5] at J1
 simp only [Bh1,Bx9] at J1
 refine Bq6 J1 [1,4] rfl ?_
 rintro _ h ⟨y,z,rfl,o⟩
 refine (?_:Tr _ _ _ _) o
 refine Je ?_
 (refine Ja ?_;unhygienic intros)
 have R1:=Eq3 w K0 H49 0 Hb4 ⟨2,256,0,0,0,0,Av6⟩ rfl (by rw [Bx9];simp [B0]) (slC false A4 1 a Av6.length 492 (A0 Av6)) a 492 false
 simp only [Bh1,Bx9] at R1
 refine Bq6 R1 [5,2] rfl ?_
 rintro _ h ⟨rfl,o⟩
 rw [show ({ K0 with R:=(Ag1 K0.R ((0:Nat):Int) 256 0 Av6).2 }:RKS)=wrR K0 256 Av6 from rfl] at o
 refine (?_:Tr _ _ _ _) o
 refine Je ?_
 (refine Ja ?_;unhygienic intros)
 refine Gf8 (Hg0 k w m c b1 _ rfl (wrR K0 256 Av6) (E37 H49 256 Av6) Hb4) [4,3,0] rfl ?_
 rintro _ h ⟨rfl,K',o⟩
 refine ⟨k,c,w,m,K',rfl,?_⟩
 exact Own.cmTake c k F1 [] B45 (D64 H52 (by omega) 0) (o.fin [0,3,0,2] 2 rfl rfl)
def X2:CX:=(Ii1 X1 0).2
structure Inv (n:Int) (X:CX):Prop where
 c:Clean 3 X
 h:1≤n∧n≤8
 on:∀ j:Int,0≤j→j<n→(vS X j).2=1∧(vS X j).1.state=1∧(vS X j).1.fds=p0.fds
 off:∀ j:Int,n≤j→j<8→(vS X j).2=0
 fl:(vF X 0).2=1∧(vF X 0).1.refs=n
section
variable {nc:Nat} {X:CX} (c:Clean nc X)
include c
abbrev A16 (X:CX) (i:Int) (p:PipeS):CX:=Bp8 X ⟨3,i⟩ (I0 p)
abbrev Ge4 (X:CX) (i:Int):CX:=Bp8 X ⟨2,i⟩ (List.replicate 8 0)
abbrev Gb9 (X:CX) (i:Int):CX:=Bp8 X ⟨3,i⟩ (List.replicate 40 0)
theorem A17 {i:Int} (h:0≤i∧i<3+nc) {p:PipeS} (ok:okP p=true) :
  A74 X i p=(true,A16 X i p)∧Clean nc (A16 X i p)∧(∀ j:Int,0≤j∧j<8→vS (A16 X i p) j=vS X j)∧(∀ j:Int,0≤j∧j<12→vF (A16 X i p) j=vF X j)∧(∀ j:Int,0≤j∧j<3+nc→vP (A16 X i p) j=if j=i then (p,1) else vP X j):=by
 have hl:(I0 p).length=Ac0 (3:Int):=by rw [Ax3 p.len];rfl
 refine ⟨by unfold A74;rw [ok];exact Bs7 c (Bd1 h) _,B64 c (Bd1 h) hl (by show (P3 (I0 p)).2≠2;rw [Gw2 ok];simp),fun j hj=>?_,fun j hj=>?_,fun j hj=>?_⟩
 ·show Z3 (rd _ _)=_
  rw [Aj4 c (Bd1 h) (Dk2 hj) hl,if_neg (by simp)]
 ·show Z4 (rd _ _)=_
  rw [Aj4 c (Bd1 h) (Bj3 hj) hl,if_neg (by simp)]
 ·show P3 (rd _ _)=_
  rw [Aj4 c (Bd1 h) (Bd1 hj) hl]
  by_cases e:j=i
  ·rw [if_pos (by rw [e]),if_pos e];exact Gw2 ok
  ·rw [if_neg (by simp [e]),if_neg e]
theorem Gc1 {i:Int} (h:0≤i∧i<12) :
  H51 X ⟨2,i⟩=(true,Ge4 X i)∧Clean nc (Ge4 X i)∧(∀ j:Int,0≤j∧j<8→vS (Ge4 X i) j=vS X j)∧(∀ j:Int,0≤j∧j<12→vF (Ge4 X i) j=if j=i then (.zero,0) else vF X j)∧(∀ j:Int,0≤j∧j<3+nc→vP (Ge4 X i) j=vP X j):=by
 have hl:(List.replicate 8 (0:UInt8)).length=Ac0 (2:Int):=rfl
 refine ⟨Bs7 c (Bj3 h) _,B64 c (Bj3 h) hl (by show (Z4 (List.replicate 8 0)).2≠2;rw [show (Z4 (List.replicate 8 0))=(.zero,0) from rfl];simp),fun j hj=>?_,fun j hj=>?_,fun j hj=>?_⟩
 ·show Z3 (rd _ _)=_
  rw [Aj4 c (Bj3 h) (Dk2 hj) hl,if_neg (by simp)]
 ·show Z4 (rd _ _)=_
  rw [Aj4 c (Bj3 h) (Bj3 hj) hl]
  by_cases e:j=i
  ·rw [if_pos (by rw [e]),if_pos e];rfl
  ·rw [if_neg (by simp [e]),if_neg e]
 ·show P3 (rd _ _)=_
  rw [Aj4 c (Bj3 h) (Bd1 hj) hl,if_neg (by simp)]
theorem Gb3 {i:Int} (h:0≤i∧i<3+nc) :
  H51 X ⟨3,i⟩=(true,Gb9 X i)∧Clean nc (Gb9 X i)∧(∀ j:Int,0≤j∧j<8→vS (Gb9 X i) j=vS X j)∧(∀ j:Int,0≤j∧j<12→vF (Gb9 X i) j=vF X j)∧(∀ j:Int,0≤j∧j<3+nc→vP (Gb9 X i) j=if j=i then (.zero,0) else vP X j):=by
 have hl:(List.replicate 40 (0:UInt8)).length=Ac0 (3:Int):=rfl
 refine ⟨Bs7 c (Bd1 h) _,B64 c (Bd1 h) hl (by show (P3 (List.replicate 40 0)).2≠2;rw [show (P3 (List.replicate 40 0))=(.zero,0) from rfl];simp),fun j hj=>?_,fun j hj=>?_,fun j hj=>?_⟩
 ·show Z3 (rd _ _)=_
  rw [Aj4 c (Bd1 h) (Dk2 hj) hl,if_neg (by simp)]
 ·show Z4 (rd _ _)=_
  rw [Aj4 c (Bd1 h) (Bj3 hj) hl,if_neg (by simp)]
 ·show P3 (rd _ _)=_
  rw [Aj4 c (Bd1 h) (Bd1 hj) hl]
  by_cases e:j=i
  ·rw [if_pos (by rw [e]),if_pos e];rfl
  ·rw [if_neg (by simp [e]),if_neg e]
theorem H68 {i:Int} (h:0≤i∧i<3+nc):((vP X i).2=0∧(vP X i).1=.zero)∨((vP X i).2=1∧okP (vP X i).1=true):=by
 have:=c.ok ⟨3,i⟩ (by simp) (by simp) h.1 h.2
 have hk:(vP X i).2≠2:=this
 unfold vP P3 at hk ⊢
 split
 ·exact .inl ⟨rfl,rfl⟩
 ·split
  ·rename_i h2
   unfold isP at h2
   simp only [Bool.and_eq_true] at h2
   exact .inr ⟨rfl,h2.1⟩
  ·rename_i h1 h2;simp [h1,h2] at hk
end
abbrev Ie7 (q:PipeS):PipeS:=⟨q.head,q.count,max (q.readers-1) 0,q.writers,q.data,q.len⟩
abbrev Ik2 (q:PipeS):PipeS:=⟨q.head,q.count,q.readers,max (q.writers-1) 0,q.data,q.len⟩
def Ij7 (kind:Int) (q:PipeS):PipeS:=if kind=1 then Ie7 q else Ik2 q
def SlOk (L:List (Int × ProcS)):Prop:=∀ s ∈ L,(0≤s.1∧s.1<8)∧okS s.2=true∧InS s.2
theorem Dl8 (e:Int):Ct A9 A44 [int e] [] fun v own=>v=.agg ⟨O1 0 e false⟩∧own []:=by
 refine Ct.of Hm5 rfl fun h r=>Tr.eq (Hm8 ..) ?_;refine Je ?_
 (refine Ja ?_;unhygienic intros)
 refine Ys fun o=>?_
 exact ⟨rfl,o.tail⟩
theorem Hx7 (ok:Bool) (n:Int):Ct A9 Dg4 [.bool ok,int n] [] fun v own=>v=.agg ⟨if ok then O1 n 0 false else O1 0 105 false⟩∧own []:=by
 refine Ct.of Hm1 rfl fun h r=>Tr.eq (Hm9 ..) ?_;refine Je ?_
 refine Yn fun b1 h=>?_
 cases ok
 ·refine Yt rfl ?_
  refine Yc (Dl8 105) ?_;rintro _ h ⟨rfl,o⟩<;>(refine Jf o ?_;unhygienic intros)
  refine Ys fun o=>?_
  exact ⟨rfl,o.tail⟩
 ·refine Yf rfl ?_
  (refine Ja ?_;unhygienic intros)
  refine Ys fun o=>?_
  exact ⟨rfl,o.tail⟩
theorem Ec9 (p:ProcS) {j:Nat} (h:j<8):(D8 p)[8+j]?=some (int (p.fds.getD j 0)):=by
 have:=Ij4 (l:=p.fds) (i:=j) (by rw [p.len];exact h)
 rw [show 8+j=j+8 by omega]
 exact this
abbrev setFd (p:ProcS) (j:Nat) (f:Int):ProcS:=⟨p.state,p.parent,p.group,p.code,p.pending,p.mask,p.ignored,p.caught,p.fds.set j f,by rw [List.length_set];exact p.len⟩
theorem Gh1 (p:ProcS) {j:Nat} (h:j<8) (f:Int):B33 (D8 p) (8+j) (int f)=some (D8 (setFd p j f)):=by
 have e:Nat.blt (8+j) (D8 p).length=true:=by rw [Br8 p];exact Nat.ble_eq_true_of_le (by have:=p.len;omega)
 unfold B33
 rw [e,show 8+j=j+8 by omega]
 show some ((D8 p).set (j+8) (int f))=_
 simp only [D8,List.set_cons_succ,List.map_set]
def Ak7 (p:ProcS) (fd:Int):Bool:=decide (0≤fd∧fd<8) && decide (p.fds.getD fd.toNat 0>0)
theorem Hy8 (p:ProcS) (fd:Int):Ct A9 B49 [.agg ⟨D8 p⟩,int fd] [] fun v own=>v=.bool (Ak7 p fd)∧own []:=by
 refine Ct.of G40 rfl fun h r=>Tr.eq (G74 ..) ?_;refine Je ?_
 refine Yn fun b1 h=>?_
 by_cases h0:0≤fd
 case neg =>
  refine Yb (Yf (by simpa using h0) ?_)
  refine Ys fun o=>(?_:Tr _ _ _ _) o;refine Je ?_
  refine Yb (Yf rfl ?_)
  refine Ys fun o=>(?_:Tr _ _ _ _) o;refine Je ?_
  refine Ys fun o=>?_
  refine ⟨?_,o.tail⟩
  rw [show Ak7 p fd=false by simp [Ak7];omega]
 refine Yb (Yt (by simpa using h0) ?_)
 refine Ys fun o=>(?_:Tr _ _ _ _) o;refine Je ?_
 by_cases h1:fd<8
 case neg =>
  refine Yb (Yf (by simpa using h1) ?_)
  refine Ys fun o=>(?_:Tr _ _ _ _) o;refine Je ?_
  refine Ys fun o=>?_
  refine ⟨?_,o.tail⟩
  rw [show Ak7 p fd=false by simp [Ak7];omega]
 have hg:=Ec9 p (j:=fd.toNat) (by omega)
 refine Yb (Yt (by simpa using h1) ?_)
 (refine Ja ?_;unhygienic intros)
 refine Ys fun o=>(?_:Tr _ _ _ _) o;refine Je ?_
 refine Ys fun o=>?_
 refine ⟨?_,o.tail⟩
 rw [show Ak7 p fd=decide (p.fds.getD fd.toNat 0>0) by simp [Ak7,h0,h1]]
theorem Ey2 {p:ProcS} (h:okS p=true) (h1:p.state=1) (j:Nat) {f:Int} (hf:0≤f∧f≤12):okS (setFd p j f)=true:=by
 have hd:=Hc3 h
 have hd2:Hx0 (setFd p j f).fds:=fun x hx=>by
  rcases List.mem_or_eq_of_mem_set hx with h2|rfl
  ·exact hd x h2
  ·exact hf
 unfold okS at h ⊢
 rw [if_neg (by rw [h1];decide)] at h
 rw [if_neg (show ¬ (setFd p j f).state=2 by show ¬ p.state=2;rw [h1];decide)]
 simp only [Bool.and_eq_true] at h ⊢
 refine ⟨h.1,h.2.1,?_,h.2.2.2⟩
 rw [Bool.not_eq_true',List.any_eq_false]
 intro x hx
 have:=hd2 x hx
 simp;omega
def Hk6 (X:CX) (i fd f:Int):List Value × CX :=
 if (Aa4 X i).2≠0 then (O1 0 (Aa4 X i).2 false,X) else (O1 fd 0 false,B07 X i (setFd (vS X i).1 fd.toNat (f+1)))
def L8 (q:Int→Bool):Nat→Int→Nat→List Int
 | 0,_,_=>[]
 | _+1,_,0=>[]
 | m+1,i,w+1=>if q i=true then i::L8 q m (i+1) w else L8 q m (i+1) (w+1)
theorem B65 (q:Int→Bool):∀ (m:Nat) (i:Int) (w:Nat),(L8 q m i w).length≤w
 | 0,_,_=>by simp [L8]
 | _+1,_,0=>by simp [L8]
 | m+1,i,w+1=>by
  have h1:=B65 q m (i+1) w
  have h2:=B65 q m (i+1) (w+1)
  unfold L8;split<;>simp<;>omega
theorem Au4 (q:Int→Bool):∀ (m:Nat) (i:Int) (w:Nat),∀ x ∈ L8 q m i w,i≤x∧x<i+m∧q x=true
 | 0,_,_,x,hx=>by simp [L8] at hx
 | _+1,_,0,x,hx=>by simp [L8] at hx
 | m+1,i,w+1,x,hx=>by
  unfold L8 at hx
  split at hx
  ·rename_i hq
   rcases List.mem_cons.1 hx with rfl|h
   ·exact ⟨by omega,by omega,hq⟩
   ·have:=Au4 q m (i+1) w x h
    exact ⟨by omega,by omega,this.2.2⟩
  ·have:=Au4 q m (i+1) (w+1) x hx
   exact ⟨by omega,by omega,this.2.2⟩
theorem Dw3 (pr:HP) (g:FuncId) (cp:List Value) (n:Int) (hn:n≤100) (q:Int→Bool) (hq:∀ j:Int,0≤j∧j<n→Ct A9 g (int j::cp) [pr] fun v own=>v=.bool (q j)∧own [pr]):∀ (m:Nat) (i:Int) (acc:List Int) (w:Nat) (a:Option Addr) (ac:Nat),0≤i→i+m=n→acc.length≤i →
  CtJ I4 V9 A96 [(0,int n),(1,int ((acc.length+w:Nat):Int)),(2,.func (.func g) ⟨[]⟩ ⟨cp⟩),(7,.slice a acc.length ac),(8,int i)] [slC false B3 1 a acc.length ac (acc.map int),pr] fun v own =>
   ∃ a' c',v=.slice a' (acc++L8 q m i w).length c'∧own [slC false B3 1 a' (acc++L8 q m i w).length c' ((acc++L8 q m i w).map int),pr]
 | 0,i,acc,w,a,ac,h0,hi,ha=>by
  refine CtJ.of Dg0 fun h r=>Tr.eq (Da0 ..) ?_;refine Je ?_
  refine Yb (Yf (by simp;omega) ?_)
  refine Ys fun o=>(?_:Tr _ _ _ _) o;refine Je ?_
  refine Yf rfl ?_
  refine Ys fun o=>?_
  rw [show L8 q 0 i w=[] by unfold L8;rfl,List.append_nil]
  exact ⟨a,ac,rfl,o.sub⟩
 | m+1,i,acc,0,a,ac,h0,hi,ha=>by
  refine CtJ.of Dg0 fun h r=>Tr.eq (Da0 ..) ?_;refine Je ?_
  refine Yb (Yt (by simp;omega) ?_)
  refine Ys fun o=>(?_:Tr _ _ _ _) o;refine Je ?_
  refine Yf (by simp) ?_
  refine Ys fun o=>?_
  rw [show L8 q (m+1) i 0=[] by unfold L8;rfl,List.append_nil]
  exact ⟨a,ac,rfl,o.sub⟩
 | m+1,i,acc,w+1,a,ac,h0,hi,ha=>by
  have e1:IntKind.wrap .i64 (i+1)=i+1:=by rw [A8];omega
  rw [show L8 q (m+1) i (w+1)=if q i=true then i::L8 q m (i+1) w else L8 q m (i+1) (w+1) by rw [L8]]
  refine CtJ.of Dg0 fun h r=>Tr.eq (Da0 ..) ?_;refine Je ?_
  refine Yb (Yt (by simp;omega) ?_)
  refine Ys fun o=>(?_:Tr _ _ _ _) o;refine Je ?_
  refine Yt (by simp;omega) ?_
  rw [e1]
  refine Q2 0 rfl fun hl hc _=>?_
  (refine Ja ?_;unhygienic intros)
  simp only [List.nil_append,List.singleton_append]
  refine Yc (hq i (by omega)) ?_;rintro _ h ⟨rfl,o⟩<;>refine Jh o ?_
  (refine Ja ?_;unhygienic intros)
  by_cases h2:q i=true
  ·rw [if_pos h2]
   refine Yt h2 ?_
   (refine Ja ?_;unhygienic intros)
   refine Tr.xApd (new:=[int i]) ⟨rfl,rfl,by simp only [B0];omega⟩ fun a' c' h=>?_
   have H:=Dw3 pr g cp n hn q hq m (i+1) (acc++[i]) w a' c' (by omega) (by omega) (by simp;omega)
   rw [show acc++i::L8 q m (i+1) w=acc++[i]++L8 q m (i+1) w by simp,show acc.length+(w+1)=(acc++[i]).length+w by simp;omega]
   refine (?_:Tr (_::pr::slC false B3 1 a' (acc.length+1) c' (acc.map int++[int i])::_) _ _ _)
   rw [show acc.map int++[int i]=(acc++[i]).map int by simp,show acc.length+1=(acc++[i]).length by simp]
   refine Ak4 [2,1] 1 rfl rfl ?_
   exact Yr H fun v h q=>q
  ·rw [if_neg h2]
   refine Yf (by simpa using h2) ?_
   refine Ak4 [1,0] 0 rfl rfl ?_
   exact Yr (Dw3 pr g cp n hn q hq m (i+1) acc (w+1) a ac (by omega) (by omega) (by omega)) fun v h q=>q
theorem E04 (pr:HP) (g:FuncId) (cp:List Value) (n:Nat) (hn:n≤100) (w:Nat) (q:Int→Bool) (hq:∀ j:Int,0≤j∧j<n→Ct A9 g (int j::cp) [pr] fun v own=>v=.bool (q j)∧own [pr]) :
  Ct A9 V9 [int n,int w,.func (.func g) ⟨[]⟩ ⟨cp⟩] [pr] fun v own=>∃ a' c',v=.slice a' (L8 q n 0 w).length c'∧own [slC false B3 1 a' (L8 q n 0 w).length c' ((L8 q n 0 w).map int),pr]:=by
 refine Ct.of Dg0 rfl fun h r=>Tr.eq (He5 ..) ?_;refine Je ?_
 refine G5 false B3 1 (by omega) ?_
 have J:=Dw3 pr g cp n (by omega) q hq n 0 [] w none 0 (by omega) (by omega) (by simp)
 simp only [List.nil_append,List.length_nil,List.map_nil,Nat.zero_add] at J
 exact Yr J fun v h q=>q
theorem Ht6 (b:Nat) (p:ProcS) (j:Int) (hj:0≤j∧j<8):Ct A9 A94 [int j,P0 b] [pt b (.cells D6 false (D8 p))] fun v own=>v=.bool (p.fds.getD j.toNat 0==0)∧own [pt b (.cells D6 false (D8 p))]:=by
 have hg:=Ec9 p (j:=j.toNat) (by omega)
 refine Ct.of Gm9 rfl fun h r=>Tr.eq (Gn5 ..) ?_;refine Je ?_
 (refine Ja ?_;unhygienic intros)
 refine Ys fun o=>?_
 exact ⟨rfl,o.sub⟩
abbrev U8 (p:ProcS) (w:Nat):List Int:=L8 (fun j=>p.fds.getD j.toNat 0==0) 8 0 w
theorem H27 (p:ProcS) (w:Nat):Ct A9 B40 [.agg ⟨D8 p⟩,int w] [] fun v own=>∃ a' c',v=.slice a' (U8 p w).length c'∧own [slC false B3 1 a' (U8 p w).length c' ((U8 p w).map int)]:=by
 refine Ct.of G47 rfl fun h r=>Tr.eq (G36 ..) ?_;refine Je ?_
 refine Yn fun b1 h=>?_
 refine Yc (E04 _ A94 [P0 b1] 8 (by omega) w _ fun j hj=>Ht6 b1 p j (by omega)) ?_
 rintro _ h ⟨a',c',rfl,o⟩
 refine Jh o ?_
 (refine Ja ?_;unhygienic intros)
 refine Ys fun o=>?_
 exact ⟨a',c',rfl,o.sub⟩
def hcC (bh b k:Nat) (F:Fr) (X:CX):HP:=hex fun _:Unit=>sl [pt bh (.cells N7 false [P0 b]),cmC b k F X]
instance {bh b k:Nat} {F:Fr} {X:CX}:Chk (hcC bh b k F X) (fun _:Unit=>[pt bh (.cells N7 false [P0 b]),cmC b k F X]):=⟨rfl⟩
theorem H07 (bh b k:Nat) (F:Fr) (X:CX) (ok:FrOk F) {nc:Nat} (c:Clean nc X) (j:Int) (hj:0≤j∧j<12):Ct A9 A28 [int j,P0 bh] [hcC bh b k F X] fun v own=>v=.bool ((vF X j).2==0)∧own [hcC bh b k F X]:=by
 refine Ct.of G25 rfl fun h r=>Tr.eq (G12 ..) ?_;refine Je ?_
 refine B4 (hcC bh b k F X) fun u=>?_;refine Je ?_
 (refine Ja ?_;unhygienic intros)
 refine Yc (Ez2 b k F X ok j) ?_;rintro _ h ⟨rfl,o⟩<;>refine Jh o ?_
 rw [Du5 c hj]
 dsimp only
 (refine Jc ?_;unhygienic intros)
 refine Yn fun b1 h=>?_
 (refine Ja ?_;unhygienic intros)
 refine B2 (hcC bh b k F X) () ?_;refine Je ?_
 refine Ys fun o=>?_
 exact ⟨rfl,o.sub⟩
theorem H26 (bh b k:Nat) (F:Fr) (X:CX) (ok:FrOk F) {nc:Nat} (c:Clean nc X) (j:Int) (hj:0≤j∧j<3+nc):Ct A9 A36 [int j,P0 bh] [hcC bh b k F X] fun v own=>v=.bool ((vP X j).2==0)∧own [hcC bh b k F X]:=by
 refine Ct.of G22 rfl fun h r=>Tr.eq (Gr2 ..) ?_;refine Je ?_
 refine B4 (hcC bh b k F X) fun u=>?_;refine Je ?_
 (refine Ja ?_;unhygienic intros)
 refine Yc (Ez3 b k F X ok j) ?_;rintro _ h ⟨rfl,o⟩<;>refine Jh o ?_
 rw [Ds8 c hj]
 dsimp only
 (refine Jc ?_;unhygienic intros)
 refine Yn fun b1 h=>?_
 (refine Ja ?_;unhygienic intros)
 refine B2 (hcC bh b k F X) () ?_;refine Je ?_
 refine Ys fun o=>?_
 exact ⟨rfl,o.sub⟩
def ofV (X:CX) (i fd:Int):(Int × FileS) × Int :=
 if (Aa4 X i).2≠0 then ((0,.zero),(Aa4 X i).2)
 else if Ak7 (vS X i).1 fd=false then ((0,.zero),109)
 else if (vF X ((vS X i).1.fds.getD fd.toNat 0-1)).2≠1 then ((0,.zero),105)
 else (((vS X i).1.fds.getD fd.toNat 0-1,(vF X ((vS X i).1.fds.getD fd.toNat 0-1)).1),0)
theorem Hw3 {nc:Nat} {X:CX} (c:Clean nc X) {i:Int} (hi:0≤i∧i<8) (h:(Aa4 X i).2=0) (j:Nat):0≤(vS X i).1.fds.getD j 0∧(vS X i).1.fds.getD j 0≤12:=by
 obtain ⟨s1,s2,s3,s4⟩:=Do3 c hi h
 by_cases hj:j<(vS X i).1.fds.length
 ·rw [List.getD_eq_getElem?_getD,List.getElem?_eq_getElem hj];exact Hc3 s3 _ (List.getElem_mem _)
 ·rw [List.getD_eq_getElem?_getD,List.getElem?_eq_none (by omega)];simp
theorem H66 (b k:Nat) (F:Fr) (X:CX) (ok:FrOk F) {nc:Nat} (c:Clean nc X) (i fd:Int) (hi:0≤i∧i<8) :
  Ct A9 Dn1 [P0 b,int i,int fd] [cmC b k F X] fun v own=>v=.tuple ⟨[int (ofV X i fd).1.1,.agg ⟨Ai1 (ofV X i fd).1.2⟩,int (ofV X i fd).2]⟩∧own [cmC b k F X]:=by
 unfold ofV
 refine Ct.of H00 rfl fun h r=>Tr.eq (H35 ..) ?_;refine Je ?_
 refine Yn fun b0 h=>?_
 refine Yc (Hc0 b k F X ok c i hi) ?_;rintro _ h ⟨rfl,o⟩<;>refine Jh o ?_
 (refine Jc ?_;unhygienic intros)
 refine Yn fun b1 h=>?_
 (refine Jb ?_;unhygienic intros)
 by_cases h1:(Aa4 X i).2=0
 case neg =>
  rw [if_pos h1]
  refine Yt (by simpa using h1) ?_
  (refine Ja ?_;unhygienic intros)
  refine Ys fun o=>?_
  exact ⟨rfl,o.sub⟩
 rw [if_neg (by simpa using h1)]
 refine Yf (by simpa using h1) ?_
 obtain ⟨s1,s2,s3,s4⟩:=Do3 c hi h1
 have hr:=fun j=>Hw3 c hi h1 j
 rw [s1]
 generalize hp:(vS X i).1=p at s2 s3 hr
 (refine Ja ?_;unhygienic intros)
 refine Yc (Hy8 p fd) ?_;rintro _ h ⟨rfl,o⟩<;>(refine Jf o ?_;unhygienic intros)
 by_cases h2:Ak7 p fd=true
 case neg =>
  rw [if_pos (by simpa using h2)]
  refine Yt (by simpa using h2) ?_
  (refine Ja ?_;unhygienic intros)
  refine Ys fun o=>?_
  exact ⟨rfl,o.sub⟩
 rw [if_neg (by simpa using h2)]
 refine Yf (by simpa using h2) ?_
 simp only [Ak7,Bool.and_eq_true,decide_eq_true_eq] at h2
 have hg:=Ec9 p (j:=fd.toNat) (by omega)
 have hf:=hr fd.toNat
 generalize p.fds.getD fd.toNat 0=f at hg hf h2
 have e1:IntKind.wrap .i64 (f-1)=f-1:=by rw [A8];omega
 (refine Ja ?_;unhygienic intros)
 rw [e1]
 refine Yc (Ez2 b k F X ok (f-1)) ?_;rintro _ h ⟨rfl,o⟩<;>refine Jh o ?_
 rw [Du5 c (by omega)]
 dsimp only
 (refine Ja ?_;unhygienic intros)
 by_cases h3:(vF X (f-1)).2=1
 case neg =>
  rw [if_pos h3]
  refine Yt (by simpa using h3) ?_
  (refine Ja ?_;unhygienic intros)
  refine Ys fun o=>?_
  exact ⟨rfl,o.sub⟩
 rw [if_neg (by simpa using h3)]
 refine Yf (by simpa using h3) ?_
 (refine Ja ?_;unhygienic intros)
 rw [e1]
 refine Ys fun o=>?_
 exact ⟨rfl,o.sub⟩
theorem Hw7 {p:ProcS} {fd:Int} (h:Ak7 p fd=true):(0≤fd∧fd<8)∧p.fds.getD fd.toNat 0>0:=by
 simp only [Ak7,Bool.and_eq_true,decide_eq_true_eq] at h;exact h
def Ai7:PipeS:=⟨0,0,1,1,[0,0,0,0,0,0,0,0,0,0,0,0,0,0,0,0,0,0,0,0,0,0,0,0,0,0,0,0,0,0,0,0],rfl⟩
abbrev A98 (X:CX):List Int:=L8 (fun j=>(vF X j).2==0) 12 0 2
abbrev Bg6 (X:CX):List Int:=L8 (fun j=>(vP X j).2==0) 4 0 1
def Bl4 (X:CX) (i d0 d1 f0 f1 r0:Int):CX :=
 B07 (A58 (A58 (A16 X r0 Ai7) f0 ⟨1,r0,1,0⟩) f1 ⟨2,r0,1,0⟩) i (setFd (setFd (vS X i).1 d0.toNat (f0+1)) d1.toNat (f1+1))
def At3 (X:CX) (i:Int):List Value × CX :=
 if (Aa4 X i).2≠0 then (O1 0 (Aa4 X i).2 false,X)
 else if (U8 (vS X i).1 2).length<2 then (O1 0 124 false,X)
 else if (A98 X).length<2∨(Bg6 X).length=0 then (O1 0 123 false,X)
 else (O1 ((U8 (vS X i).1 2).getD 0 0+16*(U8 (vS X i).1 2).getD 1 0) 0 false,Bl4 X i ((U8 (vS X i).1 2).getD 0 0) ((U8 (vS X i).1 2).getD 1 0) ((A98 X).getD 0 0) ((A98 X).getD 1 0) ((Bg6 X).getD 0 0))
theorem Ho0 {l:List Int} (h:l.length≤2) (h2:¬ l.length<2):∃ a b,l=[a,b]:=by
 match l,h,h2 with
 | [a,b],_,_=>exact ⟨a,b,rfl⟩
 | [],_,h2=>simp at h2
 | [_],_,h2=>simp at h2
 | _::_::_::_,h,_=>simp at h
theorem Gk5 {nc:Nat} {X:CX} (c:Clean nc X) {i:Int} (hi:0≤i∧i<8) (hs:(Aa4 X i).2=0) {d0 d1 f0 f1 r0:Int} (hd0:0≤d0∧d0<8) (hd1:0≤d1∧d1<8) (hf0:0≤f0∧f0<12) (hf1:0≤f1∧f1<12) (hr:0≤r0∧r0<4) (hn:r0<3+(nc:Int)) :
  A74 X r0 Ai7=(true,A16 X r0 Ai7)∧Be8 (A16 X r0 Ai7) f0 ⟨1,r0,1,0⟩=(true,A58 (A16 X r0 Ai7) f0 ⟨1,r0,1,0⟩) ∧
  Be8 (A58 (A16 X r0 Ai7) f0 ⟨1,r0,1,0⟩) f1 ⟨2,r0,1,0⟩=(true,A58 (A58 (A16 X r0 Ai7) f0 ⟨1,r0,1,0⟩) f1 ⟨2,r0,1,0⟩) ∧
  Bq9 (A58 (A58 (A16 X r0 Ai7) f0 ⟨1,r0,1,0⟩) f1 ⟨2,r0,1,0⟩) i (setFd (setFd (vS X i).1 d0.toNat (f0+1)) d1.toNat (f1+1))=(true,Bl4 X i d0 d1 f0 f1 r0) ∧
  Clean nc (Bl4 X i d0 d1 f0 f1 r0)∧(∀ j:Int,0≤j∧j<8→vS (Bl4 X i d0 d1 f0 f1 r0) j=if j=i then (setFd (setFd (vS X i).1 d0.toNat (f0+1)) d1.toNat (f1+1),1) else vS X j) ∧
  (∀ j:Int,0≤j∧j<12→vF (Bl4 X i d0 d1 f0 f1 r0) j=if j=f1 then (⟨2,r0,1,0⟩,1) else if j=f0 then (⟨1,r0,1,0⟩,1) else vF X j) ∧
  (∀ j:Int,0≤j∧j<3+nc→vP (Bl4 X i d0 d1 f0 f1 r0) j=if j=r0 then (Ai7,1) else vP X j):=by
 obtain ⟨s1,s2,s3,s4⟩:=Do3 c hi hs
 have hin:=Hd4 (rd X ⟨1,i⟩)
 obtain ⟨a1,a2,a3,a4,a5⟩:=A17 c (i:=r0) (by omega) (p:=Ai7) rfl
 obtain ⟨b1,b2,b3,b4,b5⟩:=Bh5 a2 hf0 (f:=⟨1,r0,1,0⟩) (by simp [okF];omega)
 obtain ⟨c1,c2,c3,c4,c5⟩:=Bh5 b2 hf1 (f:=⟨2,r0,1,0⟩) (by simp [okF];omega)
 have hq:=Ey2 (Ey2 s3 s2 d0.toNat (f:=f0+1) (by omega)) s2 d1.toNat (f:=f1+1) (by omega)
 obtain ⟨e1,e2,e3,e4,e5⟩:=Dx0 c2 hi hq ⟨hin.a,hin.b,hin.c,hin.d⟩
 refine ⟨a1,b1,c1,e1,e2,fun j hj=>?_,fun j hj=>?_,fun j hj=>?_⟩
 ·rw [show Bl4 X i d0 d1 f0 f1 r0=B07 _ _ _ from rfl,e3 j hj,c3 j hj,b3 j hj,a3 j hj]
 ·rw [show Bl4 X i d0 d1 f0 f1 r0=B07 _ _ _ from rfl,e4 j hj,c4 j hj,b4 j hj,a4 j hj]
 ·rw [show Bl4 X i d0 d1 f0 f1 r0=B07 _ _ _ from rfl,e5 j hj,c5 j hj,b5 j hj,a5 j hj]
theorem H11 (bh b k:Nat) (F:Fr) (X:CX) (ok:FrOk F) {nc:Nat} (c:Clean nc X):Ct A9 V9 [int 12,int 2,.func (.func A28) ⟨[]⟩ ⟨[P0 bh]⟩] [hcC bh b k F X] fun v own =>
  ∃ a' c',v=.slice a' (A98 X).length c'∧own [slC false B3 1 a' (A98 X).length c' ((A98 X).map int),hcC bh b k F X] :=
 E04 _ A28 [P0 bh] 12 (by omega) 2 _ fun j hj=>H07 bh b k F X ok c j (by omega)
theorem H38 (bh b k:Nat) (F:Fr) (X:CX) (ok:FrOk F) {nc:Nat} (c:Clean nc X):Ct A9 V9 [int 4,int 1,.func (.func A36) ⟨[]⟩ ⟨[P0 bh]⟩] [hcC bh b k F X] fun v own =>
  ∃ a' c',v=.slice a' (Bg6 X).length c'∧own [slC false B3 1 a' (Bg6 X).length c' ((Bg6 X).map int),hcC bh b k F X] :=
 E04 _ A36 [P0 bh] 4 (by omega) 1 _ fun j hj=>H26 bh b k F X ok c j (by have:=c.pos;omega)
theorem Ie9 {l:List Int} (h:l.length≤1) (h2:¬ l.length=0):∃ a,l=[a]:=by
 match l,h,h2 with
 | [a],_,_=>exact ⟨a,rfl⟩
 | [],_,h2=>simp at h2
 | _::_::_,h,_=>simp at h
theorem Ex8 (b k:Nat) (F:Fr) (X:CX) (ok:FrOk F) {nc:Nat} (c:Clean nc X) (i:Int) (hi:0≤i∧i<8) :
  Ct A9 Bi0 [P0 b,int i] [cmC b k F X] fun v own=>v=.agg ⟨(At3 X i).1⟩∧own [cmC b k F (At3 X i).2]:=by
 unfold At3
 refine Ct.of Hj9 rfl fun h r=>Tr.eq (Hl8 ..) ?_;refine Je ?_
 refine Yn fun bh h=>?_
 refine Yn fun b0 h=>?_
 (refine Ja ?_;unhygienic intros)
 refine Yc (Hc0 b k F X ok c i hi) ?_;rintro _ h ⟨rfl,o⟩<;>refine Jh o ?_
 (refine Jc ?_;unhygienic intros)
 refine Yn fun b1 h=>?_
 (refine Jb ?_;unhygienic intros)
 by_cases h1:(Aa4 X i).2=0
 case neg =>
  rw [if_pos h1]
  refine Yt (by simpa using h1) ?_
  refine Yc (Dl8 (Aa4 X i).2) ?_;rintro _ h ⟨rfl,o⟩<;>(refine Jf o ?_;unhygienic intros)
  refine Ys fun o=>?_
  exact ⟨rfl,o.sub⟩
 rw [if_neg (by simpa using h1)]
 refine Yf (by simpa using h1) ?_
 have hM:=fun d0 d1 f0 f1 r0=>Gk5 c hi h1 (d0:=d0) (d1:=d1) (f0:=f0) (f1:=f1) (r0:=r0)
 obtain ⟨s1,s2,s3,s4⟩:=Do3 c hi h1
 rw [s1]
 unfold Bl4 at hM ⊢
 generalize (vS X i).1=p at hM
 (refine Ja ?_;unhygienic intros)
 refine Yc (H27 p 2) ?_
 rintro _ h ⟨a,ac,rfl,o⟩
 refine Jh o ?_
 have hm:=Au4 (fun j=>p.fds.getD j.toNat 0==0) 8 0 2
 have hl:=B65 (fun j=>p.fds.getD j.toNat 0==0) 8 0 2
 change ∀ x ∈ U8 p 2,_ at hm
 change (U8 p 2).length≤2 at hl
 refine (?_:Tr (slC false B3 1 a (U8 p 2).length ac ((U8 p 2).map int)::_) _ _ _)
 generalize U8 p 2=L at hm hl
 by_cases h2:L.length<2
 ·(refine Ja ?_;unhygienic intros)
  refine Yt (by simp;omega) ?_
  refine Yc (Dl8 124) ?_;rintro _ h ⟨rfl,o⟩<;>(refine Jf o ?_;unhygienic intros)
  refine Ys fun o=>?_
  rw [if_pos h2]
  exact ⟨rfl,o.sub⟩
 rw [if_neg h2]
 obtain ⟨d0,d1,rfl⟩:=Ho0 hl h2
 have hd0:=hm d0 (by simp)
 have hd1:=hm d1 (by simp)
 (refine Ja ?_;unhygienic intros)
 refine Yf (by simp) ?_
 refine B2 (hcC bh b k F X) () ?_;refine Je ?_
 refine Yc (H11 bh b k F X ok c) ?_
 rintro _ h ⟨a2,ac2,rfl,o⟩
 refine Jh o ?_
 have hmF:=Au4 (fun j=>(vF X j).2==0) 12 0 2
 have hlF:=B65 (fun j=>(vF X j).2==0) 12 0 2
 change ∀ x ∈ A98 X,_ at hmF
 change (A98 X).length≤2 at hlF
 generalize A98 X=Fl at hmF hlF
 (refine Ja ?_;unhygienic intros)
 refine Yc (H38 bh b k F X ok c) ?_
 rintro _ h ⟨a3,ac3,rfl,o⟩
 refine Jh o ?_
 have hmR:=Au4 (fun j=>(vP X j).2==0) 4 0 1
 have hlR:=B65 (fun j=>(vP X j).2==0) 4 0 1
 change ∀ x ∈ Bg6 X,_ at hmR
 change (Bg6 X).length≤1 at hlR
 generalize Bg6 X=Rl at hmR hlR
 refine B4 (hcC bh b k F X) fun u=>?_;refine Je ?_
 by_cases h3:Fl.length<2
 ·rw [if_pos (.inl h3)]
  (refine Jb ?_;unhygienic intros)
  refine Yb (Yt (by simp;omega) ?_)
  refine Ys fun o=>(?_:Tr _ _ _ _) o;refine Je ?_
  refine Yt rfl ?_
  refine Yc (Dl8 123) ?_;rintro _ h ⟨rfl,o⟩<;>(refine Jf o ?_;unhygienic intros)
  refine Ys fun o=>?_
  exact ⟨rfl,o.sub⟩
 obtain ⟨f0,f1,rfl⟩:=Ho0 hlF h3
 by_cases h4:Rl.length=0
 ·rw [if_pos (.inr h4)]
  (refine Jb ?_;unhygienic intros)
  refine Yb (Yf rfl ?_)
  refine Ys fun o=>(?_:Tr _ _ _ _) o;refine Je ?_
  refine Yt (by simpa using h4) ?_
  refine Yc (Dl8 123) ?_;rintro _ h ⟨rfl,o⟩<;>(refine Jf o ?_;unhygienic intros)
  refine Ys fun o=>?_
  exact ⟨rfl,o.sub⟩
 rw [if_neg (fun h=>h.elim h3 h4)]
 obtain ⟨r0,rfl⟩:=Ie9 hlR h4
 have hf0:=hmF f0 (by simp)
 have hf1:=hmF f1 (by simp)
 have hr0:=hmR r0 (by simp)
 obtain ⟨w1,w2,w3,w4,_⟩:=hM d0 d1 f0 f1 r0 (by omega) (by omega) (by omega) (by omega) (by omega) (by have:=c.pos;omega)
 (refine Jb ?_;unhygienic intros)
 refine Yb (Yf rfl ?_)
 refine Ys fun o=>(?_:Tr _ _ _ _) o;refine Je ?_
 refine Yf rfl ?_
 (refine Ja ?_;unhygienic intros;repeat(refine Gw ?_;rintro px rfl;refine Ja ?_;unhygienic intros))
 refine Yc (Eu0 b k F X ok r0 Ai7) ?_;rintro _ h ⟨rfl,o⟩<;>refine Jh o ?_
 rw [w1]
 dsimp only
 (refine Jb ?_;unhygienic intros)
 refine Yb (Yt rfl ?_)
 (refine Jb ?_;unhygienic intros;repeat(refine Gw ?_;rintro px rfl;refine Jb ?_;unhygienic intros))
 refine Yc (Et7 b k F (A16 X r0 Ai7) ok f0 ⟨1,r0,1,0⟩) ?_;rintro _ h ⟨rfl,o⟩<;>refine Jh o ?_
 rw [w2]
 dsimp only
 (refine Jb ?_;unhygienic intros)
 refine Ys fun o=>(?_:Tr _ _ _ _) o;refine Je ?_
 refine Yb (Yt rfl ?_)
 (refine Jb ?_;unhygienic intros;repeat(refine Gw ?_;rintro px rfl;refine Jb ?_;unhygienic intros))
 refine Yc (Et7 b k F (A58 (A16 X r0 Ai7) f0 ⟨1,r0,1,0⟩) ok f1 ⟨2,r0,1,0⟩) ?_;rintro _ h ⟨rfl,o⟩<;>refine Jh o ?_
 rw [w3]
 dsimp only
 (refine Jb ?_;unhygienic intros)
 refine Ys fun o=>(?_:Tr _ _ _ _) o;refine Je ?_
 have hs:B33 (D8 p) (8+d0.toNat) (int (IntKind.wrap .i64 (f0+1)))=some (D8 (setFd p d0.toNat (f0+1))):=by
  rw [show IntKind.wrap .i64 (f0+1)=f0+1 by rw [A8];omega];exact Gh1 p (by omega) _
 have hs2:B33 (D8 (setFd p d0.toNat (f0+1))) (8+d1.toNat) (int (IntKind.wrap .i64 (f1+1)))=some (D8 (setFd (setFd p d0.toNat (f0+1)) d1.toNat (f1+1))):=by
  rw [show IntKind.wrap .i64 (f1+1)=f1+1 by rw [A8];omega];exact Gh1 _ (by omega) _
 have hx:IntKind.wrap .i64 (d0+IntKind.wrap .i64 (16*d1))=d0+16*d1:=by simp only [A8];omega
 simp only [List.getD_cons_zero,List.getD_cons_succ]
 generalize setFd (setFd p d0.toNat (f0+1)) d1.toNat (f1+1)=q at hs2 w4
 (refine Jb ?_;unhygienic intros;repeat(refine Gw ?_;rintro px rfl;refine Jb ?_;unhygienic intros))
 rw [hx]
 refine Yb (Yt rfl ?_)
 (refine Jb ?_;unhygienic intros)
 refine Yc (G34 b k F (A58 (A58 (A16 X r0 Ai7) f0 ⟨1,r0,1,0⟩) f1 ⟨2,r0,1,0⟩) ok i q) ?_;rintro _ h ⟨rfl,o⟩<;>refine Jh o ?_
 rw [w4]
 dsimp only
 (refine Jb ?_;unhygienic intros)
 refine Ys fun o=>(?_:Tr _ _ _ _) o;refine Je ?_
 refine Yc (Hx7 true (d0+16*d1)) ?_;rintro _ h ⟨rfl,o⟩<;>refine Jh o ?_
 rw [if_pos trivial]
 (refine Ja ?_;unhygienic intros)
 refine Ys fun o=>?_
 exact ⟨rfl,o.sub⟩
structure VW where
 S:Int→ProcS × Int
 F:Int→FileS × Int
 P:Int→PipeS × Int
structure See (X:CX) (V:VW):Prop where
 c:Clean 3 X
 s:∀ j:Int,0≤j∧j<8→vS X j=V.S j
 f:∀ j:Int,0≤j∧j<12→vF X j=V.F j
 p:∀ j:Int,0≤j∧j<6→vP X j=V.P j
theorem See.to {X:CX} {V V':VW} (A:See X V) (hs:∀ j:Int,0≤j∧j<8→V.S j=V'.S j) (hf:∀ j:Int,0≤j∧j<12→V.F j=V'.F j) (hp:∀ j:Int,0≤j∧j<6→V.P j=V'.P j):See X V' :=
 ⟨A.c,fun j h=>(A.s j h).trans (hs j h),fun j h=>(A.f j h).trans (hf j h),fun j h=>(A.p j h).trans (hp j h)⟩
def wS (V:VW) (i:Int) (p:ProcS):VW:=⟨fun j=>if j=i then (p,1) else V.S j,V.F,V.P⟩
def wF (V:VW) (i:Int) (x:FileS):VW:=⟨V.S,fun j=>if j=i then (x,1) else V.F j,V.P⟩
def wP (V:VW) (i:Int) (x:PipeS):VW:=⟨V.S,V.F,fun j=>if j=i then (x,1) else V.P j⟩
def oF (V:VW) (i:Int):VW:=⟨V.S,fun j=>if j=i then (.zero,0) else V.F j,V.P⟩
def oP (V:VW) (i:Int):VW:=⟨V.S,V.F,fun j=>if j=i then (.zero,0) else V.P j⟩
section
variable {X:CX} {V:VW} (A:See X V)
include A
theorem See.ws {i:Int} (hi:0≤i∧i<8) {p:ProcS} (ok:okS p=true) (r:InS p):See (B07 X i p) (wS V i p):=by
 obtain ⟨_,w2,w3,w4,w5⟩:=Dx0 A.c hi ok r
 exact ⟨w2,fun j h=>by rw [w3 j h,A.s j h];rfl,fun j h=>by rw [w4 j h];exact A.f j h,fun j h=>by rw [w5 j (by omega)];exact A.p j h⟩
theorem See.wf {i:Int} (hi:0≤i∧i<12) {x:FileS} (ok:okF x=true):See (A58 X i x) (wF V i x):=by
 obtain ⟨_,w2,w3,w4,w5⟩:=Bh5 A.c hi ok
 exact ⟨w2,fun j h=>by rw [w3 j h];exact A.s j h,fun j h=>by rw [w4 j h,A.f j h];rfl,fun j h=>by rw [w5 j (by omega)];exact A.p j h⟩
theorem See.wp {i:Int} (hi:0≤i∧i<6) {x:PipeS} (ok:okP x=true):See (A16 X i x) (wP V i x):=by
 obtain ⟨_,w2,w3,w4,w5⟩:=A17 A.c (i:=i) (by omega) ok
 exact ⟨w2,fun j h=>by rw [w3 j h];exact A.s j h,fun j h=>by rw [w4 j h];exact A.f j h,fun j h=>by rw [w5 j (by omega),A.p j h];rfl⟩
theorem See.of {i:Int} (hi:0≤i∧i<12):See (Ge4 X i) (oF V i):=by
 obtain ⟨_,w2,w3,w4,w5⟩:=Gc1 A.c hi
 exact ⟨w2,fun j h=>by rw [w3 j h];exact A.s j h,fun j h=>by rw [w4 j h,A.f j h];rfl,fun j h=>by rw [w5 j (by omega)];exact A.p j h⟩
theorem See.op {i:Int} (hi:0≤i∧i<6):See (Gb9 X i) (oP V i):=by
 obtain ⟨_,w2,w3,w4,w5⟩:=Gb3 A.c (i:=i) (by omega)
 exact ⟨w2,fun j h=>by rw [w3 j h];exact A.s j h,fun j h=>by rw [w4 j h];exact A.f j h,fun j h=>by rw [w5 j (by omega),A.p j h];rfl⟩
end
def Al5 (V:VW) (i:Int):ProcS × Int:=if (V.S i).2=1∧(V.S i).1.state=1 then ((V.S i).1,0) else (.zero,105)
theorem See.self {X:CX} {V:VW} (A:See X V) {i:Int} (hi:0≤i∧i<8):Aa4 X i=Al5 V i:=by unfold Aa4 Al5;rw [A.s i hi]
def clP (V:VW) (i:Int) (q:PipeS):VW:=if q.readers+q.writers=0∧i<4 then oP V i else wP V i q
def Hw9 (V:VW) (f:Int):Int × VW :=
 if (V.F f).2≠1 then (105,V)
 else if (V.F f).1.refs-1>0 then (0,wF V f (Ge9 (V.F f).1 (-1)))
 else if (V.F f).1.kind=3 then (0,oF V f)
 else if ¬ ((V.F f).1.pipe<6∧(V.P (V.F f).1.pipe).2=1) then (105,oF V f)
 else (0,clP (oF V f) (V.F f).1.pipe (Ij7 (V.F f).1.kind (V.P (V.F f).1.pipe).1))
def ofW (V:VW) (i fd:Int):(Int × FileS) × Int :=
 if (Al5 V i).2≠0 then ((0,.zero),(Al5 V i).2)
 else if Ak7 (V.S i).1 fd=false then ((0,.zero),109)
 else if (V.F ((V.S i).1.fds.getD fd.toNat 0-1)).2≠1 then ((0,.zero),105)
 else (((V.S i).1.fds.getD fd.toNat 0-1,(V.F ((V.S i).1.fds.getD fd.toNat 0-1)).1),0)
theorem See.ofv {X:CX} {V:VW} (A:See X V) {i:Int} (hi:0≤i∧i<8) (fd:Int):ofV X i fd=ofW V i fd:=by
 have es:=A.self hi
 have hr:=fun h=>Hw3 A.c (i:=i) hi h fd.toNat
 unfold ofV ofW
 rw [es] at hr ⊢
 rw [A.s i hi] at hr ⊢
 by_cases h1:(Al5 V i).2≠0
 ·rw [if_pos h1,if_pos h1]
 rw [if_neg h1,if_neg h1]
 by_cases h2:Ak7 (V.S i).1 fd=false
 ·rw [if_pos h2,if_pos h2]
 have hn:=Hw7 (show Ak7 (V.S i).1 fd=true by simpa using h2)
 have hr:=hr (by simpa using h1)
 rw [if_neg h2,if_neg h2,A.f _ (by omega)]
def He6 (V:VW) (i fd f:Int):List Value × VW :=
 if (Al5 V i).2≠0 then (O1 0 (Al5 V i).2 false,V) else (O1 fd 0 false,wS V i (setFd (V.S i).1 fd.toNat (f+1)))
theorem See.setFd {X:CX} {V:VW} (A:See X V) {i:Int} (hi:0≤i∧i<8) (h:(Al5 V i).2=0) (j:Nat) {f:Int} (hf:0≤f∧f≤12):See (B07 X i (EQ.setFd (vS X i).1 j f)) (wS V i (EQ.setFd (V.S i).1 j f)):=by
 have es:=A.self hi
 obtain ⟨s1,s2,s3,s4⟩:=Do3 A.c hi (by rw [es];exact h)
 have hin:=Hd4 (rd X ⟨1,i⟩)
 have:=A.ws hi (Ey2 s3 s2 j hf) ⟨hin.a,hin.b,hin.c,hin.d⟩
 have e:EQ.setFd (V.S i).1 j f=EQ.setFd (vS X i).1 j f:=by rw [A.s i hi]
 rw [e];exact this
theorem See.name {X:CX} {V:VW} (A:See X V) {i:Int} (hi:0≤i∧i<8) (fd:Int) {f:Int} (hf:0≤f∧f<12):(Hk6 X i fd f).1=(He6 V i fd f).1∧See (Hk6 X i fd f).2 (He6 V i fd f).2:=by
 have es:=A.self hi
 unfold Hk6 He6
 rw [es]
 by_cases h1:(Al5 V i).2=0
 case neg=>rw [if_pos h1,if_pos h1];exact ⟨rfl,A⟩
 have n1:¬ (Al5 V i).2≠0:=by simpa using h1
 rw [if_neg n1,if_neg n1]
 exact ⟨rfl,A.setFd hi h1 fd.toNat (by omega)⟩
def Ax2 (V:VW) (i fd:Int):List Value × VW :=
 if (Al5 V i).2≠0 then (O1 0 (Al5 V i).2 false,V)
 else if Ak7 (V.S i).1 fd=false then (O1 0 109 false,V)
 else (O1 0 (Hw9 (wS V i (setFd (V.S i).1 fd.toNat 0)) ((V.S i).1.fds.getD fd.toNat 0-1)).1 false,(Hw9 (wS V i (setFd (V.S i).1 fd.toNat 0)) ((V.S i).1.fds.getD fd.toNat 0-1)).2)
theorem B52 {q q':Int→Bool}:∀ (m:Nat) (i:Int) (w:Nat),(∀ j:Int,i≤j→j<i+m→q j=q' j)→L8 q m i w=L8 q' m i w
 | 0,_,_,_=>rfl
 | _+1,_,0,_=>rfl
 | m+1,i,w+1,h=>by
  rw [L8,L8,h i (by omega) (by omega),B52 m (i+1) w fun j h1 h2=>h j (by omega) (by omega),B52 m (i+1) (w+1) fun j h1 h2=>h j (by omega) (by omega)]
abbrev D11 (V:VW):List Int:=L8 (fun j=>(V.F j).2==0) 12 0 2
abbrev Ga0 (V:VW):List Int:=L8 (fun j=>(V.P j).2==0) 4 0 1
def mkW (V:VW) (i d0 d1 f0 f1 r0:Int):VW:=wS (wF (wF (wP V r0 Ai7) f0 ⟨1,r0,1,0⟩) f1 ⟨2,r0,1,0⟩) i (setFd (setFd (V.S i).1 d0.toNat (f0+1)) d1.toNat (f1+1))
def D73 (V:VW) (i:Int):List Value × VW :=
 if (Al5 V i).2≠0 then (O1 0 (Al5 V i).2 false,V)
 else if (U8 (V.S i).1 2).length<2 then (O1 0 124 false,V)
 else if (D11 V).length<2∨(Ga0 V).length=0 then (O1 0 123 false,V)
 else (O1 ((U8 (V.S i).1 2).getD 0 0+16*(U8 (V.S i).1 2).getD 1 0) 0 false,mkW V i ((U8 (V.S i).1 2).getD 0 0) ((U8 (V.S i).1 2).getD 1 0) ((D11 V).getD 0 0) ((D11 V).getD 1 0) ((Ga0 V).getD 0 0))
theorem Dj8 {l:List Int} {j:Nat} (h:j<l.length):l.getD j 0 ∈ l:=by
 rw [List.getD_eq_getElem?_getD,List.getElem?_eq_getElem h];exact List.getElem_mem _
theorem See.pipe {X:CX} {V:VW} (A:See X V) {i:Int} (hi:0≤i∧i<8):(At3 X i).1=(D73 V i).1∧See (At3 X i).2 (D73 V i).2:=by
 have es:=A.self hi
 have e1:A98 X=D11 V:=B52 12 0 2 fun j h1 h2=>by rw [A.f j (by omega)]
 have e2:Bg6 X=Ga0 V:=B52 4 0 1 fun j h1 h2=>by rw [A.p j (by omega)]
 unfold At3 D73
 rw [e1,e2,es]
 by_cases h1:(Al5 V i).2=0
 case neg=>rw [if_pos h1,if_pos h1];exact ⟨rfl,A⟩
 have n1:¬ (Al5 V i).2≠0:=by simpa using h1
 rw [if_neg n1,if_neg n1,A.s i hi]
 by_cases h2:(U8 (V.S i).1 2).length<2
 ·rw [if_pos h2,if_pos h2];exact ⟨rfl,A⟩
 rw [if_neg h2,if_neg h2]
 by_cases h3:(D11 V).length<2∨(Ga0 V).length=0
 ·rw [if_pos h3,if_pos h3];exact ⟨rfl,A⟩
 rw [if_neg h3,if_neg h3]
 have hm:=Au4 (fun j=>(V.S i).1.fds.getD j.toNat 0==0) 8 0 2
 have hd0:=hm _ (Dj8 (l:=U8 (V.S i).1 2) (j:=0) (by omega))
 have hd1:=hm _ (Dj8 (l:=U8 (V.S i).1 2) (j:=1) (by omega))
 have hf0:=Au4 (fun j=>(V.F j).2==0) 12 0 2 _ (Dj8 (l:=D11 V) (j:=0) (by omega))
 have hf1:=Au4 (fun j=>(V.F j).2==0) 12 0 2 _ (Dj8 (l:=D11 V) (j:=1) (by omega))
 have hr:=Au4 (fun j=>(V.P j).2==0) 4 0 1 _ (Dj8 (l:=Ga0 V) (j:=0) (by omega))
 generalize (U8 (V.S i).1 2).getD 0 0=d0 at hd0 ⊢
 generalize (U8 (V.S i).1 2).getD 1 0=d1 at hd1 ⊢
 generalize (D11 V).getD 0 0=f0 at hf0 ⊢
 generalize (D11 V).getD 1 0=f1 at hf1 ⊢
 generalize (Ga0 V).getD 0 0=r0 at hr ⊢
 obtain ⟨_,_,_,_,m1,m2,m3,m4⟩:=Gk5 A.c hi (by rw [es];exact h1) (d0:=d0) (d1:=d1) (f0:=f0) (f1:=f1) (r0:=r0) (by omega) (by omega) (by omega) (by omega) (by omega) (by omega)
 refine ⟨rfl,m1,fun j hj=>?_,fun j hj=>?_,fun j hj=>?_⟩
 ·rw [m2 j hj,A.s i hi,A.s j hj];rfl
 ·rw [m3 j hj,A.f j hj];rfl
 ·rw [m4 j (by omega),A.p j hj];rfl
def Go9 (V:VW):Nat→Int→Int
 | 0,_=>-1
 | m+1,i=>if (V.S i).2=0 then i else Go9 V m (i+1)
def Dy3 (V:VW) (more:List Int):List Int→Int
 | []=>0
 | f::l=>if f=0 then Dy3 V more l else if (V.F (f-1)).2≠1 then 105 else if (V.F (f-1)).1.refs+more.getD (f-1).toNat 0>64 then 123 else Dy3 V more l
theorem See.share {X:CX} {V:VW} (A:See X V) (more:List Int):∀ l:List Int,Hx0 l→D03 X more l=Dy3 V more l
 | [],_=>rfl
 | f::l,h=>by
  have hf:=h f (by simp)
  rw [D03,Dy3,A.share more l fun x hx=>h x (by simp [hx])]
  by_cases h0:f=0
  ·rw [if_pos h0,if_pos h0]
  ·rw [if_neg h0,if_neg h0,A.f (f-1) (by omega)]
def Ik8 (V:VW) (more:List Int):VW:=⟨V.S,fun j=>if more.getD j.toNat 0≠0 then (Ge9 (V.F j).1 (more.getD j.toNat 0),1) else V.F j,V.P⟩
def Ih5 (V:VW) (i:Int):List Value × VW :=
 if (Al5 V i).2≠0 then (O1 0 (Al5 V i).2 false,V)
 else if Go9 V 8 0<0 then (O1 0 111 false,V)
 else if Dy3 V (En4 (V.S i).1) (V.S i).1.fds≠0 then (O1 0 (Dy3 V (En4 (V.S i).1) (V.S i).1.fds) false,V)
 else (O1 (Go9 V 8 0) 0 false,wS (Ik8 V (En4 (V.S i).1)) (Go9 V 8 0) (Hc4 (V.S i).1 i))
def V1:VW:=⟨fun j=>if j=0 then (p0,1) else (.zero,0),fun j=>if j=0 then (f0,1) else (.zero,0),fun j=>if j<4 then (.zero,0) else vP X1 j⟩
theorem Id3:See X1 V1:=by
 refine ⟨Ez5,fun j hj=>?_,fun j hj=>?_,fun j hj=>?_⟩
 ·have:j=0∨j=1∨j=2∨j=3∨j=4∨j=5∨j=6∨j=7:=by omega
  rcases this with rfl|rfl|rfl|rfl|rfl|rfl|rfl|rfl<;>(clear hj;show (_:ProcS × Int)=_;kernel_rfl)
 ·have:j=0∨j=1∨j=2∨j=3∨j=4∨j=5∨j=6∨j=7∨j=8∨j=9∨j=10∨j=11:=by omega
  rcases this with rfl|rfl|rfl|rfl|rfl|rfl|rfl|rfl|rfl|rfl|rfl|rfl<;>(clear hj;show (_:FileS × Int)=_;kernel_rfl)
 ·by_cases h4:j<4
  ·have:j=0∨j=1∨j=2∨j=3:=by omega
   rcases this with rfl|rfl|rfl|rfl<;>(clear hj h4;show (_:PipeS × Int)=_;kernel_rfl)
  ·show _=if j<4 then _ else vP X1 j
   rw [if_neg h4]
abbrev Ii2 (ow:List Int) (h:ow.length=8):ProcS:=⟨1,0,0,0,0,0,0,0,ow,h⟩
def kd (j:Int):Int:=if j=0 then 3 else j
def Ij6 (j n:Int):FileS × Int:=if n>0 then (⟨kd j,0,n,0⟩,1) else (.zero,0)
def pO (a b:Int):PipeS:=⟨0,0,min a 1,min b 1,[0,0,0,0,0,0,0,0,0,0,0,0,0,0,0,0,0,0,0,0,0,0,0,0,0,0,0,0,0,0,0,0],rfl⟩
def Ik6 (a b:Int):PipeS × Int:=if a>0∨b>0 then (pO a b,1) else (.zero,0)
def Ij3 (ow:List Int) (h:ow.length=8) (r:Int→Int):VW :=
 ⟨fun j=>if j=0 then (Ii2 ow h,1) else (.zero,0),fun j=>if 0≤j∧j<3 then Ij6 j (r (j+1)) else (.zero,0),fun j=>if j=0 then Ik6 (r 2) (r 3) else if j<4 then (.zero,0) else vP X1 j⟩
abbrev rr (r:Int→Int) (v d:Int):Int→Int:=fun k=>if k=v then r k+d else r k
theorem VW.ext' {V V':VW} (h1:∀ j,V.S j=V'.S j) (h2:∀ j,V.F j=V'.F j) (h3:∀ j,V.P j=V'.P j):V=V':=by
 obtain ⟨a,b,c⟩:=V
 obtain ⟨a',b',c'⟩:=V'
 have e1:a=a':=funext h1
 have e2:b=b':=funext h2
 have e3:c=c':=funext h3
 rw [e1,e2,e3]
section
variable {ow:List Int} {h:ow.length=8} {r:Int→Int}
end
def cnt (v:Int):List Int→Int
 | []=>0
 | x::l=>(if x=v then 1 else 0)+cnt v l
theorem Gc6 (v:Int):∀ l:List Int,0≤cnt v l∧cnt v l≤l.length
 | []=>by simp [cnt]
 | x::l=>by
  have:=Gc6 v l
  unfold cnt;rw [List.length_cons];split<;>omega
theorem Hc1 (v:Int):∀ (l:List Int) (j:Nat),j<l.length→l.getD j 0=v→1≤cnt v l
 | [],j,h,_=>by simp at h
 | x::l,0,_,e=>by
  have:=Gc6 v l
  rw [List.getD_cons_zero] at e
  unfold cnt;rw [if_pos e];omega
 | x::l,j+1,h,e=>by
  rw [List.getD_cons_succ] at e
  have:=Hc1 v l j (by simpa using h) e
  unfold cnt;split<;>omega
theorem Ha9 (v w:Int):∀ (l:List Int) (j:Nat),j<l.length→cnt v (l.set j w)=cnt v l-(if l.getD j 0=v then 1 else 0)+(if w=v then 1 else 0)
 | [],j,h=>by simp at h
 | x::l,0,_=>by
  rw [List.set_cons_zero,List.getD_cons_zero,cnt,cnt];omega
 | x::l,j+1,h=>by
  have:=Ha9 v w l j (by simpa using h)
  rw [List.set_cons_succ,List.getD_cons_succ,cnt,cnt,this];omega
theorem Hu3 (l:List Int) (j n:Nat) (w:Int) (h:j<l.length):(l.set j w).getD n 0=if n=j then w else l.getD n 0:=by
 rw [List.getD_eq_getElem?_getD,List.getD_eq_getElem?_getD,List.getElem?_set]
 by_cases hj:j=n
 ·subst hj;simp [h]
 ·rw [if_neg hj,if_neg (fun e=>hj e.symm)]
structure Own8 (ow:List Int) (r:Int→Int):Prop where
 len:ow.length=8
 rng:∀ j:Nat,0≤ow.getD j 0∧ow.getD j 0≤3
 ct:∀ v:Int,1≤v→v≤3→r v=cnt v ow
theorem Own8.pos {ow:List Int} {r:Int→Int} (I:Own8 ow r) {j:Nat} (hj:j<8) (h:ow.getD j 0>0):1≤r (ow.getD j 0):=by
 rw [I.ct _ (by omega) (I.rng j).2];exact Hc1 _ _ j (by rw [I.len];exact hj) rfl
theorem Own8.nn {ow:List Int} {r:Int→Int} (I:Own8 ow r) {v:Int} (h:1≤v∧v≤3):0≤r v∧r v≤8:=by
 rw [I.ct v h.1 h.2];have:=Gc6 v ow;have:=I.len;omega
theorem Own8.set {ow:List Int} {r:Int→Int} (I:Own8 ow r) {j:Nat} (hj:j<8) {w:Int} (hw:0≤w∧w≤3) {r':Int→Int} (hr:∀ v:Int,1≤v→v≤3→r' v=r v-(if ow.getD j 0=v then 1 else 0)+(if w=v then 1 else 0)):Own8 (ow.set j w) r':=by
 refine ⟨by rw [List.length_set];exact I.len,fun n=>?_,fun v h1 h2=>?_⟩
 ·rw [Hu3 _ _ _ _ (by rw [I.len];exact hj)]
  split
  ·exact hw
  ·exact I.rng n
 ·rw [hr v h1 h2,Ha9 _ _ _ _ (by rw [I.len];exact hj),I.ct v h1 h2]
section
variable {ow:List Int} {h:ow.length=8} {r:Int→Int} (I:Own8 ow r)
include I
def r2 (r:Int→Int) (w v:Int):Int→Int:=rr (if w>0 then rr r w (-1) else r) v 1
end
def ow0:List Int:=[1,2,3,0,0,0,0,0]
def VD:VW:=Ij3 ow0 rfl (fun _=>1)
theorem Ii8:(D73 V1 0).1=O1 33 0 false:=by kernel_rfl
theorem Ik5:See (At3 X1 0).2 VD:=by
 refine (Id3.pipe (i:=0) (by omega)).2.to (fun j hj=>?_) (fun j hj=>?_) fun j hj=>?_
 ·have:j=0∨j=1∨j=2∨j=3∨j=4∨j=5∨j=6∨j=7:=by omega
  rcases this with rfl|rfl|rfl|rfl|rfl|rfl|rfl|rfl<;>(clear hj;show (_:ProcS × Int)=_;kernel_rfl)
 ·have:j=0∨j=1∨j=2∨j=3∨j=4∨j=5∨j=6∨j=7∨j=8∨j=9∨j=10∨j=11:=by omega
  rcases this with rfl|rfl|rfl|rfl|rfl|rfl|rfl|rfl|rfl|rfl|rfl|rfl<;>(clear hj;show (_:FileS × Int)=_;kernel_rfl)
 ·have:j=0∨j=1∨j=2∨j=3∨j=4∨j=5:=by omega
  rcases this with rfl|rfl|rfl|rfl|rfl|rfl<;>(clear hj;show (_:PipeS × Int)=_;kernel_rfl)
theorem Hu2:(At3 X1 0).1=O1 33 0 false:=(Id3.pipe (i:=0) (by omega)).1.trans Ii8
def XD:CX:=(At3 X1 0).2
theorem H06:See XD VD:=Ik5
theorem Ii3 {h:H} {ro:Bool} {e:TypeId} {sz:Nat} {a:Option Addr} {n c:Nat} {cs:List Value} {r:List HP} (m:Nat) (hm:m≤n) (o:Own h (slC ro e sz a n c cs::r)):Own h (slC ro e sz a m c (cs.take (m*sz))::r):=by
 cases a with
 | none =>
  obtain ⟨rfl,rfl,rfl,hs⟩:=o.slNone
  obtain rfl:m=0:=by omega
  simpa using o
 | some x =>
  obtain ⟨b,o',sp⟩:=x
  obtain ⟨pre,post,o2,h1,h2,h3,h4,h5,h6,h7⟩:=o.slOpen
  have hl:m*sz≤cs.length:=by rw [← h1];exact Nat.mul_le_mul_right _ hm
  have e1:pre++cs++post=pre++cs.take (m*sz)++(cs.drop (m*sz)++post):=by rw [List.append_assoc pre cs,List.append_assoc pre,← List.append_assoc (cs.take _),List.take_append_drop]
  rw [e1] at o2
  refine Own.slShut (b:=b) (o:=o') (sp:=sp) o2 ⟨by rw [List.length_take];omega,by omega,?_,h4,h5,h6,h7⟩
  rw [List.length_append,List.length_drop,← h1]
  have:(c-m)*sz=(c-n)*sz+(n*sz-m*sz):=by rw [← Nat.sub_mul,← Nat.add_mul];congr 1;omega
  omega
theorem If9 {h:H} {e:TypeId} {sz:Nat} {a:Option Addr} {n c:Nat} {cs:List Value} {r:List HP} (o:Own h (slC false e sz a n c cs::r)):Own h (slC false e sz (Bu5 a) n n cs::r):=by
 cases a with
 | none=>obtain ⟨rfl,rfl,rfl,hs⟩:=o.slNone;exact o
 | some x =>
  obtain ⟨b,o',sp⟩:=x
  obtain ⟨pre,post,o2,h1,h2,h3,h4,h5,h6,h7⟩:=o.slOpen
  refine Own.slShut (b:=b) (o:=o') (sp:=none) o2 ⟨h1,by omega,by simp,fun h=>h4 (by omega),fun h=>absurd rfl h,h6,fun h=>?_⟩
  rcases Nat.eq_zero_or_pos c with hc|hc
  ·exact h7 hc
  ·have:=h4 hc;omega
theorem Hr3 {l:List HP} {h:H} {α:Type} {Q:α→H→Prop} {ro:Bool} {e:TypeId} {sz:Nat} {a:Option Addr} {n c:Nat} {cs:List Value} {z:Option (α × H)} (i:Nat) (hi:l[i]?=some (slC ro e sz a n c cs)) (m:Nat) (cs':List Value) (hm:m≤n) (hc:cs.take (m*sz)=cs')
  (k:Tr (l.set i (slC ro e sz a m c cs')) h z Q):Tr l h z Q:=fun o=>by
 subst hc;exact k (Own.back (h:=h) hi (Ii3 m hm (o.front hi)))
theorem Hd9 (a:Option Addr) (n c:Nat) (cs:List Value):Ct A9 S4 [.slice a n c] [slC false A4 1 a n c cs] fun v own=>v=.slice (Bu5 a) n n∧own [slC false A4 1 (Bu5 a) n n cs]:=by
 refine Ct.of Dd6 rfl fun h r=>Tr.eq (Dg5 ..) ?_;refine Je ?_
 refine Q2 0 rfl fun hl hc _=>?_
 simp only [Int.toNat_natCast]
 (refine Ja ?_;unhygienic intros)
 refine Ys fun o=>?_
 refine ⟨?_,If9 o⟩
 simp
abbrev bytesN (p:PipeS) (i:Nat):List UInt8:=(List.range i).map fun (j:Nat)=>p.data.getD (((p.head+j)%32).toNat) 0
abbrev E1 (p:PipeS):List UInt8:=bytesN p p.count.toNat
theorem Ah0 {p:PipeS} (h:okP p=true):(0≤p.head∧p.head≤31)∧(0≤p.count∧p.count≤32)∧(0≤p.readers∧p.readers≤8)∧(0≤p.writers∧p.writers≤8):=by
 simp only [okP,Bool.and_eq_true,decide_eq_true_eq] at h;omega
theorem Hb2 {l:List UInt8} {j:Nat} (h:j<l.length):(A0 l)[j]?=some (.int .u8 (l.getD j 0).toNat):=by
 unfold A0
 rw [List.getElem?_map,List.getElem?_eq_getElem h,List.getD_eq_getElem?_getD,List.getElem?_eq_getElem h];rfl
theorem Hq9 (p:PipeS) {j:Nat} (h:j<32):(E3 p)[4+j]?=some (.int .u8 (p.data.getD j 0).toNat):=by
 rw [show 4+j=j+4 by omega]
 exact Hb2 (by rw [p.len];exact h)
theorem El1 (b:Nat) (p:PipeS) (hp:okP p=true):∀ (m i:Nat) (a:Option Addr) (ac:Nat),(i:Int)+m=p.count→CtJ I4 Aj2 Bc2 [(1,P0 b),(3,.slice a i ac),(9,int p.count),(10,int i)] [pt b (.cells B7 false (E3 p)),slC false A4 1 a i ac (A0 (bytesN p i))] fun v own =>
  ∃ a' c',v=.slice a' p.count.toNat c'∧own [slC false A4 1 a' p.count.toNat c' (A0 (E1 p))]
 | 0,i,a,ac,hi=>by
  obtain rfl:i=p.count.toNat:=by omega
  refine CtJ.of Dl2 fun h r=>Tr.eq (Dp9 ..) ?_;refine Je ?_
  refine Yf (by simp;omega) ?_
  refine Ys fun o=>?_
  exact ⟨a,ac,rfl,o.sub⟩
 | m+1,i,a,ac,hi=>by
  obtain ⟨r1,r2,r3,r4⟩:=Ah0 hp
  have e1:IntKind.wrap .i64 ((i:Int)+1)=((i+1:Nat):Int):=by rw [A8];omega
  have e2:IntKind.wrap .i64 (p.head+i)=p.head+i:=by rw [A8];omega
  have hg:=Hq9 p (j:=((p.head+i)%32).toNat) (by omega)
  refine CtJ.of Dl2 fun h r=>Tr.eq (Dp9 ..) ?_;refine Je ?_
  refine Yt (by simp;omega) ?_
  rw [e1]
  (refine Ja ?_;unhygienic intros)
  rw [e2,Hm3 (show 0≤p.head+(i:Int) by omega)]
  (refine Ja ?_;unhygienic intros)
  refine Q2 2 rfl fun hl hc _=>?_
  refine Tr.xApd (new:=A0 [p.data.getD (((p.head+i)%32).toNat) 0]) ⟨rfl,rfl,by simp only [B0];omega⟩ fun a2 c2 h=>?_
  have H:=El1 b p hp m (i+1) a2 c2 (by omega)
  refine (?_:Tr (pt b_1 _::pt b _::slC false A4 1 a2 (i+1) c2 (A0 (bytesN p i)++A0 [p.data.getD (((p.head+i)%32).toNat) 0])::_) _ _ _)
  rw [← Id2,show bytesN p i++[p.data.getD (((p.head+i)%32).toNat) 0]=bytesN p (i+1) by unfold bytesN;rw [List.range_succ,List.map_append];rfl]
  refine Ak4 [1,1] 1 rfl rfl ?_
  exact Yr H fun v h q=>q
theorem D69 (p:PipeS):(E1 p).length=p.count.toNat:=by simp [E1]
theorem Hp8 (p:PipeS) (hp:okP p=true):Ct A9 Aj2 [.agg ⟨E3 p⟩] [] fun v own=>∃ a c,v=.slice a p.count.toNat c∧own [slC false A4 1 a p.count.toNat c (A0 (E1 p))]:=by
 refine Ct.of Dl2 rfl fun h r=>Tr.eq (Gr3 ..) ?_;refine Je ?_
 (refine Ja ?_;unhygienic intros)
 refine Yc (Gt2 p) ?_;rintro _ h ⟨rfl,o⟩<;>refine Jh o ?_
 rw [hp]
 (refine Ja ?_;unhygienic intros)
 refine G5 false A4 1 (by omega) ?_
 have H:=fun b=>El1 b p hp p.count.toNat 0 none 0 (by have:=Ah0 hp;omega)
 refine (?_:Tr (slC false A4 1 none 0 0 (A0 (bytesN p 0))::_) _ _ _)
 exact Yr (H _) fun v h q=>q
abbrev A68 (p:PipeS) (m:Nat):PipeS:=if 0<m then ⟨(p.head+m)%32,p.count-m,p.readers,p.writers,p.data,p.len⟩ else p
theorem H20 (p:PipeS) (hp:okP p=true) (n:Int) (hn:0≤n∧n≤32):Ct A9 B50 [.agg ⟨E3 p⟩,int n] [] fun v own=>∃ a c,v=.tuple ⟨[.agg ⟨E3 (A68 p (min n.toNat p.count.toNat))⟩,.slice a (min n.toNat p.count.toNat) c]⟩∧own [slC false A4 1 a (min n.toNat p.count.toNat) c (A0 ((E1 p).take (min n.toNat p.count.toNat)))]:=by
 obtain ⟨r1,r2,r3,r4⟩:=Ah0 hp
 refine Ct.of G93 rfl fun h r=>Tr.eq (G58 ..) ?_;refine Je ?_
 (refine Ja ?_;unhygienic intros)
 refine Yc (Hp8 p hp) ?_
 rintro _ h ⟨a,c,rfl,o⟩
 refine Jh o ?_
 refine Tr.dx ?_
 simp only [Y7,Q0]
 have e:min (max n 0) ((p.count.toNat:Nat):Int)=((min n.toNat p.count.toNat:Nat):Int):=by omega
 have hle:min n.toNat p.count.toNat≤p.count.toNat:=by omega
 rw [e]
 simp only [Int.toNat_natCast]
 generalize min n.toNat p.count.toNat=m at hle
 refine Q2 0 rfl fun hl hc _=>?_
 (refine Ja ?_;unhygienic intros)
 refine Hr3 0 rfl m (A0 ((E1 p).take m)) hle (by rw [Nat.mul_one,Ib0]) ?_
 refine (?_:Tr (slC false A4 1 a m c (A0 ((E1 p).take m))::_::_::_) _ _ _)
 by_cases hm:0<m
 ·rw [show A68 p m=⟨(p.head+m)%32,p.count-m,p.readers,p.writers,p.data,p.len⟩ from if_pos hm]
  refine Yt (by simpa using hm) ?_
  (refine Ja ?_;unhygienic intros)
  rw [show Int.tmod (IntKind.wrap .i64 (p.head+m)) 32=(p.head+m)%32 by rw [show IntKind.wrap .i64 (p.head+m)=p.head+m by rw [A8];omega,Hm3 (show 0≤p.head+(m:Int) by omega)],show IntKind.wrap .i64 (p.count-m)=p.count-m by rw [A8];omega]
  refine (?_:Tr (_::_::pt _ (.cells B7 false (E3 ⟨(p.head+m)%32,p.count-m,p.readers,p.writers,p.data,p.len⟩))::_) _ _ _)
  generalize (⟨(p.head+m)%32,p.count-m,p.readers,p.writers,p.data,p.len⟩:PipeS)=q
  (refine Ja ?_;unhygienic intros)
  refine Yc (Hd9 a m c (A0 ((E1 p).take m))) ?_;rintro _ h ⟨rfl,o⟩<;>refine Jh o ?_
  (refine Ja ?_;unhygienic intros)
  refine Ys fun o=>?_
  exact ⟨Bu5 a,m,rfl,o.sub⟩
 ·rw [show A68 p m=p from if_neg hm]
  refine Yf (by simpa using hm) ?_
  (refine Ja ?_;unhygienic intros)
  refine Yc (Hd9 a m c (A0 ((E1 p).take m))) ?_;rintro _ h ⟨rfl,o⟩<;>refine Jh o ?_
  (refine Ja ?_;unhygienic intros)
  refine Ys fun o=>?_
  exact ⟨Bu5 a,m,rfl,o.sub⟩
theorem Hu7 (p:PipeS) {j:Nat} (h:j<32) (x:UInt8):B33 (E3 p) (4+j) (.int .u8 x.toNat)=some (E3 ⟨p.head,p.count,p.readers,p.writers,p.data.set j x,by rw [List.length_set];exact p.len⟩):=by
 have e:Nat.blt (4+j) (E3 p).length=true:=by rw [Ab0 p.len];exact Nat.ble_eq_true_of_le (by omega)
 unfold B33
 rw [e,show 4+j=j+4 by omega]
 show some ((E3 p).set (j+4) _)=_
 simp only [E3,List.set_cons_succ,A0,List.map_set]
abbrev Ar7 (p:PipeS) (b:UInt8):PipeS:=⟨p.head,p.count+1,p.readers,p.writers,p.data.set (((p.head+p.count)%32).toNat) b,by rw [List.length_set];exact p.len⟩
def H1:PipeS→List UInt8→PipeS × Int
 | p,[]=>(p,0)
 | p,b::l=>if p.count=32 then (p,0) else ((H1 (Ar7 p b) l).1,(H1 (Ar7 p b) l).2+1)
theorem Dr2:∀ (l:List UInt8) (p:PipeS),0≤(H1 p l).2∧(H1 p l).2≤l.length
 | [],p=>by simp [H1]
 | b::l,p=>by
  have:=Dr2 l (Ar7 p b)
  unfold H1;split<;>simp<;>omega
theorem E05 {p:PipeS} (h:okP p=true) (hc:p.count≠32) (b:UInt8):okP (Ar7 p b)=true:=by
 have:=Ah0 h
 simp only [okP,Bool.and_eq_true,decide_eq_true_eq] at h ⊢;omega
theorem E29 (b1 b2:Nat) (pb:HP) (a:Option Addr) (ro:Bool) (cc:Nat) (l:List UInt8) (hl:l.length≤1000) [ks:IsSl pb a ro A4 1 l.length cc (A0 l)] (z:PipeS):∀ (m i:Nat) (n:Int) (p:PipeS),okP p=true→i+m=l.length→0≤n→n≤i →
  CtJ I4 An7 Bn3 [(2,P0 b1),(4,P0 b2),(6,int n),(13,.slice a l.length cc),(14,int l.length),(15,int i)] [pt b1 (.cells B7 false (E3 p)),pt b2 (.cells B7 false (E3 z)),pb] fun v own =>
   v=.tuple ⟨[.agg ⟨E3 (H1 p (l.drop i)).1⟩,int (n+(H1 p (l.drop i)).2)]⟩∧own [pb]
 | 0,i,n,p,hp,hi,h0,hn=>by
  rw [List.drop_eq_nil_of_le (by omega),show H1 p []=(p,0) from rfl,Int.add_zero]
  refine CtJ.of D28 fun h r=>Tr.eq (Ea0 ..) ?_;refine Je ?_
  refine Yf (by simp;omega) ?_
  (refine Ja ?_;unhygienic intros)
  refine Ys fun o=>?_
  exact ⟨rfl,o.sub⟩
 | m+1,i,n,p,hp,hi,h0,hn=>by
  obtain ⟨r1,r2,r3,r4⟩:=Ah0 hp
  have hil:i<l.length:=by omega
  have hg:=Hb2 hil
  have hd:l.drop i=l.getD i 0::l.drop (i+1):=by
   rw [List.drop_eq_getElem_cons hil,List.getD_eq_getElem?_getD,List.getElem?_eq_getElem hil];rfl
  rw [hd,H1]
  generalize l.getD i 0=x at hg
  have e1:IntKind.wrap .i64 ((i:Int)+1)=((i+1:Nat):Int):=by rw [A8];omega
  have e2:IntKind.wrap .i64 (n+1)=n+1:=by rw [A8];omega
  refine CtJ.of D28 fun h r=>Tr.eq (Ea0 ..) ?_;refine Je ?_
  refine Yt (by simp;omega) ?_
  rw [e1,e2]
  simp only [Int.toNat_natCast]
  (refine Ja ?_;unhygienic intros;repeat(refine Gw ?_;rintro px rfl;refine Ja ?_;unhygienic intros))
  by_cases hc:p.count=32
  ·rw [if_pos hc]
   refine Yt (by simpa using hc) ?_
   (refine Ja ?_;unhygienic intros)
   refine Ys fun o=>?_
   rw [Int.add_zero]
   exact ⟨rfl,o.sub⟩
  rw [if_neg hc]
  refine Yf (by simpa using hc) ?_
  have e3:Int.tmod (IntKind.wrap .i64 (p.head+p.count)) 32=(p.head+p.count)%32:=by
   rw [show IntKind.wrap .i64 (p.head+p.count)=p.head+p.count by rw [A8];omega,Hm3 (show 0≤p.head+p.count by omega)]
  have hs:=Hu7 p (j:=((p.head+p.count)%32).toNat) (by omega) x
  have H:=E29 b1 b2 pb (some px) ro cc l hl z m (i+1) (n+1) (Ar7 p x) (E05 hp hc x) (by omega) (by omega) (by omega)
  (refine Ja ?_;unhygienic intros)
  rw [e3]
  (refine Ja ?_;unhygienic intros)
  dsimp only
  rw [show IntKind.wrap .i64 (p.count+1)=p.count+1 by rw [A8];omega]
  refine (?_:Tr (pt b1 (.cells B7 false (E3 (Ar7 p x)))::pt b2 (.cells B7 false (E3 z))::pb::_) _ _ _)
  refine Yr H ?_
  intro v h q
  obtain ⟨rfl,o⟩:=q
  exact ⟨by rw [Int.add_right_comm,Int.add_assoc],o⟩
theorem Gf4 (p:PipeS) (hp:okP p=true) (pb:HP) (a:Option Addr) (ro:Bool) (cc:Nat) (l:List UInt8) (hl:l.length≤1000) [ks:IsSl pb a ro A4 1 l.length cc (A0 l)] :
  Ct A9 An7 [.agg ⟨E3 p⟩,.slice a l.length cc] [pb] fun v own=>v=.tuple ⟨[.agg ⟨E3 (H1 p l).1⟩,int (H1 p l).2]⟩∧own [pb]:=by
 refine Ct.of D28 rfl fun h r=>Tr.eq (Hg5 ..) ?_;refine Je ?_
 (refine Ja ?_;unhygienic intros)
 refine Yc (Gt2 p) ?_;rintro _ h ⟨rfl,o⟩<;>refine Jh o ?_
 rw [hp]
 (refine Ja ?_;unhygienic intros)
 have H:=fun b1 b2=>E29 b1 b2 pb a ro cc l hl .zero l.length 0 0 p hp (by omega) (by omega) (by omega)
 rw [List.drop_zero,Int.zero_add] at H
 refine (?_:Tr (pt _ (.cells B7 false (E3 .zero))::pt _ (.cells B7 false (E3 p))::pb::_) _ _ _)
 exact Yr (H _ _) fun v h q=>q
abbrev vT (X:CX):PipeS × Int:=P3 (rd X ⟨4,0⟩)
theorem Hz1 {nc:Nat}:Rin nc ⟨4,0⟩:=⟨by simp,by simp,by simp,by simp [U4]⟩
theorem Ge7 {nc:Nat} {X:CX} (c:Clean nc X) {i:Int} (h:0≤i∧i<3+nc) {q:PipeS} (ok:okP q=true):vT (A16 X i q)=vT X:=by
 have hl:(I0 q).length=Ac0 (3:Int):=by rw [Ax3 q.len];rfl
 show P3 (rd _ _)=_
 rw [Aj4 c (Bd1 h) Hz1 hl,if_neg (by simp)]
theorem Bo3 (e:Int):Ct A9 O2 [int e] [] fun v own=>v=.agg ⟨O1 0 e false⟩∧own []:=by
 refine Ct.of G30 rfl fun h r=>Tr.eq (Gq2 ..) ?_;refine Je ?_
 (refine Ja ?_;unhygienic intros)
 refine Ys fun o=>?_
 exact ⟨rfl,o.tail⟩
theorem Ew4 (f:FileS):Ct A9 At0 [.agg ⟨Ai1 f⟩] [] fun v own=>v=.agg ⟨if f.flags=1 then O1 0 111 false else O1 0 0 true⟩∧own []:=by
 refine Ct.of Gm2 rfl fun h r=>Tr.eq (Go1 ..) ?_;refine Je ?_
 (refine Jb ?_;unhygienic intros)
 by_cases h1:f.flags=1
 ·rw [if_pos h1]
  refine Yt (by simpa using h1) ?_
  refine Yc (Bo3 111) ?_;rintro _ h ⟨rfl,o⟩<;>(refine Jf o ?_;unhygienic intros)
  refine Ys fun o=>?_
  exact ⟨rfl,o.sub⟩
 ·rw [if_neg h1]
  refine Yf (by simpa using h1) ?_
  (refine Ja ?_;unhygienic intros)
  refine Ys fun o=>?_
  exact ⟨rfl,o.sub⟩
abbrev De5 (b b1:Nat):Value:=.func (.func A34) ⟨[]⟩ ⟨[P0 b,P0 b1]⟩
theorem Ga5 (c k b b1:Nat) (F:Fr) (X:CX) (ok:FrOk F) (f:FileS) (q:PipeS):Ct A9 A34 [.agg ⟨E3 q⟩,P0 b,P0 b1] [cmC c k F X,pt b (.cells N7 false [P0 c]),pt b1 (.cells D2 false (Ai1 f))] fun v own =>
  v=.bool (A74 X f.pipe q).1∧own [cmC c k F (A74 X f.pipe q).2,pt b (.cells N7 false [P0 c]),pt b1 (.cells D2 false (Ai1 f))]:=by
 refine Ct.of Gr9 rfl fun h r=>Tr.eq (Gu7 ..) ?_;refine Je ?_
 (refine Ja ?_;unhygienic intros)
 refine Yc (Eu0 c k F X ok f.pipe q) ?_;rintro _ h ⟨rfl,o⟩<;>(refine Jf o ?_;unhygienic intros)
 refine Ys fun o=>?_
 exact ⟨rfl,o.sub⟩
def Aj5 (q:PipeS) (v:Value):List Value:=E3 q++[v]
theorem Di7 (q:PipeS) (v:Value):(Aj5 q v).length=37:=by unfold Aj5;rw [List.length_append,Ab0 q.len];rfl
theorem Hx9 (q:PipeS) (x:Fn) (y z:Array Value):(Aj5 q (.func x y z)).all Value.oneCell=true:=by unfold Aj5;rw [List.all_append,Gh4];rfl
instance {q:PipeS} {v:Value}:LenC (Aj5 q v) 37:=⟨Di7 q v⟩
instance {q:PipeS} {v:Value}:PartC (Aj5 q v) 0 37 (Aj5 q v):=⟨B60 (Di7 q v)⟩
instance {q:PipeS} {v:Value}:PartC (Aj5 q v) 0 36 (E3 q):=⟨by
 unfold Dc4
 rw [Nat.ble_eq_true_of_le (by rw [Di7];omega),List.drop_zero]
 unfold Aj5
 rw [List.take_left' (Ab0 q.len)];rfl⟩
instance {q:PipeS} {x:Fn} {y z:Array Value} {cs:List Value} [k:LenC cs 37]:SetsC cs 0 (Aj5 q (.func x y z)) (Aj5 q (.func x y z)):=⟨Bf5 k.ok (Di7 q _) (Hx9 q x y z)⟩
theorem Hu9 (c k:Nat) (F:Fr) (X:CX) (ok:FrOk F) {nc:Nat} (cl:Clean nc X) (f:FileS) (h3:f.kind≠3) (hp:0≤f.pipe∧f.pipe<3+nc):Ct A9 Bv8 [P0 c,.agg ⟨Ai1 f⟩] [cmC c k F X] fun v own =>
  ∃ b b1,v=.tuple ⟨[.agg ⟨Aj5 (vP X f.pipe).1 (De5 b b1)⟩,.bool ((vP X f.pipe).2==1)]⟩∧own [cmC c k F X,pt b (.cells N7 false [P0 c]),pt b1 (.cells D2 false (Ai1 f))]:=by
 refine Ct.of Hg7 rfl fun h r=>Tr.eq (Hm6 ..) ?_;refine Je ?_
 refine Yn fun b h=>?_
 refine Yn fun b1 h=>?_
 refine Yn fun b2 h=>?_
 (refine Ja ?_;unhygienic intros)
 refine Yf (by simpa using h3) ?_
 (refine Ja ?_;unhygienic intros)
 refine Yc (Ez3 c k F X ok f.pipe) ?_;rintro _ h ⟨rfl,o⟩<;>refine Jh o ?_
 rw [Ds8 cl hp]
 dsimp only
 generalize (vP X f.pipe).1=q
 (refine Jc ?_;unhygienic intros)
 refine Yn fun b3 h=>?_
 (refine Jc ?_;unhygienic intros)
 refine Tr.ck (Di7 q _) ?_
 refine (?_:Tr _ _ (pAgg ⟨b2,0,none⟩ (Aj5 q (De5 b b1)) _ _) _)
 (refine Ja ?_;unhygienic intros)
 refine Ys fun o=>?_
 exact ⟨b,b1,rfl,o.sub⟩
def W6 (V:VW) (i fd n:Int):FileS × Int :=
 if (ofW V i fd).2≠0 then ((ofW V i fd).1.2,(ofW V i fd).2)
 else if (ofW V i fd).1.2.kind=2 then ((ofW V i fd).1.2,109)
 else if n<0∨n>32 then ((ofW V i fd).1.2,122)
 else ((ofW V i fd).1.2,0)
theorem Ig1 (c k:Nat) (F:Fr) (X:CX) (ok:FrOk F) (V:VW) (A:See X V) (i fd n:Int) (hi:0≤i∧i<8) (h3:(ofW V i fd).1.2.kind≠3):Ct A9 B42 [P0 c,int i,int fd,int n] [cmC c k F X] fun v own=>v=.tuple ⟨[.agg ⟨Ai1 (W6 V i fd n).1⟩,int (W6 V i fd n).2]⟩∧own [cmC c k F X]:=by
 have eo:=A.ofv hi fd
 unfold W6
 refine Ct.of G39 rfl fun h r=>Tr.eq (G95 ..) ?_;refine Je ?_
 refine Yn fun b0 h=>?_
 refine Yc (H66 c k F X ok A.c i fd hi) ?_;rintro _ h ⟨rfl,o⟩<;>refine Jh o ?_
 rw [eo]
 (refine Jc ?_;unhygienic intros)
 refine Yn fun b1 h=>?_
 (refine Jb ?_;unhygienic intros)
 generalize (ofW V i fd).1.2=x at *
 generalize (ofW V i fd).2=e at *
 by_cases h1:e=0
 case neg =>
  rw [if_pos h1]
  refine Yt (by simpa using h1) ?_
  (refine Ja ?_;unhygienic intros)
  refine Ys fun o=>?_
  exact ⟨rfl,o.sub⟩
 have n1:¬ e≠0:=by simpa using h1
 rw [if_neg n1]
 refine Yf (by simpa using h1) ?_
 (refine Ja ?_;unhygienic intros)
 by_cases h2:x.kind=2
 ·rw [if_pos h2]
  refine Yt (by simpa using h2) ?_
  (refine Ja ?_;unhygienic intros)
  refine Ys fun o=>?_
  exact ⟨rfl,o.sub⟩
 rw [if_neg h2]
 refine Yf (by simpa using h2) ?_
 by_cases h4:n<0
 ·rw [if_pos (.inl h4)]
  refine Yb (Yt (by simpa using h4) ?_)
  refine Ys fun o=>(?_:Tr _ _ _ _) o;refine Je ?_
  refine Yt rfl ?_
  (refine Ja ?_;unhygienic intros)
  refine Ys fun o=>?_
  exact ⟨rfl,o.sub⟩
 refine Yb (Yf (by simpa using h4) ?_)
 refine Ys fun o=>(?_:Tr _ _ _ _) o;refine Je ?_
 by_cases h5:n>32
 ·rw [if_pos (.inr h5)]
  refine Yt (by simpa using h5) ?_
  (refine Ja ?_;unhygienic intros)
  refine Ys fun o=>?_
  exact ⟨rfl,o.sub⟩
 rw [if_neg (fun h=>h.elim h4 h5)]
 refine Yf (by simpa using h5) ?_
 (refine Ja ?_;unhygienic intros)
 refine Yf (by simpa using h3) ?_
 (refine Ja ?_;unhygienic intros)
 refine Ys fun o=>?_
 exact ⟨rfl,o.sub⟩
structure RdS where
 bs:List UInt8
 e:Int
 blk:Bool
def A47 (V:VW) (i fd n:Int):RdS × VW :=
 if (W6 V i fd n).2≠0∨n=0 then (⟨[],(W6 V i fd n).2,false⟩,V)
 else if (V.P (W6 V i fd n).1.pipe).2≠1 then (⟨[],105,false⟩,V)
 else if (V.P (W6 V i fd n).1.pipe).1.count=0 then
  if (W6 V i fd n).1.kind=1∧(V.P (W6 V i fd n).1.pipe).1.writers=0 then (⟨[],0,false⟩,V)
  else if (W6 V i fd n).1.flags=1 then (⟨[],111,false⟩,V) else (⟨[],0,true⟩,V)
 else (⟨(E1 (V.P (W6 V i fd n).1.pipe).1).take (min n.toNat (V.P (W6 V i fd n).1.pipe).1.count.toNat),0,false⟩,
  wP V (W6 V i fd n).1.pipe (A68 (V.P (W6 V i fd n).1.pipe).1 (min n.toNat (V.P (W6 V i fd n).1.pipe).1.count.toNat)))
theorem Gx7 {p:PipeS} (h:okP p=true) {m:Nat} (hm:m≤p.count.toNat):okP (A68 p m)=true:=by
 have:=Ah0 h
 unfold A68
 split
 ·simp only [okP,Bool.and_eq_true,decide_eq_true_eq];omega
 ·exact h
theorem Ey0 (c k:Nat) (F:Fr) (X:CX) (ok:FrOk F) (V:VW) (A:See X V) (i fd n:Int) (hi:0≤i∧i<8) (h3:(ofW V i fd).1.2.kind≠3) (hp:(W6 V i fd n).2=0→0≤(W6 V i fd n).1.pipe∧(W6 V i fd n).1.pipe<6) :
  Ct A9 A13 [P0 c,int i,int fd,int n] [cmC c k F X] fun v own=>∃ a cap X',See X' (A47 V i fd n).2∧vT X'=vT X ∧
   v=.agg ⟨[int (A47 V i fd n).1.bs.length,int (A47 V i fd n).1.e,.slice a (A47 V i fd n).1.bs.length cap,.bool (A47 V i fd n).1.blk]⟩ ∧
   own [cmC c k F X',slC false A4 1 a (A47 V i fd n).1.bs.length cap (A0 (A47 V i fd n).1.bs)]:=by
 have nil:∀ {h:NN.H} {r:List HP},Own h (cmC c k F X::r)→Own h (cmC c k F X::slC false A4 1 none 0 0 (A0 [])::r):=fun o=>(o.slNil false A4 (by omega)).perm (List.Perm.swap _ _ _)
 have hk3:(W6 V i fd n).2=0→(W6 V i fd n).1.kind≠3:=by
  intro h;unfold W6 at h ⊢;repeat' split
  all_goals exact h3
 have hn:(W6 V i fd n).2=0→0≤n∧n≤32:=by
  intro h;unfold W6 at h
  split at h
  ·rename_i h1;exact absurd h h1
  ·split at h
   ·cases h
   ·split at h
    ·cases h
    ·omega
 unfold A47
 refine Ct.of G14 rfl fun h r=>Tr.eq (G04 ..) ?_;refine Je ?_
 refine Yn fun b0 h=>?_
 refine Yc (Ig1 c k F X ok V A i fd n hi h3) ?_;rintro _ h ⟨rfl,o⟩<;>refine Jh o ?_
 generalize (W6 V i fd n).1=x at *
 generalize (W6 V i fd n).2=e at *
 (refine Jc ?_;unhygienic intros)
 refine Yn fun b1 h=>?_
 (refine Jb ?_;unhygienic intros)
 by_cases h1:e≠0∨n=0
 ·rw [if_pos h1]
  have hg:∀ {h:NN.H} {r:List HP},Tr (pt b1 (.cells D2 false (Ai1 x))::cmC c k F X::pt b0 (.cells Y4 false (O1 0 0 false))::r) h (bnd (A9 O2 [int e] h) fun r_3 hv_5=>aAgg r_3 fun x_2=>ck (List.length x_2=4) (pAgg ⟨b0,0,none⟩ x_2 hv_5 fun hv_6=>gAgg ⟨b0,0,none⟩ 4 hv_6 fun x_3=>some (Value.agg ⟨x_3⟩,hv_6)))
   fun (v:Value) h'=>∃ a cap X',See X' V∧vT X'=vT X∧v=.agg ⟨[int 0,int e,.slice a 0 cap,.bool false]⟩∧Own h' (cmC c k F X'::slC false A4 1 a 0 cap (A0 [])::r):=by
   intro h r
   refine Yc (Bo3 e) ?_;rintro _ h ⟨rfl,o⟩<;>(refine Jf o ?_;unhygienic intros)
   refine Ys fun o=>?_
   exact ⟨none,0,X,A,rfl,rfl,nil o.sub⟩
  by_cases h2:e=0
  ·refine Yb (Yf (by simpa using h2) ?_)
   refine Ys fun o=>(?_:Tr _ _ _ _) o;refine Je ?_
   refine Yt (by simpa using h1.resolve_left (by simpa using h2)) ?_
   exact hg
  ·refine Yb (Yt (by simpa using h2) ?_)
   refine Ys fun o=>(?_:Tr _ _ _ _) o;refine Je ?_
   refine Yt rfl ?_
   exact hg
 rw [if_neg h1]
 have h2:e=0:=Classical.byContradiction fun h=>h1 (.inl h)
 have h0:n≠0:=fun h=>h1 (.inr h)
 have hpx:=hp h2
 have hnn:=hn h2
 have hkk:=hk3 h2
 subst h2
 refine Yb (Yf rfl ?_)
 refine Ys fun o=>(?_:Tr _ _ _ _) o;refine Je ?_
 refine Yf (by simpa using h0) ?_
 (refine Ja ?_;unhygienic intros)
 refine Yc (Hu9 c k F X ok A.c x hkk (by omega)) ?_
 rintro _ h ⟨b,b2,rfl,o⟩
 refine Jh o ?_
 have hvp:=A.p x.pipe hpx
 rw [hvp]
 have hq:(V.P x.pipe).2=1→okP (V.P x.pipe).1=true:=fun h=>by
  rcases H68 A.c (i:=x.pipe) (by omega) with ⟨h6,_⟩|⟨_,h6⟩
  ·rw [hvp,h] at h6;cases h6
  ·rw [hvp] at h6;exact h6
 generalize hqq:(V.P x.pipe).1=q at *
 generalize (V.P x.pipe).2=st at *
 (refine Jc ?_;unhygienic intros)
 refine Yn fun b3 h=>?_
 (refine Jb ?_;unhygienic intros)
 by_cases h5:st=1
 case neg =>
  rw [if_pos h5]
  refine Yt (by simpa using h5) ?_
  refine Yc (Bo3 105) ?_;rintro _ h ⟨rfl,o⟩<;>(refine Jf o ?_;unhygienic intros)
  refine Ys fun o=>?_
  exact ⟨none,0,X,A,rfl,rfl,nil o.sub⟩
 have n5:¬ st≠1:=by simpa using h5
 rw [if_neg n5]
 refine Yf (by simpa using h5) ?_
 replace hq:=hq h5
 obtain ⟨r1,r2,r3,r4⟩:=Ah0 hq
 (refine Jb ?_;unhygienic intros)
 by_cases h6:q.count=0
 ·rw [if_pos h6]
  refine Yb (Yt (by simpa using h6) ?_)
  (refine Jb ?_;unhygienic intros)
  have hw:∀ {h:NN.H} {r:List HP},Tr (pt b3 (.cells Bu2 false (Aj5 q (De5 b b2)))::cmC c k F X::pt b (.cells N7 false [P0 c])::pt b2 (.cells D2 false (Ai1 x))::pt b1 (.cells D2 false (Ai1 x))::pt b0 (.cells Y4 false (O1 0 0 false))::r) h
    (gAgg ⟨b1,0,none⟩ 4 h fun x_14=>bnd (A9 At0 [.agg ⟨x_14⟩] h) fun r_8 hv_15=>aAgg r_8 fun x_15=>ck (List.length x_15=4) (pAgg ⟨b0,0,none⟩ x_15 hv_15 fun hv_16=>gAgg ⟨b0,0,none⟩ 4 hv_16 fun x_16=>some (Value.agg ⟨x_16⟩,hv_16)))
    fun (v:Value) h'=>∃ a cap X',See X' (if x.flags=1 then ((⟨[],111,false⟩:RdS),V) else (⟨[],0,true⟩,V)).2∧vT X'=vT X∧v=.agg ⟨[int (if x.flags=1 then ((⟨[],111,false⟩:RdS),V) else (⟨[],0,true⟩,V)).1.bs.length,int (if x.flags=1 then ((⟨[],111,false⟩:RdS),V) else (⟨[],0,true⟩,V)).1.e,.slice a (if x.flags=1 then ((⟨[],111,false⟩:RdS),V) else (⟨[],0,true⟩,V)).1.bs.length cap,.bool (if x.flags=1 then ((⟨[],111,false⟩:RdS),V) else (⟨[],0,true⟩,V)).1.blk]⟩∧Own h' (cmC c k F X'::slC false A4 1 a (if x.flags=1 then ((⟨[],111,false⟩:RdS),V) else (⟨[],0,true⟩,V)).1.bs.length cap (A0 (if x.flags=1 then ((⟨[],111,false⟩:RdS),V) else (⟨[],0,true⟩,V)).1.bs)::r):=by
   intro h r
   (refine Ja ?_;unhygienic intros)
   refine Yc (Ew4 x) ?_;rintro _ h ⟨rfl,o⟩<;>refine Jh o ?_
   by_cases h7:x.flags=1
   ·rw [if_pos h7]
    (refine Ja ?_;unhygienic intros)
    refine Ys fun o=>?_
    rw [if_pos h7]
    exact ⟨none,0,X,A,rfl,rfl,nil o.sub⟩
   ·rw [if_neg h7]
    (refine Ja ?_;unhygienic intros)
    refine Ys fun o=>?_
    rw [if_neg h7]
    exact ⟨none,0,X,A,rfl,rfl,nil o.sub⟩
  by_cases h8:x.kind=1
  ·by_cases h9:q.writers=0
   ·rw [if_pos ⟨h8,h9⟩]
    refine Ys fun o=>(?_:Tr _ _ _ _) o;refine Je ?_
    refine Yb (Yt (by simpa using h8) ?_)
    (refine Jb ?_;unhygienic intros)
    refine Ys fun o=>(?_:Tr _ _ _ _) o;refine Je ?_
    refine Yt (by simpa using h9) ?_
    (refine Ja ?_;unhygienic intros)
    refine Ys fun o=>?_
    exact ⟨none,0,X,A,rfl,rfl,nil o.sub⟩
   ·rw [if_neg (fun h=>h9 h.2)]
    refine Ys fun o=>(?_:Tr _ _ _ _) o;refine Je ?_
    refine Yb (Yt (by simpa using h8) ?_)
    (refine Jb ?_;unhygienic intros)
    refine Ys fun o=>(?_:Tr _ _ _ _) o;refine Je ?_
    refine Yf (by simpa using h9) ?_
    (refine Jb ?_;unhygienic intros)
    refine Yt (by simpa using h6) ?_
    exact hw
  ·rw [if_neg (fun h=>h8 h.1)]
   refine Ys fun o=>(?_:Tr _ _ _ _) o;refine Je ?_
   refine Yb (Yf (by simpa using h8) ?_)
   refine Ys fun o=>(?_:Tr _ _ _ _) o;refine Je ?_
   refine Yf rfl ?_
   (refine Jb ?_;unhygienic intros)
   refine Yt (by simpa using h6) ?_
   exact hw
 rw [if_neg h6]
 refine Yb (Yf (by simpa using h6) ?_)
 refine Ys fun o=>(?_:Tr _ _ _ _) o;refine Je ?_
 refine Yb (Yf rfl ?_)
 refine Ys fun o=>(?_:Tr _ _ _ _) o;refine Je ?_
 refine Yf rfl ?_
 (refine Jb ?_;unhygienic intros)
 refine Yf (by simpa using h6) ?_
 (refine Ja ?_;unhygienic intros)
 refine Yc (H20 q hq n hnn) ?_
 rintro _ h ⟨a,cap,rfl,o⟩
 refine Jh o ?_
 have hm:min n.toNat q.count.toNat≤q.count.toNat:=by omega
 have hlen:((E1 q).take (min n.toNat q.count.toNat)).length=min n.toNat q.count.toNat:=by
  rw [List.length_take,D69];omega
 rw [hlen]
 have hok:=Gx7 hq hm
 generalize min n.toNat q.count.toNat=m at *
 obtain ⟨w1,_⟩:=A17 A.c (i:=x.pipe) (by omega) hok
 have hwp:=A.wp hpx hok
 have hvt:=Ge7 A.c (i:=x.pipe) (by omega) hok
 generalize A68 q m=q2 at *
 have hfv:(Aj5 q (De5 b b2))[36]?=some (De5 b b2):=by
  unfold Aj5;rw [List.getElem?_append_right (by rw [Ab0 q.len];exact Nat.le_refl _),Ab0 q.len];rfl
 (refine Jc ?_;unhygienic intros)
 refine Yn fun b4 h=>?_
 (refine Ja ?_;unhygienic intros)
 simp only [List.nil_append]
 refine Yc (Ga5 c k b b2 F X ok x q2) ?_;rintro _ h ⟨rfl,o⟩<;>refine Jh o ?_
 rw [w1]
 dsimp only
 (refine Ja ?_;unhygienic intros)
 refine Ys fun o=>?_
 exact ⟨a,cap,A16 X x.pipe q2,hwp,hvt,rfl,o.sub⟩
structure WrS where
 n:Int
 e:Int
 blk:Bool
def B55 (V:VW) (i fd:Int) (l:List UInt8):WrS × VW :=
 if (ofW V i fd).2≠0 then (⟨0,(ofW V i fd).2,false⟩,V)
 else if (ofW V i fd).1.2.kind≠2 then (⟨0,109,false⟩,V)
 else if l.length>32 then (⟨0,122,false⟩,V)
 else if l.length=0 then (⟨0,0,false⟩,V)
 else if (V.P (ofW V i fd).1.2.pipe).2≠1 then (⟨0,105,false⟩,V)
 else if 32-(V.P (ofW V i fd).1.2.pipe).1.count=0∨l.length≤8∧32-(V.P (ofW V i fd).1.2.pipe).1.count<l.length then
  if (ofW V i fd).1.2.flags=1 then (⟨0,111,false⟩,V) else (⟨0,0,true⟩,V)
 else (⟨(H1 (V.P (ofW V i fd).1.2.pipe).1 l).2,0,false⟩,wP V (ofW V i fd).1.2.pipe (H1 (V.P (ofW V i fd).1.2.pipe).1 l).1)
theorem Dk3:∀ (l:List UInt8) (p:PipeS),okP p=true→okP (H1 p l).1=true
 | [],p,h=>h
 | b::l,p,h=>by
  unfold H1
  split
  ·exact h
  ·rename_i hc;exact Dk3 l _ (E05 h hc b)
abbrev wrL (w:WrS):List Value:=O1 w.n w.e w.blk
theorem Gg1 (c k:Nat) (F:Fr) (X:CX) (ok:FrOk F) (V:VW) (A:See X V) (i fd:Int) (hi:0≤i∧i<8) (hp:(ofW V i fd).2=0→(ofW V i fd).1.2.kind=2→0≤(ofW V i fd).1.2.pipe∧(ofW V i fd).1.2.pipe<6∧(V.P (ofW V i fd).1.2.pipe).1.readers≠0)
  (pb:HP) (a:Option Addr) (ro:Bool) (cc:Nat) (l:List UInt8) (hl:l.length≤B0) [ks:IsSl pb a ro A4 1 l.length cc (A0 l)] :
  Ct A9 A91 [P0 c,int i,int fd,.slice a l.length cc] [cmC c k F X,pb] fun v own=>∃ X',See X' (B55 V i fd l).2∧vT X'=vT X∧v=.agg ⟨wrL (B55 V i fd l).1⟩∧own [cmC c k F X',pb]:=by
 have eo:=A.ofv hi fd
 unfold B55
 refine Ct.of Gm8 rfl fun h r=>Tr.eq (Gl4 ..) ?_;refine Je ?_
 refine Yn fun b0 h=>?_
 refine Yc (H66 c k F X ok A.c i fd hi) ?_;rintro _ h ⟨rfl,o⟩<;>refine Jh o ?_
 rw [eo]
 (refine Jc ?_;unhygienic intros)
 refine Yn fun b1 h=>?_
 (refine Jb ?_;unhygienic intros)
 generalize (ofW V i fd).1.2=x at *
 generalize (ofW V i fd).2=e at *
 by_cases h1:e=0
 case neg =>
  rw [if_pos h1]
  refine Yt (by simpa using h1) ?_
  refine Yc (Bo3 e) ?_;rintro _ h ⟨rfl,o⟩<;>(refine Jf o ?_;unhygienic intros)
  refine Ys fun o=>?_
  exact ⟨X,A,rfl,rfl,o.sub⟩
 have n1:¬ e≠0:=by simpa using h1
 rw [if_neg n1]
 refine Yf (by simpa using h1) ?_
 (refine Jb ?_;unhygienic intros)
 by_cases h2:x.kind=2
 case neg =>
  rw [if_pos h2]
  refine Yt (by simpa using h2) ?_
  refine Yc (Bo3 109) ?_;rintro _ h ⟨rfl,o⟩<;>(refine Jf o ?_;unhygienic intros)
  refine Ys fun o=>?_
  exact ⟨X,A,rfl,rfl,o.sub⟩
 have n2:¬ x.kind≠2:=by simpa using h2
 rw [if_neg n2]
 refine Yf (by simpa using h2) ?_
 obtain ⟨hp0,hp6,hrd⟩:=hp h1 h2
 by_cases h3:l.length>32
 ·rw [if_pos h3]
  refine Yt (by rw [decide_eq_true_iff];omega) ?_
  refine Yc (Bo3 122) ?_;rintro _ h ⟨rfl,o⟩<;>(refine Jf o ?_;unhygienic intros)
  refine Ys fun o=>?_
  exact ⟨X,A,rfl,rfl,o.sub⟩
 rw [if_neg h3]
 refine Yf (by rw [decide_eq_false_iff_not];omega) ?_
 by_cases h4:l.length=0
 ·rw [if_pos h4]
  refine Yt (by rw [beq_iff_eq];omega) ?_
  (refine Ja ?_;unhygienic intros)
  refine Ys fun o=>?_
  exact ⟨X,A,rfl,rfl,o.sub⟩
 rw [if_neg h4]
 refine Yf (by rw [beq_eq_false_iff_ne];omega) ?_
 (refine Ja ?_;unhygienic intros)
 refine Yc (Hu9 c k F X ok A.c x (by omega) (by omega)) ?_
 rintro _ h ⟨b,b2,rfl,o⟩
 refine Jh o ?_
 have hvp:=A.p x.pipe ⟨hp0,hp6⟩
 rw [hvp]
 have hq:(V.P x.pipe).2=1→okP (V.P x.pipe).1=true:=fun h=>by
  rcases H68 A.c (i:=x.pipe) (by omega) with ⟨h6,_⟩|⟨_,h6⟩
  ·rw [hvp,h] at h6;cases h6
  ·rw [hvp] at h6;exact h6
 generalize hqq:(V.P x.pipe).1=q at *
 generalize (V.P x.pipe).2=st at *
 (refine Jc ?_;unhygienic intros)
 refine Yn fun b3 h=>?_
 (refine Jb ?_;unhygienic intros)
 by_cases h5:st=1
 case neg =>
  rw [if_pos h5]
  refine Yt (by simpa using h5) ?_
  refine Yc (Bo3 105) ?_;rintro _ h ⟨rfl,o⟩<;>(refine Jf o ?_;unhygienic intros)
  refine Ys fun o=>?_
  exact ⟨X,A,rfl,rfl,o.sub⟩
 have n5:¬ st≠1:=by simpa using h5
 rw [if_neg n5]
 refine Yf (by simpa using h5) ?_
 replace hq:=hq h5
 obtain ⟨r1,r2,r3,r4⟩:=Ah0 hq
 have e1:IntKind.wrap .i64 (32-q.count)=32-q.count:=by rw [A8];omega
 (refine Jb ?_;unhygienic intros)
 refine Yf (by simpa using hrd) ?_
 (refine Jb ?_;unhygienic intros)
 rw [e1]
 by_cases a1:32-q.count=0
 ·rw [if_pos (.inl a1)]
  refine Yb (Yt (by rw [beq_iff_eq];exact a1) ?_)
  refine Ys fun o=>(?_:Tr _ _ _ _) o;refine Je ?_
  refine Yt rfl ?_
  (refine Ja ?_;unhygienic intros)
  refine Yc (Ew4 x) ?_;rintro _ h ⟨rfl,o⟩<;>refine Jh o ?_
  by_cases h7:x.flags=1
  ·rw [if_pos h7,if_pos h7]
   (refine Ja ?_;unhygienic intros)
   refine Ys fun o=>?_
   exact ⟨X,A,rfl,rfl,o.sub⟩
  ·rw [if_neg h7,if_neg h7]
   (refine Ja ?_;unhygienic intros)
   refine Ys fun o=>?_
   exact ⟨X,A,rfl,rfl,o.sub⟩
 refine Yb (Yf (by rw [beq_eq_false_iff_ne];exact a1) ?_)
 by_cases a2:l.length≤8
 ·by_cases a3:32-q.count<l.length
  ·rw [if_pos (.inr ⟨a2,a3⟩)]
   refine Yb (Yt (by rw [decide_eq_true_iff];omega) ?_)
   refine Ys fun o=>(?_:Tr _ _ _ _) o;refine Je ?_
   refine Ys fun o=>(?_:Tr _ _ _ _) o;refine Je ?_
   refine Yt (by rw [decide_eq_true_iff];exact a3) ?_
   (refine Ja ?_;unhygienic intros)
   refine Yc (Ew4 x) ?_;rintro _ h ⟨rfl,o⟩<;>refine Jh o ?_
   by_cases h7:x.flags=1
   ·rw [if_pos h7,if_pos h7]
    (refine Ja ?_;unhygienic intros)
    refine Ys fun o=>?_
    exact ⟨X,A,rfl,rfl,o.sub⟩
   ·rw [if_neg h7,if_neg h7]
    (refine Ja ?_;unhygienic intros)
    refine Ys fun o=>?_
    exact ⟨X,A,rfl,rfl,o.sub⟩
  ·rw [if_neg (fun h=>h.elim a1 fun h=>a3 h.2)]
   refine Yb (Yt (by rw [decide_eq_true_iff];omega) ?_)
   refine Ys fun o=>(?_:Tr _ _ _ _) o;refine Je ?_
   refine Ys fun o=>(?_:Tr _ _ _ _) o;refine Je ?_
   refine Yf (by rw [decide_eq_false_iff_not];exact a3) ?_
   (refine Ja ?_;unhygienic intros)
   refine Yc (Gf4 q hq pb a ro cc l (by omega)) ?_;rintro _ h ⟨rfl,o⟩<;>refine Jh o ?_
   have hok:=Dk3 l q hq
   obtain ⟨w1,_⟩:=A17 A.c (i:=x.pipe) (by omega) hok
   have hwp:=A.wp ⟨hp0,hp6⟩ hok
   have hvt:=Ge7 A.c (i:=x.pipe) (by omega) hok
   generalize (H1 q l).1=q2 at *
   have hfv:(Aj5 q (De5 b b2))[36]?=some (De5 b b2):=by
    unfold Aj5;rw [List.getElem?_append_right (by rw [Ab0 q.len];exact Nat.le_refl _),Ab0 q.len];rfl
   (refine Jc ?_;unhygienic intros)
   refine Yn fun b4 h=>?_
   (refine Ja ?_;unhygienic intros)
   simp only [List.nil_append]
   refine Yc (Ga5 c k b b2 F X ok x q2) ?_;rintro _ h ⟨rfl,o⟩<;>refine Jh o ?_
   rw [w1]
   dsimp only
   (refine Ja ?_;unhygienic intros)
   refine Ys fun o=>?_
   exact ⟨A16 X x.pipe q2,hwp,hvt,rfl,o.sub⟩
 ·rw [if_neg (fun h=>h.elim a1 fun h=>a2 h.1)]
  refine Yb (Yf (by rw [decide_eq_false_iff_not];omega) ?_)
  refine Ys fun o=>(?_:Tr _ _ _ _) o;refine Je ?_
  refine Ys fun o=>(?_:Tr _ _ _ _) o;refine Je ?_
  refine Yf rfl ?_
  (refine Ja ?_;unhygienic intros)
  refine Yc (Gf4 q hq pb a ro cc l (by omega)) ?_;rintro _ h ⟨rfl,o⟩<;>refine Jh o ?_
  have hok:=Dk3 l q hq
  obtain ⟨w1,_⟩:=A17 A.c (i:=x.pipe) (by omega) hok
  have hwp:=A.wp ⟨hp0,hp6⟩ hok
  have hvt:=Ge7 A.c (i:=x.pipe) (by omega) hok
  generalize (H1 q l).1=q2 at *
  have hfv:(Aj5 q (De5 b b2))[36]?=some (De5 b b2):=by
   unfold Aj5;rw [List.getElem?_append_right (by rw [Ab0 q.len];exact Nat.le_refl _),Ab0 q.len];rfl
  (refine Jc ?_;unhygienic intros)
  refine Yn fun b4 h=>?_
  (refine Ja ?_;unhygienic intros)
  simp only [List.nil_append]
  refine Yc (Ga5 c k b b2 F X ok x q2) ?_;rintro _ h ⟨rfl,o⟩<;>refine Jh o ?_
  rw [w1]
  dsimp only
  (refine Ja ?_;unhygienic intros)
  refine Ys fun o=>?_
  exact ⟨A16 X x.pipe q2,hwp,hvt,rfl,o.sub⟩
theorem Gj5 (l:List UInt8) (j n:Nat) (x:UInt8) (h:j<l.length):(l.set j x).getD n 0=if n=j then x else l.getD n 0:=by
 rw [List.getD_eq_getElem?_getD,List.getD_eq_getElem?_getD,List.getElem?_set]
 by_cases hj:j=n
 ·subst hj;simp [h]
 ·rw [if_neg hj,if_neg (fun e=>hj e.symm)]
theorem Hf5 {p:PipeS} (hp:okP p=true) (hc:p.count≠32) (b:UInt8):E1 (Ar7 p b)=E1 p++[b]:=by
 obtain ⟨r1,r2,r3,r4⟩:=Ah0 hp
 have hl:=p.len
 have hj:((p.head+p.count)%32).toNat<p.data.length:=by rw [hl];omega
 have e:(Ar7 p b).count.toNat=p.count.toNat+1:=by show (p.count+1).toNat=_;omega
 unfold E1
 rw [e]
 unfold bytesN
 rw [List.range_succ,List.map_append]
 congr 1
 ·refine List.map_congr_left fun j hj2=>?_
  have:=List.mem_range.1 hj2
  show (p.data.set _ b).getD (((p.head+j)%32).toNat) 0=_
  rw [Gj5 _ _ _ _ hj,if_neg (by omega)]
 ·show [(p.data.set _ b).getD (((p.head+(p.count.toNat:Nat))%32).toNat) 0]=[b]
  rw [Gj5 _ _ _ _ hj,if_pos (by rw [show ((p.count.toNat:Nat):Int)=p.count by omega])]
theorem Gk8:∀ (l:List UInt8) (p:PipeS),okP p=true→(H1 p l).2=min (l.length:Int) (32-p.count)∧(H1 p l).1.count=p.count+(H1 p l).2∧E1 (H1 p l).1=E1 p++l.take (H1 p l).2.toNat∧(H1 p l).1.readers=p.readers∧(H1 p l).1.writers=p.writers
 | [],p,h=>by
  have:=Ah0 h
  refine ⟨by show (0:Int)=min ((([]:List UInt8).length:Nat):Int) (32-p.count);rw [List.length_nil];omega,by simp [H1],by simp [H1],rfl,rfl⟩
 | b::l,p,h=>by
  have hr:=Ah0 h
  unfold H1
  by_cases hc:p.count=32
  ·rw [if_pos hc]
   refine ⟨by simp;omega,by simp,by simp,rfl,rfl⟩
  ·rw [if_neg hc]
   obtain ⟨h1,h2,h3,h4,h5⟩:=Gk8 l (Ar7 p b) (E05 h hc b)
   have hn:=Dr2 l (Ar7 p b)
   have hk:(Ar7 p b).count=p.count+1:=rfl
   refine ⟨?_,?_,?_,h4,h5⟩
   ·show (H1 (Ar7 p b) l).2+1=_
    rw [h1,hk,List.length_cons];omega
   ·show (H1 (Ar7 p b) l).1.count=p.count+((H1 (Ar7 p b) l).2+1)
    rw [h2,hk];omega
   ·show E1 (H1 (Ar7 p b) l).1=E1 p++(b::l).take ((H1 (Ar7 p b) l).2+1).toNat
    rw [h3,Hf5 h hc,show ((H1 (Ar7 p b) l).2+1).toNat=(H1 (Ar7 p b) l).2.toNat+1 by omega,List.take_succ_cons]
    simp
theorem Hf6 {p:PipeS} (hp:okP p=true) {m:Nat} (hm:m≤p.count.toNat):E1 (A68 p m)=(E1 p).drop m∧(A68 p m).count=p.count-m∧(A68 p m).readers=p.readers∧(A68 p m).writers=p.writers:=by
 obtain ⟨r1,r2,r3,r4⟩:=Ah0 hp
 by_cases h0:0<m
 case neg =>
  obtain rfl:m=0:=by omega
  rw [show A68 p 0=p from if_neg h0]
  exact ⟨by simp,by simp,rfl,rfl⟩
 rw [show A68 p m=⟨(p.head+m)%32,p.count-m,p.readers,p.writers,p.data,p.len⟩ from if_pos h0]
 refine ⟨?_,rfl,rfl,rfl⟩
 unfold E1 bytesN
 dsimp only
 rw [← List.map_drop,List.range_eq_range' ,List.range_eq_range',List.drop_range',Nat.mul_one,Nat.zero_add]
 rw [show (p.count-(m:Int)).toNat=p.count.toNat-m by omega]
 rw [show List.range' m (p.count.toNat-m)=(List.range' 0 (p.count.toNat-m)).map fun j=>m+j by rw [List.map_add_range'];rfl]
 rw [List.map_map]
 refine List.map_congr_left fun j hj=>?_
 show p.data.getD ((((p.head+m)%32+j)%32).toNat) 0=p.data.getD (((p.head+((m+j:Nat):Int))%32).toNat) 0
 congr 1
 omega
theorem G57 (c k:Nat) (F:Fr) (X:CX) (ok:FrOk F) (p:PipeS):Ct A9 N3 [P0 c,.agg ⟨E3 p⟩] [cmC c k F X] fun v own=>v=.bool (B05 X p).1∧own [cmC c k F (B05 X p).2]:=by
 refine Ct.of De0 rfl fun h r=>Tr.eq (Df8 ..) ?_;refine Je ?_
 (refine Ja ?_;unhygienic intros)
 refine Yc (D89 p) ?_
 rintro v h (⟨hk,a,rfl,o⟩|⟨hk,rfl,o⟩)
 ·refine (?_:Tr _ _ _ _) o
  refine Je ?_
  (refine Ja ?_;unhygienic intros)
  have J:=B63 c k F X ⟨4,0⟩ ok (I0 p) true a 40 (fun _=>Ax3 p.len)
  rw [Ax3 p.len] at J
  refine Yc (J) ?_;rintro _ h ⟨rfl,o⟩<;>(refine Jf o ?_;unhygienic intros)
  refine Ys fun o=>?_
  unfold B05;rw [hk]
  exact ⟨rfl,o.sub⟩
 ·refine (?_:Tr _ _ _ _) o
  refine Je ?_
  (refine Ja ?_;unhygienic intros)
  refine Yc (Df4 c k F X ⟨4,0⟩ ok) ?_;rintro _ h ⟨rfl,o⟩<;>(refine Jf o ?_;unhygienic intros)
  refine Ys fun o=>?_
  unfold B05;rw [hk,Ee4]
  exact ⟨rfl,o.sub⟩
theorem Ij2 {nc:Nat} {X:CX} (c:Clean nc X):((vT X).2=0∧(vT X).1=.zero)∨((vT X).2=1∧okP (vT X).1=true):=by
 have:=c.ok ⟨4,0⟩ (by simp) (by simp) (by simp) (by simp [U4])
 have hk:(vT X).2≠2:=this
 unfold vT P3 at hk ⊢
 split
 ·exact .inl ⟨rfl,rfl⟩
 ·split
  ·rename_i h2
   unfold isP at h2
   simp only [Bool.and_eq_true] at h2
   exact .inr ⟨rfl,h2.1⟩
  ·rename_i h1 h2;simp [h1,h2] at hk
theorem G73 {nc:Nat} {X:CX} (c:Clean nc X):D31 X=(vT X,X):=Bs5 P3 .zero c Hz1 rfl
abbrev Ic3 (X:CX) (p:PipeS):CX:=Bp8 X ⟨4,0⟩ (I0 p)
theorem Gf3 {nc:Nat} {X:CX} (c:Clean nc X) {p:PipeS} (ok:okP p=true):B05 X p=(true,Ic3 X p):=by
 unfold B05;rw [ok];exact Bs7 c Hz1 _
theorem Hz9 (c k:Nat) (F:Fr) (X:CX) (ok:FrOk F) {nc:Nat} (cl:Clean nc X) (ht:(vT X).2=1) (pb:HP) (a:Option Addr) (ro:Bool) (cc:Nat) (l:List UInt8) (hl:l.length≤1000) [ks:IsSl pb a ro A4 1 l.length cc (A0 l)] :
  Ct A9 Bw6 [P0 c,.slice a l.length cc] [cmC c k F X,pb] fun v own=>v=int (H1 (vT X).1 l).2∧own [cmC c k F (Ic3 X (H1 (vT X).1 l).1),pb]:=by
 have hq:okP (vT X).1=true:=by
  rcases Ij2 cl with ⟨h,_⟩|⟨_,h⟩
  ·rw [ht] at h;cases h
  ·exact h
 have hw:=Gf3 cl (Dk3 l _ hq)
 refine Ct.of Gv3 rfl fun h r=>Tr.eq (Gu9 ..) ?_;refine Je ?_
 refine Yc (Hb3 c k F X ok) ?_;rintro _ h ⟨rfl,o⟩<;>refine Jh o ?_
 rw [E79 cl]
 (refine Ja ?_;unhygienic intros)
 refine Yc (Gr1 c k F X ok) ?_;rintro _ h ⟨rfl,o⟩<;>refine Jh o ?_
 rw [G73 cl]
 dsimp only
 rw [ht]
 generalize (vT X).1=q at *
 (refine Jc ?_;unhygienic intros)
 refine Yn fun b1 h=>?_
 (refine Jb ?_;unhygienic intros)
 refine Yf rfl ?_
 (refine Jb ?_;unhygienic intros)
 refine Yc (Gf4 q hq pb a ro cc l hl) ?_;rintro _ h ⟨rfl,o⟩<;>refine Jh o ?_
 generalize (H1 q l).1=q2 at *
 (refine Jc ?_;unhygienic intros)
 refine Yn fun b2 h=>?_
 (refine Jb ?_;unhygienic intros)
 refine Yc (G57 c k F X ok q2) ?_;rintro _ h ⟨rfl,o⟩<;>refine Jh o ?_
 rw [hw]
 dsimp only
 (refine Jb ?_;unhygienic intros)
 refine Ys fun o=>?_
 exact ⟨rfl,o.sub⟩
theorem of2:ofW VD 0 2=((2,⟨2,0,1,0⟩),0):=by kernel_rfl
theorem vTD:(vT XD).2=1∧(vT XD).1.count=0:=⟨by kernel_rfl,by kernel_rfl⟩
def VA1:VW:=(B55 VD 0 2 [7,8,9]).2
def VA2:VW:=(A47 VA1 0 1 8).2
theorem aw1:(B55 VD 0 2 [7,8,9]).1=⟨3,0,false⟩:=by kernel_rfl
theorem aw2:(A47 VA1 0 1 8).1=⟨[7,8,9],0,false⟩:=by kernel_rfl
theorem aw3:(A47 VA2 0 1 8).1=⟨[],0,true⟩:=by kernel_rfl
theorem E38:Ct A9 A89 [] [] fun v own=>v=.bool true∧own []:=by
 refine Ct.of Go5 rfl fun h r=>Tr.eq (Gl7 ..) ?_;refine Je ?_
 refine Yc (Gv2) ?_;rintro _ h ⟨a,rfl,o⟩<;>refine Jh o ?_
 (refine Ja ?_;unhygienic intros)
 refine Yc (Hd8 a) ?_
 rintro _ h ⟨k,c,w,m,K',rfl,o⟩
 refine Jh o ?_
 (refine Ja ?_;unhygienic intros)
 refine Yc (Ex8 c k F1 X1 B45 Ez5 0 (by omega)) ?_;rintro _ h ⟨rfl,o⟩<;>refine Jh o ?_
 rw [Hu2,show (At3 X1 0).2=XD from rfl]
 (refine Jc ?_;unhygienic intros)
 refine Yn fun b0 h=>?_
 refine Ah6 0 rfl 1 3 rfl (by omega) ?_
 have J:=Gg1 c k F1 XD B45 VD H06 0 2 (by omega) (fun _ _=>by rw [of2];exact ⟨by decide,by decide,by rw [show (VD.P (⟨2,0,1,0⟩:FileS).pipe).1.readers=1 by kernel_rfl];decide⟩) (slC false A4 1 (some ⟨b0,0,none⟩) 3 3 (A0 [7,8,9])) (some ⟨b0,0,none⟩) false 3 [7,8,9] (by simp [B0])
 rw [aw1] at J
 refine (?_:Tr (slC false A4 1 (some ⟨b0,0,none⟩) 3 3 (A0 [7,8,9])::cmC c k F1 XD::_) _ _ _)
 refine Yc J ?_
 rintro _ h ⟨XA,s1,t1,rfl,o⟩
 refine Jh o ?_
 (refine Jc ?_;unhygienic intros)
 refine Yn fun b1 h=>?_
 (refine Ja ?_;unhygienic intros)
 have o1:(ofW VA1 0 1)=((1,⟨1,0,1,0⟩),0):=by kernel_rfl
 have m1:W6 VA1 0 1 8=(⟨1,0,1,0⟩,0):=by kernel_rfl
 have J:=Ey0 c k F1 XA B45 VA1 s1 0 1 8 (by omega) (by rw [o1];decide) (fun _=>by rw [m1];exact ⟨by decide,by decide⟩)
 rw [aw2] at J
 refine Yc J ?_
 rintro _ h ⟨a2,cap,XB,s2,t2,rfl,o⟩
 refine Jh o ?_
 (refine Jc ?_;unhygienic intros)
 refine Yn fun b2 h=>?_
 (refine Ja ?_;unhygienic intros)
 have o1:(ofW VA2 0 1)=((1,⟨1,0,1,0⟩),0):=by kernel_rfl
 have m1:W6 VA2 0 1 8=(⟨1,0,1,0⟩,0):=by kernel_rfl
 have J:=Ey0 c k F1 XB B45 VA2 s2 0 1 8 (by omega) (by rw [o1];decide) (fun _=>by rw [m1];exact ⟨by decide,by decide⟩)
 rw [aw3] at J
 refine Yc J ?_
 rintro _ h ⟨a3,cap3,XC,s3,t3,rfl,o⟩
 refine Jh o ?_
 (refine Jc ?_;unhygienic intros)
 refine Yn fun b3 h=>?_
 (refine Jb ?_;unhygienic intros)
 refine Yb (Yt rfl ?_)
 (refine Jb ?_;unhygienic intros)
 refine Ys fun o=>(?_:Tr _ _ _ _) o;refine Je ?_
 refine Yb (Yt rfl ?_)
 (refine Jb ?_;unhygienic intros)
 refine Ys fun o=>(?_:Tr _ _ _ _) o;refine Je ?_
 refine Yb (Yt (by simp) ?_)
 (refine Jb ?_;unhygienic intros)
 refine Ys fun o=>(?_:Tr _ _ _ _) o;refine Je ?_
 refine Yb (Yt rfl ?_)
 refine Yn fun b4 h=>?_
 refine Ah6 0 rfl 1 1 rfl (by omega) ?_
 have ht:vT XC=vT XD:=t3.trans (t2.trans t1)
 have J:=Hz9 c k F1 XC B45 s3.c (by rw [ht];exact vTD.1) (slC false A4 1 (some ⟨b4,0,none⟩) 1 1 (A0 [1])) (some ⟨b4,0,none⟩) false 1 [1] (by simp)
 have hT:(H1 (vT XD).1 [1]).2=1:=by
  unfold H1;rw [if_neg (by rw [vTD.2];decide)];rfl
 rw [ht,hT] at J
 refine (?_:Tr (slC false A4 1 (some ⟨b4,0,none⟩) 1 1 (A0 [1])::_::cmC c k F1 XC::_) _ _ _)
 refine Yc J ?_
 rintro _ h ⟨rfl,o⟩
 refine Jh o ?_
 (refine Jb ?_;unhygienic intros)
 refine Ys fun o=>(?_:Tr _ _ _ _) o;refine Je ?_
 refine Ys fun o=>?_
 exact ⟨rfl,o.sub⟩
theorem Dk9 (V:VW) (j:Int) (q:PipeS) (i fd:Int):ofW (wP V j q) i fd=ofW V i fd:=rfl
theorem Hy9 (V:VW) (j:Int) (q:PipeS):(wP V j q).P j=(q,1):=by
 show (if j=j then (q,(1:Int)) else V.P j)=_
 rw [if_pos rfl]
theorem H61 (V:VW) (j:Int) (q q':PipeS):wP (wP V j q) j q'=wP V j q':=by
 refine VW.ext' (fun _=>rfl) (fun _=>rfl) fun n=>?_
 show (if n=j then _ else if n=j then _ else _)=if n=j then _ else _
 by_cases h:n=j
 ·rw [if_pos h,if_pos h]
 ·rw [if_neg h,if_neg h,if_neg h]
theorem Hd3 {V:VW} {j:Int} {q:PipeS} (h:V.P j=(q,1)):wP V j q=V:=by
 refine VW.ext' (fun _=>rfl) (fun _=>rfl) fun n=>?_
 show (if n=j then _ else _)=_
 by_cases hn:n=j
 ·rw [if_pos hn,hn,h]
 ·rw [if_neg hn]
section
variable {V:VW} {i fd f r fl j:Int} {q:PipeS}
theorem Ie8 (ho:ofW V i fd=((f,⟨2,j,r,fl⟩),0)) (l:List UInt8) (hl:l.length≤32):B55 (wP V j q) i fd l=if l.length=0 then (⟨0,0,false⟩,wP V j q) else if 32-q.count=0∨l.length≤8∧32-q.count<l.length then (if fl=1 then (⟨0,111,false⟩,wP V j q) else (⟨0,0,true⟩,wP V j q)) else (⟨(H1 q l).2,0,false⟩,wP V j (H1 q l).1):=by
 unfold B55
 rw [Dk9,ho]
 dsimp only
 rw [Hy9]
 rw [if_neg (by simp),if_neg (by simp),if_neg (by omega)]
 by_cases h0:l.length=0
 ·rw [if_pos h0,if_pos h0]
 ·rw [if_neg h0,if_neg h0,if_neg (by simp),H61]
theorem H82 (ho:ofW V i fd=((f,⟨1,j,r,fl⟩),0)) {n:Int} (hn:0≤n∧n≤32):W6 (wP V j q) i fd n=(⟨1,j,r,fl⟩,0):=by
 unfold W6
 rw [Dk9,ho]
 dsimp only
 rw [if_neg (by simp),if_neg (by simp),if_neg (by omega)]
theorem If2 (ho:ofW V i fd=((f,⟨1,j,r,fl⟩),0)) {n:Int} (hn:0≤n∧n≤32):A47 (wP V j q) i fd n=if n=0 then (⟨[],0,false⟩,wP V j q) else if q.count=0 then (if q.writers=0 then (⟨[],0,false⟩,wP V j q) else if fl=1 then (⟨[],111,false⟩,wP V j q) else (⟨[],0,true⟩,wP V j q)) else (⟨(E1 q).take (min n.toNat q.count.toNat),0,false⟩,wP V j (A68 q (min n.toNat q.count.toNat))):=by
 unfold A47
 rw [H82 ho hn]
 dsimp only
 rw [Hy9]
 by_cases h0:n=0
 ·rw [if_pos (.inr h0),if_pos h0]
 ·rw [if_neg (fun h=>h.elim (by simp) h0),if_neg h0,if_neg (by simp)]
  dsimp only
  by_cases h1:q.count=0
  ·rw [if_pos h1,if_pos h1]
   by_cases h2:q.writers=0
   ·rw [if_pos ⟨rfl,h2⟩,if_pos h2]
   ·rw [if_neg (fun h=>h2 h.2),if_neg h2]
  ·rw [if_neg h1,if_neg h1,H61]
end
theorem Id5 {V:VW} {i fd f r fl j:Int} {q:PipeS} (ho:ofW V i fd=((f,⟨1,j,r,fl⟩),0)):(ofW (wP V j q) i fd).1.2.kind≠3:=by rw [Dk9,ho];simp
theorem Ii7 {V:VW} {i fd f r fl j:Int} (n:Int) {q:PipeS} (ho:ofW V i fd=((f,⟨1,j,r,fl⟩),0)) (hj:0≤j∧j<6):(W6 (wP V j q) i fd n).2=0→0≤(W6 (wP V j q) i fd n).1.pipe∧(W6 (wP V j q) i fd n).1.pipe<6:=by
 intro _
 unfold W6
 rw [Dk9,ho]
 dsimp only
 rw [if_neg (by simp),if_neg (by simp)]
 split<;>exact hj
theorem Ij1 {V:VW} {i fd f r fl j:Int} {q:PipeS} (ho:ofW V i fd=((f,⟨2,j,r,fl⟩),0)) (hj:0≤j∧j<6) (hq:q.readers≠0):(ofW (wP V j q) i fd).2=0→(ofW (wP V j q) i fd).1.2.kind=2→0≤(ofW (wP V j q) i fd).1.2.pipe∧(ofW (wP V j q) i fd).1.2.pipe<6∧((wP V j q).P (ofW (wP V j q) i fd).1.2.pipe).1.readers≠0:=fun _ _=>by
 rw [Dk9,ho]
 dsimp only
 rw [Hy9]
 exact ⟨hj.1,hj.2,hq⟩
def VF1:VW:=(Ih5 VD 0).2
def VF (f t:Int):VW:=(Ax2 (Ax2 VF1 f 1).2 t 2).2
structure FtOk (f t:Int):Prop where
 rf:0≤f∧f<8
 rt:0≤t∧t<8
 c1:(Ax2 VF1 f 1).1=O1 0 0 false
 c2:(Ax2 (Ax2 VF1 f 1).2 t 2).1=O1 0 0 false
 p0:(VF f t).P 0=(Ai7,1)
 o1:ofW (VF f t) f 2=((2,⟨2,0,1,0⟩),0)
 o2:ofW (VF f t) t 1=((1,⟨1,0,1,0⟩),0)
 o3:ofW (VF f t) f 1=((0,.zero),109)
 o4:ofW (VF f t) t 2=((0,.zero),109)
 c5:∀ hd d dl,(Ax2 (wP (VF f t) 0 ⟨hd,0,1,1,d,dl⟩) f 2).1=O1 0 0 false
 o6:∀ hd d dl,ofW (Ax2 (wP (VF f t) 0 ⟨hd,0,1,1,d,dl⟩) f 2).2 t 1=((1,⟨1,0,1,0⟩),0)
 r6:∀ hd d dl,(A47 (Ax2 (wP (VF f t) 0 ⟨hd,0,1,1,d,dl⟩) f 2).2 t 1 5).1=⟨[],0,false⟩
def U1 (V:VW) (hd:Int) (d:List UInt8) (dl:d.length=32):List Value × VW:=Ax2 (wP V 0 ⟨hd,0,1,0,d,dl⟩) 0 1
def U2 (V:VW) (hd:Int) (d:List UInt8) (dl:d.length=32):List Value × VW:=D73 (U1 V hd d dl).2 0
def U3 (V:VW) (hd:Int) (d:List UInt8) (dl:d.length=32):List Value × VW:=Ax2 (U2 V hd d dl).2 0 1
structure EndOk (V:VW):Prop where
 o1:ofW V 0 1=((1,⟨1,0,1,0⟩),0)
 u1:∀ hd d dl,(U1 V hd d dl).1=O1 0 0 false
 u2:∀ hd d dl,(U2 V hd d dl).1=O1 33 0 false
 u3:∀ hd d dl,(U3 V hd d dl).1=O1 0 0 false
 o2:∀ hd d dl,ofW (U3 V hd d dl).2 0 2=((2,⟨2,0,1,0⟩),0)
 p0:∀ hd d dl,(U3 V hd d dl).2.P 0=(Ie7 Ai7,1)
 s1:∀ hd d dl,(Al5 (U3 V hd d dl).2 0).2=0
 s2:∀ hd d dl,((U3 V hd d dl).2.S 0).1.pending=0
 s3:∀ hd d dl,((U3 V hd d dl).2.S 0).1.ignored=0
 s4:∀ hd d dl,((U3 V hd d dl).2.S 0).1.state=1
structure OpS where
 k:Int
 i:Int
 a:Int
 b:Int
 d:List UInt8
abbrev opL (g:Option Addr × Nat) (x:OpS):List Value:=[int x.k,int x.i,int x.a,int x.b,.slice g.1 x.d.length g.2]
abbrev opF (g:Option Addr × Nat) (x:OpS):HP:=slC true A4 1 g.1 x.d.length g.2 (A0 x.d)
def Gb2 (gs:List (Option Addr × Nat)) (xs:List OpS):List Value:=(List.zip gs xs).flatMap fun p=>opL p.1 p.2
theorem Gx9:∀ (gs:List (Option Addr × Nat)) (xs:List OpS),gs.length=xs.length→(Gb2 gs xs).length=xs.length*5
 | [],[],_=>rfl
 | g::gs,x::xs,h=>by
  have:=Gx9 gs xs (by simpa using h)
  simp only [Gb2,List.zip_cons_cons,List.flatMap_cons,List.length_append] at this ⊢
  rw [this];simp;omega
theorem Hb7:∀ (gs:List (Option Addr × Nat)) (xs:List OpS) (i:Nat) (g:Option Addr × Nat) (x:OpS),gs[i]?=some g→xs[i]?=some x→((Gb2 gs xs).drop (i*5)).take 5=opL g x
 | g'::gs,x'::xs,0,g,x,h,h2=>by
  simp at h h2;subst h;subst h2
  simp [Gb2]
 | g'::gs,x'::xs,i+1,g,x,h,h2=>by
  have:=Hb7 gs xs i g x (by simpa using h) (by simpa using h2)
  rw [← this]
  have e:(i+1)*5=5+i*5:=by omega
  rw [e,← List.drop_drop]
  simp [Gb2]
theorem Hw1 (l:List UInt8) (b e:Nat):ByteArray.extract (bs l) b e=bs ((l.take e).drop b):=by
 apply ByteArray.ext
 rw [ByteArray.data_extract]
 apply Array.ext'
 rw [Array.toList_extract]
 simp [List.extract,List.drop_take]
theorem Ig7 {V:VW} {i fd f r j n:Int} {q:PipeS} (hq:okP q=true) (hw:q.writers≠0) (ho:ofW V i fd=((f,⟨1,j,r,0⟩),0)) (hn:0≤n∧n≤32) :
  ∃ q',A47 (wP V j q) i fd n=(⟨(E1 q).take (min n.toNat q.count.toNat),0,decide (q.count=0∧n>0)⟩,wP V j q')∧okP q'=true∧q'.readers=q.readers∧q'.writers=q.writers∧E1 q'=(E1 q).drop (min n.toNat q.count.toNat)∧q'.count=q.count-(min n.toNat q.count.toNat:Nat):=by
 have hr:=Ah0 hq
 rw [If2 ho hn]
 by_cases h0:n=0
 ·subst h0
  rw [if_pos rfl,show min (0:Int).toNat q.count.toNat=0 by simp]
  exact ⟨q,by rw [decide_eq_false (by omega)];simp,hq,rfl,rfl,by simp,by simp⟩
 rw [if_neg h0]
 by_cases h1:q.count=0
 ·rw [if_pos h1,if_neg hw,if_neg (by decide)]
  have hb:E1 q=[]:=List.eq_nil_of_length_eq_zero (by rw [D69];omega)
  exact ⟨q,by rw [hb,decide_eq_true (by omega)];simp,hq,rfl,rfl,by rw [hb];simp,by omega⟩
 ·rw [if_neg h1]
  obtain ⟨t1,t2,t3,t4⟩:=Hf6 hq (m:=min n.toNat q.count.toNat) (by omega)
  exact ⟨A68 q (min n.toNat q.count.toNat),by rw [decide_eq_false (by omega)],Gx7 hq (by omega),t3,t4,t1,t2⟩
theorem Ig8 {V:VW} {i fd f r j:Int} {q:PipeS} (hq:okP q=true) (ho:ofW V i fd=((f,⟨2,j,r,0⟩),0)) (l:List UInt8) (hl:l.length≤32) :
  ∃ (q':PipeS) (m:Nat) (b:Bool),B55 (wP V j q) i fd l=(⟨m,0,b⟩,wP V j q')∧okP q'=true∧q'.readers=q.readers∧q'.writers=q.writers∧E1 q'=E1 q++l.take m∧q'.count=q.count+m∧m≤l.length ∧
   ((l.length>0∧((l.length≤8∧32-q.count<l.length)∨32-q.count=0)∧m=0∧b=true)∨(¬ (l.length>0∧((l.length≤8∧32-q.count<l.length)∨32-q.count=0))∧(m:Int)=min (l.length:Int) (32-q.count)∧b=false)):=by
 have hr:=Ah0 hq
 rw [Ie8 ho l hl]
 by_cases h0:l.length=0
 ·rw [if_pos h0]
  exact ⟨q,0,false,rfl,hq,rfl,rfl,by simp,by simp,by omega,.inr ⟨by omega,by omega,rfl⟩⟩
 rw [if_neg h0]
 by_cases hb:32-q.count=0∨l.length≤8∧32-q.count<l.length
 ·rw [if_pos hb,if_neg (by decide)]
  exact ⟨q,0,true,rfl,hq,rfl,rfl,by simp,by simp,by omega,.inl ⟨by omega,by omega,rfl,rfl⟩⟩
 ·rw [if_neg hb]
  obtain ⟨h1,h2,h3,h4,h5⟩:=Gk8 l q hq
  have hm:(((H1 q l).2.toNat:Nat):Int)=(H1 q l).2:=by have:=Dr2 l q;omega
  refine ⟨(H1 q l).1,(H1 q l).2.toNat,false,by rw [hm],Dk3 l q hq,h4,h5,h3,by rw [hm];exact h2,by have:=Dr2 l q;omega,.inr ⟨by omega,by rw [hm];exact h1,rfl⟩⟩
abbrev Gd0 (a:Option Addr) (lc:Nat) (gs:List (Option Addr × Nat)) (xs:List OpS):HP:=slC true Dd5 5 a xs.length lc (Gb2 gs xs)
def VT2:VW:=(D73 VD 0).2
theorem tw0:(D73 VD 0).1=O1 67 0 false:=by kernel_rfl
theorem tw1:VT2.P 0=(Ai7,1):=by kernel_rfl
theorem tw2:VT2.P 1=(Ai7,1):=by kernel_rfl
theorem Ij9:ofW VT2 0 1=((1,⟨1,0,1,0⟩),0):=by kernel_rfl
theorem Ik9:ofW VT2 0 2=((2,⟨2,0,1,0⟩),0):=by kernel_rfl
theorem Ik0:ofW VT2 0 3=((3,⟨1,1,1,0⟩),0):=by kernel_rfl
theorem Ik3:ofW VT2 0 4=((4,⟨2,1,1,0⟩),0):=by kernel_rfl
theorem Ie6 (V:VW) {i j:Int} (h:i≠j) (q q':PipeS):wP (wP V i q) j q'=wP (wP V j q') i q:=by
 refine VW.ext' (fun _=>rfl) (fun _=>rfl) fun n=>?_
 show (if n=j then _ else if n=i then _ else _)=if n=i then _ else if n=j then _ else _
 by_cases h1:n=i
 ·rw [if_neg (show ¬ n=j by omega),if_pos h1,if_pos h1]
 ·rw [if_neg h1,if_neg h1]
def pk (w:Int) (qs:Int→PipeS):VW:=wP (wP VT2 (1-w) (qs (1-w))) w (qs w)
abbrev up (qs:Int→PipeS) (w:Int) (q:PipeS):Int→PipeS:=fun n=>if n=w then q else qs n
theorem Hi4 {w:Int} (hw:w=0∨w=1) (qs:Int→PipeS):pk w qs=pk 0 qs:=by
 rcases hw with rfl|rfl
 ·rfl
 ·exact Ie6 VT2 (by decide) _ _
theorem H62 {w:Int} (hw:w=0∨w=1) (qs:Int→PipeS) (q:PipeS):wP (wP VT2 (1-w) (qs (1-w))) w q=pk w (up qs w q):=by
 unfold pk up
 rw [if_neg (show ¬ 1-w=w by omega),if_pos rfl]
abbrev qL (qs:Int→PipeS):List Value:=[.string (bs (E1 (qs 0))),.string (bs (E1 (qs 1)))]
theorem If7 {qs:Int→PipeS} {w:Int} (hw:w=0∨w=1):(qL qs)[w.toNat]?=some (.string (bs (E1 (qs w)))):=by rcases hw with rfl|rfl<;>rfl
theorem Ho6 {qs:Int→PipeS} {w:Int} (hw:w=0∨w=1) (q:PipeS):B33 (qL qs) w.toNat (.string (bs (E1 q)))=some (qL (up qs w q)):=by
 unfold qL up
 rcases hw with rfl|rfl
 ·rw [if_pos rfl,if_neg (by decide)];rfl
 ·rw [if_pos rfl,if_neg (by decide)];rfl
structure QOk (q:PipeS):Prop where
 a:okP q=true
 b:q.readers=1
 c:q.writers=1
theorem twR {w:Int} (hw:w=0∨w=1) (qs:Int→PipeS):ofW (wP VT2 (1-w) (qs (1-w))) 0 (1+2*w)=((1+2*w,⟨1,w,1,0⟩),0):=by
 rw [Dk9];rcases hw with rfl|rfl
 ·exact Ij9
 ·exact Ik0
theorem twW {w:Int} (hw:w=0∨w=1) (qs:Int→PipeS):ofW (wP VT2 (1-w) (qs (1-w))) 0 (2+2*w)=((2+2*w,⟨2,w,1,0⟩),0):=by
 rw [Dk9];rcases hw with rfl|rfl
 ·exact Ik9
 ·exact Ik3
def Hd7 (k c bq:Nat) (a:Option Addr) (lc:Nat) (gs:List (Option Addr × Nat)) (xs:List OpS) (i:Nat):Prop :=
 ∀ (X:CX) (qs:Int→PipeS),(∀ w,w=0∨w=1→QOk (qs w))→See X (pk 0 qs) →
  CtJ I4 G8 Y8 [(0,.slice a xs.length lc),(4,P0 c),(7,P0 bq),(8,int i)] [cmC c k F1 X,pt bq (.cells D30 false (qL qs)),Gd0 a lc gs xs,G7 opF gs xs] fun v own=>v=.bool true∧own []
theorem H65 {qs:Int→PipeS} (h:∀ w,w=0∨w=1→QOk (qs w)) (w:Int) {q:PipeS} (hq:QOk q):∀ n,n=0∨n=1→QOk (up qs w q n):=fun n hn=>by
 unfold up;split
 ·exact hq
 ·exact h n hn
theorem Hp2 (k c bq:Nat) (a:Option Addr) (lc:Nat) (gs:List (Option Addr × Nat)) (xs:List OpS) (hgx:gs.length=xs.length):∀ (m i:Nat),i+m=60→Hd7 k c bq a lc gs xs i:=by
 have fin:∀ (i:Nat),¬ (i<xs.length∧i<60)→Hd7 k c bq a lc gs xs i:=by
  intro i hi X qs hqs A
  refine CtJ.of Bo6 fun h r=>Tr.eq (B01 ..) ?_;refine Je ?_
  (refine Jb ?_;unhygienic intros)
  refine Tr.andG (c:=decide ((i:Int)<60)) (fun hb=>?_) ?_
  ·exact Jz
  refine Yf (by simp;omega) ?_
  refine Yc (E38) ?_;rintro _ h ⟨rfl,o⟩<;>refine Jh o ?_
  (refine Jb ?_;unhygienic intros)
  refine Ys fun o=>?_
  exact ⟨rfl,o.sub⟩
 intro m
 induction m with
 | zero=>intro i hi;exact fin i (by omega)
 | succ m ihm =>
  intro i hi
  by_cases hg0:i<xs.length∧i<60
  case neg=>exact fin i hg0
  intro X qs hqs A
  have ih:=ihm (i+1) (by omega)
  have e1:IntKind.wrap .i64 ((i:Int)+1)=((i+1:Nat):Int):=by rw [A8];omega
  have hx:xs[i]?=some xs[i]:=List.getElem?_eq_getElem hg0.1
  have hg:gs[i]?=some (gs[i]'(by omega)):=List.getElem?_eq_getElem (by omega)
  generalize xs[i]=x at hx
  generalize gs[i]'(by omega)=g at hg
  have hat:=Hb7 gs xs i g x hg hx
  have hln:=Gx9 gs xs hgx
  have hw:D0 .i64 x.i 1=0∨D0 .i64 x.i 1=1:=by rw [Id0];omega
  have hn:0≤D0 .i64 x.b 15∧D0 .i64 x.b 15<16:=by rw [H81];omega
  refine CtJ.of Bo6 fun h r=>Tr.eq (B01 ..) ?_;refine Je ?_
  (refine Jb ?_;unhygienic intros)
  refine Tr.andG (c:=decide ((i:Int)<60)) (fun hb=>?_) ?_
  ·exact Jz
  refine Yt (by simp;omega) ?_
  rw [e1]
  (refine Jb ?_;unhygienic intros;repeat(refine Gw ?_;rintro px rfl;refine Jb ?_;unhygienic intros))
  simp only [Int.toNat_natCast]
  refine Tr.xAggS (xs:=opL g x) ⟨by omega,by omega,hat⟩ ?_
  (refine Jc ?_;unhygienic intros)
  refine Yn fun b h=>?_
  (refine Jb ?_;unhygienic intros)
  by_cases hd:x.d.length>8
  ·refine Yt (by rw [decide_eq_true_iff];omega) ?_
   refine Yc (E38) ?_;rintro _ h ⟨rfl,o⟩<;>refine Jh o ?_
   (refine Jb ?_;unhygienic intros)
   refine Ys fun o=>?_
   exact ⟨rfl,o.sub⟩
  refine Yf (by rw [decide_eq_false_iff_not];omega) ?_
  (refine Jb ?_;unhygienic intros)
  generalize D0 .i64 x.i 1=w at *
  have ew1:IntKind.wrap .i64 (2+IntKind.wrap .i64 (2*w))=2+2*w:=by simp only [A8];omega
  have ew2:IntKind.wrap .i64 (1+IntKind.wrap .i64 (2*w))=1+2*w:=by simp only [A8];omega
  have hq:=hqs w hw
  have hrng:=Ah0 hq.a
  have hbl:=D69 (qs w)
  have A':See X (wP (wP VT2 (1-w) (qs (1-w))) w (qs w)):=by
   have:=Hi4 hw qs
   unfold pk at this
   rw [this];exact A
  have hqg:=If7 (qs:=qs) hw
  by_cases hk:D0 .i64 x.k 1=0
  ·refine Yt (by rw [beq_iff_eq];exact hk) ?_
   (refine Jb ?_;unhygienic intros)
   rw [ew1]
   refine Ab3 opF gs xs hg hx ?_
   obtain ⟨q',mm,bb,w1,q1,q2,q3,q4,q5,q6,q7⟩:=Ig8 hq.a (twW hw qs) x.d (by omega)
   have J:=Gg1 c k F1 X B45 _ A' 0 (2+2*w) (by omega) (Ij1 (twW hw qs) (by omega) (by rw [hq.b];decide)) (opF g x) g.1 true g.2 x.d (by simp only [B0];omega)
   rw [w1] at J
   refine Yc J ?_
   rintro _ h ⟨X',B,_,rfl,o⟩
   refine Jh o ?_
   replace B:See X' (pk 0 (up qs w q')):=by rw [← Hi4 hw,← H62 hw];exact B
   have H:=ih X' (up qs w q') (H65 hqs w ⟨q1,q2.trans hq.b,q3.trans hq.c⟩) B
   (refine Jc ?_;unhygienic intros)
   refine Yn fun b1 h=>?_
   (refine Jb ?_;unhygienic intros)
   have ez:IntKind.wrap .i64 ((((qs w).count.toNat:Nat):Int)+x.d.length)=(qs w).count+x.d.length:=by rw [A8];omega
   have hbb:bb=decide ((qs w).count+x.d.length>32):=by
    rcases q7 with ⟨z1,z2,z3,z4⟩|⟨z1,z2,z4⟩
    ·rw [z4,decide_eq_true (by omega)]
    ·rw [z4,decide_eq_false (by omega)]
   simp only [Ae2,hbl]
   rw [ez]
   refine Yf (by rw [← hbb];simp) ?_
   (refine Jb ?_;unhygienic intros)
   have hs:B33 (qL qs) w.toNat (.string (bs (E1 q')))=some (qL (up qs w q')):=Ho6 hw q'
   cases bb
   ·have hmm:mm=x.d.length:=by
     rcases q7 with ⟨_,_,_,z4⟩|⟨z1,z2,_⟩
     ·cases z4
     ·have:=of_decide_eq_false hbb.symm;omega
    rw [hmm,List.take_length] at q4
    refine Yt rfl ?_
    (refine Jb ?_;unhygienic intros)
    refine Tr.ck (by simp only [Ae2,hbl,B0];show (qs w).count.toNat+x.d.length≤2147483648;omega) ?_
    rw [show bs (E1 (qs w))++(ByteArray.mk ⟨x.d⟩)=bs (E1 q') by rw [q4];exact Av9 ..]
    (refine Jb ?_;unhygienic intros)
    refine Ag6 opF gs xs i hg hx ?_
    refine Ak4 [2,3,3,0] 2 rfl rfl ?_
    exact Yr H fun v h q=>q
   ·have hmm:mm=0:=by
     rcases q7 with ⟨_,_,z3,_⟩|⟨_,_,z4⟩
     ·exact z3
     ·cases z4
    have hqe:qL qs=qL (up qs w q'):=by
     have e4:E1 q'=E1 (qs w):=by rw [q4,hmm];simp
     unfold qL up
     rcases hw with rfl|rfl
     ·rw [if_pos rfl,if_neg (by decide),e4]
     ·rw [if_pos rfl,if_neg (by decide),e4]
    refine Yf rfl ?_
    rw [hqe]
    refine Ag6 opF gs xs i hg hx ?_
    refine Ak4 [2,3,3,0] 2 rfl rfl ?_
    exact Yr H fun v h q=>q
  ·refine Yf (by rw [beq_eq_false_iff_ne];exact hk) ?_
   (refine Jb ?_;unhygienic intros)
   rw [ew2]
   generalize D0 .i64 x.b 15=z at *
   have en:IntKind.wrap .i64 (z+1)=z+1:=by rw [A8];omega
   rw [en]
   obtain ⟨q',w1,q1,q2,q3,q4,q5⟩:=Ig7 hq.a (by rw [hq.c];decide) (twR hw qs) (n:=z+1) (by omega)
   have J:=Ey0 c k F1 X B45 _ A' 0 (1+2*w) (z+1) (by omega) (Id5 (twR hw qs)) (Ii7 (z+1) (twR hw qs) (by omega))
   rw [w1] at J
   have e6:min (z+1) (((qs w).count.toNat:Nat):Int)=((min (z+1).toNat (qs w).count.toNat:Nat):Int):=by omega
   have hE:((bs (E1 (qs w))).toList==(ByteArray.mk ⟨[]⟩).toList)=decide ((qs w).count=0∧z+1>0):=by
    rw [Dr1,Dr1]
    by_cases hc:(qs w).count=0
    ·have hb:E1 (qs w)=[]:=List.eq_nil_of_length_eq_zero (by rw [hbl];omega)
     rw [hb,decide_eq_true (by omega)];rfl
    ·rw [decide_eq_false (by omega),beq_eq_false_iff_ne]
     intro hb
     have:=congrArg List.length hb
     rw [hbl] at this;simp at this;omega
   have hd1:ByteArray.extract (bs (E1 (qs w))) 0 (min (z+1).toNat (qs w).count.toNat)=bs ((E1 (qs w)).take (min (z+1).toNat (qs w).count.toNat)):=by rw [Hw1,List.drop_zero]
   have hd2:ByteArray.extract (bs (E1 (qs w))) (min (z+1).toNat (qs w).count.toNat) (qs w).count.toNat=bs (E1 q'):=by
    rw [Hw1,List.take_of_length_le (by rw [hbl];exact Nat.le_refl _),q4]
   have htl:((E1 (qs w)).take (min (z+1).toNat (qs w).count.toNat)).length=min (z+1).toNat (qs w).count.toNat:=by rw [List.length_take,hbl];omega
   generalize (E1 (qs w)).take (min (z+1).toNat (qs w).count.toNat)=t at *
   have hMle:min (z+1).toNat (qs w).count.toNat≤(qs w).count.toNat:=by omega
   generalize min (z+1).toNat (qs w).count.toNat=M at *
   have hs:B33 (qL qs) w.toNat (.string (bs (E1 q')))=some (qL (up qs w q')):=Ho6 hw q'
   refine Yc J ?_
   rintro _ h ⟨a2,cap,X',B,_,rfl,o⟩
   refine Jh o ?_
   replace B:See X' (pk 0 (up qs w q')):=by rw [← Hi4 hw,← H62 hw];exact B
   have H:=ih X' (up qs w q') (H65 hqs w ⟨q1,q2.trans hq.b,q3.trans hq.c⟩) B
   (refine Jc ?_;unhygienic intros)
   refine Yn fun b2 h=>?_
   (refine Jb ?_;unhygienic intros)
   refine Yb (Yf (by rw [hE];simp) ?_)
   (refine Jb ?_;unhygienic intros)
   by_cases hc:(qs w).count=0
   ·refine Yb (Yf (by rw [decide_eq_true (by omega)];rfl) ?_)
    refine Ys fun o=>(?_:Tr _ _ _ _) o;refine Je ?_
    refine Ys fun o=>(?_:Tr _ _ _ _) o;refine Je ?_
    refine Yf rfl ?_
    (refine Jb ?_;unhygienic intros)
    simp only [Ae2,hbl,Q0]
    rw [e6]
    simp only [Int.toNat_natCast]
    rw [hd2]
    refine Tr.ck (by omega) ?_
    (refine Jb ?_;unhygienic intros)
    refine Ak4 [1,3,3,3] 3 rfl rfl ?_
    exact Yr H fun v h q=>q
   ·refine Yb (Yt (by rw [decide_eq_false (by omega)];rfl) ?_)
    (refine Jb ?_;unhygienic intros)
    simp only [Ae2,hbl,Q0]
    rw [e6]
    simp only [Int.toNat_natCast]
    rw [hd1]
    refine Tr.ck (by omega) ?_
    refine Ys fun o=>(?_:Tr _ _ _ _) o;refine Je ?_
    refine Ys fun o=>(?_:Tr _ _ _ _) o;refine Je ?_
    refine Yf (by simp) ?_
    (refine Jb ?_;unhygienic intros)
    simp only [Ae2,hbl,Q0]
    rw [e6]
    simp only [Int.toNat_natCast]
    rw [hd2]
    (refine Jb ?_;unhygienic intros)
    refine Ak4 [1,3,3,3] 3 rfl rfl ?_
    exact Yr H fun v h q=>q
theorem G56 (a:Option Addr) (lc:Nat) (gs:List (Option Addr × Nat)) (xs:List OpS) (hgx:gs.length=xs.length):Ct A9 G8 [.slice a xs.length lc] [Gd0 a lc gs xs,G7 opF gs xs] fun v own=>v=.bool true∧own []:=by
 refine Ct.of Bo6 rfl fun h r=>Tr.eq (Ex1 ..) ?_;refine Je ?_
 refine Yc (Gv2) ?_;rintro _ h ⟨a1,rfl,o⟩<;>refine Jh o ?_
 (refine Ja ?_;unhygienic intros)
 refine Yc (Hd8 a1) ?_
 rintro _ h ⟨k,c,w,m,K',rfl,o⟩
 refine Jh o ?_
 (refine Jb ?_;unhygienic intros)
 refine Yb (Yf rfl ?_)
 refine Yc (Ex8 c k F1 X1 B45 Ez5 0 (by omega)) ?_;rintro _ h ⟨rfl,o⟩<;>refine Jh o ?_
 rw [Hu2,show (At3 X1 0).2=XD from rfl]
 (refine Jb ?_;unhygienic intros)
 refine Ys fun o=>(?_:Tr _ _ _ _) o;refine Je ?_
 refine Yb (Yf rfl ?_)
 obtain ⟨f1,A1⟩:=H06.pipe (i:=0) (by omega)
 replace f1:=f1.trans tw0
 refine Yc (Ex8 c k F1 XD B45 H06.c 0 (by omega)) ?_;rintro _ h ⟨rfl,o⟩<;>refine Jh o ?_
 rw [f1]
 generalize (At3 XD 0).2=X2 at *
 (refine Jb ?_;unhygienic intros)
 refine Ys fun o=>(?_:Tr _ _ _ _) o;refine Je ?_
 refine Yf (by simp) ?_
 have A2:See X2 (pk 0 fun _=>Ai7):=by
  unfold pk
  have e1:wP VT2 1 Ai7=VT2:=Hd3 tw2
  have e0:wP VT2 0 Ai7=VT2:=Hd3 tw1
  show See X2 (wP (wP VT2 (1-0) Ai7) 0 Ai7)
  rw [show (1:Int)-0=1 from rfl,e1,e0]
  exact A1
 (refine Jc ?_;unhygienic intros)
 refine Yn fun bq h=>?_
 refine (?_:Tr (pt bq (.cells D30 false (qL fun _=>Ai7))::_) _ _ _)
 refine Ak4 [1,0,2,2] 2 rfl rfl ?_
 exact Yr (Hp2 k c bq a lc gs xs hgx 60 0 rfl X2 (fun _=>Ai7) (fun w hw=>⟨rfl,rfl,rfl⟩) A2) fun v h q=>q
end Go.EQ

set_option maxRecDepth 100000
namespace Go.EQ
open Go Go.NN Go.Proofs Go.ChangeShapes Go.WideShapes Go.RowKit
theorem H79:∀ f,(cutsOf f).globs=0:=Ee9 H53 (by kernel_rfl)
theorem H86:∀ f,(cutsOf f).globs≤PR.globals.size:=fun f=>by rw [H79 f];exact Nat.zero_le _
theorem Ib3:PR.follows .mixedOrders=true:=by kernel_rfl
theorem Ie3:laidOutB PR=true:=by kernel_rfl
theorem Ii5:ownKnob PR.godebug=none:=by kernel_rfl
end Go.EQ

set_option maxRecDepth 100000
namespace Go.EQ
open Go Go.NN Go.Proofs Go.Proofs.YtnmdbfbjdhgmlaaGreat Go.ChangeShapes Go.WideShapes Go.RowKit
theorem opT {W:World}:W4 PR W Dd5 opL opF (fun _=>True) :=
 (W4.struct Hg6 (by kernel_rfl) (Da2.cons (W4.int Gp7) (Da2.cons (W4.int Gp7) (Da2.cons (W4.int Gp7) (Da2.cons (W4.int Gp7) (Da2.cons (W4.bytes A4 Hv5 Ib9 (by kernel_rfl)) Da2.nil)))))).as
  fun ⟨k,i,a,b,d,_⟩ _=>⟨⟨k,i,a,b,d⟩,trivial,fun ⟨_,_,_,_,g,_⟩=>⟨g,rfl,fun hh r o=>((((o.of_sl 1 rfl).of_sl 1 rfl).of_sl 1 rfl).of_sl 1 rfl).of_sl 0 rfl⟩⟩
theorem Ik7 {W:World}:W4 PR W Di2 (fun (g:(Option Addr × Nat) × List (Option Addr × Nat)) (l:List OpS)=>[.slice g.1.1 l.length g.1.2]) (fun g l=>sl [Gd0 g.1.1 g.1.2 g.2 l,G7 opF g.2 l,pu (g.2.length=l.length)]) (fun l=>l.length≤maxLen∧∀ y ∈ l,True) :=
 W4.slice (sz:=5) Dd5 Ei7 (by kernel_rfl) (by omega) (fun _ _=>rfl) opT
theorem Hx8 {hh:NN.H} {r:List HP} {a:Option Addr} {c:Nat} {gs:List (Option Addr × Nat)} {l:List OpS} (o:Own hh (sl [Gd0 a c gs l,G7 opF gs l,pu (gs.length=l.length)]::r)):gs.length=l.length∧Own hh (Gd0 a c gs l::G7 opF gs l::r):=by
 have o2:Own hh (Gd0 a c gs l::G7 opF gs l::pu (gs.length=l.length)::r):=Own.join o
 exact ⟨(o2.front (i:=2) rfl).pure,o2.fin [0,0] 1 rfl rfl⟩
end Go.EQ

set_option maxRecDepth 100000
namespace Go.EQ
open Go Go.NN Go.Proofs Go.Proofs.YtnmdbfbjdhgmlaaGreat Go.ChangeShapes Go.WideShapes Go.RowKit
theorem H72 {H:Type} {enc:TypeId × Value→H} {W:World} {v0:Value} {d0:DataW H} {p0:List MemPlace} {b0:Nat} (k0:Value.okWide PR W .any b0 Di2 v0)
  (h0:DataW.Trod enc PR W 0 (fun _=>true) true Di2 v0 d0 p0) :
  Calls PR G8 #[v0] W fun e W'=>e=.returned (.bool true)∧Below W.heap.size W W':=by
 obtain ⟨x0,hl0,i0⟩:=Ik7.arg (G77 Ei7 k0) h0
 refine i0.run Ib3 H86 fun vs ps J hh r o=>?_
 obtain ⟨⟨⟨a0,c0⟩,gs⟩,e0a,e0b⟩:=J
 subst e0a
 subst e0b
 obtain ⟨hg,O⟩:=Hx8 o
 obtain ⟨v,h',e,rfl,_⟩:=G56 a0 c0 gs x0 hg hh r O
 exact ⟨h',e⟩
theorem H21 (os:Os) (started:os.Started) (H:Type) (enc:TypeId × Value→H) :
  ReturnsInHanded {} Tryz.checked os G8 .any (Rows.pipesTwoSpec.pre6 enc Tryz.prog Tryz.f3 Rows.pipesTwoRow.domain false) (Rows.pipesTwoSpec.post enc Tryz.prog Tryz.f3 false true false false):=by
 refine returnsInHanded_of_change (C:=Tryz.checked) Ii5 started (by kernel_rfl) Tryz.func3
  (ChangeSpec.witness6 (enc:=enc) (C:=Tryz.checked) false ⟨#[],#[.slice none 0 0],[]⟩ 8 (by kernel_rfl) (by kernel_rfl) (by kernel_rfl) (by kernel_rfl)) ?_
 intro W base args ds gs before hval hW hcnd _
 have hW':=hW
 obtain ⟨p,q,hA,hV,rfl,hfz,hnd⟩:=hW
 rw [Tryz.params3] at hA hval
 obtain ⟨v0,d0,rfl,rfl,h0⟩:=trodAll_one hA
 refine (H72 (hval 0 _ v0 rfl rfl) h0).mono fun e W' ⟨he,hb⟩=>?_
 subst he
 refine ⟨_,rfl,Hn9 Ie3 ?_ rfl If6 rfl (fun ds gs hl=>?_) hW' hb⟩
 ·rw [Tryz.params3];intro t ht;simp at ht;subst ht;exact ⟨by kernel_rfl,of_decide_eq_true (by kernel_rfl)⟩
 ·replace hl:ds.length=1:=hl
  cases gs with
  | cons _ _=>exact .inr (by simp)
  | nil=>match ds,hl with|[_],_=>exact .inl rfl
theorem Ic1:Tryz.pinned.checked.prog.funcNamed Rows.pipesTwoRow.func=some G8:=by kernel_rfl
theorem H34:joinedFacts Tryz.pinned.checked.prog G8 Tryz.f3 Rows.pipesTwoSpec Rows.pipesTwoRow=true:=by kernel_rfl
theorem Ig2:Tryz.f3.isInstance Tryz.pinned.checked.prog Rows.pipesTwoRow.origin Rows.pipesTwoRow.targs:=of_decide_eq_true (by kernel_rfl)
theorem If1:Tryz.f3.isWrapper Tryz.pinned.checked.prog Rows.pipesTwoRow.wrapper Rows.pipesTwoRow.mainSum:=by unfold Func.isWrapper;first|(rw [if_pos (by decide +kernel)];kernel_rfl)|(rw [if_neg (by decide +kernel)];exact ⟨rfl,rfl⟩)
theorem PipesTwo_holds:Rows.PipesTwoSaid :=
 OpenClaim.holds_of_wide G8 Tryz.f3 rfl rfl rfl rfl rfl rfl rfl ⟨rfl,rfl,rfl,rfl,rfl⟩ rfl rfl rfl rfl rfl Ic1 Tryz.func3 H34 Ig2 If1
  (fun os started H enc _=>H21 os started H enc)
end Go.EQ
