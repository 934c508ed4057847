/- A read that found nothing is woken by bytes, and by the end, and by nothing else: till then its picks do nothing. -/
import Derived.Test.YtonlefldpebcpaaGreatDoorMh
import Derived.KernelRfl
set_option linter.all false
set_option maxRecDepth 10000
namespace Go.EQ
open Go Go.NN
theorem G15 (k:Nat) (S:KS) (A:KA):CtP A7 At4 [P0 k] [pt k (.cells Eh8 false (Gh9 S A))] (P0 A.s):=by
 refine CtP.of Gk9 rfl fun h r=>Tr.eq (Gm0 ..) ?_;refine Je ?_
 exact Jz
theorem Ig9 (k:Nat) (S:KS) (N:Nat) (ok:KOk N S) (env:Int):Ct A7 At0 [P0 k,int env] [D6 k S] fun v own =>
  (Ay9 S.tabs env≠[]∧∃ c,v=.tuple ⟨[P0 c,int 0]⟩∧own [W3 c k env (Ay9 S.tabs env) [],D6 k S])∨(Ay9 S.tabs env=[]∧v=.tuple ⟨[.pointer none,int 1]⟩∧own [D6 k S]):=by
 refine Ct.of Hk2 rfl fun h r=>Tr.eq (Hn3 ..) ?_;refine Je ?_
 refine B1 (D6 k S) fun ⟨m,s,q,rg,ea,ec,ma,mc,ms,sa,sc,ss⟩=>?_;refine Je ?_
 (refine Jb ?_;intros)
 refine Yb (Yf rfl ?_)
 refine Tr.pcall (G15 k S ⟨m,s,q,rg,ea,ec,ma,mc,ms,sa,sc,ss⟩) ?_;refine Je ?_;(refine Ja ?_;intros)
 try dsimp only
 refine Yc (G65 s S.tabs env ok.space) ?_;rintro _ h ⟨a0,c0,rfl,o⟩<;>refine Jh o ?_
 (refine Ja ?_;intros)
 refine Ys fun o=>(?_:Tr _ _ _ _) o;refine Je ?_
 by_cases hz:Ay9 S.tabs env=[]
 ·refine Yt (by simp [hz]) ?_
  refine A9 (D6 k S) ⟨m,s,q,rg,ea,ec,ma,mc,ms,sa,sc,ss⟩ ?_;refine Je ?_
  refine Ys fun o=>?_
  exact .inr ⟨hz,rfl,o.sub⟩
 ·refine Yf ?_ ?_
  ·rw [beq_eq_false_iff_ne]
   intro h0
   exact hz (List.eq_nil_of_length_eq_zero (by omega))
  refine Tr.pcall (G15 k S ⟨m,s,q,rg,ea,ec,ma,mc,ms,sa,sc,ss⟩) ?_;refine Je ?_;(refine Ja ?_;intros)
  try dsimp only
  refine Yc (G65 s S.tabs env ok.space) ?_;rintro _ h ⟨a1,c1,rfl,o⟩<;>refine Jh o ?_
  (refine Jc ?_;intros)
  refine Yn fun mb h=>?_
  refine Yn fun c h=>?_
  refine A9 (D6 k S) ⟨m,s,q,rg,ea,ec,ma,mc,ms,sa,sc,ss⟩ ?_;refine Je ?_
  refine G0 (W3 c k env (Ay9 S.tabs env) []) (a1,c1,mb) [1,2,1] rfl ?_;refine Je ?_
  refine Ys fun o=>?_
  exact .inl ⟨hz,c,rfl,o.sub⟩
def Bi3:PlanS:=⟨[false,false],[(0,1),(1,0)],5⟩
theorem Jb5:Ct A7 B89 [] [] fun v own=>∃ A,v=.agg ⟨Gh8 Bi3 A⟩∧own (Dx3 Bi3 A):=by
 refine Ct.of H46 rfl fun h r=>Tr.eq (Ht2 ..) ?_;refine Je ?_
 (refine Jc ?_;intros;rename H=>h)
 refine Yn fun b h=>?_
 refine Yn fun b1 h=>?_
 refine Yn fun b2 h=>?_
 (refine Ja ?_;intros;rename H=>h)
 refine Ah3 0 rfl 2 2 rfl (by omega) ?_
 refine Ah3 1 rfl 1 2 rfl (by omega) ?_
 refine Je ?_
 refine Ys fun o=>?_
 exact ⟨⟨some ⟨b1,0,none⟩,2,some ⟨b2,0,none⟩,2⟩,rfl,(show Own h (slC false B87 2 (some ⟨b2,0,none⟩) Bi3.brs.length 2 (Bi3.brs.flatMap brL)::slC false Gy6 1 (some ⟨b1,0,none⟩) Bi3.bad.length 2 (Bi3.bad.map Value.bool)::_) from o).sub⟩
def Af9:BootS:=E81 Bi3
theorem Hp2:By3 Af9=true:=by kernel_rfl
theorem Gp9:Small Af9:=by
 have e:Af9=⟨[20,20],[0,0,0,0,0,0,0,0,0,1,1,1,1,1,1,1,1,1],[[0],[1]],5,[⟨0,0,0,492,[0]⟩,⟨1,0,0,492,[1]⟩,⟨0,8,0,40,[0,1]⟩,⟨1,9,0,40,[1,0]⟩]⟩:=by kernel_rfl
 rw [e]
 exact ⟨by simp [A8],by simp [A8],by simp [A8]⟩
theorem Bq8:Af9=⟨[20,20],[0,0,0,0,0,0,0,0,0,1,1,1,1,1,1,1,1,1],[[0],[1]],5,[⟨0,0,0,492,[0]⟩,⟨1,0,0,492,[1]⟩,⟨0,8,0,40,[0,1]⟩,⟨1,9,0,40,[1,0]⟩]⟩:=by kernel_rfl
theorem Jm0:RBoot Af9 (Ao5 Af9.frames):=by
 rw [Bq8]
 refine ⟨by simp,by simp,by simp,fun x hx=>?_,fun x hx=>?_⟩
 ·simp only [List.mem_cons,List.not_mem_nil,or_false] at hx
  rcases hx with rfl|rfl|rfl|rfl<;>simp [A8]
 ·simp only [List.mem_cons,List.not_mem_nil,or_false] at hx
  rcases hx with rfl|rfl|rfl|rfl<;>simp [Ao5]
def S00:KS:=Eg2 Af9
theorem Hr6:KOk 0 S00:=Jk1 Hp2 Gp9
def wrS (S:KS) (cap:Int) (b:List UInt8):KS:=(W0 S 0 ⟨2,cap,0,0,0,0,b⟩).2
def S0:KS:=wrS S00 256 Ae9
theorem Jw2:(W0 S00 0 ⟨2,256,0,0,0,0,Ae9⟩).1.1=0:=by kernel_rfl
theorem Jf9:Ay9 S00.tabs 0=[256,257,258]:=by kernel_rfl
def wrR (K:RKS) (cap:Int) (b:List UInt8):RKS:={ K with R:=(An3 K.R 0 cap 0 b).2 }
def K0:RKS:=wrR (Dj8 Af9) 256 Ae9
theorem D95:RKOk (Dj8 Af9)∧(Dj8 Af9).B=Af9:=Jh3 (by rw [Bq8];simp) (by rw [Bq8];simp)
theorem Gb3 {K:RKS} (k:RKOk K) (cap:Int) (b:List UInt8):RKOk (wrR K cap b):=Jl4 k 0 cap 0 b
theorem Ja0:B90 K0 0≠[]:=by
 have:B90 K0 0=[256,257,258]:=by kernel_rfl
 rw [this];simp
theorem Ag0:Ae9.length=492:=by kernel_rfl
theorem D30 {l:List HP} {h:H} {α:Type} {Q:α→H→Prop} {x:Option (α × H)} (i:Nat) {b n:Nat} {cs:List Value} (hi:l[i]?=some (pt b (.cells A5 false cs))) (hn:cs.length=n) (t:Tr (l.set i (slC false A5 1 (some (O4 b)) n n cs)) h x Q):Tr l h x Q:=fun o=>by
 refine t (Own.back (h:=h) hi ?_)
 have o1:=o.front hi
 refine Own.slShut (pre:=[]) (post:=[]) (by simpa using o1) ⟨by omega,Nat.le_refl _,by simp,by simp,by simp,by omega,by simp⟩
theorem Ji8 (A:PlA):Ct A7 Bs5 [.agg ⟨Gh8 Bi3 A⟩] (Dx3 Bi3 A) fun v own =>
  ∃ k c w m,v=.tuple ⟨[P0 k,P0 c,P0 w,P0 m]⟩∧own [D6 k S0,W3 c k 0 [256,257,258] [],rkC w K0,rcC m w 0 (B90 K0 0) []]:=by
 have hB:E81 Bi3=Af9:=rfl
 obtain ⟨ba,bc,ra,rc⟩:=A
 refine Ct.of H57 rfl fun h r=>Tr.eq (Hy1 ..) ?_;refine Je ?_
 refine Yn fun b0 h=>?_
 (refine Ja ?_;intros)
 refine Yc (Jk5 Bi3 ⟨ba,bc,ra,rc⟩ (by simp [Bi3]) (by simp [Bi3])) ?_;rintro _ h ⟨A,kA,rfl,o⟩<;>refine Jh o ?_
 rw [hB] at kA ⊢
 obtain ⟨fa,fc,ea,ec,sa,sc,ss,ha,hc,hs⟩:=A
 (refine Jc ?_;intros)
 refine Yn fun b1 h=>?_
 (refine Ja ?_;intros)
 have J:=Jq8 false Af9 ⟨fa,fc,ea,ec,sa,sc,ss,ha,hc,hs⟩ kA Gp9
 simp only [Hp2,if_true] at J
 refine Yc (J) ?_;rintro _ h ⟨k,rfl,o⟩<;>refine Jh o ?_
 (refine Jb ?_;intros)
 refine Yb (Yf rfl ?_)
 refine Ys fun o=>(?_:Tr _ _ _ _) o;refine Je ?_
 refine Yf rfl ?_
 (refine Ja ?_;intros)
 refine Yc (Ic1 Af9 ⟨fa,fc,ea,ec,sa,sc,ss,ha,hc,hs⟩ kA (by rw [Bq8];simp) Jm0) ?_;rintro _ h ⟨w,rfl,o⟩<;>refine Jh o ?_
 (refine Ja ?_;intros)
 refine Yc (Ig9 k (Eg2 Af9) 0 Hr6 0) ?_
 rintro v h (⟨hz,c,rfl,o⟩|⟨hz,rfl,o⟩)
 case inr=>exact absurd hz (by rw [show Eg2 Af9=S00 from rfl,Jf9];simp)
 rw [show Eg2 Af9=S00 from rfl,Jf9] at o
 refine (?_:Tr _ _ _ _) o
 refine Je ?_
 (refine Jb ?_;intros)
 refine Yb (Yf rfl ?_)
 refine Ys fun o=>(?_:Tr _ _ _ _) o;refine Je ?_
 refine Yf rfl ?_
 refine Yc (He4) ?_;rintro _ h ⟨rfl,o⟩<;>refine Jh o ?_
 (refine Jc ?_;intros)
 refine Tr.ck (by rw [Be2,Ag0];simp [A8]) ?_
 rw [Be2,Ag0]
 refine Yn fun b2 h=>?_
 refine D30 (n:=492) 0 rfl (by rw [Z0,show (bs Ae9).data.toList=Ae9 from rfl,Ag0]) ?_
 refine Je ?_
 have J2:=En3 k S00 0 Hr6 (by omega) 0 ⟨2,256,0,0,0,0,Ae9⟩ (some (O4 b2)) 492 false (show ((2:Int)≠5) by decide)
 simp only [Ag0] at J2
 refine B38 J2 [2,0] rfl ?_
 rintro _ h ⟨y,d,rfl,o⟩
 rw [Jw2]
 rw [show (W0 S00 0 ⟨2,256,0,0,0,0,Ae9⟩).2=S0 from rfl] at o
 refine (?_:Tr _ _ _ _) o
 refine Je ?_
 (refine Jc ?_;intros)
 refine Yf rfl ?_
 refine Tr.ck (by simp [A8]) ?_
 refine Yn fun b3 h=>?_
 refine D30 (n:=492) 0 rfl (by rw [Z0,Ag0]) ?_
 refine Je ?_
 have J3:=Gj6 w (Dj8 Af9) D95.1 0 (by rw [D95.2,Bq8];simp) ⟨2,256,0,0,0,0,Ae9⟩ rfl (by rw [Ag0];simp [A8]) (slC false A5 1 (some (O4 b3)) Ae9.length 492 (A0 Ae9)) (some (O4 b3)) 492 false
 simp only [Ag0] at J3
 refine Yc J3 ?_
 rintro _ h ⟨rfl,o⟩
 rw [show ({ Dj8 Af9 with R:=(An3 (Dj8 Af9).R ((0:Nat):Int) 256 0 Ae9).2 }:RKS)=K0 from rfl] at o
 refine (?_:Tr _ _ _ _) o
 refine Je ?_
 (refine Ja ?_;intros)
 refine Yc (En7 w K0 (Gb3 D95.1 256 Ae9) 0 (by show (0:Nat)<(Dj8 Af9).B.envs.length;rw [D95.2,Bq8];simp)) ?_
 rintro v h (⟨_,m,rfl,o⟩|⟨hn,rfl,o⟩)
 case inr=>exact absurd hn Ja0
 refine (?_:Tr _ _ _ _) o
 refine Je ?_
 (refine Ja ?_;intros)
 refine Ys fun o=>?_
 exact ⟨k,c,w,m,rfl,o.sub⟩
def Df5 (mem:List UInt8) (rg:Rg):List (List UInt8):=rg.map fun p=>slice mem p.1 p.2
theorem Hs2 {mem:List UInt8} {rg:Rg} {j lo n:Nat} (h:rg[j]?=some (lo,n)):(Df5 mem rg)[j]?=some (slice mem lo n):=by unfold Df5;rw [List.getElem?_map,h];rfl
theorem H41 {mem:List UInt8} {rg:Rg} (h:∀ (j lo n:Nat),rg[j]?=some (lo,n)→lo+n≤mem.length):Fit mem.length rg (Df5 mem rg):=⟨by simp [Df5],fun j lo n hj=>⟨h j lo n hj,slice mem lo n,Hs2 hj,Hj9 (h j lo n hj)⟩⟩
theorem I93 {mem:List UInt8} {rg:Rg} (k:RgOk rg) (h:∀ (j lo n:Nat),rg[j]?=some (lo,n)→lo+n≤mem.length):V4 mem rg (Df5 mem rg)=mem:=by
 have f:=H41 h
 refine List.ext_getElem? fun i=>?_
 by_cases ho:∃ (j lo n:Nat),rg[j]?=some (lo,n)∧lo≤i∧i<lo+n
 ·obtain ⟨j,lo,n,hj,h1,h2⟩:=ho
  obtain ⟨i',rfl⟩:∃ i',i=lo+i':=⟨i-lo,by omega⟩
  rw [Di8 f k j lo n _ hj (Hs2 hj) i' (by omega),B72,if_pos (by omega)]
 ·exact D87 f i fun j lo n hj=>by
   by_cases hh:lo≤i∧i<lo+n
   ·exact absurd ⟨j,lo,n,hj,hh.1,hh.2⟩ ho
   ·omega
theorem FrOk.room {F:Fr} {j lo n:Nat} (f:Fit F.S.mem.length F.rg (Df5 F.S.mem F.rg)) (h:F.rg[j]?=some (lo,n)):lo+n≤F.S.mem.length:=(f.each j lo n h).1
theorem Fr.at_cut {F:Fr} (k:FrOk F) (h:∀ (j lo n:Nat),F.rg[j]?=some (lo,n)→lo+n≤F.S.mem.length):F.at (Df5 F.S.mem F.rg)=F.S:=by
 unfold Fr.at;rw [I93 k.dj h];rfl
theorem Own.cmTake {r:List HP} {h:H} (c k:Nat) (F:Fr) (bad:List RecS) (ok:FrOk F) (hr:∀ (j lo n:Nat),F.rg[j]?=some (lo,n)→lo+n≤F.S.mem.length) (o1:Own h (D6 k F.S::W3 c k F.env F.caps bad::r)):Own h (cmC c k F ⟨Df5 F.S.mem F.rg,bad⟩::r):=by
 refine Own.inex (f:=fun u:Unit=>sl (cmF c k F ⟨Df5 F.S.mem F.rg,bad⟩)) () (Own.group (l:=cmF c k F ⟨Df5 F.S.mem F.rg,bad⟩) ?_)
 show Own h (D6 k (F.at (Df5 F.S.mem F.rg))::W3 c k F.env F.caps bad::pu _::r)
 rw [Fr.at_cut ok hr]
 have o2:=Own.inpure (show Fit F.S.mem.length F.rg (Df5 F.S.mem F.rg) from H41 hr) o1
 exact o2.picks [1,1,0] rfl
theorem Jr0 {l r:List HP} {h:H} {α:Type} {Q:α→H→Prop} {x:Option (α × H)} (c k:Nat) (F:Fr) (X:CX) [tk:Take (cmC c k F X) l r]
  (t:Fit F.S.mem.length F.rg X.m→Tr (D6 k (F.at X.m)::W3 c k F.env F.caps X.bad::r) h x Q):Tr l h x Q:=fun o=>by
 have o1:Own h (cmC c k F X::r):=o.perm tk.pm
 obtain ⟨u,o2⟩:=Own.ex (f:=fun u:Unit=>sl (cmF c k F X)) o1
 have o3:Own h (D6 k (F.at X.m)::W3 c k F.env F.caps X.bad::pu (Fit F.S.mem.length F.rg X.m)::r):=Own.join o2
 have f:=(o3.front (i:=2) rfl).pure
 exact t f (o3.front (i:=2) rfl).tail
theorem Im2 {S:KS} {env cap obj:Int} {lo n:Nat} {e1 e2:Int} (hg:B22 S.tabs env cap=some ⟨obj,3,0,(n:Int),e1,e2⟩) (h0:0≤obj) (hr:S.regs[obj.toNat]?=some ((lo:Int),(n:Int))) (hl:lo+n≤65536) :
  ∀ (a m:Nat) (right:Int),right=1∨right=2→a+m≤n→S8 S.tabs S.regs env cap right a m=(((lo+a:Nat):Int),0):=by
 intro a m right hri ha
 have hlt:=(List.getElem?_eq_some_iff.1 hr).1
 unfold S8
 rw [hg]
 have b1:(J8 .i64 3 1==0)=false:=by kernel_rfl
 have b2:(J8 .i64 3 2==0)=false:=by kernel_rfl
 have hb:¬ ((J8 .i64 3 right==0)=true):=by rcases hri with rfl|rfl<;>simp [b1,b2]
 simp only
 have h2:(decide ((a:Int)<0) || decide ((m:Int)<0) || decide ((a:Int)>(n:Int)) || decide ((m:Int)>IntKind.wrap .i64 ((n:Int)-a)) || decide (obj<0) || decide (obj≥S.regs.length))=false:=by
  simp only [Bool.or_eq_false_iff,decide_eq_false_iff_not,B4];omega
 have h3:(decide (IntKind.wrap .i64 (0+(a:Int))>(n:Int)) || decide ((m:Int)>IntKind.wrap .i64 (IntKind.wrap .i64 ((n:Int)-0)-a)))=false:=by
  simp only [Bool.or_eq_false_iff,decide_eq_false_iff_not,B4];omega
 have h4:IntKind.wrap .i64 (IntKind.wrap .i64 ((lo:Int)+0)+a)=((lo+a:Nat):Int):=by simp only [B4];omega
 rw [if_neg hb]
 simp only [h2,hr,h3,h4,Bool.false_eq_true,if_false]
structure Like (S:KS):Prop where
 ok:KOk 0 S
 tabs:S.tabs=S00.tabs
 regs:S.regs=S00.regs
 envs:S.envs=S00.envs
 mem:S.mem.length=2560
theorem Et9 {S:KS} (k:Like S) {m:List UInt8} (h:m.length=2560):Like (L5 S m) :=
 ⟨⟨k.ok.envs,k.ok.tabs,k.ok.space,k.ok.quota,by show m.length≤65536;omega,k.ok.regs,k.ok.may,k.ok.mayl,k.ok.nsect,k.ok.sects,k.ok.now⟩,k.tabs,k.regs,k.envs,h⟩
theorem Jo0:Like S00:=⟨Hr6,rfl,rfl,rfl,by kernel_rfl⟩
theorem Jh6 (S:KS) (k:Like S) (cap:Int) (b:List UInt8):Like (wrS S cap b):=by
 unfold wrS W0
 split
 ·exact k
 ·exact Et9 k (by rw [Ik5];exact k.mem)
theorem Ef2:Like S0:=Jh6 S00 Jo0 256 Ae9
def rgP (s:Nat):Rg:=[(1280*s,492),(512,40),(1856,40)]
def frP (S:KS) (s:Nat) (env:Int):Fr:=⟨S,0,env,[256,257,258],rgP s⟩
theorem Hw8:S00.regs=[(0,492),(1280,492),(512,40),(1856,40)]:=by kernel_rfl
theorem Jm9:S00.envs.length=18:=by kernel_rfl
structure EnvP (s:Nat) (env:Int):Prop where
 hs:s<2
 he:0≤env∧env<18
 a:B22 S00.tabs env 256=some ⟨s,3,0,492,0,0⟩
 b:B22 S00.tabs env 257=some ⟨2,3,0,40,0,0⟩
 c:B22 S00.tabs env 258=some ⟨3,3,0,40,0,0⟩
theorem Gr5:EnvP 0 0:=⟨by omega,by omega,by kernel_rfl,by kernel_rfl,by kernel_rfl⟩
theorem Jv1:EnvP 0 3:=⟨by omega,by omega,by kernel_rfl,by kernel_rfl,by kernel_rfl⟩
theorem Eo3 {s j lo n:Nat} (h:(rgP s)[j]?=some (lo,n)):(j=0∧lo=1280*s∧n=492)∨(j=1∧lo=512∧n=40)∨(j=2∧lo=1856∧n=40):=by
 unfold rgP at h
 match j,h with
 | 0,h=>simp at h;omega
 | 1,h=>simp at h;omega
 | 2,h=>simp at h;omega
 | j+3,h=>simp at h
theorem Er7 {S:KS} (k:Like S) {s:Nat} (hs:s<2) (env:Int):∀ (j lo n:Nat),(frP S s env).rg[j]?=some (lo,n)→lo+n≤(frP S s env).S.mem.length:=by
 intro j lo n h
 have hm:=k.mem
 have:=Eo3 h
 show lo+n≤S.mem.length
 omega
theorem G70 {S:KS} (k:Like S) {s:Nat} {env:Int} (e:EnvP s env):FrOk (frP S s env):=by
 have hs:=e.hs;have he:=e.he
 refine ⟨k.ok,by simp [frP],by simp [frP],by simp [frP],by simp [frP,rgP],?_,?_,?_,⟨1280*s,rfl⟩,?_⟩
 ·show ¬ (env<0∨env≥(S.envs.length:Int))
  rw [k.envs,Jm9];omega
 ·intro j cap lo n hc hr
  show ∀ (a m:Nat) (right:Int),right=1∨right=2→a+m≤n→S8 S.tabs S.regs env cap right a m=_
  have hg:=Eo3 hr
  rcases hg with ⟨rfl,rfl,rfl⟩|⟨rfl,rfl,rfl⟩|⟨rfl,rfl,rfl⟩
  ·cases hc
   refine Im2 (obj:=s) (e1:=0) (e2:=0) (by rw [k.tabs];exact e.a) (by omega) ?_ (by omega)
   rw [k.regs,Hw8,Int.toNat_natCast]
   match s,hs with
   | 0,_=>rfl
   | 1,_=>rfl
  ·cases hc
   exact Im2 (obj:=2) (e1:=0) (e2:=0) (by rw [k.tabs];exact e.b) (by omega) (by rw [k.regs,Hw8];rfl) (by omega)
  ·cases hc
   exact Im2 (obj:=3) (e1:=0) (e2:=0) (by rw [k.tabs];exact e.c) (by omega) (by rw [k.regs,Hw8];rfl) (by omega)
 ·intro i j lo n lo' n' hij hi hj
  have h1:=Eo3 hi;have h2:=Eo3 hj
  omega
 ·intro j lo n h0 h
  have:=Eo3 h;omega
abbrev F0:Fr:=frP S0 0 0
def X0:CX:=⟨Df5 S0.mem (rgP 0),[]⟩
theorem Jf0:FrOk F0:=G70 Ef2 Gr5
theorem I99 (A:PlA):Ct A7 Bs5 [.agg ⟨Gh8 Bi3 A⟩] (Dx3 Bi3 A) fun v own =>
  ∃ k c w m,v=.tuple ⟨[P0 k,P0 c,P0 w,P0 m]⟩∧own [cmC c k F0 X0,rkC w K0,rcC m w 0 (B90 K0 0) []]:=by
 intro h r o
 obtain ⟨v,h',e,k,c,w,m,hv,o2⟩:=Ji8 A h r o
 refine ⟨v,h',e,k,c,w,m,hv,?_⟩
 exact Own.cmTake c k F0 [] Jf0 (Er7 Ef2 (by omega) 0) o2
theorem Ip4 {y m:Int} (h:0≤y):Int.tmod y m=y%m:=Int.tmod_eq_emod_of_nonneg h
theorem Af3 {x:Int} (h:0≤x∧x<256):((b8 x).toNat:Int)=x:=by rw [← Bs3,Dy6];omega
theorem Ht6 {p:PipeS} (h:okP p=true):U6 (N6 p)=(p,1):=by
 have hk:=h
 simp only [okP,Bool.and_eq_true,decide_eq_true_eq] at h
 have e:Bf9 (N6 p)=p:=by
  obtain ⟨a,b,c,d,l,hl⟩:=p
  simp only at h
  have h1:=Af3 (x:=a) (by omega);have h2:=Af3 (x:=b) (by omega);have h3:=Af3 (x:=c) (by omega);have h4:=Af3 (x:=d) (by omega)
  simp [Bf9,N6,An1,Eq4 hl]
  exact ⟨h1,h2,h3,h4⟩
 have hz:(N6 p).all (·==0)=false:=by simp [N6,An1]
 unfold U6 isP
 rw [hz,e,hk]
 simp
theorem Gw4 {l b:List UInt8} {a c n:Nat} (h:a+b.length≤l.length) (hd:c+n≤a∨a+b.length≤c):slice (O7 l a b) c n=slice l c n:=by
 refine List.ext_getElem? fun i=>?_
 rw [B72,B72]
 split
 ·rw [Bv5 h,if_neg (by omega)]
 ·rfl
theorem G25 {l b:List UInt8} {a:Nat} (h:a+b.length≤l.length):slice (O7 l a b) a b.length=b:=by
 refine List.ext_getElem? fun i=>?_
 rw [B72]
 split
 ·rw [Bv5 h,if_pos (by omega)];congr 1;omega
 ·rw [List.getElem?_eq_none (by omega)]
abbrev Je0:List Int:=[256,257,258]
def nx (l:List Int) (k:Nat):Int:=if k>l.length then 7*k else l.getD (k-1) 0%16777216
structure InS (p:ProcS):Prop where
 a:0≤p.pending∧p.pending≤65535
 b:0≤p.mask∧p.mask≤65535
 c:0≤p.ignored∧p.ignored≤65535
 d:0≤p.caught∧p.caught≤65535
theorem Ht5 {p:ProcS} (h:okS p=true) (r:InS p):Ac0 (A30 p)=(p,1):=by
 have hk:=h
 obtain ⟨ra,rb,rc,rd⟩:=r
 have e:Bm7 (A30 p)=p:=by
  obtain ⟨st,pa,gr,co,pe,ma,ig,ca,fds,hl⟩:=p
  simp only at ra rb rc rd
  unfold okS at h
  simp only [Bool.and_eq_true,Bool.not_eq_true',Bool.or_eq_false_iff,decide_eq_false_iff_not,List.any_eq_false] at h
  match fds,hl with
  | [f0,f1,f2,f3,f4,f5,f6,f7],hl =>
   have hf:=h.2.2.1
   simp at hf
   have two_b:∀ n:Int,0≤n∧n≤65535→((hi2 n).toNat:Int)*256+((lo2 n).toNat:Int)=n:=fun n hn=>by
    unfold hi2 lo2
    rw [if_pos hn,if_pos hn,Af3 (by omega),← Bs3,Dy6];omega
   have g0:=h.1
   simp only [Bm7,A30,Eq5,two]
   simp
   refine ⟨Af3 (by omega),Af3 (by omega),Af3 (by omega),Af3 (by omega),two_b _ ra,two_b _ rb,two_b _ rc,two_b _ rd,Af3 (by omega),Af3 (by omega),Af3 (by omega),Af3 (by omega),Af3 (by omega),Af3 (by omega),Af3 (by omega),Af3 (by omega)⟩
 have hz:(A30 p).all (·==0)=false:=by
  simp [A30,Eq5]
 unfold Ac0 isS
 rw [hz,e,hk]
 simp
theorem Jq3:Ex2 0 0=true:=by kernel_rfl
theorem Jo3:EnvP 0 1:=⟨by omega,by omega,by kernel_rfl,by kernel_rfl,by kernel_rfl⟩
def stR (kind:Int) (l:List UInt8):Int:=if kind=1 then (Ac0 l).2 else if kind=2 then (Ac4 l).2 else if kind=5 then (At1 l).2 else (U6 l).2
def rd (X:CX) (r:RecS):List UInt8 :=
 match I8 X.m.length r with
 | some (j,a,n)=>slice (X.m.getD j []) a n
 | none=>[]
structure Clean (nc:Nat) (X:CX):Prop where
 len:X.m.length=nc
 pos:0<nc
 bad:X.bad=[]
 own:(X.m.getD 0 []).length=492
 brs:∀ j,0<j→j<nc→(X.m.getD j []).length=40
 ok:∀ r:RecS,1≤r.kind→r.kind≤5→0≤r.index→r.index<Y7 nc r.kind→stR r.kind (rd X r)≠2
structure Rin (nc:Nat) (r:RecS):Prop where
 a:1≤r.kind
 b:r.kind≤5
 c:0≤r.index
 d:r.index<Y7 nc r.kind
theorem Rin.place {nc:Nat} {r:RecS} (h:Rin nc r) (hn:0<nc):∃ j a,I8 nc r=some (j,a,W2 r.kind)∧j<nc∧(j=0→a+W2 r.kind≤492)∧(0<j→a=0∧W2 r.kind=40):=by
 obtain ⟨h1,h2,h3,h4⟩:=h
 obtain ⟨k,i⟩:=r
 simp only at h1 h2 h3 h4
 have hk:k=1∨k=2∨k=3∨k=4∨k=5:=by omega
 unfold I8 W2
 simp only
 rw [if_neg (by omega)]
 rcases hk with rfl|rfl|rfl|rfl|rfl
 ·exact ⟨0,_,rfl,hn,fun _=>by simp [Y7] at h4 ⊢;omega,fun h=>by omega⟩
 ·exact ⟨0,_,rfl,hn,fun _=>by simp [Y7] at h4 ⊢;omega,fun h=>by omega⟩
 ·simp only [Y7] at h4
  by_cases h5:i<4
  ·exact ⟨0,_,by simp [h5];rfl,hn,fun _=>by simp;omega,fun h=>by omega⟩
  ·exact ⟨i.toNat-3,0,by simp [h5],by simp at h4;omega,fun h=>by omega,fun _=>⟨rfl,rfl⟩⟩
 ·exact ⟨0,_,rfl,hn,fun _=>by simp,fun h=>by omega⟩
 ·exact ⟨0,_,rfl,hn,fun _=>by simp,fun h=>by omega⟩
theorem Jb9 {nc:Nat} {r r':RecS} (h:Rin nc r) (h':Rin nc r') (ne:r≠r') {j a n j' a' n':Nat} (e:I8 nc r=some (j,a,n)) (e':I8 nc r'=some (j',a',n')):j≠j'∨a+n≤a'∨a'+n'≤a:=by
 obtain ⟨h1,h2,h3,h4⟩:=h
 obtain ⟨g1,g2,g3,g4⟩:=h'
 obtain ⟨k,i⟩:=r
 obtain ⟨k',i'⟩:=r'
 simp only at h1 h2 h3 h4 g1 g2 g3 g4
 have ne':k≠k'∨i≠i':=by
  by_cases hk:k=k'
  ·right;intro hi;exact ne (by rw [hk,hi])
  ·exact .inl hk
 unfold I8 at e e'
 simp only at e e'
 rw [if_neg (by omega)] at e e'
 unfold Y7 at h4 g4
 have hk:k=1∨k=2∨k=3∨k=4∨k=5:=by omega
 have hk':k'=1∨k'=2∨k'=3∨k'=4∨k'=5:=by omega
 have fin:∀ {x y:Nat × Nat × Nat},some x=some y→x=y:=fun h=>by cases h;rfl
 rcases hk with rfl|rfl|rfl|rfl|rfl<;>rcases hk' with rfl|rfl|rfl|rfl|rfl<;>simp at e e' h4 g4 ne'<;>(try split at e)<;>(try split at e')<;>(try simp at e e')<;>omega
def Df6 (X:CX) (r:RecS) (b:List UInt8):CX :=
 match I8 X.m.length r with
 | some (j,a,_)=>{ X with m:=X.m.set j (O7 (X.m.getD j []) a b) }
 | none=>X
theorem Gs0 (l:List (List UInt8)) (j j':Nat) (x:List UInt8) (h:j<l.length):(l.set j x).getD j' []=if j'=j then x else l.getD j' []:=by
 rw [List.getD_eq_getElem?_getD,List.getD_eq_getElem?_getD,List.getElem?_set]
 by_cases hj:j=j'
 ·subst hj;simp [h]
 ·rw [if_neg hj,if_neg (fun e=>hj e.symm)]
section
variable {nc:Nat} {X:CX} (c:Clean nc X) {r r':RecS} (h:Rin nc r) (h':Rin nc r')
include c h
theorem I21:rdX X r=some (rd X r):=by
 obtain ⟨j,a,e,_⟩:=h.place c.pos
 unfold rdX rd
 rw [c.len,e]
 simp [c.bad]
theorem Do6 (b:List UInt8):wrX X r b true=(true,Df6 X r b):=by
 obtain ⟨j,a,e,_⟩:=h.place c.pos
 unfold wrX Df6
 rw [c.len,e]
 simp [c.bad]
theorem Ge9 {j a n:Nat} (e:I8 nc r=some (j,a,n)):a+n≤(X.m.getD j []).length∧j<X.m.length∧n=W2 r.kind:=by
 obtain ⟨j',a',e',hj,h0,h1⟩:=h.place c.pos
 rw [e] at e';cases e'
 rw [c.len]
 by_cases hz:j=0
 ·subst hz;rw [c.own];exact ⟨h0 rfl,hj,rfl⟩
 ·rw [c.brs j (by omega) hj]
  have:=h1 (by omega)
  exact ⟨by omega,hj,rfl⟩
include h'
theorem Aq0 {b:List UInt8} (hb:b.length=W2 r.kind):rd (Df6 X r b) r'=if r'=r then b else rd X r':=by
 obtain ⟨j,a,e,_⟩:=h.place c.pos
 obtain ⟨j',a',e',_⟩:=h'.place c.pos
 have p:=Ge9 c h e
 have p':=Ge9 c h' e'
 have es:Df6 X r b={ X with m:=X.m.set j (O7 (X.m.getD j []) a b) }:=by unfold Df6;rw [c.len,e]
 have el:(Df6 X r b).m.length=nc:=by rw [es];simp [c.len]
 unfold rd
 rw [el,e',c.len,e',es]
 simp only
 rw [Gs0 _ _ _ _ p.2.1]
 by_cases hr:r'=r
 ·subst hr
  rw [e] at e';cases e'
  rw [if_pos rfl,if_pos rfl]
  have:=G25 (l:=X.m.getD j []) (b:=b) (a:=a) (by omega)
  rwa [hb] at this
 ·rw [if_neg hr]
  by_cases hj:j'=j
  ·subst hj
   rw [if_pos rfl]
   have dj:=Jb9 h' h hr e' e
   exact Gw4 (by omega) (by omega)
  ·rw [if_neg hj]
end
theorem Do9 {nc:Nat} {X:CX} (c:Clean nc X) {r:RecS} (h:Rin nc r) {b:List UInt8} (hb:b.length=W2 r.kind) (hs:stR r.kind b≠2):Clean nc (Df6 X r b):=by
 obtain ⟨j,a,e,_⟩:=h.place c.pos
 have p:=Ge9 c h e
 have es:Df6 X r b={ X with m:=X.m.set j (O7 (X.m.getD j []) a b) }:=by unfold Df6;rw [c.len,e]
 refine ⟨by rw [es];simp [c.len],c.pos,by rw [es];exact c.bad,?_,?_,?_⟩
 ·rw [es];simp only
  rw [Gs0 _ _ _ _ p.2.1]
  split
  ·rename_i h0;subst h0;rw [Ak4 (by omega)];exact c.own
  ·exact c.own
 ·intro i h0 h1
  rw [es];simp only
  rw [Gs0 _ _ _ _ p.2.1]
  split
  ·rename_i h2;subst h2;rw [Ak4 (by omega)];exact c.brs i h0 h1
  ·exact c.brs i h0 h1
 ·intro r' h1 h2 h3 h4
  rw [Aq0 c h ⟨h1,h2,h3,h4⟩ hb]
  split
  ·rename_i hr;rw [hr];exact hs
  ·exact c.ok r' h1 h2 h3 h4
theorem Dq5 {α:Type} (dec:List UInt8→α × Int) (z:α) {nc:Nat} {X:CX} (c:Clean nc X) {r:RecS} (h:Rin nc r) (hd:(dec (rd X r)).2=stR r.kind (rd X r)):Z6 dec z X r=(dec (rd X r),X):=by
 unfold Z6
 rw [I21 c h]
 simp only
 rw [if_neg (by rw [hd];exact c.ok r h.a h.b h.c h.d)]
abbrev vS (X:CX) (i:Int):ProcS × Int:=Ac0 (rd X ⟨1,i⟩)
abbrev vF (X:CX) (i:Int):FileS × Int:=Ac4 (rd X ⟨2,i⟩)
abbrev vP (X:CX) (i:Int):PipeS × Int:=U6 (rd X ⟨3,i⟩)
theorem D75 {nc:Nat} {i:Int} (h:0≤i∧i<8):Rin nc ⟨1,i⟩:=⟨by simp,by simp,h.1,h.2⟩
theorem Bx8 {nc:Nat} {i:Int} (h:0≤i∧i<12):Rin nc ⟨2,i⟩:=⟨by simp,by simp,h.1,h.2⟩
theorem Br4 {nc:Nat} {i:Int} (h:0≤i∧i<3+nc):Rin nc ⟨3,i⟩:=⟨by simp,by simp,h.1,h.2⟩
theorem Aj4 {nc:Nat} {X:CX} (c:Clean nc X) {i:Int} (h:0≤i∧i<8):Ez1 X i=(vS X i,X):=Dq5 Ac0 .zero c (D75 h) rfl
theorem Bm1 {nc:Nat} {X:CX} (c:Clean nc X) {i:Int} (h:0≤i∧i<12):Es3 X i=(vF X i,X):=Dq5 Ac4 .zero c (Bx8 h) rfl
theorem Dn2 {nc:Nat} {X:CX} (c:Clean nc X) {i:Int} (h:0≤i∧i<3+nc):D06 X i=(vP X i,X):=Dq5 U6 .zero c (Br4 h) rfl
theorem D04 {f:CX→Int→CX} {X:CX}:∀ (m:Nat) (i:Int),(∀ j,i≤j→j<i+m→f X j=X)→Dy0 f m i X=X
 | 0,_,_=>rfl
 | m+1,i,h=>by
  unfold Dy0
  rw [h i (by omega) (by omega)]
  exact D04 m (i+1) fun j h1 h2=>h j (by omega) (by omega)
theorem Af8 {nc:Nat} {X:CX} (c:Clean nc X):Gz3 X=X:=by
 have h3:Gz9 X=X:=by
  unfold Gz9
  have e1:Gg9 X=(U6 (rd X ⟨4,0⟩),X):=Dq5 U6 .zero c ⟨by simp,by simp,by simp,by simp [Y7]⟩ rfl
  have e2:Gc8 X=(At1 (rd X ⟨5,0⟩),X):=Dq5 At1 0 c ⟨by simp,by simp,by simp,by simp [Y7]⟩ rfl
  rw [e1];simp only;rw [e2]
 have hl:=c.len
 unfold Gz3 lookN Hw6 Hp6
 rw [D04 8 0 (fun j h1 h2=>by rw [Aj4 c (by omega)])]
 rw [D04 12 0 (fun j h1 h2=>by rw [Bm1 c (by omega)])]
 rw [D04 (3+X.m.length) 0 (fun j h1 h2=>by rw [Dn2 c (by omega)]),h3]
theorem Hv8 {f:FileS} (h:okF f=true):Ac4 (Ao3 f)=(f,1):=by
 have hk:=h
 simp only [okF,Bool.and_eq_true,Bool.or_eq_true,decide_eq_true_eq,beq_iff_eq,bne_iff_ne] at h
 have e:Dj7 (Ao3 f)=f:=by
  obtain ⟨a,b,c,d⟩:=f
  simp only at h
  have h1:=Af3 (x:=a) (by omega);have h2:=Af3 (x:=b) (by omega);have h3:=Af3 (x:=c) (by omega);have h4:=Af3 (x:=d) (by omega)
  simp [Dj7,Ao3,Bh6]
  exact ⟨h1,h2,h3,h4⟩
 have hz:(Ao3 f).all (·==0)=false:=by simp [Ao3,Bh6]
 unfold Ac4 isF
 rw [hz,e,hk]
 simp
section
variable {nc:Nat} {X:CX} (c:Clean nc X)
include c
abbrev A90 (X:CX) (i:Int) (p:ProcS):CX:=Df6 X ⟨1,i⟩ (A30 p)
abbrev A29 (X:CX) (i:Int) (f:FileS):CX:=Df6 X ⟨2,i⟩ (Ao3 f)
theorem Bc2 {i:Int} (h:0≤i∧i<8) {p:ProcS} (ok:okS p=true) (r:InS p) :
  Az4 X i p=(true,A90 X i p)∧Clean nc (A90 X i p)∧(∀ j:Int,0≤j∧j<8→vS (A90 X i p) j=if j=i then (p,1) else vS X j)∧(∀ j:Int,0≤j∧j<12→vF (A90 X i p) j=vF X j)∧(∀ j:Int,0≤j∧j<3+nc→vP (A90 X i p) j=vP X j):=by
 have hl:(A30 p).length=W2 (1:Int):=by rw [Ew0];rfl
 refine ⟨by unfold Az4;rw [ok];exact Do6 c (D75 h) _,Do9 c (D75 h) hl (by show (Ac0 (A30 p)).2≠2;rw [Ht5 ok r];simp),fun j hj=>?_,fun j hj=>?_,fun j hj=>?_⟩
 ·show Ac0 (rd _ _)=_
  rw [Aq0 c (D75 h) (D75 hj) hl]
  by_cases e:j=i
  ·rw [if_pos (by rw [e]),if_pos e];exact Ht5 ok r
  ·rw [if_neg (by simp [e]),if_neg e]
 ·show Ac4 (rd _ _)=_
  rw [Aq0 c (D75 h) (Bx8 hj) hl,if_neg (by simp)]
 ·show U6 (rd _ _)=_
  rw [Aq0 c (D75 h) (Br4 hj) hl,if_neg (by simp)]
theorem An7 {i:Int} (h:0≤i∧i<12) {f:FileS} (ok:okF f=true) :
  Br6 X i f=(true,A29 X i f)∧Clean nc (A29 X i f)∧(∀ j:Int,0≤j∧j<8→vS (A29 X i f) j=vS X j)∧(∀ j:Int,0≤j∧j<12→vF (A29 X i f) j=if j=i then (f,1) else vF X j)∧(∀ j:Int,0≤j∧j<3+nc→vP (A29 X i f) j=vP X j):=by
 have hl:(Ao3 f).length=W2 (2:Int):=by rw [D91];rfl
 refine ⟨by unfold Br6;rw [ok];exact Do6 c (Bx8 h) _,Do9 c (Bx8 h) hl (by show (Ac4 (Ao3 f)).2≠2;rw [Hv8 ok];simp),fun j hj=>?_,fun j hj=>?_,fun j hj=>?_⟩
 ·show Ac0 (rd _ _)=_
  rw [Aq0 c (Bx8 h) (D75 hj) hl,if_neg (by simp)]
 ·show Ac4 (rd _ _)=_
  rw [Aq0 c (Bx8 h) (Bx8 hj) hl]
  by_cases e:j=i
  ·rw [if_pos (by rw [e]),if_pos e];exact Hv8 ok
  ·rw [if_neg (by simp [e]),if_neg e]
 ·show U6 (rd _ _)=_
  rw [Aq0 c (Bx8 h) (Br4 hj) hl,if_neg (by simp)]
theorem Jg1 {i:Int} (h:0≤i∧i<8):((vS X i).2=0∧(vS X i).1=.zero)∨((vS X i).2=1∧okS (vS X i).1=true):=by
 have:=c.ok ⟨1,i⟩ (by simp) (by simp) h.1 h.2
 have hk:(vS X i).2≠2:=this
 unfold vS Ac0 at hk ⊢
 split
 ·exact .inl ⟨rfl,rfl⟩
 ·split
  ·rename_i h2
   unfold isS at h2
   simp only [Bool.and_eq_true] at h2
   exact .inr ⟨rfl,h2.1⟩
  ·rename_i h1 h2;simp [h1,h2] at hk
theorem Hp0 {i:Int} (h:0≤i∧i<12):((vF X i).2=0∧(vF X i).1=.zero)∨((vF X i).2=1∧okF (vF X i).1=true):=by
 have:=c.ok ⟨2,i⟩ (by simp) (by simp) h.1 h.2
 have hk:(vF X i).2≠2:=this
 unfold vF Ac4 at hk ⊢
 split
 ·exact .inl ⟨rfl,rfl⟩
 ·split
  ·rename_i h2
   unfold isF at h2
   simp only [Bool.and_eq_true] at h2
   exact .inr ⟨rfl,h2.1⟩
  ·rename_i h1 h2;simp [h1,h2] at hk
end
abbrev P3 (n e:Int) (b:Bool):List Value:=[int n,int e,.slice none 0 0,.bool b]
theorem Gg1 (e:Int):Ct A7 A78 [int e] [] fun v own=>v=.agg ⟨P3 0 e false⟩∧own []:=by
 refine Ct.of H74 rfl fun h r=>Tr.eq (If0 ..) ?_;refine Je ?_
 (refine Ja ?_;intros)
 refine Ys fun o=>?_
 exact ⟨rfl,o.sub⟩
theorem Gh4 (ok:Bool) (n:Int):Ct A7 A75 [.bool ok,int n] [] fun v own=>v=.agg ⟨if ok then P3 n 0 false else P3 0 105 false⟩∧own []:=by
 refine Ct.of H82 rfl fun h r=>Tr.eq (H88 ..) ?_;refine Je ?_
 cases ok with
 | true =>
  (refine Ja ?_;intros)
  refine Ys fun o=>?_
  exact ⟨rfl,o.sub⟩
 | false =>
  (refine Ja ?_;intros)
  refine Yc (Gg1 105) ?_;rintro _ h ⟨rfl,o⟩<;>(refine Jf o ?_;intros)
  refine Ys fun o=>?_
  exact ⟨rfl,o.sub⟩
def P5 (X:CX) (i:Int):ProcS × Int:=if (vS X i).2=1∧(vS X i).1.state=1 then ((vS X i).1,0) else (.zero,105)
theorem Ep3 (b k:Nat) (F:Fr) (X:CX) (ok:FrOk F) {nc:Nat} (c:Clean nc X) (i:Int) (hi:0≤i∧i<8):Ct A7 Ay0 [P0 b,int i] [cmC b k F X] fun v own=>v=.tuple ⟨[.agg ⟨D7 (P5 X i).1⟩,int (P5 X i).2]⟩∧own [cmC b k F X]:=by
 refine Ct.of H71 rfl fun h r=>Tr.eq (Ia0 ..) ?_;refine Je ?_
 (refine Jc ?_;intros)
 refine Yn fun b0 h=>?_
 refine Yc (A37 b k F X ok) ?_;rintro _ h ⟨rfl,o⟩<;>refine Jh o ?_
 rw [Af8 c]
 (refine Ja ?_;intros)
 refine Yc (A84 b k F X ok i) ?_;rintro _ h ⟨rfl,o⟩<;>refine Jh o ?_
 rw [Aj4 c hi]
 dsimp only
 (refine Jc ?_;intros)
 refine Yn fun b1 h=>?_
 (refine Jb ?_;intros)
 refine Tr.orG (c:=(vS X i).1.state != 1) (fun hb=>?_) ?_
 ·exact Jz
 unfold P5
 by_cases h1:(vS X i).2=1∧(vS X i).1.state=1
 ·rw [if_pos h1]
  refine Yf (by simp [h1.1,h1.2]) ?_
  (refine Ja ?_;intros)
  refine Ys fun o=>?_
  exact ⟨rfl,o.sub⟩
 ·rw [if_neg h1]
  refine Yt (by simp;by_cases h2:(vS X i).2=1<;>simp [h2] at h1 ⊢;exact h1) ?_
  (refine Ja ?_;intros)
  refine Ys fun o=>?_
  exact ⟨rfl,o.sub⟩
def Ap5 (X:CX):Nat→Int→Int
 | 0,_=>-1
 | m+1,i=>if (vS X i).2=0 then i else Ap5 X m (i+1)
theorem Ip0 (b k:Nat) (F:Fr) (X:CX) (ok:FrOk F) {nc:Nat} (c:Clean nc X):∀ (m:Nat) (i:Int),0≤i→i+m=8 →
  CtJ I1 Ax3 Bu5 [(0,P0 b),(6,int i)] [cmC b k F X] fun v own=>v=int (Ap5 X m i)∧own [cmC b k F X]:=by
 intro m
 induction m with
 | zero =>
  intro i h0 hi
  refine CtJ.of Ek7 fun h r=>Tr.eq (Ep8 ..) ?_;refine Je ?_
  refine Yf (by simp;omega) ?_
  refine Ys fun o=>?_
  exact ⟨rfl,o.sub⟩
 | succ m ih =>
  intro i h0 hi
  have e1:=wI i
  refine CtJ.of Ek7 fun h r=>Tr.eq (Ep8 ..) ?_;refine Je ?_
  refine Yt (by simp;omega) ?_
  refine Yc (A84 b k F X ok i) ?_;rintro _ h ⟨rfl,o⟩<;>refine Jh o ?_
  rw [Aj4 c (by omega)]
  dsimp only
  (refine Jc ?_;intros)
  refine Yn fun b1 h=>?_
  (refine Ja ?_;intros)
  rw [show Ap5 X (m+1) i=if (vS X i).2=0 then i else Ap5 X m (i+1) from rfl]
  by_cases h1:(vS X i).2=0
  ·rw [if_pos h1]
   refine Yt (by simpa using h1) ?_
   refine Ys fun o=>?_
   exact ⟨rfl,o.sub⟩
  ·rw [if_neg h1,e1]
   refine Yf (by simpa using h1) ?_
   refine Ad0 [1] 1 rfl rfl ?_
   refine Yr (ih (i+1) (by omega) (by omega)) ?_
   intro v h q
   exact q
theorem Jh9 (b k:Nat) (F:Fr) (X:CX) (ok:FrOk F) {nc:Nat} (c:Clean nc X):Ct A7 Ax3 [P0 b] [cmC b k F X] fun v own=>v=int (Ap5 X 8 0)∧own [cmC b k F X]:=by
 refine Ct.of Ek7 rfl fun h r=>Tr.eq (Ie2 ..) ?_;refine Je ?_
 refine Yr (Ip0 b k F X ok c 8 0 (by omega) (by omega)) ?_
 intro v h q
 exact q
def Bu2:List Int→List Int→List Int
 | [],m=>m
 | f::l,m=>Bu2 l (if f>0 then m.set (f-1).toNat (m.getD (f-1).toNat 0+1) else m)
def Ah7 (n:Int) (m:List Int):Prop:=m.length=12∧∀ x ∈ m,0≤x∧x≤n
theorem Ah7.get {n:Int} {m:List Int} (h:Ah7 n m) {j:Nat} (hj:j<12):0≤m.getD j 0∧m.getD j 0≤n:=by
 have hl:=h.1
 have e:m[j]?=some m[j]:=List.getElem?_eq_getElem (by omega)
 rw [List.getD_eq_getElem?_getD,e]
 exact h.2 _ (List.getElem_mem _)
theorem Ah7.set {n:Int} {m:List Int} (h:Ah7 n m) {j:Nat} (hj:j<12):Ah7 (n+1) (m.set j (m.getD j 0+1)):=by
 refine ⟨by simpa using h.1,fun x hx=>?_⟩
 rcases List.mem_or_eq_of_mem_set hx with h2|rfl
 ·have:=h.2 x h2;omega
 ·have:=h.get hj;omega
theorem Ah7.up {n:Int} {m:List Int} (h:Ah7 n m):Ah7 (n+1) m:=⟨h.1,fun x hx=>by have:=h.2 x hx;omega⟩
theorem Ja1 {m:List Int} {j:Nat} (h:j<m.length) (v:Int):Dt5 (m.map int) j (int v)=some ((m.set j v).map int):=by
 rw [Dt5,show Nat.blt j (m.map int).length=true from Nat.ble_eq_true_of_le (by simp;omega),List.map_set];rfl
def B91 (l:List Int):Prop:=∀ f ∈ l,0≤f∧f≤12
theorem Ha1 {l:List Int} {i:Nat} (h:i<l.length):(l.map int)[i]?=some (int (l.getD i 0)):=by rw [List.getElem?_map,Q6 0 h];rfl
theorem H61 (b k:Nat) (F:Fr) (X:CX) (b0 b1:Nat) (p:ProcS) (hf:B91 p.fds) (Φ:Value→(List HP→Prop)→Prop) (M:List Int)
  (next:CtJ I1 I4 Ar6 [(0,P0 b),(5,P0 b1),(31,.agg ⟨p.fds.map int⟩),(32,int 0)] [pt b1 (.cells Ez8 false (M.map int)),cmC b k F X] Φ) :
  ∀ (m i:Nat) (more:List Int),i+m=8→Ah7 i more→Bu2 (p.fds.drop i) more=M →
  CtJ I1 I4 A41 [(0,P0 b),(3,P0 b0),(5,P0 b1),(17,.agg ⟨p.fds.map int⟩),(18,int i)] [pt b1 (.cells Ez8 false (more.map int)),pt b0 (.cells D0 false (D7 p)),cmC b k F X] Φ:=by
 intro m
 induction m with
 | zero =>
  intro i more hi hm hM
  have:i=8:=by omega
  subst this
  rw [show p.fds.drop 8=[] from List.drop_eq_nil_of_le (by rw [p.len];omega),show Bu2 [] more=more from rfl] at hM
  subst hM
  refine CtJ.of A08 fun h r=>Tr.eq (Ec5 ..) ?_;refine Je ?_
  refine Yf (by simp) ?_
  (refine Ja ?_;intros)
  refine Ad0 [0,1] 1 rfl rfl ?_
  refine Yr next ?_
  intro v h q
  exact q
 | succ m ih =>
  intro i more hi hm hM
  have e1:=wN i
  have hil:i<p.fds.length:=by rw [p.len];omega
  have hg:=Ha1 hil
  have hd:p.fds.drop i=p.fds.getD i 0::p.fds.drop (i+1):=by
   rw [List.drop_eq_getElem_cons hil,List.getD_eq_getElem?_getD,List.getElem?_eq_getElem hil];rfl
  have hr:0≤p.fds.getD i 0∧p.fds.getD i 0≤12:=hf _ (by
   rw [List.getD_eq_getElem?_getD,List.getElem?_eq_getElem hil];exact List.getElem_mem _)
  rw [hd] at hM
  generalize p.fds.getD i 0=f at hg hr hM
  rw [show Bu2 (f::p.fds.drop (i+1)) more=Bu2 (p.fds.drop (i+1)) (if f>0 then more.set (f-1).toNat (more.getD (f-1).toNat 0+1) else more) from rfl] at hM
  refine CtJ.of A08 fun h r=>Tr.eq (Ec5 ..) ?_;refine Je ?_
  refine Yt (by simp;omega) ?_
  rw [e1]
  refine Tr.ck (by omega) ?_
  rw [Int.toNat_natCast]
  (refine Ja ?_;intros)
  by_cases hz:f>0
  ·have e2:IntKind.wrap .i64 (f-1)=f-1:=by rw [B4];omega
   have hj:(f-1).toNat<12:=by omega
   have hm2:=hm.get hj
   have e3:IntKind.wrap .i64 (more.getD (f-1).toNat 0+1)=more.getD (f-1).toNat 0+1:=by rw [B4];omega
   have hgm:=Ha1 (l:=more) (i:=(f-1).toNat) (by rw [hm.1];exact hj)
   rw [if_pos hz] at hM
   rw [e2]
   refine Yt (by simpa using hz) ?_
   (refine Ja ?_;intros)
   rw [e3]
   refine Gs (fun h=>?_) (by exact Ja1 (by rw [hm.1];exact hj) _)
   refine Yr (ih (i+1) (more.set (f-1).toNat (more.getD (f-1).toNat 0+1)) (by omega) (by rw [show ((i+1:Nat):Int)=(i:Int)+1 by omega];exact hm.set hj) hM) ?_
   intro v h q
   exact q
  ·rw [if_neg hz] at hM
   refine Yf (by simpa using hz) ?_
   refine Yr (ih (i+1) more (by omega) (by simpa using hm.up) hM) ?_
   intro v h q
   exact q
def Ah0 (X:CX) (more:List Int):List Int→Int
 | []=>0
 | f::l=>if f=0 then Ah0 X more l else if (vF X (f-1)).2≠1 then 105 else if (vF X (f-1)).1.refs+more.getD (f-1).toNat 0>64 then 123 else Ah0 X more l
theorem Gi4 {f:FileS} (h:okF f=true):1≤f.refs∧f.refs≤64:=by
 simp only [okF,Bool.and_eq_true,Bool.or_eq_true,decide_eq_true_eq,beq_iff_eq,bne_iff_ne] at h
 omega
theorem G79 {nc:Nat} {X:CX} (c:Clean nc X) {i:Int} (h:0≤i∧i<12):0≤(vF X i).1.refs∧(vF X i).1.refs≤64:=by
 rcases Hp0 c h with ⟨_,h1⟩|⟨_,h1⟩
 ·rw [h1];simp
 ·have:=Gi4 h1;omega
theorem Ie1 (b k:Nat) (F:Fr) (X:CX) (ok:FrOk F) {nc:Nat} (c:Clean nc X) (b1:Nat) (fds more:List Int) (hl:fds.length=8) (hf:B91 fds) (hm:Ah7 8 more) (Φ:Value→(List HP→Prop)→Prop)
  (bad:∀ (e:Int),Ah0 X more fds=e→e≠0→∀ h r,Own h (cmC b k F X::r)→Φ (int e) fun l=>Own h (l++r))
  (next:Ah0 X more fds=0→CtJ I1 I4 Ar8 [(0,P0 b),(57,.agg ⟨more.map int⟩),(58,int 0)] [cmC b k F X] Φ) :
  ∀ (m i:Nat),i+m=8→Ah0 X more fds=Ah0 X more (fds.drop i) →
  CtJ I1 I4 Ar6 [(0,P0 b),(5,P0 b1),(31,.agg ⟨fds.map int⟩),(32,int i)] [pt b1 (.cells Ez8 false (more.map int)),cmC b k F X] Φ:=by
 intro m
 induction m with
 | zero =>
  intro i hi he
  have:i=8:=by omega
  subst this
  rw [show fds.drop 8=[] from List.drop_eq_nil_of_le (by omega),show Ah0 X more []=0 from rfl] at he
  have hl12:Dm1 (more.map int) 0 12=some (more.map int):=B77 (by simp [hm.1])
  refine CtJ.of A08 fun h r=>Tr.eq (Ed8 ..) ?_;refine Je ?_
  refine Yf (by simp) ?_
  refine Gs ?_ (by exact hl12)
  refine Ad0 [1] 1 rfl rfl ?_
  refine Yr (next he) ?_
  intro v h q
  exact q
 | succ m ih =>
  intro i hi he
  have e1:=wN i
  have hil:i<fds.length:=by omega
  have hg:=Ha1 hil
  have hd:fds.drop i=fds.getD i 0::fds.drop (i+1):=by
   rw [List.drop_eq_getElem_cons hil,List.getD_eq_getElem?_getD,List.getElem?_eq_getElem hil];rfl
  have hr:0≤fds.getD i 0∧fds.getD i 0≤12:=hf _ (by
   rw [List.getD_eq_getElem?_getD,List.getElem?_eq_getElem hil];exact List.getElem_mem _)
  rw [hd] at he
  generalize fds.getD i 0=f at hg hr he
  rw [show Ah0 X more (f::fds.drop (i+1))=if f=0 then Ah0 X more (fds.drop (i+1)) else if (vF X (f-1)).2≠1 then 105 else if (vF X (f-1)).1.refs+more.getD (f-1).toNat 0>64 then 123 else Ah0 X more (fds.drop (i+1)) from rfl] at he
  refine CtJ.of A08 fun h r=>Tr.eq (Ed8 ..) ?_;refine Je ?_
  refine Yt (by simp;omega) ?_
  rw [e1]
  refine Tr.ck (by omega) ?_
  rw [Int.toNat_natCast]
  (refine Ja ?_;intros)
  by_cases hz:f=0
  ·rw [if_pos hz] at he
   refine Yt (by simpa using hz) ?_
   refine Yr (ih (i+1) (by omega) he) ?_
   intro v h q
   exact q
  rw [if_neg hz] at he
  refine Yf (by simpa using hz) ?_
  have e2:IntKind.wrap .i64 (f-1)=f-1:=by rw [B4];omega
  have hj:(f-1).toNat<12:=by omega
  rw [e2]
  refine Yc (Dk9 b k F X ok (f-1)) ?_;rintro _ h ⟨rfl,o⟩<;>refine Jh o ?_
  rw [Bm1 c (by omega)]
  dsimp only
  (refine Jc ?_;intros)
  refine Yn fun b2 h=>?_
  (refine Ja ?_;intros)
  by_cases h1:(vF X (f-1)).2=1
  ·rw [if_neg (by simpa using h1)] at he
   refine Yf (by simpa using h1) ?_
   have hm2:=hm.get hj
   have hgm:=Ha1 (l:=more) (i:=(f-1).toNat) (by rw [hm.1];exact hj)
   have hrf:=G79 c (i:=f-1) (by omega)
   have e3:IntKind.wrap .i64 ((vF X (f-1)).1.refs+more.getD (f-1).toNat 0)=(vF X (f-1)).1.refs+more.getD (f-1).toNat 0:=by rw [B4];omega
   (refine Ja ?_;intros)
   rw [e3]
   by_cases h2:(vF X (f-1)).1.refs+more.getD (f-1).toNat 0>64
   ·rw [if_pos h2] at he
    refine Yt (by simpa using h2) ?_
    refine Ad0 [1] 2 rfl rfl ?_
    refine Ys fun o=>?_
    exact bad 123 he (by simp) _ _ o
   ·rw [if_neg h2] at he
    refine Yf (by simpa using h2) ?_
    refine Ad0 [2,1] 1 rfl rfl ?_
    refine Yr (ih (i+1) (by omega) he) ?_
    intro v h q
    exact q
  ·rw [if_pos h1] at he
   refine Yt (by simpa using h1) ?_
   refine Ad0 [1] 2 rfl rfl ?_
   refine Ys fun o=>?_
   exact bad 105 he (by simp) _ _ o
abbrev B53 (f:FileS) (n:Int):FileS:=⟨f.kind,f.pipe,f.refs+n,f.flags⟩
def Bl0 (more:List Int):Nat→Int→CX→CX
 | 0,_,X=>X
 | m+1,j,X=>Bl0 more m (j+1) (if more.getD j.toNat 0=0 then X else A29 X j (B53 (vF X j).1 (more.getD j.toNat 0)))
def G77 (more:List Int) (X:CX) (j:Int):Prop:=∀ i:Int,j≤i→i<12→more.getD i.toNat 0≠0→(vF X i).2=1∧(vF X i).1.refs+more.getD i.toNat 0≤64
theorem Gr3 {f:FileS} (h:okF f=true) {n:Int} (hn:1≤f.refs+n∧f.refs+n≤64):okF (B53 f n)=true:=by
 simp only [okF,Bool.and_eq_true,Bool.or_eq_true,decide_eq_true_eq,beq_iff_eq,bne_iff_ne] at h ⊢
 omega
theorem G77.step {nc:Nat} {X:CX} (c:Clean nc X) {more:List Int} (hm:Ah7 8 more) {j:Int} (h0:0≤j∧j<12) (s:G77 more X j) (hz:more.getD j.toNat 0≠0) :
  okF (B53 (vF X j).1 (more.getD j.toNat 0))=true∧G77 more (A29 X j (B53 (vF X j).1 (more.getD j.toNat 0))) (j+1):=by
 obtain ⟨s1,s2⟩:=s j (by omega) (by omega) hz
 have hg:=hm.get (j:=j.toNat) (by omega)
 have hk:okF (vF X j).1=true:=by
  rcases Hp0 c h0 with ⟨h1,_⟩|⟨_,h1⟩
  ·omega
  ·exact h1
 have hr:=Gi4 hk
 have k:=Gr3 hk (n:=more.getD j.toNat 0) (by omega)
 refine ⟨k,fun i h1 h2 hi=>?_⟩
 rw [(An7 c h0 k).2.2.2.1 i (by omega),if_neg (by omega)]
 exact s i (by omega) h2 hi
theorem Ia4 (b k:Nat) (F:Fr) (ok:FrOk F) {nc:Nat} (more:List Int) (hm:Ah7 8 more):∀ (m:Nat) (j:Int) (X:CX),Clean nc X→G77 more X j→0≤j→j+m=12 →
  CtJ I1 I4 Ar8 [(0,P0 b),(57,.agg ⟨more.map int⟩),(58,int j)] [cmC b k F X] fun v own=>v=int 0∧own [cmC b k F (Bl0 more m j X)]:=by
 intro m
 induction m with
 | zero =>
  intro j X c s h0 hj
  refine CtJ.of A08 fun h r=>Tr.eq (Ec7 ..) ?_;refine Je ?_
  refine Yf (by simp;omega) ?_
  refine Ys fun o=>?_
  rw [show Bl0 more 0 j X=X from rfl]
  exact ⟨rfl,o.sub⟩
 | succ m ih =>
  intro j X c s h0 hj
  have e1:=wI j
  have hg:=Ha1 (l:=more) (i:=j.toNat) (by rw [hm.1];omega)
  have hm2:=hm.get (j:=j.toNat) (by omega)
  rw [show Bl0 more (m+1) j X=Bl0 more m (j+1) (if more.getD j.toNat 0=0 then X else A29 X j (B53 (vF X j).1 (more.getD j.toNat 0))) from rfl]
  refine CtJ.of A08 fun h r=>Tr.eq (Ec7 ..) ?_;refine Je ?_
  refine Yt (by simp;omega) ?_
  rw [e1]
  (refine Ja ?_;intros)
  by_cases hz:more.getD j.toNat 0=0
  ·rw [if_pos hz]
   refine Yt (by simpa using hz) ?_
   refine Yr (ih (j+1) X c (fun i h1 h2 h3=>s i (by omega) h2 h3) (by omega) (by omega)) ?_
   intro v h q
   exact q
  ·rw [if_neg hz]
   refine Yf (by simpa using hz) ?_
   have hrf:=G79 c (i:=j) (by omega)
   have e3:IntKind.wrap .i64 ((vF X j).1.refs+more.getD j.toNat 0)=(vF X j).1.refs+more.getD j.toNat 0:=by rw [B4];omega
   obtain ⟨k1,s2⟩:=s.step c hm (by omega) hz
   obtain ⟨w1,w2,_⟩:=An7 c (i:=j) (by omega) k1
   refine Yc (Dk9 b k F X ok j) ?_;rintro _ h ⟨rfl,o⟩<;>refine Jh o ?_
   rw [Bm1 c (by omega)]
   dsimp only
   (refine Jc ?_;intros)
   refine Yn fun b2 h=>?_
   (refine Ja ?_;intros)
   simp only [e3,List.set_cons_succ,List.set_cons_zero,List.drop_zero,List.take]
   refine Yc (Dm4 b k F X ok j (B53 (vF X j).1 (more.getD j.toNat 0))) ?_;rintro _ h ⟨rfl,o⟩<;>refine Jh o ?_
   rw [w1]
   dsimp only
   (refine Ja ?_;intros)
   refine Ad0 [0] 1 rfl rfl ?_
   refine Yr (ih (j+1) _ w2 s2 (by omega) (by omega)) ?_
   intro v h q
   exact q
theorem Ga5:∀ (l m:List Int) (i:Nat),B91 l→m.length=12→(Bu2 l m).getD i 0≠0→m.getD i 0≠0∨((i:Int)+1) ∈ l
 | [],m,i,_,_,h=>.inl h
 | f::l,m,i,hf,hm,h=>by
  have hr:=hf f (by simp)
  have hl:B91 l:=fun x hx=>hf x (by simp [hx])
  rw [show Bu2 (f::l) m=Bu2 l (if f>0 then m.set (f-1).toNat (m.getD (f-1).toNat 0+1) else m) from rfl] at h
  by_cases hz:f>0
  ·rw [if_pos hz] at h
   rcases Ga5 l _ i hl (by simpa using hm) h with h2|h2
   ·by_cases hi:(f-1).toNat=i
    ·right
     rw [show (i:Int)+1=f by omega];simp
    ·left
     rw [List.getD_eq_getElem?_getD,List.getElem?_set_ne hi,← List.getD_eq_getElem?_getD] at h2
     exact h2
   ·exact .inr (by simp [h2])
  ·rw [if_neg hz] at h
   rcases Ga5 l m i hl hm h with h2|h2
   ·exact .inl h2
   ·exact .inr (by simp [h2])
theorem El4:∀ (l m:List Int) (n:Int),B91 l→Ah7 n m→Ah7 (n+l.length) (Bu2 l m)
 | [],m,n,_,h=>by simpa [Bu2] using h
 | f::l,m,n,hf,h=>by
  have hr:=hf f (by simp)
  have hl:B91 l:=fun x hx=>hf x (by simp [hx])
  rw [show Bu2 (f::l) m=Bu2 l (if f>0 then m.set (f-1).toNat (m.getD (f-1).toNat 0+1) else m) from rfl]
  have e:n+((f::l).length:Int)=(n+1)+l.length:=by simp;omega
  rw [e]
  by_cases hz:f>0
  ·rw [if_pos hz];exact El4 l _ (n+1) hl (h.set (by omega))
  ·rw [if_neg hz];exact El4 l m (n+1) hl h.up
theorem Ev1 {X:CX} {more:List Int}:∀ (l:List Int),Ah0 X more l=0→∀ f ∈ l,f≠0→(vF X (f-1)).2=1∧(vF X (f-1)).1.refs+more.getD (f-1).toNat 0≤64
 | [],_,f,h,_=>by simp at h
 | g::l,h,f,hm,hf=>by
  rw [show Ah0 X more (g::l)=if g=0 then Ah0 X more l else if (vF X (g-1)).2≠1 then 105 else if (vF X (g-1)).1.refs+more.getD (g-1).toNat 0>64 then 123 else Ah0 X more l from rfl] at h
  by_cases hg:g=0
  ·rw [if_pos hg] at h
   rcases List.mem_cons.1 hm with rfl|h2
   ·exact absurd hg hf
   ·exact Ev1 l h f h2 hf
  ·rw [if_neg hg] at h
   by_cases h1:(vF X (g-1)).2=1
   ·rw [if_neg (by simpa using h1)] at h
    by_cases h2:(vF X (g-1)).1.refs+more.getD (g-1).toNat 0>64
    ·rw [if_pos h2] at h;cases h
    ·rw [if_neg h2] at h
     rcases List.mem_cons.1 hm with rfl|h3
     ·exact ⟨h1,by omega⟩
     ·exact Ev1 l h f h3 hf
   ·rw [if_pos h1] at h;cases h
abbrev Ge4:List Int:=[0,0,0,0,0,0,0,0,0,0,0,0]
theorem I35:Ah7 0 Ge4:=⟨rfl,fun x hx=>by simp at hx;omega⟩
abbrev Ar2 (p:ProcS):List Int:=Bu2 p.fds Ge4
theorem Go5 {p:ProcS} (h:B91 p.fds):Ah7 8 (Ar2 p):=by
 have:=El4 p.fds Ge4 0 h I35
 rw [p.len] at this
 exact this
theorem Hu2 {X:CX} {p:ProcS} (h:B91 p.fds) (e:Ah0 X (Ar2 p) p.fds=0):G77 (Ar2 p) X 0:=fun i h0 h1 hi=>by
 rcases Ga5 p.fds Ge4 i.toNat h rfl hi with h2|h2
 ·exfalso;apply h2
  have:i.toNat=0∨i.toNat=1∨i.toNat=2∨i.toNat=3∨i.toNat=4∨i.toNat=5∨i.toNat=6∨i.toNat=7∨i.toNat=8∨i.toNat=9∨i.toNat=10∨i.toNat=11:=by omega
  rcases this with h|h|h|h|h|h|h|h|h|h|h|h<;>rw [h]<;>rfl
 ·have:=Ev1 p.fds e _ h2 (by omega)
  rw [show ((i.toNat:Nat):Int)+1-1=i by omega] at this
  exact this
def Z2 (X:CX) (p:ProcS):Int × CX:=if Ah0 X (Ar2 p) p.fds=0 then (0,Bl0 (Ar2 p) 12 0 X) else (Ah0 X (Ar2 p) p.fds,X)
theorem Ix3 (b k:Nat) (F:Fr) (X:CX) (ok:FrOk F) {nc:Nat} (c:Clean nc X) (p:ProcS) (hf:B91 p.fds):Ct A7 I4 [P0 b,.agg ⟨D7 p⟩] [cmC b k F X] fun v own=>v=int (Z2 X p).1∧own [cmC b k F (Z2 X p).2]:=by
 refine Ct.of A08 rfl fun h r=>Tr.eq (H50 ..) ?_;refine Je ?_
 refine Yn fun b0 h=>?_
 refine Yn fun b1 h=>?_
 (refine Ja ?_;intros)
 have hm:=Go5 hf
 have L2:=Ie1 b k F X ok c b1 p.fds (Ar2 p) p.len hf hm (fun v own=>v=int (Z2 X p).1∧own [cmC b k F (Z2 X p).2])
  (fun e he hz h r o=>by
   unfold Z2
   rw [if_neg (by rw [he];exact hz),he]
   exact ⟨rfl,o⟩)
  (fun he=>by
   have J:=Ia4 b k F ok (Ar2 p) hm 12 0 X c (Hu2 hf he) (by omega) (by omega)
   unfold Z2
   rw [if_pos he]
   exact J) 8 0 rfl rfl
 refine D21 (H61 b k F X b0 b1 p hf _ (Ar2 p) L2 8 0 Ge4 rfl (by simpa using I35) rfl) [0,0,0] rfl ?_
 intro v h q
 exact q
theorem D86 {nc:Nat} {more:List Int} (hm:Ah7 8 more):∀ (m:Nat) (j:Int) (X:CX),Clean nc X→G77 more X j→0≤j→j+m=12 →
  Clean nc (Bl0 more m j X)∧(∀ i:Int,0≤i∧i<8→vS (Bl0 more m j X) i=vS X i) ∧
  (∀ i:Int,0≤i∧i<12→vF (Bl0 more m j X) i=if j≤i∧more.getD i.toNat 0≠0 then (B53 (vF X i).1 (more.getD i.toNat 0),1) else vF X i)∧(∀ i:Int,0≤i∧i<3+nc→vP (Bl0 more m j X) i=vP X i)
 | 0,j,X,c,_,h0,hj=>⟨c,fun _ _=>rfl,fun i hi=>by rw [if_neg (by omega)];rfl,fun _ _=>rfl⟩
 | m+1,j,X,c,s,h0,hj=>by
  rw [show Bl0 more (m+1) j X=Bl0 more m (j+1) (if more.getD j.toNat 0=0 then X else A29 X j (B53 (vF X j).1 (more.getD j.toNat 0))) from rfl]
  by_cases hz:more.getD j.toNat 0=0
  ·rw [if_pos hz]
   obtain ⟨a1,a2,a3,a4⟩:=D86 hm m (j+1) X c (fun i h1 h2 h3=>s i (by omega) h2 h3) (by omega) (by omega)
   refine ⟨a1,a2,fun i hi=>?_,a4⟩
   rw [a3 i hi]
   by_cases hij:i=j
   ·subst hij
    rw [if_neg (by omega),if_neg (by simp only [hz];simp)]
   ·by_cases h2:j≤i∧more.getD i.toNat 0≠0
    ·rw [if_pos h2,if_pos ⟨by omega,h2.2⟩]
    ·rw [if_neg h2,if_neg (fun h3=>h2 ⟨by omega,h3.2⟩)]
  ·rw [if_neg hz]
   obtain ⟨k1,s2⟩:=s.step c hm (by omega) hz
   obtain ⟨w1,w2,w3,w4,w5⟩:=An7 c (i:=j) (by omega) k1
   obtain ⟨a1,a2,a3,a4⟩:=D86 hm m (j+1) _ w2 s2 (by omega) (by omega)
   refine ⟨a1,fun i hi=>by rw [a2 i hi,w3 i hi],fun i hi=>?_,fun i hi=>by rw [a4 i hi,w5 i hi]⟩
   rw [a3 i hi,w4 i hi]
   by_cases hij:i=j
   ·subst hij
    rw [if_neg (by omega),if_pos rfl,if_pos ⟨by omega,hz⟩]
   ·rw [if_neg hij]
    by_cases h2:j≤i∧more.getD i.toNat 0≠0
    ·rw [if_pos h2,if_pos ⟨by omega,h2.2⟩]
    ·rw [if_neg h2,if_neg (fun h3=>h2 ⟨by omega,h3.2⟩)]
theorem Ih6 (l:List UInt8) (i:Nat):0≤byI l i∧byI l i<256:=by
 have:=(l.getD i 0).toNat_lt
 unfold byI;omega
theorem Gi9 (l:List UInt8) (j:Nat):0≤two l j∧two l j≤65535:=by
 have:=Ih6 l j;have:=Ih6 l (j+1)
 unfold two;omega
theorem D17 (l:List UInt8):InS (Ac0 l).1:=by
 unfold Ac0
 split
 ·exact ⟨by simp,by simp,by simp,by simp⟩
 ·split
  ·exact ⟨Gi9 _ _,Gi9 _ _,Gi9 _ _,Gi9 _ _⟩
  ·exact ⟨by simp,by simp,by simp,by simp⟩
theorem Gi6 {p:ProcS} (h:okS p=true):B91 p.fds:=fun f hf=>by
 unfold okS at h
 simp only [Bool.and_eq_true,Bool.not_eq_true',List.any_eq_false] at h
 have:=h.2.2.1 f hf
 simp at this;omega
abbrev Bt5 (p:ProcS) (i:Int):ProcS:=⟨p.state,i+1,p.group,p.code,0,p.mask,p.ignored,p.caught,p.fds,p.len⟩
theorem Hw3 {p:ProcS} (h:okS p=true) (h1:p.state=1) {i:Int} (hi:0≤i∧i<8):okS (Bt5 p i)=true:=by
 unfold okS at h ⊢
 rw [if_neg (by rw [h1];decide)] at h
 rw [if_neg (show ¬ (Bt5 p i).state=2 by show ¬ p.state=2;rw [h1];decide)]
 simp only [Bool.and_eq_true,Bool.not_eq_true',Bool.or_eq_false_iff,decide_eq_false_iff_not] at h ⊢
 obtain ⟨⟨⟨⟨⟨⟨⟨⟨a1,a2⟩,a3⟩,a4⟩,a5⟩,a6⟩,a7⟩,a8⟩,⟨⟨⟨⟨b1,b2⟩,b3⟩,b4⟩,b5⟩,d1,d2⟩:=h
 exact ⟨⟨⟨⟨⟨⟨⟨⟨a1,a2⟩,by show ¬ i+1<0;omega⟩,by show ¬ i+1>8;omega⟩,a5⟩,a6⟩,a7⟩,a8⟩,⟨⟨⟨⟨by simp [Jq3],b2⟩,b3⟩,b4⟩,b5⟩,d1,d2⟩
def Eu3 (X:CX) (i:Int):List Value × CX :=
 if (P5 X i).2≠0 then (P3 0 (P5 X i).2 false,X)
 else if Ap5 X 8 0<0 then (P3 0 111 false,X)
 else if (Z2 X (P5 X i).1).1≠0 then (P3 0 (Z2 X (P5 X i).1).1 false,X)
 else (P3 (Ap5 X 8 0) 0 false,A90 (Z2 X (P5 X i).1).2 (Ap5 X 8 0) (Bt5 (P5 X i).1 i))
theorem E67 {X:CX}:∀ (m:Nat) (i:Int),0≤i→i+m=8→Ap5 X m i=-1∨(0≤Ap5 X m i∧Ap5 X m i<8∧(vS X (Ap5 X m i)).2=0)
 | 0,i,_,_=>.inl rfl
 | m+1,i,h0,hi=>by
  rw [show Ap5 X (m+1) i=if (vS X i).2=0 then i else Ap5 X m (i+1) from rfl]
  split
  ·rename_i h;exact .inr ⟨h0,by omega,h⟩
  ·exact E67 m (i+1) (by omega) (by omega)
theorem Bh9 {nc:Nat} {X:CX} (c:Clean nc X) {i:Int} (hi:0≤i∧i<8) (h:(P5 X i).2=0):P5 X i=((vS X i).1,0)∧(vS X i).1.state=1∧okS (vS X i).1=true∧(vS X i).2=1:=by
 unfold P5 at h ⊢
 split
 ·rename_i h1
  refine ⟨rfl,h1.2,?_,h1.1⟩
  rcases Jg1 c hi with ⟨h2,_⟩|⟨_,h2⟩
  ·rw [h1.1] at h2;cases h2
  ·exact h2
 ·rename_i h1;rw [if_neg h1] at h;cases h
theorem He1 {X:CX} {p:ProcS} (h:(Z2 X p).1≠0):(Z2 X p).2=X:=by
 unfold Z2 at h ⊢
 split
 ·rename_i h1;rw [if_pos h1] at h;exact absurd rfl h
 ·rfl
theorem Gc9 {nc:Nat} {X:CX} (c:Clean nc X) {p:ProcS} (hf:B91 p.fds) (h:(Z2 X p).1=0):Clean nc (Z2 X p).2∧(∀ i:Int,0≤i∧i<8→vS (Z2 X p).2 i=vS X i) ∧
  (∀ i:Int,0≤i∧i<12→vF (Z2 X p).2 i=if (Ar2 p).getD i.toNat 0≠0 then (B53 (vF X i).1 ((Ar2 p).getD i.toNat 0),1) else vF X i)∧(∀ i:Int,0≤i∧i<3+nc→vP (Z2 X p).2 i=vP X i):=by
 unfold Z2 at h ⊢
 split
 ·rename_i he
  obtain ⟨a1,a2,a3,a4⟩:=D86 (Go5 hf) 12 0 X c (Hu2 hf he) (by omega) (by omega)
  refine ⟨a1,a2,fun i hi=>?_,a4⟩
  rw [a3 i hi]
  by_cases h2:(Ar2 p).getD i.toNat 0≠0
  ·rw [if_pos h2,if_pos ⟨hi.1,h2⟩]
  ·rw [if_neg h2,if_neg (fun h3=>h2 h3.2)]
 ·rename_i he;rw [if_neg he] at h;exact absurd h he
theorem Jj2 (b k:Nat) (F:Fr) (X:CX) (ok:FrOk F) {nc:Nat} (c:Clean nc X) (i:Int) (hi:0≤i∧i<8):Ct A7 Dm2 [P0 b,int i] [cmC b k F X] fun v own=>v=.agg ⟨(Eu3 X i).1⟩∧own [cmC b k F (Eu3 X i).2]:=by
 have e1:=wI i
 unfold Eu3
 refine Ct.of Id7 rfl fun h r=>Tr.eq (If3 ..) ?_;refine Je ?_
 refine Yn fun b0 h=>?_
 refine Yc (Ep3 b k F X ok c i hi) ?_;rintro _ h ⟨rfl,o⟩<;>refine Jh o ?_
 (refine Jc ?_;intros)
 refine Yn fun b1 h=>?_
 (refine Ja ?_;intros)
 by_cases h0:(P5 X i).2=0
 case neg =>
  rw [if_pos h0]
  refine Yt (by simpa using h0) ?_
  refine Yc (Gg1 (P5 X i).2) ?_;rintro _ h ⟨rfl,o⟩<;>(refine Jf o ?_;intros)
  refine Ys fun o=>?_
  exact ⟨rfl,o.sub⟩
 rw [if_neg (by simpa using h0)]
 refine Yf (by simpa using h0) ?_
 obtain ⟨s1,s2,s3,s4⟩:=Bh9 c hi h0
 refine Yc (Jh9 b k F X ok c) ?_;rintro _ h ⟨rfl,o⟩<;>refine Jh o ?_
 (refine Ja ?_;intros)
 by_cases h1:Ap5 X 8 0<0
 ·rw [if_pos h1]
  refine Yt (by simpa using h1) ?_
  refine Yc (Gg1 111) ?_;rintro _ h ⟨rfl,o⟩<;>(refine Jf o ?_;intros)
  refine Ys fun o=>?_
  exact ⟨rfl,o.sub⟩
 rw [if_neg h1]
 refine Yf (by simpa using h1) ?_
 have hf:B91 (P5 X i).1.fds:=by rw [s1];exact Gi6 s3
 have hok:okS (Bt5 (P5 X i).1 i)=true:=by rw [s1];exact Hw3 s3 s2 hi
 have hin:InS (Bt5 (P5 X i).1 i):=by
  have:=D17 (rd X ⟨1,i⟩)
  rw [s1]
  exact ⟨by simp,this.b,this.c,this.d⟩
 generalize (P5 X i).1=p at hf hok hin
 (refine Ja ?_;intros)
 refine Yc (Ix3 b k F X ok c p hf) ?_;rintro _ h ⟨rfl,o⟩<;>refine Jh o ?_
 (refine Ja ?_;intros)
 by_cases h2:(Z2 X p).1=0
 case neg =>
  rw [if_pos h2]
  rw [He1 h2] at o ⊢
  refine Yt (by simpa using h2) ?_
  refine Yc (Gg1 (Z2 X p).1) ?_;rintro _ h ⟨rfl,o⟩<;>(refine Jf o ?_;intros)
  refine Ys fun o=>?_
  exact ⟨rfl,o.sub⟩
 rw [if_neg (by simpa using h2)]
 refine Yf (by simpa using h2) ?_
 have cs:=(Gc9 c hf h2).1
 have hfr:0≤Ap5 X 8 0∧Ap5 X 8 0<8:=by
  rcases E67 (X:=X) 8 0 (by omega) (by omega) with h|h<;>omega
 obtain ⟨w1,_⟩:=Bc2 cs hfr hok hin
 (refine Ja ?_;intros)
 rw [e1,show ((D7 p).set 1 (int (i+1))).set 4 (int 0)=D7 (Bt5 p i) from rfl]
 generalize Bt5 p i=q at hok hin w1
 (refine Ja ?_;intros)
 refine Yc (Do2 b k F (Z2 X p).2 ok (Ap5 X 8 0) q) ?_;rintro _ h ⟨rfl,o⟩<;>refine Jh o ?_
 rw [w1]
 dsimp only
 (refine Ja ?_;intros)
 refine Yc (Gh4 true (Ap5 X 8 0)) ?_;rintro _ h ⟨rfl,o⟩<;>refine Jh o ?_
 rw [if_pos trivial]
 (refine Ja ?_;intros)
 refine Ys fun o=>?_
 exact ⟨rfl,o.sub⟩
end Go.EQ
