/- Honest calls keep sound commons sound, whatever is called; no conditions. -/
import Derived.Test.YtoegoalficgneaaGreatMh
import Derived.KernelRfl
set_option linter.all false
set_option maxRecDepth 10000
namespace Go.EQ
open Go Go.NN
theorem Hb9 (k:Nat) (S:KS) (A:KA):CtP A6 Ay6 [P0 k] [pt k (.cells Dw6 false (E71 S A))] (P0 A.s):=by
 refine CtP.of Gs9 rfl fun h r=>Tr.eq (Gt2 ..) ?_;refine Je ?_
 exact Jz
theorem Jj5 (k:Nat) (S:KS) (N:Nat) (ok:KOk N S) (env:Int):Ct A6 B95 [P0 k,int env] [E8 k S] fun v own =>
  (Bk3 S.tabs env≠[]∧∃ c,v=.tuple ⟨[P0 c,int 0]⟩∧own [Q7 c k env (Bk3 S.tabs env) [],E8 k S])∨(Bk3 S.tabs env=[]∧v=.tuple ⟨[.pointer none,int 1]⟩∧own [E8 k S]):=by
 refine Ct.of Hs0 rfl fun h r=>Tr.eq (Hs7 ..) ?_;refine Je ?_
 refine B6 (E8 k S) fun ⟨m,s,q,rg,ea,ec,ma,mc,ms,sa,sc,ss⟩=>?_;refine Je ?_
 (refine Jb ?_;intros)
 refine Yb (Yf rfl ?_)
 refine Tr.pcall (Hb9 k S ⟨m,s,q,rg,ea,ec,ma,mc,ms,sa,sc,ss⟩) ?_;refine Je ?_;(refine Ja ?_;intros)
 try dsimp only
 refine Yc (Ha3 s S.tabs env ok.space) ?_;rintro _ h ⟨a0,c0,rfl,o⟩<;>refine Jh o ?_
 (refine Ja ?_;intros)
 refine Ys fun o=>(?_:Tr _ _ _ _) o;refine Je ?_
 by_cases hz:Bk3 S.tabs env=[]
 ·refine Yt (by simp [hz]) ?_
  refine B5 (E8 k S) ⟨m,s,q,rg,ea,ec,ma,mc,ms,sa,sc,ss⟩ ?_;refine Je ?_
  refine Ys fun o=>?_
  exact .inr ⟨hz,rfl,o.sub⟩
 ·refine Yf ?_ ?_
  ·rw [beq_eq_false_iff_ne]
   intro h0
   exact hz (List.eq_nil_of_length_eq_zero (by omega))
  refine Tr.pcall (Hb9 k S ⟨m,s,q,rg,ea,ec,ma,mc,ms,sa,sc,ss⟩) ?_;refine Je ?_;(refine Ja ?_;intros)
  try dsimp only
  refine Yc (Ha3 s S.tabs env ok.space) ?_;rintro _ h ⟨a1,c1,rfl,o⟩<;>refine Jh o ?_
  (refine Jc ?_;intros)
  refine Yn fun mb h=>?_
  refine Yn fun c h=>?_
  refine B5 (E8 k S) ⟨m,s,q,rg,ea,ec,ma,mc,ms,sa,sc,ss⟩ ?_;refine Je ?_
  refine G1 (Q7 c k env (Bk3 S.tabs env) []) (a1,c1,mb) [1,2,1] rfl ?_;refine Je ?_
  refine Ys fun o=>?_
  exact .inl ⟨hz,c,rfl,o.sub⟩
def Bn5:PlanS:=⟨[false,false],[(0,1),(1,0)],5⟩
theorem I83:Ct A6 Dj0 [] [] fun v own=>∃ A,v=.agg ⟨Gq0 Bn5 A⟩∧own (D58 Bn5 A):=by
 refine Ct.of Hw8 rfl fun h r=>Tr.eq (H44 ..) ?_;refine Je ?_
 (refine Jc ?_;intros;rename H=>h)
 refine Yn fun b h=>?_
 refine Yn fun b1 h=>?_
 refine Yn fun b2 h=>?_
 (refine Ja ?_;intros;rename H=>h)
 refine Ah3 0 rfl 2 2 rfl (by omega) ?_
 refine Ah3 1 rfl 1 2 rfl (by omega) ?_
 refine Je ?_
 refine Ys fun o=>?_
 exact ⟨⟨some ⟨b1,0,none⟩,2,some ⟨b2,0,none⟩,2⟩,rfl,(show Own h (slC false Do2 2 (some ⟨b2,0,none⟩) Bn5.brs.length 2 (Bn5.brs.flatMap brL)::slC false G81 1 (some ⟨b1,0,none⟩) Bn5.bad.length 2 (Bn5.bad.map Value.bool)::_) from o).sub⟩
def Aq7:BootS:=Gh5 Bn5
theorem H94:B77 Aq7=true:=by kernel_rfl
theorem Gy7:Small Aq7:=by
 have e:Aq7=⟨[20,20],[0,0,0,0,0,0,0,0,0,1,1,1,1,1,1,1,1,1],[[0],[1]],5,[⟨0,0,0,492,[0]⟩,⟨1,0,0,492,[1]⟩,⟨0,8,0,40,[0,1]⟩,⟨1,9,0,40,[1,0]⟩]⟩:=by kernel_rfl
 rw [e]
 exact ⟨by simp [A9],by simp [A9],by simp [A9]⟩
theorem Dd8:Aq7=⟨[20,20],[0,0,0,0,0,0,0,0,0,1,1,1,1,1,1,1,1,1],[[0],[1]],5,[⟨0,0,0,492,[0]⟩,⟨1,0,0,492,[1]⟩,⟨0,8,0,40,[0,1]⟩,⟨1,9,0,40,[1,0]⟩]⟩:=by kernel_rfl
theorem Jj8:RBoot Aq7 (Ar8 Aq7.frames):=by
 rw [Dd8]
 refine ⟨by simp,by simp,by simp,fun x hx=>?_,fun x hx=>?_⟩
 ·simp only [List.mem_cons,List.not_mem_nil,or_false] at hx
  rcases hx with rfl|rfl|rfl|rfl<;>simp [A9]
 ·simp only [List.mem_cons,List.not_mem_nil,or_false] at hx
  rcases hx with rfl|rfl|rfl|rfl<;>simp [Ar8]
def S00:KS:=Eo4 Aq7
theorem H96:KOk 0 S00:=Jh8 H94 Gy7
def wrS (S:KS) (cap:Int) (b:List UInt8):KS:=(Ag1 S 0 ⟨2,cap,0,0,0,0,b⟩).2
def S0:KS:=wrS S00 256 Ak1
theorem Jw1:(Ag1 S00 0 ⟨2,256,0,0,0,0,Ak1⟩).1.1=0:=by kernel_rfl
theorem Jh1:Bk3 S00.tabs 0=[256,257,258]:=by kernel_rfl
def wrR (K:RKS) (cap:Int) (b:List UInt8):RKS:={ K with R:=(Ar1 K.R 0 cap 0 b).2 }
def K0:RKS:=wrR (D12 Aq7) 256 Ak1
theorem Eu2:RKOk (D12 Aq7)∧(D12 Aq7).B=Aq7:=Jk0 (by rw [Dd8];simp) (by rw [Dd8];simp)
theorem G84 {K:RKS} (k:RKOk K) (cap:Int) (b:List UInt8):RKOk (wrR K cap b):=Jj0 k 0 cap 0 b
theorem Jd4:Dm0 K0 0≠[]:=by
 have:Dm0 K0 0=[256,257,258]:=by kernel_rfl
 rw [this];simp
theorem Aj0:Ak1.length=492:=by kernel_rfl
theorem Eb3 {l:List HP} {h:H} {α:Type} {Q:α→H→Prop} {x:Option (α × H)} (i:Nat) {b n:Nat} {cs:List Value} (hi:l[i]?=some (pt b (.cells A3 false cs))) (hn:cs.length=n) (t:Tr (l.set i (slC false A3 1 (some (O7 b)) n n cs)) h x Q):Tr l h x Q:=fun o=>by
 refine t (Own.back (h:=h) hi ?_)
 have o1:=o.front hi
 refine Own.slShut (pre:=[]) (post:=[]) (by simpa using o1) ⟨by omega,Nat.le_refl _,by simp,by simp,by simp,by omega,by simp⟩
theorem Jm9 (A:PlA):Ct A6 By7 [.agg ⟨Gq0 Bn5 A⟩] (D58 Bn5 A) fun v own =>
  ∃ k c w m,v=.tuple ⟨[P0 k,P0 c,P0 w,P0 m]⟩∧own [E8 k S0,Q7 c k 0 [256,257,258] [],rkC w K0,rcC m w 0 (Dm0 K0 0) []]:=by
 have hB:Gh5 Bn5=Aq7:=rfl
 obtain ⟨ba,bc,ra,rc⟩:=A
 refine Ct.of H17 rfl fun h r=>Tr.eq (H01 ..) ?_;refine Je ?_
 refine Yn fun b0 h=>?_
 (refine Ja ?_;intros)
 refine Yc (Ji2 Bn5 ⟨ba,bc,ra,rc⟩ (by simp [Bn5]) (by simp [Bn5])) ?_;rintro _ h ⟨A,kA,rfl,o⟩<;>refine Jh o ?_
 rw [hB] at kA ⊢
 obtain ⟨fa,fc,ea,ec,sa,sc,ss,ha,hc,hs⟩:=A
 (refine Jc ?_;intros)
 refine Yn fun b1 h=>?_
 (refine Ja ?_;intros)
 have J:=Jq2 false Aq7 ⟨fa,fc,ea,ec,sa,sc,ss,ha,hc,hs⟩ kA Gy7
 simp only [H94,if_true] at J
 refine Yc (J) ?_;rintro _ h ⟨k,rfl,o⟩<;>refine Jh o ?_
 (refine Jb ?_;intros)
 refine Yb (Yf rfl ?_)
 refine Ys fun o=>(?_:Tr _ _ _ _) o;refine Je ?_
 refine Yf rfl ?_
 (refine Ja ?_;intros)
 refine Yc (Ie0 Aq7 ⟨fa,fc,ea,ec,sa,sc,ss,ha,hc,hs⟩ kA (by rw [Dd8];simp) Jj8) ?_;rintro _ h ⟨w,rfl,o⟩<;>refine Jh o ?_
 (refine Ja ?_;intros)
 refine Yc (Jj5 k (Eo4 Aq7) 0 H96 0) ?_
 rintro v h (⟨hz,c,rfl,o⟩|⟨hz,rfl,o⟩)
 case inr=>exact absurd hz (by rw [show Eo4 Aq7=S00 from rfl,Jh1];simp)
 rw [show Eo4 Aq7=S00 from rfl,Jh1] at o
 refine (?_:Tr _ _ _ _) o
 refine Je ?_
 (refine Jb ?_;intros)
 refine Yb (Yf rfl ?_)
 refine Ys fun o=>(?_:Tr _ _ _ _) o;refine Je ?_
 refine Yf rfl ?_
 refine Yc (Hq8) ?_;rintro _ h ⟨rfl,o⟩<;>refine Jh o ?_
 (refine Jc ?_;intros)
 refine Tr.ck (by rw [Bh4,Aj0];simp [A9]) ?_
 rw [Bh4,Aj0]
 refine Yn fun b2 h=>?_
 refine Eb3 (n:=492) 0 rfl (by rw [Ab7,show (bs Ak1).data.toList=Ak1 from rfl,Aj0]) ?_
 refine Je ?_
 have J2:=Eu9 k S00 0 H96 (by omega) 0 ⟨2,256,0,0,0,0,Ak1⟩ (some (O7 b2)) 492 false (show ((2:Int)≠5) by decide)
 simp only [Aj0] at J2
 refine Dc7 J2 [2,0] rfl ?_
 rintro _ h ⟨y,d,rfl,o⟩
 rw [Jw1]
 rw [show (Ag1 S00 0 ⟨2,256,0,0,0,0,Ak1⟩).2=S0 from rfl] at o
 refine (?_:Tr _ _ _ _) o
 refine Je ?_
 (refine Jc ?_;intros)
 refine Yf rfl ?_
 refine Tr.ck (by simp [A9]) ?_
 refine Yn fun b3 h=>?_
 refine Eb3 (n:=492) 0 rfl (by rw [Ab7,Aj0]) ?_
 refine Je ?_
 have J3:=Gp3 w (D12 Aq7) Eu2.1 0 (by rw [Eu2.2,Dd8];simp) ⟨2,256,0,0,0,0,Ak1⟩ rfl (by rw [Aj0];simp [A9]) (slC false A3 1 (some (O7 b3)) Ak1.length 492 (A0 Ak1)) (some (O7 b3)) 492 false
 simp only [Aj0] at J3
 refine Yc J3 ?_
 rintro _ h ⟨rfl,o⟩
 rw [show ({ D12 Aq7 with R:=(Ar1 (D12 Aq7).R ((0:Nat):Int) 256 0 Ak1).2 }:RKS)=K0 from rfl] at o
 refine (?_:Tr _ _ _ _) o
 refine Je ?_
 (refine Ja ?_;intros)
 refine Yc (Hh0 w K0 (G84 Eu2.1 256 Ak1) 0 (by show (0:Nat)<(D12 Aq7).B.envs.length;rw [Eu2.2,Dd8];simp)) ?_
 rintro v h (⟨_,m,rfl,o⟩|⟨hn,rfl,o⟩)
 case inr=>exact absurd hn Jd4
 refine (?_:Tr _ _ _ _) o
 refine Je ?_
 (refine Ja ?_;intros)
 refine Ys fun o=>?_
 exact ⟨k,c,w,m,rfl,o.sub⟩
def Di1 (mem:List UInt8) (rg:Rg):List (List UInt8):=rg.map fun p=>slice mem p.1 p.2
theorem Hw5 {mem:List UInt8} {rg:Rg} {j lo n:Nat} (h:rg[j]?=some (lo,n)):(Di1 mem rg)[j]?=some (slice mem lo n):=by unfold Di1;rw [List.getElem?_map,h];rfl
theorem H56 {mem:List UInt8} {rg:Rg} (h:∀ (j lo n:Nat),rg[j]?=some (lo,n)→lo+n≤mem.length):Fit mem.length rg (Di1 mem rg):=⟨by simp [Di1],fun j lo n hj=>⟨h j lo n hj,slice mem lo n,Hw5 hj,Gi0 (h j lo n hj)⟩⟩
theorem I94 {mem:List UInt8} {rg:Rg} (k:RgOk rg) (h:∀ (j lo n:Nat),rg[j]?=some (lo,n)→lo+n≤mem.length):A53 mem rg (Di1 mem rg)=mem:=by
 have f:=H56 h
 refine List.ext_getElem? fun i=>?_
 by_cases ho:∃ (j lo n:Nat),rg[j]?=some (lo,n)∧lo≤i∧i<lo+n
 ·obtain ⟨j,lo,n,hj,h1,h2⟩:=ho
  obtain ⟨i',rfl⟩:∃ i',i=lo+i':=⟨i-lo,by omega⟩
  rw [Dv6 f k j lo n _ hj (Hw5 hj) i' (by omega),Df6,if_pos (by omega)]
 ·exact Ef1 f i fun j lo n hj=>by
   by_cases hh:lo≤i∧i<lo+n
   ·exact absurd ⟨j,lo,n,hj,hh.1,hh.2⟩ ho
   ·omega
theorem FrOk.room {F:Fr} {j lo n:Nat} (f:Fit F.S.mem.length F.rg (Di1 F.S.mem F.rg)) (h:F.rg[j]?=some (lo,n)):lo+n≤F.S.mem.length:=(f.each j lo n h).1
theorem Fr.at_cut {F:Fr} (k:FrOk F) (h:∀ (j lo n:Nat),F.rg[j]?=some (lo,n)→lo+n≤F.S.mem.length):F.at (Di1 F.S.mem F.rg)=F.S:=by
 unfold Fr.at;rw [I94 k.dj h];rfl
theorem Own.cmTake {r:List HP} {h:H} (c k:Nat) (F:Fr) (bad:List RecS) (ok:FrOk F) (hr:∀ (j lo n:Nat),F.rg[j]?=some (lo,n)→lo+n≤F.S.mem.length) (o1:Own h (E8 k F.S::Q7 c k F.env F.caps bad::r)):Own h (cmC c k F ⟨Di1 F.S.mem F.rg,bad⟩::r):=by
 refine Own.inex (f:=fun u:Unit=>sl (cmF c k F ⟨Di1 F.S.mem F.rg,bad⟩)) () (Own.group (l:=cmF c k F ⟨Di1 F.S.mem F.rg,bad⟩) ?_)
 show Own h (E8 k (F.at (Di1 F.S.mem F.rg))::Q7 c k F.env F.caps bad::pu _::r)
 rw [Fr.at_cut ok hr]
 have o2:=Own.inpure (show Fit F.S.mem.length F.rg (Di1 F.S.mem F.rg) from H56 hr) o1
 exact o2.picks [1,1,0] rfl
theorem Jq9 {l r:List HP} {h:H} {α:Type} {Q:α→H→Prop} {x:Option (α × H)} (c k:Nat) (F:Fr) (X:CX) [tk:Take (cmC c k F X) l r]
  (t:Fit F.S.mem.length F.rg X.m→Tr (E8 k (F.at X.m)::Q7 c k F.env F.caps X.bad::r) h x Q):Tr l h x Q:=fun o=>by
 have o1:Own h (cmC c k F X::r):=o.perm tk.pm
 obtain ⟨u,o2⟩:=Own.ex (f:=fun u:Unit=>sl (cmF c k F X)) o1
 have o3:Own h (E8 k (F.at X.m)::Q7 c k F.env F.caps X.bad::pu (Fit F.S.mem.length F.rg X.m)::r):=Own.join o2
 have f:=(o3.front (i:=2) rfl).pure
 exact t f (o3.front (i:=2) rfl).tail
theorem Iu1 {S:KS} {env cap obj:Int} {lo n:Nat} {e1 e2:Int} (hg:B88 S.tabs env cap=some ⟨obj,3,0,(n:Int),e1,e2⟩) (h0:0≤obj) (hr:S.regs[obj.toNat]?=some ((lo:Int),(n:Int))) (hl:lo+n≤65536) :
  ∀ (a m:Nat) (right:Int),right=1∨right=2→a+m≤n→W1 S.tabs S.regs env cap right a m=(((lo+a:Nat):Int),0):=by
 intro a m right hri ha
 have hlt:=(List.getElem?_eq_some_iff.1 hr).1
 unfold W1
 rw [hg]
 have b1:(O1 .i64 3 1==0)=false:=by kernel_rfl
 have b2:(O1 .i64 3 2==0)=false:=by kernel_rfl
 have hb:¬ ((O1 .i64 3 right==0)=true):=by rcases hri with rfl|rfl<;>simp [b1,b2]
 simp only
 have h2:(decide ((a:Int)<0) || decide ((m:Int)<0) || decide ((a:Int)>(n:Int)) || decide ((m:Int)>IntKind.wrap .i64 ((n:Int)-a)) || decide (obj<0) || decide (obj≥S.regs.length))=false:=by
  simp only [Bool.or_eq_false_iff,decide_eq_false_iff_not,B4];omega
 have h3:(decide (IntKind.wrap .i64 (0+(a:Int))>(n:Int)) || decide ((m:Int)>IntKind.wrap .i64 (IntKind.wrap .i64 ((n:Int)-0)-a)))=false:=by
  simp only [Bool.or_eq_false_iff,decide_eq_false_iff_not,B4];omega
 have h4:IntKind.wrap .i64 (IntKind.wrap .i64 ((lo:Int)+0)+a)=((lo+a:Nat):Int):=by simp only [B4];omega
 rw [if_neg hb]
 simp only [h2,hr,h3,h4,Bool.false_eq_true,if_false]
structure Like (S:KS):Prop where
 ok:KOk 0 S
 tabs:S.tabs=S00.tabs
 regs:S.regs=S00.regs
 envs:S.envs=S00.envs
 mem:S.mem.length=2560
theorem Ez8 {S:KS} (k:Like S) {m:List UInt8} (h:m.length=2560):Like (B79 S m) :=
 ⟨⟨k.ok.envs,k.ok.tabs,k.ok.space,k.ok.quota,by show m.length≤65536;omega,k.ok.regs,k.ok.may,k.ok.mayl,k.ok.nsect,k.ok.sects,k.ok.now⟩,k.tabs,k.regs,k.envs,h⟩
theorem Jp7:Like S00:=⟨H96,rfl,rfl,rfl,by kernel_rfl⟩
theorem Jl5 (S:KS) (k:Like S) (cap:Int) (b:List UInt8):Like (wrS S cap b):=by
 unfold wrS Ag1
 split
 ·exact k
 ·exact Ez8 k (by rw [Ip3];exact k.mem)
theorem En2:Like S0:=Jl5 S00 Jp7 256 Ak1
def rgP (s:Nat):Rg:=[(1280*s,492),(512,40),(1856,40)]
def frP (S:KS) (s:Nat) (env:Int):Fr:=⟨S,0,env,[256,257,258],rgP s⟩
theorem Ha4:S00.regs=[(0,492),(1280,492),(512,40),(1856,40)]:=by kernel_rfl
theorem Js0:S00.envs.length=18:=by kernel_rfl
structure EnvP (s:Nat) (env:Int):Prop where
 hs:s<2
 he:0≤env∧env<18
 a:B88 S00.tabs env 256=some ⟨s,3,0,492,0,0⟩
 b:B88 S00.tabs env 257=some ⟨2,3,0,40,0,0⟩
 c:B88 S00.tabs env 258=some ⟨3,3,0,40,0,0⟩
theorem Hh5:EnvP 0 0:=⟨by omega,by omega,by kernel_rfl,by kernel_rfl,by kernel_rfl⟩
theorem Ev7 {s j lo n:Nat} (h:(rgP s)[j]?=some (lo,n)):(j=0∧lo=1280*s∧n=492)∨(j=1∧lo=512∧n=40)∨(j=2∧lo=1856∧n=40):=by
 unfold rgP at h
 match j,h with
 | 0,h=>simp at h;omega
 | 1,h=>simp at h;omega
 | 2,h=>simp at h;omega
 | j+3,h=>simp at h
theorem E23 {S:KS} (k:Like S) {s:Nat} (hs:s<2) (env:Int):∀ (j lo n:Nat),(frP S s env).rg[j]?=some (lo,n)→lo+n≤(frP S s env).S.mem.length:=by
 intro j lo n h
 have hm:=k.mem
 have:=Ev7 h
 show lo+n≤S.mem.length
 omega
theorem He9 {S:KS} (k:Like S) {s:Nat} {env:Int} (e:EnvP s env):FrOk (frP S s env):=by
 have hs:=e.hs;have he:=e.he
 refine ⟨k.ok,by simp [frP],by simp [frP],by simp [frP],by simp [frP,rgP],?_,?_,?_,⟨1280*s,rfl⟩,?_⟩
 ·show ¬ (env<0∨env≥(S.envs.length:Int))
  rw [k.envs,Js0];omega
 ·intro j cap lo n hc hr
  show ∀ (a m:Nat) (right:Int),right=1∨right=2→a+m≤n→W1 S.tabs S.regs env cap right a m=_
  have hg:=Ev7 hr
  rcases hg with ⟨rfl,rfl,rfl⟩|⟨rfl,rfl,rfl⟩|⟨rfl,rfl,rfl⟩
  ·cases hc
   refine Iu1 (obj:=s) (e1:=0) (e2:=0) (by rw [k.tabs];exact e.a) (by omega) ?_ (by omega)
   rw [k.regs,Ha4,Int.toNat_natCast]
   match s,hs with
   | 0,_=>rfl
   | 1,_=>rfl
  ·cases hc
   exact Iu1 (obj:=2) (e1:=0) (e2:=0) (by rw [k.tabs];exact e.b) (by omega) (by rw [k.regs,Ha4];rfl) (by omega)
  ·cases hc
   exact Iu1 (obj:=3) (e1:=0) (e2:=0) (by rw [k.tabs];exact e.c) (by omega) (by rw [k.regs,Ha4];rfl) (by omega)
 ·intro i j lo n lo' n' hij hi hj
  have h1:=Ev7 hi;have h2:=Ev7 hj
  omega
 ·intro j lo n h0 h
  have:=Ev7 h;omega
def Eq5 (bad:List RecS) (kind:Int):Nat→Int→List RecS
 | 0,_=>[]
 | m+1,i=>if (⟨kind,i⟩:RecS) ∈ bad then ⟨kind,i⟩::Eq5 bad kind m (i+1) else Eq5 bad kind m (i+1)
def Eh6 (nc:Nat) (bad:List RecS):Nat→Int→List RecS
 | 0,_=>[]
 | m+1,kind=>Eq5 bad kind (J8 nc kind).toNat 0++Eh6 nc bad m (kind+1)
def Ex9 (nc:Nat) (bad:List RecS):List RecS:=Eh6 nc bad 5 1
theorem I53 (c k:Nat) (env:Int) (caps:List Int) (bad:List RecS) (hs:caps.length≤40) (kind:Int) (hk:1≤kind∧kind≤5) (Φ:List RecS→Value→(List HP→Prop)→Prop)
  (next:∀ (acc:List RecS) (a:Option Addr) (cp:Nat),acc.length≤50*kind→CtJ D6 E4 Ad0 [(0,P0 c),(3,.slice a acc.length cp),(4,int (kind+1))] [slC false B8 2 a acc.length cp (acc.flatMap U1),Q7 c k env caps bad] (Φ acc)) :
  ∀ (m:Nat) (i:Int) (acc:List RecS) (a:Option Addr) (cp:Nat),0≤i→i+m=J8 caps.length kind→acc.length≤50*(kind-1)+i →
  CtJ D6 E4 Ae0 [(0,P0 c),(3,.slice a acc.length cp),(4,int kind),(13,int (J8 caps.length kind)),(14,int i)] [slC false B8 2 a acc.length cp (acc.flatMap U1),Q7 c k env caps bad] (Φ (acc++Eq5 bad kind m i)):=by
 have hmost:J8 caps.length kind≤43:=by unfold J8;(repeat' split)<;>omega
 have e5:=wI kind
 intro m
 induction m with
 | zero =>
  intro i acc a cp h0 hi ha
  refine CtJ.of Aj8 fun h r=>Tr.eq (Bw6 ..) ?_;refine Je ?_
  refine Yf (by simp;omega) ?_
  rw [e5]
  refine Yr (next acc a cp (by omega)) ?_
  intro v h q
  rw [show Eq5 bad kind 0 i=[] from rfl,List.append_nil]
  exact q
 | succ m ih =>
  intro i acc a cp h0 hi ha
  have e1:=wI i
  refine CtJ.of Aj8 fun h r=>Tr.eq (Bw6 ..) ?_;refine Je ?_
  refine Yt (by simp;omega) ?_
  refine B6 (Q7 c k env caps bad) fun ⟨ca,cn,mb⟩=>?_;refine Je ?_
  (refine Ja ?_;intros)
  have hl:=Bx8 ⟨kind,i⟩ bad
  simp only [U1] at hl
  rw [hl]
  rw [show Eq5 bad kind (m+1) i=if (⟨kind,i⟩:RecS) ∈ bad then ⟨kind,i⟩::Eq5 bad kind m (i+1) else Eq5 bad kind m (i+1) from rfl]
  by_cases hb:(⟨kind,i⟩:RecS) ∈ bad
  ·simp only [if_pos hb]
   (refine Ja ?_;intros)
   refine Yt rfl ?_
   (refine Ja ?_;intros)
   refine B5 (Q7 c k env caps bad) ⟨ca,cn,mb⟩ ?_;refine Je ?_
   refine Tr.xApd ?_ (fun a' c' h=>?_);exact ⟨by first|rfl|simp,by first|rfl|simp,by simp only [A9];omega⟩;refine Je ?_
   rw [e1]
   rw [show acc.flatMap U1++[Value.int IntKind.i64 kind,Value.int IntKind.i64 i]=(acc++[(⟨kind,i⟩:RecS)]).flatMap U1 by simp [U1],show acc.length+1=(acc++[(⟨kind,i⟩:RecS)]).length by simp]
   refine B9 [3,0] 2 rfl rfl ?_
   refine Yr (ih (i+1) (acc++[⟨kind,i⟩]) a' c' (by omega) (by omega) (by simp;omega)) ?_
   intro v h q
   rw [List.append_assoc] at q
   exact q
  ·simp only [if_neg hb]
   (refine Ja ?_;intros)
   refine Yf rfl ?_
   refine B5 (Q7 c k env caps bad) ⟨ca,cn,mb⟩ ?_;refine Je ?_
   rw [e1]
   refine B9 [2,0] 1 rfl rfl ?_
   refine Yr (ih (i+1) acc a cp (by omega) (by omega) (by omega)) ?_
   intro v h q
   exact q
theorem Iw4 (c k:Nat) (env:Int) (caps:List Int) (bad:List RecS) (hs:caps.length≤40):∀ (m:Nat) (kind:Int) (acc:List RecS) (a:Option Addr) (cp:Nat),1≤kind→kind+m=6→acc.length≤50*(kind-1) →
  CtJ D6 E4 Ad0 [(0,P0 c),(3,.slice a acc.length cp),(4,int kind)] [slC false B8 2 a acc.length cp (acc.flatMap U1),Q7 c k env caps bad] fun v own =>
   ∃ a' cp',v=.slice a' (acc++Eh6 caps.length bad m kind).length cp'∧own [slC false B8 2 a' (acc++Eh6 caps.length bad m kind).length cp' ((acc++Eh6 caps.length bad m kind).flatMap U1),Q7 c k env caps bad]:=by
 intro m
 induction m with
 | zero =>
  intro kind acc a cp hk hi ha
  refine CtJ.of Aj8 fun h r=>Tr.eq (Bz0 ..) ?_;refine Je ?_
  refine Yf (by simp;omega) ?_
  refine Ys fun o=>?_
  rw [show Eh6 caps.length bad 0 kind=[] from rfl,List.append_nil]
  exact ⟨a,cp,rfl,o.sub⟩
 | succ m ih =>
  intro kind acc a cp hk hi ha
  have hm0:0≤J8 caps.length kind:=by unfold J8;(repeat' split)<;>omega
  have L2:=I53 c k env caps bad hs kind (by omega) (fun acc v own=>∃ a' cp',v=.slice a' (acc++Eh6 caps.length bad m (kind+1)).length cp'∧own [slC false B8 2 a' (acc++Eh6 caps.length bad m (kind+1)).length cp' ((acc++Eh6 caps.length bad m (kind+1)).flatMap U1),Q7 c k env caps bad])
   (fun acc a cp ha=>ih (kind+1) acc a cp (by omega) (by omega) (by omega)) (J8 caps.length kind).toNat 0 acc a cp (by omega) (by omega) (by omega)
  refine CtJ.of Aj8 fun h r=>Tr.eq (Bz0 ..) ?_;refine Je ?_
  refine Yt (by simp;omega) ?_
  refine Tr.pcall (G09 c k env caps bad kind hs) ?_;refine Je ?_;(refine Ja ?_;intros)
  refine Yr L2 ?_
  intro v h q
  rw [List.append_assoc] at q
  exact q
theorem Jj1 (c k:Nat) (env:Int) (caps:List Int) (bad:List RecS) (hs:caps.length≤40):Ct A6 E4 [P0 c] [Q7 c k env caps bad] fun v own =>
  ∃ a' cp',v=.slice a' (Ex9 caps.length bad).length cp'∧own [slC false B8 2 a' (Ex9 caps.length bad).length cp' ((Ex9 caps.length bad).flatMap U1),Q7 c k env caps bad]:=by
 refine Ct.of Aj8 rfl fun h r=>Tr.eq (Ew5 ..) ?_;refine Je ?_
 refine E6 false B8 2 (by omega) ?_
 have J:=Iw4 c k env caps bad hs 5 1 [] none 0 (by omega) (by omega) (by simp)
 simp only [List.nil_append,List.length_nil,List.flatMap_nil] at J
 refine Yr J ?_
 intro v h q
 exact q
theorem I47 (nc:Nat):Ex9 nc []=[]:=by
 have h1:∀ (kind:Int) (m:Nat) (i:Int),Eq5 [] kind m i=[]:=by
  intro kind m
  induction m with
  | zero=>intro i;rfl
  | succ m ih=>intro i;unfold Eq5;rw [if_neg (by simp),ih]
 have h2:∀ (m:Nat) (kind:Int),Eh6 nc [] m kind=[]:=by
  intro m
  induction m with
  | zero=>intro k;rfl
  | succ m ih=>intro k;unfold Eh6;rw [h1,ih];rfl
 exact h2 5 1
theorem Jf2 (c k:Nat) (F:Fr) (X:CX) (ok:FrOk F):Ct A6 E4 [P0 c] [cmC c k F X] fun v own =>
  ∃ a' cp',v=.slice a' (Ex9 F.caps.length X.bad).length cp'∧own [slC false B8 2 a' (Ex9 F.caps.length X.bad).length cp' ((Ex9 F.caps.length X.bad).flatMap U1),cmC c k F X]:=by
 intro h r o
 obtain ⟨u,o2⟩:=Own.unfold (cmC c k F X) o
 obtain ⟨v,h',e,a',cp',hv,o3⟩:=Jj1 c k F.env F.caps X.bad ok.small h _ (o2.picks [1] rfl)
 refine ⟨v,h',e,a',cp',hv,?_⟩
 have o4:=o3.picks [2,1,1] rfl
 exact (Own.shut (f:=fun _:Unit=>cmF c k F X) () o4).picks [1,0] rfl
abbrev F0:Fr:=frP S0 0 0
def X0:CX:=⟨Di1 S0.mem (rgP 0),[]⟩
theorem Jh0:FrOk F0:=He9 En2 Hh5
theorem I75 (A:PlA):Ct A6 By7 [.agg ⟨Gq0 Bn5 A⟩] (D58 Bn5 A) fun v own =>
  ∃ k c w m,v=.tuple ⟨[P0 k,P0 c,P0 w,P0 m]⟩∧own [cmC c k F0 X0,rkC w K0,rcC m w 0 (Dm0 K0 0) []]:=by
 intro h r o
 obtain ⟨v,h',e,k,c,w,m,hv,o2⟩:=Jm9 A h r o
 refine ⟨v,h',e,k,c,w,m,hv,?_⟩
 exact Own.cmTake c k F0 [] Jh0 (E23 En2 (by omega) 0) o2
theorem Ju7 {y m:Int} (h:0≤y):Int.tmod y m=y%m:=Int.tmod_eq_emod_of_nonneg h
theorem Ai1 {x:Int} (h:0≤x∧x<256):((b8 x).toNat:Int)=x:=by rw [← Bz5,D77];omega
theorem H66 {p:PipeS} (h:okP p=true):N4 (O0 p)=(p,1):=by
 have hk:=h
 simp only [okP,Bool.and_eq_true,decide_eq_true_eq] at h
 have e:Bs7 (O0 p)=p:=by
  obtain ⟨a,b,c,d,l,hl⟩:=p
  simp only at h
  have h1:=Ai1 (x:=a) (by omega);have h2:=Ai1 (x:=b) (by omega);have h3:=Ai1 (x:=c) (by omega);have h4:=Ai1 (x:=d) (by omega)
  simp [Bs7,O0,Ar0,E52 hl]
  exact ⟨h1,h2,h3,h4⟩
 have hz:(O0 p).all (·==0)=false:=by simp [O0,Ar0]
 unfold N4 isP
 rw [hz,e,hk]
 simp
theorem Gz3 {l b:List UInt8} {a c n:Nat} (h:a+b.length≤l.length) (hd:c+n≤a∨a+b.length≤c):slice (O9 l a b) c n=slice l c n:=by
 refine List.ext_getElem? fun i=>?_
 rw [Df6,Df6]
 split
 ·rw [B13 h,if_neg (by omega)]
 ·rfl
theorem G98 {l b:List UInt8} {a:Nat} (h:a+b.length≤l.length):slice (O9 l a b) a b.length=b:=by
 refine List.ext_getElem? fun i=>?_
 rw [Df6]
 split
 ·rw [B13 h,if_pos (by omega)];congr 1;omega
 ·rw [List.getElem?_eq_none (by omega)]
abbrev Jh5:List Int:=[256,257,258]
theorem Hj4 (n:Int):BitVec.ofInt 64 (IntKind.wrap .i64 n)=BitVec.ofInt 64 n:=by
 apply BitVec.eq_of_toNat_eq
 rw [BitVec.toNat_ofInt,BitVec.toNat_ofInt,B4];omega
theorem H31 (x:BitVec 64):BitVec.ofInt 64 (x.toNat:Int)=x:=by
 apply BitVec.eq_of_toNat_eq
 have:=x.isLt
 rw [BitVec.toNat_ofInt];omega
theorem Jq3 (a b:Int):BitVec.ofInt 64 (Au4 .i64 a b)=BitVec.ofInt 64 a &&& ~~~ BitVec.ofInt 64 b:=by
 unfold Au4;rw [Hj4];exact H31 _
theorem Jr3 {a b:Int} (h:BitVec.ofInt 64 a &&& BitVec.ofInt 64 b=0#64):O1 .i64 a b=0:=by
 unfold O1
 rw [show IntKind.bits .i64=64 from rfl,h];rfl
theorem Jt2 {a b:Int} (h:BitVec.ofInt 64 a &&& ~~~ BitVec.ofInt 64 b=0#64):Au4 .i64 a b=0:=by
 unfold Au4
 rw [show IntKind.bits .i64=64 from rfl,h];rfl
structure InS (p:ProcS):Prop where
 a:0≤p.pending∧p.pending≤65535
 b:0≤p.mask∧p.mask≤65535
 c:0≤p.ignored∧p.ignored≤65535
 d:0≤p.caught∧p.caught≤65535
theorem Hz5 {p:ProcS} (h:okS p=true) (r:InS p):O2 (A85 p)=(p,1):=by
 have hk:=h
 obtain ⟨ra,rb,rc,rd⟩:=r
 have e:Bs9 (A85 p)=p:=by
  obtain ⟨st,pa,gr,co,pe,ma,ig,ca,fds,hl⟩:=p
  simp only at ra rb rc rd
  unfold okS at h
  simp only [Bool.and_eq_true,Bool.not_eq_true',Bool.or_eq_false_iff,decide_eq_false_iff_not,List.any_eq_false] at h
  match fds,hl with
  | [f0,f1,f2,f3,f4,f5,f6,f7],hl =>
   have hf:=h.2.2.1
   simp at hf
   have two_b:∀ n:Int,0≤n∧n≤65535→((hi2 n).toNat:Int)*256+((lo2 n).toNat:Int)=n:=fun n hn=>by
    unfold hi2 lo2
    rw [if_pos hn,if_pos hn,Ai1 (by omega),← Bz5,D77];omega
   have g0:=h.1
   simp only [Bs9,A85,Ez1,two]
   simp
   refine ⟨Ai1 (by omega),Ai1 (by omega),Ai1 (by omega),Ai1 (by omega),two_b _ ra,two_b _ rb,two_b _ rc,two_b _ rd,Ai1 (by omega),Ai1 (by omega),Ai1 (by omega),Ai1 (by omega),Ai1 (by omega),Ai1 (by omega),Ai1 (by omega),Ai1 (by omega)⟩
 have hz:(A85 p).all (·==0)=false:=by
  simp [A85,Ez1]
 unfold O2 isS
 rw [hz,e,hk]
 simp
theorem I45:B87 0 0=true:=by kernel_rfl
def stR (kind:Int) (l:List UInt8):Int:=if kind=1 then (O2 l).2 else if kind=2 then (P3 l).2 else if kind=5 then (Ad3 l).2 else (N4 l).2
def rd (X:CX) (r:RecS):List UInt8 :=
 match E7 X.m.length r with
 | some (j,a,n)=>slice (X.m.getD j []) a n
 | none=>[]
structure Clean (nc:Nat) (X:CX):Prop where
 len:X.m.length=nc
 pos:0<nc
 bad:X.bad=[]
 own:(X.m.getD 0 []).length=492
 brs:∀ j,0<j→j<nc→(X.m.getD j []).length=40
 ok:∀ r:RecS,1≤r.kind→r.kind≤5→0≤r.index→r.index<J8 nc r.kind→stR r.kind (rd X r)≠2
structure Rin (nc:Nat) (r:RecS):Prop where
 a:1≤r.kind
 b:r.kind≤5
 c:0≤r.index
 d:r.index<J8 nc r.kind
theorem Rin.place {nc:Nat} {r:RecS} (h:Rin nc r) (hn:0<nc):∃ j a,E7 nc r=some (j,a,Z3 r.kind)∧j<nc∧(j=0→a+Z3 r.kind≤492)∧(0<j→a=0∧Z3 r.kind=40):=by
 obtain ⟨h1,h2,h3,h4⟩:=h
 obtain ⟨k,i⟩:=r
 simp only at h1 h2 h3 h4
 have hk:k=1∨k=2∨k=3∨k=4∨k=5:=by omega
 unfold E7 Z3
 simp only
 rw [if_neg (by omega)]
 rcases hk with rfl|rfl|rfl|rfl|rfl
 ·exact ⟨0,_,rfl,hn,fun _=>by simp [J8] at h4 ⊢;omega,fun h=>by omega⟩
 ·exact ⟨0,_,rfl,hn,fun _=>by simp [J8] at h4 ⊢;omega,fun h=>by omega⟩
 ·simp only [J8] at h4
  by_cases h5:i<4
  ·exact ⟨0,_,by simp [h5];rfl,hn,fun _=>by simp;omega,fun h=>by omega⟩
  ·exact ⟨i.toNat-3,0,by simp [h5],by simp at h4;omega,fun h=>by omega,fun _=>⟨rfl,rfl⟩⟩
 ·exact ⟨0,_,rfl,hn,fun _=>by simp,fun h=>by omega⟩
 ·exact ⟨0,_,rfl,hn,fun _=>by simp,fun h=>by omega⟩
theorem Je8 {nc:Nat} {r r':RecS} (h:Rin nc r) (h':Rin nc r') (ne:r≠r') {j a n j' a' n':Nat} (e:E7 nc r=some (j,a,n)) (e':E7 nc r'=some (j',a',n')):j≠j'∨a+n≤a'∨a'+n'≤a:=by
 obtain ⟨h1,h2,h3,h4⟩:=h
 obtain ⟨g1,g2,g3,g4⟩:=h'
 obtain ⟨k,i⟩:=r
 obtain ⟨k',i'⟩:=r'
 simp only at h1 h2 h3 h4 g1 g2 g3 g4
 have ne':k≠k'∨i≠i':=by
  by_cases hk:k=k'
  ·right;intro hi;exact ne (by rw [hk,hi])
  ·exact .inl hk
 unfold E7 at e e'
 simp only at e e'
 rw [if_neg (by omega)] at e e'
 unfold J8 at h4 g4
 have hk:k=1∨k=2∨k=3∨k=4∨k=5:=by omega
 have hk':k'=1∨k'=2∨k'=3∨k'=4∨k'=5:=by omega
 have fin:∀ {x y:Nat × Nat × Nat},some x=some y→x=y:=fun h=>by cases h;rfl
 rcases hk with rfl|rfl|rfl|rfl|rfl<;>rcases hk' with rfl|rfl|rfl|rfl|rfl<;>simp at e e' h4 g4 ne'<;>(try split at e)<;>(try split at e')<;>(try simp at e e')<;>omega
def Db9 (X:CX) (r:RecS) (b:List UInt8):CX :=
 match E7 X.m.length r with
 | some (j,a,_)=>{ X with m:=X.m.set j (O9 (X.m.getD j []) a b) }
 | none=>X
theorem G62 (l:List (List UInt8)) (j j':Nat) (x:List UInt8) (h:j<l.length):(l.set j x).getD j' []=if j'=j then x else l.getD j' []:=by
 rw [List.getD_eq_getElem?_getD,List.getD_eq_getElem?_getD,List.getElem?_set]
 by_cases hj:j=j'
 ·subst hj;simp [h]
 ·rw [if_neg hj,if_neg (fun e=>hj e.symm)]
section
variable {nc:Nat} {X:CX} (c:Clean nc X) {r r':RecS} (h:Rin nc r) (h':Rin nc r')
include c h
theorem I02:rdX X r=some (rd X r):=by
 obtain ⟨j,a,e,_⟩:=h.place c.pos
 unfold rdX rd
 rw [c.len,e]
 simp [c.bad]
theorem Dg2 (b:List UInt8):wrX X r b true=(true,Db9 X r b):=by
 obtain ⟨j,a,e,_⟩:=h.place c.pos
 unfold wrX Db9
 rw [c.len,e]
 simp [c.bad]
theorem Gg3 {j a n:Nat} (e:E7 nc r=some (j,a,n)):a+n≤(X.m.getD j []).length∧j<X.m.length∧n=Z3 r.kind:=by
 obtain ⟨j',a',e',hj,h0,h1⟩:=h.place c.pos
 rw [e] at e';cases e'
 rw [c.len]
 by_cases hz:j=0
 ·subst hz;rw [c.own];exact ⟨h0 rfl,hj,rfl⟩
 ·rw [c.brs j (by omega) hj]
  have:=h1 (by omega)
  exact ⟨by omega,hj,rfl⟩
include h'
theorem Ao7 {b:List UInt8} (hb:b.length=Z3 r.kind):rd (Db9 X r b) r'=if r'=r then b else rd X r':=by
 obtain ⟨j,a,e,_⟩:=h.place c.pos
 obtain ⟨j',a',e',_⟩:=h'.place c.pos
 have p:=Gg3 c h e
 have p':=Gg3 c h' e'
 have es:Db9 X r b={ X with m:=X.m.set j (O9 (X.m.getD j []) a b) }:=by unfold Db9;rw [c.len,e]
 have el:(Db9 X r b).m.length=nc:=by rw [es];simp [c.len]
 unfold rd
 rw [el,e',c.len,e',es]
 simp only
 rw [G62 _ _ _ _ p.2.1]
 by_cases hr:r'=r
 ·subst hr
  rw [e] at e';cases e'
  rw [if_pos rfl,if_pos rfl]
  have:=G98 (l:=X.m.getD j []) (b:=b) (a:=a) (by omega)
  rwa [hb] at this
 ·rw [if_neg hr]
  by_cases hj:j'=j
  ·subst hj
   rw [if_pos rfl]
   have dj:=Je8 h' h hr e' e
   exact Gz3 (by omega) (by omega)
  ·rw [if_neg hj]
end
theorem Df7 {nc:Nat} {X:CX} (c:Clean nc X) {r:RecS} (h:Rin nc r) {b:List UInt8} (hb:b.length=Z3 r.kind) (hs:stR r.kind b≠2):Clean nc (Db9 X r b):=by
 obtain ⟨j,a,e,_⟩:=h.place c.pos
 have p:=Gg3 c h e
 have es:Db9 X r b={ X with m:=X.m.set j (O9 (X.m.getD j []) a b) }:=by unfold Db9;rw [c.len,e]
 refine ⟨by rw [es];simp [c.len],c.pos,by rw [es];exact c.bad,?_,?_,?_⟩
 ·rw [es];simp only
  rw [G62 _ _ _ _ p.2.1]
  split
  ·rename_i h0;subst h0;rw [Ao9 (by omega)];exact c.own
  ·exact c.own
 ·intro i h0 h1
  rw [es];simp only
  rw [G62 _ _ _ _ p.2.1]
  split
  ·rename_i h2;subst h2;rw [Ao9 (by omega)];exact c.brs i h0 h1
  ·exact c.brs i h0 h1
 ·intro r' h1 h2 h3 h4
  rw [Ao7 c h ⟨h1,h2,h3,h4⟩ hb]
  split
  ·rename_i hr;rw [hr];exact hs
  ·exact c.ok r' h1 h2 h3 h4
theorem Dy4 {α:Type} (dec:List UInt8→α × Int) (z:α) {nc:Nat} {X:CX} (c:Clean nc X) {r:RecS} (h:Rin nc r) (hd:(dec (rd X r)).2=stR r.kind (rd X r)):Z8 dec z X r=(dec (rd X r),X):=by
 unfold Z8
 rw [I02 c h]
 simp only
 rw [if_neg (by rw [hd];exact c.ok r h.a h.b h.c h.d)]
abbrev vS (X:CX) (i:Int):ProcS × Int:=O2 (rd X ⟨1,i⟩)
abbrev vF (X:CX) (i:Int):FileS × Int:=P3 (rd X ⟨2,i⟩)
abbrev vP (X:CX) (i:Int):PipeS × Int:=N4 (rd X ⟨3,i⟩)
theorem Bz2 {nc:Nat} {i:Int} (h:0≤i∧i<8):Rin nc ⟨1,i⟩:=⟨by simp,by simp,h.1,h.2⟩
theorem By1 {nc:Nat} {i:Int} (h:0≤i∧i<12):Rin nc ⟨2,i⟩:=⟨by simp,by simp,h.1,h.2⟩
theorem Bw5 {nc:Nat} {i:Int} (h:0≤i∧i<3+nc):Rin nc ⟨3,i⟩:=⟨by simp,by simp,h.1,h.2⟩
theorem At9 {nc:Nat} {X:CX} (c:Clean nc X) {i:Int} (h:0≤i∧i<8):Ej5 X i=(vS X i,X):=Dy4 O2 .zero c (Bz2 h) rfl
theorem Dw1 {nc:Nat} {X:CX} (c:Clean nc X) {i:Int} (h:0≤i∧i<12):E70 X i=(vF X i,X):=Dy4 P3 .zero c (By1 h) rfl
theorem Gu1 {nc:Nat} {X:CX} (c:Clean nc X) {i:Int} (h:0≤i∧i<3+nc):D90 X i=(vP X i,X):=Dy4 N4 .zero c (Bw5 h) rfl
theorem D72 {f:CX→Int→CX} {X:CX}:∀ (m:Nat) (i:Int),(∀ j,i≤j→j<i+m→f X j=X)→D57 f m i X=X
 | 0,_,_=>rfl
 | m+1,i,h=>by
  unfold D57
  rw [h i (by omega) (by omega)]
  exact D72 m (i+1) fun j h1 h2=>h j (by omega) (by omega)
theorem D64 {nc:Nat} {X:CX} (c:Clean nc X):Go0 X=X:=by
 have h3:Ha1 X=X:=by
  unfold Ha1
  have e1:Gn1 X=(N4 (rd X ⟨4,0⟩),X):=Dy4 N4 .zero c ⟨by simp,by simp,by simp,by simp [J8]⟩ rfl
  have e2:Gf6 X=(Ad3 (rd X ⟨5,0⟩),X):=Dy4 Ad3 0 c ⟨by simp,by simp,by simp,by simp [J8]⟩ rfl
  rw [e1];simp only;rw [e2]
 have hl:=c.len
 unfold Go0 lookN Ia2 H30
 rw [D72 8 0 (fun j h1 h2=>by rw [At9 c (by omega)])]
 rw [D72 12 0 (fun j h1 h2=>by rw [Dw1 c (by omega)])]
 rw [D72 (3+X.m.length) 0 (fun j h1 h2=>by rw [Gu1 c (by omega)]),h3]
theorem H15 {f:FileS} (h:okF f=true):P3 (As9 f)=(f,1):=by
 have hk:=h
 simp only [okF,Bool.and_eq_true,Bool.or_eq_true,decide_eq_true_eq,beq_iff_eq,bne_iff_ne] at h
 have e:Dv3 (As9 f)=f:=by
  obtain ⟨a,b,c,d⟩:=f
  simp only at h
  have h1:=Ai1 (x:=a) (by omega);have h2:=Ai1 (x:=b) (by omega);have h3:=Ai1 (x:=c) (by omega);have h4:=Ai1 (x:=d) (by omega)
  simp [Dv3,As9,Bl9]
  exact ⟨h1,h2,h3,h4⟩
 have hz:(As9 f).all (·==0)=false:=by simp [As9,Bl9]
 unfold P3 isF
 rw [hz,e,hk]
 simp
section
variable {nc:Nat} {X:CX} (c:Clean nc X)
include c
abbrev A76 (X:CX) (i:Int) (p:ProcS):CX:=Db9 X ⟨1,i⟩ (A85 p)
abbrev Bm1 (X:CX) (i:Int) (f:FileS):CX:=Db9 X ⟨2,i⟩ (As9 f)
abbrev D29 (X:CX) (i:Int):CX:=Db9 X ⟨1,i⟩ (List.replicate 24 0)
theorem V9 {i:Int} (h:0≤i∧i<8) {p:ProcS} (ok:okS p=true) (r:InS p) :
  Dc1 X i p=(true,A76 X i p)∧Clean nc (A76 X i p)∧(∀ j:Int,0≤j∧j<8→vS (A76 X i p) j=if j=i then (p,1) else vS X j)∧(∀ j:Int,0≤j∧j<12→vF (A76 X i p) j=vF X j)∧(∀ j:Int,0≤j∧j<3+nc→vP (A76 X i p) j=vP X j):=by
 have hl:(A85 p).length=Z3 (1:Int):=by rw [E33];rfl
 refine ⟨by unfold Dc1;rw [ok];exact Dg2 c (Bz2 h) _,Df7 c (Bz2 h) hl (by show (O2 (A85 p)).2≠2;rw [Hz5 ok r];simp),fun j hj=>?_,fun j hj=>?_,fun j hj=>?_⟩
 ·show O2 (rd _ _)=_
  rw [Ao7 c (Bz2 h) (Bz2 hj) hl]
  by_cases e:j=i
  ·rw [if_pos (by rw [e]),if_pos e];exact Hz5 ok r
  ·rw [if_neg (by simp [e]),if_neg e]
 ·show P3 (rd _ _)=_
  rw [Ao7 c (Bz2 h) (By1 hj) hl,if_neg (by simp)]
 ·show N4 (rd _ _)=_
  rw [Ao7 c (Bz2 h) (Bw5 hj) hl,if_neg (by simp)]
theorem Ak2 {i:Int} (h:0≤i∧i<12) {f:FileS} (ok:okF f=true) :
  By0 X i f=(true,Bm1 X i f)∧Clean nc (Bm1 X i f)∧(∀ j:Int,0≤j∧j<8→vS (Bm1 X i f) j=vS X j)∧(∀ j:Int,0≤j∧j<12→vF (Bm1 X i f) j=if j=i then (f,1) else vF X j)∧(∀ j:Int,0≤j∧j<3+nc→vP (Bm1 X i f) j=vP X j):=by
 have hl:(As9 f).length=Z3 (2:Int):=by rw [Ee5];rfl
 refine ⟨by unfold By0;rw [ok];exact Dg2 c (By1 h) _,Df7 c (By1 h) hl (by show (P3 (As9 f)).2≠2;rw [H15 ok];simp),fun j hj=>?_,fun j hj=>?_,fun j hj=>?_⟩
 ·show O2 (rd _ _)=_
  rw [Ao7 c (By1 h) (Bz2 hj) hl,if_neg (by simp)]
 ·show P3 (rd _ _)=_
  rw [Ao7 c (By1 h) (By1 hj) hl]
  by_cases e:j=i
  ·rw [if_pos (by rw [e]),if_pos e];exact H15 ok
  ·rw [if_neg (by simp [e]),if_neg e]
 ·show N4 (rd _ _)=_
  rw [Ao7 c (By1 h) (Bw5 hj) hl,if_neg (by simp)]
theorem Bi3 {i:Int} (h:0≤i∧i<8) :
  B17 X ⟨1,i⟩=(true,D29 X i)∧Clean nc (D29 X i)∧(∀ j:Int,0≤j∧j<8→vS (D29 X i) j=if j=i then (.zero,0) else vS X j)∧(∀ j:Int,0≤j∧j<12→vF (D29 X i) j=vF X j)∧(∀ j:Int,0≤j∧j<3+nc→vP (D29 X i) j=vP X j):=by
 have hl:(List.replicate 24 (0:UInt8)).length=Z3 (1:Int):=rfl
 refine ⟨Dg2 c (Bz2 h) _,Df7 c (Bz2 h) hl (by show (O2 (List.replicate 24 0)).2≠2;rw [show (O2 (List.replicate 24 0))=(.zero,0) from rfl];simp),fun j hj=>?_,fun j hj=>?_,fun j hj=>?_⟩
 ·show O2 (rd _ _)=_
  rw [Ao7 c (Bz2 h) (Bz2 hj) hl]
  by_cases e:j=i
  ·rw [if_pos (by rw [e]),if_pos e];rfl
  ·rw [if_neg (by simp [e]),if_neg e]
 ·show P3 (rd _ _)=_
  rw [Ao7 c (Bz2 h) (By1 hj) hl,if_neg (by simp)]
 ·show N4 (rd _ _)=_
  rw [Ao7 c (Bz2 h) (Bw5 hj) hl,if_neg (by simp)]
theorem D93 {i:Int} (h:0≤i∧i<8):((vS X i).2=0∧(vS X i).1=.zero)∨((vS X i).2=1∧okS (vS X i).1=true):=by
 have:=c.ok ⟨1,i⟩ (by simp) (by simp) h.1 h.2
 have hk:(vS X i).2≠2:=this
 unfold vS O2 at hk ⊢
 split
 ·exact .inl ⟨rfl,rfl⟩
 ·split
  ·rename_i h2
   unfold isS at h2
   simp only [Bool.and_eq_true] at h2
   exact .inr ⟨rfl,h2.1⟩
  ·rename_i h1 h2;simp [h1,h2] at hk
theorem He5 {i:Int} (h:0≤i∧i<12):((vF X i).2=0∧(vF X i).1=.zero)∨((vF X i).2=1∧okF (vF X i).1=true):=by
 have:=c.ok ⟨2,i⟩ (by simp) (by simp) h.1 h.2
 have hk:(vF X i).2≠2:=this
 unfold vF P3 at hk ⊢
 split
 ·exact .inl ⟨rfl,rfl⟩
 ·split
  ·rename_i h2
   unfold isF at h2
   simp only [Bool.and_eq_true] at h2
   exact .inr ⟨rfl,h2.1⟩
  ·rename_i h1 h2;simp [h1,h2] at hk
end
abbrev M7 (n e:Int) (b:Bool):List Value:=[int n,int e,.slice none 0 0,.bool b]
theorem Ac2 (e:Int):Ct A6 L5 [int e] [] fun v own=>v=.agg ⟨M7 0 e false⟩∧own []:=by
 refine Ct.of Ig5 rfl fun h r=>Tr.eq (Ie1 ..) ?_;refine Je ?_
 (refine Ja ?_;intros)
 refine Ys fun o=>?_
 exact ⟨rfl,o.sub⟩
theorem B11 (ok:Bool) (n:Int):Ct A6 Ae3 [.bool ok,int n] [] fun v own=>v=.agg ⟨if ok then M7 n 0 false else M7 0 105 false⟩∧own []:=by
 refine Ct.of Ie2 rfl fun h r=>Tr.eq (Ib9 ..) ?_;refine Je ?_
 cases ok with
 | true =>
  (refine Ja ?_;intros)
  refine Ys fun o=>?_
  exact ⟨rfl,o.sub⟩
 | false =>
  (refine Ja ?_;intros)
  refine Yc (Ac2 105) ?_;rintro _ h ⟨rfl,o⟩<;>(refine Jf o ?_;intros)
  refine Ys fun o=>?_
  exact ⟨rfl,o.sub⟩
def H7 (X:CX) (i:Int):ProcS × Int:=if (vS X i).2=1∧(vS X i).1.state=1 then ((vS X i).1,0) else (.zero,105)
theorem Ea4 (b k:Nat) (F:Fr) (X:CX) (ok:FrOk F) {nc:Nat} (c:Clean nc X) (i:Int) (hi:0≤i∧i<8):Ct A6 Am4 [P0 b,int i] [cmC b k F X] fun v own=>v=.tuple ⟨[.agg ⟨B7 (H7 X i).1⟩,int (H7 X i).2]⟩∧own [cmC b k F X]:=by
 refine Ct.of Gt9 rfl fun h r=>Tr.eq (Gw7 ..) ?_;refine Je ?_
 (refine Jc ?_;intros)
 refine Yn fun b0 h=>?_
 refine Yc (Go4 b k F X ok) ?_;rintro _ h ⟨rfl,o⟩<;>refine Jh o ?_
 rw [D64 c]
 (refine Ja ?_;intros)
 refine Yc (Bd1 b k F X ok i) ?_;rintro _ h ⟨rfl,o⟩<;>refine Jh o ?_
 rw [At9 c hi]
 dsimp only
 (refine Jc ?_;intros)
 refine Yn fun b1 h=>?_
 (refine Jb ?_;intros)
 refine Tr.orG (c:=(vS X i).1.state != 1) (fun hb=>?_) ?_
 ·exact Jz
 unfold H7
 by_cases h1:(vS X i).2=1∧(vS X i).1.state=1
 ·rw [if_pos h1]
  refine Yf (by simp [h1.1,h1.2]) ?_
  (refine Ja ?_;intros)
  refine Ys fun o=>?_
  exact ⟨rfl,o.sub⟩
 ·rw [if_neg h1]
  refine Yt (by simp;by_cases h2:(vS X i).2=1<;>simp [h2] at h1 ⊢;exact h1) ?_
  (refine Ja ?_;intros)
  refine Ys fun o=>?_
  exact ⟨rfl,o.sub⟩
def Al2 (X:CX):Nat→Int→Int
 | 0,_=>-1
 | m+1,i=>if (vS X i).2=0 then i else Al2 X m (i+1)
theorem In6 (b k:Nat) (F:Fr) (X:CX) (ok:FrOk F) {nc:Nat} (c:Clean nc X):∀ (m:Nat) (i:Int),0≤i→i+m=8 →
  CtJ D6 A29 B34 [(0,P0 b),(6,int i)] [cmC b k F X] fun v own=>v=int (Al2 X m i)∧own [cmC b k F X]:=by
 intro m
 induction m with
 | zero =>
  intro i h0 hi
  refine CtJ.of Ep3 fun h r=>Tr.eq (Eu1 ..) ?_;refine Je ?_
  refine Yf (by simp;omega) ?_
  refine Ys fun o=>?_
  exact ⟨rfl,o.sub⟩
 | succ m ih =>
  intro i h0 hi
  have e1:=wI i
  refine CtJ.of Ep3 fun h r=>Tr.eq (Eu1 ..) ?_;refine Je ?_
  refine Yt (by simp;omega) ?_
  refine Yc (Bd1 b k F X ok i) ?_;rintro _ h ⟨rfl,o⟩<;>refine Jh o ?_
  rw [At9 c (by omega)]
  dsimp only
  (refine Jc ?_;intros)
  refine Yn fun b1 h=>?_
  (refine Ja ?_;intros)
  rw [show Al2 X (m+1) i=if (vS X i).2=0 then i else Al2 X m (i+1) from rfl]
  by_cases h1:(vS X i).2=0
  ·rw [if_pos h1]
   refine Yt (by simpa using h1) ?_
   refine Ys fun o=>?_
   exact ⟨rfl,o.sub⟩
  ·rw [if_neg h1,e1]
   refine Yf (by simpa using h1) ?_
   refine B9 [1] 1 rfl rfl ?_
   refine Yr (ih (i+1) (by omega) (by omega)) ?_
   intro v h q
   exact q
theorem Jk6 (b k:Nat) (F:Fr) (X:CX) (ok:FrOk F) {nc:Nat} (c:Clean nc X):Ct A6 A29 [P0 b] [cmC b k F X] fun v own=>v=int (Al2 X 8 0)∧own [cmC b k F X]:=by
 refine Ct.of Ep3 rfl fun h r=>Tr.eq (Ih8 ..) ?_;refine Je ?_
 refine Yr (In6 b k F X ok c 8 0 (by omega) (by omega)) ?_
 intro v h q
 exact q
def Bc5:List Int→List Int→List Int
 | [],m=>m
 | f::l,m=>Bc5 l (if f>0 then m.set (f-1).toNat (m.getD (f-1).toNat 0+1) else m)
def Aj7 (n:Int) (m:List Int):Prop:=m.length=12∧∀ x ∈ m,0≤x∧x≤n
theorem Aj7.get {n:Int} {m:List Int} (h:Aj7 n m) {j:Nat} (hj:j<12):0≤m.getD j 0∧m.getD j 0≤n:=by
 have hl:=h.1
 have e:m[j]?=some m[j]:=List.getElem?_eq_getElem (by omega)
 rw [List.getD_eq_getElem?_getD,e]
 exact h.2 _ (List.getElem_mem _)
theorem Aj7.set {n:Int} {m:List Int} (h:Aj7 n m) {j:Nat} (hj:j<12):Aj7 (n+1) (m.set j (m.getD j 0+1)):=by
 refine ⟨by simpa using h.1,fun x hx=>?_⟩
 rcases List.mem_or_eq_of_mem_set hx with h2|rfl
 ·have:=h.2 x h2;omega
 ·have:=h.get hj;omega
theorem Aj7.up {n:Int} {m:List Int} (h:Aj7 n m):Aj7 (n+1) m:=⟨h.1,fun x hx=>by have:=h.2 x hx;omega⟩
theorem Jb9 {m:List Int} {j:Nat} (h:j<m.length) (v:Int):Hl4 (m.map int) j (int v)=some ((m.set j v).map int):=by
 rw [Hl4,show Nat.blt j (m.map int).length=true from Nat.ble_eq_true_of_le (by simp;omega),List.map_set];rfl
def Bd6 (l:List Int):Prop:=∀ f ∈ l,0≤f∧f≤12
theorem Hj0 {l:List Int} {i:Nat} (h:i<l.length):(l.map int)[i]?=some (int (l.getD i 0)):=by rw [List.getElem?_map,U2 0 h];rfl
theorem Id4 (b k:Nat) (F:Fr) (X:CX) (b0 b1:Nat) (p:ProcS) (hf:Bd6 p.fds) (Φ:Value→(List HP→Prop)→Prop) (M:List Int)
  (next:CtJ D6 H5 Av9 [(0,P0 b),(5,P0 b1),(31,.agg ⟨p.fds.map int⟩),(32,int 0)] [pt b1 (.cells E25 false (M.map int)),cmC b k F X] Φ) :
  ∀ (m i:Nat) (more:List Int),i+m=8→Aj7 i more→Bc5 (p.fds.drop i) more=M →
  CtJ D6 H5 A96 [(0,P0 b),(3,P0 b0),(5,P0 b1),(17,.agg ⟨p.fds.map int⟩),(18,int i)] [pt b1 (.cells E25 false (more.map int)),pt b0 (.cells A7 false (B7 p)),cmC b k F X] Φ:=by
 intro m
 induction m with
 | zero =>
  intro i more hi hm hM
  have:i=8:=by omega
  subst this
  rw [show p.fds.drop 8=[] from List.drop_eq_nil_of_le (by rw [p.len];omega),show Bc5 [] more=more from rfl] at hM
  subst hM
  refine CtJ.of A50 fun h r=>Tr.eq (Ej4 ..) ?_;refine Je ?_
  refine Yf (by simp) ?_
  (refine Ja ?_;intros)
  refine B9 [0,1] 1 rfl rfl ?_
  refine Yr next ?_
  intro v h q
  exact q
 | succ m ih =>
  intro i more hi hm hM
  have e1:=wN i
  have hil:i<p.fds.length:=by rw [p.len];omega
  have hg:=Hj0 hil
  have hd:p.fds.drop i=p.fds.getD i 0::p.fds.drop (i+1):=by
   rw [List.drop_eq_getElem_cons hil,List.getD_eq_getElem?_getD,List.getElem?_eq_getElem hil];rfl
  have hr:0≤p.fds.getD i 0∧p.fds.getD i 0≤12:=hf _ (by
   rw [List.getD_eq_getElem?_getD,List.getElem?_eq_getElem hil];exact List.getElem_mem _)
  rw [hd] at hM
  generalize p.fds.getD i 0=f at hg hr hM
  rw [show Bc5 (f::p.fds.drop (i+1)) more=Bc5 (p.fds.drop (i+1)) (if f>0 then more.set (f-1).toNat (more.getD (f-1).toNat 0+1) else more) from rfl] at hM
  refine CtJ.of A50 fun h r=>Tr.eq (Ej4 ..) ?_;refine Je ?_
  refine Yt (by simp;omega) ?_
  rw [e1]
  refine Tr.ck (by omega) ?_
  rw [Int.toNat_natCast]
  (refine Ja ?_;intros)
  by_cases hz:f>0
  ·have e2:IntKind.wrap .i64 (f-1)=f-1:=by rw [B4];omega
   have hj:(f-1).toNat<12:=by omega
   have hm2:=hm.get hj
   have e3:IntKind.wrap .i64 (more.getD (f-1).toNat 0+1)=more.getD (f-1).toNat 0+1:=by rw [B4];omega
   have hgm:=Hj0 (l:=more) (i:=(f-1).toNat) (by rw [hm.1];exact hj)
   rw [if_pos hz] at hM
   rw [e2]
   refine Yt (by simpa using hz) ?_
   (refine Ja ?_;intros)
   rw [e3]
   refine Gs (fun h=>?_) (by exact Jb9 (by rw [hm.1];exact hj) _)
   refine Yr (ih (i+1) (more.set (f-1).toNat (more.getD (f-1).toNat 0+1)) (by omega) (by rw [show ((i+1:Nat):Int)=(i:Int)+1 by omega];exact hm.set hj) hM) ?_
   intro v h q
   exact q
  ·rw [if_neg hz] at hM
   refine Yf (by simpa using hz) ?_
   refine Yr (ih (i+1) more (by omega) (by simpa using hm.up) hM) ?_
   intro v h q
   exact q
def Ak0 (X:CX) (more:List Int):List Int→Int
 | []=>0
 | f::l=>if f=0 then Ak0 X more l else if (vF X (f-1)).2≠1 then 105 else if (vF X (f-1)).1.refs+more.getD (f-1).toNat 0>64 then 123 else Ak0 X more l
theorem Dt2 {f:FileS} (h:okF f=true):1≤f.refs∧f.refs≤64:=by
 simp only [okF,Bool.and_eq_true,Bool.or_eq_true,decide_eq_true_eq,beq_iff_eq,bne_iff_ne] at h
 omega
theorem Hg4 {nc:Nat} {X:CX} (c:Clean nc X) {i:Int} (h:0≤i∧i<12):0≤(vF X i).1.refs∧(vF X i).1.refs≤64:=by
 rcases He5 c h with ⟨_,h1⟩|⟨_,h1⟩
 ·rw [h1];simp
 ·have:=Dt2 h1;omega
theorem If2 (b k:Nat) (F:Fr) (X:CX) (ok:FrOk F) {nc:Nat} (c:Clean nc X) (b1:Nat) (fds more:List Int) (hl:fds.length=8) (hf:Bd6 fds) (hm:Aj7 8 more) (Φ:Value→(List HP→Prop)→Prop)
  (bad:∀ (e:Int),Ak0 X more fds=e→e≠0→∀ h r,Own h (cmC b k F X::r)→Φ (int e) fun l=>Own h (l++r))
  (next:Ak0 X more fds=0→CtJ D6 H5 Aw8 [(0,P0 b),(57,.agg ⟨more.map int⟩),(58,int 0)] [cmC b k F X] Φ) :
  ∀ (m i:Nat),i+m=8→Ak0 X more fds=Ak0 X more (fds.drop i) →
  CtJ D6 H5 Av9 [(0,P0 b),(5,P0 b1),(31,.agg ⟨fds.map int⟩),(32,int i)] [pt b1 (.cells E25 false (more.map int)),cmC b k F X] Φ:=by
 intro m
 induction m with
 | zero =>
  intro i hi he
  have:i=8:=by omega
  subst this
  rw [show fds.drop 8=[] from List.drop_eq_nil_of_le (by omega),show Ak0 X more []=0 from rfl] at he
  have hl12:B89 (more.map int) 0 12=some (more.map int):=Bl3 (by simp [hm.1])
  refine CtJ.of A50 fun h r=>Tr.eq (El7 ..) ?_;refine Je ?_
  refine Yf (by simp) ?_
  refine Gs ?_ (by exact hl12)
  refine B9 [1] 1 rfl rfl ?_
  refine Yr (next he) ?_
  intro v h q
  exact q
 | succ m ih =>
  intro i hi he
  have e1:=wN i
  have hil:i<fds.length:=by omega
  have hg:=Hj0 hil
  have hd:fds.drop i=fds.getD i 0::fds.drop (i+1):=by
   rw [List.drop_eq_getElem_cons hil,List.getD_eq_getElem?_getD,List.getElem?_eq_getElem hil];rfl
  have hr:0≤fds.getD i 0∧fds.getD i 0≤12:=hf _ (by
   rw [List.getD_eq_getElem?_getD,List.getElem?_eq_getElem hil];exact List.getElem_mem _)
  rw [hd] at he
  generalize fds.getD i 0=f at hg hr he
  rw [show Ak0 X more (f::fds.drop (i+1))=if f=0 then Ak0 X more (fds.drop (i+1)) else if (vF X (f-1)).2≠1 then 105 else if (vF X (f-1)).1.refs+more.getD (f-1).toNat 0>64 then 123 else Ak0 X more (fds.drop (i+1)) from rfl] at he
  refine CtJ.of A50 fun h r=>Tr.eq (El7 ..) ?_;refine Je ?_
  refine Yt (by simp;omega) ?_
  rw [e1]
  refine Tr.ck (by omega) ?_
  rw [Int.toNat_natCast]
  (refine Ja ?_;intros)
  by_cases hz:f=0
  ·rw [if_pos hz] at he
   refine Yt (by simpa using hz) ?_
   refine Yr (ih (i+1) (by omega) he) ?_
   intro v h q
   exact q
  rw [if_neg hz] at he
  refine Yf (by simpa using hz) ?_
  have e2:IntKind.wrap .i64 (f-1)=f-1:=by rw [B4];omega
  have hj:(f-1).toNat<12:=by omega
  rw [e2]
  refine Yc (E41 b k F X ok (f-1)) ?_;rintro _ h ⟨rfl,o⟩<;>refine Jh o ?_
  rw [Dw1 c (by omega)]
  dsimp only
  (refine Jc ?_;intros)
  refine Yn fun b2 h=>?_
  (refine Ja ?_;intros)
  by_cases h1:(vF X (f-1)).2=1
  ·rw [if_neg (by simpa using h1)] at he
   refine Yf (by simpa using h1) ?_
   have hm2:=hm.get hj
   have hgm:=Hj0 (l:=more) (i:=(f-1).toNat) (by rw [hm.1];exact hj)
   have hrf:=Hg4 c (i:=f-1) (by omega)
   have e3:IntKind.wrap .i64 ((vF X (f-1)).1.refs+more.getD (f-1).toNat 0)=(vF X (f-1)).1.refs+more.getD (f-1).toNat 0:=by rw [B4];omega
   (refine Ja ?_;intros)
   rw [e3]
   by_cases h2:(vF X (f-1)).1.refs+more.getD (f-1).toNat 0>64
   ·rw [if_pos h2] at he
    refine Yt (by simpa using h2) ?_
    refine B9 [1] 2 rfl rfl ?_
    refine Ys fun o=>?_
    exact bad 123 he (by simp) _ _ o
   ·rw [if_neg h2] at he
    refine Yf (by simpa using h2) ?_
    refine B9 [2,1] 1 rfl rfl ?_
    refine Yr (ih (i+1) (by omega) he) ?_
    intro v h q
    exact q
  ·rw [if_pos h1] at he
   refine Yt (by simpa using h1) ?_
   refine B9 [1] 2 rfl rfl ?_
   refine Ys fun o=>?_
   exact bad 105 he (by simp) _ _ o
abbrev Bx1 (f:FileS) (n:Int):FileS:=⟨f.kind,f.pipe,f.refs+n,f.flags⟩
def Br0 (more:List Int):Nat→Int→CX→CX
 | 0,_,X=>X
 | m+1,j,X=>Br0 more m (j+1) (if more.getD j.toNat 0=0 then X else Bm1 X j (Bx1 (vF X j).1 (more.getD j.toNat 0)))
def Hh4 (more:List Int) (X:CX) (j:Int):Prop:=∀ i:Int,j≤i→i<12→more.getD i.toNat 0≠0→(vF X i).2=1∧(vF X i).1.refs+more.getD i.toNat 0≤64
theorem Dr1 {f:FileS} (h:okF f=true) {n:Int} (hn:1≤f.refs+n∧f.refs+n≤64):okF (Bx1 f n)=true:=by
 simp only [okF,Bool.and_eq_true,Bool.or_eq_true,decide_eq_true_eq,beq_iff_eq,bne_iff_ne] at h ⊢
 omega
theorem Hh4.step {nc:Nat} {X:CX} (c:Clean nc X) {more:List Int} (hm:Aj7 8 more) {j:Int} (h0:0≤j∧j<12) (s:Hh4 more X j) (hz:more.getD j.toNat 0≠0) :
  okF (Bx1 (vF X j).1 (more.getD j.toNat 0))=true∧Hh4 more (Bm1 X j (Bx1 (vF X j).1 (more.getD j.toNat 0))) (j+1):=by
 obtain ⟨s1,s2⟩:=s j (by omega) (by omega) hz
 have hg:=hm.get (j:=j.toNat) (by omega)
 have hk:okF (vF X j).1=true:=by
  rcases He5 c h0 with ⟨h1,_⟩|⟨_,h1⟩
  ·omega
  ·exact h1
 have hr:=Dt2 hk
 have k:=Dr1 hk (n:=more.getD j.toNat 0) (by omega)
 refine ⟨k,fun i h1 h2 hi=>?_⟩
 rw [(Ak2 c h0 k).2.2.2.1 i (by omega),if_neg (by omega)]
 exact s i (by omega) h2 hi
theorem Id6 (b k:Nat) (F:Fr) (ok:FrOk F) {nc:Nat} (more:List Int) (hm:Aj7 8 more):∀ (m:Nat) (j:Int) (X:CX),Clean nc X→Hh4 more X j→0≤j→j+m=12 →
  CtJ D6 H5 Aw8 [(0,P0 b),(57,.agg ⟨more.map int⟩),(58,int j)] [cmC b k F X] fun v own=>v=int 0∧own [cmC b k F (Br0 more m j X)]:=by
 intro m
 induction m with
 | zero =>
  intro j X c s h0 hj
  refine CtJ.of A50 fun h r=>Tr.eq (Em6 ..) ?_;refine Je ?_
  refine Yf (by simp;omega) ?_
  refine Ys fun o=>?_
  rw [show Br0 more 0 j X=X from rfl]
  exact ⟨rfl,o.sub⟩
 | succ m ih =>
  intro j X c s h0 hj
  have e1:=wI j
  have hg:=Hj0 (l:=more) (i:=j.toNat) (by rw [hm.1];omega)
  have hm2:=hm.get (j:=j.toNat) (by omega)
  rw [show Br0 more (m+1) j X=Br0 more m (j+1) (if more.getD j.toNat 0=0 then X else Bm1 X j (Bx1 (vF X j).1 (more.getD j.toNat 0))) from rfl]
  refine CtJ.of A50 fun h r=>Tr.eq (Em6 ..) ?_;refine Je ?_
  refine Yt (by simp;omega) ?_
  rw [e1]
  (refine Ja ?_;intros)
  by_cases hz:more.getD j.toNat 0=0
  ·rw [if_pos hz]
   refine Yt (by simpa using hz) ?_
   refine Yr (ih (j+1) X c (fun i h1 h2 h3=>s i (by omega) h2 h3) (by omega) (by omega)) ?_
   intro v h q
   exact q
  ·rw [if_neg hz]
   refine Yf (by simpa using hz) ?_
   have hrf:=Hg4 c (i:=j) (by omega)
   have e3:IntKind.wrap .i64 ((vF X j).1.refs+more.getD j.toNat 0)=(vF X j).1.refs+more.getD j.toNat 0:=by rw [B4];omega
   obtain ⟨k1,s2⟩:=s.step c hm (by omega) hz
   obtain ⟨w1,w2,_⟩:=Ak2 c (i:=j) (by omega) k1
   refine Yc (E41 b k F X ok j) ?_;rintro _ h ⟨rfl,o⟩<;>refine Jh o ?_
   rw [Dw1 c (by omega)]
   dsimp only
   (refine Jc ?_;intros)
   refine Yn fun b2 h=>?_
   (refine Ja ?_;intros)
   simp only [e3,List.set_cons_succ,List.set_cons_zero,List.drop_zero,List.take]
   refine Yc (Gu3 b k F X ok j (Bx1 (vF X j).1 (more.getD j.toNat 0))) ?_;rintro _ h ⟨rfl,o⟩<;>refine Jh o ?_
   rw [w1]
   dsimp only
   (refine Ja ?_;intros)
   refine B9 [0] 1 rfl rfl ?_
   refine Yr (ih (j+1) _ w2 s2 (by omega) (by omega)) ?_
   intro v h q
   exact q
theorem Gm4:∀ (l m:List Int) (i:Nat),Bd6 l→m.length=12→(Bc5 l m).getD i 0≠0→m.getD i 0≠0∨((i:Int)+1) ∈ l
 | [],m,i,_,_,h=>.inl h
 | f::l,m,i,hf,hm,h=>by
  have hr:=hf f (by simp)
  have hl:Bd6 l:=fun x hx=>hf x (by simp [hx])
  rw [show Bc5 (f::l) m=Bc5 l (if f>0 then m.set (f-1).toNat (m.getD (f-1).toNat 0+1) else m) from rfl] at h
  by_cases hz:f>0
  ·rw [if_pos hz] at h
   rcases Gm4 l _ i hl (by simpa using hm) h with h2|h2
   ·by_cases hi:(f-1).toNat=i
    ·right
     rw [show (i:Int)+1=f by omega];simp
    ·left
     rw [List.getD_eq_getElem?_getD,List.getElem?_set_ne hi,← List.getD_eq_getElem?_getD] at h2
     exact h2
   ·exact .inr (by simp [h2])
  ·rw [if_neg hz] at h
   rcases Gm4 l m i hl hm h with h2|h2
   ·exact .inl h2
   ·exact .inr (by simp [h2])
theorem Ep2:∀ (l m:List Int) (n:Int),Bd6 l→Aj7 n m→Aj7 (n+l.length) (Bc5 l m)
 | [],m,n,_,h=>by simpa [Bc5] using h
 | f::l,m,n,hf,h=>by
  have hr:=hf f (by simp)
  have hl:Bd6 l:=fun x hx=>hf x (by simp [hx])
  rw [show Bc5 (f::l) m=Bc5 l (if f>0 then m.set (f-1).toNat (m.getD (f-1).toNat 0+1) else m) from rfl]
  have e:n+((f::l).length:Int)=(n+1)+l.length:=by simp;omega
  rw [e]
  by_cases hz:f>0
  ·rw [if_pos hz];exact Ep2 l _ (n+1) hl (h.set (by omega))
  ·rw [if_neg hz];exact Ep2 l m (n+1) hl h.up
theorem E53 {X:CX} {more:List Int}:∀ (l:List Int),Ak0 X more l=0→∀ f ∈ l,f≠0→(vF X (f-1)).2=1∧(vF X (f-1)).1.refs+more.getD (f-1).toNat 0≤64
 | [],_,f,h,_=>by simp at h
 | g::l,h,f,hm,hf=>by
  rw [show Ak0 X more (g::l)=if g=0 then Ak0 X more l else if (vF X (g-1)).2≠1 then 105 else if (vF X (g-1)).1.refs+more.getD (g-1).toNat 0>64 then 123 else Ak0 X more l from rfl] at h
  by_cases hg:g=0
  ·rw [if_pos hg] at h
   rcases List.mem_cons.1 hm with rfl|h2
   ·exact absurd hg hf
   ·exact E53 l h f h2 hf
  ·rw [if_neg hg] at h
   by_cases h1:(vF X (g-1)).2=1
   ·rw [if_neg (by simpa using h1)] at h
    by_cases h2:(vF X (g-1)).1.refs+more.getD (g-1).toNat 0>64
    ·rw [if_pos h2] at h;cases h
    ·rw [if_neg h2] at h
     rcases List.mem_cons.1 hm with rfl|h3
     ·exact ⟨h1,by omega⟩
     ·exact E53 l h f h3 hf
   ·rw [if_pos h1] at h;cases h
abbrev Ec6:List Int:=[0,0,0,0,0,0,0,0,0,0,0,0]
theorem Iz3:Aj7 0 Ec6:=⟨rfl,fun x hx=>by simp at hx;omega⟩
abbrev An0 (p:ProcS):List Int:=Bc5 p.fds Ec6
theorem Gx2 {p:ProcS} (h:Bd6 p.fds):Aj7 8 (An0 p):=by
 have:=Ep2 p.fds Ec6 0 h Iz3
 rw [p.len] at this
 exact this
theorem Hy8 {X:CX} {p:ProcS} (h:Bd6 p.fds) (e:Ak0 X (An0 p) p.fds=0):Hh4 (An0 p) X 0:=fun i h0 h1 hi=>by
 rcases Gm4 p.fds Ec6 i.toNat h rfl hi with h2|h2
 ·exfalso;apply h2
  have:i.toNat=0∨i.toNat=1∨i.toNat=2∨i.toNat=3∨i.toNat=4∨i.toNat=5∨i.toNat=6∨i.toNat=7∨i.toNat=8∨i.toNat=9∨i.toNat=10∨i.toNat=11:=by omega
  rcases this with h|h|h|h|h|h|h|h|h|h|h|h<;>rw [h]<;>rfl
 ·have:=E53 p.fds e _ h2 (by omega)
  rw [show ((i.toNat:Nat):Int)+1-1=i by omega] at this
  exact this
def Aa0 (X:CX) (p:ProcS):Int × CX:=if Ak0 X (An0 p) p.fds=0 then (0,Br0 (An0 p) 12 0 X) else (Ak0 X (An0 p) p.fds,X)
theorem Ix4 (b k:Nat) (F:Fr) (X:CX) (ok:FrOk F) {nc:Nat} (c:Clean nc X) (p:ProcS) (hf:Bd6 p.fds):Ct A6 H5 [P0 b,.agg ⟨B7 p⟩] [cmC b k F X] fun v own=>v=int (Aa0 X p).1∧own [cmC b k F (Aa0 X p).2]:=by
 refine Ct.of A50 rfl fun h r=>Tr.eq (Hx7 ..) ?_;refine Je ?_
 refine Yn fun b0 h=>?_
 refine Yn fun b1 h=>?_
 (refine Ja ?_;intros)
 have hm:=Gx2 hf
 have L2:=If2 b k F X ok c b1 p.fds (An0 p) p.len hf hm (fun v own=>v=int (Aa0 X p).1∧own [cmC b k F (Aa0 X p).2])
  (fun e he hz h r o=>by
   unfold Aa0
   rw [if_neg (by rw [he];exact hz),he]
   exact ⟨rfl,o⟩)
  (fun he=>by
   have J:=Id6 b k F ok (An0 p) hm 12 0 X c (Hy8 hf he) (by omega) (by omega)
   unfold Aa0
   rw [if_pos he]
   exact J) 8 0 rfl rfl
 refine Dv4 (Id4 b k F X b0 b1 p hf _ (An0 p) L2 8 0 Ec6 rfl (by simpa using Iz3) rfl) [0,0,0] rfl ?_
 intro v h q
 exact q
theorem Ef7 {nc:Nat} {more:List Int} (hm:Aj7 8 more):∀ (m:Nat) (j:Int) (X:CX),Clean nc X→Hh4 more X j→0≤j→j+m=12 →
  Clean nc (Br0 more m j X)∧(∀ i:Int,0≤i∧i<8→vS (Br0 more m j X) i=vS X i) ∧
  (∀ i:Int,0≤i∧i<12→vF (Br0 more m j X) i=if j≤i∧more.getD i.toNat 0≠0 then (Bx1 (vF X i).1 (more.getD i.toNat 0),1) else vF X i)∧(∀ i:Int,0≤i∧i<3+nc→vP (Br0 more m j X) i=vP X i)
 | 0,j,X,c,_,h0,hj=>⟨c,fun _ _=>rfl,fun i hi=>by rw [if_neg (by omega)];rfl,fun _ _=>rfl⟩
 | m+1,j,X,c,s,h0,hj=>by
  rw [show Br0 more (m+1) j X=Br0 more m (j+1) (if more.getD j.toNat 0=0 then X else Bm1 X j (Bx1 (vF X j).1 (more.getD j.toNat 0))) from rfl]
  by_cases hz:more.getD j.toNat 0=0
  ·rw [if_pos hz]
   obtain ⟨a1,a2,a3,a4⟩:=Ef7 hm m (j+1) X c (fun i h1 h2 h3=>s i (by omega) h2 h3) (by omega) (by omega)
   refine ⟨a1,a2,fun i hi=>?_,a4⟩
   rw [a3 i hi]
   by_cases hij:i=j
   ·subst hij
    rw [if_neg (by omega),if_neg (by simp only [hz];simp)]
   ·by_cases h2:j≤i∧more.getD i.toNat 0≠0
    ·rw [if_pos h2,if_pos ⟨by omega,h2.2⟩]
    ·rw [if_neg h2,if_neg (fun h3=>h2 ⟨by omega,h3.2⟩)]
  ·rw [if_neg hz]
   obtain ⟨k1,s2⟩:=s.step c hm (by omega) hz
   obtain ⟨w1,w2,w3,w4,w5⟩:=Ak2 c (i:=j) (by omega) k1
   obtain ⟨a1,a2,a3,a4⟩:=Ef7 hm m (j+1) _ w2 s2 (by omega) (by omega)
   refine ⟨a1,fun i hi=>by rw [a2 i hi,w3 i hi],fun i hi=>?_,fun i hi=>by rw [a4 i hi,w5 i hi]⟩
   rw [a3 i hi,w4 i hi]
   by_cases hij:i=j
   ·subst hij
    rw [if_neg (by omega),if_pos rfl,if_pos ⟨by omega,hz⟩]
   ·rw [if_neg hij]
    by_cases h2:j≤i∧more.getD i.toNat 0≠0
    ·rw [if_pos h2,if_pos ⟨by omega,h2.2⟩]
    ·rw [if_neg h2,if_neg (fun h3=>h2 ⟨by omega,h3.2⟩)]
theorem Ij9 (l:List UInt8) (i:Nat):0≤byI l i∧byI l i<256:=by
 have:=(l.getD i 0).toNat_lt
 unfold byI;omega
theorem Gp2 (l:List UInt8) (j:Nat):0≤two l j∧two l j≤65535:=by
 have:=Ij9 l j;have:=Ij9 l (j+1)
 unfold two;omega
theorem Ar9 (l:List UInt8):InS (O2 l).1:=by
 unfold O2
 split
 ·exact ⟨by simp,by simp,by simp,by simp⟩
 ·split
  ·exact ⟨Gp2 _ _,Gp2 _ _,Gp2 _ _,Gp2 _ _⟩
  ·exact ⟨by simp,by simp,by simp,by simp⟩
theorem B19 {p:ProcS} (h:okS p=true):Bd6 p.fds:=fun f hf=>by
 unfold okS at h
 simp only [Bool.and_eq_true,Bool.not_eq_true',List.any_eq_false] at h
 have:=h.2.2.1 f hf
 simp at this;omega
abbrev P7 (p:ProcS) (i:Int):ProcS:=⟨p.state,i+1,p.group,p.code,0,p.mask,p.ignored,p.caught,p.fds,p.len⟩
theorem E42 {p:ProcS} (h:okS p=true) (h1:p.state=1) {i:Int} (hi:0≤i∧i<8):okS (P7 p i)=true:=by
 unfold okS at h ⊢
 rw [if_neg (by rw [h1];decide)] at h
 rw [if_neg (show ¬ (P7 p i).state=2 by show ¬ p.state=2;rw [h1];decide)]
 simp only [Bool.and_eq_true,Bool.not_eq_true',Bool.or_eq_false_iff,decide_eq_false_iff_not] at h ⊢
 obtain ⟨⟨⟨⟨⟨⟨⟨⟨a1,a2⟩,a3⟩,a4⟩,a5⟩,a6⟩,a7⟩,a8⟩,⟨⟨⟨⟨b1,b2⟩,b3⟩,b4⟩,b5⟩,d1,d2⟩:=h
 exact ⟨⟨⟨⟨⟨⟨⟨⟨a1,a2⟩,by show ¬ i+1<0;omega⟩,by show ¬ i+1>8;omega⟩,a5⟩,a6⟩,a7⟩,a8⟩,⟨⟨⟨⟨by simp [I45],b2⟩,b3⟩,b4⟩,b5⟩,d1,d2⟩
def B93 (X:CX) (i:Int):List Value × CX :=
 if (H7 X i).2≠0 then (M7 0 (H7 X i).2 false,X)
 else if Al2 X 8 0<0 then (M7 0 111 false,X)
 else if (Aa0 X (H7 X i).1).1≠0 then (M7 0 (Aa0 X (H7 X i).1).1 false,X)
 else (M7 (Al2 X 8 0) 0 false,A76 (Aa0 X (H7 X i).1).2 (Al2 X 8 0) (P7 (H7 X i).1 i))
theorem El4 {X:CX}:∀ (m:Nat) (i:Int),0≤i→i+m=8→Al2 X m i=-1∨(0≤Al2 X m i∧Al2 X m i<8∧(vS X (Al2 X m i)).2=0)
 | 0,i,_,_=>.inl rfl
 | m+1,i,h0,hi=>by
  rw [show Al2 X (m+1) i=if (vS X i).2=0 then i else Al2 X m (i+1) from rfl]
  split
  ·rename_i h;exact .inr ⟨h0,by omega,h⟩
  ·exact El4 m (i+1) (by omega) (by omega)
theorem Bm9 {nc:Nat} {X:CX} (c:Clean nc X) {i:Int} (hi:0≤i∧i<8) (h:(H7 X i).2=0):H7 X i=((vS X i).1,0)∧(vS X i).1.state=1∧okS (vS X i).1=true∧(vS X i).2=1:=by
 unfold H7 at h ⊢
 split
 ·rename_i h1
  refine ⟨rfl,h1.2,?_,h1.1⟩
  rcases D93 c hi with ⟨h2,_⟩|⟨_,h2⟩
  ·rw [h1.1] at h2;cases h2
  ·exact h2
 ·rename_i h1;rw [if_neg h1] at h;cases h
theorem Hq6 {X:CX} {p:ProcS} (h:(Aa0 X p).1≠0):(Aa0 X p).2=X:=by
 unfold Aa0 at h ⊢
 split
 ·rename_i h1;rw [if_pos h1] at h;exact absurd rfl h
 ·rfl
theorem Eb8 {nc:Nat} {X:CX} (c:Clean nc X) {p:ProcS} (hf:Bd6 p.fds) (h:(Aa0 X p).1=0):Clean nc (Aa0 X p).2∧(∀ i:Int,0≤i∧i<8→vS (Aa0 X p).2 i=vS X i) ∧
  (∀ i:Int,0≤i∧i<12→vF (Aa0 X p).2 i=if (An0 p).getD i.toNat 0≠0 then (Bx1 (vF X i).1 ((An0 p).getD i.toNat 0),1) else vF X i)∧(∀ i:Int,0≤i∧i<3+nc→vP (Aa0 X p).2 i=vP X i):=by
 unfold Aa0 at h ⊢
 split
 ·rename_i he
  obtain ⟨a1,a2,a3,a4⟩:=Ef7 (Gx2 hf) 12 0 X c (Hy8 hf he) (by omega) (by omega)
  refine ⟨a1,a2,fun i hi=>?_,a4⟩
  rw [a3 i hi]
  by_cases h2:(An0 p).getD i.toNat 0≠0
  ·rw [if_pos h2,if_pos ⟨hi.1,h2⟩]
  ·rw [if_neg h2,if_neg (fun h3=>h2 h3.2)]
 ·rename_i he;rw [if_neg he] at h;exact absurd h he
theorem Il3 (b k:Nat) (F:Fr) (X:CX) (ok:FrOk F) {nc:Nat} (c:Clean nc X) (i:Int) (hi:0≤i∧i<8):Ct A6 Bd5 [P0 b,int i] [cmC b k F X] fun v own=>v=.agg ⟨(B93 X i).1⟩∧own [cmC b k F (B93 X i).2]:=by
 have e1:=wI i
 unfold B93
 refine Ct.of Gy8 rfl fun h r=>Tr.eq (Gx8 ..) ?_;refine Je ?_
 refine Yn fun b0 h=>?_
 refine Yc (Ea4 b k F X ok c i hi) ?_;rintro _ h ⟨rfl,o⟩<;>refine Jh o ?_
 (refine Jc ?_;intros)
 refine Yn fun b1 h=>?_
 (refine Ja ?_;intros)
 by_cases h0:(H7 X i).2=0
 case neg =>
  rw [if_pos h0]
  refine Yt (by simpa using h0) ?_
  refine Yc (Ac2 (H7 X i).2) ?_;rintro _ h ⟨rfl,o⟩<;>(refine Jf o ?_;intros)
  refine Ys fun o=>?_
  exact ⟨rfl,o.sub⟩
 rw [if_neg (by simpa using h0)]
 refine Yf (by simpa using h0) ?_
 obtain ⟨s1,s2,s3,s4⟩:=Bm9 c hi h0
 refine Yc (Jk6 b k F X ok c) ?_;rintro _ h ⟨rfl,o⟩<;>refine Jh o ?_
 (refine Ja ?_;intros)
 by_cases h1:Al2 X 8 0<0
 ·rw [if_pos h1]
  refine Yt (by simpa using h1) ?_
  refine Yc (Ac2 111) ?_;rintro _ h ⟨rfl,o⟩<;>(refine Jf o ?_;intros)
  refine Ys fun o=>?_
  exact ⟨rfl,o.sub⟩
 rw [if_neg h1]
 refine Yf (by simpa using h1) ?_
 have hf:Bd6 (H7 X i).1.fds:=by rw [s1];exact B19 s3
 have hok:okS (P7 (H7 X i).1 i)=true:=by rw [s1];exact E42 s3 s2 hi
 have hin:InS (P7 (H7 X i).1 i):=by
  have:=Ar9 (rd X ⟨1,i⟩)
  rw [s1]
  exact ⟨by simp,this.b,this.c,this.d⟩
 generalize (H7 X i).1=p at hf hok hin
 (refine Ja ?_;intros)
 refine Yc (Ix4 b k F X ok c p hf) ?_;rintro _ h ⟨rfl,o⟩<;>refine Jh o ?_
 (refine Ja ?_;intros)
 by_cases h2:(Aa0 X p).1=0
 case neg =>
  rw [if_pos h2]
  rw [Hq6 h2] at o ⊢
  refine Yt (by simpa using h2) ?_
  refine Yc (Ac2 (Aa0 X p).1) ?_;rintro _ h ⟨rfl,o⟩<;>(refine Jf o ?_;intros)
  refine Ys fun o=>?_
  exact ⟨rfl,o.sub⟩
 rw [if_neg (by simpa using h2)]
 refine Yf (by simpa using h2) ?_
 have cs:=(Eb8 c hf h2).1
 have hfr:0≤Al2 X 8 0∧Al2 X 8 0<8:=by
  rcases El4 (X:=X) 8 0 (by omega) (by omega) with h|h<;>omega
 obtain ⟨w1,_⟩:=V9 cs hfr hok hin
 (refine Ja ?_;intros)
 rw [e1,show ((B7 p).set 1 (int (i+1))).set 4 (int 0)=B7 (P7 p i) from rfl]
 generalize P7 p i=q at hok hin w1
 (refine Ja ?_;intros)
 refine Yc (Bs4 b k F (Aa0 X p).2 ok (Al2 X 8 0) q) ?_;rintro _ h ⟨rfl,o⟩<;>refine Jh o ?_
 rw [w1]
 dsimp only
 (refine Ja ?_;intros)
 refine Yc (B11 true (Al2 X 8 0)) ?_;rintro _ h ⟨rfl,o⟩<;>refine Jh o ?_
 rw [if_pos trivial]
 (refine Ja ?_;intros)
 refine Ys fun o=>?_
 exact ⟨rfl,o.sub⟩
abbrev A63 (s:Int × ProcS):List Value:=int s.1::B7 s.2
def I9 (X:CX) (q:Int→ProcS→Bool):Nat→Int→List (Int × ProcS)
 | 0,_=>[]
 | m+1,i=>if (vS X i).2=1∧q i (vS X i).1=true then (i,(vS X i).1)::I9 X q m (i+1) else I9 X q m (i+1)
theorem D75 (X:CX) (q:Int→ProcS→Bool):∀ (m:Nat) (i:Int),(I9 X q m i).length≤m
 | 0,i=>by simp [I9]
 | m+1,i=>by
  have:=D75 X q m (i+1)
  unfold I9;split<;>simp<;>omega
theorem Ad2 (j:Int) (p:ProcS):(int j::B7 p).length=17:=by simp [Aj4 p,p.len]
instance {j:Int} {p:ProcS}:LenC (int j::B7 p) 17:=⟨Ad2 j p⟩
instance {j:Int} {p:ProcS}:PartC (int j::B7 p) 0 17 (int j::B7 p):=⟨Bl3 (Ad2 j p)⟩
instance {j:Int} {p:ProcS} {cs:List Value} [k:LenC cs 17]:SetsC cs 0 (int j::B7 p) (int j::B7 p):=⟨Df8 k.ok (Ad2 j p) (by simp [Value.oneCell])⟩
theorem Ig0 (b k:Nat) (F:Fr) (X:CX) (ok:FrOk F) {nc:Nat} (c:Clean nc X) (pr:HP) (g:FuncId) (cp:List Value) (q:Int→ProcS→Bool)
  (hq:∀ (j:Int) (p:ProcS),Ct A6 g (.agg ⟨int j::B7 p⟩::cp) [pr] fun v own=>v=.bool (q j p)∧own [pr]):∀ (m:Nat) (i:Int) (acc:List (Int × ProcS)) (a:Option Addr) (ac:Nat),0≤i→i+m=8→acc.length≤i →
  CtJ D6 Z6 Bd0 [(0,P0 b),(1,.func (.func g) ⟨[]⟩ ⟨cp⟩),(5,.slice a acc.length ac),(10,int i)] [slC false G9 17 a acc.length ac (acc.flatMap A63),cmC b k F X,pr] fun v own =>
   ∃ a' c',v=.slice a' (acc++I9 X q m i).length c'∧own [slC false G9 17 a' (acc++I9 X q m i).length c' ((acc++I9 X q m i).flatMap A63),cmC b k F X,pr]:=by
 intro m
 induction m with
 | zero =>
  intro i acc a ac h0 hi ha
  refine CtJ.of Eg9 fun h r=>Tr.eq (El3 ..) ?_;refine Je ?_
  refine Yf (by simp;omega) ?_
  refine Ys fun o=>?_
  rw [show I9 X q 0 i=[] from rfl,List.append_nil]
  exact ⟨a,ac,rfl,o.sub⟩
 | succ m ih =>
  intro i acc a ac h0 hi ha
  have e1:=wI i
  refine CtJ.of Eg9 fun h r=>Tr.eq (El3 ..) ?_;refine Je ?_
  refine Yt (by simp;omega) ?_
  rw [e1]
  refine Yc (Bd1 b k F X ok i) ?_;rintro _ h ⟨rfl,o⟩<;>refine Jh o ?_
  rw [At9 c (by omega)]
  dsimp only
  generalize hp:(vS X i).1=p
  simp only [List.append_nil,List.nil_append]
  (refine Jc ?_;intros)
  refine Yn fun b1 h=>?_
  (refine Jc ?_;intros)
  refine Yn fun b2 h=>?_
  (refine Jb ?_;intros)
  rw [show I9 X q (m+1) i=if (vS X i).2=1∧q i (vS X i).1=true then (i,(vS X i).1)::I9 X q m (i+1) else I9 X q m (i+1) from rfl,hp]
  by_cases h1:(vS X i).2=1
  ·refine Yb (Yt (by simpa using h1) ?_)
   (refine Jb ?_;intros)
   simp only [List.nil_append]
   refine Yc (hq i p) ?_;rintro _ h ⟨rfl,o⟩<;>refine Jh o ?_
   (refine Jb ?_;intros)
   refine Ys fun o=>(?_:Tr _ _ _ _) o;refine Je ?_
   by_cases h2:q i p=true
   ·rw [if_pos ⟨h1,h2⟩]
    refine Yt h2 ?_
    (refine Jc ?_;intros)
    refine Yn fun b3 h=>?_
    (refine Ja ?_;intros)
    refine Tr.xCellsB (xs:=int i::B7 p) (Dv0 (Bl3 (Ad2 i p))) ?_
    (refine Ja ?_;intros)
    refine Tr.xApd ⟨Ad2 i p,by simp [Value.oneCell],by simp only [A9];omega⟩ fun a' c' h=>?_
    rw [show acc.flatMap A63++(int i::B7 p)=(acc++[(i,p)]).flatMap A63 by simp,show acc.length+1=(acc++[(i,p)]).length by simp]
    refine B9 [5,4,1] 3 rfl rfl ?_
    refine Yr (ih (i+1) (acc++[(i,p)]) a' c' (by omega) (by omega) (by simp;omega)) ?_
    intro v h q
    rw [List.append_assoc] at q
    exact q
   ·rw [if_neg (fun h3=>h2 h3.2)]
    refine Yf (by simpa using h2) ?_
    refine B9 [4,3,0] 2 rfl rfl ?_
    refine Yr (ih (i+1) acc a ac (by omega) (by omega) (by omega)) ?_
    intro v h q
    exact q
  ·rw [if_neg (fun h3=>h1 h3.1)]
   refine Yb (Yf (by simpa using h1) ?_)
   refine Ys fun o=>(?_:Tr _ _ _ _) o;refine Je ?_
   refine Yf rfl ?_
   refine B9 [3,2,2] 2 rfl rfl ?_
   refine Yr (ih (i+1) acc a ac (by omega) (by omega) (by omega)) ?_
   intro v h q
   exact q
theorem E50 (b k:Nat) (F:Fr) (X:CX) (ok:FrOk F) {nc:Nat} (c:Clean nc X) (pr:HP) (g:FuncId) (cp:List Value) (q:Int→ProcS→Bool)
  (hq:∀ (j:Int) (p:ProcS),Ct A6 g (.agg ⟨int j::B7 p⟩::cp) [pr] fun v own=>v=.bool (q j p)∧own [pr]) :
  Ct A6 Z6 [P0 b,.func (.func g) ⟨[]⟩ ⟨cp⟩] [cmC b k F X,pr] fun v own=>∃ a' c',v=.slice a' (I9 X q 8 0).length c'∧own [slC false G9 17 a' (I9 X q 8 0).length c' ((I9 X q 8 0).flatMap A63),cmC b k F X,pr]:=by
 refine Ct.of Eg9 rfl fun h r=>Tr.eq (Ia9 ..) ?_;refine Je ?_
 refine E6 false G9 17 (by omega) ?_
 have J:=Ig0 b k F X ok c pr g cp q hq 8 0 [] none 0 (by omega) (by omega) (by simp)
 simp only [List.nil_append,List.length_nil,List.flatMap_nil] at J
 refine Yr J ?_
 intro v h q
 exact q
theorem Jd3 (bi:Nat) (i:Int) (hi:0≤i∧i<8) (j:Int) (p:ProcS):Ct A6 Br2 [.agg ⟨int j::B7 p⟩,P0 bi] [pt bi (.cells A8 false [int i])] fun v own=>v=.bool (p.parent==i+1)∧own [pt bi (.cells A8 false [int i])]:=by
 have e1:=wI i
 refine Ct.of Ht9 rfl fun h r=>Tr.eq (Hs5 ..) ?_;refine Je ?_
 (refine Ja ?_;intros)
 refine Ys fun o=>?_
 rw [e1]
 exact ⟨rfl,o.sub⟩
theorem Ez2 (j:Int) (p:ProcS):Ct A6 Ag3 [.agg ⟨int j::B7 p⟩] [] fun v own=>v=.bool (p.state != 2)∧own []:=by
 refine Ct.of Gr9 rfl fun h r=>Tr.eq (Gs3 ..) ?_;refine Je ?_
 (refine Ja ?_;intros)
 refine Ys fun o=>?_
 exact ⟨rfl,o.sub⟩
def D92 (X:CX) (n:Nat):List (Int × ProcS)→List Value × CX
 | []=>(if n=0 then M7 0 110 false else M7 0 0 true,X)
 | s::l=>if s.2.state=2 then (M7 (256*s.1+s.2.code) 0 false,D29 X s.1) else D92 X n l
def Ey7 (X:CX) (i:Int):List Value × CX :=
 if (H7 X i).2≠0 then (M7 0 (H7 X i).2 false,X)
 else D92 X (I9 X (fun _ p=>p.parent==i+1) 8 0).length (I9 X (fun _ p=>p.parent==i+1) 8 0)
theorem D86 {nc:Nat} {X:CX} (c:Clean nc X) (q:Int→ProcS→Bool):∀ (m:Nat) (i:Int),0≤i→i+m=8→∀ s ∈ I9 X q m i,0≤s.1∧s.1<8∧okS s.2=true
 | 0,i,_,_,s,hs=>by simp [I9] at hs
 | m+1,i,h0,hi,s,hs=>by
  rw [show I9 X q (m+1) i=if (vS X i).2=1∧q i (vS X i).1=true then (i,(vS X i).1)::I9 X q m (i+1) else I9 X q m (i+1) from rfl] at hs
  split at hs
  ·rename_i h1
   rcases List.mem_cons.1 hs with rfl|h2
   ·refine ⟨h0,by simp only;omega,?_⟩
    rcases D93 c (i:=i) (by omega) with ⟨h3,_⟩|⟨_,h3⟩
    ·rw [h1.1] at h3;cases h3
    ·exact h3
   ·exact D86 c q m (i+1) (by omega) (by omega) s h2
  ·exact D86 c q m (i+1) (by omega) (by omega) s hs
theorem Jc8 {p:ProcS} (h:okS p=true):0≤p.code∧p.code≤255:=by
 unfold okS at h
 simp only [Bool.and_eq_true,Bool.not_eq_true',Bool.or_eq_false_iff,decide_eq_false_iff_not] at h
 have:=h.1
 omega
abbrev Iv6:List Value:=[int 0,int 0,.slice none 0 0,.bool false]
theorem Iw0 (b k:Nat) (F:Fr) (X:CX) (ok:FrOk F) {nc:Nat} (c:Clean nc X) (b4:Nat) (L:List (Int × ProcS)) (hL:∀ s ∈ L,0≤s.1∧s.1<8∧okS s.2=true) (h8:L.length≤8) (a:Option Addr) (ac:Nat):∀ (m i:Nat),i+m=L.length →
  CtJ D6 Ae1 B25 [(0,P0 b),(4,P0 b4),(7,.slice a L.length ac),(23,.slice a L.length ac),(24,int L.length),(25,int i)] [slC false G9 17 a L.length ac (L.flatMap A63),pt b4 (.cells Ag9 false Iv6),cmC b k F X] fun v own =>
   v=.agg ⟨(D92 X L.length (L.drop i)).1⟩∧own [cmC b k F (D92 X L.length (L.drop i)).2]:=by
 intro m
 induction m with
 | zero =>
  intro i hi
  rw [show L.drop i=[] from List.drop_eq_nil_of_le (by omega),show D92 X L.length []=(if L.length=0 then M7 0 110 false else M7 0 0 true,X) from rfl]
  refine CtJ.of Dw8 fun h r=>Tr.eq (Ex2 ..) ?_;refine Je ?_
  refine Yf (by simp;omega) ?_
  by_cases hz:L.length=0
  ·rw [if_pos hz]
   refine Yt (by simp [hz]) ?_
   refine Yc (Ac2 110) ?_;rintro _ h ⟨rfl,o⟩<;>(refine Jf o ?_;intros)
   refine Ys fun o=>?_
   exact ⟨rfl,o.sub⟩
  ·rw [if_neg hz]
   refine Yf (by simpa using hz) ?_
   (refine Ja ?_;intros)
   refine Ys fun o=>?_
   exact ⟨rfl,o.sub⟩
 | succ m ih =>
  intro i hi
  have hil:i<L.length:=by omega
  have e1:=wN i
  have hg:L[i]?=some L[i]:=List.getElem?_eq_getElem hil
  have hd:L.drop i=L[i]::L.drop (i+1):=List.drop_eq_getElem_cons hil
  obtain ⟨r1,r2,r3⟩:=hL _ (List.getElem_mem hil)
  rw [hd]
  generalize L[i]=s at hg r1 r2 r3
  obtain ⟨j,p⟩:=s
  simp only at r1 r2 r3
  rw [show D92 X L.length ((j,p)::L.drop (i+1))=if p.state=2 then (M7 (256*j+p.code) 0 false,D29 X j) else D92 X L.length (L.drop (i+1)) from rfl]
  have hpart:=Af8 (f:=A63) (k:=17) (fun x=>Ad2 x.1 x.2) hg
  have hlen:=N1 (f:=A63) (k:=17) (fun x=>Ad2 x.1 x.2) L
  have hc:=Jc8 r3
  have e2:IntKind.wrap .i64 (256*j)=256*j:=by rw [B4];omega
  have e3:IntKind.wrap .i64 (256*j+p.code)=256*j+p.code:=by rw [B4];omega
  refine CtJ.of Dw8 fun h r=>Tr.eq (Ex2 ..) ?_;refine Je ?_
  refine Yt (by simp;omega) ?_
  rw [e1]
  refine S5 0 rfl fun h1 h2 h3=>?_
  (refine Jc ?_;intros;repeat(refine Gw ?_;rintro px rfl;refine Jc ?_;intros))
  rw [Int.toNat_natCast]
  refine Tr.xAggS (xs:=A63 (j,p)) ⟨by omega,by omega,hpart⟩ ?_
  refine Yn fun b2 h=>?_
  (refine Ja ?_;intros)
  refine Yc (Ez2 j p) ?_;rintro _ h ⟨rfl,o⟩<;>refine Jh o ?_
  (refine Ja ?_;intros)
  by_cases hz:p.state=2
  ·rw [if_pos hz]
   refine Yt (by simp [hz]) ?_
   (refine Ja ?_;intros)
   refine Yc (Dm5 b k F X ok j) ?_;rintro _ h ⟨rfl,o⟩<;>refine Jh o ?_
   rw [(Bi3 c ⟨r1,r2⟩).1]
   dsimp only
   (refine Ja ?_;intros)
   rw [e2,e3]
   refine Yc (B11 true (256*j+p.code)) ?_;rintro _ h ⟨rfl,o⟩<;>refine Jh o ?_
   rw [if_pos trivial]
   (refine Ja ?_;intros)
   refine Ys fun o=>?_
   exact ⟨rfl,o.sub⟩
  ·rw [if_neg hz]
   refine Yf (by simp [hz]) ?_
   refine B9 [1,1,1] 1 rfl rfl ?_
   refine Yr (ih (i+1) (by omega)) ?_
   intro v h q
   exact q
theorem Hi8 (b k:Nat) (F:Fr) (X:CX) (ok:FrOk F) {nc:Nat} (c:Clean nc X) (i:Int) (hi:0≤i∧i<8):Ct A6 Ae1 [P0 b,int i] [cmC b k F X] fun v own=>v=.agg ⟨(Ey7 X i).1⟩∧own [cmC b k F (Ey7 X i).2]:=by
 unfold Ey7
 refine Ct.of Dw8 rfl fun h r=>Tr.eq (Gy5 ..) ?_;refine Je ?_
 refine Yn fun bi h=>?_
 refine Yn fun b4 h=>?_
 (refine Ja ?_;intros)
 refine Yc (Ea4 b k F X ok c i hi) ?_;rintro _ h ⟨rfl,o⟩<;>refine Jh o ?_
 (refine Jc ?_;intros)
 refine Yn fun b2 h=>?_
 (refine Ja ?_;intros)
 by_cases h0:(H7 X i).2=0
 case neg =>
  rw [if_pos h0]
  refine Yt (by simpa using h0) ?_
  refine Yc (Ac2 (H7 X i).2) ?_;rintro _ h ⟨rfl,o⟩<;>(refine Jf o ?_;intros)
  refine Ys fun o=>?_
  exact ⟨rfl,o.sub⟩
 rw [if_neg (by simpa using h0)]
 refine Yf (by simpa using h0) ?_
 refine Yc (E50 b k F X ok c (pt bi (.cells A8 false [int i])) Br2 [P0 bi] (fun _ p=>p.parent==i+1) (fun j p=>Jd3 bi i hi j p)) ?_;rintro _ h ⟨a,ac,rfl,o⟩<;>refine Jh o ?_
 (refine Ja ?_;intros)
 refine B9 [0,3,0] 2 rfl rfl ?_
 refine Yr (Iw0 b k F X ok c b4 _ (D86 c _ 8 0 (by omega) (by omega)) (D75 X _ 8 0) a ac _ 0 (Nat.zero_add _)) ?_
 intro v h q
 exact q
def p0:ProcS:=⟨1,0,0,0,0,0,0,0,[1,0,0,0,0,0,0,0],rfl⟩
def f0:FileS:=⟨3,0,1,0⟩
def A97:List UInt8:=O9 (O9 Ak1 0 (Gk0 p0)) 192 (As9 f0)
theorem Dm6:A97.length=492:=by kernel_rfl
theorem Gm3:(Gk0 p0).length=24:=by kernel_rfl
theorem Hm8 (l b:List UInt8) (a:Nat):(A0 l).take a++A0 b++(A0 l).drop (a+(A0 b).length)=A0 (O9 l a b):=by
 rw [Ab7]
 simp [O9,A0,List.map_take,List.map_drop]
theorem Jh3 {b:List UInt8} (h:0<b.length):A0 b≠[]:=by
 intro e
 have e2:=congrArg List.length e
 rw [Ab7] at e2
 have e3:b.length=0:=e2
 omega
theorem H79:Ct A6 Bp9 [] [] fun v own=>∃ a,v=.slice a 492 492∧own [slC false A3 1 a 492 492 (A0 A97)]:=by
 refine Ct.of Ht3 rfl fun h r=>Tr.eq (Hu2 ..) ?_;refine Je ?_
 refine Yc (Hq8) ?_;rintro _ h ⟨rfl,o⟩<;>refine Jh o ?_
 (refine Jc ?_;intros)
 rw [Bh4,Aj0]
 refine Tr.ck (by simp [A9]) ?_
 refine Yn fun b0 h=>?_
 refine Eb3 (n:=492) 0 rfl (by rw [Ab7];exact Aj0) ?_
 refine Je ?_
 refine Yn fun b1 h=>?_
 (refine Ja ?_;intros)
 rw [show ([int 1,int 0,int 0,int 0,int 0,int 0,int 0,int 0,int 0,int 0,int 0,int 0,int 0,int 0,int 0,int 0]:List Value).set 8 (int 1)=B7 p0 from rfl]
 (refine Ja ?_;intros)
 refine Yc (I18 p0) ?_;rintro _ h ⟨rfl,o⟩<;>refine Jh o ?_
 (refine Ja ?_;intros)
 rw [show List.take (min (bs (Gk0 p0)).size 492) (bs (Gk0 p0)).data.toList=Gk0 p0 by kernel_rfl]
 rw [show B3 (O7 b0)=(B3 (O7 b0)).add 0 from rfl]
 refine Tr.xPAggS (cs':=A0 (O9 Ak1 0 (Gk0 p0))) ⟨Jh3 (by rw [Gm3];omega),by rw [Ab7,Ab7,Gm3,Aj0];omega,Ap5 _,Hm8 _ _ 0⟩ fun h=>?_
 (refine Ja ?_;intros)
 refine Yc (I21 f0) ?_;rintro _ h ⟨rfl,o⟩<;>refine Jh o ?_
 (refine Ja ?_;intros)
 rw [show List.take (min (bs (As9 f0)).size (492-192)) (bs (As9 f0)).data.toList=As9 f0 by kernel_rfl]
 rw [Hf6 (by omega),Gi5]
 refine Tr.xPAggS (cs':=A0 A97) ⟨Jh3 (by rw [Ee5];omega),by rw [Ab7,Ab7,Ao9 (by rw [Gm3,Aj0];omega),Ee5,Aj0];omega,Ap5 _,Hm8 _ _ 192⟩ fun h=>?_
 refine Ys fun o=>?_
 exact ⟨_,rfl,o.sub⟩
theorem Ir9 {S:KS} (kS:Like S) {s:Nat} {env:Int} (e:EnvP s env) {j:Nat} {cap:Int} {lo n:Nat} (hc:Jh5[j]?=some cap) (hr:(rgP s)[j]?=some (lo,n)) {b:List UInt8} (hb:b.length≤n) :
  Ag1 S env ⟨2,cap,0,0,0,0,b⟩=((0,0,[]),B79 S (O9 S.mem lo b)):=by
 have F:=He9 kS e
 have hroom:lo+n≤S.mem.length:=E23 kS e.hs env j lo n hr
 have hp:=F.pl j cap lo n hc hr 0 b.length 2 (.inr rfl) (by omega)
 have hs:Br4 S.mem ((lo+0:Nat):Int) b=some (O9 S.mem lo b):=by
  unfold Br4
  rw [if_pos (by omega),Int.toNat_natCast,Nat.add_zero];rfl
 have ew:Au9 S.tabs S.regs S.mem env cap 0 b=(0,O9 S.mem lo b):=by
  unfold Au9
  rw [show W1 S.tabs S.regs env cap 2 0 (b.length:Int)=(((lo+0:Nat):Int),0) from hp]
  rw [if_neg (by simp),hs]
 unfold Ag1
 rw [if_neg (show ¬ (env<0∨env≥(S.envs.length:Int)) from F.env)]
 unfold kDo
 rw [if_neg (show ¬ ((2:Int)=1) by decide),if_pos rfl,ew]
def q1:PipeS:=⟨0,0,1,1,List.replicate 32 0,rfl⟩
def S1:KS:=B79 S0 (O9 S0.mem 0 A97)
def S2:KS:=B79 S1 (O9 S1.mem 512 (O0 q1))
def S3:KS:=B79 S2 (O9 S2.mem 1856 (O0 q1))
theorem Ba1:(O0 q1).length=40:=De6 q1.len
theorem Hb7:Like S1:=Ez8 En2 (by rw [Ao9 (by rw [Dm6,En2.mem];omega)];exact En2.mem)
theorem Ha7:Like S2:=Ez8 Hb7 (by rw [Ao9 (by rw [Ba1,Hb7.mem];omega)];exact Hb7.mem)
theorem G89:Like S3:=Ez8 Ha7 (by rw [Ao9 (by rw [Ba1,Ha7.mem];omega)];exact Ha7.mem)
theorem Jv8:Ag1 S0 0 ⟨2,256,0,0,0,0,A97⟩=((0,0,[]),S1):=Ir9 En2 Hh5 (j:=0) rfl rfl (by rw [Dm6];omega)
theorem Jt9:Ag1 S1 0 ⟨2,257,0,0,0,0,O0 q1⟩=((0,0,[]),S2):=Ir9 Hb7 Hh5 (j:=1) rfl rfl (by rw [Ba1];omega)
theorem Jv7:Ag1 S2 0 ⟨2,258,0,0,0,0,O0 q1⟩=((0,0,[]),S3):=Ir9 Ha7 Hh5 (j:=2) rfl rfl (by rw [Ba1];omega)
abbrev F1:Fr:=frP S3 0 0
def X1:CX:=⟨Di1 S3.mem (rgP 0),[]⟩
theorem Bf5:FrOk F1:=He9 G89 Hh5
theorem E72:Clean 3 X1:=by
 refine ⟨by kernel_rfl,by omega,rfl,by kernel_rfl,fun j h0 h1=>?_,fun r h1 h2 h3 h4=>?_⟩
 ·have:j=1∨j=2:=by omega
  rcases this with rfl|rfl
  ·clear h0 h1;show (_:Nat)=_;kernel_rfl
  ·clear h0 h1;show (_:Nat)=_;kernel_rfl
 ·have all:((List.range 8).all (fun i=>decide (stR 1 (rd X1 ⟨1,(i:Int)⟩)≠2)) && ((List.range 12).all (fun i=>decide (stR 2 (rd X1 ⟨2,(i:Int)⟩)≠2)) && ((List.range 6).all (fun i=>decide (stR 3 (rd X1 ⟨3,(i:Int)⟩)≠2)) && (decide (stR 4 (rd X1 ⟨4,0⟩)≠2) && decide (stR 5 (rd X1 ⟨5,0⟩)≠2)))))=true:=by kernel_rfl
  simp only [Bool.and_eq_true,List.all_eq_true,List.mem_range,decide_eq_true_eq] at all
  obtain ⟨a1,a2,a3,a4,a5⟩:=all
  obtain ⟨k,i⟩:=r
  simp only at h1 h2 h3 h4 ⊢
  obtain ⟨n,rfl⟩:∃ n:Nat,i=n:=⟨i.toNat,by omega⟩
  have hk:k=1∨k=2∨k=3∨k=4∨k=5:=by omega
  rcases hk with rfl|rfl|rfl|rfl|rfl<;>simp [J8] at h4
  ·exact a1 n (by omega)
  ·exact a2 n (by omega)
  ·exact a3 n (by omega)
  ·obtain rfl:n=0:=by omega
   exact a4
  ·obtain rfl:n=0:=by omega
   exact a5
theorem Iu0 (k w m c:Nat) (b1:Nat) (cs:List Value) (hcs:cs.length=7) (K:RKS) (hK:RKOk K) (hB:0<K.B.envs.length) :
  CtJ D6 Ao2 Bu8 [(6,P0 k),(7,P0 c),(8,P0 w),(9,P0 m),(10,P0 b1),(11,.string (bs (O0 q1))),(12,int 1)] [pt b1 (.cells Ba6 false cs),E8 k S1,rkC w K] fun v own =>
   v=.tuple ⟨[P0 k,P0 c,P0 w,P0 m]⟩∧∃ K',own [E8 k S3,rkC w K']:=by
 have hset:∀ xs:List Value,xs.length=7→∀ vs:List Value,vs.length=7→vs.all Value.oneCell=true→Dn0 xs 0 vs=some vs:=fun xs h vs h1 h2=>Df8 h h1 h2
 refine CtJ.of Dk2 fun h r=>Tr.eq (Do1 ..) ?_;refine Je ?_
 refine Yt rfl ?_
 rw [Bh4,Ba1]
 refine Tr.ck (by simp [A9]) ?_
 refine Yn fun b2 h=>?_
 refine Eb3 (n:=40) 0 rfl (by rw [Ab7];exact Ba1) ?_
 refine Je ?_
 rw [show IntKind.wrap .i64 (256+1)=257 by decide]
 refine Gs (fun h=>?_) (by exact hset cs hcs _ rfl rfl)
 (refine Ja ?_;intros)
 have J1:=Eu9 k S1 0 Hb7.ok (by omega) 0 ⟨2,257,0,0,0,0,O0 q1⟩ (some (O7 b2)) 40 false (show ((2:Int)≠5) by decide)
 rw [Jt9] at J1
 simp only [B32,Ba1] at J1
 refine Dc7 J1 [2,0] rfl ?_
 rintro _ h ⟨y,z,rfl,o⟩
 refine (?_:Tr _ _ _ _) o
 refine Je ?_
 (refine Ja ?_;intros)
 have R1:=Gp3 w K hK 0 hB ⟨2,257,0,0,0,0,O0 q1⟩ rfl (by rw [Ba1];simp [A9]) (slC false A3 1 (some (O7 b2)) (O0 q1).length 40 (A0 (O0 q1))) (some (O7 b2)) 40 false
 simp only [B32,Ba1] at R1
 refine Dc7 R1 [4,2] rfl ?_
 rintro _ h ⟨rfl,o⟩
 rw [show ({ K with R:=(Ar1 K.R ((0:Nat):Int) 257 0 (O0 q1)).2 }:RKS)=wrR K 257 (O0 q1) from rfl] at o
 have hK1:=G84 hK 257 (O0 q1)
 refine (?_:Tr _ _ _ _) o
 refine Je ?_
 (refine Ja ?_;intros)
 refine Tr.jmp Dk2 (Tr.eq (Do1 ..) ?_);(try simp only[Nr,Nl,wl,Nat.reduceAdd,Nat.reduceMul,Int.reduceToNat])
 refine Yt rfl ?_
 rw [Bh4,Ba1]
 refine Tr.ck (by simp [A9]) ?_
 refine Yn fun b3 h=>?_
 refine Eb3 (n:=40) 0 rfl (by rw [Ab7];exact Ba1) ?_
 refine Je ?_
 rw [show IntKind.wrap .i64 (256+2)=258 by decide]
 refine Gs (fun h=>?_) (by exact hset _ rfl _ rfl rfl)
 (refine Ja ?_;intros)
 have J2:=Eu9 k S2 0 Ha7.ok (by omega) 0 ⟨2,258,0,0,0,0,O0 q1⟩ (some (O7 b3)) 40 false (show ((2:Int)≠5) by decide)
 rw [Jv7] at J2
 simp only [B32,Ba1] at J2
 refine Dc7 J2 [4,0] rfl ?_
 rintro _ h ⟨y2,z2,rfl,o⟩
 refine (?_:Tr _ _ _ _) o
 refine Je ?_
 (refine Ja ?_;intros)
 have R2:=Gp3 w (wrR K 257 (O0 q1)) hK1 0 hB ⟨2,258,0,0,0,0,O0 q1⟩ rfl (by rw [Ba1];simp [A9]) (slC false A3 1 (some (O7 b3)) (O0 q1).length 40 (A0 (O0 q1))) (some (O7 b3)) 40 false
 simp only [B32,Ba1] at R2
 refine Dc7 R2 [3,2] rfl ?_
 rintro _ h ⟨rfl,o⟩
 rw [show ({ wrR K 257 (O0 q1) with R:=(Ar1 (wrR K 257 (O0 q1)).R ((0:Nat):Int) 258 0 (O0 q1)).2 }:RKS)=wrR (wrR K 257 (O0 q1)) 258 (O0 q1) from rfl] at o
 refine (?_:Tr _ _ _ _) o
 refine Je ?_
 (refine Ja ?_;intros)
 refine Tr.jmp Dk2 (Tr.eq (Do1 ..) ?_);(try simp only[Nr,Nl,wl,Nat.reduceAdd,Nat.reduceMul,Int.reduceToNat])
 refine Yf rfl ?_
 refine Ys fun o=>?_
 exact ⟨rfl,_,o.fin [3,0] 5 rfl rfl⟩
theorem Jg7:RKOk K0:=G84 Eu2.1 256 Ak1
theorem Ik2:0<K0.B.envs.length:=by show (0:Nat)<(D12 Aq7).B.envs.length;rw [Eu2.2,Dd8];simp
theorem Ik5 (a:Option Addr):Ct A6 Ao2 [.slice a 492 492] [slC false A3 1 a 492 492 (A0 A97)] fun v own=>∃ k c w m K',v=.tuple ⟨[P0 k,P0 c,P0 w,P0 m]⟩∧own [cmC c k F1 X1,rkC w K',rcC m w 0 (Dm0 K0 0) []]:=by
 refine Ct.of Dk2 rfl fun h r=>Tr.eq (H27 ..) ?_;refine Je ?_
 refine Yc (I83) ?_;rintro _ h ⟨A,rfl,o⟩<;>refine Jh o ?_
 (refine Ja ?_;intros)
 refine Yc (I75 A) ?_
 rintro _ h ⟨k,c,w,m,rfl,o⟩
 refine (?_:Tr _ _ _ _) o
 refine Je ?_
 (refine Jb ?_;intros)
 refine Yb (Yf rfl ?_)
 refine Ys fun o=>(?_:Tr _ _ _ _) o;refine Je ?_
 refine Yf rfl ?_
 refine Jq9 c k F0 X0 fun f=>?_
 rw [show F0.at X0.m=S0 from Fr.at_cut Jh0 (E23 En2 (by omega) 0)]
 refine (?_:Tr (E8 k S0::Q7 c k 0 Jh5 []::_) _ _ _)
 refine Yn fun b1 h=>?_
 (refine Ja ?_;intros)
 refine Yc (Hr0 q1) ?_;rintro _ h ⟨rfl,o⟩<;>refine Jh o ?_
 (refine Ja ?_;intros)
 have J1:=Eu9 k S0 0 En2.ok (by omega) 0 ⟨2,256,0,0,0,0,A97⟩ a 492 false (show ((2:Int)≠5) by decide)
 rw [Jv8] at J1
 simp only [B32,Dm6] at J1
 refine Dc7 J1 [1,4] rfl ?_
 rintro _ h ⟨y,z,rfl,o⟩
 refine (?_:Tr _ _ _ _) o
 refine Je ?_
 (refine Ja ?_;intros)
 have R1:=Gp3 w K0 Jg7 0 Ik2 ⟨2,256,0,0,0,0,A97⟩ rfl (by rw [Dm6];simp [A9]) (slC false A3 1 a A97.length 492 (A0 A97)) a 492 false
 simp only [B32,Dm6] at R1
 refine Dc7 R1 [5,2] rfl ?_
 rintro _ h ⟨rfl,o⟩
 rw [show ({ K0 with R:=(Ar1 K0.R ((0:Nat):Int) 256 0 A97).2 }:RKS)=wrR K0 256 A97 from rfl] at o
 refine (?_:Tr _ _ _ _) o
 refine Je ?_
 (refine Ja ?_;intros)
 refine Dv4 (Iu0 k w m c b1 _ rfl (wrR K0 256 A97) (G84 Jg7 256 A97) Ik2) [4,3,0] rfl ?_
 rintro _ h ⟨rfl,K',o⟩
 refine ⟨k,c,w,m,K',rfl,?_⟩
 exact Own.cmTake c k F1 [] Bf5 (E23 G89 (by omega) 0) (o.fin [0,3,0,2] 2 rfl rfl)
theorem Ip8 {nc:Nat} {X:CX} (c:Clean nc X) {i:Int} (hi:0≤i∧i<8):Clean nc (B93 X i).2:=by
 unfold B93
 by_cases h0:(H7 X i).2=0
 case neg=>rw [if_pos h0];exact c
 rw [if_neg (by simpa using h0)]
 by_cases h1:Al2 X 8 0<0
 ·rw [if_pos h1];exact c
 rw [if_neg h1]
 by_cases h2:(Aa0 X (H7 X i).1).1=0
 case neg=>rw [if_pos h2];exact c
 rw [if_neg (by simpa using h2)]
 obtain ⟨s1,s2,s3,s4⟩:=Bm9 c hi h0
 have hf:Bd6 (H7 X i).1.fds:=by rw [s1];exact B19 s3
 have hok:okS (P7 (H7 X i).1 i)=true:=by rw [s1];exact E42 s3 s2 hi
 have hin:InS (P7 (H7 X i).1 i):=by
  have:=Ar9 (rd X ⟨1,i⟩)
  rw [s1]
  exact ⟨by simp,this.b,this.c,this.d⟩
 have hfr:0≤Al2 X 8 0∧Al2 X 8 0<8:=by
  rcases El4 (X:=X) 8 0 (by omega) (by omega) with h|h<;>omega
 exact (V9 (Eb8 c hf h2).1 hfr hok hin).2.1
def X2:CX:=(B93 X1 0).2
theorem H11:Clean 3 X2:=Ip8 E72 (by omega)
theorem Jv0:Ey7 X1 0=(M7 0 110 false,X1):=by kernel_rfl
theorem Jt8:(B93 X1 0).1=M7 1 0 false:=by kernel_rfl
theorem Ju0:Ey7 X2 0=(M7 0 0 true,X2):=by kernel_rfl
theorem Jt6:H7 X2 1=(P7 p0 0,0):=by kernel_rfl
theorem In7:Ct A6 B92 [] [] fun v own=>v=.bool true∧own []:=by
 refine Ct.of Hv3 rfl fun h r=>Tr.eq (Hs9 ..) ?_;refine Je ?_
 refine Yc (H79) ?_;rintro _ h ⟨a,rfl,o⟩<;>refine Jh o ?_
 (refine Ja ?_;intros)
 refine Yc (Ik5 a) ?_
 rintro _ h ⟨k,c,w,m,K',rfl,o⟩
 refine (?_:Tr _ _ _ _) o
 refine Je ?_
 (refine Ja ?_;intros)
 refine Yc (Hi8 c k F1 X1 Bf5 E72 0 (by omega)) ?_;rintro _ h ⟨rfl,o⟩<;>refine Jh o ?_
 rw [Jv0]
 dsimp only
 (refine Jc ?_;intros)
 refine Yn fun b1 h=>?_
 (refine Ja ?_;intros)
 refine Yc (Il3 c k F1 X1 Bf5 E72 0 (by omega)) ?_;rintro _ h ⟨rfl,o⟩<;>refine Jh o ?_
 rw [Jt8,show (B93 X1 0).2=X2 from rfl]
 (refine Jc ?_;intros)
 refine Yn fun b2 h=>?_
 (refine Ja ?_;intros)
 refine Yc (Hi8 c k F1 X2 Bf5 H11 0 (by omega)) ?_;rintro _ h ⟨rfl,o⟩<;>refine Jh o ?_
 rw [Ju0]
 dsimp only
 (refine Jc ?_;intros)
 refine Yn fun b3 h=>?_
 (refine Ja ?_;intros)
 refine Yc (Ea4 c k F1 X2 Bf5 H11 1 (by omega)) ?_;rintro _ h ⟨rfl,o⟩<;>refine Jh o ?_
 rw [Jt6]
 dsimp only
 (refine Jc ?_;intros)
 refine Yn fun b4 h=>?_
 (refine Jb ?_;intros)
 refine Yb (Yt rfl ?_)
 (refine Jb ?_;intros)
 refine Ys fun o=>(?_:Tr _ _ _ _) o;refine Je ?_
 refine Yb (Yt rfl ?_)
 (refine Jb ?_;intros)
 refine Ys fun o=>(?_:Tr _ _ _ _) o;refine Je ?_
 refine Yb (Yt rfl ?_)
 (refine Jb ?_;intros)
 refine Ys fun o=>(?_:Tr _ _ _ _) o;refine Je ?_
 refine Yb (Yt rfl ?_)
 refine Ys fun o=>(?_:Tr _ _ _ _) o;refine Je ?_
 refine Yb (Yt rfl ?_)
 (refine Jb ?_;intros)
 refine Ys fun o=>(?_:Tr _ _ _ _) o;refine Je ?_
 refine Yb (Yt rfl ?_)
 (refine Jb ?_;intros)
 refine Ys fun o=>(?_:Tr _ _ _ _) o;refine Je ?_
 refine Ys fun o=>?_
 refine ⟨rfl,?_⟩
 exact o.tail.tail.tail.tail.tail.tail.tail
abbrev Gq4:List (Int × Int):=[(0,492),(1280,492),(512,40),(1856,40)]
theorem Jt3 (rg m s:Nat) (bs:List UInt8) (hl:bs.length=2560):Ct A6 An5 [P0 rg,int 0] [Ae6 rg m s Gq4,Al9 m bs] fun v own =>
  ∃ x d,v=.tuple ⟨[.slice x 492 d,int 0]⟩∧own [slC false A3 1 x 492 d (A0 (slice bs 0 492)),Ae6 rg m s Gq4,Al9 m bs]:=by
 have hb:Dv8 bs 0 492=some (slice bs 0 492):=by unfold Dv8;rw [if_pos (by omega)];rfl
 have hsl:(slice bs 0 492).length=492:=Gi0 (by omega)
 refine Ct.of E08 rfl fun h r=>Tr.eq (Ey9 ..) ?_;refine Je ?_
 refine B6 (Ae6 rg m s Gq4) fun ⟨ra,rc⟩=>?_;refine Je ?_
 (refine Jb ?_;intros)
 refine Yb (Yf rfl ?_)
 (refine Jb ?_;intros)
 refine Ys fun o=>(?_:Tr _ _ _ _) o;refine Je ?_
 refine Yf rfl ?_
 (refine Ja ?_;intros)
 refine I51 1 rfl (show 0<Gq4.length by decide) fun px e=>?_
 subst e
 (refine Ja ?_;intros)
 refine Tr.ck ⟨by omega,by decide⟩ ?_
 (refine Ja ?_;intros)
 refine Tr.ck ⟨by omega,by decide⟩ ?_
 (refine Ja ?_;intros)
 refine Yc (Il2 m bs 0 492 (by omega)) ?_
 rintro v h (⟨l,x,d,e,rfl,o⟩|⟨e,_⟩)
 ·rw [hb] at e;cases e
  refine (?_:Tr _ _ _ _) o
  refine Je ?_
  rw [hsl]
  (refine Ja ?_;intros)
  refine B5 (Ae6 rg m s Gq4) (some px,rc) ?_;refine Je ?_
  refine Ys fun o=>?_
  exact ⟨x,d,rfl,o.sub⟩
 ·rw [hb] at e;cases e
theorem Hz3 (k:Nat) (S:KS) (A:KA):CtP A6 Ab4 [P0 k] [pt k (.cells Dw6 false (E71 S A))] (P0 A.r):=by
 refine CtP.of Ga2 rfl fun h r=>Tr.eq (Ga5 ..) ?_;refine Je ?_
 exact Jz
theorem Jt5 {S:KS} (kS:Like S) {env:Int} (e:EnvP 0 env) {m:List (List UInt8)} (f:Fit S.mem.length (rgP 0) m):slice (A53 S.mem (rgP 0) m) 0 492=m.getD 0 []:=by
 obtain ⟨_,x,hx,hl⟩:=f.each 0 0 492 rfl
 have e0:m.getD 0 []=x:=by rw [List.getD_eq_getElem?_getD,hx];rfl
 have hs:=He1 f (He9 kS e).dj (j:=0) (lo:=0) (n:=492) rfl hx (a:=0) (c:=492) (by omega)
 rw [e0]
 rw [show (0+0:Nat)=0 from rfl] at hs
 rw [hs]
 unfold slice
 rw [List.drop_zero,List.take_of_length_le (by omega)]
theorem Jj3 (F:Fr) (m:List (List UInt8)):(F.at m).regs=F.S.regs:=rfl
theorem Jv6 (S:KS) (s:Nat) (env:Int):(frP S s env).S=S:=rfl
theorem Jq6 {r:List HP} {h:H} {α:Type} {Q:α→H→Prop} {kk:Value→H→Option (α × H)} (c k:Nat) (X:CX)
  (t:∀ y d h',Tr (slC false A3 1 y 492 d (A0 (X.m.getD 0 []))::cmC c k F1 X::r) h' (kk (.tuple ⟨[.slice y 492 d,int 0]⟩) h') Q) :
  Tr (cmC c k F1 X::r) h (bnd (A6 Ab4 [P0 k] h) fun v hv=>aPtr v fun x=>bnd (A6 An5 [.pointer x,int 0] hv) kk) Q:=by
 have hr:(F1.at X.m).regs=Gq4:=by rw [Jj3,Jv6,G89.regs,Ha4]
 have h2:(F1.at X.m).mem=A53 F1.S.mem F1.rg X.m:=F1.mem_at X.m
 refine B6 (cmC c k F1 X) fun u=>?_;refine Je ?_
 refine P8 2 rfl fun f=>?_
 have hv:=Jt5 G89 Hh5 f
 have hl:(F1.at X.m).mem.length=2560:=by rw [h2,Du8 f];exact G89.mem
 have hv2:slice (F1.at X.m).mem 0 492=X.m.getD 0 []:=by rw [h2];exact hv
 refine B6 (E8 k (F1.at X.m)) fun ⟨m,s,q,rg,ea,ec,ma,mc,ms,sa,sc,ss⟩=>?_;refine Je ?_
 refine Tr.pcall (Hz3 k (F1.at X.m) ⟨m,s,q,rg,ea,ec,ma,mc,ms,sa,sc,ss⟩) ?_;refine Je ?_;(refine Ja ?_;intros)
 try dsimp only
 rw [hr]
 refine Yc (Jt3 rg m s (F1.at X.m).mem hl) ?_;rintro _ h ⟨y,d,rfl,o⟩<;>refine Jh o ?_
 rw [hv2,← hr]
 refine B5 (E8 k (F1.at X.m)) ⟨m,s,q,rg,ea,ec,ma,mc,ms,sa,sc,ss⟩ ?_;refine Je ?_
 refine B5 (cmC c k F1 X) () ?_;refine Je ?_
 refine B9 [1,0] 0 rfl rfl ?_
 exact t y d _
theorem Ji6 {r:List HP} {h:H} {α:Type} {Q:α→H→Prop} {kk:Option Addr→H→Option (α × H)} (c k:Nat) (X:CX)
  (t:∀ rg:Nat,Tr (cmC c k F1 X::r) h (kk (some ⟨rg,0,none⟩) h) Q) :
  Tr (cmC c k F1 X::r) h (bnd (A6 Ab4 [P0 k] h) fun v hv=>aPtr v fun x=>kk x hv) Q:=by
 refine B6 (cmC c k F1 X) fun u=>?_;refine Je ?_
 refine P8 2 rfl fun f=>?_
 refine B6 (E8 k (F1.at X.m)) fun ⟨m,s,q,rg,ea,ec,ma,mc,ms,sa,sc,ss⟩=>?_;refine Je ?_
 refine Tr.pcall (Hz3 k (F1.at X.m) ⟨m,s,q,rg,ea,ec,ma,mc,ms,sa,sc,ss⟩) ?_;refine Je ?_;(refine Ja ?_;intros)
 try dsimp only
 refine B5 (E8 k (F1.at X.m)) ⟨m,s,q,rg,ea,ec,ma,mc,ms,sa,sc,ss⟩ ?_;refine Je ?_
 refine B5 (cmC c k F1 X) () ?_;refine Je ?_
 exact t rg
section
variable {nc:Nat} {X:CX} (c:Clean nc X)
include c
abbrev Dl2 (X:CX) (i:Int) (p:PipeS):CX:=Db9 X ⟨3,i⟩ (O0 p)
abbrev En3 (X:CX) (i:Int):CX:=Db9 X ⟨2,i⟩ (List.replicate 8 0)
abbrev G21 (X:CX) (i:Int):CX:=Db9 X ⟨3,i⟩ (List.replicate 40 0)
theorem B35 {i:Int} (h:0≤i∧i<3+nc) {p:PipeS} (ok:okP p=true) :
  De0 X i p=(true,Dl2 X i p)∧Clean nc (Dl2 X i p)∧(∀ j:Int,0≤j∧j<8→vS (Dl2 X i p) j=vS X j)∧(∀ j:Int,0≤j∧j<12→vF (Dl2 X i p) j=vF X j)∧(∀ j:Int,0≤j∧j<3+nc→vP (Dl2 X i p) j=if j=i then (p,1) else vP X j):=by
 have hl:(O0 p).length=Z3 (3:Int):=by rw [De6 p.len];rfl
 refine ⟨by unfold De0;rw [ok];exact Dg2 c (Bw5 h) _,Df7 c (Bw5 h) hl (by show (N4 (O0 p)).2≠2;rw [H66 ok];simp),fun j hj=>?_,fun j hj=>?_,fun j hj=>?_⟩
 ·show O2 (rd _ _)=_
  rw [Ao7 c (Bw5 h) (Bz2 hj) hl,if_neg (by simp)]
 ·show P3 (rd _ _)=_
  rw [Ao7 c (Bw5 h) (By1 hj) hl,if_neg (by simp)]
 ·show N4 (rd _ _)=_
  rw [Ao7 c (Bw5 h) (Bw5 hj) hl]
  by_cases e:j=i
  ·rw [if_pos (by rw [e]),if_pos e];exact H66 ok
  ·rw [if_neg (by simp [e]),if_neg e]
theorem Dt4 {i:Int} (h:0≤i∧i<12) :
  B17 X ⟨2,i⟩=(true,En3 X i)∧Clean nc (En3 X i)∧(∀ j:Int,0≤j∧j<8→vS (En3 X i) j=vS X j)∧(∀ j:Int,0≤j∧j<12→vF (En3 X i) j=if j=i then (.zero,0) else vF X j)∧(∀ j:Int,0≤j∧j<3+nc→vP (En3 X i) j=vP X j):=by
 have hl:(List.replicate 8 (0:UInt8)).length=Z3 (2:Int):=rfl
 refine ⟨Dg2 c (By1 h) _,Df7 c (By1 h) hl (by show (P3 (List.replicate 8 0)).2≠2;rw [show (P3 (List.replicate 8 0))=(.zero,0) from rfl];simp),fun j hj=>?_,fun j hj=>?_,fun j hj=>?_⟩
 ·show O2 (rd _ _)=_
  rw [Ao7 c (By1 h) (Bz2 hj) hl,if_neg (by simp)]
 ·show P3 (rd _ _)=_
  rw [Ao7 c (By1 h) (By1 hj) hl]
  by_cases e:j=i
  ·rw [if_pos (by rw [e]),if_pos e];rfl
  ·rw [if_neg (by simp [e]),if_neg e]
 ·show N4 (rd _ _)=_
  rw [Ao7 c (By1 h) (Bw5 hj) hl,if_neg (by simp)]
theorem Dr9 {i:Int} (h:0≤i∧i<3+nc) :
  B17 X ⟨3,i⟩=(true,G21 X i)∧Clean nc (G21 X i)∧(∀ j:Int,0≤j∧j<8→vS (G21 X i) j=vS X j)∧(∀ j:Int,0≤j∧j<12→vF (G21 X i) j=vF X j)∧(∀ j:Int,0≤j∧j<3+nc→vP (G21 X i) j=if j=i then (.zero,0) else vP X j):=by
 have hl:(List.replicate 40 (0:UInt8)).length=Z3 (3:Int):=rfl
 refine ⟨Dg2 c (Bw5 h) _,Df7 c (Bw5 h) hl (by show (N4 (List.replicate 40 0)).2≠2;rw [show (N4 (List.replicate 40 0))=(.zero,0) from rfl];simp),fun j hj=>?_,fun j hj=>?_,fun j hj=>?_⟩
 ·show O2 (rd _ _)=_
  rw [Ao7 c (Bw5 h) (Bz2 hj) hl,if_neg (by simp)]
 ·show P3 (rd _ _)=_
  rw [Ao7 c (Bw5 h) (By1 hj) hl,if_neg (by simp)]
 ·show N4 (rd _ _)=_
  rw [Ao7 c (Bw5 h) (Bw5 hj) hl]
  by_cases e:j=i
  ·rw [if_pos (by rw [e]),if_pos e];rfl
  ·rw [if_neg (by simp [e]),if_neg e]
theorem It5 {i:Int} (h:0≤i∧i<3+nc):((vP X i).2=0∧(vP X i).1=.zero)∨((vP X i).2=1∧okP (vP X i).1=true):=by
 have:=c.ok ⟨3,i⟩ (by simp) (by simp) h.1 h.2
 have hk:(vP X i).2≠2:=this
 unfold vP N4 at hk ⊢
 split
 ·exact .inl ⟨rfl,rfl⟩
 ·split
  ·rename_i h2
   unfold isP at h2
   simp only [Bool.and_eq_true] at h2
   exact .inr ⟨rfl,h2.1⟩
  ·rename_i h1 h2;simp [h1,h2] at hk
end
abbrev Ip1 (q:PipeS):PipeS:=⟨q.head,q.count,max (q.readers-1) 0,q.writers,q.data,q.len⟩
abbrev In3 (q:PipeS):PipeS:=⟨q.head,q.count,q.readers,max (q.writers-1) 0,q.data,q.len⟩
def Di4 (kind:Int) (q:PipeS):PipeS:=if kind=1 then Ip1 q else In3 q
theorem Go2 {q:PipeS} (h:okP q=true) (kind:Int):okP (Di4 kind q)=true:=by
 unfold Di4
 split<;>(simp only [okP,Bool.and_eq_true,decide_eq_true_eq] at h ⊢;omega)
def Ew0 (X:CX) (i:Int) (q:PipeS):CX:=if q.readers+q.writers=0∧i<4 then G21 X i else Dl2 X i q
def Bh1 (nc:Nat) (X:CX) (f:Int):Int × CX :=
 if (vF X f).2≠1 then (105,X)
 else if (vF X f).1.refs-1>0 then (0,Bm1 X f (Bx1 (vF X f).1 (-1)))
 else if (vF X f).1.kind=3 then (0,En3 X f)
 else if ¬ ((vF X f).1.pipe<3+nc∧(vP X (vF X f).1.pipe).2=1) then (105,En3 X f)
 else (0,Ew0 (En3 X f) (vF X f).1.pipe (Di4 (vF X f).1.kind (vP X (vF X f).1.pipe).1))
theorem I41 {nc:Nat} {X:CX} (c:Clean nc X) {i:Int} (h:¬ i<3+nc):D90 X i=((.zero,2),X):=by
 have hp:E7 X.m.length ⟨3,i⟩=none:=by
  unfold E7
  rw [c.len,if_pos (by simp [J8];omega)]
 unfold D90 Z8 rdX
 rw [hp]
theorem G49 {f:FileS} (h:okF f=true):0≤f.pipe:=by
 simp only [okF,Bool.and_eq_true,Bool.or_eq_true,decide_eq_true_eq,beq_iff_eq,bne_iff_ne] at h
 omega
theorem Ia7 {nc:Nat} {X:CX} (c:Clean nc X) {i:Int} (h:0≤i∧i<3+nc) {q:PipeS} (ok:okP q=true):Clean nc (Ew0 X i q):=by
 unfold Ew0
 split
 ·exact (Dr9 c h).2.1
 ·exact (B35 c h ok).2.1
theorem Gy4 (b k:Nat) (F:Fr) (ok:FrOk F) {nc:Nat} {X:CX} (c:Clean nc X) (b1 b2:Nat) (g:FileS) (q:PipeS) (hi:0≤g.pipe∧g.pipe<3+nc) (hq:okP q=true) :
  CtJ D6 Ad6 A67 [(0,P0 b),(5,P0 b1),(7,P0 b2)] [pt b1 (.cells D2 false (Ag6 g)),pt b2 (.cells D9 false (I8 q)),cmC b k F X] fun v own=>v=int 0∧own [cmC b k F (Ew0 X g.pipe q)]:=by
 have hr:0≤q.readers∧q.readers≤8∧0≤q.writers∧q.writers≤8:=by
  simp only [okP,Bool.and_eq_true,decide_eq_true_eq] at hq;omega
 have e1:IntKind.wrap .i64 (q.readers+q.writers)=q.readers+q.writers:=by rw [B4];omega
 obtain ⟨f1,_⟩:=Dr9 c hi
 obtain ⟨w1,_⟩:=B35 c hi hq
 unfold Ew0
 refine CtJ.of Eb7 fun h r=>Tr.eq (Ga4 ..) ?_;refine Je ?_
 (refine Jb ?_;intros)
 rw [e1]
 refine Tr.andG (c:=decide (g.pipe<4)) (fun hb=>?_) ?_
 ·exact Jz
 by_cases h:q.readers+q.writers=0∧g.pipe<4
 ·rw [if_pos h]
  refine Yt (by simp [h.1,h.2]) ?_
  (refine Ja ?_;intros)
  refine Yc (Hw4 b k F X ok g.pipe) ?_;rintro _ h ⟨rfl,o⟩<;>refine Jh o ?_
  rw [f1]
  dsimp only
  (refine Ja ?_;intros)
  refine Yc (B11 true 0) ?_;rintro _ h ⟨rfl,o⟩<;>refine Jh o ?_
  rw [if_pos trivial]
  (refine Ja ?_;intros)
  refine Ys fun o=>?_
  exact ⟨rfl,o.sub⟩
 ·rw [if_neg h]
  refine Yf (by simp;omega) ?_
  (refine Ja ?_;intros)
  refine Yc (Ib8 b k F X ok g.pipe q) ?_;rintro _ h ⟨rfl,o⟩<;>refine Jh o ?_
  rw [w1]
  dsimp only
  (refine Ja ?_;intros)
  refine Yc (B11 true 0) ?_;rintro _ h ⟨rfl,o⟩<;>refine Jh o ?_
  rw [if_pos trivial]
  (refine Ja ?_;intros)
  refine Ys fun o=>?_
  exact ⟨rfl,o.sub⟩
theorem Hy9 (b k:Nat) (F:Fr) (X:CX) (ok:FrOk F) {nc:Nat} (c:Clean nc X) (f:Int) (hf:0≤f∧f<12):Ct A6 Ad6 [P0 b,int f] [cmC b k F X] fun v own=>v=int (Bh1 nc X f).1∧own [cmC b k F (Bh1 nc X f).2]:=by
 have hrf:=Hg4 c hf
 have e1:IntKind.wrap .i64 ((vF X f).1.refs-1)=(vF X f).1.refs+-1:=by rw [B4];omega
 obtain ⟨z1,z2,z3,z4,z5⟩:=Dt4 c hf
 unfold Bh1
 refine Ct.of Eb7 rfl fun h r=>Tr.eq (G00 ..) ?_;refine Je ?_
 refine Yc (Go4 b k F X ok) ?_;rintro _ h ⟨rfl,o⟩<;>refine Jh o ?_
 rw [D64 c]
 (refine Ja ?_;intros)
 refine Yc (E41 b k F X ok f) ?_;rintro _ h ⟨rfl,o⟩<;>refine Jh o ?_
 rw [Dw1 c hf]
 dsimp only
 (refine Jc ?_;intros)
 refine Yn fun b1 h=>?_
 (refine Ja ?_;intros)
 by_cases h1:(vF X f).2=1
 case neg =>
  rw [if_pos h1]
  refine Yt (by simpa using h1) ?_
  refine Ys fun o=>?_
  exact ⟨rfl,o.sub⟩
 rw [if_neg (by simpa using h1)]
 refine Yf (by simpa using h1) ?_
 have hk:okF (vF X f).1=true:=by
  rcases He5 c hf with ⟨h2,_⟩|⟨_,h2⟩
  ·rw [h1] at h2;cases h2
  ·exact h2
 have hr:=Dt2 hk
 have hpp:=G49 hk
 generalize hg:(vF X f).1=g at hrf e1 hk hr hpp
 (refine Ja ?_;intros)
 simp only [e1,List.set_cons_succ,List.set_cons_zero]
 (refine Ja ?_;intros)
 by_cases h2:g.refs-1>0
 ·rw [if_pos h2]
  refine Yt (by simp;omega) ?_
  have hk2:=Dr1 hk (n:=-1) (by omega)
  obtain ⟨w1,_⟩:=Ak2 c hf hk2
  (refine Ja ?_;intros)
  simp only [List.drop_zero,List.take]
  refine Yc (Gu3 b k F X ok f (Bx1 g (-1))) ?_;rintro _ h ⟨rfl,o⟩<;>refine Jh o ?_
  rw [w1]
  dsimp only
  (refine Ja ?_;intros)
  refine Yc (B11 true 0) ?_;rintro _ h ⟨rfl,o⟩<;>refine Jh o ?_
  rw [if_pos trivial]
  (refine Ja ?_;intros)
  refine Ys fun o=>?_
  exact ⟨rfl,o.sub⟩
 rw [if_neg h2]
 refine Yf (by simp;omega) ?_
 refine Yc (H54 b k F X ok f) ?_;rintro _ h ⟨rfl,o⟩<;>refine Jh o ?_
 rw [z1]
 dsimp only
 (refine Ja ?_;intros)
 by_cases h3:g.kind=3
 ·rw [if_pos h3]
  refine Yt (by simpa using h3) ?_
  refine Ys fun o=>?_
  exact ⟨rfl,o.sub⟩
 rw [if_neg h3]
 refine Yf (by simpa using h3) ?_
 (refine Ja ?_;intros)
 refine Yc (H80 b k F (En3 X f) ok g.pipe) ?_;rintro _ h ⟨rfl,o⟩<;>refine Jh o ?_
 by_cases h4:g.pipe<3+(nc:Int)
 case neg =>
  rw [if_pos (fun h=>h4 h.1),I41 z2 h4]
  dsimp only
  (refine Jc ?_;intros)
  refine Yn fun b2 h=>?_
  (refine Ja ?_;intros)
  refine Ys fun o=>?_
  exact ⟨rfl,o.sub⟩
 rw [Gu1 z2 ⟨hpp,h4⟩,z5 _ ⟨hpp,h4⟩]
 dsimp only
 (refine Jc ?_;intros)
 refine Yn fun b2 h=>?_
 (refine Ja ?_;intros)
 by_cases h5:(vP X g.pipe).2=1
 case neg =>
  rw [if_pos (fun h=>h5 h.2)]
  refine Yt (by simpa using h5) ?_
  refine Ys fun o=>?_
  exact ⟨rfl,o.sub⟩
 rw [if_neg (fun h=>h ⟨h4,h5⟩)]
 refine Yf (by simpa using h5) ?_
 have hq:okP (vP X g.pipe).1=true:=by
  rcases It5 c ⟨hpp,h4⟩ with ⟨h6,_⟩|⟨_,h6⟩
  ·rw [h5] at h6;cases h6
  ·exact h6
 have hq2:=Go2 hq g.kind
 generalize (vP X g.pipe).1=q at hq hq2
 have hqr:0≤q.readers∧q.readers≤8∧0≤q.writers∧q.writers≤8:=by
  simp only [okP,Bool.and_eq_true,decide_eq_true_eq] at hq;omega
 have e2:IntKind.wrap .i64 (q.readers-1)=q.readers-1:=by rw [B4];omega
 have e3:IntKind.wrap .i64 (q.writers-1)=q.writers-1:=by rw [B4];omega
 (refine Ja ?_;intros)
 by_cases h6:g.kind=1
 ·refine Yt (by simpa using h6) ?_
  have ee:Di4 g.kind q=Ip1 q:=by unfold Di4;rw [if_pos h6]
  rw [ee] at hq2 ⊢
  (refine Ja ?_;intros)
  rw [e2,Af3,show (I8 q).set 2 (int (max (q.readers-1) 0))=I8 (Ip1 q) from rfl]
  refine Dv4 (Gy4 b k F ok z2 b1 b2 (Bx1 g (-1)) (Ip1 q) ⟨hpp,h4⟩ hq2) [2,0,0] rfl ?_
  intro v h q
  exact q
 ·refine Yf (by simpa using h6) ?_
  have ee:Di4 g.kind q=In3 q:=by unfold Di4;rw [if_neg h6]
  rw [ee] at hq2 ⊢
  (refine Ja ?_;intros)
  rw [e3,Af3,show (I8 q).set 3 (int (max (q.writers-1) 0))=I8 (In3 q) from rfl]
  refine Dv4 (Gy4 b k F ok z2 b1 b2 (Bx1 g (-1)) (In3 q) ⟨hpp,h4⟩ hq2) [2,0,0] rfl ?_
  intro v h q
  exact q
theorem Gf8 {nc:Nat} {X:CX} (c:Clean nc X) {f:Int} (hf:0≤f∧f<12):Clean nc (Bh1 nc X f).2:=by
 have z2:=(Dt4 c hf).2.1
 unfold Bh1
 by_cases h1:(vF X f).2=1
 case neg=>rw [if_pos h1];exact c
 rw [if_neg (by simpa using h1)]
 have hk:okF (vF X f).1=true:=by
  rcases He5 c hf with ⟨h2,_⟩|⟨_,h2⟩
  ·rw [h1] at h2;cases h2
  ·exact h2
 have hr:=Dt2 hk
 by_cases h2:(vF X f).1.refs-1>0
 ·rw [if_pos h2]
  exact (Ak2 c hf (Dr1 hk (n:=-1) (by omega))).2.1
 rw [if_neg h2]
 by_cases h3:(vF X f).1.kind=3
 ·rw [if_pos h3];exact z2
 rw [if_neg h3]
 by_cases h4:(vF X f).1.pipe<3+nc∧(vP X (vF X f).1.pipe).2=1
 case neg=>rw [if_pos h4];exact z2
 rw [if_neg (fun h=>h h4)]
 have hi:0≤(vF X f).1.pipe∧(vF X f).1.pipe<3+nc:=⟨G49 hk,h4.1⟩
 have hq:okP (vP X (vF X f).1.pipe).1=true:=by
  rcases It5 c hi with ⟨h6,_⟩|⟨_,h6⟩
  ·rw [h4.2] at h6;cases h6
  ·exact h6
 exact Ia7 z2 hi (Go2 hq _)
def Bw2 (nc:Nat):List Int→CX→CX
 | [],X=>X
 | f::l,X=>Bw2 nc l (if f>0 then (Bh1 nc X (f-1)).2 else X)
theorem Eh1 {nc:Nat}:∀ (l:List Int) (X:CX),Bd6 l→Clean nc X→Clean nc (Bw2 nc l X)
 | [],X,_,c=>c
 | f::l,X,hf,c=>by
  have h1:=hf f (by simp)
  have hl:Bd6 l:=fun x hx=>hf x (by simp [hx])
  rw [show Bw2 nc (f::l) X=Bw2 nc l (if f>0 then (Bh1 nc X (f-1)).2 else X) from rfl]
  split
  ·exact Eh1 l _ hl (Gf8 c (by omega))
  ·exact Eh1 l _ hl c
abbrev B97 (p:ProcS):ProcS:=⟨p.state,p.parent,p.group,p.code,p.pending,p.mask,p.ignored,p.caught,Av8,rfl⟩
theorem Ik7 {p:ProcS} (h:okS p=true):okS (B97 p)=true:=by
 unfold okS at h ⊢
 simp only [Bool.and_eq_true] at h ⊢
 refine ⟨h.1,h.2.1,by decide,?_⟩
 have:=h.2.2.2
 by_cases h2:p.state=2
 ·rw [if_pos h2] at this
  rw [if_pos (show (B97 p).state=2 from h2)]
  simp only [Bool.and_eq_true] at this ⊢
  exact ⟨this.1,by simp⟩
 ·rw [if_neg h2] at this
  rw [if_neg (show ¬ (B97 p).state=2 from h2)]
  exact this
def S4 (nc:Nat) (X:CX) (i:Int):CX:=if (vS X i).2=1 then A76 (Bw2 nc (vS X i).1.fds X) i (B97 (vS X i).1) else X
theorem Hm0 (b k:Nat) (F:Fr) (ok:FrOk F) {nc:Nat} (i:Int) (hi:0≤i∧i<8) (b1:Nat) (p:ProcS) (hp:okS p=true) (hin:InS p) (fds:List Int) (hl:fds.length=8) (hf:Bd6 fds):∀ (m n:Nat) (X:CX),n+m=8→Clean nc X →
  CtJ D6 Ab6 Av5 [(0,P0 b),(1,int i),(4,P0 b1),(19,.agg ⟨fds.map int⟩),(20,int n)] [pt b1 (.cells A7 false (B7 p)),cmC b k F X] fun v own=>v=.tuple ⟨[]⟩∧own [cmC b k F (A76 (Bw2 nc (fds.drop n) X) i (B97 p))]:=by
 intro m
 induction m with
 | zero =>
  intro n X hn c
  have:n=8:=by omega
  subst this
  rw [show fds.drop 8=[] from List.drop_eq_nil_of_le (by omega),show Bw2 nc [] X=X from rfl]
  obtain ⟨w1,_⟩:=V9 c hi (Ik7 hp) ⟨hin.a,hin.b,hin.c,hin.d⟩
  refine CtJ.of Dn5 fun h r=>Tr.eq (D04 ..) ?_;refine Je ?_
  refine Yf (by simp) ?_
  refine Gs (fun h=>?_) (by exact (show Dn0 (B7 p) 8 (Av8.map int)=some (B7 (B97 p)) from by
   have hlen:(B7 p).length=16:=Aj4 p
   have e:Nat.ble (8+(Av8.map int).length) (B7 p).length=true:=by rw [hlen];rfl
   rw [Dn0,e]
   have h9:(B7 p).drop (8+(Av8.map int).length)=[]:=List.drop_eq_nil_of_le (by rw [hlen];decide)
   rw [h9];rfl))
  generalize B97 p=q at w1
  (refine Ja ?_;intros)
  refine Yc (Bs4 b k F X ok i q) ?_;rintro _ h ⟨rfl,o⟩<;>refine Jh o ?_
  rw [w1]
  (refine Ja ?_;intros)
  refine Ys fun o=>?_
  exact ⟨rfl,o.sub⟩
 | succ m ih =>
  intro n X hn c
  have e1:=wN n
  have hil:n<fds.length:=by omega
  have hg:=Hj0 hil
  have hd:fds.drop n=fds.getD n 0::fds.drop (n+1):=by
   rw [List.drop_eq_getElem_cons hil,List.getD_eq_getElem?_getD,List.getElem?_eq_getElem hil];rfl
  have hr:0≤fds.getD n 0∧fds.getD n 0≤12:=hf _ (by
   rw [List.getD_eq_getElem?_getD,List.getElem?_eq_getElem hil];exact List.getElem_mem _)
  rw [hd]
  generalize fds.getD n 0=f at hg hr
  rw [show Bw2 nc (f::fds.drop (n+1)) X=Bw2 nc (fds.drop (n+1)) (if f>0 then (Bh1 nc X (f-1)).2 else X) from rfl]
  refine CtJ.of Dn5 fun h r=>Tr.eq (D04 ..) ?_;refine Je ?_
  refine Yt (by simp;omega) ?_
  rw [e1]
  refine Tr.ck (by omega) ?_
  rw [Int.toNat_natCast]
  (refine Ja ?_;intros)
  by_cases hz:f>0
  ·rw [if_pos hz]
   refine Yt (by simpa using hz) ?_
   rw [show IntKind.wrap .i64 (f-1)=f-1 by rw [B4];omega]
   refine Yc (Hy9 b k F X ok c (f-1) (by omega)) ?_;rintro _ h ⟨rfl,o⟩<;>refine Jh o ?_
   (refine Ja ?_;intros)
   refine Yr (ih (n+1) (Bh1 nc X (f-1)).2 (by omega) (Gf8 c (show 0≤f-1∧f-1<12 by omega))) ?_
   intro v h q
   exact q
  ·rw [if_neg hz]
   refine Yf (by simpa using hz) ?_
   refine Yr (ih (n+1) X (by omega) c) ?_
   intro v h q
   exact q
theorem Id5 (b k:Nat) (F:Fr) (X:CX) (ok:FrOk F) {nc:Nat} (c:Clean nc X) (i:Int) (hi:0≤i∧i<8):Ct A6 Ab6 [P0 b,int i] [cmC b k F X] fun v own=>v=.tuple ⟨[]⟩∧own [cmC b k F (S4 nc X i)]:=by
 unfold S4
 refine Ct.of Dn5 rfl fun h r=>Tr.eq (G90 ..) ?_;refine Je ?_
 refine Yc (Go4 b k F X ok) ?_;rintro _ h ⟨rfl,o⟩<;>refine Jh o ?_
 rw [D64 c]
 (refine Ja ?_;intros)
 refine Yc (Bd1 b k F X ok i) ?_;rintro _ h ⟨rfl,o⟩<;>refine Jh o ?_
 rw [At9 c hi]
 dsimp only
 (refine Jc ?_;intros)
 refine Yn fun b1 h=>?_
 (refine Ja ?_;intros)
 by_cases h1:(vS X i).2=1
 case neg =>
  rw [if_neg h1]
  refine Yt (by simpa using h1) ?_
  refine Ys fun o=>?_
  exact ⟨rfl,o.sub⟩
 rw [if_pos h1]
 refine Yf (by simpa using h1) ?_
 have hk:okS (vS X i).1=true:=by
  rcases D93 c hi with ⟨h2,_⟩|⟨_,h2⟩
  ·rw [h1] at h2;cases h2
  ·exact h2
 have hin:=Ar9 (rd X ⟨1,i⟩)
 (refine Ja ?_;intros)
 refine Dv4 (Hm0 b k F ok i hi b1 _ hk hin _ (vS X i).1.len (B19 hk) 8 0 X rfl c) [0,0] rfl ?_
 intro v h q
 exact q
abbrev Go6 (p:ProcS):ProcS:=⟨p.state,0,p.group,p.code,p.pending,p.mask,p.ignored,p.caught,p.fds,p.len⟩
theorem Gp7 {p:ProcS} (h:okS p=true):okS (Go6 p)=true:=by
 unfold okS at h ⊢
 simp only [Bool.and_eq_true,Bool.not_eq_true',Bool.or_eq_false_iff,decide_eq_false_iff_not] at h ⊢
 obtain ⟨⟨⟨⟨⟨⟨⟨⟨a1,a2⟩,a3⟩,a4⟩,a5⟩,a6⟩,a7⟩,a8⟩,b1,d1,d2⟩:=h
 exact ⟨⟨⟨⟨⟨⟨⟨⟨a1,a2⟩,by decide⟩,by decide⟩,a5⟩,a6⟩,a7⟩,a8⟩,b1,d1,d2⟩
def D98:List (Int × ProcS)→CX→CX
 | [],X=>X
 | s::l,X=>D98 l (if s.2.state=2 then D29 X s.1 else A76 X s.1 (Go6 s.2))
def SlOk (L:List (Int × ProcS)):Prop:=∀ s ∈ L,(0≤s.1∧s.1<8)∧okS s.2=true∧InS s.2
theorem En1 {nc:Nat} {X:CX} (c:Clean nc X) (q:Int→ProcS→Bool):∀ (m:Nat) (i:Int),0≤i→i+m=8→SlOk (I9 X q m i)
 | 0,i,_,_,s,hs=>by simp [I9] at hs
 | m+1,i,h0,hi,s,hs=>by
  rw [show I9 X q (m+1) i=if (vS X i).2=1∧q i (vS X i).1=true then (i,(vS X i).1)::I9 X q m (i+1) else I9 X q m (i+1) from rfl] at hs
  split at hs
  ·rename_i h1
   rcases List.mem_cons.1 hs with rfl|h2
   ·refine ⟨⟨h0,by simp only;omega⟩,?_,Ar9 _⟩
    rcases D93 c (i:=i) (by omega) with ⟨h3,_⟩|⟨_,h3⟩
    ·rw [h1.1] at h3;cases h3
    ·exact h3
   ·exact En1 c q m (i+1) (by omega) (by omega) s h2
  ·exact En1 c q m (i+1) (by omega) (by omega) s hs
theorem Ho9 {nc:Nat} {X:CX} (c:Clean nc X) {s:Int × ProcS} (h:(0≤s.1∧s.1<8)∧okS s.2=true∧InS s.2):Clean nc (if s.2.state=2 then D29 X s.1 else A76 X s.1 (Go6 s.2)):=by
 split
 ·exact (Bi3 c h.1).2.1
 ·exact (V9 c h.1 (Gp7 h.2.1) ⟨h.2.2.a,h.2.2.b,h.2.2.c,h.2.2.d⟩).2.1
theorem Gx3 {nc:Nat}:∀ (L:List (Int × ProcS)) (X:CX),SlOk L→Clean nc X→Clean nc (D98 L X)
 | [],X,_,c=>c
 | s::l,X,hL,c=>Gx3 l _ (fun x hx=>hL x (by simp [hx])) (Ho9 c (hL s (by simp)))
theorem I60 (j:Int) (q:ProcS):B89 (int j::B7 q) 1 16=some (B7 q):=by
 have e:Nat.ble (1+16) (int j::B7 q).length=true:=by rw [Ad2];rfl
 rw [B89,e,List.drop_succ_cons,List.drop_zero,List.take_of_length_le (by rw [Aj4];omega)];rfl
theorem Is9 (b k:Nat) (F:Fr) (ok:FrOk F) {nc:Nat} (L:List (Int × ProcS)) (hL:SlOk L) (h8:L.length≤8) (a:Option Addr) (ac:Nat):∀ (m n:Nat) (X:CX),n+m=L.length→Clean nc X →
  CtJ D6 Ai9 A57 [(0,P0 b),(8,.slice a L.length ac),(9,int L.length),(10,int n)] [slC false G9 17 a L.length ac (L.flatMap A63),cmC b k F X] fun v own=>v=.tuple ⟨[]⟩∧own [cmC b k F (D98 (L.drop n) X)]:=by
 intro m
 induction m with
 | zero =>
  intro n X hn c
  rw [show L.drop n=[] from List.drop_eq_nil_of_le (by omega),show D98 [] X=X from rfl]
  refine CtJ.of D39 fun h r=>Tr.eq (Ec3 ..) ?_;refine Je ?_
  refine Yf (by simp;omega) ?_
  refine Ys fun o=>?_
  exact ⟨rfl,o.sub⟩
 | succ m ih =>
  intro n X hn c
  have hil:n<L.length:=by omega
  have e1:=wN n
  have hg:L[n]?=some L[n]:=List.getElem?_eq_getElem hil
  have hd:L.drop n=L[n]::L.drop (n+1):=List.drop_eq_getElem_cons hil
  have hs:=hL _ (List.getElem_mem hil)
  rw [hd]
  generalize L[n]=s at hg hs
  obtain ⟨j,p⟩:=s
  have hstep:=Ho9 c hs
  obtain ⟨hj,hk,hin⟩:=hs
  simp only at hj hk hin hstep
  rw [show D98 ((j,p)::L.drop (n+1)) X=D98 (L.drop (n+1)) (if p.state=2 then D29 X j else A76 X j (Go6 p)) from rfl]
  have hpart:=Af8 (f:=A63) (k:=17) (fun x=>Ad2 x.1 x.2) hg
  have hlen:=N1 (f:=A63) (k:=17) (fun x=>Ad2 x.1 x.2) L
  refine CtJ.of D39 fun h r=>Tr.eq (Ec3 ..) ?_;refine Je ?_
  refine Yt (by simp;omega) ?_
  rw [e1]
  refine S5 0 rfl fun h1 h2 h3=>?_
  (refine Jc ?_;intros;repeat(refine Gw ?_;rintro px rfl;refine Jc ?_;intros))
  rw [Int.toNat_natCast]
  refine Tr.xAggS (xs:=A63 (j,p)) ⟨by omega,by omega,hpart⟩ ?_
  refine Yn fun b2 h=>?_
  (refine Ja ?_;intros)
  refine Yc (Ez2 j p) ?_;rintro _ h ⟨rfl,o⟩<;>refine Jh o ?_
  (refine Ja ?_;intros)
  by_cases hz:p.state=2
  ·rw [if_pos hz] at hstep ⊢
   refine Yt (by simp [hz]) ?_
   (refine Ja ?_;intros)
   refine Yc (Dm5 b k F X ok j) ?_;rintro _ h ⟨rfl,o⟩<;>refine Jh o ?_
   rw [(Bi3 c hj).1]
   dsimp only
   (refine Ja ?_;intros)
   refine B9 [2,0] 1 rfl rfl ?_
   refine Yr (ih (n+1) _ (by omega) hstep) ?_
   intro v h q
   exact q
  ·rw [if_neg hz] at hstep ⊢
   refine Yf (by simp [hz]) ?_
   obtain ⟨w1,_⟩:=V9 c hj (Gp7 hk) ⟨hin.a,hin.b,hin.c,hin.d⟩
   (refine Ja ?_;intros)
   rw [show (int j::B7 p).set 2 (int 0)=int j::B7 (Go6 p) from rfl]
   generalize Go6 p=q at w1 hstep
   refine Gs ?_ (by exact I60 j q)
   refine Yc (Bs4 b k F X ok j q) ?_;rintro _ h ⟨rfl,o⟩<;>refine Jh o ?_
   rw [w1]
   dsimp only
   (refine Ja ?_;intros)
   refine B9 [2,0] 1 rfl rfl ?_
   refine Yr (ih (n+1) _ (by omega) hstep) ?_
   intro v h q
   exact q
theorem Ja6 (bi:Nat) (i:Int) (hi:0≤i∧i<8) (j:Int) (p:ProcS):Ct A6 Bb9 [.agg ⟨int j::B7 p⟩,P0 bi] [pt bi (.cells A8 false [int i])] fun v own=>v=.bool (j != i && p.parent==i+1)∧own [pt bi (.cells A8 false [int i])]:=by
 have e1:=wI i
 refine Ct.of He0 rfl fun h r=>Tr.eq (G86 ..) ?_;refine Je ?_
 (refine Ja ?_;intros)
 refine Ys fun o=>?_
 rw [e1]
 exact ⟨rfl,o.sub⟩
abbrev Gq6 (i:Int) (j:Int) (p:ProcS):Bool:=j != i && p.parent==i+1
def Bc4 (X:CX) (i:Int):CX:=D98 (I9 X (Gq6 i) 8 0) X
theorem I11 (b k:Nat) (F:Fr) (X:CX) (ok:FrOk F) {nc:Nat} (c:Clean nc X) (i:Int) (hi:0≤i∧i<8):Ct A6 Ai9 [P0 b,int i] [cmC b k F X] fun v own=>v=.tuple ⟨[]⟩∧own [cmC b k F (Bc4 X i)]:=by
 unfold Bc4
 refine Ct.of D39 rfl fun h r=>Tr.eq (Ht4 ..) ?_;refine Je ?_
 refine Yn fun bi h=>?_
 refine Yc (E50 b k F X ok c (pt bi (.cells A8 false [int i])) Bb9 [P0 bi] (Gq6 i) (fun j p=>Ja6 bi i hi j p)) ?_;rintro _ h ⟨a,ac,rfl,o⟩<;>refine Jh o ?_
 (refine Ja ?_;intros)
 refine B9 [0,0] 1 rfl rfl ?_
 refine Yr (Is9 b k F ok _ (En1 c _ 8 0 (by omega) (by omega)) (D75 X _ 8 0) a ac _ 0 X (Nat.zero_add _) c) ?_
 intro v h q
 exact q
abbrev E04 (code:Int):Int:=Int.tmod (IntKind.wrap .i64 (Int.tmod code 256+256)) 256
theorem Jg2 (code:Int):0≤E04 code∧E04 code≤255:=by
 have h1:=Int.tmod_lt_of_pos code (show (0:Int)<256 by omega)
 have h2:-256<Int.tmod code 256:=by
  have:=Int.lt_tmod_of_pos code (show (0:Int)<256 by omega)
  omega
 unfold E04
 rw [B4]
 generalize Int.tmod code 256=x at h1 h2
 rw [Ju7 (by omega)]
 omega
abbrev Ha0 (p:ProcS) (code:Int):ProcS:=⟨2,p.parent,p.group,E04 code,0,p.mask,p.ignored,p.caught,Av8,rfl⟩
theorem Hj2 {p:ProcS} (h:okS p=true) (code:Int):okS (Ha0 p code)=true:=by
 have hc:=Jg2 code
 unfold okS at h ⊢
 rw [if_pos (show (Ha0 p code).state=2 from rfl)]
 simp only [Bool.and_eq_true,Bool.not_eq_true',Bool.or_eq_false_iff,decide_eq_false_iff_not] at h ⊢
 obtain ⟨⟨⟨⟨⟨⟨⟨⟨a1,a2⟩,a3⟩,a4⟩,a5⟩,a6⟩,a7⟩,a8⟩,⟨⟨⟨⟨b1,b2⟩,b3⟩,b4⟩,b5⟩,d1,d2⟩:=h
 refine ⟨⟨⟨⟨⟨⟨⟨⟨by decide,by decide⟩,a3⟩,a4⟩,a5⟩,a6⟩,by show ¬ E04 code<0;omega⟩,by show ¬ E04 code>255;omega⟩,⟨⟨⟨⟨by simp [I45],b2⟩,b3⟩,b4⟩,b5⟩,by decide,by simp⟩
def G72 (nc:Nat) (X:CX) (i code:Int):List Value × CX :=
 if (H7 X i).2≠0 then (M7 0 (H7 X i).2 false,X)
 else if (vS (Bc4 (S4 nc X i) i) i).2≠1 then (M7 0 105 false,Bc4 (S4 nc X i) i)
 else if (vS (Bc4 (S4 nc X i) i) i).1.parent>0∧(vS (Bc4 (S4 nc X i) i) ((vS (Bc4 (S4 nc X i) i) i).1.parent-1)).2=1∧(vS (Bc4 (S4 nc X i) i) ((vS (Bc4 (S4 nc X i) i) i).1.parent-1)).1.state≠2 then (M7 0 0 false,A76 (Bc4 (S4 nc X i) i) i (Ha0 (vS (Bc4 (S4 nc X i) i) i).1 code))
 else (M7 0 0 false,D29 (Bc4 (S4 nc X i) i) i)
theorem Hd6 {nc:Nat} {X:CX} (c:Clean nc X) {i:Int} (hi:0≤i∧i<8):Clean nc (S4 nc X i):=by
 unfold S4
 split
 ·rename_i h1
  have hk:okS (vS X i).1=true:=by
   rcases D93 c hi with ⟨h2,_⟩|⟨_,h2⟩
   ·rw [h1] at h2;cases h2
   ·exact h2
  have hin:=Ar9 (rd X ⟨1,i⟩)
  exact (V9 (Eh1 _ _ (B19 hk) c) hi (Ik7 hk) ⟨hin.a,hin.b,hin.c,hin.d⟩).2.1
 ·exact c
theorem Id3 {nc:Nat} {X:CX} (c:Clean nc X) (i:Int):Clean nc (Bc4 X i):=Gx3 _ _ (En1 c _ 8 0 (by omega) (by omega)) c
theorem Ji1 {p:ProcS} (h:okS p=true):0≤p.parent∧p.parent≤8:=by
 unfold okS at h
 simp only [Bool.and_eq_true,Bool.not_eq_true',Bool.or_eq_false_iff,decide_eq_false_iff_not] at h
 have:=h.1
 omega
theorem I90 (p:ProcS):Dn0 (B7 p) 8 (Av8.map int)=some (B7 (B97 p)):=by
 have hlen:(B7 p).length=16:=Aj4 p
 have e:Nat.ble (8+(Av8.map int).length) (B7 p).length=true:=by rw [hlen];rfl
 rw [Dn0,e]
 have h9:(B7 p).drop (8+(Av8.map int).length)=[]:=List.drop_eq_nil_of_le (by rw [hlen];decide)
 rw [h9];rfl
theorem Jl6 (b k:Nat) (F:Fr) (X:CX) (ok:FrOk F) {nc:Nat} (c:Clean nc X) (i code:Int) (hi:0≤i∧i<8):Ct A6 Bs3 [P0 b,int i,int code] [cmC b k F X] fun v own=>v=.agg ⟨(G72 nc X i code).1⟩∧own [cmC b k F (G72 nc X i code).2]:=by
 have c1:=Hd6 c hi
 have c2:=Id3 c1 i
 unfold G72
 refine Ct.of Gz1 rfl fun h r=>Tr.eq (Gv6 ..) ?_;refine Je ?_
 refine Yn fun b0 h=>?_
 refine Yc (Ea4 b k F X ok c i hi) ?_;rintro _ h ⟨rfl,o⟩<;>refine Jh o ?_
 (refine Jc ?_;intros)
 refine Yn fun b1 h=>?_
 (refine Ja ?_;intros)
 by_cases h0:(H7 X i).2=0
 case neg =>
  rw [if_pos h0]
  refine Yt (by simpa using h0) ?_
  refine Yc (Ac2 (H7 X i).2) ?_;rintro _ h ⟨rfl,o⟩<;>(refine Jf o ?_;intros)
  refine Ys fun o=>?_
  exact ⟨rfl,o.sub⟩
 rw [if_neg (by simpa using h0)]
 refine Yf (by simpa using h0) ?_
 refine Yc (Id5 b k F X ok c i hi) ?_;rintro _ h ⟨rfl,o⟩<;>refine Jh o ?_
 (refine Ja ?_;intros)
 refine Yc (I11 b k F _ ok c1 i hi) ?_;rintro _ h ⟨rfl,o⟩<;>refine Jh o ?_
 generalize Bc4 (S4 nc X i) i=Y at c2
 (refine Ja ?_;intros)
 refine Yc (Bd1 b k F Y ok i) ?_;rintro _ h ⟨rfl,o⟩<;>refine Jh o ?_
 rw [At9 c2 hi]
 dsimp only
 (refine Jc ?_;intros)
 refine Yn fun b2 h=>?_
 (refine Ja ?_;intros)
 by_cases h1:(vS Y i).2=1
 case neg =>
  rw [if_pos h1]
  refine Yt (by simpa using h1) ?_
  refine Yc (Ac2 105) ?_;rintro _ h ⟨rfl,o⟩<;>(refine Jf o ?_;intros)
  refine Ys fun o=>?_
  exact ⟨rfl,o.sub⟩
 rw [if_neg (by simpa using h1)]
 refine Yf (by simpa using h1) ?_
 have hk:okS (vS Y i).1=true:=by
  rcases D93 c2 hi with ⟨h2,_⟩|⟨_,h2⟩
  ·rw [h1] at h2;cases h2
  ·exact h2
 have hin:InS (vS Y i).1:=Ar9 _
 have hpar:=Ji1 hk
 have hdead:=Hj2 hk code
 generalize (vS Y i).1=p at hk hpar hdead hin
 obtain ⟨z1,_⟩:=Bi3 c2 hi
 (refine Ja ?_;intros)
 by_cases h2:p.parent>0
 case neg =>
  rw [if_neg (fun h=>h2 h.1)]
  refine Yf (by simpa using h2) ?_
  refine Yc (Dm5 b k F Y ok i) ?_;rintro _ h ⟨rfl,o⟩<;>refine Jh o ?_
  rw [z1]
  dsimp only
  (refine Ja ?_;intros)
  refine Yc (B11 true 0) ?_;rintro _ h ⟨rfl,o⟩<;>refine Jh o ?_
  rw [if_pos trivial]
  (refine Ja ?_;intros)
  refine Ys fun o=>?_
  exact ⟨rfl,o.sub⟩
 refine Yt (by simpa using h2) ?_
 (refine Ja ?_;intros)
 rw [show IntKind.wrap .i64 (p.parent-1)=p.parent-1 by rw [B4];omega]
 refine Yc (Bd1 b k F Y ok (p.parent-1)) ?_;rintro _ h ⟨rfl,o⟩<;>refine Jh o ?_
 rw [At9 c2 (show 0≤p.parent-1∧p.parent-1<8 by omega)]
 dsimp only
 (refine Jc ?_;intros)
 refine Yn fun b3 h=>?_
 (refine Jb ?_;intros)
 refine Tr.andG (c:=(vS Y (p.parent-1)).1.state != 2) (fun hb=>?_) ?_
 ·exact Jz
 by_cases h3:(vS Y (p.parent-1)).2=1∧(vS Y (p.parent-1)).1.state≠2
 ·rw [if_pos ⟨h2,h3⟩]
  refine Yt (by simp [h3.1,h3.2]) ?_
  obtain ⟨w1,_⟩:=V9 c2 hi hdead ⟨by simp,hin.b,hin.c,hin.d⟩
  (refine Ja ?_;intros)
  rw [show (((B7 p).set 0 (int 2)).set 3 (int (E04 code))).set 4 (int 0)=B7 ⟨2,p.parent,p.group,E04 code,0,p.mask,p.ignored,p.caught,p.fds,p.len⟩ from rfl]
  refine Gs (fun h=>?_) (by exact I90 _)
  rw [show B97 (⟨2,p.parent,p.group,E04 code,0,p.mask,p.ignored,p.caught,p.fds,p.len⟩:ProcS)=Ha0 p code from rfl]
  generalize Ha0 p code=q at w1
  (refine Ja ?_;intros)
  refine Yc (Bs4 b k F Y ok i q) ?_;rintro _ h ⟨rfl,o⟩<;>refine Jh o ?_
  rw [w1]
  dsimp only
  (refine Ja ?_;intros)
  refine Yc (B11 true 0) ?_;rintro _ h ⟨rfl,o⟩<;>refine Jh o ?_
  rw [if_pos trivial]
  (refine Ja ?_;intros)
  refine Ys fun o=>?_
  exact ⟨rfl,o.sub⟩
 ·rw [if_neg (fun h=>h3 h.2)]
  refine Yf (by
   by_cases h4:(vS Y (p.parent-1)).2=1
   ·have:(vS Y (p.parent-1)).1.state=2:=Classical.byContradiction fun h5=>h3 ⟨h4,h5⟩
    simp [this]
   ·simp [h4]) ?_
  refine Yc (Dm5 b k F Y ok i) ?_;rintro _ h ⟨rfl,o⟩<;>refine Jh o ?_
  rw [z1]
  dsimp only
  (refine Ja ?_;intros)
  refine Yc (B11 true 0) ?_;rintro _ h ⟨rfl,o⟩<;>refine Jh o ?_
  rw [if_pos trivial]
  (refine Ja ?_;intros)
  refine Ys fun o=>?_
  exact ⟨rfl,o.sub⟩
abbrev setFd (p:ProcS) (j:Nat) (f:Int):ProcS:=⟨p.state,p.parent,p.group,p.code,p.pending,p.mask,p.ignored,p.caught,p.fds.set j f,by rw [List.length_set];exact p.len⟩
theorem Gz7 {p:ProcS} (h:okS p=true) (h1:p.state=1) (j:Nat) {f:Int} (hf:0≤f∧f≤12):okS (setFd p j f)=true:=by
 have hd:=B19 h
 have hd2:Bd6 (setFd p j f).fds:=fun x hx=>by
  rcases List.mem_or_eq_of_mem_set hx with h2|rfl
  ·exact hd x h2
  ·exact hf
 unfold okS at h ⊢
 rw [if_neg (by rw [h1];decide)] at h
 rw [if_neg (show ¬ (setFd p j f).state=2 by show ¬ p.state=2;rw [h1];decide)]
 simp only [Bool.and_eq_true] at h ⊢
 refine ⟨h.1,h.2.1,?_,h.2.2.2⟩
 rw [Bool.not_eq_true',List.any_eq_false]
 intro x hx
 have:=hd2 x hx
 simp;omega
def Is7 (X:CX) (i fd f:Int):List Value × CX :=
 if (H7 X i).2≠0 then (M7 0 (H7 X i).2 false,X) else (M7 fd 0 false,A76 X i (setFd (vS X i).1 fd.toNat (f+1)))
def Bo7 (q:Int→Bool):Nat→Int→Nat→List Int
 | 0,_,_=>[]
 | _+1,_,0=>[]
 | m+1,i,w+1=>if q i=true then i::Bo7 q m (i+1) w else Bo7 q m (i+1) (w+1)
theorem Df3 (q:Int→Bool):∀ (m:Nat) (i:Int) (w:Nat),∀ x ∈ Bo7 q m i w,i≤x∧x<i+m∧q x=true
 | 0,_,_,x,hx=>by simp [Bo7] at hx
 | _+1,_,0,x,hx=>by simp [Bo7] at hx
 | m+1,i,w+1,x,hx=>by
  unfold Bo7 at hx
  split at hx
  ·rename_i hq
   rcases List.mem_cons.1 hx with rfl|h
   ·exact ⟨by omega,by omega,hq⟩
   ·have:=Df3 q m (i+1) w x h
    exact ⟨by omega,by omega,this.2.2⟩
  ·have:=Df3 q m (i+1) (w+1) x hx
   exact ⟨by omega,by omega,this.2.2⟩
abbrev A42 (p:ProcS) (w:Nat):List Int:=Bo7 (fun j=>p.fds.getD j.toNat 0==0) 8 0 w
def hcC (bh b k:Nat) (F:Fr) (X:CX):HP:=hex fun _:Unit=>sl [pt bh (.cells Dq3 false [P0 b]),cmC b k F X]
instance {bh b k:Nat} {F:Fr} {X:CX}:Chk (hcC bh b k F X) (fun _:Unit=>[pt bh (.cells Dq3 false [P0 b]),cmC b k F X]):=⟨rfl⟩
def Eh4:PipeS:=⟨0,0,1,1,[0,0,0,0,0,0,0,0,0,0,0,0,0,0,0,0,0,0,0,0,0,0,0,0,0,0,0,0,0,0,0,0],rfl⟩
abbrev Go9 (X:CX):List Int:=Bo7 (fun j=>(vF X j).2==0) 12 0 2
abbrev Hl7 (X:CX):List Int:=Bo7 (fun j=>(vP X j).2==0) 4 0 1
def Dh4 (X:CX) (i d0 d1 f0 f1 r0:Int):CX :=
 A76 (Bm1 (Bm1 (Dl2 X r0 Eh4) f0 ⟨1,r0,1,0⟩) f1 ⟨2,r0,1,0⟩) i (setFd (setFd (vS X i).1 d0.toNat (f0+1)) d1.toNat (f1+1))
def Hk2 (X:CX) (i:Int):List Value × CX :=
 if (H7 X i).2≠0 then (M7 0 (H7 X i).2 false,X)
 else if (A42 (vS X i).1 2).length<2 then (M7 0 124 false,X)
 else if (Go9 X).length<2∨(Hl7 X).length=0 then (M7 0 123 false,X)
 else (M7 ((A42 (vS X i).1 2).getD 0 0+16*(A42 (vS X i).1 2).getD 1 0) 0 false,Dh4 X i ((A42 (vS X i).1 2).getD 0 0) ((A42 (vS X i).1 2).getD 1 0) ((Go9 X).getD 0 0) ((Go9 X).getD 1 0) ((Hl7 X).getD 0 0))
theorem I42 {nc:Nat} {X:CX} (c:Clean nc X) {i:Int} (hi:0≤i∧i<8) (hs:(H7 X i).2=0) {d0 d1 f0 f1 r0:Int} (hd0:0≤d0∧d0<8) (hd1:0≤d1∧d1<8) (hf0:0≤f0∧f0<12) (hf1:0≤f1∧f1<12) (hr:0≤r0∧r0<4) (hn:r0<3+(nc:Int)) :
  De0 X r0 Eh4=(true,Dl2 X r0 Eh4)∧By0 (Dl2 X r0 Eh4) f0 ⟨1,r0,1,0⟩=(true,Bm1 (Dl2 X r0 Eh4) f0 ⟨1,r0,1,0⟩) ∧
  By0 (Bm1 (Dl2 X r0 Eh4) f0 ⟨1,r0,1,0⟩) f1 ⟨2,r0,1,0⟩=(true,Bm1 (Bm1 (Dl2 X r0 Eh4) f0 ⟨1,r0,1,0⟩) f1 ⟨2,r0,1,0⟩) ∧
  Dc1 (Bm1 (Bm1 (Dl2 X r0 Eh4) f0 ⟨1,r0,1,0⟩) f1 ⟨2,r0,1,0⟩) i (setFd (setFd (vS X i).1 d0.toNat (f0+1)) d1.toNat (f1+1))=(true,Dh4 X i d0 d1 f0 f1 r0) ∧
  Clean nc (Dh4 X i d0 d1 f0 f1 r0)∧(∀ j:Int,0≤j∧j<8→vS (Dh4 X i d0 d1 f0 f1 r0) j=if j=i then (setFd (setFd (vS X i).1 d0.toNat (f0+1)) d1.toNat (f1+1),1) else vS X j) ∧
  (∀ j:Int,0≤j∧j<12→vF (Dh4 X i d0 d1 f0 f1 r0) j=if j=f1 then (⟨2,r0,1,0⟩,1) else if j=f0 then (⟨1,r0,1,0⟩,1) else vF X j) ∧
  (∀ j:Int,0≤j∧j<3+nc→vP (Dh4 X i d0 d1 f0 f1 r0) j=if j=r0 then (Eh4,1) else vP X j):=by
 obtain ⟨s1,s2,s3,s4⟩:=Bm9 c hi hs
 have hin:=Ar9 (rd X ⟨1,i⟩)
 obtain ⟨a1,a2,a3,a4,a5⟩:=B35 c (i:=r0) (by omega) (p:=Eh4) rfl
 obtain ⟨b1,b2,b3,b4,b5⟩:=Ak2 a2 hf0 (f:=⟨1,r0,1,0⟩) (by simp [okF];omega)
 obtain ⟨c1,c2,c3,c4,c5⟩:=Ak2 b2 hf1 (f:=⟨2,r0,1,0⟩) (by simp [okF];omega)
 have hq:=Gz7 (Gz7 s3 s2 d0.toNat (f:=f0+1) (by omega)) s2 d1.toNat (f:=f1+1) (by omega)
 obtain ⟨e1,e2,e3,e4,e5⟩:=V9 c2 hi hq ⟨hin.a,hin.b,hin.c,hin.d⟩
 refine ⟨a1,b1,c1,e1,e2,fun j hj=>?_,fun j hj=>?_,fun j hj=>?_⟩
 ·rw [show Dh4 X i d0 d1 f0 f1 r0=A76 _ _ _ from rfl,e3 j hj,c3 j hj,b3 j hj,a3 j hj]
 ·rw [show Dh4 X i d0 d1 f0 f1 r0=A76 _ _ _ from rfl,e4 j hj,c4 j hj,b4 j hj,a4 j hj]
 ·rw [show Dh4 X i d0 d1 f0 f1 r0=A76 _ _ _ from rfl,e5 j hj,c5 j hj,b5 j hj,a5 j hj]
structure VW where
 S:Int→ProcS × Int
 F:Int→FileS × Int
 P:Int→PipeS × Int
structure See (X:CX) (V:VW):Prop where
 c:Clean 3 X
 s:∀ j:Int,0≤j∧j<8→vS X j=V.S j
 f:∀ j:Int,0≤j∧j<12→vF X j=V.F j
 p:∀ j:Int,0≤j∧j<6→vP X j=V.P j
theorem See.to {X:CX} {V V':VW} (A:See X V) (hs:∀ j:Int,0≤j∧j<8→V.S j=V'.S j) (hf:∀ j:Int,0≤j∧j<12→V.F j=V'.F j) (hp:∀ j:Int,0≤j∧j<6→V.P j=V'.P j):See X V' :=
 ⟨A.c,fun j h=>(A.s j h).trans (hs j h),fun j h=>(A.f j h).trans (hf j h),fun j h=>(A.p j h).trans (hp j h)⟩
def wS (V:VW) (i:Int) (p:ProcS):VW:=⟨fun j=>if j=i then (p,1) else V.S j,V.F,V.P⟩
def wF (V:VW) (i:Int) (x:FileS):VW:=⟨V.S,fun j=>if j=i then (x,1) else V.F j,V.P⟩
def wP (V:VW) (i:Int) (x:PipeS):VW:=⟨V.S,V.F,fun j=>if j=i then (x,1) else V.P j⟩
def oF (V:VW) (i:Int):VW:=⟨V.S,fun j=>if j=i then (.zero,0) else V.F j,V.P⟩
def oP (V:VW) (i:Int):VW:=⟨V.S,V.F,fun j=>if j=i then (.zero,0) else V.P j⟩
section
variable {X:CX} {V:VW} (A:See X V)
include A
theorem See.ws {i:Int} (hi:0≤i∧i<8) {p:ProcS} (ok:okS p=true) (r:InS p):See (A76 X i p) (wS V i p):=by
 obtain ⟨_,w2,w3,w4,w5⟩:=V9 A.c hi ok r
 exact ⟨w2,fun j h=>by rw [w3 j h,A.s j h];rfl,fun j h=>by rw [w4 j h];exact A.f j h,fun j h=>by rw [w5 j (by omega)];exact A.p j h⟩
theorem See.wf {i:Int} (hi:0≤i∧i<12) {x:FileS} (ok:okF x=true):See (Bm1 X i x) (wF V i x):=by
 obtain ⟨_,w2,w3,w4,w5⟩:=Ak2 A.c hi ok
 exact ⟨w2,fun j h=>by rw [w3 j h];exact A.s j h,fun j h=>by rw [w4 j h,A.f j h];rfl,fun j h=>by rw [w5 j (by omega)];exact A.p j h⟩
theorem See.wp {i:Int} (hi:0≤i∧i<6) {x:PipeS} (ok:okP x=true):See (Dl2 X i x) (wP V i x):=by
 obtain ⟨_,w2,w3,w4,w5⟩:=B35 A.c (i:=i) (by omega) ok
 exact ⟨w2,fun j h=>by rw [w3 j h];exact A.s j h,fun j h=>by rw [w4 j h];exact A.f j h,fun j h=>by rw [w5 j (by omega),A.p j h];rfl⟩
theorem See.of {i:Int} (hi:0≤i∧i<12):See (En3 X i) (oF V i):=by
 obtain ⟨_,w2,w3,w4,w5⟩:=Dt4 A.c hi
 exact ⟨w2,fun j h=>by rw [w3 j h];exact A.s j h,fun j h=>by rw [w4 j h,A.f j h];rfl,fun j h=>by rw [w5 j (by omega)];exact A.p j h⟩
theorem See.op {i:Int} (hi:0≤i∧i<6):See (G21 X i) (oP V i):=by
 obtain ⟨_,w2,w3,w4,w5⟩:=Dr9 A.c (i:=i) (by omega)
 exact ⟨w2,fun j h=>by rw [w3 j h];exact A.s j h,fun j h=>by rw [w4 j h];exact A.f j h,fun j h=>by rw [w5 j (by omega),A.p j h];rfl⟩
end
def Bg6 (V:VW) (i:Int):ProcS × Int:=if (V.S i).2=1∧(V.S i).1.state=1 then ((V.S i).1,0) else (.zero,105)
theorem See.self {X:CX} {V:VW} (A:See X V) {i:Int} (hi:0≤i∧i<8):H7 X i=Bg6 V i:=by unfold H7 Bg6;rw [A.s i hi]
def clP (V:VW) (i:Int) (q:PipeS):VW:=if q.readers+q.writers=0∧i<4 then oP V i else wP V i q
def Bq1 (V:VW) (f:Int):Int × VW :=
 if (V.F f).2≠1 then (105,V)
 else if (V.F f).1.refs-1>0 then (0,wF V f (Bx1 (V.F f).1 (-1)))
 else if (V.F f).1.kind=3 then (0,oF V f)
 else if ¬ ((V.F f).1.pipe<6∧(V.P (V.F f).1.pipe).2=1) then (105,oF V f)
 else (0,clP (oF V f) (V.F f).1.pipe (Di4 (V.F f).1.kind (V.P (V.F f).1.pipe).1))
theorem See.close {X:CX} {V:VW} (A:See X V) {f:Int} (hf:0≤f∧f<12):(Bh1 3 X f).1=(Bq1 V f).1∧See (Bh1 3 X f).2 (Bq1 V f).2:=by
 have e:=A.f f hf
 have hk:(V.F f).2=1→okF (V.F f).1=true:=fun h=>by
  rcases He5 A.c hf with ⟨h2,_⟩|⟨_,h2⟩
  ·rw [e,h] at h2;cases h2
  ·rw [e] at h2;exact h2
 unfold Bh1 Bq1
 rw [e]
 by_cases h1:(V.F f).2=1
 case neg=>rw [if_pos h1,if_pos h1];exact ⟨rfl,A⟩
 have n1:¬ (V.F f).2≠1:=by simpa using h1
 rw [if_neg n1,if_neg n1]
 replace hk:=hk h1
 have hr:=Dt2 hk
 have hp:=G49 hk
 by_cases h2:(V.F f).1.refs-1>0
 ·rw [if_pos h2,if_pos h2]
  exact ⟨rfl,A.wf hf (Dr1 hk (n:=-1) (by omega))⟩
 rw [if_neg h2,if_neg h2]
 by_cases h3:(V.F f).1.kind=3
 ·rw [if_pos h3,if_pos h3];exact ⟨rfl,A.of hf⟩
 rw [if_neg h3,if_neg h3]
 by_cases h4:(V.F f).1.pipe<6
 case neg =>
  have n4:¬ ((V.F f).1.pipe<3+((3:Nat):Int)∧(vP X (V.F f).1.pipe).2=1):=fun h=>h4 (by have:=h.1;omega)
  have n5:¬ ((V.F f).1.pipe<6∧(V.P (V.F f).1.pipe).2=1):=fun h=>h4 h.1
  rw [if_pos n4,if_pos n5];exact ⟨rfl,A.of hf⟩
 have ep:=A.p (V.F f).1.pipe ⟨hp,h4⟩
 rw [ep]
 by_cases h5:(V.P (V.F f).1.pipe).2=1
 case neg =>
  have n4:¬ ((V.F f).1.pipe<3+((3:Nat):Int)∧(V.P (V.F f).1.pipe).2=1):=fun h=>h5 h.2
  have n5:¬ ((V.F f).1.pipe<6∧(V.P (V.F f).1.pipe).2=1):=fun h=>h5 h.2
  rw [if_pos n4,if_pos n5];exact ⟨rfl,A.of hf⟩
 have n4:¬ ¬ ((V.F f).1.pipe<3+((3:Nat):Int)∧(V.P (V.F f).1.pipe).2=1):=fun h=>h ⟨by omega,h5⟩
 have n5:¬ ¬ ((V.F f).1.pipe<6∧(V.P (V.F f).1.pipe).2=1):=fun h=>h ⟨h4,h5⟩
 rw [if_neg n4,if_neg n5]
 have hq:okP (V.P (V.F f).1.pipe).1=true:=by
  rcases It5 A.c (i:=(V.F f).1.pipe) (by omega) with ⟨h6,_⟩|⟨_,h6⟩
  ·rw [ep,h5] at h6;cases h6
  ·rw [ep] at h6;exact h6
 refine ⟨rfl,?_⟩
 unfold Ew0 clP
 split
 ·exact (A.of hf).op ⟨hp,h4⟩
 ·exact (A.of hf).wp ⟨hp,h4⟩ (Go2 hq _)
def Ir5 (V:VW) (i fd f:Int):List Value × VW :=
 if (Bg6 V i).2≠0 then (M7 0 (Bg6 V i).2 false,V) else (M7 fd 0 false,wS V i (setFd (V.S i).1 fd.toNat (f+1)))
theorem See.setFd {X:CX} {V:VW} (A:See X V) {i:Int} (hi:0≤i∧i<8) (h:(Bg6 V i).2=0) (j:Nat) {f:Int} (hf:0≤f∧f≤12):See (A76 X i (EQ.setFd (vS X i).1 j f)) (wS V i (EQ.setFd (V.S i).1 j f)):=by
 have es:=A.self hi
 obtain ⟨s1,s2,s3,s4⟩:=Bm9 A.c hi (by rw [es];exact h)
 have hin:=Ar9 (rd X ⟨1,i⟩)
 have:=A.ws hi (Gz7 s3 s2 j hf) ⟨hin.a,hin.b,hin.c,hin.d⟩
 have e:EQ.setFd (V.S i).1 j f=EQ.setFd (vS X i).1 j f:=by rw [A.s i hi]
 rw [e];exact this
theorem See.name {X:CX} {V:VW} (A:See X V) {i:Int} (hi:0≤i∧i<8) (fd:Int) {f:Int} (hf:0≤f∧f<12):(Is7 X i fd f).1=(Ir5 V i fd f).1∧See (Is7 X i fd f).2 (Ir5 V i fd f).2:=by
 have es:=A.self hi
 unfold Is7 Ir5
 rw [es]
 by_cases h1:(Bg6 V i).2=0
 case neg=>rw [if_pos h1,if_pos h1];exact ⟨rfl,A⟩
 have n1:¬ (Bg6 V i).2≠0:=by simpa using h1
 rw [if_neg n1,if_neg n1]
 exact ⟨rfl,A.setFd hi h1 fd.toNat (by omega)⟩
theorem Dw4 {q q':Int→Bool}:∀ (m:Nat) (i:Int) (w:Nat),(∀ j:Int,i≤j→j<i+m→q j=q' j)→Bo7 q m i w=Bo7 q' m i w
 | 0,_,_,_=>rfl
 | _+1,_,0,_=>rfl
 | m+1,i,w+1,h=>by
  rw [Bo7,Bo7,h i (by omega) (by omega),Dw4 m (i+1) w fun j h1 h2=>h j (by omega) (by omega),Dw4 m (i+1) (w+1) fun j h1 h2=>h j (by omega) (by omega)]
abbrev Ez6 (V:VW):List Int:=Bo7 (fun j=>(V.F j).2==0) 12 0 2
abbrev Hk3 (V:VW):List Int:=Bo7 (fun j=>(V.P j).2==0) 4 0 1
def mkW (V:VW) (i d0 d1 f0 f1 r0:Int):VW:=wS (wF (wF (wP V r0 Eh4) f0 ⟨1,r0,1,0⟩) f1 ⟨2,r0,1,0⟩) i (setFd (setFd (V.S i).1 d0.toNat (f0+1)) d1.toNat (f1+1))
def Iv3 (V:VW) (i:Int):List Value × VW :=
 if (Bg6 V i).2≠0 then (M7 0 (Bg6 V i).2 false,V)
 else if (A42 (V.S i).1 2).length<2 then (M7 0 124 false,V)
 else if (Ez6 V).length<2∨(Hk3 V).length=0 then (M7 0 123 false,V)
 else (M7 ((A42 (V.S i).1 2).getD 0 0+16*(A42 (V.S i).1 2).getD 1 0) 0 false,mkW V i ((A42 (V.S i).1 2).getD 0 0) ((A42 (V.S i).1 2).getD 1 0) ((Ez6 V).getD 0 0) ((Ez6 V).getD 1 0) ((Hk3 V).getD 0 0))
theorem Dr4 {l:List Int} {j:Nat} (h:j<l.length):l.getD j 0 ∈ l:=by
 rw [List.getD_eq_getElem?_getD,List.getElem?_eq_getElem h];exact List.getElem_mem _
theorem See.pipe {X:CX} {V:VW} (A:See X V) {i:Int} (hi:0≤i∧i<8):(Hk2 X i).1=(Iv3 V i).1∧See (Hk2 X i).2 (Iv3 V i).2:=by
 have es:=A.self hi
 have e1:Go9 X=Ez6 V:=Dw4 12 0 2 fun j h1 h2=>by rw [A.f j (by omega)]
 have e2:Hl7 X=Hk3 V:=Dw4 4 0 1 fun j h1 h2=>by rw [A.p j (by omega)]
 unfold Hk2 Iv3
 rw [e1,e2,es]
 by_cases h1:(Bg6 V i).2=0
 case neg=>rw [if_pos h1,if_pos h1];exact ⟨rfl,A⟩
 have n1:¬ (Bg6 V i).2≠0:=by simpa using h1
 rw [if_neg n1,if_neg n1,A.s i hi]
 by_cases h2:(A42 (V.S i).1 2).length<2
 ·rw [if_pos h2,if_pos h2];exact ⟨rfl,A⟩
 rw [if_neg h2,if_neg h2]
 by_cases h3:(Ez6 V).length<2∨(Hk3 V).length=0
 ·rw [if_pos h3,if_pos h3];exact ⟨rfl,A⟩
 rw [if_neg h3,if_neg h3]
 have hm:=Df3 (fun j=>(V.S i).1.fds.getD j.toNat 0==0) 8 0 2
 have hd0:=hm _ (Dr4 (l:=A42 (V.S i).1 2) (j:=0) (by omega))
 have hd1:=hm _ (Dr4 (l:=A42 (V.S i).1 2) (j:=1) (by omega))
 have hf0:=Df3 (fun j=>(V.F j).2==0) 12 0 2 _ (Dr4 (l:=Ez6 V) (j:=0) (by omega))
 have hf1:=Df3 (fun j=>(V.F j).2==0) 12 0 2 _ (Dr4 (l:=Ez6 V) (j:=1) (by omega))
 have hr:=Df3 (fun j=>(V.P j).2==0) 4 0 1 _ (Dr4 (l:=Hk3 V) (j:=0) (by omega))
 generalize (A42 (V.S i).1 2).getD 0 0=d0 at hd0 ⊢
 generalize (A42 (V.S i).1 2).getD 1 0=d1 at hd1 ⊢
 generalize (Ez6 V).getD 0 0=f0 at hf0 ⊢
 generalize (Ez6 V).getD 1 0=f1 at hf1 ⊢
 generalize (Hk3 V).getD 0 0=r0 at hr ⊢
 obtain ⟨_,_,_,_,m1,m2,m3,m4⟩:=I42 A.c hi (by rw [es];exact h1) (d0:=d0) (d1:=d1) (f0:=f0) (f1:=f1) (r0:=r0) (by omega) (by omega) (by omega) (by omega) (by omega) (by omega)
 refine ⟨rfl,m1,fun j hj=>?_,fun j hj=>?_,fun j hj=>?_⟩
 ·rw [m2 j hj,A.s i hi,A.s j hj];rfl
 ·rw [m3 j hj,A.f j hj];rfl
 ·rw [m4 j (by omega),A.p j hj];rfl
def Ba3 (V:VW):Nat→Int→Int
 | 0,_=>-1
 | m+1,i=>if (V.S i).2=0 then i else Ba3 V m (i+1)
theorem See.free {X:CX} {V:VW} (A:See X V):∀ (m:Nat) (i:Int),0≤i→i+m=8→Al2 X m i=Ba3 V m i
 | 0,_,_,_=>rfl
 | m+1,i,h0,hi=>by rw [Al2,Ba3,A.s i (by omega),A.free m (i+1) (by omega) (by omega)]
def Bx4 (V:VW) (more:List Int):List Int→Int
 | []=>0
 | f::l=>if f=0 then Bx4 V more l else if (V.F (f-1)).2≠1 then 105 else if (V.F (f-1)).1.refs+more.getD (f-1).toNat 0>64 then 123 else Bx4 V more l
theorem See.share {X:CX} {V:VW} (A:See X V) (more:List Int):∀ l:List Int,Bd6 l→Ak0 X more l=Bx4 V more l
 | [],_=>rfl
 | f::l,h=>by
  have hf:=h f (by simp)
  rw [Ak0,Bx4,A.share more l fun x hx=>h x (by simp [hx])]
  by_cases h0:f=0
  ·rw [if_pos h0,if_pos h0]
  ·rw [if_neg h0,if_neg h0,A.f (f-1) (by omega)]
def Dr2 (V:VW) (more:List Int):VW:=⟨V.S,fun j=>if more.getD j.toNat 0≠0 then (Bx1 (V.F j).1 (more.getD j.toNat 0),1) else V.F j,V.P⟩
def Hv9 (V:VW) (i:Int):List Value × VW :=
 if (Bg6 V i).2≠0 then (M7 0 (Bg6 V i).2 false,V)
 else if Ba3 V 8 0<0 then (M7 0 111 false,V)
 else if Bx4 V (An0 (V.S i).1) (V.S i).1.fds≠0 then (M7 0 (Bx4 V (An0 (V.S i).1) (V.S i).1.fds) false,V)
 else (M7 (Ba3 V 8 0) 0 false,wS (Dr2 V (An0 (V.S i).1)) (Ba3 V 8 0) (P7 (V.S i).1 i))
theorem See.fork {X:CX} {V:VW} (A:See X V) {i:Int} (hi:0≤i∧i<8):(B93 X i).1=(Hv9 V i).1∧See (B93 X i).2 (Hv9 V i).2:=by
 have es:=A.self hi
 have ef:=A.free 8 0 (by omega) (by omega)
 unfold B93 Hv9
 rw [ef]
 by_cases h1:(Bg6 V i).2=0
 case neg=>rw [es,if_pos h1,if_pos h1];exact ⟨rfl,A⟩
 have n1:¬ (Bg6 V i).2≠0:=by simpa using h1
 have n2:¬ (H7 X i).2≠0:=by rw [es];exact n1
 rw [if_neg n2,if_neg n1]
 by_cases h2:Ba3 V 8 0<0
 ·rw [if_pos h2,if_pos h2];exact ⟨rfl,A⟩
 rw [if_neg h2,if_neg h2]
 obtain ⟨s1,s2,s3,s4⟩:=Bm9 A.c hi (by rw [es];exact h1)
 rw [s1]
 have hfd:=B19 s3
 have hin:=Ar9 (rd X ⟨1,i⟩)
 have esh:=A.share (An0 (vS X i).1) _ hfd
 have hcl:=Eb8 A.c hfd
 have hno:=fun h=>Hq6 (X:=X) (p:=(vS X i).1) h
 have hm8:Ba3 V 8 0<8:=by
  rcases El4 (X:=X) 8 0 (by omega) (by omega) with h|h<;>omega
 have e1:(Aa0 X (vS X i).1).1=Ak0 X (An0 (vS X i).1) (vS X i).1.fds:=by
  unfold Aa0;split
  ·rename_i h;exact h.symm
  ·rfl
 rw [esh] at e1
 have hck:=E42 s3 s2 hi
 have hin2:InS (P7 (vS X i).1 i):=⟨by simp,hin.b,hin.c,hin.d⟩
 simp only
 rw [e1] at hcl hno ⊢
 rw [A.s i hi] at *
 by_cases h3:Bx4 V (An0 (V.S i).1) (V.S i).1.fds=0
 case neg=>rw [if_pos h3,if_pos h3];exact ⟨rfl,A⟩
 have n3:¬ Bx4 V (An0 (V.S i).1) (V.S i).1.fds≠0:=by simpa using h3
 rw [if_neg n3,if_neg n3]
 obtain ⟨a1,a2,a3,a4⟩:=hcl h3
 refine ⟨rfl,?_⟩
 have B:See (Aa0 X (V.S i).1).2 (Dr2 V (An0 (V.S i).1)):=⟨a1,fun j hj=>by rw [a2 j hj];exact A.s j hj,fun j hj=>by rw [a3 j hj,A.f j hj];rfl,fun j hj=>by rw [a4 j (by omega)];exact A.p j hj⟩
 exact B.ws (by omega) hck hin2
def V1:VW:=⟨fun j=>if j=0 then (p0,1) else (.zero,0),fun j=>if j=0 then (f0,1) else (.zero,0),fun j=>if j<4 then (.zero,0) else vP X1 j⟩
theorem Jv9:See X1 V1:=by
 refine ⟨E72,fun j hj=>?_,fun j hj=>?_,fun j hj=>?_⟩
 ·have:j=0∨j=1∨j=2∨j=3∨j=4∨j=5∨j=6∨j=7:=by omega
  rcases this with rfl|rfl|rfl|rfl|rfl|rfl|rfl|rfl<;>(clear hj;show (_:ProcS × Int)=_;kernel_rfl)
 ·have:j=0∨j=1∨j=2∨j=3∨j=4∨j=5∨j=6∨j=7∨j=8∨j=9∨j=10∨j=11:=by omega
  rcases this with rfl|rfl|rfl|rfl|rfl|rfl|rfl|rfl|rfl|rfl|rfl|rfl<;>(clear hj;show (_:FileS × Int)=_;kernel_rfl)
 ·by_cases h4:j<4
  ·have:j=0∨j=1∨j=2∨j=3:=by omega
   rcases this with rfl|rfl|rfl|rfl<;>(clear hj h4;show (_:PipeS × Int)=_;kernel_rfl)
  ·show _=if j<4 then _ else vP X1 j
   rw [if_neg h4]
def kd (j:Int):Int:=if j=0 then 3 else j
abbrev rr (r:Int→Int) (v d:Int):Int→Int:=fun k=>if k=v then r k+d else r k
theorem VW.ext' {V V':VW} (h1:∀ j,V.S j=V'.S j) (h2:∀ j,V.F j=V'.F j) (h3:∀ j,V.P j=V'.P j):V=V':=by
 obtain ⟨a,b,c⟩:=V
 obtain ⟨a',b',c'⟩:=V'
 have e1:a=a':=funext h1
 have e2:b=b':=funext h2
 have e3:c=c':=funext h3
 rw [e1,e2,e3]
section
variable {ow:List Int} {h:ow.length=8} {r:Int→Int}
end
abbrev inG (g:Int):Int→ProcS→Bool:=fun _ p=>p.state != 2 && p.group==g
abbrev H25 (X:CX) (g:Int):Bool:=decide ((I9 X (inG g) 8 0).length>0)
theorem Jm2 (bi:Nat) (g:Int) (j:Int) (p:ProcS):Ct A6 Bx5 [.agg ⟨int j::B7 p⟩,P0 bi] [pt bi (.cells A8 false [int g])] fun v own=>v=.bool (inG g j p)∧own [pt bi (.cells A8 false [int g])]:=by
 refine Ct.of H91 rfl fun h r=>Tr.eq (Hy2 ..) ?_;refine Je ?_
 refine Yn fun b h=>?_
 (refine Ja ?_;intros)
 refine Yc (Ez2 j p) ?_;rintro _ h ⟨rfl,o⟩<;>refine Jh o ?_
 (refine Jb ?_;intros)
 by_cases h2:p.state=2
 ·refine Yb (Yf (by simpa using h2) ?_)
  refine Ys fun o=>(?_:Tr _ _ _ _) o;refine Je ?_
  refine Ys fun o=>?_
  exact ⟨by rw [show inG g j p=false by unfold inG;simp [h2]],o.sub⟩
 ·refine Yb (Yt (by simpa using h2) ?_)
  (refine Jb ?_;intros)
  refine Ys fun o=>(?_:Tr _ _ _ _) o;refine Je ?_
  refine Ys fun o=>?_
  exact ⟨by rw [show inG g j p=(p.group==g) by unfold inG;simp [h2]],o.sub⟩
theorem Jr7 (b k:Nat) (F:Fr) (X:CX) (ok:FrOk F) {nc:Nat} (c:Clean nc X) (g:Int):Ct A6 D74 [P0 b,int g] [cmC b k F X] fun v own=>v=.bool (H25 X g)∧own [cmC b k F X]:=by
 refine Ct.of Iq2 rfl fun h r=>Tr.eq (Iu4 ..) ?_;refine Je ?_
 refine Yn fun bi h=>?_
 refine Yc (E50 b k F X ok c (pt bi (.cells A8 false [int g])) Bx5 [P0 bi] (inG g) (fun j p=>Jm2 bi g j p)) ?_;rintro _ h ⟨a,ac,rfl,o⟩<;>refine Jh o ?_
 (refine Ja ?_;intros)
 refine Ys fun o=>?_
 exact ⟨by rw [show decide (((I9 X (inG g) 8 0).length:Int)>0)=H25 X g from decide_eq_decide.2 (by omega)],o.sub⟩
theorem Hm4 (n:Int):Ct A6 Bk1 [int n] [] fun v own=>v=.bool (decide (0≤n∧n<8))∧own []:=by
 refine Ct.of Hh8 rfl fun h r=>Tr.eq (Hk1 ..) ?_;refine Je ?_
 by_cases h1:0≤n
 ·refine Yb (Yt (by simpa using h1) ?_)
  refine Ys fun o=>(?_:Tr _ _ _ _) o;refine Je ?_
  refine Ys fun o=>?_
  exact ⟨by rw [decide_eq_decide.2 (show n<8↔0≤n∧n<8 by omega)],o.sub⟩
 ·refine Yb (Yf (by simpa using h1) ?_)
  refine Ys fun o=>(?_:Tr _ _ _ _) o;refine Je ?_
  refine Ys fun o=>?_
  exact ⟨by rw [decide_eq_false (show ¬ (0≤n∧n<8) by omega)],o.sub⟩
abbrev Dx7:List Value:=[int 0,int 0,int 0,int 0,int 0,int 0,int 0,int 0,int 0,int 0,int 0,int 0,int 0,int 0,int 0,int 0]
def Dk1 (X:CX) (i t:Int):Int :=
 if t=i then 0 else if (vS X t).2≠1∨(vS X t).1.parent≠i+1∨(vS X t).1.state=2 then 103 else 0
theorem Jf7 (b k:Nat) (F:Fr) (X:CX) (ok:FrOk F) {nc:Nat} (c:Clean nc X) (i t:Int) (hi:0≤i∧i<8) (ht:0≤t∧t<8):Ct A6 Dn6 [P0 b,int i,int t] [cmC b k F X] fun v own=>v=.tuple ⟨[.agg ⟨B7 (vS X t).1⟩,int (Dk1 X i t)]⟩∧own [cmC b k F X]:=by
 have e1:=wI i
 have hk:(vS X t).2≠2:=c.ok ⟨1,t⟩ (by simp) (by simp) ht.1 ht.2
 unfold Dk1
 refine Ct.of H57 rfl fun h r=>Tr.eq (H06 ..) ?_;refine Je ?_
 refine Yn fun b0 h=>?_
 refine Yc (Bd1 b k F X ok t) ?_;rintro _ h ⟨rfl,o⟩<;>refine Jh o ?_
 rw [At9 c ht]
 dsimp only
 generalize (vS X t).1=p at *
 generalize (vS X t).2=st at *
 (refine Jc ?_;intros)
 refine Yn fun b1 h=>?_
 (refine Jb ?_;intros)
 by_cases h1:t=i
 ·rw [if_pos h1]
  refine Yt (by simpa using h1) ?_
  (refine Ja ?_;intros)
  refine Ys fun o=>?_
  exact ⟨rfl,o.sub⟩
 rw [if_neg h1]
 refine Yf (by simpa using h1) ?_
 refine Yf (by simpa using hk) ?_
 rw [e1]
 refine Yb fun o=>Wp.mono (Q:=fun v h'=>v=decide (st≠1∨p.parent≠i+1)∧Own h' (pt b1 (.cells A7 false (B7 p))::cmC b k F X::pt b0 (.cells A7 false Dx7)::r)) ?_ ?_
 ·refine Jh o ?_
  by_cases h2:st=1
  ·refine Yf (by simpa using h2) ?_
   (refine Jb ?_;intros)
   refine Ys fun o=>?_
   exact ⟨by subst h2;simp [bne,Bool.beq_eq_decide_eq],o.sub⟩
  ·refine Yt (by simpa using h2) ?_
   refine Ys fun o=>?_
   exact ⟨(decide_eq_true (.inl h2)).symm,o.sub⟩
 rintro v h ⟨rfl,o⟩
 refine Jh o ?_
 refine Yb fun o=>Wp.mono (Q:=fun v h'=>v=decide (st≠1∨p.parent≠i+1∨p.state=2)∧Own h' (pt b1 (.cells A7 false (B7 p))::cmC b k F X::pt b0 (.cells A7 false Dx7)::r)) ?_ ?_
 ·refine Jh o ?_
  by_cases h2:st≠1∨p.parent≠i+1
  ·refine Yt (decide_eq_true h2) ?_
   refine Ys fun o=>?_
   exact ⟨(decide_eq_true (h2.elim .inl fun h=>.inr (.inl h))).symm,o.sub⟩
  ·refine Yf (decide_eq_false h2) ?_
   (refine Jb ?_;intros)
   refine Ys fun o=>?_
   refine ⟨?_,o.sub⟩
   rw [Bool.eq_iff_iff,decide_eq_true_iff,beq_iff_eq]
   exact ⟨fun h=>.inr (.inr h),fun h=>h.elim (fun h=>absurd (.inl h) h2) fun h=>h.elim (fun h=>absurd (.inr h) h2) id⟩
 rintro v h ⟨rfl,o⟩
 refine Jh o ?_
 by_cases h2:st≠1∨p.parent≠i+1∨p.state=2
 ·rw [if_pos h2]
  refine Yt (decide_eq_true h2) ?_
  (refine Ja ?_;intros)
  refine Ys fun o=>?_
  exact ⟨rfl,o.sub⟩
 ·rw [if_neg h2]
  refine Yf (decide_eq_false h2) ?_
  (refine Ja ?_;intros)
  refine Ys fun o=>?_
  exact ⟨rfl,o.sub⟩
abbrev It1 (p:ProcS) (g:Int):ProcS:=⟨p.state,p.parent,g,p.code,p.pending,p.mask,p.ignored,p.caught,p.fds,p.len⟩
theorem Hh9 {p:ProcS} (h:okS p=true) {g:Int} (hg:0≤g∧g<8):okS (It1 p g)=true:=by
 unfold okS at h ⊢
 simp only [Bool.and_eq_true,Bool.not_eq_true',Bool.or_eq_false_iff,decide_eq_false_iff_not] at h ⊢
 obtain ⟨⟨⟨⟨⟨⟨⟨⟨a1,a2⟩,a3⟩,a4⟩,a5⟩,a6⟩,a7⟩,a8⟩,b,d⟩:=h
 exact ⟨⟨⟨⟨⟨⟨⟨⟨a1,a2⟩,a3⟩,a4⟩,by show ¬ g<0;omega⟩,by show ¬ g≥8;omega⟩,a7⟩,a8⟩,b,d⟩
def Gi2 (X:CX) (i t g:Int):List Value × CX :=
 if (H7 X i).2≠0 then (M7 0 (H7 X i).2 false,X)
 else if ¬ ((0≤t∧t<8)∧(0≤g∧g<8)) then (M7 0 122 false,X)
 else if Dk1 X i t≠0 then (M7 0 (Dk1 X i t) false,X)
 else if g≠t∧H25 X g=false then (M7 0 101 false,X)
 else (M7 0 0 false,A76 X t (It1 (vS X t).1 g))
theorem I73 (b k:Nat) (F:Fr) (X:CX) (ok:FrOk F) {nc:Nat} (c:Clean nc X) (i t g:Int) (hi:0≤i∧i<8):Ct A6 Bj2 [P0 b,int i,int t,int g] [cmC b k F X] fun v own=>v=.agg ⟨(Gi2 X i t g).1⟩∧own [cmC b k F (Gi2 X i t g).2]:=by
 unfold Gi2
 refine Ct.of Gj2 rfl fun h r=>Tr.eq (Gl8 ..) ?_;refine Je ?_
 refine Yn fun b0 h=>?_
 refine Yc (Ea4 b k F X ok c i hi) ?_;rintro _ h ⟨rfl,o⟩<;>refine Jh o ?_
 (refine Jc ?_;intros)
 refine Yn fun b1 h=>?_
 (refine Jb ?_;intros)
 by_cases h0:(H7 X i).2=0
 case neg =>
  rw [if_pos h0]
  refine Yt (by simpa using h0) ?_
  refine Yc (Ac2 (H7 X i).2) ?_;rintro _ h ⟨rfl,o⟩<;>(refine Jf o ?_;intros)
  refine Ys fun o=>?_
  exact ⟨rfl,o.sub⟩
 rw [if_neg (by simpa using h0)]
 refine Yf (by simpa using h0) ?_
 obtain ⟨s1,s2,s3,s4⟩:=Bm9 c hi h0
 refine Yc (Hm4 t) ?_;rintro _ h ⟨rfl,o⟩<;>refine Jh o ?_
 (refine Jb ?_;intros)
 refine Yb fun o=>Wp.mono (Q:=fun v h'=>v=decide (¬ ((0≤t∧t<8)∧(0≤g∧g<8)))∧Own h' (pt b1 (.cells A7 false (B7 (H7 X i).1))::cmC b k F X::pt b0 (.cells Ag9 false Iv6)::r)) ?_ ?_
 ·refine Jh o ?_
  by_cases ht:0≤t∧t<8
  ·refine Yf (by rw [decide_eq_true ht];rfl) ?_
   refine Yc (Hm4 g) ?_;rintro _ h ⟨rfl,o⟩<;>refine Jh o ?_
   (refine Jb ?_;intros)
   refine Ys fun o=>?_
   refine ⟨?_,o.sub⟩
   rw [Bool.eq_iff_iff,Bool.not_eq_true',decide_eq_false_iff_not,decide_eq_true_iff]
   exact ⟨fun h k=>h k.2,fun h k=>h ⟨ht,k⟩⟩
  ·refine Yt (by rw [decide_eq_false ht];rfl) ?_
   refine Ys fun o=>?_
   exact ⟨(decide_eq_true (show ¬ ((0≤t∧t<8)∧(0≤g∧g<8)) from fun h=>ht h.1)).symm,o.sub⟩
 rintro v h ⟨rfl,o⟩
 refine Jh o ?_
 by_cases h2:(0≤t∧t<8)∧(0≤g∧g<8)
 case neg =>
  rw [if_pos h2]
  refine Yt (decide_eq_true h2) ?_
  refine Yc (Ac2 122) ?_;rintro _ h ⟨rfl,o⟩<;>(refine Jf o ?_;intros)
  refine Ys fun o=>?_
  exact ⟨rfl,o.sub⟩
 rw [if_neg (fun h=>h h2)]
 refine Yf (decide_eq_false (fun h=>h h2)) ?_
 obtain ⟨ht,hg⟩:=h2
 refine Yc (Jf7 b k F X ok c i t hi ht) ?_;rintro _ h ⟨rfl,o⟩<;>refine Jh o ?_
 (refine Jc ?_;intros)
 refine Yn fun b2 h=>?_
 (refine Jb ?_;intros)
 by_cases h3:Dk1 X i t=0
 case neg =>
  rw [if_pos h3]
  refine Yt (by simpa using h3) ?_
  refine Yc (Ac2 (Dk1 X i t)) ?_;rintro _ h ⟨rfl,o⟩<;>(refine Jf o ?_;intros)
  refine Ys fun o=>?_
  exact ⟨rfl,o.sub⟩
 rw [if_neg (by simpa using h3)]
 refine Yf (by simpa using h3) ?_
 refine Yb fun o=>Wp.mono (Q:=fun v h'=>v=decide (g≠t∧H25 X g=false)∧Own h' (pt b2 (.cells A7 false (B7 (vS X t).1))::cmC b k F X::pt b0 (.cells Ag9 false Iv6)::r)) ?_ ?_
 ·refine Jh o ?_
  by_cases hgt:g=t
  ·refine Yf (by simpa using hgt) ?_
   refine Ys fun o=>?_
   exact ⟨(decide_eq_false fun h=>h.1 hgt).symm,o.sub⟩
  ·refine Yt (by simpa using hgt) ?_
   refine Yc (Jr7 b k F X ok c g) ?_;rintro _ h ⟨rfl,o⟩<;>refine Jh o ?_
   (refine Jb ?_;intros)
   refine Ys fun o=>?_
   refine ⟨?_,o.sub⟩
   rw [Bool.eq_iff_iff,Bool.not_eq_true',decide_eq_true_iff]
   exact ⟨fun h=>⟨hgt,h⟩,fun h=>h.2⟩
 rintro v h ⟨rfl,o⟩
 refine Jh o ?_
 by_cases h4:g≠t∧H25 X g=false
 ·rw [if_pos h4]
  refine Yt (decide_eq_true h4) ?_
  refine Yc (Ac2 101) ?_;rintro _ h ⟨rfl,o⟩<;>(refine Jf o ?_;intros)
  refine Ys fun o=>?_
  exact ⟨rfl,o.sub⟩
 rw [if_neg h4]
 refine Yf (decide_eq_false h4) ?_
 have hin:=Ar9 (rd X ⟨1,t⟩)
 have hok:okS (vS X t).1=true:=by
  unfold Dk1 at h3
  split at h3
  ·rename_i e;rw [e];exact s3
  ·split at h3
   ·simp at h3
   ·rename_i h5
    rcases D93 c ht with ⟨h6,_⟩|⟨_,h6⟩
    ·exact absurd (.inl (by rw [h6];decide)) h5
    ·exact h6
 have hw:=(V9 c ht (Hh9 hok hg) ⟨hin.a,hin.b,hin.c,hin.d⟩).1
 (refine Ja ?_;intros)
 simp only [List.set_cons_succ,List.set_cons_zero]
 refine (?_:Tr (pt b2 (.cells A7 false (B7 (It1 (vS X t).1 g)))::_) _ _ _)
 generalize It1 (vS X t).1 g=p2 at *
 (refine Ja ?_;intros)
 refine Yc (Bs4 b k F X ok t p2) ?_;rintro _ h ⟨rfl,o⟩<;>refine Jh o ?_
 rw [hw]
 dsimp only
 (refine Ja ?_;intros)
 refine Yc (B11 true 0) ?_;rintro _ h ⟨rfl,o⟩<;>refine Jh o ?_
 rw [if_pos trivial]
 (refine Ja ?_;intros)
 refine Ys fun o=>?_
 exact ⟨rfl,o.sub⟩
def Dj6 (V:VW) (q:Int→ProcS→Bool):Nat→Int→List (Int × ProcS)
 | 0,_=>[]
 | m+1,i=>if (V.S i).2=1∧q i (V.S i).1=true then (i,(V.S i).1)::Dj6 V q m (i+1) else Dj6 V q m (i+1)
theorem See.slots {X V} (A:See X V) (q:Int→ProcS→Bool):∀ (m:Nat) (i:Int),0≤i→i+m≤8→I9 X q m i=Dj6 V q m i
 | 0,_,_,_=>rfl
 | m+1,i,h0,hm=>by rw [I9,Dj6,A.slots q m (i+1) (by omega) (by omega),A.s i (by omega)]
abbrev Bt7 (n:Int):Int:=2 ^ n.toNat
theorem I06 {P:Int→Prop} {n:Int} (h:1≤n∧n≤15) (h1:P 1) (h2:P 2) (h3:P 3) (h4:P 4) (h5:P 5) (h6:P 6) (h7:P 7) (h8:P 8) (h9:P 9) (h10:P 10) (h11:P 11) (h12:P 12) (h13:P 13) (h14:P 14) (h15:P 15):P n:=by
 have:n=1∨n=2∨n=3∨n=4∨n=5∨n=6∨n=7∨n=8∨n=9∨n=10∨n=11∨n=12∨n=13∨n=14∨n=15:=by omega
 rcases this with rfl|rfl|rfl|rfl|rfl|rfl|rfl|rfl|rfl|rfl|rfl|rfl|rfl|rfl|rfl<;>assumption
theorem Jt7 {n:Int} (h:1≤n∧n≤15):IntKind.wrap .i64 (1*2 ^ (min (IntKind.wrap .u64 n).toNat 64))=Bt7 n∧0≤IntKind.wrap .u64 n:=by
 refine I06 (P:=fun n=>IntKind.wrap .i64 (1*2 ^ (min (IntKind.wrap .u64 n).toNat 64))=Bt7 n∧0≤IntKind.wrap .u64 n) h ?_ ?_ ?_ ?_ ?_ ?_ ?_ ?_ ?_ ?_ ?_ ?_ ?_ ?_ ?_<;>exact ⟨by decide,by decide⟩
theorem Js4 {n:Int} (h:1≤n∧n≤15):BitVec.ofInt 64 (Bt7 n) &&& ~~~ BitVec.ofInt 64 65534=0#64:=by
 refine I06 (P:=fun n=>BitVec.ofInt 64 (Bt7 n) &&& ~~~ BitVec.ofInt 64 65534=0#64) h ?_ ?_ ?_ ?_ ?_ ?_ ?_ ?_ ?_ ?_ ?_ ?_ ?_ ?_ ?_<;>decide
theorem Jw4 (a b:Int):BitVec.ofInt 64 (Dv5 .i64 a b)=BitVec.ofInt 64 a ||| BitVec.ofInt 64 b:=by
 unfold Dv5;rw [Hj4];exact H31 _
theorem bv7 {x b m:BitVec 64} (h:x &&& ~~~ m=0#64) (h2:b &&& ~~~ m=0#64):(x ||| b) &&& ~~~ m=0#64:=by
 rw [show (x ||| b) &&& ~~~ m=(x &&& ~~~ m) ||| (b &&& ~~~ m) from ?_,h,h2];rfl
 apply BitVec.eq_of_getLsbD_eq;intro i hi
 simp only [BitVec.getLsbD_and,BitVec.getLsbD_or,BitVec.getLsbD_not]
 cases x.getLsbD i<;>cases b.getLsbD i<;>simp
theorem bv8 {x m:BitVec 64} (c:BitVec 64) (h:x &&& ~~~ m=0#64):(x &&& ~~~ c) &&& ~~~ m=0#64:=by
 rw [show (x &&& ~~~ c) &&& ~~~ m=(x &&& ~~~ m) &&& ~~~ c from ?_,h];simp
 apply BitVec.eq_of_getLsbD_eq;intro i hi
 simp only [BitVec.getLsbD_and,BitVec.getLsbD_not,decide_eq_true hi,Bool.true_and]
 cases x.getLsbD i<;>cases c.getLsbD i<;>cases m.getLsbD i<;>rfl
abbrev Dd2 (y:Int):Prop:=BitVec.ofInt 64 y &&& ~~~ BitVec.ofInt 64 65534=0#64
theorem Jm1 {y:Int} (h:B87 y 0=true):Dd2 y:=by
 unfold B87 at h
 simp only [Bool.and_eq_true,beq_iff_eq] at h
 unfold Dd2
 rw [← Jq3,h.1];rfl
theorem I50 {y:Int} (h:Dd2 y):B87 y 0=true:=by
 unfold B87
 rw [Jt2 h,Jr3 (by simp)];rfl
theorem H19 {x:BitVec 64} (h:Dd2 (IntKind.wrap .i64 x.toNat)):0≤IntKind.wrap .i64 (x.toNat:Int)∧IntKind.wrap .i64 (x.toNat:Int)≤65535:=by
 unfold Dd2 at h
 rw [Hj4,H31] at h
 have e:x=x &&& BitVec.ofInt 64 65534:=by
  apply BitVec.eq_of_getLsbD_eq;intro i hi
  have:=congrArg (fun z=>z.getLsbD i) h
  simp only [BitVec.getLsbD_and,BitVec.getLsbD_not,BitVec.getLsbD_zero,decide_eq_true hi,Bool.true_and] at this ⊢
  revert this
  generalize x.getLsbD i=u
  generalize (BitVec.ofInt 64 65534).getLsbD i=w
  cases u<;>cases w<;>decide
 have h2:x.toNat≤65534:=by
  rw [e,BitVec.toNat_and];exact Nat.and_le_right
 rw [B4];omega
theorem Jr4 {y n:Int} (h:Dd2 y) (hn:1≤n∧n≤15):Dd2 (Dv5 .i64 y (Bt7 n))∧0≤Dv5 .i64 y (Bt7 n)∧Dv5 .i64 y (Bt7 n)≤65535:=by
 have k:Dd2 (Dv5 .i64 y (Bt7 n)):=by unfold Dd2;rw [Jw4];exact bv7 h (Js4 hn)
 exact ⟨k,H19 k⟩
theorem Ix9 {y:Int} (h:Dd2 y) (c:Int):Dd2 (Au4 .i64 y c)∧0≤Au4 .i64 y c∧Au4 .i64 y c≤65535:=by
 have k:Dd2 (Au4 .i64 y c):=by unfold Dd2;rw [Jq3];exact bv8 _ h
 exact ⟨k,H19 k⟩
abbrev D10 (p:ProcS) (s n:Int):ProcS:=⟨s,p.parent,p.group,p.code,n,p.mask,p.ignored,p.caught,p.fds,p.len⟩
abbrev Dw5 (p:ProcS) (n:Int):Int:=if O1 .i64 p.ignored (Bt7 n)=0∨O1 .i64 (Bt7 n) 16896≠0 then Dv5 .i64 p.pending (Bt7 n) else p.pending
abbrev Gn4 (p:ProcS) (n:Int):Int:=if Bt7 n=32768 then Au4 .i64 (Dw5 p n) 16384 else if Bt7 n=16384 then Au4 .i64 (Dw5 p n) 32768 else Dw5 p n
abbrev st2 (p:ProcS) (n:Int):Int:=if (Bt7 n=512∨Bt7 n=32768)∧p.state=3 then 1 else p.state
abbrev Eb0 (p:ProcS) (n:Int):Prop:=(1≤n∧n≤15)∧(p.state=1∨p.state=3)
def Bx6 (p:ProcS) (n:Int):ProcS:=D10 p (st2 p n) (Gn4 p n)
theorem G22 {p:ProcS} (h:okS p=true) (r:InS p) {n:Int} (c:Eb0 p n):okS (Bx6 p n)=true∧InS (Bx6 p n):=by
 obtain ⟨hn,hs⟩:=c
 unfold okS at h
 rw [if_neg (by omega)] at h
 simp only [Bool.and_eq_true,Bool.not_eq_true',Bool.or_eq_false_iff,decide_eq_false_iff_not] at h
 obtain ⟨⟨⟨⟨⟨⟨⟨⟨a1,a2⟩,a3⟩,a4⟩,a5⟩,a6⟩,a7⟩,a8⟩,⟨⟨⟨⟨b1,b2⟩,b3⟩,b4⟩,b5⟩,d1,d2⟩:=h
 have i0:=Jm1 (by simpa using b1)
 have i1:Dd2 (Dw5 p n)∧0≤Dw5 p n∧Dw5 p n≤65535:=by
  unfold Dw5;split
  ·exact Jr4 i0 hn
  ·exact ⟨i0,r.a⟩
 have i2:Dd2 (Gn4 p n)∧0≤Gn4 p n∧Gn4 p n≤65535:=by
  unfold Gn4;split
  ·exact Ix9 i1.1 _
  ·split
   ·exact Ix9 i1.1 _
   ·exact i1
 have hst:st2 p n=1∨st2 p n=3:=by unfold st2;split<;>omega
 refine ⟨?_,⟨i2.2,r.b,r.c,r.d⟩⟩
 unfold okS
 rw [if_neg (show ¬ (Bx6 p n).state=2 by show ¬ st2 p n=2;omega)]
 simp only [Bool.and_eq_true,Bool.not_eq_true',Bool.or_eq_false_iff,decide_eq_false_iff_not]
 refine ⟨⟨⟨⟨⟨⟨⟨⟨?_,?_⟩,a3⟩,a4⟩,a5⟩,a6⟩,a7⟩,a8⟩,⟨⟨⟨⟨?_,b2⟩,b3⟩,b4⟩,b5⟩,d1,d2⟩
 ·show ¬ st2 p n<1;omega
 ·show ¬ st2 p n>3;omega
 ·show (!B87 (Gn4 p n) 0)=false;rw [I50 i2.1];rfl
theorem Iw1 (n:Int):Ct A6 E68 [int n] [] fun v own=>v=.bool (decide (1≤n∧n≤15))∧own []:=by
 refine Ct.of Jb3 rfl fun h r=>Tr.eq (Je4 ..) ?_;refine Je ?_
 by_cases h1:1≤n
 ·refine Yb (Yt (by simpa using h1) ?_)
  refine Ys fun o=>(?_:Tr _ _ _ _) o;refine Je ?_
  refine Ys fun o=>?_
  exact ⟨by rw [decide_eq_decide.2 (show n≤15↔1≤n∧n≤15 by omega)],o.sub⟩
 ·refine Yb (Yf (by simpa using h1) ?_)
  refine Ys fun o=>(?_:Tr _ _ _ _) o;refine Je ?_
  refine Ys fun o=>?_
  exact ⟨by rw [decide_eq_false (show ¬ (1≤n∧n≤15) by omega)],o.sub⟩
abbrev rs2 (p:ProcS) (b:Int):ProcS:=D10 p p.state (if b=32768 then Au4 .i64 p.pending 16384 else if b=16384 then Au4 .i64 p.pending 32768 else p.pending)
theorem Id0 (b0 b1:Nat) (p:ProcS) (b:Int):CtJ D6 Aa4 B22 [(2,P0 b0),(4,P0 b1),(6,int b)] [pt b0 (.cells A7 false (B7 p)),pt b1 (.cells A7 false Dx7)] fun v own=>v=.tuple ⟨[.agg ⟨B7 (rs2 p b)⟩,.bool true]⟩∧own []:=by
 obtain ⟨st,pa,gr,co,pe,ma,ig,ca,fds,len⟩:=p
 unfold rs2 D10
 dsimp only
 refine CtJ.of Eo8 fun h r=>Tr.eq (Hm3 ..) ?_;refine Je ?_
 by_cases h1:b=32768
 ·rw [if_pos h1]
  refine Yt (by simpa using h1) ?_
  (refine Jb ?_;intros)
  refine (?_:Tr (pt _ (.cells A7 false (B7 ⟨st,pa,gr,co,Au4 .i64 pe 16384,ma,ig,ca,fds,len⟩))::_) _ _ _)
  generalize hp2:(⟨st,pa,gr,co,Au4 .i64 pe 16384,ma,ig,ca,fds,len⟩:ProcS)=p2
  (refine Ja ?_;intros)
  refine Ys fun o=>?_
  exact ⟨rfl,o.sub⟩
 rw [if_neg h1]
 refine Yf (by simpa using h1) ?_
 by_cases h2:b=16384
 ·rw [if_pos h2]
  refine Yt (by simpa using h2) ?_
  (refine Jb ?_;intros)
  refine (?_:Tr (pt _ (.cells A7 false (B7 ⟨st,pa,gr,co,Au4 .i64 pe 32768,ma,ig,ca,fds,len⟩))::_) _ _ _)
  generalize hp2:(⟨st,pa,gr,co,Au4 .i64 pe 32768,ma,ig,ca,fds,len⟩:ProcS)=p2
  (refine Ja ?_;intros)
  refine Ys fun o=>?_
  exact ⟨rfl,o.sub⟩
 rw [if_neg h2]
 refine Yf (by simpa using h2) ?_
 generalize hp2:(⟨st,pa,gr,co,pe,ma,ig,ca,fds,len⟩:ProcS)=p2
 (refine Ja ?_;intros)
 refine Ys fun o=>?_
 exact ⟨rfl,o.sub⟩
abbrev rs1 (p:ProcS) (b:Int):ProcS:=D10 p (if (b=512∨b=32768)∧p.state=3 then 1 else p.state) p.pending
theorem Ih4 (b0 b1:Nat) (p:ProcS) (b:Int):CtJ D6 Aa4 Bh0 [(2,P0 b0),(4,P0 b1),(6,int b)] [pt b0 (.cells A7 false (B7 p)),pt b1 (.cells A7 false Dx7)] fun v own=>v=.tuple ⟨[.agg ⟨B7 (rs2 (rs1 p b) b)⟩,.bool true]⟩∧own []:=by
 have J:=Id0 b0 b1 (rs1 p b) b
 obtain ⟨st,pa,gr,co,pe,ma,ig,ca,fds,len⟩:=p
 generalize hq:rs2 (rs1 ⟨st,pa,gr,co,pe,ma,ig,ca,fds,len⟩ b) b=q2 at J ⊢
 unfold rs1 D10 at J
 dsimp only at J
 refine CtJ.of Eo8 fun h r=>Tr.eq (Hj7 ..) ?_;refine Je ?_
 refine Yb fun o=>Wp.mono (Q:=fun v h'=>v=decide (b=512∨b=32768)∧Own h' (pt b0 (.cells A7 false (B7 ⟨st,pa,gr,co,pe,ma,ig,ca,fds,len⟩))::pt b1 (.cells A7 false Dx7)::r)) ?_ ?_
 ·refine Jh o ?_
  by_cases h1:b=512
  ·refine Yt (by simpa using h1) ?_
   refine Ys fun o=>?_
   exact ⟨(decide_eq_true (.inl h1)).symm,o⟩
  ·refine Yf (by simpa using h1) ?_
   refine Ys fun o=>?_
   exact ⟨by rw [Bool.eq_iff_iff,beq_iff_eq,decide_eq_true_iff];exact ⟨.inr,fun h=>h.elim (fun h=>absurd h h1) id⟩,o⟩
 rintro v h ⟨rfl,o⟩
 refine Jh o ?_
 refine Yb fun o=>Wp.mono (Q:=fun v h'=>v=decide ((b=512∨b=32768)∧st=3)∧Own h' (pt b0 (.cells A7 false (B7 ⟨st,pa,gr,co,pe,ma,ig,ca,fds,len⟩))::pt b1 (.cells A7 false Dx7)::r)) ?_ ?_
 ·refine Jh o ?_
  by_cases h1:b=512∨b=32768
  ·refine Yt (decide_eq_true h1) ?_
   (refine Jb ?_;intros)
   refine Ys fun o=>?_
   exact ⟨by rw [Bool.eq_iff_iff,beq_iff_eq,decide_eq_true_iff];exact ⟨fun h=>⟨h1,h⟩,fun h=>h.2⟩,o⟩
  ·refine Yf (decide_eq_false h1) ?_
   refine Ys fun o=>?_
   exact ⟨(decide_eq_false fun h=>h1 h.1).symm,o⟩
 rintro v h ⟨rfl,o⟩
 refine Jh o ?_
 by_cases h1:(b=512∨b=32768)∧st=3
 ·rw [if_pos h1] at J
  refine Yt (decide_eq_true h1) ?_
  (refine Jb ?_;intros)
  refine (?_:Tr (pt _ (.cells A7 false (B7 ⟨1,pa,gr,co,pe,ma,ig,ca,fds,len⟩))::_) _ _ _)
  exact Yr J fun v h q=>q
 ·rw [if_neg h1] at J
  refine Yf (decide_eq_false h1) ?_
  exact Yr J fun v h q=>q
theorem Jb7 (p:ProcS) (n:Int):Ct A6 Aa4 [.agg ⟨B7 p⟩,int n] [] fun v own=>v=.tuple ⟨[.agg ⟨B7 (if Eb0 p n then Bx6 p n else p)⟩,.bool (decide (Eb0 p n))]⟩∧own []:=by
 refine Ct.of Eo8 rfl fun h r=>Tr.eq (Ih1 ..) ?_;refine Je ?_
 refine Yn fun b0 h=>?_
 refine Yn fun b1 h=>?_
 refine Yc (Iw1 n) ?_;rintro _ h ⟨rfl,o⟩<;>refine Jh o ?_
 (refine Jb ?_;intros)
 refine Yb fun o=>Wp.mono (Q:=fun v h'=>v=!decide (Eb0 p n)∧Own h' (pt b1 (.cells A7 false Dx7)::pt b0 (.cells A7 false (B7 p))::r)) ?_ ?_
 ·refine Jh o ?_
  by_cases hn:1≤n∧n≤15
  case neg =>
   refine Yt (by rw [decide_eq_false hn];rfl) ?_
   refine Ys fun o=>?_
   exact ⟨by rw [decide_eq_false (fun h=>hn h.1)];rfl,o⟩
  refine Yf (by rw [decide_eq_true hn];rfl) ?_
  (refine Jb ?_;intros)
  by_cases h1:p.state=1
  ·refine Yb (Yf (by rw [h1];rfl) ?_)
   refine Ys fun o=>(?_:Tr _ _ _ _) o;refine Je ?_
   refine Ys fun o=>?_
   exact ⟨by rw [decide_eq_true ⟨hn,.inl h1⟩];rfl,o⟩
  ·refine Yb (Yt (by simpa using h1) ?_)
   (refine Jb ?_;intros)
   refine Ys fun o=>(?_:Tr _ _ _ _) o;refine Je ?_
   refine Ys fun o=>?_
   refine ⟨?_,o⟩
   rw [Bool.eq_iff_iff,Bool.not_eq_true',decide_eq_false_iff_not,bne_iff_ne]
   exact ⟨fun h k=>k.2.elim h1 h,fun h k=>h ⟨hn,.inr k⟩⟩
 rintro v h ⟨rfl,o⟩
 refine Jh o ?_
 by_cases hc:Eb0 p n
 case neg =>
  rw [if_neg hc,decide_eq_false hc]
  refine Yt rfl ?_
  (refine Ja ?_;intros)
  refine Ys fun o=>?_
  exact ⟨rfl,o.sub⟩
 rw [if_pos hc,decide_eq_true hc]
 refine Yf rfl ?_
 obtain ⟨e1,e2⟩:=Jt7 hc.1
 rw [e1]
 refine Tr.ck e2 ?_
 have J:CtJ D6 Aa4 Bh0 [(2,P0 b0),(4,P0 b1),(6,int (Bt7 n))] [pt b0 (.cells A7 false (B7 (D10 p p.state (Dw5 p n)))),pt b1 (.cells A7 false Dx7)] fun v own=>v=.tuple ⟨[.agg ⟨B7 (Bx6 p n)⟩,.bool true]⟩∧own []:=Ih4 b0 b1 (D10 p p.state (Dw5 p n)) (Bt7 n)
 generalize Bx6 p n=p2 at *
 unfold D10 Dw5 at J
 generalize Bt7 n=b at *
 obtain ⟨st,pa,gr,co,pe,ma,ig,ca,fds,len⟩:=p
 dsimp only at J
 (refine Jb ?_;intros)
 refine Yb fun o=>Wp.mono (Q:=fun v h'=>v=decide (O1 .i64 ig b=0∨O1 .i64 b 16896≠0)∧Own h' (pt b1 (.cells A7 false Dx7)::pt b0 (.cells A7 false (B7 ⟨st,pa,gr,co,pe,ma,ig,ca,fds,len⟩))::r)) ?_ ?_
 ·refine Jh o ?_
  by_cases h1:O1 .i64 ig b=0
  ·refine Yt (by simpa using h1) ?_
   refine Ys fun o=>?_
   exact ⟨(decide_eq_true (.inl h1)).symm,o⟩
  ·refine Yf (by simpa using h1) ?_
   refine Ys fun o=>?_
   exact ⟨by rw [Bool.eq_iff_iff,bne_iff_ne,decide_eq_true_iff];exact ⟨.inr,fun h=>h.elim (fun h=>absurd h h1) id⟩,o⟩
 rintro v h ⟨rfl,o⟩
 refine Jh o ?_
 by_cases h1:O1 .i64 ig b=0∨O1 .i64 b 16896≠0
 ·rw [if_pos h1] at J
  refine Yt (decide_eq_true h1) ?_
  (refine Jb ?_;intros)
  refine (?_:Tr (_::pt _ (.cells A7 false (B7 ⟨st,pa,gr,co,Dv5 .i64 pe b,ma,ig,ca,fds,len⟩))::_) _ _ _)
  exact Yr J fun v h q=>q
 ·rw [if_neg h1] at J
  refine Yf (decide_eq_false h1) ?_
  exact Yr J fun v h q=>q
theorem Hy7 {β:Type} {a b:Bool} {h:NN.H} {K:Bool→NN.H→Option (β × NN.H)}:bnd (cond a (some (true,h)) (some (b,h))) K=K (a || b) h:=by cases a<;>rfl
theorem Ii2 (bi:Nat) (t:Int) (ht:0≤t∧t≤15) (j:Int) (p:ProcS):Ct A6 A40 [.agg ⟨int j::B7 p⟩,P0 bi] [pt bi (.cells A8 false [int t])] fun v own=>v=.bool (inG (t-8) j p)∧own [pt bi (.cells A8 false [int t])]:=by
 have e1:IntKind.wrap .i64 (t-8)=t-8:=by rw [B4];omega
 refine Ct.of G45 rfl fun h r=>Tr.eq (G16 ..) ?_;refine Je ?_
 refine Yn fun b h=>?_
 (refine Ja ?_;intros)
 refine Yc (Ez2 j p) ?_;rintro _ h ⟨rfl,o⟩<;>refine Jh o ?_
 (refine Jb ?_;intros)
 by_cases h2:p.state=2
 ·refine Yb (Yf (by simpa using h2) ?_)
  refine Ys fun o=>(?_:Tr _ _ _ _) o;refine Je ?_
  refine Ys fun o=>?_
  exact ⟨by rw [show inG (t-8) j p=false by unfold inG;simp [h2]],o.sub⟩
 ·refine Yb (Yt (by simpa using h2) ?_)
  (refine Jb ?_;intros)
  refine Ys fun o=>(?_:Tr _ _ _ _) o;refine Je ?_
  refine Ys fun o=>?_
  rw [e1]
  exact ⟨by rw [show inG (t-8) j p=(p.group==t-8) by unfold inG;simp [h2]],o.sub⟩
def B24 (X:CX) (t:Int):List (Int × ProcS):=if t≥8 then I9 X (inG (t-8)) 8 0 else if (vS X t).2=0 then [] else [(t,(vS X t).1)]
theorem Gc9 {X:CX} (q:Int→ProcS→Bool):∀ (m:Nat) (i:Int),∀ s ∈ I9 X q m i,InS s.2
 | 0,i,s,hs=>by simp [I9] at hs
 | m+1,i,s,hs=>by
  rw [I9] at hs
  split at hs
  ·rcases List.mem_cons.1 hs with rfl|h2
   ·exact Ar9 _
   ·exact Gc9 q m (i+1) s h2
  ·exact Gc9 q m (i+1) s hs
theorem H52 {nc:Nat} {X:CX} (c:Clean nc X) {t:Int} (ht:0≤t∧t≤15):∀ s ∈ B24 X t,(0≤s.1∧s.1<8)∧okS s.2=true∧InS s.2:=by
 intro s hs
 unfold B24 at hs
 split at hs
 ·obtain ⟨h1,h2,h3⟩:=D86 c _ 8 0 (by omega) (by omega) s hs
  exact ⟨⟨h1,h2⟩,h3,Gc9 _ 8 0 s hs⟩
 ·split at hs
  ·cases hs
  ·rename_i h8 h0
   rw [List.mem_singleton] at hs
   subst hs
   refine ⟨⟨ht.1,by simp only;omega⟩,?_,Ar9 _⟩
   rcases D93 c (i:=t) (by omega) with ⟨h1,_⟩|⟨_,h2⟩
   ·exact absurd h1 h0
   ·exact h2
theorem Im7 (b k:Nat) (F:Fr) (X:CX) (ok:FrOk F) {nc:Nat} (c:Clean nc X) (t:Int) (ht:0≤t∧t≤15):Ct A6 B31 [P0 b,int t] [cmC b k F X] fun v own=>∃ a ac,v=.tuple ⟨[.slice a (B24 X t).length ac,int (if (B24 X t).length=0 then 103 else 0)]⟩∧own [slC false G9 17 a (B24 X t).length ac ((B24 X t).flatMap A63),cmC b k F X]:=by
 have hk:t<8→(vS X t).2=0∨(vS X t).2=1:=fun h=>by
  rcases D93 c (i:=t) (by omega) with ⟨h1,_⟩|⟨h1,_⟩
  ·exact .inl h1
  ·exact .inr h1
 unfold B24
 refine Ct.of Hi4 rfl fun h r=>Tr.eq (Hg3 ..) ?_;refine Je ?_
 refine Yn fun bi h=>?_
 (refine Jb ?_;intros)
 by_cases h8:t≥8
 ·rw [if_pos h8]
  refine Yt (decide_eq_true h8) ?_
  refine Yc (E50 b k F X ok c (pt bi (.cells A8 false [int t])) A40 [P0 bi] (inG (t-8)) (fun j p=>Ii2 bi t ht j p)) ?_;rintro _ h ⟨a,ac,rfl,o⟩<;>refine Jh o ?_
  (refine Jb ?_;intros)
  by_cases hz:(I9 X (inG (t-8)) 8 0).length=0
  ·refine Yt (by simp [hz]) ?_
   refine Ys fun o=>?_
   have e:I9 X (inG (t-8)) 8 0=[]:=List.eq_nil_of_length_eq_zero hz
   rw [e]
   exact ⟨none,0,rfl,o.sub.slNil false G9 (by omega)⟩
  ·refine Yf (by simpa using hz) ?_
   refine Ys fun o=>?_
   rw [if_neg hz]
   exact ⟨a,ac,rfl,o.sub⟩
 rw [if_neg h8]
 refine Yf (decide_eq_false h8) ?_
 (refine Jb ?_;intros)
 refine Yc (Bd1 b k F X ok t) ?_;rintro _ h ⟨rfl,o⟩<;>refine Jh o ?_
 rw [At9 c (by omega)]
 dsimp only
 generalize (vS X t).1=p at *
 generalize (vS X t).2=st at *
 (refine Jc ?_;intros)
 refine Yn fun b1 h=>?_
 (refine Jb ?_;intros)
 rcases hk (by omega) with h1|h1
 ·rw [if_pos h1]
  refine Yt (by simpa using h1) ?_
  refine Ys fun o=>?_
  exact ⟨none,0,rfl,o.sub.slNil false G9 (by omega)⟩
 ·rw [if_neg (by omega)]
  refine Yf (by rw [h1];rfl) ?_
  refine Yf (by rw [h1];rfl) ?_
  (refine Jb ?_;intros)
  refine Tr.ck (by rw [List.append_nil];exact Ad2 t p) ?_
  refine Yn fun b2 h=>?_
  rw [List.append_nil,List.append_nil]
  refine Ah3 0 rfl 17 1 (by rw [Ad2]) (by omega) ?_
  refine (?_:Tr (slC false G9 17 (some ⟨b2,0,none⟩) 1 1 (int t::B7 p)::_::cmC b k F X::_) _ _ _)
  refine Ys fun o=>?_
  refine ⟨some ⟨b2,0,none⟩,1,rfl,?_⟩
  rw [show List.flatMap A63 [(t,p)]=int t::B7 p from List.append_nil _,show [(t,p)].length=1 from rfl]
  exact o.sub
def Dw9 (X:CX) (n:Int):List (Int × ProcS)→CX
 | []=>X
 | s::l=>Dw9 (if Eb0 s.2 n then A76 X s.1 (Bx6 s.2 n) else X) n l
def H74 (L:List (Int × ProcS)):Prop:=∀ s ∈ L,(0≤s.1∧s.1<8)∧okS s.2=true∧InS s.2
instance {j:Int} {p:ProcS}:PartC (int j::B7 p) 1 16 (B7 p):=⟨by
 unfold B89
 rw [Nat.ble_eq_true_of_le (by rw [Ad2];omega),List.drop_succ_cons,List.drop_zero,List.take_of_length_le (by rw [Aj4];omega)];rfl⟩
theorem Iv0 (b k:Nat) (F:Fr) (ok:FrOk F) {nc:Nat} (n:Int) (b4:Nat) (L:List (Int × ProcS)) (hL:H74 L) (h8:L.length≤8) (a:Option Addr) (ac:Nat):∀ (m i:Nat) (X:CX),Clean nc X→i+m=L.length →
  CtJ D6 Am5 B20 [(0,P0 b),(3,int n),(8,P0 b4),(53,.slice a L.length ac),(54,int L.length),(55,int i)] [slC false G9 17 a L.length ac (L.flatMap A63),pt b4 (.cells Ag9 false Iv6),cmC b k F X] fun v own =>
   v=.agg ⟨M7 0 0 false⟩∧own [cmC b k F (Dw9 X n (L.drop i))]:=by
 intro m
 induction m with
 | zero =>
  intro i X c hi
  rw [show L.drop i=[] from List.drop_eq_nil_of_le (by omega),show Dw9 X n []=X from rfl]
  refine CtJ.of Dx4 fun h r=>Tr.eq (Es6 ..) ?_;refine Je ?_
  refine Yf (by simp;omega) ?_
  (refine Ja ?_;intros)
  refine Ys fun o=>?_
  exact ⟨rfl,o.sub⟩
 | succ m ih =>
  intro i X c hi
  have hil:i<L.length:=by omega
  have e1:=wN i
  have hg:L[i]?=some L[i]:=List.getElem?_eq_getElem hil
  have hd:L.drop i=L[i]::L.drop (i+1):=List.drop_eq_getElem_cons hil
  obtain ⟨r1,r2,r3⟩:=hL _ (List.getElem_mem hil)
  rw [hd]
  generalize L[i]=s at hg r1 r2 r3
  obtain ⟨j,p⟩:=s
  simp only at r1 r2 r3
  rw [show Dw9 X n ((j,p)::L.drop (i+1))=Dw9 (if Eb0 p n then A76 X j (Bx6 p n) else X) n (L.drop (i+1)) from rfl]
  have hpart:=Af8 (f:=A63) (k:=17) (fun x=>Ad2 x.1 x.2) hg
  have hlen:=N1 (f:=A63) (k:=17) (fun x=>Ad2 x.1 x.2) L
  refine CtJ.of Dx4 fun h r=>Tr.eq (Es6 ..) ?_;refine Je ?_
  refine Yt (by simp;omega) ?_
  rw [e1]
  refine S5 0 rfl fun h1 h2 h3=>?_
  (refine Jc ?_;intros;repeat(refine Gw ?_;rintro px rfl;refine Jc ?_;intros))
  rw [Int.toNat_natCast]
  refine Tr.xAggS (xs:=int j::B7 p) ⟨by omega,by omega,hpart⟩ ?_
  refine Yn fun b2 h=>?_
  (refine Ja ?_;intros)
  refine Yc (Jb7 p n) ?_;rintro _ h ⟨rfl,o⟩<;>refine Jh o ?_
  by_cases hc:Eb0 p n
  ·obtain ⟨k1,k2⟩:=G22 r2 r3 hc
   obtain ⟨w1,w2,_⟩:=V9 c r1 k1 k2
   rw [if_pos hc,if_pos hc,decide_eq_true hc]
   generalize Bx6 p n=p2 at *
   (refine Jc ?_;intros)
   refine Yn fun b3 h=>?_
   (refine Jb ?_;intros)
   refine Yb (Yt rfl ?_)
   (refine Jb ?_;intros)
   refine Yc (Bs4 b k F X ok j p2) ?_;rintro _ h ⟨rfl,o⟩<;>refine Jh o ?_
   rw [w1]
   dsimp only
   (refine Jb ?_;intros)
   refine Ys fun o=>(?_:Tr _ _ _ _) o;refine Je ?_
   refine Yf rfl ?_
   refine B9 [3,3,0] 2 rfl rfl ?_
   exact Yr (ih (i+1) _ w2 (by omega)) fun v h q=>q
  ·rw [if_neg hc,if_neg hc,decide_eq_false hc]
   (refine Jc ?_;intros)
   refine Yn fun b3 h=>?_
   (refine Jb ?_;intros)
   refine B9 [2,2,2] 2 rfl rfl ?_
   exact Yr (ih (i+1) _ c (by omega)) fun v h q=>q
def Hd1 (X:CX) (i t n:Int):List Value × CX :=
 if (H7 X i).2≠0 then (M7 0 (H7 X i).2 false,X)
 else if t<0∨t>15∨n<0∨n>15 then (M7 0 122 false,X)
 else if (B24 X t).length=0 then (M7 0 103 false,X)
 else (M7 0 0 false,Dw9 X n (B24 X t))
theorem Iw8 {X:CX} {t:Int}:(B24 X t).length≤8:=by
 unfold B24;split
 ·exact D75 X _ 8 0
 ·split<;>simp
theorem Jo3 (b k:Nat) (F:Fr) (X:CX) (ok:FrOk F) {nc:Nat} (c:Clean nc X) (i t n:Int) (hi:0≤i∧i<8):Ct A6 Am5 [P0 b,int i,int t,int n] [cmC b k F X] fun v own=>v=.agg ⟨(Hd1 X i t n).1⟩∧own [cmC b k F (Hd1 X i t n).2]:=by
 unfold Hd1
 refine Ct.of Dx4 rfl fun h r=>Tr.eq (Gw6 ..) ?_;refine Je ?_
 refine Yn fun b0 h=>?_
 refine Yc (Ea4 b k F X ok c i hi) ?_;rintro _ h ⟨rfl,o⟩<;>refine Jh o ?_
 (refine Jc ?_;intros)
 refine Yn fun b1 h=>?_
 (refine Jb ?_;intros)
 by_cases h0:(H7 X i).2=0
 case neg =>
  rw [if_pos h0]
  refine Yt (by simpa using h0) ?_
  refine Yc (Ac2 (H7 X i).2) ?_;rintro _ h ⟨rfl,o⟩<;>(refine Jf o ?_;intros)
  refine Ys fun o=>?_
  exact ⟨rfl,o.sub⟩
 rw [if_neg (by simpa using h0)]
 refine Yf (by simpa using h0) ?_
 rw [Hy7,Hy7,Hy7]
 rw [show (((decide (t<0) || decide (t>15)) || decide (n<0)) || decide (n>15))=decide (t<0∨t>15∨n<0∨n>15) by rw [Bool.decide_or,Bool.decide_or,Bool.decide_or,Bool.or_assoc,Bool.or_assoc]]
 by_cases h2:t<0∨t>15∨n<0∨n>15
 ·rw [if_pos h2,decide_eq_true h2]
  refine Yt rfl ?_
  refine Yc (Ac2 122) ?_;rintro _ h ⟨rfl,o⟩<;>(refine Jf o ?_;intros)
  refine Ys fun o=>?_
  exact ⟨rfl,o.sub⟩
 rw [if_neg h2,decide_eq_false h2]
 refine Yf rfl ?_
 refine Yc (Im7 b k F X ok c t (by omega)) ?_
 rintro _ h ⟨a,ac,rfl,o⟩
 refine Jh o ?_
 have hm:=H52 c (t:=t) (by omega)
 have hl8:=Iw8 (X:=X) (t:=t)
 generalize B24 X t=L at *
 (refine Jb ?_;intros)
 by_cases h3:L.length=0
 ·rw [if_pos h3,if_pos h3]
  refine Yt rfl ?_
  refine Yc (Ac2 103) ?_;rintro _ h ⟨rfl,o⟩<;>(refine Jf o ?_;intros)
  refine Ys fun o=>?_
  exact ⟨rfl,o.sub⟩
 rw [if_neg h3,if_neg h3]
 refine Yf rfl ?_
 refine B9 [0,2,0] 1 rfl rfl ?_
 exact Yr (Iv0 b k F ok n b0 L hm hl8 a ac L.length 0 X c (Nat.zero_add _)) fun v h q=>q
def Il9 (V:VW) (n:Int):List (Int × ProcS)→VW
 | []=>V
 | s::l=>Il9 (if Eb0 s.2 n then wS V s.1 (Bx6 s.2 n) else V) n l
theorem See.kill {n:Int}:∀ (L:List (Int × ProcS)) {X:CX} {V:VW},H74 L→See X V→See (Dw9 X n L) (Il9 V n L)
 | [],X,V,_,A=>A
 | s::l,X,V,h,A=>by
  obtain ⟨h1,h2,h3⟩:=h s (by simp)
  rw [Dw9,Il9]
  refine See.kill l (fun x hx=>h x (by simp [hx])) ?_
  by_cases hc:Eb0 s.2 n
  ·obtain ⟨r1,r2⟩:=G22 h2 h3 hc
   rw [if_pos hc,if_pos hc];exact A.ws h1 r1 r2
  ·rw [if_neg hc,if_neg hc];exact A
end Go.EQ
