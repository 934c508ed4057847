/- Honest calls on descriptors, and of processes, keep sound commons sound; no conditions. -/
import Derived.Test.YtoegoalficgneaaGreatMh
import Derived.KernelRfl
set_option linter.all false
set_option maxRecDepth 10000
namespace Go.EQ
open Go Go.NN
theorem Hb6 (k:Nat) (S:KS) (A:KA):CtP A5 Az4 [P0 k] [pt k (.cells Dy9 false (E52 S A))] (P0 A.s):=by
 refine CtP.of Gt9 rfl fun h r=>Tr.eq (Gv3 ..) ?_;refine Je ?_
 exact Jz
theorem Jo3 (k:Nat) (S:KS) (N:Nat) (ok:KOk N S) (env:Int):Ct A5 Dc0 [P0 k,int env] [E8 k S] fun v own =>
  (Bj4 S.tabs env≠[]∧∃ c,v=.tuple ⟨[P0 c,int 0]⟩∧own [R0 c k env (Bj4 S.tabs env) [],E8 k S])∨(Bj4 S.tabs env=[]∧v=.tuple ⟨[.pointer none,int 1]⟩∧own [E8 k S]):=by
 refine Ct.of Hw7 rfl fun h r=>Tr.eq (Hx9 ..) ?_;refine Je ?_
 refine B5 (E8 k S) fun ⟨m,s,q,rg,ea,ec,ma,mc,ms,sa,sc,ss⟩=>?_;refine Je ?_
 (refine Jb ?_;intros)
 refine Yb (Yf rfl ?_)
 refine Tr.pcall (Hb6 k S ⟨m,s,q,rg,ea,ec,ma,mc,ms,sa,sc,ss⟩) ?_;refine Je ?_;(refine Ja ?_;intros)
 try dsimp only
 refine Yc (Hi3 s S.tabs env ok.space) ?_;rintro _ h ⟨a0,c0,rfl,o⟩<;>refine Jh o ?_
 (refine Ja ?_;intros)
 refine Ys fun o=>(?_:Tr _ _ _ _) o;refine Je ?_
 by_cases hz:Bj4 S.tabs env=[]
 ·refine Yt (by simp [hz]) ?_
  refine B4 (E8 k S) ⟨m,s,q,rg,ea,ec,ma,mc,ms,sa,sc,ss⟩ ?_;refine Je ?_
  refine Ys fun o=>?_
  exact .inr ⟨hz,rfl,o.sub⟩
 ·refine Yf ?_ ?_
  ·rw [beq_eq_false_iff_ne]
   intro h0
   exact hz (List.eq_nil_of_length_eq_zero (by omega))
  refine Tr.pcall (Hb6 k S ⟨m,s,q,rg,ea,ec,ma,mc,ms,sa,sc,ss⟩) ?_;refine Je ?_;(refine Ja ?_;intros)
  try dsimp only
  refine Yc (Hi3 s S.tabs env ok.space) ?_;rintro _ h ⟨a1,c1,rfl,o⟩<;>refine Jh o ?_
  (refine Jc ?_;intros)
  refine Yn fun mb h=>?_
  refine Yn fun c h=>?_
  refine B4 (E8 k S) ⟨m,s,q,rg,ea,ec,ma,mc,ms,sa,sc,ss⟩ ?_;refine Je ?_
  refine G1 (R0 c k env (Bj4 S.tabs env) []) (a1,c1,mb) [1,2,1] rfl ?_;refine Je ?_
  refine Ys fun o=>?_
  exact .inl ⟨hz,c,rfl,o.sub⟩
def Bn4:PlanS:=⟨[false,false],[(0,1),(1,0)],5⟩
theorem Ji3:Ct A5 Dj5 [] [] fun v own=>∃ A,v=.agg ⟨Gs9 Bn4 A⟩∧own (D79 Bn4 A):=by
 refine Ct.of Ie3 rfl fun h r=>Tr.eq (Id3 ..) ?_;refine Je ?_
 (refine Jc ?_;intros;rename H=>h)
 refine Yn fun b h=>?_
 refine Yn fun b1 h=>?_
 refine Yn fun b2 h=>?_
 (refine Ja ?_;intros;rename H=>h)
 refine Ai1 0 rfl 2 2 rfl (by omega) ?_
 refine Ai1 1 rfl 1 2 rfl (by omega) ?_
 refine Je ?_
 refine Ys fun o=>?_
 exact ⟨⟨some ⟨b1,0,none⟩,2,some ⟨b2,0,none⟩,2⟩,rfl,(show Own h (slC false Dn4 2 (some ⟨b2,0,none⟩) Bn4.brs.length 2 (Bn4.brs.flatMap brL)::slC false Hi8 1 (some ⟨b1,0,none⟩) Bn4.bad.length 2 (Bn4.bad.map Value.bool)::_) from o).sub⟩
def Ar6:BootS:=Gm6 Bn4
theorem H07:B84 Ar6=true:=by kernel_rfl
theorem Gx8:Small Ar6:=by
 have e:Ar6=⟨[20,20],[0,0,0,0,0,0,0,0,0,1,1,1,1,1,1,1,1,1],[[0],[1]],5,[⟨0,0,0,492,[0]⟩,⟨1,0,0,492,[1]⟩,⟨0,8,0,40,[0,1]⟩,⟨1,9,0,40,[1,0]⟩]⟩:=by kernel_rfl
 rw [e]
 exact ⟨by simp [A7],by simp [A7],by simp [A7]⟩
theorem Dg0:Ar6=⟨[20,20],[0,0,0,0,0,0,0,0,0,1,1,1,1,1,1,1,1,1],[[0],[1]],5,[⟨0,0,0,492,[0]⟩,⟨1,0,0,492,[1]⟩,⟨0,8,0,40,[0,1]⟩,⟨1,9,0,40,[1,0]⟩]⟩:=by kernel_rfl
theorem Jo4:RBoot Ar6 (At2 Ar6.frames):=by
 rw [Dg0]
 refine ⟨by simp,by simp,by simp,fun x hx=>?_,fun x hx=>?_⟩
 ·simp only [List.mem_cons,List.not_mem_nil,or_false] at hx
  rcases hx with rfl|rfl|rfl|rfl<;>simp [A7]
 ·simp only [List.mem_cons,List.not_mem_nil,or_false] at hx
  rcases hx with rfl|rfl|rfl|rfl<;>simp [At2]
def S00:KS:=Et0 Ar6
theorem H11:KOk 0 S00:=Js5 H07 Gx8
def wrS (S:KS) (cap:Int) (b:List UInt8):KS:=(Ag7 S 0 ⟨2,cap,0,0,0,0,b⟩).2
def S0:KS:=wrS S00 256 Ak6
theorem J24:(Ag7 S00 0 ⟨2,256,0,0,0,0,Ak6⟩).1.1=0:=by kernel_rfl
theorem Jm3:Bj4 S00.tabs 0=[256,257,258]:=by kernel_rfl
def wrR (K:RKS) (cap:Int) (b:List UInt8):RKS:={ K with R:=(As1 K.R 0 cap 0 b).2 }
def K0:RKS:=wrR (D48 Ar6) 256 Ak6
theorem Eu4:RKOk (D48 Ar6)∧(D48 Ar6).B=Ar6:=Jr4 (by rw [Dg0];simp) (by rw [Dg0];simp)
theorem Hc8 {K:RKS} (k:RKOk K) (cap:Int) (b:List UInt8):RKOk (wrR K cap b):=Jt1 k 0 cap 0 b
theorem Ji1:Dl6 K0 0≠[]:=by
 have:Dl6 K0 0=[256,257,258]:=by kernel_rfl
 rw [this];simp
theorem Aj4:Ak6.length=492:=by kernel_rfl
theorem Ed4 {l:List HP} {h:H} {α:Type} {Q:α→H→Prop} {x:Option (α × H)} (i:Nat) {b n:Nat} {cs:List Value} (hi:l[i]?=some (pt b (.cells A3 false cs))) (hn:cs.length=n) (t:Tr (l.set i (slC false A3 1 (some (P4 b)) n n cs)) h x Q):Tr l h x Q:=fun o=>by
 refine t (Own.back (h:=h) hi ?_)
 have o1:=o.front hi
 refine Own.slShut (pre:=[]) (post:=[]) (by simpa using o1) ⟨by omega,Nat.le_refl _,by simp,by simp,by simp,by omega,by simp⟩
theorem Jt0 (A:PlA):Ct A5 B19 [.agg ⟨Gs9 Bn4 A⟩] (D79 Bn4 A) fun v own =>
  ∃ k c w m,v=.tuple ⟨[P0 k,P0 c,P0 w,P0 m]⟩∧own [E8 k S0,R0 c k 0 [256,257,258] [],rkC w K0,rcC m w 0 (Dl6 K0 0) []]:=by
 have hB:Gm6 Bn4=Ar6:=rfl
 obtain ⟨ba,bc,ra,rc⟩:=A
 refine Ct.of H35 rfl fun h r=>Tr.eq (H53 ..) ?_;refine Je ?_
 refine Yn fun b0 h=>?_
 (refine Ja ?_;intros)
 refine Yc (Ju5 Bn4 ⟨ba,bc,ra,rc⟩ (by simp [Bn4]) (by simp [Bn4])) ?_;rintro _ h ⟨A,kA,rfl,o⟩<;>refine Jh o ?_
 rw [hB] at kA ⊢
 obtain ⟨fa,fc,ea,ec,sa,sc,ss,ha,hc,hs⟩:=A
 (refine Jc ?_;intros)
 refine Yn fun b1 h=>?_
 (refine Ja ?_;intros)
 have J:=Jz8 false Ar6 ⟨fa,fc,ea,ec,sa,sc,ss,ha,hc,hs⟩ kA Gx8
 simp only [H07,if_true] at J
 refine Yc (J) ?_;rintro _ h ⟨k,rfl,o⟩<;>refine Jh o ?_
 (refine Jb ?_;intros)
 refine Yb (Yf rfl ?_)
 refine Ys fun o=>(?_:Tr _ _ _ _) o;refine Je ?_
 refine Yf rfl ?_
 (refine Ja ?_;intros)
 refine Yc (Ij1 Ar6 ⟨fa,fc,ea,ec,sa,sc,ss,ha,hc,hs⟩ kA (by rw [Dg0];simp) Jo4) ?_;rintro _ h ⟨w,rfl,o⟩<;>refine Jh o ?_
 (refine Ja ?_;intros)
 refine Yc (Jo3 k (Et0 Ar6) 0 H11 0) ?_
 rintro v h (⟨hz,c,rfl,o⟩|⟨hz,rfl,o⟩)
 case inr=>exact absurd hz (by rw [show Et0 Ar6=S00 from rfl,Jm3];simp)
 rw [show Et0 Ar6=S00 from rfl,Jm3] at o
 refine (?_:Tr _ _ _ _) o
 refine Je ?_
 (refine Jb ?_;intros)
 refine Yb (Yf rfl ?_)
 refine Ys fun o=>(?_:Tr _ _ _ _) o;refine Je ?_
 refine Yf rfl ?_
 refine Yc (Hs7) ?_;rintro _ h ⟨rfl,o⟩<;>refine Jh o ?_
 (refine Jc ?_;intros)
 refine Tr.ck (by rw [Bk7,Aj4];simp [A7]) ?_
 rw [Bk7,Aj4]
 refine Yn fun b2 h=>?_
 refine Ed4 (n:=492) 0 rfl (by rw [Ad2,show (bs Ak6).data.toList=Ak6 from rfl,Aj4]) ?_
 refine Je ?_
 have J2:=Ew7 k S00 0 H11 (by omega) 0 ⟨2,256,0,0,0,0,Ak6⟩ (some (P4 b2)) 492 false (show ((2:Int)≠5) by decide)
 simp only [Aj4] at J2
 refine Dg5 J2 [2,0] rfl ?_
 rintro _ h ⟨y,d,rfl,o⟩
 rw [J24]
 rw [show (Ag7 S00 0 ⟨2,256,0,0,0,0,Ak6⟩).2=S0 from rfl] at o
 refine (?_:Tr _ _ _ _) o
 refine Je ?_
 (refine Jc ?_;intros)
 refine Yf rfl ?_
 refine Tr.ck (by simp [A7]) ?_
 refine Yn fun b3 h=>?_
 refine Ed4 (n:=492) 0 rfl (by rw [Ad2,Aj4]) ?_
 refine Je ?_
 have J3:=Gq1 w (D48 Ar6) Eu4.1 0 (by rw [Eu4.2,Dg0];simp) ⟨2,256,0,0,0,0,Ak6⟩ rfl (by rw [Aj4];simp [A7]) (slC false A3 1 (some (P4 b3)) Ak6.length 492 (A0 Ak6)) (some (P4 b3)) 492 false
 simp only [Aj4] at J3
 refine Yc J3 ?_
 rintro _ h ⟨rfl,o⟩
 rw [show ({ D48 Ar6 with R:=(As1 (D48 Ar6).R ((0:Nat):Int) 256 0 Ak6).2 }:RKS)=K0 from rfl] at o
 refine (?_:Tr _ _ _ _) o
 refine Je ?_
 (refine Ja ?_;intros)
 refine Yc (Hk5 w K0 (Hc8 Eu4.1 256 Ak6) 0 (by show (0:Nat)<(D48 Ar6).B.envs.length;rw [Eu4.2,Dg0];simp)) ?_
 rintro v h (⟨_,m,rfl,o⟩|⟨hn,rfl,o⟩)
 case inr=>exact absurd hn Ji1
 refine (?_:Tr _ _ _ _) o
 refine Je ?_
 (refine Ja ?_;intros)
 refine Ys fun o=>?_
 exact ⟨k,c,w,m,rfl,o.sub⟩
def Do6 (mem:List UInt8) (rg:Rg):List (List UInt8):=rg.map fun p=>slice mem p.1 p.2
theorem Ib7 {mem:List UInt8} {rg:Rg} {j lo n:Nat} (h:rg[j]?=some (lo,n)):(Do6 mem rg)[j]?=some (slice mem lo n):=by unfold Do6;rw [List.getElem?_map,h];rfl
theorem H69 {mem:List UInt8} {rg:Rg} (h:∀ (j lo n:Nat),rg[j]?=some (lo,n)→lo+n≤mem.length):Fit mem.length rg (Do6 mem rg):=⟨by simp [Do6],fun j lo n hj=>⟨h j lo n hj,slice mem lo n,Ib7 hj,Gd7 (h j lo n hj)⟩⟩
theorem Je4 {mem:List UInt8} {rg:Rg} (k:RgOk rg) (h:∀ (j lo n:Nat),rg[j]?=some (lo,n)→lo+n≤mem.length):A67 mem rg (Do6 mem rg)=mem:=by
 have f:=H69 h
 refine List.ext_getElem? fun i=>?_
 by_cases ho:∃ (j lo n:Nat),rg[j]?=some (lo,n)∧lo≤i∧i<lo+n
 ·obtain ⟨j,lo,n,hj,h1,h2⟩:=ho
  obtain ⟨i',rfl⟩:∃ i',i=lo+i':=⟨i-lo,by omega⟩
  rw [Du9 f k j lo n _ hj (Ib7 hj) i' (by omega),Di3,if_pos (by omega)]
 ·exact Eg5 f i fun j lo n hj=>by
   by_cases hh:lo≤i∧i<lo+n
   ·exact absurd ⟨j,lo,n,hj,hh.1,hh.2⟩ ho
   ·omega
theorem FrOk.room {F:Fr} {j lo n:Nat} (f:Fit F.S.mem.length F.rg (Do6 F.S.mem F.rg)) (h:F.rg[j]?=some (lo,n)):lo+n≤F.S.mem.length:=(f.each j lo n h).1
theorem Fr.at_cut {F:Fr} (k:FrOk F) (h:∀ (j lo n:Nat),F.rg[j]?=some (lo,n)→lo+n≤F.S.mem.length):F.at (Do6 F.S.mem F.rg)=F.S:=by
 unfold Fr.at;rw [Je4 k.dj h];rfl
theorem Own.cmTake {r:List HP} {h:H} (c k:Nat) (F:Fr) (bad:List RecS) (ok:FrOk F) (hr:∀ (j lo n:Nat),F.rg[j]?=some (lo,n)→lo+n≤F.S.mem.length) (o1:Own h (E8 k F.S::R0 c k F.env F.caps bad::r)):Own h (cmC c k F ⟨Do6 F.S.mem F.rg,bad⟩::r):=by
 refine Own.inex (f:=fun u:Unit=>sl (cmF c k F ⟨Do6 F.S.mem F.rg,bad⟩)) () (Own.group (l:=cmF c k F ⟨Do6 F.S.mem F.rg,bad⟩) ?_)
 show Own h (E8 k (F.at (Do6 F.S.mem F.rg))::R0 c k F.env F.caps bad::pu _::r)
 rw [Fr.at_cut ok hr]
 have o2:=Own.inpure (show Fit F.S.mem.length F.rg (Do6 F.S.mem F.rg) from H69 hr) o1
 exact o2.picks [1,1,0] rfl
theorem Jz6 {l r:List HP} {h:H} {α:Type} {Q:α→H→Prop} {x:Option (α × H)} (c k:Nat) (F:Fr) (X:CX) [tk:Take (cmC c k F X) l r]
  (t:Fit F.S.mem.length F.rg X.m→Tr (E8 k (F.at X.m)::R0 c k F.env F.caps X.bad::r) h x Q):Tr l h x Q:=fun o=>by
 have o1:Own h (cmC c k F X::r):=o.perm tk.pm
 obtain ⟨u,o2⟩:=Own.ex (f:=fun u:Unit=>sl (cmF c k F X)) o1
 have o3:Own h (E8 k (F.at X.m)::R0 c k F.env F.caps X.bad::pu (Fit F.S.mem.length F.rg X.m)::r):=Own.join o2
 have f:=(o3.front (i:=2) rfl).pure
 exact t f (o3.front (i:=2) rfl).tail
theorem I09 {S:KS} {env cap obj:Int} {lo n:Nat} {e1 e2:Int} (hg:Db7 S.tabs env cap=some ⟨obj,3,0,(n:Int),e1,e2⟩) (h0:0≤obj) (hr:S.regs[obj.toNat]?=some ((lo:Int),(n:Int))) (hl:lo+n≤65536) :
  ∀ (a m:Nat) (right:Int),right=1∨right=2→a+m≤n→W5 S.tabs S.regs env cap right a m=(((lo+a:Nat):Int),0):=by
 intro a m right hri ha
 have hlt:=(List.getElem?_eq_some_iff.1 hr).1
 unfold W5
 rw [hg]
 have b1:(V5 .i64 3 1==0)=false:=by kernel_rfl
 have b2:(V5 .i64 3 2==0)=false:=by kernel_rfl
 have hb:¬ ((V5 .i64 3 right==0)=true):=by rcases hri with rfl|rfl<;>simp [b1,b2]
 simp only
 have h2:(decide ((a:Int)<0) || decide ((m:Int)<0) || decide ((a:Int)>(n:Int)) || decide ((m:Int)>IntKind.wrap .i64 ((n:Int)-a)) || decide (obj<0) || decide (obj≥S.regs.length))=false:=by
  simp only [Bool.or_eq_false_iff,decide_eq_false_iff_not,B3];omega
 have h3:(decide (IntKind.wrap .i64 (0+(a:Int))>(n:Int)) || decide ((m:Int)>IntKind.wrap .i64 (IntKind.wrap .i64 ((n:Int)-0)-a)))=false:=by
  simp only [Bool.or_eq_false_iff,decide_eq_false_iff_not,B3];omega
 have h4:IntKind.wrap .i64 (IntKind.wrap .i64 ((lo:Int)+0)+a)=((lo+a:Nat):Int):=by simp only [B3];omega
 rw [if_neg hb]
 simp only [h2,hr,h3,h4,Bool.false_eq_true,if_false]
structure Like (S:KS):Prop where
 ok:KOk 0 S
 tabs:S.tabs=S00.tabs
 regs:S.regs=S00.regs
 envs:S.envs=S00.envs
 mem:S.mem.length=2560
theorem E54 {S:KS} (k:Like S) {m:List UInt8} (h:m.length=2560):Like (B89 S m) :=
 ⟨⟨k.ok.envs,k.ok.tabs,k.ok.space,k.ok.quota,by show m.length≤65536;omega,k.ok.regs,k.ok.may,k.ok.mayl,k.ok.nsect,k.ok.sects,k.ok.now⟩,k.tabs,k.regs,k.envs,h⟩
theorem Jv8:Like S00:=⟨H11,rfl,rfl,rfl,by kernel_rfl⟩
theorem Ju4 (S:KS) (k:Like S) (cap:Int) (b:List UInt8):Like (wrS S cap b):=by
 unfold wrS Ag7
 split
 ·exact k
 ·exact E54 k (by rw [Ir6];exact k.mem)
theorem En1:Like S0:=Ju4 S00 Jv8 256 Ak6
def rgP (s:Nat):Rg:=[(1280*s,492),(512,40),(1856,40)]
def frP (S:KS) (s:Nat) (env:Int):Fr:=⟨S,0,env,[256,257,258],rgP s⟩
theorem Hg7:S00.regs=[(0,492),(1280,492),(512,40),(1856,40)]:=by kernel_rfl
theorem Jy1:S00.envs.length=18:=by kernel_rfl
structure EnvP (s:Nat) (env:Int):Prop where
 hs:s<2
 he:0≤env∧env<18
 a:Db7 S00.tabs env 256=some ⟨s,3,0,492,0,0⟩
 b:Db7 S00.tabs env 257=some ⟨2,3,0,40,0,0⟩
 c:Db7 S00.tabs env 258=some ⟨3,3,0,40,0,0⟩
theorem Hk8:EnvP 0 0:=⟨by omega,by omega,by kernel_rfl,by kernel_rfl,by kernel_rfl⟩
theorem Eu7 {s j lo n:Nat} (h:(rgP s)[j]?=some (lo,n)):(j=0∧lo=1280*s∧n=492)∨(j=1∧lo=512∧n=40)∨(j=2∧lo=1856∧n=40):=by
 unfold rgP at h
 match j,h with
 | 0,h=>simp at h;omega
 | 1,h=>simp at h;omega
 | 2,h=>simp at h;omega
 | j+3,h=>simp at h
theorem E73 {S:KS} (k:Like S) {s:Nat} (hs:s<2) (env:Int):∀ (j lo n:Nat),(frP S s env).rg[j]?=some (lo,n)→lo+n≤(frP S s env).S.mem.length:=by
 intro j lo n h
 have hm:=k.mem
 have:=Eu7 h
 show lo+n≤S.mem.length
 omega
theorem Hj1 {S:KS} (k:Like S) {s:Nat} {env:Int} (e:EnvP s env):FrOk (frP S s env):=by
 have hs:=e.hs;have he:=e.he
 refine ⟨k.ok,by simp [frP],by simp [frP],by simp [frP],by simp [frP,rgP],?_,?_,?_,⟨1280*s,rfl⟩,?_⟩
 ·show ¬ (env<0∨env≥(S.envs.length:Int))
  rw [k.envs,Jy1];omega
 ·intro j cap lo n hc hr
  show ∀ (a m:Nat) (right:Int),right=1∨right=2→a+m≤n→W5 S.tabs S.regs env cap right a m=_
  have hg:=Eu7 hr
  rcases hg with ⟨rfl,rfl,rfl⟩|⟨rfl,rfl,rfl⟩|⟨rfl,rfl,rfl⟩
  ·cases hc
   refine I09 (obj:=s) (e1:=0) (e2:=0) (by rw [k.tabs];exact e.a) (by omega) ?_ (by omega)
   rw [k.regs,Hg7,Int.toNat_natCast]
   match s,hs with
   | 0,_=>rfl
   | 1,_=>rfl
  ·cases hc
   exact I09 (obj:=2) (e1:=0) (e2:=0) (by rw [k.tabs];exact e.b) (by omega) (by rw [k.regs,Hg7];rfl) (by omega)
  ·cases hc
   exact I09 (obj:=3) (e1:=0) (e2:=0) (by rw [k.tabs];exact e.c) (by omega) (by rw [k.regs,Hg7];rfl) (by omega)
 ·intro i j lo n lo' n' hij hi hj
  have h1:=Eu7 hi;have h2:=Eu7 hj
  omega
 ·intro j lo n h0 h
  have:=Eu7 h;omega
def Eq7 (bad:List RecS) (kind:Int):Nat→Int→List RecS
 | 0,_=>[]
 | m+1,i=>if (⟨kind,i⟩:RecS) ∈ bad then ⟨kind,i⟩::Eq7 bad kind m (i+1) else Eq7 bad kind m (i+1)
def Ei4 (nc:Nat) (bad:List RecS):Nat→Int→List RecS
 | 0,_=>[]
 | m+1,kind=>Eq7 bad kind (J8 nc kind).toNat 0++Ei4 nc bad m (kind+1)
def E59 (nc:Nat) (bad:List RecS):List RecS:=Ei4 nc bad 5 1
theorem I64 (c k:Nat) (env:Int) (caps:List Int) (bad:List RecS) (hs:caps.length≤40) (kind:Int) (hk:1≤kind∧kind≤5) (Φ:List RecS→Value→(List HP→Prop)→Prop)
  (next:∀ (acc:List RecS) (a:Option Addr) (cp:Nat),acc.length≤50*kind→CtJ D8 E3 Ae2 [(0,P0 c),(3,.slice a acc.length cp),(4,int (kind+1))] [slC false B6 2 a acc.length cp (acc.flatMap U5),R0 c k env caps bad] (Φ acc)) :
  ∀ (m:Nat) (i:Int) (acc:List RecS) (a:Option Addr) (cp:Nat),0≤i→i+m=J8 caps.length kind→acc.length≤50*(kind-1)+i →
  CtJ D8 E3 Ae7 [(0,P0 c),(3,.slice a acc.length cp),(4,int kind),(13,int (J8 caps.length kind)),(14,int i)] [slC false B6 2 a acc.length cp (acc.flatMap U5),R0 c k env caps bad] (Φ (acc++Eq7 bad kind m i)):=by
 have hmost:J8 caps.length kind≤43:=by unfold J8;(repeat' split)<;>omega
 have e5:=wI kind
 intro m
 induction m with
 | zero =>
  intro i acc a cp h0 hi ha
  refine CtJ.of Ak4 fun h r=>Tr.eq (By4 ..) ?_;refine Je ?_
  refine Yf (by simp;omega) ?_
  rw [e5]
  refine Yr (next acc a cp (by omega)) ?_
  intro v h q
  rw [show Eq7 bad kind 0 i=[] from rfl,List.append_nil]
  exact q
 | succ m ih =>
  intro i acc a cp h0 hi ha
  have e1:=wI i
  refine CtJ.of Ak4 fun h r=>Tr.eq (By4 ..) ?_;refine Je ?_
  refine Yt (by simp;omega) ?_
  refine B5 (R0 c k env caps bad) fun ⟨ca,cn,mb⟩=>?_;refine Je ?_
  (refine Ja ?_;intros)
  have hl:=B22 ⟨kind,i⟩ bad
  simp only [U5] at hl
  rw [hl]
  rw [show Eq7 bad kind (m+1) i=if (⟨kind,i⟩:RecS) ∈ bad then ⟨kind,i⟩::Eq7 bad kind m (i+1) else Eq7 bad kind m (i+1) from rfl]
  by_cases hb:(⟨kind,i⟩:RecS) ∈ bad
  ·simp only [if_pos hb]
   (refine Ja ?_;intros)
   refine Yt rfl ?_
   (refine Ja ?_;intros)
   refine B4 (R0 c k env caps bad) ⟨ca,cn,mb⟩ ?_;refine Je ?_
   refine Tr.xApd ?_ (fun a' c' h=>?_);exact ⟨by first|rfl|simp,by first|rfl|simp,by simp only [A7];omega⟩;refine Je ?_
   rw [e1]
   rw [show acc.flatMap U5++[Value.int IntKind.i64 kind,Value.int IntKind.i64 i]=(acc++[(⟨kind,i⟩:RecS)]).flatMap U5 by simp [U5],show acc.length+1=(acc++[(⟨kind,i⟩:RecS)]).length by simp]
   refine B9 [3,0] 2 rfl rfl ?_
   refine Yr (ih (i+1) (acc++[⟨kind,i⟩]) a' c' (by omega) (by omega) (by simp;omega)) ?_
   intro v h q
   rw [List.append_assoc] at q
   exact q
  ·simp only [if_neg hb]
   (refine Ja ?_;intros)
   refine Yf rfl ?_
   refine B4 (R0 c k env caps bad) ⟨ca,cn,mb⟩ ?_;refine Je ?_
   rw [e1]
   refine B9 [2,0] 1 rfl rfl ?_
   refine Yr (ih (i+1) acc a cp (by omega) (by omega) (by omega)) ?_
   intro v h q
   exact q
theorem I58 (c k:Nat) (env:Int) (caps:List Int) (bad:List RecS) (hs:caps.length≤40):∀ (m:Nat) (kind:Int) (acc:List RecS) (a:Option Addr) (cp:Nat),1≤kind→kind+m=6→acc.length≤50*(kind-1) →
  CtJ D8 E3 Ae2 [(0,P0 c),(3,.slice a acc.length cp),(4,int kind)] [slC false B6 2 a acc.length cp (acc.flatMap U5),R0 c k env caps bad] fun v own =>
   ∃ a' cp',v=.slice a' (acc++Ei4 caps.length bad m kind).length cp'∧own [slC false B6 2 a' (acc++Ei4 caps.length bad m kind).length cp' ((acc++Ei4 caps.length bad m kind).flatMap U5),R0 c k env caps bad]:=by
 intro m
 induction m with
 | zero =>
  intro kind acc a cp hk hi ha
  refine CtJ.of Ak4 fun h r=>Tr.eq (Bz0 ..) ?_;refine Je ?_
  refine Yf (by simp;omega) ?_
  refine Ys fun o=>?_
  rw [show Ei4 caps.length bad 0 kind=[] from rfl,List.append_nil]
  exact ⟨a,cp,rfl,o.sub⟩
 | succ m ih =>
  intro kind acc a cp hk hi ha
  have hm0:0≤J8 caps.length kind:=by unfold J8;(repeat' split)<;>omega
  have L2:=I64 c k env caps bad hs kind (by omega) (fun acc v own=>∃ a' cp',v=.slice a' (acc++Ei4 caps.length bad m (kind+1)).length cp'∧own [slC false B6 2 a' (acc++Ei4 caps.length bad m (kind+1)).length cp' ((acc++Ei4 caps.length bad m (kind+1)).flatMap U5),R0 c k env caps bad])
   (fun acc a cp ha=>ih (kind+1) acc a cp (by omega) (by omega) (by omega)) (J8 caps.length kind).toNat 0 acc a cp (by omega) (by omega) (by omega)
  refine CtJ.of Ak4 fun h r=>Tr.eq (Bz0 ..) ?_;refine Je ?_
  refine Yt (by simp;omega) ?_
  refine Tr.pcall (G65 c k env caps bad kind hs) ?_;refine Je ?_;(refine Ja ?_;intros)
  refine Yr L2 ?_
  intro v h q
  rw [List.append_assoc] at q
  exact q
theorem Jo5 (c k:Nat) (env:Int) (caps:List Int) (bad:List RecS) (hs:caps.length≤40):Ct A5 E3 [P0 c] [R0 c k env caps bad] fun v own =>
  ∃ a' cp',v=.slice a' (E59 caps.length bad).length cp'∧own [slC false B6 2 a' (E59 caps.length bad).length cp' ((E59 caps.length bad).flatMap U5),R0 c k env caps bad]:=by
 refine Ct.of Ak4 rfl fun h r=>Tr.eq (Ex7 ..) ?_;refine Je ?_
 refine E6 false B6 2 (by omega) ?_
 have J:=I58 c k env caps bad hs 5 1 [] none 0 (by omega) (by omega) (by simp)
 simp only [List.nil_append,List.length_nil,List.flatMap_nil] at J
 refine Yr J ?_
 intro v h q
 exact q
theorem I30 (nc:Nat):E59 nc []=[]:=by
 have h1:∀ (kind:Int) (m:Nat) (i:Int),Eq7 [] kind m i=[]:=by
  intro kind m
  induction m with
  | zero=>intro i;rfl
  | succ m ih=>intro i;unfold Eq7;rw [if_neg (by simp),ih]
 have h2:∀ (m:Nat) (kind:Int),Ei4 nc [] m kind=[]:=by
  intro m
  induction m with
  | zero=>intro k;rfl
  | succ m ih=>intro k;unfold Ei4;rw [h1,ih];rfl
 exact h2 5 1
theorem Jm1 (c k:Nat) (F:Fr) (X:CX) (ok:FrOk F):Ct A5 E3 [P0 c] [cmC c k F X] fun v own =>
  ∃ a' cp',v=.slice a' (E59 F.caps.length X.bad).length cp'∧own [slC false B6 2 a' (E59 F.caps.length X.bad).length cp' ((E59 F.caps.length X.bad).flatMap U5),cmC c k F X]:=by
 intro h r o
 obtain ⟨u,o2⟩:=Own.unfold (cmC c k F X) o
 obtain ⟨v,h',e,a',cp',hv,o3⟩:=Jo5 c k F.env F.caps X.bad ok.small h _ (o2.picks [1] rfl)
 refine ⟨v,h',e,a',cp',hv,?_⟩
 have o4:=o3.picks [2,1,1] rfl
 exact (Own.shut (f:=fun _:Unit=>cmF c k F X) () o4).picks [1,0] rfl
abbrev F0:Fr:=frP S0 0 0
def X0:CX:=⟨Do6 S0.mem (rgP 0),[]⟩
theorem Jm8:FrOk F0:=Hj1 En1 Hk8
theorem Jm2 (A:PlA):Ct A5 B19 [.agg ⟨Gs9 Bn4 A⟩] (D79 Bn4 A) fun v own =>
  ∃ k c w m,v=.tuple ⟨[P0 k,P0 c,P0 w,P0 m]⟩∧own [cmC c k F0 X0,rkC w K0,rcC m w 0 (Dl6 K0 0) []]:=by
 intro h r o
 obtain ⟨v,h',e,k,c,w,m,hv,o2⟩:=Jt0 A h r o
 refine ⟨v,h',e,k,c,w,m,hv,?_⟩
 exact Own.cmTake c k F0 [] Jm8 (E73 En1 (by omega) 0) o2
theorem J11 {y m:Int} (h:0≤y):Int.tmod y m=y%m:=Int.tmod_eq_emod_of_nonneg h
theorem Ai4 {x:Int} (h:0≤x∧x<256):((b8 x).toNat:Int)=x:=by rw [← B26,D98];omega
theorem H68 {p:PipeS} (h:okP p=true):N7 (O5 p)=(p,1):=by
 have hk:=h
 simp only [okP,Bool.and_eq_true,decide_eq_true_eq] at h
 have e:Bu8 (O5 p)=p:=by
  obtain ⟨a,b,c,d,l,hl⟩:=p
  simp only at h
  have h1:=Ai4 (x:=a) (by omega);have h2:=Ai4 (x:=b) (by omega);have h3:=Ai4 (x:=c) (by omega);have h4:=Ai4 (x:=d) (by omega)
  simp [Bu8,O5,Ar8,Ez6 hl]
  exact ⟨h1,h2,h3,h4⟩
 have hz:(O5 p).all (·==0)=false:=by simp [O5,Ar8]
 unfold N7 isP
 rw [hz,e,hk]
 simp
theorem G31 {l b:List UInt8} {a c n:Nat} (h:a+b.length≤l.length) (hd:c+n≤a∨a+b.length≤c):slice (P1 l a b) c n=slice l c n:=by
 refine List.ext_getElem? fun i=>?_
 rw [Di3,Di3]
 split
 ·rw [B55 h,if_neg (by omega)]
 ·rfl
theorem Hf1 {l b:List UInt8} {a:Nat} (h:a+b.length≤l.length):slice (P1 l a b) a b.length=b:=by
 refine List.ext_getElem? fun i=>?_
 rw [Di3]
 split
 ·rw [B55 h,if_pos (by omega)];congr 1;omega
 ·rw [List.getElem?_eq_none (by omega)]
abbrev Jm6:List Int:=[256,257,258]
theorem Hm3 (n:Int):BitVec.ofInt 64 (IntKind.wrap .i64 n)=BitVec.ofInt 64 n:=by
 apply BitVec.eq_of_toNat_eq
 rw [BitVec.toNat_ofInt,BitVec.toNat_ofInt,B3];omega
theorem H55 (x:BitVec 64):BitVec.ofInt 64 (x.toNat:Int)=x:=by
 apply BitVec.eq_of_toNat_eq
 have:=x.isLt
 rw [BitVec.toNat_ofInt];omega
theorem Jv9 (a b:Int):BitVec.ofInt 64 (Bv3 .i64 a b)=BitVec.ofInt 64 a &&& ~~~ BitVec.ofInt 64 b:=by
 unfold Bv3;rw [Hm3];exact H55 _
theorem Jw1 {a b:Int} (h:BitVec.ofInt 64 a &&& BitVec.ofInt 64 b=0#64):V5 .i64 a b=0:=by
 unfold V5
 rw [show IntKind.bits .i64=64 from rfl,h];rfl
theorem Jv1 {a b:Int} (h:BitVec.ofInt 64 a &&& ~~~ BitVec.ofInt 64 b=0#64):Bv3 .i64 a b=0:=by
 unfold Bv3
 rw [show IntKind.bits .i64=64 from rfl,h];rfl
structure InS (p:ProcS):Prop where
 a:0≤p.pending∧p.pending≤65535
 b:0≤p.mask∧p.mask≤65535
 c:0≤p.ignored∧p.ignored≤65535
 d:0≤p.caught∧p.caught≤65535
theorem H37 {p:ProcS} (h:okS p=true) (r:InS p):N8 (A93 p)=(p,1):=by
 have hk:=h
 obtain ⟨ra,rb,rc,rd⟩:=r
 have e:Bv2 (A93 p)=p:=by
  obtain ⟨st,pa,gr,co,pe,ma,ig,ca,fds,hl⟩:=p
  simp only at ra rb rc rd
  unfold okS at h
  simp only [Bool.and_eq_true,Bool.not_eq_true',Bool.or_eq_false_iff,decide_eq_false_iff_not,List.any_eq_false] at h
  match fds,hl with
  | [f0,f1,f2,f3,f4,f5,f6,f7],hl =>
   have hf:=h.2.2.1
   simp at hf
   have two_b:∀ n:Int,0≤n∧n≤65535→((hi2 n).toNat:Int)*256+((lo2 n).toNat:Int)=n:=fun n hn=>by
    unfold hi2 lo2
    rw [if_pos hn,if_pos hn,Ai4 (by omega),← B26,D98];omega
   have g0:=h.1
   simp only [Bv2,A93,E04,two]
   simp
   refine ⟨Ai4 (by omega),Ai4 (by omega),Ai4 (by omega),Ai4 (by omega),two_b _ ra,two_b _ rb,two_b _ rc,two_b _ rd,Ai4 (by omega),Ai4 (by omega),Ai4 (by omega),Ai4 (by omega),Ai4 (by omega),Ai4 (by omega),Ai4 (by omega),Ai4 (by omega)⟩
 have hz:(A93 p).all (·==0)=false:=by
  simp [A93,E04]
 unfold N8 isS
 rw [hz,e,hk]
 simp
theorem I63:Db5 0 0=true:=by kernel_rfl
def stR (kind:Int) (l:List UInt8):Int:=if kind=1 then (N8 l).2 else if kind=2 then (P6 l).2 else if kind=5 then (Ae3 l).2 else (N7 l).2
def rd (X:CX) (r:RecS):List UInt8 :=
 match E7 X.m.length r with
 | some (j,a,n)=>slice (X.m.getD j []) a n
 | none=>[]
structure Clean (nc:Nat) (X:CX):Prop where
 len:X.m.length=nc
 pos:0<nc
 bad:X.bad=[]
 own:(X.m.getD 0 []).length=492
 brs:∀ j,0<j→j<nc→(X.m.getD j []).length=40
 ok:∀ r:RecS,1≤r.kind→r.kind≤5→0≤r.index→r.index<J8 nc r.kind→stR r.kind (rd X r)≠2
structure Rin (nc:Nat) (r:RecS):Prop where
 a:1≤r.kind
 b:r.kind≤5
 c:0≤r.index
 d:r.index<J8 nc r.kind
theorem Rin.place {nc:Nat} {r:RecS} (h:Rin nc r) (hn:0<nc):∃ j a,E7 nc r=some (j,a,Aa3 r.kind)∧j<nc∧(j=0→a+Aa3 r.kind≤492)∧(0<j→a=0∧Aa3 r.kind=40):=by
 obtain ⟨h1,h2,h3,h4⟩:=h
 obtain ⟨k,i⟩:=r
 simp only at h1 h2 h3 h4
 have hk:k=1∨k=2∨k=3∨k=4∨k=5:=by omega
 unfold E7 Aa3
 simp only
 rw [if_neg (by omega)]
 rcases hk with rfl|rfl|rfl|rfl|rfl
 ·exact ⟨0,_,rfl,hn,fun _=>by simp [J8] at h4 ⊢;omega,fun h=>by omega⟩
 ·exact ⟨0,_,rfl,hn,fun _=>by simp [J8] at h4 ⊢;omega,fun h=>by omega⟩
 ·simp only [J8] at h4
  by_cases h5:i<4
  ·exact ⟨0,_,by simp [h5];rfl,hn,fun _=>by simp;omega,fun h=>by omega⟩
  ·exact ⟨i.toNat-3,0,by simp [h5],by simp at h4;omega,fun h=>by omega,fun _=>⟨rfl,rfl⟩⟩
 ·exact ⟨0,_,rfl,hn,fun _=>by simp,fun h=>by omega⟩
 ·exact ⟨0,_,rfl,hn,fun _=>by simp,fun h=>by omega⟩
theorem Jj5 {nc:Nat} {r r':RecS} (h:Rin nc r) (h':Rin nc r') (ne:r≠r') {j a n j' a' n':Nat} (e:E7 nc r=some (j,a,n)) (e':E7 nc r'=some (j',a',n')):j≠j'∨a+n≤a'∨a'+n'≤a:=by
 obtain ⟨h1,h2,h3,h4⟩:=h
 obtain ⟨g1,g2,g3,g4⟩:=h'
 obtain ⟨k,i⟩:=r
 obtain ⟨k',i'⟩:=r'
 simp only at h1 h2 h3 h4 g1 g2 g3 g4
 have ne':k≠k'∨i≠i':=by
  by_cases hk:k=k'
  ·right;intro hi;exact ne (by rw [hk,hi])
  ·exact .inl hk
 unfold E7 at e e'
 simp only at e e'
 rw [if_neg (by omega)] at e e'
 unfold J8 at h4 g4
 have hk:k=1∨k=2∨k=3∨k=4∨k=5:=by omega
 have hk':k'=1∨k'=2∨k'=3∨k'=4∨k'=5:=by omega
 have fin:∀ {x y:Nat × Nat × Nat},some x=some y→x=y:=fun h=>by cases h;rfl
 rcases hk with rfl|rfl|rfl|rfl|rfl<;>rcases hk' with rfl|rfl|rfl|rfl|rfl<;>simp at e e' h4 g4 ne'<;>(try split at e)<;>(try split at e')<;>(try simp at e e')<;>omega
def Dg2 (X:CX) (r:RecS) (b:List UInt8):CX :=
 match E7 X.m.length r with
 | some (j,a,_)=>{ X with m:=X.m.set j (P1 (X.m.getD j []) a b) }
 | none=>X
theorem G26 (l:List (List UInt8)) (j j':Nat) (x:List UInt8) (h:j<l.length):(l.set j x).getD j' []=if j'=j then x else l.getD j' []:=by
 rw [List.getD_eq_getElem?_getD,List.getD_eq_getElem?_getD,List.getElem?_set]
 by_cases hj:j=j'
 ·subst hj;simp [h]
 ·rw [if_neg hj,if_neg (fun e=>hj e.symm)]
section
variable {nc:Nat} {X:CX} (c:Clean nc X) {r r':RecS} (h:Rin nc r) (h':Rin nc r')
include c h
theorem I81:rdX X r=some (rd X r):=by
 obtain ⟨j,a,e,_⟩:=h.place c.pos
 unfold rdX rd
 rw [c.len,e]
 simp [c.bad]
theorem Dh8 (b:List UInt8):wrX X r b true=(true,Dg2 X r b):=by
 obtain ⟨j,a,e,_⟩:=h.place c.pos
 unfold wrX Dg2
 rw [c.len,e]
 simp [c.bad]
theorem Gh0 {j a n:Nat} (e:E7 nc r=some (j,a,n)):a+n≤(X.m.getD j []).length∧j<X.m.length∧n=Aa3 r.kind:=by
 obtain ⟨j',a',e',hj,h0,h1⟩:=h.place c.pos
 rw [e] at e';cases e'
 rw [c.len]
 by_cases hz:j=0
 ·subst hz;rw [c.own];exact ⟨h0 rfl,hj,rfl⟩
 ·rw [c.brs j (by omega) hj]
  have:=h1 (by omega)
  exact ⟨by omega,hj,rfl⟩
include h'
theorem An3 {b:List UInt8} (hb:b.length=Aa3 r.kind):rd (Dg2 X r b) r'=if r'=r then b else rd X r':=by
 obtain ⟨j,a,e,_⟩:=h.place c.pos
 obtain ⟨j',a',e',_⟩:=h'.place c.pos
 have p:=Gh0 c h e
 have p':=Gh0 c h' e'
 have es:Dg2 X r b={ X with m:=X.m.set j (P1 (X.m.getD j []) a b) }:=by unfold Dg2;rw [c.len,e]
 have el:(Dg2 X r b).m.length=nc:=by rw [es];simp [c.len]
 unfold rd
 rw [el,e',c.len,e',es]
 simp only
 rw [G26 _ _ _ _ p.2.1]
 by_cases hr:r'=r
 ·subst hr
  rw [e] at e';cases e'
  rw [if_pos rfl,if_pos rfl]
  have:=Hf1 (l:=X.m.getD j []) (b:=b) (a:=a) (by omega)
  rwa [hb] at this
 ·rw [if_neg hr]
  by_cases hj:j'=j
  ·subst hj
   rw [if_pos rfl]
   have dj:=Jj5 h' h hr e' e
   exact G31 (by omega) (by omega)
  ·rw [if_neg hj]
end
theorem Dg7 {nc:Nat} {X:CX} (c:Clean nc X) {r:RecS} (h:Rin nc r) {b:List UInt8} (hb:b.length=Aa3 r.kind) (hs:stR r.kind b≠2):Clean nc (Dg2 X r b):=by
 obtain ⟨j,a,e,_⟩:=h.place c.pos
 have p:=Gh0 c h e
 have es:Dg2 X r b={ X with m:=X.m.set j (P1 (X.m.getD j []) a b) }:=by unfold Dg2;rw [c.len,e]
 refine ⟨by rw [es];simp [c.len],c.pos,by rw [es];exact c.bad,?_,?_,?_⟩
 ·rw [es];simp only
  rw [G26 _ _ _ _ p.2.1]
  split
  ·rename_i h0;subst h0;rw [An7 (by omega)];exact c.own
  ·exact c.own
 ·intro i h0 h1
  rw [es];simp only
  rw [G26 _ _ _ _ p.2.1]
  split
  ·rename_i h2;subst h2;rw [An7 (by omega)];exact c.brs i h0 h1
  ·exact c.brs i h0 h1
 ·intro r' h1 h2 h3 h4
  rw [An3 c h ⟨h1,h2,h3,h4⟩ hb]
  split
  ·rename_i hr;rw [hr];exact hs
  ·exact c.ok r' h1 h2 h3 h4
theorem D20 {α:Type} (dec:List UInt8→α × Int) (z:α) {nc:Nat} {X:CX} (c:Clean nc X) {r:RecS} (h:Rin nc r) (hd:(dec (rd X r)).2=stR r.kind (rd X r)):Aa7 dec z X r=(dec (rd X r),X):=by
 unfold Aa7
 rw [I81 c h]
 simp only
 rw [if_neg (by rw [hd];exact c.ok r h.a h.b h.c h.d)]
abbrev vS (X:CX) (i:Int):ProcS × Int:=N8 (rd X ⟨1,i⟩)
abbrev vF (X:CX) (i:Int):FileS × Int:=P6 (rd X ⟨2,i⟩)
abbrev vP (X:CX) (i:Int):PipeS × Int:=N7 (rd X ⟨3,i⟩)
theorem B05 {nc:Nat} {i:Int} (h:0≤i∧i<8):Rin nc ⟨1,i⟩:=⟨by simp,by simp,h.1,h.2⟩
theorem B24 {nc:Nat} {i:Int} (h:0≤i∧i<12):Rin nc ⟨2,i⟩:=⟨by simp,by simp,h.1,h.2⟩
theorem B14 {nc:Nat} {i:Int} (h:0≤i∧i<3+nc):Rin nc ⟨3,i⟩:=⟨by simp,by simp,h.1,h.2⟩
theorem Be5 {nc:Nat} {X:CX} (c:Clean nc X) {i:Int} (h:0≤i∧i<8):En6 X i=(vS X i,X):=D20 N8 .zero c (B05 h) rfl
theorem Bu0 {nc:Nat} {X:CX} (c:Clean nc X) {i:Int} (h:0≤i∧i<12):E35 X i=(vF X i,X):=D20 P6 .zero c (B24 h) rfl
theorem Eo8 {nc:Nat} {X:CX} (c:Clean nc X) {i:Int} (h:0≤i∧i<3+nc):D68 X i=(vP X i,X):=D20 N7 .zero c (B14 h) rfl
theorem Ea3 {f:CX→Int→CX} {X:CX}:∀ (m:Nat) (i:Int),(∀ j,i≤j→j<i+m→f X j=X)→Ea6 f m i X=X
 | 0,_,_=>rfl
 | m+1,i,h=>by
  unfold Ea6
  rw [h i (by omega) (by omega)]
  exact Ea3 m (i+1) fun j h1 h2=>h j (by omega) (by omega)
theorem D96 {nc:Nat} {X:CX} (c:Clean nc X):Gq6 X=X:=by
 have h3:He4 X=X:=by
  unfold He4
  have e1:Gr3 X=(N7 (rd X ⟨4,0⟩),X):=D20 N7 .zero c ⟨by simp,by simp,by simp,by simp [J8]⟩ rfl
  have e2:Gl7 X=(Ae3 (rd X ⟨5,0⟩),X):=D20 Ae3 0 c ⟨by simp,by simp,by simp,by simp [J8]⟩ rfl
  rw [e1];simp only;rw [e2]
 have hl:=c.len
 unfold Gq6 lookN H10 Ic6
 rw [Ea3 8 0 (fun j h1 h2=>by rw [Be5 c (by omega)])]
 rw [Ea3 12 0 (fun j h1 h2=>by rw [Bu0 c (by omega)])]
 rw [Ea3 (3+X.m.length) 0 (fun j h1 h2=>by rw [Eo8 c (by omega)]),h3]
theorem If5 {f:FileS} (h:okF f=true):P6 (As8 f)=(f,1):=by
 have hk:=h
 simp only [okF,Bool.and_eq_true,Bool.or_eq_true,decide_eq_true_eq,beq_iff_eq,bne_iff_ne] at h
 have e:Dv6 (As8 f)=f:=by
  obtain ⟨a,b,c,d⟩:=f
  simp only at h
  have h1:=Ai4 (x:=a) (by omega);have h2:=Ai4 (x:=b) (by omega);have h3:=Ai4 (x:=c) (by omega);have h4:=Ai4 (x:=d) (by omega)
  simp [Dv6,As8,Bo8]
  exact ⟨h1,h2,h3,h4⟩
 have hz:(As8 f).all (·==0)=false:=by simp [As8,Bo8]
 unfold P6 isF
 rw [hz,e,hk]
 simp
section
variable {nc:Nat} {X:CX} (c:Clean nc X)
include c
abbrev Ao0 (X:CX) (i:Int) (p:ProcS):CX:=Dg2 X ⟨1,i⟩ (A93 p)
abbrev setF (X:CX) (i:Int) (f:FileS):CX:=Dg2 X ⟨2,i⟩ (As8 f)
abbrev D36 (X:CX) (i:Int):CX:=Dg2 X ⟨1,i⟩ (List.replicate 24 0)
theorem Ab4 {i:Int} (h:0≤i∧i<8) {p:ProcS} (ok:okS p=true) (r:InS p) :
  Bx8 X i p=(true,Ao0 X i p)∧Clean nc (Ao0 X i p)∧(∀ j:Int,0≤j∧j<8→vS (Ao0 X i p) j=if j=i then (p,1) else vS X j)∧(∀ j:Int,0≤j∧j<12→vF (Ao0 X i p) j=vF X j)∧(∀ j:Int,0≤j∧j<3+nc→vP (Ao0 X i p) j=vP X j):=by
 have hl:(A93 p).length=Aa3 (1:Int):=by rw [E07];rfl
 refine ⟨by unfold Bx8;rw [ok];exact Dh8 c (B05 h) _,Dg7 c (B05 h) hl (by show (N8 (A93 p)).2≠2;rw [H37 ok r];simp),fun j hj=>?_,fun j hj=>?_,fun j hj=>?_⟩
 ·show N8 (rd _ _)=_
  rw [An3 c (B05 h) (B05 hj) hl]
  by_cases e:j=i
  ·rw [if_pos (by rw [e]),if_pos e];exact H37 ok r
  ·rw [if_neg (by simp [e]),if_neg e]
 ·show P6 (rd _ _)=_
  rw [An3 c (B05 h) (B24 hj) hl,if_neg (by simp)]
 ·show N7 (rd _ _)=_
  rw [An3 c (B05 h) (B14 hj) hl,if_neg (by simp)]
theorem S6 {i:Int} (h:0≤i∧i<12) {f:FileS} (ok:okF f=true) :
  Bz6 X i f=(true,setF X i f)∧Clean nc (setF X i f)∧(∀ j:Int,0≤j∧j<8→vS (setF X i f) j=vS X j)∧(∀ j:Int,0≤j∧j<12→vF (setF X i f) j=if j=i then (f,1) else vF X j)∧(∀ j:Int,0≤j∧j<3+nc→vP (setF X i f) j=vP X j):=by
 have hl:(As8 f).length=Aa3 (2:Int):=by rw [Eh8];rfl
 refine ⟨by unfold Bz6;rw [ok];exact Dh8 c (B24 h) _,Dg7 c (B24 h) hl (by show (P6 (As8 f)).2≠2;rw [If5 ok];simp),fun j hj=>?_,fun j hj=>?_,fun j hj=>?_⟩
 ·show N8 (rd _ _)=_
  rw [An3 c (B24 h) (B05 hj) hl,if_neg (by simp)]
 ·show P6 (rd _ _)=_
  rw [An3 c (B24 h) (B24 hj) hl]
  by_cases e:j=i
  ·rw [if_pos (by rw [e]),if_pos e];exact If5 ok
  ·rw [if_neg (by simp [e]),if_neg e]
 ·show N7 (rd _ _)=_
  rw [An3 c (B24 h) (B14 hj) hl,if_neg (by simp)]
theorem Bi6 {i:Int} (h:0≤i∧i<8) :
  B34 X ⟨1,i⟩=(true,D36 X i)∧Clean nc (D36 X i)∧(∀ j:Int,0≤j∧j<8→vS (D36 X i) j=if j=i then (.zero,0) else vS X j)∧(∀ j:Int,0≤j∧j<12→vF (D36 X i) j=vF X j)∧(∀ j:Int,0≤j∧j<3+nc→vP (D36 X i) j=vP X j):=by
 have hl:(List.replicate 24 (0:UInt8)).length=Aa3 (1:Int):=rfl
 refine ⟨Dh8 c (B05 h) _,Dg7 c (B05 h) hl (by show (N8 (List.replicate 24 0)).2≠2;rw [show (N8 (List.replicate 24 0))=(.zero,0) from rfl];simp),fun j hj=>?_,fun j hj=>?_,fun j hj=>?_⟩
 ·show N8 (rd _ _)=_
  rw [An3 c (B05 h) (B05 hj) hl]
  by_cases e:j=i
  ·rw [if_pos (by rw [e]),if_pos e];rfl
  ·rw [if_neg (by simp [e]),if_neg e]
 ·show P6 (rd _ _)=_
  rw [An3 c (B05 h) (B24 hj) hl,if_neg (by simp)]
 ·show N7 (rd _ _)=_
  rw [An3 c (B05 h) (B14 hj) hl,if_neg (by simp)]
theorem Ez8 {i:Int} (h:0≤i∧i<8):((vS X i).2=0∧(vS X i).1=.zero)∨((vS X i).2=1∧okS (vS X i).1=true):=by
 have:=c.ok ⟨1,i⟩ (by simp) (by simp) h.1 h.2
 have hk:(vS X i).2≠2:=this
 unfold vS N8 at hk ⊢
 split
 ·exact .inl ⟨rfl,rfl⟩
 ·split
  ·rename_i h2
   unfold isS at h2
   simp only [Bool.and_eq_true] at h2
   exact .inr ⟨rfl,h2.1⟩
  ·rename_i h1 h2;simp [h1,h2] at hk
theorem Gq0 {i:Int} (h:0≤i∧i<12):((vF X i).2=0∧(vF X i).1=.zero)∨((vF X i).2=1∧okF (vF X i).1=true):=by
 have:=c.ok ⟨2,i⟩ (by simp) (by simp) h.1 h.2
 have hk:(vF X i).2≠2:=this
 unfold vF P6 at hk ⊢
 split
 ·exact .inl ⟨rfl,rfl⟩
 ·split
  ·rename_i h2
   unfold isF at h2
   simp only [Bool.and_eq_true] at h2
   exact .inr ⟨rfl,h2.1⟩
  ·rename_i h1 h2;simp [h1,h2] at hk
end
abbrev E5 (n e:Int) (b:Bool):List Value:=[int n,int e,.slice none 0 0,.bool b]
theorem Bk8 (e:Int):Ct A5 Ai5 [int e] [] fun v own=>v=.agg ⟨E5 0 e false⟩∧own []:=by
 refine Ct.of Im6 rfl fun h r=>Tr.eq (Ih5 ..) ?_;refine Je ?_
 (refine Ja ?_;intros)
 refine Ys fun o=>?_
 exact ⟨rfl,o.sub⟩
theorem Di0 (ok:Bool) (n:Int):Ct A5 Aj0 [.bool ok,int n] [] fun v own=>v=.agg ⟨if ok then E5 n 0 false else E5 0 105 false⟩∧own []:=by
 refine Ct.of Ig9 rfl fun h r=>Tr.eq (Ih4 ..) ?_;refine Je ?_
 cases ok with
 | true =>
  (refine Ja ?_;intros)
  refine Ys fun o=>?_
  exact ⟨rfl,o.sub⟩
 | false =>
  (refine Ja ?_;intros)
  refine Yc (Bk8 105) ?_;rintro _ h ⟨rfl,o⟩<;>(refine Jf o ?_;intros)
  refine Ys fun o=>?_
  exact ⟨rfl,o.sub⟩
def G7 (X:CX) (i:Int):ProcS × Int:=if (vS X i).2=1∧(vS X i).1.state=1 then ((vS X i).1,0) else (.zero,105)
theorem Di4 (b k:Nat) (F:Fr) (X:CX) (ok:FrOk F) {nc:Nat} (c:Clean nc X) (i:Int) (hi:0≤i∧i<8):Ct A5 Af2 [P0 b,int i] [cmC b k F X] fun v own=>v=.tuple ⟨[.agg ⟨B8 (G7 X i).1⟩,int (G7 X i).2]⟩∧own [cmC b k F X]:=by
 refine Ct.of Gy0 rfl fun h r=>Tr.eq (Gv9 ..) ?_;refine Je ?_
 (refine Jc ?_;intros)
 refine Yn fun b0 h=>?_
 refine Yc (Gq4 b k F X ok) ?_;rintro _ h ⟨rfl,o⟩<;>refine Jh o ?_
 rw [D96 c]
 (refine Ja ?_;intros)
 refine Yc (B21 b k F X ok i) ?_;rintro _ h ⟨rfl,o⟩<;>refine Jh o ?_
 rw [Be5 c hi]
 dsimp only
 (refine Jc ?_;intros)
 refine Yn fun b1 h=>?_
 (refine Jb ?_;intros)
 refine Tr.orG (c:=(vS X i).1.state != 1) (fun hb=>?_) ?_
 ·exact Jz
 unfold G7
 by_cases h1:(vS X i).2=1∧(vS X i).1.state=1
 ·rw [if_pos h1]
  refine Yf (by simp [h1.1,h1.2]) ?_
  (refine Ja ?_;intros)
  refine Ys fun o=>?_
  exact ⟨rfl,o.sub⟩
 ·rw [if_neg h1]
  refine Yt (by simp;by_cases h2:(vS X i).2=1<;>simp [h2] at h1 ⊢;exact h1) ?_
  (refine Ja ?_;intros)
  refine Ys fun o=>?_
  exact ⟨rfl,o.sub⟩
def Av0 (X:CX):Nat→Int→Int
 | 0,_=>-1
 | m+1,i=>if (vS X i).2=0 then i else Av0 X m (i+1)
theorem I15 (b k:Nat) (F:Fr) (X:CX) (ok:FrOk F) {nc:Nat} (c:Clean nc X):∀ (m:Nat) (i:Int),0≤i→i+m=8 →
  CtJ D8 A39 B35 [(0,P0 b),(6,int i)] [cmC b k F X] fun v own=>v=int (Av0 X m i)∧own [cmC b k F X]:=by
 intro m
 induction m with
 | zero =>
  intro i h0 hi
  refine CtJ.of Et4 fun h r=>Tr.eq (Eu2 ..) ?_;refine Je ?_
  refine Yf (by simp;omega) ?_
  refine Ys fun o=>?_
  exact ⟨rfl,o.sub⟩
 | succ m ih =>
  intro i h0 hi
  have e1:=wI i
  refine CtJ.of Et4 fun h r=>Tr.eq (Eu2 ..) ?_;refine Je ?_
  refine Yt (by simp;omega) ?_
  refine Yc (B21 b k F X ok i) ?_;rintro _ h ⟨rfl,o⟩<;>refine Jh o ?_
  rw [Be5 c (by omega)]
  dsimp only
  (refine Jc ?_;intros)
  refine Yn fun b1 h=>?_
  (refine Ja ?_;intros)
  rw [show Av0 X (m+1) i=if (vS X i).2=0 then i else Av0 X m (i+1) from rfl]
  by_cases h1:(vS X i).2=0
  ·rw [if_pos h1]
   refine Yt (by simpa using h1) ?_
   refine Ys fun o=>?_
   exact ⟨rfl,o.sub⟩
  ·rw [if_neg h1,e1]
   refine Yf (by simpa using h1) ?_
   refine B9 [1] 1 rfl rfl ?_
   refine Yr (ih (i+1) (by omega) (by omega)) ?_
   intro v h q
   exact q
theorem Jt7 (b k:Nat) (F:Fr) (X:CX) (ok:FrOk F) {nc:Nat} (c:Clean nc X):Ct A5 A39 [P0 b] [cmC b k F X] fun v own=>v=int (Av0 X 8 0)∧own [cmC b k F X]:=by
 refine Ct.of Et4 rfl fun h r=>Tr.eq (Ig7 ..) ?_;refine Je ?_
 refine Yr (I15 b k F X ok c 8 0 (by omega) (by omega)) ?_
 intro v h q
 exact q
def Ba9:List Int→List Int→List Int
 | [],m=>m
 | f::l,m=>Ba9 l (if f>0 then m.set (f-1).toNat (m.getD (f-1).toNat 0+1) else m)
def Al0 (n:Int) (m:List Int):Prop:=m.length=12∧∀ x ∈ m,0≤x∧x≤n
theorem Al0.get {n:Int} {m:List Int} (h:Al0 n m) {j:Nat} (hj:j<12):0≤m.getD j 0∧m.getD j 0≤n:=by
 have hl:=h.1
 have e:m[j]?=some m[j]:=List.getElem?_eq_getElem (by omega)
 rw [List.getD_eq_getElem?_getD,e]
 exact h.2 _ (List.getElem_mem _)
theorem Al0.set {n:Int} {m:List Int} (h:Al0 n m) {j:Nat} (hj:j<12):Al0 (n+1) (m.set j (m.getD j 0+1)):=by
 refine ⟨by simpa using h.1,fun x hx=>?_⟩
 rcases List.mem_or_eq_of_mem_set hx with h2|rfl
 ·have:=h.2 x h2;omega
 ·have:=h.get hj;omega
theorem Al0.up {n:Int} {m:List Int} (h:Al0 n m):Al0 (n+1) m:=⟨h.1,fun x hx=>by have:=h.2 x hx;omega⟩
theorem Jg4 {m:List Int} {j:Nat} (h:j<m.length) (v:Int):Es8 (m.map int) j (int v)=some ((m.set j v).map int):=by
 rw [Es8,show Nat.blt j (m.map int).length=true from Nat.ble_eq_true_of_le (by simp;omega),List.map_set];rfl
def Bk3 (l:List Int):Prop:=∀ f ∈ l,0≤f∧f≤12
theorem Gg6 {l:List Int} {i:Nat} (h:i<l.length):(l.map int)[i]?=some (int (l.getD i 0)):=by rw [List.getElem?_map,U8 0 h];rfl
theorem Ii0 (b k:Nat) (F:Fr) (X:CX) (b0 b1:Nat) (p:ProcS) (hf:Bk3 p.fds) (Φ:Value→(List HP→Prop)→Prop) (M:List Int)
  (next:CtJ D8 H6 Ax3 [(0,P0 b),(5,P0 b1),(31,.agg ⟨p.fds.map int⟩),(32,int 0)] [pt b1 (.cells E63 false (M.map int)),cmC b k F X] Φ) :
  ∀ (m i:Nat) (more:List Int),i+m=8→Al0 i more→Ba9 (p.fds.drop i) more=M →
  CtJ D8 H6 Bd8 [(0,P0 b),(3,P0 b0),(5,P0 b1),(17,.agg ⟨p.fds.map int⟩),(18,int i)] [pt b1 (.cells E63 false (more.map int)),pt b0 (.cells A9 false (B8 p)),cmC b k F X] Φ:=by
 intro m
 induction m with
 | zero =>
  intro i more hi hm hM
  have:i=8:=by omega
  subst this
  rw [show p.fds.drop 8=[] from List.drop_eq_nil_of_le (by rw [p.len];omega),show Ba9 [] more=more from rfl] at hM
  subst hM
  refine CtJ.of A65 fun h r=>Tr.eq (En0 ..) ?_;refine Je ?_
  refine Yf (by simp) ?_
  (refine Ja ?_;intros)
  refine B9 [0,1] 1 rfl rfl ?_
  refine Yr next ?_
  intro v h q
  exact q
 | succ m ih =>
  intro i more hi hm hM
  have e1:=wN i
  have hil:i<p.fds.length:=by rw [p.len];omega
  have hg:=Gg6 hil
  have hd:p.fds.drop i=p.fds.getD i 0::p.fds.drop (i+1):=by
   rw [List.drop_eq_getElem_cons hil,List.getD_eq_getElem?_getD,List.getElem?_eq_getElem hil];rfl
  have hr:0≤p.fds.getD i 0∧p.fds.getD i 0≤12:=hf _ (by
   rw [List.getD_eq_getElem?_getD,List.getElem?_eq_getElem hil];exact List.getElem_mem _)
  rw [hd] at hM
  generalize p.fds.getD i 0=f at hg hr hM
  rw [show Ba9 (f::p.fds.drop (i+1)) more=Ba9 (p.fds.drop (i+1)) (if f>0 then more.set (f-1).toNat (more.getD (f-1).toNat 0+1) else more) from rfl] at hM
  refine CtJ.of A65 fun h r=>Tr.eq (En0 ..) ?_;refine Je ?_
  refine Yt (by simp;omega) ?_
  rw [e1]
  refine Tr.ck (by omega) ?_
  rw [Int.toNat_natCast]
  (refine Ja ?_;intros)
  by_cases hz:f>0
  ·have e2:IntKind.wrap .i64 (f-1)=f-1:=by rw [B3];omega
   have hj:(f-1).toNat<12:=by omega
   have hm2:=hm.get hj
   have e3:IntKind.wrap .i64 (more.getD (f-1).toNat 0+1)=more.getD (f-1).toNat 0+1:=by rw [B3];omega
   have hgm:=Gg6 (l:=more) (i:=(f-1).toNat) (by rw [hm.1];exact hj)
   rw [if_pos hz] at hM
   rw [e2]
   refine Yt (by simpa using hz) ?_
   (refine Ja ?_;intros)
   rw [e3]
   refine Gs (fun h=>?_) (by exact Jg4 (by rw [hm.1];exact hj) _)
   refine Yr (ih (i+1) (more.set (f-1).toNat (more.getD (f-1).toNat 0+1)) (by omega) (by rw [show ((i+1:Nat):Int)=(i:Int)+1 by omega];exact hm.set hj) hM) ?_
   intro v h q
   exact q
  ·rw [if_neg hz] at hM
   refine Yf (by simpa using hz) ?_
   refine Yr (ih (i+1) more (by omega) (by simpa using hm.up) hM) ?_
   intro v h q
   exact q
def Ak9 (X:CX) (more:List Int):List Int→Int
 | []=>0
 | f::l=>if f=0 then Ak9 X more l else if (vF X (f-1)).2≠1 then 105 else if (vF X (f-1)).1.refs+more.getD (f-1).toNat 0>64 then 123 else Ak9 X more l
theorem At7 {f:FileS} (h:okF f=true):1≤f.refs∧f.refs≤64:=by
 simp only [okF,Bool.and_eq_true,Bool.or_eq_true,decide_eq_true_eq,beq_iff_eq,bne_iff_ne] at h
 omega
theorem Ho0 {nc:Nat} {X:CX} (c:Clean nc X) {i:Int} (h:0≤i∧i<12):0≤(vF X i).1.refs∧(vF X i).1.refs≤64:=by
 rcases Gq0 c h with ⟨_,h1⟩|⟨_,h1⟩
 ·rw [h1];simp
 ·have:=At7 h1;omega
theorem Ik8 (b k:Nat) (F:Fr) (X:CX) (ok:FrOk F) {nc:Nat} (c:Clean nc X) (b1:Nat) (fds more:List Int) (hl:fds.length=8) (hf:Bk3 fds) (hm:Al0 8 more) (Φ:Value→(List HP→Prop)→Prop)
  (bad:∀ (e:Int),Ak9 X more fds=e→e≠0→∀ h r,Own h (cmC b k F X::r)→Φ (int e) fun l=>Own h (l++r))
  (next:Ak9 X more fds=0→CtJ D8 H6 Ay2 [(0,P0 b),(57,.agg ⟨more.map int⟩),(58,int 0)] [cmC b k F X] Φ) :
  ∀ (m i:Nat),i+m=8→Ak9 X more fds=Ak9 X more (fds.drop i) →
  CtJ D8 H6 Ax3 [(0,P0 b),(5,P0 b1),(31,.agg ⟨fds.map int⟩),(32,int i)] [pt b1 (.cells E63 false (more.map int)),cmC b k F X] Φ:=by
 intro m
 induction m with
 | zero =>
  intro i hi he
  have:i=8:=by omega
  subst this
  rw [show fds.drop 8=[] from List.drop_eq_nil_of_le (by omega),show Ak9 X more []=0 from rfl] at he
  have hl12:Da9 (more.map int) 0 12=some (more.map int):=Bm3 (by simp [hm.1])
  refine CtJ.of A65 fun h r=>Tr.eq (El5 ..) ?_;refine Je ?_
  refine Yf (by simp) ?_
  refine Gs ?_ (by exact hl12)
  refine B9 [1] 1 rfl rfl ?_
  refine Yr (next he) ?_
  intro v h q
  exact q
 | succ m ih =>
  intro i hi he
  have e1:=wN i
  have hil:i<fds.length:=by omega
  have hg:=Gg6 hil
  have hd:fds.drop i=fds.getD i 0::fds.drop (i+1):=by
   rw [List.drop_eq_getElem_cons hil,List.getD_eq_getElem?_getD,List.getElem?_eq_getElem hil];rfl
  have hr:0≤fds.getD i 0∧fds.getD i 0≤12:=hf _ (by
   rw [List.getD_eq_getElem?_getD,List.getElem?_eq_getElem hil];exact List.getElem_mem _)
  rw [hd] at he
  generalize fds.getD i 0=f at hg hr he
  rw [show Ak9 X more (f::fds.drop (i+1))=if f=0 then Ak9 X more (fds.drop (i+1)) else if (vF X (f-1)).2≠1 then 105 else if (vF X (f-1)).1.refs+more.getD (f-1).toNat 0>64 then 123 else Ak9 X more (fds.drop (i+1)) from rfl] at he
  refine CtJ.of A65 fun h r=>Tr.eq (El5 ..) ?_;refine Je ?_
  refine Yt (by simp;omega) ?_
  rw [e1]
  refine Tr.ck (by omega) ?_
  rw [Int.toNat_natCast]
  (refine Ja ?_;intros)
  by_cases hz:f=0
  ·rw [if_pos hz] at he
   refine Yt (by simpa using hz) ?_
   refine Yr (ih (i+1) (by omega) he) ?_
   intro v h q
   exact q
  rw [if_neg hz] at he
  refine Yf (by simpa using hz) ?_
  have e2:IntKind.wrap .i64 (f-1)=f-1:=by rw [B3];omega
  have hj:(f-1).toNat<12:=by omega
  rw [e2]
  refine Yc (Dx1 b k F X ok (f-1)) ?_;rintro _ h ⟨rfl,o⟩<;>refine Jh o ?_
  rw [Bu0 c (by omega)]
  dsimp only
  (refine Jc ?_;intros)
  refine Yn fun b2 h=>?_
  (refine Ja ?_;intros)
  by_cases h1:(vF X (f-1)).2=1
  ·rw [if_neg (by simpa using h1)] at he
   refine Yf (by simpa using h1) ?_
   have hm2:=hm.get hj
   have hgm:=Gg6 (l:=more) (i:=(f-1).toNat) (by rw [hm.1];exact hj)
   have hrf:=Ho0 c (i:=f-1) (by omega)
   have e3:IntKind.wrap .i64 ((vF X (f-1)).1.refs+more.getD (f-1).toNat 0)=(vF X (f-1)).1.refs+more.getD (f-1).toNat 0:=by rw [B3];omega
   (refine Ja ?_;intros)
   rw [e3]
   by_cases h2:(vF X (f-1)).1.refs+more.getD (f-1).toNat 0>64
   ·rw [if_pos h2] at he
    refine Yt (by simpa using h2) ?_
    refine B9 [1] 2 rfl rfl ?_
    refine Ys fun o=>?_
    exact bad 123 he (by simp) _ _ o
   ·rw [if_neg h2] at he
    refine Yf (by simpa using h2) ?_
    refine B9 [2,1] 1 rfl rfl ?_
    refine Yr (ih (i+1) (by omega) he) ?_
    intro v h q
    exact q
  ·rw [if_pos h1] at he
   refine Yt (by simpa using h1) ?_
   refine B9 [1] 2 rfl rfl ?_
   refine Ys fun o=>?_
   exact bad 105 he (by simp) _ _ o
abbrev Am4 (f:FileS) (n:Int):FileS:=⟨f.kind,f.pipe,f.refs+n,f.flags⟩
def Bt3 (more:List Int):Nat→Int→CX→CX
 | 0,_,X=>X
 | m+1,j,X=>Bt3 more m (j+1) (if more.getD j.toNat 0=0 then X else setF X j (Am4 (vF X j).1 (more.getD j.toNat 0)))
def Hl5 (more:List Int) (X:CX) (j:Int):Prop:=∀ i:Int,j≤i→i<12→more.getD i.toNat 0≠0→(vF X i).2=1∧(vF X i).1.refs+more.getD i.toNat 0≤64
theorem Ay9 {f:FileS} (h:okF f=true) {n:Int} (hn:1≤f.refs+n∧f.refs+n≤64):okF (Am4 f n)=true:=by
 simp only [okF,Bool.and_eq_true,Bool.or_eq_true,decide_eq_true_eq,beq_iff_eq,bne_iff_ne] at h ⊢
 omega
theorem Hl5.step {nc:Nat} {X:CX} (c:Clean nc X) {more:List Int} (hm:Al0 8 more) {j:Int} (h0:0≤j∧j<12) (s:Hl5 more X j) (hz:more.getD j.toNat 0≠0) :
  okF (Am4 (vF X j).1 (more.getD j.toNat 0))=true∧Hl5 more (setF X j (Am4 (vF X j).1 (more.getD j.toNat 0))) (j+1):=by
 obtain ⟨s1,s2⟩:=s j (by omega) (by omega) hz
 have hg:=hm.get (j:=j.toNat) (by omega)
 have hk:okF (vF X j).1=true:=by
  rcases Gq0 c h0 with ⟨h1,_⟩|⟨_,h1⟩
  ·omega
  ·exact h1
 have hr:=At7 hk
 have k:=Ay9 hk (n:=more.getD j.toNat 0) (by omega)
 refine ⟨k,fun i h1 h2 hi=>?_⟩
 rw [(S6 c h0 k).2.2.2.1 i (by omega),if_neg (by omega)]
 exact s i (by omega) h2 hi
theorem Ih3 (b k:Nat) (F:Fr) (ok:FrOk F) {nc:Nat} (more:List Int) (hm:Al0 8 more):∀ (m:Nat) (j:Int) (X:CX),Clean nc X→Hl5 more X j→0≤j→j+m=12 →
  CtJ D8 H6 Ay2 [(0,P0 b),(57,.agg ⟨more.map int⟩),(58,int j)] [cmC b k F X] fun v own=>v=int 0∧own [cmC b k F (Bt3 more m j X)]:=by
 intro m
 induction m with
 | zero =>
  intro j X c s h0 hj
  refine CtJ.of A65 fun h r=>Tr.eq (Ek5 ..) ?_;refine Je ?_
  refine Yf (by simp;omega) ?_
  refine Ys fun o=>?_
  rw [show Bt3 more 0 j X=X from rfl]
  exact ⟨rfl,o.sub⟩
 | succ m ih =>
  intro j X c s h0 hj
  have e1:=wI j
  have hg:=Gg6 (l:=more) (i:=j.toNat) (by rw [hm.1];omega)
  have hm2:=hm.get (j:=j.toNat) (by omega)
  rw [show Bt3 more (m+1) j X=Bt3 more m (j+1) (if more.getD j.toNat 0=0 then X else setF X j (Am4 (vF X j).1 (more.getD j.toNat 0))) from rfl]
  refine CtJ.of A65 fun h r=>Tr.eq (Ek5 ..) ?_;refine Je ?_
  refine Yt (by simp;omega) ?_
  rw [e1]
  (refine Ja ?_;intros)
  by_cases hz:more.getD j.toNat 0=0
  ·rw [if_pos hz]
   refine Yt (by simpa using hz) ?_
   refine Yr (ih (j+1) X c (fun i h1 h2 h3=>s i (by omega) h2 h3) (by omega) (by omega)) ?_
   intro v h q
   exact q
  ·rw [if_neg hz]
   refine Yf (by simpa using hz) ?_
   have hrf:=Ho0 c (i:=j) (by omega)
   have e3:IntKind.wrap .i64 ((vF X j).1.refs+more.getD j.toNat 0)=(vF X j).1.refs+more.getD j.toNat 0:=by rw [B3];omega
   obtain ⟨k1,s2⟩:=s.step c hm (by omega) hz
   obtain ⟨w1,w2,_⟩:=S6 c (i:=j) (by omega) k1
   refine Yc (Dx1 b k F X ok j) ?_;rintro _ h ⟨rfl,o⟩<;>refine Jh o ?_
   rw [Bu0 c (by omega)]
   dsimp only
   (refine Jc ?_;intros)
   refine Yn fun b2 h=>?_
   (refine Ja ?_;intros)
   simp only [e3,List.set_cons_succ,List.set_cons_zero,List.drop_zero,List.take]
   refine Yc (Bt9 b k F X ok j (Am4 (vF X j).1 (more.getD j.toNat 0))) ?_;rintro _ h ⟨rfl,o⟩<;>refine Jh o ?_
   rw [w1]
   dsimp only
   (refine Ja ?_;intros)
   refine B9 [0] 1 rfl rfl ?_
   refine Yr (ih (j+1) _ w2 s2 (by omega) (by omega)) ?_
   intro v h q
   exact q
theorem Gd9:∀ (l m:List Int) (i:Nat),Bk3 l→m.length=12→(Ba9 l m).getD i 0≠0→m.getD i 0≠0∨((i:Int)+1) ∈ l
 | [],m,i,_,_,h=>.inl h
 | f::l,m,i,hf,hm,h=>by
  have hr:=hf f (by simp)
  have hl:Bk3 l:=fun x hx=>hf x (by simp [hx])
  rw [show Ba9 (f::l) m=Ba9 l (if f>0 then m.set (f-1).toNat (m.getD (f-1).toNat 0+1) else m) from rfl] at h
  by_cases hz:f>0
  ·rw [if_pos hz] at h
   rcases Gd9 l _ i hl (by simpa using hm) h with h2|h2
   ·by_cases hi:(f-1).toNat=i
    ·right
     rw [show (i:Int)+1=f by omega];simp
    ·left
     rw [List.getD_eq_getElem?_getD,List.getElem?_set_ne hi,← List.getD_eq_getElem?_getD] at h2
     exact h2
   ·exact .inr (by simp [h2])
  ·rw [if_neg hz] at h
   rcases Gd9 l m i hl hm h with h2|h2
   ·exact .inl h2
   ·exact .inr (by simp [h2])
theorem Et7:∀ (l m:List Int) (n:Int),Bk3 l→Al0 n m→Al0 (n+l.length) (Ba9 l m)
 | [],m,n,_,h=>by simpa [Ba9] using h
 | f::l,m,n,hf,h=>by
  have hr:=hf f (by simp)
  have hl:Bk3 l:=fun x hx=>hf x (by simp [hx])
  rw [show Ba9 (f::l) m=Ba9 l (if f>0 then m.set (f-1).toNat (m.getD (f-1).toNat 0+1) else m) from rfl]
  have e:n+((f::l).length:Int)=(n+1)+l.length:=by simp;omega
  rw [e]
  by_cases hz:f>0
  ·rw [if_pos hz];exact Et7 l _ (n+1) hl (h.set (by omega))
  ·rw [if_neg hz];exact Et7 l m (n+1) hl h.up
theorem E68 {X:CX} {more:List Int}:∀ (l:List Int),Ak9 X more l=0→∀ f ∈ l,f≠0→(vF X (f-1)).2=1∧(vF X (f-1)).1.refs+more.getD (f-1).toNat 0≤64
 | [],_,f,h,_=>by simp at h
 | g::l,h,f,hm,hf=>by
  rw [show Ak9 X more (g::l)=if g=0 then Ak9 X more l else if (vF X (g-1)).2≠1 then 105 else if (vF X (g-1)).1.refs+more.getD (g-1).toNat 0>64 then 123 else Ak9 X more l from rfl] at h
  by_cases hg:g=0
  ·rw [if_pos hg] at h
   rcases List.mem_cons.1 hm with rfl|h2
   ·exact absurd hg hf
   ·exact E68 l h f h2 hf
  ·rw [if_neg hg] at h
   by_cases h1:(vF X (g-1)).2=1
   ·rw [if_neg (by simpa using h1)] at h
    by_cases h2:(vF X (g-1)).1.refs+more.getD (g-1).toNat 0>64
    ·rw [if_pos h2] at h;cases h
    ·rw [if_neg h2] at h
     rcases List.mem_cons.1 hm with rfl|h3
     ·exact ⟨h1,by omega⟩
     ·exact E68 l h f h3 hf
   ·rw [if_pos h1] at h;cases h
abbrev Ef7:List Int:=[0,0,0,0,0,0,0,0,0,0,0,0]
theorem I49:Al0 0 Ef7:=⟨rfl,fun x hx=>by simp at hx;omega⟩
abbrev Ap4 (p:ProcS):List Int:=Ba9 p.fds Ef7
theorem G16 {p:ProcS} (h:Bk3 p.fds):Al0 8 (Ap4 p):=by
 have:=Et7 p.fds Ef7 0 h I49
 rw [p.len] at this
 exact this
theorem H14 {X:CX} {p:ProcS} (h:Bk3 p.fds) (e:Ak9 X (Ap4 p) p.fds=0):Hl5 (Ap4 p) X 0:=fun i h0 h1 hi=>by
 rcases Gd9 p.fds Ef7 i.toNat h rfl hi with h2|h2
 ·exfalso;apply h2
  have:i.toNat=0∨i.toNat=1∨i.toNat=2∨i.toNat=3∨i.toNat=4∨i.toNat=5∨i.toNat=6∨i.toNat=7∨i.toNat=8∨i.toNat=9∨i.toNat=10∨i.toNat=11:=by omega
  rcases this with h|h|h|h|h|h|h|h|h|h|h|h<;>rw [h]<;>rfl
 ·have:=E68 p.fds e _ h2 (by omega)
  rw [show ((i.toNat:Nat):Int)+1-1=i by omega] at this
  exact this
def Ac8 (X:CX) (p:ProcS):Int × CX:=if Ak9 X (Ap4 p) p.fds=0 then (0,Bt3 (Ap4 p) 12 0 X) else (Ak9 X (Ap4 p) p.fds,X)
theorem Ja5 (b k:Nat) (F:Fr) (X:CX) (ok:FrOk F) {nc:Nat} (c:Clean nc X) (p:ProcS) (hf:Bk3 p.fds):Ct A5 H6 [P0 b,.agg ⟨B8 p⟩] [cmC b k F X] fun v own=>v=int (Ac8 X p).1∧own [cmC b k F (Ac8 X p).2]:=by
 refine Ct.of A65 rfl fun h r=>Tr.eq (H08 ..) ?_;refine Je ?_
 refine Yn fun b0 h=>?_
 refine Yn fun b1 h=>?_
 (refine Ja ?_;intros)
 have hm:=G16 hf
 have L2:=Ik8 b k F X ok c b1 p.fds (Ap4 p) p.len hf hm (fun v own=>v=int (Ac8 X p).1∧own [cmC b k F (Ac8 X p).2])
  (fun e he hz h r o=>by
   unfold Ac8
   rw [if_neg (by rw [he];exact hz),he]
   exact ⟨rfl,o⟩)
  (fun he=>by
   have J:=Ih3 b k F ok (Ap4 p) hm 12 0 X c (H14 hf he) (by omega) (by omega)
   unfold Ac8
   rw [if_pos he]
   exact J) 8 0 rfl rfl
 refine Du5 (Ii0 b k F X b0 b1 p hf _ (Ap4 p) L2 8 0 Ef7 rfl (by simpa using I49) rfl) [0,0,0] rfl ?_
 intro v h q
 exact q
theorem Eg1 {nc:Nat} {more:List Int} (hm:Al0 8 more):∀ (m:Nat) (j:Int) (X:CX),Clean nc X→Hl5 more X j→0≤j→j+m=12 →
  Clean nc (Bt3 more m j X)∧(∀ i:Int,0≤i∧i<8→vS (Bt3 more m j X) i=vS X i) ∧
  (∀ i:Int,0≤i∧i<12→vF (Bt3 more m j X) i=if j≤i∧more.getD i.toNat 0≠0 then (Am4 (vF X i).1 (more.getD i.toNat 0),1) else vF X i)∧(∀ i:Int,0≤i∧i<3+nc→vP (Bt3 more m j X) i=vP X i)
 | 0,j,X,c,_,h0,hj=>⟨c,fun _ _=>rfl,fun i hi=>by rw [if_neg (by omega)];rfl,fun _ _=>rfl⟩
 | m+1,j,X,c,s,h0,hj=>by
  rw [show Bt3 more (m+1) j X=Bt3 more m (j+1) (if more.getD j.toNat 0=0 then X else setF X j (Am4 (vF X j).1 (more.getD j.toNat 0))) from rfl]
  by_cases hz:more.getD j.toNat 0=0
  ·rw [if_pos hz]
   obtain ⟨a1,a2,a3,a4⟩:=Eg1 hm m (j+1) X c (fun i h1 h2 h3=>s i (by omega) h2 h3) (by omega) (by omega)
   refine ⟨a1,a2,fun i hi=>?_,a4⟩
   rw [a3 i hi]
   by_cases hij:i=j
   ·subst hij
    rw [if_neg (by omega),if_neg (by simp only [hz];simp)]
   ·by_cases h2:j≤i∧more.getD i.toNat 0≠0
    ·rw [if_pos h2,if_pos ⟨by omega,h2.2⟩]
    ·rw [if_neg h2,if_neg (fun h3=>h2 ⟨by omega,h3.2⟩)]
  ·rw [if_neg hz]
   obtain ⟨k1,s2⟩:=s.step c hm (by omega) hz
   obtain ⟨w1,w2,w3,w4,w5⟩:=S6 c (i:=j) (by omega) k1
   obtain ⟨a1,a2,a3,a4⟩:=Eg1 hm m (j+1) _ w2 s2 (by omega) (by omega)
   refine ⟨a1,fun i hi=>by rw [a2 i hi,w3 i hi],fun i hi=>?_,fun i hi=>by rw [a4 i hi,w5 i hi]⟩
   rw [a3 i hi,w4 i hi]
   by_cases hij:i=j
   ·subst hij
    rw [if_neg (by omega),if_pos rfl,if_pos ⟨by omega,hz⟩]
   ·rw [if_neg hij]
    by_cases h2:j≤i∧more.getD i.toNat 0≠0
    ·rw [if_pos h2,if_pos ⟨by omega,h2.2⟩]
    ·rw [if_neg h2,if_neg (fun h3=>h2 ⟨by omega,h3.2⟩)]
theorem Ip8 (l:List UInt8) (i:Nat):0≤byI l i∧byI l i<256:=by
 have:=(l.getD i 0).toNat_lt
 unfold byI;omega
theorem Gq8 (l:List UInt8) (j:Nat):0≤two l j∧two l j≤65535:=by
 have:=Ip8 l j;have:=Ip8 l (j+1)
 unfold two;omega
theorem At9 (l:List UInt8):InS (N8 l).1:=by
 unfold N8
 split
 ·exact ⟨by simp,by simp,by simp,by simp⟩
 ·split
  ·exact ⟨Gq8 _ _,Gq8 _ _,Gq8 _ _,Gq8 _ _⟩
  ·exact ⟨by simp,by simp,by simp,by simp⟩
theorem Ba3 {p:ProcS} (h:okS p=true):Bk3 p.fds:=fun f hf=>by
 unfold okS at h
 simp only [Bool.and_eq_true,Bool.not_eq_true',List.any_eq_false] at h
 have:=h.2.2.1 f hf
 simp at this;omega
abbrev W9 (p:ProcS) (i:Int):ProcS:=⟨p.state,i+1,p.group,p.code,0,p.mask,p.ignored,p.caught,p.fds,p.len⟩
theorem G62 {p:ProcS} (h:okS p=true) (h1:p.state=1) {i:Int} (hi:0≤i∧i<8):okS (W9 p i)=true:=by
 unfold okS at h ⊢
 rw [if_neg (by rw [h1];decide)] at h
 rw [if_neg (show ¬ (W9 p i).state=2 by show ¬ p.state=2;rw [h1];decide)]
 simp only [Bool.and_eq_true,Bool.not_eq_true',Bool.or_eq_false_iff,decide_eq_false_iff_not] at h ⊢
 obtain ⟨⟨⟨⟨⟨⟨⟨⟨a1,a2⟩,a3⟩,a4⟩,a5⟩,a6⟩,a7⟩,a8⟩,⟨⟨⟨⟨b1,b2⟩,b3⟩,b4⟩,b5⟩,d1,d2⟩:=h
 exact ⟨⟨⟨⟨⟨⟨⟨⟨a1,a2⟩,by show ¬ i+1<0;omega⟩,by show ¬ i+1>8;omega⟩,a5⟩,a6⟩,a7⟩,a8⟩,⟨⟨⟨⟨by simp [I63],b2⟩,b3⟩,b4⟩,b5⟩,d1,d2⟩
def Ek2 (X:CX) (i:Int):List Value × CX :=
 if (G7 X i).2≠0 then (E5 0 (G7 X i).2 false,X)
 else if Av0 X 8 0<0 then (E5 0 111 false,X)
 else if (Ac8 X (G7 X i).1).1≠0 then (E5 0 (Ac8 X (G7 X i).1).1 false,X)
 else (E5 (Av0 X 8 0) 0 false,Ao0 (Ac8 X (G7 X i).1).2 (Av0 X 8 0) (W9 (G7 X i).1 i))
theorem Gn9 {X:CX}:∀ (m:Nat) (i:Int),0≤i→i+m=8→Av0 X m i=-1∨(0≤Av0 X m i∧Av0 X m i<8∧(vS X (Av0 X m i)).2=0)
 | 0,i,_,_=>.inl rfl
 | m+1,i,h0,hi=>by
  rw [show Av0 X (m+1) i=if (vS X i).2=0 then i else Av0 X m (i+1) from rfl]
  split
  ·rename_i h;exact .inr ⟨h0,by omega,h⟩
  ·exact Gn9 m (i+1) (by omega) (by omega)
theorem Aq2 {nc:Nat} {X:CX} (c:Clean nc X) {i:Int} (hi:0≤i∧i<8) (h:(G7 X i).2=0):G7 X i=((vS X i).1,0)∧(vS X i).1.state=1∧okS (vS X i).1=true∧(vS X i).2=1:=by
 unfold G7 at h ⊢
 split
 ·rename_i h1
  refine ⟨rfl,h1.2,?_,h1.1⟩
  rcases Ez8 c hi with ⟨h2,_⟩|⟨_,h2⟩
  ·rw [h1.1] at h2;cases h2
  ·exact h2
 ·rename_i h1;rw [if_neg h1] at h;cases h
theorem Hv5 {X:CX} {p:ProcS} (h:(Ac8 X p).1≠0):(Ac8 X p).2=X:=by
 unfold Ac8 at h ⊢
 split
 ·rename_i h1;rw [if_pos h1] at h;exact absurd rfl h
 ·rfl
theorem Ge2 {nc:Nat} {X:CX} (c:Clean nc X) {p:ProcS} (hf:Bk3 p.fds) (h:(Ac8 X p).1=0):Clean nc (Ac8 X p).2∧(∀ i:Int,0≤i∧i<8→vS (Ac8 X p).2 i=vS X i) ∧
  (∀ i:Int,0≤i∧i<12→vF (Ac8 X p).2 i=if (Ap4 p).getD i.toNat 0≠0 then (Am4 (vF X i).1 ((Ap4 p).getD i.toNat 0),1) else vF X i)∧(∀ i:Int,0≤i∧i<3+nc→vP (Ac8 X p).2 i=vP X i):=by
 unfold Ac8 at h ⊢
 split
 ·rename_i he
  obtain ⟨a1,a2,a3,a4⟩:=Eg1 (G16 hf) 12 0 X c (H14 hf he) (by omega) (by omega)
  refine ⟨a1,a2,fun i hi=>?_,a4⟩
  rw [a3 i hi]
  by_cases h2:(Ap4 p).getD i.toNat 0≠0
  ·rw [if_pos h2,if_pos ⟨hi.1,h2⟩]
  ·rw [if_neg h2,if_neg (fun h3=>h2 h3.2)]
 ·rename_i he;rw [if_neg he] at h;exact absurd h he
theorem Jq9 (b k:Nat) (F:Fr) (X:CX) (ok:FrOk F) {nc:Nat} (c:Clean nc X) (i:Int) (hi:0≤i∧i<8):Ct A5 Bt7 [P0 b,int i] [cmC b k F X] fun v own=>v=.agg ⟨(Ek2 X i).1⟩∧own [cmC b k F (Ek2 X i).2]:=by
 have e1:=wI i
 unfold Ek2
 refine Ct.of Gw2 rfl fun h r=>Tr.eq (Gx9 ..) ?_;refine Je ?_
 refine Yn fun b0 h=>?_
 refine Yc (Di4 b k F X ok c i hi) ?_;rintro _ h ⟨rfl,o⟩<;>refine Jh o ?_
 (refine Jc ?_;intros)
 refine Yn fun b1 h=>?_
 (refine Ja ?_;intros)
 by_cases h0:(G7 X i).2=0
 case neg =>
  rw [if_pos h0]
  refine Yt (by simpa using h0) ?_
  refine Yc (Bk8 (G7 X i).2) ?_;rintro _ h ⟨rfl,o⟩<;>(refine Jf o ?_;intros)
  refine Ys fun o=>?_
  exact ⟨rfl,o.sub⟩
 rw [if_neg (by simpa using h0)]
 refine Yf (by simpa using h0) ?_
 obtain ⟨s1,s2,s3,s4⟩:=Aq2 c hi h0
 refine Yc (Jt7 b k F X ok c) ?_;rintro _ h ⟨rfl,o⟩<;>refine Jh o ?_
 (refine Ja ?_;intros)
 by_cases h1:Av0 X 8 0<0
 ·rw [if_pos h1]
  refine Yt (by simpa using h1) ?_
  refine Yc (Bk8 111) ?_;rintro _ h ⟨rfl,o⟩<;>(refine Jf o ?_;intros)
  refine Ys fun o=>?_
  exact ⟨rfl,o.sub⟩
 rw [if_neg h1]
 refine Yf (by simpa using h1) ?_
 have hf:Bk3 (G7 X i).1.fds:=by rw [s1];exact Ba3 s3
 have hok:okS (W9 (G7 X i).1 i)=true:=by rw [s1];exact G62 s3 s2 hi
 have hin:InS (W9 (G7 X i).1 i):=by
  have:=At9 (rd X ⟨1,i⟩)
  rw [s1]
  exact ⟨by simp,this.b,this.c,this.d⟩
 generalize (G7 X i).1=p at hf hok hin
 (refine Ja ?_;intros)
 refine Yc (Ja5 b k F X ok c p hf) ?_;rintro _ h ⟨rfl,o⟩<;>refine Jh o ?_
 (refine Ja ?_;intros)
 by_cases h2:(Ac8 X p).1=0
 case neg =>
  rw [if_pos h2]
  rw [Hv5 h2] at o ⊢
  refine Yt (by simpa using h2) ?_
  refine Yc (Bk8 (Ac8 X p).1) ?_;rintro _ h ⟨rfl,o⟩<;>(refine Jf o ?_;intros)
  refine Ys fun o=>?_
  exact ⟨rfl,o.sub⟩
 rw [if_neg (by simpa using h2)]
 refine Yf (by simpa using h2) ?_
 have cs:=(Ge2 c hf h2).1
 have hfr:0≤Av0 X 8 0∧Av0 X 8 0<8:=by
  rcases Gn9 (X:=X) 8 0 (by omega) (by omega) with h|h<;>omega
 obtain ⟨w1,_⟩:=Ab4 cs hfr hok hin
 (refine Ja ?_;intros)
 rw [e1,show ((B8 p).set 1 (int (i+1))).set 4 (int 0)=B8 (W9 p i) from rfl]
 generalize W9 p i=q at hok hin w1
 (refine Ja ?_;intros)
 refine Yc (Bf9 b k F (Ac8 X p).2 ok (Av0 X 8 0) q) ?_;rintro _ h ⟨rfl,o⟩<;>refine Jh o ?_
 rw [w1]
 dsimp only
 (refine Ja ?_;intros)
 refine Yc (Di0 true (Av0 X 8 0)) ?_;rintro _ h ⟨rfl,o⟩<;>refine Jh o ?_
 rw [if_pos trivial]
 (refine Ja ?_;intros)
 refine Ys fun o=>?_
 exact ⟨rfl,o.sub⟩
abbrev B51 (s:Int × ProcS):List Value:=int s.1::B8 s.2
def M8 (X:CX) (q:Int→ProcS→Bool):Nat→Int→List (Int × ProcS)
 | 0,_=>[]
 | m+1,i=>if (vS X i).2=1∧q i (vS X i).1=true then (i,(vS X i).1)::M8 X q m (i+1) else M8 X q m (i+1)
theorem Ey8 (X:CX) (q:Int→ProcS→Bool):∀ (m:Nat) (i:Int),(M8 X q m i).length≤m
 | 0,i=>by simp [M8]
 | m+1,i=>by
  have:=Ey8 X q m (i+1)
  unfold M8;split<;>simp<;>omega
theorem Av6 (j:Int) (p:ProcS):(int j::B8 p).length=17:=by simp [Ah9 p,p.len]
instance {j:Int} {p:ProcS}:LenC (int j::B8 p) 17:=⟨Av6 j p⟩
instance {j:Int} {p:ProcS}:PartC (int j::B8 p) 0 17 (int j::B8 p):=⟨Bm3 (Av6 j p)⟩
instance {j:Int} {p:ProcS} {cs:List Value} [k:LenC cs 17]:SetsC cs 0 (int j::B8 p) (int j::B8 p):=⟨Dg8 k.ok (Av6 j p) (by simp [Value.oneCell])⟩
theorem In3 (b k:Nat) (F:Fr) (X:CX) (ok:FrOk F) {nc:Nat} (c:Clean nc X) (pr:HP) (g:FuncId) (cp:List Value) (q:Int→ProcS→Bool)
  (hq:∀ (j:Int) (p:ProcS),Ct A5 g (.agg ⟨int j::B8 p⟩::cp) [pr] fun v own=>v=.bool (q j p)∧own [pr]):∀ (m:Nat) (i:Int) (acc:List (Int × ProcS)) (a:Option Addr) (ac:Nat),0≤i→i+m=8→acc.length≤i →
  CtJ D8 Ai6 Bd5 [(0,P0 b),(1,.func (.func g) ⟨[]⟩ ⟨cp⟩),(5,.slice a acc.length ac),(10,int i)] [slC false V3 17 a acc.length ac (acc.flatMap B51),cmC b k F X,pr] fun v own =>
   ∃ a' c',v=.slice a' (acc++M8 X q m i).length c'∧own [slC false V3 17 a' (acc++M8 X q m i).length c' ((acc++M8 X q m i).flatMap B51),cmC b k F X,pr]:=by
 intro m
 induction m with
 | zero =>
  intro i acc a ac h0 hi ha
  refine CtJ.of Eh6 fun h r=>Tr.eq (Ek1 ..) ?_;refine Je ?_
  refine Yf (by simp;omega) ?_
  refine Ys fun o=>?_
  rw [show M8 X q 0 i=[] from rfl,List.append_nil]
  exact ⟨a,ac,rfl,o.sub⟩
 | succ m ih =>
  intro i acc a ac h0 hi ha
  have e1:=wI i
  refine CtJ.of Eh6 fun h r=>Tr.eq (Ek1 ..) ?_;refine Je ?_
  refine Yt (by simp;omega) ?_
  rw [e1]
  refine Yc (B21 b k F X ok i) ?_;rintro _ h ⟨rfl,o⟩<;>refine Jh o ?_
  rw [Be5 c (by omega)]
  dsimp only
  generalize hp:(vS X i).1=p
  simp only [List.append_nil,List.nil_append]
  (refine Jc ?_;intros)
  refine Yn fun b1 h=>?_
  (refine Jc ?_;intros)
  refine Yn fun b2 h=>?_
  (refine Jb ?_;intros)
  rw [show M8 X q (m+1) i=if (vS X i).2=1∧q i (vS X i).1=true then (i,(vS X i).1)::M8 X q m (i+1) else M8 X q m (i+1) from rfl,hp]
  by_cases h1:(vS X i).2=1
  ·refine Yb (Yt (by simpa using h1) ?_)
   (refine Jb ?_;intros)
   simp only [List.nil_append]
   refine Yc (hq i p) ?_;rintro _ h ⟨rfl,o⟩<;>refine Jh o ?_
   (refine Jb ?_;intros)
   refine Ys fun o=>(?_:Tr _ _ _ _) o;refine Je ?_
   by_cases h2:q i p=true
   ·rw [if_pos ⟨h1,h2⟩]
    refine Yt h2 ?_
    (refine Jc ?_;intros)
    refine Yn fun b3 h=>?_
    (refine Ja ?_;intros)
    refine Tr.xCellsB (xs:=int i::B8 p) (Dt3 (Bm3 (Av6 i p))) ?_
    (refine Ja ?_;intros)
    refine Tr.xApd ⟨Av6 i p,by simp [Value.oneCell],by simp only [A7];omega⟩ fun a' c' h=>?_
    rw [show acc.flatMap B51++(int i::B8 p)=(acc++[(i,p)]).flatMap B51 by simp,show acc.length+1=(acc++[(i,p)]).length by simp]
    refine B9 [5,4,1] 3 rfl rfl ?_
    refine Yr (ih (i+1) (acc++[(i,p)]) a' c' (by omega) (by omega) (by simp;omega)) ?_
    intro v h q
    rw [List.append_assoc] at q
    exact q
   ·rw [if_neg (fun h3=>h2 h3.2)]
    refine Yf (by simpa using h2) ?_
    refine B9 [4,3,0] 2 rfl rfl ?_
    refine Yr (ih (i+1) acc a ac (by omega) (by omega) (by omega)) ?_
    intro v h q
    exact q
  ·rw [if_neg (fun h3=>h1 h3.1)]
   refine Yb (Yf (by simpa using h1) ?_)
   refine Ys fun o=>(?_:Tr _ _ _ _) o;refine Je ?_
   refine Yf rfl ?_
   refine B9 [3,2,2] 2 rfl rfl ?_
   refine Yr (ih (i+1) acc a ac (by omega) (by omega) (by omega)) ?_
   intro v h q
   exact q
theorem If1 (b k:Nat) (F:Fr) (X:CX) (ok:FrOk F) {nc:Nat} (c:Clean nc X) (pr:HP) (g:FuncId) (cp:List Value) (q:Int→ProcS→Bool)
  (hq:∀ (j:Int) (p:ProcS),Ct A5 g (.agg ⟨int j::B8 p⟩::cp) [pr] fun v own=>v=.bool (q j p)∧own [pr]) :
  Ct A5 Ai6 [P0 b,.func (.func g) ⟨[]⟩ ⟨cp⟩] [cmC b k F X,pr] fun v own=>∃ a' c',v=.slice a' (M8 X q 8 0).length c'∧own [slC false V3 17 a' (M8 X q 8 0).length c' ((M8 X q 8 0).flatMap B51),cmC b k F X,pr]:=by
 refine Ct.of Eh6 rfl fun h r=>Tr.eq (H16 ..) ?_;refine Je ?_
 refine E6 false V3 17 (by omega) ?_
 have J:=In3 b k F X ok c pr g cp q hq 8 0 [] none 0 (by omega) (by omega) (by simp)
 simp only [List.nil_append,List.length_nil,List.flatMap_nil] at J
 refine Yr J ?_
 intro v h q
 exact q
theorem Ji2 (bi:Nat) (i:Int) (hi:0≤i∧i<8) (j:Int) (p:ProcS):Ct A5 Bs7 [.agg ⟨int j::B8 p⟩,P0 bi] [pt bi (.cells A6 false [int i])] fun v own=>v=.bool (p.parent==i+1)∧own [pt bi (.cells A6 false [int i])]:=by
 have e1:=wI i
 refine Ct.of Hz4 rfl fun h r=>Tr.eq (Hy4 ..) ?_;refine Je ?_
 (refine Ja ?_;intros)
 refine Ys fun o=>?_
 rw [e1]
 exact ⟨rfl,o.sub⟩
theorem H12 (j:Int) (p:ProcS):Ct A5 A01 [.agg ⟨int j::B8 p⟩] [] fun v own=>v=.bool (p.state != 2)∧own []:=by
 refine Ct.of Gu3 rfl fun h r=>Tr.eq (Gv6 ..) ?_;refine Je ?_
 (refine Ja ?_;intros)
 refine Ys fun o=>?_
 exact ⟨rfl,o.sub⟩
def D84 (X:CX) (n:Nat):List (Int × ProcS)→List Value × CX
 | []=>(if n=0 then E5 0 110 false else E5 0 0 true,X)
 | s::l=>if s.2.state=2 then (E5 (256*s.1+s.2.code) 0 false,D36 X s.1) else D84 X n l
def Hc0 (X:CX) (i:Int):List Value × CX :=
 if (G7 X i).2≠0 then (E5 0 (G7 X i).2 false,X)
 else D84 X (M8 X (fun _ p=>p.parent==i+1) 8 0).length (M8 X (fun _ p=>p.parent==i+1) 8 0)
theorem D75 {nc:Nat} {X:CX} (c:Clean nc X) (q:Int→ProcS→Bool):∀ (m:Nat) (i:Int),0≤i→i+m=8→∀ s ∈ M8 X q m i,0≤s.1∧s.1<8∧okS s.2=true
 | 0,i,_,_,s,hs=>by simp [M8] at hs
 | m+1,i,h0,hi,s,hs=>by
  rw [show M8 X q (m+1) i=if (vS X i).2=1∧q i (vS X i).1=true then (i,(vS X i).1)::M8 X q m (i+1) else M8 X q m (i+1) from rfl] at hs
  split at hs
  ·rename_i h1
   rcases List.mem_cons.1 hs with rfl|h2
   ·refine ⟨h0,by simp only;omega,?_⟩
    rcases Ez8 c (i:=i) (by omega) with ⟨h3,_⟩|⟨_,h3⟩
    ·rw [h1.1] at h3;cases h3
    ·exact h3
   ·exact D75 c q m (i+1) (by omega) (by omega) s h2
  ·exact D75 c q m (i+1) (by omega) (by omega) s hs
theorem Jk8 {p:ProcS} (h:okS p=true):0≤p.code∧p.code≤255:=by
 unfold okS at h
 simp only [Bool.and_eq_true,Bool.not_eq_true',Bool.or_eq_false_iff,decide_eq_false_iff_not] at h
 have:=h.1
 omega
abbrev J31:List Value:=[int 0,int 0,.slice none 0 0,.bool false]
theorem Iy3 (b k:Nat) (F:Fr) (X:CX) (ok:FrOk F) {nc:Nat} (c:Clean nc X) (b4:Nat) (L:List (Int × ProcS)) (hL:∀ s ∈ L,0≤s.1∧s.1<8∧okS s.2=true) (h8:L.length≤8) (a:Option Addr) (ac:Nat):∀ (m i:Nat),i+m=L.length →
  CtJ D8 An2 B43 [(0,P0 b),(4,P0 b4),(7,.slice a L.length ac),(23,.slice a L.length ac),(24,int L.length),(25,int i)] [slC false V3 17 a L.length ac (L.flatMap B51),pt b4 (.cells Ab8 false J31),cmC b k F X] fun v own =>
   v=.agg ⟨(D84 X L.length (L.drop i)).1⟩∧own [cmC b k F (D84 X L.length (L.drop i)).2]:=by
 intro m
 induction m with
 | zero =>
  intro i hi
  rw [show L.drop i=[] from List.drop_eq_nil_of_le (by omega),show D84 X L.length []=(if L.length=0 then E5 0 110 false else E5 0 0 true,X) from rfl]
  refine CtJ.of Dy6 fun h r=>Tr.eq (Ex0 ..) ?_;refine Je ?_
  refine Yf (by simp;omega) ?_
  by_cases hz:L.length=0
  ·rw [if_pos hz]
   refine Yt (by simp [hz]) ?_
   refine Yc (Bk8 110) ?_;rintro _ h ⟨rfl,o⟩<;>(refine Jf o ?_;intros)
   refine Ys fun o=>?_
   exact ⟨rfl,o.sub⟩
  ·rw [if_neg hz]
   refine Yf (by simpa using hz) ?_
   (refine Ja ?_;intros)
   refine Ys fun o=>?_
   exact ⟨rfl,o.sub⟩
 | succ m ih =>
  intro i hi
  have hil:i<L.length:=by omega
  have e1:=wN i
  have hg:L[i]?=some L[i]:=List.getElem?_eq_getElem hil
  have hd:L.drop i=L[i]::L.drop (i+1):=List.drop_eq_getElem_cons hil
  obtain ⟨r1,r2,r3⟩:=hL _ (List.getElem_mem hil)
  rw [hd]
  generalize L[i]=s at hg r1 r2 r3
  obtain ⟨j,p⟩:=s
  simp only at r1 r2 r3
  rw [show D84 X L.length ((j,p)::L.drop (i+1))=if p.state=2 then (E5 (256*j+p.code) 0 false,D36 X j) else D84 X L.length (L.drop (i+1)) from rfl]
  have hpart:=Ak0 (f:=B51) (k:=17) (fun x=>Av6 x.1 x.2) hg
  have hlen:=O7 (f:=B51) (k:=17) (fun x=>Av6 x.1 x.2) L
  have hc:=Jk8 r3
  have e2:IntKind.wrap .i64 (256*j)=256*j:=by rw [B3];omega
  have e3:IntKind.wrap .i64 (256*j+p.code)=256*j+p.code:=by rw [B3];omega
  refine CtJ.of Dy6 fun h r=>Tr.eq (Ex0 ..) ?_;refine Je ?_
  refine Yt (by simp;omega) ?_
  rw [e1]
  refine U1 0 rfl fun h1 h2 h3=>?_
  (refine Jc ?_;intros;repeat(refine Gw ?_;rintro px rfl;refine Jc ?_;intros))
  rw [Int.toNat_natCast]
  refine Tr.xAggS (xs:=B51 (j,p)) ⟨by omega,by omega,hpart⟩ ?_
  refine Yn fun b2 h=>?_
  (refine Ja ?_;intros)
  refine Yc (H12 j p) ?_;rintro _ h ⟨rfl,o⟩<;>refine Jh o ?_
  (refine Ja ?_;intros)
  by_cases hz:p.state=2
  ·rw [if_pos hz]
   refine Yt (by simp [hz]) ?_
   (refine Ja ?_;intros)
   refine Yc (Dl3 b k F X ok j) ?_;rintro _ h ⟨rfl,o⟩<;>refine Jh o ?_
   rw [(Bi6 c ⟨r1,r2⟩).1]
   dsimp only
   (refine Ja ?_;intros)
   rw [e2,e3]
   refine Yc (Di0 true (256*j+p.code)) ?_;rintro _ h ⟨rfl,o⟩<;>refine Jh o ?_
   rw [if_pos trivial]
   (refine Ja ?_;intros)
   refine Ys fun o=>?_
   exact ⟨rfl,o.sub⟩
  ·rw [if_neg hz]
   refine Yf (by simp [hz]) ?_
   refine B9 [1,1,1] 1 rfl rfl ?_
   refine Yr (ih (i+1) (by omega)) ?_
   intro v h q
   exact q
theorem Jt5 (b k:Nat) (F:Fr) (X:CX) (ok:FrOk F) {nc:Nat} (c:Clean nc X) (i:Int) (hi:0≤i∧i<8):Ct A5 An2 [P0 b,int i] [cmC b k F X] fun v own=>v=.agg ⟨(Hc0 X i).1⟩∧own [cmC b k F (Hc0 X i).2]:=by
 unfold Hc0
 refine Ct.of Dy6 rfl fun h r=>Tr.eq (Gv8 ..) ?_;refine Je ?_
 refine Yn fun bi h=>?_
 refine Yn fun b4 h=>?_
 (refine Ja ?_;intros)
 refine Yc (Di4 b k F X ok c i hi) ?_;rintro _ h ⟨rfl,o⟩<;>refine Jh o ?_
 (refine Jc ?_;intros)
 refine Yn fun b2 h=>?_
 (refine Ja ?_;intros)
 by_cases h0:(G7 X i).2=0
 case neg =>
  rw [if_pos h0]
  refine Yt (by simpa using h0) ?_
  refine Yc (Bk8 (G7 X i).2) ?_;rintro _ h ⟨rfl,o⟩<;>(refine Jf o ?_;intros)
  refine Ys fun o=>?_
  exact ⟨rfl,o.sub⟩
 rw [if_neg (by simpa using h0)]
 refine Yf (by simpa using h0) ?_
 refine Yc (If1 b k F X ok c (pt bi (.cells A6 false [int i])) Bs7 [P0 bi] (fun _ p=>p.parent==i+1) (fun j p=>Ji2 bi i hi j p)) ?_;rintro _ h ⟨a,ac,rfl,o⟩<;>refine Jh o ?_
 (refine Ja ?_;intros)
 refine B9 [0,3,0] 2 rfl rfl ?_
 refine Yr (Iy3 b k F X ok c b4 _ (D75 c _ 8 0 (by omega) (by omega)) (Ey8 X _ 8 0) a ac _ 0 (Nat.zero_add _)) ?_
 intro v h q
 exact q
def p0:ProcS:=⟨1,0,0,0,0,0,0,0,[1,0,0,0,0,0,0,0],rfl⟩
def f0:FileS:=⟨3,0,1,0⟩
def Bc3:List UInt8:=P1 (P1 Ak6 0 (Gh8 p0)) 192 (As8 f0)
theorem Dm7:Bc3.length=492:=by kernel_rfl
theorem Gd4:(Gh8 p0).length=24:=by kernel_rfl
theorem Hr3 (l b:List UInt8) (a:Nat):(A0 l).take a++A0 b++(A0 l).drop (a+(A0 b).length)=A0 (P1 l a b):=by
 rw [Ad2]
 simp [P1,A0,List.map_take,List.map_drop]
theorem Jm9 {b:List UInt8} (h:0<b.length):A0 b≠[]:=by
 intro e
 have e2:=congrArg List.length e
 rw [Ad2] at e2
 have e3:b.length=0:=e2
 omega
theorem H85:Ct A5 Br3 [] [] fun v own=>∃ a,v=.slice a 492 492∧own [slC false A3 1 a 492 492 (A0 Bc3)]:=by
 refine Ct.of Hw1 rfl fun h r=>Tr.eq (Hw5 ..) ?_;refine Je ?_
 refine Yc (Hs7) ?_;rintro _ h ⟨rfl,o⟩<;>refine Jh o ?_
 (refine Jc ?_;intros)
 rw [Bk7,Aj4]
 refine Tr.ck (by simp [A7]) ?_
 refine Yn fun b0 h=>?_
 refine Ed4 (n:=492) 0 rfl (by rw [Ad2];exact Aj4) ?_
 refine Je ?_
 refine Yn fun b1 h=>?_
 (refine Ja ?_;intros)
 rw [show ([int 1,int 0,int 0,int 0,int 0,int 0,int 0,int 0,int 0,int 0,int 0,int 0,int 0,int 0,int 0,int 0]:List Value).set 8 (int 1)=B8 p0 from rfl]
 (refine Ja ?_;intros)
 refine Yc (Jb4 p0) ?_;rintro _ h ⟨rfl,o⟩<;>refine Jh o ?_
 (refine Ja ?_;intros)
 rw [show List.take (min (bs (Gh8 p0)).size 492) (bs (Gh8 p0)).data.toList=Gh8 p0 by kernel_rfl]
 rw [show A8 (P4 b0)=(A8 (P4 b0)).add 0 from rfl]
 refine Tr.xPAggS (cs':=A0 (P1 Ak6 0 (Gh8 p0))) ⟨Jm9 (by rw [Gd4];omega),by rw [Ad2,Ad2,Gd4,Aj4];omega,Aq5 _,Hr3 _ _ 0⟩ fun h=>?_
 (refine Ja ?_;intros)
 refine Yc (I41 f0) ?_;rintro _ h ⟨rfl,o⟩<;>refine Jh o ?_
 (refine Ja ?_;intros)
 rw [show List.take (min (bs (As8 f0)).size (492-192)) (bs (As8 f0)).data.toList=As8 f0 by kernel_rfl]
 rw [Hp0 (by omega),Gj0]
 refine Tr.xPAggS (cs':=A0 Bc3) ⟨Jm9 (by rw [Eh8];omega),by rw [Ad2,Ad2,An7 (by rw [Gd4,Aj4];omega),Eh8,Aj4];omega,Aq5 _,Hr3 _ _ 192⟩ fun h=>?_
 refine Ys fun o=>?_
 exact ⟨_,rfl,o.sub⟩
theorem Iy7 {S:KS} (kS:Like S) {s:Nat} {env:Int} (e:EnvP s env) {j:Nat} {cap:Int} {lo n:Nat} (hc:Jm6[j]?=some cap) (hr:(rgP s)[j]?=some (lo,n)) {b:List UInt8} (hb:b.length≤n) :
  Ag7 S env ⟨2,cap,0,0,0,0,b⟩=((0,0,[]),B89 S (P1 S.mem lo b)):=by
 have F:=Hj1 kS e
 have hroom:lo+n≤S.mem.length:=E73 kS e.hs env j lo n hr
 have hp:=F.pl j cap lo n hc hr 0 b.length 2 (.inr rfl) (by omega)
 have hs:Br6 S.mem ((lo+0:Nat):Int) b=some (P1 S.mem lo b):=by
  unfold Br6
  rw [if_pos (by omega),Int.toNat_natCast,Nat.add_zero];rfl
 have ew:Aw7 S.tabs S.regs S.mem env cap 0 b=(0,P1 S.mem lo b):=by
  unfold Aw7
  rw [show W5 S.tabs S.regs env cap 2 0 (b.length:Int)=(((lo+0:Nat):Int),0) from hp]
  rw [if_neg (by simp),hs]
 unfold Ag7
 rw [if_neg (show ¬ (env<0∨env≥(S.envs.length:Int)) from F.env)]
 unfold kDo
 rw [if_neg (show ¬ ((2:Int)=1) by decide),if_pos rfl,ew]
def q1:PipeS:=⟨0,0,1,1,List.replicate 32 0,rfl⟩
def S1:KS:=B89 S0 (P1 S0.mem 0 Bc3)
def S2:KS:=B89 S1 (P1 S1.mem 512 (O5 q1))
def S3:KS:=B89 S2 (P1 S2.mem 1856 (O5 q1))
theorem Bc8:(O5 q1).length=40:=De7 q1.len
theorem Hd8:Like S1:=E54 En1 (by rw [An7 (by rw [Dm7,En1.mem];omega)];exact En1.mem)
theorem Hh4:Like S2:=E54 Hd8 (by rw [An7 (by rw [Bc8,Hd8.mem];omega)];exact Hd8.mem)
theorem Hb4:Like S3:=E54 Hh4 (by rw [An7 (by rw [Bc8,Hh4.mem];omega)];exact Hh4.mem)
theorem J36:Ag7 S0 0 ⟨2,256,0,0,0,0,Bc3⟩=((0,0,[]),S1):=Iy7 En1 Hk8 (j:=0) rfl rfl (by rw [Dm7];omega)
theorem J07:Ag7 S1 0 ⟨2,257,0,0,0,0,O5 q1⟩=((0,0,[]),S2):=Iy7 Hd8 Hk8 (j:=1) rfl rfl (by rw [Bc8];omega)
theorem J37:Ag7 S2 0 ⟨2,258,0,0,0,0,O5 q1⟩=((0,0,[]),S3):=Iy7 Hh4 Hk8 (j:=2) rfl rfl (by rw [Bc8];omega)
abbrev F1:Fr:=frP S3 0 0
def X1:CX:=⟨Do6 S3.mem (rgP 0),[]⟩
theorem Au8:FrOk F1:=Hj1 Hb4 Hk8
theorem H97:Clean 3 X1:=by
 refine ⟨by kernel_rfl,by omega,rfl,by kernel_rfl,fun j h0 h1=>?_,fun r h1 h2 h3 h4=>?_⟩
 ·have:j=1∨j=2:=by omega
  rcases this with rfl|rfl
  ·clear h0 h1;show (_:Nat)=_;kernel_rfl
  ·clear h0 h1;show (_:Nat)=_;kernel_rfl
 ·have all:((List.range 8).all (fun i=>decide (stR 1 (rd X1 ⟨1,(i:Int)⟩)≠2)) && ((List.range 12).all (fun i=>decide (stR 2 (rd X1 ⟨2,(i:Int)⟩)≠2)) && ((List.range 6).all (fun i=>decide (stR 3 (rd X1 ⟨3,(i:Int)⟩)≠2)) && (decide (stR 4 (rd X1 ⟨4,0⟩)≠2) && decide (stR 5 (rd X1 ⟨5,0⟩)≠2)))))=true:=by kernel_rfl
  simp only [Bool.and_eq_true,List.all_eq_true,List.mem_range,decide_eq_true_eq] at all
  obtain ⟨a1,a2,a3,a4,a5⟩:=all
  obtain ⟨k,i⟩:=r
  simp only at h1 h2 h3 h4 ⊢
  obtain ⟨n,rfl⟩:∃ n:Nat,i=n:=⟨i.toNat,by omega⟩
  have hk:k=1∨k=2∨k=3∨k=4∨k=5:=by omega
  rcases hk with rfl|rfl|rfl|rfl|rfl<;>simp [J8] at h4
  ·exact a1 n (by omega)
  ·exact a2 n (by omega)
  ·exact a3 n (by omega)
  ·obtain rfl:n=0:=by omega
   exact a4
  ·obtain rfl:n=0:=by omega
   exact a5
theorem Iz3 (k w m c:Nat) (b1:Nat) (cs:List Value) (hcs:cs.length=7) (K:RKS) (hK:RKOk K) (hB:0<K.B.envs.length) :
  CtJ D8 Ao5 Bx5 [(6,P0 k),(7,P0 c),(8,P0 w),(9,P0 m),(10,P0 b1),(11,.string (bs (O5 q1))),(12,int 1)] [pt b1 (.cells Bc7 false cs),E8 k S1,rkC w K] fun v own =>
   v=.tuple ⟨[P0 k,P0 c,P0 w,P0 m]⟩∧∃ K',own [E8 k S3,rkC w K']:=by
 have hset:∀ xs:List Value,xs.length=7→∀ vs:List Value,vs.length=7→vs.all Value.oneCell=true→Dp6 xs 0 vs=some vs:=fun xs h vs h1 h2=>Dg8 h h1 h2
 refine CtJ.of Do8 fun h r=>Tr.eq (Dm2 ..) ?_;refine Je ?_
 refine Yt rfl ?_
 rw [Bk7,Bc8]
 refine Tr.ck (by simp [A7]) ?_
 refine Yn fun b2 h=>?_
 refine Ed4 (n:=40) 0 rfl (by rw [Ad2];exact Bc8) ?_
 refine Je ?_
 rw [show IntKind.wrap .i64 (256+1)=257 by decide]
 refine Gs (fun h=>?_) (by exact hset cs hcs _ rfl rfl)
 (refine Ja ?_;intros)
 have J1:=Ew7 k S1 0 Hd8.ok (by omega) 0 ⟨2,257,0,0,0,0,O5 q1⟩ (some (P4 b2)) 40 false (show ((2:Int)≠5) by decide)
 rw [J07] at J1
 simp only [B28,Bc8] at J1
 refine Dg5 J1 [2,0] rfl ?_
 rintro _ h ⟨y,z,rfl,o⟩
 refine (?_:Tr _ _ _ _) o
 refine Je ?_
 (refine Ja ?_;intros)
 have R1:=Gq1 w K hK 0 hB ⟨2,257,0,0,0,0,O5 q1⟩ rfl (by rw [Bc8];simp [A7]) (slC false A3 1 (some (P4 b2)) (O5 q1).length 40 (A0 (O5 q1))) (some (P4 b2)) 40 false
 simp only [B28,Bc8] at R1
 refine Dg5 R1 [4,2] rfl ?_
 rintro _ h ⟨rfl,o⟩
 rw [show ({ K with R:=(As1 K.R ((0:Nat):Int) 257 0 (O5 q1)).2 }:RKS)=wrR K 257 (O5 q1) from rfl] at o
 have hK1:=Hc8 hK 257 (O5 q1)
 refine (?_:Tr _ _ _ _) o
 refine Je ?_
 (refine Ja ?_;intros)
 refine Tr.jmp Do8 (Tr.eq (Dm2 ..) ?_);(try simp only[Nr,Nl,wl,Nat.reduceAdd,Nat.reduceMul,Int.reduceToNat])
 refine Yt rfl ?_
 rw [Bk7,Bc8]
 refine Tr.ck (by simp [A7]) ?_
 refine Yn fun b3 h=>?_
 refine Ed4 (n:=40) 0 rfl (by rw [Ad2];exact Bc8) ?_
 refine Je ?_
 rw [show IntKind.wrap .i64 (256+2)=258 by decide]
 refine Gs (fun h=>?_) (by exact hset _ rfl _ rfl rfl)
 (refine Ja ?_;intros)
 have J2:=Ew7 k S2 0 Hh4.ok (by omega) 0 ⟨2,258,0,0,0,0,O5 q1⟩ (some (P4 b3)) 40 false (show ((2:Int)≠5) by decide)
 rw [J37] at J2
 simp only [B28,Bc8] at J2
 refine Dg5 J2 [4,0] rfl ?_
 rintro _ h ⟨y2,z2,rfl,o⟩
 refine (?_:Tr _ _ _ _) o
 refine Je ?_
 (refine Ja ?_;intros)
 have R2:=Gq1 w (wrR K 257 (O5 q1)) hK1 0 hB ⟨2,258,0,0,0,0,O5 q1⟩ rfl (by rw [Bc8];simp [A7]) (slC false A3 1 (some (P4 b3)) (O5 q1).length 40 (A0 (O5 q1))) (some (P4 b3)) 40 false
 simp only [B28,Bc8] at R2
 refine Dg5 R2 [3,2] rfl ?_
 rintro _ h ⟨rfl,o⟩
 rw [show ({ wrR K 257 (O5 q1) with R:=(As1 (wrR K 257 (O5 q1)).R ((0:Nat):Int) 258 0 (O5 q1)).2 }:RKS)=wrR (wrR K 257 (O5 q1)) 258 (O5 q1) from rfl] at o
 refine (?_:Tr _ _ _ _) o
 refine Je ?_
 (refine Ja ?_;intros)
 refine Tr.jmp Do8 (Tr.eq (Dm2 ..) ?_);(try simp only[Nr,Nl,wl,Nat.reduceAdd,Nat.reduceMul,Int.reduceToNat])
 refine Yf rfl ?_
 refine Ys fun o=>?_
 exact ⟨rfl,_,o.fin [3,0] 5 rfl rfl⟩
theorem Jn7:RKOk K0:=Hc8 Eu4.1 256 Ak6
theorem Ir0:0<K0.B.envs.length:=by show (0:Nat)<(D48 Ar6).B.envs.length;rw [Eu4.2,Dg0];simp
theorem Io0 (a:Option Addr):Ct A5 Ao5 [.slice a 492 492] [slC false A3 1 a 492 492 (A0 Bc3)] fun v own=>∃ k c w m K',v=.tuple ⟨[P0 k,P0 c,P0 w,P0 m]⟩∧own [cmC c k F1 X1,rkC w K',rcC m w 0 (Dl6 K0 0) []]:=by
 refine Ct.of Do8 rfl fun h r=>Tr.eq (H29 ..) ?_;refine Je ?_
 refine Yc (Ji3) ?_;rintro _ h ⟨A,rfl,o⟩<;>refine Jh o ?_
 (refine Ja ?_;intros)
 refine Yc (Jm2 A) ?_
 rintro _ h ⟨k,c,w,m,rfl,o⟩
 refine (?_:Tr _ _ _ _) o
 refine Je ?_
 (refine Jb ?_;intros)
 refine Yb (Yf rfl ?_)
 refine Ys fun o=>(?_:Tr _ _ _ _) o;refine Je ?_
 refine Yf rfl ?_
 refine Jz6 c k F0 X0 fun f=>?_
 rw [show F0.at X0.m=S0 from Fr.at_cut Jm8 (E73 En1 (by omega) 0)]
 refine (?_:Tr (E8 k S0::R0 c k 0 Jm6 []::_) _ _ _)
 refine Yn fun b1 h=>?_
 (refine Ja ?_;intros)
 refine Yc (Hu5 q1) ?_;rintro _ h ⟨rfl,o⟩<;>refine Jh o ?_
 (refine Ja ?_;intros)
 have J1:=Ew7 k S0 0 En1.ok (by omega) 0 ⟨2,256,0,0,0,0,Bc3⟩ a 492 false (show ((2:Int)≠5) by decide)
 rw [J36] at J1
 simp only [B28,Dm7] at J1
 refine Dg5 J1 [1,4] rfl ?_
 rintro _ h ⟨y,z,rfl,o⟩
 refine (?_:Tr _ _ _ _) o
 refine Je ?_
 (refine Ja ?_;intros)
 have R1:=Gq1 w K0 Jn7 0 Ir0 ⟨2,256,0,0,0,0,Bc3⟩ rfl (by rw [Dm7];simp [A7]) (slC false A3 1 a Bc3.length 492 (A0 Bc3)) a 492 false
 simp only [B28,Dm7] at R1
 refine Dg5 R1 [5,2] rfl ?_
 rintro _ h ⟨rfl,o⟩
 rw [show ({ K0 with R:=(As1 K0.R ((0:Nat):Int) 256 0 Bc3).2 }:RKS)=wrR K0 256 Bc3 from rfl] at o
 refine (?_:Tr _ _ _ _) o
 refine Je ?_
 (refine Ja ?_;intros)
 refine Du5 (Iz3 k w m c b1 _ rfl (wrR K0 256 Bc3) (Hc8 Jn7 256 Bc3) Ir0) [4,3,0] rfl ?_
 rintro _ h ⟨rfl,K',o⟩
 refine ⟨k,c,w,m,K',rfl,?_⟩
 exact Own.cmTake c k F1 [] Au8 (E73 Hb4 (by omega) 0) (o.fin [0,3,0,2] 2 rfl rfl)
def X2:CX:=(Ek2 X1 0).2
abbrev Gq3:List (Int × Int):=[(0,492),(1280,492),(512,40),(1856,40)]
theorem Jy4 (rg m s:Nat) (bs:List UInt8) (hl:bs.length=2560):Ct A5 Ao7 [P0 rg,int 0] [Ag4 rg m s Gq3,Am2 m bs] fun v own =>
  ∃ x d,v=.tuple ⟨[.slice x 492 d,int 0]⟩∧own [slC false A3 1 x 492 d (A0 (slice bs 0 492)),Ag4 rg m s Gq3,Am2 m bs]:=by
 have hb:Dy7 bs 0 492=some (slice bs 0 492):=by unfold Dy7;rw [if_pos (by omega)];rfl
 have hsl:(slice bs 0 492).length=492:=Gd7 (by omega)
 refine Ct.of E78 rfl fun h r=>Tr.eq (E17 ..) ?_;refine Je ?_
 refine B5 (Ag4 rg m s Gq3) fun ⟨ra,rc⟩=>?_;refine Je ?_
 (refine Jb ?_;intros)
 refine Yb (Yf rfl ?_)
 (refine Jb ?_;intros)
 refine Ys fun o=>(?_:Tr _ _ _ _) o;refine Je ?_
 refine Yf rfl ?_
 (refine Ja ?_;intros)
 refine I17 1 rfl (show 0<Gq3.length by decide) fun px e=>?_
 subst e
 (refine Ja ?_;intros)
 refine Tr.ck ⟨by omega,by decide⟩ ?_
 (refine Ja ?_;intros)
 refine Tr.ck ⟨by omega,by decide⟩ ?_
 (refine Ja ?_;intros)
 refine Yc (Iq1 m bs 0 492 (by omega)) ?_
 rintro v h (⟨l,x,d,e,rfl,o⟩|⟨e,_⟩)
 ·rw [hb] at e;cases e
  refine (?_:Tr _ _ _ _) o
  refine Je ?_
  rw [hsl]
  (refine Ja ?_;intros)
  refine B4 (Ag4 rg m s Gq3) (some px,rc) ?_;refine Je ?_
  refine Ys fun o=>?_
  exact ⟨x,d,rfl,o.sub⟩
 ·rw [hb] at e;cases e
theorem If8 (k:Nat) (S:KS) (A:KA):CtP A5 Ac1 [P0 k] [pt k (.cells Dy9 false (E52 S A))] (P0 A.r):=by
 refine CtP.of Gb8 rfl fun h r=>Tr.eq (Gc2 ..) ?_;refine Je ?_
 exact Jz
theorem J21 {S:KS} (kS:Like S) {env:Int} (e:EnvP 0 env) {m:List (List UInt8)} (f:Fit S.mem.length (rgP 0) m):slice (A67 S.mem (rgP 0) m) 0 492=m.getD 0 []:=by
 obtain ⟨_,x,hx,hl⟩:=f.each 0 0 492 rfl
 have e0:m.getD 0 []=x:=by rw [List.getD_eq_getElem?_getD,hx];rfl
 have hs:=Hd1 f (Hj1 kS e).dj (j:=0) (lo:=0) (n:=492) rfl hx (a:=0) (c:=492) (by omega)
 rw [e0]
 rw [show (0+0:Nat)=0 from rfl] at hs
 rw [hs]
 unfold slice
 rw [List.drop_zero,List.take_of_length_le (by omega)]
theorem Jr6 (F:Fr) (m:List (List UInt8)):(F.at m).regs=F.S.regs:=rfl
theorem J17 (S:KS) (s:Nat) (env:Int):(frP S s env).S=S:=rfl
theorem Jx3 {r:List HP} {h:H} {α:Type} {Q:α→H→Prop} {kk:Value→H→Option (α × H)} (c k:Nat) (X:CX)
  (t:∀ y d h',Tr (slC false A3 1 y 492 d (A0 (X.m.getD 0 []))::cmC c k F1 X::r) h' (kk (.tuple ⟨[.slice y 492 d,int 0]⟩) h') Q) :
  Tr (cmC c k F1 X::r) h (bnd (A5 Ac1 [P0 k] h) fun v hv=>aPtr v fun x=>bnd (A5 Ao7 [.pointer x,int 0] hv) kk) Q:=by
 have hr:(F1.at X.m).regs=Gq3:=by rw [Jr6,J17,Hb4.regs,Hg7]
 have h2:(F1.at X.m).mem=A67 F1.S.mem F1.rg X.m:=F1.mem_at X.m
 refine B5 (cmC c k F1 X) fun u=>?_;refine Je ?_
 refine Q4 2 rfl fun f=>?_
 have hv:=J21 Hb4 Hk8 f
 have hl:(F1.at X.m).mem.length=2560:=by rw [h2,Dw3 f];exact Hb4.mem
 have hv2:slice (F1.at X.m).mem 0 492=X.m.getD 0 []:=by rw [h2];exact hv
 refine B5 (E8 k (F1.at X.m)) fun ⟨m,s,q,rg,ea,ec,ma,mc,ms,sa,sc,ss⟩=>?_;refine Je ?_
 refine Tr.pcall (If8 k (F1.at X.m) ⟨m,s,q,rg,ea,ec,ma,mc,ms,sa,sc,ss⟩) ?_;refine Je ?_;(refine Ja ?_;intros)
 try dsimp only
 rw [hr]
 refine Yc (Jy4 rg m s (F1.at X.m).mem hl) ?_;rintro _ h ⟨y,d,rfl,o⟩<;>refine Jh o ?_
 rw [hv2,← hr]
 refine B4 (E8 k (F1.at X.m)) ⟨m,s,q,rg,ea,ec,ma,mc,ms,sa,sc,ss⟩ ?_;refine Je ?_
 refine B4 (cmC c k F1 X) () ?_;refine Je ?_
 refine B9 [1,0] 0 rfl rfl ?_
 exact t y d _
theorem Jr3 {r:List HP} {h:H} {α:Type} {Q:α→H→Prop} {kk:Option Addr→H→Option (α × H)} (c k:Nat) (X:CX)
  (t:∀ rg:Nat,Tr (cmC c k F1 X::r) h (kk (some ⟨rg,0,none⟩) h) Q) :
  Tr (cmC c k F1 X::r) h (bnd (A5 Ac1 [P0 k] h) fun v hv=>aPtr v fun x=>kk x hv) Q:=by
 refine B5 (cmC c k F1 X) fun u=>?_;refine Je ?_
 refine Q4 2 rfl fun f=>?_
 refine B5 (E8 k (F1.at X.m)) fun ⟨m,s,q,rg,ea,ec,ma,mc,ms,sa,sc,ss⟩=>?_;refine Je ?_
 refine Tr.pcall (If8 k (F1.at X.m) ⟨m,s,q,rg,ea,ec,ma,mc,ms,sa,sc,ss⟩) ?_;refine Je ?_;(refine Ja ?_;intros)
 try dsimp only
 refine B4 (E8 k (F1.at X.m)) ⟨m,s,q,rg,ea,ec,ma,mc,ms,sa,sc,ss⟩ ?_;refine Je ?_
 refine B4 (cmC c k F1 X) () ?_;refine Je ?_
 exact t rg
section
variable {nc:Nat} {X:CX} (c:Clean nc X)
include c
abbrev B04 (X:CX) (i:Int) (p:PipeS):CX:=Dg2 X ⟨3,i⟩ (O5 p)
abbrev Eq1 (X:CX) (i:Int):CX:=Dg2 X ⟨2,i⟩ (List.replicate 8 0)
abbrev G29 (X:CX) (i:Int):CX:=Dg2 X ⟨3,i⟩ (List.replicate 40 0)
theorem B44 {i:Int} (h:0≤i∧i<3+nc) {p:PipeS} (ok:okP p=true) :
  Dd6 X i p=(true,B04 X i p)∧Clean nc (B04 X i p)∧(∀ j:Int,0≤j∧j<8→vS (B04 X i p) j=vS X j)∧(∀ j:Int,0≤j∧j<12→vF (B04 X i p) j=vF X j)∧(∀ j:Int,0≤j∧j<3+nc→vP (B04 X i p) j=if j=i then (p,1) else vP X j):=by
 have hl:(O5 p).length=Aa3 (3:Int):=by rw [De7 p.len];rfl
 refine ⟨by unfold Dd6;rw [ok];exact Dh8 c (B14 h) _,Dg7 c (B14 h) hl (by show (N7 (O5 p)).2≠2;rw [H68 ok];simp),fun j hj=>?_,fun j hj=>?_,fun j hj=>?_⟩
 ·show N8 (rd _ _)=_
  rw [An3 c (B14 h) (B05 hj) hl,if_neg (by simp)]
 ·show P6 (rd _ _)=_
  rw [An3 c (B14 h) (B24 hj) hl,if_neg (by simp)]
 ·show N7 (rd _ _)=_
  rw [An3 c (B14 h) (B14 hj) hl]
  by_cases e:j=i
  ·rw [if_pos (by rw [e]),if_pos e];exact H68 ok
  ·rw [if_neg (by simp [e]),if_neg e]
theorem Dx0 {i:Int} (h:0≤i∧i<12) :
  B34 X ⟨2,i⟩=(true,Eq1 X i)∧Clean nc (Eq1 X i)∧(∀ j:Int,0≤j∧j<8→vS (Eq1 X i) j=vS X j)∧(∀ j:Int,0≤j∧j<12→vF (Eq1 X i) j=if j=i then (.zero,0) else vF X j)∧(∀ j:Int,0≤j∧j<3+nc→vP (Eq1 X i) j=vP X j):=by
 have hl:(List.replicate 8 (0:UInt8)).length=Aa3 (2:Int):=rfl
 refine ⟨Dh8 c (B24 h) _,Dg7 c (B24 h) hl (by show (P6 (List.replicate 8 0)).2≠2;rw [show (P6 (List.replicate 8 0))=(.zero,0) from rfl];simp),fun j hj=>?_,fun j hj=>?_,fun j hj=>?_⟩
 ·show N8 (rd _ _)=_
  rw [An3 c (B24 h) (B05 hj) hl,if_neg (by simp)]
 ·show P6 (rd _ _)=_
  rw [An3 c (B24 h) (B24 hj) hl]
  by_cases e:j=i
  ·rw [if_pos (by rw [e]),if_pos e];rfl
  ·rw [if_neg (by simp [e]),if_neg e]
 ·show N7 (rd _ _)=_
  rw [An3 c (B24 h) (B14 hj) hl,if_neg (by simp)]
theorem Du6 {i:Int} (h:0≤i∧i<3+nc) :
  B34 X ⟨3,i⟩=(true,G29 X i)∧Clean nc (G29 X i)∧(∀ j:Int,0≤j∧j<8→vS (G29 X i) j=vS X j)∧(∀ j:Int,0≤j∧j<12→vF (G29 X i) j=vF X j)∧(∀ j:Int,0≤j∧j<3+nc→vP (G29 X i) j=if j=i then (.zero,0) else vP X j):=by
 have hl:(List.replicate 40 (0:UInt8)).length=Aa3 (3:Int):=rfl
 refine ⟨Dh8 c (B14 h) _,Dg7 c (B14 h) hl (by show (N7 (List.replicate 40 0)).2≠2;rw [show (N7 (List.replicate 40 0))=(.zero,0) from rfl];simp),fun j hj=>?_,fun j hj=>?_,fun j hj=>?_⟩
 ·show N8 (rd _ _)=_
  rw [An3 c (B14 h) (B05 hj) hl,if_neg (by simp)]
 ·show P6 (rd _ _)=_
  rw [An3 c (B14 h) (B24 hj) hl,if_neg (by simp)]
 ·show N7 (rd _ _)=_
  rw [An3 c (B14 h) (B14 hj) hl]
  by_cases e:j=i
  ·rw [if_pos (by rw [e]),if_pos e];rfl
  ·rw [if_neg (by simp [e]),if_neg e]
theorem Ir8 {i:Int} (h:0≤i∧i<3+nc):((vP X i).2=0∧(vP X i).1=.zero)∨((vP X i).2=1∧okP (vP X i).1=true):=by
 have:=c.ok ⟨3,i⟩ (by simp) (by simp) h.1 h.2
 have hk:(vP X i).2≠2:=this
 unfold vP N7 at hk ⊢
 split
 ·exact .inl ⟨rfl,rfl⟩
 ·split
  ·rename_i h2
   unfold isP at h2
   simp only [Bool.and_eq_true] at h2
   exact .inr ⟨rfl,h2.1⟩
  ·rename_i h1 h2;simp [h1,h2] at hk
end
abbrev Iv6 (q:PipeS):PipeS:=⟨q.head,q.count,max (q.readers-1) 0,q.writers,q.data,q.len⟩
abbrev Ir7 (q:PipeS):PipeS:=⟨q.head,q.count,q.readers,max (q.writers-1) 0,q.data,q.len⟩
def Dn5 (kind:Int) (q:PipeS):PipeS:=if kind=1 then Iv6 q else Ir7 q
theorem Gs2 {q:PipeS} (h:okP q=true) (kind:Int):okP (Dn5 kind q)=true:=by
 unfold Dn5
 split<;>(simp only [okP,Bool.and_eq_true,decide_eq_true_eq] at h ⊢;omega)
def Ew3 (X:CX) (i:Int) (q:PipeS):CX:=if q.readers+q.writers=0∧i<4 then G29 X i else B04 X i q
def Az8 (nc:Nat) (X:CX) (f:Int):Int × CX :=
 if (vF X f).2≠1 then (105,X)
 else if (vF X f).1.refs-1>0 then (0,setF X f (Am4 (vF X f).1 (-1)))
 else if (vF X f).1.kind=3 then (0,Eq1 X f)
 else if ¬ ((vF X f).1.pipe<3+nc∧(vP X (vF X f).1.pipe).2=1) then (105,Eq1 X f)
 else (0,Ew3 (Eq1 X f) (vF X f).1.pipe (Dn5 (vF X f).1.kind (vP X (vF X f).1.pipe).1))
theorem I75 {nc:Nat} {X:CX} (c:Clean nc X) {i:Int} (h:¬ i<3+nc):D68 X i=((.zero,2),X):=by
 have hp:E7 X.m.length ⟨3,i⟩=none:=by
  unfold E7
  rw [c.len,if_pos (by simp [J8];omega)]
 unfold D68 Aa7 rdX
 rw [hp]
theorem G32 {f:FileS} (h:okF f=true):0≤f.pipe:=by
 simp only [okF,Bool.and_eq_true,Bool.or_eq_true,decide_eq_true_eq,beq_iff_eq,bne_iff_ne] at h
 omega
theorem Ie2 {nc:Nat} {X:CX} (c:Clean nc X) {i:Int} (h:0≤i∧i<3+nc) {q:PipeS} (ok:okP q=true):Clean nc (Ew3 X i q):=by
 unfold Ew3
 split
 ·exact (Du6 c h).2.1
 ·exact (B44 c h ok).2.1
theorem Gz9 (b k:Nat) (F:Fr) (ok:FrOk F) {nc:Nat} {X:CX} (c:Clean nc X) (b1 b2:Nat) (g:FileS) (q:PipeS) (hi:0≤g.pipe∧g.pipe<3+nc) (hq:okP q=true) :
  CtJ D8 Aa5 A77 [(0,P0 b),(5,P0 b1),(7,P0 b2)] [pt b1 (.cells B7 false (Ab1 g)),pt b2 (.cells D7 false (I6 q)),cmC b k F X] fun v own=>v=int 0∧own [cmC b k F (Ew3 X g.pipe q)]:=by
 have hr:0≤q.readers∧q.readers≤8∧0≤q.writers∧q.writers≤8:=by
  simp only [okP,Bool.and_eq_true,decide_eq_true_eq] at hq;omega
 have e1:IntKind.wrap .i64 (q.readers+q.writers)=q.readers+q.writers:=by rw [B3];omega
 obtain ⟨f1,_⟩:=Du6 c hi
 obtain ⟨w1,_⟩:=B44 c hi hq
 unfold Ew3
 refine CtJ.of Eg3 fun h r=>Tr.eq (Gc0 ..) ?_;refine Je ?_
 (refine Jb ?_;intros)
 rw [e1]
 refine Tr.andG (c:=decide (g.pipe<4)) (fun hb=>?_) ?_
 ·exact Jz
 by_cases h:q.readers+q.writers=0∧g.pipe<4
 ·rw [if_pos h]
  refine Yt (by simp [h.1,h.2]) ?_
  (refine Ja ?_;intros)
  refine Yc (Ia2 b k F X ok g.pipe) ?_;rintro _ h ⟨rfl,o⟩<;>refine Jh o ?_
  rw [f1]
  dsimp only
  (refine Ja ?_;intros)
  refine Yc (Di0 true 0) ?_;rintro _ h ⟨rfl,o⟩<;>refine Jh o ?_
  rw [if_pos trivial]
  (refine Ja ?_;intros)
  refine Ys fun o=>?_
  exact ⟨rfl,o.sub⟩
 ·rw [if_neg h]
  refine Yf (by simp;omega) ?_
  (refine Ja ?_;intros)
  refine Yc (G06 b k F X ok g.pipe q) ?_;rintro _ h ⟨rfl,o⟩<;>refine Jh o ?_
  rw [w1]
  dsimp only
  (refine Ja ?_;intros)
  refine Yc (Di0 true 0) ?_;rintro _ h ⟨rfl,o⟩<;>refine Jh o ?_
  rw [if_pos trivial]
  (refine Ja ?_;intros)
  refine Ys fun o=>?_
  exact ⟨rfl,o.sub⟩
theorem Gh1 (b k:Nat) (F:Fr) (X:CX) (ok:FrOk F) {nc:Nat} (c:Clean nc X) (f:Int) (hf:0≤f∧f<12):Ct A5 Aa5 [P0 b,int f] [cmC b k F X] fun v own=>v=int (Az8 nc X f).1∧own [cmC b k F (Az8 nc X f).2]:=by
 have hrf:=Ho0 c hf
 have e1:IntKind.wrap .i64 ((vF X f).1.refs-1)=(vF X f).1.refs+-1:=by rw [B3];omega
 obtain ⟨z1,z2,z3,z4,z5⟩:=Dx0 c hf
 unfold Az8
 refine Ct.of Eg3 rfl fun h r=>Tr.eq (G68 ..) ?_;refine Je ?_
 refine Yc (Gq4 b k F X ok) ?_;rintro _ h ⟨rfl,o⟩<;>refine Jh o ?_
 rw [D96 c]
 (refine Ja ?_;intros)
 refine Yc (Dx1 b k F X ok f) ?_;rintro _ h ⟨rfl,o⟩<;>refine Jh o ?_
 rw [Bu0 c hf]
 dsimp only
 (refine Jc ?_;intros)
 refine Yn fun b1 h=>?_
 (refine Ja ?_;intros)
 by_cases h1:(vF X f).2=1
 case neg =>
  rw [if_pos h1]
  refine Yt (by simpa using h1) ?_
  refine Ys fun o=>?_
  exact ⟨rfl,o.sub⟩
 rw [if_neg (by simpa using h1)]
 refine Yf (by simpa using h1) ?_
 have hk:okF (vF X f).1=true:=by
  rcases Gq0 c hf with ⟨h2,_⟩|⟨_,h2⟩
  ·rw [h1] at h2;cases h2
  ·exact h2
 have hr:=At7 hk
 have hpp:=G32 hk
 generalize hg:(vF X f).1=g at hrf e1 hk hr hpp
 (refine Ja ?_;intros)
 simp only [e1,List.set_cons_succ,List.set_cons_zero]
 (refine Ja ?_;intros)
 by_cases h2:g.refs-1>0
 ·rw [if_pos h2]
  refine Yt (by simp;omega) ?_
  have hk2:=Ay9 hk (n:=-1) (by omega)
  obtain ⟨w1,_⟩:=S6 c hf hk2
  (refine Ja ?_;intros)
  simp only [List.drop_zero,List.take]
  refine Yc (Bt9 b k F X ok f (Am4 g (-1))) ?_;rintro _ h ⟨rfl,o⟩<;>refine Jh o ?_
  rw [w1]
  dsimp only
  (refine Ja ?_;intros)
  refine Yc (Di0 true 0) ?_;rintro _ h ⟨rfl,o⟩<;>refine Jh o ?_
  rw [if_pos trivial]
  (refine Ja ?_;intros)
  refine Ys fun o=>?_
  exact ⟨rfl,o.sub⟩
 rw [if_neg h2]
 refine Yf (by simp;omega) ?_
 refine Yc (H84 b k F X ok f) ?_;rintro _ h ⟨rfl,o⟩<;>refine Jh o ?_
 rw [z1]
 dsimp only
 (refine Ja ?_;intros)
 by_cases h3:g.kind=3
 ·rw [if_pos h3]
  refine Yt (by simpa using h3) ?_
  refine Ys fun o=>?_
  exact ⟨rfl,o.sub⟩
 rw [if_neg h3]
 refine Yf (by simpa using h3) ?_
 (refine Ja ?_;intros)
 refine Yc (G87 b k F (Eq1 X f) ok g.pipe) ?_;rintro _ h ⟨rfl,o⟩<;>refine Jh o ?_
 by_cases h4:g.pipe<3+(nc:Int)
 case neg =>
  rw [if_pos (fun h=>h4 h.1),I75 z2 h4]
  dsimp only
  (refine Jc ?_;intros)
  refine Yn fun b2 h=>?_
  (refine Ja ?_;intros)
  refine Ys fun o=>?_
  exact ⟨rfl,o.sub⟩
 rw [Eo8 z2 ⟨hpp,h4⟩,z5 _ ⟨hpp,h4⟩]
 dsimp only
 (refine Jc ?_;intros)
 refine Yn fun b2 h=>?_
 (refine Ja ?_;intros)
 by_cases h5:(vP X g.pipe).2=1
 case neg =>
  rw [if_pos (fun h=>h5 h.2)]
  refine Yt (by simpa using h5) ?_
  refine Ys fun o=>?_
  exact ⟨rfl,o.sub⟩
 rw [if_neg (fun h=>h ⟨h4,h5⟩)]
 refine Yf (by simpa using h5) ?_
 have hq:okP (vP X g.pipe).1=true:=by
  rcases Ir8 c ⟨hpp,h4⟩ with ⟨h6,_⟩|⟨_,h6⟩
  ·rw [h5] at h6;cases h6
  ·exact h6
 have hq2:=Gs2 hq g.kind
 generalize (vP X g.pipe).1=q at hq hq2
 have hqr:0≤q.readers∧q.readers≤8∧0≤q.writers∧q.writers≤8:=by
  simp only [okP,Bool.and_eq_true,decide_eq_true_eq] at hq;omega
 have e2:IntKind.wrap .i64 (q.readers-1)=q.readers-1:=by rw [B3];omega
 have e3:IntKind.wrap .i64 (q.writers-1)=q.writers-1:=by rw [B3];omega
 (refine Ja ?_;intros)
 by_cases h6:g.kind=1
 ·refine Yt (by simpa using h6) ?_
  have ee:Dn5 g.kind q=Iv6 q:=by unfold Dn5;rw [if_pos h6]
  rw [ee] at hq2 ⊢
  (refine Ja ?_;intros)
  rw [e2,Af8,show (I6 q).set 2 (int (max (q.readers-1) 0))=I6 (Iv6 q) from rfl]
  refine Du5 (Gz9 b k F ok z2 b1 b2 (Am4 g (-1)) (Iv6 q) ⟨hpp,h4⟩ hq2) [2,0,0] rfl ?_
  intro v h q
  exact q
 ·refine Yf (by simpa using h6) ?_
  have ee:Dn5 g.kind q=Ir7 q:=by unfold Dn5;rw [if_neg h6]
  rw [ee] at hq2 ⊢
  (refine Ja ?_;intros)
  rw [e3,Af8,show (I6 q).set 3 (int (max (q.writers-1) 0))=I6 (Ir7 q) from rfl]
  refine Du5 (Gz9 b k F ok z2 b1 b2 (Am4 g (-1)) (Ir7 q) ⟨hpp,h4⟩ hq2) [2,0,0] rfl ?_
  intro v h q
  exact q
theorem Ec3 {nc:Nat} {X:CX} (c:Clean nc X) {f:Int} (hf:0≤f∧f<12):Clean nc (Az8 nc X f).2:=by
 have z2:=(Dx0 c hf).2.1
 unfold Az8
 by_cases h1:(vF X f).2=1
 case neg=>rw [if_pos h1];exact c
 rw [if_neg (by simpa using h1)]
 have hk:okF (vF X f).1=true:=by
  rcases Gq0 c hf with ⟨h2,_⟩|⟨_,h2⟩
  ·rw [h1] at h2;cases h2
  ·exact h2
 have hr:=At7 hk
 by_cases h2:(vF X f).1.refs-1>0
 ·rw [if_pos h2]
  exact (S6 c hf (Ay9 hk (n:=-1) (by omega))).2.1
 rw [if_neg h2]
 by_cases h3:(vF X f).1.kind=3
 ·rw [if_pos h3];exact z2
 rw [if_neg h3]
 by_cases h4:(vF X f).1.pipe<3+nc∧(vP X (vF X f).1.pipe).2=1
 case neg=>rw [if_pos h4];exact z2
 rw [if_neg (fun h=>h h4)]
 have hi:0≤(vF X f).1.pipe∧(vF X f).1.pipe<3+nc:=⟨G32 hk,h4.1⟩
 have hq:okP (vP X (vF X f).1.pipe).1=true:=by
  rcases Ir8 c hi with ⟨h6,_⟩|⟨_,h6⟩
  ·rw [h4.2] at h6;cases h6
  ·exact h6
 exact Ie2 z2 hi (Gs2 hq _)
def B00 (nc:Nat):List Int→CX→CX
 | [],X=>X
 | f::l,X=>B00 nc l (if f>0 then (Az8 nc X (f-1)).2 else X)
theorem Ee8 {nc:Nat}:∀ (l:List Int) (X:CX),Bk3 l→Clean nc X→Clean nc (B00 nc l X)
 | [],X,_,c=>c
 | f::l,X,hf,c=>by
  have h1:=hf f (by simp)
  have hl:Bk3 l:=fun x hx=>hf x (by simp [hx])
  rw [show B00 nc (f::l) X=B00 nc l (if f>0 then (Az8 nc X (f-1)).2 else X) from rfl]
  split
  ·exact Ee8 l _ hl (Ec3 c (by omega))
  ·exact Ee8 l _ hl c
abbrev Db2 (p:ProcS):ProcS:=⟨p.state,p.parent,p.group,p.code,p.pending,p.mask,p.ignored,p.caught,Ax1,rfl⟩
theorem Ip1 {p:ProcS} (h:okS p=true):okS (Db2 p)=true:=by
 unfold okS at h ⊢
 simp only [Bool.and_eq_true] at h ⊢
 refine ⟨h.1,h.2.1,by decide,?_⟩
 have:=h.2.2.2
 by_cases h2:p.state=2
 ·rw [if_pos h2] at this
  rw [if_pos (show (Db2 p).state=2 from h2)]
  simp only [Bool.and_eq_true] at this ⊢
  exact ⟨this.1,by simp⟩
 ·rw [if_neg h2] at this
  rw [if_neg (show ¬ (Db2 p).state=2 from h2)]
  exact this
def U0 (nc:Nat) (X:CX) (i:Int):CX:=if (vS X i).2=1 then Ao0 (B00 nc (vS X i).1.fds X) i (Db2 (vS X i).1) else X
theorem Hm2 (b k:Nat) (F:Fr) (ok:FrOk F) {nc:Nat} (i:Int) (hi:0≤i∧i<8) (b1:Nat) (p:ProcS) (hp:okS p=true) (hin:InS p) (fds:List Int) (hl:fds.length=8) (hf:Bk3 fds):∀ (m n:Nat) (X:CX),n+m=8→Clean nc X →
  CtJ D8 Ac6 Aw5 [(0,P0 b),(1,int i),(4,P0 b1),(19,.agg ⟨fds.map int⟩),(20,int n)] [pt b1 (.cells A9 false (B8 p)),cmC b k F X] fun v own=>v=.tuple ⟨[]⟩∧own [cmC b k F (Ao0 (B00 nc (fds.drop n) X) i (Db2 p))]:=by
 intro m
 induction m with
 | zero =>
  intro n X hn c
  have:n=8:=by omega
  subst this
  rw [show fds.drop 8=[] from List.drop_eq_nil_of_le (by omega),show B00 nc [] X=X from rfl]
  obtain ⟨w1,_⟩:=Ab4 c hi (Ip1 hp) ⟨hin.a,hin.b,hin.c,hin.d⟩
  refine CtJ.of Dl5 fun h r=>Tr.eq (D00 ..) ?_;refine Je ?_
  refine Yf (by simp) ?_
  refine Gs (fun h=>?_) (by exact (show Dp6 (B8 p) 8 (Ax1.map int)=some (B8 (Db2 p)) from by
   have hlen:(B8 p).length=16:=Ah9 p
   have e:Nat.ble (8+(Ax1.map int).length) (B8 p).length=true:=by rw [hlen];rfl
   rw [Dp6,e]
   have h9:(B8 p).drop (8+(Ax1.map int).length)=[]:=List.drop_eq_nil_of_le (by rw [hlen];decide)
   rw [h9];rfl))
  generalize Db2 p=q at w1
  (refine Ja ?_;intros)
  refine Yc (Bf9 b k F X ok i q) ?_;rintro _ h ⟨rfl,o⟩<;>refine Jh o ?_
  rw [w1]
  (refine Ja ?_;intros)
  refine Ys fun o=>?_
  exact ⟨rfl,o.sub⟩
 | succ m ih =>
  intro n X hn c
  have e1:=wN n
  have hil:n<fds.length:=by omega
  have hg:=Gg6 hil
  have hd:fds.drop n=fds.getD n 0::fds.drop (n+1):=by
   rw [List.drop_eq_getElem_cons hil,List.getD_eq_getElem?_getD,List.getElem?_eq_getElem hil];rfl
  have hr:0≤fds.getD n 0∧fds.getD n 0≤12:=hf _ (by
   rw [List.getD_eq_getElem?_getD,List.getElem?_eq_getElem hil];exact List.getElem_mem _)
  rw [hd]
  generalize fds.getD n 0=f at hg hr
  rw [show B00 nc (f::fds.drop (n+1)) X=B00 nc (fds.drop (n+1)) (if f>0 then (Az8 nc X (f-1)).2 else X) from rfl]
  refine CtJ.of Dl5 fun h r=>Tr.eq (D00 ..) ?_;refine Je ?_
  refine Yt (by simp;omega) ?_
  rw [e1]
  refine Tr.ck (by omega) ?_
  rw [Int.toNat_natCast]
  (refine Ja ?_;intros)
  by_cases hz:f>0
  ·rw [if_pos hz]
   refine Yt (by simpa using hz) ?_
   rw [show IntKind.wrap .i64 (f-1)=f-1 by rw [B3];omega]
   refine Yc (Gh1 b k F X ok c (f-1) (by omega)) ?_;rintro _ h ⟨rfl,o⟩<;>refine Jh o ?_
   (refine Ja ?_;intros)
   refine Yr (ih (n+1) (Az8 nc X (f-1)).2 (by omega) (Ec3 c (show 0≤f-1∧f-1<12 by omega))) ?_
   intro v h q
   exact q
  ·rw [if_neg hz]
   refine Yf (by simpa using hz) ?_
   refine Yr (ih (n+1) X (by omega) c) ?_
   intro v h q
   exact q
theorem Im3 (b k:Nat) (F:Fr) (X:CX) (ok:FrOk F) {nc:Nat} (c:Clean nc X) (i:Int) (hi:0≤i∧i<8):Ct A5 Ac6 [P0 b,int i] [cmC b k F X] fun v own=>v=.tuple ⟨[]⟩∧own [cmC b k F (U0 nc X i)]:=by
 unfold U0
 refine Ct.of Dl5 rfl fun h r=>Tr.eq (Hd9 ..) ?_;refine Je ?_
 refine Yc (Gq4 b k F X ok) ?_;rintro _ h ⟨rfl,o⟩<;>refine Jh o ?_
 rw [D96 c]
 (refine Ja ?_;intros)
 refine Yc (B21 b k F X ok i) ?_;rintro _ h ⟨rfl,o⟩<;>refine Jh o ?_
 rw [Be5 c hi]
 dsimp only
 (refine Jc ?_;intros)
 refine Yn fun b1 h=>?_
 (refine Ja ?_;intros)
 by_cases h1:(vS X i).2=1
 case neg =>
  rw [if_neg h1]
  refine Yt (by simpa using h1) ?_
  refine Ys fun o=>?_
  exact ⟨rfl,o.sub⟩
 rw [if_pos h1]
 refine Yf (by simpa using h1) ?_
 have hk:okS (vS X i).1=true:=by
  rcases Ez8 c hi with ⟨h2,_⟩|⟨_,h2⟩
  ·rw [h1] at h2;cases h2
  ·exact h2
 have hin:=At9 (rd X ⟨1,i⟩)
 (refine Ja ?_;intros)
 refine Du5 (Hm2 b k F ok i hi b1 _ hk hin _ (vS X i).1.len (Ba3 hk) 8 0 X rfl c) [0,0] rfl ?_
 intro v h q
 exact q
abbrev Gs4 (p:ProcS):ProcS:=⟨p.state,0,p.group,p.code,p.pending,p.mask,p.ignored,p.caught,p.fds,p.len⟩
theorem Gp9 {p:ProcS} (h:okS p=true):okS (Gs4 p)=true:=by
 unfold okS at h ⊢
 simp only [Bool.and_eq_true,Bool.not_eq_true',Bool.or_eq_false_iff,decide_eq_false_iff_not] at h ⊢
 obtain ⟨⟨⟨⟨⟨⟨⟨⟨a1,a2⟩,a3⟩,a4⟩,a5⟩,a6⟩,a7⟩,a8⟩,b1,d1,d2⟩:=h
 exact ⟨⟨⟨⟨⟨⟨⟨⟨a1,a2⟩,by decide⟩,by decide⟩,a5⟩,a6⟩,a7⟩,a8⟩,b1,d1,d2⟩
def Ea0:List (Int × ProcS)→CX→CX
 | [],X=>X
 | s::l,X=>Ea0 l (if s.2.state=2 then D36 X s.1 else Ao0 X s.1 (Gs4 s.2))
def SlOk (L:List (Int × ProcS)):Prop:=∀ s ∈ L,(0≤s.1∧s.1<8)∧okS s.2=true∧InS s.2
theorem El0 {nc:Nat} {X:CX} (c:Clean nc X) (q:Int→ProcS→Bool):∀ (m:Nat) (i:Int),0≤i→i+m=8→SlOk (M8 X q m i)
 | 0,i,_,_,s,hs=>by simp [M8] at hs
 | m+1,i,h0,hi,s,hs=>by
  rw [show M8 X q (m+1) i=if (vS X i).2=1∧q i (vS X i).1=true then (i,(vS X i).1)::M8 X q m (i+1) else M8 X q m (i+1) from rfl] at hs
  split at hs
  ·rename_i h1
   rcases List.mem_cons.1 hs with rfl|h2
   ·refine ⟨⟨h0,by simp only;omega⟩,?_,At9 _⟩
    rcases Ez8 c (i:=i) (by omega) with ⟨h3,_⟩|⟨_,h3⟩
    ·rw [h1.1] at h3;cases h3
    ·exact h3
   ·exact El0 c q m (i+1) (by omega) (by omega) s h2
  ·exact El0 c q m (i+1) (by omega) (by omega) s hs
theorem Hv7 {nc:Nat} {X:CX} (c:Clean nc X) {s:Int × ProcS} (h:(0≤s.1∧s.1<8)∧okS s.2=true∧InS s.2):Clean nc (if s.2.state=2 then D36 X s.1 else Ao0 X s.1 (Gs4 s.2)):=by
 split
 ·exact (Bi6 c h.1).2.1
 ·exact (Ab4 c h.1 (Gp9 h.2.1) ⟨h.2.2.a,h.2.2.b,h.2.2.c,h.2.2.d⟩).2.1
theorem G03 {nc:Nat}:∀ (L:List (Int × ProcS)) (X:CX),SlOk L→Clean nc X→Clean nc (Ea0 L X)
 | [],X,_,c=>c
 | s::l,X,hL,c=>G03 l _ (fun x hx=>hL x (by simp [hx])) (Hv7 c (hL s (by simp)))
theorem I68 (j:Int) (q:ProcS):Da9 (int j::B8 q) 1 16=some (B8 q):=by
 have e:Nat.ble (1+16) (int j::B8 q).length=true:=by rw [Av6];rfl
 rw [Da9,e,List.drop_succ_cons,List.drop_zero,List.take_of_length_le (by rw [Ah9];omega)];rfl
theorem Iy2 (b k:Nat) (F:Fr) (ok:FrOk F) {nc:Nat} (L:List (Int × ProcS)) (hL:SlOk L) (h8:L.length≤8) (a:Option Addr) (ac:Nat):∀ (m n:Nat) (X:CX),n+m=L.length→Clean nc X →
  CtJ D8 Aj5 A53 [(0,P0 b),(8,.slice a L.length ac),(9,int L.length),(10,int n)] [slC false V3 17 a L.length ac (L.flatMap B51),cmC b k F X] fun v own=>v=.tuple ⟨[]⟩∧own [cmC b k F (Ea0 (L.drop n) X)]:=by
 intro m
 induction m with
 | zero =>
  intro n X hn c
  rw [show L.drop n=[] from List.drop_eq_nil_of_le (by omega),show Ea0 [] X=X from rfl]
  refine CtJ.of D51 fun h r=>Tr.eq (Eh3 ..) ?_;refine Je ?_
  refine Yf (by simp;omega) ?_
  refine Ys fun o=>?_
  exact ⟨rfl,o.sub⟩
 | succ m ih =>
  intro n X hn c
  have hil:n<L.length:=by omega
  have e1:=wN n
  have hg:L[n]?=some L[n]:=List.getElem?_eq_getElem hil
  have hd:L.drop n=L[n]::L.drop (n+1):=List.drop_eq_getElem_cons hil
  have hs:=hL _ (List.getElem_mem hil)
  rw [hd]
  generalize L[n]=s at hg hs
  obtain ⟨j,p⟩:=s
  have hstep:=Hv7 c hs
  obtain ⟨hj,hk,hin⟩:=hs
  simp only at hj hk hin hstep
  rw [show Ea0 ((j,p)::L.drop (n+1)) X=Ea0 (L.drop (n+1)) (if p.state=2 then D36 X j else Ao0 X j (Gs4 p)) from rfl]
  have hpart:=Ak0 (f:=B51) (k:=17) (fun x=>Av6 x.1 x.2) hg
  have hlen:=O7 (f:=B51) (k:=17) (fun x=>Av6 x.1 x.2) L
  refine CtJ.of D51 fun h r=>Tr.eq (Eh3 ..) ?_;refine Je ?_
  refine Yt (by simp;omega) ?_
  rw [e1]
  refine U1 0 rfl fun h1 h2 h3=>?_
  (refine Jc ?_;intros;repeat(refine Gw ?_;rintro px rfl;refine Jc ?_;intros))
  rw [Int.toNat_natCast]
  refine Tr.xAggS (xs:=B51 (j,p)) ⟨by omega,by omega,hpart⟩ ?_
  refine Yn fun b2 h=>?_
  (refine Ja ?_;intros)
  refine Yc (H12 j p) ?_;rintro _ h ⟨rfl,o⟩<;>refine Jh o ?_
  (refine Ja ?_;intros)
  by_cases hz:p.state=2
  ·rw [if_pos hz] at hstep ⊢
   refine Yt (by simp [hz]) ?_
   (refine Ja ?_;intros)
   refine Yc (Dl3 b k F X ok j) ?_;rintro _ h ⟨rfl,o⟩<;>refine Jh o ?_
   rw [(Bi6 c hj).1]
   dsimp only
   (refine Ja ?_;intros)
   refine B9 [2,0] 1 rfl rfl ?_
   refine Yr (ih (n+1) _ (by omega) hstep) ?_
   intro v h q
   exact q
  ·rw [if_neg hz] at hstep ⊢
   refine Yf (by simp [hz]) ?_
   obtain ⟨w1,_⟩:=Ab4 c hj (Gp9 hk) ⟨hin.a,hin.b,hin.c,hin.d⟩
   (refine Ja ?_;intros)
   rw [show (int j::B8 p).set 2 (int 0)=int j::B8 (Gs4 p) from rfl]
   generalize Gs4 p=q at w1 hstep
   refine Gs ?_ (by exact I68 j q)
   refine Yc (Bf9 b k F X ok j q) ?_;rintro _ h ⟨rfl,o⟩<;>refine Jh o ?_
   rw [w1]
   dsimp only
   (refine Ja ?_;intros)
   refine B9 [2,0] 1 rfl rfl ?_
   refine Yr (ih (n+1) _ (by omega) hstep) ?_
   intro v h q
   exact q
theorem Ji6 (bi:Nat) (i:Int) (hi:0≤i∧i<8) (j:Int) (p:ProcS):Ct A5 Bd3 [.agg ⟨int j::B8 p⟩,P0 bi] [pt bi (.cells A6 false [int i])] fun v own=>v=.bool (j != i && p.parent==i+1)∧own [pt bi (.cells A6 false [int i])]:=by
 have e1:=wI i
 refine Ct.of He2 rfl fun h r=>Tr.eq (He0 ..) ?_;refine Je ?_
 (refine Ja ?_;intros)
 refine Ys fun o=>?_
 rw [e1]
 exact ⟨rfl,o.sub⟩
abbrev Gr5 (i:Int) (j:Int) (p:ProcS):Bool:=j != i && p.parent==i+1
def Bd9 (X:CX) (i:Int):CX:=Ea0 (M8 X (Gr5 i) 8 0) X
theorem I76 (b k:Nat) (F:Fr) (X:CX) (ok:FrOk F) {nc:Nat} (c:Clean nc X) (i:Int) (hi:0≤i∧i<8):Ct A5 Aj5 [P0 b,int i] [cmC b k F X] fun v own=>v=.tuple ⟨[]⟩∧own [cmC b k F (Bd9 X i)]:=by
 unfold Bd9
 refine Ct.of D51 rfl fun h r=>Tr.eq (Hy3 ..) ?_;refine Je ?_
 refine Yn fun bi h=>?_
 refine Yc (If1 b k F X ok c (pt bi (.cells A6 false [int i])) Bd3 [P0 bi] (Gr5 i) (fun j p=>Ji6 bi i hi j p)) ?_;rintro _ h ⟨a,ac,rfl,o⟩<;>refine Jh o ?_
 (refine Ja ?_;intros)
 refine B9 [0,0] 1 rfl rfl ?_
 refine Yr (Iy2 b k F ok _ (El0 c _ 8 0 (by omega) (by omega)) (Ey8 X _ 8 0) a ac _ 0 X (Nat.zero_add _) c) ?_
 intro v h q
 exact q
abbrev E27 (code:Int):Int:=Int.tmod (IntKind.wrap .i64 (Int.tmod code 256+256)) 256
theorem Jg8 (code:Int):0≤E27 code∧E27 code≤255:=by
 have h1:=Int.tmod_lt_of_pos code (show (0:Int)<256 by omega)
 have h2:-256<Int.tmod code 256:=by
  have:=Int.lt_tmod_of_pos code (show (0:Int)<256 by omega)
  omega
 unfold E27
 rw [B3]
 generalize Int.tmod code 256=x at h1 h2
 rw [J11 (by omega)]
 omega
abbrev He8 (p:ProcS) (code:Int):ProcS:=⟨2,p.parent,p.group,E27 code,0,p.mask,p.ignored,p.caught,Ax1,rfl⟩
theorem Hj9 {p:ProcS} (h:okS p=true) (code:Int):okS (He8 p code)=true:=by
 have hc:=Jg8 code
 unfold okS at h ⊢
 rw [if_pos (show (He8 p code).state=2 from rfl)]
 simp only [Bool.and_eq_true,Bool.not_eq_true',Bool.or_eq_false_iff,decide_eq_false_iff_not] at h ⊢
 obtain ⟨⟨⟨⟨⟨⟨⟨⟨a1,a2⟩,a3⟩,a4⟩,a5⟩,a6⟩,a7⟩,a8⟩,⟨⟨⟨⟨b1,b2⟩,b3⟩,b4⟩,b5⟩,d1,d2⟩:=h
 refine ⟨⟨⟨⟨⟨⟨⟨⟨by decide,by decide⟩,a3⟩,a4⟩,a5⟩,a6⟩,by show ¬ E27 code<0;omega⟩,by show ¬ E27 code>255;omega⟩,⟨⟨⟨⟨by simp [I63],b2⟩,b3⟩,b4⟩,b5⟩,by decide,by simp⟩
def Ha9 (nc:Nat) (X:CX) (i code:Int):List Value × CX :=
 if (G7 X i).2≠0 then (E5 0 (G7 X i).2 false,X)
 else if (vS (Bd9 (U0 nc X i) i) i).2≠1 then (E5 0 105 false,Bd9 (U0 nc X i) i)
 else if (vS (Bd9 (U0 nc X i) i) i).1.parent>0∧(vS (Bd9 (U0 nc X i) i) ((vS (Bd9 (U0 nc X i) i) i).1.parent-1)).2=1∧(vS (Bd9 (U0 nc X i) i) ((vS (Bd9 (U0 nc X i) i) i).1.parent-1)).1.state≠2 then (E5 0 0 false,Ao0 (Bd9 (U0 nc X i) i) i (He8 (vS (Bd9 (U0 nc X i) i) i).1 code))
 else (E5 0 0 false,D36 (Bd9 (U0 nc X i) i) i)
theorem Ha0 {nc:Nat} {X:CX} (c:Clean nc X) {i:Int} (hi:0≤i∧i<8):Clean nc (U0 nc X i):=by
 unfold U0
 split
 ·rename_i h1
  have hk:okS (vS X i).1=true:=by
   rcases Ez8 c hi with ⟨h2,_⟩|⟨_,h2⟩
   ·rw [h1] at h2;cases h2
   ·exact h2
  have hin:=At9 (rd X ⟨1,i⟩)
  exact (Ab4 (Ee8 _ _ (Ba3 hk) c) hi (Ip1 hk) ⟨hin.a,hin.b,hin.c,hin.d⟩).2.1
 ·exact c
theorem Ig3 {nc:Nat} {X:CX} (c:Clean nc X) (i:Int):Clean nc (Bd9 X i):=G03 _ _ (El0 c _ 8 0 (by omega) (by omega)) c
theorem Jo8 {p:ProcS} (h:okS p=true):0≤p.parent∧p.parent≤8:=by
 unfold okS at h
 simp only [Bool.and_eq_true,Bool.not_eq_true',Bool.or_eq_false_iff,decide_eq_false_iff_not] at h
 have:=h.1
 omega
theorem Jf3 (p:ProcS):Dp6 (B8 p) 8 (Ax1.map int)=some (B8 (Db2 p)):=by
 have hlen:(B8 p).length=16:=Ah9 p
 have e:Nat.ble (8+(Ax1.map int).length) (B8 p).length=true:=by rw [hlen];rfl
 rw [Dp6,e]
 have h9:(B8 p).drop (8+(Ax1.map int).length)=[]:=List.drop_eq_nil_of_le (by rw [hlen];decide)
 rw [h9];rfl
theorem Jp4 (b k:Nat) (F:Fr) (X:CX) (ok:FrOk F) {nc:Nat} (c:Clean nc X) (i code:Int) (hi:0≤i∧i<8):Ct A5 Bt8 [P0 b,int i,int code] [cmC b k F X] fun v own=>v=.agg ⟨(Ha9 nc X i code).1⟩∧own [cmC b k F (Ha9 nc X i code).2]:=by
 have c1:=Ha0 c hi
 have c2:=Ig3 c1 i
 unfold Ha9
 refine Ct.of Gw1 rfl fun h r=>Tr.eq (G10 ..) ?_;refine Je ?_
 refine Yn fun b0 h=>?_
 refine Yc (Di4 b k F X ok c i hi) ?_;rintro _ h ⟨rfl,o⟩<;>refine Jh o ?_
 (refine Jc ?_;intros)
 refine Yn fun b1 h=>?_
 (refine Ja ?_;intros)
 by_cases h0:(G7 X i).2=0
 case neg =>
  rw [if_pos h0]
  refine Yt (by simpa using h0) ?_
  refine Yc (Bk8 (G7 X i).2) ?_;rintro _ h ⟨rfl,o⟩<;>(refine Jf o ?_;intros)
  refine Ys fun o=>?_
  exact ⟨rfl,o.sub⟩
 rw [if_neg (by simpa using h0)]
 refine Yf (by simpa using h0) ?_
 refine Yc (Im3 b k F X ok c i hi) ?_;rintro _ h ⟨rfl,o⟩<;>refine Jh o ?_
 (refine Ja ?_;intros)
 refine Yc (I76 b k F _ ok c1 i hi) ?_;rintro _ h ⟨rfl,o⟩<;>refine Jh o ?_
 generalize Bd9 (U0 nc X i) i=Y at c2
 (refine Ja ?_;intros)
 refine Yc (B21 b k F Y ok i) ?_;rintro _ h ⟨rfl,o⟩<;>refine Jh o ?_
 rw [Be5 c2 hi]
 dsimp only
 (refine Jc ?_;intros)
 refine Yn fun b2 h=>?_
 (refine Ja ?_;intros)
 by_cases h1:(vS Y i).2=1
 case neg =>
  rw [if_pos h1]
  refine Yt (by simpa using h1) ?_
  refine Yc (Bk8 105) ?_;rintro _ h ⟨rfl,o⟩<;>(refine Jf o ?_;intros)
  refine Ys fun o=>?_
  exact ⟨rfl,o.sub⟩
 rw [if_neg (by simpa using h1)]
 refine Yf (by simpa using h1) ?_
 have hk:okS (vS Y i).1=true:=by
  rcases Ez8 c2 hi with ⟨h2,_⟩|⟨_,h2⟩
  ·rw [h1] at h2;cases h2
  ·exact h2
 have hin:InS (vS Y i).1:=At9 _
 have hpar:=Jo8 hk
 have hdead:=Hj9 hk code
 generalize (vS Y i).1=p at hk hpar hdead hin
 obtain ⟨z1,_⟩:=Bi6 c2 hi
 (refine Ja ?_;intros)
 by_cases h2:p.parent>0
 case neg =>
  rw [if_neg (fun h=>h2 h.1)]
  refine Yf (by simpa using h2) ?_
  refine Yc (Dl3 b k F Y ok i) ?_;rintro _ h ⟨rfl,o⟩<;>refine Jh o ?_
  rw [z1]
  dsimp only
  (refine Ja ?_;intros)
  refine Yc (Di0 true 0) ?_;rintro _ h ⟨rfl,o⟩<;>refine Jh o ?_
  rw [if_pos trivial]
  (refine Ja ?_;intros)
  refine Ys fun o=>?_
  exact ⟨rfl,o.sub⟩
 refine Yt (by simpa using h2) ?_
 (refine Ja ?_;intros)
 rw [show IntKind.wrap .i64 (p.parent-1)=p.parent-1 by rw [B3];omega]
 refine Yc (B21 b k F Y ok (p.parent-1)) ?_;rintro _ h ⟨rfl,o⟩<;>refine Jh o ?_
 rw [Be5 c2 (show 0≤p.parent-1∧p.parent-1<8 by omega)]
 dsimp only
 (refine Jc ?_;intros)
 refine Yn fun b3 h=>?_
 (refine Jb ?_;intros)
 refine Tr.andG (c:=(vS Y (p.parent-1)).1.state != 2) (fun hb=>?_) ?_
 ·exact Jz
 by_cases h3:(vS Y (p.parent-1)).2=1∧(vS Y (p.parent-1)).1.state≠2
 ·rw [if_pos ⟨h2,h3⟩]
  refine Yt (by simp [h3.1,h3.2]) ?_
  obtain ⟨w1,_⟩:=Ab4 c2 hi hdead ⟨by simp,hin.b,hin.c,hin.d⟩
  (refine Ja ?_;intros)
  rw [show (((B8 p).set 0 (int 2)).set 3 (int (E27 code))).set 4 (int 0)=B8 ⟨2,p.parent,p.group,E27 code,0,p.mask,p.ignored,p.caught,p.fds,p.len⟩ from rfl]
  refine Gs (fun h=>?_) (by exact Jf3 _)
  rw [show Db2 (⟨2,p.parent,p.group,E27 code,0,p.mask,p.ignored,p.caught,p.fds,p.len⟩:ProcS)=He8 p code from rfl]
  generalize He8 p code=q at w1
  (refine Ja ?_;intros)
  refine Yc (Bf9 b k F Y ok i q) ?_;rintro _ h ⟨rfl,o⟩<;>refine Jh o ?_
  rw [w1]
  dsimp only
  (refine Ja ?_;intros)
  refine Yc (Di0 true 0) ?_;rintro _ h ⟨rfl,o⟩<;>refine Jh o ?_
  rw [if_pos trivial]
  (refine Ja ?_;intros)
  refine Ys fun o=>?_
  exact ⟨rfl,o.sub⟩
 ·rw [if_neg (fun h=>h3 h.2)]
  refine Yf (by
   by_cases h4:(vS Y (p.parent-1)).2=1
   ·have:(vS Y (p.parent-1)).1.state=2:=Classical.byContradiction fun h5=>h3 ⟨h4,h5⟩
    simp [this]
   ·simp [h4]) ?_
  refine Yc (Dl3 b k F Y ok i) ?_;rintro _ h ⟨rfl,o⟩<;>refine Jh o ?_
  rw [z1]
  dsimp only
  (refine Ja ?_;intros)
  refine Yc (Di0 true 0) ?_;rintro _ h ⟨rfl,o⟩<;>refine Jh o ?_
  rw [if_pos trivial]
  (refine Ja ?_;intros)
  refine Ys fun o=>?_
  exact ⟨rfl,o.sub⟩
theorem P7 (e:Int):Ct A5 J0 [int e] [] fun v own=>v=.agg ⟨E5 0 e false⟩∧own []:=by
 refine Ct.of Iw2 rfl fun h r=>Tr.eq (Ir4 ..) ?_;refine Je ?_
 (refine Ja ?_;intros)
 refine Ys fun o=>?_
 exact ⟨rfl,o.tail⟩
theorem G28 (ok:Bool) (n:Int):Ct A5 B38 [.bool ok,int n] [] fun v own=>v=.agg ⟨if ok then E5 n 0 false else E5 0 105 false⟩∧own []:=by
 refine Ct.of Iz9 rfl fun h r=>Tr.eq (It8 ..) ?_;refine Je ?_
 refine Yn fun b1 h=>?_
 cases ok
 ·refine Yt rfl ?_
  refine Yc (P7 105) ?_;rintro _ h ⟨rfl,o⟩<;>(refine Jf o ?_;intros)
  refine Ys fun o=>?_
  exact ⟨rfl,o.tail⟩
 ·refine Yf rfl ?_
  (refine Ja ?_;intros)
  refine Ys fun o=>?_
  exact ⟨rfl,o.tail⟩
theorem Ek7 (p:ProcS) {j:Nat} (h:j<8):(B8 p)[8+j]?=some (int (p.fds.getD j 0)):=by
 have:=Gg6 (l:=p.fds) (i:=j) (by rw [p.len];exact h)
 rw [show 8+j=j+8 by omega]
 exact this
abbrev setFd (p:ProcS) (j:Nat) (f:Int):ProcS:=⟨p.state,p.parent,p.group,p.code,p.pending,p.mask,p.ignored,p.caught,p.fds.set j f,by rw [List.length_set];exact p.len⟩
theorem Eo1 (p:ProcS) {j:Nat} (h:j<8) (f:Int):Es8 (B8 p) (8+j) (int f)=some (B8 (setFd p j f)):=by
 have e:Nat.blt (8+j) (B8 p).length=true:=by rw [Ah9 p];exact Nat.ble_eq_true_of_le (by have:=p.len;omega)
 unfold Es8
 rw [e,show 8+j=j+8 by omega]
 show some ((B8 p).set (j+8) (int f))=_
 simp only [B8,List.set_cons_succ,List.map_set]
def Q8 (p:ProcS) (fd:Int):Bool:=decide (0≤fd∧fd<8) && decide (p.fds.getD fd.toNat 0>0)
theorem H34 (p:ProcS) (fd:Int):Ct A5 B87 [.agg ⟨B8 p⟩,int fd] [] fun v own=>v=.bool (Q8 p fd)∧own []:=by
 refine Ct.of Ii5 rfl fun h r=>Tr.eq (Ih1 ..) ?_;refine Je ?_
 refine Yn fun b1 h=>?_
 by_cases h0:0≤fd
 case neg =>
  refine Yb (Yf (by simpa using h0) ?_)
  refine Ys fun o=>(?_:Tr _ _ _ _) o;refine Je ?_
  refine Yb (Yf rfl ?_)
  refine Ys fun o=>(?_:Tr _ _ _ _) o;refine Je ?_
  refine Ys fun o=>?_
  refine ⟨?_,o.tail⟩
  rw [show Q8 p fd=false by simp [Q8];omega]
 refine Yb (Yt (by simpa using h0) ?_)
 refine Ys fun o=>(?_:Tr _ _ _ _) o;refine Je ?_
 by_cases h1:fd<8
 case neg =>
  refine Yb (Yf (by simpa using h1) ?_)
  refine Ys fun o=>(?_:Tr _ _ _ _) o;refine Je ?_
  refine Ys fun o=>?_
  refine ⟨?_,o.tail⟩
  rw [show Q8 p fd=false by simp [Q8];omega]
 have hg:=Ek7 p (j:=fd.toNat) (by omega)
 refine Yb (Yt (by simpa using h1) ?_)
 (refine Ja ?_;intros)
 refine Ys fun o=>(?_:Tr _ _ _ _) o;refine Je ?_
 refine Ys fun o=>?_
 refine ⟨?_,o.tail⟩
 rw [show Q8 p fd=decide (p.fds.getD fd.toNat 0>0) by simp [Q8,h0,h1]]
theorem Io6 (b k:Nat) (F:Fr) (X:CX) (ok:FrOk F) {nc:Nat} (c:Clean nc X) (f:Int) (hf:0≤f∧f<12) (x:FileS) (hx:okF x=true) (h64:x.refs<64) :
  Ct A5 Dp4 [P0 b,int f,.agg ⟨Ab1 x⟩] [cmC b k F X] fun v own=>v=.bool true∧own [cmC b k F (setF X f (Am4 x 1))]:=by
 have hr:=At7 hx
 have e1:IntKind.wrap .i64 (x.refs+1)=x.refs+1:=by rw [B3];omega
 obtain ⟨w1,_⟩:=S6 c hf (Ay9 hx (n:=1) (by omega))
 refine Ct.of Iy0 rfl fun h r=>Tr.eq (Is1 ..) ?_;refine Je ?_
 (refine Ja ?_;intros)
 rw [e1]
 (refine Ja ?_;intros)
 simp only [List.set_cons_succ,List.set_cons_zero,List.drop_zero,List.take]
 refine Yc (Bt9 b k F X ok f (Am4 x 1)) ?_;rintro _ h ⟨rfl,o⟩<;>refine Jh o ?_
 rw [w1]
 dsimp only
 (refine Ja ?_;intros)
 refine Ys fun o=>?_
 exact ⟨rfl,o.sub⟩
theorem By7 {p:ProcS} (h:okS p=true) (h1:p.state=1) (j:Nat) {f:Int} (hf:0≤f∧f≤12):okS (setFd p j f)=true:=by
 have hd:=Ba3 h
 have hd2:Bk3 (setFd p j f).fds:=fun x hx=>by
  rcases List.mem_or_eq_of_mem_set hx with h2|rfl
  ·exact hd x h2
  ·exact hf
 unfold okS at h ⊢
 rw [if_neg (by rw [h1];decide)] at h
 rw [if_neg (show ¬ (setFd p j f).state=2 by show ¬ p.state=2;rw [h1];decide)]
 simp only [Bool.and_eq_true] at h ⊢
 refine ⟨h.1,h.2.1,?_,h.2.2.2⟩
 rw [Bool.not_eq_true',List.any_eq_false]
 intro x hx
 have:=hd2 x hx
 simp;omega
def Dy0 (X:CX) (i fd f:Int):List Value × CX :=
 if (G7 X i).2≠0 then (E5 0 (G7 X i).2 false,X) else (E5 fd 0 false,Ao0 X i (setFd (vS X i).1 fd.toNat (f+1)))
theorem H58 (b k:Nat) (F:Fr) (X:CX) (ok:FrOk F) {nc:Nat} (c:Clean nc X) (i fd f:Int) (hi:0≤i∧i<8) (hd:0≤fd∧fd<8) (hf:0≤f∧f<12) :
  Ct A5 Do4 [P0 b,int i,int fd,int f] [cmC b k F X] fun v own=>v=.agg ⟨(Dy0 X i fd f).1⟩∧own [cmC b k F (Dy0 X i fd f).2]:=by
 have e1:=wI f
 unfold Dy0
 refine Ct.of Ix2 rfl fun h r=>Tr.eq (I00 ..) ?_;refine Je ?_
 refine Yn fun b0 h=>?_
 refine Yc (Di4 b k F X ok c i hi) ?_;rintro _ h ⟨rfl,o⟩<;>refine Jh o ?_
 (refine Jc ?_;intros)
 refine Yn fun b1 h=>?_
 (refine Jb ?_;intros)
 by_cases h1:(G7 X i).2=0
 case neg =>
  rw [if_pos h1]
  refine Yt (by simpa using h1) ?_
  refine Yc (P7 (G7 X i).2) ?_;rintro _ h ⟨rfl,o⟩<;>(refine Jf o ?_;intros)
  refine Ys fun o=>?_
  exact ⟨rfl,o.sub⟩
 rw [if_neg (by simpa using h1)]
 refine Yf (by simpa using h1) ?_
 obtain ⟨s1,s2,s3,s4⟩:=Aq2 c hi h1
 rw [s1,e1]
 generalize hp:(vS X i).1=p at s2 s3
 have hin:=At9 (rd X ⟨1,i⟩)
 rw [show (N8 (rd X ⟨1,i⟩)).1=p from hp] at hin
 have hs:=Eo1 p (j:=fd.toNat) (by omega) (f+1)
 obtain ⟨w1,_⟩:=Ab4 c hi (By7 s3 s2 fd.toNat (f:=f+1) (by omega)) ⟨hin.a,hin.b,hin.c,hin.d⟩
 generalize setFd p fd.toNat (f+1)=q at hs w1
 dsimp only
 (refine Ja ?_;intros)
 refine Yc (Bf9 b k F X ok i q) ?_;rintro _ h ⟨rfl,o⟩<;>refine Jh o ?_
 rw [w1]
 dsimp only
 (refine Ja ?_;intros)
 refine Yc (G28 true fd) ?_;rintro _ h ⟨rfl,o⟩<;>refine Jh o ?_
 rw [if_pos trivial]
 (refine Ja ?_;intros)
 refine Ys fun o=>?_
 exact ⟨rfl,o.sub⟩
def N0 (q:Int→Bool):Nat→Int→Nat→List Int
 | 0,_,_=>[]
 | _+1,_,0=>[]
 | m+1,i,w+1=>if q i=true then i::N0 q m (i+1) w else N0 q m (i+1) (w+1)
theorem Di2 (q:Int→Bool):∀ (m:Nat) (i:Int) (w:Nat),(N0 q m i w).length≤w
 | 0,_,_=>by simp [N0]
 | _+1,_,0=>by simp [N0]
 | m+1,i,w+1=>by
  have h1:=Di2 q m (i+1) w
  have h2:=Di2 q m (i+1) (w+1)
  unfold N0;split<;>simp<;>omega
theorem Z6 (q:Int→Bool):∀ (m:Nat) (i:Int) (w:Nat),∀ x ∈ N0 q m i w,i≤x∧x<i+m∧q x=true
 | 0,_,_,x,hx=>by simp [N0] at hx
 | _+1,_,0,x,hx=>by simp [N0] at hx
 | m+1,i,w+1,x,hx=>by
  unfold N0 at hx
  split at hx
  ·rename_i hq
   rcases List.mem_cons.1 hx with rfl|h
   ·exact ⟨by omega,by omega,hq⟩
   ·have:=Z6 q m (i+1) w x h
    exact ⟨by omega,by omega,this.2.2⟩
  ·have:=Z6 q m (i+1) (w+1) x hx
   exact ⟨by omega,by omega,this.2.2⟩
theorem Eq5 (pr:HP) (g:FuncId) (cp:List Value) (n:Int) (hn:n≤100) (q:Int→Bool) (hq:∀ j:Int,0≤j∧j<n→Ct A5 g (int j::cp) [pr] fun v own=>v=.bool (q j)∧own [pr]):∀ (m:Nat) (i:Int) (acc:List Int) (w:Nat) (a:Option Addr) (ac:Nat),0≤i→i+m=n→acc.length≤i →
  CtJ D8 Af5 Br4 [(0,int n),(1,int ((acc.length+w:Nat):Int)),(2,.func (.func g) ⟨[]⟩ ⟨cp⟩),(7,.slice a acc.length ac),(8,int i)] [slC false A6 1 a acc.length ac (acc.map int),pr] fun v own =>
   ∃ a' c',v=.slice a' (acc++N0 q m i w).length c'∧own [slC false A6 1 a' (acc++N0 q m i w).length c' ((acc++N0 q m i w).map int),pr]
 | 0,i,acc,w,a,ac,h0,hi,ha=>by
  refine CtJ.of D91 fun h r=>Tr.eq (D38 ..) ?_;refine Je ?_
  refine Yb (Yf (by simp;omega) ?_)
  refine Ys fun o=>(?_:Tr _ _ _ _) o;refine Je ?_
  refine Yf rfl ?_
  refine Ys fun o=>?_
  rw [show N0 q 0 i w=[] by unfold N0;rfl,List.append_nil]
  exact ⟨a,ac,rfl,o.sub⟩
 | m+1,i,acc,0,a,ac,h0,hi,ha=>by
  refine CtJ.of D91 fun h r=>Tr.eq (D38 ..) ?_;refine Je ?_
  refine Yb (Yt (by simp;omega) ?_)
  refine Ys fun o=>(?_:Tr _ _ _ _) o;refine Je ?_
  refine Yf (by simp) ?_
  refine Ys fun o=>?_
  rw [show N0 q (m+1) i 0=[] by unfold N0;rfl,List.append_nil]
  exact ⟨a,ac,rfl,o.sub⟩
 | m+1,i,acc,w+1,a,ac,h0,hi,ha=>by
  have e1:=wI i
  rw [show N0 q (m+1) i (w+1)=if q i=true then i::N0 q m (i+1) w else N0 q m (i+1) (w+1) by rw [N0]]
  refine CtJ.of D91 fun h r=>Tr.eq (D38 ..) ?_;refine Je ?_
  refine Yb (Yt (by simp;omega) ?_)
  refine Ys fun o=>(?_:Tr _ _ _ _) o;refine Je ?_
  refine Yt (by simp;omega) ?_
  rw [e1]
  refine U1 0 rfl fun hl hc _=>?_
  (refine Ja ?_;intros)
  simp only [List.nil_append,List.singleton_append]
  refine Yc (hq i (by omega)) ?_;rintro _ h ⟨rfl,o⟩<;>refine Jh o ?_
  (refine Ja ?_;intros)
  by_cases h2:q i=true
  ·rw [if_pos h2]
   refine Yt h2 ?_
   (refine Ja ?_;intros)
   refine Tr.xApd (new:=[int i]) ⟨rfl,rfl,by simp only [A7];omega⟩ fun a' c' h=>?_
   have H:=Eq5 pr g cp n hn q hq m (i+1) (acc++[i]) w a' c' (by omega) (by omega) (by simp;omega)
   rw [show acc++i::N0 q m (i+1) w=acc++[i]++N0 q m (i+1) w by simp,show acc.length+(w+1)=(acc++[i]).length+w by simp;omega]
   refine (?_:Tr (_::pr::slC false A6 1 a' (acc.length+1) c' (acc.map int++[int i])::_) _ _ _)
   rw [show acc.map int++[int i]=(acc++[i]).map int by simp,show acc.length+1=(acc++[i]).length by simp]
   refine B9 [2,1] 1 rfl rfl ?_
   exact Yr H fun v h q=>q
  ·rw [if_neg h2]
   refine Yf (by simpa using h2) ?_
   refine B9 [1,0] 0 rfl rfl ?_
   exact Yr (Eq5 pr g cp n hn q hq m (i+1) acc (w+1) a ac (by omega) (by omega) (by omega)) fun v h q=>q
theorem G66 (pr:HP) (g:FuncId) (cp:List Value) (n:Nat) (hn:n≤100) (w:Nat) (q:Int→Bool) (hq:∀ j:Int,0≤j∧j<n→Ct A5 g (int j::cp) [pr] fun v own=>v=.bool (q j)∧own [pr]) :
  Ct A5 Af5 [int n,int w,.func (.func g) ⟨[]⟩ ⟨cp⟩] [pr] fun v own=>∃ a' c',v=.slice a' (N0 q n 0 w).length c'∧own [slC false A6 1 a' (N0 q n 0 w).length c' ((N0 q n 0 w).map int),pr]:=by
 refine Ct.of D91 rfl fun h r=>Tr.eq (It0 ..) ?_;refine Je ?_
 refine E6 false A6 1 (by omega) ?_
 have J:=Eq5 pr g cp n (by omega) q hq n 0 [] w none 0 (by omega) (by omega) (by simp)
 simp only [List.nil_append,List.length_nil,List.map_nil,Nat.zero_add] at J
 exact Yr J fun v h q=>q
theorem Jb1 (b:Nat) (p:ProcS) (j:Int) (hj:0≤j∧j<8):Ct A5 Bs3 [int j,P0 b] [pt b (.cells A9 false (B8 p))] fun v own=>v=.bool (p.fds.getD j.toNat 0==0)∧own [pt b (.cells A9 false (B8 p))]:=by
 have hg:=Ek7 p (j:=j.toNat) (by omega)
 refine Ct.of Hy1 rfl fun h r=>Tr.eq (Hy9 ..) ?_;refine Je ?_
 (refine Ja ?_;intros)
 refine Ys fun o=>?_
 exact ⟨rfl,o.sub⟩
abbrev L1 (p:ProcS) (w:Nat):List Int:=N0 (fun j=>p.fds.getD j.toNat 0==0) 8 0 w
theorem H51 (p:ProcS) (w:Nat):Ct A5 B79 [.agg ⟨B8 p⟩,int w] [] fun v own=>∃ a' c',v=.slice a' (L1 p w).length c'∧own [slC false A6 1 a' (L1 p w).length c' ((L1 p w).map int)]:=by
 refine Ct.of Ik3 rfl fun h r=>Tr.eq (Ii9 ..) ?_;refine Je ?_
 refine Yn fun b1 h=>?_
 refine Yc (G66 _ Bs3 [P0 b1] 8 (by omega) w _ fun j hj=>Jb1 b1 p j (by omega)) ?_
 rintro _ h ⟨a',c',rfl,o⟩
 refine Jh o ?_
 (refine Ja ?_;intros)
 refine Ys fun o=>?_
 exact ⟨a',c',rfl,o.sub⟩
def hcC (bh b k:Nat) (F:Fr) (X:CX):HP:=hex fun _:Unit=>sl [pt bh (.cells Bu7 false [P0 b]),cmC b k F X]
instance {bh b k:Nat} {F:Fr} {X:CX}:Chk (hcC bh b k F X) (fun _:Unit=>[pt bh (.cells Bu7 false [P0 b]),cmC b k F X]):=⟨rfl⟩
theorem Jg5 (bh b k:Nat) (F:Fr) (X:CX) (ok:FrOk F) {nc:Nat} (c:Clean nc X) (j:Int) (hj:0≤j∧j<12):Ct A5 Bj3 [int j,P0 bh] [hcC bh b k F X] fun v own=>v=.bool ((vF X j).2==0)∧own [hcC bh b k F X]:=by
 refine Ct.of H72 rfl fun h r=>Tr.eq (H23 ..) ?_;refine Je ?_
 refine B5 (hcC bh b k F X) fun u=>?_;refine Je ?_
 (refine Ja ?_;intros)
 refine Yc (Dx1 b k F X ok j) ?_;rintro _ h ⟨rfl,o⟩<;>refine Jh o ?_
 rw [Bu0 c hj]
 dsimp only
 (refine Jc ?_;intros)
 refine Yn fun b1 h=>?_
 (refine Ja ?_;intros)
 refine B4 (hcC bh b k F X) () ?_;refine Je ?_
 refine Ys fun o=>?_
 exact ⟨rfl,o.sub⟩
theorem Jf9 (bh b k:Nat) (F:Fr) (X:CX) (ok:FrOk F) {nc:Nat} (c:Clean nc X) (j:Int) (hj:0≤j∧j<3+nc):Ct A5 Bj5 [int j,P0 bh] [hcC bh b k F X] fun v own=>v=.bool ((vP X j).2==0)∧own [hcC bh b k F X]:=by
 refine Ct.of If6 rfl fun h r=>Tr.eq (H19 ..) ?_;refine Je ?_
 refine B5 (hcC bh b k F X) fun u=>?_;refine Je ?_
 (refine Ja ?_;intros)
 refine Yc (G87 b k F X ok j) ?_;rintro _ h ⟨rfl,o⟩<;>refine Jh o ?_
 rw [Eo8 c hj]
 dsimp only
 (refine Jc ?_;intros)
 refine Yn fun b1 h=>?_
 (refine Ja ?_;intros)
 refine B4 (hcC bh b k F X) () ?_;refine Je ?_
 refine Ys fun o=>?_
 exact ⟨rfl,o.sub⟩
def ofV (X:CX) (i fd:Int):(Int × FileS) × Int :=
 if (G7 X i).2≠0 then ((0,.zero),(G7 X i).2)
 else if Q8 (vS X i).1 fd=false then ((0,.zero),109)
 else if (vF X ((vS X i).1.fds.getD fd.toNat 0-1)).2≠1 then ((0,.zero),105)
 else (((vS X i).1.fds.getD fd.toNat 0-1,(vF X ((vS X i).1.fds.getD fd.toNat 0-1)).1),0)
theorem Ew5 {nc:Nat} {X:CX} (c:Clean nc X) {i:Int} (hi:0≤i∧i<8) (h:(G7 X i).2=0) (j:Nat):0≤(vS X i).1.fds.getD j 0∧(vS X i).1.fds.getD j 0≤12:=by
 obtain ⟨s1,s2,s3,s4⟩:=Aq2 c hi h
 by_cases hj:j<(vS X i).1.fds.length
 ·rw [List.getD_eq_getElem?_getD,List.getElem?_eq_getElem hj];exact Ba3 s3 _ (List.getElem_mem _)
 ·rw [List.getD_eq_getElem?_getD,List.getElem?_eq_none (by omega)];simp
theorem H03 (b k:Nat) (F:Fr) (X:CX) (ok:FrOk F) {nc:Nat} (c:Clean nc X) (i fd:Int) (hi:0≤i∧i<8) :
  Ct A5 B02 [P0 b,int i,int fd] [cmC b k F X] fun v own=>v=.tuple ⟨[int (ofV X i fd).1.1,.agg ⟨Ab1 (ofV X i fd).1.2⟩,int (ofV X i fd).2]⟩∧own [cmC b k F X]:=by
 unfold ofV
 refine Ct.of H70 rfl fun h r=>Tr.eq (Ie1 ..) ?_;refine Je ?_
 refine Yn fun b0 h=>?_
 refine Yc (Di4 b k F X ok c i hi) ?_;rintro _ h ⟨rfl,o⟩<;>refine Jh o ?_
 (refine Jc ?_;intros)
 refine Yn fun b1 h=>?_
 (refine Jb ?_;intros)
 by_cases h1:(G7 X i).2=0
 case neg =>
  rw [if_pos h1]
  refine Yt (by simpa using h1) ?_
  (refine Ja ?_;intros)
  refine Ys fun o=>?_
  exact ⟨rfl,o.sub⟩
 rw [if_neg (by simpa using h1)]
 refine Yf (by simpa using h1) ?_
 obtain ⟨s1,s2,s3,s4⟩:=Aq2 c hi h1
 have hr:=fun j=>Ew5 c hi h1 j
 rw [s1]
 generalize hp:(vS X i).1=p at s2 s3 hr
 (refine Ja ?_;intros)
 refine Yc (H34 p fd) ?_;rintro _ h ⟨rfl,o⟩<;>(refine Jf o ?_;intros)
 by_cases h2:Q8 p fd=true
 case neg =>
  rw [if_pos (by simpa using h2)]
  refine Yt (by simpa using h2) ?_
  (refine Ja ?_;intros)
  refine Ys fun o=>?_
  exact ⟨rfl,o.sub⟩
 rw [if_neg (by simpa using h2)]
 refine Yf (by simpa using h2) ?_
 simp only [Q8,Bool.and_eq_true,decide_eq_true_eq] at h2
 have hg:=Ek7 p (j:=fd.toNat) (by omega)
 have hf:=hr fd.toNat
 generalize p.fds.getD fd.toNat 0=f at hg hf h2
 have e1:IntKind.wrap .i64 (f-1)=f-1:=by rw [B3];omega
 (refine Ja ?_;intros)
 rw [e1]
 refine Yc (Dx1 b k F X ok (f-1)) ?_;rintro _ h ⟨rfl,o⟩<;>refine Jh o ?_
 rw [Bu0 c (by omega)]
 dsimp only
 (refine Ja ?_;intros)
 by_cases h3:(vF X (f-1)).2=1
 case neg =>
  rw [if_pos h3]
  refine Yt (by simpa using h3) ?_
  (refine Ja ?_;intros)
  refine Ys fun o=>?_
  exact ⟨rfl,o.sub⟩
 rw [if_neg (by simpa using h3)]
 refine Yf (by simpa using h3) ?_
 (refine Ja ?_;intros)
 rw [e1]
 refine Ys fun o=>?_
 exact ⟨rfl,o.sub⟩
def Ap6 (nc:Nat) (X:CX) (i fd:Int):List Value × CX :=
 if (G7 X i).2≠0 then (E5 0 (G7 X i).2 false,X)
 else if Q8 (vS X i).1 fd=false then (E5 0 109 false,X)
 else (E5 0 (Az8 nc (Ao0 X i (setFd (vS X i).1 fd.toNat 0)) ((vS X i).1.fds.getD fd.toNat 0-1)).1 false,(Az8 nc (Ao0 X i (setFd (vS X i).1 fd.toNat 0)) ((vS X i).1.fds.getD fd.toNat 0-1)).2)
theorem Bm7 {p:ProcS} {fd:Int} (h:Q8 p fd=true):(0≤fd∧fd<8)∧p.fds.getD fd.toNat 0>0:=by
 simp only [Q8,Bool.and_eq_true,decide_eq_true_eq] at h;exact h
theorem Gx3 {nc:Nat} {X:CX} (c:Clean nc X) {i:Int} (hi:0≤i∧i<8) (h:(G7 X i).2=0) (j:Nat) {f:Int} (hf:0≤f∧f≤12) :
  Bx8 X i (setFd (vS X i).1 j f)=(true,Ao0 X i (setFd (vS X i).1 j f))∧Clean nc (Ao0 X i (setFd (vS X i).1 j f))∧(∀ n:Int,0≤n∧n<8→vS (Ao0 X i (setFd (vS X i).1 j f)) n=if n=i then (setFd (vS X i).1 j f,1) else vS X n)∧(∀ n:Int,0≤n∧n<12→vF (Ao0 X i (setFd (vS X i).1 j f)) n=vF X n)∧(∀ n:Int,0≤n∧n<3+nc→vP (Ao0 X i (setFd (vS X i).1 j f)) n=vP X n):=by
 obtain ⟨s1,s2,s3,s4⟩:=Aq2 c hi h
 have hin:=At9 (rd X ⟨1,i⟩)
 exact Ab4 c hi (By7 s3 s2 j hf) ⟨hin.a,hin.b,hin.c,hin.d⟩
theorem Hj8 {nc:Nat} {X:CX} (c:Clean nc X) {i:Int} (hi:0≤i∧i<8) (fd:Int):Clean nc (Ap6 nc X i fd).2:=by
 unfold Ap6
 split
 ·exact c
 ·rename_i h1
  split
  ·exact c
  ·rename_i h2
   have hn:=Bm7 (show Q8 (vS X i).1 fd=true by simpa using h2)
   have hr:=Ew5 c hi (by simpa using h1) fd.toNat
   exact Ec3 (Gx3 c hi (by simpa using h1) fd.toNat (by omega)).2.1 (by omega)
theorem Ge0 (b k:Nat) (F:Fr) (X:CX) (ok:FrOk F) {nc:Nat} (c:Clean nc X) (i fd:Int) (hi:0≤i∧i<8) :
  Ct A5 A41 [P0 b,int i,int fd] [cmC b k F X] fun v own=>v=.agg ⟨(Ap6 nc X i fd).1⟩∧own [cmC b k F (Ap6 nc X i fd).2]:=by
 unfold Ap6
 refine Ct.of Gx1 rfl fun h r=>Tr.eq (Gx2 ..) ?_;refine Je ?_
 refine Yn fun b0 h=>?_
 refine Yc (Di4 b k F X ok c i hi) ?_;rintro _ h ⟨rfl,o⟩<;>refine Jh o ?_
 (refine Jc ?_;intros)
 refine Yn fun b1 h=>?_
 (refine Jb ?_;intros)
 by_cases h1:(G7 X i).2=0
 case neg =>
  rw [if_pos h1]
  refine Yt (by simpa using h1) ?_
  refine Yc (P7 (G7 X i).2) ?_;rintro _ h ⟨rfl,o⟩<;>(refine Jf o ?_;intros)
  refine Ys fun o=>?_
  exact ⟨rfl,o.sub⟩
 rw [if_neg (by simpa using h1)]
 refine Yf (by simpa using h1) ?_
 obtain ⟨s1,s2,s3,s4⟩:=Aq2 c hi h1
 have hr:=Ew5 c hi h1 fd.toNat
 have hW:=fun hf=>Gx3 c hi h1 fd.toNat (f:=0) hf
 rw [s1]
 generalize (vS X i).1=p at s2 s3 hr hW
 (refine Ja ?_;intros)
 refine Yc (H34 p fd) ?_;rintro _ h ⟨rfl,o⟩<;>(refine Jf o ?_;intros)
 by_cases h2:Q8 p fd=true
 case neg =>
  rw [if_pos (by simpa using h2)]
  refine Yt (by simpa using h2) ?_
  refine Yc (P7 109) ?_;rintro _ h ⟨rfl,o⟩<;>(refine Jf o ?_;intros)
  refine Ys fun o=>?_
  exact ⟨rfl,o.sub⟩
 rw [if_neg (by simpa using h2)]
 refine Yf (by simpa using h2) ?_
 have hn:=Bm7 h2
 have hg:=Ek7 p (j:=fd.toNat) (by omega)
 have hs:=Eo1 p (j:=fd.toNat) (by omega) 0
 obtain ⟨w1,w2,_⟩:=hW (by omega)
 generalize p.fds.getD fd.toNat 0=f at hg hr hn
 have e1:IntKind.wrap .i64 (f-1)=f-1:=by rw [B3];omega
 generalize setFd p fd.toNat 0=q at hs w1 w2
 (refine Ja ?_;intros)
 refine Yc (Bf9 b k F X ok i q) ?_;rintro _ h ⟨rfl,o⟩<;>refine Jh o ?_
 rw [w1]
 (refine Ja ?_;intros)
 rw [e1]
 refine Yc (Gh1 b k F _ ok w2 (f-1) (by omega)) ?_;rintro _ h ⟨rfl,o⟩<;>(refine Jf o ?_;intros)
 refine Yc (P7 (Az8 nc (Ao0 X i q) (f-1)).1) ?_;rintro _ h ⟨rfl,o⟩<;>(refine Jf o ?_;intros)
 refine Ys fun o=>?_
 exact ⟨rfl,o.sub⟩
def G53 (X:CX) (i fd:Int):List Value × CX :=
 if (ofV X i fd).2≠0 then (E5 0 (ofV X i fd).2 false,X)
 else if (L1 (vS X i).1 1).length=0 then (E5 0 124 false,X)
 else if (ofV X i fd).1.2.refs≥64 then (E5 0 123 false,X)
 else Dy0 (setF X (ofV X i fd).1.1 (Am4 (ofV X i fd).1.2 1)) i ((L1 (vS X i).1 1).getD 0 0) (ofV X i fd).1.1
theorem Gh9 {nc:Nat} {X:CX} (c:Clean nc X) {i fd:Int} (hi:0≤i∧i<8) (h:(ofV X i fd).2=0) :
  (G7 X i).2=0∧Q8 (vS X i).1 fd=true∧(ofV X i fd).1.1=(vS X i).1.fds.getD fd.toNat 0-1∧(0≤(ofV X i fd).1.1∧(ofV X i fd).1.1<12)∧vF X (ofV X i fd).1.1=((ofV X i fd).1.2,1)∧okF (ofV X i fd).1.2=true:=by
 unfold ofV at h ⊢
 by_cases h1:(G7 X i).2=0
 case neg=>rw [if_pos h1] at h;exact absurd h h1
 rw [if_neg (by simpa using h1)] at h ⊢
 by_cases h2:Q8 (vS X i).1 fd=true
 case neg=>rw [if_pos (by simpa using h2)] at h;cases h
 rw [if_neg (by simpa using h2)] at h ⊢
 have hn:=Bm7 h2
 have hr:=Ew5 c hi h1 fd.toNat
 by_cases h3:(vF X ((vS X i).1.fds.getD fd.toNat 0-1)).2=1
 case neg=>rw [if_pos h3] at h;cases h
 rw [if_neg (by simpa using h3)]
 have hk:okF (vF X ((vS X i).1.fds.getD fd.toNat 0-1)).1=true:=by
  rcases Gq0 c (i:=(vS X i).1.fds.getD fd.toNat 0-1) (by omega) with ⟨h4,_⟩|⟨_,h4⟩
  ·rw [h3] at h4;cases h4
  ·exact h4
 exact ⟨h1,h2,rfl,by simp only;omega,Prod.ext rfl h3,hk⟩
theorem J10 {l:List Int} (h:l.length≠0):(l.map int)[0]?=some (int (l.getD 0 0)):=Gg6 (by omega)
theorem Hp6 (X:CX) (i d f:Int):∃ n e:Int,(Dy0 X i d f).1=E5 n e false:=by
 unfold Dy0;split
 ·exact ⟨_,_,rfl⟩
 ·exact ⟨_,_,rfl⟩
theorem Jq2 (b k:Nat) (F:Fr) (X:CX) (ok:FrOk F) {nc:Nat} (c:Clean nc X) (i fd:Int) (hi:0≤i∧i<8) :
  Ct A5 Dh2 [P0 b,int i,int fd] [cmC b k F X] fun v own=>v=.agg ⟨(G53 X i fd).1⟩∧own [cmC b k F (G53 X i fd).2]:=by
 unfold G53
 refine Ct.of Hs4 rfl fun h r=>Tr.eq (Hv4 ..) ?_;refine Je ?_
 refine Yn fun b0 h=>?_
 refine Yc (H03 b k F X ok c i fd hi) ?_;rintro _ h ⟨rfl,o⟩<;>refine Jh o ?_
 (refine Jc ?_;intros)
 refine Yn fun b1 h=>?_
 (refine Jb ?_;intros)
 by_cases h1:(ofV X i fd).2=0
 case neg =>
  rw [if_pos h1]
  refine Yt (by simpa using h1) ?_
  refine Yc (P7 (ofV X i fd).2) ?_;rintro _ h ⟨rfl,o⟩<;>(refine Jf o ?_;intros)
  refine Ys fun o=>?_
  exact ⟨rfl,o.sub⟩
 rw [if_neg (by simpa using h1)]
 refine Yf (by simpa using h1) ?_
 obtain ⟨o1,o2,o3,o4,o5,o6⟩:=Gh9 c hi h1
 obtain ⟨s1,s2,s3,s4⟩:=Aq2 c hi o1
 generalize (ofV X i fd).1.1=f at o3 o4 o5
 generalize (ofV X i fd).1.2=x at o5 o6
 refine Yc (Di4 b k F X ok c i hi) ?_;rintro _ h ⟨rfl,o⟩<;>refine Jh o ?_
 rw [s1]
 (refine Jc ?_;intros)
 refine Yn fun b2 h=>?_
 generalize hp:(vS X i).1=p
 (refine Ja ?_;intros)
 refine Yc (H51 p 1) ?_
 rintro _ h ⟨a,ac,rfl,o⟩
 refine Jh o ?_
 have hm:=Z6 (fun j=>p.fds.getD j.toNat 0==0) 8 0 1
 have hl:=Di2 (fun j=>p.fds.getD j.toNat 0==0) 8 0 1
 show Tr (slC false A6 1 a (L1 p 1).length ac ((L1 p 1).map int)::_) _ _ _
 generalize hL:L1 p 1=L
 replace hm:∀ y ∈ L,0≤y∧y<8:=by rw [← hL];exact fun y hy=>⟨(hm y hy).1,(hm y hy).2.1⟩
 by_cases h2:L.length=0
 ·rw [if_pos h2]
  (refine Ja ?_;intros)
  refine Yt (by simpa using h2) ?_
  refine Yc (P7 124) ?_;rintro _ h ⟨rfl,o⟩<;>(refine Jf o ?_;intros)
  refine Ys fun o=>?_
  exact ⟨rfl,o.sub⟩
 rw [if_neg h2]
 (refine Ja ?_;intros)
 refine Yf (by simpa using h2) ?_
 (refine Ja ?_;intros)
 have hr:=At7 o6
 by_cases h3:x.refs≥64
 ·rw [if_pos h3]
  refine Yt (by simpa using h3) ?_
  refine Yc (P7 123) ?_;rintro _ h ⟨rfl,o⟩<;>(refine Jf o ?_;intros)
  refine Ys fun o=>?_
  exact ⟨rfl,o.sub⟩
 rw [if_neg h3]
 refine Yf (by simpa using h3) ?_
 (refine Ja ?_;intros)
 refine Yc (Io6 b k F X ok c f o4 x o6 (by omega)) ?_;rintro _ h ⟨rfl,o⟩<;>refine Jh o ?_
 have hd:=J10 h2
 have hd8:0≤L.getD 0 0∧L.getD 0 0<8:=hm _ (by
  rw [List.getD_eq_getElem?_getD,List.getElem?_eq_getElem (by omega)];exact List.getElem_mem _)
 generalize L.getD 0 0=d at hd hd8
 have c2:=(S6 c o4 (Ay9 o6 (n:=1) (by omega))).2.1
 (refine Ja ?_;intros;repeat(refine Gw ?_;rintro px rfl;refine Ja ?_;intros))
 refine Yc (H58 b k F _ ok c2 i d f hi hd8 o4) ?_;rintro _ h ⟨rfl,o⟩<;>refine Jh o ?_
 obtain ⟨y,z,he⟩:=Hp6 (setF X f (Am4 x 1)) i d f
 rw [he]
 (refine Ja ?_;intros)
 refine Ys fun o=>?_
 exact ⟨rfl,o.sub⟩
def E84 (nc:Nat) (X:CX) (i fd to:Int):List Value × CX :=
 if (ofV X i fd).2≠0 then (E5 0 (ofV X i fd).2 false,X)
 else if to<0∨to≥8 then (E5 0 109 false,X)
 else if to=fd then (E5 to 0 false,X)
 else if (ofV X i fd).1.2.refs≥64 then (E5 0 123 false,X)
 else Dy0 (Ap6 nc (setF X (ofV X i fd).1.1 (Am4 (ofV X i fd).1.2 1)) i to).2 i to (ofV X i fd).1.1
theorem Jg0 (b k:Nat) (F:Fr) (X:CX) (ok:FrOk F) {nc:Nat} (c:Clean nc X) (i fd to:Int) (hi:0≤i∧i<8) :
  Ct A5 B41 [P0 b,int i,int fd,int to] [cmC b k F X] fun v own=>v=.agg ⟨(E84 nc X i fd to).1⟩∧own [cmC b k F (E84 nc X i fd to).2]:=by
 unfold E84
 refine Ct.of Hh8 rfl fun h r=>Tr.eq (Hg5 ..) ?_;refine Je ?_
 refine Yn fun b0 h=>?_
 refine Yc (H03 b k F X ok c i fd hi) ?_;rintro _ h ⟨rfl,o⟩<;>refine Jh o ?_
 (refine Jc ?_;intros)
 refine Yn fun b1 h=>?_
 (refine Jb ?_;intros)
 by_cases h1:(ofV X i fd).2=0
 case neg =>
  rw [if_pos h1]
  refine Yt (by simpa using h1) ?_
  refine Yc (P7 (ofV X i fd).2) ?_;rintro _ h ⟨rfl,o⟩<;>(refine Jf o ?_;intros)
  refine Ys fun o=>?_
  exact ⟨rfl,o.sub⟩
 rw [if_neg (by simpa using h1)]
 refine Yf (by simpa using h1) ?_
 obtain ⟨o1,o2,o3,o4,o5,o6⟩:=Gh9 c hi h1
 generalize (ofV X i fd).1.1=f at o3 o4 o5
 generalize (ofV X i fd).1.2=x at o5 o6
 by_cases h0:to<0∨to≥8
 ·rw [if_pos h0]
  by_cases h00:to<0
  ·refine Yb (Yt (by simpa using h00) ?_)
   refine Ys fun o=>(?_:Tr _ _ _ _) o;refine Je ?_
   refine Yt rfl ?_
   refine Yc (P7 109) ?_;rintro _ h ⟨rfl,o⟩<;>(refine Jf o ?_;intros)
   refine Ys fun o=>?_
   exact ⟨rfl,o.sub⟩
  ·refine Yb (Yf (by simpa using h00) ?_)
   refine Ys fun o=>(?_:Tr _ _ _ _) o;refine Je ?_
   refine Yt (by simp;omega) ?_
   refine Yc (P7 109) ?_;rintro _ h ⟨rfl,o⟩<;>(refine Jf o ?_;intros)
   refine Ys fun o=>?_
   exact ⟨rfl,o.sub⟩
 rw [if_neg h0]
 refine Yb (Yf (by simp;omega) ?_)
 refine Ys fun o=>(?_:Tr _ _ _ _) o;refine Je ?_
 refine Yf (by simp;omega) ?_
 by_cases hfd:to=fd
 ·rw [if_pos hfd]
  refine Yt (by simpa using hfd) ?_
  (refine Ja ?_;intros)
  refine Ys fun o=>?_
  exact ⟨rfl,o.sub⟩
 rw [if_neg hfd]
 refine Yf (by simpa using hfd) ?_
 (refine Ja ?_;intros)
 have hr:=At7 o6
 by_cases h3:x.refs≥64
 ·rw [if_pos h3]
  refine Yt (by simpa using h3) ?_
  refine Yc (P7 123) ?_;rintro _ h ⟨rfl,o⟩<;>(refine Jf o ?_;intros)
  refine Ys fun o=>?_
  exact ⟨rfl,o.sub⟩
 rw [if_neg h3]
 refine Yf (by simpa using h3) ?_
 have c2:=(S6 c o4 (Ay9 o6 (n:=1) (by omega))).2.1
 (refine Ja ?_;intros)
 refine Yc (Io6 b k F X ok c f o4 x o6 (by omega)) ?_;rintro _ h ⟨rfl,o⟩<;>(refine Jf o ?_;intros)
 refine Yc (Ge0 b k F _ ok c2 i to hi) ?_;rintro _ h ⟨rfl,o⟩<;>(refine Jf o ?_;intros)
 refine Yc (H58 b k F _ ok (Hj8 c2 hi to) i to f hi (by omega) o4) ?_;rintro _ h ⟨rfl,o⟩<;>refine Jh o ?_
 obtain ⟨y,z,he⟩:=Hp6 (Ap6 nc (setF X f (Am4 x 1)) i to).2 i to f
 rw [he]
 (refine Ja ?_;intros)
 refine Ys fun o=>?_
 exact ⟨rfl,o.sub⟩
def B12:PipeS:=⟨0,0,1,1,[0,0,0,0,0,0,0,0,0,0,0,0,0,0,0,0,0,0,0,0,0,0,0,0,0,0,0,0,0,0,0,0],rfl⟩
abbrev Bu3 (X:CX):List Int:=N0 (fun j=>(vF X j).2==0) 12 0 2
abbrev B33 (X:CX):List Int:=N0 (fun j=>(vP X j).2==0) 4 0 1
def B96 (X:CX) (i d0 d1 f0 f1 r0:Int):CX :=
 Ao0 (setF (setF (B04 X r0 B12) f0 ⟨1,r0,1,0⟩) f1 ⟨2,r0,1,0⟩) i (setFd (setFd (vS X i).1 d0.toNat (f0+1)) d1.toNat (f1+1))
def Bi9 (X:CX) (i:Int):List Value × CX :=
 if (G7 X i).2≠0 then (E5 0 (G7 X i).2 false,X)
 else if (L1 (vS X i).1 2).length<2 then (E5 0 124 false,X)
 else if (Bu3 X).length<2∨(B33 X).length=0 then (E5 0 123 false,X)
 else (E5 ((L1 (vS X i).1 2).getD 0 0+16*(L1 (vS X i).1 2).getD 1 0) 0 false,B96 X i ((L1 (vS X i).1 2).getD 0 0) ((L1 (vS X i).1 2).getD 1 0) ((Bu3 X).getD 0 0) ((Bu3 X).getD 1 0) ((B33 X).getD 0 0))
theorem I19 {l:List Int} (h:l.length≤2) (h2:¬ l.length<2):∃ a b,l=[a,b]:=by
 match l,h,h2 with
 | [a,b],_,_=>exact ⟨a,b,rfl⟩
 | [],_,h2=>simp at h2
 | [_],_,h2=>simp at h2
 | _::_::_::_,h,_=>simp at h
theorem Hv2 {nc:Nat} {X:CX} (c:Clean nc X) {i:Int} (hi:0≤i∧i<8) (hs:(G7 X i).2=0) {d0 d1 f0 f1 r0:Int} (hd0:0≤d0∧d0<8) (hd1:0≤d1∧d1<8) (hf0:0≤f0∧f0<12) (hf1:0≤f1∧f1<12) (hr:0≤r0∧r0<4) (hn:r0<3+(nc:Int)) :
  Dd6 X r0 B12=(true,B04 X r0 B12)∧Bz6 (B04 X r0 B12) f0 ⟨1,r0,1,0⟩=(true,setF (B04 X r0 B12) f0 ⟨1,r0,1,0⟩) ∧
  Bz6 (setF (B04 X r0 B12) f0 ⟨1,r0,1,0⟩) f1 ⟨2,r0,1,0⟩=(true,setF (setF (B04 X r0 B12) f0 ⟨1,r0,1,0⟩) f1 ⟨2,r0,1,0⟩) ∧
  Bx8 (setF (setF (B04 X r0 B12) f0 ⟨1,r0,1,0⟩) f1 ⟨2,r0,1,0⟩) i (setFd (setFd (vS X i).1 d0.toNat (f0+1)) d1.toNat (f1+1))=(true,B96 X i d0 d1 f0 f1 r0) ∧
  Clean nc (B96 X i d0 d1 f0 f1 r0)∧(∀ j:Int,0≤j∧j<8→vS (B96 X i d0 d1 f0 f1 r0) j=if j=i then (setFd (setFd (vS X i).1 d0.toNat (f0+1)) d1.toNat (f1+1),1) else vS X j) ∧
  (∀ j:Int,0≤j∧j<12→vF (B96 X i d0 d1 f0 f1 r0) j=if j=f1 then (⟨2,r0,1,0⟩,1) else if j=f0 then (⟨1,r0,1,0⟩,1) else vF X j) ∧
  (∀ j:Int,0≤j∧j<3+nc→vP (B96 X i d0 d1 f0 f1 r0) j=if j=r0 then (B12,1) else vP X j):=by
 obtain ⟨s1,s2,s3,s4⟩:=Aq2 c hi hs
 have hin:=At9 (rd X ⟨1,i⟩)
 obtain ⟨a1,a2,a3,a4,a5⟩:=B44 c (i:=r0) (by omega) (p:=B12) rfl
 obtain ⟨b1,b2,b3,b4,b5⟩:=S6 a2 hf0 (f:=⟨1,r0,1,0⟩) (by simp [okF];omega)
 obtain ⟨c1,c2,c3,c4,c5⟩:=S6 b2 hf1 (f:=⟨2,r0,1,0⟩) (by simp [okF];omega)
 have hq:=By7 (By7 s3 s2 d0.toNat (f:=f0+1) (by omega)) s2 d1.toNat (f:=f1+1) (by omega)
 obtain ⟨e1,e2,e3,e4,e5⟩:=Ab4 c2 hi hq ⟨hin.a,hin.b,hin.c,hin.d⟩
 refine ⟨a1,b1,c1,e1,e2,fun j hj=>?_,fun j hj=>?_,fun j hj=>?_⟩
 ·rw [show B96 X i d0 d1 f0 f1 r0=Ao0 _ _ _ from rfl,e3 j hj,c3 j hj,b3 j hj,a3 j hj]
 ·rw [show B96 X i d0 d1 f0 f1 r0=Ao0 _ _ _ from rfl,e4 j hj,c4 j hj,b4 j hj,a4 j hj]
 ·rw [show B96 X i d0 d1 f0 f1 r0=Ao0 _ _ _ from rfl,e5 j hj,c5 j hj,b5 j hj,a5 j hj]
theorem Je8 (bh b k:Nat) (F:Fr) (X:CX) (ok:FrOk F) {nc:Nat} (c:Clean nc X):Ct A5 Af5 [int 12,int 2,.func (.func Bj3) ⟨[]⟩ ⟨[P0 bh]⟩] [hcC bh b k F X] fun v own =>
  ∃ a' c',v=.slice a' (Bu3 X).length c'∧own [slC false A6 1 a' (Bu3 X).length c' ((Bu3 X).map int),hcC bh b k F X] :=
 G66 _ Bj3 [P0 bh] 12 (by omega) 2 _ fun j hj=>Jg5 bh b k F X ok c j (by omega)
theorem Jj6 (bh b k:Nat) (F:Fr) (X:CX) (ok:FrOk F) {nc:Nat} (c:Clean nc X):Ct A5 Af5 [int 4,int 1,.func (.func Bj5) ⟨[]⟩ ⟨[P0 bh]⟩] [hcC bh b k F X] fun v own =>
  ∃ a' c',v=.slice a' (B33 X).length c'∧own [slC false A6 1 a' (B33 X).length c' ((B33 X).map int),hcC bh b k F X] :=
 G66 _ Bj5 [P0 bh] 4 (by omega) 1 _ fun j hj=>Jf9 bh b k F X ok c j (by have:=c.pos;omega)
theorem Jx9 {l:List Int} (h:l.length≤1) (h2:¬ l.length=0):∃ a,l=[a]:=by
 match l,h,h2 with
 | [a],_,_=>exact ⟨a,rfl⟩
 | [],_,h2=>simp at h2
 | _::_::_,h,_=>simp at h
theorem Ie8 (b k:Nat) (F:Fr) (X:CX) (ok:FrOk F) {nc:Nat} (c:Clean nc X) (i:Int) (hi:0≤i∧i<8) :
  Ct A5 Bq1 [P0 b,int i] [cmC b k F X] fun v own=>v=.agg ⟨(Bi9 X i).1⟩∧own [cmC b k F (Bi9 X i).2]:=by
 unfold Bi9
 refine Ct.of Hg2 rfl fun h r=>Tr.eq (Ha2 ..) ?_;refine Je ?_
 refine Yn fun bh h=>?_
 refine Yn fun b0 h=>?_
 (refine Ja ?_;intros)
 refine Yc (Di4 b k F X ok c i hi) ?_;rintro _ h ⟨rfl,o⟩<;>refine Jh o ?_
 (refine Jc ?_;intros)
 refine Yn fun b1 h=>?_
 (refine Jb ?_;intros)
 by_cases h1:(G7 X i).2=0
 case neg =>
  rw [if_pos h1]
  refine Yt (by simpa using h1) ?_
  refine Yc (P7 (G7 X i).2) ?_;rintro _ h ⟨rfl,o⟩<;>(refine Jf o ?_;intros)
  refine Ys fun o=>?_
  exact ⟨rfl,o.sub⟩
 rw [if_neg (by simpa using h1)]
 refine Yf (by simpa using h1) ?_
 have hM:=fun d0 d1 f0 f1 r0=>Hv2 c hi h1 (d0:=d0) (d1:=d1) (f0:=f0) (f1:=f1) (r0:=r0)
 obtain ⟨s1,s2,s3,s4⟩:=Aq2 c hi h1
 rw [s1]
 unfold B96 at hM ⊢
 generalize (vS X i).1=p at hM
 (refine Ja ?_;intros)
 refine Yc (H51 p 2) ?_
 rintro _ h ⟨a,ac,rfl,o⟩
 refine Jh o ?_
 have hm:=Z6 (fun j=>p.fds.getD j.toNat 0==0) 8 0 2
 have hl:=Di2 (fun j=>p.fds.getD j.toNat 0==0) 8 0 2
 change ∀ x ∈ L1 p 2,_ at hm
 change (L1 p 2).length≤2 at hl
 refine (?_:Tr (slC false A6 1 a (L1 p 2).length ac ((L1 p 2).map int)::_) _ _ _)
 generalize L1 p 2=L at hm hl
 by_cases h2:L.length<2
 ·(refine Ja ?_;intros)
  refine Yt (by simp;omega) ?_
  refine Yc (P7 124) ?_;rintro _ h ⟨rfl,o⟩<;>(refine Jf o ?_;intros)
  refine Ys fun o=>?_
  rw [if_pos h2]
  exact ⟨rfl,o.sub⟩
 rw [if_neg h2]
 obtain ⟨d0,d1,rfl⟩:=I19 hl h2
 have hd0:=hm d0 (by simp)
 have hd1:=hm d1 (by simp)
 (refine Ja ?_;intros)
 refine Yf (by simp) ?_
 refine B4 (hcC bh b k F X) () ?_;refine Je ?_
 refine Yc (Je8 bh b k F X ok c) ?_
 rintro _ h ⟨a2,ac2,rfl,o⟩
 refine Jh o ?_
 have hmF:=Z6 (fun j=>(vF X j).2==0) 12 0 2
 have hlF:=Di2 (fun j=>(vF X j).2==0) 12 0 2
 change ∀ x ∈ Bu3 X,_ at hmF
 change (Bu3 X).length≤2 at hlF
 generalize Bu3 X=Fl at hmF hlF
 (refine Ja ?_;intros)
 refine Yc (Jj6 bh b k F X ok c) ?_
 rintro _ h ⟨a3,ac3,rfl,o⟩
 refine Jh o ?_
 have hmR:=Z6 (fun j=>(vP X j).2==0) 4 0 1
 have hlR:=Di2 (fun j=>(vP X j).2==0) 4 0 1
 change ∀ x ∈ B33 X,_ at hmR
 change (B33 X).length≤1 at hlR
 generalize B33 X=Rl at hmR hlR
 refine B5 (hcC bh b k F X) fun u=>?_;refine Je ?_
 by_cases h3:Fl.length<2
 ·rw [if_pos (.inl h3)]
  (refine Jb ?_;intros)
  refine Yb (Yt (by simp;omega) ?_)
  refine Ys fun o=>(?_:Tr _ _ _ _) o;refine Je ?_
  refine Yt rfl ?_
  refine Yc (P7 123) ?_;rintro _ h ⟨rfl,o⟩<;>(refine Jf o ?_;intros)
  refine Ys fun o=>?_
  exact ⟨rfl,o.sub⟩
 obtain ⟨f0,f1,rfl⟩:=I19 hlF h3
 by_cases h4:Rl.length=0
 ·rw [if_pos (.inr h4)]
  (refine Jb ?_;intros)
  refine Yb (Yf rfl ?_)
  refine Ys fun o=>(?_:Tr _ _ _ _) o;refine Je ?_
  refine Yt (by simpa using h4) ?_
  refine Yc (P7 123) ?_;rintro _ h ⟨rfl,o⟩<;>(refine Jf o ?_;intros)
  refine Ys fun o=>?_
  exact ⟨rfl,o.sub⟩
 rw [if_neg (fun h=>h.elim h3 h4)]
 obtain ⟨r0,rfl⟩:=Jx9 hlR h4
 have hf0:=hmF f0 (by simp)
 have hf1:=hmF f1 (by simp)
 have hr0:=hmR r0 (by simp)
 obtain ⟨w1,w2,w3,w4,_⟩:=hM d0 d1 f0 f1 r0 (by omega) (by omega) (by omega) (by omega) (by omega) (by have:=c.pos;omega)
 (refine Jb ?_;intros)
 refine Yb (Yf rfl ?_)
 refine Ys fun o=>(?_:Tr _ _ _ _) o;refine Je ?_
 refine Yf rfl ?_
 (refine Ja ?_;intros;repeat(refine Gw ?_;rintro px rfl;refine Ja ?_;intros))
 refine Yc (G06 b k F X ok r0 B12) ?_;rintro _ h ⟨rfl,o⟩<;>refine Jh o ?_
 rw [w1]
 dsimp only
 (refine Jb ?_;intros)
 refine Yb (Yt rfl ?_)
 (refine Jb ?_;intros;repeat(refine Gw ?_;rintro px rfl;refine Jb ?_;intros))
 refine Yc (Bt9 b k F (B04 X r0 B12) ok f0 ⟨1,r0,1,0⟩) ?_;rintro _ h ⟨rfl,o⟩<;>refine Jh o ?_
 rw [w2]
 dsimp only
 (refine Jb ?_;intros)
 refine Ys fun o=>(?_:Tr _ _ _ _) o;refine Je ?_
 refine Yb (Yt rfl ?_)
 (refine Jb ?_;intros;repeat(refine Gw ?_;rintro px rfl;refine Jb ?_;intros))
 refine Yc (Bt9 b k F (setF (B04 X r0 B12) f0 ⟨1,r0,1,0⟩) ok f1 ⟨2,r0,1,0⟩) ?_;rintro _ h ⟨rfl,o⟩<;>refine Jh o ?_
 rw [w3]
 dsimp only
 (refine Jb ?_;intros)
 refine Ys fun o=>(?_:Tr _ _ _ _) o;refine Je ?_
 have hs:Es8 (B8 p) (8+d0.toNat) (int (IntKind.wrap .i64 (f0+1)))=some (B8 (setFd p d0.toNat (f0+1))):=by
  rw [show IntKind.wrap .i64 (f0+1)=f0+1 by rw [B3];omega];exact Eo1 p (by omega) _
 have hs2:Es8 (B8 (setFd p d0.toNat (f0+1))) (8+d1.toNat) (int (IntKind.wrap .i64 (f1+1)))=some (B8 (setFd (setFd p d0.toNat (f0+1)) d1.toNat (f1+1))):=by
  rw [show IntKind.wrap .i64 (f1+1)=f1+1 by rw [B3];omega];exact Eo1 _ (by omega) _
 have hx:IntKind.wrap .i64 (d0+IntKind.wrap .i64 (16*d1))=d0+16*d1:=by simp only [B3];omega
 simp only [List.getD_cons_zero,List.getD_cons_succ]
 generalize setFd (setFd p d0.toNat (f0+1)) d1.toNat (f1+1)=q at hs2 w4
 (refine Jb ?_;intros;repeat(refine Gw ?_;rintro px rfl;refine Jb ?_;intros))
 rw [hx]
 refine Yb (Yt rfl ?_)
 (refine Jb ?_;intros)
 refine Yc (Bf9 b k F (setF (setF (B04 X r0 B12) f0 ⟨1,r0,1,0⟩) f1 ⟨2,r0,1,0⟩) ok i q) ?_;rintro _ h ⟨rfl,o⟩<;>refine Jh o ?_
 rw [w4]
 dsimp only
 (refine Jb ?_;intros)
 refine Ys fun o=>(?_:Tr _ _ _ _) o;refine Je ?_
 refine Yc (G28 true (d0+16*d1)) ?_;rintro _ h ⟨rfl,o⟩<;>refine Jh o ?_
 rw [if_pos trivial]
 (refine Ja ?_;intros)
 refine Ys fun o=>?_
 exact ⟨rfl,o.sub⟩
structure VW where
 S:Int→ProcS × Int
 F:Int→FileS × Int
 P:Int→PipeS × Int
structure See (X:CX) (V:VW):Prop where
 c:Clean 3 X
 s:∀ j:Int,0≤j∧j<8→vS X j=V.S j
 f:∀ j:Int,0≤j∧j<12→vF X j=V.F j
 p:∀ j:Int,0≤j∧j<6→vP X j=V.P j
theorem See.to {X:CX} {V V':VW} (A:See X V) (hs:∀ j:Int,0≤j∧j<8→V.S j=V'.S j) (hf:∀ j:Int,0≤j∧j<12→V.F j=V'.F j) (hp:∀ j:Int,0≤j∧j<6→V.P j=V'.P j):See X V' :=
 ⟨A.c,fun j h=>(A.s j h).trans (hs j h),fun j h=>(A.f j h).trans (hf j h),fun j h=>(A.p j h).trans (hp j h)⟩
def wS (V:VW) (i:Int) (p:ProcS):VW:=⟨fun j=>if j=i then (p,1) else V.S j,V.F,V.P⟩
def wF (V:VW) (i:Int) (x:FileS):VW:=⟨V.S,fun j=>if j=i then (x,1) else V.F j,V.P⟩
def wP (V:VW) (i:Int) (x:PipeS):VW:=⟨V.S,V.F,fun j=>if j=i then (x,1) else V.P j⟩
def oF (V:VW) (i:Int):VW:=⟨V.S,fun j=>if j=i then (.zero,0) else V.F j,V.P⟩
def oP (V:VW) (i:Int):VW:=⟨V.S,V.F,fun j=>if j=i then (.zero,0) else V.P j⟩
section
variable {X:CX} {V:VW} (A:See X V)
include A
theorem See.ws {i:Int} (hi:0≤i∧i<8) {p:ProcS} (ok:okS p=true) (r:InS p):See (Ao0 X i p) (wS V i p):=by
 obtain ⟨_,w2,w3,w4,w5⟩:=Ab4 A.c hi ok r
 exact ⟨w2,fun j h=>by rw [w3 j h,A.s j h];rfl,fun j h=>by rw [w4 j h];exact A.f j h,fun j h=>by rw [w5 j (by omega)];exact A.p j h⟩
theorem See.wf {i:Int} (hi:0≤i∧i<12) {x:FileS} (ok:okF x=true):See (setF X i x) (wF V i x):=by
 obtain ⟨_,w2,w3,w4,w5⟩:=S6 A.c hi ok
 exact ⟨w2,fun j h=>by rw [w3 j h];exact A.s j h,fun j h=>by rw [w4 j h,A.f j h];rfl,fun j h=>by rw [w5 j (by omega)];exact A.p j h⟩
theorem See.wp {i:Int} (hi:0≤i∧i<6) {x:PipeS} (ok:okP x=true):See (B04 X i x) (wP V i x):=by
 obtain ⟨_,w2,w3,w4,w5⟩:=B44 A.c (i:=i) (by omega) ok
 exact ⟨w2,fun j h=>by rw [w3 j h];exact A.s j h,fun j h=>by rw [w4 j h];exact A.f j h,fun j h=>by rw [w5 j (by omega),A.p j h];rfl⟩
theorem See.of {i:Int} (hi:0≤i∧i<12):See (Eq1 X i) (oF V i):=by
 obtain ⟨_,w2,w3,w4,w5⟩:=Dx0 A.c hi
 exact ⟨w2,fun j h=>by rw [w3 j h];exact A.s j h,fun j h=>by rw [w4 j h,A.f j h];rfl,fun j h=>by rw [w5 j (by omega)];exact A.p j h⟩
theorem See.op {i:Int} (hi:0≤i∧i<6):See (G29 X i) (oP V i):=by
 obtain ⟨_,w2,w3,w4,w5⟩:=Du6 A.c (i:=i) (by omega)
 exact ⟨w2,fun j h=>by rw [w3 j h];exact A.s j h,fun j h=>by rw [w4 j h];exact A.f j h,fun j h=>by rw [w5 j (by omega),A.p j h];rfl⟩
end
def U6 (V:VW) (i:Int):ProcS × Int:=if (V.S i).2=1∧(V.S i).1.state=1 then ((V.S i).1,0) else (.zero,105)
theorem See.self {X:CX} {V:VW} (A:See X V) {i:Int} (hi:0≤i∧i<8):G7 X i=U6 V i:=by unfold G7 U6;rw [A.s i hi]
def clP (V:VW) (i:Int) (q:PipeS):VW:=if q.readers+q.writers=0∧i<4 then oP V i else wP V i q
def A66 (V:VW) (f:Int):Int × VW :=
 if (V.F f).2≠1 then (105,V)
 else if (V.F f).1.refs-1>0 then (0,wF V f (Am4 (V.F f).1 (-1)))
 else if (V.F f).1.kind=3 then (0,oF V f)
 else if ¬ ((V.F f).1.pipe<6∧(V.P (V.F f).1.pipe).2=1) then (105,oF V f)
 else (0,clP (oF V f) (V.F f).1.pipe (Dn5 (V.F f).1.kind (V.P (V.F f).1.pipe).1))
theorem See.close {X:CX} {V:VW} (A:See X V) {f:Int} (hf:0≤f∧f<12):(Az8 3 X f).1=(A66 V f).1∧See (Az8 3 X f).2 (A66 V f).2:=by
 have e:=A.f f hf
 have hk:(V.F f).2=1→okF (V.F f).1=true:=fun h=>by
  rcases Gq0 A.c hf with ⟨h2,_⟩|⟨_,h2⟩
  ·rw [e,h] at h2;cases h2
  ·rw [e] at h2;exact h2
 unfold Az8 A66
 rw [e]
 by_cases h1:(V.F f).2=1
 case neg=>rw [if_pos h1,if_pos h1];exact ⟨rfl,A⟩
 have n1:¬ (V.F f).2≠1:=by simpa using h1
 rw [if_neg n1,if_neg n1]
 replace hk:=hk h1
 have hr:=At7 hk
 have hp:=G32 hk
 by_cases h2:(V.F f).1.refs-1>0
 ·rw [if_pos h2,if_pos h2]
  exact ⟨rfl,A.wf hf (Ay9 hk (n:=-1) (by omega))⟩
 rw [if_neg h2,if_neg h2]
 by_cases h3:(V.F f).1.kind=3
 ·rw [if_pos h3,if_pos h3];exact ⟨rfl,A.of hf⟩
 rw [if_neg h3,if_neg h3]
 by_cases h4:(V.F f).1.pipe<6
 case neg =>
  have n4:¬ ((V.F f).1.pipe<3+((3:Nat):Int)∧(vP X (V.F f).1.pipe).2=1):=fun h=>h4 (by have:=h.1;omega)
  have n5:¬ ((V.F f).1.pipe<6∧(V.P (V.F f).1.pipe).2=1):=fun h=>h4 h.1
  rw [if_pos n4,if_pos n5];exact ⟨rfl,A.of hf⟩
 have ep:=A.p (V.F f).1.pipe ⟨hp,h4⟩
 rw [ep]
 by_cases h5:(V.P (V.F f).1.pipe).2=1
 case neg =>
  have n4:¬ ((V.F f).1.pipe<3+((3:Nat):Int)∧(V.P (V.F f).1.pipe).2=1):=fun h=>h5 h.2
  have n5:¬ ((V.F f).1.pipe<6∧(V.P (V.F f).1.pipe).2=1):=fun h=>h5 h.2
  rw [if_pos n4,if_pos n5];exact ⟨rfl,A.of hf⟩
 have n4:¬ ¬ ((V.F f).1.pipe<3+((3:Nat):Int)∧(V.P (V.F f).1.pipe).2=1):=fun h=>h ⟨by omega,h5⟩
 have n5:¬ ¬ ((V.F f).1.pipe<6∧(V.P (V.F f).1.pipe).2=1):=fun h=>h ⟨h4,h5⟩
 rw [if_neg n4,if_neg n5]
 have hq:okP (V.P (V.F f).1.pipe).1=true:=by
  rcases Ir8 A.c (i:=(V.F f).1.pipe) (by omega) with ⟨h6,_⟩|⟨_,h6⟩
  ·rw [ep,h5] at h6;cases h6
  ·rw [ep] at h6;exact h6
 refine ⟨rfl,?_⟩
 unfold Ew3 clP
 split
 ·exact (A.of hf).op ⟨hp,h4⟩
 ·exact (A.of hf).wp ⟨hp,h4⟩ (Gs2 hq _)
def ofW (V:VW) (i fd:Int):(Int × FileS) × Int :=
 if (U6 V i).2≠0 then ((0,.zero),(U6 V i).2)
 else if Q8 (V.S i).1 fd=false then ((0,.zero),109)
 else if (V.F ((V.S i).1.fds.getD fd.toNat 0-1)).2≠1 then ((0,.zero),105)
 else (((V.S i).1.fds.getD fd.toNat 0-1,(V.F ((V.S i).1.fds.getD fd.toNat 0-1)).1),0)
theorem See.ofv {X:CX} {V:VW} (A:See X V) {i:Int} (hi:0≤i∧i<8) (fd:Int):ofV X i fd=ofW V i fd:=by
 have es:=A.self hi
 have hr:=fun h=>Ew5 A.c (i:=i) hi h fd.toNat
 unfold ofV ofW
 rw [es] at hr ⊢
 rw [A.s i hi] at hr ⊢
 by_cases h1:(U6 V i).2≠0
 ·rw [if_pos h1,if_pos h1]
 rw [if_neg h1,if_neg h1]
 by_cases h2:Q8 (V.S i).1 fd=false
 ·rw [if_pos h2,if_pos h2]
 have hn:=Bm7 (show Q8 (V.S i).1 fd=true by simpa using h2)
 have hr:=hr (by simpa using h1)
 rw [if_neg h2,if_neg h2,A.f _ (by omega)]
def En5 (V:VW) (i fd f:Int):List Value × VW :=
 if (U6 V i).2≠0 then (E5 0 (U6 V i).2 false,V) else (E5 fd 0 false,wS V i (setFd (V.S i).1 fd.toNat (f+1)))
theorem See.setFd {X:CX} {V:VW} (A:See X V) {i:Int} (hi:0≤i∧i<8) (h:(U6 V i).2=0) (j:Nat) {f:Int} (hf:0≤f∧f≤12):See (Ao0 X i (EQ.setFd (vS X i).1 j f)) (wS V i (EQ.setFd (V.S i).1 j f)):=by
 have es:=A.self hi
 obtain ⟨s1,s2,s3,s4⟩:=Aq2 A.c hi (by rw [es];exact h)
 have hin:=At9 (rd X ⟨1,i⟩)
 have:=A.ws hi (By7 s3 s2 j hf) ⟨hin.a,hin.b,hin.c,hin.d⟩
 have e:EQ.setFd (V.S i).1 j f=EQ.setFd (vS X i).1 j f:=by rw [A.s i hi]
 rw [e];exact this
theorem See.name {X:CX} {V:VW} (A:See X V) {i:Int} (hi:0≤i∧i<8) (fd:Int) {f:Int} (hf:0≤f∧f<12):(Dy0 X i fd f).1=(En5 V i fd f).1∧See (Dy0 X i fd f).2 (En5 V i fd f).2:=by
 have es:=A.self hi
 unfold Dy0 En5
 rw [es]
 by_cases h1:(U6 V i).2=0
 case neg=>rw [if_pos h1,if_pos h1];exact ⟨rfl,A⟩
 have n1:¬ (U6 V i).2≠0:=by simpa using h1
 rw [if_neg n1,if_neg n1]
 exact ⟨rfl,A.setFd hi h1 fd.toNat (by omega)⟩
def Be8 (V:VW) (i fd:Int):List Value × VW :=
 if (U6 V i).2≠0 then (E5 0 (U6 V i).2 false,V)
 else if Q8 (V.S i).1 fd=false then (E5 0 109 false,V)
 else (E5 0 (A66 (wS V i (setFd (V.S i).1 fd.toNat 0)) ((V.S i).1.fds.getD fd.toNat 0-1)).1 false,(A66 (wS V i (setFd (V.S i).1 fd.toNat 0)) ((V.S i).1.fds.getD fd.toNat 0-1)).2)
theorem See.closeFd {X:CX} {V:VW} (A:See X V) {i:Int} (hi:0≤i∧i<8) (fd:Int):(Ap6 3 X i fd).1=(Be8 V i fd).1∧See (Ap6 3 X i fd).2 (Be8 V i fd).2:=by
 have es:=A.self hi
 unfold Ap6 Be8
 have hr0:=fun h=>Ew5 A.c (i:=i) hi h fd.toNat
 rw [es] at hr0 ⊢
 by_cases h1:(U6 V i).2=0
 case neg=>rw [if_pos h1,if_pos h1];exact ⟨rfl,A⟩
 have n1:¬ (U6 V i).2≠0:=by simpa using h1
 have hr:=hr0 h1
 have B:=A.setFd hi h1 fd.toNat (f:=0) (by omega)
 rw [if_neg n1,if_neg n1]
 rw [A.s i hi] at hr B ⊢
 by_cases h2:Q8 (V.S i).1 fd=false
 ·rw [if_pos h2,if_pos h2];exact ⟨rfl,A⟩
 have hn:=Bm7 (show Q8 (V.S i).1 fd=true by simpa using h2)
 rw [if_neg h2,if_neg h2]
 have C:=B.close (f:=(V.S i).1.fds.getD fd.toNat 0-1) (by omega)
 exact ⟨by rw [C.1],C.2⟩
def H42 (V:VW) (i fd:Int):List Value × VW :=
 if (ofW V i fd).2≠0 then (E5 0 (ofW V i fd).2 false,V)
 else if (L1 (V.S i).1 1).length=0 then (E5 0 124 false,V)
 else if (ofW V i fd).1.2.refs≥64 then (E5 0 123 false,V)
 else En5 (wF V (ofW V i fd).1.1 (Am4 (ofW V i fd).1.2 1)) i ((L1 (V.S i).1 1).getD 0 0) (ofW V i fd).1.1
theorem See.dup {X:CX} {V:VW} (A:See X V) {i:Int} (hi:0≤i∧i<8) (fd:Int):(G53 X i fd).1=(H42 V i fd).1∧See (G53 X i fd).2 (H42 V i fd).2:=by
 have eo:=A.ofv hi fd
 unfold G53 H42
 have ho:=Gh9 A.c (fd:=fd) hi
 rw [eo] at ho ⊢
 by_cases h1:(ofW V i fd).2=0
 case neg=>rw [if_pos h1,if_pos h1];exact ⟨rfl,A⟩
 obtain ⟨o1,o2,o3,o4,o5,o6⟩:=ho h1
 have n1:¬ (ofW V i fd).2≠0:=by simpa using h1
 rw [if_neg n1,if_neg n1,A.s i hi]
 by_cases h2:(L1 (V.S i).1 1).length=0
 ·rw [if_pos h2,if_pos h2];exact ⟨rfl,A⟩
 rw [if_neg h2,if_neg h2]
 have hr:=At7 o6
 by_cases h3:(ofW V i fd).1.2.refs≥64
 ·rw [if_pos h3,if_pos h3];exact ⟨rfl,A⟩
 rw [if_neg h3,if_neg h3]
 exact (A.wf o4 (Ay9 o6 (n:=1) (by omega))).name hi _ o4
def Hc3 (V:VW) (i fd to:Int):List Value × VW :=
 if (ofW V i fd).2≠0 then (E5 0 (ofW V i fd).2 false,V)
 else if to<0∨to≥8 then (E5 0 109 false,V)
 else if to=fd then (E5 to 0 false,V)
 else if (ofW V i fd).1.2.refs≥64 then (E5 0 123 false,V)
 else En5 (Be8 (wF V (ofW V i fd).1.1 (Am4 (ofW V i fd).1.2 1)) i to).2 i to (ofW V i fd).1.1
theorem See.dup2 {X:CX} {V:VW} (A:See X V) {i:Int} (hi:0≤i∧i<8) (fd to:Int):(E84 3 X i fd to).1=(Hc3 V i fd to).1∧See (E84 3 X i fd to).2 (Hc3 V i fd to).2:=by
 have eo:=A.ofv hi fd
 unfold E84 Hc3
 have ho:=Gh9 A.c (fd:=fd) hi
 rw [eo] at ho ⊢
 by_cases h1:(ofW V i fd).2=0
 case neg=>rw [if_pos h1,if_pos h1];exact ⟨rfl,A⟩
 obtain ⟨o1,o2,o3,o4,o5,o6⟩:=ho h1
 have n1:¬ (ofW V i fd).2≠0:=by simpa using h1
 rw [if_neg n1,if_neg n1]
 by_cases h2:to<0∨to≥8
 ·rw [if_pos h2,if_pos h2];exact ⟨rfl,A⟩
 rw [if_neg h2,if_neg h2]
 by_cases h4:to=fd
 ·rw [if_pos h4,if_pos h4];exact ⟨rfl,A⟩
 rw [if_neg h4,if_neg h4]
 have hr:=At7 o6
 by_cases h3:(ofW V i fd).1.2.refs≥64
 ·rw [if_pos h3,if_pos h3];exact ⟨rfl,A⟩
 rw [if_neg h3,if_neg h3]
 exact ((A.wf o4 (Ay9 o6 (n:=1) (by omega))).closeFd hi to).2.name hi _ o4
theorem Dx4 {q q':Int→Bool}:∀ (m:Nat) (i:Int) (w:Nat),(∀ j:Int,i≤j→j<i+m→q j=q' j)→N0 q m i w=N0 q' m i w
 | 0,_,_,_=>rfl
 | _+1,_,0,_=>rfl
 | m+1,i,w+1,h=>by
  rw [N0,N0,h i (by omega) (by omega),Dx4 m (i+1) w fun j h1 h2=>h j (by omega) (by omega),Dx4 m (i+1) (w+1) fun j h1 h2=>h j (by omega) (by omega)]
abbrev D29 (V:VW):List Int:=N0 (fun j=>(V.F j).2==0) 12 0 2
abbrev G93 (V:VW):List Int:=N0 (fun j=>(V.P j).2==0) 4 0 1
def mkW (V:VW) (i d0 d1 f0 f1 r0:Int):VW:=wS (wF (wF (wP V r0 B12) f0 ⟨1,r0,1,0⟩) f1 ⟨2,r0,1,0⟩) i (setFd (setFd (V.S i).1 d0.toNat (f0+1)) d1.toNat (f1+1))
def Gs5 (V:VW) (i:Int):List Value × VW :=
 if (U6 V i).2≠0 then (E5 0 (U6 V i).2 false,V)
 else if (L1 (V.S i).1 2).length<2 then (E5 0 124 false,V)
 else if (D29 V).length<2∨(G93 V).length=0 then (E5 0 123 false,V)
 else (E5 ((L1 (V.S i).1 2).getD 0 0+16*(L1 (V.S i).1 2).getD 1 0) 0 false,mkW V i ((L1 (V.S i).1 2).getD 0 0) ((L1 (V.S i).1 2).getD 1 0) ((D29 V).getD 0 0) ((D29 V).getD 1 0) ((G93 V).getD 0 0))
theorem Ag9 {l:List Int} {j:Nat} (h:j<l.length):l.getD j 0 ∈ l:=by
 rw [List.getD_eq_getElem?_getD,List.getElem?_eq_getElem h];exact List.getElem_mem _
theorem See.pipe {X:CX} {V:VW} (A:See X V) {i:Int} (hi:0≤i∧i<8):(Bi9 X i).1=(Gs5 V i).1∧See (Bi9 X i).2 (Gs5 V i).2:=by
 have es:=A.self hi
 have e1:Bu3 X=D29 V:=Dx4 12 0 2 fun j h1 h2=>by rw [A.f j (by omega)]
 have e2:B33 X=G93 V:=Dx4 4 0 1 fun j h1 h2=>by rw [A.p j (by omega)]
 unfold Bi9 Gs5
 rw [e1,e2,es]
 by_cases h1:(U6 V i).2=0
 case neg=>rw [if_pos h1,if_pos h1];exact ⟨rfl,A⟩
 have n1:¬ (U6 V i).2≠0:=by simpa using h1
 rw [if_neg n1,if_neg n1,A.s i hi]
 by_cases h2:(L1 (V.S i).1 2).length<2
 ·rw [if_pos h2,if_pos h2];exact ⟨rfl,A⟩
 rw [if_neg h2,if_neg h2]
 by_cases h3:(D29 V).length<2∨(G93 V).length=0
 ·rw [if_pos h3,if_pos h3];exact ⟨rfl,A⟩
 rw [if_neg h3,if_neg h3]
 have hm:=Z6 (fun j=>(V.S i).1.fds.getD j.toNat 0==0) 8 0 2
 have hd0:=hm _ (Ag9 (l:=L1 (V.S i).1 2) (j:=0) (by omega))
 have hd1:=hm _ (Ag9 (l:=L1 (V.S i).1 2) (j:=1) (by omega))
 have hf0:=Z6 (fun j=>(V.F j).2==0) 12 0 2 _ (Ag9 (l:=D29 V) (j:=0) (by omega))
 have hf1:=Z6 (fun j=>(V.F j).2==0) 12 0 2 _ (Ag9 (l:=D29 V) (j:=1) (by omega))
 have hr:=Z6 (fun j=>(V.P j).2==0) 4 0 1 _ (Ag9 (l:=G93 V) (j:=0) (by omega))
 generalize (L1 (V.S i).1 2).getD 0 0=d0 at hd0 ⊢
 generalize (L1 (V.S i).1 2).getD 1 0=d1 at hd1 ⊢
 generalize (D29 V).getD 0 0=f0 at hf0 ⊢
 generalize (D29 V).getD 1 0=f1 at hf1 ⊢
 generalize (G93 V).getD 0 0=r0 at hr ⊢
 obtain ⟨_,_,_,_,m1,m2,m3,m4⟩:=Hv2 A.c hi (by rw [es];exact h1) (d0:=d0) (d1:=d1) (f0:=f0) (f1:=f1) (r0:=r0) (by omega) (by omega) (by omega) (by omega) (by omega) (by omega)
 refine ⟨rfl,m1,fun j hj=>?_,fun j hj=>?_,fun j hj=>?_⟩
 ·rw [m2 j hj,A.s i hi,A.s j hj];rfl
 ·rw [m3 j hj,A.f j hj];rfl
 ·rw [m4 j (by omega),A.p j hj];rfl
def Bb8 (V:VW):Nat→Int→Int
 | 0,_=>-1
 | m+1,i=>if (V.S i).2=0 then i else Bb8 V m (i+1)
theorem See.free {X:CX} {V:VW} (A:See X V):∀ (m:Nat) (i:Int),0≤i→i+m=8→Av0 X m i=Bb8 V m i
 | 0,_,_,_=>rfl
 | m+1,i,h0,hi=>by rw [Av0,Bb8,A.s i (by omega),A.free m (i+1) (by omega) (by omega)]
def Bx9 (V:VW) (more:List Int):List Int→Int
 | []=>0
 | f::l=>if f=0 then Bx9 V more l else if (V.F (f-1)).2≠1 then 105 else if (V.F (f-1)).1.refs+more.getD (f-1).toNat 0>64 then 123 else Bx9 V more l
theorem See.share {X:CX} {V:VW} (A:See X V) (more:List Int):∀ l:List Int,Bk3 l→Ak9 X more l=Bx9 V more l
 | [],_=>rfl
 | f::l,h=>by
  have hf:=h f (by simp)
  rw [Ak9,Bx9,A.share more l fun x hx=>h x (by simp [hx])]
  by_cases h0:f=0
  ·rw [if_pos h0,if_pos h0]
  ·rw [if_neg h0,if_neg h0,A.f (f-1) (by omega)]
def Du8 (V:VW) (more:List Int):VW:=⟨V.S,fun j=>if more.getD j.toNat 0≠0 then (Am4 (V.F j).1 (more.getD j.toNat 0),1) else V.F j,V.P⟩
def H04 (V:VW) (i:Int):List Value × VW :=
 if (U6 V i).2≠0 then (E5 0 (U6 V i).2 false,V)
 else if Bb8 V 8 0<0 then (E5 0 111 false,V)
 else if Bx9 V (Ap4 (V.S i).1) (V.S i).1.fds≠0 then (E5 0 (Bx9 V (Ap4 (V.S i).1) (V.S i).1.fds) false,V)
 else (E5 (Bb8 V 8 0) 0 false,wS (Du8 V (Ap4 (V.S i).1)) (Bb8 V 8 0) (W9 (V.S i).1 i))
theorem See.fork {X:CX} {V:VW} (A:See X V) {i:Int} (hi:0≤i∧i<8):(Ek2 X i).1=(H04 V i).1∧See (Ek2 X i).2 (H04 V i).2:=by
 have es:=A.self hi
 have ef:=A.free 8 0 (by omega) (by omega)
 unfold Ek2 H04
 rw [ef]
 by_cases h1:(U6 V i).2=0
 case neg=>rw [es,if_pos h1,if_pos h1];exact ⟨rfl,A⟩
 have n1:¬ (U6 V i).2≠0:=by simpa using h1
 have n2:¬ (G7 X i).2≠0:=by rw [es];exact n1
 rw [if_neg n2,if_neg n1]
 by_cases h2:Bb8 V 8 0<0
 ·rw [if_pos h2,if_pos h2];exact ⟨rfl,A⟩
 rw [if_neg h2,if_neg h2]
 obtain ⟨s1,s2,s3,s4⟩:=Aq2 A.c hi (by rw [es];exact h1)
 rw [s1]
 have hfd:=Ba3 s3
 have hin:=At9 (rd X ⟨1,i⟩)
 have esh:=A.share (Ap4 (vS X i).1) _ hfd
 have hcl:=Ge2 A.c hfd
 have hno:=fun h=>Hv5 (X:=X) (p:=(vS X i).1) h
 have hm8:Bb8 V 8 0<8:=by
  rcases Gn9 (X:=X) 8 0 (by omega) (by omega) with h|h<;>omega
 have e1:(Ac8 X (vS X i).1).1=Ak9 X (Ap4 (vS X i).1) (vS X i).1.fds:=by
  unfold Ac8;split
  ·rename_i h;exact h.symm
  ·rfl
 rw [esh] at e1
 have hck:=G62 s3 s2 hi
 have hin2:InS (W9 (vS X i).1 i):=⟨by simp,hin.b,hin.c,hin.d⟩
 simp only
 rw [e1] at hcl hno ⊢
 rw [A.s i hi] at *
 by_cases h3:Bx9 V (Ap4 (V.S i).1) (V.S i).1.fds=0
 case neg=>rw [if_pos h3,if_pos h3];exact ⟨rfl,A⟩
 have n3:¬ Bx9 V (Ap4 (V.S i).1) (V.S i).1.fds≠0:=by simpa using h3
 rw [if_neg n3,if_neg n3]
 obtain ⟨a1,a2,a3,a4⟩:=hcl h3
 refine ⟨rfl,?_⟩
 have B:See (Ac8 X (V.S i).1).2 (Du8 V (Ap4 (V.S i).1)):=⟨a1,fun j hj=>by rw [a2 j hj];exact A.s j hj,fun j hj=>by rw [a3 j hj,A.f j hj];rfl,fun j hj=>by rw [a4 j (by omega)];exact A.p j hj⟩
 exact B.ws (by omega) hck hin2
def V1:VW:=⟨fun j=>if j=0 then (p0,1) else (.zero,0),fun j=>if j=0 then (f0,1) else (.zero,0),fun j=>if j<4 then (.zero,0) else vP X1 j⟩
theorem Jj8:See X1 V1:=by
 refine ⟨H97,fun j hj=>?_,fun j hj=>?_,fun j hj=>?_⟩
 ·have:j=0∨j=1∨j=2∨j=3∨j=4∨j=5∨j=6∨j=7:=by omega
  rcases this with rfl|rfl|rfl|rfl|rfl|rfl|rfl|rfl<;>(clear hj;show (_:ProcS × Int)=_;kernel_rfl)
 ·have:j=0∨j=1∨j=2∨j=3∨j=4∨j=5∨j=6∨j=7∨j=8∨j=9∨j=10∨j=11:=by omega
  rcases this with rfl|rfl|rfl|rfl|rfl|rfl|rfl|rfl|rfl|rfl|rfl|rfl<;>(clear hj;show (_:FileS × Int)=_;kernel_rfl)
 ·by_cases h4:j<4
  ·have:j=0∨j=1∨j=2∨j=3:=by omega
   rcases this with rfl|rfl|rfl|rfl<;>(clear hj h4;show (_:PipeS × Int)=_;kernel_rfl)
  ·show _=if j<4 then _ else vP X1 j
   rw [if_neg h4]
abbrev J18 (ow:List Int) (h:ow.length=8):ProcS:=⟨1,0,0,0,0,0,0,0,ow,h⟩
def kd (j:Int):Int:=if j=0 then 3 else j
def J32 (j n:Int):FileS × Int:=if n>0 then (⟨kd j,0,n,0⟩,1) else (.zero,0)
def pO (a b:Int):PipeS:=⟨0,0,min a 1,min b 1,[0,0,0,0,0,0,0,0,0,0,0,0,0,0,0,0,0,0,0,0,0,0,0,0,0,0,0,0,0,0,0,0],rfl⟩
def J33 (a b:Int):PipeS × Int:=if a>0∨b>0 then (pO a b,1) else (.zero,0)
def J35 (ow:List Int) (h:ow.length=8) (r:Int→Int):VW :=
 ⟨fun j=>if j=0 then (J18 ow h,1) else (.zero,0),fun j=>if 0≤j∧j<3 then J32 j (r (j+1)) else (.zero,0),fun j=>if j=0 then J33 (r 2) (r 3) else if j<4 then (.zero,0) else vP X1 j⟩
abbrev rr (r:Int→Int) (v d:Int):Int→Int:=fun k=>if k=v then r k+d else r k
theorem VW.ext' {V V':VW} (h1:∀ j,V.S j=V'.S j) (h2:∀ j,V.F j=V'.F j) (h3:∀ j,V.P j=V'.P j):V=V':=by
 obtain ⟨a,b,c⟩:=V
 obtain ⟨a',b',c'⟩:=V'
 have e1:a=a':=funext h1
 have e2:b=b':=funext h2
 have e3:c=c':=funext h3
 rw [e1,e2,e3]
section
variable {ow:List Int} {h:ow.length=8} {r:Int→Int}
end
def cnt (v:Int):List Int→Int
 | []=>0
 | x::l=>(if x=v then 1 else 0)+cnt v l
theorem Hk6 (v:Int):∀ l:List Int,0≤cnt v l∧cnt v l≤l.length
 | []=>by simp [cnt]
 | x::l=>by
  have:=Hk6 v l
  unfold cnt;rw [List.length_cons];split<;>omega
theorem Io1 (v:Int):∀ (l:List Int) (j:Nat),j<l.length→l.getD j 0=v→1≤cnt v l
 | [],j,h,_=>by simp at h
 | x::l,0,_,e=>by
  have:=Hk6 v l
  rw [List.getD_cons_zero] at e
  unfold cnt;rw [if_pos e];omega
 | x::l,j+1,h,e=>by
  rw [List.getD_cons_succ] at e
  have:=Io1 v l j (by simpa using h) e
  unfold cnt;split<;>omega
theorem In9 (v w:Int):∀ (l:List Int) (j:Nat),j<l.length→cnt v (l.set j w)=cnt v l-(if l.getD j 0=v then 1 else 0)+(if w=v then 1 else 0)
 | [],j,h=>by simp at h
 | x::l,0,_=>by
  rw [List.set_cons_zero,List.getD_cons_zero,cnt,cnt];omega
 | x::l,j+1,h=>by
  have:=In9 v w l j (by simpa using h)
  rw [List.set_cons_succ,List.getD_cons_succ,cnt,cnt,this];omega
theorem I27 (l:List Int) (j n:Nat) (w:Int) (h:j<l.length):(l.set j w).getD n 0=if n=j then w else l.getD n 0:=by
 rw [List.getD_eq_getElem?_getD,List.getD_eq_getElem?_getD,List.getElem?_set]
 by_cases hj:j=n
 ·subst hj;simp [h]
 ·rw [if_neg hj,if_neg (fun e=>hj e.symm)]
structure Own8 (ow:List Int) (r:Int→Int):Prop where
 len:ow.length=8
 rng:∀ j:Nat,0≤ow.getD j 0∧ow.getD j 0≤3
 ct:∀ v:Int,1≤v→v≤3→r v=cnt v ow
theorem Own8.pos {ow:List Int} {r:Int→Int} (I:Own8 ow r) {j:Nat} (hj:j<8) (h:ow.getD j 0>0):1≤r (ow.getD j 0):=by
 rw [I.ct _ (by omega) (I.rng j).2];exact Io1 _ _ j (by rw [I.len];exact hj) rfl
theorem Own8.nn {ow:List Int} {r:Int→Int} (I:Own8 ow r) {v:Int} (h:1≤v∧v≤3):0≤r v∧r v≤8:=by
 rw [I.ct v h.1 h.2];have:=Hk6 v ow;have:=I.len;omega
theorem Own8.set {ow:List Int} {r:Int→Int} (I:Own8 ow r) {j:Nat} (hj:j<8) {w:Int} (hw:0≤w∧w≤3) {r':Int→Int} (hr:∀ v:Int,1≤v→v≤3→r' v=r v-(if ow.getD j 0=v then 1 else 0)+(if w=v then 1 else 0)):Own8 (ow.set j w) r':=by
 refine ⟨by rw [List.length_set];exact I.len,fun n=>?_,fun v h1 h2=>?_⟩
 ·rw [I27 _ _ _ _ (by rw [I.len];exact hj)]
  split
  ·exact hw
  ·exact I.rng n
 ·rw [hr v h1 h2,In9 _ _ _ _ (by rw [I.len];exact hj),I.ct v h1 h2]
section
variable {ow:List Int} {h:ow.length=8} {r:Int→Int} (I:Own8 ow r)
include I
def r2 (r:Int→Int) (w v:Int):Int→Int:=rr (if w>0 then rr r w (-1) else r) v 1
end
def ow0:List Int:=[1,2,3,0,0,0,0,0]
def VD:VW:=J35 ow0 rfl (fun _=>1)
theorem J23:(Gs5 V1 0).1=E5 33 0 false:=by kernel_rfl
theorem J27:See (Bi9 X1 0).2 VD:=by
 refine (Jj8.pipe (i:=0) (by omega)).2.to (fun j hj=>?_) (fun j hj=>?_) fun j hj=>?_
 ·have:j=0∨j=1∨j=2∨j=3∨j=4∨j=5∨j=6∨j=7:=by omega
  rcases this with rfl|rfl|rfl|rfl|rfl|rfl|rfl|rfl<;>(clear hj;show (_:ProcS × Int)=_;kernel_rfl)
 ·have:j=0∨j=1∨j=2∨j=3∨j=4∨j=5∨j=6∨j=7∨j=8∨j=9∨j=10∨j=11:=by omega
  rcases this with rfl|rfl|rfl|rfl|rfl|rfl|rfl|rfl|rfl|rfl|rfl|rfl<;>(clear hj;show (_:FileS × Int)=_;kernel_rfl)
 ·have:j=0∨j=1∨j=2∨j=3∨j=4∨j=5:=by omega
  rcases this with rfl|rfl|rfl|rfl|rfl|rfl<;>(clear hj;show (_:PipeS × Int)=_;kernel_rfl)
theorem Ju9:(Bi9 X1 0).1=E5 33 0 false:=(Jj8.pipe (i:=0) (by omega)).1.trans J23
def XD:CX:=(Bi9 X1 0).2
theorem Jh9:See XD VD:=J27
theorem Jo0 {α:Type} (k:Bool→Option α):B54 PR B7 [int 1,int 0,int 1,int 0] [int 1,int 0,int 1,int 0] k=k true:=by kernel_rfl
theorem Iu9:Ct A5 Db0 [] [] fun v own=>v=.bool true∧own []:=by
 have q1:(Ap6 3 XD 0 5).1=E5 0 109 false:=(Jh9.closeFd (i:=0) (by omega) 5).1.trans (by kernel_rfl)
 have s1:=(Jh9.closeFd (i:=0) (by omega) 5).2
 have q2:ofV (Ap6 3 XD 0 5).2 0 1=((1,⟨1,0,1,0⟩),0):=(s1.ofv (i:=0) (by omega) 1).trans (by kernel_rfl)
 generalize hY:(Ap6 3 XD 0 5).2=Y at q2 s1
 refine Ct.of Hy6 rfl fun h r=>Tr.eq (Hy5 ..) ?_;refine Je ?_
 refine Yc (H85) ?_;rintro _ h ⟨a,rfl,o⟩<;>refine Jh o ?_
 (refine Ja ?_;unhygienic intros)
 refine Yc (Io0 a) ?_
 rintro _ h ⟨k,c,w,m,K',rfl,o⟩
 refine Jh o ?_
 (refine Ja ?_;unhygienic intros)
 refine Yc (Ie8 c k F1 X1 Au8 H97 0 (by omega)) ?_;rintro _ h ⟨rfl,o⟩<;>refine Jh o ?_
 rw [Ju9,show (Bi9 X1 0).2=XD from rfl]
 (refine Jc ?_;unhygienic intros)
 refine Yn fun b1 h=>?_
 (refine Ja ?_;unhygienic intros)
 refine Yc (Ge0 c k F1 XD Au8 Jh9.c 0 5 (by omega)) ?_;rintro _ h ⟨rfl,o⟩<;>refine Jh o ?_
 rw [q1,hY]
 (refine Jc ?_;unhygienic intros)
 refine Yn fun b2 h=>?_
 (refine Ja ?_;unhygienic intros)
 refine Yc (H03 c k F1 Y Au8 s1.c 0 1 (by omega)) ?_;rintro _ h ⟨rfl,o⟩<;>refine Jh o ?_
 rw [q2]
 dsimp only
 (refine Jc ?_;unhygienic intros)
 refine Yn fun b3 h=>?_
 (refine Jb ?_;unhygienic intros)
 refine Yb (Yt rfl ?_)
 (refine Jb ?_;unhygienic intros)
 refine Ys fun o=>(?_:Tr _ _ _ _) o;refine Je ?_
 refine Yb (Yt rfl ?_)
 (refine Jb ?_;unhygienic intros)
 refine Ys fun o=>(?_:Tr _ _ _ _) o;refine Je ?_
 refine Yb (Yt rfl ?_)
 refine Ys fun o=>(?_:Tr _ _ _ _) o;refine Je ?_
 refine Yb (Yt rfl ?_)
 (refine Jb ?_;unhygienic intros)
 refine (?_:Tr _ _ (B54 PR B7 [int 1,int 0,int 1,int 0] [int 1,int 0,int 1,int 0] _) _)
 rw [Jo0]
 refine Ys fun o=>(?_:Tr _ _ _ _) o;refine Je ?_
 refine Yb (Yt rfl ?_)
 refine Ys fun o=>(?_:Tr _ _ _ _) o;refine Je ?_
 refine Ys fun o=>?_
 exact ⟨rfl,o.sub⟩
abbrev H05 (x:FileS) (n:Int):FileS:=⟨x.kind,x.pipe,x.refs,n⟩
theorem Iq2 {x:FileS} (h:okF x=true) {n:Int} (hn:n=0∨n=1):okF (H05 x n)=true:=by
 simp only [okF,Bool.and_eq_true,Bool.or_eq_true,decide_eq_true_eq,beq_iff_eq,bne_iff_ne] at h ⊢
 omega
def Hl2 (V:VW) (i fd on:Int):List Value × VW :=
 if (ofW V i fd).2≠0 then (E5 0 (ofW V i fd).2 false,V)
 else if ¬ (on=0∨on=1) then (E5 0 122 false,V)
 else (E5 0 0 false,wF V (ofW V i fd).1.1 (H05 (ofW V i fd).1.2 on))
theorem Jr9 (c k:Nat) (F:Fr) (X:CX) (ok:FrOk F) (V:VW) (A:See X V) (i fd on:Int) (hi:0≤i∧i<8) :
  Ct A5 Dh1 [P0 c,int i,int fd,int on] [cmC c k F X] fun v own=>∃ X',See X' (Hl2 V i fd on).2∧v=.agg ⟨(Hl2 V i fd on).1⟩∧own [cmC c k F X']:=by
 have eo:=A.ofv hi fd
 have ho:=Gh9 A.c (fd:=fd) hi
 rw [eo] at ho
 unfold Hl2
 refine Ct.of Hs2 rfl fun h r=>Tr.eq (Hs5 ..) ?_;refine Je ?_
 refine Yn fun b0 h=>?_
 refine Yc (H03 c k F X ok A.c i fd hi) ?_;rintro _ h ⟨rfl,o⟩<;>refine Jh o ?_
 rw [eo]
 (refine Jc ?_;intros)
 refine Yn fun b1 h=>?_
 (refine Jb ?_;intros)
 by_cases h1:(ofW V i fd).2=0
 case neg =>
  rw [if_pos h1]
  refine Yt (by simpa using h1) ?_
  refine Yc (P7 (ofW V i fd).2) ?_;rintro _ h ⟨rfl,o⟩<;>(refine Jf o ?_;intros)
  refine Ys fun o=>?_
  exact ⟨X,A,rfl,o.sub⟩
 obtain ⟨o1,o2,o3,o4,o5,o6⟩:=ho h1
 have n1:¬ (ofW V i fd).2≠0:=by simpa using h1
 rw [if_neg n1]
 refine Yf (by simpa using h1) ?_
 generalize (ofW V i fd).1.1=f at *
 generalize (ofW V i fd).1.2=x at *
 refine Yn fun b2 h=>?_
 refine Ai1 0 rfl 1 2 rfl (by omega) ?_
 refine (?_:Tr (slC false A6 1 (some ⟨b2,0,none⟩) ([0,1]:List Int).length 2 (([0,1]:List Int).map int)::_::cmC c k F X::_) _ _ _)
 refine Tr.pcall (Dy4 (slC false A6 1 (some ⟨b2,0,none⟩) ([0,1]:List Int).length 2 (([0,1]:List Int).map int)) (some ⟨b2,0,none⟩) false 2 [0,1] on (by simp [A7])) ?_;refine Je ?_;(refine Jb ?_;intros)
 by_cases h2:on=0∨on=1
 case neg =>
  rw [if_pos h2]
  refine Yt (by simpa using h2) ?_
  refine Yc (P7 122) ?_;rintro _ h ⟨rfl,o⟩<;>(refine Jf o ?_;intros)
  refine Ys fun o=>?_
  exact ⟨X,A,rfl,o.sub⟩
 have n2:¬ ¬ (on=0∨on=1):=fun h=>h h2
 rw [if_neg n2]
 refine Yf (by rw [decide_eq_true (show on ∈ ([0,1]:List Int) by simpa using h2)];rfl) ?_
 have hok:=Iq2 o6 h2
 obtain ⟨w1,_⟩:=S6 A.c o4 hok
 have hw:=A.wf o4 hok
 (refine Ja ?_;intros)
 simp only [List.set_cons_succ,List.set_cons_zero]
 (refine Ja ?_;intros)
 refine (?_:Tr _ _ (bnd (A5 G9 [P0 c,int f,.agg ⟨Ab1 (H05 x on)⟩] _) _) _)
 generalize H05 x on=x2 at *
 refine Yc (Bt9 c k F X ok f x2) ?_;rintro _ h ⟨rfl,o⟩<;>refine Jh o ?_
 rw [w1]
 dsimp only
 (refine Ja ?_;intros)
 refine Yc (G28 true 0) ?_;rintro _ h ⟨rfl,o⟩<;>refine Jh o ?_
 rw [if_pos trivial]
 (refine Ja ?_;intros)
 refine Ys fun o=>?_
 exact ⟨setF X f x2,hw,rfl,o.sub⟩
abbrev inG (g:Int):Int→ProcS→Bool:=fun _ p=>p.state != 2 && p.group==g
abbrev J34 (X:CX) (g:Int):Bool:=decide ((M8 X (inG g) 8 0).length>0)
abbrev J09:List Value:=[int 0,int 0,int 0,int 0,int 0,int 0,int 0,int 0,int 0,int 0,int 0,int 0,int 0,int 0,int 0,int 0]
def Hc1 (X:CX) (i t:Int):Int :=
 if t=i then 0 else if (vS X t).2≠1∨(vS X t).1.parent≠i+1∨(vS X t).1.state=2 then 103 else 0
abbrev Jw5 (p:ProcS) (g:Int):ProcS:=⟨p.state,p.parent,g,p.code,p.pending,p.mask,p.ignored,p.caught,p.fds,p.len⟩
theorem Ir1 {p:ProcS} (h:okS p=true) {g:Int} (hg:0≤g∧g<8):okS (Jw5 p g)=true:=by
 unfold okS at h ⊢
 simp only [Bool.and_eq_true,Bool.not_eq_true',Bool.or_eq_false_iff,decide_eq_false_iff_not] at h ⊢
 obtain ⟨⟨⟨⟨⟨⟨⟨⟨a1,a2⟩,a3⟩,a4⟩,a5⟩,a6⟩,a7⟩,a8⟩,b,d⟩:=h
 exact ⟨⟨⟨⟨⟨⟨⟨⟨a1,a2⟩,a3⟩,a4⟩,by show ¬ g<0;omega⟩,by show ¬ g≥8;omega⟩,a7⟩,a8⟩,b,d⟩
def Jb9 (X:CX) (i t g:Int):List Value × CX :=
 if (G7 X i).2≠0 then (E5 0 (G7 X i).2 false,X)
 else if ¬ ((0≤t∧t<8)∧(0≤g∧g<8)) then (E5 0 122 false,X)
 else if Hc1 X i t≠0 then (E5 0 (Hc1 X i t) false,X)
 else if g≠t∧J34 X g=false then (E5 0 101 false,X)
 else (E5 0 0 false,Ao0 X t (Jw5 (vS X t).1 g))
def Dl1 (V:VW) (q:Int→ProcS→Bool):Nat→Int→List (Int × ProcS)
 | 0,_=>[]
 | m+1,i=>if (V.S i).2=1∧q i (V.S i).1=true then (i,(V.S i).1)::Dl1 V q m (i+1) else Dl1 V q m (i+1)
theorem See.slots {X V} (A:See X V) (q:Int→ProcS→Bool):∀ (m:Nat) (i:Int),0≤i→i+m≤8→M8 X q m i=Dl1 V q m i
 | 0,_,_,_=>rfl
 | m+1,i,h0,hm=>by rw [M8,Dl1,A.slots q m (i+1) (by omega) (by omega),A.s i (by omega)]
abbrev Dt0 (n:Int):Int:=2 ^ n.toNat
theorem Jz4 {P:Int→Prop} {n:Int} (h:1≤n∧n≤15) (h1:P 1) (h2:P 2) (h3:P 3) (h4:P 4) (h5:P 5) (h6:P 6) (h7:P 7) (h8:P 8) (h9:P 9) (h10:P 10) (h11:P 11) (h12:P 12) (h13:P 13) (h14:P 14) (h15:P 15):P n:=by
 have:n=1∨n=2∨n=3∨n=4∨n=5∨n=6∨n=7∨n=8∨n=9∨n=10∨n=11∨n=12∨n=13∨n=14∨n=15:=by omega
 rcases this with rfl|rfl|rfl|rfl|rfl|rfl|rfl|rfl|rfl|rfl|rfl|rfl|rfl|rfl|rfl<;>assumption
theorem Jz5 {n:Int} (h:1≤n∧n≤15):BitVec.ofInt 64 (Dt0 n) &&& ~~~ BitVec.ofInt 64 65534=0#64:=by
 refine Jz4 (P:=fun n=>BitVec.ofInt 64 (Dt0 n) &&& ~~~ BitVec.ofInt 64 65534=0#64) h ?_ ?_ ?_ ?_ ?_ ?_ ?_ ?_ ?_ ?_ ?_ ?_ ?_ ?_ ?_<;>decide
theorem J30 (a b:Int):BitVec.ofInt 64 (Ei0 .i64 a b)=BitVec.ofInt 64 a ||| BitVec.ofInt 64 b:=by
 unfold Ei0;rw [Hm3];exact H55 _
theorem bv7 {x b m:BitVec 64} (h:x &&& ~~~ m=0#64) (h2:b &&& ~~~ m=0#64):(x ||| b) &&& ~~~ m=0#64:=by
 rw [show (x ||| b) &&& ~~~ m=(x &&& ~~~ m) ||| (b &&& ~~~ m) from ?_,h,h2];rfl
 apply BitVec.eq_of_getLsbD_eq;intro i hi
 simp only [BitVec.getLsbD_and,BitVec.getLsbD_or,BitVec.getLsbD_not]
 cases x.getLsbD i<;>cases b.getLsbD i<;>simp
theorem bv8 {x m:BitVec 64} (c:BitVec 64) (h:x &&& ~~~ m=0#64):(x &&& ~~~ c) &&& ~~~ m=0#64:=by
 rw [show (x &&& ~~~ c) &&& ~~~ m=(x &&& ~~~ m) &&& ~~~ c from ?_,h];simp
 apply BitVec.eq_of_getLsbD_eq;intro i hi
 simp only [BitVec.getLsbD_and,BitVec.getLsbD_not,decide_eq_true hi,Bool.true_and]
 cases x.getLsbD i<;>cases c.getLsbD i<;>cases m.getLsbD i<;>rfl
abbrev De3 (y:Int):Prop:=BitVec.ofInt 64 y &&& ~~~ BitVec.ofInt 64 65534=0#64
theorem Jt8 {y:Int} (h:Db5 y 0=true):De3 y:=by
 unfold Db5 at h
 simp only [Bool.and_eq_true,beq_iff_eq] at h
 unfold De3
 rw [← Jv9,h.1];rfl
theorem I45 {y:Int} (h:De3 y):Db5 y 0=true:=by
 unfold Db5
 rw [Jv1 h,Jw1 (by simp)];rfl
theorem H18 {x:BitVec 64} (h:De3 (IntKind.wrap .i64 x.toNat)):0≤IntKind.wrap .i64 (x.toNat:Int)∧IntKind.wrap .i64 (x.toNat:Int)≤65535:=by
 unfold De3 at h
 rw [Hm3,H55] at h
 have e:x=x &&& BitVec.ofInt 64 65534:=by
  apply BitVec.eq_of_getLsbD_eq;intro i hi
  have:=congrArg (fun z=>z.getLsbD i) h
  simp only [BitVec.getLsbD_and,BitVec.getLsbD_not,BitVec.getLsbD_zero,decide_eq_true hi,Bool.true_and] at this ⊢
  revert this
  generalize x.getLsbD i=u
  generalize (BitVec.ofInt 64 65534).getLsbD i=w
  cases u<;>cases w<;>decide
 have h2:x.toNat≤65534:=by
  rw [e,BitVec.toNat_and];exact Nat.and_le_right
 rw [B3];omega
theorem Jw7 {y n:Int} (h:De3 y) (hn:1≤n∧n≤15):De3 (Ei0 .i64 y (Dt0 n))∧0≤Ei0 .i64 y (Dt0 n)∧Ei0 .i64 y (Dt0 n)≤65535:=by
 have k:De3 (Ei0 .i64 y (Dt0 n)):=by unfold De3;rw [J30];exact bv7 h (Jz5 hn)
 exact ⟨k,H18 k⟩
theorem I34 {y:Int} (h:De3 y) (c:Int):De3 (Bv3 .i64 y c)∧0≤Bv3 .i64 y c∧Bv3 .i64 y c≤65535:=by
 have k:De3 (Bv3 .i64 y c):=by unfold De3;rw [Jv9];exact bv8 _ h
 exact ⟨k,H18 k⟩
abbrev Jy6 (p:ProcS) (s n:Int):ProcS:=⟨s,p.parent,p.group,p.code,n,p.mask,p.ignored,p.caught,p.fds,p.len⟩
abbrev E50 (p:ProcS) (n:Int):Int:=if V5 .i64 p.ignored (Dt0 n)=0∨V5 .i64 (Dt0 n) 16896≠0 then Ei0 .i64 p.pending (Dt0 n) else p.pending
abbrev Gs3 (p:ProcS) (n:Int):Int:=if Dt0 n=32768 then Bv3 .i64 (E50 p n) 16384 else if Dt0 n=16384 then Bv3 .i64 (E50 p n) 32768 else E50 p n
abbrev st2 (p:ProcS) (n:Int):Int:=if (Dt0 n=512∨Dt0 n=32768)∧p.state=3 then 1 else p.state
abbrev Ib4 (p:ProcS) (n:Int):Prop:=(1≤n∧n≤15)∧(p.state=1∨p.state=3)
def Ey3 (p:ProcS) (n:Int):ProcS:=Jy6 p (st2 p n) (Gs3 p n)
theorem H44 {p:ProcS} (h:okS p=true) (r:InS p) {n:Int} (c:Ib4 p n):okS (Ey3 p n)=true∧InS (Ey3 p n):=by
 obtain ⟨hn,hs⟩:=c
 unfold okS at h
 rw [if_neg (by omega)] at h
 simp only [Bool.and_eq_true,Bool.not_eq_true',Bool.or_eq_false_iff,decide_eq_false_iff_not] at h
 obtain ⟨⟨⟨⟨⟨⟨⟨⟨a1,a2⟩,a3⟩,a4⟩,a5⟩,a6⟩,a7⟩,a8⟩,⟨⟨⟨⟨b1,b2⟩,b3⟩,b4⟩,b5⟩,d1,d2⟩:=h
 have i0:=Jt8 (by simpa using b1)
 have i1:De3 (E50 p n)∧0≤E50 p n∧E50 p n≤65535:=by
  unfold E50;split
  ·exact Jw7 i0 hn
  ·exact ⟨i0,r.a⟩
 have i2:De3 (Gs3 p n)∧0≤Gs3 p n∧Gs3 p n≤65535:=by
  unfold Gs3;split
  ·exact I34 i1.1 _
  ·split
   ·exact I34 i1.1 _
   ·exact i1
 have hst:st2 p n=1∨st2 p n=3:=by unfold st2;split<;>omega
 refine ⟨?_,⟨i2.2,r.b,r.c,r.d⟩⟩
 unfold okS
 rw [if_neg (show ¬ (Ey3 p n).state=2 by show ¬ st2 p n=2;omega)]
 simp only [Bool.and_eq_true,Bool.not_eq_true',Bool.or_eq_false_iff,decide_eq_false_iff_not]
 refine ⟨⟨⟨⟨⟨⟨⟨⟨?_,?_⟩,a3⟩,a4⟩,a5⟩,a6⟩,a7⟩,a8⟩,⟨⟨⟨⟨?_,b2⟩,b3⟩,b4⟩,b5⟩,d1,d2⟩
 ·show ¬ st2 p n<1;omega
 ·show ¬ st2 p n>3;omega
 ·show (!Db5 (Gs3 p n) 0)=false;rw [I45 i2.1];rfl
def Hh0 (X:CX) (t:Int):List (Int × ProcS):=if t≥8 then M8 X (inG (t-8)) 8 0 else if (vS X t).2=0 then [] else [(t,(vS X t).1)]
theorem Gh2 {X:CX} (q:Int→ProcS→Bool):∀ (m:Nat) (i:Int),∀ s ∈ M8 X q m i,InS s.2
 | 0,i,s,hs=>by simp [M8] at hs
 | m+1,i,s,hs=>by
  rw [M8] at hs
  split at hs
  ·rcases List.mem_cons.1 hs with rfl|h2
   ·exact At9 _
   ·exact Gh2 q m (i+1) s h2
  ·exact Gh2 q m (i+1) s hs
theorem Jd9 {nc:Nat} {X:CX} (c:Clean nc X) {t:Int} (ht:0≤t∧t≤15):∀ s ∈ Hh0 X t,(0≤s.1∧s.1<8)∧okS s.2=true∧InS s.2:=by
 intro s hs
 unfold Hh0 at hs
 split at hs
 ·obtain ⟨h1,h2,h3⟩:=D75 c _ 8 0 (by omega) (by omega) s hs
  exact ⟨⟨h1,h2⟩,h3,Gh2 _ 8 0 s hs⟩
 ·split at hs
  ·cases hs
  ·rename_i h8 h0
   rw [List.mem_singleton] at hs
   subst hs
   refine ⟨⟨ht.1,by simp only;omega⟩,?_,At9 _⟩
   rcases Ez8 c (i:=t) (by omega) with ⟨h1,_⟩|⟨_,h2⟩
   ·exact absurd h1 h0
   ·exact h2
def Gs6 (X:CX) (n:Int):List (Int × ProcS)→CX
 | []=>X
 | s::l=>Gs6 (if Ib4 s.2 n then Ao0 X s.1 (Ey3 s.2 n) else X) n l
def I44 (L:List (Int × ProcS)):Prop:=∀ s ∈ L,(0≤s.1∧s.1<8)∧okS s.2=true∧InS s.2
instance {j:Int} {p:ProcS}:PartC (int j::B8 p) 1 16 (B8 p):=⟨by
 unfold Da9
 rw [Nat.ble_eq_true_of_le (by rw [Av6];omega),List.drop_succ_cons,List.drop_zero,List.take_of_length_le (by rw [Ah9];omega)];rfl⟩
def Jn1 (X:CX) (i t n:Int):List Value × CX :=
 if (G7 X i).2≠0 then (E5 0 (G7 X i).2 false,X)
 else if t<0∨t>15∨n<0∨n>15 then (E5 0 122 false,X)
 else if (Hh0 X t).length=0 then (E5 0 103 false,X)
 else (E5 0 0 false,Gs6 X n (Hh0 X t))
end Go.EQ
